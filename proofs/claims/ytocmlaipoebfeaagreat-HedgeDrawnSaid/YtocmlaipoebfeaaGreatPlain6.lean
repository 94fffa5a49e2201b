/- A part of the proof of HedgeDrawn of layer 22: what the functions compute, in plain words. -/
import Derived.Test.YtocmlaipoebfeaaGreatPlain5
set_option linter.all false
section
namespace VM
open Go VM.F
def jz(s p a:Int):Int:=if s=2 then a-p else p-a
def yn(q s p a:Int):Int:=if jz s p a<0 then 0 else q*jz s p a
def ah0(o:ck)(a:Int):Int:=yn (oQ o) o.2.2.2.1 o.2.2.2.2.2.1 a
def kv(o:ck)(a:Int):Int×Int:=if ff o∧bo a then(ah0 o a,0)else(0,1)
theorem Ib{q s p a:Int}(hq:1≤q∧q≤1000000000)(hp:bo p)(ha:bo a): -1000000000000000000000≤q*jz s p a∧q*jz s p a≤1000000000000000000000∧(q*jz s p a<0↔jz s p a<0)∧ -1000000000000≤jz s p a∧jz s p a≤1000000000000:=by
 have hd: -1000000000000≤jz s p a∧jz s p a≤1000000000000:=by
  unfold jz bo at*
  split<;>omega
 generalize jz s p a=d at*
 have h1: -(q*1000000000000)≤q*d:=by
  rw[←Int.mul_neg];exact Int.mul_le_mul_of_nonneg_left (by omega) (by omega)
 have h2:q*d≤q*1000000000000:=Int.mul_le_mul_of_nonneg_left (by omega) (by omega)
 refine⟨by omega,by omega,⟨fun h=> ?_,fun h=> ?_⟩,hd⟩
 ·by_cases h0:d<0
  ·exact h0
  ·have:=Int.mul_nonneg (a:=q) (b:=d) (by omega) (by omega)
   omega
 ·have:q*d≤q*(-1):=Int.mul_le_mul_of_nonneg_left (by omega) (by omega)
  omega
theorem DT(o:ck)(a:Int):0≤(kv o a).1∧(kv o a).1≤1000000000000000000000:=by
 unfold kv
 by_cases h:ff o∧bo a
 ·rw[if_pos h]
  obtain⟨ho,ha⟩:=h
  unfold ff kW at ho
  have:=Ib (s:=o.2.2.2.1) (q:=oQ o) ho.2.2.2.2.1 ho.2.2.2.2.2 ha
  show 0≤yn _ _ _ _∧yn _ _ _ _≤_
  unfold yn
  split<;>omega
 ·rw[if_neg h];decide
def RI(b:af)(a:Int):br:=(dL b.2.1 a).1
def tM(b:af)(a:Int):Int:=(RI b a).2.2.2.1
def RJ(b:af)(a:Int):Int:=lP b.1 (RI b a).2.1
def iL(b:af)(o:ck):ah:=o7 (b.2.2.2.2.2.1++[o]) o.2.1
def wa(c:aa)(b:af)(o:ck):Int:=
 if tM b o.2.1<(mP c (posOf b.2.2.2.1 o.2.1) (iL b o) (oI o)).1 then 9 else
 if q9 b.2.2.1 5 o.2.1-(kv o (b.2.2.2.2.1.getD (oI o).toNat 0)).1<(fj c (posOf b.2.2.2.1 o.2.1) (iL b o)).1 then 10 else 0
def lC(c:aa)(b:af)(o:ck):Int:=
 if bV c b then(if ff o then(if(dL b.2.1 o.2.1).2 then(if RJ b o.2.1=1 then(if(c.1.length:Int)≤oI o then 3 else wa c b o)else 7)else 3)else 1)else 1
theorem OR(N:Nat){q s p a:Int}(hq:1≤q∧q≤1000000000)(hp:bo p)(ha:bo a):((Co N q (W .i64 (p-a))).bind fun r4=>cond (ay s 2) ((Co N q (W .i64 (a-p))).bind fun r6=>(Pz N r6).bind fun r7=>cond (aG r7 0) (some (bI,(0:Int))) (some (r6,(0:Int)))) ((Pz N r4).bind fun r8=>cond (aG r8 0) (some (bI,(0:Int))) (some (r4,(0:Int)))))=some (bg (yn q s p a),0):=by
 have hn:=Ib (s:=s) hq hp ha
 unfold bo at hp ha
 have hs: ∀d:Int,lL (q*d)<0↔q*d<0:=fun d=>by unfold lL;split<;>(try split)<;>omega
 rw[al (x:=p-a) (by omega) (by omega),vu N (by omega) (by omega) (by omega) (by omega),Option.bind_some,au,al (x:=a-p) (by omega) (by omega),vu N (by omega) (by omega) (by omega) (by omega),Option.bind_some,nP,nP,Option.bind_some,Option.bind_some,aJ,aJ]
 unfold yn
 by_cases h:s=2
 ·have e:jz s p a=a-p:=by unfold jz;rw[if_pos h]
  rw[if_pos h]
  rw[e]at hn ⊢
  have:=hs (a-p)
  by_cases h1:a-p<0
  ·rw[if_pos h1,if_pos (this.2 (hn.2.2.1.2 h1))];rfl
  ·rw[if_neg h1,if_neg (fun k=>h1 (hn.2.2.1.1 (this.1 k)))]
 ·have e:jz s p a=p-a:=by unfold jz;rw[if_neg h]
  rw[if_neg h]
  rw[e]at hn ⊢
  have:=hs (p-a)
  by_cases h1:p-a<0
  ·rw[if_pos h1,if_pos (this.2 (hn.2.2.1.2 h1))];rfl
  ·rw[if_neg h1,if_neg (fun k=>h1 (hn.2.2.1.1 (this.1 k)))]
theorem UZ(N:Nat)(o:ck)(a:Int):RK N o a=some (bg (kv o a).1,(kv o a).2):=by
 unfold RK kv
 rw[KJ,Option.bind_some,cond_not,ct,qH,Option.bind_some,cond_not,ct]
 by_cases ho:ff o
 ·rw[if_pos ho]
  by_cases ha:bo a
  ·rw[if_pos ha,if_pos ⟨ho,ha⟩]
   unfold ff kW at ho
   exact OR N ho.2.2.2.2.1 ho.2.2.2.2.2 ha
  ·rw[if_neg ha,if_neg (fun h=>ha h.2)];rfl
 ·rw[if_neg ho,if_neg (fun h=>ho h.1)];rfl
theorem Ll(N:Nat)(hN:4000000≤N){q s p a:Int}(hq:1≤q∧q≤1000000000)(hp:bo p)(ha:bo a):(let v3:Int:=W .i64 (p-a);cond (ay s 2) (let v4:Int:=W .i64 (a-p);cond (aG v4 0) (some (bn 0,(0:Int))) ((fN N q).bind fun r5=>(fN N v4).bind fun r6=>(fZ N r5 r6).bind fun r7=>some (r7,(0:Int)))) (cond (aG v3 0) (some (bn 0,(0:Int))) ((fN N q).bind fun r8=>(fN N v3).bind fun r9=>(fZ N r8 r9).bind fun gu=>some (gu,(0:Int)))))=some (bn (yn q s p a),0):=by
 unfold bo at hp ha
 have f: ∀x:Int,-9223372036854775808≤x→x<9223372036854775808→Fit x 90000:=fun x h1 h2=>(Fit.i64 h1 h2).mono (by omega)
 dsimp only
 rw[al (x:=p-a) (by omega) (by omega),al (x:=a-p) (by omega) (by omega),au,aJ,aJ,cj N (by omega) (by omega) (by omega),Option.bind_some,Option.bind_some,cj N (by omega) (by omega) (by omega),Option.bind_some,cj N (by omega) (by omega) (by omega),Option.bind_some,lN N (by omega) (f _ (by omega) (by omega)) (f _ (by omega) (by omega)),Option.bind_some,lN N (by omega) (f _ (by omega) (by omega)) (f _ (by omega) (by omega)),Option.bind_some]
 unfold yn
 by_cases h:s=2
 ·have e:jz s p a=a-p:=by unfold jz;rw[if_pos h]
  rw[if_pos h,e]
  split<;>rfl
 ·have e:jz s p a=p-a:=by unfold jz;rw[if_neg h]
  rw[if_neg h,e]
  split<;>rfl
theorem RL(N:Nat)(hN:4000000≤N)(o:ck)(a:Int):Lm N o a=some (bn (kv o a).1,(kv o a).2):=by
 unfold Lm kv
 rw[sS,Option.bind_some,cond_not,ct,gY,Option.bind_some,cond_not,ct,←ej]
 by_cases ho:ff o
 ·rw[if_pos ho]
  by_cases ha:bo a
  ·rw[if_pos (show 1≤a∧a≤1000000000000 from ha),if_pos ⟨ho,ha⟩]
   unfold ff kW at ho
   exact Ll N hN ho.2.2.2.2.1 ho.2.2.2.2.2 ha
  ·rw[if_neg (show ¬(1≤a∧a≤1000000000000)from ha),if_neg (fun h=>ha h.2)]
 ·rw[if_neg ho,if_neg (fun h=>ho h.1)]
theorem Fp{f:Int→Int×Int}{x:ca}: ∀m k,x∈H5 f m k→ ∃j:Int,x=nz j (f j)
 |0,_,hx=>nomatch hx
 |m+1,k,hx=>by
  rw[iJ]at hx
  split at hx
  ·rcases List.mem_cons.1 hx with rfl|hx
   ·exact⟨_,rfl⟩
   ·exact Fp m (k+1) hx
  ·exact Fp m (k+1) hx
theorem OS{l:aT}(h:Cz l)(hl:l.length≤33)(a:Int): ∀x∈o7 l a,zA (x.2.1,x.2.2.1):=fun x hx=>by
 obtain⟨j,rfl⟩:=Fp 6 0 hx
 have:=zz h a j
 unfold y6 at this
 show 0≤(Fk l a j).1∧(Fk l a j).1≤33000000000∧0≤(Fk l a j).2∧(Fk l a j).2≤33000000000
 omega
theorem DU(id:Int): ∀a:aE,(se id a).2=true→(se id a).1∈a
 |[],h=>nomatch h
 |x::t,h=>by
  rw[qw]at h ⊢
  by_cases e:x.1=id
  ·rw[if_pos e];exact List.mem_cons_self ..
  ·rw[if_neg e]at h ⊢;exact List.mem_cons_of_mem _ (DU id t h)
theorem RM{b:af}{a:Int}(h:(dL b.2.1 a).2=true):0≤tM b a∧tM b a≤1000000000000:=by
 unfold tM RI
 unfold dL at h ⊢
 by_cases hk:j1 b.2.1=true
 ·rw[if_pos hk]at h ⊢
  obtain⟨i,hi,e⟩:=List.getElem_of_mem (DU a b.2.1 h)
  unfold j1 at hk
  rw[Bool.and_true]at hk
  have:=(of_decide_eq_true hk i hi).1
  rw[List.getD_eq_getElem?_getD,List.getElem?_eq_getElem hi,Option.getD_some,e]at this
  unfold iZ at this
  exact this.2.2.2
 ·rw[if_neg hk]at h;nomatch h
theorem tN{c:aa}{b:af}(h:bV c b=true):ez b.2.2.2.2.2.1=true:=by
 unfold bV at h
 simp only[Bool.and_eq_true]at h
 exact h.2.2.2.2.2.1
theorem ach{b:af}{o:ck}(h:ez b.2.2.2.2.2.1=true)(ho:ff o):Cz (b.2.2.2.2.2.1++[o])∧(b.2.2.2.2.2.1++[o]).length≤33:=by
 obtain⟨h1,h2⟩:=Bj h
 refine⟨fun x hx=> ?_,by rw[List.length_append,List.length_singleton];omega⟩
 rcases List.mem_append.1 hx with hx|hx
 ·exact h1 x hx
 ·rw[List.mem_singleton.1 hx];exact ho.2.2.2.2.1
theorem OT(l:aT)(a:Int):(o7 l a).length≤6:=Fl _ 6 0
theorem Bq(b:af)(o:ck):(iL b o).length≤6:=Fl _ 6 0
theorem yp(x:Int):0<lL x↔0<x:=by unfold lL;split<;>(try split)<;>omega
theorem yq(x:Int):lL x<0↔x<0:=by unfold lL;split<;>(try split)<;>omega
theorem RN(N:Nat)(hN:4000000≤N)(c:aa){b:af}(w:eM b)(o:ck):F50 N c b o=some (lC c b o):=by
 unfold F50 lC
 rw[zu N hN w,Option.bind_some,cond_not,KJ,Option.bind_some,cond_not,ct,MK N w.a (by omega),Option.bind_some,cond_not,wU N w.m (by omega),Option.bind_some,cond_not,au,bk]
 by_cases hB:bV c b=false
 ·rw[hB];rfl
 rw[Bool.not_eq_false]at hB
 rw[hB,cond_true,if_pos rfl]
 by_cases ho:ff o
 ·rw[if_pos ho,if_pos ho]
  cases hf:(dL b.2.1 o.2.1).2 with
  |false=>rfl
  |true=>
   rw[cond_true,if_pos rfl]
   show(if RJ b o.2.1=1 then _ else _)=_
   by_cases hs:RJ b o.2.1=1
   ·rw[if_pos hs,if_pos hs]
    show(if(c.1.length:Int)≤oI o then _ else _)=_
    by_cases hi:(c.1.length:Int)≤oI o
    ·rw[if_pos hi,if_pos hi]
    ·rw[if_neg hi,if_neg hi]
     have Ud:=tN hB
     obtain⟨hq,h32⟩:=Bj Ud
     have NH:=ho
     unfold ff kW at NH
     have js:=vO w.qs o.2.1
     have mV:=RM hf
     have z5:=sY o.2.1 b.2.2.2.1
     have ZX:=w.s
     have zO:=Bq b o
     have hw:=yl c (iL b o) js
     have ht:=DQ c (iL b o) js (oI o)
     have hL:=DT o (b.2.2.2.2.1.getD (oI o).toNat 0)
     have hg:=AW w.qr 5 o.2.1
     obtain⟨yP,_⟩:=cK hB
     have h0:0≤oI o:=NH.2.2.1.1
     rw[aaf N w.s (by omega),Option.bind_some,RB N (by omega) w.o,Option.bind_some,if_pos Ud,UU N (by omega) (o:=o) NH.2.2.2.2.1 (Nat.le_trans (OT _ o.2.1) (by decide)) (OS hq (by omega) _),Option.bind_some,H7 hq ho]
     show((eO N c (posOf b.2.2.2.1 o.2.1) (iL b o) (oI o)).bind fun r8=>(Cp N (tM b o.2.1)).bind fun r9=>(Cs N r8.1 r9).bind fun gu=>cond (aG 0 gu) (some (9:Int)) ((m7 N c (posOf b.2.2.2.1 o.2.1) (iL b o)).bind fun jQ=>cond (aH (oI o) (List.length b.2.2.2.2.1)) ((RK N o (List.getD b.2.2.2.2.1 (oI o).toNat (0:Int))).bind fun jg=>(HK N jQ.1 jg.1).bind fun jy=>(lU N b.2.2.1 (5:Int) o.2.1).bind fun mH=>(U0 N mH jy.1).bind fun nW=>cond (!nW) (some (10:Int)) (some (0:Int))) (none)))=some (wa c b o)
     unfold aA at hg
     rw[RF N (by omega) c (by omega) js (by omega),Option.bind_some,mw N (by omega) (by omega),Option.bind_some,vF,Option.bind_some,aJ,RH N (by omega) c (by omega) js (by omega),Option.bind_some,aF h0 (by omega),cond_true,UZ,Option.bind_some,E6 N (by unfold bA;omega) (by unfold bA;omega) (by unfold bA;omega),Option.bind_some,UJ N w.r (by omega),Option.bind_some]
     unfold U0 wa
     rw[mw N hg.1 hg.2,Option.bind_some,vF,Option.bind_some,Option.bind_some,cond_not,bk]
     have s1:=yp ((mP c (posOf b.2.2.2.1 o.2.1) (iL b o) (oI o)).1-tM b o.2.1)
     by_cases h1:tM b o.2.1<(mP c (posOf b.2.2.2.1 o.2.1) (iL b o) (oI o)).1
     ·rw[if_pos h1,if_pos (by omega)]
     ·rw[if_neg h1,if_neg (by omega)]
      have s2:=yq (q9 b.2.2.1 5 o.2.1-((fj c (posOf b.2.2.2.1 o.2.1) (iL b o)).1+(kv o (b.2.2.2.2.1.getD (oI o).toNat 0)).1))
      by_cases h2:q9 b.2.2.1 5 o.2.1-(kv o (b.2.2.2.2.1.getD (oI o).toNat 0)).1<(fj c (posOf b.2.2.2.1 o.2.1) (iL b o)).1
      ·rw[if_pos h2,if_neg (by omega)]
      ·rw[if_neg h2,if_pos (by omega)]
   ·rw[if_neg hs,if_neg hs]
 ·rw[if_neg ho,if_neg ho]
theorem OU(N:Nat)(hN:4000000≤N)(c:aa){b:af}(w:eM b){o:ck}(h:Cz (b.2.2.2.2.2.1++[o])∧(b.2.2.2.2.2.1++[o]).length≤33):Ln N c b o.2.1 [o]=some (bn (fj c (posOf b.2.2.2.1 o.2.1) (iL b o)).1):=by
 unfold Ln
 have hl:=h.2
 rw[List.length_append,List.length_singleton]at hl
 have z5:=sY o.2.1 b.2.2.2.1
 have ZX:=w.s
 have zO:=Bq b o
 rw[aZ (by rw[List.length_nil];omega),cond_true]
 dsimp only
 rw[List.nil_append,aZ (by rw[List.length_singleton];omega),cond_true,E2 N w.s (by omega),Option.bind_some,DO N (by omega) h.1 (by omega),Option.bind_some]
 show((jh N c (posOf b.2.2.2.1 o.2.1) (iL b o)).bind fun r5=>some r5.1)=_
 rw[OQ N (by omega) c (by omega) (vO w.qs o.2.1) (by omega),Option.bind_some]
theorem OV(N:Nat)(hN:5000000≤N)(c:aa){b:af}(w:eM b)(o:ck):Ic N c b o=some (lC c b o):=by
 unfold Ic lC
 rw[si N hN w,Option.bind_some,cond_not,sS,Option.bind_some,cond_not,ct,AF N w.a (by omega),Option.bind_some,cond_not,uh N w.m (by omega),Option.bind_some,cond_not,au,bk]
 by_cases hB:bV c b=false
 ·rw[hB];rfl
 rw[Bool.not_eq_false]at hB
 rw[hB,cond_true,if_pos rfl]
 by_cases ho:ff o
 ·rw[if_pos ho,if_pos ho]
  cases hf:(dL b.2.1 o.2.1).2 with
  |false=>rfl
  |true=>
   rw[cond_true,if_pos rfl]
   show(if RJ b o.2.1=1 then _ else _)=_
   by_cases hs:RJ b o.2.1=1
   ·rw[if_pos hs,if_pos hs]
    show(if(c.1.length:Int)≤oI o then _ else _)=_
    by_cases hi:(c.1.length:Int)≤oI o
    ·rw[if_pos hi,if_pos hi]
    ·rw[if_neg hi,if_neg hi]
     have Ud:=tN hB
     have hmq:=ach Ud ho
     have hl:=hmq.2
     rw[List.length_append,List.length_singleton]at hl
     have NH:=ho
     unfold ff kW at NH
     have js:=vO w.qs o.2.1
     have mV:=RM hf
     have z5:=sY o.2.1 b.2.2.2.1
     have ZX:=w.s
     have zO:=Bq b o
     have hw:=yl c (iL b o) js
     have ht:=DQ c (iL b o) js (oI o)
     have hL:=DT o (b.2.2.2.2.1.getD (oI o).toNat 0)
     have hg:=AW w.qr 5 o.2.1
     obtain⟨yP,_⟩:=cK hB
     have h0:0≤oI o:=NH.2.2.1.1
     have f: ∀x:Int,-170141183460469231731687303715884105728≤x→x<170141183460469231731687303715884105728→Fit x 900000:=fun x h1 h2=>g7 ⟨h1,h2⟩
     rw[aZ (by rw[List.length_nil];omega),cond_true]
     dsimp only
     rw[List.nil_append,aZ (by rw[List.length_singleton];omega),cond_true,E2 N w.s (by omega),Option.bind_some,DO N (by omega) hmq.1 (by omega),Option.bind_some,OU N (by omega) c w hmq]
     show((dI N c (posOf b.2.2.2.1 o.2.1) (iL b o) (oI o)).bind fun r9=>(fN N (tM b o.2.1)).bind fun gu=>(C3 N r9.1 gu).bind fun jQ=>cond (aG 0 jQ) (some (9:Int)) (cond (aH (oI o) (List.length b.2.2.2.2.1)) ((Lm N o (List.getD b.2.2.2.2.1 (oI o).toNat (0:Int))).bind fun jg=>(qE N b.2.2.1 (5:Int) o.2.1).bind fun jy=>(fN N jy).bind fun mH=>(J1 N mH jg.1).bind fun nW=>(some (bn (fj c (posOf b.2.2.2.1 o.2.1) (iL b o)).1)).bind fun qP=>(C3 N nW qP).bind fun rq=>cond (aG rq 0) (some (10:Int)) (some (0:Int))) (none)))=some (wa c b o)
     unfold aA at hg
     rw[Nb N (by omega) c (by omega) js (by omega),Option.bind_some,cj N (by omega) (by omega) (by omega),Option.bind_some,rZ N (by omega) (f _ (by omega) (by omega)) (f _ (by omega) (by omega)),Option.bind_some,aJ,aF h0 (by omega),cond_true,RL N (by omega),Option.bind_some,K2 N w.r (by omega),Option.bind_some,cj N (by omega) hg.1 hg.2,Option.bind_some,oS N (by omega) (f _ (by omega) (by omega)) (f _ (by omega) (by omega)),Option.bind_some,Option.bind_some,rZ N (by omega) (f _ (by omega) (by omega)) (f _ (by omega) (by omega)),Option.bind_some,aJ]
     unfold wa
     have s1:=yp ((mP c (posOf b.2.2.2.1 o.2.1) (iL b o) (oI o)).1-tM b o.2.1)
     by_cases h1:tM b o.2.1<(mP c (posOf b.2.2.2.1 o.2.1) (iL b o) (oI o)).1
     ·rw[if_pos h1,if_pos (by omega)]
     ·rw[if_neg h1,if_neg (by omega)]
      have s2:=yq (q9 b.2.2.1 5 o.2.1-(kv o (b.2.2.2.2.1.getD (oI o).toNat 0)).1-(fj c (posOf b.2.2.2.1 o.2.1) (iL b o)).1)
      by_cases h2:q9 b.2.2.1 5 o.2.1-(kv o (b.2.2.2.2.1.getD (oI o).toNat 0)).1<(fj c (posOf b.2.2.2.1 o.2.1) (iL b o)).1
      ·rw[if_pos h2,if_pos (by omega)]
      ·rw[if_neg h2,if_neg (by omega)]
   ·rw[if_neg hs,if_neg hs]
 ·rw[if_neg ho,if_neg ho]
end VM
end
section
namespace VM
open Go VM.F
def BZ(q:Int):Prop:=1≤q∧q≤1000000000
instance(q:Int):Decidable (BZ q):=by unfold BZ;infer_instance
def pT(a b c d:Int):Prop:=(1≤a∧a≤1099511627776)∧(0≤b∧b<6)∧(c=1∨c=2)∧BZ d
instance(a b c d:Int):Decidable (pT a b c d):=by unfold pT;infer_instance
def ky(h:br):Prop:=pT h.1 h.2.1 h.2.2.1 h.2.2.2.1
instance(h:br):Decidable (ky h):=by unfold ky;infer_instance
theorem U1(N:Nat)(q:Int):Lo N q=some (decide (BZ q)):=by
 unfold Lo
 rw[kN q,ey]
 congr 1
 rw[Bool.eq_iff_iff,decide_eq_true_iff]
 unfold BZ
 simp only[Bool.and_eq_true,decide_eq_true_eq]
theorem kz(N:Nat)(h:br):OW N h=some (decide (ky h)):=by
 unfold OW
 rw[kN h.2.2.2.1]
 rw[ey,AE,wS,AD,ey,ey,ey]
 congr 1
 rw[Bool.eq_iff_iff,decide_eq_true_iff]
 unfold ky pT BZ
 simp only[Bool.and_eq_true,Bool.or_eq_true,Bool.not_eq_true',decide_eq_true_eq,decide_eq_false_iff_not]
 omega
theorem pf(N:Nat)(h:br):F48 N h=some (decide (ky h)):=by
 rw[←kz N h]
 unfold F48 OW Lo
 have e: ∀x:Option Bool,(x.bind fun r=>some r)=x:=fun x=>by cases x<;>rfl
 rw[e]
def Br(h:br)(a q p:Int):ck:=(h.1,(a,(h.2.1,((3-h.2.2.1:Int),(q,(p,()))))))
def wb(h:br)(a q p:Int):gg:=if h.2.2.1=1 then((0:Int),(a,(h.2.1,(q,(p,())))))else(a,((0:Int),(h.2.1,(q,(p,())))))
def Bs(c:aa)(b:af)(h:br)(q:Int)(r:af×Int):af×br×Int:=
 if r.2=0 then(r.1,(h.1,(h.2.1,(h.2.2.1,((h.2.2.2.1-q:Int),())))),0)else((bK,(cg,(aY,(aY,(cD,(cJ,())))))),aK,r.2)
def wc(c:aa)(b:af)(h:br)(a q p:Int):af×br×Int:=
 if lC c b (Br h a q p)=0 then Bs c b h q (ko c b [wb h a q p])else((bK,(cg,(aY,(aY,(cD,(cJ,())))))),aK,lC c b (Br h a q p))
def gh(c:aa)(b:af)(h:br)(a q p:Int):af×br×Int:=
 if bV c b then(if ky h then(if BZ q then(if bo p then(if h.2.2.2.1<q then((bK,(cg,(aY,(aY,(cD,(cJ,())))))),aK,9)else wc c b h a q p)else((bK,(cg,(aY,(aY,(cD,(cJ,())))))),aK,1))else((bK,(cg,(aY,(aY,(cD,(cJ,())))))),aK,1))else((bK,(cg,(aY,(aY,(cD,(cJ,())))))),aK,1))else((bK,(cg,(aY,(aY,(cD,(cJ,())))))),aK,1)
theorem Fs(N:Nat)(hN:4000000≤N)(c:aa){b:af}(w:mZ b)(h:br)(a q p:Int):Bt N c b h a q p=some (gh c b h a q p):=by
 unfold Bt Bt.b gh
 rw[zu N hN w.w,Option.bind_some,cond_not,pf,Option.bind_some,cond_not,ct,U1,Option.bind_some,cond_not,ct,qH,Option.bind_some,cond_not,ct,aJ]
 by_cases hB:bV c b=false
 ·rw[hB];rfl
 rw[Bool.not_eq_false]at hB
 rw[hB,cond_true,if_pos rfl]
 by_cases hh:ky h
 ·rw[if_pos hh,if_pos hh]
  by_cases hq:BZ q
  ·rw[if_pos hq,if_pos hq]
   by_cases hp:bo p
   ·rw[if_pos hp,if_pos hp]
    by_cases hl:h.2.2.2.1<q
    ·rw[if_pos hl,if_pos hl]
    ·rw[if_neg hl,if_neg hl]
     have JT:=hh
     unfold ky pT at JT
     have hg: ∀s:Int,s=1∨s=2→W .i64 (3-s)=3-s:=fun s hs=>al (by omega) (by omega)
     have Ki: ∀x:Int,BZ x→BZ q→W .i64 (x-q)=x-q:=fun x hx hq=>by unfold BZ at*;exact al (by omega) (by omega)
     rw[hg _ JT.2.2.1]
     show((F50 N c b (Br h a q p)).bind fun r6=>_)=some (wc c b h a q p)
     rw[RN N hN c w.w,Option.bind_some,cond_not,au]
     unfold wc
     by_cases h0:lC c b (Br h a q p)=0
     ·rw[if_pos h0,if_pos h0,au]
      have fin: ∀t:gg,t=wb h a q p→Bt.j12 N q c b h (bK,(cg,(aY,(aY,(cD,(cJ,())))))) aK t=some (Bs c b h q (ko c b [wb h a q p])):=fun t e=>by
       subst e
       unfold Bt.j12 Bt.acj Bs
       rw[OE N hN c w (by rw[List.length_singleton];omega),Option.bind_some,cond_not,au,Ki _ JT.2.2.2 hq]
       split<;>rfl
      by_cases h1:h.2.2.1=1
      ·rw[if_pos h1];exact fin _ (by unfold wb;rw[if_pos h1])
      ·rw[if_neg h1];exact fin _ (by unfold wb;rw[if_neg h1])
     ·rw[if_neg h0,if_neg h0]
   ·rw[if_neg hp,if_neg hp]
  ·rw[if_neg hq,if_neg hq]
 ·rw[if_neg hh,if_neg hh]
theorem RO(N:Nat)(hN:5000000≤N)(c:aa){b:af}(w:mZ b)(h:br)(a q p:Int):me N c b h a q p=some (gh c b h a q p):=by
 unfold me me.b gh
 rw[si N hN w.w,Option.bind_some,cond_not,kz,Option.bind_some,cond_not,ct,aJ,aJ,aJ,aJ,aJ,aJ,aJ]
 by_cases hB:bV c b=false
 ·rw[hB];rfl
 rw[Bool.not_eq_false]at hB
 rw[hB,cond_true,if_pos rfl]
 by_cases hh:ky h
 ·rw[if_pos hh,if_pos hh]
  by_cases hq:BZ q
  ·have ot:=hq
   unfold BZ at ot
   rw[if_pos hq,if_neg (show ¬q<1 by omega),if_neg (show ¬1000000000<q by omega)]
   by_cases hp:bo p
   ·have wq:=hp
    unfold bo at wq
    rw[if_pos hp,if_neg (show ¬p<1 by omega),if_neg (show ¬1000000000000<p by omega)]
    by_cases hl:h.2.2.2.1<q
    ·rw[if_pos hl,if_pos hl]
    ·rw[if_neg hl,if_neg hl]
     have JT:=hh
     unfold ky pT at JT
     have hg: ∀s:Int,s=1∨s=2→W .i64 (3-s)=3-s:=fun s hs=>al (by omega) (by omega)
     have Ki: ∀x:Int,BZ x→BZ q→W .i64 (x-q)=x-q:=fun x hx hq=>by unfold BZ at*;exact al (by omega) (by omega)
     have Et: ¬(1≤a∧a≤24)→wc c b h a q p=((bK,(cg,(aY,(aY,(cD,(cJ,())))))),aK,1):=fun hn=>by
      have:lC c b (Br h a q p)=1:=by
       unfold lC
       rw[if_pos hB,if_neg]
       intro ho
       unfold ff kW at ho
       exact hn ho.2.1
      unfold wc
      rw[this];rfl
     by_cases ha:1≤a∧a≤24
     ·rw[if_neg (show ¬a<1 by omega),if_neg (show ¬24<a by omega),hg _ JT.2.2.1]
      show((Ic N c b (Br h a q p)).bind fun r6=>_)=some (wc c b h a q p)
      rw[OV N hN c w.w,Option.bind_some,cond_not,au]
      unfold wc
      by_cases h0:lC c b (Br h a q p)=0
      ·rw[if_pos h0,if_pos h0,au]
       have fin: ∀t:gg,t=wb h a q p→me.j14 N q c b h (bK,(cg,(aY,(aY,(cD,(cJ,())))))) aK t=some (Bs c b h q (ko c b [wb h a q p])):=fun t e=>by
        subst e
        unfold me.j14 me.U2 Bs
        rw[K6 N hN c w (by rw[List.length_singleton];omega),Option.bind_some,cond_not,au,Ki _ JT.2.2.2 hq]
        split<;>rfl
       have Ud: ∀s:Int,s=1∨s=2→(s=2↔ ¬s=1):=fun s hs=>by omega
       by_cases h1:h.2.2.1=1
       ·rw[if_neg (fun k=>(Ud _ JT.2.2.1).1 k h1)];exact fin _ (by unfold wb;rw[if_pos h1])
       ·rw[if_pos ((Ud _ JT.2.2.1).2 h1)];exact fin _ (by unfold wb;rw[if_neg h1])
      ·rw[if_neg h0,if_neg h0]
     ·rw[Et ha]
      by_cases h1:a<1
      ·rw[if_pos h1]
      ·rw[if_neg h1,if_pos (show 24<a by omega)]
   ·rw[if_neg hp]
    unfold bo at hp
    by_cases h1:p<1
    ·rw[if_pos h1]
    ·rw[if_neg h1,if_pos (show 1000000000000<p by omega)]
  ·rw[if_neg hq]
   unfold BZ at hq
   by_cases h1:q<1
   ·rw[if_pos h1]
   ·rw[if_neg h1,if_pos (show 1000000000<q by omega)]
 ·rw[if_neg hh,if_neg hh]
end VM
end
section
namespace VM
open Go VM.F Go.RowKit
theorem RP(N:Nat)(hN:4000000≤N){v:Int}(h:bA v):F46 N (bg v)=some (bn v):=by
 unfold F46 bg
 unfold bA at h
 dsimp only
 have hv:VD [(0:Int),0,1]:=VD.cons (by omega) (by omega) (VD.cons (by omega) (by omega) (VD.cons (by omega) (by omega) VD.nil))
 have Aa:b9 [(0:Int),0,1]=18446744073709551616:=by decide
 have hl:(iy (v%18446744073709551616).toNat).length≤2:=qk 2 _ (by
  rw[show(4294967296:Nat)^2=18446744073709551616 from rfl];omega)
 have f2: ∀x:Int,(x.natAbs:Int)≤18446744073709551616→Fit x 90000:=fun x hx=>by
  refine Fit.mono (j:=3) ?_ (by omega)
  unfold Fit
  rw[show(4294967296:Nat)^3=79228162514264337593543950336 from rfl]
  omega
 rw[cj N (by omega) (by omega) (by omega),Option.bind_some,lz N false hv (by simp;omega) (by simp),Option.bind_some,if_neg Bool.false_ne_true,Aa,lN N hN (f2 _ (by omega)) (f2 _ (by omega)),Option.bind_some,size_eq N (by omega) (by omega) (by omega),Option.bind_some,lz N false (gd _) (by omega) (by omega),Option.bind_some,if_neg Bool.false_ne_true,eF,Int.toNat_of_nonneg (by omega),eG N hN (g7 (by unfold bA;omega)) (g7 (by unfold bA;omega)),Option.bind_some,show v/18446744073709551616*18446744073709551616+v%18446744073709551616=v by omega]
theorem RQ(N:Nat)(hN:4000000≤N){v:Int}(h:bA v):U3 N (bg v) (bn v)=some true:=by
 unfold U3
 rw[RP N hN h,Option.bind_some,rZ N hN (g7 h) (g7 h),Option.bind_some,Int.sub_self,show lL 0=0 from rfl,bZ]
theorem Lp(N:Nat){l:aE}(hl:l.length≤100000)(hN:200000≤N):mI N l l=some true:=by
 unfold mI mI.b
 rw[bZ,Bool.not_true,cond_false]
 refine jv (F:=fun n i=>mI.l4 N n l l i) (len:=l.length) (fun n i hi hr=> ?_) (fun n=> ?_) l.length N 0 (by omega) (by omega) (by omega)
 ·unfold mI.l4 mI.cA
  rw[aD (by omega),cond_true,aF (by omega) (by omega),cond_true,cond_true,AS,Bool.not_true,cond_false,al (x:=(i:Int)+1) (by omega) (by omega),ae i]
  exact hr
 ·unfold mI.l4 mI.cA
  rw[ax (by omega),cond_false]
theorem Bu(c:aa)(b:af)(next:Int): ∀m k out,(ti c b next m k out).length≤out.length+m
 |0,_,_=>Nat.le_refl _
 |m+1,k,out=>by
  rw[s3]
  have h1:=Bu c b next m (k+1) out
  split
  ·omega
  ·split
   ·omega
   ·refine Nat.le_trans (Bu c b next m (k+1) _) ?_
    rw[List.length_append,List.length_singleton];omega
theorem Lq(c:aa)(b:af)(next:Int):(kq c b next).1.length≤100000:=by
 unfold kq
 split
 ·split
  ·exact Nat.le_trans (Bu c b next 4 0 []) (by decide)
  ·exact Nat.zero_le _
 ·exact Nat.zero_le _
theorem Ft{c:aa}{b:af}(w:eM b)(l:aX):AU (ko c b l).1:=by
 unfold ko
 repeat' split
 all_goals first|exact HG w _ _|exact nu
theorem Bv{c:aa}{b:af}(w:eM b)(h:br)(a q p:Int):AU (gh c b h a q p).1:=by
 have hr: ∀r:af×Int,AU r.1→AU (Bs c b h q r).1:=fun r hr=>by
  unfold Bs
  split
  ·exact hr
  ·exact nu
 have hc:AU (wc c b h a q p).1:=by
  unfold wc
  split
  ·exact hr _ (Ft w _)
  ·exact nu
 unfold gh
 repeat' split
 all_goals first|exact hc|exact nu
theorem Lr(N:Nat)(hN:4000000≤N){x9:br}{x b:af}(f:Int→Int)(hf: ∀k,bA (f k)){r:Bool}
  (he: ∀(k9:tj.we) (ws:cX) (bs:ij),tj.Fu N k9 x9 ws bs x b (ws.length:Int)=some r):tj.Nc N N x9 (eB f) (kL f) x b 0=some r:=by
 have hwl:(eB f).length=4:=rfl
 have tA:(kL f).length=4:=rfl
 have key: ∀(m n i:Nat),i+m=4→m<n→tj.Nc N n x9 (eB f) (kL f) x b (i:Int)=some r:=by
  intro m n
  induction n generalizing m with
  |zero=>intro i _ hn;omega
  |succ n ih=>
   intro i hi hn
   by_cases h:i<4
   ·unfold tj.Nc tj.Fu
    rw[hwl,tA,aD (by omega),cond_true,aF (by omega) (by omega),cond_true,cond_true,w8 f (by omega),A2 f (by omega),RQ N hN (hf _),Option.bind_some,Bool.not_true,cond_false,al (x:=(i:Int)+1) (by omega) (by omega),ae i]
    exact ih (m-1) (i+1) (by omega) (by omega)
   ·have e:i=4:=by omega
    subst e
    unfold tj.Nc
    exact he _ (eB f) (kL f)
 exact key 4 N 0 (by omega) (by omega)
theorem ah2(N:Nat)(hN:5000000≤N)(c:aa)(hc:aA (qN c)){b:af}(w:mZ b)(h:br)(next a q p:Int):tj N c b h next a q p=some true:=by
 unfold tj tj.b
 have sh:=Bv (c:=c) w.w h a q p
 rw[Ff N (by omega) c w.w,Option.bind_some,HJ N hN c w.w,Option.bind_some,Bi N (by omega) c hc w.w,Option.bind_some,Lj N hN c hc w.w,Option.bind_some,Fs N (by omega) c w,Option.bind_some,RO N hN c w,Option.bind_some,bZ,bZ,Lp N (Lq c b next) (by omega),Option.bind_some,AS]
 have he: ∀(k9:tj.we) (ws:cX) (bs:ij),tj.Fu N k9 h ws bs (gh c b h a q p).1 (gh c b h a q p).1 (ws.length:Int)=some true:=fun k9 ws bs=>by
  unfold tj.Fu
  rw[ax (by omega),cond_false,Rh N (by omega) sh.m sh.a sh.r sh.s sh.p sh.o,Option.bind_some,cond_true,pf,Option.bind_some,kz,Option.bind_some,lM,beq_self_eq_true]
 by_cases hB:bV c b=true
 ·rw[if_pos hB,if_pos hB]
  dsimp only
  rw[bZ,show((eB (bC c b)).length:Int)=((kL (bC c b)).length:Int)from rfl,bZ,Bool.not_true,cond_false,cond_false,cond_false,cond_false,cond_false,cond_false]
  exact Lr N (by omega) (bC c b) (fun k=>(vV w.w hB k).1) he
 ·rw[if_neg hB,if_neg hB]
  dsimp only
  rw[bZ,List.length_nil,List.length_nil,bZ,Bool.not_true,cond_false,cond_false,cond_false,cond_false,cond_false,cond_false]
  obtain⟨m,rfl⟩: ∃m,N=m+1:=⟨N-1,by omega⟩
  unfold tj.Nc
  exact he _ [] []
def hC:aa:=([((0:Int),((100:Int),((1:Int),((0:Int),())))),((0:Int),((7:Int),bI))],((0:Int),((0:Int),((0:Int),((0:Int),((1:Int),((10:Int),())))))))
def hR:ah:=[((1:Int),((0:Int),((-90:Int),()))),((5:Int),((1:Int),((90:Int),())))]
def hS:ah:=[((0:Int),((0:Int),((5:Int),()))),((0:Int),((1:Int),((20:Int),()))),((1:Int),((0:Int),((-5:Int),()))),((1:Int),((1:Int),((-20:Int),())))]
def hB:af:=([((1:Int),((1:Int),()))],([((1:Int),((1:Int),((1:Int),((50:Int),()))))],(hR,(hS,([(100:Int),(7:Int)],(cJ,()))))))
def hO:br:=((4:Int),((0:Int),((2:Int),((6:Int),()))))
theorem hW:mZ hB:=⟨⟨by decide,by decide,by decide,by decide,by decide,by decide,MU (l:=hR) (by decide),MU (l:=hS) (by decide)⟩,by decide,by decide⟩
theorem hOk:bV hC hB=true:=by kernel_rfl
theorem hN0:bC hC hB 0=640:=by kernel_rfl
theorem hOr:kq hC hB 4=([hO],0):=by kernel_rfl
theorem FZ:(gh hC hB hO 1 2 99).2.2=0:=by kernel_rfl
theorem an2:(gh hC hB hO 1 2 99).2.1.2.2.2.1=4:=by kernel_rfl
theorem an3:mE (gh hC hB hO 1 2 99).1.2.2.2.1 0 0=3:=by kernel_rfl
theorem an4:q9 (gh hC hB hO 1 2 99).1.2.2.1 2 0= -2:=by kernel_rfl
theorem hF7:(gh hC hB hO 1 7 99).2.2=9:=by kernel_rfl
theorem hRi:ky hO:=by decide
theorem hWn:(bg 640).2.1=640:=by kernel_rfl
theorem af7(N:Nat)(hN:5000000≤N):F38 N=some true:=by
 unfold F38 F99
 rw[Option.bind_some]
 show(vT N hC hB).bind _=_
 rw[Ff N (by omega) hC hW.w,Option.bind_some,hOk,if_pos rfl]
 show(pZ N hC hB 4).bind _=_
 rw[Bi N (by omega) hC (by decide) hW.w,Option.bind_some,hOr]
 have sh:=Bv (c:=hC) hW.w hO 1 2 99
 dsimp only
 have Z6:([hO]:aE).length=1:=rfl
 have hl4:(eB (bC hC hB)).length=4:=rfl
 rw[Z6,hl4,bZ,Bool.not_true,cond_false,cond_false,cM (x:=((4:Nat):Int)) (y:=4) (by omega),cM (x:=((1:Nat):Int)) (y:=1) (by omega),Bool.not_true,cond_false,cond_false,aF (i:=0) (n:=1) (by omega) (by omega),aF (i:=0) (n:=4) (by omega) (by omega),cond_true]
 show(Bt N hC hB hO 1 2 99).bind _=_
 rw[Fs N (by omega) hC hW,Option.bind_some,cond_true]
 show(Bt N hC hB hO 1 7 99).bind _=_
 rw[Fs N (by omega) hC hW,Option.bind_some,cond_true]
 show cond (ay (bg (bC hC hB 0)).2.1 640) (cond true (cond (jO dB hO hO) (cond (ay (gh hC hB hO 1 2 99).2.2 0) (cond (ay (gh hC hB hO 1 2 99).2.1.2.2.2.1 4) ((wz N (gh hC hB hO 1 2 99).1.2.2.2.1 0 0).bind fun r6=>cond (ay r6 3) ((qE N (gh hC hB hO 1 2 99).1.2.2.1 2 0).bind fun r7=>cond (ay r7 (-2)) (cond (ay (gh hC hB hO 1 7 99).2.2 9) (cond true ((F48 N hO).bind fun r8=>some r8) none) (some false)) (some false)) (some false)) (some false)) (some false)) (some false)) none) (some false)=some true
 rw[hN0,hWn,bZ,cond_true,cond_true,show jO dB hO hO=true from AS hO,cond_true,FZ,bZ,cond_true,an2,bZ,cond_true,zx N sh.s (by omega),Option.bind_some,an3,bZ,cond_true,K2 N sh.r (by omega),Option.bind_some,an4,bZ,cond_true,hF7,bZ,cond_true,cond_true,pf,Option.bind_some,decide_eq_true hRi]
namespace Pure
end Pure
end VM
end
section
namespace VM
open Go VM.F
def Ok{α:Type}(P:α→Prop)(o:Option α):Prop:= ∃r,o=some r∧P r
theorem aj{α:Type}{P:α→Prop}{r:α}(h:P r):Ok P (some r):=⟨r,rfl,h⟩
theorem ag{α β:Type}{P:β→Prop}{Q:α→Prop}{o:Option α}{f:α→Option β}(h:Ok Q o)(hf: ∀r,Q r→Ok P (f r)):Ok P (o.bind f):=by
 obtain⟨r,rfl,hr⟩:=h
 exact hf r hr
theorem mf{α:Type}{P:α→Prop}{o:Option α}{r:α}(h:o=some r)(hr:P r):Ok P o:=⟨r,h,hr⟩
theorem tk{α:Type}{P:α→Prop}{b:Bool}{x y:Option α}(hx:b=true→Ok P x)(hy:b=false→Ok P y):Ok P (cond b x y):=by
 cases b
 ·exact hy rfl
 ·exact hx rfl
theorem cw{α:Type}{P:α→Prop}{b:Bool}{x y:Option α}(hx:b=false→Ok P x)(hy:b=true→Ok P y):Ok P (cond (!b) x y):=by
 cases b
 ·exact hx rfl
 ·exact hy rfl
theorem az{α:Type}{P:α→Prop}{a b:Int}{x y:Option α}(hx:a<b→Ok P x)(hy:b≤a→Ok P y):Ok P (cond (aG a b) x y):=by
 rw[aJ]
 split
 ·exact hx (by assumption)
 ·exact hy (by omega)
theorem dX{α:Type}{P:α→Prop}{a b:Int}{x y:Option α}(hx:a≤b→Ok P x)(hy:b<a→Ok P y):Ok P (cond (bW a b) x y):=by
 rw[bk]
 split
 ·exact hx (by assumption)
 ·exact hy (by omega)
theorem ok_eq{α:Type}{P:α→Prop}{a b:Int}{x y:Option α}(hx:a=b→Ok P x)(hy:a≠b→Ok P y):Ok P (cond (ay a b) x y):=by
 rw[au]
 split
 ·exact hx (by assumption)
 ·exact hy (by assumption)
theorem cW{α:Type}{P:α→Prop}{a b:Int}{x y:Option α}(hx:a≠b→Ok P x)(hy:a=b→Ok P y):Ok P (cond (!ay a b) x y):=by
 rw[cond_not];exact ok_eq hy hx
theorem aC{α:Type}{P:α→Prop}{i:Int}{n:Nat}{x y:Option α}(h:0≤i∧i<(n:Int))(hx:Ok P x):Ok P (cond (aH i n) x y):=by
 rw[aF h.1 h.2];exact hx
theorem aN{α:Type}{P:α→Prop}{n:Nat}{x y:Option α}(h:n<68719476736)(hx:Ok P x):Ok P (cond (small n) x y):=by
 rw[aZ h];exact hx
theorem U4{α:Type}{P:α→Prop}{l c:Int}{x y:Option α}(h:0≤l∧l≤c∧c<68719476736)(hx:Ok P x):Ok P (cond (ga l c) x y):=by
 rw[bG h.1 h.2.1 h.2.2];exact hx
theorem Fv{α:Type}{P:α→Prop}{l h m n:Int}{x y:Option α}(hh:0≤l∧l≤h∧h≤m∧m≤n)(hx:Ok P x):Ok P (cond (gw l h m n) x y):=by
 rw[cE hh.1 hh.2.1 hh.2.2.1 hh.2.2.2];exact hx
theorem kA{σ β:Type}{P:β→Prop}{F:Nat→Int→σ→Option β}{len:Nat}(I:Nat→σ→Prop)
  (hs: ∀n i s,i<len→I i s→(∀s',I (i+1) s'→Ok P (F n ((i+1:Nat):Int) s'))→Ok P (F (n+1) (i:Int) s)) (he: ∀n s,I len s→Ok P (F (n+1) (len:Int) s)):
  ∀m n i s,len-i≤m→m<n→i≤len→I i s→Ok P (F n (i:Int) s)
 |m,0,i,s,_,hn,_,_=>by omega
 |m,n+1,i,s,hm,hn,hi,hI=>by
  by_cases h:i<len
  ·exact hs n i s h hI fun s' tC=>kA I hs he (m-1) n (i+1) s' (by omega) (by omega) (by omega) tC
  ·have:i=len:=by omega
   subst this
   exact he n s hI
theorem bN{σ β:Type}{P:β→Prop}{F:Nat→Int→σ→Option β}{len:Nat}(I:Nat→σ→Prop){N:Nat}{s:σ}(h0:I 0 s)(hN:len<N)
  (hs: ∀n i s,i<len→I i s→(∀s',I (i+1) s'→Ok P (F n ((i+1:Nat):Int) s'))→Ok P (F (n+1) (i:Int) s)) (he: ∀n s,I len s→Ok P (F (n+1) (len:Int) s)):Ok P (F N 0 s):=
 kA I hs he len N 0 s (by omega) hN (by omega) h0
theorem lD{β:Type}{P:β→Prop}{F:Nat→Int→Option β}{len N:Nat}(hN:len<N)
  (hs: ∀n i,i<len→Ok P (F n ((i+1:Nat):Int))→Ok P (F (n+1) (i:Int))) (he: ∀n,Ok P (F (n+1) (len:Int))):Ok P (F N 0):=
 bN (σ:=Unit) (F:=fun n i _=>F n i) (fun _ _=>True) (s:=()) trivial hN (fun n i _ h _ hr=>hs n i h (hr () trivial)) fun n _ _=>he n
theorem zE{σ β:Type}{P:β→Prop}{F:Nat→Int→σ→Option β}(I:Nat→σ→Prop)
  (hs: ∀n (k:Nat) s,I (k+1) s→(∀s',I k s'→Ok P (F n (k:Int) s'))→Ok P (F (n+1) ((k+1:Nat):Int) s)) (he: ∀n s,I 0 s→Ok P (F (n+1) 0 s)):
  ∀(k n:Nat) s,k<n→I k s→Ok P (F n (k:Int) s)
 |0,0,s,hn,_=>by omega
 |0,n+1,s,hn,hI=>he n s hI
 |k+1,0,s,hn,_=>by omega
 |k+1,n+1,s,hn,hI=>hs n k s hI fun s' tC=>zE I hs he k n s' (by omega) tC
def G(m:Nat):(τ:Ty)→τ.den→Prop
 | .int .i64,x=>aA x
 | .int .u64,x=>0≤x∧x<18446744073709551616
 | .slice e,l=>List.length l≤m∧ ∀x∈(l:List e.den),G m e x
 | .pair a b,x=>G m a x.1∧G m b x.2
 |_,_=>True
theorem G.mono{m n:Nat}(h:m≤n): ∀{τ:Ty} {x:τ.den},G m τ x→G n τ x
 | .int k,x,hx=>by cases k<;>exact hx
 | .slice e,l,hl=>⟨Nat.le_trans hl.1 h,fun x hx=>G.mono h (hl.2 x hx)⟩
 | .pair a b,x,hx=>⟨G.mono h hx.1,G.mono h hx.2⟩
 | .bool,_,_=>trivial
 | .str,_,_=>trivial
 | .unit,_,_=>trivial
 | .arr _ _,_,_=>trivial
theorem G.nil{m:Nat}{e:Ty}:G m (.slice e) ([]:List e.den):=⟨Nat.zero_le _,fun x hx=>nomatch hx⟩
theorem G.app{m:Nat}{e:Ty}{l:List e.den}{x:e.den}(h:G m (.slice e) l)(hx:G m e x):G (m+1) (.slice e) (l++[x]):=
 ⟨by have:=h.1;rw[List.length_append,List.length_singleton];omega,fun y hy=>by
  rcases List.mem_append.1 hy with hy|hy
  ·exact G.mono (by omega) (h.2 y hy)
  ·rw[List.mem_singleton.1 hy];exact G.mono (by omega) hx⟩
theorem G.get{m:Nat}{e:Ty}{l:List e.den}{d:e.den}(h:G m (.slice e) l)(hd:G m e d)(k:Nat):G m e (l.getD k d):=by
 by_cases hk:k<l.length
 ·rw[List.getD_eq_getElem?_getD,List.getElem?_eq_getElem hk];exact h.2 _ (List.getElem_mem hk)
 ·rw[List.getD_eq_getElem?_getD,List.getElem?_eq_none (by omega)];exact hd
theorem G.zero(m:Nat): ∀τ:Ty,G m τ τ.zero
 | .int k=>by cases k<;>first|trivial|exact⟨by decide,by decide⟩
 | .slice _=>G.nil
 | .pair a b=>⟨G.zero m a,G.zero m b⟩
 | .bool=>trivial
 | .str=>trivial
 | .unit=>trivial
 | .arr _ _=>trivial
theorem G.at{m:Nat}{e:Ty}{l:List e.den}(h:G m (.slice e) l)(k:Nat):G m e (l.getD k e.zero):=h.get (G.zero m e) k
theorem G.set{m:Nat}{e:Ty}{l:List e.den}{x:e.den}(h:G m (.slice e) l)(hx:G m e x)(k:Nat):G m (.slice e) (l.set k x):=
 ⟨by rw[List.length_set];exact h.1,fun y hy=>by
  rcases List.mem_or_eq_of_mem_set hy with hy|rfl
  ·exact h.2 y hy
  ·exact hx⟩
theorem fy(x:Int):aA (W .i64 x):=by
 rw[dV];unfold aA;split<;>omega
def Bg(k:Nat)(z:aw):Prop:= ∃v,z=bn v∧Fit v k
theorem Bg.mono{j k:Nat}{z:aw}(h:Bg j z)(hk:j≤k):Bg k z:=by
 obtain⟨v,e,f⟩:=h
 exact⟨v,e,Fit.mono f hk⟩
theorem Bg.zero:Bg 1 (false,(([]:List Int),())):=⟨0,ej.symm,by unfold Fit;decide⟩
theorem bt(N:Nat)(hN:4000000≤N){x:Int}(h:aA x):Ok (Bg 2) (fN N x):=mf (cj N (by omega) h.1 h.2) ⟨x,rfl,Fit.i64 h.1 h.2⟩
theorem g8(N:Nat)(hN:4000000≤N){k:Nat}(hk:k≤90000){u v:aw}(hu:Bg k u)(hv:Bg k v):Ok (Bg (k+1)) (tF N u v):=by
 obtain⟨a,rfl,ha⟩:=hu
 obtain⟨b,rfl,hb⟩:=hv
 exact mf (eG N hN (Fit.mono ha (by omega)) (Fit.mono hb (by omega))) ⟨_,rfl,Fit.add ha hb⟩
theorem zF(N:Nat)(hN:4000000≤N){k:Nat}(hk:k≤90000){u v:aw}(hu:Bg k u)(hv:Bg k v):Ok (Bg (k+1)) (J1 N u v):=by
 obtain⟨a,rfl,ha⟩:=hu
 obtain⟨b,rfl,hb⟩:=hv
 exact mf (oS N hN (Fit.mono ha (by omega)) (Fit.mono hb (by omega))) ⟨_,rfl,by rw[Int.sub_eq_add_neg];exact Fit.add ha (Fit.neg hb)⟩
theorem s5(N:Nat)(hN:4000000≤N){k:Nat}(hk:k≤90000){u:aw}(hu:Bg k u):Ok (Bg k) (Px N u):=by
 obtain⟨a,rfl,ha⟩:=hu
 exact mf (pK N hN (Fit.mono ha (by omega))) ⟨_,rfl,Fit.neg ha⟩
theorem sA(N:Nat)(hN:4000000≤N){k:Nat}(hk:k≤90000){u:aw}(hu:Bg k u):Ok (Bg k) (N9 N u):=by
 obtain⟨a,rfl,ha⟩:=hu
 exact mf (vp N hN (Fit.mono ha (by omega))) ⟨_,rfl,Fit.of_le ha (by omega)⟩
theorem mg(N:Nat)(hN:4000000≤N){j k:Nat}(hj:j≤90000)(hk:k≤90000){u v:aw}(hu:Bg j u)(hv:Bg k v):Ok (Bg (j+k)) (fZ N u v):=by
 obtain⟨a,rfl,ha⟩:=hu
 obtain⟨b,rfl,hb⟩:=hv
 exact mf (lN N hN (Fit.mono ha hj) (Fit.mono hb hk)) ⟨_,rfl,Fit.mul ha hb⟩
theorem zG(N:Nat){k:Nat}{u:aw}(hu:Bg k u):Ok (fun _=>True) (MF N u):=by
 obtain⟨a,rfl,ha⟩:=hu
 exact mf (mW N a) trivial
theorem uD(N:Nat)(hN:4000000≤N){j k:Nat}(hj:j≤90000)(hk:k≤90000){u v:aw}(hu:Bg j u)(hv:Bg k v):Ok (fun _=>True) (C3 N u v):=by
 obtain⟨a,rfl,ha⟩:=hu
 obtain⟨b,rfl,hb⟩:=hv
 exact mf (rZ N hN (Fit.mono ha (by omega)) (Fit.mono hb (by omega))) trivial
theorem Ls(v:Int):aA (yR v).1:=by
 by_cases h:aA v
 ·rw[oZ h];exact h
 ·rw[qz h];unfold aA;decide
theorem uE(N:Nat){k:Nat}{u:aw}(hu:Bg k u):Ok (fun r=>aA r.1) (sa N u):=by
 obtain⟨a,rfl,ha⟩:=hu
 exact mf (nM N a) (Ls a)
end VM
end
section
namespace VM
open Go VM.F
abbrev L3(m:Nat)(l:ah):Prop:=G m (.slice fD) l
def iu(m:Nat)(p:bw):Prop:=p.length≤m∧ ∀y∈p,Bg 8 y.2.2.1
theorem iu.at{m:Nat}{p:bw}(h:iu m p)(i:Nat):Bg 8 (p.getD i ((0:Int),((0:Int),((false,kQ),())))).2.2.1:=by
 by_cases hk:i<p.length
 ·rw[List.getD_eq_getElem?_getD,List.getElem?_eq_getElem hk];exact h.2 _ (List.getElem_mem hk)
 ·rw[List.getD_eq_getElem?_getD,List.getElem?_eq_none (by omega)];exact Bg.mono Bg.zero (by decide)
theorem iu.nil{m:Nat}:iu m []:=⟨Nat.zero_le _,fun x hx=>nomatch hx⟩
theorem iu.app{m n:Nat}{p q:bw}(h:iu m p)(h':iu n q):iu (m+n) (p++q):=
 ⟨by have:=h.1;have:=h'.1;rw[List.length_append];omega,fun y hy=>(List.mem_append.1 hy).elim (h.2 y) (h'.2 y)⟩
theorem iu.mono{m n:Nat}{p:bw}(h:iu m p)(hm:m≤n):iu n p:=⟨Nat.le_trans h.1 hm,h.2⟩
theorem yr(N:Nat){k:Nat}{u:aw}(hu:Bg k u):Ok (fun r=>aA r.1) (KT N u):=by
 unfold KT
 refine ag (uE N hu) fun r h=>cw (fun _=>aj (by unfold aA;decide)) fun _=>ok_eq (fun _=>aj (by unfold aA;decide)) fun _=>aj h
theorem gL{x:Int}(h0: -1000000≤x)(h1:x≤1000000):aA x:=by unfold aA;omega
theorem G3{m:Nat}{a b c:Int}(ha:aA a)(hb:aA b)(hc:aA c):G m fD (a,(b,(c,()))):=⟨ha,hb,hc,trivial⟩
theorem bx:aA 0:=by unfold aA;decide
theorem OX(N:Nat)(hN:4000000≤N){x k n:Int}{p:bw}(hx:aA x)(hp:iu 50000 p):Ok (fun r=>aA r.1) (ki N x k n p):=by
 have hl:=hp.1
 refine bN (len:=p.length) (F:=fun n' i (s:aw×Bool)=>ki.l3 N n' x k n p s.1 s.2 i) (s:=(_,_)) (fun i s=>Bg (8+i) s.1) (Bg.mono Bg.zero (by omega)) (by omega) (fun n' i s hi hI hr=> ?_) (fun n' s hI=> ?_)
 all_goals unfold ki.l3 ki.jP
 ·rw[al (x:=(i:Int)+1) (by omega) (by omega),ae i]
  have h1:=hr (s.1,s.2) (Bg.mono hI (by omega))
  repeat' first|exact h1|refine aC ⟨by omega,by omega⟩ ?_|refine az (fun _=> ?_) (fun _=> ?_)|refine ok_eq (fun _=> ?_) (fun _=> ?_)|(exfalso;omega)|exact ag (g8 N hN (by omega) hI (Bg.mono (hp.at _) (by omega))) fun r h=>hr (r,true) h
 ·refine az (fun _=>by omega) fun _=>cw (fun _=>aj hx) fun _=>ag (bt N hN hx) fun r h=>ag (g8 N hN (by omega) hI (Bg.mono h (by omega))) fun r h=>ag (uE N h) fun r h=>aj h
theorem U5(N:Nat)(hN:4000000≤N){l:ah}{p:bw}{m:Nat}(hm:m≤50000)(hl:L3 m l)(hp:iu 50000 p):Ok (fun r=>L3 200 r.1) (cH N l p):=by
 have Kp:=hl.1
 refine kA (len:=8) (F:=fun n k (s:ah×Int)=>cH.l4 N n l p s.1 s.2 k) (fun i s=>L3 (25*i) s.1∧0≤s.2) (fun n i s hi hI hr=> ?_) (fun n s hI=> ?_) 8 N 1 (_,_) (by omega) (by omega) (by omega) ⟨G.nil,Int.le_refl 0⟩
 all_goals unfold cH.l4 cH.cA
 ·refine dX (fun _=> ?_) (fun _=>by omega)
  refine bN (len:=25) (F:=fun n' j (s:ah×Int)=>cH.l7 N (cH.l4 N n) n' l p s.1 s.2 (i:Int) j) (s:=s) (fun j s=>L3 (25*i+j) s.1∧0≤s.2) hI (by omega) (fun n' j s hj hI dw=> ?_) (fun n' s hI=> ?_)
  all_goals unfold cH.l7 cH.mq
  ·have gC: ∀(k x:Int),0≤k→aA x→Ok (fun r=>L3 200 r.1) (cH.EN N (cH.l4 N n) (cH.l7 N (cH.l4 N n) n') l p s.1 k (i:Int) (j:Int) x):=fun k x hk hx=>by
    unfold cH.EN cH.vv
    rw[al (x:=(j:Int)+1) (by omega) (by omega),ae j]
    have hs:=hI.1.1
    refine ag (OX N hN hx hp) fun r h=>cw (fun _=>aj G.nil) fun _=>cW (fun _=>aN (by rw[List.length_singleton];omega) (dw (_,k) ⟨G.app hI.1 (G3 (gL (by omega) (by omega)) (gL (by omega) (by omega)) h),hk⟩)) fun _=>dw (s.1,k) ⟨G.mono (by omega) hI.1,hk⟩
   have h0:=gC s.2 0 hI.2 bx
   have Mw:=hI.2
   repeat' first|exact h0|refine aC ⟨by omega,by omega⟩ ?_|refine az (fun _=> ?_) (fun _=> ?_)|refine dX (fun _=> ?_) (fun _=> ?_)|refine ok_eq (fun _=> ?_) (fun _=> ?_)|(exfalso;omega)|exact gC _ _ (by rw[al (x:=s.2+1) (by omega) (by omega)];omega) (G.at hl _).2.2.1
  ·rw[al (x:=(i:Int)+1) (by omega) (by omega),ae i]
   exact dX (fun _=>by omega) fun _=>hr s ⟨G.mono (by omega) hI.1,hI.2⟩
 ·exact dX (fun _=>by omega) fun _=>aj (G.mono (by decide) hI.1)
theorem Lt(N:Nat)(hN:4000000≤N){l t:ah}{m:Nat}(hm:m≤50000)(hl:L3 m l)(ht:L3 50000 t):Ok (fun r=>L3 200 r.1) (bJ N l t):=by
 have Kp:=hl.1
 have htl:=ht.1
 refine bN (len:=25) (F:=fun n k (s:ah×Int)=>bJ.l4 N n l t s.1 s.2 k) (s:=(_,_)) (fun i s=>L3 (6*i) s.1∧0≤s.2) ⟨G.nil,Int.le_refl 0⟩ (by omega) (fun n i s hi hI hr=> ?_) (fun n s hI=> ?_)
 all_goals unfold bJ.l4 bJ.cA
 ·refine dX (fun _=> ?_) (fun _=>by omega)
  refine bN (len:=6) (F:=fun n' j (s:ah×Int)=>bJ.l7 N (bJ.l4 N n) n' l t s.1 s.2 (i:Int) j) (s:=s) (fun j s=>L3 (6*i+j) s.1∧0≤s.2) hI (by omega) (fun n' j s hj hI dw=> ?_) (fun n' s hI=> ?_)
  all_goals unfold bJ.l7 bJ.mq
  ·have gC: ∀(k x:Int),0≤k→aA x→Ok (fun r=>L3 200 r.1) (bJ.EN N (bJ.l4 N n) (bJ.l7 N (bJ.l4 N n) n') l t s.1 k (i:Int) (j:Int) x false):=fun k x hk hx=>by
    unfold bJ.EN bJ.vv
    have hs:=hI.1.1
    have u6: ∀y:Int,aA y→Ok (fun r=>L3 200 r.1) (cond (!ay y 0) (cond (small (s.1.length+[(((i:Int),((j:Int),(y,()))):ca)].length)) (bJ.l7 N (bJ.l4 N n) n' l t (s.1++[((i:Int),((j:Int),(y,())))]) k (i:Int) (W .i64 ((j:Int)+1))) none) (bJ.l7 N (bJ.l4 N n) n' l t s.1 k (i:Int) (W .i64 ((j:Int)+1)))):=fun y hy=>by
     rw[al (x:=(j:Int)+1) (by omega) (by omega),ae j]
     exact cW (fun _=>aN (by rw[List.length_singleton];omega) (dw (_,k) ⟨G.app hI.1 (G3 (gL (by omega) (by omega)) (gL (by omega) (by omega)) hy),hk⟩)) fun _=>dw (s.1,k) ⟨G.mono (by omega) hI.1,hk⟩
    refine bN (len:=t.length) (F:=fun DV u (z:aw×Bool)=>bJ.F1 N (bJ.l4 N n) (bJ.l7 N (bJ.l4 N n) n') DV l t s.1 k (i:Int) (j:Int) x z.2 z.1 u) (s:=(_,_)) (fun u z=>Bg (3+u) z.1) (Bg.mono Bg.zero (by omega)) (by omega) (fun DV u z hu hz RS=> ?_) (fun DV z hz=> ?_)
    all_goals unfold bJ.F1 bJ.EY
    ·rw[al (x:=(u:Int)+1) (by omega) (by omega),ae u]
     have h1:=RS (z.1,z.2) (Bg.mono hz (by omega))
     repeat' first|exact h1|refine aC ⟨by omega,by omega⟩ ?_|refine az (fun _=> ?_) (fun _=> ?_)|refine ok_eq (fun _=> ?_) (fun _=> ?_)|(exfalso;omega)|exact ag (bt N hN (G.at ht _).2.2.1) fun r h=>ag (g8 N hN (by omega) hz (Bg.mono h (by omega))) fun r h=>RS (r,true) h
    ·exact az (fun _=>by omega) fun _=>tk (fun _=>ag (bt N hN hx) fun r h=>ag (g8 N hN (by omega) hz (Bg.mono h (by omega))) fun r h=>ag (yr N h) fun r h=>cw (fun _=>aj G.nil) fun _=>u6 _ h) fun _=>u6 _ hx
   have h0:=gC s.2 0 hI.2 bx
   have Mw:=hI.2
   repeat' first|exact h0|refine aC ⟨by omega,by omega⟩ ?_|refine az (fun _=> ?_) (fun _=> ?_)|refine dX (fun _=> ?_) (fun _=> ?_)|refine ok_eq (fun _=> ?_) (fun _=> ?_)|(exfalso;omega)|exact gC _ _ (by rw[al (x:=s.2+1) (by omega) (by omega)];omega) (G.at hl _).2.2.1
  ·rw[al (x:=(i:Int)+1) (by omega) (by omega),ae i]
   exact az (fun _=>by omega) fun _=>hr s ⟨G.mono (by omega) hI.1,hI.2⟩
 ·exact dX (fun _=>by omega) fun _=>aj (G.mono (by decide) hI.1)
theorem G.fJ{m:Nat}:G m aB (bK,(cg,(aY,(aY,(cD,(cJ,())))))):=G.zero m aB
theorem qQ(N:Nat)(hN:4000000≤N){b:af}{s:ah}{p:bw}{m:Nat}(h2:200≤m)(hm:m≤50000)(hb:G m aB b)(hs:L3 50000 s)(hp:iu 50000 p):Ok (fun r=>G m aB r.1) (wZ N b s p):=by
 unfold wZ
 exact ag (Lt N hN hm hb.2.2.2.1 hs) fun r h=>cw (fun _=>aj G.fJ) fun _=>ag (U5 N hN hm hb.2.2.1 hp) fun r' h'=>cw (fun _=>aj G.fJ) fun _=>aj ⟨hb.1,hb.2.1,G.mono h2 h',G.mono h2 h,hb.2.2.2.2⟩
end VM
end
section
namespace VM
open Go VM.F
theorem db{α β:Type}{P:β→Prop}{o:Option α}{r:α}{f:α→Option β}(h:o=some r)(hf:Ok P (f r)):Ok P (o.bind f):=by rw[h];exact hf
theorem G.wf{m:Nat}(hm:m≤50000){b:af}(h:G m aB b):mZ b:=by
 obtain⟨h1,h2,h3,h4,h5,h6,_⟩:=h
 exact⟨⟨Nat.le_trans h1.1 (by omega),Nat.le_trans h2.1 (by omega),Nat.le_trans h3.1 (by omega),Nat.le_trans h4.1 (by omega),Nat.le_trans h5.1 (by omega),Nat.le_trans h6.1 (by omega),fun x hx=>(h3.2 x hx).2.2.1,fun x hx=>(h4.2 x hx).2.2.1⟩,Nat.le_trans h3.1 (by omega),Nat.le_trans h4.1 (by omega)⟩
theorem eJ(N:Nat)(hN:5000000≤N){c:aa}{b:af}{m:Nat}(hm:m≤50000)(h:G m aB b):bR N c b=some (bV c b):=si N hN (G.wf hm h).w
theorem U6{x:Int}(h:bo x):aA x:=by unfold bo at h;unfold aA;omega
theorem CA(N:Nat)(hN:4000000≤N)(t:gg)(p:Int):Ok (fun r=>iu 2 r.1) (K3 N t p):=by
 unfold K3
 refine db (sZ N t) (cw (fun _=>aj iu.nil) fun ht=>db (gY N p) (cw (fun _=>aj iu.nil) fun _=>ag (bt N hN (fy _)) fun a ha=>ag (bt N hN ?_) fun q hq=>ag (mg N hN (by omega) (by omega) ha hq) fun x hx=>ag (zG N hx) fun _ _=>ok_eq (fun _=>aj iu.nil) fun _=> ?_))
 ·have:=of_decide_eq_true ht
  unfold cz iI at this
  exact Int.le_trans (by decide) this.2.2.2.2.1.1 |> fun h=>⟨h,Int.lt_of_le_of_lt this.2.2.2.2.1.2 (by decide)⟩
 ·unfold E3
  have hr: ∀a:Int,Ok (fun _=>True) (cond (ay a 0) (some ((2:Int),(0:Int))) (some ((5:Int),a))):=fun a=>ok_eq (fun _=>aj trivial) fun _=>aj trivial
  refine ag (hr _) fun _ _=>ag (hr _) fun _ _=>ag (s5 N hN (by omega) hx) fun y hy=>aj ⟨Nat.le_refl 2,fun z hz=> ?_⟩
  rcases List.mem_cons.1 hz with rfl|hz
  ·exact Bg.mono hx (by omega)
  ·rw[List.mem_singleton.1 hz];exact Bg.mono hy (by omega)
theorem Ie(N:Nat)(hN:200000≤N){b:af}{m:Nat}(hm:m≤50000)(h:G m aB b)(id:Int):Ok (fun _=>True) (EU N b id):=mf (pO N b (G.wf hm h).w.a hN id) trivial
theorem DW(N:Nat)(hN:5000000≤N)(c:aa){b:af}{l:aX}{m:Nat}(h2:200≤m)(hm:m≤50000)(hb:G m aB b):Ok (fun r=>G m aB r.1) (ea N c b l):=by
 unfold ea ea.b
 refine db (eJ N hN hm hb) (cw (fun _=>aj G.fJ) fun hB=>az (fun _=>aj G.fJ) fun hl=> ?_)
 obtain⟨hp,_⟩:=cK hB
 refine bN (len:=l.length) (F:=fun n i (_:Unit)=>ea.l4 N n l c b (bK,(cg,(aY,(aY,(cD,(cJ,())))))) i) (s:=()) (fun i _=> ∀j,j<i→cz (l.getD j dT)) (fun j hj=>by omega) (by omega) (fun n i _ hi hI hr=> ?_) (fun n _ hI=> ?_)
 all_goals unfold ea.l4 ea.cA
 ·rw[al (x:=(i:Int)+1) (by omega) (by omega),ae i]
  refine az (fun _=>aC ⟨by omega,by omega⟩ (db (sZ N _) (cw (fun _=>aj G.fJ) fun ht=>hr () fun j hj=> ?_))) fun _=>by omega
  by_cases e:j=i
  ·rw[e];exact of_decide_eq_true ht
  ·exact hI j (by omega)
 ·refine az (fun _=>by omega) fun _=> ?_
  refine bN (len:=l.length) (F:=fun n i (s:ah×bw)=>ea.zy N n l c b (bK,(cg,(aY,(aY,(cD,(cJ,())))))) s.1 s.2 i) (s:=(_,_)) (fun i s=>L3 (2*i) s.1∧iu (2*i) s.2) ⟨G.nil,iu.nil⟩ (by omega) (fun n i s hi hJ hr=> ?_) (fun n s hJ=> ?_)
  all_goals unfold ea.zy ea.w1
  ·have ht:=hI i hi
   unfold cz iI at ht
   have Mi:=hJ.1.1
   have Mw:=hJ.2.1
   have g64: ∀x:Int,0≤x∧x≤1000000→aA x:=fun x h=>gL (by omega) (by omega)
   dsimp only
   rw[al (x:=(i:Int)+1) (by omega) (by omega),ae i,Int.toNat_natCast]
   refine az (fun _=>aC ⟨by omega,by omega⟩ (ag (Ie N (by omega) hm hb _) fun _ _=>cw (fun _=>aj G.fJ) fun _=>ag (Ie N (by omega) hm hb _) fun _ _=>cw (fun _=>aj G.fJ) fun _=>dX (fun _=>aj G.fJ) fun dD=>aN ?_ (aC ⟨ht.2.2.2.1.1,by omega⟩ (ag (CA N (by omega) _ _) fun r h=>aN ?_ (hr (_,_) ⟨?_,iu.mono (iu.app hJ.2 h) (by omega)⟩))))) fun _=>by omega
   ·rw[List.length_cons,List.length_singleton];omega
   ·have:=h.1;omega
   ·have hq:aA (l.getD i dT).2.2.2.1:=⟨Int.le_trans (by decide) ht.2.2.2.2.1.1,Int.lt_of_le_of_lt ht.2.2.2.2.1.2 (by decide)⟩
    have lG:aA (l.getD i dT).2.2.1:=g64 _ ⟨ht.2.2.2.1.1,Int.le_trans (Int.le_of_lt ht.2.2.2.1.2) (by decide)⟩
    have h1:=G.app (G.app hJ.1 (G3 (g64 _ ⟨ht.1.1,Int.le_trans ht.1.2 (by decide)⟩) lG hq)) (G3 (g64 _ ⟨ht.2.1.1,Int.le_trans ht.2.1.2 (by decide)⟩) lG (fy (0-(l.getD i dT).2.2.2.1)))
    rw[List.append_assoc]at h1
    exact G.mono (by omega) h1
  ·exact az (fun _=>by omega) fun _=>ag (qQ N (by omega) h2 hm hb (G.mono (by omega) hJ.1) (iu.mono hJ.2 (by omega))) fun r h=>aj h
end VM
end
section
namespace VM
open Go VM.F
def CB(k:Nat)(l:ij):Prop:= ∀x∈l,Bg k x
theorem CB.mono{j k:Nat}{l:ij}(h:CB j l)(hk:j≤k):CB k l:=fun x hx=>Bg.mono (h x hx) hk
theorem CB.at{k:Nat}{l:ij}(h:CB k l)(h1:1≤k)(i:Nat):Bg k (l.getD i (false,kQ)):=by
 by_cases hk:i<l.length
 ·rw[List.getD_eq_getElem?_getD,List.getElem?_eq_getElem hk];exact h _ (List.getElem_mem hk)
 ·rw[List.getD_eq_getElem?_getD,List.getElem?_eq_none (by omega)];exact Bg.mono Bg.zero h1
theorem CB.set{k:Nat}{l:ij}{x:aw}(h:CB k l)(hx:Bg k x)(i:Nat):CB k (l.set i x):=fun y hy=>by
 rcases List.mem_or_eq_of_mem_set hy with hy|rfl
 ·exact h y hy
 ·exact hx
theorem CB.rep{k n:Nat}(h:1≤k):CB k (List.replicate n (false,kQ)):=fun x hx=>by
 rw[(List.mem_replicate.1 hx).2];exact Bg.mono Bg.zero h
theorem U7(N:Nat)(hN:5000000≤N)(c:aa){b:af}{m:Nat}(hm:m≤50000)(hb:G m aB b):Ok (fun r=>(r.2=0→bV c b=true∧r.1.length=4)∧CB 20 r.1) (jJ N c b):=by
 unfold jJ jJ.b
 have w:=(G.wf hm hb).w
 refine db (eJ N hN hm hb) (cw (fun _=>aj ⟨fun h=>absurd h (by decide),fun x hx=>nomatch hx⟩) fun hB=>U4 ⟨by omega,by omega,by omega⟩ ?_)
 obtain⟨hp,yP⟩:=cK hB
 obtain⟨h6,Td⟩:=fI (dq hB)
 refine bN (len:=c.1.length) (F:=fun n i (s:ij)=>jJ.l5 N n c b s i) (fun i s=>s.length=4∧CB (8+i) s) ⟨List.length_replicate ..,CB.rep (by omega)⟩ (by omega) (fun n i s hi hI hr=> ?_) (fun n s hI=> ?_)
 all_goals unfold jJ.l5 jJ.c5
 ·have hk:=Td i hi
  have hl:=hI.1
  rw[al (x:=(i:Int)+1) (by omega) (by omega),ae i,Int.toNat_natCast]
  have in1: ∀{x y:Option (ij×Int)},Ok (fun r=>(r.2=0→bV c b=true∧r.1.length=4)∧CB 20 r.1) x→Ok (fun r=>(r.2=0→bV c b=true∧r.1.length=4)∧CB 20 r.1) (cond (aH (c.1.getD i aK).1 s.length) x y):=fun h=>aC ⟨hk.1,Int.lt_of_le_of_lt hk.2 (show(3:Int)<(s.length:Int)by omega)⟩ h
  exact az (fun _=>aC ⟨by omega,by omega⟩ (in1 (db (zx N w.s (by omega) 0 (i:Int)) (ag (bt N (by omega) (E5 w.qs 0 (i:Int))) fun a ha=>aC ⟨by omega,by omega⟩ (ag (bt N (by omega) (U6 (kp yP (by omega)))) fun p hp=>ag (mg N (by omega) (by omega) (by omega) ha hp) fun x hx=>ag (g8 N (by omega) (by omega) (CB.at hI.2 (by omega) _) (Bg.mono hx (by omega))) fun y hy=>in1 (hr _ ⟨by rw[List.length_set];exact hl,CB.set (CB.mono hI.2 (by omega)) hy _⟩)))))) fun _=>by omega
 ·exact az (fun _=>by omega) fun _=>aj ⟨fun _=>⟨hB,hI.1⟩,CB.mono hI.2 (by omega)⟩
theorem af8(N:Nat)(hN:5000000≤N)(c:aa)(hc:aA (qN c)){b:af}{m:Nat}(hm:m≤50000)(hb:G m aB b)(next:Int):Ok (fun r=>G 4 (.slice dB) r.1) (mG N c b next):=by
 unfold mG mG.b
 refine ag (U7 N hN c hm hb) fun z hz=>cW (fun _=>aj G.nil) fun h0=>az (fun _=>aj G.nil) fun h1=>az (fun _=>aj G.nil) fun h2=> ?_
 obtain⟨hB,hl4⟩:=hz.1 h0
 obtain⟨hp,yP⟩:=cK hB
 obtain⟨h6,Td⟩:=fI (dq hB)
 refine bN (len:=4) (F:=fun n k (s:Int×aE)=>mG.l6 N n s.1 c b z.1 s.2 k) (s:=(_,_)) (fun k s=>G k (.slice dB) s.2∧next≤s.1∧s.1≤next+k) ⟨G.nil,by omega,by omega⟩ (by omega) (fun n k s hk hI hr=> ?_) (fun n s hI=> ?_)
 all_goals unfold mG.l6 mG.pJ
 ·have Mi:=hI.1.1
  have Mw:=hI.2
  rw[al (x:=(k:Int)+1) (by omega) (by omega),ae k]
  have oO:=hr s ⟨G.mono (by omega) hI.1,by omega,by omega⟩
  refine az (fun _=>db (AZ N (by omega) c (by omega) (k:Int)) (aC ⟨by omega,by omega⟩ (ag (sA N (by omega) (by omega) (CB.at hz.2 (by omega) _)) fun u hu=>ok_eq (fun _=>oO) fun gk=>ag (bt N (by omega) hc) fun v hv=>ag (uD N (by omega) (by omega) (by omega) hu hv) fun _ _=>dX (fun _=>oO) fun _=> ?_))) fun _=>by omega
  have ah5:bH c (k:Int)≠[]:=fun e=>gk (by rw[e];rfl)
  have hh:0≤(bH c (k:Int)).getD 0 0∧(bH c (k:Int)).getD 0 0<(c.1.length:Int):=by
   have h1:=ah5
   unfold bH at h1 ⊢
   rw[dq hB,if_pos rfl]at h1 ⊢
   have:=ss h1
   omega
  have hl0:0<(bH c (k:Int)).length:=List.length_pos_iff.2 ah5
  have hpx:=kp yP (i:=((bH c (k:Int)).getD 0 0).toNat) (by omega)
  have hj: ∀q:Int,aA q→Ok (fun r=>G 4 (.slice dB) r.1) (mG.wA N (mG.l6 N n) s.1 c b z.1 s.2 (k:Int) (bH c (k:Int)) q):=fun q hq=>by
   unfold mG.wA mG.pS
   rw[al (x:=(k:Int)+1) (by omega) (by omega),ae k,al (x:=s.1+1) (by omega) (by omega)]
   have u6: ∀d:Int,aA d→Ok (fun r=>G 4 (.slice dB) r.1) (cond (small (s.2.length+[((s.1,((bH c (k:Int)).getD 0 0,(d,(q,())))):br)].length)) (mG.l6 N n (s.1+1) c b z.1 (s.2++[(s.1,((bH c (k:Int)).getD 0 0,(d,(q,()))))]) ((k+1:Nat):Int)) none):=fun d hd=>
    aN (by rw[List.length_singleton];omega) (hr (_,_) ⟨G.app hI.1 ⟨by show aA s.1;unfold aA;omega,(show aA ((bH c (k:Int)).getD 0 0)from gL (by omega) (by omega)),hd,hq,trivial⟩,by dsimp only;omega,by dsimp only;omega⟩)
   exact ok_eq (fun _=>oO) fun _=>aC ⟨by omega,by omega⟩ (aC ⟨by omega,by omega⟩ (ag (zG N (CB.at hz.2 (by omega) _)) fun _ _=>az (fun _=>u6 2 (gL (by omega) (by omega))) fun _=>u6 1 (gL (by omega) (by omega))))
  have hb9:aA 1000000000:=by unfold aA;decide
  refine aC ⟨by omega,by omega⟩ (aC ⟨hh.1,by show(bH c (k:Int)).getD 0 0<_;omega⟩ ?_)
  obtain⟨a,rfl,ha⟩:=hu
  have an6:=hpx
  unfold bo at an6
  rw[show(0:Int).toNat=0 from rfl]
  refine db (cj N (by omega) (by omega) (by omega)) (db (EM N hN (by omega) (Fit.mono ha (by omega)) ((Fit.i64 (by omega) (by omega)).mono (by omega))) (db (nM N _) (cw (fun _=>hj _ hb9) fun _=>az (fun _=>hj _ hb9) fun _=>hj _ (Ls _))))
 ·exact az (fun _=>by omega) fun _=>aj hI.1
end VM
end
section
namespace VM
open Go VM.F
theorem Ig(N:Nat)(hN:200000≤N){l:aT}(hl:l.length≤100000)(a:Int):Ok (fun r=>L3 6 r) (di N l a):=by
 unfold di di.b
 refine bN (len:=6) (F:=fun n k (s:ah)=>di.l3 N n l a s k) (fun k s=>L3 k s) G.nil (by omega) (fun n k s hk hI hr=> ?_) (fun n s hI=> ?_)
 all_goals unfold di.l3 di.jP
 ·have hs:=hI.1
  refine az (fun _=> ?_) fun _=>by omega
  refine bN (len:=l.length) (F:=fun n' i (x:ca)=>di.l7 N (di.l3 N n) n' l a s (k:Int) x i) (fun i x=>G 6 fD x) (G3 (gL (by omega) (by omega)) bx bx) (by omega) (fun n' i x hi hx dw=> ?_) (fun n' x hx=> ?_)
  all_goals unfold di.l7 di.mq
  ·rw[al (x:=(i:Int)+1) (by omega) (by omega),ae i]
   have h1:=dw x hx
   repeat' first|exact h1|refine aC ⟨by omega,by omega⟩ ?_|refine az (fun _=> ?_) (fun _=> ?_)|refine cW (fun _=> ?_) (fun _=> ?_)|refine ok_eq (fun _=> ?_) (fun _=> ?_)|(exfalso;omega)|exact dw (_,(_,(_,_))) ⟨hx.1,fy _,hx.2.2.1,trivial⟩|exact dw (_,(_,(_,_))) ⟨hx.1,hx.2.1,fy _,trivial⟩
  ·rw[al (x:=(k:Int)+1) (by omega) (by omega),ae k]
   have h1:=hr s (G.mono (by omega) hI)
   have h2:=hr (s++[x]) ⟨by rw[List.length_append,List.length_singleton];omega,fun y hy=>by
    rcases List.mem_append.1 hy with hy|hy
    ·exact G.mono (by omega) (hI.2 y hy)
    ·rw[List.mem_singleton.1 hy];exact⟨hx.1,hx.2.1,hx.2.2.1,trivial⟩⟩
   repeat' first|exact h1|exact h2|refine aN (by rw[List.length_singleton];omega) ?_|refine az (fun _=> ?_) (fun _=> ?_)|(exfalso;omega)
 ·exact az (fun _=>by omega) fun _=>aj hI
theorem DX(N:Nat)(hN:200000≤N)(c:aa){l:ah}(hl:l.length≤100000):Ok (fun _=>True) (iK N c l):=by
 unfold iK iK.b
 refine db (nN N (by omega) c) (cw (fun _=>aj trivial) fun _=>lD (len:=l.length) (F:=fun n i=>iK.l5 N n l c 33000000000 i) (by omega) (fun n i hi hr=> ?_) fun n=> ?_)
 all_goals unfold iK.l5 iK.c5
 ·rw[al (x:=(i:Int)+1) (by omega) (by omega),ae i]
  dsimp only
  repeat' first|exact hr|exact aj trivial|refine aC ⟨by omega,by omega⟩ ?_|refine aC (by rw[al (x:=(i:Int)-1) (by omega) (by omega)];omega) ?_|refine az (fun _=> ?_) (fun _=> ?_)|refine dX (fun _=> ?_) (fun _=> ?_)|refine ok_eq (fun _=> ?_) (fun _=> ?_)|(exfalso;omega)
 ·exact az (fun _=>by omega) fun _=>aj trivial
theorem Fw{k:Nat}(h:1≤k):Bg k (false,(([]:List Int),())):=Bg.mono Bg.zero h
theorem RT(N:Nat)(hN:4000000≤N)(c:aa){l:av}{o:ah}{m:Nat}(hm:m≤50000)(hl:G m (.slice g9) l)(ho:L3 m o)(k:Int):Ok (fun r=>Bg 3 r.1) (dI N c l o k):=by
 have h1:=hl.1
 have h2:=ho.1
 unfold dI dI.b
 refine db (pP N (by omega) c (by omega)) (cw (fun _=>aj (Fw (by omega))) fun _=>ag (DX N (by omega) c (by omega)) fun _ _=>cw (fun _=>aj (Fw (by omega))) fun _=>az (fun _=>aj (Fw (by omega))) fun _=>dX (fun _=>aj (Fw (by omega))) fun _=> ?_)
 refine bN (len:=l.length) (F:=fun n i (q:aw)=>dI.l7 N n l o k (false,(([]:List Int),())) q (false,(([]:List Int),())) (false,(([]:List Int),())) i) (fun _ q=>Bg 2 q) (Fw (by omega)) (by omega) (fun n i q hi hq hr=> ?_) (fun n q hq=> ?_)
 all_goals unfold dI.l7 dI.mq
 ·rw[al (x:=(i:Int)+1) (by omega) (by omega),ae i]
  exact az (fun _=>aC ⟨by omega,by omega⟩ (ok_eq (fun _=>aC ⟨by omega,by omega⟩ (ag (bt N hN (G.at hl _).2.1) fun r h=>hr r h)) fun _=>hr q hq)) fun _=>by omega
 ·refine az (fun _=>by omega) fun _=> ?_
  refine bN (len:=o.length) (F:=fun n i (z:aw×aw)=>dI.kd N n o k (false,(([]:List Int),())) q z.1 z.2 i) (s:=(_,_)) (fun _ z=>Bg 2 z.1∧Bg 2 z.2) ⟨Fw (by omega),Fw (by omega)⟩ (by omega) (fun n i z hi hz hr=> ?_) (fun n z hz=> ?_)
  all_goals unfold dI.kd dI.jb
  ·rw[al (x:=(i:Int)+1) (by omega) (by omega),ae i]
   exact az (fun _=>aC ⟨by omega,by omega⟩ (ok_eq (fun _=>aC ⟨by omega,by omega⟩ (ag (bt N hN (G.at ho _).2.1) fun r h=>aC ⟨by omega,by omega⟩ (ag (bt N hN (G.at ho _).2.2.1) fun r' h'=>hr (r,r') ⟨h,h'⟩))) fun _=>hr z hz)) fun _=>by omega
  ·exact az (fun _=>by omega) fun _=>ag (g8 N hN (by omega) hq hz.1) fun x hx=>ag (sA N hN (by omega) hx) fun x hx=>ag (zF N hN (by omega) hq hz.2) fun y hy=>ag (sA N hN (by omega) hy) fun y hy=>ag (uD N hN (by omega) (by omega) hy hx) fun _ _=>az (fun _=>aj hy) fun _=>aj hx
theorem RU(N:Nat)(hN:4000000≤N){c:aa}{l:av}{o:ah}{m:Nat}(hm:m≤50000)(hc:G m ar c)(hl:G m (.slice g9) l)(ho:L3 m o):Ok (fun r=>Bg 60000 r.1) (jh N c l o):=by
 have h1:=hl.1
 have h2:=ho.1
 have h3:=hc.1.1
 unfold jh jh.b
 refine db (pP N (by omega) c (by omega)) (cw (fun _=>aj (Fw (by omega))) fun _=>ag (DX N (by omega) c (by omega)) fun _ _=>cw (fun _=>aj (Fw (by omega))) fun _=> ?_)
 refine bN (len:=c.1.length) (F:=fun n i (t:aw)=>jh.l5 N n l o c (false,(([]:List Int),())) t i) (fun i t=>Bg (8+i) t) (Fw (by omega)) (by omega) (fun n i t hi ht hr=> ?_) (fun n t ht=> ?_)
 all_goals unfold jh.l5 jh.c5
 ·rw[al (x:=(i:Int)+1) (by omega) (by omega),ae i]
  exact az (fun _=>ag (RT N hN c hm hl ho _) fun x hx=>aC ⟨by omega,by omega⟩ (ag (bt N hN (G.at hc.1 _).2.2.1) fun r h=>ag (mg N hN (by omega) (by omega) hx h) fun y hy=>ag (g8 N hN (by omega) ht (Bg.mono hy (by omega))) fun z hz=>hr z hz)) fun _=>by omega
 ·exact az (fun _=>by omega) fun _=>aj (Bg.mono ht (by omega))
theorem ah6{m:Nat}{l:ah}(h:L3 m l)(a:Int):G m (.slice g9) (posOf l a):=by
 refine⟨Nat.le_trans (sY a l) h.1,fun y hy=> ?_⟩
 unfold posOf at hy
 split at hy
 ·obtain⟨x,hx,_,e⟩:=fO hy
  rw[e];exact⟨(h.2 x hx).2.1,(h.2 x hx).2.2.1,trivial⟩
 ·nomatch hy
theorem Nd(N:Nat)(hN:200000≤N){l:ah}{m:Nat}(hm:m≤50000)(h:L3 m l)(a:Int):Ok (G m (.slice g9)) (tK N l a):=mf (E2 N (Nat.le_trans h.1 (by omega)) hN a) (ah6 h a)
theorem Ih(N:Nat)(hN:4000000≤N){c:aa}{b:af}{l:aT}{m:Nat}(h2:200≤m)(hm:m≤40000)(hc:G m ar c)(hb:G m aB b)(hl:l.length≤1000)(a:Int):Ok (Bg 60000) (Ln N c b a l):=by
 have ho:=hb.2.2.2.2.2.1.1
 unfold Ln
 refine aN (by rw[List.length_nil];omega) ?_
 dsimp only
 rw[List.nil_append]
 exact aN (by omega) (ag (Nd N (by omega) (by omega) hb.2.2.2.1 a) fun r h=>ag (Ig N (by omega) (by rw[List.length_append];omega) a) fun o h'=>ag (RU N hN (by omega) hc h (G.mono (by omega) h')) fun x hx=>aj hx)
end VM
end
section
namespace VM
open Go VM.F
theorem U8(N:Nat)(hN:4000000≤N){o:ck}{m:Nat}(ho:G m jA o)(a:Int):Ok (fun r=>Bg 4 r.1) (Lm N o a):=by
 unfold Lm
 have hw: ∀x:Int,Ok (fun r:aw×Int=>Bg 4 r.1) ((fN N o.2.2.2.2.1).bind fun r5=>(fN N (W .i64 x)).bind fun r6=>(fZ N r5 r6).bind fun r7=>some (r7,(0:Int))):=fun x=>
  ag (bt N hN ho.2.2.2.2.1) fun r h=>ag (bt N hN (fy _)) fun r' h'=>ag (mg N hN (by omega) (by omega) h h') fun y hy=>aj hy
 exact db (sS N o) (cw (fun _=>aj (Fw (by omega))) fun _=>db (gY N a) (cw (fun _=>aj (Fw (by omega))) fun _=>ok_eq (fun _=>az (fun _=>aj (Fw (by omega))) fun _=>hw _) fun _=>az (fun _=>aj (Fw (by omega))) fun _=>hw _))
theorem ack{m:Nat}{a:aE}(h:G m (.slice dB) a)(id:Int):G m dB (dL a id).1:=by
 unfold dL
 split
 ·have: ∀l:aE,(∀x∈l,G m dB x)→G m dB (se id l).1:=by
   intro l
   induction l with
   |nil=>intro _;exact G.zero m dB
   |cons x t ih=>
    intro hx
    rw[qw]
    split
    ·exact hx x (List.mem_cons_self ..)
    ·exact ih fun y hy=>hx y (List.mem_cons_of_mem _ hy)
  exact this a h.2
 ·exact G.zero m dB
theorem s6(N:Nat)(hN:200000≤N){a:aE}{m:Nat}(hm:m≤50000)(h:G m (.slice dB) a)(id:Int):Ok (fun r=>G m dB r.1) (AG N a id):=mf (AF N (Nat.le_trans h.1 (by omega)) hN id) (ack h id)
theorem nv(N:Nat)(hN:200000≤N){a:av}{m:Nat}(hm:m≤50000)(h:G m (.slice g9) a)(id:Int):Ok (fun _=>True) (vB N a id):=mf (uh N (Nat.le_trans h.1 (by omega)) hN id) trivial
theorem pg(N:Nat)(hN:200000≤N){l:ah}{m:Nat}(hm:m≤50000)(h:L3 m l)(a b:Int):Ok aA (qE N l a b):=mf (K2 N (Nat.le_trans h.1 (by omega)) hN a b) (AW (fun x hx=>(h.2 x hx).2.2.1) a b)
theorem Ii(N:Nat)(hN:5000000≤N){c:aa}{b:af}{o:ck}{m:Nat}(h2:200≤m)(hm:m≤40000)(hc:G m ar c)(hb:G m aB b)(ho:G m jA o):Ok (fun _=>True) (Ic N c b o):=by
 have tY:=hb.2.2.2.2.2.1.1
 unfold Ic
 refine db (eJ N hN (by omega) hb) (cw (fun _=>aj trivial) fun hB=>db (sS N o) (cw (fun _=>aj trivial) fun hr=>ag (s6 N (by omega) (by omega) hb.2.1 _) fun x hx=>cw (fun _=>aj trivial) fun _=>ag (nv N (by omega) (by omega) hb.1 _) fun _ _=>cW (fun _=>aj trivial) fun _=>dX (fun _=>aj trivial) fun hi=>aN (by rw[List.length_nil];omega) ?_))
 have hr:=of_decide_eq_true hr
 unfold ff kW at hr
 obtain⟨hp,_⟩:=cK hB
 dsimp only
 rw[List.nil_append]
 exact aN (by rw[List.length_singleton];omega) (ag (Nd N (by omega) (by omega) hb.2.2.2.1 _) fun r h=>ag (Ig N (by omega) (by rw[List.length_append,List.length_singleton];omega) _) fun q h'=>ag (RT N (by omega) c (by omega) h (G.mono (by omega) h') _) fun t ht=>ag (bt N (by omega) hx.2.2.2.1) fun v hv=>ag (uD N (by omega) (by omega) (by omega) ht hv) fun _ _=>az (fun _=>aj trivial) fun _=>aC ⟨hr.2.2.1.1,by rw[hp];exact hi⟩ (ag (U8 N (by omega) ho _) fun e he=>ag (pg N (by omega) (by omega) hb.2.2.1 _ _) fun g hg=>ag (bt N (by omega) hg) fun y hy=>ag (zF N (by omega) (by omega) (Bg.mono hy (by omega)) he) fun z hz=>ag (Ih N (by omega) h2 hm hc hb (by rw[List.length_singleton];omega) _) fun u hu=>ag (uD N (by omega) (by omega) (by omega) hz hu) fun _ _=>az (fun _=>aj trivial) fun _=>aj trivial))
theorem U9(N:Nat)(hN:5000000≤N){c:aa}{b:af}{h:br}{a q p:Int}{m:Nat}(h2:200≤m)(hm:m≤40000)(hc:G m ar c)(hb:G m aB b)(hh:G m dB h)(ha:aA a)(hq:aA q)(hp:aA p):Ok (fun r=>G m aB r.1∧G m dB r.2.1) (me N c b h a q p):=by
 have ho:G m jA (h.1,(a,(h.2.1,(W .i64 (3-h.2.2.1),(q,(p,())))))):=⟨hh.1,ha,hh.2.1,fy _,hq,hp,trivial⟩
 have gi: ∀e:Int,Ok (fun r:af×br×Int=>G m aB r.1∧G m dB r.2.1) (some ((bK,(cg,(aY,(aY,(cD,(cJ,())))))),(aK,e))):=fun e=>aj ⟨G.fJ,G.zero m dB⟩
 unfold me me.b
 have hj: ∀t:gg,Ok (fun r=>G m aB r.1∧G m dB r.2.1) (me.j14 N q c b h (bK,(cg,(aY,(aY,(cD,(cJ,())))))) aK t):=fun t=>by
  unfold me.j14 me.U2
  exact ag (DW N hN c h2 (by omega) hb) fun r hr=>cW (fun _=>gi _) fun _=>aj ⟨hr,hh.1,hh.2.1,hh.2.2.1,fy _,trivial⟩
 exact db (eJ N hN (by omega) hb) (cw (fun _=>gi _) fun _=>db (kz N h) (cw (fun _=>gi _) fun _=>az (fun _=>gi _) fun _=>az (fun _=>gi _) fun _=>az (fun _=>gi _) fun _=>az (fun _=>gi _) fun _=>az (fun _=>gi _) fun _=>az (fun _=>gi _) fun _=>az (fun _=>gi _) fun _=>ag (Ii N hN h2 hm hc hb ho) fun e _=>cW (fun _=>gi _) fun _=>ok_eq (fun _=>hj _) fun _=>hj _))
end VM
end
