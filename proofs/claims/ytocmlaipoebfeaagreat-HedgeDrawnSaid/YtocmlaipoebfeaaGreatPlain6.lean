/- A part of the proof of HedgeDrawn of layer 22: what the functions compute, in plain words. -/
import Derived.Test.YtocmlaipoebfeaaGreatPlain5
set_option linter.all false
section
namespace VM
open Go VM.F
def jF(s p a:Int):Int:=if s=2 then a-p else p-a
def yI(q s p a:Int):Int:=if jF s p a<0 then 0 else q*jF s p a
def aiZ(o:cr)(a:Int):Int:=yI (oQ o) o.2.2.2.1 o.2.2.2.2.2.1 a
def kD(o:cr)(a:Int):Int×Int:=if fj o∧bt a then(aiZ o a,0)else(0,1)
theorem IH{q s p a:Int}(hq:1≤q∧q≤1000000000)(hp:bt p)(ha:bt a): -1000000000000000000000≤q*jF s p a∧q*jF s p a≤1000000000000000000000∧(q*jF s p a<0↔jF s p a<0)∧ -1000000000000≤jF s p a∧jF s p a≤1000000000000:=by
 have hd: -1000000000000≤jF s p a∧jF s p a≤1000000000000:=by
  unfold jF bt at*
  split<;>omega
 generalize jF s p a=d at*
 have h1: -(q*1000000000000)≤q*d:=by
  rw[←aBg];exact azm (by omega) (by omega)
 have h2:q*d≤q*1000000000000:=azm (by omega) (by omega)
 refine⟨by omega,by omega,⟨fun h=> ?_,fun h=> ?_⟩,hd⟩
 ·by_cases h0:d<0
  ·exact h0
  ·have:=aAb (a:=q) (b:=d) (by omega) (by omega)
   omega
 ·have:q*d≤q*(-1):=azm (by omega) (by omega)
  omega
theorem Eo(o:cr)(a:Int):0≤(kD o a).1∧(kD o a).1≤1000000000000000000000:=by
 unfold kD
 by_cases h:fj o∧bt a
 ·rw[ayF h]
  obtain⟨ho,ha⟩:=h
  unfold fj ld at ho
  have:=IH (s:=o.2.2.2.1) (q:=oQ o) ho.2.2.2.2.1 ho.2.2.2.2.2 ha
  show 0≤yI _ _ _ _∧yI _ _ _ _≤_
  unfold yI
  split<;>omega
 ·rw[ayE h];decide
def SA(b:ag)(a:Int):bp:=(dP b.2.1 a).1
def ui(b:ag)(a:Int):Int:=(SA b a).2.2.2.1
def SB(b:ag)(a:Int):Int:=mc b.1 (SA b a).2.1
def iP(b:ag)(o:cr):aj:=pt (b.2.2.2.2.2.1++[o]) o.2.1
def wB(c:aa)(b:ag)(o:cr):Int:=
 if ui b o.2.1<(m4 c (posOf b.2.2.2.1 o.2.1) (iP b o) (oI o)).1 then 9 else
 if rE b.2.2.1 5 o.2.1-(kD o (b.2.2.2.2.1.getD (oI o).toNat 0)).1<(fp c (posOf b.2.2.2.1 o.2.1) (iP b o)).1 then 10 else 0
def lO(c:aa)(b:ag)(o:cr):Int:=
 if bW c b then(if fj o then(if(dP b.2.1 o.2.1).2 then(if SB b o.2.1=1 then(if(c.1.length:Int)≤oI o then 3 else wB c b o)else 7)else 3)else 1)else 1
theorem Py(N:Nat){q s p a:Int}(hq:1≤q∧q≤1000000000)(hp:bt p)(ha:bt a):((CU N q (W .i64 (p-a))).bind fun r4=>cond (aA s 2) ((CU N q (W .i64 (a-p))).bind fun r6=>(Qp N r6).bind fun r7=>cond (aG r7 0) (some (bL,(0:Int))) (some (r6,(0:Int)))) ((Qp N r4).bind fun r8=>cond (aG r8 0) (some (bL,(0:Int))) (some (r4,(0:Int)))))=some (bl (yI q s p a),0):=by
 have hn:=IH (s:=s) hq hp ha
 unfold bt at hp ha
 have hs: ∀d:Int,lW (q*d)<0↔q*d<0:=fun d=>by unfold lW;split<;>(try split)<;>omega
 rw[ak (x:=p-a) (by omega) (by omega),vL N (by omega) (by omega) (by omega) (by omega),ayy,au,ak (x:=a-p) (by omega) (by omega),vL N (by omega) (by omega) (by omega) (by omega),ayy,n0,n0,ayy,ayy,aL,aL]
 unfold yI
 by_cases h:s=2
 ·have e:jF s p a=a-p:=by unfold jF;rw[ayF h]
  rw[ayF h]
  rw[e]at hn ⊢
  have:=hs (a-p)
  by_cases h1:a-p<0
  ·rw[ayF h1,ayF (this.2 (hn.2.2.1.2 h1))];rfl
  ·rw[ayE h1,ayE (fun k=>h1 (hn.2.2.1.1 (this.1 k)))]
 ·have e:jF s p a=p-a:=by unfold jF;rw[ayE h]
  rw[ayE h]
  rw[e]at hn ⊢
  have:=hs (p-a)
  by_cases h1:p-a<0
  ·rw[ayF h1,ayF (this.2 (hn.2.2.1.2 h1))];rfl
  ·rw[ayE h1,ayE (fun k=>h1 (hn.2.2.1.1 (this.1 k)))]
theorem VZ(N:Nat)(o:cr)(a:Int):SC N o a=some (bl (kD o a).1,(kD o a).2):=by
 unfold SC kD
 rw[Li,ayy,cond_not,cq,q5,ayy,cond_not,cq]
 by_cases ho:fj o
 ·rw[ayF ho]
  by_cases ha:bt a
  ·rw[ayF ha,ayF ⟨ho,ha⟩]
   unfold fj ld at ho
   exact Py N ho.2.2.2.2.1 ho.2.2.2.2.2 ha
  ·rw[ayE ha,ayE (fun h=>ha h.2)];rfl
 ·rw[ayE ho,ayE (fun h=>ho h.1)];rfl
theorem L0(N:Nat)(hN:4000000≤N){q s p a:Int}(hq:1≤q∧q≤1000000000)(hp:bt p)(ha:bt a):(let v3:Int:=W .i64 (p-a);cond (aA s 2) (let v4:Int:=W .i64 (a-p);cond (aG v4 0) (some (br 0,(0:Int))) ((fQ N q).bind fun r5=>(fQ N v4).bind fun r6=>(gf N r5 r6).bind fun r7=>some (r7,(0:Int)))) (cond (aG v3 0) (some (br 0,(0:Int))) ((fQ N q).bind fun r8=>(fQ N v3).bind fun r9=>(gf N r8 r9).bind fun gA=>some (gA,(0:Int)))))=some (br (yI q s p a),0):=by
 unfold bt at hp ha
 have f: ∀x:Int,-9223372036854775808≤x→x<9223372036854775808→Fit x 90000:=fun x h1 h2=>(Fit.i64 h1 h2).mono (by omega)
 dsimp only
 rw[ak (x:=p-a) (by omega) (by omega),ak (x:=a-p) (by omega) (by omega),au,aL,aL,cn N (by omega) (by omega) (by omega),ayy,ayy,cn N (by omega) (by omega) (by omega),ayy,cn N (by omega) (by omega) (by omega),ayy,lY N (by omega) (f _ (by omega) (by omega)) (f _ (by omega) (by omega)),ayy,lY N (by omega) (f _ (by omega) (by omega)) (f _ (by omega) (by omega)),ayy]
 unfold yI
 by_cases h:s=2
 ·have e:jF s p a=a-p:=by unfold jF;rw[ayF h]
  rw[ayF h,e]
  split<;>rfl
 ·have e:jF s p a=p-a:=by unfold jF;rw[ayE h]
  rw[ayE h,e]
  split<;>rfl
theorem SD(N:Nat)(hN:4000000≤N)(o:cr)(a:Int):L1 N o a=some (br (kD o a).1,(kD o a).2):=by
 unfold L1 kD
 rw[tc,ayy,cond_not,cq,ia,ayy,cond_not,cq,←ez]
 by_cases ho:fj o
 ·rw[ayF ho]
  by_cases ha:bt a
  ·rw[ayF (show 1≤a∧a≤1000000000000 from ha),ayF ⟨ho,ha⟩]
   unfold fj ld at ho
   exact L0 N hN ho.2.2.2.2.1 ho.2.2.2.2.2 ha
  ·rw[ayE (show ¬(1≤a∧a≤1000000000000)from ha),ayE (fun h=>ha h.2)]
 ·rw[ayE ho,ayE (fun h=>ho h.1)]
theorem FX{f:Int→Int×Int}{x:bY}: ∀m k,x∈IB f m k→ ∃j:Int,x=nz j (f j)
 |0,_,hx=>nomatch hx
 |m+1,k,hx=>by
  rw[iN]at hx
  split at hx
  ·rcases ayY.1 hx with rfl|hx
   ·exact⟨_,rfl⟩
   ·exact FX m (k+1) hx
  ·exact FX m (k+1) hx
theorem Pz{l:aU}(h:C5 l)(hl:l.length≤33)(a:Int): ∀x∈pt l a,zT (x.2.1,x.2.2.1):=fun x hx=>by
 obtain⟨j,rfl⟩:=FX 6 0 hx
 have:=zS h a j
 unfold zo at this
 show 0≤(FT l a j).1∧(FT l a j).1≤33000000000∧0≤(FT l a j).2∧(FT l a j).2≤33000000000
 omega
theorem Ep(id:Int): ∀a:aD,(sA id a).2=true→(sA id a).1∈a
 |[],h=>nomatch h
 |x::t,h=>by
  rw[qR]at h ⊢
  by_cases e:x.1=id
  ·rw[ayF e];exact ayN ..
  ·rw[ayE e]at h ⊢;exact ayK _ (Ep id t h)
theorem SE{b:ag}{a:Int}(h:(dP b.2.1 a).2=true):0≤ui b a∧ui b a≤1000000000000:=by
 unfold ui SA
 unfold dP at h ⊢
 by_cases hk:kf b.2.1=true
 ·rw[ayF hk]at h ⊢
  obtain⟨i,hi,e⟩:=azG (Ep a b.2.1 h)
  unfold kf at hk
  rw[azW]at hk
  have:=(ayV hk i hi).1
  rw[ayC,ayG hi,az9,e]at this
  unfold jf at this
  exact this.2.2.2
 ·rw[ayE hk]at h;nomatch h
theorem uj{c:aa}{b:ag}(h:bW c b=true):eF b.2.2.2.2.2.1=true:=by
 unfold bW at h
 simp only[ayQ]at h
 exact h.2.2.2.2.2.1
theorem adq{b:ag}{o:cr}(h:eF b.2.2.2.2.2.1=true)(ho:fj o):C5 (b.2.2.2.2.2.1++[o])∧(b.2.2.2.2.2.1++[o]).length≤33:=by
 obtain⟨h1,h2⟩:=BF h
 refine⟨fun x hx=> ?_,by rw[ayH,ayA];omega⟩
 rcases ayU.1 hx with hx|hx
 ·exact h1 x hx
 ·rw[ay0.1 hx];exact ho.2.2.2.2.1
theorem PA(l:aU)(a:Int):(pt l a).length≤6:=FU _ 6 0
theorem BM(b:ag)(o:cr):(iP b o).length≤6:=FU _ 6 0
theorem yJ(x:Int):0<lW x↔0<x:=by unfold lW;split<;>(try split)<;>omega
theorem yK(x:Int):lW x<0↔x<0:=by unfold lW;split<;>(try split)<;>omega
theorem SF(N:Nat)(hN:4000000≤N)(c:aa){b:ag}(w:eS b)(o:cr):F50 N c b o=some (lO c b o):=by
 unfold F50 lO
 rw[zN N hN w,ayy,cond_not,Li,ayy,cond_not,cq,Nq N w.a (by omega),ayy,cond_not,xf N w.m (by omega),ayy,cond_not,au,bm]
 by_cases hB:bW c b=false
 ·rw[hB];rfl
 rw[azD]at hB
 rw[hB,ayz,ayF rfl]
 by_cases ho:fj o
 ·rw[ayF ho,ayF ho]
  cases hf:(dP b.2.1 o.2.1).2 with
  |false=>rfl
  |true=>
   rw[ayz,ayF rfl]
   show(if SB b o.2.1=1 then _ else _)=_
   by_cases hs:SB b o.2.1=1
   ·rw[ayF hs,ayF hs]
    show(if(c.1.length:Int)≤oI o then _ else _)=_
    by_cases hi:(c.1.length:Int)≤oI o
    ·rw[ayF hi,ayF hi]
    ·rw[ayE hi,ayE hi]
     have Vc:=uj hB
     obtain⟨hq,h32⟩:=BF Vc
     have Ol:=ho
     unfold fj ld at Ol
     have jy:=wi w.qs o.2.1
     have nc:=SE hf
     have Ap:=tj o.2.1 b.2.2.2.1
     have G4:=w.s
     have Ac:=BM b o
     have hw:=yG c (iP b o) jy
     have ht:=El c (iP b o) jy (oI o)
     have hL:=Eo o (b.2.2.2.2.1.getD (oI o).toNat 0)
     have hg:=Bh w.qr 5 o.2.1
     obtain⟨za,_⟩:=cO hB
     have h0:0≤oI o:=Ol.2.2.1.1
     rw[abm N w.s (by omega),ayy,Ss N (by omega) w.o,ayy,ayF Vc,VV N (by omega) (o:=o) Ol.2.2.2.2.1 (azl (PA _ o.2.1) (by decide)) (Pz hq (by omega) _),ayy,ID hq ho]
     show((eU N c (posOf b.2.2.2.1 o.2.1) (iP b o) (oI o)).bind fun r8=>(CV N (ui b o.2.1)).bind fun r9=>(CY N r8.1 r9).bind fun gA=>cond (aG 0 gA) (some (9:Int)) ((nq N c (posOf b.2.2.2.1 o.2.1) (iP b o)).bind fun jV=>cond (aI (oI o) (List.length b.2.2.2.2.1)) ((SC N o (List.getD b.2.2.2.2.1 (oI o).toNat (0:Int))).bind fun iX=>(Ik N jV.1 iX.1).bind fun jE=>(mj N b.2.2.1 (5:Int) o.2.1).bind fun mF=>(V0 N mF jE.1).bind fun ob=>cond (!ob) (some (10:Int)) (some (0:Int))) (none)))=some (wB c b o)
     unfold aB at hg
     rw[Sx N (by omega) c (by omega) jy (by omega),ayy,mL N (by omega) (by omega),ayy,vW,ayy,aL,Sz N (by omega) c (by omega) jy (by omega),ayy,aF h0 (by omega),ayz,VZ,ayy,FF N (by unfold bB;omega) (by unfold bB;omega) (by unfold bB;omega),ayy,VI N w.r (by omega),ayy]
     unfold V0 wB
     rw[mL N hg.1 hg.2,ayy,vW,ayy,ayy,cond_not,bm]
     have s1:=yJ ((m4 c (posOf b.2.2.2.1 o.2.1) (iP b o) (oI o)).1-ui b o.2.1)
     by_cases h1:ui b o.2.1<(m4 c (posOf b.2.2.2.1 o.2.1) (iP b o) (oI o)).1
     ·rw[ayF h1,ayF (by omega)]
     ·rw[ayE h1,ayE (by omega)]
      have s2:=yK (rE b.2.2.1 5 o.2.1-((fp c (posOf b.2.2.2.1 o.2.1) (iP b o)).1+(kD o (b.2.2.2.2.1.getD (oI o).toNat 0)).1))
      by_cases h2:rE b.2.2.1 5 o.2.1-(kD o (b.2.2.2.2.1.getD (oI o).toNat 0)).1<(fp c (posOf b.2.2.2.1 o.2.1) (iP b o)).1
      ·rw[ayF h2,ayE (by omega)]
      ·rw[ayE h2,ayF (by omega)]
   ·rw[ayE hs,ayE hs]
 ·rw[ayE ho,ayE ho]
theorem PB(N:Nat)(hN:4000000≤N)(c:aa){b:ag}(w:eS b){o:cr}(h:C5 (b.2.2.2.2.2.1++[o])∧(b.2.2.2.2.2.1++[o]).length≤33):L4 N c b o.2.1 [o]=some (br (fp c (posOf b.2.2.2.1 o.2.1) (iP b o)).1):=by
 unfold L4
 have hl:=h.2
 rw[ayH,ayA]at hl
 have Ap:=tj o.2.1 b.2.2.2.1
 have G4:=w.s
 have Ac:=BM b o
 rw[a8 (by rw[ayW];omega),ayz]
 dsimp only
 rw[ay8,a8 (by rw[ayA];omega),ayz,FB N w.s (by omega),ayy,Ej N (by omega) h.1 (by omega),ayy]
 show((jm N c (posOf b.2.2.2.1 o.2.1) (iP b o)).bind fun r5=>some r5.1)=_
 rw[Px N (by omega) c (by omega) (wi w.qs o.2.1) (by omega),ayy]
theorem PC(N:Nat)(hN:5000000≤N)(c:aa){b:ag}(w:eS b)(o:cr):II N c b o=some (lO c b o):=by
 unfold II lO
 rw[sE N hN w,ayy,cond_not,tc,ayy,cond_not,cq,AZ N w.a (by omega),ayy,cond_not,uH N w.m (by omega),ayy,cond_not,au,bm]
 by_cases hB:bW c b=false
 ·rw[hB];rfl
 rw[azD]at hB
 rw[hB,ayz,ayF rfl]
 by_cases ho:fj o
 ·rw[ayF ho,ayF ho]
  cases hf:(dP b.2.1 o.2.1).2 with
  |false=>rfl
  |true=>
   rw[ayz,ayF rfl]
   show(if SB b o.2.1=1 then _ else _)=_
   by_cases hs:SB b o.2.1=1
   ·rw[ayF hs,ayF hs]
    show(if(c.1.length:Int)≤oI o then _ else _)=_
    by_cases hi:(c.1.length:Int)≤oI o
    ·rw[ayF hi,ayF hi]
    ·rw[ayE hi,ayE hi]
     have Vc:=uj hB
     have hmq:=adq Vc ho
     have hl:=hmq.2
     rw[ayH,ayA]at hl
     have Ol:=ho
     unfold fj ld at Ol
     have jy:=wi w.qs o.2.1
     have nc:=SE hf
     have Ap:=tj o.2.1 b.2.2.2.1
     have G4:=w.s
     have Ac:=BM b o
     have hw:=yG c (iP b o) jy
     have ht:=El c (iP b o) jy (oI o)
     have hL:=Eo o (b.2.2.2.2.1.getD (oI o).toNat 0)
     have hg:=Bh w.qr 5 o.2.1
     obtain⟨za,_⟩:=cO hB
     have h0:0≤oI o:=Ol.2.2.1.1
     have f: ∀x:Int,-170141183460469231731687303715884105728≤x→x<170141183460469231731687303715884105728→Fit x 900000:=fun x h1 h2=>ij ⟨h1,h2⟩
     rw[a8 (by rw[ayW];omega),ayz]
     dsimp only
     rw[ay8,a8 (by rw[ayA];omega),ayz,FB N w.s (by omega),ayy,Ej N (by omega) hmq.1 (by omega),ayy,PB N (by omega) c w hmq]
     show((dM N c (posOf b.2.2.2.1 o.2.1) (iP b o) (oI o)).bind fun r9=>(fQ N (ui b o.2.1)).bind fun gA=>(DB N r9.1 gA).bind fun jV=>cond (aG 0 jV) (some (9:Int)) (cond (aI (oI o) (List.length b.2.2.2.2.1)) ((L1 N o (List.getD b.2.2.2.2.1 (oI o).toNat (0:Int))).bind fun iX=>(qZ N b.2.2.1 (5:Int) o.2.1).bind fun jE=>(fQ N jE).bind fun mF=>(KC N mF iX.1).bind fun ob=>(some (br (fp c (posOf b.2.2.2.1 o.2.1) (iP b o)).1)).bind fun ri=>(DB N ob ri).bind fun rO=>cond (aG rO 0) (some (10:Int)) (some (0:Int))) (none)))=some (wB c b o)
     unfold aB at hg
     rw[NQ N (by omega) c (by omega) jy (by omega),ayy,cn N (by omega) (by omega) (by omega),ayy,sv N (by omega) (f _ (by omega) (by omega)) (f _ (by omega) (by omega)),ayy,aL,aF h0 (by omega),ayz,SD N (by omega),ayy,LC N w.r (by omega),ayy,cn N (by omega) hg.1 hg.2,ayy,o7 N (by omega) (f _ (by omega) (by omega)) (f _ (by omega) (by omega)),ayy,ayy,sv N (by omega) (f _ (by omega) (by omega)) (f _ (by omega) (by omega)),ayy,aL]
     unfold wB
     have s1:=yJ ((m4 c (posOf b.2.2.2.1 o.2.1) (iP b o) (oI o)).1-ui b o.2.1)
     by_cases h1:ui b o.2.1<(m4 c (posOf b.2.2.2.1 o.2.1) (iP b o) (oI o)).1
     ·rw[ayF h1,ayF (by omega)]
     ·rw[ayE h1,ayE (by omega)]
      have s2:=yK (rE b.2.2.1 5 o.2.1-(kD o (b.2.2.2.2.1.getD (oI o).toNat 0)).1-(fp c (posOf b.2.2.2.1 o.2.1) (iP b o)).1)
      by_cases h2:rE b.2.2.1 5 o.2.1-(kD o (b.2.2.2.2.1.getD (oI o).toNat 0)).1<(fp c (posOf b.2.2.2.1 o.2.1) (iP b o)).1
      ·rw[ayF h2,ayF (by omega)]
      ·rw[ayE h2,ayE (by omega)]
   ·rw[ayE hs,ayE hs]
 ·rw[ayE ho,ayE ho]
end VM
end
section
namespace VM
open Go VM.F
def Ct(q:Int):Prop:=1≤q∧q≤1000000000
instance(q:Int):Decidable (Ct q):=by unfold Ct;infer_instance
def qi(a b c d:Int):Prop:=(1≤a∧a≤1099511627776)∧(0≤b∧b<6)∧(c=1∨c=2)∧Ct d
instance(a b c d:Int):Decidable (qi a b c d):=by unfold qi;infer_instance
def kE(h:bp):Prop:=qi h.1 h.2.1 h.2.2.1 h.2.2.2.1
instance(h:bp):Decidable (kE h):=by unfold kE;infer_instance
theorem V1(N:Nat)(q:Int):L7 N q=some (decide (Ct q)):=by
 unfold L7
 rw[jW q,ei]
 congr 1
 rw[aAi,azB]
 unfold Ct
 simp only[ayQ,aAG]
theorem kF(N:Nat)(h:bp):PD N h=some (decide (kE h)):=by
 unfold PD
 rw[jW h.2.2.2.1]
 rw[ei,AY,xd,AX,ei,ei,ei]
 congr 1
 rw[aAi,azB]
 unfold kE qi Ct
 simp only[ayQ,aAj,aAr,aAG,aBh]
 omega
theorem pF(N:Nat)(h:bp):F48 N h=some (decide (kE h)):=by
 rw[←kF N h]
 unfold F48 PD L7
 have e: ∀x:Option Bool,(x.bind fun r=>some r)=x:=fun x=>by cases x<;>rfl
 rw[e]
def BN(h:bp)(a q p:Int):cr:=(h.1,(a,(h.2.1,((3-h.2.2.1:Int),(q,(p,()))))))
def wC(h:bp)(a q p:Int):gk:=if h.2.2.1=1 then((0:Int),(a,(h.2.1,(q,(p,())))))else(a,((0:Int),(h.2.1,(q,(p,())))))
def BO(c:aa)(b:ag)(h:bp)(q:Int)(r:ag×Int):ag×bp×Int:=
 if r.2=0 then(r.1,(h.1,(h.2.1,(h.2.2.1,((h.2.2.2.1-q:Int),())))),0)else((bE,(cg,(aX,(aX,(cC,(cK,())))))),aJ,r.2)
def wD(c:aa)(b:ag)(h:bp)(a q p:Int):ag×bp×Int:=
 if lO c b (BN h a q p)=0 then BO c b h q (kz c b [wC h a q p])else((bE,(cg,(aX,(aX,(cC,(cK,())))))),aJ,lO c b (BN h a q p))
def gl(c:aa)(b:ag)(h:bp)(a q p:Int):ag×bp×Int:=
 if bW c b then(if kE h then(if Ct q then(if bt p then(if h.2.2.2.1<q then((bE,(cg,(aX,(aX,(cC,(cK,())))))),aJ,9)else wD c b h a q p)else((bE,(cg,(aX,(aX,(cC,(cK,())))))),aJ,1))else((bE,(cg,(aX,(aX,(cC,(cK,())))))),aJ,1))else((bE,(cg,(aX,(aX,(cC,(cK,())))))),aJ,1))else((bE,(cg,(aX,(aX,(cC,(cK,())))))),aJ,1)
theorem FY(N:Nat)(hN:4000000≤N)(c:aa){b:ag}(w:ni b)(h:bp)(a q p:Int):BP N c b h a q p=some (gl c b h a q p):=by
 unfold BP BP.b gl
 rw[zN N hN w.w,ayy,cond_not,pF,ayy,cond_not,cq,V1,ayy,cond_not,cq,q5,ayy,cond_not,cq,aL]
 by_cases hB:bW c b=false
 ·rw[hB];rfl
 rw[azD]at hB
 rw[hB,ayz,ayF rfl]
 by_cases hh:kE h
 ·rw[ayF hh,ayF hh]
  by_cases hq:Ct q
  ·rw[ayF hq,ayF hq]
   by_cases hp:bt p
   ·rw[ayF hp,ayF hp]
    by_cases hl:h.2.2.2.1<q
    ·rw[ayF hl,ayF hl]
    ·rw[ayE hl,ayE hl]
     have Ku:=hh
     unfold kE qi at Ku
     have hg: ∀s:Int,s=1∨s=2→W .i64 (3-s)=3-s:=fun s hs=>ak (by omega) (by omega)
     have KT: ∀x:Int,Ct x→Ct q→W .i64 (x-q)=x-q:=fun x hx hq=>by unfold Ct at*;exact ak (by omega) (by omega)
     rw[hg _ Ku.2.2.1]
     show((F50 N c b (BN h a q p)).bind fun r6=>_)=some (wD c b h a q p)
     rw[SF N hN c w.w,ayy,cond_not,au]
     unfold wD
     by_cases h0:lO c b (BN h a q p)=0
     ·rw[ayF h0,ayF h0,au]
      have fin: ∀t:gk,t=wC h a q p→BP.j12 N q c b h (bE,(cg,(aX,(aX,(cC,(cK,())))))) aJ t=some (BO c b h q (kz c b [wC h a q p])):=fun t e=>by
       subst e
       unfold BP.j12 BP.adt BO
       rw[Pk N hN c w (by rw[ayA];omega),ayy,cond_not,au,KT _ Ku.2.2.2 hq]
       split<;>rfl
      by_cases h1:h.2.2.1=1
      ·rw[ayF h1];exact fin _ (by unfold wC;rw[ayF h1])
      ·rw[ayE h1];exact fin _ (by unfold wC;rw[ayE h1])
     ·rw[ayE h0,ayE h0]
   ·rw[ayE hp,ayE hp]
  ·rw[ayE hq,ayE hq]
 ·rw[ayE hh,ayE hh]
theorem SG(N:Nat)(hN:5000000≤N)(c:aa){b:ag}(w:ni b)(h:bp)(a q p:Int):mz N c b h a q p=some (gl c b h a q p):=by
 unfold mz mz.b gl
 rw[sE N hN w.w,ayy,cond_not,kF,ayy,cond_not,cq,aL,aL,aL,aL,aL,aL,aL]
 by_cases hB:bW c b=false
 ·rw[hB];rfl
 rw[azD]at hB
 rw[hB,ayz,ayF rfl]
 by_cases hh:kE h
 ·rw[ayF hh,ayF hh]
  by_cases hq:Ct q
  ·have oH:=hq
   unfold Ct at oH
   rw[ayF hq,ayE (show ¬q<1 by omega),ayE (show ¬1000000000<q by omega)]
   by_cases hp:bt p
   ·have wN:=hp
    unfold bt at wN
    rw[ayF hp,ayE (show ¬p<1 by omega),ayE (show ¬1000000000000<p by omega)]
    by_cases hl:h.2.2.2.1<q
    ·rw[ayF hl,ayF hl]
    ·rw[ayE hl,ayE hl]
     have Ku:=hh
     unfold kE qi at Ku
     have hg: ∀s:Int,s=1∨s=2→W .i64 (3-s)=3-s:=fun s hs=>ak (by omega) (by omega)
     have KT: ∀x:Int,Ct x→Ct q→W .i64 (x-q)=x-q:=fun x hx hq=>by unfold Ct at*;exact ak (by omega) (by omega)
     have EY: ¬(1≤a∧a≤24)→wD c b h a q p=((bE,(cg,(aX,(aX,(cC,(cK,())))))),aJ,1):=fun hn=>by
      have:lO c b (BN h a q p)=1:=by
       unfold lO
       rw[ayF hB,ayE]
       intro ho
       unfold fj ld at ho
       exact hn ho.2.1
      unfold wD
      rw[this];rfl
     by_cases ha:1≤a∧a≤24
     ·rw[ayE (show ¬a<1 by omega),ayE (show ¬24<a by omega),hg _ Ku.2.2.1]
      show((II N c b (BN h a q p)).bind fun r6=>_)=some (wD c b h a q p)
      rw[PC N hN c w.w,ayy,cond_not,au]
      unfold wD
      by_cases h0:lO c b (BN h a q p)=0
      ·rw[ayF h0,ayF h0,au]
       have fin: ∀t:gk,t=wC h a q p→mz.j14 N q c b h (bE,(cg,(aX,(aX,(cC,(cK,())))))) aJ t=some (BO c b h q (kz c b [wC h a q p])):=fun t e=>by
        subst e
        unfold mz.j14 mz.V2 BO
        rw[LH N hN c w (by rw[ayA];omega),ayy,cond_not,au,KT _ Ku.2.2.2 hq]
        split<;>rfl
       have Vc: ∀s:Int,s=1∨s=2→(s=2↔ ¬s=1):=fun s hs=>by omega
       by_cases h1:h.2.2.1=1
       ·rw[ayE (fun k=>(Vc _ Ku.2.2.1).1 k h1)];exact fin _ (by unfold wC;rw[ayF h1])
       ·rw[ayF ((Vc _ Ku.2.2.1).2 h1)];exact fin _ (by unfold wC;rw[ayE h1])
      ·rw[ayE h0,ayE h0]
     ·rw[EY ha]
      by_cases h1:a<1
      ·rw[ayF h1]
      ·rw[ayE h1,ayF (show 24<a by omega)]
   ·rw[ayE hp]
    unfold bt at hp
    by_cases h1:p<1
    ·rw[ayF h1]
    ·rw[ayE h1,ayF (show 1000000000000<p by omega)]
  ·rw[ayE hq]
   unfold Ct at hq
   by_cases h1:q<1
   ·rw[ayF h1]
   ·rw[ayE h1,ayF (show 1000000000<q by omega)]
 ·rw[ayE hh,ayE hh]
end VM
end
section
namespace VM
open Go VM.F Go.RowKit
theorem SH(N:Nat)(hN:4000000≤N){v:Int}(h:bB v):F46 N (bl v)=some (br v):=by
 unfold F46 bl
 unfold bB at h
 dsimp only
 have hv:VD [(0:Int),0,1]:=VD.cons (by omega) (by omega) (VD.cons (by omega) (by omega) (VD.cons (by omega) (by omega) VD.nil))
 have Au:cf [(0:Int),0,1]=18446744073709551616:=by decide
 have hl:(iC (v%18446744073709551616).toNat).length≤2:=qI 2 _ (by
  rw[show(4294967296:Nat)^2=18446744073709551616 from rfl];omega)
 have f2: ∀x:Int,(x.natAbs:Int)≤18446744073709551616→Fit x 90000:=fun x hx=>by
  refine Fit.mono (j:=3) ?_ (by omega)
  unfold Fit
  rw[show(4294967296:Nat)^3=79228162514264337593543950336 from rfl]
  omega
 rw[cn N (by omega) (by omega) (by omega),ayy,lL N false hv (by simp;omega) (by simp),ayy,ayE aAQ,Au,lY N hN (f2 _ (by omega)) (f2 _ (by omega)),ayy,size_eq N (by omega) (by omega) (by omega),ayy,lL N false (gi _) (by omega) (by omega),ayy,ayE aAQ,eL,azM (by omega),eM N hN (ij (by unfold bB;omega)) (ij (by unfold bB;omega)),ayy,show v/18446744073709551616*18446744073709551616+v%18446744073709551616=v by omega]
theorem SI(N:Nat)(hN:4000000≤N){v:Int}(h:bB v):V3 N (bl v) (br v)=some true:=by
 unfold V3
 rw[SH N hN h,ayy,sv N hN (ij h) (ij h),ayy,Int.sub_self,show lW 0=0 from rfl,b9]
theorem L8(N:Nat){l:aD}(hl:l.length≤100000)(hN:200000≤N):mU N l l=some true:=by
 unfold mU mU.b
 rw[b9,ayL,ayB]
 refine jB (F:=fun n i=>mU.l4 N n l l i) (len:=l.length) (fun n i hi hr=> ?_) (fun n=> ?_) l.length N 0 (by omega) (by omega) (by omega)
 ·unfold mU.l4 mU.cD
  rw[aE (by omega),ayz,aF (by omega) (by omega),ayz,ayz,Bc,ayL,ayB,ak (x:=(i:Int)+1) (by omega) (by omega),ae i]
  exact hr
 ·unfold mU.l4 mU.cD
  rw[az (by omega),ayB]
theorem BQ(c:aa)(b:ag)(next:Int): ∀m k out,(tM c b next m k out).length≤out.length+m
 |0,_,_=>ayJ _
 |m+1,k,out=>by
  rw[tq]
  have h1:=BQ c b next m (k+1) out
  split
  ·omega
  ·split
   ·omega
   ·refine azl (BQ c b next m (k+1) _) ?_
    rw[ayH,ayA];omega
theorem BR(c:aa)(b:ag)(next:Int):(gT c b next).1.length≤100000:=by
 unfold gT
 split
 ·split
  ·exact azl (BQ c b next 4 0 []) (by decide)
  ·exact azn _
 ·exact azn _
theorem FZ{c:aa}{b:ag}(w:eS b)(l:aZ):Be (kz c b l).1:=by
 unfold kz
 repeat' split
 all_goals first|exact Ig w _ _|exact nH
theorem BS{c:aa}{b:ag}(w:eS b)(h:bp)(a q p:Int):Be (gl c b h a q p).1:=by
 have hr: ∀r:ag×Int,Be r.1→Be (BO c b h q r).1:=fun r hr=>by
  unfold BO
  split
  ·exact hr
  ·exact nH
 have hc:Be (wD c b h a q p).1:=by
  unfold wD
  split
  ·exact hr _ (FZ w _)
  ·exact nH
 unfold gl
 repeat' split
 all_goals first|exact hc|exact nH
theorem L9(N:Nat)(hN:4000000≤N){x9:bp}{x b:ag}(f:Int→Int)(hf: ∀k,bB (f k)){r:Bool}
  (he: ∀(k9:tN.wE) (ws:c3) (bs:iw),tN.C6 N k9 x9 ws bs x b (ws.length:Int)=some r):tN.KD N N x9 (eH f) (kR f) x b 0=some r:=by
 have hwl:(eH f).length=4:=rfl
 have tW:(kR f).length=4:=rfl
 have key: ∀(m n i:Nat),i+m=4→m<n→tN.KD N n x9 (eH f) (kR f) x b (i:Int)=some r:=by
  intro m n
  induction n generalizing m with
  |zero=>intro i _ hn;omega
  |succ n ih=>
   intro i hi hn
   by_cases h:i<4
   ·unfold tN.KD tN.C6
    rw[hwl,tW,aE (by omega),ayz,aF (by omega) (by omega),ayz,ayz,xu f (by omega),Bm f (by omega),SI N hN (hf _),ayy,ayL,ayB,ak (x:=(i:Int)+1) (by omega) (by omega),ae i]
    exact ih (m-1) (i+1) (by omega) (by omega)
   ·have e:i=4:=by omega
    subst e
    unfold tN.KD
    exact he _ (eH f) (kR f)
 exact key 4 N 0 (by omega) (by omega)
theorem IJ(N:Nat)(hN:5000000≤N)(c:aa)(hc:aB (qf c)){b:ag}(w:ni b)(h:bp)(next a q p:Int):tN N c b h next a q p=some true:=by
 unfold tN tN.b
 have sh:=BS (c:=c) w.w h a q p
 rw[FN N (by omega) c w.w,ayy,Ij N hN c w.w,ayy,BD N (by omega) c hc w.w,ayy,BE N hN c hc w.w,ayy,FY N (by omega) c w,ayy,SG N hN c w,ayy,b9,b9,L8 N (BR c b next) (by omega),ayy,Bc]
 have he: ∀(k9:tN.wE) (ws:c3) (bs:iw),tN.C6 N k9 h ws bs (gl c b h a q p).1 (gl c b h a q p).1 (ws.length:Int)=some true:=fun k9 ws bs=>by
  unfold tN.C6
  rw[az (by omega),ayB,R8 N (by omega) sh.m sh.a sh.r sh.s sh.p sh.o,ayy,ayz,pF,ayy,kF,ayy,lX,aBs]
 by_cases hB:bW c b=true
 ·rw[ayF hB,ayF hB]
  dsimp only
  rw[b9,show((eH (bF c b)).length:Int)=((kR (bF c b)).length:Int)from rfl,b9,ayL,ayB,ayB,ayB,ayB,ayB,ayB]
  exact L9 N (by omega) (bF c b) (fun k=>(wv w.w hB k).1) he
 ·rw[ayE hB,ayE hB]
  dsimp only
  rw[b9,ayW,ayW,b9,ayL,ayB,ayB,ayB,ayB,ayB,ayB]
  obtain⟨m,rfl⟩: ∃m,N=m+1:=⟨N-1,by omega⟩
  unfold tN.KD
  exact he _ [] []
def hC:aa:=([((0:Int),((100:Int),((1:Int),((0:Int),())))),((0:Int),((7:Int),bL))],((0:Int),((0:Int),((0:Int),((0:Int),((1:Int),((10:Int),())))))))
def hR:aj:=[((1:Int),((0:Int),((-90:Int),()))),((5:Int),((1:Int),((90:Int),())))]
def hS:aj:=[((0:Int),((0:Int),((5:Int),()))),((0:Int),((1:Int),((20:Int),()))),((1:Int),((0:Int),((-5:Int),()))),((1:Int),((1:Int),((-20:Int),())))]
def hB:ag:=([((1:Int),((1:Int),()))],([((1:Int),((1:Int),((1:Int),((50:Int),()))))],(hR,(hS,([(100:Int),(7:Int)],(cK,()))))))
def hO:bp:=((4:Int),((0:Int),((2:Int),((6:Int),()))))
theorem hW:ni hB:=⟨⟨by decide,by decide,by decide,by decide,by decide,by decide,NC (l:=hR) (by decide),NC (l:=hS) (by decide)⟩,by decide,by decide⟩
theorem hOk:bW hC hB=true:=by kernel_rfl
theorem hN0:bF hC hB 0=640:=by kernel_rfl
theorem hOr:gT hC hB 4=([hO],0):=by kernel_rfl
theorem Gu:(gl hC hB hO 1 2 99).2.2=0:=by kernel_rfl
theorem aoA:(gl hC hB hO 1 2 99).2.1.2.2.2.1=4:=by kernel_rfl
theorem aoB:mR (gl hC hB hO 1 2 99).1.2.2.2.1 0 0=3:=by kernel_rfl
theorem aoC:rE (gl hC hB hO 1 2 99).1.2.2.1 2 0= -2:=by kernel_rfl
theorem hF7:(gl hC hB hO 1 7 99).2.2=9:=by kernel_rfl
theorem hRi:kE hO:=by decide
theorem hWn:(bl 640).2.1=640:=by kernel_rfl
theorem PE(N:Nat)(hN:5000000≤N):F38 N=some true:=by
 unfold F38 F99
 rw[ayy]
 show(wq N hC hB).bind _=_
 rw[FN N (by omega) hC hW.w,ayy,hOk,ayF rfl]
 show(qq N hC hB 4).bind _=_
 rw[BD N (by omega) hC (by decide) hW.w,ayy,hOr]
 have sh:=BS (c:=hC) hW.w hO 1 2 99
 dsimp only
 have hl1:([hO]:aD).length=1:=rfl
 have hl4:(eH (bF hC hB)).length=4:=rfl
 rw[hl1,hl4,b9,ayL,ayB,ayB,cQ (x:=((4:Nat):Int)) (y:=4) (by omega),cQ (x:=((1:Nat):Int)) (y:=1) (by omega),ayL,ayB,ayB,aF (i:=0) (n:=1) (by omega) (by omega),aF (i:=0) (n:=4) (by omega) (by omega),ayz]
 show(BP N hC hB hO 1 2 99).bind _=_
 rw[FY N (by omega) hC hW,ayy,ayz]
 show(BP N hC hB hO 1 7 99).bind _=_
 rw[FY N (by omega) hC hW,ayy,ayz]
 show cond (aA (bl (bF hC hB 0)).2.1 640) (cond true (cond (jT c9 hO hO) (cond (aA (gl hC hB hO 1 2 99).2.2 0) (cond (aA (gl hC hB hO 1 2 99).2.1.2.2.2.1 4) ((wS N (gl hC hB hO 1 2 99).1.2.2.2.1 0 0).bind fun r6=>cond (aA r6 3) ((qZ N (gl hC hB hO 1 2 99).1.2.2.1 2 0).bind fun r7=>cond (aA r7 (-2)) (cond (aA (gl hC hB hO 1 7 99).2.2 9) (cond true ((F48 N hO).bind fun r8=>some r8) none) (some false)) (some false)) (some false)) (some false)) (some false)) (some false)) none) (some false)=some true
 rw[hN0,hWn,b9,ayz,ayz,show jT c9 hO hO=true from Bc hO,ayz,Gu,b9,ayz,aoA,b9,ayz,zQ N sh.s (by omega),ayy,aoB,b9,ayz,LC N sh.r (by omega),ayy,aoC,b9,ayz,hF7,b9,ayz,ayz,pF,ayy,ayO hRi]
namespace Pure
end Pure
end VM
end
section
namespace VM
open Go VM.F
def Ok{α:Type}(P:α→Prop)(o:Option α):Prop:= ∃r,o=some r∧P r
theorem ah{α:Type}{P:α→Prop}{r:α}(h:P r):Ok P (some r):=⟨r,rfl,h⟩
theorem af{α β:Type}{P:β→Prop}{Q:α→Prop}{o:Option α}{f:α→Option β}(h:Ok Q o)(hf: ∀r,Q r→Ok P (f r)):Ok P (o.bind f):=by
 obtain⟨r,rfl,hr⟩:=h
 exact hf r hr
theorem mA{α:Type}{P:α→Prop}{o:Option α}{r:α}(h:o=some r)(hr:P r):Ok P o:=⟨r,h,hr⟩
theorem rj{α:Type}{P:α→Prop}{b:Bool}{x y:Option α}(hx:b=true→Ok P x)(hy:b=false→Ok P y):Ok P (cond b x y):=by
 cases b
 ·exact hy rfl
 ·exact hx rfl
theorem bN{α:Type}{P:α→Prop}{b:Bool}{x y:Option α}(hx:b=false→Ok P x)(hy:b=true→Ok P y):Ok P (cond (!b) x y):=by
 cases b
 ·exact hx rfl
 ·exact hy rfl
theorem aw{α:Type}{P:α→Prop}{a b:Int}{x y:Option α}(hx:a<b→Ok P x)(hy:b≤a→Ok P y):Ok P (cond (aG a b) x y):=by
 rw[aL]
 split
 ·exact hx (by assumption)
 ·exact hy (by omega)
theorem dE{α:Type}{P:α→Prop}{a b:Int}{x y:Option α}(hx:a≤b→Ok P x)(hy:b<a→Ok P y):Ok P (cond (bX a b) x y):=by
 rw[bm]
 split
 ·exact hx (by assumption)
 ·exact hy (by omega)
theorem ok_eq{α:Type}{P:α→Prop}{a b:Int}{x y:Option α}(hx:a=b→Ok P x)(hy:a≠b→Ok P y):Ok P (cond (aA a b) x y):=by
 rw[au]
 split
 ·exact hx (by assumption)
 ·exact hy (by assumption)
theorem bZ{α:Type}{P:α→Prop}{a b:Int}{x y:Option α}(hx:a≠b→Ok P x)(hy:a=b→Ok P y):Ok P (cond (!aA a b) x y):=by
 rw[cond_not];exact ok_eq hy hx
theorem ay{α:Type}{P:α→Prop}{i:Int}{n:Nat}{x y:Option α}(h:0≤i∧i<(n:Int))(hx:Ok P x):Ok P (cond (aI i n) x y):=by
 rw[aF h.1 h.2];exact hx
theorem aH{α:Type}{P:α→Prop}{n:Nat}{x y:Option α}(h:n<68719476736)(hx:Ok P x):Ok P (cond (small n) x y):=by
 rw[a8 h];exact hx
theorem V4{α:Type}{P:α→Prop}{l c:Int}{x y:Option α}(h:0≤l∧l≤c∧c<68719476736)(hx:Ok P x):Ok P (cond (gg l c) x y):=by
 rw[bJ h.1 h.2.1 h.2.2];exact hx
theorem F0{α:Type}{P:α→Prop}{l h m n:Int}{x y:Option α}(hh:0≤l∧l≤h∧h≤m∧m≤n)(hx:Ok P x):Ok P (cond (gH l h m n) x y):=by
 rw[cH hh.1 hh.2.1 hh.2.2.1 hh.2.2.2];exact hx
theorem iY{σ β:Type}{P:β→Prop}{F:Nat→Int→σ→Option β}{len:Nat}(I:Nat→σ→Prop)
  (hs: ∀n i s,i<len→I i s→(∀s',I (i+1) s'→Ok P (F n ((i+1:Nat):Int) s'))→Ok P (F (n+1) (i:Int) s)) (he: ∀n s,I len s→Ok P (F (n+1) (len:Int) s)):
  ∀m n i s,len-i≤m→m<n→i≤len→I i s→Ok P (F n (i:Int) s)
 |m,0,i,s,_,hn,_,_=>by omega
 |m,n+1,i,s,hm,hn,hi,hI=>by
  by_cases h:i<len
  ·exact hs n i s h hI fun s' tY=>iY I hs he (m-1) n (i+1) s' (by omega) (by omega) (by omega) tY
  ·have:i=len:=by omega
   subst this
   exact he n s hI
theorem bw{σ β:Type}{P:β→Prop}{F:Nat→Int→σ→Option β}{len:Nat}(I:Nat→σ→Prop){N:Nat}{s:σ}(h0:I 0 s)(hN:len<N)
  (hs: ∀n i s,i<len→I i s→(∀s',I (i+1) s'→Ok P (F n ((i+1:Nat):Int) s'))→Ok P (F (n+1) (i:Int) s)) (he: ∀n s,I len s→Ok P (F (n+1) (len:Int) s)):Ok P (F N 0 s):=
 iY I hs he len N 0 s (by omega) hN (by omega) h0
theorem kG{β:Type}{P:β→Prop}{F:Nat→Int→Option β}{len N:Nat}(hN:len<N)
  (hs: ∀n i,i<len→Ok P (F n ((i+1:Nat):Int))→Ok P (F (n+1) (i:Int))) (he: ∀n,Ok P (F (n+1) (len:Int))):Ok P (F N 0):=
 bw (σ:=Unit) (F:=fun n i _=>F n i) (fun _ _=>True) (s:=()) trivial hN (fun n i _ h _ hr=>hs n i h (hr () trivial)) fun n _ _=>he n
theorem zX{σ β:Type}{P:β→Prop}{F:Nat→Int→σ→Option β}(I:Nat→σ→Prop)
  (hs: ∀n (k:Nat) s,I (k+1) s→(∀s',I k s'→Ok P (F n (k:Int) s'))→Ok P (F (n+1) ((k+1:Nat):Int) s)) (he: ∀n s,I 0 s→Ok P (F (n+1) 0 s)):
  ∀(k n:Nat) s,k<n→I k s→Ok P (F n (k:Int) s)
 |0,0,s,hn,_=>by omega
 |0,n+1,s,hn,hI=>he n s hI
 |k+1,0,s,hn,_=>by omega
 |k+1,n+1,s,hn,hI=>hs n k s hI fun s' tY=>zX I hs he k n s' (by omega) tY
def G(m:Nat):(τ:Ty)→τ.den→Prop
 | .int .i64,x=>aB x
 | .int .u64,x=>0≤x∧x<18446744073709551616
 | .slice e,l=>List.length l≤m∧ ∀x∈(l:List e.den),G m e x
 | .pair a b,x=>G m a x.1∧G m b x.2
 |_,_=>True
theorem G.mono{m n:Nat}(h:m≤n): ∀{τ:Ty} {x:τ.den},G m τ x→G n τ x
 | .int k,x,hx=>by cases k<;>exact hx
 | .slice e,l,hl=>⟨azl hl.1 h,fun x hx=>G.mono h (hl.2 x hx)⟩
 | .pair a b,x,hx=>⟨G.mono h hx.1,G.mono h hx.2⟩
 | .bool,_,_=>trivial
 | .str,_,_=>trivial
 | .unit,_,_=>trivial
 | .arr _ _,_,_=>trivial
theorem G.nil{m:Nat}{e:Ty}:G m (.slice e) ([]:List e.den):=⟨azn _,fun x hx=>nomatch hx⟩
theorem G.app{m:Nat}{e:Ty}{l:List e.den}{x:e.den}(h:G m (.slice e) l)(hx:G m e x):G (m+1) (.slice e) (l++[x]):=
 ⟨by have:=h.1;rw[ayH,ayA];omega,fun y hy=>by
  rcases ayU.1 hy with hy|hy
  ·exact G.mono (by omega) (h.2 y hy)
  ·rw[ay0.1 hy];exact G.mono (by omega) hx⟩
theorem G.get{m:Nat}{e:Ty}{l:List e.den}{d:e.den}(h:G m (.slice e) l)(hd:G m e d)(k:Nat):G m e (l.getD k d):=by
 by_cases hk:k<l.length
 ·rw[ayC,ayG hk];exact h.2 _ (ay5 hk)
 ·rw[ayC,azc (by omega)];exact hd
theorem G.zero(m:Nat): ∀τ:Ty,G m τ τ.zero
 | .int k=>by cases k<;>first|trivial|exact⟨by decide,by decide⟩
 | .slice _=>G.nil
 | .pair a b=>⟨G.zero m a,G.zero m b⟩
 | .bool=>trivial
 | .str=>trivial
 | .unit=>trivial
 | .arr _ _=>trivial
theorem G.at{m:Nat}{e:Ty}{l:List e.den}(h:G m (.slice e) l)(k:Nat):G m e (l.getD k e.zero):=h.get (G.zero m e) k
theorem G.set{m:Nat}{e:Ty}{l:List e.den}{x:e.den}(h:G m (.slice e) l)(hx:G m e x)(k:Nat):G m (.slice e) (l.set k x):=
 ⟨by rw[ayT];exact h.1,fun y hy=>by
  rcases aAk hy with hy|rfl
  ·exact h.2 y hy
  ·exact hx⟩
theorem eo(x:Int):aB (W .i64 x):=by
 rw[dZ];unfold aB;split<;>omega
def Bg(k:Nat)(z:ax):Prop:= ∃v,z=br v∧Fit v k
theorem Bg.mono{j k:Nat}{z:ax}(h:Bg j z)(hk:j≤k):Bg k z:=by
 obtain⟨v,e,f⟩:=h
 exact⟨v,e,Fit.mono f hk⟩
theorem Bg.zero:Bg 1 (false,(([]:List Int),())):=⟨0,ez.symm,by unfold Fit;decide⟩
theorem bc(N:Nat)(hN:4000000≤N){x:Int}(h:aB x):Ok (Bg 2) (fQ N x):=mA (cn N (by omega) h.1 h.2) ⟨x,rfl,Fit.i64 h.1 h.2⟩
theorem ik(N:Nat)(hN:4000000≤N){k:Nat}(hk:k≤90000){u v:ax}(hu:Bg k u)(hv:Bg k v):Ok (Bg (k+1)) (uc N u v):=by
 obtain⟨a,rfl,ha⟩:=hu
 obtain⟨b,rfl,hb⟩:=hv
 exact mA (eM N hN (Fit.mono ha (by omega)) (Fit.mono hb (by omega))) ⟨_,rfl,Fit.add ha hb⟩
theorem wF(N:Nat)(hN:4000000≤N){k:Nat}(hk:k≤90000){u v:ax}(hu:Bg k u)(hv:Bg k v):Ok (Bg (k+1)) (KC N u v):=by
 obtain⟨a,rfl,ha⟩:=hu
 obtain⟨b,rfl,hb⟩:=hv
 exact mA (o7 N hN (Fit.mono ha (by omega)) (Fit.mono hb (by omega))) ⟨_,rfl,by rw[Int.sub_eq_add_neg];exact Fit.add ha (Fit.neg hb)⟩
theorem qj(N:Nat)(hN:4000000≤N){k:Nat}(hk:k≤90000){u:ax}(hu:Bg k u):Ok (Bg k) (Qn N u):=by
 obtain⟨a,rfl,ha⟩:=hu
 exact mA (p5 N hN (Fit.mono ha (by omega))) ⟨_,rfl,Fit.neg ha⟩
theorem sS(N:Nat)(hN:4000000≤N){k:Nat}(hk:k≤90000){u:ax}(hu:Bg k u):Ok (Bg k) (OQ N u):=by
 obtain⟨a,rfl,ha⟩:=hu
 exact mA (vH N hN (Fit.mono ha (by omega))) ⟨_,rfl,Fit.of_le ha (by omega)⟩
theorem kH(N:Nat)(hN:4000000≤N){j k:Nat}(hj:j≤90000)(hk:k≤90000){u v:ax}(hu:Bg j u)(hv:Bg k v):Ok (Bg (j+k)) (gf N u v):=by
 obtain⟨a,rfl,ha⟩:=hu
 obtain⟨b,rfl,hb⟩:=hv
 exact mA (lY N hN (Fit.mono ha hj) (Fit.mono hb hk)) ⟨_,rfl,Fit.mul ha hb⟩
theorem zY(N:Nat){k:Nat}{u:ax}(hu:Bg k u):Ok (fun _=>True) (Nl N u):=by
 obtain⟨a,rfl,ha⟩:=hu
 exact mA (nf N a) trivial
theorem pG(N:Nat)(hN:4000000≤N){j k:Nat}(hj:j≤90000)(hk:k≤90000){u v:ax}(hu:Bg j u)(hv:Bg k v):Ok (fun _=>True) (DB N u v):=by
 obtain⟨a,rfl,ha⟩:=hu
 obtain⟨b,rfl,hb⟩:=hv
 exact mA (sv N hN (Fit.mono ha (by omega)) (Fit.mono hb (by omega))) trivial
theorem Ma(v:Int):aB (zc v).1:=by
 by_cases h:aB v
 ·rw[pf h];exact h
 ·rw[qU h];unfold aB;decide
theorem uY(N:Nat){k:Nat}{u:ax}(hu:Bg k u):Ok (fun r=>aB r.1) (sx N u):=by
 obtain⟨a,rfl,ha⟩:=hu
 exact mA (nZ N a) (Ma a)
end VM
end
section
namespace VM
open Go VM.F
abbrev L3(m:Nat)(l:aj):Prop:=G m (.slice fH) l
def gE(m:Nat)(p:bx):Prop:=p.length≤m∧ ∀y∈p,Bg 8 y.2.2.1
theorem gE.at{m:Nat}{p:bx}(h:gE m p)(i:Nat):Bg 8 (p.getD i ((0:Int),((0:Int),((false,kV),())))).2.2.1:=by
 by_cases hk:i<p.length
 ·rw[ayC,ayG hk];exact h.2 _ (ay5 hk)
 ·rw[ayC,azc (by omega)];exact Bg.mono Bg.zero (by decide)
theorem gE.nil{m:Nat}:gE m []:=⟨azn _,fun x hx=>nomatch hx⟩
theorem gE.app{m n:Nat}{p q:bx}(h:gE m p)(h':gE n q):gE (m+n) (p++q):=
 ⟨by have:=h.1;have:=h'.1;rw[ayH];omega,fun y hy=>(ayU.1 hy).elim (h.2 y) (h'.2 y)⟩
theorem gE.mono{m n:Nat}{p:bx}(h:gE m p)(hm:m≤n):gE n p:=⟨azl h.1 hm,h.2⟩
theorem yL(N:Nat){k:Nat}{u:ax}(hu:Bg k u):Ok (fun r=>aB r.1) (Lr N u):=by
 unfold Lr
 refine af (uY N hu) fun r h=>bN (fun _=>ah (by unfold aB;decide)) fun _=>ok_eq (fun _=>ah (by unfold aB;decide)) fun _=>ah h
theorem gm{x:Int}(h0: -1000000≤x)(h1:x≤1000000):aB x:=by unfold aB;omega
theorem G3{m:Nat}{a b c:Int}(ha:aB a)(hb:aB b)(hc:aB c):G m fH (a,(b,(c,()))):=⟨ha,hb,hc,trivial⟩
theorem aW:aB 0:=by unfold aB;decide
theorem PF(N:Nat)(hN:4000000≤N){x k n:Int}{p:bx}(hx:aB x)(hp:gE 50000 p):Ok (fun r=>aB r.1) (ku N x k n p):=by
 have hl:=hp.1
 refine bw (len:=p.length) (F:=fun n' i (s:ax×Bool)=>ku.l3 N n' x k n p s.1 s.2 i) (s:=(_,_)) (fun i s=>Bg (8+i) s.1) (Bg.mono Bg.zero (by omega)) (by omega) (fun n' i s hi hI hr=> ?_) (fun n' s hI=> ?_)
 all_goals unfold ku.l3 ku.jU
 ·rw[ak (x:=(i:Int)+1) (by omega) (by omega),ae i]
  have h1:=hr (s.1,s.2) (Bg.mono hI (by omega))
  repeat' first|exact h1|refine ay ⟨by omega,by omega⟩ ?_|refine aw (fun _=> ?_) (fun _=> ?_)|refine ok_eq (fun _=> ?_) (fun _=> ?_)|(exfalso;omega)|exact af (ik N hN (by omega) hI (Bg.mono (hp.at _) (by omega))) fun r h=>hr (r,true) h
 ·refine aw (fun _=>by omega) fun _=>bN (fun _=>ah hx) fun _=>af (bc N hN hx) fun r h=>af (ik N hN (by omega) hI (Bg.mono h (by omega))) fun r h=>af (uY N h) fun r h=>ah h
theorem V5(N:Nat)(hN:4000000≤N){l:aj}{p:bx}{m:Nat}(hm:m≤50000)(hl:L3 m l)(hp:gE 50000 p):Ok (fun r=>L3 200 r.1) (cL N l p):=by
 have Dn:=hl.1
 refine iY (len:=8) (F:=fun n k (s:aj×Int)=>cL.l4 N n l p s.1 s.2 k) (fun i s=>L3 (25*i) s.1∧0≤s.2) (fun n i s hi hI hr=> ?_) (fun n s hI=> ?_) 8 N 1 (_,_) (by omega) (by omega) (by omega) ⟨G.nil,azC 0⟩
 all_goals unfold cL.l4 cL.cD
 ·refine dE (fun _=> ?_) (fun _=>by omega)
  refine bw (len:=25) (F:=fun n' j (s:aj×Int)=>cL.l7 N (cL.l4 N n) n' l p s.1 s.2 (i:Int) j) (s:=s) (fun j s=>L3 (25*i+j) s.1∧0≤s.2) hI (by omega) (fun n' j s hj hI dg=> ?_) (fun n' s hI=> ?_)
  all_goals unfold cL.l7 cL.mE
  ·have gD: ∀(k x:Int),0≤k→aB x→Ok (fun r=>L3 200 r.1) (cL.Fk N (cL.l4 N n) (cL.l7 N (cL.l4 N n) n') l p s.1 k (i:Int) (j:Int) x):=fun k x hk hx=>by
    unfold cL.Fk cL.vM
    rw[ak (x:=(j:Int)+1) (by omega) (by omega),ae j]
    have hs:=hI.1.1
    refine af (PF N hN hx hp) fun r h=>bN (fun _=>ah G.nil) fun _=>bZ (fun _=>aH (by rw[ayA];omega) (dg (_,k) ⟨G.app hI.1 (G3 (gm (by omega) (by omega)) (gm (by omega) (by omega)) h),hk⟩)) fun _=>dg (s.1,k) ⟨G.mono (by omega) hI.1,hk⟩
   have h0:=gD s.2 0 hI.2 aW
   have Nc:=hI.2
   repeat' first|exact h0|refine ay ⟨by omega,by omega⟩ ?_|refine aw (fun _=> ?_) (fun _=> ?_)|refine dE (fun _=> ?_) (fun _=> ?_)|refine ok_eq (fun _=> ?_) (fun _=> ?_)|(exfalso;omega)|exact gD _ _ (by rw[ak (x:=s.2+1) (by omega) (by omega)];omega) (G.at hl _).2.2.1
  ·rw[ak (x:=(i:Int)+1) (by omega) (by omega),ae i]
   exact dE (fun _=>by omega) fun _=>hr s ⟨G.mono (by omega) hI.1,hI.2⟩
 ·exact dE (fun _=>by omega) fun _=>ah (G.mono (by decide) hI.1)
theorem Mb(N:Nat)(hN:4000000≤N){l t:aj}{m:Nat}(hm:m≤50000)(hl:L3 m l)(ht:L3 50000 t):Ok (fun r=>L3 200 r.1) (bM N l t):=by
 have Dn:=hl.1
 have htl:=ht.1
 refine bw (len:=25) (F:=fun n k (s:aj×Int)=>bM.l4 N n l t s.1 s.2 k) (s:=(_,_)) (fun i s=>L3 (6*i) s.1∧0≤s.2) ⟨G.nil,azC 0⟩ (by omega) (fun n i s hi hI hr=> ?_) (fun n s hI=> ?_)
 all_goals unfold bM.l4 bM.cD
 ·refine dE (fun _=> ?_) (fun _=>by omega)
  refine bw (len:=6) (F:=fun n' j (s:aj×Int)=>bM.l7 N (bM.l4 N n) n' l t s.1 s.2 (i:Int) j) (s:=s) (fun j s=>L3 (6*i+j) s.1∧0≤s.2) hI (by omega) (fun n' j s hj hI dg=> ?_) (fun n' s hI=> ?_)
  all_goals unfold bM.l7 bM.mE
  ·have gD: ∀(k x:Int),0≤k→aB x→Ok (fun r=>L3 200 r.1) (bM.Fk N (bM.l4 N n) (bM.l7 N (bM.l4 N n) n') l t s.1 k (i:Int) (j:Int) x false):=fun k x hk hx=>by
    unfold bM.Fk bM.vM
    have hs:=hI.1.1
    have vq: ∀y:Int,aB y→Ok (fun r=>L3 200 r.1) (cond (!aA y 0) (cond (small (s.1.length+[(((i:Int),((j:Int),(y,()))):bY)].length)) (bM.l7 N (bM.l4 N n) n' l t (s.1++[((i:Int),((j:Int),(y,())))]) k (i:Int) (W .i64 ((j:Int)+1))) none) (bM.l7 N (bM.l4 N n) n' l t s.1 k (i:Int) (W .i64 ((j:Int)+1)))):=fun y hy=>by
     rw[ak (x:=(j:Int)+1) (by omega) (by omega),ae j]
     exact bZ (fun _=>aH (by rw[ayA];omega) (dg (_,k) ⟨G.app hI.1 (G3 (gm (by omega) (by omega)) (gm (by omega) (by omega)) hy),hk⟩)) fun _=>dg (s.1,k) ⟨G.mono (by omega) hI.1,hk⟩
    refine bw (len:=t.length) (F:=fun Er u (z:ax×Bool)=>bM.Gw N (bM.l4 N n) (bM.l7 N (bM.l4 N n) n') Er l t s.1 k (i:Int) (j:Int) x z.2 z.1 u) (s:=(_,_)) (fun u z=>Bg (3+u) z.1) (Bg.mono Bg.zero (by omega)) (by omega) (fun Er u z hu hz SJ=> ?_) (fun Er z hz=> ?_)
    all_goals unfold bM.Gw bM.Fv
    ·rw[ak (x:=(u:Int)+1) (by omega) (by omega),ae u]
     have h1:=SJ (z.1,z.2) (Bg.mono hz (by omega))
     repeat' first|exact h1|refine ay ⟨by omega,by omega⟩ ?_|refine aw (fun _=> ?_) (fun _=> ?_)|refine ok_eq (fun _=> ?_) (fun _=> ?_)|(exfalso;omega)|exact af (bc N hN (G.at ht _).2.2.1) fun r h=>af (ik N hN (by omega) hz (Bg.mono h (by omega))) fun r h=>SJ (r,true) h
    ·exact aw (fun _=>by omega) fun _=>rj (fun _=>af (bc N hN hx) fun r h=>af (ik N hN (by omega) hz (Bg.mono h (by omega))) fun r h=>af (yL N h) fun r h=>bN (fun _=>ah G.nil) fun _=>vq _ h) fun _=>vq _ hx
   have h0:=gD s.2 0 hI.2 aW
   have Nc:=hI.2
   repeat' first|exact h0|refine ay ⟨by omega,by omega⟩ ?_|refine aw (fun _=> ?_) (fun _=> ?_)|refine dE (fun _=> ?_) (fun _=> ?_)|refine ok_eq (fun _=> ?_) (fun _=> ?_)|(exfalso;omega)|exact gD _ _ (by rw[ak (x:=s.2+1) (by omega) (by omega)];omega) (G.at hl _).2.2.1
  ·rw[ak (x:=(i:Int)+1) (by omega) (by omega),ae i]
   exact aw (fun _=>by omega) fun _=>hr s ⟨G.mono (by omega) hI.1,hI.2⟩
 ·exact dE (fun _=>by omega) fun _=>ah (G.mono (by decide) hI.1)
theorem G.fD{m:Nat}:G m aC (bE,(cg,(aX,(aX,(cC,(cK,())))))):=G.zero m aC
theorem pv(N:Nat)(hN:4000000≤N){b:ag}{s:aj}{p:bx}{m:Nat}(h2:200≤m)(hm:m≤50000)(hb:G m aC b)(hs:L3 50000 s)(hp:gE 50000 p):Ok (fun r=>G m aC r.1) (xl N b s p):=by
 unfold xl
 exact af (Mb N hN hm hb.2.2.2.1 hs) fun r h=>bN (fun _=>ah G.fD) fun _=>af (V5 N hN hm hb.2.2.1 hp) fun r' h'=>bN (fun _=>ah G.fD) fun _=>ah ⟨hb.1,hb.2.1,G.mono h2 h',G.mono h2 h,hb.2.2.2.2⟩
end VM
end
section
namespace VM
open Go VM.F
theorem cA{α β:Type}{P:β→Prop}{o:Option α}{r:α}{f:α→Option β}(h:o=some r)(hf:Ok P (f r)):Ok P (o.bind f):=by rw[h];exact hf
theorem G.wf{m:Nat}(hm:m≤50000){b:ag}(h:G m aC b):ni b:=by
 obtain⟨h1,h2,h3,h4,h5,h6,_⟩:=h
 exact⟨⟨azl h1.1 (by omega),azl h2.1 (by omega),azl h3.1 (by omega),azl h4.1 (by omega),azl h5.1 (by omega),azl h6.1 (by omega),fun x hx=>(h3.2 x hx).2.2.1,fun x hx=>(h4.2 x hx).2.2.1⟩,azl h3.1 (by omega),azl h4.1 (by omega)⟩
theorem eb(N:Nat)(hN:5000000≤N){c:aa}{b:ag}{m:Nat}(hm:m≤50000)(h:G m aC b):bS N c b=some (bW c b):=sE N hN (G.wf hm h).w
theorem V6{x:Int}(h:bt x):aB x:=by unfold bt at h;unfold aB;omega
theorem C8(N:Nat)(hN:4000000≤N)(t:gk)(p:Int):Ok (fun r=>gE 2 r.1) (LD N t p):=by
 unfold LD
 refine cA (tk N t) (bN (fun _=>ah gE.nil) fun ht=>cA (ia N p) (bN (fun _=>ah gE.nil) fun _=>af (bc N hN (eo _)) fun a ha=>af (bc N hN ?_) fun q hq=>af (kH N hN (by omega) (by omega) ha hq) fun x hx=>af (zY N hx) fun _ _=>ok_eq (fun _=>ah gE.nil) fun _=> ?_))
 ·have:=ayV ht
  unfold cE iM at this
  exact aAc (by decide) this.2.2.2.2.1.1 |> fun h=>⟨h,aAn this.2.2.2.2.1.2 (by decide)⟩
 ·unfold FC
  have hr: ∀a:Int,Ok (fun _=>True) (cond (aA a 0) (some ((2:Int),(0:Int))) (some ((5:Int),a))):=fun a=>ok_eq (fun _=>ah trivial) fun _=>ah trivial
  refine af (hr _) fun _ _=>af (hr _) fun _ _=>af (qj N hN (by omega) hx) fun y hy=>ah ⟨ayJ 2,fun z hz=> ?_⟩
  rcases ayY.1 hz with rfl|hz
  ·exact Bg.mono hx (by omega)
  ·rw[ay0.1 hz];exact Bg.mono hy (by omega)
theorem IK(N:Nat)(hN:200000≤N){b:ag}{m:Nat}(hm:m≤50000)(h:G m aC b)(id:Int):Ok (fun _=>True) (Fp N b id):=mA (qa N b (G.wf hm h).w.a hN id) trivial
theorem Es(N:Nat)(hN:5000000≤N)(c:aa){b:ag}{l:aZ}{m:Nat}(h2:200≤m)(hm:m≤50000)(hb:G m aC b):Ok (fun r=>G m aC r.1) (eg N c b l):=by
 unfold eg eg.b
 refine cA (eb N hN hm hb) (bN (fun _=>ah G.fD) fun hB=>aw (fun _=>ah G.fD) fun hl=> ?_)
 obtain⟨hp,_⟩:=cO hB
 refine bw (len:=l.length) (F:=fun n i (_:Unit)=>eg.l4 N n l c b (bE,(cg,(aX,(aX,(cC,(cK,())))))) i) (s:=()) (fun i _=> ∀j,j<i→cE (l.getD j dX)) (fun j hj=>by omega) (by omega) (fun n i _ hi hI hr=> ?_) (fun n _ hI=> ?_)
 all_goals unfold eg.l4 eg.cD
 ·rw[ak (x:=(i:Int)+1) (by omega) (by omega),ae i]
  refine aw (fun _=>ay ⟨by omega,by omega⟩ (cA (tk N _) (bN (fun _=>ah G.fD) fun ht=>hr () fun j hj=> ?_))) fun _=>by omega
  by_cases e:j=i
  ·rw[e];exact ayV ht
  ·exact hI j (by omega)
 ·refine aw (fun _=>by omega) fun _=> ?_
  refine bw (len:=l.length) (F:=fun n i (s:aj×bx)=>eg.zR N n l c b (bE,(cg,(aX,(aX,(cC,(cK,())))))) s.1 s.2 i) (s:=(_,_)) (fun i s=>L3 (2*i) s.1∧gE (2*i) s.2) ⟨G.nil,gE.nil⟩ (by omega) (fun n i s hi hJ hr=> ?_) (fun n s hJ=> ?_)
  all_goals unfold eg.zR eg.xm
  ·have ht:=hI i hi
   unfold cE iM at ht
   have MU:=hJ.1.1
   have Nc:=hJ.2.1
   have g64: ∀x:Int,0≤x∧x≤1000000→aB x:=fun x h=>gm (by omega) (by omega)
   dsimp only
   rw[ak (x:=(i:Int)+1) (by omega) (by omega),ae i,ayD]
   refine aw (fun _=>ay ⟨by omega,by omega⟩ (af (IK N (by omega) hm hb _) fun _ _=>bN (fun _=>ah G.fD) fun _=>af (IK N (by omega) hm hb _) fun _ _=>bN (fun _=>ah G.fD) fun _=>dE (fun _=>ah G.fD) fun dH=>aH ?_ (ay ⟨ht.2.2.2.1.1,by omega⟩ (af (C8 N (by omega) _ _) fun r h=>aH ?_ (hr (_,_) ⟨?_,gE.mono (gE.app hJ.2 h) (by omega)⟩))))) fun _=>by omega
   ·rw[ayI,ayA];omega
   ·have:=h.1;omega
   ·have hq:aB (l.getD i dX).2.2.2.1:=⟨aAc (by decide) ht.2.2.2.2.1.1,aAn ht.2.2.2.2.1.2 (by decide)⟩
    have lR:aB (l.getD i dX).2.2.1:=g64 _ ⟨ht.2.2.2.1.1,aAc (aAS ht.2.2.2.1.2) (by decide)⟩
    have h1:=G.app (G.app hJ.1 (G3 (g64 _ ⟨ht.1.1,aAc ht.1.2 (by decide)⟩) lR hq)) (G3 (g64 _ ⟨ht.2.1.1,aAc ht.2.1.2 (by decide)⟩) lR (eo (0-(l.getD i dX).2.2.2.1)))
    rw[ayP]at h1
    exact G.mono (by omega) h1
  ·exact aw (fun _=>by omega) fun _=>af (pv N (by omega) h2 hm hb (G.mono (by omega) hJ.1) (gE.mono hJ.2 (by omega))) fun r h=>ah h
end VM
end
section
namespace VM
open Go VM.F
def C9(k:Nat)(l:iw):Prop:= ∀x∈l,Bg k x
theorem C9.mono{j k:Nat}{l:iw}(h:C9 j l)(hk:j≤k):C9 k l:=fun x hx=>Bg.mono (h x hx) hk
theorem C9.at{k:Nat}{l:iw}(h:C9 k l)(h1:1≤k)(i:Nat):Bg k (l.getD i (false,kV)):=by
 by_cases hk:i<l.length
 ·rw[ayC,ayG hk];exact h _ (ay5 hk)
 ·rw[ayC,azc (by omega)];exact Bg.mono Bg.zero h1
theorem C9.set{k:Nat}{l:iw}{x:ax}(h:C9 k l)(hx:Bg k x)(i:Nat):C9 k (l.set i x):=fun y hy=>by
 rcases aAk hy with hy|rfl
 ·exact h y hy
 ·exact hx
theorem C9.rep{k n:Nat}(h:1≤k):C9 k (List.replicate n (false,kV)):=fun x hx=>by
 rw[(List.mem_replicate.1 hx).2];exact Bg.mono Bg.zero h
theorem V7(N:Nat)(hN:5000000≤N)(c:aa){b:ag}{m:Nat}(hm:m≤50000)(hb:G m aC b):Ok (fun r=>(r.2=0→bW c b=true∧r.1.length=4)∧C9 20 r.1) (jO N c b):=by
 unfold jO jO.b
 have w:=(G.wf hm hb).w
 refine cA (eb N hN hm hb) (bN (fun _=>ah ⟨fun h=>absurd h (by decide),fun x hx=>nomatch hx⟩) fun hB=>V4 ⟨by omega,by omega,by omega⟩ ?_)
 obtain⟨hp,za⟩:=cO hB
 obtain⟨h6,Ue⟩:=fM (dv hB)
 refine bw (len:=c.1.length) (F:=fun n i (s:iw)=>jO.l5 N n c b s i) (fun i s=>s.length=4∧C9 (8+i) s) ⟨ayS ..,C9.rep (by omega)⟩ (by omega) (fun n i s hi hI hr=> ?_) (fun n s hI=> ?_)
 all_goals unfold jO.l5 jO.c7
 ·have hk:=Ue i hi
  have hl:=hI.1
  rw[ak (x:=(i:Int)+1) (by omega) (by omega),ae i,ayD]
  have in1: ∀{x y:Option (iw×Int)},Ok (fun r=>(r.2=0→bW c b=true∧r.1.length=4)∧C9 20 r.1) x→Ok (fun r=>(r.2=0→bW c b=true∧r.1.length=4)∧C9 20 r.1) (cond (aI (c.1.getD i aJ).1 s.length) x y):=fun h=>ay ⟨hk.1,aAn hk.2 (show(3:Int)<(s.length:Int)by omega)⟩ h
  exact aw (fun _=>ay ⟨by omega,by omega⟩ (in1 (cA (zQ N w.s (by omega) 0 (i:Int)) (af (bc N (by omega) (FE w.qs 0 (i:Int))) fun a ha=>ay ⟨by omega,by omega⟩ (af (bc N (by omega) (V6 (kA za (by omega)))) fun p hp=>af (kH N (by omega) (by omega) (by omega) ha hp) fun x hx=>af (ik N (by omega) (by omega) (C9.at hI.2 (by omega) _) (Bg.mono hx (by omega))) fun y hy=>in1 (hr _ ⟨by rw[ayT];exact hl,C9.set (C9.mono hI.2 (by omega)) hy _⟩)))))) fun _=>by omega
 ·exact aw (fun _=>by omega) fun _=>ah ⟨fun _=>⟨hB,hI.1⟩,C9.mono hI.2 (by omega)⟩
theorem PG(N:Nat)(hN:5000000≤N)(c:aa)(hc:aB (qf c)){b:ag}{m:Nat}(hm:m≤50000)(hb:G m aC b)(next:Int):Ok (fun r=>G 4 (.slice c9) r.1) (mT N c b next):=by
 unfold mT mT.b
 refine af (V7 N hN c hm hb) fun z hz=>bZ (fun _=>ah G.nil) fun h0=>aw (fun _=>ah G.nil) fun h1=>aw (fun _=>ah G.nil) fun h2=> ?_
 obtain⟨hB,hl4⟩:=hz.1 h0
 obtain⟨hp,za⟩:=cO hB
 obtain⟨h6,Ue⟩:=fM (dv hB)
 refine bw (len:=4) (F:=fun n k (s:Int×aD)=>mT.l6 N n s.1 c b z.1 s.2 k) (s:=(_,_)) (fun k s=>G k (.slice c9) s.2∧next≤s.1∧s.1≤next+k) ⟨G.nil,by omega,by omega⟩ (by omega) (fun n k s hk hI hr=> ?_) (fun n s hI=> ?_)
 all_goals unfold mT.l6 mT.pE
 ·have MU:=hI.1.1
  have Nc:=hI.2
  rw[ak (x:=(k:Int)+1) (by omega) (by omega),ae k]
  have o4:=hr s ⟨G.mono (by omega) hI.1,by omega,by omega⟩
  refine aw (fun _=>cA (Bk N (by omega) c (by omega) (k:Int)) (ay ⟨by omega,by omega⟩ (af (sS N (by omega) (by omega) (C9.at hz.2 (by omega) _)) fun u hu=>ok_eq (fun _=>o4) fun gq=>af (bc N (by omega) hc) fun v hv=>af (pG N (by omega) (by omega) (by omega) hu hv) fun _ _=>dE (fun _=>o4) fun _=> ?_))) fun _=>by omega
  have ai3:bK c (k:Int)≠[]:=fun e=>gq (by rw[e];rfl)
  have hh:0≤(bK c (k:Int)).getD 0 0∧(bK c (k:Int)).getD 0 0<(c.1.length:Int):=by
   have h1:=ai3
   unfold bK at h1 ⊢
   rw[dv hB,ayF rfl]at h1 ⊢
   have:=sN h1
   omega
  have hl0:0<(bK c (k:Int)).length:=azQ.2 ai3
  have hpx:=kA za (i:=((bK c (k:Int)).getD 0 0).toNat) (by omega)
  have hj: ∀q:Int,aB q→Ok (fun r=>G 4 (.slice c9) r.1) (mT.wT N (mT.l6 N n) s.1 c b z.1 s.2 (k:Int) (bK c (k:Int)) q):=fun q hq=>by
   unfold mT.wT mT.qg
   rw[ak (x:=(k:Int)+1) (by omega) (by omega),ae k,ak (x:=s.1+1) (by omega) (by omega)]
   have vq: ∀d:Int,aB d→Ok (fun r=>G 4 (.slice c9) r.1) (cond (small (s.2.length+[((s.1,((bK c (k:Int)).getD 0 0,(d,(q,())))):bp)].length)) (mT.l6 N n (s.1+1) c b z.1 (s.2++[(s.1,((bK c (k:Int)).getD 0 0,(d,(q,()))))]) ((k+1:Nat):Int)) none):=fun d hd=>
    aH (by rw[List.length_singleton];omega) (hr (_,_) ⟨G.app hI.1 ⟨by show aB s.1;unfold aB;omega,(show aB ((bK c (k:Int)).getD 0 0)from gm (by omega) (by omega)),hd,hq,trivial⟩,by dsimp only;omega,by dsimp only;omega⟩)
   exact ok_eq (fun _=>o4) fun _=>ay ⟨by omega,by omega⟩ (ay ⟨by omega,by omega⟩ (af (zY N (C9.at hz.2 (by omega) _)) fun _ _=>aw (fun _=>vq 2 (gm (by omega) (by omega))) fun _=>vq 1 (gm (by omega) (by omega))))
  have hb9:aB 1000000000:=by unfold aB;decide
  refine ay ⟨by omega,by omega⟩ (ay ⟨hh.1,by show(bK c (k:Int)).getD 0 0<_;omega⟩ ?_)
  obtain⟨a,rfl,ha⟩:=hu
  have aoE:=hpx
  unfold bt at aoE
  rw[show(0:Int).toNat=0 from rfl]
  refine cA (cn N (by omega) (by omega) (by omega)) (cA (Fj N hN (by omega) (Fit.mono ha (by omega)) ((Fit.i64 (by omega) (by omega)).mono (by omega))) (cA (nZ N _) (bN (fun _=>hj _ hb9) fun _=>aw (fun _=>hj _ hb9) fun _=>hj _ (Ma _))))
 ·exact aw (fun _=>by omega) fun _=>ah hI.1
end VM
end
section
namespace VM
open Go VM.F
theorem BT(N:Nat)(hN:200000≤N){l:aU}(hl:l.length≤100000)(a:Int):Ok (fun r=>L3 6 r) (dp N l a):=by
 unfold dp dp.b
 refine bw (len:=6) (F:=fun n k (s:aj)=>dp.l3 N n l a s k) (fun k s=>L3 k s) G.nil (by omega) (fun n k s hk hI hr=> ?_) (fun n s hI=> ?_)
 all_goals unfold dp.l3 dp.jU
 ·have hs:=hI.1
  refine aw (fun _=> ?_) fun _=>by omega
  refine bw (len:=l.length) (F:=fun n' i (x:bY)=>dp.l7 N (dp.l3 N n) n' l a s (k:Int) x i) (fun i x=>G 6 fH x) (G3 (gm (by omega) (by omega)) aW aW) (by omega) (fun n' i x hi hx dg=> ?_) (fun n' x hx=> ?_)
  all_goals unfold dp.l7 dp.mE
  ·rw[ak (x:=(i:Int)+1) (by omega) (by omega),ae i]
   have h1:=dg x hx
   repeat' first|exact h1|refine ay ⟨by omega,by omega⟩ ?_|refine aw (fun _=> ?_) (fun _=> ?_)|refine bZ (fun _=> ?_) (fun _=> ?_)|refine ok_eq (fun _=> ?_) (fun _=> ?_)|(exfalso;omega)|exact dg (_,(_,(_,_))) ⟨hx.1,eo _,hx.2.2.1,trivial⟩|exact dg (_,(_,(_,_))) ⟨hx.1,hx.2.1,eo _,trivial⟩
  ·rw[ak (x:=(k:Int)+1) (by omega) (by omega),ae k]
   have h1:=hr s (G.mono (by omega) hI)
   have h2:=hr (s++[x]) ⟨by rw[ayH,ayA];omega,fun y hy=>by
    rcases ayU.1 hy with hy|hy
    ·exact G.mono (by omega) (hI.2 y hy)
    ·rw[ay0.1 hy];exact⟨hx.1,hx.2.1,hx.2.2.1,trivial⟩⟩
   repeat' first|exact h1|exact h2|refine aH (by rw[ayA];omega) ?_|refine aw (fun _=> ?_) (fun _=> ?_)|(exfalso;omega)
 ·exact aw (fun _=>by omega) fun _=>ah hI
theorem Et(N:Nat)(hN:200000≤N)(c:aa){l:aj}(hl:l.length≤100000):Ok (fun _=>True) (iO N c l):=by
 unfold iO iO.b
 refine cA (lZ N (by omega) c) (bN (fun _=>ah trivial) fun _=>kG (len:=l.length) (F:=fun n i=>iO.l5 N n l c 33000000000 i) (by omega) (fun n i hi hr=> ?_) fun n=> ?_)
 all_goals unfold iO.l5 iO.c7
 ·rw[ak (x:=(i:Int)+1) (by omega) (by omega),ae i]
  dsimp only
  repeat' first|exact hr|exact ah trivial|refine ay ⟨by omega,by omega⟩ ?_|refine ay (by rw[ak (x:=(i:Int)-1) (by omega) (by omega)];omega) ?_|refine aw (fun _=> ?_) (fun _=> ?_)|refine dE (fun _=> ?_) (fun _=> ?_)|refine ok_eq (fun _=> ?_) (fun _=> ?_)|(exfalso;omega)
 ·exact aw (fun _=>by omega) fun _=>ah trivial
theorem F1{k:Nat}(h:1≤k):Bg k (false,(([]:List Int),())):=Bg.mono Bg.zero h
theorem SK(N:Nat)(hN:4000000≤N)(c:aa){l:av}{o:aj}{m:Nat}(hm:m≤50000)(hl:G m (.slice gG) l)(ho:L3 m o)(k:Int):Ok (fun r=>Bg 3 r.1) (dM N c l o k):=by
 have h1:=hl.1
 have h2:=ho.1
 unfold dM dM.b
 refine cA (qb N (by omega) c (by omega)) (bN (fun _=>ah (F1 (by omega))) fun _=>af (Et N (by omega) c (by omega)) fun _ _=>bN (fun _=>ah (F1 (by omega))) fun _=>aw (fun _=>ah (F1 (by omega))) fun _=>dE (fun _=>ah (F1 (by omega))) fun _=> ?_)
 refine bw (len:=l.length) (F:=fun n i (q:ax)=>dM.l7 N n l o k (false,(([]:List Int),())) q (false,(([]:List Int),())) (false,(([]:List Int),())) i) (fun _ q=>Bg 2 q) (F1 (by omega)) (by omega) (fun n i q hi hq hr=> ?_) (fun n q hq=> ?_)
 all_goals unfold dM.l7 dM.mE
 ·rw[ak (x:=(i:Int)+1) (by omega) (by omega),ae i]
  exact aw (fun _=>ay ⟨by omega,by omega⟩ (ok_eq (fun _=>ay ⟨by omega,by omega⟩ (af (bc N hN (G.at hl _).2.1) fun r h=>hr r h)) fun _=>hr q hq)) fun _=>by omega
 ·refine aw (fun _=>by omega) fun _=> ?_
  refine bw (len:=o.length) (F:=fun n i (z:ax×ax)=>dM.kk N n o k (false,(([]:List Int),())) q z.1 z.2 i) (s:=(_,_)) (fun _ z=>Bg 2 z.1∧Bg 2 z.2) ⟨F1 (by omega),F1 (by omega)⟩ (by omega) (fun n i z hi hz hr=> ?_) (fun n z hz=> ?_)
  all_goals unfold dM.kk dM.jh
  ·rw[ak (x:=(i:Int)+1) (by omega) (by omega),ae i]
   exact aw (fun _=>ay ⟨by omega,by omega⟩ (ok_eq (fun _=>ay ⟨by omega,by omega⟩ (af (bc N hN (G.at ho _).2.1) fun r h=>ay ⟨by omega,by omega⟩ (af (bc N hN (G.at ho _).2.2.1) fun r' h'=>hr (r,r') ⟨h,h'⟩))) fun _=>hr z hz)) fun _=>by omega
  ·exact aw (fun _=>by omega) fun _=>af (ik N hN (by omega) hq hz.1) fun x hx=>af (sS N hN (by omega) hx) fun x hx=>af (wF N hN (by omega) hq hz.2) fun y hy=>af (sS N hN (by omega) hy) fun y hy=>af (pG N hN (by omega) (by omega) hy hx) fun _ _=>aw (fun _=>ah hy) fun _=>ah hx
theorem IL(N:Nat)(hN:4000000≤N){c:aa}{l:av}{o:aj}{m:Nat}(hm:m≤50000)(hc:G m aq c)(hl:G m (.slice gG) l)(ho:L3 m o):Ok (fun r=>Bg 60000 r.1) (jm N c l o):=by
 have h1:=hl.1
 have h2:=ho.1
 have h3:=hc.1.1
 unfold jm jm.b
 refine cA (qb N (by omega) c (by omega)) (bN (fun _=>ah (F1 (by omega))) fun _=>af (Et N (by omega) c (by omega)) fun _ _=>bN (fun _=>ah (F1 (by omega))) fun _=> ?_)
 refine bw (len:=c.1.length) (F:=fun n i (t:ax)=>jm.l5 N n l o c (false,(([]:List Int),())) t i) (fun i t=>Bg (8+i) t) (F1 (by omega)) (by omega) (fun n i t hi ht hr=> ?_) (fun n t ht=> ?_)
 all_goals unfold jm.l5 jm.c7
 ·rw[ak (x:=(i:Int)+1) (by omega) (by omega),ae i]
  exact aw (fun _=>af (SK N hN c hm hl ho _) fun x hx=>ay ⟨by omega,by omega⟩ (af (bc N hN (G.at hc.1 _).2.2.1) fun r h=>af (kH N hN (by omega) (by omega) hx h) fun y hy=>af (ik N hN (by omega) ht (Bg.mono hy (by omega))) fun z hz=>hr z hz)) fun _=>by omega
 ·exact aw (fun _=>by omega) fun _=>ah (Bg.mono ht (by omega))
theorem ai4{m:Nat}{l:aj}(h:L3 m l)(a:Int):G m (.slice gG) (posOf l a):=by
 refine⟨azl (tj a l) h.1,fun y hy=> ?_⟩
 unfold posOf at hy
 split at hy
 ·obtain⟨x,hx,_,e⟩:=fR hy
  rw[e];exact⟨(h.2 x hx).2.1,(h.2 x hx).2.2.1,trivial⟩
 ·nomatch hy
theorem IM(N:Nat)(hN:200000≤N){l:aj}{m:Nat}(hm:m≤50000)(h:L3 m l)(a:Int):Ok (G m (.slice gG)) (ug N l a):=mA (FB N (azl h.1 (by omega)) hN a) (ai4 h a)
theorem IN(N:Nat)(hN:4000000≤N){c:aa}{b:ag}{l:aU}{m:Nat}(h2:200≤m)(hm:m≤40000)(hc:G m aq c)(hb:G m aC b)(hl:l.length≤1000)(a:Int):Ok (Bg 60000) (L4 N c b a l):=by
 have ho:=hb.2.2.2.2.2.1.1
 unfold L4
 refine aH (by rw[ayW];omega) ?_
 dsimp only
 rw[ay8]
 exact aH (by omega) (af (IM N (by omega) (by omega) hb.2.2.2.1 a) fun r h=>af (BT N (by omega) (by rw[ayH];omega) a) fun o h'=>af (IL N hN (by omega) hc h (G.mono (by omega) h')) fun x hx=>ah hx)
end VM
end
section
namespace VM
open Go VM.F
theorem V8(N:Nat)(hN:4000000≤N){o:cr}{m:Nat}(ho:G m jn o)(a:Int):Ok (fun r=>Bg 4 r.1) (L1 N o a):=by
 unfold L1
 have hw: ∀x:Int,Ok (fun r:ax×Int=>Bg 4 r.1) ((fQ N o.2.2.2.2.1).bind fun r5=>(fQ N (W .i64 x)).bind fun r6=>(gf N r5 r6).bind fun r7=>some (r7,(0:Int))):=fun x=>
  af (bc N hN ho.2.2.2.2.1) fun r h=>af (bc N hN (eo _)) fun r' h'=>af (kH N hN (by omega) (by omega) h h') fun y hy=>ah hy
 exact cA (tc N o) (bN (fun _=>ah (F1 (by omega))) fun _=>cA (ia N a) (bN (fun _=>ah (F1 (by omega))) fun _=>ok_eq (fun _=>aw (fun _=>ah (F1 (by omega))) fun _=>hw _) fun _=>aw (fun _=>ah (F1 (by omega))) fun _=>hw _))
theorem adu{m:Nat}{a:aD}(h:G m (.slice c9) a)(id:Int):G m c9 (dP a id).1:=by
 unfold dP
 split
 ·have: ∀l:aD,(∀x∈l,G m c9 x)→G m c9 (sA id l).1:=by
   intro l
   induction l with
   |nil=>intro _;exact G.zero m c9
   |cons x t ih=>
    intro hx
    rw[qR]
    split
    ·exact hx x (ayN ..)
    ·exact ih fun y hy=>hx y (ayK _ hy)
  exact this a h.2
 ·exact G.zero m c9
theorem tu(N:Nat)(hN:200000≤N){a:aD}{m:Nat}(hm:m≤50000)(h:G m (.slice c9) a)(id:Int):Ok (fun r=>G m c9 r.1) (A0 N a id):=mA (AZ N (azl h.1 (by omega)) hN id) (adu h id)
theorem nI(N:Nat)(hN:200000≤N){a:av}{m:Nat}(hm:m≤50000)(h:G m (.slice gG) a)(id:Int):Ok (fun _=>True) (vS N a id):=mA (uH N (azl h.1 (by omega)) hN id) trivial
theorem oc(N:Nat)(hN:200000≤N){l:aj}{m:Nat}(hm:m≤50000)(h:L3 m l)(a b:Int):Ok aB (qZ N l a b):=mA (LC N (azl h.1 (by omega)) hN a b) (Bh (fun x hx=>(h.2 x hx).2.2.1) a b)
theorem IP(N:Nat)(hN:5000000≤N){c:aa}{b:ag}{o:cr}{m:Nat}(h2:200≤m)(hm:m≤40000)(hc:G m aq c)(hb:G m aC b)(ho:G m jn o):Ok (fun _=>True) (II N c b o):=by
 have ub:=hb.2.2.2.2.2.1.1
 unfold II
 refine cA (eb N hN (by omega) hb) (bN (fun _=>ah trivial) fun hB=>cA (tc N o) (bN (fun _=>ah trivial) fun hr=>af (tu N (by omega) (by omega) hb.2.1 _) fun x hx=>bN (fun _=>ah trivial) fun _=>af (nI N (by omega) (by omega) hb.1 _) fun _ _=>bZ (fun _=>ah trivial) fun _=>dE (fun _=>ah trivial) fun hi=>aH (by rw[ayW];omega) ?_))
 have hr:=ayV hr
 unfold fj ld at hr
 obtain⟨hp,_⟩:=cO hB
 dsimp only
 rw[ay8]
 exact aH (by rw[ayA];omega) (af (IM N (by omega) (by omega) hb.2.2.2.1 _) fun r h=>af (BT N (by omega) (by rw[ayH,ayA];omega) _) fun q h'=>af (SK N (by omega) c (by omega) h (G.mono (by omega) h') _) fun t ht=>af (bc N (by omega) hx.2.2.2.1) fun v hv=>af (pG N (by omega) (by omega) (by omega) ht hv) fun _ _=>aw (fun _=>ah trivial) fun _=>ay ⟨hr.2.2.1.1,by rw[hp];exact hi⟩ (af (V8 N (by omega) ho _) fun e he=>af (oc N (by omega) (by omega) hb.2.2.1 _ _) fun g hg=>af (bc N (by omega) hg) fun y hy=>af (wF N (by omega) (by omega) (Bg.mono hy (by omega)) he) fun z hz=>af (IN N (by omega) h2 hm hc hb (by rw[ayA];omega) _) fun u hu=>af (pG N (by omega) (by omega) (by omega) hz hu) fun _ _=>aw (fun _=>ah trivial) fun _=>ah trivial))
theorem V9(N:Nat)(hN:5000000≤N){c:aa}{b:ag}{h:bp}{a q p:Int}{m:Nat}(h2:200≤m)(hm:m≤40000)(hc:G m aq c)(hb:G m aC b)(hh:G m c9 h)(ha:aB a)(hq:aB q)(hp:aB p):Ok (fun r=>G m aC r.1∧G m c9 r.2.1) (mz N c b h a q p):=by
 have ho:G m jn (h.1,(a,(h.2.1,(W .i64 (3-h.2.2.1),(q,(p,())))))):=⟨hh.1,ha,hh.2.1,eo _,hq,hp,trivial⟩
 have eZ: ∀e:Int,Ok (fun r:ag×bp×Int=>G m aC r.1∧G m c9 r.2.1) (some ((bE,(cg,(aX,(aX,(cC,(cK,())))))),(aJ,e))):=fun e=>ah ⟨G.fD,G.zero m c9⟩
 unfold mz mz.b
 have hj: ∀t:gk,Ok (fun r=>G m aC r.1∧G m c9 r.2.1) (mz.j14 N q c b h (bE,(cg,(aX,(aX,(cC,(cK,())))))) aJ t):=fun t=>by
  unfold mz.j14 mz.V2
  exact af (Es N hN c h2 (by omega) hb) fun r hr=>bZ (fun _=>eZ _) fun _=>ah ⟨hr,hh.1,hh.2.1,hh.2.2.1,eo _,trivial⟩
 exact cA (eb N hN (by omega) hb) (bN (fun _=>eZ _) fun _=>cA (kF N h) (bN (fun _=>eZ _) fun _=>aw (fun _=>eZ _) fun _=>aw (fun _=>eZ _) fun _=>aw (fun _=>eZ _) fun _=>aw (fun _=>eZ _) fun _=>aw (fun _=>eZ _) fun _=>aw (fun _=>eZ _) fun _=>aw (fun _=>eZ _) fun _=>af (IP N hN h2 hm hc hb ho) fun e _=>bZ (fun _=>eZ _) fun _=>ok_eq (fun _=>hj _) fun _=>hj _))
end VM
end
