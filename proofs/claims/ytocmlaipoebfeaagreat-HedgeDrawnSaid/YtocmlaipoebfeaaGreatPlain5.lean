/- A part of the proof of HedgeDrawn of layer 22: what the functions compute, in plain words. -/
import Derived.Test.YtocmlaipoebfeaaGreatPlain4
set_option linter.all false
section
namespace VM
open Go VM.F
def OL(c:aa)(p:List Int)(k:Int):av→Int
 |[]=>0
 |y::t=>(if(c.1.getD y.1.toNat aK).1=k then y.2.1*p.getD y.1.toNat 0 else 0)+OL c p k t
theorem DK(c:aa)(p:List Int)(k:Int)(y:KL)(t:av):OL c p k (y::t)=(if(c.1.getD y.1.toNat aK).1=k then y.2.1*p.getD y.1.toNat 0 else 0)+OL c p k t:=rfl
theorem DL(c:aa)(p:List Int)(k:Int): ∀l:ah,Rv c p k l=OL c p k (gJ 0 l)
 |[]=>rfl
 |x::t=>by
  have ih:=DL c p k t
  show(if x.1=0∧(c.1.getD x.2.1.toNat aK).1=k then et x*p.getD x.2.1.toNat 0 else 0)+Rv c p k t=_
  rw[jw,ih]
  by_cases h:x.1=0
  ·rw[if_pos h,DK]
   by_cases h2:(c.1.getD x.2.1.toNat aK).1=k
   ·rw[if_pos ⟨h,h2⟩,if_pos h2];rfl
   ·rw[if_neg (fun h=>h2 h.2),if_neg h2]
  ·rw[if_neg h,if_neg (fun k=>h k.1),Int.zero_add]
def eB(f:Int→Int):cX:=[bg (f 0),bg (f 1),bg (f 2),bg (f 3)]
theorem w8(f:Int→Int){k:Int}(h:0≤k∧k≤3):(eB f).getD k.toNat bI=bg (f k):=by
 have:k=0∨k=1∨k=2∨k=3:=by omega
 rcases this with rfl|rfl|rfl|rfl<;>rfl
theorem Lg(f:Int→Int){k:Int}(h:0≤k∧k≤3)(v:Int):(eB f).set k.toNat (bg (f k+v))=eB (fun j=>f j+if k=j then v else 0):=by
 have:k=0∨k=1∨k=2∨k=3:=by omega
 unfold eB
 rcases this with rfl|rfl|rfl|rfl<;>simp
theorem m6{f g:Int→Int}(h: ∀k,f k=g k):eB f=eB g:=by rw[funext h]
theorem OM(N:Nat)(hN:200000≤N)(c:aa){b:af}{t:av}(hl:t.length≤6)(js: ∀y∈t,aA y.2.1)(z5: ∀y∈t,m0 y.1 c.1.length)(hp:b.2.2.2.2.1.length=c.1.length)(yP:fV b.2.2.2.2.1=true)(Td: ∀i,i<c.1.length→0≤(c.1.getD i aK).1∧(c.1.getD i aK).1≤3):
  vT.l5 N N c b (eB fun _=>0) t (t.length:Int) 0=some (eB (fun k=>OL c b.2.2.2.2.1 k t),0):=by
 have:=kD t bI (fun n i (f:Int→Int)=>vT.l5 N n c b (eB f) t (t.length:Int) i) (fun u f=>some (eB (fun k=>f k+OL c b.2.2.2.2.1 k u),(0:Int)))
  (fun i f=> ∀k,-(9223372036854775808000000000000*(i:Int))≤f k∧f k≤9223372036854775808000000000000*(i:Int))
  (fun n i f hi hI hr=> ?_) (fun n f hI=> ?_) t.length N 0 (fun _=>0) (by omega) (by omega) (by omega) (fun k=>⟨Int.le_refl _,Int.le_refl _⟩)
 ·refine this.trans ?_
  rw[List.drop_zero]
  exact congrArg (fun z=>some (z,(0:Int))) (m6 fun k=>Int.zero_add _)
 ·unfold vT.l5 vT.c5
  have hm:t.getD i bI∈t:=by
   rw[List.getD_eq_getElem?_getD,List.getElem?_eq_getElem hi];exact List.getElem_mem hi
  have hq:=js _ hm
  have hpy:=z5 _ hm
  rw[aD (by omega),cond_true,aF (by omega) (by omega),cond_true,Int.toNat_natCast,al (x:=(i:Int)+1) (by omega) (by omega),ae i]
  generalize t.getD i bI=y at*
  have g: ∀v:Int,m0 v c.1.length→aH v c.1.length=true∧aH v b.2.2.2.2.1.length=true∧v.toNat<c.1.length:=fun v h=>by unfold m0 at h;exact⟨aF (by omega) (by omega),aF (by omega) (by omega),by omega⟩
  have gy:=g _ hpy
  have hk:=Td _ gy.2.2
  have BT:=kp yP (i:=y.1.toNat) (by omega)
  have gC:aH (c.1.getD y.1.toNat aK).1 (eB f).length=true:=aF hk.1 (by
   have g: ∀x:Int,x≤3→x<((4:Nat):Int):=fun x _=>by omega
   exact g _ hk.2)
  have hma:=MV hq BT
  have an1:=BT
  unfold bo at an1
  have ot:=hq
  unfold aA at ot
  have hf:=hI (c.1.getD y.1.toNat aK).1
  rw[gy.1,cond_true,gC,cond_true,gy.2.1,cond_true,vu N ot.1 ot.2 (by omega) (by omega),Option.bind_some,w8 f hk,E6 N (by unfold bA;omega) (by unfold bA;omega) (by unfold bA;omega),Option.bind_some,cond_true]
  dsimp only
  rw[Lg f hk,hr _ (fun k=>by
   have:=hI k
   split<;>omega)]
  refine congrArg (fun z=>some (z,(0:Int))) (m6 fun k=> ?_)
  rw[DK]
  omega
 ·unfold vT.l5 vT.c5
  rw[ax (by omega),cond_false]
  refine congrArg (fun z=>some (z,(0:Int))) (m6 fun k=> ?_)
  show f k=f k+0
  omega
theorem vU{c:aa}{b:af}(h:bV c b=true): ∀x∈b.2.2.2.1,m0 x.2.1 c.1.length:=fun x hx=>by
 have hk:=(kj h).2
 have h0:=(gI hk).2 x hx
 unfold bV at h
 simp only[Bool.and_eq_true]at h
 have h1:=of_decide_eq_true h.2.2.2.2.2.2.2.2.1
 obtain⟨i,hi,e⟩:=List.getElem_of_mem hx
 have h2:=h1 i hi
 unfold g6 at h2
 rw[List.getD_eq_getElem?_getD,List.getElem?_eq_getElem hi]at h2
 simp only[Option.getD_some,e]at h2
 have g: ∀u v:Int,b7 u v→BY v c.1.length→m0 v c.1.length:=fun u v h1 h2=>by unfold b7 at h1;unfold BY at h2;unfold m0;omega
 exact g _ _ h0.1 h2.2
theorem Ff(N:Nat)(hN:4000000≤N)(c:aa){b:af}(w:eM b):vT N c b=some (if bV c b then(eB (bC c b),0)else([],1)):=by
 unfold vT vT.b
 rw[zu N hN w,Option.bind_some,cond_not]
 by_cases hB:bV c b=false
 ·rw[hB];rfl
 rw[Bool.not_eq_false]at hB
 rw[hB,cond_true,if_pos rfl,bG (by omega) (by omega) (by omega),cond_true,aaf N w.s (by omega),Option.bind_some]
 obtain⟨z5,yP⟩:=cK hB
 obtain⟨h6,Td⟩:=fI (dq hB)
 obtain⟨_,hk⟩:=kj hB
 have ahX:=vU hB
 have e:posOf b.2.2.2.1 0=gJ 0 b.2.2.2.1:=by unfold posOf;rw[hk];rfl
 have Cw:=OM N (by omega) c (b:=b) (t:=posOf b.2.2.2.1 0) (Rj hk w.qs 0).len (vO w.qs 0) (fun y hy=>by
  rw[e]at hy
  obtain⟨x,hx,_,rfl⟩:=fO hy
  exact ahX x hx) z5 yP Td
 have e0:eB (fun _=>0)=List.replicate (4:Int).toNat bI:=rfl
 rw[e0]at Cw
 refine Cw.trans (congrArg (fun z=>some (z,(0:Int))) (m6 fun k=> ?_))
 unfold bC
 rw[e,←DL,Bf hk,DJ c _ k _ ahX]
end VM
end
section
namespace VM
open Go VM.F
theorem UP(N:Nat){x:Int}(h:bA x)(hx:x≠ -170141183460469231731687303715884105728):UQ N (bg x)=some (bg (-x),true):=by
 unfold UQ Lh bg
 unfold bA at h
 dsimp only
 have hp:0≤x%18446744073709551616∧x%18446744073709551616<18446744073709551616:=by omega
 have hh: -9223372036854775808≤x/18446744073709551616∧x/18446744073709551616<9223372036854775808:=by omega
 rw[jn,jn,iE N (by omega) (by omega) (by omega) (by omega) (by omega) (by omega),Option.bind_some]
 dsimp only
 have hb:(0:Int)≤(if(0:Int)<x%18446744073709551616+0 then 1 else 0)∧(if(0:Int)<x%18446744073709551616+0 then(1:Int)else 0)≤1:=by split<;>omega
 rw[iE N (by omega) (by omega) (by omega) (by omega) hb.1 hb.2,Option.bind_some]
 dsimp only
 have key: ∀{z:aS},z=bg (-x)→((some (z,true):Option (aS×Bool)).bind fun r1=>some (r1.1,r1.2))=some (bg (-x),true):=fun e=>by rw[e];rfl
 have e3:W .i64 ((0%18446744073709551616-x/18446744073709551616%18446744073709551616-(if(0:Int)<x%18446744073709551616+0 then 1 else 0))%18446744073709551616)=(-x)/18446744073709551616:=by
  by_cases h0:x%18446744073709551616=0
  ·rw[if_neg (show ¬(0:Int)<x%18446744073709551616+0 by omega),dV];split<;>omega
  ·rw[if_pos (show(0:Int)<x%18446744073709551616+0 by omega),dV];split<;>omega
 have e1:(0-x%18446744073709551616-0)%18446744073709551616=(-x)%18446744073709551616:=by omega
 rw[e3,e1]
 simp only[lM,o9]
 by_cases a:x/18446744073709551616<0
 ·have c: ¬(-x)/18446744073709551616<0:=by omega
  rw[decide_eq_false (show ¬(0:Int)<0 by omega),decide_eq_true a,decide_eq_false c]
  exact key rfl
 ·rw[decide_eq_false (show ¬(0:Int)<0 by omega),decide_eq_false a]
  exact key rfl
theorem Fg(N:Nat){x:Int}(h:bA x)(hx:x≠ -170141183460469231731687303715884105728):HZ N (bg x)=some (bg (x.natAbs:Int),true):=by
 unfold HZ
 have e:(bg x).1=x/18446744073709551616:=rfl
 rw[e]
 by_cases h0:x<0
 ·rw[aD (show x/18446744073709551616<0 by omega),cond_true,UP N h hx,Option.bind_some,show(x.natAbs:Int)= -x by omega]
 ·rw[ax (show 0≤x/18446744073709551616 by omega),cond_false,show(x.natAbs:Int)=x by omega]
end VM
end
section
namespace VM
open Go VM.F
theorem Bh{k:Int}: ∀{i:Nat} {l:aE},gp k i l=[]→ ∀x∈l,¬x.1=k
 |i,[],_,x,hx=>nomatch hx
 |i,y::t,h,x,hx=>by
  rw[m4]at h
  by_cases e:y.1=k
  ·rw[if_pos e]at h;exact absurd h (by simp)
  ·rw[if_neg e]at h
   rcases List.mem_cons.1 hx with rfl|hx
   ·exact e
   ·exact Bh h x hx
theorem ss{k:Int}: ∀{i:Nat} {l:aE},gp k i l≠[]→(i:Int)≤(gp k i l).getD 0 0∧(gp k i l).getD 0 0<((i+l.length:Nat):Int)
 |i,[],h=>absurd rfl h
 |i,y::t,h=>by
  rw[m4]at h ⊢
  by_cases e:y.1=k
  ·rw[if_pos e,List.length_cons]
   show(i:Int)≤(i:Int)∧(i:Int)<_
   omega
  ·rw[if_neg e]at h ⊢
   have:=ss h
   rw[List.length_cons];omega
theorem Li{c:aa}{b:af}(hp:dY c=true){k:Int}(h:bH c k=[]):bC c b k=0:=by
 unfold bH at h
 rw[hp,if_pos rfl]at h
 have hn:=Bh h
 have key: ∀n,n≤c.1.length→nR c b k n=0:=by
  intro n
  induction n with
  |zero=>intro _;rfl
  |succ n ih=>
   intro hle
   rw[uw,ih (by omega),if_neg (hn _ (by
    rw[List.getD_eq_getElem?_getD,List.getElem?_eq_getElem (by omega)];exact List.getElem_mem _))];rfl
 exact key _ (Nat.le_refl _)
def qN(c:aa):Int:=c.2.2.2.2.2.2.1
def qOf(v p:Int):Int:=if(v.natAbs:Int)/p≤1000000000 then(v.natAbs:Int)/p else 1000000000
def dN(c:aa)(b:af)(k:Int):Int×Int×Int:=
 ((bH c k).getD 0 0,((if 0<bC c b k then 2 else 1),qOf (bC c b k) (b.2.2.2.2.1.getD ((bH c k).getD 0 0).toNat 0)))
def ti(c:aa)(b:af)(next:Int):Nat→Nat→aE→aE
 |0,_,out=>out
 |m+1,k,out=>if((bC c b (k:Int)).natAbs:Int)≤qN c then ti c b next m (k+1) out else
  if(dN c b (k:Int)).2.2=0 then ti c b next m (k+1) out else
  ti c b next m (k+1) (out++[(next+(out.length:Int),((dN c b (k:Int)).1,((dN c b (k:Int)).2.1,((dN c b (k:Int)).2.2,()))))])
theorem s3(c:aa)(b:af)(next:Int)(m k:Nat)(out:aE):ti c b next (m+1) k out=if((bC c b (k:Int)).natAbs:Int)≤qN c then ti c b next m (k+1) out else
 if(dN c b (k:Int)).2.2=0 then ti c b next m (k+1) out else
 ti c b next m (k+1) (out++[(next+(out.length:Int),((dN c b (k:Int)).1,((dN c b (k:Int)).2.1,((dN c b (k:Int)).2.2,()))))]):=rfl
def kq(c:aa)(b:af)(next:Int):aE×Int:=
 if bV c b then(if 1≤next∧next≤1099511627772 then(ti c b next 4 0 [],0)else([],1))else([],1)
theorem Fh{c:aa}{b:af}(w:eM b)(hB:bV c b=true){k:Int}(h: ¬((bC c b k).natAbs:Int)≤qN c)(h0:0≤qN c):
  bH c k≠[]∧aH ((bH c k).getD 0 0) b.2.2.2.2.1.length=true∧bo (b.2.2.2.2.1.getD ((bH c k).getD 0 0).toNat 0):=by
 have z5:=dq hB
 obtain⟨hp,yP⟩:=cK hB
 have gk:bH c k≠[]:=fun e=>h (by rw[Li z5 e];exact h0)
 have hh:0≤(bH c k).getD 0 0∧(bH c k).getD 0 0<(c.1.length:Int):=by
  unfold bH at gk ⊢
  rw[z5,if_pos rfl]at gk ⊢
  have:=ss gk
  omega
 exact⟨gk,aF (by omega) (by omega),kp yP (by omega)⟩
theorem vV{c:aa}{b:af}(w:eM b)(hB:bV c b=true)(k:Int):bA (bC c b k)∧((bC c b k).natAbs:Int)≤60000000000000000000000000000000:=by
 have h6:=(fI (dq hB)).1
 have:=w3 w hB k c.1.length (Nat.le_refl _)
 unfold bC bA
 omega
theorem Fi{c:aa}{b:af}(hB:bV c b=true):0≤qN c:=by
 have h:=dq hB
 unfold dY at h
 simp only[Bool.and_eq_true]at h
 have:=of_decide_eq_true h.2.2
 exact this.2.2.2.2.2
theorem Fj{v p:Int}(hv:(v.natAbs:Int)≤60000000000000000000000000000000)(hp:bo p):0≤(v.natAbs:Int)/p∧bA ((v.natAbs:Int)/p):=by
 unfold bo at hp
 have h1:0≤(v.natAbs:Int)/p:=Int.ediv_nonneg (by omega) (by omega)
 have h2:(v.natAbs:Int)/p≤v.natAbs:=Int.ediv_le_self _ (by omega)
 unfold bA;omega
end VM
end
section
namespace VM
open Go VM.F
theorem Bi(N:Nat)(hN:4000000≤N)(c:aa)(hc:aA (qN c)){b:af}(w:eM b)(next:Int):pZ N c b next=some (kq c b next):=by
 unfold pZ pZ.b kq
 rw[Ff N hN c w,Option.bind_some]
 by_cases hB:bV c b=false
 ·rw[hB]
  show cond (!ay 1 0) _ _=_
  rw[cG (by omega)];rfl
 rw[Bool.not_eq_false]at hB
 rw[hB,if_pos rfl,if_pos rfl]
 dsimp only
 rw[bZ,Bool.not_true,cond_false,aJ,aJ]
 by_cases h1:next<1
 ·rw[if_pos h1,if_neg (by omega)]
 rw[if_neg h1]
 by_cases h2:1099511627772<next
 ·rw[if_pos h2,if_neg (by omega)]
 rw[if_neg h2,if_pos (by omega)]
 have h0:=Fi hB
 obtain⟨h6,Td⟩:=fI (dq hB)
 have key: ∀(m n k:Nat) (out:aE),k+m=4→m<n→out.length≤k→pZ.l6 N n next c b out (eB (bC c b)) ((eB (bC c b)).length:Int) (k:Int)=some (ti c b next m k out,0):=by
  intro m n
  induction n generalizing m with
  |zero=>intro k out _ hn;omega
  |succ n ih=>
   intro k out hk hn ho
   unfold pZ.l6 pZ.pJ
   have hlen:(eB (bC c b)).length=4:=rfl
   rw[hlen]
   match m,hk,hn with
   |0,hk,hn=>rw[ax (by omega),cond_false];rfl
   |m+1,hk,hn=>
    obtain⟨hv,hva⟩:=vV w hB (k:Int)
    have hvn:bC c b (k:Int)≠ -170141183460469231731687303715884105728:=by omega
    have ll:=w8 (bC c b) (k:=(k:Int)) (by omega)
    have UR:=fun qn Tu=>ih m (k+1) qn (by omega) (by omega) Tu
    rw[hlen]at UR
    unfold aA qN at hc
    rw[aD (by omega),cond_true,aF (by omega) (by omega),cond_true,ll,Fg N hv hvn,Option.bind_some,mw N hc.1 hc.2,Option.bind_some,vF,Option.bind_some,bk,al (x:=(k:Int)+1) (by omega) (by omega),ae k,s3]
    have hs:lL (((bC c b (k:Int)).natAbs:Int)-c.2.2.2.2.2.2.1)≤0↔((bC c b (k:Int)).natAbs:Int)≤qN c:=by
     unfold qN lL;split<;>(try split)<;>omega
    by_cases h3:((bC c b (k:Int)).natAbs:Int)≤qN c
    ·rw[if_pos (hs.2 h3),if_pos h3]
     exact UR out (by omega)
    ·obtain⟨gk,gC,hp⟩:=Fh w hB h3 h0
     have hl0:0<(bH c (k:Int)).length:=List.length_pos_iff.2 gk
     have hd:=Fj hva hp
     have wq:=hp
     unfold bo at wq
     rw[if_neg (fun h=>h3 (hs.1 h)),if_neg h3,OD N (by omega) c (by omega),Option.bind_some,aF (i:=0) (by omega) (by omega),cond_true,show(0:Int).toNat=0 from rfl,gC,cond_true,Um N (by omega) (by omega) (by omega) (by omega) (by omega),Option.bind_some,vI N hd.2,Option.bind_some]
     have fin: ∀q:Int,q=(dN c b (k:Int)).2.2→pZ.wA N (pZ.l6 N n) next c b out (bg (bC c b (k:Int))) ((bH c (k:Int)).getD 0 0) q (eB (bC c b)) ((4:Nat):Int) (k:Int)=some (if(dN c b (k:Int)).2.2=0 then ti c b next m (k+1) out else ti c b next m (k+1) (out++[(next+(out.length:Int),((dN c b (k:Int)).1,((dN c b (k:Int)).2.1,((dN c b (k:Int)).2.2,()))))]),0):=fun q e=>by
      subst e
      unfold pZ.wA pZ.pS
      have Mw:0<lL (bC c b (k:Int))↔0<bC c b (k:Int):=by unfold lL;split<;>(try split)<;>omega
      rw[au,al (x:=(k:Int)+1) (by omega) (by omega),ae k,nP,Option.bind_some,al (x:=next+(out.length:Int)) (by omega) (by omega),aJ]
      by_cases h4:(dN c b (k:Int)).2.2=0
      ·rw[if_pos h4,if_pos h4];exact UR out (by omega)
      ·rw[if_neg h4,if_neg h4]
       rw[aZ (by rw[List.length_singleton];omega),cond_true,aZ (by rw[List.length_singleton];omega),cond_true]
       by_cases h5:0<bC c b (k:Int)
       ·rw[if_pos (Mw.2 h5)]
        have e2:(dN c b (k:Int)).2.1=2:=by unfold dN;exact if_pos h5
        rw[e2]
        exact UR _ (by rw[List.length_append,List.length_singleton];omega)
       ·rw[if_neg (fun h=>h5 (Mw.1 h))]
        have e2:(dN c b (k:Int)).2.1=1:=by unfold dN;exact if_neg h5
        rw[e2]
        exact UR _ (by rw[List.length_append,List.length_singleton];omega)
     have hq: ∀d:Int,d=((bC c b (k:Int)).natAbs:Int)/(b.2.2.2.2.1.getD ((bH c (k:Int)).getD 0 0).toNat 0)→(dN c b (k:Int)).2.2=if d≤1000000000 then d else 1000000000:=fun d e=>by subst e;rfl
     have ot:=hq _ rfl
     generalize ((bC c b (k:Int)).natAbs:Int)/(b.2.2.2.2.1.getD ((bH c (k:Int)).getD 0 0).toNat 0)=d at*
     by_cases h6:aA d
     ·rw[oZ h6]
      dsimp only
      rw[Bool.not_true,cond_false,aJ]
      by_cases h7:1000000000<d
      ·rw[if_pos h7];exact fin _ (by rw[ot,if_neg (by omega)])
      ·rw[if_neg h7];exact fin _ (by rw[ot,if_pos (by omega)])
     ·rw[qz h6]
      dsimp only
      rw[Bool.not_false,cond_true]
      exact fin _ (by rw[ot,if_neg (by unfold aA at h6;omega)])
 exact key 4 N 0 [] (by omega) (by omega) (Nat.le_refl _)
end VM
end
section
namespace VM
open Go VM.F
theorem Lj(N:Nat)(hN:5000000≤N)(c:aa)(hc:aA (qN c)){b:af}(w:eM b)(next:Int):mG N c b next=some (kq c b next):=by
 unfold mG mG.b kq
 rw[HJ N hN c w,Option.bind_some]
 by_cases hB:bV c b=false
 ·rw[hB]
  show cond (!ay 1 0) _ _=_
  rw[cG (by omega)];rfl
 rw[Bool.not_eq_false]at hB
 rw[hB,if_pos rfl,if_pos rfl]
 dsimp only
 rw[bZ,Bool.not_true,cond_false,aJ,aJ]
 by_cases h1:next<1
 ·rw[if_pos h1,if_neg (by omega)]
 rw[if_neg h1]
 by_cases h2:1099511627772<next
 ·rw[if_pos h2,if_neg (by omega)]
 rw[if_neg h2,if_pos (by omega)]
 have h0:=Fi hB
 obtain⟨h6,Td⟩:=fI (dq hB)
 have key: ∀(m n k:Nat) (out:aE),k+m=4→m<n→out.length≤k→mG.l6 N n (next+(out.length:Int)) c b (kL (bC c b)) out (k:Int)=some (ti c b next m k out,0):=by
  intro m n
  induction n generalizing m with
  |zero=>intro k out _ hn;omega
  |succ n ih=>
   intro k out hk hn ho
   unfold mG.l6 mG.pJ
   have hlen:(kL (bC c b)).length=4:=rfl
   match m,hk,hn with
   |0,hk,hn=>rw[ax (by omega),cond_false];rfl
   |m+1,hk,hn=>
    obtain⟨hv,hva⟩:=vV w hB (k:Int)
    have ll:=A2 (bC c b) (k:=(k:Int)) (by omega)
    have UR:=fun qn Tu=>ih m (k+1) qn (by omega) (by omega) Tu
    unfold aA qN at hc
    have hab:bA ((bC c b (k:Int)).natAbs:Int):=by unfold bA;omega
    rw[aD (by omega),cond_true,AZ N (by omega) c (by omega),Option.bind_some,hlen,aF (by omega) (by omega),cond_true,ll,vp N (by omega) (g7 hv),Option.bind_some,au,cj N (by omega) hc.1 hc.2,Option.bind_some,rZ N (by omega) (g7 hab) ((Fit.i64 hc.1 hc.2).mono (by omega)),Option.bind_some,bk,al (x:=(k:Int)+1) (by omega) (by omega),ae k,s3]
    have hs:lL (((bC c b (k:Int)).natAbs:Int)-c.2.2.2.2.2.2.1)≤0↔((bC c b (k:Int)).natAbs:Int)≤qN c:=by
     unfold qN lL;split<;>(try split)<;>omega
    by_cases h3:((bC c b (k:Int)).natAbs:Int)≤qN c
    ·rw[if_pos (hs.2 h3),if_pos h3,UR out (by omega)]
     split<;>rfl
    ·obtain⟨gk,gC,hp⟩:=Fh w hB h3 h0
     have hl0:0<(bH c (k:Int)).length:=List.length_pos_iff.2 gk
     have hd:=Fj hva hp
     have h5:Fit ((bC c b (k:Int)).natAbs:Int) 5:=by
      unfold Fit
      rw[show(4294967296:Nat)^5=1461501637330902918203684832716283019655932542976 from rfl]
      omega
     have Py:Fit ((bC c b (k:Int)).natAbs:Int) 80000:=Fit.mono h5 (by decide)
     have aa9:(kL (bC c b)).getD k (false,kQ)=bn (bC c b (k:Int)):=by rw[←ll,Int.toNat_natCast]
     have wq:=hp
     unfold bo at wq
     rw[if_neg (show ¬((bH c (k:Int)).length:Int)=0 by omega),if_neg (fun h=>h3 (hs.1 h)),if_neg h3,aF (i:=0) (by omega) (by omega),cond_true,show(0:Int).toNat=0 from rfl,gC,cond_true,cj N (by omega) (by omega) (by omega),Option.bind_some,EM N hN (by omega) Py ((Fit.i64 (by omega) (by omega)).mono (by omega)),Option.bind_some,nM,Option.bind_some]
     have fin: ∀q:Int,q=(dN c b (k:Int)).2.2→mG.wA N (mG.l6 N n) (next+(out.length:Int)) c b (kL (bC c b)) out (k:Int) (bH c (k:Int)) q=some (if(dN c b (k:Int)).2.2=0 then ti c b next m (k+1) out else ti c b next m (k+1) (out++[(next+(out.length:Int),((dN c b (k:Int)).1,((dN c b (k:Int)).2.1,((dN c b (k:Int)).2.2,()))))]),0):=fun q e=>by
      subst e
      unfold mG.wA mG.pS
      have Mw:0<lL (bC c b (k:Int))↔0<bC c b (k:Int):=by unfold lL;split<;>(try split)<;>omega
      rw[au,al (x:=(k:Int)+1) (by omega) (by omega),ae k,aF (i:=0) (by omega) (by omega),cond_true,hlen,aF (by omega) (by omega),cond_true,Int.toNat_natCast,aa9,mW,Option.bind_some,aJ,al (x:=next+(out.length:Int)+1) (by omega) (by omega),show(0:Int).toNat=0 from rfl]
      by_cases h4:(dN c b (k:Int)).2.2=0
      ·rw[if_pos h4,if_pos h4];exact UR out (by omega)
      ·rw[if_neg h4,if_neg h4,aZ (by rw[List.length_singleton];omega),cond_true,aZ (by rw[List.length_singleton];omega),cond_true]
       have step:=fun z:br=>UR (out++[z]) (by rw[List.length_append,List.length_singleton];omega)
       have el: ∀z:br,next+((out++[z]).length:Int)=next+(out.length:Int)+1:=fun z=>by rw[List.length_append,List.length_singleton];omega
       by_cases h5:0<bC c b (k:Int)
       ·rw[if_pos (Mw.2 h5)]
        have e2:(dN c b (k:Int)).2.1=2:=by unfold dN;exact if_pos h5
        rw[e2,←step _,el];rfl
       ·rw[if_neg (fun h=>h5 (Mw.1 h))]
        have e2:(dN c b (k:Int)).2.1=1:=by unfold dN;exact if_neg h5
        rw[e2,←step _,el];rfl
     have hq: ∀d:Int,d=((bC c b (k:Int)).natAbs:Int)/(b.2.2.2.2.1.getD ((bH c (k:Int)).getD 0 0).toNat 0)→(dN c b (k:Int)).2.2=if d≤1000000000 then d else 1000000000:=fun d e=>by subst e;rfl
     have ot:=hq _ rfl
     generalize ((bC c b (k:Int)).natAbs:Int)/(b.2.2.2.2.1.getD ((bH c (k:Int)).getD 0 0).toNat 0)=d at*
     by_cases h6:aA d
     ·rw[oZ h6]
      dsimp only
      rw[Bool.not_true,cond_false,aJ]
      by_cases h7:1000000000<d
      ·rw[if_pos h7];exact fin _ (by rw[ot,if_neg (by omega)])
      ·rw[if_neg h7];exact fin _ (by rw[ot,if_pos (by omega)])
     ·rw[qz h6]
      dsimp only
      rw[Bool.not_false,cond_true]
      exact fin _ (by rw[ot,if_neg (by unfold aA at h6;omega)])
 have:=key 4 N 0 [] (by omega) (by omega) (Nat.le_refl _)
 rw[List.length_nil,show next+((0:Nat):Int)=next by omega]at this
 exact this
end VM
end
section
namespace VM
open Go VM.F
def ma(x:ck)(z:Int×Int):Int×Int:=if x.2.2.2.1=1 then(z.1+x.2.2.2.2.1,z.2)else(z.1,z.2+x.2.2.2.2.1)
def US(a k:Int):aT→Int×Int→Int×Int
 |[],z=>z
 |x::t,z=>US a k t (if x.2.1=a∧x.2.2.1=k then ma x z else z)
theorem vW(a k:Int)(x:ck)(t:aT)(z:Int×Int):US a k (x::t) z=US a k t (if x.2.1=a∧x.2.2.1=k then ma x z else z):=rfl
theorem H4(a k:Int)(o:ck): ∀(l:aT) (z:Int×Int),US a k (l++[o]) z=if o.2.1=a∧o.2.2.1=k then ma o (US a k l z)else US a k l z
 |[],z=>rfl
 |x::t,z=>by rw[List.cons_append,vW,vW];exact H4 a k o t _
def nz(i:Int)(z:Int×Int):ca:=(i,(z.1,(z.2,())))
def H5(f:Int→Int×Int):Nat→Nat→ah
 |0,_=>[]
 |m+1,k=>if 0<(f (k:Int)).1+(f (k:Int)).2 then nz (k:Int) (f (k:Int))::H5 f m (k+1)else H5 f m (k+1)
theorem iJ(f:Int→Int×Int)(m k:Nat):H5 f (m+1) k=if 0<(f (k:Int)).1+(f (k:Int)).2 then nz (k:Int) (f (k:Int))::H5 f m (k+1)else H5 f m (k+1):=rfl
def Fk(l:aT)(a k:Int):Int×Int:=US a k l (0,0)
def o7(l:aT)(a:Int):ah:=H5 (Fk l a) 6 0
theorem Fl(f:Int→Int×Int): ∀m k,(H5 f m k).length≤m
 |0,_=>Nat.le_refl _
 |m+1,k=>by
  rw[iJ]
  have:=Fl f m (k+1)
  split
  ·rw[List.length_cons];omega
  ·omega
theorem Rw(f:Int→Int×Int): ∀m k,∀x∈H5 f m k,(k:Int)≤x.1
 |0,_,x,hx=>nomatch hx
 |m+1,k,x,hx=>by
  rw[iJ]at hx
  have ih:=Rw f m (k+1) x
  split at hx
  ·rcases List.mem_cons.1 hx with rfl|hx
   ·exact Int.le_refl _
   ·have:=ih hx;omega
  ·have:=ih hx;omega
theorem w9{f g:Int→Int×Int}: ∀m k,(∀j:Nat,k≤j→f (j:Int)=g (j:Int))→H5 f m k=H5 g m k
 |0,_,_=>rfl
 |m+1,k,h=>by rw[iJ,iJ,h k (Nat.le_refl _),w9 m (k+1) (fun j hj=>h j (by omega))]
def Cz(l:aT):Prop:= ∀x∈l,1≤x.2.2.2.2.1∧x.2.2.2.2.1≤1000000000
theorem Fm{l:aT}(h:Cz l){i:Nat}(hi:i<l.length):1≤(l.getD i dP).2.2.2.2.1∧(l.getD i dP).2.2.2.2.1≤1000000000:=h _ (by
 rw[List.getD_eq_getElem?_getD,List.getElem?_eq_getElem hi];exact List.getElem_mem hi)
def y6(z:Int×Int)(n:Nat):Prop:=0≤z.1∧z.1≤1000000000*(n:Int)∧0≤z.2∧z.2≤1000000000*(n:Int)
theorem M8{x:ck}{z:Int×Int}{n:Nat}(hq:1≤x.2.2.2.2.1∧x.2.2.2.2.1≤1000000000)(h:y6 z n):y6 (ma x z) (n+1):=by
 have g: ∀q:Int,1≤q∧q≤1000000000→y6 (z.1+q,z.2) (n+1)∧y6 (z.1,z.2+q) (n+1):=fun q hq=>by unfold y6 at*;dsimp only;omega
 have gx:=g _ hq
 unfold ma
 split
 ·exact gx.1
 ·exact gx.2
theorem y6.mono{z:Int×Int}{n m:Nat}(h:y6 z n)(hm:n≤m):y6 z m:=by unfold y6 at*;omega
theorem Rx{a k:Int}: ∀{l:aT} {z:Int×Int} {n:Nat},Cz l→y6 z n→y6 (US a k l z) (n+l.length)
 |[],z,n,_,h=>h
 |x::t,z,n,hq,h=>by
  have hx:=hq x (List.mem_cons_self ..)
  rw[vW,List.length_cons,show n+(t.length+1)=n+1+t.length by omega]
  refine Rx (fun y hy=>hq y (List.mem_cons_of_mem _ hy)) ?_
  split
  ·exact M8 hx h
  ·exact y6.mono h (by omega)
theorem zz{l:aT}(h:Cz l)(a k:Int):y6 (Fk l a k) l.length:=by
 have:=Rx (a:=a) (k:=k) (z:=(0,0)) (n:=0) h (by unfold y6;dsimp only;omega)
 rw[Nat.zero_add]at this;exact this
theorem Bj{l:aT}(h:ez l=true):Cz l∧l.length≤32:=by
 unfold ez at h
 rw[Bool.and_eq_true]at h
 refine⟨fun x hx=> ?_,of_decide_eq_true h.2⟩
 obtain⟨i,hi,e⟩:=List.getElem_of_mem hx
 have:=of_decide_eq_true h.1 i hi
 unfold oW at this
 have h1:=this.1
 rw[List.getD_eq_getElem?_getD,List.getElem?_eq_getElem hi,Option.getD_some,e]at h1
 unfold ff at h1
 exact h1.2.2.2.2.1
def oI(o:ck):Int:=o.2.2.1
def oQ(o:ck):Int:=o.2.2.2.2.1
def oK(x:ca):Int:=x.1
def vX(o:ck):ah→ah
 |[]=>[nz (oI o) (ma o (0,0))]
 |x::t=>if oK x<oI o then x::vX o t else if oK x=oI o then nz (oK x) (ma o (x.2.1,x.2.2.1))::t else nz (oI o) (ma o (0,0))::x::t
theorem nV(o:ck)(x:ca)(t:ah):vX o (x::t)=if oK x<oI o then x::vX o t else if oK x=oI o then nz (oK x) (ma o (x.2.1,x.2.2.1))::t else nz (oI o) (ma o (0,0))::x::t:=rfl
theorem Ry(o:ck){l:ah}(h: ∀x∈l,oI o<oK x):vX o l=nz (oI o) (ma o (0,0))::l:=by
 match l,h with
 |[],_=>rfl
 |x::t,h=>
  have:=h x (List.mem_cons_self ..)
  rw[nV,if_neg (Int.lt_asymm this),if_neg (fun e=>Int.lt_irrefl _ (e▸this))]
def H6(o:ck)(f:Int→Int×Int)(k:Int):Int×Int:=if k=oI o then ma o (f k)else f k
theorem Rz(o:ck)(z:Int×Int):(ma o z).1+(ma o z).2=z.1+z.2+oQ o:=by
 unfold ma
 have: ∀a b q:Int,a+q+b=a+b+q∧a+(b+q)=a+b+q:=fun a b q=>by omega
 split
 ·exact(this _ _ _).1
 ·exact(this _ _ _).2
theorem DM(o:ck){f:Int→Int×Int}(hf: ∀k,0≤(f k).1∧0≤(f k).2)(hq:1≤oQ o): ∀m k:Nat,(k:Int)≤oI o→oI o<((k+m:Nat):Int)→vX o (H5 f m k)=H5 (H6 o f) m k
 |0,k,h1,h2=>by omega
 |m+1,k,h1,h2=>by
  have hk:=hf (k:Int)
  by_cases e:(k:Int)=oI o
  ·have hu:H6 o f (k:Int)=ma o (f (k:Int)):=by unfold H6;rw[if_pos e]
   have hs:=Rz o (f (k:Int))
   have hc:H5 f m (k+1)=H5 (H6 o f) m (k+1):=w9 m (k+1) fun j hj=>by unfold H6;rw[if_neg (by omega)]
   rw[iJ,iJ,hu,if_pos (show 0<(ma o (f (k:Int))).1+(ma o (f (k:Int))).2 by omega),←hc]
   by_cases h0:0<(f (k:Int)).1+(f (k:Int)).2
   ·rw[if_pos h0,nV,if_neg (show ¬oK (nz (k:Int) (f (k:Int)))<oI o from by show ¬(k:Int)<oI o;omega),if_pos (show oK (nz (k:Int) (f (k:Int)))=oI o from e)]
    rfl
   ·have hz:f (k:Int)=(0,0):=Prod.ext (by omega) (by omega)
    rw[if_neg h0,hz,Ry o (fun x hx=>by have:((k+1:Nat):Int)≤oK x:=Rw f m (k+1) x hx;omega),e]
  ·have hu:H6 o f (k:Int)=f (k:Int):=by unfold H6;rw[if_neg e]
   have ih:=DM o hf hq m (k+1) (by omega) (by omega)
   rw[iJ,iJ,hu]
   by_cases h0:0<(f (k:Int)).1+(f (k:Int)).2
   ·rw[if_pos h0,if_pos h0,nV,if_pos (show oK (nz (k:Int) (f (k:Int)))<oI o from by show(k:Int)<oI o;omega),ih]
   ·rw[if_neg h0,if_neg h0,ih]
theorem H7{l:aT}(h:Cz l){o:ck}(ho:ff o):vX o (o7 l o.2.1)=o7 (l++[o]) o.2.1:=by
 unfold ff at ho
 unfold o7
 rw[DM o (fun k=>by have:=zz h o.2.1 k;unfold y6 at this;omega) ho.2.2.2.2.1.1 6 0 ho.2.2.1.1 (Int.lt_of_lt_of_le ho.2.2.1.2 (by decide))]
 refine w9 6 0 fun j _=> ?_
 unfold H6 Fk
 rw[H4]
 by_cases e:oI o=(j:Int)
 ·rw[if_pos e.symm];exact(if_pos ⟨rfl,e⟩).symm
 ·rw[if_neg (fun h=>e h.symm)];exact(if_neg fun h=>e h.2).symm
def cutAt(a:Int):ah→Nat
 |[]=>0
 |x::t=>if oK x<a then cutAt a t+1 else 0
theorem la(a:Int)(x:ca)(t:ah):cutAt a (x::t)=if oK x<a then cutAt a t+1 else 0:=rfl
theorem Bk(a:Int): ∀l:ah,cutAt a l≤l.length
 |[]=>Nat.le_refl _
 |x::t=>by
  rw[la,List.length_cons]
  have:=Bk a t
  split<;>omega
def atO(o:ck)(x:ca):ca:=nz (oK x) (ma o (x.2.1,x.2.2.1))
theorem xa(o:ck): ∀l:ah,(cutAt (oI o) l=l.length∨ ¬oK (l.getD (cutAt (oI o) l) aL)=oI o)→vX o l=l.take (cutAt (oI o) l)++nz (oI o) (ma o (0,0))::l.drop (cutAt (oI o) l)
 |[],_=>rfl
 |x::t,h=>by
  rw[la]at h ⊢
  rw[nV]
  by_cases h1:oK x<oI o
  ·rw[if_pos h1]at h ⊢
   rw[if_pos h1,xa o t (by
    rw[List.length_cons,List.getD_cons_succ]at h
    rcases h with h|h
    ·exact .inl (by omega)
    ·exact .inr h)];rfl
  ·rw[if_neg h1]at h ⊢
   have h2: ¬oK x=oI o:=by
    rcases h with h|h
    ·rw[List.length_cons]at h;omega
    ·exact h
   rw[if_neg h1,if_neg h2];rfl
theorem DN(o:ck): ∀l:ah,cutAt (oI o) l<l.length→oK (l.getD (cutAt (oI o) l) aL)=oI o→vX o l=l.set (cutAt (oI o) l) (atO o (l.getD (cutAt (oI o) l) aL))
 |[],h,_=>by exact absurd h (Nat.lt_irrefl 0)
 |x::t,h,h'=>by
  rw[la]at h h'
  rw[nV,la]
  by_cases h1:oK x<oI o
  ·rw[if_pos h1]at h h'
   rw[if_pos h1,if_pos h1]
   rw[List.length_cons]at h
   rw[List.getD_cons_succ]at h'
   rw[List.getD_cons_succ,DN o t (by omega) h'];rfl
  ·rw[if_neg h1]at h'
   rw[if_neg h1,if_neg h1,if_pos (show oK x=oI o from h')];rfl
end VM
end
section
namespace VM
open Go VM.F
theorem RA{x:ck}{z:Int×Int}{n:Nat}(hn:n≤1000)(hq:1≤x.2.2.2.2.1∧x.2.2.2.2.1≤1000000000)(hz:y6 z n)(k:Int):
  (x.2.2.2.1=1→((k,(W .i64 (z.1+x.2.2.2.2.1),(z.2,()))):ca)=nz k (ma x z))∧(¬x.2.2.2.1=1→((k,(z.1,(W .i64 (z.2+x.2.2.2.2.1),()))):ca)=nz k (ma x z)):=by
 have g: ∀q:Int,1≤q∧q≤1000000000→W .i64 (z.1+q)=z.1+q∧W .i64 (z.2+q)=z.2+q:=fun q hq=>by
  unfold y6 at hz
  exact⟨al (by omega) (by omega),al (by omega) (by omega)⟩
 have gx:=g _ hq
 unfold ma nz
 exact⟨fun h=>by rw[gx.1,if_pos h],fun h=>by rw[gx.2,if_neg h]⟩
theorem yk(N:Nat){F:ca→Option ah}{G:Nat→ca→Int→Option ah}(l:aT)(a k:Int)(hq:Cz l)(hl:l.length≤1000)(hN:l.length<N)
  (hs: ∀n i z r,i<l.length→y6 z i→G n (nz k (if(l.getD i dP).2.1=a∧(l.getD i dP).2.2.1=k then ma (l.getD i dP) z else z)) ((i+1:Nat):Int)=r→G (n+1) (nz k z) (i:Int)=r)
  (he: ∀n z,y6 z l.length→G (n+1) (nz k z) (l.length:Int)=F (nz k z)):G N (nz k (0,0)) 0=F (nz k (Fk l a k)):=by
 have:=kD l dP (fun n i (z:Int×Int)=>G n (nz k z) i) (fun t z=>F (nz k (US a k t z))) (fun i z=>y6 z i) (fun n i z hi hz hr=> ?_) (fun n z hz=>he n z hz) l.length N 0 (0,0) (by omega) hN (by omega) (by unfold y6;decide)
 ·exact this
 ·rw[vW]
  refine hs n i z _ hi hz (hr _ ?_)
  split
  ·exact M8 (Fm hq hi) hz
  ·exact y6.mono hz (by omega)
theorem su{F:Nat→ah→Int→Option ah}(f:Int→Int×Int)
  (hs: ∀(n k:Nat) (out:ah) (r:Option ah),k<6→out.length≤k→F n (if 0<(f (k:Int)).1+(f (k:Int)).2 then out++[nz (k:Int) (f (k:Int))]else out) ((k+1:Nat):Int)=r→F (n+1) out (k:Int)=r)
  (he: ∀n out,F (n+1) out 6=some out): ∀(m n k:Nat) (out:ah),k+m=6→m<n→out.length≤k→F n out (k:Int)=some (out++H5 f m k)
 |_,0,_,_,_,hn,_=>by omega
 |0,n+1,k,out,hk,_,_=>by
  have:k=6:=by omega
  subst this
  rw[show H5 f 0 6=[]from rfl,List.append_nil]
  exact he n out
 |m+1,n+1,k,out,hk,hn,ho=>by
  refine hs n k out _ (by omega) ho ?_
  rw[su f hs he m n (k+1) _ (by omega) (by omega) (by
   split
   ·rw[List.length_append,List.length_singleton];omega
   ·omega),iJ]
  split
  ·rw[List.append_assoc];rfl
  ·rfl
theorem RB(N:Nat)(hN:200000≤N){l:aT}(hl:l.length≤100000)(a:Int):ep N l a=some (if ez l then o7 l a else []):=by
 unfold ep ep.b
 rw[Db N hl hN,Option.bind_some]
 by_cases h:ez l=false
 ·rw[h];rfl
 rw[Bool.not_eq_false]at h
 rw[h,Bool.not_true,cond_false,if_pos rfl]
 obtain⟨hq,h32⟩:=Bj h
 refine su (F:=fun n out k=>ep.l5 N n l a out k) (Fk l a) (fun n k out r hk ho hr=> ?_) (fun n out=> ?_) 6 N 0 [] (by omega) (by omega) (Nat.le_refl _)
 ·unfold ep.l5 ep.c5
  rw[aD (by omega),cond_true]
  refine(yk N (G:=fun n' x i=>ep.l9 N (ep.l5 N n) n' l a out (k:Int) x (k:Int) l (l.length:Int) i) (F:=fun x=>cond (aG 0 (W .i64 (x.2.1+x.2.2.1))) (cond (small (out.length+[x].length)) (ep.l5 N n l a (out++[x]) (W .i64 ((k:Int)+1))) none) (ep.l5 N n l a out (W .i64 ((k:Int)+1)))) l a (k:Int) hq (by omega) (by omega) (fun n' i z r' hi hz dw=> ?_) (fun n' z hz=> ?_)).trans ?_
  ·unfold ep.l9 ep.tG
   rw[aD (by omega),cond_true,aF (by omega) (by omega),cond_true,Int.toNat_natCast,cond_not,au,cond_not,au,au,al (x:=(i:Int)+1) (by omega) (by omega),ae i]
   have hw:=RA (n:=i) (by omega) (Fm hq hi) hz (k:Int)
   by_cases h1:(l.getD i dP).2.1=a
   ·rw[if_pos h1]
    by_cases h2:(l.getD i dP).2.2.1=(k:Int)
    ·rw[if_pos ⟨h1,h2⟩]at dw
     rw[if_pos h2]
     by_cases h3:(l.getD i dP).2.2.2.1=1
     ·rw[if_pos h3,←dw,←hw.1 h3];rfl
     ·rw[if_neg h3,←dw,←hw.2 h3];rfl
    ·rw[if_neg (fun h=>h2 h.2)]at dw
     rw[if_neg h2];exact dw
   ·rw[if_neg (fun h=>h1 h.1)]at dw
    rw[if_neg h1];exact dw
  ·unfold ep.l9 ep.tG
   rw[ax (by omega),cond_false]
  ·have hz:=zz hq a (k:Int)
   unfold y6 at hz
   show cond (aG 0 (W .i64 ((Fk l a (k:Int)).1+(Fk l a (k:Int)).2))) _ _=r
   rw[al (x:=(Fk l a (k:Int)).1+(Fk l a (k:Int)).2) (by omega) (by omega),aJ,aZ (by rw[List.length_singleton];omega),cond_true,al (x:=(k:Int)+1) (by omega) (by omega),ae k,←hr]
   split<;>rfl
 ·unfold ep.l5 ep.c5
  rw[ax (by omega),cond_false]
theorem DO(N:Nat)(hN:200000≤N){l:aT}(hq:Cz l)(hl:l.length≤1000)(a:Int):di N l a=some (o7 l a):=by
 unfold di di.b
 refine su (F:=fun n out k=>di.l3 N n l a out k) (Fk l a) (fun n k out r hk ho hr=> ?_) (fun n out=> ?_) 6 N 0 [] (by omega) (by omega) (Nat.le_refl _)
 ·unfold di.l3 di.jP
  rw[aD (by omega),cond_true]
  refine(yk N (G:=fun n' x i=>di.l7 N (di.l3 N n) n' l a out (k:Int) x i) (F:=fun x=>cond (aG 0 x.2.1) (cond (small (out.length+[x].length)) (di.l3 N n l a (out++[x]) (W .i64 ((k:Int)+1))) none) (cond (aG 0 x.2.2.1) (cond (small (out.length+[x].length)) (di.l3 N n l a (out++[x]) (W .i64 ((k:Int)+1))) none) (di.l3 N n l a out (W .i64 ((k:Int)+1))))) l a (k:Int) hq (by omega) (by omega) (fun n' i z r' hi hz dw=> ?_) (fun n' z hz=> ?_)).trans ?_
  ·unfold di.l7 di.mq
   rw[aD (by omega),cond_true,aF (by omega) (by omega),cond_true,cond_true,cond_true,cond_true,cond_true,Int.toNat_natCast,cond_not,au,cond_not,au,au,al (x:=(i:Int)+1) (by omega) (by omega),ae i]
   have hw:=RA (n:=i) (by omega) (Fm hq hi) hz (k:Int)
   by_cases h1:(l.getD i dP).2.1=a
   ·rw[if_pos h1]
    by_cases h2:(l.getD i dP).2.2.1=(k:Int)
    ·rw[if_pos ⟨h1,h2⟩]at dw
     rw[if_pos h2]
     by_cases h3:(l.getD i dP).2.2.2.1=1
     ·rw[if_pos h3,←dw,←hw.1 h3];rfl
     ·rw[if_neg h3,←dw,←hw.2 h3];rfl
    ·rw[if_neg (fun h=>h2 h.2)]at dw
     rw[if_neg h2];exact dw
   ·rw[if_neg (fun h=>h1 h.1)]at dw
    rw[if_neg h1];exact dw
  ·unfold di.l7 di.mq
   rw[ax (by omega),cond_false]
  ·have hz:=zz hq a (k:Int)
   unfold y6 at hz
   show cond (aG 0 (Fk l a (k:Int)).1) _ (cond (aG 0 (Fk l a (k:Int)).2) _ _)=r
   rw[aJ,aJ,aZ (by rw[List.length_singleton];omega),cond_true,al (x:=(k:Int)+1) (by omega) (by omega),ae k,←hr]
   by_cases h0:0<(Fk l a (k:Int)).1+(Fk l a (k:Int)).2
   ·rw[if_pos h0]
    by_cases h1:0<(Fk l a (k:Int)).1
    ·rw[if_pos h1]
    ·rw[if_neg h1,if_pos (by omega)]
   ·rw[if_neg h0,if_neg (by omega),if_neg (by omega)]
 ·unfold di.l3 di.jP
  rw[ax (by omega),cond_false]
theorem RC(a:Int): ∀(l:ah) (i:Nat),i<cutAt a l→oK (l.getD i aL)<a
 |[],i,h=>absurd h (Nat.not_lt_zero i)
 |x::t,i,h=>by
  rw[la]at h
  by_cases h1:oK x<a
  ·rw[if_pos h1]at h
   match i with
   |0=>exact h1
   |i+1=>exact RC a t i (by omega)
  ·rw[if_neg h1]at h;exact absurd h (Nat.not_lt_zero i)
theorem M9(a:Int): ∀l:ah,cutAt a l<l.length→ ¬oK (l.getD (cutAt a l) aL)<a
 |[],h=>absurd h (Nat.not_lt_zero _)
 |x::t,h=>by
  rw[la]at h ⊢
  by_cases h1:oK x<a
  ·rw[if_pos h1]at h ⊢
   rw[List.length_cons]at h
   exact M9 a t (by omega)
  ·rw[if_neg h1];exact h1
theorem DP(N:Nat)(o:ck)(l:ah)(hl:l.length≤100000): ∀m n i,cutAt (oI o) l-i≤m→m<n→i≤cutAt (oI o) l→eK.l2 N n l o (i:Int)=eK.j4 N l o (cutAt (oI o) l:Int)
 |m,0,i,_,hn,_=>by omega
 |m,n+1,i,hm,hn,hi=>by
  have hle:=Bk (oI o) l
  unfold eK.l2 eK.dx
  rw[aJ,aJ,al (x:=(i:Int)+1) (by omega) (by omega),ae i,Int.toNat_natCast]
  by_cases h:i<cutAt (oI o) l
  ·rw[if_pos (by omega),aF (by omega) (by omega),cond_true]
   exact(if_pos (RC (oI o) l i h)).trans (DP N o l hl (m-1) n (i+1) (by omega) (by omega) (by omega))
  ·have e:i=cutAt (oI o) l:=by omega
   rw[←e]
   by_cases h2:(i:Int)<(l.length:Int)
   ·rw[if_pos h2,aF (by omega) (by omega),cond_true]
    have:=M9 (oI o) l (by omega)
    rw[←e]at this
    exact if_neg this
   ·rw[if_neg h2]
theorem RD{α:Type}(a b:List α)(x y:α):(a++x::b).set a.length y=a++y::b:=by
 rw[List.set_append_right _ _ (Nat.le_refl _),Nat.sub_self];rfl
theorem ON{α:Type}(a b:List α)(x d:α):(a++x::b).getD a.length d=x:=by
 rw[List.getD_eq_getElem?_getD,List.getElem?_append_right (Nat.le_refl _),Nat.sub_self];rfl
def zA(z:Int×Int):Prop:=0≤z.1∧z.1≤33000000000∧0≤z.2∧z.2≤33000000000
theorem UT{o:ck}(hq:1≤oQ o∧oQ o≤1000000000){x:ca}(hz:zA (x.2.1,x.2.2.1)):
  (o.2.2.2.1=1→((x.1,(W .i64 (x.2.1+o.2.2.2.2.1),x.2.2)):ca)=atO o x)∧(¬o.2.2.2.1=1→((x.1,(x.2.1,(W .i64 (x.2.2.1+o.2.2.2.2.1),x.2.2.2))):ca)=atO o x):=by
 have g: ∀a b q:Int,zA (a,b)→1≤q∧q≤1000000000→W .i64 (a+q)=a+q∧W .i64 (b+q)=b+q:=fun a b q hz hq=>by
  unfold zA at hz
  dsimp only at hz
  exact⟨al (by omega) (by omega),al (by omega) (by omega)⟩
 have gx:=g _ _ _ hz hq
 unfold oQ at gx
 unfold atO ma nz oK
 exact⟨fun h=>by rw[gx.1,if_pos h],fun h=>by rw[gx.2,if_neg h]⟩
theorem Na(N:Nat){o:ck}(hq:1≤oQ o∧oQ o≤1000000000){l:ah}{i:Nat}(hi:i<l.length)(hl:l.length≤100000)(hz:zA ((l.getD i aL).2.1,(l.getD i aL).2.2.1)):eK.j6 N l o (i:Int)=some (l.set i (atO o (l.getD i aL))):=by
 unfold eK.j6 eK.J0
 have h:=UT hq hz
 rw[aF (by omega) (by omega),cond_true,cond_true,cond_true,cond_true,Int.toNat_natCast,au]
 by_cases h3:o.2.2.2.1=1
 ·rw[if_pos h3,←h.1 h3]
 ·rw[if_neg h3,←h.2 h3]
theorem H8(N:Nat){o:ck}(hq:1≤oQ o∧oQ o≤1000000000){l:ah}{i:Nat}(hi:i≤l.length)(hl:l.length≤1000):
  ((gR N l (i:Int) ([(o.2.2.1,bI)]:ah)).bind fun r4=>eK.j6 N r4 o (i:Int))=some (l.take i++nz (oI o) (ma o (0,0))::l.drop i):=by
 unfold gR
 rw[if_pos ⟨by omega,by omega,rfl,by unfold uM;omega⟩,Option.bind_some,Int.toNat_natCast]
 have ht:(l.take i).length=i:=by rw[List.length_take];omega
 have hg: ∀d:ca,(l.take i++d::l.drop i).getD i aL=d:=fun d=>by
  have:=ON (l.take i) (l.drop i) d aL
  rw[ht]at this;exact this
 have hs: ∀d y:ca,(l.take i++d::l.drop i).set i y=l.take i++y::l.drop i:=fun d y=>by
  have:=RD (l.take i) (l.drop i) d y
  rw[ht]at this;exact this
 have hn:(l.take i++(((oI o,bI):ca)::l.drop i)).length=l.length+1:=by rw[List.length_append,List.length_cons,List.length_take,List.length_drop];omega
 have:=Na N hq (l:=l.take i++(((oI o,bI):ca)::l.drop i)) (i:=i) (by omega) (by omega) (by rw[hg];exact⟨Int.le_refl _,(by decide:(0:Int)≤33000000000),Int.le_refl _,(by decide:(0:Int)≤33000000000)⟩)
 rw[hg,hs]at this
 exact this
theorem UU(N:Nat)(hN:200000≤N){o:ck}(hq:1≤oQ o∧oQ o≤1000000000){l:ah}(hl:l.length≤1000)(hz: ∀x∈l,zA (x.2.1,x.2.2.1)):eK N l o=some (vX o l):=by
 unfold eK eK.b
 have hle:=Bk (oI o) l
 refine(DP N o l (by omega) (cutAt (oI o) l) N 0 (by omega) (by omega) (by omega)).trans ?_
 unfold eK.j4 eK.j4b
 rw[au,cond_not,au,Int.toNat_natCast]
 by_cases h:cutAt (oI o) l=l.length
 ·rw[if_pos (by omega),H8 N hq hle hl,xa o l (.inl h)]
 ·rw[if_neg (by omega),aF (by omega) (by omega),cond_true]
  by_cases h2:oK (l.getD (cutAt (oI o) l) aL)=oI o
  ·rw[DN o l (by omega) h2]
   refine(if_pos h2).trans (Na N hq (by omega) (by omega) (hz _ ?_))
   rw[List.getD_eq_getElem?_getD,List.getElem?_eq_getElem (by omega)];exact List.getElem_mem _
  ·rw[xa o l (.inr h2)]
   exact(if_neg h2).trans (H8 N hq hle hl)
end VM
end
section
namespace VM
open Go VM.F
def zB(a b s n:Int)(i:Nat)(p:Int):Prop:=0≤a∧a<n∧0≤b∧b≤33000000000∧0≤s∧s≤33000000000∧(b=0→s≠0)∧(0<i→p<a)
instance(a b s n:Int)(i:Nat)(p:Int):Decidable (zB a b s n i p):=by unfold zB;infer_instance
def sv(c:aa)(l:ah)(i:Nat):Prop:=zB (l.getD i aL).1 (l.getD i aL).2.1 (l.getD i aL).2.2.1 c.1.length i (l.getD (i-1) aL).1
instance(c:aa)(l:ah):DecidablePred (sv c l):=fun i=>by unfold sv;infer_instance
def eI(c:aa)(l:ah):Bool:=decide (∀j,j<l.length→sv c l j)&&dY c
def Bl(k:Int):av→Int→Int
 |[],z=>z
 |x::t,z=>Bl k t (if x.1=k then x.2.1 else z)
theorem uA(k:Int)(x:KL)(t:av)(z:Int):Bl k (x::t) z=Bl k t (if x.1=k then x.2.1 else z):=rfl
def sx(k:Int):ah→Int×Int→Int×Int
 |[],z=>z
 |x::t,z=>sx k t (if x.1=k then(x.2.1,x.2.2.1)else z)
theorem uB(k:Int)(x:ca)(t:ah)(z:Int×Int):sx k (x::t) z=sx k t (if x.1=k then(x.2.1,x.2.2.1)else z):=rfl
theorem H9(k:Int): ∀{l:av} {z:Int},(∀y∈l,aA y.2.1)→aA z→aA (Bl k l z)
 |[],z,_,h=>h
 |x::t,z,hl,h=>by
  rw[uA]
  refine H9 k (fun y hy=>hl y (List.mem_cons_of_mem _ hy)) ?_
  split
  ·exact hl x (List.mem_cons_self ..)
  ·exact h
theorem Ia(k:Int): ∀{l:ah} {z:Int×Int},(∀x∈l,zA (x.2.1,x.2.2.1))→zA z→zA (sx k l z)
 |[],z,_,h=>h
 |x::t,z,hl,h=>by
  rw[uB]
  refine Ia k (fun y hy=>hl y (List.mem_cons_of_mem _ hy)) ?_
  split
  ·exact hl x (List.mem_cons_self ..)
  ·exact h
theorem Fo{c:aa}{l:ah}(h:eI c l=true): ∀x∈l,zA (x.2.1,x.2.2.1):=fun x hx=>by
 unfold eI at h
 rw[Bool.and_eq_true]at h
 obtain⟨i,hi,e⟩:=List.getElem_of_mem hx
 have h1:=of_decide_eq_true h.1 i hi
 unfold sv at h1
 rw[List.getD_eq_getElem?_getD,List.getElem?_eq_getElem hi,Option.getD_some,e]at h1
 unfold zB at h1
 exact⟨h1.2.2.1,h1.2.2.2.1,h1.2.2.2.2.1,h1.2.2.2.2.2.1⟩
def vY(q:Int)(z:Int×Int):Int:=if((q+z.1).natAbs:Int)<((q-z.2).natAbs:Int)then((q-z.2).natAbs:Int)else((q+z.1).natAbs:Int)
theorem RE{q:Int}{z:Int×Int}(hq:aA q)(hz:zA z):0≤vY q z∧vY q z≤9223372069854775808:=by
 unfold vY zA aA at*
 split<;>omega
def vZ(l:av)(o:ah)(k:Int):Int:=vY (Bl k l 0) (sx k o (0,0))
def mP(c:aa)(l:av)(o:ah)(k:Int):Int×Int:=
 if ke c l&&eI c o then(if 0≤k∧k<(c.1.length:Int)then(vZ l o k,0)else(0,3))else(0,1)
theorem sy{c:aa}{l:av}{o:ah}(ho:eI c o=true)(js: ∀y∈l,aA y.2.1)(k:Int):0≤vZ l o k∧vZ l o k≤9223372069854775808:=
 RE (H9 k js (show aA 0 by unfold aA;omega)) (Ia k (Fo ho) (by unfold zA;decide))
def kt(c:aa)(i:Nat):Int:=(c.1.getD i aK).2.2.1
theorem zC{c:aa}(h:dY c=true){i:Nat}(hi:i<c.1.length):0≤kt c i∧kt c i≤1000000000:=by
 unfold dY at h
 simp only[Bool.and_eq_true]at h
 have:=of_decide_eq_true h.2.1 i hi
 unfold my oT at this
 exact this.2.2.1
def ku(c:aa)(l:av)(o:ah):Nat→Int
 |0=>0
 |n+1=>ku c l o n+vZ l o (n:Int)*kt c n
def qO(c:aa)(l:av)(o:ah):Nat→List Int
 |0=>[]
 |n+1=>qO c l o n++[vZ l o (n:Int)*kt c n]
theorem Bm(c:aa)(l:av)(o:ah): ∀n,(qO c l o n).sum=ku c l o n
 |0=>rfl
 |n+1=>by
  show(qO c l o n++[vZ l o (n:Int)*kt c n]).sum=ku c l o n+vZ l o (n:Int)*kt c n
  rw[List.sum_append,Bm c l o n,List.sum_cons,List.sum_nil,Int.add_zero]
theorem uC(c:aa)(l:av)(o:ah): ∀n,(qO c l o n).length=n
 |0=>rfl
 |n+1=>by
  show(qO c l o n++[vZ l o (n:Int)*kt c n]).length=n+1
  rw[List.length_append,uC c l o n];rfl
def fj(c:aa)(l:av)(o:ah):Int×Int:=
 if ke c l&&eI c o then(ku c l o c.1.length,0)else(0,1)
theorem zD{a b:Int}(ha:0≤a∧a≤9223372069854775808)(hb:0≤b∧b≤1000000000):0≤a*b∧a*b≤9223372069854775808000000000:=
 ⟨Int.mul_nonneg ha.1 hb.1,Int.le_trans (Int.mul_le_mul ha.2 hb.2 hb.1 (by decide)) (by decide)⟩
theorem s4{c:aa}{l:av}{o:ah}(hp:dY c=true)(ho:eI c o=true)(js: ∀y∈l,aA y.2.1): ∀n,n≤c.1.length→0≤ku c l o n∧ku c l o n≤9223372069854775808000000000*(n:Int)
 |0,_=>⟨Int.le_refl _,Int.le_refl _⟩
 |n+1,hn=>by
  have ih:=s4 hp ho js n (by omega)
  have h1:=zD (sy ho js (n:Int)) (zC hp (i:=n) (by omega))
  show 0≤ku c l o n+vZ l o (n:Int)*kt c n∧ku c l o n+vZ l o (n:Int)*kt c n≤_
  omega
theorem fP{c:aa}{l:ah}(h:eI c l=true):dY c=true:=by
 unfold eI at h
 rw[Bool.and_eq_true]at h;exact h.2
theorem Bn{c:aa}(h:dY c=true):c.1.length≤6:=by
 unfold dY at h
 simp only[Bool.and_eq_true]at h
 exact(of_decide_eq_true h.1).2
theorem yl(c:aa){l:av}(o:ah)(js: ∀y∈l,aA y.2.1):0≤(fj c l o).1∧(fj c l o).1≤60000000000000000000000000000:=by
 unfold fj
 by_cases h:(ke c l&&eI c o)=true
 ·rw[if_pos h]
  rw[Bool.and_eq_true]at h
  have:=s4 (fP h.2) h.2 js c.1.length (Nat.le_refl _)
  have h6:=Bn (fP h.2)
  dsimp only
  omega
 ·rw[if_neg h];decide
theorem DQ(c:aa){l:av}(o:ah)(js: ∀y∈l,aA y.2.1)(k:Int):0≤(mP c l o k).1∧(mP c l o k).1≤9223372069854775808:=by
 unfold mP
 by_cases h:(ke c l&&eI c o)=true
 ·rw[if_pos h]
  rw[Bool.and_eq_true]at h
  split
  ·exact sy h.2 js k
  ·decide
 ·rw[if_neg h];decide
theorem aag{P:Prop} [Decidable P]{a b s n p:Int}{r:Option Bool}(h:P↔0≤a∧a<n∧0≤b∧b≤33000000000∧0≤s∧s≤33000000000∧(b=0→s≠0)∧p<a):
  (if a<0 then some false else if n≤a then some false else if b<0 then some false else if 33000000000<b then some false else if s<0 then some false else if 33000000000<s then some false else
   if b=0 then(if s=0 then some false else if a≤p then some false else r)else if a≤p then some false else r)=if P then r else some false:=by
 by_cases hP:P
 ·have:=h.1 hP
  rw[if_pos hP,if_neg (by omega),if_neg (by omega),if_neg (by omega),if_neg (by omega),if_neg (by omega),if_neg (by omega)]
  split
  ·rw[if_neg (by omega),if_neg (by omega)]
  ·rw[if_neg (by omega)]
 ·rw[if_neg hP]
  have h2:=fun h1 h2 h3 h4 h5 h6 h7 h8=>hP (h.2 ⟨h1,h2,h3,h4,h5,h6,h7,h8⟩)
  repeat' split
  all_goals first|rfl|(exfalso;exact h2 (by omega) (by omega) (by omega) (by omega) (by omega) (by omega) (by omega) (by omega))
theorem aah{P:Prop} [Decidable P]{a b s n:Int}{r:Option Bool}(h:P↔0≤a∧a<n∧0≤b∧b≤33000000000∧0≤s∧s≤33000000000∧(b=0→s≠0)):
  (if a<0 then some false else if n≤a then some false else if b<0 then some false else if 33000000000<b then some false else if s<0 then some false else if 33000000000<s then some false else
   if b=0 then(if s=0 then some false else r)else r)=if P then r else some false:=by
 by_cases hP:P
 ·have:=h.1 hP
  rw[if_pos hP,if_neg (by omega),if_neg (by omega),if_neg (by omega),if_neg (by omega),if_neg (by omega),if_neg (by omega)]
  split
  ·rw[if_neg (by omega)]
  ·rfl
 ·rw[if_neg hP]
  have h2:=fun h1 h2 h3 h4 h5 h6 h7=>hP (h.2 ⟨h1,h2,h3,h4,h5,h6,h7⟩)
  repeat' split
  all_goals first|rfl|(exfalso;exact h2 (by omega) (by omega) (by omega) (by omega) (by omega) (by omega) (by omega))
theorem Bo{c:aa}{l:ah}{i:Nat}(h:0<i):sv c l i↔0≤(l.getD i aL).1∧(l.getD i aL).1<(c.1.length:Int)∧0≤(l.getD i aL).2.1∧(l.getD i aL).2.1≤33000000000∧0≤(l.getD i aL).2.2.1∧(l.getD i aL).2.2.1≤33000000000∧((l.getD i aL).2.1=0→(l.getD i aL).2.2.1≠0)∧(l.getD (i-1) aL).1<(l.getD i aL).1:=
 ⟨fun⟨a,b,c,d,e,f,g,k⟩=>⟨a,b,c,d,e,f,g,k h⟩,fun⟨a,b,c,d,e,f,g,k⟩=>⟨a,b,c,d,e,f,g,fun _=>k⟩⟩
theorem ym{c:aa}{l:ah}{i:Nat}(h: ¬0<i):sv c l i↔0≤(l.getD i aL).1∧(l.getD i aL).1<(c.1.length:Int)∧0≤(l.getD i aL).2.1∧(l.getD i aL).2.1≤33000000000∧0≤(l.getD i aL).2.2.1∧(l.getD i aL).2.2.1≤33000000000∧((l.getD i aL).2.1=0→(l.getD i aL).2.2.1≠0):=
 ⟨fun⟨a,b,c,d,e,f,g,_⟩=>⟨a,b,c,d,e,f,g⟩,fun⟨a,b,c,d,e,f,g⟩=>⟨a,b,c,d,e,f,g,fun k=>absurd k h⟩⟩
theorem DR(N:Nat)(hN:200000≤N)(c:aa){l:ah}(hl:l.length≤100000):mc N c l=some (eI c l):=by
 unfold mc mc.b
 refine eU (F:=fun n i=>mc.l2 N n l c l (l.length:Int) i) (sv c l) (fun n i r hi hp hr=> ?_) (fun n=> ?_) N (by omega)
 ·unfold mc.l2 mc.dx
  rw[aD (by omega),cond_true,aF (by omega) (by omega),cond_true,Int.toNat_natCast,al (x:=(i:Int)+1) (by omega) (by omega),ae,hr]
  by_cases h0:0<i
  ·have e:W .i64 ((i:Int)-1)=((i-1:Nat):Int):=by rw[al (by omega) (by omega)];omega
   dsimp only
   rw[aD (x:=0) (y:=(i:Int)) (by omega),e,Int.toNat_natCast,aF (i:=((i-1:Nat):Int)) (by omega) (by omega)]
   simp only[aJ,bk,au,cond_true]
   have hg:=Bo h0 (c:=c) (l:=l)
   exact aag hg
  ·rw[ax (x:=0) (y:=(i:Int)) (by omega)]
   simp only[aJ,bk,au,cond_true,cond_false]
   have hg:=ym h0 (c:=c) (l:=l)
   exact aah hg
 ·unfold mc.l2 mc.dx
  rw[ax (by omega),cond_false,zr N (by omega),Option.bind_some]
theorem Bp(N:Nat)(hN:200000≤N)(c:aa){l:ah}(hl:l.length≤100000):iK N c l=some (eI c l):=by
 unfold iK iK.b
 rw[nN N (by omega),Option.bind_some]
 have hsc:=eU (F:=fun n i=>iK.l5 N n l c 33000000000 i) (e:=true) (sv c l) (fun n i r hi hp hr=> ?_) (fun n=> ?_) N (show l.length<N by omega)
 ·rw[kb hsc];unfold eI
  rw[Bool.and_true,Bool.and_comm]
 ·unfold iK.l5 iK.c5
  rw[aD (by omega),cond_true,aF (by omega) (by omega),cond_true,Int.toNat_natCast,al (x:=(i:Int)+1) (by omega) (by omega),ae,hr]
  by_cases h0:0<i
  ·have e:W .i64 ((i:Int)-1)=((i-1:Nat):Int):=by rw[al (by omega) (by omega)];omega
   dsimp only
   rw[aD (x:=0) (y:=(i:Int)) (by omega),e,Int.toNat_natCast,aF (i:=((i-1:Nat):Int)) (by omega) (by omega)]
   simp only[aJ,bk,au,cond_true]
   have hg:=Bo h0 (c:=c) (l:=l)
   exact aag hg
  ·rw[ax (x:=0) (y:=(i:Int)) (by omega)]
   simp only[aJ,bk,au,cond_true,cond_false]
   have hg:=ym h0 (c:=c) (l:=l)
   exact aah hg
 ·unfold iK.l5 iK.c5
  rw[ax (by omega),cond_false]
end VM
end
section
namespace VM
open Go VM.F
theorem UW(N:Nat){u v:Int}(hu:bA u)(hv:bA v)(hs:bA (u-v)):Lh N (bg u) (bg v)=some (bg (u-v),true):=by
 unfold Lh bg
 unfold bA at*
 dsimp only
 have hp:0≤u%18446744073709551616∧u%18446744073709551616<18446744073709551616:=by omega
 have hq:0≤v%18446744073709551616∧v%18446744073709551616<18446744073709551616:=by omega
 rw[jn,jn,iE N (by omega) (by omega) (by omega) (by omega) (by omega) (by omega),Option.bind_some]
 dsimp only
 have hb:(0:Int)≤(if u%18446744073709551616<v%18446744073709551616+0 then 1 else 0)∧(if u%18446744073709551616<v%18446744073709551616+0 then(1:Int)else 0)≤1:=by split<;>omega
 rw[iE N (by omega) (by omega) (by omega) (by omega) hb.1 hb.2,Option.bind_some]
 dsimp only
 have e3:W .i64 ((u/18446744073709551616%18446744073709551616-v/18446744073709551616%18446744073709551616-(if u%18446744073709551616<v%18446744073709551616+0 then 1 else 0))%18446744073709551616)=(u-v)/18446744073709551616:=by
  by_cases h0:u%18446744073709551616<v%18446744073709551616+0
  ·rw[if_pos h0,dV];split<;>omega
  ·rw[if_neg h0,dV];split<;>omega
 have e1:(u%18446744073709551616-v%18446744073709551616-0)%18446744073709551616=(u-v)%18446744073709551616:=by omega
 rw[e3,e1]
 have key: ∀A B C:Int,A=u/18446744073709551616→B=v/18446744073709551616→C=(u-v)/18446744073709551616→(A<0∧ ¬B<0→C<0)∧(¬A<0∧B<0→ ¬C<0):=fun A B C _ _ _=>by omega
 have k:=key _ _ _ rfl rfl rfl
 simp only[lM,o9]
 by_cases a:u/18446744073709551616<0<;>by_cases b:v/18446744073709551616<0
 ·rw[decide_eq_true a,decide_eq_true b];rfl
 ·have c:=k.1 ⟨a,b⟩
  rw[decide_eq_true a,decide_eq_false b,decide_eq_true c];rfl
 ·have c:=k.2 ⟨a,b⟩
  rw[decide_eq_false a,decide_eq_true b,decide_eq_false c];rfl
 ·rw[decide_eq_false a,decide_eq_false b];rfl
theorem OO(N:Nat){v k:Int}(hv:0≤v∧v≤9223372069854775808)(hk:0≤k∧k≤1000000000):UX N (bg v) k=some (bg (v*k),true):=by
 unfold UX
 have hm:=zD hv hk
 have h0:v/18446744073709551616=0:=by omega
 have h1:v%18446744073709551616=v:=by omega
 rw[Hm N (by omega) (by omega),Option.bind_some,EJ N (by omega) (by omega),Option.bind_some,show(v.natAbs:Int)=v by omega,show(k.natAbs:Int)=k by omega,h0,h1]
 dsimp only
 rw[Av N (by omega) (by omega) (by omega) (by omega),Option.bind_some,Av N (by omega) (by omega) (by omega) (by omega),Option.bind_some,Int.zero_mul]
 dsimp only
 have e:bg v=((0:Int),(v,())):=by unfold bg;rw[h0,h1]
 generalize v*k=m at*
 rw[pI N (by omega) (by omega) (by omega) (by omega),Option.bind_some,e]
 dsimp only
 have e1:(0%18446744073709551616+m/18446744073709551616+0)%18446744073709551616=m/18446744073709551616:=by omega
 have e2:(0/18446744073709551616:Int)+(0%18446744073709551616+m/18446744073709551616+0)/18446744073709551616=0:=by omega
 rw[e1,e2,bD (x:=0) (by omega) (by omega),bZ,Bool.not_true,cond_false,ax (x:=0) (by omega),ax (x:=k) (by omega),lM]
 show(mv N false _ _).bind _=_
 rw[ug N (by omega) (by omega) (by omega) (by omega),Option.bind_some,show m/18446744073709551616*18446744073709551616+m%18446744073709551616=m by omega]
theorem UY(N:Nat){q:Int}{z:Int×Int}(hq:aA q)(hz:zA z):((Cp N q).bind fun r9=>(Cp N z.1).bind fun gu=>(HK N r9 gu).bind fun jQ=>(Cp N q).bind fun jg=>(Cp N z.2).bind fun jy=>(Lh N jg jy).bind fun mH=>(HZ N jQ.1).bind fun nW=>(HZ N mH.1).bind fun qP=>(Cs N nW.1 qP.1).bind fun rq=>cond (aG rq 0) (some (qP.1,(0:Int))) (some (nW.1,(0:Int))))=some (bg (vY q z),0):=by
 unfold aA zA at*
 have a1:bA q∧bA z.1∧bA z.2∧bA (q+z.1)∧bA (q-z.2):=by unfold bA;omega
 rw[mw N hq.1 hq.2,Option.bind_some,mw N (by omega) (by omega),Option.bind_some,E6 N a1.1 a1.2.1 a1.2.2.2.1,Option.bind_some,Option.bind_some,mw N (by omega) (by omega),Option.bind_some,UW N a1.1 a1.2.2.1 a1.2.2.2.2,Option.bind_some,Fg N a1.2.2.2.1 (by omega),Option.bind_some,Fg N a1.2.2.2.2 (by omega),Option.bind_some,vF,Option.bind_some,aJ]
 unfold vY
 have hs:lL (((q+z.1).natAbs:Int)-((q-z.2).natAbs:Int))<0↔((q+z.1).natAbs:Int)<((q-z.2).natAbs:Int):=by
  unfold lL;split<;>(try split)<;>omega
 by_cases h:((q+z.1).natAbs:Int)<((q-z.2).natAbs:Int)
 ·rw[if_pos h,if_pos (hs.2 h)]
 ·rw[if_neg h,if_neg (fun k=>h (hs.1 k))]
theorem OP(N:Nat)(hN:200000≤N){o:ah}(tY:o.length≤100000)(ho: ∀x∈o,zA (x.2.1,x.2.2.1))(k:Int){q:Int}(hq:aA q):eO.mB N N k bI q 0 0 o (o.length:Int) 0=some (bg (vY q (sx k o (0,0))),0):=by
 have:=kD o aL (fun n i (z:Int×Int)=>eO.mB N n k bI q z.1 z.2 o (o.length:Int) i) (fun t z=>some (bg (vY q (sx k t z)),(0:Int))) (fun i z=>zA z) (fun n i z hi hz hr=> ?_) (fun n z hz=> ?_) o.length N 0 (0,0) (by omega) (by omega) (by omega) (by unfold zA;decide)
 ·exact this
 ·unfold eO.mB eO.kH
  rw[aD (by omega),cond_true,aF (by omega) (by omega),cond_true,Int.toNat_natCast,al (x:=(i:Int)+1) (by omega) (by omega),ae i,au,uB]
  by_cases h:(o.getD i aL).1=k
  ·rw[if_pos h,if_pos h]
   exact hr ((o.getD i aL).2.1,(o.getD i aL).2.2.1) (ho _ (by rw[List.getD_eq_getElem?_getD,List.getElem?_eq_getElem hi];exact List.getElem_mem hi))
  ·rw[if_neg h,if_neg h]
   exact hr z hz
 ·unfold eO.mB eO.kH
  rw[ax (by omega),cond_false]
  exact UY N hq hz
theorem RF(N:Nat)(hN:200000≤N)(c:aa){l:av}(hl:l.length≤100000)(js: ∀y∈l,aA y.2.1){o:ah}(tY:o.length≤100000)(k:Int):eO N c l o k=some (bg (mP c l o k).1,(mP c l o k).2):=by
 unfold eO eO.b mP
 rw[ML N hN c hl,Option.bind_some,cond_not,DR N hN c tY,Option.bind_some,cond_not,aJ,bk]
 cases h1:ke c l with
 |false=>rfl
 |true=>
  cases h2:eI c o with
  |false=>rfl
  |true=>
   rw[cond_true,cond_true,Bool.and_true,if_pos rfl]
   by_cases h3:0≤k∧k<(c.1.length:Int)
   ·rw[if_pos h3,if_neg (by omega),if_neg (by omega)]
    have:=kD l bI (fun n i (q:Int)=>eO.l7 N n o k bI q 0 0 l (l.length:Int) i) (fun t q=>some (bg (vY (Bl k t q) (sx k o (0,0))),(0:Int))) (fun i q=>aA q) (fun n i q hi hq hr=> ?_) (fun n q hq=> ?_) l.length N 0 0 (by omega) (by omega) (by omega) (by unfold aA;omega)
    ·exact this
    ·unfold eO.l7 eO.mq
     rw[aD (by omega),cond_true,aF (by omega) (by omega),cond_true,Int.toNat_natCast,al (x:=(i:Int)+1) (by omega) (by omega),ae i,au,uA]
     by_cases h:(l.getD i bI).1=k
     ·rw[if_pos h,if_pos h]
      exact hr _ (js _ (by rw[List.getD_eq_getElem?_getD,List.getElem?_eq_getElem hi];exact List.getElem_mem hi))
     ·rw[if_neg h,if_neg h]
      exact hr q hq
    ·unfold eO.l7 eO.mq
     rw[ax (by omega),cond_false]
     exact OP N hN tY (Fo h2) k hq
   ·rw[if_neg h3]
    by_cases h4:k<0
    ·rw[if_pos h4];rfl
    ·rw[if_neg h4,if_pos (by omega)];rfl
theorem RG(N:Nat)(hN:4000000≤N){q:Int}{z:Int×Int}(hq:aA q)(hz:zA z):((tF N (bn q) (bn z.1)).bind fun jg=>(N9 N jg).bind fun jy=>(J1 N (bn q) (bn z.2)).bind fun mH=>(N9 N mH).bind fun nW=>(C3 N nW jy).bind fun qP=>cond (aG 0 qP) (some (nW,(0:Int))) (some (jy,(0:Int))))=some (bn (vY q z),0):=by
 unfold aA zA at*
 have f: ∀x:Int,-170141183460469231731687303715884105728≤x→x<170141183460469231731687303715884105728→Fit x 900000:=fun x h1 h2=>g7 ⟨h1,h2⟩
 rw[eG N hN (f _ (by omega) (by omega)) (f _ (by omega) (by omega)),Option.bind_some,vp N hN (f _ (by omega) (by omega)),Option.bind_some,oS N hN (f _ (by omega) (by omega)) (f _ (by omega) (by omega)),Option.bind_some,vp N hN (f _ (by omega) (by omega)),Option.bind_some,rZ N hN (f _ (by omega) (by omega)) (f _ (by omega) (by omega)),Option.bind_some,aJ]
 unfold vY
 have hs:0<lL (((q-z.2).natAbs:Int)-((q+z.1).natAbs:Int))↔((q+z.1).natAbs:Int)<((q-z.2).natAbs:Int):=by
  unfold lL;split<;>(try split)<;>omega
 by_cases h:((q+z.1).natAbs:Int)<((q-z.2).natAbs:Int)
 ·rw[if_pos h,if_pos (hs.2 h)]
 ·rw[if_neg h,if_neg (fun k=>h (hs.1 k))]
theorem Lk(N:Nat)(hN:4000000≤N){o:ah}(tY:o.length≤100000)(ho: ∀x∈o,zA (x.2.1,x.2.2.1))(k:Int){q:Int}(hq:aA q):dI.kd N N o k (bn 0) (bn q) (bn 0) (bn 0) 0=some (bn (vY q (sx k o (0,0))),0):=by
 have:=kD o aL (fun n i (z:Int×Int)=>dI.kd N n o k (bn 0) (bn q) (bn z.1) (bn z.2) i) (fun t z=>some (bn (vY q (sx k t z)),(0:Int))) (fun i z=>zA z) (fun n i z hi hz hr=> ?_) (fun n z hz=> ?_) o.length N 0 (0,0) (by omega) (by omega) (by omega) (by unfold zA;decide)
 ·exact this
 ·unfold dI.kd dI.jb
  rw[aD (by omega),cond_true,aF (by omega) (by omega),cond_true,cond_true,Int.toNat_natCast,al (x:=(i:Int)+1) (by omega) (by omega),ae i,au,uB]
  by_cases h:(o.getD i aL).1=k
  ·have hx:=ho (o.getD i aL) (by rw[List.getD_eq_getElem?_getD,List.getElem?_eq_getElem hi];exact List.getElem_mem hi)
   have dw:=hr ((o.getD i aL).2.1,(o.getD i aL).2.2.1) hx
   unfold zA at hx
   rw[if_pos h,if_pos h,cj N (by omega) (Int.le_trans (by decide) hx.1) (Int.lt_of_le_of_lt hx.2.1 (by decide)),Option.bind_some,cond_true,cj N (by omega) (Int.le_trans (by decide) hx.2.2.1) (Int.lt_of_le_of_lt hx.2.2.2 (by decide)),Option.bind_some]
   exact dw
  ·rw[if_neg h,if_neg h]
   exact hr z hz
 ·unfold dI.kd dI.jb
  rw[ax (by omega),cond_false]
  exact RG N hN hq hz
theorem Nb(N:Nat)(hN:4000000≤N)(c:aa){l:av}(hl:l.length≤100000)(js: ∀y∈l,aA y.2.1){o:ah}(tY:o.length≤100000)(k:Int):dI N c l o k=some (bn (mP c l o k).1,(mP c l o k).2):=by
 unfold dI dI.b mP
 rw[pP N (by omega) c hl,Option.bind_some,cond_not,Bp N (by omega) c tY,Option.bind_some,cond_not,aJ,bk,←ej]
 cases h1:ke c l with
 |false=>rfl
 |true=>
  cases h2:eI c o with
  |false=>rfl
  |true=>
   rw[cond_true,cond_true,Bool.and_true,if_pos rfl]
   by_cases h3:0≤k∧k<(c.1.length:Int)
   ·rw[if_pos h3,if_neg (by omega),if_neg (by omega)]
    have:=kD l bI (fun n i (q:Int)=>dI.l7 N n l o k (bn 0) (bn q) (bn 0) (bn 0) i) (fun t q=>some (bn (vY (Bl k t q) (sx k o (0,0))),(0:Int))) (fun i q=>aA q) (fun n i q hi hq hr=> ?_) (fun n q hq=> ?_) l.length N 0 0 (by omega) (by omega) (by omega) (by unfold aA;omega)
    ·exact this
    ·unfold dI.l7 dI.mq
     rw[aD (by omega),cond_true,aF (by omega) (by omega),cond_true,cond_true,Int.toNat_natCast,al (x:=(i:Int)+1) (by omega) (by omega),ae i,au,uA]
     by_cases h:(l.getD i bI).1=k
     ·have hy:=js (l.getD i bI) (by rw[List.getD_eq_getElem?_getD,List.getElem?_eq_getElem hi];exact List.getElem_mem hi)
      rw[if_pos h,if_pos h,cj N (by omega) hy.1 hy.2,Option.bind_some]
      exact hr _ hy
     ·rw[if_neg h,if_neg h]
      exact hr q hq
    ·unfold dI.l7 dI.mq
     rw[ax (by omega),cond_false]
     exact Lk N hN tY (Fo h2) k hq
   ·rw[if_neg h3]
    by_cases h4:k<0
    ·rw[if_pos h4]
    ·rw[if_neg h4,if_pos (by omega)]
theorem DS{c:aa}{l:av}{o:ah}(h1:ke c l=true)(h2:eI c o=true){k:Int}(hk:0≤k∧k<(c.1.length:Int)):(mP c l o k).1=vZ l o k:=by
 unfold mP
 rw[h1,h2,Bool.and_true,if_pos rfl,if_pos hk]
theorem RH(N:Nat)(hN:2000000≤N)(c:aa){l:av}(hl:l.length≤100000)(js: ∀y∈l,aA y.2.1){o:ah}(tY:o.length≤100000):m7 N c l o=some (bg (fj c l o).1,(fj c l o).2):=by
 unfold m7 m7.b fj
 rw[ML N (by omega) c hl,Option.bind_some,cond_not,DR N (by omega) c tY,Option.bind_some,cond_not]
 cases h1:ke c l with
 |false=>rfl
 |true=>
  cases h2:eI c o with
  |false=>rfl
  |true=>
   rw[cond_true,cond_true,Bool.and_true,if_pos rfl]
   have h6:=Bn (fP h2)
   have ahZ: ∀i,i<c.1.length→0≤vZ l o (i:Int)*kt c i∧vZ l o (i:Int)*kt c i≤9223372069854775808000000000:=fun i hi=>zD (sy h2 js (i:Int)) (zC (fP h2) hi)
   have hL: ∀n,n≤c.1.length→ ∀x∈qO c l o n,bA x:=by
    intro n
    induction n with
    |zero=>intro _ x hx;nomatch hx
    |succ n ih=>
     intro hn
     have:=ahZ n (by omega)
     exact qC (ih (by omega)) (by unfold bA;omega)
   have hw:=s4 (fP h2) h2 js c.1.length (Nat.le_refl _)
   have key: ∀(m n i:Nat),c.1.length-i≤m→m<n→i≤c.1.length→m7.l5 N n l o c bI ((qO c l o i).map bg) c.1 (c.1.length:Int) (i:Int)=some (bg (ku c l o c.1.length),0):=by
    intro m n
    induction n generalizing m with
    |zero=>intro i _ hn;omega
    |succ n ih=>
     intro i hm hn hi
     unfold m7.l5 m7.c5
     by_cases h:i<c.1.length
     ·have hr:=zC (fP h2) h
      have dw:=hr
      unfold kt at dw
      have ht:=sy h2 js (i:Int)
      rw[aD (by omega),cond_true,aF (by omega) (by omega),cond_true,RF N (by omega) c hl js tY,Option.bind_some,DS h1 h2 ⟨by omega,by omega⟩,Int.toNat_natCast,OO N ht dw,Option.bind_some,aZ (by rw[List.length_map,uC,List.length_singleton];omega),cond_true,al (x:=(i:Int)+1) (by omega) (by omega),ae i]
      have:=ih (m-1) (i+1) (by omega) (by omega) (by omega)
      rw[show qO c l o (i+1)=qO c l o i++[vZ l o (i:Int)*kt c i]from rfl,List.map_append]at this
      exact this
     ·have e:i=c.1.length:=by omega
      subst e
      rw[ax (by omega),cond_false,zq N (hL _ hi) (by rw[uC];omega) (by omega),Option.bind_some,Bm]
      unfold Ho
      rw[if_pos (by unfold bA;omega)]
   exact key c.1.length N 0 (by omega) (by omega) (by omega)
theorem OQ(N:Nat)(hN:4000000≤N)(c:aa){l:av}(hl:l.length≤100000)(js: ∀y∈l,aA y.2.1){o:ah}(tY:o.length≤100000):jh N c l o=some (bn (fj c l o).1,(fj c l o).2):=by
 unfold jh jh.b fj
 rw[pP N (by omega) c hl,Option.bind_some,cond_not,Bp N (by omega) c tY,Option.bind_some,cond_not,←ej]
 cases h1:ke c l with
 |false=>rfl
 |true=>
  cases h2:eI c o with
  |false=>rfl
  |true=>
   rw[cond_true,cond_true,Bool.and_true,if_pos rfl]
   have h6:=Bn (fP h2)
   have f: ∀x:Int,-170141183460469231731687303715884105728≤x→x<170141183460469231731687303715884105728→Fit x 900000:=fun x h1 h2=>g7 ⟨h1,h2⟩
   have f2: ∀x:Int,0≤x→x≤9223372069854775808→Fit x 80000:=fun x h1 h2=>by
    refine Fit.mono (j:=3) ?_ (by omega)
    unfold Fit
    rw[show(4294967296:Nat)^3=79228162514264337593543950336 from rfl]
    omega
   have key: ∀(m n i:Nat),c.1.length-i≤m→m<n→i≤c.1.length→jh.l5 N n l o c (bn 0) (bn (ku c l o i)) (i:Int)=some (bn (ku c l o c.1.length),0):=by
    intro m n
    induction n generalizing m with
    |zero=>intro i _ hn;omega
    |succ n ih=>
     intro i hm hn hi
     unfold jh.l5 jh.c5
     by_cases h:i<c.1.length
     ·have hr:=zC (fP h2) h
      have ht:=sy h2 js (i:Int)
      have gQ:=zD ht hr
      have hw:=s4 (fP h2) h2 js i (by omega)
      have S8:=f2 _ hr.1 (Int.le_trans hr.2 (by decide))
      have hWh:fN N ((c.1.getD i aK).2.2.1)=some (bn (kt c i)):=cj N (by omega) (Int.le_trans (by decide) hr.1) (Int.lt_of_le_of_lt hr.2 (by decide))
      rw[aD (by omega),cond_true,Nb N (by omega) c hl js tY,Option.bind_some,DS h1 h2 ⟨by omega,by omega⟩,aF (by omega) (by omega),cond_true,Int.toNat_natCast,hWh,Option.bind_some,lN N (by omega) ((f2 _ ht.1 ht.2).mono (by omega)) (S8.mono (by omega)),Option.bind_some,eG N (by omega) (f _ (by omega) (by omega)) (f _ (by omega) (by omega)),Option.bind_some,al (x:=(i:Int)+1) (by omega) (by omega),ae i]
      exact ih (m-1) (i+1) (by omega) (by omega) (by omega)
     ·have e:i=c.1.length:=by omega
      subst e
      rw[ax (by omega),cond_false]
   exact key c.1.length N 0 (by omega) (by omega) (by omega)
end VM
end
