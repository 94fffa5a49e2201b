/- A part of the proof of BookAtOnce of layer 18: what the functions compute, in plain words. -/
import Derived.Test.YthkjjlcblhbifaaGreatPlain0
import Derived.Test.YthkjjlcblhbifaaGreatText
set_option linter.all false
open List renaming getD→γ
section
namespace VM
open Go VM.F
variable(N:Nat)
def cR(x:Int):Prop:= -170141183460469231731687303715884105728≤x∧x<170141183460469231731687303715884105728
instance(x:Int):Decidable (cR x):=by unfold cR;infer_instance
theorem vA{x:Int}(h0: -9223372036854775808≤x)(h1:x<9223372036854775808):OS N x=some (cL x):=by
 unfold OS
 rw[aP ω,av,vt h0 h1,pQ]
 congr 1
 exact wmk (by split<;>omega) rfl
theorem acu{ws:List Int}(i:Nat):(ws.map cL).getD i c8=cL (ws.getD i 0):=by
 by_cases h:i<ws.length
 ·rw[aV,nP,bm h,aV,bm h];rfl
 ·rw[aV,ig (by rw[cK];omega),aV,ig ω];rfl
theorem R8{ws:List Int}(h: ∀x∈ws,cR x): -(170141183460469231731687303715884105728*(ws.length:Int))≤ws.sum∧ws.sum≤170141183460469231731687303715884105728*(ws.length:Int):=by
 induction ws with
 |nil=>simp
 |cons x ws ih=>
  have h0:=h x (bs ..)
  have ih:=ih (λy hy=>h y (aZ _ hy))
  unfold cR at h0
  rw[cE,aT];omega
theorem YS{t w:Int}{lo hi top:Int}(hw:cR w)(wM:lo=t%18446744073709551616)(J8:hi=t/18446744073709551616%18446744073709551616)(avQ:top=t/340282366920938463463374607431768211456):
  (lo+w%18446744073709551616+0)%18446744073709551616=(t+w)%18446744073709551616∧
  (hi+(w/18446744073709551616)%18446744073709551616+(lo+w%18446744073709551616+0)/18446744073709551616)%18446744073709551616=(t+w)/18446744073709551616%18446744073709551616∧
  top+(if w/18446744073709551616<0 then-1 else 0)+(hi+(w/18446744073709551616)%18446744073709551616+(lo+w%18446744073709551616+0)/18446744073709551616)/18446744073709551616=(t+w)/340282366920938463463374607431768211456:=by
 unfold cR at hw
 subst wM J8 avQ
 refine⟨ω,ω,?_⟩
 split<;>omega
def OT(t:Int):bS×Bool:=if cR t then(cL t,true)else(c8,false)
theorem W64(x:Int):W .u64 x=x%18446744073709551616:=pQ x
theorem Km(N:Nat){ws:List Int}(h: ∀x∈ws,cR x)(hl:ws.length≤1000000): ∀(m n i:Nat) (t:Int),ws.length-i≤m→m<n→i≤ws.length→t=(ws.take i).sum→
  Ae.l3 N n c8 (t/340282366920938463463374607431768211456) (t/18446744073709551616%18446744073709551616) (t%18446744073709551616) (ws.map cL) (ws.length:Int) (i:Int)=some (OT ws.sum)
 |m,0,i,t,_,hn,_,_=>ω
 |m,n+1,i,t,hm,hn,hi,ht=>by
  unfold Ae.l3 Ae.nr
  have f1:=R8 (ws:=ws.take i) (λx hx=>h x (lK hx))
  rw[bV,ij ω,←ht]at f1
  by_cases h1:i<ws.length
  ·have hw:cR (ws.getD i 0):=by
    rw[aV,bm h1];exact h _ (dJ h1)
   have hs:=mH ws h1
   rw[←ht]at hs
   have st:=YS (t:=t) (w:=ws.getD i 0) hw rfl rfl rfl
   have Bt:=Km N h hl (m-1) n (i+1) (t+ws.getD i 0) ω ω ω hs.symm
   rw[aR ω,ak,aW ω (by rw[cK];omega),ak,aI,acu]
   unfold cL
   dsimp only
   have hw':=hw
   unfold cR at hw'
   generalize ws.getD i 0=w at*
   have hq:0≤(t%18446744073709551616+w%18446744073709551616+0)/18446744073709551616∧(t%18446744073709551616+w%18446744073709551616+0)/18446744073709551616≤1:=ω
   rw[xy N ω ω ω ω,ar,W64,xy N ω ω hq.1 hq.2,ar,aP (x:=63) ω,av,st.1,st.2.1]
   rw[vt ω ω]
   have hc:0≤(t/18446744073709551616%18446744073709551616+w/18446744073709551616%18446744073709551616+(t%18446744073709551616+w%18446744073709551616+0)/18446744073709551616)/18446744073709551616∧(t/18446744073709551616%18446744073709551616+w/18446744073709551616%18446744073709551616+(t%18446744073709551616+w%18446744073709551616+0)/18446744073709551616)/18446744073709551616≤1:=ω
   have hif: -1≤(if w/18446744073709551616<0 then(-1:Int)else 0)∧(if w/18446744073709551616<0 then(-1:Int)else 0)≤0:=by split<;>omega
   rw[aw (x:=t/340282366920938463463374607431768211456+_) ω ω,aw (x:=(_:Int)/18446744073709551616) ω ω,st.2.2,aw ω ω,aw (x:=(i:Int)+1) ω ω]
   exact Bt
  ·have e:(ws.take i).sum=ws.sum:=by rw[iz ω]
   rw[e]at ht
   rw[aP ω,av,aP (x:=63) ω,av,←ht]
   have hh: -9223372036854775808≤W .i64 (t/18446744073709551616%18446744073709551616)∧W .i64 (t/18446744073709551616%18446744073709551616)<9223372036854775808:=by rw[gF];split<;>omega
   have hwv:W .i64 (t/18446744073709551616%18446744073709551616)=if 9223372036854775808≤t/18446744073709551616%18446744073709551616 then t/18446744073709551616%18446744073709551616-18446744073709551616 else t/18446744073709551616%18446744073709551616:=by rw[gF];split<;>split<;>omega
   rw[vt hh.1 hh.2,hwv]
   unfold OT
   by_cases hI:cR t
   ·rw[aj hI]
    unfold cR at hI
    rw[dV (by split<;>split<;>omega),bl,av]
    exact T9 (by split<;>omega) rfl
   ·rw[ah hI]
    unfold cR at hI
    rw[eU (by split<;>split<;>omega),dp,ak]
theorem Fy{ws:List Int}(h: ∀x∈ws,cR x)(hl:ws.length≤1000000)(hN:1000000<N):Ae N (ws.map cL)=some (OT ws.sum):=by
 unfold Ae Ae.b
 rw[cK]
 exact Km N h hl ws.length N 0 0 ω ω ω (by simp)
theorem vB(a lo hi:Int):Xq N a lo hi=some (decide (lo≤a∧a≤hi)):=by
 unfold Xq
 rw[cB,mZ]
 by_cases h:lo≤a
 ·rw[aj h];congr 1;rw[nQ];omega
 ·rw[ah h,bx ω]
theorem Ko(a lo hi:Int):F93 N a lo hi=some (decide (lo≤a∧a≤hi)):=vB N a lo hi
def n6(a b c d:Int):Prop:=(0≤a∧a≤3)∧(1≤b∧b≤1000000000000)∧(0≤c∧c≤1000000000)∧(0≤d∧d≤1000000000)
instance(a b c d:Int):Decidable (n6 a b c d):=by unfold n6;infer_instance
def qo(l:aO)(i:Nat):Prop:=n6 (l.getD i ba).1 (l.getD i ba).2.1 (l.getD i ba).2.2.1 (l.getD i ba).2.2.2.1
instance(l:aO):DecidablePred (qo l):=λi=>by unfold qo;infer_instance
def n7(a b c d e f:Int):Prop:=0≤a∧(0≤b∧b≤4)∧(0≤c∧c≤1000000)∧(0≤d∧d≤1000000)∧(1≤e∧e≤4611686018427387904)∧0≤f
instance(a b c d e f:Int):Decidable (n7 a b c d e f):=by unfold n7;infer_instance
def qp(c:ae):Prop:=n7 c.2.1 c.2.2.1 c.2.2.2.1 c.2.2.2.2.1 c.2.2.2.2.2.1 c.2.2.2.2.2.2.1
instance(c:ae):Decidable (qp c):=by unfold qp;infer_instance
def eR(c:ae):Bool:=decide (1≤c.1.length∧c.1.length≤6)&&(decide (∀j,j<c.1.length→qo c.1 j)&&decide (qp c))
theorem FA(hN:100≤N)(c:ae):Ch N c=some (eR c):=by
 unfold Ch Ch.b eR
 rw[vB,ar,cond_not,fY]
 by_cases hl:1≤c.1.length∧c.1.length≤6
 ·rw[aj ω,aU hl,kS]
  refine iH (F:=λn i=>Ch.l4 N n c c.1 (c.1.length:Int) i) (qo c.1) (λn i r hi hp hr=> ?_) (λn=> ?_) N ω
  ·unfold Ch.l4 Ch.dQ
   rw[aR ω,ak,aW ω ω,ak,aI,aw ω ω,af]
   simp only[vB,ar,cond_not,fY]
   by_cases hP:qo c.1 i
   ·rw[aj hP];unfold qo n6 at hP
    repeat' split
    all_goals first|rfl|exact hr|omega
   ·rw[ah hP];unfold qo n6 at hP
    repeat' split
    all_goals first|rfl|exact hr|omega
  ·unfold Ch.l4 Ch.dQ
   rw[aP ω,av]
   simp only[vB,ar,cond_not,fY,cB,mZ]
   by_cases hP:qp c
   ·rw[aU hP];unfold qp n7 at hP
    repeat' split
    all_goals first|rfl|omega|(rw[aU ω])
   ·rw[bx hP];unfold qp n7 at hP
    repeat' split
    all_goals first|rfl|omega|(rw[bx ω])
 ·rw[ah ω,bx hl,um]
theorem oa(hN:100≤N)(c:ae):zP N c=some (eR c):=by
 unfold zP zP.b eR
 rw[cA,cA]
 by_cases hl:1≤c.1.length∧c.1.length≤6
 ·rw[ah ω,ah ω,aU hl,kS]
  refine iH (F:=λn i=>zP.l4 N n c i) (qo c.1) (λn i r hi hp hr=> ?_) (λn=> ?_) N ω
  ·unfold zP.l4 zP.dQ
   rw[aR ω,ak,aW ω ω,ak,aI,aw ω ω,af]
   simp only[Ko,ar,cond_not,fY]
   by_cases hP:qo c.1 i
   ·rw[aj hP];unfold qo n6 at hP
    repeat' split
    all_goals first|rfl|exact hr|omega
   ·rw[ah hP];unfold qo n6 at hP
    repeat' split
    all_goals first|rfl|exact hr|omega
  ·unfold zP.l4 zP.dQ
   rw[aP ω,av]
   simp only[Ko,ar,cond_not,fY,cB,mZ]
   by_cases hP:qp c
   ·rw[aU hP];unfold qp n7 at hP
    repeat' split
    all_goals first|rfl|omega|(rw[aU ω])
   ·rw[bx hP];unfold qp n7 at hP
    repeat' split
    all_goals first|rfl|omega|(rw[bx ω])
 ·rw[bx hl,um]
  by_cases h:(c.1.length:Int)<1
  ·rw[aj h]
  ·rw[ah h,aj ω]
def jy(a b:Int)(i:Nat)(c:Int):Prop:=1≤a∧a≤12∧1≤b∧b≤4∧(0<i→c<a)
instance(a b:Int)(i:Nat)(c:Int):Decidable (jy a b i c):=by unfold jy;infer_instance
def gv(m:aE)(i:Nat):Prop:=jy (m.getD i c8).1 (m.getD i c8).2.1 i (m.getD (i-1) c8).1
instance(m:aE):DecidablePred (gv m):=λi=>by unfold gv;infer_instance
def dI(m:aE):Bool:=decide (∀j,j<m.length→gv m j)&&true
theorem Hi{m:aE}(hl:m.length≤100000)(hN:200000≤N):D2 N m=some (dI m):=by
 unfold D2 D2.b
 refine iH (F:=λn i=>D2.l2 N n m m (m.length:Int) i) (gv m) (λn i r hi hp hr=> ?_) (λn=> ?_) N ω
 ·unfold D2.l2 D2.fM
  rw[aR ω,ak,aW ω ω,ak,aI,aw (x:=(i:Int)+1) ω ω,af]
  by_cases h0:0<i
  ·have e:W .i64 ((i:Int)-1)=((i-1:Nat):Int):=by rw[aw ω ω];omega
   dsimp only
   rw[aR (x:=0) ω,ak,e,aI,aW ω ω,ak]
   simp only[cA,cB]
   by_cases hP:gv m i
   ·rw[aj hP];unfold gv jy at hP
    repeat' split
    all_goals first|rfl|exact hr|omega
   ·rw[ah hP];unfold gv jy at hP
    repeat' split
    all_goals first|rfl|exact hr|omega
  ·rw[aP (x:=0) ω,av]
   simp only[cA,cB]
   by_cases hP:gv m i
   ·rw[aj hP];unfold gv jy at hP
    repeat' split
    all_goals first|rfl|exact hr|omega
   ·rw[ah hP];unfold gv jy at hP
    repeat' split
    all_goals first|rfl|exact hr|omega
 ·unfold D2.l2 D2.fM
  rw[aP ω,av]
theorem nu{m:aE}(hl:m.length≤100000)(hN:200000≤N):Ci N m=some (dI m):=by
 unfold Ci Ci.b
 refine iH (F:=λn i=>Ci.l2 N n m i) (gv m) (λn i r hi hp hr=> ?_) (λn=> ?_) N ω
 ·unfold Ci.l2 Ci.fM
  rw[aR ω,ak,aW ω ω,ak,aI,aw (x:=(i:Int)+1) ω ω,af]
  by_cases h0:0<i
  ·have e:W .i64 ((i:Int)-1)=((i-1:Nat):Int):=by rw[aw ω ω];omega
   dsimp only
   rw[aR (x:=0) ω,e,aI,aW (i:=((i-1:Nat):Int)) ω ω]
   simp only[cA,cB,ak]
   by_cases hP:gv m i
   ·rw[aj hP];unfold gv jy at hP
    repeat' split
    all_goals first|rfl|exact hr|omega
   ·rw[ah hP];unfold gv jy at hP
    repeat' split
    all_goals first|rfl|exact hr|omega
  ·rw[aP (x:=0) ω]
   simp only[cA,cB,ak,av]
   by_cases hP:gv m i
   ·rw[aj hP];unfold gv jy at hP
    repeat' split
    all_goals first|rfl|exact hr|omega
   ·rw[ah hP];unfold gv jy at hP
    repeat' split
    all_goals first|rfl|exact hr|omega
 ·unfold Ci.l2 Ci.fM
  rw[aP ω,av]
def c9(k n:Int):Prop:=(1≤k∧k≤4∧n=0)∨(k=5∧1≤n∧n≤24)∨(6≤k∧k≤7∧1≤n∧n≤12)
instance(k n:Int):Decidable (c9 k n):=by unfold c9;infer_instance
theorem R9(k n:Int):F83 N k n=some (decide (c9 k n)):=by
 unfold F83
 simp only[aM,cB]
 simp only[mZ,kj]
 by_cases hP:c9 k n
 ·rw[aU hP];unfold c9 at hP
  repeat' split
  all_goals first|rfl|omega|(rw[aU ω])
 ·rw[bx hP];unfold c9 at hP
  repeat' split
  all_goals first|rfl|omega|(rw[bx ω])
theorem acv(k n:Int):F97 N k n=some (decide (c9 k n)):=by
 have:=R9 N k n
 unfold F83 at this
 unfold F97
 exact this
def lZ(a b c d:Int):Prop:=a<c∨(a=c∧b<d)
instance(a b c d:Int):Decidable (lZ a b c d):=by unfold lZ;infer_instance
def CH(k n a b:Int):Int:=if k=a then n-b else k-a
def JD(x:Int):Prop:= -1000000≤x∧x≤1000000
theorem Hj{k n:Int}{r:dd}(h1:JD k)(h2:JD n)(h3:JD r.1)(h4:JD r.2.1):F84 N k n r=some (CH k n r.1 r.2.1):=by
 unfold F84 CH
 unfold JD at*
 rw[cond_not,aM]
 split
 ·rw[aw ω ω]
 ·rw[aw ω ω]
theorem Kp{k n:Int}{r:dd}(h1:JD k)(h2:JD n)(h3:JD r.1)(h4:JD r.2.1):VW N k n r=some (CH k n r.1 r.2.1):=Hj N h1 h2 h3 h4
def m6(a b c:Int)(i:Nat)(d e:Int):Prop:=c9 a b∧c≠0∧(0<i→lZ d e a b)
instance(a b c:Int)(i:Nat)(d e:Int):Decidable (m6 a b c i d e):=by unfold m6;infer_instance
def mI(l:au)(i:Nat):Prop:=m6 (l.getD i bc).1 (l.getD i bc).2.1 (l.getD i bc).2.2.1 i (l.getD (i-1) bc).1 (l.getD (i-1) bc).2.1
instance(l:au):DecidablePred (mI l):=λi=>by unfold mI;infer_instance
def eJ(l:au):Bool:=decide (∀j,j<l.length→mI l j)&&true
theorem L9{l:au}(hl:l.length≤100000)(hN:200000≤N):CI N l=some (eJ l):=by
 unfold CI CI.b
 refine iH (F:=λn i=>CI.l2 N n l l (l.length:Int) i) (mI l) (λn i r hi hp hr=> ?_) (λn=> ?_) N ω
 ·unfold CI.l2 CI.fM
  rw[aR ω,ak,aW ω ω,ak,aI,aw (x:=(i:Int)+1) ω ω,af,R9,ar,cond_not,fY]
  by_cases hK:c9 (l.getD i bc).1 (l.getD i bc).2.1
  ·rw[aj hK]
   by_cases h0:0<i
   ·have hq:=hp (i-1) ω
    have e:W .i64 ((i:Int)-1)=((i-1:Nat):Int):=by rw[aw ω ω];omega
    dsimp only
    rw[aR (x:=0) ω,ak,e,aI,aW ω ω,ak]
    unfold mI m6 at hq
    have hq:=hq.1
    rw[Hj N (by unfold c9 at hK;unfold JD;omega) (by unfold c9 at hK;unfold JD;omega) (by unfold c9 at hq;unfold JD;omega) (by unfold c9 at hq;unfold JD;omega),ar,aM,cB]
    by_cases hP:mI l i
    ·rw[aj hP];unfold mI m6 lZ at hP;unfold CH
     have Sa:=hP.2
     repeat' split
     all_goals first|rfl|exact hr|omega
    ·rw[ah hP];unfold mI m6 lZ at hP;unfold CH
     have Sa:=λh=>hP ⟨hK,h⟩
     repeat' split
     all_goals first|rfl|exact hr|omega|(exfalso;exact Sa ω)
   ·rw[aP (x:=0) ω,av,aM]
    by_cases hP:mI l i
    ·rw[aj hP];unfold mI m6 at hP
     rw[ah hP.2.1];exact hr
    ·rw[ah hP];unfold mI m6 at hP
     have Sa:=λh=>hP ⟨hK,h,λh=>absurd h h0⟩
     split
     ·rfl
     ·exact absurd (by assumption) Sa
  ·rw[ah hK,ah (λh=>hK (by unfold mI m6 at h;exact h.1))]
 ·unfold CI.l2 CI.fM
  rw[aP ω,av]
theorem Hk{l:au}(hl:l.length≤100000)(hN:200000≤N):CJ N l=some (eJ l):=by
 unfold CJ CJ.b
 refine iH (F:=λn i=>CJ.l2 N n l i) (mI l) (λn i r hi hp hr=> ?_) (λn=> ?_) N ω
 ·unfold CJ.l2 CJ.fM
  rw[aR ω,ak,aW ω ω,ak,aI,aw (x:=(i:Int)+1) ω ω,af,acv,ar,cond_not,fY]
  by_cases hK:c9 (l.getD i bc).1 (l.getD i bc).2.1
  ·rw[aj hK]
   by_cases h0:0<i
   ·have e:W .i64 ((i:Int)-1)=((i-1:Nat):Int):=by rw[aw ω ω];omega
    dsimp only
    rw[aR (x:=0) ω,e,aI,aW (i:=((i-1:Nat):Int)) ω ω]
    simp only[cA,cB,aM,ak]
    by_cases hP:mI l i
    ·rw[aj hP];unfold mI m6 lZ at hP
     have Sa:=hP.2
     repeat' split
     all_goals first|rfl|exact hr|omega
    ·rw[ah hP];unfold mI m6 lZ at hP
     have Sa:=λh=>hP ⟨hK,h⟩
     repeat' split
     all_goals first|rfl|exact hr|omega|(exfalso;exact Sa ω)
   ·rw[aP (x:=0) ω]
    simp only[cA,cB,aM,ak,av]
    by_cases hP:mI l i
    ·rw[aj hP];unfold mI m6 at hP
     rw[ah hP.2.1];exact hr
    ·rw[ah hP];unfold mI m6 at hP
     have Sa:=λh=>hP ⟨hK,h,λh=>absurd h h0⟩
     split
     ·rfl
     ·exact absurd (by assumption) Sa
  ·rw[ah hK,ah (λh=>hK (by unfold mI m6 at h;exact h.1))];rfl
 ·unfold CJ.l2 CJ.fM
  rw[aP ω,av]
def cj(a b:Int):Prop:=0≤a∧a≤24∧0≤b∧b<6
instance(a b:Int):Decidable (cj a b):=by unfold cj;infer_instance
theorem Ua(a b:Int):YT N a b=some (decide (cj a b)):=by
 unfold YT
 simp only[cB]
 simp only[qd]
 by_cases hP:cj a b
 ·rw[aU hP];unfold cj at hP
  repeat' split
  all_goals first|rfl|omega|(rw[aU ω])
 ·rw[bx hP];unfold cj at hP
  repeat' split
  all_goals first|rfl|omega|(rw[bx ω])
def qQ(q:Int):Prop:=q≠ -9223372036854775808
instance(q:Int):Decidable (qQ q):=by unfold qQ;infer_instance
theorem tv(q:Int):Sb N q=some (decide (qQ q)):=by
 unfold Sb qQ
 rw[kj]
 by_cases h:q= -9223372036854775808<;>simp[h]
def m7(a b c:Int)(i:Nat)(d e:Int):Prop:=cj a b∧c≠0∧qQ c∧(0<i→lZ d e a b)
instance(a b c:Int)(i:Nat)(d e:Int):Decidable (m7 a b c i d e):=by unfold m7;infer_instance
def mJ(l:au)(i:Nat):Prop:=m7 (l.getD i bc).1 (l.getD i bc).2.1 (l.getD i bc).2.2.1 i (l.getD (i-1) bc).1 (l.getD (i-1) bc).2.1
instance(l:au):DecidablePred (mJ l):=λi=>by unfold mJ;infer_instance
def de(l:au):Bool:=decide (∀j,j<l.length→mJ l j)&&true
theorem xD{l:au}(hl:l.length≤100000)(hN:200000≤N):Bu N l=some (de l):=by
 unfold Bu Bu.b
 refine iH (F:=λn i=>Bu.l2 N n l l (l.length:Int) i) (mJ l) (λn i r hi hp hr=> ?_) (λn=> ?_) N ω
 ·unfold Bu.l2 Bu.fM
  rw[aR ω,ak,aW ω ω,ak,aI,aw (x:=(i:Int)+1) ω ω,af,Ua,ar,cond_not,fY,tv,ar,cond_not,fY]
  by_cases hK:cj (l.getD i bc).1 (l.getD i bc).2.1
  ·rw[aj hK]
   by_cases h0:0<i
   ·have hq:=hp (i-1) ω
    have e:W .i64 ((i:Int)-1)=((i-1:Nat):Int):=by rw[aw ω ω];omega
    dsimp only
    rw[aR (x:=0) ω,ak,e,aI,aW ω ω,ak]
    unfold mJ m7 at hq
    have hq:=hq.1
    rw[Kp N (by unfold cj at hK;unfold JD;omega) (by unfold cj at hK;unfold JD;omega) (by unfold cj at hq;unfold JD;omega) (by unfold cj at hq;unfold JD;omega),ar,aM,cB]
    by_cases hP:mJ l i
    ·rw[aj hP];unfold mJ m7 lZ at hP;unfold CH
     obtain⟨_,hP1,Sa,hP3⟩:=hP
     rw[aj Sa]
     repeat' split
     all_goals first|rfl|exact hr|omega
    ·rw[ah hP];unfold mJ m7 lZ at hP;unfold CH
     have Sa:=λh1 h2 h3=>hP ⟨hK,h1,h2,h3⟩
     repeat' split
     all_goals first|rfl|exact hr|(exfalso;exact Sa (by assumption) (by assumption) ω)|omega
   ·rw[aP (x:=0) ω,av,aM]
    by_cases hP:mJ l i
    ·rw[aj hP];unfold mJ m7 at hP
     rw[ah hP.2.1,aj hP.2.2.1];exact hr
    ·rw[ah hP];unfold mJ m7 at hP
     have Sa:=λh1 h2=>hP ⟨hK,h1,h2,λh=>absurd h h0⟩
     split
     ·rfl
     ·split
      ·exact(Sa (by assumption) (by assumption)).elim
      ·rfl
  ·rw[ah hK,ah (λh=>hK (by unfold mJ m7 at h;exact h.1))]
 ·unfold Bu.l2 Bu.fM
  rw[aP ω,av]
theorem nv{l:au}(hl:l.length≤100000)(hN:200000≤N):Af N l=some (de l):=by
 unfold Af Af.b
 refine iH (F:=λn i=>Af.l2 N n l i) (mJ l) (λn i r hi hp hr=> ?_) (λn=> ?_) N ω
 ·unfold Af.l2 Af.fM
  rw[aR ω,ak,aW ω ω,ak,aI,aw (x:=(i:Int)+1) ω ω,af]
  by_cases h0:0<i
  ·have e:W .i64 ((i:Int)-1)=((i-1:Nat):Int):=by rw[aw ω ω];omega
   dsimp only
   rw[aR (x:=0) (y:=(i:Int)) ω,e,aI,aW (i:=((i-1:Nat):Int)) ω ω]
   simp only[cA,cB,aM,ak]
   by_cases hP:mJ l i
   ·rw[aj hP];unfold mJ m7 lZ qQ cj at hP
    repeat' split
    all_goals first|rfl|exact hr|omega
   ·rw[ah hP];unfold mJ m7 lZ qQ cj at hP
    repeat' split
    all_goals first|rfl|exact hr|omega|(exfalso;exact hP ω)
  ·rw[aP (x:=0) (y:=(i:Int)) ω]
   simp only[cA,cB,aM,ak,av]
   by_cases hP:mJ l i
   ·rw[aj hP];unfold mJ m7 lZ qQ cj at hP
    repeat' split
    all_goals first|rfl|exact hr|omega
   ·rw[ah hP];unfold mJ m7 lZ qQ cj at hP
    repeat' split
    all_goals first|rfl|exact hr|omega|(exfalso;exact hP ω)
 ·unfold Af.l2 Af.fM
  rw[aP ω,av]
theorem hZ(a b:Int)(y:Bool):cond (du a b) (some y) (some false)=some (decide (a≤b)&&y):=by
 rw[cB];by_cases h:a≤b<;>simp[h]
theorem Hl(a b:Int)(y:Bool):cond (aX a b) (some y) (some false)=some (decide (a<b)&&y):=by
 rw[cA];by_cases h:a<b<;>simp[h]
theorem Hm(a b:Int)(y:Bool):cond (aN a b) (some y) (some false)=some (decide (a=b)&&y):=by
 rw[aM];by_cases h:a=b<;>simp[h]
theorem CK(a b:Int)(y z:Bool):cond (aN a b) (some y) (some z)=some ((decide (a=b)&&y)||(!decide (a=b)&&z)):=by
 rw[aM];by_cases h:a=b<;>simp[h]
def zQ(a b c d e f:Int):Prop:=(1≤a∧a≤1099511627776)∧(1≤b∧b≤24)∧(0≤c∧c<6)∧(d=1∨d=2)∧(1≤e∧e≤1000000000)∧(1≤f∧f≤1000000000000)
instance(a b c d e f:Int):Decidable (zQ a b c d e f):=by unfold zQ;infer_instance
def qE(o:fZ):Prop:=zQ o.1 o.2.1 o.2.2.1 o.2.2.2.1 o.2.2.2.2.1 o.2.2.2.2.2.1
instance(o:fZ):Decidable (qE o):=by unfold qE;infer_instance
theorem akH(o:fZ):F90 N o=some (decide (qE o)):=by
 unfold F90
 rw[mZ o.2.2.2.2.2.1]
 rw[hZ,hZ,hZ,Hm,CK,Hl,hZ,hZ,hZ,hZ,hZ]
 congr 1
 rw[pH,fU]
 unfold qE zQ
 simp only[bM,nS,rE,wU,FR]
 omega
theorem CL(p:Int):F40 N p=some (decide (1≤p∧p≤1000000000000)):=by
 unfold F40
 rw[mZ p,hZ];congr 1
 rw[pH];simp only[bM,wU]
theorem jz(p:Int):Xr N p=some (decide (1≤p∧p≤1000000000000)):=CL N p
theorem Bv(o:fZ):F99 N o=some (decide (qE o)):=by
 unfold F99
 rw[jz,ar]
 repeat (first|rw[hZ]|rw[Hl]|rw[Hm]|rw[CK])
 congr 1
 rw[pH,fU]
 unfold qE zQ
 simp only[bM,nS,rE,wU,FR]
 omega
def uF(i:Nat)(a b:Int):Prop:=0<i→a<b
instance(i:Nat)(a b:Int):Decidable (uF i a b):=by unfold uF;infer_instance
def tx(l:aY)(i:Nat):Prop:=qE (l.getD i eC)∧uF i (l.getD (i-1) eC).1 (l.getD i eC).1
instance(l:aY):DecidablePred (tx l):=λi=>by unfold tx;infer_instance
def dm(l:aY):Bool:=decide (∀j,j<l.length→tx l j)&&decide (l.length≤32)
theorem CN{l:aY}(hl:l.length≤100000)(hN:200000≤N):CO N l=some (dm l):=by
 unfold CO CO.b
 refine iH (F:=λn i=>CO.l2 N n l l (l.length:Int) i) (tx l) (λn i r hi hp hr=> ?_) (λn=> ?_) N ω
 ·unfold CO.l2 CO.fM
  rw[aR ω,ak,aW ω ω,ak,aI,aw (x:=(i:Int)+1) ω ω,af,akH,ar,cond_not,fY]
  by_cases hK:qE (l.getD i eC)
  ·rw[aj hK]
   by_cases h0:0<i
   ·have e:W .i64 ((i:Int)-1)=((i-1:Nat):Int):=by rw[aw ω ω];omega
    dsimp only
    rw[aR (x:=0) ω,ak,e,aI,aW ω ω,ak,cB]
    by_cases hP:tx l i
    ·rw[aj hP,ah (by have h2:=hP.2;unfold uF at h2;omega)];exact hr
    ·rw[ah hP,aj]
     have h2: ¬uF i (l.getD (i-1) eC).1 (l.getD i eC).1:=λh=>hP ⟨hK,h⟩
     unfold uF at h2
     omega
   ·rw[aP (x:=0) ω,av,aj ⟨hK,λh=>absurd h h0⟩];exact hr
  ·rw[ah hK,ah (λh=>hK h.1)]
 ·unfold CO.l2 CO.fM
  rw[aP ω,av,mZ]
  congr 1;rw[nQ];omega
theorem iS{l:aY}(hl:l.length≤100000)(hN:200000≤N):Ah N l=some (dm l):=by
 unfold Ah Ah.b
 by_cases h32:32<l.length
 ·rw[aR ω,ak];unfold dm
  rw[bx (p:=l.length≤32) ω,Gd]
 rw[aP ω,av]
 have:=iH (F:=λn i=>Ah.l4 N n l i) (e:=true) (tx l) (λn i r hi hp hr=> ?_) (λn=> ?_) N (show l.length<N by omega)
 ·refine Eq.trans this ?_
  unfold dm
  rw[aU (p:=l.length≤32) ω]
 ·unfold Ah.l4 Ah.dQ
  rw[aR ω,ak,aW ω ω,ak,aI,aw (x:=(i:Int)+1) ω ω,af,Bv,ar,cond_not,fY]
  by_cases hK:qE (l.getD i eC)
  ·rw[aj hK]
   by_cases h0:0<i
   ·have e:W .i64 ((i:Int)-1)=((i-1:Nat):Int):=by rw[aw ω ω];omega
    dsimp only
    rw[aR (x:=0) ω,ak,ak,e,aI,aW ω ω,ak,cB]
    by_cases hP:tx l i
    ·rw[aj hP,ah (by have h2:=hP.2;unfold uF at h2;omega)];exact hr
    ·rw[ah hP,aj]
     have h2: ¬uF i (l.getD (i-1) eC).1 (l.getD i eC).1:=λh=>hP ⟨hK,h⟩
     unfold uF at h2
     omega
   ·rw[aP (x:=0) ω,av,aj ⟨hK,λh=>absurd h h0⟩];exact hr
  ·rw[ah hK,ah (λh=>hK h.1)]
 ·unfold Ah.l4 Ah.dQ
  rw[aP ω,av]
def kH(id:Int):aE→Int
 |[]=>0
 |x::t=>if x.1=id then x.2.1 else kH id t
def uG(id:Int):aO→cF×Bool
 |[]=>(ba,false)
 |x::t=>if x.1=id then(x,true)else uG id t
def ob(id:Int):aO→Int
 |[]=>0
 |x::t=>if x.2.1=id then(if x.2.2.1=1 then x.1 else ob id t)else ob id t
theorem vC(id:Int)(x:Bx)(t:aE):kH id (x::t)=if x.1=id then x.2.1 else kH id t:=rfl
theorem o4(id:Int)(x:cF)(t:aO):uG id (x::t)=if x.1=id then(x,true)else uG id t:=rfl
theorem tz(id:Int)(x:cF)(t:aO):ob id (x::t)=if x.2.1=id then(if x.2.2.1=1 then x.1 else ob id t)else ob id t:=rfl
theorem OU{m:aE}(hl:m.length≤100000)(hN:200000≤N)(id:Int):By.l4 N N id m (m.length:Int) 0=some (kH id m):=by
 refine D1 m c8 (λn i=>By.l4 N n id m (m.length:Int) i) (λl=>some (kH id l)) (λn i hi hr=> ?_) (λn=> ?_) N ω
 ·unfold By.l4 By.dQ
  rw[aR ω,ak,aW ω ω,ak,aI,aw (x:=(i:Int)+1) ω ω,af,hr,aM]
  rw[vC]
  split<;>rfl
 ·unfold By.l4 By.dQ
  rw[aP ω,av];rfl
theorem iT{m:aE}(hl:m.length≤100000)(hN:200000≤N)(id:Int):Ai N m id=some (kH id m):=by
 unfold Ai Ai.b
 refine D1 m c8 (λn i=>Ai.l2 N n m id i) (λl=>some (kH id l)) (λn i hi hr=> ?_) (λn=> ?_) N ω
 ·unfold Ai.l2 Ai.fM
  rw[aR ω,ak,aW ω ω,ak,ak,aI,aw (x:=(i:Int)+1) ω ω,af,hr,aM]
  rw[vC]
  split<;>rfl
 ·unfold Ai.l2 Ai.fM
  rw[aP ω,av];rfl
def gJ(m:aE)(id:Int):Int:=if dI m then kH id m else 0
theorem CP{m:aE}(hl:m.length≤100000)(hN:200000≤N)(id:Int):By N m id=some (gJ m id):=by
 unfold By By.b gJ
 rw[Hi N hl hN,ar,cond_not,OU N hl hN]
 cases dI m<;>rfl
theorem sf{m:aE}(hl:m.length≤100000)(hN:200000≤N)(id:Int):Ub N m id=some (gJ m id):=by
 unfold Ub gJ
 rw[nu N hl hN,ar,cond_not,iT N hl hN]
 cases dI m<;>rfl
theorem VX{m:aO}(hl:m.length≤100000)(hN:200000≤N)(id:Int):D3.l4 N N id ba m (m.length:Int) 0=some (uG id m):=by
 refine D1 m ba (λn i=>D3.l4 N n id ba m (m.length:Int) i) (λl=>some (uG id l)) (λn i hi hr=> ?_) (λn=> ?_) N ω
 ·unfold D3.l4 D3.dQ
  rw[aR ω,ak,aW ω ω,ak,aI,aw (x:=(i:Int)+1) ω ω,af,hr,aM]
  rw[o4]
  split<;>rfl
 ·unfold D3.l4 D3.dQ
  rw[aP ω,av];rfl
theorem si{m:aO}(hl:m.length≤100000)(hN:200000≤N)(id:Int):oK N m id=some (uG id m):=by
 unfold oK oK.b
 refine D1 m ba (λn i=>oK.l2 N n m id ba i) (λl=>some (uG id l)) (λn i hi hr=> ?_) (λn=> ?_) N ω
 ·unfold oK.l2 oK.fM
  rw[aR ω,ak,aW ω ω,ak,ak,aI,aw (x:=(i:Int)+1) ω ω,af,hr,aM]
  rw[o4]
  split<;>rfl
 ·unfold oK.l2 oK.fM
  rw[aP ω,av];rfl
theorem OV{m:aO}(hl:m.length≤100000)(hN:200000≤N)(id:Int):m8.l4 N N m id 0=some (ob id m):=by
 refine D1 m ba (λn i=>m8.l4 N n m id i) (λl=>some (ob id l)) (λn i hi hr=> ?_) (λn=> ?_) N ω
 ·unfold m8.l4 m8.dQ
  rw[aR ω,ak,aW ω ω]
  simp only[ak]
  rw[aI,aw (x:=(i:Int)+1) ω ω,af,hr,aM,aM]
  rw[tz]
  split
  ·split<;>rfl
  ·rfl
 ·unfold m8.l4 m8.dQ
  rw[aP ω,av];rfl
def dD(a b:Int):Prop:=a=b
instance(a b:Int):Decidable (dD a b):=by unfold dD;infer_instance
def zn(l:aO)(k:Nat)(m:Int):Prop:=dD (l.getD k ba).2.2.1 1∧dD (l.getD k ba).2.1 m
instance(l:aO)(k:Nat)(m:Int):Decidable (zn l k m):=by unfold zn;infer_instance
def mW(l:aO)(i:Nat)(m:Int):Bool:=(List.range i).any λk=>decide (zn l k m)
theorem xE{l:aO}{i:Nat}{m:Int}:mW l i m=true↔ ∃k,k<i∧zn l k m:=by
 unfold mW
 rw[AA]
 simp only[rJ,fU]
theorem vD(l:aO)(i:Nat)(m:Int):mW l (i+1) m=(mW l i m||decide (zn l i m)):=by
 unfold mW
 rw[Ga,List.any_append];simp
def m9(a b c d:Int):Prop:=(1≤a∧a≤24)∧(1≤b∧b≤12)∧(c=1∨c=2)∧(0≤d∧d≤1000000000000)
instance(a b c d:Int):Decidable (m9 a b c d):=by unfold m9;infer_instance
def ln(l:aO)(i:Nat):Prop:= ¬(dD (l.getD i ba).2.2.1 1∧mW l i (l.getD i ba).2.1=true)
instance(l:aO)(i:Nat):Decidable (ln l i):=by unfold ln;infer_instance
def Bz(l:aO)(i:Nat):Prop:=m9 (l.getD i ba).1 (l.getD i ba).2.1 (l.getD i ba).2.2.1 (l.getD i ba).2.2.2.1∧uF i (l.getD (i-1) ba).1 (l.getD i ba).1∧ln l i
instance(l:aO):DecidablePred (Bz l):=λi=>by unfold Bz;infer_instance
def gQ(l:aO):Bool:=decide (∀j,j<l.length→Bz l j)&&true
def ga(l:aO)(i:Nat):List Bool:=(List.range 13).map λ(m:Nat)=>mW l i (m:Int)
theorem VY{l:aO}{i:Nat}{b:Int}(h0:0≤b)(h1:b<13):(ga l i).getD b.toNat false=mW l i b:=by
 unfold ga
 rw[aV,nP,List.getElem?_range ω]
 show mW l i ((b.toNat:Nat):Int)=_
 rw[wS h0]
theorem OW{l:aO}{i:Nat}(h: ¬dD (l.getD i ba).2.2.1 1):ga l (i+1)=ga l i:=by
 unfold ga
 refine pE λm _=> ?_
 rw[vD,bx (λh'=>h h'.1),rL]
theorem Sc{l:aO}{i:Nat}(h:dD (l.getD i ba).2.2.1 1)(h0:(0:Int)≤(l.getD i ba).2.1):(ga l i).set ((l.getD i ba).2.1:Int).toNat true=ga l (i+1):=by
 refine List.ext_getElem (by unfold ga;simp) λk h1 h2=> ?_
 unfold ga at*
 rw[List.getElem_set]
 simp only[List.getElem_map,FZ]
 rw[vD]
 by_cases hk:((l.getD i ba).2.1:Int).toNat=k
 ·rw[aj hk,aU (show zn l i (k:Int)from⟨h,by unfold dD;omega⟩),Bool.or_true]
 ·rw[ah hk,bx (λh':zn l i (k:Int)=>hk (by have:=h'.2;unfold dD at this;omega)),rL]
theorem Ma{l:aO}(hl:l.length≤100000)(hN:200000≤N):zS N l=some (gQ l):=by
 unfold zS zS.b
 have h0:(List.replicate 13 false:List Bool)=ga l 0:=by unfold ga mW;rfl
 rw[h0]
 have:=iH (F:=λn i=>zS.l3 N n l (ga l i.toNat) l (l.length:Int) i) (e:=true) (Bz l) (λn i r hi hp hr=> ?_) (λn=> ?_) N (show l.length<N by omega)
 ·exact this
 ·simp only[aI]at hr ⊢
  unfold zS.l3 zS.nr
  rw[aR ω,ak,aW ω ω,ak]
  simp only[aI]
  rw[aw (x:=(i:Int)+1) ω ω,af]
  by_cases hF:m9 (l.getD i ba).1 (l.getD i ba).2.1 (l.getD i ba).2.2.1 (l.getD i ba).2.2.2.1
  ·have Uc:=hF
   unfold m9 at Uc
   have hT:cond (aN (l.getD i ba).2.2.1 1) (cond (bb (l.getD i ba).2.1 13) (cond (γ (ga l i) (l.getD i ba).2.1.toNat false) (some false) (cond (bb (l.getD i ba).2.1 13) (zS.l3 N n l (List.set (ga l i) (l.getD i ba).2.1.toNat true) l (l.length:Int) ((i+1:Nat):Int)) none)) none) (zS.l3 N n l (ga l i) l (l.length:Int) ((i+1:Nat):Int))=if ln l i then r else some false:=by
    rw[aM]
    by_cases hk:dD (l.getD i ba).2.2.1 1
    ·have A3:=hk
     unfold dD at A3
     rw[aj A3,aW ω ω,ak,ak,VY ω ω,Sc hk ω,hr]
     by_cases ho:mW l i (l.getD i ba).2.1=true
     ·have qj: ¬ln l i:=λh=>h ⟨hk,ho⟩
      rw[ah qj,ho];rfl
     ·have qj:ln l i:=λh=>ho h.2
      rw[aj qj,wV.2 ho];rfl
    ·have A3:=hk
     unfold dD at A3
     rw[ah A3,aj (show ln l i from λh=>hk h.1),←OW hk,hr]
   have hP:Bz l i↔uF i (l.getD (i-1) ba).1 (l.getD i ba).1∧ln l i:=⟨λh=>h.2,λh=>⟨hF,h⟩⟩
   have hD:(if Bz l i then r else some false)=if uF i (l.getD (i-1) ba).1 (l.getD i ba).1 then(if ln l i then r else some false)else some false:=by
    by_cases h1:uF i (l.getD (i-1) ba).1 (l.getD i ba).1<;>by_cases h2:ln l i<;>simp[hP,h1,h2]
   rw[hD]
   rw[hT]
   rw[aP ω,av,aP ω,av,aP ω,av,aP ω,av,aP (x:=(l.getD i ba).2.2.2.1) ω,aP (x:=1000000000000) ω]
   simp only[av]
   have hm: ∀{α:Type} (x:α) (y:α),cond (!aN (l.getD i ba).2.2.1 1) (cond (!aN (l.getD i ba).2.2.1 2) y x) x=x:=by
    intro α x y
    rcases Uc.2.2.1 with h|h
    ·rw[dV h];rfl
    ·rw[dV (y:=2) h];cases aN (l.getD i ba).2.2.1 1<;>rfl
   rw[hm]
   by_cases h0:0<i
   ·have e:W .i64 ((i:Int)-1)=((i-1:Nat):Int):=by rw[aw ω ω];omega
    rw[aR (x:=0) ω,ak,e,aI,aW ω ω,ak,cB]
    by_cases h1:uF i (l.getD (i-1) ba).1 (l.getD i ba).1
    ·rw[aj h1,ah (by unfold uF at h1;omega)]
    ·rw[ah h1,aj (by unfold uF at h1;omega)]
   ·rw[aP (x:=0) ω,av,aj (show uF i (l.getD (i-1) ba).1 (l.getD i ba).1 from λh=>absurd h h0)]
  ·rw[ah (λh=>hF h.1)]
   unfold m9 at hF
   generalize cond (aN (l.getD i ba).2.2.1 1) (cond (bb (l.getD i ba).2.1 13) (cond (γ (ga l i) (l.getD i ba).2.1.toNat false) (some false) (cond (bb (l.getD i ba).2.1 13) (zS.l3 N n l (List.set (ga l i) (l.getD i ba).2.1.toNat true) l (l.length:Int) ((i+1:Nat):Int)) none)) none) (zS.l3 N n l (ga l i) l (l.length:Int) ((i+1:Nat):Int))=t
   generalize cond (aX 0 (i:Int)) _ _=u
   simp only[cond_not,cA,aM]
   repeat' split
   all_goals first|rfl|omega
 ·unfold zS.l3 zS.nr
  rw[aP ω,av]
theorem CQ(N:Nat)(K:aO→Int→Option Bool){l:aO}(hl:l.length≤100000){i:Nat}(hi:i<l.length): ∀(m n k:Nat),i-k≤m→m<n→k≤i→(dD (l.getD i ba).2.2.1 1→mW l k (l.getD i ba).2.1=false)→
  mX.l8 N K n l (i:Int) (l.getD i ba) (k:Int)=if ln l i then K l ((i+1:Nat):Int)else some false
 |m,0,k,_,hn,_,_=>ω
 |m,n+1,k,hm,hn,hk,h=>by
  unfold mX.l8 mX.D4
  by_cases GM:k<i
  ·rw[aR ω,ak,aW ω ω,ak,ak,aI,aw (x:=(k:Int)+1) ω ω,af,aM,aM,aM]
   by_cases h1:dD (l.getD i ba).2.2.1 1
   ·have qM:=h1
    unfold dD at qM
    rw[aj qM]
    by_cases h2:zn l k (l.getD i ba).2.1
    ·have zm:=h2
     unfold zn dD at zm
     have qj: ¬ln l i:=λh3=>h3 ⟨h1,xE.2 ⟨k,GM,h2⟩⟩
     rw[aj zm.1,aj zm.2,ah qj]
    ·have Bt:=CQ N K hl hi (m-1) n (k+1) ω ω ω (λ_=>by rw[vD,h h1,bx h2];rfl)
     split
     ·split
      ·rename_i h3 h4
       exact absurd (show zn l k (l.getD i ba).2.1 from⟨h3,h4⟩) h2
      ·exact Bt
     ·exact Bt
   ·have qM:=h1
    unfold dD at qM
    rw[ah qM]
    exact CQ N K hl hi (m-1) n (k+1) ω ω ω (λh=>absurd h h1)
  ·have:k=i:=ω
   subst this
   have qj:ln l k:=λh3=>by rw[h h3.1]at h3;exact nomatch h3.2
   rw[aP ω,av,aj qj,aw (x:=(k:Int)+1) ω ω];rfl
set_option maxHeartbeats 2000000 in
theorem uH{l:aO}(hl:l.length≤100000)(hN:200000≤N):mX N l=some (gQ l):=by
 unfold mX mX.b
 refine iH (F:=λn i=>mX.l2 N n l i) (Bz l) (λn i r hi hp hr=> ?_) (λn=> ?_) N ω
 ·unfold mX.l2 mX.fM
  have hT:mX.j7 N (mX.l2 N n) l (i:Int) (l.getD i ba)=if ln l i then r else some false:=by
   unfold mX.j7 mX.Xp
   have:=CQ N (mX.l2 N n) hl hi i N 0 ω ω ω (λ_=>rfl)
   rw[hr]at this
   exact this
  rw[aR ω,ak,aW ω ω,ak]
  simp only[aI]
  rw[hT]
  have hD:(if Bz l i then r else some false)=if m9 (l.getD i ba).1 (l.getD i ba).2.1 (l.getD i ba).2.2.1 (l.getD i ba).2.2.2.1∧uF i (l.getD (i-1) ba).1 (l.getD i ba).1 then(if ln l i then r else some false)else some false:=by
   unfold Bz
   by_cases h1:uF i (l.getD (i-1) ba).1 (l.getD i ba).1<;>by_cases h2:ln l i<;>by_cases h3:m9 (l.getD i ba).1 (l.getD i ba).2.1 (l.getD i ba).2.2.1 (l.getD i ba).2.2.2.1<;>simp[h1,h2,h3]
  rw[hD]
  generalize (if ln l i then r else some false)=t
  by_cases h0:0<i
  ·have e:W .i64 ((i:Int)-1)=((i-1:Nat):Int):=by rw[aw ω ω];omega
   rw[aR (x:=0) (y:=(i:Int)) ω,e]
   simp only[ak,aI]
   rw[aW (i:=((i-1:Nat):Int)) ω ω]
   simp only[cond_not,cA,cB,aM,ak]
   by_cases hP:m9 (l.getD i ba).1 (l.getD i ba).2.1 (l.getD i ba).2.2.1 (l.getD i ba).2.2.2.1∧uF i (l.getD (i-1) ba).1 (l.getD i ba).1
   ·rw[aj hP];unfold m9 uF at hP
    repeat' split
    all_goals first|rfl|omega
   ·rw[ah hP];unfold m9 uF at hP
    repeat' split
    all_goals first|rfl|omega
  ·rw[aP (x:=0) (y:=(i:Int)) ω]
   simp only[cond_not,cA,cB,aM,ak,av]
   by_cases hP:m9 (l.getD i ba).1 (l.getD i ba).2.1 (l.getD i ba).2.2.1 (l.getD i ba).2.2.2.1∧uF i (l.getD (i-1) ba).1 (l.getD i ba).1
   ·rw[aj hP];unfold m9 uF at hP
    repeat' split
    all_goals first|rfl|omega
   ·rw[ah hP];unfold m9 uF at hP
    repeat' split
    all_goals first|rfl|omega
 ·unfold mX.l2 mX.fM
  rw[aP ω,av]
end VM
end
section
namespace VM
open Go VM.F
variable(N:Nat)
def eV(a:aO)(id:Int):cF×Bool:=if gQ a then uG id a else(ba,false)
theorem acw{a:aO}(hl:a.length≤100000)(hN:200000≤N)(id:Int):D3 N a id=some (eV a id):=by
 unfold D3 D3.b eV
 rw[Ma N hl hN,ar,cond_not,VX N hl hN]
 cases gQ a<;>rfl
theorem BA{a:aO}(hl:a.length≤100000)(hN:200000≤N)(id:Int):ET N a id=some (eV a id):=by
 unfold ET eV
 rw[uH N hl hN,ar,cond_not,si N hl hN]
 cases gQ a<;>rfl
def oc(a:aO)(id:Int):Int:=if gQ a then ob id a else 0
theorem ru{a:aO}(hl:a.length≤100000)(hN:200000≤N)(id:Int):m8 N a id=some (oc a id):=by
 unfold m8 m8.b oc
 rw[uH N hl hN,ar,cond_not,OV N hl hN]
 cases gQ a<;>rfl
def lU(m:aE)(a:aO)(i:Nat):Prop:= ¬dD (kH (a.getD i ba).2.1 m) 0
instance(m:aE)(a:aO):DecidablePred (lU m a):=λi=>by unfold lU;infer_instance
def sj(m:aE)(a:aO):Bool:=dI m&&(gQ a&&(decide (∀j,j<a.length→lU m a j)&&true))
theorem acx{m:aE}{a:aO}(hm:m.length≤100000)(hl:a.length≤100000)(hN:200000≤N):EU N m a=some (sj m a):=by
 unfold EU EU.b sj
 rw[Hi N hm hN,ar,cond_not,Ma N hl hN,ar,cond_not]
 cases hM:dI m
 ·rfl
 cases gQ a
 ·rfl
 rw[kS,kS,ak,ak]
 refine iH (F:=λn i=>EU.l4 N n m a (a.length:Int) i) (lU m a) (λn i r hi hp hr=> ?_) (λn=> ?_) N ω
 ·unfold EU.l4 EU.dQ
  rw[aR ω,ak,aW ω ω,ak,aI,aw (x:=(i:Int)+1) ω ω,af,CP N hm hN,ar,aM]
  unfold gJ
  rw[hM,aj rfl]
  by_cases hP:lU m a i
  ·rw[aj hP,ah (show ¬((kH (a.getD i ba).2.1 m:Int)=0)from λh=>hP h)];exact hr
  ·rw[ah hP,aj (show(kH (a.getD i ba).2.1 m:Int)=0 by unfold lU at hP;exact F2.1 hP)]
 ·unfold EU.l4 EU.dQ
  rw[aP ω,av]
theorem xF{m:aE}{a:aO}(hm:m.length≤100000)(hl:a.length≤100000)(hN:200000≤N):CR N m a=some (sj m a):=by
 unfold CR CR.b sj
 rw[nu N hm hN,ar,cond_not,uH N hl hN,ar,cond_not]
 cases hM:dI m
 ·rfl
 cases gQ a
 ·rfl
 rw[kS,kS,ak,ak]
 refine iH (F:=λn i=>CR.l4 N n m a i) (lU m a) (λn i r hi hp hr=> ?_) (λn=> ?_) N ω
 ·unfold CR.l4 CR.dQ
  rw[aR ω,ak,aW ω ω,ak,aI,aw (x:=(i:Int)+1) ω ω,af,iT N hm hN,ar,aM]
  by_cases hP:lU m a i
  ·rw[aj hP,ah (show ¬((kH (a.getD i ba).2.1 m:Int)=0)from λh=>hP h)];exact hr
  ·rw[ah hP,aj (show(kH (a.getD i ba).2.1 m:Int)=0 by unfold lU at hP;exact F2.1 hP)]
 ·unfold CR.l4 CR.dQ
  rw[aP ω,av]
theorem YU(a b:bS):pn (.pair (.int .i64) (.pair (.int .u64) .unit)) a b=(aN a.1 b.1&&(aN a.2.1 b.2.1&&true)):=rfl
theorem Ud{u v:Int}:F85 N (cL u) (cL v)=some (wN (u-v)):=by
 unfold F85
 rw[YU]
 unfold cL
 dsimp only
 unfold wN
 rw[cA,aM,cA,fu,kj,kj]
 have hu:u=u/18446744073709551616*18446744073709551616+u%18446744073709551616:=ω
 have hv:v=v/18446744073709551616*18446744073709551616+v%18446744073709551616:=ω
 by_cases h1:u/18446744073709551616<v/18446744073709551616
 ·rw[aj h1];congr 1;split<;>(try split)<;>omega
 ·rw[ah h1]
  by_cases h2:u/18446744073709551616=v/18446744073709551616
  ·rw[aj h2,aU h2,kS]
   by_cases h3:u%18446744073709551616<v%18446744073709551616
   ·rw[aj h3];congr 1;split<;>(try split)<;>omega
   ·rw[ah h3]
    by_cases h4:u%18446744073709551616=v%18446744073709551616
    ·rw[aU h4,ak];congr 1;split<;>(try split)<;>omega
    ·rw[bx h4,av];congr 1;split<;>(try split)<;>omega
  ·rw[ah h2,bx h2,um,av];congr 1;split<;>(try split)<;>omega
theorem Sd:cL 0=c8:=rfl
theorem BB{u:Int}:F32 N (cL u)=some (wN u):=by
 unfold F32
 rw[←Sd,Ud,ar,Gh]
def dT(r:dd):Int:=r.2.2.1
def aF(x:Int):Prop:= -9223372036854775808≤x∧x<9223372036854775808
def eK(l:au):Prop:= ∀x∈l,aF (dT x)
theorem xG{l:au}(h:eK l)(i:Nat):aF (dT (l.getD i bc)):=by
 by_cases hi:i<l.length
 ·rw[aV,bm hi];exact h _ (dJ hi)
 ·rw[aV,ig ω];exact⟨δ,δ⟩
theorem OX{ws:List Int}(h: ∀x∈ws,aF x): -(9223372036854775808*(ws.length:Int))≤ws.sum∧ws.sum≤9223372036854775808*(ws.length:Int):=T6 ws h
theorem Kq{ws:List Int}(h: ∀x∈ws,aF x)(hl:ws.length≤1000000):cR ws.sum:=by
 have:=OX h
 unfold cR;omega
theorem VZ{ws:List Int}(h: ∀x∈ws,aF x): ∀x∈ws,cR x:=λx hx=>by
 have:=h x hx
 unfold aF at this;unfold cR;omega
theorem Mb{ws:List Int}(h: ∀x∈ws,aF x)(hl:ws.length≤1000000)(hN:1000000<N):Ae N (ws.map cL)=some (cL ws.sum,true):=by
 rw[Fy N (VZ h) hl hN]
 unfold OT
 rw[aj (Kq h hl)]
def il(l:au):Int:=if eJ l then(l.map dT).sum else 0
theorem Se{l:au}(hq:eK l)(hl:l.length≤100000)(hN:2000000≤N):D5.l5 N N c8 [] l (l.length:Int) 0=some (cL (l.map dT).sum):=by
 have:=n0 l bc (λn i ws=>D5.l5 N n c8 (ws.map cL) l (l.length:Int) i) (λt ws=>some (cL (ws++t.map dT).sum)) (λi (ws:List Int)=>ws.length=i∧ ∀x∈ws,aF x)
  (λn i ws hi hI hr=> ?_) (λn ws hI=> ?_) l.length N 0 [] ω ω ω ⟨rfl,λx hx=>nomatch hx⟩
 ·simpa using this
 ·unfold D5.l5 D5.eo
  have nJ:=xG hq i
  have jA:=nJ
  unfold aF dT at jA
  rw[aR ω,ak,aW ω ω,ak,aI,vA N jA.1 jA.2,ar,bY (by rw[cK,aJ];omega),ak,aw ω ω,af]
  have:=hr (ws++[dT (l.getD i bc)]) ⟨by rw[aS,hI.1];rfl,λx hx=>by
   rcases bk.1 hx with hx|hx
   ·exact hI.2 x hx
   ·rw[cn.1 hx];exact nJ⟩
  rw[dn]at this
  refine this.trans ?_
  rw[bQ,bE];rfl
 ·unfold D5.l5 D5.eo
  rw[aP ω,av,Mb N hI.2 ω ω,ar,ik,cw]
theorem YV{l:au}(hq:eK l)(hl:l.length≤100000)(hN:2000000≤N):D5 N l=some (cL (il l)):=by
 unfold D5 D5.b il
 rw[L9 N hl ω,ar,cond_not,Se N hq hl hN]
 cases eJ l<;>rfl
theorem OY{l:au}(hq:eK l)(hl:l.length≤100000)(hN:4000000≤N):D6.l5 N N l (dA 0) (dA 0) 0=some (dA (l.map dT).sum):=by
 have:=n0 l bc (λn i ws=>D6.l5 N n l (dA 0) (dA ws.sum) i) (λt ws=>some (dA (ws++t.map dT).sum)) (λi (ws:List Int)=>ws.length=i∧ ∀x∈ws,aF x)
  (λn i ws hi hI hr=> ?_) (λn ws hI=> ?_) l.length N 0 [] ω ω ω ⟨rfl,λx hx=>nomatch hx⟩
 ·simpa using this
 ·unfold D6.l5 D6.eo
  have nJ:=xG hq i
  have jA:=nJ
  unfold aF dT at jA
  have hb:=OX hI.2
  rw[hI.1]at hb
  rw[aR ω,ak,aW ω ω,ak,aI,dP N ω jA.1 jA.2,ar,kG N ω ((Bp (n:=i) ω hb.1 hb.2).mono ω) ((Fit.i64 jA.1 jA.2).mono ω),ar,aw ω ω,af]
  have:=hr (ws++[dT (l.getD i bc)]) ⟨by rw[aS,hI.1];rfl,λx hx=>by
   rcases bk.1 hx with hx|hx
   ·exact hI.2 x hx
   ·rw[cn.1 hx];exact nJ⟩
  rw[kQ,cE,jo,jM]at this
  refine this.trans ?_
  rw[bQ,bE];rfl
 ·unfold D6.l5 D6.eo
  rw[aP ω,av,ik,cw]
theorem V0{l:au}(hq:eK l)(hl:l.length≤100000)(hN:4000000≤N):D6 N l=some (dA (il l)):=by
 unfold D6 D6.b il
 rw[Hk N hl ω,ar,cond_not]
 have:=OY N hq hl hN
 rw[lT]at this
 rw[this]
 cases eJ l
 ·rw[av];exact fv some lT.symm
 ·rfl
def df(inst:Int):au→List Int
 |[]=>[]
 |x::t=>if x.2.1=inst then dT x::df inst t else df inst t
theorem dx(inst:Int)(x:dd)(t:au):df inst (x::t)=if x.2.1=inst then dT x::df inst t else df inst t:=rfl
theorem V1{l:au}(hq:eK l)(hl:l.length≤100000)(hN:2000000≤N)(inst:Int):D7.l5 N N inst c8 [] l (l.length:Int) 0=some (cL (df inst l).sum):=by
 have:=n0 l bc (λn i ws=>D7.l5 N n inst c8 (ws.map cL) l (l.length:Int) i) (λt ws=>some (cL (ws++df inst t).sum)) (λi (ws:List Int)=>ws.length≤i∧ ∀x∈ws,aF x)
  (λn i ws hi hI hr=> ?_) (λn ws hI=> ?_) l.length N 0 [] ω ω ω ⟨aH _,λx hx=>nomatch hx⟩
 ·simpa using this
 ·unfold D7.l5 D7.eo
  have nJ:=xG hq i
  have jA:=nJ
  unfold aF dT at jA
  rw[aR ω,ak,aW ω ω,ak,aI,vA N jA.1 jA.2,ar,bY (by rw[cK,aJ];omega),ak,aw ω ω,af,aM,dx]
  split
  ·have:=hr (ws++[dT (l.getD i bc)]) ⟨by rw[aS,aJ];omega,λx hx=>by
    rcases bk.1 hx with hx|hx
    ·exact hI.2 x hx
    ·rw[cn.1 hx];exact nJ⟩
   rw[dn]at this
   refine this.trans ?_
   rw[bE];rfl
  ·exact hr ws ⟨ω,hI.2⟩
 ·unfold D7.l5 D7.eo
  rw[aP ω,av,Mb N hI.2 ω ω,ar]
  show _=some (cL (ws++[]).sum)
  rw[cw]
def qR(l:au)(inst:Int):Int:=if de l then(df inst l).sum else 0
theorem acy{l:au}(hq:eK l)(hl:l.length≤100000)(hN:2000000≤N)(inst:Int):D7 N l inst=some (cL (qR l inst)):=by
 unfold D7 D7.b qR
 rw[xD N hl ω,ar,cond_not,V1 N hq hl hN]
 cases de l<;>rfl
theorem Sf{l:au}(hq:eK l)(hl:l.length≤100000)(hN:4000000≤N)(inst:Int):D8.l5 N N l inst (dA 0) (dA 0) 0=some (dA (df inst l).sum):=by
 have:=n0 l bc (λn i ws=>D8.l5 N n l inst (dA 0) (dA ws.sum) i) (λt ws=>some (dA (ws++df inst t).sum)) (λi (ws:List Int)=>ws.length≤i∧ ∀x∈ws,aF x)
  (λn i ws hi hI hr=> ?_) (λn ws hI=> ?_) l.length N 0 [] ω ω ω ⟨aH _,λx hx=>nomatch hx⟩
 ·simpa using this
 ·unfold D8.l5 D8.eo
  have nJ:=xG hq i
  have jA:=nJ
  unfold aF dT at jA
  have hb:=OX hI.2
  rw[aR ω,ak,aW ω ω,ak,ak,aI,dP N ω jA.1 jA.2,ar,kG N ω ((Bp (n:=ws.length) ω hb.1 hb.2).mono ω) ((Fit.i64 jA.1 jA.2).mono ω),ar,aw ω ω,af,aM,dx]
  split
  ·have:=hr (ws++[dT (l.getD i bc)]) ⟨by rw[aS,aJ];omega,λx hx=>by
    rcases bk.1 hx with hx|hx
    ·exact hI.2 x hx
    ·rw[cn.1 hx];exact nJ⟩
   rw[kQ,cE,jo,jM]at this
   refine this.trans ?_
   rw[bE];rfl
  ·exact hr ws ⟨ω,hI.2⟩
 ·unfold D8.l5 D8.eo
  rw[aP ω,av]
  show _=some (dA (ws++[]).sum)
  rw[cw]
theorem OZ{l:au}(hq:eK l)(hl:l.length≤100000)(hN:4000000≤N)(inst:Int):D8 N l inst=some (dA (qR l inst)):=by
 unfold D8 D8.b qR
 rw[nv N hl ω,ar,cond_not]
 have:=Sf N hq hl hN inst
 rw[lT]at this
 rw[this]
 cases de l
 ·rw[av];exact fv some lT.symm
 ·rfl
def sl(l:au)(i:Nat):Prop:=dD (qR l (i:Int)) 0
instance(l:au):DecidablePred (sl l):=λi=>by unfold sl;infer_instance
def kp:Nat:=6
def od(l:au):Bool:=decide (∀j,j<kp→sl l j)&&de l
theorem lq{x:Int}:wN x=0↔x=0:=by unfold wN;split<;>(try split)<;>omega
theorem acz{l:au}(hq:eK l)(hl:l.length≤100000)(hN:2000000≤N):EV N l=some (od l):=by
 unfold EV EV.b
 refine iH (len:=kp) (F:=λn i=>EV.l2 N n l i) (sl l) (λn i r hi hp hr=> ?_) (λn=> ?_) N (by unfold kp;omega)
 ·unfold EV.l2 EV.fM
  unfold kp at hi
  rw[aR ω,ak,acy N hq hl hN,ar,BB,ar,cond_not,aM,aw ω ω,af,hr]
  by_cases hP:sl l i
  ·rw[aj hP,aj (lq.2 hP)]
  ·rw[ah hP,ah (λh=>hP (lq.1 h))]
 ·unfold EV.l2 EV.fM
  rw[aP (by unfold kp;omega),av,xD N hl ω,ar]
theorem YW{l:au}(hq:eK l)(hl:l.length≤100000)(hN:4000000≤N):EW N l=some (od l):=by
 unfold EW EW.b
 refine iH (len:=kp) (F:=λn i=>EW.l2 N n l i) (sl l) (λn i r hi hp hr=> ?_) (λn=> ?_) N (by unfold kp;omega)
 ·unfold EW.l2 EW.fM
  unfold kp at hi
  rw[aR ω,ak,OZ N hq hl hN,ar,qO,ar,cond_not,aM,aw ω ω,af,hr]
  by_cases hP:sl l i
  ·rw[aj hP,aj (lq.2 hP)]
  ·rw[ah hP,ah (λh=>hP (lq.1 h))]
 ·unfold EW.l2 EW.fM
  rw[aP (by unfold kp;omega),av,nv N hl ω,ar]
def kI(m:aE)(a:aO)(l:au)(i:Nat):Prop:=
 (dD (l.getD i bc).1 5→(eV a (l.getD i bc).2.1).2=true)∧(dD (l.getD i bc).1 6∨dD (l.getD i bc).1 7→ ¬dD (gJ m (l.getD i bc).2.1) 0)
instance(m:aE)(a:aO)(l:au):DecidablePred (kI m a l):=λi=>by unfold kI;infer_instance
theorem CS(b:an)(hl:b.2.1.length≤100000)(hN:200000≤N)(id:Int):F36 N b id=some (eV b.2.1 id).2:=by
 unfold F36
 rw[acw N hl hN,ar]
theorem V2{k:Int}{f:Bool}{z:Int}{r:Option Bool}:cond (aN k 5) (cond (!f) (some false) r) (cond (aN k 6) (cond (aN z 0) (some false) r) (cond (aN k 7) (cond (aN z 0) (some false) r) r))=
  if(dD k 5→f=true)∧(dD k 6∨dD k 7→ ¬dD z 0)then r else some false:=by
 unfold dD
 rw[aM,aM,aM,aM,cond_not]
 by_cases h5:k=5
 ·have h6: ¬(k=6):=ω
  have h7: ¬(k=7):=ω
  cases f<;>simp[h5,h6,h7]
 ·by_cases h6:k=6
  ·by_cases hz:z=0<;>simp[h5,h6,hz]
  ·by_cases h7:k=7
   ·by_cases hz:z=0<;>simp[h5,h6,h7,hz]
   ·simp[h5,h6,h7]
theorem JE(hN:200000≤N)(c:ae)(b:an)(hm:b.1.length≤100000)(ha:b.2.1.length≤100000)(hl:b.2.2.1.length≤100000){e:Bool}
  (he:F9.xH N N c b b.2.2.2.1 (b.2.2.2.1.length:Int) 0=some e):F9.l4 N N c b b.2.2.1 (b.2.2.1.length:Int) 0=some (decide (∀j,j<b.2.2.1.length→kI b.1 b.2.1 b.2.2.1 j)&&e):=by
 refine iH (F:=λn i=>F9.l4 N n c b b.2.2.1 (b.2.2.1.length:Int) i) (kI b.1 b.2.1 b.2.2.1) (λn i r hi hp hr=> ?_) (λn=> ?_) N ω
 ·unfold F9.l4 F9.dQ
  rw[aR ω,ak,aW ω ω,ak,aI,aw (x:=(i:Int)+1) ω ω,af,hr]
  simp only[CS N b ha hN,CP N hm hN,ar]
  rw[V2]
  rfl
 ·unfold F9.l4 F9.dQ
  rw[aP ω,av];exact he
def lI(a b:Int):Prop:=a<b
instance(a b:Int):Decidable (lI a b):=by unfold lI;infer_instance
def jQ(c:ae)(a:aO)(l:au)(i:Nat):Prop:=
 (dD (l.getD i bc).1 0∨(eV a (l.getD i bc).1).2=true)∧lI (l.getD i bc).2.1 c.1.length
instance(c:ae)(a:aO)(l:au):DecidablePred (jQ c a l):=λi=>by unfold jQ;infer_instance
theorem YX{k x n:Int}{f:Bool}{r:Option Bool}:cond (!aN k 0) (cond (!f) (some false) (cond (du n x) (some false) r)) (cond (du n x) (some false) r)=if(dD k 0∨f=true)∧lI x n then r else some false:=by
 unfold dD lI
 rw[cond_not,aM,cB,cond_not]
 by_cases h0:k=0
 ·by_cases hx:n≤x
  ·have: ¬x<n:=ω
   simp[h0,hx,this]
  ·have:x<n:=ω
   simp[h0,hx,this]
 ·by_cases hx:n≤x
  ·have: ¬x<n:=ω
   cases f<;>simp[h0,hx,this]
  ·have:x<n:=ω
   cases f<;>simp[h0,hx,this]
theorem Mc(hN:200000≤N)(c:ae)(b:an)(ha:b.2.1.length≤100000)(hl:b.2.2.2.1.length≤100000){e:Bool}
  (he:F9.xI N N c b b.2.2.2.2.2.1 (b.2.2.2.2.2.1.length:Int) 0=some e):F9.xH N N c b b.2.2.2.1 (b.2.2.2.1.length:Int) 0=some (decide (∀j,j<b.2.2.2.1.length→jQ c b.2.1 b.2.2.2.1 j)&&e):=by
 refine iH (F:=λn i=>F9.xH N n c b b.2.2.2.1 (b.2.2.2.1.length:Int) i) (jQ c b.2.1 b.2.2.2.1) (λn i r hi hp hr=> ?_) (λn=> ?_) N ω
 ·unfold F9.xH F9.wE
  rw[aR ω,ak,aW ω ω,ak,aI,aw (x:=(i:Int)+1) ω ω,af,hr]
  simp only[CS N b ha hN,ar]
  rw[YX]
  rfl
 ·unfold F9.xH F9.wE
  rw[aP ω,av];exact he
def qS(l:List Int)(i:Nat):Prop:=1≤l.getD i 0∧l.getD i 0≤1000000000000
instance(l:List Int):DecidablePred (qS l):=λi=>by unfold qS;infer_instance
def fi(l:List Int):Bool:=decide (∀j,j<l.length→qS l j)
theorem akK(p:Int):F39 N p=some (!decide (1≤p∧p≤1000000000000)):=by
 unfold F39
 rw[CL,ar]
theorem Hn(N:Nat){l:List Int}(hl:l.length≤100000): ∀(m n i:Nat),l.length-i≤m→m<n→i≤l.length→(∀j,j<i→qS l j)→
  ∃r,I9.l2 N n l () (l.length:Int) (i:Int)=some r∧(du 0 r= !fi l)
 |m,0,i,_,hn,_,_=>ω
 |m,n+1,i,hm,hn,hi,hp=>by
  unfold I9.l2 I9.fM
  by_cases h:i<l.length
  ·rw[aR ω,ak,aW ω ω,ak,aI,akK,ar,cond_not,fY]
   by_cases hP:qS l i
   ·have hP':=hP
    unfold qS at hP'
    rw[aj hP',aw ω ω]
    exact Hn N hl (m-1) n (i+1) ω ω ω (λj hj=>by
     by_cases zJ:j=i
     ·subst zJ;exact hP
     ·exact hp j ω)
   ·have hP':=hP
    unfold qS at hP'
    rw[ah hP']
    refine⟨_,rfl,?_⟩
    rw[fQ ω]
    unfold fi
    rw[bx (λh'=>hP (h' i h))];rfl
  ·rw[aP ω,av]
   refine⟨_,rfl,?_⟩
   rw[fK ω]
   unfold fi
   rw[aU (λj hj=>hp j ω)];rfl
theorem V3{l:List Int}(hl:l.length≤100000)(hN:200000≤N):F38 N l ()=some (!fi l):=by
 unfold F38 I9 I9.b
 obtain⟨r,e,h⟩:=Hn N hl l.length N 0 ω ω ω (λj hj=>absurd hj ω)
 rw[show((0:Nat):Int)=0 from rfl]at e
 rw[e,ar,h]
def qT(c:ae)(a:aO)(l:aY)(i:Nat):Prop:=
 (eV a (l.getD i eC).2.1).2=true∧lI (l.getD i eC).2.2.1 c.1.length
instance(c:ae)(a:aO)(l:aY):DecidablePred (qT c a l):=λi=>by unfold qT;infer_instance
theorem Ho{x n:Int}{f:Bool}{r:Option Bool}:cond (!f) (some false) (cond (du n x) (some false) r)=if f=true∧lI x n then r else some false:=by
 unfold lI
 rw[cB,cond_not]
 by_cases hx:n≤x
 ·have: ¬x<n:=ω
  cases f<;>simp[hx,this]
 ·have:x<n:=ω
  cases f<;>simp[hx,this]
theorem Md(hN:200000≤N)(c:ae)(b:an)(ha:b.2.1.length≤100000)(hl:b.2.2.2.2.2.1.length≤100000)(hp:b.2.2.2.2.1.length≤100000):
  F9.xI N N c b b.2.2.2.2.2.1 (b.2.2.2.2.2.1.length:Int) 0=some (decide (∀j,j<b.2.2.2.2.2.1.length→qT c b.2.1 b.2.2.2.2.2.1 j)&&fi b.2.2.2.2.1):=by
 refine iH (F:=λn i=>F9.xI N n c b b.2.2.2.2.2.1 (b.2.2.2.2.2.1.length:Int) i) (qT c b.2.1 b.2.2.2.2.2.1) (λn i r hi Rx hr=> ?_) (λn=> ?_) N ω
 ·unfold F9.xI F9.wF
  rw[aR ω,ak,aW ω ω,ak,aI,aw (x:=(i:Int)+1) ω ω,af,hr]
  simp only[CS N b ha hN,ar]
  rw[Ho]
  rfl
 ·unfold F9.xI F9.wF
  rw[aP ω,av,V3 N hp hN,ar,Bool.not_not]
def dg(c:ae)(b:an):Bool:=
 eR c&&(sj b.1 b.2.1&&(eJ b.2.2.1&&(decide (dD (il b.2.2.1) 0)&&(od b.2.2.2.1&&(dm b.2.2.2.2.2.1&&(decide (dD b.2.2.2.2.1.length c.1.length)&&
  (decide (∀j,j<b.2.2.1.length→kI b.1 b.2.1 b.2.2.1 j)&&(decide (∀j,j<b.2.2.2.1.length→jQ c b.2.1 b.2.2.2.1 j)&&(decide (∀j,j<b.2.2.2.2.2.1.length→qT c b.2.1 b.2.2.2.2.2.1 j)&&fi b.2.2.2.2.1)))))))))
structure oe(b:an):Prop where
 m:b.1.length≤100000
 a:b.2.1.length≤100000
 r:b.2.2.1.length≤100000
 s:b.2.2.2.1.length≤100000
 p:b.2.2.2.2.1.length≤100000
 o:b.2.2.2.2.2.1.length≤100000
 qr:eK b.2.2.1
 qs:eK b.2.2.2.1
theorem pS{x:Bool}{r:Option Bool}{y:Bool}(h:r=some y):cond (!x) (some false) r=some (x&&y):=by subst h;cases x<;>rfl
theorem BC(hN:4000000≤N){c:ae}{b:an}(w:oe b):F9 N c b=some (dg c b):=by
 unfold F9 F9.b dg
 rw[FA N ω,ar]
 refine pS ?_
 rw[acx N w.m w.a ω,ar]
 refine pS ?_
 rw[L9 N w.r ω,ar]
 refine pS ?_
 rw[YV N w.qr w.r ω,ar,BB,ar]
 have e0:aN (wN (il b.2.2.1)) 0=decide (dD (il b.2.2.1) 0):=by rw[kj,nQ];exact lq
 rw[e0]
 refine pS ?_
 rw[acz N w.qs w.s ω,ar]
 refine pS ?_
 rw[CN N w.o ω,ar]
 refine pS ?_
 rw[kj]
 refine pS ?_
 exact JE N ω c b w.m w.a w.r (Mc N ω c b w.a w.s (Md N ω c b w.a w.o w.p))
theorem pT(b:an)(hl:b.2.1.length≤100000)(hN:200000≤N)(id:Int):F48 N b id=some ((eV b.2.1 id).2||decide (dD id 0)):=by
 unfold F48
 rw[BA N hl hN,ar,kj]
 cases(eV b.2.1 id).2<;>rfl
theorem Sg{k:Int}{f:Bool}{z:Int}{r:Option Bool}:cond (aN k 5) (cond (!f) (some false) (cond (aN k 6) (cond (aN z 0) (some false) r) (cond (aN k 7) (cond (aN z 0) (some false) r) r))) (cond (aN k 6) (cond (aN z 0) (some false) r) (cond (aN k 7) (cond (aN z 0) (some false) r) r))=
  if(dD k 5→f=true)∧(dD k 6∨dD k 7→ ¬dD z 0)then r else some false:=by
 unfold dD
 rw[aM,aM,aM,aM,cond_not]
 by_cases h5:k=5
 ·have h6: ¬(k=6):=ω
  have h7: ¬(k=7):=ω
  cases f<;>simp[h5,h6,h7]
 ·by_cases h6:k=6
  ·by_cases hz:z=0<;>simp[h5,h6,hz]
  ·by_cases h7:k=7
   ·by_cases hz:z=0<;>simp[h5,h6,h7,hz]
   ·simp[h5,h6,h7]
theorem JF(hN:200000≤N)(c:ae)(b:an)(ha:b.2.1.length≤100000)(hl:b.2.2.2.2.2.1.length≤100000)(ho:dm b.2.2.2.2.2.1=true):
  gH.xI N N c b 0=some (decide (∀j,j<b.2.2.2.2.2.1.length→qT c b.2.1 b.2.2.2.2.2.1 j)&&true):=by
 refine iH (F:=λn i=>gH.xI N n c b i) (qT c b.2.1 b.2.2.2.2.2.1) (λn i r hi Rx hr=> ?_) (λn=> ?_) N ω
 ·unfold gH.xI gH.wF
  unfold dm at ho
  rw[bM,fU]at ho
  have h1:=(ho.1 i hi).1
  unfold qE zQ at h1
  have h2:decide (dD (b.2.2.2.2.2.1.getD i eC).2.1 0)=false:=bx (by unfold dD;omega)
  rw[aR ω,ak,aW ω ω,ak,aI,aw (x:=(i:Int)+1) ω ω,af,hr]
  simp only[pT N b ha hN,ar,ak]
  rw[h2,rL,Ho]
  rfl
 ·unfold gH.xI gH.wF
  rw[aP ω,av]
theorem EX(hN:200000≤N)(c:ae)(b:an)(hl:b.2.2.2.2.1.length≤100000){e:Bool}(he:gH.xI N N c b 0=some e):
  gH.FB N N c b 0=some (fi b.2.2.2.2.1&&e):=by
 refine iH (F:=λn i=>gH.FB N n c b i) (qS b.2.2.2.2.1) (λn i r hi Rx hr=> ?_) (λn=> ?_) N ω
 ·unfold gH.FB gH.EY
  rw[aR ω,ak,aW ω ω,ak,aI,aw (x:=(i:Int)+1) ω ω,af,hr,jz,ar,cond_not,fY]
  rfl
 ·unfold gH.FB gH.EY
  rw[aP ω,av];exact he
theorem JG(hN:200000≤N)(c:ae)(b:an)(ha:b.2.1.length≤100000)(hl:b.2.2.2.1.length≤100000){e:Bool}(he:gH.FB N N c b 0=some e):
  gH.oH N N c b 0=some (decide (∀j,j<b.2.2.2.1.length→jQ c b.2.1 b.2.2.2.1 j)&&e):=by
 refine iH (F:=λn i=>gH.oH N n c b i) (jQ c b.2.1 b.2.2.2.1) (λn i r hi Rx hr=> ?_) (λn=> ?_) N ω
 ·unfold gH.oH gH.nD
  rw[aR ω,ak,aW ω ω,ak,aI,aw (x:=(i:Int)+1) ω ω,af,hr]
  simp only[pT N b ha hN,ar,ak]
  rw[Ho]
  have YY:((((eV b.2.1 (b.2.2.2.1.getD i bc).1).2||decide (dD (b.2.2.2.1.getD i bc).1 0))=true)∧lI (b.2.2.2.1.getD i bc).2.1 c.1.length)↔jQ c b.2.1 b.2.2.2.1 i:=by
   unfold jQ
   rw[nS,fU]
   exact⟨λh=>⟨h.1.symm,h.2⟩,λh=>⟨h.1.symm,h.2⟩⟩
  by_cases hP:jQ c b.2.1 b.2.2.2.1 i
  ·rw[aj hP,aj (YY.2 hP)]
  ·rw[ah hP,ah (λh=>hP (YY.1 h))]
 ·unfold gH.oH gH.nD
  rw[aP ω,av];exact he
theorem Hp(hN:200000≤N)(c:ae)(b:an)(hm:b.1.length≤100000)(ha:b.2.1.length≤100000)(hl:b.2.2.1.length≤100000)(hk:eJ b.2.2.1=true){e:Bool}
  (he:gH.oH N N c b 0=some e):gH.l6 N N c b 0=some (decide (∀j,j<b.2.2.1.length→kI b.1 b.2.1 b.2.2.1 j)&&e):=by
 refine iH (F:=λn i=>gH.l6 N n c b i) (kI b.1 b.2.1 b.2.2.1) (λn i r hi Rx hr=> ?_) (λn=> ?_) N ω
 ·unfold gH.l6 gH.vu
  unfold eJ at hk
  rw[fu,fU]at hk
  have h1:=(hk i hi).1
  rw[aR ω,ak,aW ω ω,ak,aI,aw (x:=(i:Int)+1) ω ω,af,hr]
  simp only[pT N b ha hN,sf N hm hN,ar]
  rw[Sg]
  have YY:((dD (b.2.2.1.getD i bc).1 5→((eV b.2.1 (b.2.2.1.getD i bc).2.1).2||decide (dD (b.2.2.1.getD i bc).2.1 0))=true)∧(dD (b.2.2.1.getD i bc).1 6∨dD (b.2.2.1.getD i bc).1 7→ ¬dD (gJ b.1 (b.2.2.1.getD i bc).2.1) 0))↔kI b.1 b.2.1 b.2.2.1 i:=by
   unfold kI
   refine and_congr_left λ_=>imp_congr_right λh5=> ?_
   rw[nS,fU]
   refine⟨λh=>h.elim id λh0=> ?_,.inl⟩
   unfold c9 at h1;unfold dD at h5 h0;omega
  by_cases hP:kI b.1 b.2.1 b.2.2.1 i
  ·rw[aj hP,aj (YY.2 hP)]
  ·rw[ah hP,ah (λh=>hP (YY.1 h))]
 ·unfold gH.l6 gH.vu
  rw[aP ω,av];exact he
theorem o5{x:Bool}{r:Option Bool}{y:Bool}(h:x=true→r=some y):cond (!x) (some false) r=some (x&&y):=by
 cases x
 ·rfl
 ·exact h rfl
theorem Hr(hN:5000000≤N){c:ae}{b:an}(w:oe b):gH N c b=some (dg c b):=by
 unfold gH gH.b
 rw[oa N ω,ar]
 have e0:aN (wN (il b.2.2.1)) 0=decide (dD (il b.2.2.1) 0):=by rw[kj,nQ];exact lq
 refine(o5 λ_=> ?_).trans (fv some (?_:(eR c&&(sj b.1 b.2.1&&(eJ b.2.2.1&&(od b.2.2.2.1&&(dm b.2.2.2.2.2.1&&(decide (dD b.2.2.2.2.1.length c.1.length)&&(decide (dD (il b.2.2.1) 0)&&
  (decide (∀j,j<b.2.2.1.length→kI b.1 b.2.1 b.2.2.1 j)&&(decide (∀j,j<b.2.2.2.1.length→jQ c b.2.1 b.2.2.2.1 j)&&(fi b.2.2.2.2.1&&(decide (∀j,j<b.2.2.2.2.2.1.length→qT c b.2.1 b.2.2.2.2.2.1 j)&&true)))))))))))=dg c b))
 ·rw[xF N w.m w.a ω,ar]
  refine o5 λ_=> ?_
  rw[Hk N w.r ω,ar]
  refine o5 λhk=> ?_
  rw[YW N w.qs w.s ω,ar]
  refine o5 λ_=> ?_
  rw[iS N w.o ω,ar]
  refine o5 λho=> ?_
  rw[kj]
  refine o5 λ_=> ?_
  rw[V0 N w.qr w.r ω,ar,qO,ar,e0]
  refine o5 λ_=> ?_
  exact Hp N ω c b w.m w.a w.r hk (JG N ω c b w.a w.s (EX N ω c b w.p (JF N ω c b w.a w.o ho)))
 ·unfold dg
  generalize eR c=x1,sj b.1 b.2.1=x2,eJ b.2.2.1=x3,od b.2.2.2.1=x4,dm b.2.2.2.2.2.1=x5,decide (dD b.2.2.2.2.1.length c.1.length)=x6,decide (dD (il b.2.2.1) 0)=x7,decide (∀j,j<b.2.2.1.length→kI b.1 b.2.1 b.2.2.1 j)=x8,decide (∀j,j<b.2.2.2.1.length→jQ c b.2.1 b.2.2.2.1 j)=x9,fi b.2.2.2.2.1=bh,decide (∀j,j<b.2.2.2.2.2.1.length→qT c b.2.1 b.2.2.2.2.2.1 j)=a7
  rw[fu]
  cases x1<;>cases x2<;>cases x3<;>cases x4<;>cases x5<;>cases x6<;>cases x7<;>try rfl
  cases x8<;>cases x9<;>cases bh<;>cases a7<;>rfl
def qq(a q n:Int)(i:Nat)(p:Int):Prop:=0≤a∧a<n∧q≠0∧qQ q∧(0<i→p<a)
instance(a q n:Int)(i:Nat)(p:Int):Decidable (qq a q n i p):=by unfold qq;infer_instance
def og(c:ae)(l:aE)(i:Nat):Prop:=qq (l.getD i c8).1 (l.getD i c8).2.1 c.1.length i (l.getD (i-1) c8).1
instance(c:ae)(l:aE):DecidablePred (og c l):=λi=>by unfold og;infer_instance
def o6(c:ae)(l:aE):Bool:=decide (∀j,j<l.length→og c l j)&&eR c
theorem Ue(hN:200000≤N)(c:ae){l:aE}(hl:l.length≤100000):pU N c l=some (o6 c l):=by
 unfold pU pU.b
 refine iH (F:=λn i=>pU.l2 N n l c l (l.length:Int) i) (og c l) (λn i r hi hp hr=> ?_) (λn=> ?_) N ω
 ·unfold pU.l2 pU.fM
  rw[aR ω,ak,aW ω ω,ak,aI,aw (x:=(i:Int)+1) ω ω,af,hr,tv,ar,cond_not,fY]
  by_cases h0:0<i
  ·have e:W .i64 ((i:Int)-1)=((i-1:Nat):Int):=by rw[aw ω ω];omega
   dsimp only
   rw[aR (x:=0) (y:=(i:Int)) ω,ak,e,aI,aW ω ω,ak]
   simp only[cA,cB,aM]
   by_cases hP:og c l i
   ·rw[aj hP];unfold og qq at hP
    rw[ah ω,ah ω,ah hP.2.2.1,aj hP.2.2.2.1,ah ω]
   ·rw[ah hP];unfold og qq at hP
    have h2:=λh1 h2 h3 h4 h5=>hP ⟨h1,h2,h3,h4,h5⟩
    repeat' split
    all_goals first|rfl|(exfalso;exact h2 ω ω (by assumption) (by assumption) ω)
  ·rw[aP (x:=0) (y:=(i:Int)) ω,av]
   simp only[cA,cB,aM]
   by_cases hP:og c l i
   ·rw[aj hP];unfold og qq at hP
    rw[ah ω,ah ω,ah hP.2.2.1,aj hP.2.2.2.1]
   ·rw[ah hP];unfold og qq at hP
    have h2:=λh1 h2 h3 h4 h5=>hP ⟨h1,h2,h3,h4,h5⟩
    repeat' split
    all_goals first|rfl|(exfalso;exact h2 ω ω (by assumption) (by assumption) ω)
 ·unfold pU.l2 pU.fM
  rw[aP ω,av,FA N ω,ar]
end VM
end
