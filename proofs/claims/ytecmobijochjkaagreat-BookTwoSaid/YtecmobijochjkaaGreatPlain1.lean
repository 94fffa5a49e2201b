/- A part of the proof of BookTwo of layer 18: what the functions compute, in plain words. -/
import Derived.Test.YtecmobijochjkaaGreatPlain0
import Derived.Test.YtecmobijochjkaaGreatText
set_option linter.all false
open List renaming getD→γ
section
namespace VM
open Go VM.F
def cT(x:Int):Prop:= -170141183460469231731687303715884105728≤x∧x<170141183460469231731687303715884105728
instance(x:Int):Decidable (cT x):=by unfold cT;infer_instance
theorem vO(N:Nat){x:Int}(h0: -9223372036854775808≤x)(h1:x<9223372036854775808):OU N x=some (cN x):=by
 unfold OU
 rw[aP ω,av,vK h0 h1,pZ]
 congr 1
 exact wmk (by split<;>omega) rfl
theorem acT{ws:List Int}(i:Nat):(ws.map cN).getD i da=cN (ws.getD i 0):=by
 by_cases h:i<ws.length
 ·rw[aV,nT,bo h,aV,bo h];rfl
 ·rw[aV,ig (by rw[cD];omega),aV,ig ω];rfl
theorem Su{ws:List Int}(h: ∀x∈ws,cT x): -(170141183460469231731687303715884105728*(ws.length:Int))≤ws.sum∧ws.sum≤170141183460469231731687303715884105728*(ws.length:Int):=by
 induction ws with
 |nil=>simp
 |cons x ws ih=>
  have h0:=h x (bq ..)
  have ih:=ih (λy hy=>h y (aZ _ hy))
  unfold cT at h0
  rw[cE,aT];omega
theorem Zg{t w:Int}{lo hi top:Int}(hw:cT w)(w6:lo=t%18446744073709551616)(JZ:hi=t/18446744073709551616%18446744073709551616)(awe:top=t/340282366920938463463374607431768211456):
  (lo+w%18446744073709551616+0)%18446744073709551616=(t+w)%18446744073709551616∧
  (hi+(w/18446744073709551616)%18446744073709551616+(lo+w%18446744073709551616+0)/18446744073709551616)%18446744073709551616=(t+w)/18446744073709551616%18446744073709551616∧
  top+(if w/18446744073709551616<0 then-1 else 0)+(hi+(w/18446744073709551616)%18446744073709551616+(lo+w%18446744073709551616+0)/18446744073709551616)/18446744073709551616=(t+w)/340282366920938463463374607431768211456:=by
 unfold cT at hw
 subst w6 JZ awe
 refine⟨ω,ω,?_⟩
 split<;>omega
def OV(t:Int):bU×Bool:=if cT t then(cN t,true)else(da,false)
theorem W64(x:Int):W .u64 x=x%18446744073709551616:=pZ x
theorem Kd(N:Nat){ws:List Int}(h: ∀x∈ws,cT x)(hl:ws.length≤1000000): ∀(m n i:Nat) (t:Int),ws.length-i≤m→m<n→i≤ws.length→t=(ws.take i).sum→
  nI.l3 N n da (t/340282366920938463463374607431768211456) (t/18446744073709551616%18446744073709551616) (t%18446744073709551616) (ws.map cN) (ws.length:Int) (i:Int)=some (OV ws.sum)
 |m,0,i,t,_,hn,_,_=>ω
 |m,n+1,i,t,hm,hn,hi,ht=>by
  unfold nI.l3 nI.nw
  have f1:=Su (ws:=ws.take i) (λx hx=>h x (lH hx))
  rw[bZ,ik ω,←ht]at f1
  by_cases h1:i<ws.length
  ·have hw:cT (ws.getD i 0):=by
    rw[aV,bo h1];exact h _ (dO h1)
   have hs:=mH ws h1
   rw[←ht]at hs
   have st:=Zg (t:=t) (w:=ws.getD i 0) hw rfl rfl rfl
   have BI:=Kd N h hl (m-1) n (i+1) (t+ws.getD i 0) ω ω ω hs.symm
   rw[aR ω,ak,aW ω (by rw[cD];omega),ak,aI,acT]
   unfold cN
   dsimp only
   have hw':=hw
   unfold cT at hw'
   generalize ws.getD i 0=w at*
   have hq:0≤(t%18446744073709551616+w%18446744073709551616+0)/18446744073709551616∧(t%18446744073709551616+w%18446744073709551616+0)/18446744073709551616≤1:=ω
   rw[xS N ω ω ω ω,ar,W64,xS N ω ω hq.1 hq.2,ar,aP (x:=63) ω,av,st.1,st.2.1]
   rw[vK ω ω]
   have hc:0≤(t/18446744073709551616%18446744073709551616+w/18446744073709551616%18446744073709551616+(t%18446744073709551616+w%18446744073709551616+0)/18446744073709551616)/18446744073709551616∧(t/18446744073709551616%18446744073709551616+w/18446744073709551616%18446744073709551616+(t%18446744073709551616+w%18446744073709551616+0)/18446744073709551616)/18446744073709551616≤1:=ω
   have hif: -1≤(if w/18446744073709551616<0 then(-1:Int)else 0)∧(if w/18446744073709551616<0 then(-1:Int)else 0)≤0:=by split<;>omega
   rw[aw (x:=t/340282366920938463463374607431768211456+_) ω ω,aw (x:=(_:Int)/18446744073709551616) ω ω,st.2.2,aw ω ω,aw (x:=(i:Int)+1) ω ω]
   exact BI
  ·have e:(ws.take i).sum=ws.sum:=by rw[iy ω]
   rw[e]at ht
   rw[aP ω,av,aP (x:=63) ω,av,←ht]
   have hh: -9223372036854775808≤W .i64 (t/18446744073709551616%18446744073709551616)∧W .i64 (t/18446744073709551616%18446744073709551616)<9223372036854775808:=by rw[gF];split<;>omega
   have hwv:W .i64 (t/18446744073709551616%18446744073709551616)=if 9223372036854775808≤t/18446744073709551616%18446744073709551616 then t/18446744073709551616%18446744073709551616-18446744073709551616 else t/18446744073709551616%18446744073709551616:=by rw[gF];split<;>split<;>omega
   rw[vK hh.1 hh.2,hwv]
   unfold OV
   by_cases hI:cT t
   ·rw[aj hI]
    unfold cT at hI
    rw[dZ (by split<;>split<;>omega),bh,av]
    exact Us (by split<;>omega) rfl
   ·rw[ah hI]
    unfold cT at hI
    rw[eR (by split<;>split<;>omega),dp,ak]
theorem FE(N:Nat){ws:List Int}(h: ∀x∈ws,cT x)(hl:ws.length≤1000000)(hN:1000000<N):nI N (ws.map cN)=some (OV ws.sum):=by
 unfold nI nI.b
 rw[cD]
 exact Kd N h hl ws.length N 0 0 ω ω ω (by simp)
theorem vP(N:Nat)(a lo hi:Int):EY N a lo hi=some (decide (lo≤a∧a≤hi)):=by
 unfold EY
 rw[cz,m0]
 by_cases h:lo≤a
 ·rw[aj h];congr 1;rw[nU];omega
 ·rw[ah h,bu ω]
theorem Ke(N:Nat)(a lo hi:Int):Jv N a lo hi=some (decide (lo≤a∧a≤hi)):=vP N a lo hi
def oc(a b c d:Int):Prop:=(0≤a∧a≤3)∧(1≤b∧b≤1000000000000)∧(0≤c∧c≤1000000000)∧(0≤d∧d≤1000000000)
instance(a b c d:Int):Decidable (oc a b c d):=by unfold oc;infer_instance
def qD(l:aO)(i:Nat):Prop:=oc (l.getD i bb).1 (l.getD i bb).2.1 (l.getD i bb).2.2.1 (l.getD i bb).2.2.2.1
instance(l:aO):DecidablePred (qD l):=λi=>by unfold qD;infer_instance
def od(a b c d e f:Int):Prop:=0≤a∧(0≤b∧b≤4)∧(0≤c∧c≤1000000)∧(0≤d∧d≤1000000)∧(1≤e∧e≤4611686018427387904)∧0≤f
instance(a b c d e f:Int):Decidable (od a b c d e f):=by unfold od;infer_instance
def qE(c:ae):Prop:=od c.2.1 c.2.2.1 c.2.2.2.1 c.2.2.2.2.1 c.2.2.2.2.2.1 c.2.2.2.2.2.2.1
instance(c:ae):Decidable (qE c):=by unfold qE;infer_instance
def eJ(c:ae):Bool:=decide (1≤c.1.length∧c.1.length≤6)&&(decide (∀j,j<c.1.length→qD c.1 j)&&decide (qE c))
theorem FF(N:Nat)(hN:100≤N)(c:ae):Ct N c=some (eJ c):=by
 unfold Ct Ct.b eJ
 rw[vP,ar,cond_not,fU]
 by_cases hl:1≤c.1.length∧c.1.length≤6
 ·rw[aj ω,aU hl,kR]
  refine iI (F:=λn i=>Ct.l4 N n c c.1 (c.1.length:Int) i) (qD c.1) (λn i r hi hp hr=> ?_) (λn=> ?_) N ω
  ·unfold Ct.l4 Ct.dU
   rw[aR ω,ak,aW ω ω,ak,aI,aw ω ω,af]
   simp only[vP,ar,cond_not,fU]
   by_cases hP:qD c.1 i
   ·rw[aj hP];unfold qD oc at hP
    repeat' split
    all_goals first|rfl|exact hr|omega
   ·rw[ah hP];unfold qD oc at hP
    repeat' split
    all_goals first|rfl|exact hr|omega
  ·unfold Ct.l4 Ct.dU
   rw[aP ω,av]
   simp only[vP,ar,cond_not,fU,cz,m0]
   by_cases hP:qE c
   ·rw[aU hP];unfold qE od at hP
    repeat' split
    all_goals first|rfl|omega|(rw[aU ω])
   ·rw[bu hP];unfold qE od at hP
    repeat' split
    all_goals first|rfl|omega|(rw[bu ω])
 ·rw[ah ω,bu hl,uG]
theorem oe(N:Nat)(hN:100≤N)(c:ae):m7 N c=some (eJ c):=by
 unfold m7 m7.b eJ
 rw[cy,cy]
 by_cases hl:1≤c.1.length∧c.1.length≤6
 ·rw[ah ω,ah ω,aU hl,kR]
  refine iI (F:=λn i=>m7.l4 N n c i) (qD c.1) (λn i r hi hp hr=> ?_) (λn=> ?_) N ω
  ·unfold m7.l4 m7.dU
   rw[aR ω,ak,aW ω ω,ak,aI,aw ω ω,af]
   simp only[Ke,ar,cond_not,fU]
   by_cases hP:qD c.1 i
   ·rw[aj hP];unfold qD oc at hP
    repeat' split
    all_goals first|rfl|exact hr|omega
   ·rw[ah hP];unfold qD oc at hP
    repeat' split
    all_goals first|rfl|exact hr|omega
  ·unfold m7.l4 m7.dU
   rw[aP ω,av]
   simp only[Ke,ar,cond_not,fU,cz,m0]
   by_cases hP:qE c
   ·rw[aU hP];unfold qE od at hP
    repeat' split
    all_goals first|rfl|omega|(rw[aU ω])
   ·rw[bu hP];unfold qE od at hP
    repeat' split
    all_goals first|rfl|omega|(rw[bu ω])
 ·rw[bu hl,uG]
  by_cases h:(c.1.length:Int)<1
  ·rw[aj h]
  ·rw[ah h,aj ω]
def jw(a b:Int)(i:Nat)(c:Int):Prop:=1≤a∧a≤12∧1≤b∧b≤4∧(0<i→c<a)
instance(a b:Int)(i:Nat)(c:Int):Decidable (jw a b i c):=by unfold jw;infer_instance
def gr(m:aE)(i:Nat):Prop:=jw (m.getD i da).1 (m.getD i da).2.1 i (m.getD (i-1) da).1
instance(m:aE):DecidablePred (gr m):=λi=>by unfold gr;infer_instance
def dN(m:aE):Bool:=decide (∀j,j<m.length→gr m j)&&true
theorem Hi(N:Nat){m:aE}(hl:m.length≤100000)(hN:200000≤N):p4 N m=some (dN m):=by
 unfold p4 p4.b
 refine iI (F:=λn i=>p4.l2 N n m m (m.length:Int) i) (gr m) (λn i r hi hp hr=> ?_) (λn=> ?_) N ω
 ·unfold p4.l2 p4.fG
  rw[aR ω,ak,aW ω ω,ak,aI,aw (x:=(i:Int)+1) ω ω,af]
  by_cases h0:0<i
  ·have e:W .i64 ((i:Int)-1)=((i-1:Nat):Int):=by rw[aw ω ω];omega
   dsimp only
   rw[aR (x:=0) ω,ak,e,aI,aW ω ω,ak]
   simp only[cy,cz]
   by_cases hP:gr m i
   ·rw[aj hP];unfold gr jw at hP
    repeat' split
    all_goals first|rfl|exact hr|omega
   ·rw[ah hP];unfold gr jw at hP
    repeat' split
    all_goals first|rfl|exact hr|omega
  ·rw[aP (x:=0) ω,av]
   simp only[cy,cz]
   by_cases hP:gr m i
   ·rw[aj hP];unfold gr jw at hP
    repeat' split
    all_goals first|rfl|exact hr|omega
   ·rw[ah hP];unfold gr jw at hP
    repeat' split
    all_goals first|rfl|exact hr|omega
 ·unfold p4.l2 p4.fG
  rw[aP ω,av]
theorem nA(N:Nat){m:aE}(hl:m.length≤100000)(hN:200000≤N):Cu N m=some (dN m):=by
 unfold Cu Cu.b
 refine iI (F:=λn i=>Cu.l2 N n m i) (gr m) (λn i r hi hp hr=> ?_) (λn=> ?_) N ω
 ·unfold Cu.l2 Cu.fG
  rw[aR ω,ak,aW ω ω,ak,aI,aw (x:=(i:Int)+1) ω ω,af]
  by_cases h0:0<i
  ·have e:W .i64 ((i:Int)-1)=((i-1:Nat):Int):=by rw[aw ω ω];omega
   dsimp only
   rw[aR (x:=0) ω,e,aI,aW (i:=((i-1:Nat):Int)) ω ω]
   simp only[cy,cz,ak]
   by_cases hP:gr m i
   ·rw[aj hP];unfold gr jw at hP
    repeat' split
    all_goals first|rfl|exact hr|omega
   ·rw[ah hP];unfold gr jw at hP
    repeat' split
    all_goals first|rfl|exact hr|omega
  ·rw[aP (x:=0) ω]
   simp only[cy,cz,ak,av]
   by_cases hP:gr m i
   ·rw[aj hP];unfold gr jw at hP
    repeat' split
    all_goals first|rfl|exact hr|omega
   ·rw[ah hP];unfold gr jw at hP
    repeat' split
    all_goals first|rfl|exact hr|omega
 ·unfold Cu.l2 Cu.fG
  rw[aP ω,av]
def db(k n:Int):Prop:=(1≤k∧k≤4∧n=0)∨(k=5∧1≤n∧n≤24)∨(6≤k∧k≤7∧1≤n∧n≤12)
instance(k n:Int):Decidable (db k n):=by unfold db;infer_instance
theorem Sv(N:Nat)(k n:Int):Sw N k n=some (decide (db k n)):=by
 unfold Sw
 simp only[aL,cz]
 simp only[m0,ko]
 by_cases hP:db k n
 ·rw[aU hP];unfold db at hP
  repeat' split
  all_goals first|rfl|omega|(rw[aU ω])
 ·rw[bu hP];unfold db at hP
  repeat' split
  all_goals first|rfl|omega|(rw[bu ω])
theorem acU(N:Nat)(k n:Int):Sx N k n=some (decide (db k n)):=by
 have:=Sv N k n
 unfold Sw at this
 unfold Sx
 exact this
def lX(a b c d:Int):Prop:=a<c∨(a=c∧b<d)
instance(a b c d:Int):Decidable (lX a b c d):=by unfold lX;infer_instance
def CP(k n a b:Int):Int:=if k=a then n-b else k-a
def Jw(x:Int):Prop:= -1000000≤x∧x≤1000000
theorem Hj(N:Nat){k n:Int}{r:de}(h1:Jw k)(h2:Jw n)(h3:Jw r.1)(h4:Jw r.2.1):Sy N k n r=some (CP k n r.1 r.2.1):=by
 unfold Sy CP
 unfold Jw at*
 rw[cond_not,aL]
 split
 ·rw[aw ω ω]
 ·rw[aw ω ω]
theorem Kf(N:Nat){k n:Int}{r:de}(h1:Jw k)(h2:Jw n)(h3:Jw r.1)(h4:Jw r.2.1):Wj N k n r=some (CP k n r.1 r.2.1):=Hj N h1 h2 h3 h4
def m8(a b c:Int)(i:Nat)(d e:Int):Prop:=db a b∧c≠0∧(0<i→lX d e a b)
instance(a b c:Int)(i:Nat)(d e:Int):Decidable (m8 a b c i d e):=by unfold m8;infer_instance
def mI(l:au)(i:Nat):Prop:=m8 (l.getD i ba).1 (l.getD i ba).2.1 (l.getD i ba).2.2.1 i (l.getD (i-1) ba).1 (l.getD (i-1) ba).2.1
instance(l:au):DecidablePred (mI l):=λi=>by unfold mI;infer_instance
def eK(l:au):Bool:=decide (∀j,j<l.length→mI l j)&&true
theorem L1(N:Nat){l:au}(hl:l.length≤100000)(hN:200000≤N):CQ N l=some (eK l):=by
 unfold CQ CQ.b
 refine iI (F:=λn i=>CQ.l2 N n l l (l.length:Int) i) (mI l) (λn i r hi hp hr=> ?_) (λn=> ?_) N ω
 ·unfold CQ.l2 CQ.fG
  rw[aR ω,ak,aW ω ω,ak,aI,aw (x:=(i:Int)+1) ω ω,af,Sv,ar,cond_not,fU]
  by_cases hK:db (l.getD i ba).1 (l.getD i ba).2.1
  ·rw[aj hK]
   by_cases h0:0<i
   ·have hq:=hp (i-1) ω
    have e:W .i64 ((i:Int)-1)=((i-1:Nat):Int):=by rw[aw ω ω];omega
    dsimp only
    rw[aR (x:=0) ω,ak,e,aI,aW ω ω,ak]
    unfold mI m8 at hq
    have hq:=hq.1
    rw[Hj N (by unfold db at hK;unfold Jw;omega) (by unfold db at hK;unfold Jw;omega) (by unfold db at hq;unfold Jw;omega) (by unfold db at hq;unfold Jw;omega),ar,aL,cz]
    by_cases hP:mI l i
    ·rw[aj hP];unfold mI m8 lX at hP;unfold CP
     have Sz:=hP.2
     repeat' split
     all_goals first|rfl|exact hr|omega
    ·rw[ah hP];unfold mI m8 lX at hP;unfold CP
     have Sz:=λh=>hP ⟨hK,h⟩
     repeat' split
     all_goals first|rfl|exact hr|omega|(exfalso;exact Sz ω)
   ·rw[aP (x:=0) ω,av,aL]
    by_cases hP:mI l i
    ·rw[aj hP];unfold mI m8 at hP
     rw[ah hP.2.1];exact hr
    ·rw[ah hP];unfold mI m8 at hP
     have Sz:=λh=>hP ⟨hK,h,λh=>absurd h h0⟩
     split
     ·rfl
     ·exact absurd (by assumption) Sz
  ·rw[ah hK,ah (λh=>hK (by unfold mI m8 at h;exact h.1))]
 ·unfold CQ.l2 CQ.fG
  rw[aP ω,av]
theorem Hk(N:Nat){l:au}(hl:l.length≤100000)(hN:200000≤N):CR N l=some (eK l):=by
 unfold CR CR.b
 refine iI (F:=λn i=>CR.l2 N n l i) (mI l) (λn i r hi hp hr=> ?_) (λn=> ?_) N ω
 ·unfold CR.l2 CR.fG
  rw[aR ω,ak,aW ω ω,ak,aI,aw (x:=(i:Int)+1) ω ω,af,acU,ar,cond_not,fU]
  by_cases hK:db (l.getD i ba).1 (l.getD i ba).2.1
  ·rw[aj hK]
   by_cases h0:0<i
   ·have e:W .i64 ((i:Int)-1)=((i-1:Nat):Int):=by rw[aw ω ω];omega
    dsimp only
    rw[aR (x:=0) ω,e,aI,aW (i:=((i-1:Nat):Int)) ω ω]
    simp only[cy,cz,aL,ak]
    by_cases hP:mI l i
    ·rw[aj hP];unfold mI m8 lX at hP
     have Sz:=hP.2
     repeat' split
     all_goals first|rfl|exact hr|omega
    ·rw[ah hP];unfold mI m8 lX at hP
     have Sz:=λh=>hP ⟨hK,h⟩
     repeat' split
     all_goals first|rfl|exact hr|omega|(exfalso;exact Sz ω)
   ·rw[aP (x:=0) ω]
    simp only[cy,cz,aL,ak,av]
    by_cases hP:mI l i
    ·rw[aj hP];unfold mI m8 at hP
     rw[ah hP.2.1];exact hr
    ·rw[ah hP];unfold mI m8 at hP
     have Sz:=λh=>hP ⟨hK,h,λh=>absurd h h0⟩
     split
     ·rfl
     ·exact absurd (by assumption) Sz
  ·rw[ah hK,ah (λh=>hK (by unfold mI m8 at h;exact h.1))];rfl
 ·unfold CR.l2 CR.fG
  rw[aP ω,av]
def bY(a b:Int):Prop:=0≤a∧a≤24∧0≤b∧b<6
instance(a b:Int):Decidable (bY a b):=by unfold bY;infer_instance
theorem Ut(N:Nat)(a b:Int):Zh N a b=some (decide (bY a b)):=by
 unfold Zh
 simp only[cz]
 simp only[qw]
 by_cases hP:bY a b
 ·rw[aU hP];unfold bY at hP
  repeat' split
  all_goals first|rfl|omega|(rw[aU ω])
 ·rw[bu hP];unfold bY at hP
  repeat' split
  all_goals first|rfl|omega|(rw[bu ω])
def q7(q:Int):Prop:=q≠ -9223372036854775808
instance(q:Int):Decidable (q7 q):=by unfold q7;infer_instance
theorem tN(N:Nat)(q:Int):SA N q=some (decide (q7 q)):=by
 unfold SA q7
 rw[ko]
 by_cases h:q= -9223372036854775808<;>simp[h]
def m9(a b c:Int)(i:Nat)(d e:Int):Prop:=bY a b∧c≠0∧q7 c∧(0<i→lX d e a b)
instance(a b c:Int)(i:Nat)(d e:Int):Decidable (m9 a b c i d e):=by unfold m9;infer_instance
def mJ(l:au)(i:Nat):Prop:=m9 (l.getD i ba).1 (l.getD i ba).2.1 (l.getD i ba).2.2.1 i (l.getD (i-1) ba).1 (l.getD (i-1) ba).2.1
instance(l:au):DecidablePred (mJ l):=λi=>by unfold mJ;infer_instance
def c6(l:au):Bool:=decide (∀j,j<l.length→mJ l j)&&true
theorem xY(N:Nat){l:au}(hl:l.length≤100000)(hN:200000≤N):og N l=some (c6 l):=by
 unfold og og.b
 refine iI (F:=λn i=>og.l2 N n l l (l.length:Int) i) (mJ l) (λn i r hi hp hr=> ?_) (λn=> ?_) N ω
 ·unfold og.l2 og.fG
  rw[aR ω,ak,aW ω ω,ak,aI,aw (x:=(i:Int)+1) ω ω,af,Ut,ar,cond_not,fU,tN,ar,cond_not,fU]
  by_cases hK:bY (l.getD i ba).1 (l.getD i ba).2.1
  ·rw[aj hK]
   by_cases h0:0<i
   ·have hq:=hp (i-1) ω
    have e:W .i64 ((i:Int)-1)=((i-1:Nat):Int):=by rw[aw ω ω];omega
    dsimp only
    rw[aR (x:=0) ω,ak,e,aI,aW ω ω,ak]
    unfold mJ m9 at hq
    have hq:=hq.1
    rw[Kf N (by unfold bY at hK;unfold Jw;omega) (by unfold bY at hK;unfold Jw;omega) (by unfold bY at hq;unfold Jw;omega) (by unfold bY at hq;unfold Jw;omega),ar,aL,cz]
    by_cases hP:mJ l i
    ·rw[aj hP];unfold mJ m9 lX at hP;unfold CP
     obtain⟨_,hP1,Sz,hP3⟩:=hP
     rw[aj Sz]
     repeat' split
     all_goals first|rfl|exact hr|omega
    ·rw[ah hP];unfold mJ m9 lX at hP;unfold CP
     have Sz:=λh1 h2 h3=>hP ⟨hK,h1,h2,h3⟩
     repeat' split
     all_goals first|rfl|exact hr|(exfalso;exact Sz (by assumption) (by assumption) ω)|omega
   ·rw[aP (x:=0) ω,av,aL]
    by_cases hP:mJ l i
    ·rw[aj hP];unfold mJ m9 at hP
     rw[ah hP.2.1,aj hP.2.2.1];exact hr
    ·rw[ah hP];unfold mJ m9 at hP
     have Sz:=λh1 h2=>hP ⟨hK,h1,h2,λh=>absurd h h0⟩
     split
     ·rfl
     ·split
      ·exact(Sz (by assumption) (by assumption)).elim
      ·rfl
  ·rw[ah hK,ah (λh=>hK (by unfold mJ m9 at h;exact h.1))]
 ·unfold og.l2 og.fG
  rw[aP ω,av]
theorem lR(N:Nat){l:au}(hl:l.length≤100000)(hN:200000≤N):Av N l=some (c6 l):=by
 unfold Av Av.b
 refine iI (F:=λn i=>Av.l2 N n l i) (mJ l) (λn i r hi hp hr=> ?_) (λn=> ?_) N ω
 ·unfold Av.l2 Av.fG
  rw[aR ω,ak,aW ω ω,ak,aI,aw (x:=(i:Int)+1) ω ω,af]
  by_cases h0:0<i
  ·have e:W .i64 ((i:Int)-1)=((i-1:Nat):Int):=by rw[aw ω ω];omega
   dsimp only
   rw[aR (x:=0) (y:=(i:Int)) ω,e,aI,aW (i:=((i-1:Nat):Int)) ω ω]
   simp only[cy,cz,aL,ak]
   by_cases hP:mJ l i
   ·rw[aj hP];unfold mJ m9 lX q7 bY at hP
    repeat' split
    all_goals first|rfl|exact hr|omega
   ·rw[ah hP];unfold mJ m9 lX q7 bY at hP
    repeat' split
    all_goals first|rfl|exact hr|omega|(exfalso;exact hP ω)
  ·rw[aP (x:=0) (y:=(i:Int)) ω]
   simp only[cy,cz,aL,ak,av]
   by_cases hP:mJ l i
   ·rw[aj hP];unfold mJ m9 lX q7 bY at hP
    repeat' split
    all_goals first|rfl|exact hr|omega
   ·rw[ah hP];unfold mJ m9 lX q7 bY at hP
    repeat' split
    all_goals first|rfl|exact hr|omega|(exfalso;exact hP ω)
 ·unfold Av.l2 Av.fG
  rw[aP ω,av]
theorem ia(a b:Int)(y:Bool):cond (du a b) (some y) (some false)=some (decide (a≤b)&&y):=by
 rw[cz];by_cases h:a≤b<;>simp[h]
theorem Hl(a b:Int)(y:Bool):cond (aX a b) (some y) (some false)=some (decide (a<b)&&y):=by
 rw[cy];by_cases h:a<b<;>simp[h]
theorem Hm(a b:Int)(y:Bool):cond (aN a b) (some y) (some false)=some (decide (a=b)&&y):=by
 rw[aL];by_cases h:a=b<;>simp[h]
theorem CS(a b:Int)(y z:Bool):cond (aN a b) (some y) (some z)=some ((decide (a=b)&&y)||(!decide (a=b)&&z)):=by
 rw[aL];by_cases h:a=b<;>simp[h]
def Ai(a b c d e f:Int):Prop:=(1≤a∧a≤1099511627776)∧(1≤b∧b≤24)∧(0≤c∧c<6)∧(d=1∨d=2)∧(1≤e∧e≤1000000000)∧(1≤f∧f≤1000000000000)
instance(a b c d e f:Int):Decidable (Ai a b c d e f):=by unfold Ai;infer_instance
def qT(o:fV):Prop:=Ai o.1 o.2.1 o.2.2.1 o.2.2.2.1 o.2.2.2.2.1 o.2.2.2.2.2.1
instance(o:fV):Decidable (qT o):=by unfold qT;infer_instance
theorem akV(N:Nat)(o:fV):acV N o=some (decide (qT o)):=by
 unfold acV
 rw[m0 o.2.2.2.2.2.1]
 rw[ia,ia,ia,Hm,CS,Hl,ia,ia,ia,ia,ia]
 congr 1
 rw[pR,fP]
 unfold qT Ai
 simp only[bM,nV,rQ,xf,FY]
 omega
theorem CT(N:Nat)(p:Int):F81 N p=some (decide (1≤p∧p≤1000000000000)):=by
 unfold F81
 rw[m0 p,ia];congr 1
 rw[pR];simp only[bM,xf]
theorem jx(N:Nat)(p:Int):EZ N p=some (decide (1≤p∧p≤1000000000000)):=CT N p
theorem BJ(N:Nat)(o:fV):SC N o=some (decide (qT o)):=by
 unfold SC
 rw[jx,ar]
 repeat (first|rw[ia]|rw[Hl]|rw[Hm]|rw[CS])
 congr 1
 rw[pR,fP]
 unfold qT Ai
 simp only[bM,nV,rQ,xf,FY]
 omega
def uX(i:Nat)(a b:Int):Prop:=0<i→a<b
instance(i:Nat)(a b:Int):Decidable (uX i a b):=by unfold uX;infer_instance
def tO(l:aY)(i:Nat):Prop:=qT (l.getD i eF)∧uX i (l.getD (i-1) eF).1 (l.getD i eF).1
instance(l:aY):DecidablePred (tO l):=λi=>by unfold tO;infer_instance
def dn(l:aY):Bool:=decide (∀j,j<l.length→tO l j)&&decide (l.length≤32)
theorem CU(N:Nat){l:aY}(hl:l.length≤100000)(hN:200000≤N):CV N l=some (dn l):=by
 unfold CV CV.b
 refine iI (F:=λn i=>CV.l2 N n l l (l.length:Int) i) (tO l) (λn i r hi hp hr=> ?_) (λn=> ?_) N ω
 ·unfold CV.l2 CV.fG
  rw[aR ω,ak,aW ω ω,ak,aI,aw (x:=(i:Int)+1) ω ω,af,akV,ar,cond_not,fU]
  by_cases hK:qT (l.getD i eF)
  ·rw[aj hK]
   by_cases h0:0<i
   ·have e:W .i64 ((i:Int)-1)=((i-1:Nat):Int):=by rw[aw ω ω];omega
    dsimp only
    rw[aR (x:=0) ω,ak,e,aI,aW ω ω,ak,cz]
    by_cases hP:tO l i
    ·rw[aj hP,ah (by have h2:=hP.2;unfold uX at h2;omega)];exact hr
    ·rw[ah hP,aj]
     have h2: ¬uX i (l.getD (i-1) eF).1 (l.getD i eF).1:=λh=>hP ⟨hK,h⟩
     unfold uX at h2
     omega
   ·rw[aP (x:=0) ω,av,aj ⟨hK,λh=>absurd h h0⟩];exact hr
  ·rw[ah hK,ah (λh=>hK h.1)]
 ·unfold CV.l2 CV.fG
  rw[aP ω,av,m0]
  congr 1;rw[nU];omega
theorem iU(N:Nat){l:aY}(hl:l.length≤100000)(hN:200000≤N):nJ N l=some (dn l):=by
 unfold nJ nJ.b
 by_cases h32:32<l.length
 ·rw[aR ω,ak];unfold dn
  rw[bu (p:=l.length≤32) ω,Ge]
 rw[aP ω,av]
 have:=iI (F:=λn i=>nJ.l4 N n l i) (e:=true) (tO l) (λn i r hi hp hr=> ?_) (λn=> ?_) N (show l.length<N by omega)
 ·refine Eq.trans this ?_
  unfold dn
  rw[aU (p:=l.length≤32) ω]
 ·unfold nJ.l4 nJ.dU
  rw[aR ω,ak,aW ω ω,ak,aI,aw (x:=(i:Int)+1) ω ω,af,BJ,ar,cond_not,fU]
  by_cases hK:qT (l.getD i eF)
  ·rw[aj hK]
   by_cases h0:0<i
   ·have e:W .i64 ((i:Int)-1)=((i-1:Nat):Int):=by rw[aw ω ω];omega
    dsimp only
    rw[aR (x:=0) ω,ak,ak,e,aI,aW ω ω,ak,cz]
    by_cases hP:tO l i
    ·rw[aj hP,ah (by have h2:=hP.2;unfold uX at h2;omega)];exact hr
    ·rw[ah hP,aj]
     have h2: ¬uX i (l.getD (i-1) eF).1 (l.getD i eF).1:=λh=>hP ⟨hK,h⟩
     unfold uX at h2
     omega
   ·rw[aP (x:=0) ω,av,aj ⟨hK,λh=>absurd h h0⟩];exact hr
  ·rw[ah hK,ah (λh=>hK h.1)]
 ·unfold nJ.l4 nJ.dU
  rw[aP ω,av]
def kG(id:Int):aE→Int
 |[]=>0
 |x::t=>if x.1=id then x.2.1 else kG id t
def uY(id:Int):aO→cG×Bool
 |[]=>(bb,false)
 |x::t=>if x.1=id then(x,true)else uY id t
def oh(id:Int):aO→Int
 |[]=>0
 |x::t=>if x.2.1=id then(if x.2.2.1=1 then x.1 else oh id t)else oh id t
theorem vQ(id:Int)(x:BK)(t:aE):kG id (x::t)=if x.1=id then x.2.1 else kG id t:=rfl
theorem pa(id:Int)(x:cG)(t:aO):uY id (x::t)=if x.1=id then(x,true)else uY id t:=rfl
theorem tP(id:Int)(x:cG)(t:aO):oh id (x::t)=if x.2.1=id then(if x.2.2.1=1 then x.1 else oh id t)else oh id t:=rfl
theorem OW(N:Nat){m:aE}(hl:m.length≤100000)(hN:200000≤N)(id:Int):BL.l4 N N id m (m.length:Int) 0=some (kG id m):=by
 refine Eb m da (λn i=>BL.l4 N n id m (m.length:Int) i) (λl=>some (kG id l)) (λn i hi hr=> ?_) (λn=> ?_) N ω
 ·unfold BL.l4 BL.dU
  rw[aR ω,ak,aW ω ω,ak,aI,aw (x:=(i:Int)+1) ω ω,af,hr,aL]
  rw[vQ]
  split<;>rfl
 ·unfold BL.l4 BL.dU
  rw[aP ω,av];rfl
theorem iV(N:Nat){m:aE}(hl:m.length≤100000)(hN:200000≤N)(id:Int):Aw N m id=some (kG id m):=by
 unfold Aw Aw.b
 refine Eb m da (λn i=>Aw.l2 N n m id i) (λl=>some (kG id l)) (λn i hi hr=> ?_) (λn=> ?_) N ω
 ·unfold Aw.l2 Aw.fG
  rw[aR ω,ak,aW ω ω,ak,ak,aI,aw (x:=(i:Int)+1) ω ω,af,hr,aL]
  rw[vQ]
  split<;>rfl
 ·unfold Aw.l2 Aw.fG
  rw[aP ω,av];rfl
def gJ(m:aE)(id:Int):Int:=if dN m then kG id m else 0
theorem CW(N:Nat){m:aE}(hl:m.length≤100000)(hN:200000≤N)(id:Int):BL N m id=some (gJ m id):=by
 unfold BL BL.b gJ
 rw[Hi N hl hN,ar,cond_not,OW N hl hN]
 cases dN m<;>rfl
theorem sx(N:Nat){m:aE}(hl:m.length≤100000)(hN:200000≤N)(id:Int):Uu N m id=some (gJ m id):=by
 unfold Uu gJ
 rw[nA N hl hN,ar,cond_not,iV N hl hN]
 cases dN m<;>rfl
theorem Wk(N:Nat){m:aO}(hl:m.length≤100000)(hN:200000≤N)(id:Int):p5.l4 N N id bb m (m.length:Int) 0=some (uY id m):=by
 refine Eb m bb (λn i=>p5.l4 N n id bb m (m.length:Int) i) (λl=>some (uY id l)) (λn i hi hr=> ?_) (λn=> ?_) N ω
 ·unfold p5.l4 p5.dU
  rw[aR ω,ak,aW ω ω,ak,aI,aw (x:=(i:Int)+1) ω ω,af,hr,aL]
  rw[pa]
  split<;>rfl
 ·unfold p5.l4 p5.dU
  rw[aP ω,av];rfl
theorem sy(N:Nat){m:aO}(hl:m.length≤100000)(hN:200000≤N)(id:Int):oQ N m id=some (uY id m):=by
 unfold oQ oQ.b
 refine Eb m bb (λn i=>oQ.l2 N n m id bb i) (λl=>some (uY id l)) (λn i hi hr=> ?_) (λn=> ?_) N ω
 ·unfold oQ.l2 oQ.fG
  rw[aR ω,ak,aW ω ω,ak,ak,aI,aw (x:=(i:Int)+1) ω ω,af,hr,aL]
  rw[pa]
  split<;>rfl
 ·unfold oQ.l2 oQ.fG
  rw[aP ω,av];rfl
theorem OX(N:Nat){m:aO}(hl:m.length≤100000)(hN:200000≤N)(id:Int):nc.l4 N N m id 0=some (oh id m):=by
 refine Eb m bb (λn i=>nc.l4 N n m id i) (λl=>some (oh id l)) (λn i hi hr=> ?_) (λn=> ?_) N ω
 ·unfold nc.l4 nc.dU
  rw[aR ω,ak,aW ω ω]
  simp only[ak]
  rw[aI,aw (x:=(i:Int)+1) ω ω,af,hr,aL,aL]
  rw[tP]
  split
  ·split<;>rfl
  ·rfl
 ·unfold nc.l4 nc.dU
  rw[aP ω,av];rfl
def dG(a b:Int):Prop:=a=b
instance(a b:Int):Decidable (dG a b):=by unfold dG;infer_instance
def zH(l:aO)(k:Nat)(m:Int):Prop:=dG (l.getD k bb).2.2.1 1∧dG (l.getD k bb).2.1 m
instance(l:aO)(k:Nat)(m:Int):Decidable (zH l k m):=by unfold zH;infer_instance
def mY(l:aO)(i:Nat)(m:Int):Bool:=(List.range i).any λk=>decide (zH l k m)
theorem xZ{l:aO}{i:Nat}{m:Int}:mY l i m=true↔ ∃k,k<i∧zH l k m:=by
 unfold mY
 rw[AQ]
 simp only[rV,fP]
theorem vR(l:aO)(i:Nat)(m:Int):mY l (i+1) m=(mY l i m||decide (zH l i m)):=by
 unfold mY
 rw[Gb,List.any_append];simp
def nf(a b c d:Int):Prop:=(1≤a∧a≤24)∧(1≤b∧b≤12)∧(c=1∨c=2)∧(0≤d∧d≤1000000000000)
instance(a b c d:Int):Decidable (nf a b c d):=by unfold nf;infer_instance
def lj(l:aO)(i:Nat):Prop:= ¬(dG (l.getD i bb).2.2.1 1∧mY l i (l.getD i bb).2.1=true)
instance(l:aO)(i:Nat):Decidable (lj l i):=by unfold lj;infer_instance
def BM(l:aO)(i:Nat):Prop:=nf (l.getD i bb).1 (l.getD i bb).2.1 (l.getD i bb).2.2.1 (l.getD i bb).2.2.2.1∧uX i (l.getD (i-1) bb).1 (l.getD i bb).1∧lj l i
instance(l:aO):DecidablePred (BM l):=λi=>by unfold BM;infer_instance
def gP(l:aO):Bool:=decide (∀j,j<l.length→BM l j)&&true
def fW(l:aO)(i:Nat):List Bool:=(List.range 13).map λ(m:Nat)=>mY l i (m:Int)
theorem Wl{l:aO}{i:Nat}{b:Int}(h0:0≤b)(h1:b<13):(fW l i).getD b.toNat false=mY l i b:=by
 unfold fW
 rw[aV,nT,List.getElem?_range ω]
 show mY l i ((b.toNat:Nat):Int)=_
 rw[xd h0]
theorem OY{l:aO}{i:Nat}(h: ¬dG (l.getD i bb).2.2.1 1):fW l (i+1)=fW l i:=by
 unfold fW
 refine pP λm _=> ?_
 rw[vR,bu (λh'=>h h'.1),rX]
theorem SD{l:aO}{i:Nat}(h:dG (l.getD i bb).2.2.1 1)(h0:(0:Int)≤(l.getD i bb).2.1):(fW l i).set ((l.getD i bb).2.1:Int).toNat true=fW l (i+1):=by
 refine List.ext_getElem (by unfold fW;simp) λk h1 h2=> ?_
 unfold fW at*
 rw[List.getElem_set]
 simp only[List.getElem_map,F6]
 rw[vR]
 by_cases hk:((l.getD i bb).2.1:Int).toNat=k
 ·rw[aj hk,aU (show zH l i (k:Int)from⟨h,by unfold dG;omega⟩),Bool.or_true]
 ·rw[ah hk,bu (λh':zH l i (k:Int)=>hk (by have:=h'.2;unfold dG at this;omega)),rX]
theorem L4(N:Nat){l:aO}(hl:l.length≤100000)(hN:200000≤N):ng N l=some (gP l):=by
 unfold ng ng.b
 have h0:(List.replicate 13 false:List Bool)=fW l 0:=by unfold fW mY;rfl
 rw[h0]
 have:=iI (F:=λn i=>ng.l3 N n l (fW l i.toNat) l (l.length:Int) i) (e:=true) (BM l) (λn i r hi hp hr=> ?_) (λn=> ?_) N (show l.length<N by omega)
 ·exact this
 ·simp only[aI]at hr ⊢
  unfold ng.l3 ng.nw
  rw[aR ω,ak,aW ω ω,ak]
  simp only[aI]
  rw[aw (x:=(i:Int)+1) ω ω,af]
  by_cases hF:nf (l.getD i bb).1 (l.getD i bb).2.1 (l.getD i bb).2.2.1 (l.getD i bb).2.2.2.1
  ·have Uv:=hF
   unfold nf at Uv
   have hT:cond (aN (l.getD i bb).2.2.1 1) (cond (bc (l.getD i bb).2.1 13) (cond (γ (fW l i) (l.getD i bb).2.1.toNat false) (some false) (cond (bc (l.getD i bb).2.1 13) (ng.l3 N n l (List.set (fW l i) (l.getD i bb).2.1.toNat true) l (l.length:Int) ((i+1:Nat):Int)) none)) none) (ng.l3 N n l (fW l i) l (l.length:Int) ((i+1:Nat):Int))=if lj l i then r else some false:=by
    rw[aL]
    by_cases hk:dG (l.getD i bb).2.2.1 1
    ·have Bi:=hk
     unfold dG at Bi
     rw[aj Bi,aW ω ω,ak,ak,Wl ω ω,SD hk ω,hr]
     by_cases ho:mY l i (l.getD i bb).2.1=true
     ·have qX: ¬lj l i:=λh=>h ⟨hk,ho⟩
      rw[ah qX,ho];rfl
     ·have qX:lj l i:=λh=>ho h.2
      rw[aj qX,xg.2 ho];rfl
    ·have Bi:=hk
     unfold dG at Bi
     rw[ah Bi,aj (show lj l i from λh=>hk h.1),←OY hk,hr]
   have hP:BM l i↔uX i (l.getD (i-1) bb).1 (l.getD i bb).1∧lj l i:=⟨λh=>h.2,λh=>⟨hF,h⟩⟩
   have hD:(if BM l i then r else some false)=if uX i (l.getD (i-1) bb).1 (l.getD i bb).1 then(if lj l i then r else some false)else some false:=by
    by_cases h1:uX i (l.getD (i-1) bb).1 (l.getD i bb).1<;>by_cases h2:lj l i<;>simp[hP,h1,h2]
   rw[hD]
   rw[hT]
   rw[aP ω,av,aP ω,av,aP ω,av,aP ω,av,aP (x:=(l.getD i bb).2.2.2.1) ω,aP (x:=1000000000000) ω]
   simp only[av]
   have hm: ∀{α:Type} (x:α) (y:α),cond (!aN (l.getD i bb).2.2.1 1) (cond (!aN (l.getD i bb).2.2.1 2) y x) x=x:=by
    intro α x y
    rcases Uv.2.2.1 with h|h
    ·rw[dZ h];rfl
    ·rw[dZ (y:=2) h];cases aN (l.getD i bb).2.2.1 1<;>rfl
   rw[hm]
   by_cases h0:0<i
   ·have e:W .i64 ((i:Int)-1)=((i-1:Nat):Int):=by rw[aw ω ω];omega
    rw[aR (x:=0) ω,ak,e,aI,aW ω ω,ak,cz]
    by_cases h1:uX i (l.getD (i-1) bb).1 (l.getD i bb).1
    ·rw[aj h1,ah (by unfold uX at h1;omega)]
    ·rw[ah h1,aj (by unfold uX at h1;omega)]
   ·rw[aP (x:=0) ω,av,aj (show uX i (l.getD (i-1) bb).1 (l.getD i bb).1 from λh=>absurd h h0)]
  ·rw[ah (λh=>hF h.1)]
   unfold nf at hF
   generalize cond (aN (l.getD i bb).2.2.1 1) (cond (bc (l.getD i bb).2.1 13) (cond (γ (fW l i) (l.getD i bb).2.1.toNat false) (some false) (cond (bc (l.getD i bb).2.1 13) (ng.l3 N n l (List.set (fW l i) (l.getD i bb).2.1.toNat true) l (l.length:Int) ((i+1:Nat):Int)) none)) none) (ng.l3 N n l (fW l i) l (l.length:Int) ((i+1:Nat):Int))=t
   generalize cond (aX 0 (i:Int)) _ _=u
   simp only[cond_not,cy,aL]
   repeat' split
   all_goals first|rfl|omega
 ·unfold ng.l3 ng.nw
  rw[aP ω,av]
theorem CX(N:Nat)(K:aO→Int→Option Bool){l:aO}(hl:l.length≤100000){i:Nat}(hi:i<l.length): ∀(m n k:Nat),i-k≤m→m<n→k≤i→(dG (l.getD i bb).2.2.1 1→mY l k (l.getD i bb).2.1=false)→
  eY.l8 N K n l (i:Int) (l.getD i bb) (k:Int)=if lj l i then K l ((i+1:Nat):Int)else some false
 |m,0,k,_,hn,_,_=>ω
 |m,n+1,k,hm,hn,hk,h=>by
  unfold eY.l8 eY.Ec
  by_cases GO:k<i
  ·rw[aR ω,ak,aW ω ω,ak,ak,aI,aw (x:=(k:Int)+1) ω ω,af,aL,aL,aL]
   by_cases h1:dG (l.getD i bb).2.2.1 1
   ·have q5:=h1
    unfold dG at q5
    rw[aj q5]
    by_cases h2:zH l k (l.getD i bb).2.1
    ·have zF:=h2
     unfold zH dG at zF
     have qX: ¬lj l i:=λh3=>h3 ⟨h1,xZ.2 ⟨k,GO,h2⟩⟩
     rw[aj zF.1,aj zF.2,ah qX]
    ·have BI:=CX N K hl hi (m-1) n (k+1) ω ω ω (λ_=>by rw[vR,h h1,bu h2];rfl)
     split
     ·split
      ·rename_i h3 h4
       exact absurd (show zH l k (l.getD i bb).2.1 from⟨h3,h4⟩) h2
      ·exact BI
     ·exact BI
   ·have q5:=h1
    unfold dG at q5
    rw[ah q5]
    exact CX N K hl hi (m-1) n (k+1) ω ω ω (λh=>absurd h h1)
  ·have:k=i:=ω
   subst this
   have qX:lj l k:=λh3=>by rw[h h3.1]at h3;exact nomatch h3.2
   rw[aP ω,av,aj qX,aw (x:=(k:Int)+1) ω ω];rfl
set_option maxHeartbeats 2000000 in
theorem uZ(N:Nat){l:aO}(hl:l.length≤100000)(hN:200000≤N):eY N l=some (gP l):=by
 unfold eY eY.b
 refine iI (F:=λn i=>eY.l2 N n l i) (BM l) (λn i r hi hp hr=> ?_) (λn=> ?_) N ω
 ·unfold eY.l2 eY.fG
  have hT:eY.j7 N (eY.l2 N n) l (i:Int) (l.getD i bb)=if lj l i then r else some false:=by
   unfold eY.j7 eY.XV
   have:=CX N (eY.l2 N n) hl hi i N 0 ω ω ω (λ_=>rfl)
   rw[hr]at this
   exact this
  rw[aR ω,ak,aW ω ω,ak]
  simp only[aI]
  rw[hT]
  have hD:(if BM l i then r else some false)=if nf (l.getD i bb).1 (l.getD i bb).2.1 (l.getD i bb).2.2.1 (l.getD i bb).2.2.2.1∧uX i (l.getD (i-1) bb).1 (l.getD i bb).1 then(if lj l i then r else some false)else some false:=by
   unfold BM
   by_cases h1:uX i (l.getD (i-1) bb).1 (l.getD i bb).1<;>by_cases h2:lj l i<;>by_cases h3:nf (l.getD i bb).1 (l.getD i bb).2.1 (l.getD i bb).2.2.1 (l.getD i bb).2.2.2.1<;>simp[h1,h2,h3]
  rw[hD]
  generalize (if lj l i then r else some false)=t
  by_cases h0:0<i
  ·have e:W .i64 ((i:Int)-1)=((i-1:Nat):Int):=by rw[aw ω ω];omega
   rw[aR (x:=0) (y:=(i:Int)) ω,e]
   simp only[ak,aI]
   rw[aW (i:=((i-1:Nat):Int)) ω ω]
   simp only[cond_not,cy,cz,aL,ak]
   by_cases hP:nf (l.getD i bb).1 (l.getD i bb).2.1 (l.getD i bb).2.2.1 (l.getD i bb).2.2.2.1∧uX i (l.getD (i-1) bb).1 (l.getD i bb).1
   ·rw[aj hP];unfold nf uX at hP
    repeat' split
    all_goals first|rfl|omega
   ·rw[ah hP];unfold nf uX at hP
    repeat' split
    all_goals first|rfl|omega
  ·rw[aP (x:=0) (y:=(i:Int)) ω]
   simp only[cond_not,cy,cz,aL,ak,av]
   by_cases hP:nf (l.getD i bb).1 (l.getD i bb).2.1 (l.getD i bb).2.2.1 (l.getD i bb).2.2.2.1∧uX i (l.getD (i-1) bb).1 (l.getD i bb).1
   ·rw[aj hP];unfold nf uX at hP
    repeat' split
    all_goals first|rfl|omega
   ·rw[ah hP];unfold nf uX at hP
    repeat' split
    all_goals first|rfl|omega
 ·unfold eY.l2 eY.fG
  rw[aP ω,av]
end VM
end
section
namespace VM
open Go VM.F
def eS(a:aO)(id:Int):cG×Bool:=if gP a then uY id a else(bb,false)
theorem acW(N:Nat){a:aO}(hl:a.length≤100000)(hN:200000≤N)(id:Int):p5 N a id=some (eS a id):=by
 unfold p5 p5.b eS
 rw[L4 N hl hN,ar,cond_not,Wk N hl hN]
 cases gP a<;>rfl
theorem BN(N:Nat){a:aO}(hl:a.length≤100000)(hN:200000≤N)(id:Int):XW N a id=some (eS a id):=by
 unfold XW eS
 rw[uZ N hl hN,ar,cond_not,sy N hl hN]
 cases gP a<;>rfl
def oi(a:aO)(id:Int):Int:=if gP a then oh id a else 0
theorem rJ(N:Nat){a:aO}(hl:a.length≤100000)(hN:200000≤N)(id:Int):nc N a id=some (oi a id):=by
 unfold nc nc.b oi
 rw[uZ N hl hN,ar,cond_not,OX N hl hN]
 cases gP a<;>rfl
def lS(m:aE)(a:aO)(i:Nat):Prop:= ¬dG (kG (a.getD i bb).2.1 m) 0
instance(m:aE)(a:aO):DecidablePred (lS m a):=λi=>by unfold lS;infer_instance
def sA(m:aE)(a:aO):Bool:=dN m&&(gP a&&(decide (∀j,j<a.length→lS m a j)&&true))
theorem acX(N:Nat){m:aE}{a:aO}(hm:m.length≤100000)(hl:a.length≤100000)(hN:200000≤N):E0 N m a=some (sA m a):=by
 unfold E0 E0.b sA
 rw[Hi N hm hN,ar,cond_not,L4 N hl hN,ar,cond_not]
 cases hM:dN m
 ·rfl
 cases gP a
 ·rfl
 rw[kR,kR,ak,ak]
 refine iI (F:=λn i=>E0.l4 N n m a (a.length:Int) i) (lS m a) (λn i r hi hp hr=> ?_) (λn=> ?_) N ω
 ·unfold E0.l4 E0.dU
  rw[aR ω,ak,aW ω ω,ak,aI,aw (x:=(i:Int)+1) ω ω,af,CW N hm hN,ar,aL]
  unfold gJ
  rw[hM,aj rfl]
  by_cases hP:lS m a i
  ·rw[aj hP,ah (show ¬((kG (a.getD i bb).2.1 m:Int)=0)from λh=>hP h)];exact hr
  ·rw[ah hP,aj (show(kG (a.getD i bb).2.1 m:Int)=0 by unfold lS at hP;exact F9.1 hP)]
 ·unfold E0.l4 E0.dU
  rw[aP ω,av]
theorem ya(N:Nat){m:aE}{a:aO}(hm:m.length≤100000)(hl:a.length≤100000)(hN:200000≤N):pb N m a=some (sA m a):=by
 unfold pb pb.b sA
 rw[nA N hm hN,ar,cond_not,uZ N hl hN,ar,cond_not]
 cases hM:dN m
 ·rfl
 cases gP a
 ·rfl
 rw[kR,kR,ak,ak]
 refine iI (F:=λn i=>pb.l4 N n m a i) (lS m a) (λn i r hi hp hr=> ?_) (λn=> ?_) N ω
 ·unfold pb.l4 pb.dU
  rw[aR ω,ak,aW ω ω,ak,aI,aw (x:=(i:Int)+1) ω ω,af,iV N hm hN,ar,aL]
  by_cases hP:lS m a i
  ·rw[aj hP,ah (show ¬((kG (a.getD i bb).2.1 m:Int)=0)from λh=>hP h)];exact hr
  ·rw[ah hP,aj (show(kG (a.getD i bb).2.1 m:Int)=0 by unfold lS at hP;exact F9.1 hP)]
 ·unfold pb.l4 pb.dU
  rw[aP ω,av]
theorem Zi(a b:bU):pC (.pair (.int .i64) (.pair (.int .u64) .unit)) a b=(aN a.1 b.1&&(aN a.2.1 b.2.1&&true)):=rfl
theorem Uw(N:Nat){u v:Int}:Wm N (cN u) (cN v)=some (w7 (u-v)):=by
 unfold Wm
 rw[Zi]
 unfold cN
 dsimp only
 unfold w7
 rw[cy,aL,cy,fA,ko,ko]
 have hu:u=u/18446744073709551616*18446744073709551616+u%18446744073709551616:=ω
 have hv:v=v/18446744073709551616*18446744073709551616+v%18446744073709551616:=ω
 by_cases h1:u/18446744073709551616<v/18446744073709551616
 ·rw[aj h1];congr 1;split<;>(try split)<;>omega
 ·rw[ah h1]
  by_cases h2:u/18446744073709551616=v/18446744073709551616
  ·rw[aj h2,aU h2,kR]
   by_cases h3:u%18446744073709551616<v%18446744073709551616
   ·rw[aj h3];congr 1;split<;>(try split)<;>omega
   ·rw[ah h3]
    by_cases h4:u%18446744073709551616=v%18446744073709551616
    ·rw[aU h4,ak];congr 1;split<;>(try split)<;>omega
    ·rw[bu h4,av];congr 1;split<;>(try split)<;>omega
  ·rw[ah h2,bu h2,uG,av];congr 1;split<;>(try split)<;>omega
theorem SE:cN 0=da:=rfl
theorem BO(N:Nat){u:Int}:F74 N (cN u)=some (w7 u):=by
 unfold F74
 rw[←SE,Uw,ar,Gi]
def dJ(r:de):Int:=r.2.2.1
def aF(x:Int):Prop:= -9223372036854775808≤x∧x<9223372036854775808
def dV(l:au):Prop:= ∀x∈l,aF (dJ x)
theorem vS{l:au}(h:dV l)(i:Nat):aF (dJ (l.getD i ba)):=by
 by_cases hi:i<l.length
 ·rw[aV,bo hi];exact h _ (dO hi)
 ·rw[aV,ig ω];exact⟨δ,δ⟩
theorem OZ{ws:List Int}(h: ∀x∈ws,aF x): -(9223372036854775808*(ws.length:Int))≤ws.sum∧ws.sum≤9223372036854775808*(ws.length:Int):=Up ws h
theorem Kg{ws:List Int}(h: ∀x∈ws,aF x)(hl:ws.length≤1000000):cT ws.sum:=by
 have:=OZ h
 unfold cT;omega
theorem Wn{ws:List Int}(h: ∀x∈ws,aF x): ∀x∈ws,cT x:=λx hx=>by
 have:=h x hx
 unfold aF at this;unfold cT;omega
theorem L7(N:Nat){ws:List Int}(h: ∀x∈ws,aF x)(hl:ws.length≤1000000)(hN:1000000<N):nI N (ws.map cN)=some (cN ws.sum,true):=by
 rw[FE N (Wn h) hl hN]
 unfold OV
 rw[aj (Kg h hl)]
def gQ(l:au):Int:=if eK l then(l.map dJ).sum else 0
theorem SF(N:Nat){l:au}(hq:dV l)(hl:l.length≤100000)(hN:2000000≤N):Ed.l5 N N da [] l (l.length:Int) 0=some (cN (l.map dJ).sum):=by
 have:=nH l ba (λn i ws=>Ed.l5 N n da (ws.map cN) l (l.length:Int) i) (λt ws=>some (cN (ws++t.map dJ).sum)) (λi (ws:List Int)=>ws.length=i∧ ∀x∈ws,aF x)
  (λn i ws hi hI hr=> ?_) (λn ws hI=> ?_) l.length N 0 [] ω ω ω ⟨rfl,λx hx=>nomatch hx⟩
 ·simpa using this
 ·unfold Ed.l5 Ed.eA
  have nh:=vS hq i
  have jy:=nh
  unfold aF dJ at jy
  rw[aR ω,ak,aW ω ω,ak,aI,vO N jy.1 jy.2,ar,bS (by rw[cD,aK];omega),ak,aw ω ω,af]
  have:=hr (ws++[dJ (l.getD i ba)]) ⟨by rw[aS,hI.1];rfl,λx hx=>by
   rcases bl.1 hx with hx|hx
   ·exact hI.2 x hx
   ·rw[cr.1 hx];exact nh⟩
  rw[dj]at this
  refine this.trans ?_
  rw[bQ,bE];rfl
 ·unfold Ed.l5 Ed.eA
  rw[aP ω,av,L7 N hI.2 ω ω,ar,gM,cw]
theorem Zj(N:Nat){l:au}(hq:dV l)(hl:l.length≤100000)(hN:2000000≤N):Ed N l=some (cN (gQ l)):=by
 unfold Ed Ed.b gQ
 rw[L1 N hl ω,ar,cond_not,SF N hq hl hN]
 cases eK l<;>rfl
theorem O0(N:Nat){l:au}(hq:dV l)(hl:l.length≤100000)(hN:4000000≤N):CY.l5 N N l (dz 0) (dz 0) 0=some (dz (l.map dJ).sum):=by
 have:=nH l ba (λn i ws=>CY.l5 N n l (dz 0) (dz ws.sum) i) (λt ws=>some (dz (ws++t.map dJ).sum)) (λi (ws:List Int)=>ws.length=i∧ ∀x∈ws,aF x)
  (λn i ws hi hI hr=> ?_) (λn ws hI=> ?_) l.length N 0 [] ω ω ω ⟨rfl,λx hx=>nomatch hx⟩
 ·simpa using this
 ·unfold CY.l5 CY.eA
  have nh:=vS hq i
  have jy:=nh
  unfold aF dJ at jy
  have hb:=OZ hI.2
  rw[hI.1]at hb
  rw[aR ω,ak,aW ω ω,ak,aI,dC N ω jy.1 jy.2,ar,kF N ω ((BF (n:=i) ω hb.1 hb.2).mono ω) ((Fit.i64 jy.1 jy.2).mono ω),ar,aw ω ω,af]
  have:=hr (ws++[dJ (l.getD i ba)]) ⟨by rw[aS,hI.1];rfl,λx hx=>by
   rcases bl.1 hx with hx|hx
   ·exact hI.2 x hx
   ·rw[cr.1 hx];exact nh⟩
  rw[nS,cE,jm,jN]at this
  refine this.trans ?_
  rw[bQ,bE];rfl
 ·unfold CY.l5 CY.eA
  rw[aP ω,av,gM,cw]
theorem Kh(N:Nat){l:au}(hq:dV l)(hl:l.length≤100000)(hN:4000000≤N):CY N l=some (dz (gQ l)):=by
 unfold CY CY.b gQ
 rw[Hk N hl ω,ar,cond_not]
 have:=O0 N hq hl hN
 rw[lQ]at this
 rw[this]
 cases eK l
 ·rw[av];exact fj some lQ.symm
 ·rfl
def dg(inst:Int):au→List Int
 |[]=>[]
 |x::t=>if x.2.1=inst then dJ x::dg inst t else dg inst t
theorem dx(inst:Int)(x:de)(t:au):dg inst (x::t)=if x.2.1=inst then dJ x::dg inst t else dg inst t:=rfl
theorem Wo(N:Nat){l:au}(hq:dV l)(hl:l.length≤100000)(hN:2000000≤N)(inst:Int):p6.l5 N N inst da [] l (l.length:Int) 0=some (cN (dg inst l).sum):=by
 have:=nH l ba (λn i ws=>p6.l5 N n inst da (ws.map cN) l (l.length:Int) i) (λt ws=>some (cN (ws++dg inst t).sum)) (λi (ws:List Int)=>ws.length≤i∧ ∀x∈ws,aF x)
  (λn i ws hi hI hr=> ?_) (λn ws hI=> ?_) l.length N 0 [] ω ω ω ⟨aH _,λx hx=>nomatch hx⟩
 ·simpa using this
 ·unfold p6.l5 p6.eA
  have nh:=vS hq i
  have jy:=nh
  unfold aF dJ at jy
  rw[aR ω,ak,aW ω ω,ak,aI,vO N jy.1 jy.2,ar,bS (by rw[cD,aK];omega),ak,aw ω ω,af,aL,dx]
  split
  ·have:=hr (ws++[dJ (l.getD i ba)]) ⟨by rw[aS,aK];omega,λx hx=>by
    rcases bl.1 hx with hx|hx
    ·exact hI.2 x hx
    ·rw[cr.1 hx];exact nh⟩
   rw[dj]at this
   refine this.trans ?_
   rw[bE];rfl
  ·exact hr ws ⟨ω,hI.2⟩
 ·unfold p6.l5 p6.eA
  rw[aP ω,av,L7 N hI.2 ω ω,ar]
  show _=some (cN (ws++[]).sum)
  rw[cw]
def ra(l:au)(inst:Int):Int:=if c6 l then(dg inst l).sum else 0
theorem acY(N:Nat){l:au}(hq:dV l)(hl:l.length≤100000)(hN:2000000≤N)(inst:Int):p6 N l inst=some (cN (ra l inst)):=by
 unfold p6 p6.b ra
 rw[xY N hl ω,ar,cond_not,Wo N hq hl hN]
 cases c6 l<;>rfl
theorem SG(N:Nat){l:au}(hq:dV l)(hl:l.length≤100000)(hN:4000000≤N)(inst:Int):p7.l5 N N l inst (dz 0) (dz 0) 0=some (dz (dg inst l).sum):=by
 have:=nH l ba (λn i ws=>p7.l5 N n l inst (dz 0) (dz ws.sum) i) (λt ws=>some (dz (ws++dg inst t).sum)) (λi (ws:List Int)=>ws.length≤i∧ ∀x∈ws,aF x)
  (λn i ws hi hI hr=> ?_) (λn ws hI=> ?_) l.length N 0 [] ω ω ω ⟨aH _,λx hx=>nomatch hx⟩
 ·simpa using this
 ·unfold p7.l5 p7.eA
  have nh:=vS hq i
  have jy:=nh
  unfold aF dJ at jy
  have hb:=OZ hI.2
  rw[aR ω,ak,aW ω ω,ak,ak,aI,dC N ω jy.1 jy.2,ar,kF N ω ((BF (n:=ws.length) ω hb.1 hb.2).mono ω) ((Fit.i64 jy.1 jy.2).mono ω),ar,aw ω ω,af,aL,dx]
  split
  ·have:=hr (ws++[dJ (l.getD i ba)]) ⟨by rw[aS,aK];omega,λx hx=>by
    rcases bl.1 hx with hx|hx
    ·exact hI.2 x hx
    ·rw[cr.1 hx];exact nh⟩
   rw[nS,cE,jm,jN]at this
   refine this.trans ?_
   rw[bE];rfl
  ·exact hr ws ⟨ω,hI.2⟩
 ·unfold p7.l5 p7.eA
  rw[aP ω,av]
  show _=some (dz (ws++[]).sum)
  rw[cw]
theorem O1(N:Nat){l:au}(hq:dV l)(hl:l.length≤100000)(hN:4000000≤N)(inst:Int):p7 N l inst=some (dz (ra l inst)):=by
 unfold p7 p7.b ra
 rw[lR N hl ω,ar,cond_not]
 have:=SG N hq hl hN inst
 rw[lQ]at this
 rw[this]
 cases c6 l
 ·rw[av];exact fj some lQ.symm
 ·rfl
def sB(l:au)(i:Nat):Prop:=dG (ra l (i:Int)) 0
instance(l:au):DecidablePred (sB l):=λi=>by unfold sB;infer_instance
def kt:Nat:=6
def oj(l:au):Bool:=decide (∀j,j<kt→sB l j)&&c6 l
theorem jz{x:Int}:w7 x=0↔x=0:=by unfold w7;split<;>(try split)<;>omega
theorem acZ(N:Nat){l:au}(hq:dV l)(hl:l.length≤100000)(hN:2000000≤N):E1 N l=some (oj l):=by
 unfold E1 E1.b
 refine iI (len:=kt) (F:=λn i=>E1.l2 N n l i) (sB l) (λn i r hi hp hr=> ?_) (λn=> ?_) N (by unfold kt;omega)
 ·unfold E1.l2 E1.fG
  unfold kt at hi
  rw[aR ω,ak,acY N hq hl hN,ar,BO,ar,cond_not,aL,aw ω ω,af,hr]
  by_cases hP:sB l i
  ·rw[aj hP,aj (jz.2 hP)]
  ·rw[ah hP,ah (λh=>hP (jz.1 h))]
 ·unfold E1.l2 E1.fG
  rw[aP (by unfold kt;omega),av,xY N hl ω,ar]
theorem O2(N:Nat){l:au}(hq:dV l)(hl:l.length≤100000)(hN:4000000≤N):Ee N l=some (oj l):=by
 unfold Ee Ee.b
 refine iI (len:=kt) (F:=λn i=>Ee.l2 N n l i) (sB l) (λn i r hi hp hr=> ?_) (λn=> ?_) N (by unfold kt;omega)
 ·unfold Ee.l2 Ee.fG
  unfold kt at hi
  rw[aR ω,ak,O1 N hq hl hN,ar,ob,ar,cond_not,aL,aw ω ω,af,hr]
  by_cases hP:sB l i
  ·rw[aj hP,aj (jz.2 hP)]
  ·rw[ah hP,ah (λh=>hP (jz.1 h))]
 ·unfold Ee.l2 Ee.fG
  rw[aP (by unfold kt;omega),av,lR N hl ω,ar]
def kH(m:aE)(a:aO)(l:au)(i:Nat):Prop:=
 (dG (l.getD i ba).1 5→(eS a (l.getD i ba).2.1).2=true)∧(dG (l.getD i ba).1 6∨dG (l.getD i ba).1 7→ ¬dG (gJ m (l.getD i ba).2.1) 0)
instance(m:aE)(a:aO)(l:au):DecidablePred (kH m a l):=λi=>by unfold kH;infer_instance
theorem CZ(N:Nat)(b:an)(hl:b.2.1.length≤100000)(hN:200000≤N)(id:Int):F78 N b id=some (eS b.2.1 id).2:=by
 unfold F78
 rw[acW N hl hN,ar]
theorem Wp{k:Int}{f:Bool}{z:Int}{r:Option Bool}:cond (aN k 5) (cond (!f) (some false) r) (cond (aN k 6) (cond (aN z 0) (some false) r) (cond (aN k 7) (cond (aN z 0) (some false) r) r))=
  if(dG k 5→f=true)∧(dG k 6∨dG k 7→ ¬dG z 0)then r else some false:=by
 unfold dG
 rw[aL,aL,aL,aL,cond_not]
 by_cases h5:k=5
 ·have h6: ¬(k=6):=ω
  have h7: ¬(k=7):=ω
  cases f<;>simp[h5,h6,h7]
 ·by_cases h6:k=6
  ·by_cases hz:z=0<;>simp[h5,h6,hz]
  ·by_cases h7:k=7
   ·by_cases hz:z=0<;>simp[h5,h6,h7,hz]
   ·simp[h5,h6,h7]
theorem Jx(N:Nat)(hN:200000≤N)(c:ae)(b:an)(hm:b.1.length≤100000)(ha:b.2.1.length≤100000)(hl:b.2.2.1.length≤100000){e:Bool}
  (he:kQ.yb N N c b b.2.2.2.1 (b.2.2.2.1.length:Int) 0=some e):kQ.l4 N N c b b.2.2.1 (b.2.2.1.length:Int) 0=some (decide (∀j,j<b.2.2.1.length→kH b.1 b.2.1 b.2.2.1 j)&&e):=by
 refine iI (F:=λn i=>kQ.l4 N n c b b.2.2.1 (b.2.2.1.length:Int) i) (kH b.1 b.2.1 b.2.2.1) (λn i r hi hp hr=> ?_) (λn=> ?_) N ω
 ·unfold kQ.l4 kQ.dU
  rw[aR ω,ak,aW ω ω,ak,aI,aw (x:=(i:Int)+1) ω ω,af,hr]
  simp only[CZ N b ha hN,CW N hm hN,ar]
  rw[Wp]
  rfl
 ·unfold kQ.l4 kQ.dU
  rw[aP ω,av];exact he
def lF(a b:Int):Prop:=a<b
instance(a b:Int):Decidable (lF a b):=by unfold lF;infer_instance
def jQ(c:ae)(a:aO)(l:au)(i:Nat):Prop:=
 (dG (l.getD i ba).1 0∨(eS a (l.getD i ba).1).2=true)∧lF (l.getD i ba).2.1 c.1.length
instance(c:ae)(a:aO)(l:au):DecidablePred (jQ c a l):=λi=>by unfold jQ;infer_instance
theorem Zk{k x n:Int}{f:Bool}{r:Option Bool}:cond (!aN k 0) (cond (!f) (some false) (cond (du n x) (some false) r)) (cond (du n x) (some false) r)=if(dG k 0∨f=true)∧lF x n then r else some false:=by
 unfold dG lF
 rw[cond_not,aL,cz,cond_not]
 by_cases h0:k=0
 ·by_cases hx:n≤x
  ·have: ¬x<n:=ω
   simp[h0,hx,this]
  ·have:x<n:=ω
   simp[h0,hx,this]
 ·by_cases hx:n≤x
  ·have: ¬x<n:=ω
   cases f<;>simp[h0,hx,this]
  ·have:x<n:=ω
   cases f<;>simp[h0,hx,this]
theorem L8(N:Nat)(hN:200000≤N)(c:ae)(b:an)(ha:b.2.1.length≤100000)(hl:b.2.2.2.1.length≤100000){e:Bool}
  (he:kQ.yc N N c b b.2.2.2.2.2.1 (b.2.2.2.2.2.1.length:Int) 0=some e):kQ.yb N N c b b.2.2.2.1 (b.2.2.2.1.length:Int) 0=some (decide (∀j,j<b.2.2.2.1.length→jQ c b.2.1 b.2.2.2.1 j)&&e):=by
 refine iI (F:=λn i=>kQ.yb N n c b b.2.2.2.1 (b.2.2.2.1.length:Int) i) (jQ c b.2.1 b.2.2.2.1) (λn i r hi hp hr=> ?_) (λn=> ?_) N ω
 ·unfold kQ.yb kQ.wV
  rw[aR ω,ak,aW ω ω,ak,aI,aw (x:=(i:Int)+1) ω ω,af,hr]
  simp only[CZ N b ha hN,ar]
  rw[Zk]
  rfl
 ·unfold kQ.yb kQ.wV
  rw[aP ω,av];exact he
def rf(l:List Int)(i:Nat):Prop:=1≤l.getD i 0∧l.getD i 0≤1000000000000
instance(l:List Int):DecidablePred (rf l):=λi=>by unfold rf;infer_instance
def fe(l:List Int):Bool:=decide (∀j,j<l.length→rf l j)
theorem akX(N:Nat)(p:Int):F80 N p=some (!decide (1≤p∧p≤1000000000000)):=by
 unfold F80
 rw[CT,ar]
theorem Hn(N:Nat){l:List Int}(hl:l.length≤100000): ∀(m n i:Nat),l.length-i≤m→m<n→i≤l.length→(∀j,j<i→rf l j)→
  ∃r,tg.l2 N n l () (l.length:Int) (i:Int)=some r∧(du 0 r= !fe l)
 |m,0,i,_,hn,_,_=>ω
 |m,n+1,i,hm,hn,hi,hp=>by
  unfold tg.l2 tg.fG
  by_cases h:i<l.length
  ·rw[aR ω,ak,aW ω ω,ak,aI,akX,ar,cond_not,fU]
   by_cases hP:rf l i
   ·have hP':=hP
    unfold rf at hP'
    rw[aj hP',aw ω ω]
    exact Hn N hl (m-1) n (i+1) ω ω ω (λj hj=>by
     by_cases Ab:j=i
     ·subst Ab;exact hP
     ·exact hp j ω)
   ·have hP':=hP
    unfold rf at hP'
    rw[ah hP']
    refine⟨_,rfl,?_⟩
    rw[fM ω]
    unfold fe
    rw[bu (λh'=>hP (h' i h))];rfl
  ·rw[aP ω,av]
   refine⟨_,rfl,?_⟩
   rw[fF ω]
   unfold fe
   rw[aU (λj hj=>hp j ω)];rfl
theorem Wq(N:Nat){l:List Int}(hl:l.length≤100000)(hN:200000≤N):F79 N l ()=some (!fe l):=by
 unfold F79 tg tg.b
 obtain⟨r,e,h⟩:=Hn N hl l.length N 0 ω ω ω (λj hj=>absurd hj ω)
 rw[show((0:Nat):Int)=0 from rfl]at e
 rw[e,ar,h]
def ri(c:ae)(a:aO)(l:aY)(i:Nat):Prop:=
 (eS a (l.getD i eF).2.1).2=true∧lF (l.getD i eF).2.2.1 c.1.length
instance(c:ae)(a:aO)(l:aY):DecidablePred (ri c a l):=λi=>by unfold ri;infer_instance
theorem Ho{x n:Int}{f:Bool}{r:Option Bool}:cond (!f) (some false) (cond (du n x) (some false) r)=if f=true∧lF x n then r else some false:=by
 unfold lF
 rw[cz,cond_not]
 by_cases hx:n≤x
 ·have: ¬x<n:=ω
  cases f<;>simp[hx,this]
 ·have:x<n:=ω
  cases f<;>simp[hx,this]
theorem L9(N:Nat)(hN:200000≤N)(c:ae)(b:an)(ha:b.2.1.length≤100000)(hl:b.2.2.2.2.2.1.length≤100000)(hp:b.2.2.2.2.1.length≤100000):
  kQ.yc N N c b b.2.2.2.2.2.1 (b.2.2.2.2.2.1.length:Int) 0=some (decide (∀j,j<b.2.2.2.2.2.1.length→ri c b.2.1 b.2.2.2.2.2.1 j)&&fe b.2.2.2.2.1):=by
 refine iI (F:=λn i=>kQ.yc N n c b b.2.2.2.2.2.1 (b.2.2.2.2.2.1.length:Int) i) (ri c b.2.1 b.2.2.2.2.2.1) (λn i r hi RS hr=> ?_) (λn=> ?_) N ω
 ·unfold kQ.yc kQ.wW
  rw[aR ω,ak,aW ω ω,ak,aI,aw (x:=(i:Int)+1) ω ω,af,hr]
  simp only[CZ N b ha hN,ar]
  rw[Ho]
  rfl
 ·unfold kQ.yc kQ.wW
  rw[aP ω,av,Wq N hp hN,ar,Bool.not_not]
def df(c:ae)(b:an):Bool:=
 eJ c&&(sA b.1 b.2.1&&(eK b.2.2.1&&(decide (dG (gQ b.2.2.1) 0)&&(oj b.2.2.2.1&&(dn b.2.2.2.2.2.1&&(decide (dG b.2.2.2.2.1.length c.1.length)&&
  (decide (∀j,j<b.2.2.1.length→kH b.1 b.2.1 b.2.2.1 j)&&(decide (∀j,j<b.2.2.2.1.length→jQ c b.2.1 b.2.2.2.1 j)&&(decide (∀j,j<b.2.2.2.2.2.1.length→ri c b.2.1 b.2.2.2.2.2.1 j)&&fe b.2.2.2.2.1)))))))))
structure om(b:an):Prop where
 m:b.1.length≤100000
 a:b.2.1.length≤100000
 r:b.2.2.1.length≤100000
 s:b.2.2.2.1.length≤100000
 p:b.2.2.2.2.1.length≤100000
 o:b.2.2.2.2.2.1.length≤100000
 qr:dV b.2.2.1
 qs:dV b.2.2.2.1
theorem p8{x:Bool}{r:Option Bool}{y:Bool}(h:r=some y):cond (!x) (some false) r=some (x&&y):=by subst h;cases x<;>rfl
theorem tQ(N:Nat)(hN:4000000≤N){c:ae}{b:an}(w:om b):kQ N c b=some (df c b):=by
 unfold kQ kQ.b df
 rw[FF N ω,ar]
 refine p8 ?_
 rw[acX N w.m w.a ω,ar]
 refine p8 ?_
 rw[L1 N w.r ω,ar]
 refine p8 ?_
 rw[Zj N w.qr w.r ω,ar,BO,ar]
 have e0:aN (w7 (gQ b.2.2.1)) 0=decide (dG (gQ b.2.2.1) 0):=by rw[ko,nU];exact jz
 rw[e0]
 refine p8 ?_
 rw[acZ N w.qs w.s ω,ar]
 refine p8 ?_
 rw[CU N w.o ω,ar]
 refine p8 ?_
 rw[ko]
 refine p8 ?_
 exact Jx N ω c b w.m w.a w.r (L8 N ω c b w.a w.s (L9 N ω c b w.a w.o w.p))
theorem p9(N:Nat)(b:an)(hl:b.2.1.length≤100000)(hN:200000≤N)(id:Int):Ma N b id=some ((eS b.2.1 id).2||decide (dG id 0)):=by
 unfold Ma
 rw[BN N hl hN,ar,ko]
 cases(eS b.2.1 id).2<;>rfl
theorem SH{k:Int}{f:Bool}{z:Int}{r:Option Bool}:cond (aN k 5) (cond (!f) (some false) (cond (aN k 6) (cond (aN z 0) (some false) r) (cond (aN k 7) (cond (aN z 0) (some false) r) r))) (cond (aN k 6) (cond (aN z 0) (some false) r) (cond (aN k 7) (cond (aN z 0) (some false) r) r))=
  if(dG k 5→f=true)∧(dG k 6∨dG k 7→ ¬dG z 0)then r else some false:=by
 unfold dG
 rw[aL,aL,aL,aL,cond_not]
 by_cases h5:k=5
 ·have h6: ¬(k=6):=ω
  have h7: ¬(k=7):=ω
  cases f<;>simp[h5,h6,h7]
 ·by_cases h6:k=6
  ·by_cases hz:z=0<;>simp[h5,h6,hz]
  ·by_cases h7:k=7
   ·by_cases hz:z=0<;>simp[h5,h6,h7,hz]
   ·simp[h5,h6,h7]
theorem Jy(N:Nat)(hN:200000≤N)(c:ae)(b:an)(ha:b.2.1.length≤100000)(hl:b.2.2.2.2.2.1.length≤100000)(ho:dn b.2.2.2.2.2.1=true):
  gH.yc N N c b 0=some (decide (∀j,j<b.2.2.2.2.2.1.length→ri c b.2.1 b.2.2.2.2.2.1 j)&&true):=by
 refine iI (F:=λn i=>gH.yc N n c b i) (ri c b.2.1 b.2.2.2.2.2.1) (λn i r hi RS hr=> ?_) (λn=> ?_) N ω
 ·unfold gH.yc gH.wW
  unfold dn at ho
  rw[bM,fP]at ho
  have h1:=(ho.1 i hi).1
  unfold qT Ai at h1
  have h2:decide (dG (b.2.2.2.2.2.1.getD i eF).2.1 0)=false:=bu (by unfold dG;omega)
  rw[aR ω,ak,aW ω ω,ak,aI,aw (x:=(i:Int)+1) ω ω,af,hr]
  simp only[p9 N b ha hN,ar,ak]
  rw[h2,rX,Ho]
  rfl
 ·unfold gH.yc gH.wW
  rw[aP ω,av]
theorem E2(N:Nat)(hN:200000≤N)(c:ae)(b:an)(hl:b.2.2.2.2.1.length≤100000){e:Bool}(he:gH.yc N N c b 0=some e):
  gH.FG N N c b 0=some (fe b.2.2.2.2.1&&e):=by
 refine iI (F:=λn i=>gH.FG N n c b i) (rf b.2.2.2.2.1) (λn i r hi RS hr=> ?_) (λn=> ?_) N ω
 ·unfold gH.FG gH.E3
  rw[aR ω,ak,aW ω ω,ak,aI,aw (x:=(i:Int)+1) ω ω,af,hr,jx,ar,cond_not,fU]
  rfl
 ·unfold gH.FG gH.E3
  rw[aP ω,av];exact he
theorem Jz(N:Nat)(hN:200000≤N)(c:ae)(b:an)(ha:b.2.1.length≤100000)(hl:b.2.2.2.1.length≤100000){e:Bool}(he:gH.FG N N c b 0=some e):
  gH.oM N N c b 0=some (decide (∀j,j<b.2.2.2.1.length→jQ c b.2.1 b.2.2.2.1 j)&&e):=by
 refine iI (F:=λn i=>gH.oM N n c b i) (jQ c b.2.1 b.2.2.2.1) (λn i r hi RS hr=> ?_) (λn=> ?_) N ω
 ·unfold gH.oM gH.nK
  rw[aR ω,ak,aW ω ω,ak,aI,aw (x:=(i:Int)+1) ω ω,af,hr]
  simp only[p9 N b ha hN,ar,ak]
  rw[Ho]
  have Zl:((((eS b.2.1 (b.2.2.2.1.getD i ba).1).2||decide (dG (b.2.2.2.1.getD i ba).1 0))=true)∧lF (b.2.2.2.1.getD i ba).2.1 c.1.length)↔jQ c b.2.1 b.2.2.2.1 i:=by
   unfold jQ
   rw[nV,fP]
   exact⟨λh=>⟨h.1.symm,h.2⟩,λh=>⟨h.1.symm,h.2⟩⟩
  by_cases hP:jQ c b.2.1 b.2.2.2.1 i
  ·rw[aj hP,aj (Zl.2 hP)]
  ·rw[ah hP,ah (λh=>hP (Zl.1 h))]
 ·unfold gH.oM gH.nK
  rw[aP ω,av];exact he
theorem Hp(N:Nat)(hN:200000≤N)(c:ae)(b:an)(hm:b.1.length≤100000)(ha:b.2.1.length≤100000)(hl:b.2.2.1.length≤100000)(hk:eK b.2.2.1=true){e:Bool}
  (he:gH.oM N N c b 0=some e):gH.l6 N N c b 0=some (decide (∀j,j<b.2.2.1.length→kH b.1 b.2.1 b.2.2.1 j)&&e):=by
 refine iI (F:=λn i=>gH.l6 N n c b i) (kH b.1 b.2.1 b.2.2.1) (λn i r hi RS hr=> ?_) (λn=> ?_) N ω
 ·unfold gH.l6 gH.uU
  unfold eK at hk
  rw[fA,fP]at hk
  have h1:=(hk i hi).1
  rw[aR ω,ak,aW ω ω,ak,aI,aw (x:=(i:Int)+1) ω ω,af,hr]
  simp only[p9 N b ha hN,sx N hm hN,ar]
  rw[SH]
  have Zl:((dG (b.2.2.1.getD i ba).1 5→((eS b.2.1 (b.2.2.1.getD i ba).2.1).2||decide (dG (b.2.2.1.getD i ba).2.1 0))=true)∧(dG (b.2.2.1.getD i ba).1 6∨dG (b.2.2.1.getD i ba).1 7→ ¬dG (gJ b.1 (b.2.2.1.getD i ba).2.1) 0))↔kH b.1 b.2.1 b.2.2.1 i:=by
   unfold kH
   refine and_congr_left λ_=>imp_congr_right λh5=> ?_
   rw[nV,fP]
   refine⟨λh=>h.elim id λh0=> ?_,.inl⟩
   unfold db at h1;unfold dG at h5 h0;omega
  by_cases hP:kH b.1 b.2.1 b.2.2.1 i
  ·rw[aj hP,aj (Zl.2 hP)]
  ·rw[ah hP,ah (λh=>hP (Zl.1 h))]
 ·unfold gH.l6 gH.uU
  rw[aP ω,av];exact he
theorem pd{x:Bool}{r:Option Bool}{y:Bool}(h:x=true→r=some y):cond (!x) (some false) r=some (x&&y):=by
 cases x
 ·rfl
 ·exact h rfl
theorem BP(N:Nat)(hN:5000000≤N){c:ae}{b:an}(w:om b):gH N c b=some (df c b):=by
 unfold gH gH.b
 rw[oe N ω,ar]
 have e0:aN (w7 (gQ b.2.2.1)) 0=decide (dG (gQ b.2.2.1) 0):=by rw[ko,nU];exact jz
 refine(pd λ_=> ?_).trans (fj some (?_:(eJ c&&(sA b.1 b.2.1&&(eK b.2.2.1&&(oj b.2.2.2.1&&(dn b.2.2.2.2.2.1&&(decide (dG b.2.2.2.2.1.length c.1.length)&&(decide (dG (gQ b.2.2.1) 0)&&
  (decide (∀j,j<b.2.2.1.length→kH b.1 b.2.1 b.2.2.1 j)&&(decide (∀j,j<b.2.2.2.1.length→jQ c b.2.1 b.2.2.2.1 j)&&(fe b.2.2.2.2.1&&(decide (∀j,j<b.2.2.2.2.2.1.length→ri c b.2.1 b.2.2.2.2.2.1 j)&&true)))))))))))=df c b))
 ·rw[ya N w.m w.a ω,ar]
  refine pd λ_=> ?_
  rw[Hk N w.r ω,ar]
  refine pd λhk=> ?_
  rw[O2 N w.qs w.s ω,ar]
  refine pd λ_=> ?_
  rw[iU N w.o ω,ar]
  refine pd λho=> ?_
  rw[ko]
  refine pd λ_=> ?_
  rw[Kh N w.qr w.r ω,ar,ob,ar,e0]
  refine pd λ_=> ?_
  exact Hp N ω c b w.m w.a w.r hk (Jz N ω c b w.a w.s (E2 N ω c b w.p (Jy N ω c b w.a w.o ho)))
 ·unfold df
  generalize eJ c=x1,sA b.1 b.2.1=x2,eK b.2.2.1=x3,oj b.2.2.2.1=x4,dn b.2.2.2.2.2.1=x5,decide (dG b.2.2.2.2.1.length c.1.length)=x6,decide (dG (gQ b.2.2.1) 0)=x7,decide (∀j,j<b.2.2.1.length→kH b.1 b.2.1 b.2.2.1 j)=x8,decide (∀j,j<b.2.2.2.1.length→jQ c b.2.1 b.2.2.2.1 j)=x9,fe b.2.2.2.2.1=bm,decide (∀j,j<b.2.2.2.2.2.1.length→ri c b.2.1 b.2.2.2.2.2.1 j)=a7
  rw[fA]
  cases x1<;>cases x2<;>cases x3<;>cases x4<;>cases x5<;>cases x6<;>cases x7<;>try rfl
  cases x8<;>cases x9<;>cases bm<;>cases a7<;>rfl
def qF(a q n:Int)(i:Nat)(p:Int):Prop:=0≤a∧a<n∧q≠0∧q7 q∧(0<i→p<a)
instance(a q n:Int)(i:Nat)(p:Int):Decidable (qF a q n i p):=by unfold qF;infer_instance
def oq(c:ae)(l:aE)(i:Nat):Prop:=qF (l.getD i da).1 (l.getD i da).2.1 c.1.length i (l.getD (i-1) da).1
instance(c:ae)(l:aE):DecidablePred (oq c l):=λi=>by unfold oq;infer_instance
def pe(c:ae)(l:aE):Bool:=decide (∀j,j<l.length→oq c l j)&&eJ c
theorem Ux(N:Nat)(hN:200000≤N)(c:ae){l:aE}(hl:l.length≤100000):qa N c l=some (pe c l):=by
 unfold qa qa.b
 refine iI (F:=λn i=>qa.l2 N n l c l (l.length:Int) i) (oq c l) (λn i r hi hp hr=> ?_) (λn=> ?_) N ω
 ·unfold qa.l2 qa.fG
  rw[aR ω,ak,aW ω ω,ak,aI,aw (x:=(i:Int)+1) ω ω,af,hr,tN,ar,cond_not,fU]
  by_cases h0:0<i
  ·have e:W .i64 ((i:Int)-1)=((i-1:Nat):Int):=by rw[aw ω ω];omega
   dsimp only
   rw[aR (x:=0) (y:=(i:Int)) ω,ak,e,aI,aW ω ω,ak]
   simp only[cy,cz,aL]
   by_cases hP:oq c l i
   ·rw[aj hP];unfold oq qF at hP
    rw[ah ω,ah ω,ah hP.2.2.1,aj hP.2.2.2.1,ah ω]
   ·rw[ah hP];unfold oq qF at hP
    have h2:=λh1 h2 h3 h4 h5=>hP ⟨h1,h2,h3,h4,h5⟩
    repeat' split
    all_goals first|rfl|(exfalso;exact h2 ω ω (by assumption) (by assumption) ω)
  ·rw[aP (x:=0) (y:=(i:Int)) ω,av]
   simp only[cy,cz,aL]
   by_cases hP:oq c l i
   ·rw[aj hP];unfold oq qF at hP
    rw[ah ω,ah ω,ah hP.2.2.1,aj hP.2.2.2.1]
   ·rw[ah hP];unfold oq qF at hP
    have h2:=λh1 h2 h3 h4 h5=>hP ⟨h1,h2,h3,h4,h5⟩
    repeat' split
    all_goals first|rfl|(exfalso;exact h2 ω ω (by assumption) (by assumption) ω)
 ·unfold qa.l2 qa.fG
  rw[aP ω,av,FF N ω,ar]
end VM
end
