/- A part of the proof of BookDrawn of layer 18: what the functions compute, in plain words. -/
import Derived.Test.YtecmobijochjkaaGreatPlain0
import Derived.Test.YtecmobijochjkaaGreatText
set_option linter.all false
open List renaming getD→γ
section
namespace VM
open Go VM.F
def cE(x:Int):Prop:= -170141183460469231731687303715884105728≤x∧x<170141183460469231731687303715884105728
instance(x:Int):Decidable (cE x):=by unfold cE;infer_instance
theorem vY(N:Nat){x:Int}(h0: -9223372036854775808≤x)(h1:x<9223372036854775808):O4 N x=some (cH x):=by
 unfold O4
 rw[aP ω,av,vT h0 h1,qg]
 congr 1
 exact wmk (by split<;>omega) rfl
theorem ac2{ws:List Int}(i:Nat):(ws.map cH).getD i c5=cH (ws.getD i 0):=by
 by_cases h:i<ws.length
 ·rw[aW,n0,bl h,aW,bl h];rfl
 ·rw[aW,il (by rw[cz];omega),aW,il ω];rfl
theorem SE{ws:List Int}(h: ∀x∈ws,cE x): -(170141183460469231731687303715884105728*(ws.length:Int))≤ws.sum∧ws.sum≤170141183460469231731687303715884105728*(ws.length:Int):=by
 induction ws with
 |nil=>simp
 |cons x ws ih=>
  have h0:=h x (bt ..)
  have ih:=ih (λy hy=>h y (a8 _ hy))
  unfold cE at h0
  rw[cK,aT];omega
theorem Zs{t w:Int}{lo hi top:Int}(hw:cE w)(xf:lo=t%18446744073709551616)(Kb:hi=t/18446744073709551616%18446744073709551616)(awq:top=t/340282366920938463463374607431768211456):
  (lo+w%18446744073709551616+0)%18446744073709551616=(t+w)%18446744073709551616∧
  (hi+(w/18446744073709551616)%18446744073709551616+(lo+w%18446744073709551616+0)/18446744073709551616)%18446744073709551616=(t+w)/18446744073709551616%18446744073709551616∧
  top+(if w/18446744073709551616<0 then-1 else 0)+(hi+(w/18446744073709551616)%18446744073709551616+(lo+w%18446744073709551616+0)/18446744073709551616)/18446744073709551616=(t+w)/340282366920938463463374607431768211456:=by
 unfold cE at hw
 subst xf Kb awq
 refine⟨ω,ω,?_⟩
 split<;>omega
def O5(t:Int):bS×Bool:=if cE t then(cH t,true)else(c5,false)
theorem W64(x:Int):W .u64 x=x%18446744073709551616:=qg x
theorem Kr(N:Nat){ws:List Int}(h: ∀x∈ws,cE x)(hl:ws.length≤1000000): ∀(m n i:Nat) (t:Int),ws.length-i≤m→m<n→i≤ws.length→t=(ws.take i).sum→
  nP.l3 N n c5 (t/340282366920938463463374607431768211456) (t/18446744073709551616%18446744073709551616) (t%18446744073709551616) (ws.map cH) (ws.length:Int) (i:Int)=some (O5 ws.sum)
 |m,0,i,t,_,hn,_,_=>ω
 |m,n+1,i,t,hm,hn,hi,ht=>by
  unfold nP.l3 nP.m3
  have f1:=SE (ws:=ws.take i) (λx hx=>h x (lJ hx))
  rw[cf,iq ω,←ht]at f1
  by_cases h1:i<ws.length
  ·have hw:cE (ws.getD i 0):=by
    rw[aW,bl h1];exact h _ (dF h1)
   have hs:=mJ ws h1
   rw[←ht]at hs
   have st:=Zs (t:=t) (w:=ws.getD i 0) hw rfl rfl rfl
   have BT:=Kr N h hl (m-1) n (i+1) (t+ws.getD i 0) ω ω ω hs.symm
   rw[aQ ω,aj,aU ω (by rw[cz];omega),aj,aG,ac2]
   unfold cH
   dsimp only
   have hw':=hw
   unfold cE at hw'
   generalize ws.getD i 0=w at*
   have hq:0≤(t%18446744073709551616+w%18446744073709551616+0)/18446744073709551616∧(t%18446744073709551616+w%18446744073709551616+0)/18446744073709551616≤1:=ω
   rw[ya N ω ω ω ω,ar,W64,ya N ω ω hq.1 hq.2,ar,aP (x:=63) ω,av,st.1,st.2.1]
   rw[vT ω ω]
   have hc:0≤(t/18446744073709551616%18446744073709551616+w/18446744073709551616%18446744073709551616+(t%18446744073709551616+w%18446744073709551616+0)/18446744073709551616)/18446744073709551616∧(t/18446744073709551616%18446744073709551616+w/18446744073709551616%18446744073709551616+(t%18446744073709551616+w%18446744073709551616+0)/18446744073709551616)/18446744073709551616≤1:=ω
   have hif: -1≤(if w/18446744073709551616<0 then(-1:Int)else 0)∧(if w/18446744073709551616<0 then(-1:Int)else 0)≤0:=by split<;>omega
   rw[aw (x:=t/340282366920938463463374607431768211456+_) ω ω,aw (x:=(_:Int)/18446744073709551616) ω ω,st.2.2,aw ω ω,aw (x:=(i:Int)+1) ω ω]
   exact BT
  ·have e:(ws.take i).sum=ws.sum:=by rw[iG ω]
   rw[e]at ht
   rw[aP ω,av,aP (x:=63) ω,av,←ht]
   have hh: -9223372036854775808≤W .i64 (t/18446744073709551616%18446744073709551616)∧W .i64 (t/18446744073709551616%18446744073709551616)<9223372036854775808:=by rw[gK];split<;>omega
   have hwv:W .i64 (t/18446744073709551616%18446744073709551616)=if 9223372036854775808≤t/18446744073709551616%18446744073709551616 then t/18446744073709551616%18446744073709551616-18446744073709551616 else t/18446744073709551616%18446744073709551616:=by rw[gK];split<;>split<;>omega
   rw[vT hh.1 hh.2,hwv]
   unfold O5
   by_cases hI:cE t
   ·rw[ak hI]
    unfold cE at hI
    rw[ec (by split<;>split<;>omega),bg,av]
    exact UA (by split<;>omega) rfl
   ·rw[ah hI]
    unfold cE at hI
    rw[eN (by split<;>split<;>omega),dt,aj]
theorem FJ(N:Nat){ws:List Int}(h: ∀x∈ws,cE x)(hl:ws.length≤1000000)(hN:1000000<N):nP N (ws.map cH)=some (O5 ws.sum):=by
 unfold nP nP.b
 rw[cz]
 exact Kr N h hl ws.length N 0 0 ω ω ω (by simp)
theorem vZ(N:Nat)(a lo hi:Int):E1 N a lo hi=some (decide (lo≤a∧a≤hi)):=by
 unfold E1
 rw[ct,m8]
 by_cases h:lo≤a
 ·rw[ak h];congr 1;rw[n6];omega
 ·rw[ah h,bu ω]
theorem Ks(N:Nat)(a lo hi:Int):JI N a lo hi=some (decide (lo≤a∧a≤hi)):=vZ N a lo hi
def oq(a b c d:Int):Prop:=(0≤a∧a≤3)∧(1≤b∧b≤1000000000000)∧(0≤c∧c≤1000000000)∧(0≤d∧d≤1000000000)
instance(a b c d:Int):Decidable (oq a b c d):=by unfold oq;infer_instance
def qN(l:aO)(i:Nat):Prop:=oq (l.getD i ba).1 (l.getD i ba).2.1 (l.getD i ba).2.2.1 (l.getD i ba).2.2.2.1
instance(l:aO):DecidablePred (qN l):=λi=>by unfold qN;infer_instance
def ot(a b c d e f:Int):Prop:=0≤a∧(0≤b∧b≤4)∧(0≤c∧c≤1000000)∧(0≤d∧d≤1000000)∧(1≤e∧e≤4611686018427387904)∧0≤f
instance(a b c d e f:Int):Decidable (ot a b c d e f):=by unfold ot;infer_instance
def qO(c:ae):Prop:=ot c.2.1 c.2.2.1 c.2.2.2.1 c.2.2.2.2.1 c.2.2.2.2.2.1 c.2.2.2.2.2.2.1
instance(c:ae):Decidable (qO c):=by unfold qO;infer_instance
def eL(c:ae):Bool:=decide (1≤c.1.length∧c.1.length≤6)&&(decide (∀j,j<c.1.length→qN c.1 j)&&decide (qO c))
theorem FK(N:Nat)(hN:100≤N)(c:ae):CC N c=some (eL c):=by
 unfold CC CC.b eL
 rw[vZ,ar,cond_not,fW]
 by_cases hl:1≤c.1.length∧c.1.length≤6
 ·rw[ak ω,aV hl,kU]
  refine iB (F:=λn i=>CC.l4 N n c c.1 (c.1.length:Int) i) (qN c.1) (λn i r hi hp hr=> ?_) (λn=> ?_) N ω
  ·unfold CC.l4 CC.dL
   rw[aQ ω,aj,aU ω ω,aj,aG,aw ω ω,af]
   simp only[vZ,ar,cond_not,fW]
   by_cases hP:qN c.1 i
   ·rw[ak hP];unfold qN oq at hP
    repeat' split
    all_goals first|rfl|exact hr|omega
   ·rw[ah hP];unfold qN oq at hP
    repeat' split
    all_goals first|rfl|exact hr|omega
  ·unfold CC.l4 CC.dL
   rw[aP ω,av]
   simp only[vZ,ar,cond_not,fW,ct,m8]
   by_cases hP:qO c
   ·rw[aV hP];unfold qO ot at hP
    repeat' split
    all_goals first|rfl|omega|(rw[aV ω])
   ·rw[bu hP];unfold qO ot at hP
    repeat' split
    all_goals first|rfl|omega|(rw[bu ω])
 ·rw[ah ω,bu hl,uR]
theorem mL(N:Nat)(hN:100≤N)(c:ae):nj N c=some (eL c):=by
 unfold nj nj.b eL
 rw[bZ,bZ]
 by_cases hl:1≤c.1.length∧c.1.length≤6
 ·rw[ah ω,ah ω,aV hl,kU]
  refine iB (F:=λn i=>nj.l4 N n c i) (qN c.1) (λn i r hi hp hr=> ?_) (λn=> ?_) N ω
  ·unfold nj.l4 nj.dL
   rw[aQ ω,aj,aU ω ω,aj,aG,aw ω ω,af]
   simp only[Ks,ar,cond_not,fW]
   by_cases hP:qN c.1 i
   ·rw[ak hP];unfold qN oq at hP
    repeat' split
    all_goals first|rfl|exact hr|omega
   ·rw[ah hP];unfold qN oq at hP
    repeat' split
    all_goals first|rfl|exact hr|omega
  ·unfold nj.l4 nj.dL
   rw[aP ω,av]
   simp only[Ks,ar,cond_not,fW,ct,m8]
   by_cases hP:qO c
   ·rw[aV hP];unfold qO ot at hP
    repeat' split
    all_goals first|rfl|omega|(rw[aV ω])
   ·rw[bu hP];unfold qO ot at hP
    repeat' split
    all_goals first|rfl|omega|(rw[bu ω])
 ·rw[bu hl,uR]
  by_cases h:(c.1.length:Int)<1
  ·rw[ak h]
  ·rw[ah h,ak ω]
def jy(a b:Int)(i:Nat)(c:Int):Prop:=1≤a∧a≤12∧1≤b∧b≤4∧(0<i→c<a)
instance(a b:Int)(i:Nat)(c:Int):Decidable (jy a b i c):=by unfold jy;infer_instance
def gw(m:aE)(i:Nat):Prop:=jy (m.getD i c5).1 (m.getD i c5).2.1 i (m.getD (i-1) c5).1
instance(m:aE):DecidablePred (gw m):=λi=>by unfold gw;infer_instance
def dM(m:aE):Bool:=decide (∀j,j<m.length→gw m j)&&true
theorem Hv(N:Nat){m:aE}(hl:m.length≤100000)(hN:200000≤N):qh N m=some (dM m):=by
 unfold qh qh.b
 refine iB (F:=λn i=>qh.l2 N n m m (m.length:Int) i) (gw m) (λn i r hi hp hr=> ?_) (λn=> ?_) N ω
 ·unfold qh.l2 qh.fI
  rw[aQ ω,aj,aU ω ω,aj,aG,aw (x:=(i:Int)+1) ω ω,af]
  by_cases h0:0<i
  ·have e:W .i64 ((i:Int)-1)=((i-1:Nat):Int):=by rw[aw ω ω];omega
   dsimp only
   rw[aQ (x:=0) ω,aj,e,aG,aU ω ω,aj]
   simp only[bZ,ct]
   by_cases hP:gw m i
   ·rw[ak hP];unfold gw jy at hP
    repeat' split
    all_goals first|rfl|exact hr|omega
   ·rw[ah hP];unfold gw jy at hP
    repeat' split
    all_goals first|rfl|exact hr|omega
  ·rw[aP (x:=0) ω,av]
   simp only[bZ,ct]
   by_cases hP:gw m i
   ·rw[ak hP];unfold gw jy at hP
    repeat' split
    all_goals first|rfl|exact hr|omega
   ·rw[ah hP];unfold gw jy at hP
    repeat' split
    all_goals first|rfl|exact hr|omega
 ·unfold qh.l2 qh.fI
  rw[aP ω,av]
theorem nH(N:Nat){m:aE}(hl:m.length≤100000)(hN:200000≤N):CD N m=some (dM m):=by
 unfold CD CD.b
 refine iB (F:=λn i=>CD.l2 N n m i) (gw m) (λn i r hi hp hr=> ?_) (λn=> ?_) N ω
 ·unfold CD.l2 CD.fI
  rw[aQ ω,aj,aU ω ω,aj,aG,aw (x:=(i:Int)+1) ω ω,af]
  by_cases h0:0<i
  ·have e:W .i64 ((i:Int)-1)=((i-1:Nat):Int):=by rw[aw ω ω];omega
   dsimp only
   rw[aQ (x:=0) ω,e,aG,aU (i:=((i-1:Nat):Int)) ω ω]
   simp only[bZ,ct,aj]
   by_cases hP:gw m i
   ·rw[ak hP];unfold gw jy at hP
    repeat' split
    all_goals first|rfl|exact hr|omega
   ·rw[ah hP];unfold gw jy at hP
    repeat' split
    all_goals first|rfl|exact hr|omega
  ·rw[aP (x:=0) ω]
   simp only[bZ,ct,aj,av]
   by_cases hP:gw m i
   ·rw[ak hP];unfold gw jy at hP
    repeat' split
    all_goals first|rfl|exact hr|omega
   ·rw[ah hP];unfold gw jy at hP
    repeat' split
    all_goals first|rfl|exact hr|omega
 ·unfold CD.l2 CD.fI
  rw[aP ω,av]
def db(k n:Int):Prop:=(1≤k∧k≤4∧n=0)∨(k=5∧1≤n∧n≤24)∨(6≤k∧k≤7∧1≤n∧n≤12)
instance(k n:Int):Decidable (db k n):=by unfold db;infer_instance
theorem SF(N:Nat)(k n:Int):SG N k n=some (decide (db k n)):=by
 unfold SG
 simp only[aI,ct]
 simp only[m8,jP]
 by_cases hP:db k n
 ·rw[aV hP];unfold db at hP
  repeat' split
  all_goals first|rfl|omega|(rw[aV ω])
 ·rw[bu hP];unfold db at hP
  repeat' split
  all_goals first|rfl|omega|(rw[bu ω])
theorem ac3(N:Nat)(k n:Int):SH N k n=some (decide (db k n)):=by
 have:=SF N k n
 unfold SG at this
 unfold SH
 exact this
def mc(a b c d:Int):Prop:=a<c∨(a=c∧b<d)
instance(a b c d:Int):Decidable (mc a b c d):=by unfold mc;infer_instance
def CY(k n a b:Int):Int:=if k=a then n-b else k-a
def JJ(x:Int):Prop:= -1000000≤x∧x≤1000000
theorem Hw(N:Nat){k n:Int}{r:dh}(h1:JJ k)(h2:JJ n)(h3:JJ r.1)(h4:JJ r.2.1):SJ N k n r=some (CY k n r.1 r.2.1):=by
 unfold SJ CY
 unfold JJ at*
 rw[cond_not,aI]
 split
 ·rw[aw ω ω]
 ·rw[aw ω ω]
theorem Kt(N:Nat){k n:Int}{r:dh}(h1:JJ k)(h2:JJ n)(h3:JJ r.1)(h4:JJ r.2.1):Wp N k n r=some (CY k n r.1 r.2.1):=Hw N h1 h2 h3 h4
def nk(a b c:Int)(i:Nat)(d e:Int):Prop:=db a b∧c≠0∧(0<i→mc d e a b)
instance(a b c:Int)(i:Nat)(d e:Int):Decidable (nk a b c i d e):=by unfold nk;infer_instance
def mM(l:au)(i:Nat):Prop:=nk (l.getD i bb).1 (l.getD i bb).2.1 (l.getD i bb).2.2.1 i (l.getD (i-1) bb).1 (l.getD (i-1) bb).2.1
instance(l:au):DecidablePred (mM l):=λi=>by unfold mM;infer_instance
def fb(l:au):Bool:=decide (∀j,j<l.length→mM l j)&&true
theorem Md(N:Nat){l:au}(hl:l.length≤100000)(hN:200000≤N):CZ N l=some (fb l):=by
 unfold CZ CZ.b
 refine iB (F:=λn i=>CZ.l2 N n l l (l.length:Int) i) (mM l) (λn i r hi hp hr=> ?_) (λn=> ?_) N ω
 ·unfold CZ.l2 CZ.fI
  rw[aQ ω,aj,aU ω ω,aj,aG,aw (x:=(i:Int)+1) ω ω,af,SF,ar,cond_not,fW]
  by_cases hK:db (l.getD i bb).1 (l.getD i bb).2.1
  ·rw[ak hK]
   by_cases h0:0<i
   ·have hq:=hp (i-1) ω
    have e:W .i64 ((i:Int)-1)=((i-1:Nat):Int):=by rw[aw ω ω];omega
    dsimp only
    rw[aQ (x:=0) ω,aj,e,aG,aU ω ω,aj]
    unfold mM nk at hq
    have hq:=hq.1
    rw[Hw N (by unfold db at hK;unfold JJ;omega) (by unfold db at hK;unfold JJ;omega) (by unfold db at hq;unfold JJ;omega) (by unfold db at hq;unfold JJ;omega),ar,aI,ct]
    by_cases hP:mM l i
    ·rw[ak hP];unfold mM nk mc at hP;unfold CY
     have SK:=hP.2
     repeat' split
     all_goals first|rfl|exact hr|omega
    ·rw[ah hP];unfold mM nk mc at hP;unfold CY
     have SK:=λh=>hP ⟨hK,h⟩
     repeat' split
     all_goals first|rfl|exact hr|omega|(exfalso;exact SK ω)
   ·rw[aP (x:=0) ω,av,aI]
    by_cases hP:mM l i
    ·rw[ak hP];unfold mM nk at hP
     rw[ah hP.2.1];exact hr
    ·rw[ah hP];unfold mM nk at hP
     have SK:=λh=>hP ⟨hK,h,λh=>absurd h h0⟩
     split
     ·rfl
     ·exact absurd (by assumption) SK
  ·rw[ah hK,ah (λh=>hK (by unfold mM nk at h;exact h.1))]
 ·unfold CZ.l2 CZ.fI
  rw[aP ω,av]
theorem Hy(N:Nat){l:au}(hl:l.length≤100000)(hN:200000≤N):C0 N l=some (fb l):=by
 unfold C0 C0.b
 refine iB (F:=λn i=>C0.l2 N n l i) (mM l) (λn i r hi hp hr=> ?_) (λn=> ?_) N ω
 ·unfold C0.l2 C0.fI
  rw[aQ ω,aj,aU ω ω,aj,aG,aw (x:=(i:Int)+1) ω ω,af,ac3,ar,cond_not,fW]
  by_cases hK:db (l.getD i bb).1 (l.getD i bb).2.1
  ·rw[ak hK]
   by_cases h0:0<i
   ·have e:W .i64 ((i:Int)-1)=((i-1:Nat):Int):=by rw[aw ω ω];omega
    dsimp only
    rw[aQ (x:=0) ω,e,aG,aU (i:=((i-1:Nat):Int)) ω ω]
    simp only[bZ,ct,aI,aj]
    by_cases hP:mM l i
    ·rw[ak hP];unfold mM nk mc at hP
     have SK:=hP.2
     repeat' split
     all_goals first|rfl|exact hr|omega
    ·rw[ah hP];unfold mM nk mc at hP
     have SK:=λh=>hP ⟨hK,h⟩
     repeat' split
     all_goals first|rfl|exact hr|omega|(exfalso;exact SK ω)
   ·rw[aP (x:=0) ω]
    simp only[bZ,ct,aI,aj,av]
    by_cases hP:mM l i
    ·rw[ak hP];unfold mM nk at hP
     rw[ah hP.2.1];exact hr
    ·rw[ah hP];unfold mM nk at hP
     have SK:=λh=>hP ⟨hK,h,λh=>absurd h h0⟩
     split
     ·rfl
     ·exact absurd (by assumption) SK
  ·rw[ah hK,ah (λh=>hK (by unfold mM nk at h;exact h.1))];rfl
 ·unfold C0.l2 C0.fI
  rw[aP ω,av]
def cc(a b:Int):Prop:=0≤a∧a≤24∧0≤b∧b<6
instance(a b:Int):Decidable (cc a b):=by unfold cc;infer_instance
theorem UB(N:Nat)(a b:Int):Zt N a b=some (decide (cc a b)):=by
 unfold Zt
 simp only[ct]
 simp only[qH]
 by_cases hP:cc a b
 ·rw[aV hP];unfold cc at hP
  repeat' split
  all_goals first|rfl|omega|(rw[aV ω])
 ·rw[bu hP];unfold cc at hP
  repeat' split
  all_goals first|rfl|omega|(rw[bu ω])
def rA(q:Int):Prop:=q≠ -9223372036854775808
instance(q:Int):Decidable (rA q):=by unfold rA;infer_instance
theorem tT(N:Nat)(q:Int):SL N q=some (decide (rA q)):=by
 unfold SL rA
 rw[jP]
 by_cases h:q= -9223372036854775808<;>simp[h]
def nn(a b c:Int)(i:Nat)(d e:Int):Prop:=cc a b∧c≠0∧rA c∧(0<i→mc d e a b)
instance(a b c:Int)(i:Nat)(d e:Int):Decidable (nn a b c i d e):=by unfold nn;infer_instance
def mN(l:au)(i:Nat):Prop:=nn (l.getD i bb).1 (l.getD i bb).2.1 (l.getD i bb).2.2.1 i (l.getD (i-1) bb).1 (l.getD (i-1) bb).2.1
instance(l:au):DecidablePred (mN l):=λi=>by unfold mN;infer_instance
def di(l:au):Bool:=decide (∀j,j<l.length→mN l j)&&true
theorem yf(N:Nat){l:au}(hl:l.length≤100000)(hN:200000≤N):ou N l=some (di l):=by
 unfold ou ou.b
 refine iB (F:=λn i=>ou.l2 N n l l (l.length:Int) i) (mN l) (λn i r hi hp hr=> ?_) (λn=> ?_) N ω
 ·unfold ou.l2 ou.fI
  rw[aQ ω,aj,aU ω ω,aj,aG,aw (x:=(i:Int)+1) ω ω,af,UB,ar,cond_not,fW,tT,ar,cond_not,fW]
  by_cases hK:cc (l.getD i bb).1 (l.getD i bb).2.1
  ·rw[ak hK]
   by_cases h0:0<i
   ·have hq:=hp (i-1) ω
    have e:W .i64 ((i:Int)-1)=((i-1:Nat):Int):=by rw[aw ω ω];omega
    dsimp only
    rw[aQ (x:=0) ω,aj,e,aG,aU ω ω,aj]
    unfold mN nn at hq
    have hq:=hq.1
    rw[Kt N (by unfold cc at hK;unfold JJ;omega) (by unfold cc at hK;unfold JJ;omega) (by unfold cc at hq;unfold JJ;omega) (by unfold cc at hq;unfold JJ;omega),ar,aI,ct]
    by_cases hP:mN l i
    ·rw[ak hP];unfold mN nn mc at hP;unfold CY
     obtain⟨_,hP1,SK,hP3⟩:=hP
     rw[ak SK]
     repeat' split
     all_goals first|rfl|exact hr|omega
    ·rw[ah hP];unfold mN nn mc at hP;unfold CY
     have SK:=λh1 h2 h3=>hP ⟨hK,h1,h2,h3⟩
     repeat' split
     all_goals first|rfl|exact hr|(exfalso;exact SK (by assumption) (by assumption) ω)|omega
   ·rw[aP (x:=0) ω,av,aI]
    by_cases hP:mN l i
    ·rw[ak hP];unfold mN nn at hP
     rw[ah hP.2.1,ak hP.2.2.1];exact hr
    ·rw[ah hP];unfold mN nn at hP
     have SK:=λh1 h2=>hP ⟨hK,h1,h2,λh=>absurd h h0⟩
     split
     ·rfl
     ·split
      ·exact(SK (by assumption) (by assumption)).elim
      ·rfl
  ·rw[ah hK,ah (λh=>hK (by unfold mN nn at h;exact h.1))]
 ·unfold ou.l2 ou.fI
  rw[aP ω,av]
theorem lT(N:Nat){l:au}(hl:l.length≤100000)(hN:200000≤N):AH N l=some (di l):=by
 unfold AH AH.b
 refine iB (F:=λn i=>AH.l2 N n l i) (mN l) (λn i r hi hp hr=> ?_) (λn=> ?_) N ω
 ·unfold AH.l2 AH.fI
  rw[aQ ω,aj,aU ω ω,aj,aG,aw (x:=(i:Int)+1) ω ω,af]
  by_cases h0:0<i
  ·have e:W .i64 ((i:Int)-1)=((i-1:Nat):Int):=by rw[aw ω ω];omega
   dsimp only
   rw[aQ (x:=0) (y:=(i:Int)) ω,e,aG,aU (i:=((i-1:Nat):Int)) ω ω]
   simp only[bZ,ct,aI,aj]
   by_cases hP:mN l i
   ·rw[ak hP];unfold mN nn mc rA cc at hP
    repeat' split
    all_goals first|rfl|exact hr|omega
   ·rw[ah hP];unfold mN nn mc rA cc at hP
    repeat' split
    all_goals first|rfl|exact hr|omega|(exfalso;exact hP ω)
  ·rw[aP (x:=0) (y:=(i:Int)) ω]
   simp only[bZ,ct,aI,aj,av]
   by_cases hP:mN l i
   ·rw[ak hP];unfold mN nn mc rA cc at hP
    repeat' split
    all_goals first|rfl|exact hr|omega
   ·rw[ah hP];unfold mN nn mc rA cc at hP
    repeat' split
    all_goals first|rfl|exact hr|omega|(exfalso;exact hP ω)
 ·unfold AH.l2 AH.fI
  rw[aP ω,av]
theorem ia(a b:Int)(y:Bool):cond (dx a b) (some y) (some false)=some (decide (a≤b)&&y):=by
 rw[ct];by_cases h:a≤b<;>simp[h]
theorem Hz(a b:Int)(y:Bool):cond (aX a b) (some y) (some false)=some (decide (a<b)&&y):=by
 rw[bZ];by_cases h:a<b<;>simp[h]
theorem HA(a b:Int)(y:Bool):cond (aN a b) (some y) (some false)=some (decide (a=b)&&y):=by
 rw[aI];by_cases h:a=b<;>simp[h]
theorem C1(a b:Int)(y z:Bool):cond (aN a b) (some y) (some z)=some ((decide (a=b)&&y)||(!decide (a=b)&&z)):=by
 rw[aI];by_cases h:a=b<;>simp[h]
def Ao(a b c d e f:Int):Prop:=(1≤a∧a≤1099511627776)∧(1≤b∧b≤24)∧(0≤c∧c<6)∧(d=1∨d=2)∧(1≤e∧e≤1000000000)∧(1≤f∧f≤1000000000000)
instance(a b c d e f:Int):Decidable (Ao a b c d e f):=by unfold Ao;infer_instance
def rf(o:fX):Prop:=Ao o.1 o.2.1 o.2.2.1 o.2.2.2.1 o.2.2.2.2.1 o.2.2.2.2.2.1
instance(o:fX):Decidable (rf o):=by unfold rf;infer_instance
theorem ak9(N:Nat)(o:fX):ac4 N o=some (decide (rf o)):=by
 unfold ac4
 rw[m8 o.2.2.2.2.2.1]
 rw[ia,ia,ia,HA,C1,Hz,ia,ia,ia,ia,ia]
 congr 1
 rw[p5,fR]
 unfold rf Ao
 simp only[bP,ob,sb,xp,F7]
 omega
theorem C2(N:Nat)(p:Int):F81 N p=some (decide (1≤p∧p≤1000000000000)):=by
 unfold F81
 rw[m8 p,ia];congr 1
 rw[p5];simp only[bP,xp]
theorem jz(N:Nat)(p:Int):E2 N p=some (decide (1≤p∧p≤1000000000000)):=C2 N p
theorem BU(N:Nat)(o:fX):SM N o=some (decide (rf o)):=by
 unfold SM
 rw[jz,ar]
 repeat (first|rw[ia]|rw[Hz]|rw[HA]|rw[C1])
 congr 1
 rw[p5,fR]
 unfold rf Ao
 simp only[bP,ob,sb,xp,F7]
 omega
def ve(i:Nat)(a b:Int):Prop:=0<i→a<b
instance(i:Nat)(a b:Int):Decidable (ve i a b):=by unfold ve;infer_instance
def tU(l:aY)(i:Nat):Prop:=rf (l.getD i dS)∧ve i (l.getD (i-1) dS).1 (l.getD i dS).1
instance(l:aY):DecidablePred (tU l):=λi=>by unfold tU;infer_instance
def dk(l:aY):Bool:=decide (∀j,j<l.length→tU l j)&&decide (l.length≤32)
theorem C3(N:Nat){l:aY}(hl:l.length≤100000)(hN:200000≤N):C5 N l=some (dk l):=by
 unfold C5 C5.b
 refine iB (F:=λn i=>C5.l2 N n l l (l.length:Int) i) (tU l) (λn i r hi hp hr=> ?_) (λn=> ?_) N ω
 ·unfold C5.l2 C5.fI
  rw[aQ ω,aj,aU ω ω,aj,aG,aw (x:=(i:Int)+1) ω ω,af,ak9,ar,cond_not,fW]
  by_cases hK:rf (l.getD i dS)
  ·rw[ak hK]
   by_cases h0:0<i
   ·have e:W .i64 ((i:Int)-1)=((i-1:Nat):Int):=by rw[aw ω ω];omega
    dsimp only
    rw[aQ (x:=0) ω,aj,e,aG,aU ω ω,aj,ct]
    by_cases hP:tU l i
    ·rw[ak hP,ah (by have h2:=hP.2;unfold ve at h2;omega)];exact hr
    ·rw[ah hP,ak]
     have h2: ¬ve i (l.getD (i-1) dS).1 (l.getD i dS).1:=λh=>hP ⟨hK,h⟩
     unfold ve at h2
     omega
   ·rw[aP (x:=0) ω,av,ak ⟨hK,λh=>absurd h h0⟩];exact hr
  ·rw[ah hK,ah (λh=>hK h.1)]
 ·unfold C5.l2 C5.fI
  rw[aP ω,av,m8]
  congr 1;rw[n6];omega
theorem ib(N:Nat){l:aY}(hl:l.length≤100000)(hN:200000≤N):nQ N l=some (dk l):=by
 unfold nQ nQ.b
 by_cases h32:32<l.length
 ·rw[aQ ω,aj];unfold dk
  rw[bu (p:=l.length≤32) ω,Gn]
 rw[aP ω,av]
 have:=iB (F:=λn i=>nQ.l4 N n l i) (e:=true) (tU l) (λn i r hi hp hr=> ?_) (λn=> ?_) N (show l.length<N by omega)
 ·refine Eq.trans this ?_
  unfold dk
  rw[aV (p:=l.length≤32) ω]
 ·unfold nQ.l4 nQ.dL
  rw[aQ ω,aj,aU ω ω,aj,aG,aw (x:=(i:Int)+1) ω ω,af,BU,ar,cond_not,fW]
  by_cases hK:rf (l.getD i dS)
  ·rw[ak hK]
   by_cases h0:0<i
   ·have e:W .i64 ((i:Int)-1)=((i-1:Nat):Int):=by rw[aw ω ω];omega
    dsimp only
    rw[aQ (x:=0) ω,aj,aj,e,aG,aU ω ω,aj,ct]
    by_cases hP:tU l i
    ·rw[ak hP,ah (by have h2:=hP.2;unfold ve at h2;omega)];exact hr
    ·rw[ah hP,ak]
     have h2: ¬ve i (l.getD (i-1) dS).1 (l.getD i dS).1:=λh=>hP ⟨hK,h⟩
     unfold ve at h2
     omega
   ·rw[aP (x:=0) ω,av,ak ⟨hK,λh=>absurd h h0⟩];exact hr
  ·rw[ah hK,ah (λh=>hK h.1)]
 ·unfold nQ.l4 nQ.dL
  rw[aP ω,av]
def kJ(id:Int):aE→Int
 |[]=>0
 |x::t=>if x.1=id then x.2.1 else kJ id t
def vf(id:Int):aO→cL×Bool
 |[]=>(ba,false)
 |x::t=>if x.1=id then(x,true)else vf id t
def ov(id:Int):aO→Int
 |[]=>0
 |x::t=>if x.2.1=id then(if x.2.2.1=1 then x.1 else ov id t)else ov id t
theorem wa(id:Int)(x:BV)(t:aE):kJ id (x::t)=if x.1=id then x.2.1 else kJ id t:=rfl
theorem pn(id:Int)(x:cL)(t:aO):vf id (x::t)=if x.1=id then(x,true)else vf id t:=rfl
theorem tV(id:Int)(x:cL)(t:aO):ov id (x::t)=if x.2.1=id then(if x.2.2.1=1 then x.1 else ov id t)else ov id t:=rfl
theorem O6(N:Nat){m:aE}(hl:m.length≤100000)(hN:200000≤N)(id:Int):BW.l4 N N id m (m.length:Int) 0=some (kJ id m):=by
 refine Ee m c5 (λn i=>BW.l4 N n id m (m.length:Int) i) (λl=>some (kJ id l)) (λn i hi hr=> ?_) (λn=> ?_) N ω
 ·unfold BW.l4 BW.dL
  rw[aQ ω,aj,aU ω ω,aj,aG,aw (x:=(i:Int)+1) ω ω,af,hr,aI]
  rw[wa]
  split<;>rfl
 ·unfold BW.l4 BW.dL
  rw[aP ω,av];rfl
theorem iX(N:Nat){m:aE}(hl:m.length≤100000)(hN:200000≤N)(id:Int):AI N m id=some (kJ id m):=by
 unfold AI AI.b
 refine Ee m c5 (λn i=>AI.l2 N n m id i) (λl=>some (kJ id l)) (λn i hi hr=> ?_) (λn=> ?_) N ω
 ·unfold AI.l2 AI.fI
  rw[aQ ω,aj,aU ω ω,aj,aj,aG,aw (x:=(i:Int)+1) ω ω,af,hr,aI]
  rw[wa]
  split<;>rfl
 ·unfold AI.l2 AI.fI
  rw[aP ω,av];rfl
def fY(m:aE)(id:Int):Int:=if dM m then kJ id m else 0
theorem C6(N:Nat){m:aE}(hl:m.length≤100000)(hN:200000≤N)(id:Int):BW N m id=some (fY m id):=by
 unfold BW BW.b fY
 rw[Hv N hl hN,ar,cond_not,O6 N hl hN]
 cases dM m<;>rfl
theorem pq(N:Nat){m:aE}(hl:m.length≤100000)(hN:200000≤N)(id:Int):UC N m id=some (fY m id):=by
 unfold UC fY
 rw[nH N hl hN,ar,cond_not,iX N hl hN]
 cases dM m<;>rfl
theorem Wq(N:Nat){m:aO}(hl:m.length≤100000)(hN:200000≤N)(id:Int):qi.l4 N N id ba m (m.length:Int) 0=some (vf id m):=by
 refine Ee m ba (λn i=>qi.l4 N n id ba m (m.length:Int) i) (λl=>some (vf id l)) (λn i hi hr=> ?_) (λn=> ?_) N ω
 ·unfold qi.l4 qi.dL
  rw[aQ ω,aj,aU ω ω,aj,aG,aw (x:=(i:Int)+1) ω ω,af,hr,aI]
  rw[pn]
  split<;>rfl
 ·unfold qi.l4 qi.dL
  rw[aP ω,av];rfl
theorem sK(N:Nat){m:aO}(hl:m.length≤100000)(hN:200000≤N)(id:Int):oX N m id=some (vf id m):=by
 unfold oX oX.b
 refine Ee m ba (λn i=>oX.l2 N n m id ba i) (λl=>some (vf id l)) (λn i hi hr=> ?_) (λn=> ?_) N ω
 ·unfold oX.l2 oX.fI
  rw[aQ ω,aj,aU ω ω,aj,aj,aG,aw (x:=(i:Int)+1) ω ω,af,hr,aI]
  rw[pn]
  split<;>rfl
 ·unfold oX.l2 oX.fI
  rw[aP ω,av];rfl
theorem O7(N:Nat){m:aO}(hl:m.length≤100000)(hN:200000≤N)(id:Int):np.l4 N N m id 0=some (ov id m):=by
 refine Ee m ba (λn i=>np.l4 N n m id i) (λl=>some (ov id l)) (λn i hi hr=> ?_) (λn=> ?_) N ω
 ·unfold np.l4 np.dL
  rw[aQ ω,aj,aU ω ω]
  simp only[aj]
  rw[aG,aw (x:=(i:Int)+1) ω ω,af,hr,aI,aI]
  rw[tV]
  split
  ·split<;>rfl
  ·rfl
 ·unfold np.l4 np.dL
  rw[aP ω,av];rfl
def dI(a b:Int):Prop:=a=b
instance(a b:Int):Decidable (dI a b):=by unfold dI;infer_instance
def zM(l:aO)(k:Nat)(m:Int):Prop:=dI (l.getD k ba).2.2.1 1∧dI (l.getD k ba).2.1 m
instance(l:aO)(k:Nat)(m:Int):Decidable (zM l k m):=by unfold zM;infer_instance
def m4(l:aO)(i:Nat)(m:Int):Bool:=(List.range i).any λk=>decide (zM l k m)
theorem yg{l:aO}{i:Nat}{m:Int}:m4 l i m=true↔ ∃k,k<i∧zM l k m:=by
 unfold m4
 rw[A0]
 simp only[sj,fR]
theorem wb(l:aO)(i:Nat)(m:Int):m4 l (i+1) m=(m4 l i m||decide (zM l i m)):=by
 unfold m4
 rw[Gk,List.any_append];simp
def nq(a b c d:Int):Prop:=(1≤a∧a≤24)∧(1≤b∧b≤12)∧(c=1∨c=2)∧(0≤d∧d≤1000000000000)
instance(a b c d:Int):Decidable (nq a b c d):=by unfold nq;infer_instance
def ln(l:aO)(i:Nat):Prop:= ¬(dI (l.getD i ba).2.2.1 1∧m4 l i (l.getD i ba).2.1=true)
instance(l:aO)(i:Nat):Decidable (ln l i):=by unfold ln;infer_instance
def BX(l:aO)(i:Nat):Prop:=nq (l.getD i ba).1 (l.getD i ba).2.1 (l.getD i ba).2.2.1 (l.getD i ba).2.2.2.1∧ve i (l.getD (i-1) ba).1 (l.getD i ba).1∧ln l i
instance(l:aO):DecidablePred (BX l):=λi=>by unfold BX;infer_instance
def gL(l:aO):Bool:=decide (∀j,j<l.length→BX l j)&&true
def fZ(l:aO)(i:Nat):List Bool:=(List.range 13).map λ(m:Nat)=>m4 l i (m:Int)
theorem Wr{l:aO}{i:Nat}{b:Int}(h0:0≤b)(h1:b<13):(fZ l i).getD b.toNat false=m4 l i b:=by
 unfold fZ
 rw[aW,n0,List.getElem?_range ω]
 show m4 l i ((b.toNat:Nat):Int)=_
 rw[uI h0]
theorem O8{l:aO}{i:Nat}(h: ¬dI (l.getD i ba).2.2.1 1):fZ l (i+1)=fZ l i:=by
 unfold fZ
 refine p4 λm _=> ?_
 rw[wb,bu (λh'=>h h'.1),sl]
theorem SN{l:aO}{i:Nat}(h:dI (l.getD i ba).2.2.1 1)(h0:(0:Int)≤(l.getD i ba).2.1):(fZ l i).set ((l.getD i ba).2.1:Int).toNat true=fZ l (i+1):=by
 refine List.ext_getElem (by unfold fZ;simp) λk h1 h2=> ?_
 unfold fZ at*
 rw[List.getElem_set]
 simp only[List.getElem_map,Gf]
 rw[wb]
 by_cases hk:((l.getD i ba).2.1:Int).toNat=k
 ·rw[ak hk,aV (show zM l i (k:Int)from⟨h,by unfold dI;omega⟩),Bool.or_true]
 ·rw[ah hk,bu (λh':zM l i (k:Int)=>hk (by have:=h'.2;unfold dI at this;omega)),sl]
theorem Me(N:Nat){l:aO}(hl:l.length≤100000)(hN:200000≤N):nr N l=some (gL l):=by
 unfold nr nr.b
 have h0:(List.replicate 13 false:List Bool)=fZ l 0:=by unfold fZ m4;rfl
 rw[h0]
 have:=iB (F:=λn i=>nr.l3 N n l (fZ l i.toNat) l (l.length:Int) i) (e:=true) (BX l) (λn i r hi hp hr=> ?_) (λn=> ?_) N (show l.length<N by omega)
 ·exact this
 ·simp only[aG]at hr ⊢
  unfold nr.l3 nr.m3
  rw[aQ ω,aj,aU ω ω,aj]
  simp only[aG]
  rw[aw (x:=(i:Int)+1) ω ω,af]
  by_cases hF:nq (l.getD i ba).1 (l.getD i ba).2.1 (l.getD i ba).2.2.1 (l.getD i ba).2.2.2.1
  ·have UD:=hF
   unfold nq at UD
   have hT:cond (aN (l.getD i ba).2.2.1 1) (cond (bf (l.getD i ba).2.1 13) (cond (γ (fZ l i) (l.getD i ba).2.1.toNat false) (some false) (cond (bf (l.getD i ba).2.1 13) (nr.l3 N n l (List.set (fZ l i) (l.getD i ba).2.1.toNat true) l (l.length:Int) ((i+1:Nat):Int)) none)) none) (nr.l3 N n l (fZ l i) l (l.length:Int) ((i+1:Nat):Int))=if ln l i then r else some false:=by
    rw[aI]
    by_cases hk:dI (l.getD i ba).2.2.1 1
    ·have Bu:=hk
     unfold dI at Bu
     rw[ak Bu,aU ω ω,aj,aj,Wr ω ω,SN hk ω,hr]
     by_cases ho:m4 l i (l.getD i ba).2.1=true
     ·have rm: ¬ln l i:=λh=>h ⟨hk,ho⟩
      rw[ah rm,ho];rfl
     ·have rm:ln l i:=λh=>ho h.2
      rw[ak rm,xq.2 ho];rfl
    ·have Bu:=hk
     unfold dI at Bu
     rw[ah Bu,ak (show ln l i from λh=>hk h.1),←O8 hk,hr]
   have hP:BX l i↔ve i (l.getD (i-1) ba).1 (l.getD i ba).1∧ln l i:=⟨λh=>h.2,λh=>⟨hF,h⟩⟩
   have hD:(if BX l i then r else some false)=if ve i (l.getD (i-1) ba).1 (l.getD i ba).1 then(if ln l i then r else some false)else some false:=by
    by_cases h1:ve i (l.getD (i-1) ba).1 (l.getD i ba).1<;>by_cases h2:ln l i<;>simp[hP,h1,h2]
   rw[hD]
   rw[hT]
   rw[aP ω,av,aP ω,av,aP ω,av,aP ω,av,aP (x:=(l.getD i ba).2.2.2.1) ω,aP (x:=1000000000000) ω]
   simp only[av]
   have hm: ∀{α:Type} (x:α) (y:α),cond (!aN (l.getD i ba).2.2.1 1) (cond (!aN (l.getD i ba).2.2.1 2) y x) x=x:=by
    intro α x y
    rcases UD.2.2.1 with h|h
    ·rw[ec h];rfl
    ·rw[ec (y:=2) h];cases aN (l.getD i ba).2.2.1 1<;>rfl
   rw[hm]
   by_cases h0:0<i
   ·have e:W .i64 ((i:Int)-1)=((i-1:Nat):Int):=by rw[aw ω ω];omega
    rw[aQ (x:=0) ω,aj,e,aG,aU ω ω,aj,ct]
    by_cases h1:ve i (l.getD (i-1) ba).1 (l.getD i ba).1
    ·rw[ak h1,ah (by unfold ve at h1;omega)]
    ·rw[ah h1,ak (by unfold ve at h1;omega)]
   ·rw[aP (x:=0) ω,av,ak (show ve i (l.getD (i-1) ba).1 (l.getD i ba).1 from λh=>absurd h h0)]
  ·rw[ah (λh=>hF h.1)]
   unfold nq at hF
   generalize cond (aN (l.getD i ba).2.2.1 1) (cond (bf (l.getD i ba).2.1 13) (cond (γ (fZ l i) (l.getD i ba).2.1.toNat false) (some false) (cond (bf (l.getD i ba).2.1 13) (nr.l3 N n l (List.set (fZ l i) (l.getD i ba).2.1.toNat true) l (l.length:Int) ((i+1:Nat):Int)) none)) none) (nr.l3 N n l (fZ l i) l (l.length:Int) ((i+1:Nat):Int))=t
   generalize cond (aX 0 (i:Int)) _ _=u
   simp only[cond_not,bZ,aI]
   repeat' split
   all_goals first|rfl|omega
 ·unfold nr.l3 nr.m3
  rw[aP ω,av]
theorem C8(N:Nat)(K:aO→Int→Option Bool){l:aO}(hl:l.length≤100000){i:Nat}(hi:i<l.length): ∀(m n k:Nat),i-k≤m→m<n→k≤i→(dI (l.getD i ba).2.2.1 1→m4 l k (l.getD i ba).2.1=false)→
  e8.l8 N K n l (i:Int) (l.getD i ba) (k:Int)=if ln l i then K l ((i+1:Nat):Int)else some false
 |m,0,k,_,hn,_,_=>ω
 |m,n+1,k,hm,hn,hk,h=>by
  unfold e8.l8 e8.Ef
  by_cases G0:k<i
  ·rw[aQ ω,aj,aU ω ω,aj,aj,aG,aw (x:=(k:Int)+1) ω ω,af,aI,aI,aI]
   by_cases h1:dI (l.getD i ba).2.2.1 1
   ·have ru:=h1
    unfold dI at ru
    rw[ak ru]
    by_cases h2:zM l k (l.getD i ba).2.1
    ·have zL:=h2
     unfold zM dI at zL
     have rm: ¬ln l i:=λh3=>h3 ⟨h1,yg.2 ⟨k,G0,h2⟩⟩
     rw[ak zL.1,ak zL.2,ah rm]
    ·have BT:=C8 N K hl hi (m-1) n (k+1) ω ω ω (λ_=>by rw[wb,h h1,bu h2];rfl)
     split
     ·split
      ·rename_i h3 h4
       exact absurd (show zM l k (l.getD i ba).2.1 from⟨h3,h4⟩) h2
      ·exact BT
     ·exact BT
   ·have ru:=h1
    unfold dI at ru
    rw[ah ru]
    exact C8 N K hl hi (m-1) n (k+1) ω ω ω (λh=>absurd h h1)
  ·have:k=i:=ω
   subst this
   have rm:ln l k:=λh3=>by rw[h h3.1]at h3;exact nomatch h3.2
   rw[aP ω,av,ak rm,aw (x:=(k:Int)+1) ω ω];rfl
set_option maxHeartbeats 2000000 in
theorem sL(N:Nat){l:aO}(hl:l.length≤100000)(hN:200000≤N):e8 N l=some (gL l):=by
 unfold e8 e8.b
 refine iB (F:=λn i=>e8.l2 N n l i) (BX l) (λn i r hi hp hr=> ?_) (λn=> ?_) N ω
 ·unfold e8.l2 e8.fI
  have hT:e8.j7 N (e8.l2 N n) l (i:Int) (l.getD i ba)=if ln l i then r else some false:=by
   unfold e8.j7 e8.X9
   have:=C8 N (e8.l2 N n) hl hi i N 0 ω ω ω (λ_=>rfl)
   rw[hr]at this
   exact this
  rw[aQ ω,aj,aU ω ω,aj]
  simp only[aG]
  rw[hT]
  have hD:(if BX l i then r else some false)=if nq (l.getD i ba).1 (l.getD i ba).2.1 (l.getD i ba).2.2.1 (l.getD i ba).2.2.2.1∧ve i (l.getD (i-1) ba).1 (l.getD i ba).1 then(if ln l i then r else some false)else some false:=by
   unfold BX
   by_cases h1:ve i (l.getD (i-1) ba).1 (l.getD i ba).1<;>by_cases h2:ln l i<;>by_cases h3:nq (l.getD i ba).1 (l.getD i ba).2.1 (l.getD i ba).2.2.1 (l.getD i ba).2.2.2.1<;>simp[h1,h2,h3]
  rw[hD]
  generalize (if ln l i then r else some false)=t
  by_cases h0:0<i
  ·have e:W .i64 ((i:Int)-1)=((i-1:Nat):Int):=by rw[aw ω ω];omega
   rw[aQ (x:=0) (y:=(i:Int)) ω,e]
   simp only[aj,aG]
   rw[aU (i:=((i-1:Nat):Int)) ω ω]
   simp only[cond_not,bZ,ct,aI,aj]
   by_cases hP:nq (l.getD i ba).1 (l.getD i ba).2.1 (l.getD i ba).2.2.1 (l.getD i ba).2.2.2.1∧ve i (l.getD (i-1) ba).1 (l.getD i ba).1
   ·rw[ak hP];unfold nq ve at hP
    repeat' split
    all_goals first|rfl|omega
   ·rw[ah hP];unfold nq ve at hP
    repeat' split
    all_goals first|rfl|omega
  ·rw[aP (x:=0) (y:=(i:Int)) ω]
   simp only[cond_not,bZ,ct,aI,aj,av]
   by_cases hP:nq (l.getD i ba).1 (l.getD i ba).2.1 (l.getD i ba).2.2.1 (l.getD i ba).2.2.2.1∧ve i (l.getD (i-1) ba).1 (l.getD i ba).1
   ·rw[ak hP];unfold nq ve at hP
    repeat' split
    all_goals first|rfl|omega
   ·rw[ah hP];unfold nq ve at hP
    repeat' split
    all_goals first|rfl|omega
 ·unfold e8.l2 e8.fI
  rw[aP ω,av]
end VM
end
section
namespace VM
open Go VM.F
def eM(a:aO)(id:Int):cL×Bool:=if gL a then vf id a else(ba,false)
theorem ac5(N:Nat){a:aO}(hl:a.length≤100000)(hN:200000≤N)(id:Int):qi N a id=some (eM a id):=by
 unfold qi qi.b eM
 rw[Me N hl hN,ar,cond_not,Wq N hl hN]
 cases gL a<;>rfl
theorem yh(N:Nat){a:aO}(hl:a.length≤100000)(hN:200000≤N)(id:Int):Ws N a id=some (eM a id):=by
 unfold Ws eM
 rw[sL N hl hN,ar,cond_not,sK N hl hN]
 cases gL a<;>rfl
def ow(a:aO)(id:Int):Int:=if gL a then ov id a else 0
theorem rU(N:Nat){a:aO}(hl:a.length≤100000)(hN:200000≤N)(id:Int):np N a id=some (ow a id):=by
 unfold np np.b ow
 rw[sL N hl hN,ar,cond_not,O7 N hl hN]
 cases gL a<;>rfl
def lU(m:aE)(a:aO)(i:Nat):Prop:= ¬dI (kJ (a.getD i ba).2.1 m) 0
instance(m:aE)(a:aO):DecidablePred (lU m a):=λi=>by unfold lU;infer_instance
def sM(m:aE)(a:aO):Bool:=dM m&&(gL a&&(decide (∀j,j<a.length→lU m a j)&&true))
theorem ac6(N:Nat){m:aE}{a:aO}(hm:m.length≤100000)(hl:a.length≤100000)(hN:200000≤N):E3 N m a=some (sM m a):=by
 unfold E3 E3.b sM
 rw[Hv N hm hN,ar,cond_not,Me N hl hN,ar,cond_not]
 cases hM:dM m
 ·rfl
 cases gL a
 ·rfl
 rw[kU,kU,aj,aj]
 refine iB (F:=λn i=>E3.l4 N n m a (a.length:Int) i) (lU m a) (λn i r hi hp hr=> ?_) (λn=> ?_) N ω
 ·unfold E3.l4 E3.dL
  rw[aQ ω,aj,aU ω ω,aj,aG,aw (x:=(i:Int)+1) ω ω,af,C6 N hm hN,ar,aI]
  unfold fY
  rw[hM,ak rfl]
  by_cases hP:lU m a i
  ·rw[ak hP,ah (show ¬((kJ (a.getD i ba).2.1 m:Int)=0)from λh=>hP h)];exact hr
  ·rw[ah hP,ak (show(kJ (a.getD i ba).2.1 m:Int)=0 by unfold lU at hP;exact Gi.1 hP)]
 ·unfold E3.l4 E3.dL
  rw[aP ω,av]
theorem yi(N:Nat){m:aE}{a:aO}(hm:m.length≤100000)(hl:a.length≤100000)(hN:200000≤N):pt N m a=some (sM m a):=by
 unfold pt pt.b sM
 rw[nH N hm hN,ar,cond_not,sL N hl hN,ar,cond_not]
 cases hM:dM m
 ·rfl
 cases gL a
 ·rfl
 rw[kU,kU,aj,aj]
 refine iB (F:=λn i=>pt.l4 N n m a i) (lU m a) (λn i r hi hp hr=> ?_) (λn=> ?_) N ω
 ·unfold pt.l4 pt.dL
  rw[aQ ω,aj,aU ω ω,aj,aG,aw (x:=(i:Int)+1) ω ω,af,iX N hm hN,ar,aI]
  by_cases hP:lU m a i
  ·rw[ak hP,ah (show ¬((kJ (a.getD i ba).2.1 m:Int)=0)from λh=>hP h)];exact hr
  ·rw[ah hP,ak (show(kJ (a.getD i ba).2.1 m:Int)=0 by unfold lU at hP;exact Gi.1 hP)]
 ·unfold pt.l4 pt.dL
  rw[aP ω,av]
theorem Zu(a b:bS):pb (.pair (.int .i64) (.pair (.int .u64) .unit)) a b=(aN a.1 b.1&&(aN a.2.1 b.2.1&&true)):=rfl
theorem UE(N:Nat){u v:Int}:Wt N (cH u) (cH v)=some (vV (u-v)):=by
 unfold Wt
 rw[Zu]
 unfold cH
 dsimp only
 unfold vV
 rw[bZ,aI,bZ,eZ,jP,jP]
 have hu:u=u/18446744073709551616*18446744073709551616+u%18446744073709551616:=ω
 have hv:v=v/18446744073709551616*18446744073709551616+v%18446744073709551616:=ω
 by_cases h1:u/18446744073709551616<v/18446744073709551616
 ·rw[ak h1];congr 1;split<;>(try split)<;>omega
 ·rw[ah h1]
  by_cases h2:u/18446744073709551616=v/18446744073709551616
  ·rw[ak h2,aV h2,kU]
   by_cases h3:u%18446744073709551616<v%18446744073709551616
   ·rw[ak h3];congr 1;split<;>(try split)<;>omega
   ·rw[ah h3]
    by_cases h4:u%18446744073709551616=v%18446744073709551616
    ·rw[aV h4,aj];congr 1;split<;>(try split)<;>omega
    ·rw[bu h4,av];congr 1;split<;>(try split)<;>omega
  ·rw[ah h2,bu h2,uR,av];congr 1;split<;>(try split)<;>omega
theorem SO:cH 0=c5:=rfl
theorem BY(N:Nat){u:Int}:F74 N (cH u)=some (vV u):=by
 unfold F74
 rw[←SO,UE,ar,Gr]
def dT(r:dh):Int:=r.2.2.1
def aF(x:Int):Prop:= -9223372036854775808≤x∧x<9223372036854775808
def eO(l:au):Prop:= ∀x∈l,aF (dT x)
theorem wc{l:au}(h:eO l)(i:Nat):aF (dT (l.getD i bb)):=by
 by_cases hi:i<l.length
 ·rw[aW,bl hi];exact h _ (dF hi)
 ·rw[aW,il ω];exact⟨δ,δ⟩
theorem O9{ws:List Int}(h: ∀x∈ws,aF x): -(9223372036854775808*(ws.length:Int))≤ws.sum∧ws.sum≤9223372036854775808*(ws.length:Int):=Ux ws h
theorem Ku{ws:List Int}(h: ∀x∈ws,aF x)(hl:ws.length≤1000000):cE ws.sum:=by
 have:=O9 h
 unfold cE;omega
theorem Wu{ws:List Int}(h: ∀x∈ws,aF x): ∀x∈ws,cE x:=λx hx=>by
 have:=h x hx
 unfold aF at this;unfold cE;omega
theorem Mf(N:Nat){ws:List Int}(h: ∀x∈ws,aF x)(hl:ws.length≤1000000)(hN:1000000<N):nP N (ws.map cH)=some (cH ws.sum,true):=by
 rw[FJ N (Wu h) hl hN]
 unfold O5
 rw[ak (Ku h hl)]
def iu(l:au):Int:=if fb l then(l.map dT).sum else 0
theorem SP(N:Nat){l:au}(hq:eO l)(hl:l.length≤100000)(hN:2000000≤N):Eg.l5 N N c5 [] l (l.length:Int) 0=some (cH (l.map dT).sum):=by
 have:=ll l bb (λn i ws=>Eg.l5 N n c5 (ws.map cH) l (l.length:Int) i) (λt ws=>some (cH (ws++t.map dT).sum)) (λi (ws:List Int)=>ws.length=i∧ ∀x∈ws,aF x)
  (λn i ws hi hI hr=> ?_) (λn ws hI=> ?_) l.length N 0 [] ω ω ω ⟨rfl,λx hx=>nomatch hx⟩
 ·simpa using this
 ·unfold Eg.l5 Eg.dU
  have lq:=wc hq i
  have jA:=lq
  unfold aF dT at jA
  rw[aQ ω,aj,aU ω ω,aj,aG,vY N jA.1 jA.2,ar,bH (by rw[cz,aK];omega),aj,aw ω ω,af]
  have:=hr (ws++[dT (l.getD i bb)]) ⟨by rw[aS,hI.1];rfl,λx hx=>by
   rcases bn.1 hx with hx|hx
   ·exact hI.2 x hx
   ·rw[cw.1 hx];exact lq⟩
  rw[dp]at this
  refine this.trans ?_
  rw[bV,bD];rfl
 ·unfold Eg.l5 Eg.dU
  rw[aP ω,av,Mf N hI.2 ω ω,ar,gQ,cy]
theorem Zv(N:Nat){l:au}(hq:eO l)(hl:l.length≤100000)(hN:2000000≤N):Eg N l=some (cH (iu l)):=by
 unfold Eg Eg.b iu
 rw[Md N hl ω,ar,cond_not,SP N hq hl hN]
 cases fb l<;>rfl
theorem Pb(N:Nat){l:au}(hq:eO l)(hl:l.length≤100000)(hN:4000000≤N):Eh.l5 N N l (cF 0) (cF 0) 0=some (cF (l.map dT).sum):=by
 have:=ll l bb (λn i ws=>Eh.l5 N n l (cF 0) (cF ws.sum) i) (λt ws=>some (cF (ws++t.map dT).sum)) (λi (ws:List Int)=>ws.length=i∧ ∀x∈ws,aF x)
  (λn i ws hi hI hr=> ?_) (λn ws hI=> ?_) l.length N 0 [] ω ω ω ⟨rfl,λx hx=>nomatch hx⟩
 ·simpa using this
 ·unfold Eh.l5 Eh.dU
  have lq:=wc hq i
  have jA:=lq
  unfold aF dT at jA
  have hb:=O9 hI.2
  rw[hI.1]at hb
  rw[aQ ω,aj,aU ω ω,aj,aG,da N ω jA.1 jA.2,ar,iO N ω ((BQ (n:=i) ω hb.1 hb.2).mono ω) ((Fit.i64 jA.1 jA.2).mono ω),ar,aw ω ω,af]
  have:=hr (ws++[dT (l.getD i bb)]) ⟨by rw[aS,hI.1];rfl,λx hx=>by
   rcases bn.1 hx with hx|hx
   ·exact hI.2 x hx
   ·rw[cw.1 hx];exact lq⟩
  rw[nZ,cK,jo,jq]at this
  refine this.trans ?_
  rw[bV,bD];rfl
 ·unfold Eh.l5 Eh.dU
  rw[aP ω,av,gQ,cy]
theorem Wv(N:Nat){l:au}(hq:eO l)(hl:l.length≤100000)(hN:4000000≤N):Eh N l=some (cF (iu l)):=by
 unfold Eh Eh.b iu
 rw[Hy N hl ω,ar,cond_not]
 have:=Pb N hq hl hN
 rw[gX]at this
 rw[this]
 cases fb l
 ·rw[av];exact e7 some gX.symm
 ·rfl
def dm(inst:Int):au→List Int
 |[]=>[]
 |x::t=>if x.2.1=inst then dT x::dm inst t else dm inst t
theorem dA(inst:Int)(x:dh)(t:au):dm inst (x::t)=if x.2.1=inst then dT x::dm inst t else dm inst t:=rfl
theorem Ww(N:Nat){l:au}(hq:eO l)(hl:l.length≤100000)(hN:2000000≤N)(inst:Int):qj.l5 N N inst c5 [] l (l.length:Int) 0=some (cH (dm inst l).sum):=by
 have:=ll l bb (λn i ws=>qj.l5 N n inst c5 (ws.map cH) l (l.length:Int) i) (λt ws=>some (cH (ws++dm inst t).sum)) (λi (ws:List Int)=>ws.length≤i∧ ∀x∈ws,aF x)
  (λn i ws hi hI hr=> ?_) (λn ws hI=> ?_) l.length N 0 [] ω ω ω ⟨aH _,λx hx=>nomatch hx⟩
 ·simpa using this
 ·unfold qj.l5 qj.dU
  have lq:=wc hq i
  have jA:=lq
  unfold aF dT at jA
  rw[aQ ω,aj,aU ω ω,aj,aG,vY N jA.1 jA.2,ar,bH (by rw[cz,aK];omega),aj,aw ω ω,af,aI,dA]
  split
  ·have:=hr (ws++[dT (l.getD i bb)]) ⟨by rw[aS,aK];omega,λx hx=>by
    rcases bn.1 hx with hx|hx
    ·exact hI.2 x hx
    ·rw[cw.1 hx];exact lq⟩
   rw[dp]at this
   refine this.trans ?_
   rw[bD];rfl
  ·exact hr ws ⟨ω,hI.2⟩
 ·unfold qj.l5 qj.dU
  rw[aP ω,av,Mf N hI.2 ω ω,ar]
  show _=some (cH (ws++[]).sum)
  rw[cy]
def rB(l:au)(inst:Int):Int:=if di l then(dm inst l).sum else 0
theorem ac7(N:Nat){l:au}(hq:eO l)(hl:l.length≤100000)(hN:2000000≤N)(inst:Int):qj N l inst=some (cH (rB l inst)):=by
 unfold qj qj.b rB
 rw[yf N hl ω,ar,cond_not,Ww N hq hl hN]
 cases di l<;>rfl
theorem SQ(N:Nat){l:au}(hq:eO l)(hl:l.length≤100000)(hN:4000000≤N)(inst:Int):qk.l5 N N l inst (cF 0) (cF 0) 0=some (cF (dm inst l).sum):=by
 have:=ll l bb (λn i ws=>qk.l5 N n l inst (cF 0) (cF ws.sum) i) (λt ws=>some (cF (ws++dm inst t).sum)) (λi (ws:List Int)=>ws.length≤i∧ ∀x∈ws,aF x)
  (λn i ws hi hI hr=> ?_) (λn ws hI=> ?_) l.length N 0 [] ω ω ω ⟨aH _,λx hx=>nomatch hx⟩
 ·simpa using this
 ·unfold qk.l5 qk.dU
  have lq:=wc hq i
  have jA:=lq
  unfold aF dT at jA
  have hb:=O9 hI.2
  rw[aQ ω,aj,aU ω ω,aj,aj,aG,da N ω jA.1 jA.2,ar,iO N ω ((BQ (n:=ws.length) ω hb.1 hb.2).mono ω) ((Fit.i64 jA.1 jA.2).mono ω),ar,aw ω ω,af,aI,dA]
  split
  ·have:=hr (ws++[dT (l.getD i bb)]) ⟨by rw[aS,aK];omega,λx hx=>by
    rcases bn.1 hx with hx|hx
    ·exact hI.2 x hx
    ·rw[cw.1 hx];exact lq⟩
   rw[nZ,cK,jo,jq]at this
   refine this.trans ?_
   rw[bD];rfl
  ·exact hr ws ⟨ω,hI.2⟩
 ·unfold qk.l5 qk.dU
  rw[aP ω,av]
  show _=some (cF (ws++[]).sum)
  rw[cy]
theorem Pd(N:Nat){l:au}(hq:eO l)(hl:l.length≤100000)(hN:4000000≤N)(inst:Int):qk N l inst=some (cF (rB l inst)):=by
 unfold qk qk.b rB
 rw[lT N hl ω,ar,cond_not]
 have:=SQ N hq hl hN inst
 rw[gX]at this
 rw[this]
 cases di l
 ·rw[av];exact e7 some gX.symm
 ·rfl
def sN(l:au)(i:Nat):Prop:=dI (rB l (i:Int)) 0
instance(l:au):DecidablePred (sN l):=λi=>by unfold sN;infer_instance
def ky:Nat:=6
def ox(l:au):Bool:=decide (∀j,j<ky→sN l j)&&di l
theorem jB{x:Int}:vV x=0↔x=0:=by unfold vV;split<;>(try split)<;>omega
theorem ac8(N:Nat){l:au}(hq:eO l)(hl:l.length≤100000)(hN:2000000≤N):E4 N l=some (ox l):=by
 unfold E4 E4.b
 refine iB (len:=ky) (F:=λn i=>E4.l2 N n l i) (sN l) (λn i r hi hp hr=> ?_) (λn=> ?_) N (by unfold ky;omega)
 ·unfold E4.l2 E4.fI
  unfold ky at hi
  rw[aQ ω,aj,ac7 N hq hl hN,ar,BY,ar,cond_not,aI,aw ω ω,af,hr]
  by_cases hP:sN l i
  ·rw[ak hP,ak (jB.2 hP)]
  ·rw[ah hP,ah (λh=>hP (jB.1 h))]
 ·unfold E4.l2 E4.fI
  rw[aP (by unfold ky;omega),av,yf N hl ω,ar]
theorem Zw(N:Nat){l:au}(hq:eO l)(hl:l.length≤100000)(hN:4000000≤N):E5 N l=some (ox l):=by
 unfold E5 E5.b
 refine iB (len:=ky) (F:=λn i=>E5.l2 N n l i) (sN l) (λn i r hi hp hr=> ?_) (λn=> ?_) N (by unfold ky;omega)
 ·unfold E5.l2 E5.fI
  unfold ky at hi
  rw[aQ ω,aj,Pd N hq hl hN,ar,pS,ar,cond_not,aI,aw ω ω,af,hr]
  by_cases hP:sN l i
  ·rw[ak hP,ak (jB.2 hP)]
  ·rw[ah hP,ah (λh=>hP (jB.1 h))]
 ·unfold E5.l2 E5.fI
  rw[aP (by unfold ky;omega),av,lT N hl ω,ar]
def kK(m:aE)(a:aO)(l:au)(i:Nat):Prop:=
 (dI (l.getD i bb).1 5→(eM a (l.getD i bb).2.1).2=true)∧(dI (l.getD i bb).1 6∨dI (l.getD i bb).1 7→ ¬dI (fY m (l.getD i bb).2.1) 0)
instance(m:aE)(a:aO)(l:au):DecidablePred (kK m a l):=λi=>by unfold kK;infer_instance
theorem C9(N:Nat)(b:an)(hl:b.2.1.length≤100000)(hN:200000≤N)(id:Int):F78 N b id=some (eM b.2.1 id).2:=by
 unfold F78
 rw[ac5 N hl hN,ar]
theorem Wx{k:Int}{f:Bool}{z:Int}{r:Option Bool}:cond (aN k 5) (cond (!f) (some false) r) (cond (aN k 6) (cond (aN z 0) (some false) r) (cond (aN k 7) (cond (aN z 0) (some false) r) r))=
  if(dI k 5→f=true)∧(dI k 6∨dI k 7→ ¬dI z 0)then r else some false:=by
 unfold dI
 rw[aI,aI,aI,aI,cond_not]
 by_cases h5:k=5
 ·have h6: ¬(k=6):=ω
  have h7: ¬(k=7):=ω
  cases f<;>simp[h5,h6,h7]
 ·by_cases h6:k=6
  ·by_cases hz:z=0<;>simp[h5,h6,hz]
  ·by_cases h7:k=7
   ·by_cases hz:z=0<;>simp[h5,h6,h7,hz]
   ·simp[h5,h6,h7]
theorem JK(N:Nat)(hN:200000≤N)(c:ae)(b:an)(hm:b.1.length≤100000)(ha:b.2.1.length≤100000)(hl:b.2.2.1.length≤100000){e:Bool}
  (he:lx.yj N N c b b.2.2.2.1 (b.2.2.2.1.length:Int) 0=some e):lx.l4 N N c b b.2.2.1 (b.2.2.1.length:Int) 0=some (decide (∀j,j<b.2.2.1.length→kK b.1 b.2.1 b.2.2.1 j)&&e):=by
 refine iB (F:=λn i=>lx.l4 N n c b b.2.2.1 (b.2.2.1.length:Int) i) (kK b.1 b.2.1 b.2.2.1) (λn i r hi hp hr=> ?_) (λn=> ?_) N ω
 ·unfold lx.l4 lx.dL
  rw[aQ ω,aj,aU ω ω,aj,aG,aw (x:=(i:Int)+1) ω ω,af,hr]
  simp only[C9 N b ha hN,C6 N hm hN,ar]
  rw[Wx]
  rfl
 ·unfold lx.l4 lx.dL
  rw[aP ω,av];exact he
def lH(a b:Int):Prop:=a<b
instance(a b:Int):Decidable (lH a b):=by unfold lH;infer_instance
def jS(c:ae)(a:aO)(l:au)(i:Nat):Prop:=
 (dI (l.getD i bb).1 0∨(eM a (l.getD i bb).1).2=true)∧lH (l.getD i bb).2.1 c.1.length
instance(c:ae)(a:aO)(l:au):DecidablePred (jS c a l):=λi=>by unfold jS;infer_instance
theorem Zx{k x n:Int}{f:Bool}{r:Option Bool}:cond (!aN k 0) (cond (!f) (some false) (cond (dx n x) (some false) r)) (cond (dx n x) (some false) r)=if(dI k 0∨f=true)∧lH x n then r else some false:=by
 unfold dI lH
 rw[cond_not,aI,ct,cond_not]
 by_cases h0:k=0
 ·by_cases hx:n≤x
  ·have: ¬x<n:=ω
   simp[h0,hx,this]
  ·have:x<n:=ω
   simp[h0,hx,this]
 ·by_cases hx:n≤x
  ·have: ¬x<n:=ω
   cases f<;>simp[h0,hx,this]
  ·have:x<n:=ω
   cases f<;>simp[h0,hx,this]
theorem Mg(N:Nat)(hN:200000≤N)(c:ae)(b:an)(ha:b.2.1.length≤100000)(hl:b.2.2.2.1.length≤100000){e:Bool}
  (he:lx.yk N N c b b.2.2.2.2.2.1 (b.2.2.2.2.2.1.length:Int) 0=some e):lx.yj N N c b b.2.2.2.1 (b.2.2.2.1.length:Int) 0=some (decide (∀j,j<b.2.2.2.1.length→jS c b.2.1 b.2.2.2.1 j)&&e):=by
 refine iB (F:=λn i=>lx.yj N n c b b.2.2.2.1 (b.2.2.2.1.length:Int) i) (jS c b.2.1 b.2.2.2.1) (λn i r hi hp hr=> ?_) (λn=> ?_) N ω
 ·unfold lx.yj lx.w7
  rw[aQ ω,aj,aU ω ω,aj,aG,aw (x:=(i:Int)+1) ω ω,af,hr]
  simp only[C9 N b ha hN,ar]
  rw[Zx]
  rfl
 ·unfold lx.yj lx.w7
  rw[aP ω,av];exact he
def rC(l:List Int)(i:Nat):Prop:=1≤l.getD i 0∧l.getD i 0≤1000000000000
instance(l:List Int):DecidablePred (rC l):=λi=>by unfold rC;infer_instance
def fg(l:List Int):Bool:=decide (∀j,j<l.length→rC l j)
theorem alb(N:Nat)(p:Int):F80 N p=some (!decide (1≤p∧p≤1000000000000)):=by
 unfold F80
 rw[C2,ar]
theorem HB(N:Nat){l:List Int}(hl:l.length≤100000): ∀(m n i:Nat),l.length-i≤m→m<n→i≤l.length→(∀j,j<i→rC l j)→
  ∃r,tx.l2 N n l () (l.length:Int) (i:Int)=some r∧(dx 0 r= !fg l)
 |m,0,i,_,hn,_,_=>ω
 |m,n+1,i,hm,hn,hi,hp=>by
  unfold tx.l2 tx.fI
  by_cases h:i<l.length
  ·rw[aQ ω,aj,aU ω ω,aj,aG,alb,ar,cond_not,fW]
   by_cases hP:rC l i
   ·have hP':=hP
    unfold rC at hP'
    rw[ak hP',aw ω ω]
    exact HB N hl (m-1) n (i+1) ω ω ω (λj hj=>by
     by_cases Ah:j=i
     ·subst Ah;exact hP
     ·exact hp j ω)
   ·have hP':=hP
    unfold rC at hP'
    rw[ah hP']
    refine⟨_,rfl,?_⟩
    rw[fO ω]
    unfold fg
    rw[bu (λh'=>hP (h' i h))];rfl
  ·rw[aP ω,av]
   refine⟨_,rfl,?_⟩
   rw[fH ω]
   unfold fg
   rw[aV (λj hj=>hp j ω)];rfl
theorem Wy(N:Nat){l:List Int}(hl:l.length≤100000)(hN:200000≤N):F79 N l ()=some (!fg l):=by
 unfold F79 tx tx.b
 obtain⟨r,e,h⟩:=HB N hl l.length N 0 ω ω ω (λj hj=>absurd hj ω)
 rw[show((0:Nat):Int)=0 from rfl]at e
 rw[e,ar,h]
def rD(c:ae)(a:aO)(l:aY)(i:Nat):Prop:=
 (eM a (l.getD i dS).2.1).2=true∧lH (l.getD i dS).2.2.1 c.1.length
instance(c:ae)(a:aO)(l:aY):DecidablePred (rD c a l):=λi=>by unfold rD;infer_instance
theorem HC{x n:Int}{f:Bool}{r:Option Bool}:cond (!f) (some false) (cond (dx n x) (some false) r)=if f=true∧lH x n then r else some false:=by
 unfold lH
 rw[ct,cond_not]
 by_cases hx:n≤x
 ·have: ¬x<n:=ω
  cases f<;>simp[hx,this]
 ·have:x<n:=ω
  cases f<;>simp[hx,this]
theorem Mh(N:Nat)(hN:200000≤N)(c:ae)(b:an)(ha:b.2.1.length≤100000)(hl:b.2.2.2.2.2.1.length≤100000)(hp:b.2.2.2.2.1.length≤100000):
  lx.yk N N c b b.2.2.2.2.2.1 (b.2.2.2.2.2.1.length:Int) 0=some (decide (∀j,j<b.2.2.2.2.2.1.length→rD c b.2.1 b.2.2.2.2.2.1 j)&&fg b.2.2.2.2.1):=by
 refine iB (F:=λn i=>lx.yk N n c b b.2.2.2.2.2.1 (b.2.2.2.2.2.1.length:Int) i) (rD c b.2.1 b.2.2.2.2.2.1) (λn i r hi R5 hr=> ?_) (λn=> ?_) N ω
 ·unfold lx.yk lx.w8
  rw[aQ ω,aj,aU ω ω,aj,aG,aw (x:=(i:Int)+1) ω ω,af,hr]
  simp only[C9 N b ha hN,ar]
  rw[HC]
  rfl
 ·unfold lx.yk lx.w8
  rw[aP ω,av,Wy N hp hN,ar,Bool.not_not]
def de(c:ae)(b:an):Bool:=
 eL c&&(sM b.1 b.2.1&&(fb b.2.2.1&&(decide (dI (iu b.2.2.1) 0)&&(ox b.2.2.2.1&&(dk b.2.2.2.2.2.1&&(decide (dI b.2.2.2.2.1.length c.1.length)&&
  (decide (∀j,j<b.2.2.1.length→kK b.1 b.2.1 b.2.2.1 j)&&(decide (∀j,j<b.2.2.2.1.length→jS c b.2.1 b.2.2.2.1 j)&&(decide (∀j,j<b.2.2.2.2.2.1.length→rD c b.2.1 b.2.2.2.2.2.1 j)&&fg b.2.2.2.2.1)))))))))
structure jC(b:an):Prop where
 m:b.1.length≤100000
 a:b.2.1.length≤100000
 r:b.2.2.1.length≤100000
 s:b.2.2.2.1.length≤100000
 p:b.2.2.2.2.1.length≤100000
 o:b.2.2.2.2.2.1.length≤100000
 qr:eO b.2.2.1
 qs:eO b.2.2.2.1
theorem oy{x:Bool}{r:Option Bool}{y:Bool}(h:r=some y):cond (!x) (some false) r=some (x&&y):=by subst h;cases x<;>rfl
theorem we(N:Nat)(hN:4000000≤N){c:ae}{b:an}(w:jC b):lx N c b=some (de c b):=by
 unfold lx lx.b de
 rw[FK N ω,ar]
 refine oy ?_
 rw[ac6 N w.m w.a ω,ar]
 refine oy ?_
 rw[Md N w.r ω,ar]
 refine oy ?_
 rw[Zv N w.qr w.r ω,ar,BY,ar]
 have e0:aN (vV (iu b.2.2.1)) 0=decide (dI (iu b.2.2.1) 0):=by rw[jP,n6];exact jB
 rw[e0]
 refine oy ?_
 rw[ac8 N w.qs w.s ω,ar]
 refine oy ?_
 rw[C3 N w.o ω,ar]
 refine oy ?_
 rw[jP]
 refine oy ?_
 exact JK N ω c b w.m w.a w.r (Mg N ω c b w.a w.s (Mh N ω c b w.a w.o w.p))
theorem ql(N:Nat)(b:an)(hl:b.2.1.length≤100000)(hN:200000≤N)(id:Int):Mi N b id=some ((eM b.2.1 id).2||decide (dI id 0)):=by
 unfold Mi
 rw[yh N hl hN,ar,jP]
 cases(eM b.2.1 id).2<;>rfl
theorem SS{k:Int}{f:Bool}{z:Int}{r:Option Bool}:cond (aN k 5) (cond (!f) (some false) (cond (aN k 6) (cond (aN z 0) (some false) r) (cond (aN k 7) (cond (aN z 0) (some false) r) r))) (cond (aN k 6) (cond (aN z 0) (some false) r) (cond (aN k 7) (cond (aN z 0) (some false) r) r))=
  if(dI k 5→f=true)∧(dI k 6∨dI k 7→ ¬dI z 0)then r else some false:=by
 unfold dI
 rw[aI,aI,aI,aI,cond_not]
 by_cases h5:k=5
 ·have h6: ¬(k=6):=ω
  have h7: ¬(k=7):=ω
  cases f<;>simp[h5,h6,h7]
 ·by_cases h6:k=6
  ·by_cases hz:z=0<;>simp[h5,h6,hz]
  ·by_cases h7:k=7
   ·by_cases hz:z=0<;>simp[h5,h6,h7,hz]
   ·simp[h5,h6,h7]
theorem JL(N:Nat)(hN:200000≤N)(c:ae)(b:an)(ha:b.2.1.length≤100000)(hl:b.2.2.2.2.2.1.length≤100000)(ho:dk b.2.2.2.2.2.1=true):
  gG.yk N N c b 0=some (decide (∀j,j<b.2.2.2.2.2.1.length→rD c b.2.1 b.2.2.2.2.2.1 j)&&true):=by
 refine iB (F:=λn i=>gG.yk N n c b i) (rD c b.2.1 b.2.2.2.2.2.1) (λn i r hi R5 hr=> ?_) (λn=> ?_) N ω
 ·unfold gG.yk gG.w8
  unfold dk at ho
  rw[bP,fR]at ho
  have h1:=(ho.1 i hi).1
  unfold rf Ao at h1
  have h2:decide (dI (b.2.2.2.2.2.1.getD i dS).2.1 0)=false:=bu (by unfold dI;omega)
  rw[aQ ω,aj,aU ω ω,aj,aG,aw (x:=(i:Int)+1) ω ω,af,hr]
  simp only[ql N b ha hN,ar,aj]
  rw[h2,sl,HC]
  rfl
 ·unfold gG.yk gG.w8
  rw[aP ω,av]
theorem E6(N:Nat)(hN:200000≤N)(c:ae)(b:an)(hl:b.2.2.2.2.1.length≤100000){e:Bool}(he:gG.yk N N c b 0=some e):
  gG.FL N N c b 0=some (fg b.2.2.2.2.1&&e):=by
 refine iB (F:=λn i=>gG.FL N n c b i) (rC b.2.2.2.2.1) (λn i r hi R5 hr=> ?_) (λn=> ?_) N ω
 ·unfold gG.FL gG.E7
  rw[aQ ω,aj,aU ω ω,aj,aG,aw (x:=(i:Int)+1) ω ω,af,hr,jz,ar,cond_not,fW]
  rfl
 ·unfold gG.FL gG.E7
  rw[aP ω,av];exact he
theorem JM(N:Nat)(hN:200000≤N)(c:ae)(b:an)(ha:b.2.1.length≤100000)(hl:b.2.2.2.1.length≤100000){e:Bool}(he:gG.FL N N c b 0=some e):
  gG.nI N N c b 0=some (decide (∀j,j<b.2.2.2.1.length→jS c b.2.1 b.2.2.2.1 j)&&e):=by
 refine iB (F:=λn i=>gG.nI N n c b i) (jS c b.2.1 b.2.2.2.1) (λn i r hi R5 hr=> ?_) (λn=> ?_) N ω
 ·unfold gG.nI gG.mO
  rw[aQ ω,aj,aU ω ω,aj,aG,aw (x:=(i:Int)+1) ω ω,af,hr]
  simp only[ql N b ha hN,ar,aj]
  rw[HC]
  have Zy:((((eM b.2.1 (b.2.2.2.1.getD i bb).1).2||decide (dI (b.2.2.2.1.getD i bb).1 0))=true)∧lH (b.2.2.2.1.getD i bb).2.1 c.1.length)↔jS c b.2.1 b.2.2.2.1 i:=by
   unfold jS
   rw[ob,fR]
   exact⟨λh=>⟨h.1.symm,h.2⟩,λh=>⟨h.1.symm,h.2⟩⟩
  by_cases hP:jS c b.2.1 b.2.2.2.1 i
  ·rw[ak hP,ak (Zy.2 hP)]
  ·rw[ah hP,ah (λh=>hP (Zy.1 h))]
 ·unfold gG.nI gG.mO
  rw[aP ω,av];exact he
theorem HD(N:Nat)(hN:200000≤N)(c:ae)(b:an)(hm:b.1.length≤100000)(ha:b.2.1.length≤100000)(hl:b.2.2.1.length≤100000)(hk:fb b.2.2.1=true){e:Bool}
  (he:gG.nI N N c b 0=some e):gG.l6 N N c b 0=some (decide (∀j,j<b.2.2.1.length→kK b.1 b.2.1 b.2.2.1 j)&&e):=by
 refine iB (F:=λn i=>gG.l6 N n c b i) (kK b.1 b.2.1 b.2.2.1) (λn i r hi R5 hr=> ?_) (λn=> ?_) N ω
 ·unfold gG.l6 gG.u7
  unfold fb at hk
  rw[eZ,fR]at hk
  have h1:=(hk i hi).1
  rw[aQ ω,aj,aU ω ω,aj,aG,aw (x:=(i:Int)+1) ω ω,af,hr]
  simp only[ql N b ha hN,pq N hm hN,ar]
  rw[SS]
  have Zy:((dI (b.2.2.1.getD i bb).1 5→((eM b.2.1 (b.2.2.1.getD i bb).2.1).2||decide (dI (b.2.2.1.getD i bb).2.1 0))=true)∧(dI (b.2.2.1.getD i bb).1 6∨dI (b.2.2.1.getD i bb).1 7→ ¬dI (fY b.1 (b.2.2.1.getD i bb).2.1) 0))↔kK b.1 b.2.1 b.2.2.1 i:=by
   unfold kK
   refine and_congr_left λ_=>imp_congr_right λh5=> ?_
   rw[ob,fR]
   refine⟨λh=>h.elim id λh0=> ?_,.inl⟩
   unfold db at h1;unfold dI at h5 h0;omega
  by_cases hP:kK b.1 b.2.1 b.2.2.1 i
  ·rw[ak hP,ak (Zy.2 hP)]
  ·rw[ah hP,ah (λh=>hP (Zy.1 h))]
 ·unfold gG.l6 gG.u7
  rw[aP ω,av];exact he
theorem pv{x:Bool}{r:Option Bool}{y:Bool}(h:x=true→r=some y):cond (!x) (some false) r=some (x&&y):=by
 cases x
 ·rfl
 ·exact h rfl
theorem sO(N:Nat)(hN:5000000≤N){c:ae}{b:an}(w:jC b):gG N c b=some (de c b):=by
 unfold gG gG.b
 rw[mL N ω,ar]
 have e0:aN (vV (iu b.2.2.1)) 0=decide (dI (iu b.2.2.1) 0):=by rw[jP,n6];exact jB
 refine(pv λ_=> ?_).trans (e7 some (?_:(eL c&&(sM b.1 b.2.1&&(fb b.2.2.1&&(ox b.2.2.2.1&&(dk b.2.2.2.2.2.1&&(decide (dI b.2.2.2.2.1.length c.1.length)&&(decide (dI (iu b.2.2.1) 0)&&
  (decide (∀j,j<b.2.2.1.length→kK b.1 b.2.1 b.2.2.1 j)&&(decide (∀j,j<b.2.2.2.1.length→jS c b.2.1 b.2.2.2.1 j)&&(fg b.2.2.2.2.1&&(decide (∀j,j<b.2.2.2.2.2.1.length→rD c b.2.1 b.2.2.2.2.2.1 j)&&true)))))))))))=de c b))
 ·rw[yi N w.m w.a ω,ar]
  refine pv λ_=> ?_
  rw[Hy N w.r ω,ar]
  refine pv λhk=> ?_
  rw[Zw N w.qs w.s ω,ar]
  refine pv λ_=> ?_
  rw[ib N w.o ω,ar]
  refine pv λho=> ?_
  rw[jP]
  refine pv λ_=> ?_
  rw[Wv N w.qr w.r ω,ar,pS,ar,e0]
  refine pv λ_=> ?_
  exact HD N ω c b w.m w.a w.r hk (JM N ω c b w.a w.s (E6 N ω c b w.p (JL N ω c b w.a w.o ho)))
 ·unfold de
  generalize eL c=x1,sM b.1 b.2.1=x2,fb b.2.2.1=x3,ox b.2.2.2.1=x4,dk b.2.2.2.2.2.1=x5,decide (dI b.2.2.2.2.1.length c.1.length)=x6,decide (dI (iu b.2.2.1) 0)=x7,decide (∀j,j<b.2.2.1.length→kK b.1 b.2.1 b.2.2.1 j)=x8,decide (∀j,j<b.2.2.2.1.length→jS c b.2.1 b.2.2.2.1 j)=x9,fg b.2.2.2.2.1=bo,decide (∀j,j<b.2.2.2.2.2.1.length→rD c b.2.1 b.2.2.2.2.2.1 j)=a7
  rw[eZ]
  cases x1<;>cases x2<;>cases x3<;>cases x4<;>cases x5<;>cases x6<;>cases x7<;>try rfl
  cases x8<;>cases x9<;>cases bo<;>cases a7<;>rfl
def qP(a q n:Int)(i:Nat)(p:Int):Prop:=0≤a∧a<n∧q≠0∧rA q∧(0<i→p<a)
instance(a q n:Int)(i:Nat)(p:Int):Decidable (qP a q n i p):=by unfold qP;infer_instance
def oz(c:ae)(l:aE)(i:Nat):Prop:=qP (l.getD i c5).1 (l.getD i c5).2.1 c.1.length i (l.getD (i-1) c5).1
instance(c:ae)(l:aE):DecidablePred (oz c l):=λi=>by unfold oz;infer_instance
def mj(c:ae)(l:aE):Bool:=decide (∀j,j<l.length→oz c l j)&&eL c
theorem UF(N:Nat)(hN:200000≤N)(c:ae){l:aE}(hl:l.length≤100000):qm N c l=some (mj c l):=by
 unfold qm qm.b
 refine iB (F:=λn i=>qm.l2 N n l c l (l.length:Int) i) (oz c l) (λn i r hi hp hr=> ?_) (λn=> ?_) N ω
 ·unfold qm.l2 qm.fI
  rw[aQ ω,aj,aU ω ω,aj,aG,aw (x:=(i:Int)+1) ω ω,af,hr,tT,ar,cond_not,fW]
  by_cases h0:0<i
  ·have e:W .i64 ((i:Int)-1)=((i-1:Nat):Int):=by rw[aw ω ω];omega
   dsimp only
   rw[aQ (x:=0) (y:=(i:Int)) ω,aj,e,aG,aU ω ω,aj]
   simp only[bZ,ct,aI]
   by_cases hP:oz c l i
   ·rw[ak hP];unfold oz qP at hP
    rw[ah ω,ah ω,ah hP.2.2.1,ak hP.2.2.2.1,ah ω]
   ·rw[ah hP];unfold oz qP at hP
    have h2:=λh1 h2 h3 h4 h5=>hP ⟨h1,h2,h3,h4,h5⟩
    repeat' split
    all_goals first|rfl|(exfalso;exact h2 ω ω (by assumption) (by assumption) ω)
  ·rw[aP (x:=0) (y:=(i:Int)) ω,av]
   simp only[bZ,ct,aI]
   by_cases hP:oz c l i
   ·rw[ak hP];unfold oz qP at hP
    rw[ah ω,ah ω,ah hP.2.2.1,ak hP.2.2.2.1]
   ·rw[ah hP];unfold oz qP at hP
    have h2:=λh1 h2 h3 h4 h5=>hP ⟨h1,h2,h3,h4,h5⟩
    repeat' split
    all_goals first|rfl|(exfalso;exact h2 ω ω (by assumption) (by assumption) ω)
 ·unfold qm.l2 qm.fI
  rw[aP ω,av,FK N ω,ar]
end VM
end
