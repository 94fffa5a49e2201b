/- A part of the proof of BookTurned of layer 18: what the functions compute, in plain words. -/
import Derived.Test.YthkjjlcblhbifaaGreatPlain0
import Derived.Test.YthkjjlcblhbifaaGreatText
set_option linter.all false
open List renaming getD→γ
section
namespace VM
open Go VM.F
variable(N:Nat)
def cH(x:Int):Prop:= -170141183460469231731687303715884105728≤x∧x<170141183460469231731687303715884105728
instance(x:Int):Decidable (cH x):=by unfold cH;infer_instance
theorem vS{x:Int}(h0: -9223372036854775808≤x)(h1:x<9223372036854775808):Pf N x=some (cK x):=by
 unfold Pf
 rw[aO ω,av,vN h0 h1,p8]
 congr 1
 exact wmk (by split<;>omega) rfl
theorem acU{ws:List Int}(i:Nat):(ws.map cK).getD i c7=cK (ws.getD i 0):=by
 by_cases h:i<ws.length
 ·rw[aW,ob,bm h,aW,bm h];rfl
 ·rw[aW,iq (by rw[cB];omega),aW,iq ω];rfl
theorem SA{ws:List Int}(h: ∀x∈ws,cH x): -(170141183460469231731687303715884105728*(ws.length:Int))≤ws.sum∧ws.sum≤170141183460469231731687303715884105728*(ws.length:Int):=by
 induction ws with
 |nil=>simp
 |cons x ws ih=>
  have h0:=h x (bu ..)
  have ih:=ih (λy hy=>h y (ba _ hy))
  unfold cH at h0
  rw[cN,aT];omega
theorem Zp{t w:Int}{lo hi top:Int}(hw:cH w)(w9:lo=t%18446744073709551616)(Kk:hi=t/18446744073709551616%18446744073709551616)(awf:top=t/340282366920938463463374607431768211456):
  (lo+w%18446744073709551616+0)%18446744073709551616=(t+w)%18446744073709551616∧
  (hi+(w/18446744073709551616)%18446744073709551616+(lo+w%18446744073709551616+0)/18446744073709551616)%18446744073709551616=(t+w)/18446744073709551616%18446744073709551616∧
  top+(if w/18446744073709551616<0 then-1 else 0)+(hi+(w/18446744073709551616)%18446744073709551616+(lo+w%18446744073709551616+0)/18446744073709551616)/18446744073709551616=(t+w)/340282366920938463463374607431768211456:=by
 unfold cH at hw
 subst w9 Kk awf
 refine⟨ω,ω,?_⟩
 split<;>omega
def Pg(t:Int):bY×Bool:=if cH t then(cK t,true)else(c7,false)
theorem W64(x:Int):W .u64 x=x%18446744073709551616:=p8 x
theorem Kz(N:Nat){ws:List Int}(h: ∀x∈ws,cH x)(hl:ws.length≤1000000): ∀(m n i:Nat) (t:Int),ws.length-i≤m→m<n→i≤ws.length→t=(ws.take i).sum→
  AB.l3 N n c7 (t/340282366920938463463374607431768211456) (t/18446744073709551616%18446744073709551616) (t%18446744073709551616) (ws.map cK) (ws.length:Int) (i:Int)=some (Pg ws.sum)
 |m,0,i,t,_,hn,_,_=>ω
 |m,n+1,i,t,hm,hn,hi,ht=>by
  unfold AB.l3 AB.nY
  have f1:=SA (ws:=ws.take i) (λx hx=>h x (lI hx))
  rw[cj,iu ω,←ht]at f1
  by_cases h1:i<ws.length
  ·have hw:cH (ws.getD i 0):=by
    rw[aW,bm h1];exact h _ (dG h1)
   have hs:=mJ ws h1
   rw[←ht]at hs
   have st:=Zp (t:=t) (w:=ws.getD i 0) hw rfl rfl rfl
   have BQ:=Kz N h hl (m-1) n (i+1) (t+ws.getD i 0) ω ω ω hs.symm
   rw[aQ ω,aj,aU ω (by rw[cB];omega),aj,aG,acU]
   unfold cK
   dsimp only
   have hw':=hw
   unfold cH at hw'
   generalize ws.getD i 0=w at*
   have hq:0≤(t%18446744073709551616+w%18446744073709551616+0)/18446744073709551616∧(t%18446744073709551616+w%18446744073709551616+0)/18446744073709551616≤1:=ω
   rw[xT N ω ω ω ω,ar,W64,xT N ω ω hq.1 hq.2,ar,aO (x:=63) ω,av,st.1,st.2.1]
   rw[vN ω ω]
   have hc:0≤(t/18446744073709551616%18446744073709551616+w/18446744073709551616%18446744073709551616+(t%18446744073709551616+w%18446744073709551616+0)/18446744073709551616)/18446744073709551616∧(t/18446744073709551616%18446744073709551616+w/18446744073709551616%18446744073709551616+(t%18446744073709551616+w%18446744073709551616+0)/18446744073709551616)/18446744073709551616≤1:=ω
   have hif: -1≤(if w/18446744073709551616<0 then(-1:Int)else 0)∧(if w/18446744073709551616<0 then(-1:Int)else 0)≤0:=by split<;>omega
   rw[aw (x:=t/340282366920938463463374607431768211456+_) ω ω,aw (x:=(_:Int)/18446744073709551616) ω ω,st.2.2,aw ω ω,aw (x:=(i:Int)+1) ω ω]
   exact BQ
  ·have e:(ws.take i).sum=ws.sum:=by rw[iG ω]
   rw[e]at ht
   rw[aO ω,av,aO (x:=63) ω,av,←ht]
   have hh: -9223372036854775808≤W .i64 (t/18446744073709551616%18446744073709551616)∧W .i64 (t/18446744073709551616%18446744073709551616)<9223372036854775808:=by rw[gN];split<;>omega
   have hwv:W .i64 (t/18446744073709551616%18446744073709551616)=if 9223372036854775808≤t/18446744073709551616%18446744073709551616 then t/18446744073709551616%18446744073709551616-18446744073709551616 else t/18446744073709551616%18446744073709551616:=by rw[gN];split<;>split<;>omega
   rw[vN hh.1 hh.2,hwv]
   unfold Pg
   by_cases hI:cH t
   ·rw[ak hI]
    unfold cH at hI
    rw[eg (by split<;>split<;>omega),bk,av]
    exact UA (by split<;>omega) rfl
   ·rw[ag hI]
    unfold cH at hI
    rw[eH (by split<;>split<;>omega),dw,aj]
theorem FP{ws:List Int}(h: ∀x∈ws,cH x)(hl:ws.length≤1000000)(hN:1000000<N):AB N (ws.map cK)=some (Pg ws.sum):=by
 unfold AB AB.b
 rw[cB]
 exact Kz N h hl ws.length N 0 0 ω ω ω (by simp)
theorem vT(a lo hi:Int):XY N a lo hi=some (decide (lo≤a∧a≤hi)):=by
 unfold XY
 rw[cz,m9]
 by_cases h:lo≤a
 ·rw[ak h];congr 1;rw[oc];omega
 ·rw[ag h,bw ω]
theorem KA(a lo hi:Int):F93 N a lo hi=some (decide (lo≤a∧a≤hi)):=vT N a lo hi
def ou(a b c d:Int):Prop:=(0≤a∧a≤3)∧(1≤b∧b≤1000000000000)∧(0≤c∧c≤1000000000)∧(0≤d∧d≤1000000000)
instance(a b c d:Int):Decidable (ou a b c d):=by unfold ou;infer_instance
def qD(l:aN)(i:Nat):Prop:=ou (l.getD i bb).1 (l.getD i bb).2.1 (l.getD i bb).2.2.1 (l.getD i bb).2.2.2.1
instance(l:aN):DecidablePred (qD l):=λi=>by unfold qD;infer_instance
def ov(a b c d e f:Int):Prop:=0≤a∧(0≤b∧b≤4)∧(0≤c∧c≤1000000)∧(0≤d∧d≤1000000)∧(1≤e∧e≤4611686018427387904)∧0≤f
instance(a b c d e f:Int):Decidable (ov a b c d e f):=by unfold ov;infer_instance
def qE(c:ae):Prop:=ov c.2.1 c.2.2.1 c.2.2.2.1 c.2.2.2.2.1 c.2.2.2.2.2.1 c.2.2.2.2.2.2.1
instance(c:ae):Decidable (qE c):=by unfold qE;infer_instance
def eS(c:ae):Bool:=decide (1≤c.1.length∧c.1.length≤6)&&(decide (∀j,j<c.1.length→qD c.1 j)&&decide (qE c))
theorem FQ(hN:100≤N)(c:ae):CA N c=some (eS c):=by
 unfold CA CA.b eS
 rw[vT,ar,cond_not,ga]
 by_cases hl:1≤c.1.length∧c.1.length≤6
 ·rw[ak ω,aV hl,kS]
  refine iC (F:=λn i=>CA.l4 N n c c.1 (c.1.length:Int) i) (qD c.1) (λn i r hi hp hr=> ?_) (λn=> ?_) N ω
  ·unfold CA.l4 CA.dM
   rw[aQ ω,aj,aU ω ω,aj,aG,aw ω ω,af]
   simp only[vT,ar,cond_not,ga]
   by_cases hP:qD c.1 i
   ·rw[ak hP];unfold qD ou at hP
    repeat' split
    all_goals first|rfl|exact hr|omega
   ·rw[ag hP];unfold qD ou at hP
    repeat' split
    all_goals first|rfl|exact hr|omega
  ·unfold CA.l4 CA.dM
   rw[aO ω,av]
   simp only[vT,ar,cond_not,ga,cz,m9]
   by_cases hP:qE c
   ·rw[aV hP];unfold qE ov at hP
    repeat' split
    all_goals first|rfl|omega|(rw[aV ω])
   ·rw[bw hP];unfold qE ov at hP
    repeat' split
    all_goals first|rfl|omega|(rw[bw ω])
 ·rw[ag ω,bw hl,uG]
theorem mK(hN:100≤N)(c:ae):Ah N c=some (eS c):=by
 unfold Ah Ah.b eS
 rw[cf,cf]
 by_cases hl:1≤c.1.length∧c.1.length≤6
 ·rw[ag ω,ag ω,aV hl,kS]
  refine iC (F:=λn i=>Ah.l4 N n c i) (qD c.1) (λn i r hi hp hr=> ?_) (λn=> ?_) N ω
  ·unfold Ah.l4 Ah.dM
   rw[aQ ω,aj,aU ω ω,aj,aG,aw ω ω,af]
   simp only[KA,ar,cond_not,ga]
   by_cases hP:qD c.1 i
   ·rw[ak hP];unfold qD ou at hP
    repeat' split
    all_goals first|rfl|exact hr|omega
   ·rw[ag hP];unfold qD ou at hP
    repeat' split
    all_goals first|rfl|exact hr|omega
  ·unfold Ah.l4 Ah.dM
   rw[aO ω,av]
   simp only[KA,ar,cond_not,ga,cz,m9]
   by_cases hP:qE c
   ·rw[aV hP];unfold qE ov at hP
    repeat' split
    all_goals first|rfl|omega|(rw[aV ω])
   ·rw[bw hP];unfold qE ov at hP
    repeat' split
    all_goals first|rfl|omega|(rw[bw ω])
 ·rw[bw hl,uG]
  by_cases h:(c.1.length:Int)<1
  ·rw[ak h]
  ·rw[ag h,ak ω]
def jy(a b:Int)(i:Nat)(c:Int):Prop:=1≤a∧a≤12∧1≤b∧b≤4∧(0<i→c<a)
instance(a b:Int)(i:Nat)(c:Int):Decidable (jy a b i c):=by unfold jy;infer_instance
def gB(m:aE)(i:Nat):Prop:=jy (m.getD i c7).1 (m.getD i c7).2.1 i (m.getD (i-1) c7).1
instance(m:aE):DecidablePred (gB m):=λi=>by unfold gB;infer_instance
def dN(m:aE):Bool:=decide (∀j,j<m.length→gB m j)&&true
theorem HD{m:aE}(hl:m.length≤100000)(hN:200000≤N):Eh N m=some (dN m):=by
 unfold Eh Eh.b
 refine iC (F:=λn i=>Eh.l2 N n m m (m.length:Int) i) (gB m) (λn i r hi hp hr=> ?_) (λn=> ?_) N ω
 ·unfold Eh.l2 Eh.fN
  rw[aQ ω,aj,aU ω ω,aj,aG,aw (x:=(i:Int)+1) ω ω,af]
  by_cases h0:0<i
  ·have e:W .i64 ((i:Int)-1)=((i-1:Nat):Int):=by rw[aw ω ω];omega
   dsimp only
   rw[aQ (x:=0) ω,aj,e,aG,aU ω ω,aj]
   simp only[cf,cz]
   by_cases hP:gB m i
   ·rw[ak hP];unfold gB jy at hP
    repeat' split
    all_goals first|rfl|exact hr|omega
   ·rw[ag hP];unfold gB jy at hP
    repeat' split
    all_goals first|rfl|exact hr|omega
  ·rw[aO (x:=0) ω,av]
   simp only[cf,cz]
   by_cases hP:gB m i
   ·rw[ak hP];unfold gB jy at hP
    repeat' split
    all_goals first|rfl|exact hr|omega
   ·rw[ag hP];unfold gB jy at hP
    repeat' split
    all_goals first|rfl|exact hr|omega
 ·unfold Eh.l2 Eh.fN
  rw[aO ω,av]
theorem nI{m:aE}(hl:m.length≤100000)(hN:200000≤N):CB N m=some (dN m):=by
 unfold CB CB.b
 refine iC (F:=λn i=>CB.l2 N n m i) (gB m) (λn i r hi hp hr=> ?_) (λn=> ?_) N ω
 ·unfold CB.l2 CB.fN
  rw[aQ ω,aj,aU ω ω,aj,aG,aw (x:=(i:Int)+1) ω ω,af]
  by_cases h0:0<i
  ·have e:W .i64 ((i:Int)-1)=((i-1:Nat):Int):=by rw[aw ω ω];omega
   dsimp only
   rw[aQ (x:=0) ω,e,aG,aU (i:=((i-1:Nat):Int)) ω ω]
   simp only[cf,cz,aj]
   by_cases hP:gB m i
   ·rw[ak hP];unfold gB jy at hP
    repeat' split
    all_goals first|rfl|exact hr|omega
   ·rw[ag hP];unfold gB jy at hP
    repeat' split
    all_goals first|rfl|exact hr|omega
  ·rw[aO (x:=0) ω]
   simp only[cf,cz,aj,av]
   by_cases hP:gB m i
   ·rw[ak hP];unfold gB jy at hP
    repeat' split
    all_goals first|rfl|exact hr|omega
   ·rw[ag hP];unfold gB jy at hP
    repeat' split
    all_goals first|rfl|exact hr|omega
 ·unfold CB.l2 CB.fN
  rw[aO ω,av]
def de(k n:Int):Prop:=(1≤k∧k≤4∧n=0)∨(k=5∧1≤n∧n≤24)∨(6≤k∧k≤7∧1≤n∧n≤12)
instance(k n:Int):Decidable (de k n):=by unfold de;infer_instance
theorem SC(k n:Int):F83 N k n=some (decide (de k n)):=by
 unfold F83
 simp only[aI,cz]
 simp only[m9,jO]
 by_cases hP:de k n
 ·rw[aV hP];unfold de at hP
  repeat' split
  all_goals first|rfl|omega|(rw[aV ω])
 ·rw[bw hP];unfold de at hP
  repeat' split
  all_goals first|rfl|omega|(rw[bw ω])
theorem acV(k n:Int):F97 N k n=some (decide (de k n)):=by
 have:=SC N k n
 unfold F83 at this
 unfold F97
 exact this
def lZ(a b c d:Int):Prop:=a<c∨(a=c∧b<d)
instance(a b c d:Int):Decidable (lZ a b c d):=by unfold lZ;infer_instance
def C1(k n a b:Int):Int:=if k=a then n-b else k-a
def JS(x:Int):Prop:= -1000000≤x∧x≤1000000
theorem HE{k n:Int}{r:dg}(h1:JS k)(h2:JS n)(h3:JS r.1)(h4:JS r.2.1):F84 N k n r=some (C1 k n r.1 r.2.1):=by
 unfold F84 C1
 unfold JS at*
 rw[cond_not,aI]
 split
 ·rw[aw ω ω]
 ·rw[aw ω ω]
theorem KB{k n:Int}{r:dg}(h1:JS k)(h2:JS n)(h3:JS r.1)(h4:JS r.2.1):Wm N k n r=some (C1 k n r.1 r.2.1):=HE N h1 h2 h3 h4
def nn(a b c:Int)(i:Nat)(d e:Int):Prop:=de a b∧c≠0∧(0<i→lZ d e a b)
instance(a b c:Int)(i:Nat)(d e:Int):Decidable (nn a b c i d e):=by unfold nn;infer_instance
def mL(l:au)(i:Nat):Prop:=nn (l.getD i aZ).1 (l.getD i aZ).2.1 (l.getD i aZ).2.2.1 i (l.getD (i-1) aZ).1 (l.getD (i-1) aZ).2.1
instance(l:au):DecidablePred (mL l):=λi=>by unfold mL;infer_instance
def fh(l:au):Bool:=decide (∀j,j<l.length→mL l j)&&true
theorem Mo{l:au}(hl:l.length≤100000)(hN:200000≤N):C2 N l=some (fh l):=by
 unfold C2 C2.b
 refine iC (F:=λn i=>C2.l2 N n l l (l.length:Int) i) (mL l) (λn i r hi hp hr=> ?_) (λn=> ?_) N ω
 ·unfold C2.l2 C2.fN
  rw[aQ ω,aj,aU ω ω,aj,aG,aw (x:=(i:Int)+1) ω ω,af,SC,ar,cond_not,ga]
  by_cases hK:de (l.getD i aZ).1 (l.getD i aZ).2.1
  ·rw[ak hK]
   by_cases h0:0<i
   ·have hq:=hp (i-1) ω
    have e:W .i64 ((i:Int)-1)=((i-1:Nat):Int):=by rw[aw ω ω];omega
    dsimp only
    rw[aQ (x:=0) ω,aj,e,aG,aU ω ω,aj]
    unfold mL nn at hq
    have hq:=hq.1
    rw[HE N (by unfold de at hK;unfold JS;omega) (by unfold de at hK;unfold JS;omega) (by unfold de at hq;unfold JS;omega) (by unfold de at hq;unfold JS;omega),ar,aI,cz]
    by_cases hP:mL l i
    ·rw[ak hP];unfold mL nn lZ at hP;unfold C1
     have SD:=hP.2
     repeat' split
     all_goals first|rfl|exact hr|omega
    ·rw[ag hP];unfold mL nn lZ at hP;unfold C1
     have SD:=λh=>hP ⟨hK,h⟩
     repeat' split
     all_goals first|rfl|exact hr|omega|(exfalso;exact SD ω)
   ·rw[aO (x:=0) ω,av,aI]
    by_cases hP:mL l i
    ·rw[ak hP];unfold mL nn at hP
     rw[ag hP.2.1];exact hr
    ·rw[ag hP];unfold mL nn at hP
     have SD:=λh=>hP ⟨hK,h,λh=>absurd h h0⟩
     split
     ·rfl
     ·exact absurd (by assumption) SD
  ·rw[ag hK,ag (λh=>hK (by unfold mL nn at h;exact h.1))]
 ·unfold C2.l2 C2.fN
  rw[aO ω,av]
theorem HF{l:au}(hl:l.length≤100000)(hN:200000≤N):C3 N l=some (fh l):=by
 unfold C3 C3.b
 refine iC (F:=λn i=>C3.l2 N n l i) (mL l) (λn i r hi hp hr=> ?_) (λn=> ?_) N ω
 ·unfold C3.l2 C3.fN
  rw[aQ ω,aj,aU ω ω,aj,aG,aw (x:=(i:Int)+1) ω ω,af,acV,ar,cond_not,ga]
  by_cases hK:de (l.getD i aZ).1 (l.getD i aZ).2.1
  ·rw[ak hK]
   by_cases h0:0<i
   ·have e:W .i64 ((i:Int)-1)=((i-1:Nat):Int):=by rw[aw ω ω];omega
    dsimp only
    rw[aQ (x:=0) ω,e,aG,aU (i:=((i-1:Nat):Int)) ω ω]
    simp only[cf,cz,aI,aj]
    by_cases hP:mL l i
    ·rw[ak hP];unfold mL nn lZ at hP
     have SD:=hP.2
     repeat' split
     all_goals first|rfl|exact hr|omega
    ·rw[ag hP];unfold mL nn lZ at hP
     have SD:=λh=>hP ⟨hK,h⟩
     repeat' split
     all_goals first|rfl|exact hr|omega|(exfalso;exact SD ω)
   ·rw[aO (x:=0) ω]
    simp only[cf,cz,aI,aj,av]
    by_cases hP:mL l i
    ·rw[ak hP];unfold mL nn at hP
     rw[ag hP.2.1];exact hr
    ·rw[ag hP];unfold mL nn at hP
     have SD:=λh=>hP ⟨hK,h,λh=>absurd h h0⟩
     split
     ·rfl
     ·exact absurd (by assumption) SD
  ·rw[ag hK,ag (λh=>hK (by unfold mL nn at h;exact h.1))];rfl
 ·unfold C3.l2 C3.fN
  rw[aO ω,av]
def cg(a b:Int):Prop:=0≤a∧a≤24∧0≤b∧b<6
instance(a b:Int):Decidable (cg a b):=by unfold cg;infer_instance
theorem UB(a b:Int):Zq N a b=some (decide (cg a b)):=by
 unfold Zq
 simp only[cz]
 simp only[qv]
 by_cases hP:cg a b
 ·rw[aV hP];unfold cg at hP
  repeat' split
  all_goals first|rfl|omega|(rw[aV ω])
 ·rw[bw hP];unfold cg at hP
  repeat' split
  all_goals first|rfl|omega|(rw[bw ω])
def ri(q:Int):Prop:=q≠ -9223372036854775808
instance(q:Int):Decidable (ri q):=by unfold ri;infer_instance
theorem tI(q:Int):SE N q=some (decide (ri q)):=by
 unfold SE ri
 rw[jO]
 by_cases h:q= -9223372036854775808<;>simp[h]
def np(a b c:Int)(i:Nat)(d e:Int):Prop:=cg a b∧c≠0∧ri c∧(0<i→lZ d e a b)
instance(a b c:Int)(i:Nat)(d e:Int):Decidable (np a b c i d e):=by unfold np;infer_instance
def mM(l:au)(i:Nat):Prop:=np (l.getD i aZ).1 (l.getD i aZ).2.1 (l.getD i aZ).2.2.1 i (l.getD (i-1) aZ).1 (l.getD (i-1) aZ).2.1
instance(l:au):DecidablePred (mM l):=λi=>by unfold mM;infer_instance
def dk(l:au):Bool:=decide (∀j,j<l.length→mM l j)&&true
theorem xY{l:au}(hl:l.length≤100000)(hN:200000≤N):BR N l=some (dk l):=by
 unfold BR BR.b
 refine iC (F:=λn i=>BR.l2 N n l l (l.length:Int) i) (mM l) (λn i r hi hp hr=> ?_) (λn=> ?_) N ω
 ·unfold BR.l2 BR.fN
  rw[aQ ω,aj,aU ω ω,aj,aG,aw (x:=(i:Int)+1) ω ω,af,UB,ar,cond_not,ga,tI,ar,cond_not,ga]
  by_cases hK:cg (l.getD i aZ).1 (l.getD i aZ).2.1
  ·rw[ak hK]
   by_cases h0:0<i
   ·have hq:=hp (i-1) ω
    have e:W .i64 ((i:Int)-1)=((i-1:Nat):Int):=by rw[aw ω ω];omega
    dsimp only
    rw[aQ (x:=0) ω,aj,e,aG,aU ω ω,aj]
    unfold mM np at hq
    have hq:=hq.1
    rw[KB N (by unfold cg at hK;unfold JS;omega) (by unfold cg at hK;unfold JS;omega) (by unfold cg at hq;unfold JS;omega) (by unfold cg at hq;unfold JS;omega),ar,aI,cz]
    by_cases hP:mM l i
    ·rw[ak hP];unfold mM np lZ at hP;unfold C1
     obtain⟨_,hP1,SD,hP3⟩:=hP
     rw[ak SD]
     repeat' split
     all_goals first|rfl|exact hr|omega
    ·rw[ag hP];unfold mM np lZ at hP;unfold C1
     have SD:=λh1 h2 h3=>hP ⟨hK,h1,h2,h3⟩
     repeat' split
     all_goals first|rfl|exact hr|(exfalso;exact SD (by assumption) (by assumption) ω)|omega
   ·rw[aO (x:=0) ω,av,aI]
    by_cases hP:mM l i
    ·rw[ak hP];unfold mM np at hP
     rw[ag hP.2.1,ak hP.2.2.1];exact hr
    ·rw[ag hP];unfold mM np at hP
     have SD:=λh1 h2=>hP ⟨hK,h1,h2,λh=>absurd h h0⟩
     split
     ·rfl
     ·split
      ·exact(SD (by assumption) (by assumption)).elim
      ·rfl
  ·rw[ag hK,ag (λh=>hK (by unfold mM np at h;exact h.1))]
 ·unfold BR.l2 BR.fN
  rw[aO ω,av]
theorem lS{l:au}(hl:l.length≤100000)(hN:200000≤N):AD N l=some (dk l):=by
 unfold AD AD.b
 refine iC (F:=λn i=>AD.l2 N n l i) (mM l) (λn i r hi hp hr=> ?_) (λn=> ?_) N ω
 ·unfold AD.l2 AD.fN
  rw[aQ ω,aj,aU ω ω,aj,aG,aw (x:=(i:Int)+1) ω ω,af]
  by_cases h0:0<i
  ·have e:W .i64 ((i:Int)-1)=((i-1:Nat):Int):=by rw[aw ω ω];omega
   dsimp only
   rw[aQ (x:=0) (y:=(i:Int)) ω,e,aG,aU (i:=((i-1:Nat):Int)) ω ω]
   simp only[cf,cz,aI,aj]
   by_cases hP:mM l i
   ·rw[ak hP];unfold mM np lZ ri cg at hP
    repeat' split
    all_goals first|rfl|exact hr|omega
   ·rw[ag hP];unfold mM np lZ ri cg at hP
    repeat' split
    all_goals first|rfl|exact hr|omega|(exfalso;exact hP ω)
  ·rw[aO (x:=0) (y:=(i:Int)) ω]
   simp only[cf,cz,aI,aj,av]
   by_cases hP:mM l i
   ·rw[ak hP];unfold mM np lZ ri cg at hP
    repeat' split
    all_goals first|rfl|exact hr|omega
   ·rw[ag hP];unfold mM np lZ ri cg at hP
    repeat' split
    all_goals first|rfl|exact hr|omega|(exfalso;exact hP ω)
 ·unfold AD.l2 AD.fN
  rw[aO ω,av]
theorem ig(a b:Int)(y:Bool):cond (dy a b) (some y) (some false)=some (decide (a≤b)&&y):=by
 rw[cz];by_cases h:a≤b<;>simp[h]
theorem HG(a b:Int)(y:Bool):cond (aX a b) (some y) (some false)=some (decide (a<b)&&y):=by
 rw[cf];by_cases h:a<b<;>simp[h]
theorem HH(a b:Int)(y:Bool):cond (aM a b) (some y) (some false)=some (decide (a=b)&&y):=by
 rw[aI];by_cases h:a=b<;>simp[h]
theorem C5(a b:Int)(y z:Bool):cond (aM a b) (some y) (some z)=some ((decide (a=b)&&y)||(!decide (a=b)&&z)):=by
 rw[aI];by_cases h:a=b<;>simp[h]
def Ai(a b c d e f:Int):Prop:=(1≤a∧a≤1099511627776)∧(1≤b∧b≤24)∧(0≤c∧c<6)∧(d=1∨d=2)∧(1≤e∧e≤1000000000)∧(1≤f∧f≤1000000000000)
instance(a b c d e f:Int):Decidable (Ai a b c d e f):=by unfold Ai;infer_instance
def qU(o:gb):Prop:=Ai o.1 o.2.1 o.2.2.1 o.2.2.2.1 o.2.2.2.2.1 o.2.2.2.2.2.1
instance(o:gb):Decidable (qU o):=by unfold qU;infer_instance
theorem ak5(o:gb):F90 N o=some (decide (qU o)):=by
 unfold F90
 rw[m9 o.2.2.2.2.2.1]
 rw[ig,ig,ig,HH,C5,HG,ig,ig,ig,ig,ig]
 congr 1
 rw[pV,fV]
 unfold qU Ai
 simp only[bQ,og,rQ,xi,Gj]
 omega
theorem C6(p:Int):F40 N p=some (decide (1≤p∧p≤1000000000000)):=by
 unfold F40
 rw[m9 p,ig];congr 1
 rw[pV];simp only[bQ,xi]
theorem jz(p:Int):XZ N p=some (decide (1≤p∧p≤1000000000000)):=C6 N p
theorem BS(o:gb):F99 N o=some (decide (qU o)):=by
 unfold F99
 rw[jz,ar]
 repeat (first|rw[ig]|rw[HG]|rw[HH]|rw[C5])
 congr 1
 rw[pV,fV]
 unfold qU Ai
 simp only[bQ,og,rQ,xi,Gj]
 omega
def uY(i:Nat)(a b:Int):Prop:=0<i→a<b
instance(i:Nat)(a b:Int):Decidable (uY i a b):=by unfold uY;infer_instance
def tJ(l:aY)(i:Nat):Prop:=qU (l.getD i dT)∧uY i (l.getD (i-1) dT).1 (l.getD i dT).1
instance(l:aY):DecidablePred (tJ l):=λi=>by unfold tJ;infer_instance
def dn(l:aY):Bool:=decide (∀j,j<l.length→tJ l j)&&decide (l.length≤32)
theorem C8{l:aY}(hl:l.length≤100000)(hN:200000≤N):C9 N l=some (dn l):=by
 unfold C9 C9.b
 refine iC (F:=λn i=>C9.l2 N n l l (l.length:Int) i) (tJ l) (λn i r hi hp hr=> ?_) (λn=> ?_) N ω
 ·unfold C9.l2 C9.fN
  rw[aQ ω,aj,aU ω ω,aj,aG,aw (x:=(i:Int)+1) ω ω,af,ak5,ar,cond_not,ga]
  by_cases hK:qU (l.getD i dT)
  ·rw[ak hK]
   by_cases h0:0<i
   ·have e:W .i64 ((i:Int)-1)=((i-1:Nat):Int):=by rw[aw ω ω];omega
    dsimp only
    rw[aQ (x:=0) ω,aj,e,aG,aU ω ω,aj,cz]
    by_cases hP:tJ l i
    ·rw[ak hP,ag (by have h2:=hP.2;unfold uY at h2;omega)];exact hr
    ·rw[ag hP,ak]
     have h2: ¬uY i (l.getD (i-1) dT).1 (l.getD i dT).1:=λh=>hP ⟨hK,h⟩
     unfold uY at h2
     omega
   ·rw[aO (x:=0) ω,av,ak ⟨hK,λh=>absurd h h0⟩];exact hr
  ·rw[ag hK,ag (λh=>hK h.1)]
 ·unfold C9.l2 C9.fN
  rw[aO ω,av,m9]
  congr 1;rw[oc];omega
theorem ij{l:aY}(hl:l.length≤100000)(hN:200000≤N):AE N l=some (dn l):=by
 unfold AE AE.b
 by_cases h32:32<l.length
 ·rw[aQ ω,aj];unfold dn
  rw[bw (p:=l.length≤32) ω,Gz]
 rw[aO ω,av]
 have:=iC (F:=λn i=>AE.l4 N n l i) (e:=true) (tJ l) (λn i r hi hp hr=> ?_) (λn=> ?_) N (show l.length<N by omega)
 ·refine Eq.trans this ?_
  unfold dn
  rw[aV (p:=l.length≤32) ω]
 ·unfold AE.l4 AE.dM
  rw[aQ ω,aj,aU ω ω,aj,aG,aw (x:=(i:Int)+1) ω ω,af,BS,ar,cond_not,ga]
  by_cases hK:qU (l.getD i dT)
  ·rw[ak hK]
   by_cases h0:0<i
   ·have e:W .i64 ((i:Int)-1)=((i-1:Nat):Int):=by rw[aw ω ω];omega
    dsimp only
    rw[aQ (x:=0) ω,aj,aj,e,aG,aU ω ω,aj,cz]
    by_cases hP:tJ l i
    ·rw[ak hP,ag (by have h2:=hP.2;unfold uY at h2;omega)];exact hr
    ·rw[ag hP,ak]
     have h2: ¬uY i (l.getD (i-1) dT).1 (l.getD i dT).1:=λh=>hP ⟨hK,h⟩
     unfold uY at h2
     omega
   ·rw[aO (x:=0) ω,av,ak ⟨hK,λh=>absurd h h0⟩];exact hr
  ·rw[ag hK,ag (λh=>hK h.1)]
 ·unfold AE.l4 AE.dM
  rw[aO ω,av]
def kH(id:Int):aE→Int
 |[]=>0
 |x::t=>if x.1=id then x.2.1 else kH id t
def uZ(id:Int):aN→cO×Bool
 |[]=>(bb,false)
 |x::t=>if x.1=id then(x,true)else uZ id t
def ow(id:Int):aN→Int
 |[]=>0
 |x::t=>if x.2.1=id then(if x.2.2.1=1 then x.1 else ow id t)else ow id t
theorem vU(id:Int)(x:BT)(t:aE):kH id (x::t)=if x.1=id then x.2.1 else kH id t:=rfl
theorem pf(id:Int)(x:cO)(t:aN):uZ id (x::t)=if x.1=id then(x,true)else uZ id t:=rfl
theorem tK(id:Int)(x:cO)(t:aN):ow id (x::t)=if x.2.1=id then(if x.2.2.1=1 then x.1 else ow id t)else ow id t:=rfl
theorem Ph{m:aE}(hl:m.length≤100000)(hN:200000≤N)(id:Int):BU.l4 N N id m (m.length:Int) 0=some (kH id m):=by
 refine Eg m c7 (λn i=>BU.l4 N n id m (m.length:Int) i) (λl=>some (kH id l)) (λn i hi hr=> ?_) (λn=> ?_) N ω
 ·unfold BU.l4 BU.dM
  rw[aQ ω,aj,aU ω ω,aj,aG,aw (x:=(i:Int)+1) ω ω,af,hr,aI]
  rw[vU]
  split<;>rfl
 ·unfold BU.l4 BU.dM
  rw[aO ω,av];rfl
theorem iW{m:aE}(hl:m.length≤100000)(hN:200000≤N)(id:Int):AF N m id=some (kH id m):=by
 unfold AF AF.b
 refine Eg m c7 (λn i=>AF.l2 N n m id i) (λl=>some (kH id l)) (λn i hi hr=> ?_) (λn=> ?_) N ω
 ·unfold AF.l2 AF.fN
  rw[aQ ω,aj,aU ω ω,aj,aj,aG,aw (x:=(i:Int)+1) ω ω,af,hr,aI]
  rw[vU]
  split<;>rfl
 ·unfold AF.l2 AF.fN
  rw[aO ω,av];rfl
def gd(m:aE)(id:Int):Int:=if dN m then kH id m else 0
theorem Da{m:aE}(hl:m.length≤100000)(hN:200000≤N)(id:Int):BU N m id=some (gd m id):=by
 unfold BU BU.b gd
 rw[HD N hl hN,ar,cond_not,Ph N hl hN]
 cases dN m<;>rfl
theorem pg{m:aE}(hl:m.length≤100000)(hN:200000≤N)(id:Int):UC N m id=some (gd m id):=by
 unfold UC gd
 rw[nI N hl hN,ar,cond_not,iW N hl hN]
 cases dN m<;>rfl
theorem Wn{m:aN}(hl:m.length≤100000)(hN:200000≤N)(id:Int):Ei.l4 N N id bb m (m.length:Int) 0=some (uZ id m):=by
 refine Eg m bb (λn i=>Ei.l4 N n id bb m (m.length:Int) i) (λl=>some (uZ id l)) (λn i hi hr=> ?_) (λn=> ?_) N ω
 ·unfold Ei.l4 Ei.dM
  rw[aQ ω,aj,aU ω ω,aj,aG,aw (x:=(i:Int)+1) ω ω,af,hr,aI]
  rw[pf]
  split<;>rfl
 ·unfold Ei.l4 Ei.dM
  rw[aO ω,av];rfl
theorem sy{m:aN}(hl:m.length≤100000)(hN:200000≤N)(id:Int):oU N m id=some (uZ id m):=by
 unfold oU oU.b
 refine Eg m bb (λn i=>oU.l2 N n m id bb i) (λl=>some (uZ id l)) (λn i hi hr=> ?_) (λn=> ?_) N ω
 ·unfold oU.l2 oU.fN
  rw[aQ ω,aj,aU ω ω,aj,aj,aG,aw (x:=(i:Int)+1) ω ω,af,hr,aI]
  rw[pf]
  split<;>rfl
 ·unfold oU.l2 oU.fN
  rw[aO ω,av];rfl
theorem Pj{m:aN}(hl:m.length≤100000)(hN:200000≤N)(id:Int):nq.l4 N N m id 0=some (ow id m):=by
 refine Eg m bb (λn i=>nq.l4 N n m id i) (λl=>some (ow id l)) (λn i hi hr=> ?_) (λn=> ?_) N ω
 ·unfold nq.l4 nq.dM
  rw[aQ ω,aj,aU ω ω]
  simp only[aj]
  rw[aG,aw (x:=(i:Int)+1) ω ω,af,hr,aI,aI]
  rw[tK]
  split
  ·split<;>rfl
  ·rfl
 ·unfold nq.l4 nq.dM
  rw[aO ω,av];rfl
def dI(a b:Int):Prop:=a=b
instance(a b:Int):Decidable (dI a b):=by unfold dI;infer_instance
def zG(l:aN)(k:Nat)(m:Int):Prop:=dI (l.getD k bb).2.2.1 1∧dI (l.getD k bb).2.1 m
instance(l:aN)(k:Nat)(m:Int):Decidable (zG l k m):=by unfold zG;infer_instance
def m2(l:aN)(i:Nat)(m:Int):Bool:=(List.range i).any λk=>decide (zG l k m)
theorem xZ{l:aN}{i:Nat}{m:Int}:m2 l i m=true↔ ∃k,k<i∧zG l k m:=by
 unfold m2
 rw[AX]
 simp only[rV,fV]
theorem vV(l:aN)(i:Nat)(m:Int):m2 l (i+1) m=(m2 l i m||decide (zG l i m)):=by
 unfold m2
 rw[Gw,List.any_append];simp
def nr(a b c d:Int):Prop:=(1≤a∧a≤24)∧(1≤b∧b≤12)∧(c=1∨c=2)∧(0≤d∧d≤1000000000000)
instance(a b c d:Int):Decidable (nr a b c d):=by unfold nr;infer_instance
def ln(l:aN)(i:Nat):Prop:= ¬(dI (l.getD i bb).2.2.1 1∧m2 l i (l.getD i bb).2.1=true)
instance(l:aN)(i:Nat):Decidable (ln l i):=by unfold ln;infer_instance
def BV(l:aN)(i:Nat):Prop:=nr (l.getD i bb).1 (l.getD i bb).2.1 (l.getD i bb).2.2.1 (l.getD i bb).2.2.2.1∧uY i (l.getD (i-1) bb).1 (l.getD i bb).1∧ln l i
instance(l:aN):DecidablePred (BV l):=λi=>by unfold BV;infer_instance
def gO(l:aN):Bool:=decide (∀j,j<l.length→BV l j)&&true
def gg(l:aN)(i:Nat):List Bool:=(List.range 13).map λ(m:Nat)=>m2 l i (m:Int)
theorem Wo{l:aN}{i:Nat}{b:Int}(h0:0≤b)(h1:b<13):(gg l i).getD b.toNat false=m2 l i b:=by
 unfold gg
 rw[aW,ob,List.getElem?_range ω]
 show m2 l i ((b.toNat:Nat):Int)=_
 rw[uy h0]
theorem Pk{l:aN}{i:Nat}(h: ¬dI (l.getD i bb).2.2.1 1):gg l (i+1)=gg l i:=by
 unfold gg
 refine pU λm _=> ?_
 rw[vV,bw (λh'=>h h'.1),rW]
theorem SF{l:aN}{i:Nat}(h:dI (l.getD i bb).2.2.1 1)(h0:(0:Int)≤(l.getD i bb).2.1):(gg l i).set ((l.getD i bb).2.1:Int).toNat true=gg l (i+1):=by
 refine List.ext_getElem (by unfold gg;simp) λk h1 h2=> ?_
 unfold gg at*
 rw[List.getElem_set]
 simp only[List.getElem_map,Gr]
 rw[vV]
 by_cases hk:((l.getD i bb).2.1:Int).toNat=k
 ·rw[ak hk,aV (show zG l i (k:Int)from⟨h,by unfold dI;omega⟩),Bool.or_true]
 ·rw[ag hk,bw (λh':zG l i (k:Int)=>hk (by have:=h'.2;unfold dI at this;omega)),rW]
theorem Mp{l:aN}(hl:l.length≤100000)(hN:200000≤N):Aj N l=some (gO l):=by
 unfold Aj Aj.b
 have h0:(List.replicate 13 false:List Bool)=gg l 0:=by unfold gg m2;rfl
 rw[h0]
 have:=iC (F:=λn i=>Aj.l3 N n l (gg l i.toNat) l (l.length:Int) i) (e:=true) (BV l) (λn i r hi hp hr=> ?_) (λn=> ?_) N (show l.length<N by omega)
 ·exact this
 ·simp only[aG]at hr ⊢
  unfold Aj.l3 Aj.nY
  rw[aQ ω,aj,aU ω ω,aj]
  simp only[aG]
  rw[aw (x:=(i:Int)+1) ω ω,af]
  by_cases hF:nr (l.getD i bb).1 (l.getD i bb).2.1 (l.getD i bb).2.2.1 (l.getD i bb).2.2.2.1
  ·have UD:=hF
   unfold nr at UD
   have hT:cond (aM (l.getD i bb).2.2.1 1) (cond (bg (l.getD i bb).2.1 13) (cond (γ (gg l i) (l.getD i bb).2.1.toNat false) (some false) (cond (bg (l.getD i bb).2.1 13) (Aj.l3 N n l (List.set (gg l i) (l.getD i bb).2.1.toNat true) l (l.length:Int) ((i+1:Nat):Int)) none)) none) (Aj.l3 N n l (gg l i) l (l.length:Int) ((i+1:Nat):Int))=if ln l i then r else some false:=by
    rw[aI]
    by_cases hk:dI (l.getD i bb).2.2.1 1
    ·have Bq:=hk
     unfold dI at Bq
     rw[ak Bq,aU ω ω,aj,aj,Wo ω ω,SF hk ω,hr]
     by_cases ho:m2 l i (l.getD i bb).2.1=true
     ·have qy: ¬ln l i:=λh=>h ⟨hk,ho⟩
      rw[ag qy,ho];rfl
     ·have qy:ln l i:=λh=>ho h.2
      rw[ak qy,xj.2 ho];rfl
    ·have Bq:=hk
     unfold dI at Bq
     rw[ag Bq,ak (show ln l i from λh=>hk h.1),←Pk hk,hr]
   have hP:BV l i↔uY i (l.getD (i-1) bb).1 (l.getD i bb).1∧ln l i:=⟨λh=>h.2,λh=>⟨hF,h⟩⟩
   have hD:(if BV l i then r else some false)=if uY i (l.getD (i-1) bb).1 (l.getD i bb).1 then(if ln l i then r else some false)else some false:=by
    by_cases h1:uY i (l.getD (i-1) bb).1 (l.getD i bb).1<;>by_cases h2:ln l i<;>simp[hP,h1,h2]
   rw[hD]
   rw[hT]
   rw[aO ω,av,aO ω,av,aO ω,av,aO ω,av,aO (x:=(l.getD i bb).2.2.2.1) ω,aO (x:=1000000000000) ω]
   simp only[av]
   have hm: ∀{α:Type} (x:α) (y:α),cond (!aM (l.getD i bb).2.2.1 1) (cond (!aM (l.getD i bb).2.2.1 2) y x) x=x:=by
    intro α x y
    rcases UD.2.2.1 with h|h
    ·rw[eg h];rfl
    ·rw[eg (y:=2) h];cases aM (l.getD i bb).2.2.1 1<;>rfl
   rw[hm]
   by_cases h0:0<i
   ·have e:W .i64 ((i:Int)-1)=((i-1:Nat):Int):=by rw[aw ω ω];omega
    rw[aQ (x:=0) ω,aj,e,aG,aU ω ω,aj,cz]
    by_cases h1:uY i (l.getD (i-1) bb).1 (l.getD i bb).1
    ·rw[ak h1,ag (by unfold uY at h1;omega)]
    ·rw[ag h1,ak (by unfold uY at h1;omega)]
   ·rw[aO (x:=0) ω,av,ak (show uY i (l.getD (i-1) bb).1 (l.getD i bb).1 from λh=>absurd h h0)]
  ·rw[ag (λh=>hF h.1)]
   unfold nr at hF
   generalize cond (aM (l.getD i bb).2.2.1 1) (cond (bg (l.getD i bb).2.1 13) (cond (γ (gg l i) (l.getD i bb).2.1.toNat false) (some false) (cond (bg (l.getD i bb).2.1 13) (Aj.l3 N n l (List.set (gg l i) (l.getD i bb).2.1.toNat true) l (l.length:Int) ((i+1:Nat):Int)) none)) none) (Aj.l3 N n l (gg l i) l (l.length:Int) ((i+1:Nat):Int))=t
   generalize cond (aX 0 (i:Int)) _ _=u
   simp only[cond_not,cf,aI]
   repeat' split
   all_goals first|rfl|omega
 ·unfold Aj.l3 Aj.nY
  rw[aO ω,av]
theorem Db(N:Nat)(K:aN→Int→Option Bool){l:aN}(hl:l.length≤100000){i:Nat}(hi:i<l.length): ∀(m n k:Nat),i-k≤m→m<n→k≤i→(dI (l.getD i bb).2.2.1 1→m2 l k (l.getD i bb).2.1=false)→
  m4.l8 N K n l (i:Int) (l.getD i bb) (k:Int)=if ln l i then K l ((i+1:Nat):Int)else some false
 |m,0,k,_,hn,_,_=>ω
 |m,n+1,k,hm,hn,hk,h=>by
  unfold m4.l8 m4.Ej
  by_cases Hb:k<i
  ·rw[aQ ω,aj,aU ω ω,aj,aj,aG,aw (x:=(k:Int)+1) ω ω,af,aI,aI,aI]
   by_cases h1:dI (l.getD i bb).2.2.1 1
   ·have q6:=h1
    unfold dI at q6
    rw[ak q6]
    by_cases h2:zG l k (l.getD i bb).2.1
    ·have zF:=h2
     unfold zG dI at zF
     have qy: ¬ln l i:=λh3=>h3 ⟨h1,xZ.2 ⟨k,Hb,h2⟩⟩
     rw[ak zF.1,ak zF.2,ag qy]
    ·have BQ:=Db N K hl hi (m-1) n (k+1) ω ω ω (λ_=>by rw[vV,h h1,bw h2];rfl)
     split
     ·split
      ·rename_i h3 h4
       exact absurd (show zG l k (l.getD i bb).2.1 from⟨h3,h4⟩) h2
      ·exact BQ
     ·exact BQ
   ·have q6:=h1
    unfold dI at q6
    rw[ag q6]
    exact Db N K hl hi (m-1) n (k+1) ω ω ω (λh=>absurd h h1)
  ·have:k=i:=ω
   subst this
   have qy:ln l k:=λh3=>by rw[h h3.1]at h3;exact nomatch h3.2
   rw[aO ω,av,ak qy,aw (x:=(k:Int)+1) ω ω];rfl
set_option maxHeartbeats 2000000 in
theorem sA{l:aN}(hl:l.length≤100000)(hN:200000≤N):m4 N l=some (gO l):=by
 unfold m4 m4.b
 refine iC (F:=λn i=>m4.l2 N n l i) (BV l) (λn i r hi hp hr=> ?_) (λn=> ?_) N ω
 ·unfold m4.l2 m4.fN
  have hT:m4.j7 N (m4.l2 N n) l (i:Int) (l.getD i bb)=if ln l i then r else some false:=by
   unfold m4.j7 m4.XX
   have:=Db N (m4.l2 N n) hl hi i N 0 ω ω ω (λ_=>rfl)
   rw[hr]at this
   exact this
  rw[aQ ω,aj,aU ω ω,aj]
  simp only[aG]
  rw[hT]
  have hD:(if BV l i then r else some false)=if nr (l.getD i bb).1 (l.getD i bb).2.1 (l.getD i bb).2.2.1 (l.getD i bb).2.2.2.1∧uY i (l.getD (i-1) bb).1 (l.getD i bb).1 then(if ln l i then r else some false)else some false:=by
   unfold BV
   by_cases h1:uY i (l.getD (i-1) bb).1 (l.getD i bb).1<;>by_cases h2:ln l i<;>by_cases h3:nr (l.getD i bb).1 (l.getD i bb).2.1 (l.getD i bb).2.2.1 (l.getD i bb).2.2.2.1<;>simp[h1,h2,h3]
  rw[hD]
  generalize (if ln l i then r else some false)=t
  by_cases h0:0<i
  ·have e:W .i64 ((i:Int)-1)=((i-1:Nat):Int):=by rw[aw ω ω];omega
   rw[aQ (x:=0) (y:=(i:Int)) ω,e]
   simp only[aj,aG]
   rw[aU (i:=((i-1:Nat):Int)) ω ω]
   simp only[cond_not,cf,cz,aI,aj]
   by_cases hP:nr (l.getD i bb).1 (l.getD i bb).2.1 (l.getD i bb).2.2.1 (l.getD i bb).2.2.2.1∧uY i (l.getD (i-1) bb).1 (l.getD i bb).1
   ·rw[ak hP];unfold nr uY at hP
    repeat' split
    all_goals first|rfl|omega
   ·rw[ag hP];unfold nr uY at hP
    repeat' split
    all_goals first|rfl|omega
  ·rw[aO (x:=0) (y:=(i:Int)) ω]
   simp only[cond_not,cf,cz,aI,aj,av]
   by_cases hP:nr (l.getD i bb).1 (l.getD i bb).2.1 (l.getD i bb).2.2.1 (l.getD i bb).2.2.2.1∧uY i (l.getD (i-1) bb).1 (l.getD i bb).1
   ·rw[ak hP];unfold nr uY at hP
    repeat' split
    all_goals first|rfl|omega
   ·rw[ag hP];unfold nr uY at hP
    repeat' split
    all_goals first|rfl|omega
 ·unfold m4.l2 m4.fN
  rw[aO ω,av]
end VM
end
section
namespace VM
open Go VM.F
variable(N:Nat)
def eT(a:aN)(id:Int):cO×Bool:=if gO a then uZ id a else(bb,false)
theorem acW{a:aN}(hl:a.length≤100000)(hN:200000≤N)(id:Int):Ei N a id=some (eT a id):=by
 unfold Ei Ei.b eT
 rw[Mp N hl hN,ar,cond_not,Wn N hl hN]
 cases gO a<;>rfl
theorem ya{a:aN}(hl:a.length≤100000)(hN:200000≤N)(id:Int):Dc N a id=some (eT a id):=by
 unfold Dc eT
 rw[sA N hl hN,ar,cond_not,sy N hl hN]
 cases gO a<;>rfl
def ox(a:aN)(id:Int):Int:=if gO a then ow id a else 0
theorem rJ{a:aN}(hl:a.length≤100000)(hN:200000≤N)(id:Int):nq N a id=some (ox a id):=by
 unfold nq nq.b ox
 rw[sA N hl hN,ar,cond_not,Pj N hl hN]
 cases gO a<;>rfl
def lT(m:aE)(a:aN)(i:Nat):Prop:= ¬dI (kH (a.getD i bb).2.1 m) 0
instance(m:aE)(a:aN):DecidablePred (lT m a):=λi=>by unfold lT;infer_instance
def sB(m:aE)(a:aN):Bool:=dN m&&(gO a&&(decide (∀j,j<a.length→lT m a j)&&true))
theorem acX{m:aE}{a:aN}(hm:m.length≤100000)(hl:a.length≤100000)(hN:200000≤N):E9 N m a=some (sB m a):=by
 unfold E9 E9.b sB
 rw[HD N hm hN,ar,cond_not,Mp N hl hN,ar,cond_not]
 cases hM:dN m
 ·rfl
 cases gO a
 ·rfl
 rw[kS,kS,aj,aj]
 refine iC (F:=λn i=>E9.l4 N n m a (a.length:Int) i) (lT m a) (λn i r hi hp hr=> ?_) (λn=> ?_) N ω
 ·unfold E9.l4 E9.dM
  rw[aQ ω,aj,aU ω ω,aj,aG,aw (x:=(i:Int)+1) ω ω,af,Da N hm hN,ar,aI]
  unfold gd
  rw[hM,ak rfl]
  by_cases hP:lT m a i
  ·rw[ak hP,ag (show ¬((kH (a.getD i bb).2.1 m:Int)=0)from λh=>hP h)];exact hr
  ·rw[ag hP,ak (show(kH (a.getD i bb).2.1 m:Int)=0 by unfold lT at hP;exact Gu.1 hP)]
 ·unfold E9.l4 E9.dM
  rw[aO ω,av]
theorem yb{m:aE}{a:aN}(hm:m.length≤100000)(hl:a.length≤100000)(hN:200000≤N):Dd N m a=some (sB m a):=by
 unfold Dd Dd.b sB
 rw[nI N hm hN,ar,cond_not,sA N hl hN,ar,cond_not]
 cases hM:dN m
 ·rfl
 cases gO a
 ·rfl
 rw[kS,kS,aj,aj]
 refine iC (F:=λn i=>Dd.l4 N n m a i) (lT m a) (λn i r hi hp hr=> ?_) (λn=> ?_) N ω
 ·unfold Dd.l4 Dd.dM
  rw[aQ ω,aj,aU ω ω,aj,aG,aw (x:=(i:Int)+1) ω ω,af,iW N hm hN,ar,aI]
  by_cases hP:lT m a i
  ·rw[ak hP,ag (show ¬((kH (a.getD i bb).2.1 m:Int)=0)from λh=>hP h)];exact hr
  ·rw[ag hP,ak (show(kH (a.getD i bb).2.1 m:Int)=0 by unfold lT at hP;exact Gu.1 hP)]
 ·unfold Dd.l4 Dd.dM
  rw[aO ω,av]
theorem Zr(a b:bY):oX (.pair (.int .i64) (.pair (.int .u64) .unit)) a b=(aM a.1 b.1&&(aM a.2.1 b.2.1&&true)):=rfl
theorem UE{u v:Int}:F85 N (cK u) (cK v)=some (vP (u-v)):=by
 unfold F85
 rw[Zr]
 unfold cK
 dsimp only
 unfold vP
 rw[cf,aI,cf,fc,jO,jO]
 have hu:u=u/18446744073709551616*18446744073709551616+u%18446744073709551616:=ω
 have hv:v=v/18446744073709551616*18446744073709551616+v%18446744073709551616:=ω
 by_cases h1:u/18446744073709551616<v/18446744073709551616
 ·rw[ak h1];congr 1;split<;>(try split)<;>omega
 ·rw[ag h1]
  by_cases h2:u/18446744073709551616=v/18446744073709551616
  ·rw[ak h2,aV h2,kS]
   by_cases h3:u%18446744073709551616<v%18446744073709551616
   ·rw[ak h3];congr 1;split<;>(try split)<;>omega
   ·rw[ag h3]
    by_cases h4:u%18446744073709551616=v%18446744073709551616
    ·rw[aV h4,aj];congr 1;split<;>(try split)<;>omega
    ·rw[bw h4,av];congr 1;split<;>(try split)<;>omega
  ·rw[ag h2,bw h2,uG,av];congr 1;split<;>(try split)<;>omega
theorem SG:cK 0=c7:=rfl
theorem BW{u:Int}:F32 N (cK u)=some (vP u):=by
 unfold F32
 rw[←SG,UE,ar,GC]
def dQ(r:dg):Int:=r.2.2.1
def aF(x:Int):Prop:= -9223372036854775808≤x∧x<9223372036854775808
def dU(l:au):Prop:= ∀x∈l,aF (dQ x)
theorem vW{l:au}(h:dU l)(i:Nat):aF (dQ (l.getD i aZ)):=by
 by_cases hi:i<l.length
 ·rw[aW,bm hi];exact h _ (dG hi)
 ·rw[aW,iq ω];exact⟨δ,δ⟩
theorem Pl{ws:List Int}(h: ∀x∈ws,aF x): -(9223372036854775808*(ws.length:Int))≤ws.sum∧ws.sum≤9223372036854775808*(ws.length:Int):=Ux ws h
theorem KC{ws:List Int}(h: ∀x∈ws,aF x)(hl:ws.length≤1000000):cH ws.sum:=by
 have:=Pl h
 unfold cH;omega
theorem Wp{ws:List Int}(h: ∀x∈ws,aF x): ∀x∈ws,cH x:=λx hx=>by
 have:=h x hx
 unfold aF at this;unfold cH;omega
theorem Mq{ws:List Int}(h: ∀x∈ws,aF x)(hl:ws.length≤1000000)(hN:1000000<N):AB N (ws.map cK)=some (cK ws.sum,true):=by
 rw[FP N (Wp h) hl hN]
 unfold Pg
 rw[ak (KC h hl)]
def iw(l:au):Int:=if fh l then(l.map dQ).sum else 0
theorem SH{l:au}(hq:dU l)(hl:l.length≤100000)(hN:2000000≤N):Ek.l5 N N c7 [] l (l.length:Int) 0=some (cK (l.map dQ).sum):=by
 have:=ll l aZ (λn i ws=>Ek.l5 N n c7 (ws.map cK) l (l.length:Int) i) (λt ws=>some (cK (ws++t.map dQ).sum)) (λi (ws:List Int)=>ws.length=i∧ ∀x∈ws,aF x)
  (λn i ws hi hI hr=> ?_) (λn ws hI=> ?_) l.length N 0 [] ω ω ω ⟨rfl,λx hx=>nomatch hx⟩
 ·simpa using this
 ·unfold Ek.l5 Ek.dV
  have kP:=vW hq i
  have jA:=kP
  unfold aF dQ at jA
  rw[aQ ω,aj,aU ω ω,aj,aG,vS N jA.1 jA.2,ar,bJ (by rw[cB,aJ];omega),aj,aw ω ω,af]
  have:=hr (ws++[dQ (l.getD i aZ)]) ⟨by rw[aS,hI.1];rfl,λx hx=>by
   rcases bn.1 hx with hx|hx
   ·exact hI.2 x hx
   ·rw[cy.1 hx];exact kP⟩
  rw[dr]at this
  refine this.trans ?_
  rw[ca,bF];rfl
 ·unfold Ek.l5 Ek.dV
  rw[aO ω,av,Mq N hI.2 ω ω,ar,gU,cA]
theorem Zs{l:au}(hq:dU l)(hl:l.length≤100000)(hN:2000000≤N):Ek N l=some (cK (iw l)):=by
 unfold Ek Ek.b iw
 rw[Mo N hl ω,ar,cond_not,SH N hq hl hN]
 cases fh l<;>rfl
theorem Pm{l:au}(hq:dU l)(hl:l.length≤100000)(hN:4000000≤N):El.l5 N N l (cI 0) (cI 0) 0=some (cI (l.map dQ).sum):=by
 have:=ll l aZ (λn i ws=>El.l5 N n l (cI 0) (cI ws.sum) i) (λt ws=>some (cI (ws++t.map dQ).sum)) (λi (ws:List Int)=>ws.length=i∧ ∀x∈ws,aF x)
  (λn i ws hi hI hr=> ?_) (λn ws hI=> ?_) l.length N 0 [] ω ω ω ⟨rfl,λx hx=>nomatch hx⟩
 ·simpa using this
 ·unfold El.l5 El.dV
  have kP:=vW hq i
  have jA:=kP
  unfold aF dQ at jA
  have hb:=Pl hI.2
  rw[hI.1]at hb
  rw[aQ ω,aj,aU ω ω,aj,aG,dd N ω jA.1 jA.2,ar,iN N ω ((BN (n:=i) ω hb.1 hb.2).mono ω) ((Fit.i64 jA.1 jA.2).mono ω),ar,aw ω ω,af]
  have:=hr (ws++[dQ (l.getD i aZ)]) ⟨by rw[aS,hI.1];rfl,λx hx=>by
   rcases bn.1 hx with hx|hx
   ·exact hI.2 x hx
   ·rw[cy.1 hx];exact kP⟩
  rw[oa,cN,jn,jo]at this
  refine this.trans ?_
  rw[ca,bF];rfl
 ·unfold El.l5 El.dV
  rw[aO ω,av,gU,cA]
theorem Wq{l:au}(hq:dU l)(hl:l.length≤100000)(hN:4000000≤N):El N l=some (cI (iw l)):=by
 unfold El El.b iw
 rw[HF N hl ω,ar,cond_not]
 have:=Pm N hq hl hN
 rw[g8]at this
 rw[this]
 cases fh l
 ·rw[av];exact fe some g8.symm
 ·rfl
def dp(inst:Int):au→List Int
 |[]=>[]
 |x::t=>if x.2.1=inst then dQ x::dp inst t else dp inst t
theorem dB(inst:Int)(x:dg)(t:au):dp inst (x::t)=if x.2.1=inst then dQ x::dp inst t else dp inst t:=rfl
theorem Wr{l:au}(hq:dU l)(hl:l.length≤100000)(hN:2000000≤N)(inst:Int):Em.l5 N N inst c7 [] l (l.length:Int) 0=some (cK (dp inst l).sum):=by
 have:=ll l aZ (λn i ws=>Em.l5 N n inst c7 (ws.map cK) l (l.length:Int) i) (λt ws=>some (cK (ws++dp inst t).sum)) (λi (ws:List Int)=>ws.length≤i∧ ∀x∈ws,aF x)
  (λn i ws hi hI hr=> ?_) (λn ws hI=> ?_) l.length N 0 [] ω ω ω ⟨aH _,λx hx=>nomatch hx⟩
 ·simpa using this
 ·unfold Em.l5 Em.dV
  have kP:=vW hq i
  have jA:=kP
  unfold aF dQ at jA
  rw[aQ ω,aj,aU ω ω,aj,aG,vS N jA.1 jA.2,ar,bJ (by rw[cB,aJ];omega),aj,aw ω ω,af,aI,dB]
  split
  ·have:=hr (ws++[dQ (l.getD i aZ)]) ⟨by rw[aS,aJ];omega,λx hx=>by
    rcases bn.1 hx with hx|hx
    ·exact hI.2 x hx
    ·rw[cy.1 hx];exact kP⟩
   rw[dr]at this
   refine this.trans ?_
   rw[bF];rfl
  ·exact hr ws ⟨ω,hI.2⟩
 ·unfold Em.l5 Em.dV
  rw[aO ω,av,Mq N hI.2 ω ω,ar]
  show _=some (cK (ws++[]).sum)
  rw[cA]
def rj(l:au)(inst:Int):Int:=if dk l then(dp inst l).sum else 0
theorem acY{l:au}(hq:dU l)(hl:l.length≤100000)(hN:2000000≤N)(inst:Int):Em N l inst=some (cK (rj l inst)):=by
 unfold Em Em.b rj
 rw[xY N hl ω,ar,cond_not,Wr N hq hl hN]
 cases dk l<;>rfl
theorem SJ{l:au}(hq:dU l)(hl:l.length≤100000)(hN:4000000≤N)(inst:Int):En.l5 N N l inst (cI 0) (cI 0) 0=some (cI (dp inst l).sum):=by
 have:=ll l aZ (λn i ws=>En.l5 N n l inst (cI 0) (cI ws.sum) i) (λt ws=>some (cI (ws++dp inst t).sum)) (λi (ws:List Int)=>ws.length≤i∧ ∀x∈ws,aF x)
  (λn i ws hi hI hr=> ?_) (λn ws hI=> ?_) l.length N 0 [] ω ω ω ⟨aH _,λx hx=>nomatch hx⟩
 ·simpa using this
 ·unfold En.l5 En.dV
  have kP:=vW hq i
  have jA:=kP
  unfold aF dQ at jA
  have hb:=Pl hI.2
  rw[aQ ω,aj,aU ω ω,aj,aj,aG,dd N ω jA.1 jA.2,ar,iN N ω ((BN (n:=ws.length) ω hb.1 hb.2).mono ω) ((Fit.i64 jA.1 jA.2).mono ω),ar,aw ω ω,af,aI,dB]
  split
  ·have:=hr (ws++[dQ (l.getD i aZ)]) ⟨by rw[aS,aJ];omega,λx hx=>by
    rcases bn.1 hx with hx|hx
    ·exact hI.2 x hx
    ·rw[cy.1 hx];exact kP⟩
   rw[oa,cN,jn,jo]at this
   refine this.trans ?_
   rw[bF];rfl
  ·exact hr ws ⟨ω,hI.2⟩
 ·unfold En.l5 En.dV
  rw[aO ω,av]
  show _=some (cI (ws++[]).sum)
  rw[cA]
theorem Pn{l:au}(hq:dU l)(hl:l.length≤100000)(hN:4000000≤N)(inst:Int):En N l inst=some (cI (rj l inst)):=by
 unfold En En.b rj
 rw[lS N hl ω,ar,cond_not]
 have:=SJ N hq hl hN inst
 rw[g8]at this
 rw[this]
 cases dk l
 ·rw[av];exact fe some g8.symm
 ·rfl
def sC(l:au)(i:Nat):Prop:=dI (rj l (i:Int)) 0
instance(l:au):DecidablePred (sC l):=λi=>by unfold sC;infer_instance
def kv:Nat:=6
def oy(l:au):Bool:=decide (∀j,j<kv→sC l j)&&dk l
theorem jB{x:Int}:vP x=0↔x=0:=by unfold vP;split<;>(try split)<;>omega
theorem acZ{l:au}(hq:dU l)(hl:l.length≤100000)(hN:2000000≤N):Fa N l=some (oy l):=by
 unfold Fa Fa.b
 refine iC (len:=kv) (F:=λn i=>Fa.l2 N n l i) (sC l) (λn i r hi hp hr=> ?_) (λn=> ?_) N (by unfold kv;omega)
 ·unfold Fa.l2 Fa.fN
  unfold kv at hi
  rw[aQ ω,aj,acY N hq hl hN,ar,BW,ar,cond_not,aI,aw ω ω,af,hr]
  by_cases hP:sC l i
  ·rw[ak hP,ak (jB.2 hP)]
  ·rw[ag hP,ag (λh=>hP (jB.1 h))]
 ·unfold Fa.l2 Fa.fN
  rw[aO (by unfold kv;omega),av,xY N hl ω,ar]
theorem Zt{l:au}(hq:dU l)(hl:l.length≤100000)(hN:4000000≤N):Fb N l=some (oy l):=by
 unfold Fb Fb.b
 refine iC (len:=kv) (F:=λn i=>Fb.l2 N n l i) (sC l) (λn i r hi hp hr=> ?_) (λn=> ?_) N (by unfold kv;omega)
 ·unfold Fb.l2 Fb.fN
  unfold kv at hi
  rw[aQ ω,aj,Pn N hq hl hN,ar,pM,ar,cond_not,aI,aw ω ω,af,hr]
  by_cases hP:sC l i
  ·rw[ak hP,ak (jB.2 hP)]
  ·rw[ag hP,ag (λh=>hP (jB.1 h))]
 ·unfold Fb.l2 Fb.fN
  rw[aO (by unfold kv;omega),av,lS N hl ω,ar]
def kI(m:aE)(a:aN)(l:au)(i:Nat):Prop:=
 (dI (l.getD i aZ).1 5→(eT a (l.getD i aZ).2.1).2=true)∧(dI (l.getD i aZ).1 6∨dI (l.getD i aZ).1 7→ ¬dI (gd m (l.getD i aZ).2.1) 0)
instance(m:aE)(a:aN)(l:au):DecidablePred (kI m a l):=λi=>by unfold kI;infer_instance
theorem De(b:an)(hl:b.2.1.length≤100000)(hN:200000≤N)(id:Int):F36 N b id=some (eT b.2.1 id).2:=by
 unfold F36
 rw[acW N hl hN,ar]
theorem Ws{k:Int}{f:Bool}{z:Int}{r:Option Bool}:cond (aM k 5) (cond (!f) (some false) r) (cond (aM k 6) (cond (aM z 0) (some false) r) (cond (aM k 7) (cond (aM z 0) (some false) r) r))=
  if(dI k 5→f=true)∧(dI k 6∨dI k 7→ ¬dI z 0)then r else some false:=by
 unfold dI
 rw[aI,aI,aI,aI,cond_not]
 by_cases h5:k=5
 ·have h6: ¬(k=6):=ω
  have h7: ¬(k=7):=ω
  cases f<;>simp[h5,h6,h7]
 ·by_cases h6:k=6
  ·by_cases hz:z=0<;>simp[h5,h6,hz]
  ·by_cases h7:k=7
   ·by_cases hz:z=0<;>simp[h5,h6,h7,hz]
   ·simp[h5,h6,h7]
theorem JT(hN:200000≤N)(c:ae)(b:an)(hm:b.1.length≤100000)(ha:b.2.1.length≤100000)(hl:b.2.2.1.length≤100000){e:Bool}
  (he:F9.yc N N c b b.2.2.2.1 (b.2.2.2.1.length:Int) 0=some e):F9.l4 N N c b b.2.2.1 (b.2.2.1.length:Int) 0=some (decide (∀j,j<b.2.2.1.length→kI b.1 b.2.1 b.2.2.1 j)&&e):=by
 refine iC (F:=λn i=>F9.l4 N n c b b.2.2.1 (b.2.2.1.length:Int) i) (kI b.1 b.2.1 b.2.2.1) (λn i r hi hp hr=> ?_) (λn=> ?_) N ω
 ·unfold F9.l4 F9.dM
  rw[aQ ω,aj,aU ω ω,aj,aG,aw (x:=(i:Int)+1) ω ω,af,hr]
  simp only[De N b ha hN,Da N hm hN,ar]
  rw[Ws]
  rfl
 ·unfold F9.l4 F9.dM
  rw[aO ω,av];exact he
def lG(a b:Int):Prop:=a<b
instance(a b:Int):Decidable (lG a b):=by unfold lG;infer_instance
def jS(c:ae)(a:aN)(l:au)(i:Nat):Prop:=
 (dI (l.getD i aZ).1 0∨(eT a (l.getD i aZ).1).2=true)∧lG (l.getD i aZ).2.1 c.1.length
instance(c:ae)(a:aN)(l:au):DecidablePred (jS c a l):=λi=>by unfold jS;infer_instance
theorem Zu{k x n:Int}{f:Bool}{r:Option Bool}:cond (!aM k 0) (cond (!f) (some false) (cond (dy n x) (some false) r)) (cond (dy n x) (some false) r)=if(dI k 0∨f=true)∧lG x n then r else some false:=by
 unfold dI lG
 rw[cond_not,aI,cz,cond_not]
 by_cases h0:k=0
 ·by_cases hx:n≤x
  ·have: ¬x<n:=ω
   simp[h0,hx,this]
  ·have:x<n:=ω
   simp[h0,hx,this]
 ·by_cases hx:n≤x
  ·have: ¬x<n:=ω
   cases f<;>simp[h0,hx,this]
  ·have:x<n:=ω
   cases f<;>simp[h0,hx,this]
theorem Mr(hN:200000≤N)(c:ae)(b:an)(ha:b.2.1.length≤100000)(hl:b.2.2.2.1.length≤100000){e:Bool}
  (he:F9.yd N N c b b.2.2.2.2.2.1 (b.2.2.2.2.2.1.length:Int) 0=some e):F9.yc N N c b b.2.2.2.1 (b.2.2.2.1.length:Int) 0=some (decide (∀j,j<b.2.2.2.1.length→jS c b.2.1 b.2.2.2.1 j)&&e):=by
 refine iC (F:=λn i=>F9.yc N n c b b.2.2.2.1 (b.2.2.2.1.length:Int) i) (jS c b.2.1 b.2.2.2.1) (λn i r hi hp hr=> ?_) (λn=> ?_) N ω
 ·unfold F9.yc F9.wX
  rw[aQ ω,aj,aU ω ω,aj,aG,aw (x:=(i:Int)+1) ω ω,af,hr]
  simp only[De N b ha hN,ar]
  rw[Zu]
  rfl
 ·unfold F9.yc F9.wX
  rw[aO ω,av];exact he
def rl(l:List Int)(i:Nat):Prop:=1≤l.getD i 0∧l.getD i 0≤1000000000000
instance(l:List Int):DecidablePred (rl l):=λi=>by unfold rl;infer_instance
def fm(l:List Int):Bool:=decide (∀j,j<l.length→rl l j)
theorem ak8(p:Int):F39 N p=some (!decide (1≤p∧p≤1000000000000)):=by
 unfold F39
 rw[C6,ar]
theorem HI(N:Nat){l:List Int}(hl:l.length≤100000): ∀(m n i:Nat),l.length-i≤m→m<n→i≤l.length→(∀j,j<i→rl l j)→
  ∃r,Jq.l2 N n l () (l.length:Int) (i:Int)=some r∧(dy 0 r= !fm l)
 |m,0,i,_,hn,_,_=>ω
 |m,n+1,i,hm,hn,hi,hp=>by
  unfold Jq.l2 Jq.fN
  by_cases h:i<l.length
  ·rw[aQ ω,aj,aU ω ω,aj,aG,ak8,ar,cond_not,ga]
   by_cases hP:rl l i
   ·have hP':=hP
    unfold rl at hP'
    rw[ak hP',aw ω ω]
    exact HI N hl (m-1) n (i+1) ω ω ω (λj hj=>by
     by_cases z8:j=i
     ·subst z8;exact hP
     ·exact hp j ω)
   ·have hP':=hP
    unfold rl at hP'
    rw[ag hP']
    refine⟨_,rfl,?_⟩
    rw[fR ω]
    unfold fm
    rw[bw (λh'=>hP (h' i h))];rfl
  ·rw[aO ω,av]
   refine⟨_,rfl,?_⟩
   rw[fM ω]
   unfold fm
   rw[aV (λj hj=>hp j ω)];rfl
theorem Wt{l:List Int}(hl:l.length≤100000)(hN:200000≤N):F38 N l ()=some (!fm l):=by
 unfold F38 Jq Jq.b
 obtain⟨r,e,h⟩:=HI N hl l.length N 0 ω ω ω (λj hj=>absurd hj ω)
 rw[show((0:Nat):Int)=0 from rfl]at e
 rw[e,ar,h]
def rm(c:ae)(a:aN)(l:aY)(i:Nat):Prop:=
 (eT a (l.getD i dT).2.1).2=true∧lG (l.getD i dT).2.2.1 c.1.length
instance(c:ae)(a:aN)(l:aY):DecidablePred (rm c a l):=λi=>by unfold rm;infer_instance
theorem HJ{x n:Int}{f:Bool}{r:Option Bool}:cond (!f) (some false) (cond (dy n x) (some false) r)=if f=true∧lG x n then r else some false:=by
 unfold lG
 rw[cz,cond_not]
 by_cases hx:n≤x
 ·have: ¬x<n:=ω
  cases f<;>simp[hx,this]
 ·have:x<n:=ω
  cases f<;>simp[hx,this]
theorem Ms(hN:200000≤N)(c:ae)(b:an)(ha:b.2.1.length≤100000)(hl:b.2.2.2.2.2.1.length≤100000)(hp:b.2.2.2.2.1.length≤100000):
  F9.yd N N c b b.2.2.2.2.2.1 (b.2.2.2.2.2.1.length:Int) 0=some (decide (∀j,j<b.2.2.2.2.2.1.length→rm c b.2.1 b.2.2.2.2.2.1 j)&&fm b.2.2.2.2.1):=by
 refine iC (F:=λn i=>F9.yd N n c b b.2.2.2.2.2.1 (b.2.2.2.2.2.1.length:Int) i) (rm c b.2.1 b.2.2.2.2.2.1) (λn i r hi RZ hr=> ?_) (λn=> ?_) N ω
 ·unfold F9.yd F9.wY
  rw[aQ ω,aj,aU ω ω,aj,aG,aw (x:=(i:Int)+1) ω ω,af,hr]
  simp only[De N b ha hN,ar]
  rw[HJ]
  rfl
 ·unfold F9.yd F9.wY
  rw[aO ω,av,Wt N hp hN,ar,Bool.not_not]
def dh(c:ae)(b:an):Bool:=
 eS c&&(sB b.1 b.2.1&&(fh b.2.2.1&&(decide (dI (iw b.2.2.1) 0)&&(oy b.2.2.2.1&&(dn b.2.2.2.2.2.1&&(decide (dI b.2.2.2.2.1.length c.1.length)&&
  (decide (∀j,j<b.2.2.1.length→kI b.1 b.2.1 b.2.2.1 j)&&(decide (∀j,j<b.2.2.2.1.length→jS c b.2.1 b.2.2.2.1 j)&&(decide (∀j,j<b.2.2.2.2.2.1.length→rm c b.2.1 b.2.2.2.2.2.1 j)&&fm b.2.2.2.2.1)))))))))
structure jC(b:an):Prop where
 m:b.1.length≤100000
 a:b.2.1.length≤100000
 r:b.2.2.1.length≤100000
 s:b.2.2.2.1.length≤100000
 p:b.2.2.2.2.1.length≤100000
 o:b.2.2.2.2.2.1.length≤100000
 qr:dU b.2.2.1
 qs:dU b.2.2.2.1
theorem oz{x:Bool}{r:Option Bool}{y:Bool}(h:r=some y):cond (!x) (some false) r=some (x&&y):=by subst h;cases x<;>rfl
theorem vX(hN:4000000≤N){c:ae}{b:an}(w:jC b):F9 N c b=some (dh c b):=by
 unfold F9 F9.b dh
 rw[FQ N ω,ar]
 refine oz ?_
 rw[acX N w.m w.a ω,ar]
 refine oz ?_
 rw[Mo N w.r ω,ar]
 refine oz ?_
 rw[Zs N w.qr w.r ω,ar,BW,ar]
 have e0:aM (vP (iw b.2.2.1)) 0=decide (dI (iw b.2.2.1) 0):=by rw[jO,oc];exact jB
 rw[e0]
 refine oz ?_
 rw[acZ N w.qs w.s ω,ar]
 refine oz ?_
 rw[C8 N w.o ω,ar]
 refine oz ?_
 rw[jO]
 refine oz ?_
 exact JT N ω c b w.m w.a w.r (Mr N ω c b w.a w.s (Ms N ω c b w.a w.o w.p))
theorem p9(b:an)(hl:b.2.1.length≤100000)(hN:200000≤N)(id:Int):F48 N b id=some ((eT b.2.1 id).2||decide (dI id 0)):=by
 unfold F48
 rw[ya N hl hN,ar,jO]
 cases(eT b.2.1 id).2<;>rfl
theorem SK{k:Int}{f:Bool}{z:Int}{r:Option Bool}:cond (aM k 5) (cond (!f) (some false) (cond (aM k 6) (cond (aM z 0) (some false) r) (cond (aM k 7) (cond (aM z 0) (some false) r) r))) (cond (aM k 6) (cond (aM z 0) (some false) r) (cond (aM k 7) (cond (aM z 0) (some false) r) r))=
  if(dI k 5→f=true)∧(dI k 6∨dI k 7→ ¬dI z 0)then r else some false:=by
 unfold dI
 rw[aI,aI,aI,aI,cond_not]
 by_cases h5:k=5
 ·have h6: ¬(k=6):=ω
  have h7: ¬(k=7):=ω
  cases f<;>simp[h5,h6,h7]
 ·by_cases h6:k=6
  ·by_cases hz:z=0<;>simp[h5,h6,hz]
  ·by_cases h7:k=7
   ·by_cases hz:z=0<;>simp[h5,h6,h7,hz]
   ·simp[h5,h6,h7]
theorem JU(hN:200000≤N)(c:ae)(b:an)(ha:b.2.1.length≤100000)(hl:b.2.2.2.2.2.1.length≤100000)(ho:dn b.2.2.2.2.2.1=true):
  gH.yd N N c b 0=some (decide (∀j,j<b.2.2.2.2.2.1.length→rm c b.2.1 b.2.2.2.2.2.1 j)&&true):=by
 refine iC (F:=λn i=>gH.yd N n c b i) (rm c b.2.1 b.2.2.2.2.2.1) (λn i r hi RZ hr=> ?_) (λn=> ?_) N ω
 ·unfold gH.yd gH.wY
  unfold dn at ho
  rw[bQ,fV]at ho
  have h1:=(ho.1 i hi).1
  unfold qU Ai at h1
  have h2:decide (dI (b.2.2.2.2.2.1.getD i dT).2.1 0)=false:=bw (by unfold dI;omega)
  rw[aQ ω,aj,aU ω ω,aj,aG,aw (x:=(i:Int)+1) ω ω,af,hr]
  simp only[p9 N b ha hN,ar,aj]
  rw[h2,rW,HJ]
  rfl
 ·unfold gH.yd gH.wY
  rw[aO ω,av]
theorem Fc(hN:200000≤N)(c:ae)(b:an)(hl:b.2.2.2.2.1.length≤100000){e:Bool}(he:gH.yd N N c b 0=some e):
  gH.FR N N c b 0=some (fm b.2.2.2.2.1&&e):=by
 refine iC (F:=λn i=>gH.FR N n c b i) (rl b.2.2.2.2.1) (λn i r hi RZ hr=> ?_) (λn=> ?_) N ω
 ·unfold gH.FR gH.Fe
  rw[aQ ω,aj,aU ω ω,aj,aG,aw (x:=(i:Int)+1) ω ω,af,hr,jz,ar,cond_not,ga]
  rfl
 ·unfold gH.FR gH.Fe
  rw[aO ω,av];exact he
theorem JV(hN:200000≤N)(c:ae)(b:an)(ha:b.2.1.length≤100000)(hl:b.2.2.2.1.length≤100000){e:Bool}(he:gH.FR N N c b 0=some e):
  gH.nJ N N c b 0=some (decide (∀j,j<b.2.2.2.1.length→jS c b.2.1 b.2.2.2.1 j)&&e):=by
 refine iC (F:=λn i=>gH.nJ N n c b i) (jS c b.2.1 b.2.2.2.1) (λn i r hi RZ hr=> ?_) (λn=> ?_) N ω
 ·unfold gH.nJ gH.mN
  rw[aQ ω,aj,aU ω ω,aj,aG,aw (x:=(i:Int)+1) ω ω,af,hr]
  simp only[p9 N b ha hN,ar,aj]
  rw[HJ]
  have Zv:((((eT b.2.1 (b.2.2.2.1.getD i aZ).1).2||decide (dI (b.2.2.2.1.getD i aZ).1 0))=true)∧lG (b.2.2.2.1.getD i aZ).2.1 c.1.length)↔jS c b.2.1 b.2.2.2.1 i:=by
   unfold jS
   rw[og,fV]
   exact⟨λh=>⟨h.1.symm,h.2⟩,λh=>⟨h.1.symm,h.2⟩⟩
  by_cases hP:jS c b.2.1 b.2.2.2.1 i
  ·rw[ak hP,ak (Zv.2 hP)]
  ·rw[ag hP,ag (λh=>hP (Zv.1 h))]
 ·unfold gH.nJ gH.mN
  rw[aO ω,av];exact he
theorem HK(hN:200000≤N)(c:ae)(b:an)(hm:b.1.length≤100000)(ha:b.2.1.length≤100000)(hl:b.2.2.1.length≤100000)(hk:fh b.2.2.1=true){e:Bool}
  (he:gH.nJ N N c b 0=some e):gH.l6 N N c b 0=some (decide (∀j,j<b.2.2.1.length→kI b.1 b.2.1 b.2.2.1 j)&&e):=by
 refine iC (F:=λn i=>gH.l6 N n c b i) (kI b.1 b.2.1 b.2.2.1) (λn i r hi RZ hr=> ?_) (λn=> ?_) N ω
 ·unfold gH.l6 gH.uU
  unfold fh at hk
  rw[fc,fV]at hk
  have h1:=(hk i hi).1
  rw[aQ ω,aj,aU ω ω,aj,aG,aw (x:=(i:Int)+1) ω ω,af,hr]
  simp only[p9 N b ha hN,pg N hm hN,ar]
  rw[SK]
  have Zv:((dI (b.2.2.1.getD i aZ).1 5→((eT b.2.1 (b.2.2.1.getD i aZ).2.1).2||decide (dI (b.2.2.1.getD i aZ).2.1 0))=true)∧(dI (b.2.2.1.getD i aZ).1 6∨dI (b.2.2.1.getD i aZ).1 7→ ¬dI (gd b.1 (b.2.2.1.getD i aZ).2.1) 0))↔kI b.1 b.2.1 b.2.2.1 i:=by
   unfold kI
   refine and_congr_left λ_=>imp_congr_right λh5=> ?_
   rw[og,fV]
   refine⟨λh=>h.elim id λh0=> ?_,.inl⟩
   unfold de at h1;unfold dI at h5 h0;omega
  by_cases hP:kI b.1 b.2.1 b.2.2.1 i
  ·rw[ak hP,ak (Zv.2 hP)]
  ·rw[ag hP,ag (λh=>hP (Zv.1 h))]
 ·unfold gH.l6 gH.uU
  rw[aO ω,av];exact he
theorem ph{x:Bool}{r:Option Bool}{y:Bool}(h:x=true→r=some y):cond (!x) (some false) r=some (x&&y):=by
 cases x
 ·rfl
 ·exact h rfl
theorem qa(hN:5000000≤N){c:ae}{b:an}(w:jC b):gH N c b=some (dh c b):=by
 unfold gH gH.b
 rw[mK N ω,ar]
 have e0:aM (vP (iw b.2.2.1)) 0=decide (dI (iw b.2.2.1) 0):=by rw[jO,oc];exact jB
 refine(ph λ_=> ?_).trans (fe some (?_:(eS c&&(sB b.1 b.2.1&&(fh b.2.2.1&&(oy b.2.2.2.1&&(dn b.2.2.2.2.2.1&&(decide (dI b.2.2.2.2.1.length c.1.length)&&(decide (dI (iw b.2.2.1) 0)&&
  (decide (∀j,j<b.2.2.1.length→kI b.1 b.2.1 b.2.2.1 j)&&(decide (∀j,j<b.2.2.2.1.length→jS c b.2.1 b.2.2.2.1 j)&&(fm b.2.2.2.2.1&&(decide (∀j,j<b.2.2.2.2.2.1.length→rm c b.2.1 b.2.2.2.2.2.1 j)&&true)))))))))))=dh c b))
 ·rw[yb N w.m w.a ω,ar]
  refine ph λ_=> ?_
  rw[HF N w.r ω,ar]
  refine ph λhk=> ?_
  rw[Zt N w.qs w.s ω,ar]
  refine ph λ_=> ?_
  rw[ij N w.o ω,ar]
  refine ph λho=> ?_
  rw[jO]
  refine ph λ_=> ?_
  rw[Wq N w.qr w.r ω,ar,pM,ar,e0]
  refine ph λ_=> ?_
  exact HK N ω c b w.m w.a w.r hk (JV N ω c b w.a w.s (Fc N ω c b w.p (JU N ω c b w.a w.o ho)))
 ·unfold dh
  generalize eS c=x1,sB b.1 b.2.1=x2,fh b.2.2.1=x3,oy b.2.2.2.1=x4,dn b.2.2.2.2.2.1=x5,decide (dI b.2.2.2.2.1.length c.1.length)=x6,decide (dI (iw b.2.2.1) 0)=x7,decide (∀j,j<b.2.2.1.length→kI b.1 b.2.1 b.2.2.1 j)=x8,decide (∀j,j<b.2.2.2.1.length→jS c b.2.1 b.2.2.2.1 j)=x9,fm b.2.2.2.2.1=bx,decide (∀j,j<b.2.2.2.2.2.1.length→rm c b.2.1 b.2.2.2.2.2.1 j)=bf
  rw[fc]
  cases x1<;>cases x2<;>cases x3<;>cases x4<;>cases x5<;>cases x6<;>cases x7<;>try rfl
  cases x8<;>cases x9<;>cases bx<;>cases bf<;>rfl
def qF(a q n:Int)(i:Nat)(p:Int):Prop:=0≤a∧a<n∧q≠0∧ri q∧(0<i→p<a)
instance(a q n:Int)(i:Nat)(p:Int):Decidable (qF a q n i p):=by unfold qF;infer_instance
def oB(c:ae)(l:aE)(i:Nat):Prop:=qF (l.getD i c7).1 (l.getD i c7).2.1 c.1.length i (l.getD (i-1) c7).1
instance(c:ae)(l:aE):DecidablePred (oB c l):=λi=>by unfold oB;infer_instance
def mi(c:ae)(l:aE):Bool:=decide (∀j,j<l.length→oB c l j)&&eS c
theorem UF(hN:200000≤N)(c:ae){l:aE}(hl:l.length≤100000):qb N c l=some (mi c l):=by
 unfold qb qb.b
 refine iC (F:=λn i=>qb.l2 N n l c l (l.length:Int) i) (oB c l) (λn i r hi hp hr=> ?_) (λn=> ?_) N ω
 ·unfold qb.l2 qb.fN
  rw[aQ ω,aj,aU ω ω,aj,aG,aw (x:=(i:Int)+1) ω ω,af,hr,tI,ar,cond_not,ga]
  by_cases h0:0<i
  ·have e:W .i64 ((i:Int)-1)=((i-1:Nat):Int):=by rw[aw ω ω];omega
   dsimp only
   rw[aQ (x:=0) (y:=(i:Int)) ω,aj,e,aG,aU ω ω,aj]
   simp only[cf,cz,aI]
   by_cases hP:oB c l i
   ·rw[ak hP];unfold oB qF at hP
    rw[ag ω,ag ω,ag hP.2.2.1,ak hP.2.2.2.1,ag ω]
   ·rw[ag hP];unfold oB qF at hP
    have h2:=λh1 h2 h3 h4 h5=>hP ⟨h1,h2,h3,h4,h5⟩
    repeat' split
    all_goals first|rfl|(exfalso;exact h2 ω ω (by assumption) (by assumption) ω)
  ·rw[aO (x:=0) (y:=(i:Int)) ω,av]
   simp only[cf,cz,aI]
   by_cases hP:oB c l i
   ·rw[ak hP];unfold oB qF at hP
    rw[ag ω,ag ω,ag hP.2.2.1,ak hP.2.2.2.1]
   ·rw[ag hP];unfold oB qF at hP
    have h2:=λh1 h2 h3 h4 h5=>hP ⟨h1,h2,h3,h4,h5⟩
    repeat' split
    all_goals first|rfl|(exfalso;exact h2 ω ω (by assumption) (by assumption) ω)
 ·unfold qb.l2 qb.fN
  rw[aO ω,av,FQ N ω,ar]
end VM
end
