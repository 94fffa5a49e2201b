/- A part of the proof of WindEmpty of layer 21: what the functions compute, in plain words. -/
import Derived.Test.YtecmobijochjkaaGreatPlain0
import Derived.Test.YtecmobijochjkaaGreatText
set_option linter.all false
section
namespace VM
open Go VM.F
def dm(x:Int):Prop:= -170141183460469231731687303715884105728≤x∧x<170141183460469231731687303715884105728
instance(x:Int):Decidable (dm x):=by unfold dm;infer_instance
theorem wK(N:Nat){x:Int}(h0: -9223372036854775808≤x)(h1:x<9223372036854775808):Vh N x=some (dP x):=by
 unfold Vh
 rw[aP ω,av,uv h0 h1,vi]
 congr 1
 exact wmk (by split<;>omega) rfl
theorem Z7{ws:List Int}(i:Nat):(ws.map dP).getD i cD=dP (ws.getD i 0):=by
 by_cases h:i<ws.length
 ·rw[aU,pV,bk h,aU,bk h];rfl
 ·rw[aU,gG (by rw[ct];omega),aU,gG ω];rfl
theorem Kr{ws:List Int}(h: ∀x∈ws,dm x): -(170141183460469231731687303715884105728*(ws.length:Int))≤ws.sum∧ws.sum≤170141183460469231731687303715884105728*(ws.length:Int):=by
 induction ws with
 |nil=>simp
 |cons x ws ih=>
  have h0:=h x (bm ..)
  have ih:=ih (λy hy=>h y (aZ _ hy))
  unfold dm at h0
  rw[cw,aR];omega
theorem Wy{t w:Int}{lo hi top:Int}(hw:dm w)(xZ:lo=t%18446744073709551616)(LA:hi=t/18446744073709551616%18446744073709551616)(arT:top=t/340282366920938463463374607431768211456):
  (lo+w%18446744073709551616+0)%18446744073709551616=(t+w)%18446744073709551616∧
  (hi+(w/18446744073709551616)%18446744073709551616+(lo+w%18446744073709551616+0)/18446744073709551616)%18446744073709551616=(t+w)/18446744073709551616%18446744073709551616∧
  top+(if w/18446744073709551616<0 then-1 else 0)+(hi+(w/18446744073709551616)%18446744073709551616+(lo+w%18446744073709551616+0)/18446744073709551616)/18446744073709551616=(t+w)/340282366920938463463374607431768211456:=by
 unfold dm at hw
 subst xZ LA arT
 refine⟨ω,ω,?_⟩
 split<;>omega
def Fu(t:Int):cz×Bool:=if dm t then(dP t,true)else(cD,false)
theorem W64(x:Int):W .u64 x=x%18446744073709551616:=vi x
theorem Ix(N:Nat){ws:List Int}(h: ∀x∈ws,dm x)(hl:ws.length≤1000000): ∀(m n i:Nat) (t:Int),ws.length-i≤m→m<n→i≤ws.length→t=(ws.take i).sum→
  mK.l3 N n cD (t/340282366920938463463374607431768211456) (t/18446744073709551616%18446744073709551616) (t%18446744073709551616) (ws.map dP) (ws.length:Int) (i:Int)=some (Fu ws.sum)
 |m,0,i,t,_,hn,_,_=>ω
 |m,n+1,i,t,hm,hn,hi,ht=>by
  unfold mK.l3 mK.nO
  have f1:=Kr (ws:=ws.take i) (λx hx=>h x (lM hx))
  rw[cc,iy ω,←ht]at f1
  by_cases h1:i<ws.length
  ·have hw:dm (ws.getD i 0):=by
    rw[aU,bk h1];exact h _ (dB h1)
   have hs:=lB ws h1
   rw[←ht]at hs
   have st:=Wy (t:=t) (w:=ws.getD i 0) hw rfl rfl rfl
   have wL:=Ix N h hl (m-1) n (i+1) (t+ws.getD i 0) ω ω ω hs.symm
   rw[aT ω,aq,a6 ω (by rw[ct];omega),aq,aJ,Z7]
   unfold dP
   dsimp only
   have hw':=hw
   unfold dm at hw'
   generalize ws.getD i 0=w at*
   have hq:0≤(t%18446744073709551616+w%18446744073709551616+0)/18446744073709551616∧(t%18446744073709551616+w%18446744073709551616+0)/18446744073709551616≤1:=ω
   rw[Na N ω ω ω ω,ar,W64,Na N ω ω hq.1 hq.2,ar,aP (x:=63) ω,av,st.1,st.2.1]
   rw[uv ω ω]
   have hc:0≤(t/18446744073709551616%18446744073709551616+w/18446744073709551616%18446744073709551616+(t%18446744073709551616+w%18446744073709551616+0)/18446744073709551616)/18446744073709551616∧(t/18446744073709551616%18446744073709551616+w/18446744073709551616%18446744073709551616+(t%18446744073709551616+w%18446744073709551616+0)/18446744073709551616)/18446744073709551616≤1:=ω
   have hif: -1≤(if w/18446744073709551616<0 then(-1:Int)else 0)∧(if w/18446744073709551616<0 then(-1:Int)else 0)≤0:=by split<;>omega
   rw[ay (x:=t/340282366920938463463374607431768211456+_) ω ω,ay (x:=(_:Int)/18446744073709551616) ω ω,st.2.2,ay ω ω,ay (x:=(i:Int)+1) ω ω]
   exact wL
  ·have e:(ws.take i).sum=ws.sum:=by rw[jF ω]
   rw[e]at ht
   rw[aP ω,av,aP (x:=63) ω,av,←ht]
   have hh: -9223372036854775808≤W .i64 (t/18446744073709551616%18446744073709551616)∧W .i64 (t/18446744073709551616%18446744073709551616)<9223372036854775808:=by rw[iG];split<;>omega
   have hwv:W .i64 (t/18446744073709551616%18446744073709551616)=if 9223372036854775808≤t/18446744073709551616%18446744073709551616 then t/18446744073709551616%18446744073709551616-18446744073709551616 else t/18446744073709551616%18446744073709551616:=by rw[iG];split<;>split<;>omega
   rw[uv hh.1 hh.2,hwv]
   unfold Fu
   by_cases hI:dm t
   ·rw[aj hI]
    unfold dm at hI
    rw[dW (by split<;>split<;>omega),bn,av]
    exact R1 (by split<;>omega) rfl
   ·rw[ah hI]
    unfold dm at hI
    rw[dX (by split<;>split<;>omega),c0,aq]
theorem DY(N:Nat){ws:List Int}(h: ∀x∈ws,dm x)(hl:ws.length≤1000000)(hN:1000000<N):mK N (ws.map dP)=some (Fu ws.sum):=by
 unfold mK mK.b
 rw[ct]
 exact Ix N h hl ws.length N 0 0 ω ω ω (by simp)
end VM
end
section
namespace VM
open Go VM.F
theorem uA(N:Nat)(a lo hi:Int):Du N a lo hi=some (decide (lo≤a∧a≤hi)):=by
 unfold Du
 rw[cG,nY]
 by_cases h:lo≤a
 ·rw[aj h];congr 1;rw[oQ];omega
 ·rw[ah h,cj ω]
theorem Iy(N:Nat)(a lo hi:Int):HD N a lo hi=some (decide (lo≤a∧a≤hi)):=uA N a lo hi
def oM(a b c d:Int):Prop:=(0≤a∧a≤3)∧(1≤b∧b≤1000000000000)∧(0≤c∧c≤1000000000)∧(0≤d∧d≤1000000000)
instance(a b c d:Int):Decidable (oM a b c d):=by unfold oM;infer_instance
def q5(l:aK)(i:Nat):Prop:=oM (l.getD i aV).1 (l.getD i aV).2.1 (l.getD i aV).2.2.1 (l.getD i aV).2.2.2.1
instance(l:aK):DecidablePred (q5 l):=λi=>by unfold q5;infer_instance
def nc(a b c d e f:Int):Prop:=0≤a∧(0≤b∧b≤4)∧(0≤c∧c≤1000000)∧(0≤d∧d≤1000000)∧(1≤e∧e≤4611686018427387904)∧0≤f
instance(a b c d e f:Int):Decidable (nc a b c d e f):=by unfold nc;infer_instance
def pB(c:ae):Prop:=nc c.2.1 c.2.2.1 c.2.2.2.1 c.2.2.2.2.1 c.2.2.2.2.2.1 c.2.2.2.2.2.2.1
instance(c:ae):Decidable (pB c):=by unfold pB;infer_instance
def fM(c:ae):Bool:=decide (1≤c.1.length∧c.1.length≤6)&&(decide (∀j,j<c.1.length→q5 c.1 j)&&decide (pB c))
theorem R2(N:Nat)(hN:100≤N)(c:ae):CJ N c=some (fM c):=by
 unfold CJ CJ.b fM
 rw[uA,ar,cond_not,gg]
 by_cases hl:1≤c.1.length∧c.1.length≤6
 ·rw[aj ω,bu hl,mZ]
  refine iq (F:=λn i=>CJ.l4 N n c c.1 (c.1.length:Int) i) (q5 c.1) (λn i r hi hp hr=> ?_) (λn=> ?_) N ω
  ·unfold CJ.l4 CJ.ei
   rw[aT ω,aq,a6 ω ω,aq,aJ,ay ω ω,ag]
   simp only[uA,ar,cond_not,gg]
   by_cases hP:q5 c.1 i
   ·rw[aj hP];unfold q5 oM at hP
    repeat' split
    all_goals first|rfl|exact hr|omega
   ·rw[ah hP];unfold q5 oM at hP
    repeat' split
    all_goals first|rfl|exact hr|omega
  ·unfold CJ.l4 CJ.ei
   rw[aP ω,av]
   simp only[uA,ar,cond_not,gg,cG,nY]
   by_cases hP:pB c
   ·rw[bu hP];unfold pB nc at hP
    repeat' split
    all_goals first|rfl|omega|(rw[bu ω])
   ·rw[cj hP];unfold pB nc at hP
    repeat' split
    all_goals first|rfl|omega|(rw[cj ω])
 ·rw[ah ω,cj hl,vS]
theorem nf(N:Nat)(hN:100≤N)(c:ae):lZ N c=some (fM c):=by
 unfold lZ lZ.b fM
 rw[cQ,cQ]
 by_cases hl:1≤c.1.length∧c.1.length≤6
 ·rw[ah ω,ah ω,bu hl,mZ]
  refine iq (F:=λn i=>lZ.l4 N n c i) (q5 c.1) (λn i r hi hp hr=> ?_) (λn=> ?_) N ω
  ·unfold lZ.l4 lZ.ei
   rw[aT ω,aq,a6 ω ω,aq,aJ,ay ω ω,ag]
   simp only[Iy,ar,cond_not,gg]
   by_cases hP:q5 c.1 i
   ·rw[aj hP];unfold q5 oM at hP
    repeat' split
    all_goals first|rfl|exact hr|omega
   ·rw[ah hP];unfold q5 oM at hP
    repeat' split
    all_goals first|rfl|exact hr|omega
  ·unfold lZ.l4 lZ.ei
   rw[aP ω,av]
   simp only[Iy,ar,cond_not,gg,cG,nY]
   by_cases hP:pB c
   ·rw[bu hP];unfold pB nc at hP
    repeat' split
    all_goals first|rfl|omega|(rw[bu ω])
   ·rw[cj hP];unfold pB nc at hP
    repeat' split
    all_goals first|rfl|omega|(rw[cj ω])
 ·rw[cj hl,vS]
  by_cases h:(c.1.length:Int)<1
  ·rw[aj h]
  ·rw[ah h,aj ω]
def iI(a b:Int)(i:Nat)(c:Int):Prop:=1≤a∧a≤12∧1≤b∧b≤4∧(0<i→c<a)
instance(a b:Int)(i:Nat)(c:Int):Decidable (iI a b i c):=by unfold iI;infer_instance
def fN(m:aE)(i:Nat):Prop:=iI (m.getD i cD).1 (m.getD i cD).2.1 i (m.getD (i-1) cD).1
instance(m:aE):DecidablePred (fN m):=λi=>by unfold fN;infer_instance
def dq(m:aE):Bool:=decide (∀j,j<m.length→fN m j)&&true
theorem Fv(N:Nat){m:aE}(hl:m.length≤100000)(hN:200000≤N):o4 N m=some (dq m):=by
 unfold o4 o4.b
 refine iq (F:=λn i=>o4.l2 N n m m (m.length:Int) i) (fN m) (λn i r hi hp hr=> ?_) (λn=> ?_) N ω
 ·unfold o4.l2 o4.gH
  rw[aT ω,aq,a6 ω ω,aq,aJ,ay (x:=(i:Int)+1) ω ω,ag]
  by_cases h0:0<i
  ·have e:W .i64 ((i:Int)-1)=((i-1:Nat):Int):=by rw[ay ω ω];omega
   dsimp only
   rw[aT (x:=0) ω,aq,e,aJ,a6 ω ω,aq]
   simp only[cQ,cG]
   by_cases hP:fN m i
   ·rw[aj hP];unfold fN iI at hP
    repeat' split
    all_goals first|rfl|exact hr|omega
   ·rw[ah hP];unfold fN iI at hP
    repeat' split
    all_goals first|rfl|exact hr|omega
  ·rw[aP (x:=0) ω,av]
   simp only[cQ,cG]
   by_cases hP:fN m i
   ·rw[aj hP];unfold fN iI at hP
    repeat' split
    all_goals first|rfl|exact hr|omega
   ·rw[ah hP];unfold fN iI at hP
    repeat' split
    all_goals first|rfl|exact hr|omega
 ·unfold o4.l2 o4.gH
  rw[aP ω,av]
theorem mC(N:Nat){m:aE}(hl:m.length≤100000)(hN:200000≤N):Bd N m=some (dq m):=by
 unfold Bd Bd.b
 refine iq (F:=λn i=>Bd.l2 N n m i) (fN m) (λn i r hi hp hr=> ?_) (λn=> ?_) N ω
 ·unfold Bd.l2 Bd.gH
  rw[aT ω,aq,a6 ω ω,aq,aJ,ay (x:=(i:Int)+1) ω ω,ag]
  by_cases h0:0<i
  ·have e:W .i64 ((i:Int)-1)=((i-1:Nat):Int):=by rw[ay ω ω];omega
   dsimp only
   rw[aT (x:=0) ω,e,aJ,a6 (i:=((i-1:Nat):Int)) ω ω]
   simp only[cQ,cG,aq]
   by_cases hP:fN m i
   ·rw[aj hP];unfold fN iI at hP
    repeat' split
    all_goals first|rfl|exact hr|omega
   ·rw[ah hP];unfold fN iI at hP
    repeat' split
    all_goals first|rfl|exact hr|omega
  ·rw[aP (x:=0) ω]
   simp only[cQ,cG,aq,av]
   by_cases hP:fN m i
   ·rw[aj hP];unfold fN iI at hP
    repeat' split
    all_goals first|rfl|exact hr|omega
   ·rw[ah hP];unfold fN iI at hP
    repeat' split
    all_goals first|rfl|exact hr|omega
 ·unfold Bd.l2 Bd.gH
  rw[aP ω,av]
end VM
end
section
namespace VM
open Go VM.F
def cN(k n:Int):Prop:=(1≤k∧k≤4∧n=0)∨(k=5∧1≤n∧n≤24)∨(6≤k∧k≤7∧1≤n∧n≤12)
instance(k n:Int):Decidable (cN k n):=by unfold cN;infer_instance
theorem Qi(N:Nat)(k n:Int):Qj N k n=some (decide (cN k n)):=by
 unfold Qj
 simp only[aN,cG]
 simp only[nY,jx]
 by_cases hP:cN k n
 ·rw[bu hP];unfold cN at hP
  repeat' split
  all_goals first|rfl|omega|(rw[bu ω])
 ·rw[cj hP];unfold cN at hP
  repeat' split
  all_goals first|rfl|omega|(rw[cj ω])
theorem Z8(N:Nat)(k n:Int):Qk N k n=some (decide (cN k n)):=by
 have:=Qi N k n
 unfold Qj at this
 unfold Qk
 exact this
def kW(a b c d:Int):Prop:=a<c∨(a=c∧b<d)
instance(a b c d:Int):Decidable (kW a b c d):=by unfold kW;infer_instance
def BB(k n a b:Int):Int:=if k=a then n-b else k-a
def HE(x:Int):Prop:= -1000000≤x∧x≤1000000
theorem Fw(N:Nat){k n:Int}{r:da}(h1:HE k)(h2:HE n)(h3:HE r.1)(h4:HE r.2.1):Ql N k n r=some (BB k n r.1 r.2.1):=by
 unfold Ql BB
 unfold HE at*
 rw[cond_not,aN]
 split
 ·rw[ay ω ω]
 ·rw[ay ω ω]
theorem Iz(N:Nat){k n:Int}{r:da}(h1:HE k)(h2:HE n)(h3:HE r.1)(h4:HE r.2.1):TO N k n r=some (BB k n r.1 r.2.1):=Fw N h1 h2 h3 h4
def mc(a b c:Int)(i:Nat)(d e:Int):Prop:=cN a b∧c≠0∧(0<i→kW d e a b)
instance(a b c:Int)(i:Nat)(d e:Int):Decidable (mc a b c i d e):=by unfold mc;infer_instance
def lC(l:au)(i:Nat):Prop:=mc (l.getD i bl).1 (l.getD i bl).2.1 (l.getD i bl).2.2.1 i (l.getD (i-1) bl).1 (l.getD (i-1) bl).2.1
instance(l:au):DecidablePred (lC l):=λi=>by unfold lC;infer_instance
def eA(l:au):Bool:=decide (∀j,j<l.length→lC l j)&&true
theorem DZ(N:Nat){l:au}(hl:l.length≤100000)(hN:200000≤N):Be N l=some (eA l):=by
 unfold Be Be.b
 refine iq (F:=λn i=>Be.l2 N n l l (l.length:Int) i) (lC l) (λn i r hi hp hr=> ?_) (λn=> ?_) N ω
 ·unfold Be.l2 Be.gH
  rw[aT ω,aq,a6 ω ω,aq,aJ,ay (x:=(i:Int)+1) ω ω,ag,Qi,ar,cond_not,gg]
  by_cases hK:cN (l.getD i bl).1 (l.getD i bl).2.1
  ·rw[aj hK]
   by_cases h0:0<i
   ·have hq:=hp (i-1) ω
    have e:W .i64 ((i:Int)-1)=((i-1:Nat):Int):=by rw[ay ω ω];omega
    dsimp only
    rw[aT (x:=0) ω,aq,e,aJ,a6 ω ω,aq]
    unfold lC mc at hq
    have hq:=hq.1
    rw[Fw N (by unfold cN at hK;unfold HE;omega) (by unfold cN at hK;unfold HE;omega) (by unfold cN at hq;unfold HE;omega) (by unfold cN at hq;unfold HE;omega),ar,aN,cG]
    by_cases hP:lC l i
    ·rw[aj hP];unfold lC mc kW at hP;unfold BB
     have Qm:=hP.2
     repeat' split
     all_goals first|rfl|exact hr|omega
    ·rw[ah hP];unfold lC mc kW at hP;unfold BB
     have Qm:=λh=>hP ⟨hK,h⟩
     repeat' split
     all_goals first|rfl|exact hr|omega|(exfalso;exact Qm ω)
   ·rw[aP (x:=0) ω,av,aN]
    by_cases hP:lC l i
    ·rw[aj hP];unfold lC mc at hP
     rw[ah hP.2.1];exact hr
    ·rw[ah hP];unfold lC mc at hP
     have Qm:=λh=>hP ⟨hK,h,λh=>absurd h h0⟩
     split
     ·rfl
     ·exact absurd (by assumption) Qm
  ·rw[ah hK,ah (λh=>hK (by unfold lC mc at h;exact h.1))]
 ·unfold Be.l2 Be.gH
  rw[aP ω,av]
theorem Fy(N:Nat){l:au}(hl:l.length≤100000)(hN:200000≤N):BC N l=some (eA l):=by
 unfold BC BC.b
 refine iq (F:=λn i=>BC.l2 N n l i) (lC l) (λn i r hi hp hr=> ?_) (λn=> ?_) N ω
 ·unfold BC.l2 BC.gH
  rw[aT ω,aq,a6 ω ω,aq,aJ,ay (x:=(i:Int)+1) ω ω,ag,Z8,ar,cond_not,gg]
  by_cases hK:cN (l.getD i bl).1 (l.getD i bl).2.1
  ·rw[aj hK]
   by_cases h0:0<i
   ·have e:W .i64 ((i:Int)-1)=((i-1:Nat):Int):=by rw[ay ω ω];omega
    dsimp only
    rw[aT (x:=0) ω,e,aJ,a6 (i:=((i-1:Nat):Int)) ω ω]
    simp only[cQ,cG,aN,aq]
    by_cases hP:lC l i
    ·rw[aj hP];unfold lC mc kW at hP
     have Qm:=hP.2
     repeat' split
     all_goals first|rfl|exact hr|omega
    ·rw[ah hP];unfold lC mc kW at hP
     have Qm:=λh=>hP ⟨hK,h⟩
     repeat' split
     all_goals first|rfl|exact hr|omega|(exfalso;exact Qm ω)
   ·rw[aP (x:=0) ω]
    simp only[cQ,cG,aN,aq,av]
    by_cases hP:lC l i
    ·rw[aj hP];unfold lC mc at hP
     rw[ah hP.2.1];exact hr
    ·rw[ah hP];unfold lC mc at hP
     have Qm:=λh=>hP ⟨hK,h,λh=>absurd h h0⟩
     split
     ·rfl
     ·exact absurd (by assumption) Qm
  ·rw[ah hK,ah (λh=>hK (by unfold lC mc at h;exact h.1))];rfl
 ·unfold BC.l2 BC.gH
  rw[aP ω,av]
end VM
end
section
namespace VM
open Go VM.F
def bB(a b:Int):Prop:=0≤a∧a≤24∧0≤b∧b<6
instance(a b:Int):Decidable (bB a b):=by unfold bB;infer_instance
theorem D0(N:Nat)(a b:Int):Qn N a b=some (decide (bB a b)):=by
 unfold Qn
 simp only[cG]
 simp only[tZ]
 by_cases hP:bB a b
 ·rw[bu hP];unfold bB at hP
  repeat' split
  all_goals first|rfl|omega|(rw[bu ω])
 ·rw[cj hP];unfold bB at hP
  repeat' split
  all_goals first|rfl|omega|(rw[cj ω])
def p4(q:Int):Prop:=q≠ -9223372036854775808
instance(q:Int):Decidable (p4 q):=by unfold p4;infer_instance
theorem sy(N:Nat)(q:Int):Qo N q=some (decide (p4 q)):=by
 unfold Qo p4
 rw[jx]
 by_cases h:q= -9223372036854775808<;>simp[h]
def me(a b c:Int)(i:Nat)(d e:Int):Prop:=bB a b∧c≠0∧p4 c∧(0<i→kW d e a b)
instance(a b c:Int)(i:Nat)(d e:Int):Decidable (me a b c i d e):=by unfold me;infer_instance
def lD(l:au)(i:Nat):Prop:=me (l.getD i bl).1 (l.getD i bl).2.1 (l.getD i bl).2.2.1 i (l.getD (i-1) bl).1 (l.getD (i-1) bl).2.1
instance(l:au):DecidablePred (lD l):=λi=>by unfold lD;infer_instance
def cB(l:au):Bool:=decide (∀j,j<l.length→lD l j)&&true
theorem wM(N:Nat){l:au}(hl:l.length≤100000)(hN:200000≤N):ng N l=some (cB l):=by
 unfold ng ng.b
 refine iq (F:=λn i=>ng.l2 N n l l (l.length:Int) i) (lD l) (λn i r hi hp hr=> ?_) (λn=> ?_) N ω
 ·unfold ng.l2 ng.gH
  rw[aT ω,aq,a6 ω ω,aq,aJ,ay (x:=(i:Int)+1) ω ω,ag,D0,ar,cond_not,gg,sy,ar,cond_not,gg]
  by_cases hK:bB (l.getD i bl).1 (l.getD i bl).2.1
  ·rw[aj hK]
   by_cases h0:0<i
   ·have hq:=hp (i-1) ω
    have e:W .i64 ((i:Int)-1)=((i-1:Nat):Int):=by rw[ay ω ω];omega
    dsimp only
    rw[aT (x:=0) ω,aq,e,aJ,a6 ω ω,aq]
    unfold lD me at hq
    have hq:=hq.1
    rw[Iz N (by unfold bB at hK;unfold HE;omega) (by unfold bB at hK;unfold HE;omega) (by unfold bB at hq;unfold HE;omega) (by unfold bB at hq;unfold HE;omega),ar,aN,cG]
    by_cases hP:lD l i
    ·rw[aj hP];unfold lD me kW at hP;unfold BB
     obtain⟨_,hP1,Qm,hP3⟩:=hP
     rw[aj Qm]
     repeat' split
     all_goals first|rfl|exact hr|omega
    ·rw[ah hP];unfold lD me kW at hP;unfold BB
     have Qm:=λh1 h2 h3=>hP ⟨hK,h1,h2,h3⟩
     repeat' split
     all_goals first|rfl|exact hr|(exfalso;exact Qm (by assumption) (by assumption) ω)|omega
   ·rw[aP (x:=0) ω,av,aN]
    by_cases hP:lD l i
    ·rw[aj hP];unfold lD me at hP
     rw[ah hP.2.1,aj hP.2.2.1];exact hr
    ·rw[ah hP];unfold lD me at hP
     have Qm:=λh1 h2=>hP ⟨hK,h1,h2,λh=>absurd h h0⟩
     split
     ·rfl
     ·split
      ·exact(Qm (by assumption) (by assumption)).elim
      ·rfl
  ·rw[ah hK,ah (λh=>hK (by unfold lD me at h;exact h.1))]
 ·unfold ng.l2 ng.gH
  rw[aP ω,av]
theorem kM(N:Nat){l:au}(hl:l.length≤100000)(hN:200000≤N):zi N l=some (cB l):=by
 unfold zi zi.b
 refine iq (F:=λn i=>zi.l2 N n l i) (lD l) (λn i r hi hp hr=> ?_) (λn=> ?_) N ω
 ·unfold zi.l2 zi.gH
  rw[aT ω,aq,a6 ω ω,aq,aJ,ay (x:=(i:Int)+1) ω ω,ag]
  by_cases h0:0<i
  ·have e:W .i64 ((i:Int)-1)=((i-1:Nat):Int):=by rw[ay ω ω];omega
   dsimp only
   rw[aT (x:=0) (y:=(i:Int)) ω,e,aJ,a6 (i:=((i-1:Nat):Int)) ω ω]
   simp only[cQ,cG,aN,aq]
   by_cases hP:lD l i
   ·rw[aj hP];unfold lD me kW p4 bB at hP
    repeat' split
    all_goals first|rfl|exact hr|omega
   ·rw[ah hP];unfold lD me kW p4 bB at hP
    repeat' split
    all_goals first|rfl|exact hr|omega|(exfalso;exact hP ω)
  ·rw[aP (x:=0) (y:=(i:Int)) ω]
   simp only[cQ,cG,aN,aq,av]
   by_cases hP:lD l i
   ·rw[aj hP];unfold lD me kW p4 bB at hP
    repeat' split
    all_goals first|rfl|exact hr|omega
   ·rw[ah hP];unfold lD me kW p4 bB at hP
    repeat' split
    all_goals first|rfl|exact hr|omega|(exfalso;exact hP ω)
 ·unfold zi.l2 zi.gH
  rw[aP ω,av]
theorem gE(a b:Int)(y:Bool):cond (dj a b) (some y) (some false)=some (decide (a≤b)&&y):=by
 rw[cG];by_cases h:a≤b<;>simp[h]
theorem FA(a b:Int)(y:Bool):cond (aY a b) (some y) (some false)=some (decide (a<b)&&y):=by
 rw[cQ];by_cases h:a<b<;>simp[h]
theorem FB(a b:Int)(y:Bool):cond (aO a b) (some y) (some false)=some (decide (a=b)&&y):=by
 rw[aN];by_cases h:a=b<;>simp[h]
theorem BD(a b:Int)(y z:Bool):cond (aO a b) (some y) (some z)=some ((decide (a=b)&&y)||(!decide (a=b)&&z)):=by
 rw[aN];by_cases h:a=b<;>simp[h]
def yU(a b c d e f:Int):Prop:=(1≤a∧a≤1099511627776)∧(1≤b∧b≤24)∧(0≤c∧c<6)∧(d=1∨d=2)∧(1≤e∧e≤1000000000)∧(1≤f∧f≤1000000000000)
instance(a b c d e f:Int):Decidable (yU a b c d e f):=by unfold yU;infer_instance
def q6(o:gm):Prop:=yU o.1 o.2.1 o.2.2.1 o.2.2.2.1 o.2.2.2.2.1 o.2.2.2.2.2.1
instance(o:gm):Decidable (q6 o):=by unfold q6;infer_instance
theorem ahH(N:Nat)(o:gm):Z9 N o=some (decide (q6 o)):=by
 unfold Z9
 rw[nY o.2.2.2.2.2.1]
 rw[gE,gE,gE,FB,BD,FA,gE,gE,gE,gE,gE]
 congr 1
 rw[oR,ff]
 unfold q6 yU
 simp only[bQ,mY,qC,vK,Eg]
 omega
end VM
end
section
namespace VM
open Go VM.F
theorem IA(N:Nat)(p:Int):F81 N p=some (decide (1≤p∧p≤1000000000000)):=by
 unfold F81
 rw[nY p,gE];congr 1
 rw[oR];simp only[bQ,vK]
theorem iJ(N:Nat)(p:Int):Dv N p=some (decide (1≤p∧p≤1000000000000)):=IA N p
theorem Ap(N:Nat)(o:gm):Qp N o=some (decide (q6 o)):=by
 unfold Qp
 rw[iJ,ar]
 repeat (first|rw[gE]|rw[FA]|rw[FB]|rw[BD])
 congr 1
 rw[oR,ff]
 unfold q6 yU
 simp only[bQ,mY,qC,vK,Eg]
 omega
def tD(i:Nat)(a b:Int):Prop:=0<i→a<b
instance(i:Nat)(a b:Int):Decidable (tD i a b):=by unfold tD;infer_instance
def uB(l:bs)(i:Nat):Prop:=q6 (l.getD i fa)∧tD i (l.getD (i-1) fa).1 (l.getD i fa).1
instance(l:bs):DecidablePred (uB l):=λi=>by unfold uB;infer_instance
def eh(l:bs):Bool:=decide (∀j,j<l.length→uB l j)&&decide (l.length≤32)
theorem TP(N:Nat){l:bs}(hl:l.length≤100000)(hN:200000≤N):Dw N l=some (eh l):=by
 unfold Dw Dw.b
 refine iq (F:=λn i=>Dw.l2 N n l l (l.length:Int) i) (uB l) (λn i r hi hp hr=> ?_) (λn=> ?_) N ω
 ·unfold Dw.l2 Dw.gH
  rw[aT ω,aq,a6 ω ω,aq,aJ,ay (x:=(i:Int)+1) ω ω,ag,ahH,ar,cond_not,gg]
  by_cases hK:q6 (l.getD i fa)
  ·rw[aj hK]
   by_cases h0:0<i
   ·have e:W .i64 ((i:Int)-1)=((i-1:Nat):Int):=by rw[ay ω ω];omega
    dsimp only
    rw[aT (x:=0) ω,aq,e,aJ,a6 ω ω,aq,cG]
    by_cases hP:uB l i
    ·rw[aj hP,ah (by have h2:=hP.2;unfold tD at h2;omega)];exact hr
    ·rw[ah hP,aj]
     have h2: ¬tD i (l.getD (i-1) fa).1 (l.getD i fa).1:=λh=>hP ⟨hK,h⟩
     unfold tD at h2
     omega
   ·rw[aP (x:=0) ω,av,aj ⟨hK,λh=>absurd h h0⟩];exact hr
  ·rw[ah hK,ah (λh=>hK h.1)]
 ·unfold Dw.l2 Dw.gH
  rw[aP ω,av,nY]
  congr 1;rw[oQ];omega
theorem ia(N:Nat){l:bs}(hl:l.length≤100000)(hN:200000≤N):mL N l=some (eh l):=by
 unfold mL mL.b
 by_cases h32:32<l.length
 ·rw[aT ω,aq];unfold eh
  rw[cj (p:=l.length≤32) ω,Ex]
 rw[aP ω,av]
 have:=iq (F:=λn i=>mL.l4 N n l i) (e:=true) (uB l) (λn i r hi hp hr=> ?_) (λn=> ?_) N (show l.length<N by omega)
 ·refine Eq.trans this ?_
  unfold eh
  rw[bu (p:=l.length≤32) ω]
 ·unfold mL.l4 mL.ei
  rw[aT ω,aq,a6 ω ω,aq,aJ,ay (x:=(i:Int)+1) ω ω,ag,Ap,ar,cond_not,gg]
  by_cases hK:q6 (l.getD i fa)
  ·rw[aj hK]
   by_cases h0:0<i
   ·have e:W .i64 ((i:Int)-1)=((i-1:Nat):Int):=by rw[ay ω ω];omega
    dsimp only
    rw[aT (x:=0) ω,aq,aq,e,aJ,a6 ω ω,aq,cG]
    by_cases hP:uB l i
    ·rw[aj hP,ah (by have h2:=hP.2;unfold tD at h2;omega)];exact hr
    ·rw[ah hP,aj]
     have h2: ¬tD i (l.getD (i-1) fa).1 (l.getD i fa).1:=λh=>hP ⟨hK,h⟩
     unfold tD at h2
     omega
   ·rw[aP (x:=0) ω,av,aj ⟨hK,λh=>absurd h h0⟩];exact hr
  ·rw[ah hK,ah (λh=>hK h.1)]
 ·unfold mL.l4 mL.ei
  rw[aP ω,av]
end VM
end
section
namespace VM
open Go VM.F
def jJ(id:Int):aE→Int
 |[]=>0
 |x::t=>if x.1=id then x.2.1 else jJ id t
def tE(id:Int):aK→bI×Bool
 |[]=>(aV,false)
 |x::t=>if x.1=id then(x,true)else tE id t
def nh(id:Int):aK→Int
 |[]=>0
 |x::t=>if x.2.1=id then(if x.2.2.1=1 then x.1 else nh id t)else nh id t
theorem uC(id:Int)(x:yV)(t:aE):jJ id (x::t)=if x.1=id then x.2.1 else jJ id t:=rfl
theorem og(id:Int)(x:bI)(t:aK):tE id (x::t)=if x.1=id then(x,true)else tE id t:=rfl
theorem sA(id:Int)(x:bI)(t:aK):nh id (x::t)=if x.2.1=id then(if x.2.2.1=1 then x.1 else nh id t)else nh id t:=rfl
theorem Nm(N:Nat){m:aE}(hl:m.length≤100000)(hN:200000≤N)(id:Int):Aq.l4 N N id m (m.length:Int) 0=some (jJ id m):=by
 refine Ao m cD (λn i=>Aq.l4 N n id m (m.length:Int) i) (λl=>some (jJ id l)) (λn i hi hr=> ?_) (λn=> ?_) N ω
 ·unfold Aq.l4 Aq.ei
  rw[aT ω,aq,a6 ω ω,aq,aJ,ay (x:=(i:Int)+1) ω ω,ag,hr,aN]
  rw[uC]
  split<;>rfl
 ·unfold Aq.l4 Aq.ei
  rw[aP ω,av];rfl
theorem ib(N:Nat){m:aE}(hl:m.length≤100000)(hN:200000≤N)(id:Int):zj N m id=some (jJ id m):=by
 unfold zj zj.b
 refine Ao m cD (λn i=>zj.l2 N n m id i) (λl=>some (jJ id l)) (λn i hi hr=> ?_) (λn=> ?_) N ω
 ·unfold zj.l2 zj.gH
  rw[aT ω,aq,a6 ω ω,aq,aq,aJ,ay (x:=(i:Int)+1) ω ω,ag,hr,aN]
  rw[uC]
  split<;>rfl
 ·unfold zj.l2 zj.gH
  rw[aP ω,av];rfl
def eI(m:aE)(id:Int):Int:=if dq m then jJ id m else 0
theorem BE(N:Nat){m:aE}(hl:m.length≤100000)(hN:200000≤N)(id:Int):Aq N m id=some (eI m id):=by
 unfold Aq Aq.b eI
 rw[Fv N hl hN,ar,cond_not,Nm N hl hN]
 cases dq m<;>rfl
theorem mf(N:Nat){m:aE}(hl:m.length≤100000)(hN:200000≤N)(id:Int):Qq N m id=some (eI m id):=by
 unfold Qq eI
 rw[mC N hl hN,ar,cond_not,ib N hl hN]
 cases dq m<;>rfl
theorem TQ(N:Nat){m:aK}(hl:m.length≤100000)(hN:200000≤N)(id:Int):o5.l4 N N id aV m (m.length:Int) 0=some (tE id m):=by
 refine Ao m aV (λn i=>o5.l4 N n id aV m (m.length:Int) i) (λl=>some (tE id l)) (λn i hi hr=> ?_) (λn=> ?_) N ω
 ·unfold o5.l4 o5.ei
  rw[aT ω,aq,a6 ω ω,aq,aJ,ay (x:=(i:Int)+1) ω ω,ag,hr,aN]
  rw[og]
  split<;>rfl
 ·unfold o5.l4 o5.ei
  rw[aP ω,av];rfl
theorem q7(N:Nat){m:aK}(hl:m.length≤100000)(hN:200000≤N)(id:Int):nQ N m id=some (tE id m):=by
 unfold nQ nQ.b
 refine Ao m aV (λn i=>nQ.l2 N n m id aV i) (λl=>some (tE id l)) (λn i hi hr=> ?_) (λn=> ?_) N ω
 ·unfold nQ.l2 nQ.gH
  rw[aT ω,aq,a6 ω ω,aq,aq,aJ,ay (x:=(i:Int)+1) ω ω,ag,hr,aN]
  rw[og]
  split<;>rfl
 ·unfold nQ.l2 nQ.gH
  rw[aP ω,av];rfl
theorem Nn(N:Nat){m:aK}(hl:m.length≤100000)(hN:200000≤N)(id:Int):mg.l4 N N m id 0=some (nh id m):=by
 refine Ao m aV (λn i=>mg.l4 N n m id i) (λl=>some (nh id l)) (λn i hi hr=> ?_) (λn=> ?_) N ω
 ·unfold mg.l4 mg.ei
  rw[aT ω,aq,a6 ω ω]
  simp only[aq]
  rw[aJ,ay (x:=(i:Int)+1) ω ω,ag,hr,aN,aN]
  rw[sA]
  split
  ·split<;>rfl
  ·rfl
 ·unfold mg.l4 mg.ei
  rw[aP ω,av];rfl
end VM
end
section
namespace VM
open Go VM.F
def dx(a b:Int):Prop:=a=b
instance(a b:Int):Decidable (dx a b):=by unfold dx;infer_instance
def yu(l:aK)(k:Nat)(m:Int):Prop:=dx (l.getD k aV).2.2.1 1∧dx (l.getD k aV).2.1 m
instance(l:aK)(k:Nat)(m:Int):Decidable (yu l k m):=by unfold yu;infer_instance
def lU(l:aK)(i:Nat)(m:Int):Bool:=(List.range i).any λk=>decide (yu l k m)
theorem wN{l:aK}{i:Nat}{m:Int}:lU l i m=true↔ ∃k,k<i∧yu l k m:=by
 unfold lU
 rw[zy]
 simp only[qG,ff]
theorem uD(l:aK)(i:Nat)(m:Int):lU l (i+1) m=(lU l i m||decide (yu l i m)):=by
 unfold lU
 rw[Eu,List.any_append];simp
def mh(a b c d:Int):Prop:=(1≤a∧a≤24)∧(1≤b∧b≤12)∧(c=1∨c=2)∧(0≤d∧d≤1000000000000)
instance(a b c d:Int):Decidable (mh a b c d):=by unfold mh;infer_instance
def ki(l:aK)(i:Nat):Prop:= ¬(dx (l.getD i aV).2.2.1 1∧lU l i (l.getD i aV).2.1=true)
instance(l:aK)(i:Nat):Decidable (ki l i):=by unfold ki;infer_instance
def Ar(l:aK)(i:Nat):Prop:=mh (l.getD i aV).1 (l.getD i aV).2.1 (l.getD i aV).2.2.1 (l.getD i aV).2.2.2.1∧tD i (l.getD (i-1) aV).1 (l.getD i aV).1∧ki l i
instance(l:aK):DecidablePred (Ar l):=λi=>by unfold Ar;infer_instance
def fB(l:aK):Bool:=decide (∀j,j<l.length→Ar l j)&&true
def fu(l:aK)(i:Nat):List Bool:=(List.range 13).map λ(m:Nat)=>lU l i (m:Int)
theorem TR{l:aK}{i:Nat}{b:Int}(h0:0≤b)(h1:b<13):(fu l i).getD b.toNat false=lU l i b:=by
 unfold fu
 rw[aU,pV,List.getElem?_range ω]
 show lU l i ((b.toNat:Nat):Int)=_
 rw[vI h0]
theorem No{l:aK}{i:Nat}(h: ¬dx (l.getD i aV).2.2.1 1):fu l (i+1)=fu l i:=by
 unfold fu
 refine qz λm _=> ?_
 rw[uD,cj (λh'=>h h'.1),td]
theorem Qr{l:aK}{i:Nat}(h:dx (l.getD i aV).2.2.1 1)(h0:(0:Int)≤(l.getD i aV).2.1):(fu l i).set ((l.getD i aV).2.1:Int).toNat true=fu l (i+1):=by
 refine List.ext_getElem (by unfold fu;simp) λk h1 h2=> ?_
 unfold fu at*
 rw[List.getElem_set]
 simp only[List.getElem_map,Em]
 rw[uD]
 by_cases hk:((l.getD i aV).2.1:Int).toNat=k
 ·rw[aj hk,bu (show yu l i (k:Int)from⟨h,by unfold dx;omega⟩),Bool.or_true]
 ·rw[ah hk,cj (λh':yu l i (k:Int)=>hk (by have:=h'.2;unfold dx at this;omega)),td]
theorem R3(N:Nat){l:aK}(hl:l.length≤100000)(hN:200000≤N):mM N l=some (fB l):=by
 unfold mM mM.b
 have h0:(List.replicate 13 false:List Bool)=fu l 0:=by unfold fu lU;rfl
 rw[h0]
 have:=iq (F:=λn i=>mM.l3 N n l (fu l i.toNat) l (l.length:Int) i) (e:=true) (Ar l) (λn i r hi hp hr=> ?_) (λn=> ?_) N (show l.length<N by omega)
 ·exact this
 ·simp only[aJ]at hr ⊢
  unfold mM.l3 mM.nO
  rw[aT ω,aq,a6 ω ω,aq]
  simp only[aJ]
  rw[ay (x:=(i:Int)+1) ω ω,ag]
  by_cases hF:mh (l.getD i aV).1 (l.getD i aV).2.1 (l.getD i aV).2.2.1 (l.getD i aV).2.2.2.1
  ·have R4:=hF
   unfold mh at R4
   have hT:cond (aO (l.getD i aV).2.2.1 1) (cond (ba (l.getD i aV).2.1 13) (cond (List.getD (fu l i) (l.getD i aV).2.1.toNat false) (some false) (cond (ba (l.getD i aV).2.1 13) (mM.l3 N n l (List.set (fu l i) (l.getD i aV).2.1.toNat true) l (l.length:Int) ((i+1:Nat):Int)) none)) none) (mM.l3 N n l (fu l i) l (l.length:Int) ((i+1:Nat):Int))=if ki l i then r else some false:=by
    rw[aN]
    by_cases hk:dx (l.getD i aV).2.2.1 1
    ·have DS:=hk
     unfold dx at DS
     rw[aj DS,a6 ω ω,aq,aq,TR ω ω,Qr hk ω,hr]
     by_cases ho:lU l i (l.getD i aV).2.1=true
     ·have vD: ¬ki l i:=λh=>h ⟨hk,ho⟩
      rw[ah vD,ho];rfl
     ·have vD:ki l i:=λh=>ho h.2
      rw[aj vD,vL.2 ho];rfl
    ·have DS:=hk
     unfold dx at DS
     rw[ah DS,aj (show ki l i from λh=>hk h.1),←No hk,hr]
   have hP:Ar l i↔tD i (l.getD (i-1) aV).1 (l.getD i aV).1∧ki l i:=⟨λh=>h.2,λh=>⟨hF,h⟩⟩
   have hD:(if Ar l i then r else some false)=if tD i (l.getD (i-1) aV).1 (l.getD i aV).1 then(if ki l i then r else some false)else some false:=by
    by_cases h1:tD i (l.getD (i-1) aV).1 (l.getD i aV).1<;>by_cases h2:ki l i<;>simp[hP,h1,h2]
   rw[hD]
   rw[hT]
   rw[aP ω,av,aP ω,av,aP ω,av,aP ω,av,aP (x:=(l.getD i aV).2.2.2.1) ω,aP (x:=1000000000000) ω]
   simp only[av]
   have hm: ∀{α:Type} (x:α) (y:α),cond (!aO (l.getD i aV).2.2.1 1) (cond (!aO (l.getD i aV).2.2.1 2) y x) x=x:=by
    intro α x y
    rcases R4.2.2.1 with h|h
    ·rw[dW h];rfl
    ·rw[dW (y:=2) h];cases aO (l.getD i aV).2.2.1 1<;>rfl
   rw[hm]
   by_cases h0:0<i
   ·have e:W .i64 ((i:Int)-1)=((i-1:Nat):Int):=by rw[ay ω ω];omega
    rw[aT (x:=0) ω,aq,e,aJ,a6 ω ω,aq,cG]
    by_cases h1:tD i (l.getD (i-1) aV).1 (l.getD i aV).1
    ·rw[aj h1,ah (by unfold tD at h1;omega)]
    ·rw[ah h1,aj (by unfold tD at h1;omega)]
   ·rw[aP (x:=0) ω,av,aj (show tD i (l.getD (i-1) aV).1 (l.getD i aV).1 from λh=>absurd h h0)]
  ·rw[ah (λh=>hF h.1)]
   unfold mh at hF
   generalize cond (aO (l.getD i aV).2.2.1 1) (cond (ba (l.getD i aV).2.1 13) (cond (List.getD (fu l i) (l.getD i aV).2.1.toNat false) (some false) (cond (ba (l.getD i aV).2.1 13) (mM.l3 N n l (List.set (fu l i) (l.getD i aV).2.1.toNat true) l (l.length:Int) ((i+1:Nat):Int)) none)) none) (mM.l3 N n l (fu l i) l (l.length:Int) ((i+1:Nat):Int))=t
   generalize cond (aY 0 (i:Int)) _ _=u
   simp only[cond_not,cQ,aN]
   repeat' split
   all_goals first|rfl|omega
 ·unfold mM.l3 mM.nO
  rw[aP ω,av]
end VM
end
section
namespace VM
open Go VM.F
theorem BF(N:Nat)(K:aK→Int→Option Bool){l:aK}(hl:l.length≤100000){i:Nat}(hi:i<l.length): ∀(m n k:Nat),i-k≤m→m<n→k≤i→(dx (l.getD i aV).2.2.1 1→lU l k (l.getD i aV).2.1=false)→
  eD.l8 N K n l (i:Int) (l.getD i aV) (k:Int)=if ki l i then K l ((i+1:Nat):Int)else some false
 |m,0,k,_,hn,_,_=>ω
 |m,n+1,k,hm,hn,hk,h=>by
  unfold eD.l8 eD.yd
  by_cases EZ:k<i
  ·rw[aT ω,aq,a6 ω ω,aq,aq,aJ,ay (x:=(k:Int)+1) ω ω,ag,aN,aN,aN]
   by_cases h1:dx (l.getD i aV).2.2.1 1
   ·have py:=h1
    unfold dx at py
    rw[aj py]
    by_cases h2:yu l k (l.getD i aV).2.1
    ·have yt:=h2
     unfold yu dx at yt
     have vD: ¬ki l i:=λh3=>h3 ⟨h1,wN.2 ⟨k,EZ,h2⟩⟩
     rw[aj yt.1,aj yt.2,ah vD]
    ·have wL:=BF N K hl hi (m-1) n (k+1) ω ω ω (λ_=>by rw[uD,h h1,cj h2];rfl)
     split
     ·split
      ·rename_i h3 h4
       exact absurd (show yu l k (l.getD i aV).2.1 from⟨h3,h4⟩) h2
      ·exact wL
     ·exact wL
   ·have py:=h1
    unfold dx at py
    rw[ah py]
    exact BF N K hl hi (m-1) n (k+1) ω ω ω (λh=>absurd h h1)
  ·have:k=i:=ω
   subst this
   have vD:ki l k:=λh3=>by rw[h h3.1]at h3;exact nomatch h3.2
   rw[aP ω,av,aj vD,ay (x:=(k:Int)+1) ω ω];rfl
set_option maxHeartbeats 2000000 in
theorem tF(N:Nat){l:aK}(hl:l.length≤100000)(hN:200000≤N):eD N l=some (fB l):=by
 unfold eD eD.b
 refine iq (F:=λn i=>eD.l2 N n l i) (Ar l) (λn i r hi hp hr=> ?_) (λn=> ?_) N ω
 ·unfold eD.l2 eD.gH
  have hT:eD.j7 N (eD.l2 N n) l (i:Int) (l.getD i aV)=if ki l i then r else some false:=by
   unfold eD.j7 eD.Vg
   have:=BF N (eD.l2 N n) hl hi i N 0 ω ω ω (λ_=>rfl)
   rw[hr]at this
   exact this
  rw[aT ω,aq,a6 ω ω,aq]
  simp only[aJ]
  rw[hT]
  have hD:(if Ar l i then r else some false)=if mh (l.getD i aV).1 (l.getD i aV).2.1 (l.getD i aV).2.2.1 (l.getD i aV).2.2.2.1∧tD i (l.getD (i-1) aV).1 (l.getD i aV).1 then(if ki l i then r else some false)else some false:=by
   unfold Ar
   by_cases h1:tD i (l.getD (i-1) aV).1 (l.getD i aV).1<;>by_cases h2:ki l i<;>by_cases h3:mh (l.getD i aV).1 (l.getD i aV).2.1 (l.getD i aV).2.2.1 (l.getD i aV).2.2.2.1<;>simp[h1,h2,h3]
  rw[hD]
  generalize (if ki l i then r else some false)=t
  by_cases h0:0<i
  ·have e:W .i64 ((i:Int)-1)=((i-1:Nat):Int):=by rw[ay ω ω];omega
   rw[aT (x:=0) (y:=(i:Int)) ω,e]
   simp only[aq,aJ]
   rw[a6 (i:=((i-1:Nat):Int)) ω ω]
   simp only[cond_not,cQ,cG,aN,aq]
   by_cases hP:mh (l.getD i aV).1 (l.getD i aV).2.1 (l.getD i aV).2.2.1 (l.getD i aV).2.2.2.1∧tD i (l.getD (i-1) aV).1 (l.getD i aV).1
   ·rw[aj hP];unfold mh tD at hP
    repeat' split
    all_goals first|rfl|omega
   ·rw[ah hP];unfold mh tD at hP
    repeat' split
    all_goals first|rfl|omega
  ·rw[aP (x:=0) (y:=(i:Int)) ω]
   simp only[cond_not,cQ,cG,aN,aq,av]
   by_cases hP:mh (l.getD i aV).1 (l.getD i aV).2.1 (l.getD i aV).2.2.1 (l.getD i aV).2.2.2.1∧tD i (l.getD (i-1) aV).1 (l.getD i aV).1
   ·rw[aj hP];unfold mh tD at hP
    repeat' split
    all_goals first|rfl|omega
   ·rw[ah hP];unfold mh tD at hP
    repeat' split
    all_goals first|rfl|omega
 ·unfold eD.l2 eD.gH
  rw[aP ω,av]
end VM
end
section
namespace VM
open Go VM.F
def fc(a:aK)(id:Int):bI×Bool:=if fB a then tE id a else(aV,false)
theorem aaa(N:Nat){a:aK}(hl:a.length≤100000)(hN:200000≤N)(id:Int):o5 N a id=some (fc a id):=by
 unfold o5 o5.b fc
 rw[R3 N hl hN,ar,cond_not,TQ N hl hN]
 cases fB a<;>rfl
theorem wO(N:Nat){a:aK}(hl:a.length≤100000)(hN:200000≤N)(id:Int):Vi N a id=some (fc a id):=by
 unfold Vi fc
 rw[tF N hl hN,ar,cond_not,q7 N hl hN]
 cases fB a<;>rfl
def ni(a:aK)(id:Int):Int:=if fB a then nh id a else 0
theorem qq(N:Nat){a:aK}(hl:a.length≤100000)(hN:200000≤N)(id:Int):mg N a id=some (ni a id):=by
 unfold mg mg.b ni
 rw[tF N hl hN,ar,cond_not,Nn N hl hN]
 cases fB a<;>rfl
def kN(m:aE)(a:aK)(i:Nat):Prop:= ¬dx (jJ (a.getD i aV).2.1 m) 0
instance(m:aE)(a:aK):DecidablePred (kN m a):=λi=>by unfold kN;infer_instance
def pC(m:aE)(a:aK):Bool:=dq m&&(fB a&&(decide (∀j,j<a.length→kN m a j)&&true))
theorem aab(N:Nat){m:aE}{a:aK}(hm:m.length≤100000)(hl:a.length≤100000)(hN:200000≤N):Dx N m a=some (pC m a):=by
 unfold Dx Dx.b pC
 rw[Fv N hm hN,ar,cond_not,R3 N hl hN,ar,cond_not]
 cases hM:dq m
 ·rfl
 cases fB a
 ·rfl
 rw[mZ,mZ,aq,aq]
 refine iq (F:=λn i=>Dx.l4 N n m a (a.length:Int) i) (kN m a) (λn i r hi hp hr=> ?_) (λn=> ?_) N ω
 ·unfold Dx.l4 Dx.ei
  rw[aT ω,aq,a6 ω ω,aq,aJ,ay (x:=(i:Int)+1) ω ω,ag,BE N hm hN,ar,aN]
  unfold eI
  rw[hM,aj rfl]
  by_cases hP:kN m a i
  ·rw[aj hP,ah (show ¬((jJ (a.getD i aV).2.1 m:Int)=0)from λh=>hP h)];exact hr
  ·rw[ah hP,aj (show(jJ (a.getD i aV).2.1 m:Int)=0 by unfold kN at hP;exact Er.1 hP)]
 ·unfold Dx.l4 Dx.ei
  rw[aP ω,av]
theorem wP(N:Nat){m:aE}{a:aK}(hm:m.length≤100000)(hl:a.length≤100000)(hN:200000≤N):oh N m a=some (pC m a):=by
 unfold oh oh.b pC
 rw[mC N hm hN,ar,cond_not,tF N hl hN,ar,cond_not]
 cases hM:dq m
 ·rfl
 cases fB a
 ·rfl
 rw[mZ,mZ,aq,aq]
 refine iq (F:=λn i=>oh.l4 N n m a i) (kN m a) (λn i r hi hp hr=> ?_) (λn=> ?_) N ω
 ·unfold oh.l4 oh.ei
  rw[aT ω,aq,a6 ω ω,aq,aJ,ay (x:=(i:Int)+1) ω ω,ag,ib N hm hN,ar,aN]
  by_cases hP:kN m a i
  ·rw[aj hP,ah (show ¬((jJ (a.getD i aV).2.1 m:Int)=0)from λh=>hP h)];exact hr
  ·rw[ah hP,aj (show(jJ (a.getD i aV).2.1 m:Int)=0 by unfold kN at hP;exact Er.1 hP)]
 ·unfold oh.l4 oh.ei
  rw[aP ω,av]
end VM
end
section
namespace VM
open Go VM.F
theorem Wz(a b:cz):ql (.pair (.int .i64) (.pair (.int .u64) .unit)) a b=(aO a.1 b.1&&(aO a.2.1 b.2.1&&true)):=rfl
theorem R5(N:Nat){u v:Int}:WA N (dP u) (dP v)=some (vv (u-v)):=by
 unfold WA
 rw[Wz]
 unfold dP
 dsimp only
 unfold vv
 rw[cQ,aN,cQ,fX,jx,jx]
 have hu:u=u/18446744073709551616*18446744073709551616+u%18446744073709551616:=ω
 have hv:v=v/18446744073709551616*18446744073709551616+v%18446744073709551616:=ω
 by_cases h1:u/18446744073709551616<v/18446744073709551616
 ·rw[aj h1];congr 1;split<;>(try split)<;>omega
 ·rw[ah h1]
  by_cases h2:u/18446744073709551616=v/18446744073709551616
  ·rw[aj h2,bu h2,mZ]
   by_cases h3:u%18446744073709551616<v%18446744073709551616
   ·rw[aj h3];congr 1;split<;>(try split)<;>omega
   ·rw[ah h3]
    by_cases h4:u%18446744073709551616=v%18446744073709551616
    ·rw[bu h4,aq];congr 1;split<;>(try split)<;>omega
    ·rw[cj h4,av];congr 1;split<;>(try split)<;>omega
  ·rw[ah h2,cj h2,vS,av];congr 1;split<;>(try split)<;>omega
theorem Qs:dP 0=cD:=rfl
theorem As(N:Nat){u:Int}:F74 N (dP u)=some (vv u):=by
 unfold F74
 rw[←Qs,R5,ar,EB]
end VM
end
section
namespace VM
open Go VM.F
def dY(r:da):Int:=r.2.2.1
def aD(x:Int):Prop:= -9223372036854775808≤x∧x<9223372036854775808
def dS(l:au):Prop:= ∀x∈l,aD (dY x)
theorem yW{l:au}(h:dS l)(i:Nat):aD (dY (l.getD i bl)):=by
 by_cases hi:i<l.length
 ·rw[aU,bk hi];exact h _ (dB hi)
 ·rw[aU,gG ω];exact⟨δ,δ⟩
theorem Np{ws:List Int}(h: ∀x∈ws,aD x): -(9223372036854775808*(ws.length:Int))≤ws.sum∧ws.sum≤9223372036854775808*(ws.length:Int):=RX ws h
theorem IB{ws:List Int}(h: ∀x∈ws,aD x)(hl:ws.length≤1000000):dm ws.sum:=by
 have:=Np h
 unfold dm;omega
theorem TS{ws:List Int}(h: ∀x∈ws,aD x): ∀x∈ws,dm x:=λx hx=>by
 have:=h x hx
 unfold aD at this;unfold dm;omega
theorem Ks(N:Nat){ws:List Int}(h: ∀x∈ws,aD x)(hl:ws.length≤1000000)(hN:1000000<N):mK N (ws.map dP)=some (dP ws.sum,true):=by
 rw[DY N (TS h) hl hN]
 unfold Fu
 rw[aj (IB h hl)]
def gI(l:au):Int:=if eA l then(l.map dY).sum else 0
theorem Qt(N:Nat){l:au}(hq:dS l)(hl:l.length≤100000)(hN:2000000≤N):CK.l5 N N cD [] l (l.length:Int) 0=some (dP (l.map dY).sum):=by
 have:=oe l bl (λn i ws=>CK.l5 N n cD (ws.map dP) l (l.length:Int) i) (λt ws=>some (dP (ws++t.map dY).sum)) (λi (ws:List Int)=>ws.length=i∧ ∀x∈ws,aD x)
  (λn i ws hi hI hr=> ?_) (λn ws hI=> ?_) l.length N 0 [] ω ω ω ⟨rfl,λx hx=>nomatch hx⟩
 ·simpa using this
 ·unfold CK.l5 CK.ed
  have nR:=yW hq i
  have iK:=nR
  unfold aD dY at iK
  rw[aT ω,aq,a6 ω ω,aq,aJ,wK N iK.1 iK.2,ar,bL (by rw[ct,aI];omega),aq,ay ω ω,ag]
  have:=hr (ws++[dY (l.getD i bl)]) ⟨by rw[aS,hI.1];rfl,λx hx=>by
   rcases a8.1 hx with hx|hx
   ·exact hI.2 x hx
   ·rw[bW.1 hx];exact nR⟩
  rw[cY]at this
  refine this.trans ?_
  rw[bX,bt];rfl
 ·unfold CK.l5 CK.ed
  rw[aP ω,av,Ks N hI.2 ω ω,ar,ja,ch]
theorem WB(N:Nat){l:au}(hq:dS l)(hl:l.length≤100000)(hN:2000000≤N):CK N l=some (dP (gI l)):=by
 unfold CK CK.b gI
 rw[DZ N hl ω,ar,cond_not,Qt N hq hl hN]
 cases eA l<;>rfl
theorem Nq(N:Nat){l:au}(hq:dS l)(hl:l.length≤100000)(hN:4000000≤N):CL.l5 N N l (cS 0) (cS 0) 0=some (cS (l.map dY).sum):=by
 have:=oe l bl (λn i ws=>CL.l5 N n l (cS 0) (cS ws.sum) i) (λt ws=>some (cS (ws++t.map dY).sum)) (λi (ws:List Int)=>ws.length=i∧ ∀x∈ws,aD x)
  (λn i ws hi hI hr=> ?_) (λn ws hI=> ?_) l.length N 0 [] ω ω ω ⟨rfl,λx hx=>nomatch hx⟩
 ·simpa using this
 ·unfold CL.l5 CL.ed
  have nR:=yW hq i
  have iK:=nR
  unfold aD dY at iK
  have hb:=Np hI.2
  rw[hI.1]at hb
  rw[aT ω,aq,a6 ω ω,aq,aJ,cP N ω iK.1 iK.2,ar,iA N ω ((Al (n:=i) ω hb.1 hb.2).mono ω) ((Fit.i64 iK.1 iK.2).mono ω),ar,ay ω ω,ag]
  have:=hr (ws++[dY (l.getD i bl)]) ⟨by rw[aS,hI.1];rfl,λx hx=>by
   rcases a8.1 hx with hx|hx
   ·exact hI.2 x hx
   ·rw[bW.1 hx];exact nR⟩
  rw[lQ,cw,iC,fY]at this
  refine this.trans ?_
  rw[bX,bt];rfl
 ·unfold CL.l5 CL.ed
  rw[aP ω,av,ja,ch]
theorem TT(N:Nat){l:au}(hq:dS l)(hl:l.length≤100000)(hN:4000000≤N):CL N l=some (cS (gI l)):=by
 unfold CL CL.b gI
 rw[Fy N hl ω,ar,cond_not]
 have:=Nq N hq hl hN
 rw[iH]at this
 rw[this]
 cases eA l
 ·rw[av];exact fj some iH.symm
 ·rfl
end VM
end
section
namespace VM
open Go VM.F
def c5(inst:Int):au→List Int
 |[]=>[]
 |x::t=>if x.2.1=inst then dY x::c5 inst t else c5 inst t
theorem df(inst:Int)(x:da)(t:au):c5 inst (x::t)=if x.2.1=inst then dY x::c5 inst t else c5 inst t:=rfl
theorem TU(N:Nat){l:au}(hq:dS l)(hl:l.length≤100000)(hN:2000000≤N)(inst:Int):o6.l5 N N inst cD [] l (l.length:Int) 0=some (dP (c5 inst l).sum):=by
 have:=oe l bl (λn i ws=>o6.l5 N n inst cD (ws.map dP) l (l.length:Int) i) (λt ws=>some (dP (ws++c5 inst t).sum)) (λi (ws:List Int)=>ws.length≤i∧ ∀x∈ws,aD x)
  (λn i ws hi hI hr=> ?_) (λn ws hI=> ?_) l.length N 0 [] ω ω ω ⟨aG _,λx hx=>nomatch hx⟩
 ·simpa using this
 ·unfold o6.l5 o6.ed
  have nR:=yW hq i
  have iK:=nR
  unfold aD dY at iK
  rw[aT ω,aq,a6 ω ω,aq,aJ,wK N iK.1 iK.2,ar,bL (by rw[ct,aI];omega),aq,ay ω ω,ag,aN,df]
  split
  ·have:=hr (ws++[dY (l.getD i bl)]) ⟨by rw[aS,aI];omega,λx hx=>by
    rcases a8.1 hx with hx|hx
    ·exact hI.2 x hx
    ·rw[bW.1 hx];exact nR⟩
   rw[cY]at this
   refine this.trans ?_
   rw[bt];rfl
  ·exact hr ws ⟨ω,hI.2⟩
 ·unfold o6.l5 o6.ed
  rw[aP ω,av,Ks N hI.2 ω ω,ar]
  show _=some (dP (ws++[]).sum)
  rw[ch]
def sB(l:au)(inst:Int):Int:=if cB l then(c5 inst l).sum else 0
theorem aac(N:Nat){l:au}(hq:dS l)(hl:l.length≤100000)(hN:2000000≤N)(inst:Int):o6 N l inst=some (dP (sB l inst)):=by
 unfold o6 o6.b sB
 rw[wM N hl ω,ar,cond_not,TU N hq hl hN]
 cases cB l<;>rfl
theorem Qu(N:Nat){l:au}(hq:dS l)(hl:l.length≤100000)(hN:4000000≤N)(inst:Int):o7.l5 N N l inst (cS 0) (cS 0) 0=some (cS (c5 inst l).sum):=by
 have:=oe l bl (λn i ws=>o7.l5 N n l inst (cS 0) (cS ws.sum) i) (λt ws=>some (cS (ws++c5 inst t).sum)) (λi (ws:List Int)=>ws.length≤i∧ ∀x∈ws,aD x)
  (λn i ws hi hI hr=> ?_) (λn ws hI=> ?_) l.length N 0 [] ω ω ω ⟨aG _,λx hx=>nomatch hx⟩
 ·simpa using this
 ·unfold o7.l5 o7.ed
  have nR:=yW hq i
  have iK:=nR
  unfold aD dY at iK
  have hb:=Np hI.2
  rw[aT ω,aq,a6 ω ω,aq,aq,aJ,cP N ω iK.1 iK.2,ar,iA N ω ((Al (n:=ws.length) ω hb.1 hb.2).mono ω) ((Fit.i64 iK.1 iK.2).mono ω),ar,ay ω ω,ag,aN,df]
  split
  ·have:=hr (ws++[dY (l.getD i bl)]) ⟨by rw[aS,aI];omega,λx hx=>by
    rcases a8.1 hx with hx|hx
    ·exact hI.2 x hx
    ·rw[bW.1 hx];exact nR⟩
   rw[lQ,cw,iC,fY]at this
   refine this.trans ?_
   rw[bt];rfl
  ·exact hr ws ⟨ω,hI.2⟩
 ·unfold o7.l5 o7.ed
  rw[aP ω,av]
  show _=some (cS (ws++[]).sum)
  rw[ch]
theorem Nr(N:Nat){l:au}(hq:dS l)(hl:l.length≤100000)(hN:4000000≤N)(inst:Int):o7 N l inst=some (cS (sB l inst)):=by
 unfold o7 o7.b sB
 rw[kM N hl ω,ar,cond_not]
 have:=Qu N hq hl hN inst
 rw[iH]at this
 rw[this]
 cases cB l
 ·rw[av];exact fj some iH.symm
 ·rfl
def sU(l:au)(i:Nat):Prop:=dx (sB l (i:Int)) 0
instance(l:au):DecidablePred (sU l):=λi=>by unfold sU;infer_instance
def kj:Nat:=6
def oi(l:au):Bool:=decide (∀j,j<kj→sU l j)&&cB l
theorem kk{x:Int}:vv x=0↔x=0:=by unfold vv;split<;>(try split)<;>omega
theorem aad(N:Nat){l:au}(hq:dS l)(hl:l.length≤100000)(hN:2000000≤N):Dy N l=some (oi l):=by
 unfold Dy Dy.b
 refine iq (len:=kj) (F:=λn i=>Dy.l2 N n l i) (sU l) (λn i r hi hp hr=> ?_) (λn=> ?_) N (by unfold kj;omega)
 ·unfold Dy.l2 Dy.gH
  unfold kj at hi
  rw[aT ω,aq,aac N hq hl hN,ar,As,ar,cond_not,aN,ay ω ω,ag,hr]
  by_cases hP:sU l i
  ·rw[aj hP,aj (kk.2 hP)]
  ·rw[ah hP,ah (λh=>hP (kk.1 h))]
 ·unfold Dy.l2 Dy.gH
  rw[aP (by unfold kj;omega),av,wM N hl ω,ar]
theorem WC(N:Nat){l:au}(hq:dS l)(hl:l.length≤100000)(hN:4000000≤N):Dz N l=some (oi l):=by
 unfold Dz Dz.b
 refine iq (len:=kj) (F:=λn i=>Dz.l2 N n l i) (sU l) (λn i r hi hp hr=> ?_) (λn=> ?_) N (by unfold kj;omega)
 ·unfold Dz.l2 Dz.gH
  unfold kj at hi
  rw[aT ω,aq,Nr N hq hl hN,ar,p3,ar,cond_not,aN,ay ω ω,ag,hr]
  by_cases hP:sU l i
  ·rw[aj hP,aj (kk.2 hP)]
  ·rw[ah hP,ah (λh=>hP (kk.1 h))]
 ·unfold Dz.l2 Dz.gH
  rw[aP (by unfold kj;omega),av,kM N hl ω,ar]
end VM
end
section
namespace VM
open Go VM.F
def jK(m:aE)(a:aK)(l:au)(i:Nat):Prop:=
 (dx (l.getD i bl).1 5→(fc a (l.getD i bl).2.1).2=true)∧(dx (l.getD i bl).1 6∨dx (l.getD i bl).1 7→ ¬dx (eI m (l.getD i bl).2.1) 0)
instance(m:aE)(a:aK)(l:au):DecidablePred (jK m a l):=λi=>by unfold jK;infer_instance
theorem Kt(N:Nat)(b:an)(hl:b.2.1.length≤100000)(hN:200000≤N)(id:Int):F78 N b id=some (fc b.2.1 id).2:=by
 unfold F78
 rw[aaa N hl hN,ar]
theorem TV{k:Int}{f:Bool}{z:Int}{r:Option Bool}:cond (aO k 5) (cond (!f) (some false) r) (cond (aO k 6) (cond (aO z 0) (some false) r) (cond (aO k 7) (cond (aO z 0) (some false) r) r))=
  if(dx k 5→f=true)∧(dx k 6∨dx k 7→ ¬dx z 0)then r else some false:=by
 unfold dx
 rw[aN,aN,aN,aN,cond_not]
 by_cases h5:k=5
 ·have h6: ¬(k=6):=ω
  have h7: ¬(k=7):=ω
  cases f<;>simp[h5,h6,h7]
 ·by_cases h6:k=6
  ·by_cases hz:z=0<;>simp[h5,h6,hz]
  ·by_cases h7:k=7
   ·by_cases hz:z=0<;>simp[h5,h6,h7,hz]
   ·simp[h5,h6,h7]
theorem HF(N:Nat)(hN:200000≤N)(c:ae)(b:an)(hm:b.1.length≤100000)(ha:b.2.1.length≤100000)(hl:b.2.2.1.length≤100000){e:Bool}
  (he:lh.wQ N N c b b.2.2.2.1 (b.2.2.2.1.length:Int) 0=some e):lh.l4 N N c b b.2.2.1 (b.2.2.1.length:Int) 0=some (decide (∀j,j<b.2.2.1.length→jK b.1 b.2.1 b.2.2.1 j)&&e):=by
 refine iq (F:=λn i=>lh.l4 N n c b b.2.2.1 (b.2.2.1.length:Int) i) (jK b.1 b.2.1 b.2.2.1) (λn i r hi hp hr=> ?_) (λn=> ?_) N ω
 ·unfold lh.l4 lh.ei
  rw[aT ω,aq,a6 ω ω,aq,aJ,ay (x:=(i:Int)+1) ω ω,ag,hr]
  simp only[Kt N b ha hN,BE N hm hN,ar]
  rw[TV]
  rfl
 ·unfold lh.l4 lh.ei
  rw[aP ω,av];exact he
def nS(a b:Int):Prop:=a<b
instance(a b:Int):Decidable (nS a b):=by unfold nS;infer_instance
def jd(c:ae)(a:aK)(l:au)(i:Nat):Prop:=
 (dx (l.getD i bl).1 0∨(fc a (l.getD i bl).1).2=true)∧nS (l.getD i bl).2.1 c.1.length
instance(c:ae)(a:aK)(l:au):DecidablePred (jd c a l):=λi=>by unfold jd;infer_instance
theorem WD{k x n:Int}{f:Bool}{r:Option Bool}:cond (!aO k 0) (cond (!f) (some false) (cond (dj n x) (some false) r)) (cond (dj n x) (some false) r)=if(dx k 0∨f=true)∧nS x n then r else some false:=by
 unfold dx nS
 rw[cond_not,aN,cG,cond_not]
 by_cases h0:k=0
 ·by_cases hx:n≤x
  ·have: ¬x<n:=ω
   simp[h0,hx,this]
  ·have:x<n:=ω
   simp[h0,hx,this]
 ·by_cases hx:n≤x
  ·have: ¬x<n:=ω
   cases f<;>simp[h0,hx,this]
  ·have:x<n:=ω
   cases f<;>simp[h0,hx,this]
theorem Ku(N:Nat)(hN:200000≤N)(c:ae)(b:an)(ha:b.2.1.length≤100000)(hl:b.2.2.2.1.length≤100000){e:Bool}
  (he:lh.wT N N c b b.2.2.2.2.2.1 (b.2.2.2.2.2.1.length:Int) 0=some e):lh.wQ N N c b b.2.2.2.1 (b.2.2.2.1.length:Int) 0=some (decide (∀j,j<b.2.2.2.1.length→jd c b.2.1 b.2.2.2.1 j)&&e):=by
 refine iq (F:=λn i=>lh.wQ N n c b b.2.2.2.1 (b.2.2.2.1.length:Int) i) (jd c b.2.1 b.2.2.2.1) (λn i r hi hp hr=> ?_) (λn=> ?_) N ω
 ·unfold lh.wQ lh.vw
  rw[aT ω,aq,a6 ω ω,aq,aJ,ay (x:=(i:Int)+1) ω ω,ag,hr]
  simp only[Kt N b ha hN,ar]
  rw[WD]
  rfl
 ·unfold lh.wQ lh.vw
  rw[aP ω,av];exact he
end VM
end
section
namespace VM
open Go VM.F
def p5(l:List Int)(i:Nat):Prop:=1≤l.getD i 0∧l.getD i 0≤1000000000000
instance(l:List Int):DecidablePred (p5 l):=λi=>by unfold p5;infer_instance
def eV(l:List Int):Bool:=decide (∀j,j<l.length→p5 l j)
theorem ahK(N:Nat)(p:Int):F80 N p=some (!decide (1≤p∧p≤1000000000000)):=by
 unfold F80
 rw[IA,ar]
theorem FC(N:Nat){l:List Int}(hl:l.length≤100000): ∀(m n i:Nat),l.length-i≤m→m<n→i≤l.length→(∀j,j<i→p5 l j)→
  ∃r,rU.l2 N n l () (l.length:Int) (i:Int)=some r∧(dj 0 r= !eV l)
 |m,0,i,_,hn,_,_=>ω
 |m,n+1,i,hm,hn,hi,hp=>by
  unfold rU.l2 rU.gH
  by_cases h:i<l.length
  ·rw[aT ω,aq,a6 ω ω,aq,aJ,ahK,ar,cond_not,gg]
   by_cases hP:p5 l i
   ·have hP':=hP
    unfold p5 at hP'
    rw[aj hP',ay ω ω]
    exact FC N hl (m-1) n (i+1) ω ω ω (λj hj=>by
     by_cases yN:j=i
     ·subst yN;exact hP
     ·exact hp j ω)
   ·have hP':=hP
    unfold p5 at hP'
    rw[ah hP']
    refine⟨_,rfl,?_⟩
    rw[fG ω]
    unfold eV
    rw[cj (λh'=>hP (h' i h))];rfl
  ·rw[aP ω,av]
   refine⟨_,rfl,?_⟩
   rw[fp ω]
   unfold eV
   rw[bu (λj hj=>hp j ω)];rfl
theorem TW(N:Nat){l:List Int}(hl:l.length≤100000)(hN:200000≤N):F79 N l ()=some (!eV l):=by
 unfold F79 rU rU.b
 obtain⟨r,e,h⟩:=FC N hl l.length N 0 ω ω ω (λj hj=>absurd hj ω)
 rw[show((0:Nat):Int)=0 from rfl]at e
 rw[e,ar,h]
def p6(c:ae)(a:aK)(l:bs)(i:Nat):Prop:=
 (fc a (l.getD i fa).2.1).2=true∧nS (l.getD i fa).2.2.1 c.1.length
instance(c:ae)(a:aK)(l:bs):DecidablePred (p6 c a l):=λi=>by unfold p6;infer_instance
theorem FD{x n:Int}{f:Bool}{r:Option Bool}:cond (!f) (some false) (cond (dj n x) (some false) r)=if f=true∧nS x n then r else some false:=by
 unfold nS
 rw[cG,cond_not]
 by_cases hx:n≤x
 ·have: ¬x<n:=ω
  cases f<;>simp[hx,this]
 ·have:x<n:=ω
  cases f<;>simp[hx,this]
theorem Kv(N:Nat)(hN:200000≤N)(c:ae)(b:an)(ha:b.2.1.length≤100000)(hl:b.2.2.2.2.2.1.length≤100000)(hp:b.2.2.2.2.1.length≤100000):
  lh.wT N N c b b.2.2.2.2.2.1 (b.2.2.2.2.2.1.length:Int) 0=some (decide (∀j,j<b.2.2.2.2.2.1.length→p6 c b.2.1 b.2.2.2.2.2.1 j)&&eV b.2.2.2.2.1):=by
 refine iq (F:=λn i=>lh.wT N n c b b.2.2.2.2.2.1 (b.2.2.2.2.2.1.length:Int) i) (p6 c b.2.1 b.2.2.2.2.2.1) (λn i r hi Rt hr=> ?_) (λn=> ?_) N ω
 ·unfold lh.wT lh.vx
  rw[aT ω,aq,a6 ω ω,aq,aJ,ay (x:=(i:Int)+1) ω ω,ag,hr]
  simp only[Kt N b ha hN,ar]
  rw[FD]
  rfl
 ·unfold lh.wT lh.vx
  rw[aP ω,av,TW N hp hN,ar,Bool.not_not]
def dy(c:ae)(b:an):Bool:=
 fM c&&(pC b.1 b.2.1&&(eA b.2.2.1&&(decide (dx (gI b.2.2.1) 0)&&(oi b.2.2.2.1&&(eh b.2.2.2.2.2.1&&(decide (dx b.2.2.2.2.1.length c.1.length)&&
  (decide (∀j,j<b.2.2.1.length→jK b.1 b.2.1 b.2.2.1 j)&&(decide (∀j,j<b.2.2.2.1.length→jd c b.2.1 b.2.2.2.1 j)&&(decide (∀j,j<b.2.2.2.2.2.1.length→p6 c b.2.1 b.2.2.2.2.2.1 j)&&eV b.2.2.2.2.1)))))))))
structure gN(b:an):Prop where
 m:b.1.length≤100000
 a:b.2.1.length≤100000
 r:b.2.2.1.length≤100000
 s:b.2.2.2.1.length≤100000
 p:b.2.2.2.2.1.length≤100000
 o:b.2.2.2.2.2.1.length≤100000
 qr:dS b.2.2.1
 qs:dS b.2.2.2.1
theorem o8{x:Bool}{r:Option Bool}{y:Bool}(h:r=some y):cond (!x) (some false) r=some (x&&y):=by subst h;cases x<;>rfl
theorem Kw(N:Nat)(hN:4000000≤N){c:ae}{b:an}(w:gN b):lh N c b=some (dy c b):=by
 unfold lh lh.b dy
 rw[R2 N ω,ar]
 refine o8 ?_
 rw[aab N w.m w.a ω,ar]
 refine o8 ?_
 rw[DZ N w.r ω,ar]
 refine o8 ?_
 rw[WB N w.qr w.r ω,ar,As,ar]
 have e0:aO (vv (gI b.2.2.1)) 0=decide (dx (gI b.2.2.1) 0):=by rw[jx,oQ];exact kk
 rw[e0]
 refine o8 ?_
 rw[aad N w.qs w.s ω,ar]
 refine o8 ?_
 rw[TP N w.o ω,ar]
 refine o8 ?_
 rw[jx]
 refine o8 ?_
 exact HF N ω c b w.m w.a w.r (Ku N ω c b w.a w.s (Kv N ω c b w.a w.o w.p))
end VM
end
section
namespace VM
open Go VM.F
theorem tG(N:Nat)(b:an)(hl:b.2.1.length≤100000)(hN:200000≤N)(id:Int):Kx N b id=some ((fc b.2.1 id).2||decide (dx id 0)):=by
 unfold Kx
 rw[wO N hl hN,ar,jx]
 cases(fc b.2.1 id).2<;>rfl
theorem Qv{k:Int}{f:Bool}{z:Int}{r:Option Bool}:cond (aO k 5) (cond (!f) (some false) (cond (aO k 6) (cond (aO z 0) (some false) r) (cond (aO k 7) (cond (aO z 0) (some false) r) r))) (cond (aO k 6) (cond (aO z 0) (some false) r) (cond (aO k 7) (cond (aO z 0) (some false) r) r))=
  if(dx k 5→f=true)∧(dx k 6∨dx k 7→ ¬dx z 0)then r else some false:=by
 unfold dx
 rw[aN,aN,aN,aN,cond_not]
 by_cases h5:k=5
 ·have h6: ¬(k=6):=ω
  have h7: ¬(k=7):=ω
  cases f<;>simp[h5,h6,h7]
 ·by_cases h6:k=6
  ·by_cases hz:z=0<;>simp[h5,h6,hz]
  ·by_cases h7:k=7
   ·by_cases hz:z=0<;>simp[h5,h6,h7,hz]
   ·simp[h5,h6,h7]
theorem HG(N:Nat)(hN:200000≤N)(c:ae)(b:an)(ha:b.2.1.length≤100000)(hl:b.2.2.2.2.2.1.length≤100000)(ho:eh b.2.2.2.2.2.1=true):
  gb.wT N N c b 0=some (decide (∀j,j<b.2.2.2.2.2.1.length→p6 c b.2.1 b.2.2.2.2.2.1 j)&&true):=by
 refine iq (F:=λn i=>gb.wT N n c b i) (p6 c b.2.1 b.2.2.2.2.2.1) (λn i r hi Rt hr=> ?_) (λn=> ?_) N ω
 ·unfold gb.wT gb.vx
  unfold eh at ho
  rw[bQ,ff]at ho
  have h1:=(ho.1 i hi).1
  unfold q6 yU at h1
  have h2:decide (dx (b.2.2.2.2.2.1.getD i fa).2.1 0)=false:=cj (by unfold dx;omega)
  rw[aT ω,aq,a6 ω ω,aq,aJ,ay (x:=(i:Int)+1) ω ω,ag,hr]
  simp only[tG N b ha hN,ar,aq]
  rw[h2,td,FD]
  rfl
 ·unfold gb.wT gb.vx
  rw[aP ω,av]
theorem DA(N:Nat)(hN:200000≤N)(c:ae)(b:an)(hl:b.2.2.2.2.1.length≤100000){e:Bool}(he:gb.wT N N c b 0=some e):
  gb.yX N N c b 0=some (eV b.2.2.2.2.1&&e):=by
 refine iq (F:=λn i=>gb.yX N n c b i) (p5 b.2.2.2.2.1) (λn i r hi Rt hr=> ?_) (λn=> ?_) N ω
 ·unfold gb.yX gb.ye
  rw[aT ω,aq,a6 ω ω,aq,aJ,ay (x:=(i:Int)+1) ω ω,ag,hr,iJ,ar,cond_not,gg]
  rfl
 ·unfold gb.yX gb.ye
  rw[aP ω,av];exact he
theorem HH(N:Nat)(hN:200000≤N)(c:ae)(b:an)(ha:b.2.1.length≤100000)(hl:b.2.2.2.1.length≤100000){e:Bool}(he:gb.yX N N c b 0=some e):
  gb.p7 N N c b 0=some (decide (∀j,j<b.2.2.2.1.length→jd c b.2.1 b.2.2.2.1 j)&&e):=by
 refine iq (F:=λn i=>gb.p7 N n c b i) (jd c b.2.1 b.2.2.2.1) (λn i r hi Rt hr=> ?_) (λn=> ?_) N ω
 ·unfold gb.p7 gb.pD
  rw[aT ω,aq,a6 ω ω,aq,aJ,ay (x:=(i:Int)+1) ω ω,ag,hr]
  simp only[tG N b ha hN,ar,aq]
  rw[FD]
  have WE:((((fc b.2.1 (b.2.2.2.1.getD i bl).1).2||decide (dx (b.2.2.2.1.getD i bl).1 0))=true)∧nS (b.2.2.2.1.getD i bl).2.1 c.1.length)↔jd c b.2.1 b.2.2.2.1 i:=by
   unfold jd
   rw[mY,ff]
   exact⟨λh=>⟨h.1.symm,h.2⟩,λh=>⟨h.1.symm,h.2⟩⟩
  by_cases hP:jd c b.2.1 b.2.2.2.1 i
  ·rw[aj hP,aj (WE.2 hP)]
  ·rw[ah hP,ah (λh=>hP (WE.1 h))]
 ·unfold gb.p7 gb.pD
  rw[aP ω,av];exact he
theorem FE(N:Nat)(hN:200000≤N)(c:ae)(b:an)(hm:b.1.length≤100000)(ha:b.2.1.length≤100000)(hl:b.2.2.1.length≤100000)(hk:eA b.2.2.1=true){e:Bool}
  (he:gb.p7 N N c b 0=some e):gb.l6 N N c b 0=some (decide (∀j,j<b.2.2.1.length→jK b.1 b.2.1 b.2.2.1 j)&&e):=by
 refine iq (F:=λn i=>gb.l6 N n c b i) (jK b.1 b.2.1 b.2.2.1) (λn i r hi Rt hr=> ?_) (λn=> ?_) N ω
 ·unfold gb.l6 gb.uw
  unfold eA at hk
  rw[fX,ff]at hk
  have h1:=(hk i hi).1
  rw[aT ω,aq,a6 ω ω,aq,aJ,ay (x:=(i:Int)+1) ω ω,ag,hr]
  simp only[tG N b ha hN,mf N hm hN,ar]
  rw[Qv]
  have WE:((dx (b.2.2.1.getD i bl).1 5→((fc b.2.1 (b.2.2.1.getD i bl).2.1).2||decide (dx (b.2.2.1.getD i bl).2.1 0))=true)∧(dx (b.2.2.1.getD i bl).1 6∨dx (b.2.2.1.getD i bl).1 7→ ¬dx (eI b.1 (b.2.2.1.getD i bl).2.1) 0))↔jK b.1 b.2.1 b.2.2.1 i:=by
   unfold jK
   refine and_congr_left λ_=>imp_congr_right λh5=> ?_
   rw[mY,ff]
   refine⟨λh=>h.elim id λh0=> ?_,.inl⟩
   unfold cN at h1;unfold dx at h5 h0;omega
  by_cases hP:jK b.1 b.2.1 b.2.2.1 i
  ·rw[aj hP,aj (WE.2 hP)]
  ·rw[ah hP,ah (λh=>hP (WE.1 h))]
 ·unfold gb.l6 gb.uw
  rw[aP ω,av];exact he
end VM
end
section
namespace VM
open Go VM.F
theorem oj{x:Bool}{r:Option Bool}{y:Bool}(h:x=true→r=some y):cond (!x) (some false) r=some (x&&y):=by
 cases x
 ·rfl
 ·exact h rfl
theorem Au(N:Nat)(hN:5000000≤N){c:ae}{b:an}(w:gN b):gb N c b=some (dy c b):=by
 unfold gb gb.b
 rw[nf N ω,ar]
 have e0:aO (vv (gI b.2.2.1)) 0=decide (dx (gI b.2.2.1) 0):=by rw[jx,oQ];exact kk
 refine(oj λ_=> ?_).trans (fj some (?_:(fM c&&(pC b.1 b.2.1&&(eA b.2.2.1&&(oi b.2.2.2.1&&(eh b.2.2.2.2.2.1&&(decide (dx b.2.2.2.2.1.length c.1.length)&&(decide (dx (gI b.2.2.1) 0)&&
  (decide (∀j,j<b.2.2.1.length→jK b.1 b.2.1 b.2.2.1 j)&&(decide (∀j,j<b.2.2.2.1.length→jd c b.2.1 b.2.2.2.1 j)&&(eV b.2.2.2.2.1&&(decide (∀j,j<b.2.2.2.2.2.1.length→p6 c b.2.1 b.2.2.2.2.2.1 j)&&true)))))))))))=dy c b))
 ·rw[wP N w.m w.a ω,ar]
  refine oj λ_=> ?_
  rw[Fy N w.r ω,ar]
  refine oj λhk=> ?_
  rw[WC N w.qs w.s ω,ar]
  refine oj λ_=> ?_
  rw[ia N w.o ω,ar]
  refine oj λho=> ?_
  rw[jx]
  refine oj λ_=> ?_
  rw[TT N w.qr w.r ω,ar,p3,ar,e0]
  refine oj λ_=> ?_
  exact FE N ω c b w.m w.a w.r hk (HH N ω c b w.a w.s (DA N ω c b w.p (HG N ω c b w.a w.o ho)))
 ·unfold dy
  generalize fM c=x1,pC b.1 b.2.1=x2,eA b.2.2.1=x3,oi b.2.2.2.1=x4,eh b.2.2.2.2.2.1=x5,decide (dx b.2.2.2.2.1.length c.1.length)=x6,decide (dx (gI b.2.2.1) 0)=x7,decide (∀j,j<b.2.2.1.length→jK b.1 b.2.1 b.2.2.1 j)=x8,decide (∀j,j<b.2.2.2.1.length→jd c b.2.1 b.2.2.2.1 j)=x9,eV b.2.2.2.2.1=bx,decide (∀j,j<b.2.2.2.2.2.1.length→p6 c b.2.1 b.2.2.2.2.2.1 j)=aX
  rw[fX]
  cases x1<;>cases x2<;>cases x3<;>cases x4<;>cases x5<;>cases x6<;>cases x7<;>try rfl
  cases x8<;>cases x9<;>cases bx<;>cases aX<;>rfl
end VM
end
section
namespace VM
open Go VM.F
def nj(a q n:Int)(i:Nat)(p:Int):Prop:=0≤a∧a<n∧q≠0∧p4 q∧(0<i→p<a)
instance(a q n:Int)(i:Nat)(p:Int):Decidable (nj a q n i p):=by unfold nj;infer_instance
def nk(c:ae)(l:aE)(i:Nat):Prop:=nj (l.getD i cD).1 (l.getD i cD).2.1 c.1.length i (l.getD (i-1) cD).1
instance(c:ae)(l:aE):DecidablePred (nk c l):=λi=>by unfold nk;infer_instance
def mi(c:ae)(l:aE):Bool:=decide (∀j,j<l.length→nk c l j)&&fM c
theorem aae(N:Nat)(hN:200000≤N)(c:ae){l:aE}(hl:l.length≤100000):pE N c l=some (mi c l):=by
 unfold pE pE.b
 refine iq (F:=λn i=>pE.l2 N n l c l (l.length:Int) i) (nk c l) (λn i r hi hp hr=> ?_) (λn=> ?_) N ω
 ·unfold pE.l2 pE.gH
  rw[aT ω,aq,a6 ω ω,aq,aJ,ay (x:=(i:Int)+1) ω ω,ag,hr,sy,ar,cond_not,gg]
  by_cases h0:0<i
  ·have e:W .i64 ((i:Int)-1)=((i-1:Nat):Int):=by rw[ay ω ω];omega
   dsimp only
   rw[aT (x:=0) (y:=(i:Int)) ω,aq,e,aJ,a6 ω ω,aq]
   simp only[cQ,cG,aN]
   by_cases hP:nk c l i
   ·rw[aj hP];unfold nk nj at hP
    rw[ah ω,ah ω,ah hP.2.2.1,aj hP.2.2.2.1,ah ω]
   ·rw[ah hP];unfold nk nj at hP
    have h2:=λh1 h2 h3 h4 h5=>hP ⟨h1,h2,h3,h4,h5⟩
    repeat' split
    all_goals first|rfl|(exfalso;exact h2 ω ω (by assumption) (by assumption) ω)
  ·rw[aP (x:=0) (y:=(i:Int)) ω,av]
   simp only[cQ,cG,aN]
   by_cases hP:nk c l i
   ·rw[aj hP];unfold nk nj at hP
    rw[ah ω,ah ω,ah hP.2.2.1,aj hP.2.2.2.1]
   ·rw[ah hP];unfold nk nj at hP
    have h2:=λh1 h2 h3 h4 h5=>hP ⟨h1,h2,h3,h4,h5⟩
    repeat' split
    all_goals first|rfl|(exfalso;exact h2 ω ω (by assumption) (by assumption) ω)
 ·unfold pE.l2 pE.gH
  rw[aP ω,av,R2 N ω,ar]
end VM
end
