/- A part of the proof of AwardPays of layer 25: what the functions compute, in plain words. -/
import Derived.Test.YtocmlaipoebfeaaGreatPlain0
import Derived.Test.YtocmlaipoebfeaaGreatText
set_option linter.all false
section
namespace VM
open Go VM.F
theorem pR(N:Nat)(a lo hi:Int):xE N a lo hi=some (decide (lo≤a∧a≤hi)):=by
 unfold xE
 rw[bO,iE]
 by_cases h:lo≤a
 ·rw[atK h];congr 1;rw[avj];omega
 ·rw[atL h,at6 (by omega)]
theorem BN(N:Nat)(a lo hi:Int):A9 N a lo hi=some (decide (lo≤a∧a≤hi)):=pR N a lo hi
def pS(a b c d:Int):Prop:=(0≤a∧a≤3)∧(1≤b∧b≤1000000000000)∧(0≤c∧c≤1000000000)∧(0≤d∧d≤1000000000)
instance(a b c d:Int):Decidable (pS a b c d):=by unfold pS;infer_instance
def mZ(l:ay)(i:Nat):Prop:=pS (l.getD i aC).1 (l.getD i aC).2.1 (l.getD i aC).2.2.1 (l.getD i aC).2.2.2.1
instance(l:ay):DecidablePred (mZ l):=fun i=>by unfold mZ;infer_instance
def pT(a b c d e f:Int):Prop:=0≤a∧(0≤b∧b≤4)∧(0≤c∧c≤1000000)∧(0≤d∧d≤1000000)∧(1≤e∧e≤4611686018427387904)∧0≤f
instance(a b c d e f:Int):Decidable (pT a b c d e f):=by unfold pT;infer_instance
def pU(c:aa):Prop:=pT c.2.1 c.2.2.1 c.2.2.2.1 c.2.2.2.2.1 c.2.2.2.2.2.1 c.2.2.2.2.2.2.1
instance(c:aa):Decidable (pU c):=by unfold pU;infer_instance
def fV(c:aa):Bool:=decide (1≤c.1.length∧c.1.length≤6)&&(decide (∀j,j<c.1.length→mZ c.1 j)&&decide (pU c))
theorem C1(N:Nat)(hN:100≤N)(c:aa):vQ N c=some (fV c):=by
 unfold vQ vQ.b fV
 rw[pR,atB,cond_not,dy]
 by_cases hl:1≤c.1.length∧c.1.length≤6
 ·rw[atK (by omega),at1 hl,au7]
  refine eE (F:=fun n i=>vQ.l4 N n c c.1 (c.1.length:Int) i) (mZ c.1) (fun n i r hi hp hr=> ?_) (fun n=> ?_) N (by omega)
  ·unfold vQ.l4 vQ.cY
   rw[aK (by omega),atC,aP (by omega) (by omega),atC,atE,ar (by omega) (by omega),ae]
   simp only[pR,atB,cond_not,dy]
   by_cases hP:mZ c.1 i
   ·rw[atK hP];unfold mZ pS at hP
    repeat' split
    all_goals first|rfl|exact hr|omega
   ·rw[atL hP];unfold mZ pS at hP
    repeat' split
    all_goals first|rfl|exact hr|omega
  ·unfold vQ.l4 vQ.cY
   rw[aH (by omega),atH]
   simp only[pR,atB,cond_not,dy,bO,iE]
   by_cases hP:pU c
   ·rw[at1 hP];unfold pU pT at hP
    repeat' split
    all_goals first|rfl|omega|(rw[at1 (by omega)])
   ·rw[at6 hP];unfold pU pT at hP
    repeat' split
    all_goals first|rfl|omega|(rw[at6 (by omega)])
 ·rw[atL (by omega),at6 hl,avY]
theorem m0(N:Nat)(hN:100≤N)(c:aa):iK N c=some (fV c):=by
 unfold iK iK.b fV
 rw[cg,cg]
 by_cases hl:1≤c.1.length∧c.1.length≤6
 ·rw[atL (by omega),atL (by omega),at1 hl,au7]
  refine eE (F:=fun n i=>iK.l4 N n c i) (mZ c.1) (fun n i r hi hp hr=> ?_) (fun n=> ?_) N (by omega)
  ·unfold iK.l4 iK.cY
   rw[aK (by omega),atC,aP (by omega) (by omega),atC,atE,ar (by omega) (by omega),ae]
   simp only[BN,atB,cond_not,dy]
   by_cases hP:mZ c.1 i
   ·rw[atK hP];unfold mZ pS at hP
    repeat' split
    all_goals first|rfl|exact hr|omega
   ·rw[atL hP];unfold mZ pS at hP
    repeat' split
    all_goals first|rfl|exact hr|omega
  ·unfold iK.l4 iK.cY
   rw[aH (by omega),atH]
   simp only[BN,atB,cond_not,dy,bO,iE]
   by_cases hP:pU c
   ·rw[at1 hP];unfold pU pT at hP
    repeat' split
    all_goals first|rfl|omega|(rw[at1 (by omega)])
   ·rw[at6 hP];unfold pU pT at hP
    repeat' split
    all_goals first|rfl|omega|(rw[at6 (by omega)])
 ·rw[at6 hl,avY]
  by_cases h:(c.1.length:Int)<1
  ·rw[atK h]
  ·rw[atL h,atK (by omega)]
def fi(a b:Int)(i:Nat)(c:Int):Prop:=1≤a∧a≤12∧1≤b∧b≤4∧(0<i→c<a)
instance(a b:Int)(i:Nat)(c:Int):Decidable (fi a b i c):=by unfold fi;infer_instance
def dz(m:ax)(i:Nat):Prop:=fi (m.getD i bR).1 (m.getD i bR).2.1 i (m.getD (i-1) bR).1
instance(m:ax):DecidablePred (dz m):=fun i=>by unfold dz;infer_instance
def iY(m:ax):Bool:=decide (∀j,j<m.length→dz m j)&&true
theorem zd(N:Nat){m:ax}(hl:m.length≤100000)(hN:200000≤N):kV N m=some (iY m):=by
 unfold kV kV.b
 refine eE (F:=fun n i=>kV.l2 N n m m (m.length:Int) i) (dz m) (fun n i r hi hp hr=> ?_) (fun n=> ?_) N (by omega)
 ·unfold kV.l2 kV.dP
  rw[aK (by omega),atC,aP (by omega) (by omega),atC,atE,ar (x:=(i:Int)+1) (by omega) (by omega),ae]
  by_cases h0:0<i
  ·have e:W .i64 ((i:Int)-1)=((i-1:Nat):Int):=by rw[ar (by omega) (by omega)];omega
   dsimp only
   rw[aK (x:=0) (by omega),atC,e,atE,aP (by omega) (by omega),atC]
   simp only[cg,bO]
   by_cases hP:dz m i
   ·rw[atK hP];unfold dz fi at hP
    repeat' split
    all_goals first|rfl|exact hr|omega
   ·rw[atL hP];unfold dz fi at hP
    repeat' split
    all_goals first|rfl|exact hr|omega
  ·rw[aH (x:=0) (by omega),atH]
   simp only[cg,bO]
   by_cases hP:dz m i
   ·rw[atK hP];unfold dz fi at hP
    repeat' split
    all_goals first|rfl|exact hr|omega
   ·rw[atL hP];unfold dz fi at hP
    repeat' split
    all_goals first|rfl|exact hr|omega
 ·unfold kV.l2 kV.dP
  rw[aH (by omega),atH]
theorem og(N:Nat){m:ax}(hl:m.length≤100000)(hN:200000≤N):jP N m=some (iY m):=by
 unfold jP jP.b
 refine eE (F:=fun n i=>jP.l2 N n m i) (dz m) (fun n i r hi hp hr=> ?_) (fun n=> ?_) N (by omega)
 ·unfold jP.l2 jP.dP
  rw[aK (by omega),atC,aP (by omega) (by omega),atC,atE,ar (x:=(i:Int)+1) (by omega) (by omega),ae]
  by_cases h0:0<i
  ·have e:W .i64 ((i:Int)-1)=((i-1:Nat):Int):=by rw[ar (by omega) (by omega)];omega
   dsimp only
   rw[aK (x:=0) (by omega),e,atE,aP (i:=((i-1:Nat):Int)) (by omega) (by omega)]
   simp only[cg,bO,atC]
   by_cases hP:dz m i
   ·rw[atK hP];unfold dz fi at hP
    repeat' split
    all_goals first|rfl|exact hr|omega
   ·rw[atL hP];unfold dz fi at hP
    repeat' split
    all_goals first|rfl|exact hr|omega
  ·rw[aH (x:=0) (by omega)]
   simp only[cg,bO,atC,atH]
   by_cases hP:dz m i
   ·rw[atK hP];unfold dz fi at hP
    repeat' split
    all_goals first|rfl|exact hr|omega
   ·rw[atL hP];unfold dz fi at hP
    repeat' split
    all_goals first|rfl|exact hr|omega
 ·unfold jP.l2 jP.dP
  rw[aH (by omega),atH]
end VM
end
section
namespace VM
open Go VM.F
def dA(k n:Int):Prop:=(1≤k∧k≤4∧n=0)∨(k=5∧1≤n∧n≤24)∨(6≤k∧k≤7∧1≤n∧n≤12)
instance(k n:Int):Decidable (dA k n):=by unfold dA;infer_instance
theorem Iv(N:Nat)(k n:Int):Iw N k n=some (decide (dA k n)):=by
 unfold Iw
 simp only[aI,bO]
 simp only[iE,fh]
 by_cases hP:dA k n
 ·rw[at1 hP];unfold dA at hP
  repeat' split
  all_goals first|rfl|omega|(rw[at1 (by omega)])
 ·rw[at6 hP];unfold dA at hP
  repeat' split
  all_goals first|rfl|omega|(rw[at6 (by omega)])
theorem RZ(N:Nat)(k n:Int):Ix N k n=some (decide (dA k n)):=by
 have:=Iv N k n
 unfold Iw at this
 unfold Ix
 exact this
def iZ(a b c d:Int):Prop:=a<c∨(a=c∧b<d)
instance(a b c d:Int):Decidable (iZ a b c d):=by unfold iZ;infer_instance
def vR(k n a b:Int):Int:=if k=a then n-b else k-a
def wX(x:Int):Prop:= -1000000≤x∧x≤1000000
theorem ze(N:Nat){k n:Int}{r:cE}(h1:wX k)(h2:wX n)(h3:wX r.1)(h4:wX r.2.1):Iy N k n r=some (vR k n r.1 r.2.1):=by
 unfold Iy vR
 unfold wX at*
 rw[cond_not,aI]
 split
 ·rw[ar (by omega) (by omega)]
 ·rw[ar (by omega) (by omega)]
theorem BO(N:Nat){k n:Int}{r:cE}(h1:wX k)(h2:wX n)(h3:wX r.1)(h4:wX r.2.1):LF N k n r=some (vR k n r.1 r.2.1):=ze N h1 h2 h3 h4
def iL(a b c:Int)(i:Nat)(d e:Int):Prop:=dA a b∧c≠0∧(0<i→iZ d e a b)
instance(a b c:Int)(i:Nat)(d e:Int):Decidable (iL a b c i d e):=by unfold iL;infer_instance
def im(l:aj)(i:Nat):Prop:=iL (l.getD i aZ).1 (l.getD i aZ).2.1 (l.getD i aZ).2.2.1 i (l.getD (i-1) aZ).1 (l.getD (i-1) aZ).2.1
instance(l:aj):DecidablePred (im l):=fun i=>by unfold im;infer_instance
def ed(l:aj):Bool:=decide (∀j,j<l.length→im l j)&&true
theorem C2(N:Nat){l:aj}(hl:l.length≤100000)(hN:200000≤N):vS N l=some (ed l):=by
 unfold vS vS.b
 refine eE (F:=fun n i=>vS.l2 N n l l (l.length:Int) i) (im l) (fun n i r hi hp hr=> ?_) (fun n=> ?_) N (by omega)
 ·unfold vS.l2 vS.dP
  rw[aK (by omega),atC,aP (by omega) (by omega),atC,atE,ar (x:=(i:Int)+1) (by omega) (by omega),ae,Iv,atB,cond_not,dy]
  by_cases hK:dA (l.getD i aZ).1 (l.getD i aZ).2.1
  ·rw[atK hK]
   by_cases h0:0<i
   ·have hq:=hp (i-1) (by omega)
    have e:W .i64 ((i:Int)-1)=((i-1:Nat):Int):=by rw[ar (by omega) (by omega)];omega
    dsimp only
    rw[aK (x:=0) (by omega),atC,e,atE,aP (by omega) (by omega),atC]
    unfold im iL at hq
    have hq:=hq.1
    rw[ze N (by unfold dA at hK;unfold wX;omega) (by unfold dA at hK;unfold wX;omega) (by unfold dA at hq;unfold wX;omega) (by unfold dA at hq;unfold wX;omega),atB,aI,bO]
    by_cases hP:im l i
    ·rw[atK hP];unfold im iL iZ at hP;unfold vR
     have Iz:=hP.2
     repeat' split
     all_goals first|rfl|exact hr|omega
    ·rw[atL hP];unfold im iL iZ at hP;unfold vR
     have Iz:=fun h=>hP ⟨hK,h⟩
     repeat' split
     all_goals first|rfl|exact hr|omega|(exfalso;exact Iz (by omega))
   ·rw[aH (x:=0) (by omega),atH,aI]
    by_cases hP:im l i
    ·rw[atK hP];unfold im iL at hP
     rw[atL hP.2.1];exact hr
    ·rw[atL hP];unfold im iL at hP
     have Iz:=fun h=>hP ⟨hK,h,fun h=>absurd h h0⟩
     split
     ·rfl
     ·exact absurd (by assumption) Iz
  ·rw[atL hK,atL (fun h=>hK (by unfold im iL at h;exact h.1))]
 ·unfold vS.l2 vS.dP
  rw[aH (by omega),atH]
theorem zf(N:Nat){l:aj}(hl:l.length≤100000)(hN:200000≤N):vT N l=some (ed l):=by
 unfold vT vT.b
 refine eE (F:=fun n i=>vT.l2 N n l i) (im l) (fun n i r hi hp hr=> ?_) (fun n=> ?_) N (by omega)
 ·unfold vT.l2 vT.dP
  rw[aK (by omega),atC,aP (by omega) (by omega),atC,atE,ar (x:=(i:Int)+1) (by omega) (by omega),ae,RZ,atB,cond_not,dy]
  by_cases hK:dA (l.getD i aZ).1 (l.getD i aZ).2.1
  ·rw[atK hK]
   by_cases h0:0<i
   ·have e:W .i64 ((i:Int)-1)=((i-1:Nat):Int):=by rw[ar (by omega) (by omega)];omega
    dsimp only
    rw[aK (x:=0) (by omega),e,atE,aP (i:=((i-1:Nat):Int)) (by omega) (by omega)]
    simp only[cg,bO,aI,atC]
    by_cases hP:im l i
    ·rw[atK hP];unfold im iL iZ at hP
     have Iz:=hP.2
     repeat' split
     all_goals first|rfl|exact hr|omega
    ·rw[atL hP];unfold im iL iZ at hP
     have Iz:=fun h=>hP ⟨hK,h⟩
     repeat' split
     all_goals first|rfl|exact hr|omega|(exfalso;exact Iz (by omega))
   ·rw[aH (x:=0) (by omega)]
    simp only[cg,bO,aI,atC,atH]
    by_cases hP:im l i
    ·rw[atK hP];unfold im iL at hP
     rw[atL hP.2.1];exact hr
    ·rw[atL hP];unfold im iL at hP
     have Iz:=fun h=>hP ⟨hK,h,fun h=>absurd h h0⟩
     split
     ·rfl
     ·exact absurd (by assumption) Iz
  ·rw[atL hK,atL (fun h=>hK (by unfold im iL at h;exact h.1))];rfl
 ·unfold vT.l2 vT.dP
  rw[aH (by omega),atH]
end VM
end
section
namespace VM
open Go VM.F
def bN(a b:Int):Prop:=0≤a∧a≤24∧0≤b∧b<6
instance(a b:Int):Decidable (bN a b):=by unfold bN;infer_instance
theorem Kb(N:Nat)(a b:Int):Ov N a b=some (decide (bN a b)):=by
 unfold Ov
 simp only[bO]
 simp only[td]
 by_cases hP:bN a b
 ·rw[at1 hP];unfold bN at hP
  repeat' split
  all_goals first|rfl|omega|(rw[at1 (by omega)])
 ·rw[at6 hP];unfold bN at hP
  repeat' split
  all_goals first|rfl|omega|(rw[at6 (by omega)])
def uc(q:Int):Prop:=q≠ -9223372036854775808
instance(q:Int):Decidable (uc q):=by unfold uc;infer_instance
theorem oh(N:Nat)(q:Int):IA N q=some (decide (uc q)):=by
 unfold IA uc
 rw[fh]
 by_cases h:q= -9223372036854775808<;>simp[h]
def jB(a b c:Int)(i:Nat)(d e:Int):Prop:=bN a b∧c≠0∧uc c∧(0<i→iZ d e a b)
instance(a b c:Int)(i:Nat)(d e:Int):Decidable (jB a b c i d e):=by unfold jB;infer_instance
def ja(l:aj)(i:Nat):Prop:=jB (l.getD i aZ).1 (l.getD i aZ).2.1 (l.getD i aZ).2.2.1 i (l.getD (i-1) aZ).1 (l.getD (i-1) aZ).2.1
instance(l:aj):DecidablePred (ja l):=fun i=>by unfold ja;infer_instance
def cP(l:aj):Bool:=decide (∀j,j<l.length→ja l j)&&true
theorem zg(N:Nat){l:aj}(hl:l.length≤100000)(hN:200000≤N):ki N l=some (cP l):=by
 unfold ki ki.b
 refine eE (F:=fun n i=>ki.l2 N n l l (l.length:Int) i) (ja l) (fun n i r hi hp hr=> ?_) (fun n=> ?_) N (by omega)
 ·unfold ki.l2 ki.dP
  rw[aK (by omega),atC,aP (by omega) (by omega),atC,atE,ar (x:=(i:Int)+1) (by omega) (by omega),ae,Kb,atB,cond_not,dy,oh,atB,cond_not,dy]
  by_cases hK:bN (l.getD i aZ).1 (l.getD i aZ).2.1
  ·rw[atK hK]
   by_cases h0:0<i
   ·have hq:=hp (i-1) (by omega)
    have e:W .i64 ((i:Int)-1)=((i-1:Nat):Int):=by rw[ar (by omega) (by omega)];omega
    dsimp only
    rw[aK (x:=0) (by omega),atC,e,atE,aP (by omega) (by omega),atC]
    unfold ja jB at hq
    have hq:=hq.1
    rw[BO N (by unfold bN at hK;unfold wX;omega) (by unfold bN at hK;unfold wX;omega) (by unfold bN at hq;unfold wX;omega) (by unfold bN at hq;unfold wX;omega),atB,aI,bO]
    by_cases hP:ja l i
    ·rw[atK hP];unfold ja jB iZ at hP;unfold vR
     obtain⟨_,hP1,Iz,hP3⟩:=hP
     rw[atK Iz]
     repeat' split
     all_goals first|rfl|exact hr|omega
    ·rw[atL hP];unfold ja jB iZ at hP;unfold vR
     have Iz:=fun h1 h2 h3=>hP ⟨hK,h1,h2,h3⟩
     repeat' split
     all_goals first|rfl|exact hr|(exfalso;exact Iz (by assumption) (by assumption) (by omega))|omega
   ·rw[aH (x:=0) (by omega),atH,aI]
    by_cases hP:ja l i
    ·rw[atK hP];unfold ja jB at hP
     rw[atL hP.2.1,atK hP.2.2.1];exact hr
    ·rw[atL hP];unfold ja jB at hP
     have Iz:=fun h1 h2=>hP ⟨hK,h1,h2,fun h=>absurd h h0⟩
     split
     ·rfl
     ·split
      ·exact(Iz (by assumption) (by assumption)).elim
      ·rfl
  ·rw[atL hK,atL (fun h=>hK (by unfold ja jB at h;exact h.1))]
 ·unfold ki.l2 ki.dP
  rw[aH (by omega),atH]
theorem mF(N:Nat){l:aj}(hl:l.length≤100000)(hN:200000≤N):ud N l=some (cP l):=by
 unfold ud ud.b
 refine eE (F:=fun n i=>ud.l2 N n l i) (ja l) (fun n i r hi hp hr=> ?_) (fun n=> ?_) N (by omega)
 ·unfold ud.l2 ud.dP
  rw[aK (by omega),atC,aP (by omega) (by omega),atC,atE,ar (x:=(i:Int)+1) (by omega) (by omega),ae]
  by_cases h0:0<i
  ·have e:W .i64 ((i:Int)-1)=((i-1:Nat):Int):=by rw[ar (by omega) (by omega)];omega
   dsimp only
   rw[aK (x:=0) (y:=(i:Int)) (by omega),e,atE,aP (i:=((i-1:Nat):Int)) (by omega) (by omega)]
   simp only[cg,bO,aI,atC]
   by_cases hP:ja l i
   ·rw[atK hP];unfold ja jB iZ uc bN at hP
    repeat' split
    all_goals first|rfl|exact hr|omega
   ·rw[atL hP];unfold ja jB iZ uc bN at hP
    repeat' split
    all_goals first|rfl|exact hr|omega|(exfalso;exact hP (by omega))
  ·rw[aH (x:=0) (y:=(i:Int)) (by omega)]
   simp only[cg,bO,aI,atC,atH]
   by_cases hP:ja l i
   ·rw[atK hP];unfold ja jB iZ uc bN at hP
    repeat' split
    all_goals first|rfl|exact hr|omega
   ·rw[atL hP];unfold ja jB iZ uc bN at hP
    repeat' split
    all_goals first|rfl|exact hr|omega|(exfalso;exact hP (by omega))
 ·unfold ud.l2 ud.dP
  rw[aH (by omega),atH]
theorem dW(a b:Int)(y:Bool):cond (bX a b) (some y) (some false)=some (decide (a≤b)&&y):=by
 rw[bO];by_cases h:a≤b<;>simp[h]
theorem zh(a b:Int)(y:Bool):cond (aL a b) (some y) (some false)=some (decide (a<b)&&y):=by
 rw[cg];by_cases h:a<b<;>simp[h]
theorem uT(a b:Int)(y:Bool):cond (aA a b) (some y) (some false)=some (decide (a=b)&&y):=by
 rw[aI];by_cases h:a=b<;>simp[h]
theorem vU(a b:Int)(y z:Bool):cond (aA a b) (some y) (some z)=some ((decide (a=b)&&y)||(!decide (a=b)&&z)):=by
 rw[aI];by_cases h:a=b<;>simp[h]
def tF(a b c d e f:Int):Prop:=(1≤a∧a≤1099511627776)∧(1≤b∧b≤24)∧(0≤c∧c<6)∧(d=1∨d=2)∧(1≤e∧e≤1000000000)∧(1≤f∧f≤1000000000000)
instance(a b c d e f:Int):Decidable (tF a b c d e f):=by unfold tF;infer_instance
def pg(o:eG):Prop:=tF o.1 o.2.1 o.2.2.1 o.2.2.2.1 o.2.2.2.2.1 o.2.2.2.2.2.1
instance(o:eG):Decidable (pg o):=by unfold pg;infer_instance
theorem Zm(N:Nat)(o:eG):R1 N o=some (decide (pg o)):=by
 unfold R1
 rw[iE o.2.2.2.2.2.1]
 rw[dW,dW,dW,uT,vU,zh,dW,dW,dW,dW,dW]
 congr 1
 rw[ave,auH]
 unfold pg tF
 simp only[atW,avf,avp,avz,awg]
 omega
end VM
end
section
namespace VM
open Go VM.F
theorem BP(N:Nat)(p:Int):F85 N p=some (decide (1≤p∧p≤1000000000000)):=by
 unfold F85
 rw[iE p,dW];congr 1
 rw[ave];simp only[atW,avz]
theorem jb(N:Nat)(p:Int):xF N p=some (decide (1≤p∧p≤1000000000000)):=BP N p
theorem yg(N:Nat)(o:eG):IB N o=some (decide (pg o)):=by
 unfold IB
 rw[jb,atB]
 repeat (first|rw[dW]|rw[zh]|rw[uT]|rw[vU])
 congr 1
 rw[ave,auH]
 unfold pg tF
 simp only[atW,avf,avp,avz,awg]
 omega
def mG(i:Nat)(a b:Int):Prop:=0<i→a<b
instance(i:Nat)(a b:Int):Decidable (mG i a b):=by unfold mG;infer_instance
def pV(l:a6)(i:Nat):Prop:=pg (l.getD i eD)∧mG i (l.getD (i-1) eD).1 (l.getD i eD).1
instance(l:a6):DecidablePred (pV l):=fun i=>by unfold pV;infer_instance
def jC(l:a6):Bool:=decide (∀j,j<l.length→pV l j)&&decide (l.length≤32)
theorem LG(N:Nat){l:a6}(hl:l.length≤100000)(hN:200000≤N):xG N l=some (jC l):=by
 unfold xG xG.b
 refine eE (F:=fun n i=>xG.l2 N n l l (l.length:Int) i) (pV l) (fun n i r hi hp hr=> ?_) (fun n=> ?_) N (by omega)
 ·unfold xG.l2 xG.dP
  rw[aK (by omega),atC,aP (by omega) (by omega),atC,atE,ar (x:=(i:Int)+1) (by omega) (by omega),ae,Zm,atB,cond_not,dy]
  by_cases hK:pg (l.getD i eD)
  ·rw[atK hK]
   by_cases h0:0<i
   ·have e:W .i64 ((i:Int)-1)=((i-1:Nat):Int):=by rw[ar (by omega) (by omega)];omega
    dsimp only
    rw[aK (x:=0) (by omega),atC,e,atE,aP (by omega) (by omega),atC,bO]
    by_cases hP:pV l i
    ·rw[atK hP,atL (by have h2:=hP.2;unfold mG at h2;omega)];exact hr
    ·rw[atL hP,atK]
     have h2: ¬mG i (l.getD (i-1) eD).1 (l.getD i eD).1:=fun h=>hP ⟨hK,h⟩
     unfold mG at h2
     omega
   ·rw[aH (x:=0) (by omega),atH,atK ⟨hK,fun h=>absurd h h0⟩];exact hr
  ·rw[atL hK,atL (fun h=>hK h.1)]
 ·unfold xG.l2 xG.dP
  rw[aH (by omega),atH,iE]
  congr 1;rw[avj];omega
theorem kj(N:Nat){l:a6}(hl:l.length≤100000)(hN:200000≤N):jj N l=some (jC l):=by
 unfold jj jj.b
 by_cases h32:32<l.length
 ·rw[aK (by omega),atC];unfold jC
  rw[at6 (p:=l.length≤32) (by omega),aw6]
 rw[aH (by omega),atH]
 have:=eE (F:=fun n i=>jj.l4 N n l i) (e:=true) (pV l) (fun n i r hi hp hr=> ?_) (fun n=> ?_) N (show l.length<N by omega)
 ·refine Eq.trans this ?_
  unfold jC
  rw[at1 (p:=l.length≤32) (by omega)]
 ·unfold jj.l4 jj.cY
  rw[aK (by omega),atC,aP (by omega) (by omega),atC,atE,ar (x:=(i:Int)+1) (by omega) (by omega),ae,yg,atB,cond_not,dy]
  by_cases hK:pg (l.getD i eD)
  ·rw[atK hK]
   by_cases h0:0<i
   ·have e:W .i64 ((i:Int)-1)=((i-1:Nat):Int):=by rw[ar (by omega) (by omega)];omega
    dsimp only
    rw[aK (x:=0) (by omega),atC,atC,e,atE,aP (by omega) (by omega),atC,bO]
    by_cases hP:pV l i
    ·rw[atK hP,atL (by have h2:=hP.2;unfold mG at h2;omega)];exact hr
    ·rw[atL hP,atK]
     have h2: ¬mG i (l.getD (i-1) eD).1 (l.getD i eD).1:=fun h=>hP ⟨hK,h⟩
     unfold mG at h2
     omega
   ·rw[aH (x:=0) (by omega),atH,atK ⟨hK,fun h=>absurd h h0⟩];exact hr
  ·rw[atL hK,atL (fun h=>hK h.1)]
 ·unfold jj.l4 jj.cY
  rw[aH (by omega),atH]
end VM
end
section
namespace VM
open Go VM.F
def gR(id:Int):ax→Int
 |[]=>0
 |x::t=>if x.1=id then x.2.1 else gR id t
def s6(id:Int):ay→bn×Bool
 |[]=>(aC,false)
 |x::t=>if x.1=id then(x,true)else s6 id t
def iM(id:Int):ay→Int
 |[]=>0
 |x::t=>if x.2.1=id then(if x.2.2.1=1 then x.1 else iM id t)else iM id t
theorem uU(id:Int)(x:LH)(t:ax):gR id (x::t)=if x.1=id then x.2.1 else gR id t:=rfl
theorem pW(id:Int)(x:bn)(t:ay):s6 id (x::t)=if x.1=id then(x,true)else s6 id t:=rfl
theorem oi(id:Int)(x:bn)(t:ay):iM id (x::t)=if x.2.1=id then(if x.2.2.1=1 then x.1 else iM id t)else iM id t:=rfl
theorem Fh(N:Nat){m:ax}(hl:m.length≤100000)(hN:200000≤N)(id:Int):uV.l4 N N id m (m.length:Int) 0=some (gR id m):=by
 refine s4 m bR (fun n i=>uV.l4 N n id m (m.length:Int) i) (fun l=>some (gR id l)) (fun n i hi hr=> ?_) (fun n=> ?_) N (by omega)
 ·unfold uV.l4 uV.cY
  rw[aK (by omega),atC,aP (by omega) (by omega),atC,atE,ar (x:=(i:Int)+1) (by omega) (by omega),ae,hr,aI]
  rw[uU]
  split<;>rfl
 ·unfold uV.l4 uV.cY
  rw[aH (by omega),atH];rfl
theorem kk(N:Nat){m:ax}(hl:m.length≤100000)(hN:200000≤N)(id:Int):jk N m id=some (gR id m):=by
 unfold jk jk.b
 refine s4 m bR (fun n i=>jk.l2 N n m id i) (fun l=>some (gR id l)) (fun n i hi hr=> ?_) (fun n=> ?_) N (by omega)
 ·unfold jk.l2 jk.dP
  rw[aK (by omega),atC,aP (by omega) (by omega),atC,atC,atE,ar (x:=(i:Int)+1) (by omega) (by omega),ae,hr,aI]
  rw[uU]
  split<;>rfl
 ·unfold jk.l2 jk.dP
  rw[aH (by omega),atH];rfl
def eN(m:ax)(id:Int):Int:=if iY m then gR id m else 0
theorem vV(N:Nat){m:ax}(hl:m.length≤100000)(hN:200000≤N)(id:Int):uV N m id=some (eN m id):=by
 unfold uV uV.b eN
 rw[zd N hl hN,atB,cond_not,Fh N hl hN]
 cases iY m<;>rfl
theorem zi(N:Nat){m:ax}(hl:m.length≤100000)(hN:200000≤N)(id:Int):uW N m id=some (eN m id):=by
 unfold uW eN
 rw[og N hl hN,atB,cond_not,kk N hl hN]
 cases iY m<;>rfl
theorem LJ(N:Nat){m:ay}(hl:m.length≤100000)(hN:200000≤N)(id:Int):kX.l4 N N id aC m (m.length:Int) 0=some (s6 id m):=by
 refine s4 m aC (fun n i=>kX.l4 N n id aC m (m.length:Int) i) (fun l=>some (s6 id l)) (fun n i hi hr=> ?_) (fun n=> ?_) N (by omega)
 ·unfold kX.l4 kX.cY
  rw[aK (by omega),atC,aP (by omega) (by omega),atC,atE,ar (x:=(i:Int)+1) (by omega) (by omega),ae,hr,aI]
  rw[pW]
  split<;>rfl
 ·unfold kX.l4 kX.cY
  rw[aH (by omega),atH];rfl
theorem uX(N:Nat){m:ay}(hl:m.length≤100000)(hN:200000≤N)(id:Int):jQ N m id=some (s6 id m):=by
 unfold jQ jQ.b
 refine s4 m aC (fun n i=>jQ.l2 N n m id aC i) (fun l=>some (s6 id l)) (fun n i hi hr=> ?_) (fun n=> ?_) N (by omega)
 ·unfold jQ.l2 jQ.dP
  rw[aK (by omega),atC,aP (by omega) (by omega),atC,atC,atE,ar (x:=(i:Int)+1) (by omega) (by omega),ae,hr,aI]
  rw[pW]
  split<;>rfl
 ·unfold jQ.l2 jQ.dP
  rw[aH (by omega),atH];rfl
theorem IC(N:Nat){m:ay}(hl:m.length≤100000)(hN:200000≤N)(id:Int):wY.l4 N N id m (m.length:Int) 0=some (iM id m):=by
 refine s4 m aC (fun n i=>wY.l4 N n id m (m.length:Int) i) (fun l=>some (iM id l)) (fun n i hi hr=> ?_) (fun n=> ?_) N (by omega)
 ·unfold wY.l4 wY.cY
  rw[aK (by omega),atC,aP (by omega) (by omega),atC,atE,ar (x:=(i:Int)+1) (by omega) (by omega),ae,hr,aI,aI]
  rw[oi]
  split
  ·split<;>rfl
  ·rfl
 ·unfold wY.l4 wY.cY
  rw[aH (by omega),atH];rfl
theorem Fi(N:Nat){m:ay}(hl:m.length≤100000)(hN:200000≤N)(id:Int):sK.l4 N N m id 0=some (iM id m):=by
 refine s4 m aC (fun n i=>sK.l4 N n m id i) (fun l=>some (iM id l)) (fun n i hi hr=> ?_) (fun n=> ?_) N (by omega)
 ·unfold sK.l4 sK.cY
  rw[aK (by omega),atC,aP (by omega) (by omega)]
  simp only[atC]
  rw[atE,ar (x:=(i:Int)+1) (by omega) (by omega),ae,hr,aI,aI]
  rw[oi]
  split
  ·split<;>rfl
  ·rfl
 ·unfold sK.l4 sK.cY
  rw[aH (by omega),atH];rfl
end VM
end
section
namespace VM
open Go VM.F
def fa(a b:Int):Prop:=a=b
instance(a b:Int):Decidable (fa a b):=by unfold fa;infer_instance
def s7(l:ay)(k:Nat)(m:Int):Prop:=fa (l.getD k aC).2.2.1 1∧fa (l.getD k aC).2.1 m
instance(l:ay)(k:Nat)(m:Int):Decidable (s7 l k m):=by unfold s7;infer_instance
def iA(l:ay)(i:Nat)(m:Int):Bool:=(List.range i).any fun k=>decide (s7 l k m)
theorem Fj{l:ay}{i:Nat}{m:Int}:iA l i m=true↔ ∃k,k<i∧s7 l k m:=by
 unfold iA
 rw[avZ]
 simp only[avH,auH]
theorem pX(l:ay)(i:Nat)(m:Int):iA l (i+1) m=(iA l i m||decide (s7 l i m)):=by
 unfold iA
 rw[awX,List.any_append];simp
def jD(a b c d:Int):Prop:=(1≤a∧a≤24)∧(1≤b∧b≤12)∧(c=1∨c=2)∧(0≤d∧d≤1000000000000)
instance(a b c d:Int):Decidable (jD a b c d):=by unfold jD;infer_instance
def gz(l:ay)(i:Nat):Prop:= ¬(fa (l.getD i aC).2.2.1 1∧iA l i (l.getD i aC).2.1=true)
instance(l:ay)(i:Nat):Decidable (gz l i):=by unfold gz;infer_instance
def uY(l:ay)(i:Nat):Prop:=jD (l.getD i aC).1 (l.getD i aC).2.1 (l.getD i aC).2.2.1 (l.getD i aC).2.2.2.1∧mG i (l.getD (i-1) aC).1 (l.getD i aC).1∧gz l i
instance(l:ay):DecidablePred (uY l):=fun i=>by unfold uY;infer_instance
def g8(l:ay):Bool:=decide (∀j,j<l.length→uY l j)&&true
def dm(l:ay)(i:Nat):List Bool:=(List.range 13).map fun(m:Nat)=>iA l i (m:Int)
theorem LK{l:ay}{i:Nat}{b:Int}(h0:0≤b)(h1:b<13):(dm l i).getD b.toNat false=iA l i b:=by
 unfold dm
 rw[atD,auY,List.getElem?_range (by omega)]
 show iA l i ((b.toNat:Nat):Int)=_
 rw[av3 h0]
theorem Fk{l:ay}{i:Nat}(h: ¬fa (l.getD i aC).2.2.1 1):dm l (i+1)=dm l i:=by
 unfold dm
 refine ava fun m _=> ?_
 rw[pX,at6 (fun h'=>h h'.1),av6]
theorem ID{l:ay}{i:Nat}(h:fa (l.getD i aC).2.2.1 1)(h0:(0:Int)≤(l.getD i aC).2.1):(dm l i).set ((l.getD i aC).2.1:Int).toNat true=dm l (i+1):=by
 refine List.ext_getElem (by unfold dm;simp) fun k h1 h2=> ?_
 unfold dm at*
 rw[List.getElem_set]
 simp only[List.getElem_map,awx]
 rw[pX]
 by_cases hk:((l.getD i aC).2.1:Int).toNat=k
 ·rw[atK hk,at1 (show s7 l i (k:Int)from⟨h,by unfold fa;omega⟩),Bool.or_true]
 ·rw[atL hk,at6 (fun h':s7 l i (k:Int)=>hk (by have:=h'.2;unfold fa at this;omega)),av6]
theorem C3(N:Nat){l:ay}(hl:l.length≤100000)(hN:200000≤N):iN N l=some (g8 l):=by
 unfold iN iN.b
 have h0:(List.replicate 13 false:List Bool)=dm l 0:=by unfold dm iA;rfl
 rw[h0]
 have:=eE (F:=fun n i=>iN.l3 N n l (dm l i.toNat) l (l.length:Int) i) (e:=true) (uY l) (fun n i r hi hp hr=> ?_) (fun n=> ?_) N (show l.length<N by omega)
 ·exact this
 ·simp only[atE]at hr ⊢
  unfold iN.l3 iN.ji
  rw[aK (by omega),atC,aP (by omega) (by omega),atC]
  simp only[atE]
  rw[ar (x:=(i:Int)+1) (by omega) (by omega),ae]
  by_cases hF:jD (l.getD i aC).1 (l.getD i aC).2.1 (l.getD i aC).2.2.1 (l.getD i aC).2.2.2.1
  ·have Xt:=hF
   unfold jD at Xt
   have hT:cond (aA (l.getD i aC).2.2.1 1) (cond (aM (l.getD i aC).2.1 13) (cond (List.getD (dm l i) (l.getD i aC).2.1.toNat false) (some false) (cond (aM (l.getD i aC).2.1 13) (iN.l3 N n l (List.set (dm l i) (l.getD i aC).2.1.toNat true) l (l.length:Int) ((i+1:Nat):Int)) none)) none) (iN.l3 N n l (dm l i) l (l.length:Int) ((i+1:Nat):Int))=if gz l i then r else some false:=by
    rw[aI]
    by_cases hk:fa (l.getD i aC).2.2.1 1
    ·have AT:=hk
     unfold fa at AT
     rw[atK AT,aP (by omega) (by omega),atC,atC,LK (by omega) (by omega),ID hk (by omega),hr]
     by_cases ho:iA l i (l.getD i aC).2.1=true
     ·have qR: ¬gz l i:=fun h=>h ⟨hk,ho⟩
      rw[atL qR,ho];rfl
     ·have qR:gz l i:=fun h=>ho h.2
      rw[atK qR,avT.2 ho];rfl
    ·have AT:=hk
     unfold fa at AT
     rw[atL AT,atK (show gz l i from fun h=>hk h.1),←Fk hk,hr]
   have hP:uY l i↔mG i (l.getD (i-1) aC).1 (l.getD i aC).1∧gz l i:=⟨fun h=>h.2,fun h=>⟨hF,h⟩⟩
   have hD:(if uY l i then r else some false)=if mG i (l.getD (i-1) aC).1 (l.getD i aC).1 then(if gz l i then r else some false)else some false:=by
    by_cases h1:mG i (l.getD (i-1) aC).1 (l.getD i aC).1<;>by_cases h2:gz l i<;>simp[hP,h1,h2]
   rw[hD]
   rw[hT]
   rw[aH (by omega),atH,aH (by omega),atH,aH (by omega),atH,aH (by omega),atH,aH (x:=(l.getD i aC).2.2.2.1) (by omega),aH (x:=1000000000000) (by omega)]
   simp only[atH]
   have hm: ∀{α:Type} (x:α) (y:α),cond (!aA (l.getD i aC).2.2.1 1) (cond (!aA (l.getD i aC).2.2.1 2) y x) x=x:=by
    intro α x y
    rcases Xt.2.2.1 with h|h
    ·rw[cz h];rfl
    ·rw[cz (y:=2) h];cases aA (l.getD i aC).2.2.1 1<;>rfl
   rw[hm]
   by_cases h0:0<i
   ·have e:W .i64 ((i:Int)-1)=((i-1:Nat):Int):=by rw[ar (by omega) (by omega)];omega
    rw[aK (x:=0) (by omega),atC,e,atE,aP (by omega) (by omega),atC,bO]
    by_cases h1:mG i (l.getD (i-1) aC).1 (l.getD i aC).1
    ·rw[atK h1,atL (by unfold mG at h1;omega)]
    ·rw[atL h1,atK (by unfold mG at h1;omega)]
   ·rw[aH (x:=0) (by omega),atH,atK (show mG i (l.getD (i-1) aC).1 (l.getD i aC).1 from fun h=>absurd h h0)]
  ·rw[atL (fun h=>hF h.1)]
   unfold jD at hF
   generalize cond (aA (l.getD i aC).2.2.1 1) (cond (aM (l.getD i aC).2.1 13) (cond (List.getD (dm l i) (l.getD i aC).2.1.toNat false) (some false) (cond (aM (l.getD i aC).2.1 13) (iN.l3 N n l (List.set (dm l i) (l.getD i aC).2.1.toNat true) l (l.length:Int) ((i+1:Nat):Int)) none)) none) (iN.l3 N n l (dm l i) l (l.length:Int) ((i+1:Nat):Int))=t
   generalize cond (aL 0 (i:Int)) _ _=u
   simp only[cond_not,cg,aI]
   repeat' split
   all_goals first|rfl|omega
 ·unfold iN.l3 iN.ji
  rw[aH (by omega),atH]
end VM
end
section
namespace VM
open Go VM.F
theorem vW(N:Nat)(K:ay→Int→Option Bool){l:ay}(hl:l.length≤100000){i:Nat}(hi:i<l.length): ∀(m n k:Nat),i-k≤m→m<n→k≤i→(fa (l.getD i aC).2.2.1 1→iA l k (l.getD i aC).2.1=false)→
  iB.l8 N K n l (i:Int) (l.getD i aC) (k:Int)=if gz l i then K l ((i+1:Nat):Int)else some false
 |m,0,k,_,hn,_,_=>by omega
 |m,n+1,k,hm,hn,hk,h=>by
  unfold iB.l8 iB.yh
  by_cases yN:k<i
  ·rw[aK (by omega),atC,aP (by omega) (by omega),atC,atC,atE,ar (x:=(k:Int)+1) (by omega) (by omega),ae,aI,aI,aI]
   by_cases h1:fa (l.getD i aC).2.2.1 1
   ·have lI:=h1
    unfold fa at lI
    rw[atK lI]
    by_cases h2:s7 l k (l.getD i aC).2.1
    ·have sZ:=h2
     unfold s7 fa at sZ
     have qR: ¬gz l i:=fun h3=>h3 ⟨h1,Fj.2 ⟨k,yN,h2⟩⟩
     rw[atK sZ.1,atK sZ.2,atL qR]
    ·have uS:=vW N K hl hi (m-1) n (k+1) (by omega) (by omega) (by omega) (fun _=>by rw[pX,h h1,at6 h2];rfl)
     split
     ·split
      ·rename_i h3 h4
       exact absurd (show s7 l k (l.getD i aC).2.1 from⟨h3,h4⟩) h2
      ·exact uS
     ·exact uS
   ·have lI:=h1
    unfold fa at lI
    rw[atL lI]
    exact vW N K hl hi (m-1) n (k+1) (by omega) (by omega) (by omega) (fun h=>absurd h h1)
  ·have:k=i:=by omega
   subst this
   have qR:gz l k:=fun h3=>by rw[h h3.1]at h3;exact nomatch h3.2
   rw[aH (by omega),atH,atK qR,ar (x:=(k:Int)+1) (by omega) (by omega)];rfl
set_option maxHeartbeats 2000000 in
theorem uZ(N:Nat){l:ay}(hl:l.length≤100000)(hN:200000≤N):iB N l=some (g8 l):=by
 unfold iB iB.b
 refine eE (F:=fun n i=>iB.l2 N n l i) (uY l) (fun n i r hi hp hr=> ?_) (fun n=> ?_) N (by omega)
 ·unfold iB.l2 iB.dP
  have hT:iB.j7 N (iB.l2 N n) l (i:Int) (l.getD i aC)=if gz l i then r else some false:=by
   unfold iB.j7 iB.Zn
   have:=vW N (iB.l2 N n) hl hi i N 0 (by omega) (by omega) (by omega) (fun _=>rfl)
   rw[hr]at this
   exact this
  rw[aK (by omega),atC,aP (by omega) (by omega),atC]
  simp only[atE]
  rw[hT]
  have hD:(if uY l i then r else some false)=if jD (l.getD i aC).1 (l.getD i aC).2.1 (l.getD i aC).2.2.1 (l.getD i aC).2.2.2.1∧mG i (l.getD (i-1) aC).1 (l.getD i aC).1 then(if gz l i then r else some false)else some false:=by
   unfold uY
   by_cases h1:mG i (l.getD (i-1) aC).1 (l.getD i aC).1<;>by_cases h2:gz l i<;>by_cases h3:jD (l.getD i aC).1 (l.getD i aC).2.1 (l.getD i aC).2.2.1 (l.getD i aC).2.2.2.1<;>simp[h1,h2,h3]
  rw[hD]
  generalize (if gz l i then r else some false)=t
  by_cases h0:0<i
  ·have e:W .i64 ((i:Int)-1)=((i-1:Nat):Int):=by rw[ar (by omega) (by omega)];omega
   rw[aK (x:=0) (y:=(i:Int)) (by omega),e]
   simp only[atC,atE]
   rw[aP (i:=((i-1:Nat):Int)) (by omega) (by omega)]
   simp only[cond_not,cg,bO,aI,atC]
   by_cases hP:jD (l.getD i aC).1 (l.getD i aC).2.1 (l.getD i aC).2.2.1 (l.getD i aC).2.2.2.1∧mG i (l.getD (i-1) aC).1 (l.getD i aC).1
   ·rw[atK hP];unfold jD mG at hP
    repeat' split
    all_goals first|rfl|omega
   ·rw[atL hP];unfold jD mG at hP
    repeat' split
    all_goals first|rfl|omega
  ·rw[aH (x:=0) (y:=(i:Int)) (by omega)]
   simp only[cond_not,cg,bO,aI,atC,atH]
   by_cases hP:jD (l.getD i aC).1 (l.getD i aC).2.1 (l.getD i aC).2.2.1 (l.getD i aC).2.2.2.1∧mG i (l.getD (i-1) aC).1 (l.getD i aC).1
   ·rw[atK hP];unfold jD mG at hP
    repeat' split
    all_goals first|rfl|omega
   ·rw[atL hP];unfold jD mG at hP
    repeat' split
    all_goals first|rfl|omega
 ·unfold iB.l2 iB.dP
  rw[aH (by omega),atH]
end VM
end
section
namespace VM
open Go VM.F
def eu(a:ay)(id:Int):bn×Bool:=if g8 a then s6 id a else(aC,false)
theorem R2(N:Nat){a:ay}(hl:a.length≤100000)(hN:200000≤N)(id:Int):kX N a id=some (eu a id):=by
 unfold kX kX.b eu
 rw[C3 N hl hN,atB,cond_not,LJ N hl hN]
 cases g8 a<;>rfl
theorem Fl(N:Nat){a:ay}(hl:a.length≤100000)(hN:200000≤N)(id:Int):zj N a id=some (eu a id):=by
 unfold zj eu
 rw[uZ N hl hN,atB,cond_not,uX N hl hN]
 cases g8 a<;>rfl
def c6(a:ay)(id:Int):Int:=if g8 a then iM id a else 0
theorem Ow(N:Nat){a:ay}(hl:a.length≤100000)(hN:200000≤N)(id:Int):wY N a id=some (c6 a id):=by
 unfold wY wY.b c6
 rw[C3 N hl hN,atB,cond_not,IC N hl hN]
 cases g8 a<;>rfl
theorem ph(N:Nat){a:ay}(hl:a.length≤100000)(hN:200000≤N)(id:Int):sK N a id=some (c6 a id):=by
 unfold sK sK.b c6
 rw[uZ N hl hN,atB,cond_not,Fi N hl hN]
 cases g8 a<;>rfl
def gS(m:ax)(a:ay)(i:Nat):Prop:= ¬fa (gR (a.getD i aC).2.1 m) 0
instance(m:ax)(a:ay):DecidablePred (gS m a):=fun i=>by unfold gS;infer_instance
def rC(m:ax)(a:ay):Bool:=iY m&&(g8 a&&(decide (∀j,j<a.length→gS m a j)&&true))
theorem R3(N:Nat){m:ax}{a:ay}(hm:m.length≤100000)(hl:a.length≤100000)(hN:200000≤N):xH N m a=some (rC m a):=by
 unfold xH xH.b rC
 rw[zd N hm hN,atB,cond_not,C3 N hl hN,atB,cond_not]
 cases hM:iY m
 ·rfl
 cases g8 a
 ·rfl
 rw[au7,au7,atC,atC]
 refine eE (F:=fun n i=>xH.l4 N n m a (a.length:Int) i) (gS m a) (fun n i r hi hp hr=> ?_) (fun n=> ?_) N (by omega)
 ·unfold xH.l4 xH.cY
  rw[aK (by omega),atC,aP (by omega) (by omega),atC,atE,ar (x:=(i:Int)+1) (by omega) (by omega),ae,vV N hm hN,atB,aI]
  unfold eN
  rw[hM,atK rfl]
  by_cases hP:gS m a i
  ·rw[atK hP,atL (show ¬((gR (a.getD i aC).2.1 m:Int)=0)from fun h=>hP h)];exact hr
  ·rw[atL hP,atK (show(gR (a.getD i aC).2.1 m:Int)=0 by unfold gS at hP;exact Decidable.not_not.1 hP)]
 ·unfold xH.l4 xH.cY
  rw[aH (by omega),atH]
theorem zk(N:Nat){m:ax}{a:ay}(hm:m.length≤100000)(hl:a.length≤100000)(hN:200000≤N):ko N m a=some (rC m a):=by
 unfold ko ko.b rC
 rw[og N hm hN,atB,cond_not,uZ N hl hN,atB,cond_not]
 cases hM:iY m
 ·rfl
 cases g8 a
 ·rfl
 rw[au7,au7,atC,atC]
 refine eE (F:=fun n i=>ko.l4 N n m a i) (gS m a) (fun n i r hi hp hr=> ?_) (fun n=> ?_) N (by omega)
 ·unfold ko.l4 ko.cY
  rw[aK (by omega),atC,aP (by omega) (by omega),atC,atE,ar (x:=(i:Int)+1) (by omega) (by omega),ae,kk N hm hN,atB,aI]
  by_cases hP:gS m a i
  ·rw[atK hP,atL (show ¬((gR (a.getD i aC).2.1 m:Int)=0)from fun h=>hP h)];exact hr
  ·rw[atL hP,atK (show(gR (a.getD i aC).2.1 m:Int)=0 by unfold gS at hP;exact Decidable.not_not.1 hP)]
 ·unfold ko.l4 ko.cY
  rw[aH (by omega),atH]
end VM
end
section
namespace VM
open Go VM.F
theorem Ox(a b:de):qQ (.pair (.int .i64) (.pair (.int .u64) .unit)) a b=(aA a.1 b.1&&(aA a.2.1 b.2.1&&true)):=rfl
theorem R4(N:Nat){u v:Int}:R5 N (dk u) (dk v)=some (sk (u-v)):=by
 unfold R5
 rw[Ox]
 unfold dk
 dsimp only
 unfold sk
 rw[cg,aI,cg,au8,fh,fh]
 have hu:u=u/18446744073709551616*18446744073709551616+u%18446744073709551616:=by omega
 have hv:v=v/18446744073709551616*18446744073709551616+v%18446744073709551616:=by omega
 by_cases h1:u/18446744073709551616<v/18446744073709551616
 ·rw[atK h1];congr 1;split<;>(try split)<;>omega
 ·rw[atL h1]
  by_cases h2:u/18446744073709551616=v/18446744073709551616
  ·rw[atK h2,at1 h2,au7]
   by_cases h3:u%18446744073709551616<v%18446744073709551616
   ·rw[atK h3];congr 1;split<;>(try split)<;>omega
   ·rw[atL h3]
    by_cases h4:u%18446744073709551616=v%18446744073709551616
    ·rw[at1 h4,atC];congr 1;split<;>(try split)<;>omega
    ·rw[at6 h4,atH];congr 1;split<;>(try split)<;>omega
  ·rw[atL h2,at6 h2,avY,atH];congr 1;split<;>(try split)<;>omega
theorem IE:dk 0=bR:=rfl
theorem u5(N:Nat){u:Int}:Zo N (dk u)=some (sk u):=by
 unfold Zo
 rw[←IE,R4,atB,awp]
end VM
end
section
namespace VM
open Go VM.F
def eO(r:cE):Int:=r.2.2.1
def aD(x:Int):Prop:= -9223372036854775808≤x∧x<9223372036854775808
def eF(l:aj):Prop:= ∀x∈l,aD (eO x)
theorem vX{l:aj}(h:eF l)(i:Nat):aD (eO (l.getD i aZ)):=by
 by_cases hi:i<l.length
 ·rw[atD,atI hi];exact h _ (aun hi)
 ·rw[atD,aul (by omega)];exact⟨by decide,by decide⟩
theorem Oy{ws:List Int}(h: ∀x∈ws,aD x): -(9223372036854775808*(ws.length:Int))≤ws.sum∧ws.sum≤9223372036854775808*(ws.length:Int):=J9 ws h
theorem BQ{ws:List Int}(h: ∀x∈ws,aD x)(hl:ws.length≤1000000):eM ws.sum:=by
 have:=Oy h
 unfold eM;omega
theorem LM{ws:List Int}(h: ∀x∈ws,aD x): ∀x∈ws,eM x:=fun x hx=>by
 have:=h x hx
 unfold aD at this;unfold eM;omega
theorem C4(N:Nat){ws:List Int}(h: ∀x∈ws,aD x)(hl:ws.length≤1000000)(hN:1000000<N):jA N (ws.map dk)=some (dk ws.sum,true):=by
 rw[C0 N (LM h) hl hN]
 unfold Iu
 rw[atK (BQ h hl)]
def fZ(l:aj):Int:=if ed l then(l.map eO).sum else 0
theorem IF(N:Nat){l:aj}(hq:eF l)(hl:l.length≤100000)(hN:2000000≤N):wZ.l5 N N bR [] l (l.length:Int) 0=some (dk (l.map eO).sum):=by
 have:=pQ l aZ (fun n i ws=>wZ.l5 N n bR (ws.map dk) l (l.length:Int) i) (fun t ws=>some (dk (ws++t.map eO).sum)) (fun i (ws:List Int)=>ws.length=i∧ ∀x∈ws,aD x)
  (fun n i ws hi hI hr=> ?_) (fun n ws hI=> ?_) l.length N 0 [] (by omega) (by omega) (by omega) ⟨rfl,fun x hx=>nomatch hx⟩
 ·simpa using this
 ·unfold wZ.l5 wZ.dr
  have qM:=vX hq i
  have gA:=qM
  unfold aD eO at gA
  rw[aK (by omega),atC,aP (by omega) (by omega),atC,atE,rB N gA.1 gA.2,atB,bF (by rw[aud,atG];omega),atC,ar (by omega) (by omega),ae]
  have:=hr (ws++[eO (l.getD i aZ)]) ⟨by rw[atJ,hI.1];rfl,fun x hx=>by
   rcases atU.1 hx with hx|hx
   ·exact hI.2 x hx
   ·rw[at2.1 hx];exact qM⟩
  rw[aus]at this
  refine this.trans ?_
  rw[at7,atV];rfl
 ·unfold wZ.l5 wZ.dr
  rw[aH (by omega),atH,C4 N hI.2 (by omega) (by omega),atB,avl,auh]
theorem Oz(N:Nat){l:aj}(hq:eF l)(hl:l.length≤100000)(hN:2000000≤N):wZ N l=some (dk (fZ l)):=by
 unfold wZ wZ.b fZ
 rw[C2 N hl (by omega),atB,cond_not,IF N hq hl hN]
 cases ed l<;>rfl
theorem Fm(N:Nat){l:aj}(hq:eF l)(hl:l.length≤100000)(hN:4000000≤N):kY.l5 N N l (bH 0) (bH 0) 0=some (bH (l.map eO).sum):=by
 have:=pQ l aZ (fun n i ws=>kY.l5 N n l (bH 0) (bH ws.sum) i) (fun t ws=>some (bH (ws++t.map eO).sum)) (fun i (ws:List Int)=>ws.length=i∧ ∀x∈ws,aD x)
  (fun n i ws hi hI hr=> ?_) (fun n ws hI=> ?_) l.length N 0 [] (by omega) (by omega) (by omega) ⟨rfl,fun x hx=>nomatch hx⟩
 ·simpa using this
 ·unfold kY.l5 kY.dr
  have qM:=vX hq i
  have gA:=qM
  unfold aD eO at gA
  have hb:=Oy hI.2
  rw[hI.1]at hb
  rw[aK (by omega),atC,aP (by omega) (by omega),atC,atE,dd N (by omega) gA.1 gA.2,atB,iz N (by omega) ((CZ (n:=i) (by omega) hb.1 hb.2).mono (by omega)) ((Fit.i64 gA.1 gA.2).mono (by omega)),atB,ar (by omega) (by omega),ae]
  have:=hr (ws++[eO (l.getD i aZ)]) ⟨by rw[atJ,hI.1];rfl,fun x hx=>by
   rcases atU.1 hx with hx|hx
   ·exact hI.2 x hx
   ·rw[at2.1 hx];exact qM⟩
  rw[avQ,aue,au9,auK]at this
  refine this.trans ?_
  rw[at7,atV];rfl
 ·unfold kY.l5 kY.dr
  rw[aH (by omega),atH,avl,auh]
theorem LN(N:Nat){l:aj}(hq:eF l)(hl:l.length≤100000)(hN:4000000≤N):kY N l=some (bH (fZ l)):=by
 unfold kY kY.b fZ
 rw[zf N hl (by omega),atB,cond_not]
 have:=Fm N hq hl hN
 rw[kg]at this
 rw[this]
 cases ed l
 ·rw[atH];exact avh some kg.symm
 ·rfl
end VM
end
section
namespace VM
open Go VM.F
def dB(inst:Int):aj→List Int
 |[]=>[]
 |x::t=>if x.2.1=inst then eO x::dB inst t else dB inst t
theorem eP(inst:Int)(x:cE)(t:aj):dB inst (x::t)=if x.2.1=inst then eO x::dB inst t else dB inst t:=rfl
theorem LO(N:Nat){l:aj}(hq:eF l)(hl:l.length≤100000)(hN:2000000≤N)(inst:Int):kZ.l5 N N inst bR [] l (l.length:Int) 0=some (dk (dB inst l).sum):=by
 have:=pQ l aZ (fun n i ws=>kZ.l5 N n inst bR (ws.map dk) l (l.length:Int) i) (fun t ws=>some (dk (ws++dB inst t).sum)) (fun i (ws:List Int)=>ws.length≤i∧ ∀x∈ws,aD x)
  (fun n i ws hi hI hr=> ?_) (fun n ws hI=> ?_) l.length N 0 [] (by omega) (by omega) (by omega) ⟨atP _,fun x hx=>nomatch hx⟩
 ·simpa using this
 ·unfold kZ.l5 kZ.dr
  have qM:=vX hq i
  have gA:=qM
  unfold aD eO at gA
  rw[aK (by omega),atC,aP (by omega) (by omega),atC,atE,rB N gA.1 gA.2,atB,bF (by rw[aud,atG];omega),atC,ar (by omega) (by omega),ae,aI,eP]
  split
  ·have:=hr (ws++[eO (l.getD i aZ)]) ⟨by rw[atJ,atG];omega,fun x hx=>by
    rcases atU.1 hx with hx|hx
    ·exact hI.2 x hx
    ·rw[at2.1 hx];exact qM⟩
   rw[aus]at this
   refine this.trans ?_
   rw[atV];rfl
  ·exact hr ws ⟨by omega,hI.2⟩
 ·unfold kZ.l5 kZ.dr
  rw[aH (by omega),atH,C4 N hI.2 (by omega) (by omega),atB]
  show _=some (dk (ws++[]).sum)
  rw[auh]
def sm(l:aj)(inst:Int):Int:=if cP l then(dB inst l).sum else 0
theorem R6(N:Nat){l:aj}(hq:eF l)(hl:l.length≤100000)(hN:2000000≤N)(inst:Int):kZ N l inst=some (dk (sm l inst)):=by
 unfold kZ kZ.b sm
 rw[zg N hl (by omega),atB,cond_not,LO N hq hl hN]
 cases cP l<;>rfl
theorem IG(N:Nat){l:aj}(hq:eF l)(hl:l.length≤100000)(hN:4000000≤N)(inst:Int):ld.l5 N N l inst (bH 0) (bH 0) 0=some (bH (dB inst l).sum):=by
 have:=pQ l aZ (fun n i ws=>ld.l5 N n l inst (bH 0) (bH ws.sum) i) (fun t ws=>some (bH (ws++dB inst t).sum)) (fun i (ws:List Int)=>ws.length≤i∧ ∀x∈ws,aD x)
  (fun n i ws hi hI hr=> ?_) (fun n ws hI=> ?_) l.length N 0 [] (by omega) (by omega) (by omega) ⟨atP _,fun x hx=>nomatch hx⟩
 ·simpa using this
 ·unfold ld.l5 ld.dr
  have qM:=vX hq i
  have gA:=qM
  unfold aD eO at gA
  have hb:=Oy hI.2
  rw[aK (by omega),atC,aP (by omega) (by omega),atC,atC,atE,dd N (by omega) gA.1 gA.2,atB,iz N (by omega) ((CZ (n:=ws.length) (by omega) hb.1 hb.2).mono (by omega)) ((Fit.i64 gA.1 gA.2).mono (by omega)),atB,ar (by omega) (by omega),ae,aI,eP]
  split
  ·have:=hr (ws++[eO (l.getD i aZ)]) ⟨by rw[atJ,atG];omega,fun x hx=>by
    rcases atU.1 hx with hx|hx
    ·exact hI.2 x hx
    ·rw[at2.1 hx];exact qM⟩
   rw[avQ,aue,au9,auK]at this
   refine this.trans ?_
   rw[atV];rfl
  ·exact hr ws ⟨by omega,hI.2⟩
 ·unfold ld.l5 ld.dr
  rw[aH (by omega),atH]
  show _=some (bH (ws++[]).sum)
  rw[auh]
theorem Fo(N:Nat){l:aj}(hq:eF l)(hl:l.length≤100000)(hN:4000000≤N)(inst:Int):ld N l inst=some (bH (sm l inst)):=by
 unfold ld ld.b sm
 rw[mF N hl (by omega),atB,cond_not]
 have:=IG N hq hl hN inst
 rw[kg]at this
 rw[this]
 cases cP l
 ·rw[atH];exact avh some kg.symm
 ·rfl
def rD(l:aj)(i:Nat):Prop:=fa (sm l (i:Int)) 0
instance(l:aj):DecidablePred (rD l):=fun i=>by unfold rD;infer_instance
def iO:Nat:=6
def rE(l:aj):Bool:=decide (∀j,j<iO→rD l j)&&cP l
theorem lf{x:Int}:sk x=0↔x=0:=by unfold sk;split<;>(try split)<;>omega
theorem R7(N:Nat){l:aj}(hq:eF l)(hl:l.length≤100000)(hN:2000000≤N):xI N l=some (rE l):=by
 unfold xI xI.b
 refine eE (len:=iO) (F:=fun n i=>xI.l2 N n l i) (rD l) (fun n i r hi hp hr=> ?_) (fun n=> ?_) N (by unfold iO;omega)
 ·unfold xI.l2 xI.dP
  unfold iO at hi
  rw[aK (by omega),atC,R6 N hq hl hN,atB,u5,atB,cond_not,aI,ar (by omega) (by omega),ae,hr]
  by_cases hP:rD l i
  ·rw[atK hP,atK (lf.2 hP)]
  ·rw[atL hP,atL (fun h=>hP (lf.1 h))]
 ·unfold xI.l2 xI.dP
  rw[aH (by unfold iO;omega),atH,zg N hl (by omega),atB]
theorem OA(N:Nat){l:aj}(hq:eF l)(hl:l.length≤100000)(hN:4000000≤N):lL N l=some (rE l):=by
 unfold lL lL.b
 refine eE (len:=iO) (F:=fun n i=>lL.l2 N n l i) (rD l) (fun n i r hi hp hr=> ?_) (fun n=> ?_) N (by unfold iO;omega)
 ·unfold lL.l2 lL.dP
  unfold iO at hi
  rw[aK (by omega),atC,Fo N hq hl hN,atB,pN,atB,cond_not,aI,ar (by omega) (by omega),ae,hr]
  by_cases hP:rD l i
  ·rw[atK hP,atK (lf.2 hP)]
  ·rw[atL hP,atL (fun h=>hP (lf.1 h))]
 ·unfold lL.l2 lL.dP
  rw[aH (by unfold iO;omega),atH,mF N hl (by omega),atB]
end VM
end
section
namespace VM
open Go VM.F
def ga(m:ax)(a:ay)(l:aj)(i:Nat):Prop:=
 (fa (l.getD i aZ).1 5→(eu a (l.getD i aZ).2.1).2=true)∧(fa (l.getD i aZ).1 6∨fa (l.getD i aZ).1 7→ ¬fa (eN m (l.getD i aZ).2.1) 0)
instance(m:ax)(a:ay)(l:aj):DecidablePred (ga m a l):=fun i=>by unfold ga;infer_instance
theorem IH(N:Nat)(b:ag)(hl:b.2.1.length≤100000)(hN:200000≤N)(id:Int):F82 N b id=some (eu b.2.1 id).2:=by
 unfold F82
 rw[R2 N hl hN,atB]
theorem LP{k:Int}{f:Bool}{z:Int}{r:Option Bool}:cond (aA k 5) (cond (!f) (some false) r) (cond (aA k 6) (cond (aA z 0) (some false) r) (cond (aA k 7) (cond (aA z 0) (some false) r) r))=
  if(fa k 5→f=true)∧(fa k 6∨fa k 7→ ¬fa z 0)then r else some false:=by
 unfold fa
 rw[aI,aI,aI,aI,cond_not]
 by_cases h5:k=5
 ·have h6: ¬(k=6):=by omega
  have h7: ¬(k=7):=by omega
  cases f<;>simp[h5,h6,h7]
 ·by_cases h6:k=6
  ·by_cases hz:z=0<;>simp[h5,h6,hz]
  ·by_cases h7:k=7
   ·by_cases hz:z=0<;>simp[h5,h6,h7,hz]
   ·simp[h5,h6,h7]
theorem Ba(N:Nat)(hN:200000≤N)(c:aa)(b:ag)(hm:b.1.length≤100000)(ha:b.2.1.length≤100000)(hl:b.2.2.1.length≤100000){e:Bool}
  (he:iq.sL N N c b b.2.2.2.1 (b.2.2.2.1.length:Int) 0=some e):iq.l4 N N c b b.2.2.1 (b.2.2.1.length:Int) 0=some (decide (∀j,j<b.2.2.1.length→ga b.1 b.2.1 b.2.2.1 j)&&e):=by
 refine eE (F:=fun n i=>iq.l4 N n c b b.2.2.1 (b.2.2.1.length:Int) i) (ga b.1 b.2.1 b.2.2.1) (fun n i r hi hp hr=> ?_) (fun n=> ?_) N (by omega)
 ·unfold iq.l4 iq.cY
  rw[aK (by omega),atC,aP (by omega) (by omega),atC,atE,ar (x:=(i:Int)+1) (by omega) (by omega),ae,hr]
  simp only[IH N b ha hN,vV N hm hN,atB]
  rw[LP]
  rfl
 ·unfold iq.l4 iq.cY
  rw[aH (by omega),atH];exact he
def LR(a b:Int):Prop:=a<b
instance(a b:Int):Decidable (LR a b):=by unfold LR;infer_instance
def fG(c:aa)(a:ay)(l:aj)(i:Nat):Prop:=
 (fa (l.getD i aZ).1 0∨(eu a (l.getD i aZ).1).2=true)∧LR (l.getD i aZ).2.1 c.1.length
instance(c:aa)(a:ay)(l:aj):DecidablePred (fG c a l):=fun i=>by unfold fG;infer_instance
theorem OB{k x n:Int}{f:Bool}{r:Option Bool}:cond (!aA k 0) (cond (!f) (some false) (cond (bX n x) (some false) r)) (cond (bX n x) (some false) r)=if(fa k 0∨f=true)∧LR x n then r else some false:=by
 unfold fa LR
 rw[cond_not,aI,bO,cond_not]
 by_cases h0:k=0
 ·by_cases hx:n≤x
  ·have: ¬x<n:=by omega
   simp[h0,hx,this]
  ·have:x<n:=by omega
   simp[h0,hx,this]
 ·by_cases hx:n≤x
  ·have: ¬x<n:=by omega
   cases f<;>simp[h0,hx,this]
  ·have:x<n:=by omega
   cases f<;>simp[h0,hx,this]
theorem C5(N:Nat)(hN:200000≤N)(c:aa)(b:ag)(ha:b.2.1.length≤100000)(hl:b.2.2.2.1.length≤100000){e:Bool}
  (he:iq.sM N N c b b.2.2.2.2.2.1 (b.2.2.2.2.2.1.length:Int) 0=some e):iq.sL N N c b b.2.2.2.1 (b.2.2.2.1.length:Int) 0=some (decide (∀j,j<b.2.2.2.1.length→fG c b.2.1 b.2.2.2.1 j)&&e):=by
 refine eE (F:=fun n i=>iq.sL N n c b b.2.2.2.1 (b.2.2.2.1.length:Int) i) (fG c b.2.1 b.2.2.2.1) (fun n i r hi hp hr=> ?_) (fun n=> ?_) N (by omega)
 ·unfold iq.sL iq.rF
  rw[aK (by omega),atC,aP (by omega) (by omega),atC,atE,ar (x:=(i:Int)+1) (by omega) (by omega),ae,hr]
  simp only[IH N b ha hN,atB]
  rw[OB]
  rfl
 ·unfold iq.sL iq.rF
  rw[aH (by omega),atH];exact he
end VM
end
section
namespace VM
open Go VM.F
def oj(l:List Int)(i:Nat):Prop:=1≤l.getD i 0∧l.getD i 0≤1000000000000
instance(l:List Int):DecidablePred (oj l):=fun i=>by unfold oj;infer_instance
def gB(l:List Int):Bool:=decide (∀j,j<l.length→oj l j)
theorem Zp(N:Nat)(p:Int):F84 N p=some (!decide (1≤p∧p≤1000000000000)):=by
 unfold F84
 rw[BP,atB]
theorem zl(N:Nat){l:List Int}(hl:l.length≤100000): ∀(m n i:Nat),l.length-i≤m→m<n→i≤l.length→(∀j,j<i→oj l j)→
  ∃r,nK.l2 N n l () (l.length:Int) (i:Int)=some r∧(bX 0 r= !gB l)
 |m,0,i,_,hn,_,_=>by omega
 |m,n+1,i,hm,hn,hi,hp=>by
  unfold nK.l2 nK.dP
  by_cases h:i<l.length
  ·rw[aK (by omega),atC,aP (by omega) (by omega),atC,atE,Zp,atB,cond_not,dy]
   by_cases hP:oj l i
   ·have hP':=hP
    unfold oj at hP'
    rw[atK hP',ar (by omega) (by omega)]
    exact zl N hl (m-1) n (i+1) (by omega) (by omega) (by omega) (fun j hj=>by
     by_cases tx:j=i
     ·subst tx;exact hP
     ·exact hp j (by omega))
   ·have hP':=hP
    unfold oj at hP'
    rw[atL hP']
    refine⟨_,rfl,?_⟩
    rw[dK (by omega)]
    unfold gB
    rw[at6 (fun h'=>hP (h' i h))];rfl
  ·rw[aH (by omega),atH]
   refine⟨_,rfl,?_⟩
   rw[dL (by omega)]
   unfold gB
   rw[at1 (fun j hj=>hp j (by omega))];rfl
theorem LS(N:Nat){l:List Int}(hl:l.length≤100000)(hN:200000≤N):F83 N l ()=some (!gB l):=by
 unfold F83 nK nK.b
 obtain⟨r,e,h⟩:=zl N hl l.length N 0 (by omega) (by omega) (by omega) (fun j hj=>absurd hj (by omega))
 rw[show((0:Nat):Int)=0 from rfl]at e
 rw[e,atB,h]
def me(c:aa)(a:ay)(l:a6)(i:Nat):Prop:=
 (eu a (l.getD i eD).2.1).2=true∧LR (l.getD i eD).2.2.1 c.1.length
instance(c:aa)(a:ay)(l:a6):DecidablePred (me c a l):=fun i=>by unfold me;infer_instance
theorem zm{x n:Int}{f:Bool}{r:Option Bool}:cond (!f) (some false) (cond (bX n x) (some false) r)=if f=true∧LR x n then r else some false:=by
 unfold LR
 rw[bO,cond_not]
 by_cases hx:n≤x
 ·have: ¬x<n:=by omega
  cases f<;>simp[hx,this]
 ·have:x<n:=by omega
  cases f<;>simp[hx,this]
theorem C6(N:Nat)(hN:200000≤N)(c:aa)(b:ag)(ha:b.2.1.length≤100000)(hl:b.2.2.2.2.2.1.length≤100000)(hp:b.2.2.2.2.1.length≤100000):
  iq.sM N N c b b.2.2.2.2.2.1 (b.2.2.2.2.2.1.length:Int) 0=some (decide (∀j,j<b.2.2.2.2.2.1.length→me c b.2.1 b.2.2.2.2.2.1 j)&&gB b.2.2.2.2.1):=by
 refine eE (F:=fun n i=>iq.sM N n c b b.2.2.2.2.2.1 (b.2.2.2.2.2.1.length:Int) i) (me c b.2.1 b.2.2.2.2.2.1) (fun n i r hi JI hr=> ?_) (fun n=> ?_) N (by omega)
 ·unfold iq.sM iq.rG
  rw[aK (by omega),atC,aP (by omega) (by omega),atC,atE,ar (x:=(i:Int)+1) (by omega) (by omega),ae,hr]
  simp only[IH N b ha hN,atB]
  rw[zm]
  rfl
 ·unfold iq.sM iq.rG
  rw[aH (by omega),atH,LS N hp hN,atB,Bool.not_not]
def cV(c:aa)(b:ag):Bool:=
 fV c&&(rC b.1 b.2.1&&(ed b.2.2.1&&(decide (fa (fZ b.2.2.1) 0)&&(rE b.2.2.2.1&&(jC b.2.2.2.2.2.1&&(decide (fa b.2.2.2.2.1.length c.1.length)&&
  (decide (∀j,j<b.2.2.1.length→ga b.1 b.2.1 b.2.2.1 j)&&(decide (∀j,j<b.2.2.2.1.length→fG c b.2.1 b.2.2.2.1 j)&&(decide (∀j,j<b.2.2.2.2.2.1.length→me c b.2.1 b.2.2.2.2.2.1 j)&&gB b.2.2.2.2.1)))))))))
structure tG(b:ag):Prop where
 m:b.1.length≤100000
 a:b.2.1.length≤100000
 r:b.2.2.1.length≤100000
 s:b.2.2.2.1.length≤100000
 p:b.2.2.2.2.1.length≤100000
 o:b.2.2.2.2.2.1.length≤100000
 qr:eF b.2.2.1
 qs:eF b.2.2.2.1
theorem lh{x:Bool}{r:Option Bool}{y:Bool}(h:r=some y):cond (!x) (some false) r=some (x&&y):=by subst h;cases x<;>rfl
theorem Kc(N:Nat)(hN:4000000≤N){c:aa}{b:ag}(w:tG b):iq N c b=some (cV c b):=by
 unfold iq iq.b cV
 rw[C1 N (by omega),atB]
 refine lh ?_
 rw[R3 N w.m w.a (by omega),atB]
 refine lh ?_
 rw[C2 N w.r (by omega),atB]
 refine lh ?_
 rw[Oz N w.qr w.r (by omega),atB,u5,atB]
 have e0:aA (sk (fZ b.2.2.1)) 0=decide (fa (fZ b.2.2.1) 0):=by rw[fh,avj];exact lf
 rw[e0]
 refine lh ?_
 rw[R7 N w.qs w.s (by omega),atB]
 refine lh ?_
 rw[LG N w.o (by omega),atB]
 refine lh ?_
 rw[fh]
 refine lh ?_
 exact Ba N (by omega) c b w.m w.a w.r (C5 N (by omega) c b w.a w.s (C6 N (by omega) c b w.a w.o w.p))
end VM
end
section
namespace VM
open Go VM.F
theorem u6(N:Nat)(b:ag)(hl:b.2.1.length≤100000)(hN:200000≤N)(id:Int):C7 N b id=some ((eu b.2.1 id).2||decide (fa id 0)):=by
 unfold C7
 rw[Fl N hl hN,atB,fh]
 cases(eu b.2.1 id).2<;>rfl
theorem II{k:Int}{f:Bool}{z:Int}{r:Option Bool}:cond (aA k 5) (cond (!f) (some false) (cond (aA k 6) (cond (aA z 0) (some false) r) (cond (aA k 7) (cond (aA z 0) (some false) r) r))) (cond (aA k 6) (cond (aA z 0) (some false) r) (cond (aA k 7) (cond (aA z 0) (some false) r) r))=
  if(fa k 5→f=true)∧(fa k 6∨fa k 7→ ¬fa z 0)then r else some false:=by
 unfold fa
 rw[aI,aI,aI,aI,cond_not]
 by_cases h5:k=5
 ·have h6: ¬(k=6):=by omega
  have h7: ¬(k=7):=by omega
  cases f<;>simp[h5,h6,h7]
 ·by_cases h6:k=6
  ·by_cases hz:z=0<;>simp[h5,h6,hz]
  ·by_cases h7:k=7
   ·by_cases hz:z=0<;>simp[h5,h6,h7,hz]
   ·simp[h5,h6,h7]
theorem Bb(N:Nat)(hN:200000≤N)(c:aa)(b:ag)(ha:b.2.1.length≤100000)(hl:b.2.2.2.2.2.1.length≤100000)(ho:jC b.2.2.2.2.2.1=true):
  bI.sM N N c b 0=some (decide (∀j,j<b.2.2.2.2.2.1.length→me c b.2.1 b.2.2.2.2.2.1 j)&&true):=by
 refine eE (F:=fun n i=>bI.sM N n c b i) (me c b.2.1 b.2.2.2.2.2.1) (fun n i r hi JI hr=> ?_) (fun n=> ?_) N (by omega)
 ·unfold bI.sM bI.rG
  unfold jC at ho
  rw[atW,auH]at ho
  have h1:=(ho.1 i hi).1
  unfold pg tF at h1
  have h2:decide (fa (b.2.2.2.2.2.1.getD i eD).2.1 0)=false:=at6 (by unfold fa;omega)
  rw[aK (by omega),atC,aP (by omega) (by omega),atC,atE,ar (x:=(i:Int)+1) (by omega) (by omega),ae,hr]
  simp only[u6 N b ha hN,atB,atC]
  rw[h2,av6,zm]
  rfl
 ·unfold bI.sM bI.rG
  rw[aH (by omega),atH]
theorem xJ(N:Nat)(hN:200000≤N)(c:aa)(b:ag)(hl:b.2.2.2.2.1.length≤100000){e:Bool}(he:bI.sM N N c b 0=some e):
  bI.R8 N N c b 0=some (gB b.2.2.2.2.1&&e):=by
 refine eE (F:=fun n i=>bI.R8 N n c b i) (oj b.2.2.2.2.1) (fun n i r hi JI hr=> ?_) (fun n=> ?_) N (by omega)
 ·unfold bI.R8 bI.R9
  rw[aK (by omega),atC,aP (by omega) (by omega),atC,atE,ar (x:=(i:Int)+1) (by omega) (by omega),ae,hr,jb,atB,cond_not,dy]
  rfl
 ·unfold bI.R8 bI.R9
  rw[aH (by omega),atH];exact he
theorem Bc(N:Nat)(hN:200000≤N)(c:aa)(b:ag)(ha:b.2.1.length≤100000)(hl:b.2.2.2.1.length≤100000){e:Bool}(he:bI.R8 N N c b 0=some e):
  bI.nE N N c b 0=some (decide (∀j,j<b.2.2.2.1.length→fG c b.2.1 b.2.2.2.1 j)&&e):=by
 refine eE (F:=fun n i=>bI.nE N n c b i) (fG c b.2.1 b.2.2.2.1) (fun n i r hi JI hr=> ?_) (fun n=> ?_) N (by omega)
 ·unfold bI.nE bI.mf
  rw[aK (by omega),atC,aP (by omega) (by omega),atC,atE,ar (x:=(i:Int)+1) (by omega) (by omega),ae,hr]
  simp only[u6 N b ha hN,atB,atC]
  rw[zm]
  have OC:((((eu b.2.1 (b.2.2.2.1.getD i aZ).1).2||decide (fa (b.2.2.2.1.getD i aZ).1 0))=true)∧LR (b.2.2.2.1.getD i aZ).2.1 c.1.length)↔fG c b.2.1 b.2.2.2.1 i:=by
   unfold fG
   rw[avf,auH]
   exact⟨fun h=>⟨h.1.symm,h.2⟩,fun h=>⟨h.1.symm,h.2⟩⟩
  by_cases hP:fG c b.2.1 b.2.2.2.1 i
  ·rw[atK hP,atK (OC.2 hP)]
  ·rw[atL hP,atL (fun h=>hP (OC.1 h))]
 ·unfold bI.nE bI.mf
  rw[aH (by omega),atH];exact he
theorem zn(N:Nat)(hN:200000≤N)(c:aa)(b:ag)(hm:b.1.length≤100000)(ha:b.2.1.length≤100000)(hl:b.2.2.1.length≤100000)(hk:ed b.2.2.1=true){e:Bool}
  (he:bI.nE N N c b 0=some e):bI.l6 N N c b 0=some (decide (∀j,j<b.2.2.1.length→ga b.1 b.2.1 b.2.2.1 j)&&e):=by
 refine eE (F:=fun n i=>bI.l6 N n c b i) (ga b.1 b.2.1 b.2.2.1) (fun n i r hi JI hr=> ?_) (fun n=> ?_) N (by omega)
 ·unfold bI.l6 bI.oX
  unfold ed at hk
  rw[au8,auH]at hk
  have h1:=(hk i hi).1
  rw[aK (by omega),atC,aP (by omega) (by omega),atC,atE,ar (x:=(i:Int)+1) (by omega) (by omega),ae,hr]
  simp only[u6 N b ha hN,zi N hm hN,atB]
  rw[II]
  have OC:((fa (b.2.2.1.getD i aZ).1 5→((eu b.2.1 (b.2.2.1.getD i aZ).2.1).2||decide (fa (b.2.2.1.getD i aZ).2.1 0))=true)∧(fa (b.2.2.1.getD i aZ).1 6∨fa (b.2.2.1.getD i aZ).1 7→ ¬fa (eN b.1 (b.2.2.1.getD i aZ).2.1) 0))↔ga b.1 b.2.1 b.2.2.1 i:=by
   unfold ga
   refine and_congr_left fun _=>imp_congr_right fun h5=> ?_
   rw[avf,auH]
   refine⟨fun h=>h.elim id fun h0=> ?_,.inl⟩
   unfold dA at h1;unfold fa at h5 h0;omega
  by_cases hP:ga b.1 b.2.1 b.2.2.1 i
  ·rw[atK hP,atK (OC.2 hP)]
  ·rw[atL hP,atL (fun h=>hP (OC.1 h))]
 ·unfold bI.l6 bI.oX
  rw[aH (by omega),atH];exact he
end VM
end
section
namespace VM
open Go VM.F
theorem kp{x:Bool}{r:Option Bool}{y:Bool}(h:x=true→r=some y):cond (!x) (some false) r=some (x&&y):=by
 cases x
 ·rfl
 ·exact h rfl
theorem OD(N:Nat)(hN:5000000≤N){c:aa}{b:ag}(w:tG b):bI N c b=some (cV c b):=by
 unfold bI bI.b
 rw[m0 N (by omega),atB]
 have e0:aA (sk (fZ b.2.2.1)) 0=decide (fa (fZ b.2.2.1) 0):=by rw[fh,avj];exact lf
 refine(kp fun _=> ?_).trans (avh some (?_:(fV c&&(rC b.1 b.2.1&&(ed b.2.2.1&&(rE b.2.2.2.1&&(jC b.2.2.2.2.2.1&&(decide (fa b.2.2.2.2.1.length c.1.length)&&(decide (fa (fZ b.2.2.1) 0)&&
  (decide (∀j,j<b.2.2.1.length→ga b.1 b.2.1 b.2.2.1 j)&&(decide (∀j,j<b.2.2.2.1.length→fG c b.2.1 b.2.2.2.1 j)&&(gB b.2.2.2.2.1&&(decide (∀j,j<b.2.2.2.2.2.1.length→me c b.2.1 b.2.2.2.2.2.1 j)&&true)))))))))))=cV c b))
 ·rw[zk N w.m w.a (by omega),atB]
  refine kp fun _=> ?_
  rw[zf N w.r (by omega),atB]
  refine kp fun hk=> ?_
  rw[OA N w.qs w.s (by omega),atB]
  refine kp fun _=> ?_
  rw[kj N w.o (by omega),atB]
  refine kp fun ho=> ?_
  rw[fh]
  refine kp fun _=> ?_
  rw[LN N w.qr w.r (by omega),atB,pN,atB,e0]
  refine kp fun _=> ?_
  exact zn N (by omega) c b w.m w.a w.r hk (Bc N (by omega) c b w.a w.s (xJ N (by omega) c b w.p (Bb N (by omega) c b w.a w.o ho)))
 ·unfold cV
  generalize fV c=x1,rC b.1 b.2.1=x2,ed b.2.2.1=x3,rE b.2.2.2.1=x4,jC b.2.2.2.2.2.1=x5,decide (fa b.2.2.2.2.1.length c.1.length)=x6,decide (fa (fZ b.2.2.1) 0)=x7,decide (∀j,j<b.2.2.1.length→ga b.1 b.2.1 b.2.2.1 j)=x8,decide (∀j,j<b.2.2.2.1.length→fG c b.2.1 b.2.2.2.1 j)=x9,gB b.2.2.2.2.1=aQ,decide (∀j,j<b.2.2.2.2.2.1.length→me c b.2.1 b.2.2.2.2.2.1 j)=aF
  rw[au8]
  cases x1<;>cases x2<;>cases x3<;>cases x4<;>cases x5<;>cases x6<;>cases x7<;>try rfl
  cases x8<;>cases x9<;>cases aQ<;>cases aF<;>rfl
end VM
end
section
namespace VM
open Go VM.F
def kq(a q n:Int)(i:Nat)(p:Int):Prop:=0≤a∧a<n∧q≠0∧uc q∧(0<i→p<a)
instance(a q n:Int)(i:Nat)(p:Int):Decidable (kq a q n i p):=by unfold kq;infer_instance
def jV(c:aa)(l:ax)(i:Nat):Prop:=kq (l.getD i bR).1 (l.getD i bR).2.1 c.1.length i (l.getD (i-1) bR).1
instance(c:aa)(l:ax):DecidablePred (jV c l):=fun i=>by unfold jV;infer_instance
def lM(c:aa)(l:ax):Bool:=decide (∀j,j<l.length→jV c l j)&&fV c
theorem Sa(N:Nat)(hN:200000≤N)(c:aa){l:ax}(hl:l.length≤100000):lj N c l=some (lM c l):=by
 unfold lj lj.b
 refine eE (F:=fun n i=>lj.l2 N n l c l (l.length:Int) i) (jV c l) (fun n i r hi hp hr=> ?_) (fun n=> ?_) N (by omega)
 ·unfold lj.l2 lj.dP
  rw[aK (by omega),atC,aP (by omega) (by omega),atC,atE,ar (x:=(i:Int)+1) (by omega) (by omega),ae,hr,oh,atB,cond_not,dy]
  by_cases h0:0<i
  ·have e:W .i64 ((i:Int)-1)=((i-1:Nat):Int):=by rw[ar (by omega) (by omega)];omega
   dsimp only
   rw[aK (x:=0) (y:=(i:Int)) (by omega),atC,e,atE,aP (by omega) (by omega),atC]
   simp only[cg,bO,aI]
   by_cases hP:jV c l i
   ·rw[atK hP];unfold jV kq at hP
    rw[atL (by omega),atL (by omega),atL hP.2.2.1,atK hP.2.2.2.1,atL (by omega)]
   ·rw[atL hP];unfold jV kq at hP
    have h2:=fun h1 h2 h3 h4 h5=>hP ⟨h1,h2,h3,h4,h5⟩
    repeat' split
    all_goals first|rfl|(exfalso;exact h2 (by omega) (by omega) (by assumption) (by assumption) (by omega))
  ·rw[aH (x:=0) (y:=(i:Int)) (by omega),atH]
   simp only[cg,bO,aI]
   by_cases hP:jV c l i
   ·rw[atK hP];unfold jV kq at hP
    rw[atL (by omega),atL (by omega),atL hP.2.2.1,atK hP.2.2.2.1]
   ·rw[atL hP];unfold jV kq at hP
    have h2:=fun h1 h2 h3 h4 h5=>hP ⟨h1,h2,h3,h4,h5⟩
    repeat' split
    all_goals first|rfl|(exfalso;exact h2 (by omega) (by omega) (by assumption) (by assumption) (by omega))
 ·unfold lj.l2 lj.dP
  rw[aH (by omega),atH,C1 N (by omega),atB]
end VM
end
section
namespace VM
open Go VM.F
theorem u7(N:Nat)(hN:200000≤N)(c:aa){l:ax}(hl:l.length≤100000):jE N c l=some (lM c l):=by
 unfold jE jE.b
 rw[m0 N (by omega),atB]
 have hsc:=eE (F:=fun n i=>jE.l4 N n l c i) (e:=true) (jV c l) (fun n i r hi hp hr=> ?_) (fun n=> ?_) N (show l.length<N by omega)
 ·rw[lh hsc];unfold lM
  rw[au8,Bool.and_comm]
 ·unfold jE.l4 jE.cY
  rw[aK (by omega),atC,aP (by omega) (by omega),atC,atE,ar (x:=(i:Int)+1) (by omega) (by omega),ae,hr]
  by_cases h0:0<i
  ·have e:W .i64 ((i:Int)-1)=((i-1:Nat):Int):=by rw[ar (by omega) (by omega)];omega
   dsimp only
   rw[aK (x:=0) (y:=(i:Int)) (by omega),e,atE,aP (i:=((i-1:Nat):Int)) (by omega) (by omega)]
   simp only[cg,bO,aI,atC]
   by_cases hP:jV c l i
   ·rw[atK hP];unfold jV kq at hP
    rw[atL (by omega),atL (by omega),atL hP.2.2.1,atL (show ¬((l.getD i bR).2.1:Int)= -9223372036854775808 from hP.2.2.2.1),atL (by omega)]
   ·rw[atL hP];unfold jV kq at hP
    have h2:=fun h1 h2 h3 h4 h5=>hP ⟨h1,h2,h3,h4,h5⟩
    repeat' split
    all_goals first|rfl|(exfalso;exact h2 (by omega) (by omega) (by assumption) (by assumption) (by omega))
  ·rw[aH (x:=0) (y:=(i:Int)) (by omega)]
   simp only[cg,bO,aI,atC,atH]
   by_cases hP:jV c l i
   ·rw[atK hP];unfold jV kq at hP
    rw[atL (by omega),atL (by omega),atL hP.2.2.1,atL (show ¬((l.getD i bR).2.1:Int)= -9223372036854775808 from hP.2.2.2.1)]
   ·rw[atL hP];unfold jV kq at hP
    have h2:=fun h1 h2 h3 h4 h5=>hP ⟨h1,h2,h3,h4,h5⟩
    repeat' split
    all_goals first|rfl|(exfalso;exact h2 (by omega) (by omega) (by assumption) (by assumption) (by omega))
 ·unfold jE.l4 jE.cY
  rw[aH (by omega),atH]
end VM
end
section
namespace VM
open Go VM.F
def vY(a b c d:Int):Prop:=(1≤a∧a≤1099511627776)∧(1≤b∧b≤1099511627776)∧(1≤c∧c≤12)∧(-1152921504606846976≤d∧d≤1152921504606846976)
instance(a b c d:Int):Decidable (vY a b c d):=by unfold vY;infer_instance
def qB(x:bn):Prop:=vY x.1 x.2.1 x.2.2.1 x.2.2.2.1
instance(x:bn):Decidable (qB x):=by unfold qB;infer_instance
theorem Zq(N:Nat)(x:bn):Sb N x=some (decide (qB x)):=by
 unfold Sb
 rw[iE x.2.2.2.1]
 repeat rw[dW]
 congr 1
 rw[ave,auH]
 unfold qB vY
 simp only[atW,avz]
 omega
theorem Kd(N:Nat)(x:bn):OE N x=some (decide (qB x)):=by
 unfold OE
 rw[iE x.2.2.2.1]
 repeat rw[dW]
 congr 1
 rw[ave,auH]
 unfold qB vY
 simp only[atW,avz]
 omega
end VM
end
section
namespace VM
open Go VM.F
def fB(m px:Int)(x:bn):Bool:=decide (fa x.2.2.1 m)&&decide (fa x.2.1 px)
theorem LV(N:Nat)(x:bn)(m px:Int):Sc N x m px=some (fB m px x):=by
 unfold Sc fB
 rw[fh x.2.1,uT]
 rfl
theorem zo(N:Nat){l:ay}(hl:l.length≤100000)(m px:Int): ∀(k n i:Nat),l.length-i≤k→k<n→i≤l.length→(∀x∈l.take i,fB m px x=false)→
  ∃r,nL.l2 N n l ((m,()),((px,()),())) (l.length:Int) (i:Int)=some r∧(bX 0 r=l.any (fB m px))
 |k,0,i,_,hn,_,_=>by omega
 |k,n+1,i,hm,hn,hi,hp=>by
  unfold nL.l2 nL.dP
  by_cases h:i<l.length
  ·have hg:l.getD i aC=l[i]:=by rw[atD,atI h];rfl
   rw[aK (by omega),atC,aP (by omega) (by omega),atC,atE,LV,atB]
   cases hb:fB m px (l.getD i aC)
   ·rw[atH,ar (by omega) (by omega)]
    refine zo N hl m px (k-1) n (i+1) (by omega) (by omega) (by omega) (fun x hx=> ?_)
    rw[awo h,atU]at hx
    rcases hx with hx|hx
    ·exact hp x hx
    ·rw[at2.1 hx,←hg];exact hb
   ·rw[atC]
    refine⟨_,rfl,?_⟩
    rw[dK (by omega)]
    exact(avZ.2 ⟨_,aun h,by rw[←hg];exact hb⟩).symm
  ·rw[aH (by omega),atH]
   refine⟨_,rfl,?_⟩
   rw[dL (by omega)]
   rw[aur (by omega)]at hp
   exact(List.any_eq_false.2 (fun x hx=>by rw[hp x hx];simp)).symm
theorem OF(N:Nat){l:ay}(hl:l.length≤100000)(hN:200000≤N)(m px:Int):OG N l m px=some (l.any (fB m px)):=by
 unfold OG Zr nL nL.b
 obtain⟨r,e,h⟩:=zo N hl m px l.length N 0 (by omega) (by omega) (by omega) (fun x hx=>by simp at hx)
 rw[show((0:Nat):Int)=0 from rfl]at e
 rw[e,atB,atB,h]
end VM
end
