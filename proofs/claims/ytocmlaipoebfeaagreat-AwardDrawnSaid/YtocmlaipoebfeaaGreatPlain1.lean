/- A part of the proof of AwardDrawn of layer 25: what the functions compute, in plain words. -/
import Derived.Test.YtocmlaipoebfeaaGreatPlain0
import Derived.Test.YtocmlaipoebfeaaGreatText
set_option linter.all false
section
namespace VM
open Go VM.F
theorem pf(N:Nat)(a lo hi:Int):w4 N a lo hi=some (decide (lo≤a∧a≤hi)):=by
 unfold w4
 rw[bH,iR]
 by_cases h:lo≤a
 ·rw[if_pos h];congr 1;rw[decide_eq_decide];omega
 ·rw[if_neg h,decide_eq_false (by omega)]
theorem AZ(N:Nat)(a lo hi:Int):Ah N a lo hi=some (decide (lo≤a∧a≤hi)):=pf N a lo hi
def pg(a b c d:Int):Prop:=(0≤a∧a≤3)∧(1≤b∧b≤1000000000000)∧(0≤c∧c≤1000000000)∧(0≤d∧d≤1000000000)
instance(a b c d:Int):Decidable (pg a b c d):=by unfold pg;infer_instance
def mJ(l:ay)(i:Nat):Prop:=pg (l.getD i aE).1 (l.getD i aE).2.1 (l.getD i aE).2.2.1 (l.getD i aE).2.2.2.1
instance(l:ay):DecidablePred (mJ l):=fun i=>by unfold mJ;infer_instance
def ph(a b c d e f:Int):Prop:=0≤a∧(0≤b∧b≤4)∧(0≤c∧c≤1000000)∧(0≤d∧d≤1000000)∧(1≤e∧e≤4611686018427387904)∧0≤f
instance(a b c d e f:Int):Decidable (ph a b c d e f):=by unfold ph;infer_instance
def pj(c:ae):Prop:=ph c.2.1 c.2.2.1 c.2.2.2.1 c.2.2.2.2.1 c.2.2.2.2.2.1 c.2.2.2.2.2.2.1
instance(c:ae):Decidable (pj c):=by unfold pj;infer_instance
def fZ(c:ae):Bool:=decide (1≤c.1.length∧c.1.length≤6)&&(decide (∀j,j<c.1.length→mJ c.1 j)&&decide (pj c))
theorem Ce(N:Nat)(hN:100≤N)(c:ae):vj N c=some (fZ c):=by
 unfold vj vj.b fZ
 rw[pf,Option.bind_some,cond_not,dw]
 by_cases hl:1≤c.1.length∧c.1.length≤6
 ·rw[if_pos (by omega),decide_eq_true hl,Bool.true_and]
  refine ep (F:=fun n i=>vj.l4 N n c c.1 (c.1.length:Int) i) (mJ c.1) (fun n i r hi hp hr=> ?_) (fun n=> ?_) N (by omega)
  ·unfold vj.l4 vj.ca
   rw[aH (by omega),cond_true,aJ (by omega) (by omega),cond_true,Int.toNat_natCast,aq (by omega) (by omega),aa]
   simp only[pf,Option.bind_some,cond_not,dw]
   by_cases hP:mJ c.1 i
   ·rw[if_pos hP];unfold mJ pg at hP
    repeat' split
    all_goals first|rfl|exact hr|omega
   ·rw[if_neg hP];unfold mJ pg at hP
    repeat' split
    all_goals first|rfl|exact hr|omega
  ·unfold vj.l4 vj.ca
   rw[aF (by omega),cond_false]
   simp only[pf,Option.bind_some,cond_not,dw,bH,iR]
   by_cases hP:pj c
   ·rw[decide_eq_true hP];unfold pj ph at hP
    repeat' split
    all_goals first|rfl|omega|(rw[decide_eq_true (by omega)])
   ·rw[decide_eq_false hP];unfold pj ph at hP
    repeat' split
    all_goals first|rfl|omega|(rw[decide_eq_false (by omega)])
 ·rw[if_neg (by omega),decide_eq_false hl,Bool.false_and]
theorem mK(N:Nat)(hN:100≤N)(c:ae):ij N c=some (fZ c):=by
 unfold ij ij.b fZ
 rw[bO,bO]
 by_cases hl:1≤c.1.length∧c.1.length≤6
 ·rw[if_neg (by omega),if_neg (by omega),decide_eq_true hl,Bool.true_and]
  refine ep (F:=fun n i=>ij.l4 N n c i) (mJ c.1) (fun n i r hi hp hr=> ?_) (fun n=> ?_) N (by omega)
  ·unfold ij.l4 ij.ca
   rw[aH (by omega),cond_true,aJ (by omega) (by omega),cond_true,Int.toNat_natCast,aq (by omega) (by omega),aa]
   simp only[AZ,Option.bind_some,cond_not,dw]
   by_cases hP:mJ c.1 i
   ·rw[if_pos hP];unfold mJ pg at hP
    repeat' split
    all_goals first|rfl|exact hr|omega
   ·rw[if_neg hP];unfold mJ pg at hP
    repeat' split
    all_goals first|rfl|exact hr|omega
  ·unfold ij.l4 ij.ca
   rw[aF (by omega),cond_false]
   simp only[AZ,Option.bind_some,cond_not,dw,bH,iR]
   by_cases hP:pj c
   ·rw[decide_eq_true hP];unfold pj ph at hP
    repeat' split
    all_goals first|rfl|omega|(rw[decide_eq_true (by omega)])
   ·rw[decide_eq_false hP];unfold pj ph at hP
    repeat' split
    all_goals first|rfl|omega|(rw[decide_eq_false (by omega)])
 ·rw[decide_eq_false hl,Bool.false_and]
  by_cases h:(c.1.length:Int)<1
  ·rw[if_pos h]
  ·rw[if_neg h,if_pos (by omega)]
def eT(a b:Int)(i:Nat)(c:Int):Prop:=1≤a∧a≤12∧1≤b∧b≤4∧(0<i→c<a)
instance(a b:Int)(i:Nat)(c:Int):Decidable (eT a b i c):=by unfold eT;infer_instance
def dx(m:ax)(i:Nat):Prop:=eT (m.getD i bP).1 (m.getD i bP).2.1 i (m.getD (i-1) bP).1
instance(m:ax):DecidablePred (dx m):=fun i=>by unfold dx;infer_instance
def iC(m:ax):Bool:=decide (∀j,j<m.length→dx m j)&&true
theorem yF(N:Nat){m:ax}(hl:m.length≤100000)(hN:200000≤N):ko N m=some (iC m):=by
 unfold ko ko.b
 refine ep (F:=fun n i=>ko.l2 N n m m (m.length:Int) i) (dx m) (fun n i r hi hp hr=> ?_) (fun n=> ?_) N (by omega)
 ·unfold ko.l2 ko.dI
  rw[aH (by omega),cond_true,aJ (by omega) (by omega),cond_true,Int.toNat_natCast,aq (x:=(i:Int)+1) (by omega) (by omega),aa]
  by_cases h0:0<i
  ·have e:W .i64 ((i:Int)-1)=((i-1:Nat):Int):=by rw[aq (by omega) (by omega)];omega
   dsimp only
   rw[aH (x:=0) (by omega),cond_true,e,Int.toNat_natCast,aJ (by omega) (by omega),cond_true]
   simp only[bO,bH]
   by_cases hP:dx m i
   ·rw[if_pos hP];unfold dx eT at hP
    repeat' split
    all_goals first|rfl|exact hr|omega
   ·rw[if_neg hP];unfold dx eT at hP
    repeat' split
    all_goals first|rfl|exact hr|omega
  ·rw[aF (x:=0) (by omega),cond_false]
   simp only[bO,bH]
   by_cases hP:dx m i
   ·rw[if_pos hP];unfold dx eT at hP
    repeat' split
    all_goals first|rfl|exact hr|omega
   ·rw[if_neg hP];unfold dx eT at hP
    repeat' split
    all_goals first|rfl|exact hr|omega
 ·unfold ko.l2 ko.dI
  rw[aF (by omega),cond_false]
theorem nP(N:Nat){m:ax}(hl:m.length≤100000)(hN:200000≤N):jt N m=some (iC m):=by
 unfold jt jt.b
 refine ep (F:=fun n i=>jt.l2 N n m i) (dx m) (fun n i r hi hp hr=> ?_) (fun n=> ?_) N (by omega)
 ·unfold jt.l2 jt.dI
  rw[aH (by omega),cond_true,aJ (by omega) (by omega),cond_true,Int.toNat_natCast,aq (x:=(i:Int)+1) (by omega) (by omega),aa]
  by_cases h0:0<i
  ·have e:W .i64 ((i:Int)-1)=((i-1:Nat):Int):=by rw[aq (by omega) (by omega)];omega
   dsimp only
   rw[aH (x:=0) (by omega),e,Int.toNat_natCast,aJ (i:=((i-1:Nat):Int)) (by omega) (by omega)]
   simp only[bO,bH,cond_true]
   by_cases hP:dx m i
   ·rw[if_pos hP];unfold dx eT at hP
    repeat' split
    all_goals first|rfl|exact hr|omega
   ·rw[if_neg hP];unfold dx eT at hP
    repeat' split
    all_goals first|rfl|exact hr|omega
  ·rw[aF (x:=0) (by omega)]
   simp only[bO,bH,cond_true,cond_false]
   by_cases hP:dx m i
   ·rw[if_pos hP];unfold dx eT at hP
    repeat' split
    all_goals first|rfl|exact hr|omega
   ·rw[if_neg hP];unfold dx eT at hP
    repeat' split
    all_goals first|rfl|exact hr|omega
 ·unfold jt.l2 jt.dI
  rw[aF (by omega),cond_false]
end VM
end
section
namespace VM
open Go VM.F
def ea(k n:Int):Prop:=(1≤k∧k≤4∧n=0)∨(k=5∧1≤n∧n≤24)∨(6≤k∧k≤7∧1≤n∧n≤12)
instance(k n:Int):Decidable (ea k n):=by unfold ea;infer_instance
theorem HB(N:Nat)(k n:Int):HC N k n=some (decide (ea k n)):=by
 unfold HC
 simp only[aB,bH]
 simp only[iR,eR]
 by_cases hP:ea k n
 ·rw[decide_eq_true hP];unfold ea at hP
  repeat' split
  all_goals first|rfl|omega|(rw[decide_eq_true (by omega)])
 ·rw[decide_eq_false hP];unfold ea at hP
  repeat' split
  all_goals first|rfl|omega|(rw[decide_eq_false (by omega)])
theorem QX(N:Nat)(k n:Int):HD N k n=some (decide (ea k n)):=by
 have:=HB N k n
 unfold HC at this
 unfold HD
 exact this
def iD(a b c d:Int):Prop:=a<c∨(a=c∧b<d)
instance(a b c d:Int):Decidable (iD a b c d):=by unfold iD;infer_instance
def vk(k n a b:Int):Int:=if k=a then n-b else k-a
def Ai(x:Int):Prop:= -1000000≤x∧x≤1000000
theorem yG(N:Nat){k n:Int}{r:cy}(h1:Ai k)(h2:Ai n)(h3:Ai r.1)(h4:Ai r.2.1):HE N k n r=some (vk k n r.1 r.2.1):=by
 unfold HE vk
 unfold Ai at*
 rw[cond_not,aB]
 split
 ·rw[aq (by omega) (by omega)]
 ·rw[aq (by omega) (by omega)]
theorem A0(N:Nat){k n:Int}{r:cy}(h1:Ai k)(h2:Ai n)(h3:Ai r.1)(h4:Ai r.2.1):KT N k n r=some (vk k n r.1 r.2.1):=yG N h1 h2 h3 h4
def ik(a b c:Int)(i:Nat)(d e:Int):Prop:=ea a b∧c≠0∧(0<i→iD d e a b)
instance(a b c:Int)(i:Nat)(d e:Int):Decidable (ik a b c i d e):=by unfold ik;infer_instance
def gW(l:aj)(i:Nat):Prop:=ik (l.getD i aW).1 (l.getD i aW).2.1 (l.getD i aW).2.2.1 i (l.getD (i-1) aW).1 (l.getD (i-1) aW).2.1
instance(l:aj):DecidablePred (gW l):=fun i=>by unfold gW;infer_instance
def eU(l:aj):Bool:=decide (∀j,j<l.length→gW l j)&&true
theorem Cg(N:Nat){l:aj}(hl:l.length≤100000)(hN:200000≤N):vl N l=some (eU l):=by
 unfold vl vl.b
 refine ep (F:=fun n i=>vl.l2 N n l l (l.length:Int) i) (gW l) (fun n i r hi hp hr=> ?_) (fun n=> ?_) N (by omega)
 ·unfold vl.l2 vl.dI
  rw[aH (by omega),cond_true,aJ (by omega) (by omega),cond_true,Int.toNat_natCast,aq (x:=(i:Int)+1) (by omega) (by omega),aa,HB,Option.bind_some,cond_not,dw]
  by_cases hK:ea (l.getD i aW).1 (l.getD i aW).2.1
  ·rw[if_pos hK]
   by_cases h0:0<i
   ·have hq:=hp (i-1) (by omega)
    have e:W .i64 ((i:Int)-1)=((i-1:Nat):Int):=by rw[aq (by omega) (by omega)];omega
    dsimp only
    rw[aH (x:=0) (by omega),cond_true,e,Int.toNat_natCast,aJ (by omega) (by omega),cond_true]
    unfold gW ik at hq
    have hq:=hq.1
    rw[yG N (by unfold ea at hK;unfold Ai;omega) (by unfold ea at hK;unfold Ai;omega) (by unfold ea at hq;unfold Ai;omega) (by unfold ea at hq;unfold Ai;omega),Option.bind_some,aB,bH]
    by_cases hP:gW l i
    ·rw[if_pos hP];unfold gW ik iD at hP;unfold vk
     have HF:=hP.2
     repeat' split
     all_goals first|rfl|exact hr|omega
    ·rw[if_neg hP];unfold gW ik iD at hP;unfold vk
     have HF:=fun h=>hP ⟨hK,h⟩
     repeat' split
     all_goals first|rfl|exact hr|omega|(exfalso;exact HF (by omega))
   ·rw[aF (x:=0) (by omega),cond_false,aB]
    by_cases hP:gW l i
    ·rw[if_pos hP];unfold gW ik at hP
     rw[if_neg hP.2.1];exact hr
    ·rw[if_neg hP];unfold gW ik at hP
     have HF:=fun h=>hP ⟨hK,h,fun h=>absurd h h0⟩
     split
     ·rfl
     ·exact absurd (by assumption) HF
  ·rw[if_neg hK,if_neg (fun h=>hK (by unfold gW ik at h;exact h.1))]
 ·unfold vl.l2 vl.dI
  rw[aF (by omega),cond_false]
theorem yH(N:Nat){l:aj}(hl:l.length≤100000)(hN:200000≤N):vm N l=some (eU l):=by
 unfold vm vm.b
 refine ep (F:=fun n i=>vm.l2 N n l i) (gW l) (fun n i r hi hp hr=> ?_) (fun n=> ?_) N (by omega)
 ·unfold vm.l2 vm.dI
  rw[aH (by omega),cond_true,aJ (by omega) (by omega),cond_true,Int.toNat_natCast,aq (x:=(i:Int)+1) (by omega) (by omega),aa,QX,Option.bind_some,cond_not,dw]
  by_cases hK:ea (l.getD i aW).1 (l.getD i aW).2.1
  ·rw[if_pos hK]
   by_cases h0:0<i
   ·have e:W .i64 ((i:Int)-1)=((i-1:Nat):Int):=by rw[aq (by omega) (by omega)];omega
    dsimp only
    rw[aH (x:=0) (by omega),e,Int.toNat_natCast,aJ (i:=((i-1:Nat):Int)) (by omega) (by omega)]
    simp only[bO,bH,aB,cond_true]
    by_cases hP:gW l i
    ·rw[if_pos hP];unfold gW ik iD at hP
     have HF:=hP.2
     repeat' split
     all_goals first|rfl|exact hr|omega
    ·rw[if_neg hP];unfold gW ik iD at hP
     have HF:=fun h=>hP ⟨hK,h⟩
     repeat' split
     all_goals first|rfl|exact hr|omega|(exfalso;exact HF (by omega))
   ·rw[aF (x:=0) (by omega)]
    simp only[bO,bH,aB,cond_true,cond_false]
    by_cases hP:gW l i
    ·rw[if_pos hP];unfold gW ik at hP
     rw[if_neg hP.2.1];exact hr
    ·rw[if_neg hP];unfold gW ik at hP
     have HF:=fun h=>hP ⟨hK,h,fun h=>absurd h h0⟩
     split
     ·rfl
     ·exact absurd (by assumption) HF
  ·rw[if_neg hK,if_neg (fun h=>hK (by unfold gW ik at h;exact h.1))];rfl
 ·unfold vm.l2 vm.dI
  rw[aF (by omega),cond_false]
end VM
end
section
namespace VM
open Go VM.F
def bU(a b:Int):Prop:=0≤a∧a≤24∧0≤b∧b<6
instance(a b:Int):Decidable (bU a b):=by unfold bU;infer_instance
theorem Jt(N:Nat)(a b:Int):ND N a b=some (decide (bU a b)):=by
 unfold ND
 simp only[bH]
 simp only[sr]
 by_cases hP:bU a b
 ·rw[decide_eq_true hP];unfold bU at hP
  repeat' split
  all_goals first|rfl|omega|(rw[decide_eq_true (by omega)])
 ·rw[decide_eq_false hP];unfold bU at hP
  repeat' split
  all_goals first|rfl|omega|(rw[decide_eq_false (by omega)])
def w5(q:Int):Prop:=q≠ -9223372036854775808
instance(q:Int):Decidable (w5 q):=by unfold w5;infer_instance
theorem nQ(N:Nat)(q:Int):HG N q=some (decide (w5 q)):=by
 unfold HG w5
 rw[eR]
 by_cases h:q= -9223372036854775808<;>simp[h]
def jc(a b c:Int)(i:Nat)(d e:Int):Prop:=bU a b∧c≠0∧w5 c∧(0<i→iD d e a b)
instance(a b c:Int)(i:Nat)(d e:Int):Decidable (jc a b c i d e):=by unfold jc;infer_instance
def iE(l:aj)(i:Nat):Prop:=jc (l.getD i aW).1 (l.getD i aW).2.1 (l.getD i aW).2.2.1 i (l.getD (i-1) aW).1 (l.getD (i-1) aW).2.1
instance(l:aj):DecidablePred (iE l):=fun i=>by unfold iE;infer_instance
def dt(l:aj):Bool:=decide (∀j,j<l.length→iE l j)&&true
theorem yI(N:Nat){l:aj}(hl:l.length≤100000)(hN:200000≤N):jJ N l=some (dt l):=by
 unfold jJ jJ.b
 refine ep (F:=fun n i=>jJ.l2 N n l l (l.length:Int) i) (iE l) (fun n i r hi hp hr=> ?_) (fun n=> ?_) N (by omega)
 ·unfold jJ.l2 jJ.dI
  rw[aH (by omega),cond_true,aJ (by omega) (by omega),cond_true,Int.toNat_natCast,aq (x:=(i:Int)+1) (by omega) (by omega),aa,Jt,Option.bind_some,cond_not,dw,nQ,Option.bind_some,cond_not,dw]
  by_cases hK:bU (l.getD i aW).1 (l.getD i aW).2.1
  ·rw[if_pos hK]
   by_cases h0:0<i
   ·have hq:=hp (i-1) (by omega)
    have e:W .i64 ((i:Int)-1)=((i-1:Nat):Int):=by rw[aq (by omega) (by omega)];omega
    dsimp only
    rw[aH (x:=0) (by omega),cond_true,e,Int.toNat_natCast,aJ (by omega) (by omega),cond_true]
    unfold iE jc at hq
    have hq:=hq.1
    rw[A0 N (by unfold bU at hK;unfold Ai;omega) (by unfold bU at hK;unfold Ai;omega) (by unfold bU at hq;unfold Ai;omega) (by unfold bU at hq;unfold Ai;omega),Option.bind_some,aB,bH]
    by_cases hP:iE l i
    ·rw[if_pos hP];unfold iE jc iD at hP;unfold vk
     obtain⟨_,hP1,HF,hP3⟩:=hP
     rw[if_pos HF]
     repeat' split
     all_goals first|rfl|exact hr|omega
    ·rw[if_neg hP];unfold iE jc iD at hP;unfold vk
     have HF:=fun h1 h2 h3=>hP ⟨hK,h1,h2,h3⟩
     repeat' split
     all_goals first|rfl|exact hr|(exfalso;exact HF (by assumption) (by assumption) (by omega))|omega
   ·rw[aF (x:=0) (by omega),cond_false,aB]
    by_cases hP:iE l i
    ·rw[if_pos hP];unfold iE jc at hP
     rw[if_neg hP.2.1,if_pos hP.2.2.1];exact hr
    ·rw[if_neg hP];unfold iE jc at hP
     have HF:=fun h1 h2=>hP ⟨hK,h1,h2,fun h=>absurd h h0⟩
     split
     ·rfl
     ·split
      ·exact(HF (by assumption) (by assumption)).elim
      ·rfl
  ·rw[if_neg hK,if_neg (fun h=>hK (by unfold iE jc at h;exact h.1))]
 ·unfold jJ.l2 jJ.dI
  rw[aF (by omega),cond_false]
theorem mh(N:Nat){l:aj}(hl:l.length≤100000)(hN:200000≤N):th N l=some (dt l):=by
 unfold th th.b
 refine ep (F:=fun n i=>th.l2 N n l i) (iE l) (fun n i r hi hp hr=> ?_) (fun n=> ?_) N (by omega)
 ·unfold th.l2 th.dI
  rw[aH (by omega),cond_true,aJ (by omega) (by omega),cond_true,Int.toNat_natCast,aq (x:=(i:Int)+1) (by omega) (by omega),aa]
  by_cases h0:0<i
  ·have e:W .i64 ((i:Int)-1)=((i-1:Nat):Int):=by rw[aq (by omega) (by omega)];omega
   dsimp only
   rw[aH (x:=0) (y:=(i:Int)) (by omega),e,Int.toNat_natCast,aJ (i:=((i-1:Nat):Int)) (by omega) (by omega)]
   simp only[bO,bH,aB,cond_true]
   by_cases hP:iE l i
   ·rw[if_pos hP];unfold iE jc iD w5 bU at hP
    repeat' split
    all_goals first|rfl|exact hr|omega
   ·rw[if_neg hP];unfold iE jc iD w5 bU at hP
    repeat' split
    all_goals first|rfl|exact hr|omega|(exfalso;exact hP (by omega))
  ·rw[aF (x:=0) (y:=(i:Int)) (by omega)]
   simp only[bO,bH,aB,cond_true,cond_false]
   by_cases hP:iE l i
   ·rw[if_pos hP];unfold iE jc iD w5 bU at hP
    repeat' split
    all_goals first|rfl|exact hr|omega
   ·rw[if_neg hP];unfold iE jc iD w5 bU at hP
    repeat' split
    all_goals first|rfl|exact hr|omega|(exfalso;exact hP (by omega))
 ·unfold th.l2 th.dI
  rw[aF (by omega),cond_false]
theorem eb(a b:Int)(y:Bool):cond (bV a b) (some y) (some false)=some (decide (a≤b)&&y):=by
 rw[bH];by_cases h:a≤b<;>simp[h]
theorem yJ(a b:Int)(y:Bool):cond (aM a b) (some y) (some false)=some (decide (a<b)&&y):=by
 rw[bO];by_cases h:a<b<;>simp[h]
theorem tY(a b:Int)(y:Bool):cond (az a b) (some y) (some false)=some (decide (a=b)&&y):=by
 rw[aB];by_cases h:a=b<;>simp[h]
theorem vn(a b:Int)(y z:Bool):cond (az a b) (some y) (some z)=some ((decide (a=b)&&y)||(!decide (a=b)&&z)):=by
 rw[aB];by_cases h:a=b<;>simp[h]
def sN(a b c d e f:Int):Prop:=(1≤a∧a≤1099511627776)∧(1≤b∧b≤24)∧(0≤c∧c<6)∧(d=1∨d=2)∧(1≤e∧e≤1000000000)∧(1≤f∧f≤1000000000000)
instance(a b c d e f:Int):Decidable (sN a b c d e f):=by unfold sN;infer_instance
def qK(o:fD):Prop:=sN o.1 o.2.1 o.2.2.1 o.2.2.2.1 o.2.2.2.2.1 o.2.2.2.2.2.1
instance(o:fD):Decidable (qK o):=by unfold qK;infer_instance
theorem Yh(N:Nat)(o:fD):QY N o=some (decide (qK o)):=by
 unfold QY
 rw[iR o.2.2.2.2.2.1]
 rw[eb,eb,eb,tY,vn,yJ,eb,eb,eb,eb,eb]
 congr 1
 rw[Bool.eq_iff_iff,decide_eq_true_iff]
 unfold qK sN
 simp only[Bool.and_eq_true,Bool.or_eq_true,Bool.not_eq_true',decide_eq_true_eq,decide_eq_false_iff_not]
 omega
end VM
end
section
namespace VM
open Go VM.F
theorem A2(N:Nat)(p:Int):F85 N p=some (decide (1≤p∧p≤1000000000000)):=by
 unfold F85
 rw[iR p,eb];congr 1
 rw[Bool.eq_iff_iff];simp only[Bool.and_eq_true,decide_eq_true_eq]
theorem iF(N:Nat)(p:Int):w6 N p=some (decide (1≤p∧p≤1000000000000)):=A2 N p
theorem xB(N:Nat)(o:fD):HH N o=some (decide (qK o)):=by
 unfold HH
 rw[iF,Option.bind_some]
 repeat (first|rw[eb]|rw[yJ]|rw[tY]|rw[vn])
 congr 1
 rw[Bool.eq_iff_iff,decide_eq_true_iff]
 unfold qK sN
 simp only[Bool.and_eq_true,Bool.or_eq_true,Bool.not_eq_true',decide_eq_true_eq,decide_eq_false_iff_not]
 omega
def mi(i:Nat)(a b:Int):Prop:=0<i→a<b
instance(i:Nat)(a b:Int):Decidable (mi i a b):=by unfold mi;infer_instance
def pk(l:aZ)(i:Nat):Prop:=qK (l.getD i eg)∧mi i (l.getD (i-1) eg).1 (l.getD i eg).1
instance(l:aZ):DecidablePred (pk l):=fun i=>by unfold pk;infer_instance
def jd(l:aZ):Bool:=decide (∀j,j<l.length→pk l j)&&decide (l.length≤32)
theorem KU(N:Nat){l:aZ}(hl:l.length≤100000)(hN:200000≤N):w7 N l=some (jd l):=by
 unfold w7 w7.b
 refine ep (F:=fun n i=>w7.l2 N n l l (l.length:Int) i) (pk l) (fun n i r hi hp hr=> ?_) (fun n=> ?_) N (by omega)
 ·unfold w7.l2 w7.dI
  rw[aH (by omega),cond_true,aJ (by omega) (by omega),cond_true,Int.toNat_natCast,aq (x:=(i:Int)+1) (by omega) (by omega),aa,Yh,Option.bind_some,cond_not,dw]
  by_cases hK:qK (l.getD i eg)
  ·rw[if_pos hK]
   by_cases h0:0<i
   ·have e:W .i64 ((i:Int)-1)=((i-1:Nat):Int):=by rw[aq (by omega) (by omega)];omega
    dsimp only
    rw[aH (x:=0) (by omega),cond_true,e,Int.toNat_natCast,aJ (by omega) (by omega),cond_true,bH]
    by_cases hP:pk l i
    ·rw[if_pos hP,if_neg (by have h2:=hP.2;unfold mi at h2;omega)];exact hr
    ·rw[if_neg hP,if_pos]
     have h2: ¬mi i (l.getD (i-1) eg).1 (l.getD i eg).1:=fun h=>hP ⟨hK,h⟩
     unfold mi at h2
     omega
   ·rw[aF (x:=0) (by omega),cond_false,if_pos ⟨hK,fun h=>absurd h h0⟩];exact hr
  ·rw[if_neg hK,if_neg (fun h=>hK h.1)]
 ·unfold w7.l2 w7.dI
  rw[aF (by omega),cond_false,iR]
  congr 1;rw[decide_eq_decide];omega
theorem jK(N:Nat){l:aZ}(hl:l.length≤100000)(hN:200000≤N):iL N l=some (jd l):=by
 unfold iL iL.b
 by_cases h32:32<l.length
 ·rw[aH (by omega),cond_true];unfold jd
  rw[decide_eq_false (p:=l.length≤32) (by omega),Bool.and_false]
 rw[aF (by omega),cond_false]
 have:=ep (F:=fun n i=>iL.l4 N n l i) (e:=true) (pk l) (fun n i r hi hp hr=> ?_) (fun n=> ?_) N (show l.length<N by omega)
 ·refine Eq.trans this ?_
  unfold jd
  rw[decide_eq_true (p:=l.length≤32) (by omega)]
 ·unfold iL.l4 iL.ca
  rw[aH (by omega),cond_true,aJ (by omega) (by omega),cond_true,Int.toNat_natCast,aq (x:=(i:Int)+1) (by omega) (by omega),aa,xB,Option.bind_some,cond_not,dw]
  by_cases hK:qK (l.getD i eg)
  ·rw[if_pos hK]
   by_cases h0:0<i
   ·have e:W .i64 ((i:Int)-1)=((i-1:Nat):Int):=by rw[aq (by omega) (by omega)];omega
    dsimp only
    rw[aH (x:=0) (by omega),cond_true,cond_true,e,Int.toNat_natCast,aJ (by omega) (by omega),cond_true,bH]
    by_cases hP:pk l i
    ·rw[if_pos hP,if_neg (by have h2:=hP.2;unfold mi at h2;omega)];exact hr
    ·rw[if_neg hP,if_pos]
     have h2: ¬mi i (l.getD (i-1) eg).1 (l.getD i eg).1:=fun h=>hP ⟨hK,h⟩
     unfold mi at h2
     omega
   ·rw[aF (x:=0) (by omega),cond_false,if_pos ⟨hK,fun h=>absurd h h0⟩];exact hr
  ·rw[if_neg hK,if_neg (fun h=>hK h.1)]
 ·unfold iL.l4 iL.ca
  rw[aF (by omega),cond_false]
end VM
end
section
namespace VM
open Go VM.F
def gu(id:Int):ax→Int
 |[]=>0
 |x::t=>if x.1=id then x.2.1 else gu id t
def tZ(id:Int):ay→bs×Bool
 |[]=>(aE,false)
 |x::t=>if x.1=id then(x,true)else tZ id t
def il(id:Int):ay→Int
 |[]=>0
 |x::t=>if x.2.1=id then(if x.2.2.1=1 then x.1 else il id t)else il id t
theorem ua(id:Int)(x:KV)(t:ax):gu id (x::t)=if x.1=id then x.2.1 else gu id t:=rfl
theorem sO(id:Int)(x:bs)(t:ay):tZ id (x::t)=if x.1=id then(x,true)else tZ id t:=rfl
theorem nR(id:Int)(x:bs)(t:ay):il id (x::t)=if x.2.1=id then(if x.2.2.1=1 then x.1 else il id t)else il id t:=rfl
theorem Eo(N:Nat){m:ax}(hl:m.length≤100000)(hN:200000≤N)(id:Int):ub.l4 N N id m (m.length:Int) 0=some (gu id m):=by
 refine se m bP (fun n i=>ub.l4 N n id m (m.length:Int) i) (fun l=>some (gu id l)) (fun n i hi hr=> ?_) (fun n=> ?_) N (by omega)
 ·unfold ub.l4 ub.ca
  rw[aH (by omega),cond_true,aJ (by omega) (by omega),cond_true,Int.toNat_natCast,aq (x:=(i:Int)+1) (by omega) (by omega),aa,hr,aB]
  rw[ua]
  split<;>rfl
 ·unfold ub.l4 ub.ca
  rw[aF (by omega),cond_false];rfl
theorem jL(N:Nat){m:ax}(hl:m.length≤100000)(hN:200000≤N)(id:Int):iM N m id=some (gu id m):=by
 unfold iM iM.b
 refine se m bP (fun n i=>iM.l2 N n m id i) (fun l=>some (gu id l)) (fun n i hi hr=> ?_) (fun n=> ?_) N (by omega)
 ·unfold iM.l2 iM.dI
  rw[aH (by omega),cond_true,aJ (by omega) (by omega),cond_true,cond_true,Int.toNat_natCast,aq (x:=(i:Int)+1) (by omega) (by omega),aa,hr,aB]
  rw[ua]
  split<;>rfl
 ·unfold iM.l2 iM.dI
  rw[aF (by omega),cond_false];rfl
def ga(m:ax)(id:Int):Int:=if iC m then gu id m else 0
theorem vo(N:Nat){m:ax}(hl:m.length≤100000)(hN:200000≤N)(id:Int):ub N m id=some (ga m id):=by
 unfold ub ub.b ga
 rw[yF N hl hN,Option.bind_some,cond_not,Eo N hl hN]
 cases iC m<;>rfl
theorem sP(N:Nat){m:ax}(hl:m.length≤100000)(hN:200000≤N)(id:Int):uc N m id=some (ga m id):=by
 unfold uc ga
 rw[nP N hl hN,Option.bind_some,cond_not,jL N hl hN]
 cases iC m<;>rfl
theorem KW(N:Nat){m:ay}(hl:m.length≤100000)(hN:200000≤N)(id:Int):kp.l4 N N id aE m (m.length:Int) 0=some (tZ id m):=by
 refine se m aE (fun n i=>kp.l4 N n id aE m (m.length:Int) i) (fun l=>some (tZ id l)) (fun n i hi hr=> ?_) (fun n=> ?_) N (by omega)
 ·unfold kp.l4 kp.ca
  rw[aH (by omega),cond_true,aJ (by omega) (by omega),cond_true,Int.toNat_natCast,aq (x:=(i:Int)+1) (by omega) (by omega),aa,hr,aB]
  rw[sO]
  split<;>rfl
 ·unfold kp.l4 kp.ca
  rw[aF (by omega),cond_false];rfl
theorem ud(N:Nat){m:ay}(hl:m.length≤100000)(hN:200000≤N)(id:Int):ju N m id=some (tZ id m):=by
 unfold ju ju.b
 refine se m aE (fun n i=>ju.l2 N n m id aE i) (fun l=>some (tZ id l)) (fun n i hi hr=> ?_) (fun n=> ?_) N (by omega)
 ·unfold ju.l2 ju.dI
  rw[aH (by omega),cond_true,aJ (by omega) (by omega),cond_true,cond_true,Int.toNat_natCast,aq (x:=(i:Int)+1) (by omega) (by omega),aa,hr,aB]
  rw[sO]
  split<;>rfl
 ·unfold ju.l2 ju.dI
  rw[aF (by omega),cond_false];rfl
theorem HI(N:Nat){m:ay}(hl:m.length≤100000)(hN:200000≤N)(id:Int):wk.l4 N N id m (m.length:Int) 0=some (il id m):=by
 refine se m aE (fun n i=>wk.l4 N n id m (m.length:Int) i) (fun l=>some (il id l)) (fun n i hi hr=> ?_) (fun n=> ?_) N (by omega)
 ·unfold wk.l4 wk.ca
  rw[aH (by omega),cond_true,aJ (by omega) (by omega),cond_true,Int.toNat_natCast,aq (x:=(i:Int)+1) (by omega) (by omega),aa,hr,aB,aB]
  rw[nR]
  split
  ·split<;>rfl
  ·rfl
 ·unfold wk.l4 wk.ca
  rw[aF (by omega),cond_false];rfl
theorem Ep(N:Nat){m:ay}(hl:m.length≤100000)(hN:200000≤N)(id:Int):sQ.l4 N N m id 0=some (il id m):=by
 refine se m aE (fun n i=>sQ.l4 N n m id i) (fun l=>some (il id l)) (fun n i hi hr=> ?_) (fun n=> ?_) N (by omega)
 ·unfold sQ.l4 sQ.ca
  rw[aH (by omega),cond_true,aJ (by omega) (by omega)]
  simp only[cond_true]
  rw[Int.toNat_natCast,aq (x:=(i:Int)+1) (by omega) (by omega),aa,hr,aB,aB]
  rw[nR]
  split
  ·split<;>rfl
  ·rfl
 ·unfold sQ.l4 sQ.ca
  rw[aF (by omega),cond_false];rfl
end VM
end
section
namespace VM
open Go VM.F
def fM(a b:Int):Prop:=a=b
instance(a b:Int):Decidable (fM a b):=by unfold fM;infer_instance
def sf(l:ay)(k:Nat)(m:Int):Prop:=fM (l.getD k aE).2.2.1 1∧fM (l.getD k aE).2.1 m
instance(l:ay)(k:Nat)(m:Int):Decidable (sf l k m):=by unfold sf;infer_instance
def g6(l:ay)(i:Nat)(m:Int):Bool:=(List.range i).any fun k=>decide (sf l k m)
theorem Er{l:ay}{i:Nat}{m:Int}:g6 l i m=true↔ ∃k,k<i∧sf l k m:=by
 unfold g6
 rw[List.any_eq_true]
 simp only[List.mem_range,decide_eq_true_iff]
theorem pn(l:ay)(i:Nat)(m:Int):g6 l (i+1) m=(g6 l i m||decide (sf l i m)):=by
 unfold g6
 rw[List.range_succ,List.any_append];simp
def je(a b c d:Int):Prop:=(1≤a∧a≤24)∧(1≤b∧b≤12)∧(c=1∨c=2)∧(0≤d∧d≤1000000000000)
instance(a b c d:Int):Decidable (je a b c d):=by unfold je;infer_instance
def gb(l:ay)(i:Nat):Prop:= ¬(fM (l.getD i aE).2.2.1 1∧g6 l i (l.getD i aE).2.1=true)
instance(l:ay)(i:Nat):Decidable (gb l i):=by unfold gb;infer_instance
def ue(l:ay)(i:Nat):Prop:=je (l.getD i aE).1 (l.getD i aE).2.1 (l.getD i aE).2.2.1 (l.getD i aE).2.2.2.1∧mi i (l.getD (i-1) aE).1 (l.getD i aE).1∧gb l i
instance(l:ay):DecidablePred (ue l):=fun i=>by unfold ue;infer_instance
def im(l:ay):Bool:=decide (∀j,j<l.length→ue l j)&&true
def di(l:ay)(i:Nat):List Bool:=(List.range 13).map fun(m:Nat)=>g6 l i (m:Int)
theorem KX{l:ay}{i:Nat}{b:Int}(h0:0≤b)(h1:b<13):(di l i).getD b.toNat false=g6 l i b:=by
 unfold di
 rw[List.getD_eq_getElem?_getD,List.getElem?_map,List.getElem?_range (by omega)]
 show g6 l i ((b.toNat:Nat):Int)=_
 rw[Int.toNat_of_nonneg h0]
theorem Es{l:ay}{i:Nat}(h: ¬fM (l.getD i aE).2.2.1 1):di l (i+1)=di l i:=by
 unfold di
 refine List.map_congr_left fun m _=> ?_
 rw[pn,decide_eq_false (fun h'=>h h'.1),Bool.or_false]
theorem HJ{l:ay}{i:Nat}(h:fM (l.getD i aE).2.2.1 1)(h0:(0:Int)≤(l.getD i aE).2.1):(di l i).set ((l.getD i aE).2.1:Int).toNat true=di l (i+1):=by
 refine List.ext_getElem (by unfold di;simp) fun k h1 h2=> ?_
 unfold di at*
 rw[List.getElem_set]
 simp only[List.getElem_map,List.getElem_range]
 rw[pn]
 by_cases hk:((l.getD i aE).2.1:Int).toNat=k
 ·rw[if_pos hk,decide_eq_true (show sf l i (k:Int)from⟨h,by unfold fM;omega⟩),Bool.or_true]
 ·rw[if_neg hk,decide_eq_false (fun h':sf l i (k:Int)=>hk (by have:=h'.2;unfold fM at this;omega)),Bool.or_false]
theorem Ch(N:Nat){l:ay}(hl:l.length≤100000)(hN:200000≤N):iq N l=some (im l):=by
 unfold iq iq.b
 have h0:(List.replicate 13 false:List Bool)=di l 0:=by unfold di g6;rfl
 rw[h0]
 have:=ep (F:=fun n i=>iq.l3 N n l (di l i.toNat) l (l.length:Int) i) (e:=true) (ue l) (fun n i r hi hp hr=> ?_) (fun n=> ?_) N (show l.length<N by omega)
 ·exact this
 ·simp only[Int.toNat_natCast]at hr ⊢
  unfold iq.l3 iq.ig
  rw[aH (by omega),cond_true,aJ (by omega) (by omega),cond_true]
  simp only[Int.toNat_natCast]
  rw[aq (x:=(i:Int)+1) (by omega) (by omega),aa]
  by_cases hF:je (l.getD i aE).1 (l.getD i aE).2.1 (l.getD i aE).2.2.1 (l.getD i aE).2.2.2.1
  ·have Ju:=hF
   unfold je at Ju
   have hT:cond (az (l.getD i aE).2.2.1 1) (cond (aN (l.getD i aE).2.1 13) (cond (List.getD (di l i) (l.getD i aE).2.1.toNat false) (some false) (cond (aN (l.getD i aE).2.1 13) (iq.l3 N n l (List.set (di l i) (l.getD i aE).2.1.toNat true) l (l.length:Int) ((i+1:Nat):Int)) none)) none) (iq.l3 N n l (di l i) l (l.length:Int) ((i+1:Nat):Int))=if gb l i then r else some false:=by
    rw[aB]
    by_cases hk:fM (l.getD i aE).2.2.1 1
    ·have zZ:=hk
     unfold fM at zZ
     rw[if_pos zZ,aJ (by omega) (by omega),cond_true,cond_true,KX (by omega) (by omega),HJ hk (by omega),hr]
     by_cases ho:g6 l i (l.getD i aE).2.1=true
     ·have qf: ¬gb l i:=fun h=>h ⟨hk,ho⟩
      rw[if_neg qf,ho];rfl
     ·have qf:gb l i:=fun h=>ho h.2
      rw[if_pos qf,Bool.eq_false_iff.2 ho];rfl
    ·have zZ:=hk
     unfold fM at zZ
     rw[if_neg zZ,if_pos (show gb l i from fun h=>hk h.1),←Es hk,hr]
   have hP:ue l i↔mi i (l.getD (i-1) aE).1 (l.getD i aE).1∧gb l i:=⟨fun h=>h.2,fun h=>⟨hF,h⟩⟩
   have hD:(if ue l i then r else some false)=if mi i (l.getD (i-1) aE).1 (l.getD i aE).1 then(if gb l i then r else some false)else some false:=by
    by_cases h1:mi i (l.getD (i-1) aE).1 (l.getD i aE).1<;>by_cases h2:gb l i<;>simp[hP,h1,h2]
   rw[hD]
   rw[hT]
   rw[aF (by omega),cond_false,aF (by omega),cond_false,aF (by omega),cond_false,aF (by omega),cond_false,aF (x:=(l.getD i aE).2.2.2.1) (by omega),aF (x:=1000000000000) (by omega)]
   simp only[cond_false]
   have hm: ∀{α:Type} (x:α) (y:α),cond (!az (l.getD i aE).2.2.1 1) (cond (!az (l.getD i aE).2.2.1 2) y x) x=x:=by
    intro α x y
    rcases Ju.2.2.1 with h|h
    ·rw[ct h];rfl
    ·rw[ct (y:=2) h];cases az (l.getD i aE).2.2.1 1<;>rfl
   rw[hm]
   by_cases h0:0<i
   ·have e:W .i64 ((i:Int)-1)=((i-1:Nat):Int):=by rw[aq (by omega) (by omega)];omega
    rw[aH (x:=0) (by omega),cond_true,e,Int.toNat_natCast,aJ (by omega) (by omega),cond_true,bH]
    by_cases h1:mi i (l.getD (i-1) aE).1 (l.getD i aE).1
    ·rw[if_pos h1,if_neg (by unfold mi at h1;omega)]
    ·rw[if_neg h1,if_pos (by unfold mi at h1;omega)]
   ·rw[aF (x:=0) (by omega),cond_false,if_pos (show mi i (l.getD (i-1) aE).1 (l.getD i aE).1 from fun h=>absurd h h0)]
  ·rw[if_neg (fun h=>hF h.1)]
   unfold je at hF
   generalize cond (az (l.getD i aE).2.2.1 1) (cond (aN (l.getD i aE).2.1 13) (cond (List.getD (di l i) (l.getD i aE).2.1.toNat false) (some false) (cond (aN (l.getD i aE).2.1 13) (iq.l3 N n l (List.set (di l i) (l.getD i aE).2.1.toNat true) l (l.length:Int) ((i+1:Nat):Int)) none)) none) (iq.l3 N n l (di l i) l (l.length:Int) ((i+1:Nat):Int))=t
   generalize cond (aM 0 (i:Int)) _ _=u
   simp only[cond_not,bO,aB]
   repeat' split
   all_goals first|rfl|omega
 ·unfold iq.l3 iq.ig
  rw[aF (by omega),cond_false]
end VM
end
section
namespace VM
open Go VM.F
theorem vp(N:Nat)(K:ay→Int→Option Bool){l:ay}(hl:l.length≤100000){i:Nat}(hi:i<l.length): ∀(m n k:Nat),i-k≤m→m<n→k≤i→(fM (l.getD i aE).2.2.1 1→g6 l k (l.getD i aE).2.1=false)→
  g7.l8 N K n l (i:Int) (l.getD i aE) (k:Int)=if gb l i then K l ((i+1:Nat):Int)else some false
 |m,0,k,_,hn,_,_=>by omega
 |m,n+1,k,hm,hn,hk,h=>by
  unfold g7.l8 g7.xC
  by_cases ye:k<i
  ·rw[aH (by omega),cond_true,aJ (by omega) (by omega),cond_true,cond_true,Int.toNat_natCast,aq (x:=(k:Int)+1) (by omega) (by omega),aa,aB,aB,aB]
   by_cases h1:fM (l.getD i aE).2.2.1 1
   ·have la:=h1
    unfold fM at la
    rw[if_pos la]
    by_cases h2:sf l k (l.getD i aE).2.1
    ·have sb:=h2
     unfold sf fM at sb
     have qf: ¬gb l i:=fun h3=>h3 ⟨h1,Er.2 ⟨k,ye,h2⟩⟩
     rw[if_pos sb.1,if_pos sb.2,if_neg qf]
    ·have qb:=vp N K hl hi (m-1) n (k+1) (by omega) (by omega) (by omega) (fun _=>by rw[pn,h h1,decide_eq_false h2];rfl)
     split
     ·split
      ·rename_i h3 h4
       exact absurd (show sf l k (l.getD i aE).2.1 from⟨h3,h4⟩) h2
      ·exact qb
     ·exact qb
   ·have la:=h1
    unfold fM at la
    rw[if_neg la]
    exact vp N K hl hi (m-1) n (k+1) (by omega) (by omega) (by omega) (fun h=>absurd h h1)
  ·have:k=i:=by omega
   subst this
   have qf:gb l k:=fun h3=>by rw[h h3.1]at h3;exact nomatch h3.2
   rw[aF (by omega),cond_false,if_pos qf,aq (x:=(k:Int)+1) (by omega) (by omega)];rfl
set_option maxHeartbeats 2000000 in
theorem ug(N:Nat){l:ay}(hl:l.length≤100000)(hN:200000≤N):g7 N l=some (im l):=by
 unfold g7 g7.b
 refine ep (F:=fun n i=>g7.l2 N n l i) (ue l) (fun n i r hi hp hr=> ?_) (fun n=> ?_) N (by omega)
 ·unfold g7.l2 g7.dI
  have hT:g7.j7 N (g7.l2 N n) l (i:Int) (l.getD i aE)=if gb l i then r else some false:=by
   unfold g7.j7 g7.Yi
   have:=vp N (g7.l2 N n) hl hi i N 0 (by omega) (by omega) (by omega) (fun _=>rfl)
   rw[hr]at this
   exact this
  rw[aH (by omega),cond_true,aJ (by omega) (by omega),cond_true]
  simp only[Int.toNat_natCast]
  rw[hT]
  have hD:(if ue l i then r else some false)=if je (l.getD i aE).1 (l.getD i aE).2.1 (l.getD i aE).2.2.1 (l.getD i aE).2.2.2.1∧mi i (l.getD (i-1) aE).1 (l.getD i aE).1 then(if gb l i then r else some false)else some false:=by
   unfold ue
   by_cases h1:mi i (l.getD (i-1) aE).1 (l.getD i aE).1<;>by_cases h2:gb l i<;>by_cases h3:je (l.getD i aE).1 (l.getD i aE).2.1 (l.getD i aE).2.2.1 (l.getD i aE).2.2.2.1<;>simp[h1,h2,h3]
  rw[hD]
  generalize (if gb l i then r else some false)=t
  by_cases h0:0<i
  ·have e:W .i64 ((i:Int)-1)=((i-1:Nat):Int):=by rw[aq (by omega) (by omega)];omega
   rw[aH (x:=0) (y:=(i:Int)) (by omega),e]
   simp only[cond_true,Int.toNat_natCast]
   rw[aJ (i:=((i-1:Nat):Int)) (by omega) (by omega)]
   simp only[cond_not,bO,bH,aB,cond_true]
   by_cases hP:je (l.getD i aE).1 (l.getD i aE).2.1 (l.getD i aE).2.2.1 (l.getD i aE).2.2.2.1∧mi i (l.getD (i-1) aE).1 (l.getD i aE).1
   ·rw[if_pos hP];unfold je mi at hP
    repeat' split
    all_goals first|rfl|omega
   ·rw[if_neg hP];unfold je mi at hP
    repeat' split
    all_goals first|rfl|omega
  ·rw[aF (x:=0) (y:=(i:Int)) (by omega)]
   simp only[cond_not,bO,bH,aB,cond_true,cond_false]
   by_cases hP:je (l.getD i aE).1 (l.getD i aE).2.1 (l.getD i aE).2.2.1 (l.getD i aE).2.2.2.1∧mi i (l.getD (i-1) aE).1 (l.getD i aE).1
   ·rw[if_pos hP];unfold je mi at hP
    repeat' split
    all_goals first|rfl|omega
   ·rw[if_neg hP];unfold je mi at hP
    repeat' split
    all_goals first|rfl|omega
 ·unfold g7.l2 g7.dI
  rw[aF (by omega),cond_false]
end VM
end
section
namespace VM
open Go VM.F
def jf(a:ay)(id:Int):bs×Bool:=if im a then tZ id a else(aE,false)
theorem QZ(N:Nat){a:ay}(hl:a.length≤100000)(hN:200000≤N)(id:Int):kp N a id=some (jf a id):=by
 unfold kp kp.b jf
 rw[Ch N hl hN,Option.bind_some,cond_not,KW N hl hN]
 cases im a<;>rfl
theorem Et(N:Nat){a:ay}(hl:a.length≤100000)(hN:200000≤N)(id:Int):yK N a id=some (jf a id):=by
 unfold yK jf
 rw[ug N hl hN,Option.bind_some,cond_not,ud N hl hN]
 cases im a<;>rfl
def dQ(a:ay)(id:Int):Int:=if im a then il id a else 0
theorem NF(N:Nat){a:ay}(hl:a.length≤100000)(hN:200000≤N)(id:Int):wk N a id=some (dQ a id):=by
 unfold wk wk.b dQ
 rw[Ch N hl hN,Option.bind_some,cond_not,HI N hl hN]
 cases im a<;>rfl
theorem rq(N:Nat){a:ay}(hl:a.length≤100000)(hN:200000≤N)(id:Int):sQ N a id=some (dQ a id):=by
 unfold sQ sQ.b dQ
 rw[ug N hl hN,Option.bind_some,cond_not,Ep N hl hN]
 cases im a<;>rfl
def gv(m:ax)(a:ay)(i:Nat):Prop:= ¬fM (gu (a.getD i aE).2.1 m) 0
instance(m:ax)(a:ay):DecidablePred (gv m a):=fun i=>by unfold gv;infer_instance
def qL(m:ax)(a:ay):Bool:=iC m&&(im a&&(decide (∀j,j<a.length→gv m a j)&&true))
theorem Q0(N:Nat){m:ax}{a:ay}(hm:m.length≤100000)(hl:a.length≤100000)(hN:200000≤N):w8 N m a=some (qL m a):=by
 unfold w8 w8.b qL
 rw[yF N hm hN,Option.bind_some,cond_not,Ch N hl hN,Option.bind_some,cond_not]
 cases hM:iC m
 ·rfl
 cases im a
 ·rfl
 rw[Bool.true_and,Bool.true_and,cond_true,cond_true]
 refine ep (F:=fun n i=>w8.l4 N n m a (a.length:Int) i) (gv m a) (fun n i r hi hp hr=> ?_) (fun n=> ?_) N (by omega)
 ·unfold w8.l4 w8.ca
  rw[aH (by omega),cond_true,aJ (by omega) (by omega),cond_true,Int.toNat_natCast,aq (x:=(i:Int)+1) (by omega) (by omega),aa,vo N hm hN,Option.bind_some,aB]
  unfold ga
  rw[hM,if_pos rfl]
  by_cases hP:gv m a i
  ·rw[if_pos hP,if_neg (show ¬((gu (a.getD i aE).2.1 m:Int)=0)from fun h=>hP h)];exact hr
  ·rw[if_neg hP,if_pos (show(gu (a.getD i aE).2.1 m:Int)=0 by unfold gv at hP;exact Decidable.not_not.1 hP)]
 ·unfold w8.l4 w8.ca
  rw[aF (by omega),cond_false]
theorem yL(N:Nat){m:ax}{a:ay}(hm:m.length≤100000)(hl:a.length≤100000)(hN:200000≤N):jM N m a=some (qL m a):=by
 unfold jM jM.b qL
 rw[nP N hm hN,Option.bind_some,cond_not,ug N hl hN,Option.bind_some,cond_not]
 cases hM:iC m
 ·rfl
 cases im a
 ·rfl
 rw[Bool.true_and,Bool.true_and,cond_true,cond_true]
 refine ep (F:=fun n i=>jM.l4 N n m a i) (gv m a) (fun n i r hi hp hr=> ?_) (fun n=> ?_) N (by omega)
 ·unfold jM.l4 jM.ca
  rw[aH (by omega),cond_true,aJ (by omega) (by omega),cond_true,Int.toNat_natCast,aq (x:=(i:Int)+1) (by omega) (by omega),aa,jL N hm hN,Option.bind_some,aB]
  by_cases hP:gv m a i
  ·rw[if_pos hP,if_neg (show ¬((gu (a.getD i aE).2.1 m:Int)=0)from fun h=>hP h)];exact hr
  ·rw[if_neg hP,if_pos (show(gu (a.getD i aE).2.1 m:Int)=0 by unfold gv at hP;exact Decidable.not_not.1 hP)]
 ·unfold jM.l4 jM.ca
  rw[aF (by omega),cond_false]
end VM
end
section
namespace VM
open Go VM.F
theorem NG(a b:c7):kV (.pair (.int .i64) (.pair (.int .u64) .unit)) a b=(az a.1 b.1&&(az a.2.1 b.2.1&&true)):=rfl
theorem Q1(N:Nat){u v:Int}:Q2 N (dh u) (dh v)=some (rn (u-v)):=by
 unfold Q2
 rw[NG]
 unfold dh
 dsimp only
 unfold rn
 rw[bO,aB,bO,Bool.and_true,eR,eR]
 have hu:u=u/18446744073709551616*18446744073709551616+u%18446744073709551616:=by omega
 have hv:v=v/18446744073709551616*18446744073709551616+v%18446744073709551616:=by omega
 by_cases h1:u/18446744073709551616<v/18446744073709551616
 ·rw[if_pos h1];congr 1;split<;>(try split)<;>omega
 ·rw[if_neg h1]
  by_cases h2:u/18446744073709551616=v/18446744073709551616
  ·rw[if_pos h2,decide_eq_true h2,Bool.true_and]
   by_cases h3:u%18446744073709551616<v%18446744073709551616
   ·rw[if_pos h3];congr 1;split<;>(try split)<;>omega
   ·rw[if_neg h3]
    by_cases h4:u%18446744073709551616=v%18446744073709551616
    ·rw[decide_eq_true h4,cond_true];congr 1;split<;>(try split)<;>omega
    ·rw[decide_eq_false h4,cond_false];congr 1;split<;>(try split)<;>omega
  ·rw[if_neg h2,decide_eq_false h2,Bool.false_and,cond_false];congr 1;split<;>(try split)<;>omega
theorem HK:dh 0=bP:=rfl
theorem uh(N:Nat){u:Int}:Yj N (dh u)=some (rn u):=by
 unfold Yj
 rw[←HK,Q1,Option.bind_some,Int.sub_zero]
end VM
end
section
namespace VM
open Go VM.F
def eO(r:cy):Int:=r.2.2.1
def aD(x:Int):Prop:= -9223372036854775808≤x∧x<9223372036854775808
def dy(l:aj):Prop:= ∀x∈l,aD (eO x)
theorem sR{l:aj}(h:dy l)(i:Nat):aD (eO (l.getD i aW)):=by
 by_cases hi:i<l.length
 ·rw[List.getD_eq_getElem?_getD,List.getElem?_eq_getElem hi];exact h _ (List.getElem_mem hi)
 ·rw[List.getD_eq_getElem?_getD,List.getElem?_eq_none (by omega)];exact⟨by decide,by decide⟩
theorem Eu{ws:List Int}(h: ∀x∈ws,aD x): -(9223372036854775808*(ws.length:Int))≤ws.sum∧ws.sum≤9223372036854775808*(ws.length:Int):=Jr ws h
theorem A3{ws:List Int}(h: ∀x∈ws,aD x)(hl:ws.length≤1000000):dZ ws.sum:=by
 have:=Eu h
 unfold dZ;omega
theorem KY{ws:List Int}(h: ∀x∈ws,aD x): ∀x∈ws,dZ x:=fun x hx=>by
 have:=h x hx
 unfold aD at this;unfold dZ;omega
theorem Ci(N:Nat){ws:List Int}(h: ∀x∈ws,aD x)(hl:ws.length≤1000000)(hN:1000000<N):jb N (ws.map dh)=some (dh ws.sum,true):=by
 rw[Cd N (KY h) hl hN]
 unfold HA
 rw[if_pos (A3 h hl)]
def jg(l:aj):Int:=if eU l then(l.map eO).sum else 0
theorem HL(N:Nat){l:aj}(hq:dy l)(hl:l.length≤100000)(hN:2000000≤N):wm.l5 N N bP [] l (l.length:Int) 0=some (dh (l.map eO).sum):=by
 have:=lK l aW (fun n i ws=>wm.l5 N n bP (ws.map dh) l (l.length:Int) i) (fun t ws=>some (dh (ws++t.map eO).sum)) (fun i (ws:List Int)=>ws.length=i∧ ∀x∈ws,aD x)
  (fun n i ws hi hI hr=> ?_) (fun n ws hI=> ?_) l.length N 0 [] (by omega) (by omega) (by omega) ⟨rfl,fun x hx=>nomatch hx⟩
 ·simpa using this
 ·unfold wm.l5 wm.dn
  have sS:=sR hq i
  have eV:=sS
  unfold aD eO at eV
  rw[aH (by omega),cond_true,aJ (by omega) (by omega),cond_true,Int.toNat_natCast,qJ N eV.1 eV.2,Option.bind_some,bh (by rw[List.length_map,List.length_singleton];omega),cond_true,aq (by omega) (by omega),aa]
  have:=hr (ws++[eO (l.getD i aW)]) ⟨by rw[List.length_append,hI.1];rfl,fun x hx=>by
   rcases List.mem_append.1 hx with hx|hx
   ·exact hI.2 x hx
   ·rw[List.mem_singleton.1 hx];exact sS⟩
  rw[List.map_append]at this
  refine this.trans ?_
  rw[List.map_cons,List.append_assoc];rfl
 ·unfold wm.l5 wm.dn
  rw[aF (by omega),cond_false,Ci N hI.2 (by omega) (by omega),Option.bind_some,List.map_nil,List.append_nil]
theorem NH(N:Nat){l:aj}(hq:dy l)(hl:l.length≤100000)(hN:2000000≤N):wm N l=some (dh (jg l)):=by
 unfold wm wm.b jg
 rw[Cg N hl (by omega),Option.bind_some,cond_not,HL N hq hl hN]
 cases eU l<;>rfl
theorem Ev(N:Nat){l:aj}(hq:dy l)(hl:l.length≤100000)(hN:4000000≤N):kq.l5 N N l (bZ 0) (bZ 0) 0=some (bZ (l.map eO).sum):=by
 have:=lK l aW (fun n i ws=>kq.l5 N n l (bZ 0) (bZ ws.sum) i) (fun t ws=>some (bZ (ws++t.map eO).sum)) (fun i (ws:List Int)=>ws.length=i∧ ∀x∈ws,aD x)
  (fun n i ws hi hI hr=> ?_) (fun n ws hI=> ?_) l.length N 0 [] (by omega) (by omega) (by omega) ⟨rfl,fun x hx=>nomatch hx⟩
 ·simpa using this
 ·unfold kq.l5 kq.dn
  have sS:=sR hq i
  have eV:=sS
  unfold aD eO at eV
  have hb:=Eu hI.2
  rw[hI.1]at hb
  rw[aH (by omega),cond_true,aJ (by omega) (by omega),cond_true,Int.toNat_natCast,eS N (by omega) eV.1 eV.2,Option.bind_some,fH N (by omega) ((tV (n:=i) (by omega) hb.1 hb.2).mono (by omega)) ((Fit.i64 eV.1 eV.2).mono (by omega)),Option.bind_some,aq (by omega) (by omega),aa]
  have:=hr (ws++[eO (l.getD i aW)]) ⟨by rw[List.length_append,hI.1];rfl,fun x hx=>by
   rcases List.mem_append.1 hx with hx|hx
   ·exact hI.2 x hx
   ·rw[List.mem_singleton.1 hx];exact sS⟩
  rw[List.sum_append,List.sum_cons,List.sum_nil,Int.add_zero]at this
  refine this.trans ?_
  rw[List.map_cons,List.append_assoc];rfl
 ·unfold kq.l5 kq.dn
  rw[aF (by omega),cond_false,List.map_nil,List.append_nil]
theorem KZ(N:Nat){l:aj}(hq:dy l)(hl:l.length≤100000)(hN:4000000≤N):kq N l=some (bZ (jg l)):=by
 unfold kq kq.b jg
 rw[yH N hl (by omega),Option.bind_some,cond_not]
 have:=Ev N hq hl hN
 rw[gr]at this
 rw[this]
 cases eU l
 ·rw[cond_false];exact congrArg some gr.symm
 ·rfl
end VM
end
section
namespace VM
open Go VM.F
def dR(inst:Int):aj→List Int
 |[]=>[]
 |x::t=>if x.2.1=inst then eO x::dR inst t else dR inst t
theorem fe(inst:Int)(x:cy)(t:aj):dR inst (x::t)=if x.2.1=inst then eO x::dR inst t else dR inst t:=rfl
theorem K0(N:Nat){l:aj}(hq:dy l)(hl:l.length≤100000)(hN:2000000≤N)(inst:Int):kt.l5 N N inst bP [] l (l.length:Int) 0=some (dh (dR inst l).sum):=by
 have:=lK l aW (fun n i ws=>kt.l5 N n inst bP (ws.map dh) l (l.length:Int) i) (fun t ws=>some (dh (ws++dR inst t).sum)) (fun i (ws:List Int)=>ws.length≤i∧ ∀x∈ws,aD x)
  (fun n i ws hi hI hr=> ?_) (fun n ws hI=> ?_) l.length N 0 [] (by omega) (by omega) (by omega) ⟨Nat.le_refl _,fun x hx=>nomatch hx⟩
 ·simpa using this
 ·unfold kt.l5 kt.dn
  have sS:=sR hq i
  have eV:=sS
  unfold aD eO at eV
  rw[aH (by omega),cond_true,aJ (by omega) (by omega),cond_true,Int.toNat_natCast,qJ N eV.1 eV.2,Option.bind_some,bh (by rw[List.length_map,List.length_singleton];omega),cond_true,aq (by omega) (by omega),aa,aB,fe]
  split
  ·have:=hr (ws++[eO (l.getD i aW)]) ⟨by rw[List.length_append,List.length_singleton];omega,fun x hx=>by
    rcases List.mem_append.1 hx with hx|hx
    ·exact hI.2 x hx
    ·rw[List.mem_singleton.1 hx];exact sS⟩
   rw[List.map_append]at this
   refine this.trans ?_
   rw[List.append_assoc];rfl
  ·exact hr ws ⟨by omega,hI.2⟩
 ·unfold kt.l5 kt.dn
  rw[aF (by omega),cond_false,Ci N hI.2 (by omega) (by omega),Option.bind_some]
  show _=some (dh (ws++[]).sum)
  rw[List.append_nil]
def ui(l:aj)(inst:Int):Int:=if dt l then(dR inst l).sum else 0
theorem Q3(N:Nat){l:aj}(hq:dy l)(hl:l.length≤100000)(hN:2000000≤N)(inst:Int):kt N l inst=some (dh (ui l inst)):=by
 unfold kt kt.b ui
 rw[yI N hl (by omega),Option.bind_some,cond_not,K0 N hq hl hN]
 cases dt l<;>rfl
theorem HM(N:Nat){l:aj}(hq:dy l)(hl:l.length≤100000)(hN:4000000≤N)(inst:Int):ku.l5 N N l inst (bZ 0) (bZ 0) 0=some (bZ (dR inst l).sum):=by
 have:=lK l aW (fun n i ws=>ku.l5 N n l inst (bZ 0) (bZ ws.sum) i) (fun t ws=>some (bZ (ws++dR inst t).sum)) (fun i (ws:List Int)=>ws.length≤i∧ ∀x∈ws,aD x)
  (fun n i ws hi hI hr=> ?_) (fun n ws hI=> ?_) l.length N 0 [] (by omega) (by omega) (by omega) ⟨Nat.le_refl _,fun x hx=>nomatch hx⟩
 ·simpa using this
 ·unfold ku.l5 ku.dn
  have sS:=sR hq i
  have eV:=sS
  unfold aD eO at eV
  have hb:=Eu hI.2
  rw[aH (by omega),cond_true,aJ (by omega) (by omega),cond_true,cond_true,Int.toNat_natCast,eS N (by omega) eV.1 eV.2,Option.bind_some,fH N (by omega) ((tV (n:=ws.length) (by omega) hb.1 hb.2).mono (by omega)) ((Fit.i64 eV.1 eV.2).mono (by omega)),Option.bind_some,aq (by omega) (by omega),aa,aB,fe]
  split
  ·have:=hr (ws++[eO (l.getD i aW)]) ⟨by rw[List.length_append,List.length_singleton];omega,fun x hx=>by
    rcases List.mem_append.1 hx with hx|hx
    ·exact hI.2 x hx
    ·rw[List.mem_singleton.1 hx];exact sS⟩
   rw[List.sum_append,List.sum_cons,List.sum_nil,Int.add_zero]at this
   refine this.trans ?_
   rw[List.append_assoc];rfl
  ·exact hr ws ⟨by omega,hI.2⟩
 ·unfold ku.l5 ku.dn
  rw[aF (by omega),cond_false]
  show _=some (bZ (ws++[]).sum)
  rw[List.append_nil]
theorem Ew(N:Nat){l:aj}(hq:dy l)(hl:l.length≤100000)(hN:4000000≤N)(inst:Int):ku N l inst=some (bZ (ui l inst)):=by
 unfold ku ku.b ui
 rw[mh N hl (by omega),Option.bind_some,cond_not]
 have:=HM N hq hl hN inst
 rw[gr]at this
 rw[this]
 cases dt l
 ·rw[cond_false];exact congrArg some gr.symm
 ·rfl
def sT(l:aj)(i:Nat):Prop:=fM (ui l (i:Int)) 0
instance(l:aj):DecidablePred (sT l):=fun i=>by unfold sT;infer_instance
def ir:Nat:=6
def vq(l:aj):Bool:=decide (∀j,j<ir→sT l j)&&dt l
theorem kv{x:Int}:rn x=0↔x=0:=by unfold rn;split<;>(try split)<;>omega
theorem Q4(N:Nat){l:aj}(hq:dy l)(hl:l.length≤100000)(hN:2000000≤N):w9 N l=some (vq l):=by
 unfold w9 w9.b
 refine ep (len:=ir) (F:=fun n i=>w9.l2 N n l i) (sT l) (fun n i r hi hp hr=> ?_) (fun n=> ?_) N (by unfold ir;omega)
 ·unfold w9.l2 w9.dI
  unfold ir at hi
  rw[aH (by omega),cond_true,Q3 N hq hl hN,Option.bind_some,uh,Option.bind_some,cond_not,aB,aq (by omega) (by omega),aa,hr]
  by_cases hP:sT l i
  ·rw[if_pos hP,if_pos (kv.2 hP)]
  ·rw[if_neg hP,if_neg (fun h=>hP (kv.1 h))]
 ·unfold w9.l2 w9.dI
  rw[aF (by unfold ir;omega),cond_false,yI N hl (by omega),Option.bind_some]
theorem NI(N:Nat){l:aj}(hq:dy l)(hl:l.length≤100000)(hN:4000000≤N):lh N l=some (vq l):=by
 unfold lh lh.b
 refine ep (len:=ir) (F:=fun n i=>lh.l2 N n l i) (sT l) (fun n i r hi hp hr=> ?_) (fun n=> ?_) N (by unfold ir;omega)
 ·unfold lh.l2 lh.dI
  unfold ir at hi
  rw[aH (by omega),cond_true,Ew N hq hl hN,Option.bind_some,pb,Option.bind_some,cond_not,aB,aq (by omega) (by omega),aa,hr]
  by_cases hP:sT l i
  ·rw[if_pos hP,if_pos (kv.2 hP)]
  ·rw[if_neg hP,if_neg (fun h=>hP (kv.1 h))]
 ·unfold lh.l2 lh.dI
  rw[aF (by unfold ir;omega),cond_false,mh N hl (by omega),Option.bind_some]
end VM
end
section
namespace VM
open Go VM.F
def g8(m:ax)(a:ay)(l:aj)(i:Nat):Prop:=
 (fM (l.getD i aW).1 5→(jf a (l.getD i aW).2.1).2=true)∧(fM (l.getD i aW).1 6∨fM (l.getD i aW).1 7→ ¬fM (ga m (l.getD i aW).2.1) 0)
instance(m:ax)(a:ay)(l:aj):DecidablePred (g8 m a l):=fun i=>by unfold g8;infer_instance
theorem HN(N:Nat)(b:ah)(hl:b.2.1.length≤100000)(hN:200000≤N)(id:Int):F82 N b id=some (jf b.2.1 id).2:=by
 unfold F82
 rw[QZ N hl hN,Option.bind_some]
theorem K1{k:Int}{f:Bool}{z:Int}{r:Option Bool}:cond (az k 5) (cond (!f) (some false) r) (cond (az k 6) (cond (az z 0) (some false) r) (cond (az k 7) (cond (az z 0) (some false) r) r))=
  if(fM k 5→f=true)∧(fM k 6∨fM k 7→ ¬fM z 0)then r else some false:=by
 unfold fM
 rw[aB,aB,aB,aB,cond_not]
 by_cases h5:k=5
 ·have h6: ¬(k=6):=by omega
  have h7: ¬(k=7):=by omega
  cases f<;>simp[h5,h6,h7]
 ·by_cases h6:k=6
  ·by_cases hz:z=0<;>simp[h5,h6,hz]
  ·by_cases h7:k=7
   ·by_cases hz:z=0<;>simp[h5,h6,h7,hz]
   ·simp[h5,h6,h7]
theorem Aj(N:Nat)(hN:200000≤N)(c:ae)(b:ah)(hm:b.1.length≤100000)(ha:b.2.1.length≤100000)(hl:b.2.2.1.length≤100000){e:Bool}
  (he:g9.rP N N c b b.2.2.2.1 (b.2.2.2.1.length:Int) 0=some e):g9.l4 N N c b b.2.2.1 (b.2.2.1.length:Int) 0=some (decide (∀j,j<b.2.2.1.length→g8 b.1 b.2.1 b.2.2.1 j)&&e):=by
 refine ep (F:=fun n i=>g9.l4 N n c b b.2.2.1 (b.2.2.1.length:Int) i) (g8 b.1 b.2.1 b.2.2.1) (fun n i r hi hp hr=> ?_) (fun n=> ?_) N (by omega)
 ·unfold g9.l4 g9.ca
  rw[aH (by omega),cond_true,aJ (by omega) (by omega),cond_true,Int.toNat_natCast,aq (x:=(i:Int)+1) (by omega) (by omega),aa,hr]
  simp only[HN N b ha hN,vo N hm hN,Option.bind_some]
  rw[K1]
  rfl
 ·unfold g9.l4 g9.ca
  rw[aF (by omega),cond_false];exact he
def NJ(a b:Int):Prop:=a<b
instance(a b:Int):Decidable (NJ a b):=by unfold NJ;infer_instance
def gw(c:ae)(a:ay)(l:aj)(i:Nat):Prop:=
 (fM (l.getD i aW).1 0∨(jf a (l.getD i aW).1).2=true)∧NJ (l.getD i aW).2.1 c.1.length
instance(c:ae)(a:ay)(l:aj):DecidablePred (gw c a l):=fun i=>by unfold gw;infer_instance
theorem NK{k x n:Int}{f:Bool}{r:Option Bool}:cond (!az k 0) (cond (!f) (some false) (cond (bV n x) (some false) r)) (cond (bV n x) (some false) r)=if(fM k 0∨f=true)∧NJ x n then r else some false:=by
 unfold fM NJ
 rw[cond_not,aB,bH,cond_not]
 by_cases h0:k=0
 ·by_cases hx:n≤x
  ·have: ¬x<n:=by omega
   simp[h0,hx,this]
  ·have:x<n:=by omega
   simp[h0,hx,this]
 ·by_cases hx:n≤x
  ·have: ¬x<n:=by omega
   cases f<;>simp[h0,hx,this]
  ·have:x<n:=by omega
   cases f<;>simp[h0,hx,this]
theorem Cj(N:Nat)(hN:200000≤N)(c:ae)(b:ah)(ha:b.2.1.length≤100000)(hl:b.2.2.2.1.length≤100000){e:Bool}
  (he:g9.qc N N c b b.2.2.2.2.2.1 (b.2.2.2.2.2.1.length:Int) 0=some e):g9.rP N N c b b.2.2.2.1 (b.2.2.2.1.length:Int) 0=some (decide (∀j,j<b.2.2.2.1.length→gw c b.2.1 b.2.2.2.1 j)&&e):=by
 refine ep (F:=fun n i=>g9.rP N n c b b.2.2.2.1 (b.2.2.2.1.length:Int) i) (gw c b.2.1 b.2.2.2.1) (fun n i r hi hp hr=> ?_) (fun n=> ?_) N (by omega)
 ·unfold g9.rP g9.qM
  rw[aH (by omega),cond_true,aJ (by omega) (by omega),cond_true,Int.toNat_natCast,aq (x:=(i:Int)+1) (by omega) (by omega),aa,hr]
  simp only[HN N b ha hN,Option.bind_some]
  rw[NK]
  rfl
 ·unfold g9.rP g9.qM
  rw[aF (by omega),cond_false];exact he
end VM
end
section
namespace VM
open Go VM.F
def nS(l:List Int)(i:Nat):Prop:=1≤l.getD i 0∧l.getD i 0≤1000000000000
instance(l:List Int):DecidablePred (nS l):=fun i=>by unfold nS;infer_instance
def gd(l:List Int):Bool:=decide (∀j,j<l.length→nS l j)
theorem Yk(N:Nat)(p:Int):F84 N p=some (!decide (1≤p∧p≤1000000000000)):=by
 unfold F84
 rw[A2,Option.bind_some]
theorem yM(N:Nat){l:List Int}(hl:l.length≤100000): ∀(m n i:Nat),l.length-i≤m→m<n→i≤l.length→(∀j,j<i→nS l j)→
  ∃r,nw.l2 N n l () (l.length:Int) (i:Int)=some r∧(bV 0 r= !gd l)
 |m,0,i,_,hn,_,_=>by omega
 |m,n+1,i,hm,hn,hi,hp=>by
  unfold nw.l2 nw.dI
  by_cases h:i<l.length
  ·rw[aH (by omega),cond_true,aJ (by omega) (by omega),cond_true,Int.toNat_natCast,Yk,Option.bind_some,cond_not,dw]
   by_cases hP:nS l i
   ·have hP':=hP
    unfold nS at hP'
    rw[if_pos hP',aq (by omega) (by omega)]
    exact yM N hl (m-1) n (i+1) (by omega) (by omega) (by omega) (fun j hj=>by
     by_cases sG:j=i
     ·subst sG;exact hP
     ·exact hp j (by omega))
   ·have hP':=hP
    unfold nS at hP'
    rw[if_neg hP']
    refine⟨_,rfl,?_⟩
    rw[df (by omega)]
    unfold gd
    rw[decide_eq_false (fun h'=>hP (h' i h))];rfl
  ·rw[aF (by omega),cond_false]
   refine⟨_,rfl,?_⟩
   rw[dg (by omega)]
   unfold gd
   rw[decide_eq_true (fun j hj=>hp j (by omega))];rfl
theorem K2(N:Nat){l:List Int}(hl:l.length≤100000)(hN:200000≤N):F83 N l ()=some (!gd l):=by
 unfold F83 nw nw.b
 obtain⟨r,e,h⟩:=yM N hl l.length N 0 (by omega) (by omega) (by omega) (fun j hj=>absurd hj (by omega))
 rw[show((0:Nat):Int)=0 from rfl]at e
 rw[e,Option.bind_some,h]
def lL(c:ae)(a:ay)(l:aZ)(i:Nat):Prop:=
 (jf a (l.getD i eg).2.1).2=true∧NJ (l.getD i eg).2.2.1 c.1.length
instance(c:ae)(a:ay)(l:aZ):DecidablePred (lL c a l):=fun i=>by unfold lL;infer_instance
theorem yN{x n:Int}{f:Bool}{r:Option Bool}:cond (!f) (some false) (cond (bV n x) (some false) r)=if f=true∧NJ x n then r else some false:=by
 unfold NJ
 rw[bH,cond_not]
 by_cases hx:n≤x
 ·have: ¬x<n:=by omega
  cases f<;>simp[hx,this]
 ·have:x<n:=by omega
  cases f<;>simp[hx,this]
theorem Ck(N:Nat)(hN:200000≤N)(c:ae)(b:ah)(ha:b.2.1.length≤100000)(hl:b.2.2.2.2.2.1.length≤100000)(hp:b.2.2.2.2.1.length≤100000):
  g9.qc N N c b b.2.2.2.2.2.1 (b.2.2.2.2.2.1.length:Int) 0=some (decide (∀j,j<b.2.2.2.2.2.1.length→lL c b.2.1 b.2.2.2.2.2.1 j)&&gd b.2.2.2.2.1):=by
 refine ep (F:=fun n i=>g9.qc N n c b b.2.2.2.2.2.1 (b.2.2.2.2.2.1.length:Int) i) (lL c b.2.1 b.2.2.2.2.2.1) (fun n i r hi I0 hr=> ?_) (fun n=> ?_) N (by omega)
 ·unfold g9.qc g9.pq
  rw[aH (by omega),cond_true,aJ (by omega) (by omega),cond_true,Int.toNat_natCast,aq (x:=(i:Int)+1) (by omega) (by omega),aa,hr]
  simp only[HN N b ha hN,Option.bind_some]
  rw[yN]
  rfl
 ·unfold g9.qc g9.pq
  rw[aF (by omega),cond_false,K2 N hp hN,Option.bind_some,Bool.not_not]
def et(c:ae)(b:ah):Bool:=
 fZ c&&(qL b.1 b.2.1&&(eU b.2.2.1&&(decide (fM (jg b.2.2.1) 0)&&(vq b.2.2.2.1&&(jd b.2.2.2.2.2.1&&(decide (fM b.2.2.2.2.1.length c.1.length)&&
  (decide (∀j,j<b.2.2.1.length→g8 b.1 b.2.1 b.2.2.1 j)&&(decide (∀j,j<b.2.2.2.1.length→gw c b.2.1 b.2.2.2.1 j)&&(decide (∀j,j<b.2.2.2.2.2.1.length→lL c b.2.1 b.2.2.2.2.2.1 j)&&gd b.2.2.2.2.1)))))))))
structure qN(b:ah):Prop where
 m:b.1.length≤100000
 a:b.2.1.length≤100000
 r:b.2.2.1.length≤100000
 s:b.2.2.2.1.length≤100000
 p:b.2.2.2.2.1.length≤100000
 o:b.2.2.2.2.2.1.length≤100000
 qr:dy b.2.2.1
 qs:dy b.2.2.2.1
theorem ky{x:Bool}{r:Option Bool}{y:Bool}(h:r=some y):cond (!x) (some false) r=some (x&&y):=by subst h;cases x<;>rfl
theorem Q5(N:Nat)(hN:4000000≤N){c:ae}{b:ah}(w:qN b):g9 N c b=some (et c b):=by
 unfold g9 g9.b et
 rw[Ce N (by omega),Option.bind_some]
 refine ky ?_
 rw[Q0 N w.m w.a (by omega),Option.bind_some]
 refine ky ?_
 rw[Cg N w.r (by omega),Option.bind_some]
 refine ky ?_
 rw[NH N w.qr w.r (by omega),Option.bind_some,uh,Option.bind_some]
 have e0:az (rn (jg b.2.2.1)) 0=decide (fM (jg b.2.2.1) 0):=by rw[eR,decide_eq_decide];exact kv
 rw[e0]
 refine ky ?_
 rw[Q4 N w.qs w.s (by omega),Option.bind_some]
 refine ky ?_
 rw[KU N w.o (by omega),Option.bind_some]
 refine ky ?_
 rw[eR]
 refine ky ?_
 exact Aj N (by omega) c b w.m w.a w.r (Cj N (by omega) c b w.a w.s (Ck N (by omega) c b w.a w.o w.p))
end VM
end
section
namespace VM
open Go VM.F
theorem uj(N:Nat)(b:ah)(hl:b.2.1.length≤100000)(hN:200000≤N)(id:Int):Cl N b id=some ((jf b.2.1 id).2||decide (fM id 0)):=by
 unfold Cl
 rw[Et N hl hN,Option.bind_some,eR]
 cases(jf b.2.1 id).2<;>rfl
theorem HO{k:Int}{f:Bool}{z:Int}{r:Option Bool}:cond (az k 5) (cond (!f) (some false) (cond (az k 6) (cond (az z 0) (some false) r) (cond (az k 7) (cond (az z 0) (some false) r) r))) (cond (az k 6) (cond (az z 0) (some false) r) (cond (az k 7) (cond (az z 0) (some false) r) r))=
  if(fM k 5→f=true)∧(fM k 6∨fM k 7→ ¬fM z 0)then r else some false:=by
 unfold fM
 rw[aB,aB,aB,aB,cond_not]
 by_cases h5:k=5
 ·have h6: ¬(k=6):=by omega
  have h7: ¬(k=7):=by omega
  cases f<;>simp[h5,h6,h7]
 ·by_cases h6:k=6
  ·by_cases hz:z=0<;>simp[h5,h6,hz]
  ·by_cases h7:k=7
   ·by_cases hz:z=0<;>simp[h5,h6,h7,hz]
   ·simp[h5,h6,h7]
theorem Ak(N:Nat)(hN:200000≤N)(c:ae)(b:ah)(ha:b.2.1.length≤100000)(hl:b.2.2.2.2.2.1.length≤100000)(ho:jd b.2.2.2.2.2.1=true):
  bD.qc N N c b 0=some (decide (∀j,j<b.2.2.2.2.2.1.length→lL c b.2.1 b.2.2.2.2.2.1 j)&&true):=by
 refine ep (F:=fun n i=>bD.qc N n c b i) (lL c b.2.1 b.2.2.2.2.2.1) (fun n i r hi I0 hr=> ?_) (fun n=> ?_) N (by omega)
 ·unfold bD.qc bD.pq
  unfold jd at ho
  rw[Bool.and_eq_true,decide_eq_true_iff]at ho
  have h1:=(ho.1 i hi).1
  unfold qK sN at h1
  have h2:decide (fM (b.2.2.2.2.2.1.getD i eg).2.1 0)=false:=decide_eq_false (by unfold fM;omega)
  rw[aH (by omega),cond_true,aJ (by omega) (by omega),cond_true,Int.toNat_natCast,aq (x:=(i:Int)+1) (by omega) (by omega),aa,hr]
  simp only[uj N b ha hN,Option.bind_some,cond_true]
  rw[h2,Bool.or_false,yN]
  rfl
 ·unfold bD.qc bD.pq
  rw[aF (by omega),cond_false]
theorem xa(N:Nat)(hN:200000≤N)(c:ae)(b:ah)(hl:b.2.2.2.2.1.length≤100000){e:Bool}(he:bD.qc N N c b 0=some e):
  bD.Q6 N N c b 0=some (gd b.2.2.2.2.1&&e):=by
 refine ep (F:=fun n i=>bD.Q6 N n c b i) (nS b.2.2.2.2.1) (fun n i r hi I0 hr=> ?_) (fun n=> ?_) N (by omega)
 ·unfold bD.Q6 bD.Q7
  rw[aH (by omega),cond_true,aJ (by omega) (by omega),cond_true,Int.toNat_natCast,aq (x:=(i:Int)+1) (by omega) (by omega),aa,hr,iF,Option.bind_some,cond_not,dw]
  rfl
 ·unfold bD.Q6 bD.Q7
  rw[aF (by omega),cond_false];exact he
theorem Al(N:Nat)(hN:200000≤N)(c:ae)(b:ah)(ha:b.2.1.length≤100000)(hl:b.2.2.2.1.length≤100000){e:Bool}(he:bD.Q6 N N c b 0=some e):
  bD.nn N N c b 0=some (decide (∀j,j<b.2.2.2.1.length→gw c b.2.1 b.2.2.2.1 j)&&e):=by
 refine ep (F:=fun n i=>bD.nn N n c b i) (gw c b.2.1 b.2.2.2.1) (fun n i r hi I0 hr=> ?_) (fun n=> ?_) N (by omega)
 ·unfold bD.nn bD.lM
  rw[aH (by omega),cond_true,aJ (by omega) (by omega),cond_true,Int.toNat_natCast,aq (x:=(i:Int)+1) (by omega) (by omega),aa,hr]
  simp only[uj N b ha hN,Option.bind_some,cond_true]
  rw[yN]
  have NL:((((jf b.2.1 (b.2.2.2.1.getD i aW).1).2||decide (fM (b.2.2.2.1.getD i aW).1 0))=true)∧NJ (b.2.2.2.1.getD i aW).2.1 c.1.length)↔gw c b.2.1 b.2.2.2.1 i:=by
   unfold gw
   rw[Bool.or_eq_true,decide_eq_true_iff]
   exact⟨fun h=>⟨h.1.symm,h.2⟩,fun h=>⟨h.1.symm,h.2⟩⟩
  by_cases hP:gw c b.2.1 b.2.2.2.1 i
  ·rw[if_pos hP,if_pos (NL.2 hP)]
  ·rw[if_neg hP,if_neg (fun h=>hP (NL.1 h))]
 ·unfold bD.nn bD.lM
  rw[aF (by omega),cond_false];exact he
theorem yO(N:Nat)(hN:200000≤N)(c:ae)(b:ah)(hm:b.1.length≤100000)(ha:b.2.1.length≤100000)(hl:b.2.2.1.length≤100000)(hk:eU b.2.2.1=true){e:Bool}
  (he:bD.nn N N c b 0=some e):bD.l6 N N c b 0=some (decide (∀j,j<b.2.2.1.length→g8 b.1 b.2.1 b.2.2.1 j)&&e):=by
 refine ep (F:=fun n i=>bD.l6 N n c b i) (g8 b.1 b.2.1 b.2.2.1) (fun n i r hi I0 hr=> ?_) (fun n=> ?_) N (by omega)
 ·unfold bD.l6 bD.mg
  unfold eU at hk
  rw[Bool.and_true,decide_eq_true_iff]at hk
  have h1:=(hk i hi).1
  rw[aH (by omega),cond_true,aJ (by omega) (by omega),cond_true,Int.toNat_natCast,aq (x:=(i:Int)+1) (by omega) (by omega),aa,hr]
  simp only[uj N b ha hN,sP N hm hN,Option.bind_some]
  rw[HO]
  have NL:((fM (b.2.2.1.getD i aW).1 5→((jf b.2.1 (b.2.2.1.getD i aW).2.1).2||decide (fM (b.2.2.1.getD i aW).2.1 0))=true)∧(fM (b.2.2.1.getD i aW).1 6∨fM (b.2.2.1.getD i aW).1 7→ ¬fM (ga b.1 (b.2.2.1.getD i aW).2.1) 0))↔g8 b.1 b.2.1 b.2.2.1 i:=by
   unfold g8
   refine and_congr_left fun _=>imp_congr_right fun h5=> ?_
   rw[Bool.or_eq_true,decide_eq_true_iff]
   refine⟨fun h=>h.elim id fun h0=> ?_,.inl⟩
   unfold ea at h1;unfold fM at h5 h0;omega
  by_cases hP:g8 b.1 b.2.1 b.2.2.1 i
  ·rw[if_pos hP,if_pos (NL.2 hP)]
  ·rw[if_neg hP,if_neg (fun h=>hP (NL.1 h))]
 ·unfold bD.l6 bD.mg
  rw[aF (by omega),cond_false];exact he
end VM
end
section
namespace VM
open Go VM.F
theorem jN{x:Bool}{r:Option Bool}{y:Bool}(h:x=true→r=some y):cond (!x) (some false) r=some (x&&y):=by
 cases x
 ·rfl
 ·exact h rfl
theorem Ex(N:Nat)(hN:5000000≤N){c:ae}{b:ah}(w:qN b):bD N c b=some (et c b):=by
 unfold bD bD.b
 rw[mK N (by omega),Option.bind_some]
 have e0:az (rn (jg b.2.2.1)) 0=decide (fM (jg b.2.2.1) 0):=by rw[eR,decide_eq_decide];exact kv
 refine(jN fun _=> ?_).trans (congrArg some (?_:(fZ c&&(qL b.1 b.2.1&&(eU b.2.2.1&&(vq b.2.2.2.1&&(jd b.2.2.2.2.2.1&&(decide (fM b.2.2.2.2.1.length c.1.length)&&(decide (fM (jg b.2.2.1) 0)&&
  (decide (∀j,j<b.2.2.1.length→g8 b.1 b.2.1 b.2.2.1 j)&&(decide (∀j,j<b.2.2.2.1.length→gw c b.2.1 b.2.2.2.1 j)&&(gd b.2.2.2.2.1&&(decide (∀j,j<b.2.2.2.2.2.1.length→lL c b.2.1 b.2.2.2.2.2.1 j)&&true)))))))))))=et c b))
 ·rw[yL N w.m w.a (by omega),Option.bind_some]
  refine jN fun _=> ?_
  rw[yH N w.r (by omega),Option.bind_some]
  refine jN fun hk=> ?_
  rw[NI N w.qs w.s (by omega),Option.bind_some]
  refine jN fun _=> ?_
  rw[jK N w.o (by omega),Option.bind_some]
  refine jN fun ho=> ?_
  rw[eR]
  refine jN fun _=> ?_
  rw[KZ N w.qr w.r (by omega),Option.bind_some,pb,Option.bind_some,e0]
  refine jN fun _=> ?_
  exact yO N (by omega) c b w.m w.a w.r hk (Al N (by omega) c b w.a w.s (xa N (by omega) c b w.p (Ak N (by omega) c b w.a w.o ho)))
 ·unfold et
  generalize fZ c=x1,qL b.1 b.2.1=x2,eU b.2.2.1=x3,vq b.2.2.2.1=x4,jd b.2.2.2.2.2.1=x5,decide (fM b.2.2.2.2.1.length c.1.length)=x6,decide (fM (jg b.2.2.1) 0)=x7,decide (∀j,j<b.2.2.1.length→g8 b.1 b.2.1 b.2.2.1 j)=x8,decide (∀j,j<b.2.2.2.1.length→gw c b.2.1 b.2.2.2.1 j)=x9,gd b.2.2.2.2.1=aT,decide (∀j,j<b.2.2.2.2.2.1.length→lL c b.2.1 b.2.2.2.2.2.1 j)=aL
  rw[Bool.and_true]
  cases x1<;>cases x2<;>cases x3<;>cases x4<;>cases x5<;>cases x6<;>cases x7<;>try rfl
  cases x8<;>cases x9<;>cases aT<;>cases aL<;>rfl
end VM
end
section
namespace VM
open Go VM.F
def jO(a q n:Int)(i:Nat)(p:Int):Prop:=0≤a∧a<n∧q≠0∧w5 q∧(0<i→p<a)
instance(a q n:Int)(i:Nat)(p:Int):Decidable (jO a q n i p):=by unfold jO;infer_instance
def jz(c:ae)(l:ax)(i:Nat):Prop:=jO (l.getD i bP).1 (l.getD i bP).2.1 c.1.length i (l.getD (i-1) bP).1
instance(c:ae)(l:ax):DecidablePred (jz c l):=fun i=>by unfold jz;infer_instance
def qO(c:ae)(l:ax):Bool:=decide (∀j,j<l.length→jz c l j)&&fZ c
theorem Q8(N:Nat)(hN:200000≤N)(c:ae){l:ax}(hl:l.length≤100000):kz N c l=some (qO c l):=by
 unfold kz kz.b
 refine ep (F:=fun n i=>kz.l2 N n l c l (l.length:Int) i) (jz c l) (fun n i r hi hp hr=> ?_) (fun n=> ?_) N (by omega)
 ·unfold kz.l2 kz.dI
  rw[aH (by omega),cond_true,aJ (by omega) (by omega),cond_true,Int.toNat_natCast,aq (x:=(i:Int)+1) (by omega) (by omega),aa,hr,nQ,Option.bind_some,cond_not,dw]
  by_cases h0:0<i
  ·have e:W .i64 ((i:Int)-1)=((i-1:Nat):Int):=by rw[aq (by omega) (by omega)];omega
   dsimp only
   rw[aH (x:=0) (y:=(i:Int)) (by omega),cond_true,e,Int.toNat_natCast,aJ (by omega) (by omega),cond_true]
   simp only[bO,bH,aB]
   by_cases hP:jz c l i
   ·rw[if_pos hP];unfold jz jO at hP
    rw[if_neg (by omega),if_neg (by omega),if_neg hP.2.2.1,if_pos hP.2.2.2.1,if_neg (by omega)]
   ·rw[if_neg hP];unfold jz jO at hP
    have h2:=fun h1 h2 h3 h4 h5=>hP ⟨h1,h2,h3,h4,h5⟩
    repeat' split
    all_goals first|rfl|(exfalso;exact h2 (by omega) (by omega) (by assumption) (by assumption) (by omega))
  ·rw[aF (x:=0) (y:=(i:Int)) (by omega),cond_false]
   simp only[bO,bH,aB]
   by_cases hP:jz c l i
   ·rw[if_pos hP];unfold jz jO at hP
    rw[if_neg (by omega),if_neg (by omega),if_neg hP.2.2.1,if_pos hP.2.2.2.1]
   ·rw[if_neg hP];unfold jz jO at hP
    have h2:=fun h1 h2 h3 h4 h5=>hP ⟨h1,h2,h3,h4,h5⟩
    repeat' split
    all_goals first|rfl|(exfalso;exact h2 (by omega) (by omega) (by assumption) (by assumption) (by omega))
 ·unfold kz.l2 kz.dI
  rw[aF (by omega),cond_false,Ce N (by omega),Option.bind_some]
end VM
end
section
namespace VM
open Go VM.F
theorem uk(N:Nat)(hN:200000≤N)(c:ae){l:ax}(hl:l.length≤100000):jh N c l=some (qO c l):=by
 unfold jh jh.b
 rw[mK N (by omega),Option.bind_some]
 have hsc:=ep (F:=fun n i=>jh.l4 N n l c i) (e:=true) (jz c l) (fun n i r hi hp hr=> ?_) (fun n=> ?_) N (show l.length<N by omega)
 ·rw[ky hsc];unfold qO
  rw[Bool.and_true,Bool.and_comm]
 ·unfold jh.l4 jh.ca
  rw[aH (by omega),cond_true,aJ (by omega) (by omega),cond_true,Int.toNat_natCast,aq (x:=(i:Int)+1) (by omega) (by omega),aa,hr]
  by_cases h0:0<i
  ·have e:W .i64 ((i:Int)-1)=((i-1:Nat):Int):=by rw[aq (by omega) (by omega)];omega
   dsimp only
   rw[aH (x:=0) (y:=(i:Int)) (by omega),e,Int.toNat_natCast,aJ (i:=((i-1:Nat):Int)) (by omega) (by omega)]
   simp only[bO,bH,aB,cond_true]
   by_cases hP:jz c l i
   ·rw[if_pos hP];unfold jz jO at hP
    rw[if_neg (by omega),if_neg (by omega),if_neg hP.2.2.1,if_neg (show ¬((l.getD i bP).2.1:Int)= -9223372036854775808 from hP.2.2.2.1),if_neg (by omega)]
   ·rw[if_neg hP];unfold jz jO at hP
    have h2:=fun h1 h2 h3 h4 h5=>hP ⟨h1,h2,h3,h4,h5⟩
    repeat' split
    all_goals first|rfl|(exfalso;exact h2 (by omega) (by omega) (by assumption) (by assumption) (by omega))
  ·rw[aF (x:=0) (y:=(i:Int)) (by omega)]
   simp only[bO,bH,aB,cond_true,cond_false]
   by_cases hP:jz c l i
   ·rw[if_pos hP];unfold jz jO at hP
    rw[if_neg (by omega),if_neg (by omega),if_neg hP.2.2.1,if_neg (show ¬((l.getD i bP).2.1:Int)= -9223372036854775808 from hP.2.2.2.1)]
   ·rw[if_neg hP];unfold jz jO at hP
    have h2:=fun h1 h2 h3 h4 h5=>hP ⟨h1,h2,h3,h4,h5⟩
    repeat' split
    all_goals first|rfl|(exfalso;exact h2 (by omega) (by omega) (by assumption) (by assumption) (by omega))
 ·unfold jh.l4 jh.ca
  rw[aF (by omega),cond_false]
end VM
end
section
namespace VM
open Go VM.F
def sU(a b c d:Int):Prop:=(1≤a∧a≤1099511627776)∧(1≤b∧b≤1099511627776)∧(1≤c∧c≤12)∧(-1152921504606846976≤d∧d≤1152921504606846976)
instance(a b c d:Int):Decidable (sU a b c d):=by unfold sU;infer_instance
def oM(x:bs):Prop:=sU x.1 x.2.1 x.2.2.1 x.2.2.2.1
instance(x:bs):Decidable (oM x):=by unfold oM;infer_instance
theorem NM(N:Nat)(x:bs):Q9 N x=some (decide (oM x)):=by
 unfold Q9
 rw[iR x.2.2.2.1]
 repeat rw[eb]
 congr 1
 rw[Bool.eq_iff_iff,decide_eq_true_iff]
 unfold oM sU
 simp only[Bool.and_eq_true,decide_eq_true_eq]
 omega
theorem Jv(N:Nat)(x:bs):Ra N x=some (decide (oM x)):=NM N x
end VM
end
section
namespace VM
open Go VM.F
def ff(m mL:Int)(x:bs):Bool:=decide (fM x.2.2.1 m)&&decide (fM x.2.1 mL)
theorem K3(N:Nat)(x:bs)(m mL:Int):Rb N x m mL=some (ff m mL x):=by
 unfold Rb ff
 rw[eR x.2.1,tY]
 rfl
theorem yP(N:Nat){l:ay}(hl:l.length≤100000)(m mL:Int): ∀(k n i:Nat),l.length-i≤k→k<n→i≤l.length→(∀x∈l.take i,ff m mL x=false)→
  ∃r,nx.l2 N n l ((m,()),((mL,()),())) (l.length:Int) (i:Int)=some r∧(bV 0 r=l.any (ff m mL))
 |k,0,i,_,hn,_,_=>by omega
 |k,n+1,i,hm,hn,hi,hp=>by
  unfold nx.l2 nx.dI
  by_cases h:i<l.length
  ·have hg:l.getD i aE=l[i]:=by rw[List.getD_eq_getElem?_getD,List.getElem?_eq_getElem h];rfl
   rw[aH (by omega),cond_true,aJ (by omega) (by omega),cond_true,Int.toNat_natCast,K3,Option.bind_some]
   cases hb:ff m mL (l.getD i aE)
   ·rw[cond_false,aq (by omega) (by omega)]
    refine yP N hl m mL (k-1) n (i+1) (by omega) (by omega) (by omega) (fun x hx=> ?_)
    rw[List.take_succ_eq_append_getElem h,List.mem_append]at hx
    rcases hx with hx|hx
    ·exact hp x hx
    ·rw[List.mem_singleton.1 hx,←hg];exact hb
   ·rw[cond_true]
    refine⟨_,rfl,?_⟩
    rw[df (by omega)]
    exact(List.any_eq_true.2 ⟨_,List.getElem_mem h,by rw[←hg];exact hb⟩).symm
  ·rw[aF (by omega),cond_false]
   refine⟨_,rfl,?_⟩
   rw[dg (by omega)]
   rw[List.take_of_length_le (by omega)]at hp
   exact(List.any_eq_false.2 (fun x hx=>by rw[hp x hx];simp)).symm
theorem NN(N:Nat){l:ay}(hl:l.length≤100000)(hN:200000≤N)(m mL:Int):NO N l m mL=some (l.any (ff m mL)):=by
 unfold NO Yl nx nx.b
 obtain⟨r,e,h⟩:=yP N hl m mL l.length N 0 (by omega) (by omega) (by omega) (fun x hx=>by simp at hx)
 rw[show((0:Nat):Int)=0 from rfl]at e
 rw[e,Option.bind_some,Option.bind_some,h]
end VM
end
