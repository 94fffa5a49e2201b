/- A part of the proof of AwardBest of layer 25: what the functions compute, in plain words. -/
import Derived.Test.YtocmlaipoebfeaaGreatPlain0
import Derived.Test.YtocmlaipoebfeaaGreatText
set_option linter.all false
section
namespace VM
open Go VM.F
theorem oT(N:Nat)(a lo hi:Int):wC N a lo hi=some (decide (lo≤a∧a≤hi)):=by
 unfold wC
 rw[bH,iL]
 by_cases h:lo≤a
 ·rw[if_pos h];congr 1;rw[decide_eq_decide];omega
 ·rw[if_neg h,decide_eq_false (by omega)]
theorem Av(N:Nat)(a lo hi:Int):zP N a lo hi=some (decide (lo≤a∧a≤hi)):=oT N a lo hi
def oU(a b c d:Int):Prop:=(0≤a∧a≤3)∧(1≤b∧b≤1000000000000)∧(0≤c∧c≤1000000000)∧(0≤d∧d≤1000000000)
instance(a b c d:Int):Decidable (oU a b c d):=by unfold oU;infer_instance
def mi(l:ay)(i:Nat):Prop:=oU (l.getD i aA).1 (l.getD i aA).2.1 (l.getD i aA).2.2.1 (l.getD i aA).2.2.2.1
instance(l:ay):DecidablePred (mi l):=fun i=>by unfold mi;infer_instance
def oV(a b c d e f:Int):Prop:=0≤a∧(0≤b∧b≤4)∧(0≤c∧c≤1000000)∧(0≤d∧d≤1000000)∧(1≤e∧e≤4611686018427387904)∧0≤f
instance(a b c d e f:Int):Decidable (oV a b c d e f):=by unfold oV;infer_instance
def oW(c:aa):Prop:=oV c.2.1 c.2.2.1 c.2.2.2.1 c.2.2.2.2.1 c.2.2.2.2.2.1 c.2.2.2.2.2.2.1
instance(c:aa):Decidable (oW c):=by unfold oW;infer_instance
def fv(c:aa):Bool:=decide (1≤c.1.length∧c.1.length≤6)&&(decide (∀j,j<c.1.length→mi c.1 j)&&decide (oW c))
theorem BP(N:Nat)(hN:100≤N)(c:aa):uN N c=some (fv c):=by
 unfold uN uN.b fv
 rw[oT,Option.bind_some,cond_not,dj]
 by_cases hl:1≤c.1.length∧c.1.length≤6
 ·rw[if_pos (by omega),decide_eq_true hl,Bool.true_and]
  refine eb (F:=fun n i=>uN.l4 N n c c.1 (c.1.length:Int) i) (mi c.1) (fun n i r hi hp hr=> ?_) (fun n=> ?_) N (by omega)
  ·unfold uN.l4 uN.cL
   rw[aK (by omega),cond_true,aN (by omega) (by omega),cond_true,Int.toNat_natCast,aq (by omega) (by omega),ae]
   simp only[oT,Option.bind_some,cond_not,dj]
   by_cases hP:mi c.1 i
   ·rw[if_pos hP];unfold mi oU at hP
    repeat' split
    all_goals first|rfl|exact hr|omega
   ·rw[if_neg hP];unfold mi oU at hP
    repeat' split
    all_goals first|rfl|exact hr|omega
  ·unfold uN.l4 uN.cL
   rw[aF (by omega),cond_false]
   simp only[oT,Option.bind_some,cond_not,dj,bH,iL]
   by_cases hP:oW c
   ·rw[decide_eq_true hP];unfold oW oV at hP
    repeat' split
    all_goals first|rfl|omega|(rw[decide_eq_true (by omega)])
   ·rw[decide_eq_false hP];unfold oW oV at hP
    repeat' split
    all_goals first|rfl|omega|(rw[decide_eq_false (by omega)])
 ·rw[if_neg (by omega),decide_eq_false hl,Bool.false_and]
theorem mj(N:Nat)(hN:100≤N)(c:aa):hQ N c=some (fv c):=by
 unfold hQ hQ.b fv
 rw[bX,bX]
 by_cases hl:1≤c.1.length∧c.1.length≤6
 ·rw[if_neg (by omega),if_neg (by omega),decide_eq_true hl,Bool.true_and]
  refine eb (F:=fun n i=>hQ.l4 N n c i) (mi c.1) (fun n i r hi hp hr=> ?_) (fun n=> ?_) N (by omega)
  ·unfold hQ.l4 hQ.cL
   rw[aK (by omega),cond_true,aN (by omega) (by omega),cond_true,Int.toNat_natCast,aq (by omega) (by omega),ae]
   simp only[Av,Option.bind_some,cond_not,dj]
   by_cases hP:mi c.1 i
   ·rw[if_pos hP];unfold mi oU at hP
    repeat' split
    all_goals first|rfl|exact hr|omega
   ·rw[if_neg hP];unfold mi oU at hP
    repeat' split
    all_goals first|rfl|exact hr|omega
  ·unfold hQ.l4 hQ.cL
   rw[aF (by omega),cond_false]
   simp only[Av,Option.bind_some,cond_not,dj,bH,iL]
   by_cases hP:oW c
   ·rw[decide_eq_true hP];unfold oW oV at hP
    repeat' split
    all_goals first|rfl|omega|(rw[decide_eq_true (by omega)])
   ·rw[decide_eq_false hP];unfold oW oV at hP
    repeat' split
    all_goals first|rfl|omega|(rw[decide_eq_false (by omega)])
 ·rw[decide_eq_false hl,Bool.false_and]
  by_cases h:(c.1.length:Int)<1
  ·rw[if_pos h]
  ·rw[if_neg h,if_pos (by omega)]
def eM(a b:Int)(i:Nat)(c:Int):Prop:=1≤a∧a≤12∧1≤b∧b≤4∧(0<i→c<a)
instance(a b:Int)(i:Nat)(c:Int):Decidable (eM a b i c):=by unfold eM;infer_instance
def dk(m:ax)(i:Nat):Prop:=eM (m.getD i bO).1 (m.getD i bO).2.1 i (m.getD (i-1) bO).1
instance(m:ax):DecidablePred (dk m):=fun i=>by unfold dk;infer_instance
def iw(m:ax):Bool:=decide (∀j,j<m.length→dk m j)&&true
theorem xX(N:Nat){m:ax}(hl:m.length≤100000)(hN:200000≤N):kf N m=some (iw m):=by
 unfold kf kf.b
 refine eb (F:=fun n i=>kf.l2 N n m m (m.length:Int) i) (dk m) (fun n i r hi hp hr=> ?_) (fun n=> ?_) N (by omega)
 ·unfold kf.l2 kf.dx
  rw[aK (by omega),cond_true,aN (by omega) (by omega),cond_true,Int.toNat_natCast,aq (x:=(i:Int)+1) (by omega) (by omega),ae]
  by_cases h0:0<i
  ·have e:W .i64 ((i:Int)-1)=((i-1:Nat):Int):=by rw[aq (by omega) (by omega)];omega
   dsimp only
   rw[aK (x:=0) (by omega),cond_true,e,Int.toNat_natCast,aN (by omega) (by omega),cond_true]
   simp only[bX,bH]
   by_cases hP:dk m i
   ·rw[if_pos hP];unfold dk eM at hP
    repeat' split
    all_goals first|rfl|exact hr|omega
   ·rw[if_neg hP];unfold dk eM at hP
    repeat' split
    all_goals first|rfl|exact hr|omega
  ·rw[aF (x:=0) (by omega),cond_false]
   simp only[bX,bH]
   by_cases hP:dk m i
   ·rw[if_pos hP];unfold dk eM at hP
    repeat' split
    all_goals first|rfl|exact hr|omega
   ·rw[if_neg hP];unfold dk eM at hP
    repeat' split
    all_goals first|rfl|exact hr|omega
 ·unfold kf.l2 kf.dx
  rw[aF (by omega),cond_false]
theorem nu(N:Nat){m:ax}(hl:m.length≤100000)(hN:200000≤N):jl N m=some (iw m):=by
 unfold jl jl.b
 refine eb (F:=fun n i=>jl.l2 N n m i) (dk m) (fun n i r hi hp hr=> ?_) (fun n=> ?_) N (by omega)
 ·unfold jl.l2 jl.dx
  rw[aK (by omega),cond_true,aN (by omega) (by omega),cond_true,Int.toNat_natCast,aq (x:=(i:Int)+1) (by omega) (by omega),ae]
  by_cases h0:0<i
  ·have e:W .i64 ((i:Int)-1)=((i-1:Nat):Int):=by rw[aq (by omega) (by omega)];omega
   dsimp only
   rw[aK (x:=0) (by omega),e,Int.toNat_natCast,aN (i:=((i-1:Nat):Int)) (by omega) (by omega)]
   simp only[bX,bH,cond_true]
   by_cases hP:dk m i
   ·rw[if_pos hP];unfold dk eM at hP
    repeat' split
    all_goals first|rfl|exact hr|omega
   ·rw[if_neg hP];unfold dk eM at hP
    repeat' split
    all_goals first|rfl|exact hr|omega
  ·rw[aF (x:=0) (by omega)]
   simp only[bX,bH,cond_true,cond_false]
   by_cases hP:dk m i
   ·rw[if_pos hP];unfold dk eM at hP
    repeat' split
    all_goals first|rfl|exact hr|omega
   ·rw[if_neg hP];unfold dk eM at hP
    repeat' split
    all_goals first|rfl|exact hr|omega
 ·unfold jl.l2 jl.dx
  rw[aF (by omega),cond_false]
end VM
end
section
namespace VM
open Go VM.F
def eN(k n:Int):Prop:=(1≤k∧k≤4∧n=0)∨(k=5∧1≤n∧n≤24)∨(6≤k∧k≤7∧1≤n∧n≤12)
instance(k n:Int):Decidable (eN k n):=by unfold eN;infer_instance
theorem G1(N:Nat)(k n:Int):G4 N k n=some (decide (eN k n)):=by
 unfold G4
 simp only[aG,bH]
 simp only[iL,eL]
 by_cases hP:eN k n
 ·rw[decide_eq_true hP];unfold eN at hP
  repeat' split
  all_goals first|rfl|omega|(rw[decide_eq_true (by omega)])
 ·rw[decide_eq_false hP];unfold eN at hP
  repeat' split
  all_goals first|rfl|omega|(rw[decide_eq_false (by omega)])
theorem Qh(N:Nat)(k n:Int):G6 N k n=some (decide (eN k n)):=by
 have:=G1 N k n
 unfold G4 at this
 unfold G6
 exact this
def ix(a b c d:Int):Prop:=a<c∨(a=c∧b<d)
instance(a b c d:Int):Decidable (ix a b c d):=by unfold ix;infer_instance
def uO(k n a b:Int):Int:=if k=a then n-b else k-a
def zQ(x:Int):Prop:= -1000000≤x∧x≤1000000
theorem xY(N:Nat){k n:Int}{r:cy}(h1:zQ k)(h2:zQ n)(h3:zQ r.1)(h4:zQ r.2.1):G7 N k n r=some (uO k n r.1 r.2.1):=by
 unfold G7 uO
 unfold zQ at*
 rw[cond_not,aG]
 split
 ·rw[aq (by omega) (by omega)]
 ·rw[aq (by omega) (by omega)]
theorem Aw(N:Nat){k n:Int}{r:cy}(h1:zQ k)(h2:zQ n)(h3:zQ r.1)(h4:zQ r.2.1):Ke N k n r=some (uO k n r.1 r.2.1):=xY N h1 h2 h3 h4
def hZ(a b c:Int)(i:Nat)(d e:Int):Prop:=eN a b∧c≠0∧(0<i→ix d e a b)
instance(a b c:Int)(i:Nat)(d e:Int):Decidable (hZ a b c i d e):=by unfold hZ;infer_instance
def gS(l:aj)(i:Nat):Prop:=hZ (l.getD i a7).1 (l.getD i a7).2.1 (l.getD i a7).2.2.1 i (l.getD (i-1) a7).1 (l.getD (i-1) a7).2.1
instance(l:aj):DecidablePred (gS l):=fun i=>by unfold gS;infer_instance
def fx(l:aj):Bool:=decide (∀j,j<l.length→gS l j)&&true
theorem BQ(N:Nat){l:aj}(hl:l.length≤100000)(hN:200000≤N):uP N l=some (fx l):=by
 unfold uP uP.b
 refine eb (F:=fun n i=>uP.l2 N n l l (l.length:Int) i) (gS l) (fun n i r hi hp hr=> ?_) (fun n=> ?_) N (by omega)
 ·unfold uP.l2 uP.dx
  rw[aK (by omega),cond_true,aN (by omega) (by omega),cond_true,Int.toNat_natCast,aq (x:=(i:Int)+1) (by omega) (by omega),ae,G1,Option.bind_some,cond_not,dj]
  by_cases hK:eN (l.getD i a7).1 (l.getD i a7).2.1
  ·rw[if_pos hK]
   by_cases h0:0<i
   ·have hq:=hp (i-1) (by omega)
    have e:W .i64 ((i:Int)-1)=((i-1:Nat):Int):=by rw[aq (by omega) (by omega)];omega
    dsimp only
    rw[aK (x:=0) (by omega),cond_true,e,Int.toNat_natCast,aN (by omega) (by omega),cond_true]
    unfold gS hZ at hq
    have hq:=hq.1
    rw[xY N (by unfold eN at hK;unfold zQ;omega) (by unfold eN at hK;unfold zQ;omega) (by unfold eN at hq;unfold zQ;omega) (by unfold eN at hq;unfold zQ;omega),Option.bind_some,aG,bH]
    by_cases hP:gS l i
    ·rw[if_pos hP];unfold gS hZ ix at hP;unfold uO
     have G8:=hP.2
     repeat' split
     all_goals first|rfl|exact hr|omega
    ·rw[if_neg hP];unfold gS hZ ix at hP;unfold uO
     have G8:=fun h=>hP ⟨hK,h⟩
     repeat' split
     all_goals first|rfl|exact hr|omega|(exfalso;exact G8 (by omega))
   ·rw[aF (x:=0) (by omega),cond_false,aG]
    by_cases hP:gS l i
    ·rw[if_pos hP];unfold gS hZ at hP
     rw[if_neg hP.2.1];exact hr
    ·rw[if_neg hP];unfold gS hZ at hP
     have G8:=fun h=>hP ⟨hK,h,fun h=>absurd h h0⟩
     split
     ·rfl
     ·exact absurd (by assumption) G8
  ·rw[if_neg hK,if_neg (fun h=>hK (by unfold gS hZ at h;exact h.1))]
 ·unfold uP.l2 uP.dx
  rw[aF (by omega),cond_false]
theorem xZ(N:Nat){l:aj}(hl:l.length≤100000)(hN:200000≤N):uQ N l=some (fx l):=by
 unfold uQ uQ.b
 refine eb (F:=fun n i=>uQ.l2 N n l i) (gS l) (fun n i r hi hp hr=> ?_) (fun n=> ?_) N (by omega)
 ·unfold uQ.l2 uQ.dx
  rw[aK (by omega),cond_true,aN (by omega) (by omega),cond_true,Int.toNat_natCast,aq (x:=(i:Int)+1) (by omega) (by omega),ae,Qh,Option.bind_some,cond_not,dj]
  by_cases hK:eN (l.getD i a7).1 (l.getD i a7).2.1
  ·rw[if_pos hK]
   by_cases h0:0<i
   ·have e:W .i64 ((i:Int)-1)=((i-1:Nat):Int):=by rw[aq (by omega) (by omega)];omega
    dsimp only
    rw[aK (x:=0) (by omega),e,Int.toNat_natCast,aN (i:=((i-1:Nat):Int)) (by omega) (by omega)]
    simp only[bX,bH,aG,cond_true]
    by_cases hP:gS l i
    ·rw[if_pos hP];unfold gS hZ ix at hP
     have G8:=hP.2
     repeat' split
     all_goals first|rfl|exact hr|omega
    ·rw[if_neg hP];unfold gS hZ ix at hP
     have G8:=fun h=>hP ⟨hK,h⟩
     repeat' split
     all_goals first|rfl|exact hr|omega|(exfalso;exact G8 (by omega))
   ·rw[aF (x:=0) (by omega)]
    simp only[bX,bH,aG,cond_true,cond_false]
    by_cases hP:gS l i
    ·rw[if_pos hP];unfold gS hZ at hP
     rw[if_neg hP.2.1];exact hr
    ·rw[if_neg hP];unfold gS hZ at hP
     have G8:=fun h=>hP ⟨hK,h,fun h=>absurd h h0⟩
     split
     ·rfl
     ·exact absurd (by assumption) G8
  ·rw[if_neg hK,if_neg (fun h=>hK (by unfold gS hZ at h;exact h.1))];rfl
 ·unfold uQ.l2 uQ.dx
  rw[aF (by omega),cond_false]
end VM
end
section
namespace VM
open Go VM.F
def ck(a b:Int):Prop:=0≤a∧a≤24∧0≤b∧b<6
instance(a b:Int):Decidable (ck a b):=by unfold ck;infer_instance
theorem IV(N:Nat)(a b:Int):MR N a b=some (decide (ck a b)):=by
 unfold MR
 simp only[bH]
 simp only[rU]
 by_cases hP:ck a b
 ·rw[decide_eq_true hP];unfold ck at hP
  repeat' split
  all_goals first|rfl|omega|(rw[decide_eq_true (by omega)])
 ·rw[decide_eq_false hP];unfold ck at hP
  repeat' split
  all_goals first|rfl|omega|(rw[decide_eq_false (by omega)])
def ya(q:Int):Prop:=q≠ -9223372036854775808
instance(q:Int):Decidable (ya q):=by unfold ya;infer_instance
theorem nv(N:Nat)(q:Int):G9 N q=some (decide (ya q)):=by
 unfold G9 ya
 rw[eL]
 by_cases h:q= -9223372036854775808<;>simp[h]
def iW(a b c:Int)(i:Nat)(d e:Int):Prop:=ck a b∧c≠0∧ya c∧(0<i→ix d e a b)
instance(a b c:Int)(i:Nat)(d e:Int):Decidable (iW a b c i d e):=by unfold iW;infer_instance
def iy(l:aj)(i:Nat):Prop:=iW (l.getD i a7).1 (l.getD i a7).2.1 (l.getD i a7).2.2.1 i (l.getD (i-1) a7).1 (l.getD (i-1) a7).2.1
instance(l:aj):DecidablePred (iy l):=fun i=>by unfold iy;infer_instance
def dI(l:aj):Bool:=decide (∀j,j<l.length→iy l j)&&true
theorem yb(N:Nat){l:aj}(hl:l.length≤100000)(hN:200000≤N):jD N l=some (dI l):=by
 unfold jD jD.b
 refine eb (F:=fun n i=>jD.l2 N n l l (l.length:Int) i) (iy l) (fun n i r hi hp hr=> ?_) (fun n=> ?_) N (by omega)
 ·unfold jD.l2 jD.dx
  rw[aK (by omega),cond_true,aN (by omega) (by omega),cond_true,Int.toNat_natCast,aq (x:=(i:Int)+1) (by omega) (by omega),ae,IV,Option.bind_some,cond_not,dj,nv,Option.bind_some,cond_not,dj]
  by_cases hK:ck (l.getD i a7).1 (l.getD i a7).2.1
  ·rw[if_pos hK]
   by_cases h0:0<i
   ·have hq:=hp (i-1) (by omega)
    have e:W .i64 ((i:Int)-1)=((i-1:Nat):Int):=by rw[aq (by omega) (by omega)];omega
    dsimp only
    rw[aK (x:=0) (by omega),cond_true,e,Int.toNat_natCast,aN (by omega) (by omega),cond_true]
    unfold iy iW at hq
    have hq:=hq.1
    rw[Aw N (by unfold ck at hK;unfold zQ;omega) (by unfold ck at hK;unfold zQ;omega) (by unfold ck at hq;unfold zQ;omega) (by unfold ck at hq;unfold zQ;omega),Option.bind_some,aG,bH]
    by_cases hP:iy l i
    ·rw[if_pos hP];unfold iy iW ix at hP;unfold uO
     obtain⟨_,hP1,G8,hP3⟩:=hP
     rw[if_pos G8]
     repeat' split
     all_goals first|rfl|exact hr|omega
    ·rw[if_neg hP];unfold iy iW ix at hP;unfold uO
     have G8:=fun h1 h2 h3=>hP ⟨hK,h1,h2,h3⟩
     repeat' split
     all_goals first|rfl|exact hr|(exfalso;exact G8 (by assumption) (by assumption) (by omega))|omega
   ·rw[aF (x:=0) (by omega),cond_false,aG]
    by_cases hP:iy l i
    ·rw[if_pos hP];unfold iy iW at hP
     rw[if_neg hP.2.1,if_pos hP.2.2.1];exact hr
    ·rw[if_neg hP];unfold iy iW at hP
     have G8:=fun h1 h2=>hP ⟨hK,h1,h2,fun h=>absurd h h0⟩
     split
     ·rfl
     ·split
      ·exact(G8 (by assumption) (by assumption)).elim
      ·rfl
  ·rw[if_neg hK,if_neg (fun h=>hK (by unfold iy iW at h;exact h.1))]
 ·unfold jD.l2 jD.dx
  rw[aF (by omega),cond_false]
theorem lN(N:Nat){l:aj}(hl:l.length≤100000)(hN:200000≤N):sP N l=some (dI l):=by
 unfold sP sP.b
 refine eb (F:=fun n i=>sP.l2 N n l i) (iy l) (fun n i r hi hp hr=> ?_) (fun n=> ?_) N (by omega)
 ·unfold sP.l2 sP.dx
  rw[aK (by omega),cond_true,aN (by omega) (by omega),cond_true,Int.toNat_natCast,aq (x:=(i:Int)+1) (by omega) (by omega),ae]
  by_cases h0:0<i
  ·have e:W .i64 ((i:Int)-1)=((i-1:Nat):Int):=by rw[aq (by omega) (by omega)];omega
   dsimp only
   rw[aK (x:=0) (y:=(i:Int)) (by omega),e,Int.toNat_natCast,aN (i:=((i-1:Nat):Int)) (by omega) (by omega)]
   simp only[bX,bH,aG,cond_true]
   by_cases hP:iy l i
   ·rw[if_pos hP];unfold iy iW ix ya ck at hP
    repeat' split
    all_goals first|rfl|exact hr|omega
   ·rw[if_neg hP];unfold iy iW ix ya ck at hP
    repeat' split
    all_goals first|rfl|exact hr|omega|(exfalso;exact hP (by omega))
  ·rw[aF (x:=0) (y:=(i:Int)) (by omega)]
   simp only[bX,bH,aG,cond_true,cond_false]
   by_cases hP:iy l i
   ·rw[if_pos hP];unfold iy iW ix ya ck at hP
    repeat' split
    all_goals first|rfl|exact hr|omega
   ·rw[if_neg hP];unfold iy iW ix ya ck at hP
    repeat' split
    all_goals first|rfl|exact hr|omega|(exfalso;exact hP (by omega))
 ·unfold sP.l2 sP.dx
  rw[aF (by omega),cond_false]
theorem dS(a b:Int)(y:Bool):cond (bS a b) (some y) (some false)=some (decide (a≤b)&&y):=by
 rw[bH];by_cases h:a≤b<;>simp[h]
theorem yc(a b:Int)(y:Bool):cond (aM a b) (some y) (some false)=some (decide (a<b)&&y):=by
 rw[bX];by_cases h:a<b<;>simp[h]
theorem tx(a b:Int)(y:Bool):cond (az a b) (some y) (some false)=some (decide (a=b)&&y):=by
 rw[aG];by_cases h:a=b<;>simp[h]
theorem uR(a b:Int)(y z:Bool):cond (az a b) (some y) (some z)=some ((decide (a=b)&&y)||(!decide (a=b)&&z)):=by
 rw[aG];by_cases h:a=b<;>simp[h]
def sr(a b c d e f:Int):Prop:=(1≤a∧a≤1099511627776)∧(1≤b∧b≤24)∧(0≤c∧c<6)∧(d=1∨d=2)∧(1≤e∧e≤1000000000)∧(1≤f∧f≤1000000000000)
instance(a b c d e f:Int):Decidable (sr a b c d e f):=by unfold sr;infer_instance
def qp(o:fG):Prop:=sr o.1 o.2.1 o.2.2.1 o.2.2.2.1 o.2.2.2.2.1 o.2.2.2.2.2.1
instance(o:fG):Decidable (qp o):=by unfold qp;infer_instance
theorem Xs(N:Nat)(o:fG):Qi N o=some (decide (qp o)):=by
 unfold Qi
 rw[iL o.2.2.2.2.2.1]
 rw[dS,dS,dS,tx,uR,yc,dS,dS,dS,dS,dS]
 congr 1
 rw[Bool.eq_iff_iff,decide_eq_true_iff]
 unfold qp sr
 simp only[Bool.and_eq_true,Bool.or_eq_true,Bool.not_eq_true',decide_eq_true_eq,decide_eq_false_iff_not]
 omega
end VM
end
section
namespace VM
open Go VM.F
theorem Ax(N:Nat)(p:Int):F85 N p=some (decide (1≤p∧p≤1000000000000)):=by
 unfold F85
 rw[iL p,dS];congr 1
 rw[Bool.eq_iff_iff];simp only[Bool.and_eq_true,decide_eq_true_eq]
theorem iz(N:Nat)(p:Int):wD N p=some (decide (1≤p∧p≤1000000000000)):=Ax N p
theorem w4(N:Nat)(o:fG):Ha N o=some (decide (qp o)):=by
 unfold Ha
 rw[iz,Option.bind_some]
 repeat (first|rw[dS]|rw[yc]|rw[tx]|rw[uR])
 congr 1
 rw[Bool.eq_iff_iff,decide_eq_true_iff]
 unfold qp sr
 simp only[Bool.and_eq_true,Bool.or_eq_true,Bool.not_eq_true',decide_eq_true_eq,decide_eq_false_iff_not]
 omega
def lO(i:Nat)(a b:Int):Prop:=0<i→a<b
instance(i:Nat)(a b:Int):Decidable (lO i a b):=by unfold lO;infer_instance
def oX(l:a6)(i:Nat):Prop:=qp (l.getD i dZ)∧lO i (l.getD (i-1) dZ).1 (l.getD i dZ).1
instance(l:a6):DecidablePred (oX l):=fun i=>by unfold oX;infer_instance
def iX(l:a6):Bool:=decide (∀j,j<l.length→oX l j)&&decide (l.length≤32)
theorem Kf(N:Nat){l:a6}(hl:l.length≤100000)(hN:200000≤N):wE N l=some (iX l):=by
 unfold wE wE.b
 refine eb (F:=fun n i=>wE.l2 N n l l (l.length:Int) i) (oX l) (fun n i r hi hp hr=> ?_) (fun n=> ?_) N (by omega)
 ·unfold wE.l2 wE.dx
  rw[aK (by omega),cond_true,aN (by omega) (by omega),cond_true,Int.toNat_natCast,aq (x:=(i:Int)+1) (by omega) (by omega),ae,Xs,Option.bind_some,cond_not,dj]
  by_cases hK:qp (l.getD i dZ)
  ·rw[if_pos hK]
   by_cases h0:0<i
   ·have e:W .i64 ((i:Int)-1)=((i-1:Nat):Int):=by rw[aq (by omega) (by omega)];omega
    dsimp only
    rw[aK (x:=0) (by omega),cond_true,e,Int.toNat_natCast,aN (by omega) (by omega),cond_true,bH]
    by_cases hP:oX l i
    ·rw[if_pos hP,if_neg (by have h2:=hP.2;unfold lO at h2;omega)];exact hr
    ·rw[if_neg hP,if_pos]
     have h2: ¬lO i (l.getD (i-1) dZ).1 (l.getD i dZ).1:=fun h=>hP ⟨hK,h⟩
     unfold lO at h2
     omega
   ·rw[aF (x:=0) (by omega),cond_false,if_pos ⟨hK,fun h=>absurd h h0⟩];exact hr
  ·rw[if_neg hK,if_neg (fun h=>hK h.1)]
 ·unfold wE.l2 wE.dx
  rw[aF (by omega),cond_false,iL]
  congr 1;rw[decide_eq_decide];omega
theorem jE(N:Nat){l:a6}(hl:l.length≤100000)(hN:200000≤N):iF N l=some (iX l):=by
 unfold iF iF.b
 by_cases h32:32<l.length
 ·rw[aK (by omega),cond_true];unfold iX
  rw[decide_eq_false (p:=l.length≤32) (by omega),Bool.and_false]
 rw[aF (by omega),cond_false]
 have:=eb (F:=fun n i=>iF.l4 N n l i) (e:=true) (oX l) (fun n i r hi hp hr=> ?_) (fun n=> ?_) N (show l.length<N by omega)
 ·refine Eq.trans this ?_
  unfold iX
  rw[decide_eq_true (p:=l.length≤32) (by omega)]
 ·unfold iF.l4 iF.cL
  rw[aK (by omega),cond_true,aN (by omega) (by omega),cond_true,Int.toNat_natCast,aq (x:=(i:Int)+1) (by omega) (by omega),ae,w4,Option.bind_some,cond_not,dj]
  by_cases hK:qp (l.getD i dZ)
  ·rw[if_pos hK]
   by_cases h0:0<i
   ·have e:W .i64 ((i:Int)-1)=((i-1:Nat):Int):=by rw[aq (by omega) (by omega)];omega
    dsimp only
    rw[aK (x:=0) (by omega),cond_true,cond_true,e,Int.toNat_natCast,aN (by omega) (by omega),cond_true,bH]
    by_cases hP:oX l i
    ·rw[if_pos hP,if_neg (by have h2:=hP.2;unfold lO at h2;omega)];exact hr
    ·rw[if_neg hP,if_pos]
     have h2: ¬lO i (l.getD (i-1) dZ).1 (l.getD i dZ).1:=fun h=>hP ⟨hK,h⟩
     unfold lO at h2
     omega
   ·rw[aF (x:=0) (by omega),cond_false,if_pos ⟨hK,fun h=>absurd h h0⟩];exact hr
  ·rw[if_neg hK,if_neg (fun h=>hK h.1)]
 ·unfold iF.l4 iF.cL
  rw[aF (by omega),cond_false]
end VM
end
section
namespace VM
open Go VM.F
def gm(id:Int):ax→Int
 |[]=>0
 |x::t=>if x.1=id then x.2.1 else gm id t
def tz(id:Int):ay→bp×Bool
 |[]=>(aA,false)
 |x::t=>if x.1=id then(x,true)else tz id t
def ia(id:Int):ay→Int
 |[]=>0
 |x::t=>if x.2.1=id then(if x.2.2.1=1 then x.1 else ia id t)else ia id t
theorem tA(id:Int)(x:Kg)(t:ax):gm id (x::t)=if x.1=id then x.2.1 else gm id t:=rfl
theorem ss(id:Int)(x:bp)(t:ay):tz id (x::t)=if x.1=id then(x,true)else tz id t:=rfl
theorem nw(id:Int)(x:bp)(t:ay):ia id (x::t)=if x.2.1=id then(if x.2.2.1=1 then x.1 else ia id t)else ia id t:=rfl
theorem DX(N:Nat){m:ax}(hl:m.length≤100000)(hN:200000≤N)(id:Int):tB.l4 N N id m (m.length:Int) 0=some (gm id m):=by
 refine rO m bO (fun n i=>tB.l4 N n id m (m.length:Int) i) (fun l=>some (gm id l)) (fun n i hi hr=> ?_) (fun n=> ?_) N (by omega)
 ·unfold tB.l4 tB.cL
  rw[aK (by omega),cond_true,aN (by omega) (by omega),cond_true,Int.toNat_natCast,aq (x:=(i:Int)+1) (by omega) (by omega),ae,hr,aG]
  rw[tA]
  split<;>rfl
 ·unfold tB.l4 tB.cL
  rw[aF (by omega),cond_false];rfl
theorem jF(N:Nat){m:ax}(hl:m.length≤100000)(hN:200000≤N)(id:Int):iG N m id=some (gm id m):=by
 unfold iG iG.b
 refine rO m bO (fun n i=>iG.l2 N n m id i) (fun l=>some (gm id l)) (fun n i hi hr=> ?_) (fun n=> ?_) N (by omega)
 ·unfold iG.l2 iG.dx
  rw[aK (by omega),cond_true,aN (by omega) (by omega),cond_true,cond_true,Int.toNat_natCast,aq (x:=(i:Int)+1) (by omega) (by omega),ae,hr,aG]
  rw[tA]
  split<;>rfl
 ·unfold iG.l2 iG.dx
  rw[aF (by omega),cond_false];rfl
def fU(m:ax)(id:Int):Int:=if iw m then gm id m else 0
theorem uS(N:Nat){m:ax}(hl:m.length≤100000)(hN:200000≤N)(id:Int):tB N m id=some (fU m id):=by
 unfold tB tB.b fU
 rw[xX N hl hN,Option.bind_some,cond_not,DX N hl hN]
 cases iw m<;>rfl
theorem yd(N:Nat){m:ax}(hl:m.length≤100000)(hN:200000≤N)(id:Int):tC N m id=some (fU m id):=by
 unfold tC fU
 rw[nu N hl hN,Option.bind_some,cond_not,jF N hl hN]
 cases iw m<;>rfl
theorem Kh(N:Nat){m:ay}(hl:m.length≤100000)(hN:200000≤N)(id:Int):kg.l4 N N id aA m (m.length:Int) 0=some (tz id m):=by
 refine rO m aA (fun n i=>kg.l4 N n id aA m (m.length:Int) i) (fun l=>some (tz id l)) (fun n i hi hr=> ?_) (fun n=> ?_) N (by omega)
 ·unfold kg.l4 kg.cL
  rw[aK (by omega),cond_true,aN (by omega) (by omega),cond_true,Int.toNat_natCast,aq (x:=(i:Int)+1) (by omega) (by omega),ae,hr,aG]
  rw[ss]
  split<;>rfl
 ·unfold kg.l4 kg.cL
  rw[aF (by omega),cond_false];rfl
theorem tD(N:Nat){m:ay}(hl:m.length≤100000)(hN:200000≤N)(id:Int):jm N m id=some (tz id m):=by
 unfold jm jm.b
 refine rO m aA (fun n i=>jm.l2 N n m id aA i) (fun l=>some (tz id l)) (fun n i hi hr=> ?_) (fun n=> ?_) N (by omega)
 ·unfold jm.l2 jm.dx
  rw[aK (by omega),cond_true,aN (by omega) (by omega),cond_true,cond_true,Int.toNat_natCast,aq (x:=(i:Int)+1) (by omega) (by omega),ae,hr,aG]
  rw[ss]
  split<;>rfl
 ·unfold jm.l2 jm.dx
  rw[aF (by omega),cond_false];rfl
theorem Hb(N:Nat){m:ay}(hl:m.length≤100000)(hN:200000≤N)(id:Int):vI.l4 N N id m (m.length:Int) 0=some (ia id m):=by
 refine rO m aA (fun n i=>vI.l4 N n id m (m.length:Int) i) (fun l=>some (ia id l)) (fun n i hi hr=> ?_) (fun n=> ?_) N (by omega)
 ·unfold vI.l4 vI.cL
  rw[aK (by omega),cond_true,aN (by omega) (by omega),cond_true,Int.toNat_natCast,aq (x:=(i:Int)+1) (by omega) (by omega),ae,hr,aG,aG]
  rw[nw]
  split
  ·split<;>rfl
  ·rfl
 ·unfold vI.l4 vI.cL
  rw[aF (by omega),cond_false];rfl
theorem DY(N:Nat){m:ay}(hl:m.length≤100000)(hN:200000≤N)(id:Int):su.l4 N N m id 0=some (ia id m):=by
 refine rO m aA (fun n i=>su.l4 N n m id i) (fun l=>some (ia id l)) (fun n i hi hr=> ?_) (fun n=> ?_) N (by omega)
 ·unfold su.l4 su.cL
  rw[aK (by omega),cond_true,aN (by omega) (by omega)]
  simp only[cond_true]
  rw[Int.toNat_natCast,aq (x:=(i:Int)+1) (by omega) (by omega),ae,hr,aG,aG]
  rw[nw]
  split
  ·split<;>rfl
  ·rfl
 ·unfold su.l4 su.cL
  rw[aF (by omega),cond_false];rfl
end VM
end
section
namespace VM
open Go VM.F
def fH(a b:Int):Prop:=a=b
instance(a b:Int):Decidable (fH a b):=by unfold fH;infer_instance
def rP(l:ay)(k:Nat)(m:Int):Prop:=fH (l.getD k aA).2.2.1 1∧fH (l.getD k aA).2.1 m
instance(l:ay)(k:Nat)(m:Int):Decidable (rP l k m):=by unfold rP;infer_instance
def gZ(l:ay)(i:Nat)(m:Int):Bool:=(List.range i).any fun k=>decide (rP l k m)
theorem DZ{l:ay}{i:Nat}{m:Int}:gZ l i m=true↔ ∃k,k<i∧rP l k m:=by
 unfold gZ
 rw[List.any_eq_true]
 simp only[List.mem_range,decide_eq_true_iff]
theorem oY(l:ay)(i:Nat)(m:Int):gZ l (i+1) m=(gZ l i m||decide (rP l i m)):=by
 unfold gZ
 rw[List.range_succ,List.any_append];simp
def iY(a b c d:Int):Prop:=(1≤a∧a≤24)∧(1≤b∧b≤12)∧(c=1∨c=2)∧(0≤d∧d≤1000000000000)
instance(a b c d:Int):Decidable (iY a b c d):=by unfold iY;infer_instance
def fV(l:ay)(i:Nat):Prop:= ¬(fH (l.getD i aA).2.2.1 1∧gZ l i (l.getD i aA).2.1=true)
instance(l:ay)(i:Nat):Decidable (fV l i):=by unfold fV;infer_instance
def tE(l:ay)(i:Nat):Prop:=iY (l.getD i aA).1 (l.getD i aA).2.1 (l.getD i aA).2.2.1 (l.getD i aA).2.2.2.1∧lO i (l.getD (i-1) aA).1 (l.getD i aA).1∧fV l i
instance(l:ay):DecidablePred (tE l):=fun i=>by unfold tE;infer_instance
def ib(l:ay):Bool:=decide (∀j,j<l.length→tE l j)&&true
def c8(l:ay)(i:Nat):List Bool:=(List.range 13).map fun(m:Nat)=>gZ l i (m:Int)
theorem Ki{l:ay}{i:Nat}{b:Int}(h0:0≤b)(h1:b<13):(c8 l i).getD b.toNat false=gZ l i b:=by
 unfold c8
 rw[List.getD_eq_getElem?_getD,List.getElem?_map,List.getElem?_range (by omega)]
 show gZ l i ((b.toNat:Nat):Int)=_
 rw[Int.toNat_of_nonneg h0]
theorem D0{l:ay}{i:Nat}(h: ¬fH (l.getD i aA).2.2.1 1):c8 l (i+1)=c8 l i:=by
 unfold c8
 refine List.map_congr_left fun m _=> ?_
 rw[oY,decide_eq_false (fun h'=>h h'.1),Bool.or_false]
theorem Hc{l:ay}{i:Nat}(h:fH (l.getD i aA).2.2.1 1)(h0:(0:Int)≤(l.getD i aA).2.1):(c8 l i).set ((l.getD i aA).2.1:Int).toNat true=c8 l (i+1):=by
 refine List.ext_getElem (by unfold c8;simp) fun k h1 h2=> ?_
 unfold c8 at*
 rw[List.getElem_set]
 simp only[List.getElem_map,List.getElem_range]
 rw[oY]
 by_cases hk:((l.getD i aA).2.1:Int).toNat=k
 ·rw[if_pos hk,decide_eq_true (show rP l i (k:Int)from⟨h,by unfold fH;omega⟩),Bool.or_true]
 ·rw[if_neg hk,decide_eq_false (fun h':rP l i (k:Int)=>hk (by have:=h'.2;unfold fH at this;omega)),Bool.or_false]
theorem BR(N:Nat){l:ay}(hl:l.length≤100000)(hN:200000≤N):ic N l=some (ib l):=by
 unfold ic ic.b
 have h0:(List.replicate 13 false:List Bool)=c8 l 0:=by unfold c8 gZ;rfl
 rw[h0]
 have:=eb (F:=fun n i=>ic.l3 N n l (c8 l i.toNat) l (l.length:Int) i) (e:=true) (tE l) (fun n i r hi hp hr=> ?_) (fun n=> ?_) N (show l.length<N by omega)
 ·exact this
 ·simp only[Int.toNat_natCast]at hr ⊢
  unfold ic.l3 ic.iE
  rw[aK (by omega),cond_true,aN (by omega) (by omega),cond_true]
  simp only[Int.toNat_natCast]
  rw[aq (x:=(i:Int)+1) (by omega) (by omega),ae]
  by_cases hF:iY (l.getD i aA).1 (l.getD i aA).2.1 (l.getD i aA).2.2.1 (l.getD i aA).2.2.2.1
  ·have hF':=hF
   unfold iY at hF'
   have hT:cond (az (l.getD i aA).2.2.1 1) (cond (aL (l.getD i aA).2.1 13) (cond (List.getD (c8 l i) (l.getD i aA).2.1.toNat false) (some false) (cond (aL (l.getD i aA).2.1 13) (ic.l3 N n l (List.set (c8 l i) (l.getD i aA).2.1.toNat true) l (l.length:Int) ((i+1:Nat):Int)) none)) none) (ic.l3 N n l (c8 l i) l (l.length:Int) ((i+1:Nat):Int))=if fV l i then r else some false:=by
    rw[aG]
    by_cases hk:fH (l.getD i aA).2.2.1 1
    ·have zA:=hk
     unfold fH at zA
     rw[if_pos zA,aN (by omega) (by omega),cond_true,cond_true,Ki (by omega) (by omega),Hc hk (by omega),hr]
     by_cases ho:gZ l i (l.getD i aA).2.1=true
     ·have pB: ¬fV l i:=fun h=>h ⟨hk,ho⟩
      rw[if_neg pB,ho];rfl
     ·have pB:fV l i:=fun h=>ho h.2
      rw[if_pos pB,Bool.eq_false_iff.2 ho];rfl
    ·have zA:=hk
     unfold fH at zA
     rw[if_neg zA,if_pos (show fV l i from fun h=>hk h.1),←D0 hk,hr]
   have hP:tE l i↔lO i (l.getD (i-1) aA).1 (l.getD i aA).1∧fV l i:=⟨fun h=>h.2,fun h=>⟨hF,h⟩⟩
   have hD:(if tE l i then r else some false)=if lO i (l.getD (i-1) aA).1 (l.getD i aA).1 then(if fV l i then r else some false)else some false:=by
    by_cases h1:lO i (l.getD (i-1) aA).1 (l.getD i aA).1<;>by_cases h2:fV l i<;>simp[hP,h1,h2]
   rw[hD]
   rw[hT]
   rw[aF (by omega),cond_false,aF (by omega),cond_false,aF (by omega),cond_false,aF (by omega),cond_false,aF (x:=(l.getD i aA).2.2.2.1) (by omega),aF (x:=1000000000000) (by omega)]
   simp only[cond_false]
   have hm: ∀{α:Type} (x:α) (y:α),cond (!az (l.getD i aA).2.2.1 1) (cond (!az (l.getD i aA).2.2.1 2) y x) x=x:=by
    intro α x y
    rcases hF'.2.2.1 with h|h
    ·rw[cg h];rfl
    ·rw[cg (y:=2) h];cases az (l.getD i aA).2.2.1 1<;>rfl
   rw[hm]
   by_cases h0:0<i
   ·have e:W .i64 ((i:Int)-1)=((i-1:Nat):Int):=by rw[aq (by omega) (by omega)];omega
    rw[aK (x:=0) (by omega),cond_true,e,Int.toNat_natCast,aN (by omega) (by omega),cond_true,bH]
    by_cases h1:lO i (l.getD (i-1) aA).1 (l.getD i aA).1
    ·rw[if_pos h1,if_neg (by unfold lO at h1;omega)]
    ·rw[if_neg h1,if_pos (by unfold lO at h1;omega)]
   ·rw[aF (x:=0) (by omega),cond_false,if_pos (show lO i (l.getD (i-1) aA).1 (l.getD i aA).1 from fun h=>absurd h h0)]
  ·rw[if_neg (fun h=>hF h.1)]
   unfold iY at hF
   generalize cond (az (l.getD i aA).2.2.1 1) (cond (aL (l.getD i aA).2.1 13) (cond (List.getD (c8 l i) (l.getD i aA).2.1.toNat false) (some false) (cond (aL (l.getD i aA).2.1 13) (ic.l3 N n l (List.set (c8 l i) (l.getD i aA).2.1.toNat true) l (l.length:Int) ((i+1:Nat):Int)) none)) none) (ic.l3 N n l (c8 l i) l (l.length:Int) ((i+1:Nat):Int))=t
   generalize cond (aM 0 (i:Int)) _ _=u
   simp only[cond_not,bX,aG]
   repeat' split
   all_goals first|rfl|omega
 ·unfold ic.l3 ic.iE
  rw[aF (by omega),cond_false]
end VM
end
section
namespace VM
open Go VM.F
theorem uT(N:Nat)(K:ay→Int→Option Bool){l:ay}(hl:l.length≤100000){i:Nat}(hi:i<l.length): ∀(m n k:Nat),i-k≤m→m<n→k≤i→(fH (l.getD i aA).2.2.1 1→gZ l k (l.getD i aA).2.1=false)→
  g2.l8 N K n l (i:Int) (l.getD i aA) (k:Int)=if fV l i then K l ((i+1:Nat):Int)else some false
 |m,0,k,_,hn,_,_=>by omega
 |m,n+1,k,hm,hn,hk,h=>by
  unfold g2.l8 g2.w5
  by_cases xA:k<i
  ·rw[aK (by omega),cond_true,aN (by omega) (by omega),cond_true,cond_true,Int.toNat_natCast,aq (x:=(k:Int)+1) (by omega) (by omega),ae,aG,aG,aG]
   by_cases h1:fH (l.getD i aA).2.2.1 1
   ·have kO:=h1
    unfold fH at kO
    rw[if_pos kO]
    by_cases h2:rP l k (l.getD i aA).2.1
    ·have rM:=h2
     unfold rP fH at rM
     have pB: ¬fV l i:=fun h3=>h3 ⟨h1,DZ.2 ⟨k,xA,h2⟩⟩
     rw[if_pos rM.1,if_pos rM.2,if_neg pB]
    ·have tw:=uT N K hl hi (m-1) n (k+1) (by omega) (by omega) (by omega) (fun _=>by rw[oY,h h1,decide_eq_false h2];rfl)
     split
     ·split
      ·rename_i h3 h4
       exact absurd (show rP l k (l.getD i aA).2.1 from⟨h3,h4⟩) h2
      ·exact tw
     ·exact tw
   ·have kO:=h1
    unfold fH at kO
    rw[if_neg kO]
    exact uT N K hl hi (m-1) n (k+1) (by omega) (by omega) (by omega) (fun h=>absurd h h1)
  ·have:k=i:=by omega
   subst this
   have pB:fV l k:=fun h3=>by rw[h h3.1]at h3;exact nomatch h3.2
   rw[aF (by omega),cond_false,if_pos pB,aq (x:=(k:Int)+1) (by omega) (by omega)];rfl
set_option maxHeartbeats 2000000 in
theorem tF(N:Nat){l:ay}(hl:l.length≤100000)(hN:200000≤N):g2 N l=some (ib l):=by
 unfold g2 g2.b
 refine eb (F:=fun n i=>g2.l2 N n l i) (tE l) (fun n i r hi hp hr=> ?_) (fun n=> ?_) N (by omega)
 ·unfold g2.l2 g2.dx
  have hT:g2.j7 N (g2.l2 N n) l (i:Int) (l.getD i aA)=if fV l i then r else some false:=by
   unfold g2.j7 g2.Xt
   have:=uT N (g2.l2 N n) hl hi i N 0 (by omega) (by omega) (by omega) (fun _=>rfl)
   rw[hr]at this
   exact this
  rw[aK (by omega),cond_true,aN (by omega) (by omega),cond_true]
  simp only[Int.toNat_natCast]
  rw[hT]
  have hD:(if tE l i then r else some false)=if iY (l.getD i aA).1 (l.getD i aA).2.1 (l.getD i aA).2.2.1 (l.getD i aA).2.2.2.1∧lO i (l.getD (i-1) aA).1 (l.getD i aA).1 then(if fV l i then r else some false)else some false:=by
   unfold tE
   by_cases h1:lO i (l.getD (i-1) aA).1 (l.getD i aA).1<;>by_cases h2:fV l i<;>by_cases h3:iY (l.getD i aA).1 (l.getD i aA).2.1 (l.getD i aA).2.2.1 (l.getD i aA).2.2.2.1<;>simp[h1,h2,h3]
  rw[hD]
  generalize (if fV l i then r else some false)=t
  by_cases h0:0<i
  ·have e:W .i64 ((i:Int)-1)=((i-1:Nat):Int):=by rw[aq (by omega) (by omega)];omega
   rw[aK (x:=0) (y:=(i:Int)) (by omega),e]
   simp only[cond_true,Int.toNat_natCast]
   rw[aN (i:=((i-1:Nat):Int)) (by omega) (by omega)]
   simp only[cond_not,bX,bH,aG,cond_true]
   by_cases hP:iY (l.getD i aA).1 (l.getD i aA).2.1 (l.getD i aA).2.2.1 (l.getD i aA).2.2.2.1∧lO i (l.getD (i-1) aA).1 (l.getD i aA).1
   ·rw[if_pos hP];unfold iY lO at hP
    repeat' split
    all_goals first|rfl|omega
   ·rw[if_neg hP];unfold iY lO at hP
    repeat' split
    all_goals first|rfl|omega
  ·rw[aF (x:=0) (y:=(i:Int)) (by omega)]
   simp only[cond_not,bX,bH,aG,cond_true,cond_false]
   by_cases hP:iY (l.getD i aA).1 (l.getD i aA).2.1 (l.getD i aA).2.2.1 (l.getD i aA).2.2.2.1∧lO i (l.getD (i-1) aA).1 (l.getD i aA).1
   ·rw[if_pos hP];unfold iY lO at hP
    repeat' split
    all_goals first|rfl|omega
   ·rw[if_neg hP];unfold iY lO at hP
    repeat' split
    all_goals first|rfl|omega
 ·unfold g2.l2 g2.dx
  rw[aF (by omega),cond_false]
end VM
end
section
namespace VM
open Go VM.F
def iZ(a:ay)(id:Int):bp×Bool:=if ib a then tz id a else(aA,false)
theorem Qj(N:Nat){a:ay}(hl:a.length≤100000)(hN:200000≤N)(id:Int):kg N a id=some (iZ a id):=by
 unfold kg kg.b iZ
 rw[BR N hl hN,Option.bind_some,cond_not,Kh N hl hN]
 cases ib a<;>rfl
theorem D1(N:Nat){a:ay}(hl:a.length≤100000)(hN:200000≤N)(id:Int):ye N a id=some (iZ a id):=by
 unfold ye iZ
 rw[tF N hl hN,Option.bind_some,cond_not,tD N hl hN]
 cases ib a<;>rfl
def dW(a:ay)(id:Int):Int:=if ib a then ia id a else 0
theorem MS(N:Nat){a:ay}(hl:a.length≤100000)(hN:200000≤N)(id:Int):vI N a id=some (dW a id):=by
 unfold vI vI.b dW
 rw[BR N hl hN,Option.bind_some,cond_not,Hb N hl hN]
 cases ib a<;>rfl
theorem uU(N:Nat){a:ay}(hl:a.length≤100000)(hN:200000≤N)(id:Int):su N a id=some (dW a id):=by
 unfold su su.b dW
 rw[tF N hl hN,Option.bind_some,cond_not,DY N hl hN]
 cases ib a<;>rfl
def gn(m:ax)(a:ay)(i:Nat):Prop:= ¬fH (gm (a.getD i aA).2.1 m) 0
instance(m:ax)(a:ay):DecidablePred (gn m a):=fun i=>by unfold gn;infer_instance
def qq(m:ax)(a:ay):Bool:=iw m&&(ib a&&(decide (∀j,j<a.length→gn m a j)&&true))
theorem Qk(N:Nat){m:ax}{a:ay}(hm:m.length≤100000)(hl:a.length≤100000)(hN:200000≤N):wF N m a=some (qq m a):=by
 unfold wF wF.b qq
 rw[xX N hm hN,Option.bind_some,cond_not,BR N hl hN,Option.bind_some,cond_not]
 cases hM:iw m
 ·rfl
 cases ib a
 ·rfl
 rw[Bool.true_and,Bool.true_and,cond_true,cond_true]
 refine eb (F:=fun n i=>wF.l4 N n m a (a.length:Int) i) (gn m a) (fun n i r hi hp hr=> ?_) (fun n=> ?_) N (by omega)
 ·unfold wF.l4 wF.cL
  rw[aK (by omega),cond_true,aN (by omega) (by omega),cond_true,Int.toNat_natCast,aq (x:=(i:Int)+1) (by omega) (by omega),ae,uS N hm hN,Option.bind_some,aG]
  unfold fU
  rw[hM,if_pos rfl]
  by_cases hP:gn m a i
  ·rw[if_pos hP,if_neg (show ¬((gm (a.getD i aA).2.1 m:Int)=0)from fun h=>hP h)];exact hr
  ·rw[if_neg hP,if_pos (show(gm (a.getD i aA).2.1 m:Int)=0 by unfold gn at hP;exact Decidable.not_not.1 hP)]
 ·unfold wF.l4 wF.cL
  rw[aF (by omega),cond_false]
theorem yf(N:Nat){m:ax}{a:ay}(hm:m.length≤100000)(hl:a.length≤100000)(hN:200000≤N):jG N m a=some (qq m a):=by
 unfold jG jG.b qq
 rw[nu N hm hN,Option.bind_some,cond_not,tF N hl hN,Option.bind_some,cond_not]
 cases hM:iw m
 ·rfl
 cases ib a
 ·rfl
 rw[Bool.true_and,Bool.true_and,cond_true,cond_true]
 refine eb (F:=fun n i=>jG.l4 N n m a i) (gn m a) (fun n i r hi hp hr=> ?_) (fun n=> ?_) N (by omega)
 ·unfold jG.l4 jG.cL
  rw[aK (by omega),cond_true,aN (by omega) (by omega),cond_true,Int.toNat_natCast,aq (x:=(i:Int)+1) (by omega) (by omega),ae,jF N hm hN,Option.bind_some,aG]
  by_cases hP:gn m a i
  ·rw[if_pos hP,if_neg (show ¬((gm (a.getD i aA).2.1 m:Int)=0)from fun h=>hP h)];exact hr
  ·rw[if_neg hP,if_pos (show(gm (a.getD i aA).2.1 m:Int)=0 by unfold gn at hP;exact Decidable.not_not.1 hP)]
 ·unfold jG.l4 jG.cL
  rw[aF (by omega),cond_false]
end VM
end
section
namespace VM
open Go VM.F
theorem MT(a b:cY):pz (.pair (.int .i64) (.pair (.int .u64) .unit)) a b=(az a.1 b.1&&(az a.2.1 b.2.1&&true)):=rfl
theorem Ql(N:Nat){u v:Int}:Qm N (c7 u) (c7 v)=some (qY (u-v)):=by
 unfold Qm
 rw[MT]
 unfold c7
 dsimp only
 unfold qY
 rw[bX,aG,bX,Bool.and_true,eL,eL]
 have hu:u=u/18446744073709551616*18446744073709551616+u%18446744073709551616:=by omega
 have hv:v=v/18446744073709551616*18446744073709551616+v%18446744073709551616:=by omega
 by_cases h1:u/18446744073709551616<v/18446744073709551616
 ·rw[if_pos h1];congr 1;split<;>(try split)<;>omega
 ·rw[if_neg h1]
  by_cases h2:u/18446744073709551616=v/18446744073709551616
  ·rw[if_pos h2,decide_eq_true h2,Bool.true_and]
   by_cases h3:u%18446744073709551616<v%18446744073709551616
   ·rw[if_pos h3];congr 1;split<;>(try split)<;>omega
   ·rw[if_neg h3]
    by_cases h4:u%18446744073709551616=v%18446744073709551616
    ·rw[decide_eq_true h4,cond_true];congr 1;split<;>(try split)<;>omega
    ·rw[decide_eq_false h4,cond_false];congr 1;split<;>(try split)<;>omega
  ·rw[if_neg h2,decide_eq_false h2,Bool.false_and,cond_false];congr 1;split<;>(try split)<;>omega
theorem Hd:c7 0=bO:=rfl
theorem tG(N:Nat){u:Int}:Xu N (c7 u)=some (qY u):=by
 unfold Xu
 rw[←Hd,Ql,Option.bind_some,Int.sub_zero]
end VM
end
section
namespace VM
open Go VM.F
def fW(r:cy):Int:=r.2.2.1
def aD(x:Int):Prop:= -9223372036854775808≤x∧x<9223372036854775808
def eW(l:aj):Prop:= ∀x∈l,aD (fW x)
theorem uV{l:aj}(h:eW l)(i:Nat):aD (fW (l.getD i a7)):=by
 by_cases hi:i<l.length
 ·rw[List.getD_eq_getElem?_getD,List.getElem?_eq_getElem hi];exact h _ (List.getElem_mem hi)
 ·rw[List.getD_eq_getElem?_getD,List.getElem?_eq_none (by omega)];exact⟨by decide,by decide⟩
theorem MU{ws:List Int}(h: ∀x∈ws,aD x): -(9223372036854775808*(ws.length:Int))≤ws.sum∧ws.sum≤9223372036854775808*(ws.length:Int):=IT ws h
theorem Ay{ws:List Int}(h: ∀x∈ws,aD x)(hl:ws.length≤1000000):eo ws.sum:=by
 have:=MU h
 unfold eo;omega
theorem Kj{ws:List Int}(h: ∀x∈ws,aD x): ∀x∈ws,eo x:=fun x hx=>by
 have:=h x hx
 unfold aD at this;unfold eo;omega
theorem BS(N:Nat){ws:List Int}(h: ∀x∈ws,aD x)(hl:ws.length≤1000000)(hN:1000000<N):iV N (ws.map c7)=some (c7 ws.sum,true):=by
 rw[BO N (Kj h) hl hN]
 unfold G0
 rw[if_pos (Ay h hl)]
def ja(l:aj):Int:=if fx l then(l.map fW).sum else 0
theorem He(N:Nat){l:aj}(hq:eW l)(hl:l.length≤100000)(hN:2000000≤N):vJ.l5 N N bO [] l (l.length:Int) 0=some (c7 (l.map fW).sum):=by
 have:=oS l a7 (fun n i ws=>vJ.l5 N n bO (ws.map c7) l (l.length:Int) i) (fun t ws=>some (c7 (ws++t.map fW).sum)) (fun i (ws:List Int)=>ws.length=i∧ ∀x∈ws,aD x)
  (fun n i ws hi hI hr=> ?_) (fun n ws hI=> ?_) l.length N 0 [] (by omega) (by omega) (by omega) ⟨rfl,fun x hx=>nomatch hx⟩
 ·simpa using this
 ·unfold vJ.l5 vJ.dd
  have uu:=uV hq i
  have fX:=uu
  unfold aD fW at fX
  rw[aK (by omega),cond_true,aN (by omega) (by omega),cond_true,Int.toNat_natCast,qo N fX.1 fX.2,Option.bind_some,bB (by rw[List.length_map,List.length_singleton];omega),cond_true,aq (by omega) (by omega),ae]
  have:=hr (ws++[fW (l.getD i a7)]) ⟨by rw[List.length_append,hI.1];rfl,fun x hx=>by
   rcases List.mem_append.1 hx with hx|hx
   ·exact hI.2 x hx
   ·rw[List.mem_singleton.1 hx];exact uu⟩
  rw[List.map_append]at this
  refine this.trans ?_
  rw[List.map_cons,List.append_assoc];rfl
 ·unfold vJ.l5 vJ.dd
  rw[aF (by omega),cond_false,BS N hI.2 (by omega) (by omega),Option.bind_some,List.map_nil,List.append_nil]
theorem MV(N:Nat){l:aj}(hq:eW l)(hl:l.length≤100000)(hN:2000000≤N):vJ N l=some (c7 (ja l)):=by
 unfold vJ vJ.b ja
 rw[BQ N hl (by omega),Option.bind_some,cond_not,He N hq hl hN]
 cases fx l<;>rfl
theorem D2(N:Nat){l:aj}(hq:eW l)(hl:l.length≤100000)(hN:4000000≤N):ki.l5 N N l (cn 0) (cn 0) 0=some (cn (l.map fW).sum):=by
 have:=oS l a7 (fun n i ws=>ki.l5 N n l (cn 0) (cn ws.sum) i) (fun t ws=>some (cn (ws++t.map fW).sum)) (fun i (ws:List Int)=>ws.length=i∧ ∀x∈ws,aD x)
  (fun n i ws hi hI hr=> ?_) (fun n ws hI=> ?_) l.length N 0 [] (by omega) (by omega) (by omega) ⟨rfl,fun x hx=>nomatch hx⟩
 ·simpa using this
 ·unfold ki.l5 ki.dd
  have uu:=uV hq i
  have fX:=uu
  unfold aD fW at fX
  have hb:=MU hI.2
  rw[hI.1]at hb
  rw[aK (by omega),cond_true,aN (by omega) (by omega),cond_true,Int.toNat_natCast,iU N (by omega) fX.1 fX.2,Option.bind_some,jU N (by omega) ((BN (n:=i) (by omega) hb.1 hb.2).mono (by omega)) ((Fit.i64 fX.1 fX.2).mono (by omega)),Option.bind_some,aq (by omega) (by omega),ae]
  have:=hr (ws++[fW (l.getD i a7)]) ⟨by rw[List.length_append,hI.1];rfl,fun x hx=>by
   rcases List.mem_append.1 hx with hx|hx
   ·exact hI.2 x hx
   ·rw[List.mem_singleton.1 hx];exact uu⟩
  rw[List.sum_append,List.sum_cons,List.sum_nil,Int.add_zero]at this
  refine this.trans ?_
  rw[List.map_cons,List.append_assoc];rfl
 ·unfold ki.l5 ki.dd
  rw[aF (by omega),cond_false,List.map_nil,List.append_nil]
theorem Kk(N:Nat){l:aj}(hq:eW l)(hl:l.length≤100000)(hN:4000000≤N):ki N l=some (cn (ja l)):=by
 unfold ki ki.b ja
 rw[xZ N hl (by omega),Option.bind_some,cond_not]
 have:=D2 N hq hl hN
 rw[jC]at this
 rw[this]
 cases fx l
 ·rw[cond_false];exact congrArg some jC.symm
 ·rfl
end VM
end
section
namespace VM
open Go VM.F
def dJ(inst:Int):aj→List Int
 |[]=>[]
 |x::t=>if x.2.1=inst then fW x::dJ inst t else dJ inst t
theorem eX(inst:Int)(x:cy)(t:aj):dJ inst (x::t)=if x.2.1=inst then fW x::dJ inst t else dJ inst t:=rfl
theorem Kl(N:Nat){l:aj}(hq:eW l)(hl:l.length≤100000)(hN:2000000≤N)(inst:Int):kj.l5 N N inst bO [] l (l.length:Int) 0=some (c7 (dJ inst l).sum):=by
 have:=oS l a7 (fun n i ws=>kj.l5 N n inst bO (ws.map c7) l (l.length:Int) i) (fun t ws=>some (c7 (ws++dJ inst t).sum)) (fun i (ws:List Int)=>ws.length≤i∧ ∀x∈ws,aD x)
  (fun n i ws hi hI hr=> ?_) (fun n ws hI=> ?_) l.length N 0 [] (by omega) (by omega) (by omega) ⟨Nat.le_refl _,fun x hx=>nomatch hx⟩
 ·simpa using this
 ·unfold kj.l5 kj.dd
  have uu:=uV hq i
  have fX:=uu
  unfold aD fW at fX
  rw[aK (by omega),cond_true,aN (by omega) (by omega),cond_true,Int.toNat_natCast,qo N fX.1 fX.2,Option.bind_some,bB (by rw[List.length_map,List.length_singleton];omega),cond_true,aq (by omega) (by omega),ae,aG,eX]
  split
  ·have:=hr (ws++[fW (l.getD i a7)]) ⟨by rw[List.length_append,List.length_singleton];omega,fun x hx=>by
    rcases List.mem_append.1 hx with hx|hx
    ·exact hI.2 x hx
    ·rw[List.mem_singleton.1 hx];exact uu⟩
   rw[List.map_append]at this
   refine this.trans ?_
   rw[List.append_assoc];rfl
  ·exact hr ws ⟨by omega,hI.2⟩
 ·unfold kj.l5 kj.dd
  rw[aF (by omega),cond_false,BS N hI.2 (by omega) (by omega),Option.bind_some]
  show _=some (c7 (ws++[]).sum)
  rw[List.append_nil]
def tH(l:aj)(inst:Int):Int:=if dI l then(dJ inst l).sum else 0
theorem Qn(N:Nat){l:aj}(hq:eW l)(hl:l.length≤100000)(hN:2000000≤N)(inst:Int):kj N l inst=some (c7 (tH l inst)):=by
 unfold kj kj.b tH
 rw[yb N hl (by omega),Option.bind_some,cond_not,Kl N hq hl hN]
 cases dI l<;>rfl
theorem Hf(N:Nat){l:aj}(hq:eW l)(hl:l.length≤100000)(hN:4000000≤N)(inst:Int):kk.l5 N N l inst (cn 0) (cn 0) 0=some (cn (dJ inst l).sum):=by
 have:=oS l a7 (fun n i ws=>kk.l5 N n l inst (cn 0) (cn ws.sum) i) (fun t ws=>some (cn (ws++dJ inst t).sum)) (fun i (ws:List Int)=>ws.length≤i∧ ∀x∈ws,aD x)
  (fun n i ws hi hI hr=> ?_) (fun n ws hI=> ?_) l.length N 0 [] (by omega) (by omega) (by omega) ⟨Nat.le_refl _,fun x hx=>nomatch hx⟩
 ·simpa using this
 ·unfold kk.l5 kk.dd
  have uu:=uV hq i
  have fX:=uu
  unfold aD fW at fX
  have hb:=MU hI.2
  rw[aK (by omega),cond_true,aN (by omega) (by omega),cond_true,cond_true,Int.toNat_natCast,iU N (by omega) fX.1 fX.2,Option.bind_some,jU N (by omega) ((BN (n:=ws.length) (by omega) hb.1 hb.2).mono (by omega)) ((Fit.i64 fX.1 fX.2).mono (by omega)),Option.bind_some,aq (by omega) (by omega),ae,aG,eX]
  split
  ·have:=hr (ws++[fW (l.getD i a7)]) ⟨by rw[List.length_append,List.length_singleton];omega,fun x hx=>by
    rcases List.mem_append.1 hx with hx|hx
    ·exact hI.2 x hx
    ·rw[List.mem_singleton.1 hx];exact uu⟩
   rw[List.sum_append,List.sum_cons,List.sum_nil,Int.add_zero]at this
   refine this.trans ?_
   rw[List.append_assoc];rfl
  ·exact hr ws ⟨by omega,hI.2⟩
 ·unfold kk.l5 kk.dd
  rw[aF (by omega),cond_false]
  show _=some (cn (ws++[]).sum)
  rw[List.append_nil]
theorem D3(N:Nat){l:aj}(hq:eW l)(hl:l.length≤100000)(hN:4000000≤N)(inst:Int):kk N l inst=some (cn (tH l inst)):=by
 unfold kk kk.b tH
 rw[lN N hl (by omega),Option.bind_some,cond_not]
 have:=Hf N hq hl hN inst
 rw[jC]at this
 rw[this]
 cases dI l
 ·rw[cond_false];exact congrArg some jC.symm
 ·rfl
def sv(l:aj)(i:Nat):Prop:=fH (tH l (i:Int)) 0
instance(l:aj):DecidablePred (sv l):=fun i=>by unfold sv;infer_instance
def ig:Nat:=6
def uW(l:aj):Bool:=decide (∀j,j<ig→sv l j)&&dI l
theorem ko{x:Int}:qY x=0↔x=0:=by unfold qY;split<;>(try split)<;>omega
theorem Qo(N:Nat){l:aj}(hq:eW l)(hl:l.length≤100000)(hN:2000000≤N):wG N l=some (uW l):=by
 unfold wG wG.b
 refine eb (len:=ig) (F:=fun n i=>wG.l2 N n l i) (sv l) (fun n i r hi hp hr=> ?_) (fun n=> ?_) N (by unfold ig;omega)
 ·unfold wG.l2 wG.dx
  unfold ig at hi
  rw[aK (by omega),cond_true,Qn N hq hl hN,Option.bind_some,tG,Option.bind_some,cond_not,aG,aq (by omega) (by omega),ae,hr]
  by_cases hP:sv l i
  ·rw[if_pos hP,if_pos (ko.2 hP)]
  ·rw[if_neg hP,if_neg (fun h=>hP (ko.1 h))]
 ·unfold wG.l2 wG.dx
  rw[aF (by unfold ig;omega),cond_false,yb N hl (by omega),Option.bind_some]
theorem MW(N:Nat){l:aj}(hq:eW l)(hl:l.length≤100000)(hN:4000000≤N):kR N l=some (uW l):=by
 unfold kR kR.b
 refine eb (len:=ig) (F:=fun n i=>kR.l2 N n l i) (sv l) (fun n i r hi hp hr=> ?_) (fun n=> ?_) N (by unfold ig;omega)
 ·unfold kR.l2 kR.dx
  unfold ig at hi
  rw[aK (by omega),cond_true,D3 N hq hl hN,Option.bind_some,oP,Option.bind_some,cond_not,aG,aq (by omega) (by omega),ae,hr]
  by_cases hP:sv l i
  ·rw[if_pos hP,if_pos (ko.2 hP)]
  ·rw[if_neg hP,if_neg (fun h=>hP (ko.1 h))]
 ·unfold kR.l2 kR.dx
  rw[aF (by unfold ig;omega),cond_false,lN N hl (by omega),Option.bind_some]
end VM
end
section
namespace VM
open Go VM.F
def g3(m:ax)(a:ay)(l:aj)(i:Nat):Prop:=
 (fH (l.getD i a7).1 5→(iZ a (l.getD i a7).2.1).2=true)∧(fH (l.getD i a7).1 6∨fH (l.getD i a7).1 7→ ¬fH (fU m (l.getD i a7).2.1) 0)
instance(m:ax)(a:ay)(l:aj):DecidablePred (g3 m a l):=fun i=>by unfold g3;infer_instance
theorem Hg(N:Nat)(b:ah)(hl:b.2.1.length≤100000)(hN:200000≤N)(id:Int):F82 N b id=some (iZ b.2.1 id).2:=by
 unfold F82
 rw[Qj N hl hN,Option.bind_some]
theorem Km{k:Int}{f:Bool}{z:Int}{r:Option Bool}:cond (az k 5) (cond (!f) (some false) r) (cond (az k 6) (cond (az z 0) (some false) r) (cond (az k 7) (cond (az z 0) (some false) r) r))=
  if(fH k 5→f=true)∧(fH k 6∨fH k 7→ ¬fH z 0)then r else some false:=by
 unfold fH
 rw[aG,aG,aG,aG,cond_not]
 by_cases h5:k=5
 ·have h6: ¬(k=6):=by omega
  have h7: ¬(k=7):=by omega
  cases f<;>simp[h5,h6,h7]
 ·by_cases h6:k=6
  ·by_cases hz:z=0<;>simp[h5,h6,hz]
  ·by_cases h7:k=7
   ·by_cases hz:z=0<;>simp[h5,h6,h7,hz]
   ·simp[h5,h6,h7]
theorem zR(N:Nat)(hN:200000≤N)(c:aa)(b:ah)(hm:b.1.length≤100000)(ha:b.2.1.length≤100000)(hl:b.2.2.1.length≤100000){e:Bool}
  (he:g4.rz N N c b b.2.2.2.1 (b.2.2.2.1.length:Int) 0=some e):g4.l4 N N c b b.2.2.1 (b.2.2.1.length:Int) 0=some (decide (∀j,j<b.2.2.1.length→g3 b.1 b.2.1 b.2.2.1 j)&&e):=by
 refine eb (F:=fun n i=>g4.l4 N n c b b.2.2.1 (b.2.2.1.length:Int) i) (g3 b.1 b.2.1 b.2.2.1) (fun n i r hi hp hr=> ?_) (fun n=> ?_) N (by omega)
 ·unfold g4.l4 g4.cL
  rw[aK (by omega),cond_true,aN (by omega) (by omega),cond_true,Int.toNat_natCast,aq (x:=(i:Int)+1) (by omega) (by omega),ae,hr]
  simp only[Hg N b ha hN,uS N hm hN,Option.bind_some]
  rw[Km]
  rfl
 ·unfold g4.l4 g4.cL
  rw[aF (by omega),cond_false];exact he
def MX(a b:Int):Prop:=a<b
instance(a b:Int):Decidable (MX a b):=by unfold MX;infer_instance
def gp(c:aa)(a:ay)(l:aj)(i:Nat):Prop:=
 (fH (l.getD i a7).1 0∨(iZ a (l.getD i a7).1).2=true)∧MX (l.getD i a7).2.1 c.1.length
instance(c:aa)(a:ay)(l:aj):DecidablePred (gp c a l):=fun i=>by unfold gp;infer_instance
theorem MY{k x n:Int}{f:Bool}{r:Option Bool}:cond (!az k 0) (cond (!f) (some false) (cond (bS n x) (some false) r)) (cond (bS n x) (some false) r)=if(fH k 0∨f=true)∧MX x n then r else some false:=by
 unfold fH MX
 rw[cond_not,aG,bH,cond_not]
 by_cases h0:k=0
 ·by_cases hx:n≤x
  ·have: ¬x<n:=by omega
   simp[h0,hx,this]
  ·have:x<n:=by omega
   simp[h0,hx,this]
 ·by_cases hx:n≤x
  ·have: ¬x<n:=by omega
   cases f<;>simp[h0,hx,this]
  ·have:x<n:=by omega
   cases f<;>simp[h0,hx,this]
theorem BT(N:Nat)(hN:200000≤N)(c:aa)(b:ah)(ha:b.2.1.length≤100000)(hl:b.2.2.2.1.length≤100000){e:Bool}
  (he:g4.rA N N c b b.2.2.2.2.2.1 (b.2.2.2.2.2.1.length:Int) 0=some e):g4.rz N N c b b.2.2.2.1 (b.2.2.2.1.length:Int) 0=some (decide (∀j,j<b.2.2.2.1.length→gp c b.2.1 b.2.2.2.1 j)&&e):=by
 refine eb (F:=fun n i=>g4.rz N n c b b.2.2.2.1 (b.2.2.2.1.length:Int) i) (gp c b.2.1 b.2.2.2.1) (fun n i r hi hp hr=> ?_) (fun n=> ?_) N (by omega)
 ·unfold g4.rz g4.qt
  rw[aK (by omega),cond_true,aN (by omega) (by omega),cond_true,Int.toNat_natCast,aq (x:=(i:Int)+1) (by omega) (by omega),ae,hr]
  simp only[Hg N b ha hN,Option.bind_some]
  rw[MY]
  rfl
 ·unfold g4.rz g4.qt
  rw[aF (by omega),cond_false];exact he
end VM
end
section
namespace VM
open Go VM.F
def nx(l:List Int)(i:Nat):Prop:=1≤l.getD i 0∧l.getD i 0≤1000000000000
instance(l:List Int):DecidablePred (nx l):=fun i=>by unfold nx;infer_instance
def fY(l:List Int):Bool:=decide (∀j,j<l.length→nx l j)
theorem Xv(N:Nat)(p:Int):F84 N p=some (!decide (1≤p∧p≤1000000000000)):=by
 unfold F84
 rw[Ax,Option.bind_some]
theorem yg(N:Nat){l:List Int}(hl:l.length≤100000): ∀(m n i:Nat),l.length-i≤m→m<n→i≤l.length→(∀j,j<i→nx l j)→
  ∃r,m0.l2 N n l () (l.length:Int) (i:Int)=some r∧(bS 0 r= !fY l)
 |m,0,i,_,hn,_,_=>by omega
 |m,n+1,i,hm,hn,hi,hp=>by
  unfold m0.l2 m0.dx
  by_cases h:i<l.length
  ·rw[aK (by omega),cond_true,aN (by omega) (by omega),cond_true,Int.toNat_natCast,Xv,Option.bind_some,cond_not,dj]
   by_cases hP:nx l i
   ·have hP':=hP
    unfold nx at hP'
    rw[if_pos hP',aq (by omega) (by omega)]
    exact yg N hl (m-1) n (i+1) (by omega) (by omega) (by omega) (fun j hj=>by
     by_cases si:j=i
     ·subst si;exact hP
     ·exact hp j (by omega))
   ·have hP':=hP
    unfold nx at hP'
    rw[if_neg hP']
    refine⟨_,rfl,?_⟩
    rw[du (by omega)]
    unfold fY
    rw[decide_eq_false (fun h'=>hP (h' i h))];rfl
  ·rw[aF (by omega),cond_false]
   refine⟨_,rfl,?_⟩
   rw[dv (by omega)]
   unfold fY
   rw[decide_eq_true (fun j hj=>hp j (by omega))];rfl
theorem Ko(N:Nat){l:List Int}(hl:l.length≤100000)(hN:200000≤N):F83 N l ()=some (!fY l):=by
 unfold F83 m0 m0.b
 obtain⟨r,e,h⟩:=yg N hl l.length N 0 (by omega) (by omega) (by omega) (fun j hj=>absurd hj (by omega))
 rw[show((0:Nat):Int)=0 from rfl]at e
 rw[e,Option.bind_some,h]
def ln(c:aa)(a:ay)(l:a6)(i:Nat):Prop:=
 (iZ a (l.getD i dZ).2.1).2=true∧MX (l.getD i dZ).2.2.1 c.1.length
instance(c:aa)(a:ay)(l:a6):DecidablePred (ln c a l):=fun i=>by unfold ln;infer_instance
theorem yh{x n:Int}{f:Bool}{r:Option Bool}:cond (!f) (some false) (cond (bS n x) (some false) r)=if f=true∧MX x n then r else some false:=by
 unfold MX
 rw[bH,cond_not]
 by_cases hx:n≤x
 ·have: ¬x<n:=by omega
  cases f<;>simp[hx,this]
 ·have:x<n:=by omega
  cases f<;>simp[hx,this]
theorem BU(N:Nat)(hN:200000≤N)(c:aa)(b:ah)(ha:b.2.1.length≤100000)(hl:b.2.2.2.2.2.1.length≤100000)(hp:b.2.2.2.2.1.length≤100000):
  g4.rA N N c b b.2.2.2.2.2.1 (b.2.2.2.2.2.1.length:Int) 0=some (decide (∀j,j<b.2.2.2.2.2.1.length→ln c b.2.1 b.2.2.2.2.2.1 j)&&fY b.2.2.2.2.1):=by
 refine eb (F:=fun n i=>g4.rA N n c b b.2.2.2.2.2.1 (b.2.2.2.2.2.1.length:Int) i) (ln c b.2.1 b.2.2.2.2.2.1) (fun n i r hi Ip hr=> ?_) (fun n=> ?_) N (by omega)
 ·unfold g4.rA g4.qu
  rw[aK (by omega),cond_true,aN (by omega) (by omega),cond_true,Int.toNat_natCast,aq (x:=(i:Int)+1) (by omega) (by omega),ae,hr]
  simp only[Hg N b ha hN,Option.bind_some]
  rw[yh]
  rfl
 ·unfold g4.rA g4.qu
  rw[aF (by omega),cond_false,Ko N hp hN,Option.bind_some,Bool.not_not]
def dT(c:aa)(b:ah):Bool:=
 fv c&&(qq b.1 b.2.1&&(fx b.2.2.1&&(decide (fH (ja b.2.2.1) 0)&&(uW b.2.2.2.1&&(iX b.2.2.2.2.2.1&&(decide (fH b.2.2.2.2.1.length c.1.length)&&
  (decide (∀j,j<b.2.2.1.length→g3 b.1 b.2.1 b.2.2.1 j)&&(decide (∀j,j<b.2.2.2.1.length→gp c b.2.1 b.2.2.2.1 j)&&(decide (∀j,j<b.2.2.2.2.2.1.length→ln c b.2.1 b.2.2.2.2.2.1 j)&&fY b.2.2.2.2.1)))))))))
structure yi(b:ah):Prop where
 m:b.1.length≤100000
 a:b.2.1.length≤100000
 r:b.2.2.1.length≤100000
 s:b.2.2.2.1.length≤100000
 p:b.2.2.2.2.1.length≤100000
 o:b.2.2.2.2.2.1.length≤100000
 qr:eW b.2.2.1
 qs:eW b.2.2.2.1
theorem kp{x:Bool}{r:Option Bool}{y:Bool}(h:r=some y):cond (!x) (some false) r=some (x&&y):=by subst h;cases x<;>rfl
theorem Qp(N:Nat)(hN:4000000≤N){c:aa}{b:ah}(w:yi b):g4 N c b=some (dT c b):=by
 unfold g4 g4.b dT
 rw[BP N (by omega),Option.bind_some]
 refine kp ?_
 rw[Qk N w.m w.a (by omega),Option.bind_some]
 refine kp ?_
 rw[BQ N w.r (by omega),Option.bind_some]
 refine kp ?_
 rw[MV N w.qr w.r (by omega),Option.bind_some,tG,Option.bind_some]
 have e0:az (qY (ja b.2.2.1)) 0=decide (fH (ja b.2.2.1) 0):=by rw[eL,decide_eq_decide];exact ko
 rw[e0]
 refine kp ?_
 rw[Qo N w.qs w.s (by omega),Option.bind_some]
 refine kp ?_
 rw[Kf N w.o (by omega),Option.bind_some]
 refine kp ?_
 rw[eL]
 refine kp ?_
 exact zR N (by omega) c b w.m w.a w.r (BT N (by omega) c b w.a w.s (BU N (by omega) c b w.a w.o w.p))
end VM
end
section
namespace VM
open Go VM.F
theorem tI(N:Nat)(b:ah)(hl:b.2.1.length≤100000)(hN:200000≤N)(id:Int):BV N b id=some ((iZ b.2.1 id).2||decide (fH id 0)):=by
 unfold BV
 rw[D1 N hl hN,Option.bind_some,eL]
 cases(iZ b.2.1 id).2<;>rfl
theorem Hh{k:Int}{f:Bool}{z:Int}{r:Option Bool}:cond (az k 5) (cond (!f) (some false) (cond (az k 6) (cond (az z 0) (some false) r) (cond (az k 7) (cond (az z 0) (some false) r) r))) (cond (az k 6) (cond (az z 0) (some false) r) (cond (az k 7) (cond (az z 0) (some false) r) r))=
  if(fH k 5→f=true)∧(fH k 6∨fH k 7→ ¬fH z 0)then r else some false:=by
 unfold fH
 rw[aG,aG,aG,aG,cond_not]
 by_cases h5:k=5
 ·have h6: ¬(k=6):=by omega
  have h7: ¬(k=7):=by omega
  cases f<;>simp[h5,h6,h7]
 ·by_cases h6:k=6
  ·by_cases hz:z=0<;>simp[h5,h6,hz]
  ·by_cases h7:k=7
   ·by_cases hz:z=0<;>simp[h5,h6,h7,hz]
   ·simp[h5,h6,h7]
theorem zS(N:Nat)(hN:200000≤N)(c:aa)(b:ah)(ha:b.2.1.length≤100000)(hl:b.2.2.2.2.2.1.length≤100000)(ho:iX b.2.2.2.2.2.1=true):
  bD.rA N N c b 0=some (decide (∀j,j<b.2.2.2.2.2.1.length→ln c b.2.1 b.2.2.2.2.2.1 j)&&true):=by
 refine eb (F:=fun n i=>bD.rA N n c b i) (ln c b.2.1 b.2.2.2.2.2.1) (fun n i r hi Ip hr=> ?_) (fun n=> ?_) N (by omega)
 ·unfold bD.rA bD.qu
  unfold iX at ho
  rw[Bool.and_eq_true,decide_eq_true_iff]at ho
  have h1:=(ho.1 i hi).1
  unfold qp sr at h1
  have h2:decide (fH (b.2.2.2.2.2.1.getD i dZ).2.1 0)=false:=decide_eq_false (by unfold fH;omega)
  rw[aK (by omega),cond_true,aN (by omega) (by omega),cond_true,Int.toNat_natCast,aq (x:=(i:Int)+1) (by omega) (by omega),ae,hr]
  simp only[tI N b ha hN,Option.bind_some,cond_true]
  rw[h2,Bool.or_false,yh]
  rfl
 ·unfold bD.rA bD.qu
  rw[aF (by omega),cond_false]
theorem wH(N:Nat)(hN:200000≤N)(c:aa)(b:ah)(hl:b.2.2.2.2.1.length≤100000){e:Bool}(he:bD.rA N N c b 0=some e):
  bD.Qq N N c b 0=some (fY b.2.2.2.2.1&&e):=by
 refine eb (F:=fun n i=>bD.Qq N n c b i) (nx b.2.2.2.2.1) (fun n i r hi Ip hr=> ?_) (fun n=> ?_) N (by omega)
 ·unfold bD.Qq bD.Qr
  rw[aK (by omega),cond_true,aN (by omega) (by omega),cond_true,Int.toNat_natCast,aq (x:=(i:Int)+1) (by omega) (by omega),ae,hr,iz,Option.bind_some,cond_not,dj]
  rfl
 ·unfold bD.Qq bD.Qr
  rw[aF (by omega),cond_false];exact he
theorem zT(N:Nat)(hN:200000≤N)(c:aa)(b:ah)(ha:b.2.1.length≤100000)(hl:b.2.2.2.1.length≤100000){e:Bool}(he:bD.Qq N N c b 0=some e):
  bD.mT N N c b 0=some (decide (∀j,j<b.2.2.2.1.length→gp c b.2.1 b.2.2.2.1 j)&&e):=by
 refine eb (F:=fun n i=>bD.mT N n c b i) (gp c b.2.1 b.2.2.2.1) (fun n i r hi Ip hr=> ?_) (fun n=> ?_) N (by omega)
 ·unfold bD.mT bD.lq
  rw[aK (by omega),cond_true,aN (by omega) (by omega),cond_true,Int.toNat_natCast,aq (x:=(i:Int)+1) (by omega) (by omega),ae,hr]
  simp only[tI N b ha hN,Option.bind_some,cond_true]
  rw[yh]
  have MZ:((((iZ b.2.1 (b.2.2.2.1.getD i a7).1).2||decide (fH (b.2.2.2.1.getD i a7).1 0))=true)∧MX (b.2.2.2.1.getD i a7).2.1 c.1.length)↔gp c b.2.1 b.2.2.2.1 i:=by
   unfold gp
   rw[Bool.or_eq_true,decide_eq_true_iff]
   exact⟨fun h=>⟨h.1.symm,h.2⟩,fun h=>⟨h.1.symm,h.2⟩⟩
  by_cases hP:gp c b.2.1 b.2.2.2.1 i
  ·rw[if_pos hP,if_pos (MZ.2 hP)]
  ·rw[if_neg hP,if_neg (fun h=>hP (MZ.1 h))]
 ·unfold bD.mT bD.lq
  rw[aF (by omega),cond_false];exact he
theorem yj(N:Nat)(hN:200000≤N)(c:aa)(b:ah)(hm:b.1.length≤100000)(ha:b.2.1.length≤100000)(hl:b.2.2.1.length≤100000)(hk:fx b.2.2.1=true){e:Bool}
  (he:bD.mT N N c b 0=some e):bD.l6 N N c b 0=some (decide (∀j,j<b.2.2.1.length→g3 b.1 b.2.1 b.2.2.1 j)&&e):=by
 refine eb (F:=fun n i=>bD.l6 N n c b i) (g3 b.1 b.2.1 b.2.2.1) (fun n i r hi Ip hr=> ?_) (fun n=> ?_) N (by omega)
 ·unfold bD.l6 bD.n4
  unfold fx at hk
  rw[Bool.and_true,decide_eq_true_iff]at hk
  have h1:=(hk i hi).1
  rw[aK (by omega),cond_true,aN (by omega) (by omega),cond_true,Int.toNat_natCast,aq (x:=(i:Int)+1) (by omega) (by omega),ae,hr]
  simp only[tI N b ha hN,yd N hm hN,Option.bind_some]
  rw[Hh]
  have MZ:((fH (b.2.2.1.getD i a7).1 5→((iZ b.2.1 (b.2.2.1.getD i a7).2.1).2||decide (fH (b.2.2.1.getD i a7).2.1 0))=true)∧(fH (b.2.2.1.getD i a7).1 6∨fH (b.2.2.1.getD i a7).1 7→ ¬fH (fU b.1 (b.2.2.1.getD i a7).2.1) 0))↔g3 b.1 b.2.1 b.2.2.1 i:=by
   unfold g3
   refine and_congr_left fun _=>imp_congr_right fun h5=> ?_
   rw[Bool.or_eq_true,decide_eq_true_iff]
   refine⟨fun h=>h.elim id fun h0=> ?_,.inl⟩
   unfold eN at h1;unfold fH at h5 h0;omega
  by_cases hP:g3 b.1 b.2.1 b.2.2.1 i
  ·rw[if_pos hP,if_pos (MZ.2 hP)]
  ·rw[if_neg hP,if_neg (fun h=>hP (MZ.1 h))]
 ·unfold bD.l6 bD.n4
  rw[aF (by omega),cond_false];exact he
end VM
end
section
namespace VM
open Go VM.F
theorem jH{x:Bool}{r:Option Bool}{y:Bool}(h:x=true→r=some y):cond (!x) (some false) r=some (x&&y):=by
 cases x
 ·rfl
 ·exact h rfl
theorem M4(N:Nat)(hN:5000000≤N){c:aa}{b:ah}(w:yi b):bD N c b=some (dT c b):=by
 unfold bD bD.b
 rw[mj N (by omega),Option.bind_some]
 have e0:az (qY (ja b.2.2.1)) 0=decide (fH (ja b.2.2.1) 0):=by rw[eL,decide_eq_decide];exact ko
 refine(jH fun _=> ?_).trans (congrArg some (?_:(fv c&&(qq b.1 b.2.1&&(fx b.2.2.1&&(uW b.2.2.2.1&&(iX b.2.2.2.2.2.1&&(decide (fH b.2.2.2.2.1.length c.1.length)&&(decide (fH (ja b.2.2.1) 0)&&
  (decide (∀j,j<b.2.2.1.length→g3 b.1 b.2.1 b.2.2.1 j)&&(decide (∀j,j<b.2.2.2.1.length→gp c b.2.1 b.2.2.2.1 j)&&(fY b.2.2.2.2.1&&(decide (∀j,j<b.2.2.2.2.2.1.length→ln c b.2.1 b.2.2.2.2.2.1 j)&&true)))))))))))=dT c b))
 ·rw[yf N w.m w.a (by omega),Option.bind_some]
  refine jH fun _=> ?_
  rw[xZ N w.r (by omega),Option.bind_some]
  refine jH fun hk=> ?_
  rw[MW N w.qs w.s (by omega),Option.bind_some]
  refine jH fun _=> ?_
  rw[jE N w.o (by omega),Option.bind_some]
  refine jH fun ho=> ?_
  rw[eL]
  refine jH fun _=> ?_
  rw[Kk N w.qr w.r (by omega),Option.bind_some,oP,Option.bind_some,e0]
  refine jH fun _=> ?_
  exact yj N (by omega) c b w.m w.a w.r hk (zT N (by omega) c b w.a w.s (wH N (by omega) c b w.p (zS N (by omega) c b w.a w.o ho)))
 ·unfold dT
  generalize fv c=x1,qq b.1 b.2.1=x2,fx b.2.2.1=x3,uW b.2.2.2.1=x4,iX b.2.2.2.2.2.1=x5,decide (fH b.2.2.2.2.1.length c.1.length)=x6,decide (fH (ja b.2.2.1) 0)=x7,decide (∀j,j<b.2.2.1.length→g3 b.1 b.2.1 b.2.2.1 j)=x8,decide (∀j,j<b.2.2.2.1.length→gp c b.2.1 b.2.2.2.1 j)=x9,fY b.2.2.2.2.1=aQ,decide (∀j,j<b.2.2.2.2.2.1.length→ln c b.2.1 b.2.2.2.2.2.1 j)=aH
  rw[Bool.and_true]
  cases x1<;>cases x2<;>cases x3<;>cases x4<;>cases x5<;>cases x6<;>cases x7<;>try rfl
  cases x8<;>cases x9<;>cases aQ<;>cases aH<;>rfl
end VM
end
section
namespace VM
open Go VM.F
def jI(a q n:Int)(i:Nat)(p:Int):Prop:=0≤a∧a<n∧q≠0∧ya q∧(0<i→p<a)
instance(a q n:Int)(i:Nat)(p:Int):Decidable (jI a q n i p):=by unfold jI;infer_instance
def js(c:aa)(l:ax)(i:Nat):Prop:=jI (l.getD i bO).1 (l.getD i bO).2.1 c.1.length i (l.getD (i-1) bO).1
instance(c:aa)(l:ax):DecidablePred (js c l):=fun i=>by unfold js;infer_instance
def qv(c:aa)(l:ax):Bool:=decide (∀j,j<l.length→js c l j)&&fv c
theorem Qs(N:Nat)(hN:200000≤N)(c:aa){l:ax}(hl:l.length≤100000):kq N c l=some (qv c l):=by
 unfold kq kq.b
 refine eb (F:=fun n i=>kq.l2 N n l c l (l.length:Int) i) (js c l) (fun n i r hi hp hr=> ?_) (fun n=> ?_) N (by omega)
 ·unfold kq.l2 kq.dx
  rw[aK (by omega),cond_true,aN (by omega) (by omega),cond_true,Int.toNat_natCast,aq (x:=(i:Int)+1) (by omega) (by omega),ae,hr,nv,Option.bind_some,cond_not,dj]
  by_cases h0:0<i
  ·have e:W .i64 ((i:Int)-1)=((i-1:Nat):Int):=by rw[aq (by omega) (by omega)];omega
   dsimp only
   rw[aK (x:=0) (y:=(i:Int)) (by omega),cond_true,e,Int.toNat_natCast,aN (by omega) (by omega),cond_true]
   simp only[bX,bH,aG]
   by_cases hP:js c l i
   ·rw[if_pos hP];unfold js jI at hP
    rw[if_neg (by omega),if_neg (by omega),if_neg hP.2.2.1,if_pos hP.2.2.2.1,if_neg (by omega)]
   ·rw[if_neg hP];unfold js jI at hP
    have h2:=fun h1 h2 h3 h4 h5=>hP ⟨h1,h2,h3,h4,h5⟩
    repeat' split
    all_goals first|rfl|(exfalso;exact h2 (by omega) (by omega) (by assumption) (by assumption) (by omega))
  ·rw[aF (x:=0) (y:=(i:Int)) (by omega),cond_false]
   simp only[bX,bH,aG]
   by_cases hP:js c l i
   ·rw[if_pos hP];unfold js jI at hP
    rw[if_neg (by omega),if_neg (by omega),if_neg hP.2.2.1,if_pos hP.2.2.2.1]
   ·rw[if_neg hP];unfold js jI at hP
    have h2:=fun h1 h2 h3 h4 h5=>hP ⟨h1,h2,h3,h4,h5⟩
    repeat' split
    all_goals first|rfl|(exfalso;exact h2 (by omega) (by omega) (by assumption) (by assumption) (by omega))
 ·unfold kq.l2 kq.dx
  rw[aF (by omega),cond_false,BP N (by omega),Option.bind_some]
end VM
end
section
namespace VM
open Go VM.F
theorem tJ(N:Nat)(hN:200000≤N)(c:aa){l:ax}(hl:l.length≤100000):jb N c l=some (qv c l):=by
 unfold jb jb.b
 rw[mj N (by omega),Option.bind_some]
 have hsc:=eb (F:=fun n i=>jb.l4 N n l c i) (e:=true) (js c l) (fun n i r hi hp hr=> ?_) (fun n=> ?_) N (show l.length<N by omega)
 ·rw[kp hsc];unfold qv
  rw[Bool.and_true,Bool.and_comm]
 ·unfold jb.l4 jb.cL
  rw[aK (by omega),cond_true,aN (by omega) (by omega),cond_true,Int.toNat_natCast,aq (x:=(i:Int)+1) (by omega) (by omega),ae,hr]
  by_cases h0:0<i
  ·have e:W .i64 ((i:Int)-1)=((i-1:Nat):Int):=by rw[aq (by omega) (by omega)];omega
   dsimp only
   rw[aK (x:=0) (y:=(i:Int)) (by omega),e,Int.toNat_natCast,aN (i:=((i-1:Nat):Int)) (by omega) (by omega)]
   simp only[bX,bH,aG,cond_true]
   by_cases hP:js c l i
   ·rw[if_pos hP];unfold js jI at hP
    rw[if_neg (by omega),if_neg (by omega),if_neg hP.2.2.1,if_neg (show ¬((l.getD i bO).2.1:Int)= -9223372036854775808 from hP.2.2.2.1),if_neg (by omega)]
   ·rw[if_neg hP];unfold js jI at hP
    have h2:=fun h1 h2 h3 h4 h5=>hP ⟨h1,h2,h3,h4,h5⟩
    repeat' split
    all_goals first|rfl|(exfalso;exact h2 (by omega) (by omega) (by assumption) (by assumption) (by omega))
  ·rw[aF (x:=0) (y:=(i:Int)) (by omega)]
   simp only[bX,bH,aG,cond_true,cond_false]
   by_cases hP:js c l i
   ·rw[if_pos hP];unfold js jI at hP
    rw[if_neg (by omega),if_neg (by omega),if_neg hP.2.2.1,if_neg (show ¬((l.getD i bO).2.1:Int)= -9223372036854775808 from hP.2.2.2.1)]
   ·rw[if_neg hP];unfold js jI at hP
    have h2:=fun h1 h2 h3 h4 h5=>hP ⟨h1,h2,h3,h4,h5⟩
    repeat' split
    all_goals first|rfl|(exfalso;exact h2 (by omega) (by omega) (by assumption) (by assumption) (by omega))
 ·unfold jb.l4 jb.cL
  rw[aF (by omega),cond_false]
end VM
end
section
namespace VM
open Go VM.F
def sx(a b c d:Int):Prop:=(1≤a∧a≤1099511627776)∧(1≤b∧b≤1099511627776)∧(1≤c∧c≤12)∧(-1152921504606846976≤d∧d≤1152921504606846976)
instance(a b c d:Int):Decidable (sx a b c d):=by unfold sx;infer_instance
def qw(x:bp):Prop:=sx x.1 x.2.1 x.2.2.1 x.2.2.2.1
instance(x:bp):Decidable (qw x):=by unfold qw;infer_instance
theorem M5(N:Nat)(x:bp):Qt N x=some (decide (qw x)):=by
 unfold Qt
 rw[iL x.2.2.2.1]
 repeat rw[dS]
 congr 1
 rw[Bool.eq_iff_iff,decide_eq_true_iff]
 unfold qw sx
 simp only[Bool.and_eq_true,decide_eq_true_eq]
 omega
theorem IW(N:Nat)(x:bp):Qu N x=some (decide (qw x)):=M5 N x
end VM
end
section
namespace VM
open Go VM.F
def eY(m gD:Int)(x:bp):Bool:=decide (fH x.2.2.1 m)&&decide (fH x.2.1 gD)
theorem Kp(N:Nat)(x:bp)(m gD:Int):Qv N x m gD=some (eY m gD x):=by
 unfold Qv eY
 rw[eL x.2.1,tx]
 rfl
theorem yk(N:Nat){l:ay}(hl:l.length≤100000)(m gD:Int): ∀(k n i:Nat),l.length-i≤k→k<n→i≤l.length→(∀x∈l.take i,eY m gD x=false)→
  ∃r,m1.l2 N n l ((m,()),((gD,()),())) (l.length:Int) (i:Int)=some r∧(bS 0 r=l.any (eY m gD))
 |k,0,i,_,hn,_,_=>by omega
 |k,n+1,i,hm,hn,hi,hp=>by
  unfold m1.l2 m1.dx
  by_cases h:i<l.length
  ·have hg:l.getD i aA=l[i]:=by rw[List.getD_eq_getElem?_getD,List.getElem?_eq_getElem h];rfl
   rw[aK (by omega),cond_true,aN (by omega) (by omega),cond_true,Int.toNat_natCast,Kp,Option.bind_some]
   cases hb:eY m gD (l.getD i aA)
   ·rw[cond_false,aq (by omega) (by omega)]
    refine yk N hl m gD (k-1) n (i+1) (by omega) (by omega) (by omega) (fun x hx=> ?_)
    rw[List.take_succ_eq_append_getElem h,List.mem_append]at hx
    rcases hx with hx|hx
    ·exact hp x hx
    ·rw[List.mem_singleton.1 hx,←hg];exact hb
   ·rw[cond_true]
    refine⟨_,rfl,?_⟩
    rw[du (by omega)]
    exact(List.any_eq_true.2 ⟨_,List.getElem_mem h,by rw[←hg];exact hb⟩).symm
  ·rw[aF (by omega),cond_false]
   refine⟨_,rfl,?_⟩
   rw[dv (by omega)]
   rw[List.take_of_length_le (by omega)]at hp
   exact(List.any_eq_false.2 (fun x hx=>by rw[hp x hx];simp)).symm
theorem M6(N:Nat){l:ay}(hl:l.length≤100000)(hN:200000≤N)(m gD:Int):M7 N l m gD=some (l.any (eY m gD)):=by
 unfold M7 Xw m1 m1.b
 obtain⟨r,e,h⟩:=yk N hl m gD l.length N 0 (by omega) (by omega) (by omega) (fun x hx=>by simp at hx)
 rw[show((0:Nat):Int)=0 from rfl]at e
 rw[e,Option.bind_some,Option.bind_some,h]
end VM
end
