/- A part of the proof of BookDrawn of layer 18: a machine that reads a function of the program as an equation between values. -/
import Derived.KernelRfl
import GoSem.Claims
import Derived.WalkKit
import Derived.ArgAppend
import Derived.Laws.CopyRow
import Derived.Laws.MakeOwn
import Derived.Laws.OwnMore
import Derived.Orders
import Derived.LoopN
set_option linter.all false
open List renaming length→ℓ, getD→γ
theorem ω{p:Prop}(h:p:=by omega):p:=h
theorem δ{p:Prop}(h:p:=by decide):p:=h
theorem κ{p:Prop}(h:p:=by kernel_rfl):p:=h
noncomputable section
abbrev ar:=@Option.bind_some
abbrev aj:=@cond_true
abbrev aK:=@List.length_singleton
abbrev aW:=@List.getD_eq_getElem?_getD
abbrev aG:=@Int.toNat_natCast
abbrev av:=@cond_false
abbrev ak:=@if_pos
abbrev bl:=@List.getElem?_eq_getElem
abbrev aS:=@List.length_append
abbrev ah:=@if_neg
abbrev a8:=@List.mem_cons_of_mem
abbrev aT:=@List.length_cons
abbrev aH:=@Nat.le_refl
abbrev bm:=@Array.length_toList
abbrev bt:=@List.mem_cons_self
abbrev aV:=@decide_eq_true
abbrev bA:=@of_decide_eq_true
abbrev bD:=@List.append_assoc
abbrev bn:=@List.mem_append
abbrev bu:=@decide_eq_false
abbrev bc:=@List.mem_cons
abbrev bg:=@Bool.not_true
abbrev bP:=@Bool.and_eq_true
abbrev cw:=@List.mem_singleton
abbrev c7:=@List.length_replicate
abbrev cf:=@List.length_take
abbrev cU:=@List.mem_append_left
abbrev bU:=@List.length_set
abbrev ca:=@List.length_nil
abbrev dd:=@Bool.and_eq_true_iff
abbrev cy:=@List.append_nil
abbrev cz:=@List.length_map
abbrev bw:=@Nat.zero_le
abbrev dC:=@List.mem_append_right
abbrev bV:=@List.map_cons
abbrev cB:=@List.nil_append
abbrev cJ:=@List.drop_zero
abbrev cK:=@List.sum_cons
abbrev cA:=@Nat.le_trans
abbrev dp:=@List.map_append
abbrev dF:=@List.getElem_mem
abbrev fA:=@Nat.eq_of_beq_eq_true
abbrev dt:=@Bool.not_false
abbrev cV:=@List.mem_map
abbrev eT:=@List.pairwise_cons
abbrev dY:=@List.length_drop
abbrev fB:=@List.mem_map_of_mem
abbrev dN:=@Int.toNat_zero
abbrev gP:=@List.take_append_drop
abbrev fj:=@Option.mem_toList
abbrev fR:=@decide_eq_true_iff
abbrev il:=@List.getElem?_eq_none
abbrev iG:=@List.take_of_length_le
abbrev gJ:=@List.getElem_of_mem
abbrev iH:=@Array.getElem?_toList
abbrev lI:=@Array.getElem?_eq_some_iff
abbrev jN:=@List.drop_of_length_le
abbrev fT:=@List.cons.injEq
abbrev eZ:=@Bool.and_true
abbrev iI:=@Option.some.injEq
abbrev eD:=@Nat.add_mul
abbrev kC:=@Nat.mul_le_mul_right
abbrev im:=@List.take_length
abbrev pI:=@List.getElem?_append_right
abbrev jO:=@Bool.false_eq_true
abbrev jg:=@List.size_toArray
abbrev iq:=@Nat.min_eq_left
abbrev lJ:=@List.mem_of_mem_take
abbrev fC:=@Int.le_trans
abbrev mW:=@List.mem_of_mem_drop
abbrev gr:=@Nat.zero_add
abbrev ri:=@List.drop_eq_getElem_cons
abbrev iJ:=@List.drop_drop
abbrev mX:=@Nat.mul_le_mul_left
abbrev tI:=@Array.getD_eq_getD_getElem?
abbrev fU:=@Int.le_refl
abbrev mY:=@List.getElem?_take
abbrev mZ:=@List.getElem?_drop
abbrev gQ:=@List.map_nil
abbrev vz:=@List.eq_nil_of_length_eq_zero
abbrev tJ:=@List.getElem?_append_left
abbrev lK:=@Bool.not_eq_true
abbrev nX:=@Nat.lt_of_lt_of_le
abbrev tK:=@List.take_append_getElem
abbrev m0:=@List.cons_append
abbrev m1:=@List.drop_length
abbrev yS:=@List.take_append_of_le_length
abbrev yT:=@Int.mul_le_mul_of_nonneg_left
abbrev vA:=@List.getElem?_eq_some_iff
abbrev vB:=@List.pairwise_iff_getElem
abbrev pJ:=@Bool.false_ne_true
abbrev nY:=@Option.getD_some
abbrev e7:=@congrArg
abbrev pK:=@List.nodup_append
abbrev vC:=@Int.eq_ofNat_of_zero_le
abbrev lL:=@Int.mul_assoc
abbrev nZ:=@List.sum_append
abbrev pL:=@List.all_eq_true
abbrev fD:=@and_true
abbrev uG:=@List.mem_or_eq_of_mem_set
abbrev p3:=@List.length_pos_iff
abbrev p4:=@List.map_congr_left
abbrev xi:=@List.drop_append_of_le_length
abbrev n0:=@List.getElem?_map
abbrev mA:=@List.drop_left'
abbrev jm:=@Int.mul_comm
abbrev jo:=@List.sum_nil
abbrev jq:=@Int.add_zero
abbrev rZ:=@List.mem_iff_getElem
abbrev uH:=@Option.bind_eq_some_iff
abbrev n6:=@decide_eq_decide
abbrev n7:=@List.filter_cons
abbrev kU:=@Bool.true_and
abbrev xj:=@Option.ne_none_iff_exists'
abbrev g8:=@Array.ext'
abbrev mB:=@List.take_zero
abbrev oa:=@Option.some.inj
abbrev ob:=@Bool.or_eq_true
abbrev fE:=@if_false
abbrev AL:=@Int.mul_le_mul_of_nonneg_right
abbrev sa:=@Int.lt_of_le_of_lt
abbrev sb:=@Bool.not_eq_true'
abbrev sd:=@Bool.not_eq_false
abbrev p5:=@Bool.eq_iff_iff
abbrev uI:=@Int.toNat_of_nonneg
abbrev ff:=@Ne.symm
abbrev mC:=@Nat.add_zero
abbrev xk:=@List.drop_eq_nil_of_le
abbrev kV:=@Nat.one_mul
abbrev xl:=@List.Pairwise.sublist
abbrev se:=@List.mem_filter
abbrev oc:=@Nat.lt_or_ge
abbrev mD:=@Int.mul_add
abbrev uK:=@List.pairwise_map
abbrev xm:=@List.pairwise_append
abbrev p6:=@Nat.add_assoc
abbrev AN:=@List.getElem_append_left
abbrev p7:=@Bool.false_or
abbrev AO:=@List.eq_of_mem_replicate
abbrev sf:=@List.drop_take
abbrev si:=@List.take_take
abbrev AP:=@Nat.add_sub_cancel_left
abbrev sj:=@List.mem_range
abbrev p8:=@Nat.beq_refl
abbrev AQ:=@Option.map_eq_some_iff
abbrev AS:=@Int.ediv_lt_iff_lt_mul
abbrev uM:=@List.headD_cons
abbrev uN:=@Int.ediv_nonneg
abbrev jr:=@Prod.ext
abbrev sl:=@Bool.or_false
abbrev g9:=@if_true
abbrev xn:=@List.length_range
abbrev xp:=@decide_eq_true_eq
abbrev xq:=@Bool.eq_false_iff
abbrev uO:=@Nat.mul_le_mul
abbrev AT:=@Array.getElem_toList
abbrev uP:=@List.tail_cons
abbrev uQ:=@Int.mul_nonneg
abbrev p9:=@Int.add_mul
abbrev uR:=@Bool.false_and
abbrev od:=@Int.not_lt
abbrev xr:=@beq_self_eq_true
abbrev sm:=@Nat.mul_succ
abbrev F5:=@List.getElem_append_right
abbrev AU:=@List.replicate_succ
abbrev xt:=@List.take_left'
abbrev xu:=@List.length_zip
abbrev AV:=@Int.emod_lt_of_pos
abbrev AW:=@List.filter_append
abbrev so:=@Nat.le_succ
abbrev sq:=@Nat.sub_mul
abbrev F6:=@List.getElem?_replicate
abbrev F7:=@decide_eq_false_iff_not
abbrev F9:=@List.pairwise_singleton
abbrev Ga:=@List.getElem_cons_zero
abbrev AX:=@List.flatten_cons
abbrev AY:=@List.ext_getElem?
abbrev uS:=@Nat.sub_self
abbrev AZ:=@List.getElem_take
abbrev NC:=@Array.getElem?_setIfInBounds_ne
abbrev Gb:=@List.getElem?_toArray
abbrev Gc:=@Nat.le_of_ble_eq_true
abbrev Gd:=@List.singleton_append
abbrev A0:=@List.any_eq_true
abbrev ND:=@Nat.and_two_pow_sub_one_eq_mod
abbrev xv:=@List.all_cons
abbrev A2:=@List.nodup_cons
abbrev Ge:=@List.get_eq_getElem
abbrev NF:=@Nat.two_pow_add_eq_or_of_lt
abbrev xw:=@Int.zero_add
abbrev NG:=@iff_iff_implies_and_implies
abbrev Gf:=@List.getElem_range
abbrev A3:=@List.mapM_cons
abbrev NH:=@Int.fdiv_eq_ediv_of_nonneg
abbrev NI:=@Int.add_mul_emod_self_left
abbrev uT:=@Int.not_le
abbrev Gg:=@Int.tmod_lt_of_pos
abbrev NJ:=@Array.getElem?_eq_getElem
abbrev NK:=@Classical.byContradiction
abbrev NL:=@Int.le_of_mul_le_mul_left
abbrev NM:=@Decidable.byContradiction
abbrev Gh:=@List.getElem_drop
abbrev Gi:=@Decidable.not_not
abbrev A4:=@List.any_cons
abbrev NN:=@List.length_eq_zero_iff
abbrev NO:=@List.getElem?_cons_zero
abbrev Gj:=@List.nil_sublist
abbrev NP:=@Array.getElem?_eq_none
abbrev NQ:=@List.getElem_replicate
abbrev xx:=@Nat.beq_eq
abbrev NR:=@List.append_eq_nil_iff
abbrev A5:=@Nat.pow_succ
abbrev A6:=@Int.pow_succ
abbrev A7:=@Int.mul_zero
abbrev NS:=@Int.ediv_eq_zero_of_lt
abbrev A8:=@Bool.true_or
abbrev NT:=@List.getElem?_set_self
abbrev Gk:=@List.range_succ
abbrev Gl:=@Int.emod_nonneg
abbrev NU:=@List.length_filter_le
abbrev NV:=@Int.mul_ediv_add_emod
abbrev NW:=@Nat.div_lt_iff_lt_mul
abbrev NX:=@Int.add_mul_ediv_left
abbrev NY:=@List.set_append_right
abbrev A9:=@Int.one_mul
abbrev Gm:=@Int.natAbs_mul
abbrev Ba:=@Int.mul_neg
abbrev Gn:=@Bool.and_false
abbrev Gp:=@Nat.lt_irrefl
abbrev Bb:=@Nat.blt_eq
abbrev Bc:=@Nat.ble_eq
abbrev Gq:=@Nat.mul_comm
abbrev Gr:=@Int.sub_zero
abbrev Gs:=@Int.zero_mul
section
namespace VM
open Go
theorem ape{α:Type}(a:α): ∃b:α,b=a:=⟨a,rfl⟩
def bk{α:Type}(a:α):α:=Classical.choose (ape a)
theorem js{α:Type}(a:α):bk a=a:=Classical.choose_spec (ape a)
def Bd:Nat:=68719476736
def W:IntKind→Int→Int:=bk λk x=>k.wrap x
def aX:Int→Int→Bool:=bk λx y=>decide (x<y)
def dx:Int→Int→Bool:=bk λx y=>decide (x≤y)
def aN:Int→Int→Bool:=bk λx y=>decide (x=y)
def bf:Int→Nat→Bool:=bk λi n=>decide (0≤i∧i<(n:Int))
def small:Nat→Bool:=bk λn=>decide (n<Bd)
def kW:Int→Int→Bool:=bk λl c=>decide (0≤l∧l≤c∧c<(Bd:Int))
def jt:Int→Int→Int→Int→Bool:=bk λl h m n=>decide (0≤l∧l≤h∧h≤m∧m≤n)
def quo:Int→Int→Int:=bk λx y=>x.tdiv y
def rem:Int→Int→Int:=bk λx y=>x.tmod y
def shl:IntKind→Int→Int→Int:=bk λk x y=>x*2^(min y.toNat k.bits)
def shr:IntKind→Int→Int→Int:=bk λk x y=>x.fdiv (2^(min y.toNat k.bits))
def mx:Int→Int→Int:=bk λx y=>if y>x then y else x
def mn:Int→Int→Int:=bk λx y=>if y<x then y else x
def Yc:ByteArray→ByteArray→Bool:=bk λx y=>decide (x.toList=y.toList)
theorem Gt(k:IntKind)(x:Int):W k x=k.wrap x:=by unfold W;rw[js]
theorem qH(x y:Int):aX x y=decide (x<y):=by unfold aX;rw[js]
theorem m8(x y:Int):dx x y=decide (x≤y):=by unfold dx;rw[js]
theorem jP(x y:Int):aN x y=decide (x=y):=by unfold aN;rw[js]
theorem Yd(i:Int)(n:Nat):bf i n=decide (0≤i∧i<(n:Int)):=by unfold bf;rw[js]
theorem Gu(n:Nat):small n=decide (n<Bd):=by unfold small;rw[js]
theorem J5(l c:Int):kW l c=decide (0≤l∧l≤c∧c<(Bd:Int)):=by unfold kW;rw[js]
theorem sr(l h m n:Int):jt l h m n=decide (0≤l∧l≤h∧h≤m∧m≤n):=by unfold jt;rw[js]
theorem aka(x y:Int):quo x y=x.tdiv y:=by unfold quo;rw[js]
theorem akb(x y:Int):rem x y=x.tmod y:=by unfold rem;rw[js]
theorem Ye(k:IntKind)(x y:Int):shl k x y=x*2^(min y.toNat k.bits):=by unfold shl;rw[js]
theorem Sg(k:IntKind)(x y:Int):shr k x y=x.fdiv (2^(min y.toNat k.bits)):=by unfold shr;rw[js]
theorem aiW(x y:Int):mx x y=if y>x then y else x:=by unfold mx;rw[js]
theorem Yf(x y:Int):mn x y=if y<x then y else x:=by unfold mn;rw[js]
theorem Gv(x y:ByteArray):Yc x y=decide (x.toList=y.toList):=by unfold Yc;rw[js]
inductive Bw where|and|or|xor|andNot
def ss:Bw→IntKind→Int→Int→Int:=bk λo k x y=>
 let a:=BitVec.ofInt k.bits x
 let b:=BitVec.ofInt k.bits y
 k.wrap (match o with| .and=>a&&& b| .or=>a|||b| .xor=>a^^^b| .andNot=>a&&& ~~~b).toNat
theorem vD(o:Bw)(k:IntKind)(x y:Int):ss o k x y=
 let a:=BitVec.ofInt k.bits x
 let b:=BitVec.ofInt k.bits y
 k.wrap (match o with| .and=>a&&& b| .or=>a|||b| .xor=>a^^^b| .andNot=>a&&& ~~~b).toNat:=by unfold ss;rw[js]
def strOf(l:List Nat):ByteArray:=⟨(l.map UInt8.ofNat).toArray⟩
inductive Ty where
 |int (k:IntKind)
 |bool
 |str
 |slice (e:Ty)
 |unit
 |pair (a b:Ty)
 |arr (n:Nat) (e:Ty)
 deriving DecidableEq
@[reducible] def Ty.den:Ty→Type
 | .int _=>Int
 | .bool=>Bool
 | .str=>ByteArray
 | .slice e=>List e.den
 | .unit=>Unit
 | .pair a b=>a.den×b.den
 | .arr _ e=>List e.den
def Ty.size:Ty→Nat
 | .int _| .bool| .str| .slice _=>1
 | .unit=>0
 | .pair a b=>a.size+b.size
 | .arr n e=>n*e.size
def Ty.isAgg:Ty→Bool
 | .unit| .pair _ _| .arr _ _=>true
 |_=>false
def Ty.zero:(τ:Ty)→τ.den
 | .int _=>(0:Int)
 | .bool=>false
 | .str=>ByteArray.empty
 | .slice _=>[]
 | .unit=>()
 | .pair a b=>(a.zero,b.zero)
 | .arr n e=>List.replicate n e.zero
def Ty.comparable:Ty→Bool
 | .slice _=>false
 | .pair a b=>a.comparable&&b.comparable
 | .arr _ _=>false
 |_=>true
def apf{α:Type}(f:α→α→Bool):List α→List α→Bool
 |[],[]=>true
 |x::xs,y::ys=>f x y&&apf f xs ys
 |_,_=>false
def pb:(τ:Ty)→τ.den→τ.den→Bool
 | .int _,x,y=>aN x y
 | .bool,x,y=>x==y
 | .str,x,y=>Yc x y
 | .slice _,_,_=>false
 | .unit,_,_=>true
 | .pair a b,x,y=>pb a x.1 y.1&&pb b x.2 y.2
 | .arr _ e,x,y=>apf (pb e) x y
inductive Step where
 |iK (n:Nat)
 |idx (i:Nat)
def Nl:List Step→List Step→Bool
 |[],[]=>true
 | .iK a::p,.iK b::q=>Nat.beq a b&&Nl p q
 |_,_=>false
def zt:List Step→List Step→Bool
 |[],_=>true
 | .iK a::p,.iK b::q=>Nat.beq a b&&zt p q
 |_,_=>false
def Be:Ty→Nat→Option Ty
 | .pair a b,n=>match n with
  |0=>some a
  |n+1=>Be b n
 |_,_=>none
def gm:List Step→Ty→Ty→Bool
 |[],τ,υ=>decide (τ=υ)
 | .iK n::p,τ,υ=>match Be τ n with
  |some a=>gm p a υ
  |none=>false
 |_,_,_=>false
inductive bE where
 |any
 |Yg
 |val (τ:Ty) (x:τ.den)
 |Lv (τ:Ty) (x:τ.den) (n:Nat)
 |Jo (τ:Ty) (x:τ.den) (n:Nat) (j:Nat)
 |sub (id:Nat) (e:Ty) (lo:Nat)
 |emp
 |ref (id:Nat)
 |jH (id:Nat) (p:List Step)
 |su (τ:Ty) (x:τ.den)
 |tup (vs:List bE)
 |NZ (f:Nat) (caps:List bE)
inductive br where
 |obj (τ:Ty) (x:τ.den)
 |gn (τ:Ty) (x:τ.den) (p:List Step) (j:Nat)
 |own (e:Ty) (l:List e.den)
 |pM (e:Ty) (l:List e.den)
 |gone
structure St where
 T:Nat→bE
 H:Nat→Option br
def St.put(σ:St)(d:Nat)(v:bE):St:=⟨λi=>cond (Nat.beq i d) v (σ.T i),σ.H⟩
def St.ku(σ:St)(d:Nat)(v:Option br):St:=⟨σ.T,λi=>cond (Nat.beq i d) v (σ.H i)⟩
def St.wY(σ:St)(d:Option Nat)(v:bE):St:=match d with|some d=>σ.put d v|none=>σ
def N0(n:Nat)(io:List Nat):Option Nat→Bool|some d=>Nat.blt d n&&io.all (λi=> !(Nat.beq i d))|none=>true
def St.xy(σ:St):List (Nat×Option br)→St
 |[]=>σ
 |u::r=>(σ.ku u.1 u.2).xy r
abbrev S0:St:=⟨λ_=> .any,λ_=>none⟩
abbrev jI:=List (Nat×Option br)
section K
variable{α:Type}
def vE:(τ:Ty)→τ.den→Nat→((υ:Ty)→υ.den→Option α)→Option α
 | .pair a b,x,n,k=>match n with
  |0=>k a x.1
  |n+1=>vE b x.2 n k
 |_,_,_,_=>none
def fV:(τ:Ty)→τ.den→Nat→((υ:Ty)→υ.den→(υ.den→Option α)→Option α)→(τ.den→Option α)→Option α
 | .pair a b,x,n,m,k=>match n with
  |0=>m a x.1 λz=>k (z,x.2)
  |n+1=>fV b x.2 n m λz=>k (x.1,z)
 |_,_,_,_,_=>none
def ju(τ υ:Ty)(k:Option α):Option α:=if τ=υ then k else none
def cP(υ τ:Ty)(y:υ.den)(k:τ.den→Option α):Option α:=if h:υ=τ then k (h▸y)else none
def akc(τ:Ty)(x:τ.den)(i:Nat)(k:(υ:Ty)→υ.den→Option α):Option α:=
 match τ,x with
 | .arr _ e,x=>k e (γ x i e.zero)
 |_,_=>none
def Ft(τ:Ty)(x:τ.den)(i:Nat)(m:(υ:Ty)→υ.den→(υ.den→Option α)→Option α)(k:τ.den→Option α):Option α:=
 match τ,x,k with
 | .arr _ e,x,k=>m e (γ x i e.zero) λz=>k (List.set x i z)
 |_,_,_=>none
def Bf:List Step→(τ:Ty)→τ.den→((υ:Ty)→υ.den→Option α)→Option α
 |[],τ,x,k=>k τ x
 | .iK n::p,τ,x,k=>vE τ x n fun υ y=>Bf p υ y k
 | .idx i::p,τ,x,k=>akc τ x i fun υ y=>Bf p υ y k
def wZ(υ:Ty)(y:υ.den):List Step→(τ:Ty)→τ.den→(τ.den→Option α)→Option α
 |[],τ,_,k=>cP υ τ y k
 | .iK n::p,τ,x,k=>fV τ x n (fun υ' y' k'=>wZ υ y p υ' y' k') k
 | .idx i::p,τ,x,k=>Ft τ x i (fun υ' y' k'=>wZ υ y p υ' y' k') k
def m9(fz:Bool)(a:bE)(H:Nat→Option br)(τ:Ty)(k:τ.den→List Nat→jI→Option α):Option α:=
 match a with
 | .val υ x=>cP υ τ x λy=>k y [] []
 | .Lv υ x _=>cP υ τ x λy=>k y [] []
 | .emp=>match τ,k with
  | .slice _,k=>k [] [] []
  |_,_=>none
 | .ref id=>match H id with
  |some (.own e l)=>cP (.slice e) τ l λy=>k y [id] (cond fz [(id,some (.pM e l))] [])
  |some (.pM e l)=>cP (.slice e) τ l λy=>k y [id] []
  |_=>none
 |_=>none
def N1(a:bE)(k:(τ:Ty)→τ.den→Option α):Option α:=
 match a with
 | .val υ x=>k υ x
 |_=>none
def mf(id:Nat)(p:List Step)(H:Nat→Option br)(k:Ty→Option α):Option α:=
 match H id with
 |some (.obj τ x)=>Bf p τ x fun υ _=>k υ
 |some (.gn τ x _ _)=>Bf p τ x fun υ _=>k υ
 |some (.own e l)|some (.pM e l)=>match p with
  | .idx i::p=>Bf p e (γ l i e.zero) fun υ _=>k υ
  |_=>none
 |_=>none
def aAH(a:bE)(H:Nat→Option br)(k:(τ:Ty)→τ.den→List Nat→Option α):Option α:=
 match a with
 | .val υ x=>k υ x []
 | .ref id=>match H id with
  |some (.own e l)|some (.pM e l)=>k (.slice e) l [id]
  |_=>none
 |_=>none
def w1(a:bE)(k:IntKind→Int→Option α):Option α:=
 match a with
 | .val (.int i) x=>k i x
 |_=>none
end K
inductive AM where
 |v (τ:Ty)
 |own (e:Ty)
 |io (τ:Ty)
 |fn (f:Nat) (τ:Ty)
 |ptr (τ:Ty)
 |jH (τ:Ty)
 |lo (e:Ty)
 |sp (τ:Ty) (n:Nat) (e:Ty)
 deriving DecidableEq
@[reducible] def AM.den:AM→Type
 | .v τ=>τ.den
 | .own e=>List e.den
 | .io τ=>τ.den
 | .fn _ τ=>τ.den
 | .ptr τ=>τ.den
 | .jH τ=>τ.den
 | .lo e=>List e.den
 | .sp τ _ _=>τ.den
@[reducible] def HP:List AM→Type
 |[]=>Unit
 |[m]=>m.den
 |m::n::ms=>m.den×HP (n::ms)
structure nc where
 args:List AM
 res:List AM
 quiet:Bool
 run:HP args→Option (HP res)
inductive CM where
 |v (τ:Ty)
 |own (e:Ty)
 |obj (τ:Ty)
 |gn (τ:Ty) (q:List Step) (e:Ty)
 |same (s:Nat)
 |io (τ:Ty)
 |fn (f:Nat) (τ:Ty)
structure Env where
 nt:Nat
 ty:Nat→Option Ty
 Γ:Nat→List nc
 N:Nat
 xz:Nat→Option (List (Nat×CM))
 zu:Nat→Option (List (Nat×CM))
 io:List Nat:=[]
 lk:Option (Ty×List Step×Ty×List Nat):=none
def Env.vw(E:Env):Bool:=match E.lk with
 |some (_,_,_,ds)=>ds.any λd=>Nat.beq d 1000001
 |none=>false
def Env.sp(E:Env):Bool:=match E.lk with
 |some (_,_,_,ds)=>ds.any λd=>Nat.beq d 1000000
 |none=>false
def lkT(E:Env)(τ:Ty):Option (List Step×Ty):=match E.lk with
 |some (υ,q,e,_)=>cond (decide (υ=τ)) (cond (gm q τ (.slice e)) (some (q,e)) none) none
 |none=>none
def Jp(E:Env)(τ:Ty)(id:Nat):Option (List Step×Ty):=match E.lk with
 |some (_,_,_,ds)=>cond (ds.any λd=>Nat.beq (id/16) d) (lkT E τ) none
 |none=>none
def cvA:Value→bE
 | .int k n=> .val (.int k) n
 | .bool b=> .val .bool b
 | .string s=> .val .str s
 | .slice none 0 0=> .emp
 |_=> .any
def St.ρ (σ:St):Operand→bE
 | .tmp t=>σ.T t
 | .const v=>cvA v
 | .global _=> .any
 | .func f=> .NZ f []
section
variable{α:Type}
def vF(op:BinOp)(k:IntKind)(x y:Int)(K:bE→Option α):Option α:=
 match op with
 | .add=>K (.val (.int k) (W k (x+y)))
 | .sub=>K (.val (.int k) (W k (x-y)))
 | .mul=>K (.val (.int k) (W k (x*y)))
 | .quo=>cond (aN y 0) none (K (.val (.int k) (W k (quo x y))))
 | .rem=>cond (aN y 0) none (K (.val (.int k) (rem x y)))
 | .and=>K (.val (.int k) (ss .and k x y))
 | .or=>K (.val (.int k) (ss .or k x y))
 | .xor=>K (.val (.int k) (ss .xor k x y))
 | .andNot=>K (.val (.int k) (ss .andNot k x y))
 | .eql=>K (.val .bool (aN x y))
 | .neq=>K (.val .bool (!aN x y))
 | .lss=>K (.val .bool (aX x y))
 | .leq=>K (.val .bool (dx x y))
 | .gtr=>K (.val .bool (aX y x))
 | .geq=>K (.val .bool (dx y x))
 |_=>none
def shK(op:BinOp)(k:IntKind)(x y:Int)(K:bE→Option α):Option α:=
 match op with
 | .shl=>cond (aX y 0) none (K (.val (.int k) (W k (shl k x y))))
 | .shr=>cond (aX y 0) none (K (.val (.int k) (shr k x y)))
 |_=>none
def ab8:BinOp→Bool
 | .shl| .shr=>true
 |_=>false
def Gw(t:Option Ty)(op:BinOp)(τ:Ty)(x:τ.den)(υ:Ty)(y:υ.den)(K:bE→Option α):Option α:=
 match τ,x,υ,y with
 | .int k,x,.int k',y=>cond (ab8 op) (shK op k x y K) (if k=k' then vF op k x y K else none)
 |τ,x,υ,y=>match t with
  |none=>none
  |some u=>ju u τ (cond τ.comparable (match op with
   | .eql=>cP υ τ y λy=>K (.val .bool (pb τ x y))
   | .neq=>cP υ τ y λy=>K (.val .bool (!pb τ x y))
   |_=>none) none)
def Vs(op:UnOp)(a:bE)(K:bE→Option α):Option α:=
 match op,a with
 | .neg,.val (.int k) n=>K (.val (.int k) (W k (0-n)))
 | .xor,.val (.int k) n=>K (.val (.int k) (ss .xor k (if k.signed then-1 else k.max) n))
 | .not,.val .bool b=>K (.val .bool (!b))
 |_,_=>none
abbrev g7(α:Type):=bE→List Nat→jI→Option α
def mmK(up:Bool):bE→List bE→(bE→Option α)→Option α
 |a,[],K=>K a
 |a,b::r,K=>w1 a λk x=>w1 b λk' y=>if k=k' then mmK up (.val (.int k) (cond up (mx x y) (mn x y))) r K else none
def N2(τ:Ty)(a:bE)(H:Nat→Option br)(K:g7 α):Option α:=
 match τ,a with
 | .slice _,.val (.slice _) l=>K (.val (.int .i64) (ℓ l:Int)) [] []
 | .arr n _,.val (.arr _ _) _=>K (.val (.int .i64) (n:Int)) [] []
 | .str,.val .str s=>K (.val (.int .i64) (ByteArray.size s:Int)) [] []
 | .slice _,.emp=>K (.val (.int .i64) (0:Int)) [] []
 | .slice _,.ref id=>match H id with
  |some (.own _ l)|some (.pM _ l)=>K (.val (.int .i64) (l.length:Int)) [id] []
  |_=>none
 |_,_=>none
def sv(H:Nat→Option br)(id:Nat)(e:br)(K:Option α):Option α:=
 match H id with
 |none=>K
 |some _=>none
def N3(id:Nat)(e:Ty)(a b:bE)(H:Nat→Option br)(K:g7 α):Option α:=
 m9 false b H (.slice e) λys rd _=>
  match a with
  | .emp=>cond (small (ℓ ys)) (K (.ref id) (id::rd) [(id,some (.own e ys))]) none
  | .ref j=>match H j with
   |some (.own e' l)=>cP (.slice e') (.slice e) l λxs=>
    cond (small (ℓ xs+ℓ ys)) (K (.ref id) (id::j::rd) [(j,some .gone),(id,some (.own e (xs++ys)))]) none
   |_=>none
  |_=>none
def mg(τ:Ty)(H:Nat→Option br):List (Nat×bE)→τ.den→List Nat→jI→(τ.den→List Nat→jI→Option α)→Option α
 |[],x,rd,ups,K=>K x rd ups
 |p::r,x,rd,ups,K=>vE τ x p.1 fun υ _=>m9 true p.2 H υ λy yU kP=>
  fV τ x p.1 (fun υ' _ k'=>cP υ υ' y k') λz=>mg τ H r z (yU++rd) (ups++kP) K
def xA(e:Ty)(H:Nat→Option br)(n:Nat):List (Nat×bE)→List e.den→List Nat→jI→(List e.den→List Nat→jI→Option α)→Option α
 |[],l,rd,ups,K=>K l rd ups
 |p::r,l,rd,ups,K=>cond (Nat.blt p.1 n) (m9 true p.2 H e λy yU kP=>xA e H n r (List.set l p.1 y) (yU++rd) (ups++kP) K) none
def DJ(v:bE)(H:Nat→Option br):(a:Ty)→(a.den→List Nat→jI→Option α)→Option α
 | .pair a .unit,k=>match v with
  | .su υ x=>cP υ a x λy=>k (y,()) [] []
  |_=>none
 |a,k=>m9 true v H a k
def DK:(a:Ty)→a.den→bE
 | .pair a .unit,x=> .su a x.1
 |a,x=> .val a x
def sx(H:Nat→Option br):(τ:Ty)→List bE→(τ.den→List Nat→jI→Option α)→Option α
 | .unit,[],K=>K () [] []
 | .pair a b,v::vs,K=>DJ v H a λx rd ups=>sx H b vs λxs yU kP=>K (x,xs) (yU++rd) (ups++kP)
 |_,_,_=>none
def q4:(τ:Ty)→τ.den→List bE
 | .pair a b,x=>DK a x.1::q4 b x.2
 |_,_=>[]
def cq(H:Nat→Option br)(d:Nat)(v:Option br):Nat→Option br:=λi=>cond (Nat.beq i d) v (H i)
def xB(H:Nat→Option br):List bE→(List bE→List Nat→jI→Option α)→Option α
 |[],K=>K [] [] []
 |a::r,K=>match a with
  | .jH id []=>match H id with
   |some (.obj τ x)=>xB (cq H id (some .gone)) r λcs rd ups=>K (.su τ x::cs) (id::rd) ((id,some .gone)::ups)
   |_=>none
  |a=>xB H r λcs rd ups=>K (a::cs) rd ups
def o5(m:AM)(a:bE)(H:Nat→Option br)(k:m.den→(Nat→Option br)→List Nat→jI→jI→List (Nat×AM)→Option α):Option α:=
 match m,k with
 | .v τ,k=>m9 true a H τ λx rd uf=>match uf with
  |[]=>k x H rd [] [] []
  |u::r=>k x (cq H u.1 u.2) rd [] (u::r) []
 | .own e,k=>match a with
  | .emp=>k [] H [] [] [] []
  | .ref id=>match H id with
   |some (.own e' l)=>cP (.slice e') (.slice e) l λx=>k x (cq H id (some .gone)) [id] [(id,some .gone)] [] []
   |_=>none
  |_=>none
 | .io τ,k=>match a with
  | .jH id []=>match H id with
   |some (.obj υ x)=>cP υ τ x λy=>k y (cq H id (some .gone)) [id] [] [] [(id,.io τ)]
   |_=>none
  |_=>none
 | .fn f τ,k=>match a with
  | .NZ f' c=>cond (Nat.beq f f') (sx H τ c λx rd uf=>match uf with
   |[]=>k x H rd [] [] []
   |_=>none) none
  |_=>none
 | .ptr _,_=>none
 | .jH τ,k=>match a with
  | .su υ x=>cP υ τ x λy=>k y H [] [] [] []
  |_=>none
 | .lo e,k=>match a with
  | .ref id=>match H id with
   |some (.own e' l)=>cP (.slice e') (.slice e) l λx=>k x (cq H id (some .gone)) [id] [] [] [(id,.lo e)]
   |_=>none
  |_=>none
 | .sp _ _ _,_=>none
def uU:(ms:List AM)→List bE→(Nat→Option br)→List Nat→jI→jI→List (Nat×AM)→(HP ms→List Nat→jI→jI→List (Nat×AM)→Option α)→Option α
 |[],[],_,rd,uo,uf,io,K=>K () rd uo uf io
 |[m],[a],H,rd,uo,uf,io,K=>o5 m a H λx _ yU Nm Nn Ja=>K x (yU++rd) (Nm++uo) (Nn++uf) (io++Ja)
 |m::n::ms,a::rj,H,rd,uo,uf,io,K=>o5 m a H λx H' yU Nm Nn Ja=>
  uU (n::ms) rj H' (yU++rd) (Nm++uo) (Nn++uf) (io++Ja) λxs rd uo uf io=>K (x,xs) rd uo uf io
 |_,_,_,_,_,_,_,_=>none
def xC(m:AM)(x:m.den)(id:Nat):bE×jI:=
 match m,x with
 | .v τ,x=>(.val τ x,[])
 | .own e,x=>(.ref id,[(id,some (.own e x))])
 | .io τ,x=>(.val τ x,[])
 | .fn _ _,_=>(.any,[])
 | .ptr τ,x=>(.jH id [],[(id,some (.obj τ x))])
 | .jH _,_=>(.any,[])
 | .lo _,_=>(.any,[])
 | .sp τ n e,x=>match vE τ x n (fun υ y=>cP υ (.slice e) y some),fV τ x n (fun υ' _ k'=>cP (.slice e) υ' [] k') some with
  |some l,some z=>(.Jo τ z n id,[(id,some (.own e l))])
  |_,_=>(.any,[])
def iC:(ms:List AM)→HP ms→Nat→List (Nat×AM)→List bE×jI×List (Nat×AM)
 |[],_,_,io=>([],[],io)
 |[m],x,id,io=>match m,x,io with
  | .io τ,x,(j,_)::io=>([],[(j,some (.obj τ x))],io)
  | .lo e,x,(j,_)::io=>([],[(j,some (.own e x))],io)
  |m,x,io=>([(xC m x id).1],(xC m x id).2,io)
 |m::n::ms,x,id,io=>match m,x,io with
  | .io τ,x,(j,_)::io=>let r:=iC (n::ms) x.2 (id+1) io;(r.1,(j,some (.obj τ x.1))::r.2.1,r.2.2)
  | .lo e,x,(j,_)::io=>let r:=iC (n::ms) x.2 (id+1) io;(r.1,(j,some (.own e x.1))::r.2.1,r.2.2)
  |m,x,io=>let r:=iC (n::ms) x.2 (id+1) io;((xC m x.1 id).1::r.1,(xC m x.1 id).2++r.2.1,r.2.2)
def N4:List bE→bE
 |[]=> .any
 |[a]=>a
 |l=> .tup l
def vG(H:Nat→Option br)(id:Nat):Nat→Bool
 |0=>true
 |n+1=>(match H (id+n)with|none=>true|some _=>false)&&vG H id n
def N5(id:Nat):Nat→List Nat
 |0=>[]
 |n+1=>(id+n)::N5 id n
def fits:List AM→List bE→Bool
 |[],[]=>true
 | .fn f _::ms,.NZ g _::rj=>Nat.beq f g&&fits ms rj
 | .fn _ _::_,_::_=>false
 |_::ms,_::rj=>fits ms rj
 |_,_=>false
def N6:List nc→List bE→Option nc
 |[],_=>none
 |S::r,rj=>cond (fits S.args rj) (some S) (N6 r rj)
def DL(E:Env)(f:Nat)(rj:List bE)(id:Nat)(H:Nat→Option br)(K:g7 α):Option α:=
 match N6 (E.Γ f) rj with
 |none=>none
 |some S=>uU S.args rj H [] [] [] [] λx rd uo uf io=>
  (S.run x).bind λy=>
   let r:=iC S.res y id io
   cond (vG H id S.res.length) (K (N4 r.1) (N5 id S.res.length++(r.2.1.map (·.1)++rd)) (uo++cond S.quiet [] uf++r.2.1)) none
def zv(a:Option bE)(d:Int)(k:Int→Option α):Option α:=
 match a with
 |none=>k d
 |some a=>w1 a λ_ x=>k x
def kD:Option Operand→Bool
 |some (.const (.int _ n))=>decide (n=0)
 |_=>false
def sy(t:Ty)(z:Bool)(a:bE)(lo hi mx:Option bE)(H:Nat→Option br)(K:g7 α):Option α:=
 match t,a with
 | .str,.val .str s=>cond mx.isNone (zv lo 0 λl=>zv hi (ByteArray.size s:Int) λh=>
  cond (jt l h (ByteArray.size s:Int) (ByteArray.size s:Int)) (K (.val .str (ByteArray.extract s l.toNat h.toNat)) [] []) none) none
 | .slice _,.emp=>cond z (K .emp [] []) (cond mx.isNone (zv lo 0 λl=>zv hi 0 λh=>cond (jt l h 0 0) (K .emp [] []) none) none)
 | .slice e,a=>m9 (!z) a H (.slice e) λx rd ups=>cond z (K .emp rd [])
  (cond (mx.isNone||hi.isSome) (zv lo 0 λl=>zv hi (ℓ x:Int) λh=>zv mx (ℓ x:Int) λm=>
   cond (jt l h m (ℓ x:Int))
    (K (.val (.slice e) (List.drop l.toNat (List.take h.toNat x))) rd ups) none) none)
 |_,_=>none
def xD(E:Env)(t:Ty)(z:Bool)(a:bE)(lo hi mx:Option bE)(H:Nat→Option br)(K:g7 α):Option α:=
 match E.vw,t,a,lo,hi,mx with
 |true,.slice e,.ref id,some lo,none,none=>w1 lo λ_ i=>match H id with
  |some (.own e' l)=>ju e' e (cond (jt i (ℓ l:Int) (ℓ l:Int) (ℓ l:Int)) (K (.sub id e i.toNat) [id] []) none)
  |_=>none
 |_,t,a,lo,hi,mx=>sy t z a lo hi mx H K
def zV(e:Ty)(a:bE)(H:Nat→Option br)(K:g7 α):Option α:=
 match a with
 | .sub id e' lo=>ju e' e (match H id with
  |some (.own e2 l)=>cP (.slice e2) (.slice e) l λl=>K .any [id] [(id,some (.own e (List.take lo l++List.replicate (ℓ l-lo) e.zero)))]
  |_=>none)
 |_=>none
def hZ(τ:Ty)(a i:bE)(H:Nat→Option br)(K:g7 α):Option α:=
 w1 i λ_ i=>
 match τ with
 | .slice e=>match a with
  | .val υ l=>cP υ (.slice e) l λl=>cond (bf i (ℓ l)) (K (.su e (γ l i.toNat e.zero)) [] []) none
  | .ref id=>match H id with
   |some (.own e' l)|some (.pM e' l)=>ju e' e (cond (bf i (ℓ l)) (K (.jH id [.idx i.toNat]) [id] []) none)
   |_=>none
  |_=>none
 | .arr n e=>match a with
  | .jH id p=>mf id p H fun υ=>ju υ (.arr n e) (cond (bf i n) (K (.jH id (p++[.idx i.toNat])) [id] []) none)
  | .su υ l=>cP υ (.arr n e) l λl=>cond (bf i n) (K (.su e (γ l i.toNat e.zero)) [] []) none
  |_=>none
 |_=>none
def xE(τ:Ty)(a i:bE)(K:bE→Option α):Option α:=
 w1 i λ_ i=>
 match τ,a with
 | .arr n e,.val υ l=>cP υ (.arr n e) l λl=>cond (bf i n) (K (.val e (γ l i.toNat e.zero))) none
 | .str,.val .str s=>cond (bf i (ByteArray.size s)) (K (.val (.int .u8) ((s.data.getD i.toNat 0).toNat:Int))) none
 |_,_=>none
def lZ(a:bE)(H:Nat→Option br)(K:(υ:Ty)→υ.den→List Nat→Option α):Option α:=
 match a with
 | .su τ x=>K τ x []
 | .jH id p=>match H id with
  |some (.obj τ x)=>Bf p τ x fun υ y=>K υ y [id]
  |some (.own e l)|some (.pM e l)=>match p with
   | .idx i::p=>Bf p e (γ l i e.zero) fun υ y=>K υ y [id]
   |_=>none
  |_=>none
 |_=>none
def nf(τ:Ty)(a v:bE)(H:Nat→Option br)(K:g7 α):Option α:=
 match a with
 | .jH id p=>m9 true v H τ λy rd ups=>
  match H id with
  |some (.obj υ x)=>wZ τ y p υ x λz=>K .any (id::rd) (ups++[(id,some (.obj υ z))])
  |some (.own e l)=>match p with
   | .idx i::p=>cond (rd.contains id) none (wZ τ y p e (γ l i e.zero) λz=>K .any (id::rd) (ups++[(id,some (.own e (List.set l i z)))]))
   |_=>none
  |_=>none
 |_=>none
def EN(j:Nat)(q:List Step)(τ:Ty)(x:τ.den)(H:Nat→Option br)(k:τ.den→jI→Option α):Option α:=
 match H j with
 |some (.own e l)=>wZ (.slice e) l q τ x λz=>k z [(j,some (.pM e l))]
 |some (.pM e l)=>wZ (.slice e) l q τ x λz=>k z []
 |_=>none
def uV(τ:Ty)(a:bE)(H:Nat→Option br)(K:g7 α):Option α:=
 let oV:=lZ a H fun υ y rd=>cP υ τ y λz=>K (.val τ z) rd []
 match a with
 | .jH id p=>match H id with
  |some (.gn υ x q j)=>cond (Nl p q) (cond (gm q υ τ) (K (.ref j) [id] []) none)
   (cond (zt p q) (EN j q υ x H λz ups=>Bf p υ z fun υ' y=>cP υ' τ y λy'=>K (.val τ y') [id,j] ups)
    (Bf p υ x fun υ' y=>cP υ' τ y λy'=>K (.val τ y') [id] []))
  |_=>oV
 |_=>oV
def DM(τ:Ty)(id k:Nat)(e:Ty)(q:List Step)(υ:Ty)(x:υ.den)(H:Nat→Option br)(K:g7 α):Option α:=
 match H k with
 |some (.own e' _)=>ju e' e (ju τ (.slice e) (wZ (.slice e) [] q υ x λz=>K .any [id,k] [(id,some (.gn υ z q k))]))
 |_=>none
def kX(E:Env)(τ:Ty)(a v:bE)(H:Nat→Option br)(K:g7 α):Option α:=
 let oV:=nf τ a v H K
 match a with
 | .jH id p=>match H id with
  |some (.obj υ x)=>match Jp E υ id,v with
   |some (q,e),.ref k=>cond (Nl p q) (DM τ id k e q υ x H K) oV
   |_,_=>oV
  |some (.gn υ x q j)=>
   let put:=m9 true v H τ λy rd ups=>wZ τ y p υ x λz=>K .any (id::rd) (ups++[(id,some (cond (zt p q) (.obj υ z) (.gn υ z q j)))])
   match Jp E υ id,v with
   |some (q',e),.ref k=>cond (Nl p q&&Nl q q') (DM τ id k e q υ x H K) put
   |_,_=>put
  |_=>oV
 |_=>oV
def uq(E:Env)(τ:Ty)(a v:bE)(H:Nat→Option br)(K:g7 α):Option α:=
 match a,v with
 | .jH id [],.Lv υ y n=>match Jp E υ id with
  |some ([.iK m],e)=>cond (Nat.beq m n) (ju τ υ (mf id [] H fun υ'=>ju υ' υ
   (sv H (id+2) (.own e []) (K .any [id,id+2] [(id,some (.gn υ y [.iK m] (id+2))),(id+2,some (.own e []))])))) (kX E τ a v H K)
  |_=>kX E τ a v H K
 |_,_=>kX E τ a v H K
def EO(H:Nat→Option br)(id:Nat)(τ:Ty)(x:τ.den)(q:List Step)(e:Ty)(K:g7 α):Option α:=
 sv H id (.obj τ x) (sv H (id+1) (.own e []) (K (.jH id []) [id,id+1] [(id,some (.gn τ x q (id+1))),(id+1,some (.own e []))]))
def ab9(E:Env)(ps:List (Nat×bE))(τ:Ty)(x:τ.den):bE:=match lkT E τ with
 |some ([.iK n],_)=>cond (ps.all λp=> !(Nat.beq p.1 n)) (.Lv τ x n) (.val τ x)
 |_=> .val τ x
def Bh(E:Env)(τ:Ty)(a:bE)(H:Nat→Option br)(K:g7 α):Option α:=
 match E.sp,a with
 |true,.jH id []=>match H id with
  |some (.gn υ x [.iK n] j)=>cP υ τ x λx=>K (.Jo τ x n j) [id] []
  |_=>uV τ a H λv rd ups=>K v (id::rd) ups
 |_,_=>uV τ a H K
def xF(E:Env)(τ:Ty)(a v:bE)(H:Nat→Option br)(K:g7 α):Option α:=
 match a,v with
 | .jH id [],.Jo υ y n j=>match Jp E υ id with
  |some ([.iK m],e)=>cond (Nat.beq m n) (ju τ υ (mf id [] H fun υ'=>ju υ' υ (match H j with
   |some (.own e' _)=>ju e' e (K .any [id,j] [(id,some (.gn υ y [.iK m] j))])
   |_=>none))) none
  |_=>none
 |_,_=>uq E τ a v H K
def Lw(E:Env)(ps:List (Nat×bE))(τ:Ty):Option (Nat×Nat):=match E.sp,lkT E τ with
 |true,some ([.iK n],_)=>match ps.filter λp=>Nat.beq p.1 n with
  |[(_,.ref k)]=>some (n,k)
  |_=>none
 |_,_=>none
def xG(n:Nat)(ps:List (Nat×bE)):List (Nat×bE):=ps.map λp=>cond (Nat.beq p.1 n) (p.1,.emp) p
def partsOf(σρ:Operand→bE)(ps:Array (Nat×Operand)):List (Nat×bE):=ps.toList.map λp=>(p.1,σρ p.2)
def tL(E:Env)(o:Oper)(ρ:Operand→bE)(H:Nat→Option br)(K:g7 α):Option α:=
 let id:=16*o.dst.getD 0
 match o.op with
 | .move x| .assign x=>K (ρ x) [] []
 | .pick c a b=>match ρ c with
  | .val .bool t=>cond t (K (ρ a) [] []) (K (ρ b) [] [])
  |_=>none
 | .alloc t=>match E.ty t with
  |some τ=>match Jp E τ id with
   |some (q,e)=>EO H id τ τ.zero q e K
   |none=>sv H id (.obj τ τ.zero) (K (.jH id []) [id] [(id,some (.obj τ τ.zero))])
  |none=>none
 | .box t x=>match E.ty t with
  |some τ=>
   let oV:=m9 true (ρ x) H τ λy rd ups=>sv H id (.obj τ y) (K (.jH id []) (id::rd) (ups++[(id,some (.obj τ y))]))
   match Jp E τ id,ρ x with
   |some ([.iK m],e),.Lv υ y n=>cond (Nat.beq m n) (cP υ τ y λy=>EO H id τ y [.iK m] e K) oV
   |_,_=>oV
  |none=>none
 | .build t ps=>match E.ty t with
  |some (.arr n e)=>xA e H n (partsOf ρ ps) (List.replicate n e.zero) [] [] λl rd ups=>K (.val (.arr n e) l) rd ups
  |some τ=>match Lw E (partsOf ρ ps) τ with
   |some (n,k)=>match H k with
    |some (.own _ _)=>cond τ.isAgg (mg τ H (xG n (partsOf ρ ps)) τ.zero [] [] λx rd ups=>K (.Jo τ x n k) (k::rd) ups) none
    |_=>none
   |none=>cond τ.isAgg (mg τ H (partsOf ρ ps) τ.zero [] [] λx rd ups=>K (ab9 E (partsOf ρ ps) τ x) rd ups) none
  |none=>none
 | .buildSlice t n ps=>match E.ty t with
  |some (.slice e)=>cond (Nat.ble (n*(e.size+1)) 16777216) (sv H id (.own e []) (xA e H n (partsOf ρ ps) (List.replicate n e.zero) [] [] λl rd ups=>K (.ref id) (id::rd) (ups++[(id,some (.own e l))]))) none
  |_=>none
 | .load t a=>match E.ty t with
  |some τ=>Bh E τ (ρ a) H K
  |none=>none
 | .store t a v=>match E.ty t with
  |some τ=>xF E τ (ρ a) (ρ v) H K
  |none=>none
 | .nilCheck x=>match ρ x with
  | .jH id p=>K (.jH id p) [] []
  | .su τ x=>K (.su τ x) [] []
  |_=>none
 | .binOp op t x y _=>N1 (ρ x) fun τ x=>N1 (ρ y) fun υ y=>Gw (E.ty t) op τ x υ y λv=>K v [] []
 | .unOp op _ x=>Vs op (ρ x) λv=>K v [] []
 | .convert src dst x=>match E.ty src,E.ty dst with
  |some _,some (.int k)=>w1 (ρ x) λ_ n=>K (.val (.int k) (W k n)) [] []
  |_,_=>none
 | .makeFunc (.func f) first caps=>cond first.isEmpty (xB H (caps.toList.map ρ) λcs rd ups=>K (.NZ f cs) rd ups) none
 | .makeSlice t l c=>match E.ty t with
  |some (.slice e)=>w1 (ρ l) λ_ l=>w1 (ρ c) λ_ c=>cond (kW l c)
    (sv H id (.own e []) (K (.ref id) [id] [(id,some (.own e (List.replicate l.toNat e.zero)))])) none
  |_=>none
 | .slice t x lo hi mx=>match E.ty t with
  |some τ=>xD E τ (lo.isNone&&kD hi&&kD mx) (ρ x) (lo.map ρ) (hi.map ρ) (mx.map ρ) H K
  |none=>none
 | .fieldAddr t x n=>match E.ty t with
  |some τ=>match ρ x with
   | .jH id p=>mf id p H fun υ=>ju υ τ (vE τ τ.zero n fun υ' _=>cond (Nat.beq υ'.size 0) none (K (.jH id (p++[.iK n])) [id] []))
   | .su υ x=>ju υ τ (vE υ x n fun υ y=>cond (Nat.beq υ.size 0) none (K (.su υ y) [] []))
   |_=>none
  |none=>none
 | .field t x n=>match E.ty t with
  |some τ=>match ρ x with
   | .val υ x=>ju υ τ (vE υ x n fun υ y=>K (.val υ y) [] [])
   |_=>none
  |none=>none
 | .indexAddr t x i=>match E.ty t with
  |some τ=>hZ τ (ρ x) (ρ i) H K
  |none=>none
 | .index t x i=>match E.ty t with
  |some τ=>xE τ (ρ x) (ρ i) λv=>K v [] []
  |none=>none
 | .extract t i=>match ρ t with
  | .tup vs=>match vs[i]? with
   |some v=>K v [] []
   |none=>none
  |_=>none
 | .call c=>match c.callee with
  | .builtin .len=>match c.args.toList,(c.argTypes.toList.head?).bind E.ty with
   |[x],some τ=>N2 τ (ρ x) H K
   |_,_=>none
  | .builtin .append=>match c.args.toList,c.argTypes.toList with
   |[x,y],[t,t']=>match E.ty t with
    |some (.slice e)=>cond (Nat.beq t t') (sv H id (.own e []) (N3 id e (ρ x) (ρ y) H K)) none
    |_=>none
   |_,_=>none
  | .builtin .clear=>match c.args.toList,c.argTypes.toList with
   |[x],[t]=>match E.ty t with
    |some (.slice e)=>zV e (ρ x) H K
    |_=>none
   |_,_=>none
  | .builtin .max=>match c.args.toList with
   |x::r=>mmK true (ρ x) (r.map ρ) λv=>K v [] []
   |_=>none
  | .builtin .min=>match c.args.toList with
   |x::r=>mmK false (ρ x) (r.map ρ) λv=>K v [] []
   |_=>none
  | .value g=>match ρ g with
   | .NZ f caps=>DL E f (c.args.toList.map ρ++caps) id H K
   |_=>none
  |_=>none
 |_=>none
def uW(E:Env)(ops:List Oper)(o:Oper)(σ:St)(K:St→List Nat→List Nat→Option α):Option α:=
 let run (σ:St):Option α:=tL E o σ.ρ σ.H λv rd ups=>K ((σ.xy ups).wY o.dst v) rd (ups.map (·.1))
 cond (N0 E.nt E.io o.dst) (match o.guard with
 |none=>run σ
 |some (j,want)=>match(ops[j]?).bind (·.dst)with
  |none=>none
  |some t=>match σ.T t with
   | .val .bool b=>match want with
    |true=>cond b (run (σ.put t (.val .bool true))) (K ((σ.put t (.val .bool false)).wY o.dst .Yg) [] [])
    |false=>cond b (K ((σ.put t (.val .bool true)).wY o.dst .Yg) [] []) (run (σ.put t (.val .bool false)))
   | .Yg=>K (σ.wY o.dst .Yg) [] []
   |_=>none) none
abbrev Log:=List (Nat×List Nat×List Nat)
def Vt(E:Env)(ops:List Oper):List Oper→Nat→St→Log→(St→Log→Option α)→Option α
 |[],_,σ,lg,K=>K σ lg
 |o::r,i,σ,lg,K=>uW E ops o σ fun σ' rd wr=>Vt E ops r (i+1) σ' ((i,rd,wr)::lg) K
def ur:List Oper→List Nat→List Nat
 |[],acc=>acc
 |o::r,acc=>ur r (acc++[o.after.toList.foldl (λs e=>cond (Region.binds .any e) (s|||2^e.on|||acc.getD e.on 0) s) 0])
def names(ops:List Oper)(o:Oper):List Nat:=
 (o.op.operands.toList.filterMap fun| .tmp t=>some t|_=>none)++
 (match o.guard with
  |some (g,_)=>((ops[g]?).bind (·.dst)).toList
  |none=>[])
def meets(a b:List Nat):Bool:=a.any λx=>b.any λy=>Nat.beq x y
def Yh(ops:List Oper):Bool:=
 let b:=ur ops []
 (ops.zipIdx.all λ(o,j)=>o.after.toList.all λe=> !(Region.binds .any e)||Nat.blt e.on j)&&
 ops.zipIdx.all λ(o,j)=>ops.zipIdx.all λ(p,i)=>Nat.ble j i||(b.getD j 0).testBit i||
  !(meets p.dst.toList (o.dst.toList++names ops o)||meets o.dst.toList (names ops p))
def aiX(ops:List Oper)(lg:Log):Bool:=
 let b:=ur ops []
 lg.all λx=>lg.all λy=>Nat.ble x.1 y.1||(b.getD x.1 0).testBit y.1||
  !(meets y.2.2 (x.2.1++x.2.2)||meets y.2.1 x.2.2)
def Fu(E:Env)(ops:Array Oper)(draw:Bool)(σ:St)(K:St→Option α):Option α:=
 Vt E ops.toList ops.toList 0 σ [] fun σ' lg=>cond (!draw||(Yh ops.toList&&aiX ops.toList lg)) (K σ') none
def iS:List (Nat×CM)→St→St→(St→Option α)→Option α
 |[],_,acc,K=>K acc
 |(s,.v τ)::r,σ,acc,K=>m9 true (σ.T s) σ.H τ λx _ ups=>iS r (σ.xy ups) (acc.put s (.val τ x)) K
 |(s,.own e)::r,σ,acc,K=>match σ.T s with
  | .emp=>iS r σ ((acc.put s (.ref (16*s+14))).ku (16*s+14) (some (.own e []))) K
  | .ref id=>match σ.H id with
   |some (.own e' l)=>cP (.slice e') (.slice e) l λx=>iS r (σ.ku id (some .gone)) ((acc.put s (.ref (16*s+14))).ku (16*s+14) (some (.own e x))) K
   |_=>none
  |_=>none
 |(s,.obj τ)::r,σ,acc,K=>match σ.T s with
  | .jH id []=>match σ.H id with
   |some (.obj υ x)=>cP υ τ x λy=>iS r (σ.ku id (some .gone)) ((acc.put s (.jH (16*s+14) [])).ku (16*s+14) (some (.obj τ y))) K
   |some (.gn υ x q j)=>EN j q υ x σ.H λz ups=>cP υ τ z λy=>iS r ((σ.xy ups).ku id (some .gone)) ((acc.put s (.jH (16*s+14) [])).ku (16*s+14) (some (.obj τ y))) K
   |_=>none
  |_=>none
 |(s,.gn τ q e)::r,σ,acc,K=>match σ.T s with
  | .jH id []=>match σ.H id with
   |some (.gn υ x q' j)=>cond (Nl q q') (match σ.H j with
    |some (.own e' l)=>cP υ τ x λy=>cP (.slice e') (.slice e) l λl=>iS r ((σ.ku j (some .gone)).ku id (some .gone))
     (((acc.put s (.jH (16*s+14) [])).ku (16*s+13) (some (.own e l))).ku (16*s+14) (some (.gn τ y q (16*s+13)))) K
    |_=>none) none
   |_=>none
  |_=>none
 |(s,.same s')::r,σ,acc,K=>match σ.T s,σ.T s',acc.T s' with
  | .ref i,.ref j,.ref j'=>cond (Nat.beq i j) (iS r σ (acc.put s (.ref j')) K) none
  |_,_,_=>none
 |(s,.io τ)::r,σ,acc,K=>match σ.T s with
  | .jH id []=>cond (Nat.beq id (16*s+15)) (match σ.H id with
   |some (.obj υ x)=>cP υ τ x λy=>iS r (σ.ku id (some .gone)) ((acc.put s (.jH (16*s+15) [])).ku (16*s+15) (some (.obj τ y))) K
   |_=>none) none
  |_=>none
 |(s,.fn f τ)::r,σ,acc,K=>match σ.T s with
  | .NZ f' c=>cond (Nat.beq f f') (sx σ.H τ c λx _ ups=>match ups with
   |[]=>iS r σ (acc.put s (.NZ f (q4 τ x))) K
   |_=>none) none
  |_=>none
def kY:List (Nat×CM)→Bool
 |[]=>true
 |q::r=>r.all (λp=> !(Nat.beq p.1 q.1))&&kY r
def xH(L:Option (List (Nat×CM)))(σ:St)(K:St→Option α):Option α:=
 match L with
 |none=>K σ
 |some L=>iS L σ ⟨λ_=> .any,λ_=>none⟩ K
def DN(L:Option (List (Nat×CM)))(step:St→(St→Option α)→Option α):Nat→St→Option α
 |0,_=>none
 |n+1,σ=>step σ fun σ'=>xH L σ' (DN L step n)
def c8:Code→Option Nat
 | .region id _ _=>some id
 | .seq a b=>match c8 a with
  |some i=>some i
  |none=>c8 b
 | .block _ c| .loop c| .scope c=>c8 c
 |_=>none
def J6(E:Env)(c:Operand)(σ:St)(A B:St→Option α):Option α:=
 match σ.ρ c with
 | .val .bool b=>match c with
  | .tmp t=>cond b (A (σ.put t (.val .bool true))) (B (σ.put t (.val .bool false)))
  |_=>cond b (A σ) (B σ)
 |_=>none
def Fv(E:Env)(c:Code):St→(St→Option α)→(Nat→St→Option α)→(St→Option α)→Option α:=
 Code.rec (motive:=λ_=>St→(St→Option α)→(Nat→St→Option α)→(St→Option α)→Option α)
  (fun σ k _ _=>k σ)
  (λ_ ops draw σ k _ _=>Fu E ops draw σ k)
  (λ_ b A B σ k kx kr=>A σ (fun σ'=>xH ((c8 b).bind E.zu) σ' fun σ''=>B σ'' k kx kr) kx kr)
  (λc _ _ A B σ k kx kr=>J6 E c σ (fun σ'=>A σ' k kx kr) (fun σ'=>B σ' k kx kr))
  (λid _ A σ k kx kr=>A σ k (λi σ'=>cond (Nat.beq i id) (k σ') (kx i σ')) kr)
  (λb A σ _ kx kr=>xH ((c8 b).bind E.xz) σ (DN ((c8 b).bind E.xz) (fun σ' kn=>A σ' kn kx kr) E.N))
  (λ_ _ _ _ _ _ _ _ _ _=>none)
  (λid σ _ kx _=>kx id σ)
  (λ_ A σ k kx kr=>A σ k kx kr)
  (λ_ σ k _ _=>k σ)
  (λ_ _ _ _ _=>none)
  (fun σ _ _ kr=>kr σ)
  (λ_ _ _ _ _=>none)
  c
def w3(E:Env):List Nat→Code→List (St→Option α)→St→(St→Option α)→(Nat→St→Option α)→(St→Option α)→Option α
 |[],c,_,σ,k,kx,kr=>Fv E c σ k kx kr
 |n::p,c,ks,σ,k,kx,kr=>match c with
  | .seq a b=>match n with
   |0=>w3 E p a ks σ (fun σ'=>xH ((c8 b).bind E.zu) σ' fun σ''=>Fv E b σ'' k kx kr) kx kr
   |_=>w3 E p b ks σ k kx kr
  | .cond _ a b=>match n with
   |0=>w3 E p a ks σ k kx kr
   |_=>w3 E p b ks σ k kx kr
  | .block id c=>w3 E p c ks σ k (λi σ'=>cond (Nat.beq i id) (k σ') (kx i σ')) kr
  | .loop b=>match ks with
   |κ::ks=>w3 E p b ks σ κ kx kr
   |[]=>none
  | .scope c=>w3 E p c ks σ k kx kr
  |_=>none
def Sh(m:AM)(x:m.den)(i:Nat)(σ:St):St:=
 match m,x with
 | .v τ,x=>σ.put i (.val τ x)
 | .own e,x=>(σ.put i (.ref (16*i+15))).ku (16*i+15) (some (.own e x))
 | .io τ,x=>(σ.put i (.jH (16*i+15) [])).ku (16*i+15) (some (.obj τ x))
 | .fn f τ,x=>σ.put i (.NZ f (q4 τ x))
 | .ptr _,_=>σ
 | .jH τ,x=>σ.put i (.su τ x)
 | .lo e,x=>(σ.put i (.ref (16*i+15))).ku (16*i+15) (some (.own e x))
 | .sp _ _ _,_=>σ
def entry:(ms:List AM)→HP ms→Nat→St→St
 |[],_,_,σ=>σ
 |[m],x,i,σ=>Sh m x i σ
 |m::n::ms,x,i,σ=>entry (n::ms) x.2 (i+1) (Sh m x.1 i σ)
def J7(E:Env)(m:AM)(r:ResultVar ⊕ Nat)(σ:St)(K:m.den→St→Option α):Option α:=
 match m,r,K with
 | .v τ,.inl (.tmp t),K=>m9 true (σ.T t) σ.H τ λx _ ups=>K x (σ.xy ups)
 | .v τ,.inl (.cell a t),K=>match E.ty t with
  |some τ'=>ju τ' τ (lZ (σ.T a) σ.H fun υ y _=>cP υ τ y λx=>K x σ)
  |none=>none
 | .own e,.inl (.tmp t),K=>match σ.T t with
  | .emp=>K [] σ
  | .ref id=>match σ.H id with
   |some (.own e' l)=>cP (.slice e') (.slice e) l λx=>K x (σ.ku id (some .gone))
   |_=>none
  |_=>none
 | .io τ,.inr i,K=>match σ.T i with
  | .jH id []=>match σ.H id with
   |some (.obj υ x)=>cP υ τ x λy=>K y (σ.ku id (some .gone))
   |_=>none
  |_=>none
 | .lo e,.inr i,K=>match σ.T i with
  | .ref id=>match σ.H id with
   |some (.own e' l)=>cP (.slice e') (.slice e) l λx=>K x (σ.ku id (some .gone))
   |_=>none
  |_=>none
 | .ptr τ,.inl (.tmp t),K=>match σ.T t with
  | .jH id []=>match σ.H id with
   |some (.obj υ x)=>cP υ τ x λy=>K y (σ.ku id (some .gone))
   |_=>none
  |_=>none
 | .sp τ n e,.inl (.cell a t),K=>match E.ty t,σ.T a with
  |some τ',.jH id []=>ju τ' τ (match σ.H id with
   |some (.gn υ x q j)=>cond (Nl q [.iK n]) (cP υ τ x λx=>match σ.H j with
    |some (.own e' l)=>cP (.slice e') (.slice e) l λl=>fV τ x n (fun υ' _ k'=>cP (.slice e) υ' l k') λz=>K z (σ.ku j (some .gone))
    |_=>none) none
   |_=>none)
  |_,_=>none
 |_,_,_=>none
def Lx(E:Env):(ms:List AM)→List (ResultVar ⊕ Nat)→St→(HP ms→Option α)→Option α
 |[],[],_,K=>K ()
 |[m],[r],σ,K=>J7 E m r σ λx _=>K x
 |m::n::ms,r::rs,σ,K=>J7 E m r σ λx σ'=>Lx E (n::ms) rs σ' λxs=>K (x,xs)
 |_,_,_,_=>none
def zw:List AM→Nat→List (ResultVar ⊕ Nat)
 |[],_=>[]
 | .io _::ms,i=> .inr i::zw ms (i+1)
 | .lo _::ms,i=> .inr i::zw ms (i+1)
 |_::ms,i=>zw ms (i+1)
def No(E:Env)(fn:Func)(args res:List AM)(x:HP args):Option (HP res):=
 match fn.body with
 |none=>none
 |some c=>
  let kr:St→Option (HP res):=fun σ=>Lx E res (fn.results.toList.map .inl++zw args 0) σ some
  Fv E c (entry args x 0 ⟨λ_=> .any,λ_=>none⟩) kr (λ_ _=>none) kr
end
end VM
end
section
namespace VM
open Go
def uX(N:Nat)(x y c:Int):Option (Int×Int):=if 0≤x∧0≤y∧0≤c∧c≤1 then some ((x+y+c)%18446744073709551616,(x+y+c)/18446744073709551616)else none
def tM(N:Nat)(x y c:Int):Option (Int×Int):=if 0≤x∧x<18446744073709551616∧0≤y∧y<18446744073709551616∧0≤c∧c≤1 then some ((x+18446744073709551616-y-c)%18446744073709551616,if x<y+c then 1 else 0)else none
def rl{α:Type}(N:Nat)(l:List α)(i:Int)(v:List α):Option (List α):=if 0≤i∧i≤l.length∧v.length=1∧l.length+1<Bd then some (l.take i.toNat++(v++l.drop i.toNat))else none
def aca{α:Type}(N:Nat)(l:List α)(n:Int):Option (List α):=match l with
 |[x]=>if 0<n∧n<1048576 then some (List.replicate n.toNat x)else none
 |_=>none
def uX.S(N:Nat):nc:={args:=[.v (.int .u64),.v (.int .u64),.v (.int .u64)],res:=[.v (.int .u64),.v (.int .u64)],quiet:=true,run:=λx=>uX N x.1 x.2.1 x.2.2}
def tM.S(N:Nat):nc:={args:=[.v (.int .u64),.v (.int .u64),.v (.int .u64)],res:=[.v (.int .u64),.v (.int .u64)],quiet:=true,run:=λx=>tM N x.1 x.2.1 x.2.2}
def m2(e:Ty)(N:Nat):nc:={args:=[.own e,.v (.int .i64),.own e],res:=[.own e],quiet:=false,run:=λx=>rl N x.1 x.2.1 x.2.2}
def auG(e:Ty)(N:Nat):nc:={args:=[.v (.slice e),.v (.int .i64)],res:=[.own e],quiet:=false,run:=λx=>aca N x.1 x.2}
def jv{α:Type}(N:Nat)(l:List α):Option (List α):=if l.length<Bd then some l else none
def xI(e:Ty)(N:Nat):nc:={args:=[.v (.slice e)],res:=[.own e],quiet:=false,run:=λx=>jv N x}
end VM
namespace VM
abbrev c5:Int×Int×Unit:=((0:Int),((0:Int),()))
abbrev ch:List (Int×Int×Unit):=[]
abbrev bb:Int×Int×Int×Unit:=((0:Int),((0:Int),((0:Int),())))
abbrev bq:List (Int×Int×Int×Unit):=[]
abbrev ba:Int×Int×Int×Int×Unit:=((0:Int),((0:Int),((0:Int),((0:Int),()))))
abbrev cT:List (Int×Int×Int×Int×Unit):=[]
abbrev gq:Int×Int×Int×Int×Int×Unit:=((0:Int),((0:Int),((0:Int),((0:Int),((0:Int),())))))
abbrev DO:List (Int×Int×Int×Int×Int×Unit):=[]
abbrev dS:Int×Int×Int×Int×Int×Int×Unit:=((0:Int),((0:Int),((0:Int),((0:Int),((0:Int),((0:Int),()))))))
abbrev du:List (Int×Int×Int×Int×Int×Int×Unit):=[]
abbrev Np:Int×Int×Int×Int×Int×Int×Int×Unit:=((0:Int),((0:Int),((0:Int),((0:Int),((0:Int),((0:Int),((0:Int),())))))))
abbrev ee7:List (Int×Int×Int×Int×Int×Int×Int×Unit):=[]
abbrev zz8:Int×Int×Int×Int×Int×Int×Int×Int×Unit:=((0:Int),((0:Int),((0:Int),((0:Int),((0:Int),((0:Int),((0:Int),((0:Int),()))))))))
abbrev ee8:List (Int×Int×Int×Int×Int×Int×Int×Int×Unit):=[]
abbrev dg:List Int:=[]
abbrev o6:List Int×Unit:=(dg,())
end VM
end
section
namespace VM
open Go
def At(w:World)(b off:Nat)(cs:List Value):Prop:= ∀j v,cs[j]? =some v→w.cell? ⟨b,off+j,none⟩=some v
def Rd(w:World)(M:Nat→Prop):(τ:Ty)→List Value→τ.den→Prop
 | .int k,cs,x=>cs=[.int k x]
 | .bool,cs,x=>cs=[.bool x]
 | .str,cs,x=>cs=[.string x]
 | .slice e,cs,x=> ∃a cap,cs=[.slice a (ℓ x) cap]∧ℓ x≤cap∧
  ∀i (h:i<ℓ x),∃b off,a=some ⟨b,off,none⟩∧b<w.heap.size∧ ¬M b∧ ∃cs',At w b (off+i*e.size) cs'∧Rd w M e cs' (List.get x ⟨i,h⟩)
 | .unit,cs,_=>cs=[]
 | .pair a b,cs,x=> ∃c1 c2,cs=c1++c2∧Rd w M a c1 x.1∧Rd w M b c2 x.2
 | .arr n e,cs,x=>ℓ x=n∧ ∃Vu:List (List Value),Vu.length=n∧cs=Vu.flatten∧
  ∀i (h:i<ℓ x) (h':i<Vu.length),Rd w M e Vu[i] (List.get x ⟨i,h⟩)
theorem qa{α:Type}(n:Nat): ∀(l:List (List α)),(∀i (h:i<l.length),l[i].length=n)→l.flatten.length=l.length*n
 |[],_=>by simp
 |a::l,h=>by
  have h0:=h 0 (by simp)
  have ih:=qa n l (λi hi=>h (i+1) (by simp;omega))
  simp only[Ga]at h0
  simp only[AX,aS,aT,ih,h0,eD]
  omega
theorem Rd.length{w:World}{M:Nat→Prop}: ∀{τ:Ty} {cs:List Value} {x:τ.den},Rd w M τ cs x→cs.length=τ.size
 | .int _,_,_,h=>by simp only[Rd]at h;subst h;rfl
 | .bool,_,_,h=>by simp only[Rd]at h;subst h;rfl
 | .str,_,_,h=>by simp only[Rd]at h;subst h;rfl
 | .slice _,_,_,h=>by simp only[Rd]at h;obtain⟨a,cap,rfl,_⟩:=h;rfl
 | .unit,_,_,h=>by simp only[Rd]at h;subst h;rfl
 | .pair a b,_,_,h=>by
  simp only[Rd]at h
  obtain⟨c1,c2,rfl,h1,h2⟩:=h
  rw[aS,h1.length,h2.length];rfl
 | .arr n e,_,x,h=>by
  simp only[Rd]at h
  obtain⟨hn,Vu,hc,rfl,hr⟩:=h
  rw[qa e.size Vu (λi hi=>(hr i ω hi).length),hc];rfl
structure fK(w:World)(M:Nat→Prop)(w':World)(M':Nat→Prop):Prop where
 size:w.heap.size≤w'.heap.size
 block: ∀b,b<w.heap.size→ ¬M b→w'.heap[b]? =w.heap[b]?
 less: ∀b,b<w.heap.size→M' b→M b
theorem akd{w:World}{b o:Nat}{v:Value}(h:w.cell? ⟨b,o,none⟩=some v):b<w.heap.size:=by
 simp only[World.cell?]at h
 rcases oc b w.heap.size with hb|hb
 ·exact hb
 ·simp[NP hb]at h
theorem At.cg{w w':World}{b off:Nat}{cs:List Value}(h:At w b off cs)(hb:w'.heap[b]? =w.heap[b]?):At w' b off cs:=by
 intro j v hj
 have:=h j v hj
 rw[World.cell?_of_block (w:=w) hb]
 exact this
theorem At.append{w:World}{b off:Nat}{c1 c2:List Value}:At w b off (c1++c2)↔At w b off c1∧At w b (off+c1.length) c2:=by
 constructor
 ·intro h
  refine⟨λj v hj=>h j v (by rw[tJ];exact hj;exact(vA.1 hj).1),λj v hj=> ?_⟩
  have:=h (c1.length+j) v (by rw[pI ω];simpa using hj)
  rw[p6];exact this
 ·rintro⟨h1,h2⟩ j v hj
  by_cases eV:j<c1.length
  ·rw[tJ eV]at hj;exact h1 j v hj
  ·rw[pI ω]at hj
   have:=h2 (j-c1.length) v hj
   rwa [show off+c1.length+(j-c1.length)=off+j from by omega]at this
theorem Rd.cg{w w':World}{M M':Nat→Prop}(k:fK w M w' M'): ∀{τ:Ty} {cs:List Value} {x:τ.den},Rd w M τ cs x→Rd w' M' τ cs x
 | .int _,_,_,h=>h
 | .bool,_,_,h=>h
 | .str,_,_,h=>h
 | .slice e,_,x,h=>by
  simp only[Rd]at h ⊢
  obtain⟨a,cap,rfl,hc,hr⟩:=h
  refine⟨a,cap,rfl,hc,λi hi=> ?_⟩
  obtain⟨b,off,ha,hb,hm,cs',pN,kE⟩:=hr i hi
  exact⟨b,off,ha,nX hb k.size,λh'=>hm (k.less b hb h'),_,pN.cg (k.block b hb hm),kE.cg k⟩
 | .unit,_,_,h=>h
 | .pair a b,_,_,h=>by
  simp only[Rd]at h ⊢
  obtain⟨c1,c2,rfl,h1,h2⟩:=h
  exact⟨c1,c2,rfl,h1.cg k,h2.cg k⟩
 | .arr n e,_,x,h=>by
  simp only[Rd]at h ⊢
  obtain⟨hn,Vu,hc,rfl,hr⟩:=h
  exact⟨hn,Vu,hc,rfl,λi hi oe=>(hr i hi oe).cg k⟩
theorem fK.refl(w:World)(M:Nat→Prop):fK w M w M:=⟨aH _,λ_ _ _=>rfl,λ_ _ h=>h⟩
theorem fK.trans{w w' w'':World}{M M' Nq:Nat→Prop}(h:fK w M w' M')(k:fK w' M' w'' Nq):fK w M w'' Nq:=
 ⟨cA h.size k.size,λb hb hm=>(k.block b (nX hb h.size) (λh'=>hm (h.less b hb h'))).trans (h.block b hb hm),
  λb hb hm=>h.less b hb (k.less b (nX hb h.size) hm)⟩
def V(w:World)(M:Nat→Prop)(τ:Ty)(v:Value)(x:τ.den):Prop:=
 if τ.isAgg then ∃cs,v= .agg cs∧Rd w M τ cs.toList x else Rd w M τ [v] x
theorem V.cg{w w':World}{M M':Nat→Prop}(k:fK w M w' M'){τ:Ty}{v:Value}{x:τ.den}(h:V w M τ v x):V w' M' τ v x:=by
 unfold V at*
 split
 ·rename_i ha;rw[ak ha]at h;obtain⟨cs,rfl,h⟩:=h;exact⟨cs,rfl,h.cg k⟩
 ·rename_i ha;rw[ah ha]at h;exact h.cg k
theorem Rd.scalar{w:World}{M:Nat→Prop}{τ:Ty}{cs:List Value}{x:τ.den}(ha:τ.isAgg=false)(h:Rd w M τ cs x): ∃v,cs=[v]∧v.cells= #[v]:=by
 cases τ<;>simp only[Ty.isAgg,Bool.true_eq_false]at ha<;>simp only[Rd]at h
 ·exact⟨_,h,rfl⟩
 ·exact⟨_,h,rfl⟩
 ·exact⟨_,h,rfl⟩
 ·obtain⟨a,cap,rfl,_⟩:=h;exact⟨_,rfl,rfl⟩
theorem V.cells{w:World}{M:Nat→Prop}{τ:Ty}{v:Value}{x:τ.den}(h:V w M τ v x):Rd w M τ v.cells.toList x:=by
 unfold V at h
 by_cases ha:τ.isAgg=true
 ·rw[ak ha]at h;obtain⟨cs,rfl,h⟩:=h;exact h
 ·rw[ah ha]at h
  obtain⟨v',hv,hc⟩:=h.scalar (by simpa using ha)
  simp only[fT,fD]at hv
  subst hv
  rw[hc];exact h
def ck(τ:Ty)(cs:List Value):Value:=if τ.isAgg then .agg cs.toArray else cs.headD (.tuple #[])
theorem V.ck{w:World}{M:Nat→Prop}{τ:Ty}{cs:List Value}{x:τ.den}(h:Rd w M τ cs x):V w M τ (ck τ cs) x:=by
 unfold V VM.ck
 by_cases ha:τ.isAgg=true
 ·rw[ak ha,ak ha];exact⟨_,rfl,by simpa using h⟩
 ·rw[ah ha,ah ha]
  obtain⟨v',rfl,_⟩:=h.scalar (by simpa using ha)
  exact h
theorem Jq{w:World}{M:Nat→Prop}{τ:Ty}{cs:List Value}{x:τ.den}(h:Rd w M τ cs x):(ck τ cs).cells.toList=cs:=by
 unfold VM.ck
 by_cases ha:τ.isAgg=true
 ·rw[ak ha];simp[Value.cells]
 ·rw[ah ha]
  obtain⟨v',rfl,hc⟩:=h.scalar (by simpa using ha)
  simp[hc]
theorem Rd.lM{w:World}{M:Nat→Prop}: ∀{τ:Ty} {cs:List Value} {x:τ.den},Rd w M τ cs x→ ∀v∈cs,v.oneCell'=true
 | .int _,_,_,h=>by simp only[Rd]at h;subst h;simp[Value.oneCell']
 | .bool,_,_,h=>by simp only[Rd]at h;subst h;simp[Value.oneCell']
 | .str,_,_,h=>by simp only[Rd]at h;subst h;simp[Value.oneCell']
 | .slice _,_,_,h=>by simp only[Rd]at h;obtain⟨a,cap,rfl,_⟩:=h;simp[Value.oneCell']
 | .unit,_,_,h=>by simp only[Rd]at h;subst h;simp
 | .pair a b,_,_,h=>by
  simp only[Rd]at h
  obtain⟨c1,c2,rfl,h1,h2⟩:=h
  intro v hv
  rcases bn.1 hv with hv|hv
  ·exact h1.lM v hv
  ·exact h2.lM v hv
 | .arr n e,_,x,h=>by
  simp only[Rd]at h
  obtain⟨hn,Vu,hc,rfl,hr⟩:=h
  intro v hv
  obtain⟨l,hl,hvl⟩:=List.mem_flatten.1 hv
  obtain⟨i,hi,rfl⟩:=rZ.1 hl
  exact(hr i ω hi).lM v hvl
def Ty.cI:Ty→List Value
 | .int k=>[.int k 0]
 | .bool=>[.bool false]
 | .str=>[.string ByteArray.empty]
 | .slice _=>[.slice none 0 0]
 | .unit=>[]
 | .pair a b=>a.cI++b.cI
 | .arr n e=>(List.replicate n e.cI).flatten
theorem Rd.zero(w:World)(M:Nat→Prop): ∀(τ:Ty),Rd w M τ τ.cI τ.zero
 | .int _| .bool| .str| .unit=>by simp[Rd,Ty.cI,Ty.zero]
 | .slice _=>by
  simp only[Rd,Ty.cI,Ty.zero]
  exact⟨none,0,rfl,aH _,λi h=>absurd h (by simp)⟩
 | .pair a b=>by
  simp only[Rd,Ty.cI,Ty.zero]
  exact⟨_,_,rfl,Rd.zero w M a,Rd.zero w M b⟩
 | .arr n e=>by
  simp only[Rd,Ty.cI,Ty.zero]
  refine⟨by simp,_,by simp,rfl,λi h h'=> ?_⟩
  simp only[NQ,Ge]
  exact Rd.zero w M e
end VM
end
