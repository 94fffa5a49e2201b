/- A part of the proof of WindBears of layer 21: a machine that reads a function of the program as an equation between values. -/
import Derived.KernelRfl
import GoSem.Claims
import Derived.WalkKit
import Derived.ArgAppend
import Derived.Laws.CopyRow
import Derived.Laws.MakeOwn
import Derived.Laws.OwnMore
import Derived.Orders
import Derived.LoopN
set_option linter.all false
theorem ω{p:Prop}(h:p:=by omega):p:=h
theorem δ{p:Prop}(h:p:=by decide):p:=h
theorem κ{p:Prop}(h:p:=by kernel_rfl):p:=h
noncomputable section
abbrev ar:=@Option.bind_some
abbrev aI:=@List.length_singleton
abbrev aq:=@cond_true
abbrev aU:=@List.getD_eq_getElem?_getD
abbrev aJ:=@Int.toNat_natCast
abbrev av:=@cond_false
abbrev aS:=@List.length_append
abbrev aj:=@if_pos
abbrev bl:=@List.getElem?_eq_getElem
abbrev ah:=@if_neg
abbrev aY:=@List.mem_cons_of_mem
abbrev aR:=@List.length_cons
abbrev aG:=@Nat.le_refl
abbrev bg:=@List.mem_cons_self
abbrev ba:=@List.mem_append
abbrev bu:=@List.append_assoc
abbrev bI:=@Array.length_toList
abbrev bz:=@of_decide_eq_true
abbrev aX:=@List.mem_cons
abbrev bV:=@List.mem_singleton
abbrev bs:=@decide_eq_true
abbrev bQ:=@Bool.and_eq_true
abbrev bt:=@Bool.not_true
abbrev cU:=@List.length_replicate
abbrev cK:=@Bool.and_eq_true_iff
abbrev bO:=@List.length_set
abbrev bT:=@List.length_nil
abbrev cf:=@List.length_take
abbrev cW:=@List.mem_append_left
abbrev bp:=@Nat.zero_le
abbrev ck:=@List.append_nil
abbrev cm:=@decide_eq_false
abbrev cy:=@List.length_map
abbrev dz:=@List.mem_append_right
abbrev bW:=@List.map_cons
abbrev cL:=@List.nil_append
abbrev cz:=@List.sum_cons
abbrev cZ:=@List.map_append
abbrev cq:=@Nat.le_trans
abbrev c0:=@List.drop_zero
abbrev c3:=@Bool.not_false
abbrev dZ:=@List.pairwise_cons
abbrev cD:=@List.mem_map
abbrev dA:=@List.getElem_mem
abbrev dS:=@List.length_drop
abbrev eS:=@List.mem_map_of_mem
abbrev fW:=@Nat.eq_of_beq_eq_true
abbrev dr:=@Int.toNat_zero
abbrev gl:=@List.take_append_drop
abbrev fg:=@decide_eq_true_iff
abbrev gI:=@List.getElem?_eq_none
abbrev fh:=@Option.mem_toList
abbrev gV:=@Array.getElem?_toList
abbrev gm:=@List.getElem_of_mem
abbrev kH:=@Array.getElem?_eq_some_iff
abbrev fi:=@List.cons.injEq
abbrev jH:=@List.take_of_length_le
abbrev kI:=@List.drop_of_length_le
abbrev oI:=@List.getElem?_append_right
abbrev iC:=@Option.some.injEq
abbrev jc:=@Bool.false_eq_true
abbrev eu:=@Nat.add_mul
abbrev jd:=@List.size_toArray
abbrev iD:=@List.take_length
abbrev fX:=@Bool.and_true
abbrev lO:=@Nat.mul_le_mul_right
abbrev lP:=@List.mem_of_mem_take
abbrev fI:=@Int.le_trans
abbrev iE:=@Nat.min_eq_left
abbrev pW:=@List.drop_eq_getElem_cons
abbrev lQ:=@Nat.mul_le_mul_left
abbrev sq:=@Array.getD_eq_getD_getElem?
abbrev fY:=@Int.add_zero
abbrev mX:=@List.mem_of_mem_drop
abbrev pX:=@List.take_append_getElem
abbrev lR:=@List.getElem?_take
abbrev lS:=@List.getElem?_drop
abbrev gq:=@Nat.zero_add
abbrev uk:=@List.eq_nil_of_length_eq_zero
abbrev fJ:=@Int.le_refl
abbrev ss:=@List.getElem?_append_left
abbrev kJ:=@List.cons_append
abbrev mY:=@Nat.lt_of_lt_of_le
abbrev jI:=@List.drop_drop
abbrev xx:=@Int.mul_le_mul_of_nonneg_left
abbrev um:=@List.getElem?_eq_some_iff
abbrev uq:=@List.pairwise_iff_getElem
abbrev lT:=@List.sum_append
abbrev mZ:=@List.drop_length
abbrev je:=@List.map_nil
abbrev ur:=@Int.eq_ofNat_of_zero_le
abbrev kK:=@Int.mul_assoc
abbrev eT:=@and_true
abbrev xy:=@List.mem_or_eq_of_mem_set
abbrev su:=@List.length_pos_iff
abbrev pY:=@List.nodup_append
abbrev pZ:=@List.getElem?_map
abbrev fj:=@congrArg
abbrev oJ:=@Option.some.inj
abbrev iI:=@List.sum_nil
abbrev qF:=@List.mem_iff_getElem
abbrev m0:=@Bool.not_eq_true
abbrev th:=@Option.bind_eq_some_iff
abbrev m1:=@Option.getD_some
abbrev qG:=@List.map_congr_left
abbrev m2:=@List.drop_left'
abbrev m3:=@Bool.or_eq_true
abbrev eU:=@if_false
abbrev zs:=@Int.mul_le_mul_of_nonneg_right
abbrev qH:=@Bool.false_ne_true
abbrev oU:=@decide_eq_decide
abbrev qI:=@Int.lt_of_le_of_lt
abbrev jW:=@Int.mul_comm
abbrev zt:=@List.take_append_of_le_length
abbrev zu:=@List.drop_append_of_le_length
abbrev qJ:=@Bool.not_eq_true'
abbrev oV:=@Bool.eq_iff_iff
abbrev ti:=@Int.toNat_of_nonneg
abbrev eJ:=@Ne.symm
abbrev vR:=@List.drop_eq_nil_of_le
abbrev jX:=@Nat.one_mul
abbrev jY:=@Int.mul_add
abbrev m4:=@Bool.true_and
abbrev qK:=@List.all_eq_true
abbrev js:=@Array.ext'
abbrev oW:=@List.take_zero
abbrev vS:=@List.Pairwise.sublist
abbrev m5:=@Nat.add_zero
abbrev tj:=@List.pairwise_map
abbrev vT:=@List.pairwise_append
abbrev m6:=@Int.zero_add
abbrev oX:=@Nat.add_assoc
abbrev zv:=@List.eq_of_mem_replicate
abbrev qL:=@List.drop_take
abbrev qM:=@List.take_take
abbrev zw:=@Nat.add_sub_cancel_left
abbrev qN:=@List.mem_range
abbrev tk:=@beq_self_eq_true
abbrev oY:=@Nat.lt_or_ge
abbrev zx:=@Option.map_eq_some_iff
abbrev zy:=@Int.ediv_lt_iff_lt_mul
abbrev tp:=@List.headD_cons
abbrev tq:=@Int.ediv_nonneg
abbrev iJ:=@Prod.ext
abbrev gD:=@if_true
abbrev vU:=@List.length_range
abbrev vV:=@decide_eq_true_eq
abbrev vW:=@Bool.eq_false_iff
abbrev Ej:=@Option.ne_none_iff_exists'
abbrev zz:=@Array.getElem_toList
abbrev tt:=@List.tail_cons
abbrev tu:=@Int.mul_nonneg
abbrev qO:=@Nat.mul_succ
abbrev vX:=@List.filter_cons
abbrev zA:=@List.replicate_succ
abbrev Ek:=@List.getElem_append_left
abbrev tv:=@Bool.false_or
abbrev tx:=@Bool.or_false
abbrev vY:=@List.take_left'
abbrev vZ:=@List.mem_filter
abbrev wa:=@List.length_zip
abbrev zB:=@Int.emod_lt_of_pos
abbrev qP:=@Nat.le_succ
abbrev qQ:=@Nat.sub_mul
abbrev qR:=@Int.add_mul
abbrev El:=@List.getElem?_replicate
abbrev Em:=@decide_eq_false_iff_not
abbrev En:=@List.pairwise_singleton
abbrev Eo:=@List.getElem_cons_zero
abbrev zC:=@List.flatten_cons
abbrev zD:=@List.ext_getElem?
abbrev tz:=@Nat.beq_refl
abbrev tA:=@Nat.sub_self
abbrev wb:=@Nat.mul_le_mul
abbrev wc:=@Bool.false_and
abbrev LK:=@Array.getElem?_setIfInBounds_ne
abbrev Ep:=@Nat.le_of_ble_eq_true
abbrev Er:=@List.singleton_append
abbrev zE:=@List.any_eq_true
abbrev LM:=@Nat.and_two_pow_sub_one_eq_mod
abbrev zF:=@List.nodup_cons
abbrev Es:=@List.get_eq_getElem
abbrev LN:=@Nat.two_pow_add_eq_or_of_lt
abbrev LO:=@iff_iff_implies_and_implies
abbrev Et:=@List.getElem_range
abbrev zG:=@List.mapM_cons
abbrev LP:=@Int.fdiv_eq_ediv_of_nonneg
abbrev Eu:=@Int.sub_eq_add_neg
abbrev LR:=@Int.add_mul_emod_self_left
abbrev Ev:=@Int.tmod_lt_of_pos
abbrev LS:=@List.getElem_append_right
abbrev LV:=@Array.getElem?_eq_getElem
abbrev LW:=@Classical.byContradiction
abbrev LX:=@Int.le_of_mul_le_mul_left
abbrev LY:=@Decidable.byContradiction
abbrev Ew:=@List.getElem_drop
abbrev Ex:=@List.getElem_take
abbrev Ey:=@Decidable.not_not
abbrev Ez:=@Bool.not_eq_false
abbrev zH:=@Int.add_assoc
abbrev LZ:=@List.length_eq_zero_iff
abbrev L0:=@List.getElem?_cons_zero
abbrev EA:=@List.nil_sublist
abbrev L1:=@Array.getElem?_eq_none
abbrev L4:=@List.getElem_replicate
abbrev we:=@Nat.beq_eq
abbrev L7:=@List.append_eq_nil_iff
abbrev zI:=@Nat.pow_succ
abbrev zJ:=@Int.pow_succ
abbrev zK:=@Int.mul_zero
abbrev L8:=@Int.ediv_eq_zero_of_lt
abbrev EB:=@List.range_succ
abbrev EC:=@Int.emod_nonneg
abbrev ED:=@Int.natCast_add
abbrev L9:=@List.getElem?_toArray
abbrev Ma:=@Int.mul_ediv_add_emod
abbrev Mb:=@Nat.div_lt_iff_lt_mul
abbrev Mc:=@Int.add_mul_ediv_left
abbrev Md:=@List.set_append_right
abbrev zL:=@Int.one_mul
abbrev zM:=@Int.mul_neg
abbrev zN:=@Int.neg_neg
abbrev EE:=@Bool.and_false
abbrev EF:=@List.all_cons
abbrev EG:=@Nat.lt_irrefl
abbrev zO:=@Nat.blt_eq
abbrev zP:=@Nat.ble_eq
abbrev EH:=@Nat.mul_comm
abbrev EI:=@Int.sub_zero
abbrev EJ:=@Int.add_comm
abbrev EK:=@Int.zero_mul
section
namespace VM
open Go
theorem alo{α:Type}(a:α): ∃b:α,b=a:=⟨a,rfl⟩
def bf{α:Type}(a:α):α:=Classical.choose (alo a)
theorem iK{α:Type}(a:α):bf a=a:=Classical.choose_spec (alo a)
def zQ:Nat:=68719476736
def W:IntKind→Int→Int:=bf λk x=>k.wrap x
def aZ:Int→Int→Bool:=bf λx y=>decide (x<y)
def dk:Int→Int→Bool:=bf λx y=>decide (x≤y)
def aO:Int→Int→Bool:=bf λx y=>decide (x=y)
def bb:Int→Nat→Bool:=bf λi n=>decide (0≤i∧i<(n:Int))
def small:Nat→Bool:=bf λn=>decide (n<zQ)
def jZ:Int→Int→Bool:=bf λl c=>decide (0≤l∧l≤c∧c<(zQ:Int))
def ka:Int→Int→Int→Int→Bool:=bf λl h m n=>decide (0≤l∧l≤h∧h≤m∧m≤n)
def quo:Int→Int→Int:=bf λx y=>x.tdiv y
def rem:Int→Int→Int:=bf λx y=>x.tmod y
def shl:IntKind→Int→Int→Int:=bf λk x y=>x*2^(min y.toNat k.bits)
def shr:IntKind→Int→Int→Int:=bf λk x y=>x.fdiv (2^(min y.toNat k.bits))
def mx:Int→Int→Int:=bf λx y=>if y>x then y else x
def mn:Int→Int→Int:=bf λx y=>if y<x then y else x
def Vq:ByteArray→ByteArray→Bool:=bf λx y=>decide (x.toList=y.toList)
theorem EL(k:IntKind)(x:Int):W k x=k.wrap x:=by unfold W;rw[iK]
theorem uu(x y:Int):aZ x y=decide (x<y):=by unfold aZ;rw[iK]
theorem oa(x y:Int):dk x y=decide (x≤y):=by unfold dk;rw[iK]
theorem jA(x y:Int):aO x y=decide (x=y):=by unfold aO;rw[iK]
theorem Vr(i:Int)(n:Nat):bb i n=decide (0≤i∧i<(n:Int)):=by unfold bb;rw[iK]
theorem EM(n:Nat):small n=decide (n<zQ):=by unfold small;rw[iK]
theorem H9(l c:Int):jZ l c=decide (0≤l∧l≤c∧c<(zQ:Int)):=by unfold jZ;rw[iK]
theorem zS(l h m n:Int):ka l h m n=decide (0≤l∧l≤h∧h≤m∧m≤n):=by unfold ka;rw[iK]
theorem agN(x y:Int):quo x y=x.tdiv y:=by unfold quo;rw[iK]
theorem agO(x y:Int):rem x y=x.tmod y:=by unfold rem;rw[iK]
theorem Vs(k:IntKind)(x y:Int):shl k x y=x*2^(min y.toNat k.bits):=by unfold shl;rw[iK]
theorem P2(k:IntKind)(x y:Int):shr k x y=x.fdiv (2^(min y.toNat k.bits)):=by unfold shr;rw[iK]
theorem Rx(x y:Int):mx x y=if y>x then y else x:=by unfold mx;rw[iK]
theorem Ry(x y:Int):mn x y=if y<x then y else x:=by unfold mn;rw[iK]
theorem EN(x y:ByteArray):Vq x y=decide (x.toList=y.toList):=by unfold Vq;rw[iK]
inductive Bw where|and|or|xor|andNot
def qS:Bw→IntKind→Int→Int→Int:=bf λo k x y=>
 let a:=BitVec.ofInt k.bits x
 let b:=BitVec.ofInt k.bits y
 k.wrap (match o with| .and=>a&&& b| .or=>a|||b| .xor=>a^^^b| .andNot=>a&&& ~~~b).toNat
theorem uv(o:Bw)(k:IntKind)(x y:Int):qS o k x y=
 let a:=BitVec.ofInt k.bits x
 let b:=BitVec.ofInt k.bits y
 k.wrap (match o with| .and=>a&&& b| .or=>a|||b| .xor=>a^^^b| .andNot=>a&&& ~~~b).toNat:=by unfold qS;rw[iK]
def strOf(l:List Nat):ByteArray:=⟨(l.map UInt8.ofNat).toArray⟩
inductive Ty where
 |int (k:IntKind)
 |bool
 |str
 |slice (e:Ty)
 |unit
 |pair (a b:Ty)
 |arr (n:Nat) (e:Ty)
 deriving DecidableEq
@[reducible] def Ty.den:Ty→Type
 | .int _=>Int
 | .bool=>Bool
 | .str=>ByteArray
 | .slice e=>List e.den
 | .unit=>Unit
 | .pair a b=>a.den×b.den
 | .arr _ e=>List e.den
def Ty.size:Ty→Nat
 | .int _| .bool| .str| .slice _=>1
 | .unit=>0
 | .pair a b=>a.size+b.size
 | .arr n e=>n*e.size
def Ty.isAgg:Ty→Bool
 | .unit| .pair _ _| .arr _ _=>true
 |_=>false
def Ty.zero:(τ:Ty)→τ.den
 | .int _=>(0:Int)
 | .bool=>false
 | .str=>ByteArray.empty
 | .slice _=>[]
 | .unit=>()
 | .pair a b=>(a.zero,b.zero)
 | .arr n e=>List.replicate n e.zero
def Ty.comparable:Ty→Bool
 | .slice _=>false
 | .pair a b=>a.comparable&&b.comparable
 | .arr _ _=>false
 |_=>true
def alp{α:Type}(f:α→α→Bool):List α→List α→Bool
 |[],[]=>true
 |x::xs,y::ys=>f x y&&alp f xs ys
 |_,_=>false
def uw:(τ:Ty)→τ.den→τ.den→Bool
 | .int _,x,y=>aO x y
 | .bool,x,y=>x==y
 | .str,x,y=>Vq x y
 | .slice _,_,_=>false
 | .unit,_,_=>true
 | .pair a b,x,y=>uw a x.1 y.1&&uw b x.2 y.2
 | .arr _ e,x,y=>alp (uw e) x y
inductive Step where
 |kG (n:Nat)
 |idx (i:Nat)
def Me:List Step→List Step→Bool
 |[],[]=>true
 | .kG a::p,.kG b::q=>Nat.beq a b&&Me p q
 |_,_=>false
def yb:List Step→List Step→Bool
 |[],_=>true
 | .kG a::p,.kG b::q=>Nat.beq a b&&yb p q
 |_,_=>false
def JN:Ty→Nat→Option Ty
 | .pair a b,n=>match n with
  |0=>some a
  |n+1=>JN b n
 |_,_=>none
def gO:List Step→Ty→Ty→Bool
 |[],τ,υ=>decide (τ=υ)
 | .kG n::p,τ,υ=>match JN τ n with
  |some a=>gO p a υ
  |none=>false
 |_,_,_=>false
inductive bD where
 |any
 |Vt
 |val (τ:Ty) (x:τ.den)
 |JO (τ:Ty) (x:τ.den) (n:Nat)
 |emp
 |ref (id:Nat)
 |jr (id:Nat) (p:List Step)
 |qT (τ:Ty) (x:τ.den)
 |tup (vs:List bD)
 |Mf (f:Nat) (caps:List bD)
inductive bh where
 |obj (τ:Ty) (x:τ.den)
 |gk (τ:Ty) (x:τ.den) (p:List Step) (j:Nat)
 |own (e:Ty) (l:List e.den)
 |oK (e:Ty) (l:List e.den)
 |gone
structure St where
 T:Nat→bD
 H:Nat→Option bh
def St.put(σ:St)(d:Nat)(v:bD):St:=⟨λi=>cond (Nat.beq i d) v (σ.T i),σ.H⟩
def St.jR(σ:St)(d:Nat)(v:Option bh):St:=⟨σ.T,λi=>cond (Nat.beq i d) v (σ.H i)⟩
def St.vB(σ:St)(d:Option Nat)(v:bD):St:=match d with|some d=>σ.put d v|none=>σ
def Mg(n:Nat)(io:List Nat):Option Nat→Bool|some d=>Nat.blt d n&&io.all (λi=> !(Nat.beq i d))|none=>true
def St.wg(σ:St):List (Nat×Option bh)→St
 |[]=>σ
 |u::r=>(σ.jR u.1 u.2).wg r
abbrev S0:St:=⟨λ_=> .any,λ_=>none⟩
abbrev jb:=List (Nat×Option bh)
section K
variable{α:Type}
def yc:(τ:Ty)→τ.den→Nat→((υ:Ty)→υ.den→Option α)→Option α
 | .pair a b,x,n,k=>match n with
  |0=>k a x.1
  |n+1=>yc b x.2 n k
 |_,_,_,_=>none
def m7:(τ:Ty)→τ.den→Nat→((υ:Ty)→υ.den→(υ.den→Option α)→Option α)→(τ.den→Option α)→Option α
 | .pair a b,x,n,m,k=>match n with
  |0=>m a x.1 λz=>k (z,x.2)
  |n+1=>m7 b x.2 n m λz=>k (x.1,z)
 |_,_,_,_,_=>none
def m8(τ υ:Ty)(k:Option α):Option α:=if τ=υ then k else none
def c8(υ τ:Ty)(y:υ.den)(k:τ.den→Option α):Option α:=if h:υ=τ then k (h▸y)else none
def agP(τ:Ty)(x:τ.den)(i:Nat)(k:(υ:Ty)→υ.den→Option α):Option α:=
 match τ,x with
 | .arr _ e,x=>k e (List.getD x i e.zero)
 |_,_=>none
def DT(τ:Ty)(x:τ.den)(i:Nat)(m:(υ:Ty)→υ.den→(υ.den→Option α)→Option α)(k:τ.den→Option α):Option α:=
 match τ,x,k with
 | .arr _ e,x,k=>m e (List.getD x i e.zero) λz=>k (List.set x i z)
 |_,_,_=>none
def zT:List Step→(τ:Ty)→τ.den→((υ:Ty)→υ.den→Option α)→Option α
 |[],τ,x,k=>k τ x
 | .kG n::p,τ,x,k=>yc τ x n fun υ y=>zT p υ y k
 | .idx i::p,τ,x,k=>agP τ x i fun υ y=>zT p υ y k
def vC(υ:Ty)(y:υ.den):List Step→(τ:Ty)→τ.den→(τ.den→Option α)→Option α
 |[],τ,_,k=>c8 υ τ y k
 | .kG n::p,τ,x,k=>m7 τ x n (fun υ' y' k'=>vC υ y p υ' y' k') k
 | .idx i::p,τ,x,k=>DT τ x i (fun υ' y' k'=>vC υ y p υ' y' k') k
def mc(fz:Bool)(a:bD)(H:Nat→Option bh)(τ:Ty)(k:τ.den→List Nat→jb→Option α):Option α:=
 match a with
 | .val υ x=>c8 υ τ x λy=>k y [] []
 | .JO υ x _=>c8 υ τ x λy=>k y [] []
 | .emp=>match τ,k with
  | .slice _,k=>k [] [] []
  |_,_=>none
 | .ref id=>match H id with
  |some (.own e l)=>c8 (.slice e) τ l λy=>k y [id] (cond fz [(id,some (.oK e l))] [])
  |some (.oK e l)=>c8 (.slice e) τ l λy=>k y [id] []
  |_=>none
 |_=>none
def Mh(a:bD)(k:(τ:Ty)→τ.den→Option α):Option α:=
 match a with
 | .val υ x=>k υ x
 |_=>none
def m9(id:Nat)(p:List Step)(H:Nat→Option bh)(k:Ty→Option α):Option α:=
 match H id with
 |some (.obj τ x)=>zT p τ x fun υ _=>k υ
 |some (.gk τ x _ _)=>zT p τ x fun υ _=>k υ
 |some (.own e l)|some (.oK e l)=>match p with
  | .idx i::p=>zT p e (List.getD l i e.zero) fun υ _=>k υ
  |_=>none
 |_=>none
def avY(a:bD)(H:Nat→Option bh)(k:(τ:Ty)→τ.den→List Nat→Option α):Option α:=
 match a with
 | .val υ x=>k υ x []
 | .ref id=>match H id with
  |some (.own e l)|some (.oK e l)=>k (.slice e) l [id]
  |_=>none
 |_=>none
def wh(a:bD)(k:IntKind→Int→Option α):Option α:=
 match a with
 | .val (.int i) x=>k i x
 |_=>none
end K
inductive AM where
 |v (τ:Ty)
 |own (e:Ty)
 |io (τ:Ty)
 |fn (f:Nat) (τ:Ty)
 |ptr (τ:Ty)
 |jr (τ:Ty)
 |lo (e:Ty)
 deriving DecidableEq
@[reducible] def AM.den:AM→Type
 | .v τ=>τ.den
 | .own e=>List e.den
 | .io τ=>τ.den
 | .fn _ τ=>τ.den
 | .ptr τ=>τ.den
 | .jr τ=>τ.den
 | .lo e=>List e.den
@[reducible] def HP:List AM→Type
 |[]=>Unit
 |[m]=>m.den
 |m::n::ms=>m.den×HP (n::ms)
structure me where
 args:List AM
 res:List AM
 quiet:Bool
 run:HP args→Option (HP res)
inductive CM where
 |v (τ:Ty)
 |own (e:Ty)
 |obj (τ:Ty)
 |gk (τ:Ty) (q:List Step) (e:Ty)
 |same (s:Nat)
 |io (τ:Ty)
 |fn (f:Nat) (τ:Ty)
structure Env where
 nt:Nat
 ty:Nat→Option Ty
 Γ:Nat→List me
 N:Nat
 wi:Nat→Option (List (Nat×CM))
 yd:Nat→Option (List (Nat×CM))
 io:List Nat:=[]
 lk:Option (Ty×List Step×Ty×List Nat):=none
def lkT(E:Env)(τ:Ty):Option (List Step×Ty):=match E.lk with
 |some (υ,q,e,_)=>cond (decide (υ=τ)) (cond (gO q τ (.slice e)) (some (q,e)) none) none
 |none=>none
def JP(E:Env)(τ:Ty)(id:Nat):Option (List Step×Ty):=match E.lk with
 |some (_,_,_,ds)=>cond (ds.any λd=>Nat.beq (id/16) d) (lkT E τ) none
 |none=>none
def cvA:Value→bD
 | .int k n=> .val (.int k) n
 | .bool b=> .val .bool b
 | .string s=> .val .str s
 | .slice none 0 0=> .emp
 |_=> .any
def St.ρ (σ:St):Operand→bD
 | .tmp t=>σ.T t
 | .const v=>cvA v
 | .global _=> .any
 | .func f=> .Mf f []
section
variable{α:Type}
def ux(op:BinOp)(k:IntKind)(x y:Int)(K:bD→Option α):Option α:=
 match op with
 | .add=>K (.val (.int k) (W k (x+y)))
 | .sub=>K (.val (.int k) (W k (x-y)))
 | .mul=>K (.val (.int k) (W k (x*y)))
 | .quo=>cond (aO y 0) none (K (.val (.int k) (W k (quo x y))))
 | .rem=>cond (aO y 0) none (K (.val (.int k) (rem x y)))
 | .and=>K (.val (.int k) (qS .and k x y))
 | .or=>K (.val (.int k) (qS .or k x y))
 | .xor=>K (.val (.int k) (qS .xor k x y))
 | .andNot=>K (.val (.int k) (qS .andNot k x y))
 | .eql=>K (.val .bool (aO x y))
 | .neq=>K (.val .bool (!aO x y))
 | .lss=>K (.val .bool (aZ x y))
 | .leq=>K (.val .bool (dk x y))
 | .gtr=>K (.val .bool (aZ y x))
 | .geq=>K (.val .bool (dk y x))
 |_=>none
def Zf(op:BinOp)(k:IntKind)(x y:Int)(K:bD→Option α):Option α:=
 match op with
 | .shl=>cond (aZ y 0) none (K (.val (.int k) (W k (shl k x y))))
 | .shr=>cond (aZ y 0) none (K (.val (.int k) (shr k x y)))
 |_=>none
def Zg:BinOp→Bool
 | .shl| .shr=>true
 |_=>false
def EO(t:Option Ty)(op:BinOp)(τ:Ty)(x:τ.den)(υ:Ty)(y:υ.den)(K:bD→Option α):Option α:=
 match τ,x,υ,y with
 | .int k,x,.int k',y=>cond (Zg op) (Zf op k x y K) (if k=k' then ux op k x y K else none)
 |τ,x,υ,y=>match t with
  |none=>none
  |some u=>m8 u τ (cond τ.comparable (match op with
   | .eql=>c8 υ τ y λy=>K (.val .bool (uw τ x y))
   | .neq=>c8 υ τ y λy=>K (.val .bool (!uw τ x y))
   |_=>none) none)
def S3(op:UnOp)(a:bD)(K:bD→Option α):Option α:=
 match op,a with
 | .neg,.val (.int k) n=>K (.val (.int k) (W k (0-n)))
 | .xor,.val (.int k) n=>K (.val (.int k) (qS .xor k (if k.signed then-1 else k.max) n))
 | .not,.val .bool b=>K (.val .bool (!b))
 |_,_=>none
abbrev jf(α:Type):=bD→List Nat→jb→Option α
def YX(up:Bool):bD→List bD→(bD→Option α)→Option α
 |a,[],K=>K a
 |a,b::r,K=>wh a λk x=>wh b λk' y=>if k=k' then YX up (.val (.int k) (cond up (mx x y) (mn x y))) r K else none
def Mi(τ:Ty)(a:bD)(H:Nat→Option bh)(K:jf α):Option α:=
 match τ,a with
 | .slice _,.val (.slice _) l=>K (.val (.int .i64) (List.length l:Int)) [] []
 | .arr n _,.val (.arr _ _) _=>K (.val (.int .i64) (n:Int)) [] []
 | .str,.val .str s=>K (.val (.int .i64) (ByteArray.size s:Int)) [] []
 | .slice _,.emp=>K (.val (.int .i64) (0:Int)) [] []
 | .slice _,.ref id=>match H id with
  |some (.own _ l)|some (.oK _ l)=>K (.val (.int .i64) (l.length:Int)) [id] []
  |_=>none
 |_,_=>none
def qU(H:Nat→Option bh)(id:Nat)(e:bh)(K:Option α):Option α:=
 match H id with
 |none=>K
 |some _=>none
def Mj(id:Nat)(e:Ty)(a b:bD)(H:Nat→Option bh)(K:jf α):Option α:=
 mc false b H (.slice e) λys rd _=>
  match a with
  | .emp=>cond (small (List.length ys)) (K (.ref id) (id::rd) [(id,some (.own e ys))]) none
  | .ref j=>match H j with
   |some (.own e' l)=>c8 (.slice e') (.slice e) l λxs=>
    cond (small (List.length xs+List.length ys)) (K (.ref id) (id::j::rd) [(j,some .gone),(id,some (.own e (xs++ys)))]) none
   |_=>none
  |_=>none
def uy(τ:Ty)(H:Nat→Option bh):List (Nat×bD)→τ.den→List Nat→jb→(τ.den→List Nat→jb→Option α)→Option α
 |[],x,rd,ups,K=>K x rd ups
 |p::r,x,rd,ups,K=>yc τ x p.1 fun υ _=>mc true p.2 H υ λy Bn ob=>
  m7 τ x p.1 (fun υ' _ k'=>c8 υ υ' y k') λz=>uy τ H r z (Bn++rd) (ups++ob) K
def wj(e:Ty)(H:Nat→Option bh)(n:Nat):List (Nat×bD)→List e.den→List Nat→jb→(List e.den→List Nat→jb→Option α)→Option α
 |[],l,rd,ups,K=>K l rd ups
 |p::r,l,rd,ups,K=>cond (Nat.blt p.1 n) (mc true p.2 H e λy Bn ob=>wj e H n r (List.set l p.1 y) (Bn++rd) (ups++ob) K) none
def Ck(v:bD)(H:Nat→Option bh):(a:Ty)→(a.den→List Nat→jb→Option α)→Option α
 | .pair a .unit,k=>match v with
  | .qT υ x=>c8 υ a x λy=>k (y,()) [] []
  |_=>none
 |a,k=>mc true v H a k
def Cl:(a:Ty)→a.den→bD
 | .pair a .unit,x=> .qT a x.1
 |a,x=> .val a x
def qV(H:Nat→Option bh):(τ:Ty)→List bD→(τ.den→List Nat→jb→Option α)→Option α
 | .unit,[],K=>K () [] []
 | .pair a b,v::vs,K=>Ck v H a λx rd ups=>qV H b vs λxs Bn ob=>K (x,xs) (Bn++rd) (ups++ob)
 |_,_,_=>none
def pP:(τ:Ty)→τ.den→List bD
 | .pair a b,x=>Cl a x.1::pP b x.2
 |_,_=>[]
def bY(H:Nat→Option bh)(d:Nat)(v:Option bh):Nat→Option bh:=λi=>cond (Nat.beq i d) v (H i)
def wk(H:Nat→Option bh):List bD→(List bD→List Nat→jb→Option α)→Option α
 |[],K=>K [] [] []
 |a::r,K=>match a with
  | .jr id []=>match H id with
   |some (.obj τ x)=>wk (bY H id (some .gone)) r λcs rd ups=>K (.qT τ x::cs) (id::rd) ((id,some .gone)::ups)
   |_=>none
  |a=>wk H r λcs rd ups=>K (a::cs) rd ups
def nZ(m:AM)(a:bD)(H:Nat→Option bh)(k:m.den→(Nat→Option bh)→List Nat→jb→jb→List (Nat×AM)→Option α):Option α:=
 match m,k with
 | .v τ,k=>mc true a H τ λx rd uf=>match uf with
  |[]=>k x H rd [] [] []
  |u::r=>k x (bY H u.1 u.2) rd [] (u::r) []
 | .own e,k=>match a with
  | .emp=>k [] H [] [] [] []
  | .ref id=>match H id with
   |some (.own e' l)=>c8 (.slice e') (.slice e) l λx=>k x (bY H id (some .gone)) [id] [(id,some .gone)] [] []
   |_=>none
  |_=>none
 | .io τ,k=>match a with
  | .jr id []=>match H id with
   |some (.obj υ x)=>c8 υ τ x λy=>k y (bY H id (some .gone)) [id] [] [] [(id,.io τ)]
   |_=>none
  |_=>none
 | .fn f τ,k=>match a with
  | .Mf f' c=>cond (Nat.beq f f') (qV H τ c λx rd uf=>match uf with
   |[]=>k x H rd [] [] []
   |_=>none) none
  |_=>none
 | .ptr _,_=>none
 | .jr τ,k=>match a with
  | .qT υ x=>c8 υ τ x λy=>k y H [] [] [] []
  |_=>none
 | .lo e,k=>match a with
  | .ref id=>match H id with
   |some (.own e' l)=>c8 (.slice e') (.slice e) l λx=>k x (bY H id (some .gone)) [id] [] [] [(id,.lo e)]
   |_=>none
  |_=>none
def tB:(ms:List AM)→List bD→(Nat→Option bh)→List Nat→jb→jb→List (Nat×AM)→(HP ms→List Nat→jb→jb→List (Nat×AM)→Option α)→Option α
 |[],[],_,rd,uo,uf,io,K=>K () rd uo uf io
 |[m],[a],H,rd,uo,uf,io,K=>nZ m a H λx _ Bn Lv Lw G7=>K x (Bn++rd) (Lv++uo) (Lw++uf) (io++G7)
 |m::n::ms,a::p3,H,rd,uo,uf,io,K=>nZ m a H λx H' Bn Lv Lw G7=>
  tB (n::ms) p3 H' (Bn++rd) (Lv++uo) (Lw++uf) (io++G7) λxs rd uo uf io=>K (x,xs) rd uo uf io
 |_,_,_,_,_,_,_,_=>none
def JQ(m:AM)(x:m.den)(id:Nat):bD×jb:=
 match m,x with
 | .v τ,x=>(.val τ x,[])
 | .own e,x=>(.ref id,[(id,some (.own e x))])
 | .io τ,x=>(.val τ x,[])
 | .fn _ _,_=>(.any,[])
 | .ptr τ,x=>(.jr id [],[(id,some (.obj τ x))])
 | .jr _,_=>(.any,[])
 | .lo _,_=>(.any,[])
def jS:(ms:List AM)→HP ms→Nat→List (Nat×AM)→List bD×jb×List (Nat×AM)
 |[],_,_,io=>([],[],io)
 |[m],x,id,io=>match m,x,io with
  | .io τ,x,(j,_)::io=>([],[(j,some (.obj τ x))],io)
  | .lo e,x,(j,_)::io=>([],[(j,some (.own e x))],io)
  |m,x,io=>([(JQ m x id).1],(JQ m x id).2,io)
 |m::n::ms,x,id,io=>match m,x,io with
  | .io τ,x,(j,_)::io=>let r:=jS (n::ms) x.2 (id+1) io;(r.1,(j,some (.obj τ x.1))::r.2.1,r.2.2)
  | .lo e,x,(j,_)::io=>let r:=jS (n::ms) x.2 (id+1) io;(r.1,(j,some (.own e x.1))::r.2.1,r.2.2)
  |m,x,io=>let r:=jS (n::ms) x.2 (id+1) io;((JQ m x.1 id).1::r.1,(JQ m x.1 id).2++r.2.1,r.2.2)
def Mk:List bD→bD
 |[]=> .any
 |[a]=>a
 |l=> .tup l
def uz(H:Nat→Option bh)(id:Nat):Nat→Bool
 |0=>true
 |n+1=>(match H (id+n)with|none=>true|some _=>false)&&uz H id n
def Ml(id:Nat):Nat→List Nat
 |0=>[]
 |n+1=>(id+n)::Ml id n
def fits:List AM→List bD→Bool
 |[],[]=>true
 | .fn f _::ms,.Mf g _::p3=>Nat.beq f g&&fits ms p3
 | .fn _ _::_,_::_=>false
 |_::ms,_::p3=>fits ms p3
 |_,_=>false
def Mm:List me→List bD→Option me
 |[],_=>none
 |S::r,p3=>cond (fits S.args p3) (some S) (Mm r p3)
def Cm(E:Env)(f:Nat)(p3:List bD)(id:Nat)(H:Nat→Option bh)(K:jf α):Option α:=
 match Mm (E.Γ f) p3 with
 |none=>none
 |some S=>tB S.args p3 H [] [] [] [] λx rd uo uf io=>
  (S.run x).bind λy=>
   let r:=jS S.res y id io
   cond (uz H id S.res.length) (K (Mk r.1) (Ml id S.res.length++(r.2.1.map (·.1)++rd)) (uo++cond S.quiet [] uf++r.2.1)) none
def yN(a:Option bD)(d:Int)(k:Int→Option α):Option α:=
 match a with
 |none=>k d
 |some a=>wh a λ_ x=>k x
def lU:Option Operand→Bool
 |some (.const (.int _ n))=>decide (n=0)
 |_=>false
def qW(t:Ty)(z:Bool)(a:bD)(lo hi mx:Option bD)(H:Nat→Option bh)(K:jf α):Option α:=
 match t,a with
 | .str,.val .str s=>cond mx.isNone (yN lo 0 λl=>yN hi (ByteArray.size s:Int) λh=>
  cond (ka l h (ByteArray.size s:Int) (ByteArray.size s:Int)) (K (.val .str (ByteArray.extract s l.toNat h.toNat)) [] []) none) none
 | .slice _,.emp=>cond z (K .emp [] []) (cond mx.isNone (yN lo 0 λl=>yN hi 0 λh=>cond (ka l h 0 0) (K .emp [] []) none) none)
 | .slice e,a=>mc (!z) a H (.slice e) λx rd ups=>cond z (K .emp rd [])
  (cond (mx.isNone||hi.isSome) (yN lo 0 λl=>yN hi (List.length x:Int) λh=>yN mx (List.length x:Int) λm=>
   cond (ka l h m (List.length x:Int))
    (K (.val (.slice e) (List.drop l.toNat (List.take h.toNat x))) rd ups) none) none)
 |_,_=>none
def gE(τ:Ty)(a i:bD)(H:Nat→Option bh)(K:jf α):Option α:=
 wh i λ_ i=>
 match τ with
 | .slice e=>match a with
  | .val υ l=>c8 υ (.slice e) l λl=>cond (bb i (List.length l)) (K (.qT e (List.getD l i.toNat e.zero)) [] []) none
  | .ref id=>match H id with
   |some (.own e' l)|some (.oK e' l)=>m8 e' e (cond (bb i (List.length l)) (K (.jr id [.idx i.toNat]) [id] []) none)
   |_=>none
  |_=>none
 | .arr n e=>match a with
  | .jr id p=>m9 id p H fun υ=>m8 υ (.arr n e) (cond (bb i n) (K (.jr id (p++[.idx i.toNat])) [id] []) none)
  | .qT υ l=>c8 υ (.arr n e) l λl=>cond (bb i n) (K (.qT e (List.getD l i.toNat e.zero)) [] []) none
  |_=>none
 |_=>none
def wm(τ:Ty)(a i:bD)(K:bD→Option α):Option α:=
 wh i λ_ i=>
 match τ,a with
 | .arr n e,.val υ l=>c8 υ (.arr n e) l λl=>cond (bb i n) (K (.val e (List.getD l i.toNat e.zero))) none
 | .str,.val .str s=>cond (bb i (ByteArray.size s)) (K (.val (.int .u8) ((s.data.getD i.toNat 0).toNat:Int))) none
 |_,_=>none
def kW(a:bD)(H:Nat→Option bh)(K:(υ:Ty)→υ.den→List Nat→Option α):Option α:=
 match a with
 | .qT τ x=>K τ x []
 | .jr id p=>match H id with
  |some (.obj τ x)=>zT p τ x fun υ y=>K υ y [id]
  |some (.own e l)|some (.oK e l)=>match p with
   | .idx i::p=>zT p e (List.getD l i e.zero) fun υ y=>K υ y [id]
   |_=>none
  |_=>none
 |_=>none
def mf(τ:Ty)(a v:bD)(H:Nat→Option bh)(K:jf α):Option α:=
 match a with
 | .jr id p=>mc true v H τ λy rd ups=>
  match H id with
  |some (.obj υ x)=>vC τ y p υ x λz=>K .any (id::rd) (ups++[(id,some (.obj υ z))])
  |some (.own e l)=>match p with
   | .idx i::p=>cond (rd.contains id) none (vC τ y p e (List.getD l i e.zero) λz=>K .any (id::rd) (ups++[(id,some (.own e (List.set l i z)))]))
   |_=>none
  |_=>none
 |_=>none
def Dh(j:Nat)(q:List Step)(τ:Ty)(x:τ.den)(H:Nat→Option bh)(k:τ.den→jb→Option α):Option α:=
 match H j with
 |some (.own e l)=>vC (.slice e) l q τ x λz=>k z [(j,some (.oK e l))]
 |some (.oK e l)=>vC (.slice e) l q τ x λz=>k z []
 |_=>none
def vm(τ:Ty)(a:bD)(H:Nat→Option bh)(K:jf α):Option α:=
 let yO:=kW a H fun υ y rd=>c8 υ τ y λz=>K (.val τ z) rd []
 match a with
 | .jr id p=>match H id with
  |some (.gk υ x q j)=>cond (Me p q) (cond (gO q υ τ) (K (.ref j) [id] []) none)
   (cond (yb p q) (Dh j q υ x H λz ups=>zT p υ z fun υ' y=>c8 υ' τ y λy'=>K (.val τ y') [id,j] ups)
    (zT p υ x fun υ' y=>c8 υ' τ y λy'=>K (.val τ y') [id] []))
  |_=>yO
 |_=>yO
def Cn(τ:Ty)(id k:Nat)(e:Ty)(q:List Step)(υ:Ty)(x:υ.den)(H:Nat→Option bh)(K:jf α):Option α:=
 match H k with
 |some (.own e' _)=>m8 e' e (m8 τ (.slice e) (vC (.slice e) [] q υ x λz=>K .any [id,k] [(id,some (.gk υ z q k))]))
 |_=>none
def kb(E:Env)(τ:Ty)(a v:bD)(H:Nat→Option bh)(K:jf α):Option α:=
 let yO:=mf τ a v H K
 match a with
 | .jr id p=>match H id with
  |some (.obj υ x)=>match JP E υ id,v with
   |some (q,e),.ref k=>cond (Me p q) (Cn τ id k e q υ x H K) yO
   |_,_=>yO
  |some (.gk υ x q j)=>
   let put:=mc true v H τ λy rd ups=>vC τ y p υ x λz=>K .any (id::rd) (ups++[(id,some (cond (yb p q) (.obj υ z) (.gk υ z q j)))])
   match JP E υ id,v with
   |some (q',e),.ref k=>cond (Me p q&&Me q q') (Cn τ id k e q υ x H K) put
   |_,_=>put
  |_=>yO
 |_=>yO
def sW(E:Env)(τ:Ty)(a v:bD)(H:Nat→Option bh)(K:jf α):Option α:=
 match a,v with
 | .jr id [],.JO υ y n=>match JP E υ id with
  |some ([.kG m],e)=>cond (Nat.beq m n) (m8 τ υ (m9 id [] H fun υ'=>m8 υ' υ
   (qU H (id+2) (.own e []) (K .any [id,id+2] [(id,some (.gk υ y [.kG m] (id+2))),(id+2,some (.own e []))])))) (kb E τ a v H K)
  |_=>kb E τ a v H K
 |_,_=>kb E τ a v H K
def Di(H:Nat→Option bh)(id:Nat)(τ:Ty)(x:τ.den)(q:List Step)(e:Ty)(K:jf α):Option α:=
 qU H id (.obj τ x) (qU H (id+1) (.own e []) (K (.jr id []) [id,id+1] [(id,some (.gk τ x q (id+1))),(id+1,some (.own e []))]))
def Zh(E:Env)(ps:List (Nat×bD))(τ:Ty)(x:τ.den):bD:=match lkT E τ with
 |some ([.kG n],_)=>cond (ps.all λp=> !(Nat.beq p.1 n)) (.JO τ x n) (.val τ x)
 |_=> .val τ x
def partsOf(σρ:Operand→bD)(ps:Array (Nat×Operand)):List (Nat×bD):=ps.toList.map λp=>(p.1,σρ p.2)
def td(E:Env)(o:Oper)(ρ:Operand→bD)(H:Nat→Option bh)(K:jf α):Option α:=
 let id:=16*o.dst.getD 0
 match o.op with
 | .move x| .assign x=>K (ρ x) [] []
 | .pick c a b=>match ρ c with
  | .val .bool t=>cond t (K (ρ a) [] []) (K (ρ b) [] [])
  |_=>none
 | .alloc t=>match E.ty t with
  |some τ=>match JP E τ id with
   |some (q,e)=>Di H id τ τ.zero q e K
   |none=>qU H id (.obj τ τ.zero) (K (.jr id []) [id] [(id,some (.obj τ τ.zero))])
  |none=>none
 | .box t x=>match E.ty t with
  |some τ=>
   let yO:=mc true (ρ x) H τ λy rd ups=>qU H id (.obj τ y) (K (.jr id []) (id::rd) (ups++[(id,some (.obj τ y))]))
   match JP E τ id,ρ x with
   |some ([.kG m],e),.JO υ y n=>cond (Nat.beq m n) (c8 υ τ y λy=>Di H id τ y [.kG m] e K) yO
   |_,_=>yO
  |none=>none
 | .build t ps=>match E.ty t with
  |some (.arr n e)=>wj e H n (partsOf ρ ps) (List.replicate n e.zero) [] [] λl rd ups=>K (.val (.arr n e) l) rd ups
  |some τ=>cond τ.isAgg (uy τ H (partsOf ρ ps) τ.zero [] [] λx rd ups=>K (Zh E (partsOf ρ ps) τ x) rd ups) none
  |none=>none
 | .buildSlice t n ps=>match E.ty t with
  |some (.slice e)=>cond (Nat.ble (n*(e.size+1)) 16777216) (qU H id (.own e []) (wj e H n (partsOf ρ ps) (List.replicate n e.zero) [] [] λl rd ups=>K (.ref id) (id::rd) (ups++[(id,some (.own e l))]))) none
  |_=>none
 | .load t a=>match E.ty t with
  |some τ=>vm τ (ρ a) H K
  |none=>none
 | .store t a v=>match E.ty t with
  |some τ=>sW E τ (ρ a) (ρ v) H K
  |none=>none
 | .nilCheck x=>match ρ x with
  | .jr id p=>K (.jr id p) [] []
  | .qT τ x=>K (.qT τ x) [] []
  |_=>none
 | .binOp op t x y _=>Mh (ρ x) fun τ x=>Mh (ρ y) fun υ y=>EO (E.ty t) op τ x υ y λv=>K v [] []
 | .unOp op _ x=>S3 op (ρ x) λv=>K v [] []
 | .convert src dst x=>match E.ty src,E.ty dst with
  |some _,some (.int k)=>wh (ρ x) λ_ n=>K (.val (.int k) (W k n)) [] []
  |_,_=>none
 | .makeFunc (.func f) first caps=>cond first.isEmpty (wk H (caps.toList.map ρ) λcs rd ups=>K (.Mf f cs) rd ups) none
 | .makeSlice t l c=>match E.ty t with
  |some (.slice e)=>wh (ρ l) λ_ l=>wh (ρ c) λ_ c=>cond (jZ l c)
    (qU H id (.own e []) (K (.ref id) [id] [(id,some (.own e (List.replicate l.toNat e.zero)))])) none
  |_=>none
 | .slice t x lo hi mx=>match E.ty t with
  |some τ=>qW τ (lo.isNone&&lU hi&&lU mx) (ρ x) (lo.map ρ) (hi.map ρ) (mx.map ρ) H K
  |none=>none
 | .fieldAddr t x n=>match E.ty t with
  |some τ=>match ρ x with
   | .jr id p=>m9 id p H fun υ=>m8 υ τ (yc τ τ.zero n fun υ' _=>cond (Nat.beq υ'.size 0) none (K (.jr id (p++[.kG n])) [id] []))
   | .qT υ x=>m8 υ τ (yc υ x n fun υ y=>cond (Nat.beq υ.size 0) none (K (.qT υ y) [] []))
   |_=>none
  |none=>none
 | .field t x n=>match E.ty t with
  |some τ=>match ρ x with
   | .val υ x=>m8 υ τ (yc υ x n fun υ y=>K (.val υ y) [] [])
   |_=>none
  |none=>none
 | .indexAddr t x i=>match E.ty t with
  |some τ=>gE τ (ρ x) (ρ i) H K
  |none=>none
 | .index t x i=>match E.ty t with
  |some τ=>wm τ (ρ x) (ρ i) λv=>K v [] []
  |none=>none
 | .extract t i=>match ρ t with
  | .tup vs=>match vs[i]? with
   |some v=>K v [] []
   |none=>none
  |_=>none
 | .call c=>match c.callee with
  | .builtin .len=>match c.args.toList,(c.argTypes.toList.head?).bind E.ty with
   |[x],some τ=>Mi τ (ρ x) H K
   |_,_=>none
  | .builtin .append=>match c.args.toList,c.argTypes.toList with
   |[x,y],[t,t']=>match E.ty t with
    |some (.slice e)=>cond (Nat.beq t t') (qU H id (.own e []) (Mj id e (ρ x) (ρ y) H K)) none
    |_=>none
   |_,_=>none
  | .builtin .max=>match c.args.toList with
   |x::r=>YX true (ρ x) (r.map ρ) λv=>K v [] []
   |_=>none
  | .builtin .min=>match c.args.toList with
   |x::r=>YX false (ρ x) (r.map ρ) λv=>K v [] []
   |_=>none
  | .value g=>match ρ g with
   | .Mf f caps=>Cm E f (c.args.toList.map ρ++caps) id H K
   |_=>none
  |_=>none
 |_=>none
def tC(E:Env)(ops:List Oper)(o:Oper)(σ:St)(K:St→List Nat→List Nat→Option α):Option α:=
 let run (σ:St):Option α:=td E o σ.ρ σ.H λv rd ups=>K ((σ.wg ups).vB o.dst v) rd (ups.map (·.1))
 cond (Mg E.nt E.io o.dst) (match o.guard with
 |none=>run σ
 |some (j,want)=>match(ops[j]?).bind (·.dst)with
  |none=>none
  |some t=>match σ.T t with
   | .val .bool b=>match want with
    |true=>cond b (run (σ.put t (.val .bool true))) (K ((σ.put t (.val .bool false)).vB o.dst .Vt) [] [])
    |false=>cond b (K ((σ.put t (.val .bool true)).vB o.dst .Vt) [] []) (run (σ.put t (.val .bool false)))
   | .Vt=>K (σ.vB o.dst .Vt) [] []
   |_=>none) none
abbrev Log:=List (Nat×List Nat×List Nat)
def S4(E:Env)(ops:List Oper):List Oper→Nat→St→Log→(St→Log→Option α)→Option α
 |[],_,σ,lg,K=>K σ lg
 |o::r,i,σ,lg,K=>tC E ops o σ fun σ' rd wr=>S4 E ops r (i+1) σ' ((i,rd,wr)::lg) K
def sX:List Oper→List Nat→List Nat
 |[],acc=>acc
 |o::r,acc=>sX r (acc++[o.after.toList.foldl (λs e=>cond (Region.binds .any e) (s|||2^e.on|||acc.getD e.on 0) s) 0])
def names(ops:List Oper)(o:Oper):List Nat:=
 (o.op.operands.toList.filterMap fun| .tmp t=>some t|_=>none)++
 (match o.guard with
  |some (g,_)=>((ops[g]?).bind (·.dst)).toList
  |none=>[])
def meets(a b:List Nat):Bool:=a.any λx=>b.any λy=>Nat.beq x y
def Vu(ops:List Oper):Bool:=
 let b:=sX ops []
 (ops.zipIdx.all λ(o,j)=>o.after.toList.all λe=> !(Region.binds .any e)||Nat.blt e.on j)&&
 ops.zipIdx.all λ(o,j)=>ops.zipIdx.all λ(p,i)=>Nat.ble j i||(b.getD j 0).testBit i||
  !(meets p.dst.toList (o.dst.toList++names ops o)||meets o.dst.toList (names ops p))
def afK(ops:List Oper)(lg:Log):Bool:=
 let b:=sX ops []
 lg.all λx=>lg.all λy=>Nat.ble x.1 y.1||(b.getD x.1 0).testBit y.1||
  !(meets y.2.2 (x.2.1++x.2.2)||meets y.2.1 x.2.2)
def DU(E:Env)(ops:Array Oper)(draw:Bool)(σ:St)(K:St→Option α):Option α:=
 S4 E ops.toList ops.toList 0 σ [] fun σ' lg=>cond (!draw||(Vu ops.toList&&afK ops.toList lg)) (K σ') none
def ic:List (Nat×CM)→St→St→(St→Option α)→Option α
 |[],_,acc,K=>K acc
 |(s,.v τ)::r,σ,acc,K=>mc true (σ.T s) σ.H τ λx _ ups=>ic r (σ.wg ups) (acc.put s (.val τ x)) K
 |(s,.own e)::r,σ,acc,K=>match σ.T s with
  | .emp=>ic r σ ((acc.put s (.ref (16*s+14))).jR (16*s+14) (some (.own e []))) K
  | .ref id=>match σ.H id with
   |some (.own e' l)=>c8 (.slice e') (.slice e) l λx=>ic r (σ.jR id (some .gone)) ((acc.put s (.ref (16*s+14))).jR (16*s+14) (some (.own e x))) K
   |_=>none
  |_=>none
 |(s,.obj τ)::r,σ,acc,K=>match σ.T s with
  | .jr id []=>match σ.H id with
   |some (.obj υ x)=>c8 υ τ x λy=>ic r (σ.jR id (some .gone)) ((acc.put s (.jr (16*s+14) [])).jR (16*s+14) (some (.obj τ y))) K
   |some (.gk υ x q j)=>Dh j q υ x σ.H λz ups=>c8 υ τ z λy=>ic r ((σ.wg ups).jR id (some .gone)) ((acc.put s (.jr (16*s+14) [])).jR (16*s+14) (some (.obj τ y))) K
   |_=>none
  |_=>none
 |(s,.gk τ q e)::r,σ,acc,K=>match σ.T s with
  | .jr id []=>match σ.H id with
   |some (.gk υ x q' j)=>cond (Me q q') (match σ.H j with
    |some (.own e' l)=>c8 υ τ x λy=>c8 (.slice e') (.slice e) l λl=>ic r ((σ.jR j (some .gone)).jR id (some .gone))
     (((acc.put s (.jr (16*s+14) [])).jR (16*s+13) (some (.own e l))).jR (16*s+14) (some (.gk τ y q (16*s+13)))) K
    |_=>none) none
   |_=>none
  |_=>none
 |(s,.same s')::r,σ,acc,K=>match σ.T s,σ.T s',acc.T s' with
  | .ref i,.ref j,.ref j'=>cond (Nat.beq i j) (ic r σ (acc.put s (.ref j')) K) none
  |_,_,_=>none
 |(s,.io τ)::r,σ,acc,K=>match σ.T s with
  | .jr id []=>cond (Nat.beq id (16*s+15)) (match σ.H id with
   |some (.obj υ x)=>c8 υ τ x λy=>ic r (σ.jR id (some .gone)) ((acc.put s (.jr (16*s+15) [])).jR (16*s+15) (some (.obj τ y))) K
   |_=>none) none
  |_=>none
 |(s,.fn f τ)::r,σ,acc,K=>match σ.T s with
  | .Mf f' c=>cond (Nat.beq f f') (qV σ.H τ c λx _ ups=>match ups with
   |[]=>ic r σ (acc.put s (.Mf f (pP τ x))) K
   |_=>none) none
  |_=>none
def kd:List (Nat×CM)→Bool
 |[]=>true
 |q::r=>r.all (λp=> !(Nat.beq p.1 q.1))&&kd r
def wo(L:Option (List (Nat×CM)))(σ:St)(K:St→Option α):Option α:=
 match L with
 |none=>K σ
 |some L=>ic L σ ⟨λ_=> .any,λ_=>none⟩ K
def Co(L:Option (List (Nat×CM)))(step:St→(St→Option α)→Option α):Nat→St→Option α
 |0,_=>none
 |n+1,σ=>step σ fun σ'=>wo L σ' (Co L step n)
def cN:Code→Option Nat
 | .region id _ _=>some id
 | .seq a b=>match cN a with
  |some i=>some i
  |none=>cN b
 | .block _ c| .loop c| .scope c=>cN c
 |_=>none
def Ia(E:Env)(c:Operand)(σ:St)(A B:St→Option α):Option α:=
 match σ.ρ c with
 | .val .bool b=>match c with
  | .tmp t=>cond b (A (σ.put t (.val .bool true))) (B (σ.put t (.val .bool false)))
  |_=>cond b (A σ) (B σ)
 |_=>none
def DV(E:Env)(c:Code):St→(St→Option α)→(Nat→St→Option α)→(St→Option α)→Option α:=
 Code.rec (motive:=λ_=>St→(St→Option α)→(Nat→St→Option α)→(St→Option α)→Option α)
  (fun σ k _ _=>k σ)
  (λ_ ops draw σ k _ _=>DU E ops draw σ k)
  (λ_ b A B σ k kx kr=>A σ (fun σ'=>wo ((cN b).bind E.yd) σ' λvD=>B vD k kx kr) kx kr)
  (λc _ _ A B σ k kx kr=>Ia E c σ (fun σ'=>A σ' k kx kr) (fun σ'=>B σ' k kx kr))
  (λid _ A σ k kx kr=>A σ k (λi σ'=>cond (Nat.beq i id) (k σ') (kx i σ')) kr)
  (λb A σ _ kx kr=>wo ((cN b).bind E.wi) σ (Co ((cN b).bind E.wi) (fun σ' kn=>A σ' kn kx kr) E.N))
  (λ_ _ _ _ _ _ _ _ _ _=>none)
  (λid σ _ kx _=>kx id σ)
  (λ_ A σ k kx kr=>A σ k kx kr)
  (λ_ σ k _ _=>k σ)
  (λ_ _ _ _ _=>none)
  (fun σ _ _ kr=>kr σ)
  (λ_ _ _ _ _=>none)
  c
def vE(E:Env):List Nat→Code→List (St→Option α)→St→(St→Option α)→(Nat→St→Option α)→(St→Option α)→Option α
 |[],c,_,σ,k,kx,kr=>DV E c σ k kx kr
 |n::p,c,ks,σ,k,kx,kr=>match c with
  | .seq a b=>match n with
   |0=>vE E p a ks σ (fun σ'=>wo ((cN b).bind E.yd) σ' λvD=>DV E b vD k kx kr) kx kr
   |_=>vE E p b ks σ k kx kr
  | .cond _ a b=>match n with
   |0=>vE E p a ks σ k kx kr
   |_=>vE E p b ks σ k kx kr
  | .block id c=>vE E p c ks σ k (λi σ'=>cond (Nat.beq i id) (k σ') (kx i σ')) kr
  | .loop b=>match ks with
   |κ::ks=>vE E p b ks σ κ kx kr
   |[]=>none
  | .scope c=>vE E p c ks σ k kx kr
  |_=>none
def P3(m:AM)(x:m.den)(i:Nat)(σ:St):St:=
 match m,x with
 | .v τ,x=>σ.put i (.val τ x)
 | .own e,x=>(σ.put i (.ref (16*i+15))).jR (16*i+15) (some (.own e x))
 | .io τ,x=>(σ.put i (.jr (16*i+15) [])).jR (16*i+15) (some (.obj τ x))
 | .fn f τ,x=>σ.put i (.Mf f (pP τ x))
 | .ptr _,_=>σ
 | .jr τ,x=>σ.put i (.qT τ x)
 | .lo e,x=>(σ.put i (.ref (16*i+15))).jR (16*i+15) (some (.own e x))
def entry:(ms:List AM)→HP ms→Nat→St→St
 |[],_,_,σ=>σ
 |[m],x,i,σ=>P3 m x i σ
 |m::n::ms,x,i,σ=>entry (n::ms) x.2 (i+1) (P3 m x.1 i σ)
def Ib(E:Env)(m:AM)(r:ResultVar ⊕ Nat)(σ:St)(K:m.den→St→Option α):Option α:=
 match m,r,K with
 | .v τ,.inl (.tmp t),K=>mc true (σ.T t) σ.H τ λx _ ups=>K x (σ.wg ups)
 | .v τ,.inl (.cell a t),K=>match E.ty t with
  |some τ'=>m8 τ' τ (kW (σ.T a) σ.H fun υ y _=>c8 υ τ y λx=>K x σ)
  |none=>none
 | .own e,.inl (.tmp t),K=>match σ.T t with
  | .emp=>K [] σ
  | .ref id=>match σ.H id with
   |some (.own e' l)=>c8 (.slice e') (.slice e) l λx=>K x (σ.jR id (some .gone))
   |_=>none
  |_=>none
 | .io τ,.inr i,K=>match σ.T i with
  | .jr id []=>match σ.H id with
   |some (.obj υ x)=>c8 υ τ x λy=>K y (σ.jR id (some .gone))
   |_=>none
  |_=>none
 | .lo e,.inr i,K=>match σ.T i with
  | .ref id=>match σ.H id with
   |some (.own e' l)=>c8 (.slice e') (.slice e) l λx=>K x (σ.jR id (some .gone))
   |_=>none
  |_=>none
 | .ptr τ,.inl (.tmp t),K=>match σ.T t with
  | .jr id []=>match σ.H id with
   |some (.obj υ x)=>c8 υ τ x λy=>K y (σ.jR id (some .gone))
   |_=>none
  |_=>none
 |_,_,_=>none
def JR(E:Env):(ms:List AM)→List (ResultVar ⊕ Nat)→St→(HP ms→Option α)→Option α
 |[],[],_,K=>K ()
 |[m],[r],σ,K=>Ib E m r σ λx _=>K x
 |m::n::ms,r::rs,σ,K=>Ib E m r σ λx σ'=>JR E (n::ms) rs σ' λxs=>K (x,xs)
 |_,_,_,_=>none
def yP:List AM→Nat→List (ResultVar ⊕ Nat)
 |[],_=>[]
 | .io _::ms,i=> .inr i::yP ms (i+1)
 | .lo _::ms,i=> .inr i::yP ms (i+1)
 |_::ms,i=>yP ms (i+1)
def PN(E:Env)(fn:Func)(args res:List AM)(x:HP args):Option (HP res):=
 match fn.body with
 |none=>none
 |some c=>
  let kr:St→Option (HP res):=fun σ=>JR E res (fn.results.toList.map .inl++yP args 0) σ some
  DV E c (entry args x 0 ⟨λ_=> .any,λ_=>none⟩) kr (λ_ _=>none) kr
end
end VM
end
section
namespace VM
open Go
def yA(N:Nat)(x y c:Int):Option (Int×Int):=if 0≤x∧0≤y∧0≤c∧c≤1 then some ((x+y+c)%18446744073709551616,(x+y+c)/18446744073709551616)else none
def vn(N:Nat)(x y c:Int):Option (Int×Int):=if 0≤x∧x<18446744073709551616∧0≤y∧y<18446744073709551616∧0≤c∧c≤1 then some ((x+18446744073709551616-y-c)%18446744073709551616,if x<y+c then 1 else 0)else none
def p4{α:Type}(N:Nat)(l:List α)(i:Int)(v:List α):Option (List α):=if 0≤i∧i≤l.length∧v.length=1∧l.length+1<zQ then some (l.take i.toNat++(v++l.drop i.toNat))else none
def Zi{α:Type}(N:Nat)(l:List α)(n:Int):Option (List α):=match l with
 |[x]=>if 0<n∧n<1048576 then some (List.replicate n.toNat x)else none
 |_=>none
def yA.S(N:Nat):me:={args:=[.v (.int .u64),.v (.int .u64),.v (.int .u64)],res:=[.v (.int .u64),.v (.int .u64)],quiet:=true,run:=λx=>yA N x.1 x.2.1 x.2.2}
def vn.S(N:Nat):me:={args:=[.v (.int .u64),.v (.int .u64),.v (.int .u64)],res:=[.v (.int .u64),.v (.int .u64)],quiet:=true,run:=λx=>vn N x.1 x.2.1 x.2.2}
def lV(e:Ty)(N:Nat):me:={args:=[.own e,.v (.int .i64),.own e],res:=[.own e],quiet:=false,run:=λx=>p4 N x.1 x.2.1 x.2.2}
def ap2(e:Ty)(N:Nat):me:={args:=[.v (.slice e),.v (.int .i64)],res:=[.own e],quiet:=false,run:=λx=>Zi N x.1 x.2}
def oc{α:Type}(N:Nat)(l:List α):Option (List α):=if l.length<zQ then some l else none
def wq(e:Ty)(N:Nat):me:={args:=[.v (.slice e)],res:=[.own e],quiet:=false,run:=λx=>oc N x}
end VM
namespace VM
abbrev cA:Int×Int×Unit:=((0:Int),((0:Int),()))
abbrev cn:List (Int×Int×Unit):=[]
abbrev bm:Int×Int×Int×Unit:=((0:Int),((0:Int),((0:Int),())))
abbrev bH:List (Int×Int×Int×Unit):=[]
abbrev aV:Int×Int×Int×Int×Unit:=((0:Int),((0:Int),((0:Int),((0:Int),()))))
abbrev c9:List (Int×Int×Int×Int×Unit):=[]
abbrev mL:Int×Int×Int×Int×Int×Unit:=((0:Int),((0:Int),((0:Int),((0:Int),((0:Int),())))))
abbrev Dj:List (Int×Int×Int×Int×Int×Unit):=[]
abbrev fm:Int×Int×Int×Int×Int×Int×Unit:=((0:Int),((0:Int),((0:Int),((0:Int),((0:Int),((0:Int),()))))))
abbrev dR:List (Int×Int×Int×Int×Int×Int×Unit):=[]
abbrev Lx:Int×Int×Int×Int×Int×Int×Int×Unit:=((0:Int),((0:Int),((0:Int),((0:Int),((0:Int),((0:Int),((0:Int),())))))))
abbrev ee7:List (Int×Int×Int×Int×Int×Int×Int×Unit):=[]
abbrev zz8:Int×Int×Int×Int×Int×Int×Int×Int×Unit:=((0:Int),((0:Int),((0:Int),((0:Int),((0:Int),((0:Int),((0:Int),((0:Int),()))))))))
abbrev ee8:List (Int×Int×Int×Int×Int×Int×Int×Int×Unit):=[]
abbrev dB:List Int:=[]
abbrev py:List Int×Unit:=(dB,())
end VM
end
section
namespace VM
open Go
def At(w:World)(b off:Nat)(cs:List Value):Prop:= ∀j v,cs[j]? =some v→w.cell? ⟨b,off+j,none⟩=some v
def Rd(w:World)(M:Nat→Prop):(τ:Ty)→List Value→τ.den→Prop
 | .int k,cs,x=>cs=[.int k x]
 | .bool,cs,x=>cs=[.bool x]
 | .str,cs,x=>cs=[.string x]
 | .slice e,cs,x=> ∃a cap,cs=[.slice a (List.length x) cap]∧List.length x≤cap∧
  ∀i (h:i<List.length x),∃b off,a=some ⟨b,off,none⟩∧b<w.heap.size∧ ¬M b∧ ∃cs',At w b (off+i*e.size) cs'∧Rd w M e cs' (List.get x ⟨i,h⟩)
 | .unit,cs,_=>cs=[]
 | .pair a b,cs,x=> ∃c1 c2,cs=c1++c2∧Rd w M a c1 x.1∧Rd w M b c2 x.2
 | .arr n e,cs,x=>List.length x=n∧ ∃S5:List (List Value),S5.length=n∧cs=S5.flatten∧
  ∀i (h:i<List.length x) (h':i<S5.length),Rd w M e S5[i] (List.get x ⟨i,h⟩)
theorem oZ{α:Type}(n:Nat): ∀(l:List (List α)),(∀i (h:i<l.length),l[i].length=n)→l.flatten.length=l.length*n
 |[],_=>by simp
 |a::l,h=>by
  have h0:=h 0 (by simp)
  have ih:=oZ n l (λi hi=>h (i+1) (by simp;omega))
  simp only[Eo]at h0
  simp only[zC,aS,aR,ih,h0,eu]
  omega
theorem Rd.length{w:World}{M:Nat→Prop}: ∀{τ:Ty} {cs:List Value} {x:τ.den},Rd w M τ cs x→cs.length=τ.size
 | .int _,_,_,h=>by simp only[Rd]at h;subst h;rfl
 | .bool,_,_,h=>by simp only[Rd]at h;subst h;rfl
 | .str,_,_,h=>by simp only[Rd]at h;subst h;rfl
 | .slice _,_,_,h=>by simp only[Rd]at h;obtain⟨a,cap,rfl,_⟩:=h;rfl
 | .unit,_,_,h=>by simp only[Rd]at h;subst h;rfl
 | .pair a b,_,_,h=>by
  simp only[Rd]at h
  obtain⟨c1,c2,rfl,h1,h2⟩:=h
  rw[aS,h1.length,h2.length];rfl
 | .arr n e,_,x,h=>by
  simp only[Rd]at h
  obtain⟨hn,S5,hc,rfl,hr⟩:=h
  rw[oZ e.size S5 (λi hi=>(hr i ω hi).length),hc];rfl
structure fa(w:World)(M:Nat→Prop)(w':World)(M':Nat→Prop):Prop where
 size:w.heap.size≤w'.heap.size
 block: ∀b,b<w.heap.size→ ¬M b→w'.heap[b]? =w.heap[b]?
 less: ∀b,b<w.heap.size→M' b→M b
theorem agQ{w:World}{b o:Nat}{v:Value}(h:w.cell? ⟨b,o,none⟩=some v):b<w.heap.size:=by
 simp only[World.cell?]at h
 rcases oY b w.heap.size with hb|hb
 ·exact hb
 ·simp[L1 hb]at h
theorem At.cc{w w':World}{b off:Nat}{cs:List Value}(h:At w b off cs)(hb:w'.heap[b]? =w.heap[b]?):At w' b off cs:=by
 intro j v hj
 have:=h j v hj
 rw[World.cell?_of_block (w:=w) hb]
 exact this
theorem At.append{w:World}{b off:Nat}{c1 c2:List Value}:At w b off (c1++c2)↔At w b off c1∧At w b (off+c1.length) c2:=by
 constructor
 ·intro h
  refine⟨λj v hj=>h j v (by rw[ss];exact hj;exact(um.1 hj).1),λj v hj=> ?_⟩
  have:=h (c1.length+j) v (by rw[oI ω];simpa using hj)
  rw[oX];exact this
 ·rintro⟨h1,h2⟩ j v hj
  by_cases fb:j<c1.length
  ·rw[ss fb]at hj;exact h1 j v hj
  ·rw[oI ω]at hj
   have:=h2 (j-c1.length) v hj
   rwa [show off+c1.length+(j-c1.length)=off+j from by omega]at this
theorem Rd.cc{w w':World}{M M':Nat→Prop}(k:fa w M w' M'): ∀{τ:Ty} {cs:List Value} {x:τ.den},Rd w M τ cs x→Rd w' M' τ cs x
 | .int _,_,_,h=>h
 | .bool,_,_,h=>h
 | .str,_,_,h=>h
 | .slice e,_,x,h=>by
  simp only[Rd]at h ⊢
  obtain⟨a,cap,rfl,hc,hr⟩:=h
  refine⟨a,cap,rfl,hc,λi hi=> ?_⟩
  obtain⟨b,off,ha,hb,hm,cs',p5,kX⟩:=hr i hi
  exact⟨b,off,ha,mY hb k.size,λh'=>hm (k.less b hb h'),_,p5.cc (k.block b hb hm),kX.cc k⟩
 | .unit,_,_,h=>h
 | .pair a b,_,_,h=>by
  simp only[Rd]at h ⊢
  obtain⟨c1,c2,rfl,h1,h2⟩:=h
  exact⟨c1,c2,rfl,h1.cc k,h2.cc k⟩
 | .arr n e,_,x,h=>by
  simp only[Rd]at h ⊢
  obtain⟨hn,S5,hc,rfl,hr⟩:=h
  exact⟨hn,S5,hc,rfl,λi hi nc=>(hr i hi nc).cc k⟩
theorem fa.refl(w:World)(M:Nat→Prop):fa w M w M:=⟨aG _,λ_ _ _=>rfl,λ_ _ h=>h⟩
theorem fa.trans{w w' w'':World}{M M' PO:Nat→Prop}(h:fa w M w' M')(k:fa w' M' w'' PO):fa w M w'' PO:=
 ⟨cq h.size k.size,λb hb hm=>(k.block b (mY hb h.size) (λh'=>hm (h.less b hb h'))).trans (h.block b hb hm),
  λb hb hm=>h.less b hb (k.less b (mY hb h.size) hm)⟩
def V(w:World)(M:Nat→Prop)(τ:Ty)(v:Value)(x:τ.den):Prop:=
 if τ.isAgg then ∃cs,v= .agg cs∧Rd w M τ cs.toList x else Rd w M τ [v] x
theorem V.cc{w w':World}{M M':Nat→Prop}(k:fa w M w' M'){τ:Ty}{v:Value}{x:τ.den}(h:V w M τ v x):V w' M' τ v x:=by
 unfold V at*
 split
 ·rename_i ha;rw[aj ha]at h;obtain⟨cs,rfl,h⟩:=h;exact⟨cs,rfl,h.cc k⟩
 ·rename_i ha;rw[ah ha]at h;exact h.cc k
theorem Rd.scalar{w:World}{M:Nat→Prop}{τ:Ty}{cs:List Value}{x:τ.den}(ha:τ.isAgg=false)(h:Rd w M τ cs x): ∃v,cs=[v]∧v.cells= #[v]:=by
 cases τ<;>simp only[Ty.isAgg,Bool.true_eq_false]at ha<;>simp only[Rd]at h
 ·exact⟨_,h,rfl⟩
 ·exact⟨_,h,rfl⟩
 ·exact⟨_,h,rfl⟩
 ·obtain⟨a,cap,rfl,_⟩:=h;exact⟨_,rfl,rfl⟩
theorem V.cells{w:World}{M:Nat→Prop}{τ:Ty}{v:Value}{x:τ.den}(h:V w M τ v x):Rd w M τ v.cells.toList x:=by
 unfold V at h
 by_cases ha:τ.isAgg=true
 ·rw[aj ha]at h;obtain⟨cs,rfl,h⟩:=h;exact h
 ·rw[ah ha]at h
  obtain⟨v',hv,hc⟩:=h.scalar (by simpa using ha)
  simp only[fi,eT]at hv
  subst hv
  rw[hc];exact h
def cM(τ:Ty)(cs:List Value):Value:=if τ.isAgg then .agg cs.toArray else cs.headD (.tuple #[])
theorem V.cM{w:World}{M:Nat→Prop}{τ:Ty}{cs:List Value}{x:τ.den}(h:Rd w M τ cs x):V w M τ (cM τ cs) x:=by
 unfold V VM.cM
 by_cases ha:τ.isAgg=true
 ·rw[aj ha,aj ha];exact⟨_,rfl,by simpa using h⟩
 ·rw[ah ha,ah ha]
  obtain⟨v',rfl,_⟩:=h.scalar (by simpa using ha)
  exact h
theorem Hk{w:World}{M:Nat→Prop}{τ:Ty}{cs:List Value}{x:τ.den}(h:Rd w M τ cs x):(cM τ cs).cells.toList=cs:=by
 unfold VM.cM
 by_cases ha:τ.isAgg=true
 ·rw[aj ha];simp[Value.cells]
 ·rw[ah ha]
  obtain⟨v',rfl,hc⟩:=h.scalar (by simpa using ha)
  simp[hc]
theorem Rd.oL{w:World}{M:Nat→Prop}: ∀{τ:Ty} {cs:List Value} {x:τ.den},Rd w M τ cs x→ ∀v∈cs,v.oneCell'=true
 | .int _,_,_,h=>by simp only[Rd]at h;subst h;simp[Value.oneCell']
 | .bool,_,_,h=>by simp only[Rd]at h;subst h;simp[Value.oneCell']
 | .str,_,_,h=>by simp only[Rd]at h;subst h;simp[Value.oneCell']
 | .slice _,_,_,h=>by simp only[Rd]at h;obtain⟨a,cap,rfl,_⟩:=h;simp[Value.oneCell']
 | .unit,_,_,h=>by simp only[Rd]at h;subst h;simp
 | .pair a b,_,_,h=>by
  simp only[Rd]at h
  obtain⟨c1,c2,rfl,h1,h2⟩:=h
  intro v hv
  rcases ba.1 hv with hv|hv
  ·exact h1.oL v hv
  ·exact h2.oL v hv
 | .arr n e,_,x,h=>by
  simp only[Rd]at h
  obtain⟨hn,S5,hc,rfl,hr⟩:=h
  intro v hv
  obtain⟨l,hl,hvl⟩:=List.mem_flatten.1 hv
  obtain⟨i,hi,rfl⟩:=qF.1 hl
  exact(hr i ω hi).oL v hvl
def Ty.dj:Ty→List Value
 | .int k=>[.int k 0]
 | .bool=>[.bool false]
 | .str=>[.string ByteArray.empty]
 | .slice _=>[.slice none 0 0]
 | .unit=>[]
 | .pair a b=>a.dj++b.dj
 | .arr n e=>(List.replicate n e.dj).flatten
theorem Rd.zero(w:World)(M:Nat→Prop): ∀(τ:Ty),Rd w M τ τ.dj τ.zero
 | .int _| .bool| .str| .unit=>by simp[Rd,Ty.dj,Ty.zero]
 | .slice _=>by
  simp only[Rd,Ty.dj,Ty.zero]
  exact⟨none,0,rfl,aG _,λi h=>absurd h (by simp)⟩
 | .pair a b=>by
  simp only[Rd,Ty.dj,Ty.zero]
  exact⟨_,_,rfl,Rd.zero w M a,Rd.zero w M b⟩
 | .arr n e=>by
  simp only[Rd,Ty.dj,Ty.zero]
  refine⟨by simp,_,by simp,rfl,λi h h'=> ?_⟩
  simp only[L4,Es]
  exact Rd.zero w M e
end VM
end
section
namespace VM
open Go
def JS(P:Program)(τ:Ty)(t:TypeId):Prop:=
 ∃i,P.info? t=some i∧i.size=τ.size∧i.zero=some (cM τ τ.dj)∧i.bytes≤2048
def fT(P:Program):Ty→TypeId ⊕ (Array Field×Nat×Nat)→Prop
 | .int k,.inl t=>JS P (.int k) t∧P.underlying t=some (.int k)
 | .bool,.inl t=>JS P .bool t∧P.underlying t=some .bool
 | .str,.inl t=>JS P .str t∧P.underlying t=some .string
 | .slice e,.inl t=>JS P (.slice e) t∧ ∃e',P.underlying t=some (.slice e')∧fT P e (.inl e')
 | .arr n e,.inl t=>JS P (.arr n e) t∧ ∃e',P.underlying t=some (.array n e')∧fT P e (.inl e')
 | .unit,.inl t=>JS P .unit t∧ ∃fs,P.underlying t=some (.struct fs)∧fs.size=0
 | .unit,.inr (fs,n,_)=>fs.size=n
 | .pair a b,.inl t=>JS P (.pair a b) t∧ ∃fs f,P.underlying t=some (.struct fs)∧fs[0]? =some f∧f.offset=0∧fT P a (.inl f.type)∧fT P b (.inr (fs,1,a.size))
 | .pair a b,.inr (fs,n,off)=> ∃f,fs[n]? =some f∧f.offset=off∧fT P a (.inl f.type)∧fT P b (.inr (fs,n+1,off+a.size))
 |_,.inr _=>False
def kL(P:Program)(τ:Ty)(t:TypeId):Prop:=fT P τ (.inl t)
theorem kL.base{P:Program}{τ:Ty}{t:TypeId}(h:kL P τ t):JS P τ t:=by
 unfold kL at h;cases τ<;>simp only[fT]at h<;>exact h.1
theorem kL.int{P:Program}{k:IntKind}{t:TypeId}(h:kL P (.int k) t):P.underlying t=some (.int k):=by simp only[kL,fT]at h;exact h.2
theorem kL.bool{P:Program}{t:TypeId}(h:kL P .bool t):P.underlying t=some .bool:=by simp only[kL,fT]at h;exact h.2
theorem kL.str{P:Program}{t:TypeId}(h:kL P .str t):P.underlying t=some .string:=by simp only[kL,fT]at h;exact h.2
theorem kL.slice{P:Program}{e:Ty}{t:TypeId}(h:kL P (.slice e) t): ∃e',P.underlying t=some (.slice e')∧kL P e e':=by simp only[kL,fT]at h;exact h.2
theorem kL.arr{P:Program}{n:Nat}{e:Ty}{t:TypeId}(h:kL P (.arr n e) t): ∃e',P.underlying t=some (.array n e')∧kL P e e':=by simp only[kL,fT]at h;exact h.2
theorem kL.isSome{P:Program}{τ:Ty}{t:TypeId}(h:kL P τ t):(P.underlying t).isSome=true:=by
 unfold kL at h
 cases τ<;>simp only[fT]at h
 ·simp[h.2]
 ·simp[h.2]
 ·simp[h.2]
 ·obtain⟨_,e',h',_⟩:=h;simp[h']
 ·obtain⟨_,e',h',_⟩:=h;simp[h']
 ·obtain⟨_,e',f,h',_⟩:=h;simp[h']
 ·obtain⟨_,e',h',_⟩:=h;simp[h']
inductive Dl:(τ:Ty)→τ.den→Nat→(υ:Ty)→υ.den→Nat→Prop where
 |here {a b:Ty} (x:(Ty.pair a b).den):Dl (.pair a b) x 0 a x.1 0
 |there {a b:Ty} (x:(Ty.pair a b).den) {n:Nat} {υ:Ty} {y:υ.den} {o:Nat} (h:Dl b x.2 n υ y o):Dl (.pair a b) x (n+1) υ y (a.size+o)
theorem tD{α:Type}{r:α}: ∀{τ:Ty} {x:τ.den} {n:Nat} {k:(υ:Ty)→υ.den→Option α},yc τ x n k=some r→ ∃υ y o,Dl τ x n υ y o∧k υ y=some r
 | .pair a b,x,0,k,h=>⟨a,x.1,0,.here x,h⟩
 | .pair a b,x,n+1,k,h=>by
  obtain⟨υ,y,o,hf,hk⟩:=tD (τ:=b) (x:=x.2) (n:=n) (k:=k) h
  exact⟨υ,y,_,.there x hf,hk⟩
 | .int _,_,_,_,h| .bool,_,_,_,h| .str,_,_,_,h| .slice _,_,_,_,h| .unit,_,_,_,h| .arr _ _,_,_,_,h=>by simp[yc]at h
theorem Dl.bound{τ:Ty}{x:τ.den}{n:Nat}{υ:Ty}{y:υ.den}{o:Nat}(h:Dl τ x n υ y o):o+υ.size≤τ.size:=by
 induction h with
 |here x=>simp[Ty.size]
 |there x h ih=>simp only[Ty.size];omega
theorem Dl.rd{w:World}{M:Nat→Prop}{τ:Ty}{x:τ.den}{n:Nat}{υ:Ty}{y:υ.den}{o:Nat}(h:Dl τ x n υ y o):
  ∀{cs:List Value},Rd w M τ cs x→Rd w M υ ((cs.drop o).take υ.size) y:=by
 induction h with
 |here x=>
  intro cs hr
  simp only[Rd]at hr
  obtain⟨c1,c2,rfl,h1,_⟩:=hr
  rw[c0,vY h1.length];exact h1
 |there x h ih=>
  intro cs hr
  simp only[Rd]at hr
  obtain⟨c1,c2,rfl,h1,h2⟩:=hr
  rw[←jI,m2 h1.length]
  exact ih h2
theorem fT.kG{P:Program}{τ:Ty}{x:τ.den}{m:Nat}{υ:Ty}{y:υ.den}{o:Nat}(h:Dl τ x m υ y o):
  ∀{fs:Array Field} {n off:Nat},fT P τ (.inr (fs,n,off))→ ∃f,fs[n+m]? =some f∧f.offset=off+o∧kL P υ f.type:=by
 induction h with
 |here x=>
  intro fs n off hl
  simp only[fT]at hl
  obtain⟨f,hf,ho,ha,_⟩:=hl
  exact⟨f,hf,by simpa using ho,ha⟩
 |there x h ih=>
  intro fs n off hl
  simp only[fT]at hl
  obtain⟨f,hf,ho,_,hb⟩:=hl
  obtain⟨f',Bo,ho',JT⟩:=ih hb
  exact⟨f',by rw[←Bo];congr 1;omega,ω,JT⟩
theorem kL.kG{P:Program}{τ:Ty}{t:TypeId}{x:τ.den}{m:Nat}{υ:Ty}{y:υ.den}{o:Nat}(hl:kL P τ t)(h:Dl τ x m υ y o):
  ∃fs f,P.underlying t=some (.struct fs)∧fs[m]? =some f∧f.offset=o∧kL P υ f.type:=by
 unfold kL at hl
 cases h with
 |here x=>
  simp only[fT]at hl
  obtain⟨_,fs,f,hu,hf,ho,ha,_⟩:=hl
  exact⟨fs,f,hu,hf,ho,ha⟩
 |there x h=>
  simp only[fT]at hl
  obtain⟨_,fs,f,hu,hf,ho,_,hb⟩:=hl
  obtain⟨f',Bo,ho',JT⟩:=fT.kG h hb
  exact⟨fs,f',hu,by rw[←Bo];congr 1;omega,ω,JT⟩
inductive JU:List Step→(τ:Ty)→τ.den→(υ:Ty)→υ.den→Nat→Prop where
 |nil {τ:Ty} (x:τ.den):JU [] τ x τ x 0
 |kG {p:List Step} {τ υ σ:Ty} {x:τ.den} {n o:Nat} {y:υ.den} {z:σ.den} {q:Nat} (h:Dl τ x n υ y o) (r:JU p υ y σ z q):JU (.kG n::p) τ x σ z (o+q)
 |idx {p:List Step} {n:Nat} {e σ:Ty} {x:(Ty.arr n e).den} {i:Nat} {z:σ.den} {q:Nat} (r:JU p e (List.getD x i e.zero) σ z q):JU (.idx i::p) (.arr n e) x σ z (i*e.size+q)
theorem ke{α:Type}{r:α}: ∀{p:List Step} {τ:Ty} {x:τ.den} {k:(υ:Ty)→υ.den→Option α},zT p τ x k=some r→ ∃υ y o,JU p τ x υ y o∧k υ y=some r
 |[],τ,x,k,h=>⟨τ,x,0,.nil x,h⟩
 | .kG n::p,τ,x,k,h=>by
  obtain⟨υ,y,o,hf,h'⟩:=tD (h:yc τ x n _=some r)
  obtain⟨σ,z,q,hp,hk⟩:=ke h'
  exact⟨σ,z,_,.kG hf hp,hk⟩
 | .idx i::p,τ,x,k,h=>by
  cases τ with
  |arr n e=>
   obtain⟨σ,z,q,hp,hk⟩:=ke (p:=p) (τ:=e) (x:=List.getD x i e.zero) (k:=k) h
   exact⟨σ,z,_,.idx hp,hk⟩
  |_=>simp[zT,agP]at h
def vF:Ty→Nat→Ty
 | .pair a b,n=>match n with|0=>a|n+1=>vF b n
 |τ,_=>τ
def rV:Ty→Nat→Nat
 | .pair a b,n=>match n with|0=>0|n+1=>a.size+rV b n
 |_,_=>0
def elT:Ty→Ty
 | .arr _ e=>e
 |τ=>τ
def Hl:List Step→Ty→Ty
 |[],τ=>τ
 | .kG n::p,τ=>Hl p (vF τ n)
 | .idx _::p,τ=>Hl p (elT τ)
def cF:List Step→Ty→Nat
 |[],_=>0
 | .kG n::p,τ=>rV τ n+cF p (vF τ n)
 | .idx i::p,τ=>i*(elT τ).size+cF p (elT τ)
def ye:List Step→Ty→Prop
 |[],_=>True
 | .kG n::p,τ=>ye p (vF τ n)
 | .idx i::p,τ=>(∃n e,τ= .arr n e∧i<n)∧ye p (elT τ)
theorem Dl.eq{τ:Ty}{x:τ.den}{n:Nat}{υ:Ty}{y:υ.den}{o:Nat}(h:Dl τ x n υ y o):υ=vF τ n∧o=rV τ n:=by
 induction h with
 |here x=>exact⟨rfl,rfl⟩
 |there x h ih=>obtain⟨rfl,rfl⟩:=ih;exact⟨rfl,rfl⟩
theorem JU.eq{p:List Step}{τ:Ty}{x:τ.den}{υ:Ty}{y:υ.den}{o:Nat}(h:JU p τ x υ y o):υ=Hl p τ∧o=cF p τ:=by
 induction h with
 |nil x=>exact⟨rfl,rfl⟩
 |kG h r ih=>
  obtain⟨h1,h2⟩:=h.eq
  obtain⟨h3,h4⟩:=ih
  subst h1 h2 h3 h4
  exact⟨rfl,rfl⟩
 |idx r ih=>
  obtain⟨h3,h4⟩:=ih
  subst h3 h4
  exact⟨rfl,rfl⟩
theorem agS(p q:List Step): ∀τ,Hl (p++q) τ=Hl q (Hl p τ):=by
 induction p with
 |nil=>intro τ;rfl
 |cons s p ih=>intro τ;cases s<;>simp[Hl,ih]
theorem sv(p q:List Step): ∀τ,cF (p++q) τ=cF p τ+cF q (Hl p τ):=by
 induction p with
 |nil=>intro τ;simp[cF,Hl]
 |cons s p ih=>intro τ;cases s<;>simp[cF,Hl,ih,oX]
theorem sx(p q:List Step): ∀τ,ye (p++q) τ↔ye p τ∧ye q (Hl p τ):=by
 induction p with
 |nil=>intro τ;simp[ye,Hl]
 |cons s p ih=>intro τ;cases s<;>simp[ye,Hl,ih,and_assoc]
theorem kM{α:Type}(l:List α)(i:Nat)(d:α)(h:i<l.length):l.getD i d=l[i]:=by simp[List.getD,bl h]
theorem zU{α:Type}(n:Nat): ∀(l:List (List α)) (i:Nat) (h:i<l.length),(∀j (hj:j<l.length),l[j].length=n)→(l.flatten.drop (i*n)).take n=l[i]
 |a::l,0,_,hn=>by
  have:=hn 0 (by simp)
  simp only[Eo]at this
  simp[←this]
 |a::l,i+1,h,hn=>by
  have h0:=hn 0 (by simp)
  simp only[Eo]at h0
  rw[zC,eu,jX,Nat.add_comm (i*n) n,←jI,m2 h0]
  exact zU n l i (by simpa using h) (λj hj=>hn (j+1) (by simp;omega))
theorem Rd.idx{w:World}{M:Nat→Prop}{n:Nat}{e:Ty}{cs:List Value}{x:(Ty.arr n e).den}(h:Rd w M (.arr n e) cs x){i:Nat}(hi:i<n):
  Rd w M e ((cs.drop (i*e.size)).take e.size) (List.getD x i e.zero):=by
 simp only[Rd]at h
 obtain⟨hn,S5,hc,rfl,hr⟩:=h
 rw[zU e.size S5 i ω (λj hj=>(hr j ω hj).length),kM x i e.zero ω]
 exact hr i ω ω
theorem JU.bound{p:List Step}{τ:Ty}{x:τ.den}{υ:Ty}{y:υ.den}{o:Nat}(h:JU p τ x υ y o):ye p τ→o+υ.size≤τ.size:=by
 induction h with
 |nil x=>intro _;simp
 |kG h r ih=>
  intro hi
  obtain⟨h1,h2⟩:=h.eq
  subst h1
  have:=ih hi
  have:=h.bound
  omega
 | @idx p n e σ x i z q r ih=>
  intro hi
  obtain⟨⟨n',e',he,lW⟩,nc⟩:=hi
  cases he
  have:=ih nc
  have h2:(i+1)*e.size≤n*e.size:=lO _ lW
  rw[eu]at h2
  simp only[Ty.size]
  omega
theorem JU.rd{w:World}{M:Nat→Prop}{p:List Step}{τ:Ty}{x:τ.den}{υ:Ty}{y:υ.den}{o:Nat}(h:JU p τ x υ y o):
  ye p τ→ ∀{cs:List Value},Rd w M τ cs x→Rd w M υ ((cs.drop o).take υ.size) y:=by
 induction h with
 |nil x=>intro _ cs hr;rw[c0,jH (by rw[hr.length];exact aG _)];exact hr
 |kG h r ih=>
  intro hi cs hr
  obtain⟨h1,h2⟩:=h.eq
  subst h1
  have:=ih hi (h.rd hr)
  have hb:=JU.bound r hi
  rw[qL,jI,qM,iE ω]at this
  exact this
 | @idx p n e σ x i z q r ih=>
  intro hi cs hr
  obtain⟨⟨n',e',he,lW⟩,nc⟩:=hi
  cases he
  have:=ih nc (hr.idx lW)
  have hb:=JU.bound r nc
  rw[qL,jI,qM,iE ω]at this
  exact this
def fc{α:Type}(cs:List α)(o:Nat)(new:List α):List α:=cs.take o++new++cs.drop (o+new.length)
theorem zV{α:Type}{a b:List α}{o:Nat}{new:List α}(h:o+new.length≤a.length):fc (a++b) o new=fc a o new++b:=by
 unfold fc
 rw[zt ω,zu ω]
 simp only[bu]
theorem xz{α:Type}{a b:List α}{o:Nat}{new:List α}:fc (a++b) (a.length+o) new=a++fc b o new:=by
 unfold fc
 rw[List.take_append,jH ω,zw,oX,List.drop_append,kI ω,zw]
 simp
theorem gF{α:Type}{a:List α}{o:Nat}{new:List α}(h:o+new.length≤a.length):(fc a o new).length=a.length:=by
 unfold fc;simp;omega
theorem JV{α:Type}{a:List α}{o i n:Nat}{new:List α}(h:i+n≤o∨o+new.length≤i)(hl:o+new.length≤a.length):((fc a o new).drop i).take n=(a.drop i).take n:=by
 apply zD
 intro j
 simp only[lR,lS]
 split
 ·rename_i hj
  unfold fc
  rcases h with h|h
  ·rw[bu,ss (by simp;omega),lR,aj ω]
  ·rw[oI (by simp;omega)]
   simp only[aS,cf,iE (show o≤a.length by omega),lS]
   congr 1;omega
 ·rfl
theorem agT{α:Type}{a:List α}{o:Nat}{new:List α}(hl:o+new.length≤a.length):((fc a o new).drop o).take new.length=new:=by
 unfold fc
 rw[bu,m2 (by simp;omega),vY rfl]
theorem Mn{α:Type}{l:List α}{o:Nat}{u:α}(h:l[o]? =some u):fc l o [u]=l:=by
 obtain⟨fb,rfl⟩:=um.1 h
 unfold fc
 simp
theorem DW{α:Type}{l:List α}{o:Nat}{u:α}(h:o<l.length):(fc l o [u])[o]? =some u:=by
 unfold fc
 rw[bu,oI (by simp;omega)]
 simp[iE (Nat.le_of_lt h)]
theorem tE{τ:Ty}: ∀{n:Nat} {a:Ty},JN τ n=some a→ ∀x:τ.den,∃y o,Dl τ x n a y o:=by
 induction τ with
 |pair a b _ Vv=>
  intro n c h x
  cases n with
  |zero=>cases h;exact⟨_,_,.here x⟩
  |succ n=>
   obtain⟨y,o,hf⟩:=Vv (n:=n) (a:=c) h x.2
   exact⟨y,_,.there x hf⟩
 |_=>intro n c h;simp[JN]at h
theorem tF: ∀{p:List Step} {τ υ:Ty},gO p τ υ=true→ ∀x:τ.den,∃y o,JU p τ x υ y o
 |[],τ,υ,h,x=>by
  have h:=bz h
  subst h
  exact⟨x,0,.nil x⟩
 | .kG n::p,τ,υ,h,x=>by
  unfold gO at h
  split at h
  ·rename_i a ha
   obtain⟨y,o,hf⟩:=tE ha x
   obtain⟨z,q,hp⟩:=tF h y
   exact⟨z,_,.kG hf hp⟩
  ·cases h
 | .idx _::_,_,_,h,_=>by simp[gO]at h
theorem kN: ∀{p:List Step} {τ υ:Ty},gO p τ υ=true→ye p τ∧Hl p τ=υ
 |[],τ,υ,h=>⟨trivial,bz h⟩
 | .kG n::p,τ,υ,h=>by
  have h0:=h
  unfold gO at h
  split at h
  ·rename_i a ha
   obtain⟨y,o,hf⟩:=tE ha τ.zero
   obtain⟨h1,h2⟩:=kN h
   have:=hf.eq.1
   subst this
   exact⟨h1,h2⟩
  ·cases h
 | .idx _::_,_,_,h=>by simp[gO]at h
theorem Bp: ∀{p q:List Step},Me p q=true→p=q
 |[],[],_=>rfl
 | .kG a::p,.kG b::q,h=>by
  simp only[Me,bQ]at h
  rw[fW h.1,Bp h.2]
 |[],_::_,h| .kG _::_,[],h| .idx _::_,_,h| .kG _::_,.idx _::_,h=>by simp[Me]at h
theorem Dl.apart{τ:Ty}{x:τ.den}{n:Nat}{υ:Ty}{y:υ.den}{o:Nat}(h:Dl τ x n υ y o): ∀{x':τ.den} {n':Nat} {υ':Ty} {y':υ'.den} {o':Nat},Dl τ x' n' υ' y' o'→n≠n'→o+υ.size≤o'∨o'+υ'.size≤o:=by
 induction h with
 |here x=>
  intro x' n' υ' y' o' h' jB
  cases h' with
  |here=>exact absurd rfl jB
  |there _ h'=>left;omega
 |there x h ih=>
  intro x' n' υ' y' o' h' jB
  cases h' with
  |here=>right;omega
  |there _ h'=>rcases ih h' (λe=>jB (by rw[e]))with h1|h1<;>omega
theorem JU.apart{p:List Step}{τ:Ty}{x:τ.den}{υ:Ty}{y:υ.den}{o:Nat}(h:JU p τ x υ y o):ye p τ→ ∀{q:List Step} {e:Ty},gO q τ (.slice e)=true→yb p q=false→cF q τ<o∨o+υ.size≤cF q τ:=by
 induction h with
 |nil x=>intro _ q e _ h;simp[yb]at h
 | @kG p τ υ σ x n o y z q hf r ih=>
  intro hi q' e hq hp
  obtain⟨h1,h2⟩:=hf.eq
  subst h1 h2
  cases q' with
  |nil=>
   have:=bz hq
   subst this
   cases hf
  |cons s q'=>
   cases s with
   |idx i=>simp[gO]at hq
   |kG m=>
    unfold gO at hq
    split at hq
    ·rename_i a ha
     obtain⟨y',o',Bo⟩:=tE ha x
     obtain⟨h3,h4⟩:=Bo.eq
     subst h3 h4
     have hb:=r.bound hi
     obtain⟨h5,h6⟩:=kN hq
     obtain⟨z',o2,Rz⟩:=tF hq y'
     have eZ:=Rz.bound h5
     have ho2:=Rz.eq.2
     subst ho2
     simp only[cF]
     by_cases hnm:n=m
     ·subst hnm
      have G8:yb p q'=false:=by
       simp only[yb,Bool.and_eq_false_iff]at hp
       rcases hp with hp|hp
       ·rw[tz]at hp;cases hp
       ·exact hp
      rcases ih hi hq G8 with h7|h7<;>omega
     ·rcases hf.apart Bo hnm with h7|h7
      ·right;omega
      ·left
       have:1≤(Ty.slice e).size:=aG _
       omega
    ·cases hq
 | @idx p n e' σ x i z q r ih=>
  intro hi q' e hq hp
  cases q' with
  |nil=>have:=bz hq;cases this
  |cons s q'=>
   cases s with
   |idx i=>simp[gO]at hq
   |kG m=>simp[gO,JN]at hq
def fM:Value→Option Nat
 | .pointer (some a)=>some a.block
 | .slice (some a) _ cap=>if cap=0 then none else some a.block
 |_=>none
def bh.mut:bh→Prop
 | .obj _ _| .own _ _| .gk _ _ _ _=>True
 |_=>False
def ER(w:World)(M:Nat→Prop)(v:Value):bh→Prop
 | .obj τ x=> ∃b cs t,v= .pointer (some ⟨b,0,none⟩)∧w.heap[b]? =some (.cells cs t (0,0))∧M b∧Rd w M τ cs.toList x
 | .gk τ x p _=> ∃b cs t sy u,v= .pointer (some ⟨b,0,none⟩)∧w.heap[b]? =some (.cells cs t (0,0))∧M b∧Rd w M τ sy x∧cs.toList=fc sy (cF p τ) [u]∧u.oneCell'=true∧ ∃e,gO p τ (.slice e)=true
 | .own e l=>(l=[]∧ ∃a,v= .slice a 0 0)∨
  ∃b cs t cap,v= .slice (some ⟨b,0,none⟩) l.length cap∧w.heap[b]? =some (.cells cs t (0,0))∧M b∧0<cap∧l.length≤cap∧cap≤maxLen∧cs.size=cap*e.size∧
   ∀i (h:i<l.length),Rd w M e ((cs.toList.drop (i*e.size)).take e.size) l[i]
 | .oK e l=>Rd w M (.slice e) [v] l∧((l=[]∧ ∃a n c,v= .slice a n c)∨ ∃b n c,v= .slice (some ⟨b,0,none⟩) n c)
 | .gone=>True
def AR(v:Value)(p:List Step)(u:Value):bh→Prop
 | .obj τ _| .gk τ _ _ _=>ye p τ∧ ∃b,v= .pointer (some ⟨b,0,none⟩)∧u= .pointer (some ⟨b,cF p τ,none⟩)
 | .own e l| .oK e l=> ∃i q,p= .idx i::q∧i<l.length∧ye q e∧ ∃b n c,v= .slice (some ⟨b,0,none⟩) n c∧u= .pointer (some ⟨b,i*e.size+cF q e,none⟩)
 | .gone=> ∃a,u= .pointer (some a)
mutual
def VR(w:World)(M:Nat→Prop)(H:Nat→Option bh)(ν:Nat→Value):bD→Value→Prop
 | .any,_=>True
 | .Vt,v=>v=undef
 | .val τ x,v=>V w M τ v x
 | .JO τ x n,v=>V w M τ v x∧ ∃cs a,v= .agg cs∧cs.toList[rV τ n]? =some (.slice a 0 0)
 | .emp,v=> ∃a,v= .slice a 0 0
 | .ref id,v=>H id≠none∧v=ν id
 | .jr id p,v=> ∃e,H id=some e∧AR (ν id) p v e
 | .qT τ x,v=> ∃b off,v= .pointer (some ⟨b,off,none⟩)∧b<w.heap.size∧ ¬M b∧ ∃cs,At w b off cs∧Rd w M τ cs x
 | .tup vs,v=> ∃us:List Value,v= .tuple us.toArray∧jt w M H ν vs us
 | .Mf f caps,v=> ∃cs:List Value,v= .func (.func f) #[] cs.toArray∧jt w M H ν caps cs
def jt(w:World)(M:Nat→Prop)(H:Nat→Option bh)(ν:Nat→Value):List bD→List Value→Prop
 |[],[]=>True
 |a::as,v::vs=>VR w M H ν a v∧jt w M H ν as vs
 |_,_=>False
end
def bh.lq:bh→bh→Prop
 | .obj τ _,.obj υ _| .obj τ _,.gk υ _ _ _| .gk τ _ _ _,.obj υ _| .gk τ _ _ _,.gk υ _ _ _=>τ=υ
 | .own e l,.own f k| .own e l,.oK f k| .oK e l,.oK f k=>e=f∧l.length=k.length
 |_,.gone=>True
 |_,_=>False
structure sY(H:Nat→Option bh)(ν:Nat→Value)(H':Nat→Option bh)(ν':Nat→Value):Prop where
 la: ∀i e,H i=some e→ ∃e',H' i=some e'∧e.lq e'
 head: ∀i,H i≠none→ν' i=ν i
theorem AR.ptr{v:Value}{p:List Step}{u:Value}{e:bh}(h:AR v p u e): ∃a,u= .pointer (some a):=by
 cases e<;>simp only[AR]at h
 ·obtain⟨_,b,_,h⟩:=h;exact⟨_,h⟩
 ·obtain⟨_,b,_,h⟩:=h;exact⟨_,h⟩
 ·obtain⟨i,q,_,_,_,b,n,c,_,h⟩:=h;exact⟨_,h⟩
 ·obtain⟨i,q,_,_,_,b,n,c,_,h⟩:=h;exact⟨_,h⟩
 ·exact h
theorem AR.lq{v:Value}{p:List Step}{u:Value}{e e':bh}(h:AR v p u e)(l:e.lq e'):AR v p u e':=by
 have hp:=h.ptr
 cases e<;>cases e'<;>simp only[bh.lq]at l<;>simp only[AR]at h ⊢ <;>try exact hp
 ·subst l;exact h
 ·subst l;exact h
 ·subst l;exact h
 ·subst l;exact h
 ·obtain⟨rfl,hl⟩:=l;obtain⟨i,q,hp,hi,r⟩:=h;exact⟨i,q,hp,ω,r⟩
 ·obtain⟨rfl,hl⟩:=l;obtain⟨i,q,hp,hi,r⟩:=h;exact⟨i,q,hp,ω,r⟩
 ·obtain⟨rfl,hl⟩:=l;obtain⟨i,q,hp,hi,r⟩:=h;exact⟨i,q,hp,ω,r⟩
theorem bh.lq.refl(e:bh):e.lq e:=by cases e<;>simp[bh.lq]
theorem sY.refl(H:Nat→Option bh)(ν:Nat→Value):sY H ν H ν:=⟨λ_ e h=>⟨e,h,.refl e⟩,λ_ _=>rfl⟩
mutual
theorem VR.cc{w w':World}{M M':Nat→Prop}{H H':Nat→Option bh}{ν ν':Nat→Value}(k:fa w M w' M')(g:sY H ν H' ν'):
  ∀{a:bD} {v:Value},VR w M H ν a v→VR w' M' H' ν' a v
 | .any,_,_=>by simp[VR]
 | .Vt,_,h=>by simpa [VR]using h
 | .val τ x,v,h=>by simp only[VR]at h ⊢;exact h.cc k
 | .JO τ x n,v,h=>by simp only[VR]at h ⊢;exact⟨h.1.cc k,h.2⟩
 | .emp,_,h=>by simpa [VR]using h
 | .ref id,_,h=>by
  simp only[VR]at h ⊢
  obtain⟨h1,h2⟩:=h
  obtain⟨e,he⟩:=Ej.1 h1
  obtain⟨e',wu,_⟩:=g.la id e he
  exact⟨by simp[wu],by rw[g.head id h1];exact h2⟩
 | .jr id p,_,h=>by
  simp only[VR]at h ⊢
  obtain⟨e,he,ha⟩:=h
  obtain⟨e',wu,hl⟩:=g.la id e he
  exact⟨e',wu,by rw[g.head id (by simp[he])];exact ha.lq hl⟩
 | .qT τ x,_,h=>by
  simp only[VR]at h ⊢
  obtain⟨b,off,rfl,hb,hm,cs,ha,hr⟩:=h
  exact⟨b,off,rfl,mY hb k.size,λh'=>hm (k.less b hb h'),cs,ha.cc (k.block b hb hm),hr.cc k⟩
 | .tup vs,_,h=>by
  simp only[VR]at h ⊢
  obtain⟨us,rfl,h⟩:=h
  exact⟨us,rfl,jt.cc k g h⟩
 | .Mf f caps,_,h=>by
  simp only[VR]at h ⊢
  obtain⟨us,rfl,h⟩:=h
  exact⟨us,rfl,jt.cc k g h⟩
theorem jt.cc{w w':World}{M M':Nat→Prop}{H H':Nat→Option bh}{ν ν':Nat→Value}(k:fa w M w' M')(g:sY H ν H' ν'):
  ∀{as:List bD} {vs:List Value},jt w M H ν as vs→jt w' M' H' ν' as vs
 |[],[],_=>by simp[jt]
 |a::as,v::vs,h=>by simp only[jt]at h ⊢;exact⟨VR.cc k g h.1,jt.cc k g h.2⟩
 |[],_::_,h=>by simp[jt]at h
 |_::_,[],h=>by simp[jt]at h
end
end VM
end
