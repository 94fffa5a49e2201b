/- A part of the proof of WindTwice of layer 21: a machine that reads a function of the program as an equation between values. -/
import Derived.KernelRfl
import GoSem.Claims
import Derived.WalkKit
import Derived.ArgAppend
import Derived.Laws.CopyRow
import Derived.Laws.MakeOwn
import Derived.Laws.OwnMore
import Derived.Orders
import Derived.LoopN
set_option linter.all false
theorem ω{p:Prop}(h:p:=by omega):p:=h
theorem δ{p:Prop}(h:p:=by decide):p:=h
theorem κ{p:Prop}(h:p:=by kernel_rfl):p:=h
noncomputable section
abbrev ar:=@Option.bind_some
abbrev aI:=@List.length_singleton
abbrev ak:=@cond_true
abbrev aU:=@List.getD_eq_getElem?_getD
abbrev aJ:=@Int.toNat_natCast
abbrev av:=@cond_false
abbrev aS:=@List.length_append
abbrev aj:=@if_pos
abbrev bn:=@List.getElem?_eq_getElem
abbrev ah:=@if_neg
abbrev aZ:=@List.mem_cons_of_mem
abbrev aR:=@List.length_cons
abbrev aG:=@Nat.le_refl
abbrev bk:=@List.mem_cons_self
abbrev bb:=@List.mem_append
abbrev br:=@List.append_assoc
abbrev bI:=@Array.length_toList
abbrev bx:=@of_decide_eq_true
abbrev aW:=@List.mem_cons
abbrev a7:=@Bool.not_true
abbrev bW:=@List.mem_singleton
abbrev bs:=@decide_eq_true
abbrev bR:=@Bool.and_eq_true
abbrev cR:=@List.length_replicate
abbrev bN:=@List.length_set
abbrev cO:=@Bool.and_eq_true_iff
abbrev bU:=@List.length_nil
abbrev cc:=@List.length_take
abbrev cT:=@List.mem_append_left
abbrev bo:=@Nat.zero_le
abbrev ch:=@List.append_nil
abbrev cj:=@decide_eq_false
abbrev bV:=@List.map_cons
abbrev cv:=@List.length_map
abbrev dA:=@List.mem_append_right
abbrev cJ:=@List.nil_append
abbrev cy:=@List.sum_cons
abbrev cY:=@List.map_append
abbrev cm:=@Nat.le_trans
abbrev cZ:=@List.drop_zero
abbrev c0:=@Bool.not_false
abbrev eh:=@List.pairwise_cons
abbrev cD:=@List.mem_map
abbrev dB:=@List.getElem_mem
abbrev eM:=@List.mem_map_of_mem
abbrev dV:=@List.length_drop
abbrev fV:=@Nat.eq_of_beq_eq_true
abbrev dr:=@Int.toNat_zero
abbrev gg:=@List.take_append_drop
abbrev ff:=@decide_eq_true_iff
abbrev gH:=@List.getElem?_eq_none
abbrev fg:=@Option.mem_toList
abbrev gR:=@Array.getElem?_toList
abbrev gh:=@List.getElem_of_mem
abbrev kF:=@Array.getElem?_eq_some_iff
abbrev fh:=@List.cons.injEq
abbrev jG:=@List.take_of_length_le
abbrev kG:=@List.drop_of_length_le
abbrev oG:=@List.getElem?_append_right
abbrev iv:=@Option.some.injEq
abbrev iW:=@Bool.false_eq_true
abbrev eu:=@Nat.add_mul
abbrev fF:=@Bool.and_true
abbrev iX:=@List.size_toArray
abbrev lL:=@Nat.mul_le_mul_right
abbrev lM:=@List.mem_of_mem_take
abbrev iY:=@List.take_length
abbrev fG:=@Int.le_trans
abbrev iw:=@Nat.min_eq_left
abbrev pU:=@List.drop_eq_getElem_cons
abbrev lN:=@Nat.mul_le_mul_left
abbrev sd:=@Array.getD_eq_getD_getElem?
abbrev mV:=@List.mem_of_mem_drop
abbrev lO:=@List.getElem?_take
abbrev lP:=@List.getElem?_drop
abbrev gi:=@Nat.zero_add
abbrev tT:=@List.eq_nil_of_length_eq_zero
abbrev fH:=@Int.le_refl
abbrev se:=@List.getElem?_append_left
abbrev gI:=@Int.add_zero
abbrev mW:=@Nat.lt_of_lt_of_le
abbrev sf:=@List.take_append_getElem
abbrev jH:=@List.drop_drop
abbrev lQ:=@List.cons_append
abbrev xk:=@Int.mul_le_mul_of_nonneg_left
abbrev tU:=@List.getElem?_eq_some_iff
abbrev tV:=@List.pairwise_iff_getElem
abbrev lR:=@List.sum_append
abbrev mX:=@List.drop_length
abbrev iZ:=@List.map_nil
abbrev tW:=@Int.eq_ofNat_of_zero_le
abbrev kH:=@Int.mul_assoc
abbrev eS:=@and_true
abbrev xl:=@List.mem_or_eq_of_mem_set
abbrev si:=@List.length_pos_iff
abbrev pV:=@List.nodup_append
abbrev pW:=@List.getElem?_map
abbrev fi:=@congrArg
abbrev oH:=@Option.some.inj
abbrev iA:=@List.sum_nil
abbrev qy:=@List.mem_iff_getElem
abbrev mY:=@Bool.not_eq_true
abbrev s4:=@Option.bind_eq_some_iff
abbrev mZ:=@Option.getD_some
abbrev qz:=@List.map_congr_left
abbrev m0:=@List.drop_left'
abbrev m1:=@Bool.or_eq_true
abbrev eT:=@if_false
abbrev zh:=@Int.mul_le_mul_of_nonneg_right
abbrev qA:=@Bool.false_ne_true
abbrev oS:=@decide_eq_decide
abbrev qB:=@Int.lt_of_le_of_lt
abbrev jW:=@Int.mul_comm
abbrev zi:=@List.take_append_of_le_length
abbrev zj:=@List.drop_append_of_le_length
abbrev qC:=@Bool.not_eq_true'
abbrev oT:=@Bool.eq_iff_iff
abbrev eJ:=@Ne.symm
abbrev vC:=@List.drop_eq_nil_of_le
abbrev jX:=@Nat.one_mul
abbrev jY:=@Int.mul_add
abbrev m2:=@Bool.true_and
abbrev qD:=@List.all_eq_true
abbrev jq:=@Array.ext'
abbrev oU:=@List.take_zero
abbrev vD:=@List.Pairwise.sublist
abbrev m3:=@Nat.add_zero
abbrev vE:=@List.pairwise_append
abbrev oV:=@Nat.add_assoc
abbrev zk:=@List.eq_of_mem_replicate
abbrev vF:=@Int.toNat_of_nonneg
abbrev qE:=@List.drop_take
abbrev qF:=@List.take_take
abbrev zm:=@Nat.add_sub_cancel_left
abbrev qG:=@List.mem_range
abbrev s6:=@beq_self_eq_true
abbrev gS:=@Prod.ext
abbrev oW:=@Nat.lt_or_ge
abbrev zn:=@Option.map_eq_some_iff
abbrev zo:=@Int.ediv_lt_iff_lt_mul
abbrev s7:=@List.headD_cons
abbrev s8:=@Int.ediv_nonneg
abbrev gA:=@if_true
abbrev vG:=@List.length_range
abbrev vH:=@decide_eq_true_eq
abbrev vI:=@Bool.eq_false_iff
abbrev Ed:=@Option.ne_none_iff_exists'
abbrev zp:=@Array.getElem_toList
abbrev s9:=@List.tail_cons
abbrev qH:=@Nat.mul_succ
abbrev vJ:=@List.filter_cons
abbrev Ee:=@Decidable.byContradiction
abbrev zq:=@List.replicate_succ
abbrev Ef:=@List.getElem_append_left
abbrev ta:=@Bool.false_or
abbrev tb:=@Bool.or_false
abbrev vK:=@List.take_left'
abbrev vL:=@List.mem_filter
abbrev vM:=@List.length_zip
abbrev zr:=@Int.emod_lt_of_pos
abbrev qI:=@Nat.le_succ
abbrev qJ:=@Nat.sub_mul
abbrev qK:=@Int.add_mul
abbrev Eg:=@List.getElem?_replicate
abbrev Eh:=@decide_eq_false_iff_not
abbrev Ei:=@List.pairwise_singleton
abbrev Ej:=@List.getElem_cons_zero
abbrev zs:=@List.flatten_cons
abbrev zt:=@List.ext_getElem?
abbrev tc:=@Nat.beq_refl
abbrev td:=@Nat.sub_self
abbrev vN:=@Nat.mul_le_mul
abbrev vO:=@Int.mul_nonneg
abbrev vP:=@Bool.false_and
abbrev zu:=@List.pairwise_map
abbrev tf:=@Int.zero_add
abbrev LC:=@Array.getElem?_setIfInBounds_ne
abbrev Ek:=@Nat.le_of_ble_eq_true
abbrev El:=@List.singleton_append
abbrev zv:=@List.any_eq_true
abbrev LD:=@List.eq_nil_iff_forall_not_mem
abbrev LF:=@Nat.and_two_pow_sub_one_eq_mod
abbrev zw:=@List.nodup_cons
abbrev Em:=@List.get_eq_getElem
abbrev LG:=@Nat.two_pow_add_eq_or_of_lt
abbrev LH:=@iff_iff_implies_and_implies
abbrev En:=@List.getElem_range
abbrev zx:=@List.mapM_cons
abbrev LJ:=@Int.fdiv_eq_ediv_of_nonneg
abbrev LK:=@Int.add_mul_emod_self_left
abbrev Eo:=@Int.tmod_lt_of_pos
abbrev LM:=@List.getElem_append_right
abbrev LN:=@Array.getElem?_eq_getElem
abbrev LO:=@Classical.byContradiction
abbrev LP:=@Int.le_of_mul_le_mul_left
abbrev Ep:=@List.getElem_drop
abbrev Er:=@List.getElem_take
abbrev Es:=@Decidable.not_not
abbrev Et:=@Bool.not_eq_false
abbrev LR:=@List.length_eq_zero_iff
abbrev LS:=@List.getElem?_cons_zero
abbrev Eu:=@List.nil_sublist
abbrev LV:=@Array.getElem?_eq_none
abbrev LW:=@List.getElem_replicate
abbrev vQ:=@Nat.beq_eq
abbrev LX:=@List.append_eq_nil_iff
abbrev zy:=@Nat.pow_succ
abbrev zz:=@Int.pow_succ
abbrev zA:=@Int.mul_zero
abbrev LY:=@Int.ediv_eq_zero_of_lt
abbrev Ev:=@List.range_succ
abbrev Ew:=@Int.emod_nonneg
abbrev Ex:=@Int.natCast_add
abbrev LZ:=@List.getElem?_toArray
abbrev L0:=@Int.mul_ediv_add_emod
abbrev L1:=@Nat.div_lt_iff_lt_mul
abbrev L4:=@Int.add_mul_ediv_left
abbrev L7:=@List.set_append_right
abbrev zB:=@Int.one_mul
abbrev zC:=@Int.mul_neg
abbrev zD:=@Int.neg_neg
abbrev Ey:=@Bool.and_false
abbrev Ez:=@List.all_cons
abbrev EA:=@Nat.lt_irrefl
abbrev zE:=@Nat.blt_eq
abbrev zF:=@Nat.ble_eq
abbrev EB:=@Nat.mul_comm
abbrev EC:=@Int.sub_zero
abbrev ED:=@Int.add_comm
section
namespace VM
open Go
theorem alA{α:Type}(a:α): ∃b:α,b=a:=⟨a,rfl⟩
def bf{α:Type}(a:α):α:=Classical.choose (alA a)
theorem iB{α:Type}(a:α):bf a=a:=Classical.choose_spec (alA a)
def zG:Nat:=68719476736
def W:IntKind→Int→Int:=bf λk x=>k.wrap x
def aY:Int→Int→Bool:=bf λx y=>decide (x<y)
def dk:Int→Int→Bool:=bf λx y=>decide (x≤y)
def aO:Int→Int→Bool:=bf λx y=>decide (x=y)
def ba:Int→Nat→Bool:=bf λi n=>decide (0≤i∧i<(n:Int))
def small:Nat→Bool:=bf λn=>decide (n<zG)
def jZ:Int→Int→Bool:=bf λl c=>decide (0≤l∧l≤c∧c<(zG:Int))
def ka:Int→Int→Int→Int→Bool:=bf λl h m n=>decide (0≤l∧l≤h∧h≤m∧m≤n)
def quo:Int→Int→Int:=bf λx y=>x.tdiv y
def rem:Int→Int→Int:=bf λx y=>x.tmod y
def shl:IntKind→Int→Int→Int:=bf λk x y=>x*2^(min y.toNat k.bits)
def shr:IntKind→Int→Int→Int:=bf λk x y=>x.fdiv (2^(min y.toNat k.bits))
def mx:Int→Int→Int:=bf λx y=>if y>x then y else x
def mn:Int→Int→Int:=bf λx y=>if y<x then y else x
def Vq:ByteArray→ByteArray→Bool:=bf λx y=>decide (x.toList=y.toList)
theorem EE(k:IntKind)(x:Int):W k x=k.wrap x:=by unfold W;rw[iB]
theorem tX(x y:Int):aY x y=decide (x<y):=by unfold aY;rw[iB]
theorem nZ(x y:Int):dk x y=decide (x≤y):=by unfold dk;rw[iB]
theorem jA(x y:Int):aO x y=decide (x=y):=by unfold aO;rw[iB]
theorem Vr(i:Int)(n:Nat):ba i n=decide (0≤i∧i<(n:Int)):=by unfold ba;rw[iB]
theorem EF(n:Nat):small n=decide (n<zG):=by unfold small;rw[iB]
theorem HX(l c:Int):jZ l c=decide (0≤l∧l≤c∧c<(zG:Int)):=by unfold jZ;rw[iB]
theorem zH(l h m n:Int):ka l h m n=decide (0≤l∧l≤h∧h≤m∧m≤n):=by unfold ka;rw[iB]
theorem agY(x y:Int):quo x y=x.tdiv y:=by unfold quo;rw[iB]
theorem agZ(x y:Int):rem x y=x.tmod y:=by unfold rem;rw[iB]
theorem Vs(k:IntKind)(x y:Int):shl k x y=x*2^(min y.toNat k.bits):=by unfold shl;rw[iB]
theorem PZ(k:IntKind)(x y:Int):shr k x y=x.fdiv (2^(min y.toNat k.bits)):=by unfold shr;rw[iB]
theorem Vt(x y:Int):mx x y=if y>x then y else x:=by unfold mx;rw[iB]
theorem Rx(x y:Int):mn x y=if y<x then y else x:=by unfold mn;rw[iB]
theorem EG(x y:ByteArray):Vq x y=decide (x.toList=y.toList):=by unfold Vq;rw[iB]
inductive Bw where|and|or|xor|andNot
def qL:Bw→IntKind→Int→Int→Int:=bf λo k x y=>
 let a:=BitVec.ofInt k.bits x
 let b:=BitVec.ofInt k.bits y
 k.wrap (match o with| .and=>a&&& b| .or=>a|||b| .xor=>a^^^b| .andNot=>a&&& ~~~b).toNat
theorem tY(o:Bw)(k:IntKind)(x y:Int):qL o k x y=
 let a:=BitVec.ofInt k.bits x
 let b:=BitVec.ofInt k.bits y
 k.wrap (match o with| .and=>a&&& b| .or=>a|||b| .xor=>a^^^b| .andNot=>a&&& ~~~b).toNat:=by unfold qL;rw[iB]
def strOf(l:List Nat):ByteArray:=⟨(l.map UInt8.ofNat).toArray⟩
inductive Ty where
 |int (k:IntKind)
 |bool
 |str
 |slice (e:Ty)
 |unit
 |pair (a b:Ty)
 |arr (n:Nat) (e:Ty)
 deriving DecidableEq
@[reducible] def Ty.den:Ty→Type
 | .int _=>Int
 | .bool=>Bool
 | .str=>ByteArray
 | .slice e=>List e.den
 | .unit=>Unit
 | .pair a b=>a.den×b.den
 | .arr _ e=>List e.den
def Ty.size:Ty→Nat
 | .int _| .bool| .str| .slice _=>1
 | .unit=>0
 | .pair a b=>a.size+b.size
 | .arr n e=>n*e.size
def Ty.isAgg:Ty→Bool
 | .unit| .pair _ _| .arr _ _=>true
 |_=>false
def Ty.zero:(τ:Ty)→τ.den
 | .int _=>(0:Int)
 | .bool=>false
 | .str=>ByteArray.empty
 | .slice _=>[]
 | .unit=>()
 | .pair a b=>(a.zero,b.zero)
 | .arr n e=>List.replicate n e.zero
def Ty.comparable:Ty→Bool
 | .slice _=>false
 | .pair a b=>a.comparable&&b.comparable
 | .arr _ _=>false
 |_=>true
def alB{α:Type}(f:α→α→Bool):List α→List α→Bool
 |[],[]=>true
 |x::xs,y::ys=>f x y&&alB f xs ys
 |_,_=>false
def pt:(τ:Ty)→τ.den→τ.den→Bool
 | .int _,x,y=>aO x y
 | .bool,x,y=>x==y
 | .str,x,y=>Vq x y
 | .slice _,_,_=>false
 | .unit,_,_=>true
 | .pair a b,x,y=>pt a x.1 y.1&&pt b x.2 y.2
 | .arr _ e,x,y=>alB (pt e) x y
inductive Step where
 |kE (n:Nat)
 |idx (i:Nat)
def L8:List Step→List Step→Bool
 |[],[]=>true
 | .kE a::p,.kE b::q=>Nat.beq a b&&L8 p q
 |_,_=>false
def xQ:List Step→List Step→Bool
 |[],_=>true
 | .kE a::p,.kE b::q=>Nat.beq a b&&xQ p q
 |_,_=>false
def JH:Ty→Nat→Option Ty
 | .pair a b,n=>match n with
  |0=>some a
  |n+1=>JH b n
 |_,_=>none
def gN:List Step→Ty→Ty→Bool
 |[],τ,υ=>decide (τ=υ)
 | .kE n::p,τ,υ=>match JH τ n with
  |some a=>gN p a υ
  |none=>false
 |_,_,_=>false
inductive bC where
 |any
 |Vu
 |val (τ:Ty) (x:τ.den)
 |JI (τ:Ty) (x:τ.den) (n:Nat)
 |emp
 |ref (id:Nat)
 |jo (id:Nat) (p:List Step)
 |qM (τ:Ty) (x:τ.den)
 |tup (vs:List bC)
 |L9 (f:Nat) (caps:List bC)
inductive bl where
 |obj (τ:Ty) (x:τ.den)
 |gd (τ:Ty) (x:τ.den) (p:List Step) (j:Nat)
 |own (e:Ty) (l:List e.den)
 |oI (e:Ty) (l:List e.den)
 |gone
structure St where
 T:Nat→bC
 H:Nat→Option bl
def St.put(σ:St)(d:Nat)(v:bC):St:=⟨λi=>cond (Nat.beq i d) v (σ.T i),σ.H⟩
def St.jP(σ:St)(d:Nat)(v:Option bl):St:=⟨σ.T,λi=>cond (Nat.beq i d) v (σ.H i)⟩
def St.vn(σ:St)(d:Option Nat)(v:bC):St:=match d with|some d=>σ.put d v|none=>σ
def Ma(n:Nat)(io:List Nat):Option Nat→Bool|some d=>Nat.blt d n&&io.all (λi=> !(Nat.beq i d))|none=>true
def St.vR(σ:St):List (Nat×Option bl)→St
 |[]=>σ
 |u::r=>(σ.jP u.1 u.2).vR r
abbrev S0:St:=⟨λ_=> .any,λ_=>none⟩
abbrev iV:=List (Nat×Option bl)
section K
variable{α:Type}
def xR:(τ:Ty)→τ.den→Nat→((υ:Ty)→υ.den→Option α)→Option α
 | .pair a b,x,n,k=>match n with
  |0=>k a x.1
  |n+1=>xR b x.2 n k
 |_,_,_,_=>none
def m4:(τ:Ty)→τ.den→Nat→((υ:Ty)→υ.den→(υ.den→Option α)→Option α)→(τ.den→Option α)→Option α
 | .pair a b,x,n,m,k=>match n with
  |0=>m a x.1 λz=>k (z,x.2)
  |n+1=>m4 b x.2 n m λz=>k (x.1,z)
 |_,_,_,_,_=>none
def m5(τ υ:Ty)(k:Option α):Option α:=if τ=υ then k else none
def c8(υ τ:Ty)(y:υ.den)(k:τ.den→Option α):Option α:=if h:υ=τ then k (h▸y)else none
def ag0(τ:Ty)(x:τ.den)(i:Nat)(k:(υ:Ty)→υ.den→Option α):Option α:=
 match τ,x with
 | .arr _ e,x=>k e (List.getD x i e.zero)
 |_,_=>none
def DN(τ:Ty)(x:τ.den)(i:Nat)(m:(υ:Ty)→υ.den→(υ.den→Option α)→Option α)(k:τ.den→Option α):Option α:=
 match τ,x,k with
 | .arr _ e,x,k=>m e (List.getD x i e.zero) λz=>k (List.set x i z)
 |_,_,_=>none
def zI:List Step→(τ:Ty)→τ.den→((υ:Ty)→υ.den→Option α)→Option α
 |[],τ,x,k=>k τ x
 | .kE n::p,τ,x,k=>xR τ x n fun υ y=>zI p υ y k
 | .idx i::p,τ,x,k=>ag0 τ x i fun υ y=>zI p υ y k
def vo(υ:Ty)(y:υ.den):List Step→(τ:Ty)→τ.den→(τ.den→Option α)→Option α
 |[],τ,_,k=>c8 υ τ y k
 | .kE n::p,τ,x,k=>m4 τ x n (fun υ' y' k'=>vo υ y p υ' y' k') k
 | .idx i::p,τ,x,k=>DN τ x i (fun υ' y' k'=>vo υ y p υ' y' k') k
def lX(fz:Bool)(a:bC)(H:Nat→Option bl)(τ:Ty)(k:τ.den→List Nat→iV→Option α):Option α:=
 match a with
 | .val υ x=>c8 υ τ x λy=>k y [] []
 | .JI υ x _=>c8 υ τ x λy=>k y [] []
 | .emp=>match τ,k with
  | .slice _,k=>k [] [] []
  |_,_=>none
 | .ref id=>match H id with
  |some (.own e l)=>c8 (.slice e) τ l λy=>k y [id] (cond fz [(id,some (.oI e l))] [])
  |some (.oI e l)=>c8 (.slice e) τ l λy=>k y [id] []
  |_=>none
 |_=>none
def Mb(a:bC)(k:(τ:Ty)→τ.den→Option α):Option α:=
 match a with
 | .val υ x=>k υ x
 |_=>none
def m6(id:Nat)(p:List Step)(H:Nat→Option bl)(k:Ty→Option α):Option α:=
 match H id with
 |some (.obj τ x)=>zI p τ x fun υ _=>k υ
 |some (.gd τ x _ _)=>zI p τ x fun υ _=>k υ
 |some (.own e l)|some (.oI e l)=>match p with
  | .idx i::p=>zI p e (List.getD l i e.zero) fun υ _=>k υ
  |_=>none
 |_=>none
def av9(a:bC)(H:Nat→Option bl)(k:(τ:Ty)→τ.den→List Nat→Option α):Option α:=
 match a with
 | .val υ x=>k υ x []
 | .ref id=>match H id with
  |some (.own e l)|some (.oI e l)=>k (.slice e) l [id]
  |_=>none
 |_=>none
def vS(a:bC)(k:IntKind→Int→Option α):Option α:=
 match a with
 | .val (.int i) x=>k i x
 |_=>none
end K
inductive AM where
 |v (τ:Ty)
 |own (e:Ty)
 |io (τ:Ty)
 |fn (f:Nat) (τ:Ty)
 |ptr (τ:Ty)
 |jo (τ:Ty)
 |lo (e:Ty)
 deriving DecidableEq
@[reducible] def AM.den:AM→Type
 | .v τ=>τ.den
 | .own e=>List e.den
 | .io τ=>τ.den
 | .fn _ τ=>τ.den
 | .ptr τ=>τ.den
 | .jo τ=>τ.den
 | .lo e=>List e.den
@[reducible] def HP:List AM→Type
 |[]=>Unit
 |[m]=>m.den
 |m::n::ms=>m.den×HP (n::ms)
structure lY where
 args:List AM
 res:List AM
 quiet:Bool
 run:HP args→Option (HP res)
inductive CM where
 |v (τ:Ty)
 |own (e:Ty)
 |obj (τ:Ty)
 |gd (τ:Ty) (q:List Step) (e:Ty)
 |same (s:Nat)
 |io (τ:Ty)
 |fn (f:Nat) (τ:Ty)
structure Env where
 nt:Nat
 ty:Nat→Option Ty
 Γ:Nat→List lY
 N:Nat
 vT:Nat→Option (List (Nat×CM))
 xS:Nat→Option (List (Nat×CM))
 io:List Nat:=[]
 lk:Option (Ty×List Step×Ty×List Nat):=none
def lkT(E:Env)(τ:Ty):Option (List Step×Ty):=match E.lk with
 |some (υ,q,e,_)=>cond (decide (υ=τ)) (cond (gN q τ (.slice e)) (some (q,e)) none) none
 |none=>none
def JJ(E:Env)(τ:Ty)(id:Nat):Option (List Step×Ty):=match E.lk with
 |some (_,_,_,ds)=>cond (ds.any λd=>Nat.beq (id/16) d) (lkT E τ) none
 |none=>none
def cvA:Value→bC
 | .int k n=> .val (.int k) n
 | .bool b=> .val .bool b
 | .string s=> .val .str s
 | .slice none 0 0=> .emp
 |_=> .any
def St.ρ (σ:St):Operand→bC
 | .tmp t=>σ.T t
 | .const v=>cvA v
 | .global _=> .any
 | .func f=> .L9 f []
section
variable{α:Type}
def tZ(op:BinOp)(k:IntKind)(x y:Int)(K:bC→Option α):Option α:=
 match op with
 | .add=>K (.val (.int k) (W k (x+y)))
 | .sub=>K (.val (.int k) (W k (x-y)))
 | .mul=>K (.val (.int k) (W k (x*y)))
 | .quo=>cond (aO y 0) none (K (.val (.int k) (W k (quo x y))))
 | .rem=>cond (aO y 0) none (K (.val (.int k) (rem x y)))
 | .and=>K (.val (.int k) (qL .and k x y))
 | .or=>K (.val (.int k) (qL .or k x y))
 | .xor=>K (.val (.int k) (qL .xor k x y))
 | .andNot=>K (.val (.int k) (qL .andNot k x y))
 | .eql=>K (.val .bool (aO x y))
 | .neq=>K (.val .bool (!aO x y))
 | .lss=>K (.val .bool (aY x y))
 | .leq=>K (.val .bool (dk x y))
 | .gtr=>K (.val .bool (aY y x))
 | .geq=>K (.val .bool (dk y x))
 |_=>none
def Zl(op:BinOp)(k:IntKind)(x y:Int)(K:bC→Option α):Option α:=
 match op with
 | .shl=>cond (aY y 0) none (K (.val (.int k) (W k (shl k x y))))
 | .shr=>cond (aY y 0) none (K (.val (.int k) (shr k x y)))
 |_=>none
def Zm:BinOp→Bool
 | .shl| .shr=>true
 |_=>false
def EH(t:Option Ty)(op:BinOp)(τ:Ty)(x:τ.den)(υ:Ty)(y:υ.den)(K:bC→Option α):Option α:=
 match τ,x,υ,y with
 | .int k,x,.int k',y=>cond (Zm op) (Zl op k x y K) (if k=k' then tZ op k x y K else none)
 |τ,x,υ,y=>match t with
  |none=>none
  |some u=>m5 u τ (cond τ.comparable (match op with
   | .eql=>c8 υ τ y λy=>K (.val .bool (pt τ x y))
   | .neq=>c8 υ τ y λy=>K (.val .bool (!pt τ x y))
   |_=>none) none)
def S5(op:UnOp)(a:bC)(K:bC→Option α):Option α:=
 match op,a with
 | .neg,.val (.int k) n=>K (.val (.int k) (W k (0-n)))
 | .xor,.val (.int k) n=>K (.val (.int k) (qL .xor k (if k.signed then-1 else k.max) n))
 | .not,.val .bool b=>K (.val .bool (!b))
 |_,_=>none
abbrev ja(α:Type):=bC→List Nat→iV→Option α
def Y3(up:Bool):bC→List bC→(bC→Option α)→Option α
 |a,[],K=>K a
 |a,b::r,K=>vS a λk x=>vS b λk' y=>if k=k' then Y3 up (.val (.int k) (cond up (mx x y) (mn x y))) r K else none
def Mc(τ:Ty)(a:bC)(H:Nat→Option bl)(K:ja α):Option α:=
 match τ,a with
 | .slice _,.val (.slice _) l=>K (.val (.int .i64) (List.length l:Int)) [] []
 | .arr n _,.val (.arr _ _) _=>K (.val (.int .i64) (n:Int)) [] []
 | .str,.val .str s=>K (.val (.int .i64) (ByteArray.size s:Int)) [] []
 | .slice _,.emp=>K (.val (.int .i64) (0:Int)) [] []
 | .slice _,.ref id=>match H id with
  |some (.own _ l)|some (.oI _ l)=>K (.val (.int .i64) (l.length:Int)) [id] []
  |_=>none
 |_,_=>none
def qN(H:Nat→Option bl)(id:Nat)(e:bl)(K:Option α):Option α:=
 match H id with
 |none=>K
 |some _=>none
def Md(id:Nat)(e:Ty)(a b:bC)(H:Nat→Option bl)(K:ja α):Option α:=
 lX false b H (.slice e) λys rd _=>
  match a with
  | .emp=>cond (small (List.length ys)) (K (.ref id) (id::rd) [(id,some (.own e ys))]) none
  | .ref j=>match H j with
   |some (.own e' l)=>c8 (.slice e') (.slice e) l λxs=>
    cond (small (List.length xs+List.length ys)) (K (.ref id) (id::j::rd) [(j,some .gone),(id,some (.own e (xs++ys)))]) none
   |_=>none
  |_=>none
def ua(τ:Ty)(H:Nat→Option bl):List (Nat×bC)→τ.den→List Nat→iV→(τ.den→List Nat→iV→Option α)→Option α
 |[],x,rd,ups,K=>K x rd ups
 |p::r,x,rd,ups,K=>xR τ x p.1 fun υ _=>lX true p.2 H υ λy Ba n0=>
  m4 τ x p.1 (fun υ' _ k'=>c8 υ υ' y k') λz=>ua τ H r z (Ba++rd) (ups++n0) K
def vU(e:Ty)(H:Nat→Option bl)(n:Nat):List (Nat×bC)→List e.den→List Nat→iV→(List e.den→List Nat→iV→Option α)→Option α
 |[],l,rd,ups,K=>K l rd ups
 |p::r,l,rd,ups,K=>cond (Nat.blt p.1 n) (lX true p.2 H e λy Ba n0=>vU e H n r (List.set l p.1 y) (Ba++rd) (ups++n0) K) none
def B8(v:bC)(H:Nat→Option bl):(a:Ty)→(a.den→List Nat→iV→Option α)→Option α
 | .pair a .unit,k=>match v with
  | .qM υ x=>c8 υ a x λy=>k (y,()) [] []
  |_=>none
 |a,k=>lX true v H a k
def B9:(a:Ty)→a.den→bC
 | .pair a .unit,x=> .qM a x.1
 |a,x=> .val a x
def qO(H:Nat→Option bl):(τ:Ty)→List bC→(τ.den→List Nat→iV→Option α)→Option α
 | .unit,[],K=>K () [] []
 | .pair a b,v::vs,K=>B8 v H a λx rd ups=>qO H b vs λxs Ba n0=>K (x,xs) (Ba++rd) (ups++n0)
 |_,_,_=>none
def pO:(τ:Ty)→τ.den→List bC
 | .pair a b,x=>B9 a x.1::pO b x.2
 |_,_=>[]
def bY(H:Nat→Option bl)(d:Nat)(v:Option bl):Nat→Option bl:=λi=>cond (Nat.beq i d) v (H i)
def vV(H:Nat→Option bl):List bC→(List bC→List Nat→iV→Option α)→Option α
 |[],K=>K [] [] []
 |a::r,K=>match a with
  | .jo id []=>match H id with
   |some (.obj τ x)=>vV (bY H id (some .gone)) r λcs rd ups=>K (.qM τ x::cs) (id::rd) ((id,some .gone)::ups)
   |_=>none
  |a=>vV H r λcs rd ups=>K (a::cs) rd ups
def nW(m:AM)(a:bC)(H:Nat→Option bl)(k:m.den→(Nat→Option bl)→List Nat→iV→iV→List (Nat×AM)→Option α):Option α:=
 match m,k with
 | .v τ,k=>lX true a H τ λx rd uf=>match uf with
  |[]=>k x H rd [] [] []
  |u::r=>k x (bY H u.1 u.2) rd [] (u::r) []
 | .own e,k=>match a with
  | .emp=>k [] H [] [] [] []
  | .ref id=>match H id with
   |some (.own e' l)=>c8 (.slice e') (.slice e) l λx=>k x (bY H id (some .gone)) [id] [(id,some .gone)] [] []
   |_=>none
  |_=>none
 | .io τ,k=>match a with
  | .jo id []=>match H id with
   |some (.obj υ x)=>c8 υ τ x λy=>k y (bY H id (some .gone)) [id] [] [] [(id,.io τ)]
   |_=>none
  |_=>none
 | .fn f τ,k=>match a with
  | .L9 f' c=>cond (Nat.beq f f') (qO H τ c λx rd uf=>match uf with
   |[]=>k x H rd [] [] []
   |_=>none) none
  |_=>none
 | .ptr _,_=>none
 | .jo τ,k=>match a with
  | .qM υ x=>c8 υ τ x λy=>k y H [] [] [] []
  |_=>none
 | .lo e,k=>match a with
  | .ref id=>match H id with
   |some (.own e' l)=>c8 (.slice e') (.slice e) l λx=>k x (bY H id (some .gone)) [id] [] [] [(id,.lo e)]
   |_=>none
  |_=>none
def tg:(ms:List AM)→List bC→(Nat→Option bl)→List Nat→iV→iV→List (Nat×AM)→(HP ms→List Nat→iV→iV→List (Nat×AM)→Option α)→Option α
 |[],[],_,rd,uo,uf,io,K=>K () rd uo uf io
 |[m],[a],H,rd,uo,uf,io,K=>nW m a H λx _ Ba Lm Ln GV=>K x (Ba++rd) (Lm++uo) (Ln++uf) (io++GV)
 |m::n::ms,a::pX,H,rd,uo,uf,io,K=>nW m a H λx H' Ba Lm Ln GV=>
  tg (n::ms) pX H' (Ba++rd) (Lm++uo) (Ln++uf) (io++GV) λxs rd uo uf io=>K (x,xs) rd uo uf io
 |_,_,_,_,_,_,_,_=>none
def JK(m:AM)(x:m.den)(id:Nat):bC×iV:=
 match m,x with
 | .v τ,x=>(.val τ x,[])
 | .own e,x=>(.ref id,[(id,some (.own e x))])
 | .io τ,x=>(.val τ x,[])
 | .fn _ _,_=>(.any,[])
 | .ptr τ,x=>(.jo id [],[(id,some (.obj τ x))])
 | .jo _,_=>(.any,[])
 | .lo _,_=>(.any,[])
def jQ:(ms:List AM)→HP ms→Nat→List (Nat×AM)→List bC×iV×List (Nat×AM)
 |[],_,_,io=>([],[],io)
 |[m],x,id,io=>match m,x,io with
  | .io τ,x,(j,_)::io=>([],[(j,some (.obj τ x))],io)
  | .lo e,x,(j,_)::io=>([],[(j,some (.own e x))],io)
  |m,x,io=>([(JK m x id).1],(JK m x id).2,io)
 |m::n::ms,x,id,io=>match m,x,io with
  | .io τ,x,(j,_)::io=>let r:=jQ (n::ms) x.2 (id+1) io;(r.1,(j,some (.obj τ x.1))::r.2.1,r.2.2)
  | .lo e,x,(j,_)::io=>let r:=jQ (n::ms) x.2 (id+1) io;(r.1,(j,some (.own e x.1))::r.2.1,r.2.2)
  |m,x,io=>let r:=jQ (n::ms) x.2 (id+1) io;((JK m x.1 id).1::r.1,(JK m x.1 id).2++r.2.1,r.2.2)
def Me:List bC→bC
 |[]=> .any
 |[a]=>a
 |l=> .tup l
def ub(H:Nat→Option bl)(id:Nat):Nat→Bool
 |0=>true
 |n+1=>(match H (id+n)with|none=>true|some _=>false)&&ub H id n
def Mf(id:Nat):Nat→List Nat
 |0=>[]
 |n+1=>(id+n)::Mf id n
def fits:List AM→List bC→Bool
 |[],[]=>true
 | .fn f _::ms,.L9 g _::pX=>Nat.beq f g&&fits ms pX
 | .fn _ _::_,_::_=>false
 |_::ms,_::pX=>fits ms pX
 |_,_=>false
def Mg:List lY→List bC→Option lY
 |[],_=>none
 |S::r,pX=>cond (fits S.args pX) (some S) (Mg r pX)
def Ca(E:Env)(f:Nat)(pX:List bC)(id:Nat)(H:Nat→Option bl)(K:ja α):Option α:=
 match Mg (E.Γ f) pX with
 |none=>none
 |some S=>tg S.args pX H [] [] [] [] λx rd uo uf io=>
  (S.run x).bind λy=>
   let r:=jQ S.res y id io
   cond (ub H id S.res.length) (K (Me r.1) (Mf id S.res.length++(r.2.1.map (·.1)++rd)) (uo++cond S.quiet [] uf++r.2.1)) none
def yB(a:Option bC)(d:Int)(k:Int→Option α):Option α:=
 match a with
 |none=>k d
 |some a=>vS a λ_ x=>k x
def lS:Option Operand→Bool
 |some (.const (.int _ n))=>decide (n=0)
 |_=>false
def qP(t:Ty)(z:Bool)(a:bC)(lo hi mx:Option bC)(H:Nat→Option bl)(K:ja α):Option α:=
 match t,a with
 | .str,.val .str s=>cond mx.isNone (yB lo 0 λl=>yB hi (ByteArray.size s:Int) λh=>
  cond (ka l h (ByteArray.size s:Int) (ByteArray.size s:Int)) (K (.val .str (ByteArray.extract s l.toNat h.toNat)) [] []) none) none
 | .slice _,.emp=>cond z (K .emp [] []) (cond mx.isNone (yB lo 0 λl=>yB hi 0 λh=>cond (ka l h 0 0) (K .emp [] []) none) none)
 | .slice e,a=>lX (!z) a H (.slice e) λx rd ups=>cond z (K .emp rd [])
  (cond (mx.isNone||hi.isSome) (yB lo 0 λl=>yB hi (List.length x:Int) λh=>yB mx (List.length x:Int) λm=>
   cond (ka l h m (List.length x:Int))
    (K (.val (.slice e) (List.drop l.toNat (List.take h.toNat x))) rd ups) none) none)
 |_,_=>none
def gB(τ:Ty)(a i:bC)(H:Nat→Option bl)(K:ja α):Option α:=
 vS i λ_ i=>
 match τ with
 | .slice e=>match a with
  | .val υ l=>c8 υ (.slice e) l λl=>cond (ba i (List.length l)) (K (.qM e (List.getD l i.toNat e.zero)) [] []) none
  | .ref id=>match H id with
   |some (.own e' l)|some (.oI e' l)=>m5 e' e (cond (ba i (List.length l)) (K (.jo id [.idx i.toNat]) [id] []) none)
   |_=>none
  |_=>none
 | .arr n e=>match a with
  | .jo id p=>m6 id p H fun υ=>m5 υ (.arr n e) (cond (ba i n) (K (.jo id (p++[.idx i.toNat])) [id] []) none)
  | .qM υ l=>c8 υ (.arr n e) l λl=>cond (ba i n) (K (.qM e (List.getD l i.toNat e.zero)) [] []) none
  |_=>none
 |_=>none
def vW(τ:Ty)(a i:bC)(K:bC→Option α):Option α:=
 vS i λ_ i=>
 match τ,a with
 | .arr n e,.val υ l=>c8 υ (.arr n e) l λl=>cond (ba i n) (K (.val e (List.getD l i.toNat e.zero))) none
 | .str,.val .str s=>cond (ba i (ByteArray.size s)) (K (.val (.int .u8) ((s.data.getD i.toNat 0).toNat:Int))) none
 |_,_=>none
def kU(a:bC)(H:Nat→Option bl)(K:(υ:Ty)→υ.den→List Nat→Option α):Option α:=
 match a with
 | .qM τ x=>K τ x []
 | .jo id p=>match H id with
  |some (.obj τ x)=>zI p τ x fun υ y=>K υ y [id]
  |some (.own e l)|some (.oI e l)=>match p with
   | .idx i::p=>zI p e (List.getD l i e.zero) fun υ y=>K υ y [id]
   |_=>none
  |_=>none
 |_=>none
def lZ(τ:Ty)(a v:bC)(H:Nat→Option bl)(K:ja α):Option α:=
 match a with
 | .jo id p=>lX true v H τ λy rd ups=>
  match H id with
  |some (.obj υ x)=>vo τ y p υ x λz=>K .any (id::rd) (ups++[(id,some (.obj υ z))])
  |some (.own e l)=>match p with
   | .idx i::p=>cond (rd.contains id) none (vo τ y p e (List.getD l i e.zero) λz=>K .any (id::rd) (ups++[(id,some (.own e (List.set l i z)))]))
   |_=>none
  |_=>none
 |_=>none
def C5(j:Nat)(q:List Step)(τ:Ty)(x:τ.den)(H:Nat→Option bl)(k:τ.den→iV→Option α):Option α:=
 match H j with
 |some (.own e l)=>vo (.slice e) l q τ x λz=>k z [(j,some (.oI e l))]
 |some (.oI e l)=>vo (.slice e) l q τ x λz=>k z []
 |_=>none
def u6(τ:Ty)(a:bC)(H:Nat→Option bl)(K:ja α):Option α:=
 let yC:=kU a H fun υ y rd=>c8 υ τ y λz=>K (.val τ z) rd []
 match a with
 | .jo id p=>match H id with
  |some (.gd υ x q j)=>cond (L8 p q) (cond (gN q υ τ) (K (.ref j) [id] []) none)
   (cond (xQ p q) (C5 j q υ x H λz ups=>zI p υ z fun υ' y=>c8 υ' τ y λy'=>K (.val τ y') [id,j] ups)
    (zI p υ x fun υ' y=>c8 υ' τ y λy'=>K (.val τ y') [id] []))
  |_=>yC
 |_=>yC
def Cb(τ:Ty)(id k:Nat)(e:Ty)(q:List Step)(υ:Ty)(x:υ.den)(H:Nat→Option bl)(K:ja α):Option α:=
 match H k with
 |some (.own e' _)=>m5 e' e (m5 τ (.slice e) (vo (.slice e) [] q υ x λz=>K .any [id,k] [(id,some (.gd υ z q k))]))
 |_=>none
def kb(E:Env)(τ:Ty)(a v:bC)(H:Nat→Option bl)(K:ja α):Option α:=
 let yC:=lZ τ a v H K
 match a with
 | .jo id p=>match H id with
  |some (.obj υ x)=>match JJ E υ id,v with
   |some (q,e),.ref k=>cond (L8 p q) (Cb τ id k e q υ x H K) yC
   |_,_=>yC
  |some (.gd υ x q j)=>
   let put:=lX true v H τ λy rd ups=>vo τ y p υ x λz=>K .any (id::rd) (ups++[(id,some (cond (xQ p q) (.obj υ z) (.gd υ z q j)))])
   match JJ E υ id,v with
   |some (q',e),.ref k=>cond (L8 p q&&L8 q q') (Cb τ id k e q υ x H K) put
   |_,_=>put
  |_=>yC
 |_=>yC
def sP(E:Env)(τ:Ty)(a v:bC)(H:Nat→Option bl)(K:ja α):Option α:=
 match a,v with
 | .jo id [],.JI υ y n=>match JJ E υ id with
  |some ([.kE m],e)=>cond (Nat.beq m n) (m5 τ υ (m6 id [] H fun υ'=>m5 υ' υ
   (qN H (id+2) (.own e []) (K .any [id,id+2] [(id,some (.gd υ y [.kE m] (id+2))),(id+2,some (.own e []))])))) (kb E τ a v H K)
  |_=>kb E τ a v H K
 |_,_=>kb E τ a v H K
def C6(H:Nat→Option bl)(id:Nat)(τ:Ty)(x:τ.den)(q:List Step)(e:Ty)(K:ja α):Option α:=
 qN H id (.obj τ x) (qN H (id+1) (.own e []) (K (.jo id []) [id,id+1] [(id,some (.gd τ x q (id+1))),(id+1,some (.own e []))]))
def Zn(E:Env)(ps:List (Nat×bC))(τ:Ty)(x:τ.den):bC:=match lkT E τ with
 |some ([.kE n],_)=>cond (ps.all λp=> !(Nat.beq p.1 n)) (.JI τ x n) (.val τ x)
 |_=> .val τ x
def partsOf(σρ:Operand→bC)(ps:Array (Nat×Operand)):List (Nat×bC):=ps.toList.map λp=>(p.1,σρ p.2)
def sY(E:Env)(o:Oper)(ρ:Operand→bC)(H:Nat→Option bl)(K:ja α):Option α:=
 let id:=16*o.dst.getD 0
 match o.op with
 | .move x| .assign x=>K (ρ x) [] []
 | .pick c a b=>match ρ c with
  | .val .bool t=>cond t (K (ρ a) [] []) (K (ρ b) [] [])
  |_=>none
 | .alloc t=>match E.ty t with
  |some τ=>match JJ E τ id with
   |some (q,e)=>C6 H id τ τ.zero q e K
   |none=>qN H id (.obj τ τ.zero) (K (.jo id []) [id] [(id,some (.obj τ τ.zero))])
  |none=>none
 | .box t x=>match E.ty t with
  |some τ=>
   let yC:=lX true (ρ x) H τ λy rd ups=>qN H id (.obj τ y) (K (.jo id []) (id::rd) (ups++[(id,some (.obj τ y))]))
   match JJ E τ id,ρ x with
   |some ([.kE m],e),.JI υ y n=>cond (Nat.beq m n) (c8 υ τ y λy=>C6 H id τ y [.kE m] e K) yC
   |_,_=>yC
  |none=>none
 | .build t ps=>match E.ty t with
  |some (.arr n e)=>vU e H n (partsOf ρ ps) (List.replicate n e.zero) [] [] λl rd ups=>K (.val (.arr n e) l) rd ups
  |some τ=>cond τ.isAgg (ua τ H (partsOf ρ ps) τ.zero [] [] λx rd ups=>K (Zn E (partsOf ρ ps) τ x) rd ups) none
  |none=>none
 | .buildSlice t n ps=>match E.ty t with
  |some (.slice e)=>cond (Nat.ble (n*(e.size+1)) 16777216) (qN H id (.own e []) (vU e H n (partsOf ρ ps) (List.replicate n e.zero) [] [] λl rd ups=>K (.ref id) (id::rd) (ups++[(id,some (.own e l))]))) none
  |_=>none
 | .load t a=>match E.ty t with
  |some τ=>u6 τ (ρ a) H K
  |none=>none
 | .store t a v=>match E.ty t with
  |some τ=>sP E τ (ρ a) (ρ v) H K
  |none=>none
 | .nilCheck x=>match ρ x with
  | .jo id p=>K (.jo id p) [] []
  | .qM τ x=>K (.qM τ x) [] []
  |_=>none
 | .binOp op t x y _=>Mb (ρ x) fun τ x=>Mb (ρ y) fun υ y=>EH (E.ty t) op τ x υ y λv=>K v [] []
 | .unOp op _ x=>S5 op (ρ x) λv=>K v [] []
 | .convert src dst x=>match E.ty src,E.ty dst with
  |some _,some (.int k)=>vS (ρ x) λ_ n=>K (.val (.int k) (W k n)) [] []
  |_,_=>none
 | .makeFunc (.func f) first caps=>cond first.isEmpty (vV H (caps.toList.map ρ) λcs rd ups=>K (.L9 f cs) rd ups) none
 | .makeSlice t l c=>match E.ty t with
  |some (.slice e)=>vS (ρ l) λ_ l=>vS (ρ c) λ_ c=>cond (jZ l c)
    (qN H id (.own e []) (K (.ref id) [id] [(id,some (.own e (List.replicate l.toNat e.zero)))])) none
  |_=>none
 | .slice t x lo hi mx=>match E.ty t with
  |some τ=>qP τ (lo.isNone&&lS hi&&lS mx) (ρ x) (lo.map ρ) (hi.map ρ) (mx.map ρ) H K
  |none=>none
 | .fieldAddr t x n=>match E.ty t with
  |some τ=>match ρ x with
   | .jo id p=>m6 id p H fun υ=>m5 υ τ (xR τ τ.zero n fun υ' _=>cond (Nat.beq υ'.size 0) none (K (.jo id (p++[.kE n])) [id] []))
   | .qM υ x=>m5 υ τ (xR υ x n fun υ y=>cond (Nat.beq υ.size 0) none (K (.qM υ y) [] []))
   |_=>none
  |none=>none
 | .field t x n=>match E.ty t with
  |some τ=>match ρ x with
   | .val υ x=>m5 υ τ (xR υ x n fun υ y=>K (.val υ y) [] [])
   |_=>none
  |none=>none
 | .indexAddr t x i=>match E.ty t with
  |some τ=>gB τ (ρ x) (ρ i) H K
  |none=>none
 | .index t x i=>match E.ty t with
  |some τ=>vW τ (ρ x) (ρ i) λv=>K v [] []
  |none=>none
 | .extract t i=>match ρ t with
  | .tup vs=>match vs[i]? with
   |some v=>K v [] []
   |none=>none
  |_=>none
 | .call c=>match c.callee with
  | .builtin .len=>match c.args.toList,(c.argTypes.toList.head?).bind E.ty with
   |[x],some τ=>Mc τ (ρ x) H K
   |_,_=>none
  | .builtin .append=>match c.args.toList,c.argTypes.toList with
   |[x,y],[t,t']=>match E.ty t with
    |some (.slice e)=>cond (Nat.beq t t') (qN H id (.own e []) (Md id e (ρ x) (ρ y) H K)) none
    |_=>none
   |_,_=>none
  | .builtin .max=>match c.args.toList with
   |x::r=>Y3 true (ρ x) (r.map ρ) λv=>K v [] []
   |_=>none
  | .builtin .min=>match c.args.toList with
   |x::r=>Y3 false (ρ x) (r.map ρ) λv=>K v [] []
   |_=>none
  | .value g=>match ρ g with
   | .L9 f caps=>Ca E f (c.args.toList.map ρ++caps) id H K
   |_=>none
  |_=>none
 |_=>none
def th(E:Env)(ops:List Oper)(o:Oper)(σ:St)(K:St→List Nat→List Nat→Option α):Option α:=
 let run (σ:St):Option α:=sY E o σ.ρ σ.H λv rd ups=>K ((σ.vR ups).vn o.dst v) rd (ups.map (·.1))
 cond (Ma E.nt E.io o.dst) (match o.guard with
 |none=>run σ
 |some (j,want)=>match(ops[j]?).bind (·.dst)with
  |none=>none
  |some t=>match σ.T t with
   | .val .bool b=>match want with
    |true=>cond b (run (σ.put t (.val .bool true))) (K ((σ.put t (.val .bool false)).vn o.dst .Vu) [] [])
    |false=>cond b (K ((σ.put t (.val .bool true)).vn o.dst .Vu) [] []) (run (σ.put t (.val .bool false)))
   | .Vu=>K (σ.vn o.dst .Vu) [] []
   |_=>none) none
abbrev Log:=List (Nat×List Nat×List Nat)
def S6(E:Env)(ops:List Oper):List Oper→Nat→St→Log→(St→Log→Option α)→Option α
 |[],_,σ,lg,K=>K σ lg
 |o::r,i,σ,lg,K=>th E ops o σ fun σ' rd wr=>S6 E ops r (i+1) σ' ((i,rd,wr)::lg) K
def sQ:List Oper→List Nat→List Nat
 |[],acc=>acc
 |o::r,acc=>sQ r (acc++[o.after.toList.foldl (λs e=>cond (Region.binds .any e) (s|||2^e.on|||acc.getD e.on 0) s) 0])
def names(ops:List Oper)(o:Oper):List Nat:=
 (o.op.operands.toList.filterMap fun| .tmp t=>some t|_=>none)++
 (match o.guard with
  |some (g,_)=>((ops[g]?).bind (·.dst)).toList
  |none=>[])
def meets(a b:List Nat):Bool:=a.any λx=>b.any λy=>Nat.beq x y
def Vv(ops:List Oper):Bool:=
 let b:=sQ ops []
 (ops.zipIdx.all λ(o,j)=>o.after.toList.all λe=> !(Region.binds .any e)||Nat.blt e.on j)&&
 ops.zipIdx.all λ(o,j)=>ops.zipIdx.all λ(p,i)=>Nat.ble j i||(b.getD j 0).testBit i||
  !(meets p.dst.toList (o.dst.toList++names ops o)||meets o.dst.toList (names ops p))
def afT(ops:List Oper)(lg:Log):Bool:=
 let b:=sQ ops []
 lg.all λx=>lg.all λy=>Nat.ble x.1 y.1||(b.getD x.1 0).testBit y.1||
  !(meets y.2.2 (x.2.1++x.2.2)||meets y.2.1 x.2.2)
def DO(E:Env)(ops:Array Oper)(draw:Bool)(σ:St)(K:St→Option α):Option α:=
 S6 E ops.toList ops.toList 0 σ [] fun σ' lg=>cond (!draw||(Vv ops.toList&&afT ops.toList lg)) (K σ') none
def g8:List (Nat×CM)→St→St→(St→Option α)→Option α
 |[],_,acc,K=>K acc
 |(s,.v τ)::r,σ,acc,K=>lX true (σ.T s) σ.H τ λx _ ups=>g8 r (σ.vR ups) (acc.put s (.val τ x)) K
 |(s,.own e)::r,σ,acc,K=>match σ.T s with
  | .emp=>g8 r σ ((acc.put s (.ref (16*s+14))).jP (16*s+14) (some (.own e []))) K
  | .ref id=>match σ.H id with
   |some (.own e' l)=>c8 (.slice e') (.slice e) l λx=>g8 r (σ.jP id (some .gone)) ((acc.put s (.ref (16*s+14))).jP (16*s+14) (some (.own e x))) K
   |_=>none
  |_=>none
 |(s,.obj τ)::r,σ,acc,K=>match σ.T s with
  | .jo id []=>match σ.H id with
   |some (.obj υ x)=>c8 υ τ x λy=>g8 r (σ.jP id (some .gone)) ((acc.put s (.jo (16*s+14) [])).jP (16*s+14) (some (.obj τ y))) K
   |some (.gd υ x q j)=>C5 j q υ x σ.H λz ups=>c8 υ τ z λy=>g8 r ((σ.vR ups).jP id (some .gone)) ((acc.put s (.jo (16*s+14) [])).jP (16*s+14) (some (.obj τ y))) K
   |_=>none
  |_=>none
 |(s,.gd τ q e)::r,σ,acc,K=>match σ.T s with
  | .jo id []=>match σ.H id with
   |some (.gd υ x q' j)=>cond (L8 q q') (match σ.H j with
    |some (.own e' l)=>c8 υ τ x λy=>c8 (.slice e') (.slice e) l λl=>g8 r ((σ.jP j (some .gone)).jP id (some .gone))
     (((acc.put s (.jo (16*s+14) [])).jP (16*s+13) (some (.own e l))).jP (16*s+14) (some (.gd τ y q (16*s+13)))) K
    |_=>none) none
   |_=>none
  |_=>none
 |(s,.same s')::r,σ,acc,K=>match σ.T s,σ.T s',acc.T s' with
  | .ref i,.ref j,.ref j'=>cond (Nat.beq i j) (g8 r σ (acc.put s (.ref j')) K) none
  |_,_,_=>none
 |(s,.io τ)::r,σ,acc,K=>match σ.T s with
  | .jo id []=>cond (Nat.beq id (16*s+15)) (match σ.H id with
   |some (.obj υ x)=>c8 υ τ x λy=>g8 r (σ.jP id (some .gone)) ((acc.put s (.jo (16*s+15) [])).jP (16*s+15) (some (.obj τ y))) K
   |_=>none) none
  |_=>none
 |(s,.fn f τ)::r,σ,acc,K=>match σ.T s with
  | .L9 f' c=>cond (Nat.beq f f') (qO σ.H τ c λx _ ups=>match ups with
   |[]=>g8 r σ (acc.put s (.L9 f (pO τ x))) K
   |_=>none) none
  |_=>none
def kd:List (Nat×CM)→Bool
 |[]=>true
 |q::r=>r.all (λp=> !(Nat.beq p.1 q.1))&&kd r
def vX(L:Option (List (Nat×CM)))(σ:St)(K:St→Option α):Option α:=
 match L with
 |none=>K σ
 |some L=>g8 L σ ⟨λ_=> .any,λ_=>none⟩ K
def Cc(L:Option (List (Nat×CM)))(step:St→(St→Option α)→Option α):Nat→St→Option α
 |0,_=>none
 |n+1,σ=>step σ fun σ'=>vX L σ' (Cc L step n)
def cL:Code→Option Nat
 | .region id _ _=>some id
 | .seq a b=>match cL a with
  |some i=>some i
  |none=>cL b
 | .block _ c| .loop c| .scope c=>cL c
 |_=>none
def HY(E:Env)(c:Operand)(σ:St)(A B:St→Option α):Option α:=
 match σ.ρ c with
 | .val .bool b=>match c with
  | .tmp t=>cond b (A (σ.put t (.val .bool true))) (B (σ.put t (.val .bool false)))
  |_=>cond b (A σ) (B σ)
 |_=>none
def DP(E:Env)(c:Code):St→(St→Option α)→(Nat→St→Option α)→(St→Option α)→Option α:=
 Code.rec (motive:=λ_=>St→(St→Option α)→(Nat→St→Option α)→(St→Option α)→Option α)
  (fun σ k _ _=>k σ)
  (λ_ ops draw σ k _ _=>DO E ops draw σ k)
  (λ_ b A B σ k kx kr=>A σ (fun σ'=>vX ((cL b).bind E.xS) σ' λvp=>B vp k kx kr) kx kr)
  (λc _ _ A B σ k kx kr=>HY E c σ (fun σ'=>A σ' k kx kr) (fun σ'=>B σ' k kx kr))
  (λid _ A σ k kx kr=>A σ k (λi σ'=>cond (Nat.beq i id) (k σ') (kx i σ')) kr)
  (λb A σ _ kx kr=>vX ((cL b).bind E.vT) σ (Cc ((cL b).bind E.vT) (fun σ' kn=>A σ' kn kx kr) E.N))
  (λ_ _ _ _ _ _ _ _ _ _=>none)
  (λid σ _ kx _=>kx id σ)
  (λ_ A σ k kx kr=>A σ k kx kr)
  (λ_ σ k _ _=>k σ)
  (λ_ _ _ _ _=>none)
  (fun σ _ _ kr=>kr σ)
  (λ_ _ _ _ _=>none)
  c
def vq(E:Env):List Nat→Code→List (St→Option α)→St→(St→Option α)→(Nat→St→Option α)→(St→Option α)→Option α
 |[],c,_,σ,k,kx,kr=>DP E c σ k kx kr
 |n::p,c,ks,σ,k,kx,kr=>match c with
  | .seq a b=>match n with
   |0=>vq E p a ks σ (fun σ'=>vX ((cL b).bind E.xS) σ' λvp=>DP E b vp k kx kr) kx kr
   |_=>vq E p b ks σ k kx kr
  | .cond _ a b=>match n with
   |0=>vq E p a ks σ k kx kr
   |_=>vq E p b ks σ k kx kr
  | .block id c=>vq E p c ks σ k (λi σ'=>cond (Nat.beq i id) (k σ') (kx i σ')) kr
  | .loop b=>match ks with
   |κ::ks=>vq E p b ks σ κ kx kr
   |[]=>none
  | .scope c=>vq E p c ks σ k kx kr
  |_=>none
def P0(m:AM)(x:m.den)(i:Nat)(σ:St):St:=
 match m,x with
 | .v τ,x=>σ.put i (.val τ x)
 | .own e,x=>(σ.put i (.ref (16*i+15))).jP (16*i+15) (some (.own e x))
 | .io τ,x=>(σ.put i (.jo (16*i+15) [])).jP (16*i+15) (some (.obj τ x))
 | .fn f τ,x=>σ.put i (.L9 f (pO τ x))
 | .ptr _,_=>σ
 | .jo τ,x=>σ.put i (.qM τ x)
 | .lo e,x=>(σ.put i (.ref (16*i+15))).jP (16*i+15) (some (.own e x))
def entry:(ms:List AM)→HP ms→Nat→St→St
 |[],_,_,σ=>σ
 |[m],x,i,σ=>P0 m x i σ
 |m::n::ms,x,i,σ=>entry (n::ms) x.2 (i+1) (P0 m x.1 i σ)
def HZ(E:Env)(m:AM)(r:ResultVar ⊕ Nat)(σ:St)(K:m.den→St→Option α):Option α:=
 match m,r,K with
 | .v τ,.inl (.tmp t),K=>lX true (σ.T t) σ.H τ λx _ ups=>K x (σ.vR ups)
 | .v τ,.inl (.cell a t),K=>match E.ty t with
  |some τ'=>m5 τ' τ (kU (σ.T a) σ.H fun υ y _=>c8 υ τ y λx=>K x σ)
  |none=>none
 | .own e,.inl (.tmp t),K=>match σ.T t with
  | .emp=>K [] σ
  | .ref id=>match σ.H id with
   |some (.own e' l)=>c8 (.slice e') (.slice e) l λx=>K x (σ.jP id (some .gone))
   |_=>none
  |_=>none
 | .io τ,.inr i,K=>match σ.T i with
  | .jo id []=>match σ.H id with
   |some (.obj υ x)=>c8 υ τ x λy=>K y (σ.jP id (some .gone))
   |_=>none
  |_=>none
 | .lo e,.inr i,K=>match σ.T i with
  | .ref id=>match σ.H id with
   |some (.own e' l)=>c8 (.slice e') (.slice e) l λx=>K x (σ.jP id (some .gone))
   |_=>none
  |_=>none
 | .ptr τ,.inl (.tmp t),K=>match σ.T t with
  | .jo id []=>match σ.H id with
   |some (.obj υ x)=>c8 υ τ x λy=>K y (σ.jP id (some .gone))
   |_=>none
  |_=>none
 |_,_,_=>none
def JL(E:Env):(ms:List AM)→List (ResultVar ⊕ Nat)→St→(HP ms→Option α)→Option α
 |[],[],_,K=>K ()
 |[m],[r],σ,K=>HZ E m r σ λx _=>K x
 |m::n::ms,r::rs,σ,K=>HZ E m r σ λx σ'=>JL E (n::ms) rs σ' λxs=>K (x,xs)
 |_,_,_,_=>none
def yD:List AM→Nat→List (ResultVar ⊕ Nat)
 |[],_=>[]
 | .io _::ms,i=> .inr i::yD ms (i+1)
 | .lo _::ms,i=> .inr i::yD ms (i+1)
 |_::ms,i=>yD ms (i+1)
def PK(E:Env)(fn:Func)(args res:List AM)(x:HP args):Option (HP res):=
 match fn.body with
 |none=>none
 |some c=>
  let kr:St→Option (HP res):=fun σ=>JL E res (fn.results.toList.map .inl++yD args 0) σ some
  DP E c (entry args x 0 ⟨λ_=> .any,λ_=>none⟩) kr (λ_ _=>none) kr
end
end VM
end
section
namespace VM
open Go
def yl(N:Nat)(x y c:Int):Option (Int×Int):=if 0≤x∧0≤y∧0≤c∧c≤1 then some ((x+y+c)%18446744073709551616,(x+y+c)/18446744073709551616)else none
def u7(N:Nat)(x y c:Int):Option (Int×Int):=if 0≤x∧x<18446744073709551616∧0≤y∧y<18446744073709551616∧0≤c∧c≤1 then some ((x+18446744073709551616-y-c)%18446744073709551616,if x<y+c then 1 else 0)else none
def pY{α:Type}(N:Nat)(l:List α)(i:Int)(v:List α):Option (List α):=if 0≤i∧i≤l.length∧v.length=1∧l.length+1<zG then some (l.take i.toNat++(v++l.drop i.toNat))else none
def Zo{α:Type}(N:Nat)(l:List α)(n:Int):Option (List α):=match l with
 |[x]=>if 0<n∧n<1048576 then some (List.replicate n.toNat x)else none
 |_=>none
def yl.S(N:Nat):lY:={args:=[.v (.int .u64),.v (.int .u64),.v (.int .u64)],res:=[.v (.int .u64),.v (.int .u64)],quiet:=true,run:=λx=>yl N x.1 x.2.1 x.2.2}
def u7.S(N:Nat):lY:={args:=[.v (.int .u64),.v (.int .u64),.v (.int .u64)],res:=[.v (.int .u64),.v (.int .u64)],quiet:=true,run:=λx=>u7 N x.1 x.2.1 x.2.2}
def lT(e:Ty)(N:Nat):lY:={args:=[.own e,.v (.int .i64),.own e],res:=[.own e],quiet:=false,run:=λx=>pY N x.1 x.2.1 x.2.2}
def aqe(e:Ty)(N:Nat):lY:={args:=[.v (.slice e),.v (.int .i64)],res:=[.own e],quiet:=false,run:=λx=>Zo N x.1 x.2}
def n6{α:Type}(N:Nat)(l:List α):Option (List α):=if l.length<zG then some l else none
def vY(e:Ty)(N:Nat):lY:={args:=[.v (.slice e)],res:=[.own e],quiet:=false,run:=λx=>n6 N x}
end VM
namespace VM
abbrev cA:Int×Int×Unit:=((0:Int),((0:Int),()))
abbrev ck:List (Int×Int×Unit):=[]
abbrev bh:Int×Int×Int×Unit:=((0:Int),((0:Int),((0:Int),())))
abbrev bH:List (Int×Int×Int×Unit):=[]
abbrev aV:Int×Int×Int×Int×Unit:=((0:Int),((0:Int),((0:Int),((0:Int),()))))
abbrev c9:List (Int×Int×Int×Int×Unit):=[]
abbrev mK:Int×Int×Int×Int×Int×Unit:=((0:Int),((0:Int),((0:Int),((0:Int),((0:Int),())))))
abbrev C8:List (Int×Int×Int×Int×Int×Unit):=[]
abbrev fa:Int×Int×Int×Int×Int×Int×Unit:=((0:Int),((0:Int),((0:Int),((0:Int),((0:Int),((0:Int),()))))))
abbrev dT:List (Int×Int×Int×Int×Int×Int×Unit):=[]
abbrev Lo:Int×Int×Int×Int×Int×Int×Int×Unit:=((0:Int),((0:Int),((0:Int),((0:Int),((0:Int),((0:Int),((0:Int),())))))))
abbrev ee7:List (Int×Int×Int×Int×Int×Int×Int×Unit):=[]
abbrev zz8:Int×Int×Int×Int×Int×Int×Int×Int×Unit:=((0:Int),((0:Int),((0:Int),((0:Int),((0:Int),((0:Int),((0:Int),((0:Int),()))))))))
abbrev ee8:List (Int×Int×Int×Int×Int×Int×Int×Int×Unit):=[]
abbrev dC:List Int:=[]
abbrev pv:List Int×Unit:=(dC,())
end VM
end
section
namespace VM
open Go
def At(w:World)(b off:Nat)(cs:List Value):Prop:= ∀j v,cs[j]? =some v→w.cell? ⟨b,off+j,none⟩=some v
def Rd(w:World)(M:Nat→Prop):(τ:Ty)→List Value→τ.den→Prop
 | .int k,cs,x=>cs=[.int k x]
 | .bool,cs,x=>cs=[.bool x]
 | .str,cs,x=>cs=[.string x]
 | .slice e,cs,x=> ∃a cap,cs=[.slice a (List.length x) cap]∧List.length x≤cap∧
  ∀i (h:i<List.length x),∃b off,a=some ⟨b,off,none⟩∧b<w.heap.size∧ ¬M b∧ ∃cs',At w b (off+i*e.size) cs'∧Rd w M e cs' (List.get x ⟨i,h⟩)
 | .unit,cs,_=>cs=[]
 | .pair a b,cs,x=> ∃c1 c2,cs=c1++c2∧Rd w M a c1 x.1∧Rd w M b c2 x.2
 | .arr n e,cs,x=>List.length x=n∧ ∃S7:List (List Value),S7.length=n∧cs=S7.flatten∧
  ∀i (h:i<List.length x) (h':i<S7.length),Rd w M e S7[i] (List.get x ⟨i,h⟩)
theorem oX{α:Type}(n:Nat): ∀(l:List (List α)),(∀i (h:i<l.length),l[i].length=n)→l.flatten.length=l.length*n
 |[],_=>by simp
 |a::l,h=>by
  have h0:=h 0 (by simp)
  have ih:=oX n l (λi hi=>h (i+1) (by simp;omega))
  simp only[Ej]at h0
  simp only[zs,aS,aR,ih,h0,eu]
  omega
theorem Rd.length{w:World}{M:Nat→Prop}: ∀{τ:Ty} {cs:List Value} {x:τ.den},Rd w M τ cs x→cs.length=τ.size
 | .int _,_,_,h=>by simp only[Rd]at h;subst h;rfl
 | .bool,_,_,h=>by simp only[Rd]at h;subst h;rfl
 | .str,_,_,h=>by simp only[Rd]at h;subst h;rfl
 | .slice _,_,_,h=>by simp only[Rd]at h;obtain⟨a,cap,rfl,_⟩:=h;rfl
 | .unit,_,_,h=>by simp only[Rd]at h;subst h;rfl
 | .pair a b,_,_,h=>by
  simp only[Rd]at h
  obtain⟨c1,c2,rfl,h1,h2⟩:=h
  rw[aS,h1.length,h2.length];rfl
 | .arr n e,_,x,h=>by
  simp only[Rd]at h
  obtain⟨hn,S7,hc,rfl,hr⟩:=h
  rw[oX e.size S7 (λi hi=>(hr i ω hi).length),hc];rfl
structure e8(w:World)(M:Nat→Prop)(w':World)(M':Nat→Prop):Prop where
 size:w.heap.size≤w'.heap.size
 block: ∀b,b<w.heap.size→ ¬M b→w'.heap[b]? =w.heap[b]?
 less: ∀b,b<w.heap.size→M' b→M b
theorem ag1{w:World}{b o:Nat}{v:Value}(h:w.cell? ⟨b,o,none⟩=some v):b<w.heap.size:=by
 simp only[World.cell?]at h
 rcases oW b w.heap.size with hb|hb
 ·exact hb
 ·simp[LV hb]at h
theorem At.ca{w w':World}{b off:Nat}{cs:List Value}(h:At w b off cs)(hb:w'.heap[b]? =w.heap[b]?):At w' b off cs:=by
 intro j v hj
 have:=h j v hj
 rw[World.cell?_of_block (w:=w) hb]
 exact this
theorem At.append{w:World}{b off:Nat}{c1 c2:List Value}:At w b off (c1++c2)↔At w b off c1∧At w b (off+c1.length) c2:=by
 constructor
 ·intro h
  refine⟨λj v hj=>h j v (by rw[se];exact hj;exact(tU.1 hj).1),λj v hj=> ?_⟩
  have:=h (c1.length+j) v (by rw[oG ω];simpa using hj)
  rw[oV];exact this
 ·rintro⟨h1,h2⟩ j v hj
  by_cases e9:j<c1.length
  ·rw[se e9]at hj;exact h1 j v hj
  ·rw[oG ω]at hj
   have:=h2 (j-c1.length) v hj
   rwa [show off+c1.length+(j-c1.length)=off+j from by omega]at this
theorem Rd.ca{w w':World}{M M':Nat→Prop}(k:e8 w M w' M'): ∀{τ:Ty} {cs:List Value} {x:τ.den},Rd w M τ cs x→Rd w' M' τ cs x
 | .int _,_,_,h=>h
 | .bool,_,_,h=>h
 | .str,_,_,h=>h
 | .slice e,_,x,h=>by
  simp only[Rd]at h ⊢
  obtain⟨a,cap,rfl,hc,hr⟩:=h
  refine⟨a,cap,rfl,hc,λi hi=> ?_⟩
  obtain⟨b,off,ha,hb,hm,cs',pZ,kV⟩:=hr i hi
  exact⟨b,off,ha,mW hb k.size,λh'=>hm (k.less b hb h'),_,pZ.ca (k.block b hb hm),kV.ca k⟩
 | .unit,_,_,h=>h
 | .pair a b,_,_,h=>by
  simp only[Rd]at h ⊢
  obtain⟨c1,c2,rfl,h1,h2⟩:=h
  exact⟨c1,c2,rfl,h1.ca k,h2.ca k⟩
 | .arr n e,_,x,h=>by
  simp only[Rd]at h ⊢
  obtain⟨hn,S7,hc,rfl,hr⟩:=h
  exact⟨hn,S7,hc,rfl,λi hi m7=>(hr i hi m7).ca k⟩
theorem e8.refl(w:World)(M:Nat→Prop):e8 w M w M:=⟨aG _,λ_ _ _=>rfl,λ_ _ h=>h⟩
theorem e8.trans{w w' w'':World}{M M' PL:Nat→Prop}(h:e8 w M w' M')(k:e8 w' M' w'' PL):e8 w M w'' PL:=
 ⟨cm h.size k.size,λb hb hm=>(k.block b (mW hb h.size) (λh'=>hm (h.less b hb h'))).trans (h.block b hb hm),
  λb hb hm=>h.less b hb (k.less b (mW hb h.size) hm)⟩
def V(w:World)(M:Nat→Prop)(τ:Ty)(v:Value)(x:τ.den):Prop:=
 if τ.isAgg then ∃cs,v= .agg cs∧Rd w M τ cs.toList x else Rd w M τ [v] x
theorem V.ca{w w':World}{M M':Nat→Prop}(k:e8 w M w' M'){τ:Ty}{v:Value}{x:τ.den}(h:V w M τ v x):V w' M' τ v x:=by
 unfold V at*
 split
 ·rename_i ha;rw[aj ha]at h;obtain⟨cs,rfl,h⟩:=h;exact⟨cs,rfl,h.ca k⟩
 ·rename_i ha;rw[ah ha]at h;exact h.ca k
theorem Rd.scalar{w:World}{M:Nat→Prop}{τ:Ty}{cs:List Value}{x:τ.den}(ha:τ.isAgg=false)(h:Rd w M τ cs x): ∃v,cs=[v]∧v.cells= #[v]:=by
 cases τ<;>simp only[Ty.isAgg,Bool.true_eq_false]at ha<;>simp only[Rd]at h
 ·exact⟨_,h,rfl⟩
 ·exact⟨_,h,rfl⟩
 ·exact⟨_,h,rfl⟩
 ·obtain⟨a,cap,rfl,_⟩:=h;exact⟨_,rfl,rfl⟩
theorem V.cells{w:World}{M:Nat→Prop}{τ:Ty}{v:Value}{x:τ.den}(h:V w M τ v x):Rd w M τ v.cells.toList x:=by
 unfold V at h
 by_cases ha:τ.isAgg=true
 ·rw[aj ha]at h;obtain⟨cs,rfl,h⟩:=h;exact h
 ·rw[ah ha]at h
  obtain⟨v',hv,hc⟩:=h.scalar (by simpa using ha)
  simp only[fh,eS]at hv
  subst hv
  rw[hc];exact h
def cK(τ:Ty)(cs:List Value):Value:=if τ.isAgg then .agg cs.toArray else cs.headD (.tuple #[])
theorem V.cK{w:World}{M:Nat→Prop}{τ:Ty}{cs:List Value}{x:τ.den}(h:Rd w M τ cs x):V w M τ (cK τ cs) x:=by
 unfold V VM.cK
 by_cases ha:τ.isAgg=true
 ·rw[aj ha,aj ha];exact⟨_,rfl,by simpa using h⟩
 ·rw[ah ha,ah ha]
  obtain⟨v',rfl,_⟩:=h.scalar (by simpa using ha)
  exact h
theorem Hc{w:World}{M:Nat→Prop}{τ:Ty}{cs:List Value}{x:τ.den}(h:Rd w M τ cs x):(cK τ cs).cells.toList=cs:=by
 unfold VM.cK
 by_cases ha:τ.isAgg=true
 ·rw[aj ha];simp[Value.cells]
 ·rw[ah ha]
  obtain⟨v',rfl,hc⟩:=h.scalar (by simpa using ha)
  simp[hc]
theorem Rd.oJ{w:World}{M:Nat→Prop}: ∀{τ:Ty} {cs:List Value} {x:τ.den},Rd w M τ cs x→ ∀v∈cs,v.oneCell'=true
 | .int _,_,_,h=>by simp only[Rd]at h;subst h;simp[Value.oneCell']
 | .bool,_,_,h=>by simp only[Rd]at h;subst h;simp[Value.oneCell']
 | .str,_,_,h=>by simp only[Rd]at h;subst h;simp[Value.oneCell']
 | .slice _,_,_,h=>by simp only[Rd]at h;obtain⟨a,cap,rfl,_⟩:=h;simp[Value.oneCell']
 | .unit,_,_,h=>by simp only[Rd]at h;subst h;simp
 | .pair a b,_,_,h=>by
  simp only[Rd]at h
  obtain⟨c1,c2,rfl,h1,h2⟩:=h
  intro v hv
  rcases bb.1 hv with hv|hv
  ·exact h1.oJ v hv
  ·exact h2.oJ v hv
 | .arr n e,_,x,h=>by
  simp only[Rd]at h
  obtain⟨hn,S7,hc,rfl,hr⟩:=h
  intro v hv
  obtain⟨l,hl,hvl⟩:=List.mem_flatten.1 hv
  obtain⟨i,hi,rfl⟩:=qy.1 hl
  exact(hr i ω hi).oJ v hvl
def Ty.dj:Ty→List Value
 | .int k=>[.int k 0]
 | .bool=>[.bool false]
 | .str=>[.string ByteArray.empty]
 | .slice _=>[.slice none 0 0]
 | .unit=>[]
 | .pair a b=>a.dj++b.dj
 | .arr n e=>(List.replicate n e.dj).flatten
theorem Rd.zero(w:World)(M:Nat→Prop): ∀(τ:Ty),Rd w M τ τ.dj τ.zero
 | .int _| .bool| .str| .unit=>by simp[Rd,Ty.dj,Ty.zero]
 | .slice _=>by
  simp only[Rd,Ty.dj,Ty.zero]
  exact⟨none,0,rfl,aG _,λi h=>absurd h (by simp)⟩
 | .pair a b=>by
  simp only[Rd,Ty.dj,Ty.zero]
  exact⟨_,_,rfl,Rd.zero w M a,Rd.zero w M b⟩
 | .arr n e=>by
  simp only[Rd,Ty.dj,Ty.zero]
  refine⟨by simp,_,by simp,rfl,λi h h'=> ?_⟩
  simp only[LW,Em]
  exact Rd.zero w M e
end VM
end
section
namespace VM
open Go
def JM(P:Program)(τ:Ty)(t:TypeId):Prop:=
 ∃i,P.info? t=some i∧i.size=τ.size∧i.zero=some (cK τ τ.dj)∧i.bytes≤2048
def fR(P:Program):Ty→TypeId ⊕ (Array Field×Nat×Nat)→Prop
 | .int k,.inl t=>JM P (.int k) t∧P.underlying t=some (.int k)
 | .bool,.inl t=>JM P .bool t∧P.underlying t=some .bool
 | .str,.inl t=>JM P .str t∧P.underlying t=some .string
 | .slice e,.inl t=>JM P (.slice e) t∧ ∃e',P.underlying t=some (.slice e')∧fR P e (.inl e')
 | .arr n e,.inl t=>JM P (.arr n e) t∧ ∃e',P.underlying t=some (.array n e')∧fR P e (.inl e')
 | .unit,.inl t=>JM P .unit t∧ ∃fs,P.underlying t=some (.struct fs)∧fs.size=0
 | .unit,.inr (fs,n,_)=>fs.size=n
 | .pair a b,.inl t=>JM P (.pair a b) t∧ ∃fs f,P.underlying t=some (.struct fs)∧fs[0]? =some f∧f.offset=0∧fR P a (.inl f.type)∧fR P b (.inr (fs,1,a.size))
 | .pair a b,.inr (fs,n,off)=> ∃f,fs[n]? =some f∧f.offset=off∧fR P a (.inl f.type)∧fR P b (.inr (fs,n+1,off+a.size))
 |_,.inr _=>False
def kI(P:Program)(τ:Ty)(t:TypeId):Prop:=fR P τ (.inl t)
theorem kI.base{P:Program}{τ:Ty}{t:TypeId}(h:kI P τ t):JM P τ t:=by
 unfold kI at h;cases τ<;>simp only[fR]at h<;>exact h.1
theorem kI.int{P:Program}{k:IntKind}{t:TypeId}(h:kI P (.int k) t):P.underlying t=some (.int k):=by simp only[kI,fR]at h;exact h.2
theorem kI.bool{P:Program}{t:TypeId}(h:kI P .bool t):P.underlying t=some .bool:=by simp only[kI,fR]at h;exact h.2
theorem kI.str{P:Program}{t:TypeId}(h:kI P .str t):P.underlying t=some .string:=by simp only[kI,fR]at h;exact h.2
theorem kI.slice{P:Program}{e:Ty}{t:TypeId}(h:kI P (.slice e) t): ∃e',P.underlying t=some (.slice e')∧kI P e e':=by simp only[kI,fR]at h;exact h.2
theorem kI.arr{P:Program}{n:Nat}{e:Ty}{t:TypeId}(h:kI P (.arr n e) t): ∃e',P.underlying t=some (.array n e')∧kI P e e':=by simp only[kI,fR]at h;exact h.2
theorem kI.isSome{P:Program}{τ:Ty}{t:TypeId}(h:kI P τ t):(P.underlying t).isSome=true:=by
 unfold kI at h
 cases τ<;>simp only[fR]at h
 ·simp[h.2]
 ·simp[h.2]
 ·simp[h.2]
 ·obtain⟨_,e',h',_⟩:=h;simp[h']
 ·obtain⟨_,e',h',_⟩:=h;simp[h']
 ·obtain⟨_,e',f,h',_⟩:=h;simp[h']
 ·obtain⟨_,e',h',_⟩:=h;simp[h']
inductive C9:(τ:Ty)→τ.den→Nat→(υ:Ty)→υ.den→Nat→Prop where
 |here {a b:Ty} (x:(Ty.pair a b).den):C9 (.pair a b) x 0 a x.1 0
 |there {a b:Ty} (x:(Ty.pair a b).den) {n:Nat} {υ:Ty} {y:υ.den} {o:Nat} (h:C9 b x.2 n υ y o):C9 (.pair a b) x (n+1) υ y (a.size+o)
theorem ti{α:Type}{r:α}: ∀{τ:Ty} {x:τ.den} {n:Nat} {k:(υ:Ty)→υ.den→Option α},xR τ x n k=some r→ ∃υ y o,C9 τ x n υ y o∧k υ y=some r
 | .pair a b,x,0,k,h=>⟨a,x.1,0,.here x,h⟩
 | .pair a b,x,n+1,k,h=>by
  obtain⟨υ,y,o,hf,hk⟩:=ti (τ:=b) (x:=x.2) (n:=n) (k:=k) h
  exact⟨υ,y,_,.there x hf,hk⟩
 | .int _,_,_,_,h| .bool,_,_,_,h| .str,_,_,_,h| .slice _,_,_,_,h| .unit,_,_,_,h| .arr _ _,_,_,_,h=>by simp[xR]at h
theorem C9.bound{τ:Ty}{x:τ.den}{n:Nat}{υ:Ty}{y:υ.den}{o:Nat}(h:C9 τ x n υ y o):o+υ.size≤τ.size:=by
 induction h with
 |here x=>simp[Ty.size]
 |there x h ih=>simp only[Ty.size];omega
theorem C9.rd{w:World}{M:Nat→Prop}{τ:Ty}{x:τ.den}{n:Nat}{υ:Ty}{y:υ.den}{o:Nat}(h:C9 τ x n υ y o):
  ∀{cs:List Value},Rd w M τ cs x→Rd w M υ ((cs.drop o).take υ.size) y:=by
 induction h with
 |here x=>
  intro cs hr
  simp only[Rd]at hr
  obtain⟨c1,c2,rfl,h1,_⟩:=hr
  rw[cZ,vK h1.length];exact h1
 |there x h ih=>
  intro cs hr
  simp only[Rd]at hr
  obtain⟨c1,c2,rfl,h1,h2⟩:=hr
  rw[←jH,m0 h1.length]
  exact ih h2
theorem fR.kE{P:Program}{τ:Ty}{x:τ.den}{m:Nat}{υ:Ty}{y:υ.den}{o:Nat}(h:C9 τ x m υ y o):
  ∀{fs:Array Field} {n off:Nat},fR P τ (.inr (fs,n,off))→ ∃f,fs[n+m]? =some f∧f.offset=off+o∧kI P υ f.type:=by
 induction h with
 |here x=>
  intro fs n off hl
  simp only[fR]at hl
  obtain⟨f,hf,ho,ha,_⟩:=hl
  exact⟨f,hf,by simpa using ho,ha⟩
 |there x h ih=>
  intro fs n off hl
  simp only[fR]at hl
  obtain⟨f,hf,ho,_,hb⟩:=hl
  obtain⟨f',Bb,ho',JN⟩:=ih hb
  exact⟨f',by rw[←Bb];congr 1;omega,ω,JN⟩
theorem kI.kE{P:Program}{τ:Ty}{t:TypeId}{x:τ.den}{m:Nat}{υ:Ty}{y:υ.den}{o:Nat}(hl:kI P τ t)(h:C9 τ x m υ y o):
  ∃fs f,P.underlying t=some (.struct fs)∧fs[m]? =some f∧f.offset=o∧kI P υ f.type:=by
 unfold kI at hl
 cases h with
 |here x=>
  simp only[fR]at hl
  obtain⟨_,fs,f,hu,hf,ho,ha,_⟩:=hl
  exact⟨fs,f,hu,hf,ho,ha⟩
 |there x h=>
  simp only[fR]at hl
  obtain⟨_,fs,f,hu,hf,ho,_,hb⟩:=hl
  obtain⟨f',Bb,ho',JN⟩:=fR.kE h hb
  exact⟨fs,f',hu,by rw[←Bb];congr 1;omega,ω,JN⟩
inductive JO:List Step→(τ:Ty)→τ.den→(υ:Ty)→υ.den→Nat→Prop where
 |nil {τ:Ty} (x:τ.den):JO [] τ x τ x 0
 |kE {p:List Step} {τ υ σ:Ty} {x:τ.den} {n o:Nat} {y:υ.den} {z:σ.den} {q:Nat} (h:C9 τ x n υ y o) (r:JO p υ y σ z q):JO (.kE n::p) τ x σ z (o+q)
 |idx {p:List Step} {n:Nat} {e σ:Ty} {x:(Ty.arr n e).den} {i:Nat} {z:σ.den} {q:Nat} (r:JO p e (List.getD x i e.zero) σ z q):JO (.idx i::p) (.arr n e) x σ z (i*e.size+q)
theorem ke{α:Type}{r:α}: ∀{p:List Step} {τ:Ty} {x:τ.den} {k:(υ:Ty)→υ.den→Option α},zI p τ x k=some r→ ∃υ y o,JO p τ x υ y o∧k υ y=some r
 |[],τ,x,k,h=>⟨τ,x,0,.nil x,h⟩
 | .kE n::p,τ,x,k,h=>by
  obtain⟨υ,y,o,hf,h'⟩:=ti (h:xR τ x n _=some r)
  obtain⟨σ,z,q,hp,hk⟩:=ke h'
  exact⟨σ,z,_,.kE hf hp,hk⟩
 | .idx i::p,τ,x,k,h=>by
  cases τ with
  |arr n e=>
   obtain⟨σ,z,q,hp,hk⟩:=ke (p:=p) (τ:=e) (x:=List.getD x i e.zero) (k:=k) h
   exact⟨σ,z,_,.idx hp,hk⟩
  |_=>simp[zI,ag0]at h
def vr:Ty→Nat→Ty
 | .pair a b,n=>match n with|0=>a|n+1=>vr b n
 |τ,_=>τ
def rO:Ty→Nat→Nat
 | .pair a b,n=>match n with|0=>0|n+1=>a.size+rO b n
 |_,_=>0
def elT:Ty→Ty
 | .arr _ e=>e
 |τ=>τ
def Hd:List Step→Ty→Ty
 |[],τ=>τ
 | .kE n::p,τ=>Hd p (vr τ n)
 | .idx _::p,τ=>Hd p (elT τ)
def cF:List Step→Ty→Nat
 |[],_=>0
 | .kE n::p,τ=>rO τ n+cF p (vr τ n)
 | .idx i::p,τ=>i*(elT τ).size+cF p (elT τ)
def xT:List Step→Ty→Prop
 |[],_=>True
 | .kE n::p,τ=>xT p (vr τ n)
 | .idx i::p,τ=>(∃n e,τ= .arr n e∧i<n)∧xT p (elT τ)
theorem C9.eq{τ:Ty}{x:τ.den}{n:Nat}{υ:Ty}{y:υ.den}{o:Nat}(h:C9 τ x n υ y o):υ=vr τ n∧o=rO τ n:=by
 induction h with
 |here x=>exact⟨rfl,rfl⟩
 |there x h ih=>obtain⟨rfl,rfl⟩:=ih;exact⟨rfl,rfl⟩
theorem JO.eq{p:List Step}{τ:Ty}{x:τ.den}{υ:Ty}{y:υ.den}{o:Nat}(h:JO p τ x υ y o):υ=Hd p τ∧o=cF p τ:=by
 induction h with
 |nil x=>exact⟨rfl,rfl⟩
 |kE h r ih=>
  obtain⟨h1,h2⟩:=h.eq
  obtain⟨h3,h4⟩:=ih
  subst h1 h2 h3 h4
  exact⟨rfl,rfl⟩
 |idx r ih=>
  obtain⟨h3,h4⟩:=ih
  subst h3 h4
  exact⟨rfl,rfl⟩
theorem ag3(p q:List Step): ∀τ,Hd (p++q) τ=Hd q (Hd p τ):=by
 induction p with
 |nil=>intro τ;rfl
 |cons s p ih=>intro τ;cases s<;>simp[Hd,ih]
theorem sj(p q:List Step): ∀τ,cF (p++q) τ=cF p τ+cF q (Hd p τ):=by
 induction p with
 |nil=>intro τ;simp[cF,Hd]
 |cons s p ih=>intro τ;cases s<;>simp[cF,Hd,ih,oV]
theorem sl(p q:List Step): ∀τ,xT (p++q) τ↔xT p τ∧xT q (Hd p τ):=by
 induction p with
 |nil=>intro τ;simp[xT,Hd]
 |cons s p ih=>intro τ;cases s<;>simp[xT,Hd,ih,and_assoc]
theorem kJ{α:Type}(l:List α)(i:Nat)(d:α)(h:i<l.length):l.getD i d=l[i]:=by simp[List.getD,bn h]
theorem zJ{α:Type}(n:Nat): ∀(l:List (List α)) (i:Nat) (h:i<l.length),(∀j (hj:j<l.length),l[j].length=n)→(l.flatten.drop (i*n)).take n=l[i]
 |a::l,0,_,hn=>by
  have:=hn 0 (by simp)
  simp only[Ej]at this
  simp[←this]
 |a::l,i+1,h,hn=>by
  have h0:=hn 0 (by simp)
  simp only[Ej]at h0
  rw[zs,eu,jX,Nat.add_comm (i*n) n,←jH,m0 h0]
  exact zJ n l i (by simpa using h) (λj hj=>hn (j+1) (by simp;omega))
theorem Rd.idx{w:World}{M:Nat→Prop}{n:Nat}{e:Ty}{cs:List Value}{x:(Ty.arr n e).den}(h:Rd w M (.arr n e) cs x){i:Nat}(hi:i<n):
  Rd w M e ((cs.drop (i*e.size)).take e.size) (List.getD x i e.zero):=by
 simp only[Rd]at h
 obtain⟨hn,S7,hc,rfl,hr⟩:=h
 rw[zJ e.size S7 i ω (λj hj=>(hr j ω hj).length),kJ x i e.zero ω]
 exact hr i ω ω
theorem JO.bound{p:List Step}{τ:Ty}{x:τ.den}{υ:Ty}{y:υ.den}{o:Nat}(h:JO p τ x υ y o):xT p τ→o+υ.size≤τ.size:=by
 induction h with
 |nil x=>intro _;simp
 |kE h r ih=>
  intro hi
  obtain⟨h1,h2⟩:=h.eq
  subst h1
  have:=ih hi
  have:=h.bound
  omega
 | @idx p n e σ x i z q r ih=>
  intro hi
  obtain⟨⟨n',e',he,lU⟩,m7⟩:=hi
  cases he
  have:=ih m7
  have h2:(i+1)*e.size≤n*e.size:=lL _ lU
  rw[eu]at h2
  simp only[Ty.size]
  omega
theorem JO.rd{w:World}{M:Nat→Prop}{p:List Step}{τ:Ty}{x:τ.den}{υ:Ty}{y:υ.den}{o:Nat}(h:JO p τ x υ y o):
  xT p τ→ ∀{cs:List Value},Rd w M τ cs x→Rd w M υ ((cs.drop o).take υ.size) y:=by
 induction h with
 |nil x=>intro _ cs hr;rw[cZ,jG (by rw[hr.length];exact aG _)];exact hr
 |kE h r ih=>
  intro hi cs hr
  obtain⟨h1,h2⟩:=h.eq
  subst h1
  have:=ih hi (h.rd hr)
  have hb:=JO.bound r hi
  rw[qE,jH,qF,iw ω]at this
  exact this
 | @idx p n e σ x i z q r ih=>
  intro hi cs hr
  obtain⟨⟨n',e',he,lU⟩,m7⟩:=hi
  cases he
  have:=ih m7 (hr.idx lU)
  have hb:=JO.bound r m7
  rw[qE,jH,qF,iw ω]at this
  exact this
def fb{α:Type}(cs:List α)(o:Nat)(new:List α):List α:=cs.take o++new++cs.drop (o+new.length)
theorem zK{α:Type}{a b:List α}{o:Nat}{new:List α}(h:o+new.length≤a.length):fb (a++b) o new=fb a o new++b:=by
 unfold fb
 rw[zi ω,zj ω]
 simp only[br]
theorem xm{α:Type}{a b:List α}{o:Nat}{new:List α}:fb (a++b) (a.length+o) new=a++fb b o new:=by
 unfold fb
 rw[List.take_append,jG ω,zm,oV,List.drop_append,kG ω,zm]
 simp
theorem gC{α:Type}{a:List α}{o:Nat}{new:List α}(h:o+new.length≤a.length):(fb a o new).length=a.length:=by
 unfold fb;simp;omega
theorem JP{α:Type}{a:List α}{o i n:Nat}{new:List α}(h:i+n≤o∨o+new.length≤i)(hl:o+new.length≤a.length):((fb a o new).drop i).take n=(a.drop i).take n:=by
 apply zt
 intro j
 simp only[lO,lP]
 split
 ·rename_i hj
  unfold fb
  rcases h with h|h
  ·rw[br,se (by simp;omega),lO,aj ω]
  ·rw[oG (by simp;omega)]
   simp only[aS,cc,iw (show o≤a.length by omega),lP]
   congr 1;omega
 ·rfl
theorem ag4{α:Type}{a:List α}{o:Nat}{new:List α}(hl:o+new.length≤a.length):((fb a o new).drop o).take new.length=new:=by
 unfold fb
 rw[br,m0 (by simp;omega),vK rfl]
theorem Mh{α:Type}{l:List α}{o:Nat}{u:α}(h:l[o]? =some u):fb l o [u]=l:=by
 obtain⟨e9,rfl⟩:=tU.1 h
 unfold fb
 simp
theorem DQ{α:Type}{l:List α}{o:Nat}{u:α}(h:o<l.length):(fb l o [u])[o]? =some u:=by
 unfold fb
 rw[br,oG (by simp;omega)]
 simp[iw (Nat.le_of_lt h)]
theorem tj{τ:Ty}: ∀{n:Nat} {a:Ty},JH τ n=some a→ ∀x:τ.den,∃y o,C9 τ x n a y o:=by
 induction τ with
 |pair a b _ Vw=>
  intro n c h x
  cases n with
  |zero=>cases h;exact⟨_,_,.here x⟩
  |succ n=>
   obtain⟨y,o,hf⟩:=Vw (n:=n) (a:=c) h x.2
   exact⟨y,_,.there x hf⟩
 |_=>intro n c h;simp[JH]at h
theorem tk: ∀{p:List Step} {τ υ:Ty},gN p τ υ=true→ ∀x:τ.den,∃y o,JO p τ x υ y o
 |[],τ,υ,h,x=>by
  have h:=bx h
  subst h
  exact⟨x,0,.nil x⟩
 | .kE n::p,τ,υ,h,x=>by
  unfold gN at h
  split at h
  ·rename_i a ha
   obtain⟨y,o,hf⟩:=tj ha x
   obtain⟨z,q,hp⟩:=tk h y
   exact⟨z,_,.kE hf hp⟩
  ·cases h
 | .idx _::_,_,_,h,_=>by simp[gN]at h
theorem kK: ∀{p:List Step} {τ υ:Ty},gN p τ υ=true→xT p τ∧Hd p τ=υ
 |[],τ,υ,h=>⟨trivial,bx h⟩
 | .kE n::p,τ,υ,h=>by
  have h0:=h
  unfold gN at h
  split at h
  ·rename_i a ha
   obtain⟨y,o,hf⟩:=tj ha τ.zero
   obtain⟨h1,h2⟩:=kK h
   have:=hf.eq.1
   subst this
   exact⟨h1,h2⟩
  ·cases h
 | .idx _::_,_,_,h=>by simp[gN]at h
theorem Bc: ∀{p q:List Step},L8 p q=true→p=q
 |[],[],_=>rfl
 | .kE a::p,.kE b::q,h=>by
  simp only[L8,bR]at h
  rw[fV h.1,Bc h.2]
 |[],_::_,h| .kE _::_,[],h| .idx _::_,_,h| .kE _::_,.idx _::_,h=>by simp[L8]at h
theorem C9.apart{τ:Ty}{x:τ.den}{n:Nat}{υ:Ty}{y:υ.den}{o:Nat}(h:C9 τ x n υ y o): ∀{x':τ.den} {n':Nat} {υ':Ty} {y':υ'.den} {o':Nat},C9 τ x' n' υ' y' o'→n≠n'→o+υ.size≤o'∨o'+υ'.size≤o:=by
 induction h with
 |here x=>
  intro x' n' υ' y' o' h' jB
  cases h' with
  |here=>exact absurd rfl jB
  |there _ h'=>left;omega
 |there x h ih=>
  intro x' n' υ' y' o' h' jB
  cases h' with
  |here=>right;omega
  |there _ h'=>rcases ih h' (λe=>jB (by rw[e]))with h1|h1<;>omega
theorem JO.apart{p:List Step}{τ:Ty}{x:τ.den}{υ:Ty}{y:υ.den}{o:Nat}(h:JO p τ x υ y o):xT p τ→ ∀{q:List Step} {e:Ty},gN q τ (.slice e)=true→xQ p q=false→cF q τ<o∨o+υ.size≤cF q τ:=by
 induction h with
 |nil x=>intro _ q e _ h;simp[xQ]at h
 | @kE p τ υ σ x n o y z q hf r ih=>
  intro hi q' e hq hp
  obtain⟨h1,h2⟩:=hf.eq
  subst h1 h2
  cases q' with
  |nil=>
   have:=bx hq
   subst this
   cases hf
  |cons s q'=>
   cases s with
   |idx i=>simp[gN]at hq
   |kE m=>
    unfold gN at hq
    split at hq
    ·rename_i a ha
     obtain⟨y',o',Bb⟩:=tj ha x
     obtain⟨h3,h4⟩:=Bb.eq
     subst h3 h4
     have hb:=r.bound hi
     obtain⟨h5,h6⟩:=kK hq
     obtain⟨z',o2,Ry⟩:=tk hq y'
     have eY:=Ry.bound h5
     have ho2:=Ry.eq.2
     subst ho2
     simp only[cF]
     by_cases hnm:n=m
     ·subst hnm
      have GW:xQ p q'=false:=by
       simp only[xQ,Bool.and_eq_false_iff]at hp
       rcases hp with hp|hp
       ·rw[tc]at hp;cases hp
       ·exact hp
      rcases ih hi hq GW with h7|h7<;>omega
     ·rcases hf.apart Bb hnm with h7|h7
      ·right;omega
      ·left
       have:1≤(Ty.slice e).size:=aG _
       omega
    ·cases hq
 | @idx p n e' σ x i z q r ih=>
  intro hi q' e hq hp
  cases q' with
  |nil=>have:=bx hq;cases this
  |cons s q'=>
   cases s with
   |idx i=>simp[gN]at hq
   |kE m=>simp[gN,JH]at hq
def fK:Value→Option Nat
 | .pointer (some a)=>some a.block
 | .slice (some a) _ cap=>if cap=0 then none else some a.block
 |_=>none
def bl.mut:bl→Prop
 | .obj _ _| .own _ _| .gd _ _ _ _=>True
 |_=>False
def ER(w:World)(M:Nat→Prop)(v:Value):bl→Prop
 | .obj τ x=> ∃b cs t,v= .pointer (some ⟨b,0,none⟩)∧w.heap[b]? =some (.cells cs t (0,0))∧M b∧Rd w M τ cs.toList x
 | .gd τ x p _=> ∃b cs t sm u,v= .pointer (some ⟨b,0,none⟩)∧w.heap[b]? =some (.cells cs t (0,0))∧M b∧Rd w M τ sm x∧cs.toList=fb sm (cF p τ) [u]∧u.oneCell'=true∧ ∃e,gN p τ (.slice e)=true
 | .own e l=>(l=[]∧ ∃a,v= .slice a 0 0)∨
  ∃b cs t cap,v= .slice (some ⟨b,0,none⟩) l.length cap∧w.heap[b]? =some (.cells cs t (0,0))∧M b∧0<cap∧l.length≤cap∧cap≤maxLen∧cs.size=cap*e.size∧
   ∀i (h:i<l.length),Rd w M e ((cs.toList.drop (i*e.size)).take e.size) l[i]
 | .oI e l=>Rd w M (.slice e) [v] l∧((l=[]∧ ∃a n c,v= .slice a n c)∨ ∃b n c,v= .slice (some ⟨b,0,none⟩) n c)
 | .gone=>True
def AR(v:Value)(p:List Step)(u:Value):bl→Prop
 | .obj τ _| .gd τ _ _ _=>xT p τ∧ ∃b,v= .pointer (some ⟨b,0,none⟩)∧u= .pointer (some ⟨b,cF p τ,none⟩)
 | .own e l| .oI e l=> ∃i q,p= .idx i::q∧i<l.length∧xT q e∧ ∃b n c,v= .slice (some ⟨b,0,none⟩) n c∧u= .pointer (some ⟨b,i*e.size+cF q e,none⟩)
 | .gone=> ∃a,u= .pointer (some a)
mutual
def VR(w:World)(M:Nat→Prop)(H:Nat→Option bl)(ν:Nat→Value):bC→Value→Prop
 | .any,_=>True
 | .Vu,v=>v=undef
 | .val τ x,v=>V w M τ v x
 | .JI τ x n,v=>V w M τ v x∧ ∃cs a,v= .agg cs∧cs.toList[rO τ n]? =some (.slice a 0 0)
 | .emp,v=> ∃a,v= .slice a 0 0
 | .ref id,v=>H id≠none∧v=ν id
 | .jo id p,v=> ∃e,H id=some e∧AR (ν id) p v e
 | .qM τ x,v=> ∃b off,v= .pointer (some ⟨b,off,none⟩)∧b<w.heap.size∧ ¬M b∧ ∃cs,At w b off cs∧Rd w M τ cs x
 | .tup vs,v=> ∃us:List Value,v= .tuple us.toArray∧jr w M H ν vs us
 | .L9 f caps,v=> ∃cs:List Value,v= .func (.func f) #[] cs.toArray∧jr w M H ν caps cs
def jr(w:World)(M:Nat→Prop)(H:Nat→Option bl)(ν:Nat→Value):List bC→List Value→Prop
 |[],[]=>True
 |a::as,v::vs=>VR w M H ν a v∧jr w M H ν as vs
 |_,_=>False
end
def bl.lj:bl→bl→Prop
 | .obj τ _,.obj υ _| .obj τ _,.gd υ _ _ _| .gd τ _ _ _,.obj υ _| .gd τ _ _ _,.gd υ _ _ _=>τ=υ
 | .own e l,.own f k| .own e l,.oI f k| .oI e l,.oI f k=>e=f∧l.length=k.length
 |_,.gone=>True
 |_,_=>False
structure sR(H:Nat→Option bl)(ν:Nat→Value)(H':Nat→Option bl)(ν':Nat→Value):Prop where
 kZ: ∀i e,H i=some e→ ∃e',H' i=some e'∧e.lj e'
 head: ∀i,H i≠none→ν' i=ν i
theorem AR.ptr{v:Value}{p:List Step}{u:Value}{e:bl}(h:AR v p u e): ∃a,u= .pointer (some a):=by
 cases e<;>simp only[AR]at h
 ·obtain⟨_,b,_,h⟩:=h;exact⟨_,h⟩
 ·obtain⟨_,b,_,h⟩:=h;exact⟨_,h⟩
 ·obtain⟨i,q,_,_,_,b,n,c,_,h⟩:=h;exact⟨_,h⟩
 ·obtain⟨i,q,_,_,_,b,n,c,_,h⟩:=h;exact⟨_,h⟩
 ·exact h
theorem AR.lj{v:Value}{p:List Step}{u:Value}{e e':bl}(h:AR v p u e)(l:e.lj e'):AR v p u e':=by
 have hp:=h.ptr
 cases e<;>cases e'<;>simp only[bl.lj]at l<;>simp only[AR]at h ⊢ <;>try exact hp
 ·subst l;exact h
 ·subst l;exact h
 ·subst l;exact h
 ·subst l;exact h
 ·obtain⟨rfl,hl⟩:=l;obtain⟨i,q,hp,hi,r⟩:=h;exact⟨i,q,hp,ω,r⟩
 ·obtain⟨rfl,hl⟩:=l;obtain⟨i,q,hp,hi,r⟩:=h;exact⟨i,q,hp,ω,r⟩
 ·obtain⟨rfl,hl⟩:=l;obtain⟨i,q,hp,hi,r⟩:=h;exact⟨i,q,hp,ω,r⟩
theorem bl.lj.refl(e:bl):e.lj e:=by cases e<;>simp[bl.lj]
theorem sR.refl(H:Nat→Option bl)(ν:Nat→Value):sR H ν H ν:=⟨λ_ e h=>⟨e,h,.refl e⟩,λ_ _=>rfl⟩
mutual
theorem VR.ca{w w':World}{M M':Nat→Prop}{H H':Nat→Option bl}{ν ν':Nat→Value}(k:e8 w M w' M')(g:sR H ν H' ν'):
  ∀{a:bC} {v:Value},VR w M H ν a v→VR w' M' H' ν' a v
 | .any,_,_=>by simp[VR]
 | .Vu,_,h=>by simpa [VR]using h
 | .val τ x,v,h=>by simp only[VR]at h ⊢;exact h.ca k
 | .JI τ x n,v,h=>by simp only[VR]at h ⊢;exact⟨h.1.ca k,h.2⟩
 | .emp,_,h=>by simpa [VR]using h
 | .ref id,_,h=>by
  simp only[VR]at h ⊢
  obtain⟨h1,h2⟩:=h
  obtain⟨e,he⟩:=Ed.1 h1
  obtain⟨e',vZ,_⟩:=g.kZ id e he
  exact⟨by simp[vZ],by rw[g.head id h1];exact h2⟩
 | .jo id p,_,h=>by
  simp only[VR]at h ⊢
  obtain⟨e,he,ha⟩:=h
  obtain⟨e',vZ,hl⟩:=g.kZ id e he
  exact⟨e',vZ,by rw[g.head id (by simp[he])];exact ha.lj hl⟩
 | .qM τ x,_,h=>by
  simp only[VR]at h ⊢
  obtain⟨b,off,rfl,hb,hm,cs,ha,hr⟩:=h
  exact⟨b,off,rfl,mW hb k.size,λh'=>hm (k.less b hb h'),cs,ha.ca (k.block b hb hm),hr.ca k⟩
 | .tup vs,_,h=>by
  simp only[VR]at h ⊢
  obtain⟨us,rfl,h⟩:=h
  exact⟨us,rfl,jr.ca k g h⟩
 | .L9 f caps,_,h=>by
  simp only[VR]at h ⊢
  obtain⟨us,rfl,h⟩:=h
  exact⟨us,rfl,jr.ca k g h⟩
theorem jr.ca{w w':World}{M M':Nat→Prop}{H H':Nat→Option bl}{ν ν':Nat→Value}(k:e8 w M w' M')(g:sR H ν H' ν'):
  ∀{as:List bC} {vs:List Value},jr w M H ν as vs→jr w' M' H' ν' as vs
 |[],[],_=>by simp[jr]
 |a::as,v::vs,h=>by simp only[jr]at h ⊢;exact⟨VR.ca k g h.1,jr.ca k g h.2⟩
 |[],_::_,h=>by simp[jr]at h
 |_::_,[],h=>by simp[jr]at h
end
end VM
end
