/- A part of the proof of HedgeLess of layer 22: a machine that reads a function of the program as an equation between values. -/
import Derived.KernelRfl
import GoSem.Claims
import Derived.WalkKit
import Derived.ArgAppend
import Derived.Laws.CopyRow
import Derived.Laws.MakeOwn
import Derived.Laws.OwnMore
import Derived.Orders
import Derived.LoopN
set_option linter.all false
theorem ω{p:Prop}(h:p:=by omega):p:=h
theorem δ{p:Prop}(h:p:=by decide):p:=h
theorem κ{p:Prop}(h:p:=by kernel_rfl):p:=h
noncomputable section
abbrev ar:=@Option.bind_some
abbrev ak:=@cond_true
abbrev aK:=@List.length_singleton
abbrev aU:=@List.getD_eq_getElem?_getD
abbrev aG:=@Int.toNat_natCast
abbrev av:=@cond_false
abbrev ah:=@if_pos
abbrev aj:=@if_neg
abbrev bg:=@List.getElem?_eq_getElem
abbrev aM:=@List.length_append
abbrev a7:=@List.mem_cons_of_mem
abbrev aR:=@List.length_cons
abbrev aH:=@Nat.le_refl
abbrev bh:=@List.mem_cons_self
abbrev bL:=@Array.length_toList
abbrev bA:=@of_decide_eq_true
abbrev a8:=@decide_eq_true
abbrev bk:=@List.mem_append
abbrev aZ:=@List.mem_cons
abbrev bH:=@List.append_assoc
abbrev bB:=@Bool.and_eq_true
abbrev bC:=@decide_eq_false
abbrev bp:=@Bool.not_true
abbrev cQ:=@List.length_replicate
abbrev cr:=@List.mem_singleton
abbrev bM:=@List.length_set
abbrev cc:=@List.length_take
abbrev c3:=@List.mem_append_left
abbrev ck:=@List.length_nil
abbrev bR:=@List.map_cons
abbrev dw:=@Bool.and_eq_true_iff
abbrev dK:=@List.mem_append_right
abbrev cH:=@List.append_nil
abbrev cI:=@List.length_map
abbrev bF:=@Nat.zero_le
abbrev cW:=@List.nil_append
abbrev cB:=@List.sum_cons
abbrev cX:=@Bool.not_false
abbrev ct:=@Nat.le_trans
abbrev c0:=@List.drop_zero
abbrev dx:=@List.getElem_mem
abbrev dg:=@List.map_append
abbrev dC:=@List.length_drop
abbrev cL:=@List.mem_map
abbrev eK:=@List.pairwise_cons
abbrev dq:=@Int.toNat_zero
abbrev fa:=@List.mem_map_of_mem
abbrev fR:=@Nat.eq_of_beq_eq_true
abbrev fb:=@decide_eq_true_iff
abbrev gb:=@List.take_append_drop
abbrev kG:=@Int.mul_le_mul_of_nonneg_left
abbrev gH:=@List.getElem?_eq_none
abbrev fp:=@Option.mem_toList
abbrev gP:=@Array.getElem?_toList
abbrev gd:=@List.getElem_of_mem
abbrev kH:=@Array.getElem?_eq_some_iff
abbrev lY:=@List.getElem?_append_right
abbrev fu:=@List.cons.injEq
abbrev jK:=@List.take_of_length_le
abbrev dP:=@Int.le_refl
abbrev kI:=@List.drop_of_length_le
abbrev qH:=@Int.mul_le_mul_of_nonneg_right
abbrev eL:=@Int.mul_comm
abbrev fv:=@Bool.and_true
abbrev iA:=@Option.some.injEq
abbrev jd:=@Bool.false_eq_true
abbrev eE:=@Nat.add_mul
abbrev kJ:=@Nat.mul_le_mul_right
abbrev je:=@List.size_toArray
abbrev ta:=@List.eq_nil_of_length_eq_zero
abbrev lZ:=@List.mem_of_mem_take
abbrev jf:=@List.take_length
abbrev gg:=@Int.mul_assoc
abbrev iB:=@Nat.min_eq_left
abbrev qI:=@List.drop_eq_getElem_cons
abbrev mc:=@Int.toNat_of_nonneg
abbrev me:=@Nat.mul_le_mul_left
abbrev fT:=@Nat.zero_add
abbrev tb:=@Array.getD_eq_getD_getElem?
abbrev fU:=@Int.le_trans
abbrev m9:=@List.mem_of_mem_drop
abbrev mg:=@List.getElem?_take
abbrev mh:=@List.getElem?_drop
abbrev tc:=@List.getElem?_append_left
abbrev kK:=@List.cons_append
abbrev nc:=@Nat.lt_of_lt_of_le
abbrev td:=@List.take_append_getElem
abbrev o7:=@List.length_pos_iff
abbrev gQ:=@List.map_nil
abbrev kL:=@Int.ediv_nonneg
abbrev jL:=@List.drop_drop
abbrev ej:=@congrArg
abbrev vo:=@List.getElem?_eq_some_iff
abbrev vp:=@List.pairwise_iff_getElem
abbrev nf:=@List.drop_length
abbrev ng:=@Option.getD_some
abbrev vq:=@Int.eq_ofNat_of_zero_le
abbrev qJ:=@Bool.false_ne_true
abbrev nh:=@List.sum_append
abbrev ec:=@and_true
abbrev uu:=@List.mem_or_eq_of_mem_set
abbrev ni:=@List.nodup_append
abbrev nj:=@List.getElem?_map
abbrev rA:=@Int.mul_ediv_add_emod
abbrev ka:=@Int.mul_nonneg
abbrev iF:=@List.sum_nil
abbrev iG:=@Int.add_zero
abbrev pt:=@Int.emod_lt_of_pos
abbrev rB:=@List.mem_iff_getElem
abbrev nk:=@Bool.not_eq_true
abbrev uv:=@Option.bind_eq_some_iff
abbrev nn:=@List.all_eq_true
abbrev np:=@decide_eq_decide
abbrev uw:=@Int.ediv_lt_iff_lt_mul
abbrev pv:=@Bool.not_eq_false
abbrev rC:=@List.map_congr_left
abbrev nq:=@List.drop_left'
abbrev nr:=@Option.some.inj
abbrev ns:=@Bool.eq_iff_iff
abbrev nu:=@Bool.or_eq_true
abbrev fc:=@if_false
abbrev lF:=@Bool.true_and
abbrev zX:=@List.take_append_of_le_length
abbrev zY:=@List.drop_append_of_le_length
abbrev js:=@Int.add_mul
abbrev rD:=@Bool.not_eq_true'
abbrev eU:=@Ne.symm
abbrev lG:=@Nat.sub_self
abbrev wV:=@List.drop_eq_nil_of_le
abbrev kb:=@Nat.one_mul
abbrev jt:=@Array.ext'
abbrev px:=@List.take_zero
abbrev zZ:=@Int.add_mul_emod_self_left
abbrev wW:=@Int.add_mul_ediv_left
abbrev wX:=@List.Pairwise.sublist
abbrev rE:=@Int.emod_nonneg
abbrev nv:=@Nat.lt_or_ge
abbrev nw:=@Nat.add_zero
abbrev lH:=@Int.mul_add
abbrev ux:=@decide_eq_true_eq
abbrev wY:=@List.pairwise_append
abbrev py:=@Nat.add_assoc
abbrev z6:=@List.eq_of_mem_replicate
abbrev rF:=@List.drop_take
abbrev rG:=@List.take_take
abbrev z7:=@Nat.add_sub_cancel_left
abbrev rH:=@List.mem_range
abbrev gR:=@Prod.ext
abbrev z8:=@Option.map_eq_some_iff
abbrev pz:=@Nat.pow_succ
abbrev pA:=@Int.le_of_lt
abbrev Aa:=@Int.ediv_eq_zero_of_lt
abbrev pB:=@Int.zero_add
abbrev uy:=@List.headD_cons
abbrev rI:=@Bool.or_false
abbrev gB:=@if_true
abbrev wZ:=@List.length_range
abbrev E8:=@Nat.two_pow_add_eq_or_of_lt
abbrev w1:=@Bool.eq_false_iff
abbrev E9:=@Option.ne_none_iff_exists'
abbrev Ab:=@Array.getElem_toList
abbrev uz:=@List.tail_cons
abbrev Fa:=@Int.tdiv_eq_ediv_of_nonneg
abbrev uA:=@Bool.false_and
abbrev rJ:=@Int.zero_mul
abbrev rK:=@Nat.mul_succ
abbrev w3:=@List.filter_cons
abbrev Ac:=@List.replicate_succ
abbrev Ad:=@List.getD_cons_succ
abbrev Fb:=@List.getElem_append_left
abbrev uB:=@Bool.false_or
abbrev w4:=@List.take_left'
abbrev w5:=@List.mem_filter
abbrev w6:=@List.length_zip
abbrev Ae:=@Int.lt_of_le_of_lt
abbrev rL:=@Nat.le_succ
abbrev rM:=@Nat.sub_mul
abbrev Fc:=@List.getElem?_replicate
abbrev rN:=@Int.mul_neg
abbrev Fe:=@decide_eq_false_iff_not
abbrev Ff:=@List.pairwise_singleton
abbrev Fg:=@List.getElem_cons_zero
abbrev Af:=@List.flatten_cons
abbrev Ah:=@List.ext_getElem?
abbrev uC:=@Nat.beq_refl
abbrev w7:=@Nat.mul_le_mul
abbrev Ai:=@List.pairwise_map
abbrev MR:=@Array.getElem?_setIfInBounds_ne
abbrev Fh:=@Nat.le_of_ble_eq_true
abbrev Fi:=@List.singleton_append
abbrev Fj:=@List.set_append_right
abbrev Aj:=@List.any_eq_true
abbrev MS:=@Nat.and_two_pow_sub_one_eq_mod
abbrev Ak:=@beq_self_eq_true
abbrev rO:=@Int.not_lt
abbrev uD:=@Int.one_mul
abbrev Fk:=@Nat.pow_le_pow_right
abbrev Al:=@List.nodup_cons
abbrev Am:=@Int.natCast_mul
abbrev Fl:=@List.get_eq_getElem
abbrev MT:=@iff_iff_implies_and_implies
abbrev Fm:=@List.getElem_range
abbrev An:=@List.mapM_cons
abbrev MU:=@Int.fdiv_eq_ediv_of_nonneg
abbrev Fo:=@of_decide_eq_false
abbrev Fp:=@Int.tmod_lt_of_pos
abbrev MV:=@List.getElem_append_right
abbrev MW:=@Array.getElem?_eq_getElem
abbrev MX:=@Classical.byContradiction
abbrev MY:=@Int.le_of_mul_le_mul_left
abbrev MZ:=@Decidable.byContradiction
abbrev Fs:=@List.getElem_drop
abbrev Ft:=@List.getElem_take
abbrev Fu:=@Int.emod_eq_of_lt
abbrev Fv:=@Decidable.not_not
abbrev Ao:=@List.all_cons
abbrev Ap:=@Nat.lt_irrefl
abbrev M4:=@Int.mul_ediv_cancel_left
abbrev M5:=@List.length_eq_zero_iff
abbrev M6:=@List.getElem?_cons_zero
abbrev Fw:=@Int.ediv_le_self
abbrev Fy:=@List.nil_sublist
abbrev M7:=@Array.getElem?_eq_none
abbrev M8:=@List.getElem_replicate
abbrev w8:=@Nat.beq_eq
abbrev Aq:=@Nat.mul_comm
abbrev M9:=@List.append_eq_nil_iff
abbrev Ar:=@Int.pow_succ
abbrev As:=@Int.mul_zero
abbrev w9:=@Int.not_le
abbrev FA:=@List.range_succ
abbrev FB:=@Int.natCast_add
abbrev FC:=@Nat.not_lt_zero
abbrev Na:=@List.getElem?_toArray
abbrev Nb:=@Nat.div_lt_iff_lt_mul
abbrev Au:=@Int.mul_sub
abbrev FD:=@Bool.and_false
abbrev Av:=@Nat.blt_eq
abbrev Aw:=@Nat.ble_eq
abbrev FE:=@Nat.log2_def
abbrev FF:=@Int.sub_zero
section
namespace VM
open Go
theorem aoB{α:Type}(a:α): ∃b:α,b=a:=⟨a,rfl⟩
def bo{α:Type}(a:α):α:=Classical.choose (aoB a)
theorem iH{α:Type}(a:α):bo a=a:=Classical.choose_spec (aoB a)
def zP:Nat:=68719476736
def W:IntKind→Int→Int:=bo λk x=>k.wrap x
def aT:Int→Int→Bool:=bo λx y=>decide (x<y)
def cZ:Int→Int→Bool:=bo λx y=>decide (x≤y)
def aN:Int→Int→Bool:=bo λx y=>decide (x=y)
def aY:Int→Nat→Bool:=bo λi n=>decide (0≤i∧i<(n:Int))
def small:Nat→Bool:=bo λn=>decide (n<zP)
def jA:Int→Int→Bool:=bo λl c=>decide (0≤l∧l≤c∧c<(zP:Int))
def kd:Int→Int→Int→Int→Bool:=bo λl h m n=>decide (0≤l∧l≤h∧h≤m∧m≤n)
def quo:Int→Int→Int:=bo λx y=>x.tdiv y
def rem:Int→Int→Int:=bo λx y=>x.tmod y
def shl:IntKind→Int→Int→Int:=bo λk x y=>x*2^(min y.toNat k.bits)
def shr:IntKind→Int→Int→Int:=bo λk x y=>x.fdiv (2^(min y.toNat k.bits))
def mx:Int→Int→Int:=bo λx y=>if y>x then y else x
def mn:Int→Int→Int:=bo λx y=>if y<x then y else x
def Xt:ByteArray→ByteArray→Bool:=bo λx y=>decide (x.toList=y.toList)
theorem DY(k:IntKind)(x:Int):W k x=k.wrap x:=by unfold W;rw[iH]
theorem p7(x y:Int):aT x y=decide (x<y):=by unfold aT;rw[iH]
theorem ny(x y:Int):cZ x y=decide (x≤y):=by unfold cZ;rw[iH]
theorem jB(x y:Int):aN x y=decide (x=y):=by unfold aN;rw[iH]
theorem Rx(i:Int)(n:Nat):aY i n=decide (0≤i∧i<(n:Int)):=by unfold aY;rw[iH]
theorem FG(n:Nat):small n=decide (n<zP):=by unfold small;rw[iH]
theorem I3(l c:Int):jA l c=decide (0≤l∧l≤c∧c<(zP:Int)):=by unfold jA;rw[iH]
theorem Ax(l h m n:Int):kd l h m n=decide (0≤l∧l≤h∧h≤m∧m≤n):=by unfold kd;rw[iH]
theorem KJ(x y:Int):quo x y=x.tdiv y:=by unfold quo;rw[iH]
theorem Xu(x y:Int):rem x y=x.tmod y:=by unfold rem;rw[iH]
theorem Xv(k:IntKind)(x y:Int):shl k x y=x*2^(min y.toNat k.bits):=by unfold shl;rw[iH]
theorem Ry(k:IntKind)(x y:Int):shr k x y=x.fdiv (2^(min y.toNat k.bits)):=by unfold shr;rw[iH]
theorem aic(x y:Int):mx x y=if y>x then y else x:=by unfold mx;rw[iH]
theorem Xw(x y:Int):mn x y=if y<x then y else x:=by unfold mn;rw[iH]
theorem FH(x y:ByteArray):Xt x y=decide (x.toList=y.toList):=by unfold Xt;rw[iH]
inductive Bw where|and|or|xor|andNot
def mW:Bw→IntKind→Int→Int→Int:=bo λo k x y=>
 let a:=BitVec.ofInt k.bits x
 let b:=BitVec.ofInt k.bits y
 k.wrap (match o with| .and=>a&&& b| .or=>a|||b| .xor=>a^^^b| .andNot=>a&&& ~~~b).toNat
theorem vr(o:Bw)(k:IntKind)(x y:Int):mW o k x y=
 let a:=BitVec.ofInt k.bits x
 let b:=BitVec.ofInt k.bits y
 k.wrap (match o with| .and=>a&&& b| .or=>a|||b| .xor=>a^^^b| .andNot=>a&&& ~~~b).toNat:=by unfold mW;rw[iH]
def strOf(l:List Nat):ByteArray:=⟨(l.map UInt8.ofNat).toArray⟩
inductive Ty where
 |int (k:IntKind)
 |bool
 |str
 |slice (e:Ty)
 |unit
 |pair (a b:Ty)
 |arr (n:Nat) (e:Ty)
 deriving DecidableEq
@[reducible] def Ty.den:Ty→Type
 | .int _=>Int
 | .bool=>Bool
 | .str=>ByteArray
 | .slice e=>List e.den
 | .unit=>Unit
 | .pair a b=>a.den×b.den
 | .arr _ e=>List e.den
def Ty.size:Ty→Nat
 | .int _| .bool| .str| .slice _=>1
 | .unit=>0
 | .pair a b=>a.size+b.size
 | .arr n e=>n*e.size
def Ty.isAgg:Ty→Bool
 | .unit| .pair _ _| .arr _ _=>true
 |_=>false
def Ty.zero:(τ:Ty)→τ.den
 | .int _=>(0:Int)
 | .bool=>false
 | .str=>ByteArray.empty
 | .slice _=>[]
 | .unit=>()
 | .pair a b=>(a.zero,b.zero)
 | .arr n e=>List.replicate n e.zero
def Ty.comparable:Ty→Bool
 | .slice _=>false
 | .pair a b=>a.comparable&&b.comparable
 | .arr _ _=>false
 |_=>true
def aoC{α:Type}(f:α→α→Bool):List α→List α→Bool
 |[],[]=>true
 |x::xs,y::ys=>f x y&&aoC f xs ys
 |_,_=>false
def p8:(τ:Ty)→τ.den→τ.den→Bool
 | .int _,x,y=>aN x y
 | .bool,x,y=>x==y
 | .str,x,y=>Xt x y
 | .slice _,_,_=>false
 | .unit,_,_=>true
 | .pair a b,x,y=>p8 a x.1 y.1&&p8 b x.2 y.2
 | .arr _ e,x,y=>aoC (p8 e) x y
inductive Step where
 |kE (n:Nat)
 |idx (i:Nat)
def Nc:List Step→List Step→Bool
 |[],[]=>true
 | .kE a::p,.kE b::q=>Nat.beq a b&&Nc p q
 |_,_=>false
def yE:List Step→List Step→Bool
 |[],_=>true
 | .kE a::p,.kE b::q=>Nat.beq a b&&yE p q
 |_,_=>false
def KK:Ty→Nat→Option Ty
 | .pair a b,n=>match n with
  |0=>some a
  |n+1=>KK b n
 |_,_=>none
def gN:List Step→Ty→Ty→Bool
 |[],τ,υ=>decide (τ=υ)
 | .kE n::p,τ,υ=>match KK τ n with
  |some a=>gN p a υ
  |none=>false
 |_,_,_=>false
inductive bI where
 |any
 |Xx
 |val (τ:Ty) (x:τ.den)
 |KL (τ:Ty) (x:τ.den) (n:Nat)
 |emp
 |ref (id:Nat)
 |jr (id:Nat) (p:List Step)
 |rP (τ:Ty) (x:τ.den)
 |tup (vs:List bI)
 |Nd (f:Nat) (caps:List bI)
inductive bl where
 |obj (τ:Ty) (x:τ.den)
 |ga (τ:Ty) (x:τ.den) (p:List Step) (j:Nat)
 |own (e:Ty) (l:List e.den)
 |o8 (e:Ty) (l:List e.den)
 |gone
structure St where
 T:Nat→bI
 H:Nat→Option bl
def St.put(σ:St)(d:Nat)(v:bI):St:=⟨λi=>cond (Nat.beq i d) v (σ.T i),σ.H⟩
def St.jW(σ:St)(d:Nat)(v:Option bl):St:=⟨σ.T,λi=>cond (Nat.beq i d) v (σ.H i)⟩
def St.wI(σ:St)(d:Option Nat)(v:bI):St:=match d with|some d=>σ.put d v|none=>σ
def Nf(n:Nat)(io:List Nat):Option Nat→Bool|some d=>Nat.blt d n&&io.all (λi=> !(Nat.beq i d))|none=>true
def St.xa(σ:St):List (Nat×Option bl)→St
 |[]=>σ
 |u::r=>(σ.jW u.1 u.2).xa r
abbrev S0:St:=⟨λ_=> .any,λ_=>none⟩
abbrev ja:=List (Nat×Option bl)
section K
variable{α:Type}
def yF:(τ:Ty)→τ.den→Nat→((υ:Ty)→υ.den→Option α)→Option α
 | .pair a b,x,n,k=>match n with
  |0=>k a x.1
  |n+1=>yF b x.2 n k
 |_,_,_,_=>none
def nA:(τ:Ty)→τ.den→Nat→((υ:Ty)→υ.den→(υ.den→Option α)→Option α)→(τ.den→Option α)→Option α
 | .pair a b,x,n,m,k=>match n with
  |0=>m a x.1 λz=>k (z,x.2)
  |n+1=>nA b x.2 n m λz=>k (x.1,z)
 |_,_,_,_,_=>none
def nB(τ υ:Ty)(k:Option α):Option α:=if τ=υ then k else none
def df(υ τ:Ty)(y:υ.den)(k:τ.den→Option α):Option α:=if h:υ=τ then k (h▸y)else none
def aji(τ:Ty)(x:τ.den)(i:Nat)(k:(υ:Ty)→υ.den→Option α):Option α:=
 match τ,x with
 | .arr _ e,x=>k e (List.getD x i e.zero)
 |_,_=>none
def EC(τ:Ty)(x:τ.den)(i:Nat)(m:(υ:Ty)→υ.den→(υ.den→Option α)→Option α)(k:τ.den→Option α):Option α:=
 match τ,x,k with
 | .arr _ e,x,k=>m e (List.getD x i e.zero) λz=>k (List.set x i z)
 |_,_,_=>none
def Ay:List Step→(τ:Ty)→τ.den→((υ:Ty)→υ.den→Option α)→Option α
 |[],τ,x,k=>k τ x
 | .kE n::p,τ,x,k=>yF τ x n fun υ y=>Ay p υ y k
 | .idx i::p,τ,x,k=>aji τ x i fun υ y=>Ay p υ y k
def wJ(υ:Ty)(y:υ.den):List Step→(τ:Ty)→τ.den→(τ.den→Option α)→Option α
 |[],τ,_,k=>df υ τ y k
 | .kE n::p,τ,x,k=>nA τ x n (fun υ' y' k'=>wJ υ y p υ' y' k') k
 | .idx i::p,τ,x,k=>EC τ x i (fun υ' y' k'=>wJ υ y p υ' y' k') k
def mw(fz:Bool)(a:bI)(H:Nat→Option bl)(τ:Ty)(k:τ.den→List Nat→ja→Option α):Option α:=
 match a with
 | .val υ x=>df υ τ x λy=>k y [] []
 | .KL υ x _=>df υ τ x λy=>k y [] []
 | .emp=>match τ,k with
  | .slice _,k=>k [] [] []
  |_,_=>none
 | .ref id=>match H id with
  |some (.own e l)=>df (.slice e) τ l λy=>k y [id] (cond fz [(id,some (.o8 e l))] [])
  |some (.o8 e l)=>df (.slice e) τ l λy=>k y [id] []
  |_=>none
 |_=>none
def Ng(a:bI)(k:(τ:Ty)→τ.den→Option α):Option α:=
 match a with
 | .val υ x=>k υ x
 |_=>none
def nC(id:Nat)(p:List Step)(H:Nat→Option bl)(k:Ty→Option α):Option α:=
 match H id with
 |some (.obj τ x)=>Ay p τ x fun υ _=>k υ
 |some (.ga τ x _ _)=>Ay p τ x fun υ _=>k υ
 |some (.own e l)|some (.o8 e l)=>match p with
  | .idx i::p=>Ay p e (List.getD l i e.zero) fun υ _=>k υ
  |_=>none
 |_=>none
def azI(a:bI)(H:Nat→Option bl)(k:(τ:Ty)→τ.den→List Nat→Option α):Option α:=
 match a with
 | .val υ x=>k υ x []
 | .ref id=>match H id with
  |some (.own e l)|some (.o8 e l)=>k (.slice e) l [id]
  |_=>none
 |_=>none
def xb(a:bI)(k:IntKind→Int→Option α):Option α:=
 match a with
 | .val (.int i) x=>k i x
 |_=>none
end K
inductive AM where
 |v (τ:Ty)
 |own (e:Ty)
 |io (τ:Ty)
 |fn (f:Nat) (τ:Ty)
 |ptr (τ:Ty)
 |jr (τ:Ty)
 |lo (e:Ty)
 deriving DecidableEq
@[reducible] def AM.den:AM→Type
 | .v τ=>τ.den
 | .own e=>List e.den
 | .io τ=>τ.den
 | .fn _ τ=>τ.den
 | .ptr τ=>τ.den
 | .jr τ=>τ.den
 | .lo e=>List e.den
@[reducible] def HP:List AM→Type
 |[]=>Unit
 |[m]=>m.den
 |m::n::ms=>m.den×HP (n::ms)
structure lI where
 args:List AM
 res:List AM
 quiet:Bool
 run:HP args→Option (HP res)
inductive CM where
 |v (τ:Ty)
 |own (e:Ty)
 |obj (τ:Ty)
 |ga (τ:Ty) (q:List Step) (e:Ty)
 |same (s:Nat)
 |io (τ:Ty)
 |fn (f:Nat) (τ:Ty)
structure Env where
 nt:Nat
 ty:Nat→Option Ty
 Γ:Nat→List lI
 N:Nat
 xc:Nat→Option (List (Nat×CM))
 yG:Nat→Option (List (Nat×CM))
 io:List Nat:=[]
 lk:Option (Ty×List Step×Ty×List Nat):=none
def lkT(E:Env)(τ:Ty):Option (List Step×Ty):=match E.lk with
 |some (υ,q,e,_)=>cond (decide (υ=τ)) (cond (gN q τ (.slice e)) (some (q,e)) none) none
 |none=>none
def KM(E:Env)(τ:Ty)(id:Nat):Option (List Step×Ty):=match E.lk with
 |some (_,_,_,ds)=>cond (ds.any λd=>Nat.beq (id/16) d) (lkT E τ) none
 |none=>none
def cvA:Value→bI
 | .int k n=> .val (.int k) n
 | .bool b=> .val .bool b
 | .string s=> .val .str s
 | .slice none 0 0=> .emp
 |_=> .any
def St.ρ (σ:St):Operand→bI
 | .tmp t=>σ.T t
 | .const v=>cvA v
 | .global _=> .any
 | .func f=> .Nd f []
section
variable{α:Type}
def vt(op:BinOp)(k:IntKind)(x y:Int)(K:bI→Option α):Option α:=
 match op with
 | .add=>K (.val (.int k) (W k (x+y)))
 | .sub=>K (.val (.int k) (W k (x-y)))
 | .mul=>K (.val (.int k) (W k (x*y)))
 | .quo=>cond (aN y 0) none (K (.val (.int k) (W k (quo x y))))
 | .rem=>cond (aN y 0) none (K (.val (.int k) (rem x y)))
 | .and=>K (.val (.int k) (mW .and k x y))
 | .or=>K (.val (.int k) (mW .or k x y))
 | .xor=>K (.val (.int k) (mW .xor k x y))
 | .andNot=>K (.val (.int k) (mW .andNot k x y))
 | .eql=>K (.val .bool (aN x y))
 | .neq=>K (.val .bool (!aN x y))
 | .lss=>K (.val .bool (aT x y))
 | .leq=>K (.val .bool (cZ x y))
 | .gtr=>K (.val .bool (aT y x))
 | .geq=>K (.val .bool (cZ y x))
 |_=>none
def shK(op:BinOp)(k:IntKind)(x y:Int)(K:bI→Option α):Option α:=
 match op with
 | .shl=>cond (aT y 0) none (K (.val (.int k) (W k (shl k x y))))
 | .shr=>cond (aT y 0) none (K (.val (.int k) (shr k x y)))
 |_=>none
def abx:BinOp→Bool
 | .shl| .shr=>true
 |_=>false
def FI(t:Option Ty)(op:BinOp)(τ:Ty)(x:τ.den)(υ:Ty)(y:υ.den)(K:bI→Option α):Option α:=
 match τ,x,υ,y with
 | .int k,x,.int k',y=>cond (abx op) (shK op k x y K) (if k=k' then vt op k x y K else none)
 |τ,x,υ,y=>match t with
  |none=>none
  |some u=>nB u τ (cond τ.comparable (match op with
   | .eql=>df υ τ y λy=>K (.val .bool (p8 τ x y))
   | .neq=>df υ τ y λy=>K (.val .bool (!p8 τ x y))
   |_=>none) none)
def UT(op:UnOp)(a:bI)(K:bI→Option α):Option α:=
 match op,a with
 | .neg,.val (.int k) n=>K (.val (.int k) (W k (0-n)))
 | .xor,.val (.int k) n=>K (.val (.int k) (mW .xor k (if k.signed then-1 else k.max) n))
 | .not,.val .bool b=>K (.val .bool (!b))
 |_,_=>none
abbrev jg(α:Type):=bI→List Nat→ja→Option α
def mmK(up:Bool):bI→List bI→(bI→Option α)→Option α
 |a,[],K=>K a
 |a,b::r,K=>xb a λk x=>xb b λk' y=>if k=k' then mmK up (.val (.int k) (cond up (mx x y) (mn x y))) r K else none
def Nh(τ:Ty)(a:bI)(H:Nat→Option bl)(K:jg α):Option α:=
 match τ,a with
 | .slice _,.val (.slice _) l=>K (.val (.int .i64) (List.length l:Int)) [] []
 | .arr n _,.val (.arr _ _) _=>K (.val (.int .i64) (n:Int)) [] []
 | .str,.val .str s=>K (.val (.int .i64) (ByteArray.size s:Int)) [] []
 | .slice _,.emp=>K (.val (.int .i64) (0:Int)) [] []
 | .slice _,.ref id=>match H id with
  |some (.own _ l)|some (.o8 _ l)=>K (.val (.int .i64) (l.length:Int)) [id] []
  |_=>none
 |_,_=>none
def rQ(H:Nat→Option bl)(id:Nat)(e:bl)(K:Option α):Option α:=
 match H id with
 |none=>K
 |some _=>none
def Ni(id:Nat)(e:Ty)(a b:bI)(H:Nat→Option bl)(K:jg α):Option α:=
 mw false b H (.slice e) λys rd _=>
  match a with
  | .emp=>cond (small (List.length ys)) (K (.ref id) (id::rd) [(id,some (.own e ys))]) none
  | .ref j=>match H j with
   |some (.own e' l)=>df (.slice e') (.slice e) l λxs=>
    cond (small (List.length xs+List.length ys)) (K (.ref id) (id::j::rd) [(j,some .gone),(id,some (.own e (xs++ys)))]) none
   |_=>none
  |_=>none
def vu(τ:Ty)(H:Nat→Option bl):List (Nat×bI)→τ.den→List Nat→ja→(τ.den→List Nat→ja→Option α)→Option α
 |[],x,rd,ups,K=>K x rd ups
 |p::r,x,rd,ups,K=>yF τ x p.1 fun υ _=>mw true p.2 H υ λy BY ow=>
  nA τ x p.1 (fun υ' _ k'=>df υ υ' y k') λz=>vu τ H r z (BY++rd) (ups++ow) K
def xd(e:Ty)(H:Nat→Option bl)(n:Nat):List (Nat×bI)→List e.den→List Nat→ja→(List e.den→List Nat→ja→Option α)→Option α
 |[],l,rd,ups,K=>K l rd ups
 |p::r,l,rd,ups,K=>cond (Nat.blt p.1 n) (mw true p.2 H e λy BY ow=>xd e H n r (List.set l p.1 y) (BY++rd) (ups++ow) K) none
def CZ(v:bI)(H:Nat→Option bl):(a:Ty)→(a.den→List Nat→ja→Option α)→Option α
 | .pair a .unit,k=>match v with
  | .rP υ x=>df υ a x λy=>k (y,()) [] []
  |_=>none
 |a,k=>mw true v H a k
def C0:(a:Ty)→a.den→bI
 | .pair a .unit,x=> .rP a x.1
 |a,x=> .val a x
def rR(H:Nat→Option bl):(τ:Ty)→List bI→(τ.den→List Nat→ja→Option α)→Option α
 | .unit,[],K=>K () [] []
 | .pair a b,v::vs,K=>CZ v H a λx rd ups=>rR H b vs λxs BY ow=>K (x,xs) (BY++rd) (ups++ow)
 |_,_,_=>none
def qA:(τ:Ty)→τ.den→List bI
 | .pair a b,x=>C0 a x.1::qA b x.2
 |_,_=>[]
def bZ(H:Nat→Option bl)(d:Nat)(v:Option bl):Nat→Option bl:=λi=>cond (Nat.beq i d) v (H i)
def xe(H:Nat→Option bl):List bI→(List bI→List Nat→ja→Option α)→Option α
 |[],K=>K [] [] []
 |a::r,K=>match a with
  | .jr id []=>match H id with
   |some (.obj τ x)=>xe (bZ H id (some .gone)) r λcs rd ups=>K (.rP τ x::cs) (id::rd) ((id,some .gone)::ups)
   |_=>none
  |a=>xe H r λcs rd ups=>K (a::cs) rd ups
def oj(m:AM)(a:bI)(H:Nat→Option bl)(k:m.den→(Nat→Option bl)→List Nat→ja→ja→List (Nat×AM)→Option α):Option α:=
 match m,k with
 | .v τ,k=>mw true a H τ λx rd uf=>match uf with
  |[]=>k x H rd [] [] []
  |u::r=>k x (bZ H u.1 u.2) rd [] (u::r) []
 | .own e,k=>match a with
  | .emp=>k [] H [] [] [] []
  | .ref id=>match H id with
   |some (.own e' l)=>df (.slice e') (.slice e) l λx=>k x (bZ H id (some .gone)) [id] [(id,some .gone)] [] []
   |_=>none
  |_=>none
 | .io τ,k=>match a with
  | .jr id []=>match H id with
   |some (.obj υ x)=>df υ τ x λy=>k y (bZ H id (some .gone)) [id] [] [] [(id,.io τ)]
   |_=>none
  |_=>none
 | .fn f τ,k=>match a with
  | .Nd f' c=>cond (Nat.beq f f') (rR H τ c λx rd uf=>match uf with
   |[]=>k x H rd [] [] []
   |_=>none) none
  |_=>none
 | .ptr _,_=>none
 | .jr τ,k=>match a with
  | .rP υ x=>df υ τ x λy=>k y H [] [] [] []
  |_=>none
 | .lo e,k=>match a with
  | .ref id=>match H id with
   |some (.own e' l)=>df (.slice e') (.slice e) l λx=>k x (bZ H id (some .gone)) [id] [] [] [(id,.lo e)]
   |_=>none
  |_=>none
def uE:(ms:List AM)→List bI→(Nat→Option bl)→List Nat→ja→ja→List (Nat×AM)→(HP ms→List Nat→ja→ja→List (Nat×AM)→Option α)→Option α
 |[],[],_,rd,uo,uf,io,K=>K () rd uo uf io
 |[m],[a],H,rd,uo,uf,io,K=>oj m a H λx _ BY MH MI HZ=>K x (BY++rd) (MH++uo) (MI++uf) (io++HZ)
 |m::n::ms,a::qK,H,rd,uo,uf,io,K=>oj m a H λx H' BY MH MI HZ=>
  uE (n::ms) qK H' (BY++rd) (MH++uo) (MI++uf) (io++HZ) λxs rd uo uf io=>K (x,xs) rd uo uf io
 |_,_,_,_,_,_,_,_=>none
def KN(m:AM)(x:m.den)(id:Nat):bI×ja:=
 match m,x with
 | .v τ,x=>(.val τ x,[])
 | .own e,x=>(.ref id,[(id,some (.own e x))])
 | .io τ,x=>(.val τ x,[])
 | .fn _ _,_=>(.any,[])
 | .ptr τ,x=>(.jr id [],[(id,some (.obj τ x))])
 | .jr _,_=>(.any,[])
 | .lo _,_=>(.any,[])
def jX:(ms:List AM)→HP ms→Nat→List (Nat×AM)→List bI×ja×List (Nat×AM)
 |[],_,_,io=>([],[],io)
 |[m],x,id,io=>match m,x,io with
  | .io τ,x,(j,_)::io=>([],[(j,some (.obj τ x))],io)
  | .lo e,x,(j,_)::io=>([],[(j,some (.own e x))],io)
  |m,x,io=>([(KN m x id).1],(KN m x id).2,io)
 |m::n::ms,x,id,io=>match m,x,io with
  | .io τ,x,(j,_)::io=>let r:=jX (n::ms) x.2 (id+1) io;(r.1,(j,some (.obj τ x.1))::r.2.1,r.2.2)
  | .lo e,x,(j,_)::io=>let r:=jX (n::ms) x.2 (id+1) io;(r.1,(j,some (.own e x.1))::r.2.1,r.2.2)
  |m,x,io=>let r:=jX (n::ms) x.2 (id+1) io;((KN m x.1 id).1::r.1,(KN m x.1 id).2++r.2.1,r.2.2)
def Nj:List bI→bI
 |[]=> .any
 |[a]=>a
 |l=> .tup l
def vv(H:Nat→Option bl)(id:Nat):Nat→Bool
 |0=>true
 |n+1=>(match H (id+n)with|none=>true|some _=>false)&&vv H id n
def Nk(id:Nat):Nat→List Nat
 |0=>[]
 |n+1=>(id+n)::Nk id n
def fits:List AM→List bI→Bool
 |[],[]=>true
 | .fn f _::ms,.Nd g _::qK=>Nat.beq f g&&fits ms qK
 | .fn _ _::_,_::_=>false
 |_::ms,_::qK=>fits ms qK
 |_,_=>false
def Nl:List lI→List bI→Option lI
 |[],_=>none
 |S::r,qK=>cond (fits S.args qK) (some S) (Nl r qK)
def C1(E:Env)(f:Nat)(qK:List bI)(id:Nat)(H:Nat→Option bl)(K:jg α):Option α:=
 match Nl (E.Γ f) qK with
 |none=>none
 |some S=>uE S.args qK H [] [] [] [] λx rd uo uf io=>
  (S.run x).bind λy=>
   let r:=jX S.res y id io
   cond (vv H id S.res.length) (K (Nj r.1) (Nk id S.res.length++(r.2.1.map (·.1)++rd)) (uo++cond S.quiet [] uf++r.2.1)) none
def zi(a:Option bI)(d:Int)(k:Int→Option α):Option α:=
 match a with
 |none=>k d
 |some a=>xb a λ_ x=>k x
def mi:Option Operand→Bool
 |some (.const (.int _ n))=>decide (n=0)
 |_=>false
def rS(t:Ty)(z:Bool)(a:bI)(lo hi mx:Option bI)(H:Nat→Option bl)(K:jg α):Option α:=
 match t,a with
 | .str,.val .str s=>cond mx.isNone (zi lo 0 λl=>zi hi (ByteArray.size s:Int) λh=>
  cond (kd l h (ByteArray.size s:Int) (ByteArray.size s:Int)) (K (.val .str (ByteArray.extract s l.toNat h.toNat)) [] []) none) none
 | .slice _,.emp=>cond z (K .emp [] []) (cond mx.isNone (zi lo 0 λl=>zi hi 0 λh=>cond (kd l h 0 0) (K .emp [] []) none) none)
 | .slice e,a=>mw (!z) a H (.slice e) λx rd ups=>cond z (K .emp rd [])
  (cond (mx.isNone||hi.isSome) (zi lo 0 λl=>zi hi (List.length x:Int) λh=>zi mx (List.length x:Int) λm=>
   cond (kd l h m (List.length x:Int))
    (K (.val (.slice e) (List.drop l.toNat (List.take h.toNat x))) rd ups) none) none)
 |_,_=>none
def gC(τ:Ty)(a i:bI)(H:Nat→Option bl)(K:jg α):Option α:=
 xb i λ_ i=>
 match τ with
 | .slice e=>match a with
  | .val υ l=>df υ (.slice e) l λl=>cond (aY i (List.length l)) (K (.rP e (List.getD l i.toNat e.zero)) [] []) none
  | .ref id=>match H id with
   |some (.own e' l)|some (.o8 e' l)=>nB e' e (cond (aY i (List.length l)) (K (.jr id [.idx i.toNat]) [id] []) none)
   |_=>none
  |_=>none
 | .arr n e=>match a with
  | .jr id p=>nC id p H fun υ=>nB υ (.arr n e) (cond (aY i n) (K (.jr id (p++[.idx i.toNat])) [id] []) none)
  | .rP υ l=>df υ (.arr n e) l λl=>cond (aY i n) (K (.rP e (List.getD l i.toNat e.zero)) [] []) none
  |_=>none
 |_=>none
def xf(τ:Ty)(a i:bI)(K:bI→Option α):Option α:=
 xb i λ_ i=>
 match τ,a with
 | .arr n e,.val υ l=>df υ (.arr n e) l λl=>cond (aY i n) (K (.val e (List.getD l i.toNat e.zero))) none
 | .str,.val .str s=>cond (aY i (ByteArray.size s)) (K (.val (.int .u8) ((s.data.getD i.toNat 0).toNat:Int))) none
 |_,_=>none
def la(a:bI)(H:Nat→Option bl)(K:(υ:Ty)→υ.den→List Nat→Option α):Option α:=
 match a with
 | .rP τ x=>K τ x []
 | .jr id p=>match H id with
  |some (.obj τ x)=>Ay p τ x fun υ y=>K υ y [id]
  |some (.own e l)|some (.o8 e l)=>match p with
   | .idx i::p=>Ay p e (List.getD l i e.zero) fun υ y=>K υ y [id]
   |_=>none
  |_=>none
 |_=>none
def my(τ:Ty)(a v:bI)(H:Nat→Option bl)(K:jg α):Option α:=
 match a with
 | .jr id p=>mw true v H τ λy rd ups=>
  match H id with
  |some (.obj υ x)=>wJ τ y p υ x λz=>K .any (id::rd) (ups++[(id,some (.obj υ z))])
  |some (.own e l)=>match p with
   | .idx i::p=>cond (rd.contains id) none (wJ τ y p e (List.getD l i e.zero) λz=>K .any (id::rd) (ups++[(id,some (.own e (List.set l i z)))]))
   |_=>none
  |_=>none
 |_=>none
def DZ(j:Nat)(q:List Step)(τ:Ty)(x:τ.den)(H:Nat→Option bl)(k:τ.den→ja→Option α):Option α:=
 match H j with
 |some (.own e l)=>wJ (.slice e) l q τ x λz=>k z [(j,some (.o8 e l))]
 |some (.o8 e l)=>wJ (.slice e) l q τ x λz=>k z []
 |_=>none
def wy(τ:Ty)(a:bI)(H:Nat→Option bl)(K:jg α):Option α:=
 let zj:=la a H fun υ y rd=>df υ τ y λz=>K (.val τ z) rd []
 match a with
 | .jr id p=>match H id with
  |some (.ga υ x q j)=>cond (Nc p q) (cond (gN q υ τ) (K (.ref j) [id] []) none)
   (cond (yE p q) (DZ j q υ x H λz ups=>Ay p υ z fun υ' y=>df υ' τ y λy'=>K (.val τ y') [id,j] ups)
    (Ay p υ x fun υ' y=>df υ' τ y λy'=>K (.val τ y') [id] []))
  |_=>zj
 |_=>zj
def C2(τ:Ty)(id k:Nat)(e:Ty)(q:List Step)(υ:Ty)(x:υ.den)(H:Nat→Option bl)(K:jg α):Option α:=
 match H k with
 |some (.own e' _)=>nB e' e (nB τ (.slice e) (wJ (.slice e) [] q υ x λz=>K .any [id,k] [(id,some (.ga υ z q k))]))
 |_=>none
def ke(E:Env)(τ:Ty)(a v:bI)(H:Nat→Option bl)(K:jg α):Option α:=
 let zj:=my τ a v H K
 match a with
 | .jr id p=>match H id with
  |some (.obj υ x)=>match KM E υ id,v with
   |some (q,e),.ref k=>cond (Nc p q) (C2 τ id k e q υ x H K) zj
   |_,_=>zj
  |some (.ga υ x q j)=>
   let put:=mw true v H τ λy rd ups=>wJ τ y p υ x λz=>K .any (id::rd) (ups++[(id,some (cond (yE p q) (.obj υ z) (.ga υ z q j)))])
   match KM E υ id,v with
   |some (q',e),.ref k=>cond (Nc p q&&Nc q q') (C2 τ id k e q υ x H K) put
   |_,_=>put
  |_=>zj
 |_=>zj
def tS(E:Env)(τ:Ty)(a v:bI)(H:Nat→Option bl)(K:jg α):Option α:=
 match a,v with
 | .jr id [],.KL υ y n=>match KM E υ id with
  |some ([.kE m],e)=>cond (Nat.beq m n) (nB τ υ (nC id [] H fun υ'=>nB υ' υ
   (rQ H (id+2) (.own e []) (K .any [id,id+2] [(id,some (.ga υ y [.kE m] (id+2))),(id+2,some (.own e []))])))) (ke E τ a v H K)
  |_=>ke E τ a v H K
 |_,_=>ke E τ a v H K
def D0(H:Nat→Option bl)(id:Nat)(τ:Ty)(x:τ.den)(q:List Step)(e:Ty)(K:jg α):Option α:=
 rQ H id (.obj τ x) (rQ H (id+1) (.own e []) (K (.jr id []) [id,id+1] [(id,some (.ga τ x q (id+1))),(id+1,some (.own e []))]))
def aby(E:Env)(ps:List (Nat×bI))(τ:Ty)(x:τ.den):bI:=match lkT E τ with
 |some ([.kE n],_)=>cond (ps.all λp=> !(Nat.beq p.1 n)) (.KL τ x n) (.val τ x)
 |_=> .val τ x
def partsOf(σρ:Operand→bI)(ps:Array (Nat×Operand)):List (Nat×bI):=ps.toList.map λp=>(p.1,σρ p.2)
def um(E:Env)(o:Oper)(ρ:Operand→bI)(H:Nat→Option bl)(K:jg α):Option α:=
 let id:=16*o.dst.getD 0
 match o.op with
 | .move x| .assign x=>K (ρ x) [] []
 | .pick c a b=>match ρ c with
  | .val .bool t=>cond t (K (ρ a) [] []) (K (ρ b) [] [])
  |_=>none
 | .alloc t=>match E.ty t with
  |some τ=>match KM E τ id with
   |some (q,e)=>D0 H id τ τ.zero q e K
   |none=>rQ H id (.obj τ τ.zero) (K (.jr id []) [id] [(id,some (.obj τ τ.zero))])
  |none=>none
 | .box t x=>match E.ty t with
  |some τ=>
   let zj:=mw true (ρ x) H τ λy rd ups=>rQ H id (.obj τ y) (K (.jr id []) (id::rd) (ups++[(id,some (.obj τ y))]))
   match KM E τ id,ρ x with
   |some ([.kE m],e),.KL υ y n=>cond (Nat.beq m n) (df υ τ y λy=>D0 H id τ y [.kE m] e K) zj
   |_,_=>zj
  |none=>none
 | .build t ps=>match E.ty t with
  |some (.arr n e)=>xd e H n (partsOf ρ ps) (List.replicate n e.zero) [] [] λl rd ups=>K (.val (.arr n e) l) rd ups
  |some τ=>cond τ.isAgg (vu τ H (partsOf ρ ps) τ.zero [] [] λx rd ups=>K (aby E (partsOf ρ ps) τ x) rd ups) none
  |none=>none
 | .buildSlice t n ps=>match E.ty t with
  |some (.slice e)=>cond (Nat.ble (n*(e.size+1)) 16777216) (rQ H id (.own e []) (xd e H n (partsOf ρ ps) (List.replicate n e.zero) [] [] λl rd ups=>K (.ref id) (id::rd) (ups++[(id,some (.own e l))]))) none
  |_=>none
 | .load t a=>match E.ty t with
  |some τ=>wy τ (ρ a) H K
  |none=>none
 | .store t a v=>match E.ty t with
  |some τ=>tS E τ (ρ a) (ρ v) H K
  |none=>none
 | .nilCheck x=>match ρ x with
  | .jr id p=>K (.jr id p) [] []
  | .rP τ x=>K (.rP τ x) [] []
  |_=>none
 | .binOp op t x y _=>Ng (ρ x) fun τ x=>Ng (ρ y) fun υ y=>FI (E.ty t) op τ x υ y λv=>K v [] []
 | .unOp op _ x=>UT op (ρ x) λv=>K v [] []
 | .convert src dst x=>match E.ty src,E.ty dst with
  |some _,some (.int k)=>xb (ρ x) λ_ n=>K (.val (.int k) (W k n)) [] []
  |_,_=>none
 | .makeFunc (.func f) first caps=>cond first.isEmpty (xe H (caps.toList.map ρ) λcs rd ups=>K (.Nd f cs) rd ups) none
 | .makeSlice t l c=>match E.ty t with
  |some (.slice e)=>xb (ρ l) λ_ l=>xb (ρ c) λ_ c=>cond (jA l c)
    (rQ H id (.own e []) (K (.ref id) [id] [(id,some (.own e (List.replicate l.toNat e.zero)))])) none
  |_=>none
 | .slice t x lo hi mx=>match E.ty t with
  |some τ=>rS τ (lo.isNone&&mi hi&&mi mx) (ρ x) (lo.map ρ) (hi.map ρ) (mx.map ρ) H K
  |none=>none
 | .fieldAddr t x n=>match E.ty t with
  |some τ=>match ρ x with
   | .jr id p=>nC id p H fun υ=>nB υ τ (yF τ τ.zero n fun υ' _=>cond (Nat.beq υ'.size 0) none (K (.jr id (p++[.kE n])) [id] []))
   | .rP υ x=>nB υ τ (yF υ x n fun υ y=>cond (Nat.beq υ.size 0) none (K (.rP υ y) [] []))
   |_=>none
  |none=>none
 | .field t x n=>match E.ty t with
  |some τ=>match ρ x with
   | .val υ x=>nB υ τ (yF υ x n fun υ y=>K (.val υ y) [] [])
   |_=>none
  |none=>none
 | .indexAddr t x i=>match E.ty t with
  |some τ=>gC τ (ρ x) (ρ i) H K
  |none=>none
 | .index t x i=>match E.ty t with
  |some τ=>xf τ (ρ x) (ρ i) λv=>K v [] []
  |none=>none
 | .extract t i=>match ρ t with
  | .tup vs=>match vs[i]? with
   |some v=>K v [] []
   |none=>none
  |_=>none
 | .call c=>match c.callee with
  | .builtin .len=>match c.args.toList,(c.argTypes.toList.head?).bind E.ty with
   |[x],some τ=>Nh τ (ρ x) H K
   |_,_=>none
  | .builtin .append=>match c.args.toList,c.argTypes.toList with
   |[x,y],[t,t']=>match E.ty t with
    |some (.slice e)=>cond (Nat.beq t t') (rQ H id (.own e []) (Ni id e (ρ x) (ρ y) H K)) none
    |_=>none
   |_,_=>none
  | .builtin .max=>match c.args.toList with
   |x::r=>mmK true (ρ x) (r.map ρ) λv=>K v [] []
   |_=>none
  | .builtin .min=>match c.args.toList with
   |x::r=>mmK false (ρ x) (r.map ρ) λv=>K v [] []
   |_=>none
  | .value g=>match ρ g with
   | .Nd f caps=>C1 E f (c.args.toList.map ρ++caps) id H K
   |_=>none
  |_=>none
 |_=>none
def uF(E:Env)(ops:List Oper)(o:Oper)(σ:St)(K:St→List Nat→List Nat→Option α):Option α:=
 let run (σ:St):Option α:=um E o σ.ρ σ.H λv rd ups=>K ((σ.xa ups).wI o.dst v) rd (ups.map (·.1))
 cond (Nf E.nt E.io o.dst) (match o.guard with
 |none=>run σ
 |some (j,want)=>match(ops[j]?).bind (·.dst)with
  |none=>none
  |some t=>match σ.T t with
   | .val .bool b=>match want with
    |true=>cond b (run (σ.put t (.val .bool true))) (K ((σ.put t (.val .bool false)).wI o.dst .Xx) [] [])
    |false=>cond b (K ((σ.put t (.val .bool true)).wI o.dst .Xx) [] []) (run (σ.put t (.val .bool false)))
   | .Xx=>K (σ.wI o.dst .Xx) [] []
   |_=>none) none
abbrev Log:=List (Nat×List Nat×List Nat)
def UU(E:Env)(ops:List Oper):List Oper→Nat→St→Log→(St→Log→Option α)→Option α
 |[],_,σ,lg,K=>K σ lg
 |o::r,i,σ,lg,K=>uF E ops o σ fun σ' rd wr=>UU E ops r (i+1) σ' ((i,rd,wr)::lg) K
def tT:List Oper→List Nat→List Nat
 |[],acc=>acc
 |o::r,acc=>tT r (acc++[o.after.toList.foldl (λs e=>cond (Region.binds .any e) (s|||2^e.on|||acc.getD e.on 0) s) 0])
def names(ops:List Oper)(o:Oper):List Nat:=
 (o.op.operands.toList.filterMap fun| .tmp t=>some t|_=>none)++
 (match o.guard with
  |some (g,_)=>((ops[g]?).bind (·.dst)).toList
  |none=>[])
def meets(a b:List Nat):Bool:=a.any λx=>b.any λy=>Nat.beq x y
def Xy(ops:List Oper):Bool:=
 let b:=tT ops []
 (ops.zipIdx.all λ(o,j)=>o.after.toList.all λe=> !(Region.binds .any e)||Nat.blt e.on j)&&
 ops.zipIdx.all λ(o,j)=>ops.zipIdx.all λ(p,i)=>Nat.ble j i||(b.getD j 0).testBit i||
  !(meets p.dst.toList (o.dst.toList++names ops o)||meets o.dst.toList (names ops p))
def aid(ops:List Oper)(lg:Log):Bool:=
 let b:=tT ops []
 lg.all λx=>lg.all λy=>Nat.ble x.1 y.1||(b.getD x.1 0).testBit y.1||
  !(meets y.2.2 (x.2.1++x.2.2)||meets y.2.1 x.2.2)
def ED(E:Env)(ops:Array Oper)(draw:Bool)(σ:St)(K:St→Option α):Option α:=
 UU E ops.toList ops.toList 0 σ [] fun σ' lg=>cond (!draw||(Xy ops.toList&&aid ops.toList lg)) (K σ') none
def ib:List (Nat×CM)→St→St→(St→Option α)→Option α
 |[],_,acc,K=>K acc
 |(s,.v τ)::r,σ,acc,K=>mw true (σ.T s) σ.H τ λx _ ups=>ib r (σ.xa ups) (acc.put s (.val τ x)) K
 |(s,.own e)::r,σ,acc,K=>match σ.T s with
  | .emp=>ib r σ ((acc.put s (.ref (16*s+14))).jW (16*s+14) (some (.own e []))) K
  | .ref id=>match σ.H id with
   |some (.own e' l)=>df (.slice e') (.slice e) l λx=>ib r (σ.jW id (some .gone)) ((acc.put s (.ref (16*s+14))).jW (16*s+14) (some (.own e x))) K
   |_=>none
  |_=>none
 |(s,.obj τ)::r,σ,acc,K=>match σ.T s with
  | .jr id []=>match σ.H id with
   |some (.obj υ x)=>df υ τ x λy=>ib r (σ.jW id (some .gone)) ((acc.put s (.jr (16*s+14) [])).jW (16*s+14) (some (.obj τ y))) K
   |some (.ga υ x q j)=>DZ j q υ x σ.H λz ups=>df υ τ z λy=>ib r ((σ.xa ups).jW id (some .gone)) ((acc.put s (.jr (16*s+14) [])).jW (16*s+14) (some (.obj τ y))) K
   |_=>none
  |_=>none
 |(s,.ga τ q e)::r,σ,acc,K=>match σ.T s with
  | .jr id []=>match σ.H id with
   |some (.ga υ x q' j)=>cond (Nc q q') (match σ.H j with
    |some (.own e' l)=>df υ τ x λy=>df (.slice e') (.slice e) l λl=>ib r ((σ.jW j (some .gone)).jW id (some .gone))
     (((acc.put s (.jr (16*s+14) [])).jW (16*s+13) (some (.own e l))).jW (16*s+14) (some (.ga τ y q (16*s+13)))) K
    |_=>none) none
   |_=>none
  |_=>none
 |(s,.same s')::r,σ,acc,K=>match σ.T s,σ.T s',acc.T s' with
  | .ref i,.ref j,.ref j'=>cond (Nat.beq i j) (ib r σ (acc.put s (.ref j')) K) none
  |_,_,_=>none
 |(s,.io τ)::r,σ,acc,K=>match σ.T s with
  | .jr id []=>cond (Nat.beq id (16*s+15)) (match σ.H id with
   |some (.obj υ x)=>df υ τ x λy=>ib r (σ.jW id (some .gone)) ((acc.put s (.jr (16*s+15) [])).jW (16*s+15) (some (.obj τ y))) K
   |_=>none) none
  |_=>none
 |(s,.fn f τ)::r,σ,acc,K=>match σ.T s with
  | .Nd f' c=>cond (Nat.beq f f') (rR σ.H τ c λx _ ups=>match ups with
   |[]=>ib r σ (acc.put s (.Nd f (qA τ x))) K
   |_=>none) none
  |_=>none
def kf:List (Nat×CM)→Bool
 |[]=>true
 |q::r=>r.all (λp=> !(Nat.beq p.1 q.1))&&kf r
def xg(L:Option (List (Nat×CM)))(σ:St)(K:St→Option α):Option α:=
 match L with
 |none=>K σ
 |some L=>ib L σ ⟨λ_=> .any,λ_=>none⟩ K
def C3(L:Option (List (Nat×CM)))(step:St→(St→Option α)→Option α):Nat→St→Option α
 |0,_=>none
 |n+1,σ=>step σ fun σ'=>xg L σ' (C3 L step n)
def cS:Code→Option Nat
 | .region id _ _=>some id
 | .seq a b=>match cS a with
  |some i=>some i
  |none=>cS b
 | .block _ c| .loop c| .scope c=>cS c
 |_=>none
def I4(E:Env)(c:Operand)(σ:St)(A B:St→Option α):Option α:=
 match σ.ρ c with
 | .val .bool b=>match c with
  | .tmp t=>cond b (A (σ.put t (.val .bool true))) (B (σ.put t (.val .bool false)))
  |_=>cond b (A σ) (B σ)
 |_=>none
def EE(E:Env)(c:Code):St→(St→Option α)→(Nat→St→Option α)→(St→Option α)→Option α:=
 Code.rec (motive:=λ_=>St→(St→Option α)→(Nat→St→Option α)→(St→Option α)→Option α)
  (fun σ k _ _=>k σ)
  (λ_ ops draw σ k _ _=>ED E ops draw σ k)
  (λ_ b A B σ k kx kr=>A σ (fun σ'=>xg ((cS b).bind E.yG) σ' λwK=>B wK k kx kr) kx kr)
  (λc _ _ A B σ k kx kr=>I4 E c σ (fun σ'=>A σ' k kx kr) (fun σ'=>B σ' k kx kr))
  (λid _ A σ k kx kr=>A σ k (λi σ'=>cond (Nat.beq i id) (k σ') (kx i σ')) kr)
  (λb A σ _ kx kr=>xg ((cS b).bind E.xc) σ (C3 ((cS b).bind E.xc) (fun σ' kn=>A σ' kn kx kr) E.N))
  (λ_ _ _ _ _ _ _ _ _ _=>none)
  (λid σ _ kx _=>kx id σ)
  (λ_ A σ k kx kr=>A σ k kx kr)
  (λ_ σ k _ _=>k σ)
  (λ_ _ _ _ _=>none)
  (fun σ _ _ kr=>kr σ)
  (λ_ _ _ _ _=>none)
  c
def wL(E:Env):List Nat→Code→List (St→Option α)→St→(St→Option α)→(Nat→St→Option α)→(St→Option α)→Option α
 |[],c,_,σ,k,kx,kr=>EE E c σ k kx kr
 |n::p,c,ks,σ,k,kx,kr=>match c with
  | .seq a b=>match n with
   |0=>wL E p a ks σ (fun σ'=>xg ((cS b).bind E.yG) σ' λwK=>EE E b wK k kx kr) kx kr
   |_=>wL E p b ks σ k kx kr
  | .cond _ a b=>match n with
   |0=>wL E p a ks σ k kx kr
   |_=>wL E p b ks σ k kx kr
  | .block id c=>wL E p c ks σ k (λi σ'=>cond (Nat.beq i id) (k σ') (kx i σ')) kr
  | .loop b=>match ks with
   |κ::ks=>wL E p b ks σ κ kx kr
   |[]=>none
  | .scope c=>wL E p c ks σ k kx kr
  |_=>none
def Rz(m:AM)(x:m.den)(i:Nat)(σ:St):St:=
 match m,x with
 | .v τ,x=>σ.put i (.val τ x)
 | .own e,x=>(σ.put i (.ref (16*i+15))).jW (16*i+15) (some (.own e x))
 | .io τ,x=>(σ.put i (.jr (16*i+15) [])).jW (16*i+15) (some (.obj τ x))
 | .fn f τ,x=>σ.put i (.Nd f (qA τ x))
 | .ptr _,_=>σ
 | .jr τ,x=>σ.put i (.rP τ x)
 | .lo e,x=>(σ.put i (.ref (16*i+15))).jW (16*i+15) (some (.own e x))
def entry:(ms:List AM)→HP ms→Nat→St→St
 |[],_,_,σ=>σ
 |[m],x,i,σ=>Rz m x i σ
 |m::n::ms,x,i,σ=>entry (n::ms) x.2 (i+1) (Rz m x.1 i σ)
def I5(E:Env)(m:AM)(r:ResultVar ⊕ Nat)(σ:St)(K:m.den→St→Option α):Option α:=
 match m,r,K with
 | .v τ,.inl (.tmp t),K=>mw true (σ.T t) σ.H τ λx _ ups=>K x (σ.xa ups)
 | .v τ,.inl (.cell a t),K=>match E.ty t with
  |some τ'=>nB τ' τ (la (σ.T a) σ.H fun υ y _=>df υ τ y λx=>K x σ)
  |none=>none
 | .own e,.inl (.tmp t),K=>match σ.T t with
  | .emp=>K [] σ
  | .ref id=>match σ.H id with
   |some (.own e' l)=>df (.slice e') (.slice e) l λx=>K x (σ.jW id (some .gone))
   |_=>none
  |_=>none
 | .io τ,.inr i,K=>match σ.T i with
  | .jr id []=>match σ.H id with
   |some (.obj υ x)=>df υ τ x λy=>K y (σ.jW id (some .gone))
   |_=>none
  |_=>none
 | .lo e,.inr i,K=>match σ.T i with
  | .ref id=>match σ.H id with
   |some (.own e' l)=>df (.slice e') (.slice e) l λx=>K x (σ.jW id (some .gone))
   |_=>none
  |_=>none
 | .ptr τ,.inl (.tmp t),K=>match σ.T t with
  | .jr id []=>match σ.H id with
   |some (.obj υ x)=>df υ τ x λy=>K y (σ.jW id (some .gone))
   |_=>none
  |_=>none
 |_,_,_=>none
def KO(E:Env):(ms:List AM)→List (ResultVar ⊕ Nat)→St→(HP ms→Option α)→Option α
 |[],[],_,K=>K ()
 |[m],[r],σ,K=>I5 E m r σ λx _=>K x
 |m::n::ms,r::rs,σ,K=>I5 E m r σ λx σ'=>KO E (n::ms) rs σ' λxs=>K (x,xs)
 |_,_,_,_=>none
def zk:List AM→Nat→List (ResultVar ⊕ Nat)
 |[],_=>[]
 | .io _::ms,i=> .inr i::zk ms (i+1)
 | .lo _::ms,i=> .inr i::zk ms (i+1)
 |_::ms,i=>zk ms (i+1)
def Rk(E:Env)(fn:Func)(args res:List AM)(x:HP args):Option (HP res):=
 match fn.body with
 |none=>none
 |some c=>
  let kr:St→Option (HP res):=fun σ=>KO E res (fn.results.toList.map .inl++zk args 0) σ some
  EE E c (entry args x 0 ⟨λ_=> .any,λ_=>none⟩) kr (λ_ _=>none) kr
end
end VM
end
section
namespace VM
open Go
def tf(N:Nat)(x y c:Int):Option (Int×Int):=if 0≤x∧0≤y∧0≤c∧c≤1 then some ((x+y+c)%18446744073709551616,(x+y+c)/18446744073709551616)else none
def tg(N:Nat)(x y c:Int):Option (Int×Int):=if 0≤x∧x<18446744073709551616∧0≤y∧y<18446744073709551616∧0≤c∧c≤1 then some ((x+18446744073709551616-y-c)%18446744073709551616,if x<y+c then 1 else 0)else none
def kM{α:Type}(N:Nat)(l:List α)(i:Int)(v:List α):Option (List α):=if 0≤i∧i≤l.length∧v.length=1∧l.length+1<zP then some (l.take i.toNat++(v++l.drop i.toNat))else none
def abz{α:Type}(N:Nat)(l:List α)(n:Int):Option (List α):=match l with
 |[x]=>if 0<n∧n<1048576 then some (List.replicate n.toNat x)else none
 |_=>none
def tf.S(N:Nat):lI:={args:=[.v (.int .u64),.v (.int .u64),.v (.int .u64)],res:=[.v (.int .u64),.v (.int .u64)],quiet:=true,run:=λx=>tf N x.1 x.2.1 x.2.2}
def tg.S(N:Nat):lI:={args:=[.v (.int .u64),.v (.int .u64),.v (.int .u64)],res:=[.v (.int .u64),.v (.int .u64)],quiet:=true,run:=λx=>tg N x.1 x.2.1 x.2.2}
def kN(e:Ty)(N:Nat):lI:={args:=[.own e,.v (.int .i64),.own e],res:=[.own e],quiet:=false,run:=λx=>kM N x.1 x.2.1 x.2.2}
def atS(e:Ty)(N:Nat):lI:={args:=[.v (.slice e),.v (.int .i64)],res:=[.own e],quiet:=false,run:=λx=>abz N x.1 x.2}
def ox{α:Type}(N:Nat)(l:List α):Option (List α):=if l.length<zP then some l else none
def xh(e:Ty)(N:Nat):lI:={args:=[.v (.slice e)],res:=[.own e],quiet:=false,run:=λx=>ox N x}
end VM
namespace VM
abbrev cv:Int×Int×Unit:=((0:Int),((0:Int),()))
abbrev cg:List (Int×Int×Unit):=[]
abbrev a6:Int×Int×Int×Unit:=((0:Int),((0:Int),((0:Int),())))
abbrev bq:List (Int×Int×Int×Unit):=[]
abbrev aW:Int×Int×Int×Int×Unit:=((0:Int),((0:Int),((0:Int),((0:Int),()))))
abbrev cT:List (Int×Int×Int×Int×Unit):=[]
abbrev gu:Int×Int×Int×Int×Int×Unit:=((0:Int),((0:Int),((0:Int),((0:Int),((0:Int),())))))
abbrev EF:List (Int×Int×Int×Int×Int×Unit):=[]
abbrev eT:Int×Int×Int×Int×Int×Int×Unit:=((0:Int),((0:Int),((0:Int),((0:Int),((0:Int),((0:Int),()))))))
abbrev dk:List (Int×Int×Int×Int×Int×Int×Unit):=[]
abbrev zz7:Int×Int×Int×Int×Int×Int×Int×Unit:=((0:Int),((0:Int),((0:Int),((0:Int),((0:Int),((0:Int),((0:Int),())))))))
abbrev ee7:List (Int×Int×Int×Int×Int×Int×Int×Unit):=[]
abbrev zz8:Int×Int×Int×Int×Int×Int×Int×Int×Unit:=((0:Int),((0:Int),((0:Int),((0:Int),((0:Int),((0:Int),((0:Int),((0:Int),()))))))))
abbrev ee8:List (Int×Int×Int×Int×Int×Int×Int×Int×Unit):=[]
abbrev de:List Int:=[]
abbrev p9:List Int×Unit:=(de,())
end VM
end
section
namespace VM
open Go
def At(w:World)(b off:Nat)(cs:List Value):Prop:= ∀j v,cs[j]? =some v→w.cell? ⟨b,off+j,none⟩=some v
def Rd(w:World)(M:Nat→Prop):(τ:Ty)→List Value→τ.den→Prop
 | .int k,cs,x=>cs=[.int k x]
 | .bool,cs,x=>cs=[.bool x]
 | .str,cs,x=>cs=[.string x]
 | .slice e,cs,x=> ∃a cap,cs=[.slice a (List.length x) cap]∧List.length x≤cap∧
  ∀i (h:i<List.length x),∃b off,a=some ⟨b,off,none⟩∧b<w.heap.size∧ ¬M b∧ ∃cs',At w b (off+i*e.size) cs'∧Rd w M e cs' (List.get x ⟨i,h⟩)
 | .unit,cs,_=>cs=[]
 | .pair a b,cs,x=> ∃c1 c2,cs=c1++c2∧Rd w M a c1 x.1∧Rd w M b c2 x.2
 | .arr n e,cs,x=>List.length x=n∧ ∃UW:List (List Value),UW.length=n∧cs=UW.flatten∧
  ∀i (h:i<List.length x) (h':i<UW.length),Rd w M e UW[i] (List.get x ⟨i,h⟩)
theorem pC{α:Type}(n:Nat): ∀(l:List (List α)),(∀i (h:i<l.length),l[i].length=n)→l.flatten.length=l.length*n
 |[],_=>by simp
 |a::l,h=>by
  have h0:=h 0 (by simp)
  have ih:=pC n l (λi hi=>h (i+1) (by simp;omega))
  simp only[Fg]at h0
  simp only[Af,aM,aR,ih,h0,eE]
  omega
theorem Rd.length{w:World}{M:Nat→Prop}: ∀{τ:Ty} {cs:List Value} {x:τ.den},Rd w M τ cs x→cs.length=τ.size
 | .int _,_,_,h=>by simp only[Rd]at h;subst h;rfl
 | .bool,_,_,h=>by simp only[Rd]at h;subst h;rfl
 | .str,_,_,h=>by simp only[Rd]at h;subst h;rfl
 | .slice _,_,_,h=>by simp only[Rd]at h;obtain⟨a,cap,rfl,_⟩:=h;rfl
 | .unit,_,_,h=>by simp only[Rd]at h;subst h;rfl
 | .pair a b,_,_,h=>by
  simp only[Rd]at h
  obtain⟨c1,c2,rfl,h1,h2⟩:=h
  rw[aM,h1.length,h2.length];rfl
 | .arr n e,_,x,h=>by
  simp only[Rd]at h
  obtain⟨hn,UW,hc,rfl,hr⟩:=h
  rw[pC e.size UW (λi hi=>(hr i ω hi).length),hc];rfl
structure fi(w:World)(M:Nat→Prop)(w':World)(M':Nat→Prop):Prop where
 size:w.heap.size≤w'.heap.size
 block: ∀b,b<w.heap.size→ ¬M b→w'.heap[b]? =w.heap[b]?
 less: ∀b,b<w.heap.size→M' b→M b
theorem ajj{w:World}{b o:Nat}{v:Value}(h:w.cell? ⟨b,o,none⟩=some v):b<w.heap.size:=by
 simp only[World.cell?]at h
 rcases nv b w.heap.size with hb|hb
 ·exact hb
 ·simp[M7 hb]at h
theorem At.cm{w w':World}{b off:Nat}{cs:List Value}(h:At w b off cs)(hb:w'.heap[b]? =w.heap[b]?):At w' b off cs:=by
 intro j v hj
 have:=h j v hj
 rw[World.cell?_of_block (w:=w) hb]
 exact this
theorem At.append{w:World}{b off:Nat}{c1 c2:List Value}:At w b off (c1++c2)↔At w b off c1∧At w b (off+c1.length) c2:=by
 constructor
 ·intro h
  refine⟨λj v hj=>h j v (by rw[tc];exact hj;exact(vo.1 hj).1),λj v hj=> ?_⟩
  have:=h (c1.length+j) v (by rw[lY ω];simpa using hj)
  rw[py];exact this
 ·rintro⟨h1,h2⟩ j v hj
  by_cases fj:j<c1.length
  ·rw[tc fj]at hj;exact h1 j v hj
  ·rw[lY ω]at hj
   have:=h2 (j-c1.length) v hj
   rwa [show off+c1.length+(j-c1.length)=off+j from by omega]at this
theorem Rd.cm{w w':World}{M M':Nat→Prop}(k:fi w M w' M'): ∀{τ:Ty} {cs:List Value} {x:τ.den},Rd w M τ cs x→Rd w' M' τ cs x
 | .int _,_,_,h=>h
 | .bool,_,_,h=>h
 | .str,_,_,h=>h
 | .slice e,_,x,h=>by
  simp only[Rd]at h ⊢
  obtain⟨a,cap,rfl,hc,hr⟩:=h
  refine⟨a,cap,rfl,hc,λi hi=> ?_⟩
  obtain⟨b,off,ha,hb,hm,cs',qa,ld⟩:=hr i hi
  exact⟨b,off,ha,nc hb k.size,λh'=>hm (k.less b hb h'),_,qa.cm (k.block b hb hm),ld.cm k⟩
 | .unit,_,_,h=>h
 | .pair a b,_,_,h=>by
  simp only[Rd]at h ⊢
  obtain⟨c1,c2,rfl,h1,h2⟩:=h
  exact⟨c1,c2,rfl,h1.cm k,h2.cm k⟩
 | .arr n e,_,x,h=>by
  simp only[Rd]at h ⊢
  obtain⟨hn,UW,hc,rfl,hr⟩:=h
  exact⟨hn,UW,hc,rfl,λi hi nD=>(hr i hi nD).cm k⟩
theorem fi.refl(w:World)(M:Nat→Prop):fi w M w M:=⟨aH _,λ_ _ _=>rfl,λ_ _ h=>h⟩
theorem fi.trans{w w' w'':World}{M M' Rl:Nat→Prop}(h:fi w M w' M')(k:fi w' M' w'' Rl):fi w M w'' Rl:=
 ⟨ct h.size k.size,λb hb hm=>(k.block b (nc hb h.size) (λh'=>hm (h.less b hb h'))).trans (h.block b hb hm),
  λb hb hm=>h.less b hb (k.less b (nc hb h.size) hm)⟩
def V(w:World)(M:Nat→Prop)(τ:Ty)(v:Value)(x:τ.den):Prop:=
 if τ.isAgg then ∃cs,v= .agg cs∧Rd w M τ cs.toList x else Rd w M τ [v] x
theorem V.cm{w w':World}{M M':Nat→Prop}(k:fi w M w' M'){τ:Ty}{v:Value}{x:τ.den}(h:V w M τ v x):V w' M' τ v x:=by
 unfold V at*
 split
 ·rename_i ha;rw[ah ha]at h;obtain⟨cs,rfl,h⟩:=h;exact⟨cs,rfl,h.cm k⟩
 ·rename_i ha;rw[aj ha]at h;exact h.cm k
theorem Rd.scalar{w:World}{M:Nat→Prop}{τ:Ty}{cs:List Value}{x:τ.den}(ha:τ.isAgg=false)(h:Rd w M τ cs x): ∃v,cs=[v]∧v.cells= #[v]:=by
 cases τ<;>simp only[Ty.isAgg,Bool.true_eq_false]at ha<;>simp only[Rd]at h
 ·exact⟨_,h,rfl⟩
 ·exact⟨_,h,rfl⟩
 ·exact⟨_,h,rfl⟩
 ·obtain⟨a,cap,rfl,_⟩:=h;exact⟨_,rfl,rfl⟩
theorem V.cells{w:World}{M:Nat→Prop}{τ:Ty}{v:Value}{x:τ.den}(h:V w M τ v x):Rd w M τ v.cells.toList x:=by
 unfold V at h
 by_cases ha:τ.isAgg=true
 ·rw[ah ha]at h;obtain⟨cs,rfl,h⟩:=h;exact h
 ·rw[aj ha]at h
  obtain⟨v',hv,hc⟩:=h.scalar (by simpa using ha)
  simp only[fu,ec]at hv
  subst hv
  rw[hc];exact h
def cR(τ:Ty)(cs:List Value):Value:=if τ.isAgg then .agg cs.toArray else cs.headD (.tuple #[])
theorem V.cR{w:World}{M:Nat→Prop}{τ:Ty}{cs:List Value}{x:τ.den}(h:Rd w M τ cs x):V w M τ (cR τ cs) x:=by
 unfold V VM.cR
 by_cases ha:τ.isAgg=true
 ·rw[ah ha,ah ha];exact⟨_,rfl,by simpa using h⟩
 ·rw[aj ha,aj ha]
  obtain⟨v',rfl,_⟩:=h.scalar (by simpa using ha)
  exact h
theorem Ij{w:World}{M:Nat→Prop}{τ:Ty}{cs:List Value}{x:τ.den}(h:Rd w M τ cs x):(cR τ cs).cells.toList=cs:=by
 unfold VM.cR
 by_cases ha:τ.isAgg=true
 ·rw[ah ha];simp[Value.cells]
 ·rw[aj ha]
  obtain⟨v',rfl,hc⟩:=h.scalar (by simpa using ha)
  simp[hc]
theorem Rd.o9{w:World}{M:Nat→Prop}: ∀{τ:Ty} {cs:List Value} {x:τ.den},Rd w M τ cs x→ ∀v∈cs,v.oneCell'=true
 | .int _,_,_,h=>by simp only[Rd]at h;subst h;simp[Value.oneCell']
 | .bool,_,_,h=>by simp only[Rd]at h;subst h;simp[Value.oneCell']
 | .str,_,_,h=>by simp only[Rd]at h;subst h;simp[Value.oneCell']
 | .slice _,_,_,h=>by simp only[Rd]at h;obtain⟨a,cap,rfl,_⟩:=h;simp[Value.oneCell']
 | .unit,_,_,h=>by simp only[Rd]at h;subst h;simp
 | .pair a b,_,_,h=>by
  simp only[Rd]at h
  obtain⟨c1,c2,rfl,h1,h2⟩:=h
  intro v hv
  rcases bk.1 hv with hv|hv
  ·exact h1.o9 v hv
  ·exact h2.o9 v hv
 | .arr n e,_,x,h=>by
  simp only[Rd]at h
  obtain⟨hn,UW,hc,rfl,hr⟩:=h
  intro v hv
  obtain⟨l,hl,hvl⟩:=List.mem_flatten.1 hv
  obtain⟨i,hi,rfl⟩:=rB.1 hl
  exact(hr i ω hi).o9 v hvl
def Ty.du:Ty→List Value
 | .int k=>[.int k 0]
 | .bool=>[.bool false]
 | .str=>[.string ByteArray.empty]
 | .slice _=>[.slice none 0 0]
 | .unit=>[]
 | .pair a b=>a.du++b.du
 | .arr n e=>(List.replicate n e.du).flatten
theorem Rd.zero(w:World)(M:Nat→Prop): ∀(τ:Ty),Rd w M τ τ.du τ.zero
 | .int _| .bool| .str| .unit=>by simp[Rd,Ty.du,Ty.zero]
 | .slice _=>by
  simp only[Rd,Ty.du,Ty.zero]
  exact⟨none,0,rfl,aH _,λi h=>absurd h (by simp)⟩
 | .pair a b=>by
  simp only[Rd,Ty.du,Ty.zero]
  exact⟨_,_,rfl,Rd.zero w M a,Rd.zero w M b⟩
 | .arr n e=>by
  simp only[Rd,Ty.du,Ty.zero]
  refine⟨by simp,_,by simp,rfl,λi h h'=> ?_⟩
  simp only[M8,Fl]
  exact Rd.zero w M e
end VM
end
section
namespace VM
open Go
def KP(P:Program)(τ:Ty)(t:TypeId):Prop:=
 ∃i,P.info? t=some i∧i.size=τ.size∧i.zero=some (cR τ τ.du)∧i.bytes≤2048
def fO(P:Program):Ty→TypeId ⊕ (Array Field×Nat×Nat)→Prop
 | .int k,.inl t=>KP P (.int k) t∧P.underlying t=some (.int k)
 | .bool,.inl t=>KP P .bool t∧P.underlying t=some .bool
 | .str,.inl t=>KP P .str t∧P.underlying t=some .string
 | .slice e,.inl t=>KP P (.slice e) t∧ ∃e',P.underlying t=some (.slice e')∧fO P e (.inl e')
 | .arr n e,.inl t=>KP P (.arr n e) t∧ ∃e',P.underlying t=some (.array n e')∧fO P e (.inl e')
 | .unit,.inl t=>KP P .unit t∧ ∃fs,P.underlying t=some (.struct fs)∧fs.size=0
 | .unit,.inr (fs,n,_)=>fs.size=n
 | .pair a b,.inl t=>KP P (.pair a b) t∧ ∃fs f,P.underlying t=some (.struct fs)∧fs[0]? =some f∧f.offset=0∧fO P a (.inl f.type)∧fO P b (.inr (fs,1,a.size))
 | .pair a b,.inr (fs,n,off)=> ∃f,fs[n]? =some f∧f.offset=off∧fO P a (.inl f.type)∧fO P b (.inr (fs,n+1,off+a.size))
 |_,.inr _=>False
def kO(P:Program)(τ:Ty)(t:TypeId):Prop:=fO P τ (.inl t)
theorem kO.base{P:Program}{τ:Ty}{t:TypeId}(h:kO P τ t):KP P τ t:=by
 unfold kO at h;cases τ<;>simp only[fO]at h<;>exact h.1
theorem kO.int{P:Program}{k:IntKind}{t:TypeId}(h:kO P (.int k) t):P.underlying t=some (.int k):=by simp only[kO,fO]at h;exact h.2
theorem kO.bool{P:Program}{t:TypeId}(h:kO P .bool t):P.underlying t=some .bool:=by simp only[kO,fO]at h;exact h.2
theorem kO.str{P:Program}{t:TypeId}(h:kO P .str t):P.underlying t=some .string:=by simp only[kO,fO]at h;exact h.2
theorem kO.slice{P:Program}{e:Ty}{t:TypeId}(h:kO P (.slice e) t): ∃e',P.underlying t=some (.slice e')∧kO P e e':=by simp only[kO,fO]at h;exact h.2
theorem kO.arr{P:Program}{n:Nat}{e:Ty}{t:TypeId}(h:kO P (.arr n e) t): ∃e',P.underlying t=some (.array n e')∧kO P e e':=by simp only[kO,fO]at h;exact h.2
theorem kO.isSome{P:Program}{τ:Ty}{t:TypeId}(h:kO P τ t):(P.underlying t).isSome=true:=by
 unfold kO at h
 cases τ<;>simp only[fO]at h
 ·simp[h.2]
 ·simp[h.2]
 ·simp[h.2]
 ·obtain⟨_,e',h',_⟩:=h;simp[h']
 ·obtain⟨_,e',h',_⟩:=h;simp[h']
 ·obtain⟨_,e',f,h',_⟩:=h;simp[h']
 ·obtain⟨_,e',h',_⟩:=h;simp[h']
inductive D1:(τ:Ty)→τ.den→Nat→(υ:Ty)→υ.den→Nat→Prop where
 |here {a b:Ty} (x:(Ty.pair a b).den):D1 (.pair a b) x 0 a x.1 0
 |there {a b:Ty} (x:(Ty.pair a b).den) {n:Nat} {υ:Ty} {y:υ.den} {o:Nat} (h:D1 b x.2 n υ y o):D1 (.pair a b) x (n+1) υ y (a.size+o)
theorem uG{α:Type}{r:α}: ∀{τ:Ty} {x:τ.den} {n:Nat} {k:(υ:Ty)→υ.den→Option α},yF τ x n k=some r→ ∃υ y o,D1 τ x n υ y o∧k υ y=some r
 | .pair a b,x,0,k,h=>⟨a,x.1,0,.here x,h⟩
 | .pair a b,x,n+1,k,h=>by
  obtain⟨υ,y,o,hf,hk⟩:=uG (τ:=b) (x:=x.2) (n:=n) (k:=k) h
  exact⟨υ,y,_,.there x hf,hk⟩
 | .int _,_,_,_,h| .bool,_,_,_,h| .str,_,_,_,h| .slice _,_,_,_,h| .unit,_,_,_,h| .arr _ _,_,_,_,h=>by simp[yF]at h
theorem D1.bound{τ:Ty}{x:τ.den}{n:Nat}{υ:Ty}{y:υ.den}{o:Nat}(h:D1 τ x n υ y o):o+υ.size≤τ.size:=by
 induction h with
 |here x=>simp[Ty.size]
 |there x h ih=>simp only[Ty.size];omega
theorem D1.rd{w:World}{M:Nat→Prop}{τ:Ty}{x:τ.den}{n:Nat}{υ:Ty}{y:υ.den}{o:Nat}(h:D1 τ x n υ y o):
  ∀{cs:List Value},Rd w M τ cs x→Rd w M υ ((cs.drop o).take υ.size) y:=by
 induction h with
 |here x=>
  intro cs hr
  simp only[Rd]at hr
  obtain⟨c1,c2,rfl,h1,_⟩:=hr
  rw[c0,w4 h1.length];exact h1
 |there x h ih=>
  intro cs hr
  simp only[Rd]at hr
  obtain⟨c1,c2,rfl,h1,h2⟩:=hr
  rw[←jL,nq h1.length]
  exact ih h2
theorem fO.kE{P:Program}{τ:Ty}{x:τ.den}{m:Nat}{υ:Ty}{y:υ.den}{o:Nat}(h:D1 τ x m υ y o):
  ∀{fs:Array Field} {n off:Nat},fO P τ (.inr (fs,n,off))→ ∃f,fs[n+m]? =some f∧f.offset=off+o∧kO P υ f.type:=by
 induction h with
 |here x=>
  intro fs n off hl
  simp only[fO]at hl
  obtain⟨f,hf,ho,ha,_⟩:=hl
  exact⟨f,hf,by simpa using ho,ha⟩
 |there x h ih=>
  intro fs n off hl
  simp only[fO]at hl
  obtain⟨f,hf,ho,_,hb⟩:=hl
  obtain⟨f',BZ,ho',KQ⟩:=ih hb
  exact⟨f',by rw[←BZ];congr 1;omega,ω,KQ⟩
theorem kO.kE{P:Program}{τ:Ty}{t:TypeId}{x:τ.den}{m:Nat}{υ:Ty}{y:υ.den}{o:Nat}(hl:kO P τ t)(h:D1 τ x m υ y o):
  ∃fs f,P.underlying t=some (.struct fs)∧fs[m]? =some f∧f.offset=o∧kO P υ f.type:=by
 unfold kO at hl
 cases h with
 |here x=>
  simp only[fO]at hl
  obtain⟨_,fs,f,hu,hf,ho,ha,_⟩:=hl
  exact⟨fs,f,hu,hf,ho,ha⟩
 |there x h=>
  simp only[fO]at hl
  obtain⟨_,fs,f,hu,hf,ho,_,hb⟩:=hl
  obtain⟨f',BZ,ho',KQ⟩:=fO.kE h hb
  exact⟨fs,f',hu,by rw[←BZ];congr 1;omega,ω,KQ⟩
inductive KR:List Step→(τ:Ty)→τ.den→(υ:Ty)→υ.den→Nat→Prop where
 |nil {τ:Ty} (x:τ.den):KR [] τ x τ x 0
 |kE {p:List Step} {τ υ σ:Ty} {x:τ.den} {n o:Nat} {y:υ.den} {z:σ.den} {q:Nat} (h:D1 τ x n υ y o) (r:KR p υ y σ z q):KR (.kE n::p) τ x σ z (o+q)
 |idx {p:List Step} {n:Nat} {e σ:Ty} {x:(Ty.arr n e).den} {i:Nat} {z:σ.den} {q:Nat} (r:KR p e (List.getD x i e.zero) σ z q):KR (.idx i::p) (.arr n e) x σ z (i*e.size+q)
theorem kg{α:Type}{r:α}: ∀{p:List Step} {τ:Ty} {x:τ.den} {k:(υ:Ty)→υ.den→Option α},Ay p τ x k=some r→ ∃υ y o,KR p τ x υ y o∧k υ y=some r
 |[],τ,x,k,h=>⟨τ,x,0,.nil x,h⟩
 | .kE n::p,τ,x,k,h=>by
  obtain⟨υ,y,o,hf,h'⟩:=uG (h:yF τ x n _=some r)
  obtain⟨σ,z,q,hp,hk⟩:=kg h'
  exact⟨σ,z,_,.kE hf hp,hk⟩
 | .idx i::p,τ,x,k,h=>by
  cases τ with
  |arr n e=>
   obtain⟨σ,z,q,hp,hk⟩:=kg (p:=p) (τ:=e) (x:=List.getD x i e.zero) (k:=k) h
   exact⟨σ,z,_,.idx hp,hk⟩
  |_=>simp[Ay,aji]at h
def wM:Ty→Nat→Ty
 | .pair a b,n=>match n with|0=>a|n+1=>wM b n
 |τ,_=>τ
def sV:Ty→Nat→Nat
 | .pair a b,n=>match n with|0=>0|n+1=>a.size+sV b n
 |_,_=>0
def elT:Ty→Ty
 | .arr _ e=>e
 |τ=>τ
def Ik:List Step→Ty→Ty
 |[],τ=>τ
 | .kE n::p,τ=>Ik p (wM τ n)
 | .idx _::p,τ=>Ik p (elT τ)
def cJ:List Step→Ty→Nat
 |[],_=>0
 | .kE n::p,τ=>sV τ n+cJ p (wM τ n)
 | .idx i::p,τ=>i*(elT τ).size+cJ p (elT τ)
def yH:List Step→Ty→Prop
 |[],_=>True
 | .kE n::p,τ=>yH p (wM τ n)
 | .idx i::p,τ=>(∃n e,τ= .arr n e∧i<n)∧yH p (elT τ)
theorem D1.eq{τ:Ty}{x:τ.den}{n:Nat}{υ:Ty}{y:υ.den}{o:Nat}(h:D1 τ x n υ y o):υ=wM τ n∧o=sV τ n:=by
 induction h with
 |here x=>exact⟨rfl,rfl⟩
 |there x h ih=>obtain⟨rfl,rfl⟩:=ih;exact⟨rfl,rfl⟩
theorem KR.eq{p:List Step}{τ:Ty}{x:τ.den}{υ:Ty}{y:υ.den}{o:Nat}(h:KR p τ x υ y o):υ=Ik p τ∧o=cJ p τ:=by
 induction h with
 |nil x=>exact⟨rfl,rfl⟩
 |kE h r ih=>
  obtain⟨h1,h2⟩:=h.eq
  obtain⟨h3,h4⟩:=ih
  subst h1 h2 h3 h4
  exact⟨rfl,rfl⟩
 |idx r ih=>
  obtain⟨h3,h4⟩:=ih
  subst h3 h4
  exact⟨rfl,rfl⟩
theorem ajm(p q:List Step): ∀τ,Ik (p++q) τ=Ik q (Ik p τ):=by
 induction p with
 |nil=>intro τ;rfl
 |cons s p ih=>intro τ;cases s<;>simp[Ik,ih]
theorem th(p q:List Step): ∀τ,cJ (p++q) τ=cJ p τ+cJ q (Ik p τ):=by
 induction p with
 |nil=>intro τ;simp[cJ,Ik]
 |cons s p ih=>intro τ;cases s<;>simp[cJ,Ik,ih,py]
theorem ti(p q:List Step): ∀τ,yH (p++q) τ↔yH p τ∧yH q (Ik p τ):=by
 induction p with
 |nil=>intro τ;simp[yH,Ik]
 |cons s p ih=>intro τ;cases s<;>simp[yH,Ik,ih,and_assoc]
theorem kP{α:Type}(l:List α)(i:Nat)(d:α)(h:i<l.length):l.getD i d=l[i]:=by simp[List.getD,bg h]
theorem Az{α:Type}(n:Nat): ∀(l:List (List α)) (i:Nat) (h:i<l.length),(∀j (hj:j<l.length),l[j].length=n)→(l.flatten.drop (i*n)).take n=l[i]
 |a::l,0,_,hn=>by
  have:=hn 0 (by simp)
  simp only[Fg]at this
  simp[←this]
 |a::l,i+1,h,hn=>by
  have h0:=hn 0 (by simp)
  simp only[Fg]at h0
  rw[Af,eE,kb,Nat.add_comm (i*n) n,←jL,nq h0]
  exact Az n l i (by simpa using h) (λj hj=>hn (j+1) (by simp;omega))
theorem Rd.idx{w:World}{M:Nat→Prop}{n:Nat}{e:Ty}{cs:List Value}{x:(Ty.arr n e).den}(h:Rd w M (.arr n e) cs x){i:Nat}(hi:i<n):
  Rd w M e ((cs.drop (i*e.size)).take e.size) (List.getD x i e.zero):=by
 simp only[Rd]at h
 obtain⟨hn,UW,hc,rfl,hr⟩:=h
 rw[Az e.size UW i ω (λj hj=>(hr j ω hj).length),kP x i e.zero ω]
 exact hr i ω ω
theorem KR.bound{p:List Step}{τ:Ty}{x:τ.den}{υ:Ty}{y:υ.den}{o:Nat}(h:KR p τ x υ y o):yH p τ→o+υ.size≤τ.size:=by
 induction h with
 |nil x=>intro _;simp
 |kE h r ih=>
  intro hi
  obtain⟨h1,h2⟩:=h.eq
  subst h1
  have:=ih hi
  have:=h.bound
  omega
 | @idx p n e σ x i z q r ih=>
  intro hi
  obtain⟨⟨n',e',he,lj⟩,nD⟩:=hi
  cases he
  have:=ih nD
  have h2:(i+1)*e.size≤n*e.size:=kJ _ lj
  rw[eE]at h2
  simp only[Ty.size]
  omega
theorem KR.rd{w:World}{M:Nat→Prop}{p:List Step}{τ:Ty}{x:τ.den}{υ:Ty}{y:υ.den}{o:Nat}(h:KR p τ x υ y o):
  yH p τ→ ∀{cs:List Value},Rd w M τ cs x→Rd w M υ ((cs.drop o).take υ.size) y:=by
 induction h with
 |nil x=>intro _ cs hr;rw[c0,jK (by rw[hr.length];exact aH _)];exact hr
 |kE h r ih=>
  intro hi cs hr
  obtain⟨h1,h2⟩:=h.eq
  subst h1
  have:=ih hi (h.rd hr)
  have hb:=KR.bound r hi
  rw[rF,jL,rG,iB ω]at this
  exact this
 | @idx p n e σ x i z q r ih=>
  intro hi cs hr
  obtain⟨⟨n',e',he,lj⟩,nD⟩:=hi
  cases he
  have:=ih nD (hr.idx lj)
  have hb:=KR.bound r nD
  rw[rF,jL,rG,iB ω]at this
  exact this
def fk{α:Type}(cs:List α)(o:Nat)(new:List α):List α:=cs.take o++new++cs.drop (o+new.length)
theorem AA{α:Type}{a b:List α}{o:Nat}{new:List α}(h:o+new.length≤a.length):fk (a++b) o new=fk a o new++b:=by
 unfold fk
 rw[zX ω,zY ω]
 simp only[bH]
theorem yh{α:Type}{a b:List α}{o:Nat}{new:List α}:fk (a++b) (a.length+o) new=a++fk b o new:=by
 unfold fk
 rw[List.take_append,jK ω,z7,py,List.drop_append,kI ω,z7]
 simp
theorem gD{α:Type}{a:List α}{o:Nat}{new:List α}(h:o+new.length≤a.length):(fk a o new).length=a.length:=by
 unfold fk;simp;omega
theorem KS{α:Type}{a:List α}{o i n:Nat}{new:List α}(h:i+n≤o∨o+new.length≤i)(hl:o+new.length≤a.length):((fk a o new).drop i).take n=(a.drop i).take n:=by
 apply Ah
 intro j
 simp only[mg,mh]
 split
 ·rename_i hj
  unfold fk
  rcases h with h|h
  ·rw[bH,tc (by simp;omega),mg,ah ω]
  ·rw[lY (by simp;omega)]
   simp only[aM,cc,iB (show o≤a.length by omega),mh]
   congr 1;omega
 ·rfl
theorem ajn{α:Type}{a:List α}{o:Nat}{new:List α}(hl:o+new.length≤a.length):((fk a o new).drop o).take new.length=new:=by
 unfold fk
 rw[bH,nq (by simp;omega),w4 rfl]
theorem Nm{α:Type}{l:List α}{o:Nat}{u:α}(h:l[o]? =some u):fk l o [u]=l:=by
 obtain⟨fj,rfl⟩:=vo.1 h
 unfold fk
 simp
theorem EG{α:Type}{l:List α}{o:Nat}{u:α}(h:o<l.length):(fk l o [u])[o]? =some u:=by
 unfold fk
 rw[bH,lY (by simp;omega)]
 simp[iB (Nat.le_of_lt h)]
theorem uH{τ:Ty}: ∀{n:Nat} {a:Ty},KK τ n=some a→ ∀x:τ.den,∃y o,D1 τ x n a y o:=by
 induction τ with
 |pair a b _ Xz=>
  intro n c h x
  cases n with
  |zero=>cases h;exact⟨_,_,.here x⟩
  |succ n=>
   obtain⟨y,o,hf⟩:=Xz (n:=n) (a:=c) h x.2
   exact⟨y,_,.there x hf⟩
 |_=>intro n c h;simp[KK]at h
theorem uI: ∀{p:List Step} {τ υ:Ty},gN p τ υ=true→ ∀x:τ.den,∃y o,KR p τ x υ y o
 |[],τ,υ,h,x=>by
  have h:=bA h
  subst h
  exact⟨x,0,.nil x⟩
 | .kE n::p,τ,υ,h,x=>by
  unfold gN at h
  split at h
  ·rename_i a ha
   obtain⟨y,o,hf⟩:=uH ha x
   obtain⟨z,q,hp⟩:=uI h y
   exact⟨z,_,.kE hf hp⟩
  ·cases h
 | .idx _::_,_,_,h,_=>by simp[gN]at h
theorem kQ: ∀{p:List Step} {τ υ:Ty},gN p τ υ=true→yH p τ∧Ik p τ=υ
 |[],τ,υ,h=>⟨trivial,bA h⟩
 | .kE n::p,τ,υ,h=>by
  have h0:=h
  unfold gN at h
  split at h
  ·rename_i a ha
   obtain⟨y,o,hf⟩:=uH ha τ.zero
   obtain⟨h1,h2⟩:=kQ h
   have:=hf.eq.1
   subst this
   exact⟨h1,h2⟩
  ·cases h
 | .idx _::_,_,_,h=>by simp[gN]at h
theorem B0: ∀{p q:List Step},Nc p q=true→p=q
 |[],[],_=>rfl
 | .kE a::p,.kE b::q,h=>by
  simp only[Nc,bB]at h
  rw[fR h.1,B0 h.2]
 |[],_::_,h| .kE _::_,[],h| .idx _::_,_,h| .kE _::_,.idx _::_,h=>by simp[Nc]at h
theorem D1.apart{τ:Ty}{x:τ.den}{n:Nat}{υ:Ty}{y:υ.den}{o:Nat}(h:D1 τ x n υ y o): ∀{x':τ.den} {n':Nat} {υ':Ty} {y':υ'.den} {o':Nat},D1 τ x' n' υ' y' o'→n≠n'→o+υ.size≤o'∨o'+υ'.size≤o:=by
 induction h with
 |here x=>
  intro x' n' υ' y' o' h' iI
  cases h' with
  |here=>exact absurd rfl iI
  |there _ h'=>left;omega
 |there x h ih=>
  intro x' n' υ' y' o' h' iI
  cases h' with
  |here=>right;omega
  |there _ h'=>rcases ih h' (λe=>iI (by rw[e]))with h1|h1<;>omega
theorem KR.apart{p:List Step}{τ:Ty}{x:τ.den}{υ:Ty}{y:υ.den}{o:Nat}(h:KR p τ x υ y o):yH p τ→ ∀{q:List Step} {e:Ty},gN q τ (.slice e)=true→yE p q=false→cJ q τ<o∨o+υ.size≤cJ q τ:=by
 induction h with
 |nil x=>intro _ q e _ h;simp[yE]at h
 | @kE p τ υ σ x n o y z q hf r ih=>
  intro hi q' e hq hp
  obtain⟨h1,h2⟩:=hf.eq
  subst h1 h2
  cases q' with
  |nil=>
   have:=bA hq
   subst this
   cases hf
  |cons s q'=>
   cases s with
   |idx i=>simp[gN]at hq
   |kE m=>
    unfold gN at hq
    split at hq
    ·rename_i a ha
     obtain⟨y',o',BZ⟩:=uH ha x
     obtain⟨h3,h4⟩:=BZ.eq
     subst h3 h4
     have hb:=r.bound hi
     obtain⟨h5,h6⟩:=kQ hq
     obtain⟨z',o2,D2⟩:=uI hq y'
     have fg:=D2.bound h5
     have ho2:=D2.eq.2
     subst ho2
     simp only[cJ]
     by_cases hnm:n=m
     ·subst hnm
      have B1:yE p q'=false:=by
       simp only[yE,Bool.and_eq_false_iff]at hp
       rcases hp with hp|hp
       ·rw[uC]at hp;cases hp
       ·exact hp
      rcases ih hi hq B1 with h7|h7<;>omega
     ·rcases hf.apart BZ hnm with h7|h7
      ·right;omega
      ·left
       have:1≤(Ty.slice e).size:=aH _
       omega
    ·cases hq
 | @idx p n e' σ x i z q r ih=>
  intro hi q' e hq hp
  cases q' with
  |nil=>have:=bA hq;cases this
  |cons s q'=>
   cases s with
   |idx i=>simp[gN]at hq
   |kE m=>simp[gN,KK]at hq
def fI:Value→Option Nat
 | .pointer (some a)=>some a.block
 | .slice (some a) _ cap=>if cap=0 then none else some a.block
 |_=>none
def bl.mut:bl→Prop
 | .obj _ _| .own _ _| .ga _ _ _ _=>True
 |_=>False
def ER(w:World)(M:Nat→Prop)(v:Value):bl→Prop
 | .obj τ x=> ∃b cs t,v= .pointer (some ⟨b,0,none⟩)∧w.heap[b]? =some (.cells cs t (0,0))∧M b∧Rd w M τ cs.toList x
 | .ga τ x p _=> ∃b cs t tj u,v= .pointer (some ⟨b,0,none⟩)∧w.heap[b]? =some (.cells cs t (0,0))∧M b∧Rd w M τ tj x∧cs.toList=fk tj (cJ p τ) [u]∧u.oneCell'=true∧ ∃e,gN p τ (.slice e)=true
 | .own e l=>(l=[]∧ ∃a,v= .slice a 0 0)∨
  ∃b cs t cap,v= .slice (some ⟨b,0,none⟩) l.length cap∧w.heap[b]? =some (.cells cs t (0,0))∧M b∧0<cap∧l.length≤cap∧cap≤maxLen∧cs.size=cap*e.size∧
   ∀i (h:i<l.length),Rd w M e ((cs.toList.drop (i*e.size)).take e.size) l[i]
 | .o8 e l=>Rd w M (.slice e) [v] l∧((l=[]∧ ∃a n c,v= .slice a n c)∨ ∃b n c,v= .slice (some ⟨b,0,none⟩) n c)
 | .gone=>True
def AR(v:Value)(p:List Step)(u:Value):bl→Prop
 | .obj τ _| .ga τ _ _ _=>yH p τ∧ ∃b,v= .pointer (some ⟨b,0,none⟩)∧u= .pointer (some ⟨b,cJ p τ,none⟩)
 | .own e l| .o8 e l=> ∃i q,p= .idx i::q∧i<l.length∧yH q e∧ ∃b n c,v= .slice (some ⟨b,0,none⟩) n c∧u= .pointer (some ⟨b,i*e.size+cJ q e,none⟩)
 | .gone=> ∃a,u= .pointer (some a)
mutual
def VR(w:World)(M:Nat→Prop)(H:Nat→Option bl)(ν:Nat→Value):bI→Value→Prop
 | .any,_=>True
 | .Xx,v=>v=undef
 | .val τ x,v=>V w M τ v x
 | .KL τ x n,v=>V w M τ v x∧ ∃cs a,v= .agg cs∧cs.toList[sV τ n]? =some (.slice a 0 0)
 | .emp,v=> ∃a,v= .slice a 0 0
 | .ref id,v=>H id≠none∧v=ν id
 | .jr id p,v=> ∃e,H id=some e∧AR (ν id) p v e
 | .rP τ x,v=> ∃b off,v= .pointer (some ⟨b,off,none⟩)∧b<w.heap.size∧ ¬M b∧ ∃cs,At w b off cs∧Rd w M τ cs x
 | .tup vs,v=> ∃us:List Value,v= .tuple us.toArray∧ju w M H ν vs us
 | .Nd f caps,v=> ∃cs:List Value,v= .func (.func f) #[] cs.toArray∧ju w M H ν caps cs
def ju(w:World)(M:Nat→Prop)(H:Nat→Option bl)(ν:Nat→Value):List bI→List Value→Prop
 |[],[]=>True
 |a::as,v::vs=>VR w M H ν a v∧ju w M H ν as vs
 |_,_=>False
end
def bl.lJ:bl→bl→Prop
 | .obj τ _,.obj υ _| .obj τ _,.ga υ _ _ _| .ga τ _ _ _,.obj υ _| .ga τ _ _ _,.ga υ _ _ _=>τ=υ
 | .own e l,.own f k| .own e l,.o8 f k| .o8 e l,.o8 f k=>e=f∧l.length=k.length
 |_,.gone=>True
 |_,_=>False
structure tU(H:Nat→Option bl)(ν:Nat→Value)(H':Nat→Option bl)(ν':Nat→Value):Prop where
 ll: ∀i e,H i=some e→ ∃e',H' i=some e'∧e.lJ e'
 head: ∀i,H i≠none→ν' i=ν i
theorem AR.ptr{v:Value}{p:List Step}{u:Value}{e:bl}(h:AR v p u e): ∃a,u= .pointer (some a):=by
 cases e<;>simp only[AR]at h
 ·obtain⟨_,b,_,h⟩:=h;exact⟨_,h⟩
 ·obtain⟨_,b,_,h⟩:=h;exact⟨_,h⟩
 ·obtain⟨i,q,_,_,_,b,n,c,_,h⟩:=h;exact⟨_,h⟩
 ·obtain⟨i,q,_,_,_,b,n,c,_,h⟩:=h;exact⟨_,h⟩
 ·exact h
theorem AR.lJ{v:Value}{p:List Step}{u:Value}{e e':bl}(h:AR v p u e)(l:e.lJ e'):AR v p u e':=by
 have hp:=h.ptr
 cases e<;>cases e'<;>simp only[bl.lJ]at l<;>simp only[AR]at h ⊢ <;>try exact hp
 ·subst l;exact h
 ·subst l;exact h
 ·subst l;exact h
 ·subst l;exact h
 ·obtain⟨rfl,hl⟩:=l;obtain⟨i,q,hp,hi,r⟩:=h;exact⟨i,q,hp,ω,r⟩
 ·obtain⟨rfl,hl⟩:=l;obtain⟨i,q,hp,hi,r⟩:=h;exact⟨i,q,hp,ω,r⟩
 ·obtain⟨rfl,hl⟩:=l;obtain⟨i,q,hp,hi,r⟩:=h;exact⟨i,q,hp,ω,r⟩
theorem bl.lJ.refl(e:bl):e.lJ e:=by cases e<;>simp[bl.lJ]
theorem tU.refl(H:Nat→Option bl)(ν:Nat→Value):tU H ν H ν:=⟨λ_ e h=>⟨e,h,.refl e⟩,λ_ _=>rfl⟩
mutual
theorem VR.cm{w w':World}{M M':Nat→Prop}{H H':Nat→Option bl}{ν ν':Nat→Value}(k:fi w M w' M')(g:tU H ν H' ν'):
  ∀{a:bI} {v:Value},VR w M H ν a v→VR w' M' H' ν' a v
 | .any,_,_=>by simp[VR]
 | .Xx,_,h=>by simpa [VR]using h
 | .val τ x,v,h=>by simp only[VR]at h ⊢;exact h.cm k
 | .KL τ x n,v,h=>by simp only[VR]at h ⊢;exact⟨h.1.cm k,h.2⟩
 | .emp,_,h=>by simpa [VR]using h
 | .ref id,_,h=>by
  simp only[VR]at h ⊢
  obtain⟨h1,h2⟩:=h
  obtain⟨e,he⟩:=E9.1 h1
  obtain⟨e',xi,_⟩:=g.ll id e he
  exact⟨by simp[xi],by rw[g.head id h1];exact h2⟩
 | .jr id p,_,h=>by
  simp only[VR]at h ⊢
  obtain⟨e,he,ha⟩:=h
  obtain⟨e',xi,hl⟩:=g.ll id e he
  exact⟨e',xi,by rw[g.head id (by simp[he])];exact ha.lJ hl⟩
 | .rP τ x,_,h=>by
  simp only[VR]at h ⊢
  obtain⟨b,off,rfl,hb,hm,cs,ha,hr⟩:=h
  exact⟨b,off,rfl,nc hb k.size,λh'=>hm (k.less b hb h'),cs,ha.cm (k.block b hb hm),hr.cm k⟩
 | .tup vs,_,h=>by
  simp only[VR]at h ⊢
  obtain⟨us,rfl,h⟩:=h
  exact⟨us,rfl,ju.cm k g h⟩
 | .Nd f caps,_,h=>by
  simp only[VR]at h ⊢
  obtain⟨us,rfl,h⟩:=h
  exact⟨us,rfl,ju.cm k g h⟩
theorem ju.cm{w w':World}{M M':Nat→Prop}{H H':Nat→Option bl}{ν ν':Nat→Value}(k:fi w M w' M')(g:tU H ν H' ν'):
  ∀{as:List bI} {vs:List Value},ju w M H ν as vs→ju w' M' H' ν' as vs
 |[],[],_=>by simp[ju]
 |a::as,v::vs,h=>by simp only[ju]at h ⊢;exact⟨VR.cm k g h.1,ju.cm k g h.2⟩
 |[],_::_,h=>by simp[ju]at h
 |_::_,[],h=>by simp[ju]at h
end
end VM
end
