/- A part of the proof of BookAtOnce of layer 18: a machine that reads a function of the program as an equation between values. -/
import Derived.KernelRfl
import GoSem.Claims
import Derived.WalkKit
import Derived.ArgAppend
import Derived.Laws.CopyRow
import Derived.Laws.MakeOwn
import Derived.Laws.OwnMore
import Derived.Orders
import Derived.LoopN
set_option linter.all false
open List renaming length→ℓ, getD→γ
theorem ω{p:Prop}(h:p:=by omega):p:=h
theorem δ{p:Prop}(h:p:=by decide):p:=h
theorem κ{p:Prop}(h:p:=by kernel_rfl):p:=h
noncomputable section
abbrev ar:=@Option.bind_some
abbrev ak:=@cond_true
abbrev aJ:=@List.length_singleton
abbrev aV:=@List.getD_eq_getElem?_getD
abbrev aI:=@Int.toNat_natCast
abbrev av:=@cond_false
abbrev bm:=@List.getElem?_eq_getElem
abbrev aj:=@if_pos
abbrev aS:=@List.length_append
abbrev ah:=@if_neg
abbrev aZ:=@List.mem_cons_of_mem
abbrev aT:=@List.length_cons
abbrev bn:=@Array.length_toList
abbrev aH:=@Nat.le_refl
abbrev bs:=@List.mem_cons_self
abbrev aU:=@decide_eq_true
abbrev bt:=@of_decide_eq_true
abbrev bk:=@List.mem_append
abbrev bE:=@List.append_assoc
abbrev a8:=@List.mem_cons
abbrev bx:=@decide_eq_false
abbrev bl:=@Bool.not_true
abbrev cn:=@List.mem_singleton
abbrev bM:=@Bool.and_eq_true
abbrev bV:=@List.length_take
abbrev c4:=@List.length_replicate
abbrev cU:=@List.mem_append_left
abbrev bP:=@List.length_set
abbrev da:=@Bool.and_eq_true_iff
abbrev cr:=@List.length_nil
abbrev dz:=@List.mem_append_right
abbrev bz:=@Nat.zero_le
abbrev bQ:=@List.map_cons
abbrev cw:=@List.append_nil
abbrev cK:=@List.length_map
abbrev cN:=@List.nil_append
abbrev cE:=@List.sum_cons
abbrev cV:=@List.drop_zero
abbrev ct:=@Nat.le_trans
abbrev dn:=@List.map_append
abbrev fF:=@Nat.eq_of_beq_eq_true
abbrev dJ:=@List.getElem_mem
abbrev dp:=@Bool.not_false
abbrev cW:=@List.mem_map
abbrev eX:=@List.pairwise_cons
abbrev fm:=@List.mem_map_of_mem
abbrev dY:=@List.length_drop
abbrev dK:=@Int.toNat_zero
abbrev gM:=@List.take_append_drop
abbrev fp:=@Option.mem_toList
abbrev fU:=@decide_eq_true_iff
abbrev ig:=@List.getElem?_eq_none
abbrev iz:=@List.take_of_length_le
abbrev gE:=@List.getElem_of_mem
abbrev iA:=@Array.getElem?_toList
abbrev jf:=@List.drop_of_length_le
abbrev lJ:=@Array.getElem?_eq_some_iff
abbrev fV:=@List.cons.injEq
abbrev gN:=@List.take_length
abbrev fu:=@Bool.and_true
abbrev iB:=@Option.some.injEq
abbrev eD:=@Nat.add_mul
abbrev kv:=@Nat.mul_le_mul_right
abbrev pj:=@List.getElem?_append_right
abbrev jL:=@Bool.false_eq_true
abbrev jg:=@List.size_toArray
abbrev ij:=@Nat.min_eq_left
abbrev lK:=@List.mem_of_mem_take
abbrev mP:=@List.mem_of_mem_drop
abbrev gn:=@Nat.zero_add
abbrev qF:=@List.drop_eq_getElem_cons
abbrev iC:=@List.drop_drop
abbrev mQ:=@Nat.mul_le_mul_left
abbrev tb:=@Array.getD_eq_getD_getElem?
abbrev fW:=@Int.le_refl
abbrev ky:=@List.cons_append
abbrev kz:=@List.all_eq_true
abbrev mR:=@List.getElem?_take
abbrev mS:=@List.getElem?_drop
abbrev gO:=@Int.le_trans
abbrev uZ:=@List.eq_nil_of_length_eq_zero
abbrev tc:=@List.getElem?_append_left
abbrev ik:=@List.map_nil
abbrev nM:=@Nat.lt_of_lt_of_le
abbrev td:=@List.take_append_getElem
abbrev mT:=@List.drop_length
abbrev yl:=@List.take_append_of_le_length
abbrev ym:=@List.drop_append_of_le_length
abbrev yp:=@Int.mul_le_mul_of_nonneg_left
abbrev u2:=@List.getElem?_eq_some_iff
abbrev u5:=@List.pairwise_iff_getElem
abbrev nN:=@Bool.not_eq_true
abbrev nO:=@Option.getD_some
abbrev pk:=@List.nodup_append
abbrev jM:=@Int.add_zero
abbrev u6:=@Int.eq_ofNat_of_zero_le
abbrev fv:=@congrArg
abbrev mU:=@List.take_zero
abbrev lL:=@Int.mul_assoc
abbrev kQ:=@List.sum_append
abbrev eF:=@and_true
abbrev uc:=@List.mem_or_eq_of_mem_set
abbrev pD:=@List.length_pos_iff
abbrev pE:=@List.map_congr_left
abbrev nP:=@List.getElem?_map
abbrev mz:=@List.drop_left'
abbrev jm:=@Int.mul_comm
abbrev jo:=@List.sum_nil
abbrev pF:=@Bool.false_ne_true
abbrev rD:=@List.mem_iff_getElem
abbrev ud:=@Option.bind_eq_some_iff
abbrev nQ:=@decide_eq_decide
abbrev kR:=@List.all_cons
abbrev kS:=@Bool.true_and
abbrev wP:=@Option.ne_none_iff_exists'
abbrev gZ:=@Array.ext'
abbrev nR:=@Option.some.inj
abbrev nS:=@Bool.or_eq_true
abbrev fG:=@if_false
abbrev ue:=@List.Pairwise.sublist
abbrev Al:=@Int.mul_le_mul_of_nonneg_right
abbrev pG:=@List.filter_cons
abbrev rE:=@Bool.not_eq_true'
abbrev rF:=@Bool.not_eq_false
abbrev pH:=@Bool.eq_iff_iff
abbrev fh:=@Ne.symm
abbrev mA:=@Nat.add_zero
abbrev wQ:=@List.drop_eq_nil_of_le
abbrev kT:=@Nat.one_mul
abbrev rG:=@List.mem_filter
abbrev nT:=@Nat.lt_or_ge
abbrev mB:=@Int.mul_add
abbrev g7:=@Prod.ext
abbrev wR:=@List.pairwise_append
abbrev pI:=@Nat.add_assoc
abbrev Am:=@List.getElem_append_left
abbrev An:=@List.eq_of_mem_replicate
abbrev wS:=@Int.toNat_of_nonneg
abbrev rH:=@List.drop_take
abbrev rI:=@List.take_take
abbrev Ao:=@Nat.add_sub_cancel_left
abbrev rJ:=@List.mem_range
abbrev pJ:=@Nat.beq_refl
abbrev Ap:=@Option.map_eq_some_iff
abbrev Aq:=@Int.ediv_lt_iff_lt_mul
abbrev ug:=@List.headD_cons
abbrev uh:=@Int.ediv_nonneg
abbrev rK:=@Bool.false_or
abbrev rL:=@Bool.or_false
abbrev g8:=@if_true
abbrev wT:=@List.length_range
abbrev wU:=@decide_eq_true_eq
abbrev wV:=@Bool.eq_false_iff
abbrev wW:=@List.pairwise_map
abbrev ui:=@Nat.mul_le_mul
abbrev Ar:=@Array.getElem_toList
abbrev uj:=@List.tail_cons
abbrev uk:=@Int.mul_nonneg
abbrev pK:=@Int.add_mul
abbrev um:=@Bool.false_and
abbrev nU:=@Int.not_lt
abbrev rM:=@Nat.mul_succ
abbrev FP:=@List.getElem_append_right
abbrev As:=@List.replicate_succ
abbrev wX:=@List.take_left'
abbrev wY:=@List.length_zip
abbrev Au:=@Int.emod_lt_of_pos
abbrev Av:=@Int.lt_of_le_of_lt
abbrev Aw:=@List.filter_append
abbrev rN:=@Nat.le_succ
abbrev rO:=@Nat.sub_mul
abbrev FQ:=@List.getElem?_replicate
abbrev FR:=@decide_eq_false_iff_not
abbrev FT:=@List.pairwise_singleton
abbrev FU:=@List.getElem_cons_zero
abbrev Ax:=@List.flatten_cons
abbrev Ay:=@List.ext_getElem?
abbrev uq:=@Nat.sub_self
abbrev Az:=@List.getElem_take
abbrev No:=@Array.getElem?_setIfInBounds_ne
abbrev FV:=@List.getElem?_toArray
abbrev FW:=@Nat.le_of_ble_eq_true
abbrev FX:=@List.singleton_append
abbrev AA:=@List.any_eq_true
abbrev Np:=@Nat.and_two_pow_sub_one_eq_mod
abbrev AB:=@beq_self_eq_true
abbrev AD:=@List.nodup_cons
abbrev FY:=@List.get_eq_getElem
abbrev Nq:=@Nat.two_pow_add_eq_or_of_lt
abbrev wZ:=@Int.zero_add
abbrev Nr:=@iff_iff_implies_and_implies
abbrev FZ:=@List.getElem_range
abbrev AE:=@List.mapM_cons
abbrev Ns:=@Int.fdiv_eq_ediv_of_nonneg
abbrev Nt:=@Int.add_mul_emod_self_left
abbrev ur:=@Int.not_le
abbrev F0:=@Int.tmod_lt_of_pos
abbrev Nu:=@Array.getElem?_eq_getElem
abbrev Nv:=@Classical.byContradiction
abbrev Nw:=@Int.le_of_mul_le_mul_left
abbrev Nx:=@Decidable.byContradiction
abbrev F1:=@List.getElem_drop
abbrev F2:=@Decidable.not_not
abbrev Ny:=@List.length_eq_zero_iff
abbrev Nz:=@List.getElem?_cons_zero
abbrev F3:=@List.nil_sublist
abbrev NA:=@Array.getElem?_eq_none
abbrev NB:=@List.getElem_replicate
abbrev w1:=@Nat.beq_eq
abbrev NC:=@List.append_eq_nil_iff
abbrev AF:=@Nat.pow_succ
abbrev AG:=@Int.pow_succ
abbrev AH:=@Int.mul_zero
abbrev ND:=@Int.ediv_eq_zero_of_lt
abbrev NF:=@List.getElem?_set_self
abbrev Ga:=@List.range_succ
abbrev Gb:=@Int.emod_nonneg
abbrev NG:=@List.length_filter_le
abbrev NH:=@Int.mul_ediv_add_emod
abbrev NI:=@Nat.div_lt_iff_lt_mul
abbrev NJ:=@Int.add_mul_ediv_left
abbrev NK:=@List.set_append_right
abbrev AI:=@Int.one_mul
abbrev Gc:=@Int.natAbs_mul
abbrev AJ:=@Int.mul_neg
abbrev Gd:=@Bool.and_false
abbrev Ge:=@Nat.lt_irrefl
abbrev Gf:=@List.any_cons
abbrev AK:=@Nat.blt_eq
abbrev AL:=@Nat.ble_eq
abbrev Gg:=@Nat.mul_comm
abbrev Gh:=@Int.sub_zero
abbrev Gi:=@Int.zero_mul
section
namespace VM
open Go
theorem aov{α:Type}(a:α): ∃b:α,b=a:=⟨a,rfl⟩
def bg{α:Type}(a:α):α:=Classical.choose (aov a)
theorem jq{α:Type}(a:α):bg a=a:=Classical.choose_spec (aov a)
def AN:Nat:=68719476736
def W:IntKind→Int→Int:=bg λk x=>k.wrap x
def aX:Int→Int→Bool:=bg λx y=>decide (x<y)
def du:Int→Int→Bool:=bg λx y=>decide (x≤y)
def aN:Int→Int→Bool:=bg λx y=>decide (x=y)
def bb:Int→Nat→Bool:=bg λi n=>decide (0≤i∧i<(n:Int))
def small:Nat→Bool:=bg λn=>decide (n<AN)
def kU:Int→Int→Bool:=bg λl c=>decide (0≤l∧l≤c∧c<(AN:Int))
def ja:Int→Int→Int→Int→Bool:=bg λl h m n=>decide (0≤l∧l≤h∧h≤m∧m≤n)
def quo:Int→Int→Int:=bg λx y=>x.tdiv y
def rem:Int→Int→Int:=bg λx y=>x.tmod y
def shl:IntKind→Int→Int→Int:=bg λk x y=>x*2^(min y.toNat k.bits)
def shr:IntKind→Int→Int→Int:=bg λk x y=>x.fdiv (2^(min y.toNat k.bits))
def mx:Int→Int→Int:=bg λx y=>if y>x then y else x
def mn:Int→Int→Int:=bg λx y=>if y<x then y else x
def Xw:ByteArray→ByteArray→Bool:=bg λx y=>decide (x.toList=y.toList)
theorem Gj(k:IntKind)(x:Int):W k x=k.wrap x:=by unfold W;rw[jq]
theorem qd(x y:Int):aX x y=decide (x<y):=by unfold aX;rw[jq]
theorem mZ(x y:Int):du x y=decide (x≤y):=by unfold du;rw[jq]
theorem kj(x y:Int):aN x y=decide (x=y):=by unfold aN;rw[jq]
theorem Xx(i:Int)(n:Nat):bb i n=decide (0≤i∧i<(n:Int)):=by unfold bb;rw[jq]
theorem Gk(n:Nat):small n=decide (n<AN):=by unfold small;rw[jq]
theorem J1(l c:Int):kU l c=decide (0≤l∧l≤c∧c<(AN:Int)):=by unfold kU;rw[jq]
theorem rP(l h m n:Int):ja l h m n=decide (0≤l∧l≤h∧h≤m∧m≤n):=by unfold ja;rw[jq]
theorem ajD(x y:Int):quo x y=x.tdiv y:=by unfold quo;rw[jq]
theorem ajE(x y:Int):rem x y=x.tmod y:=by unfold rem;rw[jq]
theorem Xy(k:IntKind)(x y:Int):shl k x y=x*2^(min y.toNat k.bits):=by unfold shl;rw[jq]
theorem RJ(k:IntKind)(x y:Int):shr k x y=x.fdiv (2^(min y.toNat k.bits)):=by unfold shr;rw[jq]
theorem aid(x y:Int):mx x y=if y>x then y else x:=by unfold mx;rw[jq]
theorem Xz(x y:Int):mn x y=if y<x then y else x:=by unfold mn;rw[jq]
theorem Gl(x y:ByteArray):Xw x y=decide (x.toList=y.toList):=by unfold Xw;rw[jq]
inductive Bw where|and|or|xor|andNot
def rQ:Bw→IntKind→Int→Int→Int:=bg λo k x y=>
 let a:=BitVec.ofInt k.bits x
 let b:=BitVec.ofInt k.bits y
 k.wrap (match o with| .and=>a&&& b| .or=>a|||b| .xor=>a^^^b| .andNot=>a&&& ~~~b).toNat
theorem u7(o:Bw)(k:IntKind)(x y:Int):rQ o k x y=
 let a:=BitVec.ofInt k.bits x
 let b:=BitVec.ofInt k.bits y
 k.wrap (match o with| .and=>a&&& b| .or=>a|||b| .xor=>a^^^b| .andNot=>a&&& ~~~b).toNat:=by unfold rQ;rw[jq]
def strOf(l:List Nat):ByteArray:=⟨(l.map UInt8.ofNat).toArray⟩
inductive Ty where
 |int (k:IntKind)
 |bool
 |str
 |slice (e:Ty)
 |unit
 |pair (a b:Ty)
 |arr (n:Nat) (e:Ty)
 deriving DecidableEq
@[reducible] def Ty.den:Ty→Type
 | .int _=>Int
 | .bool=>Bool
 | .str=>ByteArray
 | .slice e=>List e.den
 | .unit=>Unit
 | .pair a b=>a.den×b.den
 | .arr _ e=>List e.den
def Ty.size:Ty→Nat
 | .int _| .bool| .str| .slice _=>1
 | .unit=>0
 | .pair a b=>a.size+b.size
 | .arr n e=>n*e.size
def Ty.isAgg:Ty→Bool
 | .unit| .pair _ _| .arr _ _=>true
 |_=>false
def Ty.zero:(τ:Ty)→τ.den
 | .int _=>(0:Int)
 | .bool=>false
 | .str=>ByteArray.empty
 | .slice _=>[]
 | .unit=>()
 | .pair a b=>(a.zero,b.zero)
 | .arr n e=>List.replicate n e.zero
def Ty.comparable:Ty→Bool
 | .slice _=>false
 | .pair a b=>a.comparable&&b.comparable
 | .arr _ _=>false
 |_=>true
def aow{α:Type}(f:α→α→Bool):List α→List α→Bool
 |[],[]=>true
 |x::xs,y::ys=>f x y&&aow f xs ys
 |_,_=>false
def pn:(τ:Ty)→τ.den→τ.den→Bool
 | .int _,x,y=>aN x y
 | .bool,x,y=>x==y
 | .str,x,y=>Xw x y
 | .slice _,_,_=>false
 | .unit,_,_=>true
 | .pair a b,x,y=>pn a x.1 y.1&&pn b x.2 y.2
 | .arr _ e,x,y=>aow (pn e) x y
inductive Step where
 |gG (n:Nat)
 |idx (i:Nat)
def Jg:List Step→List Step→Bool
 |[],[]=>true
 | .gG a::p,.gG b::q=>Nat.beq a b&&Jg p q
 |_,_=>false
def yV:List Step→List Step→Bool
 |[],_=>true
 | .gG a::p,.gG b::q=>Nat.beq a b&&yV p q
 |_,_=>false
def yW:Ty→Nat→Option Ty
 | .pair a b,n=>match n with
  |0=>some a
  |n+1=>yW b n
 |_,_=>none
def fy:List Step→Ty→Ty→Bool
 |[],τ,υ=>decide (τ=υ)
 | .gG n::p,τ,υ=>match yW τ n with
  |some a=>fy p a υ
  |none=>false
 |_,_,_=>false
inductive bA where
 |any
 |XA
 |val (τ:Ty) (x:τ.den)
 |Lq (τ:Ty) (x:τ.den) (n:Nat)
 |Jh (τ:Ty) (x:τ.den) (n:Nat) (j:Nat)
 |sub (id:Nat) (e:Ty) (lo:Nat)
 |emp
 |ref (id:Nat)
 |jd (id:Nat) (p:List Step)
 |rR (τ:Ty) (x:τ.den)
 |tup (vs:List bA)
 |NL (f:Nat) (caps:List bA)
inductive bp where
 |obj (τ:Ty) (x:τ.den)
 |gg (τ:Ty) (x:τ.den) (p:List Step) (j:Nat)
 |own (e:Ty) (l:List e.den)
 |pq (e:Ty) (l:List e.den)
 |gone
structure St where
 T:Nat→bA
 H:Nat→Option bp
def St.put(σ:St)(d:Nat)(v:bA):St:=⟨λi=>cond (Nat.beq i d) v (σ.T i),σ.H⟩
def St.kk(σ:St)(d:Nat)(v:Option bp):St:=⟨σ.T,λi=>cond (Nat.beq i d) v (σ.H i)⟩
def St.wv(σ:St)(d:Option Nat)(v:bA):St:=match d with|some d=>σ.put d v|none=>σ
def NM(n:Nat)(io:List Nat):Option Nat→Bool|some d=>Nat.blt d n&&io.all (λi=> !(Nat.beq i d))|none=>true
def St.w3(σ:St):List (Nat×Option bp)→St
 |[]=>σ
 |u::r=>(σ.kk u.1 u.2).w3 r
abbrev S0:St:=⟨λ_=> .any,λ_=>none⟩
abbrev jr:=List (Nat×Option bp)
section K
variable{α:Type}
def u9:(τ:Ty)→τ.den→Nat→((υ:Ty)→υ.den→Option α)→Option α
 | .pair a b,x,n,k=>match n with
  |0=>k a x.1
  |n+1=>u9 b x.2 n k
 |_,_,_,_=>none
def fX:(τ:Ty)→τ.den→Nat→((υ:Ty)→υ.den→(υ.den→Option α)→Option α)→(τ.den→Option α)→Option α
 | .pair a b,x,n,m,k=>match n with
  |0=>m a x.1 λz=>k (z,x.2)
  |n+1=>fX b x.2 n m λz=>k (x.1,z)
 |_,_,_,_,_=>none
def js(τ υ:Ty)(k:Option α):Option α:=if τ=υ then k else none
def cJ(υ τ:Ty)(y:υ.den)(k:τ.den→Option α):Option α:=if h:υ=τ then k (h▸y)else none
def ajF(τ:Ty)(x:τ.den)(i:Nat)(k:(υ:Ty)→υ.den→Option α):Option α:=
 match τ,x with
 | .arr _ e,x=>k e (γ x i e.zero)
 |_,_=>none
def Fh(τ:Ty)(x:τ.den)(i:Nat)(m:(υ:Ty)→υ.den→(υ.den→Option α)→Option α)(k:τ.den→Option α):Option α:=
 match τ,x,k with
 | .arr _ e,x,k=>m e (γ x i e.zero) λz=>k (List.set x i z)
 |_,_,_=>none
def AO:List Step→(τ:Ty)→τ.den→((υ:Ty)→υ.den→Option α)→Option α
 |[],τ,x,k=>k τ x
 | .gG n::p,τ,x,k=>u9 τ x n fun υ y=>AO p υ y k
 | .idx i::p,τ,x,k=>ajF τ x i fun υ y=>AO p υ y k
def wx(υ:Ty)(y:υ.den):List Step→(τ:Ty)→τ.den→(τ.den→Option α)→Option α
 |[],τ,_,k=>cJ υ τ y k
 | .gG n::p,τ,x,k=>fX τ x n (fun υ' y' k'=>wx υ y p υ' y' k') k
 | .idx i::p,τ,x,k=>Fh τ x i (fun υ' y' k'=>wx υ y p υ' y' k') k
def m0(fz:Bool)(a:bA)(H:Nat→Option bp)(τ:Ty)(k:τ.den→List Nat→jr→Option α):Option α:=
 match a with
 | .val υ x=>cJ υ τ x λy=>k y [] []
 | .Lq υ x _=>cJ υ τ x λy=>k y [] []
 | .emp=>match τ,k with
  | .slice _,k=>k [] [] []
  |_,_=>none
 | .ref id=>match H id with
  |some (.own e l)=>cJ (.slice e) τ l λy=>k y [id] (cond fz [(id,some (.pq e l))] [])
  |some (.pq e l)=>cJ (.slice e) τ l λy=>k y [id] []
  |_=>none
 |_=>none
def NN(a:bA)(k:(τ:Ty)→τ.den→Option α):Option α:=
 match a with
 | .val υ x=>k υ x
 |_=>none
def mf(id:Nat)(p:List Step)(H:Nat→Option bp)(k:Ty→Option α):Option α:=
 match H id with
 |some (.obj τ x)=>AO p τ x fun υ _=>k υ
 |some (.gg τ x _ _)=>AO p τ x fun υ _=>k υ
 |some (.own e l)|some (.pq e l)=>match p with
  | .idx i::p=>AO p e (γ l i e.zero) fun υ _=>k υ
  |_=>none
 |_=>none
def azI(a:bA)(H:Nat→Option bp)(k:(τ:Ty)→τ.den→List Nat→Option α):Option α:=
 match a with
 | .val υ x=>k υ x []
 | .ref id=>match H id with
  |some (.own e l)|some (.pq e l)=>k (.slice e) l [id]
  |_=>none
 |_=>none
def wz(a:bA)(k:IntKind→Int→Option α):Option α:=
 match a with
 | .val (.int i) x=>k i x
 |_=>none
end K
inductive AM where
 |v (τ:Ty)
 |own (e:Ty)
 |io (τ:Ty)
 |fn (f:Nat) (τ:Ty)
 |ptr (τ:Ty)
 |jd (τ:Ty)
 |lo (e:Ty)
 |sp (τ:Ty) (n:Nat) (e:Ty)
 deriving DecidableEq
@[reducible] def AM.den:AM→Type
 | .v τ=>τ.den
 | .own e=>List e.den
 | .io τ=>τ.den
 | .fn _ τ=>τ.den
 | .ptr τ=>τ.den
 | .jd τ=>τ.den
 | .lo e=>List e.den
 | .sp τ _ _=>τ.den
@[reducible] def HP:List AM→Type
 |[]=>Unit
 |[m]=>m.den
 |m::n::ms=>m.den×HP (n::ms)
structure m1 where
 args:List AM
 res:List AM
 quiet:Bool
 run:HP args→Option (HP res)
inductive CM where
 |v (τ:Ty)
 |own (e:Ty)
 |obj (τ:Ty)
 |gg (τ:Ty) (q:List Step) (e:Ty)
 |same (s:Nat)
 |io (τ:Ty)
 |fn (f:Nat) (τ:Ty)
structure Env where
 nt:Nat
 ty:Nat→Option Ty
 Γ:Nat→List m1
 N:Nat
 w4:Nat→Option (List (Nat×CM))
 yX:Nat→Option (List (Nat×CM))
 io:List Nat:=[]
 lk:Option (Ty×List Step×Ty×List Nat):=none
def Env.vw(E:Env):Bool:=match E.lk with
 |some (_,_,_,ds)=>ds.any λd=>Nat.beq d 1000001
 |none=>false
def Env.sp(E:Env):Bool:=match E.lk with
 |some (_,_,_,ds)=>ds.any λd=>Nat.beq d 1000000
 |none=>false
def lkT(E:Env)(τ:Ty):Option (List Step×Ty):=match E.lk with
 |some (υ,q,e,_)=>cond (decide (υ=τ)) (cond (fy q τ (.slice e)) (some (q,e)) none) none
 |none=>none
def Ji(E:Env)(τ:Ty)(id:Nat):Option (List Step×Ty):=match E.lk with
 |some (_,_,_,ds)=>cond (ds.any λd=>Nat.beq (id/16) d) (lkT E τ) none
 |none=>none
def cvA:Value→bA
 | .int k n=> .val (.int k) n
 | .bool b=> .val .bool b
 | .string s=> .val .str s
 | .slice none 0 0=> .emp
 |_=> .any
def St.ρ (σ:St):Operand→bA
 | .tmp t=>σ.T t
 | .const v=>cvA v
 | .global _=> .any
 | .func f=> .NL f []
section
variable{α:Type}
def vb(op:BinOp)(k:IntKind)(x y:Int)(K:bA→Option α):Option α:=
 match op with
 | .add=>K (.val (.int k) (W k (x+y)))
 | .sub=>K (.val (.int k) (W k (x-y)))
 | .mul=>K (.val (.int k) (W k (x*y)))
 | .quo=>cond (aN y 0) none (K (.val (.int k) (W k (quo x y))))
 | .rem=>cond (aN y 0) none (K (.val (.int k) (rem x y)))
 | .and=>K (.val (.int k) (rQ .and k x y))
 | .or=>K (.val (.int k) (rQ .or k x y))
 | .xor=>K (.val (.int k) (rQ .xor k x y))
 | .andNot=>K (.val (.int k) (rQ .andNot k x y))
 | .eql=>K (.val .bool (aN x y))
 | .neq=>K (.val .bool (!aN x y))
 | .lss=>K (.val .bool (aX x y))
 | .leq=>K (.val .bool (du x y))
 | .gtr=>K (.val .bool (aX y x))
 | .geq=>K (.val .bool (du y x))
 |_=>none
def shK(op:BinOp)(k:IntKind)(x y:Int)(K:bA→Option α):Option α:=
 match op with
 | .shl=>cond (aX y 0) none (K (.val (.int k) (W k (shl k x y))))
 | .shr=>cond (aX y 0) none (K (.val (.int k) (shr k x y)))
 |_=>none
def abC:BinOp→Bool
 | .shl| .shr=>true
 |_=>false
def Gm(t:Option Ty)(op:BinOp)(τ:Ty)(x:τ.den)(υ:Ty)(y:υ.den)(K:bA→Option α):Option α:=
 match τ,x,υ,y with
 | .int k,x,.int k',y=>cond (abC op) (shK op k x y K) (if k=k' then vb op k x y K else none)
 |τ,x,υ,y=>match t with
  |none=>none
  |some u=>js u τ (cond τ.comparable (match op with
   | .eql=>cJ υ τ y λy=>K (.val .bool (pn τ x y))
   | .neq=>cJ υ τ y λy=>K (.val .bool (!pn τ x y))
   |_=>none) none)
def U0(op:UnOp)(a:bA)(K:bA→Option α):Option α:=
 match op,a with
 | .neg,.val (.int k) n=>K (.val (.int k) (W k (0-n)))
 | .xor,.val (.int k) n=>K (.val (.int k) (rQ .xor k (if k.signed then-1 else k.max) n))
 | .not,.val .bool b=>K (.val .bool (!b))
 |_,_=>none
abbrev gL(α:Type):=bA→List Nat→jr→Option α
def mmK(up:Bool):bA→List bA→(bA→Option α)→Option α
 |a,[],K=>K a
 |a,b::r,K=>wz a λk x=>wz b λk' y=>if k=k' then mmK up (.val (.int k) (cond up (mx x y) (mn x y))) r K else none
def NO(τ:Ty)(a:bA)(H:Nat→Option bp)(K:gL α):Option α:=
 match τ,a with
 | .slice _,.val (.slice _) l=>K (.val (.int .i64) (ℓ l:Int)) [] []
 | .arr n _,.val (.arr _ _) _=>K (.val (.int .i64) (n:Int)) [] []
 | .str,.val .str s=>K (.val (.int .i64) (ByteArray.size s:Int)) [] []
 | .slice _,.emp=>K (.val (.int .i64) (0:Int)) [] []
 | .slice _,.ref id=>match H id with
  |some (.own _ l)|some (.pq _ l)=>K (.val (.int .i64) (l.length:Int)) [id] []
  |_=>none
 |_,_=>none
def rS(H:Nat→Option bp)(id:Nat)(e:bp)(K:Option α):Option α:=
 match H id with
 |none=>K
 |some _=>none
def NP(id:Nat)(e:Ty)(a b:bA)(H:Nat→Option bp)(K:gL α):Option α:=
 m0 false b H (.slice e) λys rd _=>
  match a with
  | .emp=>cond (small (ℓ ys)) (K (.ref id) (id::rd) [(id,some (.own e ys))]) none
  | .ref j=>match H j with
   |some (.own e' l)=>cJ (.slice e') (.slice e) l λxs=>
    cond (small (ℓ xs+ℓ ys)) (K (.ref id) (id::j::rd) [(j,some .gone),(id,some (.own e (xs++ys)))]) none
   |_=>none
  |_=>none
def mg(τ:Ty)(H:Nat→Option bp):List (Nat×bA)→τ.den→List Nat→jr→(τ.den→List Nat→jr→Option α)→Option α
 |[],x,rd,ups,K=>K x rd ups
 |p::r,x,rd,ups,K=>u9 τ x p.1 fun υ _=>m0 true p.2 H υ λy yq jt=>
  fX τ x p.1 (fun υ' _ k'=>cJ υ υ' y k') λz=>mg τ H r z (yq++rd) (ups++jt) K
def w5(e:Ty)(H:Nat→Option bp)(n:Nat):List (Nat×bA)→List e.den→List Nat→jr→(List e.den→List Nat→jr→Option α)→Option α
 |[],l,rd,ups,K=>K l rd ups
 |p::r,l,rd,ups,K=>cond (Nat.blt p.1 n) (m0 true p.2 H e λy yq jt=>w5 e H n r (List.set l p.1 y) (yq++rd) (ups++jt) K) none
def Dy(v:bA)(H:Nat→Option bp):(a:Ty)→(a.den→List Nat→jr→Option α)→Option α
 | .pair a .unit,k=>match v with
  | .rR υ x=>cJ υ a x λy=>k (y,()) [] []
  |_=>none
 |a,k=>m0 true v H a k
def Dz:(a:Ty)→a.den→bA
 | .pair a .unit,x=> .rR a x.1
 |a,x=> .val a x
def rT(H:Nat→Option bp):(τ:Ty)→List bA→(τ.den→List Nat→jr→Option α)→Option α
 | .unit,[],K=>K () [] []
 | .pair a b,v::vs,K=>Dy v H a λx rd ups=>rT H b vs λxs yq jt=>K (x,xs) (yq++rd) (ups++jt)
 |_,_,_=>none
def qz:(τ:Ty)→τ.den→List bA
 | .pair a b,x=>Dz a x.1::qz b x.2
 |_,_=>[]
def ca(H:Nat→Option bp)(d:Nat)(v:Option bp):Nat→Option bp:=λi=>cond (Nat.beq i d) v (H i)
def w6(H:Nat→Option bp):List bA→(List bA→List Nat→jr→Option α)→Option α
 |[],K=>K [] [] []
 |a::r,K=>match a with
  | .jd id []=>match H id with
   |some (.obj τ x)=>w6 (ca H id (some .gone)) r λcs rd ups=>K (.rR τ x::cs) (id::rd) ((id,some .gone)::ups)
   |_=>none
  |a=>w6 H r λcs rd ups=>K (a::cs) rd ups
def oN(m:AM)(a:bA)(H:Nat→Option bp)(k:m.den→(Nat→Option bp)→List Nat→jr→jr→List (Nat×AM)→Option α):Option α:=
 match m,k with
 | .v τ,k=>m0 true a H τ λx rd uf=>match uf with
  |[]=>k x H rd [] [] []
  |u::r=>k x (ca H u.1 u.2) rd [] (u::r) []
 | .own e,k=>match a with
  | .emp=>k [] H [] [] [] []
  | .ref id=>match H id with
   |some (.own e' l)=>cJ (.slice e') (.slice e) l λx=>k x (ca H id (some .gone)) [id] [(id,some .gone)] [] []
   |_=>none
  |_=>none
 | .io τ,k=>match a with
  | .jd id []=>match H id with
   |some (.obj υ x)=>cJ υ τ x λy=>k y (ca H id (some .gone)) [id] [] [] [(id,.io τ)]
   |_=>none
  |_=>none
 | .fn f τ,k=>match a with
  | .NL f' c=>cond (Nat.beq f f') (rT H τ c λx rd uf=>match uf with
   |[]=>k x H rd [] [] []
   |_=>none) none
  |_=>none
 | .ptr _,_=>none
 | .jd τ,k=>match a with
  | .rR υ x=>cJ υ τ x λy=>k y H [] [] [] []
  |_=>none
 | .lo e,k=>match a with
  | .ref id=>match H id with
   |some (.own e' l)=>cJ (.slice e') (.slice e) l λx=>k x (ca H id (some .gone)) [id] [] [] [(id,.lo e)]
   |_=>none
  |_=>none
 | .sp _ _ _,_=>none
def uu:(ms:List AM)→List bA→(Nat→Option bp)→List Nat→jr→jr→List (Nat×AM)→(HP ms→List Nat→jr→jr→List (Nat×AM)→Option α)→Option α
 |[],[],_,rd,uo,uf,io,K=>K () rd uo uf io
 |[m],[a],H,rd,uo,uf,io,K=>oN m a H λx _ yq Nd Nf I0=>K x (yq++rd) (Nd++uo) (Nf++uf) (io++I0)
 |m::n::ms,a::qG,H,rd,uo,uf,io,K=>oN m a H λx H' yq Nd Nf I0=>
  uu (n::ms) qG H' (yq++rd) (Nd++uo) (Nf++uf) (io++I0) λxs rd uo uf io=>K (x,xs) rd uo uf io
 |_,_,_,_,_,_,_,_=>none
def w7(m:AM)(x:m.den)(id:Nat):bA×jr:=
 match m,x with
 | .v τ,x=>(.val τ x,[])
 | .own e,x=>(.ref id,[(id,some (.own e x))])
 | .io τ,x=>(.val τ x,[])
 | .fn _ _,_=>(.any,[])
 | .ptr τ,x=>(.jd id [],[(id,some (.obj τ x))])
 | .jd _,_=>(.any,[])
 | .lo _,_=>(.any,[])
 | .sp τ n e,x=>match u9 τ x n (fun υ y=>cJ υ (.slice e) y some),fX τ x n (fun υ' _ k'=>cJ (.slice e) υ' [] k') some with
  |some l,some z=>(.Jh τ z n id,[(id,some (.own e l))])
  |_,_=>(.any,[])
def iu:(ms:List AM)→HP ms→Nat→List (Nat×AM)→List bA×jr×List (Nat×AM)
 |[],_,_,io=>([],[],io)
 |[m],x,id,io=>match m,x,io with
  | .io τ,x,(j,_)::io=>([],[(j,some (.obj τ x))],io)
  | .lo e,x,(j,_)::io=>([],[(j,some (.own e x))],io)
  |m,x,io=>([(w7 m x id).1],(w7 m x id).2,io)
 |m::n::ms,x,id,io=>match m,x,io with
  | .io τ,x,(j,_)::io=>let r:=iu (n::ms) x.2 (id+1) io;(r.1,(j,some (.obj τ x.1))::r.2.1,r.2.2)
  | .lo e,x,(j,_)::io=>let r:=iu (n::ms) x.2 (id+1) io;(r.1,(j,some (.own e x.1))::r.2.1,r.2.2)
  |m,x,io=>let r:=iu (n::ms) x.2 (id+1) io;((w7 m x.1 id).1::r.1,(w7 m x.1 id).2++r.2.1,r.2.2)
def NQ:List bA→bA
 |[]=> .any
 |[a]=>a
 |l=> .tup l
def vd(H:Nat→Option bp)(id:Nat):Nat→Bool
 |0=>true
 |n+1=>(match H (id+n)with|none=>true|some _=>false)&&vd H id n
def NR(id:Nat):Nat→List Nat
 |0=>[]
 |n+1=>(id+n)::NR id n
def fits:List AM→List bA→Bool
 |[],[]=>true
 | .fn f _::ms,.NL g _::qG=>Nat.beq f g&&fits ms qG
 | .fn _ _::_,_::_=>false
 |_::ms,_::qG=>fits ms qG
 |_,_=>false
def NS:List m1→List bA→Option m1
 |[],_=>none
 |S::r,qG=>cond (fits S.args qG) (some S) (NS r qG)
def DA(E:Env)(f:Nat)(qG:List bA)(id:Nat)(H:Nat→Option bp)(K:gL α):Option α:=
 match NS (E.Γ f) qG with
 |none=>none
 |some S=>uu S.args qG H [] [] [] [] λx rd uo uf io=>
  (S.run x).bind λy=>
   let r:=iu S.res y id io
   cond (vd H id S.res.length) (K (NQ r.1) (NR id S.res.length++(r.2.1.map (·.1)++rd)) (uo++cond S.quiet [] uf++r.2.1)) none
def yY(a:Option bA)(d:Int)(k:Int→Option α):Option α:=
 match a with
 |none=>k d
 |some a=>wz a λ_ x=>k x
def kA:Option Operand→Bool
 |some (.const (.int _ n))=>decide (n=0)
 |_=>false
def rU(t:Ty)(z:Bool)(a:bA)(lo hi mx:Option bA)(H:Nat→Option bp)(K:gL α):Option α:=
 match t,a with
 | .str,.val .str s=>cond mx.isNone (yY lo 0 λl=>yY hi (ByteArray.size s:Int) λh=>
  cond (ja l h (ByteArray.size s:Int) (ByteArray.size s:Int)) (K (.val .str (ByteArray.extract s l.toNat h.toNat)) [] []) none) none
 | .slice _,.emp=>cond z (K .emp [] []) (cond mx.isNone (yY lo 0 λl=>yY hi 0 λh=>cond (ja l h 0 0) (K .emp [] []) none) none)
 | .slice e,a=>m0 (!z) a H (.slice e) λx rd ups=>cond z (K .emp rd [])
  (cond (mx.isNone||hi.isSome) (yY lo 0 λl=>yY hi (ℓ x:Int) λh=>yY mx (ℓ x:Int) λm=>
   cond (ja l h m (ℓ x:Int))
    (K (.val (.slice e) (List.drop l.toNat (List.take h.toNat x))) rd ups) none) none)
 |_,_=>none
def w8(E:Env)(t:Ty)(z:Bool)(a:bA)(lo hi mx:Option bA)(H:Nat→Option bp)(K:gL α):Option α:=
 match E.vw,t,a,lo,hi,mx with
 |true,.slice e,.ref id,some lo,none,none=>wz lo λ_ i=>match H id with
  |some (.own e' l)=>js e' e (cond (ja i (ℓ l:Int) (ℓ l:Int) (ℓ l:Int)) (K (.sub id e i.toNat) [id] []) none)
  |_=>none
 |_,t,a,lo,hi,mx=>rU t z a lo hi mx H K
def zw(e:Ty)(a:bA)(H:Nat→Option bp)(K:gL α):Option α:=
 match a with
 | .sub id e' lo=>js e' e (match H id with
  |some (.own e2 l)=>cJ (.slice e2) (.slice e) l λl=>K .any [id] [(id,some (.own e (List.take lo l++List.replicate (ℓ l-lo) e.zero)))]
  |_=>none)
 |_=>none
def g9(τ:Ty)(a i:bA)(H:Nat→Option bp)(K:gL α):Option α:=
 wz i λ_ i=>
 match τ with
 | .slice e=>match a with
  | .val υ l=>cJ υ (.slice e) l λl=>cond (bb i (ℓ l)) (K (.rR e (γ l i.toNat e.zero)) [] []) none
  | .ref id=>match H id with
   |some (.own e' l)|some (.pq e' l)=>js e' e (cond (bb i (ℓ l)) (K (.jd id [.idx i.toNat]) [id] []) none)
   |_=>none
  |_=>none
 | .arr n e=>match a with
  | .jd id p=>mf id p H fun υ=>js υ (.arr n e) (cond (bb i n) (K (.jd id (p++[.idx i.toNat])) [id] []) none)
  | .rR υ l=>cJ υ (.arr n e) l λl=>cond (bb i n) (K (.rR e (γ l i.toNat e.zero)) [] []) none
  |_=>none
 |_=>none
def w9(τ:Ty)(a i:bA)(K:bA→Option α):Option α:=
 wz i λ_ i=>
 match τ,a with
 | .arr n e,.val υ l=>cJ υ (.arr n e) l λl=>cond (bb i n) (K (.val e (γ l i.toNat e.zero))) none
 | .str,.val .str s=>cond (bb i (ByteArray.size s)) (K (.val (.int .u8) ((s.data.getD i.toNat 0).toNat:Int))) none
 |_,_=>none
def lY(a:bA)(H:Nat→Option bp)(K:(υ:Ty)→υ.den→List Nat→Option α):Option α:=
 match a with
 | .rR τ x=>K τ x []
 | .jd id p=>match H id with
  |some (.obj τ x)=>AO p τ x fun υ y=>K υ y [id]
  |some (.own e l)|some (.pq e l)=>match p with
   | .idx i::p=>AO p e (γ l i e.zero) fun υ y=>K υ y [id]
   |_=>none
  |_=>none
 |_=>none
def m2(τ:Ty)(a v:bA)(H:Nat→Option bp)(K:gL α):Option α:=
 match a with
 | .jd id p=>m0 true v H τ λy rd ups=>
  match H id with
  |some (.obj υ x)=>wx τ y p υ x λz=>K .any (id::rd) (ups++[(id,some (.obj υ z))])
  |some (.own e l)=>match p with
   | .idx i::p=>cond (rd.contains id) none (wx τ y p e (γ l i e.zero) λz=>K .any (id::rd) (ups++[(id,some (.own e (List.set l i z)))]))
   |_=>none
  |_=>none
 |_=>none
def Ck(j:Nat)(q:List Step)(τ:Ty)(x:τ.den)(H:Nat→Option bp)(k:τ.den→jr→Option α):Option α:=
 match H j with
 |some (.own e l)=>wx (.slice e) l q τ x λz=>k z [(j,some (.pq e l))]
 |some (.pq e l)=>wx (.slice e) l q τ x λz=>k z []
 |_=>none
def uv(τ:Ty)(a:bA)(H:Nat→Option bp)(K:gL α):Option α:=
 let qf:=lY a H fun υ y rd=>cJ υ τ y λz=>K (.val τ z) rd []
 match a with
 | .jd id p=>match H id with
  |some (.gg υ x q j)=>cond (Jg p q) (cond (fy q υ τ) (K (.ref j) [id] []) none)
   (cond (yV p q) (Ck j q υ x H λz ups=>AO p υ z fun υ' y=>cJ υ' τ y λy'=>K (.val τ y') [id,j] ups)
    (AO p υ x fun υ' y=>cJ υ' τ y λy'=>K (.val τ y') [id] []))
  |_=>qf
 |_=>qf
def zh(τ:Ty)(id k:Nat)(e:Ty)(q:List Step)(υ:Ty)(x:υ.den)(H:Nat→Option bp)(K:gL α):Option α:=
 match H k with
 |some (.own e' _)=>js e' e (js τ (.slice e) (wx (.slice e) [] q υ x λz=>K .any [id,k] [(id,some (.gg υ z q k))]))
 |_=>none
def kV(E:Env)(τ:Ty)(a v:bA)(H:Nat→Option bp)(K:gL α):Option α:=
 let qf:=m2 τ a v H K
 match a with
 | .jd id p=>match H id with
  |some (.obj υ x)=>match Ji E υ id,v with
   |some (q,e),.ref k=>cond (Jg p q) (zh τ id k e q υ x H K) qf
   |_,_=>qf
  |some (.gg υ x q j)=>
   let put:=m0 true v H τ λy rd ups=>wx τ y p υ x λz=>K .any (id::rd) (ups++[(id,some (cond (yV p q) (.obj υ z) (.gg υ z q j)))])
   match Ji E υ id,v with
   |some (q',e),.ref k=>cond (Jg p q&&Jg q q') (zh τ id k e q υ x H K) put
   |_,_=>put
  |_=>qf
 |_=>qf
def tP(E:Env)(τ:Ty)(a v:bA)(H:Nat→Option bp)(K:gL α):Option α:=
 match a,v with
 | .jd id [],.Lq υ y n=>match Ji E υ id with
  |some ([.gG m],e)=>cond (Nat.beq m n) (js τ υ (mf id [] H fun υ'=>js υ' υ
   (rS H (id+2) (.own e []) (K .any [id,id+2] [(id,some (.gg υ y [.gG m] (id+2))),(id+2,some (.own e []))])))) (kV E τ a v H K)
  |_=>kV E τ a v H K
 |_,_=>kV E τ a v H K
def EF(H:Nat→Option bp)(id:Nat)(τ:Ty)(x:τ.den)(q:List Step)(e:Ty)(K:gL α):Option α:=
 rS H id (.obj τ x) (rS H (id+1) (.own e []) (K (.jd id []) [id,id+1] [(id,some (.gg τ x q (id+1))),(id+1,some (.own e []))]))
def abD(E:Env)(ps:List (Nat×bA))(τ:Ty)(x:τ.den):bA:=match lkT E τ with
 |some ([.gG n],_)=>cond (ps.all λp=> !(Nat.beq p.1 n)) (.Lq τ x n) (.val τ x)
 |_=> .val τ x
def AP(E:Env)(τ:Ty)(a:bA)(H:Nat→Option bp)(K:gL α):Option α:=
 match E.sp,a with
 |true,.jd id []=>match H id with
  |some (.gg υ x [.gG n] j)=>cJ υ τ x λx=>K (.Jh τ x n j) [id] []
  |_=>uv τ a H λv rd ups=>K v (id::rd) ups
 |_,_=>uv τ a H K
def tQ(E:Env)(τ:Ty)(a v:bA)(H:Nat→Option bp)(K:gL α):Option α:=
 match a,v with
 | .jd id [],.Jh υ y n j=>match Ji E υ id with
  |some ([.gG m],e)=>cond (Nat.beq m n) (js τ υ (mf id [] H fun υ'=>js υ' υ (match H j with
   |some (.own e' _)=>js e' e (K .any [id,j] [(id,some (.gg υ y [.gG m] j))])
   |_=>none))) none
  |_=>none
 |_,_=>tP E τ a v H K
def cP(H:Nat→Option bp):jr→(Nat→Option bp)
 |[]=>H
 |u::r=>cP (ca H u.1 u.2) r
def ajG(E:Env)(id n:Nat):Bool:=match E.lk with
 |some (_,_,_,ds)=>(ds.any λd=>Nat.beq d (2000000+n))&&ds.any λd=>Nat.beq (id/16) d
 |none=>false
def rV(E:Env)(τ:Ty)(a v:bA)(H:Nat→Option bp)(K:gL α):Option α:=
 match a,v with
 | .jd id [.gG n],.ref k=>cond (ajG E id n) (match H id with
  |some (.gg υ x q j)=>cond (Jg q [.gG n]) (tQ E τ (.jd id [.gG n]) (.ref k) H λv rd ups=>K v (id::rd) ups) (match yW υ n with
   |some (.slice e)=>Ck j q υ x H λz ups=>zh τ id k e [.gG n] υ z (cP H ups) λv rd jt=>K v (j::rd) (ups++jt)
   |_=>none)
  |some (.obj υ x)=>match yW υ n with
   |some (.slice e)=>zh τ id k e [.gG n] υ x H K
   |_=>none
  |_=>none) (tQ E τ (.jd id [.gG n]) (.ref k) H K)
 |a,v=>tQ E τ a v H K
def Lr(E:Env)(ps:List (Nat×bA))(τ:Ty):Option (Nat×Nat):=match E.sp,lkT E τ with
 |true,some ([.gG n],_)=>match ps.filter λp=>Nat.beq p.1 n with
  |[(_,.ref k)]=>some (n,k)
  |_=>none
 |_,_=>none
def xa(n:Nat)(ps:List (Nat×bA)):List (Nat×bA):=ps.map λp=>cond (Nat.beq p.1 n) (p.1,.emp) p
def partsOf(σρ:Operand→bA)(ps:Array (Nat×Operand)):List (Nat×bA):=ps.toList.map λp=>(p.1,σρ p.2)
def tf(E:Env)(o:Oper)(ρ:Operand→bA)(H:Nat→Option bp)(K:gL α):Option α:=
 let id:=16*o.dst.getD 0
 match o.op with
 | .move x| .assign x=>K (ρ x) [] []
 | .pick c a b=>match ρ c with
  | .val .bool t=>cond t (K (ρ a) [] []) (K (ρ b) [] [])
  |_=>none
 | .alloc t=>match E.ty t with
  |some τ=>match Ji E τ id with
   |some (q,e)=>EF H id τ τ.zero q e K
   |none=>rS H id (.obj τ τ.zero) (K (.jd id []) [id] [(id,some (.obj τ τ.zero))])
  |none=>none
 | .box t x=>match E.ty t with
  |some τ=>
   let qf:=m0 true (ρ x) H τ λy rd ups=>rS H id (.obj τ y) (K (.jd id []) (id::rd) (ups++[(id,some (.obj τ y))]))
   match Ji E τ id,ρ x with
   |some ([.gG m],e),.Lq υ y n=>cond (Nat.beq m n) (cJ υ τ y λy=>EF H id τ y [.gG m] e K) qf
   |_,_=>qf
  |none=>none
 | .build t ps=>match E.ty t with
  |some (.arr n e)=>w5 e H n (partsOf ρ ps) (List.replicate n e.zero) [] [] λl rd ups=>K (.val (.arr n e) l) rd ups
  |some τ=>match Lr E (partsOf ρ ps) τ with
   |some (n,k)=>match H k with
    |some (.own _ _)=>cond τ.isAgg (mg τ H (xa n (partsOf ρ ps)) τ.zero [] [] λx rd ups=>K (.Jh τ x n k) (k::rd) ups) none
    |_=>none
   |none=>cond τ.isAgg (mg τ H (partsOf ρ ps) τ.zero [] [] λx rd ups=>K (abD E (partsOf ρ ps) τ x) rd ups) none
  |none=>none
 | .buildSlice t n ps=>match E.ty t with
  |some (.slice e)=>cond (Nat.ble (n*(e.size+1)) 16777216) (rS H id (.own e []) (w5 e H n (partsOf ρ ps) (List.replicate n e.zero) [] [] λl rd ups=>K (.ref id) (id::rd) (ups++[(id,some (.own e l))]))) none
  |_=>none
 | .load t a=>match E.ty t with
  |some τ=>AP E τ (ρ a) H K
  |none=>none
 | .store t a v=>match E.ty t with
  |some τ=>rV E τ (ρ a) (ρ v) H K
  |none=>none
 | .nilCheck x=>match ρ x with
  | .jd id p=>K (.jd id p) [] []
  | .rR τ x=>K (.rR τ x) [] []
  |_=>none
 | .binOp op t x y _=>NN (ρ x) fun τ x=>NN (ρ y) fun υ y=>Gm (E.ty t) op τ x υ y λv=>K v [] []
 | .unOp op _ x=>U0 op (ρ x) λv=>K v [] []
 | .convert src dst x=>match E.ty src,E.ty dst with
  |some _,some (.int k)=>wz (ρ x) λ_ n=>K (.val (.int k) (W k n)) [] []
  |_,_=>none
 | .makeFunc (.func f) first caps=>cond first.isEmpty (w6 H (caps.toList.map ρ) λcs rd ups=>K (.NL f cs) rd ups) none
 | .makeSlice t l c=>match E.ty t with
  |some (.slice e)=>wz (ρ l) λ_ l=>wz (ρ c) λ_ c=>cond (kU l c)
    (rS H id (.own e []) (K (.ref id) [id] [(id,some (.own e (List.replicate l.toNat e.zero)))])) none
  |_=>none
 | .slice t x lo hi mx=>match E.ty t with
  |some τ=>w8 E τ (lo.isNone&&kA hi&&kA mx) (ρ x) (lo.map ρ) (hi.map ρ) (mx.map ρ) H K
  |none=>none
 | .fieldAddr t x n=>match E.ty t with
  |some τ=>match ρ x with
   | .jd id p=>mf id p H fun υ=>js υ τ (u9 τ τ.zero n fun υ' _=>cond (Nat.beq υ'.size 0) none (K (.jd id (p++[.gG n])) [id] []))
   | .rR υ x=>js υ τ (u9 υ x n fun υ y=>cond (Nat.beq υ.size 0) none (K (.rR υ y) [] []))
   |_=>none
  |none=>none
 | .field t x n=>match E.ty t with
  |some τ=>match ρ x with
   | .val υ x=>js υ τ (u9 υ x n fun υ y=>K (.val υ y) [] [])
   |_=>none
  |none=>none
 | .indexAddr t x i=>match E.ty t with
  |some τ=>g9 τ (ρ x) (ρ i) H K
  |none=>none
 | .index t x i=>match E.ty t with
  |some τ=>w9 τ (ρ x) (ρ i) λv=>K v [] []
  |none=>none
 | .extract t i=>match ρ t with
  | .tup vs=>match vs[i]? with
   |some v=>K v [] []
   |none=>none
  |_=>none
 | .call c=>match c.callee with
  | .builtin .len=>match c.args.toList,(c.argTypes.toList.head?).bind E.ty with
   |[x],some τ=>NO τ (ρ x) H K
   |_,_=>none
  | .builtin .append=>match c.args.toList,c.argTypes.toList with
   |[x,y],[t,t']=>match E.ty t with
    |some (.slice e)=>cond (Nat.beq t t') (rS H id (.own e []) (NP id e (ρ x) (ρ y) H K)) none
    |_=>none
   |_,_=>none
  | .builtin .clear=>match c.args.toList,c.argTypes.toList with
   |[x],[t]=>match E.ty t with
    |some (.slice e)=>zw e (ρ x) H K
    |_=>none
   |_,_=>none
  | .builtin .max=>match c.args.toList with
   |x::r=>mmK true (ρ x) (r.map ρ) λv=>K v [] []
   |_=>none
  | .builtin .min=>match c.args.toList with
   |x::r=>mmK false (ρ x) (r.map ρ) λv=>K v [] []
   |_=>none
  | .value g=>match ρ g with
   | .NL f caps=>DA E f (c.args.toList.map ρ++caps) id H K
   |_=>none
  |_=>none
 |_=>none
def uw(E:Env)(ops:List Oper)(o:Oper)(σ:St)(K:St→List Nat→List Nat→Option α):Option α:=
 let run (σ:St):Option α:=tf E o σ.ρ σ.H λv rd ups=>K ((σ.w3 ups).wv o.dst v) rd (ups.map (·.1))
 cond (NM E.nt E.io o.dst) (match o.guard with
 |none=>run σ
 |some (j,want)=>match(ops[j]?).bind (·.dst)with
  |none=>none
  |some t=>match σ.T t with
   | .val .bool b=>match want with
    |true=>cond b (run (σ.put t (.val .bool true))) (K ((σ.put t (.val .bool false)).wv o.dst .XA) [] [])
    |false=>cond b (K ((σ.put t (.val .bool true)).wv o.dst .XA) [] []) (run (σ.put t (.val .bool false)))
   | .XA=>K (σ.wv o.dst .XA) [] []
   |_=>none) none
abbrev Log:=List (Nat×List Nat×List Nat)
def U1(E:Env)(ops:List Oper):List Oper→Nat→St→Log→(St→Log→Option α)→Option α
 |[],_,σ,lg,K=>K σ lg
 |o::r,i,σ,lg,K=>uw E ops o σ fun σ' rd wr=>U1 E ops r (i+1) σ' ((i,rd,wr)::lg) K
def tR:List Oper→List Nat→List Nat
 |[],acc=>acc
 |o::r,acc=>tR r (acc++[o.after.toList.foldl (λs e=>cond (Region.binds .any e) (s|||2^e.on|||acc.getD e.on 0) s) 0])
def names(ops:List Oper)(o:Oper):List Nat:=
 (o.op.operands.toList.filterMap fun| .tmp t=>some t|_=>none)++
 (match o.guard with
  |some (g,_)=>((ops[g]?).bind (·.dst)).toList
  |none=>[])
def meets(a b:List Nat):Bool:=a.any λx=>b.any λy=>Nat.beq x y
def XB(ops:List Oper):Bool:=
 let b:=tR ops []
 (ops.zipIdx.all λ(o,j)=>o.after.toList.all λe=> !(Region.binds .any e)||Nat.blt e.on j)&&
 ops.zipIdx.all λ(o,j)=>ops.zipIdx.all λ(p,i)=>Nat.ble j i||(b.getD j 0).testBit i||
  !(meets p.dst.toList (o.dst.toList++names ops o)||meets o.dst.toList (names ops p))
def aie(ops:List Oper)(lg:Log):Bool:=
 let b:=tR ops []
 lg.all λx=>lg.all λy=>Nat.ble x.1 y.1||(b.getD x.1 0).testBit y.1||
  !(meets y.2.2 (x.2.1++x.2.2)||meets y.2.1 x.2.2)
def Fi(E:Env)(ops:Array Oper)(draw:Bool)(σ:St)(K:St→Option α):Option α:=
 U1 E ops.toList ops.toList 0 σ [] fun σ' lg=>cond (!draw||(XB ops.toList&&aie ops.toList lg)) (K σ') none
def iO:List (Nat×CM)→St→St→(St→Option α)→Option α
 |[],_,acc,K=>K acc
 |(s,.v τ)::r,σ,acc,K=>m0 true (σ.T s) σ.H τ λx _ ups=>iO r (σ.w3 ups) (acc.put s (.val τ x)) K
 |(s,.own e)::r,σ,acc,K=>match σ.T s with
  | .emp=>iO r σ ((acc.put s (.ref (16*s+14))).kk (16*s+14) (some (.own e []))) K
  | .ref id=>match σ.H id with
   |some (.own e' l)=>cJ (.slice e') (.slice e) l λx=>iO r (σ.kk id (some .gone)) ((acc.put s (.ref (16*s+14))).kk (16*s+14) (some (.own e x))) K
   |_=>none
  |_=>none
 |(s,.obj τ)::r,σ,acc,K=>match σ.T s with
  | .jd id []=>match σ.H id with
   |some (.obj υ x)=>cJ υ τ x λy=>iO r (σ.kk id (some .gone)) ((acc.put s (.jd (16*s+14) [])).kk (16*s+14) (some (.obj τ y))) K
   |some (.gg υ x q j)=>Ck j q υ x σ.H λz ups=>cJ υ τ z λy=>iO r ((σ.w3 ups).kk id (some .gone)) ((acc.put s (.jd (16*s+14) [])).kk (16*s+14) (some (.obj τ y))) K
   |_=>none
  |_=>none
 |(s,.gg τ q e)::r,σ,acc,K=>match σ.T s with
  | .jd id []=>match σ.H id with
   |some (.gg υ x q' j)=>cond (Jg q q') (match σ.H j with
    |some (.own e' l)=>cJ υ τ x λy=>cJ (.slice e') (.slice e) l λl=>iO r ((σ.kk j (some .gone)).kk id (some .gone))
     (((acc.put s (.jd (16*s+14) [])).kk (16*s+13) (some (.own e l))).kk (16*s+14) (some (.gg τ y q (16*s+13)))) K
    |_=>none) none
   |_=>none
  |_=>none
 |(s,.same s')::r,σ,acc,K=>match σ.T s,σ.T s',acc.T s' with
  | .ref i,.ref j,.ref j'=>cond (Nat.beq i j) (iO r σ (acc.put s (.ref j')) K) none
  |_,_,_=>none
 |(s,.io τ)::r,σ,acc,K=>match σ.T s with
  | .jd id []=>cond (Nat.beq id (16*s+15)) (match σ.H id with
   |some (.obj υ x)=>cJ υ τ x λy=>iO r (σ.kk id (some .gone)) ((acc.put s (.jd (16*s+15) [])).kk (16*s+15) (some (.obj τ y))) K
   |_=>none) none
  |_=>none
 |(s,.fn f τ)::r,σ,acc,K=>match σ.T s with
  | .NL f' c=>cond (Nat.beq f f') (rT σ.H τ c λx _ ups=>match ups with
   |[]=>iO r σ (acc.put s (.NL f (qz τ x))) K
   |_=>none) none
  |_=>none
def kW:List (Nat×CM)→Bool
 |[]=>true
 |q::r=>r.all (λp=> !(Nat.beq p.1 q.1))&&kW r
def xb(L:Option (List (Nat×CM)))(σ:St)(K:St→Option α):Option α:=
 match L with
 |none=>K σ
 |some L=>iO L σ ⟨λ_=> .any,λ_=>none⟩ K
def DB(L:Option (List (Nat×CM)))(step:St→(St→Option α)→Option α):Nat→St→Option α
 |0,_=>none
 |n+1,σ=>step σ fun σ'=>xb L σ' (DB L step n)
def c6:Code→Option Nat
 | .region id _ _=>some id
 | .seq a b=>match c6 a with
  |some i=>some i
  |none=>c6 b
 | .block _ c| .loop c| .scope c=>c6 c
 |_=>none
def J2(E:Env)(c:Operand)(σ:St)(A B:St→Option α):Option α:=
 match σ.ρ c with
 | .val .bool b=>match c with
  | .tmp t=>cond b (A (σ.put t (.val .bool true))) (B (σ.put t (.val .bool false)))
  |_=>cond b (A σ) (B σ)
 |_=>none
def Fj(E:Env)(c:Code):St→(St→Option α)→(Nat→St→Option α)→(St→Option α)→Option α:=
 Code.rec (motive:=λ_=>St→(St→Option α)→(Nat→St→Option α)→(St→Option α)→Option α)
  (fun σ k _ _=>k σ)
  (λ_ ops draw σ k _ _=>Fi E ops draw σ k)
  (λ_ b A B σ k kx kr=>A σ (fun σ'=>xb ((c6 b).bind E.yX) σ' fun σ''=>B σ'' k kx kr) kx kr)
  (λc _ _ A B σ k kx kr=>J2 E c σ (fun σ'=>A σ' k kx kr) (fun σ'=>B σ' k kx kr))
  (λid _ A σ k kx kr=>A σ k (λi σ'=>cond (Nat.beq i id) (k σ') (kx i σ')) kr)
  (λb A σ _ kx kr=>xb ((c6 b).bind E.w4) σ (DB ((c6 b).bind E.w4) (fun σ' kn=>A σ' kn kx kr) E.N))
  (λ_ _ _ _ _ _ _ _ _ _=>none)
  (λid σ _ kx _=>kx id σ)
  (λ_ A σ k kx kr=>A σ k kx kr)
  (λ_ σ k _ _=>k σ)
  (λ_ _ _ _ _=>none)
  (fun σ _ _ kr=>kr σ)
  (λ_ _ _ _ _=>none)
  c
def wA(E:Env):List Nat→Code→List (St→Option α)→St→(St→Option α)→(Nat→St→Option α)→(St→Option α)→Option α
 |[],c,_,σ,k,kx,kr=>Fj E c σ k kx kr
 |n::p,c,ks,σ,k,kx,kr=>match c with
  | .seq a b=>match n with
   |0=>wA E p a ks σ (fun σ'=>xb ((c6 b).bind E.yX) σ' fun σ''=>Fj E b σ'' k kx kr) kx kr
   |_=>wA E p b ks σ k kx kr
  | .cond _ a b=>match n with
   |0=>wA E p a ks σ k kx kr
   |_=>wA E p b ks σ k kx kr
  | .block id c=>wA E p c ks σ k (λi σ'=>cond (Nat.beq i id) (k σ') (kx i σ')) kr
  | .loop b=>match ks with
   |κ::ks=>wA E p b ks σ κ kx kr
   |[]=>none
  | .scope c=>wA E p c ks σ k kx kr
  |_=>none
def RK(m:AM)(x:m.den)(i:Nat)(σ:St):St:=
 match m,x with
 | .v τ,x=>σ.put i (.val τ x)
 | .own e,x=>(σ.put i (.ref (16*i+15))).kk (16*i+15) (some (.own e x))
 | .io τ,x=>(σ.put i (.jd (16*i+15) [])).kk (16*i+15) (some (.obj τ x))
 | .fn f τ,x=>σ.put i (.NL f (qz τ x))
 | .ptr _,_=>σ
 | .jd τ,x=>σ.put i (.rR τ x)
 | .lo e,x=>(σ.put i (.ref (16*i+15))).kk (16*i+15) (some (.own e x))
 | .sp _ _ _,_=>σ
def entry:(ms:List AM)→HP ms→Nat→St→St
 |[],_,_,σ=>σ
 |[m],x,i,σ=>RK m x i σ
 |m::n::ms,x,i,σ=>entry (n::ms) x.2 (i+1) (RK m x.1 i σ)
def J3(E:Env)(m:AM)(r:ResultVar ⊕ Nat)(σ:St)(K:m.den→St→Option α):Option α:=
 match m,r,K with
 | .v τ,.inl (.tmp t),K=>m0 true (σ.T t) σ.H τ λx _ ups=>K x (σ.w3 ups)
 | .v τ,.inl (.cell a t),K=>match E.ty t with
  |some τ'=>js τ' τ (lY (σ.T a) σ.H fun υ y _=>cJ υ τ y λx=>K x σ)
  |none=>none
 | .own e,.inl (.tmp t),K=>match σ.T t with
  | .emp=>K [] σ
  | .ref id=>match σ.H id with
   |some (.own e' l)=>cJ (.slice e') (.slice e) l λx=>K x (σ.kk id (some .gone))
   |_=>none
  |_=>none
 | .io τ,.inr i,K=>match σ.T i with
  | .jd id []=>match σ.H id with
   |some (.obj υ x)=>cJ υ τ x λy=>K y (σ.kk id (some .gone))
   |_=>none
  |_=>none
 | .lo e,.inr i,K=>match σ.T i with
  | .ref id=>match σ.H id with
   |some (.own e' l)=>cJ (.slice e') (.slice e) l λx=>K x (σ.kk id (some .gone))
   |_=>none
  |_=>none
 | .ptr τ,.inl (.tmp t),K=>match σ.T t with
  | .jd id []=>match σ.H id with
   |some (.obj υ x)=>cJ υ τ x λy=>K y (σ.kk id (some .gone))
   |_=>none
  |_=>none
 | .sp τ n e,.inl (.cell a t),K=>match E.ty t,σ.T a with
  |some τ',.jd id []=>js τ' τ (match σ.H id with
   |some (.gg υ x q j)=>cond (Jg q [.gG n]) (cJ υ τ x λx=>match σ.H j with
    |some (.own e' l)=>cJ (.slice e') (.slice e) l λl=>fX τ x n (fun υ' _ k'=>cJ (.slice e) υ' l k') λz=>K z (σ.kk j (some .gone))
    |_=>none) none
   |_=>none)
  |_,_=>none
 |_,_,_=>none
def Ls(E:Env):(ms:List AM)→List (ResultVar ⊕ Nat)→St→(HP ms→Option α)→Option α
 |[],[],_,K=>K ()
 |[m],[r],σ,K=>J3 E m r σ λx _=>K x
 |m::n::ms,r::rs,σ,K=>J3 E m r σ λx σ'=>Ls E (n::ms) rs σ' λxs=>K (x,xs)
 |_,_,_,_=>none
def yZ:List AM→Nat→List (ResultVar ⊕ Nat)
 |[],_=>[]
 | .io _::ms,i=> .inr i::yZ ms (i+1)
 | .lo _::ms,i=> .inr i::yZ ms (i+1)
 |_::ms,i=>yZ ms (i+1)
def NT(E:Env)(fn:Func)(args res:List AM)(x:HP args):Option (HP res):=
 match fn.body with
 |none=>none
 |some c=>
  let kr:St→Option (HP res):=fun σ=>Ls E res (fn.results.toList.map .inl++yZ args 0) σ some
  Fj E c (entry args x 0 ⟨λ_=> .any,λ_=>none⟩) kr (λ_ _=>none) kr
end
end VM
end
section
namespace VM
open Go
def ux(N:Nat)(x y c:Int):Option (Int×Int):=if 0≤x∧0≤y∧0≤c∧c≤1 then some ((x+y+c)%18446744073709551616,(x+y+c)/18446744073709551616)else none
def tg(N:Nat)(x y c:Int):Option (Int×Int):=if 0≤x∧x<18446744073709551616∧0≤y∧y<18446744073709551616∧0≤c∧c≤1 then some ((x+18446744073709551616-y-c)%18446744073709551616,if x<y+c then 1 else 0)else none
def qH{α:Type}(N:Nat)(l:List α)(i:Int)(v:List α):Option (List α):=if 0≤i∧i≤l.length∧v.length=1∧l.length+1<AN then some (l.take i.toNat++(v++l.drop i.toNat))else none
def abE{α:Type}(N:Nat)(l:List α)(n:Int):Option (List α):=match l with
 |[x]=>if 0<n∧n<1048576 then some (List.replicate n.toNat x)else none
 |_=>none
def ux.S(N:Nat):m1:={args:=[.v (.int .u64),.v (.int .u64),.v (.int .u64)],res:=[.v (.int .u64),.v (.int .u64)],quiet:=true,run:=λx=>ux N x.1 x.2.1 x.2.2}
def tg.S(N:Nat):m1:={args:=[.v (.int .u64),.v (.int .u64),.v (.int .u64)],res:=[.v (.int .u64),.v (.int .u64)],quiet:=true,run:=λx=>tg N x.1 x.2.1 x.2.2}
def mV(e:Ty)(N:Nat):m1:={args:=[.own e,.v (.int .i64),.own e],res:=[.own e],quiet:=false,run:=λx=>qH N x.1 x.2.1 x.2.2}
def at4(e:Ty)(N:Nat):m1:={args:=[.v (.slice e),.v (.int .i64)],res:=[.own e],quiet:=false,run:=λx=>abE N x.1 x.2}
def ju{α:Type}(N:Nat)(l:List α):Option (List α):=if l.length<AN then some l else none
def xc(e:Ty)(N:Nat):m1:={args:=[.v (.slice e)],res:=[.own e],quiet:=false,run:=λx=>ju N x}
end VM
namespace VM
abbrev c8:Int×Int×Unit:=((0:Int),((0:Int),()))
abbrev cc:List (Int×Int×Unit):=[]
abbrev bc:Int×Int×Int×Unit:=((0:Int),((0:Int),((0:Int),())))
abbrev bq:List (Int×Int×Int×Unit):=[]
abbrev ba:Int×Int×Int×Int×Unit:=((0:Int),((0:Int),((0:Int),((0:Int),()))))
abbrev cT:List (Int×Int×Int×Int×Unit):=[]
abbrev eG:Int×Int×Int×Int×Int×Unit:=((0:Int),((0:Int),((0:Int),((0:Int),((0:Int),())))))
abbrev EG:List (Int×Int×Int×Int×Int×Unit):=[]
abbrev eC:Int×Int×Int×Int×Int×Int×Unit:=((0:Int),((0:Int),((0:Int),((0:Int),((0:Int),((0:Int),()))))))
abbrev dq:List (Int×Int×Int×Int×Int×Int×Unit):=[]
abbrev Ng:Int×Int×Int×Int×Int×Int×Int×Unit:=((0:Int),((0:Int),((0:Int),((0:Int),((0:Int),((0:Int),((0:Int),())))))))
abbrev ee7:List (Int×Int×Int×Int×Int×Int×Int×Unit):=[]
abbrev zz8:Int×Int×Int×Int×Int×Int×Int×Int×Unit:=((0:Int),((0:Int),((0:Int),((0:Int),((0:Int),((0:Int),((0:Int),((0:Int),()))))))))
abbrev ee8:List (Int×Int×Int×Int×Int×Int×Int×Int×Unit):=[]
abbrev db:List Int:=[]
abbrev qg:List Int×Unit:=(db,())
end VM
end
section
namespace VM
open Go
def At(w:World)(b off:Nat)(cs:List Value):Prop:= ∀j v,cs[j]? =some v→w.cell? ⟨b,off+j,none⟩=some v
def Rd(w:World)(M:Nat→Prop):(τ:Ty)→List Value→τ.den→Prop
 | .int k,cs,x=>cs=[.int k x]
 | .bool,cs,x=>cs=[.bool x]
 | .str,cs,x=>cs=[.string x]
 | .slice e,cs,x=> ∃a cap,cs=[.slice a (ℓ x) cap]∧ℓ x≤cap∧
  ∀i (h:i<ℓ x),∃b off,a=some ⟨b,off,none⟩∧b<w.heap.size∧ ¬M b∧ ∃cs',At w b (off+i*e.size) cs'∧Rd w M e cs' (List.get x ⟨i,h⟩)
 | .unit,cs,_=>cs=[]
 | .pair a b,cs,x=> ∃c1 c2,cs=c1++c2∧Rd w M a c1 x.1∧Rd w M b c2 x.2
 | .arr n e,cs,x=>ℓ x=n∧ ∃U2:List (List Value),U2.length=n∧cs=U2.flatten∧
  ∀i (h:i<ℓ x) (h':i<U2.length),Rd w M e U2[i] (List.get x ⟨i,h⟩)
theorem pL{α:Type}(n:Nat): ∀(l:List (List α)),(∀i (h:i<l.length),l[i].length=n)→l.flatten.length=l.length*n
 |[],_=>by simp
 |a::l,h=>by
  have h0:=h 0 (by simp)
  have ih:=pL n l (λi hi=>h (i+1) (by simp;omega))
  simp only[FU]at h0
  simp only[Ax,aS,aT,ih,h0,eD]
  omega
theorem Rd.length{w:World}{M:Nat→Prop}: ∀{τ:Ty} {cs:List Value} {x:τ.den},Rd w M τ cs x→cs.length=τ.size
 | .int _,_,_,h=>by simp only[Rd]at h;subst h;rfl
 | .bool,_,_,h=>by simp only[Rd]at h;subst h;rfl
 | .str,_,_,h=>by simp only[Rd]at h;subst h;rfl
 | .slice _,_,_,h=>by simp only[Rd]at h;obtain⟨a,cap,rfl,_⟩:=h;rfl
 | .unit,_,_,h=>by simp only[Rd]at h;subst h;rfl
 | .pair a b,_,_,h=>by
  simp only[Rd]at h
  obtain⟨c1,c2,rfl,h1,h2⟩:=h
  rw[aS,h1.length,h2.length];rfl
 | .arr n e,_,x,h=>by
  simp only[Rd]at h
  obtain⟨hn,U2,hc,rfl,hr⟩:=h
  rw[pL e.size U2 (λi hi=>(hr i ω hi).length),hc];rfl
structure fO(w:World)(M:Nat→Prop)(w':World)(M':Nat→Prop):Prop where
 size:w.heap.size≤w'.heap.size
 block: ∀b,b<w.heap.size→ ¬M b→w'.heap[b]? =w.heap[b]?
 less: ∀b,b<w.heap.size→M' b→M b
theorem ajH{w:World}{b o:Nat}{v:Value}(h:w.cell? ⟨b,o,none⟩=some v):b<w.heap.size:=by
 simp only[World.cell?]at h
 rcases nT b w.heap.size with hb|hb
 ·exact hb
 ·simp[NA hb]at h
theorem At.bZ{w w':World}{b off:Nat}{cs:List Value}(h:At w b off cs)(hb:w'.heap[b]? =w.heap[b]?):At w' b off cs:=by
 intro j v hj
 have:=h j v hj
 rw[World.cell?_of_block (w:=w) hb]
 exact this
theorem At.append{w:World}{b off:Nat}{c1 c2:List Value}:At w b off (c1++c2)↔At w b off c1∧At w b (off+c1.length) c2:=by
 constructor
 ·intro h
  refine⟨λj v hj=>h j v (by rw[tc];exact hj;exact(u2.1 hj).1),λj v hj=> ?_⟩
  have:=h (c1.length+j) v (by rw[pj ω];simpa using hj)
  rw[pI];exact this
 ·rintro⟨h1,h2⟩ j v hj
  by_cases eT:j<c1.length
  ·rw[tc eT]at hj;exact h1 j v hj
  ·rw[pj ω]at hj
   have:=h2 (j-c1.length) v hj
   rwa [show off+c1.length+(j-c1.length)=off+j from by omega]at this
theorem Rd.bZ{w w':World}{M M':Nat→Prop}(k:fO w M w' M'): ∀{τ:Ty} {cs:List Value} {x:τ.den},Rd w M τ cs x→Rd w' M' τ cs x
 | .int _,_,_,h=>h
 | .bool,_,_,h=>h
 | .str,_,_,h=>h
 | .slice e,_,x,h=>by
  simp only[Rd]at h ⊢
  obtain⟨a,cap,rfl,hc,hr⟩:=h
  refine⟨a,cap,rfl,hc,λi hi=> ?_⟩
  obtain⟨b,off,ha,hb,hm,cs',pt,kB⟩:=hr i hi
  exact⟨b,off,ha,nM hb k.size,λh'=>hm (k.less b hb h'),_,pt.bZ (k.block b hb hm),kB.bZ k⟩
 | .unit,_,_,h=>h
 | .pair a b,_,_,h=>by
  simp only[Rd]at h ⊢
  obtain⟨c1,c2,rfl,h1,h2⟩:=h
  exact⟨c1,c2,rfl,h1.bZ k,h2.bZ k⟩
 | .arr n e,_,x,h=>by
  simp only[Rd]at h ⊢
  obtain⟨hn,U2,hc,rfl,hr⟩:=h
  exact⟨hn,U2,hc,rfl,λi hi nV=>(hr i hi nV).bZ k⟩
theorem fO.refl(w:World)(M:Nat→Prop):fO w M w M:=⟨aH _,λ_ _ _=>rfl,λ_ _ h=>h⟩
theorem fO.trans{w w' w'':World}{M M' J4:Nat→Prop}(h:fO w M w' M')(k:fO w' M' w'' J4):fO w M w'' J4:=
 ⟨ct h.size k.size,λb hb hm=>(k.block b (nM hb h.size) (λh'=>hm (h.less b hb h'))).trans (h.block b hb hm),
  λb hb hm=>h.less b hb (k.less b (nM hb h.size) hm)⟩
def V(w:World)(M:Nat→Prop)(τ:Ty)(v:Value)(x:τ.den):Prop:=
 if τ.isAgg then ∃cs,v= .agg cs∧Rd w M τ cs.toList x else Rd w M τ [v] x
theorem V.bZ{w w':World}{M M':Nat→Prop}(k:fO w M w' M'){τ:Ty}{v:Value}{x:τ.den}(h:V w M τ v x):V w' M' τ v x:=by
 unfold V at*
 split
 ·rename_i ha;rw[aj ha]at h;obtain⟨cs,rfl,h⟩:=h;exact⟨cs,rfl,h.bZ k⟩
 ·rename_i ha;rw[ah ha]at h;exact h.bZ k
theorem Rd.scalar{w:World}{M:Nat→Prop}{τ:Ty}{cs:List Value}{x:τ.den}(ha:τ.isAgg=false)(h:Rd w M τ cs x): ∃v,cs=[v]∧v.cells= #[v]:=by
 cases τ<;>simp only[Ty.isAgg,Bool.true_eq_false]at ha<;>simp only[Rd]at h
 ·exact⟨_,h,rfl⟩
 ·exact⟨_,h,rfl⟩
 ·exact⟨_,h,rfl⟩
 ·obtain⟨a,cap,rfl,_⟩:=h;exact⟨_,rfl,rfl⟩
theorem V.cells{w:World}{M:Nat→Prop}{τ:Ty}{v:Value}{x:τ.den}(h:V w M τ v x):Rd w M τ v.cells.toList x:=by
 unfold V at h
 by_cases ha:τ.isAgg=true
 ·rw[aj ha]at h;obtain⟨cs,rfl,h⟩:=h;exact h
 ·rw[ah ha]at h
  obtain⟨v',hv,hc⟩:=h.scalar (by simpa using ha)
  simp only[fV,eF]at hv
  subst hv
  rw[hc];exact h
def cg(τ:Ty)(cs:List Value):Value:=if τ.isAgg then .agg cs.toArray else cs.headD (.tuple #[])
theorem V.cg{w:World}{M:Nat→Prop}{τ:Ty}{cs:List Value}{x:τ.den}(h:Rd w M τ cs x):V w M τ (cg τ cs) x:=by
 unfold V VM.cg
 by_cases ha:τ.isAgg=true
 ·rw[aj ha,aj ha];exact⟨_,rfl,by simpa using h⟩
 ·rw[ah ha,ah ha]
  obtain⟨v',rfl,_⟩:=h.scalar (by simpa using ha)
  exact h
theorem Jj{w:World}{M:Nat→Prop}{τ:Ty}{cs:List Value}{x:τ.den}(h:Rd w M τ cs x):(cg τ cs).cells.toList=cs:=by
 unfold VM.cg
 by_cases ha:τ.isAgg=true
 ·rw[aj ha];simp[Value.cells]
 ·rw[ah ha]
  obtain⟨v',rfl,hc⟩:=h.scalar (by simpa using ha)
  simp[hc]
theorem Rd.lM{w:World}{M:Nat→Prop}: ∀{τ:Ty} {cs:List Value} {x:τ.den},Rd w M τ cs x→ ∀v∈cs,v.oneCell'=true
 | .int _,_,_,h=>by simp only[Rd]at h;subst h;simp[Value.oneCell']
 | .bool,_,_,h=>by simp only[Rd]at h;subst h;simp[Value.oneCell']
 | .str,_,_,h=>by simp only[Rd]at h;subst h;simp[Value.oneCell']
 | .slice _,_,_,h=>by simp only[Rd]at h;obtain⟨a,cap,rfl,_⟩:=h;simp[Value.oneCell']
 | .unit,_,_,h=>by simp only[Rd]at h;subst h;simp
 | .pair a b,_,_,h=>by
  simp only[Rd]at h
  obtain⟨c1,c2,rfl,h1,h2⟩:=h
  intro v hv
  rcases bk.1 hv with hv|hv
  ·exact h1.lM v hv
  ·exact h2.lM v hv
 | .arr n e,_,x,h=>by
  simp only[Rd]at h
  obtain⟨hn,U2,hc,rfl,hr⟩:=h
  intro v hv
  obtain⟨l,hl,hvl⟩:=List.mem_flatten.1 hv
  obtain⟨i,hi,rfl⟩:=rD.1 hl
  exact(hr i ω hi).lM v hvl
def Ty.cD:Ty→List Value
 | .int k=>[.int k 0]
 | .bool=>[.bool false]
 | .str=>[.string ByteArray.empty]
 | .slice _=>[.slice none 0 0]
 | .unit=>[]
 | .pair a b=>a.cD++b.cD
 | .arr n e=>(List.replicate n e.cD).flatten
theorem Rd.zero(w:World)(M:Nat→Prop): ∀(τ:Ty),Rd w M τ τ.cD τ.zero
 | .int _| .bool| .str| .unit=>by simp[Rd,Ty.cD,Ty.zero]
 | .slice _=>by
  simp only[Rd,Ty.cD,Ty.zero]
  exact⟨none,0,rfl,aH _,λi h=>absurd h (by simp)⟩
 | .pair a b=>by
  simp only[Rd,Ty.cD,Ty.zero]
  exact⟨_,_,rfl,Rd.zero w M a,Rd.zero w M b⟩
 | .arr n e=>by
  simp only[Rd,Ty.cD,Ty.zero]
  refine⟨by simp,_,by simp,rfl,λi h h'=> ?_⟩
  simp only[NB,FY]
  exact Rd.zero w M e
end VM
end
