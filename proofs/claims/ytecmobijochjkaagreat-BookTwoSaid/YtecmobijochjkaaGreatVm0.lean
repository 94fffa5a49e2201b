/- A part of the proof of BookTwo of layer 18: a machine that reads a function of the program as an equation between values. -/
import Derived.KernelRfl
import GoSem.Claims
import Derived.WalkKit
import Derived.ArgAppend
import Derived.Laws.CopyRow
import Derived.Laws.MakeOwn
import Derived.Laws.OwnMore
import Derived.Orders
import Derived.LoopN
set_option linter.all false
open List renaming length→ℓ, getD→γ
theorem ω{p:Prop}(h:p:=by omega):p:=h
theorem δ{p:Prop}(h:p:=by decide):p:=h
theorem κ{p:Prop}(h:p:=by kernel_rfl):p:=h
noncomputable section
abbrev ar:=@Option.bind_some
abbrev ak:=@cond_true
abbrev aK:=@List.length_singleton
abbrev aV:=@List.getD_eq_getElem?_getD
abbrev aI:=@Int.toNat_natCast
abbrev av:=@cond_false
abbrev aj:=@if_pos
abbrev bo:=@List.getElem?_eq_getElem
abbrev aS:=@List.length_append
abbrev ah:=@if_neg
abbrev aZ:=@List.mem_cons_of_mem
abbrev aT:=@List.length_cons
abbrev bk:=@Array.length_toList
abbrev aH:=@Nat.le_refl
abbrev bq:=@List.mem_cons_self
abbrev aU:=@decide_eq_true
abbrev bt:=@of_decide_eq_true
abbrev bl:=@List.mem_append
abbrev bE:=@List.append_assoc
abbrev bu:=@decide_eq_false
abbrev a8:=@List.mem_cons
abbrev bh:=@Bool.not_true
abbrev bM:=@Bool.and_eq_true
abbrev cr:=@List.mem_singleton
abbrev bN:=@List.length_set
abbrev c4:=@List.length_replicate
abbrev bZ:=@List.length_take
abbrev cU:=@List.mem_append_left
abbrev c5:=@Bool.and_eq_true_iff
abbrev cj:=@List.length_nil
abbrev dB:=@List.mem_append_right
abbrev bQ:=@List.map_cons
abbrev cw:=@List.append_nil
abbrev bz:=@Nat.zero_le
abbrev cD:=@List.length_map
abbrev cM:=@List.nil_append
abbrev cQ:=@List.drop_zero
abbrev cE:=@List.sum_cons
abbrev cv:=@Nat.le_trans
abbrev dj:=@List.map_append
abbrev fy:=@Nat.eq_of_beq_eq_true
abbrev dO:=@List.getElem_mem
abbrev dp:=@Bool.not_false
abbrev eP:=@List.pairwise_cons
abbrev cV:=@List.mem_map
abbrev fh:=@List.mem_map_of_mem
abbrev eg:=@List.length_drop
abbrev dP:=@Int.toNat_zero
abbrev gL:=@List.take_append_drop
abbrev fi:=@Option.mem_toList
abbrev fP:=@decide_eq_true_iff
abbrev ig:=@List.getElem?_eq_none
abbrev iy:=@List.take_of_length_le
abbrev gE:=@List.getElem_of_mem
abbrev iz:=@Array.getElem?_toList
abbrev lG:=@Array.getElem?_eq_some_iff
abbrev jL:=@List.drop_of_length_le
abbrev fQ:=@List.cons.injEq
abbrev iA:=@Option.some.injEq
abbrev fA:=@Bool.and_true
abbrev eG:=@Nat.add_mul
abbrev kz:=@Nat.mul_le_mul_right
abbrev ij:=@List.take_length
abbrev pz:=@List.getElem?_append_right
abbrev jM:=@Bool.false_eq_true
abbrev jf:=@List.size_toArray
abbrev ik:=@Nat.min_eq_left
abbrev lH:=@List.mem_of_mem_take
abbrev mQ:=@List.mem_of_mem_drop
abbrev gm:=@Nat.zero_add
abbrev qU:=@List.drop_eq_getElem_cons
abbrev iB:=@List.drop_drop
abbrev mR:=@Nat.mul_le_mul_left
abbrev tz:=@Array.getD_eq_getD_getElem?
abbrev fR:=@Int.le_refl
abbrev mS:=@List.getElem?_take
abbrev mT:=@List.getElem?_drop
abbrev gM:=@List.map_nil
abbrev gN:=@Int.le_trans
abbrev vo:=@List.eq_nil_of_length_eq_zero
abbrev tA:=@List.getElem?_append_left
abbrev nQ:=@Nat.lt_of_lt_of_le
abbrev tB:=@List.take_append_getElem
abbrev mU:=@Bool.not_eq_true
abbrev mV:=@List.cons_append
abbrev mW:=@List.drop_length
abbrev yH:=@List.take_append_of_le_length
abbrev yI:=@Int.mul_le_mul_of_nonneg_left
abbrev vp:=@List.getElem?_eq_some_iff
abbrev vq:=@List.pairwise_iff_getElem
abbrev nR:=@Option.getD_some
abbrev pA:=@List.nodup_append
abbrev jN:=@Int.add_zero
abbrev vr:=@Int.eq_ofNat_of_zero_le
abbrev fj:=@congrArg
abbrev lI:=@Int.mul_assoc
abbrev nS:=@List.sum_append
abbrev pB:=@List.all_eq_true
abbrev fB:=@and_true
abbrev ux:=@List.mem_or_eq_of_mem_set
abbrev pO:=@List.length_pos_iff
abbrev pP:=@List.map_congr_left
abbrev w9:=@List.drop_append_of_le_length
abbrev nT:=@List.getElem?_map
abbrev mv:=@List.drop_left'
abbrev mw:=@Option.some.inj
abbrev jl:=@Int.mul_comm
abbrev jm:=@List.sum_nil
abbrev rO:=@List.mem_iff_getElem
abbrev uy:=@Option.bind_eq_some_iff
abbrev nU:=@decide_eq_decide
abbrev kR:=@Bool.true_and
abbrev xa:=@Option.ne_none_iff_exists'
abbrev g8:=@Array.ext'
abbrev my:=@List.take_zero
abbrev nV:=@Bool.or_eq_true
abbrev fC:=@if_false
abbrev uz:=@List.Pairwise.sublist
abbrev AA:=@Int.mul_le_mul_of_nonneg_right
abbrev rP:=@Bool.false_ne_true
abbrev pQ:=@List.filter_cons
abbrev rQ:=@Bool.not_eq_true'
abbrev rR:=@Bool.not_eq_false
abbrev pR:=@Bool.eq_iff_iff
abbrev fc:=@Ne.symm
abbrev mz:=@Nat.add_zero
abbrev xb:=@List.drop_eq_nil_of_le
abbrev kS:=@Nat.one_mul
abbrev rS:=@List.mem_filter
abbrev nW:=@Nat.lt_or_ge
abbrev mA:=@Int.mul_add
abbrev uA:=@List.pairwise_map
abbrev xc:=@List.pairwise_append
abbrev pS:=@Nat.add_assoc
abbrev AB:=@List.getElem_append_left
abbrev AD:=@List.eq_of_mem_replicate
abbrev xd:=@Int.toNat_of_nonneg
abbrev rT:=@List.drop_take
abbrev rU:=@List.take_take
abbrev AE:=@Nat.add_sub_cancel_left
abbrev rV:=@List.mem_range
abbrev iC:=@Prod.ext
abbrev nX:=@Int.add_mul
abbrev pT:=@Nat.beq_refl
abbrev AF:=@Option.map_eq_some_iff
abbrev AG:=@Int.ediv_lt_iff_lt_mul
abbrev uB:=@List.headD_cons
abbrev uC:=@Int.ediv_nonneg
abbrev rW:=@Bool.false_or
abbrev rX:=@Bool.or_false
abbrev g9:=@if_true
abbrev xe:=@List.length_range
abbrev xf:=@decide_eq_true_eq
abbrev xg:=@Bool.eq_false_iff
abbrev uD:=@Nat.mul_le_mul
abbrev AH:=@Array.getElem_toList
abbrev uE:=@List.tail_cons
abbrev uF:=@Int.mul_nonneg
abbrev uG:=@Bool.false_and
abbrev nY:=@Int.not_lt
abbrev rY:=@Nat.mul_succ
abbrev FW:=@List.getElem_append_right
abbrev AI:=@List.replicate_succ
abbrev xh:=@List.take_left'
abbrev xi:=@List.length_zip
abbrev AJ:=@Int.emod_lt_of_pos
abbrev AK:=@Int.lt_of_le_of_lt
abbrev AL:=@List.filter_append
abbrev rZ:=@Nat.le_succ
abbrev sa:=@Nat.sub_mul
abbrev FX:=@List.getElem?_replicate
abbrev FY:=@decide_eq_false_iff_not
abbrev FZ:=@List.pairwise_singleton
abbrev F0:=@List.getElem_cons_zero
abbrev AN:=@List.flatten_cons
abbrev AO:=@List.ext_getElem?
abbrev uH:=@Nat.sub_self
abbrev AP:=@List.getElem_take
abbrev F1:=@List.getElem?_set_self
abbrev Nq:=@Array.getElem?_setIfInBounds_ne
abbrev F2:=@List.getElem?_toArray
abbrev F3:=@Nat.le_of_ble_eq_true
abbrev F4:=@List.singleton_append
abbrev AQ:=@List.any_eq_true
abbrev Nr:=@Nat.and_two_pow_sub_one_eq_mod
abbrev AS:=@beq_self_eq_true
abbrev xj:=@List.all_cons
abbrev AT:=@List.nodup_cons
abbrev F5:=@List.get_eq_getElem
abbrev Ns:=@Nat.two_pow_add_eq_or_of_lt
abbrev xk:=@Int.zero_mul
abbrev xl:=@Int.zero_add
abbrev Nt:=@iff_iff_implies_and_implies
abbrev F6:=@List.getElem_range
abbrev AU:=@List.mapM_cons
abbrev Nu:=@Int.fdiv_eq_ediv_of_nonneg
abbrev Nv:=@Int.add_mul_emod_self_left
abbrev uI:=@Int.not_le
abbrev F7:=@Int.tmod_lt_of_pos
abbrev Nw:=@Array.getElem?_eq_getElem
abbrev Nx:=@Classical.byContradiction
abbrev Ny:=@Int.le_of_mul_le_mul_left
abbrev Nz:=@Decidable.byContradiction
abbrev F8:=@List.getElem_drop
abbrev xm:=@Int.mul_neg
abbrev F9:=@Decidable.not_not
abbrev NA:=@List.length_eq_zero_iff
abbrev NB:=@List.getElem?_cons_zero
abbrev Ga:=@List.nil_sublist
abbrev NC:=@Array.getElem?_eq_none
abbrev ND:=@List.getElem_replicate
abbrev xn:=@Nat.beq_eq
abbrev NF:=@List.append_eq_nil_iff
abbrev AV:=@Nat.pow_succ
abbrev AW:=@Int.pow_succ
abbrev AX:=@Int.mul_zero
abbrev NG:=@Int.ediv_eq_zero_of_lt
abbrev Gb:=@List.range_succ
abbrev Gc:=@Int.emod_nonneg
abbrev NH:=@List.length_filter_le
abbrev NI:=@Int.mul_ediv_add_emod
abbrev NJ:=@Nat.div_lt_iff_lt_mul
abbrev NK:=@Int.add_mul_ediv_left
abbrev NL:=@List.set_append_right
abbrev AY:=@Int.one_mul
abbrev Gd:=@Int.natAbs_mul
abbrev Ge:=@Bool.and_false
abbrev Gf:=@Nat.lt_irrefl
abbrev Gg:=@List.any_cons
abbrev AZ:=@Nat.blt_eq
abbrev A0:=@Nat.ble_eq
abbrev Gh:=@Nat.mul_comm
abbrev Gi:=@Int.sub_zero
section
namespace VM
open Go
theorem aoU{α:Type}(a:α): ∃b:α,b=a:=⟨a,rfl⟩
def bg{α:Type}(a:α):α:=Classical.choose (aoU a)
theorem jo{α:Type}(a:α):bg a=a:=Classical.choose_spec (aoU a)
def A2:Nat:=68719476736
def W:IntKind→Int→Int:=bg λk x=>k.wrap x
def aX:Int→Int→Bool:=bg λx y=>decide (x<y)
def du:Int→Int→Bool:=bg λx y=>decide (x≤y)
def aN:Int→Int→Bool:=bg λx y=>decide (x=y)
def bc:Int→Nat→Bool:=bg λi n=>decide (0≤i∧i<(n:Int))
def small:Nat→Bool:=bg λn=>decide (n<A2)
def kT:Int→Int→Bool:=bg λl c=>decide (0≤l∧l≤c∧c<(A2:Int))
def jq:Int→Int→Int→Int→Bool:=bg λl h m n=>decide (0≤l∧l≤h∧h≤m∧m≤n)
def quo:Int→Int→Int:=bg λx y=>x.tdiv y
def rem:Int→Int→Int:=bg λx y=>x.tmod y
def shl:IntKind→Int→Int→Int:=bg λk x y=>x*2^(min y.toNat k.bits)
def shr:IntKind→Int→Int→Int:=bg λk x y=>x.fdiv (2^(min y.toNat k.bits))
def mx:Int→Int→Int:=bg λx y=>if y>x then y else x
def mn:Int→Int→Int:=bg λx y=>if y<x then y else x
def X0:ByteArray→ByteArray→Bool:=bg λx y=>decide (x.toList=y.toList)
theorem Gj(k:IntKind)(x:Int):W k x=k.wrap x:=by unfold W;rw[jo]
theorem qw(x y:Int):aX x y=decide (x<y):=by unfold aX;rw[jo]
theorem m0(x y:Int):du x y=decide (x≤y):=by unfold du;rw[jo]
theorem ko(x y:Int):aN x y=decide (x=y):=by unfold aN;rw[jo]
theorem X1(i:Int)(n:Nat):bc i n=decide (0≤i∧i<(n:Int)):=by unfold bc;rw[jo]
theorem Gk(n:Nat):small n=decide (n<A2):=by unfold small;rw[jo]
theorem JT(l c:Int):kT l c=decide (0≤l∧l≤c∧c<(A2:Int)):=by unfold kT;rw[jo]
theorem sb(l h m n:Int):jq l h m n=decide (0≤l∧l≤h∧h≤m∧m≤n):=by unfold jq;rw[jo]
theorem ajW(x y:Int):quo x y=x.tdiv y:=by unfold quo;rw[jo]
theorem ajX(x y:Int):rem x y=x.tmod y:=by unfold rem;rw[jo]
theorem X2(k:IntKind)(x y:Int):shl k x y=x*2^(min y.toNat k.bits):=by unfold shl;rw[jo]
theorem R5(k:IntKind)(x y:Int):shr k x y=x.fdiv (2^(min y.toNat k.bits)):=by unfold shr;rw[jo]
theorem aiM(x y:Int):mx x y=if y>x then y else x:=by unfold mx;rw[jo]
theorem X3(x y:Int):mn x y=if y<x then y else x:=by unfold mn;rw[jo]
theorem Gl(x y:ByteArray):X0 x y=decide (x.toList=y.toList):=by unfold X0;rw[jo]
inductive Bw where|and|or|xor|andNot
def sd:Bw→IntKind→Int→Int→Int:=bg λo k x y=>
 let a:=BitVec.ofInt k.bits x
 let b:=BitVec.ofInt k.bits y
 k.wrap (match o with| .and=>a&&& b| .or=>a|||b| .xor=>a^^^b| .andNot=>a&&& ~~~b).toNat
theorem vt(o:Bw)(k:IntKind)(x y:Int):sd o k x y=
 let a:=BitVec.ofInt k.bits x
 let b:=BitVec.ofInt k.bits y
 k.wrap (match o with| .and=>a&&& b| .or=>a|||b| .xor=>a^^^b| .andNot=>a&&& ~~~b).toNat:=by unfold sd;rw[jo]
def strOf(l:List Nat):ByteArray:=⟨(l.map UInt8.ofNat).toArray⟩
inductive Ty where
 |int (k:IntKind)
 |bool
 |str
 |slice (e:Ty)
 |unit
 |pair (a b:Ty)
 |arr (n:Nat) (e:Ty)
 deriving DecidableEq
@[reducible] def Ty.den:Ty→Type
 | .int _=>Int
 | .bool=>Bool
 | .str=>ByteArray
 | .slice e=>List e.den
 | .unit=>Unit
 | .pair a b=>a.den×b.den
 | .arr _ e=>List e.den
def Ty.size:Ty→Nat
 | .int _| .bool| .str| .slice _=>1
 | .unit=>0
 | .pair a b=>a.size+b.size
 | .arr n e=>n*e.size
def Ty.isAgg:Ty→Bool
 | .unit| .pair _ _| .arr _ _=>true
 |_=>false
def Ty.zero:(τ:Ty)→τ.den
 | .int _=>(0:Int)
 | .bool=>false
 | .str=>ByteArray.empty
 | .slice _=>[]
 | .unit=>()
 | .pair a b=>(a.zero,b.zero)
 | .arr n e=>List.replicate n e.zero
def Ty.comparable:Ty→Bool
 | .slice _=>false
 | .pair a b=>a.comparable&&b.comparable
 | .arr _ _=>false
 |_=>true
def aoV{α:Type}(f:α→α→Bool):List α→List α→Bool
 |[],[]=>true
 |x::xs,y::ys=>f x y&&aoV f xs ys
 |_,_=>false
def pC:(τ:Ty)→τ.den→τ.den→Bool
 | .int _,x,y=>aN x y
 | .bool,x,y=>x==y
 | .str,x,y=>X0 x y
 | .slice _,_,_=>false
 | .unit,_,_=>true
 | .pair a b,x,y=>pC a x.1 y.1&&pC b x.2 y.2
 | .arr _ e,x,y=>aoV (pC e) x y
inductive Step where
 |iD (n:Nat)
 |idx (i:Nat)
def Nc:List Step→List Step→Bool
 |[],[]=>true
 | .iD a::p,.iD b::q=>Nat.beq a b&&Nc p q
 |_,_=>false
def zj:List Step→List Step→Bool
 |[],_=>true
 | .iD a::p,.iD b::q=>Nat.beq a b&&zj p q
 |_,_=>false
def A3:Ty→Nat→Option Ty
 | .pair a b,n=>match n with
  |0=>some a
  |n+1=>A3 b n
 |_,_=>none
def gj:List Step→Ty→Ty→Bool
 |[],τ,υ=>decide (τ=υ)
 | .iD n::p,τ,υ=>match A3 τ n with
  |some a=>gj p a υ
  |none=>false
 |_,_,_=>false
inductive bA where
 |any
 |X4
 |val (τ:Ty) (x:τ.den)
 |Ln (τ:Ty) (x:τ.den) (n:Nat)
 |Ja (τ:Ty) (x:τ.den) (n:Nat) (j:Nat)
 |sub (id:Nat) (e:Ty) (lo:Nat)
 |emp
 |ref (id:Nat)
 |jE (id:Nat) (p:List Step)
 |se (τ:Ty) (x:τ.den)
 |tup (vs:List bA)
 |NM (f:Nat) (caps:List bA)
inductive br where
 |obj (τ:Ty) (x:τ.den)
 |gk (τ:Ty) (x:τ.den) (p:List Step) (j:Nat)
 |own (e:Ty) (l:List e.den)
 |pD (e:Ty) (l:List e.den)
 |gone
structure St where
 T:Nat→bA
 H:Nat→Option br
def St.put(σ:St)(d:Nat)(v:bA):St:=⟨λi=>cond (Nat.beq i d) v (σ.T i),σ.H⟩
def St.kp(σ:St)(d:Nat)(v:Option br):St:=⟨σ.T,λi=>cond (Nat.beq i d) v (σ.H i)⟩
def St.wO(σ:St)(d:Option Nat)(v:bA):St:=match d with|some d=>σ.put d v|none=>σ
def NN(n:Nat)(io:List Nat):Option Nat→Bool|some d=>Nat.blt d n&&io.all (λi=> !(Nat.beq i d))|none=>true
def St.xp(σ:St):List (Nat×Option br)→St
 |[]=>σ
 |u::r=>(σ.kp u.1 u.2).xp r
abbrev S0:St:=⟨λ_=> .any,λ_=>none⟩
abbrev jF:=List (Nat×Option br)
section K
variable{α:Type}
def vu:(τ:Ty)→τ.den→Nat→((υ:Ty)→υ.den→Option α)→Option α
 | .pair a b,x,n,k=>match n with
  |0=>k a x.1
  |n+1=>vu b x.2 n k
 |_,_,_,_=>none
def fT:(τ:Ty)→τ.den→Nat→((υ:Ty)→υ.den→(υ.den→Option α)→Option α)→(τ.den→Option α)→Option α
 | .pair a b,x,n,m,k=>match n with
  |0=>m a x.1 λz=>k (z,x.2)
  |n+1=>fT b x.2 n m λz=>k (x.1,z)
 |_,_,_,_,_=>none
def jr(τ υ:Ty)(k:Option α):Option α:=if τ=υ then k else none
def cL(υ τ:Ty)(y:υ.den)(k:τ.den→Option α):Option α:=if h:υ=τ then k (h▸y)else none
def ajY(τ:Ty)(x:τ.den)(i:Nat)(k:(υ:Ty)→υ.den→Option α):Option α:=
 match τ,x with
 | .arr _ e,x=>k e (γ x i e.zero)
 |_,_=>none
def Fl(τ:Ty)(x:τ.den)(i:Nat)(m:(υ:Ty)→υ.den→(υ.den→Option α)→Option α)(k:τ.den→Option α):Option α:=
 match τ,x,k with
 | .arr _ e,x,k=>m e (γ x i e.zero) λz=>k (List.set x i z)
 |_,_,_=>none
def A4:List Step→(τ:Ty)→τ.den→((υ:Ty)→υ.den→Option α)→Option α
 |[],τ,x,k=>k τ x
 | .iD n::p,τ,x,k=>vu τ x n fun υ y=>A4 p υ y k
 | .idx i::p,τ,x,k=>ajY τ x i fun υ y=>A4 p υ y k
def wP(υ:Ty)(y:υ.den):List Step→(τ:Ty)→τ.den→(τ.den→Option α)→Option α
 |[],τ,_,k=>cL υ τ y k
 | .iD n::p,τ,x,k=>fT τ x n (fun υ' y' k'=>wP υ y p υ' y' k') k
 | .idx i::p,τ,x,k=>Fl τ x i (fun υ' y' k'=>wP υ y p υ' y' k') k
def m1(fz:Bool)(a:bA)(H:Nat→Option br)(τ:Ty)(k:τ.den→List Nat→jF→Option α):Option α:=
 match a with
 | .val υ x=>cL υ τ x λy=>k y [] []
 | .Ln υ x _=>cL υ τ x λy=>k y [] []
 | .emp=>match τ,k with
  | .slice _,k=>k [] [] []
  |_,_=>none
 | .ref id=>match H id with
  |some (.own e l)=>cL (.slice e) τ l λy=>k y [id] (cond fz [(id,some (.pD e l))] [])
  |some (.pD e l)=>cL (.slice e) τ l λy=>k y [id] []
  |_=>none
 |_=>none
def NO(a:bA)(k:(τ:Ty)→τ.den→Option α):Option α:=
 match a with
 | .val υ x=>k υ x
 |_=>none
def mc(id:Nat)(p:List Step)(H:Nat→Option br)(k:Ty→Option α):Option α:=
 match H id with
 |some (.obj τ x)=>A4 p τ x fun υ _=>k υ
 |some (.gk τ x _ _)=>A4 p τ x fun υ _=>k υ
 |some (.own e l)|some (.pD e l)=>match p with
  | .idx i::p=>A4 p e (γ l i e.zero) fun υ _=>k υ
  |_=>none
 |_=>none
def aAs(a:bA)(H:Nat→Option br)(k:(τ:Ty)→τ.den→List Nat→Option α):Option α:=
 match a with
 | .val υ x=>k υ x []
 | .ref id=>match H id with
  |some (.own e l)|some (.pD e l)=>k (.slice e) l [id]
  |_=>none
 |_=>none
def wQ(a:bA)(k:IntKind→Int→Option α):Option α:=
 match a with
 | .val (.int i) x=>k i x
 |_=>none
end K
inductive AM where
 |v (τ:Ty)
 |own (e:Ty)
 |io (τ:Ty)
 |fn (f:Nat) (τ:Ty)
 |ptr (τ:Ty)
 |jE (τ:Ty)
 |lo (e:Ty)
 |sp (τ:Ty) (n:Nat) (e:Ty)
 deriving DecidableEq
@[reducible] def AM.den:AM→Type
 | .v τ=>τ.den
 | .own e=>List e.den
 | .io τ=>τ.den
 | .fn _ τ=>τ.den
 | .ptr τ=>τ.den
 | .jE τ=>τ.den
 | .lo e=>List e.den
 | .sp τ _ _=>τ.den
@[reducible] def HP:List AM→Type
 |[]=>Unit
 |[m]=>m.den
 |m::n::ms=>m.den×HP (n::ms)
structure m2 where
 args:List AM
 res:List AM
 quiet:Bool
 run:HP args→Option (HP res)
inductive CM where
 |v (τ:Ty)
 |own (e:Ty)
 |obj (τ:Ty)
 |gk (τ:Ty) (q:List Step) (e:Ty)
 |same (s:Nat)
 |io (τ:Ty)
 |fn (f:Nat) (τ:Ty)
structure Env where
 nt:Nat
 ty:Nat→Option Ty
 Γ:Nat→List m2
 N:Nat
 xq:Nat→Option (List (Nat×CM))
 zk:Nat→Option (List (Nat×CM))
 io:List Nat:=[]
 lk:Option (Ty×List Step×Ty×List Nat):=none
def Env.vw(E:Env):Bool:=match E.lk with
 |some (_,_,_,ds)=>ds.any λd=>Nat.beq d 1000001
 |none=>false
def Env.sp(E:Env):Bool:=match E.lk with
 |some (_,_,_,ds)=>ds.any λd=>Nat.beq d 1000000
 |none=>false
def lkT(E:Env)(τ:Ty):Option (List Step×Ty):=match E.lk with
 |some (υ,q,e,_)=>cond (decide (υ=τ)) (cond (gj q τ (.slice e)) (some (q,e)) none) none
 |none=>none
def Jb(E:Env)(τ:Ty)(id:Nat):Option (List Step×Ty):=match E.lk with
 |some (_,_,_,ds)=>cond (ds.any λd=>Nat.beq (id/16) d) (lkT E τ) none
 |none=>none
def cvA:Value→bA
 | .int k n=> .val (.int k) n
 | .bool b=> .val .bool b
 | .string s=> .val .str s
 | .slice none 0 0=> .emp
 |_=> .any
def St.ρ (σ:St):Operand→bA
 | .tmp t=>σ.T t
 | .const v=>cvA v
 | .global _=> .any
 | .func f=> .NM f []
section
variable{α:Type}
def vv(op:BinOp)(k:IntKind)(x y:Int)(K:bA→Option α):Option α:=
 match op with
 | .add=>K (.val (.int k) (W k (x+y)))
 | .sub=>K (.val (.int k) (W k (x-y)))
 | .mul=>K (.val (.int k) (W k (x*y)))
 | .quo=>cond (aN y 0) none (K (.val (.int k) (W k (quo x y))))
 | .rem=>cond (aN y 0) none (K (.val (.int k) (rem x y)))
 | .and=>K (.val (.int k) (sd .and k x y))
 | .or=>K (.val (.int k) (sd .or k x y))
 | .xor=>K (.val (.int k) (sd .xor k x y))
 | .andNot=>K (.val (.int k) (sd .andNot k x y))
 | .eql=>K (.val .bool (aN x y))
 | .neq=>K (.val .bool (!aN x y))
 | .lss=>K (.val .bool (aX x y))
 | .leq=>K (.val .bool (du x y))
 | .gtr=>K (.val .bool (aX y x))
 | .geq=>K (.val .bool (du y x))
 |_=>none
def shK(op:BinOp)(k:IntKind)(x y:Int)(K:bA→Option α):Option α:=
 match op with
 | .shl=>cond (aX y 0) none (K (.val (.int k) (W k (shl k x y))))
 | .shr=>cond (aX y 0) none (K (.val (.int k) (shr k x y)))
 |_=>none
def abZ:BinOp→Bool
 | .shl| .shr=>true
 |_=>false
def Gm(t:Option Ty)(op:BinOp)(τ:Ty)(x:τ.den)(υ:Ty)(y:υ.den)(K:bA→Option α):Option α:=
 match τ,x,υ,y with
 | .int k,x,.int k',y=>cond (abZ op) (shK op k x y K) (if k=k' then vv op k x y K else none)
 |τ,x,υ,y=>match t with
  |none=>none
  |some u=>jr u τ (cond τ.comparable (match op with
   | .eql=>cL υ τ y λy=>K (.val .bool (pC τ x y))
   | .neq=>cL υ τ y λy=>K (.val .bool (!pC τ x y))
   |_=>none) none)
def Vo(op:UnOp)(a:bA)(K:bA→Option α):Option α:=
 match op,a with
 | .neg,.val (.int k) n=>K (.val (.int k) (W k (0-n)))
 | .xor,.val (.int k) n=>K (.val (.int k) (sd .xor k (if k.signed then-1 else k.max) n))
 | .not,.val .bool b=>K (.val .bool (!b))
 |_,_=>none
abbrev g7(α:Type):=bA→List Nat→jF→Option α
def mmK(up:Bool):bA→List bA→(bA→Option α)→Option α
 |a,[],K=>K a
 |a,b::r,K=>wQ a λk x=>wQ b λk' y=>if k=k' then mmK up (.val (.int k) (cond up (mx x y) (mn x y))) r K else none
def NP(τ:Ty)(a:bA)(H:Nat→Option br)(K:g7 α):Option α:=
 match τ,a with
 | .slice _,.val (.slice _) l=>K (.val (.int .i64) (ℓ l:Int)) [] []
 | .arr n _,.val (.arr _ _) _=>K (.val (.int .i64) (n:Int)) [] []
 | .str,.val .str s=>K (.val (.int .i64) (ByteArray.size s:Int)) [] []
 | .slice _,.emp=>K (.val (.int .i64) (0:Int)) [] []
 | .slice _,.ref id=>match H id with
  |some (.own _ l)|some (.pD _ l)=>K (.val (.int .i64) (l.length:Int)) [id] []
  |_=>none
 |_,_=>none
def sf(H:Nat→Option br)(id:Nat)(e:br)(K:Option α):Option α:=
 match H id with
 |none=>K
 |some _=>none
def NQ(id:Nat)(e:Ty)(a b:bA)(H:Nat→Option br)(K:g7 α):Option α:=
 m1 false b H (.slice e) λys rd _=>
  match a with
  | .emp=>cond (small (ℓ ys)) (K (.ref id) (id::rd) [(id,some (.own e ys))]) none
  | .ref j=>match H j with
   |some (.own e' l)=>cL (.slice e') (.slice e) l λxs=>
    cond (small (ℓ xs+ℓ ys)) (K (.ref id) (id::j::rd) [(j,some .gone),(id,some (.own e (xs++ys)))]) none
   |_=>none
  |_=>none
def me(τ:Ty)(H:Nat→Option br):List (Nat×bA)→τ.den→List Nat→jF→(τ.den→List Nat→jF→Option α)→Option α
 |[],x,rd,ups,K=>K x rd ups
 |p::r,x,rd,ups,K=>vu τ x p.1 fun υ _=>m1 true p.2 H υ λy yJ kN=>
  fT τ x p.1 (fun υ' _ k'=>cL υ υ' y k') λz=>me τ H r z (yJ++rd) (ups++kN) K
def xr(e:Ty)(H:Nat→Option br)(n:Nat):List (Nat×bA)→List e.den→List Nat→jF→(List e.den→List Nat→jF→Option α)→Option α
 |[],l,rd,ups,K=>K l rd ups
 |p::r,l,rd,ups,K=>cond (Nat.blt p.1 n) (m1 true p.2 H e λy yJ kN=>xr e H n r (List.set l p.1 y) (yJ++rd) (ups++kN) K) none
def DG(v:bA)(H:Nat→Option br):(a:Ty)→(a.den→List Nat→jF→Option α)→Option α
 | .pair a .unit,k=>match v with
  | .se υ x=>cL υ a x λy=>k (y,()) [] []
  |_=>none
 |a,k=>m1 true v H a k
def DH:(a:Ty)→a.den→bA
 | .pair a .unit,x=> .se a x.1
 |a,x=> .val a x
def si(H:Nat→Option br):(τ:Ty)→List bA→(τ.den→List Nat→jF→Option α)→Option α
 | .unit,[],K=>K () [] []
 | .pair a b,v::vs,K=>DG v H a λx rd ups=>si H b vs λxs yJ kN=>K (x,xs) (yJ++rd) (ups++kN)
 |_,_,_=>none
def qO:(τ:Ty)→τ.den→List bA
 | .pair a b,x=>DH a x.1::qO b x.2
 |_,_=>[]
def cn(H:Nat→Option br)(d:Nat)(v:Option br):Nat→Option br:=λi=>cond (Nat.beq i d) v (H i)
def xt(H:Nat→Option br):List bA→(List bA→List Nat→jF→Option α)→Option α
 |[],K=>K [] [] []
 |a::r,K=>match a with
  | .jE id []=>match H id with
   |some (.obj τ x)=>xt (cn H id (some .gone)) r λcs rd ups=>K (.se τ x::cs) (id::rd) ((id,some .gone)::ups)
   |_=>none
  |a=>xt H r λcs rd ups=>K (a::cs) rd ups
def oV(m:AM)(a:bA)(H:Nat→Option br)(k:m.den→(Nat→Option br)→List Nat→jF→jF→List (Nat×AM)→Option α):Option α:=
 match m,k with
 | .v τ,k=>m1 true a H τ λx rd uf=>match uf with
  |[]=>k x H rd [] [] []
  |u::r=>k x (cn H u.1 u.2) rd [] (u::r) []
 | .own e,k=>match a with
  | .emp=>k [] H [] [] [] []
  | .ref id=>match H id with
   |some (.own e' l)=>cL (.slice e') (.slice e) l λx=>k x (cn H id (some .gone)) [id] [(id,some .gone)] [] []
   |_=>none
  |_=>none
 | .io τ,k=>match a with
  | .jE id []=>match H id with
   |some (.obj υ x)=>cL υ τ x λy=>k y (cn H id (some .gone)) [id] [] [] [(id,.io τ)]
   |_=>none
  |_=>none
 | .fn f τ,k=>match a with
  | .NM f' c=>cond (Nat.beq f f') (si H τ c λx rd uf=>match uf with
   |[]=>k x H rd [] [] []
   |_=>none) none
  |_=>none
 | .ptr _,_=>none
 | .jE τ,k=>match a with
  | .se υ x=>cL υ τ x λy=>k y H [] [] [] []
  |_=>none
 | .lo e,k=>match a with
  | .ref id=>match H id with
   |some (.own e' l)=>cL (.slice e') (.slice e) l λx=>k x (cn H id (some .gone)) [id] [] [] [(id,.lo e)]
   |_=>none
  |_=>none
 | .sp _ _ _,_=>none
def uK:(ms:List AM)→List bA→(Nat→Option br)→List Nat→jF→jF→List (Nat×AM)→(HP ms→List Nat→jF→jF→List (Nat×AM)→Option α)→Option α
 |[],[],_,rd,uo,uf,io,K=>K () rd uo uf io
 |[m],[a],H,rd,uo,uf,io,K=>oV m a H λx _ yJ Nd Nf IY=>K x (yJ++rd) (Nd++uo) (Nf++uf) (io++IY)
 |m::n::ms,a::qV,H,rd,uo,uf,io,K=>oV m a H λx H' yJ Nd Nf IY=>
  uK (n::ms) qV H' (yJ++rd) (Nd++uo) (Nf++uf) (io++IY) λxs rd uo uf io=>K (x,xs) rd uo uf io
 |_,_,_,_,_,_,_,_=>none
def xu(m:AM)(x:m.den)(id:Nat):bA×jF:=
 match m,x with
 | .v τ,x=>(.val τ x,[])
 | .own e,x=>(.ref id,[(id,some (.own e x))])
 | .io τ,x=>(.val τ x,[])
 | .fn _ _,_=>(.any,[])
 | .ptr τ,x=>(.jE id [],[(id,some (.obj τ x))])
 | .jE _,_=>(.any,[])
 | .lo _,_=>(.any,[])
 | .sp τ n e,x=>match vu τ x n (fun υ y=>cL υ (.slice e) y some),fT τ x n (fun υ' _ k'=>cL (.slice e) υ' [] k') some with
  |some l,some z=>(.Ja τ z n id,[(id,some (.own e l))])
  |_,_=>(.any,[])
def ir:(ms:List AM)→HP ms→Nat→List (Nat×AM)→List bA×jF×List (Nat×AM)
 |[],_,_,io=>([],[],io)
 |[m],x,id,io=>match m,x,io with
  | .io τ,x,(j,_)::io=>([],[(j,some (.obj τ x))],io)
  | .lo e,x,(j,_)::io=>([],[(j,some (.own e x))],io)
  |m,x,io=>([(xu m x id).1],(xu m x id).2,io)
 |m::n::ms,x,id,io=>match m,x,io with
  | .io τ,x,(j,_)::io=>let r:=ir (n::ms) x.2 (id+1) io;(r.1,(j,some (.obj τ x.1))::r.2.1,r.2.2)
  | .lo e,x,(j,_)::io=>let r:=ir (n::ms) x.2 (id+1) io;(r.1,(j,some (.own e x.1))::r.2.1,r.2.2)
  |m,x,io=>let r:=ir (n::ms) x.2 (id+1) io;((xu m x.1 id).1::r.1,(xu m x.1 id).2++r.2.1,r.2.2)
def NR:List bA→bA
 |[]=> .any
 |[a]=>a
 |l=> .tup l
def vx(H:Nat→Option br)(id:Nat):Nat→Bool
 |0=>true
 |n+1=>(match H (id+n)with|none=>true|some _=>false)&&vx H id n
def NS(id:Nat):Nat→List Nat
 |0=>[]
 |n+1=>(id+n)::NS id n
def fits:List AM→List bA→Bool
 |[],[]=>true
 | .fn f _::ms,.NM g _::qV=>Nat.beq f g&&fits ms qV
 | .fn _ _::_,_::_=>false
 |_::ms,_::qV=>fits ms qV
 |_,_=>false
def NT:List m2→List bA→Option m2
 |[],_=>none
 |S::r,qV=>cond (fits S.args qV) (some S) (NT r qV)
def DI(E:Env)(f:Nat)(qV:List bA)(id:Nat)(H:Nat→Option br)(K:g7 α):Option α:=
 match NT (E.Γ f) qV with
 |none=>none
 |some S=>uK S.args qV H [] [] [] [] λx rd uo uf io=>
  (S.run x).bind λy=>
   let r:=ir S.res y id io
   cond (vx H id S.res.length) (K (NR r.1) (NS id S.res.length++(r.2.1.map (·.1)++rd)) (uo++cond S.quiet [] uf++r.2.1)) none
def zm(a:Option bA)(d:Int)(k:Int→Option α):Option α:=
 match a with
 |none=>k d
 |some a=>wQ a λ_ x=>k x
def kA:Option Operand→Bool
 |some (.const (.int _ n))=>decide (n=0)
 |_=>false
def sj(t:Ty)(z:Bool)(a:bA)(lo hi mx:Option bA)(H:Nat→Option br)(K:g7 α):Option α:=
 match t,a with
 | .str,.val .str s=>cond mx.isNone (zm lo 0 λl=>zm hi (ByteArray.size s:Int) λh=>
  cond (jq l h (ByteArray.size s:Int) (ByteArray.size s:Int)) (K (.val .str (ByteArray.extract s l.toNat h.toNat)) [] []) none) none
 | .slice _,.emp=>cond z (K .emp [] []) (cond mx.isNone (zm lo 0 λl=>zm hi 0 λh=>cond (jq l h 0 0) (K .emp [] []) none) none)
 | .slice e,a=>m1 (!z) a H (.slice e) λx rd ups=>cond z (K .emp rd [])
  (cond (mx.isNone||hi.isSome) (zm lo 0 λl=>zm hi (ℓ x:Int) λh=>zm mx (ℓ x:Int) λm=>
   cond (jq l h m (ℓ x:Int))
    (K (.val (.slice e) (List.drop l.toNat (List.take h.toNat x))) rd ups) none) none)
 |_,_=>none
def xv(E:Env)(t:Ty)(z:Bool)(a:bA)(lo hi mx:Option bA)(H:Nat→Option br)(K:g7 α):Option α:=
 match E.vw,t,a,lo,hi,mx with
 |true,.slice e,.ref id,some lo,none,none=>wQ lo λ_ i=>match H id with
  |some (.own e' l)=>jr e' e (cond (jq i (ℓ l:Int) (ℓ l:Int) (ℓ l:Int)) (K (.sub id e i.toNat) [id] []) none)
  |_=>none
 |_,t,a,lo,hi,mx=>sj t z a lo hi mx H K
def zP(e:Ty)(a:bA)(H:Nat→Option br)(K:g7 α):Option α:=
 match a with
 | .sub id e' lo=>jr e' e (match H id with
  |some (.own e2 l)=>cL (.slice e2) (.slice e) l λl=>K .any [id] [(id,some (.own e (List.take lo l++List.replicate (ℓ l-lo) e.zero)))]
  |_=>none)
 |_=>none
def hZ(τ:Ty)(a i:bA)(H:Nat→Option br)(K:g7 α):Option α:=
 wQ i λ_ i=>
 match τ with
 | .slice e=>match a with
  | .val υ l=>cL υ (.slice e) l λl=>cond (bc i (ℓ l)) (K (.se e (γ l i.toNat e.zero)) [] []) none
  | .ref id=>match H id with
   |some (.own e' l)|some (.pD e' l)=>jr e' e (cond (bc i (ℓ l)) (K (.jE id [.idx i.toNat]) [id] []) none)
   |_=>none
  |_=>none
 | .arr n e=>match a with
  | .jE id p=>mc id p H fun υ=>jr υ (.arr n e) (cond (bc i n) (K (.jE id (p++[.idx i.toNat])) [id] []) none)
  | .se υ l=>cL υ (.arr n e) l λl=>cond (bc i n) (K (.se e (γ l i.toNat e.zero)) [] []) none
  |_=>none
 |_=>none
def xw(τ:Ty)(a i:bA)(K:bA→Option α):Option α:=
 wQ i λ_ i=>
 match τ,a with
 | .arr n e,.val υ l=>cL υ (.arr n e) l λl=>cond (bc i n) (K (.val e (γ l i.toNat e.zero))) none
 | .str,.val .str s=>cond (bc i (ByteArray.size s)) (K (.val (.int .u8) ((s.data.getD i.toNat 0).toNat:Int))) none
 |_,_=>none
def lW(a:bA)(H:Nat→Option br)(K:(υ:Ty)→υ.den→List Nat→Option α):Option α:=
 match a with
 | .se τ x=>K τ x []
 | .jE id p=>match H id with
  |some (.obj τ x)=>A4 p τ x fun υ y=>K υ y [id]
  |some (.own e l)|some (.pD e l)=>match p with
   | .idx i::p=>A4 p e (γ l i e.zero) fun υ y=>K υ y [id]
   |_=>none
  |_=>none
 |_=>none
def m3(τ:Ty)(a v:bA)(H:Nat→Option br)(K:g7 α):Option α:=
 match a with
 | .jE id p=>m1 true v H τ λy rd ups=>
  match H id with
  |some (.obj υ x)=>wP τ y p υ x λz=>K .any (id::rd) (ups++[(id,some (.obj υ z))])
  |some (.own e l)=>match p with
   | .idx i::p=>cond (rd.contains id) none (wP τ y p e (γ l i e.zero) λz=>K .any (id::rd) (ups++[(id,some (.own e (List.set l i z)))]))
   |_=>none
  |_=>none
 |_=>none
def EJ(j:Nat)(q:List Step)(τ:Ty)(x:τ.den)(H:Nat→Option br)(k:τ.den→jF→Option α):Option α:=
 match H j with
 |some (.own e l)=>wP (.slice e) l q τ x λz=>k z [(j,some (.pD e l))]
 |some (.pD e l)=>wP (.slice e) l q τ x λz=>k z []
 |_=>none
def uM(τ:Ty)(a:bA)(H:Nat→Option br)(K:g7 α):Option α:=
 let oN:=lW a H fun υ y rd=>cL υ τ y λz=>K (.val τ z) rd []
 match a with
 | .jE id p=>match H id with
  |some (.gk υ x q j)=>cond (Nc p q) (cond (gj q υ τ) (K (.ref j) [id] []) none)
   (cond (zj p q) (EJ j q υ x H λz ups=>A4 p υ z fun υ' y=>cL υ' τ y λy'=>K (.val τ y') [id,j] ups)
    (A4 p υ x fun υ' y=>cL υ' τ y λy'=>K (.val τ y') [id] []))
  |_=>oN
 |_=>oN
def DJ(τ:Ty)(id k:Nat)(e:Ty)(q:List Step)(υ:Ty)(x:υ.den)(H:Nat→Option br)(K:g7 α):Option α:=
 match H k with
 |some (.own e' _)=>jr e' e (jr τ (.slice e) (wP (.slice e) [] q υ x λz=>K .any [id,k] [(id,some (.gk υ z q k))]))
 |_=>none
def kU(E:Env)(τ:Ty)(a v:bA)(H:Nat→Option br)(K:g7 α):Option α:=
 let oN:=m3 τ a v H K
 match a with
 | .jE id p=>match H id with
  |some (.obj υ x)=>match Jb E υ id,v with
   |some (q,e),.ref k=>cond (Nc p q) (DJ τ id k e q υ x H K) oN
   |_,_=>oN
  |some (.gk υ x q j)=>
   let put:=m1 true v H τ λy rd ups=>wP τ y p υ x λz=>K .any (id::rd) (ups++[(id,some (cond (zj p q) (.obj υ z) (.gk υ z q j)))])
   match Jb E υ id,v with
   |some (q',e),.ref k=>cond (Nc p q&&Nc q q') (DJ τ id k e q υ x H K) put
   |_,_=>put
  |_=>oN
 |_=>oN
def ue(E:Env)(τ:Ty)(a v:bA)(H:Nat→Option br)(K:g7 α):Option α:=
 match a,v with
 | .jE id [],.Ln υ y n=>match Jb E υ id with
  |some ([.iD m],e)=>cond (Nat.beq m n) (jr τ υ (mc id [] H fun υ'=>jr υ' υ
   (sf H (id+2) (.own e []) (K .any [id,id+2] [(id,some (.gk υ y [.iD m] (id+2))),(id+2,some (.own e []))])))) (kU E τ a v H K)
  |_=>kU E τ a v H K
 |_,_=>kU E τ a v H K
def EK(H:Nat→Option br)(id:Nat)(τ:Ty)(x:τ.den)(q:List Step)(e:Ty)(K:g7 α):Option α:=
 sf H id (.obj τ x) (sf H (id+1) (.own e []) (K (.jE id []) [id,id+1] [(id,some (.gk τ x q (id+1))),(id+1,some (.own e []))]))
def ab0(E:Env)(ps:List (Nat×bA))(τ:Ty)(x:τ.den):bA:=match lkT E τ with
 |some ([.iD n],_)=>cond (ps.all λp=> !(Nat.beq p.1 n)) (.Ln τ x n) (.val τ x)
 |_=> .val τ x
def A5(E:Env)(τ:Ty)(a:bA)(H:Nat→Option br)(K:g7 α):Option α:=
 match E.sp,a with
 |true,.jE id []=>match H id with
  |some (.gk υ x [.iD n] j)=>cL υ τ x λx=>K (.Ja τ x n j) [id] []
  |_=>uM τ a H λv rd ups=>K v (id::rd) ups
 |_,_=>uM τ a H K
def xx(E:Env)(τ:Ty)(a v:bA)(H:Nat→Option br)(K:g7 α):Option α:=
 match a,v with
 | .jE id [],.Ja υ y n j=>match Jb E υ id with
  |some ([.iD m],e)=>cond (Nat.beq m n) (jr τ υ (mc id [] H fun υ'=>jr υ' υ (match H j with
   |some (.own e' _)=>jr e' e (K .any [id,j] [(id,some (.gk υ y [.iD m] j))])
   |_=>none))) none
  |_=>none
 |_,_=>ue E τ a v H K
def Lo(E:Env)(ps:List (Nat×bA))(τ:Ty):Option (Nat×Nat):=match E.sp,lkT E τ with
 |true,some ([.iD n],_)=>match ps.filter λp=>Nat.beq p.1 n with
  |[(_,.ref k)]=>some (n,k)
  |_=>none
 |_,_=>none
def xy(n:Nat)(ps:List (Nat×bA)):List (Nat×bA):=ps.map λp=>cond (Nat.beq p.1 n) (p.1,.emp) p
def partsOf(σρ:Operand→bA)(ps:Array (Nat×Operand)):List (Nat×bA):=ps.toList.map λp=>(p.1,σρ p.2)
def tC(E:Env)(o:Oper)(ρ:Operand→bA)(H:Nat→Option br)(K:g7 α):Option α:=
 let id:=16*o.dst.getD 0
 match o.op with
 | .move x| .assign x=>K (ρ x) [] []
 | .pick c a b=>match ρ c with
  | .val .bool t=>cond t (K (ρ a) [] []) (K (ρ b) [] [])
  |_=>none
 | .alloc t=>match E.ty t with
  |some τ=>match Jb E τ id with
   |some (q,e)=>EK H id τ τ.zero q e K
   |none=>sf H id (.obj τ τ.zero) (K (.jE id []) [id] [(id,some (.obj τ τ.zero))])
  |none=>none
 | .box t x=>match E.ty t with
  |some τ=>
   let oN:=m1 true (ρ x) H τ λy rd ups=>sf H id (.obj τ y) (K (.jE id []) (id::rd) (ups++[(id,some (.obj τ y))]))
   match Jb E τ id,ρ x with
   |some ([.iD m],e),.Ln υ y n=>cond (Nat.beq m n) (cL υ τ y λy=>EK H id τ y [.iD m] e K) oN
   |_,_=>oN
  |none=>none
 | .build t ps=>match E.ty t with
  |some (.arr n e)=>xr e H n (partsOf ρ ps) (List.replicate n e.zero) [] [] λl rd ups=>K (.val (.arr n e) l) rd ups
  |some τ=>match Lo E (partsOf ρ ps) τ with
   |some (n,k)=>match H k with
    |some (.own _ _)=>cond τ.isAgg (me τ H (xy n (partsOf ρ ps)) τ.zero [] [] λx rd ups=>K (.Ja τ x n k) (k::rd) ups) none
    |_=>none
   |none=>cond τ.isAgg (me τ H (partsOf ρ ps) τ.zero [] [] λx rd ups=>K (ab0 E (partsOf ρ ps) τ x) rd ups) none
  |none=>none
 | .buildSlice t n ps=>match E.ty t with
  |some (.slice e)=>cond (Nat.ble (n*(e.size+1)) 16777216) (sf H id (.own e []) (xr e H n (partsOf ρ ps) (List.replicate n e.zero) [] [] λl rd ups=>K (.ref id) (id::rd) (ups++[(id,some (.own e l))]))) none
  |_=>none
 | .load t a=>match E.ty t with
  |some τ=>A5 E τ (ρ a) H K
  |none=>none
 | .store t a v=>match E.ty t with
  |some τ=>xx E τ (ρ a) (ρ v) H K
  |none=>none
 | .nilCheck x=>match ρ x with
  | .jE id p=>K (.jE id p) [] []
  | .se τ x=>K (.se τ x) [] []
  |_=>none
 | .binOp op t x y _=>NO (ρ x) fun τ x=>NO (ρ y) fun υ y=>Gm (E.ty t) op τ x υ y λv=>K v [] []
 | .unOp op _ x=>Vo op (ρ x) λv=>K v [] []
 | .convert src dst x=>match E.ty src,E.ty dst with
  |some _,some (.int k)=>wQ (ρ x) λ_ n=>K (.val (.int k) (W k n)) [] []
  |_,_=>none
 | .makeFunc (.func f) first caps=>cond first.isEmpty (xt H (caps.toList.map ρ) λcs rd ups=>K (.NM f cs) rd ups) none
 | .makeSlice t l c=>match E.ty t with
  |some (.slice e)=>wQ (ρ l) λ_ l=>wQ (ρ c) λ_ c=>cond (kT l c)
    (sf H id (.own e []) (K (.ref id) [id] [(id,some (.own e (List.replicate l.toNat e.zero)))])) none
  |_=>none
 | .slice t x lo hi mx=>match E.ty t with
  |some τ=>xv E τ (lo.isNone&&kA hi&&kA mx) (ρ x) (lo.map ρ) (hi.map ρ) (mx.map ρ) H K
  |none=>none
 | .fieldAddr t x n=>match E.ty t with
  |some τ=>match ρ x with
   | .jE id p=>mc id p H fun υ=>jr υ τ (vu τ τ.zero n fun υ' _=>cond (Nat.beq υ'.size 0) none (K (.jE id (p++[.iD n])) [id] []))
   | .se υ x=>jr υ τ (vu υ x n fun υ y=>cond (Nat.beq υ.size 0) none (K (.se υ y) [] []))
   |_=>none
  |none=>none
 | .field t x n=>match E.ty t with
  |some τ=>match ρ x with
   | .val υ x=>jr υ τ (vu υ x n fun υ y=>K (.val υ y) [] [])
   |_=>none
  |none=>none
 | .indexAddr t x i=>match E.ty t with
  |some τ=>hZ τ (ρ x) (ρ i) H K
  |none=>none
 | .index t x i=>match E.ty t with
  |some τ=>xw τ (ρ x) (ρ i) λv=>K v [] []
  |none=>none
 | .extract t i=>match ρ t with
  | .tup vs=>match vs[i]? with
   |some v=>K v [] []
   |none=>none
  |_=>none
 | .call c=>match c.callee with
  | .builtin .len=>match c.args.toList,(c.argTypes.toList.head?).bind E.ty with
   |[x],some τ=>NP τ (ρ x) H K
   |_,_=>none
  | .builtin .append=>match c.args.toList,c.argTypes.toList with
   |[x,y],[t,t']=>match E.ty t with
    |some (.slice e)=>cond (Nat.beq t t') (sf H id (.own e []) (NQ id e (ρ x) (ρ y) H K)) none
    |_=>none
   |_,_=>none
  | .builtin .clear=>match c.args.toList,c.argTypes.toList with
   |[x],[t]=>match E.ty t with
    |some (.slice e)=>zP e (ρ x) H K
    |_=>none
   |_,_=>none
  | .builtin .max=>match c.args.toList with
   |x::r=>mmK true (ρ x) (r.map ρ) λv=>K v [] []
   |_=>none
  | .builtin .min=>match c.args.toList with
   |x::r=>mmK false (ρ x) (r.map ρ) λv=>K v [] []
   |_=>none
  | .value g=>match ρ g with
   | .NM f caps=>DI E f (c.args.toList.map ρ++caps) id H K
   |_=>none
  |_=>none
 |_=>none
def uN(E:Env)(ops:List Oper)(o:Oper)(σ:St)(K:St→List Nat→List Nat→Option α):Option α:=
 let run (σ:St):Option α:=tC E o σ.ρ σ.H λv rd ups=>K ((σ.xp ups).wO o.dst v) rd (ups.map (·.1))
 cond (NN E.nt E.io o.dst) (match o.guard with
 |none=>run σ
 |some (j,want)=>match(ops[j]?).bind (·.dst)with
  |none=>none
  |some t=>match σ.T t with
   | .val .bool b=>match want with
    |true=>cond b (run (σ.put t (.val .bool true))) (K ((σ.put t (.val .bool false)).wO o.dst .X4) [] [])
    |false=>cond b (K ((σ.put t (.val .bool true)).wO o.dst .X4) [] []) (run (σ.put t (.val .bool false)))
   | .X4=>K (σ.wO o.dst .X4) [] []
   |_=>none) none
abbrev Log:=List (Nat×List Nat×List Nat)
def Vp(E:Env)(ops:List Oper):List Oper→Nat→St→Log→(St→Log→Option α)→Option α
 |[],_,σ,lg,K=>K σ lg
 |o::r,i,σ,lg,K=>uN E ops o σ fun σ' rd wr=>Vp E ops r (i+1) σ' ((i,rd,wr)::lg) K
def ug:List Oper→List Nat→List Nat
 |[],acc=>acc
 |o::r,acc=>ug r (acc++[o.after.toList.foldl (λs e=>cond (Region.binds .any e) (s|||2^e.on|||acc.getD e.on 0) s) 0])
def names(ops:List Oper)(o:Oper):List Nat:=
 (o.op.operands.toList.filterMap fun| .tmp t=>some t|_=>none)++
 (match o.guard with
  |some (g,_)=>((ops[g]?).bind (·.dst)).toList
  |none=>[])
def meets(a b:List Nat):Bool:=a.any λx=>b.any λy=>Nat.beq x y
def X5(ops:List Oper):Bool:=
 let b:=ug ops []
 (ops.zipIdx.all λ(o,j)=>o.after.toList.all λe=> !(Region.binds .any e)||Nat.blt e.on j)&&
 ops.zipIdx.all λ(o,j)=>ops.zipIdx.all λ(p,i)=>Nat.ble j i||(b.getD j 0).testBit i||
  !(meets p.dst.toList (o.dst.toList++names ops o)||meets o.dst.toList (names ops p))
def aiN(ops:List Oper)(lg:Log):Bool:=
 let b:=ug ops []
 lg.all λx=>lg.all λy=>Nat.ble x.1 y.1||(b.getD x.1 0).testBit y.1||
  !(meets y.2.2 (x.2.1++x.2.2)||meets y.2.1 x.2.2)
def Fm(E:Env)(ops:Array Oper)(draw:Bool)(σ:St)(K:St→Option α):Option α:=
 Vp E ops.toList ops.toList 0 σ [] fun σ' lg=>cond (!draw||(X5 ops.toList&&aiN ops.toList lg)) (K σ') none
def iP:List (Nat×CM)→St→St→(St→Option α)→Option α
 |[],_,acc,K=>K acc
 |(s,.v τ)::r,σ,acc,K=>m1 true (σ.T s) σ.H τ λx _ ups=>iP r (σ.xp ups) (acc.put s (.val τ x)) K
 |(s,.own e)::r,σ,acc,K=>match σ.T s with
  | .emp=>iP r σ ((acc.put s (.ref (16*s+14))).kp (16*s+14) (some (.own e []))) K
  | .ref id=>match σ.H id with
   |some (.own e' l)=>cL (.slice e') (.slice e) l λx=>iP r (σ.kp id (some .gone)) ((acc.put s (.ref (16*s+14))).kp (16*s+14) (some (.own e x))) K
   |_=>none
  |_=>none
 |(s,.obj τ)::r,σ,acc,K=>match σ.T s with
  | .jE id []=>match σ.H id with
   |some (.obj υ x)=>cL υ τ x λy=>iP r (σ.kp id (some .gone)) ((acc.put s (.jE (16*s+14) [])).kp (16*s+14) (some (.obj τ y))) K
   |some (.gk υ x q j)=>EJ j q υ x σ.H λz ups=>cL υ τ z λy=>iP r ((σ.xp ups).kp id (some .gone)) ((acc.put s (.jE (16*s+14) [])).kp (16*s+14) (some (.obj τ y))) K
   |_=>none
  |_=>none
 |(s,.gk τ q e)::r,σ,acc,K=>match σ.T s with
  | .jE id []=>match σ.H id with
   |some (.gk υ x q' j)=>cond (Nc q q') (match σ.H j with
    |some (.own e' l)=>cL υ τ x λy=>cL (.slice e') (.slice e) l λl=>iP r ((σ.kp j (some .gone)).kp id (some .gone))
     (((acc.put s (.jE (16*s+14) [])).kp (16*s+13) (some (.own e l))).kp (16*s+14) (some (.gk τ y q (16*s+13)))) K
    |_=>none) none
   |_=>none
  |_=>none
 |(s,.same s')::r,σ,acc,K=>match σ.T s,σ.T s',acc.T s' with
  | .ref i,.ref j,.ref j'=>cond (Nat.beq i j) (iP r σ (acc.put s (.ref j')) K) none
  |_,_,_=>none
 |(s,.io τ)::r,σ,acc,K=>match σ.T s with
  | .jE id []=>cond (Nat.beq id (16*s+15)) (match σ.H id with
   |some (.obj υ x)=>cL υ τ x λy=>iP r (σ.kp id (some .gone)) ((acc.put s (.jE (16*s+15) [])).kp (16*s+15) (some (.obj τ y))) K
   |_=>none) none
  |_=>none
 |(s,.fn f τ)::r,σ,acc,K=>match σ.T s with
  | .NM f' c=>cond (Nat.beq f f') (si σ.H τ c λx _ ups=>match ups with
   |[]=>iP r σ (acc.put s (.NM f (qO τ x))) K
   |_=>none) none
  |_=>none
def kV:List (Nat×CM)→Bool
 |[]=>true
 |q::r=>r.all (λp=> !(Nat.beq p.1 q.1))&&kV r
def xz(L:Option (List (Nat×CM)))(σ:St)(K:St→Option α):Option α:=
 match L with
 |none=>K σ
 |some L=>iP L σ ⟨λ_=> .any,λ_=>none⟩ K
def DK(L:Option (List (Nat×CM)))(step:St→(St→Option α)→Option α):Nat→St→Option α
 |0,_=>none
 |n+1,σ=>step σ fun σ'=>xz L σ' (DK L step n)
def c8:Code→Option Nat
 | .region id _ _=>some id
 | .seq a b=>match c8 a with
  |some i=>some i
  |none=>c8 b
 | .block _ c| .loop c| .scope c=>c8 c
 |_=>none
def JU(E:Env)(c:Operand)(σ:St)(A B:St→Option α):Option α:=
 match σ.ρ c with
 | .val .bool b=>match c with
  | .tmp t=>cond b (A (σ.put t (.val .bool true))) (B (σ.put t (.val .bool false)))
  |_=>cond b (A σ) (B σ)
 |_=>none
def Fo(E:Env)(c:Code):St→(St→Option α)→(Nat→St→Option α)→(St→Option α)→Option α:=
 Code.rec (motive:=λ_=>St→(St→Option α)→(Nat→St→Option α)→(St→Option α)→Option α)
  (fun σ k _ _=>k σ)
  (λ_ ops draw σ k _ _=>Fm E ops draw σ k)
  (λ_ b A B σ k kx kr=>A σ (fun σ'=>xz ((c8 b).bind E.zk) σ' fun σ''=>B σ'' k kx kr) kx kr)
  (λc _ _ A B σ k kx kr=>JU E c σ (fun σ'=>A σ' k kx kr) (fun σ'=>B σ' k kx kr))
  (λid _ A σ k kx kr=>A σ k (λi σ'=>cond (Nat.beq i id) (k σ') (kx i σ')) kr)
  (λb A σ _ kx kr=>xz ((c8 b).bind E.xq) σ (DK ((c8 b).bind E.xq) (fun σ' kn=>A σ' kn kx kr) E.N))
  (λ_ _ _ _ _ _ _ _ _ _=>none)
  (λid σ _ kx _=>kx id σ)
  (λ_ A σ k kx kr=>A σ k kx kr)
  (λ_ σ k _ _=>k σ)
  (λ_ _ _ _ _=>none)
  (fun σ _ _ kr=>kr σ)
  (λ_ _ _ _ _=>none)
  c
def wR(E:Env):List Nat→Code→List (St→Option α)→St→(St→Option α)→(Nat→St→Option α)→(St→Option α)→Option α
 |[],c,_,σ,k,kx,kr=>Fo E c σ k kx kr
 |n::p,c,ks,σ,k,kx,kr=>match c with
  | .seq a b=>match n with
   |0=>wR E p a ks σ (fun σ'=>xz ((c8 b).bind E.zk) σ' fun σ''=>Fo E b σ'' k kx kr) kx kr
   |_=>wR E p b ks σ k kx kr
  | .cond _ a b=>match n with
   |0=>wR E p a ks σ k kx kr
   |_=>wR E p b ks σ k kx kr
  | .block id c=>wR E p c ks σ k (λi σ'=>cond (Nat.beq i id) (k σ') (kx i σ')) kr
  | .loop b=>match ks with
   |κ::ks=>wR E p b ks σ κ kx kr
   |[]=>none
  | .scope c=>wR E p c ks σ k kx kr
  |_=>none
def R6(m:AM)(x:m.den)(i:Nat)(σ:St):St:=
 match m,x with
 | .v τ,x=>σ.put i (.val τ x)
 | .own e,x=>(σ.put i (.ref (16*i+15))).kp (16*i+15) (some (.own e x))
 | .io τ,x=>(σ.put i (.jE (16*i+15) [])).kp (16*i+15) (some (.obj τ x))
 | .fn f τ,x=>σ.put i (.NM f (qO τ x))
 | .ptr _,_=>σ
 | .jE τ,x=>σ.put i (.se τ x)
 | .lo e,x=>(σ.put i (.ref (16*i+15))).kp (16*i+15) (some (.own e x))
 | .sp _ _ _,_=>σ
def entry:(ms:List AM)→HP ms→Nat→St→St
 |[],_,_,σ=>σ
 |[m],x,i,σ=>R6 m x i σ
 |m::n::ms,x,i,σ=>entry (n::ms) x.2 (i+1) (R6 m x.1 i σ)
def JV(E:Env)(m:AM)(r:ResultVar ⊕ Nat)(σ:St)(K:m.den→St→Option α):Option α:=
 match m,r,K with
 | .v τ,.inl (.tmp t),K=>m1 true (σ.T t) σ.H τ λx _ ups=>K x (σ.xp ups)
 | .v τ,.inl (.cell a t),K=>match E.ty t with
  |some τ'=>jr τ' τ (lW (σ.T a) σ.H fun υ y _=>cL υ τ y λx=>K x σ)
  |none=>none
 | .own e,.inl (.tmp t),K=>match σ.T t with
  | .emp=>K [] σ
  | .ref id=>match σ.H id with
   |some (.own e' l)=>cL (.slice e') (.slice e) l λx=>K x (σ.kp id (some .gone))
   |_=>none
  |_=>none
 | .io τ,.inr i,K=>match σ.T i with
  | .jE id []=>match σ.H id with
   |some (.obj υ x)=>cL υ τ x λy=>K y (σ.kp id (some .gone))
   |_=>none
  |_=>none
 | .lo e,.inr i,K=>match σ.T i with
  | .ref id=>match σ.H id with
   |some (.own e' l)=>cL (.slice e') (.slice e) l λx=>K x (σ.kp id (some .gone))
   |_=>none
  |_=>none
 | .ptr τ,.inl (.tmp t),K=>match σ.T t with
  | .jE id []=>match σ.H id with
   |some (.obj υ x)=>cL υ τ x λy=>K y (σ.kp id (some .gone))
   |_=>none
  |_=>none
 | .sp τ n e,.inl (.cell a t),K=>match E.ty t,σ.T a with
  |some τ',.jE id []=>jr τ' τ (match σ.H id with
   |some (.gk υ x q j)=>cond (Nc q [.iD n]) (cL υ τ x λx=>match σ.H j with
    |some (.own e' l)=>cL (.slice e') (.slice e) l λl=>fT τ x n (fun υ' _ k'=>cL (.slice e) υ' l k') λz=>K z (σ.kp j (some .gone))
    |_=>none) none
   |_=>none)
  |_,_=>none
 |_,_,_=>none
def Lp(E:Env):(ms:List AM)→List (ResultVar ⊕ Nat)→St→(HP ms→Option α)→Option α
 |[],[],_,K=>K ()
 |[m],[r],σ,K=>JV E m r σ λx _=>K x
 |m::n::ms,r::rs,σ,K=>JV E m r σ λx σ'=>Lp E (n::ms) rs σ' λxs=>K (x,xs)
 |_,_,_,_=>none
def zn:List AM→Nat→List (ResultVar ⊕ Nat)
 |[],_=>[]
 | .io _::ms,i=> .inr i::zn ms (i+1)
 | .lo _::ms,i=> .inr i::zn ms (i+1)
 |_::ms,i=>zn ms (i+1)
def NU(E:Env)(fn:Func)(args res:List AM)(x:HP args):Option (HP res):=
 match fn.body with
 |none=>none
 |some c=>
  let kr:St→Option (HP res):=fun σ=>Lp E res (fn.results.toList.map .inl++zn args 0) σ some
  Fo E c (entry args x 0 ⟨λ_=> .any,λ_=>none⟩) kr (λ_ _=>none) kr
end
end VM
end
section
namespace VM
open Go
def uO(N:Nat)(x y c:Int):Option (Int×Int):=if 0≤x∧0≤y∧0≤c∧c≤1 then some ((x+y+c)%18446744073709551616,(x+y+c)/18446744073709551616)else none
def tD(N:Nat)(x y c:Int):Option (Int×Int):=if 0≤x∧x<18446744073709551616∧0≤y∧y<18446744073709551616∧0≤c∧c≤1 then some ((x+18446744073709551616-y-c)%18446744073709551616,if x<y+c then 1 else 0)else none
def qW{α:Type}(N:Nat)(l:List α)(i:Int)(v:List α):Option (List α):=if 0≤i∧i≤l.length∧v.length=1∧l.length+1<A2 then some (l.take i.toNat++(v++l.drop i.toNat))else none
def ab1{α:Type}(N:Nat)(l:List α)(n:Int):Option (List α):=match l with
 |[x]=>if 0<n∧n<1048576 then some (List.replicate n.toNat x)else none
 |_=>none
def uO.S(N:Nat):m2:={args:=[.v (.int .u64),.v (.int .u64),.v (.int .u64)],res:=[.v (.int .u64),.v (.int .u64)],quiet:=true,run:=λx=>uO N x.1 x.2.1 x.2.2}
def tD.S(N:Nat):m2:={args:=[.v (.int .u64),.v (.int .u64),.v (.int .u64)],res:=[.v (.int .u64),.v (.int .u64)],quiet:=true,run:=λx=>tD N x.1 x.2.1 x.2.2}
def mX(e:Ty)(N:Nat):m2:={args:=[.own e,.v (.int .i64),.own e],res:=[.own e],quiet:=false,run:=λx=>qW N x.1 x.2.1 x.2.2}
def auq(e:Ty)(N:Nat):m2:={args:=[.v (.slice e),.v (.int .i64)],res:=[.own e],quiet:=false,run:=λx=>ab1 N x.1 x.2}
def js{α:Type}(N:Nat)(l:List α):Option (List α):=if l.length<A2 then some l else none
def xA(e:Ty)(N:Nat):m2:={args:=[.v (.slice e)],res:=[.own e],quiet:=false,run:=λx=>js N x}
end VM
namespace VM
abbrev da:Int×Int×Unit:=((0:Int),((0:Int),()))
abbrev cf:List (Int×Int×Unit):=[]
abbrev ba:Int×Int×Int×Unit:=((0:Int),((0:Int),((0:Int),())))
abbrev bn:List (Int×Int×Int×Unit):=[]
abbrev bb:Int×Int×Int×Int×Unit:=((0:Int),((0:Int),((0:Int),((0:Int),()))))
abbrev cS:List (Int×Int×Int×Int×Unit):=[]
abbrev gl:Int×Int×Int×Int×Int×Unit:=((0:Int),((0:Int),((0:Int),((0:Int),((0:Int),())))))
abbrev EL:List (Int×Int×Int×Int×Int×Unit):=[]
abbrev eF:Int×Int×Int×Int×Int×Int×Unit:=((0:Int),((0:Int),((0:Int),((0:Int),((0:Int),((0:Int),()))))))
abbrev dm:List (Int×Int×Int×Int×Int×Int×Unit):=[]
abbrev Ng:Int×Int×Int×Int×Int×Int×Int×Unit:=((0:Int),((0:Int),((0:Int),((0:Int),((0:Int),((0:Int),((0:Int),())))))))
abbrev ee7:List (Int×Int×Int×Int×Int×Int×Int×Unit):=[]
abbrev zz8:Int×Int×Int×Int×Int×Int×Int×Int×Unit:=((0:Int),((0:Int),((0:Int),((0:Int),((0:Int),((0:Int),((0:Int),((0:Int),()))))))))
abbrev ee8:List (Int×Int×Int×Int×Int×Int×Int×Int×Unit):=[]
abbrev dd:List Int:=[]
abbrev qx:List Int×Unit:=(dd,())
end VM
end
section
namespace VM
open Go
def At(w:World)(b off:Nat)(cs:List Value):Prop:= ∀j v,cs[j]? =some v→w.cell? ⟨b,off+j,none⟩=some v
def Rd(w:World)(M:Nat→Prop):(τ:Ty)→List Value→τ.den→Prop
 | .int k,cs,x=>cs=[.int k x]
 | .bool,cs,x=>cs=[.bool x]
 | .str,cs,x=>cs=[.string x]
 | .slice e,cs,x=> ∃a cap,cs=[.slice a (ℓ x) cap]∧ℓ x≤cap∧
  ∀i (h:i<ℓ x),∃b off,a=some ⟨b,off,none⟩∧b<w.heap.size∧ ¬M b∧ ∃cs',At w b (off+i*e.size) cs'∧Rd w M e cs' (List.get x ⟨i,h⟩)
 | .unit,cs,_=>cs=[]
 | .pair a b,cs,x=> ∃c1 c2,cs=c1++c2∧Rd w M a c1 x.1∧Rd w M b c2 x.2
 | .arr n e,cs,x=>ℓ x=n∧ ∃Vq:List (List Value),Vq.length=n∧cs=Vq.flatten∧
  ∀i (h:i<ℓ x) (h':i<Vq.length),Rd w M e Vq[i] (List.get x ⟨i,h⟩)
theorem pU{α:Type}(n:Nat): ∀(l:List (List α)),(∀i (h:i<l.length),l[i].length=n)→l.flatten.length=l.length*n
 |[],_=>by simp
 |a::l,h=>by
  have h0:=h 0 (by simp)
  have ih:=pU n l (λi hi=>h (i+1) (by simp;omega))
  simp only[F0]at h0
  simp only[AN,aS,aT,ih,h0,eG]
  omega
theorem Rd.length{w:World}{M:Nat→Prop}: ∀{τ:Ty} {cs:List Value} {x:τ.den},Rd w M τ cs x→cs.length=τ.size
 | .int _,_,_,h=>by simp only[Rd]at h;subst h;rfl
 | .bool,_,_,h=>by simp only[Rd]at h;subst h;rfl
 | .str,_,_,h=>by simp only[Rd]at h;subst h;rfl
 | .slice _,_,_,h=>by simp only[Rd]at h;obtain⟨a,cap,rfl,_⟩:=h;rfl
 | .unit,_,_,h=>by simp only[Rd]at h;subst h;rfl
 | .pair a b,_,_,h=>by
  simp only[Rd]at h
  obtain⟨c1,c2,rfl,h1,h2⟩:=h
  rw[aS,h1.length,h2.length];rfl
 | .arr n e,_,x,h=>by
  simp only[Rd]at h
  obtain⟨hn,Vq,hc,rfl,hr⟩:=h
  rw[pU e.size Vq (λi hi=>(hr i ω hi).length),hc];rfl
structure fI(w:World)(M:Nat→Prop)(w':World)(M':Nat→Prop):Prop where
 size:w.heap.size≤w'.heap.size
 block: ∀b,b<w.heap.size→ ¬M b→w'.heap[b]? =w.heap[b]?
 less: ∀b,b<w.heap.size→M' b→M b
theorem ajZ{w:World}{b o:Nat}{v:Value}(h:w.cell? ⟨b,o,none⟩=some v):b<w.heap.size:=by
 simp only[World.cell?]at h
 rcases nW b w.heap.size with hb|hb
 ·exact hb
 ·simp[NC hb]at h
theorem At.cg{w w':World}{b off:Nat}{cs:List Value}(h:At w b off cs)(hb:w'.heap[b]? =w.heap[b]?):At w' b off cs:=by
 intro j v hj
 have:=h j v hj
 rw[World.cell?_of_block (w:=w) hb]
 exact this
theorem At.append{w:World}{b off:Nat}{c1 c2:List Value}:At w b off (c1++c2)↔At w b off c1∧At w b (off+c1.length) c2:=by
 constructor
 ·intro h
  refine⟨λj v hj=>h j v (by rw[tA];exact hj;exact(vp.1 hj).1),λj v hj=> ?_⟩
  have:=h (c1.length+j) v (by rw[pz ω];simpa using hj)
  rw[pS];exact this
 ·rintro⟨h1,h2⟩ j v hj
  by_cases eU:j<c1.length
  ·rw[tA eU]at hj;exact h1 j v hj
  ·rw[pz ω]at hj
   have:=h2 (j-c1.length) v hj
   rwa [show off+c1.length+(j-c1.length)=off+j from by omega]at this
theorem Rd.cg{w w':World}{M M':Nat→Prop}(k:fI w M w' M'): ∀{τ:Ty} {cs:List Value} {x:τ.den},Rd w M τ cs x→Rd w' M' τ cs x
 | .int _,_,_,h=>h
 | .bool,_,_,h=>h
 | .str,_,_,h=>h
 | .slice e,_,x,h=>by
  simp only[Rd]at h ⊢
  obtain⟨a,cap,rfl,hc,hr⟩:=h
  refine⟨a,cap,rfl,hc,λi hi=> ?_⟩
  obtain⟨b,off,ha,hb,hm,cs',pE,kB⟩:=hr i hi
  exact⟨b,off,ha,nQ hb k.size,λh'=>hm (k.less b hb h'),_,pE.cg (k.block b hb hm),kB.cg k⟩
 | .unit,_,_,h=>h
 | .pair a b,_,_,h=>by
  simp only[Rd]at h ⊢
  obtain⟨c1,c2,rfl,h1,h2⟩:=h
  exact⟨c1,c2,rfl,h1.cg k,h2.cg k⟩
 | .arr n e,_,x,h=>by
  simp only[Rd]at h ⊢
  obtain⟨hn,Vq,hc,rfl,hr⟩:=h
  exact⟨hn,Vq,hc,rfl,λi hi nZ=>(hr i hi nZ).cg k⟩
theorem fI.refl(w:World)(M:Nat→Prop):fI w M w M:=⟨aH _,λ_ _ _=>rfl,λ_ _ h=>h⟩
theorem fI.trans{w w' w'':World}{M M' Nh:Nat→Prop}(h:fI w M w' M')(k:fI w' M' w'' Nh):fI w M w'' Nh:=
 ⟨cv h.size k.size,λb hb hm=>(k.block b (nQ hb h.size) (λh'=>hm (h.less b hb h'))).trans (h.block b hb hm),
  λb hb hm=>h.less b hb (k.less b (nQ hb h.size) hm)⟩
def V(w:World)(M:Nat→Prop)(τ:Ty)(v:Value)(x:τ.den):Prop:=
 if τ.isAgg then ∃cs,v= .agg cs∧Rd w M τ cs.toList x else Rd w M τ [v] x
theorem V.cg{w w':World}{M M':Nat→Prop}(k:fI w M w' M'){τ:Ty}{v:Value}{x:τ.den}(h:V w M τ v x):V w' M' τ v x:=by
 unfold V at*
 split
 ·rename_i ha;rw[aj ha]at h;obtain⟨cs,rfl,h⟩:=h;exact⟨cs,rfl,h.cg k⟩
 ·rename_i ha;rw[ah ha]at h;exact h.cg k
theorem Rd.scalar{w:World}{M:Nat→Prop}{τ:Ty}{cs:List Value}{x:τ.den}(ha:τ.isAgg=false)(h:Rd w M τ cs x): ∃v,cs=[v]∧v.cells= #[v]:=by
 cases τ<;>simp only[Ty.isAgg,Bool.true_eq_false]at ha<;>simp only[Rd]at h
 ·exact⟨_,h,rfl⟩
 ·exact⟨_,h,rfl⟩
 ·exact⟨_,h,rfl⟩
 ·obtain⟨a,cap,rfl,_⟩:=h;exact⟨_,rfl,rfl⟩
theorem V.cells{w:World}{M:Nat→Prop}{τ:Ty}{v:Value}{x:τ.den}(h:V w M τ v x):Rd w M τ v.cells.toList x:=by
 unfold V at h
 by_cases ha:τ.isAgg=true
 ·rw[aj ha]at h;obtain⟨cs,rfl,h⟩:=h;exact h
 ·rw[ah ha]at h
  obtain⟨v',hv,hc⟩:=h.scalar (by simpa using ha)
  simp only[fQ,fB]at hv
  subst hv
  rw[hc];exact h
def ck(τ:Ty)(cs:List Value):Value:=if τ.isAgg then .agg cs.toArray else cs.headD (.tuple #[])
theorem V.ck{w:World}{M:Nat→Prop}{τ:Ty}{cs:List Value}{x:τ.den}(h:Rd w M τ cs x):V w M τ (ck τ cs) x:=by
 unfold V VM.ck
 by_cases ha:τ.isAgg=true
 ·rw[aj ha,aj ha];exact⟨_,rfl,by simpa using h⟩
 ·rw[ah ha,ah ha]
  obtain⟨v',rfl,_⟩:=h.scalar (by simpa using ha)
  exact h
theorem Jc{w:World}{M:Nat→Prop}{τ:Ty}{cs:List Value}{x:τ.den}(h:Rd w M τ cs x):(ck τ cs).cells.toList=cs:=by
 unfold VM.ck
 by_cases ha:τ.isAgg=true
 ·rw[aj ha];simp[Value.cells]
 ·rw[ah ha]
  obtain⟨v',rfl,hc⟩:=h.scalar (by simpa using ha)
  simp[hc]
theorem Rd.lJ{w:World}{M:Nat→Prop}: ∀{τ:Ty} {cs:List Value} {x:τ.den},Rd w M τ cs x→ ∀v∈cs,v.oneCell'=true
 | .int _,_,_,h=>by simp only[Rd]at h;subst h;simp[Value.oneCell']
 | .bool,_,_,h=>by simp only[Rd]at h;subst h;simp[Value.oneCell']
 | .str,_,_,h=>by simp only[Rd]at h;subst h;simp[Value.oneCell']
 | .slice _,_,_,h=>by simp only[Rd]at h;obtain⟨a,cap,rfl,_⟩:=h;simp[Value.oneCell']
 | .unit,_,_,h=>by simp only[Rd]at h;subst h;simp
 | .pair a b,_,_,h=>by
  simp only[Rd]at h
  obtain⟨c1,c2,rfl,h1,h2⟩:=h
  intro v hv
  rcases bl.1 hv with hv|hv
  ·exact h1.lJ v hv
  ·exact h2.lJ v hv
 | .arr n e,_,x,h=>by
  simp only[Rd]at h
  obtain⟨hn,Vq,hc,rfl,hr⟩:=h
  intro v hv
  obtain⟨l,hl,hvl⟩:=List.mem_flatten.1 hv
  obtain⟨i,hi,rfl⟩:=rO.1 hl
  exact(hr i ω hi).lJ v hvl
def Ty.cC:Ty→List Value
 | .int k=>[.int k 0]
 | .bool=>[.bool false]
 | .str=>[.string ByteArray.empty]
 | .slice _=>[.slice none 0 0]
 | .unit=>[]
 | .pair a b=>a.cC++b.cC
 | .arr n e=>(List.replicate n e.cC).flatten
theorem Rd.zero(w:World)(M:Nat→Prop): ∀(τ:Ty),Rd w M τ τ.cC τ.zero
 | .int _| .bool| .str| .unit=>by simp[Rd,Ty.cC,Ty.zero]
 | .slice _=>by
  simp only[Rd,Ty.cC,Ty.zero]
  exact⟨none,0,rfl,aH _,λi h=>absurd h (by simp)⟩
 | .pair a b=>by
  simp only[Rd,Ty.cC,Ty.zero]
  exact⟨_,_,rfl,Rd.zero w M a,Rd.zero w M b⟩
 | .arr n e=>by
  simp only[Rd,Ty.cC,Ty.zero]
  refine⟨by simp,_,by simp,rfl,λi h h'=> ?_⟩
  simp only[ND,F5]
  exact Rd.zero w M e
end VM
end
