/- A part of the proof of LotEven of layer 23: a machine that reads a function of the program as an equation between values. -/
import Derived.KernelRfl
import GoSem.Claims
import Derived.WalkKit
import Derived.ArgAppend
import Derived.Laws.CopyRow
import Derived.Laws.MakeOwn
import Derived.Laws.OwnMore
import Derived.Orders
import Derived.LoopN
set_option linter.all false
open List renaming length→ℓ, getD→γ
theorem ω{p:Prop}(h:p:=by omega):p:=h
theorem δ{p:Prop}(h:p:=by decide):p:=h
theorem κ{p:Prop}(h:p:=by kernel_rfl):p:=h
noncomputable section
abbrev aw:=@Option.bind_some
abbrev aj:=@cond_true
abbrev aJ:=@List.length_singleton
abbrev aF:=@Int.toNat_natCast
abbrev aZ:=@List.getD_eq_getElem?_getD
abbrev au:=@cond_false
abbrev bo:=@List.getElem?_eq_getElem
abbrev ak:=@if_pos
abbrev aX:=@List.length_append
abbrev ah:=@if_neg
abbrev a6:=@List.mem_cons_of_mem
abbrev ba:=@Array.length_toList
abbrev aU:=@List.length_cons
abbrev aI:=@Nat.le_refl
abbrev bl:=@of_decide_eq_true
abbrev bP:=@List.length_replicate
abbrev bu:=@List.mem_cons_self
abbrev bf:=@List.mem_append
abbrev bs:=@List.length_set
abbrev bE:=@List.length_take
abbrev bq:=@decide_eq_true
abbrev bU:=@List.append_assoc
abbrev cA:=@List.mem_append_left
abbrev bQ:=@Bool.and_eq_true
abbrev bm:=@List.mem_cons
abbrev cg:=@List.mem_singleton
abbrev bK:=@decide_eq_false
abbrev cL:=@Bool.and_eq_true_iff
abbrev cS:=@List.mem_append_right
abbrev bY:=@List.length_nil
abbrev bR:=@Bool.not_true
abbrev bA:=@Nat.zero_le
abbrev bZ:=@List.map_cons
abbrev ca:=@Nat.le_trans
abbrev cM:=@List.nil_append
abbrev cN:=@List.append_nil
abbrev cJ:=@Bool.not_false
abbrev cD:=@List.sum_cons
abbrev eK:=@Nat.eq_of_beq_eq_true
abbrev cT:=@Int.toNat_zero
abbrev dy:=@List.length_drop
abbrev c9:=@List.drop_zero
abbrev gh:=@List.take_of_length_le
abbrev fR:=@Array.getElem?_toList
abbrev dL:=@List.map_append
abbrev eL:=@Option.some.injEq
abbrev cQ:=@List.mem_map
abbrev eM:=@Option.mem_toList
abbrev fC:=@List.getElem_of_mem
abbrev ff:=@decide_eq_true_iff
abbrev gi:=@List.mem_map_of_mem
abbrev gV:=@List.getElem?_eq_none
abbrev eN:=@List.cons.injEq
abbrev kP:=@Array.getElem?_eq_some_iff
abbrev fg:=@List.getElem_mem
abbrev iG:=@List.take_append_drop
abbrev fD:=@List.take_length
abbrev iH:=@List.mem_of_mem_take
abbrev jN:=@List.drop_of_length_le
abbrev fE:=@List.length_map
abbrev gW:=@Bool.false_eq_true
abbrev gX:=@List.pairwise_cons
abbrev jh:=@Nat.mul_le_mul_right
abbrev fT:=@Nat.min_eq_left
abbrev dZ:=@Int.mul_comm
abbrev nc:=@List.drop_eq_getElem_cons
abbrev qf:=@Int.mul_le_mul_of_nonneg_right
abbrev dR:=@Nat.add_mul
abbrev qg:=@List.eq_nil_of_length_eq_zero
abbrev qi:=@Int.mul_le_mul_of_nonneg_left
abbrev oJ:=@List.getElem?_append_right
abbrev iI:=@List.size_toArray
abbrev ec:=@Int.le_refl
abbrev fh:=@Nat.zero_add
abbrev lZ:=@List.mem_of_mem_drop
abbrev gj:=@Int.mul_assoc
abbrev gk:=@Bool.and_true
abbrev kQ:=@Nat.lt_of_lt_of_le
abbrev qj:=@List.getElem?_append_left
abbrev qk:=@List.pairwise_iff_getElem
abbrev mc:=@List.map_congr_left
abbrev me:=@Nat.mul_le_mul_left
abbrev sM:=@Array.getD_eq_getD_getElem?
abbrev fU:=@Int.le_trans
abbrev mf:=@List.getElem?_take
abbrev mg:=@List.getElem?_drop
abbrev qm:=@Option.bind_eq_some_iff
abbrev nf:=@Int.toNat_of_nonneg
abbrev sN:=@List.getElem?_eq_some_iff
abbrev ji:=@List.drop_drop
abbrev oK:=@List.length_pos_iff
abbrev kR:=@Int.ediv_nonneg
abbrev mh:=@List.cons_append
abbrev sO:=@Int.eq_ofNat_of_zero_le
abbrev oL:=@Int.emod_lt_of_pos
abbrev sP:=@Int.mul_ediv_add_emod
abbrev eA:=@and_true
abbrev oM:=@List.nodup_append
abbrev uT:=@List.getElem?_replicate
abbrev lF:=@Bool.not_eq_true
abbrev gY:=@List.map_nil
abbrev lG:=@Option.getD_some
abbrev tK:=@List.mem_or_eq_of_mem_set
abbrev wv:=@List.take_append_of_le_length
abbrev wx:=@List.drop_append_of_le_length
abbrev ng:=@List.length_range
abbrev lH:=@List.drop_left'
abbrev iM:=@List.sum_nil
abbrev lI:=@List.sum_append
abbrev gb:=@Array.ext'
abbrev qX:=@List.mem_iff_getElem
abbrev eo:=@if_false
abbrev ke:=@Bool.true_and
abbrev wy:=@Option.ne_none_iff_exists'
abbrev dz:=@Ne.symm
abbrev tL:=@Int.ediv_lt_iff_lt_mul
abbrev jy:=@Int.add_zero
abbrev nh:=@List.mem_filter
abbrev ni:=@Bool.or_eq_true
abbrev iN:=@Int.add_mul
abbrev qY:=@Bool.false_ne_true
abbrev oX:=@List.drop_length
abbrev oY:=@decide_eq_decide
abbrev kf:=@Nat.add_zero
abbrev wz:=@List.eq_of_mem_replicate
abbrev wA:=@List.take_append_getElem
abbrev nj:=@List.mem_range
abbrev nk:=@List.take_zero
abbrev jz:=@Int.mul_add
abbrev qZ:=@Bool.not_eq_true'
abbrev q3:=@List.getElem?_map
abbrev q4:=@decide_eq_true_eq
abbrev q5:=@Bool.eq_false_iff
abbrev oZ:=@Bool.eq_iff_iff
abbrev o4:=@Int.emod_nonneg
abbrev lJ:=@Nat.lt_or_ge
abbrev wB:=@List.drop_eq_nil_of_le
abbrev kg:=@Nat.one_mul
abbrev q6:=@List.all_eq_true
abbrev o5:=@Int.mul_nonneg
abbrev zI:=@Int.add_mul_emod_self_left
abbrev wC:=@List.getElem?_toArray
abbrev wD:=@Int.add_mul_ediv_left
abbrev q7:=@Option.some.inj
abbrev gz:=@congrArg
abbrev wE:=@List.pairwise_append
abbrev o6:=@Nat.add_assoc
abbrev zJ:=@List.getElem_append_left
abbrev ra:=@List.drop_take
abbrev rf:=@List.take_take
abbrev zK:=@Nat.add_sub_cancel_left
abbrev tM:=@List.filter_cons
abbrev zL:=@List.getElem_cons_zero
abbrev zM:=@List.getElem_replicate
abbrev o7:=@Nat.beq_refl
abbrev zN:=@Option.map_eq_some_iff
abbrev o8:=@Nat.pow_succ
abbrev o9:=@Int.le_of_lt
abbrev zO:=@Int.ediv_eq_zero_of_lt
abbrev wF:=@Int.lt_of_le_of_lt
abbrev tN:=@List.headD_cons
abbrev zP:=@Nat.le_of_ble_eq_true
abbrev wG:=@List.ext_getElem?
abbrev gA:=@if_true
abbrev E7:=@Nat.two_pow_add_eq_or_of_lt
abbrev wH:=@List.pairwise_map
abbrev zQ:=@Array.getElem_toList
abbrev tO:=@List.tail_cons
abbrev pa:=@Int.one_mul
abbrev E8:=@Int.tdiv_eq_ediv_of_nonneg
abbrev tP:=@Bool.false_and
abbrev ri:=@Nat.sub_self
abbrev rj:=@Nat.mul_succ
abbrev E9:=@List.getElem_append_right
abbrev Fa:=@Classical.byContradiction
abbrev Fb:=@Int.le_of_mul_le_mul_left
abbrev zS:=@List.replicate_succ
abbrev zT:=@List.replicate_zero
abbrev tQ:=@Prod.mk.injEq
abbrev tR:=@Bool.false_or
abbrev tS:=@Bool.or_false
abbrev ki:=@Prod.ext
abbrev wI:=@List.take_left'
abbrev wJ:=@List.nodup_cons
abbrev wK:=@Int.natCast_add
abbrev wL:=@List.length_zip
abbrev zU:=@List.getElem_range
abbrev zV:=@List.mem_filterMap
abbrev Fc:=@List.getElem?_cons_zero
abbrev rl:=@Nat.sub_mul
abbrev Fe:=@decide_eq_false_iff_not
abbrev Ff:=@List.pairwise_singleton
abbrev zW:=@List.flatten_cons
abbrev wM:=@Nat.mul_le_mul
abbrev zX:=@List.getElem_take
abbrev zY:=@List.take_add_one
abbrev tT:=@Int.zero_add
abbrev Mc:=@Array.getElem?_setIfInBounds_ne
abbrev Fg:=@List.Pairwise.sublist
abbrev Fh:=@List.countP_le_length
abbrev zZ:=@List.any_eq_true
abbrev Md:=@Nat.and_two_pow_sub_one_eq_mod
abbrev z6:=@beq_self_eq_true
abbrev z7:=@List.ext_getElem
abbrev Fi:=@List.getElem?_set_ne
abbrev tU:=@Nat.le_succ
abbrev Fj:=@Nat.pow_le_pow_right
abbrev tV:=@Int.mul_neg
abbrev z8:=@Int.natCast_mul
abbrev Fk:=@List.get_eq_getElem
abbrev wN:=@Int.zero_mul
abbrev Me:=@iff_iff_implies_and_implies
abbrev Aa:=@List.mapM_cons
abbrev Mf:=@Int.fdiv_eq_ediv_of_nonneg
abbrev Fl:=@List.set_cons_zero
abbrev Fm:=@Int.tmod_lt_of_pos
abbrev Mg:=@Array.getElem?_eq_getElem
abbrev Mh:=@Decidable.byContradiction
abbrev wO:=@Nat.mul_one
abbrev Fo:=@List.getElem_drop
abbrev wP:=@Int.mul_sub
abbrev Fp:=@Int.emod_eq_of_lt
abbrev Fs:=@Decidable.not_not
abbrev Ab:=@List.all_cons
abbrev Mi:=@Int.mul_ediv_cancel_left
abbrev Ft:=@List.getElem_map
abbrev Fu:=@List.not_mem_nil
abbrev Mj:=@List.length_eq_zero_iff
abbrev Fv:=@List.nil_sublist
abbrev Mk:=@Array.getElem?_eq_none
abbrev wQ:=@Nat.beq_eq
abbrev Ml:=@List.head?_eq_getElem?
abbrev Ac:=@Nat.mul_comm
abbrev Mm:=@List.append_eq_nil_iff
abbrev Ad:=@Int.pow_succ
abbrev Ae:=@Int.mul_zero
abbrev Af:=@Int.sub_zero
abbrev Fw:=@List.range_succ
abbrev Mn:=@List.length_filter_le
abbrev Mo:=@Nat.div_lt_iff_lt_mul
abbrev Mp:=@Int.ediv_le_of_le_mul
abbrev Mq:=@List.set_append_right
abbrev Fy:=@List.nodup_nil
abbrev Ah:=@Int.mul_one
abbrev FA:=@Bool.and_false
abbrev FB:=@Nat.lt_irrefl
abbrev Ai:=@Nat.blt_eq
abbrev Aj:=@Nat.ble_eq
abbrev Ak:=@Int.not_lt
abbrev FC:=@Nat.zero_mul
abbrev FD:=@Nat.log2_def
section
namespace VM
open Go
theorem alV{α:Type}(a:α): ∃b:α,b=a:=⟨a,rfl⟩
def hid{α:Type}(a:α):α:=Classical.choose (alV a)
theorem iO{α:Type}(a:α):hid a=a:=Classical.choose_spec (alV a)
def Al:Nat:=68719476736
def W:IntKind→Int→Int:=hid λk x=>k.wrap x
def aT:Int→Int→Bool:=hid λx y=>decide (x<y)
def cY:Int→Int→Bool:=hid λx y=>decide (x≤y)
def aM:Int→Int→Bool:=hid λx y=>decide (x=y)
def a7:Int→Nat→Bool:=hid λi n=>decide (0≤i∧i<(n:Int))
def small:Nat→Bool:=hid λn=>decide (n<Al)
def iP:Int→Int→Bool:=hid λl c=>decide (0≤l∧l≤c∧c<(Al:Int))
def jA:Int→Int→Int→Int→Bool:=hid λl h m n=>decide (0≤l∧l≤h∧h≤m∧m≤n)
def quo:Int→Int→Int:=hid λx y=>x.tdiv y
def rem:Int→Int→Int:=hid λx y=>x.tmod y
def shl:IntKind→Int→Int→Int:=hid λk x y=>x*2^(min y.toNat k.bits)
def shr:IntKind→Int→Int→Int:=hid λk x y=>x.fdiv (2^(min y.toNat k.bits))
def mx:Int→Int→Int:=hid λx y=>if y>x then y else x
def mn:Int→Int→Int:=hid λx y=>if y<x then y else x
def VA:ByteArray→ByteArray→Bool:=hid λx y=>decide (x.toList=y.toList)
theorem DW(k:IntKind)(x:Int):W k x=k.wrap x:=by unfold W;rw[iO]
theorem rm(x y:Int):aT x y=decide (x<y):=by unfold aT;rw[iO]
theorem oe(x y:Int):cY x y=decide (x≤y):=by unfold cY;rw[iO]
theorem jj(x y:Int):aM x y=decide (x=y):=by unfold aM;rw[iO]
theorem VB(i:Int)(n:Nat):a7 i n=decide (0≤i∧i<(n:Int)):=by unfold a7;rw[iO]
theorem FE(n:Nat):small n=decide (n<Al):=by unfold small;rw[iO]
theorem BL(l c:Int):iP l c=decide (0≤l∧l≤c∧c<(Al:Int)):=by unfold iP;rw[iO]
theorem wR(l h m n:Int):jA l h m n=decide (0≤l∧l≤h∧h≤m∧m≤n):=by unfold jA;rw[iO]
theorem Kg(x y:Int):quo x y=x.tdiv y:=by unfold quo;rw[iO]
theorem VC(x y:Int):rem x y=x.tmod y:=by unfold rem;rw[iO]
theorem VE(k:IntKind)(x y:Int):shl k x y=x*2^(min y.toNat k.bits):=by unfold shl;rw[iO]
theorem Qg(k:IntKind)(x y:Int):shr k x y=x.fdiv (2^(min y.toNat k.bits)):=by unfold shr;rw[iO]
theorem RK(x y:Int):mx x y=if y>x then y else x:=by unfold mx;rw[iO]
theorem RL(x y:Int):mn x y=if y<x then y else x:=by unfold mn;rw[iO]
theorem FF(x y:ByteArray):VA x y=decide (x.toList=y.toList):=by unfold VA;rw[iO]
inductive Bw where|and|or|xor|andNot
def mX:Bw→IntKind→Int→Int→Int:=hid λo k x y=>
 let a:=BitVec.ofInt k.bits x
 let b:=BitVec.ofInt k.bits y
 k.wrap (match o with| .and=>a&&& b| .or=>a|||b| .xor=>a^^^b| .andNot=>a&&& ~~~b).toNat
theorem uU(o:Bw)(k:IntKind)(x y:Int):mX o k x y=
 let a:=BitVec.ofInt k.bits x
 let b:=BitVec.ofInt k.bits y
 k.wrap (match o with| .and=>a&&& b| .or=>a|||b| .xor=>a^^^b| .andNot=>a&&& ~~~b).toNat:=by unfold mX;rw[iO]
def strOf(l:List Nat):ByteArray:=⟨(l.map UInt8.ofNat).toArray⟩
inductive Ty where
 |int (k:IntKind)
 |bool
 |str
 |slice (e:Ty)
 |unit
 |pair (a b:Ty)
 |arr (n:Nat) (e:Ty)
 deriving DecidableEq
@[reducible] def Ty.den:Ty→Type
 | .int _=>Int
 | .bool=>Bool
 | .str=>ByteArray
 | .slice e=>List e.den
 | .unit=>Unit
 | .pair a b=>a.den×b.den
 | .arr _ e=>List e.den
def Ty.size:Ty→Nat
 | .int _| .bool| .str| .slice _=>1
 | .unit=>0
 | .pair a b=>a.size+b.size
 | .arr n e=>n*e.size
def Ty.isAgg:Ty→Bool
 | .unit| .pair _ _| .arr _ _=>true
 |_=>false
def Ty.zero:(τ:Ty)→τ.den
 | .int _=>(0:Int)
 | .bool=>false
 | .str=>ByteArray.empty
 | .slice _=>[]
 | .unit=>()
 | .pair a b=>(a.zero,b.zero)
 | .arr n e=>List.replicate n e.zero
def Ty.flat:Ty→Bool
 | .slice _=>false
 | .pair a b=>a.flat&&b.flat
 | .arr _ e=>e.flat
 |_=>true
def Ty.comparable:Ty→Bool
 | .slice _=>false
 | .pair a b=>a.comparable&&b.comparable
 | .arr _ _=>false
 |_=>true
def alW{α:Type}(f:α→α→Bool):List α→List α→Bool
 |[],[]=>true
 |x::xs,y::ys=>f x y&&alW f xs ys
 |_,_=>false
def ti:(τ:Ty)→τ.den→τ.den→Bool
 | .int _,x,y=>aM x y
 | .bool,x,y=>x==y
 | .str,x,y=>VA x y
 | .slice _,_,_=>false
 | .unit,_,_=>true
 | .pair a b,x,y=>ti a x.1 y.1&&ti b x.2 y.2
 | .arr _ e,x,y=>alW (ti e) x y
inductive Step where
 |gr (n:Nat)
 |idx (i:Nat)
def Ii:List Step→List Step→Bool
 |[],[]=>true
 | .gr a::p,.gr b::q=>Nat.beq a b&&Ii p q
 |_,_=>false
def yq:List Step→List Step→Bool
 |[],_=>true
 | .gr a::p,.gr b::q=>Nat.beq a b&&yq p q
 |_,_=>false
def yr:Ty→Nat→Option Ty
 | .pair a b,n=>match n with
  |0=>some a
  |n+1=>yr b n
 |_,_=>none
def eR:List Step→Ty→Ty→Bool
 |[],τ,υ=>decide (τ=υ)
 | .gr n::p,τ,υ=>match yr τ n with
  |some a=>eR p a υ
  |none=>false
 |_,_,_=>false
inductive bk where
 |any
 |VF
 |val (τ:Ty) (x:τ.den)
 |Kh (τ:Ty) (x:τ.den) (n:Nat)
 |Ij (τ:Ty) (x:τ.den) (n:Nat) (j:Nat)
 |sub (id:Nat) (e:Ty) (lo:Nat)
 |emp
 |ref (id:Nat)
 |ic (id:Nat) (p:List Step)
 |rn (τ:Ty) (x:τ.den)
 |tup (vs:List bk)
 |Mr (f:Nat) (caps:List bk)
inductive aW where
 |obj (τ:Ty) (x:τ.den)
 |fv (τ:Ty) (x:τ.den) (p:List Step) (j:Nat)
 |own (e:Ty) (l:List e.den)
 |oN (e:Ty) (l:List e.den)
 |eU (e:Ty) (l:List (List e.den)) (o:Option Nat)
 |gone
structure St where
 T:Nat→bk
 H:Nat→Option aW
def St.put(σ:St)(d:Nat)(v:bk):St:=⟨λi=>cond (Nat.beq i d) v (σ.T i),σ.H⟩
def St.ik(σ:St)(d:Nat)(v:Option aW):St:=⟨σ.T,λi=>cond (Nat.beq i d) v (σ.H i)⟩
def St.wc(σ:St)(d:Option Nat)(v:bk):St:=match d with|some d=>σ.put d v|none=>σ
def Ms(n:Nat)(io:List Nat):Option Nat→Bool|some d=>Nat.blt d n&&io.all (λi=> !(Nat.beq i d))|none=>true
def St.wS(σ:St):List (Nat×Option aW)→St
 |[]=>σ
 |u::r=>(σ.ik u.1 u.2).wS r
abbrev S0:St:=⟨λ_=> .any,λ_=>none⟩
abbrev ig:=List (Nat×Option aW)
section K
variable{α:Type}
def uV:(τ:Ty)→τ.den→Nat→((υ:Ty)→υ.den→Option α)→Option α
 | .pair a b,x,n,k=>match n with
  |0=>k a x.1
  |n+1=>uV b x.2 n k
 |_,_,_,_=>none
def fi:(τ:Ty)→τ.den→Nat→((υ:Ty)→υ.den→(υ.den→Option α)→Option α)→(τ.den→Option α)→Option α
 | .pair a b,x,n,m,k=>match n with
  |0=>m a x.1 λz=>k (z,x.2)
  |n+1=>fi b x.2 n m λz=>k (x.1,z)
 |_,_,_,_,_=>none
def iQ(τ υ:Ty)(k:Option α):Option α:=if τ=υ then k else none
def cr(υ τ:Ty)(y:υ.den)(k:τ.den→Option α):Option α:=if h:υ=τ then k (h▸y)else none
def agN(τ:Ty)(x:τ.den)(i:Nat)(k:(υ:Ty)→υ.den→Option α):Option α:=
 match τ,x with
 | .arr _ e,x=>k e (γ x i e.zero)
 |_,_=>none
def Ez(τ:Ty)(x:τ.den)(i:Nat)(m:(υ:Ty)→υ.den→(υ.den→Option α)→Option α)(k:τ.den→Option α):Option α:=
 match τ,x,k with
 | .arr _ e,x,k=>m e (γ x i e.zero) λz=>k (List.set x i z)
 |_,_,_=>none
def Am:List Step→(τ:Ty)→τ.den→((υ:Ty)→υ.den→Option α)→Option α
 |[],τ,x,k=>k τ x
 | .gr n::p,τ,x,k=>uV τ x n fun υ y=>Am p υ y k
 | .idx i::p,τ,x,k=>agN τ x i fun υ y=>Am p υ y k
def we(υ:Ty)(y:υ.den):List Step→(τ:Ty)→τ.den→(τ.den→Option α)→Option α
 |[],τ,_,k=>cr υ τ y k
 | .gr n::p,τ,x,k=>fi τ x n (fun υ' y' k'=>we υ y p υ' y' k') k
 | .idx i::p,τ,x,k=>Ez τ x i (fun υ' y' k'=>we υ y p υ' y' k') k
def mw(fz:Bool)(a:bk)(H:Nat→Option aW)(τ:Ty)(k:τ.den→List Nat→ig→Option α):Option α:=
 match a with
 | .val υ x=>cr υ τ x λy=>k y [] []
 | .Kh υ x _=>cr υ τ x λy=>k y [] []
 | .emp=>match τ,k with
  | .slice _,k=>k [] [] []
  |_,_=>none
 | .ref id=>match H id with
  |some (.own e l)=>cr (.slice e) τ l λy=>k y [id] (cond fz [(id,some (.oN e l))] [])
  |some (.oN e l)=>cr (.slice e) τ l λy=>k y [id] []
  |_=>none
 |_=>none
def Mt(a:bk)(k:(τ:Ty)→τ.den→Option α):Option α:=
 match a with
 | .val υ x=>k υ x
 |_=>none
def lx(id:Nat)(p:List Step)(H:Nat→Option aW)(k:Ty→Option α):Option α:=
 match H id with
 |some (.obj τ x)=>Am p τ x fun υ _=>k υ
 |some (.fv τ x _ _)=>Am p τ x fun υ _=>k υ
 |some (.own e l)|some (.oN e l)=>match p with
  | .idx i::p=>Am p e (γ l i e.zero) fun υ _=>k υ
  |_=>none
 |_=>none
def awJ(a:bk)(H:Nat→Option aW)(k:(τ:Ty)→τ.den→List Nat→Option α):Option α:=
 match a with
 | .val υ x=>k υ x []
 | .ref id=>match H id with
  |some (.own e l)|some (.oN e l)=>k (.slice e) l [id]
  |_=>none
 |_=>none
def wg(a:bk)(k:IntKind→Int→Option α):Option α:=
 match a with
 | .val (.int i) x=>k i x
 |_=>none
end K
inductive AM where
 |v (τ:Ty)
 |own (e:Ty)
 |io (τ:Ty)
 |fn (f:Nat) (τ:Ty)
 |ptr (τ:Ty)
 |ic (τ:Ty)
 |lo (e:Ty)
 |sp (τ:Ty) (n:Nat) (e:Ty)
 deriving DecidableEq
@[reducible] def AM.den:AM→Type
 | .v τ=>τ.den
 | .own e=>List e.den
 | .io τ=>τ.den
 | .fn _ τ=>τ.den
 | .ptr τ=>τ.den
 | .ic τ=>τ.den
 | .lo e=>List e.den
 | .sp τ _ _=>τ.den
@[reducible] def HP:List AM→Type
 |[]=>Unit
 |[m]=>m.den
 |m::n::ms=>m.den×HP (n::ms)
structure pP where
 args:List AM
 res:List AM
 quiet:Bool
 run:HP args→Option (HP res)
inductive CM where
 |v (τ:Ty)
 |own (e:Ty)
 |obj (τ:Ty)
 |fv (τ:Ty) (q:List Step) (e:Ty)
 |same (s:Nat)
 |io (τ:Ty)
 |fn (f:Nat) (τ:Ty)
 |eU (e:Ty)
structure Env where
 nt:Nat
 ty:Nat→Option Ty
 Γ:Nat→List pP
 N:Nat
 wT:Nat→Option (List (Nat×CM))
 yt:Nat→Option (List (Nat×CM))
 io:List Nat:=[]
 lk:Option (Ty×List Step×Ty×List Nat):=none
def Env.vw(E:Env):Bool:=match E.lk with
 |some (_,_,_,ds)=>ds.any λd=>Nat.beq d 1000001
 |none=>false
def Env.eU(E:Env):Bool:=match E.lk with
 |some (_,_,_,ds)=>ds.any λd=>Nat.beq d 1000002
 |none=>false
def Ti(E:Env)(n d:Nat):Bool:=match E.lk with
 |some (_,_,_,ds)=>ds.any λx=>Nat.beq x (n+d)
 |none=>false
def Env.sp(E:Env):Bool:=match E.lk with
 |some (_,_,_,ds)=>ds.any λd=>Nat.beq d 1000000
 |none=>false
def lkT(E:Env)(τ:Ty):Option (List Step×Ty):=match E.lk with
 |some (υ,q,e,_)=>cond (decide (υ=τ)) (cond (eR q τ (.slice e)) (some (q,e)) none) none
 |none=>none
def Ik(E:Env)(τ:Ty)(id:Nat):Option (List Step×Ty):=match E.lk with
 |some (_,_,_,ds)=>cond (ds.any λd=>Nat.beq (id/16) d) (lkT E τ) none
 |none=>none
def cvA:Value→bk
 | .int k n=> .val (.int k) n
 | .bool b=> .val .bool b
 | .string s=> .val .str s
 | .slice none 0 0=> .emp
 |_=> .any
def St.ρ (σ:St):Operand→bk
 | .tmp t=>σ.T t
 | .const v=>cvA v
 | .global _=> .any
 | .func f=> .Mr f []
section
variable{α:Type}
def uW(op:BinOp)(k:IntKind)(x y:Int)(K:bk→Option α):Option α:=
 match op with
 | .add=>K (.val (.int k) (W k (x+y)))
 | .sub=>K (.val (.int k) (W k (x-y)))
 | .mul=>K (.val (.int k) (W k (x*y)))
 | .quo=>cond (aM y 0) none (K (.val (.int k) (W k (quo x y))))
 | .rem=>cond (aM y 0) none (K (.val (.int k) (rem x y)))
 | .and=>K (.val (.int k) (mX .and k x y))
 | .or=>K (.val (.int k) (mX .or k x y))
 | .xor=>K (.val (.int k) (mX .xor k x y))
 | .andNot=>K (.val (.int k) (mX .andNot k x y))
 | .eql=>K (.val .bool (aM x y))
 | .neq=>K (.val .bool (!aM x y))
 | .lss=>K (.val .bool (aT x y))
 | .leq=>K (.val .bool (cY x y))
 | .gtr=>K (.val .bool (aT y x))
 | .geq=>K (.val .bool (cY y x))
 |_=>none
def Zr(op:BinOp)(k:IntKind)(x y:Int)(K:bk→Option α):Option α:=
 match op with
 | .shl=>cond (aT y 0) none (K (.val (.int k) (W k (shl k x y))))
 | .shr=>cond (aT y 0) none (K (.val (.int k) (shr k x y)))
 |_=>none
def Zs:BinOp→Bool
 | .shl| .shr=>true
 |_=>false
def FG(t:Option Ty)(op:BinOp)(τ:Ty)(x:τ.den)(υ:Ty)(y:υ.den)(K:bk→Option α):Option α:=
 match τ,x,υ,y with
 | .int k,x,.int k',y=>cond (Zs op) (Zr op k x y K) (if k=k' then uW op k x y K else none)
 |τ,x,υ,y=>match t with
  |none=>none
  |some u=>iQ u τ (cond τ.comparable (match op with
   | .eql=>cr υ τ y λy=>K (.val .bool (ti τ x y))
   | .neq=>cr υ τ y λy=>K (.val .bool (!ti τ x y))
   |_=>none) none)
def Tj(op:UnOp)(a:bk)(K:bk→Option α):Option α:=
 match op,a with
 | .neg,.val (.int k) n=>K (.val (.int k) (W k (0-n)))
 | .xor,.val (.int k) n=>K (.val (.int k) (mX .xor k (if k.signed then-1 else k.max) n))
 | .not,.val .bool b=>K (.val .bool (!b))
 |_,_=>none
abbrev fV(α:Type):=bk→List Nat→ig→Option α
def Y1(up:Bool):bk→List bk→(bk→Option α)→Option α
 |a,[],K=>K a
 |a,b::r,K=>wg a λk x=>wg b λk' y=>if k=k' then Y1 up (.val (.int k) (cond up (mx x y) (mn x y))) r K else none
def Mu(τ:Ty)(a:bk)(H:Nat→Option aW)(K:fV α):Option α:=
 match τ,a with
 | .slice _,.val (.slice _) l=>K (.val (.int .i64) (ℓ l:Int)) [] []
 | .arr n _,.val (.arr _ _) _=>K (.val (.int .i64) (n:Int)) [] []
 | .str,.val .str s=>K (.val (.int .i64) (ByteArray.size s:Int)) [] []
 | .slice _,.emp=>K (.val (.int .i64) (0:Int)) [] []
 | .slice _,.ref id=>match H id with
  |some (.own _ l)|some (.oN _ l)=>K (.val (.int .i64) (l.length:Int)) [id] []
  |_=>none
 |_,_=>none
def qn(H:Nat→Option aW)(id:Nat)(e:aW)(K:Option α):Option α:=
 match H id with
 |none=>K
 |some _=>none
def Mv(id:Nat)(e:Ty)(a b:bk)(H:Nat→Option aW)(K:fV α):Option α:=
 mw false b H (.slice e) λys rd _=>
  match a with
  | .emp=>cond (small (ℓ ys)) (K (.ref id) (id::rd) [(id,some (.own e ys))]) none
  | .ref j=>match H j with
   |some (.own e' l)=>cr (.slice e') (.slice e) l λxs=>
    cond (small (ℓ xs+ℓ ys)) (K (.ref id) (id::j::rd) [(j,some .gone),(id,some (.own e (xs++ys)))]) none
   |_=>none
  |_=>none
def ly(τ:Ty)(H:Nat→Option aW):List (Nat×bk)→τ.den→List Nat→ig→(τ.den→List Nat→ig→Option α)→Option α
 |[],x,rd,ups,K=>K x rd ups
 |p::r,x,rd,ups,K=>uV τ x p.1 fun υ _=>mw true p.2 H υ λy xL iR=>
  fi τ x p.1 (fun υ' _ k'=>cr υ υ' y k') λz=>ly τ H r z (xL++rd) (ups++iR) K
def wU(e:Ty)(H:Nat→Option aW)(n:Nat):List (Nat×bk)→List e.den→List Nat→ig→(List e.den→List Nat→ig→Option α)→Option α
 |[],l,rd,ups,K=>K l rd ups
 |p::r,l,rd,ups,K=>cond (Nat.blt p.1 n) (mw true p.2 H e λy xL iR=>wU e H n r (List.set l p.1 y) (xL++rd) (ups++iR) K) none
def CO(v:bk)(H:Nat→Option aW):(a:Ty)→(a.den→List Nat→ig→Option α)→Option α
 | .pair a .unit,k=>match v with
  | .rn υ x=>cr υ a x λy=>k (y,()) [] []
  |_=>none
 |a,k=>mw true v H a k
def CP:(a:Ty)→a.den→bk
 | .pair a .unit,x=> .rn a x.1
 |a,x=> .val a x
def rp(H:Nat→Option aW):(τ:Ty)→List bk→(τ.den→List Nat→ig→Option α)→Option α
 | .unit,[],K=>K () [] []
 | .pair a b,v::vs,K=>CO v H a λx rd ups=>rp H b vs λxs xL iR=>K (x,xs) (xL++rd) (ups++iR)
 |_,_,_=>none
def p7:(τ:Ty)→τ.den→List bk
 | .pair a b,x=>CP a x.1::p7 b x.2
 |_,_=>[]
def bc(H:Nat→Option aW)(d:Nat)(v:Option aW):Nat→Option aW:=λi=>cond (Nat.beq i d) v (H i)
def wV(H:Nat→Option aW):List bk→(List bk→List Nat→ig→Option α)→Option α
 |[],K=>K [] [] []
 |a::r,K=>match a with
  | .ic id []=>match H id with
   |some (.obj τ x)=>wV (bc H id (some .gone)) r λcs rd ups=>K (.rn τ x::cs) (id::rd) ((id,some .gone)::ups)
   |_=>none
  |a=>wV H r λcs rd ups=>K (a::cs) rd ups
def oa(m:AM)(a:bk)(H:Nat→Option aW)(k:m.den→(Nat→Option aW)→List Nat→ig→ig→List (Nat×AM)→Option α):Option α:=
 match m,k with
 | .v τ,k=>mw true a H τ λx rd uf=>match uf with
  |[]=>k x H rd [] [] []
  |u::r=>k x (bc H u.1 u.2) rd [] (u::r) []
 | .own e,k=>match a with
  | .emp=>k [] H [] [] [] []
  | .ref id=>match H id with
   |some (.own e' l)=>cr (.slice e') (.slice e) l λx=>k x (bc H id (some .gone)) [id] [(id,some .gone)] [] []
   |_=>none
  |_=>none
 | .io τ,k=>match a with
  | .ic id []=>match H id with
   |some (.obj υ x)=>cr υ τ x λy=>k y (bc H id (some .gone)) [id] [] [] [(id,.io τ)]
   |_=>none
  |_=>none
 | .fn f τ,k=>match a with
  | .Mr f' c=>cond (Nat.beq f f') (rp H τ c λx rd uf=>match uf with
   |[]=>k x H rd [] [] []
   |_=>none) none
  |_=>none
 | .ptr _,_=>none
 | .ic τ,k=>match a with
  | .rn υ x=>cr υ τ x λy=>k y H [] [] [] []
  |_=>none
 | .lo e,k=>match a with
  | .ref id=>match H id with
   |some (.own e' l)=>cr (.slice e') (.slice e) l λx=>k x (bc H id (some .gone)) [id] [] [] [(id,.lo e)]
   |_=>none
  |_=>none
 | .sp _ _ _,_=>none
def tW:(ms:List AM)→List bk→(Nat→Option aW)→List Nat→ig→ig→List (Nat×AM)→(HP ms→List Nat→ig→ig→List (Nat×AM)→Option α)→Option α
 |[],[],_,rd,uo,uf,io,K=>K () rd uo uf io
 |[m],[a],H,rd,uo,uf,io,K=>oa m a H λx _ xL LO LP HY=>K x (xL++rd) (LO++uo) (LP++uf) (io++HY)
 |m::n::ms,a::qo,H,rd,uo,uf,io,K=>oa m a H λx H' xL LO LP HY=>
  tW (n::ms) qo H' (xL++rd) (LO++uo) (LP++uf) (io++HY) λxs rd uo uf io=>K (x,xs) rd uo uf io
 |_,_,_,_,_,_,_,_=>none
def wW(m:AM)(x:m.den)(id:Nat):bk×ig:=
 match m,x with
 | .v τ,x=>(.val τ x,[])
 | .own e,x=>(.ref id,[(id,some (.own e x))])
 | .io τ,x=>(.val τ x,[])
 | .fn _ _,_=>(.any,[])
 | .ptr τ,x=>(.ic id [],[(id,some (.obj τ x))])
 | .ic _,_=>(.any,[])
 | .lo _,_=>(.any,[])
 | .sp τ n e,x=>match uV τ x n (fun υ y=>cr υ (.slice e) y some),fi τ x n (fun υ' _ k'=>cr (.slice e) υ' [] k') some with
  |some l,some z=>(.Ij τ z n id,[(id,some (.own e l))])
  |_,_=>(.any,[])
def gQ:(ms:List AM)→HP ms→Nat→List (Nat×AM)→List bk×ig×List (Nat×AM)
 |[],_,_,io=>([],[],io)
 |[m],x,id,io=>match m,x,io with
  | .io τ,x,(j,_)::io=>([],[(j,some (.obj τ x))],io)
  | .lo e,x,(j,_)::io=>([],[(j,some (.own e x))],io)
  |m,x,io=>([(wW m x id).1],(wW m x id).2,io)
 |m::n::ms,x,id,io=>match m,x,io with
  | .io τ,x,(j,_)::io=>let r:=gQ (n::ms) x.2 (id+1) io;(r.1,(j,some (.obj τ x.1))::r.2.1,r.2.2)
  | .lo e,x,(j,_)::io=>let r:=gQ (n::ms) x.2 (id+1) io;(r.1,(j,some (.own e x.1))::r.2.1,r.2.2)
  |m,x,io=>let r:=gQ (n::ms) x.2 (id+1) io;((wW m x.1 id).1::r.1,(wW m x.1 id).2++r.2.1,r.2.2)
def Mw:List bk→bk
 |[]=> .any
 |[a]=>a
 |l=> .tup l
def uX(H:Nat→Option aW)(id:Nat):Nat→Bool
 |0=>true
 |n+1=>(match H (id+n)with|none=>true|some _=>false)&&uX H id n
def My(id:Nat):Nat→List Nat
 |0=>[]
 |n+1=>(id+n)::My id n
def fits:List AM→List bk→Bool
 |[],[]=>true
 | .fn f _::ms,.Mr g _::qo=>Nat.beq f g&&fits ms qo
 | .fn _ _::_,_::_=>false
 |_::ms,_::qo=>fits ms qo
 |_,_=>false
def Mz:List pP→List bk→Option pP
 |[],_=>none
 |S::r,qo=>cond (fits S.args qo) (some S) (Mz r qo)
def CQ(E:Env)(f:Nat)(qo:List bk)(id:Nat)(H:Nat→Option aW)(K:fV α):Option α:=
 match Mz (E.Γ f) qo with
 |none=>none
 |some S=>tW S.args qo H [] [] [] [] λx rd uo uf io=>
  (S.run x).bind λy=>
   let r:=gQ S.res y id io
   cond (uX H id S.res.length) (K (Mw r.1) (My id S.res.length++(r.2.1.map (·.1)++rd)) (uo++cond S.quiet [] uf++r.2.1)) none
def yu(a:Option bk)(d:Int)(k:Int→Option α):Option α:=
 match a with
 |none=>k d
 |some a=>wg a λ_ x=>k x
def jO:Option Operand→Bool
 |some (.const (.int _ n))=>decide (n=0)
 |_=>false
def rq(t:Ty)(z:Bool)(a:bk)(lo hi mx:Option bk)(H:Nat→Option aW)(K:fV α):Option α:=
 match t,a with
 | .str,.val .str s=>cond mx.isNone (yu lo 0 λl=>yu hi (ByteArray.size s:Int) λh=>
  cond (jA l h (ByteArray.size s:Int) (ByteArray.size s:Int)) (K (.val .str (ByteArray.extract s l.toNat h.toNat)) [] []) none) none
 | .slice _,.emp=>cond z (K .emp [] []) (cond mx.isNone (yu lo 0 λl=>yu hi 0 λh=>cond (jA l h 0 0) (K .emp [] []) none) none)
 | .slice e,a=>mw (!z) a H (.slice e) λx rd ups=>cond z (K .emp rd [])
  (cond (mx.isNone||hi.isSome) (yu lo 0 λl=>yu hi (ℓ x:Int) λh=>yu mx (ℓ x:Int) λm=>
   cond (jA l h m (ℓ x:Int))
    (K (.val (.slice e) (List.drop l.toNat (List.take h.toNat x))) rd ups) none) none)
 |_,_=>none
def wX(E:Env)(t:Ty)(z:Bool)(a:bk)(lo hi mx:Option bk)(H:Nat→Option aW)(K:fV α):Option α:=
 match E.vw,t,a,lo,hi,mx with
 |true,.slice e,.ref id,some lo,none,none=>wg lo λ_ i=>match H id with
  |some (.own e' l)=>iQ e' e (cond (jA i (ℓ l:Int) (ℓ l:Int) (ℓ l:Int)) (K (.sub id e i.toNat) [id] []) none)
  |_=>none
 |_,t,a,lo,hi,mx=>rq t z a lo hi mx H K
def y4(e:Ty)(a:bk)(H:Nat→Option aW)(K:fV α):Option α:=
 match a with
 | .sub id e' lo=>iQ e' e (match H id with
  |some (.own e2 l)=>cr (.slice e2) (.slice e) l λl=>K .any [id] [(id,some (.own e (List.take lo l++List.replicate (ℓ l-lo) e.zero)))]
  |_=>none)
 |_=>none
def gB(τ:Ty)(a i:bk)(H:Nat→Option aW)(K:fV α):Option α:=
 wg i λ_ i=>
 match τ with
 | .slice e=>match a with
  | .val υ l=>cr υ (.slice e) l λl=>cond (a7 i (ℓ l)) (K (.rn e (γ l i.toNat e.zero)) [] []) none
  | .ref id=>match H id with
   |some (.own e' l)|some (.oN e' l)=>iQ e' e (cond (a7 i (ℓ l)) (K (.ic id [.idx i.toNat]) [id] []) none)
   |_=>none
  |_=>none
 | .arr n e=>match a with
  | .ic id p=>lx id p H fun υ=>iQ υ (.arr n e) (cond (a7 i n) (K (.ic id (p++[.idx i.toNat])) [id] []) none)
  | .rn υ l=>cr υ (.arr n e) l λl=>cond (a7 i n) (K (.rn e (γ l i.toNat e.zero)) [] []) none
  |_=>none
 |_=>none
def wY(τ:Ty)(a i:bk)(K:bk→Option α):Option α:=
 wg i λ_ i=>
 match τ,a with
 | .arr n e,.val υ l=>cr υ (.arr n e) l λl=>cond (a7 i n) (K (.val e (γ l i.toNat e.zero))) none
 | .str,.val .str s=>cond (a7 i (ByteArray.size s)) (K (.val (.int .u8) ((s.data.getD i.toNat 0).toNat:Int))) none
 |_,_=>none
def ln(a:bk)(H:Nat→Option aW)(K:(υ:Ty)→υ.den→List Nat→Option α):Option α:=
 match a with
 | .rn τ x=>K τ x []
 | .ic id p=>match H id with
  |some (.obj τ x)=>Am p τ x fun υ y=>K υ y [id]
  |some (.own e l)|some (.oN e l)=>match p with
   | .idx i::p=>Am p e (γ l i e.zero) fun υ y=>K υ y [id]
   |_=>none
  |_=>none
 |_=>none
def my(τ:Ty)(a v:bk)(H:Nat→Option aW)(K:fV α):Option α:=
 match a with
 | .ic id p=>mw true v H τ λy rd ups=>
  match H id with
  |some (.obj υ x)=>we τ y p υ x λz=>K .any (id::rd) (ups++[(id,some (.obj υ z))])
  |some (.own e l)=>match p with
   | .idx i::p=>cond (rd.contains id) none (we τ y p e (γ l i e.zero) λz=>K .any (id::rd) (ups++[(id,some (.own e (List.set l i z)))]))
   |_=>none
  |_=>none
 |_=>none
def BM(j:Nat)(q:List Step)(τ:Ty)(x:τ.den)(H:Nat→Option aW)(k:τ.den→ig→Option α):Option α:=
 match H j with
 |some (.own e l)=>we (.slice e) l q τ x λz=>k z [(j,some (.oN e l))]
 |some (.oN e l)=>we (.slice e) l q τ x λz=>k z []
 |_=>none
def tX(τ:Ty)(a:bk)(H:Nat→Option aW)(K:fV α):Option α:=
 let yv:=ln a H fun υ y rd=>cr υ τ y λz=>K (.val τ z) rd []
 match a with
 | .ic id p=>match H id with
  |some (.fv υ x q j)=>cond (Ii p q) (cond (eR q υ τ) (K (.ref j) [id] []) none)
   (cond (yq p q) (BM j q υ x H λz ups=>Am p υ z fun υ' y=>cr υ' τ y λy'=>K (.val τ y') [id,j] ups)
    (Am p υ x fun υ' y=>cr υ' τ y λy'=>K (.val τ y') [id] []))
  |_=>yv
 |_=>yv
def yM(τ:Ty)(id k:Nat)(e:Ty)(q:List Step)(υ:Ty)(x:υ.den)(H:Nat→Option aW)(K:fV α):Option α:=
 match H k with
 |some (.own e' _)=>iQ e' e (iQ τ (.slice e) (we (.slice e) [] q υ x λz=>K .any [id,k] [(id,some (.fv υ z q k))]))
 |_=>none
def kj(E:Env)(τ:Ty)(a v:bk)(H:Nat→Option aW)(K:fV α):Option α:=
 let yv:=my τ a v H K
 match a with
 | .ic id p=>match H id with
  |some (.obj υ x)=>match Ik E υ id,v with
   |some (q,e),.ref k=>cond (Ii p q) (yM τ id k e q υ x H K) yv
   |_,_=>yv
  |some (.fv υ x q j)=>
   let put:=mw true v H τ λy rd ups=>we τ y p υ x λz=>K .any (id::rd) (ups++[(id,some (cond (yq p q) (.obj υ z) (.fv υ z q j)))])
   match Ik E υ id,v with
   |some (q',e),.ref k=>cond (Ii p q&&Ii q q') (yM τ id k e q υ x H K) put
   |_,_=>put
  |_=>yv
 |_=>yv
def tj(E:Env)(τ:Ty)(a v:bk)(H:Nat→Option aW)(K:fV α):Option α:=
 match a,v with
 | .ic id [],.Kh υ y n=>match Ik E υ id with
  |some ([.gr m],e)=>cond (Nat.beq m n) (iQ τ υ (lx id [] H fun υ'=>iQ υ' υ
   (qn H (id+2) (.own e []) (K .any [id,id+2] [(id,some (.fv υ y [.gr m] (id+2))),(id+2,some (.own e []))])))) (kj E τ a v H K)
  |_=>kj E τ a v H K
 |_,_=>kj E τ a v H K
def DX(H:Nat→Option aW)(id:Nat)(τ:Ty)(x:τ.den)(q:List Step)(e:Ty)(K:fV α):Option α:=
 qn H id (.obj τ x) (qn H (id+1) (.own e []) (K (.ic id []) [id,id+1] [(id,some (.fv τ x q (id+1))),(id+1,some (.own e []))]))
def Zt(E:Env)(ps:List (Nat×bk))(τ:Ty)(x:τ.den):bk:=match lkT E τ with
 |some ([.gr n],_)=>cond (ps.all λp=> !(Nat.beq p.1 n)) (.Kh τ x n) (.val τ x)
 |_=> .val τ x
def An(E:Env)(τ:Ty)(a:bk)(H:Nat→Option aW)(K:fV α):Option α:=
 match E.sp,a with
 |true,.ic id []=>match H id with
  |some (.fv υ x [.gr n] j)=>cr υ τ x λx=>K (.Ij τ x n j) [id] []
  |_=>tX τ a H λv rd ups=>K v (id::rd) ups
 |_,_=>tX τ a H K
def tk(E:Env)(τ:Ty)(a v:bk)(H:Nat→Option aW)(K:fV α):Option α:=
 match a,v with
 | .ic id [],.Ij υ y n j=>match Ik E υ id with
  |some ([.gr m],e)=>cond (Nat.beq m n) (iQ τ υ (lx id [] H fun υ'=>iQ υ' υ (match H j with
   |some (.own e' _)=>iQ e' e (K .any [id,j] [(id,some (.fv υ y [.gr m] j))])
   |_=>none))) none
  |_=>none
 |_,_=>tj E τ a v H K
def cj(H:Nat→Option aW):ig→(Nat→Option aW)
 |[]=>H
 |u::r=>cj (bc H u.1 u.2) r
def agO(E:Env)(id n:Nat):Bool:=match E.lk with
 |some (_,_,_,ds)=>(ds.any λd=>Nat.beq d (2000000+n))&&ds.any λd=>Nat.beq (id/16) d
 |none=>false
def rr(E:Env)(τ:Ty)(a v:bk)(H:Nat→Option aW)(K:fV α):Option α:=
 match a,v with
 | .ic id [.gr n],.ref k=>cond (agO E id n) (match H id with
  |some (.fv υ x q j)=>cond (Ii q [.gr n]) (tk E τ (.ic id [.gr n]) (.ref k) H λv rd ups=>K v (id::rd) ups) (match yr υ n with
   |some (.slice e)=>BM j q υ x H λz ups=>yM τ id k e [.gr n] υ z (cj H ups) λv rd iR=>K v (j::rd) (ups++iR)
   |_=>none)
  |some (.obj υ x)=>match yr υ n with
   |some (.slice e)=>yM τ id k e [.gr n] υ x H K
   |_=>none
  |_=>none) (tk E τ (.ic id [.gr n]) (.ref k) H K)
 |a,v=>tk E τ a v H K
def Ki(E:Env)(ps:List (Nat×bk))(τ:Ty):Option (Nat×Nat):=match E.sp,lkT E τ with
 |true,some ([.gr n],_)=>match ps.filter λp=>Nat.beq p.1 n with
  |[(_,.ref k)]=>some (n,k)
  |_=>none
 |_,_=>none
def wZ(n:Nat)(ps:List (Nat×bk)):List (Nat×bk):=ps.map λp=>cond (Nat.beq p.1 n) (p.1,.emp) p
def partsOf(σρ:Operand→bk)(ps:Array (Nat×Operand)):List (Nat×bk):=ps.toList.map λp=>(p.1,σρ p.2)
def tI(E:Env)(o:Oper)(ρ:Operand→bk)(H:Nat→Option aW)(K:fV α):Option α:=
 let id:=16*o.dst.getD 0
 match o.op with
 | .move x| .assign x=>K (ρ x) [] []
 | .pick c a b=>match ρ c with
  | .val .bool t=>cond t (K (ρ a) [] []) (K (ρ b) [] [])
  |_=>none
 | .alloc t=>match E.ty t with
  |some τ=>match Ik E τ id with
   |some (q,e)=>DX H id τ τ.zero q e K
   |none=>qn H id (.obj τ τ.zero) (K (.ic id []) [id] [(id,some (.obj τ τ.zero))])
  |none=>none
 | .box t x=>match E.ty t with
  |some τ=>
   let yv:=mw true (ρ x) H τ λy rd ups=>qn H id (.obj τ y) (K (.ic id []) (id::rd) (ups++[(id,some (.obj τ y))]))
   match Ik E τ id,ρ x with
   |some ([.gr m],e),.Kh υ y n=>cond (Nat.beq m n) (cr υ τ y λy=>DX H id τ y [.gr m] e K) yv
   |_,_=>yv
  |none=>none
 | .build t ps=>match E.ty t with
  |some (.arr n e)=>wU e H n (partsOf ρ ps) (List.replicate n e.zero) [] [] λl rd ups=>K (.val (.arr n e) l) rd ups
  |some τ=>match Ki E (partsOf ρ ps) τ with
   |some (n,k)=>match H k with
    |some (.own _ _)=>cond τ.isAgg (ly τ H (wZ n (partsOf ρ ps)) τ.zero [] [] λx rd ups=>K (.Ij τ x n k) (k::rd) ups) none
    |_=>none
   |none=>cond τ.isAgg (ly τ H (partsOf ρ ps) τ.zero [] [] λx rd ups=>K (Zt E (partsOf ρ ps) τ x) rd ups) none
  |none=>none
 | .buildSlice t n ps=>match E.ty t with
  |some (.slice e)=>cond (Nat.ble (n*(e.size+1)) 16777216) (qn H id (.own e []) (wU e H n (partsOf ρ ps) (List.replicate n e.zero) [] [] λl rd ups=>K (.ref id) (id::rd) (ups++[(id,some (.own e l))]))) none
  |_=>none
 | .load t a=>match E.ty t with
  |some τ=>An E τ (ρ a) H K
  |none=>none
 | .store t a v=>match E.ty t with
  |some τ=>rr E τ (ρ a) (ρ v) H K
  |none=>none
 | .nilCheck x=>match ρ x with
  | .ic id p=>K (.ic id p) [] []
  | .rn τ x=>K (.rn τ x) [] []
  |_=>none
 | .binOp op t x y _=>Mt (ρ x) fun τ x=>Mt (ρ y) fun υ y=>FG (E.ty t) op τ x υ y λv=>K v [] []
 | .unOp op _ x=>Tj op (ρ x) λv=>K v [] []
 | .convert src dst x=>match E.ty src,E.ty dst with
  |some _,some (.int k)=>wg (ρ x) λ_ n=>K (.val (.int k) (W k n)) [] []
  |_,_=>none
 | .makeFunc (.func f) first caps=>cond first.isEmpty (wV H (caps.toList.map ρ) λcs rd ups=>K (.Mr f cs) rd ups) none
 | .makeSlice t l c=>match E.ty t with
  |some (.slice e)=>wg (ρ l) λ_ l=>wg (ρ c) λ_ c=>cond (iP l c)
    (qn H id (.own e []) (K (.ref id) [id] [(id,some (.own e (List.replicate l.toNat e.zero)))])) none
  |_=>none
 | .slice t x lo hi mx=>match E.ty t with
  |some τ=>wX E τ (lo.isNone&&jO hi&&jO mx) (ρ x) (lo.map ρ) (hi.map ρ) (mx.map ρ) H K
  |none=>none
 | .fieldAddr t x n=>match E.ty t with
  |some τ=>match ρ x with
   | .ic id p=>lx id p H fun υ=>iQ υ τ (uV τ τ.zero n fun υ' _=>cond (Nat.beq υ'.size 0) none (K (.ic id (p++[.gr n])) [id] []))
   | .rn υ x=>iQ υ τ (uV υ x n fun υ y=>cond (Nat.beq υ.size 0) none (K (.rn υ y) [] []))
   |_=>none
  |none=>none
 | .field t x n=>match E.ty t with
  |some τ=>match ρ x with
   | .val υ x=>iQ υ τ (uV υ x n fun υ y=>K (.val υ y) [] [])
   |_=>none
  |none=>none
 | .indexAddr t x i=>match E.ty t with
  |some τ=>gB τ (ρ x) (ρ i) H K
  |none=>none
 | .index t x i=>match E.ty t with
  |some τ=>wY τ (ρ x) (ρ i) λv=>K v [] []
  |none=>none
 | .extract t i=>match ρ t with
  | .tup vs=>match vs[i]? with
   |some v=>K v [] []
   |none=>none
  |_=>none
 | .call c=>match c.callee with
  | .builtin .len=>match c.args.toList,(c.argTypes.toList.head?).bind E.ty with
   |[x],some τ=>Mu τ (ρ x) H K
   |_,_=>none
  | .builtin .append=>match c.args.toList,c.argTypes.toList with
   |[x,y],[t,t']=>match E.ty t with
    |some (.slice e)=>cond (Nat.beq t t') (qn H id (.own e []) (Mv id e (ρ x) (ρ y) H K)) none
    |_=>none
   |_,_=>none
  | .builtin .clear=>match c.args.toList,c.argTypes.toList with
   |[x],[t]=>match E.ty t with
    |some (.slice e)=>y4 e (ρ x) H K
    |_=>none
   |_,_=>none
  | .builtin .max=>match c.args.toList with
   |x::r=>Y1 true (ρ x) (r.map ρ) λv=>K v [] []
   |_=>none
  | .builtin .min=>match c.args.toList with
   |x::r=>Y1 false (ρ x) (r.map ρ) λv=>K v [] []
   |_=>none
  | .value g=>match ρ g with
   | .Mr f caps=>CQ E f (c.args.toList.map ρ++caps) id H K
   |_=>none
  |_=>none
 |_=>none
def Tk(E:Env)(o:Oper)(ρ:Operand→bk)(H:Nat→Option aW):Option (Bool×bk×ig):=
 let d:=o.dst.getD 0
 match o.op with
 | .makeSlice t x y=>match cond (Ti E 3000000 d) (E.ty t) none,ρ x,ρ y,H (16*d),H 7 with
  |some (.slice (.slice e)),.val (.int _) l,.val (.int _) n,none,none=>cond e.flat (some (iP l n,.ref (16*d),[(16*d,some (.eU e (List.replicate l.toNat []) none)),(7,some .gone)])) none
  |_,_,_,_,_=>none
 | .call c=>match c.callee,c.args.toList,(c.argTypes.toList.head?).bind E.ty with
  | .builtin .len,[x],some (.slice _)=>match ρ x with
   | .ref id=>match H id with
    |some (.eU _ l _)=>some (true,.val (.int .i64) (l.length:Int),[])
    |_=>none
   |_=>none
  |_,_,_=>none
 | .indexAddr t x i=>match E.ty t,ρ x,ρ i with
  |some (.slice (.slice e')),.ref id,.val (.int _) n=>match H id with
   |some (.eU e l _)=>cond (decide (e'=e)) (some (a7 n l.length,.ic id [.idx n.toNat],[])) none
   |_=>none
  |_,_,_=>none
 | .load t x=>match E.ty t,ρ x with
  |some (.slice e'),.ic id [.idx n]=>match H id,H (16*d)with
   |some (.eU e l none),none=>cond (decide (e'=e)) (some (true,.ref (16*d),[(16*d,some (.own e (l.getD n []))),(id,some (.eU e l (some n)))])) none
   |_,_=>none
  |_,_=>none
 | .store t x y=>match E.ty t,ρ x,ρ y with
  |some (.slice e'),.ic id [.idx n],.ref j=>match H id,H j with
   |some (.eU e l (some n')),some (.own e2 l')=>if h:e2=e then cond (decide (e'=e)) (some (aM n n',.any,[(j,some .gone),(id,some (.eU e (l.set n (h▸l')) none))])) none else none
   |_,_=>none
  |_,_,_=>none
 | .move x=>match cond (Ti E 4000000 d) (ρ x) .any with
  | .ref id=>match H id with
   |some (.eU e l none)=>some (true,.val (.slice (.slice e)) l,[(id,some .gone)])
   |_=>none
  |_=>none
 |_=>none
def DY:bk→List Nat
 | .ref id=>[id]
 | .ic id _=>[id]
 |_=>[]
def Qh(E:Env)(o:Oper)(ρ:Operand→bk):List Nat:=match o.op with
 | .makeSlice _ _ _=>[16*o.dst.getD 0,7]
 | .call c=>match c.callee,c.args.toList with
  | .builtin .len,[x]=>DY (ρ x)
  |_,_=>[]
 | .indexAddr _ x _=>DY (ρ x)
 | .load _ x=>16*o.dst.getD 0::DY (ρ x)
 | .store _ x y=>DY (ρ x)++DY (ρ y)
 | .move x=>cond (Ti E 4000000 (o.dst.getD 0)) (DY (ρ x)) []
 |_=>[]
def VG(ups:ig):Bool:=ups.all λu=>match u.2 with
 |some (.eU _ _ _)=>false
 |_=>true
def Vm(E:Env)(o:Oper)(ρ:Operand→bk)(H:Nat→Option aW)(K:fV α):Option α:=
 cond E.eU (match Tk E o ρ H with
  |some u=>cond u.1 (K u.2.1 (Qh E o ρ) u.2.2) none
  |none=>tI E o ρ H λv rd ups=>cond (VG ups) (K v (Qh E o ρ++rd) ups) none) (tI E o ρ H K)
def tY(E:Env)(ops:List Oper)(o:Oper)(σ:St)(K:St→List Nat→List Nat→Option α):Option α:=
 let run (σ:St):Option α:=Vm E o σ.ρ σ.H λv rd ups=>K ((σ.wS ups).wc o.dst v) rd (ups.map (·.1))
 cond (Ms E.nt E.io o.dst) (match o.guard with
 |none=>run σ
 |some (j,want)=>match(ops[j]?).bind (·.dst)with
  |none=>none
  |some t=>match σ.T t with
   | .val .bool b=>match want with
    |true=>cond b (run (σ.put t (.val .bool true))) (K ((σ.put t (.val .bool false)).wc o.dst .VF) [] [])
    |false=>cond b (K ((σ.put t (.val .bool true)).wc o.dst .VF) [] []) (run (σ.put t (.val .bool false)))
   | .VF=>K (σ.wc o.dst .VF) [] []
   |_=>none) none
abbrev Log:=List (Nat×List Nat×List Nat)
def Tl(E:Env)(ops:List Oper):List Oper→Nat→St→Log→(St→Log→Option α)→Option α
 |[],_,σ,lg,K=>K σ lg
 |o::r,i,σ,lg,K=>tY E ops o σ fun σ' rd wr=>Tl E ops r (i+1) σ' ((i,rd,wr)::lg) K
def tp:List Oper→List Nat→List Nat
 |[],acc=>acc
 |o::r,acc=>tp r (acc++[o.after.toList.foldl (λs e=>cond (Region.binds .any e) (s|||2^e.on|||acc.getD e.on 0) s) 0])
def names(ops:List Oper)(o:Oper):List Nat:=
 (o.op.operands.toList.filterMap fun| .tmp t=>some t|_=>none)++
 (match o.guard with
  |some (g,_)=>((ops[g]?).bind (·.dst)).toList
  |none=>[])
def meets(a b:List Nat):Bool:=a.any λx=>b.any λy=>Nat.beq x y
def VH(ops:List Oper):Bool:=
 let b:=tp ops []
 (ops.zipIdx.all λ(o,j)=>o.after.toList.all λe=> !(Region.binds .any e)||Nat.blt e.on j)&&
 ops.zipIdx.all λ(o,j)=>ops.zipIdx.all λ(p,i)=>Nat.ble j i||(b.getD j 0).testBit i||
  !(meets p.dst.toList (o.dst.toList++names ops o)||meets o.dst.toList (names ops p))
def afp(ops:List Oper)(lg:Log):Bool:=
 let b:=tp ops []
 lg.all λx=>lg.all λy=>Nat.ble x.1 y.1||(b.getD x.1 0).testBit y.1||
  !(meets y.2.2 (x.2.1++x.2.2)||meets y.2.1 x.2.2)
def EA(E:Env)(ops:Array Oper)(draw:Bool)(σ:St)(K:St→Option α):Option α:=
 Tl E ops.toList ops.toList 0 σ [] fun σ' lg=>cond (!draw||(VH ops.toList&&afp ops.toList lg)) (K σ') none
def gC:List (Nat×CM)→St→St→(St→Option α)→Option α
 |[],_,acc,K=>K acc
 |(s,.v τ)::r,σ,acc,K=>mw true (σ.T s) σ.H τ λx _ ups=>gC r (σ.wS ups) (acc.put s (.val τ x)) K
 |(s,.own e)::r,σ,acc,K=>match σ.T s with
  | .emp=>gC r σ ((acc.put s (.ref (16*s+14))).ik (16*s+14) (some (.own e []))) K
  | .ref id=>match σ.H id with
   |some (.own e' l)=>cr (.slice e') (.slice e) l λx=>gC r (σ.ik id (some .gone)) ((acc.put s (.ref (16*s+14))).ik (16*s+14) (some (.own e x))) K
   |_=>none
  |_=>none
 |(s,.obj τ)::r,σ,acc,K=>match σ.T s with
  | .ic id []=>match σ.H id with
   |some (.obj υ x)=>cr υ τ x λy=>gC r (σ.ik id (some .gone)) ((acc.put s (.ic (16*s+14) [])).ik (16*s+14) (some (.obj τ y))) K
   |some (.fv υ x q j)=>BM j q υ x σ.H λz ups=>cr υ τ z λy=>gC r ((σ.wS ups).ik id (some .gone)) ((acc.put s (.ic (16*s+14) [])).ik (16*s+14) (some (.obj τ y))) K
   |_=>none
  |_=>none
 |(s,.fv τ q e)::r,σ,acc,K=>match σ.T s with
  | .ic id []=>match σ.H id with
   |some (.fv υ x q' j)=>cond (Ii q q') (match σ.H j with
    |some (.own e' l)=>cr υ τ x λy=>cr (.slice e') (.slice e) l λl=>gC r ((σ.ik j (some .gone)).ik id (some .gone))
     (((acc.put s (.ic (16*s+14) [])).ik (16*s+13) (some (.own e l))).ik (16*s+14) (some (.fv τ y q (16*s+13)))) K
    |_=>none) none
   |_=>none
  |_=>none
 |(s,.same s')::r,σ,acc,K=>match σ.T s,σ.T s',acc.T s' with
  | .ref i,.ref j,.ref j'=>cond (Nat.beq i j) (gC r σ (acc.put s (.ref j')) K) none
  |_,_,_=>none
 |(s,.io τ)::r,σ,acc,K=>match σ.T s with
  | .ic id []=>cond (Nat.beq id (16*s+15)) (match σ.H id with
   |some (.obj υ x)=>cr υ τ x λy=>gC r (σ.ik id (some .gone)) ((acc.put s (.ic (16*s+15) [])).ik (16*s+15) (some (.obj τ y))) K
   |_=>none) none
  |_=>none
 |(s,.fn f τ)::r,σ,acc,K=>match σ.T s with
  | .Mr f' c=>cond (Nat.beq f f') (rp σ.H τ c λx _ ups=>match ups with
   |[]=>gC r σ (acc.put s (.Mr f (p7 τ x))) K
   |_=>none) none
  |_=>none
 |(s,.eU e)::r,σ,acc,K=>match σ.T s with
  | .ref id=>match σ.H id with
   |some (.eU e' l none)=>cr (.slice (.slice e')) (.slice (.slice e)) l λl=>qn acc.H 7 .gone (gC r (σ.ik id (some .gone)) (((acc.put s (.ref (16*s+14))).ik (16*s+14) (some (.eU e l none))).ik 7 (some .gone)) K)
   |_=>none
  |_=>none
def kk:List (Nat×CM)→Bool
 |[]=>true
 |q::r=>r.all (λp=> !(Nat.beq p.1 q.1))&&kk r
def w3(L:Option (List (Nat×CM)))(σ:St)(K:St→Option α):Option α:=
 match L with
 |none=>K σ
 |some L=>gC L σ ⟨λ_=> .any,λ_=>none⟩ K
def CR(L:Option (List (Nat×CM)))(step:St→(St→Option α)→Option α):Nat→St→Option α
 |0,_=>none
 |n+1,σ=>step σ fun σ'=>w3 L σ' (CR L step n)
def cI:Code→Option Nat
 | .region id _ _=>some id
 | .seq a b=>match cI a with
  |some i=>some i
  |none=>cI b
 | .block _ c| .loop c| .scope c=>cI c
 |_=>none
def I3(E:Env)(c:Operand)(σ:St)(A B:St→Option α):Option α:=
 match σ.ρ c with
 | .val .bool b=>match c with
  | .tmp t=>cond b (A (σ.put t (.val .bool true))) (B (σ.put t (.val .bool false)))
  |_=>cond b (A σ) (B σ)
 |_=>none
def EB(E:Env)(c:Code):St→(St→Option α)→(Nat→St→Option α)→(St→Option α)→Option α:=
 Code.rec (motive:=λ_=>St→(St→Option α)→(Nat→St→Option α)→(St→Option α)→Option α)
  (fun σ k _ _=>k σ)
  (λ_ ops draw σ k _ _=>EA E ops draw σ k)
  (λ_ b A B σ k kx kr=>A σ (fun σ'=>w3 ((cI b).bind E.yt) σ' fun σ''=>B σ'' k kx kr) kx kr)
  (λc _ _ A B σ k kx kr=>I3 E c σ (fun σ'=>A σ' k kx kr) (fun σ'=>B σ' k kx kr))
  (λid _ A σ k kx kr=>A σ k (λi σ'=>cond (Nat.beq i id) (k σ') (kx i σ')) kr)
  (λb A σ _ kx kr=>w3 ((cI b).bind E.wT) σ (CR ((cI b).bind E.wT) (fun σ' kn=>A σ' kn kx kr) E.N))
  (λ_ _ _ _ _ _ _ _ _ _=>none)
  (λid σ _ kx _=>kx id σ)
  (λ_ A σ k kx kr=>A σ k kx kr)
  (λ_ σ k _ _=>k σ)
  (λ_ _ _ _ _=>none)
  (fun σ _ _ kr=>kr σ)
  (λ_ _ _ _ _=>none)
  c
def wh(E:Env):List Nat→Code→List (St→Option α)→St→(St→Option α)→(Nat→St→Option α)→(St→Option α)→Option α
 |[],c,_,σ,k,kx,kr=>EB E c σ k kx kr
 |n::p,c,ks,σ,k,kx,kr=>match c with
  | .seq a b=>match n with
   |0=>wh E p a ks σ (fun σ'=>w3 ((cI b).bind E.yt) σ' fun σ''=>EB E b σ'' k kx kr) kx kr
   |_=>wh E p b ks σ k kx kr
  | .cond _ a b=>match n with
   |0=>wh E p a ks σ k kx kr
   |_=>wh E p b ks σ k kx kr
  | .block id c=>wh E p c ks σ k (λi σ'=>cond (Nat.beq i id) (k σ') (kx i σ')) kr
  | .loop b=>match ks with
   |κ::ks=>wh E p b ks σ κ kx kr
   |[]=>none
  | .scope c=>wh E p c ks σ k kx kr
  |_=>none
def BN(m:AM)(x:m.den)(i:Nat)(σ:St):St:=
 match m,x with
 | .v τ,x=>σ.put i (.val τ x)
 | .own e,x=>(σ.put i (.ref (16*i+15))).ik (16*i+15) (some (.own e x))
 | .io τ,x=>(σ.put i (.ic (16*i+15) [])).ik (16*i+15) (some (.obj τ x))
 | .fn f τ,x=>σ.put i (.Mr f (p7 τ x))
 | .ptr _,_=>σ
 | .ic τ,x=>σ.put i (.rn τ x)
 | .lo e,x=>(σ.put i (.ref (16*i+15))).ik (16*i+15) (some (.own e x))
 | .sp _ _ _,_=>σ
def entry:(ms:List AM)→HP ms→Nat→St→St
 |[],_,_,σ=>σ
 |[m],x,i,σ=>BN m x i σ
 |m::n::ms,x,i,σ=>entry (n::ms) x.2 (i+1) (BN m x.1 i σ)
def I4(E:Env)(m:AM)(r:ResultVar ⊕ Nat)(σ:St)(K:m.den→St→Option α):Option α:=
 match m,r,K with
 | .v τ,.inl (.tmp t),K=>mw true (σ.T t) σ.H τ λx _ ups=>K x (σ.wS ups)
 | .v τ,.inl (.cell a t),K=>match E.ty t with
  |some τ'=>iQ τ' τ (ln (σ.T a) σ.H fun υ y _=>cr υ τ y λx=>K x σ)
  |none=>none
 | .own e,.inl (.tmp t),K=>match σ.T t with
  | .emp=>K [] σ
  | .ref id=>match σ.H id with
   |some (.own e' l)=>cr (.slice e') (.slice e) l λx=>K x (σ.ik id (some .gone))
   |_=>none
  |_=>none
 | .io τ,.inr i,K=>match σ.T i with
  | .ic id []=>match σ.H id with
   |some (.obj υ x)=>cr υ τ x λy=>K y (σ.ik id (some .gone))
   |_=>none
  |_=>none
 | .lo e,.inr i,K=>match σ.T i with
  | .ref id=>match σ.H id with
   |some (.own e' l)=>cr (.slice e') (.slice e) l λx=>K x (σ.ik id (some .gone))
   |_=>none
  |_=>none
 | .ptr τ,.inl (.tmp t),K=>match σ.T t with
  | .ic id []=>match σ.H id with
   |some (.obj υ x)=>cr υ τ x λy=>K y (σ.ik id (some .gone))
   |_=>none
  |_=>none
 | .sp τ n e,.inl (.cell a t),K=>match E.ty t,σ.T a with
  |some τ',.ic id []=>iQ τ' τ (match σ.H id with
   |some (.fv υ x q j)=>cond (Ii q [.gr n]) (cr υ τ x λx=>match σ.H j with
    |some (.own e' l)=>cr (.slice e') (.slice e) l λl=>fi τ x n (fun υ' _ k'=>cr (.slice e) υ' l k') λz=>K z (σ.ik j (some .gone))
    |_=>none) none
   |_=>none)
  |_,_=>none
 |_,_,_=>none
def Kj(E:Env):(ms:List AM)→List (ResultVar ⊕ Nat)→St→(HP ms→Option α)→Option α
 |[],[],_,K=>K ()
 |[m],[r],σ,K=>I4 E m r σ λx _=>K x
 |m::n::ms,r::rs,σ,K=>I4 E m r σ λx σ'=>Kj E (n::ms) rs σ' λxs=>K (x,xs)
 |_,_,_,_=>none
def yw:List AM→Nat→List (ResultVar ⊕ Nat)
 |[],_=>[]
 | .io _::ms,i=> .inr i::yw ms (i+1)
 | .lo _::ms,i=> .inr i::yw ms (i+1)
 |_::ms,i=>yw ms (i+1)
def Kk(E:Env)(fn:Func)(args res:List AM)(x:HP args):Option (HP res):=
 match fn.body with
 |none=>none
 |some c=>
  let kr:St→Option (HP res):=fun σ=>Kj E res (fn.results.toList.map .inl++yw args 0) σ some
  EB E c (entry args x 0 ⟨λ_=> .any,λ_=>none⟩) kr (λ_ _=>none) kr
end
end VM
end
section
namespace VM
open Go
def sQ(N:Nat)(x y c:Int):Option (Int×Int):=if 0≤x∧0≤y∧0≤c∧c≤1 then some ((x+y+c)%18446744073709551616,(x+y+c)/18446744073709551616)else none
def sR(N:Nat)(x y c:Int):Option (Int×Int):=if 0≤x∧x<18446744073709551616∧0≤y∧y<18446744073709551616∧0≤c∧c≤1 then some ((x+18446744073709551616-y-c)%18446744073709551616,if x<y+c then 1 else 0)else none
def uY{α:Type}(N:Nat)(l:List α)(i:Int)(v:List α):Option (List α):=if 0≤i∧i≤l.length∧v.length=1∧l.length+1<Al then some (l.take i.toNat++(v++l.drop i.toNat))else none
def Ao{α:Type}(N:Nat)(l:List α)(n:Int):Option (List α):=match l with
 |[x]=>if 0<n∧n<1048576 then some (List.replicate n.toNat x)else none
 |_=>none
def sQ.S(N:Nat):pP:={args:=[.v (.int .u64),.v (.int .u64),.v (.int .u64)],res:=[.v (.int .u64),.v (.int .u64)],quiet:=true,run:=λx=>sQ N x.1 x.2.1 x.2.2}
def sR.S(N:Nat):pP:={args:=[.v (.int .u64),.v (.int .u64),.v (.int .u64)],res:=[.v (.int .u64),.v (.int .u64)],quiet:=true,run:=λx=>sR N x.1 x.2.1 x.2.2}
def nn(e:Ty)(N:Nat):pP:={args:=[.own e,.v (.int .i64),.own e],res:=[.own e],quiet:=false,run:=λx=>uY N x.1 x.2.1 x.2.2}
def EC(e:Ty)(N:Nat):pP:={args:=[.v (.slice e),.v (.int .i64)],res:=[.own e],quiet:=false,run:=λx=>Ao N x.1 x.2}
def agP{α:Type}(N:Nat)(l:List α):Option (List α):=if l.length<Al then some l else none
def arI(e:Ty)(N:Nat):pP:={args:=[.v (.slice e)],res:=[.own e],quiet:=false,run:=λx=>agP N x}
end VM
namespace VM
abbrev ct:Int×Int×Unit:=((0:Int),((0:Int),()))
abbrev bM:List (Int×Int×Unit):=[]
abbrev bW:Int×Int×Int×Unit:=((0:Int),((0:Int),((0:Int),())))
abbrev cf:List (Int×Int×Int×Unit):=[]
abbrev aQ:Int×Int×Int×Int×Unit:=((0:Int),((0:Int),((0:Int),((0:Int),()))))
abbrev dh:List (Int×Int×Int×Int×Unit):=[]
abbrev np:Int×Int×Int×Int×Int×Unit:=((0:Int),((0:Int),((0:Int),((0:Int),((0:Int),())))))
abbrev ED:List (Int×Int×Int×Int×Int×Unit):=[]
abbrev fu:Int×Int×Int×Int×Int×Int×Unit:=((0:Int),((0:Int),((0:Int),((0:Int),((0:Int),((0:Int),()))))))
abbrev eu:List (Int×Int×Int×Int×Int×Int×Unit):=[]
abbrev zz7:Int×Int×Int×Int×Int×Int×Int×Unit:=((0:Int),((0:Int),((0:Int),((0:Int),((0:Int),((0:Int),((0:Int),())))))))
abbrev ee7:List (Int×Int×Int×Int×Int×Int×Int×Unit):=[]
abbrev zz8:Int×Int×Int×Int×Int×Int×Int×Int×Unit:=((0:Int),((0:Int),((0:Int),((0:Int),((0:Int),((0:Int),((0:Int),((0:Int),()))))))))
abbrev ee8:List (Int×Int×Int×Int×Int×Int×Int×Int×Unit):=[]
abbrev dW:List Int:=[]
abbrev pQ:List Int×Unit:=(dW,())
end VM
end
section
namespace VM
open Go
def At(w:World)(b off:Nat)(cs:List Value):Prop:= ∀j v,cs[j]? =some v→w.cell? ⟨b,off+j,none⟩=some v
def Rd(w:World)(M:Nat→Prop):(τ:Ty)→List Value→τ.den→Prop
 | .int k,cs,x=>cs=[.int k x]
 | .bool,cs,x=>cs=[.bool x]
 | .str,cs,x=>cs=[.string x]
 | .slice e,cs,x=> ∃a cap,cs=[.slice a (ℓ x) cap]∧ℓ x≤cap∧
  ∀i (h:i<ℓ x),∃b off,a=some ⟨b,off,none⟩∧b<w.heap.size∧ ¬M b∧ ∃cs',At w b (off+i*e.size) cs'∧Rd w M e cs' (List.get x ⟨i,h⟩)
 | .unit,cs,_=>cs=[]
 | .pair a b,cs,x=> ∃c1 c2,cs=c1++c2∧Rd w M a c1 x.1∧Rd w M b c2 x.2
 | .arr n e,cs,x=>ℓ x=n∧ ∃Tm:List (List Value),Tm.length=n∧cs=Tm.flatten∧
  ∀i (h:i<ℓ x) (h':i<Tm.length),Rd w M e Tm[i] (List.get x ⟨i,h⟩)
theorem pb{α:Type}(n:Nat): ∀(l:List (List α)),(∀i (h:i<l.length),l[i].length=n)→l.flatten.length=l.length*n
 |[],_=>by simp
 |a::l,h=>by
  have h0:=h 0 (by simp)
  have ih:=pb n l (λi hi=>h (i+1) (by simp;omega))
  simp only[zL]at h0
  simp only[zW,aX,aU,ih,h0,dR]
  omega
theorem Rd.length{w:World}{M:Nat→Prop}: ∀{τ:Ty} {cs:List Value} {x:τ.den},Rd w M τ cs x→cs.length=τ.size
 | .int _,_,_,h=>by simp only[Rd]at h;subst h;rfl
 | .bool,_,_,h=>by simp only[Rd]at h;subst h;rfl
 | .str,_,_,h=>by simp only[Rd]at h;subst h;rfl
 | .slice _,_,_,h=>by simp only[Rd]at h;obtain⟨a,cap,rfl,_⟩:=h;rfl
 | .unit,_,_,h=>by simp only[Rd]at h;subst h;rfl
 | .pair a b,_,_,h=>by
  simp only[Rd]at h
  obtain⟨c1,c2,rfl,h1,h2⟩:=h
  rw[aX,h1.length,h2.length];rfl
 | .arr n e,_,x,h=>by
  simp only[Rd]at h
  obtain⟨hn,Tm,hc,rfl,hr⟩:=h
  rw[pb e.size Tm (λi hi=>(hr i ω hi).length),hc];rfl
structure dP(w:World)(M:Nat→Prop)(w':World)(M':Nat→Prop):Prop where
 size:w.heap.size≤w'.heap.size
 block: ∀b,b<w.heap.size→ ¬M b→w'.heap[b]? =w.heap[b]?
 less: ∀b,b<w.heap.size→M' b→M b
theorem Qi{w:World}{b o:Nat}{v:Value}(h:w.cell? ⟨b,o,none⟩=some v):b<w.heap.size:=by
 simp only[World.cell?]at h
 rcases lJ b w.heap.size with hb|hb
 ·exact hb
 ·simp[Mk hb]at h
theorem At.bG{w w':World}{b off:Nat}{cs:List Value}(h:At w b off cs)(hb:w'.heap[b]? =w.heap[b]?):At w' b off cs:=by
 intro j v hj
 have:=h j v hj
 rw[World.cell?_of_block (w:=w) hb]
 exact this
theorem At.append{w:World}{b off:Nat}{c1 c2:List Value}:At w b off (c1++c2)↔At w b off c1∧At w b (off+c1.length) c2:=by
 constructor
 ·intro h
  refine⟨λj v hj=>h j v (by rw[qj];exact hj;exact(sN.1 hj).1),λj v hj=> ?_⟩
  have:=h (c1.length+j) v (by rw[oJ ω];simpa using hj)
  rw[o6];exact this
 ·rintro⟨h1,h2⟩ j v hj
  by_cases dU:j<c1.length
  ·rw[qj dU]at hj;exact h1 j v hj
  ·rw[oJ ω]at hj
   have:=h2 (j-c1.length) v hj
   rwa [show off+c1.length+(j-c1.length)=off+j from by omega]at this
theorem Rd.bG{w w':World}{M M':Nat→Prop}(k:dP w M w' M'): ∀{τ:Ty} {cs:List Value} {x:τ.den},Rd w M τ cs x→Rd w' M' τ cs x
 | .int _,_,_,h=>h
 | .bool,_,_,h=>h
 | .str,_,_,h=>h
 | .slice e,_,x,h=>by
  simp only[Rd]at h ⊢
  obtain⟨a,cap,rfl,hc,hr⟩:=h
  refine⟨a,cap,rfl,hc,λi hi=> ?_⟩
  obtain⟨b,off,ha,hb,hm,cs',oO,kd⟩:=hr i hi
  exact⟨b,off,ha,kQ hb k.size,λh'=>hm (k.less b hb h'),_,oO.bG (k.block b hb hm),kd.bG k⟩
 | .unit,_,_,h=>h
 | .pair a b,_,_,h=>by
  simp only[Rd]at h ⊢
  obtain⟨c1,c2,rfl,h1,h2⟩:=h
  exact⟨c1,c2,rfl,h1.bG k,h2.bG k⟩
 | .arr n e,_,x,h=>by
  simp only[Rd]at h ⊢
  obtain⟨hn,Tm,hc,rfl,hr⟩:=h
  exact⟨hn,Tm,hc,rfl,λi hi mz=>(hr i hi mz).bG k⟩
theorem dP.refl(w:World)(M:Nat→Prop):dP w M w M:=⟨aI _,λ_ _ _=>rfl,λ_ _ h=>h⟩
theorem dP.trans{w w' w'':World}{M M' I5:Nat→Prop}(h:dP w M w' M')(k:dP w' M' w'' I5):dP w M w'' I5:=
 ⟨ca h.size k.size,λb hb hm=>(k.block b (kQ hb h.size) (λh'=>hm (h.less b hb h'))).trans (h.block b hb hm),
  λb hb hm=>h.less b hb (k.less b (kQ hb h.size) hm)⟩
def V(w:World)(M:Nat→Prop)(τ:Ty)(v:Value)(x:τ.den):Prop:=
 if τ.isAgg then ∃cs,v= .agg cs∧Rd w M τ cs.toList x else Rd w M τ [v] x
theorem V.bG{w w':World}{M M':Nat→Prop}(k:dP w M w' M'){τ:Ty}{v:Value}{x:τ.den}(h:V w M τ v x):V w' M' τ v x:=by
 unfold V at*
 split
 ·rename_i ha;rw[ak ha]at h;obtain⟨cs,rfl,h⟩:=h;exact⟨cs,rfl,h.bG k⟩
 ·rename_i ha;rw[ah ha]at h;exact h.bG k
theorem Rd.scalar{w:World}{M:Nat→Prop}{τ:Ty}{cs:List Value}{x:τ.den}(ha:τ.isAgg=false)(h:Rd w M τ cs x): ∃v,cs=[v]∧v.cells= #[v]:=by
 cases τ<;>simp only[Ty.isAgg,Bool.true_eq_false]at ha<;>simp only[Rd]at h
 ·exact⟨_,h,rfl⟩
 ·exact⟨_,h,rfl⟩
 ·exact⟨_,h,rfl⟩
 ·obtain⟨a,cap,rfl,_⟩:=h;exact⟨_,rfl,rfl⟩
theorem V.cells{w:World}{M:Nat→Prop}{τ:Ty}{v:Value}{x:τ.den}(h:V w M τ v x):Rd w M τ v.cells.toList x:=by
 unfold V at h
 by_cases ha:τ.isAgg=true
 ·rw[ak ha]at h;obtain⟨cs,rfl,h⟩:=h;exact h
 ·rw[ah ha]at h
  obtain⟨v',hv,hc⟩:=h.scalar (by simpa using ha)
  simp only[eN,eA]at hv
  subst hv
  rw[hc];exact h
def bD(τ:Ty)(cs:List Value):Value:=if τ.isAgg then .agg cs.toArray else cs.headD (.tuple #[])
theorem V.bD{w:World}{M:Nat→Prop}{τ:Ty}{cs:List Value}{x:τ.den}(h:Rd w M τ cs x):V w M τ (bD τ cs) x:=by
 unfold V VM.bD
 by_cases ha:τ.isAgg=true
 ·rw[ak ha,ak ha];exact⟨_,rfl,by simpa using h⟩
 ·rw[ah ha,ah ha]
  obtain⟨v',rfl,_⟩:=h.scalar (by simpa using ha)
  exact h
theorem Il{w:World}{M:Nat→Prop}{τ:Ty}{cs:List Value}{x:τ.den}(h:Rd w M τ cs x):(bD τ cs).cells.toList=cs:=by
 unfold VM.bD
 by_cases ha:τ.isAgg=true
 ·rw[ak ha];simp[Value.cells]
 ·rw[ah ha]
  obtain⟨v',rfl,hc⟩:=h.scalar (by simpa using ha)
  simp[hc]
theorem Rd.kS{w:World}{M:Nat→Prop}: ∀{τ:Ty} {cs:List Value} {x:τ.den},Rd w M τ cs x→ ∀v∈cs,v.oneCell'=true
 | .int _,_,_,h=>by simp only[Rd]at h;subst h;simp[Value.oneCell']
 | .bool,_,_,h=>by simp only[Rd]at h;subst h;simp[Value.oneCell']
 | .str,_,_,h=>by simp only[Rd]at h;subst h;simp[Value.oneCell']
 | .slice _,_,_,h=>by simp only[Rd]at h;obtain⟨a,cap,rfl,_⟩:=h;simp[Value.oneCell']
 | .unit,_,_,h=>by simp only[Rd]at h;subst h;simp
 | .pair a b,_,_,h=>by
  simp only[Rd]at h
  obtain⟨c1,c2,rfl,h1,h2⟩:=h
  intro v hv
  rcases bf.1 hv with hv|hv
  ·exact h1.kS v hv
  ·exact h2.kS v hv
 | .arr n e,_,x,h=>by
  simp only[Rd]at h
  obtain⟨hn,Tm,hc,rfl,hr⟩:=h
  intro v hv
  obtain⟨l,hl,hvl⟩:=List.mem_flatten.1 hv
  obtain⟨i,hi,rfl⟩:=qX.1 hl
  exact(hr i ω hi).kS v hvl
def Ty.bS:Ty→List Value
 | .int k=>[.int k 0]
 | .bool=>[.bool false]
 | .str=>[.string ByteArray.empty]
 | .slice _=>[.slice none 0 0]
 | .unit=>[]
 | .pair a b=>a.bS++b.bS
 | .arr n e=>(List.replicate n e.bS).flatten
theorem Rd.zero(w:World)(M:Nat→Prop): ∀(τ:Ty),Rd w M τ τ.bS τ.zero
 | .int _| .bool| .str| .unit=>by simp[Rd,Ty.bS,Ty.zero]
 | .slice _=>by
  simp only[Rd,Ty.bS,Ty.zero]
  exact⟨none,0,rfl,aI _,λi h=>absurd h (by simp)⟩
 | .pair a b=>by
  simp only[Rd,Ty.bS,Ty.zero]
  exact⟨_,_,rfl,Rd.zero w M a,Rd.zero w M b⟩
 | .arr n e=>by
  simp only[Rd,Ty.bS,Ty.zero]
  refine⟨by simp,_,by simp,rfl,λi h h'=> ?_⟩
  simp only[zM,Fk]
  exact Rd.zero w M e
end VM
end
