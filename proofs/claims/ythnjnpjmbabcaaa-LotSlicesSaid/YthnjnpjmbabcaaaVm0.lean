/- A part of the proof of LotSlices of layer 23: a machine that reads a function of the program as an equation between values. -/
import Derived.KernelRfl
import GoSem.Claims
import Derived.WalkKit
import Derived.ArgAppend
import Derived.Laws.CopyRow
import Derived.Laws.MakeOwn
import Derived.Laws.OwnMore
import Derived.Orders
import Derived.LoopN
set_option linter.all false
open List renaming length→ℓ, getD→γ
theorem ω{p:Prop}(h:p:=by omega):p:=h
theorem δ{p:Prop}(h:p:=by decide):p:=h
theorem κ{p:Prop}(h:p:=by kernel_rfl):p:=h
noncomputable section
abbrev ak:=@Option.bind_some
abbrev ah:=@cond_true
abbrev aj:=@cond_false
abbrev az:=@Array.length_toList
abbrev aW:=@List.getD_eq_getElem?_getD
abbrev a6:=@List.getElem?_eq_getElem
abbrev aI:=@Int.toNat_natCast
abbrev aQ:=@List.length_append
abbrev a7:=@List.mem_cons_of_mem
abbrev aR:=@List.length_singleton
abbrev aE:=@List.length_cons
abbrev af:=@if_pos
abbrev ag:=@if_neg
abbrev aS:=@List.mem_append_left
abbrev a8:=@List.length_replicate
abbrev bh:=@List.mem_append_right
abbrev ba:=@List.mem_cons_self
abbrev aT:=@List.length_take
abbrev aV:=@Bool.and_eq_true
abbrev aB:=@Nat.le_refl
abbrev aY:=@List.length_set
abbrev bq:=@List.append_assoc
abbrev bs:=@of_decide_eq_true
abbrev bg:=@List.mem_append
abbrev bY:=@Nat.eq_of_beq_eq_true
abbrev bt:=@decide_eq_false
abbrev bn:=@decide_eq_true
abbrev bc:=@List.mem_cons
abbrev cM:=@Array.getElem?_toList
abbrev bo:=@Bool.not_true
abbrev bZ:=@Option.some.injEq
abbrev ca:=@Option.mem_toList
abbrev bz:=@List.map_cons
abbrev cc:=@List.cons.injEq
abbrev ez:=@Array.getElem?_eq_some_iff
abbrev bS:=@Bool.not_false
abbrev cA:=@List.length_nil
abbrev ck:=@Int.toNat_zero
abbrev dD:=@Nat.mul_le_mul_right
abbrev cT:=@List.length_drop
abbrev eA:=@List.take_of_length_le
abbrev dq:=@Bool.false_eq_true
abbrev cU:=@List.map_append
abbrev cV:=@List.append_nil
abbrev eB:=@List.getElem?_eq_none
abbrev bO:=@Nat.add_mul
abbrev ia:=@List.eq_nil_of_length_eq_zero
abbrev fa:=@List.drop_of_length_le
abbrev dr:=@List.size_toArray
abbrev c5:=@Nat.min_eq_left
abbrev cm:=@List.mem_map
abbrev cW:=@List.drop_zero
abbrev ib:=@List.getElem?_append_right
abbrev fb:=@Bool.and_eq_true_iff
abbrev cF:=@Nat.zero_add
abbrev cG:=@Int.mul_comm
abbrev fE:=@List.take_append_drop
abbrev eC:=@List.mem_singleton
abbrev ic:=@List.getElem?_append_left
abbrev fc:=@List.map_congr_left
abbrev jy:=@Array.getD_eq_getD_getElem?
abbrev c6:=@Int.mul_assoc
abbrev kY:=@Int.mul_le_mul_of_nonneg_right
abbrev fe:=@Nat.lt_of_lt_of_le
abbrev ff:=@List.getElem?_take
abbrev fg:=@List.getElem?_drop
abbrev cX:=@Nat.le_trans
abbrev jz:=@List.getElem?_eq_some_iff
abbrev eD:=@List.getElem_mem
abbrev dE:=@List.drop_drop
abbrev jA:=@Int.eq_ofNat_of_zero_le
abbrev ig:=@List.mem_of_mem_take
abbrev nH:=@Int.mul_le_mul_of_nonneg_left
abbrev kZ:=@List.drop_eq_getElem_cons
abbrev ij:=@Int.toNat_of_nonneg
abbrev gl:=@List.nodup_append
abbrev la:=@Option.bind_eq_some_iff
abbrev fF:=@List.nil_append
abbrev fG:=@List.length_map
abbrev fH:=@Int.ediv_nonneg
abbrev gm:=@Bool.not_eq_true
abbrev gn:=@List.take_length
abbrev cn:=@and_true
abbrev jB:=@List.mem_map_of_mem
abbrev oR:=@List.take_append_of_le_length
abbrev oS:=@List.drop_append_of_le_length
abbrev ld:=@Int.mul_ediv_add_emod
abbrev gp:=@List.drop_left'
abbrev dt:=@Array.ext'
abbrev jC:=@List.pairwise_cons
abbrev fI:=@List.sum_cons
abbrev oT:=@Option.ne_none_iff_exists'
abbrev cf:=@Ne.symm
abbrev nI:=@Int.ediv_lt_iff_lt_mul
abbrev lf:=@Int.emod_lt_of_pos
abbrev c7:=@if_false
abbrev fh:=@Int.mul_add
abbrev nJ:=@List.getElem_of_mem
abbrev gq:=@Nat.lt_or_ge
abbrev eR:=@Nat.add_zero
abbrev ea:=@Nat.one_mul
abbrev iH:=@List.cons_append
abbrev iI:=@List.all_eq_true
abbrev gA:=@Int.mul_nonneg
abbrev mK:=@List.getElem?_toArray
abbrev oU:=@List.mem_or_eq_of_mem_set
abbrev mL:=@List.mem_iff_getElem
abbrev fJ:=@List.map_nil
abbrev ko:=@List.length_range
abbrev gB:=@Nat.add_assoc
abbrev oV:=@List.getElem_append_left
abbrev oW:=@List.eq_of_mem_replicate
abbrev mM:=@List.length_pos_iff
abbrev iJ:=@List.drop_take
abbrev iK:=@List.take_take
abbrev oX:=@Nat.add_sub_cancel_left
abbrev oY:=@List.getElem?_replicate
abbrev fK:=@Int.add_mul
abbrev oZ:=@List.getElem_cons_zero
abbrev o3:=@List.getElem_replicate
abbrev gC:=@Nat.beq_refl
abbrev o4:=@Option.map_eq_some_iff
abbrev mN:=@Bool.false_ne_true
abbrev mO:=@decide_eq_true_iff
abbrev kq:=@List.headD_cons
abbrev kt:=@Int.emod_nonneg
abbrev o5:=@Nat.le_of_ble_eq_true
abbrev mP:=@List.ext_getElem?
abbrev o6:=@Array.getElem_toList
abbrev gD:=@Int.le_refl
abbrev ku:=@List.tail_cons
abbrev gE:=@Nat.zero_le
abbrev s6:=@Int.tdiv_eq_ediv_of_nonneg
abbrev iL:=@Int.le_of_lt
abbrev mQ:=@decide_eq_decide
abbrev s7:=@List.getElem_append_right
abbrev s8:=@Int.le_of_mul_le_mul_left
abbrev kv:=@Prod.mk.injEq
abbrev ky:=@Bool.true_and
abbrev mR:=@List.take_left'
abbrev dv:=@if_true
abbrev mS:=@List.mem_filter
abbrev mT:=@Bool.or_eq_true
abbrev o7:=@List.getElem_range
abbrev s9:=@List.getElem?_cons_zero
abbrev iM:=@Nat.sub_mul
abbrev iN:=@Int.one_mul
abbrev o8:=@List.flatten_cons
abbrev o9:=@Bool.not_eq_true'
abbrev pa:=@List.getElem?_map
abbrev kz:=@Nat.pow_succ
abbrev yj:=@Array.getElem?_setIfInBounds_ne
abbrev ta:=@Int.add_mul_ediv_left
abbrev pb:=@Option.getD_some
abbrev mU:=@Bool.and_true
abbrev tb:=@List.mem_of_mem_drop
abbrev tc:=@Nat.pow_le_pow_right
abbrev pc:=@Bool.eq_iff_iff
abbrev pd:=@List.nodup_cons
abbrev pe:=@Int.natCast_mul
abbrev pf:=@Int.natCast_add
abbrev td:=@List.get_eq_getElem
abbrev tf:=@List.replicate_succ
abbrev pg:=@List.mem_range
abbrev ph:=@List.take_zero
abbrev pj:=@Nat.mul_le_mul
abbrev pk:=@List.mapM_cons
abbrev yk:=@Int.fdiv_eq_ediv_of_nonneg
abbrev yl:=@Int.add_mul_emod_self_left
abbrev ym:=@Array.getElem?_eq_getElem
abbrev yp:=@Classical.byContradiction
abbrev yq:=@List.pairwise_iff_getElem
abbrev mV:=@Nat.mul_one
abbrev tg:=@List.getElem_take
abbrev th:=@List.take_add_one
abbrev ti:=@decide_eq_true_eq
abbrev tj:=@Bool.eq_false_iff
abbrev pn:=@List.all_cons
abbrev po:=@Bool.or_false
abbrev iO:=@congrArg
abbrev tk:=@List.getElem_map
abbrev tp:=@List.not_mem_nil
abbrev yr:=@List.length_eq_zero_iff
abbrev tq:=@beq_self_eq_true
abbrev tu:=@List.ext_getElem
abbrev yt:=@List.pairwise_singleton
abbrev yu:=@Array.getElem?_eq_none
abbrev mW:=@Nat.beq_eq
abbrev yv:=@List.head?_eq_getElem?
abbrev pq:=@Nat.mul_comm
abbrev yw:=@List.append_eq_nil_iff
abbrev yx:=@Int.ediv_eq_zero_of_lt
abbrev pt:=@Int.pow_succ
abbrev yz:=@List.drop_eq_nil_of_le
abbrev tv:=@List.range_succ
abbrev yA:=@List.length_filter_le
abbrev yB:=@Nat.div_lt_iff_lt_mul
abbrev tw:=@List.nodup_nil
abbrev pv:=@Int.mul_neg
abbrev tx:=@Bool.false_and
abbrev tz:=@Nat.lt_irrefl
abbrev pw:=@Nat.blt_eq
abbrev px:=@Nat.ble_eq
abbrev tA:=@Nat.zero_mul
abbrev tB:=@Nat.log2_def
section
namespace VM
open Go
theorem MS{α:Type}(a:α): ∃b:α,b=a:=⟨a,rfl⟩
def hid{α:Type}(a:α):α:=Classical.choose (MS a)
theorem eK{α:Type}(a:α):hid a=a:=Classical.choose_spec (MS a)
def py:Nat:=68719476736
def W:IntKind→Int→Int:=hid λk x=>k.wrap x
def bu:Int→Int→Bool:=hid λx y=>decide (x<y)
def dK:Int→Int→Bool:=hid λx y=>decide (x≤y)
def cg:Int→Int→Bool:=hid λx y=>decide (x=y)
def c9:Int→Nat→Bool:=hid λi n=>decide (0≤i∧i<(n:Int))
def small:Nat→Bool:=hid λn=>decide (n<py)
def gU:Int→Int→Bool:=hid λl c=>decide (0≤l∧l≤c∧c<(py:Int))
def jD:Int→Int→Int→Int→Bool:=hid λl h m n=>decide (0≤l∧l≤h∧h≤m∧m≤n)
def quo:Int→Int→Int:=hid λx y=>x.tdiv y
def rem:Int→Int→Int:=hid λx y=>x.tmod y
def shl:IntKind→Int→Int→Int:=hid λk x y=>x*2^(min y.toNat k.bits)
def shr:IntKind→Int→Int→Int:=hid λk x y=>x.fdiv (2^(min y.toNat k.bits))
def mx:Int→Int→Int:=hid λx y=>if y>x then y else x
def mn:Int→Int→Int:=hid λx y=>if y<x then y else x
def DS:ByteArray→ByteArray→Bool:=hid λx y=>decide (x.toList=y.toList)
theorem so(k:IntKind)(x:Int):W k x=k.wrap x:=by unfold W;rw[eK]
theorem lh(x y:Int):bu x y=decide (x<y):=by unfold bu;rw[eK]
theorem jR(x y:Int):dK x y=decide (x≤y):=by unfold dK;rw[eK]
theorem eL(x y:Int):cg x y=decide (x=y):=by unfold cg;rw[eK]
theorem DT(i:Int)(n:Nat):c9 i n=decide (0≤i∧i<(n:Int)):=by unfold c9;rw[eK]
theorem tC(n:Nat):small n=decide (n<py):=by unfold small;rw[eK]
theorem qD(l c:Int):gU l c=decide (0≤l∧l≤c∧c<(py:Int)):=by unfold gU;rw[eK]
theorem mX(l h m n:Int):jD l h m n=decide (0≤l∧l≤h∧h≤m∧m≤n):=by unfold jD;rw[eK]
theorem w3(x y:Int):quo x y=x.tdiv y:=by unfold quo;rw[eK]
theorem DU(x y:Int):rem x y=x.tmod y:=by unfold rem;rw[eK]
theorem DV(k:IntKind)(x y:Int):shl k x y=x*2^(min y.toNat k.bits):=by unfold shl;rw[eK]
theorem Ar(k:IntKind)(x y:Int):shr k x y=x.fdiv (2^(min y.toNat k.bits)):=by unfold shr;rw[eK]
theorem MT(x y:Int):mx x y=if y>x then y else x:=by unfold mx;rw[eK]
theorem MU(x y:Int):mn x y=if y<x then y else x:=by unfold mn;rw[eK]
theorem tD(x y:ByteArray):DS x y=decide (x.toList=y.toList):=by unfold DS;rw[eK]
inductive Bw where|and|or|xor|andNot
def ik:Bw→IntKind→Int→Int→Int:=hid λo k x y=>
 let a:=BitVec.ofInt k.bits x
 let b:=BitVec.ofInt k.bits y
 k.wrap (match o with| .and=>a&&& b| .or=>a|||b| .xor=>a^^^b| .andNot=>a&&& ~~~b).toNat
theorem lj(o:Bw)(k:IntKind)(x y:Int):ik o k x y=
 let a:=BitVec.ofInt k.bits x
 let b:=BitVec.ofInt k.bits y
 k.wrap (match o with| .and=>a&&& b| .or=>a|||b| .xor=>a^^^b| .andNot=>a&&& ~~~b).toNat:=by unfold ik;rw[eK]
def strOf(l:List Nat):ByteArray:=⟨(l.map UInt8.ofNat).toArray⟩
inductive Ty where
 |int (k:IntKind)
 |bool
 |str
 |slice (e:Ty)
 |unit
 |pair (a b:Ty)
 |arr (n:Nat) (e:Ty)
 deriving DecidableEq
@[reducible] def Ty.den:Ty→Type
 | .int _=>Int
 | .bool=>Bool
 | .str=>ByteArray
 | .slice e=>List e.den
 | .unit=>Unit
 | .pair a b=>a.den×b.den
 | .arr _ e=>List e.den
def Ty.size:Ty→Nat
 | .int _| .bool| .str| .slice _=>1
 | .unit=>0
 | .pair a b=>a.size+b.size
 | .arr n e=>n*e.size
def Ty.isAgg:Ty→Bool
 | .unit| .pair _ _| .arr _ _=>true
 |_=>false
def Ty.zero:(τ:Ty)→τ.den
 | .int _=>(0:Int)
 | .bool=>false
 | .str=>ByteArray.empty
 | .slice _=>[]
 | .unit=>()
 | .pair a b=>(a.zero,b.zero)
 | .arr n e=>List.replicate n e.zero
def Ty.flat:Ty→Bool
 | .slice _=>false
 | .pair a b=>a.flat&&b.flat
 | .arr _ e=>e.flat
 |_=>true
def Ty.comparable:Ty→Bool
 | .slice _=>false
 | .pair a b=>a.comparable&&b.comparable
 | .arr _ _=>false
 |_=>true
def MV{α:Type}(f:α→α→Bool):List α→List α→Bool
 |[],[]=>true
 |x::xs,y::ys=>f x y&&MV f xs ys
 |_,_=>false
def kW:(τ:Ty)→τ.den→τ.den→Bool
 | .int _,x,y=>cg x y
 | .bool,x,y=>x==y
 | .str,x,y=>DS x y
 | .slice _,_,_=>false
 | .unit,_,_=>true
 | .pair a b,x,y=>kW a x.1 y.1&&kW b x.2 y.2
 | .arr _ e,x,y=>MV (kW e) x y
inductive Step where
 |dw (n:Nat)
 |idx (i:Nat)
def vA:List Step→List Step→Bool
 |[],[]=>true
 | .dw a::p,.dw b::q=>Nat.beq a b&&vA p q
 |_,_=>false
def n0:List Step→List Step→Bool
 |[],_=>true
 | .dw a::p,.dw b::q=>Nat.beq a b&&n0 p q
 |_,_=>false
def n4:Ty→Nat→Option Ty
 | .pair a b,n=>match n with
  |0=>some a
  |n+1=>n4 b n
 |_,_=>none
def cj:List Step→Ty→Ty→Bool
 |[],τ,υ=>decide (τ=υ)
 | .dw n::p,τ,υ=>match n4 τ n with
  |some a=>cj p a υ
  |none=>false
 |_,_,_=>false
inductive ax where
 |any
 |DW
 |val (τ:Ty) (x:τ.den)
 |w4 (τ:Ty) (x:τ.den) (n:Nat)
 |vB (τ:Ty) (x:τ.den) (n:Nat) (j:Nat)
 |sub (id:Nat) (e:Ty) (lo:Nat)
 |emp
 |ref (id:Nat)
 |dg (id:Nat) (p:List Step)
 |iP (τ:Ty) (x:τ.den)
 |Mp (vs:List ax)
 |yC (f:Nat) (iQ:List ax)
inductive ar where
 |obj (τ:Ty) (x:τ.den)
 |cQ (τ:Ty) (x:τ.den) (p:List Step) (j:Nat)
 |own (e:Ty) (l:List e.den)
 |gr (e:Ty) (l:List e.den)
 |cq (e:Ty) (l:List (List e.den)) (o:Option Nat)
 |gone
structure St where
 T:Nat→ax
 H:Nat→Option ar
def St.put(σ:St)(d:Nat)(v:ax):St:=⟨λi=>cond (Nat.beq i d) v (σ.T i),σ.H⟩
def St.di(σ:St)(d:Nat)(v:Option ar):St:=⟨σ.T,λi=>cond (Nat.beq i d) v (σ.H i)⟩
def St.mC(σ:St)(d:Option Nat)(v:ax):St:=match d with|some d=>σ.put d v|none=>σ
def yD(n:Nat)(io:List Nat):Option Nat→Bool|some d=>Nat.blt d n&&io.all (λi=> !(Nat.beq i d))|none=>true
def St.mY(σ:St):List (Nat×Option ar)→St
 |[]=>σ
 |u::r=>(σ.di u.1 u.2).mY r
abbrev S0:St:=⟨λ_=> .any,λ_=>none⟩
abbrev dh:=List (Nat×Option ar)
section K
variable{α:Type}
def ll:(τ:Ty)→τ.den→Nat→((υ:Ty)→υ.den→Option α)→Option α
 | .pair a b,x,n,k=>match n with
  |0=>k a x.1
  |n+1=>ll b x.2 n k
 |_,_,_,_=>none
def cB:(τ:Ty)→τ.den→Nat→((υ:Ty)→υ.den→(υ.den→Option α)→Option α)→(τ.den→Option α)→Option α
 | .pair a b,x,n,m,k=>match n with
  |0=>m a x.1 λz=>k (z,x.2)
  |n+1=>cB b x.2 n m λz=>k (x.1,z)
 |_,_,_,_,_=>none
def dx(τ υ:Ty)(k:Option α):Option α:=if τ=υ then k else none
def aP(υ τ:Ty)(y:υ.den)(k:τ.den→Option α):Option α:=if h:υ=τ then k (h▸y)else none
def JL(τ:Ty)(x:τ.den)(i:Nat)(k:(υ:Ty)→υ.den→Option α):Option α:=
 match τ,x with
 | .arr _ e,x=>k e (γ x i e.zero)
 |_,_=>none
def sJ(τ:Ty)(x:τ.den)(i:Nat)(m:(υ:Ty)→υ.den→(υ.den→Option α)→Option α)(k:τ.den→Option α):Option α:=
 match τ,x,k with
 | .arr _ e,x,k=>m e (γ x i e.zero) λz=>k (List.set x i z)
 |_,_,_=>none
def pz:List Step→(τ:Ty)→τ.den→((υ:Ty)→υ.den→Option α)→Option α
 |[],τ,x,k=>k τ x
 | .dw n::p,τ,x,k=>ll τ x n fun υ y=>pz p υ y k
 | .idx i::p,τ,x,k=>JL τ x i fun υ y=>pz p υ y k
def mD(υ:Ty)(y:υ.den):List Step→(τ:Ty)→τ.den→(τ.den→Option α)→Option α
 |[],τ,_,k=>aP υ τ y k
 | .dw n::p,τ,x,k=>cB τ x n (fun υ' y' k'=>mD υ y p υ' y' k') k
 | .idx i::p,τ,x,k=>sJ τ x i (fun υ' y' k'=>mD υ y p υ' y' k') k
def fk(fz:Bool)(a:ax)(H:Nat→Option ar)(τ:Ty)(k:τ.den→List Nat→dh→Option α):Option α:=
 match a with
 | .val υ x=>aP υ τ x λy=>k y [] []
 | .w4 υ x _=>aP υ τ x λy=>k y [] []
 | .emp=>match τ,k with
  | .slice _,k=>k [] [] []
  |_,_=>none
 | .ref id=>match H id with
  |some (.own e l)=>aP (.slice e) τ l λy=>k y [id] (cond fz [(id,some (.gr e l))] [])
  |some (.gr e l)=>aP (.slice e) τ l λy=>k y [id] []
  |_=>none
 |_=>none
def yE(a:ax)(k:(τ:Ty)→τ.den→Option α):Option α:=
 match a with
 | .val υ x=>k υ x
 |_=>none
def eM(id:Nat)(p:List Step)(H:Nat→Option ar)(k:Ty→Option α):Option α:=
 match H id with
 |some (.obj τ x)=>pz p τ x fun υ _=>k υ
 |some (.cQ τ x _ _)=>pz p τ x fun υ _=>k υ
 |some (.own e l)|some (.gr e l)=>match p with
  | .idx i::p=>pz p e (γ l i e.zero) fun υ _=>k υ
  |_=>none
 |_=>none
def SR(a:ax)(H:Nat→Option ar)(k:(τ:Ty)→τ.den→List Nat→Option α):Option α:=
 match a with
 | .val υ x=>k υ x []
 | .ref id=>match H id with
  |some (.own e l)|some (.gr e l)=>k (.slice e) l [id]
  |_=>none
 |_=>none
def mE(a:ax)(k:IntKind→Int→Option α):Option α:=
 match a with
 | .val (.int i) x=>k i x
 |_=>none
end K
inductive AM where
 |v (τ:Ty)
 |own (e:Ty)
 |io (τ:Ty)
 |fn (f:Nat) (τ:Ty)
 |ptr (τ:Ty)
 |dg (τ:Ty)
 |lo (e:Ty)
 |sp (τ:Ty) (n:Nat) (e:Ty)
 deriving DecidableEq
@[reducible] def AM.den:AM→Type
 | .v τ=>τ.den
 | .own e=>List e.den
 | .io τ=>τ.den
 | .fn _ τ=>τ.den
 | .ptr τ=>τ.den
 | .dg τ=>τ.den
 | .lo e=>List e.den
 | .sp τ _ _=>τ.den
@[reducible] def HP:List AM→Type
 |[]=>Unit
 |[m]=>m.den
 |m::n::ms=>m.den×HP (n::ms)
structure gV where
 args:List AM
 res:List AM
 quiet:Bool
 run:HP args→Option (HP res)
inductive CM where
 |v (τ:Ty)
 |own (e:Ty)
 |obj (τ:Ty)
 |cQ (τ:Ty) (q:List Step) (e:Ty)
 |same (s:Nat)
 |io (τ:Ty)
 |fn (f:Nat) (τ:Ty)
 |cq (e:Ty)
structure Env where
 nt:Nat
 ty:Nat→Option Ty
 Γ:Nat→List gV
 N:Nat
 mZ:Nat→Option (List (Nat×CM))
 n5:Nat→Option (List (Nat×CM))
 io:List Nat:=[]
 lk:Option (Ty×List Step×Ty×List Nat):=none
def Env.vw(E:Env):Bool:=match E.lk with
 |some (_,_,_,ds)=>ds.any λd=>Nat.beq d 1000001
 |none=>false
def Env.cq(E:Env):Bool:=match E.lk with
 |some (_,_,_,ds)=>ds.any λd=>Nat.beq d 1000002
 |none=>false
def Cd(E:Env)(n d:Nat):Bool:=match E.lk with
 |some (_,_,_,ds)=>ds.any λx=>Nat.beq x (n+d)
 |none=>false
def Env.sp(E:Env):Bool:=match E.lk with
 |some (_,_,_,ds)=>ds.any λd=>Nat.beq d 1000000
 |none=>false
def MW(E:Env)(τ:Ty):Option (List Step×Ty):=match E.lk with
 |some (υ,q,e,_)=>cond (decide (υ=τ)) (cond (cj q τ (.slice e)) (some (q,e)) none) none
 |none=>none
def vC(E:Env)(τ:Ty)(id:Nat):Option (List Step×Ty):=match E.lk with
 |some (_,_,_,ds)=>cond (ds.any λd=>Nat.beq (id/16) d) (MW E τ) none
 |none=>none
def QF:Value→ax
 | .int k n=> .val (.int k) n
 | .bool b=> .val .bool b
 | .string s=> .val .str s
 | .slice none 0 0=> .emp
 |_=> .any
def St.ρ (σ:St):Operand→ax
 | .tmp t=>σ.T t
 | .const v=>QF v
 | .global _=> .any
 | .func f=> .yC f []
section
variable{α:Type}
def ln(op:BinOp)(k:IntKind)(x y:Int)(K:ax→Option α):Option α:=
 match op with
 | .add=>K (.val (.int k) (W k (x+y)))
 | .sub=>K (.val (.int k) (W k (x-y)))
 | .mul=>K (.val (.int k) (W k (x*y)))
 | .quo=>cond (cg y 0) none (K (.val (.int k) (W k (quo x y))))
 | .rem=>cond (cg y 0) none (K (.val (.int k) (rem x y)))
 | .and=>K (.val (.int k) (ik .and k x y))
 | .or=>K (.val (.int k) (ik .or k x y))
 | .xor=>K (.val (.int k) (ik .xor k x y))
 | .andNot=>K (.val (.int k) (ik .andNot k x y))
 | .eql=>K (.val .bool (cg x y))
 | .neq=>K (.val .bool (!cg x y))
 | .lss=>K (.val .bool (bu x y))
 | .leq=>K (.val .bool (dK x y))
 | .gtr=>K (.val .bool (bu y x))
 | .geq=>K (.val .bool (dK y x))
 |_=>none
def GY(op:BinOp)(k:IntKind)(x y:Int)(K:ax→Option α):Option α:=
 match op with
 | .shl=>cond (bu y 0) none (K (.val (.int k) (W k (shl k x y))))
 | .shr=>cond (bu y 0) none (K (.val (.int k) (shr k x y)))
 |_=>none
def GZ:BinOp→Bool
 | .shl| .shr=>true
 |_=>false
def tE(t:Option Ty)(op:BinOp)(τ:Ty)(x:τ.den)(υ:Ty)(y:υ.den)(K:ax→Option α):Option α:=
 match τ,x,υ,y with
 | .int k,x,.int k',y=>cond (GZ op) (GY op k x y K) (if k=k' then ln op k x y K else none)
 |τ,x,υ,y=>match t with
  |none=>none
  |some u=>dx u τ (cond τ.comparable (match op with
   | .eql=>aP υ τ y λy=>K (.val .bool (kW τ x y))
   | .neq=>aP υ τ y λy=>K (.val .bool (!kW τ x y))
   |_=>none) none)
def Ce(op:UnOp)(a:ax)(K:ax→Option α):Option α:=
 match op,a with
 | .neg,.val (.int k) n=>K (.val (.int k) (W k (0-n)))
 | .xor,.val (.int k) n=>K (.val (.int k) (ik .xor k (if k.signed then-1 else k.max) n))
 | .not,.val .bool b=>K (.val .bool (!b))
 |_,_=>none
abbrev cN(α:Type):=ax→List Nat→dh→Option α
def Gy(up:Bool):ax→List ax→(ax→Option α)→Option α
 |a,[],K=>K a
 |a,b::r,K=>mE a λk x=>mE b λk' y=>if k=k' then Gy up (.val (.int k) (cond up (mx x y) (mn x y))) r K else none
def yF(τ:Ty)(a:ax)(H:Nat→Option ar)(K:cN α):Option α:=
 match τ,a with
 | .slice _,.val (.slice _) l=>K (.val (.int .i64) (ℓ l:Int)) [] []
 | .arr n _,.val (.arr _ _) _=>K (.val (.int .i64) (n:Int)) [] []
 | .str,.val .str s=>K (.val (.int .i64) (ByteArray.size s:Int)) [] []
 | .slice _,.emp=>K (.val (.int .i64) (0:Int)) [] []
 | .slice _,.ref id=>match H id with
  |some (.own _ l)|some (.gr _ l)=>K (.val (.int .i64) (l.length:Int)) [id] []
  |_=>none
 |_,_=>none
def il(H:Nat→Option ar)(id:Nat)(e:ar)(K:Option α):Option α:=
 match H id with
 |none=>K
 |some _=>none
def yG(id:Nat)(e:Ty)(a b:ax)(H:Nat→Option ar)(K:cN α):Option α:=
 fk false b H (.slice e) λys rd _=>
  match a with
  | .emp=>cond (small (ℓ ys)) (K (.ref id) (id::rd) [(id,some (.own e ys))]) none
  | .ref j=>match H j with
   |some (.own e' l)=>aP (.slice e') (.slice e) l λxs=>
    cond (small (ℓ xs+ℓ ys)) (K (.ref id) (id::j::rd) [(j,some .gone),(id,some (.own e (xs++ys)))]) none
   |_=>none
  |_=>none
def eN(τ:Ty)(H:Nat→Option ar):List (Nat×ax)→τ.den→List Nat→dh→(τ.den→List Nat→dh→Option α)→Option α
 |[],x,rd,ups,K=>K x rd ups
 |p::r,x,rd,ups,K=>ll τ x p.1 fun υ _=>fk true p.2 H υ λy nK dy=>
  cB τ x p.1 (fun υ' _ k'=>aP υ υ' y k') λz=>eN τ H r z (nK++rd) (ups++dy) K
def m0(e:Ty)(H:Nat→Option ar)(n:Nat):List (Nat×ax)→List e.den→List Nat→dh→(List e.den→List Nat→dh→Option α)→Option α
 |[],l,rd,ups,K=>K l rd ups
 |p::r,l,rd,ups,K=>cond (Nat.blt p.1 n) (fk true p.2 H e λy nK dy=>m0 e H n r (List.set l p.1 y) (nK++rd) (ups++dy) K) none
def rl(v:ax)(H:Nat→Option ar):(a:Ty)→(a.den→List Nat→dh→Option α)→Option α
 | .pair a .unit,k=>match v with
  | .iP υ x=>aP υ a x λy=>k (y,()) [] []
  |_=>none
 |a,k=>fk true v H a k
def rm:(a:Ty)→a.den→ax
 | .pair a .unit,x=> .iP a x.1
 |a,x=> .val a x
def iR(H:Nat→Option ar):(τ:Ty)→List ax→(τ.den→List Nat→dh→Option α)→Option α
 | .unit,[],K=>K () [] []
 | .pair a b,v::vs,K=>rl v H a λx rd ups=>iR H b vs λxs nK dy=>K (x,xs) (nK++rd) (ups++dy)
 |_,_,_=>none
def g8:(τ:Ty)→τ.den→List ax
 | .pair a b,x=>rm a x.1::g8 b x.2
 |_,_=>[]
def au(H:Nat→Option ar)(d:Nat)(v:Option ar):Nat→Option ar:=λi=>cond (Nat.beq i d) v (H i)
def m4(H:Nat→Option ar):List ax→(List ax→List Nat→dh→Option α)→Option α
 |[],K=>K [] [] []
 |a::r,K=>match a with
  | .dg id []=>match H id with
   |some (.obj τ x)=>m4 (au H id (some .gone)) r λcs rd ups=>K (.iP τ x::cs) (id::rd) ((id,some .gone)::ups)
   |_=>none
  |a=>m4 H r λcs rd ups=>K (a::cs) rd ups
def ga(m:AM)(a:ax)(H:Nat→Option ar)(k:m.den→(Nat→Option ar)→List Nat→dh→dh→List (Nat×AM)→Option α):Option α:=
 match m,k with
 | .v τ,k=>fk true a H τ λx rd uf=>match uf with
  |[]=>k x H rd [] [] []
  |u::r=>k x (au H u.1 u.2) rd [] (u::r) []
 | .own e,k=>match a with
  | .emp=>k [] H [] [] [] []
  | .ref id=>match H id with
   |some (.own e' l)=>aP (.slice e') (.slice e) l λx=>k x (au H id (some .gone)) [id] [(id,some .gone)] [] []
   |_=>none
  |_=>none
 | .io τ,k=>match a with
  | .dg id []=>match H id with
   |some (.obj υ x)=>aP υ τ x λy=>k y (au H id (some .gone)) [id] [] [] [(id,.io τ)]
   |_=>none
  |_=>none
 | .fn f τ,k=>match a with
  | .yC f' c=>cond (Nat.beq f f') (iR H τ c λx rd uf=>match uf with
   |[]=>k x H rd [] [] []
   |_=>none) none
  |_=>none
 | .ptr _,_=>none
 | .dg τ,k=>match a with
  | .iP υ x=>aP υ τ x λy=>k y H [] [] [] []
  |_=>none
 | .lo e,k=>match a with
  | .ref id=>match H id with
   |some (.own e' l)=>aP (.slice e') (.slice e) l λx=>k x (au H id (some .gone)) [id] [] [] [(id,.lo e)]
   |_=>none
  |_=>none
 | .sp _ _ _,_=>none
def kA:(ms:List AM)→List ax→(Nat→Option ar)→List Nat→dh→dh→List (Nat×AM)→(HP ms→List Nat→dh→dh→List (Nat×AM)→Option α)→Option α
 |[],[],_,rd,uo,uf,io,K=>K () rd uo uf io
 |[m],[a],H,rd,uo,uf,io,K=>ga m a H λx _ nK xW xX vq=>K x (nK++rd) (xW++uo) (xX++uf) (io++vq)
 |m::n::ms,a::im,H,rd,uo,uf,io,K=>ga m a H λx H' nK xW xX vq=>
  kA (n::ms) im H' (nK++rd) (xW++uo) (xX++uf) (io++vq) λxs rd uo uf io=>K (x,xs) rd uo uf io
 |_,_,_,_,_,_,_,_=>none
def m5(m:AM)(x:m.den)(id:Nat):ax×dh:=
 match m,x with
 | .v τ,x=>(.val τ x,[])
 | .own e,x=>(.ref id,[(id,some (.own e x))])
 | .io τ,x=>(.val τ x,[])
 | .fn _ _,_=>(.any,[])
 | .ptr τ,x=>(.dg id [],[(id,some (.obj τ x))])
 | .dg _,_=>(.any,[])
 | .lo _,_=>(.any,[])
 | .sp τ n e,x=>match ll τ x n (fun υ y=>aP υ (.slice e) y some),cB τ x n (fun υ' _ k'=>aP (.slice e) υ' [] k') some with
  |some l,some z=>(.vB τ z n id,[(id,some (.own e l))])
  |_,_=>(.any,[])
def db:(ms:List AM)→HP ms→Nat→List (Nat×AM)→List ax×dh×List (Nat×AM)
 |[],_,_,io=>([],[],io)
 |[m],x,id,io=>match m,x,io with
  | .io τ,x,(j,_)::io=>([],[(j,some (.obj τ x))],io)
  | .lo e,x,(j,_)::io=>([],[(j,some (.own e x))],io)
  |m,x,io=>([(m5 m x id).1],(m5 m x id).2,io)
 |m::n::ms,x,id,io=>match m,x,io with
  | .io τ,x,(j,_)::io=>let r:=db (n::ms) x.2 (id+1) io;(r.1,(j,some (.obj τ x.1))::r.2.1,r.2.2)
  | .lo e,x,(j,_)::io=>let r:=db (n::ms) x.2 (id+1) io;(r.1,(j,some (.own e x.1))::r.2.1,r.2.2)
  |m,x,io=>let r:=db (n::ms) x.2 (id+1) io;((m5 m x.1 id).1::r.1,(m5 m x.1 id).2++r.2.1,r.2.2)
def yH:List ax→ax
 |[]=> .any
 |[a]=>a
 |l=> .Mp l
def lq(H:Nat→Option ar)(id:Nat):Nat→Bool
 |0=>true
 |n+1=>(match H (id+n)with|none=>true|some _=>false)&&lq H id n
def yI(id:Nat):Nat→List Nat
 |0=>[]
 |n+1=>(id+n)::yI id n
def fits:List AM→List ax→Bool
 |[],[]=>true
 | .fn f _::ms,.yC g _::im=>Nat.beq f g&&fits ms im
 | .fn _ _::_,_::_=>false
 |_::ms,_::im=>fits ms im
 |_,_=>false
def yJ:List gV→List ax→Option gV
 |[],_=>none
 |S::r,im=>cond (fits S.args im) (some S) (yJ r im)
def rn(E:Env)(f:Nat)(im:List ax)(id:Nat)(H:Nat→Option ar)(K:cN α):Option α:=
 match yJ (E.Γ f) im with
 |none=>none
 |some S=>kA S.args im H [] [] [] [] λx rd uo uf io=>
  (S.run x).bind λy=>
   let r:=db S.res y id io
   cond (lq H id S.res.length) (K (yH r.1) (yI id S.res.length++(r.2.1.map (·.1)++rd)) (uo++cond S.quiet [] uf++r.2.1)) none
def n6(a:Option ax)(d:Int)(k:Int→Option α):Option α:=
 match a with
 |none=>k d
 |some a=>mE a λ_ x=>k x
def dS:Option Operand→Bool
 |some (.const (.int _ n))=>decide (n=0)
 |_=>false
def iS(t:Ty)(z:Bool)(a:ax)(lo hi mx:Option ax)(H:Nat→Option ar)(K:cN α):Option α:=
 match t,a with
 | .str,.val .str s=>cond mx.isNone (n6 lo 0 λl=>n6 hi (ByteArray.size s:Int) λh=>
  cond (jD l h (ByteArray.size s:Int) (ByteArray.size s:Int)) (K (.val .str (ByteArray.extract s l.toNat h.toNat)) [] []) none) none
 | .slice _,.emp=>cond z (K .emp [] []) (cond mx.isNone (n6 lo 0 λl=>n6 hi 0 λh=>cond (jD l h 0 0) (K .emp [] []) none) none)
 | .slice e,a=>fk (!z) a H (.slice e) λx rd ups=>cond z (K .emp rd [])
  (cond (mx.isNone||hi.isSome) (n6 lo 0 λl=>n6 hi (ℓ x:Int) λh=>n6 mx (ℓ x:Int) λm=>
   cond (jD l h m (ℓ x:Int))
    (K (.val (.slice e) (List.drop l.toNat (List.take h.toNat x))) rd ups) none) none)
 |_,_=>none
def m6(E:Env)(t:Ty)(z:Bool)(a:ax)(lo hi mx:Option ax)(H:Nat→Option ar)(K:cN α):Option α:=
 match E.vw,t,a,lo,hi,mx with
 |true,.slice e,.ref id,some lo,none,none=>mE lo λ_ i=>match H id with
  |some (.own e' l)=>dx e' e (cond (jD i (ℓ l:Int) (ℓ l:Int) (ℓ l:Int)) (K (.sub id e i.toNat) [id] []) none)
  |_=>none
 |_,t,a,lo,hi,mx=>iS t z a lo hi mx H K
def ow(e:Ty)(a:ax)(H:Nat→Option ar)(K:cN α):Option α:=
 match a with
 | .sub id e' lo=>dx e' e (match H id with
  |some (.own e2 l)=>aP (.slice e2) (.slice e) l λl=>K .any [id] [(id,some (.own e (List.take lo l++List.replicate (ℓ l-lo) e.zero)))]
  |_=>none)
 |_=>none
def c3(τ:Ty)(a i:ax)(H:Nat→Option ar)(K:cN α):Option α:=
 mE i λ_ i=>
 match τ with
 | .slice e=>match a with
  | .val υ l=>aP υ (.slice e) l λl=>cond (c9 i (ℓ l)) (K (.iP e (γ l i.toNat e.zero)) [] []) none
  | .ref id=>match H id with
   |some (.own e' l)|some (.gr e' l)=>dx e' e (cond (c9 i (ℓ l)) (K (.dg id [.idx i.toNat]) [id] []) none)
   |_=>none
  |_=>none
 | .arr n e=>match a with
  | .dg id p=>eM id p H fun υ=>dx υ (.arr n e) (cond (c9 i n) (K (.dg id (p++[.idx i.toNat])) [id] []) none)
  | .iP υ l=>aP υ (.arr n e) l λl=>cond (c9 i n) (K (.iP e (γ l i.toNat e.zero)) [] []) none
  |_=>none
 |_=>none
def m7(τ:Ty)(a i:ax)(K:ax→Option α):Option α:=
 mE i λ_ i=>
 match τ,a with
 | .arr n e,.val υ l=>aP υ (.arr n e) l λl=>cond (c9 i n) (K (.val e (γ l i.toNat e.zero))) none
 | .str,.val .str s=>cond (c9 i (ByteArray.size s)) (K (.val (.int .u8) ((s.data.getD i.toNat 0).toNat:Int))) none
 |_,_=>none
def eI(a:ax)(H:Nat→Option ar)(K:(υ:Ty)→υ.den→List Nat→Option α):Option α:=
 match a with
 | .iP τ x=>K τ x []
 | .dg id p=>match H id with
  |some (.obj τ x)=>pz p τ x fun υ y=>K υ y [id]
  |some (.own e l)|some (.gr e l)=>match p with
   | .idx i::p=>pz p e (γ l i e.zero) fun υ y=>K υ y [id]
   |_=>none
  |_=>none
 |_=>none
def fm(τ:Ty)(a v:ax)(H:Nat→Option ar)(K:cN α):Option α:=
 match a with
 | .dg id p=>fk true v H τ λy rd ups=>
  match H id with
  |some (.obj υ x)=>mD τ y p υ x λz=>K .any (id::rd) (ups++[(id,some (.obj υ z))])
  |some (.own e l)=>match p with
   | .idx i::p=>cond (rd.contains id) none (mD τ y p e (γ l i e.zero) λz=>K .any (id::rd) (ups++[(id,some (.own e (List.set l i z)))]))
   |_=>none
  |_=>none
 |_=>none
def qE(j:Nat)(q:List Step)(τ:Ty)(x:τ.den)(H:Nat→Option ar)(k:τ.den→dh→Option α):Option α:=
 match H j with
 |some (.own e l)=>mD (.slice e) l q τ x λz=>k z [(j,some (.gr e l))]
 |some (.gr e l)=>mD (.slice e) l q τ x λz=>k z []
 |_=>none
def kB(τ:Ty)(a:ax)(H:Nat→Option ar)(K:cN α):Option α:=
 let n7:=eI a H fun υ y rd=>aP υ τ y λz=>K (.val τ z) rd []
 match a with
 | .dg id p=>match H id with
  |some (.cQ υ x q j)=>cond (vA p q) (cond (cj q υ τ) (K (.ref j) [id] []) none)
   (cond (n0 p q) (qE j q υ x H λz ups=>pz p υ z fun υ' y=>aP υ' τ y λy'=>K (.val τ y') [id,j] ups)
    (pz p υ x fun υ' y=>aP υ' τ y λy'=>K (.val τ y') [id] []))
  |_=>n7
 |_=>n7
def oh(τ:Ty)(id k:Nat)(e:Ty)(q:List Step)(υ:Ty)(x:υ.den)(H:Nat→Option ar)(K:cN α):Option α:=
 match H k with
 |some (.own e' _)=>dx e' e (dx τ (.slice e) (mD (.slice e) [] q υ x λz=>K .any [id,k] [(id,some (.cQ υ z q k))]))
 |_=>none
def eb(E:Env)(τ:Ty)(a v:ax)(H:Nat→Option ar)(K:cN α):Option α:=
 let n7:=fm τ a v H K
 match a with
 | .dg id p=>match H id with
  |some (.obj υ x)=>match vC E υ id,v with
   |some (q,e),.ref k=>cond (vA p q) (oh τ id k e q υ x H K) n7
   |_,_=>n7
  |some (.cQ υ x q j)=>
   let put:=fk true v H τ λy rd ups=>mD τ y p υ x λz=>K .any (id::rd) (ups++[(id,some (cond (n0 p q) (.obj υ z) (.cQ υ z q j)))])
   match vC E υ id,v with
   |some (q',e),.ref k=>cond (vA p q&&vA q q') (oh τ id k e q υ x H K) put
   |_,_=>put
  |_=>n7
 |_=>n7
def jS(E:Env)(τ:Ty)(a v:ax)(H:Nat→Option ar)(K:cN α):Option α:=
 match a,v with
 | .dg id [],.w4 υ y n=>match vC E υ id with
  |some ([.dw m],e)=>cond (Nat.beq m n) (dx τ υ (eM id [] H fun υ'=>dx υ' υ
   (il H (id+2) (.own e []) (K .any [id,id+2] [(id,some (.cQ υ y [.dw m] (id+2))),(id+2,some (.own e []))])))) (eb E τ a v H K)
  |_=>eb E τ a v H K
 |_,_=>eb E τ a v H K
def sq(H:Nat→Option ar)(id:Nat)(τ:Ty)(x:τ.den)(q:List Step)(e:Ty)(K:cN α):Option α:=
 il H id (.obj τ x) (il H (id+1) (.own e []) (K (.dg id []) [id,id+1] [(id,some (.cQ τ x q (id+1))),(id+1,some (.own e []))]))
def G0(E:Env)(ps:List (Nat×ax))(τ:Ty)(x:τ.den):ax:=match MW E τ with
 |some ([.dw n],_)=>cond (ps.all λp=> !(Nat.beq p.1 n)) (.w4 τ x n) (.val τ x)
 |_=> .val τ x
def pA(E:Env)(τ:Ty)(a:ax)(H:Nat→Option ar)(K:cN α):Option α:=
 match E.sp,a with
 |true,.dg id []=>match H id with
  |some (.cQ υ x [.dw n] j)=>aP υ τ x λx=>K (.vB τ x n j) [id] []
  |_=>kB τ a H λv rd ups=>K v (id::rd) ups
 |_,_=>kB τ a H K
def jT(E:Env)(τ:Ty)(a v:ax)(H:Nat→Option ar)(K:cN α):Option α:=
 match a,v with
 | .dg id [],.vB υ y n j=>match vC E υ id with
  |some ([.dw m],e)=>cond (Nat.beq m n) (dx τ υ (eM id [] H fun υ'=>dx υ' υ (match H j with
   |some (.own e' _)=>dx e' e (K .any [id,j] [(id,some (.cQ υ y [.dw m] j))])
   |_=>none))) none
  |_=>none
 |_,_=>jS E τ a v H K
def aN(H:Nat→Option ar):dh→(Nat→Option ar)
 |[]=>H
 |u::r=>aN (au H u.1 u.2) r
def JM(E:Env)(id n:Nat):Bool:=match E.lk with
 |some (_,_,_,ds)=>(ds.any λd=>Nat.beq d (2000000+n))&&ds.any λd=>Nat.beq (id/16) d
 |none=>false
def iT(E:Env)(τ:Ty)(a v:ax)(H:Nat→Option ar)(K:cN α):Option α:=
 match a,v with
 | .dg id [.dw n],.ref k=>cond (JM E id n) (match H id with
  |some (.cQ υ x q j)=>cond (vA q [.dw n]) (jT E τ (.dg id [.dw n]) (.ref k) H λv rd ups=>K v (id::rd) ups) (match n4 υ n with
   |some (.slice e)=>qE j q υ x H λz ups=>oh τ id k e [.dw n] υ z (aN H ups) λv rd dy=>K v (j::rd) (ups++dy)
   |_=>none)
  |some (.obj υ x)=>match n4 υ n with
   |some (.slice e)=>oh τ id k e [.dw n] υ x H K
   |_=>none
  |_=>none) (jT E τ (.dg id [.dw n]) (.ref k) H K)
 |a,v=>jT E τ a v H K
def w5(E:Env)(ps:List (Nat×ax))(τ:Ty):Option (Nat×Nat):=match E.sp,MW E τ with
 |true,some ([.dw n],_)=>match ps.filter λp=>Nat.beq p.1 n with
  |[(_,.ref k)]=>some (n,k)
  |_=>none
 |_,_=>none
def m8(n:Nat)(ps:List (Nat×ax)):List (Nat×ax):=ps.map λp=>cond (Nat.beq p.1 n) (p.1,.emp) p
def partsOf(σρ:Operand→ax)(ps:Array (Nat×Operand)):List (Nat×ax):=ps.toList.map λp=>(p.1,σρ p.2)
def kj(E:Env)(o:Oper)(ρ:Operand→ax)(H:Nat→Option ar)(K:cN α):Option α:=
 let id:=16*o.dst.getD 0
 match o.op with
 | .move x| .assign x=>K (ρ x) [] []
 | .pick c a b=>match ρ c with
  | .val .bool t=>cond t (K (ρ a) [] []) (K (ρ b) [] [])
  |_=>none
 | .alloc t=>match E.ty t with
  |some τ=>match vC E τ id with
   |some (q,e)=>sq H id τ τ.zero q e K
   |none=>il H id (.obj τ τ.zero) (K (.dg id []) [id] [(id,some (.obj τ τ.zero))])
  |none=>none
 | .box t x=>match E.ty t with
  |some τ=>
   let n7:=fk true (ρ x) H τ λy rd ups=>il H id (.obj τ y) (K (.dg id []) (id::rd) (ups++[(id,some (.obj τ y))]))
   match vC E τ id,ρ x with
   |some ([.dw m],e),.w4 υ y n=>cond (Nat.beq m n) (aP υ τ y λy=>sq H id τ y [.dw m] e K) n7
   |_,_=>n7
  |none=>none
 | .build t ps=>match E.ty t with
  |some (.arr n e)=>m0 e H n (partsOf ρ ps) (List.replicate n e.zero) [] [] λl rd ups=>K (.val (.arr n e) l) rd ups
  |some τ=>match w5 E (partsOf ρ ps) τ with
   |some (n,k)=>match H k with
    |some (.own _ _)=>cond τ.isAgg (eN τ H (m8 n (partsOf ρ ps)) τ.zero [] [] λx rd ups=>K (.vB τ x n k) (k::rd) ups) none
    |_=>none
   |none=>cond τ.isAgg (eN τ H (partsOf ρ ps) τ.zero [] [] λx rd ups=>K (G0 E (partsOf ρ ps) τ x) rd ups) none
  |none=>none
 | .buildSlice t n ps=>match E.ty t with
  |some (.slice e)=>cond (Nat.ble (n*(e.size+1)) 16777216) (il H id (.own e []) (m0 e H n (partsOf ρ ps) (List.replicate n e.zero) [] [] λl rd ups=>K (.ref id) (id::rd) (ups++[(id,some (.own e l))]))) none
  |_=>none
 | .load t a=>match E.ty t with
  |some τ=>pA E τ (ρ a) H K
  |none=>none
 | .store t a v=>match E.ty t with
  |some τ=>iT E τ (ρ a) (ρ v) H K
  |none=>none
 | .nilCheck x=>match ρ x with
  | .dg id p=>K (.dg id p) [] []
  | .iP τ x=>K (.iP τ x) [] []
  |_=>none
 | .binOp op t x y _=>yE (ρ x) fun τ x=>yE (ρ y) fun υ y=>tE (E.ty t) op τ x υ y λv=>K v [] []
 | .unOp op _ x=>Ce op (ρ x) λv=>K v [] []
 | .convert src dst x=>match E.ty src,E.ty dst with
  |some _,some (.int k)=>mE (ρ x) λ_ n=>K (.val (.int k) (W k n)) [] []
  |_,_=>none
 | .makeFunc (.func f) first iQ=>cond first.isEmpty (m4 H (iQ.toList.map ρ) λcs rd ups=>K (.yC f cs) rd ups) none
 | .makeSlice t l c=>match E.ty t with
  |some (.slice e)=>mE (ρ l) λ_ l=>mE (ρ c) λ_ c=>cond (gU l c)
    (il H id (.own e []) (K (.ref id) [id] [(id,some (.own e (List.replicate l.toNat e.zero)))])) none
  |_=>none
 | .slice t x lo hi mx=>match E.ty t with
  |some τ=>m6 E τ (lo.isNone&&dS hi&&dS mx) (ρ x) (lo.map ρ) (hi.map ρ) (mx.map ρ) H K
  |none=>none
 | .fieldAddr t x n=>match E.ty t with
  |some τ=>match ρ x with
   | .dg id p=>eM id p H fun υ=>dx υ τ (ll τ τ.zero n fun υ' _=>cond (Nat.beq υ'.size 0) none (K (.dg id (p++[.dw n])) [id] []))
   | .iP υ x=>dx υ τ (ll υ x n fun υ y=>cond (Nat.beq υ.size 0) none (K (.iP υ y) [] []))
   |_=>none
  |none=>none
 | .field t x n=>match E.ty t with
  |some τ=>match ρ x with
   | .val υ x=>dx υ τ (ll υ x n fun υ y=>K (.val υ y) [] [])
   |_=>none
  |none=>none
 | .indexAddr t x i=>match E.ty t with
  |some τ=>c3 τ (ρ x) (ρ i) H K
  |none=>none
 | .index t x i=>match E.ty t with
  |some τ=>m7 τ (ρ x) (ρ i) λv=>K v [] []
  |none=>none
 | .extract t i=>match ρ t with
  | .Mp vs=>match vs[i]? with
   |some v=>K v [] []
   |none=>none
  |_=>none
 | .call c=>match c.callee with
  | .builtin .len=>match c.args.toList,(c.argTypes.toList.head?).bind E.ty with
   |[x],some τ=>yF τ (ρ x) H K
   |_,_=>none
  | .builtin .append=>match c.args.toList,c.argTypes.toList with
   |[x,y],[t,t']=>match E.ty t with
    |some (.slice e)=>cond (Nat.beq t t') (il H id (.own e []) (yG id e (ρ x) (ρ y) H K)) none
    |_=>none
   |_,_=>none
  | .builtin .clear=>match c.args.toList,c.argTypes.toList with
   |[x],[t]=>match E.ty t with
    |some (.slice e)=>ow e (ρ x) H K
    |_=>none
   |_,_=>none
  | .builtin .max=>match c.args.toList with
   |x::r=>Gy true (ρ x) (r.map ρ) λv=>K v [] []
   |_=>none
  | .builtin .min=>match c.args.toList with
   |x::r=>Gy false (ρ x) (r.map ρ) λv=>K v [] []
   |_=>none
  | .value g=>match ρ g with
   | .yC f iQ=>rn E f (c.args.toList.map ρ++iQ) id H K
   |_=>none
  |_=>none
 |_=>none
def Cg(E:Env)(o:Oper)(ρ:Operand→ax)(H:Nat→Option ar):Option (Bool×ax×dh):=
 let d:=o.dst.getD 0
 match o.op with
 | .makeSlice t x y=>match cond (Cd E 3000000 d) (E.ty t) none,ρ x,ρ y,H (16*d),H 7 with
  |some (.slice (.slice e)),.val (.int _) l,.val (.int _) n,none,none=>cond e.flat (some (gU l n,.ref (16*d),[(16*d,some (.cq e (List.replicate l.toNat []) none)),(7,some .gone)])) none
  |_,_,_,_,_=>none
 | .call c=>match c.callee,c.args.toList,(c.argTypes.toList.head?).bind E.ty with
  | .builtin .len,[x],some (.slice _)=>match ρ x with
   | .ref id=>match H id with
    |some (.cq _ l _)=>some (true,.val (.int .i64) (l.length:Int),[])
    |_=>none
   |_=>none
  |_,_,_=>none
 | .indexAddr t x i=>match E.ty t,ρ x,ρ i with
  |some (.slice (.slice e')),.ref id,.val (.int _) n=>match H id with
   |some (.cq e l _)=>cond (decide (e'=e)) (some (c9 n l.length,.dg id [.idx n.toNat],[])) none
   |_=>none
  |_,_,_=>none
 | .load t x=>match E.ty t,ρ x with
  |some (.slice e'),.dg id [.idx n]=>match H id,H (16*d)with
   |some (.cq e l none),none=>cond (decide (e'=e)) (some (true,.ref (16*d),[(16*d,some (.own e (l.getD n []))),(id,some (.cq e l (some n)))])) none
   |_,_=>none
  |_,_=>none
 | .store t x y=>match E.ty t,ρ x,ρ y with
  |some (.slice e'),.dg id [.idx n],.ref j=>match H id,H j with
   |some (.cq e l (some n')),some (.own e2 l')=>if h:e2=e then cond (decide (e'=e)) (some (cg n n',.any,[(j,some .gone),(id,some (.cq e (l.set n (h▸l')) none))])) none else none
   |_,_=>none
  |_,_,_=>none
 | .move x=>match cond (Cd E 4000000 d) (ρ x) .any with
  | .ref id=>match H id with
   |some (.cq e l none)=>some (true,.val (.slice (.slice e)) l,[(id,some .gone)])
   |_=>none
  |_=>none
 |_=>none
def sr:ax→List Nat
 | .ref id=>[id]
 | .dg id _=>[id]
 |_=>[]
def As(E:Env)(o:Oper)(ρ:Operand→ax):List Nat:=match o.op with
 | .makeSlice _ _ _=>[16*o.dst.getD 0,7]
 | .call c=>match c.callee,c.args.toList with
  | .builtin .len,[x]=>sr (ρ x)
  |_,_=>[]
 | .indexAddr _ x _=>sr (ρ x)
 | .load _ x=>16*o.dst.getD 0::sr (ρ x)
 | .store _ x y=>sr (ρ x)++sr (ρ y)
 | .move x=>cond (Cd E 4000000 (o.dst.getD 0)) (sr (ρ x)) []
 |_=>[]
def DX(ups:dh):Bool:=ups.all λu=>match u.2 with
 |some (.cq _ _ _)=>false
 |_=>true
def DE(E:Env)(o:Oper)(ρ:Operand→ax)(H:Nat→Option ar)(K:cN α):Option α:=
 cond E.cq (match Cg E o ρ H with
  |some u=>cond u.1 (K u.2.1 (As E o ρ) u.2.2) none
  |none=>kj E o ρ H λv rd ups=>cond (DX ups) (K v (As E o ρ++rd) ups) none) (kj E o ρ H K)
def kC(E:Env)(ops:List Oper)(o:Oper)(σ:St)(K:St→List Nat→List Nat→Option α):Option α:=
 let run (σ:St):Option α:=DE E o σ.ρ σ.H λv rd ups=>K ((σ.mY ups).mC o.dst v) rd (ups.map (·.1))
 cond (yD E.nt E.io o.dst) (match o.guard with
 |none=>run σ
 |some (j,want)=>match(ops[j]?).bind (·.dst)with
  |none=>none
  |some t=>match σ.T t with
   | .val .bool b=>match want with
    |true=>cond b (run (σ.put t (.val .bool true))) (K ((σ.put t (.val .bool false)).mC o.dst .DW) [] [])
    |false=>cond b (K ((σ.put t (.val .bool true)).mC o.dst .DW) [] []) (run (σ.put t (.val .bool false)))
   | .DW=>K (σ.mC o.dst .DW) [] []
   |_=>none) none
abbrev Log:=List (Nat×List Nat×List Nat)
def Ch(E:Env)(ops:List Oper):List Oper→Nat→St→Log→(St→Log→Option α)→Option α
 |[],_,σ,lg,K=>K σ lg
 |o::r,i,σ,lg,K=>kC E ops o σ fun σ' rd wr=>Ch E ops r (i+1) σ' ((i,rd,wr)::lg) K
def jU:List Oper→List Nat→List Nat
 |[],acc=>acc
 |o::r,acc=>jU r (acc++[o.after.toList.foldl (λs e=>cond (Region.binds .any e) (s|||2^e.on|||acc.getD e.on 0) s) 0])
def names(ops:List Oper)(o:Oper):List Nat:=
 (o.op.operands.toList.filterMap fun| .tmp t=>some t|_=>none)++
 (match o.guard with
  |some (g,_)=>((ops[g]?).bind (·.dst)).toList
  |none=>[])
def meets(a b:List Nat):Bool:=a.any λx=>b.any λy=>Nat.beq x y
def DY(ops:List Oper):Bool:=
 let b:=jU ops []
 (ops.zipIdx.all λ(o,j)=>o.after.toList.all λe=> !(Region.binds .any e)||Nat.blt e.on j)&&
 ops.zipIdx.all λ(o,j)=>ops.zipIdx.all λ(p,i)=>Nat.ble j i||(b.getD j 0).testBit i||
  !(meets p.dst.toList (o.dst.toList++names ops o)||meets o.dst.toList (names ops p))
def IF(ops:List Oper)(lg:Log):Bool:=
 let b:=jU ops []
 lg.all λx=>lg.all λy=>Nat.ble x.1 y.1||(b.getD x.1 0).testBit y.1||
  !(meets y.2.2 (x.2.1++x.2.2)||meets y.2.1 x.2.2)
def sK(E:Env)(ops:Array Oper)(draw:Bool)(σ:St)(K:St→Option α):Option α:=
 Ch E ops.toList ops.toList 0 σ [] fun σ' lg=>cond (!draw||(DY ops.toList&&IF ops.toList lg)) (K σ') none
def c4:List (Nat×CM)→St→St→(St→Option α)→Option α
 |[],_,acc,K=>K acc
 |(s,.v τ)::r,σ,acc,K=>fk true (σ.T s) σ.H τ λx _ ups=>c4 r (σ.mY ups) (acc.put s (.val τ x)) K
 |(s,.own e)::r,σ,acc,K=>match σ.T s with
  | .emp=>c4 r σ ((acc.put s (.ref (16*s+14))).di (16*s+14) (some (.own e []))) K
  | .ref id=>match σ.H id with
   |some (.own e' l)=>aP (.slice e') (.slice e) l λx=>c4 r (σ.di id (some .gone)) ((acc.put s (.ref (16*s+14))).di (16*s+14) (some (.own e x))) K
   |_=>none
  |_=>none
 |(s,.obj τ)::r,σ,acc,K=>match σ.T s with
  | .dg id []=>match σ.H id with
   |some (.obj υ x)=>aP υ τ x λy=>c4 r (σ.di id (some .gone)) ((acc.put s (.dg (16*s+14) [])).di (16*s+14) (some (.obj τ y))) K
   |some (.cQ υ x q j)=>qE j q υ x σ.H λz ups=>aP υ τ z λy=>c4 r ((σ.mY ups).di id (some .gone)) ((acc.put s (.dg (16*s+14) [])).di (16*s+14) (some (.obj τ y))) K
   |_=>none
  |_=>none
 |(s,.cQ τ q e)::r,σ,acc,K=>match σ.T s with
  | .dg id []=>match σ.H id with
   |some (.cQ υ x q' j)=>cond (vA q q') (match σ.H j with
    |some (.own e' l)=>aP υ τ x λy=>aP (.slice e') (.slice e) l λl=>c4 r ((σ.di j (some .gone)).di id (some .gone))
     (((acc.put s (.dg (16*s+14) [])).di (16*s+13) (some (.own e l))).di (16*s+14) (some (.cQ τ y q (16*s+13)))) K
    |_=>none) none
   |_=>none
  |_=>none
 |(s,.same s')::r,σ,acc,K=>match σ.T s,σ.T s',acc.T s' with
  | .ref i,.ref j,.ref j'=>cond (Nat.beq i j) (c4 r σ (acc.put s (.ref j')) K) none
  |_,_,_=>none
 |(s,.io τ)::r,σ,acc,K=>match σ.T s with
  | .dg id []=>cond (Nat.beq id (16*s+15)) (match σ.H id with
   |some (.obj υ x)=>aP υ τ x λy=>c4 r (σ.di id (some .gone)) ((acc.put s (.dg (16*s+15) [])).di (16*s+15) (some (.obj τ y))) K
   |_=>none) none
  |_=>none
 |(s,.fn f τ)::r,σ,acc,K=>match σ.T s with
  | .yC f' c=>cond (Nat.beq f f') (iR σ.H τ c λx _ ups=>match ups with
   |[]=>c4 r σ (acc.put s (.yC f (g8 τ x))) K
   |_=>none) none
  |_=>none
 |(s,.cq e)::r,σ,acc,K=>match σ.T s with
  | .ref id=>match σ.H id with
   |some (.cq e' l none)=>aP (.slice (.slice e')) (.slice (.slice e)) l λl=>il acc.H 7 .gone (c4 r (σ.di id (some .gone)) (((acc.put s (.ref (16*s+14))).di (16*s+14) (some (.cq e l none))).di 7 (some .gone)) K)
   |_=>none
  |_=>none
def ec:List (Nat×CM)→Bool
 |[]=>true
 |q::r=>r.all (λp=> !(Nat.beq p.1 q.1))&&ec r
def m9(L:Option (List (Nat×CM)))(σ:St)(K:St→Option α):Option α:=
 match L with
 |none=>K σ
 |some L=>c4 L σ ⟨λ_=> .any,λ_=>none⟩ K
def rp(L:Option (List (Nat×CM)))(step:St→(St→Option α)→Option α):Nat→St→Option α
 |0,_=>none
 |n+1,σ=>step σ fun σ'=>m9 L σ' (rp L step n)
def aZ:Code→Option Nat
 | .region id _ _=>some id
 | .seq a b=>match aZ a with
  |some i=>some i
  |none=>aZ b
 | .block _ c| .loop c| .scope c=>aZ c
 |_=>none
def we(E:Env)(c:Operand)(σ:St)(A B:St→Option α):Option α:=
 match σ.ρ c with
 | .val .bool b=>match c with
  | .tmp t=>cond b (A (σ.put t (.val .bool true))) (B (σ.put t (.val .bool false)))
  |_=>cond b (A σ) (B σ)
 |_=>none
def sL(E:Env)(c:Code):St→(St→Option α)→(Nat→St→Option α)→(St→Option α)→Option α:=
 Code.rec (motive:=λ_=>St→(St→Option α)→(Nat→St→Option α)→(St→Option α)→Option α)
  (fun σ k _ _=>k σ)
  (λ_ ops draw σ k _ _=>sK E ops draw σ k)
  (λ_ b A B σ k kx kr=>A σ (fun σ'=>m9 ((aZ b).bind E.n5) σ' fun σ''=>B σ'' k kx kr) kx kr)
  (λc _ _ A B σ k kx kr=>we E c σ (fun σ'=>A σ' k kx kr) (fun σ'=>B σ' k kx kr))
  (λid _ A σ k kx kr=>A σ k (λi σ'=>cond (Nat.beq i id) (k σ') (kx i σ')) kr)
  (λb A σ _ kx kr=>m9 ((aZ b).bind E.mZ) σ (rp ((aZ b).bind E.mZ) (fun σ' kn=>A σ' kn kx kr) E.N))
  (λ_ _ _ _ _ _ _ _ _ _=>none)
  (λid σ _ kx _=>kx id σ)
  (λ_ A σ k kx kr=>A σ k kx kr)
  (λ_ σ k _ _=>k σ)
  (λ_ _ _ _ _=>none)
  (fun σ _ _ kr=>kr σ)
  (λ_ _ _ _ _=>none)
  c
def mF(E:Env):List Nat→Code→List (St→Option α)→St→(St→Option α)→(Nat→St→Option α)→(St→Option α)→Option α
 |[],c,_,σ,k,kx,kr=>sL E c σ k kx kr
 |n::p,c,ks,σ,k,kx,kr=>match c with
  | .seq a b=>match n with
   |0=>mF E p a ks σ (fun σ'=>m9 ((aZ b).bind E.n5) σ' fun σ''=>sL E b σ'' k kx kr) kx kr
   |_=>mF E p b ks σ k kx kr
  | .cond _ a b=>match n with
   |0=>mF E p a ks σ k kx kr
   |_=>mF E p b ks σ k kx kr
  | .block id c=>mF E p c ks σ k (λi σ'=>cond (Nat.beq i id) (k σ') (kx i σ')) kr
  | .loop b=>match ks with
   |κ::ks=>mF E p b ks σ κ kx kr
   |[]=>none
  | .scope c=>mF E p c ks σ k kx kr
  |_=>none
def qF(m:AM)(x:m.den)(i:Nat)(σ:St):St:=
 match m,x with
 | .v τ,x=>σ.put i (.val τ x)
 | .own e,x=>(σ.put i (.ref (16*i+15))).di (16*i+15) (some (.own e x))
 | .io τ,x=>(σ.put i (.dg (16*i+15) [])).di (16*i+15) (some (.obj τ x))
 | .fn f τ,x=>σ.put i (.yC f (g8 τ x))
 | .ptr _,_=>σ
 | .dg τ,x=>σ.put i (.iP τ x)
 | .lo e,x=>(σ.put i (.ref (16*i+15))).di (16*i+15) (some (.own e x))
 | .sp _ _ _,_=>σ
def entry:(ms:List AM)→HP ms→Nat→St→St
 |[],_,_,σ=>σ
 |[m],x,i,σ=>qF m x i σ
 |m::n::ms,x,i,σ=>entry (n::ms) x.2 (i+1) (qF m x.1 i σ)
def wg(E:Env)(m:AM)(r:ResultVar ⊕ Nat)(σ:St)(K:m.den→St→Option α):Option α:=
 match m,r,K with
 | .v τ,.inl (.tmp t),K=>fk true (σ.T t) σ.H τ λx _ ups=>K x (σ.mY ups)
 | .v τ,.inl (.cell a t),K=>match E.ty t with
  |some τ'=>dx τ' τ (eI (σ.T a) σ.H fun υ y _=>aP υ τ y λx=>K x σ)
  |none=>none
 | .own e,.inl (.tmp t),K=>match σ.T t with
  | .emp=>K [] σ
  | .ref id=>match σ.H id with
   |some (.own e' l)=>aP (.slice e') (.slice e) l λx=>K x (σ.di id (some .gone))
   |_=>none
  |_=>none
 | .io τ,.inr i,K=>match σ.T i with
  | .dg id []=>match σ.H id with
   |some (.obj υ x)=>aP υ τ x λy=>K y (σ.di id (some .gone))
   |_=>none
  |_=>none
 | .lo e,.inr i,K=>match σ.T i with
  | .ref id=>match σ.H id with
   |some (.own e' l)=>aP (.slice e') (.slice e) l λx=>K x (σ.di id (some .gone))
   |_=>none
  |_=>none
 | .ptr τ,.inl (.tmp t),K=>match σ.T t with
  | .dg id []=>match σ.H id with
   |some (.obj υ x)=>aP υ τ x λy=>K y (σ.di id (some .gone))
   |_=>none
  |_=>none
 | .sp τ n e,.inl (.cell a t),K=>match E.ty t,σ.T a with
  |some τ',.dg id []=>dx τ' τ (match σ.H id with
   |some (.cQ υ x q j)=>cond (vA q [.dw n]) (aP υ τ x λx=>match σ.H j with
    |some (.own e' l)=>aP (.slice e') (.slice e) l λl=>cB τ x n (fun υ' _ k'=>aP (.slice e) υ' l k') λz=>K z (σ.di j (some .gone))
    |_=>none) none
   |_=>none)
  |_,_=>none
 |_,_,_=>none
def w6(E:Env):(ms:List AM)→List (ResultVar ⊕ Nat)→St→(HP ms→Option α)→Option α
 |[],[],_,K=>K ()
 |[m],[r],σ,K=>wg E m r σ λx _=>K x
 |m::n::ms,r::rs,σ,K=>wg E m r σ λx σ'=>w6 E (n::ms) rs σ' λxs=>K (x,xs)
 |_,_,_,_=>none
def n8:List AM→Nat→List (ResultVar ⊕ Nat)
 |[],_=>[]
 | .io _::ms,i=> .inr i::n8 ms (i+1)
 | .lo _::ms,i=> .inr i::n8 ms (i+1)
 |_::ms,i=>n8 ms (i+1)
def w7(E:Env)(fn:Func)(args res:List AM)(x:HP args):Option (HP res):=
 match fn.body with
 |none=>none
 |some c=>
  let kr:St→Option (HP res):=fun σ=>w6 E res (fn.results.toList.map .inl++n8 args 0) σ some
  sL E c (entry args x 0 ⟨λ_=> .any,λ_=>none⟩) kr (λ_ _=>none) kr
end
end VM
end
section
namespace VM
open Go
def jE(N:Nat)(x y c:Int):Option (Int×Int):=if 0≤x∧0≤y∧0≤c∧c≤1 then some ((x+y+c)%18446744073709551616,(x+y+c)/18446744073709551616)else none
def jF(N:Nat)(x y c:Int):Option (Int×Int):=if 0≤x∧x<18446744073709551616∧0≤y∧y<18446744073709551616∧0≤c∧c≤1 then some ((x+18446744073709551616-y-c)%18446744073709551616,if x<y+c then 1 else 0)else none
def lr{α:Type}(N:Nat)(l:List α)(i:Int)(v:List α):Option (List α):=if 0≤i∧i≤l.length∧v.length=1∧l.length+1<py then some (l.take i.toNat++(v++l.drop i.toNat))else none
def pB{α:Type}(N:Nat)(l:List α)(n:Int):Option (List α):=match l with
 |[x]=>if 0<n∧n<1048576 then some (List.replicate n.toNat x)else none
 |_=>none
def jE.S(N:Nat):gV:={args:=[.v (.int .u64),.v (.int .u64),.v (.int .u64)],res:=[.v (.int .u64),.v (.int .u64)],quiet:=true,run:=λx=>jE N x.1 x.2.1 x.2.2}
def jF.S(N:Nat):gV:={args:=[.v (.int .u64),.v (.int .u64),.v (.int .u64)],res:=[.v (.int .u64),.v (.int .u64)],quiet:=true,run:=λx=>jF N x.1 x.2.1 x.2.2}
def fL(e:Ty)(N:Nat):gV:={args:=[.own e,.v (.int .i64),.own e],res:=[.own e],quiet:=false,run:=λx=>lr N x.1 x.2.1 x.2.2}
def sM(e:Ty)(N:Nat):gV:={args:=[.v (.slice e),.v (.int .i64)],res:=[.own e],quiet:=false,run:=λx=>pB N x.1 x.2}
def JN{α:Type}(N:Nat)(l:List α):Option (List α):=if l.length<py then some l else none
def QG(e:Ty)(N:Nat):gV:={args:=[.v (.slice e)],res:=[.own e],quiet:=false,run:=λx=>JN N x}
end VM
namespace VM
abbrev cO:Int×Int×Unit:=((0:Int),((0:Int),()))
abbrev eS:List (Int×Int×Unit):=[]
abbrev eu:Int×Int×Int×Unit:=((0:Int),((0:Int),((0:Int),())))
abbrev QH:List (Int×Int×Int×Unit):=[]
abbrev bC:Int×Int×Int×Int×Unit:=((0:Int),((0:Int),((0:Int),((0:Int),()))))
abbrev Yy:List (Int×Int×Int×Int×Unit):=[]
abbrev Yz:Int×Int×Int×Int×Int×Unit:=((0:Int),((0:Int),((0:Int),((0:Int),((0:Int),())))))
abbrev YA:List (Int×Int×Int×Int×Int×Unit):=[]
abbrev Au:Int×Int×Int×Int×Int×Int×Unit:=((0:Int),((0:Int),((0:Int),((0:Int),((0:Int),((0:Int),()))))))
abbrev QI:List (Int×Int×Int×Int×Int×Int×Unit):=[]
abbrev YB:Int×Int×Int×Int×Int×Int×Int×Unit:=((0:Int),((0:Int),((0:Int),((0:Int),((0:Int),((0:Int),((0:Int),())))))))
abbrev YC:List (Int×Int×Int×Int×Int×Int×Int×Unit):=[]
abbrev YD:Int×Int×Int×Int×Int×Int×Int×Int×Unit:=((0:Int),((0:Int),((0:Int),((0:Int),((0:Int),((0:Int),((0:Int),((0:Int),()))))))))
abbrev YE:List (Int×Int×Int×Int×Int×Int×Int×Int×Unit):=[]
abbrev US:List Int:=[]
abbrev SS:List Int×Unit:=(US,())
end VM
end
section
namespace VM
open Go
def At(w:World)(b off:Nat)(cs:List Value):Prop:= ∀j v,cs[j]? =some v→w.cell? ⟨b,off+j,none⟩=some v
def Rd(w:World)(M:Nat→Prop):(τ:Ty)→List Value→τ.den→Prop
 | .int k,cs,x=>cs=[.int k x]
 | .bool,cs,x=>cs=[.bool x]
 | .str,cs,x=>cs=[.string x]
 | .slice e,cs,x=> ∃a cap,cs=[.slice a (ℓ x) cap]∧ℓ x≤cap∧
  ∀i (h:i<ℓ x),∃b off,a=some ⟨b,off,none⟩∧b<w.heap.size∧ ¬M b∧ ∃cs',At w b (off+i*e.size) cs'∧Rd w M e cs' (List.get x ⟨i,h⟩)
 | .unit,cs,_=>cs=[]
 | .pair a b,cs,x=> ∃c1 c2,cs=c1++c2∧Rd w M a c1 x.1∧Rd w M b c2 x.2
 | .arr n e,cs,x=>ℓ x=n∧ ∃Ci:List (List Value),Ci.length=n∧cs=Ci.flatten∧
  ∀i (h:i<ℓ x) (h':i<Ci.length),Rd w M e Ci[i] (List.get x ⟨i,h⟩)
theorem gF{α:Type}(n:Nat): ∀(l:List (List α)),(∀i (h:i<l.length),l[i].length=n)→l.flatten.length=l.length*n
 |[],_=>by simp
 |a::l,h=>by
  have h0:=h 0 (by simp)
  have ih:=gF n l (λi hi=>h (i+1) (by simp;omega))
  simp only[oZ]at h0
  simp only[o8,aQ,aE,ih,h0,bO]
  omega
theorem Rd.length{w:World}{M:Nat→Prop}: ∀{τ:Ty} {cs:List Value} {x:τ.den},Rd w M τ cs x→cs.length=τ.size
 | .int _,_,_,h=>by simp only[Rd]at h;subst h;rfl
 | .bool,_,_,h=>by simp only[Rd]at h;subst h;rfl
 | .str,_,_,h=>by simp only[Rd]at h;subst h;rfl
 | .slice _,_,_,h=>by simp only[Rd]at h;obtain⟨a,cap,rfl,_⟩:=h;rfl
 | .unit,_,_,h=>by simp only[Rd]at h;subst h;rfl
 | .pair a b,_,_,h=>by
  simp only[Rd]at h
  obtain⟨c1,c2,rfl,h1,h2⟩:=h
  rw[aQ,h1.length,h2.length];rfl
 | .arr n e,_,x,h=>by
  simp only[Rd]at h
  obtain⟨hn,Ci,hc,rfl,hr⟩:=h
  rw[gF e.size Ci (λi hi=>(hr i ω hi).length),hc];rfl
structure bJ(w:World)(M:Nat→Prop)(w':World)(M':Nat→Prop):Prop where
 size:w.heap.size≤w'.heap.size
 block: ∀b,b<w.heap.size→ ¬M b→w'.heap[b]? =w.heap[b]?
 less: ∀b,b<w.heap.size→M' b→M b
theorem Av{w:World}{b o:Nat}{v:Value}(h:w.cell? ⟨b,o,none⟩=some v):b<w.heap.size:=by
 simp only[World.cell?]at h
 rcases gq b w.heap.size with hb|hb
 ·exact hb
 ·simp[yu hb]at h
theorem At.aK{w w':World}{b off:Nat}{cs:List Value}(h:At w b off cs)(hb:w'.heap[b]? =w.heap[b]?):At w' b off cs:=by
 intro j v hj
 have:=h j v hj
 rw[World.cell?_of_block (w:=w) hb]
 exact this
theorem At.append{w:World}{b off:Nat}{c1 c2:List Value}:At w b off (c1++c2)↔At w b off c1∧At w b (off+c1.length) c2:=by
 constructor
 ·intro h
  refine⟨λj v hj=>h j v (by rw[ic];exact hj;exact(jz.1 hj).1),λj v hj=> ?_⟩
  have:=h (c1.length+j) v (by rw[ib ω];simpa using hj)
  rw[gB];exact this
 ·rintro⟨h1,h2⟩ j v hj
  by_cases cy:j<c1.length
  ·rw[ic cy]at hj;exact h1 j v hj
  ·rw[ib ω]at hj
   have:=h2 (j-c1.length) v hj
   rwa [show off+c1.length+(j-c1.length)=off+j from by omega]at this
theorem Rd.aK{w w':World}{M M':Nat→Prop}(k:bJ w M w' M'): ∀{τ:Ty} {cs:List Value} {x:τ.den},Rd w M τ cs x→Rd w' M' τ cs x
 | .int _,_,_,h=>h
 | .bool,_,_,h=>h
 | .str,_,_,h=>h
 | .slice e,_,x,h=>by
  simp only[Rd]at h ⊢
  obtain⟨a,cap,rfl,hc,hr⟩:=h
  refine⟨a,cap,rfl,hc,λi hi=> ?_⟩
  obtain⟨b,off,ha,hb,hm,cs',jo,eJ⟩:=hr i hi
  exact⟨b,off,ha,fe hb k.size,λh'=>hm (k.less b hb h'),_,jo.aK (k.block b hb hm),eJ.aK k⟩
 | .unit,_,_,h=>h
 | .pair a b,_,_,h=>by
  simp only[Rd]at h ⊢
  obtain⟨c1,c2,rfl,h1,h2⟩:=h
  exact⟨c1,c2,rfl,h1.aK k,h2.aK k⟩
 | .arr n e,_,x,h=>by
  simp only[Rd]at h ⊢
  obtain⟨hn,Ci,hc,rfl,hr⟩:=h
  exact⟨hn,Ci,hc,rfl,λi hi kk=>(hr i hi kk).aK k⟩
theorem bJ.refl(w:World)(M:Nat→Prop):bJ w M w M:=⟨aB _,λ_ _ _=>rfl,λ_ _ h=>h⟩
theorem bJ.trans{w w' MX:World}{M M' wh:Nat→Prop}(h:bJ w M w' M')(k:bJ w' M' MX wh):bJ w M MX wh:=
 ⟨cX h.size k.size,λb hb hm=>(k.block b (fe hb h.size) (λh'=>hm (h.less b hb h'))).trans (h.block b hb hm),
  λb hb hm=>h.less b hb (k.less b (fe hb h.size) hm)⟩
def V(w:World)(M:Nat→Prop)(τ:Ty)(v:Value)(x:τ.den):Prop:=
 if τ.isAgg then ∃cs,v= .agg cs∧Rd w M τ cs.toList x else Rd w M τ [v] x
theorem V.aK{w w':World}{M M':Nat→Prop}(k:bJ w M w' M'){τ:Ty}{v:Value}{x:τ.den}(h:V w M τ v x):V w' M' τ v x:=by
 unfold V at*
 split
 ·rename_i ha;rw[af ha]at h;obtain⟨cs,rfl,h⟩:=h;exact⟨cs,rfl,h.aK k⟩
 ·rename_i ha;rw[ag ha]at h;exact h.aK k
theorem Rd.scalar{w:World}{M:Nat→Prop}{τ:Ty}{cs:List Value}{x:τ.den}(ha:τ.isAgg=false)(h:Rd w M τ cs x): ∃v,cs=[v]∧v.cells= #[v]:=by
 cases τ<;>simp only[Ty.isAgg,Bool.true_eq_false]at ha<;>simp only[Rd]at h
 ·exact⟨_,h,rfl⟩
 ·exact⟨_,h,rfl⟩
 ·exact⟨_,h,rfl⟩
 ·obtain⟨a,cap,rfl,_⟩:=h;exact⟨_,rfl,rfl⟩
theorem V.cells{w:World}{M:Nat→Prop}{τ:Ty}{v:Value}{x:τ.den}(h:V w M τ v x):Rd w M τ v.cells.toList x:=by
 unfold V at h
 by_cases ha:τ.isAgg=true
 ·rw[af ha]at h;obtain⟨cs,rfl,h⟩:=h;exact h
 ·rw[ag ha]at h
  obtain⟨v',hv,hc⟩:=h.scalar (by simpa using ha)
  simp only[cc,cn]at hv
  subst hv
  rw[hc];exact h
def aC(τ:Ty)(cs:List Value):Value:=if τ.isAgg then .agg cs.toArray else cs.headD (.tuple #[])
theorem V.aC{w:World}{M:Nat→Prop}{τ:Ty}{cs:List Value}{x:τ.den}(h:Rd w M τ cs x):V w M τ (aC τ cs) x:=by
 unfold V VM.aC
 by_cases ha:τ.isAgg=true
 ·rw[af ha,af ha];exact⟨_,rfl,by simpa using h⟩
 ·rw[ag ha,ag ha]
  obtain⟨v',rfl,_⟩:=h.scalar (by simpa using ha)
  exact h
theorem vD{w:World}{M:Nat→Prop}{τ:Ty}{cs:List Value}{x:τ.den}(h:Rd w M τ cs x):(aC τ cs).cells.toList=cs:=by
 unfold VM.aC
 by_cases ha:τ.isAgg=true
 ·rw[af ha];simp[Value.cells]
 ·rw[ag ha]
  obtain⟨v',rfl,hc⟩:=h.scalar (by simpa using ha)
  simp[hc]
theorem Rd.eE{w:World}{M:Nat→Prop}: ∀{τ:Ty} {cs:List Value} {x:τ.den},Rd w M τ cs x→ ∀v∈cs,v.oneCell'=true
 | .int _,_,_,h=>by simp only[Rd]at h;subst h;simp[Value.oneCell']
 | .bool,_,_,h=>by simp only[Rd]at h;subst h;simp[Value.oneCell']
 | .str,_,_,h=>by simp only[Rd]at h;subst h;simp[Value.oneCell']
 | .slice _,_,_,h=>by simp only[Rd]at h;obtain⟨a,cap,rfl,_⟩:=h;simp[Value.oneCell']
 | .unit,_,_,h=>by simp only[Rd]at h;subst h;simp
 | .pair a b,_,_,h=>by
  simp only[Rd]at h
  obtain⟨c1,c2,rfl,h1,h2⟩:=h
  intro v hv
  rcases bg.1 hv with hv|hv
  ·exact h1.eE v hv
  ·exact h2.eE v hv
 | .arr n e,_,x,h=>by
  simp only[Rd]at h
  obtain⟨hn,Ci,hc,rfl,hr⟩:=h
  intro v hv
  obtain⟨l,hl,QJ⟩:=List.mem_flatten.1 hv
  obtain⟨i,hi,rfl⟩:=mL.1 hl
  exact(hr i ω hi).eE v QJ
def Ty.aL:Ty→List Value
 | .int k=>[.int k 0]
 | .bool=>[.bool false]
 | .str=>[.string ByteArray.empty]
 | .slice _=>[.slice none 0 0]
 | .unit=>[]
 | .pair a b=>a.aL++b.aL
 | .arr n e=>(List.replicate n e.aL).flatten
theorem Rd.zero(w:World)(M:Nat→Prop): ∀(τ:Ty),Rd w M τ τ.aL τ.zero
 | .int _| .bool| .str| .unit=>by simp[Rd,Ty.aL,Ty.zero]
 | .slice _=>by
  simp only[Rd,Ty.aL,Ty.zero]
  exact⟨none,0,rfl,aB _,λi h=>absurd h (by simp)⟩
 | .pair a b=>by
  simp only[Rd,Ty.aL,Ty.zero]
  exact⟨_,_,rfl,Rd.zero w M a,Rd.zero w M b⟩
 | .arr n e=>by
  simp only[Rd,Ty.aL,Ty.zero]
  refine⟨by simp,_,by simp,rfl,λi h h'=> ?_⟩
  simp only[o3,td]
  exact Rd.zero w M e
end VM
end
