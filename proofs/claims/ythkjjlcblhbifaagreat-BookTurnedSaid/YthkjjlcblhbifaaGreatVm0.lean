/- A part of the proof of BookTurned of layer 18: a machine that reads a function of the program as an equation between values. -/
import Derived.KernelRfl
import GoSem.Claims
import Derived.WalkKit
import Derived.ArgAppend
import Derived.Laws.CopyRow
import Derived.Laws.MakeOwn
import Derived.Laws.OwnMore
import Derived.Orders
import Derived.LoopN
set_option linter.all false
open List renaming length→ℓ, getD→γ
theorem ω{p:Prop}(h:p:=by omega):p:=h
theorem δ{p:Prop}(h:p:=by decide):p:=h
theorem κ{p:Prop}(h:p:=by kernel_rfl):p:=h
noncomputable section
abbrev ar:=@Option.bind_some
abbrev aj:=@cond_true
abbrev aJ:=@List.length_singleton
abbrev aW:=@List.getD_eq_getElem?_getD
abbrev aG:=@Int.toNat_natCast
abbrev av:=@cond_false
abbrev bm:=@List.getElem?_eq_getElem
abbrev ak:=@if_pos
abbrev aS:=@List.length_append
abbrev ag:=@if_neg
abbrev ba:=@List.mem_cons_of_mem
abbrev aT:=@List.length_cons
abbrev aH:=@Nat.le_refl
abbrev bp:=@Array.length_toList
abbrev bu:=@List.mem_cons_self
abbrev aV:=@decide_eq_true
abbrev bD:=@of_decide_eq_true
abbrev bF:=@List.append_assoc
abbrev bn:=@List.mem_append
abbrev bw:=@decide_eq_false
abbrev bh:=@List.mem_cons
abbrev bk:=@Bool.not_true
abbrev bQ:=@Bool.and_eq_true
abbrev cy:=@List.mem_singleton
abbrev bU:=@List.length_set
abbrev c9:=@List.length_replicate
abbrev cj:=@List.length_take
abbrev cX:=@List.mem_append_left
abbrev bZ:=@List.length_nil
abbrev df:=@Bool.and_eq_true_iff
abbrev cA:=@List.append_nil
abbrev cB:=@List.length_map
abbrev bs:=@Nat.zero_le
abbrev dD:=@List.mem_append_right
abbrev cD:=@List.nil_append
abbrev ca:=@List.map_cons
abbrev cM:=@List.drop_zero
abbrev ck:=@Nat.le_trans
abbrev cN:=@List.sum_cons
abbrev dr:=@List.map_append
abbrev dG:=@List.getElem_mem
abbrev fF:=@Nat.eq_of_beq_eq_true
abbrev dw:=@Bool.not_false
abbrev cY:=@List.mem_map
abbrev eX:=@List.pairwise_cons
abbrev ec:=@List.length_drop
abbrev fG:=@List.mem_map_of_mem
abbrev dO:=@Int.toNat_zero
abbrev gT:=@List.take_append_drop
abbrev fv:=@Option.mem_toList
abbrev fV:=@decide_eq_true_iff
abbrev iq:=@List.getElem?_eq_none
abbrev iG:=@List.take_of_length_le
abbrev gL:=@List.getElem_of_mem
abbrev iH:=@Array.getElem?_toList
abbrev lH:=@Array.getElem?_eq_some_iff
abbrev jM:=@List.drop_of_length_le
abbrev fW:=@List.cons.injEq
abbrev fc:=@Bool.and_true
abbrev iI:=@Option.some.injEq
abbrev eJ:=@Nat.add_mul
abbrev kB:=@Nat.mul_le_mul_right
abbrev ir:=@List.take_length
abbrev pC:=@List.getElem?_append_right
abbrev jN:=@Bool.false_eq_true
abbrev jh:=@List.size_toArray
abbrev iu:=@Nat.min_eq_left
abbrev lI:=@List.mem_of_mem_take
abbrev fH:=@Int.le_trans
abbrev fX:=@Nat.zero_add
abbrev mV:=@List.mem_of_mem_drop
abbrev qW:=@List.drop_eq_getElem_cons
abbrev iJ:=@List.drop_drop
abbrev mW:=@Nat.mul_le_mul_left
abbrev tu:=@Array.getD_eq_getD_getElem?
abbrev fY:=@Int.le_refl
abbrev mX:=@List.getElem?_take
abbrev mY:=@List.getElem?_drop
abbrev gU:=@List.map_nil
abbrev vo:=@List.eq_nil_of_length_eq_zero
abbrev tv:=@List.getElem?_append_left
abbrev lJ:=@Bool.not_eq_true
abbrev n6:=@Nat.lt_of_lt_of_le
abbrev tx:=@List.take_append_getElem
abbrev mZ:=@List.cons_append
abbrev m0:=@List.drop_length
abbrev yI:=@List.take_append_of_le_length
abbrev yJ:=@Int.mul_le_mul_of_nonneg_left
abbrev vp:=@List.getElem?_eq_some_iff
abbrev vq:=@List.mem_or_eq_of_mem_set
abbrev vr:=@List.pairwise_iff_getElem
abbrev pD:=@Bool.false_ne_true
abbrev n7:=@Option.getD_some
abbrev fe:=@congrArg
abbrev pE:=@List.nodup_append
abbrev vt:=@Int.eq_ofNat_of_zero_le
abbrev lK:=@Int.mul_assoc
abbrev oa:=@List.sum_append
abbrev pF:=@List.all_eq_true
abbrev eL:=@and_true
abbrev pT:=@List.length_pos_iff
abbrev pU:=@List.map_congr_left
abbrev xc:=@List.drop_append_of_le_length
abbrev ob:=@List.getElem?_map
abbrev mz:=@List.drop_left'
abbrev jm:=@Int.mul_comm
abbrev jn:=@List.sum_nil
abbrev jo:=@Int.add_zero
abbrev rO:=@List.mem_iff_getElem
abbrev ux:=@Option.bind_eq_some_iff
abbrev oc:=@decide_eq_decide
abbrev od:=@List.filter_cons
abbrev kS:=@Bool.true_and
abbrev xd:=@Option.ne_none_iff_exists'
abbrev ia:=@Array.ext'
abbrev mA:=@List.take_zero
abbrev oe:=@Option.some.inj
abbrev og:=@Bool.or_eq_true
abbrev fI:=@if_false
abbrev AI:=@Int.mul_le_mul_of_nonneg_right
abbrev rP:=@Int.lt_of_le_of_lt
abbrev rQ:=@Bool.not_eq_true'
abbrev rR:=@Bool.not_eq_false
abbrev pV:=@Bool.eq_iff_iff
abbrev uy:=@Int.toNat_of_nonneg
abbrev fk:=@Ne.symm
abbrev mB:=@Nat.add_zero
abbrev xe:=@List.drop_eq_nil_of_le
abbrev kT:=@Nat.one_mul
abbrev xf:=@List.Pairwise.sublist
abbrev rS:=@List.mem_filter
abbrev oh:=@Nat.lt_or_ge
abbrev mC:=@Int.mul_add
abbrev uz:=@List.pairwise_map
abbrev xg:=@List.pairwise_append
abbrev pW:=@Nat.add_assoc
abbrev AJ:=@List.getElem_append_left
abbrev pX:=@Bool.false_or
abbrev AK:=@List.eq_of_mem_replicate
abbrev rT:=@List.drop_take
abbrev rU:=@List.take_take
abbrev AL:=@Nat.add_sub_cancel_left
abbrev rV:=@List.mem_range
abbrev uA:=@beq_self_eq_true
abbrev pY:=@Nat.beq_refl
abbrev AN:=@Option.map_eq_some_iff
abbrev AO:=@Int.ediv_lt_iff_lt_mul
abbrev uB:=@List.headD_cons
abbrev uC:=@Int.ediv_nonneg
abbrev jq:=@Prod.ext
abbrev rW:=@Bool.or_false
abbrev ib:=@if_true
abbrev xh:=@List.length_range
abbrev xi:=@decide_eq_true_eq
abbrev xj:=@Bool.eq_false_iff
abbrev uD:=@Nat.mul_le_mul
abbrev AP:=@Array.getElem_toList
abbrev uE:=@List.tail_cons
abbrev uF:=@Int.mul_nonneg
abbrev pZ:=@Int.add_mul
abbrev uG:=@Bool.false_and
abbrev oi:=@Int.not_lt
abbrev rX:=@Nat.mul_succ
abbrev Gh:=@List.getElem_append_right
abbrev AQ:=@List.replicate_succ
abbrev xk:=@List.take_left'
abbrev xl:=@List.length_zip
abbrev AS:=@Int.emod_lt_of_pos
abbrev AT:=@List.filter_append
abbrev rY:=@Nat.le_succ
abbrev rZ:=@Nat.sub_mul
abbrev Gi:=@List.getElem?_replicate
abbrev Gj:=@decide_eq_false_iff_not
abbrev Gk:=@List.pairwise_singleton
abbrev Gl:=@List.getElem_cons_zero
abbrev AU:=@List.flatten_cons
abbrev AV:=@List.ext_getElem?
abbrev uH:=@Nat.sub_self
abbrev AW:=@List.getElem_take
abbrev NL:=@Array.getElem?_setIfInBounds_ne
abbrev Gm:=@List.getElem?_toArray
abbrev Gn:=@Nat.le_of_ble_eq_true
abbrev Gp:=@List.singleton_append
abbrev AX:=@List.any_eq_true
abbrev NM:=@Nat.and_two_pow_sub_one_eq_mod
abbrev xm:=@List.all_cons
abbrev AY:=@List.nodup_cons
abbrev Gq:=@List.get_eq_getElem
abbrev NN:=@Nat.two_pow_add_eq_or_of_lt
abbrev xn:=@Int.zero_add
abbrev NO:=@iff_iff_implies_and_implies
abbrev Gr:=@List.getElem_range
abbrev AZ:=@List.mapM_cons
abbrev NP:=@Int.fdiv_eq_ediv_of_nonneg
abbrev NQ:=@Int.add_mul_emod_self_left
abbrev uI:=@Int.not_le
abbrev Gs:=@Int.tmod_lt_of_pos
abbrev NR:=@Array.getElem?_eq_getElem
abbrev NS:=@Classical.byContradiction
abbrev NT:=@Int.le_of_mul_le_mul_left
abbrev NU:=@Decidable.byContradiction
abbrev Gt:=@List.getElem_drop
abbrev Gu:=@Decidable.not_not
abbrev A0:=@List.any_cons
abbrev NV:=@List.length_eq_zero_iff
abbrev NW:=@List.getElem?_cons_zero
abbrev Gv:=@List.nil_sublist
abbrev NX:=@Array.getElem?_eq_none
abbrev NY:=@List.getElem_replicate
abbrev xp:=@Nat.beq_eq
abbrev NZ:=@List.append_eq_nil_iff
abbrev A2:=@Nat.pow_succ
abbrev A3:=@Int.pow_succ
abbrev A4:=@Int.mul_zero
abbrev N0:=@Int.ediv_eq_zero_of_lt
abbrev A5:=@Bool.true_or
abbrev N1:=@List.getElem?_set_self
abbrev Gw:=@List.range_succ
abbrev Gx:=@Int.emod_nonneg
abbrev N2:=@List.length_filter_le
abbrev N3:=@Int.mul_ediv_add_emod
abbrev N4:=@Nat.div_lt_iff_lt_mul
abbrev N5:=@Int.add_mul_ediv_left
abbrev N6:=@List.set_append_right
abbrev A6:=@Int.one_mul
abbrev Gy:=@Int.natAbs_mul
abbrev A7:=@Int.mul_neg
abbrev Gz:=@Bool.and_false
abbrev GA:=@Nat.lt_irrefl
abbrev A8:=@Nat.blt_eq
abbrev A9:=@Nat.ble_eq
abbrev GB:=@Nat.mul_comm
abbrev GC:=@Int.sub_zero
abbrev GD:=@Int.zero_mul
section
namespace VM
open Go
theorem aoQ{α:Type}(a:α): ∃b:α,b=a:=⟨a,rfl⟩
def bl{α:Type}(a:α):α:=Classical.choose (aoQ a)
theorem jr{α:Type}(a:α):bl a=a:=Classical.choose_spec (aoQ a)
def Ba:Nat:=68719476736
def W:IntKind→Int→Int:=bl λk x=>k.wrap x
def aX:Int→Int→Bool:=bl λx y=>decide (x<y)
def dy:Int→Int→Bool:=bl λx y=>decide (x≤y)
def aM:Int→Int→Bool:=bl λx y=>decide (x=y)
def bg:Int→Nat→Bool:=bl λi n=>decide (0≤i∧i<(n:Int))
def small:Nat→Bool:=bl λn=>decide (n<Ba)
def kU:Int→Int→Bool:=bl λl c=>decide (0≤l∧l≤c∧c<(Ba:Int))
def jc:Int→Int→Int→Int→Bool:=bl λl h m n=>decide (0≤l∧l≤h∧h≤m∧m≤n)
def quo:Int→Int→Int:=bl λx y=>x.tdiv y
def rem:Int→Int→Int:=bl λx y=>x.tmod y
def shl:IntKind→Int→Int→Int:=bl λk x y=>x*2^(min y.toNat k.bits)
def shr:IntKind→Int→Int→Int:=bl λk x y=>x.fdiv (2^(min y.toNat k.bits))
def mx:Int→Int→Int:=bl λx y=>if y>x then y else x
def mn:Int→Int→Int:=bl λx y=>if y<x then y else x
def X2:ByteArray→ByteArray→Bool:=bl λx y=>decide (x.toList=y.toList)
theorem EY(k:IntKind)(x:Int):W k x=k.wrap x:=by unfold W;rw[jr]
theorem qv(x y:Int):aX x y=decide (x<y):=by unfold aX;rw[jr]
theorem m9(x y:Int):dy x y=decide (x≤y):=by unfold dy;rw[jr]
theorem jO(x y:Int):aM x y=decide (x=y):=by unfold aM;rw[jr]
theorem X4(i:Int)(n:Nat):bg i n=decide (0≤i∧i<(n:Int)):=by unfold bg;rw[jr]
theorem GF(n:Nat):small n=decide (n<Ba):=by unfold small;rw[jr]
theorem Kd(l c:Int):kU l c=decide (0≤l∧l≤c∧c<(Ba:Int)):=by unfold kU;rw[jr]
theorem sa(l h m n:Int):jc l h m n=decide (0≤l∧l≤h∧h≤m∧m≤n):=by unfold jc;rw[jr]
theorem Ya(x y:Int):quo x y=x.tdiv y:=by unfold quo;rw[jr]
theorem aj4(x y:Int):rem x y=x.tmod y:=by unfold rem;rw[jr]
theorem Yb(k:IntKind)(x y:Int):shl k x y=x*2^(min y.toNat k.bits):=by unfold shl;rw[jr]
theorem Sc(k:IntKind)(x y:Int):shr k x y=x.fdiv (2^(min y.toNat k.bits)):=by unfold shr;rw[jr]
theorem aiE(x y:Int):mx x y=if y>x then y else x:=by unfold mx;rw[jr]
theorem Yc(x y:Int):mn x y=if y<x then y else x:=by unfold mn;rw[jr]
theorem GG(x y:ByteArray):X2 x y=decide (x.toList=y.toList):=by unfold X2;rw[jr]
inductive Bw where|and|or|xor|andNot
def sb:Bw→IntKind→Int→Int→Int:=bl λo k x y=>
 let a:=BitVec.ofInt k.bits x
 let b:=BitVec.ofInt k.bits y
 k.wrap (match o with| .and=>a&&& b| .or=>a|||b| .xor=>a^^^b| .andNot=>a&&& ~~~b).toNat
theorem vu(o:Bw)(k:IntKind)(x y:Int):sb o k x y=
 let a:=BitVec.ofInt k.bits x
 let b:=BitVec.ofInt k.bits y
 k.wrap (match o with| .and=>a&&& b| .or=>a|||b| .xor=>a^^^b| .andNot=>a&&& ~~~b).toNat:=by unfold sb;rw[jr]
def strOf(l:List Nat):ByteArray:=⟨(l.map UInt8.ofNat).toArray⟩
inductive Ty where
 |int (k:IntKind)
 |bool
 |str
 |slice (e:Ty)
 |unit
 |pair (a b:Ty)
 |arr (n:Nat) (e:Ty)
 deriving DecidableEq
@[reducible] def Ty.den:Ty→Type
 | .int _=>Int
 | .bool=>Bool
 | .str=>ByteArray
 | .slice e=>List e.den
 | .unit=>Unit
 | .pair a b=>a.den×b.den
 | .arr _ e=>List e.den
def Ty.size:Ty→Nat
 | .int _| .bool| .str| .slice _=>1
 | .unit=>0
 | .pair a b=>a.size+b.size
 | .arr n e=>n*e.size
def Ty.isAgg:Ty→Bool
 | .unit| .pair _ _| .arr _ _=>true
 |_=>false
def Ty.zero:(τ:Ty)→τ.den
 | .int _=>(0:Int)
 | .bool=>false
 | .str=>ByteArray.empty
 | .slice _=>[]
 | .unit=>()
 | .pair a b=>(a.zero,b.zero)
 | .arr n e=>List.replicate n e.zero
def Ty.comparable:Ty→Bool
 | .slice _=>false
 | .pair a b=>a.comparable&&b.comparable
 | .arr _ _=>false
 |_=>true
def aoR{α:Type}(f:α→α→Bool):List α→List α→Bool
 |[],[]=>true
 |x::xs,y::ys=>f x y&&aoR f xs ys
 |_,_=>false
def oX:(τ:Ty)→τ.den→τ.den→Bool
 | .int _,x,y=>aM x y
 | .bool,x,y=>x==y
 | .str,x,y=>X2 x y
 | .slice _,_,_=>false
 | .unit,_,_=>true
 | .pair a b,x,y=>oX a x.1 y.1&&oX b x.2 y.2
 | .arr _ e,x,y=>aoR (oX e) x y
inductive Step where
 |gM (n:Nat)
 |idx (i:Nat)
def Jx:List Step→List Step→Bool
 |[],[]=>true
 | .gM a::p,.gM b::q=>Nat.beq a b&&Jx p q
 |_,_=>false
def zi:List Step→List Step→Bool
 |[],_=>true
 | .gM a::p,.gM b::q=>Nat.beq a b&&zi p q
 |_,_=>false
def zj:Ty→Nat→Option Ty
 | .pair a b,n=>match n with
  |0=>some a
  |n+1=>zj b n
 |_,_=>none
def fA:List Step→Ty→Ty→Bool
 |[],τ,υ=>decide (τ=υ)
 | .gM n::p,τ,υ=>match zj τ n with
  |some a=>fA p a υ
  |none=>false
 |_,_,_=>false
inductive bG where
 |any
 |Yd
 |val (τ:Ty) (x:τ.den)
 |LG (τ:Ty) (x:τ.den) (n:Nat)
 |Jy (τ:Ty) (x:τ.den) (n:Nat) (j:Nat)
 |sub (id:Nat) (e:Ty) (lo:Nat)
 |emp
 |ref (id:Nat)
 |jf (id:Nat) (p:List Step)
 |sd (τ:Ty) (x:τ.den)
 |tup (vs:List bG)
 |N7 (f:Nat) (caps:List bG)
inductive br where
 |obj (τ:Ty) (x:τ.den)
 |gk (τ:Ty) (x:τ.den) (p:List Step) (j:Nat)
 |own (e:Ty) (l:List e.den)
 |pG (e:Ty) (l:List e.den)
 |gone
structure St where
 T:Nat→bG
 H:Nat→Option br
def St.put(σ:St)(d:Nat)(v:bG):St:=⟨λi=>cond (Nat.beq i d) v (σ.T i),σ.H⟩
def St.kt(σ:St)(d:Nat)(v:Option br):St:=⟨σ.T,λi=>cond (Nat.beq i d) v (σ.H i)⟩
def St.wP(σ:St)(d:Option Nat)(v:bG):St:=match d with|some d=>σ.put d v|none=>σ
def N8(n:Nat)(io:List Nat):Option Nat→Bool|some d=>Nat.blt d n&&io.all (λi=> !(Nat.beq i d))|none=>true
def St.xq(σ:St):List (Nat×Option br)→St
 |[]=>σ
 |u::r=>(σ.kt u.1 u.2).xq r
abbrev S0:St:=⟨λ_=> .any,λ_=>none⟩
abbrev js:=List (Nat×Option br)
section K
variable{α:Type}
def vv:(τ:Ty)→τ.den→Nat→((υ:Ty)→υ.den→Option α)→Option α
 | .pair a b,x,n,k=>match n with
  |0=>k a x.1
  |n+1=>vv b x.2 n k
 |_,_,_,_=>none
def fZ:(τ:Ty)→τ.den→Nat→((υ:Ty)→υ.den→(υ.den→Option α)→Option α)→(τ.den→Option α)→Option α
 | .pair a b,x,n,m,k=>match n with
  |0=>m a x.1 λz=>k (z,x.2)
  |n+1=>fZ b x.2 n m λz=>k (x.1,z)
 |_,_,_,_,_=>none
def jt(τ υ:Ty)(k:Option α):Option α:=if τ=υ then k else none
def cR(υ τ:Ty)(y:υ.den)(k:τ.den→Option α):Option α:=if h:υ=τ then k (h▸y)else none
def aj5(τ:Ty)(x:τ.den)(i:Nat)(k:(υ:Ty)→υ.den→Option α):Option α:=
 match τ,x with
 | .arr _ e,x=>k e (γ x i e.zero)
 |_,_=>none
def FB(τ:Ty)(x:τ.den)(i:Nat)(m:(υ:Ty)→υ.den→(υ.den→Option α)→Option α)(k:τ.den→Option α):Option α:=
 match τ,x,k with
 | .arr _ e,x,k=>m e (γ x i e.zero) λz=>k (List.set x i z)
 |_,_,_=>none
def Bb:List Step→(τ:Ty)→τ.den→((υ:Ty)→υ.den→Option α)→Option α
 |[],τ,x,k=>k τ x
 | .gM n::p,τ,x,k=>vv τ x n fun υ y=>Bb p υ y k
 | .idx i::p,τ,x,k=>aj5 τ x i fun υ y=>Bb p υ y k
def wQ(υ:Ty)(y:υ.den):List Step→(τ:Ty)→τ.den→(τ.den→Option α)→Option α
 |[],τ,_,k=>cR υ τ y k
 | .gM n::p,τ,x,k=>fZ τ x n (fun υ' y' k'=>wQ υ y p υ' y' k') k
 | .idx i::p,τ,x,k=>FB τ x i (fun υ' y' k'=>wQ υ y p υ' y' k') k
def nc(fz:Bool)(a:bG)(H:Nat→Option br)(τ:Ty)(k:τ.den→List Nat→js→Option α):Option α:=
 match a with
 | .val υ x=>cR υ τ x λy=>k y [] []
 | .LG υ x _=>cR υ τ x λy=>k y [] []
 | .emp=>match τ,k with
  | .slice _,k=>k [] [] []
  |_,_=>none
 | .ref id=>match H id with
  |some (.own e l)=>cR (.slice e) τ l λy=>k y [id] (cond fz [(id,some (.pG e l))] [])
  |some (.pG e l)=>cR (.slice e) τ l λy=>k y [id] []
  |_=>none
 |_=>none
def N9(a:bG)(k:(τ:Ty)→τ.den→Option α):Option α:=
 match a with
 | .val υ x=>k υ x
 |_=>none
def mf(id:Nat)(p:List Step)(H:Nat→Option br)(k:Ty→Option α):Option α:=
 match H id with
 |some (.obj τ x)=>Bb p τ x fun υ _=>k υ
 |some (.gk τ x _ _)=>Bb p τ x fun υ _=>k υ
 |some (.own e l)|some (.pG e l)=>match p with
  | .idx i::p=>Bb p e (γ l i e.zero) fun υ _=>k υ
  |_=>none
 |_=>none
def aAb(a:bG)(H:Nat→Option br)(k:(τ:Ty)→τ.den→List Nat→Option α):Option α:=
 match a with
 | .val υ x=>k υ x []
 | .ref id=>match H id with
  |some (.own e l)|some (.pG e l)=>k (.slice e) l [id]
  |_=>none
 |_=>none
def wR(a:bG)(k:IntKind→Int→Option α):Option α:=
 match a with
 | .val (.int i) x=>k i x
 |_=>none
end K
inductive AM where
 |v (τ:Ty)
 |own (e:Ty)
 |io (τ:Ty)
 |fn (f:Nat) (τ:Ty)
 |ptr (τ:Ty)
 |jf (τ:Ty)
 |lo (e:Ty)
 |sp (τ:Ty) (n:Nat) (e:Ty)
 deriving DecidableEq
@[reducible] def AM.den:AM→Type
 | .v τ=>τ.den
 | .own e=>List e.den
 | .io τ=>τ.den
 | .fn _ τ=>τ.den
 | .ptr τ=>τ.den
 | .jf τ=>τ.den
 | .lo e=>List e.den
 | .sp τ _ _=>τ.den
@[reducible] def HP:List AM→Type
 |[]=>Unit
 |[m]=>m.den
 |m::n::ms=>m.den×HP (n::ms)
structure nf where
 args:List AM
 res:List AM
 quiet:Bool
 run:HP args→Option (HP res)
inductive CM where
 |v (τ:Ty)
 |own (e:Ty)
 |obj (τ:Ty)
 |gk (τ:Ty) (q:List Step) (e:Ty)
 |same (s:Nat)
 |io (τ:Ty)
 |fn (f:Nat) (τ:Ty)
structure Env where
 nt:Nat
 ty:Nat→Option Ty
 Γ:Nat→List nf
 N:Nat
 xr:Nat→Option (List (Nat×CM))
 zk:Nat→Option (List (Nat×CM))
 io:List Nat:=[]
 lk:Option (Ty×List Step×Ty×List Nat):=none
def Env.vw(E:Env):Bool:=match E.lk with
 |some (_,_,_,ds)=>ds.any λd=>Nat.beq d 1000001
 |none=>false
def Env.sp(E:Env):Bool:=match E.lk with
 |some (_,_,_,ds)=>ds.any λd=>Nat.beq d 1000000
 |none=>false
def lkT(E:Env)(τ:Ty):Option (List Step×Ty):=match E.lk with
 |some (υ,q,e,_)=>cond (decide (υ=τ)) (cond (fA q τ (.slice e)) (some (q,e)) none) none
 |none=>none
def Jz(E:Env)(τ:Ty)(id:Nat):Option (List Step×Ty):=match E.lk with
 |some (_,_,_,ds)=>cond (ds.any λd=>Nat.beq (id/16) d) (lkT E τ) none
 |none=>none
def cvA:Value→bG
 | .int k n=> .val (.int k) n
 | .bool b=> .val .bool b
 | .string s=> .val .str s
 | .slice none 0 0=> .emp
 |_=> .any
def St.ρ (σ:St):Operand→bG
 | .tmp t=>σ.T t
 | .const v=>cvA v
 | .global _=> .any
 | .func f=> .N7 f []
section
variable{α:Type}
def vx(op:BinOp)(k:IntKind)(x y:Int)(K:bG→Option α):Option α:=
 match op with
 | .add=>K (.val (.int k) (W k (x+y)))
 | .sub=>K (.val (.int k) (W k (x-y)))
 | .mul=>K (.val (.int k) (W k (x*y)))
 | .quo=>cond (aM y 0) none (K (.val (.int k) (W k (quo x y))))
 | .rem=>cond (aM y 0) none (K (.val (.int k) (rem x y)))
 | .and=>K (.val (.int k) (sb .and k x y))
 | .or=>K (.val (.int k) (sb .or k x y))
 | .xor=>K (.val (.int k) (sb .xor k x y))
 | .andNot=>K (.val (.int k) (sb .andNot k x y))
 | .eql=>K (.val .bool (aM x y))
 | .neq=>K (.val .bool (!aM x y))
 | .lss=>K (.val .bool (aX x y))
 | .leq=>K (.val .bool (dy x y))
 | .gtr=>K (.val .bool (aX y x))
 | .geq=>K (.val .bool (dy y x))
 |_=>none
def shK(op:BinOp)(k:IntKind)(x y:Int)(K:bG→Option α):Option α:=
 match op with
 | .shl=>cond (aX y 0) none (K (.val (.int k) (W k (shl k x y))))
 | .shr=>cond (aX y 0) none (K (.val (.int k) (shr k x y)))
 |_=>none
def ab2:BinOp→Bool
 | .shl| .shr=>true
 |_=>false
def GH(t:Option Ty)(op:BinOp)(τ:Ty)(x:τ.den)(υ:Ty)(y:υ.den)(K:bG→Option α):Option α:=
 match τ,x,υ,y with
 | .int k,x,.int k',y=>cond (ab2 op) (shK op k x y K) (if k=k' then vx op k x y K else none)
 |τ,x,υ,y=>match t with
  |none=>none
  |some u=>jt u τ (cond τ.comparable (match op with
   | .eql=>cR υ τ y λy=>K (.val .bool (oX τ x y))
   | .neq=>cR υ τ y λy=>K (.val .bool (!oX τ x y))
   |_=>none) none)
def Vr(op:UnOp)(a:bG)(K:bG→Option α):Option α:=
 match op,a with
 | .neg,.val (.int k) n=>K (.val (.int k) (W k (0-n)))
 | .xor,.val (.int k) n=>K (.val (.int k) (sb .xor k (if k.signed then-1 else k.max) n))
 | .not,.val .bool b=>K (.val .bool (!b))
 |_,_=>none
abbrev gS(α:Type):=bG→List Nat→js→Option α
def mmK(up:Bool):bG→List bG→(bG→Option α)→Option α
 |a,[],K=>K a
 |a,b::r,K=>wR a λk x=>wR b λk' y=>if k=k' then mmK up (.val (.int k) (cond up (mx x y) (mn x y))) r K else none
def Oa(τ:Ty)(a:bG)(H:Nat→Option br)(K:gS α):Option α:=
 match τ,a with
 | .slice _,.val (.slice _) l=>K (.val (.int .i64) (ℓ l:Int)) [] []
 | .arr n _,.val (.arr _ _) _=>K (.val (.int .i64) (n:Int)) [] []
 | .str,.val .str s=>K (.val (.int .i64) (ByteArray.size s:Int)) [] []
 | .slice _,.emp=>K (.val (.int .i64) (0:Int)) [] []
 | .slice _,.ref id=>match H id with
  |some (.own _ l)|some (.pG _ l)=>K (.val (.int .i64) (l.length:Int)) [id] []
  |_=>none
 |_,_=>none
def se(H:Nat→Option br)(id:Nat)(e:br)(K:Option α):Option α:=
 match H id with
 |none=>K
 |some _=>none
def Ob(id:Nat)(e:Ty)(a b:bG)(H:Nat→Option br)(K:gS α):Option α:=
 nc false b H (.slice e) λys rd _=>
  match a with
  | .emp=>cond (small (ℓ ys)) (K (.ref id) (id::rd) [(id,some (.own e ys))]) none
  | .ref j=>match H j with
   |some (.own e' l)=>cR (.slice e') (.slice e) l λxs=>
    cond (small (ℓ xs+ℓ ys)) (K (.ref id) (id::j::rd) [(j,some .gone),(id,some (.own e (xs++ys)))]) none
   |_=>none
  |_=>none
def mg(τ:Ty)(H:Nat→Option br):List (Nat×bG)→τ.den→List Nat→js→(τ.den→List Nat→js→Option α)→Option α
 |[],x,rd,ups,K=>K x rd ups
 |p::r,x,rd,ups,K=>vv τ x p.1 fun υ _=>nc true p.2 H υ λy yK ju=>
  fZ τ x p.1 (fun υ' _ k'=>cR υ υ' y k') λz=>mg τ H r z (yK++rd) (ups++ju) K
def xt(e:Ty)(H:Nat→Option br)(n:Nat):List (Nat×bG)→List e.den→List Nat→js→(List e.den→List Nat→js→Option α)→Option α
 |[],l,rd,ups,K=>K l rd ups
 |p::r,l,rd,ups,K=>cond (Nat.blt p.1 n) (nc true p.2 H e λy yK ju=>xt e H n r (List.set l p.1 y) (yK++rd) (ups++ju) K) none
def DM(v:bG)(H:Nat→Option br):(a:Ty)→(a.den→List Nat→js→Option α)→Option α
 | .pair a .unit,k=>match v with
  | .sd υ x=>cR υ a x λy=>k (y,()) [] []
  |_=>none
 |a,k=>nc true v H a k
def DN:(a:Ty)→a.den→bG
 | .pair a .unit,x=> .sd a x.1
 |a,x=> .val a x
def sf(H:Nat→Option br):(τ:Ty)→List bG→(τ.den→List Nat→js→Option α)→Option α
 | .unit,[],K=>K () [] []
 | .pair a b,v::vs,K=>DM v H a λx rd ups=>sf H b vs λxs yK ju=>K (x,xs) (yK++rd) (ups++ju)
 |_,_,_=>none
def qP:(τ:Ty)→τ.den→List bG
 | .pair a b,x=>DN a x.1::qP b x.2
 |_,_=>[]
def cm(H:Nat→Option br)(d:Nat)(v:Option br):Nat→Option br:=λi=>cond (Nat.beq i d) v (H i)
def xu(H:Nat→Option br):List bG→(List bG→List Nat→js→Option α)→Option α
 |[],K=>K [] [] []
 |a::r,K=>match a with
  | .jf id []=>match H id with
   |some (.obj τ x)=>xu (cm H id (some .gone)) r λcs rd ups=>K (.sd τ x::cs) (id::rd) ((id,some .gone)::ups)
   |_=>none
  |a=>xu H r λcs rd ups=>K (a::cs) rd ups
def oY(m:AM)(a:bG)(H:Nat→Option br)(k:m.den→(Nat→Option br)→List Nat→js→js→List (Nat×AM)→Option α):Option α:=
 match m,k with
 | .v τ,k=>nc true a H τ λx rd uf=>match uf with
  |[]=>k x H rd [] [] []
  |u::r=>k x (cm H u.1 u.2) rd [] (u::r) []
 | .own e,k=>match a with
  | .emp=>k [] H [] [] [] []
  | .ref id=>match H id with
   |some (.own e' l)=>cR (.slice e') (.slice e) l λx=>k x (cm H id (some .gone)) [id] [(id,some .gone)] [] []
   |_=>none
  |_=>none
 | .io τ,k=>match a with
  | .jf id []=>match H id with
   |some (.obj υ x)=>cR υ τ x λy=>k y (cm H id (some .gone)) [id] [] [] [(id,.io τ)]
   |_=>none
  |_=>none
 | .fn f τ,k=>match a with
  | .N7 f' c=>cond (Nat.beq f f') (sf H τ c λx rd uf=>match uf with
   |[]=>k x H rd [] [] []
   |_=>none) none
  |_=>none
 | .ptr _,_=>none
 | .jf τ,k=>match a with
  | .sd υ x=>cR υ τ x λy=>k y H [] [] [] []
  |_=>none
 | .lo e,k=>match a with
  | .ref id=>match H id with
   |some (.own e' l)=>cR (.slice e') (.slice e) l λx=>k x (cm H id (some .gone)) [id] [] [] [(id,.lo e)]
   |_=>none
  |_=>none
 | .sp _ _ _,_=>none
def uK:(ms:List AM)→List bG→(Nat→Option br)→List Nat→js→js→List (Nat×AM)→(HP ms→List Nat→js→js→List (Nat×AM)→Option α)→Option α
 |[],[],_,rd,uo,uf,io,K=>K () rd uo uf io
 |[m],[a],H,rd,uo,uf,io,K=>oY m a H λx _ yK Nx Ny Ji=>K x (yK++rd) (Nx++uo) (Ny++uf) (io++Ji)
 |m::n::ms,a::qX,H,rd,uo,uf,io,K=>oY m a H λx H' yK Nx Ny Ji=>
  uK (n::ms) qX H' (yK++rd) (Nx++uo) (Ny++uf) (io++Ji) λxs rd uo uf io=>K (x,xs) rd uo uf io
 |_,_,_,_,_,_,_,_=>none
def xv(m:AM)(x:m.den)(id:Nat):bG×js:=
 match m,x with
 | .v τ,x=>(.val τ x,[])
 | .own e,x=>(.ref id,[(id,some (.own e x))])
 | .io τ,x=>(.val τ x,[])
 | .fn _ _,_=>(.any,[])
 | .ptr τ,x=>(.jf id [],[(id,some (.obj τ x))])
 | .jf _,_=>(.any,[])
 | .lo _,_=>(.any,[])
 | .sp τ n e,x=>match vv τ x n (fun υ y=>cR υ (.slice e) y some),fZ τ x n (fun υ' _ k'=>cR (.slice e) υ' [] k') some with
  |some l,some z=>(.Jy τ z n id,[(id,some (.own e l))])
  |_,_=>(.any,[])
def iD:(ms:List AM)→HP ms→Nat→List (Nat×AM)→List bG×js×List (Nat×AM)
 |[],_,_,io=>([],[],io)
 |[m],x,id,io=>match m,x,io with
  | .io τ,x,(j,_)::io=>([],[(j,some (.obj τ x))],io)
  | .lo e,x,(j,_)::io=>([],[(j,some (.own e x))],io)
  |m,x,io=>([(xv m x id).1],(xv m x id).2,io)
 |m::n::ms,x,id,io=>match m,x,io with
  | .io τ,x,(j,_)::io=>let r:=iD (n::ms) x.2 (id+1) io;(r.1,(j,some (.obj τ x.1))::r.2.1,r.2.2)
  | .lo e,x,(j,_)::io=>let r:=iD (n::ms) x.2 (id+1) io;(r.1,(j,some (.own e x.1))::r.2.1,r.2.2)
  |m,x,io=>let r:=iD (n::ms) x.2 (id+1) io;((xv m x.1 id).1::r.1,(xv m x.1 id).2++r.2.1,r.2.2)
def Oc:List bG→bG
 |[]=> .any
 |[a]=>a
 |l=> .tup l
def vy(H:Nat→Option br)(id:Nat):Nat→Bool
 |0=>true
 |n+1=>(match H (id+n)with|none=>true|some _=>false)&&vy H id n
def Od(id:Nat):Nat→List Nat
 |0=>[]
 |n+1=>(id+n)::Od id n
def fits:List AM→List bG→Bool
 |[],[]=>true
 | .fn f _::ms,.N7 g _::qX=>Nat.beq f g&&fits ms qX
 | .fn _ _::_,_::_=>false
 |_::ms,_::qX=>fits ms qX
 |_,_=>false
def Oe:List nf→List bG→Option nf
 |[],_=>none
 |S::r,qX=>cond (fits S.args qX) (some S) (Oe r qX)
def DO(E:Env)(f:Nat)(qX:List bG)(id:Nat)(H:Nat→Option br)(K:gS α):Option α:=
 match Oe (E.Γ f) qX with
 |none=>none
 |some S=>uK S.args qX H [] [] [] [] λx rd uo uf io=>
  (S.run x).bind λy=>
   let r:=iD S.res y id io
   cond (vy H id S.res.length) (K (Oc r.1) (Od id S.res.length++(r.2.1.map (·.1)++rd)) (uo++cond S.quiet [] uf++r.2.1)) none
def zm(a:Option bG)(d:Int)(k:Int→Option α):Option α:=
 match a with
 |none=>k d
 |some a=>wR a λ_ x=>k x
def kC:Option Operand→Bool
 |some (.const (.int _ n))=>decide (n=0)
 |_=>false
def si(t:Ty)(z:Bool)(a:bG)(lo hi mx:Option bG)(H:Nat→Option br)(K:gS α):Option α:=
 match t,a with
 | .str,.val .str s=>cond mx.isNone (zm lo 0 λl=>zm hi (ByteArray.size s:Int) λh=>
  cond (jc l h (ByteArray.size s:Int) (ByteArray.size s:Int)) (K (.val .str (ByteArray.extract s l.toNat h.toNat)) [] []) none) none
 | .slice _,.emp=>cond z (K .emp [] []) (cond mx.isNone (zm lo 0 λl=>zm hi 0 λh=>cond (jc l h 0 0) (K .emp [] []) none) none)
 | .slice e,a=>nc (!z) a H (.slice e) λx rd ups=>cond z (K .emp rd [])
  (cond (mx.isNone||hi.isSome) (zm lo 0 λl=>zm hi (ℓ x:Int) λh=>zm mx (ℓ x:Int) λm=>
   cond (jc l h m (ℓ x:Int))
    (K (.val (.slice e) (List.drop l.toNat (List.take h.toNat x))) rd ups) none) none)
 |_,_=>none
def xw(E:Env)(t:Ty)(z:Bool)(a:bG)(lo hi mx:Option bG)(H:Nat→Option br)(K:gS α):Option α:=
 match E.vw,t,a,lo,hi,mx with
 |true,.slice e,.ref id,some lo,none,none=>wR lo λ_ i=>match H id with
  |some (.own e' l)=>jt e' e (cond (jc i (ℓ l:Int) (ℓ l:Int) (ℓ l:Int)) (K (.sub id e i.toNat) [id] []) none)
  |_=>none
 |_,t,a,lo,hi,mx=>si t z a lo hi mx H K
def zO(e:Ty)(a:bG)(H:Nat→Option br)(K:gS α):Option α:=
 match a with
 | .sub id e' lo=>jt e' e (match H id with
  |some (.own e2 l)=>cR (.slice e2) (.slice e) l λl=>K .any [id] [(id,some (.own e (List.take lo l++List.replicate (ℓ l-lo) e.zero)))]
  |_=>none)
 |_=>none
def ic(τ:Ty)(a i:bG)(H:Nat→Option br)(K:gS α):Option α:=
 wR i λ_ i=>
 match τ with
 | .slice e=>match a with
  | .val υ l=>cR υ (.slice e) l λl=>cond (bg i (ℓ l)) (K (.sd e (γ l i.toNat e.zero)) [] []) none
  | .ref id=>match H id with
   |some (.own e' l)|some (.pG e' l)=>jt e' e (cond (bg i (ℓ l)) (K (.jf id [.idx i.toNat]) [id] []) none)
   |_=>none
  |_=>none
 | .arr n e=>match a with
  | .jf id p=>mf id p H fun υ=>jt υ (.arr n e) (cond (bg i n) (K (.jf id (p++[.idx i.toNat])) [id] []) none)
  | .sd υ l=>cR υ (.arr n e) l λl=>cond (bg i n) (K (.sd e (γ l i.toNat e.zero)) [] []) none
  |_=>none
 |_=>none
def xx(τ:Ty)(a i:bG)(K:bG→Option α):Option α:=
 wR i λ_ i=>
 match τ,a with
 | .arr n e,.val υ l=>cR υ (.arr n e) l λl=>cond (bg i n) (K (.val e (γ l i.toNat e.zero))) none
 | .str,.val .str s=>cond (bg i (ByteArray.size s)) (K (.val (.int .u8) ((s.data.getD i.toNat 0).toNat:Int))) none
 |_,_=>none
def lY(a:bG)(H:Nat→Option br)(K:(υ:Ty)→υ.den→List Nat→Option α):Option α:=
 match a with
 | .sd τ x=>K τ x []
 | .jf id p=>match H id with
  |some (.obj τ x)=>Bb p τ x fun υ y=>K υ y [id]
  |some (.own e l)|some (.pG e l)=>match p with
   | .idx i::p=>Bb p e (γ l i e.zero) fun υ y=>K υ y [id]
   |_=>none
  |_=>none
 |_=>none
def ng(τ:Ty)(a v:bG)(H:Nat→Option br)(K:gS α):Option α:=
 match a with
 | .jf id p=>nc true v H τ λy rd ups=>
  match H id with
  |some (.obj υ x)=>wQ τ y p υ x λz=>K .any (id::rd) (ups++[(id,some (.obj υ z))])
  |some (.own e l)=>match p with
   | .idx i::p=>cond (rd.contains id) none (wQ τ y p e (γ l i e.zero) λz=>K .any (id::rd) (ups++[(id,some (.own e (List.set l i z)))]))
   |_=>none
  |_=>none
 |_=>none
def CD(j:Nat)(q:List Step)(τ:Ty)(x:τ.den)(H:Nat→Option br)(k:τ.den→js→Option α):Option α:=
 match H j with
 |some (.own e l)=>wQ (.slice e) l q τ x λz=>k z [(j,some (.pG e l))]
 |some (.pG e l)=>wQ (.slice e) l q τ x λz=>k z []
 |_=>none
def uM(τ:Ty)(a:bG)(H:Nat→Option br)(K:gS α):Option α:=
 let oS:=lY a H fun υ y rd=>cR υ τ y λz=>K (.val τ z) rd []
 match a with
 | .jf id p=>match H id with
  |some (.gk υ x q j)=>cond (Jx p q) (cond (fA q υ τ) (K (.ref j) [id] []) none)
   (cond (zi p q) (CD j q υ x H λz ups=>Bb p υ z fun υ' y=>cR υ' τ y λy'=>K (.val τ y') [id,j] ups)
    (Bb p υ x fun υ' y=>cR υ' τ y λy'=>K (.val τ y') [id] []))
  |_=>oS
 |_=>oS
def zA(τ:Ty)(id k:Nat)(e:Ty)(q:List Step)(υ:Ty)(x:υ.den)(H:Nat→Option br)(K:gS α):Option α:=
 match H k with
 |some (.own e' _)=>jt e' e (jt τ (.slice e) (wQ (.slice e) [] q υ x λz=>K .any [id,k] [(id,some (.gk υ z q k))]))
 |_=>none
def kV(E:Env)(τ:Ty)(a v:bG)(H:Nat→Option br)(K:gS α):Option α:=
 let oS:=ng τ a v H K
 match a with
 | .jf id p=>match H id with
  |some (.obj υ x)=>match Jz E υ id,v with
   |some (q,e),.ref k=>cond (Jx p q) (zA τ id k e q υ x H K) oS
   |_,_=>oS
  |some (.gk υ x q j)=>
   let put:=nc true v H τ λy rd ups=>wQ τ y p υ x λz=>K .any (id::rd) (ups++[(id,some (cond (zi p q) (.obj υ z) (.gk υ z q j)))])
   match Jz E υ id,v with
   |some (q',e),.ref k=>cond (Jx p q&&Jx q q') (zA τ id k e q υ x H K) put
   |_,_=>put
  |_=>oS
 |_=>oS
def ub(E:Env)(τ:Ty)(a v:bG)(H:Nat→Option br)(K:gS α):Option α:=
 match a,v with
 | .jf id [],.LG υ y n=>match Jz E υ id with
  |some ([.gM m],e)=>cond (Nat.beq m n) (jt τ υ (mf id [] H fun υ'=>jt υ' υ
   (se H (id+2) (.own e []) (K .any [id,id+2] [(id,some (.gk υ y [.gM m] (id+2))),(id+2,some (.own e []))])))) (kV E τ a v H K)
  |_=>kV E τ a v H K
 |_,_=>kV E τ a v H K
def EZ(H:Nat→Option br)(id:Nat)(τ:Ty)(x:τ.den)(q:List Step)(e:Ty)(K:gS α):Option α:=
 se H id (.obj τ x) (se H (id+1) (.own e []) (K (.jf id []) [id,id+1] [(id,some (.gk τ x q (id+1))),(id+1,some (.own e []))]))
def ab3(E:Env)(ps:List (Nat×bG))(τ:Ty)(x:τ.den):bG:=match lkT E τ with
 |some ([.gM n],_)=>cond (ps.all λp=> !(Nat.beq p.1 n)) (.LG τ x n) (.val τ x)
 |_=> .val τ x
def Bc(E:Env)(τ:Ty)(a:bG)(H:Nat→Option br)(K:gS α):Option α:=
 match E.sp,a with
 |true,.jf id []=>match H id with
  |some (.gk υ x [.gM n] j)=>cR υ τ x λx=>K (.Jy τ x n j) [id] []
  |_=>uM τ a H λv rd ups=>K v (id::rd) ups
 |_,_=>uM τ a H K
def uc(E:Env)(τ:Ty)(a v:bG)(H:Nat→Option br)(K:gS α):Option α:=
 match a,v with
 | .jf id [],.Jy υ y n j=>match Jz E υ id with
  |some ([.gM m],e)=>cond (Nat.beq m n) (jt τ υ (mf id [] H fun υ'=>jt υ' υ (match H j with
   |some (.own e' _)=>jt e' e (K .any [id,j] [(id,some (.gk υ y [.gM m] j))])
   |_=>none))) none
  |_=>none
 |_,_=>ub E τ a v H K
def cU(H:Nat→Option br):js→(Nat→Option br)
 |[]=>H
 |u::r=>cU (cm H u.1 u.2) r
def aj6(E:Env)(id n:Nat):Bool:=match E.lk with
 |some (_,_,_,ds)=>(ds.any λd=>Nat.beq d (2000000+n))&&ds.any λd=>Nat.beq (id/16) d
 |none=>false
def sj(E:Env)(τ:Ty)(a v:bG)(H:Nat→Option br)(K:gS α):Option α:=
 match a,v with
 | .jf id [.gM n],.ref k=>cond (aj6 E id n) (match H id with
  |some (.gk υ x q j)=>cond (Jx q [.gM n]) (uc E τ (.jf id [.gM n]) (.ref k) H λv rd ups=>K v (id::rd) ups) (match zj υ n with
   |some (.slice e)=>CD j q υ x H λz ups=>zA τ id k e [.gM n] υ z (cU H ups) λv rd ju=>K v (j::rd) (ups++ju)
   |_=>none)
  |some (.obj υ x)=>match zj υ n with
   |some (.slice e)=>zA τ id k e [.gM n] υ x H K
   |_=>none
  |_=>none) (uc E τ (.jf id [.gM n]) (.ref k) H K)
 |a,v=>uc E τ a v H K
def LH(E:Env)(ps:List (Nat×bG))(τ:Ty):Option (Nat×Nat):=match E.sp,lkT E τ with
 |true,some ([.gM n],_)=>match ps.filter λp=>Nat.beq p.1 n with
  |[(_,.ref k)]=>some (n,k)
  |_=>none
 |_,_=>none
def xy(n:Nat)(ps:List (Nat×bG)):List (Nat×bG):=ps.map λp=>cond (Nat.beq p.1 n) (p.1,.emp) p
def partsOf(σρ:Operand→bG)(ps:Array (Nat×Operand)):List (Nat×bG):=ps.toList.map λp=>(p.1,σρ p.2)
def tz(E:Env)(o:Oper)(ρ:Operand→bG)(H:Nat→Option br)(K:gS α):Option α:=
 let id:=16*o.dst.getD 0
 match o.op with
 | .move x| .assign x=>K (ρ x) [] []
 | .pick c a b=>match ρ c with
  | .val .bool t=>cond t (K (ρ a) [] []) (K (ρ b) [] [])
  |_=>none
 | .alloc t=>match E.ty t with
  |some τ=>match Jz E τ id with
   |some (q,e)=>EZ H id τ τ.zero q e K
   |none=>se H id (.obj τ τ.zero) (K (.jf id []) [id] [(id,some (.obj τ τ.zero))])
  |none=>none
 | .box t x=>match E.ty t with
  |some τ=>
   let oS:=nc true (ρ x) H τ λy rd ups=>se H id (.obj τ y) (K (.jf id []) (id::rd) (ups++[(id,some (.obj τ y))]))
   match Jz E τ id,ρ x with
   |some ([.gM m],e),.LG υ y n=>cond (Nat.beq m n) (cR υ τ y λy=>EZ H id τ y [.gM m] e K) oS
   |_,_=>oS
  |none=>none
 | .build t ps=>match E.ty t with
  |some (.arr n e)=>xt e H n (partsOf ρ ps) (List.replicate n e.zero) [] [] λl rd ups=>K (.val (.arr n e) l) rd ups
  |some τ=>match LH E (partsOf ρ ps) τ with
   |some (n,k)=>match H k with
    |some (.own _ _)=>cond τ.isAgg (mg τ H (xy n (partsOf ρ ps)) τ.zero [] [] λx rd ups=>K (.Jy τ x n k) (k::rd) ups) none
    |_=>none
   |none=>cond τ.isAgg (mg τ H (partsOf ρ ps) τ.zero [] [] λx rd ups=>K (ab3 E (partsOf ρ ps) τ x) rd ups) none
  |none=>none
 | .buildSlice t n ps=>match E.ty t with
  |some (.slice e)=>cond (Nat.ble (n*(e.size+1)) 16777216) (se H id (.own e []) (xt e H n (partsOf ρ ps) (List.replicate n e.zero) [] [] λl rd ups=>K (.ref id) (id::rd) (ups++[(id,some (.own e l))]))) none
  |_=>none
 | .load t a=>match E.ty t with
  |some τ=>Bc E τ (ρ a) H K
  |none=>none
 | .store t a v=>match E.ty t with
  |some τ=>sj E τ (ρ a) (ρ v) H K
  |none=>none
 | .nilCheck x=>match ρ x with
  | .jf id p=>K (.jf id p) [] []
  | .sd τ x=>K (.sd τ x) [] []
  |_=>none
 | .binOp op t x y _=>N9 (ρ x) fun τ x=>N9 (ρ y) fun υ y=>GH (E.ty t) op τ x υ y λv=>K v [] []
 | .unOp op _ x=>Vr op (ρ x) λv=>K v [] []
 | .convert src dst x=>match E.ty src,E.ty dst with
  |some _,some (.int k)=>wR (ρ x) λ_ n=>K (.val (.int k) (W k n)) [] []
  |_,_=>none
 | .makeFunc (.func f) first caps=>cond first.isEmpty (xu H (caps.toList.map ρ) λcs rd ups=>K (.N7 f cs) rd ups) none
 | .makeSlice t l c=>match E.ty t with
  |some (.slice e)=>wR (ρ l) λ_ l=>wR (ρ c) λ_ c=>cond (kU l c)
    (se H id (.own e []) (K (.ref id) [id] [(id,some (.own e (List.replicate l.toNat e.zero)))])) none
  |_=>none
 | .slice t x lo hi mx=>match E.ty t with
  |some τ=>xw E τ (lo.isNone&&kC hi&&kC mx) (ρ x) (lo.map ρ) (hi.map ρ) (mx.map ρ) H K
  |none=>none
 | .fieldAddr t x n=>match E.ty t with
  |some τ=>match ρ x with
   | .jf id p=>mf id p H fun υ=>jt υ τ (vv τ τ.zero n fun υ' _=>cond (Nat.beq υ'.size 0) none (K (.jf id (p++[.gM n])) [id] []))
   | .sd υ x=>jt υ τ (vv υ x n fun υ y=>cond (Nat.beq υ.size 0) none (K (.sd υ y) [] []))
   |_=>none
  |none=>none
 | .field t x n=>match E.ty t with
  |some τ=>match ρ x with
   | .val υ x=>jt υ τ (vv υ x n fun υ y=>K (.val υ y) [] [])
   |_=>none
  |none=>none
 | .indexAddr t x i=>match E.ty t with
  |some τ=>ic τ (ρ x) (ρ i) H K
  |none=>none
 | .index t x i=>match E.ty t with
  |some τ=>xx τ (ρ x) (ρ i) λv=>K v [] []
  |none=>none
 | .extract t i=>match ρ t with
  | .tup vs=>match vs[i]? with
   |some v=>K v [] []
   |none=>none
  |_=>none
 | .call c=>match c.callee with
  | .builtin .len=>match c.args.toList,(c.argTypes.toList.head?).bind E.ty with
   |[x],some τ=>Oa τ (ρ x) H K
   |_,_=>none
  | .builtin .append=>match c.args.toList,c.argTypes.toList with
   |[x,y],[t,t']=>match E.ty t with
    |some (.slice e)=>cond (Nat.beq t t') (se H id (.own e []) (Ob id e (ρ x) (ρ y) H K)) none
    |_=>none
   |_,_=>none
  | .builtin .clear=>match c.args.toList,c.argTypes.toList with
   |[x],[t]=>match E.ty t with
    |some (.slice e)=>zO e (ρ x) H K
    |_=>none
   |_,_=>none
  | .builtin .max=>match c.args.toList with
   |x::r=>mmK true (ρ x) (r.map ρ) λv=>K v [] []
   |_=>none
  | .builtin .min=>match c.args.toList with
   |x::r=>mmK false (ρ x) (r.map ρ) λv=>K v [] []
   |_=>none
  | .value g=>match ρ g with
   | .N7 f caps=>DO E f (c.args.toList.map ρ++caps) id H K
   |_=>none
  |_=>none
 |_=>none
def uN(E:Env)(ops:List Oper)(o:Oper)(σ:St)(K:St→List Nat→List Nat→Option α):Option α:=
 let run (σ:St):Option α:=tz E o σ.ρ σ.H λv rd ups=>K ((σ.xq ups).wP o.dst v) rd (ups.map (·.1))
 cond (N8 E.nt E.io o.dst) (match o.guard with
 |none=>run σ
 |some (j,want)=>match(ops[j]?).bind (·.dst)with
  |none=>none
  |some t=>match σ.T t with
   | .val .bool b=>match want with
    |true=>cond b (run (σ.put t (.val .bool true))) (K ((σ.put t (.val .bool false)).wP o.dst .Yd) [] [])
    |false=>cond b (K ((σ.put t (.val .bool true)).wP o.dst .Yd) [] []) (run (σ.put t (.val .bool false)))
   | .Yd=>K (σ.wP o.dst .Yd) [] []
   |_=>none) none
abbrev Log:=List (Nat×List Nat×List Nat)
def Vs(E:Env)(ops:List Oper):List Oper→Nat→St→Log→(St→Log→Option α)→Option α
 |[],_,σ,lg,K=>K σ lg
 |o::r,i,σ,lg,K=>uN E ops o σ fun σ' rd wr=>Vs E ops r (i+1) σ' ((i,rd,wr)::lg) K
def ud:List Oper→List Nat→List Nat
 |[],acc=>acc
 |o::r,acc=>ud r (acc++[o.after.toList.foldl (λs e=>cond (Region.binds .any e) (s|||2^e.on|||acc.getD e.on 0) s) 0])
def names(ops:List Oper)(o:Oper):List Nat:=
 (o.op.operands.toList.filterMap fun| .tmp t=>some t|_=>none)++
 (match o.guard with
  |some (g,_)=>((ops[g]?).bind (·.dst)).toList
  |none=>[])
def meets(a b:List Nat):Bool:=a.any λx=>b.any λy=>Nat.beq x y
def Ye(ops:List Oper):Bool:=
 let b:=ud ops []
 (ops.zipIdx.all λ(o,j)=>o.after.toList.all λe=> !(Region.binds .any e)||Nat.blt e.on j)&&
 ops.zipIdx.all λ(o,j)=>ops.zipIdx.all λ(p,i)=>Nat.ble j i||(b.getD j 0).testBit i||
  !(meets p.dst.toList (o.dst.toList++names ops o)||meets o.dst.toList (names ops p))
def aiF(ops:List Oper)(lg:Log):Bool:=
 let b:=ud ops []
 lg.all λx=>lg.all λy=>Nat.ble x.1 y.1||(b.getD x.1 0).testBit y.1||
  !(meets y.2.2 (x.2.1++x.2.2)||meets y.2.1 x.2.2)
def FC(E:Env)(ops:Array Oper)(draw:Bool)(σ:St)(K:St→Option α):Option α:=
 Vs E ops.toList ops.toList 0 σ [] fun σ' lg=>cond (!draw||(Ye ops.toList&&aiF ops.toList lg)) (K σ') none
def iR:List (Nat×CM)→St→St→(St→Option α)→Option α
 |[],_,acc,K=>K acc
 |(s,.v τ)::r,σ,acc,K=>nc true (σ.T s) σ.H τ λx _ ups=>iR r (σ.xq ups) (acc.put s (.val τ x)) K
 |(s,.own e)::r,σ,acc,K=>match σ.T s with
  | .emp=>iR r σ ((acc.put s (.ref (16*s+14))).kt (16*s+14) (some (.own e []))) K
  | .ref id=>match σ.H id with
   |some (.own e' l)=>cR (.slice e') (.slice e) l λx=>iR r (σ.kt id (some .gone)) ((acc.put s (.ref (16*s+14))).kt (16*s+14) (some (.own e x))) K
   |_=>none
  |_=>none
 |(s,.obj τ)::r,σ,acc,K=>match σ.T s with
  | .jf id []=>match σ.H id with
   |some (.obj υ x)=>cR υ τ x λy=>iR r (σ.kt id (some .gone)) ((acc.put s (.jf (16*s+14) [])).kt (16*s+14) (some (.obj τ y))) K
   |some (.gk υ x q j)=>CD j q υ x σ.H λz ups=>cR υ τ z λy=>iR r ((σ.xq ups).kt id (some .gone)) ((acc.put s (.jf (16*s+14) [])).kt (16*s+14) (some (.obj τ y))) K
   |_=>none
  |_=>none
 |(s,.gk τ q e)::r,σ,acc,K=>match σ.T s with
  | .jf id []=>match σ.H id with
   |some (.gk υ x q' j)=>cond (Jx q q') (match σ.H j with
    |some (.own e' l)=>cR υ τ x λy=>cR (.slice e') (.slice e) l λl=>iR r ((σ.kt j (some .gone)).kt id (some .gone))
     (((acc.put s (.jf (16*s+14) [])).kt (16*s+13) (some (.own e l))).kt (16*s+14) (some (.gk τ y q (16*s+13)))) K
    |_=>none) none
   |_=>none
  |_=>none
 |(s,.same s')::r,σ,acc,K=>match σ.T s,σ.T s',acc.T s' with
  | .ref i,.ref j,.ref j'=>cond (Nat.beq i j) (iR r σ (acc.put s (.ref j')) K) none
  |_,_,_=>none
 |(s,.io τ)::r,σ,acc,K=>match σ.T s with
  | .jf id []=>cond (Nat.beq id (16*s+15)) (match σ.H id with
   |some (.obj υ x)=>cR υ τ x λy=>iR r (σ.kt id (some .gone)) ((acc.put s (.jf (16*s+15) [])).kt (16*s+15) (some (.obj τ y))) K
   |_=>none) none
  |_=>none
 |(s,.fn f τ)::r,σ,acc,K=>match σ.T s with
  | .N7 f' c=>cond (Nat.beq f f') (sf σ.H τ c λx _ ups=>match ups with
   |[]=>iR r σ (acc.put s (.N7 f (qP τ x))) K
   |_=>none) none
  |_=>none
def kW:List (Nat×CM)→Bool
 |[]=>true
 |q::r=>r.all (λp=> !(Nat.beq p.1 q.1))&&kW r
def xz(L:Option (List (Nat×CM)))(σ:St)(K:St→Option α):Option α:=
 match L with
 |none=>K σ
 |some L=>iR L σ ⟨λ_=> .any,λ_=>none⟩ K
def DP(L:Option (List (Nat×CM)))(step:St→(St→Option α)→Option α):Nat→St→Option α
 |0,_=>none
 |n+1,σ=>step σ fun σ'=>xz L σ' (DP L step n)
def da:Code→Option Nat
 | .region id _ _=>some id
 | .seq a b=>match da a with
  |some i=>some i
  |none=>da b
 | .block _ c| .loop c| .scope c=>da c
 |_=>none
def Ke(E:Env)(c:Operand)(σ:St)(A B:St→Option α):Option α:=
 match σ.ρ c with
 | .val .bool b=>match c with
  | .tmp t=>cond b (A (σ.put t (.val .bool true))) (B (σ.put t (.val .bool false)))
  |_=>cond b (A σ) (B σ)
 |_=>none
def FD(E:Env)(c:Code):St→(St→Option α)→(Nat→St→Option α)→(St→Option α)→Option α:=
 Code.rec (motive:=λ_=>St→(St→Option α)→(Nat→St→Option α)→(St→Option α)→Option α)
  (fun σ k _ _=>k σ)
  (λ_ ops draw σ k _ _=>FC E ops draw σ k)
  (λ_ b A B σ k kx kr=>A σ (fun σ'=>xz ((da b).bind E.zk) σ' fun σ''=>B σ'' k kx kr) kx kr)
  (λc _ _ A B σ k kx kr=>Ke E c σ (fun σ'=>A σ' k kx kr) (fun σ'=>B σ' k kx kr))
  (λid _ A σ k kx kr=>A σ k (λi σ'=>cond (Nat.beq i id) (k σ') (kx i σ')) kr)
  (λb A σ _ kx kr=>xz ((da b).bind E.xr) σ (DP ((da b).bind E.xr) (fun σ' kn=>A σ' kn kx kr) E.N))
  (λ_ _ _ _ _ _ _ _ _ _=>none)
  (λid σ _ kx _=>kx id σ)
  (λ_ A σ k kx kr=>A σ k kx kr)
  (λ_ σ k _ _=>k σ)
  (λ_ _ _ _ _=>none)
  (fun σ _ _ kr=>kr σ)
  (λ_ _ _ _ _=>none)
  c
def wS(E:Env):List Nat→Code→List (St→Option α)→St→(St→Option α)→(Nat→St→Option α)→(St→Option α)→Option α
 |[],c,_,σ,k,kx,kr=>FD E c σ k kx kr
 |n::p,c,ks,σ,k,kx,kr=>match c with
  | .seq a b=>match n with
   |0=>wS E p a ks σ (fun σ'=>xz ((da b).bind E.zk) σ' fun σ''=>FD E b σ'' k kx kr) kx kr
   |_=>wS E p b ks σ k kx kr
  | .cond _ a b=>match n with
   |0=>wS E p a ks σ k kx kr
   |_=>wS E p b ks σ k kx kr
  | .block id c=>wS E p c ks σ k (λi σ'=>cond (Nat.beq i id) (k σ') (kx i σ')) kr
  | .loop b=>match ks with
   |κ::ks=>wS E p b ks σ κ kx kr
   |[]=>none
  | .scope c=>wS E p c ks σ k kx kr
  |_=>none
def Sd(m:AM)(x:m.den)(i:Nat)(σ:St):St:=
 match m,x with
 | .v τ,x=>σ.put i (.val τ x)
 | .own e,x=>(σ.put i (.ref (16*i+15))).kt (16*i+15) (some (.own e x))
 | .io τ,x=>(σ.put i (.jf (16*i+15) [])).kt (16*i+15) (some (.obj τ x))
 | .fn f τ,x=>σ.put i (.N7 f (qP τ x))
 | .ptr _,_=>σ
 | .jf τ,x=>σ.put i (.sd τ x)
 | .lo e,x=>(σ.put i (.ref (16*i+15))).kt (16*i+15) (some (.own e x))
 | .sp _ _ _,_=>σ
def entry:(ms:List AM)→HP ms→Nat→St→St
 |[],_,_,σ=>σ
 |[m],x,i,σ=>Sd m x i σ
 |m::n::ms,x,i,σ=>entry (n::ms) x.2 (i+1) (Sd m x.1 i σ)
def Kf(E:Env)(m:AM)(r:ResultVar ⊕ Nat)(σ:St)(K:m.den→St→Option α):Option α:=
 match m,r,K with
 | .v τ,.inl (.tmp t),K=>nc true (σ.T t) σ.H τ λx _ ups=>K x (σ.xq ups)
 | .v τ,.inl (.cell a t),K=>match E.ty t with
  |some τ'=>jt τ' τ (lY (σ.T a) σ.H fun υ y _=>cR υ τ y λx=>K x σ)
  |none=>none
 | .own e,.inl (.tmp t),K=>match σ.T t with
  | .emp=>K [] σ
  | .ref id=>match σ.H id with
   |some (.own e' l)=>cR (.slice e') (.slice e) l λx=>K x (σ.kt id (some .gone))
   |_=>none
  |_=>none
 | .io τ,.inr i,K=>match σ.T i with
  | .jf id []=>match σ.H id with
   |some (.obj υ x)=>cR υ τ x λy=>K y (σ.kt id (some .gone))
   |_=>none
  |_=>none
 | .lo e,.inr i,K=>match σ.T i with
  | .ref id=>match σ.H id with
   |some (.own e' l)=>cR (.slice e') (.slice e) l λx=>K x (σ.kt id (some .gone))
   |_=>none
  |_=>none
 | .ptr τ,.inl (.tmp t),K=>match σ.T t with
  | .jf id []=>match σ.H id with
   |some (.obj υ x)=>cR υ τ x λy=>K y (σ.kt id (some .gone))
   |_=>none
  |_=>none
 | .sp τ n e,.inl (.cell a t),K=>match E.ty t,σ.T a with
  |some τ',.jf id []=>jt τ' τ (match σ.H id with
   |some (.gk υ x q j)=>cond (Jx q [.gM n]) (cR υ τ x λx=>match σ.H j with
    |some (.own e' l)=>cR (.slice e') (.slice e) l λl=>fZ τ x n (fun υ' _ k'=>cR (.slice e) υ' l k') λz=>K z (σ.kt j (some .gone))
    |_=>none) none
   |_=>none)
  |_,_=>none
 |_,_,_=>none
def LJ(E:Env):(ms:List AM)→List (ResultVar ⊕ Nat)→St→(HP ms→Option α)→Option α
 |[],[],_,K=>K ()
 |[m],[r],σ,K=>Kf E m r σ λx _=>K x
 |m::n::ms,r::rs,σ,K=>Kf E m r σ λx σ'=>LJ E (n::ms) rs σ' λxs=>K (x,xs)
 |_,_,_,_=>none
def zn:List AM→Nat→List (ResultVar ⊕ Nat)
 |[],_=>[]
 | .io _::ms,i=> .inr i::zn ms (i+1)
 | .lo _::ms,i=> .inr i::zn ms (i+1)
 |_::ms,i=>zn ms (i+1)
def Of(E:Env)(fn:Func)(args res:List AM)(x:HP args):Option (HP res):=
 match fn.body with
 |none=>none
 |some c=>
  let kr:St→Option (HP res):=fun σ=>LJ E res (fn.results.toList.map .inl++zn args 0) σ some
  FD E c (entry args x 0 ⟨λ_=> .any,λ_=>none⟩) kr (λ_ _=>none) kr
end
end VM
end
section
namespace VM
open Go
def uO(N:Nat)(x y c:Int):Option (Int×Int):=if 0≤x∧0≤y∧0≤c∧c≤1 then some ((x+y+c)%18446744073709551616,(x+y+c)/18446744073709551616)else none
def tA(N:Nat)(x y c:Int):Option (Int×Int):=if 0≤x∧x<18446744073709551616∧0≤y∧y<18446744073709551616∧0≤c∧c≤1 then some ((x+18446744073709551616-y-c)%18446744073709551616,if x<y+c then 1 else 0)else none
def qY{α:Type}(N:Nat)(l:List α)(i:Int)(v:List α):Option (List α):=if 0≤i∧i≤l.length∧v.length=1∧l.length+1<Ba then some (l.take i.toNat++(v++l.drop i.toNat))else none
def ab4{α:Type}(N:Nat)(l:List α)(n:Int):Option (List α):=match l with
 |[x]=>if 0<n∧n<1048576 then some (List.replicate n.toNat x)else none
 |_=>none
def uO.S(N:Nat):nf:={args:=[.v (.int .u64),.v (.int .u64),.v (.int .u64)],res:=[.v (.int .u64),.v (.int .u64)],quiet:=true,run:=λx=>uO N x.1 x.2.1 x.2.2}
def tA.S(N:Nat):nf:={args:=[.v (.int .u64),.v (.int .u64),.v (.int .u64)],res:=[.v (.int .u64),.v (.int .u64)],quiet:=true,run:=λx=>tA N x.1 x.2.1 x.2.2}
def m1(e:Ty)(N:Nat):nf:={args:=[.own e,.v (.int .i64),.own e],res:=[.own e],quiet:=false,run:=λx=>qY N x.1 x.2.1 x.2.2}
def aur(e:Ty)(N:Nat):nf:={args:=[.v (.slice e),.v (.int .i64)],res:=[.own e],quiet:=false,run:=λx=>ab4 N x.1 x.2}
def jv{α:Type}(N:Nat)(l:List α):Option (List α):=if l.length<Ba then some l else none
def xA(e:Ty)(N:Nat):nf:={args:=[.v (.slice e)],res:=[.own e],quiet:=false,run:=λx=>jv N x}
end VM
namespace VM
abbrev c7:Int×Int×Unit:=((0:Int),((0:Int),()))
abbrev cn:List (Int×Int×Unit):=[]
abbrev aZ:Int×Int×Int×Unit:=((0:Int),((0:Int),((0:Int),())))
abbrev bo:List (Int×Int×Int×Unit):=[]
abbrev bb:Int×Int×Int×Int×Unit:=((0:Int),((0:Int),((0:Int),((0:Int),()))))
abbrev cW:List (Int×Int×Int×Int×Unit):=[]
abbrev gv:Int×Int×Int×Int×Int×Unit:=((0:Int),((0:Int),((0:Int),((0:Int),((0:Int),())))))
abbrev DQ:List (Int×Int×Int×Int×Int×Unit):=[]
abbrev dT:Int×Int×Int×Int×Int×Int×Unit:=((0:Int),((0:Int),((0:Int),((0:Int),((0:Int),((0:Int),()))))))
abbrev du:List (Int×Int×Int×Int×Int×Int×Unit):=[]
abbrev Nz:Int×Int×Int×Int×Int×Int×Int×Unit:=((0:Int),((0:Int),((0:Int),((0:Int),((0:Int),((0:Int),((0:Int),())))))))
abbrev ee7:List (Int×Int×Int×Int×Int×Int×Int×Unit):=[]
abbrev zz8:Int×Int×Int×Int×Int×Int×Int×Int×Unit:=((0:Int),((0:Int),((0:Int),((0:Int),((0:Int),((0:Int),((0:Int),((0:Int),()))))))))
abbrev ee8:List (Int×Int×Int×Int×Int×Int×Int×Int×Unit):=[]
abbrev di:List Int:=[]
abbrev oZ:List Int×Unit:=(di,())
end VM
end
section
namespace VM
open Go
def At(w:World)(b off:Nat)(cs:List Value):Prop:= ∀j v,cs[j]? =some v→w.cell? ⟨b,off+j,none⟩=some v
def Rd(w:World)(M:Nat→Prop):(τ:Ty)→List Value→τ.den→Prop
 | .int k,cs,x=>cs=[.int k x]
 | .bool,cs,x=>cs=[.bool x]
 | .str,cs,x=>cs=[.string x]
 | .slice e,cs,x=> ∃a cap,cs=[.slice a (ℓ x) cap]∧ℓ x≤cap∧
  ∀i (h:i<ℓ x),∃b off,a=some ⟨b,off,none⟩∧b<w.heap.size∧ ¬M b∧ ∃cs',At w b (off+i*e.size) cs'∧Rd w M e cs' (List.get x ⟨i,h⟩)
 | .unit,cs,_=>cs=[]
 | .pair a b,cs,x=> ∃c1 c2,cs=c1++c2∧Rd w M a c1 x.1∧Rd w M b c2 x.2
 | .arr n e,cs,x=>ℓ x=n∧ ∃Vt:List (List Value),Vt.length=n∧cs=Vt.flatten∧
  ∀i (h:i<ℓ x) (h':i<Vt.length),Rd w M e Vt[i] (List.get x ⟨i,h⟩)
theorem p3{α:Type}(n:Nat): ∀(l:List (List α)),(∀i (h:i<l.length),l[i].length=n)→l.flatten.length=l.length*n
 |[],_=>by simp
 |a::l,h=>by
  have h0:=h 0 (by simp)
  have ih:=p3 n l (λi hi=>h (i+1) (by simp;omega))
  simp only[Gl]at h0
  simp only[AU,aS,aT,ih,h0,eJ]
  omega
theorem Rd.length{w:World}{M:Nat→Prop}: ∀{τ:Ty} {cs:List Value} {x:τ.den},Rd w M τ cs x→cs.length=τ.size
 | .int _,_,_,h=>by simp only[Rd]at h;subst h;rfl
 | .bool,_,_,h=>by simp only[Rd]at h;subst h;rfl
 | .str,_,_,h=>by simp only[Rd]at h;subst h;rfl
 | .slice _,_,_,h=>by simp only[Rd]at h;obtain⟨a,cap,rfl,_⟩:=h;rfl
 | .unit,_,_,h=>by simp only[Rd]at h;subst h;rfl
 | .pair a b,_,_,h=>by
  simp only[Rd]at h
  obtain⟨c1,c2,rfl,h1,h2⟩:=h
  rw[aS,h1.length,h2.length];rfl
 | .arr n e,_,x,h=>by
  simp only[Rd]at h
  obtain⟨hn,Vt,hc,rfl,hr⟩:=h
  rw[p3 e.size Vt (λi hi=>(hr i ω hi).length),hc];rfl
structure fP(w:World)(M:Nat→Prop)(w':World)(M':Nat→Prop):Prop where
 size:w.heap.size≤w'.heap.size
 block: ∀b,b<w.heap.size→ ¬M b→w'.heap[b]? =w.heap[b]?
 less: ∀b,b<w.heap.size→M' b→M b
theorem aj7{w:World}{b o:Nat}{v:Value}(h:w.cell? ⟨b,o,none⟩=some v):b<w.heap.size:=by
 simp only[World.cell?]at h
 rcases oh b w.heap.size with hb|hb
 ·exact hb
 ·simp[NX hb]at h
theorem At.ch{w w':World}{b off:Nat}{cs:List Value}(h:At w b off cs)(hb:w'.heap[b]? =w.heap[b]?):At w' b off cs:=by
 intro j v hj
 have:=h j v hj
 rw[World.cell?_of_block (w:=w) hb]
 exact this
theorem At.append{w:World}{b off:Nat}{c1 c2:List Value}:At w b off (c1++c2)↔At w b off c1∧At w b (off+c1.length) c2:=by
 constructor
 ·intro h
  refine⟨λj v hj=>h j v (by rw[tv];exact hj;exact(vp.1 hj).1),λj v hj=> ?_⟩
  have:=h (c1.length+j) v (by rw[pC ω];simpa using hj)
  rw[pW];exact this
 ·rintro⟨h1,h2⟩ j v hj
  by_cases eU:j<c1.length
  ·rw[tv eU]at hj;exact h1 j v hj
  ·rw[pC ω]at hj
   have:=h2 (j-c1.length) v hj
   rwa [show off+c1.length+(j-c1.length)=off+j from by omega]at this
theorem Rd.ch{w w':World}{M M':Nat→Prop}(k:fP w M w' M'): ∀{τ:Ty} {cs:List Value} {x:τ.den},Rd w M τ cs x→Rd w' M' τ cs x
 | .int _,_,_,h=>h
 | .bool,_,_,h=>h
 | .str,_,_,h=>h
 | .slice e,_,x,h=>by
  simp only[Rd]at h ⊢
  obtain⟨a,cap,rfl,hc,hr⟩:=h
  refine⟨a,cap,rfl,hc,λi hi=> ?_⟩
  obtain⟨b,off,ha,hb,hm,cs',pH,kD⟩:=hr i hi
  exact⟨b,off,ha,n6 hb k.size,λh'=>hm (k.less b hb h'),_,pH.ch (k.block b hb hm),kD.ch k⟩
 | .unit,_,_,h=>h
 | .pair a b,_,_,h=>by
  simp only[Rd]at h ⊢
  obtain⟨c1,c2,rfl,h1,h2⟩:=h
  exact⟨c1,c2,rfl,h1.ch k,h2.ch k⟩
 | .arr n e,_,x,h=>by
  simp only[Rd]at h ⊢
  obtain⟨hn,Vt,hc,rfl,hr⟩:=h
  exact⟨hn,Vt,hc,rfl,λi hi oj=>(hr i hi oj).ch k⟩
theorem fP.refl(w:World)(M:Nat→Prop):fP w M w M:=⟨aH _,λ_ _ _=>rfl,λ_ _ h=>h⟩
theorem fP.trans{w w' w'':World}{M M' Kg:Nat→Prop}(h:fP w M w' M')(k:fP w' M' w'' Kg):fP w M w'' Kg:=
 ⟨ck h.size k.size,λb hb hm=>(k.block b (n6 hb h.size) (λh'=>hm (h.less b hb h'))).trans (h.block b hb hm),
  λb hb hm=>h.less b hb (k.less b (n6 hb h.size) hm)⟩
def V(w:World)(M:Nat→Prop)(τ:Ty)(v:Value)(x:τ.den):Prop:=
 if τ.isAgg then ∃cs,v= .agg cs∧Rd w M τ cs.toList x else Rd w M τ [v] x
theorem V.ch{w w':World}{M M':Nat→Prop}(k:fP w M w' M'){τ:Ty}{v:Value}{x:τ.den}(h:V w M τ v x):V w' M' τ v x:=by
 unfold V at*
 split
 ·rename_i ha;rw[ak ha]at h;obtain⟨cs,rfl,h⟩:=h;exact⟨cs,rfl,h.ch k⟩
 ·rename_i ha;rw[ag ha]at h;exact h.ch k
theorem Rd.scalar{w:World}{M:Nat→Prop}{τ:Ty}{cs:List Value}{x:τ.den}(ha:τ.isAgg=false)(h:Rd w M τ cs x): ∃v,cs=[v]∧v.cells= #[v]:=by
 cases τ<;>simp only[Ty.isAgg,Bool.true_eq_false]at ha<;>simp only[Rd]at h
 ·exact⟨_,h,rfl⟩
 ·exact⟨_,h,rfl⟩
 ·exact⟨_,h,rfl⟩
 ·obtain⟨a,cap,rfl,_⟩:=h;exact⟨_,rfl,rfl⟩
theorem V.cells{w:World}{M:Nat→Prop}{τ:Ty}{v:Value}{x:τ.den}(h:V w M τ v x):Rd w M τ v.cells.toList x:=by
 unfold V at h
 by_cases ha:τ.isAgg=true
 ·rw[ak ha]at h;obtain⟨cs,rfl,h⟩:=h;exact h
 ·rw[ag ha]at h
  obtain⟨v',hv,hc⟩:=h.scalar (by simpa using ha)
  simp only[fW,eL]at hv
  subst hv
  rw[hc];exact h
def cr(τ:Ty)(cs:List Value):Value:=if τ.isAgg then .agg cs.toArray else cs.headD (.tuple #[])
theorem V.cr{w:World}{M:Nat→Prop}{τ:Ty}{cs:List Value}{x:τ.den}(h:Rd w M τ cs x):V w M τ (cr τ cs) x:=by
 unfold V VM.cr
 by_cases ha:τ.isAgg=true
 ·rw[ak ha,ak ha];exact⟨_,rfl,by simpa using h⟩
 ·rw[ag ha,ag ha]
  obtain⟨v',rfl,_⟩:=h.scalar (by simpa using ha)
  exact h
theorem JA{w:World}{M:Nat→Prop}{τ:Ty}{cs:List Value}{x:τ.den}(h:Rd w M τ cs x):(cr τ cs).cells.toList=cs:=by
 unfold VM.cr
 by_cases ha:τ.isAgg=true
 ·rw[ak ha];simp[Value.cells]
 ·rw[ag ha]
  obtain⟨v',rfl,hc⟩:=h.scalar (by simpa using ha)
  simp[hc]
theorem Rd.lL{w:World}{M:Nat→Prop}: ∀{τ:Ty} {cs:List Value} {x:τ.den},Rd w M τ cs x→ ∀v∈cs,v.oneCell'=true
 | .int _,_,_,h=>by simp only[Rd]at h;subst h;simp[Value.oneCell']
 | .bool,_,_,h=>by simp only[Rd]at h;subst h;simp[Value.oneCell']
 | .str,_,_,h=>by simp only[Rd]at h;subst h;simp[Value.oneCell']
 | .slice _,_,_,h=>by simp only[Rd]at h;obtain⟨a,cap,rfl,_⟩:=h;simp[Value.oneCell']
 | .unit,_,_,h=>by simp only[Rd]at h;subst h;simp
 | .pair a b,_,_,h=>by
  simp only[Rd]at h
  obtain⟨c1,c2,rfl,h1,h2⟩:=h
  intro v hv
  rcases bn.1 hv with hv|hv
  ·exact h1.lL v hv
  ·exact h2.lL v hv
 | .arr n e,_,x,h=>by
  simp only[Rd]at h
  obtain⟨hn,Vt,hc,rfl,hr⟩:=h
  intro v hv
  obtain⟨l,hl,hvl⟩:=List.mem_flatten.1 hv
  obtain⟨i,hi,rfl⟩:=rO.1 hl
  exact(hr i ω hi).lL v hvl
def Ty.cL:Ty→List Value
 | .int k=>[.int k 0]
 | .bool=>[.bool false]
 | .str=>[.string ByteArray.empty]
 | .slice _=>[.slice none 0 0]
 | .unit=>[]
 | .pair a b=>a.cL++b.cL
 | .arr n e=>(List.replicate n e.cL).flatten
theorem Rd.zero(w:World)(M:Nat→Prop): ∀(τ:Ty),Rd w M τ τ.cL τ.zero
 | .int _| .bool| .str| .unit=>by simp[Rd,Ty.cL,Ty.zero]
 | .slice _=>by
  simp only[Rd,Ty.cL,Ty.zero]
  exact⟨none,0,rfl,aH _,λi h=>absurd h (by simp)⟩
 | .pair a b=>by
  simp only[Rd,Ty.cL,Ty.zero]
  exact⟨_,_,rfl,Rd.zero w M a,Rd.zero w M b⟩
 | .arr n e=>by
  simp only[Rd,Ty.cL,Ty.zero]
  refine⟨by simp,_,by simp,rfl,λi h h'=> ?_⟩
  simp only[NY,Gq]
  exact Rd.zero w M e
end VM
end
