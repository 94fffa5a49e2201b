/- A part of the proof of WindDrawn of layer 21: a machine that reads a function of the program as an equation between values. -/
import Derived.KernelRfl
import GoSem.Claims
import Derived.WalkKit
import Derived.ArgAppend
import Derived.Laws.CopyRow
import Derived.Laws.MakeOwn
import Derived.Laws.OwnMore
import Derived.Orders
import Derived.LoopN
set_option linter.all false
theorem ω{p:Prop}(h:p:=by omega):p:=h
theorem δ{p:Prop}(h:p:=by decide):p:=h
theorem κ{p:Prop}(h:p:=by kernel_rfl):p:=h
noncomputable section
abbrev ar:=@Option.bind_some
abbrev ak:=@cond_true
abbrev aI:=@List.length_singleton
abbrev aU:=@List.getD_eq_getElem?_getD
abbrev aJ:=@Int.toNat_natCast
abbrev av:=@cond_false
abbrev aS:=@List.length_append
abbrev bm:=@List.getElem?_eq_getElem
abbrev aj:=@if_pos
abbrev ah:=@if_neg
abbrev a6:=@List.mem_cons_of_mem
abbrev aR:=@List.length_cons
abbrev aG:=@Nat.le_refl
abbrev bn:=@List.mem_cons_self
abbrev bb:=@List.mem_append
abbrev br:=@List.append_assoc
abbrev bG:=@Array.length_toList
abbrev bz:=@of_decide_eq_true
abbrev aX:=@List.mem_cons
abbrev a7:=@Bool.not_true
abbrev bT:=@List.mem_singleton
abbrev bs:=@decide_eq_true
abbrev bP:=@Bool.and_eq_true
abbrev cP:=@List.length_replicate
abbrev bN:=@List.length_set
abbrev cN:=@Bool.and_eq_true_iff
abbrev bS:=@List.length_nil
abbrev cc:=@List.length_take
abbrev cS:=@List.mem_append_left
abbrev bo:=@Nat.zero_le
abbrev ch:=@List.append_nil
abbrev cj:=@decide_eq_false
abbrev cv:=@List.length_map
abbrev dy:=@List.mem_append_right
abbrev bU:=@List.map_cons
abbrev cI:=@List.nil_append
abbrev cy:=@List.sum_cons
abbrev cW:=@List.map_append
abbrev ck:=@Nat.le_trans
abbrev cX:=@List.drop_zero
abbrev cY:=@Bool.not_false
abbrev cC:=@List.mem_map
abbrev dz:=@List.getElem_mem
abbrev eo:=@List.pairwise_cons
abbrev dO:=@List.length_drop
abbrev eO:=@List.mem_map_of_mem
abbrev fT:=@Nat.eq_of_beq_eq_true
abbrev dq:=@Int.toNat_zero
abbrev gb:=@List.take_append_drop
abbrev fb:=@decide_eq_true_iff
abbrev gC:=@List.getElem?_eq_none
abbrev fc:=@Option.mem_toList
abbrev gL:=@Array.getElem?_toList
abbrev gd:=@List.getElem_of_mem
abbrev kt:=@Array.getElem?_eq_some_iff
abbrev fe:=@List.cons.injEq
abbrev jw:=@List.take_of_length_le
abbrev ku:=@List.drop_of_length_le
abbrev oq:=@List.getElem?_append_right
abbrev iq:=@Option.some.injEq
abbrev iQ:=@Bool.false_eq_true
abbrev eg:=@Nat.add_mul
abbrev iR:=@List.size_toArray
abbrev lB:=@Nat.mul_le_mul_right
abbrev lC:=@List.mem_of_mem_take
abbrev iS:=@List.take_length
abbrev fD:=@Int.le_trans
abbrev gg:=@Bool.and_true
abbrev ir:=@Nat.min_eq_left
abbrev pM:=@List.drop_eq_getElem_cons
abbrev lD:=@Nat.mul_le_mul_left
abbrev rR:=@Array.getD_eq_getD_getElem?
abbrev mK:=@List.mem_of_mem_drop
abbrev lE:=@List.getElem?_take
abbrev lF:=@List.getElem?_drop
abbrev gh:=@Nat.zero_add
abbrev tJ:=@List.eq_nil_of_length_eq_zero
abbrev fE:=@Int.le_refl
abbrev rS:=@List.getElem?_append_left
abbrev mL:=@Nat.lt_of_lt_of_le
abbrev rT:=@List.take_append_getElem
abbrev jx:=@List.drop_drop
abbrev lG:=@List.cons_append
abbrev xc:=@Int.mul_le_mul_of_nonneg_left
abbrev tK:=@List.getElem?_eq_some_iff
abbrev tL:=@List.pairwise_iff_getElem
abbrev lH:=@List.sum_append
abbrev mM:=@List.drop_length
abbrev iT:=@List.map_nil
abbrev tM:=@Int.eq_ofNat_of_zero_le
abbrev kv:=@Int.mul_assoc
abbrev eP:=@and_true
abbrev xd:=@List.mem_or_eq_of_mem_set
abbrev rU:=@List.length_pos_iff
abbrev pN:=@List.nodup_append
abbrev pO:=@List.getElem?_map
abbrev ff:=@congrArg
abbrev ky:=@List.sum_nil
abbrev kz:=@Int.add_zero
abbrev qn:=@List.mem_iff_getElem
abbrev mN:=@Bool.not_eq_true
abbrev sR:=@Option.bind_eq_some_iff
abbrev mO:=@Option.getD_some
abbrev qo:=@List.map_congr_left
abbrev mP:=@List.drop_left'
abbrev mQ:=@Option.some.inj
abbrev mR:=@Bool.or_eq_true
abbrev eQ:=@if_false
abbrev y5:=@Int.mul_le_mul_of_nonneg_right
abbrev qp:=@Bool.false_ne_true
abbrev oF:=@decide_eq_decide
abbrev qq:=@Int.lt_of_le_of_lt
abbrev jO:=@Int.mul_comm
abbrev y6:=@List.take_append_of_le_length
abbrev y7:=@List.drop_append_of_le_length
abbrev qt:=@Bool.not_eq_true'
abbrev oG:=@Bool.eq_iff_iff
abbrev eE:=@Ne.symm
abbrev vr:=@List.drop_eq_nil_of_le
abbrev jP:=@Nat.one_mul
abbrev jQ:=@Int.mul_add
abbrev mS:=@Bool.true_and
abbrev qu:=@List.all_eq_true
abbrev jh:=@Array.ext'
abbrev oH:=@List.take_zero
abbrev vt:=@List.Pairwise.sublist
abbrev mT:=@Nat.add_zero
abbrev vu:=@List.pairwise_append
abbrev oI:=@Nat.add_assoc
abbrev y8:=@List.eq_of_mem_replicate
abbrev vv:=@Int.toNat_of_nonneg
abbrev qv:=@List.drop_take
abbrev qw:=@List.take_take
abbrev y9:=@Nat.add_sub_cancel_left
abbrev qx:=@List.mem_range
abbrev sS:=@beq_self_eq_true
abbrev oJ:=@Nat.lt_or_ge
abbrev zb:=@Option.map_eq_some_iff
abbrev zd:=@Int.ediv_lt_iff_lt_mul
abbrev sT:=@List.headD_cons
abbrev sU:=@Int.ediv_nonneg
abbrev ix:=@Prod.ext
abbrev gw:=@if_true
abbrev vw:=@List.length_range
abbrev vx:=@decide_eq_true_eq
abbrev vy:=@Bool.eq_false_iff
abbrev D1:=@Option.ne_none_iff_exists'
abbrev ze:=@Array.getElem_toList
abbrev sV:=@List.tail_cons
abbrev qy:=@Nat.mul_succ
abbrev vz:=@List.filter_cons
abbrev zf:=@List.replicate_succ
abbrev D2:=@List.getElem_append_left
abbrev sW:=@Bool.false_or
abbrev sX:=@Bool.or_false
abbrev vA:=@List.take_left'
abbrev vB:=@List.mem_filter
abbrev vC:=@List.length_zip
abbrev zg:=@Int.emod_lt_of_pos
abbrev qz:=@Nat.le_succ
abbrev qA:=@Nat.sub_mul
abbrev qB:=@Int.add_mul
abbrev D3:=@List.getElem?_replicate
abbrev D4:=@decide_eq_false_iff_not
abbrev D5:=@List.pairwise_singleton
abbrev D6:=@List.getElem_cons_zero
abbrev zh:=@List.flatten_cons
abbrev zi:=@List.ext_getElem?
abbrev sY:=@Nat.beq_refl
abbrev sZ:=@Nat.sub_self
abbrev vD:=@Nat.mul_le_mul
abbrev vE:=@Int.mul_nonneg
abbrev vF:=@Bool.false_and
abbrev zj:=@List.pairwise_map
abbrev Lf:=@Array.getElem?_setIfInBounds_ne
abbrev D7:=@Nat.le_of_ble_eq_true
abbrev D8:=@List.singleton_append
abbrev zk:=@List.any_eq_true
abbrev Lg:=@Nat.and_two_pow_sub_one_eq_mod
abbrev zm:=@List.nodup_cons
abbrev D9:=@List.get_eq_getElem
abbrev Lh:=@Nat.two_pow_add_eq_or_of_lt
abbrev vG:=@Int.zero_add
abbrev Li:=@iff_iff_implies_and_implies
abbrev Ea:=@List.getElem_range
abbrev zn:=@List.mapM_cons
abbrev Lj:=@Int.fdiv_eq_ediv_of_nonneg
abbrev Lk:=@Int.add_mul_emod_self_left
abbrev Eb:=@Int.tmod_lt_of_pos
abbrev Ll:=@List.getElem_append_right
abbrev Lm:=@Array.getElem?_eq_getElem
abbrev Ln:=@Classical.byContradiction
abbrev Lo:=@Int.le_of_mul_le_mul_left
abbrev Lp:=@Decidable.byContradiction
abbrev Ec:=@List.getElem_drop
abbrev Ed:=@List.getElem_take
abbrev Ee:=@Decidable.not_not
abbrev Ef:=@Bool.not_eq_false
abbrev Lq:=@List.length_eq_zero_iff
abbrev Lr:=@List.getElem?_cons_zero
abbrev Eg:=@List.nil_sublist
abbrev Ls:=@Array.getElem?_eq_none
abbrev Lt:=@List.getElem_replicate
abbrev vH:=@Nat.beq_eq
abbrev Lu:=@List.append_eq_nil_iff
abbrev zo:=@Nat.pow_succ
abbrev zp:=@Int.pow_succ
abbrev zq:=@Int.mul_zero
abbrev Lv:=@Int.ediv_eq_zero_of_lt
abbrev Eh:=@List.range_succ
abbrev Ei:=@Int.emod_nonneg
abbrev Ej:=@Int.natCast_add
abbrev Lw:=@List.getElem?_toArray
abbrev Lx:=@Int.mul_ediv_add_emod
abbrev Ly:=@Nat.div_lt_iff_lt_mul
abbrev LA:=@Int.add_mul_ediv_left
abbrev LB:=@List.set_append_right
abbrev zr:=@Int.one_mul
abbrev zs:=@Int.mul_neg
abbrev zt:=@Int.neg_neg
abbrev Ek:=@Bool.and_false
abbrev El:=@List.all_cons
abbrev Em:=@Nat.lt_irrefl
abbrev zu:=@Nat.blt_eq
abbrev zv:=@Nat.ble_eq
abbrev En:=@Nat.mul_comm
abbrev Eo:=@Int.sub_zero
abbrev Ep:=@Int.add_comm
section
namespace VM
open Go
theorem ak5{α:Type}(a:α): ∃b:α,b=a:=⟨a,rfl⟩
def bg{α:Type}(a:α):α:=Classical.choose (ak5 a)
theorem iy{α:Type}(a:α):bg a=a:=Classical.choose_spec (ak5 a)
def zw:Nat:=68719476736
def W:IntKind→Int→Int:=bg λk x=>k.wrap x
def aY:Int→Int→Bool:=bg λx y=>decide (x<y)
def dj:Int→Int→Bool:=bg λx y=>decide (x≤y)
def aO:Int→Int→Bool:=bg λx y=>decide (x=y)
def ba:Int→Nat→Bool:=bg λi n=>decide (0≤i∧i<(n:Int))
def small:Nat→Bool:=bg λn=>decide (n<zw)
def jR:Int→Int→Bool:=bg λl c=>decide (0≤l∧l≤c∧c<(zw:Int))
def jS:Int→Int→Int→Int→Bool:=bg λl h m n=>decide (0≤l∧l≤h∧h≤m∧m≤n)
def quo:Int→Int→Int:=bg λx y=>x.tdiv y
def rem:Int→Int→Int:=bg λx y=>x.tmod y
def shl:IntKind→Int→Int→Int:=bg λk x y=>x*2^(min y.toNat k.bits)
def shr:IntKind→Int→Int→Int:=bg λk x y=>x.fdiv (2^(min y.toNat k.bits))
def mx:Int→Int→Int:=bg λx y=>if y>x then y else x
def mn:Int→Int→Int:=bg λx y=>if y<x then y else x
def UT:ByteArray→ByteArray→Bool:=bg λx y=>decide (x.toList=y.toList)
theorem Er(k:IntKind)(x:Int):W k x=k.wrap x:=by unfold W;rw[iy]
theorem tN(x y:Int):aY x y=decide (x<y):=by unfold aY;rw[iy]
theorem nM(x y:Int):dj x y=decide (x≤y):=by unfold dj;rw[iy]
theorem jq(x y:Int):aO x y=decide (x=y):=by unfold aO;rw[iy]
theorem UU(i:Int)(n:Nat):ba i n=decide (0≤i∧i<(n:Int)):=by unfold ba;rw[iy]
theorem Es(n:Nat):small n=decide (n<zw):=by unfold small;rw[iy]
theorem HH(l c:Int):jR l c=decide (0≤l∧l≤c∧c<(zw:Int)):=by unfold jR;rw[iy]
theorem zx(l h m n:Int):jS l h m n=decide (0≤l∧l≤h∧h≤m∧m≤n):=by unfold jS;rw[iy]
theorem agw(x y:Int):quo x y=x.tdiv y:=by unfold quo;rw[iy]
theorem agx(x y:Int):rem x y=x.tmod y:=by unfold rem;rw[iy]
theorem UW(k:IntKind)(x y:Int):shl k x y=x*2^(min y.toNat k.bits):=by unfold shl;rw[iy]
theorem Py(k:IntKind)(x y:Int):shr k x y=x.fdiv (2^(min y.toNat k.bits)):=by unfold shr;rw[iy]
theorem UX(x y:Int):mx x y=if y>x then y else x:=by unfold mx;rw[iy]
theorem Q6(x y:Int):mn x y=if y<x then y else x:=by unfold mn;rw[iy]
theorem Et(x y:ByteArray):UT x y=decide (x.toList=y.toList):=by unfold UT;rw[iy]
inductive Bw where|and|or|xor|andNot
def qC:Bw→IntKind→Int→Int→Int:=bg λo k x y=>
 let a:=BitVec.ofInt k.bits x
 let b:=BitVec.ofInt k.bits y
 k.wrap (match o with| .and=>a&&& b| .or=>a|||b| .xor=>a^^^b| .andNot=>a&&& ~~~b).toNat
theorem tO(o:Bw)(k:IntKind)(x y:Int):qC o k x y=
 let a:=BitVec.ofInt k.bits x
 let b:=BitVec.ofInt k.bits y
 k.wrap (match o with| .and=>a&&& b| .or=>a|||b| .xor=>a^^^b| .andNot=>a&&& ~~~b).toNat:=by unfold qC;rw[iy]
def strOf(l:List Nat):ByteArray:=⟨(l.map UInt8.ofNat).toArray⟩
inductive Ty where
 |int (k:IntKind)
 |bool
 |str
 |slice (e:Ty)
 |unit
 |pair (a b:Ty)
 |arr (n:Nat) (e:Ty)
 deriving DecidableEq
@[reducible] def Ty.den:Ty→Type
 | .int _=>Int
 | .bool=>Bool
 | .str=>ByteArray
 | .slice e=>List e.den
 | .unit=>Unit
 | .pair a b=>a.den×b.den
 | .arr _ e=>List e.den
def Ty.size:Ty→Nat
 | .int _| .bool| .str| .slice _=>1
 | .unit=>0
 | .pair a b=>a.size+b.size
 | .arr n e=>n*e.size
def Ty.isAgg:Ty→Bool
 | .unit| .pair _ _| .arr _ _=>true
 |_=>false
def Ty.zero:(τ:Ty)→τ.den
 | .int _=>(0:Int)
 | .bool=>false
 | .str=>ByteArray.empty
 | .slice _=>[]
 | .unit=>()
 | .pair a b=>(a.zero,b.zero)
 | .arr n e=>List.replicate n e.zero
def Ty.comparable:Ty→Bool
 | .slice _=>false
 | .pair a b=>a.comparable&&b.comparable
 | .arr _ _=>false
 |_=>true
def ak6{α:Type}(f:α→α→Bool):List α→List α→Bool
 |[],[]=>true
 |x::xs,y::ys=>f x y&&ak6 f xs ys
 |_,_=>false
def pa:(τ:Ty)→τ.den→τ.den→Bool
 | .int _,x,y=>aO x y
 | .bool,x,y=>x==y
 | .str,x,y=>UT x y
 | .slice _,_,_=>false
 | .unit,_,_=>true
 | .pair a b,x,y=>pa a x.1 y.1&&pa b x.2 y.2
 | .arr _ e,x,y=>ak6 (pa e) x y
inductive Step where
 |kq (n:Nat)
 |idx (i:Nat)
def LC:List Step→List Step→Bool
 |[],[]=>true
 | .kq a::p,.kq b::q=>Nat.beq a b&&LC p q
 |_,_=>false
def xG:List Step→List Step→Bool
 |[],_=>true
 | .kq a::p,.kq b::q=>Nat.beq a b&&xG p q
 |_,_=>false
def Jp:Ty→Nat→Option Ty
 | .pair a b,n=>match n with
  |0=>some a
  |n+1=>Jp b n
 |_,_=>none
def gH:List Step→Ty→Ty→Bool
 |[],τ,υ=>decide (τ=υ)
 | .kq n::p,τ,υ=>match Jp τ n with
  |some a=>gH p a υ
  |none=>false
 |_,_,_=>false
inductive bC where
 |any
 |UY
 |val (τ:Ty) (x:τ.den)
 |Jq (τ:Ty) (x:τ.den) (n:Nat)
 |emp
 |ref (id:Nat)
 |jg (id:Nat) (p:List Step)
 |qD (τ:Ty) (x:τ.den)
 |tup (vs:List bC)
 |LD (f:Nat) (caps:List bC)
inductive bh where
 |obj (τ:Ty) (x:τ.den)
 |ga (τ:Ty) (x:τ.den) (p:List Step) (j:Nat)
 |own (e:Ty) (l:List e.den)
 |ot (e:Ty) (l:List e.den)
 |gone
structure St where
 T:Nat→bC
 H:Nat→Option bh
def St.put(σ:St)(d:Nat)(v:bC):St:=⟨λi=>cond (Nat.beq i d) v (σ.T i),σ.H⟩
def St.jF(σ:St)(d:Nat)(v:Option bh):St:=⟨σ.T,λi=>cond (Nat.beq i d) v (σ.H i)⟩
def St.vd(σ:St)(d:Option Nat)(v:bC):St:=match d with|some d=>σ.put d v|none=>σ
def LF(n:Nat)(io:List Nat):Option Nat→Bool|some d=>Nat.blt d n&&io.all (λi=> !(Nat.beq i d))|none=>true
def St.vI(σ:St):List (Nat×Option bh)→St
 |[]=>σ
 |u::r=>(σ.jF u.1 u.2).vI r
abbrev S0:St:=⟨λ_=> .any,λ_=>none⟩
abbrev iP:=List (Nat×Option bh)
section K
variable{α:Type}
def xH:(τ:Ty)→τ.den→Nat→((υ:Ty)→υ.den→Option α)→Option α
 | .pair a b,x,n,k=>match n with
  |0=>k a x.1
  |n+1=>xH b x.2 n k
 |_,_,_,_=>none
def mU:(τ:Ty)→τ.den→Nat→((υ:Ty)→υ.den→(υ.den→Option α)→Option α)→(τ.den→Option α)→Option α
 | .pair a b,x,n,m,k=>match n with
  |0=>m a x.1 λz=>k (z,x.2)
  |n+1=>mU b x.2 n m λz=>k (x.1,z)
 |_,_,_,_,_=>none
def mV(τ υ:Ty)(k:Option α):Option α:=if τ=υ then k else none
def c7(υ τ:Ty)(y:υ.den)(k:τ.den→Option α):Option α:=if h:υ=τ then k (h▸y)else none
def agy(τ:Ty)(x:τ.den)(i:Nat)(k:(υ:Ty)→υ.den→Option α):Option α:=
 match τ,x with
 | .arr _ e,x=>k e (List.getD x i e.zero)
 |_,_=>none
def DB(τ:Ty)(x:τ.den)(i:Nat)(m:(υ:Ty)→υ.den→(υ.den→Option α)→Option α)(k:τ.den→Option α):Option α:=
 match τ,x,k with
 | .arr _ e,x,k=>m e (List.getD x i e.zero) λz=>k (List.set x i z)
 |_,_,_=>none
def zy:List Step→(τ:Ty)→τ.den→((υ:Ty)→υ.den→Option α)→Option α
 |[],τ,x,k=>k τ x
 | .kq n::p,τ,x,k=>xH τ x n fun υ y=>zy p υ y k
 | .idx i::p,τ,x,k=>agy τ x i fun υ y=>zy p υ y k
def ve(υ:Ty)(y:υ.den):List Step→(τ:Ty)→τ.den→(τ.den→Option α)→Option α
 |[],τ,_,k=>c7 υ τ y k
 | .kq n::p,τ,x,k=>mU τ x n (fun υ' y' k'=>ve υ y p υ' y' k') k
 | .idx i::p,τ,x,k=>DB τ x i (fun υ' y' k'=>ve υ y p υ' y' k') k
def lN(fz:Bool)(a:bC)(H:Nat→Option bh)(τ:Ty)(k:τ.den→List Nat→iP→Option α):Option α:=
 match a with
 | .val υ x=>c7 υ τ x λy=>k y [] []
 | .Jq υ x _=>c7 υ τ x λy=>k y [] []
 | .emp=>match τ,k with
  | .slice _,k=>k [] [] []
  |_,_=>none
 | .ref id=>match H id with
  |some (.own e l)=>c7 (.slice e) τ l λy=>k y [id] (cond fz [(id,some (.ot e l))] [])
  |some (.ot e l)=>c7 (.slice e) τ l λy=>k y [id] []
  |_=>none
 |_=>none
def LG(a:bC)(k:(τ:Ty)→τ.den→Option α):Option α:=
 match a with
 | .val υ x=>k υ x
 |_=>none
def mW(id:Nat)(p:List Step)(H:Nat→Option bh)(k:Ty→Option α):Option α:=
 match H id with
 |some (.obj τ x)=>zy p τ x fun υ _=>k υ
 |some (.ga τ x _ _)=>zy p τ x fun υ _=>k υ
 |some (.own e l)|some (.ot e l)=>match p with
  | .idx i::p=>zy p e (List.getD l i e.zero) fun υ _=>k υ
  |_=>none
 |_=>none
def avK(a:bC)(H:Nat→Option bh)(k:(τ:Ty)→τ.den→List Nat→Option α):Option α:=
 match a with
 | .val υ x=>k υ x []
 | .ref id=>match H id with
  |some (.own e l)|some (.ot e l)=>k (.slice e) l [id]
  |_=>none
 |_=>none
def vJ(a:bC)(k:IntKind→Int→Option α):Option α:=
 match a with
 | .val (.int i) x=>k i x
 |_=>none
end K
inductive AM where
 |v (τ:Ty)
 |own (e:Ty)
 |io (τ:Ty)
 |fn (f:Nat) (τ:Ty)
 |ptr (τ:Ty)
 |jg (τ:Ty)
 |lo (e:Ty)
 deriving DecidableEq
@[reducible] def AM.den:AM→Type
 | .v τ=>τ.den
 | .own e=>List e.den
 | .io τ=>τ.den
 | .fn _ τ=>τ.den
 | .ptr τ=>τ.den
 | .jg τ=>τ.den
 | .lo e=>List e.den
@[reducible] def HP:List AM→Type
 |[]=>Unit
 |[m]=>m.den
 |m::n::ms=>m.den×HP (n::ms)
structure lO where
 args:List AM
 res:List AM
 quiet:Bool
 run:HP args→Option (HP res)
inductive CM where
 |v (τ:Ty)
 |own (e:Ty)
 |obj (τ:Ty)
 |ga (τ:Ty) (q:List Step) (e:Ty)
 |same (s:Nat)
 |io (τ:Ty)
 |fn (f:Nat) (τ:Ty)
structure Env where
 nt:Nat
 ty:Nat→Option Ty
 Γ:Nat→List lO
 N:Nat
 vK:Nat→Option (List (Nat×CM))
 xI:Nat→Option (List (Nat×CM))
 io:List Nat:=[]
 lk:Option (Ty×List Step×Ty×List Nat):=none
def lkT(E:Env)(τ:Ty):Option (List Step×Ty):=match E.lk with
 |some (υ,q,e,_)=>cond (decide (υ=τ)) (cond (gH q τ (.slice e)) (some (q,e)) none) none
 |none=>none
def Jr(E:Env)(τ:Ty)(id:Nat):Option (List Step×Ty):=match E.lk with
 |some (_,_,_,ds)=>cond (ds.any λd=>Nat.beq (id/16) d) (lkT E τ) none
 |none=>none
def cvA:Value→bC
 | .int k n=> .val (.int k) n
 | .bool b=> .val .bool b
 | .string s=> .val .str s
 | .slice none 0 0=> .emp
 |_=> .any
def St.ρ (σ:St):Operand→bC
 | .tmp t=>σ.T t
 | .const v=>cvA v
 | .global _=> .any
 | .func f=> .LD f []
section
variable{α:Type}
def tP(op:BinOp)(k:IntKind)(x y:Int)(K:bC→Option α):Option α:=
 match op with
 | .add=>K (.val (.int k) (W k (x+y)))
 | .sub=>K (.val (.int k) (W k (x-y)))
 | .mul=>K (.val (.int k) (W k (x*y)))
 | .quo=>cond (aO y 0) none (K (.val (.int k) (W k (quo x y))))
 | .rem=>cond (aO y 0) none (K (.val (.int k) (rem x y)))
 | .and=>K (.val (.int k) (qC .and k x y))
 | .or=>K (.val (.int k) (qC .or k x y))
 | .xor=>K (.val (.int k) (qC .xor k x y))
 | .andNot=>K (.val (.int k) (qC .andNot k x y))
 | .eql=>K (.val .bool (aO x y))
 | .neq=>K (.val .bool (!aO x y))
 | .lss=>K (.val .bool (aY x y))
 | .leq=>K (.val .bool (dj x y))
 | .gtr=>K (.val .bool (aY y x))
 | .geq=>K (.val .bool (dj y x))
 |_=>none
def YQ(op:BinOp)(k:IntKind)(x y:Int)(K:bC→Option α):Option α:=
 match op with
 | .shl=>cond (aY y 0) none (K (.val (.int k) (W k (shl k x y))))
 | .shr=>cond (aY y 0) none (K (.val (.int k) (shr k x y)))
 |_=>none
def YR:BinOp→Bool
 | .shl| .shr=>true
 |_=>false
def Eu(t:Option Ty)(op:BinOp)(τ:Ty)(x:τ.den)(υ:Ty)(y:υ.den)(K:bC→Option α):Option α:=
 match τ,x,υ,y with
 | .int k,x,.int k',y=>cond (YR op) (YQ op k x y K) (if k=k' then tP op k x y K else none)
 |τ,x,υ,y=>match t with
  |none=>none
  |some u=>mV u τ (cond τ.comparable (match op with
   | .eql=>c7 υ τ y λy=>K (.val .bool (pa τ x y))
   | .neq=>c7 υ τ y λy=>K (.val .bool (!pa τ x y))
   |_=>none) none)
def Sw(op:UnOp)(a:bC)(K:bC→Option α):Option α:=
 match op,a with
 | .neg,.val (.int k) n=>K (.val (.int k) (W k (0-n)))
 | .xor,.val (.int k) n=>K (.val (.int k) (qC .xor k (if k.signed then-1 else k.max) n))
 | .not,.val .bool b=>K (.val .bool (!b))
 |_,_=>none
abbrev iU(α:Type):=bC→List Nat→iP→Option α
def Yx(up:Bool):bC→List bC→(bC→Option α)→Option α
 |a,[],K=>K a
 |a,b::r,K=>vJ a λk x=>vJ b λk' y=>if k=k' then Yx up (.val (.int k) (cond up (mx x y) (mn x y))) r K else none
def LH(τ:Ty)(a:bC)(H:Nat→Option bh)(K:iU α):Option α:=
 match τ,a with
 | .slice _,.val (.slice _) l=>K (.val (.int .i64) (List.length l:Int)) [] []
 | .arr n _,.val (.arr _ _) _=>K (.val (.int .i64) (n:Int)) [] []
 | .str,.val .str s=>K (.val (.int .i64) (ByteArray.size s:Int)) [] []
 | .slice _,.emp=>K (.val (.int .i64) (0:Int)) [] []
 | .slice _,.ref id=>match H id with
  |some (.own _ l)|some (.ot _ l)=>K (.val (.int .i64) (l.length:Int)) [id] []
  |_=>none
 |_,_=>none
def qE(H:Nat→Option bh)(id:Nat)(e:bh)(K:Option α):Option α:=
 match H id with
 |none=>K
 |some _=>none
def LJ(id:Nat)(e:Ty)(a b:bC)(H:Nat→Option bh)(K:iU α):Option α:=
 lN false b H (.slice e) λys rd _=>
  match a with
  | .emp=>cond (small (List.length ys)) (K (.ref id) (id::rd) [(id,some (.own e ys))]) none
  | .ref j=>match H j with
   |some (.own e' l)=>c7 (.slice e') (.slice e) l λxs=>
    cond (small (List.length xs+List.length ys)) (K (.ref id) (id::j::rd) [(j,some .gone),(id,some (.own e (xs++ys)))]) none
   |_=>none
  |_=>none
def tQ(τ:Ty)(H:Nat→Option bh):List (Nat×bC)→τ.den→List Nat→iP→(τ.den→List Nat→iP→Option α)→Option α
 |[],x,rd,ups,K=>K x rd ups
 |p::r,x,rd,ups,K=>xH τ x p.1 fun υ _=>lN true p.2 H υ λy AW nN=>
  mU τ x p.1 (fun υ' _ k'=>c7 υ υ' y k') λz=>tQ τ H r z (AW++rd) (ups++nN) K
def vL(e:Ty)(H:Nat→Option bh)(n:Nat):List (Nat×bC)→List e.den→List Nat→iP→(List e.den→List Nat→iP→Option α)→Option α
 |[],l,rd,ups,K=>K l rd ups
 |p::r,l,rd,ups,K=>cond (Nat.blt p.1 n) (lN true p.2 H e λy AW nN=>vL e H n r (List.set l p.1 y) (AW++rd) (ups++nN) K) none
def BV(v:bC)(H:Nat→Option bh):(a:Ty)→(a.den→List Nat→iP→Option α)→Option α
 | .pair a .unit,k=>match v with
  | .qD υ x=>c7 υ a x λy=>k (y,()) [] []
  |_=>none
 |a,k=>lN true v H a k
def BW:(a:Ty)→a.den→bC
 | .pair a .unit,x=> .qD a x.1
 |a,x=> .val a x
def qF(H:Nat→Option bh):(τ:Ty)→List bC→(τ.den→List Nat→iP→Option α)→Option α
 | .unit,[],K=>K () [] []
 | .pair a b,v::vs,K=>BV v H a λx rd ups=>qF H b vs λxs AW nN=>K (x,xs) (AW++rd) (ups++nN)
 |_,_,_=>none
def pG:(τ:Ty)→τ.den→List bC
 | .pair a b,x=>BW a x.1::pG b x.2
 |_,_=>[]
def bW(H:Nat→Option bh)(d:Nat)(v:Option bh):Nat→Option bh:=λi=>cond (Nat.beq i d) v (H i)
def vM(H:Nat→Option bh):List bC→(List bC→List Nat→iP→Option α)→Option α
 |[],K=>K [] [] []
 |a::r,K=>match a with
  | .jg id []=>match H id with
   |some (.obj τ x)=>vM (bW H id (some .gone)) r λcs rd ups=>K (.qD τ x::cs) (id::rd) ((id,some .gone)::ups)
   |_=>none
  |a=>vM H r λcs rd ups=>K (a::cs) rd ups
def nJ(m:AM)(a:bC)(H:Nat→Option bh)(k:m.den→(Nat→Option bh)→List Nat→iP→iP→List (Nat×AM)→Option α):Option α:=
 match m,k with
 | .v τ,k=>lN true a H τ λx rd uf=>match uf with
  |[]=>k x H rd [] [] []
  |u::r=>k x (bW H u.1 u.2) rd [] (u::r) []
 | .own e,k=>match a with
  | .emp=>k [] H [] [] [] []
  | .ref id=>match H id with
   |some (.own e' l)=>c7 (.slice e') (.slice e) l λx=>k x (bW H id (some .gone)) [id] [(id,some .gone)] [] []
   |_=>none
  |_=>none
 | .io τ,k=>match a with
  | .jg id []=>match H id with
   |some (.obj υ x)=>c7 υ τ x λy=>k y (bW H id (some .gone)) [id] [] [] [(id,.io τ)]
   |_=>none
  |_=>none
 | .fn f τ,k=>match a with
  | .LD f' c=>cond (Nat.beq f f') (qF H τ c λx rd uf=>match uf with
   |[]=>k x H rd [] [] []
   |_=>none) none
  |_=>none
 | .ptr _,_=>none
 | .jg τ,k=>match a with
  | .qD υ x=>c7 υ τ x λy=>k y H [] [] [] []
  |_=>none
 | .lo e,k=>match a with
  | .ref id=>match H id with
   |some (.own e' l)=>c7 (.slice e') (.slice e) l λx=>k x (bW H id (some .gone)) [id] [] [] [(id,.lo e)]
   |_=>none
  |_=>none
def s0:(ms:List AM)→List bC→(Nat→Option bh)→List Nat→iP→iP→List (Nat×AM)→(HP ms→List Nat→iP→iP→List (Nat×AM)→Option α)→Option α
 |[],[],_,rd,uo,uf,io,K=>K () rd uo uf io
 |[m],[a],H,rd,uo,uf,io,K=>nJ m a H λx _ AW K2 K3 GB=>K x (AW++rd) (K2++uo) (K3++uf) (io++GB)
 |m::n::ms,a::pP,H,rd,uo,uf,io,K=>nJ m a H λx H' AW K2 K3 GB=>
  s0 (n::ms) pP H' (AW++rd) (K2++uo) (K3++uf) (io++GB) λxs rd uo uf io=>K (x,xs) rd uo uf io
 |_,_,_,_,_,_,_,_=>none
def Js(m:AM)(x:m.den)(id:Nat):bC×iP:=
 match m,x with
 | .v τ,x=>(.val τ x,[])
 | .own e,x=>(.ref id,[(id,some (.own e x))])
 | .io τ,x=>(.val τ x,[])
 | .fn _ _,_=>(.any,[])
 | .ptr τ,x=>(.jg id [],[(id,some (.obj τ x))])
 | .jg _,_=>(.any,[])
 | .lo _,_=>(.any,[])
def jG:(ms:List AM)→HP ms→Nat→List (Nat×AM)→List bC×iP×List (Nat×AM)
 |[],_,_,io=>([],[],io)
 |[m],x,id,io=>match m,x,io with
  | .io τ,x,(j,_)::io=>([],[(j,some (.obj τ x))],io)
  | .lo e,x,(j,_)::io=>([],[(j,some (.own e x))],io)
  |m,x,io=>([(Js m x id).1],(Js m x id).2,io)
 |m::n::ms,x,id,io=>match m,x,io with
  | .io τ,x,(j,_)::io=>let r:=jG (n::ms) x.2 (id+1) io;(r.1,(j,some (.obj τ x.1))::r.2.1,r.2.2)
  | .lo e,x,(j,_)::io=>let r:=jG (n::ms) x.2 (id+1) io;(r.1,(j,some (.own e x.1))::r.2.1,r.2.2)
  |m,x,io=>let r:=jG (n::ms) x.2 (id+1) io;((Js m x.1 id).1::r.1,(Js m x.1 id).2++r.2.1,r.2.2)
def LK:List bC→bC
 |[]=> .any
 |[a]=>a
 |l=> .tup l
def tR(H:Nat→Option bh)(id:Nat):Nat→Bool
 |0=>true
 |n+1=>(match H (id+n)with|none=>true|some _=>false)&&tR H id n
def LM(id:Nat):Nat→List Nat
 |0=>[]
 |n+1=>(id+n)::LM id n
def fits:List AM→List bC→Bool
 |[],[]=>true
 | .fn f _::ms,.LD g _::pP=>Nat.beq f g&&fits ms pP
 | .fn _ _::_,_::_=>false
 |_::ms,_::pP=>fits ms pP
 |_,_=>false
def LN:List lO→List bC→Option lO
 |[],_=>none
 |S::r,pP=>cond (fits S.args pP) (some S) (LN r pP)
def BX(E:Env)(f:Nat)(pP:List bC)(id:Nat)(H:Nat→Option bh)(K:iU α):Option α:=
 match LN (E.Γ f) pP with
 |none=>none
 |some S=>s0 S.args pP H [] [] [] [] λx rd uo uf io=>
  (S.run x).bind λy=>
   let r:=jG S.res y id io
   cond (tR H id S.res.length) (K (LK r.1) (LM id S.res.length++(r.2.1.map (·.1)++rd)) (uo++cond S.quiet [] uf++r.2.1)) none
def yp(a:Option bC)(d:Int)(k:Int→Option α):Option α:=
 match a with
 |none=>k d
 |some a=>vJ a λ_ x=>k x
def lI:Option Operand→Bool
 |some (.const (.int _ n))=>decide (n=0)
 |_=>false
def qG(t:Ty)(z:Bool)(a:bC)(lo hi mx:Option bC)(H:Nat→Option bh)(K:iU α):Option α:=
 match t,a with
 | .str,.val .str s=>cond mx.isNone (yp lo 0 λl=>yp hi (ByteArray.size s:Int) λh=>
  cond (jS l h (ByteArray.size s:Int) (ByteArray.size s:Int)) (K (.val .str (ByteArray.extract s l.toNat h.toNat)) [] []) none) none
 | .slice _,.emp=>cond z (K .emp [] []) (cond mx.isNone (yp lo 0 λl=>yp hi 0 λh=>cond (jS l h 0 0) (K .emp [] []) none) none)
 | .slice e,a=>lN (!z) a H (.slice e) λx rd ups=>cond z (K .emp rd [])
  (cond (mx.isNone||hi.isSome) (yp lo 0 λl=>yp hi (List.length x:Int) λh=>yp mx (List.length x:Int) λm=>
   cond (jS l h m (List.length x:Int))
    (K (.val (.slice e) (List.drop l.toNat (List.take h.toNat x))) rd ups) none) none)
 |_,_=>none
def gy(τ:Ty)(a i:bC)(H:Nat→Option bh)(K:iU α):Option α:=
 vJ i λ_ i=>
 match τ with
 | .slice e=>match a with
  | .val υ l=>c7 υ (.slice e) l λl=>cond (ba i (List.length l)) (K (.qD e (List.getD l i.toNat e.zero)) [] []) none
  | .ref id=>match H id with
   |some (.own e' l)|some (.ot e' l)=>mV e' e (cond (ba i (List.length l)) (K (.jg id [.idx i.toNat]) [id] []) none)
   |_=>none
  |_=>none
 | .arr n e=>match a with
  | .jg id p=>mW id p H fun υ=>mV υ (.arr n e) (cond (ba i n) (K (.jg id (p++[.idx i.toNat])) [id] []) none)
  | .qD υ l=>c7 υ (.arr n e) l λl=>cond (ba i n) (K (.qD e (List.getD l i.toNat e.zero)) [] []) none
  |_=>none
 |_=>none
def vN(τ:Ty)(a i:bC)(K:bC→Option α):Option α:=
 vJ i λ_ i=>
 match τ,a with
 | .arr n e,.val υ l=>c7 υ (.arr n e) l λl=>cond (ba i n) (K (.val e (List.getD l i.toNat e.zero))) none
 | .str,.val .str s=>cond (ba i (ByteArray.size s)) (K (.val (.int .u8) ((s.data.getD i.toNat 0).toNat:Int))) none
 |_,_=>none
def kL(a:bC)(H:Nat→Option bh)(K:(υ:Ty)→υ.den→List Nat→Option α):Option α:=
 match a with
 | .qD τ x=>K τ x []
 | .jg id p=>match H id with
  |some (.obj τ x)=>zy p τ x fun υ y=>K υ y [id]
  |some (.own e l)|some (.ot e l)=>match p with
   | .idx i::p=>zy p e (List.getD l i e.zero) fun υ y=>K υ y [id]
   |_=>none
  |_=>none
 |_=>none
def lP(τ:Ty)(a v:bC)(H:Nat→Option bh)(K:iU α):Option α:=
 match a with
 | .jg id p=>lN true v H τ λy rd ups=>
  match H id with
  |some (.obj υ x)=>ve τ y p υ x λz=>K .any (id::rd) (ups++[(id,some (.obj υ z))])
  |some (.own e l)=>match p with
   | .idx i::p=>cond (rd.contains id) none (ve τ y p e (List.getD l i e.zero) λz=>K .any (id::rd) (ups++[(id,some (.own e (List.set l i z)))]))
   |_=>none
  |_=>none
 |_=>none
def CR(j:Nat)(q:List Step)(τ:Ty)(x:τ.den)(H:Nat→Option bh)(k:τ.den→iP→Option α):Option α:=
 match H j with
 |some (.own e l)=>ve (.slice e) l q τ x λz=>k z [(j,some (.ot e l))]
 |some (.ot e l)=>ve (.slice e) l q τ x λz=>k z []
 |_=>none
def uS(τ:Ty)(a:bC)(H:Nat→Option bh)(K:iU α):Option α:=
 let yq:=kL a H fun υ y rd=>c7 υ τ y λz=>K (.val τ z) rd []
 match a with
 | .jg id p=>match H id with
  |some (.ga υ x q j)=>cond (LC p q) (cond (gH q υ τ) (K (.ref j) [id] []) none)
   (cond (xG p q) (CR j q υ x H λz ups=>zy p υ z fun υ' y=>c7 υ' τ y λy'=>K (.val τ y') [id,j] ups)
    (zy p υ x fun υ' y=>c7 υ' τ y λy'=>K (.val τ y') [id] []))
  |_=>yq
 |_=>yq
def BY(τ:Ty)(id k:Nat)(e:Ty)(q:List Step)(υ:Ty)(x:υ.den)(H:Nat→Option bh)(K:iU α):Option α:=
 match H k with
 |some (.own e' _)=>mV e' e (mV τ (.slice e) (ve (.slice e) [] q υ x λz=>K .any [id,k] [(id,some (.ga υ z q k))]))
 |_=>none
def jT(E:Env)(τ:Ty)(a v:bC)(H:Nat→Option bh)(K:iU α):Option α:=
 let yq:=lP τ a v H K
 match a with
 | .jg id p=>match H id with
  |some (.obj υ x)=>match Jr E υ id,v with
   |some (q,e),.ref k=>cond (LC p q) (BY τ id k e q υ x H K) yq
   |_,_=>yq
  |some (.ga υ x q j)=>
   let put:=lN true v H τ λy rd ups=>ve τ y p υ x λz=>K .any (id::rd) (ups++[(id,some (cond (xG p q) (.obj υ z) (.ga υ z q j)))])
   match Jr E υ id,v with
   |some (q',e),.ref k=>cond (LC p q&&LC q q') (BY τ id k e q υ x H K) put
   |_,_=>put
  |_=>yq
 |_=>yq
def sC(E:Env)(τ:Ty)(a v:bC)(H:Nat→Option bh)(K:iU α):Option α:=
 match a,v with
 | .jg id [],.Jq υ y n=>match Jr E υ id with
  |some ([.kq m],e)=>cond (Nat.beq m n) (mV τ υ (mW id [] H fun υ'=>mV υ' υ
   (qE H (id+2) (.own e []) (K .any [id,id+2] [(id,some (.ga υ y [.kq m] (id+2))),(id+2,some (.own e []))])))) (jT E τ a v H K)
  |_=>jT E τ a v H K
 |_,_=>jT E τ a v H K
def CS(H:Nat→Option bh)(id:Nat)(τ:Ty)(x:τ.den)(q:List Step)(e:Ty)(K:iU α):Option α:=
 qE H id (.obj τ x) (qE H (id+1) (.own e []) (K (.jg id []) [id,id+1] [(id,some (.ga τ x q (id+1))),(id+1,some (.own e []))]))
def YS(E:Env)(ps:List (Nat×bC))(τ:Ty)(x:τ.den):bC:=match lkT E τ with
 |some ([.kq n],_)=>cond (ps.all λp=> !(Nat.beq p.1 n)) (.Jq τ x n) (.val τ x)
 |_=> .val τ x
def partsOf(σρ:Operand→bC)(ps:Array (Nat×Operand)):List (Nat×bC):=ps.toList.map λp=>(p.1,σρ p.2)
def sO(E:Env)(o:Oper)(ρ:Operand→bC)(H:Nat→Option bh)(K:iU α):Option α:=
 let id:=16*o.dst.getD 0
 match o.op with
 | .move x| .assign x=>K (ρ x) [] []
 | .pick c a b=>match ρ c with
  | .val .bool t=>cond t (K (ρ a) [] []) (K (ρ b) [] [])
  |_=>none
 | .alloc t=>match E.ty t with
  |some τ=>match Jr E τ id with
   |some (q,e)=>CS H id τ τ.zero q e K
   |none=>qE H id (.obj τ τ.zero) (K (.jg id []) [id] [(id,some (.obj τ τ.zero))])
  |none=>none
 | .box t x=>match E.ty t with
  |some τ=>
   let yq:=lN true (ρ x) H τ λy rd ups=>qE H id (.obj τ y) (K (.jg id []) (id::rd) (ups++[(id,some (.obj τ y))]))
   match Jr E τ id,ρ x with
   |some ([.kq m],e),.Jq υ y n=>cond (Nat.beq m n) (c7 υ τ y λy=>CS H id τ y [.kq m] e K) yq
   |_,_=>yq
  |none=>none
 | .build t ps=>match E.ty t with
  |some (.arr n e)=>vL e H n (partsOf ρ ps) (List.replicate n e.zero) [] [] λl rd ups=>K (.val (.arr n e) l) rd ups
  |some τ=>cond τ.isAgg (tQ τ H (partsOf ρ ps) τ.zero [] [] λx rd ups=>K (YS E (partsOf ρ ps) τ x) rd ups) none
  |none=>none
 | .buildSlice t n ps=>match E.ty t with
  |some (.slice e)=>cond (Nat.ble (n*(e.size+1)) 16777216) (qE H id (.own e []) (vL e H n (partsOf ρ ps) (List.replicate n e.zero) [] [] λl rd ups=>K (.ref id) (id::rd) (ups++[(id,some (.own e l))]))) none
  |_=>none
 | .load t a=>match E.ty t with
  |some τ=>uS τ (ρ a) H K
  |none=>none
 | .store t a v=>match E.ty t with
  |some τ=>sC E τ (ρ a) (ρ v) H K
  |none=>none
 | .nilCheck x=>match ρ x with
  | .jg id p=>K (.jg id p) [] []
  | .qD τ x=>K (.qD τ x) [] []
  |_=>none
 | .binOp op t x y _=>LG (ρ x) fun τ x=>LG (ρ y) fun υ y=>Eu (E.ty t) op τ x υ y λv=>K v [] []
 | .unOp op _ x=>Sw op (ρ x) λv=>K v [] []
 | .convert src dst x=>match E.ty src,E.ty dst with
  |some _,some (.int k)=>vJ (ρ x) λ_ n=>K (.val (.int k) (W k n)) [] []
  |_,_=>none
 | .makeFunc (.func f) first caps=>cond first.isEmpty (vM H (caps.toList.map ρ) λcs rd ups=>K (.LD f cs) rd ups) none
 | .makeSlice t l c=>match E.ty t with
  |some (.slice e)=>vJ (ρ l) λ_ l=>vJ (ρ c) λ_ c=>cond (jR l c)
    (qE H id (.own e []) (K (.ref id) [id] [(id,some (.own e (List.replicate l.toNat e.zero)))])) none
  |_=>none
 | .slice t x lo hi mx=>match E.ty t with
  |some τ=>qG τ (lo.isNone&&lI hi&&lI mx) (ρ x) (lo.map ρ) (hi.map ρ) (mx.map ρ) H K
  |none=>none
 | .fieldAddr t x n=>match E.ty t with
  |some τ=>match ρ x with
   | .jg id p=>mW id p H fun υ=>mV υ τ (xH τ τ.zero n fun υ' _=>cond (Nat.beq υ'.size 0) none (K (.jg id (p++[.kq n])) [id] []))
   | .qD υ x=>mV υ τ (xH υ x n fun υ y=>cond (Nat.beq υ.size 0) none (K (.qD υ y) [] []))
   |_=>none
  |none=>none
 | .field t x n=>match E.ty t with
  |some τ=>match ρ x with
   | .val υ x=>mV υ τ (xH υ x n fun υ y=>K (.val υ y) [] [])
   |_=>none
  |none=>none
 | .indexAddr t x i=>match E.ty t with
  |some τ=>gy τ (ρ x) (ρ i) H K
  |none=>none
 | .index t x i=>match E.ty t with
  |some τ=>vN τ (ρ x) (ρ i) λv=>K v [] []
  |none=>none
 | .extract t i=>match ρ t with
  | .tup vs=>match vs[i]? with
   |some v=>K v [] []
   |none=>none
  |_=>none
 | .call c=>match c.callee with
  | .builtin .len=>match c.args.toList,(c.argTypes.toList.head?).bind E.ty with
   |[x],some τ=>LH τ (ρ x) H K
   |_,_=>none
  | .builtin .append=>match c.args.toList,c.argTypes.toList with
   |[x,y],[t,t']=>match E.ty t with
    |some (.slice e)=>cond (Nat.beq t t') (qE H id (.own e []) (LJ id e (ρ x) (ρ y) H K)) none
    |_=>none
   |_,_=>none
  | .builtin .max=>match c.args.toList with
   |x::r=>Yx true (ρ x) (r.map ρ) λv=>K v [] []
   |_=>none
  | .builtin .min=>match c.args.toList with
   |x::r=>Yx false (ρ x) (r.map ρ) λv=>K v [] []
   |_=>none
  | .value g=>match ρ g with
   | .LD f caps=>BX E f (c.args.toList.map ρ++caps) id H K
   |_=>none
  |_=>none
 |_=>none
def s4(E:Env)(ops:List Oper)(o:Oper)(σ:St)(K:St→List Nat→List Nat→Option α):Option α:=
 let run (σ:St):Option α:=sO E o σ.ρ σ.H λv rd ups=>K ((σ.vI ups).vd o.dst v) rd (ups.map (·.1))
 cond (LF E.nt E.io o.dst) (match o.guard with
 |none=>run σ
 |some (j,want)=>match(ops[j]?).bind (·.dst)with
  |none=>none
  |some t=>match σ.T t with
   | .val .bool b=>match want with
    |true=>cond b (run (σ.put t (.val .bool true))) (K ((σ.put t (.val .bool false)).vd o.dst .UY) [] [])
    |false=>cond b (K ((σ.put t (.val .bool true)).vd o.dst .UY) [] []) (run (σ.put t (.val .bool false)))
   | .UY=>K (σ.vd o.dst .UY) [] []
   |_=>none) none
abbrev Log:=List (Nat×List Nat×List Nat)
def Sx(E:Env)(ops:List Oper):List Oper→Nat→St→Log→(St→Log→Option α)→Option α
 |[],_,σ,lg,K=>K σ lg
 |o::r,i,σ,lg,K=>s4 E ops o σ fun σ' rd wr=>Sx E ops r (i+1) σ' ((i,rd,wr)::lg) K
def sD:List Oper→List Nat→List Nat
 |[],acc=>acc
 |o::r,acc=>sD r (acc++[o.after.toList.foldl (λs e=>cond (Region.binds .any e) (s|||2^e.on|||acc.getD e.on 0) s) 0])
def names(ops:List Oper)(o:Oper):List Nat:=
 (o.op.operands.toList.filterMap fun| .tmp t=>some t|_=>none)++
 (match o.guard with
  |some (g,_)=>((ops[g]?).bind (·.dst)).toList
  |none=>[])
def meets(a b:List Nat):Bool:=a.any λx=>b.any λy=>Nat.beq x y
def UZ(ops:List Oper):Bool:=
 let b:=sD ops []
 (ops.zipIdx.all λ(o,j)=>o.after.toList.all λe=> !(Region.binds .any e)||Nat.blt e.on j)&&
 ops.zipIdx.all λ(o,j)=>ops.zipIdx.all λ(p,i)=>Nat.ble j i||(b.getD j 0).testBit i||
  !(meets p.dst.toList (o.dst.toList++names ops o)||meets o.dst.toList (names ops p))
def afq(ops:List Oper)(lg:Log):Bool:=
 let b:=sD ops []
 lg.all λx=>lg.all λy=>Nat.ble x.1 y.1||(b.getD x.1 0).testBit y.1||
  !(meets y.2.2 (x.2.1++x.2.2)||meets y.2.1 x.2.2)
def DC(E:Env)(ops:Array Oper)(draw:Bool)(σ:St)(K:St→Option α):Option α:=
 Sx E ops.toList ops.toList 0 σ [] fun σ' lg=>cond (!draw||(UZ ops.toList&&afq ops.toList lg)) (K σ') none
def gY:List (Nat×CM)→St→St→(St→Option α)→Option α
 |[],_,acc,K=>K acc
 |(s,.v τ)::r,σ,acc,K=>lN true (σ.T s) σ.H τ λx _ ups=>gY r (σ.vI ups) (acc.put s (.val τ x)) K
 |(s,.own e)::r,σ,acc,K=>match σ.T s with
  | .emp=>gY r σ ((acc.put s (.ref (16*s+14))).jF (16*s+14) (some (.own e []))) K
  | .ref id=>match σ.H id with
   |some (.own e' l)=>c7 (.slice e') (.slice e) l λx=>gY r (σ.jF id (some .gone)) ((acc.put s (.ref (16*s+14))).jF (16*s+14) (some (.own e x))) K
   |_=>none
  |_=>none
 |(s,.obj τ)::r,σ,acc,K=>match σ.T s with
  | .jg id []=>match σ.H id with
   |some (.obj υ x)=>c7 υ τ x λy=>gY r (σ.jF id (some .gone)) ((acc.put s (.jg (16*s+14) [])).jF (16*s+14) (some (.obj τ y))) K
   |some (.ga υ x q j)=>CR j q υ x σ.H λz ups=>c7 υ τ z λy=>gY r ((σ.vI ups).jF id (some .gone)) ((acc.put s (.jg (16*s+14) [])).jF (16*s+14) (some (.obj τ y))) K
   |_=>none
  |_=>none
 |(s,.ga τ q e)::r,σ,acc,K=>match σ.T s with
  | .jg id []=>match σ.H id with
   |some (.ga υ x q' j)=>cond (LC q q') (match σ.H j with
    |some (.own e' l)=>c7 υ τ x λy=>c7 (.slice e') (.slice e) l λl=>gY r ((σ.jF j (some .gone)).jF id (some .gone))
     (((acc.put s (.jg (16*s+14) [])).jF (16*s+13) (some (.own e l))).jF (16*s+14) (some (.ga τ y q (16*s+13)))) K
    |_=>none) none
   |_=>none
  |_=>none
 |(s,.same s')::r,σ,acc,K=>match σ.T s,σ.T s',acc.T s' with
  | .ref i,.ref j,.ref j'=>cond (Nat.beq i j) (gY r σ (acc.put s (.ref j')) K) none
  |_,_,_=>none
 |(s,.io τ)::r,σ,acc,K=>match σ.T s with
  | .jg id []=>cond (Nat.beq id (16*s+15)) (match σ.H id with
   |some (.obj υ x)=>c7 υ τ x λy=>gY r (σ.jF id (some .gone)) ((acc.put s (.jg (16*s+15) [])).jF (16*s+15) (some (.obj τ y))) K
   |_=>none) none
  |_=>none
 |(s,.fn f τ)::r,σ,acc,K=>match σ.T s with
  | .LD f' c=>cond (Nat.beq f f') (qF σ.H τ c λx _ ups=>match ups with
   |[]=>gY r σ (acc.put s (.LD f (pG τ x))) K
   |_=>none) none
  |_=>none
def jU:List (Nat×CM)→Bool
 |[]=>true
 |q::r=>r.all (λp=> !(Nat.beq p.1 q.1))&&jU r
def vO(L:Option (List (Nat×CM)))(σ:St)(K:St→Option α):Option α:=
 match L with
 |none=>K σ
 |some L=>gY L σ ⟨λ_=> .any,λ_=>none⟩ K
def BZ(L:Option (List (Nat×CM)))(step:St→(St→Option α)→Option α):Nat→St→Option α
 |0,_=>none
 |n+1,σ=>step σ fun σ'=>vO L σ' (BZ L step n)
def cK:Code→Option Nat
 | .region id _ _=>some id
 | .seq a b=>match cK a with
  |some i=>some i
  |none=>cK b
 | .block _ c| .loop c| .scope c=>cK c
 |_=>none
def HI(E:Env)(c:Operand)(σ:St)(A B:St→Option α):Option α:=
 match σ.ρ c with
 | .val .bool b=>match c with
  | .tmp t=>cond b (A (σ.put t (.val .bool true))) (B (σ.put t (.val .bool false)))
  |_=>cond b (A σ) (B σ)
 |_=>none
def DD(E:Env)(c:Code):St→(St→Option α)→(Nat→St→Option α)→(St→Option α)→Option α:=
 Code.rec (motive:=λ_=>St→(St→Option α)→(Nat→St→Option α)→(St→Option α)→Option α)
  (fun σ k _ _=>k σ)
  (λ_ ops draw σ k _ _=>DC E ops draw σ k)
  (λ_ b A B σ k kx kr=>A σ (fun σ'=>vO ((cK b).bind E.xI) σ' λvf=>B vf k kx kr) kx kr)
  (λc _ _ A B σ k kx kr=>HI E c σ (fun σ'=>A σ' k kx kr) (fun σ'=>B σ' k kx kr))
  (λid _ A σ k kx kr=>A σ k (λi σ'=>cond (Nat.beq i id) (k σ') (kx i σ')) kr)
  (λb A σ _ kx kr=>vO ((cK b).bind E.vK) σ (BZ ((cK b).bind E.vK) (fun σ' kn=>A σ' kn kx kr) E.N))
  (λ_ _ _ _ _ _ _ _ _ _=>none)
  (λid σ _ kx _=>kx id σ)
  (λ_ A σ k kx kr=>A σ k kx kr)
  (λ_ σ k _ _=>k σ)
  (λ_ _ _ _ _=>none)
  (fun σ _ _ kr=>kr σ)
  (λ_ _ _ _ _=>none)
  c
def vg(E:Env):List Nat→Code→List (St→Option α)→St→(St→Option α)→(Nat→St→Option α)→(St→Option α)→Option α
 |[],c,_,σ,k,kx,kr=>DD E c σ k kx kr
 |n::p,c,ks,σ,k,kx,kr=>match c with
  | .seq a b=>match n with
   |0=>vg E p a ks σ (fun σ'=>vO ((cK b).bind E.xI) σ' λvf=>DD E b vf k kx kr) kx kr
   |_=>vg E p b ks σ k kx kr
  | .cond _ a b=>match n with
   |0=>vg E p a ks σ k kx kr
   |_=>vg E p b ks σ k kx kr
  | .block id c=>vg E p c ks σ k (λi σ'=>cond (Nat.beq i id) (k σ') (kx i σ')) kr
  | .loop b=>match ks with
   |κ::ks=>vg E p b ks σ κ kx kr
   |[]=>none
  | .scope c=>vg E p c ks σ k kx kr
  |_=>none
def Pz(m:AM)(x:m.den)(i:Nat)(σ:St):St:=
 match m,x with
 | .v τ,x=>σ.put i (.val τ x)
 | .own e,x=>(σ.put i (.ref (16*i+15))).jF (16*i+15) (some (.own e x))
 | .io τ,x=>(σ.put i (.jg (16*i+15) [])).jF (16*i+15) (some (.obj τ x))
 | .fn f τ,x=>σ.put i (.LD f (pG τ x))
 | .ptr _,_=>σ
 | .jg τ,x=>σ.put i (.qD τ x)
 | .lo e,x=>(σ.put i (.ref (16*i+15))).jF (16*i+15) (some (.own e x))
def entry:(ms:List AM)→HP ms→Nat→St→St
 |[],_,_,σ=>σ
 |[m],x,i,σ=>Pz m x i σ
 |m::n::ms,x,i,σ=>entry (n::ms) x.2 (i+1) (Pz m x.1 i σ)
def HJ(E:Env)(m:AM)(r:ResultVar ⊕ Nat)(σ:St)(K:m.den→St→Option α):Option α:=
 match m,r,K with
 | .v τ,.inl (.tmp t),K=>lN true (σ.T t) σ.H τ λx _ ups=>K x (σ.vI ups)
 | .v τ,.inl (.cell a t),K=>match E.ty t with
  |some τ'=>mV τ' τ (kL (σ.T a) σ.H fun υ y _=>c7 υ τ y λx=>K x σ)
  |none=>none
 | .own e,.inl (.tmp t),K=>match σ.T t with
  | .emp=>K [] σ
  | .ref id=>match σ.H id with
   |some (.own e' l)=>c7 (.slice e') (.slice e) l λx=>K x (σ.jF id (some .gone))
   |_=>none
  |_=>none
 | .io τ,.inr i,K=>match σ.T i with
  | .jg id []=>match σ.H id with
   |some (.obj υ x)=>c7 υ τ x λy=>K y (σ.jF id (some .gone))
   |_=>none
  |_=>none
 | .lo e,.inr i,K=>match σ.T i with
  | .ref id=>match σ.H id with
   |some (.own e' l)=>c7 (.slice e') (.slice e) l λx=>K x (σ.jF id (some .gone))
   |_=>none
  |_=>none
 | .ptr τ,.inl (.tmp t),K=>match σ.T t with
  | .jg id []=>match σ.H id with
   |some (.obj υ x)=>c7 υ τ x λy=>K y (σ.jF id (some .gone))
   |_=>none
  |_=>none
 |_,_,_=>none
def Jt(E:Env):(ms:List AM)→List (ResultVar ⊕ Nat)→St→(HP ms→Option α)→Option α
 |[],[],_,K=>K ()
 |[m],[r],σ,K=>HJ E m r σ λx _=>K x
 |m::n::ms,r::rs,σ,K=>HJ E m r σ λx σ'=>Jt E (n::ms) rs σ' λxs=>K (x,xs)
 |_,_,_,_=>none
def yr:List AM→Nat→List (ResultVar ⊕ Nat)
 |[],_=>[]
 | .io _::ms,i=> .inr i::yr ms (i+1)
 | .lo _::ms,i=> .inr i::yr ms (i+1)
 |_::ms,i=>yr ms (i+1)
def LO(E:Env)(fn:Func)(args res:List AM)(x:HP args):Option (HP res):=
 match fn.body with
 |none=>none
 |some c=>
  let kr:St→Option (HP res):=fun σ=>Jt E res (fn.results.toList.map .inl++yr args 0) σ some
  DD E c (entry args x 0 ⟨λ_=> .any,λ_=>none⟩) kr (λ_ _=>none) kr
end
end VM
end
section
namespace VM
open Go
def yb(N:Nat)(x y c:Int):Option (Int×Int):=if 0≤x∧0≤y∧0≤c∧c≤1 then some ((x+y+c)%18446744073709551616,(x+y+c)/18446744073709551616)else none
def uT(N:Nat)(x y c:Int):Option (Int×Int):=if 0≤x∧x<18446744073709551616∧0≤y∧y<18446744073709551616∧0≤c∧c≤1 then some ((x+18446744073709551616-y-c)%18446744073709551616,if x<y+c then 1 else 0)else none
def pQ{α:Type}(N:Nat)(l:List α)(i:Int)(v:List α):Option (List α):=if 0≤i∧i≤l.length∧v.length=1∧l.length+1<zw then some (l.take i.toNat++(v++l.drop i.toNat))else none
def YT{α:Type}(N:Nat)(l:List α)(n:Int):Option (List α):=match l with
 |[x]=>if 0<n∧n<1048576 then some (List.replicate n.toNat x)else none
 |_=>none
def yb.S(N:Nat):lO:={args:=[.v (.int .u64),.v (.int .u64),.v (.int .u64)],res:=[.v (.int .u64),.v (.int .u64)],quiet:=true,run:=λx=>yb N x.1 x.2.1 x.2.2}
def uT.S(N:Nat):lO:={args:=[.v (.int .u64),.v (.int .u64),.v (.int .u64)],res:=[.v (.int .u64),.v (.int .u64)],quiet:=true,run:=λx=>uT N x.1 x.2.1 x.2.2}
def lJ(e:Ty)(N:Nat):lO:={args:=[.own e,.v (.int .i64),.own e],res:=[.own e],quiet:=false,run:=λx=>pQ N x.1 x.2.1 x.2.2}
def apP(e:Ty)(N:Nat):lO:={args:=[.v (.slice e),.v (.int .i64)],res:=[.own e],quiet:=false,run:=λx=>YT N x.1 x.2}
def nO{α:Type}(N:Nat)(l:List α):Option (List α):=if l.length<zw then some l else none
def vP(e:Ty)(N:Nat):lO:={args:=[.v (.slice e)],res:=[.own e],quiet:=false,run:=λx=>nO N x}
end VM
namespace VM
abbrev cz:Int×Int×Unit:=((0:Int),((0:Int),()))
abbrev cm:List (Int×Int×Unit):=[]
abbrev bl:Int×Int×Int×Unit:=((0:Int),((0:Int),((0:Int),())))
abbrev bH:List (Int×Int×Int×Unit):=[]
abbrev aV:Int×Int×Int×Int×Unit:=((0:Int),((0:Int),((0:Int),((0:Int),()))))
abbrev c8:List (Int×Int×Int×Int×Unit):=[]
abbrev mz:Int×Int×Int×Int×Int×Unit:=((0:Int),((0:Int),((0:Int),((0:Int),((0:Int),())))))
abbrev CT:List (Int×Int×Int×Int×Int×Unit):=[]
abbrev e7:Int×Int×Int×Int×Int×Int×Unit:=((0:Int),((0:Int),((0:Int),((0:Int),((0:Int),((0:Int),()))))))
abbrev dP:List (Int×Int×Int×Int×Int×Int×Unit):=[]
abbrev K4:Int×Int×Int×Int×Int×Int×Int×Unit:=((0:Int),((0:Int),((0:Int),((0:Int),((0:Int),((0:Int),((0:Int),())))))))
abbrev ee7:List (Int×Int×Int×Int×Int×Int×Int×Unit):=[]
abbrev zz8:Int×Int×Int×Int×Int×Int×Int×Int×Unit:=((0:Int),((0:Int),((0:Int),((0:Int),((0:Int),((0:Int),((0:Int),((0:Int),()))))))))
abbrev ee8:List (Int×Int×Int×Int×Int×Int×Int×Int×Unit):=[]
abbrev dC:List Int:=[]
abbrev pb:List Int×Unit:=(dC,())
end VM
end
section
namespace VM
open Go
def At(w:World)(b off:Nat)(cs:List Value):Prop:= ∀j v,cs[j]? =some v→w.cell? ⟨b,off+j,none⟩=some v
def Rd(w:World)(M:Nat→Prop):(τ:Ty)→List Value→τ.den→Prop
 | .int k,cs,x=>cs=[.int k x]
 | .bool,cs,x=>cs=[.bool x]
 | .str,cs,x=>cs=[.string x]
 | .slice e,cs,x=> ∃a cap,cs=[.slice a (List.length x) cap]∧List.length x≤cap∧
  ∀i (h:i<List.length x),∃b off,a=some ⟨b,off,none⟩∧b<w.heap.size∧ ¬M b∧ ∃cs',At w b (off+i*e.size) cs'∧Rd w M e cs' (List.get x ⟨i,h⟩)
 | .unit,cs,_=>cs=[]
 | .pair a b,cs,x=> ∃c1 c2,cs=c1++c2∧Rd w M a c1 x.1∧Rd w M b c2 x.2
 | .arr n e,cs,x=>List.length x=n∧ ∃Sy:List (List Value),Sy.length=n∧cs=Sy.flatten∧
  ∀i (h:i<List.length x) (h':i<Sy.length),Rd w M e Sy[i] (List.get x ⟨i,h⟩)
theorem oK{α:Type}(n:Nat): ∀(l:List (List α)),(∀i (h:i<l.length),l[i].length=n)→l.flatten.length=l.length*n
 |[],_=>by simp
 |a::l,h=>by
  have h0:=h 0 (by simp)
  have ih:=oK n l (λi hi=>h (i+1) (by simp;omega))
  simp only[D6]at h0
  simp only[zh,aS,aR,ih,h0,eg]
  omega
theorem Rd.length{w:World}{M:Nat→Prop}: ∀{τ:Ty} {cs:List Value} {x:τ.den},Rd w M τ cs x→cs.length=τ.size
 | .int _,_,_,h=>by simp only[Rd]at h;subst h;rfl
 | .bool,_,_,h=>by simp only[Rd]at h;subst h;rfl
 | .str,_,_,h=>by simp only[Rd]at h;subst h;rfl
 | .slice _,_,_,h=>by simp only[Rd]at h;obtain⟨a,cap,rfl,_⟩:=h;rfl
 | .unit,_,_,h=>by simp only[Rd]at h;subst h;rfl
 | .pair a b,_,_,h=>by
  simp only[Rd]at h
  obtain⟨c1,c2,rfl,h1,h2⟩:=h
  rw[aS,h1.length,h2.length];rfl
 | .arr n e,_,x,h=>by
  simp only[Rd]at h
  obtain⟨hn,Sy,hc,rfl,hr⟩:=h
  rw[oK e.size Sy (λi hi=>(hr i ω hi).length),hc];rfl
structure eY(w:World)(M:Nat→Prop)(w':World)(M':Nat→Prop):Prop where
 size:w.heap.size≤w'.heap.size
 block: ∀b,b<w.heap.size→ ¬M b→w'.heap[b]? =w.heap[b]?
 less: ∀b,b<w.heap.size→M' b→M b
theorem agz{w:World}{b o:Nat}{v:Value}(h:w.cell? ⟨b,o,none⟩=some v):b<w.heap.size:=by
 simp only[World.cell?]at h
 rcases oJ b w.heap.size with hb|hb
 ·exact hb
 ·simp[Ls hb]at h
theorem At.bZ{w w':World}{b off:Nat}{cs:List Value}(h:At w b off cs)(hb:w'.heap[b]? =w.heap[b]?):At w' b off cs:=by
 intro j v hj
 have:=h j v hj
 rw[World.cell?_of_block (w:=w) hb]
 exact this
theorem At.append{w:World}{b off:Nat}{c1 c2:List Value}:At w b off (c1++c2)↔At w b off c1∧At w b (off+c1.length) c2:=by
 constructor
 ·intro h
  refine⟨λj v hj=>h j v (by rw[rS];exact hj;exact(tK.1 hj).1),λj v hj=> ?_⟩
  have:=h (c1.length+j) v (by rw[oq ω];simpa using hj)
  rw[oI];exact this
 ·rintro⟨h1,h2⟩ j v hj
  by_cases eZ:j<c1.length
  ·rw[rS eZ]at hj;exact h1 j v hj
  ·rw[oq ω]at hj
   have:=h2 (j-c1.length) v hj
   rwa [show off+c1.length+(j-c1.length)=off+j from by omega]at this
theorem Rd.bZ{w w':World}{M M':Nat→Prop}(k:eY w M w' M'): ∀{τ:Ty} {cs:List Value} {x:τ.den},Rd w M τ cs x→Rd w' M' τ cs x
 | .int _,_,_,h=>h
 | .bool,_,_,h=>h
 | .str,_,_,h=>h
 | .slice e,_,x,h=>by
  simp only[Rd]at h ⊢
  obtain⟨a,cap,rfl,hc,hr⟩:=h
  refine⟨a,cap,rfl,hc,λi hi=> ?_⟩
  obtain⟨b,off,ha,hb,hm,cs',pR,kM⟩:=hr i hi
  exact⟨b,off,ha,mL hb k.size,λh'=>hm (k.less b hb h'),_,pR.bZ (k.block b hb hm),kM.bZ k⟩
 | .unit,_,_,h=>h
 | .pair a b,_,_,h=>by
  simp only[Rd]at h ⊢
  obtain⟨c1,c2,rfl,h1,h2⟩:=h
  exact⟨c1,c2,rfl,h1.bZ k,h2.bZ k⟩
 | .arr n e,_,x,h=>by
  simp only[Rd]at h ⊢
  obtain⟨hn,Sy,hc,rfl,hr⟩:=h
  exact⟨hn,Sy,hc,rfl,λi hi mX=>(hr i hi mX).bZ k⟩
theorem eY.refl(w:World)(M:Nat→Prop):eY w M w M:=⟨aG _,λ_ _ _=>rfl,λ_ _ h=>h⟩
theorem eY.trans{w w' w'':World}{M M' Pm:Nat→Prop}(h:eY w M w' M')(k:eY w' M' w'' Pm):eY w M w'' Pm:=
 ⟨ck h.size k.size,λb hb hm=>(k.block b (mL hb h.size) (λh'=>hm (h.less b hb h'))).trans (h.block b hb hm),
  λb hb hm=>h.less b hb (k.less b (mL hb h.size) hm)⟩
def V(w:World)(M:Nat→Prop)(τ:Ty)(v:Value)(x:τ.den):Prop:=
 if τ.isAgg then ∃cs,v= .agg cs∧Rd w M τ cs.toList x else Rd w M τ [v] x
theorem V.bZ{w w':World}{M M':Nat→Prop}(k:eY w M w' M'){τ:Ty}{v:Value}{x:τ.den}(h:V w M τ v x):V w' M' τ v x:=by
 unfold V at*
 split
 ·rename_i ha;rw[aj ha]at h;obtain⟨cs,rfl,h⟩:=h;exact⟨cs,rfl,h.bZ k⟩
 ·rename_i ha;rw[ah ha]at h;exact h.bZ k
theorem Rd.scalar{w:World}{M:Nat→Prop}{τ:Ty}{cs:List Value}{x:τ.den}(ha:τ.isAgg=false)(h:Rd w M τ cs x): ∃v,cs=[v]∧v.cells= #[v]:=by
 cases τ<;>simp only[Ty.isAgg,Bool.true_eq_false]at ha<;>simp only[Rd]at h
 ·exact⟨_,h,rfl⟩
 ·exact⟨_,h,rfl⟩
 ·exact⟨_,h,rfl⟩
 ·obtain⟨a,cap,rfl,_⟩:=h;exact⟨_,rfl,rfl⟩
theorem V.cells{w:World}{M:Nat→Prop}{τ:Ty}{v:Value}{x:τ.den}(h:V w M τ v x):Rd w M τ v.cells.toList x:=by
 unfold V at h
 by_cases ha:τ.isAgg=true
 ·rw[aj ha]at h;obtain⟨cs,rfl,h⟩:=h;exact h
 ·rw[ah ha]at h
  obtain⟨v',hv,hc⟩:=h.scalar (by simpa using ha)
  simp only[fe,eP]at hv
  subst hv
  rw[hc];exact h
def cJ(τ:Ty)(cs:List Value):Value:=if τ.isAgg then .agg cs.toArray else cs.headD (.tuple #[])
theorem V.cJ{w:World}{M:Nat→Prop}{τ:Ty}{cs:List Value}{x:τ.den}(h:Rd w M τ cs x):V w M τ (cJ τ cs) x:=by
 unfold V VM.cJ
 by_cases ha:τ.isAgg=true
 ·rw[aj ha,aj ha];exact⟨_,rfl,by simpa using h⟩
 ·rw[ah ha,ah ha]
  obtain⟨v',rfl,_⟩:=h.scalar (by simpa using ha)
  exact h
theorem GR{w:World}{M:Nat→Prop}{τ:Ty}{cs:List Value}{x:τ.den}(h:Rd w M τ cs x):(cJ τ cs).cells.toList=cs:=by
 unfold VM.cJ
 by_cases ha:τ.isAgg=true
 ·rw[aj ha];simp[Value.cells]
 ·rw[ah ha]
  obtain⟨v',rfl,hc⟩:=h.scalar (by simpa using ha)
  simp[hc]
theorem Rd.ou{w:World}{M:Nat→Prop}: ∀{τ:Ty} {cs:List Value} {x:τ.den},Rd w M τ cs x→ ∀v∈cs,v.oneCell'=true
 | .int _,_,_,h=>by simp only[Rd]at h;subst h;simp[Value.oneCell']
 | .bool,_,_,h=>by simp only[Rd]at h;subst h;simp[Value.oneCell']
 | .str,_,_,h=>by simp only[Rd]at h;subst h;simp[Value.oneCell']
 | .slice _,_,_,h=>by simp only[Rd]at h;obtain⟨a,cap,rfl,_⟩:=h;simp[Value.oneCell']
 | .unit,_,_,h=>by simp only[Rd]at h;subst h;simp
 | .pair a b,_,_,h=>by
  simp only[Rd]at h
  obtain⟨c1,c2,rfl,h1,h2⟩:=h
  intro v hv
  rcases bb.1 hv with hv|hv
  ·exact h1.ou v hv
  ·exact h2.ou v hv
 | .arr n e,_,x,h=>by
  simp only[Rd]at h
  obtain⟨hn,Sy,hc,rfl,hr⟩:=h
  intro v hv
  obtain⟨l,hl,hvl⟩:=List.mem_flatten.1 hv
  obtain⟨i,hi,rfl⟩:=qn.1 hl
  exact(hr i ω hi).ou v hvl
def Ty.di:Ty→List Value
 | .int k=>[.int k 0]
 | .bool=>[.bool false]
 | .str=>[.string ByteArray.empty]
 | .slice _=>[.slice none 0 0]
 | .unit=>[]
 | .pair a b=>a.di++b.di
 | .arr n e=>(List.replicate n e.di).flatten
theorem Rd.zero(w:World)(M:Nat→Prop): ∀(τ:Ty),Rd w M τ τ.di τ.zero
 | .int _| .bool| .str| .unit=>by simp[Rd,Ty.di,Ty.zero]
 | .slice _=>by
  simp only[Rd,Ty.di,Ty.zero]
  exact⟨none,0,rfl,aG _,λi h=>absurd h (by simp)⟩
 | .pair a b=>by
  simp only[Rd,Ty.di,Ty.zero]
  exact⟨_,_,rfl,Rd.zero w M a,Rd.zero w M b⟩
 | .arr n e=>by
  simp only[Rd,Ty.di,Ty.zero]
  refine⟨by simp,_,by simp,rfl,λi h h'=> ?_⟩
  simp only[Lt,D9]
  exact Rd.zero w M e
end VM
end
section
namespace VM
open Go
def Ju(P:Program)(τ:Ty)(t:TypeId):Prop:=
 ∃i,P.info? t=some i∧i.size=τ.size∧i.zero=some (cJ τ τ.di)∧i.bytes≤2048
def fP(P:Program):Ty→TypeId ⊕ (Array Field×Nat×Nat)→Prop
 | .int k,.inl t=>Ju P (.int k) t∧P.underlying t=some (.int k)
 | .bool,.inl t=>Ju P .bool t∧P.underlying t=some .bool
 | .str,.inl t=>Ju P .str t∧P.underlying t=some .string
 | .slice e,.inl t=>Ju P (.slice e) t∧ ∃e',P.underlying t=some (.slice e')∧fP P e (.inl e')
 | .arr n e,.inl t=>Ju P (.arr n e) t∧ ∃e',P.underlying t=some (.array n e')∧fP P e (.inl e')
 | .unit,.inl t=>Ju P .unit t∧ ∃fs,P.underlying t=some (.struct fs)∧fs.size=0
 | .unit,.inr (fs,n,_)=>fs.size=n
 | .pair a b,.inl t=>Ju P (.pair a b) t∧ ∃fs f,P.underlying t=some (.struct fs)∧fs[0]? =some f∧f.offset=0∧fP P a (.inl f.type)∧fP P b (.inr (fs,1,a.size))
 | .pair a b,.inr (fs,n,off)=> ∃f,fs[n]? =some f∧f.offset=off∧fP P a (.inl f.type)∧fP P b (.inr (fs,n+1,off+a.size))
 |_,.inr _=>False
def kA(P:Program)(τ:Ty)(t:TypeId):Prop:=fP P τ (.inl t)
theorem kA.base{P:Program}{τ:Ty}{t:TypeId}(h:kA P τ t):Ju P τ t:=by
 unfold kA at h;cases τ<;>simp only[fP]at h<;>exact h.1
theorem kA.int{P:Program}{k:IntKind}{t:TypeId}(h:kA P (.int k) t):P.underlying t=some (.int k):=by simp only[kA,fP]at h;exact h.2
theorem kA.bool{P:Program}{t:TypeId}(h:kA P .bool t):P.underlying t=some .bool:=by simp only[kA,fP]at h;exact h.2
theorem kA.str{P:Program}{t:TypeId}(h:kA P .str t):P.underlying t=some .string:=by simp only[kA,fP]at h;exact h.2
theorem kA.slice{P:Program}{e:Ty}{t:TypeId}(h:kA P (.slice e) t): ∃e',P.underlying t=some (.slice e')∧kA P e e':=by simp only[kA,fP]at h;exact h.2
theorem kA.arr{P:Program}{n:Nat}{e:Ty}{t:TypeId}(h:kA P (.arr n e) t): ∃e',P.underlying t=some (.array n e')∧kA P e e':=by simp only[kA,fP]at h;exact h.2
theorem kA.isSome{P:Program}{τ:Ty}{t:TypeId}(h:kA P τ t):(P.underlying t).isSome=true:=by
 unfold kA at h
 cases τ<;>simp only[fP]at h
 ·simp[h.2]
 ·simp[h.2]
 ·simp[h.2]
 ·obtain⟨_,e',h',_⟩:=h;simp[h']
 ·obtain⟨_,e',h',_⟩:=h;simp[h']
 ·obtain⟨_,e',f,h',_⟩:=h;simp[h']
 ·obtain⟨_,e',h',_⟩:=h;simp[h']
inductive CU:(τ:Ty)→τ.den→Nat→(υ:Ty)→υ.den→Nat→Prop where
 |here {a b:Ty} (x:(Ty.pair a b).den):CU (.pair a b) x 0 a x.1 0
 |there {a b:Ty} (x:(Ty.pair a b).den) {n:Nat} {υ:Ty} {y:υ.den} {o:Nat} (h:CU b x.2 n υ y o):CU (.pair a b) x (n+1) υ y (a.size+o)
theorem s6{α:Type}{r:α}: ∀{τ:Ty} {x:τ.den} {n:Nat} {k:(υ:Ty)→υ.den→Option α},xH τ x n k=some r→ ∃υ y o,CU τ x n υ y o∧k υ y=some r
 | .pair a b,x,0,k,h=>⟨a,x.1,0,.here x,h⟩
 | .pair a b,x,n+1,k,h=>by
  obtain⟨υ,y,o,hf,hk⟩:=s6 (τ:=b) (x:=x.2) (n:=n) (k:=k) h
  exact⟨υ,y,_,.there x hf,hk⟩
 | .int _,_,_,_,h| .bool,_,_,_,h| .str,_,_,_,h| .slice _,_,_,_,h| .unit,_,_,_,h| .arr _ _,_,_,_,h=>by simp[xH]at h
theorem CU.bound{τ:Ty}{x:τ.den}{n:Nat}{υ:Ty}{y:υ.den}{o:Nat}(h:CU τ x n υ y o):o+υ.size≤τ.size:=by
 induction h with
 |here x=>simp[Ty.size]
 |there x h ih=>simp only[Ty.size];omega
theorem CU.rd{w:World}{M:Nat→Prop}{τ:Ty}{x:τ.den}{n:Nat}{υ:Ty}{y:υ.den}{o:Nat}(h:CU τ x n υ y o):
  ∀{cs:List Value},Rd w M τ cs x→Rd w M υ ((cs.drop o).take υ.size) y:=by
 induction h with
 |here x=>
  intro cs hr
  simp only[Rd]at hr
  obtain⟨c1,c2,rfl,h1,_⟩:=hr
  rw[cX,vA h1.length];exact h1
 |there x h ih=>
  intro cs hr
  simp only[Rd]at hr
  obtain⟨c1,c2,rfl,h1,h2⟩:=hr
  rw[←jx,mP h1.length]
  exact ih h2
theorem fP.kq{P:Program}{τ:Ty}{x:τ.den}{m:Nat}{υ:Ty}{y:υ.den}{o:Nat}(h:CU τ x m υ y o):
  ∀{fs:Array Field} {n off:Nat},fP P τ (.inr (fs,n,off))→ ∃f,fs[n+m]? =some f∧f.offset=off+o∧kA P υ f.type:=by
 induction h with
 |here x=>
  intro fs n off hl
  simp only[fP]at hl
  obtain⟨f,hf,ho,ha,_⟩:=hl
  exact⟨f,hf,by simpa using ho,ha⟩
 |there x h ih=>
  intro fs n off hl
  simp only[fP]at hl
  obtain⟨f,hf,ho,_,hb⟩:=hl
  obtain⟨f',AX,ho',Jv⟩:=ih hb
  exact⟨f',by rw[←AX];congr 1;omega,ω,Jv⟩
theorem kA.kq{P:Program}{τ:Ty}{t:TypeId}{x:τ.den}{m:Nat}{υ:Ty}{y:υ.den}{o:Nat}(hl:kA P τ t)(h:CU τ x m υ y o):
  ∃fs f,P.underlying t=some (.struct fs)∧fs[m]? =some f∧f.offset=o∧kA P υ f.type:=by
 unfold kA at hl
 cases h with
 |here x=>
  simp only[fP]at hl
  obtain⟨_,fs,f,hu,hf,ho,ha,_⟩:=hl
  exact⟨fs,f,hu,hf,ho,ha⟩
 |there x h=>
  simp only[fP]at hl
  obtain⟨_,fs,f,hu,hf,ho,_,hb⟩:=hl
  obtain⟨f',AX,ho',Jv⟩:=fP.kq h hb
  exact⟨fs,f',hu,by rw[←AX];congr 1;omega,ω,Jv⟩
inductive Jw:List Step→(τ:Ty)→τ.den→(υ:Ty)→υ.den→Nat→Prop where
 |nil {τ:Ty} (x:τ.den):Jw [] τ x τ x 0
 |kq {p:List Step} {τ υ σ:Ty} {x:τ.den} {n o:Nat} {y:υ.den} {z:σ.den} {q:Nat} (h:CU τ x n υ y o) (r:Jw p υ y σ z q):Jw (.kq n::p) τ x σ z (o+q)
 |idx {p:List Step} {n:Nat} {e σ:Ty} {x:(Ty.arr n e).den} {i:Nat} {z:σ.den} {q:Nat} (r:Jw p e (List.getD x i e.zero) σ z q):Jw (.idx i::p) (.arr n e) x σ z (i*e.size+q)
theorem jV{α:Type}{r:α}: ∀{p:List Step} {τ:Ty} {x:τ.den} {k:(υ:Ty)→υ.den→Option α},zy p τ x k=some r→ ∃υ y o,Jw p τ x υ y o∧k υ y=some r
 |[],τ,x,k,h=>⟨τ,x,0,.nil x,h⟩
 | .kq n::p,τ,x,k,h=>by
  obtain⟨υ,y,o,hf,h'⟩:=s6 (h:xH τ x n _=some r)
  obtain⟨σ,z,q,hp,hk⟩:=jV h'
  exact⟨σ,z,_,.kq hf hp,hk⟩
 | .idx i::p,τ,x,k,h=>by
  cases τ with
  |arr n e=>
   obtain⟨σ,z,q,hp,hk⟩:=jV (p:=p) (τ:=e) (x:=List.getD x i e.zero) (k:=k) h
   exact⟨σ,z,_,.idx hp,hk⟩
  |_=>simp[zy,agy]at h
def vh:Ty→Nat→Ty
 | .pair a b,n=>match n with|0=>a|n+1=>vh b n
 |τ,_=>τ
def rD:Ty→Nat→Nat
 | .pair a b,n=>match n with|0=>0|n+1=>a.size+rD b n
 |_,_=>0
def elT:Ty→Ty
 | .arr _ e=>e
 |τ=>τ
def GU:List Step→Ty→Ty
 |[],τ=>τ
 | .kq n::p,τ=>GU p (vh τ n)
 | .idx _::p,τ=>GU p (elT τ)
def cE:List Step→Ty→Nat
 |[],_=>0
 | .kq n::p,τ=>rD τ n+cE p (vh τ n)
 | .idx i::p,τ=>i*(elT τ).size+cE p (elT τ)
def xJ:List Step→Ty→Prop
 |[],_=>True
 | .kq n::p,τ=>xJ p (vh τ n)
 | .idx i::p,τ=>(∃n e,τ= .arr n e∧i<n)∧xJ p (elT τ)
theorem CU.eq{τ:Ty}{x:τ.den}{n:Nat}{υ:Ty}{y:υ.den}{o:Nat}(h:CU τ x n υ y o):υ=vh τ n∧o=rD τ n:=by
 induction h with
 |here x=>exact⟨rfl,rfl⟩
 |there x h ih=>obtain⟨rfl,rfl⟩:=ih;exact⟨rfl,rfl⟩
theorem Jw.eq{p:List Step}{τ:Ty}{x:τ.den}{υ:Ty}{y:υ.den}{o:Nat}(h:Jw p τ x υ y o):υ=GU p τ∧o=cE p τ:=by
 induction h with
 |nil x=>exact⟨rfl,rfl⟩
 |kq h r ih=>
  obtain⟨h1,h2⟩:=h.eq
  obtain⟨h3,h4⟩:=ih
  subst h1 h2 h3 h4
  exact⟨rfl,rfl⟩
 |idx r ih=>
  obtain⟨h3,h4⟩:=ih
  subst h3 h4
  exact⟨rfl,rfl⟩
theorem agB(p q:List Step): ∀τ,GU (p++q) τ=GU q (GU p τ):=by
 induction p with
 |nil=>intro τ;rfl
 |cons s p ih=>intro τ;cases s<;>simp[GU,ih]
theorem rV(p q:List Step): ∀τ,cE (p++q) τ=cE p τ+cE q (GU p τ):=by
 induction p with
 |nil=>intro τ;simp[cE,GU]
 |cons s p ih=>intro τ;cases s<;>simp[cE,GU,ih,oI]
theorem rW(p q:List Step): ∀τ,xJ (p++q) τ↔xJ p τ∧xJ q (GU p τ):=by
 induction p with
 |nil=>intro τ;simp[xJ,GU]
 |cons s p ih=>intro τ;cases s<;>simp[xJ,GU,ih,and_assoc]
theorem kB{α:Type}(l:List α)(i:Nat)(d:α)(h:i<l.length):l.getD i d=l[i]:=by simp[List.getD,bm h]
theorem zz{α:Type}(n:Nat): ∀(l:List (List α)) (i:Nat) (h:i<l.length),(∀j (hj:j<l.length),l[j].length=n)→(l.flatten.drop (i*n)).take n=l[i]
 |a::l,0,_,hn=>by
  have:=hn 0 (by simp)
  simp only[D6]at this
  simp[←this]
 |a::l,i+1,h,hn=>by
  have h0:=hn 0 (by simp)
  simp only[D6]at h0
  rw[zh,eg,jP,Nat.add_comm (i*n) n,←jx,mP h0]
  exact zz n l i (by simpa using h) (λj hj=>hn (j+1) (by simp;omega))
theorem Rd.idx{w:World}{M:Nat→Prop}{n:Nat}{e:Ty}{cs:List Value}{x:(Ty.arr n e).den}(h:Rd w M (.arr n e) cs x){i:Nat}(hi:i<n):
  Rd w M e ((cs.drop (i*e.size)).take e.size) (List.getD x i e.zero):=by
 simp only[Rd]at h
 obtain⟨hn,Sy,hc,rfl,hr⟩:=h
 rw[zz e.size Sy i ω (λj hj=>(hr j ω hj).length),kB x i e.zero ω]
 exact hr i ω ω
theorem Jw.bound{p:List Step}{τ:Ty}{x:τ.den}{υ:Ty}{y:υ.den}{o:Nat}(h:Jw p τ x υ y o):xJ p τ→o+υ.size≤τ.size:=by
 induction h with
 |nil x=>intro _;simp
 |kq h r ih=>
  intro hi
  obtain⟨h1,h2⟩:=h.eq
  subst h1
  have:=ih hi
  have:=h.bound
  omega
 | @idx p n e σ x i z q r ih=>
  intro hi
  obtain⟨⟨n',e',he,lK⟩,mX⟩:=hi
  cases he
  have:=ih mX
  have h2:(i+1)*e.size≤n*e.size:=lB _ lK
  rw[eg]at h2
  simp only[Ty.size]
  omega
theorem Jw.rd{w:World}{M:Nat→Prop}{p:List Step}{τ:Ty}{x:τ.den}{υ:Ty}{y:υ.den}{o:Nat}(h:Jw p τ x υ y o):
  xJ p τ→ ∀{cs:List Value},Rd w M τ cs x→Rd w M υ ((cs.drop o).take υ.size) y:=by
 induction h with
 |nil x=>intro _ cs hr;rw[cX,jw (by rw[hr.length];exact aG _)];exact hr
 |kq h r ih=>
  intro hi cs hr
  obtain⟨h1,h2⟩:=h.eq
  subst h1
  have:=ih hi (h.rd hr)
  have hb:=Jw.bound r hi
  rw[qv,jx,qw,ir ω]at this
  exact this
 | @idx p n e σ x i z q r ih=>
  intro hi cs hr
  obtain⟨⟨n',e',he,lK⟩,mX⟩:=hi
  cases he
  have:=ih mX (hr.idx lK)
  have hb:=Jw.bound r mX
  rw[qv,jx,qw,ir ω]at this
  exact this
def e8{α:Type}(cs:List α)(o:Nat)(new:List α):List α:=cs.take o++new++cs.drop (o+new.length)
theorem zA{α:Type}{a b:List α}{o:Nat}{new:List α}(h:o+new.length≤a.length):e8 (a++b) o new=e8 a o new++b:=by
 unfold e8
 rw[y6 ω,y7 ω]
 simp only[br]
theorem xe{α:Type}{a b:List α}{o:Nat}{new:List α}:e8 (a++b) (a.length+o) new=a++e8 b o new:=by
 unfold e8
 rw[List.take_append,jw ω,y9,oI,List.drop_append,ku ω,y9]
 simp
theorem gz{α:Type}{a:List α}{o:Nat}{new:List α}(h:o+new.length≤a.length):(e8 a o new).length=a.length:=by
 unfold e8;simp;omega
theorem Jx{α:Type}{a:List α}{o i n:Nat}{new:List α}(h:i+n≤o∨o+new.length≤i)(hl:o+new.length≤a.length):((e8 a o new).drop i).take n=(a.drop i).take n:=by
 apply zi
 intro j
 simp only[lE,lF]
 split
 ·rename_i hj
  unfold e8
  rcases h with h|h
  ·rw[br,rS (by simp;omega),lE,aj ω]
  ·rw[oq (by simp;omega)]
   simp only[aS,cc,ir (show o≤a.length by omega),lF]
   congr 1;omega
 ·rfl
theorem agC{α:Type}{a:List α}{o:Nat}{new:List α}(hl:o+new.length≤a.length):((e8 a o new).drop o).take new.length=new:=by
 unfold e8
 rw[br,mP (by simp;omega),vA rfl]
theorem LP{α:Type}{l:List α}{o:Nat}{u:α}(h:l[o]? =some u):e8 l o [u]=l:=by
 obtain⟨eZ,rfl⟩:=tK.1 h
 unfold e8
 simp
theorem DE{α:Type}{l:List α}{o:Nat}{u:α}(h:o<l.length):(e8 l o [u])[o]? =some u:=by
 unfold e8
 rw[br,oq (by simp;omega)]
 simp[ir (Nat.le_of_lt h)]
theorem s7{τ:Ty}: ∀{n:Nat} {a:Ty},Jp τ n=some a→ ∀x:τ.den,∃y o,CU τ x n a y o:=by
 induction τ with
 |pair a b _ U0=>
  intro n c h x
  cases n with
  |zero=>cases h;exact⟨_,_,.here x⟩
  |succ n=>
   obtain⟨y,o,hf⟩:=U0 (n:=n) (a:=c) h x.2
   exact⟨y,_,.there x hf⟩
 |_=>intro n c h;simp[Jp]at h
theorem s8: ∀{p:List Step} {τ υ:Ty},gH p τ υ=true→ ∀x:τ.den,∃y o,Jw p τ x υ y o
 |[],τ,υ,h,x=>by
  have h:=bz h
  subst h
  exact⟨x,0,.nil x⟩
 | .kq n::p,τ,υ,h,x=>by
  unfold gH at h
  split at h
  ·rename_i a ha
   obtain⟨y,o,hf⟩:=s7 ha x
   obtain⟨z,q,hp⟩:=s8 h y
   exact⟨z,_,.kq hf hp⟩
  ·cases h
 | .idx _::_,_,_,h,_=>by simp[gH]at h
theorem kC: ∀{p:List Step} {τ υ:Ty},gH p τ υ=true→xJ p τ∧GU p τ=υ
 |[],τ,υ,h=>⟨trivial,bz h⟩
 | .kq n::p,τ,υ,h=>by
  have h0:=h
  unfold gH at h
  split at h
  ·rename_i a ha
   obtain⟨y,o,hf⟩:=s7 ha τ.zero
   obtain⟨h1,h2⟩:=kC h
   have:=hf.eq.1
   subst this
   exact⟨h1,h2⟩
  ·cases h
 | .idx _::_,_,_,h=>by simp[gH]at h
theorem AY: ∀{p q:List Step},LC p q=true→p=q
 |[],[],_=>rfl
 | .kq a::p,.kq b::q,h=>by
  simp only[LC,bP]at h
  rw[fT h.1,AY h.2]
 |[],_::_,h| .kq _::_,[],h| .idx _::_,_,h| .kq _::_,.idx _::_,h=>by simp[LC]at h
theorem CU.apart{τ:Ty}{x:τ.den}{n:Nat}{υ:Ty}{y:υ.den}{o:Nat}(h:CU τ x n υ y o): ∀{x':τ.den} {n':Nat} {υ':Ty} {y':υ'.den} {o':Nat},CU τ x' n' υ' y' o'→n≠n'→o+υ.size≤o'∨o'+υ'.size≤o:=by
 induction h with
 |here x=>
  intro x' n' υ' y' o' h' jH
  cases h' with
  |here=>exact absurd rfl jH
  |there _ h'=>left;omega
 |there x h ih=>
  intro x' n' υ' y' o' h' jH
  cases h' with
  |here=>right;omega
  |there _ h'=>rcases ih h' (λe=>jH (by rw[e]))with h1|h1<;>omega
theorem Jw.apart{p:List Step}{τ:Ty}{x:τ.den}{υ:Ty}{y:υ.den}{o:Nat}(h:Jw p τ x υ y o):xJ p τ→ ∀{q:List Step} {e:Ty},gH q τ (.slice e)=true→xG p q=false→cE q τ<o∨o+υ.size≤cE q τ:=by
 induction h with
 |nil x=>intro _ q e _ h;simp[xG]at h
 | @kq p τ υ σ x n o y z q hf r ih=>
  intro hi q' e hq hp
  obtain⟨h1,h2⟩:=hf.eq
  subst h1 h2
  cases q' with
  |nil=>
   have:=bz hq
   subst this
   cases hf
  |cons s q'=>
   cases s with
   |idx i=>simp[gH]at hq
   |kq m=>
    unfold gH at hq
    split at hq
    ·rename_i a ha
     obtain⟨y',o',AX⟩:=s7 ha x
     obtain⟨h3,h4⟩:=AX.eq
     subst h3 h4
     have hb:=r.bound hi
     obtain⟨h5,h6⟩:=kC hq
     obtain⟨z',o2,Q7⟩:=s8 hq y'
     have eV:=Q7.bound h5
     have ho2:=Q7.eq.2
     subst ho2
     simp only[cE]
     by_cases hnm:n=m
     ·subst hnm
      have GC:xG p q'=false:=by
       simp only[xG,Bool.and_eq_false_iff]at hp
       rcases hp with hp|hp
       ·rw[sY]at hp;cases hp
       ·exact hp
      rcases ih hi hq GC with h7|h7<;>omega
     ·rcases hf.apart AX hnm with h7|h7
      ·right;omega
      ·left
       have:1≤(Ty.slice e).size:=aG _
       omega
    ·cases hq
 | @idx p n e' σ x i z q r ih=>
  intro hi q' e hq hp
  cases q' with
  |nil=>have:=bz hq;cases this
  |cons s q'=>
   cases s with
   |idx i=>simp[gH]at hq
   |kq m=>simp[gH,Jp]at hq
def fH:Value→Option Nat
 | .pointer (some a)=>some a.block
 | .slice (some a) _ cap=>if cap=0 then none else some a.block
 |_=>none
def bh.mut:bh→Prop
 | .obj _ _| .own _ _| .ga _ _ _ _=>True
 |_=>False
def ER(w:World)(M:Nat→Prop)(v:Value):bh→Prop
 | .obj τ x=> ∃b cs t,v= .pointer (some ⟨b,0,none⟩)∧w.heap[b]? =some (.cells cs t (0,0))∧M b∧Rd w M τ cs.toList x
 | .ga τ x p _=> ∃b cs t rX u,v= .pointer (some ⟨b,0,none⟩)∧w.heap[b]? =some (.cells cs t (0,0))∧M b∧Rd w M τ rX x∧cs.toList=e8 rX (cE p τ) [u]∧u.oneCell'=true∧ ∃e,gH p τ (.slice e)=true
 | .own e l=>(l=[]∧ ∃a,v= .slice a 0 0)∨
  ∃b cs t cap,v= .slice (some ⟨b,0,none⟩) l.length cap∧w.heap[b]? =some (.cells cs t (0,0))∧M b∧0<cap∧l.length≤cap∧cap≤maxLen∧cs.size=cap*e.size∧
   ∀i (h:i<l.length),Rd w M e ((cs.toList.drop (i*e.size)).take e.size) l[i]
 | .ot e l=>Rd w M (.slice e) [v] l∧((l=[]∧ ∃a n c,v= .slice a n c)∨ ∃b n c,v= .slice (some ⟨b,0,none⟩) n c)
 | .gone=>True
def AR(v:Value)(p:List Step)(u:Value):bh→Prop
 | .obj τ _| .ga τ _ _ _=>xJ p τ∧ ∃b,v= .pointer (some ⟨b,0,none⟩)∧u= .pointer (some ⟨b,cE p τ,none⟩)
 | .own e l| .ot e l=> ∃i q,p= .idx i::q∧i<l.length∧xJ q e∧ ∃b n c,v= .slice (some ⟨b,0,none⟩) n c∧u= .pointer (some ⟨b,i*e.size+cE q e,none⟩)
 | .gone=> ∃a,u= .pointer (some a)
mutual
def VR(w:World)(M:Nat→Prop)(H:Nat→Option bh)(ν:Nat→Value):bC→Value→Prop
 | .any,_=>True
 | .UY,v=>v=undef
 | .val τ x,v=>V w M τ v x
 | .Jq τ x n,v=>V w M τ v x∧ ∃cs a,v= .agg cs∧cs.toList[rD τ n]? =some (.slice a 0 0)
 | .emp,v=> ∃a,v= .slice a 0 0
 | .ref id,v=>H id≠none∧v=ν id
 | .jg id p,v=> ∃e,H id=some e∧AR (ν id) p v e
 | .qD τ x,v=> ∃b off,v= .pointer (some ⟨b,off,none⟩)∧b<w.heap.size∧ ¬M b∧ ∃cs,At w b off cs∧Rd w M τ cs x
 | .tup vs,v=> ∃us:List Value,v= .tuple us.toArray∧ji w M H ν vs us
 | .LD f caps,v=> ∃cs:List Value,v= .func (.func f) #[] cs.toArray∧ji w M H ν caps cs
def ji(w:World)(M:Nat→Prop)(H:Nat→Option bh)(ν:Nat→Value):List bC→List Value→Prop
 |[],[]=>True
 |a::as,v::vs=>VR w M H ν a v∧ji w M H ν as vs
 |_,_=>False
end
def bh.kT:bh→bh→Prop
 | .obj τ _,.obj υ _| .obj τ _,.ga υ _ _ _| .ga τ _ _ _,.obj υ _| .ga τ _ _ _,.ga υ _ _ _=>τ=υ
 | .own e l,.own f k| .own e l,.ot f k| .ot e l,.ot f k=>e=f∧l.length=k.length
 |_,.gone=>True
 |_,_=>False
structure sE(H:Nat→Option bh)(ν:Nat→Value)(H':Nat→Option bh)(ν':Nat→Value):Prop where
 kP: ∀i e,H i=some e→ ∃e',H' i=some e'∧e.kT e'
 head: ∀i,H i≠none→ν' i=ν i
theorem AR.ptr{v:Value}{p:List Step}{u:Value}{e:bh}(h:AR v p u e): ∃a,u= .pointer (some a):=by
 cases e<;>simp only[AR]at h
 ·obtain⟨_,b,_,h⟩:=h;exact⟨_,h⟩
 ·obtain⟨_,b,_,h⟩:=h;exact⟨_,h⟩
 ·obtain⟨i,q,_,_,_,b,n,c,_,h⟩:=h;exact⟨_,h⟩
 ·obtain⟨i,q,_,_,_,b,n,c,_,h⟩:=h;exact⟨_,h⟩
 ·exact h
theorem AR.kT{v:Value}{p:List Step}{u:Value}{e e':bh}(h:AR v p u e)(l:e.kT e'):AR v p u e':=by
 have hp:=h.ptr
 cases e<;>cases e'<;>simp only[bh.kT]at l<;>simp only[AR]at h ⊢ <;>try exact hp
 ·subst l;exact h
 ·subst l;exact h
 ·subst l;exact h
 ·subst l;exact h
 ·obtain⟨rfl,hl⟩:=l;obtain⟨i,q,hp,hi,r⟩:=h;exact⟨i,q,hp,ω,r⟩
 ·obtain⟨rfl,hl⟩:=l;obtain⟨i,q,hp,hi,r⟩:=h;exact⟨i,q,hp,ω,r⟩
 ·obtain⟨rfl,hl⟩:=l;obtain⟨i,q,hp,hi,r⟩:=h;exact⟨i,q,hp,ω,r⟩
theorem bh.kT.refl(e:bh):e.kT e:=by cases e<;>simp[bh.kT]
theorem sE.refl(H:Nat→Option bh)(ν:Nat→Value):sE H ν H ν:=⟨λ_ e h=>⟨e,h,.refl e⟩,λ_ _=>rfl⟩
mutual
theorem VR.bZ{w w':World}{M M':Nat→Prop}{H H':Nat→Option bh}{ν ν':Nat→Value}(k:eY w M w' M')(g:sE H ν H' ν'):
  ∀{a:bC} {v:Value},VR w M H ν a v→VR w' M' H' ν' a v
 | .any,_,_=>by simp[VR]
 | .UY,_,h=>by simpa [VR]using h
 | .val τ x,v,h=>by simp only[VR]at h ⊢;exact h.bZ k
 | .Jq τ x n,v,h=>by simp only[VR]at h ⊢;exact⟨h.1.bZ k,h.2⟩
 | .emp,_,h=>by simpa [VR]using h
 | .ref id,_,h=>by
  simp only[VR]at h ⊢
  obtain⟨h1,h2⟩:=h
  obtain⟨e,he⟩:=D1.1 h1
  obtain⟨e',vQ,_⟩:=g.kP id e he
  exact⟨by simp[vQ],by rw[g.head id h1];exact h2⟩
 | .jg id p,_,h=>by
  simp only[VR]at h ⊢
  obtain⟨e,he,ha⟩:=h
  obtain⟨e',vQ,hl⟩:=g.kP id e he
  exact⟨e',vQ,by rw[g.head id (by simp[he])];exact ha.kT hl⟩
 | .qD τ x,_,h=>by
  simp only[VR]at h ⊢
  obtain⟨b,off,rfl,hb,hm,cs,ha,hr⟩:=h
  exact⟨b,off,rfl,mL hb k.size,λh'=>hm (k.less b hb h'),cs,ha.bZ (k.block b hb hm),hr.bZ k⟩
 | .tup vs,_,h=>by
  simp only[VR]at h ⊢
  obtain⟨us,rfl,h⟩:=h
  exact⟨us,rfl,ji.bZ k g h⟩
 | .LD f caps,_,h=>by
  simp only[VR]at h ⊢
  obtain⟨us,rfl,h⟩:=h
  exact⟨us,rfl,ji.bZ k g h⟩
theorem ji.bZ{w w':World}{M M':Nat→Prop}{H H':Nat→Option bh}{ν ν':Nat→Value}(k:eY w M w' M')(g:sE H ν H' ν'):
  ∀{as:List bC} {vs:List Value},ji w M H ν as vs→ji w' M' H' ν' as vs
 |[],[],_=>by simp[ji]
 |a::as,v::vs,h=>by simp only[ji]at h ⊢;exact⟨VR.bZ k g h.1,ji.bZ k g h.2⟩
 |[],_::_,h=>by simp[ji]at h
 |_::_,[],h=>by simp[ji]at h
end
end VM
end
