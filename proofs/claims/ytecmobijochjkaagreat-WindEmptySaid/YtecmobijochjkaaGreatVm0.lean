/- A part of the proof of WindEmpty of layer 21: a machine that reads a function of the program as an equation between values. -/
import Derived.KernelRfl
import GoSem.Claims
import Derived.WalkKit
import Derived.ArgAppend
import Derived.Laws.CopyRow
import Derived.Laws.MakeOwn
import Derived.Laws.OwnMore
import Derived.Orders
import Derived.LoopN
set_option linter.all false
theorem ω{p:Prop}(h:p:=by omega):p:=h
theorem δ{p:Prop}(h:p:=by decide):p:=h
theorem κ{p:Prop}(h:p:=by kernel_rfl):p:=h
noncomputable section
abbrev ar:=@Option.bind_some
abbrev aI:=@List.length_singleton
abbrev aq:=@cond_true
abbrev aU:=@List.getD_eq_getElem?_getD
abbrev aJ:=@Int.toNat_natCast
abbrev av:=@cond_false
abbrev aS:=@List.length_append
abbrev aj:=@if_pos
abbrev bk:=@List.getElem?_eq_getElem
abbrev ah:=@if_neg
abbrev aZ:=@List.mem_cons_of_mem
abbrev aR:=@List.length_cons
abbrev aG:=@Nat.le_refl
abbrev bm:=@List.mem_cons_self
abbrev a8:=@List.mem_append
abbrev bt:=@List.append_assoc
abbrev bH:=@Array.length_toList
abbrev bz:=@of_decide_eq_true
abbrev aW:=@List.mem_cons
abbrev bW:=@List.mem_singleton
abbrev bu:=@decide_eq_true
abbrev bn:=@Bool.not_true
abbrev bQ:=@Bool.and_eq_true
abbrev cR:=@List.length_replicate
abbrev bN:=@List.length_set
abbrev cO:=@Bool.and_eq_true_iff
abbrev bU:=@List.length_nil
abbrev cc:=@List.length_take
abbrev cU:=@List.mem_append_left
abbrev bo:=@Nat.zero_le
abbrev ch:=@List.append_nil
abbrev cj:=@decide_eq_false
abbrev ct:=@List.length_map
abbrev dA:=@List.mem_append_right
abbrev bX:=@List.map_cons
abbrev cJ:=@List.nil_append
abbrev cw:=@List.sum_cons
abbrev cY:=@List.map_append
abbrev cm:=@Nat.le_trans
abbrev cZ:=@List.drop_zero
abbrev c0:=@Bool.not_false
abbrev ec:=@List.pairwise_cons
abbrev cA:=@List.mem_map
abbrev dB:=@List.getElem_mem
abbrev eL:=@List.mem_map_of_mem
abbrev dR:=@List.length_drop
abbrev fW:=@Nat.eq_of_beq_eq_true
abbrev dr:=@Int.toNat_zero
abbrev gi:=@List.take_append_drop
abbrev ff:=@decide_eq_true_iff
abbrev gG:=@List.getElem?_eq_none
abbrev fg:=@Option.mem_toList
abbrev gR:=@Array.getElem?_toList
abbrev gj:=@List.getElem_of_mem
abbrev kD:=@Array.getElem?_eq_some_iff
abbrev fh:=@List.cons.injEq
abbrev jF:=@List.take_of_length_le
abbrev kE:=@List.drop_of_length_le
abbrev oF:=@List.getElem?_append_right
abbrev iw:=@Option.some.injEq
abbrev iY:=@Bool.false_eq_true
abbrev et:=@Nat.add_mul
abbrev iZ:=@List.size_toArray
abbrev ix:=@List.take_length
abbrev fi:=@Int.le_trans
abbrev fX:=@Bool.and_true
abbrev lL:=@Nat.mul_le_mul_right
abbrev lM:=@List.mem_of_mem_take
abbrev iy:=@Nat.min_eq_left
abbrev pS:=@List.drop_eq_getElem_cons
abbrev lN:=@Nat.mul_le_mul_left
abbrev se:=@Array.getD_eq_getD_getElem?
abbrev fY:=@Int.add_zero
abbrev mS:=@List.mem_of_mem_drop
abbrev pT:=@List.take_append_getElem
abbrev lO:=@List.getElem?_take
abbrev lP:=@List.getElem?_drop
abbrev gk:=@Nat.zero_add
abbrev tV:=@List.eq_nil_of_length_eq_zero
abbrev fI:=@Int.le_refl
abbrev sf:=@List.getElem?_append_left
abbrev kF:=@List.cons_append
abbrev mT:=@Nat.lt_of_lt_of_le
abbrev jG:=@List.drop_drop
abbrev xm:=@Int.mul_le_mul_of_nonneg_left
abbrev tW:=@List.getElem?_eq_some_iff
abbrev tX:=@List.pairwise_iff_getElem
abbrev lQ:=@List.sum_append
abbrev mU:=@List.drop_length
abbrev ja:=@List.map_nil
abbrev tY:=@Int.eq_ofNat_of_zero_le
abbrev kG:=@Int.mul_assoc
abbrev eS:=@and_true
abbrev xn:=@List.mem_or_eq_of_mem_set
abbrev si:=@List.length_pos_iff
abbrev pU:=@List.nodup_append
abbrev pV:=@List.getElem?_map
abbrev fj:=@congrArg
abbrev oG:=@Option.some.inj
abbrev iC:=@List.sum_nil
abbrev qy:=@List.mem_iff_getElem
abbrev mV:=@Bool.not_eq_true
abbrev s7:=@Option.bind_eq_some_iff
abbrev mW:=@Option.getD_some
abbrev qz:=@List.map_congr_left
abbrev mX:=@List.drop_left'
abbrev mY:=@Bool.or_eq_true
abbrev eT:=@if_false
abbrev zk:=@Int.mul_le_mul_of_nonneg_right
abbrev qA:=@Bool.false_ne_true
abbrev oQ:=@decide_eq_decide
abbrev qB:=@Int.lt_of_le_of_lt
abbrev jU:=@Int.mul_comm
abbrev zm:=@List.take_append_of_le_length
abbrev zn:=@List.drop_append_of_le_length
abbrev qC:=@Bool.not_eq_true'
abbrev oR:=@Bool.eq_iff_iff
abbrev eH:=@Ne.symm
abbrev vF:=@List.drop_eq_nil_of_le
abbrev jV:=@Nat.one_mul
abbrev jW:=@Int.mul_add
abbrev mZ:=@Bool.true_and
abbrev qD:=@List.all_eq_true
abbrev jo:=@Array.ext'
abbrev oS:=@List.take_zero
abbrev vG:=@List.Pairwise.sublist
abbrev m0:=@Nat.add_zero
abbrev vH:=@List.pairwise_append
abbrev oT:=@Nat.add_assoc
abbrev zo:=@List.eq_of_mem_replicate
abbrev vI:=@Int.toNat_of_nonneg
abbrev qE:=@List.drop_take
abbrev qF:=@List.take_take
abbrev zp:=@Nat.add_sub_cancel_left
abbrev qG:=@List.mem_range
abbrev s8:=@beq_self_eq_true
abbrev gS:=@Prod.ext
abbrev oU:=@Nat.lt_or_ge
abbrev zq:=@Option.map_eq_some_iff
abbrev zr:=@Int.ediv_lt_iff_lt_mul
abbrev oV:=@Int.zero_add
abbrev s9:=@List.headD_cons
abbrev ta:=@Int.ediv_nonneg
abbrev gB:=@if_true
abbrev vJ:=@List.length_range
abbrev vK:=@decide_eq_true_eq
abbrev vL:=@Bool.eq_false_iff
abbrev Ec:=@Option.ne_none_iff_exists'
abbrev zs:=@Array.getElem_toList
abbrev tb:=@List.tail_cons
abbrev qH:=@Nat.mul_succ
abbrev vM:=@List.filter_cons
abbrev Ed:=@Decidable.byContradiction
abbrev zt:=@List.replicate_succ
abbrev Ee:=@List.getElem_append_left
abbrev tc:=@Bool.false_or
abbrev td:=@Bool.or_false
abbrev vN:=@List.take_left'
abbrev vO:=@List.mem_filter
abbrev vP:=@List.length_zip
abbrev zu:=@Int.emod_lt_of_pos
abbrev qI:=@Nat.le_succ
abbrev qJ:=@Nat.sub_mul
abbrev qK:=@Int.add_mul
abbrev Ef:=@List.getElem?_replicate
abbrev Eg:=@decide_eq_false_iff_not
abbrev Eh:=@List.pairwise_singleton
abbrev Ei:=@List.getElem_cons_zero
abbrev zv:=@List.flatten_cons
abbrev zw:=@List.ext_getElem?
abbrev tf:=@Nat.beq_refl
abbrev tg:=@Nat.sub_self
abbrev vQ:=@Nat.mul_le_mul
abbrev vR:=@Int.mul_nonneg
abbrev vS:=@Bool.false_and
abbrev zx:=@List.pairwise_map
abbrev LK:=@Array.getElem?_setIfInBounds_ne
abbrev Ej:=@Nat.le_of_ble_eq_true
abbrev Ek:=@List.singleton_append
abbrev zy:=@List.any_eq_true
abbrev LM:=@List.eq_nil_iff_forall_not_mem
abbrev LN:=@Nat.and_two_pow_sub_one_eq_mod
abbrev zz:=@List.nodup_cons
abbrev El:=@List.get_eq_getElem
abbrev LO:=@Nat.two_pow_add_eq_or_of_lt
abbrev LP:=@iff_iff_implies_and_implies
abbrev Em:=@List.getElem_range
abbrev zA:=@List.mapM_cons
abbrev LR:=@Int.fdiv_eq_ediv_of_nonneg
abbrev LS:=@Int.add_mul_emod_self_left
abbrev En:=@Int.tmod_lt_of_pos
abbrev LV:=@List.getElem_append_right
abbrev LW:=@Array.getElem?_eq_getElem
abbrev LX:=@Classical.byContradiction
abbrev LY:=@Int.le_of_mul_le_mul_left
abbrev Eo:=@List.getElem_drop
abbrev Ep:=@List.getElem_take
abbrev Er:=@Decidable.not_not
abbrev Es:=@Bool.not_eq_false
abbrev zB:=@Int.add_assoc
abbrev LZ:=@List.length_eq_zero_iff
abbrev L0:=@List.getElem?_cons_zero
abbrev Et:=@List.nil_sublist
abbrev L1:=@Array.getElem?_eq_none
abbrev L4:=@List.getElem_replicate
abbrev vT:=@Nat.beq_eq
abbrev L7:=@List.append_eq_nil_iff
abbrev zC:=@Nat.pow_succ
abbrev zD:=@Int.pow_succ
abbrev zE:=@Int.mul_zero
abbrev L8:=@Int.ediv_eq_zero_of_lt
abbrev Eu:=@List.range_succ
abbrev Ev:=@Int.emod_nonneg
abbrev Ew:=@Int.natCast_add
abbrev L9:=@List.getElem?_toArray
abbrev Ma:=@Int.mul_ediv_add_emod
abbrev Mb:=@Nat.div_lt_iff_lt_mul
abbrev Mc:=@Int.add_mul_ediv_left
abbrev Md:=@List.set_append_right
abbrev zF:=@Int.one_mul
abbrev zG:=@Int.mul_neg
abbrev zH:=@Int.neg_neg
abbrev Ex:=@Bool.and_false
abbrev Ey:=@List.all_cons
abbrev Ez:=@Nat.lt_irrefl
abbrev zI:=@Nat.blt_eq
abbrev zJ:=@Nat.ble_eq
abbrev EA:=@Nat.mul_comm
abbrev EB:=@Int.sub_zero
abbrev EC:=@Int.add_comm
section
namespace VM
open Go
theorem alm{α:Type}(a:α): ∃b:α,b=a:=⟨a,rfl⟩
def bf{α:Type}(a:α):α:=Classical.choose (alm a)
theorem iD{α:Type}(a:α):bf a=a:=Classical.choose_spec (alm a)
def zK:Nat:=68719476736
def W:IntKind→Int→Int:=bf λk x=>k.wrap x
def aY:Int→Int→Bool:=bf λx y=>decide (x<y)
def dj:Int→Int→Bool:=bf λx y=>decide (x≤y)
def aO:Int→Int→Bool:=bf λx y=>decide (x=y)
def ba:Int→Nat→Bool:=bf λi n=>decide (0≤i∧i<(n:Int))
def small:Nat→Bool:=bf λn=>decide (n<zK)
def jX:Int→Int→Bool:=bf λl c=>decide (0≤l∧l≤c∧c<(zK:Int))
def jY:Int→Int→Int→Int→Bool:=bf λl h m n=>decide (0≤l∧l≤h∧h≤m∧m≤n)
def quo:Int→Int→Int:=bf λx y=>x.tdiv y
def rem:Int→Int→Int:=bf λx y=>x.tmod y
def shl:IntKind→Int→Int→Int:=bf λk x y=>x*2^(min y.toNat k.bits)
def shr:IntKind→Int→Int→Int:=bf λk x y=>x.fdiv (2^(min y.toNat k.bits))
def mx:Int→Int→Int:=bf λx y=>if y>x then y else x
def mn:Int→Int→Int:=bf λx y=>if y<x then y else x
def Vl:ByteArray→ByteArray→Bool:=bf λx y=>decide (x.toList=y.toList)
theorem ED(k:IntKind)(x:Int):W k x=k.wrap x:=by unfold W;rw[iD]
theorem tZ(x y:Int):aY x y=decide (x<y):=by unfold aY;rw[iD]
theorem nY(x y:Int):dj x y=decide (x≤y):=by unfold dj;rw[iD]
theorem jx(x y:Int):aO x y=decide (x=y):=by unfold aO;rw[iD]
theorem Vm(i:Int)(n:Nat):ba i n=decide (0≤i∧i<(n:Int)):=by unfold ba;rw[iD]
theorem EE(n:Nat):small n=decide (n<zK):=by unfold small;rw[iD]
theorem H4(l c:Int):jX l c=decide (0≤l∧l≤c∧c<(zK:Int)):=by unfold jX;rw[iD]
theorem zL(l h m n:Int):jY l h m n=decide (0≤l∧l≤h∧h≤m∧m≤n):=by unfold jY;rw[iD]
theorem agK(x y:Int):quo x y=x.tdiv y:=by unfold quo;rw[iD]
theorem agL(x y:Int):rem x y=x.tmod y:=by unfold rem;rw[iD]
theorem Vn(k:IntKind)(x y:Int):shl k x y=x*2^(min y.toNat k.bits):=by unfold shl;rw[iD]
theorem PY(k:IntKind)(x y:Int):shr k x y=x.fdiv (2^(min y.toNat k.bits)):=by unfold shr;rw[iD]
theorem Vo(x y:Int):mx x y=if y>x then y else x:=by unfold mx;rw[iD]
theorem Rs(x y:Int):mn x y=if y<x then y else x:=by unfold mn;rw[iD]
theorem EF(x y:ByteArray):Vl x y=decide (x.toList=y.toList):=by unfold Vl;rw[iD]
inductive Bw where|and|or|xor|andNot
def qL:Bw→IntKind→Int→Int→Int:=bf λo k x y=>
 let a:=BitVec.ofInt k.bits x
 let b:=BitVec.ofInt k.bits y
 k.wrap (match o with| .and=>a&&& b| .or=>a|||b| .xor=>a^^^b| .andNot=>a&&& ~~~b).toNat
theorem ua(o:Bw)(k:IntKind)(x y:Int):qL o k x y=
 let a:=BitVec.ofInt k.bits x
 let b:=BitVec.ofInt k.bits y
 k.wrap (match o with| .and=>a&&& b| .or=>a|||b| .xor=>a^^^b| .andNot=>a&&& ~~~b).toNat:=by unfold qL;rw[iD]
def strOf(l:List Nat):ByteArray:=⟨(l.map UInt8.ofNat).toArray⟩
inductive Ty where
 |int (k:IntKind)
 |bool
 |str
 |slice (e:Ty)
 |unit
 |pair (a b:Ty)
 |arr (n:Nat) (e:Ty)
 deriving DecidableEq
@[reducible] def Ty.den:Ty→Type
 | .int _=>Int
 | .bool=>Bool
 | .str=>ByteArray
 | .slice e=>List e.den
 | .unit=>Unit
 | .pair a b=>a.den×b.den
 | .arr _ e=>List e.den
def Ty.size:Ty→Nat
 | .int _| .bool| .str| .slice _=>1
 | .unit=>0
 | .pair a b=>a.size+b.size
 | .arr n e=>n*e.size
def Ty.isAgg:Ty→Bool
 | .unit| .pair _ _| .arr _ _=>true
 |_=>false
def Ty.zero:(τ:Ty)→τ.den
 | .int _=>(0:Int)
 | .bool=>false
 | .str=>ByteArray.empty
 | .slice _=>[]
 | .unit=>()
 | .pair a b=>(a.zero,b.zero)
 | .arr n e=>List.replicate n e.zero
def Ty.comparable:Ty→Bool
 | .slice _=>false
 | .pair a b=>a.comparable&&b.comparable
 | .arr _ _=>false
 |_=>true
def aln{α:Type}(f:α→α→Bool):List α→List α→Bool
 |[],[]=>true
 |x::xs,y::ys=>f x y&&aln f xs ys
 |_,_=>false
def ql:(τ:Ty)→τ.den→τ.den→Bool
 | .int _,x,y=>aO x y
 | .bool,x,y=>x==y
 | .str,x,y=>Vl x y
 | .slice _,_,_=>false
 | .unit,_,_=>true
 | .pair a b,x,y=>ql a x.1 y.1&&ql b x.2 y.2
 | .arr _ e,x,y=>aln (ql e) x y
inductive Step where
 |kC (n:Nat)
 |idx (i:Nat)
def Me:List Step→List Step→Bool
 |[],[]=>true
 | .kC a::p,.kC b::q=>Nat.beq a b&&Me p q
 |_,_=>false
def xR:List Step→List Step→Bool
 |[],_=>true
 | .kC a::p,.kC b::q=>Nat.beq a b&&xR p q
 |_,_=>false
def JK:Ty→Nat→Option Ty
 | .pair a b,n=>match n with
  |0=>some a
  |n+1=>JK b n
 |_,_=>none
def gM:List Step→Ty→Ty→Bool
 |[],τ,υ=>decide (τ=υ)
 | .kC n::p,τ,υ=>match JK τ n with
  |some a=>gM p a υ
  |none=>false
 |_,_,_=>false
inductive bD where
 |any
 |Vp
 |val (τ:Ty) (x:τ.den)
 |JL (τ:Ty) (x:τ.den) (n:Nat)
 |emp
 |ref (id:Nat)
 |jn (id:Nat) (p:List Step)
 |qM (τ:Ty) (x:τ.den)
 |tup (vs:List bD)
 |Mf (f:Nat) (caps:List bD)
inductive bg where
 |obj (τ:Ty) (x:τ.den)
 |gh (τ:Ty) (x:τ.den) (p:List Step) (j:Nat)
 |own (e:Ty) (l:List e.den)
 |oH (e:Ty) (l:List e.den)
 |gone
structure St where
 T:Nat→bD
 H:Nat→Option bg
def St.put(σ:St)(d:Nat)(v:bD):St:=⟨λi=>cond (Nat.beq i d) v (σ.T i),σ.H⟩
def St.jO(σ:St)(d:Nat)(v:Option bg):St:=⟨σ.T,λi=>cond (Nat.beq i d) v (σ.H i)⟩
def St.vo(σ:St)(d:Option Nat)(v:bD):St:=match d with|some d=>σ.put d v|none=>σ
def Mg(n:Nat)(io:List Nat):Option Nat→Bool|some d=>Nat.blt d n&&io.all (λi=> !(Nat.beq i d))|none=>true
def St.vU(σ:St):List (Nat×Option bg)→St
 |[]=>σ
 |u::r=>(σ.jO u.1 u.2).vU r
abbrev S0:St:=⟨λ_=> .any,λ_=>none⟩
abbrev iX:=List (Nat×Option bg)
section K
variable{α:Type}
def xS:(τ:Ty)→τ.den→Nat→((υ:Ty)→υ.den→Option α)→Option α
 | .pair a b,x,n,k=>match n with
  |0=>k a x.1
  |n+1=>xS b x.2 n k
 |_,_,_,_=>none
def m1:(τ:Ty)→τ.den→Nat→((υ:Ty)→υ.den→(υ.den→Option α)→Option α)→(τ.den→Option α)→Option α
 | .pair a b,x,n,m,k=>match n with
  |0=>m a x.1 λz=>k (z,x.2)
  |n+1=>m1 b x.2 n m λz=>k (x.1,z)
 |_,_,_,_,_=>none
def m2(τ υ:Ty)(k:Option α):Option α:=if τ=υ then k else none
def c7(υ τ:Ty)(y:υ.den)(k:τ.den→Option α):Option α:=if h:υ=τ then k (h▸y)else none
def agM(τ:Ty)(x:τ.den)(i:Nat)(k:(υ:Ty)→υ.den→Option α):Option α:=
 match τ,x with
 | .arr _ e,x=>k e (List.getD x i e.zero)
 |_,_=>none
def DO(τ:Ty)(x:τ.den)(i:Nat)(m:(υ:Ty)→υ.den→(υ.den→Option α)→Option α)(k:τ.den→Option α):Option α:=
 match τ,x,k with
 | .arr _ e,x,k=>m e (List.getD x i e.zero) λz=>k (List.set x i z)
 |_,_,_=>none
def zM:List Step→(τ:Ty)→τ.den→((υ:Ty)→υ.den→Option α)→Option α
 |[],τ,x,k=>k τ x
 | .kC n::p,τ,x,k=>xS τ x n fun υ y=>zM p υ y k
 | .idx i::p,τ,x,k=>agM τ x i fun υ y=>zM p υ y k
def vp(υ:Ty)(y:υ.den):List Step→(τ:Ty)→τ.den→(τ.den→Option α)→Option α
 |[],τ,_,k=>c7 υ τ y k
 | .kC n::p,τ,x,k=>m1 τ x n (fun υ' y' k'=>vp υ y p υ' y' k') k
 | .idx i::p,τ,x,k=>DO τ x i (fun υ' y' k'=>vp υ y p υ' y' k') k
def lV(fz:Bool)(a:bD)(H:Nat→Option bg)(τ:Ty)(k:τ.den→List Nat→iX→Option α):Option α:=
 match a with
 | .val υ x=>c7 υ τ x λy=>k y [] []
 | .JL υ x _=>c7 υ τ x λy=>k y [] []
 | .emp=>match τ,k with
  | .slice _,k=>k [] [] []
  |_,_=>none
 | .ref id=>match H id with
  |some (.own e l)=>c7 (.slice e) τ l λy=>k y [id] (cond fz [(id,some (.oH e l))] [])
  |some (.oH e l)=>c7 (.slice e) τ l λy=>k y [id] []
  |_=>none
 |_=>none
def Mh(a:bD)(k:(τ:Ty)→τ.den→Option α):Option α:=
 match a with
 | .val υ x=>k υ x
 |_=>none
def m3(id:Nat)(p:List Step)(H:Nat→Option bg)(k:Ty→Option α):Option α:=
 match H id with
 |some (.obj τ x)=>zM p τ x fun υ _=>k υ
 |some (.gh τ x _ _)=>zM p τ x fun υ _=>k υ
 |some (.own e l)|some (.oH e l)=>match p with
  | .idx i::p=>zM p e (List.getD l i e.zero) fun υ _=>k υ
  |_=>none
 |_=>none
def avS(a:bD)(H:Nat→Option bg)(k:(τ:Ty)→τ.den→List Nat→Option α):Option α:=
 match a with
 | .val υ x=>k υ x []
 | .ref id=>match H id with
  |some (.own e l)|some (.oH e l)=>k (.slice e) l [id]
  |_=>none
 |_=>none
def vV(a:bD)(k:IntKind→Int→Option α):Option α:=
 match a with
 | .val (.int i) x=>k i x
 |_=>none
end K
inductive AM where
 |v (τ:Ty)
 |own (e:Ty)
 |io (τ:Ty)
 |fn (f:Nat) (τ:Ty)
 |ptr (τ:Ty)
 |jn (τ:Ty)
 |lo (e:Ty)
 deriving DecidableEq
@[reducible] def AM.den:AM→Type
 | .v τ=>τ.den
 | .own e=>List e.den
 | .io τ=>τ.den
 | .fn _ τ=>τ.den
 | .ptr τ=>τ.den
 | .jn τ=>τ.den
 | .lo e=>List e.den
@[reducible] def HP:List AM→Type
 |[]=>Unit
 |[m]=>m.den
 |m::n::ms=>m.den×HP (n::ms)
structure lW where
 args:List AM
 res:List AM
 quiet:Bool
 run:HP args→Option (HP res)
inductive CM where
 |v (τ:Ty)
 |own (e:Ty)
 |obj (τ:Ty)
 |gh (τ:Ty) (q:List Step) (e:Ty)
 |same (s:Nat)
 |io (τ:Ty)
 |fn (f:Nat) (τ:Ty)
structure Env where
 nt:Nat
 ty:Nat→Option Ty
 Γ:Nat→List lW
 N:Nat
 vW:Nat→Option (List (Nat×CM))
 xT:Nat→Option (List (Nat×CM))
 io:List Nat:=[]
 lk:Option (Ty×List Step×Ty×List Nat):=none
def lkT(E:Env)(τ:Ty):Option (List Step×Ty):=match E.lk with
 |some (υ,q,e,_)=>cond (decide (υ=τ)) (cond (gM q τ (.slice e)) (some (q,e)) none) none
 |none=>none
def JM(E:Env)(τ:Ty)(id:Nat):Option (List Step×Ty):=match E.lk with
 |some (_,_,_,ds)=>cond (ds.any λd=>Nat.beq (id/16) d) (lkT E τ) none
 |none=>none
def cvA:Value→bD
 | .int k n=> .val (.int k) n
 | .bool b=> .val .bool b
 | .string s=> .val .str s
 | .slice none 0 0=> .emp
 |_=> .any
def St.ρ (σ:St):Operand→bD
 | .tmp t=>σ.T t
 | .const v=>cvA v
 | .global _=> .any
 | .func f=> .Mf f []
section
variable{α:Type}
def ub(op:BinOp)(k:IntKind)(x y:Int)(K:bD→Option α):Option α:=
 match op with
 | .add=>K (.val (.int k) (W k (x+y)))
 | .sub=>K (.val (.int k) (W k (x-y)))
 | .mul=>K (.val (.int k) (W k (x*y)))
 | .quo=>cond (aO y 0) none (K (.val (.int k) (W k (quo x y))))
 | .rem=>cond (aO y 0) none (K (.val (.int k) (rem x y)))
 | .and=>K (.val (.int k) (qL .and k x y))
 | .or=>K (.val (.int k) (qL .or k x y))
 | .xor=>K (.val (.int k) (qL .xor k x y))
 | .andNot=>K (.val (.int k) (qL .andNot k x y))
 | .eql=>K (.val .bool (aO x y))
 | .neq=>K (.val .bool (!aO x y))
 | .lss=>K (.val .bool (aY x y))
 | .leq=>K (.val .bool (dj x y))
 | .gtr=>K (.val .bool (aY y x))
 | .geq=>K (.val .bool (dj y x))
 |_=>none
def Zd(op:BinOp)(k:IntKind)(x y:Int)(K:bD→Option α):Option α:=
 match op with
 | .shl=>cond (aY y 0) none (K (.val (.int k) (W k (shl k x y))))
 | .shr=>cond (aY y 0) none (K (.val (.int k) (shr k x y)))
 |_=>none
def Ze:BinOp→Bool
 | .shl| .shr=>true
 |_=>false
def EG(t:Option Ty)(op:BinOp)(τ:Ty)(x:τ.den)(υ:Ty)(y:υ.den)(K:bD→Option α):Option α:=
 match τ,x,υ,y with
 | .int k,x,.int k',y=>cond (Ze op) (Zd op k x y K) (if k=k' then ub op k x y K else none)
 |τ,x,υ,y=>match t with
  |none=>none
  |some u=>m2 u τ (cond τ.comparable (match op with
   | .eql=>c7 υ τ y λy=>K (.val .bool (ql τ x y))
   | .neq=>c7 υ τ y λy=>K (.val .bool (!ql τ x y))
   |_=>none) none)
def SX(op:UnOp)(a:bD)(K:bD→Option α):Option α:=
 match op,a with
 | .neg,.val (.int k) n=>K (.val (.int k) (W k (0-n)))
 | .xor,.val (.int k) n=>K (.val (.int k) (qL .xor k (if k.signed then-1 else k.max) n))
 | .not,.val .bool b=>K (.val .bool (!b))
 |_,_=>none
abbrev jb(α:Type):=bD→List Nat→iX→Option α
def YS(up:Bool):bD→List bD→(bD→Option α)→Option α
 |a,[],K=>K a
 |a,b::r,K=>vV a λk x=>vV b λk' y=>if k=k' then YS up (.val (.int k) (cond up (mx x y) (mn x y))) r K else none
def Mi(τ:Ty)(a:bD)(H:Nat→Option bg)(K:jb α):Option α:=
 match τ,a with
 | .slice _,.val (.slice _) l=>K (.val (.int .i64) (List.length l:Int)) [] []
 | .arr n _,.val (.arr _ _) _=>K (.val (.int .i64) (n:Int)) [] []
 | .str,.val .str s=>K (.val (.int .i64) (ByteArray.size s:Int)) [] []
 | .slice _,.emp=>K (.val (.int .i64) (0:Int)) [] []
 | .slice _,.ref id=>match H id with
  |some (.own _ l)|some (.oH _ l)=>K (.val (.int .i64) (l.length:Int)) [id] []
  |_=>none
 |_,_=>none
def qN(H:Nat→Option bg)(id:Nat)(e:bg)(K:Option α):Option α:=
 match H id with
 |none=>K
 |some _=>none
def Mj(id:Nat)(e:Ty)(a b:bD)(H:Nat→Option bg)(K:jb α):Option α:=
 lV false b H (.slice e) λys rd _=>
  match a with
  | .emp=>cond (small (List.length ys)) (K (.ref id) (id::rd) [(id,some (.own e ys))]) none
  | .ref j=>match H j with
   |some (.own e' l)=>c7 (.slice e') (.slice e) l λxs=>
    cond (small (List.length xs+List.length ys)) (K (.ref id) (id::j::rd) [(j,some .gone),(id,some (.own e (xs++ys)))]) none
   |_=>none
  |_=>none
def uc(τ:Ty)(H:Nat→Option bg):List (Nat×bD)→τ.den→List Nat→iX→(τ.den→List Nat→iX→Option α)→Option α
 |[],x,rd,ups,K=>K x rd ups
 |p::r,x,rd,ups,K=>xS τ x p.1 fun υ _=>lV true p.2 H υ λy Bj nZ=>
  m1 τ x p.1 (fun υ' _ k'=>c7 υ υ' y k') λz=>uc τ H r z (Bj++rd) (ups++nZ) K
def vX(e:Ty)(H:Nat→Option bg)(n:Nat):List (Nat×bD)→List e.den→List Nat→iX→(List e.den→List Nat→iX→Option α)→Option α
 |[],l,rd,ups,K=>K l rd ups
 |p::r,l,rd,ups,K=>cond (Nat.blt p.1 n) (lV true p.2 H e λy Bj nZ=>vX e H n r (List.set l p.1 y) (Bj++rd) (ups++nZ) K) none
def Cg(v:bD)(H:Nat→Option bg):(a:Ty)→(a.den→List Nat→iX→Option α)→Option α
 | .pair a .unit,k=>match v with
  | .qM υ x=>c7 υ a x λy=>k (y,()) [] []
  |_=>none
 |a,k=>lV true v H a k
def Ch:(a:Ty)→a.den→bD
 | .pair a .unit,x=> .qM a x.1
 |a,x=> .val a x
def qO(H:Nat→Option bg):(τ:Ty)→List bD→(τ.den→List Nat→iX→Option α)→Option α
 | .unit,[],K=>K () [] []
 | .pair a b,v::vs,K=>Cg v H a λx rd ups=>qO H b vs λxs Bj nZ=>K (x,xs) (Bj++rd) (ups++nZ)
 |_,_,_=>none
def pM:(τ:Ty)→τ.den→List bD
 | .pair a b,x=>Ch a x.1::pM b x.2
 |_,_=>[]
def bZ(H:Nat→Option bg)(d:Nat)(v:Option bg):Nat→Option bg:=λi=>cond (Nat.beq i d) v (H i)
def vY(H:Nat→Option bg):List bD→(List bD→List Nat→iX→Option α)→Option α
 |[],K=>K [] [] []
 |a::r,K=>match a with
  | .jn id []=>match H id with
   |some (.obj τ x)=>vY (bZ H id (some .gone)) r λcs rd ups=>K (.qM τ x::cs) (id::rd) ((id,some .gone)::ups)
   |_=>none
  |a=>vY H r λcs rd ups=>K (a::cs) rd ups
def nU(m:AM)(a:bD)(H:Nat→Option bg)(k:m.den→(Nat→Option bg)→List Nat→iX→iX→List (Nat×AM)→Option α):Option α:=
 match m,k with
 | .v τ,k=>lV true a H τ λx rd uf=>match uf with
  |[]=>k x H rd [] [] []
  |u::r=>k x (bZ H u.1 u.2) rd [] (u::r) []
 | .own e,k=>match a with
  | .emp=>k [] H [] [] [] []
  | .ref id=>match H id with
   |some (.own e' l)=>c7 (.slice e') (.slice e) l λx=>k x (bZ H id (some .gone)) [id] [(id,some .gone)] [] []
   |_=>none
  |_=>none
 | .io τ,k=>match a with
  | .jn id []=>match H id with
   |some (.obj υ x)=>c7 υ τ x λy=>k y (bZ H id (some .gone)) [id] [] [] [(id,.io τ)]
   |_=>none
  |_=>none
 | .fn f τ,k=>match a with
  | .Mf f' c=>cond (Nat.beq f f') (qO H τ c λx rd uf=>match uf with
   |[]=>k x H rd [] [] []
   |_=>none) none
  |_=>none
 | .ptr _,_=>none
 | .jn τ,k=>match a with
  | .qM υ x=>c7 υ τ x λy=>k y H [] [] [] []
  |_=>none
 | .lo e,k=>match a with
  | .ref id=>match H id with
   |some (.own e' l)=>c7 (.slice e') (.slice e) l λx=>k x (bZ H id (some .gone)) [id] [] [] [(id,.lo e)]
   |_=>none
  |_=>none
def th:(ms:List AM)→List bD→(Nat→Option bg)→List Nat→iX→iX→List (Nat×AM)→(HP ms→List Nat→iX→iX→List (Nat×AM)→Option α)→Option α
 |[],[],_,rd,uo,uf,io,K=>K () rd uo uf io
 |[m],[a],H,rd,uo,uf,io,K=>nU m a H λx _ Bj Lu Lv GZ=>K x (Bj++rd) (Lu++uo) (Lv++uf) (io++GZ)
 |m::n::ms,a::pW,H,rd,uo,uf,io,K=>nU m a H λx H' Bj Lu Lv GZ=>
  th (n::ms) pW H' (Bj++rd) (Lu++uo) (Lv++uf) (io++GZ) λxs rd uo uf io=>K (x,xs) rd uo uf io
 |_,_,_,_,_,_,_,_=>none
def JN(m:AM)(x:m.den)(id:Nat):bD×iX:=
 match m,x with
 | .v τ,x=>(.val τ x,[])
 | .own e,x=>(.ref id,[(id,some (.own e x))])
 | .io τ,x=>(.val τ x,[])
 | .fn _ _,_=>(.any,[])
 | .ptr τ,x=>(.jn id [],[(id,some (.obj τ x))])
 | .jn _,_=>(.any,[])
 | .lo _,_=>(.any,[])
def jP:(ms:List AM)→HP ms→Nat→List (Nat×AM)→List bD×iX×List (Nat×AM)
 |[],_,_,io=>([],[],io)
 |[m],x,id,io=>match m,x,io with
  | .io τ,x,(j,_)::io=>([],[(j,some (.obj τ x))],io)
  | .lo e,x,(j,_)::io=>([],[(j,some (.own e x))],io)
  |m,x,io=>([(JN m x id).1],(JN m x id).2,io)
 |m::n::ms,x,id,io=>match m,x,io with
  | .io τ,x,(j,_)::io=>let r:=jP (n::ms) x.2 (id+1) io;(r.1,(j,some (.obj τ x.1))::r.2.1,r.2.2)
  | .lo e,x,(j,_)::io=>let r:=jP (n::ms) x.2 (id+1) io;(r.1,(j,some (.own e x.1))::r.2.1,r.2.2)
  |m,x,io=>let r:=jP (n::ms) x.2 (id+1) io;((JN m x.1 id).1::r.1,(JN m x.1 id).2++r.2.1,r.2.2)
def Mk:List bD→bD
 |[]=> .any
 |[a]=>a
 |l=> .tup l
def ud(H:Nat→Option bg)(id:Nat):Nat→Bool
 |0=>true
 |n+1=>(match H (id+n)with|none=>true|some _=>false)&&ud H id n
def Ml(id:Nat):Nat→List Nat
 |0=>[]
 |n+1=>(id+n)::Ml id n
def fits:List AM→List bD→Bool
 |[],[]=>true
 | .fn f _::ms,.Mf g _::pW=>Nat.beq f g&&fits ms pW
 | .fn _ _::_,_::_=>false
 |_::ms,_::pW=>fits ms pW
 |_,_=>false
def Mm:List lW→List bD→Option lW
 |[],_=>none
 |S::r,pW=>cond (fits S.args pW) (some S) (Mm r pW)
def Ci(E:Env)(f:Nat)(pW:List bD)(id:Nat)(H:Nat→Option bg)(K:jb α):Option α:=
 match Mm (E.Γ f) pW with
 |none=>none
 |some S=>th S.args pW H [] [] [] [] λx rd uo uf io=>
  (S.run x).bind λy=>
   let r:=jP S.res y id io
   cond (ud H id S.res.length) (K (Mk r.1) (Ml id S.res.length++(r.2.1.map (·.1)++rd)) (uo++cond S.quiet [] uf++r.2.1)) none
def yC(a:Option bD)(d:Int)(k:Int→Option α):Option α:=
 match a with
 |none=>k d
 |some a=>vV a λ_ x=>k x
def lR:Option Operand→Bool
 |some (.const (.int _ n))=>decide (n=0)
 |_=>false
def qP(t:Ty)(z:Bool)(a:bD)(lo hi mx:Option bD)(H:Nat→Option bg)(K:jb α):Option α:=
 match t,a with
 | .str,.val .str s=>cond mx.isNone (yC lo 0 λl=>yC hi (ByteArray.size s:Int) λh=>
  cond (jY l h (ByteArray.size s:Int) (ByteArray.size s:Int)) (K (.val .str (ByteArray.extract s l.toNat h.toNat)) [] []) none) none
 | .slice _,.emp=>cond z (K .emp [] []) (cond mx.isNone (yC lo 0 λl=>yC hi 0 λh=>cond (jY l h 0 0) (K .emp [] []) none) none)
 | .slice e,a=>lV (!z) a H (.slice e) λx rd ups=>cond z (K .emp rd [])
  (cond (mx.isNone||hi.isSome) (yC lo 0 λl=>yC hi (List.length x:Int) λh=>yC mx (List.length x:Int) λm=>
   cond (jY l h m (List.length x:Int))
    (K (.val (.slice e) (List.drop l.toNat (List.take h.toNat x))) rd ups) none) none)
 |_,_=>none
def gC(τ:Ty)(a i:bD)(H:Nat→Option bg)(K:jb α):Option α:=
 vV i λ_ i=>
 match τ with
 | .slice e=>match a with
  | .val υ l=>c7 υ (.slice e) l λl=>cond (ba i (List.length l)) (K (.qM e (List.getD l i.toNat e.zero)) [] []) none
  | .ref id=>match H id with
   |some (.own e' l)|some (.oH e' l)=>m2 e' e (cond (ba i (List.length l)) (K (.jn id [.idx i.toNat]) [id] []) none)
   |_=>none
  |_=>none
 | .arr n e=>match a with
  | .jn id p=>m3 id p H fun υ=>m2 υ (.arr n e) (cond (ba i n) (K (.jn id (p++[.idx i.toNat])) [id] []) none)
  | .qM υ l=>c7 υ (.arr n e) l λl=>cond (ba i n) (K (.qM e (List.getD l i.toNat e.zero)) [] []) none
  |_=>none
 |_=>none
def vZ(τ:Ty)(a i:bD)(K:bD→Option α):Option α:=
 vV i λ_ i=>
 match τ,a with
 | .arr n e,.val υ l=>c7 υ (.arr n e) l λl=>cond (ba i n) (K (.val e (List.getD l i.toNat e.zero))) none
 | .str,.val .str s=>cond (ba i (ByteArray.size s)) (K (.val (.int .u8) ((s.data.getD i.toNat 0).toNat:Int))) none
 |_,_=>none
def kU(a:bD)(H:Nat→Option bg)(K:(υ:Ty)→υ.den→List Nat→Option α):Option α:=
 match a with
 | .qM τ x=>K τ x []
 | .jn id p=>match H id with
  |some (.obj τ x)=>zM p τ x fun υ y=>K υ y [id]
  |some (.own e l)|some (.oH e l)=>match p with
   | .idx i::p=>zM p e (List.getD l i e.zero) fun υ y=>K υ y [id]
   |_=>none
  |_=>none
 |_=>none
def lX(τ:Ty)(a v:bD)(H:Nat→Option bg)(K:jb α):Option α:=
 match a with
 | .jn id p=>lV true v H τ λy rd ups=>
  match H id with
  |some (.obj υ x)=>vp τ y p υ x λz=>K .any (id::rd) (ups++[(id,some (.obj υ z))])
  |some (.own e l)=>match p with
   | .idx i::p=>cond (rd.contains id) none (vp τ y p e (List.getD l i e.zero) λz=>K .any (id::rd) (ups++[(id,some (.own e (List.set l i z)))]))
   |_=>none
  |_=>none
 |_=>none
def Dc(j:Nat)(q:List Step)(τ:Ty)(x:τ.den)(H:Nat→Option bg)(k:τ.den→iX→Option α):Option α:=
 match H j with
 |some (.own e l)=>vp (.slice e) l q τ x λz=>k z [(j,some (.oH e l))]
 |some (.oH e l)=>vp (.slice e) l q τ x λz=>k z []
 |_=>none
def u9(τ:Ty)(a:bD)(H:Nat→Option bg)(K:jb α):Option α:=
 let yD:=kU a H fun υ y rd=>c7 υ τ y λz=>K (.val τ z) rd []
 match a with
 | .jn id p=>match H id with
  |some (.gh υ x q j)=>cond (Me p q) (cond (gM q υ τ) (K (.ref j) [id] []) none)
   (cond (xR p q) (Dc j q υ x H λz ups=>zM p υ z fun υ' y=>c7 υ' τ y λy'=>K (.val τ y') [id,j] ups)
    (zM p υ x fun υ' y=>c7 υ' τ y λy'=>K (.val τ y') [id] []))
  |_=>yD
 |_=>yD
def Cj(τ:Ty)(id k:Nat)(e:Ty)(q:List Step)(υ:Ty)(x:υ.den)(H:Nat→Option bg)(K:jb α):Option α:=
 match H k with
 |some (.own e' _)=>m2 e' e (m2 τ (.slice e) (vp (.slice e) [] q υ x λz=>K .any [id,k] [(id,some (.gh υ z q k))]))
 |_=>none
def jZ(E:Env)(τ:Ty)(a v:bD)(H:Nat→Option bg)(K:jb α):Option α:=
 let yD:=lX τ a v H K
 match a with
 | .jn id p=>match H id with
  |some (.obj υ x)=>match JM E υ id,v with
   |some (q,e),.ref k=>cond (Me p q) (Cj τ id k e q υ x H K) yD
   |_,_=>yD
  |some (.gh υ x q j)=>
   let put:=lV true v H τ λy rd ups=>vp τ y p υ x λz=>K .any (id::rd) (ups++[(id,some (cond (xR p q) (.obj υ z) (.gh υ z q j)))])
   match JM E υ id,v with
   |some (q',e),.ref k=>cond (Me p q&&Me q q') (Cj τ id k e q υ x H K) put
   |_,_=>put
  |_=>yD
 |_=>yD
def sP(E:Env)(τ:Ty)(a v:bD)(H:Nat→Option bg)(K:jb α):Option α:=
 match a,v with
 | .jn id [],.JL υ y n=>match JM E υ id with
  |some ([.kC m],e)=>cond (Nat.beq m n) (m2 τ υ (m3 id [] H fun υ'=>m2 υ' υ
   (qN H (id+2) (.own e []) (K .any [id,id+2] [(id,some (.gh υ y [.kC m] (id+2))),(id+2,some (.own e []))])))) (jZ E τ a v H K)
  |_=>jZ E τ a v H K
 |_,_=>jZ E τ a v H K
def Dd(H:Nat→Option bg)(id:Nat)(τ:Ty)(x:τ.den)(q:List Step)(e:Ty)(K:jb α):Option α:=
 qN H id (.obj τ x) (qN H (id+1) (.own e []) (K (.jn id []) [id,id+1] [(id,some (.gh τ x q (id+1))),(id+1,some (.own e []))]))
def Zf(E:Env)(ps:List (Nat×bD))(τ:Ty)(x:τ.den):bD:=match lkT E τ with
 |some ([.kC n],_)=>cond (ps.all λp=> !(Nat.beq p.1 n)) (.JL τ x n) (.val τ x)
 |_=> .val τ x
def partsOf(σρ:Operand→bD)(ps:Array (Nat×Operand)):List (Nat×bD):=ps.toList.map λp=>(p.1,σρ p.2)
def sZ(E:Env)(o:Oper)(ρ:Operand→bD)(H:Nat→Option bg)(K:jb α):Option α:=
 let id:=16*o.dst.getD 0
 match o.op with
 | .move x| .assign x=>K (ρ x) [] []
 | .pick c a b=>match ρ c with
  | .val .bool t=>cond t (K (ρ a) [] []) (K (ρ b) [] [])
  |_=>none
 | .alloc t=>match E.ty t with
  |some τ=>match JM E τ id with
   |some (q,e)=>Dd H id τ τ.zero q e K
   |none=>qN H id (.obj τ τ.zero) (K (.jn id []) [id] [(id,some (.obj τ τ.zero))])
  |none=>none
 | .box t x=>match E.ty t with
  |some τ=>
   let yD:=lV true (ρ x) H τ λy rd ups=>qN H id (.obj τ y) (K (.jn id []) (id::rd) (ups++[(id,some (.obj τ y))]))
   match JM E τ id,ρ x with
   |some ([.kC m],e),.JL υ y n=>cond (Nat.beq m n) (c7 υ τ y λy=>Dd H id τ y [.kC m] e K) yD
   |_,_=>yD
  |none=>none
 | .build t ps=>match E.ty t with
  |some (.arr n e)=>vX e H n (partsOf ρ ps) (List.replicate n e.zero) [] [] λl rd ups=>K (.val (.arr n e) l) rd ups
  |some τ=>cond τ.isAgg (uc τ H (partsOf ρ ps) τ.zero [] [] λx rd ups=>K (Zf E (partsOf ρ ps) τ x) rd ups) none
  |none=>none
 | .buildSlice t n ps=>match E.ty t with
  |some (.slice e)=>cond (Nat.ble (n*(e.size+1)) 16777216) (qN H id (.own e []) (vX e H n (partsOf ρ ps) (List.replicate n e.zero) [] [] λl rd ups=>K (.ref id) (id::rd) (ups++[(id,some (.own e l))]))) none
  |_=>none
 | .load t a=>match E.ty t with
  |some τ=>u9 τ (ρ a) H K
  |none=>none
 | .store t a v=>match E.ty t with
  |some τ=>sP E τ (ρ a) (ρ v) H K
  |none=>none
 | .nilCheck x=>match ρ x with
  | .jn id p=>K (.jn id p) [] []
  | .qM τ x=>K (.qM τ x) [] []
  |_=>none
 | .binOp op t x y _=>Mh (ρ x) fun τ x=>Mh (ρ y) fun υ y=>EG (E.ty t) op τ x υ y λv=>K v [] []
 | .unOp op _ x=>SX op (ρ x) λv=>K v [] []
 | .convert src dst x=>match E.ty src,E.ty dst with
  |some _,some (.int k)=>vV (ρ x) λ_ n=>K (.val (.int k) (W k n)) [] []
  |_,_=>none
 | .makeFunc (.func f) first caps=>cond first.isEmpty (vY H (caps.toList.map ρ) λcs rd ups=>K (.Mf f cs) rd ups) none
 | .makeSlice t l c=>match E.ty t with
  |some (.slice e)=>vV (ρ l) λ_ l=>vV (ρ c) λ_ c=>cond (jX l c)
    (qN H id (.own e []) (K (.ref id) [id] [(id,some (.own e (List.replicate l.toNat e.zero)))])) none
  |_=>none
 | .slice t x lo hi mx=>match E.ty t with
  |some τ=>qP τ (lo.isNone&&lR hi&&lR mx) (ρ x) (lo.map ρ) (hi.map ρ) (mx.map ρ) H K
  |none=>none
 | .fieldAddr t x n=>match E.ty t with
  |some τ=>match ρ x with
   | .jn id p=>m3 id p H fun υ=>m2 υ τ (xS τ τ.zero n fun υ' _=>cond (Nat.beq υ'.size 0) none (K (.jn id (p++[.kC n])) [id] []))
   | .qM υ x=>m2 υ τ (xS υ x n fun υ y=>cond (Nat.beq υ.size 0) none (K (.qM υ y) [] []))
   |_=>none
  |none=>none
 | .field t x n=>match E.ty t with
  |some τ=>match ρ x with
   | .val υ x=>m2 υ τ (xS υ x n fun υ y=>K (.val υ y) [] [])
   |_=>none
  |none=>none
 | .indexAddr t x i=>match E.ty t with
  |some τ=>gC τ (ρ x) (ρ i) H K
  |none=>none
 | .index t x i=>match E.ty t with
  |some τ=>vZ τ (ρ x) (ρ i) λv=>K v [] []
  |none=>none
 | .extract t i=>match ρ t with
  | .tup vs=>match vs[i]? with
   |some v=>K v [] []
   |none=>none
  |_=>none
 | .call c=>match c.callee with
  | .builtin .len=>match c.args.toList,(c.argTypes.toList.head?).bind E.ty with
   |[x],some τ=>Mi τ (ρ x) H K
   |_,_=>none
  | .builtin .append=>match c.args.toList,c.argTypes.toList with
   |[x,y],[t,t']=>match E.ty t with
    |some (.slice e)=>cond (Nat.beq t t') (qN H id (.own e []) (Mj id e (ρ x) (ρ y) H K)) none
    |_=>none
   |_,_=>none
  | .builtin .max=>match c.args.toList with
   |x::r=>YS true (ρ x) (r.map ρ) λv=>K v [] []
   |_=>none
  | .builtin .min=>match c.args.toList with
   |x::r=>YS false (ρ x) (r.map ρ) λv=>K v [] []
   |_=>none
  | .value g=>match ρ g with
   | .Mf f caps=>Ci E f (c.args.toList.map ρ++caps) id H K
   |_=>none
  |_=>none
 |_=>none
def ti(E:Env)(ops:List Oper)(o:Oper)(σ:St)(K:St→List Nat→List Nat→Option α):Option α:=
 let run (σ:St):Option α:=sZ E o σ.ρ σ.H λv rd ups=>K ((σ.vU ups).vo o.dst v) rd (ups.map (·.1))
 cond (Mg E.nt E.io o.dst) (match o.guard with
 |none=>run σ
 |some (j,want)=>match(ops[j]?).bind (·.dst)with
  |none=>none
  |some t=>match σ.T t with
   | .val .bool b=>match want with
    |true=>cond b (run (σ.put t (.val .bool true))) (K ((σ.put t (.val .bool false)).vo o.dst .Vp) [] [])
    |false=>cond b (K ((σ.put t (.val .bool true)).vo o.dst .Vp) [] []) (run (σ.put t (.val .bool false)))
   | .Vp=>K (σ.vo o.dst .Vp) [] []
   |_=>none) none
abbrev Log:=List (Nat×List Nat×List Nat)
def SY(E:Env)(ops:List Oper):List Oper→Nat→St→Log→(St→Log→Option α)→Option α
 |[],_,σ,lg,K=>K σ lg
 |o::r,i,σ,lg,K=>ti E ops o σ fun σ' rd wr=>SY E ops r (i+1) σ' ((i,rd,wr)::lg) K
def sQ:List Oper→List Nat→List Nat
 |[],acc=>acc
 |o::r,acc=>sQ r (acc++[o.after.toList.foldl (λs e=>cond (Region.binds .any e) (s|||2^e.on|||acc.getD e.on 0) s) 0])
def names(ops:List Oper)(o:Oper):List Nat:=
 (o.op.operands.toList.filterMap fun| .tmp t=>some t|_=>none)++
 (match o.guard with
  |some (g,_)=>((ops[g]?).bind (·.dst)).toList
  |none=>[])
def meets(a b:List Nat):Bool:=a.any λx=>b.any λy=>Nat.beq x y
def Vq(ops:List Oper):Bool:=
 let b:=sQ ops []
 (ops.zipIdx.all λ(o,j)=>o.after.toList.all λe=> !(Region.binds .any e)||Nat.blt e.on j)&&
 ops.zipIdx.all λ(o,j)=>ops.zipIdx.all λ(p,i)=>Nat.ble j i||(b.getD j 0).testBit i||
  !(meets p.dst.toList (o.dst.toList++names ops o)||meets o.dst.toList (names ops p))
def afI(ops:List Oper)(lg:Log):Bool:=
 let b:=sQ ops []
 lg.all λx=>lg.all λy=>Nat.ble x.1 y.1||(b.getD x.1 0).testBit y.1||
  !(meets y.2.2 (x.2.1++x.2.2)||meets y.2.1 x.2.2)
def DP(E:Env)(ops:Array Oper)(draw:Bool)(σ:St)(K:St→Option α):Option α:=
 SY E ops.toList ops.toList 0 σ [] fun σ' lg=>cond (!draw||(Vq ops.toList&&afI ops.toList lg)) (K σ') none
def g8:List (Nat×CM)→St→St→(St→Option α)→Option α
 |[],_,acc,K=>K acc
 |(s,.v τ)::r,σ,acc,K=>lV true (σ.T s) σ.H τ λx _ ups=>g8 r (σ.vU ups) (acc.put s (.val τ x)) K
 |(s,.own e)::r,σ,acc,K=>match σ.T s with
  | .emp=>g8 r σ ((acc.put s (.ref (16*s+14))).jO (16*s+14) (some (.own e []))) K
  | .ref id=>match σ.H id with
   |some (.own e' l)=>c7 (.slice e') (.slice e) l λx=>g8 r (σ.jO id (some .gone)) ((acc.put s (.ref (16*s+14))).jO (16*s+14) (some (.own e x))) K
   |_=>none
  |_=>none
 |(s,.obj τ)::r,σ,acc,K=>match σ.T s with
  | .jn id []=>match σ.H id with
   |some (.obj υ x)=>c7 υ τ x λy=>g8 r (σ.jO id (some .gone)) ((acc.put s (.jn (16*s+14) [])).jO (16*s+14) (some (.obj τ y))) K
   |some (.gh υ x q j)=>Dc j q υ x σ.H λz ups=>c7 υ τ z λy=>g8 r ((σ.vU ups).jO id (some .gone)) ((acc.put s (.jn (16*s+14) [])).jO (16*s+14) (some (.obj τ y))) K
   |_=>none
  |_=>none
 |(s,.gh τ q e)::r,σ,acc,K=>match σ.T s with
  | .jn id []=>match σ.H id with
   |some (.gh υ x q' j)=>cond (Me q q') (match σ.H j with
    |some (.own e' l)=>c7 υ τ x λy=>c7 (.slice e') (.slice e) l λl=>g8 r ((σ.jO j (some .gone)).jO id (some .gone))
     (((acc.put s (.jn (16*s+14) [])).jO (16*s+13) (some (.own e l))).jO (16*s+14) (some (.gh τ y q (16*s+13)))) K
    |_=>none) none
   |_=>none
  |_=>none
 |(s,.same s')::r,σ,acc,K=>match σ.T s,σ.T s',acc.T s' with
  | .ref i,.ref j,.ref j'=>cond (Nat.beq i j) (g8 r σ (acc.put s (.ref j')) K) none
  |_,_,_=>none
 |(s,.io τ)::r,σ,acc,K=>match σ.T s with
  | .jn id []=>cond (Nat.beq id (16*s+15)) (match σ.H id with
   |some (.obj υ x)=>c7 υ τ x λy=>g8 r (σ.jO id (some .gone)) ((acc.put s (.jn (16*s+15) [])).jO (16*s+15) (some (.obj τ y))) K
   |_=>none) none
  |_=>none
 |(s,.fn f τ)::r,σ,acc,K=>match σ.T s with
  | .Mf f' c=>cond (Nat.beq f f') (qO σ.H τ c λx _ ups=>match ups with
   |[]=>g8 r σ (acc.put s (.Mf f (pM τ x))) K
   |_=>none) none
  |_=>none
def ka:List (Nat×CM)→Bool
 |[]=>true
 |q::r=>r.all (λp=> !(Nat.beq p.1 q.1))&&ka r
def wa(L:Option (List (Nat×CM)))(σ:St)(K:St→Option α):Option α:=
 match L with
 |none=>K σ
 |some L=>g8 L σ ⟨λ_=> .any,λ_=>none⟩ K
def Ck(L:Option (List (Nat×CM)))(step:St→(St→Option α)→Option α):Nat→St→Option α
 |0,_=>none
 |n+1,σ=>step σ fun σ'=>wa L σ' (Ck L step n)
def cL:Code→Option Nat
 | .region id _ _=>some id
 | .seq a b=>match cL a with
  |some i=>some i
  |none=>cL b
 | .block _ c| .loop c| .scope c=>cL c
 |_=>none
def H5(E:Env)(c:Operand)(σ:St)(A B:St→Option α):Option α:=
 match σ.ρ c with
 | .val .bool b=>match c with
  | .tmp t=>cond b (A (σ.put t (.val .bool true))) (B (σ.put t (.val .bool false)))
  |_=>cond b (A σ) (B σ)
 |_=>none
def DQ(E:Env)(c:Code):St→(St→Option α)→(Nat→St→Option α)→(St→Option α)→Option α:=
 Code.rec (motive:=λ_=>St→(St→Option α)→(Nat→St→Option α)→(St→Option α)→Option α)
  (fun σ k _ _=>k σ)
  (λ_ ops draw σ k _ _=>DP E ops draw σ k)
  (λ_ b A B σ k kx kr=>A σ (fun σ'=>wa ((cL b).bind E.xT) σ' λvq=>B vq k kx kr) kx kr)
  (λc _ _ A B σ k kx kr=>H5 E c σ (fun σ'=>A σ' k kx kr) (fun σ'=>B σ' k kx kr))
  (λid _ A σ k kx kr=>A σ k (λi σ'=>cond (Nat.beq i id) (k σ') (kx i σ')) kr)
  (λb A σ _ kx kr=>wa ((cL b).bind E.vW) σ (Ck ((cL b).bind E.vW) (fun σ' kn=>A σ' kn kx kr) E.N))
  (λ_ _ _ _ _ _ _ _ _ _=>none)
  (λid σ _ kx _=>kx id σ)
  (λ_ A σ k kx kr=>A σ k kx kr)
  (λ_ σ k _ _=>k σ)
  (λ_ _ _ _ _=>none)
  (fun σ _ _ kr=>kr σ)
  (λ_ _ _ _ _=>none)
  c
def vr(E:Env):List Nat→Code→List (St→Option α)→St→(St→Option α)→(Nat→St→Option α)→(St→Option α)→Option α
 |[],c,_,σ,k,kx,kr=>DQ E c σ k kx kr
 |n::p,c,ks,σ,k,kx,kr=>match c with
  | .seq a b=>match n with
   |0=>vr E p a ks σ (fun σ'=>wa ((cL b).bind E.xT) σ' λvq=>DQ E b vq k kx kr) kx kr
   |_=>vr E p b ks σ k kx kr
  | .cond _ a b=>match n with
   |0=>vr E p a ks σ k kx kr
   |_=>vr E p b ks σ k kx kr
  | .block id c=>vr E p c ks σ k (λi σ'=>cond (Nat.beq i id) (k σ') (kx i σ')) kr
  | .loop b=>match ks with
   |κ::ks=>vr E p b ks σ κ kx kr
   |[]=>none
  | .scope c=>vr E p c ks σ k kx kr
  |_=>none
def PZ(m:AM)(x:m.den)(i:Nat)(σ:St):St:=
 match m,x with
 | .v τ,x=>σ.put i (.val τ x)
 | .own e,x=>(σ.put i (.ref (16*i+15))).jO (16*i+15) (some (.own e x))
 | .io τ,x=>(σ.put i (.jn (16*i+15) [])).jO (16*i+15) (some (.obj τ x))
 | .fn f τ,x=>σ.put i (.Mf f (pM τ x))
 | .ptr _,_=>σ
 | .jn τ,x=>σ.put i (.qM τ x)
 | .lo e,x=>(σ.put i (.ref (16*i+15))).jO (16*i+15) (some (.own e x))
def entry:(ms:List AM)→HP ms→Nat→St→St
 |[],_,_,σ=>σ
 |[m],x,i,σ=>PZ m x i σ
 |m::n::ms,x,i,σ=>entry (n::ms) x.2 (i+1) (PZ m x.1 i σ)
def H6(E:Env)(m:AM)(r:ResultVar ⊕ Nat)(σ:St)(K:m.den→St→Option α):Option α:=
 match m,r,K with
 | .v τ,.inl (.tmp t),K=>lV true (σ.T t) σ.H τ λx _ ups=>K x (σ.vU ups)
 | .v τ,.inl (.cell a t),K=>match E.ty t with
  |some τ'=>m2 τ' τ (kU (σ.T a) σ.H fun υ y _=>c7 υ τ y λx=>K x σ)
  |none=>none
 | .own e,.inl (.tmp t),K=>match σ.T t with
  | .emp=>K [] σ
  | .ref id=>match σ.H id with
   |some (.own e' l)=>c7 (.slice e') (.slice e) l λx=>K x (σ.jO id (some .gone))
   |_=>none
  |_=>none
 | .io τ,.inr i,K=>match σ.T i with
  | .jn id []=>match σ.H id with
   |some (.obj υ x)=>c7 υ τ x λy=>K y (σ.jO id (some .gone))
   |_=>none
  |_=>none
 | .lo e,.inr i,K=>match σ.T i with
  | .ref id=>match σ.H id with
   |some (.own e' l)=>c7 (.slice e') (.slice e) l λx=>K x (σ.jO id (some .gone))
   |_=>none
  |_=>none
 | .ptr τ,.inl (.tmp t),K=>match σ.T t with
  | .jn id []=>match σ.H id with
   |some (.obj υ x)=>c7 υ τ x λy=>K y (σ.jO id (some .gone))
   |_=>none
  |_=>none
 |_,_,_=>none
def JO(E:Env):(ms:List AM)→List (ResultVar ⊕ Nat)→St→(HP ms→Option α)→Option α
 |[],[],_,K=>K ()
 |[m],[r],σ,K=>H6 E m r σ λx _=>K x
 |m::n::ms,r::rs,σ,K=>H6 E m r σ λx σ'=>JO E (n::ms) rs σ' λxs=>K (x,xs)
 |_,_,_,_=>none
def yE:List AM→Nat→List (ResultVar ⊕ Nat)
 |[],_=>[]
 | .io _::ms,i=> .inr i::yE ms (i+1)
 | .lo _::ms,i=> .inr i::yE ms (i+1)
 |_::ms,i=>yE ms (i+1)
def PJ(E:Env)(fn:Func)(args res:List AM)(x:HP args):Option (HP res):=
 match fn.body with
 |none=>none
 |some c=>
  let kr:St→Option (HP res):=fun σ=>JO E res (fn.results.toList.map .inl++yE args 0) σ some
  DQ E c (entry args x 0 ⟨λ_=> .any,λ_=>none⟩) kr (λ_ _=>none) kr
end
end VM
end
section
namespace VM
open Go
def ym(N:Nat)(x y c:Int):Option (Int×Int):=if 0≤x∧0≤y∧0≤c∧c≤1 then some ((x+y+c)%18446744073709551616,(x+y+c)/18446744073709551616)else none
def vb(N:Nat)(x y c:Int):Option (Int×Int):=if 0≤x∧x<18446744073709551616∧0≤y∧y<18446744073709551616∧0≤c∧c≤1 then some ((x+18446744073709551616-y-c)%18446744073709551616,if x<y+c then 1 else 0)else none
def pX{α:Type}(N:Nat)(l:List α)(i:Int)(v:List α):Option (List α):=if 0≤i∧i≤l.length∧v.length=1∧l.length+1<zK then some (l.take i.toNat++(v++l.drop i.toNat))else none
def Zg{α:Type}(N:Nat)(l:List α)(n:Int):Option (List α):=match l with
 |[x]=>if 0<n∧n<1048576 then some (List.replicate n.toNat x)else none
 |_=>none
def ym.S(N:Nat):lW:={args:=[.v (.int .u64),.v (.int .u64),.v (.int .u64)],res:=[.v (.int .u64),.v (.int .u64)],quiet:=true,run:=λx=>ym N x.1 x.2.1 x.2.2}
def vb.S(N:Nat):lW:={args:=[.v (.int .u64),.v (.int .u64),.v (.int .u64)],res:=[.v (.int .u64),.v (.int .u64)],quiet:=true,run:=λx=>vb N x.1 x.2.1 x.2.2}
def lS(e:Ty)(N:Nat):lW:={args:=[.own e,.v (.int .i64),.own e],res:=[.own e],quiet:=false,run:=λx=>pX N x.1 x.2.1 x.2.2}
def apZ(e:Ty)(N:Nat):lW:={args:=[.v (.slice e),.v (.int .i64)],res:=[.own e],quiet:=false,run:=λx=>Zg N x.1 x.2}
def n0{α:Type}(N:Nat)(l:List α):Option (List α):=if l.length<zK then some l else none
def wb(e:Ty)(N:Nat):lW:={args:=[.v (.slice e)],res:=[.own e],quiet:=false,run:=λx=>n0 N x}
end VM
namespace VM
abbrev cD:Int×Int×Unit:=((0:Int),((0:Int),()))
abbrev ck:List (Int×Int×Unit):=[]
abbrev bl:Int×Int×Int×Unit:=((0:Int),((0:Int),((0:Int),())))
abbrev bG:List (Int×Int×Int×Unit):=[]
abbrev aV:Int×Int×Int×Int×Unit:=((0:Int),((0:Int),((0:Int),((0:Int),()))))
abbrev c8:List (Int×Int×Int×Int×Unit):=[]
abbrev mI:Int×Int×Int×Int×Int×Unit:=((0:Int),((0:Int),((0:Int),((0:Int),((0:Int),())))))
abbrev De:List (Int×Int×Int×Int×Int×Unit):=[]
abbrev fa:Int×Int×Int×Int×Int×Int×Unit:=((0:Int),((0:Int),((0:Int),((0:Int),((0:Int),((0:Int),()))))))
abbrev dQ:List (Int×Int×Int×Int×Int×Int×Unit):=[]
abbrev Lw:Int×Int×Int×Int×Int×Int×Int×Unit:=((0:Int),((0:Int),((0:Int),((0:Int),((0:Int),((0:Int),((0:Int),())))))))
abbrev ee7:List (Int×Int×Int×Int×Int×Int×Int×Unit):=[]
abbrev zz8:Int×Int×Int×Int×Int×Int×Int×Int×Unit:=((0:Int),((0:Int),((0:Int),((0:Int),((0:Int),((0:Int),((0:Int),((0:Int),()))))))))
abbrev ee8:List (Int×Int×Int×Int×Int×Int×Int×Int×Unit):=[]
abbrev dC:List Int:=[]
abbrev pq:List Int×Unit:=(dC,())
end VM
end
section
namespace VM
open Go
def At(w:World)(b off:Nat)(cs:List Value):Prop:= ∀j v,cs[j]? =some v→w.cell? ⟨b,off+j,none⟩=some v
def Rd(w:World)(M:Nat→Prop):(τ:Ty)→List Value→τ.den→Prop
 | .int k,cs,x=>cs=[.int k x]
 | .bool,cs,x=>cs=[.bool x]
 | .str,cs,x=>cs=[.string x]
 | .slice e,cs,x=> ∃a cap,cs=[.slice a (List.length x) cap]∧List.length x≤cap∧
  ∀i (h:i<List.length x),∃b off,a=some ⟨b,off,none⟩∧b<w.heap.size∧ ¬M b∧ ∃cs',At w b (off+i*e.size) cs'∧Rd w M e cs' (List.get x ⟨i,h⟩)
 | .unit,cs,_=>cs=[]
 | .pair a b,cs,x=> ∃c1 c2,cs=c1++c2∧Rd w M a c1 x.1∧Rd w M b c2 x.2
 | .arr n e,cs,x=>List.length x=n∧ ∃SZ:List (List Value),SZ.length=n∧cs=SZ.flatten∧
  ∀i (h:i<List.length x) (h':i<SZ.length),Rd w M e SZ[i] (List.get x ⟨i,h⟩)
theorem oW{α:Type}(n:Nat): ∀(l:List (List α)),(∀i (h:i<l.length),l[i].length=n)→l.flatten.length=l.length*n
 |[],_=>by simp
 |a::l,h=>by
  have h0:=h 0 (by simp)
  have ih:=oW n l (λi hi=>h (i+1) (by simp;omega))
  simp only[Ei]at h0
  simp only[zv,aS,aR,ih,h0,et]
  omega
theorem Rd.length{w:World}{M:Nat→Prop}: ∀{τ:Ty} {cs:List Value} {x:τ.den},Rd w M τ cs x→cs.length=τ.size
 | .int _,_,_,h=>by simp only[Rd]at h;subst h;rfl
 | .bool,_,_,h=>by simp only[Rd]at h;subst h;rfl
 | .str,_,_,h=>by simp only[Rd]at h;subst h;rfl
 | .slice _,_,_,h=>by simp only[Rd]at h;obtain⟨a,cap,rfl,_⟩:=h;rfl
 | .unit,_,_,h=>by simp only[Rd]at h;subst h;rfl
 | .pair a b,_,_,h=>by
  simp only[Rd]at h
  obtain⟨c1,c2,rfl,h1,h2⟩:=h
  rw[aS,h1.length,h2.length];rfl
 | .arr n e,_,x,h=>by
  simp only[Rd]at h
  obtain⟨hn,SZ,hc,rfl,hr⟩:=h
  rw[oW e.size SZ (λi hi=>(hr i ω hi).length),hc];rfl
structure e8(w:World)(M:Nat→Prop)(w':World)(M':Nat→Prop):Prop where
 size:w.heap.size≤w'.heap.size
 block: ∀b,b<w.heap.size→ ¬M b→w'.heap[b]? =w.heap[b]?
 less: ∀b,b<w.heap.size→M' b→M b
theorem agN{w:World}{b o:Nat}{v:Value}(h:w.cell? ⟨b,o,none⟩=some v):b<w.heap.size:=by
 simp only[World.cell?]at h
 rcases oU b w.heap.size with hb|hb
 ·exact hb
 ·simp[L1 hb]at h
theorem At.ca{w w':World}{b off:Nat}{cs:List Value}(h:At w b off cs)(hb:w'.heap[b]? =w.heap[b]?):At w' b off cs:=by
 intro j v hj
 have:=h j v hj
 rw[World.cell?_of_block (w:=w) hb]
 exact this
theorem At.append{w:World}{b off:Nat}{c1 c2:List Value}:At w b off (c1++c2)↔At w b off c1∧At w b (off+c1.length) c2:=by
 constructor
 ·intro h
  refine⟨λj v hj=>h j v (by rw[sf];exact hj;exact(tW.1 hj).1),λj v hj=> ?_⟩
  have:=h (c1.length+j) v (by rw[oF ω];simpa using hj)
  rw[oT];exact this
 ·rintro⟨h1,h2⟩ j v hj
  by_cases e9:j<c1.length
  ·rw[sf e9]at hj;exact h1 j v hj
  ·rw[oF ω]at hj
   have:=h2 (j-c1.length) v hj
   rwa [show off+c1.length+(j-c1.length)=off+j from by omega]at this
theorem Rd.ca{w w':World}{M M':Nat→Prop}(k:e8 w M w' M'): ∀{τ:Ty} {cs:List Value} {x:τ.den},Rd w M τ cs x→Rd w' M' τ cs x
 | .int _,_,_,h=>h
 | .bool,_,_,h=>h
 | .str,_,_,h=>h
 | .slice e,_,x,h=>by
  simp only[Rd]at h ⊢
  obtain⟨a,cap,rfl,hc,hr⟩:=h
  refine⟨a,cap,rfl,hc,λi hi=> ?_⟩
  obtain⟨b,off,ha,hb,hm,cs',pY,kV⟩:=hr i hi
  exact⟨b,off,ha,mT hb k.size,λh'=>hm (k.less b hb h'),_,pY.ca (k.block b hb hm),kV.ca k⟩
 | .unit,_,_,h=>h
 | .pair a b,_,_,h=>by
  simp only[Rd]at h ⊢
  obtain⟨c1,c2,rfl,h1,h2⟩:=h
  exact⟨c1,c2,rfl,h1.ca k,h2.ca k⟩
 | .arr n e,_,x,h=>by
  simp only[Rd]at h ⊢
  obtain⟨hn,SZ,hc,rfl,hr⟩:=h
  exact⟨hn,SZ,hc,rfl,λi hi m4=>(hr i hi m4).ca k⟩
theorem e8.refl(w:World)(M:Nat→Prop):e8 w M w M:=⟨aG _,λ_ _ _=>rfl,λ_ _ h=>h⟩
theorem e8.trans{w w' w'':World}{M M' PK:Nat→Prop}(h:e8 w M w' M')(k:e8 w' M' w'' PK):e8 w M w'' PK:=
 ⟨cm h.size k.size,λb hb hm=>(k.block b (mT hb h.size) (λh'=>hm (h.less b hb h'))).trans (h.block b hb hm),
  λb hb hm=>h.less b hb (k.less b (mT hb h.size) hm)⟩
def V(w:World)(M:Nat→Prop)(τ:Ty)(v:Value)(x:τ.den):Prop:=
 if τ.isAgg then ∃cs,v= .agg cs∧Rd w M τ cs.toList x else Rd w M τ [v] x
theorem V.ca{w w':World}{M M':Nat→Prop}(k:e8 w M w' M'){τ:Ty}{v:Value}{x:τ.den}(h:V w M τ v x):V w' M' τ v x:=by
 unfold V at*
 split
 ·rename_i ha;rw[aj ha]at h;obtain⟨cs,rfl,h⟩:=h;exact⟨cs,rfl,h.ca k⟩
 ·rename_i ha;rw[ah ha]at h;exact h.ca k
theorem Rd.scalar{w:World}{M:Nat→Prop}{τ:Ty}{cs:List Value}{x:τ.den}(ha:τ.isAgg=false)(h:Rd w M τ cs x): ∃v,cs=[v]∧v.cells= #[v]:=by
 cases τ<;>simp only[Ty.isAgg,Bool.true_eq_false]at ha<;>simp only[Rd]at h
 ·exact⟨_,h,rfl⟩
 ·exact⟨_,h,rfl⟩
 ·exact⟨_,h,rfl⟩
 ·obtain⟨a,cap,rfl,_⟩:=h;exact⟨_,rfl,rfl⟩
theorem V.cells{w:World}{M:Nat→Prop}{τ:Ty}{v:Value}{x:τ.den}(h:V w M τ v x):Rd w M τ v.cells.toList x:=by
 unfold V at h
 by_cases ha:τ.isAgg=true
 ·rw[aj ha]at h;obtain⟨cs,rfl,h⟩:=h;exact h
 ·rw[ah ha]at h
  obtain⟨v',hv,hc⟩:=h.scalar (by simpa using ha)
  simp only[fh,eS]at hv
  subst hv
  rw[hc];exact h
def cK(τ:Ty)(cs:List Value):Value:=if τ.isAgg then .agg cs.toArray else cs.headD (.tuple #[])
theorem V.cK{w:World}{M:Nat→Prop}{τ:Ty}{cs:List Value}{x:τ.den}(h:Rd w M τ cs x):V w M τ (cK τ cs) x:=by
 unfold V VM.cK
 by_cases ha:τ.isAgg=true
 ·rw[aj ha,aj ha];exact⟨_,rfl,by simpa using h⟩
 ·rw[ah ha,ah ha]
  obtain⟨v',rfl,_⟩:=h.scalar (by simpa using ha)
  exact h
theorem Hg{w:World}{M:Nat→Prop}{τ:Ty}{cs:List Value}{x:τ.den}(h:Rd w M τ cs x):(cK τ cs).cells.toList=cs:=by
 unfold VM.cK
 by_cases ha:τ.isAgg=true
 ·rw[aj ha];simp[Value.cells]
 ·rw[ah ha]
  obtain⟨v',rfl,hc⟩:=h.scalar (by simpa using ha)
  simp[hc]
theorem Rd.oI{w:World}{M:Nat→Prop}: ∀{τ:Ty} {cs:List Value} {x:τ.den},Rd w M τ cs x→ ∀v∈cs,v.oneCell'=true
 | .int _,_,_,h=>by simp only[Rd]at h;subst h;simp[Value.oneCell']
 | .bool,_,_,h=>by simp only[Rd]at h;subst h;simp[Value.oneCell']
 | .str,_,_,h=>by simp only[Rd]at h;subst h;simp[Value.oneCell']
 | .slice _,_,_,h=>by simp only[Rd]at h;obtain⟨a,cap,rfl,_⟩:=h;simp[Value.oneCell']
 | .unit,_,_,h=>by simp only[Rd]at h;subst h;simp
 | .pair a b,_,_,h=>by
  simp only[Rd]at h
  obtain⟨c1,c2,rfl,h1,h2⟩:=h
  intro v hv
  rcases a8.1 hv with hv|hv
  ·exact h1.oI v hv
  ·exact h2.oI v hv
 | .arr n e,_,x,h=>by
  simp only[Rd]at h
  obtain⟨hn,SZ,hc,rfl,hr⟩:=h
  intro v hv
  obtain⟨l,hl,hvl⟩:=List.mem_flatten.1 hv
  obtain⟨i,hi,rfl⟩:=qy.1 hl
  exact(hr i ω hi).oI v hvl
def Ty.di:Ty→List Value
 | .int k=>[.int k 0]
 | .bool=>[.bool false]
 | .str=>[.string ByteArray.empty]
 | .slice _=>[.slice none 0 0]
 | .unit=>[]
 | .pair a b=>a.di++b.di
 | .arr n e=>(List.replicate n e.di).flatten
theorem Rd.zero(w:World)(M:Nat→Prop): ∀(τ:Ty),Rd w M τ τ.di τ.zero
 | .int _| .bool| .str| .unit=>by simp[Rd,Ty.di,Ty.zero]
 | .slice _=>by
  simp only[Rd,Ty.di,Ty.zero]
  exact⟨none,0,rfl,aG _,λi h=>absurd h (by simp)⟩
 | .pair a b=>by
  simp only[Rd,Ty.di,Ty.zero]
  exact⟨_,_,rfl,Rd.zero w M a,Rd.zero w M b⟩
 | .arr n e=>by
  simp only[Rd,Ty.di,Ty.zero]
  refine⟨by simp,_,by simp,rfl,λi h h'=> ?_⟩
  simp only[L4,El]
  exact Rd.zero w M e
end VM
end
section
namespace VM
open Go
def JP(P:Program)(τ:Ty)(t:TypeId):Prop:=
 ∃i,P.info? t=some i∧i.size=τ.size∧i.zero=some (cK τ τ.di)∧i.bytes≤2048
def fT(P:Program):Ty→TypeId ⊕ (Array Field×Nat×Nat)→Prop
 | .int k,.inl t=>JP P (.int k) t∧P.underlying t=some (.int k)
 | .bool,.inl t=>JP P .bool t∧P.underlying t=some .bool
 | .str,.inl t=>JP P .str t∧P.underlying t=some .string
 | .slice e,.inl t=>JP P (.slice e) t∧ ∃e',P.underlying t=some (.slice e')∧fT P e (.inl e')
 | .arr n e,.inl t=>JP P (.arr n e) t∧ ∃e',P.underlying t=some (.array n e')∧fT P e (.inl e')
 | .unit,.inl t=>JP P .unit t∧ ∃fs,P.underlying t=some (.struct fs)∧fs.size=0
 | .unit,.inr (fs,n,_)=>fs.size=n
 | .pair a b,.inl t=>JP P (.pair a b) t∧ ∃fs f,P.underlying t=some (.struct fs)∧fs[0]? =some f∧f.offset=0∧fT P a (.inl f.type)∧fT P b (.inr (fs,1,a.size))
 | .pair a b,.inr (fs,n,off)=> ∃f,fs[n]? =some f∧f.offset=off∧fT P a (.inl f.type)∧fT P b (.inr (fs,n+1,off+a.size))
 |_,.inr _=>False
def kH(P:Program)(τ:Ty)(t:TypeId):Prop:=fT P τ (.inl t)
theorem kH.base{P:Program}{τ:Ty}{t:TypeId}(h:kH P τ t):JP P τ t:=by
 unfold kH at h;cases τ<;>simp only[fT]at h<;>exact h.1
theorem kH.int{P:Program}{k:IntKind}{t:TypeId}(h:kH P (.int k) t):P.underlying t=some (.int k):=by simp only[kH,fT]at h;exact h.2
theorem kH.bool{P:Program}{t:TypeId}(h:kH P .bool t):P.underlying t=some .bool:=by simp only[kH,fT]at h;exact h.2
theorem kH.str{P:Program}{t:TypeId}(h:kH P .str t):P.underlying t=some .string:=by simp only[kH,fT]at h;exact h.2
theorem kH.slice{P:Program}{e:Ty}{t:TypeId}(h:kH P (.slice e) t): ∃e',P.underlying t=some (.slice e')∧kH P e e':=by simp only[kH,fT]at h;exact h.2
theorem kH.arr{P:Program}{n:Nat}{e:Ty}{t:TypeId}(h:kH P (.arr n e) t): ∃e',P.underlying t=some (.array n e')∧kH P e e':=by simp only[kH,fT]at h;exact h.2
theorem kH.isSome{P:Program}{τ:Ty}{t:TypeId}(h:kH P τ t):(P.underlying t).isSome=true:=by
 unfold kH at h
 cases τ<;>simp only[fT]at h
 ·simp[h.2]
 ·simp[h.2]
 ·simp[h.2]
 ·obtain⟨_,e',h',_⟩:=h;simp[h']
 ·obtain⟨_,e',h',_⟩:=h;simp[h']
 ·obtain⟨_,e',f,h',_⟩:=h;simp[h']
 ·obtain⟨_,e',h',_⟩:=h;simp[h']
inductive Df:(τ:Ty)→τ.den→Nat→(υ:Ty)→υ.den→Nat→Prop where
 |here {a b:Ty} (x:(Ty.pair a b).den):Df (.pair a b) x 0 a x.1 0
 |there {a b:Ty} (x:(Ty.pair a b).den) {n:Nat} {υ:Ty} {y:υ.den} {o:Nat} (h:Df b x.2 n υ y o):Df (.pair a b) x (n+1) υ y (a.size+o)
theorem tj{α:Type}{r:α}: ∀{τ:Ty} {x:τ.den} {n:Nat} {k:(υ:Ty)→υ.den→Option α},xS τ x n k=some r→ ∃υ y o,Df τ x n υ y o∧k υ y=some r
 | .pair a b,x,0,k,h=>⟨a,x.1,0,.here x,h⟩
 | .pair a b,x,n+1,k,h=>by
  obtain⟨υ,y,o,hf,hk⟩:=tj (τ:=b) (x:=x.2) (n:=n) (k:=k) h
  exact⟨υ,y,_,.there x hf,hk⟩
 | .int _,_,_,_,h| .bool,_,_,_,h| .str,_,_,_,h| .slice _,_,_,_,h| .unit,_,_,_,h| .arr _ _,_,_,_,h=>by simp[xS]at h
theorem Df.bound{τ:Ty}{x:τ.den}{n:Nat}{υ:Ty}{y:υ.den}{o:Nat}(h:Df τ x n υ y o):o+υ.size≤τ.size:=by
 induction h with
 |here x=>simp[Ty.size]
 |there x h ih=>simp only[Ty.size];omega
theorem Df.rd{w:World}{M:Nat→Prop}{τ:Ty}{x:τ.den}{n:Nat}{υ:Ty}{y:υ.den}{o:Nat}(h:Df τ x n υ y o):
  ∀{cs:List Value},Rd w M τ cs x→Rd w M υ ((cs.drop o).take υ.size) y:=by
 induction h with
 |here x=>
  intro cs hr
  simp only[Rd]at hr
  obtain⟨c1,c2,rfl,h1,_⟩:=hr
  rw[cZ,vN h1.length];exact h1
 |there x h ih=>
  intro cs hr
  simp only[Rd]at hr
  obtain⟨c1,c2,rfl,h1,h2⟩:=hr
  rw[←jG,mX h1.length]
  exact ih h2
theorem fT.kC{P:Program}{τ:Ty}{x:τ.den}{m:Nat}{υ:Ty}{y:υ.den}{o:Nat}(h:Df τ x m υ y o):
  ∀{fs:Array Field} {n off:Nat},fT P τ (.inr (fs,n,off))→ ∃f,fs[n+m]? =some f∧f.offset=off+o∧kH P υ f.type:=by
 induction h with
 |here x=>
  intro fs n off hl
  simp only[fT]at hl
  obtain⟨f,hf,ho,ha,_⟩:=hl
  exact⟨f,hf,by simpa using ho,ha⟩
 |there x h ih=>
  intro fs n off hl
  simp only[fT]at hl
  obtain⟨f,hf,ho,_,hb⟩:=hl
  obtain⟨f',zN,ho',JQ⟩:=ih hb
  exact⟨f',by rw[←zN];congr 1;omega,ω,JQ⟩
theorem kH.kC{P:Program}{τ:Ty}{t:TypeId}{x:τ.den}{m:Nat}{υ:Ty}{y:υ.den}{o:Nat}(hl:kH P τ t)(h:Df τ x m υ y o):
  ∃fs f,P.underlying t=some (.struct fs)∧fs[m]? =some f∧f.offset=o∧kH P υ f.type:=by
 unfold kH at hl
 cases h with
 |here x=>
  simp only[fT]at hl
  obtain⟨_,fs,f,hu,hf,ho,ha,_⟩:=hl
  exact⟨fs,f,hu,hf,ho,ha⟩
 |there x h=>
  simp only[fT]at hl
  obtain⟨_,fs,f,hu,hf,ho,_,hb⟩:=hl
  obtain⟨f',zN,ho',JQ⟩:=fT.kC h hb
  exact⟨fs,f',hu,by rw[←zN];congr 1;omega,ω,JQ⟩
inductive JR:List Step→(τ:Ty)→τ.den→(υ:Ty)→υ.den→Nat→Prop where
 |nil {τ:Ty} (x:τ.den):JR [] τ x τ x 0
 |kC {p:List Step} {τ υ σ:Ty} {x:τ.den} {n o:Nat} {y:υ.den} {z:σ.den} {q:Nat} (h:Df τ x n υ y o) (r:JR p υ y σ z q):JR (.kC n::p) τ x σ z (o+q)
 |idx {p:List Step} {n:Nat} {e σ:Ty} {x:(Ty.arr n e).den} {i:Nat} {z:σ.den} {q:Nat} (r:JR p e (List.getD x i e.zero) σ z q):JR (.idx i::p) (.arr n e) x σ z (i*e.size+q)
theorem kb{α:Type}{r:α}: ∀{p:List Step} {τ:Ty} {x:τ.den} {k:(υ:Ty)→υ.den→Option α},zM p τ x k=some r→ ∃υ y o,JR p τ x υ y o∧k υ y=some r
 |[],τ,x,k,h=>⟨τ,x,0,.nil x,h⟩
 | .kC n::p,τ,x,k,h=>by
  obtain⟨υ,y,o,hf,h'⟩:=tj (h:xS τ x n _=some r)
  obtain⟨σ,z,q,hp,hk⟩:=kb h'
  exact⟨σ,z,_,.kC hf hp,hk⟩
 | .idx i::p,τ,x,k,h=>by
  cases τ with
  |arr n e=>
   obtain⟨σ,z,q,hp,hk⟩:=kb (p:=p) (τ:=e) (x:=List.getD x i e.zero) (k:=k) h
   exact⟨σ,z,_,.idx hp,hk⟩
  |_=>simp[zM,agM]at h
def vt:Ty→Nat→Ty
 | .pair a b,n=>match n with|0=>a|n+1=>vt b n
 |τ,_=>τ
def rP:Ty→Nat→Nat
 | .pair a b,n=>match n with|0=>0|n+1=>a.size+rP b n
 |_,_=>0
def elT:Ty→Ty
 | .arr _ e=>e
 |τ=>τ
def Hh:List Step→Ty→Ty
 |[],τ=>τ
 | .kC n::p,τ=>Hh p (vt τ n)
 | .idx _::p,τ=>Hh p (elT τ)
def cE:List Step→Ty→Nat
 |[],_=>0
 | .kC n::p,τ=>rP τ n+cE p (vt τ n)
 | .idx i::p,τ=>i*(elT τ).size+cE p (elT τ)
def xU:List Step→Ty→Prop
 |[],_=>True
 | .kC n::p,τ=>xU p (vt τ n)
 | .idx i::p,τ=>(∃n e,τ= .arr n e∧i<n)∧xU p (elT τ)
theorem Df.eq{τ:Ty}{x:τ.den}{n:Nat}{υ:Ty}{y:υ.den}{o:Nat}(h:Df τ x n υ y o):υ=vt τ n∧o=rP τ n:=by
 induction h with
 |here x=>exact⟨rfl,rfl⟩
 |there x h ih=>obtain⟨rfl,rfl⟩:=ih;exact⟨rfl,rfl⟩
theorem JR.eq{p:List Step}{τ:Ty}{x:τ.den}{υ:Ty}{y:υ.den}{o:Nat}(h:JR p τ x υ y o):υ=Hh p τ∧o=cE p τ:=by
 induction h with
 |nil x=>exact⟨rfl,rfl⟩
 |kC h r ih=>
  obtain⟨h1,h2⟩:=h.eq
  obtain⟨h3,h4⟩:=ih
  subst h1 h2 h3 h4
  exact⟨rfl,rfl⟩
 |idx r ih=>
  obtain⟨h3,h4⟩:=ih
  subst h3 h4
  exact⟨rfl,rfl⟩
theorem agP(p q:List Step): ∀τ,Hh (p++q) τ=Hh q (Hh p τ):=by
 induction p with
 |nil=>intro τ;rfl
 |cons s p ih=>intro τ;cases s<;>simp[Hh,ih]
theorem sj(p q:List Step): ∀τ,cE (p++q) τ=cE p τ+cE q (Hh p τ):=by
 induction p with
 |nil=>intro τ;simp[cE,Hh]
 |cons s p ih=>intro τ;cases s<;>simp[cE,Hh,ih,oT]
theorem sl(p q:List Step): ∀τ,xU (p++q) τ↔xU p τ∧xU q (Hh p τ):=by
 induction p with
 |nil=>intro τ;simp[xU,Hh]
 |cons s p ih=>intro τ;cases s<;>simp[xU,Hh,ih,and_assoc]
theorem kI{α:Type}(l:List α)(i:Nat)(d:α)(h:i<l.length):l.getD i d=l[i]:=by simp[List.getD,bk h]
theorem zO{α:Type}(n:Nat): ∀(l:List (List α)) (i:Nat) (h:i<l.length),(∀j (hj:j<l.length),l[j].length=n)→(l.flatten.drop (i*n)).take n=l[i]
 |a::l,0,_,hn=>by
  have:=hn 0 (by simp)
  simp only[Ei]at this
  simp[←this]
 |a::l,i+1,h,hn=>by
  have h0:=hn 0 (by simp)
  simp only[Ei]at h0
  rw[zv,et,jV,Nat.add_comm (i*n) n,←jG,mX h0]
  exact zO n l i (by simpa using h) (λj hj=>hn (j+1) (by simp;omega))
theorem Rd.idx{w:World}{M:Nat→Prop}{n:Nat}{e:Ty}{cs:List Value}{x:(Ty.arr n e).den}(h:Rd w M (.arr n e) cs x){i:Nat}(hi:i<n):
  Rd w M e ((cs.drop (i*e.size)).take e.size) (List.getD x i e.zero):=by
 simp only[Rd]at h
 obtain⟨hn,SZ,hc,rfl,hr⟩:=h
 rw[zO e.size SZ i ω (λj hj=>(hr j ω hj).length),kI x i e.zero ω]
 exact hr i ω ω
theorem JR.bound{p:List Step}{τ:Ty}{x:τ.den}{υ:Ty}{y:υ.den}{o:Nat}(h:JR p τ x υ y o):xU p τ→o+υ.size≤τ.size:=by
 induction h with
 |nil x=>intro _;simp
 |kC h r ih=>
  intro hi
  obtain⟨h1,h2⟩:=h.eq
  subst h1
  have:=ih hi
  have:=h.bound
  omega
 | @idx p n e σ x i z q r ih=>
  intro hi
  obtain⟨⟨n',e',he,lT⟩,m4⟩:=hi
  cases he
  have:=ih m4
  have h2:(i+1)*e.size≤n*e.size:=lL _ lT
  rw[et]at h2
  simp only[Ty.size]
  omega
theorem JR.rd{w:World}{M:Nat→Prop}{p:List Step}{τ:Ty}{x:τ.den}{υ:Ty}{y:υ.den}{o:Nat}(h:JR p τ x υ y o):
  xU p τ→ ∀{cs:List Value},Rd w M τ cs x→Rd w M υ ((cs.drop o).take υ.size) y:=by
 induction h with
 |nil x=>intro _ cs hr;rw[cZ,jF (by rw[hr.length];exact aG _)];exact hr
 |kC h r ih=>
  intro hi cs hr
  obtain⟨h1,h2⟩:=h.eq
  subst h1
  have:=ih hi (h.rd hr)
  have hb:=JR.bound r hi
  rw[qE,jG,qF,iy ω]at this
  exact this
 | @idx p n e σ x i z q r ih=>
  intro hi cs hr
  obtain⟨⟨n',e',he,lT⟩,m4⟩:=hi
  cases he
  have:=ih m4 (hr.idx lT)
  have hb:=JR.bound r m4
  rw[qE,jG,qF,iy ω]at this
  exact this
def fb{α:Type}(cs:List α)(o:Nat)(new:List α):List α:=cs.take o++new++cs.drop (o+new.length)
theorem zP{α:Type}{a b:List α}{o:Nat}{new:List α}(h:o+new.length≤a.length):fb (a++b) o new=fb a o new++b:=by
 unfold fb
 rw[zm ω,zn ω]
 simp only[bt]
theorem xp{α:Type}{a b:List α}{o:Nat}{new:List α}:fb (a++b) (a.length+o) new=a++fb b o new:=by
 unfold fb
 rw[List.take_append,jF ω,zp,oT,List.drop_append,kE ω,zp]
 simp
theorem gD{α:Type}{a:List α}{o:Nat}{new:List α}(h:o+new.length≤a.length):(fb a o new).length=a.length:=by
 unfold fb;simp;omega
theorem JS{α:Type}{a:List α}{o i n:Nat}{new:List α}(h:i+n≤o∨o+new.length≤i)(hl:o+new.length≤a.length):((fb a o new).drop i).take n=(a.drop i).take n:=by
 apply zw
 intro j
 simp only[lO,lP]
 split
 ·rename_i hj
  unfold fb
  rcases h with h|h
  ·rw[bt,sf (by simp;omega),lO,aj ω]
  ·rw[oF (by simp;omega)]
   simp only[aS,cc,iy (show o≤a.length by omega),lP]
   congr 1;omega
 ·rfl
theorem agQ{α:Type}{a:List α}{o:Nat}{new:List α}(hl:o+new.length≤a.length):((fb a o new).drop o).take new.length=new:=by
 unfold fb
 rw[bt,mX (by simp;omega),vN rfl]
theorem Mn{α:Type}{l:List α}{o:Nat}{u:α}(h:l[o]? =some u):fb l o [u]=l:=by
 obtain⟨e9,rfl⟩:=tW.1 h
 unfold fb
 simp
theorem DR{α:Type}{l:List α}{o:Nat}{u:α}(h:o<l.length):(fb l o [u])[o]? =some u:=by
 unfold fb
 rw[bt,oF (by simp;omega)]
 simp[iy (Nat.le_of_lt h)]
theorem tk{τ:Ty}: ∀{n:Nat} {a:Ty},JK τ n=some a→ ∀x:τ.den,∃y o,Df τ x n a y o:=by
 induction τ with
 |pair a b _ Vr=>
  intro n c h x
  cases n with
  |zero=>cases h;exact⟨_,_,.here x⟩
  |succ n=>
   obtain⟨y,o,hf⟩:=Vr (n:=n) (a:=c) h x.2
   exact⟨y,_,.there x hf⟩
 |_=>intro n c h;simp[JK]at h
theorem tp: ∀{p:List Step} {τ υ:Ty},gM p τ υ=true→ ∀x:τ.den,∃y o,JR p τ x υ y o
 |[],τ,υ,h,x=>by
  have h:=bz h
  subst h
  exact⟨x,0,.nil x⟩
 | .kC n::p,τ,υ,h,x=>by
  unfold gM at h
  split at h
  ·rename_i a ha
   obtain⟨y,o,hf⟩:=tk ha x
   obtain⟨z,q,hp⟩:=tp h y
   exact⟨z,_,.kC hf hp⟩
  ·cases h
 | .idx _::_,_,_,h,_=>by simp[gM]at h
theorem kJ: ∀{p:List Step} {τ υ:Ty},gM p τ υ=true→xU p τ∧Hh p τ=υ
 |[],τ,υ,h=>⟨trivial,bz h⟩
 | .kC n::p,τ,υ,h=>by
  have h0:=h
  unfold gM at h
  split at h
  ·rename_i a ha
   obtain⟨y,o,hf⟩:=tk ha τ.zero
   obtain⟨h1,h2⟩:=kJ h
   have:=hf.eq.1
   subst this
   exact⟨h1,h2⟩
  ·cases h
 | .idx _::_,_,_,h=>by simp[gM]at h
theorem Bk: ∀{p q:List Step},Me p q=true→p=q
 |[],[],_=>rfl
 | .kC a::p,.kC b::q,h=>by
  simp only[Me,bQ]at h
  rw[fW h.1,Bk h.2]
 |[],_::_,h| .kC _::_,[],h| .idx _::_,_,h| .kC _::_,.idx _::_,h=>by simp[Me]at h
theorem Df.apart{τ:Ty}{x:τ.den}{n:Nat}{υ:Ty}{y:υ.den}{o:Nat}(h:Df τ x n υ y o): ∀{x':τ.den} {n':Nat} {υ':Ty} {y':υ'.den} {o':Nat},Df τ x' n' υ' y' o'→n≠n'→o+υ.size≤o'∨o'+υ'.size≤o:=by
 induction h with
 |here x=>
  intro x' n' υ' y' o' h' jy
  cases h' with
  |here=>exact absurd rfl jy
  |there _ h'=>left;omega
 |there x h ih=>
  intro x' n' υ' y' o' h' jy
  cases h' with
  |here=>right;omega
  |there _ h'=>rcases ih h' (λe=>jy (by rw[e]))with h1|h1<;>omega
theorem JR.apart{p:List Step}{τ:Ty}{x:τ.den}{υ:Ty}{y:υ.den}{o:Nat}(h:JR p τ x υ y o):xU p τ→ ∀{q:List Step} {e:Ty},gM q τ (.slice e)=true→xR p q=false→cE q τ<o∨o+υ.size≤cE q τ:=by
 induction h with
 |nil x=>intro _ q e _ h;simp[xR]at h
 | @kC p τ υ σ x n o y z q hf r ih=>
  intro hi q' e hq hp
  obtain⟨h1,h2⟩:=hf.eq
  subst h1 h2
  cases q' with
  |nil=>
   have:=bz hq
   subst this
   cases hf
  |cons s q'=>
   cases s with
   |idx i=>simp[gM]at hq
   |kC m=>
    unfold gM at hq
    split at hq
    ·rename_i a ha
     obtain⟨y',o',zN⟩:=tk ha x
     obtain⟨h3,h4⟩:=zN.eq
     subst h3 h4
     have hb:=r.bound hi
     obtain⟨h5,h6⟩:=kJ hq
     obtain⟨z',o2,Rt⟩:=tp hq y'
     have eY:=Rt.bound h5
     have ho2:=Rt.eq.2
     subst ho2
     simp only[cE]
     by_cases hnm:n=m
     ·subst hnm
      have G0:xR p q'=false:=by
       simp only[xR,Bool.and_eq_false_iff]at hp
       rcases hp with hp|hp
       ·rw[tf]at hp;cases hp
       ·exact hp
      rcases ih hi hq G0 with h7|h7<;>omega
     ·rcases hf.apart zN hnm with h7|h7
      ·right;omega
      ·left
       have:1≤(Ty.slice e).size:=aG _
       omega
    ·cases hq
 | @idx p n e' σ x i z q r ih=>
  intro hi q' e hq hp
  cases q' with
  |nil=>have:=bz hq;cases this
  |cons s q'=>
   cases s with
   |idx i=>simp[gM]at hq
   |kC m=>simp[gM,JK]at hq
def fL:Value→Option Nat
 | .pointer (some a)=>some a.block
 | .slice (some a) _ cap=>if cap=0 then none else some a.block
 |_=>none
def bg.mut:bg→Prop
 | .obj _ _| .own _ _| .gh _ _ _ _=>True
 |_=>False
def ER(w:World)(M:Nat→Prop)(v:Value):bg→Prop
 | .obj τ x=> ∃b cs t,v= .pointer (some ⟨b,0,none⟩)∧w.heap[b]? =some (.cells cs t (0,0))∧M b∧Rd w M τ cs.toList x
 | .gh τ x p _=> ∃b cs t sm u,v= .pointer (some ⟨b,0,none⟩)∧w.heap[b]? =some (.cells cs t (0,0))∧M b∧Rd w M τ sm x∧cs.toList=fb sm (cE p τ) [u]∧u.oneCell'=true∧ ∃e,gM p τ (.slice e)=true
 | .own e l=>(l=[]∧ ∃a,v= .slice a 0 0)∨
  ∃b cs t cap,v= .slice (some ⟨b,0,none⟩) l.length cap∧w.heap[b]? =some (.cells cs t (0,0))∧M b∧0<cap∧l.length≤cap∧cap≤maxLen∧cs.size=cap*e.size∧
   ∀i (h:i<l.length),Rd w M e ((cs.toList.drop (i*e.size)).take e.size) l[i]
 | .oH e l=>Rd w M (.slice e) [v] l∧((l=[]∧ ∃a n c,v= .slice a n c)∨ ∃b n c,v= .slice (some ⟨b,0,none⟩) n c)
 | .gone=>True
def AR(v:Value)(p:List Step)(u:Value):bg→Prop
 | .obj τ _| .gh τ _ _ _=>xU p τ∧ ∃b,v= .pointer (some ⟨b,0,none⟩)∧u= .pointer (some ⟨b,cE p τ,none⟩)
 | .own e l| .oH e l=> ∃i q,p= .idx i::q∧i<l.length∧xU q e∧ ∃b n c,v= .slice (some ⟨b,0,none⟩) n c∧u= .pointer (some ⟨b,i*e.size+cE q e,none⟩)
 | .gone=> ∃a,u= .pointer (some a)
mutual
def VR(w:World)(M:Nat→Prop)(H:Nat→Option bg)(ν:Nat→Value):bD→Value→Prop
 | .any,_=>True
 | .Vp,v=>v=undef
 | .val τ x,v=>V w M τ v x
 | .JL τ x n,v=>V w M τ v x∧ ∃cs a,v= .agg cs∧cs.toList[rP τ n]? =some (.slice a 0 0)
 | .emp,v=> ∃a,v= .slice a 0 0
 | .ref id,v=>H id≠none∧v=ν id
 | .jn id p,v=> ∃e,H id=some e∧AR (ν id) p v e
 | .qM τ x,v=> ∃b off,v= .pointer (some ⟨b,off,none⟩)∧b<w.heap.size∧ ¬M b∧ ∃cs,At w b off cs∧Rd w M τ cs x
 | .tup vs,v=> ∃us:List Value,v= .tuple us.toArray∧jq w M H ν vs us
 | .Mf f caps,v=> ∃cs:List Value,v= .func (.func f) #[] cs.toArray∧jq w M H ν caps cs
def jq(w:World)(M:Nat→Prop)(H:Nat→Option bg)(ν:Nat→Value):List bD→List Value→Prop
 |[],[]=>True
 |a::as,v::vs=>VR w M H ν a v∧jq w M H ν as vs
 |_,_=>False
end
def bg.ll:bg→bg→Prop
 | .obj τ _,.obj υ _| .obj τ _,.gh υ _ _ _| .gh τ _ _ _,.obj υ _| .gh τ _ _ _,.gh υ _ _ _=>τ=υ
 | .own e l,.own f k| .own e l,.oH f k| .oH e l,.oH f k=>e=f∧l.length=k.length
 |_,.gone=>True
 |_,_=>False
structure sR(H:Nat→Option bg)(ν:Nat→Value)(H':Nat→Option bg)(ν':Nat→Value):Prop where
 kZ: ∀i e,H i=some e→ ∃e',H' i=some e'∧e.ll e'
 head: ∀i,H i≠none→ν' i=ν i
theorem AR.ptr{v:Value}{p:List Step}{u:Value}{e:bg}(h:AR v p u e): ∃a,u= .pointer (some a):=by
 cases e<;>simp only[AR]at h
 ·obtain⟨_,b,_,h⟩:=h;exact⟨_,h⟩
 ·obtain⟨_,b,_,h⟩:=h;exact⟨_,h⟩
 ·obtain⟨i,q,_,_,_,b,n,c,_,h⟩:=h;exact⟨_,h⟩
 ·obtain⟨i,q,_,_,_,b,n,c,_,h⟩:=h;exact⟨_,h⟩
 ·exact h
theorem AR.ll{v:Value}{p:List Step}{u:Value}{e e':bg}(h:AR v p u e)(l:e.ll e'):AR v p u e':=by
 have hp:=h.ptr
 cases e<;>cases e'<;>simp only[bg.ll]at l<;>simp only[AR]at h ⊢ <;>try exact hp
 ·subst l;exact h
 ·subst l;exact h
 ·subst l;exact h
 ·subst l;exact h
 ·obtain⟨rfl,hl⟩:=l;obtain⟨i,q,hp,hi,r⟩:=h;exact⟨i,q,hp,ω,r⟩
 ·obtain⟨rfl,hl⟩:=l;obtain⟨i,q,hp,hi,r⟩:=h;exact⟨i,q,hp,ω,r⟩
 ·obtain⟨rfl,hl⟩:=l;obtain⟨i,q,hp,hi,r⟩:=h;exact⟨i,q,hp,ω,r⟩
theorem bg.ll.refl(e:bg):e.ll e:=by cases e<;>simp[bg.ll]
theorem sR.refl(H:Nat→Option bg)(ν:Nat→Value):sR H ν H ν:=⟨λ_ e h=>⟨e,h,.refl e⟩,λ_ _=>rfl⟩
mutual
theorem VR.ca{w w':World}{M M':Nat→Prop}{H H':Nat→Option bg}{ν ν':Nat→Value}(k:e8 w M w' M')(g:sR H ν H' ν'):
  ∀{a:bD} {v:Value},VR w M H ν a v→VR w' M' H' ν' a v
 | .any,_,_=>by simp[VR]
 | .Vp,_,h=>by simpa [VR]using h
 | .val τ x,v,h=>by simp only[VR]at h ⊢;exact h.ca k
 | .JL τ x n,v,h=>by simp only[VR]at h ⊢;exact⟨h.1.ca k,h.2⟩
 | .emp,_,h=>by simpa [VR]using h
 | .ref id,_,h=>by
  simp only[VR]at h ⊢
  obtain⟨h1,h2⟩:=h
  obtain⟨e,he⟩:=Ec.1 h1
  obtain⟨e',wc,_⟩:=g.kZ id e he
  exact⟨by simp[wc],by rw[g.head id h1];exact h2⟩
 | .jn id p,_,h=>by
  simp only[VR]at h ⊢
  obtain⟨e,he,ha⟩:=h
  obtain⟨e',wc,hl⟩:=g.kZ id e he
  exact⟨e',wc,by rw[g.head id (by simp[he])];exact ha.ll hl⟩
 | .qM τ x,_,h=>by
  simp only[VR]at h ⊢
  obtain⟨b,off,rfl,hb,hm,cs,ha,hr⟩:=h
  exact⟨b,off,rfl,mT hb k.size,λh'=>hm (k.less b hb h'),cs,ha.ca (k.block b hb hm),hr.ca k⟩
 | .tup vs,_,h=>by
  simp only[VR]at h ⊢
  obtain⟨us,rfl,h⟩:=h
  exact⟨us,rfl,jq.ca k g h⟩
 | .Mf f caps,_,h=>by
  simp only[VR]at h ⊢
  obtain⟨us,rfl,h⟩:=h
  exact⟨us,rfl,jq.ca k g h⟩
theorem jq.ca{w w':World}{M M':Nat→Prop}{H H':Nat→Option bg}{ν ν':Nat→Value}(k:e8 w M w' M')(g:sR H ν H' ν'):
  ∀{as:List bD} {vs:List Value},jq w M H ν as vs→jq w' M' H' ν' as vs
 |[],[],_=>by simp[jq]
 |a::as,v::vs,h=>by simp only[jq]at h ⊢;exact⟨VR.ca k g h.1,jq.ca k g h.2⟩
 |[],_::_,h=>by simp[jq]at h
 |_::_,[],h=>by simp[jq]at h
end
end VM
end
