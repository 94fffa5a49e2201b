/- A part of the proof of TearFlat of layer 29: a machine that reads a function of the program as an equation between values. -/
import Derived.KernelRfl
import GoSem.Claims
import Derived.WalkKit
import Derived.ArgAppend
import Derived.Laws.CopyRow
import Derived.Laws.MakeOwn
import Derived.Laws.OwnMore
import Derived.Orders
import Derived.LoopN
set_option linter.all false
theorem ω{p:Prop}(h:p:=by omega):p:=h
theorem δ{p:Prop}(h:p:=by decide):p:=h
theorem κ{p:Prop}(h:p:=by kernel_rfl):p:=h
noncomputable section
abbrev av:=@Option.bind_some
abbrev ak:=@cond_true
abbrev aK:=@List.length_singleton
abbrev aR:=@List.getD_eq_getElem?_getD
abbrev aE:=@Int.toNat_natCast
abbrev ar:=@cond_false
abbrev bl:=@List.getElem?_eq_getElem
abbrev aj:=@if_pos
abbrev aT:=@List.length_append
abbrev ah:=@if_neg
abbrev a8:=@List.mem_cons_of_mem
abbrev aW:=@List.length_cons
abbrev bp:=@List.mem_cons_self
abbrev aI:=@Nat.le_refl
abbrev bJ:=@Array.length_toList
abbrev bo:=@List.mem_append
abbrev aX:=@List.mem_cons
abbrev ck:=@List.length_replicate
abbrev bF:=@of_decide_eq_true
abbrev aY:=@Bool.not_true
abbrev bM:=@List.append_assoc
abbrev bB:=@List.length_set
abbrev bs:=@decide_eq_true
abbrev bO:=@List.length_take
abbrev bP:=@Bool.and_eq_true
abbrev cm:=@List.mem_singleton
abbrev cQ:=@List.mem_append_left
abbrev bZ:=@List.length_nil
abbrev cg:=@decide_eq_false
abbrev dm:=@Bool.and_eq_true_iff
abbrev bR:=@List.map_cons
abbrev dD:=@List.mem_append_right
abbrev bG:=@Nat.zero_le
abbrev cz:=@Bool.not_false
abbrev cK:=@List.append_nil
abbrev cL:=@List.nil_append
abbrev cO:=@List.length_map
abbrev cM:=@List.drop_zero
abbrev cH:=@List.sum_cons
abbrev cA:=@Nat.le_trans
abbrev dn:=@List.map_append
abbrev cZ:=@Int.toNat_zero
abbrev cD:=@List.mem_map
abbrev eX:=@List.mem_map_of_mem
abbrev dI:=@List.length_drop
abbrev eK:=@List.pairwise_cons
abbrev gl:=@List.take_of_length_le
abbrev fV:=@Nat.eq_of_beq_eq_true
abbrev fW:=@List.take_append_drop
abbrev fp:=@decide_eq_true_iff
abbrev eL:=@List.getElem_mem
abbrev gP:=@List.getElem?_eq_none
abbrev fX:=@List.getElem_of_mem
abbrev fu:=@Option.mem_toList
abbrev gY:=@Array.getElem?_toList
abbrev kI:=@Array.getElem?_eq_some_iff
abbrev fv:=@List.cons.injEq
abbrev lX:=@List.drop_eq_getElem_cons
abbrev eo:=@Int.mul_comm
abbrev kJ:=@List.drop_of_length_le
abbrev jI:=@List.mem_of_mem_take
abbrev p3:=@Int.mul_le_mul_of_nonneg_left
abbrev oP:=@List.getElem?_append_right
abbrev iC:=@Option.some.injEq
abbrev jd:=@Bool.false_eq_true
abbrev eG:=@Nat.add_mul
abbrev kK:=@Nat.mul_le_mul_right
abbrev je:=@List.size_toArray
abbrev iD:=@List.take_length
abbrev gZ:=@Nat.min_eq_left
abbrev gm:=@Int.mul_assoc
abbrev gn:=@Bool.and_true
abbrev p4:=@List.pairwise_iff_getElem
abbrev lY:=@Nat.mul_le_mul_left
abbrev sB:=@Array.getD_eq_getD_getElem?
abbrev fx:=@Int.le_refl
abbrev m8:=@List.mem_of_mem_drop
abbrev uH:=@Int.mul_le_mul_of_nonneg_right
abbrev lZ:=@List.getElem?_take
abbrev mc:=@List.getElem?_drop
abbrev gq:=@Nat.zero_add
abbrev gr:=@Int.add_zero
abbrev uI:=@List.eq_nil_of_length_eq_zero
abbrev m9:=@Int.toNat_of_nonneg
abbrev sC:=@List.getElem?_append_left
abbrev kL:=@List.cons_append
abbrev gQ:=@Int.le_trans
abbrev nc:=@Nat.lt_of_lt_of_le
abbrev sD:=@List.take_append_getElem
abbrev jJ:=@List.drop_drop
abbrev nf:=@List.getElem?_map
abbrev uK:=@List.getElem?_eq_some_iff
abbrev iE:=@List.map_nil
abbrev oQ:=@Int.emod_lt_of_pos
abbrev me:=@Int.ediv_nonneg
abbrev sE:=@Int.mul_ediv_add_emod
abbrev uM:=@Int.eq_ofNat_of_zero_le
abbrev uN:=@Int.ediv_lt_iff_lt_mul
abbrev jK:=@List.sum_nil
abbrev lD:=@List.drop_length
abbrev qH:=@List.drop_eq_nil_of_le
abbrev ec:=@and_true
abbrev tA:=@List.mem_or_eq_of_mem_set
abbrev o0:=@List.length_pos_iff
abbrev ng:=@List.nodup_append
abbrev eA:=@congrArg
abbrev kd:=@List.take_zero
abbrev lE:=@Option.some.inj
abbrev lF:=@List.length_zip
abbrev qI:=@List.mem_iff_getElem
abbrev tD:=@Option.bind_eq_some_iff
abbrev nh:=@decide_eq_decide
abbrev ni:=@Option.getD_some
abbrev qJ:=@List.map_congr_left
abbrev nj:=@List.drop_left'
abbrev nk:=@Bool.or_eq_true
abbrev iG:=@Int.add_mul
abbrev nn:=@List.sum_append
abbrev fa:=@if_false
abbrev tE:=@List.Pairwise.sublist
abbrev qK:=@Bool.false_ne_true
abbrev zj:=@List.take_append_of_le_length
abbrev zk:=@List.drop_append_of_le_length
abbrev qL:=@Bool.not_eq_true'
abbrev qM:=@Bool.eq_false_iff
abbrev o4:=@Bool.eq_iff_iff
abbrev o5:=@Int.emod_nonneg
abbrev eU:=@Ne.symm
abbrev lG:=@Int.le_of_lt
abbrev lH:=@Int.zero_add
abbrev ke:=@Nat.one_mul
abbrev np:=@Bool.true_and
abbrev qN:=@Bool.not_eq_true
abbrev qO:=@List.all_eq_true
abbrev js:=@Array.ext'
abbrev o6:=@Int.mul_nonneg
abbrev zm:=@Int.add_mul_emod_self_left
abbrev vZ:=@Int.add_mul_ediv_left
abbrev zn:=@Decidable.byContradiction
abbrev nq:=@Nat.lt_or_ge
abbrev nr:=@Nat.add_zero
abbrev lI:=@Int.mul_add
abbrev gG:=@Prod.ext
abbrev tF:=@List.pairwise_map
abbrev wa:=@List.pairwise_append
abbrev o7:=@Nat.add_assoc
abbrev zo:=@List.eq_of_mem_replicate
abbrev qP:=@List.drop_take
abbrev qQ:=@List.take_take
abbrev zp:=@Nat.add_sub_cancel_left
abbrev qR:=@List.mem_range
abbrev zq:=@Option.map_eq_some_iff
abbrev o8:=@Nat.pow_succ
abbrev zr:=@Int.ediv_eq_zero_of_lt
abbrev wb:=@Int.lt_of_le_of_lt
abbrev tG:=@List.headD_cons
abbrev zs:=@List.singleton_append
abbrev gH:=@if_true
abbrev wc:=@List.length_range
abbrev Eo:=@Nat.two_pow_add_eq_or_of_lt
abbrev we:=@decide_eq_true_eq
abbrev Ep:=@Option.ne_none_iff_exists'
abbrev zt:=@Array.getElem_toList
abbrev tH:=@List.tail_cons
abbrev Er:=@Int.tdiv_eq_ediv_of_nonneg
abbrev wg:=@beq_self_eq_true
abbrev qS:=@Nat.mul_succ
abbrev wh:=@List.filter_cons
abbrev Es:=@Int.le_of_mul_le_mul_left
abbrev zu:=@List.replicate_succ
abbrev Et:=@List.getElem_append_left
abbrev tI:=@Bool.false_or
abbrev tJ:=@Bool.or_false
abbrev Eu:=@Int.mul_ediv_cancel_left
abbrev wi:=@List.take_left'
abbrev wj:=@List.mem_filter
abbrev qT:=@Nat.le_succ
abbrev qU:=@Nat.sub_mul
abbrev qV:=@Int.one_mul
abbrev Ev:=@List.getElem?_replicate
abbrev Ew:=@decide_eq_false_iff_not
abbrev Ex:=@List.pairwise_singleton
abbrev Ey:=@List.getElem_cons_zero
abbrev zv:=@List.flatten_cons
abbrev zw:=@List.ext_getElem?
abbrev tK:=@Nat.beq_refl
abbrev tL:=@Nat.sub_self
abbrev wk:=@Nat.mul_le_mul
abbrev zx:=@List.getElem_drop
abbrev zy:=@List.getElem_take
abbrev wm:=@Bool.false_and
abbrev zz:=@Decidable.not_not
abbrev Lt:=@Array.getElem?_setIfInBounds_ne
abbrev Ez:=@Nat.le_of_ble_eq_true
abbrev zA:=@List.any_eq_true
abbrev Lu:=@List.eq_nil_iff_forall_not_mem
abbrev Lv:=@Nat.and_two_pow_sub_one_eq_mod
abbrev EA:=@Nat.pow_le_pow_right
abbrev tM:=@Int.mul_neg
abbrev zB:=@List.nodup_cons
abbrev zC:=@Int.natCast_mul
abbrev zD:=@Int.natCast_add
abbrev EB:=@List.get_eq_getElem
abbrev Lw:=@Int.mul_lt_mul_of_pos_right
abbrev wo:=@Int.zero_mul
abbrev wq:=@Int.sub_zero
abbrev Lx:=@iff_iff_implies_and_implies
abbrev EC:=@List.getElem_range
abbrev zE:=@List.mapM_cons
abbrev Ly:=@Int.fdiv_eq_ediv_of_nonneg
abbrev ED:=@Int.mul_emod_right
abbrev EE:=@Int.tmod_lt_of_pos
abbrev LA:=@List.getElem_append_right
abbrev LB:=@Array.getElem?_eq_getElem
abbrev LC:=@Classical.byContradiction
abbrev wu:=@Int.mul_sub
abbrev EF:=@Int.emod_eq_of_lt
abbrev EG:=@Bool.not_eq_false
abbrev LD:=@List.length_eq_zero_iff
abbrev LF:=@List.getElem?_cons_zero
abbrev EH:=@List.nil_sublist
abbrev LG:=@Array.getElem?_eq_none
abbrev LH:=@List.getElem_replicate
abbrev wv:=@Nat.beq_eq
abbrev zF:=@Nat.mul_comm
abbrev LJ:=@List.append_eq_nil_iff
abbrev zG:=@Int.pow_succ
abbrev zH:=@Int.mul_zero
abbrev EI:=@List.range_succ
abbrev LK:=@List.getElem?_toArray
abbrev LM:=@Nat.div_lt_iff_lt_mul
abbrev LN:=@Int.ediv_le_of_le_mul
abbrev LO:=@List.set_append_right
abbrev EJ:=@Bool.and_false
abbrev zI:=@Int.sub_sub
abbrev EK:=@List.all_cons
abbrev EL:=@Nat.lt_irrefl
abbrev zJ:=@Nat.blt_eq
abbrev zK:=@Nat.ble_eq
abbrev EM:=@Nat.log2_def
section
namespace VM
open Go
theorem alH{α:Type}(a:α): ∃b:α,b=a:=⟨a,rfl⟩
def bm{α:Type}(a:α):α:=Classical.choose (alH a)
theorem iH{α:Type}(a:α):bm a=a:=Classical.choose_spec (alH a)
def yE:Nat:=68719476736
def W:IntKind→Int→Int:=bm λk x=>k.wrap x
def aS:Int→Int→Bool:=bm λx y=>decide (x<y)
def c0:Int→Int→Bool:=bm λx y=>decide (x≤y)
def aM:Int→Int→Bool:=bm λx y=>decide (x=y)
def aZ:Int→Nat→Bool:=bm λi n=>decide (0≤i∧i<(n:Int))
def small:Nat→Bool:=bm λn=>decide (n<yE)
def gI:Int→Int→Bool:=bm λl c=>decide (0≤l∧l≤c∧c<(yE:Int))
def jt:Int→Int→Int→Int→Bool:=bm λl h m n=>decide (0≤l∧l≤h∧h≤m∧m≤n)
def quo:Int→Int→Int:=bm λx y=>x.tdiv y
def rem:Int→Int→Int:=bm λx y=>x.tmod y
def shl:IntKind→Int→Int→Int:=bm λk x y=>x*2^(min y.toNat k.bits)
def shr:IntKind→Int→Int→Int:=bm λk x y=>x.fdiv (2^(min y.toNat k.bits))
def mx:Int→Int→Int:=bm λx y=>if y>x then y else x
def mn:Int→Int→Int:=bm λx y=>if y<x then y else x
def U7:ByteArray→ByteArray→Bool:=bm λx y=>decide (x.toList=y.toList)
theorem De(k:IntKind)(x:Int):W k x=k.wrap x:=by unfold W;rw[iH]
theorem om(x y:Int):aS x y=decide (x<y):=by unfold aS;rw[iH]
theorem oq(x y:Int):c0 x y=decide (x≤y):=by unfold c0;rw[iH]
theorem jB(x y:Int):aM x y=decide (x=y):=by unfold aM;rw[iH]
theorem U8(i:Int)(n:Nat):aZ i n=decide (0≤i∧i<(n:Int)):=by unfold aZ;rw[iH]
theorem EN(n:Nat):small n=decide (n<yE):=by unfold small;rw[iH]
theorem HZ(l c:Int):gI l c=decide (0≤l∧l≤c∧c<(yE:Int)):=by unfold gI;rw[iH]
theorem zL(l h m n:Int):jt l h m n=decide (0≤l∧l≤h∧h≤m∧m≤n):=by unfold jt;rw[iH]
theorem Jy(x y:Int):quo x y=x.tdiv y:=by unfold quo;rw[iH]
theorem U9(x y:Int):rem x y=x.tmod y:=by unfold rem;rw[iH]
theorem Va(k:IntKind)(x y:Int):shl k x y=x*2^(min y.toNat k.bits):=by unfold shl;rw[iH]
theorem PQ(k:IntKind)(x y:Int):shr k x y=x.fdiv (2^(min y.toNat k.bits)):=by unfold shr;rw[iH]
theorem afx(x y:Int):mx x y=if y>x then y else x:=by unfold mx;rw[iH]
theorem Vb(x y:Int):mn x y=if y<x then y else x:=by unfold mn;rw[iH]
theorem EO(x y:ByteArray):U7 x y=decide (x.toList=y.toList):=by unfold U7;rw[iH]
inductive Bw where|and|or|xor|andNot
def mR:Bw→IntKind→Int→Int→Int:=bm λo k x y=>
 let a:=BitVec.ofInt k.bits x
 let b:=BitVec.ofInt k.bits y
 k.wrap (match o with| .and=>a&&& b| .or=>a|||b| .xor=>a^^^b| .andNot=>a&&& ~~~b).toNat
theorem uO(o:Bw)(k:IntKind)(x y:Int):mR o k x y=
 let a:=BitVec.ofInt k.bits x
 let b:=BitVec.ofInt k.bits y
 k.wrap (match o with| .and=>a&&& b| .or=>a|||b| .xor=>a^^^b| .andNot=>a&&& ~~~b).toNat:=by unfold mR;rw[iH]
def strOf(l:List Nat):ByteArray:=⟨(l.map UInt8.ofNat).toArray⟩
inductive Ty where
 |int (k:IntKind)
 |bool
 |str
 |slice (e:Ty)
 |unit
 |pair (a b:Ty)
 |arr (n:Nat) (e:Ty)
 deriving DecidableEq
@[reducible] def Ty.den:Ty→Type
 | .int _=>Int
 | .bool=>Bool
 | .str=>ByteArray
 | .slice e=>List e.den
 | .unit=>Unit
 | .pair a b=>a.den×b.den
 | .arr _ e=>List e.den
def Ty.size:Ty→Nat
 | .int _| .bool| .str| .slice _=>1
 | .unit=>0
 | .pair a b=>a.size+b.size
 | .arr n e=>n*e.size
def Ty.isAgg:Ty→Bool
 | .unit| .pair _ _| .arr _ _=>true
 |_=>false
def Ty.zero:(τ:Ty)→τ.den
 | .int _=>(0:Int)
 | .bool=>false
 | .str=>ByteArray.empty
 | .slice _=>[]
 | .unit=>()
 | .pair a b=>(a.zero,b.zero)
 | .arr n e=>List.replicate n e.zero
def Ty.comparable:Ty→Bool
 | .slice _=>false
 | .pair a b=>a.comparable&&b.comparable
 | .arr _ _=>false
 |_=>true
def alI{α:Type}(f:α→α→Bool):List α→List α→Bool
 |[],[]=>true
 |x::xs,y::ys=>f x y&&alI f xs ys
 |_,_=>false
def oR:(τ:Ty)→τ.den→τ.den→Bool
 | .int _,x,y=>aM x y
 | .bool,x,y=>x==y
 | .str,x,y=>U7 x y
 | .slice _,_,_=>false
 | .unit,_,_=>true
 | .pair a b,x,y=>oR a x.1 y.1&&oR b x.2 y.2
 | .arr _ e,x,y=>alI (oR e) x y
inductive Step where
 |kH (n:Nat)
 |idx (i:Nat)
def LP:List Step→List Step→Bool
 |[],[]=>true
 | .kH a::p,.kH b::q=>Nat.beq a b&&LP p q
 |_,_=>false
def xX:List Step→List Step→Bool
 |[],_=>true
 | .kH a::p,.kH b::q=>Nat.beq a b&&xX p q
 |_,_=>false
def Jz:Ty→Nat→Option Ty
 | .pair a b,n=>match n with
  |0=>some a
  |n+1=>Jz b n
 |_,_=>none
def gW:List Step→Ty→Ty→Bool
 |[],τ,υ=>decide (τ=υ)
 | .kH n::p,τ,υ=>match Jz τ n with
  |some a=>gW p a υ
  |none=>false
 |_,_,_=>false
inductive bD where
 |any
 |Vc
 |val (τ:Ty) (x:τ.den)
 |JA (τ:Ty) (x:τ.den) (n:Nat)
 |emp
 |ref (id:Nat)
 |jr (id:Nat) (p:List Step)
 |qW (τ:Ty) (x:τ.den)
 |tup (vs:List bD)
 |LR (f:Nat) (caps:List bD)
inductive bh where
 |obj (τ:Ty) (x:τ.den)
 |gk (τ:Ty) (x:τ.den) (p:List Step) (j:Nat)
 |own (e:Ty) (l:List e.den)
 |oS (e:Ty) (l:List e.den)
 |gone
structure St where
 T:Nat→bD
 H:Nat→Option bh
def St.put(σ:St)(d:Nat)(v:bD):St:=⟨λi=>cond (Nat.beq i d) v (σ.T i),σ.H⟩
def St.jU(σ:St)(d:Nat)(v:Option bh):St:=⟨σ.T,λi=>cond (Nat.beq i d) v (σ.H i)⟩
def St.vO(σ:St)(d:Option Nat)(v:bD):St:=match d with|some d=>σ.put d v|none=>σ
def LS(n:Nat)(io:List Nat):Option Nat→Bool|some d=>Nat.blt d n&&io.all (λi=> !(Nat.beq i d))|none=>true
def St.wx(σ:St):List (Nat×Option bh)→St
 |[]=>σ
 |u::r=>(σ.jU u.1 u.2).wx r
abbrev S0:St:=⟨λ_=> .any,λ_=>none⟩
abbrev ja:=List (Nat×Option bh)
section K
variable{α:Type}
def xY:(τ:Ty)→τ.den→Nat→((υ:Ty)→υ.den→Option α)→Option α
 | .pair a b,x,n,k=>match n with
  |0=>k a x.1
  |n+1=>xY b x.2 n k
 |_,_,_,_=>none
def ns:(τ:Ty)→τ.den→Nat→((υ:Ty)→υ.den→(υ.den→Option α)→Option α)→(τ.den→Option α)→Option α
 | .pair a b,x,n,m,k=>match n with
  |0=>m a x.1 λz=>k (z,x.2)
  |n+1=>ns b x.2 n m λz=>k (x.1,z)
 |_,_,_,_,_=>none
def nu(τ υ:Ty)(k:Option α):Option α:=if τ=υ then k else none
def c8(υ τ:Ty)(y:υ.den)(k:τ.den→Option α):Option α:=if h:υ=τ then k (h▸y)else none
def agL(τ:Ty)(x:τ.den)(i:Nat)(k:(υ:Ty)→υ.den→Option α):Option α:=
 match τ,x with
 | .arr _ e,x=>k e (List.getD x i e.zero)
 |_,_=>none
def DW(τ:Ty)(x:τ.den)(i:Nat)(m:(υ:Ty)→υ.den→(υ.den→Option α)→Option α)(k:τ.den→Option α):Option α:=
 match τ,x,k with
 | .arr _ e,x,k=>m e (List.getD x i e.zero) λz=>k (List.set x i z)
 |_,_,_=>none
def zM:List Step→(τ:Ty)→τ.den→((υ:Ty)→υ.den→Option α)→Option α
 |[],τ,x,k=>k τ x
 | .kH n::p,τ,x,k=>xY τ x n fun υ y=>zM p υ y k
 | .idx i::p,τ,x,k=>agL τ x i fun υ y=>zM p υ y k
def vP(υ:Ty)(y:υ.den):List Step→(τ:Ty)→τ.den→(τ.den→Option α)→Option α
 |[],τ,_,k=>c8 υ τ y k
 | .kH n::p,τ,x,k=>ns τ x n (fun υ' y' k'=>vP υ y p υ' y' k') k
 | .idx i::p,τ,x,k=>DW τ x i (fun υ' y' k'=>vP υ y p υ' y' k') k
def mu(fz:Bool)(a:bD)(H:Nat→Option bh)(τ:Ty)(k:τ.den→List Nat→ja→Option α):Option α:=
 match a with
 | .val υ x=>c8 υ τ x λy=>k y [] []
 | .JA υ x _=>c8 υ τ x λy=>k y [] []
 | .emp=>match τ,k with
  | .slice _,k=>k [] [] []
  |_,_=>none
 | .ref id=>match H id with
  |some (.own e l)=>c8 (.slice e) τ l λy=>k y [id] (cond fz [(id,some (.oS e l))] [])
  |some (.oS e l)=>c8 (.slice e) τ l λy=>k y [id] []
  |_=>none
 |_=>none
def LV(a:bD)(k:(τ:Ty)→τ.den→Option α):Option α:=
 match a with
 | .val υ x=>k υ x
 |_=>none
def nv(id:Nat)(p:List Step)(H:Nat→Option bh)(k:Ty→Option α):Option α:=
 match H id with
 |some (.obj τ x)=>zM p τ x fun υ _=>k υ
 |some (.gk τ x _ _)=>zM p τ x fun υ _=>k υ
 |some (.own e l)|some (.oS e l)=>match p with
  | .idx i::p=>zM p e (List.getD l i e.zero) fun υ _=>k υ
  |_=>none
 |_=>none
def awA(a:bD)(H:Nat→Option bh)(k:(τ:Ty)→τ.den→List Nat→Option α):Option α:=
 match a with
 | .val υ x=>k υ x []
 | .ref id=>match H id with
  |some (.own e l)|some (.oS e l)=>k (.slice e) l [id]
  |_=>none
 |_=>none
def wy(a:bD)(k:IntKind→Int→Option α):Option α:=
 match a with
 | .val (.int i) x=>k i x
 |_=>none
end K
inductive AM where
 |v (τ:Ty)
 |own (e:Ty)
 |io (τ:Ty)
 |fn (f:Nat) (τ:Ty)
 |ptr (τ:Ty)
 |jr (τ:Ty)
 |lo (e:Ty)
 deriving DecidableEq
@[reducible] def AM.den:AM→Type
 | .v τ=>τ.den
 | .own e=>List e.den
 | .io τ=>τ.den
 | .fn _ τ=>τ.den
 | .ptr τ=>τ.den
 | .jr τ=>τ.den
 | .lo e=>List e.den
@[reducible] def HP:List AM→Type
 |[]=>Unit
 |[m]=>m.den
 |m::n::ms=>m.den×HP (n::ms)
structure lJ where
 args:List AM
 res:List AM
 quiet:Bool
 run:HP args→Option (HP res)
inductive CM where
 |v (τ:Ty)
 |own (e:Ty)
 |obj (τ:Ty)
 |gk (τ:Ty) (q:List Step) (e:Ty)
 |same (s:Nat)
 |io (τ:Ty)
 |fn (f:Nat) (τ:Ty)
structure Env where
 nt:Nat
 ty:Nat→Option Ty
 Γ:Nat→List lJ
 N:Nat
 wz:Nat→Option (List (Nat×CM))
 xZ:Nat→Option (List (Nat×CM))
 io:List Nat:=[]
 lk:Option (Ty×List Step×Ty×List Nat):=none
def lkT(E:Env)(τ:Ty):Option (List Step×Ty):=match E.lk with
 |some (υ,q,e,_)=>cond (decide (υ=τ)) (cond (gW q τ (.slice e)) (some (q,e)) none) none
 |none=>none
def JB(E:Env)(τ:Ty)(id:Nat):Option (List Step×Ty):=match E.lk with
 |some (_,_,_,ds)=>cond (ds.any λd=>Nat.beq (id/16) d) (lkT E τ) none
 |none=>none
def cvA:Value→bD
 | .int k n=> .val (.int k) n
 | .bool b=> .val .bool b
 | .string s=> .val .str s
 | .slice none 0 0=> .emp
 |_=> .any
def St.ρ (σ:St):Operand→bD
 | .tmp t=>σ.T t
 | .const v=>cvA v
 | .global _=> .any
 | .func f=> .LR f []
section
variable{α:Type}
def uP(op:BinOp)(k:IntKind)(x y:Int)(K:bD→Option α):Option α:=
 match op with
 | .add=>K (.val (.int k) (W k (x+y)))
 | .sub=>K (.val (.int k) (W k (x-y)))
 | .mul=>K (.val (.int k) (W k (x*y)))
 | .quo=>cond (aM y 0) none (K (.val (.int k) (W k (quo x y))))
 | .rem=>cond (aM y 0) none (K (.val (.int k) (rem x y)))
 | .and=>K (.val (.int k) (mR .and k x y))
 | .or=>K (.val (.int k) (mR .or k x y))
 | .xor=>K (.val (.int k) (mR .xor k x y))
 | .andNot=>K (.val (.int k) (mR .andNot k x y))
 | .eql=>K (.val .bool (aM x y))
 | .neq=>K (.val .bool (!aM x y))
 | .lss=>K (.val .bool (aS x y))
 | .leq=>K (.val .bool (c0 x y))
 | .gtr=>K (.val .bool (aS y x))
 | .geq=>K (.val .bool (c0 y x))
 |_=>none
def Y3(op:BinOp)(k:IntKind)(x y:Int)(K:bD→Option α):Option α:=
 match op with
 | .shl=>cond (aS y 0) none (K (.val (.int k) (W k (shl k x y))))
 | .shr=>cond (aS y 0) none (K (.val (.int k) (shr k x y)))
 |_=>none
def Y4:BinOp→Bool
 | .shl| .shr=>true
 |_=>false
def EP(t:Option Ty)(op:BinOp)(τ:Ty)(x:τ.den)(υ:Ty)(y:υ.den)(K:bD→Option α):Option α:=
 match τ,x,υ,y with
 | .int k,x,.int k',y=>cond (Y4 op) (Y3 op k x y K) (if k=k' then uP op k x y K else none)
 |τ,x,υ,y=>match t with
  |none=>none
  |some u=>nu u τ (cond τ.comparable (match op with
   | .eql=>c8 υ τ y λy=>K (.val .bool (oR τ x y))
   | .neq=>c8 υ τ y λy=>K (.val .bool (!oR τ x y))
   |_=>none) none)
def SO(op:UnOp)(a:bD)(K:bD→Option α):Option α:=
 match op,a with
 | .neg,.val (.int k) n=>K (.val (.int k) (W k (0-n)))
 | .xor,.val (.int k) n=>K (.val (.int k) (mR .xor k (if k.signed then-1 else k.max) n))
 | .not,.val .bool b=>K (.val .bool (!b))
 |_,_=>none
abbrev jf(α:Type):=bD→List Nat→ja→Option α
def YD(up:Bool):bD→List bD→(bD→Option α)→Option α
 |a,[],K=>K a
 |a,b::r,K=>wy a λk x=>wy b λk' y=>if k=k' then YD up (.val (.int k) (cond up (mx x y) (mn x y))) r K else none
def LW(τ:Ty)(a:bD)(H:Nat→Option bh)(K:jf α):Option α:=
 match τ,a with
 | .slice _,.val (.slice _) l=>K (.val (.int .i64) (List.length l:Int)) [] []
 | .arr n _,.val (.arr _ _) _=>K (.val (.int .i64) (n:Int)) [] []
 | .str,.val .str s=>K (.val (.int .i64) (ByteArray.size s:Int)) [] []
 | .slice _,.emp=>K (.val (.int .i64) (0:Int)) [] []
 | .slice _,.ref id=>match H id with
  |some (.own _ l)|some (.oS _ l)=>K (.val (.int .i64) (l.length:Int)) [id] []
  |_=>none
 |_,_=>none
def qX(H:Nat→Option bh)(id:Nat)(e:bh)(K:Option α):Option α:=
 match H id with
 |none=>K
 |some _=>none
def LX(id:Nat)(e:Ty)(a b:bD)(H:Nat→Option bh)(K:jf α):Option α:=
 mu false b H (.slice e) λys rd _=>
  match a with
  | .emp=>cond (small (List.length ys)) (K (.ref id) (id::rd) [(id,some (.own e ys))]) none
  | .ref j=>match H j with
   |some (.own e' l)=>c8 (.slice e') (.slice e) l λxs=>
    cond (small (List.length xs+List.length ys)) (K (.ref id) (id::j::rd) [(j,some .gone),(id,some (.own e (xs++ys)))]) none
   |_=>none
  |_=>none
def uQ(τ:Ty)(H:Nat→Option bh):List (Nat×bD)→τ.den→List Nat→ja→(τ.den→List Nat→ja→Option α)→Option α
 |[],x,rd,ups,K=>K x rd ups
 |p::r,x,rd,ups,K=>xY τ x p.1 fun υ _=>mu true p.2 H υ λy Bj ot=>
  ns τ x p.1 (fun υ' _ k'=>c8 υ υ' y k') λz=>uQ τ H r z (Bj++rd) (ups++ot) K
def wA(e:Ty)(H:Nat→Option bh)(n:Nat):List (Nat×bD)→List e.den→List Nat→ja→(List e.den→List Nat→ja→Option α)→Option α
 |[],l,rd,ups,K=>K l rd ups
 |p::r,l,rd,ups,K=>cond (Nat.blt p.1 n) (mu true p.2 H e λy Bj ot=>wA e H n r (List.set l p.1 y) (Bj++rd) (ups++ot) K) none
def Cj(v:bD)(H:Nat→Option bh):(a:Ty)→(a.den→List Nat→ja→Option α)→Option α
 | .pair a .unit,k=>match v with
  | .qW υ x=>c8 υ a x λy=>k (y,()) [] []
  |_=>none
 |a,k=>mu true v H a k
def Ck:(a:Ty)→a.den→bD
 | .pair a .unit,x=> .qW a x.1
 |a,x=> .val a x
def qY(H:Nat→Option bh):(τ:Ty)→List bD→(τ.den→List Nat→ja→Option α)→Option α
 | .unit,[],K=>K () [] []
 | .pair a b,v::vs,K=>Cj v H a λx rd ups=>qY H b vs λxs Bj ot=>K (x,xs) (Bj++rd) (ups++ot)
 |_,_,_=>none
def pW:(τ:Ty)→τ.den→List bD
 | .pair a b,x=>Ck a x.1::pW b x.2
 |_,_=>[]
def bT(H:Nat→Option bh)(d:Nat)(v:Option bh):Nat→Option bh:=λi=>cond (Nat.beq i d) v (H i)
def wB(H:Nat→Option bh):List bD→(List bD→List Nat→ja→Option α)→Option α
 |[],K=>K [] [] []
 |a::r,K=>match a with
  | .jr id []=>match H id with
   |some (.obj τ x)=>wB (bT H id (some .gone)) r λcs rd ups=>K (.qW τ x::cs) (id::rd) ((id,some .gone)::ups)
   |_=>none
  |a=>wB H r λcs rd ups=>K (a::cs) rd ups
def oi(m:AM)(a:bD)(H:Nat→Option bh)(k:m.den→(Nat→Option bh)→List Nat→ja→ja→List (Nat×AM)→Option α):Option α:=
 match m,k with
 | .v τ,k=>mu true a H τ λx rd uf=>match uf with
  |[]=>k x H rd [] [] []
  |u::r=>k x (bT H u.1 u.2) rd [] (u::r) []
 | .own e,k=>match a with
  | .emp=>k [] H [] [] [] []
  | .ref id=>match H id with
   |some (.own e' l)=>c8 (.slice e') (.slice e) l λx=>k x (bT H id (some .gone)) [id] [(id,some .gone)] [] []
   |_=>none
  |_=>none
 | .io τ,k=>match a with
  | .jr id []=>match H id with
   |some (.obj υ x)=>c8 υ τ x λy=>k y (bT H id (some .gone)) [id] [] [] [(id,.io τ)]
   |_=>none
  |_=>none
 | .fn f τ,k=>match a with
  | .LR f' c=>cond (Nat.beq f f') (qY H τ c λx rd uf=>match uf with
   |[]=>k x H rd [] [] []
   |_=>none) none
  |_=>none
 | .ptr _,_=>none
 | .jr τ,k=>match a with
  | .qW υ x=>c8 υ τ x λy=>k y H [] [] [] []
  |_=>none
 | .lo e,k=>match a with
  | .ref id=>match H id with
   |some (.own e' l)=>c8 (.slice e') (.slice e) l λx=>k x (bT H id (some .gone)) [id] [] [] [(id,.lo e)]
   |_=>none
  |_=>none
def tN:(ms:List AM)→List bD→(Nat→Option bh)→List Nat→ja→ja→List (Nat×AM)→(HP ms→List Nat→ja→ja→List (Nat×AM)→Option α)→Option α
 |[],[],_,rd,uo,uf,io,K=>K () rd uo uf io
 |[m],[a],H,rd,uo,uf,io,K=>oi m a H λx _ Bj Lf Lg Hb=>K x (Bj++rd) (Lf++uo) (Lg++uf) (io++Hb)
 |m::n::ms,a::p5,H,rd,uo,uf,io,K=>oi m a H λx H' Bj Lf Lg Hb=>
  tN (n::ms) p5 H' (Bj++rd) (Lf++uo) (Lg++uf) (io++Hb) λxs rd uo uf io=>K (x,xs) rd uo uf io
 |_,_,_,_,_,_,_,_=>none
def JC(m:AM)(x:m.den)(id:Nat):bD×ja:=
 match m,x with
 | .v τ,x=>(.val τ x,[])
 | .own e,x=>(.ref id,[(id,some (.own e x))])
 | .io τ,x=>(.val τ x,[])
 | .fn _ _,_=>(.any,[])
 | .ptr τ,x=>(.jr id [],[(id,some (.obj τ x))])
 | .jr _,_=>(.any,[])
 | .lo _,_=>(.any,[])
def jV:(ms:List AM)→HP ms→Nat→List (Nat×AM)→List bD×ja×List (Nat×AM)
 |[],_,_,io=>([],[],io)
 |[m],x,id,io=>match m,x,io with
  | .io τ,x,(j,_)::io=>([],[(j,some (.obj τ x))],io)
  | .lo e,x,(j,_)::io=>([],[(j,some (.own e x))],io)
  |m,x,io=>([(JC m x id).1],(JC m x id).2,io)
 |m::n::ms,x,id,io=>match m,x,io with
  | .io τ,x,(j,_)::io=>let r:=jV (n::ms) x.2 (id+1) io;(r.1,(j,some (.obj τ x.1))::r.2.1,r.2.2)
  | .lo e,x,(j,_)::io=>let r:=jV (n::ms) x.2 (id+1) io;(r.1,(j,some (.own e x.1))::r.2.1,r.2.2)
  |m,x,io=>let r:=jV (n::ms) x.2 (id+1) io;((JC m x.1 id).1::r.1,(JC m x.1 id).2++r.2.1,r.2.2)
def LY:List bD→bD
 |[]=> .any
 |[a]=>a
 |l=> .tup l
def uR(H:Nat→Option bh)(id:Nat):Nat→Bool
 |0=>true
 |n+1=>(match H (id+n)with|none=>true|some _=>false)&&uR H id n
def LZ(id:Nat):Nat→List Nat
 |0=>[]
 |n+1=>(id+n)::LZ id n
def fits:List AM→List bD→Bool
 |[],[]=>true
 | .fn f _::ms,.LR g _::p5=>Nat.beq f g&&fits ms p5
 | .fn _ _::_,_::_=>false
 |_::ms,_::p5=>fits ms p5
 |_,_=>false
def L0:List lJ→List bD→Option lJ
 |[],_=>none
 |S::r,p5=>cond (fits S.args p5) (some S) (L0 r p5)
def Cl(E:Env)(f:Nat)(p5:List bD)(id:Nat)(H:Nat→Option bh)(K:jf α):Option α:=
 match L0 (E.Γ f) p5 with
 |none=>none
 |some S=>tN S.args p5 H [] [] [] [] λx rd uo uf io=>
  (S.run x).bind λy=>
   let r:=jV S.res y id io
   cond (uR H id S.res.length) (K (LY r.1) (LZ id S.res.length++(r.2.1.map (·.1)++rd)) (uo++cond S.quiet [] uf++r.2.1)) none
def yF(a:Option bD)(d:Int)(k:Int→Option α):Option α:=
 match a with
 |none=>k d
 |some a=>wy a λ_ x=>k x
def mf:Option Operand→Bool
 |some (.const (.int _ n))=>decide (n=0)
 |_=>false
def qZ(t:Ty)(z:Bool)(a:bD)(lo hi mx:Option bD)(H:Nat→Option bh)(K:jf α):Option α:=
 match t,a with
 | .str,.val .str s=>cond mx.isNone (yF lo 0 λl=>yF hi (ByteArray.size s:Int) λh=>
  cond (jt l h (ByteArray.size s:Int) (ByteArray.size s:Int)) (K (.val .str (ByteArray.extract s l.toNat h.toNat)) [] []) none) none
 | .slice _,.emp=>cond z (K .emp [] []) (cond mx.isNone (yF lo 0 λl=>yF hi 0 λh=>cond (jt l h 0 0) (K .emp [] []) none) none)
 | .slice e,a=>mu (!z) a H (.slice e) λx rd ups=>cond z (K .emp rd [])
  (cond (mx.isNone||hi.isSome) (yF lo 0 λl=>yF hi (List.length x:Int) λh=>yF mx (List.length x:Int) λm=>
   cond (jt l h m (List.length x:Int))
    (K (.val (.slice e) (List.drop l.toNat (List.take h.toNat x))) rd ups) none) none)
 |_,_=>none
def gJ(τ:Ty)(a i:bD)(H:Nat→Option bh)(K:jf α):Option α:=
 wy i λ_ i=>
 match τ with
 | .slice e=>match a with
  | .val υ l=>c8 υ (.slice e) l λl=>cond (aZ i (List.length l)) (K (.qW e (List.getD l i.toNat e.zero)) [] []) none
  | .ref id=>match H id with
   |some (.own e' l)|some (.oS e' l)=>nu e' e (cond (aZ i (List.length l)) (K (.jr id [.idx i.toNat]) [id] []) none)
   |_=>none
  |_=>none
 | .arr n e=>match a with
  | .jr id p=>nv id p H fun υ=>nu υ (.arr n e) (cond (aZ i n) (K (.jr id (p++[.idx i.toNat])) [id] []) none)
  | .qW υ l=>c8 υ (.arr n e) l λl=>cond (aZ i n) (K (.qW e (List.getD l i.toNat e.zero)) [] []) none
  |_=>none
 |_=>none
def wC(τ:Ty)(a i:bD)(K:bD→Option α):Option α:=
 wy i λ_ i=>
 match τ,a with
 | .arr n e,.val υ l=>c8 υ (.arr n e) l λl=>cond (aZ i n) (K (.val e (List.getD l i.toNat e.zero))) none
 | .str,.val .str s=>cond (aZ i (ByteArray.size s)) (K (.val (.int .u8) ((s.data.getD i.toNat 0).toNat:Int))) none
 |_,_=>none
def lf(a:bD)(H:Nat→Option bh)(K:(υ:Ty)→υ.den→List Nat→Option α):Option α:=
 match a with
 | .qW τ x=>K τ x []
 | .jr id p=>match H id with
  |some (.obj τ x)=>zM p τ x fun υ y=>K υ y [id]
  |some (.own e l)|some (.oS e l)=>match p with
   | .idx i::p=>zM p e (List.getD l i e.zero) fun υ y=>K υ y [id]
   |_=>none
  |_=>none
 |_=>none
def mv(τ:Ty)(a v:bD)(H:Nat→Option bh)(K:jf α):Option α:=
 match a with
 | .jr id p=>mu true v H τ λy rd ups=>
  match H id with
  |some (.obj υ x)=>vP τ y p υ x λz=>K .any (id::rd) (ups++[(id,some (.obj υ z))])
  |some (.own e l)=>match p with
   | .idx i::p=>cond (rd.contains id) none (vP τ y p e (List.getD l i e.zero) λz=>K .any (id::rd) (ups++[(id,some (.own e (List.set l i z)))]))
   |_=>none
  |_=>none
 |_=>none
def Df(j:Nat)(q:List Step)(τ:Ty)(x:τ.den)(H:Nat→Option bh)(k:τ.den→ja→Option α):Option α:=
 match H j with
 |some (.own e l)=>vP (.slice e) l q τ x λz=>k z [(j,some (.oS e l))]
 |some (.oS e l)=>vP (.slice e) l q τ x λz=>k z []
 |_=>none
def vA(τ:Ty)(a:bD)(H:Nat→Option bh)(K:jf α):Option α:=
 let yG:=lf a H fun υ y rd=>c8 υ τ y λz=>K (.val τ z) rd []
 match a with
 | .jr id p=>match H id with
  |some (.gk υ x q j)=>cond (LP p q) (cond (gW q υ τ) (K (.ref j) [id] []) none)
   (cond (xX p q) (Df j q υ x H λz ups=>zM p υ z fun υ' y=>c8 υ' τ y λy'=>K (.val τ y') [id,j] ups)
    (zM p υ x fun υ' y=>c8 υ' τ y λy'=>K (.val τ y') [id] []))
  |_=>yG
 |_=>yG
def Cm(τ:Ty)(id k:Nat)(e:Ty)(q:List Step)(υ:Ty)(x:υ.den)(H:Nat→Option bh)(K:jf α):Option α:=
 match H k with
 |some (.own e' _)=>nu e' e (nu τ (.slice e) (vP (.slice e) [] q υ x λz=>K .any [id,k] [(id,some (.gk υ z q k))]))
 |_=>none
def kf(E:Env)(τ:Ty)(a v:bD)(H:Nat→Option bh)(K:jf α):Option α:=
 let yG:=mv τ a v H K
 match a with
 | .jr id p=>match H id with
  |some (.obj υ x)=>match JB E υ id,v with
   |some (q,e),.ref k=>cond (LP p q) (Cm τ id k e q υ x H K) yG
   |_,_=>yG
  |some (.gk υ x q j)=>
   let put:=mu true v H τ λy rd ups=>vP τ y p υ x λz=>K .any (id::rd) (ups++[(id,some (cond (xX p q) (.obj υ z) (.gk υ z q j)))])
   match JB E υ id,v with
   |some (q',e),.ref k=>cond (LP p q&&LP q q') (Cm τ id k e q υ x H K) put
   |_,_=>put
  |_=>yG
 |_=>yG
def s6(E:Env)(τ:Ty)(a v:bD)(H:Nat→Option bh)(K:jf α):Option α:=
 match a,v with
 | .jr id [],.JA υ y n=>match JB E υ id with
  |some ([.kH m],e)=>cond (Nat.beq m n) (nu τ υ (nv id [] H fun υ'=>nu υ' υ
   (qX H (id+2) (.own e []) (K .any [id,id+2] [(id,some (.gk υ y [.kH m] (id+2))),(id+2,some (.own e []))])))) (kf E τ a v H K)
  |_=>kf E τ a v H K
 |_,_=>kf E τ a v H K
def Dg(H:Nat→Option bh)(id:Nat)(τ:Ty)(x:τ.den)(q:List Step)(e:Ty)(K:jf α):Option α:=
 qX H id (.obj τ x) (qX H (id+1) (.own e []) (K (.jr id []) [id,id+1] [(id,some (.gk τ x q (id+1))),(id+1,some (.own e []))]))
def Y5(E:Env)(ps:List (Nat×bD))(τ:Ty)(x:τ.den):bD:=match lkT E τ with
 |some ([.kH n],_)=>cond (ps.all λp=> !(Nat.beq p.1 n)) (.JA τ x n) (.val τ x)
 |_=> .val τ x
def partsOf(σρ:Operand→bD)(ps:Array (Nat×Operand)):List (Nat×bD):=ps.toList.map λp=>(p.1,σρ p.2)
def tx(E:Env)(o:Oper)(ρ:Operand→bD)(H:Nat→Option bh)(K:jf α):Option α:=
 let id:=16*o.dst.getD 0
 match o.op with
 | .move x| .assign x=>K (ρ x) [] []
 | .pick c a b=>match ρ c with
  | .val .bool t=>cond t (K (ρ a) [] []) (K (ρ b) [] [])
  |_=>none
 | .alloc t=>match E.ty t with
  |some τ=>match JB E τ id with
   |some (q,e)=>Dg H id τ τ.zero q e K
   |none=>qX H id (.obj τ τ.zero) (K (.jr id []) [id] [(id,some (.obj τ τ.zero))])
  |none=>none
 | .box t x=>match E.ty t with
  |some τ=>
   let yG:=mu true (ρ x) H τ λy rd ups=>qX H id (.obj τ y) (K (.jr id []) (id::rd) (ups++[(id,some (.obj τ y))]))
   match JB E τ id,ρ x with
   |some ([.kH m],e),.JA υ y n=>cond (Nat.beq m n) (c8 υ τ y λy=>Dg H id τ y [.kH m] e K) yG
   |_,_=>yG
  |none=>none
 | .build t ps=>match E.ty t with
  |some (.arr n e)=>wA e H n (partsOf ρ ps) (List.replicate n e.zero) [] [] λl rd ups=>K (.val (.arr n e) l) rd ups
  |some τ=>cond τ.isAgg (uQ τ H (partsOf ρ ps) τ.zero [] [] λx rd ups=>K (Y5 E (partsOf ρ ps) τ x) rd ups) none
  |none=>none
 | .buildSlice t n ps=>match E.ty t with
  |some (.slice e)=>cond (Nat.ble (n*(e.size+1)) 16777216) (qX H id (.own e []) (wA e H n (partsOf ρ ps) (List.replicate n e.zero) [] [] λl rd ups=>K (.ref id) (id::rd) (ups++[(id,some (.own e l))]))) none
  |_=>none
 | .load t a=>match E.ty t with
  |some τ=>vA τ (ρ a) H K
  |none=>none
 | .store t a v=>match E.ty t with
  |some τ=>s6 E τ (ρ a) (ρ v) H K
  |none=>none
 | .nilCheck x=>match ρ x with
  | .jr id p=>K (.jr id p) [] []
  | .qW τ x=>K (.qW τ x) [] []
  |_=>none
 | .binOp op t x y _=>LV (ρ x) fun τ x=>LV (ρ y) fun υ y=>EP (E.ty t) op τ x υ y λv=>K v [] []
 | .unOp op _ x=>SO op (ρ x) λv=>K v [] []
 | .convert src dst x=>match E.ty src,E.ty dst with
  |some _,some (.int k)=>wy (ρ x) λ_ n=>K (.val (.int k) (W k n)) [] []
  |_,_=>none
 | .makeFunc (.func f) first caps=>cond first.isEmpty (wB H (caps.toList.map ρ) λcs rd ups=>K (.LR f cs) rd ups) none
 | .makeSlice t l c=>match E.ty t with
  |some (.slice e)=>wy (ρ l) λ_ l=>wy (ρ c) λ_ c=>cond (gI l c)
    (qX H id (.own e []) (K (.ref id) [id] [(id,some (.own e (List.replicate l.toNat e.zero)))])) none
  |_=>none
 | .slice t x lo hi mx=>match E.ty t with
  |some τ=>qZ τ (lo.isNone&&mf hi&&mf mx) (ρ x) (lo.map ρ) (hi.map ρ) (mx.map ρ) H K
  |none=>none
 | .fieldAddr t x n=>match E.ty t with
  |some τ=>match ρ x with
   | .jr id p=>nv id p H fun υ=>nu υ τ (xY τ τ.zero n fun υ' _=>cond (Nat.beq υ'.size 0) none (K (.jr id (p++[.kH n])) [id] []))
   | .qW υ x=>nu υ τ (xY υ x n fun υ y=>cond (Nat.beq υ.size 0) none (K (.qW υ y) [] []))
   |_=>none
  |none=>none
 | .field t x n=>match E.ty t with
  |some τ=>match ρ x with
   | .val υ x=>nu υ τ (xY υ x n fun υ y=>K (.val υ y) [] [])
   |_=>none
  |none=>none
 | .indexAddr t x i=>match E.ty t with
  |some τ=>gJ τ (ρ x) (ρ i) H K
  |none=>none
 | .index t x i=>match E.ty t with
  |some τ=>wC τ (ρ x) (ρ i) λv=>K v [] []
  |none=>none
 | .extract t i=>match ρ t with
  | .tup vs=>match vs[i]? with
   |some v=>K v [] []
   |none=>none
  |_=>none
 | .call c=>match c.callee with
  | .builtin .len=>match c.args.toList,(c.argTypes.toList.head?).bind E.ty with
   |[x],some τ=>LW τ (ρ x) H K
   |_,_=>none
  | .builtin .append=>match c.args.toList,c.argTypes.toList with
   |[x,y],[t,t']=>match E.ty t with
    |some (.slice e)=>cond (Nat.beq t t') (qX H id (.own e []) (LX id e (ρ x) (ρ y) H K)) none
    |_=>none
   |_,_=>none
  | .builtin .max=>match c.args.toList with
   |x::r=>YD true (ρ x) (r.map ρ) λv=>K v [] []
   |_=>none
  | .builtin .min=>match c.args.toList with
   |x::r=>YD false (ρ x) (r.map ρ) λv=>K v [] []
   |_=>none
  | .value g=>match ρ g with
   | .LR f caps=>Cl E f (c.args.toList.map ρ++caps) id H K
   |_=>none
  |_=>none
 |_=>none
def tO(E:Env)(ops:List Oper)(o:Oper)(σ:St)(K:St→List Nat→List Nat→Option α):Option α:=
 let run (σ:St):Option α:=tx E o σ.ρ σ.H λv rd ups=>K ((σ.wx ups).vO o.dst v) rd (ups.map (·.1))
 cond (LS E.nt E.io o.dst) (match o.guard with
 |none=>run σ
 |some (j,want)=>match(ops[j]?).bind (·.dst)with
  |none=>none
  |some t=>match σ.T t with
   | .val .bool b=>match want with
    |true=>cond b (run (σ.put t (.val .bool true))) (K ((σ.put t (.val .bool false)).vO o.dst .Vc) [] [])
    |false=>cond b (K ((σ.put t (.val .bool true)).vO o.dst .Vc) [] []) (run (σ.put t (.val .bool false)))
   | .Vc=>K (σ.vO o.dst .Vc) [] []
   |_=>none) none
abbrev Log:=List (Nat×List Nat×List Nat)
def SP(E:Env)(ops:List Oper):List Oper→Nat→St→Log→(St→Log→Option α)→Option α
 |[],_,σ,lg,K=>K σ lg
 |o::r,i,σ,lg,K=>tO E ops o σ fun σ' rd wr=>SP E ops r (i+1) σ' ((i,rd,wr)::lg) K
def s7:List Oper→List Nat→List Nat
 |[],acc=>acc
 |o::r,acc=>s7 r (acc++[o.after.toList.foldl (λs e=>cond (Region.binds .any e) (s|||2^e.on|||acc.getD e.on 0) s) 0])
def names(ops:List Oper)(o:Oper):List Nat:=
 (o.op.operands.toList.filterMap fun| .tmp t=>some t|_=>none)++
 (match o.guard with
  |some (g,_)=>((ops[g]?).bind (·.dst)).toList
  |none=>[])
def meets(a b:List Nat):Bool:=a.any λx=>b.any λy=>Nat.beq x y
def Vd(ops:List Oper):Bool:=
 let b:=s7 ops []
 (ops.zipIdx.all λ(o,j)=>o.after.toList.all λe=> !(Region.binds .any e)||Nat.blt e.on j)&&
 ops.zipIdx.all λ(o,j)=>ops.zipIdx.all λ(p,i)=>Nat.ble j i||(b.getD j 0).testBit i||
  !(meets p.dst.toList (o.dst.toList++names ops o)||meets o.dst.toList (names ops p))
def afy(ops:List Oper)(lg:Log):Bool:=
 let b:=s7 ops []
 lg.all λx=>lg.all λy=>Nat.ble x.1 y.1||(b.getD x.1 0).testBit y.1||
  !(meets y.2.2 (x.2.1++x.2.2)||meets y.2.1 x.2.2)
def DX(E:Env)(ops:Array Oper)(draw:Bool)(σ:St)(K:St→Option α):Option α:=
 SP E ops.toList ops.toList 0 σ [] fun σ' lg=>cond (!draw||(Vd ops.toList&&afy ops.toList lg)) (K σ') none
def ij:List (Nat×CM)→St→St→(St→Option α)→Option α
 |[],_,acc,K=>K acc
 |(s,.v τ)::r,σ,acc,K=>mu true (σ.T s) σ.H τ λx _ ups=>ij r (σ.wx ups) (acc.put s (.val τ x)) K
 |(s,.own e)::r,σ,acc,K=>match σ.T s with
  | .emp=>ij r σ ((acc.put s (.ref (16*s+14))).jU (16*s+14) (some (.own e []))) K
  | .ref id=>match σ.H id with
   |some (.own e' l)=>c8 (.slice e') (.slice e) l λx=>ij r (σ.jU id (some .gone)) ((acc.put s (.ref (16*s+14))).jU (16*s+14) (some (.own e x))) K
   |_=>none
  |_=>none
 |(s,.obj τ)::r,σ,acc,K=>match σ.T s with
  | .jr id []=>match σ.H id with
   |some (.obj υ x)=>c8 υ τ x λy=>ij r (σ.jU id (some .gone)) ((acc.put s (.jr (16*s+14) [])).jU (16*s+14) (some (.obj τ y))) K
   |some (.gk υ x q j)=>Df j q υ x σ.H λz ups=>c8 υ τ z λy=>ij r ((σ.wx ups).jU id (some .gone)) ((acc.put s (.jr (16*s+14) [])).jU (16*s+14) (some (.obj τ y))) K
   |_=>none
  |_=>none
 |(s,.gk τ q e)::r,σ,acc,K=>match σ.T s with
  | .jr id []=>match σ.H id with
   |some (.gk υ x q' j)=>cond (LP q q') (match σ.H j with
    |some (.own e' l)=>c8 υ τ x λy=>c8 (.slice e') (.slice e) l λl=>ij r ((σ.jU j (some .gone)).jU id (some .gone))
     (((acc.put s (.jr (16*s+14) [])).jU (16*s+13) (some (.own e l))).jU (16*s+14) (some (.gk τ y q (16*s+13)))) K
    |_=>none) none
   |_=>none
  |_=>none
 |(s,.same s')::r,σ,acc,K=>match σ.T s,σ.T s',acc.T s' with
  | .ref i,.ref j,.ref j'=>cond (Nat.beq i j) (ij r σ (acc.put s (.ref j')) K) none
  |_,_,_=>none
 |(s,.io τ)::r,σ,acc,K=>match σ.T s with
  | .jr id []=>cond (Nat.beq id (16*s+15)) (match σ.H id with
   |some (.obj υ x)=>c8 υ τ x λy=>ij r (σ.jU id (some .gone)) ((acc.put s (.jr (16*s+15) [])).jU (16*s+15) (some (.obj τ y))) K
   |_=>none) none
  |_=>none
 |(s,.fn f τ)::r,σ,acc,K=>match σ.T s with
  | .LR f' c=>cond (Nat.beq f f') (qY σ.H τ c λx _ ups=>match ups with
   |[]=>ij r σ (acc.put s (.LR f (pW τ x))) K
   |_=>none) none
  |_=>none
def kg:List (Nat×CM)→Bool
 |[]=>true
 |q::r=>r.all (λp=> !(Nat.beq p.1 q.1))&&kg r
def wD(L:Option (List (Nat×CM)))(σ:St)(K:St→Option α):Option α:=
 match L with
 |none=>K σ
 |some L=>ij L σ ⟨λ_=> .any,λ_=>none⟩ K
def Cn(L:Option (List (Nat×CM)))(step:St→(St→Option α)→Option α):Nat→St→Option α
 |0,_=>none
 |n+1,σ=>step σ fun σ'=>wD L σ' (Cn L step n)
def cJ:Code→Option Nat
 | .region id _ _=>some id
 | .seq a b=>match cJ a with
  |some i=>some i
  |none=>cJ b
 | .block _ c| .loop c| .scope c=>cJ c
 |_=>none
def H4(E:Env)(c:Operand)(σ:St)(A B:St→Option α):Option α:=
 match σ.ρ c with
 | .val .bool b=>match c with
  | .tmp t=>cond b (A (σ.put t (.val .bool true))) (B (σ.put t (.val .bool false)))
  |_=>cond b (A σ) (B σ)
 |_=>none
def DY(E:Env)(c:Code):St→(St→Option α)→(Nat→St→Option α)→(St→Option α)→Option α:=
 Code.rec (motive:=λ_=>St→(St→Option α)→(Nat→St→Option α)→(St→Option α)→Option α)
  (fun σ k _ _=>k σ)
  (λ_ ops draw σ k _ _=>DX E ops draw σ k)
  (λ_ b A B σ k kx kr=>A σ (fun σ'=>wD ((cJ b).bind E.xZ) σ' λvQ=>B vQ k kx kr) kx kr)
  (λc _ _ A B σ k kx kr=>H4 E c σ (fun σ'=>A σ' k kx kr) (fun σ'=>B σ' k kx kr))
  (λid _ A σ k kx kr=>A σ k (λi σ'=>cond (Nat.beq i id) (k σ') (kx i σ')) kr)
  (λb A σ _ kx kr=>wD ((cJ b).bind E.wz) σ (Cn ((cJ b).bind E.wz) (fun σ' kn=>A σ' kn kx kr) E.N))
  (λ_ _ _ _ _ _ _ _ _ _=>none)
  (λid σ _ kx _=>kx id σ)
  (λ_ A σ k kx kr=>A σ k kx kr)
  (λ_ σ k _ _=>k σ)
  (λ_ _ _ _ _=>none)
  (fun σ _ _ kr=>kr σ)
  (λ_ _ _ _ _=>none)
  c
def vR(E:Env):List Nat→Code→List (St→Option α)→St→(St→Option α)→(Nat→St→Option α)→(St→Option α)→Option α
 |[],c,_,σ,k,kx,kr=>DY E c σ k kx kr
 |n::p,c,ks,σ,k,kx,kr=>match c with
  | .seq a b=>match n with
   |0=>vR E p a ks σ (fun σ'=>wD ((cJ b).bind E.xZ) σ' λvQ=>DY E b vQ k kx kr) kx kr
   |_=>vR E p b ks σ k kx kr
  | .cond _ a b=>match n with
   |0=>vR E p a ks σ k kx kr
   |_=>vR E p b ks σ k kx kr
  | .block id c=>vR E p c ks σ k (λi σ'=>cond (Nat.beq i id) (k σ') (kx i σ')) kr
  | .loop b=>match ks with
   |κ::ks=>vR E p b ks σ κ kx kr
   |[]=>none
  | .scope c=>vR E p c ks σ k kx kr
  |_=>none
def PS(m:AM)(x:m.den)(i:Nat)(σ:St):St:=
 match m,x with
 | .v τ,x=>σ.put i (.val τ x)
 | .own e,x=>(σ.put i (.ref (16*i+15))).jU (16*i+15) (some (.own e x))
 | .io τ,x=>(σ.put i (.jr (16*i+15) [])).jU (16*i+15) (some (.obj τ x))
 | .fn f τ,x=>σ.put i (.LR f (pW τ x))
 | .ptr _,_=>σ
 | .jr τ,x=>σ.put i (.qW τ x)
 | .lo e,x=>(σ.put i (.ref (16*i+15))).jU (16*i+15) (some (.own e x))
def entry:(ms:List AM)→HP ms→Nat→St→St
 |[],_,_,σ=>σ
 |[m],x,i,σ=>PS m x i σ
 |m::n::ms,x,i,σ=>entry (n::ms) x.2 (i+1) (PS m x.1 i σ)
def H5(E:Env)(m:AM)(r:ResultVar ⊕ Nat)(σ:St)(K:m.den→St→Option α):Option α:=
 match m,r,K with
 | .v τ,.inl (.tmp t),K=>mu true (σ.T t) σ.H τ λx _ ups=>K x (σ.wx ups)
 | .v τ,.inl (.cell a t),K=>match E.ty t with
  |some τ'=>nu τ' τ (lf (σ.T a) σ.H fun υ y _=>c8 υ τ y λx=>K x σ)
  |none=>none
 | .own e,.inl (.tmp t),K=>match σ.T t with
  | .emp=>K [] σ
  | .ref id=>match σ.H id with
   |some (.own e' l)=>c8 (.slice e') (.slice e) l λx=>K x (σ.jU id (some .gone))
   |_=>none
  |_=>none
 | .io τ,.inr i,K=>match σ.T i with
  | .jr id []=>match σ.H id with
   |some (.obj υ x)=>c8 υ τ x λy=>K y (σ.jU id (some .gone))
   |_=>none
  |_=>none
 | .lo e,.inr i,K=>match σ.T i with
  | .ref id=>match σ.H id with
   |some (.own e' l)=>c8 (.slice e') (.slice e) l λx=>K x (σ.jU id (some .gone))
   |_=>none
  |_=>none
 | .ptr τ,.inl (.tmp t),K=>match σ.T t with
  | .jr id []=>match σ.H id with
   |some (.obj υ x)=>c8 υ τ x λy=>K y (σ.jU id (some .gone))
   |_=>none
  |_=>none
 |_,_,_=>none
def JD(E:Env):(ms:List AM)→List (ResultVar ⊕ Nat)→St→(HP ms→Option α)→Option α
 |[],[],_,K=>K ()
 |[m],[r],σ,K=>H5 E m r σ λx _=>K x
 |m::n::ms,r::rs,σ,K=>H5 E m r σ λx σ'=>JD E (n::ms) rs σ' λxs=>K (x,xs)
 |_,_,_,_=>none
def yH:List AM→Nat→List (ResultVar ⊕ Nat)
 |[],_=>[]
 | .io _::ms,i=> .inr i::yH ms (i+1)
 | .lo _::ms,i=> .inr i::yH ms (i+1)
 |_::ms,i=>yH ms (i+1)
def Pw(E:Env)(fn:Func)(args res:List AM)(x:HP args):Option (HP res):=
 match fn.body with
 |none=>none
 |some c=>
  let kr:St→Option (HP res):=fun σ=>JD E res (fn.results.toList.map .inl++yH args 0) σ some
  DY E c (entry args x 0 ⟨λ_=> .any,λ_=>none⟩) kr (λ_ _=>none) kr
end
end VM
end
section
namespace VM
open Go
def vB(N:Nat)(x y c:Int):Option (Int×Int):=if 0≤x∧0≤y∧0≤c∧c≤1 then some ((x+y+c)%18446744073709551616,(x+y+c)/18446744073709551616)else none
def vC(N:Nat)(x y c:Int):Option (Int×Int):=if 0≤x∧x<18446744073709551616∧0≤y∧y<18446744073709551616∧0≤c∧c≤1 then some ((x+18446744073709551616-y-c)%18446744073709551616,if x<y+c then 1 else 0)else none
def kM{α:Type}(N:Nat)(l:List α)(i:Int)(v:List α):Option (List α):=if 0≤i∧i≤l.length∧v.length=1∧l.length+1<yE then some (l.take i.toNat++(v++l.drop i.toNat))else none
def Y6{α:Type}(N:Nat)(l:List α)(n:Int):Option (List α):=match l with
 |[x]=>if 0<n∧n<1048576 then some (List.replicate n.toNat x)else none
 |_=>none
def vB.S(N:Nat):lJ:={args:=[.v (.int .u64),.v (.int .u64),.v (.int .u64)],res:=[.v (.int .u64),.v (.int .u64)],quiet:=true,run:=λx=>vB N x.1 x.2.1 x.2.2}
def vC.S(N:Nat):lJ:={args:=[.v (.int .u64),.v (.int .u64),.v (.int .u64)],res:=[.v (.int .u64),.v (.int .u64)],quiet:=true,run:=λx=>vC N x.1 x.2.1 x.2.2}
def kN(e:Ty)(N:Nat):lJ:={args:=[.own e,.v (.int .i64),.own e],res:=[.own e],quiet:=false,run:=λx=>kM N x.1 x.2.1 x.2.2}
def aqJ(e:Ty)(N:Nat):lJ:={args:=[.v (.slice e),.v (.int .i64)],res:=[.own e],quiet:=false,run:=λx=>Y6 N x.1 x.2}
def ou{α:Type}(N:Nat)(l:List α):Option (List α):=if l.length<yE then some l else none
def wE(e:Ty)(N:Nat):lJ:={args:=[.v (.slice e)],res:=[.own e],quiet:=false,run:=λx=>ou N x}
end VM
namespace VM
abbrev df:Int×Int×Unit:=((0:Int),((0:Int),()))
abbrev cw:List (Int×Int×Unit):=[]
abbrev bf:Int×Int×Int×Unit:=((0:Int),((0:Int),((0:Int),())))
abbrev bK:List (Int×Int×Int×Unit):=[]
abbrev a7:Int×Int×Int×Int×Unit:=((0:Int),((0:Int),((0:Int),((0:Int),()))))
abbrev dh:List (Int×Int×Int×Int×Unit):=[]
abbrev ny:Int×Int×Int×Int×Int×Unit:=((0:Int),((0:Int),((0:Int),((0:Int),((0:Int),())))))
abbrev DZ:List (Int×Int×Int×Int×Int×Unit):=[]
abbrev fy:Int×Int×Int×Int×Int×Int×Unit:=((0:Int),((0:Int),((0:Int),((0:Int),((0:Int),((0:Int),()))))))
abbrev eh:List (Int×Int×Int×Int×Int×Int×Unit):=[]
abbrev zz7:Int×Int×Int×Int×Int×Int×Int×Unit:=((0:Int),((0:Int),((0:Int),((0:Int),((0:Int),((0:Int),((0:Int),())))))))
abbrev ee7:List (Int×Int×Int×Int×Int×Int×Int×Unit):=[]
abbrev zz8:Int×Int×Int×Int×Int×Int×Int×Int×Unit:=((0:Int),((0:Int),((0:Int),((0:Int),((0:Int),((0:Int),((0:Int),((0:Int),()))))))))
abbrev ee8:List (Int×Int×Int×Int×Int×Int×Int×Int×Unit):=[]
abbrev dV:List Int:=[]
abbrev pH:List Int×Unit:=(dV,())
end VM
end
section
namespace VM
open Go
def At(w:World)(b off:Nat)(cs:List Value):Prop:= ∀j v,cs[j]? =some v→w.cell? ⟨b,off+j,none⟩=some v
def Rd(w:World)(M:Nat→Prop):(τ:Ty)→List Value→τ.den→Prop
 | .int k,cs,x=>cs=[.int k x]
 | .bool,cs,x=>cs=[.bool x]
 | .str,cs,x=>cs=[.string x]
 | .slice e,cs,x=> ∃a cap,cs=[.slice a (List.length x) cap]∧List.length x≤cap∧
  ∀i (h:i<List.length x),∃b off,a=some ⟨b,off,none⟩∧b<w.heap.size∧ ¬M b∧ ∃cs',At w b (off+i*e.size) cs'∧Rd w M e cs' (List.get x ⟨i,h⟩)
 | .unit,cs,_=>cs=[]
 | .pair a b,cs,x=> ∃c1 c2,cs=c1++c2∧Rd w M a c1 x.1∧Rd w M b c2 x.2
 | .arr n e,cs,x=>List.length x=n∧ ∃SQ:List (List Value),SQ.length=n∧cs=SQ.flatten∧
  ∀i (h:i<List.length x) (h':i<SQ.length),Rd w M e SQ[i] (List.get x ⟨i,h⟩)
theorem o9{α:Type}(n:Nat): ∀(l:List (List α)),(∀i (h:i<l.length),l[i].length=n)→l.flatten.length=l.length*n
 |[],_=>by simp
 |a::l,h=>by
  have h0:=h 0 (by simp)
  have ih:=o9 n l (λi hi=>h (i+1) (by simp;omega))
  simp only[Ey]at h0
  simp only[zv,aT,aW,ih,h0,eG]
  omega
theorem Rd.length{w:World}{M:Nat→Prop}: ∀{τ:Ty} {cs:List Value} {x:τ.den},Rd w M τ cs x→cs.length=τ.size
 | .int _,_,_,h=>by simp only[Rd]at h;subst h;rfl
 | .bool,_,_,h=>by simp only[Rd]at h;subst h;rfl
 | .str,_,_,h=>by simp only[Rd]at h;subst h;rfl
 | .slice _,_,_,h=>by simp only[Rd]at h;obtain⟨a,cap,rfl,_⟩:=h;rfl
 | .unit,_,_,h=>by simp only[Rd]at h;subst h;rfl
 | .pair a b,_,_,h=>by
  simp only[Rd]at h
  obtain⟨c1,c2,rfl,h1,h2⟩:=h
  rw[aT,h1.length,h2.length];rfl
 | .arr n e,_,x,h=>by
  simp only[Rd]at h
  obtain⟨hn,SQ,hc,rfl,hr⟩:=h
  rw[o9 e.size SQ (λi hi=>(hr i ω hi).length),hc];rfl
structure fh(w:World)(M:Nat→Prop)(w':World)(M':Nat→Prop):Prop where
 size:w.heap.size≤w'.heap.size
 block: ∀b,b<w.heap.size→ ¬M b→w'.heap[b]? =w.heap[b]?
 less: ∀b,b<w.heap.size→M' b→M b
theorem agM{w:World}{b o:Nat}{v:Value}(h:w.cell? ⟨b,o,none⟩=some v):b<w.heap.size:=by
 simp only[World.cell?]at h
 rcases nq b w.heap.size with hb|hb
 ·exact hb
 ·simp[LG hb]at h
theorem At.cc{w w':World}{b off:Nat}{cs:List Value}(h:At w b off cs)(hb:w'.heap[b]? =w.heap[b]?):At w' b off cs:=by
 intro j v hj
 have:=h j v hj
 rw[World.cell?_of_block (w:=w) hb]
 exact this
theorem At.append{w:World}{b off:Nat}{c1 c2:List Value}:At w b off (c1++c2)↔At w b off c1∧At w b (off+c1.length) c2:=by
 constructor
 ·intro h
  refine⟨λj v hj=>h j v (by rw[sC];exact hj;exact(uK.1 hj).1),λj v hj=> ?_⟩
  have:=h (c1.length+j) v (by rw[oP ω];simpa using hj)
  rw[o7];exact this
 ·rintro⟨h1,h2⟩ j v hj
  by_cases fA:j<c1.length
  ·rw[sC fA]at hj;exact h1 j v hj
  ·rw[oP ω]at hj
   have:=h2 (j-c1.length) v hj
   rwa [show off+c1.length+(j-c1.length)=off+j from by omega]at this
theorem Rd.cc{w w':World}{M M':Nat→Prop}(k:fh w M w' M'): ∀{τ:Ty} {cs:List Value} {x:τ.den},Rd w M τ cs x→Rd w' M' τ cs x
 | .int _,_,_,h=>h
 | .bool,_,_,h=>h
 | .str,_,_,h=>h
 | .slice e,_,x,h=>by
  simp only[Rd]at h ⊢
  obtain⟨a,cap,rfl,hc,hr⟩:=h
  refine⟨a,cap,rfl,hc,λi hi=> ?_⟩
  obtain⟨b,off,ha,hb,hm,cs',p6,lh⟩:=hr i hi
  exact⟨b,off,ha,nc hb k.size,λh'=>hm (k.less b hb h'),_,p6.cc (k.block b hb hm),lh.cc k⟩
 | .unit,_,_,h=>h
 | .pair a b,_,_,h=>by
  simp only[Rd]at h ⊢
  obtain⟨c1,c2,rfl,h1,h2⟩:=h
  exact⟨c1,c2,rfl,h1.cc k,h2.cc k⟩
 | .arr n e,_,x,h=>by
  simp only[Rd]at h ⊢
  obtain⟨hn,SQ,hc,rfl,hr⟩:=h
  exact⟨hn,SQ,hc,rfl,λi hi lA=>(hr i hi lA).cc k⟩
theorem fh.refl(w:World)(M:Nat→Prop):fh w M w M:=⟨aI _,λ_ _ _=>rfl,λ_ _ h=>h⟩
theorem fh.trans{w w' w'':World}{M M' Px:Nat→Prop}(h:fh w M w' M')(k:fh w' M' w'' Px):fh w M w'' Px:=
 ⟨cA h.size k.size,λb hb hm=>(k.block b (nc hb h.size) (λh'=>hm (h.less b hb h'))).trans (h.block b hb hm),
  λb hb hm=>h.less b hb (k.less b (nc hb h.size) hm)⟩
def V(w:World)(M:Nat→Prop)(τ:Ty)(v:Value)(x:τ.den):Prop:=
 if τ.isAgg then ∃cs,v= .agg cs∧Rd w M τ cs.toList x else Rd w M τ [v] x
theorem V.cc{w w':World}{M M':Nat→Prop}(k:fh w M w' M'){τ:Ty}{v:Value}{x:τ.den}(h:V w M τ v x):V w' M' τ v x:=by
 unfold V at*
 split
 ·rename_i ha;rw[aj ha]at h;obtain⟨cs,rfl,h⟩:=h;exact⟨cs,rfl,h.cc k⟩
 ·rename_i ha;rw[ah ha]at h;exact h.cc k
theorem Rd.scalar{w:World}{M:Nat→Prop}{τ:Ty}{cs:List Value}{x:τ.den}(ha:τ.isAgg=false)(h:Rd w M τ cs x): ∃v,cs=[v]∧v.cells= #[v]:=by
 cases τ<;>simp only[Ty.isAgg,Bool.true_eq_false]at ha<;>simp only[Rd]at h
 ·exact⟨_,h,rfl⟩
 ·exact⟨_,h,rfl⟩
 ·exact⟨_,h,rfl⟩
 ·obtain⟨a,cap,rfl,_⟩:=h;exact⟨_,rfl,rfl⟩
theorem V.cells{w:World}{M:Nat→Prop}{τ:Ty}{v:Value}{x:τ.den}(h:V w M τ v x):Rd w M τ v.cells.toList x:=by
 unfold V at h
 by_cases ha:τ.isAgg=true
 ·rw[aj ha]at h;obtain⟨cs,rfl,h⟩:=h;exact h
 ·rw[ah ha]at h
  obtain⟨v',hv,hc⟩:=h.scalar (by simpa using ha)
  simp only[fv,ec]at hv
  subst hv
  rw[hc];exact h
def cI(τ:Ty)(cs:List Value):Value:=if τ.isAgg then .agg cs.toArray else cs.headD (.tuple #[])
theorem V.cI{w:World}{M:Nat→Prop}{τ:Ty}{cs:List Value}{x:τ.den}(h:Rd w M τ cs x):V w M τ (cI τ cs) x:=by
 unfold V VM.cI
 by_cases ha:τ.isAgg=true
 ·rw[aj ha,aj ha];exact⟨_,rfl,by simpa using h⟩
 ·rw[ah ha,ah ha]
  obtain⟨v',rfl,_⟩:=h.scalar (by simpa using ha)
  exact h
theorem Hn{w:World}{M:Nat→Prop}{τ:Ty}{cs:List Value}{x:τ.den}(h:Rd w M τ cs x):(cI τ cs).cells.toList=cs:=by
 unfold VM.cI
 by_cases ha:τ.isAgg=true
 ·rw[aj ha];simp[Value.cells]
 ·rw[ah ha]
  obtain⟨v',rfl,hc⟩:=h.scalar (by simpa using ha)
  simp[hc]
theorem Rd.oT{w:World}{M:Nat→Prop}: ∀{τ:Ty} {cs:List Value} {x:τ.den},Rd w M τ cs x→ ∀v∈cs,v.oneCell'=true
 | .int _,_,_,h=>by simp only[Rd]at h;subst h;simp[Value.oneCell']
 | .bool,_,_,h=>by simp only[Rd]at h;subst h;simp[Value.oneCell']
 | .str,_,_,h=>by simp only[Rd]at h;subst h;simp[Value.oneCell']
 | .slice _,_,_,h=>by simp only[Rd]at h;obtain⟨a,cap,rfl,_⟩:=h;simp[Value.oneCell']
 | .unit,_,_,h=>by simp only[Rd]at h;subst h;simp
 | .pair a b,_,_,h=>by
  simp only[Rd]at h
  obtain⟨c1,c2,rfl,h1,h2⟩:=h
  intro v hv
  rcases bo.1 hv with hv|hv
  ·exact h1.oT v hv
  ·exact h2.oT v hv
 | .arr n e,_,x,h=>by
  simp only[Rd]at h
  obtain⟨hn,SQ,hc,rfl,hr⟩:=h
  intro v hv
  obtain⟨l,hl,hvl⟩:=List.mem_flatten.1 hv
  obtain⟨i,hi,rfl⟩:=qI.1 hl
  exact(hr i ω hi).oT v hvl
def Ty.dr:Ty→List Value
 | .int k=>[.int k 0]
 | .bool=>[.bool false]
 | .str=>[.string ByteArray.empty]
 | .slice _=>[.slice none 0 0]
 | .unit=>[]
 | .pair a b=>a.dr++b.dr
 | .arr n e=>(List.replicate n e.dr).flatten
theorem Rd.zero(w:World)(M:Nat→Prop): ∀(τ:Ty),Rd w M τ τ.dr τ.zero
 | .int _| .bool| .str| .unit=>by simp[Rd,Ty.dr,Ty.zero]
 | .slice _=>by
  simp only[Rd,Ty.dr,Ty.zero]
  exact⟨none,0,rfl,aI _,λi h=>absurd h (by simp)⟩
 | .pair a b=>by
  simp only[Rd,Ty.dr,Ty.zero]
  exact⟨_,_,rfl,Rd.zero w M a,Rd.zero w M b⟩
 | .arr n e=>by
  simp only[Rd,Ty.dr,Ty.zero]
  refine⟨by simp,_,by simp,rfl,λi h h'=> ?_⟩
  simp only[LH,EB]
  exact Rd.zero w M e
end VM
end
section
namespace VM
open Go
def JE(P:Program)(τ:Ty)(t:TypeId):Prop:=
 ∃i,P.info? t=some i∧i.size=τ.size∧i.zero=some (cI τ τ.dr)∧i.bytes≤2048
def fR(P:Program):Ty→TypeId ⊕ (Array Field×Nat×Nat)→Prop
 | .int k,.inl t=>JE P (.int k) t∧P.underlying t=some (.int k)
 | .bool,.inl t=>JE P .bool t∧P.underlying t=some .bool
 | .str,.inl t=>JE P .str t∧P.underlying t=some .string
 | .slice e,.inl t=>JE P (.slice e) t∧ ∃e',P.underlying t=some (.slice e')∧fR P e (.inl e')
 | .arr n e,.inl t=>JE P (.arr n e) t∧ ∃e',P.underlying t=some (.array n e')∧fR P e (.inl e')
 | .unit,.inl t=>JE P .unit t∧ ∃fs,P.underlying t=some (.struct fs)∧fs.size=0
 | .unit,.inr (fs,n,_)=>fs.size=n
 | .pair a b,.inl t=>JE P (.pair a b) t∧ ∃fs f,P.underlying t=some (.struct fs)∧fs[0]? =some f∧f.offset=0∧fR P a (.inl f.type)∧fR P b (.inr (fs,1,a.size))
 | .pair a b,.inr (fs,n,off)=> ∃f,fs[n]? =some f∧f.offset=off∧fR P a (.inl f.type)∧fR P b (.inr (fs,n+1,off+a.size))
 |_,.inr _=>False
def kO(P:Program)(τ:Ty)(t:TypeId):Prop:=fR P τ (.inl t)
theorem kO.base{P:Program}{τ:Ty}{t:TypeId}(h:kO P τ t):JE P τ t:=by
 unfold kO at h;cases τ<;>simp only[fR]at h<;>exact h.1
theorem kO.int{P:Program}{k:IntKind}{t:TypeId}(h:kO P (.int k) t):P.underlying t=some (.int k):=by simp only[kO,fR]at h;exact h.2
theorem kO.bool{P:Program}{t:TypeId}(h:kO P .bool t):P.underlying t=some .bool:=by simp only[kO,fR]at h;exact h.2
theorem kO.str{P:Program}{t:TypeId}(h:kO P .str t):P.underlying t=some .string:=by simp only[kO,fR]at h;exact h.2
theorem kO.slice{P:Program}{e:Ty}{t:TypeId}(h:kO P (.slice e) t): ∃e',P.underlying t=some (.slice e')∧kO P e e':=by simp only[kO,fR]at h;exact h.2
theorem kO.arr{P:Program}{n:Nat}{e:Ty}{t:TypeId}(h:kO P (.arr n e) t): ∃e',P.underlying t=some (.array n e')∧kO P e e':=by simp only[kO,fR]at h;exact h.2
theorem kO.isSome{P:Program}{τ:Ty}{t:TypeId}(h:kO P τ t):(P.underlying t).isSome=true:=by
 unfold kO at h
 cases τ<;>simp only[fR]at h
 ·simp[h.2]
 ·simp[h.2]
 ·simp[h.2]
 ·obtain⟨_,e',h',_⟩:=h;simp[h']
 ·obtain⟨_,e',h',_⟩:=h;simp[h']
 ·obtain⟨_,e',f,h',_⟩:=h;simp[h']
 ·obtain⟨_,e',h',_⟩:=h;simp[h']
inductive Dh:(τ:Ty)→τ.den→Nat→(υ:Ty)→υ.den→Nat→Prop where
 |here {a b:Ty} (x:(Ty.pair a b).den):Dh (.pair a b) x 0 a x.1 0
 |there {a b:Ty} (x:(Ty.pair a b).den) {n:Nat} {υ:Ty} {y:υ.den} {o:Nat} (h:Dh b x.2 n υ y o):Dh (.pair a b) x (n+1) υ y (a.size+o)
theorem tP{α:Type}{r:α}: ∀{τ:Ty} {x:τ.den} {n:Nat} {k:(υ:Ty)→υ.den→Option α},xY τ x n k=some r→ ∃υ y o,Dh τ x n υ y o∧k υ y=some r
 | .pair a b,x,0,k,h=>⟨a,x.1,0,.here x,h⟩
 | .pair a b,x,n+1,k,h=>by
  obtain⟨υ,y,o,hf,hk⟩:=tP (τ:=b) (x:=x.2) (n:=n) (k:=k) h
  exact⟨υ,y,_,.there x hf,hk⟩
 | .int _,_,_,_,h| .bool,_,_,_,h| .str,_,_,_,h| .slice _,_,_,_,h| .unit,_,_,_,h| .arr _ _,_,_,_,h=>by simp[xY]at h
theorem Dh.bound{τ:Ty}{x:τ.den}{n:Nat}{υ:Ty}{y:υ.den}{o:Nat}(h:Dh τ x n υ y o):o+υ.size≤τ.size:=by
 induction h with
 |here x=>simp[Ty.size]
 |there x h ih=>simp only[Ty.size];omega
theorem Dh.rd{w:World}{M:Nat→Prop}{τ:Ty}{x:τ.den}{n:Nat}{υ:Ty}{y:υ.den}{o:Nat}(h:Dh τ x n υ y o):
  ∀{cs:List Value},Rd w M τ cs x→Rd w M υ ((cs.drop o).take υ.size) y:=by
 induction h with
 |here x=>
  intro cs hr
  simp only[Rd]at hr
  obtain⟨c1,c2,rfl,h1,_⟩:=hr
  rw[cM,wi h1.length];exact h1
 |there x h ih=>
  intro cs hr
  simp only[Rd]at hr
  obtain⟨c1,c2,rfl,h1,h2⟩:=hr
  rw[←jJ,nj h1.length]
  exact ih h2
theorem fR.kH{P:Program}{τ:Ty}{x:τ.den}{m:Nat}{υ:Ty}{y:υ.den}{o:Nat}(h:Dh τ x m υ y o):
  ∀{fs:Array Field} {n off:Nat},fR P τ (.inr (fs,n,off))→ ∃f,fs[n+m]? =some f∧f.offset=off+o∧kO P υ f.type:=by
 induction h with
 |here x=>
  intro fs n off hl
  simp only[fR]at hl
  obtain⟨f,hf,ho,ha,_⟩:=hl
  exact⟨f,hf,by simpa using ho,ha⟩
 |there x h ih=>
  intro fs n off hl
  simp only[fR]at hl
  obtain⟨f,hf,ho,_,hb⟩:=hl
  obtain⟨f',Bk,ho',JF⟩:=ih hb
  exact⟨f',by rw[←Bk];congr 1;omega,ω,JF⟩
theorem kO.kH{P:Program}{τ:Ty}{t:TypeId}{x:τ.den}{m:Nat}{υ:Ty}{y:υ.den}{o:Nat}(hl:kO P τ t)(h:Dh τ x m υ y o):
  ∃fs f,P.underlying t=some (.struct fs)∧fs[m]? =some f∧f.offset=o∧kO P υ f.type:=by
 unfold kO at hl
 cases h with
 |here x=>
  simp only[fR]at hl
  obtain⟨_,fs,f,hu,hf,ho,ha,_⟩:=hl
  exact⟨fs,f,hu,hf,ho,ha⟩
 |there x h=>
  simp only[fR]at hl
  obtain⟨_,fs,f,hu,hf,ho,_,hb⟩:=hl
  obtain⟨f',Bk,ho',JF⟩:=fR.kH h hb
  exact⟨fs,f',hu,by rw[←Bk];congr 1;omega,ω,JF⟩
inductive JG:List Step→(τ:Ty)→τ.den→(υ:Ty)→υ.den→Nat→Prop where
 |nil {τ:Ty} (x:τ.den):JG [] τ x τ x 0
 |kH {p:List Step} {τ υ σ:Ty} {x:τ.den} {n o:Nat} {y:υ.den} {z:σ.den} {q:Nat} (h:Dh τ x n υ y o) (r:JG p υ y σ z q):JG (.kH n::p) τ x σ z (o+q)
 |idx {p:List Step} {n:Nat} {e σ:Ty} {x:(Ty.arr n e).den} {i:Nat} {z:σ.den} {q:Nat} (r:JG p e (List.getD x i e.zero) σ z q):JG (.idx i::p) (.arr n e) x σ z (i*e.size+q)
theorem ki{α:Type}{r:α}: ∀{p:List Step} {τ:Ty} {x:τ.den} {k:(υ:Ty)→υ.den→Option α},zM p τ x k=some r→ ∃υ y o,JG p τ x υ y o∧k υ y=some r
 |[],τ,x,k,h=>⟨τ,x,0,.nil x,h⟩
 | .kH n::p,τ,x,k,h=>by
  obtain⟨υ,y,o,hf,h'⟩:=tP (h:xY τ x n _=some r)
  obtain⟨σ,z,q,hp,hk⟩:=ki h'
  exact⟨σ,z,_,.kH hf hp,hk⟩
 | .idx i::p,τ,x,k,h=>by
  cases τ with
  |arr n e=>
   obtain⟨σ,z,q,hp,hk⟩:=ki (p:=p) (τ:=e) (x:=List.getD x i e.zero) (k:=k) h
   exact⟨σ,z,_,.idx hp,hk⟩
  |_=>simp[zM,agL]at h
def vS:Ty→Nat→Ty
 | .pair a b,n=>match n with|0=>a|n+1=>vS b n
 |τ,_=>τ
def sf:Ty→Nat→Nat
 | .pair a b,n=>match n with|0=>0|n+1=>a.size+sf b n
 |_,_=>0
def elT:Ty→Ty
 | .arr _ e=>e
 |τ=>τ
def Ho:List Step→Ty→Ty
 |[],τ=>τ
 | .kH n::p,τ=>Ho p (vS τ n)
 | .idx _::p,τ=>Ho p (elT τ)
def cC:List Step→Ty→Nat
 |[],_=>0
 | .kH n::p,τ=>sf τ n+cC p (vS τ n)
 | .idx i::p,τ=>i*(elT τ).size+cC p (elT τ)
def ya:List Step→Ty→Prop
 |[],_=>True
 | .kH n::p,τ=>ya p (vS τ n)
 | .idx i::p,τ=>(∃n e,τ= .arr n e∧i<n)∧ya p (elT τ)
theorem Dh.eq{τ:Ty}{x:τ.den}{n:Nat}{υ:Ty}{y:υ.den}{o:Nat}(h:Dh τ x n υ y o):υ=vS τ n∧o=sf τ n:=by
 induction h with
 |here x=>exact⟨rfl,rfl⟩
 |there x h ih=>obtain⟨rfl,rfl⟩:=ih;exact⟨rfl,rfl⟩
theorem JG.eq{p:List Step}{τ:Ty}{x:τ.den}{υ:Ty}{y:υ.den}{o:Nat}(h:JG p τ x υ y o):υ=Ho p τ∧o=cC p τ:=by
 induction h with
 |nil x=>exact⟨rfl,rfl⟩
 |kH h r ih=>
  obtain⟨h1,h2⟩:=h.eq
  obtain⟨h3,h4⟩:=ih
  subst h1 h2 h3 h4
  exact⟨rfl,rfl⟩
 |idx r ih=>
  obtain⟨h3,h4⟩:=ih
  subst h3 h4
  exact⟨rfl,rfl⟩
theorem agO(p q:List Step): ∀τ,Ho (p++q) τ=Ho q (Ho p τ):=by
 induction p with
 |nil=>intro τ;rfl
 |cons s p ih=>intro τ;cases s<;>simp[Ho,ih]
theorem sF(p q:List Step): ∀τ,cC (p++q) τ=cC p τ+cC q (Ho p τ):=by
 induction p with
 |nil=>intro τ;simp[cC,Ho]
 |cons s p ih=>intro τ;cases s<;>simp[cC,Ho,ih,o7]
theorem sG(p q:List Step): ∀τ,ya (p++q) τ↔ya p τ∧ya q (Ho p τ):=by
 induction p with
 |nil=>intro τ;simp[ya,Ho]
 |cons s p ih=>intro τ;cases s<;>simp[ya,Ho,ih,and_assoc]
theorem kP{α:Type}(l:List α)(i:Nat)(d:α)(h:i<l.length):l.getD i d=l[i]:=by simp[List.getD,bl h]
theorem zN{α:Type}(n:Nat): ∀(l:List (List α)) (i:Nat) (h:i<l.length),(∀j (hj:j<l.length),l[j].length=n)→(l.flatten.drop (i*n)).take n=l[i]
 |a::l,0,_,hn=>by
  have:=hn 0 (by simp)
  simp only[Ey]at this
  simp[←this]
 |a::l,i+1,h,hn=>by
  have h0:=hn 0 (by simp)
  simp only[Ey]at h0
  rw[zv,eG,ke,Nat.add_comm (i*n) n,←jJ,nj h0]
  exact zN n l i (by simpa using h) (λj hj=>hn (j+1) (by simp;omega))
theorem Rd.idx{w:World}{M:Nat→Prop}{n:Nat}{e:Ty}{cs:List Value}{x:(Ty.arr n e).den}(h:Rd w M (.arr n e) cs x){i:Nat}(hi:i<n):
  Rd w M e ((cs.drop (i*e.size)).take e.size) (List.getD x i e.zero):=by
 simp only[Rd]at h
 obtain⟨hn,SQ,hc,rfl,hr⟩:=h
 rw[zN e.size SQ i ω (λj hj=>(hr j ω hj).length),kP x i e.zero ω]
 exact hr i ω ω
theorem JG.bound{p:List Step}{τ:Ty}{x:τ.den}{υ:Ty}{y:υ.den}{o:Nat}(h:JG p τ x υ y o):ya p τ→o+υ.size≤τ.size:=by
 induction h with
 |nil x=>intro _;simp
 |kH h r ih=>
  intro hi
  obtain⟨h1,h2⟩:=h.eq
  subst h1
  have:=ih hi
  have:=h.bound
  omega
 | @idx p n e σ x i z q r ih=>
  intro hi
  obtain⟨⟨n',e',he,m4⟩,lA⟩:=hi
  cases he
  have:=ih lA
  have h2:(i+1)*e.size≤n*e.size:=kK _ m4
  rw[eG]at h2
  simp only[Ty.size]
  omega
theorem JG.rd{w:World}{M:Nat→Prop}{p:List Step}{τ:Ty}{x:τ.den}{υ:Ty}{y:υ.den}{o:Nat}(h:JG p τ x υ y o):
  ya p τ→ ∀{cs:List Value},Rd w M τ cs x→Rd w M υ ((cs.drop o).take υ.size) y:=by
 induction h with
 |nil x=>intro _ cs hr;rw[cM,gl (by rw[hr.length];exact aI _)];exact hr
 |kH h r ih=>
  intro hi cs hr
  obtain⟨h1,h2⟩:=h.eq
  subst h1
  have:=ih hi (h.rd hr)
  have hb:=JG.bound r hi
  rw[qP,jJ,qQ,gZ ω]at this
  exact this
 | @idx p n e σ x i z q r ih=>
  intro hi cs hr
  obtain⟨⟨n',e',he,m4⟩,lA⟩:=hi
  cases he
  have:=ih lA (hr.idx m4)
  have hb:=JG.bound r lA
  rw[qP,jJ,qQ,gZ ω]at this
  exact this
def fj{α:Type}(cs:List α)(o:Nat)(new:List α):List α:=cs.take o++new++cs.drop (o+new.length)
theorem zO{α:Type}{a b:List α}{o:Nat}{new:List α}(h:o+new.length≤a.length):fj (a++b) o new=fj a o new++b:=by
 unfold fj
 rw[zj ω,zk ω]
 simp only[bM]
theorem xu{α:Type}{a b:List α}{o:Nat}{new:List α}:fj (a++b) (a.length+o) new=a++fj b o new:=by
 unfold fj
 rw[List.take_append,gl ω,zp,o7,List.drop_append,kJ ω,zp]
 simp
theorem gK{α:Type}{a:List α}{o:Nat}{new:List α}(h:o+new.length≤a.length):(fj a o new).length=a.length:=by
 unfold fj;simp;omega
theorem JH{α:Type}{a:List α}{o i n:Nat}{new:List α}(h:i+n≤o∨o+new.length≤i)(hl:o+new.length≤a.length):((fj a o new).drop i).take n=(a.drop i).take n:=by
 apply zw
 intro j
 simp only[lZ,mc]
 split
 ·rename_i hj
  unfold fj
  rcases h with h|h
  ·rw[bM,sC (by simp;omega),lZ,aj ω]
  ·rw[oP (by simp;omega)]
   simp only[aT,bO,gZ (show o≤a.length by omega),mc]
   congr 1;omega
 ·rfl
theorem agP{α:Type}{a:List α}{o:Nat}{new:List α}(hl:o+new.length≤a.length):((fj a o new).drop o).take new.length=new:=by
 unfold fj
 rw[bM,nj (by simp;omega),wi rfl]
theorem L1{α:Type}{l:List α}{o:Nat}{u:α}(h:l[o]? =some u):fj l o [u]=l:=by
 obtain⟨fA,rfl⟩:=uK.1 h
 unfold fj
 simp
theorem D0{α:Type}{l:List α}{o:Nat}{u:α}(h:o<l.length):(fj l o [u])[o]? =some u:=by
 unfold fj
 rw[bM,oP (by simp;omega)]
 simp[gZ (Nat.le_of_lt h)]
theorem tQ{τ:Ty}: ∀{n:Nat} {a:Ty},Jz τ n=some a→ ∀x:τ.den,∃y o,Dh τ x n a y o:=by
 induction τ with
 |pair a b _ Ve=>
  intro n c h x
  cases n with
  |zero=>cases h;exact⟨_,_,.here x⟩
  |succ n=>
   obtain⟨y,o,hf⟩:=Ve (n:=n) (a:=c) h x.2
   exact⟨y,_,.there x hf⟩
 |_=>intro n c h;simp[Jz]at h
theorem tR: ∀{p:List Step} {τ υ:Ty},gW p τ υ=true→ ∀x:τ.den,∃y o,JG p τ x υ y o
 |[],τ,υ,h,x=>by
  have h:=bF h
  subst h
  exact⟨x,0,.nil x⟩
 | .kH n::p,τ,υ,h,x=>by
  unfold gW at h
  split at h
  ·rename_i a ha
   obtain⟨y,o,hf⟩:=tQ ha x
   obtain⟨z,q,hp⟩:=tR h y
   exact⟨z,_,.kH hf hp⟩
  ·cases h
 | .idx _::_,_,_,h,_=>by simp[gW]at h
theorem kQ: ∀{p:List Step} {τ υ:Ty},gW p τ υ=true→ya p τ∧Ho p τ=υ
 |[],τ,υ,h=>⟨trivial,bF h⟩
 | .kH n::p,τ,υ,h=>by
  have h0:=h
  unfold gW at h
  split at h
  ·rename_i a ha
   obtain⟨y,o,hf⟩:=tQ ha τ.zero
   obtain⟨h1,h2⟩:=kQ h
   have:=hf.eq.1
   subst this
   exact⟨h1,h2⟩
  ·cases h
 | .idx _::_,_,_,h=>by simp[gW]at h
theorem Bl: ∀{p q:List Step},LP p q=true→p=q
 |[],[],_=>rfl
 | .kH a::p,.kH b::q,h=>by
  simp only[LP,bP]at h
  rw[fV h.1,Bl h.2]
 |[],_::_,h| .kH _::_,[],h| .idx _::_,_,h| .kH _::_,.idx _::_,h=>by simp[LP]at h
theorem Dh.apart{τ:Ty}{x:τ.den}{n:Nat}{υ:Ty}{y:υ.den}{o:Nat}(h:Dh τ x n υ y o): ∀{x':τ.den} {n':Nat} {υ':Ty} {y':υ'.den} {o':Nat},Dh τ x' n' υ' y' o'→n≠n'→o+υ.size≤o'∨o'+υ'.size≤o:=by
 induction h with
 |here x=>
  intro x' n' υ' y' o' h' iI
  cases h' with
  |here=>exact absurd rfl iI
  |there _ h'=>left;omega
 |there x h ih=>
  intro x' n' υ' y' o' h' iI
  cases h' with
  |here=>right;omega
  |there _ h'=>rcases ih h' (λe=>iI (by rw[e]))with h1|h1<;>omega
theorem JG.apart{p:List Step}{τ:Ty}{x:τ.den}{υ:Ty}{y:υ.den}{o:Nat}(h:JG p τ x υ y o):ya p τ→ ∀{q:List Step} {e:Ty},gW q τ (.slice e)=true→xX p q=false→cC q τ<o∨o+υ.size≤cC q τ:=by
 induction h with
 |nil x=>intro _ q e _ h;simp[xX]at h
 | @kH p τ υ σ x n o y z q hf r ih=>
  intro hi q' e hq hp
  obtain⟨h1,h2⟩:=hf.eq
  subst h1 h2
  cases q' with
  |nil=>
   have:=bF hq
   subst this
   cases hf
  |cons s q'=>
   cases s with
   |idx i=>simp[gW]at hq
   |kH m=>
    unfold gW at hq
    split at hq
    ·rename_i a ha
     obtain⟨y',o',Bk⟩:=tQ ha x
     obtain⟨h3,h4⟩:=Bk.eq
     subst h3 h4
     have hb:=r.bound hi
     obtain⟨h5,h6⟩:=kQ hq
     obtain⟨z',o2,H6⟩:=tR hq y'
     have ff:=H6.bound h5
     have ho2:=H6.eq.2
     subst ho2
     simp only[cC]
     by_cases hnm:n=m
     ·subst hnm
      have Co:xX p q'=false:=by
       simp only[xX,Bool.and_eq_false_iff]at hp
       rcases hp with hp|hp
       ·rw[tK]at hp;cases hp
       ·exact hp
      rcases ih hi hq Co with h7|h7<;>omega
     ·rcases hf.apart Bk hnm with h7|h7
      ·right;omega
      ·left
       have:1≤(Ty.slice e).size:=aI _
       omega
    ·cases hq
 | @idx p n e' σ x i z q r ih=>
  intro hi q' e hq hp
  cases q' with
  |nil=>have:=bF hq;cases this
  |cons s q'=>
   cases s with
   |idx i=>simp[gW]at hq
   |kH m=>simp[gW,Jz]at hq
def fL:Value→Option Nat
 | .pointer (some a)=>some a.block
 | .slice (some a) _ cap=>if cap=0 then none else some a.block
 |_=>none
def bh.mut:bh→Prop
 | .obj _ _| .own _ _| .gk _ _ _ _=>True
 |_=>False
def ER(w:World)(M:Nat→Prop)(v:Value):bh→Prop
 | .obj τ x=> ∃b cs t,v= .pointer (some ⟨b,0,none⟩)∧w.heap[b]? =some (.cells cs t (0,0))∧M b∧Rd w M τ cs.toList x
 | .gk τ x p _=> ∃b cs t sH u,v= .pointer (some ⟨b,0,none⟩)∧w.heap[b]? =some (.cells cs t (0,0))∧M b∧Rd w M τ sH x∧cs.toList=fj sH (cC p τ) [u]∧u.oneCell'=true∧ ∃e,gW p τ (.slice e)=true
 | .own e l=>(l=[]∧ ∃a,v= .slice a 0 0)∨
  ∃b cs t cap,v= .slice (some ⟨b,0,none⟩) l.length cap∧w.heap[b]? =some (.cells cs t (0,0))∧M b∧0<cap∧l.length≤cap∧cap≤maxLen∧cs.size=cap*e.size∧
   ∀i (h:i<l.length),Rd w M e ((cs.toList.drop (i*e.size)).take e.size) l[i]
 | .oS e l=>Rd w M (.slice e) [v] l∧((l=[]∧ ∃a n c,v= .slice a n c)∨ ∃b n c,v= .slice (some ⟨b,0,none⟩) n c)
 | .gone=>True
def AR(v:Value)(p:List Step)(u:Value):bh→Prop
 | .obj τ _| .gk τ _ _ _=>ya p τ∧ ∃b,v= .pointer (some ⟨b,0,none⟩)∧u= .pointer (some ⟨b,cC p τ,none⟩)
 | .own e l| .oS e l=> ∃i q,p= .idx i::q∧i<l.length∧ya q e∧ ∃b n c,v= .slice (some ⟨b,0,none⟩) n c∧u= .pointer (some ⟨b,i*e.size+cC q e,none⟩)
 | .gone=> ∃a,u= .pointer (some a)
mutual
def VR(w:World)(M:Nat→Prop)(H:Nat→Option bh)(ν:Nat→Value):bD→Value→Prop
 | .any,_=>True
 | .Vc,v=>v=undef
 | .val τ x,v=>V w M τ v x
 | .JA τ x n,v=>V w M τ v x∧ ∃cs a,v= .agg cs∧cs.toList[sf τ n]? =some (.slice a 0 0)
 | .emp,v=> ∃a,v= .slice a 0 0
 | .ref id,v=>H id≠none∧v=ν id
 | .jr id p,v=> ∃e,H id=some e∧AR (ν id) p v e
 | .qW τ x,v=> ∃b off,v= .pointer (some ⟨b,off,none⟩)∧b<w.heap.size∧ ¬M b∧ ∃cs,At w b off cs∧Rd w M τ cs x
 | .tup vs,v=> ∃us:List Value,v= .tuple us.toArray∧ju w M H ν vs us
 | .LR f caps,v=> ∃cs:List Value,v= .func (.func f) #[] cs.toArray∧ju w M H ν caps cs
def ju(w:World)(M:Nat→Prop)(H:Nat→Option bh)(ν:Nat→Value):List bD→List Value→Prop
 |[],[]=>True
 |a::as,v::vs=>VR w M H ν a v∧ju w M H ν as vs
 |_,_=>False
end
def bh.lK:bh→bh→Prop
 | .obj τ _,.obj υ _| .obj τ _,.gk υ _ _ _| .gk τ _ _ _,.obj υ _| .gk τ _ _ _,.gk υ _ _ _=>τ=υ
 | .own e l,.own f k| .own e l,.oS f k| .oS e l,.oS f k=>e=f∧l.length=k.length
 |_,.gone=>True
 |_,_=>False
structure s8(H:Nat→Option bh)(ν:Nat→Value)(H':Nat→Option bh)(ν':Nat→Value):Prop where
 ln: ∀i e,H i=some e→ ∃e',H' i=some e'∧e.lK e'
 head: ∀i,H i≠none→ν' i=ν i
theorem AR.ptr{v:Value}{p:List Step}{u:Value}{e:bh}(h:AR v p u e): ∃a,u= .pointer (some a):=by
 cases e<;>simp only[AR]at h
 ·obtain⟨_,b,_,h⟩:=h;exact⟨_,h⟩
 ·obtain⟨_,b,_,h⟩:=h;exact⟨_,h⟩
 ·obtain⟨i,q,_,_,_,b,n,c,_,h⟩:=h;exact⟨_,h⟩
 ·obtain⟨i,q,_,_,_,b,n,c,_,h⟩:=h;exact⟨_,h⟩
 ·exact h
theorem AR.lK{v:Value}{p:List Step}{u:Value}{e e':bh}(h:AR v p u e)(l:e.lK e'):AR v p u e':=by
 have hp:=h.ptr
 cases e<;>cases e'<;>simp only[bh.lK]at l<;>simp only[AR]at h ⊢ <;>try exact hp
 ·subst l;exact h
 ·subst l;exact h
 ·subst l;exact h
 ·subst l;exact h
 ·obtain⟨rfl,hl⟩:=l;obtain⟨i,q,hp,hi,r⟩:=h;exact⟨i,q,hp,ω,r⟩
 ·obtain⟨rfl,hl⟩:=l;obtain⟨i,q,hp,hi,r⟩:=h;exact⟨i,q,hp,ω,r⟩
 ·obtain⟨rfl,hl⟩:=l;obtain⟨i,q,hp,hi,r⟩:=h;exact⟨i,q,hp,ω,r⟩
theorem bh.lK.refl(e:bh):e.lK e:=by cases e<;>simp[bh.lK]
theorem s8.refl(H:Nat→Option bh)(ν:Nat→Value):s8 H ν H ν:=⟨λ_ e h=>⟨e,h,.refl e⟩,λ_ _=>rfl⟩
mutual
theorem VR.cc{w w':World}{M M':Nat→Prop}{H H':Nat→Option bh}{ν ν':Nat→Value}(k:fh w M w' M')(g:s8 H ν H' ν'):
  ∀{a:bD} {v:Value},VR w M H ν a v→VR w' M' H' ν' a v
 | .any,_,_=>by simp[VR]
 | .Vc,_,h=>by simpa [VR]using h
 | .val τ x,v,h=>by simp only[VR]at h ⊢;exact h.cc k
 | .JA τ x n,v,h=>by simp only[VR]at h ⊢;exact⟨h.1.cc k,h.2⟩
 | .emp,_,h=>by simpa [VR]using h
 | .ref id,_,h=>by
  simp only[VR]at h ⊢
  obtain⟨h1,h2⟩:=h
  obtain⟨e,he⟩:=Ep.1 h1
  obtain⟨e',wF,_⟩:=g.ln id e he
  exact⟨by simp[wF],by rw[g.head id h1];exact h2⟩
 | .jr id p,_,h=>by
  simp only[VR]at h ⊢
  obtain⟨e,he,ha⟩:=h
  obtain⟨e',wF,hl⟩:=g.ln id e he
  exact⟨e',wF,by rw[g.head id (by simp[he])];exact ha.lK hl⟩
 | .qW τ x,_,h=>by
  simp only[VR]at h ⊢
  obtain⟨b,off,rfl,hb,hm,cs,ha,hr⟩:=h
  exact⟨b,off,rfl,nc hb k.size,λh'=>hm (k.less b hb h'),cs,ha.cc (k.block b hb hm),hr.cc k⟩
 | .tup vs,_,h=>by
  simp only[VR]at h ⊢
  obtain⟨us,rfl,h⟩:=h
  exact⟨us,rfl,ju.cc k g h⟩
 | .LR f caps,_,h=>by
  simp only[VR]at h ⊢
  obtain⟨us,rfl,h⟩:=h
  exact⟨us,rfl,ju.cc k g h⟩
theorem ju.cc{w w':World}{M M':Nat→Prop}{H H':Nat→Option bh}{ν ν':Nat→Value}(k:fh w M w' M')(g:s8 H ν H' ν'):
  ∀{as:List bD} {vs:List Value},ju w M H ν as vs→ju w' M' H' ν' as vs
 |[],[],_=>by simp[ju]
 |a::as,v::vs,h=>by simp only[ju]at h ⊢;exact⟨VR.cc k g h.1,ju.cc k g h.2⟩
 |[],_::_,h=>by simp[ju]at h
 |_::_,[],h=>by simp[ju]at h
end
end VM
end
