/- A part of the proof of LotAll of layer 23: a machine that reads a function of the program as an equation between values. -/
import Derived.KernelRfl
import GoSem.Claims
import Derived.WalkKit
import Derived.ArgAppend
import Derived.Laws.CopyRow
import Derived.Laws.MakeOwn
import Derived.Laws.OwnMore
import Derived.Orders
import Derived.LoopN
set_option linter.all false
open List renaming length→ℓ, getD→γ
theorem ω{p:Prop}(h:p:=by omega):p:=h
theorem δ{p:Prop}(h:p:=by decide):p:=h
theorem κ{p:Prop}(h:p:=by kernel_rfl):p:=h
noncomputable section
abbrev al:=@Option.bind_some
abbrev aa:=@cond_true
abbrev ah:=@cond_false
abbrev ar:=@Int.toNat_natCast
abbrev aY:=@List.getD_eq_getElem?_getD
abbrev aJ:=@Array.length_toList
abbrev ba:=@List.getElem?_eq_getElem
abbrev a6:=@List.length_singleton
abbrev aO:=@List.length_append
abbrev ae:=@if_pos
abbrev af:=@if_neg
abbrev aR:=@List.mem_cons_of_mem
abbrev aG:=@List.length_cons
abbrev a5:=@List.length_replicate
abbrev bk:=@List.mem_append_left
abbrev aT:=@List.length_set
abbrev bl:=@List.mem_cons_self
abbrev a7:=@List.length_take
abbrev bF:=@List.mem_append_right
abbrev aH:=@Nat.le_refl
abbrev bg:=@Bool.and_eq_true
abbrev aS:=@Bool.not_true
abbrev bs:=@List.append_assoc
abbrev bm:=@decide_eq_false
abbrev bn:=@decide_eq_true
abbrev bt:=@List.mem_append
abbrev bO:=@of_decide_eq_true
abbrev cJ:=@Nat.eq_of_beq_eq_true
abbrev bx:=@Bool.not_false
abbrev bu:=@List.mem_cons
abbrev bM:=@List.length_nil
abbrev bP:=@Int.toNat_zero
abbrev dm:=@Array.getElem?_toList
abbrev cK:=@Option.some.injEq
abbrev cL:=@Option.mem_toList
abbrev bQ:=@List.map_cons
abbrev bX:=@List.drop_zero
abbrev dI:=@List.take_of_length_le
abbrev cy:=@List.append_nil
abbrev cM:=@List.cons.injEq
abbrev fO:=@Array.getElem?_eq_some_iff
abbrev ij:=@List.eq_nil_of_length_eq_zero
abbrev eT:=@List.drop_of_length_le
abbrev dn:=@List.length_drop
abbrev dJ:=@Bool.false_eq_true
abbrev dK:=@List.mem_singleton
abbrev eB:=@Nat.mul_le_mul_right
abbrev eU:=@List.getElem?_eq_none
abbrev dB:=@List.getElem_mem
abbrev du:=@Nat.min_eq_left
abbrev dv:=@List.map_append
abbrev cr:=@Nat.add_mul
abbrev ko:=@Int.mul_le_mul_of_nonneg_left
abbrev dZ:=@List.size_toArray
abbrev cN:=@List.mem_map
abbrev cO:=@Int.mul_comm
abbrev jf:=@List.drop_eq_getElem_cons
abbrev c7:=@Nat.zero_add
abbrev kq:=@List.getElem?_append_right
abbrev gI:=@Bool.and_eq_true_iff
abbrev ik:=@List.take_append_drop
abbrev dw:=@Int.mul_assoc
abbrev fP:=@Nat.lt_of_lt_of_le
abbrev kt:=@List.getElem?_append_left
abbrev gJ:=@List.map_congr_left
abbrev lW:=@Array.getD_eq_getD_getElem?
abbrev il:=@List.mem_of_mem_take
abbrev ny:=@Int.mul_le_mul_of_nonneg_right
abbrev gK:=@List.getElem?_take
abbrev gL:=@List.getElem?_drop
abbrev lX:=@List.getElem?_eq_some_iff
abbrev fQ:=@Bool.not_eq_true
abbrev fR:=@List.take_length
abbrev eC:=@List.drop_drop
abbrev im:=@decide_eq_true_iff
abbrev jg:=@Int.toNat_of_nonneg
abbrev fT:=@List.nil_append
abbrev lY:=@Option.bind_eq_some_iff
abbrev lZ:=@Int.eq_ofNat_of_zero_le
abbrev ea:=@Nat.le_trans
abbrev gM:=@Int.ediv_nonneg
abbrev eV:=@List.sum_cons
abbrev jh:=@List.nodup_append
abbrev ji:=@List.length_range
abbrev iq:=@List.length_map
abbrev cT:=@and_true
abbrev mb:=@List.mem_map_of_mem
abbrev mc:=@List.getElem_of_mem
abbrev ry:=@List.take_append_of_le_length
abbrev rz:=@List.drop_append_of_le_length
abbrev nz:=@Int.mul_ediv_add_emod
abbrev jj:=@List.drop_left'
abbrev eb:=@Array.ext'
abbrev me:=@Int.emod_lt_of_pos
abbrev mf:=@List.pairwise_cons
abbrev ir:=@Bool.true_and
abbrev rA:=@Option.ne_none_iff_exists'
abbrev cP:=@Ne.symm
abbrev pT:=@Int.ediv_lt_iff_lt_mul
abbrev cU:=@if_false
abbrev fh:=@List.map_nil
abbrev eG:=@Int.mul_add
abbrev js:=@Bool.or_eq_true
abbrev mT:=@List.length_pos_iff
abbrev gq:=@Nat.lt_or_ge
abbrev gr:=@Nat.add_zero
abbrev fi:=@Nat.one_mul
abbrev fj:=@Int.le_refl
abbrev fk:=@Nat.zero_le
abbrev kN:=@List.cons_append
abbrev kO:=@List.all_eq_true
abbrev jt:=@Int.mul_nonneg
abbrev rB:=@Int.add_mul_emod_self_left
abbrev oQ:=@List.getElem?_toArray
abbrev oR:=@Int.add_mul_ediv_left
abbrev rC:=@List.mem_or_eq_of_mem_set
abbrev kP:=@Int.emod_nonneg
abbrev oS:=@List.mem_iff_getElem
abbrev mU:=@Bool.not_eq_true'
abbrev gu:=@Int.add_mul
abbrev ju:=@Nat.add_assoc
abbrev rD:=@List.getElem_append_left
abbrev rE:=@List.eq_of_mem_replicate
abbrev jv:=@Bool.and_true
abbrev kQ:=@List.drop_take
abbrev kR:=@List.take_take
abbrev rF:=@Nat.add_sub_cancel_left
abbrev kS:=@List.take_zero
abbrev rG:=@List.getElem?_replicate
abbrev mV:=@decide_eq_decide
abbrev rH:=@List.getElem_cons_zero
abbrev rI:=@List.getElem_replicate
abbrev jw:=@Nat.beq_refl
abbrev rJ:=@Option.map_eq_some_iff
abbrev jx:=@Nat.pow_succ
abbrev rK:=@Int.ediv_eq_zero_of_lt
abbrev jy:=@List.sum_nil
abbrev rL:=@List.drop_eq_nil_of_le
abbrev mW:=@Bool.eq_iff_iff
abbrev mX:=@List.headD_cons
abbrev rM:=@Nat.le_of_ble_eq_true
abbrev oT:=@List.ext_getElem?
abbrev wq:=@Nat.two_pow_add_eq_or_of_lt
abbrev oU:=@Bool.eq_false_iff
abbrev rN:=@Array.getElem_toList
abbrev mY:=@List.tail_cons
abbrev jz:=@Int.one_mul
abbrev wu:=@Int.tdiv_eq_ediv_of_nonneg
abbrev kT:=@Int.le_of_lt
abbrev oV:=@Option.getD_some
abbrev wv:=@List.getElem_append_right
abbrev wx:=@Int.le_of_mul_le_mul_left
abbrev rO:=@List.replicate_succ
abbrev rP:=@List.replicate_zero
abbrev mZ:=@Prod.mk.injEq
abbrev oW:=@List.take_left'
abbrev ed:=@if_true
abbrev oX:=@List.mem_filter
abbrev oY:=@Int.natCast_add
abbrev oZ:=@List.sum_append
abbrev rQ:=@List.getElem_range
abbrev wy:=@List.getElem?_cons_zero
abbrev kU:=@Nat.sub_mul
abbrev rR:=@List.flatten_cons
abbrev gv:=@congrArg
abbrev o3:=@List.mem_range
abbrev rS:=@List.getElem?_map
abbrev o4:=@Bool.false_and
abbrev rT:=@decide_eq_true_eq
abbrev Bm:=@Array.getElem?_setIfInBounds_ne
abbrev Bn:=@Nat.and_two_pow_sub_one_eq_mod
abbrev rU:=@List.drop_length
abbrev o5:=@Bool.or_false
abbrev wz:=@List.mem_of_mem_drop
abbrev wA:=@Nat.pow_le_pow_right
abbrev m0:=@Int.mul_neg
abbrev rV:=@List.nodup_cons
abbrev rW:=@Int.natCast_mul
abbrev wB:=@List.get_eq_getElem
abbrev o6:=@Int.le_trans
abbrev o7:=@Int.add_zero
abbrev rX:=@Nat.mul_le_mul
abbrev rY:=@List.mapM_cons
abbrev wC:=@Bool.false_ne_true
abbrev Bo:=@Int.fdiv_eq_ediv_of_nonneg
abbrev wD:=@Int.lt_of_le_of_lt
abbrev Bp:=@Array.getElem?_eq_getElem
abbrev Bq:=@Classical.byContradiction
abbrev Br:=@List.pairwise_iff_getElem
abbrev o8:=@Nat.mul_one
abbrev wE:=@List.getElem_take
abbrev wF:=@List.take_add_one
abbrev wG:=@Int.emod_eq_of_lt
abbrev rZ:=@List.all_cons
abbrev sa:=@Bool.false_or
abbrev Bs:=@Int.mul_ediv_cancel_left
abbrev wH:=@List.getElem_map
abbrev wI:=@List.not_mem_nil
abbrev wJ:=@List.any_eq_true
abbrev Bt:=@List.length_eq_zero_iff
abbrev wK:=@beq_self_eq_true
abbrev Bu:=@decide_eq_false_iff_not
abbrev wL:=@List.ext_getElem
abbrev Bv:=@List.pairwise_singleton
abbrev Bx:=@Array.getElem?_eq_none
abbrev o9:=@Nat.beq_eq
abbrev By:=@List.head?_eq_getElem?
abbrev sb:=@Nat.mul_comm
abbrev Bz:=@List.append_eq_nil_iff
abbrev sd:=@Int.pow_succ
abbrev wM:=@List.range_succ
abbrev BA:=@List.length_filter_le
abbrev BB:=@Nat.div_lt_iff_lt_mul
abbrev BC:=@Int.ediv_le_of_le_mul
abbrev wN:=@List.nodup_nil
abbrev se:=@Int.mul_sub
abbrev wO:=@Nat.lt_irrefl
abbrev sf:=@Nat.blt_eq
abbrev sg:=@Nat.ble_eq
abbrev wP:=@Nat.sub_self
abbrev wQ:=@Nat.zero_mul
abbrev wR:=@Nat.log2_def
abbrev wS:=@Int.sub_zero
section
namespace VM
open Go
theorem SN{α:Type}(a:α): ∃b:α,b=a:=⟨a,rfl⟩
def hid{α:Type}(a:α):α:=Classical.choose (SN a)
theorem gg{α:Type}(a:α):hid a=a:=Classical.choose_spec (SN a)
def sh:Nat:=68719476736
def W:IntKind→Int→Int:=hid λk x=>k.wrap x
def aX:Int→Int→Bool:=hid λx y=>decide (x<y)
def c4:Int→Int→Bool:=hid λx y=>decide (x≤y)
def bq:Int→Int→Bool:=hid λx y=>decide (x=y)
def bB:Int→Nat→Bool:=hid λi n=>decide (0≤i∧i<(n:Int))
def small:Nat→Bool:=hid λn=>decide (n<sh)
def gh:Int→Int→Bool:=hid λl c=>decide (0≤l∧l≤c∧c<(sh:Int))
def kf:Int→Int→Int→Int→Bool:=hid λl h m n=>decide (0≤l∧l≤h∧h≤m∧m≤n)
def quo:Int→Int→Int:=hid λx y=>x.tdiv y
def rem:Int→Int→Int:=hid λx y=>x.tmod y
def shl:IntKind→Int→Int→Int:=hid λk x y=>x*2^(min y.toNat k.bits)
def shr:IntKind→Int→Int→Int:=hid λk x y=>x.fdiv (2^(min y.toNat k.bits))
def mx:Int→Int→Int:=hid λx y=>if y>x then y else x
def mn:Int→Int→Int:=hid λx y=>if y<x then y else x
def HM:ByteArray→ByteArray→Bool:=hid λx y=>decide (x.toList=y.toList)
theorem vj(k:IntKind)(x:Int):W k x=k.wrap x:=by unfold W;rw[gg]
theorem nA(x y:Int):aX x y=decide (x<y):=by unfold aX;rw[gg]
theorem kV(x y:Int):c4 x y=decide (x≤y):=by unfold c4;rw[gg]
theorem eD(x y:Int):bq x y=decide (x=y):=by unfold bq;rw[gg]
theorem HN(i:Int)(n:Nat):bB i n=decide (0≤i∧i<(n:Int)):=by unfold bB;rw[gg]
theorem wT(n:Nat):small n=decide (n<sh):=by unfold small;rw[gg]
theorem ti(l c:Int):gh l c=decide (0≤l∧l≤c∧c<(sh:Int)):=by unfold gh;rw[gg]
theorem pa(l h m n:Int):kf l h m n=decide (0≤l∧l≤h∧h≤m∧m≤n):=by unfold kf;rw[gg]
theorem zY(x y:Int):quo x y=x.tdiv y:=by unfold quo;rw[gg]
theorem HO(x y:Int):rem x y=x.tmod y:=by unfold rem;rw[gg]
theorem HQ(k:IntKind)(x y:Int):shl k x y=x*2^(min y.toNat k.bits):=by unfold shl;rw[gg]
theorem D2(k:IntKind)(x y:Int):shr k x y=x.fdiv (2^(min y.toNat k.bits)):=by unfold shr;rw[gg]
theorem SO(x y:Int):mx x y=if y>x then y else x:=by unfold mx;rw[gg]
theorem SP(x y:Int):mn x y=if y<x then y else x:=by unfold mn;rw[gg]
theorem wU(x y:ByteArray):HM x y=decide (x.toList=y.toList):=by unfold HM;rw[gg]
inductive Bw where|and|or|xor|andNot
def hZ:Bw→IntKind→Int→Int→Int:=hid λo k x y=>
 let a:=BitVec.ofInt k.bits x
 let b:=BitVec.ofInt k.bits y
 k.wrap (match o with| .and=>a&&& b| .or=>a|||b| .xor=>a^^^b| .andNot=>a&&& ~~~b).toNat
theorem nB(o:Bw)(k:IntKind)(x y:Int):hZ o k x y=
 let a:=BitVec.ofInt k.bits x
 let b:=BitVec.ofInt k.bits y
 k.wrap (match o with| .and=>a&&& b| .or=>a|||b| .xor=>a^^^b| .andNot=>a&&& ~~~b).toNat:=by unfold hZ;rw[gg]
def strOf(l:List Nat):ByteArray:=⟨(l.map UInt8.ofNat).toArray⟩
inductive Ty where
 |int (k:IntKind)
 |bool
 |str
 |slice (e:Ty)
 |unit
 |pair (a b:Ty)
 |arr (n:Nat) (e:Ty)
 deriving DecidableEq
@[reducible] def Ty.den:Ty→Type
 | .int _=>Int
 | .bool=>Bool
 | .str=>ByteArray
 | .slice e=>List e.den
 | .unit=>Unit
 | .pair a b=>a.den×b.den
 | .arr _ e=>List e.den
def Ty.size:Ty→Nat
 | .int _| .bool| .str| .slice _=>1
 | .unit=>0
 | .pair a b=>a.size+b.size
 | .arr n e=>n*e.size
def Ty.isAgg:Ty→Bool
 | .unit| .pair _ _| .arr _ _=>true
 |_=>false
def Ty.zero:(τ:Ty)→τ.den
 | .int _=>(0:Int)
 | .bool=>false
 | .str=>ByteArray.empty
 | .slice _=>[]
 | .unit=>()
 | .pair a b=>(a.zero,b.zero)
 | .arr n e=>List.replicate n e.zero
def Ty.flat:Ty→Bool
 | .slice _=>false
 | .pair a b=>a.flat&&b.flat
 | .arr _ e=>e.flat
 |_=>true
def Ty.comparable:Ty→Bool
 | .slice _=>false
 | .pair a b=>a.comparable&&b.comparable
 | .arr _ _=>false
 |_=>true
def SQ{α:Type}(f:α→α→Bool):List α→List α→Bool
 |[],[]=>true
 |x::xs,y::ys=>f x y&&SQ f xs ys
 |_,_=>false
def mg:(τ:Ty)→τ.den→τ.den→Bool
 | .int _,x,y=>bq x y
 | .bool,x,y=>x==y
 | .str,x,y=>HM x y
 | .slice _,_,_=>false
 | .unit,_,_=>true
 | .pair a b,x,y=>mg a x.1 y.1&&mg b x.2 y.2
 | .arr _ e,x,y=>SQ (mg e) x y
inductive Step where
 |dS (n:Nat)
 |idx (i:Nat)
def yL:List Step→List Step→Bool
 |[],[]=>true
 | .dS a::p,.dS b::q=>Nat.beq a b&&yL p q
 |_,_=>false
def qk:List Step→List Step→Bool
 |[],_=>true
 | .dS a::p,.dS b::q=>Nat.beq a b&&qk p q
 |_,_=>false
def qm:Ty→Nat→Option Ty
 | .pair a b,n=>match n with
  |0=>some a
  |n+1=>qm b n
 |_,_=>none
def cQ:List Step→Ty→Ty→Bool
 |[],τ,υ=>decide (τ=υ)
 | .dS n::p,τ,υ=>match qm τ n with
  |some a=>cQ p a υ
  |none=>false
 |_,_,_=>false
inductive aF where
 |any
 |HS
 |val (τ:Ty) (x:τ.den)
 |zZ (τ:Ty) (x:τ.den) (n:Nat)
 |yM (τ:Ty) (x:τ.den) (n:Nat) (j:Nat)
 |sub (id:Nat) (e:Ty) (lo:Nat)
 |emp
 |ref (id:Nat)
 |dQ (id:Nat) (p:List Step)
 |kW (τ:Ty) (x:τ.den)
 |Sa (vs:List aF)
 |BD (f:Nat) (kX:List aF)
inductive az where
 |obj (τ:Ty) (x:τ.den)
 |dj (τ:Ty) (x:τ.den) (p:List Step) (j:Nat)
 |own (e:Ty) (l:List e.den)
 |jk (e:Ty) (l:List e.den)
 |cV (e:Ty) (l:List (List e.den)) (o:Option Nat)
 |gone
structure St where
 T:Nat→aF
 H:Nat→Option az
def St.put(σ:St)(d:Nat)(v:aF):St:=⟨λi=>cond (Nat.beq i d) v (σ.T i),σ.H⟩
def St.dT(σ:St)(d:Nat)(v:Option az):St:=⟨σ.T,λi=>cond (Nat.beq i d) v (σ.H i)⟩
def St.oK(σ:St)(d:Option Nat)(v:aF):St:=match d with|some d=>σ.put d v|none=>σ
def BE(n:Nat)(io:List Nat):Option Nat→Bool|some d=>Nat.blt d n&&io.all (λi=> !(Nat.beq i d))|none=>true
def St.pb(σ:St):List (Nat×Option az)→St
 |[]=>σ
 |u::r=>(σ.dT u.1 u.2).pb r
abbrev S0:St:=⟨λ_=> .any,λ_=>none⟩
abbrev dR:=List (Nat×Option az)
section K
variable{α:Type}
def nC:(τ:Ty)→τ.den→Nat→((υ:Ty)→υ.den→Option α)→Option α
 | .pair a b,x,n,k=>match n with
  |0=>k a x.1
  |n+1=>nC b x.2 n k
 |_,_,_,_=>none
def c8:(τ:Ty)→τ.den→Nat→((υ:Ty)→υ.den→(υ.den→Option α)→Option α)→(τ.den→Option α)→Option α
 | .pair a b,x,n,m,k=>match n with
  |0=>m a x.1 λz=>k (z,x.2)
  |n+1=>c8 b x.2 n m λz=>k (x.1,z)
 |_,_,_,_,_=>none
def ef(τ υ:Ty)(k:Option α):Option α:=if τ=υ then k else none
def bc(υ τ:Ty)(y:υ.den)(k:τ.den→Option α):Option α:=if h:υ=τ then k (h▸y)else none
def OJ(τ:Ty)(x:τ.den)(i:Nat)(k:(υ:Ty)→υ.den→Option α):Option α:=
 match τ,x with
 | .arr _ e,x=>k e (γ x i e.zero)
 |_,_=>none
def vL(τ:Ty)(x:τ.den)(i:Nat)(m:(υ:Ty)→υ.den→(υ.den→Option α)→Option α)(k:τ.den→Option α):Option α:=
 match τ,x,k with
 | .arr _ e,x,k=>m e (γ x i e.zero) λz=>k (List.set x i z)
 |_,_,_=>none
def si:List Step→(τ:Ty)→τ.den→((υ:Ty)→υ.den→Option α)→Option α
 |[],τ,x,k=>k τ x
 | .dS n::p,τ,x,k=>nC τ x n fun υ y=>si p υ y k
 | .idx i::p,τ,x,k=>OJ τ x i fun υ y=>si p υ y k
def oL(υ:Ty)(y:υ.den):List Step→(τ:Ty)→τ.den→(τ.den→Option α)→Option α
 |[],τ,_,k=>bc υ τ y k
 | .dS n::p,τ,x,k=>c8 τ x n (fun υ' y' k'=>oL υ y p υ' y' k') k
 | .idx i::p,τ,x,k=>vL τ x i (fun υ' y' k'=>oL υ y p υ' y' k') k
def gS(fz:Bool)(a:aF)(H:Nat→Option az)(τ:Ty)(k:τ.den→List Nat→dR→Option α):Option α:=
 match a with
 | .val υ x=>bc υ τ x λy=>k y [] []
 | .zZ υ x _=>bc υ τ x λy=>k y [] []
 | .emp=>match τ,k with
  | .slice _,k=>k [] [] []
  |_,_=>none
 | .ref id=>match H id with
  |some (.own e l)=>bc (.slice e) τ l λy=>k y [id] (cond fz [(id,some (.jk e l))] [])
  |some (.jk e l)=>bc (.slice e) τ l λy=>k y [id] []
  |_=>none
 |_=>none
def BF(a:aF)(k:(τ:Ty)→τ.den→Option α):Option α:=
 match a with
 | .val υ x=>k υ x
 |_=>none
def gi(id:Nat)(p:List Step)(H:Nat→Option az)(k:Ty→Option α):Option α:=
 match H id with
 |some (.obj τ x)=>si p τ x fun υ _=>k υ
 |some (.dj τ x _ _)=>si p τ x fun υ _=>k υ
 |some (.own e l)|some (.jk e l)=>match p with
  | .idx i::p=>si p e (γ l i e.zero) fun υ _=>k υ
  |_=>none
 |_=>none
def Z1(a:aF)(H:Nat→Option az)(k:(τ:Ty)→τ.den→List Nat→Option α):Option α:=
 match a with
 | .val υ x=>k υ x []
 | .ref id=>match H id with
  |some (.own e l)|some (.jk e l)=>k (.slice e) l [id]
  |_=>none
 |_=>none
def oM(a:aF)(k:IntKind→Int→Option α):Option α:=
 match a with
 | .val (.int i) x=>k i x
 |_=>none
end K
inductive AM where
 |v (τ:Ty)
 |own (e:Ty)
 |io (τ:Ty)
 |fn (f:Nat) (τ:Ty)
 |ptr (τ:Ty)
 |dQ (τ:Ty)
 |lo (e:Ty)
 |sp (τ:Ty) (n:Nat) (e:Ty)
 deriving DecidableEq
@[reducible] def AM.den:AM→Type
 | .v τ=>τ.den
 | .own e=>List e.den
 | .io τ=>τ.den
 | .fn _ τ=>τ.den
 | .ptr τ=>τ.den
 | .dQ τ=>τ.den
 | .lo e=>List e.den
 | .sp τ _ _=>τ.den
@[reducible] def HP:List AM→Type
 |[]=>Unit
 |[m]=>m.den
 |m::n::ms=>m.den×HP (n::ms)
structure jU where
 args:List AM
 res:List AM
 quiet:Bool
 run:HP args→Option (HP res)
inductive CM where
 |v (τ:Ty)
 |own (e:Ty)
 |obj (τ:Ty)
 |dj (τ:Ty) (q:List Step) (e:Ty)
 |same (s:Nat)
 |io (τ:Ty)
 |fn (f:Nat) (τ:Ty)
 |cV (e:Ty)
structure Env where
 nt:Nat
 ty:Nat→Option Ty
 Γ:Nat→List jU
 N:Nat
 pc:Nat→Option (List (Nat×CM))
 qn:Nat→Option (List (Nat×CM))
 io:List Nat:=[]
 lk:Option (Ty×List Step×Ty×List Nat):=none
def Env.vw(E:Env):Bool:=match E.lk with
 |some (_,_,_,ds)=>ds.any λd=>Nat.beq d 1000001
 |none=>false
def Env.cV(E:Env):Bool:=match E.lk with
 |some (_,_,_,ds)=>ds.any λd=>Nat.beq d 1000002
 |none=>false
def FY(E:Env)(n d:Nat):Bool:=match E.lk with
 |some (_,_,_,ds)=>ds.any λx=>Nat.beq x (n+d)
 |none=>false
def Env.sp(E:Env):Bool:=match E.lk with
 |some (_,_,_,ds)=>ds.any λd=>Nat.beq d 1000000
 |none=>false
def SR(E:Env)(τ:Ty):Option (List Step×Ty):=match E.lk with
 |some (υ,q,e,_)=>cond (decide (υ=τ)) (cond (cQ q τ (.slice e)) (some (q,e)) none) none
 |none=>none
def yN(E:Env)(τ:Ty)(id:Nat):Option (List Step×Ty):=match E.lk with
 |some (_,_,_,ds)=>cond (ds.any λd=>Nat.beq (id/16) d) (SR E τ) none
 |none=>none
def W4:Value→aF
 | .int k n=> .val (.int k) n
 | .bool b=> .val .bool b
 | .string s=> .val .str s
 | .slice none 0 0=> .emp
 |_=> .any
def St.ρ (σ:St):Operand→aF
 | .tmp t=>σ.T t
 | .const v=>W4 v
 | .global _=> .any
 | .func f=> .BD f []
section
variable{α:Type}
def nD(op:BinOp)(k:IntKind)(x y:Int)(K:aF→Option α):Option α:=
 match op with
 | .add=>K (.val (.int k) (W k (x+y)))
 | .sub=>K (.val (.int k) (W k (x-y)))
 | .mul=>K (.val (.int k) (W k (x*y)))
 | .quo=>cond (bq y 0) none (K (.val (.int k) (W k (quo x y))))
 | .rem=>cond (bq y 0) none (K (.val (.int k) (rem x y)))
 | .and=>K (.val (.int k) (hZ .and k x y))
 | .or=>K (.val (.int k) (hZ .or k x y))
 | .xor=>K (.val (.int k) (hZ .xor k x y))
 | .andNot=>K (.val (.int k) (hZ .andNot k x y))
 | .eql=>K (.val .bool (bq x y))
 | .neq=>K (.val .bool (!bq x y))
 | .lss=>K (.val .bool (aX x y))
 | .leq=>K (.val .bool (c4 x y))
 | .gtr=>K (.val .bool (aX y x))
 | .geq=>K (.val .bool (c4 y x))
 |_=>none
def KU(op:BinOp)(k:IntKind)(x y:Int)(K:aF→Option α):Option α:=
 match op with
 | .shl=>cond (aX y 0) none (K (.val (.int k) (W k (shl k x y))))
 | .shr=>cond (aX y 0) none (K (.val (.int k) (shr k x y)))
 |_=>none
def KV:BinOp→Bool
 | .shl| .shr=>true
 |_=>false
def wV(t:Option Ty)(op:BinOp)(τ:Ty)(x:τ.den)(υ:Ty)(y:υ.den)(K:aF→Option α):Option α:=
 match τ,x,υ,y with
 | .int k,x,.int k',y=>cond (KV op) (KU op k x y K) (if k=k' then nD op k x y K else none)
 |τ,x,υ,y=>match t with
  |none=>none
  |some u=>ef u τ (cond τ.comparable (match op with
   | .eql=>bc υ τ y λy=>K (.val .bool (mg τ x y))
   | .neq=>bc υ τ y λy=>K (.val .bool (!mg τ x y))
   |_=>none) none)
def FZ(op:UnOp)(a:aF)(K:aF→Option α):Option α:=
 match op,a with
 | .neg,.val (.int k) n=>K (.val (.int k) (W k (0-n)))
 | .xor,.val (.int k) n=>K (.val (.int k) (hZ .xor k (if k.signed then-1 else k.max) n))
 | .not,.val .bool b=>K (.val .bool (!b))
 |_,_=>none
abbrev dp(α:Type):=aF→List Nat→dR→Option α
def KA(up:Bool):aF→List aF→(aF→Option α)→Option α
 |a,[],K=>K a
 |a,b::r,K=>oM a λk x=>oM b λk' y=>if k=k' then KA up (.val (.int k) (cond up (mx x y) (mn x y))) r K else none
def BG(τ:Ty)(a:aF)(H:Nat→Option az)(K:dp α):Option α:=
 match τ,a with
 | .slice _,.val (.slice _) l=>K (.val (.int .i64) (ℓ l:Int)) [] []
 | .arr n _,.val (.arr _ _) _=>K (.val (.int .i64) (n:Int)) [] []
 | .str,.val .str s=>K (.val (.int .i64) (ByteArray.size s:Int)) [] []
 | .slice _,.emp=>K (.val (.int .i64) (0:Int)) [] []
 | .slice _,.ref id=>match H id with
  |some (.own _ l)|some (.jk _ l)=>K (.val (.int .i64) (l.length:Int)) [id] []
  |_=>none
 |_,_=>none
def ku(H:Nat→Option az)(id:Nat)(e:az)(K:Option α):Option α:=
 match H id with
 |none=>K
 |some _=>none
def BH(id:Nat)(e:Ty)(a b:aF)(H:Nat→Option az)(K:dp α):Option α:=
 gS false b H (.slice e) λys rd _=>
  match a with
  | .emp=>cond (small (ℓ ys)) (K (.ref id) (id::rd) [(id,some (.own e ys))]) none
  | .ref j=>match H j with
   |some (.own e' l)=>bc (.slice e') (.slice e) l λxs=>
    cond (small (ℓ xs+ℓ ys)) (K (.ref id) (id::j::rd) [(j,some .gone),(id,some (.own e (xs++ys)))]) none
   |_=>none
  |_=>none
def gj(τ:Ty)(H:Nat→Option az):List (Nat×aF)→τ.den→List Nat→dR→(τ.den→List Nat→dR→Option α)→Option α
 |[],x,rd,ups,K=>K x rd ups
 |p::r,x,rd,ups,K=>nC τ x p.1 fun υ _=>gS true p.2 H υ λy pU eg=>
  c8 τ x p.1 (fun υ' _ k'=>bc υ υ' y k') λz=>gj τ H r z (pU++rd) (ups++eg) K
def pd(e:Ty)(H:Nat→Option az)(n:Nat):List (Nat×aF)→List e.den→List Nat→dR→(List e.den→List Nat→dR→Option α)→Option α
 |[],l,rd,ups,K=>K l rd ups
 |p::r,l,rd,ups,K=>cond (Nat.blt p.1 n) (gS true p.2 H e λy pU eg=>pd e H n r (List.set l p.1 y) (pU++rd) (ups++eg) K) none
def ud(v:aF)(H:Nat→Option az):(a:Ty)→(a.den→List Nat→dR→Option α)→Option α
 | .pair a .unit,k=>match v with
  | .kW υ x=>bc υ a x λy=>k (y,()) [] []
  |_=>none
 |a,k=>gS true v H a k
def ue:(a:Ty)→a.den→aF
 | .pair a .unit,x=> .kW a x.1
 |a,x=> .val a x
def kY(H:Nat→Option az):(τ:Ty)→List aF→(τ.den→List Nat→dR→Option α)→Option α
 | .unit,[],K=>K () [] []
 | .pair a b,v::vs,K=>ud v H a λx rd ups=>kY H b vs λxs pU eg=>K (x,xs) (pU++rd) (ups++eg)
 |_,_,_=>none
def kg:(τ:Ty)→τ.den→List aF
 | .pair a b,x=>ue a x.1::kg b x.2
 |_,_=>[]
def aC(H:Nat→Option az)(d:Nat)(v:Option az):Nat→Option az:=λi=>cond (Nat.beq i d) v (H i)
def pe(H:Nat→Option az):List aF→(List aF→List Nat→dR→Option α)→Option α
 |[],K=>K [] [] []
 |a::r,K=>match a with
  | .dQ id []=>match H id with
   |some (.obj τ x)=>pe (aC H id (some .gone)) r λcs rd ups=>K (.kW τ x::cs) (id::rd) ((id,some .gone)::ups)
   |_=>none
  |a=>pe H r λcs rd ups=>K (a::cs) rd ups
def iP(m:AM)(a:aF)(H:Nat→Option az)(k:m.den→(Nat→Option az)→List Nat→dR→dR→List (Nat×AM)→Option α):Option α:=
 match m,k with
 | .v τ,k=>gS true a H τ λx rd uf=>match uf with
  |[]=>k x H rd [] [] []
  |u::r=>k x (aC H u.1 u.2) rd [] (u::r) []
 | .own e,k=>match a with
  | .emp=>k [] H [] [] [] []
  | .ref id=>match H id with
   |some (.own e' l)=>bc (.slice e') (.slice e) l λx=>k x (aC H id (some .gone)) [id] [(id,some .gone)] [] []
   |_=>none
  |_=>none
 | .io τ,k=>match a with
  | .dQ id []=>match H id with
   |some (.obj υ x)=>bc υ τ x λy=>k y (aC H id (some .gone)) [id] [] [] [(id,.io τ)]
   |_=>none
  |_=>none
 | .fn f τ,k=>match a with
  | .BD f' c=>cond (Nat.beq f f') (kY H τ c λx rd uf=>match uf with
   |[]=>k x H rd [] [] []
   |_=>none) none
  |_=>none
 | .ptr _,_=>none
 | .dQ τ,k=>match a with
  | .kW υ x=>bc υ τ x λy=>k y H [] [] [] []
  |_=>none
 | .lo e,k=>match a with
  | .ref id=>match H id with
   |some (.own e' l)=>bc (.slice e') (.slice e) l λx=>k x (aC H id (some .gone)) [id] [] [] [(id,.lo e)]
   |_=>none
  |_=>none
 | .sp _ _ _,_=>none
def m4:(ms:List AM)→List aF→(Nat→Option az)→List Nat→dR→dR→List (Nat×AM)→(HP ms→List Nat→dR→dR→List (Nat×AM)→Option α)→Option α
 |[],[],_,rd,uo,uf,io,K=>K () rd uo uf io
 |[m],[a],H,rd,uo,uf,io,K=>iP m a H λx _ pU A9 Ba yD=>K x (pU++rd) (A9++uo) (Ba++uf) (io++yD)
 |m::n::ms,a::kv,H,rd,uo,uf,io,K=>iP m a H λx H' pU A9 Ba yD=>
  m4 (n::ms) kv H' (pU++rd) (A9++uo) (Ba++uf) (io++yD) λxs rd uo uf io=>K (x,xs) rd uo uf io
 |_,_,_,_,_,_,_,_=>none
def pf(m:AM)(x:m.den)(id:Nat):aF×dR:=
 match m,x with
 | .v τ,x=>(.val τ x,[])
 | .own e,x=>(.ref id,[(id,some (.own e x))])
 | .io τ,x=>(.val τ x,[])
 | .fn _ _,_=>(.any,[])
 | .ptr τ,x=>(.dQ id [],[(id,some (.obj τ x))])
 | .dQ _,_=>(.any,[])
 | .lo _,_=>(.any,[])
 | .sp τ n e,x=>match nC τ x n (fun υ y=>bc υ (.slice e) y some),c8 τ x n (fun υ' _ k'=>bc (.slice e) υ' [] k') some with
  |some l,some z=>(.yM τ z n id,[(id,some (.own e l))])
  |_,_=>(.any,[])
def dG:(ms:List AM)→HP ms→Nat→List (Nat×AM)→List aF×dR×List (Nat×AM)
 |[],_,_,io=>([],[],io)
 |[m],x,id,io=>match m,x,io with
  | .io τ,x,(j,_)::io=>([],[(j,some (.obj τ x))],io)
  | .lo e,x,(j,_)::io=>([],[(j,some (.own e x))],io)
  |m,x,io=>([(pf m x id).1],(pf m x id).2,io)
 |m::n::ms,x,id,io=>match m,x,io with
  | .io τ,x,(j,_)::io=>let r:=dG (n::ms) x.2 (id+1) io;(r.1,(j,some (.obj τ x.1))::r.2.1,r.2.2)
  | .lo e,x,(j,_)::io=>let r:=dG (n::ms) x.2 (id+1) io;(r.1,(j,some (.own e x.1))::r.2.1,r.2.2)
  |m,x,io=>let r:=dG (n::ms) x.2 (id+1) io;((pf m x.1 id).1::r.1,(pf m x.1 id).2++r.2.1,r.2.2)
def BI:List aF→aF
 |[]=> .any
 |[a]=>a
 |l=> .Sa l
def nE(H:Nat→Option az)(id:Nat):Nat→Bool
 |0=>true
 |n+1=>(match H (id+n)with|none=>true|some _=>false)&&nE H id n
def BJ(id:Nat):Nat→List Nat
 |0=>[]
 |n+1=>(id+n)::BJ id n
def fits:List AM→List aF→Bool
 |[],[]=>true
 | .fn f _::ms,.BD g _::kv=>Nat.beq f g&&fits ms kv
 | .fn _ _::_,_::_=>false
 |_::ms,_::kv=>fits ms kv
 |_,_=>false
def BK:List jU→List aF→Option jU
 |[],_=>none
 |S::r,kv=>cond (fits S.args kv) (some S) (BK r kv)
def ug(E:Env)(f:Nat)(kv:List aF)(id:Nat)(H:Nat→Option az)(K:dp α):Option α:=
 match BK (E.Γ f) kv with
 |none=>none
 |some S=>m4 S.args kv H [] [] [] [] λx rd uo uf io=>
  (S.run x).bind λy=>
   let r:=dG S.res y id io
   cond (nE H id S.res.length) (K (BI r.1) (BJ id S.res.length++(r.2.1.map (·.1)++rd)) (uo++cond S.quiet [] uf++r.2.1)) none
def qo(a:Option aF)(d:Int)(k:Int→Option α):Option α:=
 match a with
 |none=>k d
 |some a=>oM a λ_ x=>k x
def eW:Option Operand→Bool
 |some (.const (.int _ n))=>decide (n=0)
 |_=>false
def kZ(t:Ty)(z:Bool)(a:aF)(lo hi mx:Option aF)(H:Nat→Option az)(K:dp α):Option α:=
 match t,a with
 | .str,.val .str s=>cond mx.isNone (qo lo 0 λl=>qo hi (ByteArray.size s:Int) λh=>
  cond (kf l h (ByteArray.size s:Int) (ByteArray.size s:Int)) (K (.val .str (ByteArray.extract s l.toNat h.toNat)) [] []) none) none
 | .slice _,.emp=>cond z (K .emp [] []) (cond mx.isNone (qo lo 0 λl=>qo hi 0 λh=>cond (kf l h 0 0) (K .emp [] []) none) none)
 | .slice e,a=>gS (!z) a H (.slice e) λx rd ups=>cond z (K .emp rd [])
  (cond (mx.isNone||hi.isSome) (qo lo 0 λl=>qo hi (ℓ x:Int) λh=>qo mx (ℓ x:Int) λm=>
   cond (kf l h m (ℓ x:Int))
    (K (.val (.slice e) (List.drop l.toNat (List.take h.toNat x))) rd ups) none) none)
 |_,_=>none
def pg(E:Env)(t:Ty)(z:Bool)(a:aF)(lo hi mx:Option aF)(H:Nat→Option az)(K:dp α):Option α:=
 match E.vw,t,a,lo,hi,mx with
 |true,.slice e,.ref id,some lo,none,none=>oM lo λ_ i=>match H id with
  |some (.own e' l)=>ef e' e (cond (kf i (ℓ l:Int) (ℓ l:Int) (ℓ l:Int)) (K (.sub id e i.toNat) [id] []) none)
  |_=>none
 |_,t,a,lo,hi,mx=>kZ t z a lo hi mx H K
def qQ(e:Ty)(a:aF)(H:Nat→Option az)(K:dp α):Option α:=
 match a with
 | .sub id e' lo=>ef e' e (match H id with
  |some (.own e2 l)=>bc (.slice e2) (.slice e) l λl=>K .any [id] [(id,some (.own e (List.take lo l++List.replicate (ℓ l-lo) e.zero)))]
  |_=>none)
 |_=>none
def dy(τ:Ty)(a i:aF)(H:Nat→Option az)(K:dp α):Option α:=
 oM i λ_ i=>
 match τ with
 | .slice e=>match a with
  | .val υ l=>bc υ (.slice e) l λl=>cond (bB i (ℓ l)) (K (.kW e (γ l i.toNat e.zero)) [] []) none
  | .ref id=>match H id with
   |some (.own e' l)|some (.jk e' l)=>ef e' e (cond (bB i (ℓ l)) (K (.dQ id [.idx i.toNat]) [id] []) none)
   |_=>none
  |_=>none
 | .arr n e=>match a with
  | .dQ id p=>gi id p H fun υ=>ef υ (.arr n e) (cond (bB i n) (K (.dQ id (p++[.idx i.toNat])) [id] []) none)
  | .kW υ l=>bc υ (.arr n e) l λl=>cond (bB i n) (K (.kW e (γ l i.toNat e.zero)) [] []) none
  |_=>none
 |_=>none
def ph(τ:Ty)(a i:aF)(K:aF→Option α):Option α:=
 oM i λ_ i=>
 match τ,a with
 | .arr n e,.val υ l=>bc υ (.arr n e) l λl=>cond (bB i n) (K (.val e (γ l i.toNat e.zero))) none
 | .str,.val .str s=>cond (bB i (ByteArray.size s)) (K (.val (.int .u8) ((s.data.getD i.toNat 0).toNat:Int))) none
 |_,_=>none
def gb(a:aF)(H:Nat→Option az)(K:(υ:Ty)→υ.den→List Nat→Option α):Option α:=
 match a with
 | .kW τ x=>K τ x []
 | .dQ id p=>match H id with
  |some (.obj τ x)=>si p τ x fun υ y=>K υ y [id]
  |some (.own e l)|some (.jk e l)=>match p with
   | .idx i::p=>si p e (γ l i e.zero) fun υ y=>K υ y [id]
   |_=>none
  |_=>none
 |_=>none
def gT(τ:Ty)(a v:aF)(H:Nat→Option az)(K:dp α):Option α:=
 match a with
 | .dQ id p=>gS true v H τ λy rd ups=>
  match H id with
  |some (.obj υ x)=>oL τ y p υ x λz=>K .any (id::rd) (ups++[(id,some (.obj υ z))])
  |some (.own e l)=>match p with
   | .idx i::p=>cond (rd.contains id) none (oL τ y p e (γ l i e.zero) λz=>K .any (id::rd) (ups++[(id,some (.own e (List.set l i z)))]))
   |_=>none
  |_=>none
 |_=>none
def tj(j:Nat)(q:List Step)(τ:Ty)(x:τ.den)(H:Nat→Option az)(k:τ.den→dR→Option α):Option α:=
 match H j with
 |some (.own e l)=>oL (.slice e) l q τ x λz=>k z [(j,some (.jk e l))]
 |some (.jk e l)=>oL (.slice e) l q τ x λz=>k z []
 |_=>none
def m5(τ:Ty)(a:aF)(H:Nat→Option az)(K:dp α):Option α:=
 let qp:=gb a H fun υ y rd=>bc υ τ y λz=>K (.val τ z) rd []
 match a with
 | .dQ id p=>match H id with
  |some (.dj υ x q j)=>cond (yL p q) (cond (cQ q υ τ) (K (.ref j) [id] []) none)
   (cond (qk p q) (tj j q υ x H λz ups=>si p υ z fun υ' y=>bc υ' τ y λy'=>K (.val τ y') [id,j] ups)
    (si p υ x fun υ' y=>bc υ' τ y λy'=>K (.val τ y') [id] []))
  |_=>qp
 |_=>qp
def qC(τ:Ty)(id k:Nat)(e:Ty)(q:List Step)(υ:Ty)(x:υ.den)(H:Nat→Option az)(K:dp α):Option α:=
 match H k with
 |some (.own e' _)=>ef e' e (ef τ (.slice e) (oL (.slice e) [] q υ x λz=>K .any [id,k] [(id,some (.dj υ z q k))]))
 |_=>none
def fm(E:Env)(τ:Ty)(a v:aF)(H:Nat→Option az)(K:dp α):Option α:=
 let qp:=gT τ a v H K
 match a with
 | .dQ id p=>match H id with
  |some (.obj υ x)=>match yN E υ id,v with
   |some (q,e),.ref k=>cond (yL p q) (qC τ id k e q υ x H K) qp
   |_,_=>qp
  |some (.dj υ x q j)=>
   let put:=gS true v H τ λy rd ups=>oL τ y p υ x λz=>K .any (id::rd) (ups++[(id,some (cond (qk p q) (.obj υ z) (.dj υ z q j)))])
   match yN E υ id,v with
   |some (q',e),.ref k=>cond (yL p q&&yL q q') (qC τ id k e q υ x H K) put
   |_,_=>put
  |_=>qp
 |_=>qp
def mH(E:Env)(τ:Ty)(a v:aF)(H:Nat→Option az)(K:dp α):Option α:=
 match a,v with
 | .dQ id [],.zZ υ y n=>match yN E υ id with
  |some ([.dS m],e)=>cond (Nat.beq m n) (ef τ υ (gi id [] H fun υ'=>ef υ' υ
   (ku H (id+2) (.own e []) (K .any [id,id+2] [(id,some (.dj υ y [.dS m] (id+2))),(id+2,some (.own e []))])))) (fm E τ a v H K)
  |_=>fm E τ a v H K
 |_,_=>fm E τ a v H K
def vk(H:Nat→Option az)(id:Nat)(τ:Ty)(x:τ.den)(q:List Step)(e:Ty)(K:dp α):Option α:=
 ku H id (.obj τ x) (ku H (id+1) (.own e []) (K (.dQ id []) [id,id+1] [(id,some (.dj τ x q (id+1))),(id+1,some (.own e []))]))
def KW(E:Env)(ps:List (Nat×aF))(τ:Ty)(x:τ.den):aF:=match SR E τ with
 |some ([.dS n],_)=>cond (ps.all λp=> !(Nat.beq p.1 n)) (.zZ τ x n) (.val τ x)
 |_=> .val τ x
def sj(E:Env)(τ:Ty)(a:aF)(H:Nat→Option az)(K:dp α):Option α:=
 match E.sp,a with
 |true,.dQ id []=>match H id with
  |some (.dj υ x [.dS n] j)=>bc υ τ x λx=>K (.yM τ x n j) [id] []
  |_=>m5 τ a H λv rd ups=>K v (id::rd) ups
 |_,_=>m5 τ a H K
def mI(E:Env)(τ:Ty)(a v:aF)(H:Nat→Option az)(K:dp α):Option α:=
 match a,v with
 | .dQ id [],.yM υ y n j=>match yN E υ id with
  |some ([.dS m],e)=>cond (Nat.beq m n) (ef τ υ (gi id [] H fun υ'=>ef υ' υ (match H j with
   |some (.own e' _)=>ef e' e (K .any [id,j] [(id,some (.dj υ y [.dS m] j))])
   |_=>none))) none
  |_=>none
 |_,_=>mH E τ a v H K
def a8(H:Nat→Option az):dR→(Nat→Option az)
 |[]=>H
 |u::r=>a8 (aC H u.1 u.2) r
def OK(E:Env)(id n:Nat):Bool:=match E.lk with
 |some (_,_,_,ds)=>(ds.any λd=>Nat.beq d (2000000+n))&&ds.any λd=>Nat.beq (id/16) d
 |none=>false
def k4(E:Env)(τ:Ty)(a v:aF)(H:Nat→Option az)(K:dp α):Option α:=
 match a,v with
 | .dQ id [.dS n],.ref k=>cond (OK E id n) (match H id with
  |some (.dj υ x q j)=>cond (yL q [.dS n]) (mI E τ (.dQ id [.dS n]) (.ref k) H λv rd ups=>K v (id::rd) ups) (match qm υ n with
   |some (.slice e)=>tj j q υ x H λz ups=>qC τ id k e [.dS n] υ z (a8 H ups) λv rd eg=>K v (j::rd) (ups++eg)
   |_=>none)
  |some (.obj υ x)=>match qm υ n with
   |some (.slice e)=>qC τ id k e [.dS n] υ x H K
   |_=>none
  |_=>none) (mI E τ (.dQ id [.dS n]) (.ref k) H K)
 |a,v=>mI E τ a v H K
def z2(E:Env)(ps:List (Nat×aF))(τ:Ty):Option (Nat×Nat):=match E.sp,SR E τ with
 |true,some ([.dS n],_)=>match ps.filter λp=>Nat.beq p.1 n with
  |[(_,.ref k)]=>some (n,k)
  |_=>none
 |_,_=>none
def pj(n:Nat)(ps:List (Nat×aF)):List (Nat×aF):=ps.map λp=>cond (Nat.beq p.1 n) (p.1,.emp) p
def partsOf(σρ:Operand→aF)(ps:Array (Nat×Operand)):List (Nat×aF):=ps.toList.map λp=>(p.1,σρ p.2)
def mS(E:Env)(o:Oper)(ρ:Operand→aF)(H:Nat→Option az)(K:dp α):Option α:=
 let id:=16*o.dst.getD 0
 match o.op with
 | .move x| .assign x=>K (ρ x) [] []
 | .pick c a b=>match ρ c with
  | .val .bool t=>cond t (K (ρ a) [] []) (K (ρ b) [] [])
  |_=>none
 | .alloc t=>match E.ty t with
  |some τ=>match yN E τ id with
   |some (q,e)=>vk H id τ τ.zero q e K
   |none=>ku H id (.obj τ τ.zero) (K (.dQ id []) [id] [(id,some (.obj τ τ.zero))])
  |none=>none
 | .box t x=>match E.ty t with
  |some τ=>
   let qp:=gS true (ρ x) H τ λy rd ups=>ku H id (.obj τ y) (K (.dQ id []) (id::rd) (ups++[(id,some (.obj τ y))]))
   match yN E τ id,ρ x with
   |some ([.dS m],e),.zZ υ y n=>cond (Nat.beq m n) (bc υ τ y λy=>vk H id τ y [.dS m] e K) qp
   |_,_=>qp
  |none=>none
 | .build t ps=>match E.ty t with
  |some (.arr n e)=>pd e H n (partsOf ρ ps) (List.replicate n e.zero) [] [] λl rd ups=>K (.val (.arr n e) l) rd ups
  |some τ=>match z2 E (partsOf ρ ps) τ with
   |some (n,k)=>match H k with
    |some (.own _ _)=>cond τ.isAgg (gj τ H (pj n (partsOf ρ ps)) τ.zero [] [] λx rd ups=>K (.yM τ x n k) (k::rd) ups) none
    |_=>none
   |none=>cond τ.isAgg (gj τ H (partsOf ρ ps) τ.zero [] [] λx rd ups=>K (KW E (partsOf ρ ps) τ x) rd ups) none
  |none=>none
 | .buildSlice t n ps=>match E.ty t with
  |some (.slice e)=>cond (Nat.ble (n*(e.size+1)) 16777216) (ku H id (.own e []) (pd e H n (partsOf ρ ps) (List.replicate n e.zero) [] [] λl rd ups=>K (.ref id) (id::rd) (ups++[(id,some (.own e l))]))) none
  |_=>none
 | .load t a=>match E.ty t with
  |some τ=>sj E τ (ρ a) H K
  |none=>none
 | .store t a v=>match E.ty t with
  |some τ=>k4 E τ (ρ a) (ρ v) H K
  |none=>none
 | .nilCheck x=>match ρ x with
  | .dQ id p=>K (.dQ id p) [] []
  | .kW τ x=>K (.kW τ x) [] []
  |_=>none
 | .binOp op t x y _=>BF (ρ x) fun τ x=>BF (ρ y) fun υ y=>wV (E.ty t) op τ x υ y λv=>K v [] []
 | .unOp op _ x=>FZ op (ρ x) λv=>K v [] []
 | .convert src dst x=>match E.ty src,E.ty dst with
  |some _,some (.int k)=>oM (ρ x) λ_ n=>K (.val (.int k) (W k n)) [] []
  |_,_=>none
 | .makeFunc (.func f) first kX=>cond first.isEmpty (pe H (kX.toList.map ρ) λcs rd ups=>K (.BD f cs) rd ups) none
 | .makeSlice t l c=>match E.ty t with
  |some (.slice e)=>oM (ρ l) λ_ l=>oM (ρ c) λ_ c=>cond (gh l c)
    (ku H id (.own e []) (K (.ref id) [id] [(id,some (.own e (List.replicate l.toNat e.zero)))])) none
  |_=>none
 | .slice t x lo hi mx=>match E.ty t with
  |some τ=>pg E τ (lo.isNone&&eW hi&&eW mx) (ρ x) (lo.map ρ) (hi.map ρ) (mx.map ρ) H K
  |none=>none
 | .fieldAddr t x n=>match E.ty t with
  |some τ=>match ρ x with
   | .dQ id p=>gi id p H fun υ=>ef υ τ (nC τ τ.zero n fun υ' _=>cond (Nat.beq υ'.size 0) none (K (.dQ id (p++[.dS n])) [id] []))
   | .kW υ x=>ef υ τ (nC υ x n fun υ y=>cond (Nat.beq υ.size 0) none (K (.kW υ y) [] []))
   |_=>none
  |none=>none
 | .field t x n=>match E.ty t with
  |some τ=>match ρ x with
   | .val υ x=>ef υ τ (nC υ x n fun υ y=>K (.val υ y) [] [])
   |_=>none
  |none=>none
 | .indexAddr t x i=>match E.ty t with
  |some τ=>dy τ (ρ x) (ρ i) H K
  |none=>none
 | .index t x i=>match E.ty t with
  |some τ=>ph τ (ρ x) (ρ i) λv=>K v [] []
  |none=>none
 | .extract t i=>match ρ t with
  | .Sa vs=>match vs[i]? with
   |some v=>K v [] []
   |none=>none
  |_=>none
 | .call c=>match c.callee with
  | .builtin .len=>match c.args.toList,(c.argTypes.toList.head?).bind E.ty with
   |[x],some τ=>BG τ (ρ x) H K
   |_,_=>none
  | .builtin .append=>match c.args.toList,c.argTypes.toList with
   |[x,y],[t,t']=>match E.ty t with
    |some (.slice e)=>cond (Nat.beq t t') (ku H id (.own e []) (BH id e (ρ x) (ρ y) H K)) none
    |_=>none
   |_,_=>none
  | .builtin .clear=>match c.args.toList,c.argTypes.toList with
   |[x],[t]=>match E.ty t with
    |some (.slice e)=>qQ e (ρ x) H K
    |_=>none
   |_,_=>none
  | .builtin .max=>match c.args.toList with
   |x::r=>KA true (ρ x) (r.map ρ) λv=>K v [] []
   |_=>none
  | .builtin .min=>match c.args.toList with
   |x::r=>KA false (ρ x) (r.map ρ) λv=>K v [] []
   |_=>none
  | .value g=>match ρ g with
   | .BD f kX=>ug E f (c.args.toList.map ρ++kX) id H K
   |_=>none
  |_=>none
 |_=>none
def F0(E:Env)(o:Oper)(ρ:Operand→aF)(H:Nat→Option az):Option (Bool×aF×dR):=
 let d:=o.dst.getD 0
 match o.op with
 | .makeSlice t x y=>match cond (FY E 3000000 d) (E.ty t) none,ρ x,ρ y,H (16*d),H 7 with
  |some (.slice (.slice e)),.val (.int _) l,.val (.int _) n,none,none=>cond e.flat (some (gh l n,.ref (16*d),[(16*d,some (.cV e (List.replicate l.toNat []) none)),(7,some .gone)])) none
  |_,_,_,_,_=>none
 | .call c=>match c.callee,c.args.toList,(c.argTypes.toList.head?).bind E.ty with
  | .builtin .len,[x],some (.slice _)=>match ρ x with
   | .ref id=>match H id with
    |some (.cV _ l _)=>some (true,.val (.int .i64) (l.length:Int),[])
    |_=>none
   |_=>none
  |_,_,_=>none
 | .indexAddr t x i=>match E.ty t,ρ x,ρ i with
  |some (.slice (.slice e')),.ref id,.val (.int _) n=>match H id with
   |some (.cV e l _)=>cond (decide (e'=e)) (some (bB n l.length,.dQ id [.idx n.toNat],[])) none
   |_=>none
  |_,_,_=>none
 | .load t x=>match E.ty t,ρ x with
  |some (.slice e'),.dQ id [.idx n]=>match H id,H (16*d)with
   |some (.cV e l none),none=>cond (decide (e'=e)) (some (true,.ref (16*d),[(16*d,some (.own e (l.getD n []))),(id,some (.cV e l (some n)))])) none
   |_,_=>none
  |_,_=>none
 | .store t x y=>match E.ty t,ρ x,ρ y with
  |some (.slice e'),.dQ id [.idx n],.ref j=>match H id,H j with
   |some (.cV e l (some n')),some (.own e2 l')=>if h:e2=e then cond (decide (e'=e)) (some (bq n n',.any,[(j,some .gone),(id,some (.cV e (l.set n (h▸l')) none))])) none else none
   |_,_=>none
  |_,_,_=>none
 | .move x=>match cond (FY E 4000000 d) (ρ x) .any with
  | .ref id=>match H id with
   |some (.cV e l none)=>some (true,.val (.slice (.slice e)) l,[(id,some .gone)])
   |_=>none
  |_=>none
 |_=>none
def vl:aF→List Nat
 | .ref id=>[id]
 | .dQ id _=>[id]
 |_=>[]
def D3(E:Env)(o:Oper)(ρ:Operand→aF):List Nat:=match o.op with
 | .makeSlice _ _ _=>[16*o.dst.getD 0,7]
 | .call c=>match c.callee,c.args.toList with
  | .builtin .len,[x]=>vl (ρ x)
  |_,_=>[]
 | .indexAddr _ x _=>vl (ρ x)
 | .load _ x=>16*o.dst.getD 0::vl (ρ x)
 | .store _ x y=>vl (ρ x)++vl (ρ y)
 | .move x=>cond (FY E 4000000 (o.dst.getD 0)) (vl (ρ x)) []
 |_=>[]
def HT(ups:dR):Bool:=ups.all λu=>match u.2 with
 |some (.cV _ _ _)=>false
 |_=>true
def Hv(E:Env)(o:Oper)(ρ:Operand→aF)(H:Nat→Option az)(K:dp α):Option α:=
 cond E.cV (match F0 E o ρ H with
  |some u=>cond u.1 (K u.2.1 (D3 E o ρ) u.2.2) none
  |none=>mS E o ρ H λv rd ups=>cond (HT ups) (K v (D3 E o ρ++rd) ups) none) (mS E o ρ H K)
def m6(E:Env)(ops:List Oper)(o:Oper)(σ:St)(K:St→List Nat→List Nat→Option α):Option α:=
 let run (σ:St):Option α:=Hv E o σ.ρ σ.H λv rd ups=>K ((σ.pb ups).oK o.dst v) rd (ups.map (·.1))
 cond (BE E.nt E.io o.dst) (match o.guard with
 |none=>run σ
 |some (j,want)=>match(ops[j]?).bind (·.dst)with
  |none=>none
  |some t=>match σ.T t with
   | .val .bool b=>match want with
    |true=>cond b (run (σ.put t (.val .bool true))) (K ((σ.put t (.val .bool false)).oK o.dst .HS) [] [])
    |false=>cond b (K ((σ.put t (.val .bool true)).oK o.dst .HS) [] []) (run (σ.put t (.val .bool false)))
   | .HS=>K (σ.oK o.dst .HS) [] []
   |_=>none) none
abbrev Log:=List (Nat×List Nat×List Nat)
def F1(E:Env)(ops:List Oper):List Oper→Nat→St→Log→(St→Log→Option α)→Option α
 |[],_,σ,lg,K=>K σ lg
 |o::r,i,σ,lg,K=>m6 E ops o σ fun σ' rd wr=>F1 E ops r (i+1) σ' ((i,rd,wr)::lg) K
def mJ:List Oper→List Nat→List Nat
 |[],acc=>acc
 |o::r,acc=>mJ r (acc++[o.after.toList.foldl (λs e=>cond (Region.binds .any e) (s|||2^e.on|||acc.getD e.on 0) s) 0])
def names(ops:List Oper)(o:Oper):List Nat:=
 (o.op.operands.toList.filterMap fun| .tmp t=>some t|_=>none)++
 (match o.guard with
  |some (g,_)=>((ops[g]?).bind (·.dst)).toList
  |none=>[])
def meets(a b:List Nat):Bool:=a.any λx=>b.any λy=>Nat.beq x y
def HU(ops:List Oper):Bool:=
 let b:=mJ ops []
 (ops.zipIdx.all λ(o,j)=>o.after.toList.all λe=> !(Region.binds .any e)||Nat.blt e.on j)&&
 ops.zipIdx.all λ(o,j)=>ops.zipIdx.all λ(p,i)=>Nat.ble j i||(b.getD j 0).testBit i||
  !(meets p.dst.toList (o.dst.toList++names ops o)||meets o.dst.toList (names ops p))
def Nr(ops:List Oper)(lg:Log):Bool:=
 let b:=mJ ops []
 lg.all λx=>lg.all λy=>Nat.ble x.1 y.1||(b.getD x.1 0).testBit y.1||
  !(meets y.2.2 (x.2.1++x.2.2)||meets y.2.1 x.2.2)
def vM(E:Env)(ops:Array Oper)(draw:Bool)(σ:St)(K:St→Option α):Option α:=
 F1 E ops.toList ops.toList 0 σ [] fun σ' lg=>cond (!draw||(HU ops.toList&&Nr ops.toList lg)) (K σ') none
def dz:List (Nat×CM)→St→St→(St→Option α)→Option α
 |[],_,acc,K=>K acc
 |(s,.v τ)::r,σ,acc,K=>gS true (σ.T s) σ.H τ λx _ ups=>dz r (σ.pb ups) (acc.put s (.val τ x)) K
 |(s,.own e)::r,σ,acc,K=>match σ.T s with
  | .emp=>dz r σ ((acc.put s (.ref (16*s+14))).dT (16*s+14) (some (.own e []))) K
  | .ref id=>match σ.H id with
   |some (.own e' l)=>bc (.slice e') (.slice e) l λx=>dz r (σ.dT id (some .gone)) ((acc.put s (.ref (16*s+14))).dT (16*s+14) (some (.own e x))) K
   |_=>none
  |_=>none
 |(s,.obj τ)::r,σ,acc,K=>match σ.T s with
  | .dQ id []=>match σ.H id with
   |some (.obj υ x)=>bc υ τ x λy=>dz r (σ.dT id (some .gone)) ((acc.put s (.dQ (16*s+14) [])).dT (16*s+14) (some (.obj τ y))) K
   |some (.dj υ x q j)=>tj j q υ x σ.H λz ups=>bc υ τ z λy=>dz r ((σ.pb ups).dT id (some .gone)) ((acc.put s (.dQ (16*s+14) [])).dT (16*s+14) (some (.obj τ y))) K
   |_=>none
  |_=>none
 |(s,.dj τ q e)::r,σ,acc,K=>match σ.T s with
  | .dQ id []=>match σ.H id with
   |some (.dj υ x q' j)=>cond (yL q q') (match σ.H j with
    |some (.own e' l)=>bc υ τ x λy=>bc (.slice e') (.slice e) l λl=>dz r ((σ.dT j (some .gone)).dT id (some .gone))
     (((acc.put s (.dQ (16*s+14) [])).dT (16*s+13) (some (.own e l))).dT (16*s+14) (some (.dj τ y q (16*s+13)))) K
    |_=>none) none
   |_=>none
  |_=>none
 |(s,.same s')::r,σ,acc,K=>match σ.T s,σ.T s',acc.T s' with
  | .ref i,.ref j,.ref j'=>cond (Nat.beq i j) (dz r σ (acc.put s (.ref j')) K) none
  |_,_,_=>none
 |(s,.io τ)::r,σ,acc,K=>match σ.T s with
  | .dQ id []=>cond (Nat.beq id (16*s+15)) (match σ.H id with
   |some (.obj υ x)=>bc υ τ x λy=>dz r (σ.dT id (some .gone)) ((acc.put s (.dQ (16*s+15) [])).dT (16*s+15) (some (.obj τ y))) K
   |_=>none) none
  |_=>none
 |(s,.fn f τ)::r,σ,acc,K=>match σ.T s with
  | .BD f' c=>cond (Nat.beq f f') (kY σ.H τ c λx _ ups=>match ups with
   |[]=>dz r σ (acc.put s (.BD f (kg τ x))) K
   |_=>none) none
  |_=>none
 |(s,.cV e)::r,σ,acc,K=>match σ.T s with
  | .ref id=>match σ.H id with
   |some (.cV e' l none)=>bc (.slice (.slice e')) (.slice (.slice e)) l λl=>ku acc.H 7 .gone (dz r (σ.dT id (some .gone)) (((acc.put s (.ref (16*s+14))).dT (16*s+14) (some (.cV e l none))).dT 7 (some .gone)) K)
   |_=>none
  |_=>none
def fp:List (Nat×CM)→Bool
 |[]=>true
 |q::r=>r.all (λp=> !(Nat.beq p.1 q.1))&&fp r
def pk(L:Option (List (Nat×CM)))(σ:St)(K:St→Option α):Option α:=
 match L with
 |none=>K σ
 |some L=>dz L σ ⟨λ_=> .any,λ_=>none⟩ K
def uh(L:Option (List (Nat×CM)))(step:St→(St→Option α)→Option α):Nat→St→Option α
 |0,_=>none
 |n+1,σ=>step σ fun σ'=>pk L σ' (uh L step n)
def br:Code→Option Nat
 | .region id _ _=>some id
 | .seq a b=>match br a with
  |some i=>some i
  |none=>br b
 | .block _ c| .loop c| .scope c=>br c
 |_=>none
def zj(E:Env)(c:Operand)(σ:St)(A B:St→Option α):Option α:=
 match σ.ρ c with
 | .val .bool b=>match c with
  | .tmp t=>cond b (A (σ.put t (.val .bool true))) (B (σ.put t (.val .bool false)))
  |_=>cond b (A σ) (B σ)
 |_=>none
def vN(E:Env)(c:Code):St→(St→Option α)→(Nat→St→Option α)→(St→Option α)→Option α:=
 Code.rec (motive:=λ_=>St→(St→Option α)→(Nat→St→Option α)→(St→Option α)→Option α)
  (fun σ k _ _=>k σ)
  (λ_ ops draw σ k _ _=>vM E ops draw σ k)
  (λ_ b A B σ k kx kr=>A σ (fun σ'=>pk ((br b).bind E.qn) σ' fun σ''=>B σ'' k kx kr) kx kr)
  (λc _ _ A B σ k kx kr=>zj E c σ (fun σ'=>A σ' k kx kr) (fun σ'=>B σ' k kx kr))
  (λid _ A σ k kx kr=>A σ k (λi σ'=>cond (Nat.beq i id) (k σ') (kx i σ')) kr)
  (λb A σ _ kx kr=>pk ((br b).bind E.pc) σ (uh ((br b).bind E.pc) (fun σ' kn=>A σ' kn kx kr) E.N))
  (λ_ _ _ _ _ _ _ _ _ _=>none)
  (λid σ _ kx _=>kx id σ)
  (λ_ A σ k kx kr=>A σ k kx kr)
  (λ_ σ k _ _=>k σ)
  (λ_ _ _ _ _=>none)
  (fun σ _ _ kr=>kr σ)
  (λ_ _ _ _ _=>none)
  c
def oN(E:Env):List Nat→Code→List (St→Option α)→St→(St→Option α)→(Nat→St→Option α)→(St→Option α)→Option α
 |[],c,_,σ,k,kx,kr=>vN E c σ k kx kr
 |n::p,c,ks,σ,k,kx,kr=>match c with
  | .seq a b=>match n with
   |0=>oN E p a ks σ (fun σ'=>pk ((br b).bind E.qn) σ' fun σ''=>vN E b σ'' k kx kr) kx kr
   |_=>oN E p b ks σ k kx kr
  | .cond _ a b=>match n with
   |0=>oN E p a ks σ k kx kr
   |_=>oN E p b ks σ k kx kr
  | .block id c=>oN E p c ks σ k (λi σ'=>cond (Nat.beq i id) (k σ') (kx i σ')) kr
  | .loop b=>match ks with
   |κ::ks=>oN E p b ks σ κ kx kr
   |[]=>none
  | .scope c=>oN E p c ks σ k kx kr
  |_=>none
def tk(m:AM)(x:m.den)(i:Nat)(σ:St):St:=
 match m,x with
 | .v τ,x=>σ.put i (.val τ x)
 | .own e,x=>(σ.put i (.ref (16*i+15))).dT (16*i+15) (some (.own e x))
 | .io τ,x=>(σ.put i (.dQ (16*i+15) [])).dT (16*i+15) (some (.obj τ x))
 | .fn f τ,x=>σ.put i (.BD f (kg τ x))
 | .ptr _,_=>σ
 | .dQ τ,x=>σ.put i (.kW τ x)
 | .lo e,x=>(σ.put i (.ref (16*i+15))).dT (16*i+15) (some (.own e x))
 | .sp _ _ _,_=>σ
def entry:(ms:List AM)→HP ms→Nat→St→St
 |[],_,_,σ=>σ
 |[m],x,i,σ=>tk m x i σ
 |m::n::ms,x,i,σ=>entry (n::ms) x.2 (i+1) (tk m x.1 i σ)
def zk(E:Env)(m:AM)(r:ResultVar ⊕ Nat)(σ:St)(K:m.den→St→Option α):Option α:=
 match m,r,K with
 | .v τ,.inl (.tmp t),K=>gS true (σ.T t) σ.H τ λx _ ups=>K x (σ.pb ups)
 | .v τ,.inl (.cell a t),K=>match E.ty t with
  |some τ'=>ef τ' τ (gb (σ.T a) σ.H fun υ y _=>bc υ τ y λx=>K x σ)
  |none=>none
 | .own e,.inl (.tmp t),K=>match σ.T t with
  | .emp=>K [] σ
  | .ref id=>match σ.H id with
   |some (.own e' l)=>bc (.slice e') (.slice e) l λx=>K x (σ.dT id (some .gone))
   |_=>none
  |_=>none
 | .io τ,.inr i,K=>match σ.T i with
  | .dQ id []=>match σ.H id with
   |some (.obj υ x)=>bc υ τ x λy=>K y (σ.dT id (some .gone))
   |_=>none
  |_=>none
 | .lo e,.inr i,K=>match σ.T i with
  | .ref id=>match σ.H id with
   |some (.own e' l)=>bc (.slice e') (.slice e) l λx=>K x (σ.dT id (some .gone))
   |_=>none
  |_=>none
 | .ptr τ,.inl (.tmp t),K=>match σ.T t with
  | .dQ id []=>match σ.H id with
   |some (.obj υ x)=>bc υ τ x λy=>K y (σ.dT id (some .gone))
   |_=>none
  |_=>none
 | .sp τ n e,.inl (.cell a t),K=>match E.ty t,σ.T a with
  |some τ',.dQ id []=>ef τ' τ (match σ.H id with
   |some (.dj υ x q j)=>cond (yL q [.dS n]) (bc υ τ x λx=>match σ.H j with
    |some (.own e' l)=>bc (.slice e') (.slice e) l λl=>c8 τ x n (fun υ' _ k'=>bc (.slice e) υ' l k') λz=>K z (σ.dT j (some .gone))
    |_=>none) none
   |_=>none)
  |_,_=>none
 |_,_,_=>none
def z5(E:Env):(ms:List AM)→List (ResultVar ⊕ Nat)→St→(HP ms→Option α)→Option α
 |[],[],_,K=>K ()
 |[m],[r],σ,K=>zk E m r σ λx _=>K x
 |m::n::ms,r::rs,σ,K=>zk E m r σ λx σ'=>z5 E (n::ms) rs σ' λxs=>K (x,xs)
 |_,_,_,_=>none
def qq:List AM→Nat→List (ResultVar ⊕ Nat)
 |[],_=>[]
 | .io _::ms,i=> .inr i::qq ms (i+1)
 | .lo _::ms,i=> .inr i::qq ms (i+1)
 |_::ms,i=>qq ms (i+1)
def zl(E:Env)(fn:Func)(args res:List AM)(x:HP args):Option (HP res):=
 match fn.body with
 |none=>none
 |some c=>
  let kr:St→Option (HP res):=fun σ=>z5 E res (fn.results.toList.map .inl++qq args 0) σ some
  vN E c (entry args x 0 ⟨λ_=> .any,λ_=>none⟩) kr (λ_ _=>none) kr
end
end VM
end
section
namespace VM
open Go
def mh(N:Nat)(x y c:Int):Option (Int×Int):=if 0≤x∧0≤y∧0≤c∧c≤1 then some ((x+y+c)%18446744073709551616,(x+y+c)/18446744073709551616)else none
def mi(N:Nat)(x y c:Int):Option (Int×Int):=if 0≤x∧x<18446744073709551616∧0≤y∧y<18446744073709551616∧0≤c∧c≤1 then some ((x+18446744073709551616-y-c)%18446744073709551616,if x<y+c then 1 else 0)else none
def nF{α:Type}(N:Nat)(l:List α)(i:Int)(v:List α):Option (List α):=if 0≤i∧i≤l.length∧v.length=1∧l.length+1<sh then some (l.take i.toNat++(v++l.drop i.toNat))else none
def sl{α:Type}(N:Nat)(l:List α)(n:Int):Option (List α):=match l with
 |[x]=>if 0<n∧n<1048576 then some (List.replicate n.toNat x)else none
 |_=>none
def mh.S(N:Nat):jU:={args:=[.v (.int .u64),.v (.int .u64),.v (.int .u64)],res:=[.v (.int .u64),.v (.int .u64)],quiet:=true,run:=λx=>mh N x.1 x.2.1 x.2.2}
def mi.S(N:Nat):jU:={args:=[.v (.int .u64),.v (.int .u64),.v (.int .u64)],res:=[.v (.int .u64),.v (.int .u64)],quiet:=true,run:=λx=>mi N x.1 x.2.1 x.2.2}
def iu(e:Ty)(N:Nat):jU:={args:=[.own e,.v (.int .i64),.own e],res:=[.own e],quiet:=false,run:=λx=>nF N x.1 x.2.1 x.2.2}
def vO(e:Ty)(N:Nat):jU:={args:=[.v (.slice e),.v (.int .i64)],res:=[.own e],quiet:=false,run:=λx=>sl N x.1 x.2}
def OL{α:Type}(N:Nat)(l:List α):Option (List α):=if l.length<sh then some l else none
def W5(e:Ty)(N:Nat):jU:={args:=[.v (.slice e)],res:=[.own e],quiet:=false,run:=λx=>OL N x}
end VM
namespace VM
abbrev bE:Int×Int×Unit:=((0:Int),((0:Int),()))
abbrev c5:List (Int×Int×Unit):=[]
abbrev cH:Int×Int×Int×Unit:=((0:Int),((0:Int),((0:Int),())))
abbrev W6:List (Int×Int×Int×Unit):=[]
abbrev aZ:Int×Int×Int×Int×Unit:=((0:Int),((0:Int),((0:Int),((0:Int),()))))
abbrev ee4:List (Int×Int×Int×Int×Unit):=[]
abbrev zz5:Int×Int×Int×Int×Int×Unit:=((0:Int),((0:Int),((0:Int),((0:Int),((0:Int),())))))
abbrev ee5:List (Int×Int×Int×Int×Int×Unit):=[]
abbrev vP:Int×Int×Int×Int×Int×Int×Unit:=((0:Int),((0:Int),((0:Int),((0:Int),((0:Int),((0:Int),()))))))
abbrev W7:List (Int×Int×Int×Int×Int×Int×Unit):=[]
abbrev zz7:Int×Int×Int×Int×Int×Int×Int×Unit:=((0:Int),((0:Int),((0:Int),((0:Int),((0:Int),((0:Int),((0:Int),())))))))
abbrev ee7:List (Int×Int×Int×Int×Int×Int×Int×Unit):=[]
abbrev zz8:Int×Int×Int×Int×Int×Int×Int×Int×Unit:=((0:Int),((0:Int),((0:Int),((0:Int),((0:Int),((0:Int),((0:Int),((0:Int),()))))))))
abbrev ee8:List (Int×Int×Int×Int×Int×Int×Int×Int×Unit):=[]
abbrev eeI:List Int:=[]
abbrev z6:List Int×Unit:=(eeI,())
end VM
end
section
namespace VM
open Go
def At(w:World)(b off:Nat)(cs:List Value):Prop:= ∀j v,cs[j]? =some v→w.cell? ⟨b,off+j,none⟩=some v
def Rd(w:World)(M:Nat→Prop):(τ:Ty)→List Value→τ.den→Prop
 | .int k,cs,x=>cs=[.int k x]
 | .bool,cs,x=>cs=[.bool x]
 | .str,cs,x=>cs=[.string x]
 | .slice e,cs,x=> ∃a cap,cs=[.slice a (ℓ x) cap]∧ℓ x≤cap∧
  ∀i (h:i<ℓ x),∃b off,a=some ⟨b,off,none⟩∧b<w.heap.size∧ ¬M b∧ ∃cs',At w b (off+i*e.size) cs'∧Rd w M e cs' (List.get x ⟨i,h⟩)
 | .unit,cs,_=>cs=[]
 | .pair a b,cs,x=> ∃c1 c2,cs=c1++c2∧Rd w M a c1 x.1∧Rd w M b c2 x.2
 | .arr n e,cs,x=>ℓ x=n∧ ∃F2:List (List Value),F2.length=n∧cs=F2.flatten∧
  ∀i (h:i<ℓ x) (h':i<F2.length),Rd w M e F2[i] (List.get x ⟨i,h⟩)
theorem jA{α:Type}(n:Nat): ∀(l:List (List α)),(∀i (h:i<l.length),l[i].length=n)→l.flatten.length=l.length*n
 |[],_=>by simp
 |a::l,h=>by
  have h0:=h 0 (by simp)
  have ih:=jA n l (λi hi=>h (i+1) (by simp;omega))
  simp only[rH]at h0
  simp only[rR,aO,aG,ih,h0,cr]
  omega
theorem Rd.length{w:World}{M:Nat→Prop}: ∀{τ:Ty} {cs:List Value} {x:τ.den},Rd w M τ cs x→cs.length=τ.size
 | .int _,_,_,h=>by simp only[Rd]at h;subst h;rfl
 | .bool,_,_,h=>by simp only[Rd]at h;subst h;rfl
 | .str,_,_,h=>by simp only[Rd]at h;subst h;rfl
 | .slice _,_,_,h=>by simp only[Rd]at h;obtain⟨a,cap,rfl,_⟩:=h;rfl
 | .unit,_,_,h=>by simp only[Rd]at h;subst h;rfl
 | .pair a b,_,_,h=>by
  simp only[Rd]at h
  obtain⟨c1,c2,rfl,h1,h2⟩:=h
  rw[aO,h1.length,h2.length];rfl
 | .arr n e,_,x,h=>by
  simp only[Rd]at h
  obtain⟨hn,F2,hc,rfl,hr⟩:=h
  rw[jA e.size F2 (λi hi=>(hr i ω hi).length),hc];rfl
structure cm(w:World)(M:Nat→Prop)(w':World)(M':Nat→Prop):Prop where
 size:w.heap.size≤w'.heap.size
 block: ∀b,b<w.heap.size→ ¬M b→w'.heap[b]? =w.heap[b]?
 less: ∀b,b<w.heap.size→M' b→M b
theorem D4{w:World}{b o:Nat}{v:Value}(h:w.cell? ⟨b,o,none⟩=some v):b<w.heap.size:=by
 simp only[World.cell?]at h
 rcases gq b w.heap.size with hb|hb
 ·exact hb
 ·simp[Bx hb]at h
theorem At.aV{w w':World}{b off:Nat}{cs:List Value}(h:At w b off cs)(hb:w'.heap[b]? =w.heap[b]?):At w' b off cs:=by
 intro j v hj
 have:=h j v hj
 rw[World.cell?_of_block (w:=w) hb]
 exact this
theorem At.append{w:World}{b off:Nat}{c1 c2:List Value}:At w b off (c1++c2)↔At w b off c1∧At w b (off+c1.length) c2:=by
 constructor
 ·intro h
  refine⟨λj v hj=>h j v (by rw[kt];exact hj;exact(lX.1 hj).1),λj v hj=> ?_⟩
  have:=h (c1.length+j) v (by rw[kq ω];simpa using hj)
  rw[ju];exact this
 ·rintro⟨h1,h2⟩ j v hj
  by_cases c6:j<c1.length
  ·rw[kt c6]at hj;exact h1 j v hj
  ·rw[kq ω]at hj
   have:=h2 (j-c1.length) v hj
   rwa [show off+c1.length+(j-c1.length)=off+j from by omega]at this
theorem Rd.aV{w w':World}{M M':Nat→Prop}(k:cm w M w' M'): ∀{τ:Ty} {cs:List Value} {x:τ.den},Rd w M τ cs x→Rd w' M' τ cs x
 | .int _,_,_,h=>h
 | .bool,_,_,h=>h
 | .str,_,_,h=>h
 | .slice e,_,x,h=>by
  simp only[Rd]at h ⊢
  obtain⟨a,cap,rfl,hc,hr⟩:=h
  refine⟨a,cap,rfl,hc,λi hi=> ?_⟩
  obtain⟨b,off,ha,hb,hm,cs',lK,fg⟩:=hr i hi
  exact⟨b,off,ha,fP hb k.size,λh'=>hm (k.less b hb h'),_,lK.aV (k.block b hb hm),fg.aV k⟩
 | .unit,_,_,h=>h
 | .pair a b,_,_,h=>by
  simp only[Rd]at h ⊢
  obtain⟨c1,c2,rfl,h1,h2⟩:=h
  exact⟨c1,c2,rfl,h1.aV k,h2.aV k⟩
 | .arr n e,_,x,h=>by
  simp only[Rd]at h ⊢
  obtain⟨hn,F2,hc,rfl,hr⟩:=h
  exact⟨hn,F2,hc,rfl,λi hi mj=>(hr i hi mj).aV k⟩
theorem cm.refl(w:World)(M:Nat→Prop):cm w M w M:=⟨aH _,λ_ _ _=>rfl,λ_ _ h=>h⟩
theorem cm.trans{w w' SS:World}{M M' zm:Nat→Prop}(h:cm w M w' M')(k:cm w' M' SS zm):cm w M SS zm:=
 ⟨ea h.size k.size,λb hb hm=>(k.block b (fP hb h.size) (λh'=>hm (h.less b hb h'))).trans (h.block b hb hm),
  λb hb hm=>h.less b hb (k.less b (fP hb h.size) hm)⟩
def V(w:World)(M:Nat→Prop)(τ:Ty)(v:Value)(x:τ.den):Prop:=
 if τ.isAgg then ∃cs,v= .agg cs∧Rd w M τ cs.toList x else Rd w M τ [v] x
theorem V.aV{w w':World}{M M':Nat→Prop}(k:cm w M w' M'){τ:Ty}{v:Value}{x:τ.den}(h:V w M τ v x):V w' M' τ v x:=by
 unfold V at*
 split
 ·rename_i ha;rw[ae ha]at h;obtain⟨cs,rfl,h⟩:=h;exact⟨cs,rfl,h.aV k⟩
 ·rename_i ha;rw[af ha]at h;exact h.aV k
theorem Rd.scalar{w:World}{M:Nat→Prop}{τ:Ty}{cs:List Value}{x:τ.den}(ha:τ.isAgg=false)(h:Rd w M τ cs x): ∃v,cs=[v]∧v.cells= #[v]:=by
 cases τ<;>simp only[Ty.isAgg,Bool.true_eq_false]at ha<;>simp only[Rd]at h
 ·exact⟨_,h,rfl⟩
 ·exact⟨_,h,rfl⟩
 ·exact⟨_,h,rfl⟩
 ·obtain⟨a,cap,rfl,_⟩:=h;exact⟨_,rfl,rfl⟩
theorem V.cells{w:World}{M:Nat→Prop}{τ:Ty}{v:Value}{x:τ.den}(h:V w M τ v x):Rd w M τ v.cells.toList x:=by
 unfold V at h
 by_cases ha:τ.isAgg=true
 ·rw[ae ha]at h;obtain⟨cs,rfl,h⟩:=h;exact h
 ·rw[af ha]at h
  obtain⟨v',hv,hc⟩:=h.scalar (by simpa using ha)
  simp only[cM,cT]at hv
  subst hv
  rw[hc];exact h
def aK(τ:Ty)(cs:List Value):Value:=if τ.isAgg then .agg cs.toArray else cs.headD (.tuple #[])
theorem V.aK{w:World}{M:Nat→Prop}{τ:Ty}{cs:List Value}{x:τ.den}(h:Rd w M τ cs x):V w M τ (aK τ cs) x:=by
 unfold V VM.aK
 by_cases ha:τ.isAgg=true
 ·rw[ae ha,ae ha];exact⟨_,rfl,by simpa using h⟩
 ·rw[af ha,af ha]
  obtain⟨v',rfl,_⟩:=h.scalar (by simpa using ha)
  exact h
theorem yO{w:World}{M:Nat→Prop}{τ:Ty}{cs:List Value}{x:τ.den}(h:Rd w M τ cs x):(aK τ cs).cells.toList=cs:=by
 unfold VM.aK
 by_cases ha:τ.isAgg=true
 ·rw[ae ha];simp[Value.cells]
 ·rw[af ha]
  obtain⟨v',rfl,hc⟩:=h.scalar (by simpa using ha)
  simp[hc]
theorem Rd.fU{w:World}{M:Nat→Prop}: ∀{τ:Ty} {cs:List Value} {x:τ.den},Rd w M τ cs x→ ∀v∈cs,v.oneCell'=true
 | .int _,_,_,h=>by simp only[Rd]at h;subst h;simp[Value.oneCell']
 | .bool,_,_,h=>by simp only[Rd]at h;subst h;simp[Value.oneCell']
 | .str,_,_,h=>by simp only[Rd]at h;subst h;simp[Value.oneCell']
 | .slice _,_,_,h=>by simp only[Rd]at h;obtain⟨a,cap,rfl,_⟩:=h;simp[Value.oneCell']
 | .unit,_,_,h=>by simp only[Rd]at h;subst h;simp
 | .pair a b,_,_,h=>by
  simp only[Rd]at h
  obtain⟨c1,c2,rfl,h1,h2⟩:=h
  intro v hv
  rcases bt.1 hv with hv|hv
  ·exact h1.fU v hv
  ·exact h2.fU v hv
 | .arr n e,_,x,h=>by
  simp only[Rd]at h
  obtain⟨hn,F2,hc,rfl,hr⟩:=h
  intro v hv
  obtain⟨l,hl,W8⟩:=List.mem_flatten.1 hv
  obtain⟨i,hi,rfl⟩:=oS.1 hl
  exact(hr i ω hi).fU v W8
def Ty.aW:Ty→List Value
 | .int k=>[.int k 0]
 | .bool=>[.bool false]
 | .str=>[.string ByteArray.empty]
 | .slice _=>[.slice none 0 0]
 | .unit=>[]
 | .pair a b=>a.aW++b.aW
 | .arr n e=>(List.replicate n e.aW).flatten
theorem Rd.zero(w:World)(M:Nat→Prop): ∀(τ:Ty),Rd w M τ τ.aW τ.zero
 | .int _| .bool| .str| .unit=>by simp[Rd,Ty.aW,Ty.zero]
 | .slice _=>by
  simp only[Rd,Ty.aW,Ty.zero]
  exact⟨none,0,rfl,aH _,λi h=>absurd h (by simp)⟩
 | .pair a b=>by
  simp only[Rd,Ty.aW,Ty.zero]
  exact⟨_,_,rfl,Rd.zero w M a,Rd.zero w M b⟩
 | .arr n e=>by
  simp only[Rd,Ty.aW,Ty.zero]
  refine⟨by simp,_,by simp,rfl,λi h h'=> ?_⟩
  simp only[rI,wB]
  exact Rd.zero w M e
end VM
end
