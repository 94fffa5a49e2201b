/- A part of the proof of TearShares of layer 29: a machine that reads a function of the program as an equation between values. -/
import GoSem.Claims
import Derived.WalkKit
import Derived.ArgAppend
import Derived.Laws.CopyRow
import Derived.Laws.MakeOwn
import Derived.Laws.OwnMore
import Derived.Orders
import Derived.LoopN
set_option linter.all false
abbrev at7:=@Option.bind_some
abbrev aua:=@cond_true
abbrev aub:=@List.getD_eq_getElem?_getD
abbrev auc:=@cond_false
abbrev aud:=@List.length_singleton
abbrev aue:=@Int.toNat_natCast
abbrev auf:=@List.getElem?_eq_getElem
abbrev aug:=@List.length_append
abbrev auh:=@if_pos
abbrev aui:=@if_neg
abbrev auj:=@List.length_cons
abbrev auk:=@List.mem_cons_of_mem
abbrev aul:=@Nat.le_refl
abbrev aum:=@Array.length_toList
abbrev aun:=@List.length_replicate
abbrev auo:=@List.mem_cons_self
abbrev aup:=@List.length_set
abbrev auq:=@Bool.not_true
abbrev aur:=@List.append_assoc
abbrev aus:=@Bool.and_eq_true
abbrev aut:=@List.mem_append
abbrev auu:=@List.length_take
abbrev auv:=@decide_eq_true
abbrev auw:=@of_decide_eq_true
abbrev auy:=@List.mem_cons
abbrev auz:=@List.mem_append_left
abbrev auA:=@List.length_nil
abbrev auB:=@decide_eq_false
abbrev auC:=@Bool.not_false
abbrev auD:=@List.mem_append_right
abbrev auE:=@List.mem_singleton
abbrev auF:=@Bool.and_eq_true_iff
abbrev auG:=@List.drop_zero
abbrev auH:=@List.length_map
abbrev auI:=@List.map_cons
abbrev auJ:=@List.append_nil
abbrev auK:=@List.nil_append
abbrev auL:=@Int.toNat_zero
abbrev auM:=@List.take_of_length_le
abbrev auN:=@Nat.eq_of_beq_eq_true
abbrev auO:=@List.sum_cons
abbrev auP:=@List.length_drop
abbrev auQ:=@List.getElem?_eq_none
abbrev auR:=@List.take_append_drop
abbrev auS:=@Array.getElem?_toList
abbrev auT:=@List.getElem_mem
abbrev auU:=@Array.getElem?_eq_some_iff
abbrev auV:=@List.map_append
abbrev auW:=@List.mem_map
abbrev auX:=@Nat.le_trans
abbrev auY:=@Int.mul_comm
abbrev auZ:=@List.cons.injEq
abbrev au0:=@List.drop_of_length_le
abbrev au1:=@List.pairwise_cons
abbrev au2:=@List.drop_eq_getElem_cons
abbrev au3:=@Nat.zero_le
abbrev au4:=@Int.mul_le_mul_of_nonneg_left
abbrev au5:=@List.getElem?_append_right
abbrev au6:=@Bool.false_eq_true
abbrev au7:=@Option.mem_toList
abbrev au8:=@List.mem_map_of_mem
abbrev au9:=@Nat.add_mul
abbrev ava:=@Nat.mul_le_mul_right
abbrev avb:=@Option.some.injEq
abbrev avc:=@List.size_toArray
abbrev avd:=@Nat.min_eq_left
abbrev ave:=@Int.mul_assoc
abbrev avf:=@decide_eq_true_iff
abbrev avg:=@Array.getD_eq_getD_getElem?
abbrev avh:=@List.mem_of_mem_take
abbrev avi:=@List.getElem?_take
abbrev avj:=@List.getElem?_drop
abbrev avk:=@Nat.zero_add
abbrev avl:=@List.eq_nil_of_length_eq_zero
abbrev avm:=@List.getElem?_append_left
abbrev avn:=@Nat.lt_of_lt_of_le
abbrev avo:=@Int.le_refl
abbrev avp:=@Int.toNat_of_nonneg
abbrev avq:=@List.getElem_of_mem
abbrev avr:=@List.drop_drop
abbrev avs:=@List.getElem?_eq_some_iff
abbrev avt:=@Int.emod_lt_of_pos
abbrev avu:=@Int.ediv_nonneg
abbrev avv:=@Int.mul_ediv_add_emod
abbrev avw:=@List.getElem?_map
abbrev avx:=@Int.eq_ofNat_of_zero_le
abbrev avy:=@Int.mul_le_mul_of_nonneg_right
abbrev avz:=@List.cons_append
abbrev avA:=@Int.ediv_lt_iff_lt_mul
abbrev avB:=@and_true
abbrev avC:=@List.length_pos_iff
abbrev avD:=@List.take_zero
abbrev avE:=@List.mem_iff_getElem
abbrev avF:=@List.take_length
abbrev avG:=@Option.bind_eq_some_iff
abbrev avH:=@congrArg
abbrev avI:=@List.drop_eq_nil_of_le
abbrev avJ:=@List.map_congr_left
abbrev avK:=@Nat.mul_le_mul_left
abbrev avL:=@List.drop_left'
abbrev avM:=@Bool.or_eq_true
abbrev avN:=@List.length_zip
abbrev avO:=@List.mem_or_eq_of_mem_set
abbrev avP:=@Decidable.byContradiction
abbrev avQ:=@if_false
abbrev avR:=@decide_eq_decide
abbrev avS:=@List.map_nil
abbrev avT:=@List.take_append_of_le_length
abbrev avU:=@List.drop_append_of_le_length
abbrev avV:=@Int.add_mul
abbrev avW:=@Bool.not_eq_true'
abbrev avX:=@Bool.eq_false_iff
abbrev avY:=@Bool.eq_iff_iff
abbrev avZ:=@Int.emod_nonneg
abbrev av0:=@Ne.symm
abbrev av1:=@Int.le_of_lt
abbrev av2:=@Nat.one_mul
abbrev av3:=@Bool.true_and
abbrev av4:=@Bool.not_eq_true
abbrev av5:=@List.all_eq_true
abbrev av6:=@Option.getD_some
abbrev av7:=@Array.ext'
abbrev av8:=@Int.mul_nonneg
abbrev av9:=@Int.add_mul_emod_self_left
abbrev awa:=@Int.add_mul_ediv_left
abbrev awb:=@List.pairwise_iff_getElem
abbrev awc:=@List.nodup_append
abbrev awd:=@Int.mul_add
abbrev awe:=@Nat.add_assoc
abbrev awf:=@List.eq_of_mem_replicate
abbrev awg:=@Bool.and_true
abbrev awh:=@List.take_append_getElem
abbrev awi:=@List.drop_take
abbrev awj:=@List.take_take
abbrev awk:=@Nat.add_sub_cancel_left
abbrev awl:=@List.mem_range
abbrev awm:=@List.drop_length
abbrev awn:=@Nat.add_zero
abbrev awo:=@Option.map_eq_some_iff
abbrev awp:=@Nat.pow_succ
abbrev awq:=@Int.ediv_eq_zero_of_lt
abbrev awr:=@List.sum_nil
abbrev aws:=@List.headD_cons
abbrev awt:=@if_true
abbrev awu:=@List.length_range
abbrev awv:=@Nat.two_pow_add_eq_or_of_lt
abbrev aww:=@decide_eq_true_eq
abbrev awx:=@Option.ne_none_iff_exists'
abbrev awy:=@Array.getElem_toList
abbrev awz:=@List.tail_cons
abbrev awA:=@Int.tdiv_eq_ediv_of_nonneg
abbrev awB:=@List.mem_of_mem_drop
abbrev awC:=@Nat.lt_or_ge
abbrev awD:=@Int.le_trans
abbrev awE:=@Int.le_of_mul_le_mul_left
abbrev awF:=@List.replicate_succ
abbrev awG:=@List.getElem_append_left
abbrev awH:=@Bool.false_or
abbrev awI:=@Bool.or_false
abbrev awJ:=@Int.mul_ediv_cancel_left
abbrev awK:=@List.take_left'
abbrev awL:=@List.sum_append
abbrev awM:=@Int.lt_of_le_of_lt
abbrev awN:=@Nat.le_succ
abbrev awO:=@Nat.sub_mul
abbrev awP:=@Int.one_mul
abbrev awQ:=@List.getElem?_replicate
abbrev awR:=@decide_eq_false_iff_not
abbrev awS:=@List.getElem_cons_zero
abbrev awT:=@List.flatten_cons
abbrev awU:=@List.ext_getElem?
abbrev awV:=@Nat.beq_refl
abbrev awW:=@List.take_succ_eq_append_getElem
abbrev awX:=@Bool.false_and
abbrev awY:=@List.pairwise_map
abbrev awZ:=@Array.getElem?_setIfInBounds_ne
abbrev aw0:=@Nat.le_of_ble_eq_true
abbrev aw1:=@List.Pairwise.sublist
abbrev aw2:=@List.singleton_append
abbrev aw3:=@List.any_eq_true
abbrev aw4:=@Nat.and_two_pow_sub_one_eq_mod
abbrev aw5:=@beq_self_eq_true
abbrev aw6:=@Nat.pow_le_pow_right
abbrev aw7:=@Int.mul_neg
abbrev aw8:=@Int.natCast_mul
abbrev aw9:=@Int.natCast_add
abbrev axa:=@List.get_eq_getElem
abbrev axb:=@Nat.sub_self
abbrev axc:=@Int.mul_lt_mul_of_pos_right
abbrev axd:=@Int.add_zero
abbrev axe:=@Int.sub_zero
abbrev axf:=@iff_iff_implies_and_implies
abbrev axg:=@List.getElem_range
abbrev axh:=@Nat.mul_le_mul
abbrev axi:=@List.mapM_cons
abbrev axj:=@Bool.false_ne_true
abbrev axk:=@Int.fdiv_eq_ediv_of_nonneg
abbrev axl:=@Int.sub_eq_add_neg
abbrev axm:=@Int.mul_emod_right
abbrev axn:=@Int.tmod_lt_of_pos
abbrev axo:=@List.getElem_append_right
abbrev axp:=@Array.getElem?_eq_getElem
abbrev axq:=@Classical.byContradiction
abbrev axr:=@List.getElem_drop
abbrev axs:=@Int.mul_sub
abbrev axt:=@Int.emod_eq_of_lt
abbrev axu:=@Decidable.not_not
abbrev axv:=@List.length_eq_zero_iff
abbrev axw:=@List.getElem?_cons_zero
abbrev axx:=@Prod.ext
abbrev axy:=@Array.getElem?_eq_none
abbrev axz:=@List.getElem_replicate
abbrev axA:=@Nat.beq_eq
abbrev axB:=@Nat.mul_comm
abbrev axC:=@List.append_eq_nil_iff
abbrev axD:=@Int.pow_succ
abbrev axE:=@Int.zero_add
abbrev axF:=@Nat.mul_succ
abbrev axG:=@List.range_succ
abbrev axH:=@List.nodup_cons
abbrev axI:=@List.mem_filter
abbrev axJ:=@List.getElem?_toArray
abbrev axK:=@Nat.div_lt_iff_lt_mul
abbrev axL:=@Int.ediv_le_of_le_mul
abbrev axM:=@Bool.and_false
abbrev axN:=@Int.sub_sub
abbrev axO:=@List.all_cons
abbrev axP:=@Nat.lt_irrefl
abbrev axQ:=@Nat.blt_eq
abbrev axR:=@Nat.ble_eq
abbrev axS:=@Nat.log2_def
abbrev axT:=@Int.zero_mul
section
namespace VM
open Go
theorem adw{α:Type}(a:α): ∃b:α,b=a:=⟨a,rfl⟩
noncomputable def aS{α:Type}(a:α):α:=Classical.choose (adw a)
theorem eW{α:Type}(a:α):aS a=a:=Classical.choose_spec (adw a)
def si:Nat:=68719476736
noncomputable def W:IntKind→Int→Int:=aS fun k x=>k.wrap x
noncomputable def aH:Int→Int→Bool:=aS fun x y=>decide (x<y)
noncomputable def bR:Int→Int→Bool:=aS fun x y=>decide (x≤y)
noncomputable def ay:Int→Int→Bool:=aS fun x y=>decide (x=y)
noncomputable def aK:Int→Nat→Bool:=aS fun i n=>decide (0≤i∧i<(n:Int))
noncomputable def small:Nat→Bool:=aS fun n=>decide (n<si)
noncomputable def dX:Int→Int→Bool:=aS fun l c=>decide (0≤l∧l≤c∧c<(si:Int))
noncomputable def fD:Int→Int→Int→Int→Bool:=aS fun l h m n=>decide (0≤l∧l≤h∧h≤m∧m≤n)
noncomputable def quo:Int→Int→Int:=aS fun x y=>x.tdiv y
noncomputable def rem:Int→Int→Int:=aS fun x y=>x.tmod y
noncomputable def shl:IntKind→Int→Int→Int:=aS fun k x y=>x*2^(min y.toNat k.bits)
noncomputable def shr:IntKind→Int→Int→Int:=aS fun k x y=>x.fdiv (2^(min y.toNat k.bits))
noncomputable def mx:Int→Int→Int:=aS fun x y=>if y>x then y else x
noncomputable def mn:Int→Int→Int:=aS fun x y=>if y<x then y else x
noncomputable def MW:ByteArray→ByteArray→Bool:=aS fun x y=>decide (x.toList=y.toList)
theorem w9(k:IntKind)(x:Int):W k x=k.wrap x:=by unfold W;rw[eW]
theorem ma(x y:Int):aH x y=decide (x<y):=by unfold aH;rw[eW]
theorem jY(x y:Int):bR x y=decide (x≤y):=by unfold bR;rw[eW]
theorem fK(x y:Int):ay x y=decide (x=y):=by unfold ay;rw[eW]
theorem MX(i:Int)(n:Nat):aK i n=decide (0≤i∧i<(n:Int)):=by unfold aK;rw[eW]
theorem yu(n:Nat):small n=decide (n<si):=by unfold small;rw[eW]
theorem Bh(l c:Int):dX l c=decide (0≤l∧l≤c∧c<(si:Int)):=by unfold dX;rw[eW]
theorem tx(l h m n:Int):fD l h m n=decide (0≤l∧l≤h∧h≤m∧m≤n):=by unfold fD;rw[eW]
theorem Cl(x y:Int):quo x y=x.tdiv y:=by unfold quo;rw[eW]
theorem MY(x y:Int):rem x y=x.tmod y:=by unfold rem;rw[eW]
theorem MZ(k:IntKind)(x y:Int):shl k x y=x*2^(min y.toNat k.bits):=by unfold shl;rw[eW]
theorem HR(k:IntKind)(x y:Int):shr k x y=x.fdiv (2^(min y.toNat k.bits)):=by unfold shr;rw[eW]
theorem adx(x y:Int):mx x y=if y>x then y else x:=by unfold mx;rw[eW]
theorem Xq(x y:Int):mn x y=if y<x then y else x:=by unfold mn;rw[eW]
theorem yv(x y:ByteArray):MW x y=decide (x.toList=y.toList):=by unfold MW;rw[eW]
inductive Bw where|and|or|xor|andNot
noncomputable def iZ:Bw→IntKind→Int→Int→Int:=aS fun o k x y=>
 let a:=BitVec.ofInt k.bits x
 let b:=BitVec.ofInt k.bits y
 k.wrap (match o with| .and=>a&&& b| .or=>a|||b| .xor=>a^^^b| .andNot=>a&&& ~~~b).toNat
theorem o0(o:Bw)(k:IntKind)(x y:Int):iZ o k x y=
 let a:=BitVec.ofInt k.bits x
 let b:=BitVec.ofInt k.bits y
 k.wrap (match o with| .and=>a&&& b| .or=>a|||b| .xor=>a^^^b| .andNot=>a&&& ~~~b).toNat:=by unfold iZ;rw[eW]
def strOf(l:List Nat):ByteArray:=⟨(l.map UInt8.ofNat).toArray⟩
inductive Ty where
 |int (k:IntKind)
 |bool
 |str
 |slice (e:Ty)
 |unit
 |pair (a b:Ty)
 |arr (n:Nat) (e:Ty)
 deriving DecidableEq
@[reducible] def Ty.den:Ty→Type
 | .int _=>Int
 | .bool=>Bool
 | .str=>ByteArray
 | .slice e=>List e.den
 | .unit=>Unit
 | .pair a b=>a.den×b.den
 | .arr _ e=>List e.den
def Ty.size:Ty→Nat
 | .int _| .bool| .str| .slice _=>1
 | .unit=>0
 | .pair a b=>a.size+b.size
 | .arr n e=>n*e.size
def Ty.isAgg:Ty→Bool
 | .unit| .pair _ _| .arr _ _=>true
 |_=>false
def Ty.zero:(τ:Ty)→τ.den
 | .int _=>(0:Int)
 | .bool=>false
 | .str=>ByteArray.empty
 | .slice _=>[]
 | .unit=>()
 | .pair a b=>(a.zero,b.zero)
 | .arr n e=>List.replicate n e.zero
def Ty.comparable:Ty→Bool
 | .slice _=>false
 | .pair a b=>a.comparable&&b.comparable
 | .arr _ _=>false
 |_=>true
def ady{α:Type}(f:α→α→Bool):List α→List α→Bool
 |[],[]=>true
 |x::xs,y::ys=>f x y&&ady f xs ys
 |_,_=>false
noncomputable def lR:(τ:Ty)→τ.den→τ.den→Bool
 | .int _,x,y=>ay x y
 | .bool,x,y=>x==y
 | .str,x,y=>MW x y
 | .slice _,_,_=>false
 | .unit,_,_=>true
 | .pair a b,x,y=>lR a x.1 y.1&&lR b x.2 y.2
 | .arr _ e,x,y=>ady (lR e) x y
inductive Step where
 |gA (n:Nat)
 |idx (i:Nat)
def D0:List Step→List Step→Bool
 |[],[]=>true
 | .gA a::p,.gA b::q=>Nat.beq a b&&D0 p q
 |_,_=>false
def sj:List Step→List Step→Bool
 |[],_=>true
 | .gA a::p,.gA b::q=>Nat.beq a b&&sj p q
 |_,_=>false
def Cm:Ty→Nat→Option Ty
 | .pair a b,n=>match n with
  |0=>some a
  |n+1=>Cm b n
 |_,_=>none
def ej:List Step→Ty→Ty→Bool
 |[],τ,υ=>decide (τ=υ)
 | .gA n::p,τ,υ=>match Cm τ n with
  |some a=>ej p a υ
  |none=>false
 |_,_,_=>false
inductive aY where
 |any
 |M4
 |val (τ:Ty) (x:τ.den)
 |Cn (τ:Ty) (x:τ.den) (n:Nat)
 |emp
 |ref (id:Nat)
 |fC (id:Nat) (p:List Step)
 |mc (τ:Ty) (x:τ.den)
 |tup (vs:List aY)
 |D1 (f:Nat) (caps:List aY)
inductive aQ where
 |obj (τ:Ty) (x:τ.den)
 |dO (τ:Ty) (x:τ.den) (p:List Step) (j:Nat)
 |own (e:Ty) (l:List e.den)
 |kt (e:Ty) (l:List e.den)
 |gone
structure St where
 T:Nat→aY
 H:Nat→Option aQ
def St.put(σ:St)(d:Nat)(v:aY):St:=⟨fun i=>cond (Nat.beq i d) v (σ.T i),σ.H⟩
def St.gZ(σ:St)(d:Nat)(v:Option aQ):St:=⟨σ.T,fun i=>cond (Nat.beq i d) v (σ.H i)⟩
def St.qg(σ:St)(d:Option Nat)(v:aY):St:=match d with|some d=>σ.put d v|none=>σ
def D2(n:Nat)(io:List Nat):Option Nat→Bool|some d=>Nat.blt d n&&io.all (fun i=> !(Nat.beq i d))|none=>true
def St.qw(σ:St):List (Nat×Option aQ)→St
 |[]=>σ
 |u::r=>(σ.gZ u.1 u.2).qw r
abbrev S0:St:=⟨fun _=> .any,fun _=>none⟩
abbrev fj:=List (Nat×Option aQ)
section K
variable{α:Type}
def sk:(τ:Ty)→τ.den→Nat→((υ:Ty)→υ.den→Option α)→Option α
 | .pair a b,x,n,k=>match n with
  |0=>k a x.1
  |n+1=>sk b x.2 n k
 |_,_,_,_=>none
def jj:(τ:Ty)→τ.den→Nat→((υ:Ty)→υ.den→(υ.den→Option α)→Option α)→(τ.den→Option α)→Option α
 | .pair a b,x,n,m,k=>match n with
  |0=>m a x.1 fun z=>k (z,x.2)
  |n+1=>jj b x.2 n m fun z=>k (x.1,z)
 |_,_,_,_,_=>none
def jk(τ υ:Ty)(k:Option α):Option α:=if τ=υ then k else none
def b7(υ τ:Ty)(y:υ.den)(k:τ.den→Option α):Option α:=if h:υ=τ then k (h▸y)else none
def Yy(τ:Ty)(x:τ.den)(i:Nat)(k:(υ:Ty)→υ.den→Option α):Option α:=
 match τ,x with
 | .arr _ e,x=>k e (List.getD x i e.zero)
 |_,_=>none
def xN(τ:Ty)(x:τ.den)(i:Nat)(m:(υ:Ty)→υ.den→(υ.den→Option α)→Option α)(k:τ.den→Option α):Option α:=
 match τ,x,k with
 | .arr _ e,x,k=>m e (List.getD x i e.zero) fun z=>k (List.set x i z)
 |_,_,_=>none
def tz:List Step→(τ:Ty)→τ.den→((υ:Ty)→υ.den→Option α)→Option α
 |[],τ,x,k=>k τ x
 | .gA n::p,τ,x,k=>sk τ x n fun υ y=>tz p υ y k
 | .idx i::p,τ,x,k=>Yy τ x i fun υ y=>tz p υ y k
def qi(υ:Ty)(y:υ.den):List Step→(τ:Ty)→τ.den→(τ.den→Option α)→Option α
 |[],τ,_,k=>b7 υ τ y k
 | .gA n::p,τ,x,k=>jj τ x n (fun υ' y' k'=>qi υ y p υ' y' k') k
 | .idx i::p,τ,x,k=>xN τ x i (fun υ' y' k'=>qi υ y p υ' y' k') k
def iC(fz:Bool)(a:aY)(H:Nat→Option aQ)(τ:Ty)(k:τ.den→List Nat→fj→Option α):Option α:=
 match a with
 | .val υ x=>b7 υ τ x fun y=>k y [] []
 | .Cn υ x _=>b7 υ τ x fun y=>k y [] []
 | .emp=>match τ,k with
  | .slice _,k=>k [] [] []
  |_,_=>none
 | .ref id=>match H id with
  |some (.own e l)=>b7 (.slice e) τ l fun y=>k y [id] (cond fz [(id,some (.kt e l))] [])
  |some (.kt e l)=>b7 (.slice e) τ l fun y=>k y [id] []
  |_=>none
 |_=>none
def D3(a:aY)(k:(τ:Ty)→τ.den→Option α):Option α:=
 match a with
 | .val υ x=>k υ x
 |_=>none
def jl(id:Nat)(p:List Step)(H:Nat→Option aQ)(k:Ty→Option α):Option α:=
 match H id with
 |some (.obj τ x)=>tz p τ x fun υ _=>k υ
 |some (.dO τ x _ _)=>tz p τ x fun υ _=>k υ
 |some (.own e l)|some (.kt e l)=>match p with
  | .idx i::p=>tz p e (List.getD l i e.zero) fun υ _=>k υ
  |_=>none
 |_=>none
def aoa(a:aY)(H:Nat→Option aQ)(k:(τ:Ty)→τ.den→List Nat→Option α):Option α:=
 match a with
 | .val υ x=>k υ x []
 | .ref id=>match H id with
  |some (.own e l)|some (.kt e l)=>k (.slice e) l [id]
  |_=>none
 |_=>none
def qx(a:aY)(k:IntKind→Int→Option α):Option α:=
 match a with
 | .val (.int i) x=>k i x
 |_=>none
end K
inductive AM where
 |v (τ:Ty)
 |own (e:Ty)
 |io (τ:Ty)
 |fn (f:Nat) (τ:Ty)
 |ptr (τ:Ty)
 |fC (τ:Ty)
@[reducible] def AM.den:AM→Type
 | .v τ=>τ.den
 | .own e=>List e.den
 | .io τ=>τ.den
 | .fn _ τ=>τ.den
 | .ptr τ=>τ.den
 | .fC τ=>τ.den
@[reducible] def HP:List AM→Type
 |[]=>Unit
 |[m]=>m.den
 |m::n::ms=>m.den×HP (n::ms)
structure g9 where
 args:List AM
 res:List AM
 quiet:Bool
 run:HP args→Option (HP res)
inductive CM where
 |v (τ:Ty)
 |own (e:Ty)
 |obj (τ:Ty)
 |dO (τ:Ty) (q:List Step) (e:Ty)
 |same (s:Nat)
 |io (τ:Ty)
 |fn (f:Nat) (τ:Ty)
structure Env where
 nt:Nat
 ty:Nat→Option Ty
 Γ:Nat→List g9
 N:Nat
 qy:Nat→Option (List (Nat×CM))
 sl:Nat→Option (List (Nat×CM))
 io:List Nat:=[]
 lk:Option (Ty×List Step×Ty×List Nat):=none
def lkT(E:Env)(τ:Ty):Option (List Step×Ty):=match E.lk with
 |some (υ,q,e,_)=>cond (decide (υ=τ)) (cond (ej q τ (.slice e)) (some (q,e)) none) none
 |none=>none
def Co(E:Env)(τ:Ty)(id:Nat):Option (List Step×Ty):=match E.lk with
 |some (_,_,_,ds)=>cond (ds.any fun d=>Nat.beq (id/16) d) (lkT E τ) none
 |none=>none
def cvA:Value→aY
 | .int k n=> .val (.int k) n
 | .bool b=> .val .bool b
 | .string s=> .val .str s
 | .slice none 0 0=> .emp
 |_=> .any
def St.ρ (σ:St):Operand→aY
 | .tmp t=>σ.T t
 | .const v=>cvA v
 | .global _=> .any
 | .func f=> .D1 f []
section
variable{α:Type}
noncomputable def o4(op:BinOp)(k:IntKind)(x y:Int)(K:aY→Option α):Option α:=
 match op with
 | .add=>K (.val (.int k) (W k (x+y)))
 | .sub=>K (.val (.int k) (W k (x-y)))
 | .mul=>K (.val (.int k) (W k (x*y)))
 | .quo=>cond (ay y 0) none (K (.val (.int k) (W k (quo x y))))
 | .rem=>cond (ay y 0) none (K (.val (.int k) (rem x y)))
 | .and=>K (.val (.int k) (iZ .and k x y))
 | .or=>K (.val (.int k) (iZ .or k x y))
 | .xor=>K (.val (.int k) (iZ .xor k x y))
 | .andNot=>K (.val (.int k) (iZ .andNot k x y))
 | .eql=>K (.val .bool (ay x y))
 | .neq=>K (.val .bool (!ay x y))
 | .lss=>K (.val .bool (aH x y))
 | .leq=>K (.val .bool (bR x y))
 | .gtr=>K (.val .bool (aH y x))
 | .geq=>K (.val .bool (bR y x))
 |_=>none
noncomputable def QN(op:BinOp)(k:IntKind)(x y:Int)(K:aY→Option α):Option α:=
 match op with
 | .shl=>cond (aH y 0) none (K (.val (.int k) (W k (shl k x y))))
 | .shr=>cond (aH y 0) none (K (.val (.int k) (shr k x y)))
 |_=>none
def QO:BinOp→Bool
 | .shl| .shr=>true
 |_=>false
noncomputable def yw(t:Option Ty)(op:BinOp)(τ:Ty)(x:τ.den)(υ:Ty)(y:υ.den)(K:aY→Option α):Option α:=
 match τ,x,υ,y with
 | .int k,x,.int k',y=>cond (QO op) (QN op k x y K) (if k=k' then o4 op k x y K else none)
 |τ,x,υ,y=>match t with
  |none=>none
  |some u=>jk u τ (cond τ.comparable (match op with
   | .eql=>b7 υ τ y fun y=>K (.val .bool (lR τ x y))
   | .neq=>b7 υ τ y fun y=>K (.val .bool (!lR τ x y))
   |_=>none) none)
noncomputable def KL(op:UnOp)(a:aY)(K:aY→Option α):Option α:=
 match op,a with
 | .neg,.val (.int k) n=>K (.val (.int k) (W k (0-n)))
 | .xor,.val (.int k) n=>K (.val (.int k) (iZ .xor k (if k.signed then-1 else k.max) n))
 | .not,.val .bool b=>K (.val .bool (!b))
 |_,_=>none
abbrev fk(α:Type):=aY→List Nat→fj→Option α
noncomputable def Qn(up:Bool):aY→List aY→(aY→Option α)→Option α
 |a,[],K=>K a
 |a,b::r,K=>qx a fun k x=>qx b fun k' y=>if k=k' then Qn up (.val (.int k) (cond up (mx x y) (mn x y))) r K else none
def D4(τ:Ty)(a:aY)(H:Nat→Option aQ)(K:fk α):Option α:=
 match τ,a with
 | .slice _,.val (.slice _) l=>K (.val (.int .i64) (List.length l:Int)) [] []
 | .arr n _,.val (.arr _ _) _=>K (.val (.int .i64) (n:Int)) [] []
 | .str,.val .str s=>K (.val (.int .i64) (ByteArray.size s:Int)) [] []
 | .slice _,.emp=>K (.val (.int .i64) (0:Int)) [] []
 | .slice _,.ref id=>match H id with
  |some (.own _ l)|some (.kt _ l)=>K (.val (.int .i64) (l.length:Int)) [id] []
  |_=>none
 |_,_=>none
def me(H:Nat→Option aQ)(id:Nat)(e:aQ)(K:Option α):Option α:=
 match H id with
 |none=>K
 |some _=>none
noncomputable def D5(id:Nat)(e:Ty)(a b:aY)(H:Nat→Option aQ)(K:fk α):Option α:=
 iC false b H (.slice e) fun ys rd _=>
  match a with
  | .emp=>cond (small (List.length ys)) (K (.ref id) (id::rd) [(id,some (.own e ys))]) none
  | .ref j=>match H j with
   |some (.own e' l)=>b7 (.slice e') (.slice e) l fun xs=>
    cond (small (List.length xs+List.length ys)) (K (.ref id) (id::j::rd) [(j,some .gone),(id,some (.own e (xs++ys)))]) none
   |_=>none
  |_=>none
def o5(τ:Ty)(H:Nat→Option aQ):List (Nat×aY)→τ.den→List Nat→fj→(τ.den→List Nat→fj→Option α)→Option α
 |[],x,rd,ups,K=>K x rd ups
 |p::r,x,rd,ups,K=>sk τ x p.1 fun υ _=>iC true p.2 H υ fun y vi jZ=>
  jj τ x p.1 (fun υ' _ k'=>b7 υ υ' y k') fun z=>o5 τ H r z (vi++rd) (ups++jZ) K
def qz(e:Ty)(H:Nat→Option aQ)(n:Nat):List (Nat×aY)→List e.den→List Nat→fj→(List e.den→List Nat→fj→Option α)→Option α
 |[],l,rd,ups,K=>K l rd ups
 |p::r,l,rd,ups,K=>cond (Nat.blt p.1 n) (iC true p.2 H e fun y vi jZ=>qz e H n r (List.set l p.1 y) (vi++rd) (ups++jZ) K) none
def wh(v:aY)(H:Nat→Option aQ):(a:Ty)→(a.den→List Nat→fj→Option α)→Option α
 | .pair a .unit,k=>match v with
  | .mc υ x=>b7 υ a x fun y=>k (y,()) [] []
  |_=>none
 |a,k=>iC true v H a k
def wi:(a:Ty)→a.den→aY
 | .pair a .unit,x=> .mc a x.1
 |a,x=> .val a x
def mf(H:Nat→Option aQ):(τ:Ty)→List aY→(τ.den→List Nat→fj→Option α)→Option α
 | .unit,[],K=>K () [] []
 | .pair a b,v::vs,K=>wh v H a fun x rd ups=>mf H b vs fun xs vi jZ=>K (x,xs) (vi++rd) (ups++jZ)
 |_,_,_=>none
def lq:(τ:Ty)→τ.den→List aY
 | .pair a b,x=>wi a x.1::lq b x.2
 |_,_=>[]
def bn(H:Nat→Option aQ)(d:Nat)(v:Option aQ):Nat→Option aQ:=fun i=>cond (Nat.beq i d) v (H i)
def qA(H:Nat→Option aQ):List aY→(List aY→List Nat→fj→Option α)→Option α
 |[],K=>K [] [] []
 |a::r,K=>match a with
  | .fC id []=>match H id with
   |some (.obj τ x)=>qA (bn H id (some .gone)) r fun cs rd ups=>K (.mc τ x::cs) (id::rd) ((id,some .gone)::ups)
   |_=>none
  |a=>qA H r fun cs rd ups=>K (a::cs) rd ups
def kC(m:AM)(a:aY)(H:Nat→Option aQ)(k:m.den→(Nat→Option aQ)→List Nat→fj→fj→List (Nat×Ty)→Option α):Option α:=
 match m,k with
 | .v τ,k=>iC true a H τ fun x rd uf=>match uf with
  |[]=>k x H rd [] [] []
  |u::r=>k x (bn H u.1 u.2) rd [] (u::r) []
 | .own e,k=>match a with
  | .emp=>k [] H [] [] [] []
  | .ref id=>match H id with
   |some (.own e' l)=>b7 (.slice e') (.slice e) l fun x=>k x (bn H id (some .gone)) [id] [(id,some .gone)] [] []
   |_=>none
  |_=>none
 | .io τ,k=>match a with
  | .fC id []=>match H id with
   |some (.obj υ x)=>b7 υ τ x fun y=>k y (bn H id (some .gone)) [id] [] [] [(id,τ)]
   |_=>none
  |_=>none
 | .fn f τ,k=>match a with
  | .D1 f' c=>cond (Nat.beq f f') (mf H τ c fun x rd uf=>match uf with
   |[]=>k x H rd [] [] []
   |_=>none) none
  |_=>none
 | .ptr _,_=>none
 | .fC τ,k=>match a with
  | .mc υ x=>b7 υ τ x fun y=>k y H [] [] [] []
  |_=>none
def ox:(ms:List AM)→List aY→(Nat→Option aQ)→List Nat→fj→fj→List (Nat×Ty)→(HP ms→List Nat→fj→fj→List (Nat×Ty)→Option α)→Option α
 |[],[],_,rd,uo,uf,io,K=>K () rd uo uf io
 |[m],[a],H,rd,uo,uf,io,K=>kC m a H fun x _ vi DO DP Aw=>K x (vi++rd) (DO++uo) (DP++uf) (io++Aw)
 |m::n::ms,a::lB,H,rd,uo,uf,io,K=>kC m a H fun x H' vi DO DP Aw=>
  ox (n::ms) lB H' (vi++rd) (DO++uo) (DP++uf) (io++Aw) fun xs rd uo uf io=>K (x,xs) rd uo uf io
 |_,_,_,_,_,_,_,_=>none
def Cp(m:AM)(x:m.den)(id:Nat):aY×fj:=
 match m,x with
 | .v τ,x=>(.val τ x,[])
 | .own e,x=>(.ref id,[(id,some (.own e x))])
 | .io τ,x=>(.val τ x,[])
 | .fn _ _,_=>(.any,[])
 | .ptr τ,x=>(.fC id [],[(id,some (.obj τ x))])
 | .fC _,_=>(.any,[])
def iD:(ms:List AM)→HP ms→Nat→List (Nat×Ty)→List aY×fj×List (Nat×Ty)
 |[],_,_,io=>([],[],io)
 |[m],x,id,io=>match m,x,io with
  | .io τ,x,(j,_)::io=>([],[(j,some (.obj τ x))],io)
  |m,x,io=>([(Cp m x id).1],(Cp m x id).2,io)
 |m::n::ms,x,id,io=>match m,x,io with
  | .io τ,x,(j,_)::io=>let r:=iD (n::ms) x.2 (id+1) io;(r.1,(j,some (.obj τ x.1))::r.2.1,r.2.2)
  |m,x,io=>let r:=iD (n::ms) x.2 (id+1) io;((Cp m x.1 id).1::r.1,(Cp m x.1 id).2++r.2.1,r.2.2)
def D6:List aY→aY
 |[]=> .any
 |[a]=>a
 |l=> .tup l
def o6(H:Nat→Option aQ)(id:Nat):Nat→Bool
 |0=>true
 |n+1=>(match H (id+n)with|none=>true|some _=>false)&&o6 H id n
def D7(id:Nat):Nat→List Nat
 |0=>[]
 |n+1=>(id+n)::D7 id n
def fits:List AM→List aY→Bool
 |[],[]=>true
 | .fn f _::ms,.D1 g _::lB=>Nat.beq f g&&fits ms lB
 | .fn _ _::_,_::_=>false
 |_::ms,_::lB=>fits ms lB
 |_,_=>false
def D8:List g9→List aY→Option g9
 |[],_=>none
 |S::r,lB=>cond (fits S.args lB) (some S) (D8 r lB)
noncomputable def wj(E:Env)(f:Nat)(lB:List aY)(id:Nat)(H:Nat→Option aQ)(K:fk α):Option α:=
 match D8 (E.Γ f) lB with
 |none=>none
 |some S=>ox S.args lB H [] [] [] [] fun x rd uo uf io=>
  (S.run x).bind fun y=>
   let r:=iD S.res y id io
   cond (o6 H id S.res.length) (K (D6 r.1) (D7 id S.res.length++(r.2.1.map (·.1)++rd)) (uo++cond S.quiet [] uf++r.2.1)) none
def sO(a:Option aY)(d:Int)(k:Int→Option α):Option α:=
 match a with
 |none=>k d
 |some a=>qx a fun _ x=>k x
def iw:Option Operand→Bool
 |some (.const (.int _ n))=>decide (n=0)
 |_=>false
noncomputable def mg(t:Ty)(z:Bool)(a:aY)(lo hi mx:Option aY)(H:Nat→Option aQ)(K:fk α):Option α:=
 match t,a with
 | .str,.val .str s=>cond mx.isNone (sO lo 0 fun l=>sO hi (ByteArray.size s:Int) fun h=>
  cond (fD l h (ByteArray.size s:Int) (ByteArray.size s:Int)) (K (.val .str (ByteArray.extract s l.toNat h.toNat)) [] []) none) none
 | .slice _,.emp=>cond z (K .emp [] []) (cond mx.isNone (sO lo 0 fun l=>sO hi 0 fun h=>cond (fD l h 0 0) (K .emp [] []) none) none)
 | .slice e,a=>iC (!z) a H (.slice e) fun x rd ups=>cond z (K .emp rd [])
  (cond (mx.isNone||hi.isSome) (sO lo 0 fun l=>sO hi (List.length x:Int) fun h=>sO mx (List.length x:Int) fun m=>
   cond (fD l h m (List.length x:Int))
    (K (.val (.slice e) (List.drop l.toNat (List.take h.toNat x))) rd ups) none) none)
 |_,_=>none
noncomputable def dY(τ:Ty)(a i:aY)(H:Nat→Option aQ)(K:fk α):Option α:=
 qx i fun _ i=>
 match τ with
 | .slice e=>match a with
  | .val υ l=>b7 υ (.slice e) l fun l=>cond (aK i (List.length l)) (K (.mc e (List.getD l i.toNat e.zero)) [] []) none
  | .ref id=>match H id with
   |some (.own e' l)|some (.kt e' l)=>jk e' e (cond (aK i (List.length l)) (K (.fC id [.idx i.toNat]) [id] []) none)
   |_=>none
  |_=>none
 | .arr n e=>match a with
  | .fC id p=>jl id p H fun υ=>jk υ (.arr n e) (cond (aK i n) (K (.fC id (p++[.idx i.toNat])) [id] []) none)
  | .mc υ l=>b7 υ (.arr n e) l fun l=>cond (aK i n) (K (.mc e (List.getD l i.toNat e.zero)) [] []) none
  |_=>none
 |_=>none
noncomputable def qB(τ:Ty)(a i:aY)(K:aY→Option α):Option α:=
 qx i fun _ i=>
 match τ,a with
 | .arr n e,.val υ l=>b7 υ (.arr n e) l fun l=>cond (aK i n) (K (.val e (List.getD l i.toNat e.zero))) none
 | .str,.val .str s=>cond (aK i (ByteArray.size s)) (K (.val (.int .u8) ((s.data.getD i.toNat 0).toNat:Int))) none
 |_,_=>none
def gU(a:aY)(H:Nat→Option aQ)(K:(υ:Ty)→υ.den→List Nat→Option α):Option α:=
 match a with
 | .mc τ x=>K τ x []
 | .fC id p=>match H id with
  |some (.obj τ x)=>tz p τ x fun υ y=>K υ y [id]
  |some (.own e l)|some (.kt e l)=>match p with
   | .idx i::p=>tz p e (List.getD l i e.zero) fun υ y=>K υ y [id]
   |_=>none
  |_=>none
 |_=>none
def iE(τ:Ty)(a v:aY)(H:Nat→Option aQ)(K:fk α):Option α:=
 match a with
 | .fC id p=>iC true v H τ fun y rd ups=>
  match H id with
  |some (.obj υ x)=>qi τ y p υ x fun z=>K .any (id::rd) (ups++[(id,some (.obj υ z))])
  |some (.own e l)=>match p with
   | .idx i::p=>cond (rd.contains id) none (qi τ y p e (List.getD l i e.zero) fun z=>K .any (id::rd) (ups++[(id,some (.own e (List.set l i z)))]))
   |_=>none
  |_=>none
 |_=>none
def xa(j:Nat)(q:List Step)(τ:Ty)(x:τ.den)(H:Nat→Option aQ)(k:τ.den→fj→Option α):Option α:=
 match H j with
 |some (.own e l)=>qi (.slice e) l q τ x fun z=>k z [(j,some (.kt e l))]
 |some (.kt e l)=>qi (.slice e) l q τ x fun z=>k z []
 |_=>none
def p5(τ:Ty)(a:aY)(H:Nat→Option aQ)(K:fk α):Option α:=
 let tu:=gU a H fun υ y rd=>b7 υ τ y fun z=>K (.val τ z) rd []
 match a with
 | .fC id p=>match H id with
  |some (.dO υ x q j)=>cond (D0 p q) (cond (ej q υ τ) (K (.ref j) [id] []) none)
   (cond (sj p q) (xa j q υ x H fun z ups=>tz p υ z fun υ' y=>b7 υ' τ y fun y'=>K (.val τ y') [id,j] ups)
    (tz p υ x fun υ' y=>b7 υ' τ y fun y'=>K (.val τ y') [id] []))
  |_=>tu
 |_=>tu
def wk(τ:Ty)(id k:Nat)(e:Ty)(q:List Step)(υ:Ty)(x:υ.den)(H:Nat→Option aQ)(K:fk α):Option α:=
 match H k with
 |some (.own e' _)=>jk e' e (jk τ (.slice e) (qi (.slice e) [] q υ x fun z=>K .any [id,k] [(id,some (.dO υ z q k))]))
 |_=>none
def gf(E:Env)(τ:Ty)(a v:aY)(H:Nat→Option aQ)(K:fk α):Option α:=
 let tu:=iE τ a v H K
 match a with
 | .fC id p=>match H id with
  |some (.obj υ x)=>match Co E υ id,v with
   |some (q,e),.ref k=>cond (D0 p q) (wk τ id k e q υ x H K) tu
   |_,_=>tu
  |some (.dO υ x q j)=>
   let put:=iC true v H τ fun y rd ups=>qi τ y p υ x fun z=>K .any (id::rd) (ups++[(id,some (cond (sj p q) (.obj υ z) (.dO υ z q j)))])
   match Co E υ id,v with
   |some (q',e),.ref k=>cond (D0 p q&&D0 q q') (wk τ id k e q υ x H K) put
   |_,_=>put
  |_=>tu
 |_=>tu
def n5(E:Env)(τ:Ty)(a v:aY)(H:Nat→Option aQ)(K:fk α):Option α:=
 match a,v with
 | .fC id [],.Cn υ y n=>match Co E υ id with
  |some ([.gA m],e)=>cond (Nat.beq m n) (jk τ υ (jl id [] H fun υ'=>jk υ' υ
   (me H (id+2) (.own e []) (K .any [id,id+2] [(id,some (.dO υ y [.gA m] (id+2))),(id+2,some (.own e []))])))) (gf E τ a v H K)
  |_=>gf E τ a v H K
 |_,_=>gf E τ a v H K
def xb(H:Nat→Option aQ)(id:Nat)(τ:Ty)(x:τ.den)(q:List Step)(e:Ty)(K:fk α):Option α:=
 me H id (.obj τ x) (me H (id+1) (.own e []) (K (.fC id []) [id,id+1] [(id,some (.dO τ x q (id+1))),(id+1,some (.own e []))]))
def QP(E:Env)(ps:List (Nat×aY))(τ:Ty)(x:τ.den):aY:=match lkT E τ with
 |some ([.gA n],_)=>cond (ps.all fun p=> !(Nat.beq p.1 n)) (.Cn τ x n) (.val τ x)
 |_=> .val τ x
def partsOf(σρ:Operand→aY)(ps:Array (Nat×Operand)):List (Nat×aY):=ps.toList.map fun p=>(p.1,σρ p.2)
noncomputable def oq(E:Env)(o:Oper)(ρ:Operand→aY)(H:Nat→Option aQ)(K:fk α):Option α:=
 let id:=16*o.dst.getD 0
 match o.op with
 | .move x| .assign x=>K (ρ x) [] []
 | .pick c a b=>match ρ c with
  | .val .bool t=>cond t (K (ρ a) [] []) (K (ρ b) [] [])
  |_=>none
 | .alloc t=>match E.ty t with
  |some τ=>match Co E τ id with
   |some (q,e)=>xb H id τ τ.zero q e K
   |none=>me H id (.obj τ τ.zero) (K (.fC id []) [id] [(id,some (.obj τ τ.zero))])
  |none=>none
 | .box t x=>match E.ty t with
  |some τ=>
   let tu:=iC true (ρ x) H τ fun y rd ups=>me H id (.obj τ y) (K (.fC id []) (id::rd) (ups++[(id,some (.obj τ y))]))
   match Co E τ id,ρ x with
   |some ([.gA m],e),.Cn υ y n=>cond (Nat.beq m n) (b7 υ τ y fun y=>xb H id τ y [.gA m] e K) tu
   |_,_=>tu
  |none=>none
 | .build t ps=>match E.ty t with
  |some (.arr n e)=>qz e H n (partsOf ρ ps) (List.replicate n e.zero) [] [] fun l rd ups=>K (.val (.arr n e) l) rd ups
  |some τ=>cond τ.isAgg (o5 τ H (partsOf ρ ps) τ.zero [] [] fun x rd ups=>K (QP E (partsOf ρ ps) τ x) rd ups) none
  |none=>none
 | .buildSlice t n ps=>match E.ty t with
  |some (.slice e)=>cond (Nat.ble (n*(e.size+1)) 16777216) (me H id (.own e []) (qz e H n (partsOf ρ ps) (List.replicate n e.zero) [] [] fun l rd ups=>K (.ref id) (id::rd) (ups++[(id,some (.own e l))]))) none
  |_=>none
 | .load t a=>match E.ty t with
  |some τ=>p5 τ (ρ a) H K
  |none=>none
 | .store t a v=>match E.ty t with
  |some τ=>n5 E τ (ρ a) (ρ v) H K
  |none=>none
 | .nilCheck x=>match ρ x with
  | .fC id p=>K (.fC id p) [] []
  | .mc τ x=>K (.mc τ x) [] []
  |_=>none
 | .binOp op t x y _=>D3 (ρ x) fun τ x=>D3 (ρ y) fun υ y=>yw (E.ty t) op τ x υ y fun v=>K v [] []
 | .unOp op _ x=>KL op (ρ x) fun v=>K v [] []
 | .convert src dst x=>match E.ty src,E.ty dst with
  |some _,some (.int k)=>qx (ρ x) fun _ n=>K (.val (.int k) (W k n)) [] []
  |_,_=>none
 | .makeFunc (.func f) first caps=>cond first.isEmpty (qA H (caps.toList.map ρ) fun cs rd ups=>K (.D1 f cs) rd ups) none
 | .makeSlice t l c=>match E.ty t with
  |some (.slice e)=>qx (ρ l) fun _ l=>qx (ρ c) fun _ c=>cond (dX l c)
    (me H id (.own e []) (K (.ref id) [id] [(id,some (.own e (List.replicate l.toNat e.zero)))])) none
  |_=>none
 | .slice t x lo hi mx=>match E.ty t with
  |some τ=>mg τ (lo.isNone&&iw hi&&iw mx) (ρ x) (lo.map ρ) (hi.map ρ) (mx.map ρ) H K
  |none=>none
 | .fieldAddr t x n=>match E.ty t with
  |some τ=>match ρ x with
   | .fC id p=>jl id p H fun υ=>jk υ τ (sk τ τ.zero n fun υ' _=>cond (Nat.beq υ'.size 0) none (K (.fC id (p++[.gA n])) [id] []))
   | .mc υ x=>jk υ τ (sk υ x n fun υ y=>cond (Nat.beq υ.size 0) none (K (.mc υ y) [] []))
   |_=>none
  |none=>none
 | .field t x n=>match E.ty t with
  |some τ=>match ρ x with
   | .val υ x=>jk υ τ (sk υ x n fun υ y=>K (.val υ y) [] [])
   |_=>none
  |none=>none
 | .indexAddr t x i=>match E.ty t with
  |some τ=>dY τ (ρ x) (ρ i) H K
  |none=>none
 | .index t x i=>match E.ty t with
  |some τ=>qB τ (ρ x) (ρ i) fun v=>K v [] []
  |none=>none
 | .extract t i=>match ρ t with
  | .tup vs=>match vs[i]? with
   |some v=>K v [] []
   |none=>none
  |_=>none
 | .call c=>match c.callee with
  | .builtin .len=>match c.args.toList,(c.argTypes.toList.head?).bind E.ty with
   |[x],some τ=>D4 τ (ρ x) H K
   |_,_=>none
  | .builtin .append=>match c.args.toList,c.argTypes.toList with
   |[x,y],[t,t']=>match E.ty t with
    |some (.slice e)=>cond (Nat.beq t t') (me H id (.own e []) (D5 id e (ρ x) (ρ y) H K)) none
    |_=>none
   |_,_=>none
  | .builtin .max=>match c.args.toList with
   |x::r=>Qn true (ρ x) (r.map ρ) fun v=>K v [] []
   |_=>none
  | .builtin .min=>match c.args.toList with
   |x::r=>Qn false (ρ x) (r.map ρ) fun v=>K v [] []
   |_=>none
  | .value g=>match ρ g with
   | .D1 f caps=>wj E f (c.args.toList.map ρ++caps) id H K
   |_=>none
  |_=>none
 |_=>none
noncomputable def oy(E:Env)(ops:List Oper)(o:Oper)(σ:St)(K:St→List Nat→List Nat→Option α):Option α:=
 let run (σ:St):Option α:=oq E o σ.ρ σ.H fun v rd ups=>K ((σ.qw ups).qg o.dst v) rd (ups.map (·.1))
 cond (D2 E.nt E.io o.dst) (match o.guard with
 |none=>run σ
 |some (j,want)=>match(ops[j]?).bind (·.dst)with
  |none=>none
  |some t=>match σ.T t with
   | .val .bool b=>match want with
    |true=>cond b (run (σ.put t (.val .bool true))) (K ((σ.put t (.val .bool false)).qg o.dst .M4) [] [])
    |false=>cond b (K ((σ.put t (.val .bool true)).qg o.dst .M4) [] []) (run (σ.put t (.val .bool false)))
   | .M4=>K (σ.qg o.dst .M4) [] []
   |_=>none) none
abbrev Log:=List (Nat×List Nat×List Nat)
noncomputable def KM(E:Env)(ops:List Oper):List Oper→Nat→St→Log→(St→Log→Option α)→Option α
 |[],_,σ,lg,K=>K σ lg
 |o::r,i,σ,lg,K=>oy E ops o σ fun σ' rd wr=>KM E ops r (i+1) σ' ((i,rd,wr)::lg) K
def n6:List Oper→List Nat→List Nat
 |[],acc=>acc
 |o::r,acc=>n6 r (acc++[o.after.toList.foldl (fun s e=>cond (Region.binds .any e) (s|||2^e.on|||acc.getD e.on 0) s) 0])
def names(ops:List Oper)(o:Oper):List Nat:=
 (o.op.operands.toList.filterMap fun| .tmp t=>some t|_=>none)++
 (match o.guard with
  |some (g,_)=>((ops[g]?).bind (·.dst)).toList
  |none=>[])
def meets(a b:List Nat):Bool:=a.any fun x=>b.any fun y=>Nat.beq x y
def M5(ops:List Oper):Bool:=
 let b:=n6 ops []
 (ops.zipIdx.all fun(o,j)=>o.after.toList.all fun e=> !(Region.binds .any e)||Nat.blt e.on j)&&
 ops.zipIdx.all fun(o,j)=>ops.zipIdx.all fun(p,i)=>Nat.ble j i||(b.getD j 0).testBit i||
  !(meets p.dst.toList (o.dst.toList++names ops o)||meets o.dst.toList (names ops p))
def Xr(ops:List Oper)(lg:Log):Bool:=
 let b:=n6 ops []
 lg.all fun x=>lg.all fun y=>Nat.ble x.1 y.1||(b.getD x.1 0).testBit y.1||
  !(meets y.2.2 (x.2.1++x.2.2)||meets y.2.1 x.2.2)
noncomputable def xO(E:Env)(ops:Array Oper)(draw:Bool)(σ:St)(K:St→Option α):Option α:=
 KM E ops.toList ops.toList 0 σ [] fun σ' lg=>cond (!draw||(M5 ops.toList&&Xr ops.toList lg)) (K σ') none
def eJ:List (Nat×CM)→St→St→(St→Option α)→Option α
 |[],_,acc,K=>K acc
 |(s,.v τ)::r,σ,acc,K=>iC true (σ.T s) σ.H τ fun x _ ups=>eJ r (σ.qw ups) (acc.put s (.val τ x)) K
 |(s,.own e)::r,σ,acc,K=>match σ.T s with
  | .emp=>eJ r σ ((acc.put s (.ref (16*s+14))).gZ (16*s+14) (some (.own e []))) K
  | .ref id=>match σ.H id with
   |some (.own e' l)=>b7 (.slice e') (.slice e) l fun x=>eJ r (σ.gZ id (some .gone)) ((acc.put s (.ref (16*s+14))).gZ (16*s+14) (some (.own e x))) K
   |_=>none
  |_=>none
 |(s,.obj τ)::r,σ,acc,K=>match σ.T s with
  | .fC id []=>match σ.H id with
   |some (.obj υ x)=>b7 υ τ x fun y=>eJ r (σ.gZ id (some .gone)) ((acc.put s (.fC (16*s+14) [])).gZ (16*s+14) (some (.obj τ y))) K
   |some (.dO υ x q j)=>xa j q υ x σ.H fun z ups=>b7 υ τ z fun y=>eJ r ((σ.qw ups).gZ id (some .gone)) ((acc.put s (.fC (16*s+14) [])).gZ (16*s+14) (some (.obj τ y))) K
   |_=>none
  |_=>none
 |(s,.dO τ q e)::r,σ,acc,K=>match σ.T s with
  | .fC id []=>match σ.H id with
   |some (.dO υ x q' j)=>cond (D0 q q') (match σ.H j with
    |some (.own e' l)=>b7 υ τ x fun y=>b7 (.slice e') (.slice e) l fun l=>eJ r ((σ.gZ j (some .gone)).gZ id (some .gone))
     (((acc.put s (.fC (16*s+14) [])).gZ (16*s+13) (some (.own e l))).gZ (16*s+14) (some (.dO τ y q (16*s+13)))) K
    |_=>none) none
   |_=>none
  |_=>none
 |(s,.same s')::r,σ,acc,K=>match σ.T s,σ.T s',acc.T s' with
  | .ref i,.ref j,.ref j'=>cond (Nat.beq i j) (eJ r σ (acc.put s (.ref j')) K) none
  |_,_,_=>none
 |(s,.io τ)::r,σ,acc,K=>match σ.T s with
  | .fC id []=>cond (Nat.beq id (16*s+15)) (match σ.H id with
   |some (.obj υ x)=>b7 υ τ x fun y=>eJ r (σ.gZ id (some .gone)) ((acc.put s (.fC (16*s+15) [])).gZ (16*s+15) (some (.obj τ y))) K
   |_=>none) none
  |_=>none
 |(s,.fn f τ)::r,σ,acc,K=>match σ.T s with
  | .D1 f' c=>cond (Nat.beq f f') (mf σ.H τ c fun x _ ups=>match ups with
   |[]=>eJ r σ (acc.put s (.D1 f (lq τ x))) K
   |_=>none) none
  |_=>none
def gg:List (Nat×CM)→Bool
 |[]=>true
 |q::r=>r.all (fun p=> !(Nat.beq p.1 q.1))&&gg r
def qC(L:Option (List (Nat×CM)))(σ:St)(K:St→Option α):Option α:=
 match L with
 |none=>K σ
 |some L=>eJ L σ ⟨fun _=> .any,fun _=>none⟩ K
def wm(L:Option (List (Nat×CM)))(step:St→(St→Option α)→Option α):Nat→St→Option α
 |0,_=>none
 |n+1,σ=>step σ fun σ'=>qC L σ' (wm L step n)
def bG:Code→Option Nat
 | .region id _ _=>some id
 | .seq a b=>match bG a with
  |some i=>some i
  |none=>bG b
 | .block _ c| .loop c| .scope c=>bG c
 |_=>none
def Bi(E:Env)(c:Operand)(σ:St)(A B:St→Option α):Option α:=
 match σ.ρ c with
 | .val .bool b=>match c with
  | .tmp t=>cond b (A (σ.put t (.val .bool true))) (B (σ.put t (.val .bool false)))
  |_=>cond b (A σ) (B σ)
 |_=>none
noncomputable def xP(E:Env)(c:Code):St→(St→Option α)→(Nat→St→Option α)→(St→Option α)→Option α:=
 Code.rec (motive:=fun _=>St→(St→Option α)→(Nat→St→Option α)→(St→Option α)→Option α)
  (fun σ k _ _=>k σ)
  (fun _ ops draw σ k _ _=>xO E ops draw σ k)
  (fun _ b A B σ k kx kr=>A σ (fun σ'=>qC ((bG b).bind E.sl) σ' fun qj=>B qj k kx kr) kx kr)
  (fun c _ _ A B σ k kx kr=>Bi E c σ (fun σ'=>A σ' k kx kr) (fun σ'=>B σ' k kx kr))
  (fun id _ A σ k kx kr=>A σ k (fun i σ'=>cond (Nat.beq i id) (k σ') (kx i σ')) kr)
  (fun b A σ _ kx kr=>qC ((bG b).bind E.qy) σ (wm ((bG b).bind E.qy) (fun σ' kn=>A σ' kn kx kr) E.N))
  (fun _ _ _ _ _ _ _ _ _ _=>none)
  (fun id σ _ kx _=>kx id σ)
  (fun _ A σ k kx kr=>A σ k kx kr)
  (fun _ σ k _ _=>k σ)
  (fun _ _ _ _ _=>none)
  (fun σ _ _ kr=>kr σ)
  (fun _ _ _ _ _=>none)
  c
noncomputable def qk(E:Env):List Nat→Code→List (St→Option α)→St→(St→Option α)→(Nat→St→Option α)→(St→Option α)→Option α
 |[],c,_,σ,k,kx,kr=>xP E c σ k kx kr
 |n::p,c,ks,σ,k,kx,kr=>match c with
  | .seq a b=>match n with
   |0=>qk E p a ks σ (fun σ'=>qC ((bG b).bind E.sl) σ' fun qj=>xP E b qj k kx kr) kx kr
   |_=>qk E p b ks σ k kx kr
  | .cond _ a b=>match n with
   |0=>qk E p a ks σ k kx kr
   |_=>qk E p b ks σ k kx kr
  | .block id c=>qk E p c ks σ k (fun i σ'=>cond (Nat.beq i id) (k σ') (kx i σ')) kr
  | .loop b=>match ks with
   |κ::ks=>qk E p b ks σ κ kx kr
   |[]=>none
  | .scope c=>qk E p c ks σ k kx kr
  |_=>none
def HS(m:AM)(x:m.den)(i:Nat)(σ:St):St:=
 match m,x with
 | .v τ,x=>σ.put i (.val τ x)
 | .own e,x=>(σ.put i (.ref (16*i+15))).gZ (16*i+15) (some (.own e x))
 | .io τ,x=>(σ.put i (.fC (16*i+15) [])).gZ (16*i+15) (some (.obj τ x))
 | .fn f τ,x=>σ.put i (.D1 f (lq τ x))
 | .ptr _,_=>σ
 | .fC τ,x=>σ.put i (.mc τ x)
def entry:(ms:List AM)→HP ms→Nat→St→St
 |[],_,_,σ=>σ
 |[m],x,i,σ=>HS m x i σ
 |m::n::ms,x,i,σ=>entry (n::ms) x.2 (i+1) (HS m x.1 i σ)
def Bj(E:Env)(m:AM)(r:ResultVar ⊕ Nat)(σ:St)(K:m.den→St→Option α):Option α:=
 match m,r,K with
 | .v τ,.inl (.tmp t),K=>iC true (σ.T t) σ.H τ fun x _ ups=>K x (σ.qw ups)
 | .v τ,.inl (.cell a t),K=>match E.ty t with
  |some τ'=>jk τ' τ (gU (σ.T a) σ.H fun υ y _=>b7 υ τ y fun x=>K x σ)
  |none=>none
 | .own e,.inl (.tmp t),K=>match σ.T t with
  | .emp=>K [] σ
  | .ref id=>match σ.H id with
   |some (.own e' l)=>b7 (.slice e') (.slice e) l fun x=>K x (σ.gZ id (some .gone))
   |_=>none
  |_=>none
 | .io τ,.inr i,K=>match σ.T i with
  | .fC id []=>match σ.H id with
   |some (.obj υ x)=>b7 υ τ x fun y=>K y (σ.gZ id (some .gone))
   |_=>none
  |_=>none
 | .ptr τ,.inl (.tmp t),K=>match σ.T t with
  | .fC id []=>match σ.H id with
   |some (.obj υ x)=>b7 υ τ x fun y=>K y (σ.gZ id (some .gone))
   |_=>none
  |_=>none
 |_,_,_=>none
def Cq(E:Env):(ms:List AM)→List (ResultVar ⊕ Nat)→St→(HP ms→Option α)→Option α
 |[],[],_,K=>K ()
 |[m],[r],σ,K=>Bj E m r σ fun x _=>K x
 |m::n::ms,r::rs,σ,K=>Bj E m r σ fun x σ'=>Cq E (n::ms) rs σ' fun xs=>K (x,xs)
 |_,_,_,_=>none
def vj:List AM→Nat→List (ResultVar ⊕ Nat)
 |[],_=>[]
 | .io _::ms,i=> .inr i::vj ms (i+1)
 |_::ms,i=>vj ms (i+1)
noncomputable def Ho(E:Env)(fn:Func)(args res:List AM)(x:HP args):Option (HP res):=
 match fn.body with
 |none=>none
 |some c=>
  let kr:St→Option (HP res):=fun σ=>Cq E res (fn.results.toList.map .inl++vj args 0) σ some
  xP E c (entry args x 0 ⟨fun _=> .any,fun _=>none⟩) kr (fun _ _=>none) kr
end
end VM
end
section
namespace VM
open Go
noncomputable def p6(N:Nat)(x y c:Int):Option (Int×Int):=if 0≤x∧0≤y∧0≤c∧c≤1 then some ((x+y+c)%18446744073709551616,(x+y+c)/18446744073709551616)else none
noncomputable def p7(N:Nat)(x y c:Int):Option (Int×Int):=if 0≤x∧x<18446744073709551616∧0≤y∧y<18446744073709551616∧0≤c∧c≤1 then some ((x+18446744073709551616-y-c)%18446744073709551616,if x<y+c then 1 else 0)else none
noncomputable def gB{α:Type}(N:Nat)(l:List α)(i:Int)(v:List α):Option (List α):=if 0≤i∧i≤l.length∧v.length=1∧l.length+1<si then some (l.take i.toNat++(v++l.drop i.toNat))else none
noncomputable def QQ{α:Type}(N:Nat)(l:List α)(n:Int):Option (List α):=match l with
 |[x]=>if 0<n∧n<1048576 then some (List.replicate n.toNat x)else none
 |_=>none
noncomputable def p6.S(N:Nat):g9:={args:=[.v (.int .u64),.v (.int .u64),.v (.int .u64)],res:=[.v (.int .u64),.v (.int .u64)],quiet:=true,run:=fun x=>p6 N x.1 x.2.1 x.2.2}
noncomputable def p7.S(N:Nat):g9:={args:=[.v (.int .u64),.v (.int .u64),.v (.int .u64)],res:=[.v (.int .u64),.v (.int .u64)],quiet:=true,run:=fun x=>p7 N x.1 x.2.1 x.2.2}
noncomputable def gC(e:Ty)(N:Nat):g9:={args:=[.own e,.v (.int .i64),.own e],res:=[.own e],quiet:=false,run:=fun x=>gB N x.1 x.2.1 x.2.2}
noncomputable def ail(e:Ty)(N:Nat):g9:={args:=[.v (.slice e),.v (.int .i64)],res:=[.own e],quiet:=false,run:=fun x=>QQ N x.1 x.2}
noncomputable def j1{α:Type}(N:Nat)(l:List α):Option (List α):=if l.length<si then some l else none
noncomputable def qD(e:Ty)(N:Nat):g9:={args:=[.v (.slice e)],res:=[.own e],quiet:=false,run:=fun x=>j1 N x}
end VM
namespace VM
abbrev ch:Int×Int×Unit:=((0:Int),((0:Int),()))
abbrev bN:List (Int×Int×Unit):=[]
abbrev aW:Int×Int×Int×Unit:=((0:Int),((0:Int),((0:Int),())))
abbrev br:List (Int×Int×Int×Unit):=[]
abbrev aO:Int×Int×Int×Int×Unit:=((0:Int),((0:Int),((0:Int),((0:Int),()))))
abbrev cL:List (Int×Int×Int×Int×Unit):=[]
abbrev j2:Int×Int×Int×Int×Int×Unit:=((0:Int),((0:Int),((0:Int),((0:Int),((0:Int),())))))
abbrev xQ:List (Int×Int×Int×Int×Int×Unit):=[]
abbrev eK:Int×Int×Int×Int×Int×Int×Unit:=((0:Int),((0:Int),((0:Int),((0:Int),((0:Int),((0:Int),()))))))
abbrev de:List (Int×Int×Int×Int×Int×Int×Unit):=[]
abbrev Xs:Int×Int×Int×Int×Int×Int×Int×Unit:=((0:Int),((0:Int),((0:Int),((0:Int),((0:Int),((0:Int),((0:Int),())))))))
abbrev ee7:List (Int×Int×Int×Int×Int×Int×Int×Unit):=[]
abbrev zz8:Int×Int×Int×Int×Int×Int×Int×Int×Unit:=((0:Int),((0:Int),((0:Int),((0:Int),((0:Int),((0:Int),((0:Int),((0:Int),()))))))))
abbrev ee8:List (Int×Int×Int×Int×Int×Int×Int×Int×Unit):=[]
abbrev c5:List Int:=[]
abbrev kX:List Int×Unit:=(c5,())
end VM
end
section
namespace VM
open Go
def At(w:World)(b off:Nat)(cs:List Value):Prop:= ∀j v,cs[j]? =some v→w.cell? ⟨b,off+j,none⟩=some v
def Rd(w:World)(M:Nat→Prop):(τ:Ty)→List Value→τ.den→Prop
 | .int k,cs,x=>cs=[.int k x]
 | .bool,cs,x=>cs=[.bool x]
 | .str,cs,x=>cs=[.string x]
 | .slice e,cs,x=> ∃a cap,cs=[.slice a (List.length x) cap]∧List.length x≤cap∧
  ∀i (h:i<List.length x),∃b off,a=some ⟨b,off,none⟩∧b<w.heap.size∧ ¬M b∧ ∃cs',At w b (off+i*e.size) cs'∧Rd w M e cs' (List.get x ⟨i,h⟩)
 | .unit,cs,_=>cs=[]
 | .pair a b,cs,x=> ∃c1 c2,cs=c1++c2∧Rd w M a c1 x.1∧Rd w M b c2 x.2
 | .arr n e,cs,x=>List.length x=n∧ ∃KN:List (List Value),KN.length=n∧cs=KN.flatten∧
  ∀i (h:i<List.length x) (h':i<KN.length),Rd w M e KN[i] (List.get x ⟨i,h⟩)
theorem kD{α:Type}(n:Nat): ∀(l:List (List α)),(∀i (h:i<l.length),l[i].length=n)→l.flatten.length=l.length*n
 |[],_=>by simp
 |a::l,h=>by
  have h0:=h 0 (by simp)
  have ih:=kD n l (fun i hi=>h (i+1) (by simp;omega))
  simp only[awS]at h0
  simp only[awT,aug,auj,ih,h0,au9]
  omega
theorem Rd.length{w:World}{M:Nat→Prop}: ∀{τ:Ty} {cs:List Value} {x:τ.den},Rd w M τ cs x→cs.length=τ.size
 | .int _,_,_,h=>by simp only[Rd]at h;subst h;rfl
 | .bool,_,_,h=>by simp only[Rd]at h;subst h;rfl
 | .str,_,_,h=>by simp only[Rd]at h;subst h;rfl
 | .slice _,_,_,h=>by simp only[Rd]at h;obtain⟨a,cap,rfl,_⟩:=h;rfl
 | .unit,_,_,h=>by simp only[Rd]at h;subst h;rfl
 | .pair a b,_,_,h=>by
  simp only[Rd]at h
  obtain⟨c1,c2,rfl,h1,h2⟩:=h
  rw[aug,h1.length,h2.length];rfl
 | .arr n e,_,x,h=>by
  simp only[Rd]at h
  obtain⟨hn,KN,hc,rfl,hr⟩:=h
  rw[kD e.size KN (fun i hi=>(hr i (by omega) hi).length),hc];rfl
structure df(w:World)(M:Nat→Prop)(w':World)(M':Nat→Prop):Prop where
 size:w.heap.size≤w'.heap.size
 block: ∀b,b<w.heap.size→ ¬M b→w'.heap[b]? =w.heap[b]?
 less: ∀b,b<w.heap.size→M' b→M b
theorem Yz{w:World}{b o:Nat}{v:Value}(h:w.cell? ⟨b,o,none⟩=some v):b<w.heap.size:=by
 simp only[World.cell?]at h
 rcases awC b w.heap.size with hb|hb
 ·exact hb
 ·simp[axy hb]at h
theorem At.bt{w w':World}{b off:Nat}{cs:List Value}(h:At w b off cs)(hb:w'.heap[b]? =w.heap[b]?):At w' b off cs:=by
 intro j v hj
 have:=h j v hj
 rw[World.cell?_of_block (w:=w) hb]
 exact this
theorem At.append{w:World}{b off:Nat}{c1 c2:List Value}:At w b off (c1++c2)↔At w b off c1∧At w b (off+c1.length) c2:=by
 constructor
 ·intro h
  refine⟨fun j v hj=>h j v (by rw[avm];exact hj;exact(avs.1 hj).1),fun j v hj=> ?_⟩
  have:=h (c1.length+j) v (by rw[au5 (by omega)];simpa using hj)
  rw[awe];exact this
 ·rintro⟨h1,h2⟩ j v hj
  by_cases dz:j<c1.length
  ·rw[avm dz]at hj;exact h1 j v hj
  ·rw[au5 (by omega)]at hj
   have:=h2 (j-c1.length) v hj
   rwa [show off+c1.length+(j-c1.length)=off+j from by omega]at this
theorem Rd.bt{w w':World}{M M':Nat→Prop}(k:df w M w' M'): ∀{τ:Ty} {cs:List Value} {x:τ.den},Rd w M τ cs x→Rd w' M' τ cs x
 | .int _,_,_,h=>h
 | .bool,_,_,h=>h
 | .str,_,_,h=>h
 | .slice e,_,x,h=>by
  simp only[Rd]at h ⊢
  obtain⟨a,cap,rfl,hc,hr⟩:=h
  refine⟨a,cap,rfl,hc,fun i hi=> ?_⟩
  obtain⟨b,off,ha,hb,hm,cs',lC,gV⟩:=hr i hi
  exact⟨b,off,ha,avn hb k.size,fun h'=>hm (k.less b hb h'),_,lC.bt (k.block b hb hm),gV.bt k⟩
 | .unit,_,_,h=>h
 | .pair a b,_,_,h=>by
  simp only[Rd]at h ⊢
  obtain⟨c1,c2,rfl,h1,h2⟩:=h
  exact⟨c1,c2,rfl,h1.bt k,h2.bt k⟩
 | .arr n e,_,x,h=>by
  simp only[Rd]at h ⊢
  obtain⟨hn,KN,hc,rfl,hr⟩:=h
  exact⟨hn,KN,hc,rfl,fun i hi ji=>(hr i hi ji).bt k⟩
theorem df.refl(w:World)(M:Nat→Prop):df w M w M:=⟨aul _,fun _ _ _=>rfl,fun _ _ h=>h⟩
theorem df.trans{w w' w'':World}{M M' Hp:Nat→Prop}(h:df w M w' M')(k:df w' M' w'' Hp):df w M w'' Hp:=
 ⟨auX h.size k.size,fun b hb hm=>(k.block b (avn hb h.size) (fun h'=>hm (h.less b hb h'))).trans (h.block b hb hm),
  fun b hb hm=>h.less b hb (k.less b (avn hb h.size) hm)⟩
def V(w:World)(M:Nat→Prop)(τ:Ty)(v:Value)(x:τ.den):Prop:=
 if τ.isAgg then ∃cs,v= .agg cs∧Rd w M τ cs.toList x else Rd w M τ [v] x
theorem V.bt{w w':World}{M M':Nat→Prop}(k:df w M w' M'){τ:Ty}{v:Value}{x:τ.den}(h:V w M τ v x):V w' M' τ v x:=by
 unfold V at*
 split
 ·rename_i ha;rw[auh ha]at h;obtain⟨cs,rfl,h⟩:=h;exact⟨cs,rfl,h.bt k⟩
 ·rename_i ha;rw[aui ha]at h;exact h.bt k
theorem Rd.scalar{w:World}{M:Nat→Prop}{τ:Ty}{cs:List Value}{x:τ.den}(ha:τ.isAgg=false)(h:Rd w M τ cs x): ∃v,cs=[v]∧v.cells= #[v]:=by
 cases τ<;>simp only[Ty.isAgg,Bool.true_eq_false]at ha<;>simp only[Rd]at h
 ·exact⟨_,h,rfl⟩
 ·exact⟨_,h,rfl⟩
 ·exact⟨_,h,rfl⟩
 ·obtain⟨a,cap,rfl,_⟩:=h;exact⟨_,rfl,rfl⟩
theorem V.cells{w:World}{M:Nat→Prop}{τ:Ty}{v:Value}{x:τ.den}(h:V w M τ v x):Rd w M τ v.cells.toList x:=by
 unfold V at h
 by_cases ha:τ.isAgg=true
 ·rw[auh ha]at h;obtain⟨cs,rfl,h⟩:=h;exact h
 ·rw[aui ha]at h
  obtain⟨v',hv,hc⟩:=h.scalar (by simpa using ha)
  simp only[auZ,avB]at hv
  subst hv
  rw[hc];exact h
def bF(τ:Ty)(cs:List Value):Value:=if τ.isAgg then .agg cs.toArray else cs.headD (.tuple #[])
theorem V.bF{w:World}{M:Nat→Prop}{τ:Ty}{cs:List Value}{x:τ.den}(h:Rd w M τ cs x):V w M τ (bF τ cs) x:=by
 unfold V VM.bF
 by_cases ha:τ.isAgg=true
 ·rw[auh ha,auh ha];exact⟨_,rfl,by simpa using h⟩
 ·rw[aui ha,aui ha]
  obtain⟨v',rfl,_⟩:=h.scalar (by simpa using ha)
  exact h
theorem AF{w:World}{M:Nat→Prop}{τ:Ty}{cs:List Value}{x:τ.den}(h:Rd w M τ cs x):(bF τ cs).cells.toList=cs:=by
 unfold VM.bF
 by_cases ha:τ.isAgg=true
 ·rw[auh ha];simp[Value.cells]
 ·rw[aui ha]
  obtain⟨v',rfl,hc⟩:=h.scalar (by simpa using ha)
  simp[hc]
theorem Rd.ku{w:World}{M:Nat→Prop}: ∀{τ:Ty} {cs:List Value} {x:τ.den},Rd w M τ cs x→ ∀v∈cs,v.oneCell'=true
 | .int _,_,_,h=>by simp only[Rd]at h;subst h;simp[Value.oneCell']
 | .bool,_,_,h=>by simp only[Rd]at h;subst h;simp[Value.oneCell']
 | .str,_,_,h=>by simp only[Rd]at h;subst h;simp[Value.oneCell']
 | .slice _,_,_,h=>by simp only[Rd]at h;obtain⟨a,cap,rfl,_⟩:=h;simp[Value.oneCell']
 | .unit,_,_,h=>by simp only[Rd]at h;subst h;simp
 | .pair a b,_,_,h=>by
  simp only[Rd]at h
  obtain⟨c1,c2,rfl,h1,h2⟩:=h
  intro v hv
  rcases aut.1 hv with hv|hv
  ·exact h1.ku v hv
  ·exact h2.ku v hv
 | .arr n e,_,x,h=>by
  simp only[Rd]at h
  obtain⟨hn,KN,hc,rfl,hr⟩:=h
  intro v hv
  obtain⟨l,hl,hvl⟩:=List.mem_flatten.1 hv
  obtain⟨i,hi,rfl⟩:=avE.1 hl
  exact(hr i (by omega) hi).ku v hvl
def Ty.ca:Ty→List Value
 | .int k=>[.int k 0]
 | .bool=>[.bool false]
 | .str=>[.string ByteArray.empty]
 | .slice _=>[.slice none 0 0]
 | .unit=>[]
 | .pair a b=>a.ca++b.ca
 | .arr n e=>(List.replicate n e.ca).flatten
theorem Rd.zero(w:World)(M:Nat→Prop): ∀(τ:Ty),Rd w M τ τ.ca τ.zero
 | .int _| .bool| .str| .unit=>by simp[Rd,Ty.ca,Ty.zero]
 | .slice _=>by
  simp only[Rd,Ty.ca,Ty.zero]
  exact⟨none,0,rfl,aul _,fun i h=>absurd h (by simp)⟩
 | .pair a b=>by
  simp only[Rd,Ty.ca,Ty.zero]
  exact⟨_,_,rfl,Rd.zero w M a,Rd.zero w M b⟩
 | .arr n e=>by
  simp only[Rd,Ty.ca,Ty.zero]
  refine⟨by simp,_,by simp,rfl,fun i h h'=> ?_⟩
  simp only[axz,axa]
  exact Rd.zero w M e
end VM
end
section
namespace VM
open Go
def Cr(P:Program)(τ:Ty)(t:TypeId):Prop:=
 ∃i,P.info? t=some i∧i.size=τ.size∧i.zero=some (bF τ τ.ca)∧i.bytes≤2048
def dF(P:Program):Ty→TypeId ⊕ (Array Field×Nat×Nat)→Prop
 | .int k,.inl t=>Cr P (.int k) t∧P.underlying t=some (.int k)
 | .bool,.inl t=>Cr P .bool t∧P.underlying t=some .bool
 | .str,.inl t=>Cr P .str t∧P.underlying t=some .string
 | .slice e,.inl t=>Cr P (.slice e) t∧ ∃e',P.underlying t=some (.slice e')∧dF P e (.inl e')
 | .arr n e,.inl t=>Cr P (.arr n e) t∧ ∃e',P.underlying t=some (.array n e')∧dF P e (.inl e')
 | .unit,.inl t=>Cr P .unit t∧ ∃fs,P.underlying t=some (.struct fs)∧fs.size=0
 | .unit,.inr (fs,n,_)=>fs.size=n
 | .pair a b,.inl t=>Cr P (.pair a b) t∧ ∃fs f,P.underlying t=some (.struct fs)∧fs[0]? =some f∧f.offset=0∧dF P a (.inl f.type)∧dF P b (.inr (fs,1,a.size))
 | .pair a b,.inr (fs,n,off)=> ∃f,fs[n]? =some f∧f.offset=off∧dF P a (.inl f.type)∧dF P b (.inr (fs,n+1,off+a.size))
 |_,.inr _=>False
def gD(P:Program)(τ:Ty)(t:TypeId):Prop:=dF P τ (.inl t)
theorem gD.base{P:Program}{τ:Ty}{t:TypeId}(h:gD P τ t):Cr P τ t:=by
 unfold gD at h;cases τ<;>simp only[dF]at h<;>exact h.1
theorem gD.int{P:Program}{k:IntKind}{t:TypeId}(h:gD P (.int k) t):P.underlying t=some (.int k):=by simp only[gD,dF]at h;exact h.2
theorem gD.bool{P:Program}{t:TypeId}(h:gD P .bool t):P.underlying t=some .bool:=by simp only[gD,dF]at h;exact h.2
theorem gD.str{P:Program}{t:TypeId}(h:gD P .str t):P.underlying t=some .string:=by simp only[gD,dF]at h;exact h.2
theorem gD.slice{P:Program}{e:Ty}{t:TypeId}(h:gD P (.slice e) t): ∃e',P.underlying t=some (.slice e')∧gD P e e':=by simp only[gD,dF]at h;exact h.2
theorem gD.arr{P:Program}{n:Nat}{e:Ty}{t:TypeId}(h:gD P (.arr n e) t): ∃e',P.underlying t=some (.array n e')∧gD P e e':=by simp only[gD,dF]at h;exact h.2
theorem gD.isSome{P:Program}{τ:Ty}{t:TypeId}(h:gD P τ t):(P.underlying t).isSome=true:=by
 unfold gD at h
 cases τ<;>simp only[dF]at h
 ·simp[h.2]
 ·simp[h.2]
 ·simp[h.2]
 ·obtain⟨_,e',h',_⟩:=h;simp[h']
 ·obtain⟨_,e',h',_⟩:=h;simp[h']
 ·obtain⟨_,e',f,h',_⟩:=h;simp[h']
 ·obtain⟨_,e',h',_⟩:=h;simp[h']
inductive xc:(τ:Ty)→τ.den→Nat→(υ:Ty)→υ.den→Nat→Prop where
 |here {a b:Ty} (x:(Ty.pair a b).den):xc (.pair a b) x 0 a x.1 0
 |there {a b:Ty} (x:(Ty.pair a b).den) {n:Nat} {υ:Ty} {y:υ.den} {o:Nat} (h:xc b x.2 n υ y o):xc (.pair a b) x (n+1) υ y (a.size+o)
theorem oz{α:Type}{r:α}: ∀{τ:Ty} {x:τ.den} {n:Nat} {k:(υ:Ty)→υ.den→Option α},sk τ x n k=some r→ ∃υ y o,xc τ x n υ y o∧k υ y=some r
 | .pair a b,x,0,k,h=>⟨a,x.1,0,.here x,h⟩
 | .pair a b,x,n+1,k,h=>by
  obtain⟨υ,y,o,hf,hk⟩:=oz (τ:=b) (x:=x.2) (n:=n) (k:=k) h
  exact⟨υ,y,_,.there x hf,hk⟩
 | .int _,_,_,_,h| .bool,_,_,_,h| .str,_,_,_,h| .slice _,_,_,_,h| .unit,_,_,_,h| .arr _ _,_,_,_,h=>by simp[sk]at h
theorem xc.bound{τ:Ty}{x:τ.den}{n:Nat}{υ:Ty}{y:υ.den}{o:Nat}(h:xc τ x n υ y o):o+υ.size≤τ.size:=by
 induction h with
 |here x=>simp[Ty.size]
 |there x h ih=>simp only[Ty.size];omega
theorem xc.rd{w:World}{M:Nat→Prop}{τ:Ty}{x:τ.den}{n:Nat}{υ:Ty}{y:υ.den}{o:Nat}(h:xc τ x n υ y o):
  ∀{cs:List Value},Rd w M τ cs x→Rd w M υ ((cs.drop o).take υ.size) y:=by
 induction h with
 |here x=>
  intro cs hr
  simp only[Rd]at hr
  obtain⟨c1,c2,rfl,h1,_⟩:=hr
  rw[auG,awK h1.length];exact h1
 |there x h ih=>
  intro cs hr
  simp only[Rd]at hr
  obtain⟨c1,c2,rfl,h1,h2⟩:=hr
  rw[←avr,avL h1.length]
  exact ih h2
theorem dF.gA{P:Program}{τ:Ty}{x:τ.den}{m:Nat}{υ:Ty}{y:υ.den}{o:Nat}(h:xc τ x m υ y o):
  ∀{fs:Array Field} {n off:Nat},dF P τ (.inr (fs,n,off))→ ∃f,fs[n+m]? =some f∧f.offset=off+o∧gD P υ f.type:=by
 induction h with
 |here x=>
  intro fs n off hl
  simp only[dF]at hl
  obtain⟨f,hf,ho,ha,_⟩:=hl
  exact⟨f,hf,by simpa using ho,ha⟩
 |there x h ih=>
  intro fs n off hl
  simp only[dF]at hl
  obtain⟨f,hf,ho,_,hb⟩:=hl
  obtain⟨f',xd,ho',DQ⟩:=ih hb
  exact⟨f',by rw[←xd];congr 1;omega,by omega,DQ⟩
theorem gD.gA{P:Program}{τ:Ty}{t:TypeId}{x:τ.den}{m:Nat}{υ:Ty}{y:υ.den}{o:Nat}(hl:gD P τ t)(h:xc τ x m υ y o):
  ∃fs f,P.underlying t=some (.struct fs)∧fs[m]? =some f∧f.offset=o∧gD P υ f.type:=by
 unfold gD at hl
 cases h with
 |here x=>
  simp only[dF]at hl
  obtain⟨_,fs,f,hu,hf,ho,ha,_⟩:=hl
  exact⟨fs,f,hu,hf,ho,ha⟩
 |there x h=>
  simp only[dF]at hl
  obtain⟨_,fs,f,hu,hf,ho,_,hb⟩:=hl
  obtain⟨f',xd,ho',DQ⟩:=dF.gA h hb
  exact⟨fs,f',hu,by rw[←xd];congr 1;omega,by omega,DQ⟩
inductive Cs:List Step→(τ:Ty)→τ.den→(υ:Ty)→υ.den→Nat→Prop where
 |nil {τ:Ty} (x:τ.den):Cs [] τ x τ x 0
 |gA {p:List Step} {τ υ σ:Ty} {x:τ.den} {n o:Nat} {y:υ.den} {z:σ.den} {q:Nat} (h:xc τ x n υ y o) (r:Cs p υ y σ z q):Cs (.gA n::p) τ x σ z (o+q)
 |idx {p:List Step} {n:Nat} {e σ:Ty} {x:(Ty.arr n e).den} {i:Nat} {z:σ.den} {q:Nat} (r:Cs p e (List.getD x i e.zero) σ z q):Cs (.idx i::p) (.arr n e) x σ z (i*e.size+q)
theorem gh{α:Type}{r:α}: ∀{p:List Step} {τ:Ty} {x:τ.den} {k:(υ:Ty)→υ.den→Option α},tz p τ x k=some r→ ∃υ y o,Cs p τ x υ y o∧k υ y=some r
 |[],τ,x,k,h=>⟨τ,x,0,.nil x,h⟩
 | .gA n::p,τ,x,k,h=>by
  obtain⟨υ,y,o,hf,h'⟩:=oz (h:sk τ x n _=some r)
  obtain⟨σ,z,q,hp,hk⟩:=gh h'
  exact⟨σ,z,_,.gA hf hp,hk⟩
 | .idx i::p,τ,x,k,h=>by
  cases τ with
  |arr n e=>
   obtain⟨σ,z,q,hp,hk⟩:=gh (p:=p) (τ:=e) (x:=List.getD x i e.zero) (k:=k) h
   exact⟨σ,z,_,.idx hp,hk⟩
  |_=>simp[tz,Yy]at h
def qm:Ty→Nat→Ty
 | .pair a b,n=>match n with|0=>a|n+1=>qm b n
 |τ,_=>τ
def nr:Ty→Nat→Nat
 | .pair a b,n=>match n with|0=>0|n+1=>a.size+nr b n
 |_,_=>0
def YA:Ty→Ty
 | .arr _ e=>e
 |τ=>τ
def AG:List Step→Ty→Ty
 |[],τ=>τ
 | .gA n::p,τ=>AG p (qm τ n)
 | .idx _::p,τ=>AG p (YA τ)
def bC:List Step→Ty→Nat
 |[],_=>0
 | .gA n::p,τ=>nr τ n+bC p (qm τ n)
 | .idx i::p,τ=>i*(YA τ).size+bC p (YA τ)
def sm:List Step→Ty→Prop
 |[],_=>True
 | .gA n::p,τ=>sm p (qm τ n)
 | .idx i::p,τ=>(∃n e,τ= .arr n e∧i<n)∧sm p (YA τ)
theorem xc.eq{τ:Ty}{x:τ.den}{n:Nat}{υ:Ty}{y:υ.den}{o:Nat}(h:xc τ x n υ y o):υ=qm τ n∧o=nr τ n:=by
 induction h with
 |here x=>exact⟨rfl,rfl⟩
 |there x h ih=>obtain⟨rfl,rfl⟩:=ih;exact⟨rfl,rfl⟩
theorem Cs.eq{p:List Step}{τ:Ty}{x:τ.den}{υ:Ty}{y:υ.den}{o:Nat}(h:Cs p τ x υ y o):υ=AG p τ∧o=bC p τ:=by
 induction h with
 |nil x=>exact⟨rfl,rfl⟩
 |gA h r ih=>
  obtain⟨h1,h2⟩:=h.eq
  obtain⟨h3,h4⟩:=ih
  subst h1 h2 h3 h4
  exact⟨rfl,rfl⟩
 |idx r ih=>
  obtain⟨h3,h4⟩:=ih
  subst h3 h4
  exact⟨rfl,rfl⟩
theorem YB(p q:List Step): ∀τ,AG (p++q) τ=AG q (AG p τ):=by
 induction p with
 |nil=>intro τ;rfl
 |cons s p ih=>intro τ;cases s<;>simp[AG,ih]
theorem nF(p q:List Step): ∀τ,bC (p++q) τ=bC p τ+bC q (AG p τ):=by
 induction p with
 |nil=>intro τ;simp[bC,AG]
 |cons s p ih=>intro τ;cases s<;>simp[bC,AG,ih,awe]
theorem nG(p q:List Step): ∀τ,sm (p++q) τ↔sm p τ∧sm q (AG p τ):=by
 induction p with
 |nil=>intro τ;simp[sm,AG]
 |cons s p ih=>intro τ;cases s<;>simp[sm,AG,ih,and_assoc]
theorem gE{α:Type}(l:List α)(i:Nat)(d:α)(h:i<l.length):l.getD i d=l[i]:=by simp[List.getD,auf h]
theorem tA{α:Type}(n:Nat): ∀(l:List (List α)) (i:Nat) (h:i<l.length),(∀j (hj:j<l.length),l[j].length=n)→(l.flatten.drop (i*n)).take n=l[i]
 |a::l,0,_,hn=>by
  have:=hn 0 (by simp)
  simp only[awS]at this
  simp[←this]
 |a::l,i+1,h,hn=>by
  have h0:=hn 0 (by simp)
  simp only[awS]at h0
  rw[awT,au9,av2,Nat.add_comm (i*n) n,←avr,avL h0]
  exact tA n l i (by simpa using h) (fun j hj=>hn (j+1) (by simp;omega))
theorem Rd.idx{w:World}{M:Nat→Prop}{n:Nat}{e:Ty}{cs:List Value}{x:(Ty.arr n e).den}(h:Rd w M (.arr n e) cs x){i:Nat}(hi:i<n):
  Rd w M e ((cs.drop (i*e.size)).take e.size) (List.getD x i e.zero):=by
 simp only[Rd]at h
 obtain⟨hn,KN,hc,rfl,hr⟩:=h
 rw[tA e.size KN i (by omega) (fun j hj=>(hr j (by omega) hj).length),gE x i e.zero (by omega)]
 exact hr i (by omega) (by omega)
theorem Cs.bound{p:List Step}{τ:Ty}{x:τ.den}{υ:Ty}{y:υ.den}{o:Nat}(h:Cs p τ x υ y o):sm p τ→o+υ.size≤τ.size:=by
 induction h with
 |nil x=>intro _;simp
 |gA h r ih=>
  intro hi
  obtain⟨h1,h2⟩:=h.eq
  subst h1
  have:=ih hi
  have:=h.bound
  omega
 | @idx p n e σ x i z q r ih=>
  intro hi
  obtain⟨⟨n',e',he,jP⟩,ji⟩:=hi
  cases he
  have:=ih ji
  have h2:(i+1)*e.size≤n*e.size:=ava _ jP
  rw[au9]at h2
  simp only[Ty.size]
  omega
theorem Cs.rd{w:World}{M:Nat→Prop}{p:List Step}{τ:Ty}{x:τ.den}{υ:Ty}{y:υ.den}{o:Nat}(h:Cs p τ x υ y o):
  sm p τ→ ∀{cs:List Value},Rd w M τ cs x→Rd w M υ ((cs.drop o).take υ.size) y:=by
 induction h with
 |nil x=>intro _ cs hr;rw[auG,auM (by rw[hr.length];exact aul _)];exact hr
 |gA h r ih=>
  intro hi cs hr
  obtain⟨h1,h2⟩:=h.eq
  subst h1
  have:=ih hi (h.rd hr)
  have hb:=Cs.bound r hi
  rw[awi,avr,awj,avd (by omega)]at this
  exact this
 | @idx p n e σ x i z q r ih=>
  intro hi cs hr
  obtain⟨⟨n',e',he,jP⟩,ji⟩:=hi
  cases he
  have:=ih ji (hr.idx jP)
  have hb:=Cs.bound r ji
  rw[awi,avr,awj,avd (by omega)]at this
  exact this
def dg{α:Type}(cs:List α)(o:Nat)(new:List α):List α:=cs.take o++new++cs.drop (o+new.length)
theorem tD{α:Type}{a b:List α}{o:Nat}{new:List α}(h:o+new.length≤a.length):dg (a++b) o new=dg a o new++b:=by
 unfold dg
 rw[avT (by omega),avU (by omega)]
 simp only[aur]
theorem rD{α:Type}{a b:List α}{o:Nat}{new:List α}:dg (a++b) (a.length+o) new=a++dg b o new:=by
 unfold dg
 rw[List.take_append,auM (by omega),awk,awe,List.drop_append,au0 (by omega),awk]
 simp
theorem dZ{α:Type}{a:List α}{o:Nat}{new:List α}(h:o+new.length≤a.length):(dg a o new).length=a.length:=by
 unfold dg;simp;omega
theorem Ct{α:Type}{a:List α}{o i n:Nat}{new:List α}(h:i+n≤o∨o+new.length≤i)(hl:o+new.length≤a.length):((dg a o new).drop i).take n=(a.drop i).take n:=by
 apply awU
 intro j
 simp only[avi,avj]
 split
 ·rename_i hj
  unfold dg
  rcases h with h|h
  ·rw[aur,avm (by simp;omega),avi,auh (by omega)]
  ·rw[au5 (by simp;omega)]
   simp only[aug,auu,avd (show o≤a.length by omega),avj]
   congr 1;omega
 ·rfl
theorem YC{α:Type}{a:List α}{o:Nat}{new:List α}(hl:o+new.length≤a.length):((dg a o new).drop o).take new.length=new:=by
 unfold dg
 rw[aur,avL (by simp;omega),awK rfl]
theorem D9{α:Type}{l:List α}{o:Nat}{u:α}(h:l[o]? =some u):dg l o [u]=l:=by
 obtain⟨dz,rfl⟩:=avs.1 h
 unfold dg
 simp
theorem xR{α:Type}{l:List α}{o:Nat}{u:α}(h:o<l.length):(dg l o [u])[o]? =some u:=by
 unfold dg
 rw[aur,au5 (by simp;omega)]
 simp[avd (Nat.le_of_lt h)]
theorem oA{τ:Ty}: ∀{n:Nat} {a:Ty},Cm τ n=some a→ ∀x:τ.den,∃y o,xc τ x n a y o:=by
 induction τ with
 |pair a b _ M6=>
  intro n c h x
  cases n with
  |zero=>cases h;exact⟨_,_,.here x⟩
  |succ n=>
   obtain⟨y,o,hf⟩:=M6 (n:=n) (a:=c) h x.2
   exact⟨y,_,.there x hf⟩
 |_=>intro n c h;simp[Cm]at h
theorem oB: ∀{p:List Step} {τ υ:Ty},ej p τ υ=true→ ∀x:τ.den,∃y o,Cs p τ x υ y o
 |[],τ,υ,h,x=>by
  have h:=auw h
  subst h
  exact⟨x,0,.nil x⟩
 | .gA n::p,τ,υ,h,x=>by
  unfold ej at h
  split at h
  ·rename_i a ha
   obtain⟨y,o,hf⟩:=oA ha x
   obtain⟨z,q,hp⟩:=oB h y
   exact⟨z,_,.gA hf hp⟩
  ·cases h
 | .idx _::_,_,_,h,_=>by simp[ej]at h
theorem gF: ∀{p:List Step} {τ υ:Ty},ej p τ υ=true→sm p τ∧AG p τ=υ
 |[],τ,υ,h=>⟨trivial,auw h⟩
 | .gA n::p,τ,υ,h=>by
  have h0:=h
  unfold ej at h
  split at h
  ·rename_i a ha
   obtain⟨y,o,hf⟩:=oA ha τ.zero
   obtain⟨h1,h2⟩:=gF h
   have:=hf.eq.1
   subst this
   exact⟨h1,h2⟩
  ·cases h
 | .idx _::_,_,_,h=>by simp[ej]at h
theorem vk: ∀{p q:List Step},D0 p q=true→p=q
 |[],[],_=>rfl
 | .gA a::p,.gA b::q,h=>by
  simp only[D0,aus]at h
  rw[auN h.1,vk h.2]
 |[],_::_,h| .gA _::_,[],h| .idx _::_,_,h| .gA _::_,.idx _::_,h=>by simp[D0]at h
theorem xc.apart{τ:Ty}{x:τ.den}{n:Nat}{υ:Ty}{y:υ.den}{o:Nat}(h:xc τ x n υ y o): ∀{x':τ.den} {n':Nat} {υ':Ty} {y':υ'.den} {o':Nat},xc τ x' n' υ' y' o'→n≠n'→o+υ.size≤o'∨o'+υ'.size≤o:=by
 induction h with
 |here x=>
  intro x' n' υ' y' o' h' fL
  cases h' with
  |here=>exact absurd rfl fL
  |there _ h'=>left;omega
 |there x h ih=>
  intro x' n' υ' y' o' h' fL
  cases h' with
  |here=>right;omega
  |there _ h'=>rcases ih h' (fun e=>fL (by rw[e]))with h1|h1<;>omega
theorem Cs.apart{p:List Step}{τ:Ty}{x:τ.den}{υ:Ty}{y:υ.den}{o:Nat}(h:Cs p τ x υ y o):sm p τ→ ∀{q:List Step} {e:Ty},ej q τ (.slice e)=true→sj p q=false→bC q τ<o∨o+υ.size≤bC q τ:=by
 induction h with
 |nil x=>intro _ q e _ h;simp[sj]at h
 | @gA p τ υ σ x n o y z q hf r ih=>
  intro hi q' e hq hp
  obtain⟨h1,h2⟩:=hf.eq
  subst h1 h2
  cases q' with
  |nil=>
   have:=auw hq
   subst this
   cases hf
  |cons s q'=>
   cases s with
   |idx i=>simp[ej]at hq
   |gA m=>
    unfold ej at hq
    split at hq
    ·rename_i a ha
     obtain⟨y',o',xd⟩:=oA ha x
     obtain⟨h3,h4⟩:=xd.eq
     subst h3 h4
     have hb:=r.bound hi
     obtain⟨h5,h6⟩:=gF hq
     obtain⟨z',o2,so⟩:=oB hq y'
     have dy:=so.bound h5
     have ho2:=so.eq.2
     subst ho2
     simp only[bC]
     by_cases hnm:n=m
     ·subst hnm
      have yx:sj p q'=false:=by
       simp only[sj,Bool.and_eq_false_iff]at hp
       rcases hp with hp|hp
       ·rw[awV]at hp;cases hp
       ·exact hp
      rcases ih hi hq yx with h7|h7<;>omega
     ·rcases hf.apart xd hnm with h7|h7
      ·right;omega
      ·left
       have:1≤(Ty.slice e).size:=aul _
       omega
    ·cases hq
 | @idx p n e' σ x i z q r ih=>
  intro hi q' e hq hp
  cases q' with
  |nil=>have:=auw hq;cases this
  |cons s q'=>
   cases s with
   |idx i=>simp[ej]at hq
   |gA m=>simp[ej,Cm]at hq
def ed:Value→Option Nat
 | .pointer (some a)=>some a.block
 | .slice (some a) _ cap=>if cap=0 then none else some a.block
 |_=>none
def aQ.mut:aQ→Prop
 | .obj _ _| .own _ _| .dO _ _ _ _=>True
 |_=>False
def ER(w:World)(M:Nat→Prop)(v:Value):aQ→Prop
 | .obj τ x=> ∃b cs t,v= .pointer (some ⟨b,0,none⟩)∧w.heap[b]? =some (.cells cs t (0,0))∧M b∧Rd w M τ cs.toList x
 | .dO τ x p _=> ∃b cs t nH u,v= .pointer (some ⟨b,0,none⟩)∧w.heap[b]? =some (.cells cs t (0,0))∧M b∧Rd w M τ nH x∧cs.toList=dg nH (bC p τ) [u]∧u.oneCell'=true∧ ∃e,ej p τ (.slice e)=true
 | .own e l=>(l=[]∧ ∃a,v= .slice a 0 0)∨
  ∃b cs t cap,v= .slice (some ⟨b,0,none⟩) l.length cap∧w.heap[b]? =some (.cells cs t (0,0))∧M b∧0<cap∧l.length≤cap∧cap≤maxLen∧cs.size=cap*e.size∧
   ∀i (h:i<l.length),Rd w M e ((cs.toList.drop (i*e.size)).take e.size) l[i]
 | .kt e l=>Rd w M (.slice e) [v] l∧((l=[]∧ ∃a n c,v= .slice a n c)∨ ∃b n c,v= .slice (some ⟨b,0,none⟩) n c)
 | .gone=>True
def AR(v:Value)(p:List Step)(u:Value):aQ→Prop
 | .obj τ _| .dO τ _ _ _=>sm p τ∧ ∃b,v= .pointer (some ⟨b,0,none⟩)∧u= .pointer (some ⟨b,bC p τ,none⟩)
 | .own e l| .kt e l=> ∃i q,p= .idx i::q∧i<l.length∧sm q e∧ ∃b n c,v= .slice (some ⟨b,0,none⟩) n c∧u= .pointer (some ⟨b,i*e.size+bC q e,none⟩)
 | .gone=> ∃a,u= .pointer (some a)
mutual
def VR(w:World)(M:Nat→Prop)(H:Nat→Option aQ)(ν:Nat→Value):aY→Value→Prop
 | .any,_=>True
 | .M4,v=>v=undef
 | .val τ x,v=>V w M τ v x
 | .Cn τ x n,v=>V w M τ v x∧ ∃cs a,v= .agg cs∧cs.toList[nr τ n]? =some (.slice a 0 0)
 | .emp,v=> ∃a,v= .slice a 0 0
 | .ref id,v=>H id≠none∧v=ν id
 | .fC id p,v=> ∃e,H id=some e∧AR (ν id) p v e
 | .mc τ x,v=> ∃b off,v= .pointer (some ⟨b,off,none⟩)∧b<w.heap.size∧ ¬M b∧ ∃cs,At w b off cs∧Rd w M τ cs x
 | .tup vs,v=> ∃us:List Value,v= .tuple us.toArray∧fE w M H ν vs us
 | .D1 f caps,v=> ∃cs:List Value,v= .func (.func f) #[] cs.toArray∧fE w M H ν caps cs
def fE(w:World)(M:Nat→Prop)(H:Nat→Option aQ)(ν:Nat→Value):List aY→List Value→Prop
 |[],[]=>True
 |a::as,v::vs=>VR w M H ν a v∧fE w M H ν as vs
 |_,_=>False
end
def aQ.hO:aQ→aQ→Prop
 | .obj τ _,.obj υ _| .obj τ _,.dO υ _ _ _| .dO τ _ _ _,.obj υ _| .dO τ _ _ _,.dO υ _ _ _=>τ=υ
 | .own e l,.own f k| .own e l,.kt f k| .kt e l,.kt f k=>e=f∧l.length=k.length
 |_,.gone=>True
 |_,_=>False
structure n7(H:Nat→Option aQ)(ν:Nat→Value)(H':Nat→Option aQ)(ν':Nat→Value):Prop where
 iN: ∀i e,H i=some e→ ∃e',H' i=some e'∧e.hO e'
 head: ∀i,H i≠none→ν' i=ν i
theorem AR.ptr{v:Value}{p:List Step}{u:Value}{e:aQ}(h:AR v p u e): ∃a,u= .pointer (some a):=by
 cases e<;>simp only[AR]at h
 ·obtain⟨_,b,_,h⟩:=h;exact⟨_,h⟩
 ·obtain⟨_,b,_,h⟩:=h;exact⟨_,h⟩
 ·obtain⟨i,q,_,_,_,b,n,c,_,h⟩:=h;exact⟨_,h⟩
 ·obtain⟨i,q,_,_,_,b,n,c,_,h⟩:=h;exact⟨_,h⟩
 ·exact h
theorem AR.hO{v:Value}{p:List Step}{u:Value}{e e':aQ}(h:AR v p u e)(l:e.hO e'):AR v p u e':=by
 have hp:=h.ptr
 cases e<;>cases e'<;>simp only[aQ.hO]at l<;>simp only[AR]at h ⊢ <;>try exact hp
 ·subst l;exact h
 ·subst l;exact h
 ·subst l;exact h
 ·subst l;exact h
 ·obtain⟨rfl,hl⟩:=l;obtain⟨i,q,hp,hi,r⟩:=h;exact⟨i,q,hp,by omega,r⟩
 ·obtain⟨rfl,hl⟩:=l;obtain⟨i,q,hp,hi,r⟩:=h;exact⟨i,q,hp,by omega,r⟩
 ·obtain⟨rfl,hl⟩:=l;obtain⟨i,q,hp,hi,r⟩:=h;exact⟨i,q,hp,by omega,r⟩
theorem aQ.hO.refl(e:aQ):e.hO e:=by cases e<;>simp[aQ.hO]
theorem n7.refl(H:Nat→Option aQ)(ν:Nat→Value):n7 H ν H ν:=⟨fun _ e h=>⟨e,h,.refl e⟩,fun _ _=>rfl⟩
mutual
theorem VR.bt{w w':World}{M M':Nat→Prop}{H H':Nat→Option aQ}{ν ν':Nat→Value}(k:df w M w' M')(g:n7 H ν H' ν'):
  ∀{a:aY} {v:Value},VR w M H ν a v→VR w' M' H' ν' a v
 | .any,_,_=>by simp[VR]
 | .M4,_,h=>by simpa [VR]using h
 | .val τ x,v,h=>by simp only[VR]at h ⊢;exact h.bt k
 | .Cn τ x n,v,h=>by simp only[VR]at h ⊢;exact⟨h.1.bt k,h.2⟩
 | .emp,_,h=>by simpa [VR]using h
 | .ref id,_,h=>by
  simp only[VR]at h ⊢
  obtain⟨h1,h2⟩:=h
  obtain⟨e,he⟩:=awx.1 h1
  obtain⟨e',sF,_⟩:=g.iN id e he
  exact⟨by simp[sF],by rw[g.head id h1];exact h2⟩
 | .fC id p,_,h=>by
  simp only[VR]at h ⊢
  obtain⟨e,he,ha⟩:=h
  obtain⟨e',sF,hl⟩:=g.iN id e he
  exact⟨e',sF,by rw[g.head id (by simp[he])];exact ha.hO hl⟩
 | .mc τ x,_,h=>by
  simp only[VR]at h ⊢
  obtain⟨b,off,rfl,hb,hm,cs,ha,hr⟩:=h
  exact⟨b,off,rfl,avn hb k.size,fun h'=>hm (k.less b hb h'),cs,ha.bt (k.block b hb hm),hr.bt k⟩
 | .tup vs,_,h=>by
  simp only[VR]at h ⊢
  obtain⟨us,rfl,h⟩:=h
  exact⟨us,rfl,fE.bt k g h⟩
 | .D1 f caps,_,h=>by
  simp only[VR]at h ⊢
  obtain⟨us,rfl,h⟩:=h
  exact⟨us,rfl,fE.bt k g h⟩
theorem fE.bt{w w':World}{M M':Nat→Prop}{H H':Nat→Option aQ}{ν ν':Nat→Value}(k:df w M w' M')(g:n7 H ν H' ν'):
  ∀{as:List aY} {vs:List Value},fE w M H ν as vs→fE w' M' H' ν' as vs
 |[],[],_=>by simp[fE]
 |a::as,v::vs,h=>by simp only[fE]at h ⊢;exact⟨VR.bt k g h.1,fE.bt k g h.2⟩
 |[],_::_,h=>by simp[fE]at h
 |_::_,[],h=>by simp[fE]at h
end
end VM
end
