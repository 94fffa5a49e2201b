/- A part of the proof of AwardPays of layer 25: a machine that reads a function of the program as an equation between values. -/
import GoSem.Claims
import Derived.WalkKit
import Derived.ArgAppend
import Derived.Laws.CopyRow
import Derived.Laws.MakeOwn
import Derived.Laws.OwnMore
import Derived.Orders
import Derived.LoopN
set_option linter.all false
abbrev atB:=@Option.bind_some
abbrev atC:=@cond_true
abbrev atD:=@List.getD_eq_getElem?_getD
abbrev atE:=@Int.toNat_natCast
abbrev atG:=@List.length_singleton
abbrev atH:=@cond_false
abbrev atI:=@List.getElem?_eq_getElem
abbrev atJ:=@List.length_append
abbrev atK:=@if_pos
abbrev atL:=@if_neg
abbrev atM:=@List.mem_cons_of_mem
abbrev atN:=@List.length_cons
abbrev atO:=@Array.length_toList
abbrev atP:=@Nat.le_refl
abbrev atS:=@List.mem_cons_self
abbrev atT:=@List.length_replicate
abbrev atU:=@List.mem_append
abbrev atV:=@List.append_assoc
abbrev atW:=@Bool.and_eq_true
abbrev atX:=@List.length_set
abbrev atY:=@of_decide_eq_true
abbrev atZ:=@List.mem_cons
abbrev at1:=@decide_eq_true
abbrev at2:=@List.mem_singleton
abbrev at3:=@Bool.not_true
abbrev at4:=@List.length_take
abbrev at5:=@List.mem_append_left
abbrev at6:=@decide_eq_false
abbrev at7:=@List.map_cons
abbrev aua:=@List.length_nil
abbrev aub:=@List.mem_append_right
abbrev auc:=@Bool.and_eq_true_iff
abbrev aud:=@List.length_map
abbrev aue:=@List.sum_cons
abbrev auf:=@Bool.not_false
abbrev aug:=@List.nil_append
abbrev auh:=@List.append_nil
abbrev aui:=@List.drop_zero
abbrev auj:=@Nat.eq_of_beq_eq_true
abbrev auk:=@Int.toNat_zero
abbrev aul:=@List.getElem?_eq_none
abbrev aum:=@List.length_drop
abbrev aun:=@List.getElem_mem
abbrev auo:=@Array.getElem?_toList
abbrev aup:=@Array.getElem?_eq_some_iff
abbrev auq:=@List.take_append_drop
abbrev aur:=@List.take_of_length_le
abbrev aus:=@List.map_append
abbrev aut:=@Nat.le_trans
abbrev auu:=@Nat.zero_le
abbrev auv:=@List.cons.injEq
abbrev auw:=@List.drop_of_length_le
abbrev auy:=@List.mem_map
abbrev auz:=@List.pairwise_cons
abbrev auA:=@Bool.false_eq_true
abbrev auB:=@Option.mem_toList
abbrev auC:=@List.mem_map_of_mem
abbrev auD:=@List.getElem_of_mem
abbrev auE:=@Nat.add_mul
abbrev auF:=@Option.some.injEq
abbrev auG:=@List.size_toArray
abbrev auH:=@decide_eq_true_iff
abbrev auI:=@List.getElem?_append_right
abbrev auJ:=@Nat.mul_le_mul_right
abbrev auK:=@Int.add_zero
abbrev auL:=@Nat.min_eq_left
abbrev auM:=@Array.getD_eq_getD_getElem?
abbrev auN:=@List.getElem?_take
abbrev auO:=@List.getElem?_drop
abbrev auP:=@Nat.zero_add
abbrev auQ:=@List.eq_nil_of_length_eq_zero
abbrev auR:=@List.getElem?_append_left
abbrev auS:=@List.drop_eq_getElem_cons
abbrev auT:=@List.take_zero
abbrev auU:=@Nat.lt_of_lt_of_le
abbrev auV:=@List.drop_drop
abbrev auW:=@Int.mul_le_mul_of_nonneg_left
abbrev auX:=@List.getElem?_eq_some_iff
abbrev auY:=@List.getElem?_map
abbrev auZ:=@Int.eq_ofNat_of_zero_le
abbrev au0:=@List.mem_of_mem_take
abbrev au1:=@List.length_pos_iff
abbrev au2:=@Int.le_refl
abbrev au3:=@and_true
abbrev au4:=@List.mem_iff_getElem
abbrev au5:=@Option.bind_eq_some_iff
abbrev au6:=@List.cons_append
abbrev au7:=@Bool.true_and
abbrev au8:=@Bool.and_true
abbrev au9:=@List.sum_nil
abbrev ava:=@List.map_congr_left
abbrev avb:=@Nat.mul_le_mul_left
abbrev avc:=@List.drop_left'
abbrev avd:=@Option.some.inj
abbrev ave:=@Bool.eq_iff_iff
abbrev avf:=@Bool.or_eq_true
abbrev avg:=@List.mem_or_eq_of_mem_set
abbrev avh:=@congrArg
abbrev avi:=@Bool.not_eq_true
abbrev avj:=@decide_eq_decide
abbrev avk:=@Option.getD_some
abbrev avl:=@List.map_nil
abbrev avm:=@Int.zero_add
abbrev avn:=@List.take_append_of_le_length
abbrev avo:=@List.drop_append_of_le_length
abbrev avp:=@Bool.not_eq_true'
abbrev avq:=@if_false
abbrev avr:=@Ne.symm
abbrev avs:=@Int.mul_comm
abbrev avt:=@Nat.one_mul
abbrev avu:=@Int.add_assoc
abbrev avv:=@List.take_length
abbrev avw:=@List.all_eq_true
abbrev avx:=@Array.ext'
abbrev avy:=@List.nodup_append
abbrev avz:=@decide_eq_true_eq
abbrev avA:=@Nat.add_assoc
abbrev avB:=@Int.mul_assoc
abbrev avC:=@List.eq_of_mem_replicate
abbrev avD:=@List.take_append_getElem
abbrev avE:=@List.drop_take
abbrev avF:=@List.take_take
abbrev avG:=@Nat.add_sub_cancel_left
abbrev avH:=@List.mem_range
abbrev avI:=@List.drop_length
abbrev avJ:=@Int.mul_add
abbrev avK:=@Nat.add_zero
abbrev avL:=@Option.map_eq_some_iff
abbrev avM:=@Int.ediv_lt_iff_lt_mul
abbrev avN:=@Int.sub_eq_add_neg
abbrev avO:=@List.drop_eq_nil_of_le
abbrev avP:=@List.headD_cons
abbrev avQ:=@List.sum_append
abbrev avR:=@List.Pairwise.sublist
abbrev avS:=@List.length_range
abbrev avT:=@Bool.eq_false_iff
abbrev avU:=@Option.ne_none_iff_exists'
abbrev avV:=@Array.getElem_toList
abbrev avW:=@List.tail_cons
abbrev avX:=@List.mem_of_mem_drop
abbrev avY:=@Bool.false_and
abbrev avZ:=@List.any_eq_true
abbrev av0:=@Int.le_trans
abbrev av1:=@List.pairwise_iff_getElem
abbrev av2:=@List.replicate_succ
abbrev av3:=@Int.toNat_of_nonneg
abbrev av4:=@List.getElem_append_left
abbrev av5:=@Bool.false_or
abbrev av6:=@Bool.or_false
abbrev av7:=@List.take_left'
abbrev av8:=@if_true
abbrev av9:=@Int.ediv_nonneg
abbrev awa:=@Bool.false_ne_true
abbrev awb:=@Int.emod_lt_of_pos
abbrev awc:=@Int.lt_of_le_of_lt
abbrev awd:=@Nat.le_succ
abbrev awe:=@Nat.sub_mul
abbrev awf:=@List.getElem?_replicate
abbrev awg:=@decide_eq_false_iff_not
abbrev awh:=@List.getElem_cons_zero
abbrev awi:=@List.flatten_cons
abbrev awj:=@Nat.lt_or_ge
abbrev awk:=@List.ext_getElem?
abbrev awm:=@Nat.beq_refl
abbrev awn:=@Int.mul_nonneg
abbrev awo:=@List.take_succ_eq_append_getElem
abbrev awp:=@Int.sub_zero
abbrev awq:=@Array.getElem?_setIfInBounds_ne
abbrev awr:=@Nat.le_of_ble_eq_true
abbrev aws:=@List.singleton_append
abbrev awt:=@Int.mul_le_mul_of_nonneg_right
abbrev awu:=@Nat.and_two_pow_sub_one_eq_mod
abbrev awv:=@List.get_eq_getElem
abbrev aww:=@Nat.two_pow_add_eq_or_of_lt
abbrev awx:=@List.getElem_range
abbrev awy:=@Nat.mul_le_mul
abbrev awz:=@List.mapM_cons
abbrev awA:=@Int.fdiv_eq_ediv_of_nonneg
abbrev awB:=@Int.add_mul_emod_self_left
abbrev awC:=@Prod.ext
abbrev awD:=@Int.tmod_lt_of_pos
abbrev awE:=@List.getElem_append_right
abbrev awF:=@Array.getElem?_eq_getElem
abbrev awG:=@Classical.byContradiction
abbrev awH:=@Int.le_of_mul_le_mul_left
abbrev awI:=@Decidable.byContradiction
abbrev awJ:=@Int.add_mul
abbrev awK:=@List.pairwise_map
abbrev awL:=@Bool.not_eq_false
abbrev awM:=@List.length_eq_zero_iff
abbrev awN:=@List.getElem?_cons_zero
abbrev awO:=@Array.getElem?_eq_none
abbrev awP:=@List.getElem_replicate
abbrev awQ:=@Nat.beq_eq
abbrev awR:=@Nat.sub_self
abbrev awS:=@List.append_eq_nil_iff
abbrev awT:=@Nat.pow_succ
abbrev awU:=@Int.pow_succ
abbrev awV:=@Int.ediv_eq_zero_of_lt
abbrev awW:=@Nat.mul_succ
abbrev awX:=@List.range_succ
abbrev awY:=@List.nodup_cons
abbrev awZ:=@List.mem_filter
abbrev aw0:=@Int.emod_nonneg
abbrev aw1:=@List.getElem?_toArray
abbrev aw2:=@Int.mul_ediv_add_emod
abbrev aw3:=@Nat.div_lt_iff_lt_mul
abbrev aw4:=@Int.add_mul_ediv_left
abbrev aw5:=@Int.one_mul
abbrev aw6:=@Bool.and_false
abbrev aw7:=@Int.sub_sub
abbrev aw8:=@List.all_cons
abbrev aw9:=@Nat.lt_irrefl
abbrev axa:=@Nat.blt_eq
abbrev axb:=@Nat.ble_eq
abbrev axc:=@Nat.mul_comm
abbrev axd:=@Int.sub_self
section
namespace VM
open Go
theorem adt{α:Type}(a:α): ∃b:α,b=a:=⟨a,rfl⟩
noncomputable def aT{α:Type}(a:α):α:=Classical.choose (adt a)
theorem fg{α:Type}(a:α):aT a=a:=Classical.choose_spec (adt a)
def uh:Nat:=68719476736
noncomputable def W:IntKind→Int→Int:=aT fun k x=>k.wrap x
noncomputable def aL:Int→Int→Bool:=aT fun x y=>decide (x<y)
noncomputable def bX:Int→Int→Bool:=aT fun x y=>decide (x≤y)
noncomputable def aA:Int→Int→Bool:=aT fun x y=>decide (x=y)
noncomputable def aM:Int→Nat→Bool:=aT fun i n=>decide (0≤i∧i<(n:Int))
noncomputable def small:Nat→Bool:=aT fun n=>decide (n<uh)
noncomputable def gm:Int→Int→Bool:=aT fun l c=>decide (0≤l∧l≤c∧c<(uh:Int))
noncomputable def fM:Int→Int→Int→Int→Bool:=aT fun l h m n=>decide (0≤l∧l≤h∧h≤m∧m≤n)
noncomputable def quo:Int→Int→Int:=aT fun x y=>x.tdiv y
noncomputable def rem:Int→Int→Int:=aT fun x y=>x.tmod y
noncomputable def shl:IntKind→Int→Int→Int:=aT fun k x y=>x*2^(min y.toNat k.bits)
noncomputable def shr:IntKind→Int→Int→Int:=aT fun k x y=>x.fdiv (2^(min y.toNat k.bits))
noncomputable def mx:Int→Int→Int:=aT fun x y=>if y>x then y else x
noncomputable def mn:Int→Int→Int:=aT fun x y=>if y<x then y else x
noncomputable def Nf:ByteArray→ByteArray→Bool:=aT fun x y=>decide (x.toList=y.toList)
theorem yu(k:IntKind)(x:Int):W k x=k.wrap x:=by unfold W;rw[fg]
theorem td(x y:Int):aL x y=decide (x<y):=by unfold aL;rw[fg]
theorem iE(x y:Int):bX x y=decide (x≤y):=by unfold bX;rw[fg]
theorem fh(x y:Int):aA x y=decide (x=y):=by unfold aA;rw[fg]
theorem Ng(i:Int)(n:Nat):aM i n=decide (0≤i∧i<(n:Int)):=by unfold aM;rw[fg]
theorem yv(n:Nat):small n=decide (n<uh):=by unfold small;rw[fg]
theorem Bn(l c:Int):gm l c=decide (0≤l∧l≤c∧c<(uh:Int)):=by unfold gm;rw[fg]
theorem ui(l h m n:Int):fM l h m n=decide (0≤l∧l≤h∧h≤m∧m≤n):=by unfold fM;rw[fg]
theorem Yl(x y:Int):quo x y=x.tdiv y:=by unfold quo;rw[fg]
theorem Ym(x y:Int):rem x y=x.tmod y:=by unfold rem;rw[fg]
theorem Nh(k:IntKind)(x y:Int):shl k x y=x*2^(min y.toNat k.bits):=by unfold shl;rw[fg]
theorem H5(k:IntKind)(x y:Int):shr k x y=x.fdiv (2^(min y.toNat k.bits)):=by unfold shr;rw[fg]
theorem adu(x y:Int):mx x y=if y>x then y else x:=by unfold mx;rw[fg]
theorem Xa(x y:Int):mn x y=if y<x then y else x:=by unfold mn;rw[fg]
theorem yw(x y:ByteArray):Nf x y=decide (x.toList=y.toList):=by unfold Nf;rw[fg]
inductive Bw where|and|or|xor|andNot
noncomputable def oY:Bw→IntKind→Int→Int→Int:=aT fun o k x y=>
 let a:=BitVec.ofInt k.bits x
 let b:=BitVec.ofInt k.bits y
 k.wrap (match o with| .and=>a&&& b| .or=>a|||b| .xor=>a^^^b| .andNot=>a&&& ~~~b).toNat
theorem py(o:Bw)(k:IntKind)(x y:Int):oY o k x y=
 let a:=BitVec.ofInt k.bits x
 let b:=BitVec.ofInt k.bits y
 k.wrap (match o with| .and=>a&&& b| .or=>a|||b| .xor=>a^^^b| .andNot=>a&&& ~~~b).toNat:=by unfold oY;rw[fg]
def strOf(l:List Nat):ByteArray:=⟨(l.map UInt8.ofNat).toArray⟩
inductive Ty where
 |int (k:IntKind)
 |bool
 |str
 |slice (e:Ty)
 |unit
 |pair (a b:Ty)
 |arr (n:Nat) (e:Ty)
 deriving DecidableEq
@[reducible] def Ty.den:Ty→Type
 | .int _=>Int
 | .bool=>Bool
 | .str=>ByteArray
 | .slice e=>List e.den
 | .unit=>Unit
 | .pair a b=>a.den×b.den
 | .arr _ e=>List e.den
def Ty.size:Ty→Nat
 | .int _| .bool| .str| .slice _=>1
 | .unit=>0
 | .pair a b=>a.size+b.size
 | .arr n e=>n*e.size
def Ty.isAgg:Ty→Bool
 | .unit| .pair _ _| .arr _ _=>true
 |_=>false
def Ty.zero:(τ:Ty)→τ.den
 | .int _=>(0:Int)
 | .bool=>false
 | .str=>ByteArray.empty
 | .slice _=>[]
 | .unit=>()
 | .pair a b=>(a.zero,b.zero)
 | .arr n e=>List.replicate n e.zero
def Ty.comparable:Ty→Bool
 | .slice _=>false
 | .pair a b=>a.comparable&&b.comparable
 | .arr _ _=>false
 |_=>true
def adv{α:Type}(f:α→α→Bool):List α→List α→Bool
 |[],[]=>true
 |x::xs,y::ys=>f x y&&adv f xs ys
 |_,_=>false
noncomputable def qQ:(τ:Ty)→τ.den→τ.den→Bool
 | .int _,x,y=>aA x y
 | .bool,x,y=>x==y
 | .str,x,y=>Nf x y
 | .slice _,_,_=>false
 | .unit,_,_=>true
 | .pair a b,x,y=>qQ a x.1 y.1&&qQ b x.2 y.2
 | .arr _ e,x,y=>adv (qQ e) x y
inductive Step where
 |gL (n:Nat)
 |idx (i:Nat)
def D6:List Step→List Step→Bool
 |[],[]=>true
 | .gL a::p,.gL b::q=>Nat.beq a b&&D6 p q
 |_,_=>false
def sD:List Step→List Step→Bool
 |[],_=>true
 | .gL a::p,.gL b::q=>Nat.beq a b&&sD p q
 |_,_=>false
def Cq:Ty→Nat→Option Ty
 | .pair a b,n=>match n with
  |0=>some a
  |n+1=>Cq b n
 |_,_=>none
def eC:List Step→Ty→Ty→Bool
 |[],τ,υ=>decide (τ=υ)
 | .gL n::p,τ,υ=>match Cq τ n with
  |some a=>eC p a υ
  |none=>false
 |_,_,_=>false
inductive aW where
 |any
 |Ni
 |val (τ:Ty) (x:τ.den)
 |Cr (τ:Ty) (x:τ.den) (n:Nat)
 |emp
 |ref (id:Nat)
 |fA (id:Nat) (p:List Step)
 |mL (τ:Ty) (x:τ.den)
 |tup (vs:List aW)
 |D7 (f:Nat) (caps:List aW)
inductive aR where
 |obj (τ:Ty) (x:τ.den)
 |dY (τ:Ty) (x:τ.den) (p:List Step) (j:Nat)
 |own (e:Ty) (l:List e.den)
 |kF (e:Ty) (l:List e.den)
 |gone
structure St where
 T:Nat→aW
 H:Nat→Option aR
def St.put(σ:St)(d:Nat)(v:aW):St:=⟨fun i=>cond (Nat.beq i d) v (σ.T i),σ.H⟩
def St.g6(σ:St)(d:Nat)(v:Option aR):St:=⟨σ.T,fun i=>cond (Nat.beq i d) v (σ.H i)⟩
def St.qG(σ:St)(d:Option Nat)(v:aW):St:=match d with|some d=>σ.put d v|none=>σ
def D8(n:Nat)(io:List Nat):Option Nat→Bool|some d=>Nat.blt d n&&io.all (fun i=> !(Nat.beq i d))|none=>true
def St.qT(σ:St):List (Nat×Option aR)→St
 |[]=>σ
 |u::r=>(σ.g6 u.1 u.2).qT r
abbrev S0:St:=⟨fun _=> .any,fun _=>none⟩
abbrev fD:=List (Nat×Option aR)
section K
variable{α:Type}
def sE:(τ:Ty)→τ.den→Nat→((υ:Ty)→υ.den→Option α)→Option α
 | .pair a b,x,n,k=>match n with
  |0=>k a x.1
  |n+1=>sE b x.2 n k
 |_,_,_,_=>none
def jq:(τ:Ty)→τ.den→Nat→((υ:Ty)→υ.den→(υ.den→Option α)→Option α)→(τ.den→Option α)→Option α
 | .pair a b,x,n,m,k=>match n with
  |0=>m a x.1 fun z=>k (z,x.2)
  |n+1=>jq b x.2 n m fun z=>k (x.1,z)
 |_,_,_,_,_=>none
def jr(τ υ:Ty)(k:Option α):Option α:=if τ=υ then k else none
def ca(υ τ:Ty)(y:υ.den)(k:τ.den→Option α):Option α:=if h:υ=τ then k (h▸y)else none
def Yn(τ:Ty)(x:τ.den)(i:Nat)(k:(υ:Ty)→υ.den→Option α):Option α:=
 match τ,x with
 | .arr _ e,x=>k e (List.getD x i e.zero)
 |_,_=>none
def xX(τ:Ty)(x:τ.den)(i:Nat)(m:(υ:Ty)→υ.den→(υ.den→Option α)→Option α)(k:τ.den→Option α):Option α:=
 match τ,x,k with
 | .arr _ e,x,k=>m e (List.getD x i e.zero) fun z=>k (List.set x i z)
 |_,_,_=>none
def uj:List Step→(τ:Ty)→τ.den→((υ:Ty)→υ.den→Option α)→Option α
 |[],τ,x,k=>k τ x
 | .gL n::p,τ,x,k=>sE τ x n fun υ y=>uj p υ y k
 | .idx i::p,τ,x,k=>Yn τ x i fun υ y=>uj p υ y k
def qH(υ:Ty)(y:υ.den):List Step→(τ:Ty)→τ.den→(τ.den→Option α)→Option α
 |[],τ,_,k=>ca υ τ y k
 | .gL n::p,τ,x,k=>jq τ x n (fun υ' y' k'=>qH υ y p υ' y' k') k
 | .idx i::p,τ,x,k=>xX τ x i (fun υ' y' k'=>qH υ y p υ' y' k') k
def iF(fz:Bool)(a:aW)(H:Nat→Option aR)(τ:Ty)(k:τ.den→List Nat→fD→Option α):Option α:=
 match a with
 | .val υ x=>ca υ τ x fun y=>k y [] []
 | .Cr υ x _=>ca υ τ x fun y=>k y [] []
 | .emp=>match τ,k with
  | .slice _,k=>k [] [] []
  |_,_=>none
 | .ref id=>match H id with
  |some (.own e l)=>ca (.slice e) τ l fun y=>k y [id] (cond fz [(id,some (.kF e l))] [])
  |some (.kF e l)=>ca (.slice e) τ l fun y=>k y [id] []
  |_=>none
 |_=>none
def D9(a:aW)(k:(τ:Ty)→τ.den→Option α):Option α:=
 match a with
 | .val υ x=>k υ x
 |_=>none
def js(id:Nat)(p:List Step)(H:Nat→Option aR)(k:Ty→Option α):Option α:=
 match H id with
 |some (.obj τ x)=>uj p τ x fun υ _=>k υ
 |some (.dY τ x _ _)=>uj p τ x fun υ _=>k υ
 |some (.own e l)|some (.kF e l)=>match p with
  | .idx i::p=>uj p e (List.getD l i e.zero) fun υ _=>k υ
  |_=>none
 |_=>none
def anT(a:aW)(H:Nat→Option aR)(k:(τ:Ty)→τ.den→List Nat→Option α):Option α:=
 match a with
 | .val υ x=>k υ x []
 | .ref id=>match H id with
  |some (.own e l)|some (.kF e l)=>k (.slice e) l [id]
  |_=>none
 |_=>none
def qU(a:aW)(k:IntKind→Int→Option α):Option α:=
 match a with
 | .val (.int i) x=>k i x
 |_=>none
end K
inductive AM where
 |v (τ:Ty)
 |own (e:Ty)
 |io (τ:Ty)
 |fn (f:Nat) (τ:Ty)
 |ptr (τ:Ty)
 |fA (τ:Ty)
@[reducible] def AM.den:AM→Type
 | .v τ=>τ.den
 | .own e=>List e.den
 | .io τ=>τ.den
 | .fn _ τ=>τ.den
 | .ptr τ=>τ.den
 | .fA τ=>τ.den
@[reducible] def HP:List AM→Type
 |[]=>Unit
 |[m]=>m.den
 |m::n::ms=>m.den×HP (n::ms)
structure ia where
 args:List AM
 res:List AM
 quiet:Bool
 run:HP args→Option (HP res)
inductive CM where
 |v (τ:Ty)
 |own (e:Ty)
 |obj (τ:Ty)
 |dY (τ:Ty) (q:List Step) (e:Ty)
 |same (s:Nat)
 |io (τ:Ty)
 |fn (f:Nat) (τ:Ty)
structure Env where
 nt:Nat
 ty:Nat→Option Ty
 Γ:Nat→List ia
 N:Nat
 qV:Nat→Option (List (Nat×CM))
 sF:Nat→Option (List (Nat×CM))
 io:List Nat:=[]
 lk:Option (Ty×List Step×Ty×List Nat):=none
def lkT(E:Env)(τ:Ty):Option (List Step×Ty):=match E.lk with
 |some (υ,q,e,_)=>cond (decide (υ=τ)) (cond (eC q τ (.slice e)) (some (q,e)) none) none
 |none=>none
def Cs(E:Env)(τ:Ty)(id:Nat):Option (List Step×Ty):=match E.lk with
 |some (_,_,_,ds)=>cond (ds.any fun d=>Nat.beq (id/16) d) (lkT E τ) none
 |none=>none
def cvA:Value→aW
 | .int k n=> .val (.int k) n
 | .bool b=> .val .bool b
 | .string s=> .val .str s
 | .slice none 0 0=> .emp
 |_=> .any
def St.ρ (σ:St):Operand→aW
 | .tmp t=>σ.T t
 | .const v=>cvA v
 | .global _=> .any
 | .func f=> .D7 f []
section
variable{α:Type}
noncomputable def pz(op:BinOp)(k:IntKind)(x y:Int)(K:aW→Option α):Option α:=
 match op with
 | .add=>K (.val (.int k) (W k (x+y)))
 | .sub=>K (.val (.int k) (W k (x-y)))
 | .mul=>K (.val (.int k) (W k (x*y)))
 | .quo=>cond (aA y 0) none (K (.val (.int k) (W k (quo x y))))
 | .rem=>cond (aA y 0) none (K (.val (.int k) (rem x y)))
 | .and=>K (.val (.int k) (oY .and k x y))
 | .or=>K (.val (.int k) (oY .or k x y))
 | .xor=>K (.val (.int k) (oY .xor k x y))
 | .andNot=>K (.val (.int k) (oY .andNot k x y))
 | .eql=>K (.val .bool (aA x y))
 | .neq=>K (.val .bool (!aA x y))
 | .lss=>K (.val .bool (aL x y))
 | .leq=>K (.val .bool (bX x y))
 | .gtr=>K (.val .bool (aL y x))
 | .geq=>K (.val .bool (bX y x))
 |_=>none
noncomputable def Q5(op:BinOp)(k:IntKind)(x y:Int)(K:aW→Option α):Option α:=
 match op with
 | .shl=>cond (aL y 0) none (K (.val (.int k) (W k (shl k x y))))
 | .shr=>cond (aL y 0) none (K (.val (.int k) (shr k x y)))
 |_=>none
def Q6:BinOp→Bool
 | .shl| .shr=>true
 |_=>false
noncomputable def yx(t:Option Ty)(op:BinOp)(τ:Ty)(x:τ.den)(υ:Ty)(y:υ.den)(K:aW→Option α):Option α:=
 match τ,x,υ,y with
 | .int k,x,.int k',y=>cond (Q6 op) (Q5 op k x y K) (if k=k' then pz op k x y K else none)
 |τ,x,υ,y=>match t with
  |none=>none
  |some u=>jr u τ (cond τ.comparable (match op with
   | .eql=>ca υ τ y fun y=>K (.val .bool (qQ τ x y))
   | .neq=>ca υ τ y fun y=>K (.val .bool (!qQ τ x y))
   |_=>none) none)
noncomputable def KT(op:UnOp)(a:aW)(K:aW→Option α):Option α:=
 match op,a with
 | .neg,.val (.int k) n=>K (.val (.int k) (W k (0-n)))
 | .xor,.val (.int k) n=>K (.val (.int k) (oY .xor k (if k.signed then-1 else k.max) n))
 | .not,.val .bool b=>K (.val .bool (!b))
 |_,_=>none
abbrev fE(α:Type):=aW→List Nat→fD→Option α
noncomputable def QG(up:Bool):aW→List aW→(aW→Option α)→Option α
 |a,[],K=>K a
 |a,b::r,K=>qU a fun k x=>qU b fun k' y=>if k=k' then QG up (.val (.int k) (cond up (mx x y) (mn x y))) r K else none
def Ea(τ:Ty)(a:aW)(H:Nat→Option aR)(K:fE α):Option α:=
 match τ,a with
 | .slice _,.val (.slice _) l=>K (.val (.int .i64) (List.length l:Int)) [] []
 | .arr n _,.val (.arr _ _) _=>K (.val (.int .i64) (n:Int)) [] []
 | .str,.val .str s=>K (.val (.int .i64) (ByteArray.size s:Int)) [] []
 | .slice _,.emp=>K (.val (.int .i64) (0:Int)) [] []
 | .slice _,.ref id=>match H id with
  |some (.own _ l)|some (.kF _ l)=>K (.val (.int .i64) (l.length:Int)) [id] []
  |_=>none
 |_,_=>none
def mM(H:Nat→Option aR)(id:Nat)(e:aR)(K:Option α):Option α:=
 match H id with
 |none=>K
 |some _=>none
noncomputable def Eb(id:Nat)(e:Ty)(a b:aW)(H:Nat→Option aR)(K:fE α):Option α:=
 iF false b H (.slice e) fun ys rd _=>
  match a with
  | .emp=>cond (small (List.length ys)) (K (.ref id) (id::rd) [(id,some (.own e ys))]) none
  | .ref j=>match H j with
   |some (.own e' l)=>ca (.slice e') (.slice e) l fun xs=>
    cond (small (List.length xs+List.length ys)) (K (.ref id) (id::j::rd) [(j,some .gone),(id,some (.own e (xs++ys)))]) none
   |_=>none
  |_=>none
def pA(τ:Ty)(H:Nat→Option aR):List (Nat×aW)→τ.den→List Nat→fD→(τ.den→List Nat→fD→Option α)→Option α
 |[],x,rd,ups,K=>K x rd ups
 |p::r,x,rd,ups,K=>sE τ x p.1 fun υ _=>iF true p.2 H υ fun y vA jZ=>
  jq τ x p.1 (fun υ' _ k'=>ca υ υ' y k') fun z=>pA τ H r z (vA++rd) (ups++jZ) K
def qW(e:Ty)(H:Nat→Option aR)(n:Nat):List (Nat×aW)→List e.den→List Nat→fD→(List e.den→List Nat→fD→Option α)→Option α
 |[],l,rd,ups,K=>K l rd ups
 |p::r,l,rd,ups,K=>cond (Nat.blt p.1 n) (iF true p.2 H e fun y vA jZ=>qW e H n r (List.set l p.1 y) (vA++rd) (ups++jZ) K) none
def wq(v:aW)(H:Nat→Option aR):(a:Ty)→(a.den→List Nat→fD→Option α)→Option α
 | .pair a .unit,k=>match v with
  | .mL υ x=>ca υ a x fun y=>k (y,()) [] []
  |_=>none
 |a,k=>iF true v H a k
def wu:(a:Ty)→a.den→aW
 | .pair a .unit,x=> .mL a x.1
 |a,x=> .val a x
def mN(H:Nat→Option aR):(τ:Ty)→List aW→(τ.den→List Nat→fD→Option α)→Option α
 | .unit,[],K=>K () [] []
 | .pair a b,v::vs,K=>wq v H a fun x rd ups=>mN H b vs fun xs vA jZ=>K (x,xs) (vA++rd) (ups++jZ)
 |_,_,_=>none
def lR:(τ:Ty)→τ.den→List aW
 | .pair a b,x=>wu a x.1::lR b x.2
 |_,_=>[]
def bo(H:Nat→Option aR)(d:Nat)(v:Option aR):Nat→Option aR:=fun i=>cond (Nat.beq i d) v (H i)
def qX(H:Nat→Option aR):List aW→(List aW→List Nat→fD→Option α)→Option α
 |[],K=>K [] [] []
 |a::r,K=>match a with
  | .fA id []=>match H id with
   |some (.obj τ x)=>qX (bo H id (some .gone)) r fun cs rd ups=>K (.mL τ x::cs) (id::rd) ((id,some .gone)::ups)
   |_=>none
  |a=>qX H r fun cs rd ups=>K (a::cs) rd ups
def kO(m:AM)(a:aW)(H:Nat→Option aR)(k:m.den→(Nat→Option aR)→List Nat→fD→fD→List (Nat×Ty)→Option α):Option α:=
 match m,k with
 | .v τ,k=>iF true a H τ fun x rd uf=>match uf with
  |[]=>k x H rd [] [] []
  |u::r=>k x (bo H u.1 u.2) rd [] (u::r) []
 | .own e,k=>match a with
  | .emp=>k [] H [] [] [] []
  | .ref id=>match H id with
   |some (.own e' l)=>ca (.slice e') (.slice e) l fun x=>k x (bo H id (some .gone)) [id] [(id,some .gone)] [] []
   |_=>none
  |_=>none
 | .io τ,k=>match a with
  | .fA id []=>match H id with
   |some (.obj υ x)=>ca υ τ x fun y=>k y (bo H id (some .gone)) [id] [] [] [(id,τ)]
   |_=>none
  |_=>none
 | .fn f τ,k=>match a with
  | .D7 f' c=>cond (Nat.beq f f') (mN H τ c fun x rd uf=>match uf with
   |[]=>k x H rd [] [] []
   |_=>none) none
  |_=>none
 | .ptr _,_=>none
 | .fA τ,k=>match a with
  | .mL υ x=>ca υ τ x fun y=>k y H [] [] [] []
  |_=>none
def oZ:(ms:List AM)→List aW→(Nat→Option aR)→List Nat→fD→fD→List (Nat×Ty)→(HP ms→List Nat→fD→fD→List (Nat×Ty)→Option α)→Option α
 |[],[],_,rd,uo,uf,io,K=>K () rd uo uf io
 |[m],[a],H,rd,uo,uf,io,K=>kO m a H fun x _ vA DT DU AA=>K x (vA++rd) (DT++uo) (DU++uf) (io++AA)
 |m::n::ms,a::lY,H,rd,uo,uf,io,K=>kO m a H fun x H' vA DT DU AA=>
  oZ (n::ms) lY H' (vA++rd) (DT++uo) (DU++uf) (io++AA) fun xs rd uo uf io=>K (x,xs) rd uo uf io
 |_,_,_,_,_,_,_,_=>none
def Ct(m:AM)(x:m.den)(id:Nat):aW×fD:=
 match m,x with
 | .v τ,x=>(.val τ x,[])
 | .own e,x=>(.ref id,[(id,some (.own e x))])
 | .io τ,x=>(.val τ x,[])
 | .fn _ _,_=>(.any,[])
 | .ptr τ,x=>(.fA id [],[(id,some (.obj τ x))])
 | .fA _,_=>(.any,[])
def iG:(ms:List AM)→HP ms→Nat→List (Nat×Ty)→List aW×fD×List (Nat×Ty)
 |[],_,_,io=>([],[],io)
 |[m],x,id,io=>match m,x,io with
  | .io τ,x,(j,_)::io=>([],[(j,some (.obj τ x))],io)
  |m,x,io=>([(Ct m x id).1],(Ct m x id).2,io)
 |m::n::ms,x,id,io=>match m,x,io with
  | .io τ,x,(j,_)::io=>let r:=iG (n::ms) x.2 (id+1) io;(r.1,(j,some (.obj τ x.1))::r.2.1,r.2.2)
  |m,x,io=>let r:=iG (n::ms) x.2 (id+1) io;((Ct m x.1 id).1::r.1,(Ct m x.1 id).2++r.2.1,r.2.2)
def Ec:List aW→aW
 |[]=> .any
 |[a]=>a
 |l=> .tup l
def pB(H:Nat→Option aR)(id:Nat):Nat→Bool
 |0=>true
 |n+1=>(match H (id+n)with|none=>true|some _=>false)&&pB H id n
def Ed(id:Nat):Nat→List Nat
 |0=>[]
 |n+1=>(id+n)::Ed id n
def fits:List AM→List aW→Bool
 |[],[]=>true
 | .fn f _::ms,.D7 g _::lY=>Nat.beq f g&&fits ms lY
 | .fn _ _::_,_::_=>false
 |_::ms,_::lY=>fits ms lY
 |_,_=>false
def Ee:List ia→List aW→Option ia
 |[],_=>none
 |S::r,lY=>cond (fits S.args lY) (some S) (Ee r lY)
noncomputable def wv(E:Env)(f:Nat)(lY:List aW)(id:Nat)(H:Nat→Option aR)(K:fE α):Option α:=
 match Ee (E.Γ f) lY with
 |none=>none
 |some S=>oZ S.args lY H [] [] [] [] fun x rd uo uf io=>
  (S.run x).bind fun y=>
   let r:=iG S.res y id io
   cond (pB H id S.res.length) (K (Ec r.1) (Ed id S.res.length++(r.2.1.map (·.1)++rd)) (uo++cond S.quiet [] uf++r.2.1)) none
def tf(a:Option aW)(d:Int)(k:Int→Option α):Option α:=
 match a with
 |none=>k d
 |some a=>qU a fun _ x=>k x
def ix:Option Operand→Bool
 |some (.const (.int _ n))=>decide (n=0)
 |_=>false
noncomputable def mO(t:Ty)(z:Bool)(a:aW)(lo hi mx:Option aW)(H:Nat→Option aR)(K:fE α):Option α:=
 match t,a with
 | .str,.val .str s=>cond mx.isNone (tf lo 0 fun l=>tf hi (ByteArray.size s:Int) fun h=>
  cond (fM l h (ByteArray.size s:Int) (ByteArray.size s:Int)) (K (.val .str (ByteArray.extract s l.toNat h.toNat)) [] []) none) none
 | .slice _,.emp=>cond z (K .emp [] []) (cond mx.isNone (tf lo 0 fun l=>tf hi 0 fun h=>cond (fM l h 0 0) (K .emp [] []) none) none)
 | .slice e,a=>iF (!z) a H (.slice e) fun x rd ups=>cond z (K .emp rd [])
  (cond (mx.isNone||hi.isSome) (tf lo 0 fun l=>tf hi (List.length x:Int) fun h=>tf mx (List.length x:Int) fun m=>
   cond (fM l h m (List.length x:Int))
    (K (.val (.slice e) (List.drop l.toNat (List.take h.toNat x))) rd ups) none) none)
 |_,_=>none
noncomputable def ep(τ:Ty)(a i:aW)(H:Nat→Option aR)(K:fE α):Option α:=
 qU i fun _ i=>
 match τ with
 | .slice e=>match a with
  | .val υ l=>ca υ (.slice e) l fun l=>cond (aM i (List.length l)) (K (.mL e (List.getD l i.toNat e.zero)) [] []) none
  | .ref id=>match H id with
   |some (.own e' l)|some (.kF e' l)=>jr e' e (cond (aM i (List.length l)) (K (.fA id [.idx i.toNat]) [id] []) none)
   |_=>none
  |_=>none
 | .arr n e=>match a with
  | .fA id p=>js id p H fun υ=>jr υ (.arr n e) (cond (aM i n) (K (.fA id (p++[.idx i.toNat])) [id] []) none)
  | .mL υ l=>ca υ (.arr n e) l fun l=>cond (aM i n) (K (.mL e (List.getD l i.toNat e.zero)) [] []) none
  |_=>none
 |_=>none
noncomputable def qY(τ:Ty)(a i:aW)(K:aW→Option α):Option α:=
 qU i fun _ i=>
 match τ,a with
 | .arr n e,.val υ l=>ca υ (.arr n e) l fun l=>cond (aM i n) (K (.val e (List.getD l i.toNat e.zero))) none
 | .str,.val .str s=>cond (aM i (ByteArray.size s)) (K (.val (.int .u8) ((s.data.getD i.toNat 0).toNat:Int))) none
 |_,_=>none
def g3(a:aW)(H:Nat→Option aR)(K:(υ:Ty)→υ.den→List Nat→Option α):Option α:=
 match a with
 | .mL τ x=>K τ x []
 | .fA id p=>match H id with
  |some (.obj τ x)=>uj p τ x fun υ y=>K υ y [id]
  |some (.own e l)|some (.kF e l)=>match p with
   | .idx i::p=>uj p e (List.getD l i e.zero) fun υ y=>K υ y [id]
   |_=>none
  |_=>none
 |_=>none
def iH(τ:Ty)(a v:aW)(H:Nat→Option aR)(K:fE α):Option α:=
 match a with
 | .fA id p=>iF true v H τ fun y rd ups=>
  match H id with
  |some (.obj υ x)=>qH τ y p υ x fun z=>K .any (id::rd) (ups++[(id,some (.obj υ z))])
  |some (.own e l)=>match p with
   | .idx i::p=>cond (rd.contains id) none (qH τ y p e (List.getD l i e.zero) fun z=>K .any (id::rd) (ups++[(id,some (.own e (List.set l i z)))]))
   |_=>none
  |_=>none
 |_=>none
def xj(j:Nat)(q:List Step)(τ:Ty)(x:τ.den)(H:Nat→Option aR)(k:τ.den→fD→Option α):Option α:=
 match H j with
 |some (.own e l)=>qH (.slice e) l q τ x fun z=>k z [(j,some (.kF e l))]
 |some (.kF e l)=>qH (.slice e) l q τ x fun z=>k z []
 |_=>none
def qv(τ:Ty)(a:aW)(H:Nat→Option aR)(K:fE α):Option α:=
 let tY:=g3 a H fun υ y rd=>ca υ τ y fun z=>K (.val τ z) rd []
 match a with
 | .fA id p=>match H id with
  |some (.dY υ x q j)=>cond (D6 p q) (cond (eC q υ τ) (K (.ref j) [id] []) none)
   (cond (sD p q) (xj j q υ x H fun z ups=>uj p υ z fun υ' y=>ca υ' τ y fun y'=>K (.val τ y') [id,j] ups)
    (uj p υ x fun υ' y=>ca υ' τ y fun y'=>K (.val τ y') [id] []))
  |_=>tY
 |_=>tY
def wx(τ:Ty)(id k:Nat)(e:Ty)(q:List Step)(υ:Ty)(x:υ.den)(H:Nat→Option aR)(K:fE α):Option α:=
 match H k with
 |some (.own e' _)=>jr e' e (jr τ (.slice e) (qH (.slice e) [] q υ x fun z=>K .any [id,k] [(id,some (.dY υ z q k))]))
 |_=>none
def gn(E:Env)(τ:Ty)(a v:aW)(H:Nat→Option aR)(K:fE α):Option α:=
 let tY:=iH τ a v H K
 match a with
 | .fA id p=>match H id with
  |some (.obj υ x)=>match Cs E υ id,v with
   |some (q,e),.ref k=>cond (D6 p q) (wx τ id k e q υ x H K) tY
   |_,_=>tY
  |some (.dY υ x q j)=>
   let put:=iF true v H τ fun y rd ups=>qH τ y p υ x fun z=>K .any (id::rd) (ups++[(id,some (cond (sD p q) (.obj υ z) (.dY υ z q j)))])
   match Cs E υ id,v with
   |some (q',e),.ref k=>cond (D6 p q&&D6 q q') (wx τ id k e q υ x H K) put
   |_,_=>put
  |_=>tY
 |_=>tY
def oF(E:Env)(τ:Ty)(a v:aW)(H:Nat→Option aR)(K:fE α):Option α:=
 match a,v with
 | .fA id [],.Cr υ y n=>match Cs E υ id with
  |some ([.gL m],e)=>cond (Nat.beq m n) (jr τ υ (js id [] H fun υ'=>jr υ' υ
   (mM H (id+2) (.own e []) (K .any [id,id+2] [(id,some (.dY υ y [.gL m] (id+2))),(id+2,some (.own e []))])))) (gn E τ a v H K)
  |_=>gn E τ a v H K
 |_,_=>gn E τ a v H K
def xk(H:Nat→Option aR)(id:Nat)(τ:Ty)(x:τ.den)(q:List Step)(e:Ty)(K:fE α):Option α:=
 mM H id (.obj τ x) (mM H (id+1) (.own e []) (K (.fA id []) [id,id+1] [(id,some (.dY τ x q (id+1))),(id+1,some (.own e []))]))
def Q7(E:Env)(ps:List (Nat×aW))(τ:Ty)(x:τ.den):aW:=match lkT E τ with
 |some ([.gL n],_)=>cond (ps.all fun p=> !(Nat.beq p.1 n)) (.Cr τ x n) (.val τ x)
 |_=> .val τ x
def partsOf(σρ:Operand→aW)(ps:Array (Nat×Operand)):List (Nat×aW):=ps.toList.map fun p=>(p.1,σρ p.2)
noncomputable def oW(E:Env)(o:Oper)(ρ:Operand→aW)(H:Nat→Option aR)(K:fE α):Option α:=
 let id:=16*o.dst.getD 0
 match o.op with
 | .move x| .assign x=>K (ρ x) [] []
 | .pick c a b=>match ρ c with
  | .val .bool t=>cond t (K (ρ a) [] []) (K (ρ b) [] [])
  |_=>none
 | .alloc t=>match E.ty t with
  |some τ=>match Cs E τ id with
   |some (q,e)=>xk H id τ τ.zero q e K
   |none=>mM H id (.obj τ τ.zero) (K (.fA id []) [id] [(id,some (.obj τ τ.zero))])
  |none=>none
 | .box t x=>match E.ty t with
  |some τ=>
   let tY:=iF true (ρ x) H τ fun y rd ups=>mM H id (.obj τ y) (K (.fA id []) (id::rd) (ups++[(id,some (.obj τ y))]))
   match Cs E τ id,ρ x with
   |some ([.gL m],e),.Cr υ y n=>cond (Nat.beq m n) (ca υ τ y fun y=>xk H id τ y [.gL m] e K) tY
   |_,_=>tY
  |none=>none
 | .build t ps=>match E.ty t with
  |some (.arr n e)=>qW e H n (partsOf ρ ps) (List.replicate n e.zero) [] [] fun l rd ups=>K (.val (.arr n e) l) rd ups
  |some τ=>cond τ.isAgg (pA τ H (partsOf ρ ps) τ.zero [] [] fun x rd ups=>K (Q7 E (partsOf ρ ps) τ x) rd ups) none
  |none=>none
 | .buildSlice t n ps=>match E.ty t with
  |some (.slice e)=>cond (Nat.ble (n*(e.size+1)) 16777216) (mM H id (.own e []) (qW e H n (partsOf ρ ps) (List.replicate n e.zero) [] [] fun l rd ups=>K (.ref id) (id::rd) (ups++[(id,some (.own e l))]))) none
  |_=>none
 | .load t a=>match E.ty t with
  |some τ=>qv τ (ρ a) H K
  |none=>none
 | .store t a v=>match E.ty t with
  |some τ=>oF E τ (ρ a) (ρ v) H K
  |none=>none
 | .nilCheck x=>match ρ x with
  | .fA id p=>K (.fA id p) [] []
  | .mL τ x=>K (.mL τ x) [] []
  |_=>none
 | .binOp op t x y _=>D9 (ρ x) fun τ x=>D9 (ρ y) fun υ y=>yx (E.ty t) op τ x υ y fun v=>K v [] []
 | .unOp op _ x=>KT op (ρ x) fun v=>K v [] []
 | .convert src dst x=>match E.ty src,E.ty dst with
  |some _,some (.int k)=>qU (ρ x) fun _ n=>K (.val (.int k) (W k n)) [] []
  |_,_=>none
 | .makeFunc (.func f) first caps=>cond first.isEmpty (qX H (caps.toList.map ρ) fun cs rd ups=>K (.D7 f cs) rd ups) none
 | .makeSlice t l c=>match E.ty t with
  |some (.slice e)=>qU (ρ l) fun _ l=>qU (ρ c) fun _ c=>cond (gm l c)
    (mM H id (.own e []) (K (.ref id) [id] [(id,some (.own e (List.replicate l.toNat e.zero)))])) none
  |_=>none
 | .slice t x lo hi mx=>match E.ty t with
  |some τ=>mO τ (lo.isNone&&ix hi&&ix mx) (ρ x) (lo.map ρ) (hi.map ρ) (mx.map ρ) H K
  |none=>none
 | .fieldAddr t x n=>match E.ty t with
  |some τ=>match ρ x with
   | .fA id p=>js id p H fun υ=>jr υ τ (sE τ τ.zero n fun υ' _=>cond (Nat.beq υ'.size 0) none (K (.fA id (p++[.gL n])) [id] []))
   | .mL υ x=>jr υ τ (sE υ x n fun υ y=>cond (Nat.beq υ.size 0) none (K (.mL υ y) [] []))
   |_=>none
  |none=>none
 | .field t x n=>match E.ty t with
  |some τ=>match ρ x with
   | .val υ x=>jr υ τ (sE υ x n fun υ y=>K (.val υ y) [] [])
   |_=>none
  |none=>none
 | .indexAddr t x i=>match E.ty t with
  |some τ=>ep τ (ρ x) (ρ i) H K
  |none=>none
 | .index t x i=>match E.ty t with
  |some τ=>qY τ (ρ x) (ρ i) fun v=>K v [] []
  |none=>none
 | .extract t i=>match ρ t with
  | .tup vs=>match vs[i]? with
   |some v=>K v [] []
   |none=>none
  |_=>none
 | .call c=>match c.callee with
  | .builtin .len=>match c.args.toList,(c.argTypes.toList.head?).bind E.ty with
   |[x],some τ=>Ea τ (ρ x) H K
   |_,_=>none
  | .builtin .append=>match c.args.toList,c.argTypes.toList with
   |[x,y],[t,t']=>match E.ty t with
    |some (.slice e)=>cond (Nat.beq t t') (mM H id (.own e []) (Eb id e (ρ x) (ρ y) H K)) none
    |_=>none
   |_,_=>none
  | .builtin .max=>match c.args.toList with
   |x::r=>QG true (ρ x) (r.map ρ) fun v=>K v [] []
   |_=>none
  | .builtin .min=>match c.args.toList with
   |x::r=>QG false (ρ x) (r.map ρ) fun v=>K v [] []
   |_=>none
  | .value g=>match ρ g with
   | .D7 f caps=>wv E f (c.args.toList.map ρ++caps) id H K
   |_=>none
  |_=>none
 |_=>none
noncomputable def o0(E:Env)(ops:List Oper)(o:Oper)(σ:St)(K:St→List Nat→List Nat→Option α):Option α:=
 let run (σ:St):Option α:=oW E o σ.ρ σ.H fun v rd ups=>K ((σ.qT ups).qG o.dst v) rd (ups.map (·.1))
 cond (D8 E.nt E.io o.dst) (match o.guard with
 |none=>run σ
 |some (j,want)=>match(ops[j]?).bind (·.dst)with
  |none=>none
  |some t=>match σ.T t with
   | .val .bool b=>match want with
    |true=>cond b (run (σ.put t (.val .bool true))) (K ((σ.put t (.val .bool false)).qG o.dst .Ni) [] [])
    |false=>cond b (K ((σ.put t (.val .bool true)).qG o.dst .Ni) [] []) (run (σ.put t (.val .bool false)))
   | .Ni=>K (σ.qG o.dst .Ni) [] []
   |_=>none) none
abbrev Log:=List (Nat×List Nat×List Nat)
noncomputable def KU(E:Env)(ops:List Oper):List Oper→Nat→St→Log→(St→Log→Option α)→Option α
 |[],_,σ,lg,K=>K σ lg
 |o::r,i,σ,lg,K=>o0 E ops o σ fun σ' rd wr=>KU E ops r (i+1) σ' ((i,rd,wr)::lg) K
def oG:List Oper→List Nat→List Nat
 |[],acc=>acc
 |o::r,acc=>oG r (acc++[o.after.toList.foldl (fun s e=>cond (Region.binds .any e) (s|||2^e.on|||acc.getD e.on 0) s) 0])
def names(ops:List Oper)(o:Oper):List Nat:=
 (o.op.operands.toList.filterMap fun| .tmp t=>some t|_=>none)++
 (match o.guard with
  |some (g,_)=>((ops[g]?).bind (·.dst)).toList
  |none=>[])
def meets(a b:List Nat):Bool:=a.any fun x=>b.any fun y=>Nat.beq x y
def Nj(ops:List Oper):Bool:=
 let b:=oG ops []
 (ops.zipIdx.all fun(o,j)=>o.after.toList.all fun e=> !(Region.binds .any e)||Nat.blt e.on j)&&
 ops.zipIdx.all fun(o,j)=>ops.zipIdx.all fun(p,i)=>Nat.ble j i||(b.getD j 0).testBit i||
  !(meets p.dst.toList (o.dst.toList++names ops o)||meets o.dst.toList (names ops p))
def Xb(ops:List Oper)(lg:Log):Bool:=
 let b:=oG ops []
 lg.all fun x=>lg.all fun y=>Nat.ble x.1 y.1||(b.getD x.1 0).testBit y.1||
  !(meets y.2.2 (x.2.1++x.2.2)||meets y.2.1 x.2.2)
noncomputable def xY(E:Env)(ops:Array Oper)(draw:Bool)(σ:St)(K:St→Option α):Option α:=
 KU E ops.toList ops.toList 0 σ [] fun σ' lg=>cond (!draw||(Nj ops.toList&&Xb ops.toList lg)) (K σ') none
def eT:List (Nat×CM)→St→St→(St→Option α)→Option α
 |[],_,acc,K=>K acc
 |(s,.v τ)::r,σ,acc,K=>iF true (σ.T s) σ.H τ fun x _ ups=>eT r (σ.qT ups) (acc.put s (.val τ x)) K
 |(s,.own e)::r,σ,acc,K=>match σ.T s with
  | .emp=>eT r σ ((acc.put s (.ref (16*s+14))).g6 (16*s+14) (some (.own e []))) K
  | .ref id=>match σ.H id with
   |some (.own e' l)=>ca (.slice e') (.slice e) l fun x=>eT r (σ.g6 id (some .gone)) ((acc.put s (.ref (16*s+14))).g6 (16*s+14) (some (.own e x))) K
   |_=>none
  |_=>none
 |(s,.obj τ)::r,σ,acc,K=>match σ.T s with
  | .fA id []=>match σ.H id with
   |some (.obj υ x)=>ca υ τ x fun y=>eT r (σ.g6 id (some .gone)) ((acc.put s (.fA (16*s+14) [])).g6 (16*s+14) (some (.obj τ y))) K
   |some (.dY υ x q j)=>xj j q υ x σ.H fun z ups=>ca υ τ z fun y=>eT r ((σ.qT ups).g6 id (some .gone)) ((acc.put s (.fA (16*s+14) [])).g6 (16*s+14) (some (.obj τ y))) K
   |_=>none
  |_=>none
 |(s,.dY τ q e)::r,σ,acc,K=>match σ.T s with
  | .fA id []=>match σ.H id with
   |some (.dY υ x q' j)=>cond (D6 q q') (match σ.H j with
    |some (.own e' l)=>ca υ τ x fun y=>ca (.slice e') (.slice e) l fun l=>eT r ((σ.g6 j (some .gone)).g6 id (some .gone))
     (((acc.put s (.fA (16*s+14) [])).g6 (16*s+13) (some (.own e l))).g6 (16*s+14) (some (.dY τ y q (16*s+13)))) K
    |_=>none) none
   |_=>none
  |_=>none
 |(s,.same s')::r,σ,acc,K=>match σ.T s,σ.T s',acc.T s' with
  | .ref i,.ref j,.ref j'=>cond (Nat.beq i j) (eT r σ (acc.put s (.ref j')) K) none
  |_,_,_=>none
 |(s,.io τ)::r,σ,acc,K=>match σ.T s with
  | .fA id []=>cond (Nat.beq id (16*s+15)) (match σ.H id with
   |some (.obj υ x)=>ca υ τ x fun y=>eT r (σ.g6 id (some .gone)) ((acc.put s (.fA (16*s+15) [])).g6 (16*s+15) (some (.obj τ y))) K
   |_=>none) none
  |_=>none
 |(s,.fn f τ)::r,σ,acc,K=>match σ.T s with
  | .D7 f' c=>cond (Nat.beq f f') (mN σ.H τ c fun x _ ups=>match ups with
   |[]=>eT r σ (acc.put s (.D7 f (lR τ x))) K
   |_=>none) none
  |_=>none
def gq:List (Nat×CM)→Bool
 |[]=>true
 |q::r=>r.all (fun p=> !(Nat.beq p.1 q.1))&&gq r
def qZ(L:Option (List (Nat×CM)))(σ:St)(K:St→Option α):Option α:=
 match L with
 |none=>K σ
 |some L=>eT L σ ⟨fun _=> .any,fun _=>none⟩ K
def wy(L:Option (List (Nat×CM)))(step:St→(St→Option α)→Option α):Nat→St→Option α
 |0,_=>none
 |n+1,σ=>step σ fun σ'=>qZ L σ' (wy L step n)
def bL:Code→Option Nat
 | .region id _ _=>some id
 | .seq a b=>match bL a with
  |some i=>some i
  |none=>bL b
 | .block _ c| .loop c| .scope c=>bL c
 |_=>none
def Bo(E:Env)(c:Operand)(σ:St)(A B:St→Option α):Option α:=
 match σ.ρ c with
 | .val .bool b=>match c with
  | .tmp t=>cond b (A (σ.put t (.val .bool true))) (B (σ.put t (.val .bool false)))
  |_=>cond b (A σ) (B σ)
 |_=>none
noncomputable def xZ(E:Env)(c:Code):St→(St→Option α)→(Nat→St→Option α)→(St→Option α)→Option α:=
 Code.rec (motive:=fun _=>St→(St→Option α)→(Nat→St→Option α)→(St→Option α)→Option α)
  (fun σ k _ _=>k σ)
  (fun _ ops draw σ k _ _=>xY E ops draw σ k)
  (fun _ b A B σ k kx kr=>A σ (fun σ'=>qZ ((bL b).bind E.sF) σ' fun qI=>B qI k kx kr) kx kr)
  (fun c _ _ A B σ k kx kr=>Bo E c σ (fun σ'=>A σ' k kx kr) (fun σ'=>B σ' k kx kr))
  (fun id _ A σ k kx kr=>A σ k (fun i σ'=>cond (Nat.beq i id) (k σ') (kx i σ')) kr)
  (fun b A σ _ kx kr=>qZ ((bL b).bind E.qV) σ (wy ((bL b).bind E.qV) (fun σ' kn=>A σ' kn kx kr) E.N))
  (fun _ _ _ _ _ _ _ _ _ _=>none)
  (fun id σ _ kx _=>kx id σ)
  (fun _ A σ k kx kr=>A σ k kx kr)
  (fun _ σ k _ _=>k σ)
  (fun _ _ _ _ _=>none)
  (fun σ _ _ kr=>kr σ)
  (fun _ _ _ _ _=>none)
  c
noncomputable def qJ(E:Env):List Nat→Code→List (St→Option α)→St→(St→Option α)→(Nat→St→Option α)→(St→Option α)→Option α
 |[],c,_,σ,k,kx,kr=>xZ E c σ k kx kr
 |n::p,c,ks,σ,k,kx,kr=>match c with
  | .seq a b=>match n with
   |0=>qJ E p a ks σ (fun σ'=>qZ ((bL b).bind E.sF) σ' fun qI=>xZ E b qI k kx kr) kx kr
   |_=>qJ E p b ks σ k kx kr
  | .cond _ a b=>match n with
   |0=>qJ E p a ks σ k kx kr
   |_=>qJ E p b ks σ k kx kr
  | .block id c=>qJ E p c ks σ k (fun i σ'=>cond (Nat.beq i id) (k σ') (kx i σ')) kr
  | .loop b=>match ks with
   |κ::ks=>qJ E p b ks σ κ kx kr
   |[]=>none
  | .scope c=>qJ E p c ks σ k kx kr
  |_=>none
def H6(m:AM)(x:m.den)(i:Nat)(σ:St):St:=
 match m,x with
 | .v τ,x=>σ.put i (.val τ x)
 | .own e,x=>(σ.put i (.ref (16*i+15))).g6 (16*i+15) (some (.own e x))
 | .io τ,x=>(σ.put i (.fA (16*i+15) [])).g6 (16*i+15) (some (.obj τ x))
 | .fn f τ,x=>σ.put i (.D7 f (lR τ x))
 | .ptr _,_=>σ
 | .fA τ,x=>σ.put i (.mL τ x)
def entry:(ms:List AM)→HP ms→Nat→St→St
 |[],_,_,σ=>σ
 |[m],x,i,σ=>H6 m x i σ
 |m::n::ms,x,i,σ=>entry (n::ms) x.2 (i+1) (H6 m x.1 i σ)
def Bp(E:Env)(m:AM)(r:ResultVar ⊕ Nat)(σ:St)(K:m.den→St→Option α):Option α:=
 match m,r,K with
 | .v τ,.inl (.tmp t),K=>iF true (σ.T t) σ.H τ fun x _ ups=>K x (σ.qT ups)
 | .v τ,.inl (.cell a t),K=>match E.ty t with
  |some τ'=>jr τ' τ (g3 (σ.T a) σ.H fun υ y _=>ca υ τ y fun x=>K x σ)
  |none=>none
 | .own e,.inl (.tmp t),K=>match σ.T t with
  | .emp=>K [] σ
  | .ref id=>match σ.H id with
   |some (.own e' l)=>ca (.slice e') (.slice e) l fun x=>K x (σ.g6 id (some .gone))
   |_=>none
  |_=>none
 | .io τ,.inr i,K=>match σ.T i with
  | .fA id []=>match σ.H id with
   |some (.obj υ x)=>ca υ τ x fun y=>K y (σ.g6 id (some .gone))
   |_=>none
  |_=>none
 | .ptr τ,.inl (.tmp t),K=>match σ.T t with
  | .fA id []=>match σ.H id with
   |some (.obj υ x)=>ca υ τ x fun y=>K y (σ.g6 id (some .gone))
   |_=>none
  |_=>none
 |_,_,_=>none
def Cu(E:Env):(ms:List AM)→List (ResultVar ⊕ Nat)→St→(HP ms→Option α)→Option α
 |[],[],_,K=>K ()
 |[m],[r],σ,K=>Bp E m r σ fun x _=>K x
 |m::n::ms,r::rs,σ,K=>Bp E m r σ fun x σ'=>Cu E (n::ms) rs σ' fun xs=>K (x,xs)
 |_,_,_,_=>none
def vB:List AM→Nat→List (ResultVar ⊕ Nat)
 |[],_=>[]
 | .io _::ms,i=> .inr i::vB ms (i+1)
 |_::ms,i=>vB ms (i+1)
noncomputable def Ef(E:Env)(fn:Func)(args res:List AM)(x:HP args):Option (HP res):=
 match fn.body with
 |none=>none
 |some c=>
  let kr:St→Option (HP res):=fun σ=>Cu E res (fn.results.toList.map .inl++vB args 0) σ some
  xZ E c (entry args x 0 ⟨fun _=> .any,fun _=>none⟩) kr (fun _ _=>none) kr
end
end VM
end
section
namespace VM
open Go
noncomputable def sU(N:Nat)(x y c:Int):Option (Int×Int):=if 0≤x∧0≤y∧0≤c∧c≤1 then some ((x+y+c)%18446744073709551616,(x+y+c)/18446744073709551616)else none
noncomputable def Eg(N:Nat)(x y c:Int):Option (Int×Int):=if 0≤x∧x<18446744073709551616∧0≤y∧y<18446744073709551616∧0≤c∧c≤1 then some ((x+18446744073709551616-y-c)%18446744073709551616,if x<y+c then 1 else 0)else none
noncomputable def lZ{α:Type}(N:Nat)(l:List α)(i:Int)(v:List α):Option (List α):=if 0≤i∧i≤l.length∧v.length=1∧l.length+1<uh then some (l.take i.toNat++(v++l.drop i.toNat))else none
noncomputable def Q8{α:Type}(N:Nat)(l:List α)(n:Int):Option (List α):=match l with
 |[x]=>if 0<n∧n<1048576 then some (List.replicate n.toNat x)else none
 |_=>none
noncomputable def sU.S(N:Nat):ia:={args:=[.v (.int .u64),.v (.int .u64),.v (.int .u64)],res:=[.v (.int .u64),.v (.int .u64)],quiet:=true,run:=fun x=>sU N x.1 x.2.1 x.2.2}
noncomputable def Eg.S(N:Nat):ia:={args:=[.v (.int .u64),.v (.int .u64),.v (.int .u64)],res:=[.v (.int .u64),.v (.int .u64)],quiet:=true,run:=fun x=>Eg N x.1 x.2.1 x.2.2}
noncomputable def iy(e:Ty)(N:Nat):ia:={args:=[.own e,.v (.int .i64),.own e],res:=[.own e],quiet:=false,run:=fun x=>lZ N x.1 x.2.1 x.2.2}
noncomputable def aik(e:Ty)(N:Nat):ia:={args:=[.v (.slice e),.v (.int .i64)],res:=[.own e],quiet:=false,run:=fun x=>Q8 N x.1 x.2}
noncomputable def iI{α:Type}(N:Nat)(l:List α):Option (List α):=if l.length<uh then some l else none
noncomputable def oH(e:Ty)(N:Nat):ia:={args:=[.v (.slice e)],res:=[.own e],quiet:=false,run:=fun x=>iI N x}
end VM
namespace VM
abbrev bR:Int×Int×Unit:=((0:Int),((0:Int),()))
abbrev aS:List (Int×Int×Unit):=[]
abbrev aZ:Int×Int×Int×Unit:=((0:Int),((0:Int),((0:Int),())))
abbrev ba:List (Int×Int×Int×Unit):=[]
abbrev aC:Int×Int×Int×Int×Unit:=((0:Int),((0:Int),((0:Int),((0:Int),()))))
abbrev cj:List (Int×Int×Int×Int×Unit):=[]
abbrev j1:Int×Int×Int×Int×Int×Unit:=((0:Int),((0:Int),((0:Int),((0:Int),((0:Int),())))))
abbrev xl:List (Int×Int×Int×Int×Int×Unit):=[]
abbrev eD:Int×Int×Int×Int×Int×Int×Unit:=((0:Int),((0:Int),((0:Int),((0:Int),((0:Int),((0:Int),()))))))
abbrev cL:List (Int×Int×Int×Int×Int×Int×Unit):=[]
abbrev Xc:Int×Int×Int×Int×Int×Int×Int×Unit:=((0:Int),((0:Int),((0:Int),((0:Int),((0:Int),((0:Int),((0:Int),())))))))
abbrev ee7:List (Int×Int×Int×Int×Int×Int×Int×Unit):=[]
abbrev zz8:Int×Int×Int×Int×Int×Int×Int×Int×Unit:=((0:Int),((0:Int),((0:Int),((0:Int),((0:Int),((0:Int),((0:Int),((0:Int),()))))))))
abbrev ee8:List (Int×Int×Int×Int×Int×Int×Int×Int×Unit):=[]
abbrev cI:List Int:=[]
abbrev lS:List Int×Unit:=(cI,())
end VM
end
section
namespace VM
open Go
def At(w:World)(b off:Nat)(cs:List Value):Prop:= ∀j v,cs[j]? =some v→w.cell? ⟨b,off+j,none⟩=some v
def Rd(w:World)(M:Nat→Prop):(τ:Ty)→List Value→τ.den→Prop
 | .int k,cs,x=>cs=[.int k x]
 | .bool,cs,x=>cs=[.bool x]
 | .str,cs,x=>cs=[.string x]
 | .slice e,cs,x=> ∃a cap,cs=[.slice a (List.length x) cap]∧List.length x≤cap∧
  ∀i (h:i<List.length x),∃b off,a=some ⟨b,off,none⟩∧b<w.heap.size∧ ¬M b∧ ∃cs',At w b (off+i*e.size) cs'∧Rd w M e cs' (List.get x ⟨i,h⟩)
 | .unit,cs,_=>cs=[]
 | .pair a b,cs,x=> ∃c1 c2,cs=c1++c2∧Rd w M a c1 x.1∧Rd w M b c2 x.2
 | .arr n e,cs,x=>List.length x=n∧ ∃KV:List (List Value),KV.length=n∧cs=KV.flatten∧
  ∀i (h:i<List.length x) (h':i<KV.length),Rd w M e KV[i] (List.get x ⟨i,h⟩)
theorem kP{α:Type}(n:Nat): ∀(l:List (List α)),(∀i (h:i<l.length),l[i].length=n)→l.flatten.length=l.length*n
 |[],_=>by simp
 |a::l,h=>by
  have h0:=h 0 (by simp)
  have ih:=kP n l (fun i hi=>h (i+1) (by simp;omega))
  simp only[awh]at h0
  simp only[awi,atJ,atN,ih,h0,auE]
  omega
theorem Rd.length{w:World}{M:Nat→Prop}: ∀{τ:Ty} {cs:List Value} {x:τ.den},Rd w M τ cs x→cs.length=τ.size
 | .int _,_,_,h=>by simp only[Rd]at h;subst h;rfl
 | .bool,_,_,h=>by simp only[Rd]at h;subst h;rfl
 | .str,_,_,h=>by simp only[Rd]at h;subst h;rfl
 | .slice _,_,_,h=>by simp only[Rd]at h;obtain⟨a,cap,rfl,_⟩:=h;rfl
 | .unit,_,_,h=>by simp only[Rd]at h;subst h;rfl
 | .pair a b,_,_,h=>by
  simp only[Rd]at h
  obtain⟨c1,c2,rfl,h1,h2⟩:=h
  rw[atJ,h1.length,h2.length];rfl
 | .arr n e,_,x,h=>by
  simp only[Rd]at h
  obtain⟨hn,KV,hc,rfl,hr⟩:=h
  rw[kP e.size KV (fun i hi=>(hr i (by omega) hi).length),hc];rfl
structure dh(w:World)(M:Nat→Prop)(w':World)(M':Nat→Prop):Prop where
 size:w.heap.size≤w'.heap.size
 block: ∀b,b<w.heap.size→ ¬M b→w'.heap[b]? =w.heap[b]?
 less: ∀b,b<w.heap.size→M' b→M b
theorem Yo{w:World}{b o:Nat}{v:Value}(h:w.cell? ⟨b,o,none⟩=some v):b<w.heap.size:=by
 simp only[World.cell?]at h
 rcases awj b w.heap.size with hb|hb
 ·exact hb
 ·simp[awO hb]at h
theorem At.bp{w w':World}{b off:Nat}{cs:List Value}(h:At w b off cs)(hb:w'.heap[b]? =w.heap[b]?):At w' b off cs:=by
 intro j v hj
 have:=h j v hj
 rw[World.cell?_of_block (w:=w) hb]
 exact this
theorem At.append{w:World}{b off:Nat}{c1 c2:List Value}:At w b off (c1++c2)↔At w b off c1∧At w b (off+c1.length) c2:=by
 constructor
 ·intro h
  refine⟨fun j v hj=>h j v (by rw[auR];exact hj;exact(auX.1 hj).1),fun j v hj=> ?_⟩
  have:=h (c1.length+j) v (by rw[auI (by omega)];simpa using hj)
  rw[avA];exact this
 ·rintro⟨h1,h2⟩ j v hj
  by_cases dZ:j<c1.length
  ·rw[auR dZ]at hj;exact h1 j v hj
  ·rw[auI (by omega)]at hj
   have:=h2 (j-c1.length) v hj
   rwa [show off+c1.length+(j-c1.length)=off+j from by omega]at this
theorem Rd.bp{w w':World}{M M':Nat→Prop}(k:dh w M w' M'): ∀{τ:Ty} {cs:List Value} {x:τ.den},Rd w M τ cs x→Rd w' M' τ cs x
 | .int _,_,_,h=>h
 | .bool,_,_,h=>h
 | .str,_,_,h=>h
 | .slice e,_,x,h=>by
  simp only[Rd]at h ⊢
  obtain⟨a,cap,rfl,hc,hr⟩:=h
  refine⟨a,cap,rfl,hc,fun i hi=> ?_⟩
  obtain⟨b,off,ha,hb,hm,cs',ma,g4⟩:=hr i hi
  exact⟨b,off,ha,auU hb k.size,fun h'=>hm (k.less b hb h'),_,ma.bp (k.block b hb hm),g4.bp k⟩
 | .unit,_,_,h=>h
 | .pair a b,_,_,h=>by
  simp only[Rd]at h ⊢
  obtain⟨c1,c2,rfl,h1,h2⟩:=h
  exact⟨c1,c2,rfl,h1.bp k,h2.bp k⟩
 | .arr n e,_,x,h=>by
  simp only[Rd]at h ⊢
  obtain⟨hn,KV,hc,rfl,hr⟩:=h
  exact⟨hn,KV,hc,rfl,fun i hi kQ=>(hr i hi kQ).bp k⟩
theorem dh.refl(w:World)(M:Nat→Prop):dh w M w M:=⟨atP _,fun _ _ _=>rfl,fun _ _ h=>h⟩
theorem dh.trans{w w' w'':World}{M M' HF:Nat→Prop}(h:dh w M w' M')(k:dh w' M' w'' HF):dh w M w'' HF:=
 ⟨aut h.size k.size,fun b hb hm=>(k.block b (auU hb h.size) (fun h'=>hm (h.less b hb h'))).trans (h.block b hb hm),
  fun b hb hm=>h.less b hb (k.less b (auU hb h.size) hm)⟩
def V(w:World)(M:Nat→Prop)(τ:Ty)(v:Value)(x:τ.den):Prop:=
 if τ.isAgg then ∃cs,v= .agg cs∧Rd w M τ cs.toList x else Rd w M τ [v] x
theorem V.bp{w w':World}{M M':Nat→Prop}(k:dh w M w' M'){τ:Ty}{v:Value}{x:τ.den}(h:V w M τ v x):V w' M' τ v x:=by
 unfold V at*
 split
 ·rename_i ha;rw[atK ha]at h;obtain⟨cs,rfl,h⟩:=h;exact⟨cs,rfl,h.bp k⟩
 ·rename_i ha;rw[atL ha]at h;exact h.bp k
theorem Rd.scalar{w:World}{M:Nat→Prop}{τ:Ty}{cs:List Value}{x:τ.den}(ha:τ.isAgg=false)(h:Rd w M τ cs x): ∃v,cs=[v]∧v.cells= #[v]:=by
 cases τ<;>simp only[Ty.isAgg,Bool.true_eq_false]at ha<;>simp only[Rd]at h
 ·exact⟨_,h,rfl⟩
 ·exact⟨_,h,rfl⟩
 ·exact⟨_,h,rfl⟩
 ·obtain⟨a,cap,rfl,_⟩:=h;exact⟨_,rfl,rfl⟩
theorem V.cells{w:World}{M:Nat→Prop}{τ:Ty}{v:Value}{x:τ.den}(h:V w M τ v x):Rd w M τ v.cells.toList x:=by
 unfold V at h
 by_cases ha:τ.isAgg=true
 ·rw[atK ha]at h;obtain⟨cs,rfl,h⟩:=h;exact h
 ·rw[atL ha]at h
  obtain⟨v',hv,hc⟩:=h.scalar (by simpa using ha)
  simp only[auv,au3]at hv
  subst hv
  rw[hc];exact h
def bK(τ:Ty)(cs:List Value):Value:=if τ.isAgg then .agg cs.toArray else cs.headD (.tuple #[])
theorem V.bK{w:World}{M:Nat→Prop}{τ:Ty}{cs:List Value}{x:τ.den}(h:Rd w M τ cs x):V w M τ (bK τ cs) x:=by
 unfold V VM.bK
 by_cases ha:τ.isAgg=true
 ·rw[atK ha,atK ha];exact⟨_,rfl,by simpa using h⟩
 ·rw[atL ha,atL ha]
  obtain⟨v',rfl,_⟩:=h.scalar (by simpa using ha)
  exact h
theorem AK{w:World}{M:Nat→Prop}{τ:Ty}{cs:List Value}{x:τ.den}(h:Rd w M τ cs x):(bK τ cs).cells.toList=cs:=by
 unfold VM.bK
 by_cases ha:τ.isAgg=true
 ·rw[atK ha];simp[Value.cells]
 ·rw[atL ha]
  obtain⟨v',rfl,hc⟩:=h.scalar (by simpa using ha)
  simp[hc]
theorem Rd.kG{w:World}{M:Nat→Prop}: ∀{τ:Ty} {cs:List Value} {x:τ.den},Rd w M τ cs x→ ∀v∈cs,v.oneCell'=true
 | .int _,_,_,h=>by simp only[Rd]at h;subst h;simp[Value.oneCell']
 | .bool,_,_,h=>by simp only[Rd]at h;subst h;simp[Value.oneCell']
 | .str,_,_,h=>by simp only[Rd]at h;subst h;simp[Value.oneCell']
 | .slice _,_,_,h=>by simp only[Rd]at h;obtain⟨a,cap,rfl,_⟩:=h;simp[Value.oneCell']
 | .unit,_,_,h=>by simp only[Rd]at h;subst h;simp
 | .pair a b,_,_,h=>by
  simp only[Rd]at h
  obtain⟨c1,c2,rfl,h1,h2⟩:=h
  intro v hv
  rcases atU.1 hv with hv|hv
  ·exact h1.kG v hv
  ·exact h2.kG v hv
 | .arr n e,_,x,h=>by
  simp only[Rd]at h
  obtain⟨hn,KV,hc,rfl,hr⟩:=h
  intro v hv
  obtain⟨l,hl,hvl⟩:=List.mem_flatten.1 hv
  obtain⟨i,hi,rfl⟩:=au4.1 hl
  exact(hr i (by omega) hi).kG v hvl
def Ty.cf:Ty→List Value
 | .int k=>[.int k 0]
 | .bool=>[.bool false]
 | .str=>[.string ByteArray.empty]
 | .slice _=>[.slice none 0 0]
 | .unit=>[]
 | .pair a b=>a.cf++b.cf
 | .arr n e=>(List.replicate n e.cf).flatten
theorem Rd.zero(w:World)(M:Nat→Prop): ∀(τ:Ty),Rd w M τ τ.cf τ.zero
 | .int _| .bool| .str| .unit=>by simp[Rd,Ty.cf,Ty.zero]
 | .slice _=>by
  simp only[Rd,Ty.cf,Ty.zero]
  exact⟨none,0,rfl,atP _,fun i h=>absurd h (by simp)⟩
 | .pair a b=>by
  simp only[Rd,Ty.cf,Ty.zero]
  exact⟨_,_,rfl,Rd.zero w M a,Rd.zero w M b⟩
 | .arr n e=>by
  simp only[Rd,Ty.cf,Ty.zero]
  refine⟨by simp,_,by simp,rfl,fun i h h'=> ?_⟩
  simp only[awP,awv]
  exact Rd.zero w M e
end VM
end
section
namespace VM
open Go
def Cv(P:Program)(τ:Ty)(t:TypeId):Prop:=
 ∃i,P.info? t=some i∧i.size=τ.size∧i.zero=some (bK τ τ.cf)∧i.bytes≤2048
def dH(P:Program):Ty→TypeId ⊕ (Array Field×Nat×Nat)→Prop
 | .int k,.inl t=>Cv P (.int k) t∧P.underlying t=some (.int k)
 | .bool,.inl t=>Cv P .bool t∧P.underlying t=some .bool
 | .str,.inl t=>Cv P .str t∧P.underlying t=some .string
 | .slice e,.inl t=>Cv P (.slice e) t∧ ∃e',P.underlying t=some (.slice e')∧dH P e (.inl e')
 | .arr n e,.inl t=>Cv P (.arr n e) t∧ ∃e',P.underlying t=some (.array n e')∧dH P e (.inl e')
 | .unit,.inl t=>Cv P .unit t∧ ∃fs,P.underlying t=some (.struct fs)∧fs.size=0
 | .unit,.inr (fs,n,_)=>fs.size=n
 | .pair a b,.inl t=>Cv P (.pair a b) t∧ ∃fs f,P.underlying t=some (.struct fs)∧fs[0]? =some f∧f.offset=0∧dH P a (.inl f.type)∧dH P b (.inr (fs,1,a.size))
 | .pair a b,.inr (fs,n,off)=> ∃f,fs[n]? =some f∧f.offset=off∧dH P a (.inl f.type)∧dH P b (.inr (fs,n+1,off+a.size))
 |_,.inr _=>False
def gM(P:Program)(τ:Ty)(t:TypeId):Prop:=dH P τ (.inl t)
theorem gM.base{P:Program}{τ:Ty}{t:TypeId}(h:gM P τ t):Cv P τ t:=by
 unfold gM at h;cases τ<;>simp only[dH]at h<;>exact h.1
theorem gM.int{P:Program}{k:IntKind}{t:TypeId}(h:gM P (.int k) t):P.underlying t=some (.int k):=by simp only[gM,dH]at h;exact h.2
theorem gM.bool{P:Program}{t:TypeId}(h:gM P .bool t):P.underlying t=some .bool:=by simp only[gM,dH]at h;exact h.2
theorem gM.str{P:Program}{t:TypeId}(h:gM P .str t):P.underlying t=some .string:=by simp only[gM,dH]at h;exact h.2
theorem gM.slice{P:Program}{e:Ty}{t:TypeId}(h:gM P (.slice e) t): ∃e',P.underlying t=some (.slice e')∧gM P e e':=by simp only[gM,dH]at h;exact h.2
theorem gM.arr{P:Program}{n:Nat}{e:Ty}{t:TypeId}(h:gM P (.arr n e) t): ∃e',P.underlying t=some (.array n e')∧gM P e e':=by simp only[gM,dH]at h;exact h.2
theorem gM.isSome{P:Program}{τ:Ty}{t:TypeId}(h:gM P τ t):(P.underlying t).isSome=true:=by
 unfold gM at h
 cases τ<;>simp only[dH]at h
 ·simp[h.2]
 ·simp[h.2]
 ·simp[h.2]
 ·obtain⟨_,e',h',_⟩:=h;simp[h']
 ·obtain⟨_,e',h',_⟩:=h;simp[h']
 ·obtain⟨_,e',f,h',_⟩:=h;simp[h']
 ·obtain⟨_,e',h',_⟩:=h;simp[h']
inductive xm:(τ:Ty)→τ.den→Nat→(υ:Ty)→υ.den→Nat→Prop where
 |here {a b:Ty} (x:(Ty.pair a b).den):xm (.pair a b) x 0 a x.1 0
 |there {a b:Ty} (x:(Ty.pair a b).den) {n:Nat} {υ:Ty} {y:υ.den} {o:Nat} (h:xm b x.2 n υ y o):xm (.pair a b) x (n+1) υ y (a.size+o)
theorem o3{α:Type}{r:α}: ∀{τ:Ty} {x:τ.den} {n:Nat} {k:(υ:Ty)→υ.den→Option α},sE τ x n k=some r→ ∃υ y o,xm τ x n υ y o∧k υ y=some r
 | .pair a b,x,0,k,h=>⟨a,x.1,0,.here x,h⟩
 | .pair a b,x,n+1,k,h=>by
  obtain⟨υ,y,o,hf,hk⟩:=o3 (τ:=b) (x:=x.2) (n:=n) (k:=k) h
  exact⟨υ,y,_,.there x hf,hk⟩
 | .int _,_,_,_,h| .bool,_,_,_,h| .str,_,_,_,h| .slice _,_,_,_,h| .unit,_,_,_,h| .arr _ _,_,_,_,h=>by simp[sE]at h
theorem xm.bound{τ:Ty}{x:τ.den}{n:Nat}{υ:Ty}{y:υ.den}{o:Nat}(h:xm τ x n υ y o):o+υ.size≤τ.size:=by
 induction h with
 |here x=>simp[Ty.size]
 |there x h ih=>simp only[Ty.size];omega
theorem xm.rd{w:World}{M:Nat→Prop}{τ:Ty}{x:τ.den}{n:Nat}{υ:Ty}{y:υ.den}{o:Nat}(h:xm τ x n υ y o):
  ∀{cs:List Value},Rd w M τ cs x→Rd w M υ ((cs.drop o).take υ.size) y:=by
 induction h with
 |here x=>
  intro cs hr
  simp only[Rd]at hr
  obtain⟨c1,c2,rfl,h1,_⟩:=hr
  rw[aui,av7 h1.length];exact h1
 |there x h ih=>
  intro cs hr
  simp only[Rd]at hr
  obtain⟨c1,c2,rfl,h1,h2⟩:=hr
  rw[←auV,avc h1.length]
  exact ih h2
theorem dH.gL{P:Program}{τ:Ty}{x:τ.den}{m:Nat}{υ:Ty}{y:υ.den}{o:Nat}(h:xm τ x m υ y o):
  ∀{fs:Array Field} {n off:Nat},dH P τ (.inr (fs,n,off))→ ∃f,fs[n+m]? =some f∧f.offset=off+o∧gM P υ f.type:=by
 induction h with
 |here x=>
  intro fs n off hl
  simp only[dH]at hl
  obtain⟨f,hf,ho,ha,_⟩:=hl
  exact⟨f,hf,by simpa using ho,ha⟩
 |there x h ih=>
  intro fs n off hl
  simp only[dH]at hl
  obtain⟨f,hf,ho,_,hb⟩:=hl
  obtain⟨f',xn,ho',DV⟩:=ih hb
  exact⟨f',by rw[←xn];congr 1;omega,by omega,DV⟩
theorem gM.gL{P:Program}{τ:Ty}{t:TypeId}{x:τ.den}{m:Nat}{υ:Ty}{y:υ.den}{o:Nat}(hl:gM P τ t)(h:xm τ x m υ y o):
  ∃fs f,P.underlying t=some (.struct fs)∧fs[m]? =some f∧f.offset=o∧gM P υ f.type:=by
 unfold gM at hl
 cases h with
 |here x=>
  simp only[dH]at hl
  obtain⟨_,fs,f,hu,hf,ho,ha,_⟩:=hl
  exact⟨fs,f,hu,hf,ho,ha⟩
 |there x h=>
  simp only[dH]at hl
  obtain⟨_,fs,f,hu,hf,ho,_,hb⟩:=hl
  obtain⟨f',xn,ho',DV⟩:=dH.gL h hb
  exact⟨fs,f',hu,by rw[←xn];congr 1;omega,by omega,DV⟩
inductive Cw:List Step→(τ:Ty)→τ.den→(υ:Ty)→υ.den→Nat→Prop where
 |nil {τ:Ty} (x:τ.den):Cw [] τ x τ x 0
 |gL {p:List Step} {τ υ σ:Ty} {x:τ.den} {n o:Nat} {y:υ.den} {z:σ.den} {q:Nat} (h:xm τ x n υ y o) (r:Cw p υ y σ z q):Cw (.gL n::p) τ x σ z (o+q)
 |idx {p:List Step} {n:Nat} {e σ:Ty} {x:(Ty.arr n e).den} {i:Nat} {z:σ.den} {q:Nat} (r:Cw p e (List.getD x i e.zero) σ z q):Cw (.idx i::p) (.arr n e) x σ z (i*e.size+q)
theorem gr{α:Type}{r:α}: ∀{p:List Step} {τ:Ty} {x:τ.den} {k:(υ:Ty)→υ.den→Option α},uj p τ x k=some r→ ∃υ y o,Cw p τ x υ y o∧k υ y=some r
 |[],τ,x,k,h=>⟨τ,x,0,.nil x,h⟩
 | .gL n::p,τ,x,k,h=>by
  obtain⟨υ,y,o,hf,h'⟩:=o3 (h:sE τ x n _=some r)
  obtain⟨σ,z,q,hp,hk⟩:=gr h'
  exact⟨σ,z,_,.gL hf hp,hk⟩
 | .idx i::p,τ,x,k,h=>by
  cases τ with
  |arr n e=>
   obtain⟨σ,z,q,hp,hk⟩:=gr (p:=p) (τ:=e) (x:=List.getD x i e.zero) (k:=k) h
   exact⟨σ,z,_,.idx hp,hk⟩
  |_=>simp[uj,Yn]at h
def qK:Ty→Nat→Ty
 | .pair a b,n=>match n with|0=>a|n+1=>qK b n
 |τ,_=>τ
def nF:Ty→Nat→Nat
 | .pair a b,n=>match n with|0=>0|n+1=>a.size+nF b n
 |_,_=>0
def Yp:Ty→Ty
 | .arr _ e=>e
 |τ=>τ
def AL:List Step→Ty→Ty
 |[],τ=>τ
 | .gL n::p,τ=>AL p (qK τ n)
 | .idx _::p,τ=>AL p (Yp τ)
def bD:List Step→Ty→Nat
 |[],_=>0
 | .gL n::p,τ=>nF τ n+bD p (qK τ n)
 | .idx i::p,τ=>i*(Yp τ).size+bD p (Yp τ)
def sG:List Step→Ty→Prop
 |[],_=>True
 | .gL n::p,τ=>sG p (qK τ n)
 | .idx i::p,τ=>(∃n e,τ= .arr n e∧i<n)∧sG p (Yp τ)
theorem xm.eq{τ:Ty}{x:τ.den}{n:Nat}{υ:Ty}{y:υ.den}{o:Nat}(h:xm τ x n υ y o):υ=qK τ n∧o=nF τ n:=by
 induction h with
 |here x=>exact⟨rfl,rfl⟩
 |there x h ih=>obtain⟨rfl,rfl⟩:=ih;exact⟨rfl,rfl⟩
theorem Cw.eq{p:List Step}{τ:Ty}{x:τ.den}{υ:Ty}{y:υ.den}{o:Nat}(h:Cw p τ x υ y o):υ=AL p τ∧o=bD p τ:=by
 induction h with
 |nil x=>exact⟨rfl,rfl⟩
 |gL h r ih=>
  obtain⟨h1,h2⟩:=h.eq
  obtain⟨h3,h4⟩:=ih
  subst h1 h2 h3 h4
  exact⟨rfl,rfl⟩
 |idx r ih=>
  obtain⟨h3,h4⟩:=ih
  subst h3 h4
  exact⟨rfl,rfl⟩
theorem Yq(p q:List Step): ∀τ,AL (p++q) τ=AL q (AL p τ):=by
 induction p with
 |nil=>intro τ;rfl
 |cons s p ih=>intro τ;cases s<;>simp[AL,ih]
theorem nU(p q:List Step): ∀τ,bD (p++q) τ=bD p τ+bD q (AL p τ):=by
 induction p with
 |nil=>intro τ;simp[bD,AL]
 |cons s p ih=>intro τ;cases s<;>simp[bD,AL,ih,avA]
theorem nV(p q:List Step): ∀τ,sG (p++q) τ↔sG p τ∧sG q (AL p τ):=by
 induction p with
 |nil=>intro τ;simp[sG,AL]
 |cons s p ih=>intro τ;cases s<;>simp[sG,AL,ih,and_assoc]
theorem gN{α:Type}(l:List α)(i:Nat)(d:α)(h:i<l.length):l.getD i d=l[i]:=by simp[List.getD,atI h]
theorem uk{α:Type}(n:Nat): ∀(l:List (List α)) (i:Nat) (h:i<l.length),(∀j (hj:j<l.length),l[j].length=n)→(l.flatten.drop (i*n)).take n=l[i]
 |a::l,0,_,hn=>by
  have:=hn 0 (by simp)
  simp only[awh]at this
  simp[←this]
 |a::l,i+1,h,hn=>by
  have h0:=hn 0 (by simp)
  simp only[awh]at h0
  rw[awi,auE,avt,Nat.add_comm (i*n) n,←auV,avc h0]
  exact uk n l i (by simpa using h) (fun j hj=>hn (j+1) (by simp;omega))
theorem Rd.idx{w:World}{M:Nat→Prop}{n:Nat}{e:Ty}{cs:List Value}{x:(Ty.arr n e).den}(h:Rd w M (.arr n e) cs x){i:Nat}(hi:i<n):
  Rd w M e ((cs.drop (i*e.size)).take e.size) (List.getD x i e.zero):=by
 simp only[Rd]at h
 obtain⟨hn,KV,hc,rfl,hr⟩:=h
 rw[uk e.size KV i (by omega) (fun j hj=>(hr j (by omega) hj).length),gN x i e.zero (by omega)]
 exact hr i (by omega) (by omega)
theorem Cw.bound{p:List Step}{τ:Ty}{x:τ.den}{υ:Ty}{y:υ.den}{o:Nat}(h:Cw p τ x υ y o):sG p τ→o+υ.size≤τ.size:=by
 induction h with
 |nil x=>intro _;simp
 |gL h r ih=>
  intro hi
  obtain⟨h1,h2⟩:=h.eq
  subst h1
  have:=ih hi
  have:=h.bound
  omega
 | @idx p n e σ x i z q r ih=>
  intro hi
  obtain⟨⟨n',e',he,jN⟩,kQ⟩:=hi
  cases he
  have:=ih kQ
  have h2:(i+1)*e.size≤n*e.size:=auJ _ jN
  rw[auE]at h2
  simp only[Ty.size]
  omega
theorem Cw.rd{w:World}{M:Nat→Prop}{p:List Step}{τ:Ty}{x:τ.den}{υ:Ty}{y:υ.den}{o:Nat}(h:Cw p τ x υ y o):
  sG p τ→ ∀{cs:List Value},Rd w M τ cs x→Rd w M υ ((cs.drop o).take υ.size) y:=by
 induction h with
 |nil x=>intro _ cs hr;rw[aui,aur (by rw[hr.length];exact atP _)];exact hr
 |gL h r ih=>
  intro hi cs hr
  obtain⟨h1,h2⟩:=h.eq
  subst h1
  have:=ih hi (h.rd hr)
  have hb:=Cw.bound r hi
  rw[avE,auV,avF,auL (by omega)]at this
  exact this
 | @idx p n e σ x i z q r ih=>
  intro hi cs hr
  obtain⟨⟨n',e',he,jN⟩,kQ⟩:=hi
  cases he
  have:=ih kQ (hr.idx jN)
  have hb:=Cw.bound r kQ
  rw[avE,auV,avF,auL (by omega)]at this
  exact this
def di{α:Type}(cs:List α)(o:Nat)(new:List α):List α:=cs.take o++new++cs.drop (o+new.length)
theorem um{α:Type}{a b:List α}{o:Nat}{new:List α}(h:o+new.length≤a.length):di (a++b) o new=di a o new++b:=by
 unfold di
 rw[avn (by omega),avo (by omega)]
 simp only[atV]
theorem rY{α:Type}{a b:List α}{o:Nat}{new:List α}:di (a++b) (a.length+o) new=a++di b o new:=by
 unfold di
 rw[List.take_append,aur (by omega),avG,avA,List.drop_append,auw (by omega),avG]
 simp
theorem et{α:Type}{a:List α}{o:Nat}{new:List α}(h:o+new.length≤a.length):(di a o new).length=a.length:=by
 unfold di;simp;omega
theorem Cx{α:Type}{a:List α}{o i n:Nat}{new:List α}(h:i+n≤o∨o+new.length≤i)(hl:o+new.length≤a.length):((di a o new).drop i).take n=(a.drop i).take n:=by
 apply awk
 intro j
 simp only[auN,auO]
 split
 ·rename_i hj
  unfold di
  rcases h with h|h
  ·rw[atV,auR (by simp;omega),auN,atK (by omega)]
  ·rw[auI (by simp;omega)]
   simp only[atJ,at4,auL (show o≤a.length by omega),auO]
   congr 1;omega
 ·rfl
theorem Yr{α:Type}{a:List α}{o:Nat}{new:List α}(hl:o+new.length≤a.length):((di a o new).drop o).take new.length=new:=by
 unfold di
 rw[atV,avc (by simp;omega),av7 rfl]
theorem Eh{α:Type}{l:List α}{o:Nat}{u:α}(h:l[o]? =some u):di l o [u]=l:=by
 obtain⟨dZ,rfl⟩:=auX.1 h
 unfold di
 simp
theorem ya{α:Type}{l:List α}{o:Nat}{u:α}(h:o<l.length):(di l o [u])[o]? =some u:=by
 unfold di
 rw[atV,auI (by simp;omega)]
 simp[auL (Nat.le_of_lt h)]
theorem o4{τ:Ty}: ∀{n:Nat} {a:Ty},Cq τ n=some a→ ∀x:τ.den,∃y o,xm τ x n a y o:=by
 induction τ with
 |pair a b _ Nk=>
  intro n c h x
  cases n with
  |zero=>cases h;exact⟨_,_,.here x⟩
  |succ n=>
   obtain⟨y,o,hf⟩:=Nk (n:=n) (a:=c) h x.2
   exact⟨y,_,.there x hf⟩
 |_=>intro n c h;simp[Cq]at h
theorem o5: ∀{p:List Step} {τ υ:Ty},eC p τ υ=true→ ∀x:τ.den,∃y o,Cw p τ x υ y o
 |[],τ,υ,h,x=>by
  have h:=atY h
  subst h
  exact⟨x,0,.nil x⟩
 | .gL n::p,τ,υ,h,x=>by
  unfold eC at h
  split at h
  ·rename_i a ha
   obtain⟨y,o,hf⟩:=o4 ha x
   obtain⟨z,q,hp⟩:=o5 h y
   exact⟨z,_,.gL hf hp⟩
  ·cases h
 | .idx _::_,_,_,h,_=>by simp[eC]at h
theorem gO: ∀{p:List Step} {τ υ:Ty},eC p τ υ=true→sG p τ∧AL p τ=υ
 |[],τ,υ,h=>⟨trivial,atY h⟩
 | .gL n::p,τ,υ,h=>by
  have h0:=h
  unfold eC at h
  split at h
  ·rename_i a ha
   obtain⟨y,o,hf⟩:=o4 ha τ.zero
   obtain⟨h1,h2⟩:=gO h
   have:=hf.eq.1
   subst this
   exact⟨h1,h2⟩
  ·cases h
 | .idx _::_,_,_,h=>by simp[eC]at h
theorem vC: ∀{p q:List Step},D6 p q=true→p=q
 |[],[],_=>rfl
 | .gL a::p,.gL b::q,h=>by
  simp only[D6,atW]at h
  rw[auj h.1,vC h.2]
 |[],_::_,h| .gL _::_,[],h| .idx _::_,_,h| .gL _::_,.idx _::_,h=>by simp[D6]at h
theorem xm.apart{τ:Ty}{x:τ.den}{n:Nat}{υ:Ty}{y:υ.den}{o:Nat}(h:xm τ x n υ y o): ∀{x':τ.den} {n':Nat} {υ':Ty} {y':υ'.den} {o':Nat},xm τ x' n' υ' y' o'→n≠n'→o+υ.size≤o'∨o'+υ'.size≤o:=by
 induction h with
 |here x=>
  intro x' n' υ' y' o' h' ib
  cases h' with
  |here=>exact absurd rfl ib
  |there _ h'=>left;omega
 |there x h ih=>
  intro x' n' υ' y' o' h' ib
  cases h' with
  |here=>right;omega
  |there _ h'=>rcases ih h' (fun e=>ib (by rw[e]))with h1|h1<;>omega
theorem Cw.apart{p:List Step}{τ:Ty}{x:τ.den}{υ:Ty}{y:υ.den}{o:Nat}(h:Cw p τ x υ y o):sG p τ→ ∀{q:List Step} {e:Ty},eC q τ (.slice e)=true→sD p q=false→bD q τ<o∨o+υ.size≤bD q τ:=by
 induction h with
 |nil x=>intro _ q e _ h;simp[sD]at h
 | @gL p τ υ σ x n o y z q hf r ih=>
  intro hi q' e hq hp
  obtain⟨h1,h2⟩:=hf.eq
  subst h1 h2
  cases q' with
  |nil=>
   have:=atY hq
   subst this
   cases hf
  |cons s q'=>
   cases s with
   |idx i=>simp[eC]at hq
   |gL m=>
    unfold eC at hq
    split at hq
    ·rename_i a ha
     obtain⟨y',o',xn⟩:=o4 ha x
     obtain⟨h3,h4⟩:=xn.eq
     subst h3 h4
     have hb:=r.bound hi
     obtain⟨h5,h6⟩:=gO hq
     obtain⟨z',o2,JI⟩:=o5 hq y'
     have dx:=JI.bound h5
     have ho2:=JI.eq.2
     subst ho2
     simp only[bD]
     by_cases hnm:n=m
     ·subst hnm
      have Ei:sD p q'=false:=by
       simp only[sD,Bool.and_eq_false_iff]at hp
       rcases hp with hp|hp
       ·rw[awm]at hp;cases hp
       ·exact hp
      rcases ih hi hq Ei with h7|h7<;>omega
     ·rcases hf.apart xn hnm with h7|h7
      ·right;omega
      ·left
       have:1≤(Ty.slice e).size:=atP _
       omega
    ·cases hq
 | @idx p n e' σ x i z q r ih=>
  intro hi q' e hq hp
  cases q' with
  |nil=>have:=atY hq;cases this
  |cons s q'=>
   cases s with
   |idx i=>simp[eC]at hq
   |gL m=>simp[eC,Cq]at hq
def eA:Value→Option Nat
 | .pointer (some a)=>some a.block
 | .slice (some a) _ cap=>if cap=0 then none else some a.block
 |_=>none
def aR.mut:aR→Prop
 | .obj _ _| .own _ _| .dY _ _ _ _=>True
 |_=>False
def ER(w:World)(M:Nat→Prop)(v:Value):aR→Prop
 | .obj τ x=> ∃b cs t,v= .pointer (some ⟨b,0,none⟩)∧w.heap[b]? =some (.cells cs t (0,0))∧M b∧Rd w M τ cs.toList x
 | .dY τ x p _=> ∃b cs t nW u,v= .pointer (some ⟨b,0,none⟩)∧w.heap[b]? =some (.cells cs t (0,0))∧M b∧Rd w M τ nW x∧cs.toList=di nW (bD p τ) [u]∧u.oneCell'=true∧ ∃e,eC p τ (.slice e)=true
 | .own e l=>(l=[]∧ ∃a,v= .slice a 0 0)∨
  ∃b cs t cap,v= .slice (some ⟨b,0,none⟩) l.length cap∧w.heap[b]? =some (.cells cs t (0,0))∧M b∧0<cap∧l.length≤cap∧cap≤maxLen∧cs.size=cap*e.size∧
   ∀i (h:i<l.length),Rd w M e ((cs.toList.drop (i*e.size)).take e.size) l[i]
 | .kF e l=>Rd w M (.slice e) [v] l∧((l=[]∧ ∃a n c,v= .slice a n c)∨ ∃b n c,v= .slice (some ⟨b,0,none⟩) n c)
 | .gone=>True
def AR(v:Value)(p:List Step)(u:Value):aR→Prop
 | .obj τ _| .dY τ _ _ _=>sG p τ∧ ∃b,v= .pointer (some ⟨b,0,none⟩)∧u= .pointer (some ⟨b,bD p τ,none⟩)
 | .own e l| .kF e l=> ∃i q,p= .idx i::q∧i<l.length∧sG q e∧ ∃b n c,v= .slice (some ⟨b,0,none⟩) n c∧u= .pointer (some ⟨b,i*e.size+bD q e,none⟩)
 | .gone=> ∃a,u= .pointer (some a)
mutual
def VR(w:World)(M:Nat→Prop)(H:Nat→Option aR)(ν:Nat→Value):aW→Value→Prop
 | .any,_=>True
 | .Ni,v=>v=undef
 | .val τ x,v=>V w M τ v x
 | .Cr τ x n,v=>V w M τ v x∧ ∃cs a,v= .agg cs∧cs.toList[nF τ n]? =some (.slice a 0 0)
 | .emp,v=> ∃a,v= .slice a 0 0
 | .ref id,v=>H id≠none∧v=ν id
 | .fA id p,v=> ∃e,H id=some e∧AR (ν id) p v e
 | .mL τ x,v=> ∃b off,v= .pointer (some ⟨b,off,none⟩)∧b<w.heap.size∧ ¬M b∧ ∃cs,At w b off cs∧Rd w M τ cs x
 | .tup vs,v=> ∃us:List Value,v= .tuple us.toArray∧fN w M H ν vs us
 | .D7 f caps,v=> ∃cs:List Value,v= .func (.func f) #[] cs.toArray∧fN w M H ν caps cs
def fN(w:World)(M:Nat→Prop)(H:Nat→Option aR)(ν:Nat→Value):List aW→List Value→Prop
 |[],[]=>True
 |a::as,v::vs=>VR w M H ν a v∧fN w M H ν as vs
 |_,_=>False
end
def aR.ic:aR→aR→Prop
 | .obj τ _,.obj υ _| .obj τ _,.dY υ _ _ _| .dY τ _ _ _,.obj υ _| .dY τ _ _ _,.dY υ _ _ _=>τ=υ
 | .own e l,.own f k| .own e l,.kF f k| .kF e l,.kF f k=>e=f∧l.length=k.length
 |_,.gone=>True
 |_,_=>False
structure oJ(H:Nat→Option aR)(ν:Nat→Value)(H':Nat→Option aR)(ν':Nat→Value):Prop where
 iT: ∀i e,H i=some e→ ∃e',H' i=some e'∧e.ic e'
 head: ∀i,H i≠none→ν' i=ν i
theorem AR.ptr{v:Value}{p:List Step}{u:Value}{e:aR}(h:AR v p u e): ∃a,u= .pointer (some a):=by
 cases e<;>simp only[AR]at h
 ·obtain⟨_,b,_,h⟩:=h;exact⟨_,h⟩
 ·obtain⟨_,b,_,h⟩:=h;exact⟨_,h⟩
 ·obtain⟨i,q,_,_,_,b,n,c,_,h⟩:=h;exact⟨_,h⟩
 ·obtain⟨i,q,_,_,_,b,n,c,_,h⟩:=h;exact⟨_,h⟩
 ·exact h
theorem AR.ic{v:Value}{p:List Step}{u:Value}{e e':aR}(h:AR v p u e)(l:e.ic e'):AR v p u e':=by
 have hp:=h.ptr
 cases e<;>cases e'<;>simp only[aR.ic]at l<;>simp only[AR]at h ⊢ <;>try exact hp
 ·subst l;exact h
 ·subst l;exact h
 ·subst l;exact h
 ·subst l;exact h
 ·obtain⟨rfl,hl⟩:=l;obtain⟨i,q,hp,hi,r⟩:=h;exact⟨i,q,hp,by omega,r⟩
 ·obtain⟨rfl,hl⟩:=l;obtain⟨i,q,hp,hi,r⟩:=h;exact⟨i,q,hp,by omega,r⟩
 ·obtain⟨rfl,hl⟩:=l;obtain⟨i,q,hp,hi,r⟩:=h;exact⟨i,q,hp,by omega,r⟩
theorem aR.ic.refl(e:aR):e.ic e:=by cases e<;>simp[aR.ic]
theorem oJ.refl(H:Nat→Option aR)(ν:Nat→Value):oJ H ν H ν:=⟨fun _ e h=>⟨e,h,.refl e⟩,fun _ _=>rfl⟩
mutual
theorem VR.bp{w w':World}{M M':Nat→Prop}{H H':Nat→Option aR}{ν ν':Nat→Value}(k:dh w M w' M')(g:oJ H ν H' ν'):
  ∀{a:aW} {v:Value},VR w M H ν a v→VR w' M' H' ν' a v
 | .any,_,_=>by simp[VR]
 | .Ni,_,h=>by simpa [VR]using h
 | .val τ x,v,h=>by simp only[VR]at h ⊢;exact h.bp k
 | .Cr τ x n,v,h=>by simp only[VR]at h ⊢;exact⟨h.1.bp k,h.2⟩
 | .emp,_,h=>by simpa [VR]using h
 | .ref id,_,h=>by
  simp only[VR]at h ⊢
  obtain⟨h1,h2⟩:=h
  obtain⟨e,he⟩:=avU.1 h1
  obtain⟨e',sV,_⟩:=g.iT id e he
  exact⟨by simp[sV],by rw[g.head id h1];exact h2⟩
 | .fA id p,_,h=>by
  simp only[VR]at h ⊢
  obtain⟨e,he,ha⟩:=h
  obtain⟨e',sV,hl⟩:=g.iT id e he
  exact⟨e',sV,by rw[g.head id (by simp[he])];exact ha.ic hl⟩
 | .mL τ x,_,h=>by
  simp only[VR]at h ⊢
  obtain⟨b,off,rfl,hb,hm,cs,ha,hr⟩:=h
  exact⟨b,off,rfl,auU hb k.size,fun h'=>hm (k.less b hb h'),cs,ha.bp (k.block b hb hm),hr.bp k⟩
 | .tup vs,_,h=>by
  simp only[VR]at h ⊢
  obtain⟨us,rfl,h⟩:=h
  exact⟨us,rfl,fN.bp k g h⟩
 | .D7 f caps,_,h=>by
  simp only[VR]at h ⊢
  obtain⟨us,rfl,h⟩:=h
  exact⟨us,rfl,fN.bp k g h⟩
theorem fN.bp{w w':World}{M M':Nat→Prop}{H H':Nat→Option aR}{ν ν':Nat→Value}(k:dh w M w' M')(g:oJ H ν H' ν'):
  ∀{as:List aW} {vs:List Value},fN w M H ν as vs→fN w' M' H' ν' as vs
 |[],[],_=>by simp[fN]
 |a::as,v::vs,h=>by simp only[fN]at h ⊢;exact⟨VR.bp k g h.1,fN.bp k g h.2⟩
 |[],_::_,h=>by simp[fN]at h
 |_::_,[],h=>by simp[fN]at h
end
end VM
end
