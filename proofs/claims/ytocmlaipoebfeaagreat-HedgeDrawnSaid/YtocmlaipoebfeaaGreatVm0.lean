/- A part of the proof of HedgeDrawn of layer 22: a machine that reads a function of the program as an equation between values. -/
import GoSem.Claims
import Derived.WalkKit
import Derived.ArgAppend
import Derived.Laws.CopyRow
import Derived.Laws.MakeOwn
import Derived.Laws.OwnMore
import Derived.Orders
import Derived.LoopN
set_option linter.all false
abbrev ayy:=@Option.bind_some
abbrev ayz:=@cond_true
abbrev ayA:=@List.length_singleton
abbrev ayB:=@cond_false
abbrev ayC:=@List.getD_eq_getElem?_getD
abbrev ayD:=@Int.toNat_natCast
abbrev ayE:=@if_neg
abbrev ayF:=@if_pos
abbrev ayG:=@List.getElem?_eq_getElem
abbrev ayH:=@List.length_append
abbrev ayI:=@List.length_cons
abbrev ayJ:=@Nat.le_refl
abbrev ayK:=@List.mem_cons_of_mem
abbrev ayL:=@Bool.not_true
abbrev ayM:=@Array.length_toList
abbrev ayN:=@List.mem_cons_self
abbrev ayO:=@decide_eq_true
abbrev ayP:=@List.append_assoc
abbrev ayQ:=@Bool.and_eq_true
abbrev ayR:=@decide_eq_false
abbrev ayS:=@List.length_replicate
abbrev ayT:=@List.length_set
abbrev ayU:=@List.mem_append
abbrev ayV:=@of_decide_eq_true
abbrev ayW:=@List.length_nil
abbrev ayX:=@List.length_take
abbrev ayY:=@List.mem_cons
abbrev ayZ:=@List.mem_append_left
abbrev ay0:=@List.mem_singleton
abbrev ay1:=@List.length_map
abbrev ay2:=@List.append_nil
abbrev ay3:=@List.mem_append_right
abbrev ay4:=@Bool.not_false
abbrev ay5:=@List.getElem_mem
abbrev ay6:=@List.map_cons
abbrev ay7:=@List.drop_zero
abbrev ay8:=@List.nil_append
abbrev ay9:=@Nat.eq_of_beq_eq_true
abbrev aza:=@List.length_drop
abbrev azb:=@Int.toNat_zero
abbrev azc:=@List.getElem?_eq_none
abbrev azd:=@List.sum_cons
abbrev aze:=@List.map_append
abbrev azf:=@Bool.and_eq_true_iff
abbrev azg:=@List.take_append_drop
abbrev azh:=@Array.getElem?_toList
abbrev azi:=@List.mem_map_of_mem
abbrev azj:=@Array.getElem?_eq_some_iff
abbrev azk:=@List.pairwise_cons
abbrev azl:=@Nat.le_trans
abbrev azm:=@Int.mul_le_mul_of_nonneg_left
abbrev azn:=@Nat.zero_le
abbrev azo:=@List.take_of_length_le
abbrev azp:=@List.mem_map
abbrev azq:=@List.cons.injEq
abbrev azr:=@List.drop_of_length_le
abbrev azs:=@Int.mul_le_mul_of_nonneg_right
abbrev azt:=@Int.mul_comm
abbrev azu:=@List.getElem?_append_right
abbrev azv:=@Bool.false_eq_true
abbrev azw:=@Option.mem_toList
abbrev azx:=@Nat.add_mul
abbrev azy:=@Nat.mul_le_mul_right
abbrev azz:=@Option.some.injEq
abbrev azA:=@List.size_toArray
abbrev azB:=@decide_eq_true_iff
abbrev azC:=@Int.le_refl
abbrev azD:=@Bool.not_eq_false
abbrev azE:=@Int.mul_assoc
abbrev azF:=@Nat.min_eq_left
abbrev azG:=@List.getElem_of_mem
abbrev azH:=@Nat.zero_add
abbrev azI:=@Array.getD_eq_getD_getElem?
abbrev azJ:=@List.getElem?_take
abbrev azK:=@List.getElem?_drop
abbrev azL:=@List.eq_nil_of_length_eq_zero
abbrev azM:=@Int.toNat_of_nonneg
abbrev azN:=@List.getElem?_append_left
abbrev azO:=@List.drop_eq_getElem_cons
abbrev azP:=@Nat.lt_of_lt_of_le
abbrev azQ:=@List.length_pos_iff
abbrev azR:=@List.drop_drop
abbrev azS:=@congrArg
abbrev azT:=@List.mem_of_mem_take
abbrev azU:=@List.getElem?_eq_some_iff
abbrev azV:=@Int.ediv_nonneg
abbrev azW:=@Bool.and_true
abbrev azX:=@Int.eq_ofNat_of_zero_le
abbrev azY:=@List.cons_append
abbrev azZ:=@List.all_eq_true
abbrev az0:=@List.getElem?_map
abbrev az1:=@Int.mul_ediv_add_emod
abbrev az2:=@List.map_nil
abbrev az3:=@Int.emod_lt_of_pos
abbrev az4:=@and_true
abbrev az5:=@List.mem_iff_getElem
abbrev az6:=@Bool.not_eq_true
abbrev az7:=@Option.bind_eq_some_iff
abbrev az8:=@List.mem_of_mem_drop
abbrev az9:=@Option.getD_some
abbrev aAa:=@Bool.true_and
abbrev aAb:=@Int.mul_nonneg
abbrev aAc:=@Int.le_trans
abbrev aAd:=@Int.ediv_lt_iff_lt_mul
abbrev aAe:=@List.sum_nil
abbrev aAf:=@List.map_congr_left
abbrev aAg:=@Nat.mul_le_mul_left
abbrev aAh:=@List.drop_left'
abbrev aAi:=@Bool.eq_iff_iff
abbrev aAj:=@Bool.or_eq_true
abbrev aAk:=@List.mem_or_eq_of_mem_set
abbrev aAl:=@List.drop_length
abbrev aAm:=@decide_eq_decide
abbrev aAn:=@Int.lt_of_le_of_lt
abbrev aAo:=@List.take_append_getElem
abbrev aAp:=@List.take_append_of_le_length
abbrev aAq:=@List.drop_append_of_le_length
abbrev aAr:=@Bool.not_eq_true'
abbrev aAs:=@List.sum_append
abbrev aAt:=@if_false
abbrev aAu:=@Ne.symm
abbrev aAv:=@List.drop_eq_nil_of_le
abbrev aAw:=@Nat.one_mul
abbrev aAx:=@Int.add_mul
abbrev aAy:=@Array.ext'
abbrev aAz:=@List.take_zero
abbrev aAA:=@Int.add_mul_emod_self_left
abbrev aAB:=@Int.add_mul_ediv_left
abbrev aAC:=@Int.emod_nonneg
abbrev aAD:=@List.nodup_append
abbrev aAE:=@Int.mul_add
abbrev aAF:=@Int.add_zero
abbrev aAG:=@decide_eq_true_eq
abbrev aAH:=@Nat.add_assoc
abbrev aAI:=@List.eq_of_mem_replicate
abbrev aAJ:=@List.drop_take
abbrev aAK:=@List.take_take
abbrev aAL:=@Nat.add_sub_cancel_left
abbrev aAM:=@List.take_length
abbrev aAN:=@List.mem_range
abbrev aAO:=@Nat.add_zero
abbrev aAP:=@Option.map_eq_some_iff
abbrev aAQ:=@Bool.false_ne_true
abbrev aAR:=@Nat.pow_succ
abbrev aAS:=@Int.le_of_lt
abbrev aAT:=@Int.ediv_eq_zero_of_lt
abbrev aAU:=@List.headD_cons
abbrev aAV:=@Bool.or_false
abbrev aAW:=@List.length_range
abbrev aAX:=@Nat.two_pow_add_eq_or_of_lt
abbrev aAY:=@Bool.eq_false_iff
abbrev aAZ:=@Option.ne_none_iff_exists'
abbrev aA0:=@Array.getElem_toList
abbrev aA1:=@List.tail_cons
abbrev aA2:=@Int.tdiv_eq_ediv_of_nonneg
abbrev aA3:=@Bool.false_and
abbrev aA4:=@Prod.ext
abbrev aA5:=@Nat.lt_or_ge
abbrev aA6:=@Nat.sub_self
abbrev aA7:=@List.replicate_succ
abbrev aA8:=@List.getD_cons_succ
abbrev aA9:=@List.getElem_append_left
abbrev aBa:=@Bool.false_or
abbrev aBb:=@List.take_left'
abbrev aBc:=@if_true
abbrev aBd:=@Nat.le_succ
abbrev aBe:=@Nat.sub_mul
abbrev aBf:=@List.getElem?_replicate
abbrev aBg:=@Int.mul_neg
abbrev aBh:=@decide_eq_false_iff_not
abbrev aBi:=@List.getElem_cons_zero
abbrev aBj:=@List.flatten_cons
abbrev aBk:=@List.ext_getElem?
abbrev aBl:=@Nat.beq_refl
abbrev aBm:=@Array.getElem?_setIfInBounds_ne
abbrev aBn:=@Nat.le_of_ble_eq_true
abbrev aBo:=@List.Pairwise.sublist
abbrev aBp:=@List.singleton_append
abbrev aBq:=@List.any_eq_true
abbrev aBr:=@Nat.and_two_pow_sub_one_eq_mod
abbrev aBs:=@beq_self_eq_true
abbrev aBt:=@List.all_cons
abbrev aBu:=@Int.one_mul
abbrev aBv:=@Nat.pow_le_pow_right
abbrev aBw:=@Int.natCast_mul
abbrev aBx:=@List.get_eq_getElem
abbrev aBy:=@Int.zero_mul
abbrev aBz:=@Int.zero_add
abbrev aBA:=@List.getElem_range
abbrev aBB:=@Nat.mul_le_mul
abbrev aBC:=@List.mapM_cons
abbrev aBD:=@Int.fdiv_eq_ediv_of_nonneg
abbrev aBE:=@Int.not_lt
abbrev aBF:=@Int.not_le
abbrev aBG:=@Int.tmod_lt_of_pos
abbrev aBH:=@List.getElem_append_right
abbrev aBI:=@Array.getElem?_eq_getElem
abbrev aBJ:=@Classical.byContradiction
abbrev aBK:=@List.pairwise_iff_getElem
abbrev aBL:=@Int.le_of_mul_le_mul_left
abbrev aBM:=@Int.emod_eq_of_lt
abbrev aBN:=@Nat.lt_irrefl
abbrev aBO:=@Int.mul_ediv_cancel_left
abbrev aBP:=@List.length_eq_zero_iff
abbrev aBQ:=@List.getElem?_cons_zero
abbrev aBR:=@Int.ediv_le_self
abbrev aBS:=@Array.getElem?_eq_none
abbrev aBT:=@List.getElem_replicate
abbrev aBU:=@Nat.beq_eq
abbrev aBV:=@Nat.mul_comm
abbrev aBW:=@List.append_eq_nil_iff
abbrev aBX:=@Int.pow_succ
abbrev aBY:=@Nat.mul_succ
abbrev aBZ:=@List.range_succ
abbrev aB0:=@Option.some.inj
abbrev aB1:=@List.nodup_cons
abbrev aB2:=@List.mem_filter
abbrev aB3:=@Int.natCast_add
abbrev aB4:=@Nat.not_lt_zero
abbrev aB5:=@List.getElem?_toArray
abbrev aB6:=@Nat.div_lt_iff_lt_mul
abbrev aB7:=@List.set_append_right
abbrev aB8:=@Int.mul_sub
abbrev aB9:=@Bool.and_false
abbrev aCa:=@Nat.blt_eq
abbrev aCb:=@Nat.ble_eq
abbrev aCc:=@Nat.log2_def
abbrev aCd:=@Int.sub_zero
section
namespace VM
open Go
theorem ahr{α:Type}(a:α): ∃b:α,b=a:=⟨a,rfl⟩
noncomputable def aV{α:Type}(a:α):α:=Classical.choose (ahr a)
theorem fv{α:Type}(a:α):aV a=a:=Classical.choose_spec (ahr a)
def u7:Nat:=68719476736
noncomputable def W:IntKind→Int→Int:=aV fun k x=>k.wrap x
noncomputable def aG:Int→Int→Bool:=aV fun x y=>decide (x<y)
noncomputable def bX:Int→Int→Bool:=aV fun x y=>decide (x≤y)
noncomputable def aA:Int→Int→Bool:=aV fun x y=>decide (x=y)
noncomputable def aI:Int→Nat→Bool:=aV fun i n=>decide (0≤i∧i<(n:Int))
noncomputable def small:Nat→Bool:=aV fun n=>decide (n<u7)
noncomputable def gg:Int→Int→Bool:=aV fun l c=>decide (0≤l∧l≤c∧c<(u7:Int))
noncomputable def gH:Int→Int→Int→Int→Bool:=aV fun l h m n=>decide (0≤l∧l≤h∧h≤m∧m≤n)
noncomputable def quo:Int→Int→Int:=aV fun x y=>x.tdiv y
noncomputable def rem:Int→Int→Int:=aV fun x y=>x.tmod y
noncomputable def shl:IntKind→Int→Int→Int:=aV fun k x y=>x*2^(min y.toNat k.bits)
noncomputable def shr:IntKind→Int→Int→Int:=aV fun k x y=>x.fdiv (2^(min y.toNat k.bits))
noncomputable def mx:Int→Int→Int:=aV fun x y=>if y>x then y else x
noncomputable def mn:Int→Int→Int:=aV fun x y=>if y<x then y else x
noncomputable def Qr:ByteArray→ByteArray→Bool:=aV fun x y=>decide (x.toList=y.toList)
theorem yQ(k:IntKind)(x:Int):W k x=k.wrap x:=by unfold W;rw[fv]
theorem pz(x y:Int):aG x y=decide (x<y):=by unfold aG;rw[fv]
theorem jW(x y:Int):bX x y=decide (x≤y):=by unfold bX;rw[fv]
theorem gh(x y:Int):aA x y=decide (x=y):=by unfold aA;rw[fv]
theorem KM(i:Int)(n:Nat):aI i n=decide (0≤i∧i<(n:Int)):=by unfold aI;rw[fv]
theorem z7(n:Nat):small n=decide (n<u7):=by unfold small;rw[fv]
theorem Dd(l c:Int):gg l c=decide (0≤l∧l≤c∧c<(u7:Int)):=by unfold gg;rw[fv]
theorem vg(l h m n:Int):gH l h m n=decide (0≤l∧l≤h∧h≤m∧m≤n):=by unfold gH;rw[fv]
theorem ED(x y:Int):quo x y=x.tdiv y:=by unfold quo;rw[fv]
theorem Qs(x y:Int):rem x y=x.tmod y:=by unfold rem;rw[fv]
theorem Qt(k:IntKind)(x y:Int):shl k x y=x*2^(min y.toNat k.bits):=by unfold shl;rw[fv]
theorem KN(k:IntKind)(x y:Int):shr k x y=x.fdiv (2^(min y.toNat k.bits)):=by unfold shr;rw[fv]
theorem ahs(x y:Int):mx x y=if y>x then y else x:=by unfold mx;rw[fv]
theorem aa0(x y:Int):mn x y=if y<x then y else x:=by unfold mn;rw[fv]
theorem z8(x y:ByteArray):Qr x y=decide (x.toList=y.toList):=by unfold Qr;rw[fv]
inductive Bw where|and|or|xor|andNot
noncomputable def jH:Bw→IntKind→Int→Int→Int:=aV fun o k x y=>
 let a:=BitVec.ofInt k.bits x
 let b:=BitVec.ofInt k.bits y
 k.wrap (match o with| .and=>a&&& b| .or=>a|||b| .xor=>a^^^b| .andNot=>a&&& ~~~b).toNat
theorem qt(o:Bw)(k:IntKind)(x y:Int):jH o k x y=
 let a:=BitVec.ofInt k.bits x
 let b:=BitVec.ofInt k.bits y
 k.wrap (match o with| .and=>a&&& b| .or=>a|||b| .xor=>a^^^b| .andNot=>a&&& ~~~b).toNat:=by unfold jH;rw[fv]
def strOf(l:List Nat):ByteArray:=⟨(l.map UInt8.ofNat).toArray⟩
inductive Ty where
 |int (k:IntKind)
 |bool
 |str
 |slice (e:Ty)
 |unit
 |pair (a b:Ty)
 |arr (n:Nat) (e:Ty)
 deriving DecidableEq
@[reducible] def Ty.den:Ty→Type
 | .int _=>Int
 | .bool=>Bool
 | .str=>ByteArray
 | .slice e=>List e.den
 | .unit=>Unit
 | .pair a b=>a.den×b.den
 | .arr _ e=>List e.den
def Ty.size:Ty→Nat
 | .int _| .bool| .str| .slice _=>1
 | .unit=>0
 | .pair a b=>a.size+b.size
 | .arr n e=>n*e.size
def Ty.isAgg:Ty→Bool
 | .unit| .pair _ _| .arr _ _=>true
 |_=>false
def Ty.zero:(τ:Ty)→τ.den
 | .int _=>(0:Int)
 | .bool=>false
 | .str=>ByteArray.empty
 | .slice _=>[]
 | .unit=>()
 | .pair a b=>(a.zero,b.zero)
 | .arr n e=>List.replicate n e.zero
def Ty.comparable:Ty→Bool
 | .slice _=>false
 | .pair a b=>a.comparable&&b.comparable
 | .arr _ _=>false
 |_=>true
def aht{α:Type}(f:α→α→Bool):List α→List α→Bool
 |[],[]=>true
 |x::xs,y::ys=>f x y&&aht f xs ys
 |_,_=>false
noncomputable def jT:(τ:Ty)→τ.den→τ.den→Bool
 | .int _,x,y=>aA x y
 | .bool,x,y=>x==y
 | .str,x,y=>Qr x y
 | .slice _,_,_=>false
 | .unit,_,_=>true
 | .pair a b,x,y=>jT a x.1 y.1&&jT b x.2 y.2
 | .arr _ e,x,y=>aht (jT e) x y
inductive Step where
 |gX (n:Nat)
 |idx (i:Nat)
def GA:List Step→List Step→Bool
 |[],[]=>true
 | .gX a::p,.gX b::q=>Nat.beq a b&&GA p q
 |_,_=>false
def tB:List Step→List Step→Bool
 |[],_=>true
 | .gX a::p,.gX b::q=>Nat.beq a b&&tB p q
 |_,_=>false
def EE:Ty→Nat→Option Ty
 | .pair a b,n=>match n with
  |0=>some a
  |n+1=>EE b n
 |_,_=>none
def eQ:List Step→Ty→Ty→Bool
 |[],τ,υ=>decide (τ=υ)
 | .gX n::p,τ,υ=>match EE τ n with
  |some a=>eQ p a υ
  |none=>false
 |_,_,_=>false
inductive bb where
 |any
 |Qu
 |val (τ:Ty) (x:τ.den)
 |EF (τ:Ty) (x:τ.den) (n:Nat)
 |emp
 |ref (id:Nat)
 |fW (id:Nat) (p:List Step)
 |nK (τ:Ty) (x:τ.den)
 |tup (vs:List bb)
 |GB (f:Nat) (caps:List bb)
inductive aS where
 |obj (τ:Ty) (x:τ.den)
 |ej (τ:Ty) (x:τ.den) (p:List Step) (j:Nat)
 |own (e:Ty) (l:List e.den)
 |lF (e:Ty) (l:List e.den)
 |gone
structure St where
 T:Nat→bb
 H:Nat→Option aS
def St.put(σ:St)(d:Nat)(v:bb):St:=⟨fun i=>cond (Nat.beq i d) v (σ.T i),σ.H⟩
def St.ix(σ:St)(d:Nat)(v:Option aS):St:=⟨σ.T,fun i=>cond (Nat.beq i d) v (σ.H i)⟩
def St.rH(σ:St)(d:Option Nat)(v:bb):St:=match d with|some d=>σ.put d v|none=>σ
def GC(n:Nat)(io:List Nat):Option Nat→Bool|some d=>Nat.blt d n&&io.all (fun i=> !(Nat.beq i d))|none=>true
def St.rS(σ:St):List (Nat×Option aS)→St
 |[]=>σ
 |u::r=>(σ.ix u.1 u.2).rS r
abbrev S0:St:=⟨fun _=> .any,fun _=>none⟩
abbrev fN:=List (Nat×Option aS)
section K
variable{α:Type}
def tC:(τ:Ty)→τ.den→Nat→((υ:Ty)→υ.den→Option α)→Option α
 | .pair a b,x,n,k=>match n with
  |0=>k a x.1
  |n+1=>tC b x.2 n k
 |_,_,_,_=>none
def jX:(τ:Ty)→τ.den→Nat→((υ:Ty)→υ.den→(υ.den→Option α)→Option α)→(τ.den→Option α)→Option α
 | .pair a b,x,n,m,k=>match n with
  |0=>m a x.1 fun z=>k (z,x.2)
  |n+1=>jX b x.2 n m fun z=>k (x.1,z)
 |_,_,_,_,_=>none
def jY(τ υ:Ty)(k:Option α):Option α:=if τ=υ then k else none
def cv(υ τ:Ty)(y:υ.den)(k:τ.den→Option α):Option α:=if h:υ=τ then k (h▸y)else none
def ab7(τ:Ty)(x:τ.den)(i:Nat)(k:(υ:Ty)→υ.den→Option α):Option α:=
 match τ,x with
 | .arr _ e,x=>k e (List.getD x i e.zero)
 |_,_=>none
def zx(τ:Ty)(x:τ.den)(i:Nat)(m:(υ:Ty)→υ.den→(υ.den→Option α)→Option α)(k:τ.den→Option α):Option α:=
 match τ,x,k with
 | .arr _ e,x,k=>m e (List.getD x i e.zero) fun z=>k (List.set x i z)
 |_,_,_=>none
def vh:List Step→(τ:Ty)→τ.den→((υ:Ty)→υ.den→Option α)→Option α
 |[],τ,x,k=>k τ x
 | .gX n::p,τ,x,k=>tC τ x n fun υ y=>vh p υ y k
 | .idx i::p,τ,x,k=>ab7 τ x i fun υ y=>vh p υ y k
def rI(υ:Ty)(y:υ.den):List Step→(τ:Ty)→τ.den→(τ.den→Option α)→Option α
 |[],τ,_,k=>cv υ τ y k
 | .gX n::p,τ,x,k=>jX τ x n (fun υ' y' k'=>rI υ y p υ' y' k') k
 | .idx i::p,τ,x,k=>zx τ x i (fun υ' y' k'=>rI υ y p υ' y' k') k
def iZ(fz:Bool)(a:bb)(H:Nat→Option aS)(τ:Ty)(k:τ.den→List Nat→fN→Option α):Option α:=
 match a with
 | .val υ x=>cv υ τ x fun y=>k y [] []
 | .EF υ x _=>cv υ τ x fun y=>k y [] []
 | .emp=>match τ,k with
  | .slice _,k=>k [] [] []
  |_,_=>none
 | .ref id=>match H id with
  |some (.own e l)=>cv (.slice e) τ l fun y=>k y [id] (cond fz [(id,some (.lF e l))] [])
  |some (.lF e l)=>cv (.slice e) τ l fun y=>k y [id] []
  |_=>none
 |_=>none
def GD(a:bb)(k:(τ:Ty)→τ.den→Option α):Option α:=
 match a with
 | .val υ x=>k υ x
 |_=>none
def jZ(id:Nat)(p:List Step)(H:Nat→Option aS)(k:Ty→Option α):Option α:=
 match H id with
 |some (.obj τ x)=>vh p τ x fun υ _=>k υ
 |some (.ej τ x _ _)=>vh p τ x fun υ _=>k υ
 |some (.own e l)|some (.lF e l)=>match p with
  | .idx i::p=>vh p e (List.getD l i e.zero) fun υ _=>k υ
  |_=>none
 |_=>none
def asv(a:bb)(H:Nat→Option aS)(k:(τ:Ty)→τ.den→List Nat→Option α):Option α:=
 match a with
 | .val υ x=>k υ x []
 | .ref id=>match H id with
  |some (.own e l)|some (.lF e l)=>k (.slice e) l [id]
  |_=>none
 |_=>none
def rT(a:bb)(k:IntKind→Int→Option α):Option α:=
 match a with
 | .val (.int i) x=>k i x
 |_=>none
end K
inductive AM where
 |v (τ:Ty)
 |own (e:Ty)
 |io (τ:Ty)
 |fn (f:Nat) (τ:Ty)
 |ptr (τ:Ty)
 |fW (τ:Ty)
@[reducible] def AM.den:AM→Type
 | .v τ=>τ.den
 | .own e=>List e.den
 | .io τ=>τ.den
 | .fn _ τ=>τ.den
 | .ptr τ=>τ.den
 | .fW τ=>τ.den
@[reducible] def HP:List AM→Type
 |[]=>Unit
 |[m]=>m.den
 |m::n::ms=>m.den×HP (n::ms)
structure iD where
 args:List AM
 res:List AM
 quiet:Bool
 run:HP args→Option (HP res)
inductive CM where
 |v (τ:Ty)
 |own (e:Ty)
 |obj (τ:Ty)
 |ej (τ:Ty) (q:List Step) (e:Ty)
 |same (s:Nat)
 |io (τ:Ty)
 |fn (f:Nat) (τ:Ty)
structure Env where
 nt:Nat
 ty:Nat→Option Ty
 Γ:Nat→List iD
 N:Nat
 rU:Nat→Option (List (Nat×CM))
 tD:Nat→Option (List (Nat×CM))
 io:List Nat:=[]
 lk:Option (Ty×List Step×Ty×List Nat):=none
def lkT(E:Env)(τ:Ty):Option (List Step×Ty):=match E.lk with
 |some (υ,q,e,_)=>cond (decide (υ=τ)) (cond (eQ q τ (.slice e)) (some (q,e)) none) none
 |none=>none
def EG(E:Env)(τ:Ty)(id:Nat):Option (List Step×Ty):=match E.lk with
 |some (_,_,_,ds)=>cond (ds.any fun d=>Nat.beq (id/16) d) (lkT E τ) none
 |none=>none
def cvA:Value→bb
 | .int k n=> .val (.int k) n
 | .bool b=> .val .bool b
 | .string s=> .val .str s
 | .slice none 0 0=> .emp
 |_=> .any
def St.ρ (σ:St):Operand→bb
 | .tmp t=>σ.T t
 | .const v=>cvA v
 | .global _=> .any
 | .func f=> .GB f []
section
variable{α:Type}
noncomputable def qu(op:BinOp)(k:IntKind)(x y:Int)(K:bb→Option α):Option α:=
 match op with
 | .add=>K (.val (.int k) (W k (x+y)))
 | .sub=>K (.val (.int k) (W k (x-y)))
 | .mul=>K (.val (.int k) (W k (x*y)))
 | .quo=>cond (aA y 0) none (K (.val (.int k) (W k (quo x y))))
 | .rem=>cond (aA y 0) none (K (.val (.int k) (rem x y)))
 | .and=>K (.val (.int k) (jH .and k x y))
 | .or=>K (.val (.int k) (jH .or k x y))
 | .xor=>K (.val (.int k) (jH .xor k x y))
 | .andNot=>K (.val (.int k) (jH .andNot k x y))
 | .eql=>K (.val .bool (aA x y))
 | .neq=>K (.val .bool (!aA x y))
 | .lss=>K (.val .bool (aG x y))
 | .leq=>K (.val .bool (bX x y))
 | .gtr=>K (.val .bool (aG y x))
 | .geq=>K (.val .bool (bX y x))
 |_=>none
noncomputable def Up(op:BinOp)(k:IntKind)(x y:Int)(K:bb→Option α):Option α:=
 match op with
 | .shl=>cond (aG y 0) none (K (.val (.int k) (W k (shl k x y))))
 | .shr=>cond (aG y 0) none (K (.val (.int k) (shr k x y)))
 |_=>none
def Uq:BinOp→Bool
 | .shl| .shr=>true
 |_=>false
noncomputable def Aa(t:Option Ty)(op:BinOp)(τ:Ty)(x:τ.den)(υ:Ty)(y:υ.den)(K:bb→Option α):Option α:=
 match τ,x,υ,y with
 | .int k,x,.int k',y=>cond (Uq op) (Up op k x y K) (if k=k' then qu op k x y K else none)
 |τ,x,υ,y=>match t with
  |none=>none
  |some u=>jY u τ (cond τ.comparable (match op with
   | .eql=>cv υ τ y fun y=>K (.val .bool (jT τ x y))
   | .neq=>cv υ τ y fun y=>K (.val .bool (!jT τ x y))
   |_=>none) none)
noncomputable def N2(op:UnOp)(a:bb)(K:bb→Option α):Option α:=
 match op,a with
 | .neg,.val (.int k) n=>K (.val (.int k) (W k (0-n)))
 | .xor,.val (.int k) n=>K (.val (.int k) (jH .xor k (if k.signed then-1 else k.max) n))
 | .not,.val .bool b=>K (.val .bool (!b))
 |_,_=>none
abbrev fO(α:Type):=bb→List Nat→fN→Option α
noncomputable def T0(up:Bool):bb→List bb→(bb→Option α)→Option α
 |a,[],K=>K a
 |a,b::r,K=>rT a fun k x=>rT b fun k' y=>if k=k' then T0 up (.val (.int k) (cond up (mx x y) (mn x y))) r K else none
def GF(τ:Ty)(a:bb)(H:Nat→Option aS)(K:fO α):Option α:=
 match τ,a with
 | .slice _,.val (.slice _) l=>K (.val (.int .i64) (List.length l:Int)) [] []
 | .arr n _,.val (.arr _ _) _=>K (.val (.int .i64) (n:Int)) [] []
 | .str,.val .str s=>K (.val (.int .i64) (ByteArray.size s:Int)) [] []
 | .slice _,.emp=>K (.val (.int .i64) (0:Int)) [] []
 | .slice _,.ref id=>match H id with
  |some (.own _ l)|some (.lF _ l)=>K (.val (.int .i64) (l.length:Int)) [id] []
  |_=>none
 |_,_=>none
def nL(H:Nat→Option aS)(id:Nat)(e:aS)(K:Option α):Option α:=
 match H id with
 |none=>K
 |some _=>none
noncomputable def GG(id:Nat)(e:Ty)(a b:bb)(H:Nat→Option aS)(K:fO α):Option α:=
 iZ false b H (.slice e) fun ys rd _=>
  match a with
  | .emp=>cond (small (List.length ys)) (K (.ref id) (id::rd) [(id,some (.own e ys))]) none
  | .ref j=>match H j with
   |some (.own e' l)=>cv (.slice e') (.slice e) l fun xs=>
    cond (small (List.length xs+List.length ys)) (K (.ref id) (id::j::rd) [(j,some .gone),(id,some (.own e (xs++ys)))]) none
   |_=>none
  |_=>none
def qv(τ:Ty)(H:Nat→Option aS):List (Nat×bb)→τ.den→List Nat→fN→(τ.den→List Nat→fN→Option α)→Option α
 |[],x,rd,ups,K=>K x rd ups
 |p::r,x,rd,ups,K=>tC τ x p.1 fun υ _=>iZ true p.2 H υ fun y wU kT=>
  jX τ x p.1 (fun υ' _ k'=>cv υ υ' y k') fun z=>qv τ H r z (wU++rd) (ups++kT) K
def rV(e:Ty)(H:Nat→Option aS)(n:Nat):List (Nat×bb)→List e.den→List Nat→fN→(List e.den→List Nat→fN→Option α)→Option α
 |[],l,rd,ups,K=>K l rd ups
 |p::r,l,rd,ups,K=>cond (Nat.blt p.1 n) (iZ true p.2 H e fun y wU kT=>rV e H n r (List.set l p.1 y) (wU++rd) (ups++kT) K) none
def xJ(v:bb)(H:Nat→Option aS):(a:Ty)→(a.den→List Nat→fN→Option α)→Option α
 | .pair a .unit,k=>match v with
  | .nK υ x=>cv υ a x fun y=>k (y,()) [] []
  |_=>none
 |a,k=>iZ true v H a k
def xK:(a:Ty)→a.den→bb
 | .pair a .unit,x=> .nK a x.1
 |a,x=> .val a x
def nM(H:Nat→Option aS):(τ:Ty)→List bb→(τ.den→List Nat→fN→Option α)→Option α
 | .unit,[],K=>K () [] []
 | .pair a b,v::vs,K=>xJ v H a fun x rd ups=>nM H b vs fun xs wU kT=>K (x,xs) (wU++rd) (ups++kT)
 |_,_,_=>none
def mY:(τ:Ty)→τ.den→List bb
 | .pair a b,x=>xK a x.1::mY b x.2
 |_,_=>[]
def bz(H:Nat→Option aS)(d:Nat)(v:Option aS):Nat→Option aS:=fun i=>cond (Nat.beq i d) v (H i)
def rW(H:Nat→Option aS):List bb→(List bb→List Nat→fN→Option α)→Option α
 |[],K=>K [] [] []
 |a::r,K=>match a with
  | .fW id []=>match H id with
   |some (.obj τ x)=>rW (bz H id (some .gone)) r fun cs rd ups=>K (.nK τ x::cs) (id::rd) ((id,some .gone)::ups)
   |_=>none
  |a=>rW H r fun cs rd ups=>K (a::cs) rd ups
def lP(m:AM)(a:bb)(H:Nat→Option aS)(k:m.den→(Nat→Option aS)→List Nat→fN→fN→List (Nat×Ty)→Option α):Option α:=
 match m,k with
 | .v τ,k=>iZ true a H τ fun x rd uf=>match uf with
  |[]=>k x H rd [] [] []
  |u::r=>k x (bz H u.1 u.2) rd [] (u::r) []
 | .own e,k=>match a with
  | .emp=>k [] H [] [] [] []
  | .ref id=>match H id with
   |some (.own e' l)=>cv (.slice e') (.slice e) l fun x=>k x (bz H id (some .gone)) [id] [(id,some .gone)] [] []
   |_=>none
  |_=>none
 | .io τ,k=>match a with
  | .fW id []=>match H id with
   |some (.obj υ x)=>cv υ τ x fun y=>k y (bz H id (some .gone)) [id] [] [] [(id,τ)]
   |_=>none
  |_=>none
 | .fn f τ,k=>match a with
  | .GB f' c=>cond (Nat.beq f f') (nM H τ c fun x rd uf=>match uf with
   |[]=>k x H rd [] [] []
   |_=>none) none
  |_=>none
 | .ptr _,_=>none
 | .fW τ,k=>match a with
  | .nK υ x=>cv υ τ x fun y=>k y H [] [] [] []
  |_=>none
def pN:(ms:List AM)→List bb→(Nat→Option aS)→List Nat→fN→fN→List (Nat×Ty)→(HP ms→List Nat→fN→fN→List (Nat×Ty)→Option α)→Option α
 |[],[],_,rd,uo,uf,io,K=>K () rd uo uf io
 |[m],[a],H,rd,uo,uf,io,K=>lP m a H fun x _ wU Gn Gp Cm=>K x (wU++rd) (Gn++uo) (Gp++uf) (io++Cm)
 |m::n::ms,a::m6,H,rd,uo,uf,io,K=>lP m a H fun x H' wU Gn Gp Cm=>
  pN (n::ms) m6 H' (wU++rd) (Gn++uo) (Gp++uf) (io++Cm) fun xs rd uo uf io=>K (x,xs) rd uo uf io
 |_,_,_,_,_,_,_,_=>none
def EH(m:AM)(x:m.den)(id:Nat):bb×fN:=
 match m,x with
 | .v τ,x=>(.val τ x,[])
 | .own e,x=>(.ref id,[(id,some (.own e x))])
 | .io τ,x=>(.val τ x,[])
 | .fn _ _,_=>(.any,[])
 | .ptr τ,x=>(.fW id [],[(id,some (.obj τ x))])
 | .fW _,_=>(.any,[])
def ja:(ms:List AM)→HP ms→Nat→List (Nat×Ty)→List bb×fN×List (Nat×Ty)
 |[],_,_,io=>([],[],io)
 |[m],x,id,io=>match m,x,io with
  | .io τ,x,(j,_)::io=>([],[(j,some (.obj τ x))],io)
  |m,x,io=>([(EH m x id).1],(EH m x id).2,io)
 |m::n::ms,x,id,io=>match m,x,io with
  | .io τ,x,(j,_)::io=>let r:=ja (n::ms) x.2 (id+1) io;(r.1,(j,some (.obj τ x.1))::r.2.1,r.2.2)
  |m,x,io=>let r:=ja (n::ms) x.2 (id+1) io;((EH m x.1 id).1::r.1,(EH m x.1 id).2++r.2.1,r.2.2)
def GH:List bb→bb
 |[]=> .any
 |[a]=>a
 |l=> .tup l
def qw(H:Nat→Option aS)(id:Nat):Nat→Bool
 |0=>true
 |n+1=>(match H (id+n)with|none=>true|some _=>false)&&qw H id n
def GI(id:Nat):Nat→List Nat
 |0=>[]
 |n+1=>(id+n)::GI id n
def fits:List AM→List bb→Bool
 |[],[]=>true
 | .fn f _::ms,.GB g _::m6=>Nat.beq f g&&fits ms m6
 | .fn _ _::_,_::_=>false
 |_::ms,_::m6=>fits ms m6
 |_,_=>false
def GJ:List iD→List bb→Option iD
 |[],_=>none
 |S::r,m6=>cond (fits S.args m6) (some S) (GJ r m6)
noncomputable def xL(E:Env)(f:Nat)(m6:List bb)(id:Nat)(H:Nat→Option aS)(K:fO α):Option α:=
 match GJ (E.Γ f) m6 with
 |none=>none
 |some S=>pN S.args m6 H [] [] [] [] fun x rd uo uf io=>
  (S.run x).bind fun y=>
   let r:=ja S.res y id io
   cond (qw H id S.res.length) (K (GH r.1) (GI id S.res.length++(r.2.1.map (·.1)++rd)) (uo++cond S.quiet [] uf++r.2.1)) none
def um(a:Option bb)(d:Int)(k:Int→Option α):Option α:=
 match a with
 |none=>k d
 |some a=>rT a fun _ x=>k x
def iS:Option Operand→Bool
 |some (.const (.int _ n))=>decide (n=0)
 |_=>false
noncomputable def nN(t:Ty)(z:Bool)(a:bb)(lo hi mx:Option bb)(H:Nat→Option aS)(K:fO α):Option α:=
 match t,a with
 | .str,.val .str s=>cond mx.isNone (um lo 0 fun l=>um hi (ByteArray.size s:Int) fun h=>
  cond (gH l h (ByteArray.size s:Int) (ByteArray.size s:Int)) (K (.val .str (ByteArray.extract s l.toNat h.toNat)) [] []) none) none
 | .slice _,.emp=>cond z (K .emp [] []) (cond mx.isNone (um lo 0 fun l=>um hi 0 fun h=>cond (gH l h 0 0) (K .emp [] []) none) none)
 | .slice e,a=>iZ (!z) a H (.slice e) fun x rd ups=>cond z (K .emp rd [])
  (cond (mx.isNone||hi.isSome) (um lo 0 fun l=>um hi (List.length x:Int) fun h=>um mx (List.length x:Int) fun m=>
   cond (gH l h m (List.length x:Int))
    (K (.val (.slice e) (List.drop l.toNat (List.take h.toNat x))) rd ups) none) none)
 |_,_=>none
noncomputable def eD(τ:Ty)(a i:bb)(H:Nat→Option aS)(K:fO α):Option α:=
 rT i fun _ i=>
 match τ with
 | .slice e=>match a with
  | .val υ l=>cv υ (.slice e) l fun l=>cond (aI i (List.length l)) (K (.nK e (List.getD l i.toNat e.zero)) [] []) none
  | .ref id=>match H id with
   |some (.own e' l)|some (.lF e' l)=>jY e' e (cond (aI i (List.length l)) (K (.fW id [.idx i.toNat]) [id] []) none)
   |_=>none
  |_=>none
 | .arr n e=>match a with
  | .fW id p=>jZ id p H fun υ=>jY υ (.arr n e) (cond (aI i n) (K (.fW id (p++[.idx i.toNat])) [id] []) none)
  | .nK υ l=>cv υ (.arr n e) l fun l=>cond (aI i n) (K (.nK e (List.getD l i.toNat e.zero)) [] []) none
  |_=>none
 |_=>none
noncomputable def rX(τ:Ty)(a i:bb)(K:bb→Option α):Option α:=
 rT i fun _ i=>
 match τ,a with
 | .arr n e,.val υ l=>cv υ (.arr n e) l fun l=>cond (aI i n) (K (.val e (List.getD l i.toNat e.zero))) none
 | .str,.val .str s=>cond (aI i (ByteArray.size s)) (K (.val (.int .u8) ((s.data.getD i.toNat 0).toNat:Int))) none
 |_,_=>none
def ir(a:bb)(H:Nat→Option aS)(K:(υ:Ty)→υ.den→List Nat→Option α):Option α:=
 match a with
 | .nK τ x=>K τ x []
 | .fW id p=>match H id with
  |some (.obj τ x)=>vh p τ x fun υ y=>K υ y [id]
  |some (.own e l)|some (.lF e l)=>match p with
   | .idx i::p=>vh p e (List.getD l i e.zero) fun υ y=>K υ y [id]
   |_=>none
  |_=>none
 |_=>none
def jb(τ:Ty)(a v:bb)(H:Nat→Option aS)(K:fO α):Option α:=
 match a with
 | .fW id p=>iZ true v H τ fun y rd ups=>
  match H id with
  |some (.obj υ x)=>rI τ y p υ x fun z=>K .any (id::rd) (ups++[(id,some (.obj υ z))])
  |some (.own e l)=>match p with
   | .idx i::p=>cond (rd.contains id) none (rI τ y p e (List.getD l i e.zero) fun z=>K .any (id::rd) (ups++[(id,some (.own e (List.set l i z)))]))
   |_=>none
  |_=>none
 |_=>none
def yR(j:Nat)(q:List Step)(τ:Ty)(x:τ.den)(H:Nat→Option aS)(k:τ.den→fN→Option α):Option α:=
 match H j with
 |some (.own e l)=>rI (.slice e) l q τ x fun z=>k z [(j,some (.lF e l))]
 |some (.lF e l)=>rI (.slice e) l q τ x fun z=>k z []
 |_=>none
def ry(τ:Ty)(a:bb)(H:Nat→Option aS)(K:fO α):Option α:=
 let u9:=ir a H fun υ y rd=>cv υ τ y fun z=>K (.val τ z) rd []
 match a with
 | .fW id p=>match H id with
  |some (.ej υ x q j)=>cond (GA p q) (cond (eQ q υ τ) (K (.ref j) [id] []) none)
   (cond (tB p q) (yR j q υ x H fun z ups=>vh p υ z fun υ' y=>cv υ' τ y fun y'=>K (.val τ y') [id,j] ups)
    (vh p υ x fun υ' y=>cv υ' τ y fun y'=>K (.val τ y') [id] []))
  |_=>u9
 |_=>u9
def xM(τ:Ty)(id k:Nat)(e:Ty)(q:List Step)(υ:Ty)(x:υ.den)(H:Nat→Option aS)(K:fO α):Option α:=
 match H k with
 |some (.own e' _)=>jY e' e (jY τ (.slice e) (rI (.slice e) [] q υ x fun z=>K .any [id,k] [(id,some (.ej υ z q k))]))
 |_=>none
def gI(E:Env)(τ:Ty)(a v:bb)(H:Nat→Option aS)(K:fO α):Option α:=
 let u9:=jb τ a v H K
 match a with
 | .fW id p=>match H id with
  |some (.obj υ x)=>match EG E υ id,v with
   |some (q,e),.ref k=>cond (GA p q) (xM τ id k e q υ x H K) u9
   |_,_=>u9
  |some (.ej υ x q j)=>
   let put:=iZ true v H τ fun y rd ups=>rI τ y p υ x fun z=>K .any (id::rd) (ups++[(id,some (cond (tB p q) (.obj υ z) (.ej υ z q j)))])
   match EG E υ id,v with
   |some (q',e),.ref k=>cond (GA p q&&GA q q') (xM τ id k e q υ x H K) put
   |_,_=>put
  |_=>u9
 |_=>u9
def pA(E:Env)(τ:Ty)(a v:bb)(H:Nat→Option aS)(K:fO α):Option α:=
 match a,v with
 | .fW id [],.EF υ y n=>match EG E υ id with
  |some ([.gX m],e)=>cond (Nat.beq m n) (jY τ υ (jZ id [] H fun υ'=>jY υ' υ
   (nL H (id+2) (.own e []) (K .any [id,id+2] [(id,some (.ej υ y [.gX m] (id+2))),(id+2,some (.own e []))])))) (gI E τ a v H K)
  |_=>gI E τ a v H K
 |_,_=>gI E τ a v H K
def yS(H:Nat→Option aS)(id:Nat)(τ:Ty)(x:τ.den)(q:List Step)(e:Ty)(K:fO α):Option α:=
 nL H id (.obj τ x) (nL H (id+1) (.own e []) (K (.fW id []) [id,id+1] [(id,some (.ej τ x q (id+1))),(id+1,some (.own e []))]))
def Ur(E:Env)(ps:List (Nat×bb))(τ:Ty)(x:τ.den):bb:=match lkT E τ with
 |some ([.gX n],_)=>cond (ps.all fun p=> !(Nat.beq p.1 n)) (.EF τ x n) (.val τ x)
 |_=> .val τ x
def partsOf(σρ:Operand→bb)(ps:Array (Nat×Operand)):List (Nat×bb):=ps.toList.map fun p=>(p.1,σρ p.2)
noncomputable def pL(E:Env)(o:Oper)(ρ:Operand→bb)(H:Nat→Option aS)(K:fO α):Option α:=
 let id:=16*o.dst.getD 0
 match o.op with
 | .move x| .assign x=>K (ρ x) [] []
 | .pick c a b=>match ρ c with
  | .val .bool t=>cond t (K (ρ a) [] []) (K (ρ b) [] [])
  |_=>none
 | .alloc t=>match E.ty t with
  |some τ=>match EG E τ id with
   |some (q,e)=>yS H id τ τ.zero q e K
   |none=>nL H id (.obj τ τ.zero) (K (.fW id []) [id] [(id,some (.obj τ τ.zero))])
  |none=>none
 | .box t x=>match E.ty t with
  |some τ=>
   let u9:=iZ true (ρ x) H τ fun y rd ups=>nL H id (.obj τ y) (K (.fW id []) (id::rd) (ups++[(id,some (.obj τ y))]))
   match EG E τ id,ρ x with
   |some ([.gX m],e),.EF υ y n=>cond (Nat.beq m n) (cv υ τ y fun y=>yS H id τ y [.gX m] e K) u9
   |_,_=>u9
  |none=>none
 | .build t ps=>match E.ty t with
  |some (.arr n e)=>rV e H n (partsOf ρ ps) (List.replicate n e.zero) [] [] fun l rd ups=>K (.val (.arr n e) l) rd ups
  |some τ=>cond τ.isAgg (qv τ H (partsOf ρ ps) τ.zero [] [] fun x rd ups=>K (Ur E (partsOf ρ ps) τ x) rd ups) none
  |none=>none
 | .buildSlice t n ps=>match E.ty t with
  |some (.slice e)=>cond (Nat.ble (n*(e.size+1)) 16777216) (nL H id (.own e []) (rV e H n (partsOf ρ ps) (List.replicate n e.zero) [] [] fun l rd ups=>K (.ref id) (id::rd) (ups++[(id,some (.own e l))]))) none
  |_=>none
 | .load t a=>match E.ty t with
  |some τ=>ry τ (ρ a) H K
  |none=>none
 | .store t a v=>match E.ty t with
  |some τ=>pA E τ (ρ a) (ρ v) H K
  |none=>none
 | .nilCheck x=>match ρ x with
  | .fW id p=>K (.fW id p) [] []
  | .nK τ x=>K (.nK τ x) [] []
  |_=>none
 | .binOp op t x y _=>GD (ρ x) fun τ x=>GD (ρ y) fun υ y=>Aa (E.ty t) op τ x υ y fun v=>K v [] []
 | .unOp op _ x=>N2 op (ρ x) fun v=>K v [] []
 | .convert src dst x=>match E.ty src,E.ty dst with
  |some _,some (.int k)=>rT (ρ x) fun _ n=>K (.val (.int k) (W k n)) [] []
  |_,_=>none
 | .makeFunc (.func f) first caps=>cond first.isEmpty (rW H (caps.toList.map ρ) fun cs rd ups=>K (.GB f cs) rd ups) none
 | .makeSlice t l c=>match E.ty t with
  |some (.slice e)=>rT (ρ l) fun _ l=>rT (ρ c) fun _ c=>cond (gg l c)
    (nL H id (.own e []) (K (.ref id) [id] [(id,some (.own e (List.replicate l.toNat e.zero)))])) none
  |_=>none
 | .slice t x lo hi mx=>match E.ty t with
  |some τ=>nN τ (lo.isNone&&iS hi&&iS mx) (ρ x) (lo.map ρ) (hi.map ρ) (mx.map ρ) H K
  |none=>none
 | .fieldAddr t x n=>match E.ty t with
  |some τ=>match ρ x with
   | .fW id p=>jZ id p H fun υ=>jY υ τ (tC τ τ.zero n fun υ' _=>cond (Nat.beq υ'.size 0) none (K (.fW id (p++[.gX n])) [id] []))
   | .nK υ x=>jY υ τ (tC υ x n fun υ y=>cond (Nat.beq υ.size 0) none (K (.nK υ y) [] []))
   |_=>none
  |none=>none
 | .field t x n=>match E.ty t with
  |some τ=>match ρ x with
   | .val υ x=>jY υ τ (tC υ x n fun υ y=>K (.val υ y) [] [])
   |_=>none
  |none=>none
 | .indexAddr t x i=>match E.ty t with
  |some τ=>eD τ (ρ x) (ρ i) H K
  |none=>none
 | .index t x i=>match E.ty t with
  |some τ=>rX τ (ρ x) (ρ i) fun v=>K v [] []
  |none=>none
 | .extract t i=>match ρ t with
  | .tup vs=>match vs[i]? with
   |some v=>K v [] []
   |none=>none
  |_=>none
 | .call c=>match c.callee with
  | .builtin .len=>match c.args.toList,(c.argTypes.toList.head?).bind E.ty with
   |[x],some τ=>GF τ (ρ x) H K
   |_,_=>none
  | .builtin .append=>match c.args.toList,c.argTypes.toList with
   |[x,y],[t,t']=>match E.ty t with
    |some (.slice e)=>cond (Nat.beq t t') (nL H id (.own e []) (GG id e (ρ x) (ρ y) H K)) none
    |_=>none
   |_,_=>none
  | .builtin .max=>match c.args.toList with
   |x::r=>T0 true (ρ x) (r.map ρ) fun v=>K v [] []
   |_=>none
  | .builtin .min=>match c.args.toList with
   |x::r=>T0 false (ρ x) (r.map ρ) fun v=>K v [] []
   |_=>none
  | .value g=>match ρ g with
   | .GB f caps=>xL E f (c.args.toList.map ρ++caps) id H K
   |_=>none
  |_=>none
 |_=>none
noncomputable def pO(E:Env)(ops:List Oper)(o:Oper)(σ:St)(K:St→List Nat→List Nat→Option α):Option α:=
 let run (σ:St):Option α:=pL E o σ.ρ σ.H fun v rd ups=>K ((σ.rS ups).rH o.dst v) rd (ups.map (·.1))
 cond (GC E.nt E.io o.dst) (match o.guard with
 |none=>run σ
 |some (j,want)=>match(ops[j]?).bind (·.dst)with
  |none=>none
  |some t=>match σ.T t with
   | .val .bool b=>match want with
    |true=>cond b (run (σ.put t (.val .bool true))) (K ((σ.put t (.val .bool false)).rH o.dst .Qu) [] [])
    |false=>cond b (K ((σ.put t (.val .bool true)).rH o.dst .Qu) [] []) (run (σ.put t (.val .bool false)))
   | .Qu=>K (σ.rH o.dst .Qu) [] []
   |_=>none) none
abbrev Log:=List (Nat×List Nat×List Nat)
noncomputable def N3(E:Env)(ops:List Oper):List Oper→Nat→St→Log→(St→Log→Option α)→Option α
 |[],_,σ,lg,K=>K σ lg
 |o::r,i,σ,lg,K=>pO E ops o σ fun σ' rd wr=>N3 E ops r (i+1) σ' ((i,rd,wr)::lg) K
def pB:List Oper→List Nat→List Nat
 |[],acc=>acc
 |o::r,acc=>pB r (acc++[o.after.toList.foldl (fun s e=>cond (Region.binds .any e) (s|||2^e.on|||acc.getD e.on 0) s) 0])
def names(ops:List Oper)(o:Oper):List Nat:=
 (o.op.operands.toList.filterMap fun| .tmp t=>some t|_=>none)++
 (match o.guard with
  |some (g,_)=>((ops[g]?).bind (·.dst)).toList
  |none=>[])
def meets(a b:List Nat):Bool:=a.any fun x=>b.any fun y=>Nat.beq x y
def Qv(ops:List Oper):Bool:=
 let b:=pB ops []
 (ops.zipIdx.all fun(o,j)=>o.after.toList.all fun e=> !(Region.binds .any e)||Nat.blt e.on j)&&
 ops.zipIdx.all fun(o,j)=>ops.zipIdx.all fun(p,i)=>Nat.ble j i||(b.getD j 0).testBit i||
  !(meets p.dst.toList (o.dst.toList++names ops o)||meets o.dst.toList (names ops p))
def aa1(ops:List Oper)(lg:Log):Bool:=
 let b:=pB ops []
 lg.all fun x=>lg.all fun y=>Nat.ble x.1 y.1||(b.getD x.1 0).testBit y.1||
  !(meets y.2.2 (x.2.1++x.2.2)||meets y.2.1 x.2.2)
noncomputable def zy(E:Env)(ops:Array Oper)(draw:Bool)(σ:St)(K:St→Option α):Option α:=
 N3 E ops.toList ops.toList 0 σ [] fun σ' lg=>cond (!draw||(Qv ops.toList&&aa1 ops.toList lg)) (K σ') none
def e8:List (Nat×CM)→St→St→(St→Option α)→Option α
 |[],_,acc,K=>K acc
 |(s,.v τ)::r,σ,acc,K=>iZ true (σ.T s) σ.H τ fun x _ ups=>e8 r (σ.rS ups) (acc.put s (.val τ x)) K
 |(s,.own e)::r,σ,acc,K=>match σ.T s with
  | .emp=>e8 r σ ((acc.put s (.ref (16*s+14))).ix (16*s+14) (some (.own e []))) K
  | .ref id=>match σ.H id with
   |some (.own e' l)=>cv (.slice e') (.slice e) l fun x=>e8 r (σ.ix id (some .gone)) ((acc.put s (.ref (16*s+14))).ix (16*s+14) (some (.own e x))) K
   |_=>none
  |_=>none
 |(s,.obj τ)::r,σ,acc,K=>match σ.T s with
  | .fW id []=>match σ.H id with
   |some (.obj υ x)=>cv υ τ x fun y=>e8 r (σ.ix id (some .gone)) ((acc.put s (.fW (16*s+14) [])).ix (16*s+14) (some (.obj τ y))) K
   |some (.ej υ x q j)=>yR j q υ x σ.H fun z ups=>cv υ τ z fun y=>e8 r ((σ.rS ups).ix id (some .gone)) ((acc.put s (.fW (16*s+14) [])).ix (16*s+14) (some (.obj τ y))) K
   |_=>none
  |_=>none
 |(s,.ej τ q e)::r,σ,acc,K=>match σ.T s with
  | .fW id []=>match σ.H id with
   |some (.ej υ x q' j)=>cond (GA q q') (match σ.H j with
    |some (.own e' l)=>cv υ τ x fun y=>cv (.slice e') (.slice e) l fun l=>e8 r ((σ.ix j (some .gone)).ix id (some .gone))
     (((acc.put s (.fW (16*s+14) [])).ix (16*s+13) (some (.own e l))).ix (16*s+14) (some (.ej τ y q (16*s+13)))) K
    |_=>none) none
   |_=>none
  |_=>none
 |(s,.same s')::r,σ,acc,K=>match σ.T s,σ.T s',acc.T s' with
  | .ref i,.ref j,.ref j'=>cond (Nat.beq i j) (e8 r σ (acc.put s (.ref j')) K) none
  |_,_,_=>none
 |(s,.io τ)::r,σ,acc,K=>match σ.T s with
  | .fW id []=>cond (Nat.beq id (16*s+15)) (match σ.H id with
   |some (.obj υ x)=>cv υ τ x fun y=>e8 r (σ.ix id (some .gone)) ((acc.put s (.fW (16*s+15) [])).ix (16*s+15) (some (.obj τ y))) K
   |_=>none) none
  |_=>none
 |(s,.fn f τ)::r,σ,acc,K=>match σ.T s with
  | .GB f' c=>cond (Nat.beq f f') (nM σ.H τ c fun x _ ups=>match ups with
   |[]=>e8 r σ (acc.put s (.GB f (mY τ x))) K
   |_=>none) none
  |_=>none
def gJ:List (Nat×CM)→Bool
 |[]=>true
 |q::r=>r.all (fun p=> !(Nat.beq p.1 q.1))&&gJ r
def rY(L:Option (List (Nat×CM)))(σ:St)(K:St→Option α):Option α:=
 match L with
 |none=>K σ
 |some L=>e8 L σ ⟨fun _=> .any,fun _=>none⟩ K
def xN(L:Option (List (Nat×CM)))(step:St→(St→Option α)→Option α):Nat→St→Option α
 |0,_=>none
 |n+1,σ=>step σ fun σ'=>rY L σ' (xN L step n)
def bV:Code→Option Nat
 | .region id _ _=>some id
 | .seq a b=>match bV a with
  |some i=>some i
  |none=>bV b
 | .block _ c| .loop c| .scope c=>bV c
 |_=>none
def De(E:Env)(c:Operand)(σ:St)(A B:St→Option α):Option α:=
 match σ.ρ c with
 | .val .bool b=>match c with
  | .tmp t=>cond b (A (σ.put t (.val .bool true))) (B (σ.put t (.val .bool false)))
  |_=>cond b (A σ) (B σ)
 |_=>none
noncomputable def zz(E:Env)(c:Code):St→(St→Option α)→(Nat→St→Option α)→(St→Option α)→Option α:=
 Code.rec (motive:=fun _=>St→(St→Option α)→(Nat→St→Option α)→(St→Option α)→Option α)
  (fun σ k _ _=>k σ)
  (fun _ ops draw σ k _ _=>zy E ops draw σ k)
  (fun _ b A B σ k kx kr=>A σ (fun σ'=>rY ((bV b).bind E.tD) σ' fun rJ=>B rJ k kx kr) kx kr)
  (fun c _ _ A B σ k kx kr=>De E c σ (fun σ'=>A σ' k kx kr) (fun σ'=>B σ' k kx kr))
  (fun id _ A σ k kx kr=>A σ k (fun i σ'=>cond (Nat.beq i id) (k σ') (kx i σ')) kr)
  (fun b A σ _ kx kr=>rY ((bV b).bind E.rU) σ (xN ((bV b).bind E.rU) (fun σ' kn=>A σ' kn kx kr) E.N))
  (fun _ _ _ _ _ _ _ _ _ _=>none)
  (fun id σ _ kx _=>kx id σ)
  (fun _ A σ k kx kr=>A σ k kx kr)
  (fun _ σ k _ _=>k σ)
  (fun _ _ _ _ _=>none)
  (fun σ _ _ kr=>kr σ)
  (fun _ _ _ _ _=>none)
  c
noncomputable def rK(E:Env):List Nat→Code→List (St→Option α)→St→(St→Option α)→(Nat→St→Option α)→(St→Option α)→Option α
 |[],c,_,σ,k,kx,kr=>zz E c σ k kx kr
 |n::p,c,ks,σ,k,kx,kr=>match c with
  | .seq a b=>match n with
   |0=>rK E p a ks σ (fun σ'=>rY ((bV b).bind E.tD) σ' fun rJ=>zz E b rJ k kx kr) kx kr
   |_=>rK E p b ks σ k kx kr
  | .cond _ a b=>match n with
   |0=>rK E p a ks σ k kx kr
   |_=>rK E p b ks σ k kx kr
  | .block id c=>rK E p c ks σ k (fun i σ'=>cond (Nat.beq i id) (k σ') (kx i σ')) kr
  | .loop b=>match ks with
   |κ::ks=>rK E p b ks σ κ kx kr
   |[]=>none
  | .scope c=>rK E p c ks σ k kx kr
  |_=>none
def KO(m:AM)(x:m.den)(i:Nat)(σ:St):St:=
 match m,x with
 | .v τ,x=>σ.put i (.val τ x)
 | .own e,x=>(σ.put i (.ref (16*i+15))).ix (16*i+15) (some (.own e x))
 | .io τ,x=>(σ.put i (.fW (16*i+15) [])).ix (16*i+15) (some (.obj τ x))
 | .fn f τ,x=>σ.put i (.GB f (mY τ x))
 | .ptr _,_=>σ
 | .fW τ,x=>σ.put i (.nK τ x)
def entry:(ms:List AM)→HP ms→Nat→St→St
 |[],_,_,σ=>σ
 |[m],x,i,σ=>KO m x i σ
 |m::n::ms,x,i,σ=>entry (n::ms) x.2 (i+1) (KO m x.1 i σ)
def Df(E:Env)(m:AM)(r:ResultVar ⊕ Nat)(σ:St)(K:m.den→St→Option α):Option α:=
 match m,r,K with
 | .v τ,.inl (.tmp t),K=>iZ true (σ.T t) σ.H τ fun x _ ups=>K x (σ.rS ups)
 | .v τ,.inl (.cell a t),K=>match E.ty t with
  |some τ'=>jY τ' τ (ir (σ.T a) σ.H fun υ y _=>cv υ τ y fun x=>K x σ)
  |none=>none
 | .own e,.inl (.tmp t),K=>match σ.T t with
  | .emp=>K [] σ
  | .ref id=>match σ.H id with
   |some (.own e' l)=>cv (.slice e') (.slice e) l fun x=>K x (σ.ix id (some .gone))
   |_=>none
  |_=>none
 | .io τ,.inr i,K=>match σ.T i with
  | .fW id []=>match σ.H id with
   |some (.obj υ x)=>cv υ τ x fun y=>K y (σ.ix id (some .gone))
   |_=>none
  |_=>none
 | .ptr τ,.inl (.tmp t),K=>match σ.T t with
  | .fW id []=>match σ.H id with
   |some (.obj υ x)=>cv υ τ x fun y=>K y (σ.ix id (some .gone))
   |_=>none
  |_=>none
 |_,_,_=>none
def EI(E:Env):(ms:List AM)→List (ResultVar ⊕ Nat)→St→(HP ms→Option α)→Option α
 |[],[],_,K=>K ()
 |[m],[r],σ,K=>Df E m r σ fun x _=>K x
 |m::n::ms,r::rs,σ,K=>Df E m r σ fun x σ'=>EI E (n::ms) rs σ' fun xs=>K (x,xs)
 |_,_,_,_=>none
def wV:List AM→Nat→List (ResultVar ⊕ Nat)
 |[],_=>[]
 | .io _::ms,i=> .inr i::wV ms (i+1)
 |_::ms,i=>wV ms (i+1)
noncomputable def GK(E:Env)(fn:Func)(args res:List AM)(x:HP args):Option (HP res):=
 match fn.body with
 |none=>none
 |some c=>
  let kr:St→Option (HP res):=fun σ=>EI E res (fn.results.toList.map .inl++wV args 0) σ some
  zz E c (entry args x 0 ⟨fun _=> .any,fun _=>none⟩) kr (fun _ _=>none) kr
end
end VM
end
section
namespace VM
open Go
noncomputable def oT(N:Nat)(x y c:Int):Option (Int×Int):=if 0≤x∧0≤y∧0≤c∧c≤1 then some ((x+y+c)%18446744073709551616,(x+y+c)/18446744073709551616)else none
noncomputable def oU(N:Nat)(x y c:Int):Option (Int×Int):=if 0≤x∧x<18446744073709551616∧0≤y∧y<18446744073709551616∧0≤c∧c≤1 then some ((x+18446744073709551616-y-c)%18446744073709551616,if x<y+c then 1 else 0)else none
noncomputable def gZ{α:Type}(N:Nat)(l:List α)(i:Int)(v:List α):Option (List α):=if 0≤i∧i≤l.length∧v.length=1∧l.length+1<u7 then some (l.take i.toNat++(v++l.drop i.toNat))else none
noncomputable def Us{α:Type}(N:Nat)(l:List α)(n:Int):Option (List α):=match l with
 |[x]=>if 0<n∧n<1048576 then some (List.replicate n.toNat x)else none
 |_=>none
noncomputable def oT.S(N:Nat):iD:={args:=[.v (.int .u64),.v (.int .u64),.v (.int .u64)],res:=[.v (.int .u64),.v (.int .u64)],quiet:=true,run:=fun x=>oT N x.1 x.2.1 x.2.2}
noncomputable def oU.S(N:Nat):iD:={args:=[.v (.int .u64),.v (.int .u64),.v (.int .u64)],res:=[.v (.int .u64),.v (.int .u64)],quiet:=true,run:=fun x=>oU N x.1 x.2.1 x.2.2}
noncomputable def g5(e:Ty)(N:Nat):iD:={args:=[.own e,.v (.int .i64),.own e],res:=[.own e],quiet:=false,run:=fun x=>gZ N x.1 x.2.1 x.2.2}
noncomputable def amt(e:Ty)(N:Nat):iD:={args:=[.v (.slice e),.v (.int .i64)],res:=[.own e],quiet:=false,run:=fun x=>Us N x.1 x.2}
noncomputable def kU{α:Type}(N:Nat)(l:List α):Option (List α):=if l.length<u7 then some l else none
noncomputable def rZ(e:Ty)(N:Nat):iD:={args:=[.v (.slice e)],res:=[.own e],quiet:=false,run:=fun x=>kU N x}
end VM
namespace VM
abbrev bL:Int×Int×Unit:=((0:Int),((0:Int),()))
abbrev bE:List (Int×Int×Unit):=[]
abbrev aM:Int×Int×Int×Unit:=((0:Int),((0:Int),((0:Int),())))
abbrev aX:List (Int×Int×Int×Unit):=[]
abbrev aJ:Int×Int×Int×Int×Unit:=((0:Int),((0:Int),((0:Int),((0:Int),()))))
abbrev cg:List (Int×Int×Int×Int×Unit):=[]
abbrev dX:Int×Int×Int×Int×Int×Unit:=((0:Int),((0:Int),((0:Int),((0:Int),((0:Int),())))))
abbrev zA:List (Int×Int×Int×Int×Int×Unit):=[]
abbrev dT:Int×Int×Int×Int×Int×Int×Unit:=((0:Int),((0:Int),((0:Int),((0:Int),((0:Int),((0:Int),()))))))
abbrev cK:List (Int×Int×Int×Int×Int×Int×Unit):=[]
abbrev zz7:Int×Int×Int×Int×Int×Int×Int×Unit:=((0:Int),((0:Int),((0:Int),((0:Int),((0:Int),((0:Int),((0:Int),())))))))
abbrev ee7:List (Int×Int×Int×Int×Int×Int×Int×Unit):=[]
abbrev zz8:Int×Int×Int×Int×Int×Int×Int×Int×Unit:=((0:Int),((0:Int),((0:Int),((0:Int),((0:Int),((0:Int),((0:Int),((0:Int),()))))))))
abbrev ee8:List (Int×Int×Int×Int×Int×Int×Int×Int×Unit):=[]
abbrev cC:List Int:=[]
abbrev kV:List Int×Unit:=(cC,())
end VM
end
section
namespace VM
open Go
def At(w:World)(b off:Nat)(cs:List Value):Prop:= ∀j v,cs[j]? =some v→w.cell? ⟨b,off+j,none⟩=some v
def Rd(w:World)(M:Nat→Prop):(τ:Ty)→List Value→τ.den→Prop
 | .int k,cs,x=>cs=[.int k x]
 | .bool,cs,x=>cs=[.bool x]
 | .str,cs,x=>cs=[.string x]
 | .slice e,cs,x=> ∃a cap,cs=[.slice a (List.length x) cap]∧List.length x≤cap∧
  ∀i (h:i<List.length x),∃b off,a=some ⟨b,off,none⟩∧b<w.heap.size∧ ¬M b∧ ∃cs',At w b (off+i*e.size) cs'∧Rd w M e cs' (List.get x ⟨i,h⟩)
 | .unit,cs,_=>cs=[]
 | .pair a b,cs,x=> ∃c1 c2,cs=c1++c2∧Rd w M a c1 x.1∧Rd w M b c2 x.2
 | .arr n e,cs,x=>List.length x=n∧ ∃N4:List (List Value),N4.length=n∧cs=N4.flatten∧
  ∀i (h:i<List.length x) (h':i<N4.length),Rd w M e N4[i] (List.get x ⟨i,h⟩)
theorem lQ{α:Type}(n:Nat): ∀(l:List (List α)),(∀i (h:i<l.length),l[i].length=n)→l.flatten.length=l.length*n
 |[],_=>by simp
 |a::l,h=>by
  have h0:=h 0 (by simp)
  have ih:=lQ n l (fun i hi=>h (i+1) (by simp;omega))
  simp only[aBi]at h0
  simp only[aBj,ayH,ayI,ih,h0,azx]
  omega
theorem Rd.length{w:World}{M:Nat→Prop}: ∀{τ:Ty} {cs:List Value} {x:τ.den},Rd w M τ cs x→cs.length=τ.size
 | .int _,_,_,h=>by simp only[Rd]at h;subst h;rfl
 | .bool,_,_,h=>by simp only[Rd]at h;subst h;rfl
 | .str,_,_,h=>by simp only[Rd]at h;subst h;rfl
 | .slice _,_,_,h=>by simp only[Rd]at h;obtain⟨a,cap,rfl,_⟩:=h;rfl
 | .unit,_,_,h=>by simp only[Rd]at h;subst h;rfl
 | .pair a b,_,_,h=>by
  simp only[Rd]at h
  obtain⟨c1,c2,rfl,h1,h2⟩:=h
  rw[ayH,h1.length,h2.length];rfl
 | .arr n e,_,x,h=>by
  simp only[Rd]at h
  obtain⟨hn,N4,hc,rfl,hr⟩:=h
  rw[lQ e.size N4 (fun i hi=>(hr i (by omega) hi).length),hc];rfl
structure dy(w:World)(M:Nat→Prop)(w':World)(M':Nat→Prop):Prop where
 size:w.heap.size≤w'.heap.size
 block: ∀b,b<w.heap.size→ ¬M b→w'.heap[b]? =w.heap[b]?
 less: ∀b,b<w.heap.size→M' b→M b
theorem ab8{w:World}{b o:Nat}{v:Value}(h:w.cell? ⟨b,o,none⟩=some v):b<w.heap.size:=by
 simp only[World.cell?]at h
 rcases aA5 b w.heap.size with hb|hb
 ·exact hb
 ·simp[aBS hb]at h
theorem At.bD{w w':World}{b off:Nat}{cs:List Value}(h:At w b off cs)(hb:w'.heap[b]? =w.heap[b]?):At w' b off cs:=by
 intro j v hj
 have:=h j v hj
 rw[World.cell?_of_block (w:=w) hb]
 exact this
theorem At.append{w:World}{b off:Nat}{c1 c2:List Value}:At w b off (c1++c2)↔At w b off c1∧At w b (off+c1.length) c2:=by
 constructor
 ·intro h
  refine⟨fun j v hj=>h j v (by rw[azN];exact hj;exact(azU.1 hj).1),fun j v hj=> ?_⟩
  have:=h (c1.length+j) v (by rw[azu (by omega)];simpa using hj)
  rw[aAH];exact this
 ·rintro⟨h1,h2⟩ j v hj
  by_cases dH:j<c1.length
  ·rw[azN dH]at hj;exact h1 j v hj
  ·rw[azu (by omega)]at hj
   have:=h2 (j-c1.length) v hj
   rwa [show off+c1.length+(j-c1.length)=off+j from by omega]at this
theorem Rd.bD{w w':World}{M M':Nat→Prop}(k:dy w M w' M'): ∀{τ:Ty} {cs:List Value} {x:τ.den},Rd w M τ cs x→Rd w' M' τ cs x
 | .int _,_,_,h=>h
 | .bool,_,_,h=>h
 | .str,_,_,h=>h
 | .slice e,_,x,h=>by
  simp only[Rd]at h ⊢
  obtain⟨a,cap,rfl,hc,hr⟩:=h
  refine⟨a,cap,rfl,hc,fun i hi=> ?_⟩
  obtain⟨b,off,ha,hb,hm,cs',lG,iu⟩:=hr i hi
  exact⟨b,off,ha,azP hb k.size,fun h'=>hm (k.less b hb h'),_,lG.bD (k.block b hb hm),iu.bD k⟩
 | .unit,_,_,h=>h
 | .pair a b,_,_,h=>by
  simp only[Rd]at h ⊢
  obtain⟨c1,c2,rfl,h1,h2⟩:=h
  exact⟨c1,c2,rfl,h1.bD k,h2.bD k⟩
 | .arr n e,_,x,h=>by
  simp only[Rd]at h ⊢
  obtain⟨hn,N4,hc,rfl,hr⟩:=h
  exact⟨hn,N4,hc,rfl,fun i hi lR=>(hr i hi lR).bD k⟩
theorem dy.refl(w:World)(M:Nat→Prop):dy w M w M:=⟨ayJ _,fun _ _ _=>rfl,fun _ _ h=>h⟩
theorem dy.trans{w w' w'':World}{M M' Kp:Nat→Prop}(h:dy w M w' M')(k:dy w' M' w'' Kp):dy w M w'' Kp:=
 ⟨azl h.size k.size,fun b hb hm=>(k.block b (azP hb h.size) (fun h'=>hm (h.less b hb h'))).trans (h.block b hb hm),
  fun b hb hm=>h.less b hb (k.less b (azP hb h.size) hm)⟩
def V(w:World)(M:Nat→Prop)(τ:Ty)(v:Value)(x:τ.den):Prop:=
 if τ.isAgg then ∃cs,v= .agg cs∧Rd w M τ cs.toList x else Rd w M τ [v] x
theorem V.bD{w w':World}{M M':Nat→Prop}(k:dy w M w' M'){τ:Ty}{v:Value}{x:τ.den}(h:V w M τ v x):V w' M' τ v x:=by
 unfold V at*
 split
 ·rename_i ha;rw[ayF ha]at h;obtain⟨cs,rfl,h⟩:=h;exact⟨cs,rfl,h.bD k⟩
 ·rename_i ha;rw[ayE ha]at h;exact h.bD k
theorem Rd.scalar{w:World}{M:Nat→Prop}{τ:Ty}{cs:List Value}{x:τ.den}(ha:τ.isAgg=false)(h:Rd w M τ cs x): ∃v,cs=[v]∧v.cells= #[v]:=by
 cases τ<;>simp only[Ty.isAgg,Bool.true_eq_false]at ha<;>simp only[Rd]at h
 ·exact⟨_,h,rfl⟩
 ·exact⟨_,h,rfl⟩
 ·exact⟨_,h,rfl⟩
 ·obtain⟨a,cap,rfl,_⟩:=h;exact⟨_,rfl,rfl⟩
theorem V.cells{w:World}{M:Nat→Prop}{τ:Ty}{v:Value}{x:τ.den}(h:V w M τ v x):Rd w M τ v.cells.toList x:=by
 unfold V at h
 by_cases ha:τ.isAgg=true
 ·rw[ayF ha]at h;obtain⟨cs,rfl,h⟩:=h;exact h
 ·rw[ayE ha]at h
  obtain⟨v',hv,hc⟩:=h.scalar (by simpa using ha)
  simp only[azq,az4]at hv
  subst hv
  rw[hc];exact h
def bU(τ:Ty)(cs:List Value):Value:=if τ.isAgg then .agg cs.toArray else cs.headD (.tuple #[])
theorem V.bU{w:World}{M:Nat→Prop}{τ:Ty}{cs:List Value}{x:τ.den}(h:Rd w M τ cs x):V w M τ (bU τ cs) x:=by
 unfold V VM.bU
 by_cases ha:τ.isAgg=true
 ·rw[ayF ha,ayF ha];exact⟨_,rfl,by simpa using h⟩
 ·rw[ayE ha,ayE ha]
  obtain⟨v',rfl,_⟩:=h.scalar (by simpa using ha)
  exact h
theorem Cx{w:World}{M:Nat→Prop}{τ:Ty}{cs:List Value}{x:τ.den}(h:Rd w M τ cs x):(bU τ cs).cells.toList=cs:=by
 unfold VM.bU
 by_cases ha:τ.isAgg=true
 ·rw[ayF ha];simp[Value.cells]
 ·rw[ayE ha]
  obtain⟨v',rfl,hc⟩:=h.scalar (by simpa using ha)
  simp[hc]
theorem Rd.lH{w:World}{M:Nat→Prop}: ∀{τ:Ty} {cs:List Value} {x:τ.den},Rd w M τ cs x→ ∀v∈cs,v.oneCell'=true
 | .int _,_,_,h=>by simp only[Rd]at h;subst h;simp[Value.oneCell']
 | .bool,_,_,h=>by simp only[Rd]at h;subst h;simp[Value.oneCell']
 | .str,_,_,h=>by simp only[Rd]at h;subst h;simp[Value.oneCell']
 | .slice _,_,_,h=>by simp only[Rd]at h;obtain⟨a,cap,rfl,_⟩:=h;simp[Value.oneCell']
 | .unit,_,_,h=>by simp only[Rd]at h;subst h;simp
 | .pair a b,_,_,h=>by
  simp only[Rd]at h
  obtain⟨c1,c2,rfl,h1,h2⟩:=h
  intro v hv
  rcases ayU.1 hv with hv|hv
  ·exact h1.lH v hv
  ·exact h2.lH v hv
 | .arr n e,_,x,h=>by
  simp only[Rd]at h
  obtain⟨hn,N4,hc,rfl,hr⟩:=h
  intro v hv
  obtain⟨l,hl,hvl⟩:=List.mem_flatten.1 hv
  obtain⟨i,hi,rfl⟩:=az5.1 hl
  exact(hr i (by omega) hi).lH v hvl
def Ty.cy:Ty→List Value
 | .int k=>[.int k 0]
 | .bool=>[.bool false]
 | .str=>[.string ByteArray.empty]
 | .slice _=>[.slice none 0 0]
 | .unit=>[]
 | .pair a b=>a.cy++b.cy
 | .arr n e=>(List.replicate n e.cy).flatten
theorem Rd.zero(w:World)(M:Nat→Prop): ∀(τ:Ty),Rd w M τ τ.cy τ.zero
 | .int _| .bool| .str| .unit=>by simp[Rd,Ty.cy,Ty.zero]
 | .slice _=>by
  simp only[Rd,Ty.cy,Ty.zero]
  exact⟨none,0,rfl,ayJ _,fun i h=>absurd h (by simp)⟩
 | .pair a b=>by
  simp only[Rd,Ty.cy,Ty.zero]
  exact⟨_,_,rfl,Rd.zero w M a,Rd.zero w M b⟩
 | .arr n e=>by
  simp only[Rd,Ty.cy,Ty.zero]
  refine⟨by simp,_,by simp,rfl,fun i h h'=> ?_⟩
  simp only[aBT,aBx]
  exact Rd.zero w M e
end VM
end
section
namespace VM
open Go
def EJ(P:Program)(τ:Ty)(t:TypeId):Prop:=
 ∃i,P.info? t=some i∧i.size=τ.size∧i.zero=some (bU τ τ.cy)∧i.bytes≤2048
def dU(P:Program):Ty→TypeId ⊕ (Array Field×Nat×Nat)→Prop
 | .int k,.inl t=>EJ P (.int k) t∧P.underlying t=some (.int k)
 | .bool,.inl t=>EJ P .bool t∧P.underlying t=some .bool
 | .str,.inl t=>EJ P .str t∧P.underlying t=some .string
 | .slice e,.inl t=>EJ P (.slice e) t∧ ∃e',P.underlying t=some (.slice e')∧dU P e (.inl e')
 | .arr n e,.inl t=>EJ P (.arr n e) t∧ ∃e',P.underlying t=some (.array n e')∧dU P e (.inl e')
 | .unit,.inl t=>EJ P .unit t∧ ∃fs,P.underlying t=some (.struct fs)∧fs.size=0
 | .unit,.inr (fs,n,_)=>fs.size=n
 | .pair a b,.inl t=>EJ P (.pair a b) t∧ ∃fs f,P.underlying t=some (.struct fs)∧fs[0]? =some f∧f.offset=0∧dU P a (.inl f.type)∧dU P b (.inr (fs,1,a.size))
 | .pair a b,.inr (fs,n,off)=> ∃f,fs[n]? =some f∧f.offset=off∧dU P a (.inl f.type)∧dU P b (.inr (fs,n+1,off+a.size))
 |_,.inr _=>False
def g6(P:Program)(τ:Ty)(t:TypeId):Prop:=dU P τ (.inl t)
theorem g6.base{P:Program}{τ:Ty}{t:TypeId}(h:g6 P τ t):EJ P τ t:=by
 unfold g6 at h;cases τ<;>simp only[dU]at h<;>exact h.1
theorem g6.int{P:Program}{k:IntKind}{t:TypeId}(h:g6 P (.int k) t):P.underlying t=some (.int k):=by simp only[g6,dU]at h;exact h.2
theorem g6.bool{P:Program}{t:TypeId}(h:g6 P .bool t):P.underlying t=some .bool:=by simp only[g6,dU]at h;exact h.2
theorem g6.str{P:Program}{t:TypeId}(h:g6 P .str t):P.underlying t=some .string:=by simp only[g6,dU]at h;exact h.2
theorem g6.slice{P:Program}{e:Ty}{t:TypeId}(h:g6 P (.slice e) t): ∃e',P.underlying t=some (.slice e')∧g6 P e e':=by simp only[g6,dU]at h;exact h.2
theorem g6.arr{P:Program}{n:Nat}{e:Ty}{t:TypeId}(h:g6 P (.arr n e) t): ∃e',P.underlying t=some (.array n e')∧g6 P e e':=by simp only[g6,dU]at h;exact h.2
theorem g6.isSome{P:Program}{τ:Ty}{t:TypeId}(h:g6 P τ t):(P.underlying t).isSome=true:=by
 unfold g6 at h
 cases τ<;>simp only[dU]at h
 ·simp[h.2]
 ·simp[h.2]
 ·simp[h.2]
 ·obtain⟨_,e',h',_⟩:=h;simp[h']
 ·obtain⟨_,e',h',_⟩:=h;simp[h']
 ·obtain⟨_,e',f,h',_⟩:=h;simp[h']
 ·obtain⟨_,e',h',_⟩:=h;simp[h']
inductive yT:(τ:Ty)→τ.den→Nat→(υ:Ty)→υ.den→Nat→Prop where
 |here {a b:Ty} (x:(Ty.pair a b).den):yT (.pair a b) x 0 a x.1 0
 |there {a b:Ty} (x:(Ty.pair a b).den) {n:Nat} {υ:Ty} {y:υ.den} {o:Nat} (h:yT b x.2 n υ y o):yT (.pair a b) x (n+1) υ y (a.size+o)
theorem pP{α:Type}{r:α}: ∀{τ:Ty} {x:τ.den} {n:Nat} {k:(υ:Ty)→υ.den→Option α},tC τ x n k=some r→ ∃υ y o,yT τ x n υ y o∧k υ y=some r
 | .pair a b,x,0,k,h=>⟨a,x.1,0,.here x,h⟩
 | .pair a b,x,n+1,k,h=>by
  obtain⟨υ,y,o,hf,hk⟩:=pP (τ:=b) (x:=x.2) (n:=n) (k:=k) h
  exact⟨υ,y,_,.there x hf,hk⟩
 | .int _,_,_,_,h| .bool,_,_,_,h| .str,_,_,_,h| .slice _,_,_,_,h| .unit,_,_,_,h| .arr _ _,_,_,_,h=>by simp[tC]at h
theorem yT.bound{τ:Ty}{x:τ.den}{n:Nat}{υ:Ty}{y:υ.den}{o:Nat}(h:yT τ x n υ y o):o+υ.size≤τ.size:=by
 induction h with
 |here x=>simp[Ty.size]
 |there x h ih=>simp only[Ty.size];omega
theorem yT.rd{w:World}{M:Nat→Prop}{τ:Ty}{x:τ.den}{n:Nat}{υ:Ty}{y:υ.den}{o:Nat}(h:yT τ x n υ y o):
  ∀{cs:List Value},Rd w M τ cs x→Rd w M υ ((cs.drop o).take υ.size) y:=by
 induction h with
 |here x=>
  intro cs hr
  simp only[Rd]at hr
  obtain⟨c1,c2,rfl,h1,_⟩:=hr
  rw[ay7,aBb h1.length];exact h1
 |there x h ih=>
  intro cs hr
  simp only[Rd]at hr
  obtain⟨c1,c2,rfl,h1,h2⟩:=hr
  rw[←azR,aAh h1.length]
  exact ih h2
theorem dU.gX{P:Program}{τ:Ty}{x:τ.den}{m:Nat}{υ:Ty}{y:υ.den}{o:Nat}(h:yT τ x m υ y o):
  ∀{fs:Array Field} {n off:Nat},dU P τ (.inr (fs,n,off))→ ∃f,fs[n+m]? =some f∧f.offset=off+o∧g6 P υ f.type:=by
 induction h with
 |here x=>
  intro fs n off hl
  simp only[dU]at hl
  obtain⟨f,hf,ho,ha,_⟩:=hl
  exact⟨f,hf,by simpa using ho,ha⟩
 |there x h ih=>
  intro fs n off hl
  simp only[dU]at hl
  obtain⟨f,hf,ho,_,hb⟩:=hl
  obtain⟨f',yU,Ut,Gq⟩:=ih hb
  exact⟨f',by rw[←yU];congr 1;omega,by omega,Gq⟩
theorem g6.gX{P:Program}{τ:Ty}{t:TypeId}{x:τ.den}{m:Nat}{υ:Ty}{y:υ.den}{o:Nat}(hl:g6 P τ t)(h:yT τ x m υ y o):
  ∃fs f,P.underlying t=some (.struct fs)∧fs[m]? =some f∧f.offset=o∧g6 P υ f.type:=by
 unfold g6 at hl
 cases h with
 |here x=>
  simp only[dU]at hl
  obtain⟨_,fs,f,hu,hf,ho,ha,_⟩:=hl
  exact⟨fs,f,hu,hf,ho,ha⟩
 |there x h=>
  simp only[dU]at hl
  obtain⟨_,fs,f,hu,hf,ho,_,hb⟩:=hl
  obtain⟨f',yU,Ut,Gq⟩:=dU.gX h hb
  exact⟨fs,f',hu,by rw[←yU];congr 1;omega,by omega,Gq⟩
inductive EK:List Step→(τ:Ty)→τ.den→(υ:Ty)→υ.den→Nat→Prop where
 |nil {τ:Ty} (x:τ.den):EK [] τ x τ x 0
 |gX {p:List Step} {τ υ σ:Ty} {x:τ.den} {n o:Nat} {y:υ.den} {z:σ.den} {q:Nat} (h:yT τ x n υ y o) (r:EK p υ y σ z q):EK (.gX n::p) τ x σ z (o+q)
 |idx {p:List Step} {n:Nat} {e σ:Ty} {x:(Ty.arr n e).den} {i:Nat} {z:σ.den} {q:Nat} (r:EK p e (List.getD x i e.zero) σ z q):EK (.idx i::p) (.arr n e) x σ z (i*e.size+q)
theorem gK{α:Type}{r:α}: ∀{p:List Step} {τ:Ty} {x:τ.den} {k:(υ:Ty)→υ.den→Option α},vh p τ x k=some r→ ∃υ y o,EK p τ x υ y o∧k υ y=some r
 |[],τ,x,k,h=>⟨τ,x,0,.nil x,h⟩
 | .gX n::p,τ,x,k,h=>by
  obtain⟨υ,y,o,hf,h'⟩:=pP (h:tC τ x n _=some r)
  obtain⟨σ,z,q,hp,hk⟩:=gK h'
  exact⟨σ,z,_,.gX hf hp,hk⟩
 | .idx i::p,τ,x,k,h=>by
  cases τ with
  |arr n e=>
   obtain⟨σ,z,q,hp,hk⟩:=gK (p:=p) (τ:=e) (x:=List.getD x i e.zero) (k:=k) h
   exact⟨σ,z,_,.idx hp,hk⟩
  |_=>simp[vh,ab7]at h
def rL:Ty→Nat→Ty
 | .pair a b,n=>match n with|0=>a|n+1=>rL b n
 |τ,_=>τ
def oF:Ty→Nat→Nat
 | .pair a b,n=>match n with|0=>0|n+1=>a.size+oF b n
 |_,_=>0
def elT:Ty→Ty
 | .arr _ e=>e
 |τ=>τ
def Cy:List Step→Ty→Ty
 |[],τ=>τ
 | .gX n::p,τ=>Cy p (rL τ n)
 | .idx _::p,τ=>Cy p (elT τ)
def bQ:List Step→Ty→Nat
 |[],_=>0
 | .gX n::p,τ=>oF τ n+bQ p (rL τ n)
 | .idx i::p,τ=>i*(elT τ).size+bQ p (elT τ)
def tE:List Step→Ty→Prop
 |[],_=>True
 | .gX n::p,τ=>tE p (rL τ n)
 | .idx i::p,τ=>(∃n e,τ= .arr n e∧i<n)∧tE p (elT τ)
theorem yT.eq{τ:Ty}{x:τ.den}{n:Nat}{υ:Ty}{y:υ.den}{o:Nat}(h:yT τ x n υ y o):υ=rL τ n∧o=oF τ n:=by
 induction h with
 |here x=>exact⟨rfl,rfl⟩
 |there x h ih=>obtain⟨rfl,rfl⟩:=ih;exact⟨rfl,rfl⟩
theorem EK.eq{p:List Step}{τ:Ty}{x:τ.den}{υ:Ty}{y:υ.den}{o:Nat}(h:EK p τ x υ y o):υ=Cy p τ∧o=bQ p τ:=by
 induction h with
 |nil x=>exact⟨rfl,rfl⟩
 |gX h r ih=>
  obtain⟨h1,h2⟩:=h.eq
  obtain⟨h3,h4⟩:=ih
  subst h1 h2 h3 h4
  exact⟨rfl,rfl⟩
 |idx r ih=>
  obtain⟨h3,h4⟩:=ih
  subst h3 h4
  exact⟨rfl,rfl⟩
theorem aca(p q:List Step): ∀τ,Cy (p++q) τ=Cy q (Cy p τ):=by
 induction p with
 |nil=>intro τ;rfl
 |cons s p ih=>intro τ;cases s<;>simp[Cy,ih]
theorem oV(p q:List Step): ∀τ,bQ (p++q) τ=bQ p τ+bQ q (Cy p τ):=by
 induction p with
 |nil=>intro τ;simp[bQ,Cy]
 |cons s p ih=>intro τ;cases s<;>simp[bQ,Cy,ih,aAH]
theorem oW(p q:List Step): ∀τ,tE (p++q) τ↔tE p τ∧tE q (Cy p τ):=by
 induction p with
 |nil=>intro τ;simp[tE,Cy]
 |cons s p ih=>intro τ;cases s<;>simp[tE,Cy,ih,and_assoc]
theorem g7{α:Type}(l:List α)(i:Nat)(d:α)(h:i<l.length):l.getD i d=l[i]:=by simp[List.getD,ayG h]
theorem vi{α:Type}(n:Nat): ∀(l:List (List α)) (i:Nat) (h:i<l.length),(∀j (hj:j<l.length),l[j].length=n)→(l.flatten.drop (i*n)).take n=l[i]
 |a::l,0,_,hn=>by
  have:=hn 0 (by simp)
  simp only[aBi]at this
  simp[←this]
 |a::l,i+1,h,hn=>by
  have h0:=hn 0 (by simp)
  simp only[aBi]at h0
  rw[aBj,azx,aAw,Nat.add_comm (i*n) n,←azR,aAh h0]
  exact vi n l i (by simpa using h) (fun j hj=>hn (j+1) (by simp;omega))
theorem Rd.idx{w:World}{M:Nat→Prop}{n:Nat}{e:Ty}{cs:List Value}{x:(Ty.arr n e).den}(h:Rd w M (.arr n e) cs x){i:Nat}(hi:i<n):
  Rd w M e ((cs.drop (i*e.size)).take e.size) (List.getD x i e.zero):=by
 simp only[Rd]at h
 obtain⟨hn,N4,hc,rfl,hr⟩:=h
 rw[vi e.size N4 i (by omega) (fun j hj=>(hr j (by omega) hj).length),g7 x i e.zero (by omega)]
 exact hr i (by omega) (by omega)
theorem EK.bound{p:List Step}{τ:Ty}{x:τ.den}{υ:Ty}{y:υ.den}{o:Nat}(h:EK p τ x υ y o):tE p τ→o+υ.size≤τ.size:=by
 induction h with
 |nil x=>intro _;simp
 |gX h r ih=>
  intro hi
  obtain⟨h1,h2⟩:=h.eq
  subst h1
  have:=ih hi
  have:=h.bound
  omega
 | @idx p n e σ x i z q r ih=>
  intro hi
  obtain⟨⟨n',e',he,gD⟩,lR⟩:=hi
  cases he
  have:=ih lR
  have h2:(i+1)*e.size≤n*e.size:=azy _ gD
  rw[azx]at h2
  simp only[Ty.size]
  omega
theorem EK.rd{w:World}{M:Nat→Prop}{p:List Step}{τ:Ty}{x:τ.den}{υ:Ty}{y:υ.den}{o:Nat}(h:EK p τ x υ y o):
  tE p τ→ ∀{cs:List Value},Rd w M τ cs x→Rd w M υ ((cs.drop o).take υ.size) y:=by
 induction h with
 |nil x=>intro _ cs hr;rw[ay7,azo (by rw[hr.length];exact ayJ _)];exact hr
 |gX h r ih=>
  intro hi cs hr
  obtain⟨h1,h2⟩:=h.eq
  subst h1
  have:=ih hi (h.rd hr)
  have hb:=EK.bound r hi
  rw[aAJ,azR,aAK,azF (by omega)]at this
  exact this
 | @idx p n e σ x i z q r ih=>
  intro hi cs hr
  obtain⟨⟨n',e',he,gD⟩,lR⟩:=hi
  cases he
  have:=ih lR (hr.idx gD)
  have hb:=EK.bound r lR
  rw[aAJ,azR,aAK,azF (by omega)]at this
  exact this
def dz{α:Type}(cs:List α)(o:Nat)(new:List α):List α:=cs.take o++new++cs.drop (o+new.length)
theorem vj{α:Type}{a b:List α}{o:Nat}{new:List α}(h:o+new.length≤a.length):dz (a++b) o new=dz a o new++b:=by
 unfold dz
 rw[aAp (by omega),aAq (by omega)]
 simp only[ayP]
theorem sY{α:Type}{a b:List α}{o:Nat}{new:List α}:dz (a++b) (a.length+o) new=a++dz b o new:=by
 unfold dz
 rw[List.take_append,azo (by omega),aAL,aAH,List.drop_append,azr (by omega),aAL]
 simp
theorem eE{α:Type}{a:List α}{o:Nat}{new:List α}(h:o+new.length≤a.length):(dz a o new).length=a.length:=by
 unfold dz;simp;omega
theorem EL{α:Type}{a:List α}{o i n:Nat}{new:List α}(h:i+n≤o∨o+new.length≤i)(hl:o+new.length≤a.length):((dz a o new).drop i).take n=(a.drop i).take n:=by
 apply aBk
 intro j
 simp only[azJ,azK]
 split
 ·rename_i hj
  unfold dz
  rcases h with h|h
  ·rw[ayP,azN (by simp;omega),azJ,ayF (by omega)]
  ·rw[azu (by simp;omega)]
   simp only[ayH,ayX,azF (show o≤a.length by omega),azK]
   congr 1;omega
 ·rfl
theorem acb{α:Type}{a:List α}{o:Nat}{new:List α}(hl:o+new.length≤a.length):((dz a o new).drop o).take new.length=new:=by
 unfold dz
 rw[ayP,aAh (by simp;omega),aBb rfl]
theorem GM{α:Type}{l:List α}{o:Nat}{u:α}(h:l[o]? =some u):dz l o [u]=l:=by
 obtain⟨dH,rfl⟩:=azU.1 h
 unfold dz
 simp
theorem zB{α:Type}{l:List α}{o:Nat}{u:α}(h:o<l.length):(dz l o [u])[o]? =some u:=by
 unfold dz
 rw[ayP,azu (by simp;omega)]
 simp[azF (Nat.le_of_lt h)]
theorem pQ{τ:Ty}: ∀{n:Nat} {a:Ty},EE τ n=some a→ ∀x:τ.den,∃y o,yT τ x n a y o:=by
 induction τ with
 |pair a b _ Qw=>
  intro n c h x
  cases n with
  |zero=>cases h;exact⟨_,_,.here x⟩
  |succ n=>
   obtain⟨y,o,hf⟩:=Qw (n:=n) (a:=c) h x.2
   exact⟨y,_,.there x hf⟩
 |_=>intro n c h;simp[EE]at h
theorem pR: ∀{p:List Step} {τ υ:Ty},eQ p τ υ=true→ ∀x:τ.den,∃y o,EK p τ x υ y o
 |[],τ,υ,h,x=>by
  have h:=ayV h
  subst h
  exact⟨x,0,.nil x⟩
 | .gX n::p,τ,υ,h,x=>by
  unfold eQ at h
  split at h
  ·rename_i a ha
   obtain⟨y,o,hf⟩:=pQ ha x
   obtain⟨z,q,hp⟩:=pR h y
   exact⟨z,_,.gX hf hp⟩
  ·cases h
 | .idx _::_,_,_,h,_=>by simp[eQ]at h
theorem g8: ∀{p:List Step} {τ υ:Ty},eQ p τ υ=true→tE p τ∧Cy p τ=υ
 |[],τ,υ,h=>⟨trivial,ayV h⟩
 | .gX n::p,τ,υ,h=>by
  have h0:=h
  unfold eQ at h
  split at h
  ·rename_i a ha
   obtain⟨y,o,hf⟩:=pQ ha τ.zero
   obtain⟨h1,h2⟩:=g8 h
   have:=hf.eq.1
   subst this
   exact⟨h1,h2⟩
  ·cases h
 | .idx _::_,_,_,h=>by simp[eQ]at h
theorem wW: ∀{p q:List Step},GA p q=true→p=q
 |[],[],_=>rfl
 | .gX a::p,.gX b::q,h=>by
  simp only[GA,ayQ]at h
  rw[ay9 h.1,wW h.2]
 |[],_::_,h| .gX _::_,[],h| .idx _::_,_,h| .gX _::_,.idx _::_,h=>by simp[GA]at h
theorem yT.apart{τ:Ty}{x:τ.den}{n:Nat}{υ:Ty}{y:υ.den}{o:Nat}(h:yT τ x n υ y o): ∀{x':τ.den} {n':Nat} {υ':Ty} {y':υ'.den} {o':Nat},yT τ x' n' υ' y' o'→n≠n'→o+υ.size≤o'∨o'+υ'.size≤o:=by
 induction h with
 |here x=>
  intro x' n' υ' y' o' h' gq
  cases h' with
  |here=>exact absurd rfl gq
  |there _ h'=>left;omega
 |there x h ih=>
  intro x' n' υ' y' o' h' gq
  cases h' with
  |here=>right;omega
  |there _ h'=>rcases ih h' (fun e=>gq (by rw[e]))with h1|h1<;>omega
theorem EK.apart{p:List Step}{τ:Ty}{x:τ.den}{υ:Ty}{y:υ.den}{o:Nat}(h:EK p τ x υ y o):tE p τ→ ∀{q:List Step} {e:Ty},eQ q τ (.slice e)=true→tB p q=false→bQ q τ<o∨o+υ.size≤bQ q τ:=by
 induction h with
 |nil x=>intro _ q e _ h;simp[tB]at h
 | @gX p τ υ σ x n o y z q hf r ih=>
  intro hi q' e hq hp
  obtain⟨h1,h2⟩:=hf.eq
  subst h1 h2
  cases q' with
  |nil=>
   have:=ayV hq
   subst this
   cases hf
  |cons s q'=>
   cases s with
   |idx i=>simp[eQ]at hq
   |gX m=>
    unfold eQ at hq
    split at hq
    ·rename_i a ha
     obtain⟨y',o',yU⟩:=pQ ha x
     obtain⟨h3,h4⟩:=yU.eq
     subst h3 h4
     have hb:=r.bound hi
     obtain⟨h5,h6⟩:=g8 hq
     obtain⟨z',o2,wN⟩:=pR hq y'
     have dN:=wN.bound h5
     have ho2:=wN.eq.2
     subst ho2
     simp only[bQ]
     by_cases hnm:n=m
     ·subst hnm
      have Cn:tB p q'=false:=by
       simp only[tB,Bool.and_eq_false_iff]at hp
       rcases hp with hp|hp
       ·rw[aBl]at hp;cases hp
       ·exact hp
      rcases ih hi hq Cn with h7|h7<;>omega
     ·rcases hf.apart yU hnm with h7|h7
      ·right;omega
      ·left
       have:1≤(Ty.slice e).size:=ayJ _
       omega
    ·cases hq
 | @idx p n e' σ x i z q r ih=>
  intro hi q' e hq hp
  cases q' with
  |nil=>have:=ayV hq;cases this
  |cons s q'=>
   cases s with
   |idx i=>simp[eQ]at hq
   |gX m=>simp[eQ,EE]at hq
def eJ:Value→Option Nat
 | .pointer (some a)=>some a.block
 | .slice (some a) _ cap=>if cap=0 then none else some a.block
 |_=>none
def aS.mut:aS→Prop
 | .obj _ _| .own _ _| .ej _ _ _ _=>True
 |_=>False
def ER(w:World)(M:Nat→Prop)(v:Value):aS→Prop
 | .obj τ x=> ∃b cs t,v= .pointer (some ⟨b,0,none⟩)∧w.heap[b]? =some (.cells cs t (0,0))∧M b∧Rd w M τ cs.toList x
 | .ej τ x p _=> ∃b cs t oX u,v= .pointer (some ⟨b,0,none⟩)∧w.heap[b]? =some (.cells cs t (0,0))∧M b∧Rd w M τ oX x∧cs.toList=dz oX (bQ p τ) [u]∧u.oneCell'=true∧ ∃e,eQ p τ (.slice e)=true
 | .own e l=>(l=[]∧ ∃a,v= .slice a 0 0)∨
  ∃b cs t cap,v= .slice (some ⟨b,0,none⟩) l.length cap∧w.heap[b]? =some (.cells cs t (0,0))∧M b∧0<cap∧l.length≤cap∧cap≤maxLen∧cs.size=cap*e.size∧
   ∀i (h:i<l.length),Rd w M e ((cs.toList.drop (i*e.size)).take e.size) l[i]
 | .lF e l=>Rd w M (.slice e) [v] l∧((l=[]∧ ∃a n c,v= .slice a n c)∨ ∃b n c,v= .slice (some ⟨b,0,none⟩) n c)
 | .gone=>True
def AR(v:Value)(p:List Step)(u:Value):aS→Prop
 | .obj τ _| .ej τ _ _ _=>tE p τ∧ ∃b,v= .pointer (some ⟨b,0,none⟩)∧u= .pointer (some ⟨b,bQ p τ,none⟩)
 | .own e l| .lF e l=> ∃i q,p= .idx i::q∧i<l.length∧tE q e∧ ∃b n c,v= .slice (some ⟨b,0,none⟩) n c∧u= .pointer (some ⟨b,i*e.size+bQ q e,none⟩)
 | .gone=> ∃a,u= .pointer (some a)
mutual
def VR(w:World)(M:Nat→Prop)(H:Nat→Option aS)(ν:Nat→Value):bb→Value→Prop
 | .any,_=>True
 | .Qu,v=>v=undef
 | .val τ x,v=>V w M τ v x
 | .EF τ x n,v=>V w M τ v x∧ ∃cs a,v= .agg cs∧cs.toList[oF τ n]? =some (.slice a 0 0)
 | .emp,v=> ∃a,v= .slice a 0 0
 | .ref id,v=>H id≠none∧v=ν id
 | .fW id p,v=> ∃e,H id=some e∧AR (ν id) p v e
 | .nK τ x,v=> ∃b off,v= .pointer (some ⟨b,off,none⟩)∧b<w.heap.size∧ ¬M b∧ ∃cs,At w b off cs∧Rd w M τ cs x
 | .tup vs,v=> ∃us:List Value,v= .tuple us.toArray∧fX w M H ν vs us
 | .GB f caps,v=> ∃cs:List Value,v= .func (.func f) #[] cs.toArray∧fX w M H ν caps cs
def fX(w:World)(M:Nat→Prop)(H:Nat→Option aS)(ν:Nat→Value):List bb→List Value→Prop
 |[],[]=>True
 |a::as,v::vs=>VR w M H ν a v∧fX w M H ν as vs
 |_,_=>False
end
def aS.iE:aS→aS→Prop
 | .obj τ _,.obj υ _| .obj τ _,.ej υ _ _ _| .ej τ _ _ _,.obj υ _| .ej τ _ _ _,.ej υ _ _ _=>τ=υ
 | .own e l,.own f k| .own e l,.lF f k| .lF e l,.lF f k=>e=f∧l.length=k.length
 |_,.gone=>True
 |_,_=>False
structure pC(H:Nat→Option aS)(ν:Nat→Value)(H':Nat→Option aS)(ν':Nat→Value):Prop where
 jr: ∀i e,H i=some e→ ∃e',H' i=some e'∧e.iE e'
 head: ∀i,H i≠none→ν' i=ν i
theorem AR.ptr{v:Value}{p:List Step}{u:Value}{e:aS}(h:AR v p u e): ∃a,u= .pointer (some a):=by
 cases e<;>simp only[AR]at h
 ·obtain⟨_,b,_,h⟩:=h;exact⟨_,h⟩
 ·obtain⟨_,b,_,h⟩:=h;exact⟨_,h⟩
 ·obtain⟨i,q,_,_,_,b,n,c,_,h⟩:=h;exact⟨_,h⟩
 ·obtain⟨i,q,_,_,_,b,n,c,_,h⟩:=h;exact⟨_,h⟩
 ·exact h
theorem AR.iE{v:Value}{p:List Step}{u:Value}{e e':aS}(h:AR v p u e)(l:e.iE e'):AR v p u e':=by
 have hp:=h.ptr
 cases e<;>cases e'<;>simp only[aS.iE]at l<;>simp only[AR]at h ⊢ <;>try exact hp
 ·subst l;exact h
 ·subst l;exact h
 ·subst l;exact h
 ·subst l;exact h
 ·obtain⟨rfl,hl⟩:=l;obtain⟨i,q,hp,hi,r⟩:=h;exact⟨i,q,hp,by omega,r⟩
 ·obtain⟨rfl,hl⟩:=l;obtain⟨i,q,hp,hi,r⟩:=h;exact⟨i,q,hp,by omega,r⟩
 ·obtain⟨rfl,hl⟩:=l;obtain⟨i,q,hp,hi,r⟩:=h;exact⟨i,q,hp,by omega,r⟩
theorem aS.iE.refl(e:aS):e.iE e:=by cases e<;>simp[aS.iE]
theorem pC.refl(H:Nat→Option aS)(ν:Nat→Value):pC H ν H ν:=⟨fun _ e h=>⟨e,h,.refl e⟩,fun _ _=>rfl⟩
mutual
theorem VR.bD{w w':World}{M M':Nat→Prop}{H H':Nat→Option aS}{ν ν':Nat→Value}(k:dy w M w' M')(g:pC H ν H' ν'):
  ∀{a:bb} {v:Value},VR w M H ν a v→VR w' M' H' ν' a v
 | .any,_,_=>by simp[VR]
 | .Qu,_,h=>by simpa [VR]using h
 | .val τ x,v,h=>by simp only[VR]at h ⊢;exact h.bD k
 | .EF τ x n,v,h=>by simp only[VR]at h ⊢;exact⟨h.1.bD k,h.2⟩
 | .emp,_,h=>by simpa [VR]using h
 | .ref id,_,h=>by
  simp only[VR]at h ⊢
  obtain⟨h1,h2⟩:=h
  obtain⟨e,he⟩:=aAZ.1 h1
  obtain⟨e',tV,_⟩:=g.jr id e he
  exact⟨by simp[tV],by rw[g.head id h1];exact h2⟩
 | .fW id p,_,h=>by
  simp only[VR]at h ⊢
  obtain⟨e,he,ha⟩:=h
  obtain⟨e',tV,hl⟩:=g.jr id e he
  exact⟨e',tV,by rw[g.head id (by simp[he])];exact ha.iE hl⟩
 | .nK τ x,_,h=>by
  simp only[VR]at h ⊢
  obtain⟨b,off,rfl,hb,hm,cs,ha,hr⟩:=h
  exact⟨b,off,rfl,azP hb k.size,fun h'=>hm (k.less b hb h'),cs,ha.bD (k.block b hb hm),hr.bD k⟩
 | .tup vs,_,h=>by
  simp only[VR]at h ⊢
  obtain⟨us,rfl,h⟩:=h
  exact⟨us,rfl,fX.bD k g h⟩
 | .GB f caps,_,h=>by
  simp only[VR]at h ⊢
  obtain⟨us,rfl,h⟩:=h
  exact⟨us,rfl,fX.bD k g h⟩
theorem fX.bD{w w':World}{M M':Nat→Prop}{H H':Nat→Option aS}{ν ν':Nat→Value}(k:dy w M w' M')(g:pC H ν H' ν'):
  ∀{as:List bb} {vs:List Value},fX w M H ν as vs→fX w' M' H' ν' as vs
 |[],[],_=>by simp[fX]
 |a::as,v::vs,h=>by simp only[fX]at h ⊢;exact⟨VR.bD k g h.1,fX.bD k g h.2⟩
 |[],_::_,h=>by simp[fX]at h
 |_::_,[],h=>by simp[fX]at h
end
end VM
end
