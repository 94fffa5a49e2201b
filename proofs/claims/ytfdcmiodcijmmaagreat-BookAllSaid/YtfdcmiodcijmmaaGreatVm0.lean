/- A part of the proof of BookAll of layer 18: a machine that reads a function of the program as an equation between values. -/
import Derived.KernelRfl
import GoSem.Claims
import Derived.WalkKit
import Derived.ArgAppend
import Derived.Laws.CopyRow
import Derived.Laws.MakeOwn
import Derived.Laws.OwnMore
import Derived.Orders
import Derived.LoopN
set_option linter.all false
open List renaming length→ℓ, getD→γ
theorem ω{p:Prop}(h:p:=by omega):p:=h
theorem δ{p:Prop}(h:p:=by decide):p:=h
theorem κ{p:Prop}(h:p:=by kernel_rfl):p:=h
noncomputable section
abbrev ag:=@Option.bind_some
abbrev aa:=@cond_true
abbrev an:=@cond_false
abbrev aw:=@Int.toNat_natCast
abbrev aR:=@List.getD_eq_getElem?_getD
abbrev ae:=@if_pos
abbrev af:=@if_neg
abbrev aQ:=@List.length_singleton
abbrev bc:=@List.getElem?_eq_getElem
abbrev aC:=@List.length_append
abbrev aG:=@Array.length_toList
abbrev aU:=@List.mem_cons_of_mem
abbrev aD:=@decide_eq_true
abbrev aL:=@List.length_cons
abbrev aT:=@List.append_assoc
abbrev bg:=@List.mem_cons_self
abbrev aP:=@decide_eq_false
abbrev aB:=@Nat.le_refl
abbrev bG:=@List.mem_append_left
abbrev ba:=@Bool.and_eq_true
abbrev aN:=@Bool.not_true
abbrev ck:=@List.mem_append_right
abbrev bH:=@of_decide_eq_true
abbrev aV:=@List.mem_cons
abbrev br:=@List.mem_append
abbrev bF:=@List.append_nil
abbrev bI:=@List.length_map
abbrev bV:=@List.length_take
abbrev bA:=@List.map_cons
abbrev bY:=@List.drop_zero
abbrev df:=@Nat.eq_of_beq_eq_true
abbrev dg:=@List.length_replicate
abbrev cz:=@List.length_set
abbrev cH:=@List.map_append
abbrev c5:=@Option.mem_toList
abbrev dQ:=@Bool.and_eq_true_iff
abbrev dF:=@List.mem_map_of_mem
abbrev dw:=@List.mem_singleton
abbrev c6:=@List.getElem_mem
abbrev eI:=@Array.getElem?_toList
abbrev gM:=@Array.getElem?_eq_some_iff
abbrev c7:=@List.nil_append
abbrev cA:=@List.mem_map
abbrev ez:=@List.pairwise_cons
abbrev dx:=@List.cons.injEq
abbrev dy:=@List.length_nil
abbrev fC:=@List.getElem?_eq_none
abbrev gd:=@List.drop_of_length_le
abbrev dh:=@Bool.not_false
abbrev dZ:=@List.length_drop
abbrev gg:=@List.take_append_drop
abbrev eJ:=@Option.some.injEq
abbrev cI:=@Nat.add_mul
abbrev gh:=@Nat.mul_le_mul_right
abbrev fD:=@Bool.false_eq_true
abbrev fa:=@List.size_toArray
abbrev ea:=@Int.toNat_zero
abbrev jf:=@List.take_of_length_le
abbrev lH:=@List.getElem?_append_right
abbrev c8:=@Nat.zero_le
abbrev dG:=@Nat.zero_add
abbrev fb:=@Nat.min_eq_left
abbrev eK:=@List.drop_drop
abbrev iz:=@List.getElem_of_mem
abbrev nf:=@Array.getD_eq_getD_getElem?
abbrev eA:=@List.sum_cons
abbrev eB:=@Bool.and_true
abbrev iA:=@List.getElem?_take
abbrev iB:=@List.getElem?_drop
abbrev oy:=@List.eq_nil_of_length_eq_zero
abbrev ng:=@List.getElem?_append_left
abbrev gN:=@Bool.not_eq_true
abbrev eL:=@List.map_nil
abbrev qQ:=@List.take_append_of_le_length
abbrev cN:=@congrArg
abbrev oz:=@List.getElem?_eq_some_iff
abbrev ka:=@Nat.lt_of_lt_of_le
abbrev kb:=@List.nodup_append
abbrev oA:=@Int.eq_ofNat_of_zero_le
abbrev lI:=@decide_eq_true_iff
abbrev nh:=@List.map_congr_left
abbrev sP:=@List.drop_append_of_le_length
abbrev kd:=@List.drop_left'
abbrev qR:=@Option.bind_eq_some_iff
abbrev lJ:=@List.all_eq_true
abbrev lK:=@decide_eq_decide
abbrev jg:=@Int.mul_assoc
abbrev iC:=@Nat.le_trans
abbrev dR:=@and_true
abbrev sQ:=@Option.ne_none_iff_exists'
abbrev fE:=@Array.ext'
abbrev iD:=@Int.add_zero
abbrev sR:=@List.drop_eq_getElem_cons
abbrev ni:=@List.take_length
abbrev wW:=@Int.mul_le_mul_of_nonneg_right
abbrev nj:=@List.cons_append
abbrev oB:=@Bool.false_ne_true
abbrev nk:=@Bool.or_eq_true
abbrev qS:=@List.length_pos_iff
abbrev cZ:=@Ne.symm
abbrev ik:=@Nat.add_zero
abbrev gw:=@Nat.one_mul
abbrev jh:=@Bool.true_and
abbrev dW:=@if_false
abbrev pN:=@List.Pairwise.sublist
abbrev mi:=@Option.some.inj
abbrev ji:=@Nat.lt_or_ge
abbrev pO:=@List.mem_of_mem_drop
abbrev nX:=@List.getElem?_map
abbrev jj:=@List.sum_nil
abbrev nY:=@Bool.not_eq_false
abbrev kt:=@Nat.add_assoc
abbrev sS:=@List.getElem_append_left
abbrev sT:=@List.take_append_getElem
abbrev mj:=@List.drop_take
abbrev mm:=@List.take_take
abbrev sU:=@Nat.add_sub_cancel_left
abbrev jk:=@Int.le_refl
abbrev ku:=@Nat.beq_refl
abbrev sV:=@Option.map_eq_some_iff
abbrev nZ:=@List.headD_cons
abbrev n0:=@List.sum_append
abbrev ff:=@Prod.ext
abbrev pP:=@Bool.not_eq_true'
abbrev sW:=@List.mem_of_mem_take
abbrev sX:=@Array.getElem_toList
abbrev n1:=@List.tail_cons
abbrev kv:=@Int.mul_add
abbrev mo:=@Int.le_trans
abbrev pQ:=@List.drop_length
abbrev pR:=@Option.getD_some
abbrev xr:=@List.getElem_append_right
abbrev xt:=@List.mem_or_eq_of_mem_set
abbrev xu:=@List.pairwise_iff_getElem
abbrev n3:=@Bool.or_false
abbrev pS:=@List.take_left'
abbrev pT:=@Bool.eq_iff_iff
abbrev pU:=@List.mem_filter
abbrev mq:=@Nat.sub_mul
abbrev xv:=@List.getElem_cons_zero
abbrev sY:=@List.flatten_cons
abbrev sZ:=@List.ext_getElem?
abbrev fO:=@if_true
abbrev pV:=@List.take_zero
abbrev pW:=@Nat.mul_le_mul
abbrev n6:=@Int.mul_comm
abbrev xw:=@List.drop_eq_nil_of_le
abbrev s0:=@List.pairwise_map
abbrev C0:=@Array.getElem?_setIfInBounds_ne
abbrev xx:=@List.getElem?_toArray
abbrev xy:=@Nat.le_of_ble_eq_true
abbrev s4:=@beq_self_eq_true
abbrev mu:=@Int.not_lt
abbrev s5:=@List.filter_cons
abbrev pX:=@List.all_cons
abbrev xz:=@List.mem_iff_getElem
abbrev C1:=@Int.mul_le_mul_of_nonneg_left
abbrev xA:=@List.get_eq_getElem
abbrev xB:=@Int.toNat_of_nonneg
abbrev pY:=@Int.zero_add
abbrev s6:=@List.mem_range
abbrev xC:=@List.getElem_range
abbrev s7:=@List.mapM_cons
abbrev C2:=@Int.fdiv_eq_ediv_of_nonneg
abbrev s8:=@Int.mul_nonneg
abbrev s9:=@Bool.false_and
abbrev n7:=@Int.not_le
abbrev xD:=@Int.lt_of_le_of_lt
abbrev xE:=@List.filter_append
abbrev C3:=@Array.getElem?_eq_getElem
abbrev C5:=@Classical.byContradiction
abbrev xF:=@List.getElem_take
abbrev xG:=@List.length_range
abbrev xH:=@decide_eq_true_eq
abbrev ta:=@Bool.false_or
abbrev xI:=@List.any_eq_true
abbrev C6:=@List.length_eq_zero_iff
abbrev C8:=@List.getElem?_cons_zero
abbrev C9:=@decide_eq_false_iff_not
abbrev Da:=@Array.getElem?_eq_none
abbrev Db:=@List.getElem_replicate
abbrev pZ:=@Nat.beq_eq
abbrev Dc:=@List.append_eq_nil_iff
abbrev Dd:=@Int.ediv_lt_iff_lt_mul
abbrev tb:=@Int.pow_succ
abbrev xJ:=@List.range_succ
abbrev xK:=@List.nodup_cons
abbrev De:=@List.length_filter_le
abbrev Df:=@Nat.div_lt_iff_lt_mul
abbrev Dg:=@List.singleton_append
abbrev tc:=@Nat.le_succ
abbrev td:=@Int.add_mul
abbrev xL:=@Nat.lt_irrefl
abbrev xM:=@List.any_cons
abbrev tf:=@Nat.blt_eq
abbrev tg:=@Nat.ble_eq
abbrev xN:=@Nat.mul_comm
section
namespace VM
open Go
theorem VT{α:Type}(a:α): ∃b:α,b=a:=⟨a,rfl⟩
def aF{α:Type}(a:α):α:=Classical.choose (VT a)
theorem g6{α:Type}(a:α):aF a=a:=Classical.choose_spec (VT a)
def th:Nat:=68719476736
def W:IntKind→Int→Int:=aF λk x=>k.wrap x
def bh:Int→Int→Bool:=aF λx y=>decide (x<y)
def cP:Int→Int→Bool:=aF λx y=>decide (x≤y)
def bf:Int→Int→Bool:=aF λx y=>decide (x=y)
def bJ:Int→Nat→Bool:=aF λi n=>decide (0≤i∧i<(n:Int))
def small:Nat→Bool:=aF λn=>decide (n<th)
def oC:Int→Int→Bool:=aF λl c=>decide (0≤l∧l≤c∧c<(th:Int))
def lz:Int→Int→Int→Int→Bool:=aF λl h m n=>decide (0≤l∧l≤h∧h≤m∧m≤n)
def quo:Int→Int→Int:=aF λx y=>x.tdiv y
def rem:Int→Int→Int:=aF λx y=>x.tmod y
def shl:IntKind→Int→Int→Int:=aF λk x y=>x*2^(min y.toNat k.bits)
def shr:IntKind→Int→Int→Int:=aF λk x y=>x.fdiv (2^(min y.toNat k.bits))
def mx:Int→Int→Int:=aF λx y=>if y>x then y else x
def mn:Int→Int→Int:=aF λx y=>if y<x then y else x
def Kt:ByteArray→ByteArray→Bool:=aF λx y=>decide (x.toList=y.toList)
theorem xO(k:IntKind)(x:Int):W k x=k.wrap x:=by unfold W;rw[g6]
theorem nJ(x y:Int):bh x y=decide (x<y):=by unfold bh;rw[g6]
theorem jl(x y:Int):cP x y=decide (x≤y):=by unfold cP;rw[g6]
theorem fF(x y:Int):bf x y=decide (x=y):=by unfold bf;rw[g6]
theorem Ku(i:Int)(n:Nat):bJ i n=decide (0≤i∧i<(n:Int)):=by unfold bJ;rw[g6]
theorem xP(n:Nat):small n=decide (n<th):=by unfold small;rw[g6]
theorem AD(l c:Int):oC l c=decide (0≤l∧l≤c∧c<(th:Int)):=by unfold oC;rw[g6]
theorem mv(l h m n:Int):lz l h m n=decide (0≤l∧l≤h∧h≤m∧m≤n):=by unfold lz;rw[g6]
theorem RT(x y:Int):quo x y=x.tdiv y:=by unfold quo;rw[g6]
theorem RU(x y:Int):rem x y=x.tmod y:=by unfold rem;rw[g6]
theorem Kv(k:IntKind)(x y:Int):shl k x y=x*2^(min y.toNat k.bits):=by unfold shl;rw[g6]
theorem Gk(k:IntKind)(x y:Int):shr k x y=x.fdiv (2^(min y.toNat k.bits)):=by unfold shr;rw[g6]
theorem VU(x y:Int):mx x y=if y>x then y else x:=by unfold mx;rw[g6]
theorem VV(x y:Int):mn x y=if y<x then y else x:=by unfold mn;rw[g6]
theorem xQ(x y:ByteArray):Kt x y=decide (x.toList=y.toList):=by unfold Kt;rw[g6]
inductive Bw where|and|or|xor|andNot
def oD:Bw→IntKind→Int→Int→Int:=aF λo k x y=>
 let a:=BitVec.ofInt k.bits x
 let b:=BitVec.ofInt k.bits y
 k.wrap (match o with| .and=>a&&& b| .or=>a|||b| .xor=>a^^^b| .andNot=>a&&& ~~~b).toNat
theorem oE(o:Bw)(k:IntKind)(x y:Int):oD o k x y=
 let a:=BitVec.ofInt k.bits x
 let b:=BitVec.ofInt k.bits y
 k.wrap (match o with| .and=>a&&& b| .or=>a|||b| .xor=>a^^^b| .andNot=>a&&& ~~~b).toNat:=by unfold oD;rw[g6]
def strOf(l:List Nat):ByteArray:=⟨(l.map UInt8.ofNat).toArray⟩
inductive Ty where
 |int (k:IntKind)
 |bool
 |str
 |slice (e:Ty)
 |unit
 |pair (a b:Ty)
 |arr (n:Nat) (e:Ty)
 deriving DecidableEq
@[reducible] def Ty.den:Ty→Type
 | .int _=>Int
 | .bool=>Bool
 | .str=>ByteArray
 | .slice e=>List e.den
 | .unit=>Unit
 | .pair a b=>a.den×b.den
 | .arr _ e=>List e.den
def Ty.size:Ty→Nat
 | .int _| .bool| .str| .slice _=>1
 | .unit=>0
 | .pair a b=>a.size+b.size
 | .arr n e=>n*e.size
def Ty.isAgg:Ty→Bool
 | .unit| .pair _ _| .arr _ _=>true
 |_=>false
def Ty.zero:(τ:Ty)→τ.den
 | .int _=>(0:Int)
 | .bool=>false
 | .str=>ByteArray.empty
 | .slice _=>[]
 | .unit=>()
 | .pair a b=>(a.zero,b.zero)
 | .arr n e=>List.replicate n e.zero
def Ty.comparable:Ty→Bool
 | .slice _=>false
 | .pair a b=>a.comparable&&b.comparable
 | .arr _ _=>false
 |_=>true
def VW{α:Type}(f:α→α→Bool):List α→List α→Bool
 |[],[]=>true
 |x::xs,y::ys=>f x y&&VW f xs ys
 |_,_=>false
def k5:(τ:Ty)→τ.den→τ.den→Bool
 | .int _,x,y=>bf x y
 | .bool,x,y=>x==y
 | .str,x,y=>Kt x y
 | .slice _,_,_=>false
 | .unit,_,_=>true
 | .pair a b,x,y=>k5 a x.1 y.1&&k5 b x.2 y.2
 | .arr _ e,x,y=>VW (k5 e) x y
inductive Step where
 |fG (n:Nat)
 |idx (i:Nat)
def CJ:List Step→List Step→Bool
 |[],[]=>true
 | .fG a::p,.fG b::q=>Nat.beq a b&&CJ p q
 |_,_=>false
def rE:List Step→List Step→Bool
 |[],_=>true
 | .fG a::p,.fG b::q=>Nat.beq a b&&rE p q
 |_,_=>false
def ti:Ty→Nat→Option Ty
 | .pair a b,n=>match n with
  |0=>some a
  |n+1=>ti b n
 |_,_=>none
def dE:List Step→Ty→Ty→Bool
 |[],τ,υ=>decide (τ=υ)
 | .fG n::p,τ,υ=>match ti τ n with
  |some a=>dE p a υ
  |none=>false
 |_,_,_=>false
inductive aM where
 |any
 |Kw
 |val (τ:Ty) (x:τ.den)
 |BB (τ:Ty) (x:τ.den) (n:Nat)
 |zZ (τ:Ty) (x:τ.den) (n:Nat) (j:Nat)
 |sub (id:Nat) (e:Ty) (lo:Nat)
 |emp
 |ref (id:Nat)
 |ft (id:Nat) (p:List Step)
 |mw (τ:Ty) (x:τ.den)
 |Vb (vs:List aM)
 |Dh (f:Nat) (my:List aM)
inductive aI where
 |obj (τ:Ty) (x:τ.den)
 |dT (τ:Ty) (x:τ.den) (p:List Step) (j:Nat)
 |own (e:Ty) (l:List e.den)
 |ke (e:Ty) (l:List e.den)
 |gone
structure St where
 T:Nat→aM
 H:Nat→Option aI
def St.put(σ:St)(d:Nat)(v:aM):St:=⟨λi=>cond (Nat.beq i d) v (σ.T i),σ.H⟩
def St.fY(σ:St)(d:Nat)(v:Option aI):St:=⟨σ.T,λi=>cond (Nat.beq i d) v (σ.H i)⟩
def St.pE(σ:St)(d:Option Nat)(v:aM):St:=match d with|some d=>σ.put d v|none=>σ
def Di(n:Nat)(io:List Nat):Option Nat→Bool|some d=>Nat.blt d n&&io.all (λi=> !(Nat.beq i d))|none=>true
def St.p7(σ:St):List (Nat×Option aI)→St
 |[]=>σ
 |u::r=>(σ.fY u.1 u.2).p7 r
abbrev S0:St:=⟨λ_=> .any,λ_=>none⟩
abbrev fu:=List (Nat×Option aI)
section K
variable{α:Type}
def oF:(τ:Ty)→τ.den→Nat→((υ:Ty)→υ.den→Option α)→Option α
 | .pair a b,x,n,k=>match n with
  |0=>k a x.1
  |n+1=>oF b x.2 n k
 |_,_,_,_=>none
def dz:(τ:Ty)→τ.den→Nat→((υ:Ty)→υ.den→(υ.den→Option α)→Option α)→(τ.den→Option α)→Option α
 | .pair a b,x,n,m,k=>match n with
  |0=>m a x.1 λz=>k (z,x.2)
  |n+1=>dz b x.2 n m λz=>k (x.1,z)
 |_,_,_,_,_=>none
def fg(τ υ:Ty)(k:Option α):Option α:=if τ=υ then k else none
def bw(υ τ:Ty)(y:υ.den)(k:τ.den→Option α):Option α:=if h:υ=τ then k (h▸y)else none
def RV(τ:Ty)(x:τ.den)(i:Nat)(k:(υ:Ty)→υ.den→Option α):Option α:=
 match τ,x with
 | .arr _ e,x=>k e (γ x i e.zero)
 |_,_=>none
def wX(τ:Ty)(x:τ.den)(i:Nat)(m:(υ:Ty)→υ.den→(υ.den→Option α)→Option α)(k:τ.den→Option α):Option α:=
 match τ,x,k with
 | .arr _ e,x,k=>m e (γ x i e.zero) λz=>k (List.set x i z)
 |_,_,_=>none
def tj:List Step→(τ:Ty)→τ.den→((υ:Ty)→υ.den→Option α)→Option α
 |[],τ,x,k=>k τ x
 | .fG n::p,τ,x,k=>oF τ x n fun υ y=>tj p υ y k
 | .idx i::p,τ,x,k=>RV τ x i fun υ y=>tj p υ y k
def pF(υ:Ty)(y:υ.den):List Step→(τ:Ty)→τ.den→(τ.den→Option α)→Option α
 |[],τ,_,k=>bw υ τ y k
 | .fG n::p,τ,x,k=>dz τ x n (fun υ' y' k'=>pF υ y p υ' y' k') k
 | .idx i::p,τ,x,k=>wX τ x i (fun υ' y' k'=>pF υ y p υ' y' k') k
def iH(fz:Bool)(a:aM)(H:Nat→Option aI)(τ:Ty)(k:τ.den→List Nat→fu→Option α):Option α:=
 match a with
 | .val υ x=>bw υ τ x λy=>k y [] []
 | .BB υ x _=>bw υ τ x λy=>k y [] []
 | .emp=>match τ,k with
  | .slice _,k=>k [] [] []
  |_,_=>none
 | .ref id=>match H id with
  |some (.own e l)=>bw (.slice e) τ l λy=>k y [id] (cond fz [(id,some (.ke e l))] [])
  |some (.ke e l)=>bw (.slice e) τ l λy=>k y [id] []
  |_=>none
 |_=>none
def Dj(a:aM)(k:(τ:Ty)→τ.den→Option α):Option α:=
 match a with
 | .val υ x=>k υ x
 |_=>none
def g7(id:Nat)(p:List Step)(H:Nat→Option aI)(k:Ty→Option α):Option α:=
 match H id with
 |some (.obj τ x)=>tj p τ x fun υ _=>k υ
 |some (.dT τ x _ _)=>tj p τ x fun υ _=>k υ
 |some (.own e l)|some (.ke e l)=>match p with
  | .idx i::p=>tj p e (γ l i e.zero) fun υ _=>k υ
  |_=>none
 |_=>none
def adN(a:aM)(H:Nat→Option aI)(k:(τ:Ty)→τ.den→List Nat→Option α):Option α:=
 match a with
 | .val υ x=>k υ x []
 | .ref id=>match H id with
  |some (.own e l)|some (.ke e l)=>k (.slice e) l [id]
  |_=>none
 |_=>none
def pG(a:aM)(k:IntKind→Int→Option α):Option α:=
 match a with
 | .val (.int i) x=>k i x
 |_=>none
end K
inductive AM where
 |v (τ:Ty)
 |own (e:Ty)
 |io (τ:Ty)
 |fn (f:Nat) (τ:Ty)
 |ptr (τ:Ty)
 |ft (τ:Ty)
 |lo (e:Ty)
 |sp (τ:Ty) (n:Nat) (e:Ty)
 deriving DecidableEq
@[reducible] def AM.den:AM→Type
 | .v τ=>τ.den
 | .own e=>List e.den
 | .io τ=>τ.den
 | .fn _ τ=>τ.den
 | .ptr τ=>τ.den
 | .ft τ=>τ.den
 | .lo e=>List e.den
 | .sp τ _ _=>τ.den
@[reducible] def HP:List AM→Type
 |[]=>Unit
 |[m]=>m.den
 |m::n::ms=>m.den×HP (n::ms)
structure iI where
 args:List AM
 res:List AM
 quiet:Bool
 run:HP args→Option (HP res)
inductive CM where
 |v (τ:Ty)
 |own (e:Ty)
 |obj (τ:Ty)
 |dT (τ:Ty) (q:List Step) (e:Ty)
 |same (s:Nat)
 |io (τ:Ty)
 |fn (f:Nat) (τ:Ty)
structure Env where
 nt:Nat
 ty:Nat→Option Ty
 Γ:Nat→List iI
 N:Nat
 p8:Nat→Option (List (Nat×CM))
 rF:Nat→Option (List (Nat×CM))
 io:List Nat:=[]
 lk:Option (Ty×List Step×Ty×List Nat):=none
def Env.vw(E:Env):Bool:=match E.lk with
 |some (_,_,_,ds)=>ds.any λd=>Nat.beq d 1000001
 |none=>false
def Env.sp(E:Env):Bool:=match E.lk with
 |some (_,_,_,ds)=>ds.any λd=>Nat.beq d 1000000
 |none=>false
def VX(E:Env)(τ:Ty):Option (List Step×Ty):=match E.lk with
 |some (υ,q,e,_)=>cond (decide (υ=τ)) (cond (dE q τ (.slice e)) (some (q,e)) none) none
 |none=>none
def z5(E:Env)(τ:Ty)(id:Nat):Option (List Step×Ty):=match E.lk with
 |some (_,_,_,ds)=>cond (ds.any λd=>Nat.beq (id/16) d) (VX E τ) none
 |none=>none
def cvA:Value→aM
 | .int k n=> .val (.int k) n
 | .bool b=> .val .bool b
 | .string s=> .val .str s
 | .slice none 0 0=> .emp
 |_=> .any
def St.ρ (σ:St):Operand→aM
 | .tmp t=>σ.T t
 | .const v=>cvA v
 | .global _=> .any
 | .func f=> .Dh f []
section
variable{α:Type}
def oG(op:BinOp)(k:IntKind)(x y:Int)(K:aM→Option α):Option α:=
 match op with
 | .add=>K (.val (.int k) (W k (x+y)))
 | .sub=>K (.val (.int k) (W k (x-y)))
 | .mul=>K (.val (.int k) (W k (x*y)))
 | .quo=>cond (bf y 0) none (K (.val (.int k) (W k (quo x y))))
 | .rem=>cond (bf y 0) none (K (.val (.int k) (rem x y)))
 | .and=>K (.val (.int k) (oD .and k x y))
 | .or=>K (.val (.int k) (oD .or k x y))
 | .xor=>K (.val (.int k) (oD .xor k x y))
 | .andNot=>K (.val (.int k) (oD .andNot k x y))
 | .eql=>K (.val .bool (bf x y))
 | .neq=>K (.val .bool (!bf x y))
 | .lss=>K (.val .bool (bh x y))
 | .leq=>K (.val .bool (cP x y))
 | .gtr=>K (.val .bool (bh y x))
 | .geq=>K (.val .bool (cP y x))
 |_=>none
def Nw(op:BinOp)(k:IntKind)(x y:Int)(K:aM→Option α):Option α:=
 match op with
 | .shl=>cond (bh y 0) none (K (.val (.int k) (W k (shl k x y))))
 | .shr=>cond (bh y 0) none (K (.val (.int k) (shr k x y)))
 |_=>none
def Nx:BinOp→Bool
 | .shl| .shr=>true
 |_=>false
def xR(t:Option Ty)(op:BinOp)(τ:Ty)(x:τ.den)(υ:Ty)(y:υ.den)(K:aM→Option α):Option α:=
 match τ,x,υ,y with
 | .int k,x,.int k',y=>cond (Nx op) (Nw op k x y K) (if k=k' then oG op k x y K else none)
 |τ,x,υ,y=>match t with
  |none=>none
  |some u=>fg u τ (cond τ.comparable (match op with
   | .eql=>bw υ τ y λy=>K (.val .bool (k5 τ x y))
   | .neq=>bw υ τ y λy=>K (.val .bool (!k5 τ x y))
   |_=>none) none)
def IA(op:UnOp)(a:aM)(K:aM→Option α):Option α:=
 match op,a with
 | .neg,.val (.int k) n=>K (.val (.int k) (W k (0-n)))
 | .xor,.val (.int k) n=>K (.val (.int k) (oD .xor k (if k.signed then-1 else k.max) n))
 | .not,.val .bool b=>K (.val .bool (!b))
 |_,_=>none
abbrev eo(α:Type):=aM→List Nat→fu→Option α
def M6(up:Bool):aM→List aM→(aM→Option α)→Option α
 |a,[],K=>K a
 |a,b::r,K=>pG a λk x=>pG b λk' y=>if k=k' then M6 up (.val (.int k) (cond up (mx x y) (mn x y))) r K else none
def Dl(τ:Ty)(a:aM)(H:Nat→Option aI)(K:eo α):Option α:=
 match τ,a with
 | .slice _,.val (.slice _) l=>K (.val (.int .i64) (ℓ l:Int)) [] []
 | .arr n _,.val (.arr _ _) _=>K (.val (.int .i64) (n:Int)) [] []
 | .str,.val .str s=>K (.val (.int .i64) (ByteArray.size s:Int)) [] []
 | .slice _,.emp=>K (.val (.int .i64) (0:Int)) [] []
 | .slice _,.ref id=>match H id with
  |some (.own _ l)|some (.ke _ l)=>K (.val (.int .i64) (l.length:Int)) [id] []
  |_=>none
 |_,_=>none
def mz(H:Nat→Option aI)(id:Nat)(e:aI)(K:Option α):Option α:=
 match H id with
 |none=>K
 |some _=>none
def Dm(id:Nat)(e:Ty)(a b:aM)(H:Nat→Option aI)(K:eo α):Option α:=
 iH false b H (.slice e) λys rd _=>
  match a with
  | .emp=>cond (small (ℓ ys)) (K (.ref id) (id::rd) [(id,some (.own e ys))]) none
  | .ref j=>match H j with
   |some (.own e' l)=>bw (.slice e') (.slice e) l λxs=>
    cond (small (ℓ xs+ℓ ys)) (K (.ref id) (id::j::rd) [(j,some .gone),(id,some (.own e (xs++ys)))]) none
   |_=>none
  |_=>none
def g8(τ:Ty)(H:Nat→Option aI):List (Nat×aM)→τ.den→List Nat→fu→(τ.den→List Nat→fu→Option α)→Option α
 |[],x,rd,ups,K=>K x rd ups
 |p::r,x,rd,ups,K=>oF τ x p.1 fun υ _=>iH true p.2 H υ λy qT gu=>
  dz τ x p.1 (fun υ' _ k'=>bw υ υ' y k') λz=>g8 τ H r z (qT++rd) (ups++gu) K
def p9(e:Ty)(H:Nat→Option aI)(n:Nat):List (Nat×aM)→List e.den→List Nat→fu→(List e.den→List Nat→fu→Option α)→Option α
 |[],l,rd,ups,K=>K l rd ups
 |p::r,l,rd,ups,K=>cond (Nat.blt p.1 n) (iH true p.2 H e λy qT gu=>p9 e H n r (List.set l p.1 y) (qT++rd) (ups++gu) K) none
def vr(v:aM)(H:Nat→Option aI):(a:Ty)→(a.den→List Nat→fu→Option α)→Option α
 | .pair a .unit,k=>match v with
  | .mw υ x=>bw υ a x λy=>k (y,()) [] []
  |_=>none
 |a,k=>iH true v H a k
def vt:(a:Ty)→a.den→aM
 | .pair a .unit,x=> .mw a x.1
 |a,x=> .val a x
def mA(H:Nat→Option aI):(τ:Ty)→List aM→(τ.den→List Nat→fu→Option α)→Option α
 | .unit,[],K=>K () [] []
 | .pair a b,v::vs,K=>vr v H a λx rd ups=>mA H b vs λxs qT gu=>K (x,xs) (qT++rd) (ups++gu)
 |_,_,_=>none
def lA:(τ:Ty)→τ.den→List aM
 | .pair a b,x=>vt a x.1::lA b x.2
 |_,_=>[]
def a8(H:Nat→Option aI)(d:Nat)(v:Option aI):Nat→Option aI:=λi=>cond (Nat.beq i d) v (H i)
def qa(H:Nat→Option aI):List aM→(List aM→List Nat→fu→Option α)→Option α
 |[],K=>K [] [] []
 |a::r,K=>match a with
  | .ft id []=>match H id with
   |some (.obj τ x)=>qa (a8 H id (some .gone)) r λcs rd ups=>K (.mw τ x::cs) (id::rd) ((id,some .gone)::ups)
   |_=>none
  |a=>qa H r λcs rd ups=>K (a::cs) rd ups
def jI(m:AM)(a:aM)(H:Nat→Option aI)(k:m.den→(Nat→Option aI)→List Nat→fu→fu→List (Nat×AM)→Option α):Option α:=
 match m,k with
 | .v τ,k=>iH true a H τ λx rd uf=>match uf with
  |[]=>k x H rd [] [] []
  |u::r=>k x (a8 H u.1 u.2) rd [] (u::r) []
 | .own e,k=>match a with
  | .emp=>k [] H [] [] [] []
  | .ref id=>match H id with
   |some (.own e' l)=>bw (.slice e') (.slice e) l λx=>k x (a8 H id (some .gone)) [id] [(id,some .gone)] [] []
   |_=>none
  |_=>none
 | .io τ,k=>match a with
  | .ft id []=>match H id with
   |some (.obj υ x)=>bw υ τ x λy=>k y (a8 H id (some .gone)) [id] [] [] [(id,.io τ)]
   |_=>none
  |_=>none
 | .fn f τ,k=>match a with
  | .Dh f' c=>cond (Nat.beq f f') (mA H τ c λx rd uf=>match uf with
   |[]=>k x H rd [] [] []
   |_=>none) none
  |_=>none
 | .ptr _,_=>none
 | .ft τ,k=>match a with
  | .mw υ x=>bw υ τ x λy=>k y H [] [] [] []
  |_=>none
 | .lo e,k=>match a with
  | .ref id=>match H id with
   |some (.own e' l)=>bw (.slice e') (.slice e) l λx=>k x (a8 H id (some .gone)) [id] [] [] [(id,.lo e)]
   |_=>none
  |_=>none
 | .sp _ _ _,_=>none
def oa:(ms:List AM)→List aM→(Nat→Option aI)→List Nat→fu→fu→List (Nat×AM)→(HP ms→List Nat→fu→fu→List (Nat×AM)→Option α)→Option α
 |[],[],_,rd,uo,uf,io,K=>K () rd uo uf io
 |[m],[a],H,rd,uo,uf,io,K=>jI m a H λx _ qT CK CL zN=>K x (qT++rd) (CK++uo) (CL++uf) (io++zN)
 |m::n::ms,a::lL,H,rd,uo,uf,io,K=>jI m a H λx H' qT CK CL zN=>
  oa (n::ms) lL H' (qT++rd) (CK++uo) (CL++uf) (io++zN) λxs rd uo uf io=>K (x,xs) rd uo uf io
 |_,_,_,_,_,_,_,_=>none
def qb(m:AM)(x:m.den)(id:Nat):aM×fu:=
 match m,x with
 | .v τ,x=>(.val τ x,[])
 | .own e,x=>(.ref id,[(id,some (.own e x))])
 | .io τ,x=>(.val τ x,[])
 | .fn _ _,_=>(.any,[])
 | .ptr τ,x=>(.ft id [],[(id,some (.obj τ x))])
 | .ft _,_=>(.any,[])
 | .lo _,_=>(.any,[])
 | .sp τ n e,x=>match oF τ x n (fun υ y=>bw υ (.slice e) y some),dz τ x n (fun υ' _ k'=>bw (.slice e) υ' [] k') some with
  |some l,some z=>(.zZ τ z n id,[(id,some (.own e l))])
  |_,_=>(.any,[])
def eE:(ms:List AM)→HP ms→Nat→List (Nat×AM)→List aM×fu×List (Nat×AM)
 |[],_,_,io=>([],[],io)
 |[m],x,id,io=>match m,x,io with
  | .io τ,x,(j,_)::io=>([],[(j,some (.obj τ x))],io)
  | .lo e,x,(j,_)::io=>([],[(j,some (.own e x))],io)
  |m,x,io=>([(qb m x id).1],(qb m x id).2,io)
 |m::n::ms,x,id,io=>match m,x,io with
  | .io τ,x,(j,_)::io=>let r:=eE (n::ms) x.2 (id+1) io;(r.1,(j,some (.obj τ x.1))::r.2.1,r.2.2)
  | .lo e,x,(j,_)::io=>let r:=eE (n::ms) x.2 (id+1) io;(r.1,(j,some (.own e x.1))::r.2.1,r.2.2)
  |m,x,io=>let r:=eE (n::ms) x.2 (id+1) io;((qb m x.1 id).1::r.1,(qb m x.1 id).2++r.2.1,r.2.2)
def Dn:List aM→aM
 |[]=> .any
 |[a]=>a
 |l=> .Vb l
def oH(H:Nat→Option aI)(id:Nat):Nat→Bool
 |0=>true
 |n+1=>(match H (id+n)with|none=>true|some _=>false)&&oH H id n
def Dp(id:Nat):Nat→List Nat
 |0=>[]
 |n+1=>(id+n)::Dp id n
def fits:List AM→List aM→Bool
 |[],[]=>true
 | .fn f _::ms,.Dh g _::lL=>Nat.beq f g&&fits ms lL
 | .fn _ _::_,_::_=>false
 |_::ms,_::lL=>fits ms lL
 |_,_=>false
def Dq:List iI→List aM→Option iI
 |[],_=>none
 |S::r,lL=>cond (fits S.args lL) (some S) (Dq r lL)
def vu(E:Env)(f:Nat)(lL:List aM)(id:Nat)(H:Nat→Option aI)(K:eo α):Option α:=
 match Dq (E.Γ f) lL with
 |none=>none
 |some S=>oa S.args lL H [] [] [] [] λx rd uo uf io=>
  (S.run x).bind λy=>
   let r:=eE S.res y id io
   cond (oH H id S.res.length) (K (Dn r.1) (Dp id S.res.length++(r.2.1.map (·.1)++rd)) (uo++cond S.quiet [] uf++r.2.1)) none
def rG(a:Option aM)(d:Int)(k:Int→Option α):Option α:=
 match a with
 |none=>k d
 |some a=>pG a λ_ x=>k x
def gi:Option Operand→Bool
 |some (.const (.int _ n))=>decide (n=0)
 |_=>false
def mB(t:Ty)(z:Bool)(a:aM)(lo hi mx:Option aM)(H:Nat→Option aI)(K:eo α):Option α:=
 match t,a with
 | .str,.val .str s=>cond mx.isNone (rG lo 0 λl=>rG hi (ByteArray.size s:Int) λh=>
  cond (lz l h (ByteArray.size s:Int) (ByteArray.size s:Int)) (K (.val .str (ByteArray.extract s l.toNat h.toNat)) [] []) none) none
 | .slice _,.emp=>cond z (K .emp [] []) (cond mx.isNone (rG lo 0 λl=>rG hi 0 λh=>cond (lz l h 0 0) (K .emp [] []) none) none)
 | .slice e,a=>iH (!z) a H (.slice e) λx rd ups=>cond z (K .emp rd [])
  (cond (mx.isNone||hi.isSome) (rG lo 0 λl=>rG hi (ℓ x:Int) λh=>rG mx (ℓ x:Int) λm=>
   cond (lz l h m (ℓ x:Int))
    (K (.val (.slice e) (List.drop l.toNat (List.take h.toNat x))) rd ups) none) none)
 |_,_=>none
def qc(E:Env)(t:Ty)(z:Bool)(a:aM)(lo hi mx:Option aM)(H:Nat→Option aI)(K:eo α):Option α:=
 match E.vw,t,a,lo,hi,mx with
 |true,.slice e,.ref id,some lo,none,none=>pG lo λ_ i=>match H id with
  |some (.own e' l)=>fg e' e (cond (lz i (ℓ l:Int) (ℓ l:Int) (ℓ l:Int)) (K (.sub id e i.toNat) [id] []) none)
  |_=>none
 |_,t,a,lo,hi,mx=>mB t z a lo hi mx H K
def rZ(e:Ty)(a:aM)(H:Nat→Option aI)(K:eo α):Option α:=
 match a with
 | .sub id e' lo=>fg e' e (match H id with
  |some (.own e2 l)=>bw (.slice e2) (.slice e) l λl=>K .any [id] [(id,some (.own e (List.take lo l++List.replicate (ℓ l-lo) e.zero)))]
  |_=>none)
 |_=>none
def ep(τ:Ty)(a i:aM)(H:Nat→Option aI)(K:eo α):Option α:=
 pG i λ_ i=>
 match τ with
 | .slice e=>match a with
  | .val υ l=>bw υ (.slice e) l λl=>cond (bJ i (ℓ l)) (K (.mw e (γ l i.toNat e.zero)) [] []) none
  | .ref id=>match H id with
   |some (.own e' l)|some (.ke e' l)=>fg e' e (cond (bJ i (ℓ l)) (K (.ft id [.idx i.toNat]) [id] []) none)
   |_=>none
  |_=>none
 | .arr n e=>match a with
  | .ft id p=>g7 id p H fun υ=>fg υ (.arr n e) (cond (bJ i n) (K (.ft id (p++[.idx i.toNat])) [id] []) none)
  | .mw υ l=>bw υ (.arr n e) l λl=>cond (bJ i n) (K (.mw e (γ l i.toNat e.zero)) [] []) none
  |_=>none
 |_=>none
def qd(τ:Ty)(a i:aM)(K:aM→Option α):Option α:=
 pG i λ_ i=>
 match τ,a with
 | .arr n e,.val υ l=>bw υ (.arr n e) l λl=>cond (bJ i n) (K (.val e (γ l i.toNat e.zero))) none
 | .str,.val .str s=>cond (bJ i (ByteArray.size s)) (K (.val (.int .u8) ((s.data.getD i.toNat 0).toNat:Int))) none
 |_,_=>none
def gX(a:aM)(H:Nat→Option aI)(K:(υ:Ty)→υ.den→List Nat→Option α):Option α:=
 match a with
 | .mw τ x=>K τ x []
 | .ft id p=>match H id with
  |some (.obj τ x)=>tj p τ x fun υ y=>K υ y [id]
  |some (.own e l)|some (.ke e l)=>match p with
   | .idx i::p=>tj p e (γ l i e.zero) fun υ y=>K υ y [id]
   |_=>none
  |_=>none
 |_=>none
def iJ(τ:Ty)(a v:aM)(H:Nat→Option aI)(K:eo α):Option α:=
 match a with
 | .ft id p=>iH true v H τ λy rd ups=>
  match H id with
  |some (.obj υ x)=>pF τ y p υ x λz=>K .any (id::rd) (ups++[(id,some (.obj υ z))])
  |some (.own e l)=>match p with
   | .idx i::p=>cond (rd.contains id) none (pF τ y p e (γ l i e.zero) λz=>K .any (id::rd) (ups++[(id,some (.own e (List.set l i z)))]))
   |_=>none
  |_=>none
 |_=>none
def wA(j:Nat)(q:List Step)(τ:Ty)(x:τ.den)(H:Nat→Option aI)(k:τ.den→fu→Option α):Option α:=
 match H j with
 |some (.own e l)=>pF (.slice e) l q τ x λz=>k z [(j,some (.ke e l))]
 |some (.ke e l)=>pF (.slice e) l q τ x λz=>k z []
 |_=>none
def ob(τ:Ty)(a:aM)(H:Nat→Option aI)(K:eo α):Option α:=
 let jE:=gX a H fun υ y rd=>bw υ τ y λz=>K (.val τ z) rd []
 match a with
 | .ft id p=>match H id with
  |some (.dT υ x q j)=>cond (CJ p q) (cond (dE q υ τ) (K (.ref j) [id] []) none)
   (cond (rE p q) (wA j q υ x H λz ups=>tj p υ z fun υ' y=>bw υ' τ y λy'=>K (.val τ y') [id,j] ups)
    (tj p υ x fun υ' y=>bw υ' τ y λy'=>K (.val τ y') [id] []))
  |_=>jE
 |_=>jE
def vv(τ:Ty)(id k:Nat)(e:Ty)(q:List Step)(υ:Ty)(x:υ.den)(H:Nat→Option aI)(K:eo α):Option α:=
 match H k with
 |some (.own e' _)=>fg e' e (fg τ (.slice e) (pF (.slice e) [] q υ x λz=>K .any [id,k] [(id,some (.dT υ z q k))]))
 |_=>none
def gy(E:Env)(τ:Ty)(a v:aM)(H:Nat→Option aI)(K:eo α):Option α:=
 let jE:=iJ τ a v H K
 match a with
 | .ft id p=>match H id with
  |some (.obj υ x)=>match z5 E υ id,v with
   |some (q,e),.ref k=>cond (CJ p q) (vv τ id k e q υ x H K) jE
   |_,_=>jE
  |some (.dT υ x q j)=>
   let put:=iH true v H τ λy rd ups=>pF τ y p υ x λz=>K .any (id::rd) (ups++[(id,some (cond (rE p q) (.obj υ z) (.dT υ z q j)))])
   match z5 E υ id,v with
   |some (q',e),.ref k=>cond (CJ p q&&CJ q q') (vv τ id k e q υ x H K) put
   |_,_=>put
  |_=>jE
 |_=>jE
def nK(E:Env)(τ:Ty)(a v:aM)(H:Nat→Option aI)(K:eo α):Option α:=
 match a,v with
 | .ft id [],.BB υ y n=>match z5 E υ id with
  |some ([.fG m],e)=>cond (Nat.beq m n) (fg τ υ (g7 id [] H fun υ'=>fg υ' υ
   (mz H (id+2) (.own e []) (K .any [id,id+2] [(id,some (.dT υ y [.fG m] (id+2))),(id+2,some (.own e []))])))) (gy E τ a v H K)
  |_=>gy E τ a v H K
 |_,_=>gy E τ a v H K
def wB(H:Nat→Option aI)(id:Nat)(τ:Ty)(x:τ.den)(q:List Step)(e:Ty)(K:eo α):Option α:=
 mz H id (.obj τ x) (mz H (id+1) (.own e []) (K (.ft id []) [id,id+1] [(id,some (.dT τ x q (id+1))),(id+1,some (.own e []))]))
def Ny(E:Env)(ps:List (Nat×aM))(τ:Ty)(x:τ.den):aM:=match VX E τ with
 |some ([.fG n],_)=>cond (ps.all λp=> !(Nat.beq p.1 n)) (.BB τ x n) (.val τ x)
 |_=> .val τ x
def tk(E:Env)(τ:Ty)(a:aM)(H:Nat→Option aI)(K:eo α):Option α:=
 match E.sp,a with
 |true,.ft id []=>match H id with
  |some (.dT υ x [.fG n] j)=>bw υ τ x λx=>K (.zZ τ x n j) [id] []
  |_=>ob τ a H λv rd ups=>K v (id::rd) ups
 |_,_=>ob τ a H K
def qf(E:Env)(τ:Ty)(a v:aM)(H:Nat→Option aI)(K:eo α):Option α:=
 match a,v with
 | .ft id [],.zZ υ y n j=>match z5 E υ id with
  |some ([.fG m],e)=>cond (Nat.beq m n) (fg τ υ (g7 id [] H fun υ'=>fg υ' υ (match H j with
   |some (.own e' _)=>fg e' e (K .any [id,j] [(id,some (.dT υ y [.fG m] j))])
   |_=>none))) none
  |_=>none
 |_,_=>nK E τ a v H K
def BC(E:Env)(ps:List (Nat×aM))(τ:Ty):Option (Nat×Nat):=match E.sp,VX E τ with
 |true,some ([.fG n],_)=>match ps.filter λp=>Nat.beq p.1 n with
  |[(_,.ref k)]=>some (n,k)
  |_=>none
 |_,_=>none
def qg(n:Nat)(ps:List (Nat×aM)):List (Nat×aM):=ps.map λp=>cond (Nat.beq p.1 n) (p.1,.emp) p
def partsOf(σρ:Operand→aM)(ps:Array (Nat×Operand)):List (Nat×aM):=ps.toList.map λp=>(p.1,σρ p.2)
def nn(E:Env)(o:Oper)(ρ:Operand→aM)(H:Nat→Option aI)(K:eo α):Option α:=
 let id:=16*o.dst.getD 0
 match o.op with
 | .move x| .assign x=>K (ρ x) [] []
 | .pick c a b=>match ρ c with
  | .val .bool t=>cond t (K (ρ a) [] []) (K (ρ b) [] [])
  |_=>none
 | .alloc t=>match E.ty t with
  |some τ=>match z5 E τ id with
   |some (q,e)=>wB H id τ τ.zero q e K
   |none=>mz H id (.obj τ τ.zero) (K (.ft id []) [id] [(id,some (.obj τ τ.zero))])
  |none=>none
 | .box t x=>match E.ty t with
  |some τ=>
   let jE:=iH true (ρ x) H τ λy rd ups=>mz H id (.obj τ y) (K (.ft id []) (id::rd) (ups++[(id,some (.obj τ y))]))
   match z5 E τ id,ρ x with
   |some ([.fG m],e),.BB υ y n=>cond (Nat.beq m n) (bw υ τ y λy=>wB H id τ y [.fG m] e K) jE
   |_,_=>jE
  |none=>none
 | .build t ps=>match E.ty t with
  |some (.arr n e)=>p9 e H n (partsOf ρ ps) (List.replicate n e.zero) [] [] λl rd ups=>K (.val (.arr n e) l) rd ups
  |some τ=>match BC E (partsOf ρ ps) τ with
   |some (n,k)=>match H k with
    |some (.own _ _)=>cond τ.isAgg (g8 τ H (qg n (partsOf ρ ps)) τ.zero [] [] λx rd ups=>K (.zZ τ x n k) (k::rd) ups) none
    |_=>none
   |none=>cond τ.isAgg (g8 τ H (partsOf ρ ps) τ.zero [] [] λx rd ups=>K (Ny E (partsOf ρ ps) τ x) rd ups) none
  |none=>none
 | .buildSlice t n ps=>match E.ty t with
  |some (.slice e)=>cond (Nat.ble (n*(e.size+1)) 16777216) (mz H id (.own e []) (p9 e H n (partsOf ρ ps) (List.replicate n e.zero) [] [] λl rd ups=>K (.ref id) (id::rd) (ups++[(id,some (.own e l))]))) none
  |_=>none
 | .load t a=>match E.ty t with
  |some τ=>tk E τ (ρ a) H K
  |none=>none
 | .store t a v=>match E.ty t with
  |some τ=>qf E τ (ρ a) (ρ v) H K
  |none=>none
 | .nilCheck x=>match ρ x with
  | .ft id p=>K (.ft id p) [] []
  | .mw τ x=>K (.mw τ x) [] []
  |_=>none
 | .binOp op t x y _=>Dj (ρ x) fun τ x=>Dj (ρ y) fun υ y=>xR (E.ty t) op τ x υ y λv=>K v [] []
 | .unOp op _ x=>IA op (ρ x) λv=>K v [] []
 | .convert src dst x=>match E.ty src,E.ty dst with
  |some _,some (.int k)=>pG (ρ x) λ_ n=>K (.val (.int k) (W k n)) [] []
  |_,_=>none
 | .makeFunc (.func f) first my=>cond first.isEmpty (qa H (my.toList.map ρ) λcs rd ups=>K (.Dh f cs) rd ups) none
 | .makeSlice t l c=>match E.ty t with
  |some (.slice e)=>pG (ρ l) λ_ l=>pG (ρ c) λ_ c=>cond (oC l c)
    (mz H id (.own e []) (K (.ref id) [id] [(id,some (.own e (List.replicate l.toNat e.zero)))])) none
  |_=>none
 | .slice t x lo hi mx=>match E.ty t with
  |some τ=>qc E τ (lo.isNone&&gi hi&&gi mx) (ρ x) (lo.map ρ) (hi.map ρ) (mx.map ρ) H K
  |none=>none
 | .fieldAddr t x n=>match E.ty t with
  |some τ=>match ρ x with
   | .ft id p=>g7 id p H fun υ=>fg υ τ (oF τ τ.zero n fun υ' _=>cond (Nat.beq υ'.size 0) none (K (.ft id (p++[.fG n])) [id] []))
   | .mw υ x=>fg υ τ (oF υ x n fun υ y=>cond (Nat.beq υ.size 0) none (K (.mw υ y) [] []))
   |_=>none
  |none=>none
 | .field t x n=>match E.ty t with
  |some τ=>match ρ x with
   | .val υ x=>fg υ τ (oF υ x n fun υ y=>K (.val υ y) [] [])
   |_=>none
  |none=>none
 | .indexAddr t x i=>match E.ty t with
  |some τ=>ep τ (ρ x) (ρ i) H K
  |none=>none
 | .index t x i=>match E.ty t with
  |some τ=>qd τ (ρ x) (ρ i) λv=>K v [] []
  |none=>none
 | .extract t i=>match ρ t with
  | .Vb vs=>match vs[i]? with
   |some v=>K v [] []
   |none=>none
  |_=>none
 | .call c=>match c.callee with
  | .builtin .len=>match c.args.toList,(c.argTypes.toList.head?).bind E.ty with
   |[x],some τ=>Dl τ (ρ x) H K
   |_,_=>none
  | .builtin .append=>match c.args.toList,c.argTypes.toList with
   |[x,y],[t,t']=>match E.ty t with
    |some (.slice e)=>cond (Nat.beq t t') (mz H id (.own e []) (Dm id e (ρ x) (ρ y) H K)) none
    |_=>none
   |_,_=>none
  | .builtin .clear=>match c.args.toList,c.argTypes.toList with
   |[x],[t]=>match E.ty t with
    |some (.slice e)=>rZ e (ρ x) H K
    |_=>none
   |_,_=>none
  | .builtin .max=>match c.args.toList with
   |x::r=>M6 true (ρ x) (r.map ρ) λv=>K v [] []
   |_=>none
  | .builtin .min=>match c.args.toList with
   |x::r=>M6 false (ρ x) (r.map ρ) λv=>K v [] []
   |_=>none
  | .value g=>match ρ g with
   | .Dh f my=>vu E f (c.args.toList.map ρ++my) id H K
   |_=>none
  |_=>none
 |_=>none
def oc(E:Env)(ops:List Oper)(o:Oper)(σ:St)(K:St→List Nat→List Nat→Option α):Option α:=
 let run (σ:St):Option α:=nn E o σ.ρ σ.H λv rd ups=>K ((σ.p7 ups).pE o.dst v) rd (ups.map (·.1))
 cond (Di E.nt E.io o.dst) (match o.guard with
 |none=>run σ
 |some (j,want)=>match(ops[j]?).bind (·.dst)with
  |none=>none
  |some t=>match σ.T t with
   | .val .bool b=>match want with
    |true=>cond b (run (σ.put t (.val .bool true))) (K ((σ.put t (.val .bool false)).pE o.dst .Kw) [] [])
    |false=>cond b (K ((σ.put t (.val .bool true)).pE o.dst .Kw) [] []) (run (σ.put t (.val .bool false)))
   | .Kw=>K (σ.pE o.dst .Kw) [] []
   |_=>none) none
abbrev Log:=List (Nat×List Nat×List Nat)
def IB(E:Env)(ops:List Oper):List Oper→Nat→St→Log→(St→Log→Option α)→Option α
 |[],_,σ,lg,K=>K σ lg
 |o::r,i,σ,lg,K=>oc E ops o σ fun σ' rd wr=>IB E ops r (i+1) σ' ((i,rd,wr)::lg) K
def nL:List Oper→List Nat→List Nat
 |[],acc=>acc
 |o::r,acc=>nL r (acc++[o.after.toList.foldl (λs e=>cond (Region.binds .any e) (s|||2^e.on|||acc.getD e.on 0) s) 0])
def names(ops:List Oper)(o:Oper):List Nat:=
 (o.op.operands.toList.filterMap fun| .tmp t=>some t|_=>none)++
 (match o.guard with
  |some (g,_)=>((ops[g]?).bind (·.dst)).toList
  |none=>[])
def meets(a b:List Nat):Bool:=a.any λx=>b.any λy=>Nat.beq x y
def Kx(ops:List Oper):Bool:=
 let b:=nL ops []
 (ops.zipIdx.all λ(o,j)=>o.after.toList.all λe=> !(Region.binds .any e)||Nat.blt e.on j)&&
 ops.zipIdx.all λ(o,j)=>ops.zipIdx.all λ(p,i)=>Nat.ble j i||(b.getD j 0).testBit i||
  !(meets p.dst.toList (o.dst.toList++names ops o)||meets o.dst.toList (names ops p))
def QV(ops:List Oper)(lg:Log):Bool:=
 let b:=nL ops []
 lg.all λx=>lg.all λy=>Nat.ble x.1 y.1||(b.getD x.1 0).testBit y.1||
  !(meets y.2.2 (x.2.1++x.2.2)||meets y.2.1 x.2.2)
def wY(E:Env)(ops:Array Oper)(draw:Bool)(σ:St)(K:St→Option α):Option α:=
 IB E ops.toList ops.toList 0 σ [] fun σ' lg=>cond (!draw||(Kx ops.toList&&QV ops.toList lg)) (K σ') none
def eS:List (Nat×CM)→St→St→(St→Option α)→Option α
 |[],_,acc,K=>K acc
 |(s,.v τ)::r,σ,acc,K=>iH true (σ.T s) σ.H τ λx _ ups=>eS r (σ.p7 ups) (acc.put s (.val τ x)) K
 |(s,.own e)::r,σ,acc,K=>match σ.T s with
  | .emp=>eS r σ ((acc.put s (.ref (16*s+14))).fY (16*s+14) (some (.own e []))) K
  | .ref id=>match σ.H id with
   |some (.own e' l)=>bw (.slice e') (.slice e) l λx=>eS r (σ.fY id (some .gone)) ((acc.put s (.ref (16*s+14))).fY (16*s+14) (some (.own e x))) K
   |_=>none
  |_=>none
 |(s,.obj τ)::r,σ,acc,K=>match σ.T s with
  | .ft id []=>match σ.H id with
   |some (.obj υ x)=>bw υ τ x λy=>eS r (σ.fY id (some .gone)) ((acc.put s (.ft (16*s+14) [])).fY (16*s+14) (some (.obj τ y))) K
   |some (.dT υ x q j)=>wA j q υ x σ.H λz ups=>bw υ τ z λy=>eS r ((σ.p7 ups).fY id (some .gone)) ((acc.put s (.ft (16*s+14) [])).fY (16*s+14) (some (.obj τ y))) K
   |_=>none
  |_=>none
 |(s,.dT τ q e)::r,σ,acc,K=>match σ.T s with
  | .ft id []=>match σ.H id with
   |some (.dT υ x q' j)=>cond (CJ q q') (match σ.H j with
    |some (.own e' l)=>bw υ τ x λy=>bw (.slice e') (.slice e) l λl=>eS r ((σ.fY j (some .gone)).fY id (some .gone))
     (((acc.put s (.ft (16*s+14) [])).fY (16*s+13) (some (.own e l))).fY (16*s+14) (some (.dT τ y q (16*s+13)))) K
    |_=>none) none
   |_=>none
  |_=>none
 |(s,.same s')::r,σ,acc,K=>match σ.T s,σ.T s',acc.T s' with
  | .ref i,.ref j,.ref j'=>cond (Nat.beq i j) (eS r σ (acc.put s (.ref j')) K) none
  |_,_,_=>none
 |(s,.io τ)::r,σ,acc,K=>match σ.T s with
  | .ft id []=>cond (Nat.beq id (16*s+15)) (match σ.H id with
   |some (.obj υ x)=>bw υ τ x λy=>eS r (σ.fY id (some .gone)) ((acc.put s (.ft (16*s+15) [])).fY (16*s+15) (some (.obj τ y))) K
   |_=>none) none
  |_=>none
 |(s,.fn f τ)::r,σ,acc,K=>match σ.T s with
  | .Dh f' c=>cond (Nat.beq f f') (mA σ.H τ c λx _ ups=>match ups with
   |[]=>eS r σ (acc.put s (.Dh f (lA τ x))) K
   |_=>none) none
  |_=>none
def gz:List (Nat×CM)→Bool
 |[]=>true
 |q::r=>r.all (λp=> !(Nat.beq p.1 q.1))&&gz r
def qh(L:Option (List (Nat×CM)))(σ:St)(K:St→Option α):Option α:=
 match L with
 |none=>K σ
 |some L=>eS L σ ⟨λ_=> .any,λ_=>none⟩ K
def vx(L:Option (List (Nat×CM)))(step:St→(St→Option α)→Option α):Nat→St→Option α
 |0,_=>none
 |n+1,σ=>step σ fun σ'=>qh L σ' (vx L step n)
def bN:Code→Option Nat
 | .region id _ _=>some id
 | .seq a b=>match bN a with
  |some i=>some i
  |none=>bN b
 | .block _ c| .loop c| .scope c=>bN c
 |_=>none
def AE(E:Env)(c:Operand)(σ:St)(A B:St→Option α):Option α:=
 match σ.ρ c with
 | .val .bool b=>match c with
  | .tmp t=>cond b (A (σ.put t (.val .bool true))) (B (σ.put t (.val .bool false)))
  |_=>cond b (A σ) (B σ)
 |_=>none
def wZ(E:Env)(c:Code):St→(St→Option α)→(Nat→St→Option α)→(St→Option α)→Option α:=
 Code.rec (motive:=λ_=>St→(St→Option α)→(Nat→St→Option α)→(St→Option α)→Option α)
  (fun σ k _ _=>k σ)
  (λ_ ops draw σ k _ _=>wY E ops draw σ k)
  (λ_ b A B σ k kx kr=>A σ (fun σ'=>qh ((bN b).bind E.rF) σ' fun σ''=>B σ'' k kx kr) kx kr)
  (λc _ _ A B σ k kx kr=>AE E c σ (fun σ'=>A σ' k kx kr) (fun σ'=>B σ' k kx kr))
  (λid _ A σ k kx kr=>A σ k (λi σ'=>cond (Nat.beq i id) (k σ') (kx i σ')) kr)
  (λb A σ _ kx kr=>qh ((bN b).bind E.p8) σ (vx ((bN b).bind E.p8) (fun σ' kn=>A σ' kn kx kr) E.N))
  (λ_ _ _ _ _ _ _ _ _ _=>none)
  (λid σ _ kx _=>kx id σ)
  (λ_ A σ k kx kr=>A σ k kx kr)
  (λ_ σ k _ _=>k σ)
  (λ_ _ _ _ _=>none)
  (fun σ _ _ kr=>kr σ)
  (λ_ _ _ _ _=>none)
  c
def pH(E:Env):List Nat→Code→List (St→Option α)→St→(St→Option α)→(Nat→St→Option α)→(St→Option α)→Option α
 |[],c,_,σ,k,kx,kr=>wZ E c σ k kx kr
 |n::p,c,ks,σ,k,kx,kr=>match c with
  | .seq a b=>match n with
   |0=>pH E p a ks σ (fun σ'=>qh ((bN b).bind E.rF) σ' fun σ''=>wZ E b σ'' k kx kr) kx kr
   |_=>pH E p b ks σ k kx kr
  | .cond _ a b=>match n with
   |0=>pH E p a ks σ k kx kr
   |_=>pH E p b ks σ k kx kr
  | .block id c=>pH E p c ks σ k (λi σ'=>cond (Nat.beq i id) (k σ') (kx i σ')) kr
  | .loop b=>match ks with
   |κ::ks=>pH E p b ks σ κ kx kr
   |[]=>none
  | .scope c=>pH E p c ks σ k kx kr
  |_=>none
def Gl(m:AM)(x:m.den)(i:Nat)(σ:St):St:=
 match m,x with
 | .v τ,x=>σ.put i (.val τ x)
 | .own e,x=>(σ.put i (.ref (16*i+15))).fY (16*i+15) (some (.own e x))
 | .io τ,x=>(σ.put i (.ft (16*i+15) [])).fY (16*i+15) (some (.obj τ x))
 | .fn f τ,x=>σ.put i (.Dh f (lA τ x))
 | .ptr _,_=>σ
 | .ft τ,x=>σ.put i (.mw τ x)
 | .lo e,x=>(σ.put i (.ref (16*i+15))).fY (16*i+15) (some (.own e x))
 | .sp _ _ _,_=>σ
def entry:(ms:List AM)→HP ms→Nat→St→St
 |[],_,_,σ=>σ
 |[m],x,i,σ=>Gl m x i σ
 |m::n::ms,x,i,σ=>entry (n::ms) x.2 (i+1) (Gl m x.1 i σ)
def AF(E:Env)(m:AM)(r:ResultVar ⊕ Nat)(σ:St)(K:m.den→St→Option α):Option α:=
 match m,r,K with
 | .v τ,.inl (.tmp t),K=>iH true (σ.T t) σ.H τ λx _ ups=>K x (σ.p7 ups)
 | .v τ,.inl (.cell a t),K=>match E.ty t with
  |some τ'=>fg τ' τ (gX (σ.T a) σ.H fun υ y _=>bw υ τ y λx=>K x σ)
  |none=>none
 | .own e,.inl (.tmp t),K=>match σ.T t with
  | .emp=>K [] σ
  | .ref id=>match σ.H id with
   |some (.own e' l)=>bw (.slice e') (.slice e) l λx=>K x (σ.fY id (some .gone))
   |_=>none
  |_=>none
 | .io τ,.inr i,K=>match σ.T i with
  | .ft id []=>match σ.H id with
   |some (.obj υ x)=>bw υ τ x λy=>K y (σ.fY id (some .gone))
   |_=>none
  |_=>none
 | .lo e,.inr i,K=>match σ.T i with
  | .ref id=>match σ.H id with
   |some (.own e' l)=>bw (.slice e') (.slice e) l λx=>K x (σ.fY id (some .gone))
   |_=>none
  |_=>none
 | .ptr τ,.inl (.tmp t),K=>match σ.T t with
  | .ft id []=>match σ.H id with
   |some (.obj υ x)=>bw υ τ x λy=>K y (σ.fY id (some .gone))
   |_=>none
  |_=>none
 | .sp τ n e,.inl (.cell a t),K=>match E.ty t,σ.T a with
  |some τ',.ft id []=>fg τ' τ (match σ.H id with
   |some (.dT υ x q j)=>cond (CJ q [.fG n]) (bw υ τ x λx=>match σ.H j with
    |some (.own e' l)=>bw (.slice e') (.slice e) l λl=>dz τ x n (fun υ' _ k'=>bw (.slice e) υ' l k') λz=>K z (σ.fY j (some .gone))
    |_=>none) none
   |_=>none)
  |_,_=>none
 |_,_,_=>none
def BD(E:Env):(ms:List AM)→List (ResultVar ⊕ Nat)→St→(HP ms→Option α)→Option α
 |[],[],_,K=>K ()
 |[m],[r],σ,K=>AF E m r σ λx _=>K x
 |m::n::ms,r::rs,σ,K=>AF E m r σ λx σ'=>BD E (n::ms) rs σ' λxs=>K (x,xs)
 |_,_,_,_=>none
def rH:List AM→Nat→List (ResultVar ⊕ Nat)
 |[],_=>[]
 | .io _::ms,i=> .inr i::rH ms (i+1)
 | .lo _::ms,i=> .inr i::rH ms (i+1)
 |_::ms,i=>rH ms (i+1)
def CN(E:Env)(fn:Func)(args res:List AM)(x:HP args):Option (HP res):=
 match fn.body with
 |none=>none
 |some c=>
  let kr:St→Option (HP res):=fun σ=>BD E res (fn.results.toList.map .inl++rH args 0) σ some
  wZ E c (entry args x 0 ⟨λ_=> .any,λ_=>none⟩) kr (λ_ _=>none) kr
end
end VM
end
section
namespace VM
open Go
def od(N:Nat)(x y c:Int):Option (Int×Int):=if 0≤x∧0≤y∧0≤c∧c≤1 then some ((x+y+c)%18446744073709551616,(x+y+c)/18446744073709551616)else none
def np(N:Nat)(x y c:Int):Option (Int×Int):=if 0≤x∧x<18446744073709551616∧0≤y∧y<18446744073709551616∧0≤c∧c≤1 then some ((x+18446744073709551616-y-c)%18446744073709551616,if x<y+c then 1 else 0)else none
def lM{α:Type}(N:Nat)(l:List α)(i:Int)(v:List α):Option (List α):=if 0≤i∧i≤l.length∧v.length=1∧l.length+1<th then some (l.take i.toNat++(v++l.drop i.toNat))else none
def Nz{α:Type}(N:Nat)(l:List α)(n:Int):Option (List α):=match l with
 |[x]=>if 0<n∧n<1048576 then some (List.replicate n.toNat x)else none
 |_=>none
def od.S(N:Nat):iI:={args:=[.v (.int .u64),.v (.int .u64),.v (.int .u64)],res:=[.v (.int .u64),.v (.int .u64)],quiet:=true,run:=λx=>od N x.1 x.2.1 x.2.2}
def np.S(N:Nat):iI:={args:=[.v (.int .u64),.v (.int .u64),.v (.int .u64)],res:=[.v (.int .u64),.v (.int .u64)],quiet:=true,run:=λx=>np N x.1 x.2.1 x.2.2}
def iE(e:Ty)(N:Nat):iI:={args:=[.own e,.v (.int .i64),.own e],res:=[.own e],quiet:=false,run:=λx=>lM N x.1 x.2.1 x.2.2}
def ZW(e:Ty)(N:Nat):iI:={args:=[.v (.slice e),.v (.int .i64)],res:=[.own e],quiet:=false,run:=λx=>Nz N x.1 x.2}
def fh{α:Type}(N:Nat)(l:List α):Option (List α):=if l.length<th then some l else none
def qi(e:Ty)(N:Nat):iI:={args:=[.v (.slice e)],res:=[.own e],quiet:=false,run:=λx=>fh N x}
end VM
namespace VM
abbrev dC:Int×Int×Unit:=((0:Int),((0:Int),()))
abbrev fP:List (Int×Int×Unit):=[]
abbrev aH:Int×Int×Int×Unit:=((0:Int),((0:Int),((0:Int),())))
abbrev cj:List (Int×Int×Int×Unit):=[]
abbrev bQ:Int×Int×Int×Int×Unit:=((0:Int),((0:Int),((0:Int),((0:Int),()))))
abbrev fQ:List (Int×Int×Int×Int×Unit):=[]
abbrev g9:Int×Int×Int×Int×Int×Unit:=((0:Int),((0:Int),((0:Int),((0:Int),((0:Int),())))))
abbrev ee5:List (Int×Int×Int×Int×Int×Unit):=[]
abbrev fZ:Int×Int×Int×Int×Int×Int×Unit:=((0:Int),((0:Int),((0:Int),((0:Int),((0:Int),((0:Int),()))))))
abbrev fv:List (Int×Int×Int×Int×Int×Int×Unit):=[]
abbrev zz7:Int×Int×Int×Int×Int×Int×Int×Unit:=((0:Int),((0:Int),((0:Int),((0:Int),((0:Int),((0:Int),((0:Int),())))))))
abbrev ee7:List (Int×Int×Int×Int×Int×Int×Int×Unit):=[]
abbrev zz8:Int×Int×Int×Int×Int×Int×Int×Int×Unit:=((0:Int),((0:Int),((0:Int),((0:Int),((0:Int),((0:Int),((0:Int),((0:Int),()))))))))
abbrev ee8:List (Int×Int×Int×Int×Int×Int×Int×Int×Unit):=[]
abbrev eH:List Int:=[]
abbrev rS:List Int×Unit:=(eH,())
end VM
end
section
namespace VM
open Go
def At(w:World)(b off:Nat)(cs:List Value):Prop:= ∀j v,cs[j]? =some v→w.cell? ⟨b,off+j,none⟩=some v
def Rd(w:World)(M:Nat→Prop):(τ:Ty)→List Value→τ.den→Prop
 | .int k,cs,x=>cs=[.int k x]
 | .bool,cs,x=>cs=[.bool x]
 | .str,cs,x=>cs=[.string x]
 | .slice e,cs,x=> ∃a cap,cs=[.slice a (ℓ x) cap]∧ℓ x≤cap∧
  ∀i (h:i<ℓ x),∃b off,a=some ⟨b,off,none⟩∧b<w.heap.size∧ ¬M b∧ ∃cs',At w b (off+i*e.size) cs'∧Rd w M e cs' (List.get x ⟨i,h⟩)
 | .unit,cs,_=>cs=[]
 | .pair a b,cs,x=> ∃c1 c2,cs=c1++c2∧Rd w M a c1 x.1∧Rd w M b c2 x.2
 | .arr n e,cs,x=>ℓ x=n∧ ∃IC:List (List Value),IC.length=n∧cs=IC.flatten∧
  ∀i (h:i<ℓ x) (h':i<IC.length),Rd w M e IC[i] (List.get x ⟨i,h⟩)
theorem ky{α:Type}(n:Nat): ∀(l:List (List α)),(∀i (h:i<l.length),l[i].length=n)→l.flatten.length=l.length*n
 |[],_=>by simp
 |a::l,h=>by
  have h0:=h 0 (by simp)
  have ih:=ky n l (λi hi=>h (i+1) (by simp;omega))
  simp only[xv]at h0
  simp only[sY,aC,aL,ih,h0,cI]
  omega
theorem Rd.length{w:World}{M:Nat→Prop}: ∀{τ:Ty} {cs:List Value} {x:τ.den},Rd w M τ cs x→cs.length=τ.size
 | .int _,_,_,h=>by simp only[Rd]at h;subst h;rfl
 | .bool,_,_,h=>by simp only[Rd]at h;subst h;rfl
 | .str,_,_,h=>by simp only[Rd]at h;subst h;rfl
 | .slice _,_,_,h=>by simp only[Rd]at h;obtain⟨a,cap,rfl,_⟩:=h;rfl
 | .unit,_,_,h=>by simp only[Rd]at h;subst h;rfl
 | .pair a b,_,_,h=>by
  simp only[Rd]at h
  obtain⟨c1,c2,rfl,h1,h2⟩:=h
  rw[aC,h1.length,h2.length];rfl
 | .arr n e,_,x,h=>by
  simp only[Rd]at h
  obtain⟨hn,IC,hc,rfl,hr⟩:=h
  rw[ky e.size IC (λi hi=>(hr i ω hi).length),hc];rfl
structure dq(w:World)(M:Nat→Prop)(w':World)(M':Nat→Prop):Prop where
 size:w.heap.size≤w'.heap.size
 block: ∀b,b<w.heap.size→ ¬M b→w'.heap[b]? =w.heap[b]?
 less: ∀b,b<w.heap.size→M' b→M b
theorem RW{w:World}{b o:Nat}{v:Value}(h:w.cell? ⟨b,o,none⟩=some v):b<w.heap.size:=by
 simp only[World.cell?]at h
 rcases ji b w.heap.size with hb|hb
 ·exact hb
 ·simp[Da hb]at h
theorem At.bm{w w':World}{b off:Nat}{cs:List Value}(h:At w b off cs)(hb:w'.heap[b]? =w.heap[b]?):At w' b off cs:=by
 intro j v hj
 have:=h j v hj
 rw[World.cell?_of_block (w:=w) hb]
 exact this
theorem At.append{w:World}{b off:Nat}{c1 c2:List Value}:At w b off (c1++c2)↔At w b off c1∧At w b (off+c1.length) c2:=by
 constructor
 ·intro h
  refine⟨λj v hj=>h j v (by rw[ng];exact hj;exact(oz.1 hj).1),λj v hj=> ?_⟩
  have:=h (c1.length+j) v (by rw[lH ω];simpa using hj)
  rw[kt];exact this
 ·rintro⟨h1,h2⟩ j v hj
  by_cases dv:j<c1.length
  ·rw[ng dv]at hj;exact h1 j v hj
  ·rw[lH ω]at hj
   have:=h2 (j-c1.length) v hj
   rwa [show off+c1.length+(j-c1.length)=off+j from by omega]at this
theorem Rd.bm{w w':World}{M M':Nat→Prop}(k:dq w M w' M'): ∀{τ:Ty} {cs:List Value} {x:τ.den},Rd w M τ cs x→Rd w' M' τ cs x
 | .int _,_,_,h=>h
 | .bool,_,_,h=>h
 | .str,_,_,h=>h
 | .slice e,_,x,h=>by
  simp only[Rd]at h ⊢
  obtain⟨a,cap,rfl,hc,hr⟩:=h
  refine⟨a,cap,rfl,hc,λi hi=> ?_⟩
  obtain⟨b,off,ha,hb,hm,cs',m2,gK⟩:=hr i hi
  exact⟨b,off,ha,ka hb k.size,λh'=>hm (k.less b hb h'),_,m2.bm (k.block b hb hm),gK.bm k⟩
 | .unit,_,_,h=>h
 | .pair a b,_,_,h=>by
  simp only[Rd]at h ⊢
  obtain⟨c1,c2,rfl,h1,h2⟩:=h
  exact⟨c1,c2,rfl,h1.bm k,h2.bm k⟩
 | .arr n e,_,x,h=>by
  simp only[Rd]at h ⊢
  obtain⟨hn,IC,hc,rfl,hr⟩:=h
  exact⟨hn,IC,hc,rfl,λi hi po=>(hr i hi po).bm k⟩
theorem dq.refl(w:World)(M:Nat→Prop):dq w M w M:=⟨aB _,λ_ _ _=>rfl,λ_ _ h=>h⟩
theorem dq.trans{w w' VY:World}{M M' CO:Nat→Prop}(h:dq w M w' M')(k:dq w' M' VY CO):dq w M VY CO:=
 ⟨iC h.size k.size,λb hb hm=>(k.block b (ka hb h.size) (λh'=>hm (h.less b hb h'))).trans (h.block b hb hm),
  λb hb hm=>h.less b hb (k.less b (ka hb h.size) hm)⟩
def V(w:World)(M:Nat→Prop)(τ:Ty)(v:Value)(x:τ.den):Prop:=
 if τ.isAgg then ∃cs,v= .agg cs∧Rd w M τ cs.toList x else Rd w M τ [v] x
theorem V.bm{w w':World}{M M':Nat→Prop}(k:dq w M w' M'){τ:Ty}{v:Value}{x:τ.den}(h:V w M τ v x):V w' M' τ v x:=by
 unfold V at*
 split
 ·rename_i ha;rw[ae ha]at h;obtain⟨cs,rfl,h⟩:=h;exact⟨cs,rfl,h.bm k⟩
 ·rename_i ha;rw[af ha]at h;exact h.bm k
theorem Rd.scalar{w:World}{M:Nat→Prop}{τ:Ty}{cs:List Value}{x:τ.den}(ha:τ.isAgg=false)(h:Rd w M τ cs x): ∃v,cs=[v]∧v.cells= #[v]:=by
 cases τ<;>simp only[Ty.isAgg,Bool.true_eq_false]at ha<;>simp only[Rd]at h
 ·exact⟨_,h,rfl⟩
 ·exact⟨_,h,rfl⟩
 ·exact⟨_,h,rfl⟩
 ·obtain⟨a,cap,rfl,_⟩:=h;exact⟨_,rfl,rfl⟩
theorem V.cells{w:World}{M:Nat→Prop}{τ:Ty}{v:Value}{x:τ.den}(h:V w M τ v x):Rd w M τ v.cells.toList x:=by
 unfold V at h
 by_cases ha:τ.isAgg=true
 ·rw[ae ha]at h;obtain⟨cs,rfl,h⟩:=h;exact h
 ·rw[af ha]at h
  obtain⟨v',hv,hc⟩:=h.scalar (by simpa using ha)
  simp only[dx,dR]at hv
  subst hv
  rw[hc];exact h
def aZ(τ:Ty)(cs:List Value):Value:=if τ.isAgg then .agg cs.toArray else cs.headD (.tuple #[])
theorem V.aZ{w:World}{M:Nat→Prop}{τ:Ty}{cs:List Value}{x:τ.den}(h:Rd w M τ cs x):V w M τ (aZ τ cs) x:=by
 unfold V VM.aZ
 by_cases ha:τ.isAgg=true
 ·rw[ae ha,ae ha];exact⟨_,rfl,by simpa using h⟩
 ·rw[af ha,af ha]
  obtain⟨v',rfl,_⟩:=h.scalar (by simpa using ha)
  exact h
theorem z6{w:World}{M:Nat→Prop}{τ:Ty}{cs:List Value}{x:τ.den}(h:Rd w M τ cs x):(aZ τ cs).cells.toList=cs:=by
 unfold VM.aZ
 by_cases ha:τ.isAgg=true
 ·rw[ae ha];simp[Value.cells]
 ·rw[af ha]
  obtain⟨v',rfl,hc⟩:=h.scalar (by simpa using ha)
  simp[hc]
theorem Rd.gO{w:World}{M:Nat→Prop}: ∀{τ:Ty} {cs:List Value} {x:τ.den},Rd w M τ cs x→ ∀v∈cs,v.oneCell'=true
 | .int _,_,_,h=>by simp only[Rd]at h;subst h;simp[Value.oneCell']
 | .bool,_,_,h=>by simp only[Rd]at h;subst h;simp[Value.oneCell']
 | .str,_,_,h=>by simp only[Rd]at h;subst h;simp[Value.oneCell']
 | .slice _,_,_,h=>by simp only[Rd]at h;obtain⟨a,cap,rfl,_⟩:=h;simp[Value.oneCell']
 | .unit,_,_,h=>by simp only[Rd]at h;subst h;simp
 | .pair a b,_,_,h=>by
  simp only[Rd]at h
  obtain⟨c1,c2,rfl,h1,h2⟩:=h
  intro v hv
  rcases br.1 hv with hv|hv
  ·exact h1.gO v hv
  ·exact h2.gO v hv
 | .arr n e,_,x,h=>by
  simp only[Rd]at h
  obtain⟨hn,IC,hc,rfl,hr⟩:=h
  intro v hv
  obtain⟨l,hl,hvl⟩:=List.mem_flatten.1 hv
  obtain⟨i,hi,rfl⟩:=xz.1 hl
  exact(hr i ω hi).gO v hvl
def Ty.bq:Ty→List Value
 | .int k=>[.int k 0]
 | .bool=>[.bool false]
 | .str=>[.string ByteArray.empty]
 | .slice _=>[.slice none 0 0]
 | .unit=>[]
 | .pair a b=>a.bq++b.bq
 | .arr n e=>(List.replicate n e.bq).flatten
theorem Rd.zero(w:World)(M:Nat→Prop): ∀(τ:Ty),Rd w M τ τ.bq τ.zero
 | .int _| .bool| .str| .unit=>by simp[Rd,Ty.bq,Ty.zero]
 | .slice _=>by
  simp only[Rd,Ty.bq,Ty.zero]
  exact⟨none,0,rfl,aB _,λi h=>absurd h (by simp)⟩
 | .pair a b=>by
  simp only[Rd,Ty.bq,Ty.zero]
  exact⟨_,_,rfl,Rd.zero w M a,Rd.zero w M b⟩
 | .arr n e=>by
  simp only[Rd,Ty.bq,Ty.zero]
  refine⟨by simp,_,by simp,rfl,λi h h'=> ?_⟩
  simp only[Db,xA]
  exact Rd.zero w M e
end VM
end
