/- A part of the proof of AwardBest of layer 25: a machine that reads a function of the program as an equation between values. -/
import GoSem.Claims
import Derived.WalkKit
import Derived.ArgAppend
import Derived.Laws.CopyRow
import Derived.Laws.MakeOwn
import Derived.Laws.OwnMore
import Derived.Orders
import Derived.LoopN
set_option linter.all false
section
namespace VM
open Go
theorem abl{α:Type}(a:α): ∃b:α,b=a:=⟨a,rfl⟩
noncomputable def aS{α:Type}(a:α):α:=Classical.choose (abl a)
theorem eK{α:Type}(a:α):aS a=a:=Classical.choose_spec (abl a)
def sS:Nat:=68719476736
noncomputable def W:IntKind→Int→Int:=aS fun k x=>k.wrap x
noncomputable def aM:Int→Int→Bool:=aS fun x y=>decide (x<y)
noncomputable def bS:Int→Int→Bool:=aS fun x y=>decide (x≤y)
noncomputable def az:Int→Int→Bool:=aS fun x y=>decide (x=y)
noncomputable def aL:Int→Nat→Bool:=aS fun i n=>decide (0≤i∧i<(n:Int))
noncomputable def small:Nat→Bool:=aS fun n=>decide (n<sS)
noncomputable def fK:Int→Int→Bool:=aS fun l c=>decide (0≤l∧l≤c∧c<(sS:Int))
noncomputable def fi:Int→Int→Int→Int→Bool:=aS fun l h m n=>decide (0≤l∧l≤h∧h≤m∧m≤n)
noncomputable def quo:Int→Int→Int:=aS fun x y=>x.tdiv y
noncomputable def rem:Int→Int→Int:=aS fun x y=>x.tmod y
noncomputable def shl:IntKind→Int→Int→Int:=aS fun k x y=>x*2^(min y.toNat k.bits)
noncomputable def shr:IntKind→Int→Int→Int:=aS fun k x y=>x.fdiv (2^(min y.toNat k.bits))
noncomputable def mx:Int→Int→Int:=aS fun x y=>if y>x then y else x
noncomputable def mn:Int→Int→Int:=aS fun x y=>if y<x then y else x
noncomputable def Lt:ByteArray→ByteArray→Bool:=aS fun x y=>decide (x.toList=y.toList)
theorem xg(k:IntKind)(x:Int):W k x=k.wrap x:=by unfold W;rw[eK]
theorem rU(x y:Int):aM x y=decide (x<y):=by unfold aM;rw[eK]
theorem iL(x y:Int):bS x y=decide (x≤y):=by unfold bS;rw[eK]
theorem eL(x y:Int):az x y=decide (x=y):=by unfold az;rw[eK]
theorem Lu(i:Int)(n:Nat):aL i n=decide (0≤i∧i<(n:Int)):=by unfold aL;rw[eK]
theorem xh(n:Nat):small n=decide (n<sS):=by unfold small;rw[eK]
theorem z1(l c:Int):fK l c=decide (0≤l∧l≤c∧c<(sS:Int)):=by unfold fK;rw[eK]
theorem sT(l h m n:Int):fi l h m n=decide (0≤l∧l≤h∧h≤m∧m≤n):=by unfold fi;rw[eK]
theorem Wr(x y:Int):quo x y=x.tdiv y:=by unfold quo;rw[eK]
theorem Ws(x y:Int):rem x y=x.tmod y:=by unfold rem;rw[eK]
theorem Lv(k:IntKind)(x y:Int):shl k x y=x*2^(min y.toNat k.bits):=by unfold shl;rw[eK]
theorem Gz(k:IntKind)(x y:Int):shr k x y=x.fdiv (2^(min y.toNat k.bits)):=by unfold shr;rw[eK]
theorem abm(x y:Int):mx x y=if y>x then y else x:=by unfold mx;rw[eK]
theorem Vn(x y:Int):mn x y=if y<x then y else x:=by unfold mn;rw[eK]
theorem xi(x y:ByteArray):Lt x y=decide (x.toList=y.toList):=by unfold Lt;rw[eK]
inductive Bw where|and|or|xor|andNot
noncomputable def n5:Bw→IntKind→Int→Int→Int:=aS fun o k x y=>
 let a:=BitVec.ofInt k.bits x
 let b:=BitVec.ofInt k.bits y
 k.wrap (match o with| .and=>a&&& b| .or=>a|||b| .xor=>a^^^b| .andNot=>a&&& ~~~b).toNat
theorem oA(o:Bw)(k:IntKind)(x y:Int):n5 o k x y=
 let a:=BitVec.ofInt k.bits x
 let b:=BitVec.ofInt k.bits y
 k.wrap (match o with| .and=>a&&& b| .or=>a|||b| .xor=>a^^^b| .andNot=>a&&& ~~~b).toNat:=by unfold n5;rw[eK]
def strOf(l:List Nat):ByteArray:=⟨(l.map UInt8.ofNat).toArray⟩
inductive Ty where
 |int (k:IntKind)
 |bool
 |str
 |slice (e:Ty)
 |unit
 |pair (a b:Ty)
 |arr (n:Nat) (e:Ty)
 deriving DecidableEq
@[reducible] def Ty.den:Ty→Type
 | .int _=>Int
 | .bool=>Bool
 | .str=>ByteArray
 | .slice e=>List e.den
 | .unit=>Unit
 | .pair a b=>a.den×b.den
 | .arr _ e=>List e.den
def Ty.size:Ty→Nat
 | .int _| .bool| .str| .slice _=>1
 | .unit=>0
 | .pair a b=>a.size+b.size
 | .arr n e=>n*e.size
def Ty.isAgg:Ty→Bool
 | .unit| .pair _ _| .arr _ _=>true
 |_=>false
def Ty.zero:(τ:Ty)→τ.den
 | .int _=>(0:Int)
 | .bool=>false
 | .str=>ByteArray.empty
 | .slice _=>[]
 | .unit=>()
 | .pair a b=>(a.zero,b.zero)
 | .arr n e=>List.replicate n e.zero
def Ty.comparable:Ty→Bool
 | .slice _=>false
 | .pair a b=>a.comparable&&b.comparable
 | .arr _ _=>false
 |_=>true
def abn{α:Type}(f:α→α→Bool):List α→List α→Bool
 |[],[]=>true
 |x::xs,y::ys=>f x y&&abn f xs ys
 |_,_=>false
noncomputable def pz:(τ:Ty)→τ.den→τ.den→Bool
 | .int _,x,y=>az x y
 | .bool,x,y=>x==y
 | .str,x,y=>Lt x y
 | .slice _,_,_=>false
 | .unit,_,_=>true
 | .pair a b,x,y=>pz a x.1 y.1&&pz b x.2 y.2
 | .arr _ e,x,y=>abn (pz e) x y
inductive Step where
 |gg (n:Nat)
 |idx (i:Nat)
def CP:List Step→List Step→Bool
 |[],[]=>true
 | .gg a::p,.gg b::q=>Nat.beq a b&&CP p q
 |_,_=>false
def rm:List Step→List Step→Bool
 |[],_=>true
 | .gg a::p,.gg b::q=>Nat.beq a b&&rm p q
 |_,_=>false
def Be:Ty→Nat→Option Ty
 | .pair a b,n=>match n with
  |0=>some a
  |n+1=>Be b n
 |_,_=>none
def dY:List Step→Ty→Ty→Bool
 |[],τ,υ=>decide (τ=υ)
 | .gg n::p,τ,υ=>match Be τ n with
  |some a=>dY p a υ
  |none=>false
 |_,_,_=>false
inductive aW where
 |any
 |Lw
 |val (τ:Ty) (x:τ.den)
 |Bf (τ:Ty) (x:τ.den) (n:Nat)
 |emp
 |ref (id:Nat)
 |eV (id:Nat) (p:List Step)
 |lS (τ:Ty) (x:τ.den)
 |tup (vs:List aW)
 |CQ (f:Nat) (caps:List aW)
inductive aR where
 |obj (τ:Ty) (x:τ.den)
 |dE (τ:Ty) (x:τ.den) (p:List Step) (j:Nat)
 |own (e:Ty) (l:List e.den)
 |jP (e:Ty) (l:List e.den)
 |gone
structure St where
 T:Nat→aW
 H:Nat→Option aR
def St.put(σ:St)(d:Nat)(v:aW):St:=⟨fun i=>cond (Nat.beq i d) v (σ.T i),σ.H⟩
def St.gF(σ:St)(d:Nat)(v:Option aR):St:=⟨σ.T,fun i=>cond (Nat.beq i d) v (σ.H i)⟩
def St.pL(σ:St)(d:Option Nat)(v:aW):St:=match d with|some d=>σ.put d v|none=>σ
def CR(n:Nat)(io:List Nat):Option Nat→Bool|some d=>Nat.blt d n&&io.all (fun i=> !(Nat.beq i d))|none=>true
def St.pU(σ:St):List (Nat×Option aR)→St
 |[]=>σ
 |u::r=>(σ.gF u.1 u.2).pU r
abbrev S0:St:=⟨fun _=> .any,fun _=>none⟩
abbrev e9:=List (Nat×Option aR)
section K
variable{α:Type}
def rn:(τ:Ty)→τ.den→Nat→((υ:Ty)→υ.den→Option α)→Option α
 | .pair a b,x,n,k=>match n with
  |0=>k a x.1
  |n+1=>rn b x.2 n k
 |_,_,_,_=>none
def iM:(τ:Ty)→τ.den→Nat→((υ:Ty)→υ.den→(υ.den→Option α)→Option α)→(τ.den→Option α)→Option α
 | .pair a b,x,n,m,k=>match n with
  |0=>m a x.1 fun z=>k (z,x.2)
  |n+1=>iM b x.2 n m fun z=>k (x.1,z)
 |_,_,_,_,_=>none
def iN(τ υ:Ty)(k:Option α):Option α:=if τ=υ then k else none
def bU(υ τ:Ty)(y:υ.den)(k:τ.den→Option α):Option α:=if h:υ=τ then k (h▸y)else none
def Wt(τ:Ty)(x:τ.den)(i:Nat)(k:(υ:Ty)→υ.den→Option α):Option α:=
 match τ,x with
 | .arr _ e,x=>k e (List.getD x i e.zero)
 |_,_=>none
def wT(τ:Ty)(x:τ.den)(i:Nat)(m:(υ:Ty)→υ.den→(υ.den→Option α)→Option α)(k:τ.den→Option α):Option α:=
 match τ,x,k with
 | .arr _ e,x,k=>m e (List.getD x i e.zero) fun z=>k (List.set x i z)
 |_,_,_=>none
def sU:List Step→(τ:Ty)→τ.den→((υ:Ty)→υ.den→Option α)→Option α
 |[],τ,x,k=>k τ x
 | .gg n::p,τ,x,k=>rn τ x n fun υ y=>sU p υ y k
 | .idx i::p,τ,x,k=>Wt τ x i fun υ y=>sU p υ y k
def pM(υ:Ty)(y:υ.den):List Step→(τ:Ty)→τ.den→(τ.den→Option α)→Option α
 |[],τ,_,k=>bU υ τ y k
 | .gg n::p,τ,x,k=>iM τ x n (fun υ' y' k'=>pM υ y p υ' y' k') k
 | .idx i::p,τ,x,k=>wT τ x i (fun υ' y' k'=>pM υ y p υ' y' k') k
def g6(fz:Bool)(a:aW)(H:Nat→Option aR)(τ:Ty)(k:τ.den→List Nat→e9→Option α):Option α:=
 match a with
 | .val υ x=>bU υ τ x fun y=>k y [] []
 | .Bf υ x _=>bU υ τ x fun y=>k y [] []
 | .emp=>match τ,k with
  | .slice _,k=>k [] [] []
  |_,_=>none
 | .ref id=>match H id with
  |some (.own e l)=>bU (.slice e) τ l fun y=>k y [id] (cond fz [(id,some (.jP e l))] [])
  |some (.jP e l)=>bU (.slice e) τ l fun y=>k y [id] []
  |_=>none
 |_=>none
def CS(a:aW)(k:(τ:Ty)→τ.den→Option α):Option α:=
 match a with
 | .val υ x=>k υ x
 |_=>none
def iO(id:Nat)(p:List Step)(H:Nat→Option aR)(k:Ty→Option α):Option α:=
 match H id with
 |some (.obj τ x)=>sU p τ x fun υ _=>k υ
 |some (.dE τ x _ _)=>sU p τ x fun υ _=>k υ
 |some (.own e l)|some (.jP e l)=>match p with
  | .idx i::p=>sU p e (List.getD l i e.zero) fun υ _=>k υ
  |_=>none
 |_=>none
def alo(a:aW)(H:Nat→Option aR)(k:(τ:Ty)→τ.den→List Nat→Option α):Option α:=
 match a with
 | .val υ x=>k υ x []
 | .ref id=>match H id with
  |some (.own e l)|some (.jP e l)=>k (.slice e) l [id]
  |_=>none
 |_=>none
def pV(a:aW)(k:IntKind→Int→Option α):Option α:=
 match a with
 | .val (.int i) x=>k i x
 |_=>none
end K
inductive AM where
 |v (τ:Ty)
 |own (e:Ty)
 |io (τ:Ty)
 |fn (f:Nat) (τ:Ty)
 |ptr (τ:Ty)
 |eV (τ:Ty)
@[reducible] def AM.den:AM→Type
 | .v τ=>τ.den
 | .own e=>List e.den
 | .io τ=>τ.den
 | .fn _ τ=>τ.den
 | .ptr τ=>τ.den
 | .eV τ=>τ.den
@[reducible] def HP:List AM→Type
 |[]=>Unit
 |[m]=>m.den
 |m::n::ms=>m.den×HP (n::ms)
structure gL where
 args:List AM
 res:List AM
 quiet:Bool
 run:HP args→Option (HP res)
inductive CM where
 |v (τ:Ty)
 |own (e:Ty)
 |obj (τ:Ty)
 |dE (τ:Ty) (q:List Step) (e:Ty)
 |same (s:Nat)
 |io (τ:Ty)
 |fn (f:Nat) (τ:Ty)
structure Env where
 nt:Nat
 ty:Nat→Option Ty
 Γ:Nat→List gL
 N:Nat
 pW:Nat→Option (List (Nat×CM))
 rp:Nat→Option (List (Nat×CM))
 io:List Nat:=[]
 lk:Option (Ty×List Step×Ty×List Nat):=none
def lkT(E:Env)(τ:Ty):Option (List Step×Ty):=match E.lk with
 |some (υ,q,e,_)=>cond (decide (υ=τ)) (cond (dY q τ (.slice e)) (some (q,e)) none) none
 |none=>none
def Bh(E:Env)(τ:Ty)(id:Nat):Option (List Step×Ty):=match E.lk with
 |some (_,_,_,ds)=>cond (ds.any fun d=>Nat.beq (id/16) d) (lkT E τ) none
 |none=>none
def cvA:Value→aW
 | .int k n=> .val (.int k) n
 | .bool b=> .val .bool b
 | .string s=> .val .str s
 | .slice none 0 0=> .emp
 |_=> .any
def St.ρ (σ:St):Operand→aW
 | .tmp t=>σ.T t
 | .const v=>cvA v
 | .global _=> .any
 | .func f=> .CQ f []
section
variable{α:Type}
noncomputable def oB(op:BinOp)(k:IntKind)(x y:Int)(K:aW→Option α):Option α:=
 match op with
 | .add=>K (.val (.int k) (W k (x+y)))
 | .sub=>K (.val (.int k) (W k (x-y)))
 | .mul=>K (.val (.int k) (W k (x*y)))
 | .quo=>cond (az y 0) none (K (.val (.int k) (W k (quo x y))))
 | .rem=>cond (az y 0) none (K (.val (.int k) (rem x y)))
 | .and=>K (.val (.int k) (n5 .and k x y))
 | .or=>K (.val (.int k) (n5 .or k x y))
 | .xor=>K (.val (.int k) (n5 .xor k x y))
 | .andNot=>K (.val (.int k) (n5 .andNot k x y))
 | .eql=>K (.val .bool (az x y))
 | .neq=>K (.val .bool (!az x y))
 | .lss=>K (.val .bool (aM x y))
 | .leq=>K (.val .bool (bS x y))
 | .gtr=>K (.val .bool (aM y x))
 | .geq=>K (.val .bool (bS y x))
 |_=>none
noncomputable def Pm(op:BinOp)(k:IntKind)(x y:Int)(K:aW→Option α):Option α:=
 match op with
 | .shl=>cond (aM y 0) none (K (.val (.int k) (W k (shl k x y))))
 | .shr=>cond (aM y 0) none (K (.val (.int k) (shr k x y)))
 |_=>none
def Pn:BinOp→Bool
 | .shl| .shr=>true
 |_=>false
noncomputable def xj(t:Option Ty)(op:BinOp)(τ:Ty)(x:τ.den)(υ:Ty)(y:υ.den)(K:aW→Option α):Option α:=
 match τ,x,υ,y with
 | .int k,x,.int k',y=>cond (Pn op) (Pm op k x y K) (if k=k' then oB op k x y K else none)
 |τ,x,υ,y=>match t with
  |none=>none
  |some u=>iN u τ (cond τ.comparable (match op with
   | .eql=>bU υ τ y fun y=>K (.val .bool (pz τ x y))
   | .neq=>bU υ τ y fun y=>K (.val .bool (!pz τ x y))
   |_=>none) none)
noncomputable def Jv(op:UnOp)(a:aW)(K:aW→Option α):Option α:=
 match op,a with
 | .neg,.val (.int k) n=>K (.val (.int k) (W k (0-n)))
 | .xor,.val (.int k) n=>K (.val (.int k) (n5 .xor k (if k.signed then-1 else k.max) n))
 | .not,.val .bool b=>K (.val .bool (!b))
 |_,_=>none
abbrev fa(α:Type):=aW→List Nat→e9→Option α
noncomputable def OW(up:Bool):aW→List aW→(aW→Option α)→Option α
 |a,[],K=>K a
 |a,b::r,K=>pV a fun k x=>pV b fun k' y=>if k=k' then OW up (.val (.int k) (cond up (mx x y) (mn x y))) r K else none
def CT(τ:Ty)(a:aW)(H:Nat→Option aR)(K:fa α):Option α:=
 match τ,a with
 | .slice _,.val (.slice _) l=>K (.val (.int .i64) (List.length l:Int)) [] []
 | .arr n _,.val (.arr _ _) _=>K (.val (.int .i64) (n:Int)) [] []
 | .str,.val .str s=>K (.val (.int .i64) (ByteArray.size s:Int)) [] []
 | .slice _,.emp=>K (.val (.int .i64) (0:Int)) [] []
 | .slice _,.ref id=>match H id with
  |some (.own _ l)|some (.jP _ l)=>K (.val (.int .i64) (l.length:Int)) [id] []
  |_=>none
 |_,_=>none
def lT(H:Nat→Option aR)(id:Nat)(e:aR)(K:Option α):Option α:=
 match H id with
 |none=>K
 |some _=>none
noncomputable def CU(id:Nat)(e:Ty)(a b:aW)(H:Nat→Option aR)(K:fa α):Option α:=
 g6 false b H (.slice e) fun ys rd _=>
  match a with
  | .emp=>cond (small (List.length ys)) (K (.ref id) (id::rd) [(id,some (.own e ys))]) none
  | .ref j=>match H j with
   |some (.own e' l)=>bU (.slice e') (.slice e) l fun xs=>
    cond (small (List.length xs+List.length ys)) (K (.ref id) (id::j::rd) [(j,some .gone),(id,some (.own e (xs++ys)))]) none
   |_=>none
  |_=>none
def oC(τ:Ty)(H:Nat→Option aR):List (Nat×aW)→τ.den→List Nat→e9→(τ.den→List Nat→e9→Option α)→Option α
 |[],x,rd,ups,K=>K x rd ups
 |p::r,x,rd,ups,K=>rn τ x p.1 fun υ _=>g6 true p.2 H υ fun y uw ju=>
  iM τ x p.1 (fun υ' _ k'=>bU υ υ' y k') fun z=>oC τ H r z (uw++rd) (ups++ju) K
def pX(e:Ty)(H:Nat→Option aR)(n:Nat):List (Nat×aW)→List e.den→List Nat→e9→(List e.den→List Nat→e9→Option α)→Option α
 |[],l,rd,ups,K=>K l rd ups
 |p::r,l,rd,ups,K=>cond (Nat.blt p.1 n) (g6 true p.2 H e fun y uw ju=>pX e H n r (List.set l p.1 y) (uw++rd) (ups++ju) K) none
def vf(v:aW)(H:Nat→Option aR):(a:Ty)→(a.den→List Nat→e9→Option α)→Option α
 | .pair a .unit,k=>match v with
  | .lS υ x=>bU υ a x fun y=>k (y,()) [] []
  |_=>none
 |a,k=>g6 true v H a k
def vg:(a:Ty)→a.den→aW
 | .pair a .unit,x=> .lS a x.1
 |a,x=> .val a x
def lU(H:Nat→Option aR):(τ:Ty)→List aW→(τ.den→List Nat→e9→Option α)→Option α
 | .unit,[],K=>K () [] []
 | .pair a b,v::vs,K=>vf v H a fun x rd ups=>lU H b vs fun xs uw ju=>K (x,xs) (uw++rd) (ups++ju)
 |_,_,_=>none
def kX:(τ:Ty)→τ.den→List aW
 | .pair a b,x=>vg a x.1::kX b x.2
 |_,_=>[]
def bm(H:Nat→Option aR)(d:Nat)(v:Option aR):Nat→Option aR:=fun i=>cond (Nat.beq i d) v (H i)
def pY(H:Nat→Option aR):List aW→(List aW→List Nat→e9→Option α)→Option α
 |[],K=>K [] [] []
 |a::r,K=>match a with
  | .eV id []=>match H id with
   |some (.obj τ x)=>pY (bm H id (some .gone)) r fun cs rd ups=>K (.lS τ x::cs) (id::rd) ((id,some .gone)::ups)
   |_=>none
  |a=>pY H r fun cs rd ups=>K (a::cs) rd ups
def jZ(m:AM)(a:aW)(H:Nat→Option aR)(k:m.den→(Nat→Option aR)→List Nat→e9→e9→List (Nat×Ty)→Option α):Option α:=
 match m,k with
 | .v τ,k=>g6 true a H τ fun x rd uf=>match uf with
  |[]=>k x H rd [] [] []
  |u::r=>k x (bm H u.1 u.2) rd [] (u::r) []
 | .own e,k=>match a with
  | .emp=>k [] H [] [] [] []
  | .ref id=>match H id with
   |some (.own e' l)=>bU (.slice e') (.slice e) l fun x=>k x (bm H id (some .gone)) [id] [(id,some .gone)] [] []
   |_=>none
  |_=>none
 | .io τ,k=>match a with
  | .eV id []=>match H id with
   |some (.obj υ x)=>bU υ τ x fun y=>k y (bm H id (some .gone)) [id] [] [] [(id,τ)]
   |_=>none
  |_=>none
 | .fn f τ,k=>match a with
  | .CQ f' c=>cond (Nat.beq f f') (lU H τ c fun x rd uf=>match uf with
   |[]=>k x H rd [] [] []
   |_=>none) none
  |_=>none
 | .ptr _,_=>none
 | .eV τ,k=>match a with
  | .lS υ x=>bU υ τ x fun y=>k y H [] [] [] []
  |_=>none
def n6:(ms:List AM)→List aW→(Nat→Option aR)→List Nat→e9→e9→List (Nat×Ty)→(HP ms→List Nat→e9→e9→List (Nat×Ty)→Option α)→Option α
 |[],[],_,rd,uo,uf,io,K=>K () rd uo uf io
 |[m],[a],H,rd,uo,uf,io,K=>jZ m a H fun x _ uw CD CE zl=>K x (uw++rd) (CD++uo) (CE++uf) (io++zl)
 |m::n::ms,a::ld,H,rd,uo,uf,io,K=>jZ m a H fun x H' uw CD CE zl=>
  n6 (n::ms) ld H' (uw++rd) (CD++uo) (CE++uf) (io++zl) fun xs rd uo uf io=>K (x,xs) rd uo uf io
 |_,_,_,_,_,_,_,_=>none
def Bi(m:AM)(x:m.den)(id:Nat):aW×e9:=
 match m,x with
 | .v τ,x=>(.val τ x,[])
 | .own e,x=>(.ref id,[(id,some (.own e x))])
 | .io τ,x=>(.val τ x,[])
 | .fn _ _,_=>(.any,[])
 | .ptr τ,x=>(.eV id [],[(id,some (.obj τ x))])
 | .eV _,_=>(.any,[])
def g7:(ms:List AM)→HP ms→Nat→List (Nat×Ty)→List aW×e9×List (Nat×Ty)
 |[],_,_,io=>([],[],io)
 |[m],x,id,io=>match m,x,io with
  | .io τ,x,(j,_)::io=>([],[(j,some (.obj τ x))],io)
  |m,x,io=>([(Bi m x id).1],(Bi m x id).2,io)
 |m::n::ms,x,id,io=>match m,x,io with
  | .io τ,x,(j,_)::io=>let r:=g7 (n::ms) x.2 (id+1) io;(r.1,(j,some (.obj τ x.1))::r.2.1,r.2.2)
  |m,x,io=>let r:=g7 (n::ms) x.2 (id+1) io;((Bi m x.1 id).1::r.1,(Bi m x.1 id).2++r.2.1,r.2.2)
def CV:List aW→aW
 |[]=> .any
 |[a]=>a
 |l=> .tup l
def oD(H:Nat→Option aR)(id:Nat):Nat→Bool
 |0=>true
 |n+1=>(match H (id+n)with|none=>true|some _=>false)&&oD H id n
def CW(id:Nat):Nat→List Nat
 |0=>[]
 |n+1=>(id+n)::CW id n
def fits:List AM→List aW→Bool
 |[],[]=>true
 | .fn f _::ms,.CQ g _::ld=>Nat.beq f g&&fits ms ld
 | .fn _ _::_,_::_=>false
 |_::ms,_::ld=>fits ms ld
 |_,_=>false
def CX:List gL→List aW→Option gL
 |[],_=>none
 |S::r,ld=>cond (fits S.args ld) (some S) (CX r ld)
noncomputable def vh(E:Env)(f:Nat)(ld:List aW)(id:Nat)(H:Nat→Option aR)(K:fa α):Option α:=
 match CX (E.Γ f) ld with
 |none=>none
 |some S=>n6 S.args ld H [] [] [] [] fun x rd uo uf io=>
  (S.run x).bind fun y=>
   let r:=g7 S.res y id io
   cond (oD H id S.res.length) (K (CV r.1) (CW id S.res.length++(r.2.1.map (·.1)++rd)) (uo++cond S.quiet [] uf++r.2.1)) none
def rV(a:Option aW)(d:Int)(k:Int→Option α):Option α:=
 match a with
 |none=>k d
 |some a=>pV a fun _ x=>k x
def gX:Option Operand→Bool
 |some (.const (.int _ n))=>decide (n=0)
 |_=>false
noncomputable def lV(t:Ty)(z:Bool)(a:aW)(lo hi mx:Option aW)(H:Nat→Option aR)(K:fa α):Option α:=
 match t,a with
 | .str,.val .str s=>cond mx.isNone (rV lo 0 fun l=>rV hi (ByteArray.size s:Int) fun h=>
  cond (fi l h (ByteArray.size s:Int) (ByteArray.size s:Int)) (K (.val .str (ByteArray.extract s l.toNat h.toNat)) [] []) none) none
 | .slice _,.emp=>cond z (K .emp [] []) (cond mx.isNone (rV lo 0 fun l=>rV hi 0 fun h=>cond (fi l h 0 0) (K .emp [] []) none) none)
 | .slice e,a=>g6 (!z) a H (.slice e) fun x rd ups=>cond z (K .emp rd [])
  (cond (mx.isNone||hi.isSome) (rV lo 0 fun l=>rV hi (List.length x:Int) fun h=>rV mx (List.length x:Int) fun m=>
   cond (fi l h m (List.length x:Int))
    (K (.val (.slice e) (List.drop l.toNat (List.take h.toNat x))) rd ups) none) none)
 |_,_=>none
noncomputable def dQ(τ:Ty)(a i:aW)(H:Nat→Option aR)(K:fa α):Option α:=
 pV i fun _ i=>
 match τ with
 | .slice e=>match a with
  | .val υ l=>bU υ (.slice e) l fun l=>cond (aL i (List.length l)) (K (.lS e (List.getD l i.toNat e.zero)) [] []) none
  | .ref id=>match H id with
   |some (.own e' l)|some (.jP e' l)=>iN e' e (cond (aL i (List.length l)) (K (.eV id [.idx i.toNat]) [id] []) none)
   |_=>none
  |_=>none
 | .arr n e=>match a with
  | .eV id p=>iO id p H fun υ=>iN υ (.arr n e) (cond (aL i n) (K (.eV id (p++[.idx i.toNat])) [id] []) none)
  | .lS υ l=>bU υ (.arr n e) l fun l=>cond (aL i n) (K (.lS e (List.getD l i.toNat e.zero)) [] []) none
  |_=>none
 |_=>none
noncomputable def pZ(τ:Ty)(a i:aW)(K:aW→Option α):Option α:=
 pV i fun _ i=>
 match τ,a with
 | .arr n e,.val υ l=>bU υ (.arr n e) l fun l=>cond (aL i n) (K (.val e (List.getD l i.toNat e.zero))) none
 | .str,.val .str s=>cond (aL i (ByteArray.size s)) (K (.val (.int .u8) ((s.data.getD i.toNat 0).toNat:Int))) none
 |_,_=>none
def gA(a:aW)(H:Nat→Option aR)(K:(υ:Ty)→υ.den→List Nat→Option α):Option α:=
 match a with
 | .lS τ x=>K τ x []
 | .eV id p=>match H id with
  |some (.obj τ x)=>sU p τ x fun υ y=>K υ y [id]
  |some (.own e l)|some (.jP e l)=>match p with
   | .idx i::p=>sU p e (List.getD l i e.zero) fun υ y=>K υ y [id]
   |_=>none
  |_=>none
 |_=>none
def g8(τ:Ty)(a v:aW)(H:Nat→Option aR)(K:fa α):Option α:=
 match a with
 | .eV id p=>g6 true v H τ fun y rd ups=>
  match H id with
  |some (.obj υ x)=>pM τ y p υ x fun z=>K .any (id::rd) (ups++[(id,some (.obj υ z))])
  |some (.own e l)=>match p with
   | .idx i::p=>cond (rd.contains id) none (pM τ y p e (List.getD l i e.zero) fun z=>K .any (id::rd) (ups++[(id,some (.own e (List.set l i z)))]))
   |_=>none
  |_=>none
 |_=>none
def wb(j:Nat)(q:List Step)(τ:Ty)(x:τ.den)(H:Nat→Option aR)(k:τ.den→e9→Option α):Option α:=
 match H j with
 |some (.own e l)=>pM (.slice e) l q τ x fun z=>k z [(j,some (.jP e l))]
 |some (.jP e l)=>pM (.slice e) l q τ x fun z=>k z []
 |_=>none
def pA(τ:Ty)(a:aW)(H:Nat→Option aR)(K:fa α):Option α:=
 let sM:=gA a H fun υ y rd=>bU υ τ y fun z=>K (.val τ z) rd []
 match a with
 | .eV id p=>match H id with
  |some (.dE υ x q j)=>cond (CP p q) (cond (dY q υ τ) (K (.ref j) [id] []) none)
   (cond (rm p q) (wb j q υ x H fun z ups=>sU p υ z fun υ' y=>bU υ' τ y fun y'=>K (.val τ y') [id,j] ups)
    (sU p υ x fun υ' y=>bU υ' τ y fun y'=>K (.val τ y') [id] []))
  |_=>sM
 |_=>sM
def vi(τ:Ty)(id k:Nat)(e:Ty)(q:List Step)(υ:Ty)(x:υ.den)(H:Nat→Option aR)(K:fa α):Option α:=
 match H k with
 |some (.own e' _)=>iN e' e (iN τ (.slice e) (pM (.slice e) [] q υ x fun z=>K .any [id,k] [(id,some (.dE υ z q k))]))
 |_=>none
def fL(E:Env)(τ:Ty)(a v:aW)(H:Nat→Option aR)(K:fa α):Option α:=
 let sM:=g8 τ a v H K
 match a with
 | .eV id p=>match H id with
  |some (.obj υ x)=>match Bh E υ id,v with
   |some (q,e),.ref k=>cond (CP p q) (vi τ id k e q υ x H K) sM
   |_,_=>sM
  |some (.dE υ x q j)=>
   let put:=g6 true v H τ fun y rd ups=>pM τ y p υ x fun z=>K .any (id::rd) (ups++[(id,some (cond (rm p q) (.obj υ z) (.dE υ z q j)))])
   match Bh E υ id,v with
   |some (q',e),.ref k=>cond (CP p q&&CP q q') (vi τ id k e q υ x H K) put
   |_,_=>put
  |_=>sM
 |_=>sM
def nM(E:Env)(τ:Ty)(a v:aW)(H:Nat→Option aR)(K:fa α):Option α:=
 match a,v with
 | .eV id [],.Bf υ y n=>match Bh E υ id with
  |some ([.gg m],e)=>cond (Nat.beq m n) (iN τ υ (iO id [] H fun υ'=>iN υ' υ
   (lT H (id+2) (.own e []) (K .any [id,id+2] [(id,some (.dE υ y [.gg m] (id+2))),(id+2,some (.own e []))])))) (fL E τ a v H K)
  |_=>fL E τ a v H K
 |_,_=>fL E τ a v H K
def wc(H:Nat→Option aR)(id:Nat)(τ:Ty)(x:τ.den)(q:List Step)(e:Ty)(K:fa α):Option α:=
 lT H id (.obj τ x) (lT H (id+1) (.own e []) (K (.eV id []) [id,id+1] [(id,some (.dE τ x q (id+1))),(id+1,some (.own e []))]))
def Po(E:Env)(ps:List (Nat×aW))(τ:Ty)(x:τ.den):aW:=match lkT E τ with
 |some ([.gg n],_)=>cond (ps.all fun p=> !(Nat.beq p.1 n)) (.Bf τ x n) (.val τ x)
 |_=> .val τ x
def partsOf(σρ:Operand→aW)(ps:Array (Nat×Operand)):List (Nat×aW):=ps.toList.map fun p=>(p.1,σρ p.2)
noncomputable def n0(E:Env)(o:Oper)(ρ:Operand→aW)(H:Nat→Option aR)(K:fa α):Option α:=
 let id:=16*o.dst.getD 0
 match o.op with
 | .move x| .assign x=>K (ρ x) [] []
 | .pick c a b=>match ρ c with
  | .val .bool t=>cond t (K (ρ a) [] []) (K (ρ b) [] [])
  |_=>none
 | .alloc t=>match E.ty t with
  |some τ=>match Bh E τ id with
   |some (q,e)=>wc H id τ τ.zero q e K
   |none=>lT H id (.obj τ τ.zero) (K (.eV id []) [id] [(id,some (.obj τ τ.zero))])
  |none=>none
 | .box t x=>match E.ty t with
  |some τ=>
   let sM:=g6 true (ρ x) H τ fun y rd ups=>lT H id (.obj τ y) (K (.eV id []) (id::rd) (ups++[(id,some (.obj τ y))]))
   match Bh E τ id,ρ x with
   |some ([.gg m],e),.Bf υ y n=>cond (Nat.beq m n) (bU υ τ y fun y=>wc H id τ y [.gg m] e K) sM
   |_,_=>sM
  |none=>none
 | .build t ps=>match E.ty t with
  |some (.arr n e)=>pX e H n (partsOf ρ ps) (List.replicate n e.zero) [] [] fun l rd ups=>K (.val (.arr n e) l) rd ups
  |some τ=>cond τ.isAgg (oC τ H (partsOf ρ ps) τ.zero [] [] fun x rd ups=>K (Po E (partsOf ρ ps) τ x) rd ups) none
  |none=>none
 | .buildSlice t n ps=>match E.ty t with
  |some (.slice e)=>cond (Nat.ble (n*(e.size+1)) 16777216) (lT H id (.own e []) (pX e H n (partsOf ρ ps) (List.replicate n e.zero) [] [] fun l rd ups=>K (.ref id) (id::rd) (ups++[(id,some (.own e l))]))) none
  |_=>none
 | .load t a=>match E.ty t with
  |some τ=>pA τ (ρ a) H K
  |none=>none
 | .store t a v=>match E.ty t with
  |some τ=>nM E τ (ρ a) (ρ v) H K
  |none=>none
 | .nilCheck x=>match ρ x with
  | .eV id p=>K (.eV id p) [] []
  | .lS τ x=>K (.lS τ x) [] []
  |_=>none
 | .binOp op t x y _=>CS (ρ x) fun τ x=>CS (ρ y) fun υ y=>xj (E.ty t) op τ x υ y fun v=>K v [] []
 | .unOp op _ x=>Jv op (ρ x) fun v=>K v [] []
 | .convert src dst x=>match E.ty src,E.ty dst with
  |some _,some (.int k)=>pV (ρ x) fun _ n=>K (.val (.int k) (W k n)) [] []
  |_,_=>none
 | .makeFunc (.func f) first caps=>cond first.isEmpty (pY H (caps.toList.map ρ) fun cs rd ups=>K (.CQ f cs) rd ups) none
 | .makeSlice t l c=>match E.ty t with
  |some (.slice e)=>pV (ρ l) fun _ l=>pV (ρ c) fun _ c=>cond (fK l c)
    (lT H id (.own e []) (K (.ref id) [id] [(id,some (.own e (List.replicate l.toNat e.zero)))])) none
  |_=>none
 | .slice t x lo hi mx=>match E.ty t with
  |some τ=>lV τ (lo.isNone&&gX hi&&gX mx) (ρ x) (lo.map ρ) (hi.map ρ) (mx.map ρ) H K
  |none=>none
 | .fieldAddr t x n=>match E.ty t with
  |some τ=>match ρ x with
   | .eV id p=>iO id p H fun υ=>iN υ τ (rn τ τ.zero n fun υ' _=>cond (Nat.beq υ'.size 0) none (K (.eV id (p++[.gg n])) [id] []))
   | .lS υ x=>iN υ τ (rn υ x n fun υ y=>cond (Nat.beq υ.size 0) none (K (.lS υ y) [] []))
   |_=>none
  |none=>none
 | .field t x n=>match E.ty t with
  |some τ=>match ρ x with
   | .val υ x=>iN υ τ (rn υ x n fun υ y=>K (.val υ y) [] [])
   |_=>none
  |none=>none
 | .indexAddr t x i=>match E.ty t with
  |some τ=>dQ τ (ρ x) (ρ i) H K
  |none=>none
 | .index t x i=>match E.ty t with
  |some τ=>pZ τ (ρ x) (ρ i) fun v=>K v [] []
  |none=>none
 | .extract t i=>match ρ t with
  | .tup vs=>match vs[i]? with
   |some v=>K v [] []
   |none=>none
  |_=>none
 | .call c=>match c.callee with
  | .builtin .len=>match c.args.toList,(c.argTypes.toList.head?).bind E.ty with
   |[x],some τ=>CT τ (ρ x) H K
   |_,_=>none
  | .builtin .append=>match c.args.toList,c.argTypes.toList with
   |[x,y],[t,t']=>match E.ty t with
    |some (.slice e)=>cond (Nat.beq t t') (lT H id (.own e []) (CU id e (ρ x) (ρ y) H K)) none
    |_=>none
   |_,_=>none
  | .builtin .max=>match c.args.toList with
   |x::r=>OW true (ρ x) (r.map ρ) fun v=>K v [] []
   |_=>none
  | .builtin .min=>match c.args.toList with
   |x::r=>OW false (ρ x) (r.map ρ) fun v=>K v [] []
   |_=>none
  | .value g=>match ρ g with
   | .CQ f caps=>vh E f (c.args.toList.map ρ++caps) id H K
   |_=>none
  |_=>none
 |_=>none
noncomputable def n7(E:Env)(ops:List Oper)(o:Oper)(σ:St)(K:St→List Nat→List Nat→Option α):Option α:=
 let run (σ:St):Option α:=n0 E o σ.ρ σ.H fun v rd ups=>K ((σ.pU ups).pL o.dst v) rd (ups.map (·.1))
 cond (CR E.nt E.io o.dst) (match o.guard with
 |none=>run σ
 |some (j,want)=>match(ops[j]?).bind (·.dst)with
  |none=>none
  |some t=>match σ.T t with
   | .val .bool b=>match want with
    |true=>cond b (run (σ.put t (.val .bool true))) (K ((σ.put t (.val .bool false)).pL o.dst .Lw) [] [])
    |false=>cond b (K ((σ.put t (.val .bool true)).pL o.dst .Lw) [] []) (run (σ.put t (.val .bool false)))
   | .Lw=>K (σ.pL o.dst .Lw) [] []
   |_=>none) none
abbrev Log:=List (Nat×List Nat×List Nat)
noncomputable def Jw(E:Env)(ops:List Oper):List Oper→Nat→St→Log→(St→Log→Option α)→Option α
 |[],_,σ,lg,K=>K σ lg
 |o::r,i,σ,lg,K=>n7 E ops o σ fun σ' rd wr=>Jw E ops r (i+1) σ' ((i,rd,wr)::lg) K
def nN:List Oper→List Nat→List Nat
 |[],acc=>acc
 |o::r,acc=>nN r (acc++[o.after.toList.foldl (fun s e=>cond (Region.binds .any e) (s|||2^e.on|||acc.getD e.on 0) s) 0])
def names(ops:List Oper)(o:Oper):List Nat:=
 (o.op.operands.toList.filterMap fun| .tmp t=>some t|_=>none)++
 (match o.guard with
  |some (g,_)=>((ops[g]?).bind (·.dst)).toList
  |none=>[])
def meets(a b:List Nat):Bool:=a.any fun x=>b.any fun y=>Nat.beq x y
def Lx(ops:List Oper):Bool:=
 let b:=nN ops []
 (ops.zipIdx.all fun(o,j)=>o.after.toList.all fun e=> !(Region.binds .any e)||Nat.blt e.on j)&&
 ops.zipIdx.all fun(o,j)=>ops.zipIdx.all fun(p,i)=>Nat.ble j i||(b.getD j 0).testBit i||
  !(meets p.dst.toList (o.dst.toList++names ops o)||meets o.dst.toList (names ops p))
def Vo(ops:List Oper)(lg:Log):Bool:=
 let b:=nN ops []
 lg.all fun x=>lg.all fun y=>Nat.ble x.1 y.1||(b.getD x.1 0).testBit y.1||
  !(meets y.2.2 (x.2.1++x.2.2)||meets y.2.1 x.2.2)
noncomputable def wU(E:Env)(ops:Array Oper)(draw:Bool)(σ:St)(K:St→Option α):Option α:=
 Jw E ops.toList ops.toList 0 σ [] fun σ' lg=>cond (!draw||(Lx ops.toList&&Vo ops.toList lg)) (K σ') none
def ew:List (Nat×CM)→St→St→(St→Option α)→Option α
 |[],_,acc,K=>K acc
 |(s,.v τ)::r,σ,acc,K=>g6 true (σ.T s) σ.H τ fun x _ ups=>ew r (σ.pU ups) (acc.put s (.val τ x)) K
 |(s,.own e)::r,σ,acc,K=>match σ.T s with
  | .emp=>ew r σ ((acc.put s (.ref (16*s+14))).gF (16*s+14) (some (.own e []))) K
  | .ref id=>match σ.H id with
   |some (.own e' l)=>bU (.slice e') (.slice e) l fun x=>ew r (σ.gF id (some .gone)) ((acc.put s (.ref (16*s+14))).gF (16*s+14) (some (.own e x))) K
   |_=>none
  |_=>none
 |(s,.obj τ)::r,σ,acc,K=>match σ.T s with
  | .eV id []=>match σ.H id with
   |some (.obj υ x)=>bU υ τ x fun y=>ew r (σ.gF id (some .gone)) ((acc.put s (.eV (16*s+14) [])).gF (16*s+14) (some (.obj τ y))) K
   |some (.dE υ x q j)=>wb j q υ x σ.H fun z ups=>bU υ τ z fun y=>ew r ((σ.pU ups).gF id (some .gone)) ((acc.put s (.eV (16*s+14) [])).gF (16*s+14) (some (.obj τ y))) K
   |_=>none
  |_=>none
 |(s,.dE τ q e)::r,σ,acc,K=>match σ.T s with
  | .eV id []=>match σ.H id with
   |some (.dE υ x q' j)=>cond (CP q q') (match σ.H j with
    |some (.own e' l)=>bU υ τ x fun y=>bU (.slice e') (.slice e) l fun l=>ew r ((σ.gF j (some .gone)).gF id (some .gone))
     (((acc.put s (.eV (16*s+14) [])).gF (16*s+13) (some (.own e l))).gF (16*s+14) (some (.dE τ y q (16*s+13)))) K
    |_=>none) none
   |_=>none
  |_=>none
 |(s,.same s')::r,σ,acc,K=>match σ.T s,σ.T s',acc.T s' with
  | .ref i,.ref j,.ref j'=>cond (Nat.beq i j) (ew r σ (acc.put s (.ref j')) K) none
  |_,_,_=>none
 |(s,.io τ)::r,σ,acc,K=>match σ.T s with
  | .eV id []=>cond (Nat.beq id (16*s+15)) (match σ.H id with
   |some (.obj υ x)=>bU υ τ x fun y=>ew r (σ.gF id (some .gone)) ((acc.put s (.eV (16*s+15) [])).gF (16*s+15) (some (.obj τ y))) K
   |_=>none) none
  |_=>none
 |(s,.fn f τ)::r,σ,acc,K=>match σ.T s with
  | .CQ f' c=>cond (Nat.beq f f') (lU σ.H τ c fun x _ ups=>match ups with
   |[]=>ew r σ (acc.put s (.CQ f (kX τ x))) K
   |_=>none) none
  |_=>none
def fM:List (Nat×CM)→Bool
 |[]=>true
 |q::r=>r.all (fun p=> !(Nat.beq p.1 q.1))&&fM r
def p3(L:Option (List (Nat×CM)))(σ:St)(K:St→Option α):Option α:=
 match L with
 |none=>K σ
 |some L=>ew L σ ⟨fun _=> .any,fun _=>none⟩ K
def vj(L:Option (List (Nat×CM)))(step:St→(St→Option α)→Option α):Nat→St→Option α
 |0,_=>none
 |n+1,σ=>step σ fun σ'=>p3 L σ' (vj L step n)
def bF:Code→Option Nat
 | .region id _ _=>some id
 | .seq a b=>match bF a with
  |some i=>some i
  |none=>bF b
 | .block _ c| .loop c| .scope c=>bF c
 |_=>none
def z2(E:Env)(c:Operand)(σ:St)(A B:St→Option α):Option α:=
 match σ.ρ c with
 | .val .bool b=>match c with
  | .tmp t=>cond b (A (σ.put t (.val .bool true))) (B (σ.put t (.val .bool false)))
  |_=>cond b (A σ) (B σ)
 |_=>none
noncomputable def wV(E:Env)(c:Code):St→(St→Option α)→(Nat→St→Option α)→(St→Option α)→Option α:=
 Code.rec (motive:=fun _=>St→(St→Option α)→(Nat→St→Option α)→(St→Option α)→Option α)
  (fun σ k _ _=>k σ)
  (fun _ ops draw σ k _ _=>wU E ops draw σ k)
  (fun _ b A B σ k kx kr=>A σ (fun σ'=>p3 ((bF b).bind E.rp) σ' fun pN=>B pN k kx kr) kx kr)
  (fun c _ _ A B σ k kx kr=>z2 E c σ (fun σ'=>A σ' k kx kr) (fun σ'=>B σ' k kx kr))
  (fun id _ A σ k kx kr=>A σ k (fun i σ'=>cond (Nat.beq i id) (k σ') (kx i σ')) kr)
  (fun b A σ _ kx kr=>p3 ((bF b).bind E.pW) σ (vj ((bF b).bind E.pW) (fun σ' kn=>A σ' kn kx kr) E.N))
  (fun _ _ _ _ _ _ _ _ _ _=>none)
  (fun id σ _ kx _=>kx id σ)
  (fun _ A σ k kx kr=>A σ k kx kr)
  (fun _ σ k _ _=>k σ)
  (fun _ _ _ _ _=>none)
  (fun σ _ _ kr=>kr σ)
  (fun _ _ _ _ _=>none)
  c
noncomputable def pO(E:Env):List Nat→Code→List (St→Option α)→St→(St→Option α)→(Nat→St→Option α)→(St→Option α)→Option α
 |[],c,_,σ,k,kx,kr=>wV E c σ k kx kr
 |n::p,c,ks,σ,k,kx,kr=>match c with
  | .seq a b=>match n with
   |0=>pO E p a ks σ (fun σ'=>p3 ((bF b).bind E.rp) σ' fun pN=>wV E b pN k kx kr) kx kr
   |_=>pO E p b ks σ k kx kr
  | .cond _ a b=>match n with
   |0=>pO E p a ks σ k kx kr
   |_=>pO E p b ks σ k kx kr
  | .block id c=>pO E p c ks σ k (fun i σ'=>cond (Nat.beq i id) (k σ') (kx i σ')) kr
  | .loop b=>match ks with
   |κ::ks=>pO E p b ks σ κ kx kr
   |[]=>none
  | .scope c=>pO E p c ks σ k kx kr
  |_=>none
def GA(m:AM)(x:m.den)(i:Nat)(σ:St):St:=
 match m,x with
 | .v τ,x=>σ.put i (.val τ x)
 | .own e,x=>(σ.put i (.ref (16*i+15))).gF (16*i+15) (some (.own e x))
 | .io τ,x=>(σ.put i (.eV (16*i+15) [])).gF (16*i+15) (some (.obj τ x))
 | .fn f τ,x=>σ.put i (.CQ f (kX τ x))
 | .ptr _,_=>σ
 | .eV τ,x=>σ.put i (.lS τ x)
def entry:(ms:List AM)→HP ms→Nat→St→St
 |[],_,_,σ=>σ
 |[m],x,i,σ=>GA m x i σ
 |m::n::ms,x,i,σ=>entry (n::ms) x.2 (i+1) (GA m x.1 i σ)
def z5(E:Env)(m:AM)(r:ResultVar ⊕ Nat)(σ:St)(K:m.den→St→Option α):Option α:=
 match m,r,K with
 | .v τ,.inl (.tmp t),K=>g6 true (σ.T t) σ.H τ fun x _ ups=>K x (σ.pU ups)
 | .v τ,.inl (.cell a t),K=>match E.ty t with
  |some τ'=>iN τ' τ (gA (σ.T a) σ.H fun υ y _=>bU υ τ y fun x=>K x σ)
  |none=>none
 | .own e,.inl (.tmp t),K=>match σ.T t with
  | .emp=>K [] σ
  | .ref id=>match σ.H id with
   |some (.own e' l)=>bU (.slice e') (.slice e) l fun x=>K x (σ.gF id (some .gone))
   |_=>none
  |_=>none
 | .io τ,.inr i,K=>match σ.T i with
  | .eV id []=>match σ.H id with
   |some (.obj υ x)=>bU υ τ x fun y=>K y (σ.gF id (some .gone))
   |_=>none
  |_=>none
 | .ptr τ,.inl (.tmp t),K=>match σ.T t with
  | .eV id []=>match σ.H id with
   |some (.obj υ x)=>bU υ τ x fun y=>K y (σ.gF id (some .gone))
   |_=>none
  |_=>none
 |_,_,_=>none
def Bj(E:Env):(ms:List AM)→List (ResultVar ⊕ Nat)→St→(HP ms→Option α)→Option α
 |[],[],_,K=>K ()
 |[m],[r],σ,K=>z5 E m r σ fun x _=>K x
 |m::n::ms,r::rs,σ,K=>z5 E m r σ fun x σ'=>Bj E (n::ms) rs σ' fun xs=>K (x,xs)
 |_,_,_,_=>none
def ux:List AM→Nat→List (ResultVar ⊕ Nat)
 |[],_=>[]
 | .io _::ms,i=> .inr i::ux ms (i+1)
 |_::ms,i=>ux ms (i+1)
noncomputable def CY(E:Env)(fn:Func)(args res:List AM)(x:HP args):Option (HP res):=
 match fn.body with
 |none=>none
 |some c=>
  let kr:St→Option (HP res):=fun σ=>Bj E res (fn.results.toList.map .inl++ux args 0) σ some
  wV E c (entry args x 0 ⟨fun _=> .any,fun _=>none⟩) kr (fun _ _=>none) kr
end
end VM
end
section
namespace VM
open Go
noncomputable def rH(N:Nat)(x y c:Int):Option (Int×Int):=if 0≤x∧0≤y∧0≤c∧c≤1 then some ((x+y+c)%18446744073709551616,(x+y+c)/18446744073709551616)else none
noncomputable def CZ(N:Nat)(x y c:Int):Option (Int×Int):=if 0≤x∧x<18446744073709551616∧0≤y∧y<18446744073709551616∧0≤c∧c≤1 then some ((x+18446744073709551616-y-c)%18446744073709551616,if x<y+c then 1 else 0)else none
noncomputable def lf{α:Type}(N:Nat)(l:List α)(i:Int)(v:List α):Option (List α):=if 0≤i∧i≤l.length∧v.length=1∧l.length+1<sS then some (l.take i.toNat++(v++l.drop i.toNat))else none
noncomputable def Pp{α:Type}(N:Nat)(l:List α)(n:Int):Option (List α):=match l with
 |[x]=>if 0<n∧n<1048576 then some (List.replicate n.toNat x)else none
 |_=>none
noncomputable def rH.S(N:Nat):gL:={args:=[.v (.int .u64),.v (.int .u64),.v (.int .u64)],res:=[.v (.int .u64),.v (.int .u64)],quiet:=true,run:=fun x=>rH N x.1 x.2.1 x.2.2}
noncomputable def CZ.S(N:Nat):gL:={args:=[.v (.int .u64),.v (.int .u64),.v (.int .u64)],res:=[.v (.int .u64),.v (.int .u64)],quiet:=true,run:=fun x=>CZ N x.1 x.2.1 x.2.2}
noncomputable def gY(e:Ty)(N:Nat):gL:={args:=[.own e,.v (.int .i64),.own e],res:=[.own e],quiet:=false,run:=fun x=>lf N x.1 x.2.1 x.2.2}
noncomputable def af1(e:Ty)(N:Nat):gL:={args:=[.v (.slice e),.v (.int .i64)],res:=[.own e],quiet:=false,run:=fun x=>Pp N x.1 x.2}
noncomputable def g9{α:Type}(N:Nat)(l:List α):Option (List α):=if l.length<sS then some l else none
noncomputable def nO(e:Ty)(N:Nat):gL:={args:=[.v (.slice e)],res:=[.own e],quiet:=false,run:=fun x=>g9 N x}
end VM
namespace VM
abbrev bO:Int×Int×Unit:=((0:Int),((0:Int),()))
abbrev aV:List (Int×Int×Unit):=[]
abbrev a7:Int×Int×Int×Unit:=((0:Int),((0:Int),((0:Int),())))
abbrev bh:List (Int×Int×Int×Unit):=[]
abbrev aA:Int×Int×Int×Int×Unit:=((0:Int),((0:Int),((0:Int),((0:Int),()))))
abbrev cm:List (Int×Int×Int×Int×Unit):=[]
abbrev jv:Int×Int×Int×Int×Int×Unit:=((0:Int),((0:Int),((0:Int),((0:Int),((0:Int),())))))
abbrev we:List (Int×Int×Int×Int×Int×Unit):=[]
abbrev dZ:Int×Int×Int×Int×Int×Int×Unit:=((0:Int),((0:Int),((0:Int),((0:Int),((0:Int),((0:Int),()))))))
abbrev cT:List (Int×Int×Int×Int×Int×Int×Unit):=[]
abbrev Vp:Int×Int×Int×Int×Int×Int×Int×Unit:=((0:Int),((0:Int),((0:Int),((0:Int),((0:Int),((0:Int),((0:Int),())))))))
abbrev ee7:List (Int×Int×Int×Int×Int×Int×Int×Unit):=[]
abbrev zz8:Int×Int×Int×Int×Int×Int×Int×Int×Unit:=((0:Int),((0:Int),((0:Int),((0:Int),((0:Int),((0:Int),((0:Int),((0:Int),()))))))))
abbrev ee8:List (Int×Int×Int×Int×Int×Int×Int×Int×Unit):=[]
abbrev cK:List Int:=[]
abbrev kY:List Int×Unit:=(cK,())
end VM
end
section
namespace VM
open Go
def At(w:World)(b off:Nat)(cs:List Value):Prop:= ∀j v,cs[j]? =some v→w.cell? ⟨b,off+j,none⟩=some v
def Rd(w:World)(M:Nat→Prop):(τ:Ty)→List Value→τ.den→Prop
 | .int k,cs,x=>cs=[.int k x]
 | .bool,cs,x=>cs=[.bool x]
 | .str,cs,x=>cs=[.string x]
 | .slice e,cs,x=> ∃a cap,cs=[.slice a (List.length x) cap]∧List.length x≤cap∧
  ∀i (h:i<List.length x),∃b off,a=some ⟨b,off,none⟩∧b<w.heap.size∧ ¬M b∧ ∃cs',At w b (off+i*e.size) cs'∧Rd w M e cs' (List.get x ⟨i,h⟩)
 | .unit,cs,_=>cs=[]
 | .pair a b,cs,x=> ∃c1 c2,cs=c1++c2∧Rd w M a c1 x.1∧Rd w M b c2 x.2
 | .arr n e,cs,x=>List.length x=n∧ ∃Jx:List (List Value),Jx.length=n∧cs=Jx.flatten∧
  ∀i (h:i<List.length x) (h':i<Jx.length),Rd w M e Jx[i] (List.get x ⟨i,h⟩)
theorem j1{α:Type}(n:Nat): ∀(l:List (List α)),(∀i (h:i<l.length),l[i].length=n)→l.flatten.length=l.length*n
 |[],_=>by simp
 |a::l,h=>by
  have h0:=h 0 (by simp)
  have ih:=j1 n l (fun i hi=>h (i+1) (by simp;omega))
  simp only[List.getElem_cons_zero]at h0
  simp only[List.flatten_cons,List.length_append,List.length_cons,ih,h0,Nat.add_mul]
  omega
theorem Rd.length{w:World}{M:Nat→Prop}: ∀{τ:Ty} {cs:List Value} {x:τ.den},Rd w M τ cs x→cs.length=τ.size
 | .int _,_,_,h=>by simp only[Rd]at h;subst h;rfl
 | .bool,_,_,h=>by simp only[Rd]at h;subst h;rfl
 | .str,_,_,h=>by simp only[Rd]at h;subst h;rfl
 | .slice _,_,_,h=>by simp only[Rd]at h;obtain⟨a,cap,rfl,_⟩:=h;rfl
 | .unit,_,_,h=>by simp only[Rd]at h;subst h;rfl
 | .pair a b,_,_,h=>by
  simp only[Rd]at h
  obtain⟨c1,c2,rfl,h1,h2⟩:=h
  rw[List.length_append,h1.length,h2.length];rfl
 | .arr n e,_,x,h=>by
  simp only[Rd]at h
  obtain⟨hn,Jx,hc,rfl,hr⟩:=h
  rw[j1 e.size Jx (fun i hi=>(hr i (by omega) hi).length),hc];rfl
structure c4(w:World)(M:Nat→Prop)(w':World)(M':Nat→Prop):Prop where
 size:w.heap.size≤w'.heap.size
 block: ∀b,b<w.heap.size→ ¬M b→w'.heap[b]? =w.heap[b]?
 less: ∀b,b<w.heap.size→M' b→M b
theorem Wu{w:World}{b o:Nat}{v:Value}(h:w.cell? ⟨b,o,none⟩=some v):b<w.heap.size:=by
 simp only[World.cell?]at h
 rcases Nat.lt_or_ge b w.heap.size with hb|hb
 ·exact hb
 ·simp[Array.getElem?_eq_none hb]at h
theorem At.br{w w':World}{b off:Nat}{cs:List Value}(h:At w b off cs)(hb:w'.heap[b]? =w.heap[b]?):At w' b off cs:=by
 intro j v hj
 have:=h j v hj
 rw[World.cell?_of_block (w:=w) hb]
 exact this
theorem At.append{w:World}{b off:Nat}{c1 c2:List Value}:At w b off (c1++c2)↔At w b off c1∧At w b (off+c1.length) c2:=by
 constructor
 ·intro h
  refine⟨fun j v hj=>h j v (by rw[List.getElem?_append_left];exact hj;exact(List.getElem?_eq_some_iff.1 hj).1),fun j v hj=> ?_⟩
  have:=h (c1.length+j) v (by rw[List.getElem?_append_right (by omega)];simpa using hj)
  rw[Nat.add_assoc];exact this
 ·rintro⟨h1,h2⟩ j v hj
  by_cases dF:j<c1.length
  ·rw[List.getElem?_append_left dF]at hj;exact h1 j v hj
  ·rw[List.getElem?_append_right (by omega)]at hj
   have:=h2 (j-c1.length) v hj
   rwa [show off+c1.length+(j-c1.length)=off+j from by omega]at this
theorem Rd.br{w w':World}{M M':Nat→Prop}(k:c4 w M w' M'): ∀{τ:Ty} {cs:List Value} {x:τ.den},Rd w M τ cs x→Rd w' M' τ cs x
 | .int _,_,_,h=>h
 | .bool,_,_,h=>h
 | .str,_,_,h=>h
 | .slice e,_,x,h=>by
  simp only[Rd]at h ⊢
  obtain⟨a,cap,rfl,hc,hr⟩:=h
  refine⟨a,cap,rfl,hc,fun i hi=> ?_⟩
  obtain⟨b,off,ha,hb,hm,cs',lh,gB⟩:=hr i hi
  exact⟨b,off,ha,Nat.lt_of_lt_of_le hb k.size,fun h'=>hm (k.less b hb h'),_,lh.br (k.block b hb hm),gB.br k⟩
 | .unit,_,_,h=>h
 | .pair a b,_,_,h=>by
  simp only[Rd]at h ⊢
  obtain⟨c1,c2,rfl,h1,h2⟩:=h
  exact⟨c1,c2,rfl,h1.br k,h2.br k⟩
 | .arr n e,_,x,h=>by
  simp only[Rd]at h ⊢
  obtain⟨hn,Jx,hc,rfl,hr⟩:=h
  exact⟨hn,Jx,hc,rfl,fun i hi j2=>(hr i hi j2).br k⟩
theorem c4.refl(w:World)(M:Nat→Prop):c4 w M w M:=⟨Nat.le_refl _,fun _ _ _=>rfl,fun _ _ h=>h⟩
theorem c4.trans{w w' w'':World}{M M' Ga:Nat→Prop}(h:c4 w M w' M')(k:c4 w' M' w'' Ga):c4 w M w'' Ga:=
 ⟨Nat.le_trans h.size k.size,fun b hb hm=>(k.block b (Nat.lt_of_lt_of_le hb h.size) (fun h'=>hm (h.less b hb h'))).trans (h.block b hb hm),
  fun b hb hm=>h.less b hb (k.less b (Nat.lt_of_lt_of_le hb h.size) hm)⟩
def V(w:World)(M:Nat→Prop)(τ:Ty)(v:Value)(x:τ.den):Prop:=
 if τ.isAgg then ∃cs,v= .agg cs∧Rd w M τ cs.toList x else Rd w M τ [v] x
theorem V.br{w w':World}{M M':Nat→Prop}(k:c4 w M w' M'){τ:Ty}{v:Value}{x:τ.den}(h:V w M τ v x):V w' M' τ v x:=by
 unfold V at*
 split
 ·rename_i ha;rw[if_pos ha]at h;obtain⟨cs,rfl,h⟩:=h;exact⟨cs,rfl,h.br k⟩
 ·rename_i ha;rw[if_neg ha]at h;exact h.br k
theorem Rd.scalar{w:World}{M:Nat→Prop}{τ:Ty}{cs:List Value}{x:τ.den}(ha:τ.isAgg=false)(h:Rd w M τ cs x): ∃v,cs=[v]∧v.cells= #[v]:=by
 cases τ<;>simp only[Ty.isAgg,Bool.true_eq_false]at ha<;>simp only[Rd]at h
 ·exact⟨_,h,rfl⟩
 ·exact⟨_,h,rfl⟩
 ·exact⟨_,h,rfl⟩
 ·obtain⟨a,cap,rfl,_⟩:=h;exact⟨_,rfl,rfl⟩
theorem V.cells{w:World}{M:Nat→Prop}{τ:Ty}{v:Value}{x:τ.den}(h:V w M τ v x):Rd w M τ v.cells.toList x:=by
 unfold V at h
 by_cases ha:τ.isAgg=true
 ·rw[if_pos ha]at h;obtain⟨cs,rfl,h⟩:=h;exact h
 ·rw[if_neg ha]at h
  obtain⟨v',hv,hc⟩:=h.scalar (by simpa using ha)
  simp only[List.cons.injEq,and_true]at hv
  subst hv
  rw[hc];exact h
def bE(τ:Ty)(cs:List Value):Value:=if τ.isAgg then .agg cs.toArray else cs.headD (.tuple #[])
theorem V.bE{w:World}{M:Nat→Prop}{τ:Ty}{cs:List Value}{x:τ.den}(h:Rd w M τ cs x):V w M τ (bE τ cs) x:=by
 unfold V VM.bE
 by_cases ha:τ.isAgg=true
 ·rw[if_pos ha,if_pos ha];exact⟨_,rfl,by simpa using h⟩
 ·rw[if_neg ha,if_neg ha]
  obtain⟨v',rfl,_⟩:=h.scalar (by simpa using ha)
  exact h
theorem zt{w:World}{M:Nat→Prop}{τ:Ty}{cs:List Value}{x:τ.den}(h:Rd w M τ cs x):(bE τ cs).cells.toList=cs:=by
 unfold VM.bE
 by_cases ha:τ.isAgg=true
 ·rw[if_pos ha];simp[Value.cells]
 ·rw[if_neg ha]
  obtain⟨v',rfl,hc⟩:=h.scalar (by simpa using ha)
  simp[hc]
theorem Rd.jQ{w:World}{M:Nat→Prop}: ∀{τ:Ty} {cs:List Value} {x:τ.den},Rd w M τ cs x→ ∀v∈cs,v.oneCell'=true
 | .int _,_,_,h=>by simp only[Rd]at h;subst h;simp[Value.oneCell']
 | .bool,_,_,h=>by simp only[Rd]at h;subst h;simp[Value.oneCell']
 | .str,_,_,h=>by simp only[Rd]at h;subst h;simp[Value.oneCell']
 | .slice _,_,_,h=>by simp only[Rd]at h;obtain⟨a,cap,rfl,_⟩:=h;simp[Value.oneCell']
 | .unit,_,_,h=>by simp only[Rd]at h;subst h;simp
 | .pair a b,_,_,h=>by
  simp only[Rd]at h
  obtain⟨c1,c2,rfl,h1,h2⟩:=h
  intro v hv
  rcases List.mem_append.1 hv with hv|hv
  ·exact h1.jQ v hv
  ·exact h2.jQ v hv
 | .arr n e,_,x,h=>by
  simp only[Rd]at h
  obtain⟨hn,Jx,hc,rfl,hr⟩:=h
  intro v hv
  obtain⟨l,hl,hvl⟩:=List.mem_flatten.1 hv
  obtain⟨i,hi,rfl⟩:=List.mem_iff_getElem.1 hl
  exact(hr i (by omega) hi).jQ v hvl
def Ty.bW:Ty→List Value
 | .int k=>[.int k 0]
 | .bool=>[.bool false]
 | .str=>[.string ByteArray.empty]
 | .slice _=>[.slice none 0 0]
 | .unit=>[]
 | .pair a b=>a.bW++b.bW
 | .arr n e=>(List.replicate n e.bW).flatten
theorem Rd.zero(w:World)(M:Nat→Prop): ∀(τ:Ty),Rd w M τ τ.bW τ.zero
 | .int _| .bool| .str| .unit=>by simp[Rd,Ty.bW,Ty.zero]
 | .slice _=>by
  simp only[Rd,Ty.bW,Ty.zero]
  exact⟨none,0,rfl,Nat.le_refl _,fun i h=>absurd h (by simp)⟩
 | .pair a b=>by
  simp only[Rd,Ty.bW,Ty.zero]
  exact⟨_,_,rfl,Rd.zero w M a,Rd.zero w M b⟩
 | .arr n e=>by
  simp only[Rd,Ty.bW,Ty.zero]
  refine⟨by simp,_,by simp,rfl,fun i h h'=> ?_⟩
  simp only[List.getElem_replicate,List.get_eq_getElem]
  exact Rd.zero w M e
end VM
end
section
namespace VM
open Go
def Bk(P:Program)(τ:Ty)(t:TypeId):Prop:=
 ∃i,P.info? t=some i∧i.size=τ.size∧i.zero=some (bE τ τ.bW)∧i.bytes≤2048
def dq(P:Program):Ty→TypeId ⊕ (Array Field×Nat×Nat)→Prop
 | .int k,.inl t=>Bk P (.int k) t∧P.underlying t=some (.int k)
 | .bool,.inl t=>Bk P .bool t∧P.underlying t=some .bool
 | .str,.inl t=>Bk P .str t∧P.underlying t=some .string
 | .slice e,.inl t=>Bk P (.slice e) t∧ ∃e',P.underlying t=some (.slice e')∧dq P e (.inl e')
 | .arr n e,.inl t=>Bk P (.arr n e) t∧ ∃e',P.underlying t=some (.array n e')∧dq P e (.inl e')
 | .unit,.inl t=>Bk P .unit t∧ ∃fs,P.underlying t=some (.struct fs)∧fs.size=0
 | .unit,.inr (fs,n,_)=>fs.size=n
 | .pair a b,.inl t=>Bk P (.pair a b) t∧ ∃fs f,P.underlying t=some (.struct fs)∧fs[0]? =some f∧f.offset=0∧dq P a (.inl f.type)∧dq P b (.inr (fs,1,a.size))
 | .pair a b,.inr (fs,n,off)=> ∃f,fs[n]? =some f∧f.offset=off∧dq P a (.inl f.type)∧dq P b (.inr (fs,n+1,off+a.size))
 |_,.inr _=>False
def gh(P:Program)(τ:Ty)(t:TypeId):Prop:=dq P τ (.inl t)
theorem gh.base{P:Program}{τ:Ty}{t:TypeId}(h:gh P τ t):Bk P τ t:=by
 unfold gh at h;cases τ<;>simp only[dq]at h<;>exact h.1
theorem gh.int{P:Program}{k:IntKind}{t:TypeId}(h:gh P (.int k) t):P.underlying t=some (.int k):=by simp only[gh,dq]at h;exact h.2
theorem gh.bool{P:Program}{t:TypeId}(h:gh P .bool t):P.underlying t=some .bool:=by simp only[gh,dq]at h;exact h.2
theorem gh.str{P:Program}{t:TypeId}(h:gh P .str t):P.underlying t=some .string:=by simp only[gh,dq]at h;exact h.2
theorem gh.slice{P:Program}{e:Ty}{t:TypeId}(h:gh P (.slice e) t): ∃e',P.underlying t=some (.slice e')∧gh P e e':=by simp only[gh,dq]at h;exact h.2
theorem gh.arr{P:Program}{n:Nat}{e:Ty}{t:TypeId}(h:gh P (.arr n e) t): ∃e',P.underlying t=some (.array n e')∧gh P e e':=by simp only[gh,dq]at h;exact h.2
theorem gh.isSome{P:Program}{τ:Ty}{t:TypeId}(h:gh P τ t):(P.underlying t).isSome=true:=by
 unfold gh at h
 cases τ<;>simp only[dq]at h
 ·simp[h.2]
 ·simp[h.2]
 ·simp[h.2]
 ·obtain⟨_,e',h',_⟩:=h;simp[h']
 ·obtain⟨_,e',h',_⟩:=h;simp[h']
 ·obtain⟨_,e',f,h',_⟩:=h;simp[h']
 ·obtain⟨_,e',h',_⟩:=h;simp[h']
inductive wg:(τ:Ty)→τ.den→Nat→(υ:Ty)→υ.den→Nat→Prop where
 |here {a b:Ty} (x:(Ty.pair a b).den):wg (.pair a b) x 0 a x.1 0
 |there {a b:Ty} (x:(Ty.pair a b).den) {n:Nat} {υ:Ty} {y:υ.den} {o:Nat} (h:wg b x.2 n υ y o):wg (.pair a b) x (n+1) υ y (a.size+o)
theorem n8{α:Type}{r:α}: ∀{τ:Ty} {x:τ.den} {n:Nat} {k:(υ:Ty)→υ.den→Option α},rn τ x n k=some r→ ∃υ y o,wg τ x n υ y o∧k υ y=some r
 | .pair a b,x,0,k,h=>⟨a,x.1,0,.here x,h⟩
 | .pair a b,x,n+1,k,h=>by
  obtain⟨υ,y,o,hf,hk⟩:=n8 (τ:=b) (x:=x.2) (n:=n) (k:=k) h
  exact⟨υ,y,_,.there x hf,hk⟩
 | .int _,_,_,_,h| .bool,_,_,_,h| .str,_,_,_,h| .slice _,_,_,_,h| .unit,_,_,_,h| .arr _ _,_,_,_,h=>by simp[rn]at h
theorem wg.bound{τ:Ty}{x:τ.den}{n:Nat}{υ:Ty}{y:υ.den}{o:Nat}(h:wg τ x n υ y o):o+υ.size≤τ.size:=by
 induction h with
 |here x=>simp[Ty.size]
 |there x h ih=>simp only[Ty.size];omega
theorem wg.rd{w:World}{M:Nat→Prop}{τ:Ty}{x:τ.den}{n:Nat}{υ:Ty}{y:υ.den}{o:Nat}(h:wg τ x n υ y o):
  ∀{cs:List Value},Rd w M τ cs x→Rd w M υ ((cs.drop o).take υ.size) y:=by
 induction h with
 |here x=>
  intro cs hr
  simp only[Rd]at hr
  obtain⟨c1,c2,rfl,h1,_⟩:=hr
  rw[List.drop_zero,List.take_left' h1.length];exact h1
 |there x h ih=>
  intro cs hr
  simp only[Rd]at hr
  obtain⟨c1,c2,rfl,h1,h2⟩:=hr
  rw[←List.drop_drop,List.drop_left' h1.length]
  exact ih h2
theorem dq.gg{P:Program}{τ:Ty}{x:τ.den}{m:Nat}{υ:Ty}{y:υ.den}{o:Nat}(h:wg τ x m υ y o):
  ∀{fs:Array Field} {n off:Nat},dq P τ (.inr (fs,n,off))→ ∃f,fs[n+m]? =some f∧f.offset=off+o∧gh P υ f.type:=by
 induction h with
 |here x=>
  intro fs n off hl
  simp only[dq]at hl
  obtain⟨f,hf,ho,ha,_⟩:=hl
  exact⟨f,hf,by simpa using ho,ha⟩
 |there x h ih=>
  intro fs n off hl
  simp only[dq]at hl
  obtain⟨f,hf,ho,_,hb⟩:=hl
  obtain⟨f',wh,ho',CF⟩:=ih hb
  exact⟨f',by rw[←wh];congr 1;omega,by omega,CF⟩
theorem gh.gg{P:Program}{τ:Ty}{t:TypeId}{x:τ.den}{m:Nat}{υ:Ty}{y:υ.den}{o:Nat}(hl:gh P τ t)(h:wg τ x m υ y o):
  ∃fs f,P.underlying t=some (.struct fs)∧fs[m]? =some f∧f.offset=o∧gh P υ f.type:=by
 unfold gh at hl
 cases h with
 |here x=>
  simp only[dq]at hl
  obtain⟨_,fs,f,hu,hf,ho,ha,_⟩:=hl
  exact⟨fs,f,hu,hf,ho,ha⟩
 |there x h=>
  simp only[dq]at hl
  obtain⟨_,fs,f,hu,hf,ho,_,hb⟩:=hl
  obtain⟨f',wh,ho',CF⟩:=dq.gg h hb
  exact⟨fs,f',hu,by rw[←wh];congr 1;omega,by omega,CF⟩
inductive Bl:List Step→(τ:Ty)→τ.den→(υ:Ty)→υ.den→Nat→Prop where
 |nil {τ:Ty} (x:τ.den):Bl [] τ x τ x 0
 |gg {p:List Step} {τ υ σ:Ty} {x:τ.den} {n o:Nat} {y:υ.den} {z:σ.den} {q:Nat} (h:wg τ x n υ y o) (r:Bl p υ y σ z q):Bl (.gg n::p) τ x σ z (o+q)
 |idx {p:List Step} {n:Nat} {e σ:Ty} {x:(Ty.arr n e).den} {i:Nat} {z:σ.den} {q:Nat} (r:Bl p e (List.getD x i e.zero) σ z q):Bl (.idx i::p) (.arr n e) x σ z (i*e.size+q)
theorem fN{α:Type}{r:α}: ∀{p:List Step} {τ:Ty} {x:τ.den} {k:(υ:Ty)→υ.den→Option α},sU p τ x k=some r→ ∃υ y o,Bl p τ x υ y o∧k υ y=some r
 |[],τ,x,k,h=>⟨τ,x,0,.nil x,h⟩
 | .gg n::p,τ,x,k,h=>by
  obtain⟨υ,y,o,hf,h'⟩:=n8 (h:rn τ x n _=some r)
  obtain⟨σ,z,q,hp,hk⟩:=fN h'
  exact⟨σ,z,_,.gg hf hp,hk⟩
 | .idx i::p,τ,x,k,h=>by
  cases τ with
  |arr n e=>
   obtain⟨σ,z,q,hp,hk⟩:=fN (p:=p) (τ:=e) (x:=List.getD x i e.zero) (k:=k) h
   exact⟨σ,z,_,.idx hp,hk⟩
  |_=>simp[sU,Wt]at h
def pP:Ty→Nat→Ty
 | .pair a b,n=>match n with|0=>a|n+1=>pP b n
 |τ,_=>τ
def mV:Ty→Nat→Nat
 | .pair a b,n=>match n with|0=>0|n+1=>a.size+mV b n
 |_,_=>0
def Wv:Ty→Ty
 | .arr _ e=>e
 |τ=>τ
def zu:List Step→Ty→Ty
 |[],τ=>τ
 | .gg n::p,τ=>zu p (pP τ n)
 | .idx _::p,τ=>zu p (Wv τ)
def bA:List Step→Ty→Nat
 |[],_=>0
 | .gg n::p,τ=>mV τ n+bA p (pP τ n)
 | .idx i::p,τ=>i*(Wv τ).size+bA p (Wv τ)
def rq:List Step→Ty→Prop
 |[],_=>True
 | .gg n::p,τ=>rq p (pP τ n)
 | .idx i::p,τ=>(∃n e,τ= .arr n e∧i<n)∧rq p (Wv τ)
theorem wg.eq{τ:Ty}{x:τ.den}{n:Nat}{υ:Ty}{y:υ.den}{o:Nat}(h:wg τ x n υ y o):υ=pP τ n∧o=mV τ n:=by
 induction h with
 |here x=>exact⟨rfl,rfl⟩
 |there x h ih=>obtain⟨rfl,rfl⟩:=ih;exact⟨rfl,rfl⟩
theorem Bl.eq{p:List Step}{τ:Ty}{x:τ.den}{υ:Ty}{y:υ.den}{o:Nat}(h:Bl p τ x υ y o):υ=zu p τ∧o=bA p τ:=by
 induction h with
 |nil x=>exact⟨rfl,rfl⟩
 |gg h r ih=>
  obtain⟨h1,h2⟩:=h.eq
  obtain⟨h3,h4⟩:=ih
  subst h1 h2 h3 h4
  exact⟨rfl,rfl⟩
 |idx r ih=>
  obtain⟨h3,h4⟩:=ih
  subst h3 h4
  exact⟨rfl,rfl⟩
theorem Ww(p q:List Step): ∀τ,zu (p++q) τ=zu q (zu p τ):=by
 induction p with
 |nil=>intro τ;rfl
 |cons s p ih=>intro τ;cases s<;>simp[zu,ih]
theorem m9(p q:List Step): ∀τ,bA (p++q) τ=bA p τ+bA q (zu p τ):=by
 induction p with
 |nil=>intro τ;simp[bA,zu]
 |cons s p ih=>intro τ;cases s<;>simp[bA,zu,ih,Nat.add_assoc]
theorem nc(p q:List Step): ∀τ,rq (p++q) τ↔rq p τ∧rq q (zu p τ):=by
 induction p with
 |nil=>intro τ;simp[rq,zu]
 |cons s p ih=>intro τ;cases s<;>simp[rq,zu,ih,and_assoc]
theorem gi{α:Type}(l:List α)(i:Nat)(d:α)(h:i<l.length):l.getD i d=l[i]:=by simp[List.getD,List.getElem?_eq_getElem h]
theorem sV{α:Type}(n:Nat): ∀(l:List (List α)) (i:Nat) (h:i<l.length),(∀j (hj:j<l.length),l[j].length=n)→(l.flatten.drop (i*n)).take n=l[i]
 |a::l,0,_,hn=>by
  have:=hn 0 (by simp)
  simp only[List.getElem_cons_zero]at this
  simp[←this]
 |a::l,i+1,h,hn=>by
  have h0:=hn 0 (by simp)
  simp only[List.getElem_cons_zero]at h0
  rw[List.flatten_cons,Nat.add_mul,Nat.one_mul,Nat.add_comm (i*n) n,←List.drop_drop,List.drop_left' h0]
  exact sV n l i (by simpa using h) (fun j hj=>hn (j+1) (by simp;omega))
theorem Rd.idx{w:World}{M:Nat→Prop}{n:Nat}{e:Ty}{cs:List Value}{x:(Ty.arr n e).den}(h:Rd w M (.arr n e) cs x){i:Nat}(hi:i<n):
  Rd w M e ((cs.drop (i*e.size)).take e.size) (List.getD x i e.zero):=by
 simp only[Rd]at h
 obtain⟨hn,Jx,hc,rfl,hr⟩:=h
 rw[sV e.size Jx i (by omega) (fun j hj=>(hr j (by omega) hj).length),gi x i e.zero (by omega)]
 exact hr i (by omega) (by omega)
theorem Bl.bound{p:List Step}{τ:Ty}{x:τ.den}{υ:Ty}{y:υ.den}{o:Nat}(h:Bl p τ x υ y o):rq p τ→o+υ.size≤τ.size:=by
 induction h with
 |nil x=>intro _;simp
 |gg h r ih=>
  intro hi
  obtain⟨h1,h2⟩:=h.eq
  subst h1
  have:=ih hi
  have:=h.bound
  omega
 | @idx p n e σ x i z q r ih=>
  intro hi
  obtain⟨⟨n',e',he,gC⟩,j2⟩:=hi
  cases he
  have:=ih j2
  have h2:(i+1)*e.size≤n*e.size:=Nat.mul_le_mul_right _ gC
  rw[Nat.add_mul]at h2
  simp only[Ty.size]
  omega
theorem Bl.rd{w:World}{M:Nat→Prop}{p:List Step}{τ:Ty}{x:τ.den}{υ:Ty}{y:υ.den}{o:Nat}(h:Bl p τ x υ y o):
  rq p τ→ ∀{cs:List Value},Rd w M τ cs x→Rd w M υ ((cs.drop o).take υ.size) y:=by
 induction h with
 |nil x=>intro _ cs hr;rw[List.drop_zero,List.take_of_length_le (by rw[hr.length];exact Nat.le_refl _)];exact hr
 |gg h r ih=>
  intro hi cs hr
  obtain⟨h1,h2⟩:=h.eq
  subst h1
  have:=ih hi (h.rd hr)
  have hb:=Bl.bound r hi
  rw[List.drop_take,List.drop_drop,List.take_take,Nat.min_eq_left (by omega)]at this
  exact this
 | @idx p n e σ x i z q r ih=>
  intro hi cs hr
  obtain⟨⟨n',e',he,gC⟩,j2⟩:=hi
  cases he
  have:=ih j2 (hr.idx gC)
  have hb:=Bl.bound r j2
  rw[List.drop_take,List.drop_drop,List.take_take,Nat.min_eq_left (by omega)]at this
  exact this
def c5{α:Type}(cs:List α)(o:Nat)(new:List α):List α:=cs.take o++new++cs.drop (o+new.length)
theorem sW{α:Type}{a b:List α}{o:Nat}{new:List α}(h:o+new.length≤a.length):c5 (a++b) o new=c5 a o new++b:=by
 unfold c5
 rw[List.take_append_of_le_length (by omega),List.drop_append_of_le_length (by omega)]
 simp only[List.append_assoc]
theorem qO{α:Type}{a b:List α}{o:Nat}{new:List α}:c5 (a++b) (a.length+o) new=a++c5 b o new:=by
 unfold c5
 rw[List.take_append,List.take_of_length_le (by omega),Nat.add_sub_cancel_left,Nat.add_assoc,List.drop_append,List.drop_of_length_le (by omega),Nat.add_sub_cancel_left]
 simp
theorem dR{α:Type}{a:List α}{o:Nat}{new:List α}(h:o+new.length≤a.length):(c5 a o new).length=a.length:=by
 unfold c5;simp;omega
theorem Bm{α:Type}{a:List α}{o i n:Nat}{new:List α}(h:i+n≤o∨o+new.length≤i)(hl:o+new.length≤a.length):((c5 a o new).drop i).take n=(a.drop i).take n:=by
 apply List.ext_getElem?
 intro j
 simp only[List.getElem?_take,List.getElem?_drop]
 split
 ·rename_i hj
  unfold c5
  rcases h with h|h
  ·rw[List.append_assoc,List.getElem?_append_left (by simp;omega),List.getElem?_take,if_pos (by omega)]
  ·rw[List.getElem?_append_right (by simp;omega)]
   simp only[List.length_append,List.length_take,Nat.min_eq_left (show o≤a.length by omega),List.getElem?_drop]
   congr 1;omega
 ·rfl
theorem Wx{α:Type}{a:List α}{o:Nat}{new:List α}(hl:o+new.length≤a.length):((c5 a o new).drop o).take new.length=new:=by
 unfold c5
 rw[List.append_assoc,List.drop_left' (by simp;omega),List.take_left' rfl]
theorem C0{α:Type}{l:List α}{o:Nat}{u:α}(h:l[o]? =some u):c5 l o [u]=l:=by
 obtain⟨dF,rfl⟩:=List.getElem?_eq_some_iff.1 h
 unfold c5
 simp
theorem wW{α:Type}{l:List α}{o:Nat}{u:α}(h:o<l.length):(c5 l o [u])[o]? =some u:=by
 unfold c5
 rw[List.append_assoc,List.getElem?_append_right (by simp;omega)]
 simp[Nat.min_eq_left (Nat.le_of_lt h)]
theorem n9{τ:Ty}: ∀{n:Nat} {a:Ty},Be τ n=some a→ ∀x:τ.den,∃y o,wg τ x n a y o:=by
 induction τ with
 |pair a b _ Ly=>
  intro n c h x
  cases n with
  |zero=>cases h;exact⟨_,_,.here x⟩
  |succ n=>
   obtain⟨y,o,hf⟩:=Ly (n:=n) (a:=c) h x.2
   exact⟨y,_,.there x hf⟩
 |_=>intro n c h;simp[Be]at h
theorem oa: ∀{p:List Step} {τ υ:Ty},dY p τ υ=true→ ∀x:τ.den,∃y o,Bl p τ x υ y o
 |[],τ,υ,h,x=>by
  have h:=of_decide_eq_true h
  subst h
  exact⟨x,0,.nil x⟩
 | .gg n::p,τ,υ,h,x=>by
  unfold dY at h
  split at h
  ·rename_i a ha
   obtain⟨y,o,hf⟩:=n9 ha x
   obtain⟨z,q,hp⟩:=oa h y
   exact⟨z,_,.gg hf hp⟩
  ·cases h
 | .idx _::_,_,_,h,_=>by simp[dY]at h
theorem gj: ∀{p:List Step} {τ υ:Ty},dY p τ υ=true→rq p τ∧zu p τ=υ
 |[],τ,υ,h=>⟨trivial,of_decide_eq_true h⟩
 | .gg n::p,τ,υ,h=>by
  have h0:=h
  unfold dY at h
  split at h
  ·rename_i a ha
   obtain⟨y,o,hf⟩:=n9 ha τ.zero
   obtain⟨h1,h2⟩:=gj h
   have:=hf.eq.1
   subst this
   exact⟨h1,h2⟩
  ·cases h
 | .idx _::_,_,_,h=>by simp[dY]at h
theorem uy: ∀{p q:List Step},CP p q=true→p=q
 |[],[],_=>rfl
 | .gg a::p,.gg b::q,h=>by
  simp only[CP,Bool.and_eq_true]at h
  rw[Nat.eq_of_beq_eq_true h.1,uy h.2]
 |[],_::_,h| .gg _::_,[],h| .idx _::_,_,h| .gg _::_,.idx _::_,h=>by simp[CP]at h
theorem wg.apart{τ:Ty}{x:τ.den}{n:Nat}{υ:Ty}{y:υ.den}{o:Nat}(h:wg τ x n υ y o): ∀{x':τ.den} {n':Nat} {υ':Ty} {y':υ'.den} {o':Nat},wg τ x' n' υ' y' o'→n≠n'→o+υ.size≤o'∨o'+υ'.size≤o:=by
 induction h with
 |here x=>
  intro x' n' υ' y' o' h' gG
  cases h' with
  |here=>exact absurd rfl gG
  |there _ h'=>left;omega
 |there x h ih=>
  intro x' n' υ' y' o' h' gG
  cases h' with
  |here=>right;omega
  |there _ h'=>rcases ih h' (fun e=>gG (by rw[e]))with h1|h1<;>omega
theorem Bl.apart{p:List Step}{τ:Ty}{x:τ.den}{υ:Ty}{y:υ.den}{o:Nat}(h:Bl p τ x υ y o):rq p τ→ ∀{q:List Step} {e:Ty},dY q τ (.slice e)=true→rm p q=false→bA q τ<o∨o+υ.size≤bA q τ:=by
 induction h with
 |nil x=>intro _ q e _ h;simp[rm]at h
 | @gg p τ υ σ x n o y z q hf r ih=>
  intro hi q' e hq hp
  obtain⟨h1,h2⟩:=hf.eq
  subst h1 h2
  cases q' with
  |nil=>
   have:=of_decide_eq_true hq
   subst this
   cases hf
  |cons s q'=>
   cases s with
   |idx i=>simp[dY]at hq
   |gg m=>
    unfold dY at hq
    split at hq
    ·rename_i a ha
     obtain⟨y',o',wh⟩:=n9 ha x
     obtain⟨h3,h4⟩:=wh.eq
     subst h3 h4
     have hb:=r.bound hi
     obtain⟨h5,h6⟩:=gj hq
     obtain⟨z',o2,Ip⟩:=oa hq y'
     have di:=Ip.bound h5
     have ho2:=Ip.eq.2
     subst ho2
     simp only[bA]
     by_cases hnm:n=m
     ·subst hnm
      have C1:rm p q'=false:=by
       simp only[rm,Bool.and_eq_false_iff]at hp
       rcases hp with hp|hp
       ·rw[Nat.beq_refl]at hp;cases hp
       ·exact hp
      rcases ih hi hq C1 with h7|h7<;>omega
     ·rcases hf.apart wh hnm with h7|h7
      ·right;omega
      ·left
       have:1≤(Ty.slice e).size:=Nat.le_refl _
       omega
    ·cases hq
 | @idx p n e' σ x i z q r ih=>
  intro hi q' e hq hp
  cases q' with
  |nil=>have:=of_decide_eq_true hq;cases this
  |cons s q'=>
   cases s with
   |idx i=>simp[dY]at hq
   |gg m=>simp[dY,Be]at hq
def dV:Value→Option Nat
 | .pointer (some a)=>some a.block
 | .slice (some a) _ cap=>if cap=0 then none else some a.block
 |_=>none
def aR.mut:aR→Prop
 | .obj _ _| .own _ _| .dE _ _ _ _=>True
 |_=>False
def ER(w:World)(M:Nat→Prop)(v:Value):aR→Prop
 | .obj τ x=> ∃b cs t,v= .pointer (some ⟨b,0,none⟩)∧w.heap[b]? =some (.cells cs t (0,0))∧M b∧Rd w M τ cs.toList x
 | .dE τ x p _=> ∃b cs t nf u,v= .pointer (some ⟨b,0,none⟩)∧w.heap[b]? =some (.cells cs t (0,0))∧M b∧Rd w M τ nf x∧cs.toList=c5 nf (bA p τ) [u]∧u.oneCell'=true∧ ∃e,dY p τ (.slice e)=true
 | .own e l=>(l=[]∧ ∃a,v= .slice a 0 0)∨
  ∃b cs t cap,v= .slice (some ⟨b,0,none⟩) l.length cap∧w.heap[b]? =some (.cells cs t (0,0))∧M b∧0<cap∧l.length≤cap∧cap≤maxLen∧cs.size=cap*e.size∧
   ∀i (h:i<l.length),Rd w M e ((cs.toList.drop (i*e.size)).take e.size) l[i]
 | .jP e l=>Rd w M (.slice e) [v] l∧((l=[]∧ ∃a n c,v= .slice a n c)∨ ∃b n c,v= .slice (some ⟨b,0,none⟩) n c)
 | .gone=>True
def AR(v:Value)(p:List Step)(u:Value):aR→Prop
 | .obj τ _| .dE τ _ _ _=>rq p τ∧ ∃b,v= .pointer (some ⟨b,0,none⟩)∧u= .pointer (some ⟨b,bA p τ,none⟩)
 | .own e l| .jP e l=> ∃i q,p= .idx i::q∧i<l.length∧rq q e∧ ∃b n c,v= .slice (some ⟨b,0,none⟩) n c∧u= .pointer (some ⟨b,i*e.size+bA q e,none⟩)
 | .gone=> ∃a,u= .pointer (some a)
mutual
def VR(w:World)(M:Nat→Prop)(H:Nat→Option aR)(ν:Nat→Value):aW→Value→Prop
 | .any,_=>True
 | .Lw,v=>v=undef
 | .val τ x,v=>V w M τ v x
 | .Bf τ x n,v=>V w M τ v x∧ ∃cs a,v= .agg cs∧cs.toList[mV τ n]? =some (.slice a 0 0)
 | .emp,v=> ∃a,v= .slice a 0 0
 | .ref id,v=>H id≠none∧v=ν id
 | .eV id p,v=> ∃e,H id=some e∧AR (ν id) p v e
 | .lS τ x,v=> ∃b off,v= .pointer (some ⟨b,off,none⟩)∧b<w.heap.size∧ ¬M b∧ ∃cs,At w b off cs∧Rd w M τ cs x
 | .tup vs,v=> ∃us:List Value,v= .tuple us.toArray∧fj w M H ν vs us
 | .CQ f caps,v=> ∃cs:List Value,v= .func (.func f) #[] cs.toArray∧fj w M H ν caps cs
def fj(w:World)(M:Nat→Prop)(H:Nat→Option aR)(ν:Nat→Value):List aW→List Value→Prop
 |[],[]=>True
 |a::as,v::vs=>VR w M H ν a v∧fj w M H ν as vs
 |_,_=>False
end
def aR.gM:aR→aR→Prop
 | .obj τ _,.obj υ _| .obj τ _,.dE υ _ _ _| .dE τ _ _ _,.obj υ _| .dE τ _ _ _,.dE υ _ _ _=>τ=υ
 | .own e l,.own f k| .own e l,.jP f k| .jP e l,.jP f k=>e=f∧l.length=k.length
 |_,.gone=>True
 |_,_=>False
structure nP(H:Nat→Option aR)(ν:Nat→Value)(H':Nat→Option aR)(ν':Nat→Value):Prop where
 im: ∀i e,H i=some e→ ∃e',H' i=some e'∧e.gM e'
 head: ∀i,H i≠none→ν' i=ν i
theorem AR.ptr{v:Value}{p:List Step}{u:Value}{e:aR}(h:AR v p u e): ∃a,u= .pointer (some a):=by
 cases e<;>simp only[AR]at h
 ·obtain⟨_,b,_,h⟩:=h;exact⟨_,h⟩
 ·obtain⟨_,b,_,h⟩:=h;exact⟨_,h⟩
 ·obtain⟨i,q,_,_,_,b,n,c,_,h⟩:=h;exact⟨_,h⟩
 ·obtain⟨i,q,_,_,_,b,n,c,_,h⟩:=h;exact⟨_,h⟩
 ·exact h
theorem AR.gM{v:Value}{p:List Step}{u:Value}{e e':aR}(h:AR v p u e)(l:e.gM e'):AR v p u e':=by
 have hp:=h.ptr
 cases e<;>cases e'<;>simp only[aR.gM]at l<;>simp only[AR]at h ⊢ <;>try exact hp
 ·subst l;exact h
 ·subst l;exact h
 ·subst l;exact h
 ·subst l;exact h
 ·obtain⟨rfl,hl⟩:=l;obtain⟨i,q,hp,hi,r⟩:=h;exact⟨i,q,hp,by omega,r⟩
 ·obtain⟨rfl,hl⟩:=l;obtain⟨i,q,hp,hi,r⟩:=h;exact⟨i,q,hp,by omega,r⟩
 ·obtain⟨rfl,hl⟩:=l;obtain⟨i,q,hp,hi,r⟩:=h;exact⟨i,q,hp,by omega,r⟩
theorem aR.gM.refl(e:aR):e.gM e:=by cases e<;>simp[aR.gM]
theorem nP.refl(H:Nat→Option aR)(ν:Nat→Value):nP H ν H ν:=⟨fun _ e h=>⟨e,h,.refl e⟩,fun _ _=>rfl⟩
mutual
theorem VR.br{w w':World}{M M':Nat→Prop}{H H':Nat→Option aR}{ν ν':Nat→Value}(k:c4 w M w' M')(g:nP H ν H' ν'):
  ∀{a:aW} {v:Value},VR w M H ν a v→VR w' M' H' ν' a v
 | .any,_,_=>by simp[VR]
 | .Lw,_,h=>by simpa [VR]using h
 | .val τ x,v,h=>by simp only[VR]at h ⊢;exact h.br k
 | .Bf τ x n,v,h=>by simp only[VR]at h ⊢;exact⟨h.1.br k,h.2⟩
 | .emp,_,h=>by simpa [VR]using h
 | .ref id,_,h=>by
  simp only[VR]at h ⊢
  obtain⟨h1,h2⟩:=h
  obtain⟨e,he⟩:=Option.ne_none_iff_exists'.1 h1
  obtain⟨e',rI,_⟩:=g.im id e he
  exact⟨by simp[rI],by rw[g.head id h1];exact h2⟩
 | .eV id p,_,h=>by
  simp only[VR]at h ⊢
  obtain⟨e,he,ha⟩:=h
  obtain⟨e',rI,hl⟩:=g.im id e he
  exact⟨e',rI,by rw[g.head id (by simp[he])];exact ha.gM hl⟩
 | .lS τ x,_,h=>by
  simp only[VR]at h ⊢
  obtain⟨b,off,rfl,hb,hm,cs,ha,hr⟩:=h
  exact⟨b,off,rfl,Nat.lt_of_lt_of_le hb k.size,fun h'=>hm (k.less b hb h'),cs,ha.br (k.block b hb hm),hr.br k⟩
 | .tup vs,_,h=>by
  simp only[VR]at h ⊢
  obtain⟨us,rfl,h⟩:=h
  exact⟨us,rfl,fj.br k g h⟩
 | .CQ f caps,_,h=>by
  simp only[VR]at h ⊢
  obtain⟨us,rfl,h⟩:=h
  exact⟨us,rfl,fj.br k g h⟩
theorem fj.br{w w':World}{M M':Nat→Prop}{H H':Nat→Option aR}{ν ν':Nat→Value}(k:c4 w M w' M')(g:nP H ν H' ν'):
  ∀{as:List aW} {vs:List Value},fj w M H ν as vs→fj w' M' H' ν' as vs
 |[],[],_=>by simp[fj]
 |a::as,v::vs,h=>by simp only[fj]at h ⊢;exact⟨VR.br k g h.1,fj.br k g h.2⟩
 |[],_::_,h=>by simp[fj]at h
 |_::_,[],h=>by simp[fj]at h
end
end VM
end
