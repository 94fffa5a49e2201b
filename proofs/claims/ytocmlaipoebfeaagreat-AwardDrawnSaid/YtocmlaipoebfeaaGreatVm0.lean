/- A part of the proof of AwardDrawn of layer 25: a machine that reads a function of the program as an equation between values. -/
import GoSem.Claims
import Derived.WalkKit
import Derived.ArgAppend
import Derived.Laws.CopyRow
import Derived.Laws.MakeOwn
import Derived.Laws.OwnMore
import Derived.Orders
import Derived.LoopN
set_option linter.all false
section
namespace VM
open Go
theorem acf{α:Type}(a:α): ∃b:α,b=a:=⟨a,rfl⟩
noncomputable def aR{α:Type}(a:α):α:=Classical.choose (acf a)
theorem eQ{α:Type}(a:α):aR a=a:=Classical.choose_spec (acf a)
def tp:Nat:=68719476736
noncomputable def W:IntKind→Int→Int:=aR fun k x=>k.wrap x
noncomputable def aM:Int→Int→Bool:=aR fun x y=>decide (x<y)
noncomputable def bV:Int→Int→Bool:=aR fun x y=>decide (x≤y)
noncomputable def az:Int→Int→Bool:=aR fun x y=>decide (x=y)
noncomputable def aN:Int→Nat→Bool:=aR fun i n=>decide (0≤i∧i<(n:Int))
noncomputable def small:Nat→Bool:=aR fun n=>decide (n<tp)
noncomputable def fP:Int→Int→Bool:=aR fun l c=>decide (0≤l∧l≤c∧c<(tp:Int))
noncomputable def fu:Int→Int→Int→Int→Bool:=aR fun l h m n=>decide (0≤l∧l≤h∧h≤m∧m≤n)
noncomputable def quo:Int→Int→Int:=aR fun x y=>x.tdiv y
noncomputable def rem:Int→Int→Int:=aR fun x y=>x.tmod y
noncomputable def shl:IntKind→Int→Int→Int:=aR fun k x y=>x*2^(min y.toNat k.bits)
noncomputable def shr:IntKind→Int→Int→Int:=aR fun k x y=>x.fdiv (2^(min y.toNat k.bits))
noncomputable def mx:Int→Int→Int:=aR fun x y=>if y>x then y else x
noncomputable def mn:Int→Int→Int:=aR fun x y=>if y<x then y else x
noncomputable def Mk:ByteArray→ByteArray→Bool:=aR fun x y=>decide (x.toList=y.toList)
theorem xM(k:IntKind)(x:Int):W k x=k.wrap x:=by unfold W;rw[eQ]
theorem sr(x y:Int):aM x y=decide (x<y):=by unfold aM;rw[eQ]
theorem iR(x y:Int):bV x y=decide (x≤y):=by unfold bV;rw[eQ]
theorem eR(x y:Int):az x y=decide (x=y):=by unfold az;rw[eQ]
theorem Ml(i:Int)(n:Nat):aN i n=decide (0≤i∧i<(n:Int)):=by unfold aN;rw[eQ]
theorem xN(n:Nat):small n=decide (n<tp):=by unfold small;rw[eQ]
theorem Av(l c:Int):fP l c=decide (0≤l∧l≤c∧c<(tp:Int)):=by unfold fP;rw[eQ]
theorem tq(l h m n:Int):fu l h m n=decide (0≤l∧l≤h∧h≤m∧m≤n):=by unfold fu;rw[eQ]
theorem Xk(x y:Int):quo x y=x.tdiv y:=by unfold quo;rw[eQ]
theorem Xl(x y:Int):rem x y=x.tmod y:=by unfold rem;rw[eQ]
theorem Mm(k:IntKind)(x y:Int):shl k x y=x*2^(min y.toNat k.bits):=by unfold shl;rw[eQ]
theorem Ha(k:IntKind)(x y:Int):shr k x y=x.fdiv (2^(min y.toNat k.bits)):=by unfold shr;rw[eQ]
theorem acg(x y:Int):mx x y=if y>x then y else x:=by unfold mx;rw[eQ]
theorem Wc(x y:Int):mn x y=if y<x then y else x:=by unfold mn;rw[eQ]
theorem xO(x y:ByteArray):Mk x y=decide (x.toList=y.toList):=by unfold Mk;rw[eQ]
inductive Bw where|and|or|xor|andNot
noncomputable def ov:Bw→IntKind→Int→Int→Int:=aR fun o k x y=>
 let a:=BitVec.ofInt k.bits x
 let b:=BitVec.ofInt k.bits y
 k.wrap (match o with| .and=>a&&& b| .or=>a|||b| .xor=>a^^^b| .andNot=>a&&& ~~~b).toNat
theorem oV(o:Bw)(k:IntKind)(x y:Int):ov o k x y=
 let a:=BitVec.ofInt k.bits x
 let b:=BitVec.ofInt k.bits y
 k.wrap (match o with| .and=>a&&& b| .or=>a|||b| .xor=>a^^^b| .andNot=>a&&& ~~~b).toNat:=by unfold ov;rw[eQ]
def strOf(l:List Nat):ByteArray:=⟨(l.map UInt8.ofNat).toArray⟩
inductive Ty where
 |int (k:IntKind)
 |bool
 |str
 |slice (e:Ty)
 |unit
 |pair (a b:Ty)
 |arr (n:Nat) (e:Ty)
 deriving DecidableEq
@[reducible] def Ty.den:Ty→Type
 | .int _=>Int
 | .bool=>Bool
 | .str=>ByteArray
 | .slice e=>List e.den
 | .unit=>Unit
 | .pair a b=>a.den×b.den
 | .arr _ e=>List e.den
def Ty.size:Ty→Nat
 | .int _| .bool| .str| .slice _=>1
 | .unit=>0
 | .pair a b=>a.size+b.size
 | .arr n e=>n*e.size
def Ty.isAgg:Ty→Bool
 | .unit| .pair _ _| .arr _ _=>true
 |_=>false
def Ty.zero:(τ:Ty)→τ.den
 | .int _=>(0:Int)
 | .bool=>false
 | .str=>ByteArray.empty
 | .slice _=>[]
 | .unit=>()
 | .pair a b=>(a.zero,b.zero)
 | .arr n e=>List.replicate n e.zero
def Ty.comparable:Ty→Bool
 | .slice _=>false
 | .pair a b=>a.comparable&&b.comparable
 | .arr _ _=>false
 |_=>true
def ach{α:Type}(f:α→α→Bool):List α→List α→Bool
 |[],[]=>true
 |x::xs,y::ys=>f x y&&ach f xs ys
 |_,_=>false
noncomputable def kV:(τ:Ty)→τ.den→τ.den→Bool
 | .int _,x,y=>az x y
 | .bool,x,y=>x==y
 | .str,x,y=>Mk x y
 | .slice _,_,_=>false
 | .unit,_,_=>true
 | .pair a b,x,y=>kV a x.1 y.1&&kV b x.2 y.2
 | .arr _ e,x,y=>ach (kV e) x y
inductive Step where
 |gk (n:Nat)
 |idx (i:Nat)
def Di:List Step→List Step→Bool
 |[],[]=>true
 | .gk a::p,.gk b::q=>Nat.beq a b&&Di p q
 |_,_=>false
def rI:List Step→List Step→Bool
 |[],_=>true
 | .gk a::p,.gk b::q=>Nat.beq a b&&rI p q
 |_,_=>false
def BG:Ty→Nat→Option Ty
 | .pair a b,n=>match n with
  |0=>some a
  |n+1=>BG b n
 |_,_=>none
def eo:List Step→Ty→Ty→Bool
 |[],τ,υ=>decide (τ=υ)
 | .gk n::p,τ,υ=>match BG τ n with
  |some a=>eo p a υ
  |none=>false
 |_,_,_=>false
inductive aX where
 |any
 |Mn
 |val (τ:Ty) (x:τ.den)
 |BH (τ:Ty) (x:τ.den) (n:Nat)
 |emp
 |ref (id:Nat)
 |fc (id:Nat) (p:List Step)
 |mq (τ:Ty) (x:τ.den)
 |tup (vs:List aX)
 |Dj (f:Nat) (caps:List aX)
inductive aQ where
 |obj (τ:Ty) (x:τ.den)
 |dN (τ:Ty) (x:τ.den) (p:List Step) (j:Nat)
 |own (e:Ty) (l:List e.den)
 |jW (e:Ty) (l:List e.den)
 |gone
structure St where
 T:Nat→aX
 H:Nat→Option aQ
def St.put(σ:St)(d:Nat)(v:aX):St:=⟨fun i=>cond (Nat.beq i d) v (σ.T i),σ.H⟩
def St.gK(σ:St)(d:Nat)(v:Option aQ):St:=⟨σ.T,fun i=>cond (Nat.beq i d) v (σ.H i)⟩
def St.p5(σ:St)(d:Option Nat)(v:aX):St:=match d with|some d=>σ.put d v|none=>σ
def Dl(n:Nat)(io:List Nat):Option Nat→Bool|some d=>Nat.blt d n&&io.all (fun i=> !(Nat.beq i d))|none=>true
def St.qh(σ:St):List (Nat×Option aQ)→St
 |[]=>σ
 |u::r=>(σ.gK u.1 u.2).qh r
abbrev S0:St:=⟨fun _=> .any,fun _=>none⟩
abbrev fg:=List (Nat×Option aQ)
section K
variable{α:Type}
def rJ:(τ:Ty)→τ.den→Nat→((υ:Ty)→υ.den→Option α)→Option α
 | .pair a b,x,n,k=>match n with
  |0=>k a x.1
  |n+1=>rJ b x.2 n k
 |_,_,_,_=>none
def iS:(τ:Ty)→τ.den→Nat→((υ:Ty)→υ.den→(υ.den→Option α)→Option α)→(τ.den→Option α)→Option α
 | .pair a b,x,n,m,k=>match n with
  |0=>m a x.1 fun z=>k (z,x.2)
  |n+1=>iS b x.2 n m fun z=>k (x.1,z)
 |_,_,_,_,_=>none
def iT(τ υ:Ty)(k:Option α):Option α:=if τ=υ then k else none
def bX(υ τ:Ty)(y:υ.den)(k:τ.den→Option α):Option α:=if h:υ=τ then k (h▸y)else none
def Xm(τ:Ty)(x:τ.den)(i:Nat)(k:(υ:Ty)→υ.den→Option α):Option α:=
 match τ,x with
 | .arr _ e,x=>k e (List.getD x i e.zero)
 |_,_=>none
def xr(τ:Ty)(x:τ.den)(i:Nat)(m:(υ:Ty)→υ.den→(υ.den→Option α)→Option α)(k:τ.den→Option α):Option α:=
 match τ,x,k with
 | .arr _ e,x,k=>m e (List.getD x i e.zero) fun z=>k (List.set x i z)
 |_,_,_=>none
def tt:List Step→(τ:Ty)→τ.den→((υ:Ty)→υ.den→Option α)→Option α
 |[],τ,x,k=>k τ x
 | .gk n::p,τ,x,k=>rJ τ x n fun υ y=>tt p υ y k
 | .idx i::p,τ,x,k=>Xm τ x i fun υ y=>tt p υ y k
def p6(υ:Ty)(y:υ.den):List Step→(τ:Ty)→τ.den→(τ.den→Option α)→Option α
 |[],τ,_,k=>bX υ τ y k
 | .gk n::p,τ,x,k=>iS τ x n (fun υ' y' k'=>p6 υ y p υ' y' k') k
 | .idx i::p,τ,x,k=>xr τ x i (fun υ' y' k'=>p6 υ y p υ' y' k') k
def hQ(fz:Bool)(a:aX)(H:Nat→Option aQ)(τ:Ty)(k:τ.den→List Nat→fg→Option α):Option α:=
 match a with
 | .val υ x=>bX υ τ x fun y=>k y [] []
 | .BH υ x _=>bX υ τ x fun y=>k y [] []
 | .emp=>match τ,k with
  | .slice _,k=>k [] [] []
  |_,_=>none
 | .ref id=>match H id with
  |some (.own e l)=>bX (.slice e) τ l fun y=>k y [id] (cond fz [(id,some (.jW e l))] [])
  |some (.jW e l)=>bX (.slice e) τ l fun y=>k y [id] []
  |_=>none
 |_=>none
def Dm(a:aX)(k:(τ:Ty)→τ.den→Option α):Option α:=
 match a with
 | .val υ x=>k υ x
 |_=>none
def iU(id:Nat)(p:List Step)(H:Nat→Option aQ)(k:Ty→Option α):Option α:=
 match H id with
 |some (.obj τ x)=>tt p τ x fun υ _=>k υ
 |some (.dN τ x _ _)=>tt p τ x fun υ _=>k υ
 |some (.own e l)|some (.jW e l)=>match p with
  | .idx i::p=>tt p e (List.getD l i e.zero) fun υ _=>k υ
  |_=>none
 |_=>none
def amr(a:aX)(H:Nat→Option aQ)(k:(τ:Ty)→τ.den→List Nat→Option α):Option α:=
 match a with
 | .val υ x=>k υ x []
 | .ref id=>match H id with
  |some (.own e l)|some (.jW e l)=>k (.slice e) l [id]
  |_=>none
 |_=>none
def qi(a:aX)(k:IntKind→Int→Option α):Option α:=
 match a with
 | .val (.int i) x=>k i x
 |_=>none
end K
inductive AM where
 |v (τ:Ty)
 |own (e:Ty)
 |io (τ:Ty)
 |fn (f:Nat) (τ:Ty)
 |ptr (τ:Ty)
 |fc (τ:Ty)
@[reducible] def AM.den:AM→Type
 | .v τ=>τ.den
 | .own e=>List e.den
 | .io τ=>τ.den
 | .fn _ τ=>τ.den
 | .ptr τ=>τ.den
 | .fc τ=>τ.den
@[reducible] def HP:List AM→Type
 |[]=>Unit
 |[m]=>m.den
 |m::n::ms=>m.den×HP (n::ms)
structure gP where
 args:List AM
 res:List AM
 quiet:Bool
 run:HP args→Option (HP res)
inductive CM where
 |v (τ:Ty)
 |own (e:Ty)
 |obj (τ:Ty)
 |dN (τ:Ty) (q:List Step) (e:Ty)
 |same (s:Nat)
 |io (τ:Ty)
 |fn (f:Nat) (τ:Ty)
structure Env where
 nt:Nat
 ty:Nat→Option Ty
 Γ:Nat→List gP
 N:Nat
 qj:Nat→Option (List (Nat×CM))
 rK:Nat→Option (List (Nat×CM))
 io:List Nat:=[]
 lk:Option (Ty×List Step×Ty×List Nat):=none
def lkT(E:Env)(τ:Ty):Option (List Step×Ty):=match E.lk with
 |some (υ,q,e,_)=>cond (decide (υ=τ)) (cond (eo q τ (.slice e)) (some (q,e)) none) none
 |none=>none
def BI(E:Env)(τ:Ty)(id:Nat):Option (List Step×Ty):=match E.lk with
 |some (_,_,_,ds)=>cond (ds.any fun d=>Nat.beq (id/16) d) (lkT E τ) none
 |none=>none
def cvA:Value→aX
 | .int k n=> .val (.int k) n
 | .bool b=> .val .bool b
 | .string s=> .val .str s
 | .slice none 0 0=> .emp
 |_=> .any
def St.ρ (σ:St):Operand→aX
 | .tmp t=>σ.T t
 | .const v=>cvA v
 | .global _=> .any
 | .func f=> .Dj f []
section
variable{α:Type}
noncomputable def oW(op:BinOp)(k:IntKind)(x y:Int)(K:aX→Option α):Option α:=
 match op with
 | .add=>K (.val (.int k) (W k (x+y)))
 | .sub=>K (.val (.int k) (W k (x-y)))
 | .mul=>K (.val (.int k) (W k (x*y)))
 | .quo=>cond (az y 0) none (K (.val (.int k) (W k (quo x y))))
 | .rem=>cond (az y 0) none (K (.val (.int k) (rem x y)))
 | .and=>K (.val (.int k) (ov .and k x y))
 | .or=>K (.val (.int k) (ov .or k x y))
 | .xor=>K (.val (.int k) (ov .xor k x y))
 | .andNot=>K (.val (.int k) (ov .andNot k x y))
 | .eql=>K (.val .bool (az x y))
 | .neq=>K (.val .bool (!az x y))
 | .lss=>K (.val .bool (aM x y))
 | .leq=>K (.val .bool (bV x y))
 | .gtr=>K (.val .bool (aM y x))
 | .geq=>K (.val .bool (bV y x))
 |_=>none
noncomputable def P4(op:BinOp)(k:IntKind)(x y:Int)(K:aX→Option α):Option α:=
 match op with
 | .shl=>cond (aM y 0) none (K (.val (.int k) (W k (shl k x y))))
 | .shr=>cond (aM y 0) none (K (.val (.int k) (shr k x y)))
 |_=>none
def P5:BinOp→Bool
 | .shl| .shr=>true
 |_=>false
noncomputable def xP(t:Option Ty)(op:BinOp)(τ:Ty)(x:τ.den)(υ:Ty)(y:υ.den)(K:aX→Option α):Option α:=
 match τ,x,υ,y with
 | .int k,x,.int k',y=>cond (P5 op) (P4 op k x y K) (if k=k' then oW op k x y K else none)
 |τ,x,υ,y=>match t with
  |none=>none
  |some u=>iT u τ (cond τ.comparable (match op with
   | .eql=>bX υ τ y fun y=>K (.val .bool (kV τ x y))
   | .neq=>bX υ τ y fun y=>K (.val .bool (!kV τ x y))
   |_=>none) none)
noncomputable def J8(op:UnOp)(a:aX)(K:aX→Option α):Option α:=
 match op,a with
 | .neg,.val (.int k) n=>K (.val (.int k) (W k (0-n)))
 | .xor,.val (.int k) n=>K (.val (.int k) (ov .xor k (if k.signed then-1 else k.max) n))
 | .not,.val .bool b=>K (.val .bool (!b))
 |_,_=>none
abbrev fh(α:Type):=aX→List Nat→fg→Option α
noncomputable def PF(up:Bool):aX→List aX→(aX→Option α)→Option α
 |a,[],K=>K a
 |a,b::r,K=>qi a fun k x=>qi b fun k' y=>if k=k' then PF up (.val (.int k) (cond up (mx x y) (mn x y))) r K else none
def Dn(τ:Ty)(a:aX)(H:Nat→Option aQ)(K:fh α):Option α:=
 match τ,a with
 | .slice _,.val (.slice _) l=>K (.val (.int .i64) (List.length l:Int)) [] []
 | .arr n _,.val (.arr _ _) _=>K (.val (.int .i64) (n:Int)) [] []
 | .str,.val .str s=>K (.val (.int .i64) (ByteArray.size s:Int)) [] []
 | .slice _,.emp=>K (.val (.int .i64) (0:Int)) [] []
 | .slice _,.ref id=>match H id with
  |some (.own _ l)|some (.jW _ l)=>K (.val (.int .i64) (l.length:Int)) [id] []
  |_=>none
 |_,_=>none
def mu(H:Nat→Option aQ)(id:Nat)(e:aQ)(K:Option α):Option α:=
 match H id with
 |none=>K
 |some _=>none
noncomputable def Dp(id:Nat)(e:Ty)(a b:aX)(H:Nat→Option aQ)(K:fh α):Option α:=
 hQ false b H (.slice e) fun ys rd _=>
  match a with
  | .emp=>cond (small (List.length ys)) (K (.ref id) (id::rd) [(id,some (.own e ys))]) none
  | .ref j=>match H j with
   |some (.own e' l)=>bX (.slice e') (.slice e) l fun xs=>
    cond (small (List.length xs+List.length ys)) (K (.ref id) (id::j::rd) [(j,some .gone),(id,some (.own e (xs++ys)))]) none
   |_=>none
  |_=>none
def oX(τ:Ty)(H:Nat→Option aQ):List (Nat×aX)→τ.den→List Nat→fg→(τ.den→List Nat→fg→Option α)→Option α
 |[],x,rd,ups,K=>K x rd ups
 |p::r,x,rd,ups,K=>rJ τ x p.1 fun υ _=>hQ true p.2 H υ fun y uX jB=>
  iS τ x p.1 (fun υ' _ k'=>bX υ υ' y k') fun z=>oX τ H r z (uX++rd) (ups++jB) K
def qk(e:Ty)(H:Nat→Option aQ)(n:Nat):List (Nat×aX)→List e.den→List Nat→fg→(List e.den→List Nat→fg→Option α)→Option α
 |[],l,rd,ups,K=>K l rd ups
 |p::r,l,rd,ups,K=>cond (Nat.blt p.1 n) (hQ true p.2 H e fun y uX jB=>qk e H n r (List.set l p.1 y) (uX++rd) (ups++jB) K) none
def vG(v:aX)(H:Nat→Option aQ):(a:Ty)→(a.den→List Nat→fg→Option α)→Option α
 | .pair a .unit,k=>match v with
  | .mq υ x=>bX υ a x fun y=>k (y,()) [] []
  |_=>none
 |a,k=>hQ true v H a k
def vH:(a:Ty)→a.den→aX
 | .pair a .unit,x=> .mq a x.1
 |a,x=> .val a x
def mv(H:Nat→Option aQ):(τ:Ty)→List aX→(τ.den→List Nat→fg→Option α)→Option α
 | .unit,[],K=>K () [] []
 | .pair a b,v::vs,K=>vG v H a fun x rd ups=>mv H b vs fun xs uX jB=>K (x,xs) (uX++rd) (ups++jB)
 |_,_,_=>none
def lA:(τ:Ty)→τ.den→List aX
 | .pair a b,x=>vH a x.1::lA b x.2
 |_,_=>[]
def bn(H:Nat→Option aQ)(d:Nat)(v:Option aQ):Nat→Option aQ:=fun i=>cond (Nat.beq i d) v (H i)
def ql(H:Nat→Option aQ):List aX→(List aX→List Nat→fg→Option α)→Option α
 |[],K=>K [] [] []
 |a::r,K=>match a with
  | .fc id []=>match H id with
   |some (.obj τ x)=>ql (bn H id (some .gone)) r fun cs rd ups=>K (.mq τ x::cs) (id::rd) ((id,some .gone)::ups)
   |_=>none
  |a=>ql H r fun cs rd ups=>K (a::cs) rd ups
def ke(m:AM)(a:aX)(H:Nat→Option aQ)(k:m.den→(Nat→Option aQ)→List Nat→fg→fg→List (Nat×Ty)→Option α):Option α:=
 match m,k with
 | .v τ,k=>hQ true a H τ fun x rd uf=>match uf with
  |[]=>k x H rd [] [] []
  |u::r=>k x (bn H u.1 u.2) rd [] (u::r) []
 | .own e,k=>match a with
  | .emp=>k [] H [] [] [] []
  | .ref id=>match H id with
   |some (.own e' l)=>bX (.slice e') (.slice e) l fun x=>k x (bn H id (some .gone)) [id] [(id,some .gone)] [] []
   |_=>none
  |_=>none
 | .io τ,k=>match a with
  | .fc id []=>match H id with
   |some (.obj υ x)=>bX υ τ x fun y=>k y (bn H id (some .gone)) [id] [] [] [(id,τ)]
   |_=>none
  |_=>none
 | .fn f τ,k=>match a with
  | .Dj f' c=>cond (Nat.beq f f') (mv H τ c fun x rd uf=>match uf with
   |[]=>k x H rd [] [] []
   |_=>none) none
  |_=>none
 | .ptr _,_=>none
 | .fc τ,k=>match a with
  | .mq υ x=>bX υ τ x fun y=>k y H [] [] [] []
  |_=>none
def ow:(ms:List AM)→List aX→(Nat→Option aQ)→List Nat→fg→fg→List (Nat×Ty)→(HP ms→List Nat→fg→fg→List (Nat×Ty)→Option α)→Option α
 |[],[],_,rd,uo,uf,io,K=>K () rd uo uf io
 |[m],[a],H,rd,uo,uf,io,K=>ke m a H fun x _ uX C1 C2 zL=>K x (uX++rd) (C1++uo) (C2++uf) (io++zL)
 |m::n::ms,a::lF,H,rd,uo,uf,io,K=>ke m a H fun x H' uX C1 C2 zL=>
  ow (n::ms) lF H' (uX++rd) (C1++uo) (C2++uf) (io++zL) fun xs rd uo uf io=>K (x,xs) rd uo uf io
 |_,_,_,_,_,_,_,_=>none
def BJ(m:AM)(x:m.den)(id:Nat):aX×fg:=
 match m,x with
 | .v τ,x=>(.val τ x,[])
 | .own e,x=>(.ref id,[(id,some (.own e x))])
 | .io τ,x=>(.val τ x,[])
 | .fn _ _,_=>(.any,[])
 | .ptr τ,x=>(.fc id [],[(id,some (.obj τ x))])
 | .fc _,_=>(.any,[])
def hZ:(ms:List AM)→HP ms→Nat→List (Nat×Ty)→List aX×fg×List (Nat×Ty)
 |[],_,_,io=>([],[],io)
 |[m],x,id,io=>match m,x,io with
  | .io τ,x,(j,_)::io=>([],[(j,some (.obj τ x))],io)
  |m,x,io=>([(BJ m x id).1],(BJ m x id).2,io)
 |m::n::ms,x,id,io=>match m,x,io with
  | .io τ,x,(j,_)::io=>let r:=hZ (n::ms) x.2 (id+1) io;(r.1,(j,some (.obj τ x.1))::r.2.1,r.2.2)
  |m,x,io=>let r:=hZ (n::ms) x.2 (id+1) io;((BJ m x.1 id).1::r.1,(BJ m x.1 id).2++r.2.1,r.2.2)
def Dq:List aX→aX
 |[]=> .any
 |[a]=>a
 |l=> .tup l
def oY(H:Nat→Option aQ)(id:Nat):Nat→Bool
 |0=>true
 |n+1=>(match H (id+n)with|none=>true|some _=>false)&&oY H id n
def Dr(id:Nat):Nat→List Nat
 |0=>[]
 |n+1=>(id+n)::Dr id n
def fits:List AM→List aX→Bool
 |[],[]=>true
 | .fn f _::ms,.Dj g _::lF=>Nat.beq f g&&fits ms lF
 | .fn _ _::_,_::_=>false
 |_::ms,_::lF=>fits ms lF
 |_,_=>false
def Ds:List gP→List aX→Option gP
 |[],_=>none
 |S::r,lF=>cond (fits S.args lF) (some S) (Ds r lF)
noncomputable def vI(E:Env)(f:Nat)(lF:List aX)(id:Nat)(H:Nat→Option aQ)(K:fh α):Option α:=
 match Ds (E.Γ f) lF with
 |none=>none
 |some S=>ow S.args lF H [] [] [] [] fun x rd uo uf io=>
  (S.run x).bind fun y=>
   let r:=hZ S.res y id io
   cond (oY H id S.res.length) (K (Dq r.1) (Dr id S.res.length++(r.2.1.map (·.1)++rd)) (uo++cond S.quiet [] uf++r.2.1)) none
def ss(a:Option aX)(d:Int)(k:Int→Option α):Option α:=
 match a with
 |none=>k d
 |some a=>qi a fun _ x=>k x
def g4:Option Operand→Bool
 |some (.const (.int _ n))=>decide (n=0)
 |_=>false
noncomputable def mw(t:Ty)(z:Bool)(a:aX)(lo hi mx:Option aX)(H:Nat→Option aQ)(K:fh α):Option α:=
 match t,a with
 | .str,.val .str s=>cond mx.isNone (ss lo 0 fun l=>ss hi (ByteArray.size s:Int) fun h=>
  cond (fu l h (ByteArray.size s:Int) (ByteArray.size s:Int)) (K (.val .str (ByteArray.extract s l.toNat h.toNat)) [] []) none) none
 | .slice _,.emp=>cond z (K .emp [] []) (cond mx.isNone (ss lo 0 fun l=>ss hi 0 fun h=>cond (fu l h 0 0) (K .emp [] []) none) none)
 | .slice e,a=>hQ (!z) a H (.slice e) fun x rd ups=>cond z (K .emp rd [])
  (cond (mx.isNone||hi.isSome) (ss lo 0 fun l=>ss hi (List.length x:Int) fun h=>ss mx (List.length x:Int) fun m=>
   cond (fu l h m (List.length x:Int))
    (K (.val (.slice e) (List.drop l.toNat (List.take h.toNat x))) rd ups) none) none)
 |_,_=>none
noncomputable def dX(τ:Ty)(a i:aX)(H:Nat→Option aQ)(K:fh α):Option α:=
 qi i fun _ i=>
 match τ with
 | .slice e=>match a with
  | .val υ l=>bX υ (.slice e) l fun l=>cond (aN i (List.length l)) (K (.mq e (List.getD l i.toNat e.zero)) [] []) none
  | .ref id=>match H id with
   |some (.own e' l)|some (.jW e' l)=>iT e' e (cond (aN i (List.length l)) (K (.fc id [.idx i.toNat]) [id] []) none)
   |_=>none
  |_=>none
 | .arr n e=>match a with
  | .fc id p=>iU id p H fun υ=>iT υ (.arr n e) (cond (aN i n) (K (.fc id (p++[.idx i.toNat])) [id] []) none)
  | .mq υ l=>bX υ (.arr n e) l fun l=>cond (aN i n) (K (.mq e (List.getD l i.toNat e.zero)) [] []) none
  |_=>none
 |_=>none
noncomputable def qm(τ:Ty)(a i:aX)(K:aX→Option α):Option α:=
 qi i fun _ i=>
 match τ,a with
 | .arr n e,.val υ l=>bX υ (.arr n e) l fun l=>cond (aN i n) (K (.val e (List.getD l i.toNat e.zero))) none
 | .str,.val .str s=>cond (aN i (ByteArray.size s)) (K (.val (.int .u8) ((s.data.getD i.toNat 0).toNat:Int))) none
 |_,_=>none
def gF(a:aX)(H:Nat→Option aQ)(K:(υ:Ty)→υ.den→List Nat→Option α):Option α:=
 match a with
 | .mq τ x=>K τ x []
 | .fc id p=>match H id with
  |some (.obj τ x)=>tt p τ x fun υ y=>K υ y [id]
  |some (.own e l)|some (.jW e l)=>match p with
   | .idx i::p=>tt p e (List.getD l i e.zero) fun υ y=>K υ y [id]
   |_=>none
  |_=>none
 |_=>none
def ia(τ:Ty)(a v:aX)(H:Nat→Option aQ)(K:fh α):Option α:=
 match a with
 | .fc id p=>hQ true v H τ fun y rd ups=>
  match H id with
  |some (.obj υ x)=>p6 τ y p υ x fun z=>K .any (id::rd) (ups++[(id,some (.obj υ z))])
  |some (.own e l)=>match p with
   | .idx i::p=>cond (rd.contains id) none (p6 τ y p e (List.getD l i e.zero) fun z=>K .any (id::rd) (ups++[(id,some (.own e (List.set l i z)))]))
   |_=>none
  |_=>none
 |_=>none
def wJ(j:Nat)(q:List Step)(τ:Ty)(x:τ.den)(H:Nat→Option aQ)(k:τ.den→fg→Option α):Option α:=
 match H j with
 |some (.own e l)=>p6 (.slice e) l q τ x fun z=>k z [(j,some (.jW e l))]
 |some (.jW e l)=>p6 (.slice e) l q τ x fun z=>k z []
 |_=>none
def pT(τ:Ty)(a:aX)(H:Nat→Option aQ)(K:fh α):Option α:=
 let td:=gF a H fun υ y rd=>bX υ τ y fun z=>K (.val τ z) rd []
 match a with
 | .fc id p=>match H id with
  |some (.dN υ x q j)=>cond (Di p q) (cond (eo q υ τ) (K (.ref j) [id] []) none)
   (cond (rI p q) (wJ j q υ x H fun z ups=>tt p υ z fun υ' y=>bX υ' τ y fun y'=>K (.val τ y') [id,j] ups)
    (tt p υ x fun υ' y=>bX υ' τ y fun y'=>K (.val τ y') [id] []))
  |_=>td
 |_=>td
def vJ(τ:Ty)(id k:Nat)(e:Ty)(q:List Step)(υ:Ty)(x:υ.den)(H:Nat→Option aQ)(K:fh α):Option α:=
 match H k with
 |some (.own e' _)=>iT e' e (iT τ (.slice e) (p6 (.slice e) [] q υ x fun z=>K .any [id,k] [(id,some (.dN υ z q k))]))
 |_=>none
def fQ(E:Env)(τ:Ty)(a v:aX)(H:Nat→Option aQ)(K:fh α):Option α:=
 let td:=ia τ a v H K
 match a with
 | .fc id p=>match H id with
  |some (.obj υ x)=>match BI E υ id,v with
   |some (q,e),.ref k=>cond (Di p q) (vJ τ id k e q υ x H K) td
   |_,_=>td
  |some (.dN υ x q j)=>
   let put:=hQ true v H τ fun y rd ups=>p6 τ y p υ x fun z=>K .any (id::rd) (ups++[(id,some (cond (rI p q) (.obj υ z) (.dN υ z q j)))])
   match BI E υ id,v with
   |some (q',e),.ref k=>cond (Di p q&&Di q q') (vJ τ id k e q υ x H K) put
   |_,_=>put
  |_=>td
 |_=>td
def n7(E:Env)(τ:Ty)(a v:aX)(H:Nat→Option aQ)(K:fh α):Option α:=
 match a,v with
 | .fc id [],.BH υ y n=>match BI E υ id with
  |some ([.gk m],e)=>cond (Nat.beq m n) (iT τ υ (iU id [] H fun υ'=>iT υ' υ
   (mu H (id+2) (.own e []) (K .any [id,id+2] [(id,some (.dN υ y [.gk m] (id+2))),(id+2,some (.own e []))])))) (fQ E τ a v H K)
  |_=>fQ E τ a v H K
 |_,_=>fQ E τ a v H K
def wK(H:Nat→Option aQ)(id:Nat)(τ:Ty)(x:τ.den)(q:List Step)(e:Ty)(K:fh α):Option α:=
 mu H id (.obj τ x) (mu H (id+1) (.own e []) (K (.fc id []) [id,id+1] [(id,some (.dN τ x q (id+1))),(id+1,some (.own e []))]))
def P6(E:Env)(ps:List (Nat×aX))(τ:Ty)(x:τ.den):aX:=match lkT E τ with
 |some ([.gk n],_)=>cond (ps.all fun p=> !(Nat.beq p.1 n)) (.BH τ x n) (.val τ x)
 |_=> .val τ x
def partsOf(σρ:Operand→aX)(ps:Array (Nat×Operand)):List (Nat×aX):=ps.toList.map fun p=>(p.1,σρ p.2)
noncomputable def ot(E:Env)(o:Oper)(ρ:Operand→aX)(H:Nat→Option aQ)(K:fh α):Option α:=
 let id:=16*o.dst.getD 0
 match o.op with
 | .move x| .assign x=>K (ρ x) [] []
 | .pick c a b=>match ρ c with
  | .val .bool t=>cond t (K (ρ a) [] []) (K (ρ b) [] [])
  |_=>none
 | .alloc t=>match E.ty t with
  |some τ=>match BI E τ id with
   |some (q,e)=>wK H id τ τ.zero q e K
   |none=>mu H id (.obj τ τ.zero) (K (.fc id []) [id] [(id,some (.obj τ τ.zero))])
  |none=>none
 | .box t x=>match E.ty t with
  |some τ=>
   let td:=hQ true (ρ x) H τ fun y rd ups=>mu H id (.obj τ y) (K (.fc id []) (id::rd) (ups++[(id,some (.obj τ y))]))
   match BI E τ id,ρ x with
   |some ([.gk m],e),.BH υ y n=>cond (Nat.beq m n) (bX υ τ y fun y=>wK H id τ y [.gk m] e K) td
   |_,_=>td
  |none=>none
 | .build t ps=>match E.ty t with
  |some (.arr n e)=>qk e H n (partsOf ρ ps) (List.replicate n e.zero) [] [] fun l rd ups=>K (.val (.arr n e) l) rd ups
  |some τ=>cond τ.isAgg (oX τ H (partsOf ρ ps) τ.zero [] [] fun x rd ups=>K (P6 E (partsOf ρ ps) τ x) rd ups) none
  |none=>none
 | .buildSlice t n ps=>match E.ty t with
  |some (.slice e)=>cond (Nat.ble (n*(e.size+1)) 16777216) (mu H id (.own e []) (qk e H n (partsOf ρ ps) (List.replicate n e.zero) [] [] fun l rd ups=>K (.ref id) (id::rd) (ups++[(id,some (.own e l))]))) none
  |_=>none
 | .load t a=>match E.ty t with
  |some τ=>pT τ (ρ a) H K
  |none=>none
 | .store t a v=>match E.ty t with
  |some τ=>n7 E τ (ρ a) (ρ v) H K
  |none=>none
 | .nilCheck x=>match ρ x with
  | .fc id p=>K (.fc id p) [] []
  | .mq τ x=>K (.mq τ x) [] []
  |_=>none
 | .binOp op t x y _=>Dm (ρ x) fun τ x=>Dm (ρ y) fun υ y=>xP (E.ty t) op τ x υ y fun v=>K v [] []
 | .unOp op _ x=>J8 op (ρ x) fun v=>K v [] []
 | .convert src dst x=>match E.ty src,E.ty dst with
  |some _,some (.int k)=>qi (ρ x) fun _ n=>K (.val (.int k) (W k n)) [] []
  |_,_=>none
 | .makeFunc (.func f) first caps=>cond first.isEmpty (ql H (caps.toList.map ρ) fun cs rd ups=>K (.Dj f cs) rd ups) none
 | .makeSlice t l c=>match E.ty t with
  |some (.slice e)=>qi (ρ l) fun _ l=>qi (ρ c) fun _ c=>cond (fP l c)
    (mu H id (.own e []) (K (.ref id) [id] [(id,some (.own e (List.replicate l.toNat e.zero)))])) none
  |_=>none
 | .slice t x lo hi mx=>match E.ty t with
  |some τ=>mw τ (lo.isNone&&g4 hi&&g4 mx) (ρ x) (lo.map ρ) (hi.map ρ) (mx.map ρ) H K
  |none=>none
 | .fieldAddr t x n=>match E.ty t with
  |some τ=>match ρ x with
   | .fc id p=>iU id p H fun υ=>iT υ τ (rJ τ τ.zero n fun υ' _=>cond (Nat.beq υ'.size 0) none (K (.fc id (p++[.gk n])) [id] []))
   | .mq υ x=>iT υ τ (rJ υ x n fun υ y=>cond (Nat.beq υ.size 0) none (K (.mq υ y) [] []))
   |_=>none
  |none=>none
 | .field t x n=>match E.ty t with
  |some τ=>match ρ x with
   | .val υ x=>iT υ τ (rJ υ x n fun υ y=>K (.val υ y) [] [])
   |_=>none
  |none=>none
 | .indexAddr t x i=>match E.ty t with
  |some τ=>dX τ (ρ x) (ρ i) H K
  |none=>none
 | .index t x i=>match E.ty t with
  |some τ=>qm τ (ρ x) (ρ i) fun v=>K v [] []
  |none=>none
 | .extract t i=>match ρ t with
  | .tup vs=>match vs[i]? with
   |some v=>K v [] []
   |none=>none
  |_=>none
 | .call c=>match c.callee with
  | .builtin .len=>match c.args.toList,(c.argTypes.toList.head?).bind E.ty with
   |[x],some τ=>Dn τ (ρ x) H K
   |_,_=>none
  | .builtin .append=>match c.args.toList,c.argTypes.toList with
   |[x,y],[t,t']=>match E.ty t with
    |some (.slice e)=>cond (Nat.beq t t') (mu H id (.own e []) (Dp id e (ρ x) (ρ y) H K)) none
    |_=>none
   |_,_=>none
  | .builtin .max=>match c.args.toList with
   |x::r=>PF true (ρ x) (r.map ρ) fun v=>K v [] []
   |_=>none
  | .builtin .min=>match c.args.toList with
   |x::r=>PF false (ρ x) (r.map ρ) fun v=>K v [] []
   |_=>none
  | .value g=>match ρ g with
   | .Dj f caps=>vI E f (c.args.toList.map ρ++caps) id H K
   |_=>none
  |_=>none
 |_=>none
noncomputable def ox(E:Env)(ops:List Oper)(o:Oper)(σ:St)(K:St→List Nat→List Nat→Option α):Option α:=
 let run (σ:St):Option α:=ot E o σ.ρ σ.H fun v rd ups=>K ((σ.qh ups).p5 o.dst v) rd (ups.map (·.1))
 cond (Dl E.nt E.io o.dst) (match o.guard with
 |none=>run σ
 |some (j,want)=>match(ops[j]?).bind (·.dst)with
  |none=>none
  |some t=>match σ.T t with
   | .val .bool b=>match want with
    |true=>cond b (run (σ.put t (.val .bool true))) (K ((σ.put t (.val .bool false)).p5 o.dst .Mn) [] [])
    |false=>cond b (K ((σ.put t (.val .bool true)).p5 o.dst .Mn) [] []) (run (σ.put t (.val .bool false)))
   | .Mn=>K (σ.p5 o.dst .Mn) [] []
   |_=>none) none
abbrev Log:=List (Nat×List Nat×List Nat)
noncomputable def J9(E:Env)(ops:List Oper):List Oper→Nat→St→Log→(St→Log→Option α)→Option α
 |[],_,σ,lg,K=>K σ lg
 |o::r,i,σ,lg,K=>ox E ops o σ fun σ' rd wr=>J9 E ops r (i+1) σ' ((i,rd,wr)::lg) K
def n8:List Oper→List Nat→List Nat
 |[],acc=>acc
 |o::r,acc=>n8 r (acc++[o.after.toList.foldl (fun s e=>cond (Region.binds .any e) (s|||2^e.on|||acc.getD e.on 0) s) 0])
def names(ops:List Oper)(o:Oper):List Nat:=
 (o.op.operands.toList.filterMap fun| .tmp t=>some t|_=>none)++
 (match o.guard with
  |some (g,_)=>((ops[g]?).bind (·.dst)).toList
  |none=>[])
def meets(a b:List Nat):Bool:=a.any fun x=>b.any fun y=>Nat.beq x y
def Mo(ops:List Oper):Bool:=
 let b:=n8 ops []
 (ops.zipIdx.all fun(o,j)=>o.after.toList.all fun e=> !(Region.binds .any e)||Nat.blt e.on j)&&
 ops.zipIdx.all fun(o,j)=>ops.zipIdx.all fun(p,i)=>Nat.ble j i||(b.getD j 0).testBit i||
  !(meets p.dst.toList (o.dst.toList++names ops o)||meets o.dst.toList (names ops p))
def Wd(ops:List Oper)(lg:Log):Bool:=
 let b:=n8 ops []
 lg.all fun x=>lg.all fun y=>Nat.ble x.1 y.1||(b.getD x.1 0).testBit y.1||
  !(meets y.2.2 (x.2.1++x.2.2)||meets y.2.1 x.2.2)
noncomputable def xt(E:Env)(ops:Array Oper)(draw:Bool)(σ:St)(K:St→Option α):Option α:=
 J9 E ops.toList ops.toList 0 σ [] fun σ' lg=>cond (!draw||(Mo ops.toList&&Wd ops.toList lg)) (K σ') none
def eD:List (Nat×CM)→St→St→(St→Option α)→Option α
 |[],_,acc,K=>K acc
 |(s,.v τ)::r,σ,acc,K=>hQ true (σ.T s) σ.H τ fun x _ ups=>eD r (σ.qh ups) (acc.put s (.val τ x)) K
 |(s,.own e)::r,σ,acc,K=>match σ.T s with
  | .emp=>eD r σ ((acc.put s (.ref (16*s+14))).gK (16*s+14) (some (.own e []))) K
  | .ref id=>match σ.H id with
   |some (.own e' l)=>bX (.slice e') (.slice e) l fun x=>eD r (σ.gK id (some .gone)) ((acc.put s (.ref (16*s+14))).gK (16*s+14) (some (.own e x))) K
   |_=>none
  |_=>none
 |(s,.obj τ)::r,σ,acc,K=>match σ.T s with
  | .fc id []=>match σ.H id with
   |some (.obj υ x)=>bX υ τ x fun y=>eD r (σ.gK id (some .gone)) ((acc.put s (.fc (16*s+14) [])).gK (16*s+14) (some (.obj τ y))) K
   |some (.dN υ x q j)=>wJ j q υ x σ.H fun z ups=>bX υ τ z fun y=>eD r ((σ.qh ups).gK id (some .gone)) ((acc.put s (.fc (16*s+14) [])).gK (16*s+14) (some (.obj τ y))) K
   |_=>none
  |_=>none
 |(s,.dN τ q e)::r,σ,acc,K=>match σ.T s with
  | .fc id []=>match σ.H id with
   |some (.dN υ x q' j)=>cond (Di q q') (match σ.H j with
    |some (.own e' l)=>bX υ τ x fun y=>bX (.slice e') (.slice e) l fun l=>eD r ((σ.gK j (some .gone)).gK id (some .gone))
     (((acc.put s (.fc (16*s+14) [])).gK (16*s+13) (some (.own e l))).gK (16*s+14) (some (.dN τ y q (16*s+13)))) K
    |_=>none) none
   |_=>none
  |_=>none
 |(s,.same s')::r,σ,acc,K=>match σ.T s,σ.T s',acc.T s' with
  | .ref i,.ref j,.ref j'=>cond (Nat.beq i j) (eD r σ (acc.put s (.ref j')) K) none
  |_,_,_=>none
 |(s,.io τ)::r,σ,acc,K=>match σ.T s with
  | .fc id []=>cond (Nat.beq id (16*s+15)) (match σ.H id with
   |some (.obj υ x)=>bX υ τ x fun y=>eD r (σ.gK id (some .gone)) ((acc.put s (.fc (16*s+15) [])).gK (16*s+15) (some (.obj τ y))) K
   |_=>none) none
  |_=>none
 |(s,.fn f τ)::r,σ,acc,K=>match σ.T s with
  | .Dj f' c=>cond (Nat.beq f f') (mv σ.H τ c fun x _ ups=>match ups with
   |[]=>eD r σ (acc.put s (.Dj f (lA τ x))) K
   |_=>none) none
  |_=>none
def fR:List (Nat×CM)→Bool
 |[]=>true
 |q::r=>r.all (fun p=> !(Nat.beq p.1 q.1))&&fR r
def qn(L:Option (List (Nat×CM)))(σ:St)(K:St→Option α):Option α:=
 match L with
 |none=>K σ
 |some L=>eD L σ ⟨fun _=> .any,fun _=>none⟩ K
def vK(L:Option (List (Nat×CM)))(step:St→(St→Option α)→Option α):Nat→St→Option α
 |0,_=>none
 |n+1,σ=>step σ fun σ'=>qn L σ' (vK L step n)
def bF:Code→Option Nat
 | .region id _ _=>some id
 | .seq a b=>match bF a with
  |some i=>some i
  |none=>bF b
 | .block _ c| .loop c| .scope c=>bF c
 |_=>none
def Aw(E:Env)(c:Operand)(σ:St)(A B:St→Option α):Option α:=
 match σ.ρ c with
 | .val .bool b=>match c with
  | .tmp t=>cond b (A (σ.put t (.val .bool true))) (B (σ.put t (.val .bool false)))
  |_=>cond b (A σ) (B σ)
 |_=>none
noncomputable def xu(E:Env)(c:Code):St→(St→Option α)→(Nat→St→Option α)→(St→Option α)→Option α:=
 Code.rec (motive:=fun _=>St→(St→Option α)→(Nat→St→Option α)→(St→Option α)→Option α)
  (fun σ k _ _=>k σ)
  (fun _ ops draw σ k _ _=>xt E ops draw σ k)
  (fun _ b A B σ k kx kr=>A σ (fun σ'=>qn ((bF b).bind E.rK) σ' fun p7=>B p7 k kx kr) kx kr)
  (fun c _ _ A B σ k kx kr=>Aw E c σ (fun σ'=>A σ' k kx kr) (fun σ'=>B σ' k kx kr))
  (fun id _ A σ k kx kr=>A σ k (fun i σ'=>cond (Nat.beq i id) (k σ') (kx i σ')) kr)
  (fun b A σ _ kx kr=>qn ((bF b).bind E.qj) σ (vK ((bF b).bind E.qj) (fun σ' kn=>A σ' kn kx kr) E.N))
  (fun _ _ _ _ _ _ _ _ _ _=>none)
  (fun id σ _ kx _=>kx id σ)
  (fun _ A σ k kx kr=>A σ k kx kr)
  (fun _ σ k _ _=>k σ)
  (fun _ _ _ _ _=>none)
  (fun σ _ _ kr=>kr σ)
  (fun _ _ _ _ _=>none)
  c
noncomputable def p8(E:Env):List Nat→Code→List (St→Option α)→St→(St→Option α)→(Nat→St→Option α)→(St→Option α)→Option α
 |[],c,_,σ,k,kx,kr=>xu E c σ k kx kr
 |n::p,c,ks,σ,k,kx,kr=>match c with
  | .seq a b=>match n with
   |0=>p8 E p a ks σ (fun σ'=>qn ((bF b).bind E.rK) σ' fun p7=>xu E b p7 k kx kr) kx kr
   |_=>p8 E p b ks σ k kx kr
  | .cond _ a b=>match n with
   |0=>p8 E p a ks σ k kx kr
   |_=>p8 E p b ks σ k kx kr
  | .block id c=>p8 E p c ks σ k (fun i σ'=>cond (Nat.beq i id) (k σ') (kx i σ')) kr
  | .loop b=>match ks with
   |κ::ks=>p8 E p b ks σ κ kx kr
   |[]=>none
  | .scope c=>p8 E p c ks σ k kx kr
  |_=>none
def Hb(m:AM)(x:m.den)(i:Nat)(σ:St):St:=
 match m,x with
 | .v τ,x=>σ.put i (.val τ x)
 | .own e,x=>(σ.put i (.ref (16*i+15))).gK (16*i+15) (some (.own e x))
 | .io τ,x=>(σ.put i (.fc (16*i+15) [])).gK (16*i+15) (some (.obj τ x))
 | .fn f τ,x=>σ.put i (.Dj f (lA τ x))
 | .ptr _,_=>σ
 | .fc τ,x=>σ.put i (.mq τ x)
def entry:(ms:List AM)→HP ms→Nat→St→St
 |[],_,_,σ=>σ
 |[m],x,i,σ=>Hb m x i σ
 |m::n::ms,x,i,σ=>entry (n::ms) x.2 (i+1) (Hb m x.1 i σ)
def Ax(E:Env)(m:AM)(r:ResultVar ⊕ Nat)(σ:St)(K:m.den→St→Option α):Option α:=
 match m,r,K with
 | .v τ,.inl (.tmp t),K=>hQ true (σ.T t) σ.H τ fun x _ ups=>K x (σ.qh ups)
 | .v τ,.inl (.cell a t),K=>match E.ty t with
  |some τ'=>iT τ' τ (gF (σ.T a) σ.H fun υ y _=>bX υ τ y fun x=>K x σ)
  |none=>none
 | .own e,.inl (.tmp t),K=>match σ.T t with
  | .emp=>K [] σ
  | .ref id=>match σ.H id with
   |some (.own e' l)=>bX (.slice e') (.slice e) l fun x=>K x (σ.gK id (some .gone))
   |_=>none
  |_=>none
 | .io τ,.inr i,K=>match σ.T i with
  | .fc id []=>match σ.H id with
   |some (.obj υ x)=>bX υ τ x fun y=>K y (σ.gK id (some .gone))
   |_=>none
  |_=>none
 | .ptr τ,.inl (.tmp t),K=>match σ.T t with
  | .fc id []=>match σ.H id with
   |some (.obj υ x)=>bX υ τ x fun y=>K y (σ.gK id (some .gone))
   |_=>none
  |_=>none
 |_,_,_=>none
def BK(E:Env):(ms:List AM)→List (ResultVar ⊕ Nat)→St→(HP ms→Option α)→Option α
 |[],[],_,K=>K ()
 |[m],[r],σ,K=>Ax E m r σ fun x _=>K x
 |m::n::ms,r::rs,σ,K=>Ax E m r σ fun x σ'=>BK E (n::ms) rs σ' fun xs=>K (x,xs)
 |_,_,_,_=>none
def uY:List AM→Nat→List (ResultVar ⊕ Nat)
 |[],_=>[]
 | .io _::ms,i=> .inr i::uY ms (i+1)
 |_::ms,i=>uY ms (i+1)
noncomputable def C3(E:Env)(fn:Func)(args res:List AM)(x:HP args):Option (HP res):=
 match fn.body with
 |none=>none
 |some c=>
  let kr:St→Option (HP res):=fun σ=>BK E res (fn.results.toList.map .inl++uY args 0) σ some
  xu E c (entry args x 0 ⟨fun _=> .any,fun _=>none⟩) kr (fun _ _=>none) kr
end
end VM
end
section
namespace VM
open Go
noncomputable def rW(N:Nat)(x y c:Int):Option (Int×Int):=if 0≤x∧0≤y∧0≤c∧c≤1 then some ((x+y+c)%18446744073709551616,(x+y+c)/18446744073709551616)else none
noncomputable def Dt(N:Nat)(x y c:Int):Option (Int×Int):=if 0≤x∧x<18446744073709551616∧0≤y∧y<18446744073709551616∧0≤c∧c≤1 then some ((x+18446744073709551616-y-c)%18446744073709551616,if x<y+c then 1 else 0)else none
noncomputable def lG{α:Type}(N:Nat)(l:List α)(i:Int)(v:List α):Option (List α):=if 0≤i∧i≤l.length∧v.length=1∧l.length+1<tp then some (l.take i.toNat++(v++l.drop i.toNat))else none
noncomputable def P7{α:Type}(N:Nat)(l:List α)(n:Int):Option (List α):=match l with
 |[x]=>if 0<n∧n<1048576 then some (List.replicate n.toNat x)else none
 |_=>none
noncomputable def rW.S(N:Nat):gP:={args:=[.v (.int .u64),.v (.int .u64),.v (.int .u64)],res:=[.v (.int .u64),.v (.int .u64)],quiet:=true,run:=fun x=>rW N x.1 x.2.1 x.2.2}
noncomputable def Dt.S(N:Nat):gP:={args:=[.v (.int .u64),.v (.int .u64),.v (.int .u64)],res:=[.v (.int .u64),.v (.int .u64)],quiet:=true,run:=fun x=>Dt N x.1 x.2.1 x.2.2}
noncomputable def g5(e:Ty)(N:Nat):gP:={args:=[.own e,.v (.int .i64),.own e],res:=[.own e],quiet:=false,run:=fun x=>lG N x.1 x.2.1 x.2.2}
noncomputable def agY(e:Ty)(N:Nat):gP:={args:=[.v (.slice e),.v (.int .i64)],res:=[.own e],quiet:=false,run:=fun x=>P7 N x.1 x.2}
noncomputable def ib{α:Type}(N:Nat)(l:List α):Option (List α):=if l.length<tp then some l else none
noncomputable def n9(e:Ty)(N:Nat):gP:={args:=[.v (.slice e)],res:=[.own e],quiet:=false,run:=fun x=>ib N x}
end VM
namespace VM
abbrev bP:Int×Int×Unit:=((0:Int),((0:Int),()))
abbrev a6:List (Int×Int×Unit):=[]
abbrev aW:Int×Int×Int×Unit:=((0:Int),((0:Int),((0:Int),())))
abbrev bc:List (Int×Int×Int×Unit):=[]
abbrev aE:Int×Int×Int×Int×Unit:=((0:Int),((0:Int),((0:Int),((0:Int),()))))
abbrev cn:List (Int×Int×Int×Int×Unit):=[]
abbrev jC:Int×Int×Int×Int×Int×Unit:=((0:Int),((0:Int),((0:Int),((0:Int),((0:Int),())))))
abbrev wL:List (Int×Int×Int×Int×Int×Unit):=[]
abbrev eg:Int×Int×Int×Int×Int×Int×Unit:=((0:Int),((0:Int),((0:Int),((0:Int),((0:Int),((0:Int),()))))))
abbrev cY:List (Int×Int×Int×Int×Int×Int×Unit):=[]
abbrev We:Int×Int×Int×Int×Int×Int×Int×Unit:=((0:Int),((0:Int),((0:Int),((0:Int),((0:Int),((0:Int),((0:Int),())))))))
abbrev ee7:List (Int×Int×Int×Int×Int×Int×Int×Unit):=[]
abbrev zz8:Int×Int×Int×Int×Int×Int×Int×Int×Unit:=((0:Int),((0:Int),((0:Int),((0:Int),((0:Int),((0:Int),((0:Int),((0:Int),()))))))))
abbrev ee8:List (Int×Int×Int×Int×Int×Int×Int×Int×Unit):=[]
abbrev cQ:List Int:=[]
abbrev kX:List Int×Unit:=(cQ,())
end VM
end
section
namespace VM
open Go
def At(w:World)(b off:Nat)(cs:List Value):Prop:= ∀j v,cs[j]? =some v→w.cell? ⟨b,off+j,none⟩=some v
def Rd(w:World)(M:Nat→Prop):(τ:Ty)→List Value→τ.den→Prop
 | .int k,cs,x=>cs=[.int k x]
 | .bool,cs,x=>cs=[.bool x]
 | .str,cs,x=>cs=[.string x]
 | .slice e,cs,x=> ∃a cap,cs=[.slice a (List.length x) cap]∧List.length x≤cap∧
  ∀i (h:i<List.length x),∃b off,a=some ⟨b,off,none⟩∧b<w.heap.size∧ ¬M b∧ ∃cs',At w b (off+i*e.size) cs'∧Rd w M e cs' (List.get x ⟨i,h⟩)
 | .unit,cs,_=>cs=[]
 | .pair a b,cs,x=> ∃c1 c2,cs=c1++c2∧Rd w M a c1 x.1∧Rd w M b c2 x.2
 | .arr n e,cs,x=>List.length x=n∧ ∃Ka:List (List Value),Ka.length=n∧cs=Ka.flatten∧
  ∀i (h:i<List.length x) (h':i<Ka.length),Rd w M e Ka[i] (List.get x ⟨i,h⟩)
theorem kf{α:Type}(n:Nat): ∀(l:List (List α)),(∀i (h:i<l.length),l[i].length=n)→l.flatten.length=l.length*n
 |[],_=>by simp
 |a::l,h=>by
  have h0:=h 0 (by simp)
  have ih:=kf n l (fun i hi=>h (i+1) (by simp;omega))
  simp only[List.getElem_cons_zero]at h0
  simp only[List.flatten_cons,List.length_append,List.length_cons,ih,h0,Nat.add_mul]
  omega
theorem Rd.length{w:World}{M:Nat→Prop}: ∀{τ:Ty} {cs:List Value} {x:τ.den},Rd w M τ cs x→cs.length=τ.size
 | .int _,_,_,h=>by simp only[Rd]at h;subst h;rfl
 | .bool,_,_,h=>by simp only[Rd]at h;subst h;rfl
 | .str,_,_,h=>by simp only[Rd]at h;subst h;rfl
 | .slice _,_,_,h=>by simp only[Rd]at h;obtain⟨a,cap,rfl,_⟩:=h;rfl
 | .unit,_,_,h=>by simp only[Rd]at h;subst h;rfl
 | .pair a b,_,_,h=>by
  simp only[Rd]at h
  obtain⟨c1,c2,rfl,h1,h2⟩:=h
  rw[List.length_append,h1.length,h2.length];rfl
 | .arr n e,_,x,h=>by
  simp only[Rd]at h
  obtain⟨hn,Ka,hc,rfl,hr⟩:=h
  rw[kf e.size Ka (fun i hi=>(hr i (by omega) hi).length),hc];rfl
structure da(w:World)(M:Nat→Prop)(w':World)(M':Nat→Prop):Prop where
 size:w.heap.size≤w'.heap.size
 block: ∀b,b<w.heap.size→ ¬M b→w'.heap[b]? =w.heap[b]?
 less: ∀b,b<w.heap.size→M' b→M b
theorem Xn{w:World}{b o:Nat}{v:Value}(h:w.cell? ⟨b,o,none⟩=some v):b<w.heap.size:=by
 simp only[World.cell?]at h
 rcases Nat.lt_or_ge b w.heap.size with hb|hb
 ·exact hb
 ·simp[Array.getElem?_eq_none hb]at h
theorem At.br{w w':World}{b off:Nat}{cs:List Value}(h:At w b off cs)(hb:w'.heap[b]? =w.heap[b]?):At w' b off cs:=by
 intro j v hj
 have:=h j v hj
 rw[World.cell?_of_block (w:=w) hb]
 exact this
theorem At.append{w:World}{b off:Nat}{c1 c2:List Value}:At w b off (c1++c2)↔At w b off c1∧At w b (off+c1.length) c2:=by
 constructor
 ·intro h
  refine⟨fun j v hj=>h j v (by rw[List.getElem?_append_left];exact hj;exact(List.getElem?_eq_some_iff.1 hj).1),fun j v hj=> ?_⟩
  have:=h (c1.length+j) v (by rw[List.getElem?_append_right (by omega)];simpa using hj)
  rw[Nat.add_assoc];exact this
 ·rintro⟨h1,h2⟩ j v hj
  by_cases dE:j<c1.length
  ·rw[List.getElem?_append_left dE]at hj;exact h1 j v hj
  ·rw[List.getElem?_append_right (by omega)]at hj
   have:=h2 (j-c1.length) v hj
   rwa [show off+c1.length+(j-c1.length)=off+j from by omega]at this
theorem Rd.br{w w':World}{M M':Nat→Prop}(k:da w M w' M'): ∀{τ:Ty} {cs:List Value} {x:τ.den},Rd w M τ cs x→Rd w' M' τ cs x
 | .int _,_,_,h=>h
 | .bool,_,_,h=>h
 | .str,_,_,h=>h
 | .slice e,_,x,h=>by
  simp only[Rd]at h ⊢
  obtain⟨a,cap,rfl,hc,hr⟩:=h
  refine⟨a,cap,rfl,hc,fun i hi=> ?_⟩
  obtain⟨b,off,ha,hb,hm,cs',lH,gG⟩:=hr i hi
  exact⟨b,off,ha,Nat.lt_of_lt_of_le hb k.size,fun h'=>hm (k.less b hb h'),_,lH.br (k.block b hb hm),gG.br k⟩
 | .unit,_,_,h=>h
 | .pair a b,_,_,h=>by
  simp only[Rd]at h ⊢
  obtain⟨c1,c2,rfl,h1,h2⟩:=h
  exact⟨c1,c2,rfl,h1.br k,h2.br k⟩
 | .arr n e,_,x,h=>by
  simp only[Rd]at h ⊢
  obtain⟨hn,Ka,hc,rfl,hr⟩:=h
  exact⟨hn,Ka,hc,rfl,fun i hi kg=>(hr i hi kg).br k⟩
theorem da.refl(w:World)(M:Nat→Prop):da w M w M:=⟨Nat.le_refl _,fun _ _ _=>rfl,fun _ _ h=>h⟩
theorem da.trans{w w' w'':World}{M M' GG:Nat→Prop}(h:da w M w' M')(k:da w' M' w'' GG):da w M w'' GG:=
 ⟨Nat.le_trans h.size k.size,fun b hb hm=>(k.block b (Nat.lt_of_lt_of_le hb h.size) (fun h'=>hm (h.less b hb h'))).trans (h.block b hb hm),
  fun b hb hm=>h.less b hb (k.less b (Nat.lt_of_lt_of_le hb h.size) hm)⟩
def V(w:World)(M:Nat→Prop)(τ:Ty)(v:Value)(x:τ.den):Prop:=
 if τ.isAgg then ∃cs,v= .agg cs∧Rd w M τ cs.toList x else Rd w M τ [v] x
theorem V.br{w w':World}{M M':Nat→Prop}(k:da w M w' M'){τ:Ty}{v:Value}{x:τ.den}(h:V w M τ v x):V w' M' τ v x:=by
 unfold V at*
 split
 ·rename_i ha;rw[if_pos ha]at h;obtain⟨cs,rfl,h⟩:=h;exact⟨cs,rfl,h.br k⟩
 ·rename_i ha;rw[if_neg ha]at h;exact h.br k
theorem Rd.scalar{w:World}{M:Nat→Prop}{τ:Ty}{cs:List Value}{x:τ.den}(ha:τ.isAgg=false)(h:Rd w M τ cs x): ∃v,cs=[v]∧v.cells= #[v]:=by
 cases τ<;>simp only[Ty.isAgg,Bool.true_eq_false]at ha<;>simp only[Rd]at h
 ·exact⟨_,h,rfl⟩
 ·exact⟨_,h,rfl⟩
 ·exact⟨_,h,rfl⟩
 ·obtain⟨a,cap,rfl,_⟩:=h;exact⟨_,rfl,rfl⟩
theorem V.cells{w:World}{M:Nat→Prop}{τ:Ty}{v:Value}{x:τ.den}(h:V w M τ v x):Rd w M τ v.cells.toList x:=by
 unfold V at h
 by_cases ha:τ.isAgg=true
 ·rw[if_pos ha]at h;obtain⟨cs,rfl,h⟩:=h;exact h
 ·rw[if_neg ha]at h
  obtain⟨v',hv,hc⟩:=h.scalar (by simpa using ha)
  simp only[List.cons.injEq,and_true]at hv
  subst hv
  rw[hc];exact h
def bE(τ:Ty)(cs:List Value):Value:=if τ.isAgg then .agg cs.toArray else cs.headD (.tuple #[])
theorem V.bE{w:World}{M:Nat→Prop}{τ:Ty}{cs:List Value}{x:τ.den}(h:Rd w M τ cs x):V w M τ (bE τ cs) x:=by
 unfold V VM.bE
 by_cases ha:τ.isAgg=true
 ·rw[if_pos ha,if_pos ha];exact⟨_,rfl,by simpa using h⟩
 ·rw[if_neg ha,if_neg ha]
  obtain⟨v',rfl,_⟩:=h.scalar (by simpa using ha)
  exact h
theorem zS{w:World}{M:Nat→Prop}{τ:Ty}{cs:List Value}{x:τ.den}(h:Rd w M τ cs x):(bE τ cs).cells.toList=cs:=by
 unfold VM.bE
 by_cases ha:τ.isAgg=true
 ·rw[if_pos ha];simp[Value.cells]
 ·rw[if_neg ha]
  obtain⟨v',rfl,hc⟩:=h.scalar (by simpa using ha)
  simp[hc]
theorem Rd.jX{w:World}{M:Nat→Prop}: ∀{τ:Ty} {cs:List Value} {x:τ.den},Rd w M τ cs x→ ∀v∈cs,v.oneCell'=true
 | .int _,_,_,h=>by simp only[Rd]at h;subst h;simp[Value.oneCell']
 | .bool,_,_,h=>by simp only[Rd]at h;subst h;simp[Value.oneCell']
 | .str,_,_,h=>by simp only[Rd]at h;subst h;simp[Value.oneCell']
 | .slice _,_,_,h=>by simp only[Rd]at h;obtain⟨a,cap,rfl,_⟩:=h;simp[Value.oneCell']
 | .unit,_,_,h=>by simp only[Rd]at h;subst h;simp
 | .pair a b,_,_,h=>by
  simp only[Rd]at h
  obtain⟨c1,c2,rfl,h1,h2⟩:=h
  intro v hv
  rcases List.mem_append.1 hv with hv|hv
  ·exact h1.jX v hv
  ·exact h2.jX v hv
 | .arr n e,_,x,h=>by
  simp only[Rd]at h
  obtain⟨hn,Ka,hc,rfl,hr⟩:=h
  intro v hv
  obtain⟨l,hl,hvl⟩:=List.mem_flatten.1 hv
  obtain⟨i,hi,rfl⟩:=List.mem_iff_getElem.1 hl
  exact(hr i (by omega) hi).jX v hvl
def Ty.b7:Ty→List Value
 | .int k=>[.int k 0]
 | .bool=>[.bool false]
 | .str=>[.string ByteArray.empty]
 | .slice _=>[.slice none 0 0]
 | .unit=>[]
 | .pair a b=>a.b7++b.b7
 | .arr n e=>(List.replicate n e.b7).flatten
theorem Rd.zero(w:World)(M:Nat→Prop): ∀(τ:Ty),Rd w M τ τ.b7 τ.zero
 | .int _| .bool| .str| .unit=>by simp[Rd,Ty.b7,Ty.zero]
 | .slice _=>by
  simp only[Rd,Ty.b7,Ty.zero]
  exact⟨none,0,rfl,Nat.le_refl _,fun i h=>absurd h (by simp)⟩
 | .pair a b=>by
  simp only[Rd,Ty.b7,Ty.zero]
  exact⟨_,_,rfl,Rd.zero w M a,Rd.zero w M b⟩
 | .arr n e=>by
  simp only[Rd,Ty.b7,Ty.zero]
  refine⟨by simp,_,by simp,rfl,fun i h h'=> ?_⟩
  simp only[List.getElem_replicate,List.get_eq_getElem]
  exact Rd.zero w M e
end VM
end
section
namespace VM
open Go
def BL(P:Program)(τ:Ty)(t:TypeId):Prop:=
 ∃i,P.info? t=some i∧i.size=τ.size∧i.zero=some (bE τ τ.b7)∧i.bytes≤2048
def dB(P:Program):Ty→TypeId ⊕ (Array Field×Nat×Nat)→Prop
 | .int k,.inl t=>BL P (.int k) t∧P.underlying t=some (.int k)
 | .bool,.inl t=>BL P .bool t∧P.underlying t=some .bool
 | .str,.inl t=>BL P .str t∧P.underlying t=some .string
 | .slice e,.inl t=>BL P (.slice e) t∧ ∃e',P.underlying t=some (.slice e')∧dB P e (.inl e')
 | .arr n e,.inl t=>BL P (.arr n e) t∧ ∃e',P.underlying t=some (.array n e')∧dB P e (.inl e')
 | .unit,.inl t=>BL P .unit t∧ ∃fs,P.underlying t=some (.struct fs)∧fs.size=0
 | .unit,.inr (fs,n,_)=>fs.size=n
 | .pair a b,.inl t=>BL P (.pair a b) t∧ ∃fs f,P.underlying t=some (.struct fs)∧fs[0]? =some f∧f.offset=0∧dB P a (.inl f.type)∧dB P b (.inr (fs,1,a.size))
 | .pair a b,.inr (fs,n,off)=> ∃f,fs[n]? =some f∧f.offset=off∧dB P a (.inl f.type)∧dB P b (.inr (fs,n+1,off+a.size))
 |_,.inr _=>False
def gl(P:Program)(τ:Ty)(t:TypeId):Prop:=dB P τ (.inl t)
theorem gl.base{P:Program}{τ:Ty}{t:TypeId}(h:gl P τ t):BL P τ t:=by
 unfold gl at h;cases τ<;>simp only[dB]at h<;>exact h.1
theorem gl.int{P:Program}{k:IntKind}{t:TypeId}(h:gl P (.int k) t):P.underlying t=some (.int k):=by simp only[gl,dB]at h;exact h.2
theorem gl.bool{P:Program}{t:TypeId}(h:gl P .bool t):P.underlying t=some .bool:=by simp only[gl,dB]at h;exact h.2
theorem gl.str{P:Program}{t:TypeId}(h:gl P .str t):P.underlying t=some .string:=by simp only[gl,dB]at h;exact h.2
theorem gl.slice{P:Program}{e:Ty}{t:TypeId}(h:gl P (.slice e) t): ∃e',P.underlying t=some (.slice e')∧gl P e e':=by simp only[gl,dB]at h;exact h.2
theorem gl.arr{P:Program}{n:Nat}{e:Ty}{t:TypeId}(h:gl P (.arr n e) t): ∃e',P.underlying t=some (.array n e')∧gl P e e':=by simp only[gl,dB]at h;exact h.2
theorem gl.isSome{P:Program}{τ:Ty}{t:TypeId}(h:gl P τ t):(P.underlying t).isSome=true:=by
 unfold gl at h
 cases τ<;>simp only[dB]at h
 ·simp[h.2]
 ·simp[h.2]
 ·simp[h.2]
 ·obtain⟨_,e',h',_⟩:=h;simp[h']
 ·obtain⟨_,e',h',_⟩:=h;simp[h']
 ·obtain⟨_,e',f,h',_⟩:=h;simp[h']
 ·obtain⟨_,e',h',_⟩:=h;simp[h']
inductive wM:(τ:Ty)→τ.den→Nat→(υ:Ty)→υ.den→Nat→Prop where
 |here {a b:Ty} (x:(Ty.pair a b).den):wM (.pair a b) x 0 a x.1 0
 |there {a b:Ty} (x:(Ty.pair a b).den) {n:Nat} {υ:Ty} {y:υ.den} {o:Nat} (h:wM b x.2 n υ y o):wM (.pair a b) x (n+1) υ y (a.size+o)
theorem oy{α:Type}{r:α}: ∀{τ:Ty} {x:τ.den} {n:Nat} {k:(υ:Ty)→υ.den→Option α},rJ τ x n k=some r→ ∃υ y o,wM τ x n υ y o∧k υ y=some r
 | .pair a b,x,0,k,h=>⟨a,x.1,0,.here x,h⟩
 | .pair a b,x,n+1,k,h=>by
  obtain⟨υ,y,o,hf,hk⟩:=oy (τ:=b) (x:=x.2) (n:=n) (k:=k) h
  exact⟨υ,y,_,.there x hf,hk⟩
 | .int _,_,_,_,h| .bool,_,_,_,h| .str,_,_,_,h| .slice _,_,_,_,h| .unit,_,_,_,h| .arr _ _,_,_,_,h=>by simp[rJ]at h
theorem wM.bound{τ:Ty}{x:τ.den}{n:Nat}{υ:Ty}{y:υ.den}{o:Nat}(h:wM τ x n υ y o):o+υ.size≤τ.size:=by
 induction h with
 |here x=>simp[Ty.size]
 |there x h ih=>simp only[Ty.size];omega
theorem wM.rd{w:World}{M:Nat→Prop}{τ:Ty}{x:τ.den}{n:Nat}{υ:Ty}{y:υ.den}{o:Nat}(h:wM τ x n υ y o):
  ∀{cs:List Value},Rd w M τ cs x→Rd w M υ ((cs.drop o).take υ.size) y:=by
 induction h with
 |here x=>
  intro cs hr
  simp only[Rd]at hr
  obtain⟨c1,c2,rfl,h1,_⟩:=hr
  rw[List.drop_zero,List.take_left' h1.length];exact h1
 |there x h ih=>
  intro cs hr
  simp only[Rd]at hr
  obtain⟨c1,c2,rfl,h1,h2⟩:=hr
  rw[←List.drop_drop,List.drop_left' h1.length]
  exact ih h2
theorem dB.gk{P:Program}{τ:Ty}{x:τ.den}{m:Nat}{υ:Ty}{y:υ.den}{o:Nat}(h:wM τ x m υ y o):
  ∀{fs:Array Field} {n off:Nat},dB P τ (.inr (fs,n,off))→ ∃f,fs[n+m]? =some f∧f.offset=off+o∧gl P υ f.type:=by
 induction h with
 |here x=>
  intro fs n off hl
  simp only[dB]at hl
  obtain⟨f,hf,ho,ha,_⟩:=hl
  exact⟨f,hf,by simpa using ho,ha⟩
 |there x h ih=>
  intro fs n off hl
  simp only[dB]at hl
  obtain⟨f,hf,ho,_,hb⟩:=hl
  obtain⟨f',wN,ho',C5⟩:=ih hb
  exact⟨f',by rw[←wN];congr 1;omega,by omega,C5⟩
theorem gl.gk{P:Program}{τ:Ty}{t:TypeId}{x:τ.den}{m:Nat}{υ:Ty}{y:υ.den}{o:Nat}(hl:gl P τ t)(h:wM τ x m υ y o):
  ∃fs f,P.underlying t=some (.struct fs)∧fs[m]? =some f∧f.offset=o∧gl P υ f.type:=by
 unfold gl at hl
 cases h with
 |here x=>
  simp only[dB]at hl
  obtain⟨_,fs,f,hu,hf,ho,ha,_⟩:=hl
  exact⟨fs,f,hu,hf,ho,ha⟩
 |there x h=>
  simp only[dB]at hl
  obtain⟨_,fs,f,hu,hf,ho,_,hb⟩:=hl
  obtain⟨f',wN,ho',C5⟩:=dB.gk h hb
  exact⟨fs,f',hu,by rw[←wN];congr 1;omega,by omega,C5⟩
inductive BM:List Step→(τ:Ty)→τ.den→(υ:Ty)→υ.den→Nat→Prop where
 |nil {τ:Ty} (x:τ.den):BM [] τ x τ x 0
 |gk {p:List Step} {τ υ σ:Ty} {x:τ.den} {n o:Nat} {y:υ.den} {z:σ.den} {q:Nat} (h:wM τ x n υ y o) (r:BM p υ y σ z q):BM (.gk n::p) τ x σ z (o+q)
 |idx {p:List Step} {n:Nat} {e σ:Ty} {x:(Ty.arr n e).den} {i:Nat} {z:σ.den} {q:Nat} (r:BM p e (List.getD x i e.zero) σ z q):BM (.idx i::p) (.arr n e) x σ z (i*e.size+q)
theorem fT{α:Type}{r:α}: ∀{p:List Step} {τ:Ty} {x:τ.den} {k:(υ:Ty)→υ.den→Option α},tt p τ x k=some r→ ∃υ y o,BM p τ x υ y o∧k υ y=some r
 |[],τ,x,k,h=>⟨τ,x,0,.nil x,h⟩
 | .gk n::p,τ,x,k,h=>by
  obtain⟨υ,y,o,hf,h'⟩:=oy (h:rJ τ x n _=some r)
  obtain⟨σ,z,q,hp,hk⟩:=fT h'
  exact⟨σ,z,_,.gk hf hp,hk⟩
 | .idx i::p,τ,x,k,h=>by
  cases τ with
  |arr n e=>
   obtain⟨σ,z,q,hp,hk⟩:=fT (p:=p) (τ:=e) (x:=List.getD x i e.zero) (k:=k) h
   exact⟨σ,z,_,.idx hp,hk⟩
  |_=>simp[tt,Xm]at h
def p9:Ty→Nat→Ty
 | .pair a b,n=>match n with|0=>a|n+1=>p9 b n
 |τ,_=>τ
def nq:Ty→Nat→Nat
 | .pair a b,n=>match n with|0=>0|n+1=>a.size+nq b n
 |_,_=>0
def Xo:Ty→Ty
 | .arr _ e=>e
 |τ=>τ
def zT:List Step→Ty→Ty
 |[],τ=>τ
 | .gk n::p,τ=>zT p (p9 τ n)
 | .idx _::p,τ=>zT p (Xo τ)
def bB:List Step→Ty→Nat
 |[],_=>0
 | .gk n::p,τ=>nq τ n+bB p (p9 τ n)
 | .idx i::p,τ=>i*(Xo τ).size+bB p (Xo τ)
def rL:List Step→Ty→Prop
 |[],_=>True
 | .gk n::p,τ=>rL p (p9 τ n)
 | .idx i::p,τ=>(∃n e,τ= .arr n e∧i<n)∧rL p (Xo τ)
theorem wM.eq{τ:Ty}{x:τ.den}{n:Nat}{υ:Ty}{y:υ.den}{o:Nat}(h:wM τ x n υ y o):υ=p9 τ n∧o=nq τ n:=by
 induction h with
 |here x=>exact⟨rfl,rfl⟩
 |there x h ih=>obtain⟨rfl,rfl⟩:=ih;exact⟨rfl,rfl⟩
theorem BM.eq{p:List Step}{τ:Ty}{x:τ.den}{υ:Ty}{y:υ.den}{o:Nat}(h:BM p τ x υ y o):υ=zT p τ∧o=bB p τ:=by
 induction h with
 |nil x=>exact⟨rfl,rfl⟩
 |gk h r ih=>
  obtain⟨h1,h2⟩:=h.eq
  obtain⟨h3,h4⟩:=ih
  subst h1 h2 h3 h4
  exact⟨rfl,rfl⟩
 |idx r ih=>
  obtain⟨h3,h4⟩:=ih
  subst h3 h4
  exact⟨rfl,rfl⟩
theorem Xp(p q:List Step): ∀τ,zT (p++q) τ=zT q (zT p τ):=by
 induction p with
 |nil=>intro τ;rfl
 |cons s p ih=>intro τ;cases s<;>simp[zT,ih]
theorem nE(p q:List Step): ∀τ,bB (p++q) τ=bB p τ+bB q (zT p τ):=by
 induction p with
 |nil=>intro τ;simp[bB,zT]
 |cons s p ih=>intro τ;cases s<;>simp[bB,zT,ih,Nat.add_assoc]
theorem nF(p q:List Step): ∀τ,rL (p++q) τ↔rL p τ∧rL q (zT p τ):=by
 induction p with
 |nil=>intro τ;simp[rL,zT]
 |cons s p ih=>intro τ;cases s<;>simp[rL,zT,ih,and_assoc]
theorem gm{α:Type}(l:List α)(i:Nat)(d:α)(h:i<l.length):l.getD i d=l[i]:=by simp[List.getD,List.getElem?_eq_getElem h]
theorem tu{α:Type}(n:Nat): ∀(l:List (List α)) (i:Nat) (h:i<l.length),(∀j (hj:j<l.length),l[j].length=n)→(l.flatten.drop (i*n)).take n=l[i]
 |a::l,0,_,hn=>by
  have:=hn 0 (by simp)
  simp only[List.getElem_cons_zero]at this
  simp[←this]
 |a::l,i+1,h,hn=>by
  have h0:=hn 0 (by simp)
  simp only[List.getElem_cons_zero]at h0
  rw[List.flatten_cons,Nat.add_mul,Nat.one_mul,Nat.add_comm (i*n) n,←List.drop_drop,List.drop_left' h0]
  exact tu n l i (by simpa using h) (fun j hj=>hn (j+1) (by simp;omega))
theorem Rd.idx{w:World}{M:Nat→Prop}{n:Nat}{e:Ty}{cs:List Value}{x:(Ty.arr n e).den}(h:Rd w M (.arr n e) cs x){i:Nat}(hi:i<n):
  Rd w M e ((cs.drop (i*e.size)).take e.size) (List.getD x i e.zero):=by
 simp only[Rd]at h
 obtain⟨hn,Ka,hc,rfl,hr⟩:=h
 rw[tu e.size Ka i (by omega) (fun j hj=>(hr j (by omega) hj).length),gm x i e.zero (by omega)]
 exact hr i (by omega) (by omega)
theorem BM.bound{p:List Step}{τ:Ty}{x:τ.den}{υ:Ty}{y:υ.den}{o:Nat}(h:BM p τ x υ y o):rL p τ→o+υ.size≤τ.size:=by
 induction h with
 |nil x=>intro _;simp
 |gk h r ih=>
  intro hi
  obtain⟨h1,h2⟩:=h.eq
  subst h1
  have:=ih hi
  have:=h.bound
  omega
 | @idx p n e σ x i z q r ih=>
  intro hi
  obtain⟨⟨n',e',he,jr⟩,kg⟩:=hi
  cases he
  have:=ih kg
  have h2:(i+1)*e.size≤n*e.size:=Nat.mul_le_mul_right _ jr
  rw[Nat.add_mul]at h2
  simp only[Ty.size]
  omega
theorem BM.rd{w:World}{M:Nat→Prop}{p:List Step}{τ:Ty}{x:τ.den}{υ:Ty}{y:υ.den}{o:Nat}(h:BM p τ x υ y o):
  rL p τ→ ∀{cs:List Value},Rd w M τ cs x→Rd w M υ ((cs.drop o).take υ.size) y:=by
 induction h with
 |nil x=>intro _ cs hr;rw[List.drop_zero,List.take_of_length_le (by rw[hr.length];exact Nat.le_refl _)];exact hr
 |gk h r ih=>
  intro hi cs hr
  obtain⟨h1,h2⟩:=h.eq
  subst h1
  have:=ih hi (h.rd hr)
  have hb:=BM.bound r hi
  rw[List.drop_take,List.drop_drop,List.take_take,Nat.min_eq_left (by omega)]at this
  exact this
 | @idx p n e σ x i z q r ih=>
  intro hi cs hr
  obtain⟨⟨n',e',he,jr⟩,kg⟩:=hi
  cases he
  have:=ih kg (hr.idx jr)
  have hb:=BM.bound r kg
  rw[List.drop_take,List.drop_drop,List.take_take,Nat.min_eq_left (by omega)]at this
  exact this
def dd{α:Type}(cs:List α)(o:Nat)(new:List α):List α:=cs.take o++new++cs.drop (o+new.length)
theorem tv{α:Type}{a b:List α}{o:Nat}{new:List α}(h:o+new.length≤a.length):dd (a++b) o new=dd a o new++b:=by
 unfold dd
 rw[List.take_append_of_le_length (by omega),List.drop_append_of_le_length (by omega)]
 simp only[List.append_assoc]
theorem q7{α:Type}{a b:List α}{o:Nat}{new:List α}:dd (a++b) (a.length+o) new=a++dd b o new:=by
 unfold dd
 rw[List.take_append,List.take_of_length_le (by omega),Nat.add_sub_cancel_left,Nat.add_assoc,List.drop_append,List.drop_of_length_le (by omega),Nat.add_sub_cancel_left]
 simp
theorem dY{α:Type}{a:List α}{o:Nat}{new:List α}(h:o+new.length≤a.length):(dd a o new).length=a.length:=by
 unfold dd;simp;omega
theorem BN{α:Type}{a:List α}{o i n:Nat}{new:List α}(h:i+n≤o∨o+new.length≤i)(hl:o+new.length≤a.length):((dd a o new).drop i).take n=(a.drop i).take n:=by
 apply List.ext_getElem?
 intro j
 simp only[List.getElem?_take,List.getElem?_drop]
 split
 ·rename_i hj
  unfold dd
  rcases h with h|h
  ·rw[List.append_assoc,List.getElem?_append_left (by simp;omega),List.getElem?_take,if_pos (by omega)]
  ·rw[List.getElem?_append_right (by simp;omega)]
   simp only[List.length_append,List.length_take,Nat.min_eq_left (show o≤a.length by omega),List.getElem?_drop]
   congr 1;omega
 ·rfl
theorem Xq{α:Type}{a:List α}{o:Nat}{new:List α}(hl:o+new.length≤a.length):((dd a o new).drop o).take new.length=new:=by
 unfold dd
 rw[List.append_assoc,List.drop_left' (by simp;omega),List.take_left' rfl]
theorem Du{α:Type}{l:List α}{o:Nat}{u:α}(h:l[o]? =some u):dd l o [u]=l:=by
 obtain⟨dE,rfl⟩:=List.getElem?_eq_some_iff.1 h
 unfold dd
 simp
theorem xv{α:Type}{l:List α}{o:Nat}{u:α}(h:o<l.length):(dd l o [u])[o]? =some u:=by
 unfold dd
 rw[List.append_assoc,List.getElem?_append_right (by simp;omega)]
 simp[Nat.min_eq_left (Nat.le_of_lt h)]
theorem oz{τ:Ty}: ∀{n:Nat} {a:Ty},BG τ n=some a→ ∀x:τ.den,∃y o,wM τ x n a y o:=by
 induction τ with
 |pair a b _ Mp=>
  intro n c h x
  cases n with
  |zero=>cases h;exact⟨_,_,.here x⟩
  |succ n=>
   obtain⟨y,o,hf⟩:=Mp (n:=n) (a:=c) h x.2
   exact⟨y,_,.there x hf⟩
 |_=>intro n c h;simp[BG]at h
theorem oA: ∀{p:List Step} {τ υ:Ty},eo p τ υ=true→ ∀x:τ.den,∃y o,BM p τ x υ y o
 |[],τ,υ,h,x=>by
  have h:=of_decide_eq_true h
  subst h
  exact⟨x,0,.nil x⟩
 | .gk n::p,τ,υ,h,x=>by
  unfold eo at h
  split at h
  ·rename_i a ha
   obtain⟨y,o,hf⟩:=oz ha x
   obtain⟨z,q,hp⟩:=oA h y
   exact⟨z,_,.gk hf hp⟩
  ·cases h
 | .idx _::_,_,_,h,_=>by simp[eo]at h
theorem gn: ∀{p:List Step} {τ υ:Ty},eo p τ υ=true→rL p τ∧zT p τ=υ
 |[],τ,υ,h=>⟨trivial,of_decide_eq_true h⟩
 | .gk n::p,τ,υ,h=>by
  have h0:=h
  unfold eo at h
  split at h
  ·rename_i a ha
   obtain⟨y,o,hf⟩:=oz ha τ.zero
   obtain⟨h1,h2⟩:=gn h
   have:=hf.eq.1
   subst this
   exact⟨h1,h2⟩
  ·cases h
 | .idx _::_,_,_,h=>by simp[eo]at h
theorem uZ: ∀{p q:List Step},Di p q=true→p=q
 |[],[],_=>rfl
 | .gk a::p,.gk b::q,h=>by
  simp only[Di,Bool.and_eq_true]at h
  rw[Nat.eq_of_beq_eq_true h.1,uZ h.2]
 |[],_::_,h| .gk _::_,[],h| .idx _::_,_,h| .gk _::_,.idx _::_,h=>by simp[Di]at h
theorem wM.apart{τ:Ty}{x:τ.den}{n:Nat}{υ:Ty}{y:υ.den}{o:Nat}(h:wM τ x n υ y o): ∀{x':τ.den} {n':Nat} {υ':Ty} {y':υ'.den} {o':Nat},wM τ x' n' υ' y' o'→n≠n'→o+υ.size≤o'∨o'+υ'.size≤o:=by
 induction h with
 |here x=>
  intro x' n' υ' y' o' h' gH
  cases h' with
  |here=>exact absurd rfl gH
  |there _ h'=>left;omega
 |there x h ih=>
  intro x' n' υ' y' o' h' gH
  cases h' with
  |here=>right;omega
  |there _ h'=>rcases ih h' (fun e=>gH (by rw[e]))with h1|h1<;>omega
theorem BM.apart{p:List Step}{τ:Ty}{x:τ.den}{υ:Ty}{y:υ.den}{o:Nat}(h:BM p τ x υ y o):rL p τ→ ∀{q:List Step} {e:Ty},eo q τ (.slice e)=true→rI p q=false→bB q τ<o∨o+υ.size≤bB q τ:=by
 induction h with
 |nil x=>intro _ q e _ h;simp[rI]at h
 | @gk p τ υ σ x n o y z q hf r ih=>
  intro hi q' e hq hp
  obtain⟨h1,h2⟩:=hf.eq
  subst h1 h2
  cases q' with
  |nil=>
   have:=of_decide_eq_true hq
   subst this
   cases hf
  |cons s q'=>
   cases s with
   |idx i=>simp[eo]at hq
   |gk m=>
    unfold eo at hq
    split at hq
    ·rename_i a ha
     obtain⟨y',o',wN⟩:=oz ha x
     obtain⟨h3,h4⟩:=wN.eq
     subst h3 h4
     have hb:=r.bound hi
     obtain⟨h5,h6⟩:=gn hq
     obtain⟨z',o2,I0⟩:=oA hq y'
     have dv:=I0.bound h5
     have ho2:=I0.eq.2
     subst ho2
     simp only[bB]
     by_cases hnm:n=m
     ·subst hnm
      have Dv:rI p q'=false:=by
       simp only[rI,Bool.and_eq_false_iff]at hp
       rcases hp with hp|hp
       ·rw[Nat.beq_refl]at hp;cases hp
       ·exact hp
      rcases ih hi hq Dv with h7|h7<;>omega
     ·rcases hf.apart wN hnm with h7|h7
      ·right;omega
      ·left
       have:1≤(Ty.slice e).size:=Nat.le_refl _
       omega
    ·cases hq
 | @idx p n e' σ x i z q r ih=>
  intro hi q' e hq hp
  cases q' with
  |nil=>have:=of_decide_eq_true hq;cases this
  |cons s q'=>
   cases s with
   |idx i=>simp[eo]at hq
   |gk m=>simp[eo,BG]at hq
def eh:Value→Option Nat
 | .pointer (some a)=>some a.block
 | .slice (some a) _ cap=>if cap=0 then none else some a.block
 |_=>none
def aQ.mut:aQ→Prop
 | .obj _ _| .own _ _| .dN _ _ _ _=>True
 |_=>False
def ER(w:World)(M:Nat→Prop)(v:Value):aQ→Prop
 | .obj τ x=> ∃b cs t,v= .pointer (some ⟨b,0,none⟩)∧w.heap[b]? =some (.cells cs t (0,0))∧M b∧Rd w M τ cs.toList x
 | .dN τ x p _=> ∃b cs t nG u,v= .pointer (some ⟨b,0,none⟩)∧w.heap[b]? =some (.cells cs t (0,0))∧M b∧Rd w M τ nG x∧cs.toList=dd nG (bB p τ) [u]∧u.oneCell'=true∧ ∃e,eo p τ (.slice e)=true
 | .own e l=>(l=[]∧ ∃a,v= .slice a 0 0)∨
  ∃b cs t cap,v= .slice (some ⟨b,0,none⟩) l.length cap∧w.heap[b]? =some (.cells cs t (0,0))∧M b∧0<cap∧l.length≤cap∧cap≤maxLen∧cs.size=cap*e.size∧
   ∀i (h:i<l.length),Rd w M e ((cs.toList.drop (i*e.size)).take e.size) l[i]
 | .jW e l=>Rd w M (.slice e) [v] l∧((l=[]∧ ∃a n c,v= .slice a n c)∨ ∃b n c,v= .slice (some ⟨b,0,none⟩) n c)
 | .gone=>True
def AR(v:Value)(p:List Step)(u:Value):aQ→Prop
 | .obj τ _| .dN τ _ _ _=>rL p τ∧ ∃b,v= .pointer (some ⟨b,0,none⟩)∧u= .pointer (some ⟨b,bB p τ,none⟩)
 | .own e l| .jW e l=> ∃i q,p= .idx i::q∧i<l.length∧rL q e∧ ∃b n c,v= .slice (some ⟨b,0,none⟩) n c∧u= .pointer (some ⟨b,i*e.size+bB q e,none⟩)
 | .gone=> ∃a,u= .pointer (some a)
mutual
def VR(w:World)(M:Nat→Prop)(H:Nat→Option aQ)(ν:Nat→Value):aX→Value→Prop
 | .any,_=>True
 | .Mn,v=>v=undef
 | .val τ x,v=>V w M τ v x
 | .BH τ x n,v=>V w M τ v x∧ ∃cs a,v= .agg cs∧cs.toList[nq τ n]? =some (.slice a 0 0)
 | .emp,v=> ∃a,v= .slice a 0 0
 | .ref id,v=>H id≠none∧v=ν id
 | .fc id p,v=> ∃e,H id=some e∧AR (ν id) p v e
 | .mq τ x,v=> ∃b off,v= .pointer (some ⟨b,off,none⟩)∧b<w.heap.size∧ ¬M b∧ ∃cs,At w b off cs∧Rd w M τ cs x
 | .tup vs,v=> ∃us:List Value,v= .tuple us.toArray∧fv w M H ν vs us
 | .Dj f caps,v=> ∃cs:List Value,v= .func (.func f) #[] cs.toArray∧fv w M H ν caps cs
def fv(w:World)(M:Nat→Prop)(H:Nat→Option aQ)(ν:Nat→Value):List aX→List Value→Prop
 |[],[]=>True
 |a::as,v::vs=>VR w M H ν a v∧fv w M H ν as vs
 |_,_=>False
end
def aQ.gQ:aQ→aQ→Prop
 | .obj τ _,.obj υ _| .obj τ _,.dN υ _ _ _| .dN τ _ _ _,.obj υ _| .dN τ _ _ _,.dN υ _ _ _=>τ=υ
 | .own e l,.own f k| .own e l,.jW f k| .jW e l,.jW f k=>e=f∧l.length=k.length
 |_,.gone=>True
 |_,_=>False
structure oa(H:Nat→Option aQ)(ν:Nat→Value)(H':Nat→Option aQ)(ν':Nat→Value):Prop where
 ix: ∀i e,H i=some e→ ∃e',H' i=some e'∧e.gQ e'
 head: ∀i,H i≠none→ν' i=ν i
theorem AR.ptr{v:Value}{p:List Step}{u:Value}{e:aQ}(h:AR v p u e): ∃a,u= .pointer (some a):=by
 cases e<;>simp only[AR]at h
 ·obtain⟨_,b,_,h⟩:=h;exact⟨_,h⟩
 ·obtain⟨_,b,_,h⟩:=h;exact⟨_,h⟩
 ·obtain⟨i,q,_,_,_,b,n,c,_,h⟩:=h;exact⟨_,h⟩
 ·obtain⟨i,q,_,_,_,b,n,c,_,h⟩:=h;exact⟨_,h⟩
 ·exact h
theorem AR.gQ{v:Value}{p:List Step}{u:Value}{e e':aQ}(h:AR v p u e)(l:e.gQ e'):AR v p u e':=by
 have hp:=h.ptr
 cases e<;>cases e'<;>simp only[aQ.gQ]at l<;>simp only[AR]at h ⊢ <;>try exact hp
 ·subst l;exact h
 ·subst l;exact h
 ·subst l;exact h
 ·subst l;exact h
 ·obtain⟨rfl,hl⟩:=l;obtain⟨i,q,hp,hi,r⟩:=h;exact⟨i,q,hp,by omega,r⟩
 ·obtain⟨rfl,hl⟩:=l;obtain⟨i,q,hp,hi,r⟩:=h;exact⟨i,q,hp,by omega,r⟩
 ·obtain⟨rfl,hl⟩:=l;obtain⟨i,q,hp,hi,r⟩:=h;exact⟨i,q,hp,by omega,r⟩
theorem aQ.gQ.refl(e:aQ):e.gQ e:=by cases e<;>simp[aQ.gQ]
theorem oa.refl(H:Nat→Option aQ)(ν:Nat→Value):oa H ν H ν:=⟨fun _ e h=>⟨e,h,.refl e⟩,fun _ _=>rfl⟩
mutual
theorem VR.br{w w':World}{M M':Nat→Prop}{H H':Nat→Option aQ}{ν ν':Nat→Value}(k:da w M w' M')(g:oa H ν H' ν'):
  ∀{a:aX} {v:Value},VR w M H ν a v→VR w' M' H' ν' a v
 | .any,_,_=>by simp[VR]
 | .Mn,_,h=>by simpa [VR]using h
 | .val τ x,v,h=>by simp only[VR]at h ⊢;exact h.br k
 | .BH τ x n,v,h=>by simp only[VR]at h ⊢;exact⟨h.1.br k,h.2⟩
 | .emp,_,h=>by simpa [VR]using h
 | .ref id,_,h=>by
  simp only[VR]at h ⊢
  obtain⟨h1,h2⟩:=h
  obtain⟨e,he⟩:=Option.ne_none_iff_exists'.1 h1
  obtain⟨e',rX,_⟩:=g.ix id e he
  exact⟨by simp[rX],by rw[g.head id h1];exact h2⟩
 | .fc id p,_,h=>by
  simp only[VR]at h ⊢
  obtain⟨e,he,ha⟩:=h
  obtain⟨e',rX,hl⟩:=g.ix id e he
  exact⟨e',rX,by rw[g.head id (by simp[he])];exact ha.gQ hl⟩
 | .mq τ x,_,h=>by
  simp only[VR]at h ⊢
  obtain⟨b,off,rfl,hb,hm,cs,ha,hr⟩:=h
  exact⟨b,off,rfl,Nat.lt_of_lt_of_le hb k.size,fun h'=>hm (k.less b hb h'),cs,ha.br (k.block b hb hm),hr.br k⟩
 | .tup vs,_,h=>by
  simp only[VR]at h ⊢
  obtain⟨us,rfl,h⟩:=h
  exact⟨us,rfl,fv.br k g h⟩
 | .Dj f caps,_,h=>by
  simp only[VR]at h ⊢
  obtain⟨us,rfl,h⟩:=h
  exact⟨us,rfl,fv.br k g h⟩
theorem fv.br{w w':World}{M M':Nat→Prop}{H H':Nat→Option aQ}{ν ν':Nat→Value}(k:da w M w' M')(g:oa H ν H' ν'):
  ∀{as:List aX} {vs:List Value},fv w M H ν as vs→fv w' M' H' ν' as vs
 |[],[],_=>by simp[fv]
 |a::as,v::vs,h=>by simp only[fv]at h ⊢;exact⟨VR.br k g h.1,fv.br k g h.2⟩
 |[],_::_,h=>by simp[fv]at h
 |_::_,[],h=>by simp[fv]at h
end
end VM
end
