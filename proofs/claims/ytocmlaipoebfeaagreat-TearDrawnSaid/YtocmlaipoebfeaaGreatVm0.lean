/- A part of the proof of TearDrawn of layer 29: a machine that reads a function of the program as an equation between values. -/
import GoSem.Claims
import Derived.WalkKit
import Derived.ArgAppend
import Derived.Laws.CopyRow
import Derived.Laws.MakeOwn
import Derived.Laws.OwnMore
import Derived.Orders
import Derived.LoopN
set_option linter.all false
section
namespace VM
open Go
theorem adI{α:Type}(a:α): ∃b:α,b=a:=⟨a,rfl⟩
noncomputable def aT{α:Type}(a:α):α:=Classical.choose (adI a)
theorem eZ{α:Type}(a:α):aT a=a:=Classical.choose_spec (adI a)
def tx:Nat:=68719476736
noncomputable def W:IntKind→Int→Int:=aT fun k x=>k.wrap x
noncomputable def aH:Int→Int→Bool:=aT fun x y=>decide (x<y)
noncomputable def bV:Int→Int→Bool:=aT fun x y=>decide (x≤y)
noncomputable def az:Int→Int→Bool:=aT fun x y=>decide (x=y)
noncomputable def aJ:Int→Nat→Bool:=aT fun i n=>decide (0≤i∧i<(n:Int))
noncomputable def small:Nat→Bool:=aT fun n=>decide (n<tx)
noncomputable def dZ:Int→Int→Bool:=aT fun l c=>decide (0≤l∧l≤c∧c<(tx:Int))
noncomputable def fE:Int→Int→Int→Int→Bool:=aT fun l h m n=>decide (0≤l∧l≤h∧h≤m∧m≤n)
noncomputable def quo:Int→Int→Int:=aT fun x y=>x.tdiv y
noncomputable def rem:Int→Int→Int:=aT fun x y=>x.tmod y
noncomputable def shl:IntKind→Int→Int→Int:=aT fun k x y=>x*2^(min y.toNat k.bits)
noncomputable def shr:IntKind→Int→Int→Int:=aT fun k x y=>x.fdiv (2^(min y.toNat k.bits))
noncomputable def mx:Int→Int→Int:=aT fun x y=>if y>x then y else x
noncomputable def mn:Int→Int→Int:=aT fun x y=>if y<x then y else x
noncomputable def Ni:ByteArray→ByteArray→Bool:=aT fun x y=>decide (x.toList=y.toList)
theorem xg(k:IntKind)(x:Int):W k x=k.wrap x:=by unfold W;rw[eZ]
theorem mw(x y:Int):aH x y=decide (x<y):=by unfold aH;rw[eZ]
theorem jV(x y:Int):bV x y=decide (x≤y):=by unfold bV;rw[eZ]
theorem fL(x y:Int):az x y=decide (x=y):=by unfold az;rw[eZ]
theorem Nj(i:Int)(n:Nat):aJ i n=decide (0≤i∧i<(n:Int)):=by unfold aJ;rw[eZ]
theorem yA(n:Nat):small n=decide (n<tx):=by unfold small;rw[eZ]
theorem Bj(l c:Int):dZ l c=decide (0≤l∧l≤c∧c<(tx:Int)):=by unfold dZ;rw[eZ]
theorem tG(l h m n:Int):fE l h m n=decide (0≤l∧l≤h∧h≤m∧m≤n):=by unfold fE;rw[eZ]
theorem Ct(x y:Int):quo x y=x.tdiv y:=by unfold quo;rw[eZ]
theorem Nk(x y:Int):rem x y=x.tmod y:=by unfold rem;rw[eZ]
theorem Nl(k:IntKind)(x y:Int):shl k x y=x*2^(min y.toNat k.bits):=by unfold shl;rw[eZ]
theorem Ig(k:IntKind)(x y:Int):shr k x y=x.fdiv (2^(min y.toNat k.bits)):=by unfold shr;rw[eZ]
theorem XC(x y:Int):mx x y=if y>x then y else x:=by unfold mx;rw[eZ]
theorem XD(x y:Int):mn x y=if y<x then y else x:=by unfold mn;rw[eZ]
theorem yB(x y:ByteArray):Ni x y=decide (x.toList=y.toList):=by unfold Ni;rw[eZ]
inductive Bw where|and|or|xor|andNot
noncomputable def ja:Bw→IntKind→Int→Int→Int:=aT fun o k x y=>
 let a:=BitVec.ofInt k.bits x
 let b:=BitVec.ofInt k.bits y
 k.wrap (match o with| .and=>a&&& b| .or=>a|||b| .xor=>a^^^b| .andNot=>a&&& ~~~b).toNat
theorem o1(o:Bw)(k:IntKind)(x y:Int):ja o k x y=
 let a:=BitVec.ofInt k.bits x
 let b:=BitVec.ofInt k.bits y
 k.wrap (match o with| .and=>a&&& b| .or=>a|||b| .xor=>a^^^b| .andNot=>a&&& ~~~b).toNat:=by unfold ja;rw[eZ]
def strOf(l:List Nat):ByteArray:=⟨(l.map UInt8.ofNat).toArray⟩
inductive Ty where
 |int (k:IntKind)
 |bool
 |str
 |slice (e:Ty)
 |unit
 |pair (a b:Ty)
 |arr (n:Nat) (e:Ty)
 deriving DecidableEq
@[reducible] def Ty.den:Ty→Type
 | .int _=>Int
 | .bool=>Bool
 | .str=>ByteArray
 | .slice e=>List e.den
 | .unit=>Unit
 | .pair a b=>a.den×b.den
 | .arr _ e=>List e.den
def Ty.size:Ty→Nat
 | .int _| .bool| .str| .slice _=>1
 | .unit=>0
 | .pair a b=>a.size+b.size
 | .arr n e=>n*e.size
def Ty.isAgg:Ty→Bool
 | .unit| .pair _ _| .arr _ _=>true
 |_=>false
def Ty.zero:(τ:Ty)→τ.den
 | .int _=>(0:Int)
 | .bool=>false
 | .str=>ByteArray.empty
 | .slice _=>[]
 | .unit=>()
 | .pair a b=>(a.zero,b.zero)
 | .arr n e=>List.replicate n e.zero
def Ty.comparable:Ty→Bool
 | .slice _=>false
 | .pair a b=>a.comparable&&b.comparable
 | .arr _ _=>false
 |_=>true
def adJ{α:Type}(f:α→α→Bool):List α→List α→Bool
 |[],[]=>true
 |x::xs,y::ys=>f x y&&adJ f xs ys
 |_,_=>false
noncomputable def la:(τ:Ty)→τ.den→τ.den→Bool
 | .int _,x,y=>az x y
 | .bool,x,y=>x==y
 | .str,x,y=>Ni x y
 | .slice _,_,_=>false
 | .unit,_,_=>true
 | .pair a b,x,y=>la a x.1 y.1&&la b x.2 y.2
 | .arr _ e,x,y=>adJ (la e) x y
inductive Step where
 |gw (n:Nat)
 |idx (i:Nat)
def Ef:List Step→List Step→Bool
 |[],[]=>true
 | .gw a::p,.gw b::q=>Nat.beq a b&&Ef p q
 |_,_=>false
def si:List Step→List Step→Bool
 |[],_=>true
 | .gw a::p,.gw b::q=>Nat.beq a b&&si p q
 |_,_=>false
def Cu:Ty→Nat→Option Ty
 | .pair a b,n=>match n with
  |0=>some a
  |n+1=>Cu b n
 |_,_=>none
def ew:List Step→Ty→Ty→Bool
 |[],τ,υ=>decide (τ=υ)
 | .gw n::p,τ,υ=>match Cu τ n with
  |some a=>ew p a υ
  |none=>false
 |_,_,_=>false
inductive aY where
 |any
 |Nm
 |val (τ:Ty) (x:τ.den)
 |Cv (τ:Ty) (x:τ.den) (n:Nat)
 |emp
 |ref (id:Nat)
 |fD (id:Nat) (p:List Step)
 |my (τ:Ty) (x:τ.den)
 |tup (vs:List aY)
 |Eg (f:Nat) (caps:List aY)
inductive aP where
 |obj (τ:Ty) (x:τ.den)
 |dP (τ:Ty) (x:τ.den) (p:List Step) (j:Nat)
 |own (e:Ty) (l:List e.den)
 |ku (e:Ty) (l:List e.den)
 |gone
structure St where
 T:Nat→aY
 H:Nat→Option aP
def St.put(σ:St)(d:Nat)(v:aY):St:=⟨fun i=>cond (Nat.beq i d) v (σ.T i),σ.H⟩
def St.gX(σ:St)(d:Nat)(v:Option aP):St:=⟨σ.T,fun i=>cond (Nat.beq i d) v (σ.H i)⟩
def St.qa(σ:St)(d:Option Nat)(v:aY):St:=match d with|some d=>σ.put d v|none=>σ
def Eh(n:Nat)(io:List Nat):Option Nat→Bool|some d=>Nat.blt d n&&io.all (fun i=> !(Nat.beq i d))|none=>true
def St.qp(σ:St):List (Nat×Option aP)→St
 |[]=>σ
 |u::r=>(σ.gX u.1 u.2).qp r
abbrev S0:St:=⟨fun _=> .any,fun _=>none⟩
abbrev fl:=List (Nat×Option aP)
section K
variable{α:Type}
def sj:(τ:Ty)→τ.den→Nat→((υ:Ty)→υ.den→Option α)→Option α
 | .pair a b,x,n,k=>match n with
  |0=>k a x.1
  |n+1=>sj b x.2 n k
 |_,_,_,_=>none
def jj:(τ:Ty)→τ.den→Nat→((υ:Ty)→υ.den→(υ.den→Option α)→Option α)→(τ.den→Option α)→Option α
 | .pair a b,x,n,m,k=>match n with
  |0=>m a x.1 fun z=>k (z,x.2)
  |n+1=>jj b x.2 n m fun z=>k (x.1,z)
 |_,_,_,_,_=>none
def jk(τ υ:Ty)(k:Option α):Option α:=if τ=υ then k else none
def bZ(υ τ:Ty)(y:υ.den)(k:τ.den→Option α):Option α:=if h:υ=τ then k (h▸y)else none
def YO(τ:Ty)(x:τ.den)(i:Nat)(k:(υ:Ty)→υ.den→Option α):Option α:=
 match τ,x with
 | .arr _ e,x=>k e (List.getD x i e.zero)
 |_,_=>none
def xV(τ:Ty)(x:τ.den)(i:Nat)(m:(υ:Ty)→υ.den→(υ.den→Option α)→Option α)(k:τ.den→Option α):Option α:=
 match τ,x,k with
 | .arr _ e,x,k=>m e (List.getD x i e.zero) fun z=>k (List.set x i z)
 |_,_,_=>none
def tH:List Step→(τ:Ty)→τ.den→((υ:Ty)→υ.den→Option α)→Option α
 |[],τ,x,k=>k τ x
 | .gw n::p,τ,x,k=>sj τ x n fun υ y=>tH p υ y k
 | .idx i::p,τ,x,k=>YO τ x i fun υ y=>tH p υ y k
def qb(υ:Ty)(y:υ.den):List Step→(τ:Ty)→τ.den→(τ.den→Option α)→Option α
 |[],τ,_,k=>bZ υ τ y k
 | .gw n::p,τ,x,k=>jj τ x n (fun υ' y' k'=>qb υ y p υ' y' k') k
 | .idx i::p,τ,x,k=>xV τ x i (fun υ' y' k'=>qb υ y p υ' y' k') k
def iC(fz:Bool)(a:aY)(H:Nat→Option aP)(τ:Ty)(k:τ.den→List Nat→fl→Option α):Option α:=
 match a with
 | .val υ x=>bZ υ τ x fun y=>k y [] []
 | .Cv υ x _=>bZ υ τ x fun y=>k y [] []
 | .emp=>match τ,k with
  | .slice _,k=>k [] [] []
  |_,_=>none
 | .ref id=>match H id with
  |some (.own e l)=>bZ (.slice e) τ l fun y=>k y [id] (cond fz [(id,some (.ku e l))] [])
  |some (.ku e l)=>bZ (.slice e) τ l fun y=>k y [id] []
  |_=>none
 |_=>none
def Ei(a:aY)(k:(τ:Ty)→τ.den→Option α):Option α:=
 match a with
 | .val υ x=>k υ x
 |_=>none
def jl(id:Nat)(p:List Step)(H:Nat→Option aP)(k:Ty→Option α):Option α:=
 match H id with
 |some (.obj τ x)=>tH p τ x fun υ _=>k υ
 |some (.dP τ x _ _)=>tH p τ x fun υ _=>k υ
 |some (.own e l)|some (.ku e l)=>match p with
  | .idx i::p=>tH p e (List.getD l i e.zero) fun υ _=>k υ
  |_=>none
 |_=>none
def aom(a:aY)(H:Nat→Option aP)(k:(τ:Ty)→τ.den→List Nat→Option α):Option α:=
 match a with
 | .val υ x=>k υ x []
 | .ref id=>match H id with
  |some (.own e l)|some (.ku e l)=>k (.slice e) l [id]
  |_=>none
 |_=>none
def qq(a:aY)(k:IntKind→Int→Option α):Option α:=
 match a with
 | .val (.int i) x=>k i x
 |_=>none
end K
inductive AM where
 |v (τ:Ty)
 |own (e:Ty)
 |io (τ:Ty)
 |fn (f:Nat) (τ:Ty)
 |ptr (τ:Ty)
 |fD (τ:Ty)
@[reducible] def AM.den:AM→Type
 | .v τ=>τ.den
 | .own e=>List e.den
 | .io τ=>τ.den
 | .fn _ τ=>τ.den
 | .ptr τ=>τ.den
 | .fD τ=>τ.den
@[reducible] def HP:List AM→Type
 |[]=>Unit
 |[m]=>m.den
 |m::n::ms=>m.den×HP (n::ms)
structure g8 where
 args:List AM
 res:List AM
 quiet:Bool
 run:HP args→Option (HP res)
inductive CM where
 |v (τ:Ty)
 |own (e:Ty)
 |obj (τ:Ty)
 |dP (τ:Ty) (q:List Step) (e:Ty)
 |same (s:Nat)
 |io (τ:Ty)
 |fn (f:Nat) (τ:Ty)
structure Env where
 nt:Nat
 ty:Nat→Option Ty
 Γ:Nat→List g8
 N:Nat
 qt:Nat→Option (List (Nat×CM))
 sk:Nat→Option (List (Nat×CM))
 io:List Nat:=[]
 lk:Option (Ty×List Step×Ty×List Nat):=none
def lkT(E:Env)(τ:Ty):Option (List Step×Ty):=match E.lk with
 |some (υ,q,e,_)=>cond (decide (υ=τ)) (cond (ew q τ (.slice e)) (some (q,e)) none) none
 |none=>none
def Cw(E:Env)(τ:Ty)(id:Nat):Option (List Step×Ty):=match E.lk with
 |some (_,_,_,ds)=>cond (ds.any fun d=>Nat.beq (id/16) d) (lkT E τ) none
 |none=>none
def cvA:Value→aY
 | .int k n=> .val (.int k) n
 | .bool b=> .val .bool b
 | .string s=> .val .str s
 | .slice none 0 0=> .emp
 |_=> .any
def St.ρ (σ:St):Operand→aY
 | .tmp t=>σ.T t
 | .const v=>cvA v
 | .global _=> .any
 | .func f=> .Eg f []
section
variable{α:Type}
noncomputable def o3(op:BinOp)(k:IntKind)(x y:Int)(K:aY→Option α):Option α:=
 match op with
 | .add=>K (.val (.int k) (W k (x+y)))
 | .sub=>K (.val (.int k) (W k (x-y)))
 | .mul=>K (.val (.int k) (W k (x*y)))
 | .quo=>cond (az y 0) none (K (.val (.int k) (W k (quo x y))))
 | .rem=>cond (az y 0) none (K (.val (.int k) (rem x y)))
 | .and=>K (.val (.int k) (ja .and k x y))
 | .or=>K (.val (.int k) (ja .or k x y))
 | .xor=>K (.val (.int k) (ja .xor k x y))
 | .andNot=>K (.val (.int k) (ja .andNot k x y))
 | .eql=>K (.val .bool (az x y))
 | .neq=>K (.val .bool (!az x y))
 | .lss=>K (.val .bool (aH x y))
 | .leq=>K (.val .bool (bV x y))
 | .gtr=>K (.val .bool (aH y x))
 | .geq=>K (.val .bool (bV y x))
 |_=>none
noncomputable def Q5(op:BinOp)(k:IntKind)(x y:Int)(K:aY→Option α):Option α:=
 match op with
 | .shl=>cond (aH y 0) none (K (.val (.int k) (W k (shl k x y))))
 | .shr=>cond (aH y 0) none (K (.val (.int k) (shr k x y)))
 |_=>none
def Q6:BinOp→Bool
 | .shl| .shr=>true
 |_=>false
noncomputable def yC(t:Option Ty)(op:BinOp)(τ:Ty)(x:τ.den)(υ:Ty)(y:υ.den)(K:aY→Option α):Option α:=
 match τ,x,υ,y with
 | .int k,x,.int k',y=>cond (Q6 op) (Q5 op k x y K) (if k=k' then o3 op k x y K else none)
 |τ,x,υ,y=>match t with
  |none=>none
  |some u=>jk u τ (cond τ.comparable (match op with
   | .eql=>bZ υ τ y fun y=>K (.val .bool (la τ x y))
   | .neq=>bZ υ τ y fun y=>K (.val .bool (!la τ x y))
   |_=>none) none)
noncomputable def K2(op:UnOp)(a:aY)(K:aY→Option α):Option α:=
 match op,a with
 | .neg,.val (.int k) n=>K (.val (.int k) (W k (0-n)))
 | .xor,.val (.int k) n=>K (.val (.int k) (ja .xor k (if k.signed then-1 else k.max) n))
 | .not,.val .bool b=>K (.val .bool (!b))
 |_,_=>none
abbrev fm(α:Type):=aY→List Nat→fl→Option α
noncomputable def QH(up:Bool):aY→List aY→(aY→Option α)→Option α
 |a,[],K=>K a
 |a,b::r,K=>qq a fun k x=>qq b fun k' y=>if k=k' then QH up (.val (.int k) (cond up (mx x y) (mn x y))) r K else none
def Ej(τ:Ty)(a:aY)(H:Nat→Option aP)(K:fm α):Option α:=
 match τ,a with
 | .slice _,.val (.slice _) l=>K (.val (.int .i64) (List.length l:Int)) [] []
 | .arr n _,.val (.arr _ _) _=>K (.val (.int .i64) (n:Int)) [] []
 | .str,.val .str s=>K (.val (.int .i64) (ByteArray.size s:Int)) [] []
 | .slice _,.emp=>K (.val (.int .i64) (0:Int)) [] []
 | .slice _,.ref id=>match H id with
  |some (.own _ l)|some (.ku _ l)=>K (.val (.int .i64) (l.length:Int)) [id] []
  |_=>none
 |_,_=>none
def mz(H:Nat→Option aP)(id:Nat)(e:aP)(K:Option α):Option α:=
 match H id with
 |none=>K
 |some _=>none
noncomputable def Ek(id:Nat)(e:Ty)(a b:aY)(H:Nat→Option aP)(K:fm α):Option α:=
 iC false b H (.slice e) fun ys rd _=>
  match a with
  | .emp=>cond (small (List.length ys)) (K (.ref id) (id::rd) [(id,some (.own e ys))]) none
  | .ref j=>match H j with
   |some (.own e' l)=>bZ (.slice e') (.slice e) l fun xs=>
    cond (small (List.length xs+List.length ys)) (K (.ref id) (id::j::rd) [(j,some .gone),(id,some (.own e (xs++ys)))]) none
   |_=>none
  |_=>none
def o4(τ:Ty)(H:Nat→Option aP):List (Nat×aY)→τ.den→List Nat→fl→(τ.den→List Nat→fl→Option α)→Option α
 |[],x,rd,ups,K=>K x rd ups
 |p::r,x,rd,ups,K=>sj τ x p.1 fun υ _=>iC true p.2 H υ fun y vq jW=>
  jj τ x p.1 (fun υ' _ k'=>bZ υ υ' y k') fun z=>o4 τ H r z (vq++rd) (ups++jW) K
def qu(e:Ty)(H:Nat→Option aP)(n:Nat):List (Nat×aY)→List e.den→List Nat→fl→(List e.den→List Nat→fl→Option α)→Option α
 |[],l,rd,ups,K=>K l rd ups
 |p::r,l,rd,ups,K=>cond (Nat.blt p.1 n) (iC true p.2 H e fun y vq jW=>qu e H n r (List.set l p.1 y) (vq++rd) (ups++jW) K) none
def wk(v:aY)(H:Nat→Option aP):(a:Ty)→(a.den→List Nat→fl→Option α)→Option α
 | .pair a .unit,k=>match v with
  | .my υ x=>bZ υ a x fun y=>k (y,()) [] []
  |_=>none
 |a,k=>iC true v H a k
def wm:(a:Ty)→a.den→aY
 | .pair a .unit,x=> .my a x.1
 |a,x=> .val a x
def mA(H:Nat→Option aP):(τ:Ty)→List aY→(τ.den→List Nat→fl→Option α)→Option α
 | .unit,[],K=>K () [] []
 | .pair a b,v::vs,K=>wk v H a fun x rd ups=>mA H b vs fun xs vq jW=>K (x,xs) (vq++rd) (ups++jW)
 |_,_,_=>none
def lF:(τ:Ty)→τ.den→List aY
 | .pair a b,x=>wm a x.1::lF b x.2
 |_,_=>[]
def bm(H:Nat→Option aP)(d:Nat)(v:Option aP):Nat→Option aP:=fun i=>cond (Nat.beq i d) v (H i)
def qv(H:Nat→Option aP):List aY→(List aY→List Nat→fl→Option α)→Option α
 |[],K=>K [] [] []
 |a::r,K=>match a with
  | .fD id []=>match H id with
   |some (.obj τ x)=>qv (bm H id (some .gone)) r fun cs rd ups=>K (.my τ x::cs) (id::rd) ((id,some .gone)::ups)
   |_=>none
  |a=>qv H r fun cs rd ups=>K (a::cs) rd ups
def kD(m:AM)(a:aY)(H:Nat→Option aP)(k:m.den→(Nat→Option aP)→List Nat→fl→fl→List (Nat×Ty)→Option α):Option α:=
 match m,k with
 | .v τ,k=>iC true a H τ fun x rd uf=>match uf with
  |[]=>k x H rd [] [] []
  |u::r=>k x (bm H u.1 u.2) rd [] (u::r) []
 | .own e,k=>match a with
  | .emp=>k [] H [] [] [] []
  | .ref id=>match H id with
   |some (.own e' l)=>bZ (.slice e') (.slice e) l fun x=>k x (bm H id (some .gone)) [id] [(id,some .gone)] [] []
   |_=>none
  |_=>none
 | .io τ,k=>match a with
  | .fD id []=>match H id with
   |some (.obj υ x)=>bZ υ τ x fun y=>k y (bm H id (some .gone)) [id] [] [] [(id,τ)]
   |_=>none
  |_=>none
 | .fn f τ,k=>match a with
  | .Eg f' c=>cond (Nat.beq f f') (mA H τ c fun x rd uf=>match uf with
   |[]=>k x H rd [] [] []
   |_=>none) none
  |_=>none
 | .ptr _,_=>none
 | .fD τ,k=>match a with
  | .my υ x=>bZ υ τ x fun y=>k y H [] [] [] []
  |_=>none
def oA:(ms:List AM)→List aY→(Nat→Option aP)→List Nat→fl→fl→List (Nat×Ty)→(HP ms→List Nat→fl→fl→List (Nat×Ty)→Option α)→Option α
 |[],[],_,rd,uo,uf,io,K=>K () rd uo uf io
 |[m],[a],H,rd,uo,uf,io,K=>kD m a H fun x _ vq DZ D0 Ax=>K x (vq++rd) (DZ++uo) (D0++uf) (io++Ax)
 |m::n::ms,a::lK,H,rd,uo,uf,io,K=>kD m a H fun x H' vq DZ D0 Ax=>
  oA (n::ms) lK H' (vq++rd) (DZ++uo) (D0++uf) (io++Ax) fun xs rd uo uf io=>K (x,xs) rd uo uf io
 |_,_,_,_,_,_,_,_=>none
def Cx(m:AM)(x:m.den)(id:Nat):aY×fl:=
 match m,x with
 | .v τ,x=>(.val τ x,[])
 | .own e,x=>(.ref id,[(id,some (.own e x))])
 | .io τ,x=>(.val τ x,[])
 | .fn _ _,_=>(.any,[])
 | .ptr τ,x=>(.fD id [],[(id,some (.obj τ x))])
 | .fD _,_=>(.any,[])
def iD:(ms:List AM)→HP ms→Nat→List (Nat×Ty)→List aY×fl×List (Nat×Ty)
 |[],_,_,io=>([],[],io)
 |[m],x,id,io=>match m,x,io with
  | .io τ,x,(j,_)::io=>([],[(j,some (.obj τ x))],io)
  |m,x,io=>([(Cx m x id).1],(Cx m x id).2,io)
 |m::n::ms,x,id,io=>match m,x,io with
  | .io τ,x,(j,_)::io=>let r:=iD (n::ms) x.2 (id+1) io;(r.1,(j,some (.obj τ x.1))::r.2.1,r.2.2)
  |m,x,io=>let r:=iD (n::ms) x.2 (id+1) io;((Cx m x.1 id).1::r.1,(Cx m x.1 id).2++r.2.1,r.2.2)
def El:List aY→aY
 |[]=> .any
 |[a]=>a
 |l=> .tup l
def o5(H:Nat→Option aP)(id:Nat):Nat→Bool
 |0=>true
 |n+1=>(match H (id+n)with|none=>true|some _=>false)&&o5 H id n
def Em(id:Nat):Nat→List Nat
 |0=>[]
 |n+1=>(id+n)::Em id n
def fits:List AM→List aY→Bool
 |[],[]=>true
 | .fn f _::ms,.Eg g _::lK=>Nat.beq f g&&fits ms lK
 | .fn _ _::_,_::_=>false
 |_::ms,_::lK=>fits ms lK
 |_,_=>false
def En:List g8→List aY→Option g8
 |[],_=>none
 |S::r,lK=>cond (fits S.args lK) (some S) (En r lK)
noncomputable def wo(E:Env)(f:Nat)(lK:List aY)(id:Nat)(H:Nat→Option aP)(K:fm α):Option α:=
 match En (E.Γ f) lK with
 |none=>none
 |some S=>oA S.args lK H [] [] [] [] fun x rd uo uf io=>
  (S.run x).bind fun y=>
   let r:=iD S.res y id io
   cond (o5 H id S.res.length) (K (El r.1) (Em id S.res.length++(r.2.1.map (·.1)++rd)) (uo++cond S.quiet [] uf++r.2.1)) none
def sO(a:Option aY)(d:Int)(k:Int→Option α):Option α:=
 match a with
 |none=>k d
 |some a=>qq a fun _ x=>k x
def iv:Option Operand→Bool
 |some (.const (.int _ n))=>decide (n=0)
 |_=>false
noncomputable def mB(t:Ty)(z:Bool)(a:aY)(lo hi mx:Option aY)(H:Nat→Option aP)(K:fm α):Option α:=
 match t,a with
 | .str,.val .str s=>cond mx.isNone (sO lo 0 fun l=>sO hi (ByteArray.size s:Int) fun h=>
  cond (fE l h (ByteArray.size s:Int) (ByteArray.size s:Int)) (K (.val .str (ByteArray.extract s l.toNat h.toNat)) [] []) none) none
 | .slice _,.emp=>cond z (K .emp [] []) (cond mx.isNone (sO lo 0 fun l=>sO hi 0 fun h=>cond (fE l h 0 0) (K .emp [] []) none) none)
 | .slice e,a=>iC (!z) a H (.slice e) fun x rd ups=>cond z (K .emp rd [])
  (cond (mx.isNone||hi.isSome) (sO lo 0 fun l=>sO hi (List.length x:Int) fun h=>sO mx (List.length x:Int) fun m=>
   cond (fE l h m (List.length x:Int))
    (K (.val (.slice e) (List.drop l.toNat (List.take h.toNat x))) rd ups) none) none)
 |_,_=>none
noncomputable def ea(τ:Ty)(a i:aY)(H:Nat→Option aP)(K:fm α):Option α:=
 qq i fun _ i=>
 match τ with
 | .slice e=>match a with
  | .val υ l=>bZ υ (.slice e) l fun l=>cond (aJ i (List.length l)) (K (.my e (List.getD l i.toNat e.zero)) [] []) none
  | .ref id=>match H id with
   |some (.own e' l)|some (.ku e' l)=>jk e' e (cond (aJ i (List.length l)) (K (.fD id [.idx i.toNat]) [id] []) none)
   |_=>none
  |_=>none
 | .arr n e=>match a with
  | .fD id p=>jl id p H fun υ=>jk υ (.arr n e) (cond (aJ i n) (K (.fD id (p++[.idx i.toNat])) [id] []) none)
  | .my υ l=>bZ υ (.arr n e) l fun l=>cond (aJ i n) (K (.my e (List.getD l i.toNat e.zero)) [] []) none
  |_=>none
 |_=>none
noncomputable def qw(τ:Ty)(a i:aY)(K:aY→Option α):Option α:=
 qq i fun _ i=>
 match τ,a with
 | .arr n e,.val υ l=>bZ υ (.arr n e) l fun l=>cond (aJ i n) (K (.val e (List.getD l i.toNat e.zero))) none
 | .str,.val .str s=>cond (aJ i (ByteArray.size s)) (K (.val (.int .u8) ((s.data.getD i.toNat 0).toNat:Int))) none
 |_,_=>none
def gU(a:aY)(H:Nat→Option aP)(K:(υ:Ty)→υ.den→List Nat→Option α):Option α:=
 match a with
 | .my τ x=>K τ x []
 | .fD id p=>match H id with
  |some (.obj τ x)=>tH p τ x fun υ y=>K υ y [id]
  |some (.own e l)|some (.ku e l)=>match p with
   | .idx i::p=>tH p e (List.getD l i e.zero) fun υ y=>K υ y [id]
   |_=>none
  |_=>none
 |_=>none
def iE(τ:Ty)(a v:aY)(H:Nat→Option aP)(K:fm α):Option α:=
 match a with
 | .fD id p=>iC true v H τ fun y rd ups=>
  match H id with
  |some (.obj υ x)=>qb τ y p υ x fun z=>K .any (id::rd) (ups++[(id,some (.obj υ z))])
  |some (.own e l)=>match p with
   | .idx i::p=>cond (rd.contains id) none (qb τ y p e (List.getD l i e.zero) fun z=>K .any (id::rd) (ups++[(id,some (.own e (List.set l i z)))]))
   |_=>none
  |_=>none
 |_=>none
def xh(j:Nat)(q:List Step)(τ:Ty)(x:τ.den)(H:Nat→Option aP)(k:τ.den→fl→Option α):Option α:=
 match H j with
 |some (.own e l)=>qb (.slice e) l q τ x fun z=>k z [(j,some (.ku e l))]
 |some (.ku e l)=>qb (.slice e) l q τ x fun z=>k z []
 |_=>none
def pW(τ:Ty)(a:aY)(H:Nat→Option aP)(K:fm α):Option α:=
 let tz:=gU a H fun υ y rd=>bZ υ τ y fun z=>K (.val τ z) rd []
 match a with
 | .fD id p=>match H id with
  |some (.dP υ x q j)=>cond (Ef p q) (cond (ew q υ τ) (K (.ref j) [id] []) none)
   (cond (si p q) (xh j q υ x H fun z ups=>tH p υ z fun υ' y=>bZ υ' τ y fun y'=>K (.val τ y') [id,j] ups)
    (tH p υ x fun υ' y=>bZ υ' τ y fun y'=>K (.val τ y') [id] []))
  |_=>tz
 |_=>tz
def wq(τ:Ty)(id k:Nat)(e:Ty)(q:List Step)(υ:Ty)(x:υ.den)(H:Nat→Option aP)(K:fm α):Option α:=
 match H k with
 |some (.own e' _)=>jk e' e (jk τ (.slice e) (qb (.slice e) [] q υ x fun z=>K .any [id,k] [(id,some (.dP υ z q k))]))
 |_=>none
def gb(E:Env)(τ:Ty)(a v:aY)(H:Nat→Option aP)(K:fm α):Option α:=
 let tz:=iE τ a v H K
 match a with
 | .fD id p=>match H id with
  |some (.obj υ x)=>match Cw E υ id,v with
   |some (q,e),.ref k=>cond (Ef p q) (wq τ id k e q υ x H K) tz
   |_,_=>tz
  |some (.dP υ x q j)=>
   let put:=iC true v H τ fun y rd ups=>qb τ y p υ x fun z=>K .any (id::rd) (ups++[(id,some (cond (si p q) (.obj υ z) (.dP υ z q j)))])
   match Cw E υ id,v with
   |some (q',e),.ref k=>cond (Ef p q&&Ef q q') (wq τ id k e q υ x H K) put
   |_,_=>put
  |_=>tz
 |_=>tz
def oc(E:Env)(τ:Ty)(a v:aY)(H:Nat→Option aP)(K:fm α):Option α:=
 match a,v with
 | .fD id [],.Cv υ y n=>match Cw E υ id with
  |some ([.gw m],e)=>cond (Nat.beq m n) (jk τ υ (jl id [] H fun υ'=>jk υ' υ
   (mz H (id+2) (.own e []) (K .any [id,id+2] [(id,some (.dP υ y [.gw m] (id+2))),(id+2,some (.own e []))])))) (gb E τ a v H K)
  |_=>gb E τ a v H K
 |_,_=>gb E τ a v H K
def xi(H:Nat→Option aP)(id:Nat)(τ:Ty)(x:τ.den)(q:List Step)(e:Ty)(K:fm α):Option α:=
 mz H id (.obj τ x) (mz H (id+1) (.own e []) (K (.fD id []) [id,id+1] [(id,some (.dP τ x q (id+1))),(id+1,some (.own e []))]))
def Q7(E:Env)(ps:List (Nat×aY))(τ:Ty)(x:τ.den):aY:=match lkT E τ with
 |some ([.gw n],_)=>cond (ps.all fun p=> !(Nat.beq p.1 n)) (.Cv τ x n) (.val τ x)
 |_=> .val τ x
def partsOf(σρ:Operand→aY)(ps:Array (Nat×Operand)):List (Nat×aY):=ps.toList.map fun p=>(p.1,σρ p.2)
noncomputable def ov(E:Env)(o:Oper)(ρ:Operand→aY)(H:Nat→Option aP)(K:fm α):Option α:=
 let id:=16*o.dst.getD 0
 match o.op with
 | .move x| .assign x=>K (ρ x) [] []
 | .pick c a b=>match ρ c with
  | .val .bool t=>cond t (K (ρ a) [] []) (K (ρ b) [] [])
  |_=>none
 | .alloc t=>match E.ty t with
  |some τ=>match Cw E τ id with
   |some (q,e)=>xi H id τ τ.zero q e K
   |none=>mz H id (.obj τ τ.zero) (K (.fD id []) [id] [(id,some (.obj τ τ.zero))])
  |none=>none
 | .box t x=>match E.ty t with
  |some τ=>
   let tz:=iC true (ρ x) H τ fun y rd ups=>mz H id (.obj τ y) (K (.fD id []) (id::rd) (ups++[(id,some (.obj τ y))]))
   match Cw E τ id,ρ x with
   |some ([.gw m],e),.Cv υ y n=>cond (Nat.beq m n) (bZ υ τ y fun y=>xi H id τ y [.gw m] e K) tz
   |_,_=>tz
  |none=>none
 | .build t ps=>match E.ty t with
  |some (.arr n e)=>qu e H n (partsOf ρ ps) (List.replicate n e.zero) [] [] fun l rd ups=>K (.val (.arr n e) l) rd ups
  |some τ=>cond τ.isAgg (o4 τ H (partsOf ρ ps) τ.zero [] [] fun x rd ups=>K (Q7 E (partsOf ρ ps) τ x) rd ups) none
  |none=>none
 | .buildSlice t n ps=>match E.ty t with
  |some (.slice e)=>cond (Nat.ble (n*(e.size+1)) 16777216) (mz H id (.own e []) (qu e H n (partsOf ρ ps) (List.replicate n e.zero) [] [] fun l rd ups=>K (.ref id) (id::rd) (ups++[(id,some (.own e l))]))) none
  |_=>none
 | .load t a=>match E.ty t with
  |some τ=>pW τ (ρ a) H K
  |none=>none
 | .store t a v=>match E.ty t with
  |some τ=>oc E τ (ρ a) (ρ v) H K
  |none=>none
 | .nilCheck x=>match ρ x with
  | .fD id p=>K (.fD id p) [] []
  | .my τ x=>K (.my τ x) [] []
  |_=>none
 | .binOp op t x y _=>Ei (ρ x) fun τ x=>Ei (ρ y) fun υ y=>yC (E.ty t) op τ x υ y fun v=>K v [] []
 | .unOp op _ x=>K2 op (ρ x) fun v=>K v [] []
 | .convert src dst x=>match E.ty src,E.ty dst with
  |some _,some (.int k)=>qq (ρ x) fun _ n=>K (.val (.int k) (W k n)) [] []
  |_,_=>none
 | .makeFunc (.func f) first caps=>cond first.isEmpty (qv H (caps.toList.map ρ) fun cs rd ups=>K (.Eg f cs) rd ups) none
 | .makeSlice t l c=>match E.ty t with
  |some (.slice e)=>qq (ρ l) fun _ l=>qq (ρ c) fun _ c=>cond (dZ l c)
    (mz H id (.own e []) (K (.ref id) [id] [(id,some (.own e (List.replicate l.toNat e.zero)))])) none
  |_=>none
 | .slice t x lo hi mx=>match E.ty t with
  |some τ=>mB τ (lo.isNone&&iv hi&&iv mx) (ρ x) (lo.map ρ) (hi.map ρ) (mx.map ρ) H K
  |none=>none
 | .fieldAddr t x n=>match E.ty t with
  |some τ=>match ρ x with
   | .fD id p=>jl id p H fun υ=>jk υ τ (sj τ τ.zero n fun υ' _=>cond (Nat.beq υ'.size 0) none (K (.fD id (p++[.gw n])) [id] []))
   | .my υ x=>jk υ τ (sj υ x n fun υ y=>cond (Nat.beq υ.size 0) none (K (.my υ y) [] []))
   |_=>none
  |none=>none
 | .field t x n=>match E.ty t with
  |some τ=>match ρ x with
   | .val υ x=>jk υ τ (sj υ x n fun υ y=>K (.val υ y) [] [])
   |_=>none
  |none=>none
 | .indexAddr t x i=>match E.ty t with
  |some τ=>ea τ (ρ x) (ρ i) H K
  |none=>none
 | .index t x i=>match E.ty t with
  |some τ=>qw τ (ρ x) (ρ i) fun v=>K v [] []
  |none=>none
 | .extract t i=>match ρ t with
  | .tup vs=>match vs[i]? with
   |some v=>K v [] []
   |none=>none
  |_=>none
 | .call c=>match c.callee with
  | .builtin .len=>match c.args.toList,(c.argTypes.toList.head?).bind E.ty with
   |[x],some τ=>Ej τ (ρ x) H K
   |_,_=>none
  | .builtin .append=>match c.args.toList,c.argTypes.toList with
   |[x,y],[t,t']=>match E.ty t with
    |some (.slice e)=>cond (Nat.beq t t') (mz H id (.own e []) (Ek id e (ρ x) (ρ y) H K)) none
    |_=>none
   |_,_=>none
  | .builtin .max=>match c.args.toList with
   |x::r=>QH true (ρ x) (r.map ρ) fun v=>K v [] []
   |_=>none
  | .builtin .min=>match c.args.toList with
   |x::r=>QH false (ρ x) (r.map ρ) fun v=>K v [] []
   |_=>none
  | .value g=>match ρ g with
   | .Eg f caps=>wo E f (c.args.toList.map ρ++caps) id H K
   |_=>none
  |_=>none
 |_=>none
noncomputable def oB(E:Env)(ops:List Oper)(o:Oper)(σ:St)(K:St→List Nat→List Nat→Option α):Option α:=
 let run (σ:St):Option α:=ov E o σ.ρ σ.H fun v rd ups=>K ((σ.qp ups).qa o.dst v) rd (ups.map (·.1))
 cond (Eh E.nt E.io o.dst) (match o.guard with
 |none=>run σ
 |some (j,want)=>match(ops[j]?).bind (·.dst)with
  |none=>none
  |some t=>match σ.T t with
   | .val .bool b=>match want with
    |true=>cond b (run (σ.put t (.val .bool true))) (K ((σ.put t (.val .bool false)).qa o.dst .Nm) [] [])
    |false=>cond b (K ((σ.put t (.val .bool true)).qa o.dst .Nm) [] []) (run (σ.put t (.val .bool false)))
   | .Nm=>K (σ.qa o.dst .Nm) [] []
   |_=>none) none
abbrev Log:=List (Nat×List Nat×List Nat)
noncomputable def K3(E:Env)(ops:List Oper):List Oper→Nat→St→Log→(St→Log→Option α)→Option α
 |[],_,σ,lg,K=>K σ lg
 |o::r,i,σ,lg,K=>oB E ops o σ fun σ' rd wr=>K3 E ops r (i+1) σ' ((i,rd,wr)::lg) K
def od:List Oper→List Nat→List Nat
 |[],acc=>acc
 |o::r,acc=>od r (acc++[o.after.toList.foldl (fun s e=>cond (Region.binds .any e) (s|||2^e.on|||acc.getD e.on 0) s) 0])
def names(ops:List Oper)(o:Oper):List Nat:=
 (o.op.operands.toList.filterMap fun| .tmp t=>some t|_=>none)++
 (match o.guard with
  |some (g,_)=>((ops[g]?).bind (·.dst)).toList
  |none=>[])
def meets(a b:List Nat):Bool:=a.any fun x=>b.any fun y=>Nat.beq x y
def Nn(ops:List Oper):Bool:=
 let b:=od ops []
 (ops.zipIdx.all fun(o,j)=>o.after.toList.all fun e=> !(Region.binds .any e)||Nat.blt e.on j)&&
 ops.zipIdx.all fun(o,j)=>ops.zipIdx.all fun(p,i)=>Nat.ble j i||(b.getD j 0).testBit i||
  !(meets p.dst.toList (o.dst.toList++names ops o)||meets o.dst.toList (names ops p))
def XE(ops:List Oper)(lg:Log):Bool:=
 let b:=od ops []
 lg.all fun x=>lg.all fun y=>Nat.ble x.1 y.1||(b.getD x.1 0).testBit y.1||
  !(meets y.2.2 (x.2.1++x.2.2)||meets y.2.1 x.2.2)
noncomputable def xW(E:Env)(ops:Array Oper)(draw:Bool)(σ:St)(K:St→Option α):Option α:=
 K3 E ops.toList ops.toList 0 σ [] fun σ' lg=>cond (!draw||(Nn ops.toList&&XE ops.toList lg)) (K σ') none
def eL:List (Nat×CM)→St→St→(St→Option α)→Option α
 |[],_,acc,K=>K acc
 |(s,.v τ)::r,σ,acc,K=>iC true (σ.T s) σ.H τ fun x _ ups=>eL r (σ.qp ups) (acc.put s (.val τ x)) K
 |(s,.own e)::r,σ,acc,K=>match σ.T s with
  | .emp=>eL r σ ((acc.put s (.ref (16*s+14))).gX (16*s+14) (some (.own e []))) K
  | .ref id=>match σ.H id with
   |some (.own e' l)=>bZ (.slice e') (.slice e) l fun x=>eL r (σ.gX id (some .gone)) ((acc.put s (.ref (16*s+14))).gX (16*s+14) (some (.own e x))) K
   |_=>none
  |_=>none
 |(s,.obj τ)::r,σ,acc,K=>match σ.T s with
  | .fD id []=>match σ.H id with
   |some (.obj υ x)=>bZ υ τ x fun y=>eL r (σ.gX id (some .gone)) ((acc.put s (.fD (16*s+14) [])).gX (16*s+14) (some (.obj τ y))) K
   |some (.dP υ x q j)=>xh j q υ x σ.H fun z ups=>bZ υ τ z fun y=>eL r ((σ.qp ups).gX id (some .gone)) ((acc.put s (.fD (16*s+14) [])).gX (16*s+14) (some (.obj τ y))) K
   |_=>none
  |_=>none
 |(s,.dP τ q e)::r,σ,acc,K=>match σ.T s with
  | .fD id []=>match σ.H id with
   |some (.dP υ x q' j)=>cond (Ef q q') (match σ.H j with
    |some (.own e' l)=>bZ υ τ x fun y=>bZ (.slice e') (.slice e) l fun l=>eL r ((σ.gX j (some .gone)).gX id (some .gone))
     (((acc.put s (.fD (16*s+14) [])).gX (16*s+13) (some (.own e l))).gX (16*s+14) (some (.dP τ y q (16*s+13)))) K
    |_=>none) none
   |_=>none
  |_=>none
 |(s,.same s')::r,σ,acc,K=>match σ.T s,σ.T s',acc.T s' with
  | .ref i,.ref j,.ref j'=>cond (Nat.beq i j) (eL r σ (acc.put s (.ref j')) K) none
  |_,_,_=>none
 |(s,.io τ)::r,σ,acc,K=>match σ.T s with
  | .fD id []=>cond (Nat.beq id (16*s+15)) (match σ.H id with
   |some (.obj υ x)=>bZ υ τ x fun y=>eL r (σ.gX id (some .gone)) ((acc.put s (.fD (16*s+15) [])).gX (16*s+15) (some (.obj τ y))) K
   |_=>none) none
  |_=>none
 |(s,.fn f τ)::r,σ,acc,K=>match σ.T s with
  | .Eg f' c=>cond (Nat.beq f f') (mA σ.H τ c fun x _ ups=>match ups with
   |[]=>eL r σ (acc.put s (.Eg f (lF τ x))) K
   |_=>none) none
  |_=>none
def gd:List (Nat×CM)→Bool
 |[]=>true
 |q::r=>r.all (fun p=> !(Nat.beq p.1 q.1))&&gd r
def qx(L:Option (List (Nat×CM)))(σ:St)(K:St→Option α):Option α:=
 match L with
 |none=>K σ
 |some L=>eL L σ ⟨fun _=> .any,fun _=>none⟩ K
def wu(L:Option (List (Nat×CM)))(step:St→(St→Option α)→Option α):Nat→St→Option α
 |0,_=>none
 |n+1,σ=>step σ fun σ'=>qx L σ' (wu L step n)
def bG:Code→Option Nat
 | .region id _ _=>some id
 | .seq a b=>match bG a with
  |some i=>some i
  |none=>bG b
 | .block _ c| .loop c| .scope c=>bG c
 |_=>none
def Bk(E:Env)(c:Operand)(σ:St)(A B:St→Option α):Option α:=
 match σ.ρ c with
 | .val .bool b=>match c with
  | .tmp t=>cond b (A (σ.put t (.val .bool true))) (B (σ.put t (.val .bool false)))
  |_=>cond b (A σ) (B σ)
 |_=>none
noncomputable def xX(E:Env)(c:Code):St→(St→Option α)→(Nat→St→Option α)→(St→Option α)→Option α:=
 Code.rec (motive:=fun _=>St→(St→Option α)→(Nat→St→Option α)→(St→Option α)→Option α)
  (fun σ k _ _=>k σ)
  (fun _ ops draw σ k _ _=>xW E ops draw σ k)
  (fun _ b A B σ k kx kr=>A σ (fun σ'=>qx ((bG b).bind E.sk) σ' fun qc=>B qc k kx kr) kx kr)
  (fun c _ _ A B σ k kx kr=>Bk E c σ (fun σ'=>A σ' k kx kr) (fun σ'=>B σ' k kx kr))
  (fun id _ A σ k kx kr=>A σ k (fun i σ'=>cond (Nat.beq i id) (k σ') (kx i σ')) kr)
  (fun b A σ _ kx kr=>qx ((bG b).bind E.qt) σ (wu ((bG b).bind E.qt) (fun σ' kn=>A σ' kn kx kr) E.N))
  (fun _ _ _ _ _ _ _ _ _ _=>none)
  (fun id σ _ kx _=>kx id σ)
  (fun _ A σ k kx kr=>A σ k kx kr)
  (fun _ σ k _ _=>k σ)
  (fun _ _ _ _ _=>none)
  (fun σ _ _ kr=>kr σ)
  (fun _ _ _ _ _=>none)
  c
noncomputable def qd(E:Env):List Nat→Code→List (St→Option α)→St→(St→Option α)→(Nat→St→Option α)→(St→Option α)→Option α
 |[],c,_,σ,k,kx,kr=>xX E c σ k kx kr
 |n::p,c,ks,σ,k,kx,kr=>match c with
  | .seq a b=>match n with
   |0=>qd E p a ks σ (fun σ'=>qx ((bG b).bind E.sk) σ' fun qc=>xX E b qc k kx kr) kx kr
   |_=>qd E p b ks σ k kx kr
  | .cond _ a b=>match n with
   |0=>qd E p a ks σ k kx kr
   |_=>qd E p b ks σ k kx kr
  | .block id c=>qd E p c ks σ k (fun i σ'=>cond (Nat.beq i id) (k σ') (kx i σ')) kr
  | .loop b=>match ks with
   |κ::ks=>qd E p b ks σ κ kx kr
   |[]=>none
  | .scope c=>qd E p c ks σ k kx kr
  |_=>none
def Ih(m:AM)(x:m.den)(i:Nat)(σ:St):St:=
 match m,x with
 | .v τ,x=>σ.put i (.val τ x)
 | .own e,x=>(σ.put i (.ref (16*i+15))).gX (16*i+15) (some (.own e x))
 | .io τ,x=>(σ.put i (.fD (16*i+15) [])).gX (16*i+15) (some (.obj τ x))
 | .fn f τ,x=>σ.put i (.Eg f (lF τ x))
 | .ptr _,_=>σ
 | .fD τ,x=>σ.put i (.my τ x)
def entry:(ms:List AM)→HP ms→Nat→St→St
 |[],_,_,σ=>σ
 |[m],x,i,σ=>Ih m x i σ
 |m::n::ms,x,i,σ=>entry (n::ms) x.2 (i+1) (Ih m x.1 i σ)
def Bl(E:Env)(m:AM)(r:ResultVar ⊕ Nat)(σ:St)(K:m.den→St→Option α):Option α:=
 match m,r,K with
 | .v τ,.inl (.tmp t),K=>iC true (σ.T t) σ.H τ fun x _ ups=>K x (σ.qp ups)
 | .v τ,.inl (.cell a t),K=>match E.ty t with
  |some τ'=>jk τ' τ (gU (σ.T a) σ.H fun υ y _=>bZ υ τ y fun x=>K x σ)
  |none=>none
 | .own e,.inl (.tmp t),K=>match σ.T t with
  | .emp=>K [] σ
  | .ref id=>match σ.H id with
   |some (.own e' l)=>bZ (.slice e') (.slice e) l fun x=>K x (σ.gX id (some .gone))
   |_=>none
  |_=>none
 | .io τ,.inr i,K=>match σ.T i with
  | .fD id []=>match σ.H id with
   |some (.obj υ x)=>bZ υ τ x fun y=>K y (σ.gX id (some .gone))
   |_=>none
  |_=>none
 | .ptr τ,.inl (.tmp t),K=>match σ.T t with
  | .fD id []=>match σ.H id with
   |some (.obj υ x)=>bZ υ τ x fun y=>K y (σ.gX id (some .gone))
   |_=>none
  |_=>none
 |_,_,_=>none
def Cy(E:Env):(ms:List AM)→List (ResultVar ⊕ Nat)→St→(HP ms→Option α)→Option α
 |[],[],_,K=>K ()
 |[m],[r],σ,K=>Bl E m r σ fun x _=>K x
 |m::n::ms,r::rs,σ,K=>Bl E m r σ fun x σ'=>Cy E (n::ms) rs σ' fun xs=>K (x,xs)
 |_,_,_,_=>none
def vr:List AM→Nat→List (ResultVar ⊕ Nat)
 |[],_=>[]
 | .io _::ms,i=> .inr i::vr ms (i+1)
 |_::ms,i=>vr ms (i+1)
noncomputable def Eo(E:Env)(fn:Func)(args res:List AM)(x:HP args):Option (HP res):=
 match fn.body with
 |none=>none
 |some c=>
  let kr:St→Option (HP res):=fun σ=>Cy E res (fn.results.toList.map .inl++vr args 0) σ some
  xX E c (entry args x 0 ⟨fun _=> .any,fun _=>none⟩) kr (fun _ _=>none) kr
end
end VM
end
section
namespace VM
open Go
noncomputable def pX(N:Nat)(x y c:Int):Option (Int×Int):=if 0≤x∧0≤y∧0≤c∧c≤1 then some ((x+y+c)%18446744073709551616,(x+y+c)/18446744073709551616)else none
noncomputable def pY(N:Nat)(x y c:Int):Option (Int×Int):=if 0≤x∧x<18446744073709551616∧0≤y∧y<18446744073709551616∧0≤c∧c≤1 then some ((x+18446744073709551616-y-c)%18446744073709551616,if x<y+c then 1 else 0)else none
noncomputable def gy{α:Type}(N:Nat)(l:List α)(i:Int)(v:List α):Option (List α):=if 0≤i∧i≤l.length∧v.length=1∧l.length+1<tx then some (l.take i.toNat++(v++l.drop i.toNat))else none
noncomputable def Q8{α:Type}(N:Nat)(l:List α)(n:Int):Option (List α):=match l with
 |[x]=>if 0<n∧n<1048576 then some (List.replicate n.toNat x)else none
 |_=>none
noncomputable def pX.S(N:Nat):g8:={args:=[.v (.int .u64),.v (.int .u64),.v (.int .u64)],res:=[.v (.int .u64),.v (.int .u64)],quiet:=true,run:=fun x=>pX N x.1 x.2.1 x.2.2}
noncomputable def pY.S(N:Nat):g8:={args:=[.v (.int .u64),.v (.int .u64),.v (.int .u64)],res:=[.v (.int .u64),.v (.int .u64)],quiet:=true,run:=fun x=>pY N x.1 x.2.1 x.2.2}
noncomputable def gz(e:Ty)(N:Nat):g8:={args:=[.own e,.v (.int .i64),.own e],res:=[.own e],quiet:=false,run:=fun x=>gy N x.1 x.2.1 x.2.2}
noncomputable def aiB(e:Ty)(N:Nat):g8:={args:=[.v (.slice e),.v (.int .i64)],res:=[.own e],quiet:=false,run:=fun x=>Q8 N x.1 x.2}
noncomputable def jX{α:Type}(N:Nat)(l:List α):Option (List α):=if l.length<tx then some l else none
noncomputable def qy(e:Ty)(N:Nat):g8:={args:=[.v (.slice e)],res:=[.own e],quiet:=false,run:=fun x=>jX N x}
end VM
namespace VM
abbrev cc:Int×Int×Unit:=((0:Int),((0:Int),()))
abbrev bK:List (Int×Int×Unit):=[]
abbrev aS:Int×Int×Int×Unit:=((0:Int),((0:Int),((0:Int),())))
abbrev bp:List (Int×Int×Int×Unit):=[]
abbrev aN:Int×Int×Int×Int×Unit:=((0:Int),((0:Int),((0:Int),((0:Int),()))))
abbrev cL:List (Int×Int×Int×Int×Unit):=[]
abbrev jY:Int×Int×Int×Int×Int×Unit:=((0:Int),((0:Int),((0:Int),((0:Int),((0:Int),())))))
abbrev xY:List (Int×Int×Int×Int×Int×Unit):=[]
abbrev eB:Int×Int×Int×Int×Int×Int×Unit:=((0:Int),((0:Int),((0:Int),((0:Int),((0:Int),((0:Int),()))))))
abbrev c9:List (Int×Int×Int×Int×Int×Int×Unit):=[]
abbrev XF:Int×Int×Int×Int×Int×Int×Int×Unit:=((0:Int),((0:Int),((0:Int),((0:Int),((0:Int),((0:Int),((0:Int),())))))))
abbrev ee7:List (Int×Int×Int×Int×Int×Int×Int×Unit):=[]
abbrev zz8:Int×Int×Int×Int×Int×Int×Int×Int×Unit:=((0:Int),((0:Int),((0:Int),((0:Int),((0:Int),((0:Int),((0:Int),((0:Int),()))))))))
abbrev ee8:List (Int×Int×Int×Int×Int×Int×Int×Int×Unit):=[]
abbrev c4:List Int:=[]
abbrev ld:List Int×Unit:=(c4,())
end VM
end
section
namespace VM
open Go
def At(w:World)(b off:Nat)(cs:List Value):Prop:= ∀j v,cs[j]? =some v→w.cell? ⟨b,off+j,none⟩=some v
def Rd(w:World)(M:Nat→Prop):(τ:Ty)→List Value→τ.den→Prop
 | .int k,cs,x=>cs=[.int k x]
 | .bool,cs,x=>cs=[.bool x]
 | .str,cs,x=>cs=[.string x]
 | .slice e,cs,x=> ∃a cap,cs=[.slice a (List.length x) cap]∧List.length x≤cap∧
  ∀i (h:i<List.length x),∃b off,a=some ⟨b,off,none⟩∧b<w.heap.size∧ ¬M b∧ ∃cs',At w b (off+i*e.size) cs'∧Rd w M e cs' (List.get x ⟨i,h⟩)
 | .unit,cs,_=>cs=[]
 | .pair a b,cs,x=> ∃c1 c2,cs=c1++c2∧Rd w M a c1 x.1∧Rd w M b c2 x.2
 | .arr n e,cs,x=>List.length x=n∧ ∃K4:List (List Value),K4.length=n∧cs=K4.flatten∧
  ∀i (h:i<List.length x) (h':i<K4.length),Rd w M e K4[i] (List.get x ⟨i,h⟩)
theorem kE{α:Type}(n:Nat): ∀(l:List (List α)),(∀i (h:i<l.length),l[i].length=n)→l.flatten.length=l.length*n
 |[],_=>by simp
 |a::l,h=>by
  have h0:=h 0 (by simp)
  have ih:=kE n l (fun i hi=>h (i+1) (by simp;omega))
  simp only[List.getElem_cons_zero]at h0
  simp only[List.flatten_cons,List.length_append,List.length_cons,ih,h0,Nat.add_mul]
  omega
theorem Rd.length{w:World}{M:Nat→Prop}: ∀{τ:Ty} {cs:List Value} {x:τ.den},Rd w M τ cs x→cs.length=τ.size
 | .int _,_,_,h=>by simp only[Rd]at h;subst h;rfl
 | .bool,_,_,h=>by simp only[Rd]at h;subst h;rfl
 | .str,_,_,h=>by simp only[Rd]at h;subst h;rfl
 | .slice _,_,_,h=>by simp only[Rd]at h;obtain⟨a,cap,rfl,_⟩:=h;rfl
 | .unit,_,_,h=>by simp only[Rd]at h;subst h;rfl
 | .pair a b,_,_,h=>by
  simp only[Rd]at h
  obtain⟨c1,c2,rfl,h1,h2⟩:=h
  rw[List.length_append,h1.length,h2.length];rfl
 | .arr n e,_,x,h=>by
  simp only[Rd]at h
  obtain⟨hn,K4,hc,rfl,hr⟩:=h
  rw[kE e.size K4 (fun i hi=>(hr i (by omega) hi).length),hc];rfl
structure di(w:World)(M:Nat→Prop)(w':World)(M':Nat→Prop):Prop where
 size:w.heap.size≤w'.heap.size
 block: ∀b,b<w.heap.size→ ¬M b→w'.heap[b]? =w.heap[b]?
 less: ∀b,b<w.heap.size→M' b→M b
theorem YP{w:World}{b o:Nat}{v:Value}(h:w.cell? ⟨b,o,none⟩=some v):b<w.heap.size:=by
 simp only[World.cell?]at h
 rcases Nat.lt_or_ge b w.heap.size with hb|hb
 ·exact hb
 ·simp[Array.getElem?_eq_none hb]at h
theorem At.bs{w w':World}{b off:Nat}{cs:List Value}(h:At w b off cs)(hb:w'.heap[b]? =w.heap[b]?):At w' b off cs:=by
 intro j v hj
 have:=h j v hj
 rw[World.cell?_of_block (w:=w) hb]
 exact this
theorem At.append{w:World}{b off:Nat}{c1 c2:List Value}:At w b off (c1++c2)↔At w b off c1∧At w b (off+c1.length) c2:=by
 constructor
 ·intro h
  refine⟨fun j v hj=>h j v (by rw[List.getElem?_append_left];exact hj;exact(List.getElem?_eq_some_iff.1 hj).1),fun j v hj=> ?_⟩
  have:=h (c1.length+j) v (by rw[List.getElem?_append_right (by omega)];simpa using hj)
  rw[Nat.add_assoc];exact this
 ·rintro⟨h1,h2⟩ j v hj
  by_cases dF:j<c1.length
  ·rw[List.getElem?_append_left dF]at hj;exact h1 j v hj
  ·rw[List.getElem?_append_right (by omega)]at hj
   have:=h2 (j-c1.length) v hj
   rwa [show off+c1.length+(j-c1.length)=off+j from by omega]at this
theorem Rd.bs{w w':World}{M M':Nat→Prop}(k:di w M w' M'): ∀{τ:Ty} {cs:List Value} {x:τ.den},Rd w M τ cs x→Rd w' M' τ cs x
 | .int _,_,_,h=>h
 | .bool,_,_,h=>h
 | .str,_,_,h=>h
 | .slice e,_,x,h=>by
  simp only[Rd]at h ⊢
  obtain⟨a,cap,rfl,hc,hr⟩:=h
  refine⟨a,cap,rfl,hc,fun i hi=> ?_⟩
  obtain⟨b,off,ha,hb,hm,cs',lL,gV⟩:=hr i hi
  exact⟨b,off,ha,Nat.lt_of_lt_of_le hb k.size,fun h'=>hm (k.less b hb h'),_,lL.bs (k.block b hb hm),gV.bs k⟩
 | .unit,_,_,h=>h
 | .pair a b,_,_,h=>by
  simp only[Rd]at h ⊢
  obtain⟨c1,c2,rfl,h1,h2⟩:=h
  exact⟨c1,c2,rfl,h1.bs k,h2.bs k⟩
 | .arr n e,_,x,h=>by
  simp only[Rd]at h ⊢
  obtain⟨hn,K4,hc,rfl,hr⟩:=h
  exact⟨hn,K4,hc,rfl,fun i hi iF=>(hr i hi iF).bs k⟩
theorem di.refl(w:World)(M:Nat→Prop):di w M w M:=⟨Nat.le_refl _,fun _ _ _=>rfl,fun _ _ h=>h⟩
theorem di.trans{w w' w'':World}{M M' HN:Nat→Prop}(h:di w M w' M')(k:di w' M' w'' HN):di w M w'' HN:=
 ⟨Nat.le_trans h.size k.size,fun b hb hm=>(k.block b (Nat.lt_of_lt_of_le hb h.size) (fun h'=>hm (h.less b hb h'))).trans (h.block b hb hm),
  fun b hb hm=>h.less b hb (k.less b (Nat.lt_of_lt_of_le hb h.size) hm)⟩
def V(w:World)(M:Nat→Prop)(τ:Ty)(v:Value)(x:τ.den):Prop:=
 if τ.isAgg then ∃cs,v= .agg cs∧Rd w M τ cs.toList x else Rd w M τ [v] x
theorem V.bs{w w':World}{M M':Nat→Prop}(k:di w M w' M'){τ:Ty}{v:Value}{x:τ.den}(h:V w M τ v x):V w' M' τ v x:=by
 unfold V at*
 split
 ·rename_i ha;rw[if_pos ha]at h;obtain⟨cs,rfl,h⟩:=h;exact⟨cs,rfl,h.bs k⟩
 ·rename_i ha;rw[if_neg ha]at h;exact h.bs k
theorem Rd.scalar{w:World}{M:Nat→Prop}{τ:Ty}{cs:List Value}{x:τ.den}(ha:τ.isAgg=false)(h:Rd w M τ cs x): ∃v,cs=[v]∧v.cells= #[v]:=by
 cases τ<;>simp only[Ty.isAgg,Bool.true_eq_false]at ha<;>simp only[Rd]at h
 ·exact⟨_,h,rfl⟩
 ·exact⟨_,h,rfl⟩
 ·exact⟨_,h,rfl⟩
 ·obtain⟨a,cap,rfl,_⟩:=h;exact⟨_,rfl,rfl⟩
theorem V.cells{w:World}{M:Nat→Prop}{τ:Ty}{v:Value}{x:τ.den}(h:V w M τ v x):Rd w M τ v.cells.toList x:=by
 unfold V at h
 by_cases ha:τ.isAgg=true
 ·rw[if_pos ha]at h;obtain⟨cs,rfl,h⟩:=h;exact h
 ·rw[if_neg ha]at h
  obtain⟨v',hv,hc⟩:=h.scalar (by simpa using ha)
  simp only[List.cons.injEq,and_true]at hv
  subst hv
  rw[hc];exact h
def bF(τ:Ty)(cs:List Value):Value:=if τ.isAgg then .agg cs.toArray else cs.headD (.tuple #[])
theorem V.bF{w:World}{M:Nat→Prop}{τ:Ty}{cs:List Value}{x:τ.den}(h:Rd w M τ cs x):V w M τ (bF τ cs) x:=by
 unfold V VM.bF
 by_cases ha:τ.isAgg=true
 ·rw[if_pos ha,if_pos ha];exact⟨_,rfl,by simpa using h⟩
 ·rw[if_neg ha,if_neg ha]
  obtain⟨v',rfl,_⟩:=h.scalar (by simpa using ha)
  exact h
theorem AF{w:World}{M:Nat→Prop}{τ:Ty}{cs:List Value}{x:τ.den}(h:Rd w M τ cs x):(bF τ cs).cells.toList=cs:=by
 unfold VM.bF
 by_cases ha:τ.isAgg=true
 ·rw[if_pos ha];simp[Value.cells]
 ·rw[if_neg ha]
  obtain⟨v',rfl,hc⟩:=h.scalar (by simpa using ha)
  simp[hc]
theorem Rd.kv{w:World}{M:Nat→Prop}: ∀{τ:Ty} {cs:List Value} {x:τ.den},Rd w M τ cs x→ ∀v∈cs,v.oneCell'=true
 | .int _,_,_,h=>by simp only[Rd]at h;subst h;simp[Value.oneCell']
 | .bool,_,_,h=>by simp only[Rd]at h;subst h;simp[Value.oneCell']
 | .str,_,_,h=>by simp only[Rd]at h;subst h;simp[Value.oneCell']
 | .slice _,_,_,h=>by simp only[Rd]at h;obtain⟨a,cap,rfl,_⟩:=h;simp[Value.oneCell']
 | .unit,_,_,h=>by simp only[Rd]at h;subst h;simp
 | .pair a b,_,_,h=>by
  simp only[Rd]at h
  obtain⟨c1,c2,rfl,h1,h2⟩:=h
  intro v hv
  rcases List.mem_append.1 hv with hv|hv
  ·exact h1.kv v hv
  ·exact h2.kv v hv
 | .arr n e,_,x,h=>by
  simp only[Rd]at h
  obtain⟨hn,K4,hc,rfl,hr⟩:=h
  intro v hv
  obtain⟨l,hl,hvl⟩:=List.mem_flatten.1 hv
  obtain⟨i,hi,rfl⟩:=List.mem_iff_getElem.1 hl
  exact(hr i (by omega) hi).kv v hvl
def Ty.b9:Ty→List Value
 | .int k=>[.int k 0]
 | .bool=>[.bool false]
 | .str=>[.string ByteArray.empty]
 | .slice _=>[.slice none 0 0]
 | .unit=>[]
 | .pair a b=>a.b9++b.b9
 | .arr n e=>(List.replicate n e.b9).flatten
theorem Rd.zero(w:World)(M:Nat→Prop): ∀(τ:Ty),Rd w M τ τ.b9 τ.zero
 | .int _| .bool| .str| .unit=>by simp[Rd,Ty.b9,Ty.zero]
 | .slice _=>by
  simp only[Rd,Ty.b9,Ty.zero]
  exact⟨none,0,rfl,Nat.le_refl _,fun i h=>absurd h (by simp)⟩
 | .pair a b=>by
  simp only[Rd,Ty.b9,Ty.zero]
  exact⟨_,_,rfl,Rd.zero w M a,Rd.zero w M b⟩
 | .arr n e=>by
  simp only[Rd,Ty.b9,Ty.zero]
  refine⟨by simp,_,by simp,rfl,fun i h h'=> ?_⟩
  simp only[List.getElem_replicate,List.get_eq_getElem]
  exact Rd.zero w M e
end VM
end
section
namespace VM
open Go
def Cz(P:Program)(τ:Ty)(t:TypeId):Prop:=
 ∃i,P.info? t=some i∧i.size=τ.size∧i.zero=some (bF τ τ.b9)∧i.bytes≤2048
def dC(P:Program):Ty→TypeId ⊕ (Array Field×Nat×Nat)→Prop
 | .int k,.inl t=>Cz P (.int k) t∧P.underlying t=some (.int k)
 | .bool,.inl t=>Cz P .bool t∧P.underlying t=some .bool
 | .str,.inl t=>Cz P .str t∧P.underlying t=some .string
 | .slice e,.inl t=>Cz P (.slice e) t∧ ∃e',P.underlying t=some (.slice e')∧dC P e (.inl e')
 | .arr n e,.inl t=>Cz P (.arr n e) t∧ ∃e',P.underlying t=some (.array n e')∧dC P e (.inl e')
 | .unit,.inl t=>Cz P .unit t∧ ∃fs,P.underlying t=some (.struct fs)∧fs.size=0
 | .unit,.inr (fs,n,_)=>fs.size=n
 | .pair a b,.inl t=>Cz P (.pair a b) t∧ ∃fs f,P.underlying t=some (.struct fs)∧fs[0]? =some f∧f.offset=0∧dC P a (.inl f.type)∧dC P b (.inr (fs,1,a.size))
 | .pair a b,.inr (fs,n,off)=> ∃f,fs[n]? =some f∧f.offset=off∧dC P a (.inl f.type)∧dC P b (.inr (fs,n+1,off+a.size))
 |_,.inr _=>False
def gA(P:Program)(τ:Ty)(t:TypeId):Prop:=dC P τ (.inl t)
theorem gA.base{P:Program}{τ:Ty}{t:TypeId}(h:gA P τ t):Cz P τ t:=by
 unfold gA at h;cases τ<;>simp only[dC]at h<;>exact h.1
theorem gA.int{P:Program}{k:IntKind}{t:TypeId}(h:gA P (.int k) t):P.underlying t=some (.int k):=by simp only[gA,dC]at h;exact h.2
theorem gA.bool{P:Program}{t:TypeId}(h:gA P .bool t):P.underlying t=some .bool:=by simp only[gA,dC]at h;exact h.2
theorem gA.str{P:Program}{t:TypeId}(h:gA P .str t):P.underlying t=some .string:=by simp only[gA,dC]at h;exact h.2
theorem gA.slice{P:Program}{e:Ty}{t:TypeId}(h:gA P (.slice e) t): ∃e',P.underlying t=some (.slice e')∧gA P e e':=by simp only[gA,dC]at h;exact h.2
theorem gA.arr{P:Program}{n:Nat}{e:Ty}{t:TypeId}(h:gA P (.arr n e) t): ∃e',P.underlying t=some (.array n e')∧gA P e e':=by simp only[gA,dC]at h;exact h.2
theorem gA.isSome{P:Program}{τ:Ty}{t:TypeId}(h:gA P τ t):(P.underlying t).isSome=true:=by
 unfold gA at h
 cases τ<;>simp only[dC]at h
 ·simp[h.2]
 ·simp[h.2]
 ·simp[h.2]
 ·obtain⟨_,e',h',_⟩:=h;simp[h']
 ·obtain⟨_,e',h',_⟩:=h;simp[h']
 ·obtain⟨_,e',f,h',_⟩:=h;simp[h']
 ·obtain⟨_,e',h',_⟩:=h;simp[h']
inductive xj:(τ:Ty)→τ.den→Nat→(υ:Ty)→υ.den→Nat→Prop where
 |here {a b:Ty} (x:(Ty.pair a b).den):xj (.pair a b) x 0 a x.1 0
 |there {a b:Ty} (x:(Ty.pair a b).den) {n:Nat} {υ:Ty} {y:υ.den} {o:Nat} (h:xj b x.2 n υ y o):xj (.pair a b) x (n+1) υ y (a.size+o)
theorem oC{α:Type}{r:α}: ∀{τ:Ty} {x:τ.den} {n:Nat} {k:(υ:Ty)→υ.den→Option α},sj τ x n k=some r→ ∃υ y o,xj τ x n υ y o∧k υ y=some r
 | .pair a b,x,0,k,h=>⟨a,x.1,0,.here x,h⟩
 | .pair a b,x,n+1,k,h=>by
  obtain⟨υ,y,o,hf,hk⟩:=oC (τ:=b) (x:=x.2) (n:=n) (k:=k) h
  exact⟨υ,y,_,.there x hf,hk⟩
 | .int _,_,_,_,h| .bool,_,_,_,h| .str,_,_,_,h| .slice _,_,_,_,h| .unit,_,_,_,h| .arr _ _,_,_,_,h=>by simp[sj]at h
theorem xj.bound{τ:Ty}{x:τ.den}{n:Nat}{υ:Ty}{y:υ.den}{o:Nat}(h:xj τ x n υ y o):o+υ.size≤τ.size:=by
 induction h with
 |here x=>simp[Ty.size]
 |there x h ih=>simp only[Ty.size];omega
theorem xj.rd{w:World}{M:Nat→Prop}{τ:Ty}{x:τ.den}{n:Nat}{υ:Ty}{y:υ.den}{o:Nat}(h:xj τ x n υ y o):
  ∀{cs:List Value},Rd w M τ cs x→Rd w M υ ((cs.drop o).take υ.size) y:=by
 induction h with
 |here x=>
  intro cs hr
  simp only[Rd]at hr
  obtain⟨c1,c2,rfl,h1,_⟩:=hr
  rw[List.drop_zero,List.take_left' h1.length];exact h1
 |there x h ih=>
  intro cs hr
  simp only[Rd]at hr
  obtain⟨c1,c2,rfl,h1,h2⟩:=hr
  rw[←List.drop_drop,List.drop_left' h1.length]
  exact ih h2
theorem dC.gw{P:Program}{τ:Ty}{x:τ.den}{m:Nat}{υ:Ty}{y:υ.den}{o:Nat}(h:xj τ x m υ y o):
  ∀{fs:Array Field} {n off:Nat},dC P τ (.inr (fs,n,off))→ ∃f,fs[n+m]? =some f∧f.offset=off+o∧gA P υ f.type:=by
 induction h with
 |here x=>
  intro fs n off hl
  simp only[dC]at hl
  obtain⟨f,hf,ho,ha,_⟩:=hl
  exact⟨f,hf,by simpa using ho,ha⟩
 |there x h ih=>
  intro fs n off hl
  simp only[dC]at hl
  obtain⟨f,hf,ho,_,hb⟩:=hl
  obtain⟨f',xk,ho',D1⟩:=ih hb
  exact⟨f',by rw[←xk];congr 1;omega,by omega,D1⟩
theorem gA.gw{P:Program}{τ:Ty}{t:TypeId}{x:τ.den}{m:Nat}{υ:Ty}{y:υ.den}{o:Nat}(hl:gA P τ t)(h:xj τ x m υ y o):
  ∃fs f,P.underlying t=some (.struct fs)∧fs[m]? =some f∧f.offset=o∧gA P υ f.type:=by
 unfold gA at hl
 cases h with
 |here x=>
  simp only[dC]at hl
  obtain⟨_,fs,f,hu,hf,ho,ha,_⟩:=hl
  exact⟨fs,f,hu,hf,ho,ha⟩
 |there x h=>
  simp only[dC]at hl
  obtain⟨_,fs,f,hu,hf,ho,_,hb⟩:=hl
  obtain⟨f',xk,ho',D1⟩:=dC.gw h hb
  exact⟨fs,f',hu,by rw[←xk];congr 1;omega,by omega,D1⟩
inductive CA:List Step→(τ:Ty)→τ.den→(υ:Ty)→υ.den→Nat→Prop where
 |nil {τ:Ty} (x:τ.den):CA [] τ x τ x 0
 |gw {p:List Step} {τ υ σ:Ty} {x:τ.den} {n o:Nat} {y:υ.den} {z:σ.den} {q:Nat} (h:xj τ x n υ y o) (r:CA p υ y σ z q):CA (.gw n::p) τ x σ z (o+q)
 |idx {p:List Step} {n:Nat} {e σ:Ty} {x:(Ty.arr n e).den} {i:Nat} {z:σ.den} {q:Nat} (r:CA p e (List.getD x i e.zero) σ z q):CA (.idx i::p) (.arr n e) x σ z (i*e.size+q)
theorem gf{α:Type}{r:α}: ∀{p:List Step} {τ:Ty} {x:τ.den} {k:(υ:Ty)→υ.den→Option α},tH p τ x k=some r→ ∃υ y o,CA p τ x υ y o∧k υ y=some r
 |[],τ,x,k,h=>⟨τ,x,0,.nil x,h⟩
 | .gw n::p,τ,x,k,h=>by
  obtain⟨υ,y,o,hf,h'⟩:=oC (h:sj τ x n _=some r)
  obtain⟨σ,z,q,hp,hk⟩:=gf h'
  exact⟨σ,z,_,.gw hf hp,hk⟩
 | .idx i::p,τ,x,k,h=>by
  cases τ with
  |arr n e=>
   obtain⟨σ,z,q,hp,hk⟩:=gf (p:=p) (τ:=e) (x:=List.getD x i e.zero) (k:=k) h
   exact⟨σ,z,_,.idx hp,hk⟩
  |_=>simp[tH,YO]at h
def qf:Ty→Nat→Ty
 | .pair a b,n=>match n with|0=>a|n+1=>qf b n
 |τ,_=>τ
def nB:Ty→Nat→Nat
 | .pair a b,n=>match n with|0=>0|n+1=>a.size+nB b n
 |_,_=>0
def YQ:Ty→Ty
 | .arr _ e=>e
 |τ=>τ
def AG:List Step→Ty→Ty
 |[],τ=>τ
 | .gw n::p,τ=>AG p (qf τ n)
 | .idx _::p,τ=>AG p (YQ τ)
def bC:List Step→Ty→Nat
 |[],_=>0
 | .gw n::p,τ=>nB τ n+bC p (qf τ n)
 | .idx i::p,τ=>i*(YQ τ).size+bC p (YQ τ)
def sl:List Step→Ty→Prop
 |[],_=>True
 | .gw n::p,τ=>sl p (qf τ n)
 | .idx i::p,τ=>(∃n e,τ= .arr n e∧i<n)∧sl p (YQ τ)
theorem xj.eq{τ:Ty}{x:τ.den}{n:Nat}{υ:Ty}{y:υ.den}{o:Nat}(h:xj τ x n υ y o):υ=qf τ n∧o=nB τ n:=by
 induction h with
 |here x=>exact⟨rfl,rfl⟩
 |there x h ih=>obtain⟨rfl,rfl⟩:=ih;exact⟨rfl,rfl⟩
theorem CA.eq{p:List Step}{τ:Ty}{x:τ.den}{υ:Ty}{y:υ.den}{o:Nat}(h:CA p τ x υ y o):υ=AG p τ∧o=bC p τ:=by
 induction h with
 |nil x=>exact⟨rfl,rfl⟩
 |gw h r ih=>
  obtain⟨h1,h2⟩:=h.eq
  obtain⟨h3,h4⟩:=ih
  subst h1 h2 h3 h4
  exact⟨rfl,rfl⟩
 |idx r ih=>
  obtain⟨h3,h4⟩:=ih
  subst h3 h4
  exact⟨rfl,rfl⟩
theorem YR(p q:List Step): ∀τ,AG (p++q) τ=AG q (AG p τ):=by
 induction p with
 |nil=>intro τ;rfl
 |cons s p ih=>intro τ;cases s<;>simp[AG,ih]
theorem nO(p q:List Step): ∀τ,bC (p++q) τ=bC p τ+bC q (AG p τ):=by
 induction p with
 |nil=>intro τ;simp[bC,AG]
 |cons s p ih=>intro τ;cases s<;>simp[bC,AG,ih,Nat.add_assoc]
theorem nP(p q:List Step): ∀τ,sl (p++q) τ↔sl p τ∧sl q (AG p τ):=by
 induction p with
 |nil=>intro τ;simp[sl,AG]
 |cons s p ih=>intro τ;cases s<;>simp[sl,AG,ih,and_assoc]
theorem gB{α:Type}(l:List α)(i:Nat)(d:α)(h:i<l.length):l.getD i d=l[i]:=by simp[List.getD,List.getElem?_eq_getElem h]
theorem tI{α:Type}(n:Nat): ∀(l:List (List α)) (i:Nat) (h:i<l.length),(∀j (hj:j<l.length),l[j].length=n)→(l.flatten.drop (i*n)).take n=l[i]
 |a::l,0,_,hn=>by
  have:=hn 0 (by simp)
  simp only[List.getElem_cons_zero]at this
  simp[←this]
 |a::l,i+1,h,hn=>by
  have h0:=hn 0 (by simp)
  simp only[List.getElem_cons_zero]at h0
  rw[List.flatten_cons,Nat.add_mul,Nat.one_mul,Nat.add_comm (i*n) n,←List.drop_drop,List.drop_left' h0]
  exact tI n l i (by simpa using h) (fun j hj=>hn (j+1) (by simp;omega))
theorem Rd.idx{w:World}{M:Nat→Prop}{n:Nat}{e:Ty}{cs:List Value}{x:(Ty.arr n e).den}(h:Rd w M (.arr n e) cs x){i:Nat}(hi:i<n):
  Rd w M e ((cs.drop (i*e.size)).take e.size) (List.getD x i e.zero):=by
 simp only[Rd]at h
 obtain⟨hn,K4,hc,rfl,hr⟩:=h
 rw[tI e.size K4 i (by omega) (fun j hj=>(hr j (by omega) hj).length),gB x i e.zero (by omega)]
 exact hr i (by omega) (by omega)
theorem CA.bound{p:List Step}{τ:Ty}{x:τ.den}{υ:Ty}{y:υ.den}{o:Nat}(h:CA p τ x υ y o):sl p τ→o+υ.size≤τ.size:=by
 induction h with
 |nil x=>intro _;simp
 |gw h r ih=>
  intro hi
  obtain⟨h1,h2⟩:=h.eq
  subst h1
  have:=ih hi
  have:=h.bound
  omega
 | @idx p n e σ x i z q r ih=>
  intro hi
  obtain⟨⟨n',e',he,jZ⟩,iF⟩:=hi
  cases he
  have:=ih iF
  have h2:(i+1)*e.size≤n*e.size:=Nat.mul_le_mul_right _ jZ
  rw[Nat.add_mul]at h2
  simp only[Ty.size]
  omega
theorem CA.rd{w:World}{M:Nat→Prop}{p:List Step}{τ:Ty}{x:τ.den}{υ:Ty}{y:υ.den}{o:Nat}(h:CA p τ x υ y o):
  sl p τ→ ∀{cs:List Value},Rd w M τ cs x→Rd w M υ ((cs.drop o).take υ.size) y:=by
 induction h with
 |nil x=>intro _ cs hr;rw[List.drop_zero,List.take_of_length_le (by rw[hr.length];exact Nat.le_refl _)];exact hr
 |gw h r ih=>
  intro hi cs hr
  obtain⟨h1,h2⟩:=h.eq
  subst h1
  have:=ih hi (h.rd hr)
  have hb:=CA.bound r hi
  rw[List.drop_take,List.drop_drop,List.take_take,Nat.min_eq_left (by omega)]at this
  exact this
 | @idx p n e σ x i z q r ih=>
  intro hi cs hr
  obtain⟨⟨n',e',he,jZ⟩,iF⟩:=hi
  cases he
  have:=ih iF (hr.idx jZ)
  have hb:=CA.bound r iF
  rw[List.drop_take,List.drop_drop,List.take_take,Nat.min_eq_left (by omega)]at this
  exact this
def dj{α:Type}(cs:List α)(o:Nat)(new:List α):List α:=cs.take o++new++cs.drop (o+new.length)
theorem tJ{α:Type}{a b:List α}{o:Nat}{new:List α}(h:o+new.length≤a.length):dj (a++b) o new=dj a o new++b:=by
 unfold dj
 rw[List.take_append_of_le_length (by omega),List.drop_append_of_le_length (by omega)]
 simp only[List.append_assoc]
theorem ry{α:Type}{a b:List α}{o:Nat}{new:List α}:dj (a++b) (a.length+o) new=a++dj b o new:=by
 unfold dj
 rw[List.take_append,List.take_of_length_le (by omega),Nat.add_sub_cancel_left,Nat.add_assoc,List.drop_append,List.drop_of_length_le (by omega),Nat.add_sub_cancel_left]
 simp
theorem ec{α:Type}{a:List α}{o:Nat}{new:List α}(h:o+new.length≤a.length):(dj a o new).length=a.length:=by
 unfold dj;simp;omega
theorem CB{α:Type}{a:List α}{o i n:Nat}{new:List α}(h:i+n≤o∨o+new.length≤i)(hl:o+new.length≤a.length):((dj a o new).drop i).take n=(a.drop i).take n:=by
 apply List.ext_getElem?
 intro j
 simp only[List.getElem?_take,List.getElem?_drop]
 split
 ·rename_i hj
  unfold dj
  rcases h with h|h
  ·rw[List.append_assoc,List.getElem?_append_left (by simp;omega),List.getElem?_take,if_pos (by omega)]
  ·rw[List.getElem?_append_right (by simp;omega)]
   simp only[List.length_append,List.length_take,Nat.min_eq_left (show o≤a.length by omega),List.getElem?_drop]
   congr 1;omega
 ·rfl
theorem YS{α:Type}{a:List α}{o:Nat}{new:List α}(hl:o+new.length≤a.length):((dj a o new).drop o).take new.length=new:=by
 unfold dj
 rw[List.append_assoc,List.drop_left' (by simp;omega),List.take_left' rfl]
theorem Ep{α:Type}{l:List α}{o:Nat}{u:α}(h:l[o]? =some u):dj l o [u]=l:=by
 obtain⟨dF,rfl⟩:=List.getElem?_eq_some_iff.1 h
 unfold dj
 simp
theorem xZ{α:Type}{l:List α}{o:Nat}{u:α}(h:o<l.length):(dj l o [u])[o]? =some u:=by
 unfold dj
 rw[List.append_assoc,List.getElem?_append_right (by simp;omega)]
 simp[Nat.min_eq_left (Nat.le_of_lt h)]
theorem oD{τ:Ty}: ∀{n:Nat} {a:Ty},Cu τ n=some a→ ∀x:τ.den,∃y o,xj τ x n a y o:=by
 induction τ with
 |pair a b _ No=>
  intro n c h x
  cases n with
  |zero=>cases h;exact⟨_,_,.here x⟩
  |succ n=>
   obtain⟨y,o,hf⟩:=No (n:=n) (a:=c) h x.2
   exact⟨y,_,.there x hf⟩
 |_=>intro n c h;simp[Cu]at h
theorem oE: ∀{p:List Step} {τ υ:Ty},ew p τ υ=true→ ∀x:τ.den,∃y o,CA p τ x υ y o
 |[],τ,υ,h,x=>by
  have h:=of_decide_eq_true h
  subst h
  exact⟨x,0,.nil x⟩
 | .gw n::p,τ,υ,h,x=>by
  unfold ew at h
  split at h
  ·rename_i a ha
   obtain⟨y,o,hf⟩:=oD ha x
   obtain⟨z,q,hp⟩:=oE h y
   exact⟨z,_,.gw hf hp⟩
  ·cases h
 | .idx _::_,_,_,h,_=>by simp[ew]at h
theorem gC: ∀{p:List Step} {τ υ:Ty},ew p τ υ=true→sl p τ∧AG p τ=υ
 |[],τ,υ,h=>⟨trivial,of_decide_eq_true h⟩
 | .gw n::p,τ,υ,h=>by
  have h0:=h
  unfold ew at h
  split at h
  ·rename_i a ha
   obtain⟨y,o,hf⟩:=oD ha τ.zero
   obtain⟨h1,h2⟩:=gC h
   have:=hf.eq.1
   subst this
   exact⟨h1,h2⟩
  ·cases h
 | .idx _::_,_,_,h=>by simp[ew]at h
theorem vt: ∀{p q:List Step},Ef p q=true→p=q
 |[],[],_=>rfl
 | .gw a::p,.gw b::q,h=>by
  simp only[Ef,Bool.and_eq_true]at h
  rw[Nat.eq_of_beq_eq_true h.1,vt h.2]
 |[],_::_,h| .gw _::_,[],h| .idx _::_,_,h| .gw _::_,.idx _::_,h=>by simp[Ef]at h
theorem xj.apart{τ:Ty}{x:τ.den}{n:Nat}{υ:Ty}{y:υ.den}{o:Nat}(h:xj τ x n υ y o): ∀{x':τ.den} {n':Nat} {υ':Ty} {y':υ'.den} {o':Nat},xj τ x' n' υ' y' o'→n≠n'→o+υ.size≤o'∨o'+υ'.size≤o:=by
 induction h with
 |here x=>
  intro x' n' υ' y' o' h' g9
  cases h' with
  |here=>exact absurd rfl g9
  |there _ h'=>left;omega
 |there x h ih=>
  intro x' n' υ' y' o' h' g9
  cases h' with
  |here=>right;omega
  |there _ h'=>rcases ih h' (fun e=>g9 (by rw[e]))with h1|h1<;>omega
theorem CA.apart{p:List Step}{τ:Ty}{x:τ.den}{υ:Ty}{y:υ.den}{o:Nat}(h:CA p τ x υ y o):sl p τ→ ∀{q:List Step} {e:Ty},ew q τ (.slice e)=true→si p q=false→bC q τ<o∨o+υ.size≤bC q τ:=by
 induction h with
 |nil x=>intro _ q e _ h;simp[si]at h
 | @gw p τ υ σ x n o y z q hf r ih=>
  intro hi q' e hq hp
  obtain⟨h1,h2⟩:=hf.eq
  subst h1 h2
  cases q' with
  |nil=>
   have:=of_decide_eq_true hq
   subst this
   cases hf
  |cons s q'=>
   cases s with
   |idx i=>simp[ew]at hq
   |gw m=>
    unfold ew at hq
    split at hq
    ·rename_i a ha
     obtain⟨y',o',xk⟩:=oD ha x
     obtain⟨h3,h4⟩:=xk.eq
     subst h3 h4
     have hb:=r.bound hi
     obtain⟨h5,h6⟩:=gC hq
     obtain⟨z',o2,Bm⟩:=oE hq y'
     have dw:=Bm.bound h5
     have ho2:=Bm.eq.2
     subst ho2
     simp only[bC]
     by_cases hnm:n=m
     ·subst hnm
      have AH:si p q'=false:=by
       simp only[si,Bool.and_eq_false_iff]at hp
       rcases hp with hp|hp
       ·rw[Nat.beq_refl]at hp;cases hp
       ·exact hp
      rcases ih hi hq AH with h7|h7<;>omega
     ·rcases hf.apart xk hnm with h7|h7
      ·right;omega
      ·left
       have:1≤(Ty.slice e).size:=Nat.le_refl _
       omega
    ·cases hq
 | @idx p n e' σ x i z q r ih=>
  intro hi q' e hq hp
  cases q' with
  |nil=>have:=of_decide_eq_true hq;cases this
  |cons s q'=>
   cases s with
   |idx i=>simp[ew]at hq
   |gw m=>simp[ew,Cu]at hq
def ej:Value→Option Nat
 | .pointer (some a)=>some a.block
 | .slice (some a) _ cap=>if cap=0 then none else some a.block
 |_=>none
def aP.mut:aP→Prop
 | .obj _ _| .own _ _| .dP _ _ _ _=>True
 |_=>False
def ER(w:World)(M:Nat→Prop)(v:Value):aP→Prop
 | .obj τ x=> ∃b cs t,v= .pointer (some ⟨b,0,none⟩)∧w.heap[b]? =some (.cells cs t (0,0))∧M b∧Rd w M τ cs.toList x
 | .dP τ x p _=> ∃b cs t nQ u,v= .pointer (some ⟨b,0,none⟩)∧w.heap[b]? =some (.cells cs t (0,0))∧M b∧Rd w M τ nQ x∧cs.toList=dj nQ (bC p τ) [u]∧u.oneCell'=true∧ ∃e,ew p τ (.slice e)=true
 | .own e l=>(l=[]∧ ∃a,v= .slice a 0 0)∨
  ∃b cs t cap,v= .slice (some ⟨b,0,none⟩) l.length cap∧w.heap[b]? =some (.cells cs t (0,0))∧M b∧0<cap∧l.length≤cap∧cap≤maxLen∧cs.size=cap*e.size∧
   ∀i (h:i<l.length),Rd w M e ((cs.toList.drop (i*e.size)).take e.size) l[i]
 | .ku e l=>Rd w M (.slice e) [v] l∧((l=[]∧ ∃a n c,v= .slice a n c)∨ ∃b n c,v= .slice (some ⟨b,0,none⟩) n c)
 | .gone=>True
def AR(v:Value)(p:List Step)(u:Value):aP→Prop
 | .obj τ _| .dP τ _ _ _=>sl p τ∧ ∃b,v= .pointer (some ⟨b,0,none⟩)∧u= .pointer (some ⟨b,bC p τ,none⟩)
 | .own e l| .ku e l=> ∃i q,p= .idx i::q∧i<l.length∧sl q e∧ ∃b n c,v= .slice (some ⟨b,0,none⟩) n c∧u= .pointer (some ⟨b,i*e.size+bC q e,none⟩)
 | .gone=> ∃a,u= .pointer (some a)
mutual
def VR(w:World)(M:Nat→Prop)(H:Nat→Option aP)(ν:Nat→Value):aY→Value→Prop
 | .any,_=>True
 | .Nm,v=>v=undef
 | .val τ x,v=>V w M τ v x
 | .Cv τ x n,v=>V w M τ v x∧ ∃cs a,v= .agg cs∧cs.toList[nB τ n]? =some (.slice a 0 0)
 | .emp,v=> ∃a,v= .slice a 0 0
 | .ref id,v=>H id≠none∧v=ν id
 | .fD id p,v=> ∃e,H id=some e∧AR (ν id) p v e
 | .my τ x,v=> ∃b off,v= .pointer (some ⟨b,off,none⟩)∧b<w.heap.size∧ ¬M b∧ ∃cs,At w b off cs∧Rd w M τ cs x
 | .tup vs,v=> ∃us:List Value,v= .tuple us.toArray∧fF w M H ν vs us
 | .Eg f caps,v=> ∃cs:List Value,v= .func (.func f) #[] cs.toArray∧fF w M H ν caps cs
def fF(w:World)(M:Nat→Prop)(H:Nat→Option aP)(ν:Nat→Value):List aY→List Value→Prop
 |[],[]=>True
 |a::as,v::vs=>VR w M H ν a v∧fF w M H ν as vs
 |_,_=>False
end
def aP.hO:aP→aP→Prop
 | .obj τ _,.obj υ _| .obj τ _,.dP υ _ _ _| .dP τ _ _ _,.obj υ _| .dP τ _ _ _,.dP υ _ _ _=>τ=υ
 | .own e l,.own f k| .own e l,.ku f k| .ku e l,.ku f k=>e=f∧l.length=k.length
 |_,.gone=>True
 |_,_=>False
structure oe(H:Nat→Option aP)(ν:Nat→Value)(H':Nat→Option aP)(ν':Nat→Value):Prop where
 iO: ∀i e,H i=some e→ ∃e',H' i=some e'∧e.hO e'
 head: ∀i,H i≠none→ν' i=ν i
theorem AR.ptr{v:Value}{p:List Step}{u:Value}{e:aP}(h:AR v p u e): ∃a,u= .pointer (some a):=by
 cases e<;>simp only[AR]at h
 ·obtain⟨_,b,_,h⟩:=h;exact⟨_,h⟩
 ·obtain⟨_,b,_,h⟩:=h;exact⟨_,h⟩
 ·obtain⟨i,q,_,_,_,b,n,c,_,h⟩:=h;exact⟨_,h⟩
 ·obtain⟨i,q,_,_,_,b,n,c,_,h⟩:=h;exact⟨_,h⟩
 ·exact h
theorem AR.hO{v:Value}{p:List Step}{u:Value}{e e':aP}(h:AR v p u e)(l:e.hO e'):AR v p u e':=by
 have hp:=h.ptr
 cases e<;>cases e'<;>simp only[aP.hO]at l<;>simp only[AR]at h ⊢ <;>try exact hp
 ·subst l;exact h
 ·subst l;exact h
 ·subst l;exact h
 ·subst l;exact h
 ·obtain⟨rfl,hl⟩:=l;obtain⟨i,q,hp,hi,r⟩:=h;exact⟨i,q,hp,by omega,r⟩
 ·obtain⟨rfl,hl⟩:=l;obtain⟨i,q,hp,hi,r⟩:=h;exact⟨i,q,hp,by omega,r⟩
 ·obtain⟨rfl,hl⟩:=l;obtain⟨i,q,hp,hi,r⟩:=h;exact⟨i,q,hp,by omega,r⟩
theorem aP.hO.refl(e:aP):e.hO e:=by cases e<;>simp[aP.hO]
theorem oe.refl(H:Nat→Option aP)(ν:Nat→Value):oe H ν H ν:=⟨fun _ e h=>⟨e,h,.refl e⟩,fun _ _=>rfl⟩
mutual
theorem VR.bs{w w':World}{M M':Nat→Prop}{H H':Nat→Option aP}{ν ν':Nat→Value}(k:di w M w' M')(g:oe H ν H' ν'):
  ∀{a:aY} {v:Value},VR w M H ν a v→VR w' M' H' ν' a v
 | .any,_,_=>by simp[VR]
 | .Nm,_,h=>by simpa [VR]using h
 | .val τ x,v,h=>by simp only[VR]at h ⊢;exact h.bs k
 | .Cv τ x n,v,h=>by simp only[VR]at h ⊢;exact⟨h.1.bs k,h.2⟩
 | .emp,_,h=>by simpa [VR]using h
 | .ref id,_,h=>by
  simp only[VR]at h ⊢
  obtain⟨h1,h2⟩:=h
  obtain⟨e,he⟩:=Option.ne_none_iff_exists'.1 h1
  obtain⟨e',sD,_⟩:=g.iO id e he
  exact⟨by simp[sD],by rw[g.head id h1];exact h2⟩
 | .fD id p,_,h=>by
  simp only[VR]at h ⊢
  obtain⟨e,he,ha⟩:=h
  obtain⟨e',sD,hl⟩:=g.iO id e he
  exact⟨e',sD,by rw[g.head id (by simp[he])];exact ha.hO hl⟩
 | .my τ x,_,h=>by
  simp only[VR]at h ⊢
  obtain⟨b,off,rfl,hb,hm,cs,ha,hr⟩:=h
  exact⟨b,off,rfl,Nat.lt_of_lt_of_le hb k.size,fun h'=>hm (k.less b hb h'),cs,ha.bs (k.block b hb hm),hr.bs k⟩
 | .tup vs,_,h=>by
  simp only[VR]at h ⊢
  obtain⟨us,rfl,h⟩:=h
  exact⟨us,rfl,fF.bs k g h⟩
 | .Eg f caps,_,h=>by
  simp only[VR]at h ⊢
  obtain⟨us,rfl,h⟩:=h
  exact⟨us,rfl,fF.bs k g h⟩
theorem fF.bs{w w':World}{M M':Nat→Prop}{H H':Nat→Option aP}{ν ν':Nat→Value}(k:di w M w' M')(g:oe H ν H' ν'):
  ∀{as:List aY} {vs:List Value},fF w M H ν as vs→fF w' M' H' ν' as vs
 |[],[],_=>by simp[fF]
 |a::as,v::vs,h=>by simp only[fF]at h ⊢;exact⟨VR.bs k g h.1,fF.bs k g h.2⟩
 |[],_::_,h=>by simp[fF]at h
 |_::_,[],h=>by simp[fF]at h
end
end VM
end
