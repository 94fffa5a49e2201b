/- A part of the proof of HedgeFills of layer 22: a machine that reads a function of the program as an equation between values. -/
import GoSem.Claims
import Derived.WalkKit
import Derived.ArgAppend
import Derived.Laws.CopyRow
import Derived.Laws.MakeOwn
import Derived.Laws.OwnMore
import Derived.Orders
import Derived.LoopN
set_option linter.all false
section
namespace VM
open Go
theorem agv{α:Type}(a:α): ∃b:α,b=a:=⟨a,rfl⟩
noncomputable def aU{α:Type}(a:α):α:=Classical.choose (agv a)
theorem ff{α:Type}(a:α):aU a=a:=Classical.choose_spec (agv a)
def uD:Nat:=68719476736
noncomputable def W:IntKind→Int→Int:=aU fun k x=>k.wrap x
noncomputable def aH:Int→Int→Bool:=aU fun x y=>decide (x<y)
noncomputable def bU:Int→Int→Bool:=aU fun x y=>decide (x≤y)
noncomputable def ay:Int→Int→Bool:=aU fun x y=>decide (x=y)
noncomputable def aL:Int→Nat→Bool:=aU fun i n=>decide (0≤i∧i<(n:Int))
noncomputable def small:Nat→Bool:=aU fun n=>decide (n<uD)
noncomputable def fX:Int→Int→Bool:=aU fun l c=>decide (0≤l∧l≤c∧c<(uD:Int))
noncomputable def gD:Int→Int→Int→Int→Bool:=aU fun l h m n=>decide (0≤l∧l≤h∧h≤m∧m≤n)
noncomputable def quo:Int→Int→Int:=aU fun x y=>x.tdiv y
noncomputable def rem:Int→Int→Int:=aU fun x y=>x.tmod y
noncomputable def shl:IntKind→Int→Int→Int:=aU fun k x y=>x*2^(min y.toNat k.bits)
noncomputable def shr:IntKind→Int→Int→Int:=aU fun k x y=>x.fdiv (2^(min y.toNat k.bits))
noncomputable def mx:Int→Int→Int:=aU fun x y=>if y>x then y else x
noncomputable def mn:Int→Int→Int:=aU fun x y=>if y<x then y else x
noncomputable def PA:ByteArray→ByteArray→Bool:=aU fun x y=>decide (x.toList=y.toList)
theorem yi(k:IntKind)(x:Int):W k x=k.wrap x:=by unfold W;rw[ff]
theorem pe(x y:Int):aH x y=decide (x<y):=by unfold aH;rw[ff]
theorem jI(x y:Int):bU x y=decide (x≤y):=by unfold bU;rw[ff]
theorem fY(x y:Int):ay x y=decide (x=y):=by unfold ay;rw[ff]
theorem JV(i:Int)(n:Nat):aL i n=decide (0≤i∧i<(n:Int)):=by unfold aL;rw[ff]
theorem zp(n:Nat):small n=decide (n<uD):=by unfold small;rw[ff]
theorem Cm(l c:Int):fX l c=decide (0≤l∧l≤c∧c<(uD:Int)):=by unfold fX;rw[ff]
theorem uN(l h m n:Int):gD l h m n=decide (0≤l∧l≤h∧h≤m∧m≤n):=by unfold gD;rw[ff]
theorem DI(x y:Int):quo x y=x.tdiv y:=by unfold quo;rw[ff]
theorem PB(x y:Int):rem x y=x.tmod y:=by unfold rem;rw[ff]
theorem PC(k:IntKind)(x y:Int):shl k x y=x*2^(min y.toNat k.bits):=by unfold shl;rw[ff]
theorem JW(k:IntKind)(x y:Int):shr k x y=x.fdiv (2^(min y.toNat k.bits)):=by unfold shr;rw[ff]
theorem Z6(x y:Int):mx x y=if y>x then y else x:=by unfold mx;rw[ff]
theorem Z7(x y:Int):mn x y=if y<x then y else x:=by unfold mn;rw[ff]
theorem zq(x y:ByteArray):PA x y=decide (x.toList=y.toList):=by unfold PA;rw[ff]
inductive Bw where|and|or|xor|andNot
noncomputable def jx:Bw→IntKind→Int→Int→Int:=aU fun o k x y=>
 let a:=BitVec.ofInt k.bits x
 let b:=BitVec.ofInt k.bits y
 k.wrap (match o with| .and=>a&&& b| .or=>a|||b| .xor=>a^^^b| .andNot=>a&&& ~~~b).toNat
theorem qa(o:Bw)(k:IntKind)(x y:Int):jx o k x y=
 let a:=BitVec.ofInt k.bits x
 let b:=BitVec.ofInt k.bits y
 k.wrap (match o with| .and=>a&&& b| .or=>a|||b| .xor=>a^^^b| .andNot=>a&&& ~~~b).toNat:=by unfold jx;rw[ff]
def strOf(l:List Nat):ByteArray:=⟨(l.map UInt8.ofNat).toArray⟩
inductive Ty where
 |int (k:IntKind)
 |bool
 |str
 |slice (e:Ty)
 |unit
 |pair (a b:Ty)
 |arr (n:Nat) (e:Ty)
 deriving DecidableEq
@[reducible] def Ty.den:Ty→Type
 | .int _=>Int
 | .bool=>Bool
 | .str=>ByteArray
 | .slice e=>List e.den
 | .unit=>Unit
 | .pair a b=>a.den×b.den
 | .arr _ e=>List e.den
def Ty.size:Ty→Nat
 | .int _| .bool| .str| .slice _=>1
 | .unit=>0
 | .pair a b=>a.size+b.size
 | .arr n e=>n*e.size
def Ty.isAgg:Ty→Bool
 | .unit| .pair _ _| .arr _ _=>true
 |_=>false
def Ty.zero:(τ:Ty)→τ.den
 | .int _=>(0:Int)
 | .bool=>false
 | .str=>ByteArray.empty
 | .slice _=>[]
 | .unit=>()
 | .pair a b=>(a.zero,b.zero)
 | .arr n e=>List.replicate n e.zero
def Ty.comparable:Ty→Bool
 | .slice _=>false
 | .pair a b=>a.comparable&&b.comparable
 | .arr _ _=>false
 |_=>true
def agw{α:Type}(f:α→α→Bool):List α→List α→Bool
 |[],[]=>true
 |x::xs,y::ys=>f x y&&agw f xs ys
 |_,_=>false
noncomputable def kZ:(τ:Ty)→τ.den→τ.den→Bool
 | .int _,x,y=>ay x y
 | .bool,x,y=>x==y
 | .str,x,y=>PA x y
 | .slice _,_,_=>false
 | .unit,_,_=>true
 | .pair a b,x,y=>kZ a x.1 y.1&&kZ b x.2 y.2
 | .arr _ e,x,y=>agw (kZ e) x y
inductive Step where
 |gX (n:Nat)
 |idx (i:Nat)
def FD:List Step→List Step→Bool
 |[],[]=>true
 | .gX a::p,.gX b::q=>Nat.beq a b&&FD p q
 |_,_=>false
def tb:List Step→List Step→Bool
 |[],_=>true
 | .gX a::p,.gX b::q=>Nat.beq a b&&tb p q
 |_,_=>false
def DJ:Ty→Nat→Option Ty
 | .pair a b,n=>match n with
  |0=>some a
  |n+1=>DJ b n
 |_,_=>none
def eE:List Step→Ty→Ty→Bool
 |[],τ,υ=>decide (τ=υ)
 | .gX n::p,τ,υ=>match DJ τ n with
  |some a=>eE p a υ
  |none=>false
 |_,_,_=>false
inductive a6 where
 |any
 |PD
 |val (τ:Ty) (x:τ.den)
 |DK (τ:Ty) (x:τ.den) (n:Nat)
 |emp
 |ref (id:Nat)
 |fP (id:Nat) (p:List Step)
 |nk (τ:Ty) (x:τ.den)
 |tup (vs:List a6)
 |FE (f:Nat) (caps:List a6)
inductive aR where
 |obj (τ:Ty) (x:τ.den)
 |dW (τ:Ty) (x:τ.den) (p:List Step) (j:Nat)
 |own (e:Ty) (l:List e.den)
 |la (e:Ty) (l:List e.den)
 |gone
structure St where
 T:Nat→a6
 H:Nat→Option aR
def St.put(σ:St)(d:Nat)(v:a6):St:=⟨fun i=>cond (Nat.beq i d) v (σ.T i),σ.H⟩
def St.iv(σ:St)(d:Nat)(v:Option aR):St:=⟨σ.T,fun i=>cond (Nat.beq i d) v (σ.H i)⟩
def St.rl(σ:St)(d:Option Nat)(v:a6):St:=match d with|some d=>σ.put d v|none=>σ
def FF(n:Nat)(io:List Nat):Option Nat→Bool|some d=>Nat.blt d n&&io.all (fun i=> !(Nat.beq i d))|none=>true
def St.rC(σ:St):List (Nat×Option aR)→St
 |[]=>σ
 |u::r=>(σ.iv u.1 u.2).rC r
abbrev S0:St:=⟨fun _=> .any,fun _=>none⟩
abbrev fF:=List (Nat×Option aR)
section K
variable{α:Type}
def tc:(τ:Ty)→τ.den→Nat→((υ:Ty)→υ.den→Option α)→Option α
 | .pair a b,x,n,k=>match n with
  |0=>k a x.1
  |n+1=>tc b x.2 n k
 |_,_,_,_=>none
def jJ:(τ:Ty)→τ.den→Nat→((υ:Ty)→υ.den→(υ.den→Option α)→Option α)→(τ.den→Option α)→Option α
 | .pair a b,x,n,m,k=>match n with
  |0=>m a x.1 fun z=>k (z,x.2)
  |n+1=>jJ b x.2 n m fun z=>k (x.1,z)
 |_,_,_,_,_=>none
def jK(τ υ:Ty)(k:Option α):Option α:=if τ=υ then k else none
def ch(υ τ:Ty)(y:υ.den)(k:τ.den→Option α):Option α:=if h:υ=τ then k (h▸y)else none
def aa8(τ:Ty)(x:τ.den)(i:Nat)(k:(υ:Ty)→υ.den→Option α):Option α:=
 match τ,x with
 | .arr _ e,x=>k e (List.getD x i e.zero)
 |_,_=>none
def yU(τ:Ty)(x:τ.den)(i:Nat)(m:(υ:Ty)→υ.den→(υ.den→Option α)→Option α)(k:τ.den→Option α):Option α:=
 match τ,x,k with
 | .arr _ e,x,k=>m e (List.getD x i e.zero) fun z=>k (List.set x i z)
 |_,_,_=>none
def uO:List Step→(τ:Ty)→τ.den→((υ:Ty)→υ.den→Option α)→Option α
 |[],τ,x,k=>k τ x
 | .gX n::p,τ,x,k=>tc τ x n fun υ y=>uO p υ y k
 | .idx i::p,τ,x,k=>aa8 τ x i fun υ y=>uO p υ y k
def rm(υ:Ty)(y:υ.den):List Step→(τ:Ty)→τ.den→(τ.den→Option α)→Option α
 |[],τ,_,k=>ch υ τ y k
 | .gX n::p,τ,x,k=>jJ τ x n (fun υ' y' k'=>rm υ y p υ' y' k') k
 | .idx i::p,τ,x,k=>yU τ x i (fun υ' y' k'=>rm υ y p υ' y' k') k
def iV(fz:Bool)(a:a6)(H:Nat→Option aR)(τ:Ty)(k:τ.den→List Nat→fF→Option α):Option α:=
 match a with
 | .val υ x=>ch υ τ x fun y=>k y [] []
 | .DK υ x _=>ch υ τ x fun y=>k y [] []
 | .emp=>match τ,k with
  | .slice _,k=>k [] [] []
  |_,_=>none
 | .ref id=>match H id with
  |some (.own e l)=>ch (.slice e) τ l fun y=>k y [id] (cond fz [(id,some (.la e l))] [])
  |some (.la e l)=>ch (.slice e) τ l fun y=>k y [id] []
  |_=>none
 |_=>none
def FG(a:a6)(k:(τ:Ty)→τ.den→Option α):Option α:=
 match a with
 | .val υ x=>k υ x
 |_=>none
def jL(id:Nat)(p:List Step)(H:Nat→Option aR)(k:Ty→Option α):Option α:=
 match H id with
 |some (.obj τ x)=>uO p τ x fun υ _=>k υ
 |some (.dW τ x _ _)=>uO p τ x fun υ _=>k υ
 |some (.own e l)|some (.la e l)=>match p with
  | .idx i::p=>uO p e (List.getD l i e.zero) fun υ _=>k υ
  |_=>none
 |_=>none
def arl(a:a6)(H:Nat→Option aR)(k:(τ:Ty)→τ.den→List Nat→Option α):Option α:=
 match a with
 | .val υ x=>k υ x []
 | .ref id=>match H id with
  |some (.own e l)|some (.la e l)=>k (.slice e) l [id]
  |_=>none
 |_=>none
def rD(a:a6)(k:IntKind→Int→Option α):Option α:=
 match a with
 | .val (.int i) x=>k i x
 |_=>none
end K
inductive AM where
 |v (τ:Ty)
 |own (e:Ty)
 |io (τ:Ty)
 |fn (f:Nat) (τ:Ty)
 |ptr (τ:Ty)
 |fP (τ:Ty)
@[reducible] def AM.den:AM→Type
 | .v τ=>τ.den
 | .own e=>List e.den
 | .io τ=>τ.den
 | .fn _ τ=>τ.den
 | .ptr τ=>τ.den
 | .fP τ=>τ.den
@[reducible] def HP:List AM→Type
 |[]=>Unit
 |[m]=>m.den
 |m::n::ms=>m.den×HP (n::ms)
structure iC where
 args:List AM
 res:List AM
 quiet:Bool
 run:HP args→Option (HP res)
inductive CM where
 |v (τ:Ty)
 |own (e:Ty)
 |obj (τ:Ty)
 |dW (τ:Ty) (q:List Step) (e:Ty)
 |same (s:Nat)
 |io (τ:Ty)
 |fn (f:Nat) (τ:Ty)
structure Env where
 nt:Nat
 ty:Nat→Option Ty
 Γ:Nat→List iC
 N:Nat
 rE:Nat→Option (List (Nat×CM))
 td:Nat→Option (List (Nat×CM))
 io:List Nat:=[]
 lk:Option (Ty×List Step×Ty×List Nat):=none
def lkT(E:Env)(τ:Ty):Option (List Step×Ty):=match E.lk with
 |some (υ,q,e,_)=>cond (decide (υ=τ)) (cond (eE q τ (.slice e)) (some (q,e)) none) none
 |none=>none
def DL(E:Env)(τ:Ty)(id:Nat):Option (List Step×Ty):=match E.lk with
 |some (_,_,_,ds)=>cond (ds.any fun d=>Nat.beq (id/16) d) (lkT E τ) none
 |none=>none
def cvA:Value→a6
 | .int k n=> .val (.int k) n
 | .bool b=> .val .bool b
 | .string s=> .val .str s
 | .slice none 0 0=> .emp
 |_=> .any
def St.ρ (σ:St):Operand→a6
 | .tmp t=>σ.T t
 | .const v=>cvA v
 | .global _=> .any
 | .func f=> .FE f []
section
variable{α:Type}
noncomputable def qb(op:BinOp)(k:IntKind)(x y:Int)(K:a6→Option α):Option α:=
 match op with
 | .add=>K (.val (.int k) (W k (x+y)))
 | .sub=>K (.val (.int k) (W k (x-y)))
 | .mul=>K (.val (.int k) (W k (x*y)))
 | .quo=>cond (ay y 0) none (K (.val (.int k) (W k (quo x y))))
 | .rem=>cond (ay y 0) none (K (.val (.int k) (rem x y)))
 | .and=>K (.val (.int k) (jx .and k x y))
 | .or=>K (.val (.int k) (jx .or k x y))
 | .xor=>K (.val (.int k) (jx .xor k x y))
 | .andNot=>K (.val (.int k) (jx .andNot k x y))
 | .eql=>K (.val .bool (ay x y))
 | .neq=>K (.val .bool (!ay x y))
 | .lss=>K (.val .bool (aH x y))
 | .leq=>K (.val .bool (bU x y))
 | .gtr=>K (.val .bool (aH y x))
 | .geq=>K (.val .bool (bU y x))
 |_=>none
noncomputable def Tx(op:BinOp)(k:IntKind)(x y:Int)(K:a6→Option α):Option α:=
 match op with
 | .shl=>cond (aH y 0) none (K (.val (.int k) (W k (shl k x y))))
 | .shr=>cond (aH y 0) none (K (.val (.int k) (shr k x y)))
 |_=>none
def Tz:BinOp→Bool
 | .shl| .shr=>true
 |_=>false
noncomputable def zr(t:Option Ty)(op:BinOp)(τ:Ty)(x:τ.den)(υ:Ty)(y:υ.den)(K:a6→Option α):Option α:=
 match τ,x,υ,y with
 | .int k,x,.int k',y=>cond (Tz op) (Tx op k x y K) (if k=k' then qb op k x y K else none)
 |τ,x,υ,y=>match t with
  |none=>none
  |some u=>jK u τ (cond τ.comparable (match op with
   | .eql=>ch υ τ y fun y=>K (.val .bool (kZ τ x y))
   | .neq=>ch υ τ y fun y=>K (.val .bool (!kZ τ x y))
   |_=>none) none)
noncomputable def Nb(op:UnOp)(a:a6)(K:a6→Option α):Option α:=
 match op,a with
 | .neg,.val (.int k) n=>K (.val (.int k) (W k (0-n)))
 | .xor,.val (.int k) n=>K (.val (.int k) (jx .xor k (if k.signed then-1 else k.max) n))
 | .not,.val .bool b=>K (.val .bool (!b))
 |_,_=>none
abbrev fG(α:Type):=a6→List Nat→fF→Option α
noncomputable def S3(up:Bool):a6→List a6→(a6→Option α)→Option α
 |a,[],K=>K a
 |a,b::r,K=>rD a fun k x=>rD b fun k' y=>if k=k' then S3 up (.val (.int k) (cond up (mx x y) (mn x y))) r K else none
def FH(τ:Ty)(a:a6)(H:Nat→Option aR)(K:fG α):Option α:=
 match τ,a with
 | .slice _,.val (.slice _) l=>K (.val (.int .i64) (List.length l:Int)) [] []
 | .arr n _,.val (.arr _ _) _=>K (.val (.int .i64) (n:Int)) [] []
 | .str,.val .str s=>K (.val (.int .i64) (ByteArray.size s:Int)) [] []
 | .slice _,.emp=>K (.val (.int .i64) (0:Int)) [] []
 | .slice _,.ref id=>match H id with
  |some (.own _ l)|some (.la _ l)=>K (.val (.int .i64) (l.length:Int)) [id] []
  |_=>none
 |_,_=>none
def nn(H:Nat→Option aR)(id:Nat)(e:aR)(K:Option α):Option α:=
 match H id with
 |none=>K
 |some _=>none
noncomputable def FI(id:Nat)(e:Ty)(a b:a6)(H:Nat→Option aR)(K:fG α):Option α:=
 iV false b H (.slice e) fun ys rd _=>
  match a with
  | .emp=>cond (small (List.length ys)) (K (.ref id) (id::rd) [(id,some (.own e ys))]) none
  | .ref j=>match H j with
   |some (.own e' l)=>ch (.slice e') (.slice e) l fun xs=>
    cond (small (List.length xs+List.length ys)) (K (.ref id) (id::j::rd) [(j,some .gone),(id,some (.own e (xs++ys)))]) none
   |_=>none
  |_=>none
def qc(τ:Ty)(H:Nat→Option aR):List (Nat×a6)→τ.den→List Nat→fF→(τ.den→List Nat→fF→Option α)→Option α
 |[],x,rd,ups,K=>K x rd ups
 |p::r,x,rd,ups,K=>tc τ x p.1 fun υ _=>iV true p.2 H υ fun y wu kA=>
  jJ τ x p.1 (fun υ' _ k'=>ch υ υ' y k') fun z=>qc τ H r z (wu++rd) (ups++kA) K
def rF(e:Ty)(H:Nat→Option aR)(n:Nat):List (Nat×a6)→List e.den→List Nat→fF→(List e.den→List Nat→fF→Option α)→Option α
 |[],l,rd,ups,K=>K l rd ups
 |p::r,l,rd,ups,K=>cond (Nat.blt p.1 n) (iV true p.2 H e fun y wu kA=>rF e H n r (List.set l p.1 y) (wu++rd) (ups++kA) K) none
def xg(v:a6)(H:Nat→Option aR):(a:Ty)→(a.den→List Nat→fF→Option α)→Option α
 | .pair a .unit,k=>match v with
  | .nk υ x=>ch υ a x fun y=>k (y,()) [] []
  |_=>none
 |a,k=>iV true v H a k
def xh:(a:Ty)→a.den→a6
 | .pair a .unit,x=> .nk a x.1
 |a,x=> .val a x
def np(H:Nat→Option aR):(τ:Ty)→List a6→(τ.den→List Nat→fF→Option α)→Option α
 | .unit,[],K=>K () [] []
 | .pair a b,v::vs,K=>xg v H a fun x rd ups=>np H b vs fun xs wu kA=>K (x,xs) (wu++rd) (ups++kA)
 |_,_,_=>none
def mz:(τ:Ty)→τ.den→List a6
 | .pair a b,x=>xh a x.1::mz b x.2
 |_,_=>[]
def bs(H:Nat→Option aR)(d:Nat)(v:Option aR):Nat→Option aR:=fun i=>cond (Nat.beq i d) v (H i)
def rG(H:Nat→Option aR):List a6→(List a6→List Nat→fF→Option α)→Option α
 |[],K=>K [] [] []
 |a::r,K=>match a with
  | .fP id []=>match H id with
   |some (.obj τ x)=>rG (bs H id (some .gone)) r fun cs rd ups=>K (.nk τ x::cs) (id::rd) ((id,some .gone)::ups)
   |_=>none
  |a=>rG H r fun cs rd ups=>K (a::cs) rd ups
def ly(m:AM)(a:a6)(H:Nat→Option aR)(k:m.den→(Nat→Option aR)→List Nat→fF→fF→List (Nat×Ty)→Option α):Option α:=
 match m,k with
 | .v τ,k=>iV true a H τ fun x rd uf=>match uf with
  |[]=>k x H rd [] [] []
  |u::r=>k x (bs H u.1 u.2) rd [] (u::r) []
 | .own e,k=>match a with
  | .emp=>k [] H [] [] [] []
  | .ref id=>match H id with
   |some (.own e' l)=>ch (.slice e') (.slice e) l fun x=>k x (bs H id (some .gone)) [id] [(id,some .gone)] [] []
   |_=>none
  |_=>none
 | .io τ,k=>match a with
  | .fP id []=>match H id with
   |some (.obj υ x)=>ch υ τ x fun y=>k y (bs H id (some .gone)) [id] [] [] [(id,τ)]
   |_=>none
  |_=>none
 | .fn f τ,k=>match a with
  | .FE f' c=>cond (Nat.beq f f') (np H τ c fun x rd uf=>match uf with
   |[]=>k x H rd [] [] []
   |_=>none) none
  |_=>none
 | .ptr _,_=>none
 | .fP τ,k=>match a with
  | .nk υ x=>ch υ τ x fun y=>k y H [] [] [] []
  |_=>none
def pB:(ms:List AM)→List a6→(Nat→Option aR)→List Nat→fF→fF→List (Nat×Ty)→(HP ms→List Nat→fF→fF→List (Nat×Ty)→Option α)→Option α
 |[],[],_,rd,uo,uf,io,K=>K () rd uo uf io
 |[m],[a],H,rd,uo,uf,io,K=>ly m a H fun x _ wu Fk Fl Bz=>K x (wu++rd) (Fk++uo) (Fl++uf) (io++Bz)
 |m::n::ms,a::mG,H,rd,uo,uf,io,K=>ly m a H fun x H' wu Fk Fl Bz=>
  pB (n::ms) mG H' (wu++rd) (Fk++uo) (Fl++uf) (io++Bz) fun xs rd uo uf io=>K (x,xs) rd uo uf io
 |_,_,_,_,_,_,_,_=>none
def DM(m:AM)(x:m.den)(id:Nat):a6×fF:=
 match m,x with
 | .v τ,x=>(.val τ x,[])
 | .own e,x=>(.ref id,[(id,some (.own e x))])
 | .io τ,x=>(.val τ x,[])
 | .fn _ _,_=>(.any,[])
 | .ptr τ,x=>(.fP id [],[(id,some (.obj τ x))])
 | .fP _,_=>(.any,[])
def iW:(ms:List AM)→HP ms→Nat→List (Nat×Ty)→List a6×fF×List (Nat×Ty)
 |[],_,_,io=>([],[],io)
 |[m],x,id,io=>match m,x,io with
  | .io τ,x,(j,_)::io=>([],[(j,some (.obj τ x))],io)
  |m,x,io=>([(DM m x id).1],(DM m x id).2,io)
 |m::n::ms,x,id,io=>match m,x,io with
  | .io τ,x,(j,_)::io=>let r:=iW (n::ms) x.2 (id+1) io;(r.1,(j,some (.obj τ x.1))::r.2.1,r.2.2)
  |m,x,io=>let r:=iW (n::ms) x.2 (id+1) io;((DM m x.1 id).1::r.1,(DM m x.1 id).2++r.2.1,r.2.2)
def FJ:List a6→a6
 |[]=> .any
 |[a]=>a
 |l=> .tup l
def qd(H:Nat→Option aR)(id:Nat):Nat→Bool
 |0=>true
 |n+1=>(match H (id+n)with|none=>true|some _=>false)&&qd H id n
def FK(id:Nat):Nat→List Nat
 |0=>[]
 |n+1=>(id+n)::FK id n
def fits:List AM→List a6→Bool
 |[],[]=>true
 | .fn f _::ms,.FE g _::mG=>Nat.beq f g&&fits ms mG
 | .fn _ _::_,_::_=>false
 |_::ms,_::mG=>fits ms mG
 |_,_=>false
def FL:List iC→List a6→Option iC
 |[],_=>none
 |S::r,mG=>cond (fits S.args mG) (some S) (FL r mG)
noncomputable def xi(E:Env)(f:Nat)(mG:List a6)(id:Nat)(H:Nat→Option aR)(K:fG α):Option α:=
 match FL (E.Γ f) mG with
 |none=>none
 |some S=>pB S.args mG H [] [] [] [] fun x rd uo uf io=>
  (S.run x).bind fun y=>
   let r:=iW S.res y id io
   cond (qd H id S.res.length) (K (FJ r.1) (FK id S.res.length++(r.2.1.map (·.1)++rd)) (uo++cond S.quiet [] uf++r.2.1)) none
def tN(a:Option a6)(d:Int)(k:Int→Option α):Option α:=
 match a with
 |none=>k d
 |some a=>rD a fun _ x=>k x
def iO:Option Operand→Bool
 |some (.const (.int _ n))=>decide (n=0)
 |_=>false
noncomputable def nq(t:Ty)(z:Bool)(a:a6)(lo hi mx:Option a6)(H:Nat→Option aR)(K:fG α):Option α:=
 match t,a with
 | .str,.val .str s=>cond mx.isNone (tN lo 0 fun l=>tN hi (ByteArray.size s:Int) fun h=>
  cond (gD l h (ByteArray.size s:Int) (ByteArray.size s:Int)) (K (.val .str (ByteArray.extract s l.toNat h.toNat)) [] []) none) none
 | .slice _,.emp=>cond z (K .emp [] []) (cond mx.isNone (tN lo 0 fun l=>tN hi 0 fun h=>cond (gD l h 0 0) (K .emp [] []) none) none)
 | .slice e,a=>iV (!z) a H (.slice e) fun x rd ups=>cond z (K .emp rd [])
  (cond (mx.isNone||hi.isSome) (tN lo 0 fun l=>tN hi (List.length x:Int) fun h=>tN mx (List.length x:Int) fun m=>
   cond (gD l h m (List.length x:Int))
    (K (.val (.slice e) (List.drop l.toNat (List.take h.toNat x))) rd ups) none) none)
 |_,_=>none
noncomputable def eo(τ:Ty)(a i:a6)(H:Nat→Option aR)(K:fG α):Option α:=
 rD i fun _ i=>
 match τ with
 | .slice e=>match a with
  | .val υ l=>ch υ (.slice e) l fun l=>cond (aL i (List.length l)) (K (.nk e (List.getD l i.toNat e.zero)) [] []) none
  | .ref id=>match H id with
   |some (.own e' l)|some (.la e' l)=>jK e' e (cond (aL i (List.length l)) (K (.fP id [.idx i.toNat]) [id] []) none)
   |_=>none
  |_=>none
 | .arr n e=>match a with
  | .fP id p=>jL id p H fun υ=>jK υ (.arr n e) (cond (aL i n) (K (.fP id (p++[.idx i.toNat])) [id] []) none)
  | .nk υ l=>ch υ (.arr n e) l fun l=>cond (aL i n) (K (.nk e (List.getD l i.toNat e.zero)) [] []) none
  |_=>none
 |_=>none
noncomputable def rH(τ:Ty)(a i:a6)(K:a6→Option α):Option α:=
 rD i fun _ i=>
 match τ,a with
 | .arr n e,.val υ l=>ch υ (.arr n e) l fun l=>cond (aL i n) (K (.val e (List.getD l i.toNat e.zero))) none
 | .str,.val .str s=>cond (aL i (ByteArray.size s)) (K (.val (.int .u8) ((s.data.getD i.toNat 0).toNat:Int))) none
 |_,_=>none
def im(a:a6)(H:Nat→Option aR)(K:(υ:Ty)→υ.den→List Nat→Option α):Option α:=
 match a with
 | .nk τ x=>K τ x []
 | .fP id p=>match H id with
  |some (.obj τ x)=>uO p τ x fun υ y=>K υ y [id]
  |some (.own e l)|some (.la e l)=>match p with
   | .idx i::p=>uO p e (List.getD l i e.zero) fun υ y=>K υ y [id]
   |_=>none
  |_=>none
 |_=>none
def iX(τ:Ty)(a v:a6)(H:Nat→Option aR)(K:fG α):Option α:=
 match a with
 | .fP id p=>iV true v H τ fun y rd ups=>
  match H id with
  |some (.obj υ x)=>rm τ y p υ x fun z=>K .any (id::rd) (ups++[(id,some (.obj υ z))])
  |some (.own e l)=>match p with
   | .idx i::p=>cond (rd.contains id) none (rm τ y p e (List.getD l i e.zero) fun z=>K .any (id::rd) (ups++[(id,some (.own e (List.set l i z)))]))
   |_=>none
  |_=>none
 |_=>none
def yj(j:Nat)(q:List Step)(τ:Ty)(x:τ.den)(H:Nat→Option aR)(k:τ.den→fF→Option α):Option α:=
 match H j with
 |some (.own e l)=>rm (.slice e) l q τ x fun z=>k z [(j,some (.la e l))]
 |some (.la e l)=>rm (.slice e) l q τ x fun z=>k z []
 |_=>none
def q6(τ:Ty)(a:a6)(H:Nat→Option aR)(K:fG α):Option α:=
 let uE:=im a H fun υ y rd=>ch υ τ y fun z=>K (.val τ z) rd []
 match a with
 | .fP id p=>match H id with
  |some (.dW υ x q j)=>cond (FD p q) (cond (eE q υ τ) (K (.ref j) [id] []) none)
   (cond (tb p q) (yj j q υ x H fun z ups=>uO p υ z fun υ' y=>ch υ' τ y fun y'=>K (.val τ y') [id,j] ups)
    (uO p υ x fun υ' y=>ch υ' τ y fun y'=>K (.val τ y') [id] []))
  |_=>uE
 |_=>uE
def xj(τ:Ty)(id k:Nat)(e:Ty)(q:List Step)(υ:Ty)(x:υ.den)(H:Nat→Option aR)(K:fG α):Option α:=
 match H k with
 |some (.own e' _)=>jK e' e (jK τ (.slice e) (rm (.slice e) [] q υ x fun z=>K .any [id,k] [(id,some (.dW υ z q k))]))
 |_=>none
def gE(E:Env)(τ:Ty)(a v:a6)(H:Nat→Option aR)(K:fG α):Option α:=
 let uE:=iX τ a v H K
 match a with
 | .fP id p=>match H id with
  |some (.obj υ x)=>match DL E υ id,v with
   |some (q,e),.ref k=>cond (FD p q) (xj τ id k e q υ x H K) uE
   |_,_=>uE
  |some (.dW υ x q j)=>
   let put:=iV true v H τ fun y rd ups=>rm τ y p υ x fun z=>K .any (id::rd) (ups++[(id,some (cond (tb p q) (.obj υ z) (.dW υ z q j)))])
   match DL E υ id,v with
   |some (q',e),.ref k=>cond (FD p q&&FD q q') (xj τ id k e q υ x H K) put
   |_,_=>put
  |_=>uE
 |_=>uE
def pf(E:Env)(τ:Ty)(a v:a6)(H:Nat→Option aR)(K:fG α):Option α:=
 match a,v with
 | .fP id [],.DK υ y n=>match DL E υ id with
  |some ([.gX m],e)=>cond (Nat.beq m n) (jK τ υ (jL id [] H fun υ'=>jK υ' υ
   (nn H (id+2) (.own e []) (K .any [id,id+2] [(id,some (.dW υ y [.gX m] (id+2))),(id+2,some (.own e []))])))) (gE E τ a v H K)
  |_=>gE E τ a v H K
 |_,_=>gE E τ a v H K
def yk(H:Nat→Option aR)(id:Nat)(τ:Ty)(x:τ.den)(q:List Step)(e:Ty)(K:fG α):Option α:=
 nn H id (.obj τ x) (nn H (id+1) (.own e []) (K (.fP id []) [id,id+1] [(id,some (.dW τ x q (id+1))),(id+1,some (.own e []))]))
def TA(E:Env)(ps:List (Nat×a6))(τ:Ty)(x:τ.den):a6:=match lkT E τ with
 |some ([.gX n],_)=>cond (ps.all fun p=> !(Nat.beq p.1 n)) (.DK τ x n) (.val τ x)
 |_=> .val τ x
def partsOf(σρ:Operand→a6)(ps:Array (Nat×Operand)):List (Nat×a6):=ps.toList.map fun p=>(p.1,σρ p.2)
noncomputable def pz(E:Env)(o:Oper)(ρ:Operand→a6)(H:Nat→Option aR)(K:fG α):Option α:=
 let id:=16*o.dst.getD 0
 match o.op with
 | .move x| .assign x=>K (ρ x) [] []
 | .pick c a b=>match ρ c with
  | .val .bool t=>cond t (K (ρ a) [] []) (K (ρ b) [] [])
  |_=>none
 | .alloc t=>match E.ty t with
  |some τ=>match DL E τ id with
   |some (q,e)=>yk H id τ τ.zero q e K
   |none=>nn H id (.obj τ τ.zero) (K (.fP id []) [id] [(id,some (.obj τ τ.zero))])
  |none=>none
 | .box t x=>match E.ty t with
  |some τ=>
   let uE:=iV true (ρ x) H τ fun y rd ups=>nn H id (.obj τ y) (K (.fP id []) (id::rd) (ups++[(id,some (.obj τ y))]))
   match DL E τ id,ρ x with
   |some ([.gX m],e),.DK υ y n=>cond (Nat.beq m n) (ch υ τ y fun y=>yk H id τ y [.gX m] e K) uE
   |_,_=>uE
  |none=>none
 | .build t ps=>match E.ty t with
  |some (.arr n e)=>rF e H n (partsOf ρ ps) (List.replicate n e.zero) [] [] fun l rd ups=>K (.val (.arr n e) l) rd ups
  |some τ=>cond τ.isAgg (qc τ H (partsOf ρ ps) τ.zero [] [] fun x rd ups=>K (TA E (partsOf ρ ps) τ x) rd ups) none
  |none=>none
 | .buildSlice t n ps=>match E.ty t with
  |some (.slice e)=>cond (Nat.ble (n*(e.size+1)) 16777216) (nn H id (.own e []) (rF e H n (partsOf ρ ps) (List.replicate n e.zero) [] [] fun l rd ups=>K (.ref id) (id::rd) (ups++[(id,some (.own e l))]))) none
  |_=>none
 | .load t a=>match E.ty t with
  |some τ=>q6 τ (ρ a) H K
  |none=>none
 | .store t a v=>match E.ty t with
  |some τ=>pf E τ (ρ a) (ρ v) H K
  |none=>none
 | .nilCheck x=>match ρ x with
  | .fP id p=>K (.fP id p) [] []
  | .nk τ x=>K (.nk τ x) [] []
  |_=>none
 | .binOp op t x y _=>FG (ρ x) fun τ x=>FG (ρ y) fun υ y=>zr (E.ty t) op τ x υ y fun v=>K v [] []
 | .unOp op _ x=>Nb op (ρ x) fun v=>K v [] []
 | .convert src dst x=>match E.ty src,E.ty dst with
  |some _,some (.int k)=>rD (ρ x) fun _ n=>K (.val (.int k) (W k n)) [] []
  |_,_=>none
 | .makeFunc (.func f) first caps=>cond first.isEmpty (rG H (caps.toList.map ρ) fun cs rd ups=>K (.FE f cs) rd ups) none
 | .makeSlice t l c=>match E.ty t with
  |some (.slice e)=>rD (ρ l) fun _ l=>rD (ρ c) fun _ c=>cond (fX l c)
    (nn H id (.own e []) (K (.ref id) [id] [(id,some (.own e (List.replicate l.toNat e.zero)))])) none
  |_=>none
 | .slice t x lo hi mx=>match E.ty t with
  |some τ=>nq τ (lo.isNone&&iO hi&&iO mx) (ρ x) (lo.map ρ) (hi.map ρ) (mx.map ρ) H K
  |none=>none
 | .fieldAddr t x n=>match E.ty t with
  |some τ=>match ρ x with
   | .fP id p=>jL id p H fun υ=>jK υ τ (tc τ τ.zero n fun υ' _=>cond (Nat.beq υ'.size 0) none (K (.fP id (p++[.gX n])) [id] []))
   | .nk υ x=>jK υ τ (tc υ x n fun υ y=>cond (Nat.beq υ.size 0) none (K (.nk υ y) [] []))
   |_=>none
  |none=>none
 | .field t x n=>match E.ty t with
  |some τ=>match ρ x with
   | .val υ x=>jK υ τ (tc υ x n fun υ y=>K (.val υ y) [] [])
   |_=>none
  |none=>none
 | .indexAddr t x i=>match E.ty t with
  |some τ=>eo τ (ρ x) (ρ i) H K
  |none=>none
 | .index t x i=>match E.ty t with
  |some τ=>rH τ (ρ x) (ρ i) fun v=>K v [] []
  |none=>none
 | .extract t i=>match ρ t with
  | .tup vs=>match vs[i]? with
   |some v=>K v [] []
   |none=>none
  |_=>none
 | .call c=>match c.callee with
  | .builtin .len=>match c.args.toList,(c.argTypes.toList.head?).bind E.ty with
   |[x],some τ=>FH τ (ρ x) H K
   |_,_=>none
  | .builtin .append=>match c.args.toList,c.argTypes.toList with
   |[x,y],[t,t']=>match E.ty t with
    |some (.slice e)=>cond (Nat.beq t t') (nn H id (.own e []) (FI id e (ρ x) (ρ y) H K)) none
    |_=>none
   |_,_=>none
  | .builtin .max=>match c.args.toList with
   |x::r=>S3 true (ρ x) (r.map ρ) fun v=>K v [] []
   |_=>none
  | .builtin .min=>match c.args.toList with
   |x::r=>S3 false (ρ x) (r.map ρ) fun v=>K v [] []
   |_=>none
  | .value g=>match ρ g with
   | .FE f caps=>xi E f (c.args.toList.map ρ++caps) id H K
   |_=>none
  |_=>none
 |_=>none
noncomputable def pC(E:Env)(ops:List Oper)(o:Oper)(σ:St)(K:St→List Nat→List Nat→Option α):Option α:=
 let run (σ:St):Option α:=pz E o σ.ρ σ.H fun v rd ups=>K ((σ.rC ups).rl o.dst v) rd (ups.map (·.1))
 cond (FF E.nt E.io o.dst) (match o.guard with
 |none=>run σ
 |some (j,want)=>match(ops[j]?).bind (·.dst)with
  |none=>none
  |some t=>match σ.T t with
   | .val .bool b=>match want with
    |true=>cond b (run (σ.put t (.val .bool true))) (K ((σ.put t (.val .bool false)).rl o.dst .PD) [] [])
    |false=>cond b (K ((σ.put t (.val .bool true)).rl o.dst .PD) [] []) (run (σ.put t (.val .bool false)))
   | .PD=>K (σ.rl o.dst .PD) [] []
   |_=>none) none
abbrev Log:=List (Nat×List Nat×List Nat)
noncomputable def Nc(E:Env)(ops:List Oper):List Oper→Nat→St→Log→(St→Log→Option α)→Option α
 |[],_,σ,lg,K=>K σ lg
 |o::r,i,σ,lg,K=>pC E ops o σ fun σ' rd wr=>Nc E ops r (i+1) σ' ((i,rd,wr)::lg) K
def pg:List Oper→List Nat→List Nat
 |[],acc=>acc
 |o::r,acc=>pg r (acc++[o.after.toList.foldl (fun s e=>cond (Region.binds .any e) (s|||2^e.on|||acc.getD e.on 0) s) 0])
def names(ops:List Oper)(o:Oper):List Nat:=
 (o.op.operands.toList.filterMap fun| .tmp t=>some t|_=>none)++
 (match o.guard with
  |some (g,_)=>((ops[g]?).bind (·.dst)).toList
  |none=>[])
def meets(a b:List Nat):Bool:=a.any fun x=>b.any fun y=>Nat.beq x y
def PE(ops:List Oper):Bool:=
 let b:=pg ops []
 (ops.zipIdx.all fun(o,j)=>o.after.toList.all fun e=> !(Region.binds .any e)||Nat.blt e.on j)&&
 ops.zipIdx.all fun(o,j)=>ops.zipIdx.all fun(p,i)=>Nat.ble j i||(b.getD j 0).testBit i||
  !(meets p.dst.toList (o.dst.toList++names ops o)||meets o.dst.toList (names ops p))
def Z8(ops:List Oper)(lg:Log):Bool:=
 let b:=pg ops []
 lg.all fun x=>lg.all fun y=>Nat.ble x.1 y.1||(b.getD x.1 0).testBit y.1||
  !(meets y.2.2 (x.2.1++x.2.2)||meets y.2.1 x.2.2)
noncomputable def yV(E:Env)(ops:Array Oper)(draw:Bool)(σ:St)(K:St→Option α):Option α:=
 Nc E ops.toList ops.toList 0 σ [] fun σ' lg=>cond (!draw||(PE ops.toList&&Z8 ops.toList lg)) (K σ') none
def eU:List (Nat×CM)→St→St→(St→Option α)→Option α
 |[],_,acc,K=>K acc
 |(s,.v τ)::r,σ,acc,K=>iV true (σ.T s) σ.H τ fun x _ ups=>eU r (σ.rC ups) (acc.put s (.val τ x)) K
 |(s,.own e)::r,σ,acc,K=>match σ.T s with
  | .emp=>eU r σ ((acc.put s (.ref (16*s+14))).iv (16*s+14) (some (.own e []))) K
  | .ref id=>match σ.H id with
   |some (.own e' l)=>ch (.slice e') (.slice e) l fun x=>eU r (σ.iv id (some .gone)) ((acc.put s (.ref (16*s+14))).iv (16*s+14) (some (.own e x))) K
   |_=>none
  |_=>none
 |(s,.obj τ)::r,σ,acc,K=>match σ.T s with
  | .fP id []=>match σ.H id with
   |some (.obj υ x)=>ch υ τ x fun y=>eU r (σ.iv id (some .gone)) ((acc.put s (.fP (16*s+14) [])).iv (16*s+14) (some (.obj τ y))) K
   |some (.dW υ x q j)=>yj j q υ x σ.H fun z ups=>ch υ τ z fun y=>eU r ((σ.rC ups).iv id (some .gone)) ((acc.put s (.fP (16*s+14) [])).iv (16*s+14) (some (.obj τ y))) K
   |_=>none
  |_=>none
 |(s,.dW τ q e)::r,σ,acc,K=>match σ.T s with
  | .fP id []=>match σ.H id with
   |some (.dW υ x q' j)=>cond (FD q q') (match σ.H j with
    |some (.own e' l)=>ch υ τ x fun y=>ch (.slice e') (.slice e) l fun l=>eU r ((σ.iv j (some .gone)).iv id (some .gone))
     (((acc.put s (.fP (16*s+14) [])).iv (16*s+13) (some (.own e l))).iv (16*s+14) (some (.dW τ y q (16*s+13)))) K
    |_=>none) none
   |_=>none
  |_=>none
 |(s,.same s')::r,σ,acc,K=>match σ.T s,σ.T s',acc.T s' with
  | .ref i,.ref j,.ref j'=>cond (Nat.beq i j) (eU r σ (acc.put s (.ref j')) K) none
  |_,_,_=>none
 |(s,.io τ)::r,σ,acc,K=>match σ.T s with
  | .fP id []=>cond (Nat.beq id (16*s+15)) (match σ.H id with
   |some (.obj υ x)=>ch υ τ x fun y=>eU r (σ.iv id (some .gone)) ((acc.put s (.fP (16*s+15) [])).iv (16*s+15) (some (.obj τ y))) K
   |_=>none) none
  |_=>none
 |(s,.fn f τ)::r,σ,acc,K=>match σ.T s with
  | .FE f' c=>cond (Nat.beq f f') (np σ.H τ c fun x _ ups=>match ups with
   |[]=>eU r σ (acc.put s (.FE f (mz τ x))) K
   |_=>none) none
  |_=>none
def gF:List (Nat×CM)→Bool
 |[]=>true
 |q::r=>r.all (fun p=> !(Nat.beq p.1 q.1))&&gF r
def rI(L:Option (List (Nat×CM)))(σ:St)(K:St→Option α):Option α:=
 match L with
 |none=>K σ
 |some L=>eU L σ ⟨fun _=> .any,fun _=>none⟩ K
def xk(L:Option (List (Nat×CM)))(step:St→(St→Option α)→Option α):Nat→St→Option α
 |0,_=>none
 |n+1,σ=>step σ fun σ'=>rI L σ' (xk L step n)
def bS:Code→Option Nat
 | .region id _ _=>some id
 | .seq a b=>match bS a with
  |some i=>some i
  |none=>bS b
 | .block _ c| .loop c| .scope c=>bS c
 |_=>none
def Cn(E:Env)(c:Operand)(σ:St)(A B:St→Option α):Option α:=
 match σ.ρ c with
 | .val .bool b=>match c with
  | .tmp t=>cond b (A (σ.put t (.val .bool true))) (B (σ.put t (.val .bool false)))
  |_=>cond b (A σ) (B σ)
 |_=>none
noncomputable def yW(E:Env)(c:Code):St→(St→Option α)→(Nat→St→Option α)→(St→Option α)→Option α:=
 Code.rec (motive:=fun _=>St→(St→Option α)→(Nat→St→Option α)→(St→Option α)→Option α)
  (fun σ k _ _=>k σ)
  (fun _ ops draw σ k _ _=>yV E ops draw σ k)
  (fun _ b A B σ k kx kr=>A σ (fun σ'=>rI ((bS b).bind E.td) σ' fun rn=>B rn k kx kr) kx kr)
  (fun c _ _ A B σ k kx kr=>Cn E c σ (fun σ'=>A σ' k kx kr) (fun σ'=>B σ' k kx kr))
  (fun id _ A σ k kx kr=>A σ k (fun i σ'=>cond (Nat.beq i id) (k σ') (kx i σ')) kr)
  (fun b A σ _ kx kr=>rI ((bS b).bind E.rE) σ (xk ((bS b).bind E.rE) (fun σ' kn=>A σ' kn kx kr) E.N))
  (fun _ _ _ _ _ _ _ _ _ _=>none)
  (fun id σ _ kx _=>kx id σ)
  (fun _ A σ k kx kr=>A σ k kx kr)
  (fun _ σ k _ _=>k σ)
  (fun _ _ _ _ _=>none)
  (fun σ _ _ kr=>kr σ)
  (fun _ _ _ _ _=>none)
  c
noncomputable def rp(E:Env):List Nat→Code→List (St→Option α)→St→(St→Option α)→(Nat→St→Option α)→(St→Option α)→Option α
 |[],c,_,σ,k,kx,kr=>yW E c σ k kx kr
 |n::p,c,ks,σ,k,kx,kr=>match c with
  | .seq a b=>match n with
   |0=>rp E p a ks σ (fun σ'=>rI ((bS b).bind E.td) σ' fun rn=>yW E b rn k kx kr) kx kr
   |_=>rp E p b ks σ k kx kr
  | .cond _ a b=>match n with
   |0=>rp E p a ks σ k kx kr
   |_=>rp E p b ks σ k kx kr
  | .block id c=>rp E p c ks σ k (fun i σ'=>cond (Nat.beq i id) (k σ') (kx i σ')) kr
  | .loop b=>match ks with
   |κ::ks=>rp E p b ks σ κ kx kr
   |[]=>none
  | .scope c=>rp E p c ks σ k kx kr
  |_=>none
def JX(m:AM)(x:m.den)(i:Nat)(σ:St):St:=
 match m,x with
 | .v τ,x=>σ.put i (.val τ x)
 | .own e,x=>(σ.put i (.ref (16*i+15))).iv (16*i+15) (some (.own e x))
 | .io τ,x=>(σ.put i (.fP (16*i+15) [])).iv (16*i+15) (some (.obj τ x))
 | .fn f τ,x=>σ.put i (.FE f (mz τ x))
 | .ptr _,_=>σ
 | .fP τ,x=>σ.put i (.nk τ x)
def entry:(ms:List AM)→HP ms→Nat→St→St
 |[],_,_,σ=>σ
 |[m],x,i,σ=>JX m x i σ
 |m::n::ms,x,i,σ=>entry (n::ms) x.2 (i+1) (JX m x.1 i σ)
def Co(E:Env)(m:AM)(r:ResultVar ⊕ Nat)(σ:St)(K:m.den→St→Option α):Option α:=
 match m,r,K with
 | .v τ,.inl (.tmp t),K=>iV true (σ.T t) σ.H τ fun x _ ups=>K x (σ.rC ups)
 | .v τ,.inl (.cell a t),K=>match E.ty t with
  |some τ'=>jK τ' τ (im (σ.T a) σ.H fun υ y _=>ch υ τ y fun x=>K x σ)
  |none=>none
 | .own e,.inl (.tmp t),K=>match σ.T t with
  | .emp=>K [] σ
  | .ref id=>match σ.H id with
   |some (.own e' l)=>ch (.slice e') (.slice e) l fun x=>K x (σ.iv id (some .gone))
   |_=>none
  |_=>none
 | .io τ,.inr i,K=>match σ.T i with
  | .fP id []=>match σ.H id with
   |some (.obj υ x)=>ch υ τ x fun y=>K y (σ.iv id (some .gone))
   |_=>none
  |_=>none
 | .ptr τ,.inl (.tmp t),K=>match σ.T t with
  | .fP id []=>match σ.H id with
   |some (.obj υ x)=>ch υ τ x fun y=>K y (σ.iv id (some .gone))
   |_=>none
  |_=>none
 |_,_,_=>none
def DN(E:Env):(ms:List AM)→List (ResultVar ⊕ Nat)→St→(HP ms→Option α)→Option α
 |[],[],_,K=>K ()
 |[m],[r],σ,K=>Co E m r σ fun x _=>K x
 |m::n::ms,r::rs,σ,K=>Co E m r σ fun x σ'=>DN E (n::ms) rs σ' fun xs=>K (x,xs)
 |_,_,_,_=>none
def wv:List AM→Nat→List (ResultVar ⊕ Nat)
 |[],_=>[]
 | .io _::ms,i=> .inr i::wv ms (i+1)
 |_::ms,i=>wv ms (i+1)
noncomputable def Jy(E:Env)(fn:Func)(args res:List AM)(x:HP args):Option (HP res):=
 match fn.body with
 |none=>none
 |some c=>
  let kr:St→Option (HP res):=fun σ=>DN E res (fn.results.toList.map .inl++wv args 0) σ some
  yW E c (entry args x 0 ⟨fun _=> .any,fun _=>none⟩) kr (fun _ _=>none) kr
end
end VM
end
section
namespace VM
open Go
noncomputable def oC(N:Nat)(x y c:Int):Option (Int×Int):=if 0≤x∧0≤y∧0≤c∧c≤1 then some ((x+y+c)%18446744073709551616,(x+y+c)/18446744073709551616)else none
noncomputable def oD(N:Nat)(x y c:Int):Option (Int×Int):=if 0≤x∧x<18446744073709551616∧0≤y∧y<18446744073709551616∧0≤c∧c≤1 then some ((x+18446744073709551616-y-c)%18446744073709551616,if x<y+c then 1 else 0)else none
noncomputable def gY{α:Type}(N:Nat)(l:List α)(i:Int)(v:List α):Option (List α):=if 0≤i∧i≤l.length∧v.length=1∧l.length+1<uD then some (l.take i.toNat++(v++l.drop i.toNat))else none
noncomputable def TB{α:Type}(N:Nat)(l:List α)(n:Int):Option (List α):=match l with
 |[x]=>if 0<n∧n<1048576 then some (List.replicate n.toNat x)else none
 |_=>none
noncomputable def oC.S(N:Nat):iC:={args:=[.v (.int .u64),.v (.int .u64),.v (.int .u64)],res:=[.v (.int .u64),.v (.int .u64)],quiet:=true,run:=fun x=>oC N x.1 x.2.1 x.2.2}
noncomputable def oD.S(N:Nat):iC:={args:=[.v (.int .u64),.v (.int .u64),.v (.int .u64)],res:=[.v (.int .u64),.v (.int .u64)],quiet:=true,run:=fun x=>oD N x.1 x.2.1 x.2.2}
noncomputable def gZ(e:Ty)(N:Nat):iC:={args:=[.own e,.v (.int .i64),.own e],res:=[.own e],quiet:=false,run:=fun x=>gY N x.1 x.2.1 x.2.2}
noncomputable def alr(e:Ty)(N:Nat):iC:={args:=[.v (.slice e),.v (.int .i64)],res:=[.own e],quiet:=false,run:=fun x=>TB N x.1 x.2}
noncomputable def kB{α:Type}(N:Nat)(l:List α):Option (List α):=if l.length<uD then some l else none
noncomputable def rJ(e:Ty)(N:Nat):iC:={args:=[.v (.slice e)],res:=[.own e],quiet:=false,run:=fun x=>kB N x}
end VM
namespace VM
abbrev bI:Int×Int×Unit:=((0:Int),((0:Int),()))
abbrev bF:List (Int×Int×Unit):=[]
abbrev aQ:Int×Int×Int×Unit:=((0:Int),((0:Int),((0:Int),())))
abbrev aY:List (Int×Int×Int×Unit):=[]
abbrev aJ:Int×Int×Int×Int×Unit:=((0:Int),((0:Int),((0:Int),((0:Int),()))))
abbrev cc:List (Int×Int×Int×Int×Unit):=[]
abbrev eC:Int×Int×Int×Int×Int×Unit:=((0:Int),((0:Int),((0:Int),((0:Int),((0:Int),())))))
abbrev yX:List (Int×Int×Int×Int×Int×Unit):=[]
abbrev dQ:Int×Int×Int×Int×Int×Int×Unit:=((0:Int),((0:Int),((0:Int),((0:Int),((0:Int),((0:Int),()))))))
abbrev cF:List (Int×Int×Int×Int×Int×Int×Unit):=[]
abbrev Z9:Int×Int×Int×Int×Int×Int×Int×Unit:=((0:Int),((0:Int),((0:Int),((0:Int),((0:Int),((0:Int),((0:Int),())))))))
abbrev ee7:List (Int×Int×Int×Int×Int×Int×Int×Unit):=[]
abbrev zz8:Int×Int×Int×Int×Int×Int×Int×Int×Unit:=((0:Int),((0:Int),((0:Int),((0:Int),((0:Int),((0:Int),((0:Int),((0:Int),()))))))))
abbrev ee8:List (Int×Int×Int×Int×Int×Int×Int×Int×Unit):=[]
abbrev cv:List Int:=[]
abbrev lz:List Int×Unit:=(cv,())
end VM
end
section
namespace VM
open Go
def At(w:World)(b off:Nat)(cs:List Value):Prop:= ∀j v,cs[j]? =some v→w.cell? ⟨b,off+j,none⟩=some v
def Rd(w:World)(M:Nat→Prop):(τ:Ty)→List Value→τ.den→Prop
 | .int k,cs,x=>cs=[.int k x]
 | .bool,cs,x=>cs=[.bool x]
 | .str,cs,x=>cs=[.string x]
 | .slice e,cs,x=> ∃a cap,cs=[.slice a (List.length x) cap]∧List.length x≤cap∧
  ∀i (h:i<List.length x),∃b off,a=some ⟨b,off,none⟩∧b<w.heap.size∧ ¬M b∧ ∃cs',At w b (off+i*e.size) cs'∧Rd w M e cs' (List.get x ⟨i,h⟩)
 | .unit,cs,_=>cs=[]
 | .pair a b,cs,x=> ∃c1 c2,cs=c1++c2∧Rd w M a c1 x.1∧Rd w M b c2 x.2
 | .arr n e,cs,x=>List.length x=n∧ ∃Nd:List (List Value),Nd.length=n∧cs=Nd.flatten∧
  ∀i (h:i<List.length x) (h':i<Nd.length),Rd w M e Nd[i] (List.get x ⟨i,h⟩)
theorem lA{α:Type}(n:Nat): ∀(l:List (List α)),(∀i (h:i<l.length),l[i].length=n)→l.flatten.length=l.length*n
 |[],_=>by simp
 |a::l,h=>by
  have h0:=h 0 (by simp)
  have ih:=lA n l (fun i hi=>h (i+1) (by simp;omega))
  simp only[List.getElem_cons_zero]at h0
  simp only[List.flatten_cons,List.length_append,List.length_cons,ih,h0,Nat.add_mul]
  omega
theorem Rd.length{w:World}{M:Nat→Prop}: ∀{τ:Ty} {cs:List Value} {x:τ.den},Rd w M τ cs x→cs.length=τ.size
 | .int _,_,_,h=>by simp only[Rd]at h;subst h;rfl
 | .bool,_,_,h=>by simp only[Rd]at h;subst h;rfl
 | .str,_,_,h=>by simp only[Rd]at h;subst h;rfl
 | .slice _,_,_,h=>by simp only[Rd]at h;obtain⟨a,cap,rfl,_⟩:=h;rfl
 | .unit,_,_,h=>by simp only[Rd]at h;subst h;rfl
 | .pair a b,_,_,h=>by
  simp only[Rd]at h
  obtain⟨c1,c2,rfl,h1,h2⟩:=h
  rw[List.length_append,h1.length,h2.length];rfl
 | .arr n e,_,x,h=>by
  simp only[Rd]at h
  obtain⟨hn,Nd,hc,rfl,hr⟩:=h
  rw[lA e.size Nd (fun i hi=>(hr i (by omega) hi).length),hc];rfl
structure dp(w:World)(M:Nat→Prop)(w':World)(M':Nat→Prop):Prop where
 size:w.heap.size≤w'.heap.size
 block: ∀b,b<w.heap.size→ ¬M b→w'.heap[b]? =w.heap[b]?
 less: ∀b,b<w.heap.size→M' b→M b
theorem aa9{w:World}{b o:Nat}{v:Value}(h:w.cell? ⟨b,o,none⟩=some v):b<w.heap.size:=by
 simp only[World.cell?]at h
 rcases Nat.lt_or_ge b w.heap.size with hb|hb
 ·exact hb
 ·simp[Array.getElem?_eq_none hb]at h
theorem At.bx{w w':World}{b off:Nat}{cs:List Value}(h:At w b off cs)(hb:w'.heap[b]? =w.heap[b]?):At w' b off cs:=by
 intro j v hj
 have:=h j v hj
 rw[World.cell?_of_block (w:=w) hb]
 exact this
theorem At.append{w:World}{b off:Nat}{c1 c2:List Value}:At w b off (c1++c2)↔At w b off c1∧At w b (off+c1.length) c2:=by
 constructor
 ·intro h
  refine⟨fun j v hj=>h j v (by rw[List.getElem?_append_left];exact hj;exact(List.getElem?_eq_some_iff.1 hj).1),fun j v hj=> ?_⟩
  have:=h (c1.length+j) v (by rw[List.getElem?_append_right (by omega)];simpa using hj)
  rw[Nat.add_assoc];exact this
 ·rintro⟨h1,h2⟩ j v hj
  by_cases dT:j<c1.length
  ·rw[List.getElem?_append_left dT]at hj;exact h1 j v hj
  ·rw[List.getElem?_append_right (by omega)]at hj
   have:=h2 (j-c1.length) v hj
   rwa [show off+c1.length+(j-c1.length)=off+j from by omega]at this
theorem Rd.bx{w w':World}{M M':Nat→Prop}(k:dp w M w' M'): ∀{τ:Ty} {cs:List Value} {x:τ.den},Rd w M τ cs x→Rd w' M' τ cs x
 | .int _,_,_,h=>h
 | .bool,_,_,h=>h
 | .str,_,_,h=>h
 | .slice e,_,x,h=>by
  simp only[Rd]at h ⊢
  obtain⟨a,cap,rfl,hc,hr⟩:=h
  refine⟨a,cap,rfl,hc,fun i hi=> ?_⟩
  obtain⟨b,off,ha,hb,hm,cs',ld,iq⟩:=hr i hi
  exact⟨b,off,ha,Nat.lt_of_lt_of_le hb k.size,fun h'=>hm (k.less b hb h'),_,ld.bx (k.block b hb hm),iq.bx k⟩
 | .unit,_,_,h=>h
 | .pair a b,_,_,h=>by
  simp only[Rd]at h ⊢
  obtain⟨c1,c2,rfl,h1,h2⟩:=h
  exact⟨c1,c2,rfl,h1.bx k,h2.bx k⟩
 | .arr n e,_,x,h=>by
  simp only[Rd]at h ⊢
  obtain⟨hn,Nd,hc,rfl,hr⟩:=h
  exact⟨hn,Nd,hc,rfl,fun i hi kk=>(hr i hi kk).bx k⟩
theorem dp.refl(w:World)(M:Nat→Prop):dp w M w M:=⟨Nat.le_refl _,fun _ _ _=>rfl,fun _ _ h=>h⟩
theorem dp.trans{w w' w'':World}{M M' Jz:Nat→Prop}(h:dp w M w' M')(k:dp w' M' w'' Jz):dp w M w'' Jz:=
 ⟨Nat.le_trans h.size k.size,fun b hb hm=>(k.block b (Nat.lt_of_lt_of_le hb h.size) (fun h'=>hm (h.less b hb h'))).trans (h.block b hb hm),
  fun b hb hm=>h.less b hb (k.less b (Nat.lt_of_lt_of_le hb h.size) hm)⟩
def V(w:World)(M:Nat→Prop)(τ:Ty)(v:Value)(x:τ.den):Prop:=
 if τ.isAgg then ∃cs,v= .agg cs∧Rd w M τ cs.toList x else Rd w M τ [v] x
theorem V.bx{w w':World}{M M':Nat→Prop}(k:dp w M w' M'){τ:Ty}{v:Value}{x:τ.den}(h:V w M τ v x):V w' M' τ v x:=by
 unfold V at*
 split
 ·rename_i ha;rw[if_pos ha]at h;obtain⟨cs,rfl,h⟩:=h;exact⟨cs,rfl,h.bx k⟩
 ·rename_i ha;rw[if_neg ha]at h;exact h.bx k
theorem Rd.scalar{w:World}{M:Nat→Prop}{τ:Ty}{cs:List Value}{x:τ.den}(ha:τ.isAgg=false)(h:Rd w M τ cs x): ∃v,cs=[v]∧v.cells= #[v]:=by
 cases τ<;>simp only[Ty.isAgg,Bool.true_eq_false]at ha<;>simp only[Rd]at h
 ·exact⟨_,h,rfl⟩
 ·exact⟨_,h,rfl⟩
 ·exact⟨_,h,rfl⟩
 ·obtain⟨a,cap,rfl,_⟩:=h;exact⟨_,rfl,rfl⟩
theorem V.cells{w:World}{M:Nat→Prop}{τ:Ty}{v:Value}{x:τ.den}(h:V w M τ v x):Rd w M τ v.cells.toList x:=by
 unfold V at h
 by_cases ha:τ.isAgg=true
 ·rw[if_pos ha]at h;obtain⟨cs,rfl,h⟩:=h;exact h
 ·rw[if_neg ha]at h
  obtain⟨v',hv,hc⟩:=h.scalar (by simpa using ha)
  simp only[List.cons.injEq,and_true]at hv
  subst hv
  rw[hc];exact h
def bQ(τ:Ty)(cs:List Value):Value:=if τ.isAgg then .agg cs.toArray else cs.headD (.tuple #[])
theorem V.bQ{w:World}{M:Nat→Prop}{τ:Ty}{cs:List Value}{x:τ.den}(h:Rd w M τ cs x):V w M τ (bQ τ cs) x:=by
 unfold V VM.bQ
 by_cases ha:τ.isAgg=true
 ·rw[if_pos ha,if_pos ha];exact⟨_,rfl,by simpa using h⟩
 ·rw[if_neg ha,if_neg ha]
  obtain⟨v',rfl,_⟩:=h.scalar (by simpa using ha)
  exact h
theorem BJ{w:World}{M:Nat→Prop}{τ:Ty}{cs:List Value}{x:τ.den}(h:Rd w M τ cs x):(bQ τ cs).cells.toList=cs:=by
 unfold VM.bQ
 by_cases ha:τ.isAgg=true
 ·rw[if_pos ha];simp[Value.cells]
 ·rw[if_neg ha]
  obtain⟨v',rfl,hc⟩:=h.scalar (by simpa using ha)
  simp[hc]
theorem Rd.lf{w:World}{M:Nat→Prop}: ∀{τ:Ty} {cs:List Value} {x:τ.den},Rd w M τ cs x→ ∀v∈cs,v.oneCell'=true
 | .int _,_,_,h=>by simp only[Rd]at h;subst h;simp[Value.oneCell']
 | .bool,_,_,h=>by simp only[Rd]at h;subst h;simp[Value.oneCell']
 | .str,_,_,h=>by simp only[Rd]at h;subst h;simp[Value.oneCell']
 | .slice _,_,_,h=>by simp only[Rd]at h;obtain⟨a,cap,rfl,_⟩:=h;simp[Value.oneCell']
 | .unit,_,_,h=>by simp only[Rd]at h;subst h;simp
 | .pair a b,_,_,h=>by
  simp only[Rd]at h
  obtain⟨c1,c2,rfl,h1,h2⟩:=h
  intro v hv
  rcases List.mem_append.1 hv with hv|hv
  ·exact h1.lf v hv
  ·exact h2.lf v hv
 | .arr n e,_,x,h=>by
  simp only[Rd]at h
  obtain⟨hn,Nd,hc,rfl,hr⟩:=h
  intro v hv
  obtain⟨l,hl,hvl⟩:=List.mem_flatten.1 hv
  obtain⟨i,hi,rfl⟩:=List.mem_iff_getElem.1 hl
  exact(hr i (by omega) hi).lf v hvl
def Ty.ck:Ty→List Value
 | .int k=>[.int k 0]
 | .bool=>[.bool false]
 | .str=>[.string ByteArray.empty]
 | .slice _=>[.slice none 0 0]
 | .unit=>[]
 | .pair a b=>a.ck++b.ck
 | .arr n e=>(List.replicate n e.ck).flatten
theorem Rd.zero(w:World)(M:Nat→Prop): ∀(τ:Ty),Rd w M τ τ.ck τ.zero
 | .int _| .bool| .str| .unit=>by simp[Rd,Ty.ck,Ty.zero]
 | .slice _=>by
  simp only[Rd,Ty.ck,Ty.zero]
  exact⟨none,0,rfl,Nat.le_refl _,fun i h=>absurd h (by simp)⟩
 | .pair a b=>by
  simp only[Rd,Ty.ck,Ty.zero]
  exact⟨_,_,rfl,Rd.zero w M a,Rd.zero w M b⟩
 | .arr n e=>by
  simp only[Rd,Ty.ck,Ty.zero]
  refine⟨by simp,_,by simp,rfl,fun i h h'=> ?_⟩
  simp only[List.getElem_replicate,List.get_eq_getElem]
  exact Rd.zero w M e
end VM
end
section
namespace VM
open Go
def DO(P:Program)(τ:Ty)(t:TypeId):Prop:=
 ∃i,P.info? t=some i∧i.size=τ.size∧i.zero=some (bQ τ τ.ck)∧i.bytes≤2048
def dM(P:Program):Ty→TypeId ⊕ (Array Field×Nat×Nat)→Prop
 | .int k,.inl t=>DO P (.int k) t∧P.underlying t=some (.int k)
 | .bool,.inl t=>DO P .bool t∧P.underlying t=some .bool
 | .str,.inl t=>DO P .str t∧P.underlying t=some .string
 | .slice e,.inl t=>DO P (.slice e) t∧ ∃e',P.underlying t=some (.slice e')∧dM P e (.inl e')
 | .arr n e,.inl t=>DO P (.arr n e) t∧ ∃e',P.underlying t=some (.array n e')∧dM P e (.inl e')
 | .unit,.inl t=>DO P .unit t∧ ∃fs,P.underlying t=some (.struct fs)∧fs.size=0
 | .unit,.inr (fs,n,_)=>fs.size=n
 | .pair a b,.inl t=>DO P (.pair a b) t∧ ∃fs f,P.underlying t=some (.struct fs)∧fs[0]? =some f∧f.offset=0∧dM P a (.inl f.type)∧dM P b (.inr (fs,1,a.size))
 | .pair a b,.inr (fs,n,off)=> ∃f,fs[n]? =some f∧f.offset=off∧dM P a (.inl f.type)∧dM P b (.inr (fs,n+1,off+a.size))
 |_,.inr _=>False
def g5(P:Program)(τ:Ty)(t:TypeId):Prop:=dM P τ (.inl t)
theorem g5.base{P:Program}{τ:Ty}{t:TypeId}(h:g5 P τ t):DO P τ t:=by
 unfold g5 at h;cases τ<;>simp only[dM]at h<;>exact h.1
theorem g5.int{P:Program}{k:IntKind}{t:TypeId}(h:g5 P (.int k) t):P.underlying t=some (.int k):=by simp only[g5,dM]at h;exact h.2
theorem g5.bool{P:Program}{t:TypeId}(h:g5 P .bool t):P.underlying t=some .bool:=by simp only[g5,dM]at h;exact h.2
theorem g5.str{P:Program}{t:TypeId}(h:g5 P .str t):P.underlying t=some .string:=by simp only[g5,dM]at h;exact h.2
theorem g5.slice{P:Program}{e:Ty}{t:TypeId}(h:g5 P (.slice e) t): ∃e',P.underlying t=some (.slice e')∧g5 P e e':=by simp only[g5,dM]at h;exact h.2
theorem g5.arr{P:Program}{n:Nat}{e:Ty}{t:TypeId}(h:g5 P (.arr n e) t): ∃e',P.underlying t=some (.array n e')∧g5 P e e':=by simp only[g5,dM]at h;exact h.2
theorem g5.isSome{P:Program}{τ:Ty}{t:TypeId}(h:g5 P τ t):(P.underlying t).isSome=true:=by
 unfold g5 at h
 cases τ<;>simp only[dM]at h
 ·simp[h.2]
 ·simp[h.2]
 ·simp[h.2]
 ·obtain⟨_,e',h',_⟩:=h;simp[h']
 ·obtain⟨_,e',h',_⟩:=h;simp[h']
 ·obtain⟨_,e',f,h',_⟩:=h;simp[h']
 ·obtain⟨_,e',h',_⟩:=h;simp[h']
inductive yl:(τ:Ty)→τ.den→Nat→(υ:Ty)→υ.den→Nat→Prop where
 |here {a b:Ty} (x:(Ty.pair a b).den):yl (.pair a b) x 0 a x.1 0
 |there {a b:Ty} (x:(Ty.pair a b).den) {n:Nat} {υ:Ty} {y:υ.den} {o:Nat} (h:yl b x.2 n υ y o):yl (.pair a b) x (n+1) υ y (a.size+o)
theorem pD{α:Type}{r:α}: ∀{τ:Ty} {x:τ.den} {n:Nat} {k:(υ:Ty)→υ.den→Option α},tc τ x n k=some r→ ∃υ y o,yl τ x n υ y o∧k υ y=some r
 | .pair a b,x,0,k,h=>⟨a,x.1,0,.here x,h⟩
 | .pair a b,x,n+1,k,h=>by
  obtain⟨υ,y,o,hf,hk⟩:=pD (τ:=b) (x:=x.2) (n:=n) (k:=k) h
  exact⟨υ,y,_,.there x hf,hk⟩
 | .int _,_,_,_,h| .bool,_,_,_,h| .str,_,_,_,h| .slice _,_,_,_,h| .unit,_,_,_,h| .arr _ _,_,_,_,h=>by simp[tc]at h
theorem yl.bound{τ:Ty}{x:τ.den}{n:Nat}{υ:Ty}{y:υ.den}{o:Nat}(h:yl τ x n υ y o):o+υ.size≤τ.size:=by
 induction h with
 |here x=>simp[Ty.size]
 |there x h ih=>simp only[Ty.size];omega
theorem yl.rd{w:World}{M:Nat→Prop}{τ:Ty}{x:τ.den}{n:Nat}{υ:Ty}{y:υ.den}{o:Nat}(h:yl τ x n υ y o):
  ∀{cs:List Value},Rd w M τ cs x→Rd w M υ ((cs.drop o).take υ.size) y:=by
 induction h with
 |here x=>
  intro cs hr
  simp only[Rd]at hr
  obtain⟨c1,c2,rfl,h1,_⟩:=hr
  rw[List.drop_zero,List.take_left' h1.length];exact h1
 |there x h ih=>
  intro cs hr
  simp only[Rd]at hr
  obtain⟨c1,c2,rfl,h1,h2⟩:=hr
  rw[←List.drop_drop,List.drop_left' h1.length]
  exact ih h2
theorem dM.gX{P:Program}{τ:Ty}{x:τ.den}{m:Nat}{υ:Ty}{y:υ.den}{o:Nat}(h:yl τ x m υ y o):
  ∀{fs:Array Field} {n off:Nat},dM P τ (.inr (fs,n,off))→ ∃f,fs[n+m]? =some f∧f.offset=off+o∧g5 P υ f.type:=by
 induction h with
 |here x=>
  intro fs n off hl
  simp only[dM]at hl
  obtain⟨f,hf,ho,ha,_⟩:=hl
  exact⟨f,hf,by simpa using ho,ha⟩
 |there x h ih=>
  intro fs n off hl
  simp only[dM]at hl
  obtain⟨f,hf,ho,_,hb⟩:=hl
  obtain⟨f',we,TC,Fm⟩:=ih hb
  exact⟨f',by rw[←we];congr 1;omega,by omega,Fm⟩
theorem g5.gX{P:Program}{τ:Ty}{t:TypeId}{x:τ.den}{m:Nat}{υ:Ty}{y:υ.den}{o:Nat}(hl:g5 P τ t)(h:yl τ x m υ y o):
  ∃fs f,P.underlying t=some (.struct fs)∧fs[m]? =some f∧f.offset=o∧g5 P υ f.type:=by
 unfold g5 at hl
 cases h with
 |here x=>
  simp only[dM]at hl
  obtain⟨_,fs,f,hu,hf,ho,ha,_⟩:=hl
  exact⟨fs,f,hu,hf,ho,ha⟩
 |there x h=>
  simp only[dM]at hl
  obtain⟨_,fs,f,hu,hf,ho,_,hb⟩:=hl
  obtain⟨f',we,TC,Fm⟩:=dM.gX h hb
  exact⟨fs,f',hu,by rw[←we];congr 1;omega,by omega,Fm⟩
inductive DP:List Step→(τ:Ty)→τ.den→(υ:Ty)→υ.den→Nat→Prop where
 |nil {τ:Ty} (x:τ.den):DP [] τ x τ x 0
 |gX {p:List Step} {τ υ σ:Ty} {x:τ.den} {n o:Nat} {y:υ.den} {z:σ.den} {q:Nat} (h:yl τ x n υ y o) (r:DP p υ y σ z q):DP (.gX n::p) τ x σ z (o+q)
 |idx {p:List Step} {n:Nat} {e σ:Ty} {x:(Ty.arr n e).den} {i:Nat} {z:σ.den} {q:Nat} (r:DP p e (List.getD x i e.zero) σ z q):DP (.idx i::p) (.arr n e) x σ z (i*e.size+q)
theorem gG{α:Type}{r:α}: ∀{p:List Step} {τ:Ty} {x:τ.den} {k:(υ:Ty)→υ.den→Option α},uO p τ x k=some r→ ∃υ y o,DP p τ x υ y o∧k υ y=some r
 |[],τ,x,k,h=>⟨τ,x,0,.nil x,h⟩
 | .gX n::p,τ,x,k,h=>by
  obtain⟨υ,y,o,hf,h'⟩:=pD (h:tc τ x n _=some r)
  obtain⟨σ,z,q,hp,hk⟩:=gG h'
  exact⟨σ,z,_,.gX hf hp,hk⟩
 | .idx i::p,τ,x,k,h=>by
  cases τ with
  |arr n e=>
   obtain⟨σ,z,q,hp,hk⟩:=gG (p:=p) (τ:=e) (x:=List.getD x i e.zero) (k:=k) h
   exact⟨σ,z,_,.idx hp,hk⟩
  |_=>simp[uO,aa8]at h
def rq:Ty→Nat→Ty
 | .pair a b,n=>match n with|0=>a|n+1=>rq b n
 |τ,_=>τ
def oj:Ty→Nat→Nat
 | .pair a b,n=>match n with|0=>0|n+1=>a.size+oj b n
 |_,_=>0
def elT:Ty→Ty
 | .arr _ e=>e
 |τ=>τ
def BK:List Step→Ty→Ty
 |[],τ=>τ
 | .gX n::p,τ=>BK p (rq τ n)
 | .idx _::p,τ=>BK p (elT τ)
def bM:List Step→Ty→Nat
 |[],_=>0
 | .gX n::p,τ=>oj τ n+bM p (rq τ n)
 | .idx i::p,τ=>i*(elT τ).size+bM p (elT τ)
def tf:List Step→Ty→Prop
 |[],_=>True
 | .gX n::p,τ=>tf p (rq τ n)
 | .idx i::p,τ=>(∃n e,τ= .arr n e∧i<n)∧tf p (elT τ)
theorem yl.eq{τ:Ty}{x:τ.den}{n:Nat}{υ:Ty}{y:υ.den}{o:Nat}(h:yl τ x n υ y o):υ=rq τ n∧o=oj τ n:=by
 induction h with
 |here x=>exact⟨rfl,rfl⟩
 |there x h ih=>obtain⟨rfl,rfl⟩:=ih;exact⟨rfl,rfl⟩
theorem DP.eq{p:List Step}{τ:Ty}{x:τ.den}{υ:Ty}{y:υ.den}{o:Nat}(h:DP p τ x υ y o):υ=BK p τ∧o=bM p τ:=by
 induction h with
 |nil x=>exact⟨rfl,rfl⟩
 |gX h r ih=>
  obtain⟨h1,h2⟩:=h.eq
  obtain⟨h3,h4⟩:=ih
  subst h1 h2 h3 h4
  exact⟨rfl,rfl⟩
 |idx r ih=>
  obtain⟨h3,h4⟩:=ih
  subst h3 h4
  exact⟨rfl,rfl⟩
theorem abb(p q:List Step): ∀τ,BK (p++q) τ=BK q (BK p τ):=by
 induction p with
 |nil=>intro τ;rfl
 |cons s p ih=>intro τ;cases s<;>simp[BK,ih]
theorem oE(p q:List Step): ∀τ,bM (p++q) τ=bM p τ+bM q (BK p τ):=by
 induction p with
 |nil=>intro τ;simp[bM,BK]
 |cons s p ih=>intro τ;cases s<;>simp[bM,BK,ih,Nat.add_assoc]
theorem oF(p q:List Step): ∀τ,tf (p++q) τ↔tf p τ∧tf q (BK p τ):=by
 induction p with
 |nil=>intro τ;simp[tf,BK]
 |cons s p ih=>intro τ;cases s<;>simp[tf,BK,ih,and_assoc]
theorem g6{α:Type}(l:List α)(i:Nat)(d:α)(h:i<l.length):l.getD i d=l[i]:=by simp[List.getD,List.getElem?_eq_getElem h]
theorem uP{α:Type}(n:Nat): ∀(l:List (List α)) (i:Nat) (h:i<l.length),(∀j (hj:j<l.length),l[j].length=n)→(l.flatten.drop (i*n)).take n=l[i]
 |a::l,0,_,hn=>by
  have:=hn 0 (by simp)
  simp only[List.getElem_cons_zero]at this
  simp[←this]
 |a::l,i+1,h,hn=>by
  have h0:=hn 0 (by simp)
  simp only[List.getElem_cons_zero]at h0
  rw[List.flatten_cons,Nat.add_mul,Nat.one_mul,Nat.add_comm (i*n) n,←List.drop_drop,List.drop_left' h0]
  exact uP n l i (by simpa using h) (fun j hj=>hn (j+1) (by simp;omega))
theorem Rd.idx{w:World}{M:Nat→Prop}{n:Nat}{e:Ty}{cs:List Value}{x:(Ty.arr n e).den}(h:Rd w M (.arr n e) cs x){i:Nat}(hi:i<n):
  Rd w M e ((cs.drop (i*e.size)).take e.size) (List.getD x i e.zero):=by
 simp only[Rd]at h
 obtain⟨hn,Nd,hc,rfl,hr⟩:=h
 rw[uP e.size Nd i (by omega) (fun j hj=>(hr j (by omega) hj).length),g6 x i e.zero (by omega)]
 exact hr i (by omega) (by omega)
theorem DP.bound{p:List Step}{τ:Ty}{x:τ.den}{υ:Ty}{y:υ.den}{o:Nat}(h:DP p τ x υ y o):tf p τ→o+υ.size≤τ.size:=by
 induction h with
 |nil x=>intro _;simp
 |gX h r ih=>
  intro hi
  obtain⟨h1,h2⟩:=h.eq
  subst h1
  have:=ih hi
  have:=h.bound
  omega
 | @idx p n e σ x i z q r ih=>
  intro hi
  obtain⟨⟨n',e',he,ir⟩,kk⟩:=hi
  cases he
  have:=ih kk
  have h2:(i+1)*e.size≤n*e.size:=Nat.mul_le_mul_right _ ir
  rw[Nat.add_mul]at h2
  simp only[Ty.size]
  omega
theorem DP.rd{w:World}{M:Nat→Prop}{p:List Step}{τ:Ty}{x:τ.den}{υ:Ty}{y:υ.den}{o:Nat}(h:DP p τ x υ y o):
  tf p τ→ ∀{cs:List Value},Rd w M τ cs x→Rd w M υ ((cs.drop o).take υ.size) y:=by
 induction h with
 |nil x=>intro _ cs hr;rw[List.drop_zero,List.take_of_length_le (by rw[hr.length];exact Nat.le_refl _)];exact hr
 |gX h r ih=>
  intro hi cs hr
  obtain⟨h1,h2⟩:=h.eq
  subst h1
  have:=ih hi (h.rd hr)
  have hb:=DP.bound r hi
  rw[List.drop_take,List.drop_drop,List.take_take,Nat.min_eq_left (by omega)]at this
  exact this
 | @idx p n e σ x i z q r ih=>
  intro hi cs hr
  obtain⟨⟨n',e',he,ir⟩,kk⟩:=hi
  cases he
  have:=ih kk (hr.idx ir)
  have hb:=DP.bound r kk
  rw[List.drop_take,List.drop_drop,List.take_take,Nat.min_eq_left (by omega)]at this
  exact this
def dq{α:Type}(cs:List α)(o:Nat)(new:List α):List α:=cs.take o++new++cs.drop (o+new.length)
theorem uQ{α:Type}{a b:List α}{o:Nat}{new:List α}(h:o+new.length≤a.length):dq (a++b) o new=dq a o new++b:=by
 unfold dq
 rw[List.take_append_of_le_length (by omega),List.drop_append_of_le_length (by omega)]
 simp only[List.append_assoc]
theorem sH{α:Type}{a b:List α}{o:Nat}{new:List α}:dq (a++b) (a.length+o) new=a++dq b o new:=by
 unfold dq
 rw[List.take_append,List.take_of_length_le (by omega),Nat.add_sub_cancel_left,Nat.add_assoc,List.drop_append,List.drop_of_length_le (by omega),Nat.add_sub_cancel_left]
 simp
theorem ep{α:Type}{a:List α}{o:Nat}{new:List α}(h:o+new.length≤a.length):(dq a o new).length=a.length:=by
 unfold dq;simp;omega
theorem DQ{α:Type}{a:List α}{o i n:Nat}{new:List α}(h:i+n≤o∨o+new.length≤i)(hl:o+new.length≤a.length):((dq a o new).drop i).take n=(a.drop i).take n:=by
 apply List.ext_getElem?
 intro j
 simp only[List.getElem?_take,List.getElem?_drop]
 split
 ·rename_i hj
  unfold dq
  rcases h with h|h
  ·rw[List.append_assoc,List.getElem?_append_left (by simp;omega),List.getElem?_take,if_pos (by omega)]
  ·rw[List.getElem?_append_right (by simp;omega)]
   simp only[List.length_append,List.length_take,Nat.min_eq_left (show o≤a.length by omega),List.getElem?_drop]
   congr 1;omega
 ·rfl
theorem abc{α:Type}{a:List α}{o:Nat}{new:List α}(hl:o+new.length≤a.length):((dq a o new).drop o).take new.length=new:=by
 unfold dq
 rw[List.append_assoc,List.drop_left' (by simp;omega),List.take_left' rfl]
theorem FM{α:Type}{l:List α}{o:Nat}{u:α}(h:l[o]? =some u):dq l o [u]=l:=by
 obtain⟨dT,rfl⟩:=List.getElem?_eq_some_iff.1 h
 unfold dq
 simp
theorem yY{α:Type}{l:List α}{o:Nat}{u:α}(h:o<l.length):(dq l o [u])[o]? =some u:=by
 unfold dq
 rw[List.append_assoc,List.getElem?_append_right (by simp;omega)]
 simp[Nat.min_eq_left (Nat.le_of_lt h)]
theorem pE{τ:Ty}: ∀{n:Nat} {a:Ty},DJ τ n=some a→ ∀x:τ.den,∃y o,yl τ x n a y o:=by
 induction τ with
 |pair a b _ PF=>
  intro n c h x
  cases n with
  |zero=>cases h;exact⟨_,_,.here x⟩
  |succ n=>
   obtain⟨y,o,hf⟩:=PF (n:=n) (a:=c) h x.2
   exact⟨y,_,.there x hf⟩
 |_=>intro n c h;simp[DJ]at h
theorem pF: ∀{p:List Step} {τ υ:Ty},eE p τ υ=true→ ∀x:τ.den,∃y o,DP p τ x υ y o
 |[],τ,υ,h,x=>by
  have h:=of_decide_eq_true h
  subst h
  exact⟨x,0,.nil x⟩
 | .gX n::p,τ,υ,h,x=>by
  unfold eE at h
  split at h
  ·rename_i a ha
   obtain⟨y,o,hf⟩:=pE ha x
   obtain⟨z,q,hp⟩:=pF h y
   exact⟨z,_,.gX hf hp⟩
  ·cases h
 | .idx _::_,_,_,h,_=>by simp[eE]at h
theorem g7: ∀{p:List Step} {τ υ:Ty},eE p τ υ=true→tf p τ∧BK p τ=υ
 |[],τ,υ,h=>⟨trivial,of_decide_eq_true h⟩
 | .gX n::p,τ,υ,h=>by
  have h0:=h
  unfold eE at h
  split at h
  ·rename_i a ha
   obtain⟨y,o,hf⟩:=pE ha τ.zero
   obtain⟨h1,h2⟩:=g7 h
   have:=hf.eq.1
   subst this
   exact⟨h1,h2⟩
  ·cases h
 | .idx _::_,_,_,h=>by simp[eE]at h
theorem wx: ∀{p q:List Step},FD p q=true→p=q
 |[],[],_=>rfl
 | .gX a::p,.gX b::q,h=>by
  simp only[FD,Bool.and_eq_true]at h
  rw[Nat.eq_of_beq_eq_true h.1,wx h.2]
 |[],_::_,h| .gX _::_,[],h| .idx _::_,_,h| .gX _::_,.idx _::_,h=>by simp[FD]at h
theorem yl.apart{τ:Ty}{x:τ.den}{n:Nat}{υ:Ty}{y:υ.den}{o:Nat}(h:yl τ x n υ y o): ∀{x':τ.den} {n':Nat} {υ':Ty} {y':υ'.den} {o':Nat},yl τ x' n' υ' y' o'→n≠n'→o+υ.size≤o'∨o'+υ'.size≤o:=by
 induction h with
 |here x=>
  intro x' n' υ' y' o' h' gi
  cases h' with
  |here=>exact absurd rfl gi
  |there _ h'=>left;omega
 |there x h ih=>
  intro x' n' υ' y' o' h' gi
  cases h' with
  |here=>right;omega
  |there _ h'=>rcases ih h' (fun e=>gi (by rw[e]))with h1|h1<;>omega
theorem DP.apart{p:List Step}{τ:Ty}{x:τ.den}{υ:Ty}{y:υ.den}{o:Nat}(h:DP p τ x υ y o):tf p τ→ ∀{q:List Step} {e:Ty},eE q τ (.slice e)=true→tb p q=false→bM q τ<o∨o+υ.size≤bM q τ:=by
 induction h with
 |nil x=>intro _ q e _ h;simp[tb]at h
 | @gX p τ υ σ x n o y z q hf r ih=>
  intro hi q' e hq hp
  obtain⟨h1,h2⟩:=hf.eq
  subst h1 h2
  cases q' with
  |nil=>
   have:=of_decide_eq_true hq
   subst this
   cases hf
  |cons s q'=>
   cases s with
   |idx i=>simp[eE]at hq
   |gX m=>
    unfold eE at hq
    split at hq
    ·rename_i a ha
     obtain⟨y',o',we⟩:=pE ha x
     obtain⟨h3,h4⟩:=we.eq
     subst h3 h4
     have hb:=r.bound hi
     obtain⟨h5,h6⟩:=g7 hq
     obtain⟨z',o2,xl⟩:=pF hq y'
     have dF:=xl.bound h5
     have ho2:=xl.eq.2
     subst ho2
     simp only[bM]
     by_cases hnm:n=m
     ·subst hnm
      have BA:tb p q'=false:=by
       simp only[tb,Bool.and_eq_false_iff]at hp
       rcases hp with hp|hp
       ·rw[Nat.beq_refl]at hp;cases hp
       ·exact hp
      rcases ih hi hq BA with h7|h7<;>omega
     ·rcases hf.apart we hnm with h7|h7
      ·right;omega
      ·left
       have:1≤(Ty.slice e).size:=Nat.le_refl _
       omega
    ·cases hq
 | @idx p n e' σ x i z q r ih=>
  intro hi q' e hq hp
  cases q' with
  |nil=>have:=of_decide_eq_true hq;cases this
  |cons s q'=>
   cases s with
   |idx i=>simp[eE]at hq
   |gX m=>simp[eE,DJ]at hq
def ez:Value→Option Nat
 | .pointer (some a)=>some a.block
 | .slice (some a) _ cap=>if cap=0 then none else some a.block
 |_=>none
def aR.mut:aR→Prop
 | .obj _ _| .own _ _| .dW _ _ _ _=>True
 |_=>False
def ER(w:World)(M:Nat→Prop)(v:Value):aR→Prop
 | .obj τ x=> ∃b cs t,v= .pointer (some ⟨b,0,none⟩)∧w.heap[b]? =some (.cells cs t (0,0))∧M b∧Rd w M τ cs.toList x
 | .dW τ x p _=> ∃b cs t oG u,v= .pointer (some ⟨b,0,none⟩)∧w.heap[b]? =some (.cells cs t (0,0))∧M b∧Rd w M τ oG x∧cs.toList=dq oG (bM p τ) [u]∧u.oneCell'=true∧ ∃e,eE p τ (.slice e)=true
 | .own e l=>(l=[]∧ ∃a,v= .slice a 0 0)∨
  ∃b cs t cap,v= .slice (some ⟨b,0,none⟩) l.length cap∧w.heap[b]? =some (.cells cs t (0,0))∧M b∧0<cap∧l.length≤cap∧cap≤maxLen∧cs.size=cap*e.size∧
   ∀i (h:i<l.length),Rd w M e ((cs.toList.drop (i*e.size)).take e.size) l[i]
 | .la e l=>Rd w M (.slice e) [v] l∧((l=[]∧ ∃a n c,v= .slice a n c)∨ ∃b n c,v= .slice (some ⟨b,0,none⟩) n c)
 | .gone=>True
def AR(v:Value)(p:List Step)(u:Value):aR→Prop
 | .obj τ _| .dW τ _ _ _=>tf p τ∧ ∃b,v= .pointer (some ⟨b,0,none⟩)∧u= .pointer (some ⟨b,bM p τ,none⟩)
 | .own e l| .la e l=> ∃i q,p= .idx i::q∧i<l.length∧tf q e∧ ∃b n c,v= .slice (some ⟨b,0,none⟩) n c∧u= .pointer (some ⟨b,i*e.size+bM q e,none⟩)
 | .gone=> ∃a,u= .pointer (some a)
mutual
def VR(w:World)(M:Nat→Prop)(H:Nat→Option aR)(ν:Nat→Value):a6→Value→Prop
 | .any,_=>True
 | .PD,v=>v=undef
 | .val τ x,v=>V w M τ v x
 | .DK τ x n,v=>V w M τ v x∧ ∃cs a,v= .agg cs∧cs.toList[oj τ n]? =some (.slice a 0 0)
 | .emp,v=> ∃a,v= .slice a 0 0
 | .ref id,v=>H id≠none∧v=ν id
 | .fP id p,v=> ∃e,H id=some e∧AR (ν id) p v e
 | .nk τ x,v=> ∃b off,v= .pointer (some ⟨b,off,none⟩)∧b<w.heap.size∧ ¬M b∧ ∃cs,At w b off cs∧Rd w M τ cs x
 | .tup vs,v=> ∃us:List Value,v= .tuple us.toArray∧fQ w M H ν vs us
 | .FE f caps,v=> ∃cs:List Value,v= .func (.func f) #[] cs.toArray∧fQ w M H ν caps cs
def fQ(w:World)(M:Nat→Prop)(H:Nat→Option aR)(ν:Nat→Value):List a6→List Value→Prop
 |[],[]=>True
 |a::as,v::vs=>VR w M H ν a v∧fQ w M H ν as vs
 |_,_=>False
end
def aR.iD:aR→aR→Prop
 | .obj τ _,.obj υ _| .obj τ _,.dW υ _ _ _| .dW τ _ _ _,.obj υ _| .dW τ _ _ _,.dW υ _ _ _=>τ=υ
 | .own e l,.own f k| .own e l,.la f k| .la e l,.la f k=>e=f∧l.length=k.length
 |_,.gone=>True
 |_,_=>False
structure ph(H:Nat→Option aR)(ν:Nat→Value)(H':Nat→Option aR)(ν':Nat→Value):Prop where
 jj: ∀i e,H i=some e→ ∃e',H' i=some e'∧e.iD e'
 head: ∀i,H i≠none→ν' i=ν i
theorem AR.ptr{v:Value}{p:List Step}{u:Value}{e:aR}(h:AR v p u e): ∃a,u= .pointer (some a):=by
 cases e<;>simp only[AR]at h
 ·obtain⟨_,b,_,h⟩:=h;exact⟨_,h⟩
 ·obtain⟨_,b,_,h⟩:=h;exact⟨_,h⟩
 ·obtain⟨i,q,_,_,_,b,n,c,_,h⟩:=h;exact⟨_,h⟩
 ·obtain⟨i,q,_,_,_,b,n,c,_,h⟩:=h;exact⟨_,h⟩
 ·exact h
theorem AR.iD{v:Value}{p:List Step}{u:Value}{e e':aR}(h:AR v p u e)(l:e.iD e'):AR v p u e':=by
 have hp:=h.ptr
 cases e<;>cases e'<;>simp only[aR.iD]at l<;>simp only[AR]at h ⊢ <;>try exact hp
 ·subst l;exact h
 ·subst l;exact h
 ·subst l;exact h
 ·subst l;exact h
 ·obtain⟨rfl,hl⟩:=l;obtain⟨i,q,hp,hi,r⟩:=h;exact⟨i,q,hp,by omega,r⟩
 ·obtain⟨rfl,hl⟩:=l;obtain⟨i,q,hp,hi,r⟩:=h;exact⟨i,q,hp,by omega,r⟩
 ·obtain⟨rfl,hl⟩:=l;obtain⟨i,q,hp,hi,r⟩:=h;exact⟨i,q,hp,by omega,r⟩
theorem aR.iD.refl(e:aR):e.iD e:=by cases e<;>simp[aR.iD]
theorem ph.refl(H:Nat→Option aR)(ν:Nat→Value):ph H ν H ν:=⟨fun _ e h=>⟨e,h,.refl e⟩,fun _ _=>rfl⟩
mutual
theorem VR.bx{w w':World}{M M':Nat→Prop}{H H':Nat→Option aR}{ν ν':Nat→Value}(k:dp w M w' M')(g:ph H ν H' ν'):
  ∀{a:a6} {v:Value},VR w M H ν a v→VR w' M' H' ν' a v
 | .any,_,_=>by simp[VR]
 | .PD,_,h=>by simpa [VR]using h
 | .val τ x,v,h=>by simp only[VR]at h ⊢;exact h.bx k
 | .DK τ x n,v,h=>by simp only[VR]at h ⊢;exact⟨h.1.bx k,h.2⟩
 | .emp,_,h=>by simpa [VR]using h
 | .ref id,_,h=>by
  simp only[VR]at h ⊢
  obtain⟨h1,h2⟩:=h
  obtain⟨e,he⟩:=Option.ne_none_iff_exists'.1 h1
  obtain⟨e',tC,_⟩:=g.jj id e he
  exact⟨by simp[tC],by rw[g.head id h1];exact h2⟩
 | .fP id p,_,h=>by
  simp only[VR]at h ⊢
  obtain⟨e,he,ha⟩:=h
  obtain⟨e',tC,hl⟩:=g.jj id e he
  exact⟨e',tC,by rw[g.head id (by simp[he])];exact ha.iD hl⟩
 | .nk τ x,_,h=>by
  simp only[VR]at h ⊢
  obtain⟨b,off,rfl,hb,hm,cs,ha,hr⟩:=h
  exact⟨b,off,rfl,Nat.lt_of_lt_of_le hb k.size,fun h'=>hm (k.less b hb h'),cs,ha.bx (k.block b hb hm),hr.bx k⟩
 | .tup vs,_,h=>by
  simp only[VR]at h ⊢
  obtain⟨us,rfl,h⟩:=h
  exact⟨us,rfl,fQ.bx k g h⟩
 | .FE f caps,_,h=>by
  simp only[VR]at h ⊢
  obtain⟨us,rfl,h⟩:=h
  exact⟨us,rfl,fQ.bx k g h⟩
theorem fQ.bx{w w':World}{M M':Nat→Prop}{H H':Nat→Option aR}{ν ν':Nat→Value}(k:dp w M w' M')(g:ph H ν H' ν'):
  ∀{as:List a6} {vs:List Value},fQ w M H ν as vs→fQ w' M' H' ν' as vs
 |[],[],_=>by simp[fQ]
 |a::as,v::vs,h=>by simp only[fQ]at h ⊢;exact⟨VR.bx k g h.1,fQ.bx k g h.2⟩
 |[],_::_,h=>by simp[fQ]at h
 |_::_,[],h=>by simp[fQ]at h
end
end VM
end
