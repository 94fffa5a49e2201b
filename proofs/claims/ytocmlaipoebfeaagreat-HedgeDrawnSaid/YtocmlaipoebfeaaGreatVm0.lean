/- A part of the proof of HedgeDrawn of layer 22: a machine that reads a function of the program as an equation between values. -/
import GoSem.Claims
import Derived.WalkKit
import Derived.ArgAppend
import Derived.Laws.CopyRow
import Derived.Laws.MakeOwn
import Derived.Laws.OwnMore
import Derived.Orders
import Derived.LoopN
set_option linter.all false
section
namespace VM
open Go
theorem agt{α:Type}(a:α): ∃b:α,b=a:=⟨a,rfl⟩
noncomputable def aU{α:Type}(a:α):α:=Classical.choose (agt a)
theorem fl{α:Type}(a:α):aU a=a:=Classical.choose_spec (agt a)
def uM:Nat:=68719476736
noncomputable def W:IntKind→Int→Int:=aU fun k x=>k.wrap x
noncomputable def aG:Int→Int→Bool:=aU fun x y=>decide (x<y)
noncomputable def bW:Int→Int→Bool:=aU fun x y=>decide (x≤y)
noncomputable def ay:Int→Int→Bool:=aU fun x y=>decide (x=y)
noncomputable def aH:Int→Nat→Bool:=aU fun i n=>decide (0≤i∧i<(n:Int))
noncomputable def small:Nat→Bool:=aU fun n=>decide (n<uM)
noncomputable def ga:Int→Int→Bool:=aU fun l c=>decide (0≤l∧l≤c∧c<(uM:Int))
noncomputable def gw:Int→Int→Int→Int→Bool:=aU fun l h m n=>decide (0≤l∧l≤h∧h≤m∧m≤n)
noncomputable def quo:Int→Int→Int:=aU fun x y=>x.tdiv y
noncomputable def rem:Int→Int→Int:=aU fun x y=>x.tmod y
noncomputable def shl:IntKind→Int→Int→Int:=aU fun k x y=>x*2^(min y.toNat k.bits)
noncomputable def shr:IntKind→Int→Int→Int:=aU fun k x y=>x.fdiv (2^(min y.toNat k.bits))
noncomputable def mx:Int→Int→Int:=aU fun x y=>if y>x then y else x
noncomputable def mn:Int→Int→Int:=aU fun x y=>if y<x then y else x
noncomputable def PA:ByteArray→ByteArray→Bool:=aU fun x y=>decide (x.toList=y.toList)
theorem yx(k:IntKind)(x:Int):W k x=k.wrap x:=by unfold W;rw[fl]
theorem o9(x y:Int):aG x y=decide (x<y):=by unfold aG;rw[fl]
theorem kN(x y:Int):bW x y=decide (x≤y):=by unfold bW;rw[fl]
theorem gb(x y:Int):ay x y=decide (x=y):=by unfold ay;rw[fl]
theorem Ka(i:Int)(n:Nat):aH i n=decide (0≤i∧i<(n:Int)):=by unfold aH;rw[fl]
theorem zK(n:Nat):small n=decide (n<uM):=by unfold small;rw[fl]
theorem CH(l c:Int):ga l c=decide (0≤l∧l≤c∧c<(uM:Int)):=by unfold ga;rw[fl]
theorem uS(l h m n:Int):gw l h m n=decide (0≤l∧l≤h∧h≤m∧m≤n):=by unfold gw;rw[fl]
theorem D8(x y:Int):quo x y=x.tdiv y:=by unfold quo;rw[fl]
theorem PB(x y:Int):rem x y=x.tmod y:=by unfold rem;rw[fl]
theorem PC(k:IntKind)(x y:Int):shl k x y=x*2^(min y.toNat k.bits):=by unfold shl;rw[fl]
theorem Kb(k:IntKind)(x y:Int):shr k x y=x.fdiv (2^(min y.toNat k.bits)):=by unfold shr;rw[fl]
theorem agu(x y:Int):mx x y=if y>x then y else x:=by unfold mx;rw[fl]
theorem ZQ(x y:Int):mn x y=if y<x then y else x:=by unfold mn;rw[fl]
theorem zL(x y:ByteArray):PA x y=decide (x.toList=y.toList):=by unfold PA;rw[fl]
inductive Bw where|and|or|xor|andNot
noncomputable def jC:Bw→IntKind→Int→Int→Int:=aU fun o k x y=>
 let a:=BitVec.ofInt k.bits x
 let b:=BitVec.ofInt k.bits y
 k.wrap (match o with| .and=>a&&& b| .or=>a|||b| .xor=>a^^^b| .andNot=>a&&& ~~~b).toNat
theorem p3(o:Bw)(k:IntKind)(x y:Int):jC o k x y=
 let a:=BitVec.ofInt k.bits x
 let b:=BitVec.ofInt k.bits y
 k.wrap (match o with| .and=>a&&& b| .or=>a|||b| .xor=>a^^^b| .andNot=>a&&& ~~~b).toNat:=by unfold jC;rw[fl]
def strOf(l:List Nat):ByteArray:=⟨(l.map UInt8.ofNat).toArray⟩
inductive Ty where
 |int (k:IntKind)
 |bool
 |str
 |slice (e:Ty)
 |unit
 |pair (a b:Ty)
 |arr (n:Nat) (e:Ty)
 deriving DecidableEq
@[reducible] def Ty.den:Ty→Type
 | .int _=>Int
 | .bool=>Bool
 | .str=>ByteArray
 | .slice e=>List e.den
 | .unit=>Unit
 | .pair a b=>a.den×b.den
 | .arr _ e=>List e.den
def Ty.size:Ty→Nat
 | .int _| .bool| .str| .slice _=>1
 | .unit=>0
 | .pair a b=>a.size+b.size
 | .arr n e=>n*e.size
def Ty.isAgg:Ty→Bool
 | .unit| .pair _ _| .arr _ _=>true
 |_=>false
def Ty.zero:(τ:Ty)→τ.den
 | .int _=>(0:Int)
 | .bool=>false
 | .str=>ByteArray.empty
 | .slice _=>[]
 | .unit=>()
 | .pair a b=>(a.zero,b.zero)
 | .arr n e=>List.replicate n e.zero
def Ty.comparable:Ty→Bool
 | .slice _=>false
 | .pair a b=>a.comparable&&b.comparable
 | .arr _ _=>false
 |_=>true
def agv{α:Type}(f:α→α→Bool):List α→List α→Bool
 |[],[]=>true
 |x::xs,y::ys=>f x y&&agv f xs ys
 |_,_=>false
noncomputable def jO:(τ:Ty)→τ.den→τ.den→Bool
 | .int _,x,y=>ay x y
 | .bool,x,y=>x==y
 | .str,x,y=>PA x y
 | .slice _,_,_=>false
 | .unit,_,_=>true
 | .pair a b,x,y=>jO a x.1 y.1&&jO b x.2 y.2
 | .arr _ e,x,y=>agv (jO e) x y
inductive Step where
 |gP (n:Nat)
 |idx (i:Nat)
def F7:List Step→List Step→Bool
 |[],[]=>true
 | .gP a::p,.gP b::q=>Nat.beq a b&&F7 p q
 |_,_=>false
def s7:List Step→List Step→Bool
 |[],_=>true
 | .gP a::p,.gP b::q=>Nat.beq a b&&s7 p q
 |_,_=>false
def D9:Ty→Nat→Option Ty
 | .pair a b,n=>match n with
  |0=>some a
  |n+1=>D9 b n
 |_,_=>none
def eL:List Step→Ty→Ty→Bool
 |[],τ,υ=>decide (τ=υ)
 | .gP n::p,τ,υ=>match D9 τ n with
  |some a=>eL p a υ
  |none=>false
 |_,_,_=>false
inductive a7 where
 |any
 |PD
 |val (τ:Ty) (x:τ.den)
 |Ea (τ:Ty) (x:τ.den) (n:Nat)
 |emp
 |ref (id:Nat)
 |fR (id:Nat) (p:List Step)
 |nw (τ:Ty) (x:τ.den)
 |tup (vs:List a7)
 |F8 (f:Nat) (caps:List a7)
inductive aR where
 |obj (τ:Ty) (x:τ.den)
 |ed (τ:Ty) (x:τ.den) (p:List Step) (j:Nat)
 |own (e:Ty) (l:List e.den)
 |lj (e:Ty) (l:List e.den)
 |gone
structure St where
 T:Nat→a7
 H:Nat→Option aR
def St.put(σ:St)(d:Nat)(v:a7):St:=⟨fun i=>cond (Nat.beq i d) v (σ.T i),σ.H⟩
def St.il(σ:St)(d:Nat)(v:Option aR):St:=⟨σ.T,fun i=>cond (Nat.beq i d) v (σ.H i)⟩
def St.ri(σ:St)(d:Option Nat)(v:a7):St:=match d with|some d=>σ.put d v|none=>σ
def Ga(n:Nat)(io:List Nat):Option Nat→Bool|some d=>Nat.blt d n&&io.all (fun i=> !(Nat.beq i d))|none=>true
def St.rB(σ:St):List (Nat×Option aR)→St
 |[]=>σ
 |u::r=>(σ.il u.1 u.2).rB r
abbrev S0:St:=⟨fun _=> .any,fun _=>none⟩
abbrev fK:=List (Nat×Option aR)
section K
variable{α:Type}
def s8:(τ:Ty)→τ.den→Nat→((υ:Ty)→υ.den→Option α)→Option α
 | .pair a b,x,n,k=>match n with
  |0=>k a x.1
  |n+1=>s8 b x.2 n k
 |_,_,_,_=>none
def jR:(τ:Ty)→τ.den→Nat→((υ:Ty)→υ.den→(υ.den→Option α)→Option α)→(τ.den→Option α)→Option α
 | .pair a b,x,n,m,k=>match n with
  |0=>m a x.1 fun z=>k (z,x.2)
  |n+1=>jR b x.2 n m fun z=>k (x.1,z)
 |_,_,_,_,_=>none
def jS(τ υ:Ty)(k:Option α):Option α:=if τ=υ then k else none
def cn(υ τ:Ty)(y:υ.den)(k:τ.den→Option α):Option α:=if h:υ=τ then k (h▸y)else none
def aa1(τ:Ty)(x:τ.den)(i:Nat)(k:(υ:Ty)→υ.den→Option α):Option α:=
 match τ,x with
 | .arr _ e,x=>k e (List.getD x i e.zero)
 |_,_=>none
def zf(τ:Ty)(x:τ.den)(i:Nat)(m:(υ:Ty)→υ.den→(υ.den→Option α)→Option α)(k:τ.den→Option α):Option α:=
 match τ,x,k with
 | .arr _ e,x,k=>m e (List.getD x i e.zero) fun z=>k (List.set x i z)
 |_,_,_=>none
def uT:List Step→(τ:Ty)→τ.den→((υ:Ty)→υ.den→Option α)→Option α
 |[],τ,x,k=>k τ x
 | .gP n::p,τ,x,k=>s8 τ x n fun υ y=>uT p υ y k
 | .idx i::p,τ,x,k=>aa1 τ x i fun υ y=>uT p υ y k
def rj(υ:Ty)(y:υ.den):List Step→(τ:Ty)→τ.den→(τ.den→Option α)→Option α
 |[],τ,_,k=>cn υ τ y k
 | .gP n::p,τ,x,k=>jR τ x n (fun υ' y' k'=>rj υ y p υ' y' k') k
 | .idx i::p,τ,x,k=>zf τ x i (fun υ' y' k'=>rj υ y p υ' y' k') k
def iT(fz:Bool)(a:a7)(H:Nat→Option aR)(τ:Ty)(k:τ.den→List Nat→fK→Option α):Option α:=
 match a with
 | .val υ x=>cn υ τ x fun y=>k y [] []
 | .Ea υ x _=>cn υ τ x fun y=>k y [] []
 | .emp=>match τ,k with
  | .slice _,k=>k [] [] []
  |_,_=>none
 | .ref id=>match H id with
  |some (.own e l)=>cn (.slice e) τ l fun y=>k y [id] (cond fz [(id,some (.lj e l))] [])
  |some (.lj e l)=>cn (.slice e) τ l fun y=>k y [id] []
  |_=>none
 |_=>none
def Gb(a:a7)(k:(τ:Ty)→τ.den→Option α):Option α:=
 match a with
 | .val υ x=>k υ x
 |_=>none
def jT(id:Nat)(p:List Step)(H:Nat→Option aR)(k:Ty→Option α):Option α:=
 match H id with
 |some (.obj τ x)=>uT p τ x fun υ _=>k υ
 |some (.ed τ x _ _)=>uT p τ x fun υ _=>k υ
 |some (.own e l)|some (.lj e l)=>match p with
  | .idx i::p=>uT p e (List.getD l i e.zero) fun υ _=>k υ
  |_=>none
 |_=>none
def arU(a:a7)(H:Nat→Option aR)(k:(τ:Ty)→τ.den→List Nat→Option α):Option α:=
 match a with
 | .val υ x=>k υ x []
 | .ref id=>match H id with
  |some (.own e l)|some (.lj e l)=>k (.slice e) l [id]
  |_=>none
 |_=>none
def rC(a:a7)(k:IntKind→Int→Option α):Option α:=
 match a with
 | .val (.int i) x=>k i x
 |_=>none
end K
inductive AM where
 |v (τ:Ty)
 |own (e:Ty)
 |io (τ:Ty)
 |fn (f:Nat) (τ:Ty)
 |ptr (τ:Ty)
 |fR (τ:Ty)
@[reducible] def AM.den:AM→Type
 | .v τ=>τ.den
 | .own e=>List e.den
 | .io τ=>τ.den
 | .fn _ τ=>τ.den
 | .ptr τ=>τ.den
 | .fR τ=>τ.den
@[reducible] def HP:List AM→Type
 |[]=>Unit
 |[m]=>m.den
 |m::n::ms=>m.den×HP (n::ms)
structure iz where
 args:List AM
 res:List AM
 quiet:Bool
 run:HP args→Option (HP res)
inductive CM where
 |v (τ:Ty)
 |own (e:Ty)
 |obj (τ:Ty)
 |ed (τ:Ty) (q:List Step) (e:Ty)
 |same (s:Nat)
 |io (τ:Ty)
 |fn (f:Nat) (τ:Ty)
structure Env where
 nt:Nat
 ty:Nat→Option Ty
 Γ:Nat→List iz
 N:Nat
 rD:Nat→Option (List (Nat×CM))
 s9:Nat→Option (List (Nat×CM))
 io:List Nat:=[]
 lk:Option (Ty×List Step×Ty×List Nat):=none
def lkT(E:Env)(τ:Ty):Option (List Step×Ty):=match E.lk with
 |some (υ,q,e,_)=>cond (decide (υ=τ)) (cond (eL q τ (.slice e)) (some (q,e)) none) none
 |none=>none
def Eb(E:Env)(τ:Ty)(id:Nat):Option (List Step×Ty):=match E.lk with
 |some (_,_,_,ds)=>cond (ds.any fun d=>Nat.beq (id/16) d) (lkT E τ) none
 |none=>none
def cvA:Value→a7
 | .int k n=> .val (.int k) n
 | .bool b=> .val .bool b
 | .string s=> .val .str s
 | .slice none 0 0=> .emp
 |_=> .any
def St.ρ (σ:St):Operand→a7
 | .tmp t=>σ.T t
 | .const v=>cvA v
 | .global _=> .any
 | .func f=> .F8 f []
section
variable{α:Type}
noncomputable def p4(op:BinOp)(k:IntKind)(x y:Int)(K:a7→Option α):Option α:=
 match op with
 | .add=>K (.val (.int k) (W k (x+y)))
 | .sub=>K (.val (.int k) (W k (x-y)))
 | .mul=>K (.val (.int k) (W k (x*y)))
 | .quo=>cond (ay y 0) none (K (.val (.int k) (W k (quo x y))))
 | .rem=>cond (ay y 0) none (K (.val (.int k) (rem x y)))
 | .and=>K (.val (.int k) (jC .and k x y))
 | .or=>K (.val (.int k) (jC .or k x y))
 | .xor=>K (.val (.int k) (jC .xor k x y))
 | .andNot=>K (.val (.int k) (jC .andNot k x y))
 | .eql=>K (.val .bool (ay x y))
 | .neq=>K (.val .bool (!ay x y))
 | .lss=>K (.val .bool (aG x y))
 | .leq=>K (.val .bool (bW x y))
 | .gtr=>K (.val .bool (aG y x))
 | .geq=>K (.val .bool (bW y x))
 |_=>none
noncomputable def Tp(op:BinOp)(k:IntKind)(x y:Int)(K:a7→Option α):Option α:=
 match op with
 | .shl=>cond (aG y 0) none (K (.val (.int k) (W k (shl k x y))))
 | .shr=>cond (aG y 0) none (K (.val (.int k) (shr k x y)))
 |_=>none
def Tq:BinOp→Bool
 | .shl| .shr=>true
 |_=>false
noncomputable def zM(t:Option Ty)(op:BinOp)(τ:Ty)(x:τ.den)(υ:Ty)(y:υ.den)(K:a7→Option α):Option α:=
 match τ,x,υ,y with
 | .int k,x,.int k',y=>cond (Tq op) (Tp op k x y K) (if k=k' then p4 op k x y K else none)
 |τ,x,υ,y=>match t with
  |none=>none
  |some u=>jS u τ (cond τ.comparable (match op with
   | .eql=>cn υ τ y fun y=>K (.val .bool (jO τ x y))
   | .neq=>cn υ τ y fun y=>K (.val .bool (!jO τ x y))
   |_=>none) none)
noncomputable def Nq(op:UnOp)(a:a7)(K:a7→Option α):Option α:=
 match op,a with
 | .neg,.val (.int k) n=>K (.val (.int k) (W k (0-n)))
 | .xor,.val (.int k) n=>K (.val (.int k) (jC .xor k (if k.signed then-1 else k.max) n))
 | .not,.val .bool b=>K (.val .bool (!b))
 |_,_=>none
abbrev fL(α:Type):=a7→List Nat→fK→Option α
noncomputable def SY(up:Bool):a7→List a7→(a7→Option α)→Option α
 |a,[],K=>K a
 |a,b::r,K=>rC a fun k x=>rC b fun k' y=>if k=k' then SY up (.val (.int k) (cond up (mx x y) (mn x y))) r K else none
def Gc(τ:Ty)(a:a7)(H:Nat→Option aR)(K:fL α):Option α:=
 match τ,a with
 | .slice _,.val (.slice _) l=>K (.val (.int .i64) (List.length l:Int)) [] []
 | .arr n _,.val (.arr _ _) _=>K (.val (.int .i64) (n:Int)) [] []
 | .str,.val .str s=>K (.val (.int .i64) (ByteArray.size s:Int)) [] []
 | .slice _,.emp=>K (.val (.int .i64) (0:Int)) [] []
 | .slice _,.ref id=>match H id with
  |some (.own _ l)|some (.lj _ l)=>K (.val (.int .i64) (l.length:Int)) [id] []
  |_=>none
 |_,_=>none
def nx(H:Nat→Option aR)(id:Nat)(e:aR)(K:Option α):Option α:=
 match H id with
 |none=>K
 |some _=>none
noncomputable def Gd(id:Nat)(e:Ty)(a b:a7)(H:Nat→Option aR)(K:fL α):Option α:=
 iT false b H (.slice e) fun ys rd _=>
  match a with
  | .emp=>cond (small (List.length ys)) (K (.ref id) (id::rd) [(id,some (.own e ys))]) none
  | .ref j=>match H j with
   |some (.own e' l)=>cn (.slice e') (.slice e) l fun xs=>
    cond (small (List.length xs+List.length ys)) (K (.ref id) (id::j::rd) [(j,some .gone),(id,some (.own e (xs++ys)))]) none
   |_=>none
  |_=>none
def p5(τ:Ty)(H:Nat→Option aR):List (Nat×a7)→τ.den→List Nat→fK→(τ.den→List Nat→fK→Option α)→Option α
 |[],x,rd,ups,K=>K x rd ups
 |p::r,x,rd,ups,K=>s8 τ x p.1 fun υ _=>iT true p.2 H υ fun y wB kO=>
  jR τ x p.1 (fun υ' _ k'=>cn υ υ' y k') fun z=>p5 τ H r z (wB++rd) (ups++kO) K
def rE(e:Ty)(H:Nat→Option aR)(n:Nat):List (Nat×a7)→List e.den→List Nat→fK→(List e.den→List Nat→fK→Option α)→Option α
 |[],l,rd,ups,K=>K l rd ups
 |p::r,l,rd,ups,K=>cond (Nat.blt p.1 n) (iT true p.2 H e fun y wB kO=>rE e H n r (List.set l p.1 y) (wB++rd) (ups++kO) K) none
def xq(v:a7)(H:Nat→Option aR):(a:Ty)→(a.den→List Nat→fK→Option α)→Option α
 | .pair a .unit,k=>match v with
  | .nw υ x=>cn υ a x fun y=>k (y,()) [] []
  |_=>none
 |a,k=>iT true v H a k
def xr:(a:Ty)→a.den→a7
 | .pair a .unit,x=> .nw a x.1
 |a,x=> .val a x
def ny(H:Nat→Option aR):(τ:Ty)→List a7→(τ.den→List Nat→fK→Option α)→Option α
 | .unit,[],K=>K () [] []
 | .pair a b,v::vs,K=>xq v H a fun x rd ups=>ny H b vs fun xs wB kO=>K (x,xs) (wB++rd) (ups++kO)
 |_,_,_=>none
def mM:(τ:Ty)→τ.den→List a7
 | .pair a b,x=>xr a x.1::mM b x.2
 |_,_=>[]
def bu(H:Nat→Option aR)(d:Nat)(v:Option aR):Nat→Option aR:=fun i=>cond (Nat.beq i d) v (H i)
def rF(H:Nat→Option aR):List a7→(List a7→List Nat→fK→Option α)→Option α
 |[],K=>K [] [] []
 |a::r,K=>match a with
  | .fR id []=>match H id with
   |some (.obj τ x)=>rF (bu H id (some .gone)) r fun cs rd ups=>K (.nw τ x::cs) (id::rd) ((id,some .gone)::ups)
   |_=>none
  |a=>rF H r fun cs rd ups=>K (a::cs) rd ups
def lE(m:AM)(a:a7)(H:Nat→Option aR)(k:m.den→(Nat→Option aR)→List Nat→fK→fK→List (Nat×Ty)→Option α):Option α:=
 match m,k with
 | .v τ,k=>iT true a H τ fun x rd uf=>match uf with
  |[]=>k x H rd [] [] []
  |u::r=>k x (bu H u.1 u.2) rd [] (u::r) []
 | .own e,k=>match a with
  | .emp=>k [] H [] [] [] []
  | .ref id=>match H id with
   |some (.own e' l)=>cn (.slice e') (.slice e) l fun x=>k x (bu H id (some .gone)) [id] [(id,some .gone)] [] []
   |_=>none
  |_=>none
 | .io τ,k=>match a with
  | .fR id []=>match H id with
   |some (.obj υ x)=>cn υ τ x fun y=>k y (bu H id (some .gone)) [id] [] [] [(id,τ)]
   |_=>none
  |_=>none
 | .fn f τ,k=>match a with
  | .F8 f' c=>cond (Nat.beq f f') (ny H τ c fun x rd uf=>match uf with
   |[]=>k x H rd [] [] []
   |_=>none) none
  |_=>none
 | .ptr _,_=>none
 | .fR τ,k=>match a with
  | .nw υ x=>cn υ τ x fun y=>k y H [] [] [] []
  |_=>none
def pt:(ms:List AM)→List a7→(Nat→Option aR)→List Nat→fK→fK→List (Nat×Ty)→(HP ms→List Nat→fK→fK→List (Nat×Ty)→Option α)→Option α
 |[],[],_,rd,uo,uf,io,K=>K () rd uo uf io
 |[m],[a],H,rd,uo,uf,io,K=>lE m a H fun x _ wB FU FV BS=>K x (wB++rd) (FU++uo) (FV++uf) (io++BS)
 |m::n::ms,a::mR,H,rd,uo,uf,io,K=>lE m a H fun x H' wB FU FV BS=>
  pt (n::ms) mR H' (wB++rd) (FU++uo) (FV++uf) (io++BS) fun xs rd uo uf io=>K (x,xs) rd uo uf io
 |_,_,_,_,_,_,_,_=>none
def Ec(m:AM)(x:m.den)(id:Nat):a7×fK:=
 match m,x with
 | .v τ,x=>(.val τ x,[])
 | .own e,x=>(.ref id,[(id,some (.own e x))])
 | .io τ,x=>(.val τ x,[])
 | .fn _ _,_=>(.any,[])
 | .ptr τ,x=>(.fR id [],[(id,some (.obj τ x))])
 | .fR _,_=>(.any,[])
def iU:(ms:List AM)→HP ms→Nat→List (Nat×Ty)→List a7×fK×List (Nat×Ty)
 |[],_,_,io=>([],[],io)
 |[m],x,id,io=>match m,x,io with
  | .io τ,x,(j,_)::io=>([],[(j,some (.obj τ x))],io)
  |m,x,io=>([(Ec m x id).1],(Ec m x id).2,io)
 |m::n::ms,x,id,io=>match m,x,io with
  | .io τ,x,(j,_)::io=>let r:=iU (n::ms) x.2 (id+1) io;(r.1,(j,some (.obj τ x.1))::r.2.1,r.2.2)
  |m,x,io=>let r:=iU (n::ms) x.2 (id+1) io;((Ec m x.1 id).1::r.1,(Ec m x.1 id).2++r.2.1,r.2.2)
def Ge:List a7→a7
 |[]=> .any
 |[a]=>a
 |l=> .tup l
def p6(H:Nat→Option aR)(id:Nat):Nat→Bool
 |0=>true
 |n+1=>(match H (id+n)with|none=>true|some _=>false)&&p6 H id n
def Gf(id:Nat):Nat→List Nat
 |0=>[]
 |n+1=>(id+n)::Gf id n
def fits:List AM→List a7→Bool
 |[],[]=>true
 | .fn f _::ms,.F8 g _::mR=>Nat.beq f g&&fits ms mR
 | .fn _ _::_,_::_=>false
 |_::ms,_::mR=>fits ms mR
 |_,_=>false
def Gg:List iz→List a7→Option iz
 |[],_=>none
 |S::r,mR=>cond (fits S.args mR) (some S) (Gg r mR)
noncomputable def xt(E:Env)(f:Nat)(mR:List a7)(id:Nat)(H:Nat→Option aR)(K:fL α):Option α:=
 match Gg (E.Γ f) mR with
 |none=>none
 |some S=>pt S.args mR H [] [] [] [] fun x rd uo uf io=>
  (S.run x).bind fun y=>
   let r:=iU S.res y id io
   cond (p6 H id S.res.length) (K (Ge r.1) (Gf id S.res.length++(r.2.1.map (·.1)++rd)) (uo++cond S.quiet [] uf++r.2.1)) none
def tP(a:Option a7)(d:Int)(k:Int→Option α):Option α:=
 match a with
 |none=>k d
 |some a=>rC a fun _ x=>k x
def iO:Option Operand→Bool
 |some (.const (.int _ n))=>decide (n=0)
 |_=>false
noncomputable def nA(t:Ty)(z:Bool)(a:a7)(lo hi mx:Option a7)(H:Nat→Option aR)(K:fL α):Option α:=
 match t,a with
 | .str,.val .str s=>cond mx.isNone (tP lo 0 fun l=>tP hi (ByteArray.size s:Int) fun h=>
  cond (gw l h (ByteArray.size s:Int) (ByteArray.size s:Int)) (K (.val .str (ByteArray.extract s l.toNat h.toNat)) [] []) none) none
 | .slice _,.emp=>cond z (K .emp [] []) (cond mx.isNone (tP lo 0 fun l=>tP hi 0 fun h=>cond (gw l h 0 0) (K .emp [] []) none) none)
 | .slice e,a=>iT (!z) a H (.slice e) fun x rd ups=>cond z (K .emp rd [])
  (cond (mx.isNone||hi.isSome) (tP lo 0 fun l=>tP hi (List.length x:Int) fun h=>tP mx (List.length x:Int) fun m=>
   cond (gw l h m (List.length x:Int))
    (K (.val (.slice e) (List.drop l.toNat (List.take h.toNat x))) rd ups) none) none)
 |_,_=>none
noncomputable def eu(τ:Ty)(a i:a7)(H:Nat→Option aR)(K:fL α):Option α:=
 rC i fun _ i=>
 match τ with
 | .slice e=>match a with
  | .val υ l=>cn υ (.slice e) l fun l=>cond (aH i (List.length l)) (K (.nw e (List.getD l i.toNat e.zero)) [] []) none
  | .ref id=>match H id with
   |some (.own e' l)|some (.lj e' l)=>jS e' e (cond (aH i (List.length l)) (K (.fR id [.idx i.toNat]) [id] []) none)
   |_=>none
  |_=>none
 | .arr n e=>match a with
  | .fR id p=>jT id p H fun υ=>jS υ (.arr n e) (cond (aH i n) (K (.fR id (p++[.idx i.toNat])) [id] []) none)
  | .nw υ l=>cn υ (.arr n e) l fun l=>cond (aH i n) (K (.nw e (List.getD l i.toNat e.zero)) [] []) none
  |_=>none
 |_=>none
noncomputable def rG(τ:Ty)(a i:a7)(K:a7→Option α):Option α:=
 rC i fun _ i=>
 match τ,a with
 | .arr n e,.val υ l=>cn υ (.arr n e) l fun l=>cond (aH i n) (K (.val e (List.getD l i.toNat e.zero))) none
 | .str,.val .str s=>cond (aH i (ByteArray.size s)) (K (.val (.int .u8) ((s.data.getD i.toNat 0).toNat:Int))) none
 |_,_=>none
def ib(a:a7)(H:Nat→Option aR)(K:(υ:Ty)→υ.den→List Nat→Option α):Option α:=
 match a with
 | .nw τ x=>K τ x []
 | .fR id p=>match H id with
  |some (.obj τ x)=>uT p τ x fun υ y=>K υ y [id]
  |some (.own e l)|some (.lj e l)=>match p with
   | .idx i::p=>uT p e (List.getD l i e.zero) fun υ y=>K υ y [id]
   |_=>none
  |_=>none
 |_=>none
def iV(τ:Ty)(a v:a7)(H:Nat→Option aR)(K:fL α):Option α:=
 match a with
 | .fR id p=>iT true v H τ fun y rd ups=>
  match H id with
  |some (.obj υ x)=>rj τ y p υ x fun z=>K .any (id::rd) (ups++[(id,some (.obj υ z))])
  |some (.own e l)=>match p with
   | .idx i::p=>cond (rd.contains id) none (rj τ y p e (List.getD l i e.zero) fun z=>K .any (id::rd) (ups++[(id,some (.own e (List.set l i z)))]))
   |_=>none
  |_=>none
 |_=>none
def yz(j:Nat)(q:List Step)(τ:Ty)(x:τ.den)(H:Nat→Option aR)(k:τ.den→fK→Option α):Option α:=
 match H j with
 |some (.own e l)=>rj (.slice e) l q τ x fun z=>k z [(j,some (.lj e l))]
 |some (.lj e l)=>rj (.slice e) l q τ x fun z=>k z []
 |_=>none
def q3(τ:Ty)(a:a7)(H:Nat→Option aR)(K:fL α):Option α:=
 let uN:=ib a H fun υ y rd=>cn υ τ y fun z=>K (.val τ z) rd []
 match a with
 | .fR id p=>match H id with
  |some (.ed υ x q j)=>cond (F7 p q) (cond (eL q υ τ) (K (.ref j) [id] []) none)
   (cond (s7 p q) (yz j q υ x H fun z ups=>uT p υ z fun υ' y=>cn υ' τ y fun y'=>K (.val τ y') [id,j] ups)
    (uT p υ x fun υ' y=>cn υ' τ y fun y'=>K (.val τ y') [id] []))
  |_=>uN
 |_=>uN
def xu(τ:Ty)(id k:Nat)(e:Ty)(q:List Step)(υ:Ty)(x:υ.den)(H:Nat→Option aR)(K:fL α):Option α:=
 match H k with
 |some (.own e' _)=>jS e' e (jS τ (.slice e) (rj (.slice e) [] q υ x fun z=>K .any [id,k] [(id,some (.ed υ z q k))]))
 |_=>none
def gz(E:Env)(τ:Ty)(a v:a7)(H:Nat→Option aR)(K:fL α):Option α:=
 let uN:=iV τ a v H K
 match a with
 | .fR id p=>match H id with
  |some (.obj υ x)=>match Eb E υ id,v with
   |some (q,e),.ref k=>cond (F7 p q) (xu τ id k e q υ x H K) uN
   |_,_=>uN
  |some (.ed υ x q j)=>
   let put:=iT true v H τ fun y rd ups=>rj τ y p υ x fun z=>K .any (id::rd) (ups++[(id,some (cond (s7 p q) (.obj υ z) (.ed υ z q j)))])
   match Eb E υ id,v with
   |some (q',e),.ref k=>cond (F7 p q&&F7 q q') (xu τ id k e q υ x H K) put
   |_,_=>put
  |_=>uN
 |_=>uN
def pa(E:Env)(τ:Ty)(a v:a7)(H:Nat→Option aR)(K:fL α):Option α:=
 match a,v with
 | .fR id [],.Ea υ y n=>match Eb E υ id with
  |some ([.gP m],e)=>cond (Nat.beq m n) (jS τ υ (jT id [] H fun υ'=>jS υ' υ
   (nx H (id+2) (.own e []) (K .any [id,id+2] [(id,some (.ed υ y [.gP m] (id+2))),(id+2,some (.own e []))])))) (gz E τ a v H K)
  |_=>gz E τ a v H K
 |_,_=>gz E τ a v H K
def yA(H:Nat→Option aR)(id:Nat)(τ:Ty)(x:τ.den)(q:List Step)(e:Ty)(K:fL α):Option α:=
 nx H id (.obj τ x) (nx H (id+1) (.own e []) (K (.fR id []) [id,id+1] [(id,some (.ed τ x q (id+1))),(id+1,some (.own e []))]))
def Ts(E:Env)(ps:List (Nat×a7))(τ:Ty)(x:τ.den):a7:=match lkT E τ with
 |some ([.gP n],_)=>cond (ps.all fun p=> !(Nat.beq p.1 n)) (.Ea τ x n) (.val τ x)
 |_=> .val τ x
def partsOf(σρ:Operand→a7)(ps:Array (Nat×Operand)):List (Nat×a7):=ps.toList.map fun p=>(p.1,σρ p.2)
noncomputable def pk(E:Env)(o:Oper)(ρ:Operand→a7)(H:Nat→Option aR)(K:fL α):Option α:=
 let id:=16*o.dst.getD 0
 match o.op with
 | .move x| .assign x=>K (ρ x) [] []
 | .pick c a b=>match ρ c with
  | .val .bool t=>cond t (K (ρ a) [] []) (K (ρ b) [] [])
  |_=>none
 | .alloc t=>match E.ty t with
  |some τ=>match Eb E τ id with
   |some (q,e)=>yA H id τ τ.zero q e K
   |none=>nx H id (.obj τ τ.zero) (K (.fR id []) [id] [(id,some (.obj τ τ.zero))])
  |none=>none
 | .box t x=>match E.ty t with
  |some τ=>
   let uN:=iT true (ρ x) H τ fun y rd ups=>nx H id (.obj τ y) (K (.fR id []) (id::rd) (ups++[(id,some (.obj τ y))]))
   match Eb E τ id,ρ x with
   |some ([.gP m],e),.Ea υ y n=>cond (Nat.beq m n) (cn υ τ y fun y=>yA H id τ y [.gP m] e K) uN
   |_,_=>uN
  |none=>none
 | .build t ps=>match E.ty t with
  |some (.arr n e)=>rE e H n (partsOf ρ ps) (List.replicate n e.zero) [] [] fun l rd ups=>K (.val (.arr n e) l) rd ups
  |some τ=>cond τ.isAgg (p5 τ H (partsOf ρ ps) τ.zero [] [] fun x rd ups=>K (Ts E (partsOf ρ ps) τ x) rd ups) none
  |none=>none
 | .buildSlice t n ps=>match E.ty t with
  |some (.slice e)=>cond (Nat.ble (n*(e.size+1)) 16777216) (nx H id (.own e []) (rE e H n (partsOf ρ ps) (List.replicate n e.zero) [] [] fun l rd ups=>K (.ref id) (id::rd) (ups++[(id,some (.own e l))]))) none
  |_=>none
 | .load t a=>match E.ty t with
  |some τ=>q3 τ (ρ a) H K
  |none=>none
 | .store t a v=>match E.ty t with
  |some τ=>pa E τ (ρ a) (ρ v) H K
  |none=>none
 | .nilCheck x=>match ρ x with
  | .fR id p=>K (.fR id p) [] []
  | .nw τ x=>K (.nw τ x) [] []
  |_=>none
 | .binOp op t x y _=>Gb (ρ x) fun τ x=>Gb (ρ y) fun υ y=>zM (E.ty t) op τ x υ y fun v=>K v [] []
 | .unOp op _ x=>Nq op (ρ x) fun v=>K v [] []
 | .convert src dst x=>match E.ty src,E.ty dst with
  |some _,some (.int k)=>rC (ρ x) fun _ n=>K (.val (.int k) (W k n)) [] []
  |_,_=>none
 | .makeFunc (.func f) first caps=>cond first.isEmpty (rF H (caps.toList.map ρ) fun cs rd ups=>K (.F8 f cs) rd ups) none
 | .makeSlice t l c=>match E.ty t with
  |some (.slice e)=>rC (ρ l) fun _ l=>rC (ρ c) fun _ c=>cond (ga l c)
    (nx H id (.own e []) (K (.ref id) [id] [(id,some (.own e (List.replicate l.toNat e.zero)))])) none
  |_=>none
 | .slice t x lo hi mx=>match E.ty t with
  |some τ=>nA τ (lo.isNone&&iO hi&&iO mx) (ρ x) (lo.map ρ) (hi.map ρ) (mx.map ρ) H K
  |none=>none
 | .fieldAddr t x n=>match E.ty t with
  |some τ=>match ρ x with
   | .fR id p=>jT id p H fun υ=>jS υ τ (s8 τ τ.zero n fun υ' _=>cond (Nat.beq υ'.size 0) none (K (.fR id (p++[.gP n])) [id] []))
   | .nw υ x=>jS υ τ (s8 υ x n fun υ y=>cond (Nat.beq υ.size 0) none (K (.nw υ y) [] []))
   |_=>none
  |none=>none
 | .field t x n=>match E.ty t with
  |some τ=>match ρ x with
   | .val υ x=>jS υ τ (s8 υ x n fun υ y=>K (.val υ y) [] [])
   |_=>none
  |none=>none
 | .indexAddr t x i=>match E.ty t with
  |some τ=>eu τ (ρ x) (ρ i) H K
  |none=>none
 | .index t x i=>match E.ty t with
  |some τ=>rG τ (ρ x) (ρ i) fun v=>K v [] []
  |none=>none
 | .extract t i=>match ρ t with
  | .tup vs=>match vs[i]? with
   |some v=>K v [] []
   |none=>none
  |_=>none
 | .call c=>match c.callee with
  | .builtin .len=>match c.args.toList,(c.argTypes.toList.head?).bind E.ty with
   |[x],some τ=>Gc τ (ρ x) H K
   |_,_=>none
  | .builtin .append=>match c.args.toList,c.argTypes.toList with
   |[x,y],[t,t']=>match E.ty t with
    |some (.slice e)=>cond (Nat.beq t t') (nx H id (.own e []) (Gd id e (ρ x) (ρ y) H K)) none
    |_=>none
   |_,_=>none
  | .builtin .max=>match c.args.toList with
   |x::r=>SY true (ρ x) (r.map ρ) fun v=>K v [] []
   |_=>none
  | .builtin .min=>match c.args.toList with
   |x::r=>SY false (ρ x) (r.map ρ) fun v=>K v [] []
   |_=>none
  | .value g=>match ρ g with
   | .F8 f caps=>xt E f (c.args.toList.map ρ++caps) id H K
   |_=>none
  |_=>none
 |_=>none
noncomputable def pv(E:Env)(ops:List Oper)(o:Oper)(σ:St)(K:St→List Nat→List Nat→Option α):Option α:=
 let run (σ:St):Option α:=pk E o σ.ρ σ.H fun v rd ups=>K ((σ.rB ups).ri o.dst v) rd (ups.map (·.1))
 cond (Ga E.nt E.io o.dst) (match o.guard with
 |none=>run σ
 |some (j,want)=>match(ops[j]?).bind (·.dst)with
  |none=>none
  |some t=>match σ.T t with
   | .val .bool b=>match want with
    |true=>cond b (run (σ.put t (.val .bool true))) (K ((σ.put t (.val .bool false)).ri o.dst .PD) [] [])
    |false=>cond b (K ((σ.put t (.val .bool true)).ri o.dst .PD) [] []) (run (σ.put t (.val .bool false)))
   | .PD=>K (σ.ri o.dst .PD) [] []
   |_=>none) none
abbrev Log:=List (Nat×List Nat×List Nat)
noncomputable def Nr(E:Env)(ops:List Oper):List Oper→Nat→St→Log→(St→Log→Option α)→Option α
 |[],_,σ,lg,K=>K σ lg
 |o::r,i,σ,lg,K=>pv E ops o σ fun σ' rd wr=>Nr E ops r (i+1) σ' ((i,rd,wr)::lg) K
def pb:List Oper→List Nat→List Nat
 |[],acc=>acc
 |o::r,acc=>pb r (acc++[o.after.toList.foldl (fun s e=>cond (Region.binds .any e) (s|||2^e.on|||acc.getD e.on 0) s) 0])
def names(ops:List Oper)(o:Oper):List Nat:=
 (o.op.operands.toList.filterMap fun| .tmp t=>some t|_=>none)++
 (match o.guard with
  |some (g,_)=>((ops[g]?).bind (·.dst)).toList
  |none=>[])
def meets(a b:List Nat):Bool:=a.any fun x=>b.any fun y=>Nat.beq x y
def PE(ops:List Oper):Bool:=
 let b:=pb ops []
 (ops.zipIdx.all fun(o,j)=>o.after.toList.all fun e=> !(Region.binds .any e)||Nat.blt e.on j)&&
 ops.zipIdx.all fun(o,j)=>ops.zipIdx.all fun(p,i)=>Nat.ble j i||(b.getD j 0).testBit i||
  !(meets p.dst.toList (o.dst.toList++names ops o)||meets o.dst.toList (names ops p))
def ZR(ops:List Oper)(lg:Log):Bool:=
 let b:=pb ops []
 lg.all fun x=>lg.all fun y=>Nat.ble x.1 y.1||(b.getD x.1 0).testBit y.1||
  !(meets y.2.2 (x.2.1++x.2.2)||meets y.2.1 x.2.2)
noncomputable def zg(E:Env)(ops:Array Oper)(draw:Bool)(σ:St)(K:St→Option α):Option α:=
 Nr E ops.toList ops.toList 0 σ [] fun σ' lg=>cond (!draw||(PE ops.toList&&ZR ops.toList lg)) (K σ') none
def eX:List (Nat×CM)→St→St→(St→Option α)→Option α
 |[],_,acc,K=>K acc
 |(s,.v τ)::r,σ,acc,K=>iT true (σ.T s) σ.H τ fun x _ ups=>eX r (σ.rB ups) (acc.put s (.val τ x)) K
 |(s,.own e)::r,σ,acc,K=>match σ.T s with
  | .emp=>eX r σ ((acc.put s (.ref (16*s+14))).il (16*s+14) (some (.own e []))) K
  | .ref id=>match σ.H id with
   |some (.own e' l)=>cn (.slice e') (.slice e) l fun x=>eX r (σ.il id (some .gone)) ((acc.put s (.ref (16*s+14))).il (16*s+14) (some (.own e x))) K
   |_=>none
  |_=>none
 |(s,.obj τ)::r,σ,acc,K=>match σ.T s with
  | .fR id []=>match σ.H id with
   |some (.obj υ x)=>cn υ τ x fun y=>eX r (σ.il id (some .gone)) ((acc.put s (.fR (16*s+14) [])).il (16*s+14) (some (.obj τ y))) K
   |some (.ed υ x q j)=>yz j q υ x σ.H fun z ups=>cn υ τ z fun y=>eX r ((σ.rB ups).il id (some .gone)) ((acc.put s (.fR (16*s+14) [])).il (16*s+14) (some (.obj τ y))) K
   |_=>none
  |_=>none
 |(s,.ed τ q e)::r,σ,acc,K=>match σ.T s with
  | .fR id []=>match σ.H id with
   |some (.ed υ x q' j)=>cond (F7 q q') (match σ.H j with
    |some (.own e' l)=>cn υ τ x fun y=>cn (.slice e') (.slice e) l fun l=>eX r ((σ.il j (some .gone)).il id (some .gone))
     (((acc.put s (.fR (16*s+14) [])).il (16*s+13) (some (.own e l))).il (16*s+14) (some (.ed τ y q (16*s+13)))) K
    |_=>none) none
   |_=>none
  |_=>none
 |(s,.same s')::r,σ,acc,K=>match σ.T s,σ.T s',acc.T s' with
  | .ref i,.ref j,.ref j'=>cond (Nat.beq i j) (eX r σ (acc.put s (.ref j')) K) none
  |_,_,_=>none
 |(s,.io τ)::r,σ,acc,K=>match σ.T s with
  | .fR id []=>cond (Nat.beq id (16*s+15)) (match σ.H id with
   |some (.obj υ x)=>cn υ τ x fun y=>eX r (σ.il id (some .gone)) ((acc.put s (.fR (16*s+15) [])).il (16*s+15) (some (.obj τ y))) K
   |_=>none) none
  |_=>none
 |(s,.fn f τ)::r,σ,acc,K=>match σ.T s with
  | .F8 f' c=>cond (Nat.beq f f') (ny σ.H τ c fun x _ ups=>match ups with
   |[]=>eX r σ (acc.put s (.F8 f (mM τ x))) K
   |_=>none) none
  |_=>none
def gA:List (Nat×CM)→Bool
 |[]=>true
 |q::r=>r.all (fun p=> !(Nat.beq p.1 q.1))&&gA r
def rH(L:Option (List (Nat×CM)))(σ:St)(K:St→Option α):Option α:=
 match L with
 |none=>K σ
 |some L=>eX L σ ⟨fun _=> .any,fun _=>none⟩ K
def xv(L:Option (List (Nat×CM)))(step:St→(St→Option α)→Option α):Nat→St→Option α
 |0,_=>none
 |n+1,σ=>step σ fun σ'=>rH L σ' (xv L step n)
def bU:Code→Option Nat
 | .region id _ _=>some id
 | .seq a b=>match bU a with
  |some i=>some i
  |none=>bU b
 | .block _ c| .loop c| .scope c=>bU c
 |_=>none
def CI(E:Env)(c:Operand)(σ:St)(A B:St→Option α):Option α:=
 match σ.ρ c with
 | .val .bool b=>match c with
  | .tmp t=>cond b (A (σ.put t (.val .bool true))) (B (σ.put t (.val .bool false)))
  |_=>cond b (A σ) (B σ)
 |_=>none
noncomputable def zh(E:Env)(c:Code):St→(St→Option α)→(Nat→St→Option α)→(St→Option α)→Option α:=
 Code.rec (motive:=fun _=>St→(St→Option α)→(Nat→St→Option α)→(St→Option α)→Option α)
  (fun σ k _ _=>k σ)
  (fun _ ops draw σ k _ _=>zg E ops draw σ k)
  (fun _ b A B σ k kx kr=>A σ (fun σ'=>rH ((bU b).bind E.s9) σ' fun rk=>B rk k kx kr) kx kr)
  (fun c _ _ A B σ k kx kr=>CI E c σ (fun σ'=>A σ' k kx kr) (fun σ'=>B σ' k kx kr))
  (fun id _ A σ k kx kr=>A σ k (fun i σ'=>cond (Nat.beq i id) (k σ') (kx i σ')) kr)
  (fun b A σ _ kx kr=>rH ((bU b).bind E.rD) σ (xv ((bU b).bind E.rD) (fun σ' kn=>A σ' kn kx kr) E.N))
  (fun _ _ _ _ _ _ _ _ _ _=>none)
  (fun id σ _ kx _=>kx id σ)
  (fun _ A σ k kx kr=>A σ k kx kr)
  (fun _ σ k _ _=>k σ)
  (fun _ _ _ _ _=>none)
  (fun σ _ _ kr=>kr σ)
  (fun _ _ _ _ _=>none)
  c
noncomputable def rl(E:Env):List Nat→Code→List (St→Option α)→St→(St→Option α)→(Nat→St→Option α)→(St→Option α)→Option α
 |[],c,_,σ,k,kx,kr=>zh E c σ k kx kr
 |n::p,c,ks,σ,k,kx,kr=>match c with
  | .seq a b=>match n with
   |0=>rl E p a ks σ (fun σ'=>rH ((bU b).bind E.s9) σ' fun rk=>zh E b rk k kx kr) kx kr
   |_=>rl E p b ks σ k kx kr
  | .cond _ a b=>match n with
   |0=>rl E p a ks σ k kx kr
   |_=>rl E p b ks σ k kx kr
  | .block id c=>rl E p c ks σ k (fun i σ'=>cond (Nat.beq i id) (k σ') (kx i σ')) kr
  | .loop b=>match ks with
   |κ::ks=>rl E p b ks σ κ kx kr
   |[]=>none
  | .scope c=>rl E p c ks σ k kx kr
  |_=>none
def Kc(m:AM)(x:m.den)(i:Nat)(σ:St):St:=
 match m,x with
 | .v τ,x=>σ.put i (.val τ x)
 | .own e,x=>(σ.put i (.ref (16*i+15))).il (16*i+15) (some (.own e x))
 | .io τ,x=>(σ.put i (.fR (16*i+15) [])).il (16*i+15) (some (.obj τ x))
 | .fn f τ,x=>σ.put i (.F8 f (mM τ x))
 | .ptr _,_=>σ
 | .fR τ,x=>σ.put i (.nw τ x)
def entry:(ms:List AM)→HP ms→Nat→St→St
 |[],_,_,σ=>σ
 |[m],x,i,σ=>Kc m x i σ
 |m::n::ms,x,i,σ=>entry (n::ms) x.2 (i+1) (Kc m x.1 i σ)
def CJ(E:Env)(m:AM)(r:ResultVar ⊕ Nat)(σ:St)(K:m.den→St→Option α):Option α:=
 match m,r,K with
 | .v τ,.inl (.tmp t),K=>iT true (σ.T t) σ.H τ fun x _ ups=>K x (σ.rB ups)
 | .v τ,.inl (.cell a t),K=>match E.ty t with
  |some τ'=>jS τ' τ (ib (σ.T a) σ.H fun υ y _=>cn υ τ y fun x=>K x σ)
  |none=>none
 | .own e,.inl (.tmp t),K=>match σ.T t with
  | .emp=>K [] σ
  | .ref id=>match σ.H id with
   |some (.own e' l)=>cn (.slice e') (.slice e) l fun x=>K x (σ.il id (some .gone))
   |_=>none
  |_=>none
 | .io τ,.inr i,K=>match σ.T i with
  | .fR id []=>match σ.H id with
   |some (.obj υ x)=>cn υ τ x fun y=>K y (σ.il id (some .gone))
   |_=>none
  |_=>none
 | .ptr τ,.inl (.tmp t),K=>match σ.T t with
  | .fR id []=>match σ.H id with
   |some (.obj υ x)=>cn υ τ x fun y=>K y (σ.il id (some .gone))
   |_=>none
  |_=>none
 |_,_,_=>none
def Ed(E:Env):(ms:List AM)→List (ResultVar ⊕ Nat)→St→(HP ms→Option α)→Option α
 |[],[],_,K=>K ()
 |[m],[r],σ,K=>CJ E m r σ fun x _=>K x
 |m::n::ms,r::rs,σ,K=>CJ E m r σ fun x σ'=>Ed E (n::ms) rs σ' fun xs=>K (x,xs)
 |_,_,_,_=>none
def wC:List AM→Nat→List (ResultVar ⊕ Nat)
 |[],_=>[]
 | .io _::ms,i=> .inr i::wC ms (i+1)
 |_::ms,i=>wC ms (i+1)
noncomputable def Gh(E:Env)(fn:Func)(args res:List AM)(x:HP args):Option (HP res):=
 match fn.body with
 |none=>none
 |some c=>
  let kr:St→Option (HP res):=fun σ=>Ed E res (fn.results.toList.map .inl++wC args 0) σ some
  zh E c (entry args x 0 ⟨fun _=> .any,fun _=>none⟩) kr (fun _ _=>none) kr
end
end VM
end
section
namespace VM
open Go
noncomputable def oC(N:Nat)(x y c:Int):Option (Int×Int):=if 0≤x∧0≤y∧0≤c∧c≤1 then some ((x+y+c)%18446744073709551616,(x+y+c)/18446744073709551616)else none
noncomputable def oD(N:Nat)(x y c:Int):Option (Int×Int):=if 0≤x∧x<18446744073709551616∧0≤y∧y<18446744073709551616∧0≤c∧c≤1 then some ((x+18446744073709551616-y-c)%18446744073709551616,if x<y+c then 1 else 0)else none
noncomputable def gR{α:Type}(N:Nat)(l:List α)(i:Int)(v:List α):Option (List α):=if 0≤i∧i≤l.length∧v.length=1∧l.length+1<uM then some (l.take i.toNat++(v++l.drop i.toNat))else none
noncomputable def Tt{α:Type}(N:Nat)(l:List α)(n:Int):Option (List α):=match l with
 |[x]=>if 0<n∧n<1048576 then some (List.replicate n.toNat x)else none
 |_=>none
noncomputable def oC.S(N:Nat):iz:={args:=[.v (.int .u64),.v (.int .u64),.v (.int .u64)],res:=[.v (.int .u64),.v (.int .u64)],quiet:=true,run:=fun x=>oC N x.1 x.2.1 x.2.2}
noncomputable def oD.S(N:Nat):iz:={args:=[.v (.int .u64),.v (.int .u64),.v (.int .u64)],res:=[.v (.int .u64),.v (.int .u64)],quiet:=true,run:=fun x=>oD N x.1 x.2.1 x.2.2}
noncomputable def gS(e:Ty)(N:Nat):iz:={args:=[.own e,.v (.int .i64),.own e],res:=[.own e],quiet:=false,run:=fun x=>gR N x.1 x.2.1 x.2.2}
noncomputable def alH(e:Ty)(N:Nat):iz:={args:=[.v (.slice e),.v (.int .i64)],res:=[.own e],quiet:=false,run:=fun x=>Tt N x.1 x.2}
noncomputable def kP{α:Type}(N:Nat)(l:List α):Option (List α):=if l.length<uM then some l else none
noncomputable def rI(e:Ty)(N:Nat):iz:={args:=[.v (.slice e)],res:=[.own e],quiet:=false,run:=fun x=>kP N x}
end VM
namespace VM
abbrev bI:Int×Int×Unit:=((0:Int),((0:Int),()))
abbrev bK:List (Int×Int×Unit):=[]
abbrev aL:Int×Int×Int×Unit:=((0:Int),((0:Int),((0:Int),())))
abbrev aY:List (Int×Int×Int×Unit):=[]
abbrev aK:Int×Int×Int×Int×Unit:=((0:Int),((0:Int),((0:Int),((0:Int),()))))
abbrev cg:List (Int×Int×Int×Int×Unit):=[]
abbrev dT:Int×Int×Int×Int×Int×Unit:=((0:Int),((0:Int),((0:Int),((0:Int),((0:Int),())))))
abbrev zi:List (Int×Int×Int×Int×Int×Unit):=[]
abbrev dP:Int×Int×Int×Int×Int×Int×Unit:=((0:Int),((0:Int),((0:Int),((0:Int),((0:Int),((0:Int),()))))))
abbrev cJ:List (Int×Int×Int×Int×Int×Int×Unit):=[]
abbrev ZS:Int×Int×Int×Int×Int×Int×Int×Unit:=((0:Int),((0:Int),((0:Int),((0:Int),((0:Int),((0:Int),((0:Int),())))))))
abbrev ee7:List (Int×Int×Int×Int×Int×Int×Int×Unit):=[]
abbrev zz8:Int×Int×Int×Int×Int×Int×Int×Int×Unit:=((0:Int),((0:Int),((0:Int),((0:Int),((0:Int),((0:Int),((0:Int),((0:Int),()))))))))
abbrev ee8:List (Int×Int×Int×Int×Int×Int×Int×Int×Unit):=[]
abbrev cD:List Int:=[]
abbrev kQ:List Int×Unit:=(cD,())
end VM
end
section
namespace VM
open Go
def At(w:World)(b off:Nat)(cs:List Value):Prop:= ∀j v,cs[j]? =some v→w.cell? ⟨b,off+j,none⟩=some v
def Rd(w:World)(M:Nat→Prop):(τ:Ty)→List Value→τ.den→Prop
 | .int k,cs,x=>cs=[.int k x]
 | .bool,cs,x=>cs=[.bool x]
 | .str,cs,x=>cs=[.string x]
 | .slice e,cs,x=> ∃a cap,cs=[.slice a (List.length x) cap]∧List.length x≤cap∧
  ∀i (h:i<List.length x),∃b off,a=some ⟨b,off,none⟩∧b<w.heap.size∧ ¬M b∧ ∃cs',At w b (off+i*e.size) cs'∧Rd w M e cs' (List.get x ⟨i,h⟩)
 | .unit,cs,_=>cs=[]
 | .pair a b,cs,x=> ∃c1 c2,cs=c1++c2∧Rd w M a c1 x.1∧Rd w M b c2 x.2
 | .arr n e,cs,x=>List.length x=n∧ ∃Ns:List (List Value),Ns.length=n∧cs=Ns.flatten∧
  ∀i (h:i<List.length x) (h':i<Ns.length),Rd w M e Ns[i] (List.get x ⟨i,h⟩)
theorem lF{α:Type}(n:Nat): ∀(l:List (List α)),(∀i (h:i<l.length),l[i].length=n)→l.flatten.length=l.length*n
 |[],_=>by simp
 |a::l,h=>by
  have h0:=h 0 (by simp)
  have ih:=lF n l (fun i hi=>h (i+1) (by simp;omega))
  simp only[List.getElem_cons_zero]at h0
  simp only[List.flatten_cons,List.length_append,List.length_cons,ih,h0,Nat.add_mul]
  omega
theorem Rd.length{w:World}{M:Nat→Prop}: ∀{τ:Ty} {cs:List Value} {x:τ.den},Rd w M τ cs x→cs.length=τ.size
 | .int _,_,_,h=>by simp only[Rd]at h;subst h;rfl
 | .bool,_,_,h=>by simp only[Rd]at h;subst h;rfl
 | .str,_,_,h=>by simp only[Rd]at h;subst h;rfl
 | .slice _,_,_,h=>by simp only[Rd]at h;obtain⟨a,cap,rfl,_⟩:=h;rfl
 | .unit,_,_,h=>by simp only[Rd]at h;subst h;rfl
 | .pair a b,_,_,h=>by
  simp only[Rd]at h
  obtain⟨c1,c2,rfl,h1,h2⟩:=h
  rw[List.length_append,h1.length,h2.length];rfl
 | .arr n e,_,x,h=>by
  simp only[Rd]at h
  obtain⟨hn,Ns,hc,rfl,hr⟩:=h
  rw[lF e.size Ns (fun i hi=>(hr i (by omega) hi).length),hc];rfl
structure du(w:World)(M:Nat→Prop)(w':World)(M':Nat→Prop):Prop where
 size:w.heap.size≤w'.heap.size
 block: ∀b,b<w.heap.size→ ¬M b→w'.heap[b]? =w.heap[b]?
 less: ∀b,b<w.heap.size→M' b→M b
theorem aa2{w:World}{b o:Nat}{v:Value}(h:w.cell? ⟨b,o,none⟩=some v):b<w.heap.size:=by
 simp only[World.cell?]at h
 rcases Nat.lt_or_ge b w.heap.size with hb|hb
 ·exact hb
 ·simp[Array.getElem?_eq_none hb]at h
theorem At.bP{w w':World}{b off:Nat}{cs:List Value}(h:At w b off cs)(hb:w'.heap[b]? =w.heap[b]?):At w' b off cs:=by
 intro j v hj
 have:=h j v hj
 rw[World.cell?_of_block (w:=w) hb]
 exact this
theorem At.append{w:World}{b off:Nat}{c1 c2:List Value}:At w b off (c1++c2)↔At w b off c1∧At w b (off+c1.length) c2:=by
 constructor
 ·intro h
  refine⟨fun j v hj=>h j v (by rw[List.getElem?_append_left];exact hj;exact(List.getElem?_eq_some_iff.1 hj).1),fun j v hj=> ?_⟩
  have:=h (c1.length+j) v (by rw[List.getElem?_append_right (by omega)];simpa using hj)
  rw[Nat.add_assoc];exact this
 ·rintro⟨h1,h2⟩ j v hj
  by_cases dD:j<c1.length
  ·rw[List.getElem?_append_left dD]at hj;exact h1 j v hj
  ·rw[List.getElem?_append_right (by omega)]at hj
   have:=h2 (j-c1.length) v hj
   rwa [show off+c1.length+(j-c1.length)=off+j from by omega]at this
theorem Rd.bP{w w':World}{M M':Nat→Prop}(k:du w M w' M'): ∀{τ:Ty} {cs:List Value} {x:τ.den},Rd w M τ cs x→Rd w' M' τ cs x
 | .int _,_,_,h=>h
 | .bool,_,_,h=>h
 | .str,_,_,h=>h
 | .slice e,_,x,h=>by
  simp only[Rd]at h ⊢
  obtain⟨a,cap,rfl,hc,hr⟩:=h
  refine⟨a,cap,rfl,hc,fun i hi=> ?_⟩
  obtain⟨b,off,ha,hb,hm,cs',ll,ic⟩:=hr i hi
  exact⟨b,off,ha,Nat.lt_of_lt_of_le hb k.size,fun h'=>hm (k.less b hb h'),_,ll.bP (k.block b hb hm),ic.bP k⟩
 | .unit,_,_,h=>h
 | .pair a b,_,_,h=>by
  simp only[Rd]at h ⊢
  obtain⟨c1,c2,rfl,h1,h2⟩:=h
  exact⟨c1,c2,rfl,h1.bP k,h2.bP k⟩
 | .arr n e,_,x,h=>by
  simp only[Rd]at h ⊢
  obtain⟨hn,Ns,hc,rfl,hr⟩:=h
  exact⟨hn,Ns,hc,rfl,fun i hi lG=>(hr i hi lG).bP k⟩
theorem du.refl(w:World)(M:Nat→Prop):du w M w M:=⟨Nat.le_refl _,fun _ _ _=>rfl,fun _ _ h=>h⟩
theorem du.trans{w w' w'':World}{M M' JP:Nat→Prop}(h:du w M w' M')(k:du w' M' w'' JP):du w M w'' JP:=
 ⟨Nat.le_trans h.size k.size,fun b hb hm=>(k.block b (Nat.lt_of_lt_of_le hb h.size) (fun h'=>hm (h.less b hb h'))).trans (h.block b hb hm),
  fun b hb hm=>h.less b hb (k.less b (Nat.lt_of_lt_of_le hb h.size) hm)⟩
def V(w:World)(M:Nat→Prop)(τ:Ty)(v:Value)(x:τ.den):Prop:=
 if τ.isAgg then ∃cs,v= .agg cs∧Rd w M τ cs.toList x else Rd w M τ [v] x
theorem V.bP{w w':World}{M M':Nat→Prop}(k:du w M w' M'){τ:Ty}{v:Value}{x:τ.den}(h:V w M τ v x):V w' M' τ v x:=by
 unfold V at*
 split
 ·rename_i ha;rw[if_pos ha]at h;obtain⟨cs,rfl,h⟩:=h;exact⟨cs,rfl,h.bP k⟩
 ·rename_i ha;rw[if_neg ha]at h;exact h.bP k
theorem Rd.scalar{w:World}{M:Nat→Prop}{τ:Ty}{cs:List Value}{x:τ.den}(ha:τ.isAgg=false)(h:Rd w M τ cs x): ∃v,cs=[v]∧v.cells= #[v]:=by
 cases τ<;>simp only[Ty.isAgg,Bool.true_eq_false]at ha<;>simp only[Rd]at h
 ·exact⟨_,h,rfl⟩
 ·exact⟨_,h,rfl⟩
 ·exact⟨_,h,rfl⟩
 ·obtain⟨a,cap,rfl,_⟩:=h;exact⟨_,rfl,rfl⟩
theorem V.cells{w:World}{M:Nat→Prop}{τ:Ty}{v:Value}{x:τ.den}(h:V w M τ v x):Rd w M τ v.cells.toList x:=by
 unfold V at h
 by_cases ha:τ.isAgg=true
 ·rw[if_pos ha]at h;obtain⟨cs,rfl,h⟩:=h;exact h
 ·rw[if_neg ha]at h
  obtain⟨v',hv,hc⟩:=h.scalar (by simpa using ha)
  simp only[List.cons.injEq,and_true]at hv
  subst hv
  rw[hc];exact h
def bT(τ:Ty)(cs:List Value):Value:=if τ.isAgg then .agg cs.toArray else cs.headD (.tuple #[])
theorem V.bT{w:World}{M:Nat→Prop}{τ:Ty}{cs:List Value}{x:τ.den}(h:Rd w M τ cs x):V w M τ (bT τ cs) x:=by
 unfold V VM.bT
 by_cases ha:τ.isAgg=true
 ·rw[if_pos ha,if_pos ha];exact⟨_,rfl,by simpa using h⟩
 ·rw[if_neg ha,if_neg ha]
  obtain⟨v',rfl,_⟩:=h.scalar (by simpa using ha)
  exact h
theorem B2{w:World}{M:Nat→Prop}{τ:Ty}{cs:List Value}{x:τ.den}(h:Rd w M τ cs x):(bT τ cs).cells.toList=cs:=by
 unfold VM.bT
 by_cases ha:τ.isAgg=true
 ·rw[if_pos ha];simp[Value.cells]
 ·rw[if_neg ha]
  obtain⟨v',rfl,hc⟩:=h.scalar (by simpa using ha)
  simp[hc]
theorem Rd.ln{w:World}{M:Nat→Prop}: ∀{τ:Ty} {cs:List Value} {x:τ.den},Rd w M τ cs x→ ∀v∈cs,v.oneCell'=true
 | .int _,_,_,h=>by simp only[Rd]at h;subst h;simp[Value.oneCell']
 | .bool,_,_,h=>by simp only[Rd]at h;subst h;simp[Value.oneCell']
 | .str,_,_,h=>by simp only[Rd]at h;subst h;simp[Value.oneCell']
 | .slice _,_,_,h=>by simp only[Rd]at h;obtain⟨a,cap,rfl,_⟩:=h;simp[Value.oneCell']
 | .unit,_,_,h=>by simp only[Rd]at h;subst h;simp
 | .pair a b,_,_,h=>by
  simp only[Rd]at h
  obtain⟨c1,c2,rfl,h1,h2⟩:=h
  intro v hv
  rcases List.mem_append.1 hv with hv|hv
  ·exact h1.ln v hv
  ·exact h2.ln v hv
 | .arr n e,_,x,h=>by
  simp only[Rd]at h
  obtain⟨hn,Ns,hc,rfl,hr⟩:=h
  intro v hv
  obtain⟨l,hl,hvl⟩:=List.mem_flatten.1 hv
  obtain⟨i,hi,rfl⟩:=List.mem_iff_getElem.1 hl
  exact(hr i (by omega) hi).ln v hvl
def Ty.cr:Ty→List Value
 | .int k=>[.int k 0]
 | .bool=>[.bool false]
 | .str=>[.string ByteArray.empty]
 | .slice _=>[.slice none 0 0]
 | .unit=>[]
 | .pair a b=>a.cr++b.cr
 | .arr n e=>(List.replicate n e.cr).flatten
theorem Rd.zero(w:World)(M:Nat→Prop): ∀(τ:Ty),Rd w M τ τ.cr τ.zero
 | .int _| .bool| .str| .unit=>by simp[Rd,Ty.cr,Ty.zero]
 | .slice _=>by
  simp only[Rd,Ty.cr,Ty.zero]
  exact⟨none,0,rfl,Nat.le_refl _,fun i h=>absurd h (by simp)⟩
 | .pair a b=>by
  simp only[Rd,Ty.cr,Ty.zero]
  exact⟨_,_,rfl,Rd.zero w M a,Rd.zero w M b⟩
 | .arr n e=>by
  simp only[Rd,Ty.cr,Ty.zero]
  refine⟨by simp,_,by simp,rfl,fun i h h'=> ?_⟩
  simp only[List.getElem_replicate,List.get_eq_getElem]
  exact Rd.zero w M e
end VM
end
section
namespace VM
open Go
def Ee(P:Program)(τ:Ty)(t:TypeId):Prop:=
 ∃i,P.info? t=some i∧i.size=τ.size∧i.zero=some (bT τ τ.cr)∧i.bytes≤2048
def dQ(P:Program):Ty→TypeId ⊕ (Array Field×Nat×Nat)→Prop
 | .int k,.inl t=>Ee P (.int k) t∧P.underlying t=some (.int k)
 | .bool,.inl t=>Ee P .bool t∧P.underlying t=some .bool
 | .str,.inl t=>Ee P .str t∧P.underlying t=some .string
 | .slice e,.inl t=>Ee P (.slice e) t∧ ∃e',P.underlying t=some (.slice e')∧dQ P e (.inl e')
 | .arr n e,.inl t=>Ee P (.arr n e) t∧ ∃e',P.underlying t=some (.array n e')∧dQ P e (.inl e')
 | .unit,.inl t=>Ee P .unit t∧ ∃fs,P.underlying t=some (.struct fs)∧fs.size=0
 | .unit,.inr (fs,n,_)=>fs.size=n
 | .pair a b,.inl t=>Ee P (.pair a b) t∧ ∃fs f,P.underlying t=some (.struct fs)∧fs[0]? =some f∧f.offset=0∧dQ P a (.inl f.type)∧dQ P b (.inr (fs,1,a.size))
 | .pair a b,.inr (fs,n,off)=> ∃f,fs[n]? =some f∧f.offset=off∧dQ P a (.inl f.type)∧dQ P b (.inr (fs,n+1,off+a.size))
 |_,.inr _=>False
def gT(P:Program)(τ:Ty)(t:TypeId):Prop:=dQ P τ (.inl t)
theorem gT.base{P:Program}{τ:Ty}{t:TypeId}(h:gT P τ t):Ee P τ t:=by
 unfold gT at h;cases τ<;>simp only[dQ]at h<;>exact h.1
theorem gT.int{P:Program}{k:IntKind}{t:TypeId}(h:gT P (.int k) t):P.underlying t=some (.int k):=by simp only[gT,dQ]at h;exact h.2
theorem gT.bool{P:Program}{t:TypeId}(h:gT P .bool t):P.underlying t=some .bool:=by simp only[gT,dQ]at h;exact h.2
theorem gT.str{P:Program}{t:TypeId}(h:gT P .str t):P.underlying t=some .string:=by simp only[gT,dQ]at h;exact h.2
theorem gT.slice{P:Program}{e:Ty}{t:TypeId}(h:gT P (.slice e) t): ∃e',P.underlying t=some (.slice e')∧gT P e e':=by simp only[gT,dQ]at h;exact h.2
theorem gT.arr{P:Program}{n:Nat}{e:Ty}{t:TypeId}(h:gT P (.arr n e) t): ∃e',P.underlying t=some (.array n e')∧gT P e e':=by simp only[gT,dQ]at h;exact h.2
theorem gT.isSome{P:Program}{τ:Ty}{t:TypeId}(h:gT P τ t):(P.underlying t).isSome=true:=by
 unfold gT at h
 cases τ<;>simp only[dQ]at h
 ·simp[h.2]
 ·simp[h.2]
 ·simp[h.2]
 ·obtain⟨_,e',h',_⟩:=h;simp[h']
 ·obtain⟨_,e',h',_⟩:=h;simp[h']
 ·obtain⟨_,e',f,h',_⟩:=h;simp[h']
 ·obtain⟨_,e',h',_⟩:=h;simp[h']
inductive yB:(τ:Ty)→τ.den→Nat→(υ:Ty)→υ.den→Nat→Prop where
 |here {a b:Ty} (x:(Ty.pair a b).den):yB (.pair a b) x 0 a x.1 0
 |there {a b:Ty} (x:(Ty.pair a b).den) {n:Nat} {υ:Ty} {y:υ.den} {o:Nat} (h:yB b x.2 n υ y o):yB (.pair a b) x (n+1) υ y (a.size+o)
theorem px{α:Type}{r:α}: ∀{τ:Ty} {x:τ.den} {n:Nat} {k:(υ:Ty)→υ.den→Option α},s8 τ x n k=some r→ ∃υ y o,yB τ x n υ y o∧k υ y=some r
 | .pair a b,x,0,k,h=>⟨a,x.1,0,.here x,h⟩
 | .pair a b,x,n+1,k,h=>by
  obtain⟨υ,y,o,hf,hk⟩:=px (τ:=b) (x:=x.2) (n:=n) (k:=k) h
  exact⟨υ,y,_,.there x hf,hk⟩
 | .int _,_,_,_,h| .bool,_,_,_,h| .str,_,_,_,h| .slice _,_,_,_,h| .unit,_,_,_,h| .arr _ _,_,_,_,h=>by simp[s8]at h
theorem yB.bound{τ:Ty}{x:τ.den}{n:Nat}{υ:Ty}{y:υ.den}{o:Nat}(h:yB τ x n υ y o):o+υ.size≤τ.size:=by
 induction h with
 |here x=>simp[Ty.size]
 |there x h ih=>simp only[Ty.size];omega
theorem yB.rd{w:World}{M:Nat→Prop}{τ:Ty}{x:τ.den}{n:Nat}{υ:Ty}{y:υ.den}{o:Nat}(h:yB τ x n υ y o):
  ∀{cs:List Value},Rd w M τ cs x→Rd w M υ ((cs.drop o).take υ.size) y:=by
 induction h with
 |here x=>
  intro cs hr
  simp only[Rd]at hr
  obtain⟨c1,c2,rfl,h1,_⟩:=hr
  rw[List.drop_zero,List.take_left' h1.length];exact h1
 |there x h ih=>
  intro cs hr
  simp only[Rd]at hr
  obtain⟨c1,c2,rfl,h1,h2⟩:=hr
  rw[←List.drop_drop,List.drop_left' h1.length]
  exact ih h2
theorem dQ.gP{P:Program}{τ:Ty}{x:τ.den}{m:Nat}{υ:Ty}{y:υ.den}{o:Nat}(h:yB τ x m υ y o):
  ∀{fs:Array Field} {n off:Nat},dQ P τ (.inr (fs,n,off))→ ∃f,fs[n+m]? =some f∧f.offset=off+o∧gT P υ f.type:=by
 induction h with
 |here x=>
  intro fs n off hl
  simp only[dQ]at hl
  obtain⟨f,hf,ho,ha,_⟩:=hl
  exact⟨f,hf,by simpa using ho,ha⟩
 |there x h ih=>
  intro fs n off hl
  simp only[dQ]at hl
  obtain⟨f,hf,ho,_,hb⟩:=hl
  obtain⟨f',yC,Tu,FW⟩:=ih hb
  exact⟨f',by rw[←yC];congr 1;omega,by omega,FW⟩
theorem gT.gP{P:Program}{τ:Ty}{t:TypeId}{x:τ.den}{m:Nat}{υ:Ty}{y:υ.den}{o:Nat}(hl:gT P τ t)(h:yB τ x m υ y o):
  ∃fs f,P.underlying t=some (.struct fs)∧fs[m]? =some f∧f.offset=o∧gT P υ f.type:=by
 unfold gT at hl
 cases h with
 |here x=>
  simp only[dQ]at hl
  obtain⟨_,fs,f,hu,hf,ho,ha,_⟩:=hl
  exact⟨fs,f,hu,hf,ho,ha⟩
 |there x h=>
  simp only[dQ]at hl
  obtain⟨_,fs,f,hu,hf,ho,_,hb⟩:=hl
  obtain⟨f',yC,Tu,FW⟩:=dQ.gP h hb
  exact⟨fs,f',hu,by rw[←yC];congr 1;omega,by omega,FW⟩
inductive Ef:List Step→(τ:Ty)→τ.den→(υ:Ty)→υ.den→Nat→Prop where
 |nil {τ:Ty} (x:τ.den):Ef [] τ x τ x 0
 |gP {p:List Step} {τ υ σ:Ty} {x:τ.den} {n o:Nat} {y:υ.den} {z:σ.den} {q:Nat} (h:yB τ x n υ y o) (r:Ef p υ y σ z q):Ef (.gP n::p) τ x σ z (o+q)
 |idx {p:List Step} {n:Nat} {e σ:Ty} {x:(Ty.arr n e).den} {i:Nat} {z:σ.den} {q:Nat} (r:Ef p e (List.getD x i e.zero) σ z q):Ef (.idx i::p) (.arr n e) x σ z (i*e.size+q)
theorem gB{α:Type}{r:α}: ∀{p:List Step} {τ:Ty} {x:τ.den} {k:(υ:Ty)→υ.den→Option α},uT p τ x k=some r→ ∃υ y o,Ef p τ x υ y o∧k υ y=some r
 |[],τ,x,k,h=>⟨τ,x,0,.nil x,h⟩
 | .gP n::p,τ,x,k,h=>by
  obtain⟨υ,y,o,hf,h'⟩:=px (h:s8 τ x n _=some r)
  obtain⟨σ,z,q,hp,hk⟩:=gB h'
  exact⟨σ,z,_,.gP hf hp,hk⟩
 | .idx i::p,τ,x,k,h=>by
  cases τ with
  |arr n e=>
   obtain⟨σ,z,q,hp,hk⟩:=gB (p:=p) (τ:=e) (x:=List.getD x i e.zero) (k:=k) h
   exact⟨σ,z,_,.idx hp,hk⟩
  |_=>simp[uT,aa1]at h
def rm:Ty→Nat→Ty
 | .pair a b,n=>match n with|0=>a|n+1=>rm b n
 |τ,_=>τ
def om:Ty→Nat→Nat
 | .pair a b,n=>match n with|0=>0|n+1=>a.size+om b n
 |_,_=>0
def elT:Ty→Ty
 | .arr _ e=>e
 |τ=>τ
def B3:List Step→Ty→Ty
 |[],τ=>τ
 | .gP n::p,τ=>B3 p (rm τ n)
 | .idx _::p,τ=>B3 p (elT τ)
def bO:List Step→Ty→Nat
 |[],_=>0
 | .gP n::p,τ=>om τ n+bO p (rm τ n)
 | .idx i::p,τ=>i*(elT τ).size+bO p (elT τ)
def ta:List Step→Ty→Prop
 |[],_=>True
 | .gP n::p,τ=>ta p (rm τ n)
 | .idx i::p,τ=>(∃n e,τ= .arr n e∧i<n)∧ta p (elT τ)
theorem yB.eq{τ:Ty}{x:τ.den}{n:Nat}{υ:Ty}{y:υ.den}{o:Nat}(h:yB τ x n υ y o):υ=rm τ n∧o=om τ n:=by
 induction h with
 |here x=>exact⟨rfl,rfl⟩
 |there x h ih=>obtain⟨rfl,rfl⟩:=ih;exact⟨rfl,rfl⟩
theorem Ef.eq{p:List Step}{τ:Ty}{x:τ.den}{υ:Ty}{y:υ.den}{o:Nat}(h:Ef p τ x υ y o):υ=B3 p τ∧o=bO p τ:=by
 induction h with
 |nil x=>exact⟨rfl,rfl⟩
 |gP h r ih=>
  obtain⟨h1,h2⟩:=h.eq
  obtain⟨h3,h4⟩:=ih
  subst h1 h2 h3 h4
  exact⟨rfl,rfl⟩
 |idx r ih=>
  obtain⟨h3,h4⟩:=ih
  subst h3 h4
  exact⟨rfl,rfl⟩
theorem aa4(p q:List Step): ∀τ,B3 (p++q) τ=B3 q (B3 p τ):=by
 induction p with
 |nil=>intro τ;rfl
 |cons s p ih=>intro τ;cases s<;>simp[B3,ih]
theorem oE(p q:List Step): ∀τ,bO (p++q) τ=bO p τ+bO q (B3 p τ):=by
 induction p with
 |nil=>intro τ;simp[bO,B3]
 |cons s p ih=>intro τ;cases s<;>simp[bO,B3,ih,Nat.add_assoc]
theorem oF(p q:List Step): ∀τ,ta (p++q) τ↔ta p τ∧ta q (B3 p τ):=by
 induction p with
 |nil=>intro τ;simp[ta,B3]
 |cons s p ih=>intro τ;cases s<;>simp[ta,B3,ih,and_assoc]
theorem gU{α:Type}(l:List α)(i:Nat)(d:α)(h:i<l.length):l.getD i d=l[i]:=by simp[List.getD,List.getElem?_eq_getElem h]
theorem uU{α:Type}(n:Nat): ∀(l:List (List α)) (i:Nat) (h:i<l.length),(∀j (hj:j<l.length),l[j].length=n)→(l.flatten.drop (i*n)).take n=l[i]
 |a::l,0,_,hn=>by
  have:=hn 0 (by simp)
  simp only[List.getElem_cons_zero]at this
  simp[←this]
 |a::l,i+1,h,hn=>by
  have h0:=hn 0 (by simp)
  simp only[List.getElem_cons_zero]at h0
  rw[List.flatten_cons,Nat.add_mul,Nat.one_mul,Nat.add_comm (i*n) n,←List.drop_drop,List.drop_left' h0]
  exact uU n l i (by simpa using h) (fun j hj=>hn (j+1) (by simp;omega))
theorem Rd.idx{w:World}{M:Nat→Prop}{n:Nat}{e:Ty}{cs:List Value}{x:(Ty.arr n e).den}(h:Rd w M (.arr n e) cs x){i:Nat}(hi:i<n):
  Rd w M e ((cs.drop (i*e.size)).take e.size) (List.getD x i e.zero):=by
 simp only[Rd]at h
 obtain⟨hn,Ns,hc,rfl,hr⟩:=h
 rw[uU e.size Ns i (by omega) (fun j hj=>(hr j (by omega) hj).length),gU x i e.zero (by omega)]
 exact hr i (by omega) (by omega)
theorem Ef.bound{p:List Step}{τ:Ty}{x:τ.den}{υ:Ty}{y:υ.den}{o:Nat}(h:Ef p τ x υ y o):ta p τ→o+υ.size≤τ.size:=by
 induction h with
 |nil x=>intro _;simp
 |gP h r ih=>
  intro hi
  obtain⟨h1,h2⟩:=h.eq
  subst h1
  have:=ih hi
  have:=h.bound
  omega
 | @idx p n e σ x i z q r ih=>
  intro hi
  obtain⟨⟨n',e',he,gC⟩,lG⟩:=hi
  cases he
  have:=ih lG
  have h2:(i+1)*e.size≤n*e.size:=Nat.mul_le_mul_right _ gC
  rw[Nat.add_mul]at h2
  simp only[Ty.size]
  omega
theorem Ef.rd{w:World}{M:Nat→Prop}{p:List Step}{τ:Ty}{x:τ.den}{υ:Ty}{y:υ.den}{o:Nat}(h:Ef p τ x υ y o):
  ta p τ→ ∀{cs:List Value},Rd w M τ cs x→Rd w M υ ((cs.drop o).take υ.size) y:=by
 induction h with
 |nil x=>intro _ cs hr;rw[List.drop_zero,List.take_of_length_le (by rw[hr.length];exact Nat.le_refl _)];exact hr
 |gP h r ih=>
  intro hi cs hr
  obtain⟨h1,h2⟩:=h.eq
  subst h1
  have:=ih hi (h.rd hr)
  have hb:=Ef.bound r hi
  rw[List.drop_take,List.drop_drop,List.take_take,Nat.min_eq_left (by omega)]at this
  exact this
 | @idx p n e σ x i z q r ih=>
  intro hi cs hr
  obtain⟨⟨n',e',he,gC⟩,lG⟩:=hi
  cases he
  have:=ih lG (hr.idx gC)
  have hb:=Ef.bound r lG
  rw[List.drop_take,List.drop_drop,List.take_take,Nat.min_eq_left (by omega)]at this
  exact this
def dv{α:Type}(cs:List α)(o:Nat)(new:List α):List α:=cs.take o++new++cs.drop (o+new.length)
theorem uV{α:Type}{a b:List α}{o:Nat}{new:List α}(h:o+new.length≤a.length):dv (a++b) o new=dv a o new++b:=by
 unfold dv
 rw[List.take_append_of_le_length (by omega),List.drop_append_of_le_length (by omega)]
 simp only[List.append_assoc]
theorem sI{α:Type}{a b:List α}{o:Nat}{new:List α}:dv (a++b) (a.length+o) new=a++dv b o new:=by
 unfold dv
 rw[List.take_append,List.take_of_length_le (by omega),Nat.add_sub_cancel_left,Nat.add_assoc,List.drop_append,List.drop_of_length_le (by omega),Nat.add_sub_cancel_left]
 simp
theorem ew{α:Type}{a:List α}{o:Nat}{new:List α}(h:o+new.length≤a.length):(dv a o new).length=a.length:=by
 unfold dv;simp;omega
theorem Eg{α:Type}{a:List α}{o i n:Nat}{new:List α}(h:i+n≤o∨o+new.length≤i)(hl:o+new.length≤a.length):((dv a o new).drop i).take n=(a.drop i).take n:=by
 apply List.ext_getElem?
 intro j
 simp only[List.getElem?_take,List.getElem?_drop]
 split
 ·rename_i hj
  unfold dv
  rcases h with h|h
  ·rw[List.append_assoc,List.getElem?_append_left (by simp;omega),List.getElem?_take,if_pos (by omega)]
  ·rw[List.getElem?_append_right (by simp;omega)]
   simp only[List.length_append,List.length_take,Nat.min_eq_left (show o≤a.length by omega),List.getElem?_drop]
   congr 1;omega
 ·rfl
theorem aa5{α:Type}{a:List α}{o:Nat}{new:List α}(hl:o+new.length≤a.length):((dv a o new).drop o).take new.length=new:=by
 unfold dv
 rw[List.append_assoc,List.drop_left' (by simp;omega),List.take_left' rfl]
theorem Gi{α:Type}{l:List α}{o:Nat}{u:α}(h:l[o]? =some u):dv l o [u]=l:=by
 obtain⟨dD,rfl⟩:=List.getElem?_eq_some_iff.1 h
 unfold dv
 simp
theorem zj{α:Type}{l:List α}{o:Nat}{u:α}(h:o<l.length):(dv l o [u])[o]? =some u:=by
 unfold dv
 rw[List.append_assoc,List.getElem?_append_right (by simp;omega)]
 simp[Nat.min_eq_left (Nat.le_of_lt h)]
theorem py{τ:Ty}: ∀{n:Nat} {a:Ty},D9 τ n=some a→ ∀x:τ.den,∃y o,yB τ x n a y o:=by
 induction τ with
 |pair a b _ PF=>
  intro n c h x
  cases n with
  |zero=>cases h;exact⟨_,_,.here x⟩
  |succ n=>
   obtain⟨y,o,hf⟩:=PF (n:=n) (a:=c) h x.2
   exact⟨y,_,.there x hf⟩
 |_=>intro n c h;simp[D9]at h
theorem pz: ∀{p:List Step} {τ υ:Ty},eL p τ υ=true→ ∀x:τ.den,∃y o,Ef p τ x υ y o
 |[],τ,υ,h,x=>by
  have h:=of_decide_eq_true h
  subst h
  exact⟨x,0,.nil x⟩
 | .gP n::p,τ,υ,h,x=>by
  unfold eL at h
  split at h
  ·rename_i a ha
   obtain⟨y,o,hf⟩:=py ha x
   obtain⟨z,q,hp⟩:=pz h y
   exact⟨z,_,.gP hf hp⟩
  ·cases h
 | .idx _::_,_,_,h,_=>by simp[eL]at h
theorem gV: ∀{p:List Step} {τ υ:Ty},eL p τ υ=true→ta p τ∧B3 p τ=υ
 |[],τ,υ,h=>⟨trivial,of_decide_eq_true h⟩
 | .gP n::p,τ,υ,h=>by
  have h0:=h
  unfold eL at h
  split at h
  ·rename_i a ha
   obtain⟨y,o,hf⟩:=py ha τ.zero
   obtain⟨h1,h2⟩:=gV h
   have:=hf.eq.1
   subst this
   exact⟨h1,h2⟩
  ·cases h
 | .idx _::_,_,_,h=>by simp[eL]at h
theorem wD: ∀{p q:List Step},F7 p q=true→p=q
 |[],[],_=>rfl
 | .gP a::p,.gP b::q,h=>by
  simp only[F7,Bool.and_eq_true]at h
  rw[Nat.eq_of_beq_eq_true h.1,wD h.2]
 |[],_::_,h| .gP _::_,[],h| .idx _::_,_,h| .gP _::_,.idx _::_,h=>by simp[F7]at h
theorem yB.apart{τ:Ty}{x:τ.den}{n:Nat}{υ:Ty}{y:υ.den}{o:Nat}(h:yB τ x n υ y o): ∀{x':τ.den} {n':Nat} {υ':Ty} {y':υ'.den} {o':Nat},yB τ x' n' υ' y' o'→n≠n'→o+υ.size≤o'∨o'+υ'.size≤o:=by
 induction h with
 |here x=>
  intro x' n' υ' y' o' h' gk
  cases h' with
  |here=>exact absurd rfl gk
  |there _ h'=>left;omega
 |there x h ih=>
  intro x' n' υ' y' o' h' gk
  cases h' with
  |here=>right;omega
  |there _ h'=>rcases ih h' (fun e=>gk (by rw[e]))with h1|h1<;>omega
theorem Ef.apart{p:List Step}{τ:Ty}{x:τ.den}{υ:Ty}{y:υ.den}{o:Nat}(h:Ef p τ x υ y o):ta p τ→ ∀{q:List Step} {e:Ty},eL q τ (.slice e)=true→s7 p q=false→bO q τ<o∨o+υ.size≤bO q τ:=by
 induction h with
 |nil x=>intro _ q e _ h;simp[s7]at h
 | @gP p τ υ σ x n o y z q hf r ih=>
  intro hi q' e hq hp
  obtain⟨h1,h2⟩:=hf.eq
  subst h1 h2
  cases q' with
  |nil=>
   have:=of_decide_eq_true hq
   subst this
   cases hf
  |cons s q'=>
   cases s with
   |idx i=>simp[eL]at hq
   |gP m=>
    unfold eL at hq
    split at hq
    ·rename_i a ha
     obtain⟨y',o',yC⟩:=py ha x
     obtain⟨h3,h4⟩:=yC.eq
     subst h3 h4
     have hb:=r.bound hi
     obtain⟨h5,h6⟩:=gV hq
     obtain⟨z',o2,wq⟩:=pz hq y'
     have dJ:=wq.bound h5
     have ho2:=wq.eq.2
     subst ho2
     simp only[bO]
     by_cases hnm:n=m
     ·subst hnm
      have BT:s7 p q'=false:=by
       simp only[s7,Bool.and_eq_false_iff]at hp
       rcases hp with hp|hp
       ·rw[Nat.beq_refl]at hp;cases hp
       ·exact hp
      rcases ih hi hq BT with h7|h7<;>omega
     ·rcases hf.apart yC hnm with h7|h7
      ·right;omega
      ·left
       have:1≤(Ty.slice e).size:=Nat.le_refl _
       omega
    ·cases hq
 | @idx p n e' σ x i z q r ih=>
  intro hi q' e hq hp
  cases q' with
  |nil=>have:=of_decide_eq_true hq;cases this
  |cons s q'=>
   cases s with
   |idx i=>simp[eL]at hq
   |gP m=>simp[eL,D9]at hq
def eD:Value→Option Nat
 | .pointer (some a)=>some a.block
 | .slice (some a) _ cap=>if cap=0 then none else some a.block
 |_=>none
def aR.mut:aR→Prop
 | .obj _ _| .own _ _| .ed _ _ _ _=>True
 |_=>False
def ER(w:World)(M:Nat→Prop)(v:Value):aR→Prop
 | .obj τ x=> ∃b cs t,v= .pointer (some ⟨b,0,none⟩)∧w.heap[b]? =some (.cells cs t (0,0))∧M b∧Rd w M τ cs.toList x
 | .ed τ x p _=> ∃b cs t oG u,v= .pointer (some ⟨b,0,none⟩)∧w.heap[b]? =some (.cells cs t (0,0))∧M b∧Rd w M τ oG x∧cs.toList=dv oG (bO p τ) [u]∧u.oneCell'=true∧ ∃e,eL p τ (.slice e)=true
 | .own e l=>(l=[]∧ ∃a,v= .slice a 0 0)∨
  ∃b cs t cap,v= .slice (some ⟨b,0,none⟩) l.length cap∧w.heap[b]? =some (.cells cs t (0,0))∧M b∧0<cap∧l.length≤cap∧cap≤maxLen∧cs.size=cap*e.size∧
   ∀i (h:i<l.length),Rd w M e ((cs.toList.drop (i*e.size)).take e.size) l[i]
 | .lj e l=>Rd w M (.slice e) [v] l∧((l=[]∧ ∃a n c,v= .slice a n c)∨ ∃b n c,v= .slice (some ⟨b,0,none⟩) n c)
 | .gone=>True
def AR(v:Value)(p:List Step)(u:Value):aR→Prop
 | .obj τ _| .ed τ _ _ _=>ta p τ∧ ∃b,v= .pointer (some ⟨b,0,none⟩)∧u= .pointer (some ⟨b,bO p τ,none⟩)
 | .own e l| .lj e l=> ∃i q,p= .idx i::q∧i<l.length∧ta q e∧ ∃b n c,v= .slice (some ⟨b,0,none⟩) n c∧u= .pointer (some ⟨b,i*e.size+bO q e,none⟩)
 | .gone=> ∃a,u= .pointer (some a)
mutual
def VR(w:World)(M:Nat→Prop)(H:Nat→Option aR)(ν:Nat→Value):a7→Value→Prop
 | .any,_=>True
 | .PD,v=>v=undef
 | .val τ x,v=>V w M τ v x
 | .Ea τ x n,v=>V w M τ v x∧ ∃cs a,v= .agg cs∧cs.toList[om τ n]? =some (.slice a 0 0)
 | .emp,v=> ∃a,v= .slice a 0 0
 | .ref id,v=>H id≠none∧v=ν id
 | .fR id p,v=> ∃e,H id=some e∧AR (ν id) p v e
 | .nw τ x,v=> ∃b off,v= .pointer (some ⟨b,off,none⟩)∧b<w.heap.size∧ ¬M b∧ ∃cs,At w b off cs∧Rd w M τ cs x
 | .tup vs,v=> ∃us:List Value,v= .tuple us.toArray∧fT w M H ν vs us
 | .F8 f caps,v=> ∃cs:List Value,v= .func (.func f) #[] cs.toArray∧fT w M H ν caps cs
def fT(w:World)(M:Nat→Prop)(H:Nat→Option aR)(ν:Nat→Value):List a7→List Value→Prop
 |[],[]=>True
 |a::as,v::vs=>VR w M H ν a v∧fT w M H ν as vs
 |_,_=>False
end
def aR.iA:aR→aR→Prop
 | .obj τ _,.obj υ _| .obj τ _,.ed υ _ _ _| .ed τ _ _ _,.obj υ _| .ed τ _ _ _,.ed υ _ _ _=>τ=υ
 | .own e l,.own f k| .own e l,.lj f k| .lj e l,.lj f k=>e=f∧l.length=k.length
 |_,.gone=>True
 |_,_=>False
structure pd(H:Nat→Option aR)(ν:Nat→Value)(H':Nat→Option aR)(ν':Nat→Value):Prop where
 jk: ∀i e,H i=some e→ ∃e',H' i=some e'∧e.iA e'
 head: ∀i,H i≠none→ν' i=ν i
theorem AR.ptr{v:Value}{p:List Step}{u:Value}{e:aR}(h:AR v p u e): ∃a,u= .pointer (some a):=by
 cases e<;>simp only[AR]at h
 ·obtain⟨_,b,_,h⟩:=h;exact⟨_,h⟩
 ·obtain⟨_,b,_,h⟩:=h;exact⟨_,h⟩
 ·obtain⟨i,q,_,_,_,b,n,c,_,h⟩:=h;exact⟨_,h⟩
 ·obtain⟨i,q,_,_,_,b,n,c,_,h⟩:=h;exact⟨_,h⟩
 ·exact h
theorem AR.iA{v:Value}{p:List Step}{u:Value}{e e':aR}(h:AR v p u e)(l:e.iA e'):AR v p u e':=by
 have hp:=h.ptr
 cases e<;>cases e'<;>simp only[aR.iA]at l<;>simp only[AR]at h ⊢ <;>try exact hp
 ·subst l;exact h
 ·subst l;exact h
 ·subst l;exact h
 ·subst l;exact h
 ·obtain⟨rfl,hl⟩:=l;obtain⟨i,q,hp,hi,r⟩:=h;exact⟨i,q,hp,by omega,r⟩
 ·obtain⟨rfl,hl⟩:=l;obtain⟨i,q,hp,hi,r⟩:=h;exact⟨i,q,hp,by omega,r⟩
 ·obtain⟨rfl,hl⟩:=l;obtain⟨i,q,hp,hi,r⟩:=h;exact⟨i,q,hp,by omega,r⟩
theorem aR.iA.refl(e:aR):e.iA e:=by cases e<;>simp[aR.iA]
theorem pd.refl(H:Nat→Option aR)(ν:Nat→Value):pd H ν H ν:=⟨fun _ e h=>⟨e,h,.refl e⟩,fun _ _=>rfl⟩
mutual
theorem VR.bP{w w':World}{M M':Nat→Prop}{H H':Nat→Option aR}{ν ν':Nat→Value}(k:du w M w' M')(g:pd H ν H' ν'):
  ∀{a:a7} {v:Value},VR w M H ν a v→VR w' M' H' ν' a v
 | .any,_,_=>by simp[VR]
 | .PD,_,h=>by simpa [VR]using h
 | .val τ x,v,h=>by simp only[VR]at h ⊢;exact h.bP k
 | .Ea τ x n,v,h=>by simp only[VR]at h ⊢;exact⟨h.1.bP k,h.2⟩
 | .emp,_,h=>by simpa [VR]using h
 | .ref id,_,h=>by
  simp only[VR]at h ⊢
  obtain⟨h1,h2⟩:=h
  obtain⟨e,he⟩:=Option.ne_none_iff_exists'.1 h1
  obtain⟨e',tz,_⟩:=g.jk id e he
  exact⟨by simp[tz],by rw[g.head id h1];exact h2⟩
 | .fR id p,_,h=>by
  simp only[VR]at h ⊢
  obtain⟨e,he,ha⟩:=h
  obtain⟨e',tz,hl⟩:=g.jk id e he
  exact⟨e',tz,by rw[g.head id (by simp[he])];exact ha.iA hl⟩
 | .nw τ x,_,h=>by
  simp only[VR]at h ⊢
  obtain⟨b,off,rfl,hb,hm,cs,ha,hr⟩:=h
  exact⟨b,off,rfl,Nat.lt_of_lt_of_le hb k.size,fun h'=>hm (k.less b hb h'),cs,ha.bP (k.block b hb hm),hr.bP k⟩
 | .tup vs,_,h=>by
  simp only[VR]at h ⊢
  obtain⟨us,rfl,h⟩:=h
  exact⟨us,rfl,fT.bP k g h⟩
 | .F8 f caps,_,h=>by
  simp only[VR]at h ⊢
  obtain⟨us,rfl,h⟩:=h
  exact⟨us,rfl,fT.bP k g h⟩
theorem fT.bP{w w':World}{M M':Nat→Prop}{H H':Nat→Option aR}{ν ν':Nat→Value}(k:du w M w' M')(g:pd H ν H' ν'):
  ∀{as:List a7} {vs:List Value},fT w M H ν as vs→fT w' M' H' ν' as vs
 |[],[],_=>by simp[fT]
 |a::as,v::vs,h=>by simp only[fT]at h ⊢;exact⟨VR.bP k g h.1,fT.bP k g h.2⟩
 |[],_::_,h=>by simp[fT]at h
 |_::_,[],h=>by simp[fT]at h
end
end VM
end
