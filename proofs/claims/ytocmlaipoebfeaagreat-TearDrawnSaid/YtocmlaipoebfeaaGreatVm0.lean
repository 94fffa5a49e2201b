/- A part of the proof of TearDrawn of layer 29: a machine that reads a function of the program as an equation between values. -/
import GoSem.Claims
import Derived.WalkKit
import Derived.ArgAppend
import Derived.Laws.CopyRow
import Derived.Laws.MakeOwn
import Derived.Laws.OwnMore
import Derived.Orders
import Derived.LoopN
set_option linter.all false
section
namespace VM
open Go
theorem acI{α:Type}(a:α): ∃b:α,b=a:=⟨a,rfl⟩
noncomputable def aQ{α:Type}(a:α):α:=Classical.choose (acI a)
theorem eV{α:Type}(a:α):aQ a=a:=Classical.choose_spec (acI a)
def s8:Nat:=68719476736
noncomputable def W:IntKind→Int→Int:=aQ fun k x=>k.wrap x
noncomputable def aG:Int→Int→Bool:=aQ fun x y=>decide (x<y)
noncomputable def bR:Int→Int→Bool:=aQ fun x y=>decide (x≤y)
noncomputable def ay:Int→Int→Bool:=aQ fun x y=>decide (x=y)
noncomputable def aI:Int→Nat→Bool:=aQ fun i n=>decide (0≤i∧i<(n:Int))
noncomputable def small:Nat→Bool:=aQ fun n=>decide (n<s8)
noncomputable def dS:Int→Int→Bool:=aQ fun l c=>decide (0≤l∧l≤c∧c<(s8:Int))
noncomputable def fB:Int→Int→Int→Int→Bool:=aQ fun l h m n=>decide (0≤l∧l≤h∧h≤m∧m≤n)
noncomputable def quo:Int→Int→Int:=aQ fun x y=>x.tdiv y
noncomputable def rem:Int→Int→Int:=aQ fun x y=>x.tmod y
noncomputable def shl:IntKind→Int→Int→Int:=aQ fun k x y=>x*2^(min y.toNat k.bits)
noncomputable def shr:IntKind→Int→Int→Int:=aQ fun k x y=>x.fdiv (2^(min y.toNat k.bits))
noncomputable def mx:Int→Int→Int:=aQ fun x y=>if y>x then y else x
noncomputable def mn:Int→Int→Int:=aQ fun x y=>if y<x then y else x
noncomputable def Mo:ByteArray→ByteArray→Bool:=aQ fun x y=>decide (x.toList=y.toList)
theorem wV(k:IntKind)(x:Int):W k x=k.wrap x:=by unfold W;rw[eV]
theorem mc(x y:Int):aG x y=decide (x<y):=by unfold aG;rw[eV]
theorem kU(x y:Int):bR x y=decide (x≤y):=by unfold bR;rw[eV]
theorem fI(x y:Int):ay x y=decide (x=y):=by unfold ay;rw[eV]
theorem Mp(i:Int)(n:Nat):aI i n=decide (0≤i∧i<(n:Int)):=by unfold aI;rw[eV]
theorem yf(n:Nat):small n=decide (n<s8):=by unfold small;rw[eV]
theorem AS(l c:Int):dS l c=decide (0≤l∧l≤c∧c<(s8:Int)):=by unfold dS;rw[eV]
theorem tf(l h m n:Int):fB l h m n=decide (0≤l∧l≤h∧h≤m∧m≤n):=by unfold fB;rw[eV]
theorem B3(x y:Int):quo x y=x.tdiv y:=by unfold quo;rw[eV]
theorem Mq(x y:Int):rem x y=x.tmod y:=by unfold rem;rw[eV]
theorem Mr(k:IntKind)(x y:Int):shl k x y=x*2^(min y.toNat k.bits):=by unfold shl;rw[eV]
theorem HD(k:IntKind)(x y:Int):shr k x y=x.fdiv (2^(min y.toNat k.bits)):=by unfold shr;rw[eV]
theorem Wq(x y:Int):mx x y=if y>x then y else x:=by unfold mx;rw[eV]
theorem Wr(x y:Int):mn x y=if y<x then y else x:=by unfold mn;rw[eV]
theorem yg(x y:ByteArray):Mo x y=decide (x.toList=y.toList):=by unfold Mo;rw[eV]
inductive Bw where|and|or|xor|andNot
noncomputable def iV:Bw→IntKind→Int→Int→Int:=aQ fun o k x y=>
 let a:=BitVec.ofInt k.bits x
 let b:=BitVec.ofInt k.bits y
 k.wrap (match o with| .and=>a&&& b| .or=>a|||b| .xor=>a^^^b| .andNot=>a&&& ~~~b).toNat
theorem oJ(o:Bw)(k:IntKind)(x y:Int):iV o k x y=
 let a:=BitVec.ofInt k.bits x
 let b:=BitVec.ofInt k.bits y
 k.wrap (match o with| .and=>a&&& b| .or=>a|||b| .xor=>a^^^b| .andNot=>a&&& ~~~b).toNat:=by unfold iV;rw[eV]
def strOf(l:List Nat):ByteArray:=⟨(l.map UInt8.ofNat).toArray⟩
inductive Ty where
 |int (k:IntKind)
 |bool
 |str
 |slice (e:Ty)
 |unit
 |pair (a b:Ty)
 |arr (n:Nat) (e:Ty)
 deriving DecidableEq
@[reducible] def Ty.den:Ty→Type
 | .int _=>Int
 | .bool=>Bool
 | .str=>ByteArray
 | .slice e=>List e.den
 | .unit=>Unit
 | .pair a b=>a.den×b.den
 | .arr _ e=>List e.den
def Ty.size:Ty→Nat
 | .int _| .bool| .str| .slice _=>1
 | .unit=>0
 | .pair a b=>a.size+b.size
 | .arr n e=>n*e.size
def Ty.isAgg:Ty→Bool
 | .unit| .pair _ _| .arr _ _=>true
 |_=>false
def Ty.zero:(τ:Ty)→τ.den
 | .int _=>(0:Int)
 | .bool=>false
 | .str=>ByteArray.empty
 | .slice _=>[]
 | .unit=>()
 | .pair a b=>(a.zero,b.zero)
 | .arr n e=>List.replicate n e.zero
def Ty.comparable:Ty→Bool
 | .slice _=>false
 | .pair a b=>a.comparable&&b.comparable
 | .arr _ _=>false
 |_=>true
def acJ{α:Type}(f:α→α→Bool):List α→List α→Bool
 |[],[]=>true
 |x::xs,y::ys=>f x y&&acJ f xs ys
 |_,_=>false
noncomputable def kV:(τ:Ty)→τ.den→τ.den→Bool
 | .int _,x,y=>ay x y
 | .bool,x,y=>x==y
 | .str,x,y=>Mo x y
 | .slice _,_,_=>false
 | .unit,_,_=>true
 | .pair a b,x,y=>kV a x.1 y.1&&kV b x.2 y.2
 | .arr _ e,x,y=>acJ (kV e) x y
inductive Step where
 |gp (n:Nat)
 |idx (i:Nat)
def DP:List Step→List Step→Bool
 |[],[]=>true
 | .gp a::p,.gp b::q=>Nat.beq a b&&DP p q
 |_,_=>false
def rL:List Step→List Step→Bool
 |[],_=>true
 | .gp a::p,.gp b::q=>Nat.beq a b&&rL p q
 |_,_=>false
def B4:Ty→Nat→Option Ty
 | .pair a b,n=>match n with
  |0=>some a
  |n+1=>B4 b n
 |_,_=>none
def ed:List Step→Ty→Ty→Bool
 |[],τ,υ=>decide (τ=υ)
 | .gp n::p,τ,υ=>match B4 τ n with
  |some a=>ed p a υ
  |none=>false
 |_,_,_=>false
inductive aV where
 |any
 |Ms
 |val (τ:Ty) (x:τ.den)
 |B5 (τ:Ty) (x:τ.den) (n:Nat)
 |emp
 |ref (id:Nat)
 |fA (id:Nat) (p:List Step)
 |me (τ:Ty) (x:τ.den)
 |tup (vs:List aV)
 |DQ (f:Nat) (caps:List aV)
inductive aN where
 |obj (τ:Ty) (x:τ.den)
 |dK (τ:Ty) (x:τ.den) (p:List Step) (j:Nat)
 |own (e:Ty) (l:List e.den)
 |kg (e:Ty) (l:List e.den)
 |gone
structure St where
 T:Nat→aV
 H:Nat→Option aN
def St.put(σ:St)(d:Nat)(v:aV):St:=⟨fun i=>cond (Nat.beq i d) v (σ.T i),σ.H⟩
def St.gR(σ:St)(d:Nat)(v:Option aN):St:=⟨σ.T,fun i=>cond (Nat.beq i d) v (σ.H i)⟩
def St.pP(σ:St)(d:Option Nat)(v:aV):St:=match d with|some d=>σ.put d v|none=>σ
def DR(n:Nat)(io:List Nat):Option Nat→Bool|some d=>Nat.blt d n&&io.all (fun i=> !(Nat.beq i d))|none=>true
def St.p5(σ:St):List (Nat×Option aN)→St
 |[]=>σ
 |u::r=>(σ.gR u.1 u.2).p5 r
abbrev S0:St:=⟨fun _=> .any,fun _=>none⟩
abbrev fj:=List (Nat×Option aN)
section K
variable{α:Type}
def rM:(τ:Ty)→τ.den→Nat→((υ:Ty)→υ.den→Option α)→Option α
 | .pair a b,x,n,k=>match n with
  |0=>k a x.1
  |n+1=>rM b x.2 n k
 |_,_,_,_=>none
def je:(τ:Ty)→τ.den→Nat→((υ:Ty)→υ.den→(υ.den→Option α)→Option α)→(τ.den→Option α)→Option α
 | .pair a b,x,n,m,k=>match n with
  |0=>m a x.1 fun z=>k (z,x.2)
  |n+1=>je b x.2 n m fun z=>k (x.1,z)
 |_,_,_,_,_=>none
def jf(τ υ:Ty)(k:Option α):Option α:=if τ=υ then k else none
def bW(υ τ:Ty)(y:υ.den)(k:τ.den→Option α):Option α:=if h:υ=τ then k (h▸y)else none
def XH(τ:Ty)(x:τ.den)(i:Nat)(k:(υ:Ty)→υ.den→Option α):Option α:=
 match τ,x with
 | .arr _ e,x=>k e (List.getD x i e.zero)
 |_,_=>none
def xD(τ:Ty)(x:τ.den)(i:Nat)(m:(υ:Ty)→υ.den→(υ.den→Option α)→Option α)(k:τ.den→Option α):Option α:=
 match τ,x,k with
 | .arr _ e,x,k=>m e (List.getD x i e.zero) fun z=>k (List.set x i z)
 |_,_,_=>none
def tg:List Step→(τ:Ty)→τ.den→((υ:Ty)→υ.den→Option α)→Option α
 |[],τ,x,k=>k τ x
 | .gp n::p,τ,x,k=>rM τ x n fun υ y=>tg p υ y k
 | .idx i::p,τ,x,k=>XH τ x i fun υ y=>tg p υ y k
def pQ(υ:Ty)(y:υ.den):List Step→(τ:Ty)→τ.den→(τ.den→Option α)→Option α
 |[],τ,_,k=>bW υ τ y k
 | .gp n::p,τ,x,k=>je τ x n (fun υ' y' k'=>pQ υ y p υ' y' k') k
 | .idx i::p,τ,x,k=>xD τ x i (fun υ' y' k'=>pQ υ y p υ' y' k') k
def ix(fz:Bool)(a:aV)(H:Nat→Option aN)(τ:Ty)(k:τ.den→List Nat→fj→Option α):Option α:=
 match a with
 | .val υ x=>bW υ τ x fun y=>k y [] []
 | .B5 υ x _=>bW υ τ x fun y=>k y [] []
 | .emp=>match τ,k with
  | .slice _,k=>k [] [] []
  |_,_=>none
 | .ref id=>match H id with
  |some (.own e l)=>bW (.slice e) τ l fun y=>k y [id] (cond fz [(id,some (.kg e l))] [])
  |some (.kg e l)=>bW (.slice e) τ l fun y=>k y [id] []
  |_=>none
 |_=>none
def DS(a:aV)(k:(τ:Ty)→τ.den→Option α):Option α:=
 match a with
 | .val υ x=>k υ x
 |_=>none
def jg(id:Nat)(p:List Step)(H:Nat→Option aN)(k:Ty→Option α):Option α:=
 match H id with
 |some (.obj τ x)=>tg p τ x fun υ _=>k υ
 |some (.dK τ x _ _)=>tg p τ x fun υ _=>k υ
 |some (.own e l)|some (.kg e l)=>match p with
  | .idx i::p=>tg p e (List.getD l i e.zero) fun υ _=>k υ
  |_=>none
 |_=>none
def anP(a:aV)(H:Nat→Option aN)(k:(τ:Ty)→τ.den→List Nat→Option α):Option α:=
 match a with
 | .val υ x=>k υ x []
 | .ref id=>match H id with
  |some (.own e l)|some (.kg e l)=>k (.slice e) l [id]
  |_=>none
 |_=>none
def p6(a:aV)(k:IntKind→Int→Option α):Option α:=
 match a with
 | .val (.int i) x=>k i x
 |_=>none
end K
inductive AM where
 |v (τ:Ty)
 |own (e:Ty)
 |io (τ:Ty)
 |fn (f:Nat) (τ:Ty)
 |ptr (τ:Ty)
 |fA (τ:Ty)
@[reducible] def AM.den:AM→Type
 | .v τ=>τ.den
 | .own e=>List e.den
 | .io τ=>τ.den
 | .fn _ τ=>τ.den
 | .ptr τ=>τ.den
 | .fA τ=>τ.den
@[reducible] def HP:List AM→Type
 |[]=>Unit
 |[m]=>m.den
 |m::n::ms=>m.den×HP (n::ms)
structure g6 where
 args:List AM
 res:List AM
 quiet:Bool
 run:HP args→Option (HP res)
inductive CM where
 |v (τ:Ty)
 |own (e:Ty)
 |obj (τ:Ty)
 |dK (τ:Ty) (q:List Step) (e:Ty)
 |same (s:Nat)
 |io (τ:Ty)
 |fn (f:Nat) (τ:Ty)
structure Env where
 nt:Nat
 ty:Nat→Option Ty
 Γ:Nat→List g6
 N:Nat
 p7:Nat→Option (List (Nat×CM))
 rN:Nat→Option (List (Nat×CM))
 io:List Nat:=[]
 lk:Option (Ty×List Step×Ty×List Nat):=none
def lkT(E:Env)(τ:Ty):Option (List Step×Ty):=match E.lk with
 |some (υ,q,e,_)=>cond (decide (υ=τ)) (cond (ed q τ (.slice e)) (some (q,e)) none) none
 |none=>none
def B6(E:Env)(τ:Ty)(id:Nat):Option (List Step×Ty):=match E.lk with
 |some (_,_,_,ds)=>cond (ds.any fun d=>Nat.beq (id/16) d) (lkT E τ) none
 |none=>none
def cvA:Value→aV
 | .int k n=> .val (.int k) n
 | .bool b=> .val .bool b
 | .string s=> .val .str s
 | .slice none 0 0=> .emp
 |_=> .any
def St.ρ (σ:St):Operand→aV
 | .tmp t=>σ.T t
 | .const v=>cvA v
 | .global _=> .any
 | .func f=> .DQ f []
section
variable{α:Type}
noncomputable def oK(op:BinOp)(k:IntKind)(x y:Int)(K:aV→Option α):Option α:=
 match op with
 | .add=>K (.val (.int k) (W k (x+y)))
 | .sub=>K (.val (.int k) (W k (x-y)))
 | .mul=>K (.val (.int k) (W k (x*y)))
 | .quo=>cond (ay y 0) none (K (.val (.int k) (W k (quo x y))))
 | .rem=>cond (ay y 0) none (K (.val (.int k) (rem x y)))
 | .and=>K (.val (.int k) (iV .and k x y))
 | .or=>K (.val (.int k) (iV .or k x y))
 | .xor=>K (.val (.int k) (iV .xor k x y))
 | .andNot=>K (.val (.int k) (iV .andNot k x y))
 | .eql=>K (.val .bool (ay x y))
 | .neq=>K (.val .bool (!ay x y))
 | .lss=>K (.val .bool (aG x y))
 | .leq=>K (.val .bool (bR x y))
 | .gtr=>K (.val .bool (aG y x))
 | .geq=>K (.val .bool (bR y x))
 |_=>none
noncomputable def P7(op:BinOp)(k:IntKind)(x y:Int)(K:aV→Option α):Option α:=
 match op with
 | .shl=>cond (aG y 0) none (K (.val (.int k) (W k (shl k x y))))
 | .shr=>cond (aG y 0) none (K (.val (.int k) (shr k x y)))
 |_=>none
def P8:BinOp→Bool
 | .shl| .shr=>true
 |_=>false
noncomputable def yh(t:Option Ty)(op:BinOp)(τ:Ty)(x:τ.den)(υ:Ty)(y:υ.den)(K:aV→Option α):Option α:=
 match τ,x,υ,y with
 | .int k,x,.int k',y=>cond (P8 op) (P7 op k x y K) (if k=k' then oK op k x y K else none)
 |τ,x,υ,y=>match t with
  |none=>none
  |some u=>jf u τ (cond τ.comparable (match op with
   | .eql=>bW υ τ y fun y=>K (.val .bool (kV τ x y))
   | .neq=>bW υ τ y fun y=>K (.val .bool (!kV τ x y))
   |_=>none) none)
noncomputable def Kt(op:UnOp)(a:aV)(K:aV→Option α):Option α:=
 match op,a with
 | .neg,.val (.int k) n=>K (.val (.int k) (W k (0-n)))
 | .xor,.val (.int k) n=>K (.val (.int k) (iV .xor k (if k.signed then-1 else k.max) n))
 | .not,.val .bool b=>K (.val .bool (!b))
 |_,_=>none
abbrev fk(α:Type):=aV→List Nat→fj→Option α
noncomputable def PH(up:Bool):aV→List aV→(aV→Option α)→Option α
 |a,[],K=>K a
 |a,b::r,K=>p6 a fun k x=>p6 b fun k' y=>if k=k' then PH up (.val (.int k) (cond up (mx x y) (mn x y))) r K else none
def DT(τ:Ty)(a:aV)(H:Nat→Option aN)(K:fk α):Option α:=
 match τ,a with
 | .slice _,.val (.slice _) l=>K (.val (.int .i64) (List.length l:Int)) [] []
 | .arr n _,.val (.arr _ _) _=>K (.val (.int .i64) (n:Int)) [] []
 | .str,.val .str s=>K (.val (.int .i64) (ByteArray.size s:Int)) [] []
 | .slice _,.emp=>K (.val (.int .i64) (0:Int)) [] []
 | .slice _,.ref id=>match H id with
  |some (.own _ l)|some (.kg _ l)=>K (.val (.int .i64) (l.length:Int)) [id] []
  |_=>none
 |_,_=>none
def mf(H:Nat→Option aN)(id:Nat)(e:aN)(K:Option α):Option α:=
 match H id with
 |none=>K
 |some _=>none
noncomputable def DU(id:Nat)(e:Ty)(a b:aV)(H:Nat→Option aN)(K:fk α):Option α:=
 ix false b H (.slice e) fun ys rd _=>
  match a with
  | .emp=>cond (small (List.length ys)) (K (.ref id) (id::rd) [(id,some (.own e ys))]) none
  | .ref j=>match H j with
   |some (.own e' l)=>bW (.slice e') (.slice e) l fun xs=>
    cond (small (List.length xs+List.length ys)) (K (.ref id) (id::j::rd) [(j,some .gone),(id,some (.own e (xs++ys)))]) none
   |_=>none
  |_=>none
def oL(τ:Ty)(H:Nat→Option aN):List (Nat×aV)→τ.den→List Nat→fj→(τ.den→List Nat→fj→Option α)→Option α
 |[],x,rd,ups,K=>K x rd ups
 |p::r,x,rd,ups,K=>rM τ x p.1 fun υ _=>ix true p.2 H υ fun y uZ jP=>
  je τ x p.1 (fun υ' _ k'=>bW υ υ' y k') fun z=>oL τ H r z (uZ++rd) (ups++jP) K
def p8(e:Ty)(H:Nat→Option aN)(n:Nat):List (Nat×aV)→List e.den→List Nat→fj→(List e.den→List Nat→fj→Option α)→Option α
 |[],l,rd,ups,K=>K l rd ups
 |p::r,l,rd,ups,K=>cond (Nat.blt p.1 n) (ix true p.2 H e fun y uZ jP=>p8 e H n r (List.set l p.1 y) (uZ++rd) (ups++jP) K) none
def vP(v:aV)(H:Nat→Option aN):(a:Ty)→(a.den→List Nat→fj→Option α)→Option α
 | .pair a .unit,k=>match v with
  | .me υ x=>bW υ a x fun y=>k (y,()) [] []
  |_=>none
 |a,k=>ix true v H a k
def vQ:(a:Ty)→a.den→aV
 | .pair a .unit,x=> .me a x.1
 |a,x=> .val a x
def mg(H:Nat→Option aN):(τ:Ty)→List aV→(τ.den→List Nat→fj→Option α)→Option α
 | .unit,[],K=>K () [] []
 | .pair a b,v::vs,K=>vP v H a fun x rd ups=>mg H b vs fun xs uZ jP=>K (x,xs) (uZ++rd) (ups++jP)
 |_,_,_=>none
def lh:(τ:Ty)→τ.den→List aV
 | .pair a b,x=>vQ a x.1::lh b x.2
 |_,_=>[]
def bh(H:Nat→Option aN)(d:Nat)(v:Option aN):Nat→Option aN:=fun i=>cond (Nat.beq i d) v (H i)
def p9(H:Nat→Option aN):List aV→(List aV→List Nat→fj→Option α)→Option α
 |[],K=>K [] [] []
 |a::r,K=>match a with
  | .fA id []=>match H id with
   |some (.obj τ x)=>p9 (bh H id (some .gone)) r fun cs rd ups=>K (.me τ x::cs) (id::rd) ((id,some .gone)::ups)
   |_=>none
  |a=>p9 H r fun cs rd ups=>K (a::cs) rd ups
def ku(m:AM)(a:aV)(H:Nat→Option aN)(k:m.den→(Nat→Option aN)→List Nat→fj→fj→List (Nat×Ty)→Option α):Option α:=
 match m,k with
 | .v τ,k=>ix true a H τ fun x rd uf=>match uf with
  |[]=>k x H rd [] [] []
  |u::r=>k x (bh H u.1 u.2) rd [] (u::r) []
 | .own e,k=>match a with
  | .emp=>k [] H [] [] [] []
  | .ref id=>match H id with
   |some (.own e' l)=>bW (.slice e') (.slice e) l fun x=>k x (bh H id (some .gone)) [id] [(id,some .gone)] [] []
   |_=>none
  |_=>none
 | .io τ,k=>match a with
  | .fA id []=>match H id with
   |some (.obj υ x)=>bW υ τ x fun y=>k y (bh H id (some .gone)) [id] [] [] [(id,τ)]
   |_=>none
  |_=>none
 | .fn f τ,k=>match a with
  | .DQ f' c=>cond (Nat.beq f f') (mg H τ c fun x rd uf=>match uf with
   |[]=>k x H rd [] [] []
   |_=>none) none
  |_=>none
 | .ptr _,_=>none
 | .fA τ,k=>match a with
  | .me υ x=>bW υ τ x fun y=>k y H [] [] [] []
  |_=>none
def n9:(ms:List AM)→List aV→(Nat→Option aN)→List Nat→fj→fj→List (Nat×Ty)→(HP ms→List Nat→fj→fj→List (Nat×Ty)→Option α)→Option α
 |[],[],_,rd,uo,uf,io,K=>K () rd uo uf io
 |[m],[a],H,rd,uo,uf,io,K=>ku m a H fun x _ uZ DB DC z2=>K x (uZ++rd) (DB++uo) (DC++uf) (io++z2)
 |m::n::ms,a::lx,H,rd,uo,uf,io,K=>ku m a H fun x H' uZ DB DC z2=>
  n9 (n::ms) lx H' (uZ++rd) (DB++uo) (DC++uf) (io++z2) fun xs rd uo uf io=>K (x,xs) rd uo uf io
 |_,_,_,_,_,_,_,_=>none
def B7(m:AM)(x:m.den)(id:Nat):aV×fj:=
 match m,x with
 | .v τ,x=>(.val τ x,[])
 | .own e,x=>(.ref id,[(id,some (.own e x))])
 | .io τ,x=>(.val τ x,[])
 | .fn _ _,_=>(.any,[])
 | .ptr τ,x=>(.fA id [],[(id,some (.obj τ x))])
 | .fA _,_=>(.any,[])
def iy:(ms:List AM)→HP ms→Nat→List (Nat×Ty)→List aV×fj×List (Nat×Ty)
 |[],_,_,io=>([],[],io)
 |[m],x,id,io=>match m,x,io with
  | .io τ,x,(j,_)::io=>([],[(j,some (.obj τ x))],io)
  |m,x,io=>([(B7 m x id).1],(B7 m x id).2,io)
 |m::n::ms,x,id,io=>match m,x,io with
  | .io τ,x,(j,_)::io=>let r:=iy (n::ms) x.2 (id+1) io;(r.1,(j,some (.obj τ x.1))::r.2.1,r.2.2)
  |m,x,io=>let r:=iy (n::ms) x.2 (id+1) io;((B7 m x.1 id).1::r.1,(B7 m x.1 id).2++r.2.1,r.2.2)
def DV:List aV→aV
 |[]=> .any
 |[a]=>a
 |l=> .tup l
def oM(H:Nat→Option aN)(id:Nat):Nat→Bool
 |0=>true
 |n+1=>(match H (id+n)with|none=>true|some _=>false)&&oM H id n
def DW(id:Nat):Nat→List Nat
 |0=>[]
 |n+1=>(id+n)::DW id n
def fits:List AM→List aV→Bool
 |[],[]=>true
 | .fn f _::ms,.DQ g _::lx=>Nat.beq f g&&fits ms lx
 | .fn _ _::_,_::_=>false
 |_::ms,_::lx=>fits ms lx
 |_,_=>false
def DX:List g6→List aV→Option g6
 |[],_=>none
 |S::r,lx=>cond (fits S.args lx) (some S) (DX r lx)
noncomputable def vR(E:Env)(f:Nat)(lx:List aV)(id:Nat)(H:Nat→Option aN)(K:fk α):Option α:=
 match DX (E.Γ f) lx with
 |none=>none
 |some S=>n9 S.args lx H [] [] [] [] fun x rd uo uf io=>
  (S.run x).bind fun y=>
   let r:=iy S.res y id io
   cond (oM H id S.res.length) (K (DV r.1) (DW id S.res.length++(r.2.1.map (·.1)++rd)) (uo++cond S.quiet [] uf++r.2.1)) none
def sv(a:Option aV)(d:Int)(k:Int→Option α):Option α:=
 match a with
 |none=>k d
 |some a=>p6 a fun _ x=>k x
def iq:Option Operand→Bool
 |some (.const (.int _ n))=>decide (n=0)
 |_=>false
noncomputable def mh(t:Ty)(z:Bool)(a:aV)(lo hi mx:Option aV)(H:Nat→Option aN)(K:fk α):Option α:=
 match t,a with
 | .str,.val .str s=>cond mx.isNone (sv lo 0 fun l=>sv hi (ByteArray.size s:Int) fun h=>
  cond (fB l h (ByteArray.size s:Int) (ByteArray.size s:Int)) (K (.val .str (ByteArray.extract s l.toNat h.toNat)) [] []) none) none
 | .slice _,.emp=>cond z (K .emp [] []) (cond mx.isNone (sv lo 0 fun l=>sv hi 0 fun h=>cond (fB l h 0 0) (K .emp [] []) none) none)
 | .slice e,a=>ix (!z) a H (.slice e) fun x rd ups=>cond z (K .emp rd [])
  (cond (mx.isNone||hi.isSome) (sv lo 0 fun l=>sv hi (List.length x:Int) fun h=>sv mx (List.length x:Int) fun m=>
   cond (fB l h m (List.length x:Int))
    (K (.val (.slice e) (List.drop l.toNat (List.take h.toNat x))) rd ups) none) none)
 |_,_=>none
noncomputable def dT(τ:Ty)(a i:aV)(H:Nat→Option aN)(K:fk α):Option α:=
 p6 i fun _ i=>
 match τ with
 | .slice e=>match a with
  | .val υ l=>bW υ (.slice e) l fun l=>cond (aI i (List.length l)) (K (.me e (List.getD l i.toNat e.zero)) [] []) none
  | .ref id=>match H id with
   |some (.own e' l)|some (.kg e' l)=>jf e' e (cond (aI i (List.length l)) (K (.fA id [.idx i.toNat]) [id] []) none)
   |_=>none
  |_=>none
 | .arr n e=>match a with
  | .fA id p=>jg id p H fun υ=>jf υ (.arr n e) (cond (aI i n) (K (.fA id (p++[.idx i.toNat])) [id] []) none)
  | .me υ l=>bW υ (.arr n e) l fun l=>cond (aI i n) (K (.me e (List.getD l i.toNat e.zero)) [] []) none
  |_=>none
 |_=>none
noncomputable def qa(τ:Ty)(a i:aV)(K:aV→Option α):Option α:=
 p6 i fun _ i=>
 match τ,a with
 | .arr n e,.val υ l=>bW υ (.arr n e) l fun l=>cond (aI i n) (K (.val e (List.getD l i.toNat e.zero))) none
 | .str,.val .str s=>cond (aI i (ByteArray.size s)) (K (.val (.int .u8) ((s.data.getD i.toNat 0).toNat:Int))) none
 |_,_=>none
def gN(a:aV)(H:Nat→Option aN)(K:(υ:Ty)→υ.den→List Nat→Option α):Option α:=
 match a with
 | .me τ x=>K τ x []
 | .fA id p=>match H id with
  |some (.obj τ x)=>tg p τ x fun υ y=>K υ y [id]
  |some (.own e l)|some (.kg e l)=>match p with
   | .idx i::p=>tg p e (List.getD l i e.zero) fun υ y=>K υ y [id]
   |_=>none
  |_=>none
 |_=>none
def iz(τ:Ty)(a v:aV)(H:Nat→Option aN)(K:fk α):Option α:=
 match a with
 | .fA id p=>ix true v H τ fun y rd ups=>
  match H id with
  |some (.obj υ x)=>pQ τ y p υ x fun z=>K .any (id::rd) (ups++[(id,some (.obj υ z))])
  |some (.own e l)=>match p with
   | .idx i::p=>cond (rd.contains id) none (pQ τ y p e (List.getD l i e.zero) fun z=>K .any (id::rd) (ups++[(id,some (.own e (List.set l i z)))]))
   |_=>none
  |_=>none
 |_=>none
def wW(j:Nat)(q:List Step)(τ:Ty)(x:τ.den)(H:Nat→Option aN)(k:τ.den→fj→Option α):Option α:=
 match H j with
 |some (.own e l)=>pQ (.slice e) l q τ x fun z=>k z [(j,some (.kg e l))]
 |some (.kg e l)=>pQ (.slice e) l q τ x fun z=>k z []
 |_=>none
def pE(τ:Ty)(a:aV)(H:Nat→Option aN)(K:fk α):Option α:=
 let s9:=gN a H fun υ y rd=>bW υ τ y fun z=>K (.val τ z) rd []
 match a with
 | .fA id p=>match H id with
  |some (.dK υ x q j)=>cond (DP p q) (cond (ed q υ τ) (K (.ref j) [id] []) none)
   (cond (rL p q) (wW j q υ x H fun z ups=>tg p υ z fun υ' y=>bW υ' τ y fun y'=>K (.val τ y') [id,j] ups)
    (tg p υ x fun υ' y=>bW υ' τ y fun y'=>K (.val τ y') [id] []))
  |_=>s9
 |_=>s9
def vS(τ:Ty)(id k:Nat)(e:Ty)(q:List Step)(υ:Ty)(x:υ.den)(H:Nat→Option aN)(K:fk α):Option α:=
 match H k with
 |some (.own e' _)=>jf e' e (jf τ (.slice e) (pQ (.slice e) [] q υ x fun z=>K .any [id,k] [(id,some (.dK υ z q k))]))
 |_=>none
def fV(E:Env)(τ:Ty)(a v:aV)(H:Nat→Option aN)(K:fk α):Option α:=
 let s9:=iz τ a v H K
 match a with
 | .fA id p=>match H id with
  |some (.obj υ x)=>match B6 E υ id,v with
   |some (q,e),.ref k=>cond (DP p q) (vS τ id k e q υ x H K) s9
   |_,_=>s9
  |some (.dK υ x q j)=>
   let put:=ix true v H τ fun y rd ups=>pQ τ y p υ x fun z=>K .any (id::rd) (ups++[(id,some (cond (rL p q) (.obj υ z) (.dK υ z q j)))])
   match B6 E υ id,v with
   |some (q',e),.ref k=>cond (DP p q&&DP q q') (vS τ id k e q υ x H K) put
   |_,_=>put
  |_=>s9
 |_=>s9
def nR(E:Env)(τ:Ty)(a v:aV)(H:Nat→Option aN)(K:fk α):Option α:=
 match a,v with
 | .fA id [],.B5 υ y n=>match B6 E υ id with
  |some ([.gp m],e)=>cond (Nat.beq m n) (jf τ υ (jg id [] H fun υ'=>jf υ' υ
   (mf H (id+2) (.own e []) (K .any [id,id+2] [(id,some (.dK υ y [.gp m] (id+2))),(id+2,some (.own e []))])))) (fV E τ a v H K)
  |_=>fV E τ a v H K
 |_,_=>fV E τ a v H K
def wX(H:Nat→Option aN)(id:Nat)(τ:Ty)(x:τ.den)(q:List Step)(e:Ty)(K:fk α):Option α:=
 mf H id (.obj τ x) (mf H (id+1) (.own e []) (K (.fA id []) [id,id+1] [(id,some (.dK τ x q (id+1))),(id+1,some (.own e []))]))
def P9(E:Env)(ps:List (Nat×aV))(τ:Ty)(x:τ.den):aV:=match lkT E τ with
 |some ([.gp n],_)=>cond (ps.all fun p=> !(Nat.beq p.1 n)) (.B5 τ x n) (.val τ x)
 |_=> .val τ x
def partsOf(σρ:Operand→aV)(ps:Array (Nat×Operand)):List (Nat×aV):=ps.toList.map fun p=>(p.1,σρ p.2)
noncomputable def n4(E:Env)(o:Oper)(ρ:Operand→aV)(H:Nat→Option aN)(K:fk α):Option α:=
 let id:=16*o.dst.getD 0
 match o.op with
 | .move x| .assign x=>K (ρ x) [] []
 | .pick c a b=>match ρ c with
  | .val .bool t=>cond t (K (ρ a) [] []) (K (ρ b) [] [])
  |_=>none
 | .alloc t=>match E.ty t with
  |some τ=>match B6 E τ id with
   |some (q,e)=>wX H id τ τ.zero q e K
   |none=>mf H id (.obj τ τ.zero) (K (.fA id []) [id] [(id,some (.obj τ τ.zero))])
  |none=>none
 | .box t x=>match E.ty t with
  |some τ=>
   let s9:=ix true (ρ x) H τ fun y rd ups=>mf H id (.obj τ y) (K (.fA id []) (id::rd) (ups++[(id,some (.obj τ y))]))
   match B6 E τ id,ρ x with
   |some ([.gp m],e),.B5 υ y n=>cond (Nat.beq m n) (bW υ τ y fun y=>wX H id τ y [.gp m] e K) s9
   |_,_=>s9
  |none=>none
 | .build t ps=>match E.ty t with
  |some (.arr n e)=>p8 e H n (partsOf ρ ps) (List.replicate n e.zero) [] [] fun l rd ups=>K (.val (.arr n e) l) rd ups
  |some τ=>cond τ.isAgg (oL τ H (partsOf ρ ps) τ.zero [] [] fun x rd ups=>K (P9 E (partsOf ρ ps) τ x) rd ups) none
  |none=>none
 | .buildSlice t n ps=>match E.ty t with
  |some (.slice e)=>cond (Nat.ble (n*(e.size+1)) 16777216) (mf H id (.own e []) (p8 e H n (partsOf ρ ps) (List.replicate n e.zero) [] [] fun l rd ups=>K (.ref id) (id::rd) (ups++[(id,some (.own e l))]))) none
  |_=>none
 | .load t a=>match E.ty t with
  |some τ=>pE τ (ρ a) H K
  |none=>none
 | .store t a v=>match E.ty t with
  |some τ=>nR E τ (ρ a) (ρ v) H K
  |none=>none
 | .nilCheck x=>match ρ x with
  | .fA id p=>K (.fA id p) [] []
  | .me τ x=>K (.me τ x) [] []
  |_=>none
 | .binOp op t x y _=>DS (ρ x) fun τ x=>DS (ρ y) fun υ y=>yh (E.ty t) op τ x υ y fun v=>K v [] []
 | .unOp op _ x=>Kt op (ρ x) fun v=>K v [] []
 | .convert src dst x=>match E.ty src,E.ty dst with
  |some _,some (.int k)=>p6 (ρ x) fun _ n=>K (.val (.int k) (W k n)) [] []
  |_,_=>none
 | .makeFunc (.func f) first caps=>cond first.isEmpty (p9 H (caps.toList.map ρ) fun cs rd ups=>K (.DQ f cs) rd ups) none
 | .makeSlice t l c=>match E.ty t with
  |some (.slice e)=>p6 (ρ l) fun _ l=>p6 (ρ c) fun _ c=>cond (dS l c)
    (mf H id (.own e []) (K (.ref id) [id] [(id,some (.own e (List.replicate l.toNat e.zero)))])) none
  |_=>none
 | .slice t x lo hi mx=>match E.ty t with
  |some τ=>mh τ (lo.isNone&&iq hi&&iq mx) (ρ x) (lo.map ρ) (hi.map ρ) (mx.map ρ) H K
  |none=>none
 | .fieldAddr t x n=>match E.ty t with
  |some τ=>match ρ x with
   | .fA id p=>jg id p H fun υ=>jf υ τ (rM τ τ.zero n fun υ' _=>cond (Nat.beq υ'.size 0) none (K (.fA id (p++[.gp n])) [id] []))
   | .me υ x=>jf υ τ (rM υ x n fun υ y=>cond (Nat.beq υ.size 0) none (K (.me υ y) [] []))
   |_=>none
  |none=>none
 | .field t x n=>match E.ty t with
  |some τ=>match ρ x with
   | .val υ x=>jf υ τ (rM υ x n fun υ y=>K (.val υ y) [] [])
   |_=>none
  |none=>none
 | .indexAddr t x i=>match E.ty t with
  |some τ=>dT τ (ρ x) (ρ i) H K
  |none=>none
 | .index t x i=>match E.ty t with
  |some τ=>qa τ (ρ x) (ρ i) fun v=>K v [] []
  |none=>none
 | .extract t i=>match ρ t with
  | .tup vs=>match vs[i]? with
   |some v=>K v [] []
   |none=>none
  |_=>none
 | .call c=>match c.callee with
  | .builtin .len=>match c.args.toList,(c.argTypes.toList.head?).bind E.ty with
   |[x],some τ=>DT τ (ρ x) H K
   |_,_=>none
  | .builtin .append=>match c.args.toList,c.argTypes.toList with
   |[x,y],[t,t']=>match E.ty t with
    |some (.slice e)=>cond (Nat.beq t t') (mf H id (.own e []) (DU id e (ρ x) (ρ y) H K)) none
    |_=>none
   |_,_=>none
  | .builtin .max=>match c.args.toList with
   |x::r=>PH true (ρ x) (r.map ρ) fun v=>K v [] []
   |_=>none
  | .builtin .min=>match c.args.toList with
   |x::r=>PH false (ρ x) (r.map ρ) fun v=>K v [] []
   |_=>none
  | .value g=>match ρ g with
   | .DQ f caps=>vR E f (c.args.toList.map ρ++caps) id H K
   |_=>none
  |_=>none
 |_=>none
noncomputable def oa(E:Env)(ops:List Oper)(o:Oper)(σ:St)(K:St→List Nat→List Nat→Option α):Option α:=
 let run (σ:St):Option α:=n4 E o σ.ρ σ.H fun v rd ups=>K ((σ.p5 ups).pP o.dst v) rd (ups.map (·.1))
 cond (DR E.nt E.io o.dst) (match o.guard with
 |none=>run σ
 |some (j,want)=>match(ops[j]?).bind (·.dst)with
  |none=>none
  |some t=>match σ.T t with
   | .val .bool b=>match want with
    |true=>cond b (run (σ.put t (.val .bool true))) (K ((σ.put t (.val .bool false)).pP o.dst .Ms) [] [])
    |false=>cond b (K ((σ.put t (.val .bool true)).pP o.dst .Ms) [] []) (run (σ.put t (.val .bool false)))
   | .Ms=>K (σ.pP o.dst .Ms) [] []
   |_=>none) none
abbrev Log:=List (Nat×List Nat×List Nat)
noncomputable def Ku(E:Env)(ops:List Oper):List Oper→Nat→St→Log→(St→Log→Option α)→Option α
 |[],_,σ,lg,K=>K σ lg
 |o::r,i,σ,lg,K=>oa E ops o σ fun σ' rd wr=>Ku E ops r (i+1) σ' ((i,rd,wr)::lg) K
def nS:List Oper→List Nat→List Nat
 |[],acc=>acc
 |o::r,acc=>nS r (acc++[o.after.toList.foldl (fun s e=>cond (Region.binds .any e) (s|||2^e.on|||acc.getD e.on 0) s) 0])
def names(ops:List Oper)(o:Oper):List Nat:=
 (o.op.operands.toList.filterMap fun| .tmp t=>some t|_=>none)++
 (match o.guard with
  |some (g,_)=>((ops[g]?).bind (·.dst)).toList
  |none=>[])
def meets(a b:List Nat):Bool:=a.any fun x=>b.any fun y=>Nat.beq x y
def Mt(ops:List Oper):Bool:=
 let b:=nS ops []
 (ops.zipIdx.all fun(o,j)=>o.after.toList.all fun e=> !(Region.binds .any e)||Nat.blt e.on j)&&
 ops.zipIdx.all fun(o,j)=>ops.zipIdx.all fun(p,i)=>Nat.ble j i||(b.getD j 0).testBit i||
  !(meets p.dst.toList (o.dst.toList++names ops o)||meets o.dst.toList (names ops p))
def Ws(ops:List Oper)(lg:Log):Bool:=
 let b:=nS ops []
 lg.all fun x=>lg.all fun y=>Nat.ble x.1 y.1||(b.getD x.1 0).testBit y.1||
  !(meets y.2.2 (x.2.1++x.2.2)||meets y.2.1 x.2.2)
noncomputable def xE(E:Env)(ops:Array Oper)(draw:Bool)(σ:St)(K:St→Option α):Option α:=
 Ku E ops.toList ops.toList 0 σ [] fun σ' lg=>cond (!draw||(Mt ops.toList&&Ws ops.toList lg)) (K σ') none
def eH:List (Nat×CM)→St→St→(St→Option α)→Option α
 |[],_,acc,K=>K acc
 |(s,.v τ)::r,σ,acc,K=>ix true (σ.T s) σ.H τ fun x _ ups=>eH r (σ.p5 ups) (acc.put s (.val τ x)) K
 |(s,.own e)::r,σ,acc,K=>match σ.T s with
  | .emp=>eH r σ ((acc.put s (.ref (16*s+14))).gR (16*s+14) (some (.own e []))) K
  | .ref id=>match σ.H id with
   |some (.own e' l)=>bW (.slice e') (.slice e) l fun x=>eH r (σ.gR id (some .gone)) ((acc.put s (.ref (16*s+14))).gR (16*s+14) (some (.own e x))) K
   |_=>none
  |_=>none
 |(s,.obj τ)::r,σ,acc,K=>match σ.T s with
  | .fA id []=>match σ.H id with
   |some (.obj υ x)=>bW υ τ x fun y=>eH r (σ.gR id (some .gone)) ((acc.put s (.fA (16*s+14) [])).gR (16*s+14) (some (.obj τ y))) K
   |some (.dK υ x q j)=>wW j q υ x σ.H fun z ups=>bW υ τ z fun y=>eH r ((σ.p5 ups).gR id (some .gone)) ((acc.put s (.fA (16*s+14) [])).gR (16*s+14) (some (.obj τ y))) K
   |_=>none
  |_=>none
 |(s,.dK τ q e)::r,σ,acc,K=>match σ.T s with
  | .fA id []=>match σ.H id with
   |some (.dK υ x q' j)=>cond (DP q q') (match σ.H j with
    |some (.own e' l)=>bW υ τ x fun y=>bW (.slice e') (.slice e) l fun l=>eH r ((σ.gR j (some .gone)).gR id (some .gone))
     (((acc.put s (.fA (16*s+14) [])).gR (16*s+13) (some (.own e l))).gR (16*s+14) (some (.dK τ y q (16*s+13)))) K
    |_=>none) none
   |_=>none
  |_=>none
 |(s,.same s')::r,σ,acc,K=>match σ.T s,σ.T s',acc.T s' with
  | .ref i,.ref j,.ref j'=>cond (Nat.beq i j) (eH r σ (acc.put s (.ref j')) K) none
  |_,_,_=>none
 |(s,.io τ)::r,σ,acc,K=>match σ.T s with
  | .fA id []=>cond (Nat.beq id (16*s+15)) (match σ.H id with
   |some (.obj υ x)=>bW υ τ x fun y=>eH r (σ.gR id (some .gone)) ((acc.put s (.fA (16*s+15) [])).gR (16*s+15) (some (.obj τ y))) K
   |_=>none) none
  |_=>none
 |(s,.fn f τ)::r,σ,acc,K=>match σ.T s with
  | .DQ f' c=>cond (Nat.beq f f') (mg σ.H τ c fun x _ ups=>match ups with
   |[]=>eH r σ (acc.put s (.DQ f (lh τ x))) K
   |_=>none) none
  |_=>none
def fW:List (Nat×CM)→Bool
 |[]=>true
 |q::r=>r.all (fun p=> !(Nat.beq p.1 q.1))&&fW r
def qb(L:Option (List (Nat×CM)))(σ:St)(K:St→Option α):Option α:=
 match L with
 |none=>K σ
 |some L=>eH L σ ⟨fun _=> .any,fun _=>none⟩ K
def vT(L:Option (List (Nat×CM)))(step:St→(St→Option α)→Option α):Nat→St→Option α
 |0,_=>none
 |n+1,σ=>step σ fun σ'=>qb L σ' (vT L step n)
def bF:Code→Option Nat
 | .region id _ _=>some id
 | .seq a b=>match bF a with
  |some i=>some i
  |none=>bF b
 | .block _ c| .loop c| .scope c=>bF c
 |_=>none
def AT(E:Env)(c:Operand)(σ:St)(A B:St→Option α):Option α:=
 match σ.ρ c with
 | .val .bool b=>match c with
  | .tmp t=>cond b (A (σ.put t (.val .bool true))) (B (σ.put t (.val .bool false)))
  |_=>cond b (A σ) (B σ)
 |_=>none
noncomputable def xF(E:Env)(c:Code):St→(St→Option α)→(Nat→St→Option α)→(St→Option α)→Option α:=
 Code.rec (motive:=fun _=>St→(St→Option α)→(Nat→St→Option α)→(St→Option α)→Option α)
  (fun σ k _ _=>k σ)
  (fun _ ops draw σ k _ _=>xE E ops draw σ k)
  (fun _ b A B σ k kx kr=>A σ (fun σ'=>qb ((bF b).bind E.rN) σ' fun pR=>B pR k kx kr) kx kr)
  (fun c _ _ A B σ k kx kr=>AT E c σ (fun σ'=>A σ' k kx kr) (fun σ'=>B σ' k kx kr))
  (fun id _ A σ k kx kr=>A σ k (fun i σ'=>cond (Nat.beq i id) (k σ') (kx i σ')) kr)
  (fun b A σ _ kx kr=>qb ((bF b).bind E.p7) σ (vT ((bF b).bind E.p7) (fun σ' kn=>A σ' kn kx kr) E.N))
  (fun _ _ _ _ _ _ _ _ _ _=>none)
  (fun id σ _ kx _=>kx id σ)
  (fun _ A σ k kx kr=>A σ k kx kr)
  (fun _ σ k _ _=>k σ)
  (fun _ _ _ _ _=>none)
  (fun σ _ _ kr=>kr σ)
  (fun _ _ _ _ _=>none)
  c
noncomputable def pS(E:Env):List Nat→Code→List (St→Option α)→St→(St→Option α)→(Nat→St→Option α)→(St→Option α)→Option α
 |[],c,_,σ,k,kx,kr=>xF E c σ k kx kr
 |n::p,c,ks,σ,k,kx,kr=>match c with
  | .seq a b=>match n with
   |0=>pS E p a ks σ (fun σ'=>qb ((bF b).bind E.rN) σ' fun pR=>xF E b pR k kx kr) kx kr
   |_=>pS E p b ks σ k kx kr
  | .cond _ a b=>match n with
   |0=>pS E p a ks σ k kx kr
   |_=>pS E p b ks σ k kx kr
  | .block id c=>pS E p c ks σ k (fun i σ'=>cond (Nat.beq i id) (k σ') (kx i σ')) kr
  | .loop b=>match ks with
   |κ::ks=>pS E p b ks σ κ kx kr
   |[]=>none
  | .scope c=>pS E p c ks σ k kx kr
  |_=>none
def HE(m:AM)(x:m.den)(i:Nat)(σ:St):St:=
 match m,x with
 | .v τ,x=>σ.put i (.val τ x)
 | .own e,x=>(σ.put i (.ref (16*i+15))).gR (16*i+15) (some (.own e x))
 | .io τ,x=>(σ.put i (.fA (16*i+15) [])).gR (16*i+15) (some (.obj τ x))
 | .fn f τ,x=>σ.put i (.DQ f (lh τ x))
 | .ptr _,_=>σ
 | .fA τ,x=>σ.put i (.me τ x)
def entry:(ms:List AM)→HP ms→Nat→St→St
 |[],_,_,σ=>σ
 |[m],x,i,σ=>HE m x i σ
 |m::n::ms,x,i,σ=>entry (n::ms) x.2 (i+1) (HE m x.1 i σ)
def AU(E:Env)(m:AM)(r:ResultVar ⊕ Nat)(σ:St)(K:m.den→St→Option α):Option α:=
 match m,r,K with
 | .v τ,.inl (.tmp t),K=>ix true (σ.T t) σ.H τ fun x _ ups=>K x (σ.p5 ups)
 | .v τ,.inl (.cell a t),K=>match E.ty t with
  |some τ'=>jf τ' τ (gN (σ.T a) σ.H fun υ y _=>bW υ τ y fun x=>K x σ)
  |none=>none
 | .own e,.inl (.tmp t),K=>match σ.T t with
  | .emp=>K [] σ
  | .ref id=>match σ.H id with
   |some (.own e' l)=>bW (.slice e') (.slice e) l fun x=>K x (σ.gR id (some .gone))
   |_=>none
  |_=>none
 | .io τ,.inr i,K=>match σ.T i with
  | .fA id []=>match σ.H id with
   |some (.obj υ x)=>bW υ τ x fun y=>K y (σ.gR id (some .gone))
   |_=>none
  |_=>none
 | .ptr τ,.inl (.tmp t),K=>match σ.T t with
  | .fA id []=>match σ.H id with
   |some (.obj υ x)=>bW υ τ x fun y=>K y (σ.gR id (some .gone))
   |_=>none
  |_=>none
 |_,_,_=>none
def B8(E:Env):(ms:List AM)→List (ResultVar ⊕ Nat)→St→(HP ms→Option α)→Option α
 |[],[],_,K=>K ()
 |[m],[r],σ,K=>AU E m r σ fun x _=>K x
 |m::n::ms,r::rs,σ,K=>AU E m r σ fun x σ'=>B8 E (n::ms) rs σ' fun xs=>K (x,xs)
 |_,_,_,_=>none
def u2:List AM→Nat→List (ResultVar ⊕ Nat)
 |[],_=>[]
 | .io _::ms,i=> .inr i::u2 ms (i+1)
 |_::ms,i=>u2 ms (i+1)
noncomputable def DY(E:Env)(fn:Func)(args res:List AM)(x:HP args):Option (HP res):=
 match fn.body with
 |none=>none
 |some c=>
  let kr:St→Option (HP res):=fun σ=>B8 E res (fn.results.toList.map .inl++u2 args 0) σ some
  xF E c (entry args x 0 ⟨fun _=> .any,fun _=>none⟩) kr (fun _ _=>none) kr
end
end VM
end
section
namespace VM
open Go
noncomputable def pF(N:Nat)(x y c:Int):Option (Int×Int):=if 0≤x∧0≤y∧0≤c∧c≤1 then some ((x+y+c)%18446744073709551616,(x+y+c)/18446744073709551616)else none
noncomputable def pG(N:Nat)(x y c:Int):Option (Int×Int):=if 0≤x∧x<18446744073709551616∧0≤y∧y<18446744073709551616∧0≤c∧c≤1 then some ((x+18446744073709551616-y-c)%18446744073709551616,if x<y+c then 1 else 0)else none
noncomputable def gq{α:Type}(N:Nat)(l:List α)(i:Int)(v:List α):Option (List α):=if 0≤i∧i≤l.length∧v.length=1∧l.length+1<s8 then some (l.take i.toNat++(v++l.drop i.toNat))else none
noncomputable def Qa{α:Type}(N:Nat)(l:List α)(n:Int):Option (List α):=match l with
 |[x]=>if 0<n∧n<1048576 then some (List.replicate n.toNat x)else none
 |_=>none
noncomputable def pF.S(N:Nat):g6:={args:=[.v (.int .u64),.v (.int .u64),.v (.int .u64)],res:=[.v (.int .u64),.v (.int .u64)],quiet:=true,run:=fun x=>pF N x.1 x.2.1 x.2.2}
noncomputable def pG.S(N:Nat):g6:={args:=[.v (.int .u64),.v (.int .u64),.v (.int .u64)],res:=[.v (.int .u64),.v (.int .u64)],quiet:=true,run:=fun x=>pG N x.1 x.2.1 x.2.2}
noncomputable def gr(e:Ty)(N:Nat):g6:={args:=[.own e,.v (.int .i64),.own e],res:=[.own e],quiet:=false,run:=fun x=>gq N x.1 x.2.1 x.2.2}
noncomputable def ahS(e:Ty)(N:Nat):g6:={args:=[.v (.slice e),.v (.int .i64)],res:=[.own e],quiet:=false,run:=fun x=>Qa N x.1 x.2}
noncomputable def jQ{α:Type}(N:Nat)(l:List α):Option (List α):=if l.length<s8 then some l else none
noncomputable def qc(e:Ty)(N:Nat):g6:={args:=[.v (.slice e)],res:=[.own e],quiet:=false,run:=fun x=>jQ N x}
end VM
namespace VM
abbrev ca:Int×Int×Unit:=((0:Int),((0:Int),()))
abbrev bN:List (Int×Int×Unit):=[]
abbrev aR:Int×Int×Int×Unit:=((0:Int),((0:Int),((0:Int),())))
abbrev bq:List (Int×Int×Int×Unit):=[]
abbrev aS:Int×Int×Int×Int×Unit:=((0:Int),((0:Int),((0:Int),((0:Int),()))))
abbrev cI:List (Int×Int×Int×Int×Unit):=[]
abbrev jR:Int×Int×Int×Int×Int×Unit:=((0:Int),((0:Int),((0:Int),((0:Int),((0:Int),())))))
abbrev xG:List (Int×Int×Int×Int×Int×Unit):=[]
abbrev eG:Int×Int×Int×Int×Int×Int×Unit:=((0:Int),((0:Int),((0:Int),((0:Int),((0:Int),((0:Int),()))))))
abbrev de:List (Int×Int×Int×Int×Int×Int×Unit):=[]
abbrev Wt:Int×Int×Int×Int×Int×Int×Int×Unit:=((0:Int),((0:Int),((0:Int),((0:Int),((0:Int),((0:Int),((0:Int),())))))))
abbrev ee7:List (Int×Int×Int×Int×Int×Int×Int×Unit):=[]
abbrev zz8:Int×Int×Int×Int×Int×Int×Int×Int×Unit:=((0:Int),((0:Int),((0:Int),((0:Int),((0:Int),((0:Int),((0:Int),((0:Int),()))))))))
abbrev ee8:List (Int×Int×Int×Int×Int×Int×Int×Int×Unit):=[]
abbrev c3:List Int:=[]
abbrev kW:List Int×Unit:=(c3,())
end VM
end
section
namespace VM
open Go
def At(w:World)(b off:Nat)(cs:List Value):Prop:= ∀j v,cs[j]? =some v→w.cell? ⟨b,off+j,none⟩=some v
def Rd(w:World)(M:Nat→Prop):(τ:Ty)→List Value→τ.den→Prop
 | .int k,cs,x=>cs=[.int k x]
 | .bool,cs,x=>cs=[.bool x]
 | .str,cs,x=>cs=[.string x]
 | .slice e,cs,x=> ∃a cap,cs=[.slice a (List.length x) cap]∧List.length x≤cap∧
  ∀i (h:i<List.length x),∃b off,a=some ⟨b,off,none⟩∧b<w.heap.size∧ ¬M b∧ ∃cs',At w b (off+i*e.size) cs'∧Rd w M e cs' (List.get x ⟨i,h⟩)
 | .unit,cs,_=>cs=[]
 | .pair a b,cs,x=> ∃c1 c2,cs=c1++c2∧Rd w M a c1 x.1∧Rd w M b c2 x.2
 | .arr n e,cs,x=>List.length x=n∧ ∃Kv:List (List Value),Kv.length=n∧cs=Kv.flatten∧
  ∀i (h:i<List.length x) (h':i<Kv.length),Rd w M e Kv[i] (List.get x ⟨i,h⟩)
theorem kv{α:Type}(n:Nat): ∀(l:List (List α)),(∀i (h:i<l.length),l[i].length=n)→l.flatten.length=l.length*n
 |[],_=>by simp
 |a::l,h=>by
  have h0:=h 0 (by simp)
  have ih:=kv n l (fun i hi=>h (i+1) (by simp;omega))
  simp only[List.getElem_cons_zero]at h0
  simp only[List.flatten_cons,List.length_append,List.length_cons,ih,h0,Nat.add_mul]
  omega
theorem Rd.length{w:World}{M:Nat→Prop}: ∀{τ:Ty} {cs:List Value} {x:τ.den},Rd w M τ cs x→cs.length=τ.size
 | .int _,_,_,h=>by simp only[Rd]at h;subst h;rfl
 | .bool,_,_,h=>by simp only[Rd]at h;subst h;rfl
 | .str,_,_,h=>by simp only[Rd]at h;subst h;rfl
 | .slice _,_,_,h=>by simp only[Rd]at h;obtain⟨a,cap,rfl,_⟩:=h;rfl
 | .unit,_,_,h=>by simp only[Rd]at h;subst h;rfl
 | .pair a b,_,_,h=>by
  simp only[Rd]at h
  obtain⟨c1,c2,rfl,h1,h2⟩:=h
  rw[List.length_append,h1.length,h2.length];rfl
 | .arr n e,_,x,h=>by
  simp only[Rd]at h
  obtain⟨hn,Kv,hc,rfl,hr⟩:=h
  rw[kv e.size Kv (fun i hi=>(hr i (by omega) hi).length),hc];rfl
structure dd(w:World)(M:Nat→Prop)(w':World)(M':Nat→Prop):Prop where
 size:w.heap.size≤w'.heap.size
 block: ∀b,b<w.heap.size→ ¬M b→w'.heap[b]? =w.heap[b]?
 less: ∀b,b<w.heap.size→M' b→M b
theorem XI{w:World}{b o:Nat}{v:Value}(h:w.cell? ⟨b,o,none⟩=some v):b<w.heap.size:=by
 simp only[World.cell?]at h
 rcases Nat.lt_or_ge b w.heap.size with hb|hb
 ·exact hb
 ·simp[Array.getElem?_eq_none hb]at h
theorem At.bB{w w':World}{b off:Nat}{cs:List Value}(h:At w b off cs)(hb:w'.heap[b]? =w.heap[b]?):At w' b off cs:=by
 intro j v hj
 have:=h j v hj
 rw[World.cell?_of_block (w:=w) hb]
 exact this
theorem At.append{w:World}{b off:Nat}{c1 c2:List Value}:At w b off (c1++c2)↔At w b off c1∧At w b (off+c1.length) c2:=by
 constructor
 ·intro h
  refine⟨fun j v hj=>h j v (by rw[List.getElem?_append_left];exact hj;exact(List.getElem?_eq_some_iff.1 hj).1),fun j v hj=> ?_⟩
  have:=h (c1.length+j) v (by rw[List.getElem?_append_right (by omega)];simpa using hj)
  rw[Nat.add_assoc];exact this
 ·rintro⟨h1,h2⟩ j v hj
  by_cases dz:j<c1.length
  ·rw[List.getElem?_append_left dz]at hj;exact h1 j v hj
  ·rw[List.getElem?_append_right (by omega)]at hj
   have:=h2 (j-c1.length) v hj
   rwa [show off+c1.length+(j-c1.length)=off+j from by omega]at this
theorem Rd.bB{w w':World}{M M':Nat→Prop}(k:dd w M w' M'): ∀{τ:Ty} {cs:List Value} {x:τ.den},Rd w M τ cs x→Rd w' M' τ cs x
 | .int _,_,_,h=>h
 | .bool,_,_,h=>h
 | .str,_,_,h=>h
 | .slice e,_,x,h=>by
  simp only[Rd]at h ⊢
  obtain⟨a,cap,rfl,hc,hr⟩:=h
  refine⟨a,cap,rfl,hc,fun i hi=> ?_⟩
  obtain⟨b,off,ha,hb,hm,cs',ly,gO⟩:=hr i hi
  exact⟨b,off,ha,Nat.lt_of_lt_of_le hb k.size,fun h'=>hm (k.less b hb h'),_,ly.bB (k.block b hb hm),gO.bB k⟩
 | .unit,_,_,h=>h
 | .pair a b,_,_,h=>by
  simp only[Rd]at h ⊢
  obtain⟨c1,c2,rfl,h1,h2⟩:=h
  exact⟨c1,c2,rfl,h1.bB k,h2.bB k⟩
 | .arr n e,_,x,h=>by
  simp only[Rd]at h ⊢
  obtain⟨hn,Kv,hc,rfl,hr⟩:=h
  exact⟨hn,Kv,hc,rfl,fun i hi iA=>(hr i hi iA).bB k⟩
theorem dd.refl(w:World)(M:Nat→Prop):dd w M w M:=⟨Nat.le_refl _,fun _ _ _=>rfl,fun _ _ h=>h⟩
theorem dd.trans{w w' w'':World}{M M' Hh:Nat→Prop}(h:dd w M w' M')(k:dd w' M' w'' Hh):dd w M w'' Hh:=
 ⟨Nat.le_trans h.size k.size,fun b hb hm=>(k.block b (Nat.lt_of_lt_of_le hb h.size) (fun h'=>hm (h.less b hb h'))).trans (h.block b hb hm),
  fun b hb hm=>h.less b hb (k.less b (Nat.lt_of_lt_of_le hb h.size) hm)⟩
def V(w:World)(M:Nat→Prop)(τ:Ty)(v:Value)(x:τ.den):Prop:=
 if τ.isAgg then ∃cs,v= .agg cs∧Rd w M τ cs.toList x else Rd w M τ [v] x
theorem V.bB{w w':World}{M M':Nat→Prop}(k:dd w M w' M'){τ:Ty}{v:Value}{x:τ.den}(h:V w M τ v x):V w' M' τ v x:=by
 unfold V at*
 split
 ·rename_i ha;rw[if_pos ha]at h;obtain⟨cs,rfl,h⟩:=h;exact⟨cs,rfl,h.bB k⟩
 ·rename_i ha;rw[if_neg ha]at h;exact h.bB k
theorem Rd.scalar{w:World}{M:Nat→Prop}{τ:Ty}{cs:List Value}{x:τ.den}(ha:τ.isAgg=false)(h:Rd w M τ cs x): ∃v,cs=[v]∧v.cells= #[v]:=by
 cases τ<;>simp only[Ty.isAgg,Bool.true_eq_false]at ha<;>simp only[Rd]at h
 ·exact⟨_,h,rfl⟩
 ·exact⟨_,h,rfl⟩
 ·exact⟨_,h,rfl⟩
 ·obtain⟨a,cap,rfl,_⟩:=h;exact⟨_,rfl,rfl⟩
theorem V.cells{w:World}{M:Nat→Prop}{τ:Ty}{v:Value}{x:τ.den}(h:V w M τ v x):Rd w M τ v.cells.toList x:=by
 unfold V at h
 by_cases ha:τ.isAgg=true
 ·rw[if_pos ha]at h;obtain⟨cs,rfl,h⟩:=h;exact h
 ·rw[if_neg ha]at h
  obtain⟨v',hv,hc⟩:=h.scalar (by simpa using ha)
  simp only[List.cons.injEq,and_true]at hv
  subst hv
  rw[hc];exact h
def bE(τ:Ty)(cs:List Value):Value:=if τ.isAgg then .agg cs.toArray else cs.headD (.tuple #[])
theorem V.bE{w:World}{M:Nat→Prop}{τ:Ty}{cs:List Value}{x:τ.den}(h:Rd w M τ cs x):V w M τ (bE τ cs) x:=by
 unfold V VM.bE
 by_cases ha:τ.isAgg=true
 ·rw[if_pos ha,if_pos ha];exact⟨_,rfl,by simpa using h⟩
 ·rw[if_neg ha,if_neg ha]
  obtain⟨v',rfl,_⟩:=h.scalar (by simpa using ha)
  exact h
theorem Ac{w:World}{M:Nat→Prop}{τ:Ty}{cs:List Value}{x:τ.den}(h:Rd w M τ cs x):(bE τ cs).cells.toList=cs:=by
 unfold VM.bE
 by_cases ha:τ.isAgg=true
 ·rw[if_pos ha];simp[Value.cells]
 ·rw[if_neg ha]
  obtain⟨v',rfl,hc⟩:=h.scalar (by simpa using ha)
  simp[hc]
theorem Rd.ki{w:World}{M:Nat→Prop}: ∀{τ:Ty} {cs:List Value} {x:τ.den},Rd w M τ cs x→ ∀v∈cs,v.oneCell'=true
 | .int _,_,_,h=>by simp only[Rd]at h;subst h;simp[Value.oneCell']
 | .bool,_,_,h=>by simp only[Rd]at h;subst h;simp[Value.oneCell']
 | .str,_,_,h=>by simp only[Rd]at h;subst h;simp[Value.oneCell']
 | .slice _,_,_,h=>by simp only[Rd]at h;obtain⟨a,cap,rfl,_⟩:=h;simp[Value.oneCell']
 | .unit,_,_,h=>by simp only[Rd]at h;subst h;simp
 | .pair a b,_,_,h=>by
  simp only[Rd]at h
  obtain⟨c1,c2,rfl,h1,h2⟩:=h
  intro v hv
  rcases List.mem_append.1 hv with hv|hv
  ·exact h1.ki v hv
  ·exact h2.ki v hv
 | .arr n e,_,x,h=>by
  simp only[Rd]at h
  obtain⟨hn,Kv,hc,rfl,hr⟩:=h
  intro v hv
  obtain⟨l,hl,hvl⟩:=List.mem_flatten.1 hv
  obtain⟨i,hi,rfl⟩:=List.mem_iff_getElem.1 hl
  exact(hr i (by omega) hi).ki v hvl
def Ty.bZ:Ty→List Value
 | .int k=>[.int k 0]
 | .bool=>[.bool false]
 | .str=>[.string ByteArray.empty]
 | .slice _=>[.slice none 0 0]
 | .unit=>[]
 | .pair a b=>a.bZ++b.bZ
 | .arr n e=>(List.replicate n e.bZ).flatten
theorem Rd.zero(w:World)(M:Nat→Prop): ∀(τ:Ty),Rd w M τ τ.bZ τ.zero
 | .int _| .bool| .str| .unit=>by simp[Rd,Ty.bZ,Ty.zero]
 | .slice _=>by
  simp only[Rd,Ty.bZ,Ty.zero]
  exact⟨none,0,rfl,Nat.le_refl _,fun i h=>absurd h (by simp)⟩
 | .pair a b=>by
  simp only[Rd,Ty.bZ,Ty.zero]
  exact⟨_,_,rfl,Rd.zero w M a,Rd.zero w M b⟩
 | .arr n e=>by
  simp only[Rd,Ty.bZ,Ty.zero]
  refine⟨by simp,_,by simp,rfl,fun i h h'=> ?_⟩
  simp only[List.getElem_replicate,List.get_eq_getElem]
  exact Rd.zero w M e
end VM
end
section
namespace VM
open Go
def B9(P:Program)(τ:Ty)(t:TypeId):Prop:=
 ∃i,P.info? t=some i∧i.size=τ.size∧i.zero=some (bE τ τ.bZ)∧i.bytes≤2048
def dw(P:Program):Ty→TypeId ⊕ (Array Field×Nat×Nat)→Prop
 | .int k,.inl t=>B9 P (.int k) t∧P.underlying t=some (.int k)
 | .bool,.inl t=>B9 P .bool t∧P.underlying t=some .bool
 | .str,.inl t=>B9 P .str t∧P.underlying t=some .string
 | .slice e,.inl t=>B9 P (.slice e) t∧ ∃e',P.underlying t=some (.slice e')∧dw P e (.inl e')
 | .arr n e,.inl t=>B9 P (.arr n e) t∧ ∃e',P.underlying t=some (.array n e')∧dw P e (.inl e')
 | .unit,.inl t=>B9 P .unit t∧ ∃fs,P.underlying t=some (.struct fs)∧fs.size=0
 | .unit,.inr (fs,n,_)=>fs.size=n
 | .pair a b,.inl t=>B9 P (.pair a b) t∧ ∃fs f,P.underlying t=some (.struct fs)∧fs[0]? =some f∧f.offset=0∧dw P a (.inl f.type)∧dw P b (.inr (fs,1,a.size))
 | .pair a b,.inr (fs,n,off)=> ∃f,fs[n]? =some f∧f.offset=off∧dw P a (.inl f.type)∧dw P b (.inr (fs,n+1,off+a.size))
 |_,.inr _=>False
def gu(P:Program)(τ:Ty)(t:TypeId):Prop:=dw P τ (.inl t)
theorem gu.base{P:Program}{τ:Ty}{t:TypeId}(h:gu P τ t):B9 P τ t:=by
 unfold gu at h;cases τ<;>simp only[dw]at h<;>exact h.1
theorem gu.int{P:Program}{k:IntKind}{t:TypeId}(h:gu P (.int k) t):P.underlying t=some (.int k):=by simp only[gu,dw]at h;exact h.2
theorem gu.bool{P:Program}{t:TypeId}(h:gu P .bool t):P.underlying t=some .bool:=by simp only[gu,dw]at h;exact h.2
theorem gu.str{P:Program}{t:TypeId}(h:gu P .str t):P.underlying t=some .string:=by simp only[gu,dw]at h;exact h.2
theorem gu.slice{P:Program}{e:Ty}{t:TypeId}(h:gu P (.slice e) t): ∃e',P.underlying t=some (.slice e')∧gu P e e':=by simp only[gu,dw]at h;exact h.2
theorem gu.arr{P:Program}{n:Nat}{e:Ty}{t:TypeId}(h:gu P (.arr n e) t): ∃e',P.underlying t=some (.array n e')∧gu P e e':=by simp only[gu,dw]at h;exact h.2
theorem gu.isSome{P:Program}{τ:Ty}{t:TypeId}(h:gu P τ t):(P.underlying t).isSome=true:=by
 unfold gu at h
 cases τ<;>simp only[dw]at h
 ·simp[h.2]
 ·simp[h.2]
 ·simp[h.2]
 ·obtain⟨_,e',h',_⟩:=h;simp[h']
 ·obtain⟨_,e',h',_⟩:=h;simp[h']
 ·obtain⟨_,e',f,h',_⟩:=h;simp[h']
 ·obtain⟨_,e',h',_⟩:=h;simp[h']
inductive wY:(τ:Ty)→τ.den→Nat→(υ:Ty)→υ.den→Nat→Prop where
 |here {a b:Ty} (x:(Ty.pair a b).den):wY (.pair a b) x 0 a x.1 0
 |there {a b:Ty} (x:(Ty.pair a b).den) {n:Nat} {υ:Ty} {y:υ.den} {o:Nat} (h:wY b x.2 n υ y o):wY (.pair a b) x (n+1) υ y (a.size+o)
theorem ob{α:Type}{r:α}: ∀{τ:Ty} {x:τ.den} {n:Nat} {k:(υ:Ty)→υ.den→Option α},rM τ x n k=some r→ ∃υ y o,wY τ x n υ y o∧k υ y=some r
 | .pair a b,x,0,k,h=>⟨a,x.1,0,.here x,h⟩
 | .pair a b,x,n+1,k,h=>by
  obtain⟨υ,y,o,hf,hk⟩:=ob (τ:=b) (x:=x.2) (n:=n) (k:=k) h
  exact⟨υ,y,_,.there x hf,hk⟩
 | .int _,_,_,_,h| .bool,_,_,_,h| .str,_,_,_,h| .slice _,_,_,_,h| .unit,_,_,_,h| .arr _ _,_,_,_,h=>by simp[rM]at h
theorem wY.bound{τ:Ty}{x:τ.den}{n:Nat}{υ:Ty}{y:υ.den}{o:Nat}(h:wY τ x n υ y o):o+υ.size≤τ.size:=by
 induction h with
 |here x=>simp[Ty.size]
 |there x h ih=>simp only[Ty.size];omega
theorem wY.rd{w:World}{M:Nat→Prop}{τ:Ty}{x:τ.den}{n:Nat}{υ:Ty}{y:υ.den}{o:Nat}(h:wY τ x n υ y o):
  ∀{cs:List Value},Rd w M τ cs x→Rd w M υ ((cs.drop o).take υ.size) y:=by
 induction h with
 |here x=>
  intro cs hr
  simp only[Rd]at hr
  obtain⟨c1,c2,rfl,h1,_⟩:=hr
  rw[List.drop_zero,List.take_left' h1.length];exact h1
 |there x h ih=>
  intro cs hr
  simp only[Rd]at hr
  obtain⟨c1,c2,rfl,h1,h2⟩:=hr
  rw[←List.drop_drop,List.drop_left' h1.length]
  exact ih h2
theorem dw.gp{P:Program}{τ:Ty}{x:τ.den}{m:Nat}{υ:Ty}{y:υ.den}{o:Nat}(h:wY τ x m υ y o):
  ∀{fs:Array Field} {n off:Nat},dw P τ (.inr (fs,n,off))→ ∃f,fs[n+m]? =some f∧f.offset=off+o∧gu P υ f.type:=by
 induction h with
 |here x=>
  intro fs n off hl
  simp only[dw]at hl
  obtain⟨f,hf,ho,ha,_⟩:=hl
  exact⟨f,hf,by simpa using ho,ha⟩
 |there x h ih=>
  intro fs n off hl
  simp only[dw]at hl
  obtain⟨f,hf,ho,_,hb⟩:=hl
  obtain⟨f',wZ,ho',DD⟩:=ih hb
  exact⟨f',by rw[←wZ];congr 1;omega,by omega,DD⟩
theorem gu.gp{P:Program}{τ:Ty}{t:TypeId}{x:τ.den}{m:Nat}{υ:Ty}{y:υ.den}{o:Nat}(hl:gu P τ t)(h:wY τ x m υ y o):
  ∃fs f,P.underlying t=some (.struct fs)∧fs[m]? =some f∧f.offset=o∧gu P υ f.type:=by
 unfold gu at hl
 cases h with
 |here x=>
  simp only[dw]at hl
  obtain⟨_,fs,f,hu,hf,ho,ha,_⟩:=hl
  exact⟨fs,f,hu,hf,ho,ha⟩
 |there x h=>
  simp only[dw]at hl
  obtain⟨_,fs,f,hu,hf,ho,_,hb⟩:=hl
  obtain⟨f',wZ,ho',DD⟩:=dw.gp h hb
  exact⟨fs,f',hu,by rw[←wZ];congr 1;omega,by omega,DD⟩
inductive Ca:List Step→(τ:Ty)→τ.den→(υ:Ty)→υ.den→Nat→Prop where
 |nil {τ:Ty} (x:τ.den):Ca [] τ x τ x 0
 |gp {p:List Step} {τ υ σ:Ty} {x:τ.den} {n o:Nat} {y:υ.den} {z:σ.den} {q:Nat} (h:wY τ x n υ y o) (r:Ca p υ y σ z q):Ca (.gp n::p) τ x σ z (o+q)
 |idx {p:List Step} {n:Nat} {e σ:Ty} {x:(Ty.arr n e).den} {i:Nat} {z:σ.den} {q:Nat} (r:Ca p e (List.getD x i e.zero) σ z q):Ca (.idx i::p) (.arr n e) x σ z (i*e.size+q)
theorem fX{α:Type}{r:α}: ∀{p:List Step} {τ:Ty} {x:τ.den} {k:(υ:Ty)→υ.den→Option α},tg p τ x k=some r→ ∃υ y o,Ca p τ x υ y o∧k υ y=some r
 |[],τ,x,k,h=>⟨τ,x,0,.nil x,h⟩
 | .gp n::p,τ,x,k,h=>by
  obtain⟨υ,y,o,hf,h'⟩:=ob (h:rM τ x n _=some r)
  obtain⟨σ,z,q,hp,hk⟩:=fX h'
  exact⟨σ,z,_,.gp hf hp,hk⟩
 | .idx i::p,τ,x,k,h=>by
  cases τ with
  |arr n e=>
   obtain⟨σ,z,q,hp,hk⟩:=fX (p:=p) (τ:=e) (x:=List.getD x i e.zero) (k:=k) h
   exact⟨σ,z,_,.idx hp,hk⟩
  |_=>simp[tg,XH]at h
def pT:Ty→Nat→Ty
 | .pair a b,n=>match n with|0=>a|n+1=>pT b n
 |τ,_=>τ
def ni:Ty→Nat→Nat
 | .pair a b,n=>match n with|0=>0|n+1=>a.size+ni b n
 |_,_=>0
def XJ:Ty→Ty
 | .arr _ e=>e
 |τ=>τ
def Ad:List Step→Ty→Ty
 |[],τ=>τ
 | .gp n::p,τ=>Ad p (pT τ n)
 | .idx _::p,τ=>Ad p (XJ τ)
def bA:List Step→Ty→Nat
 |[],_=>0
 | .gp n::p,τ=>ni τ n+bA p (pT τ n)
 | .idx i::p,τ=>i*(XJ τ).size+bA p (XJ τ)
def rO:List Step→Ty→Prop
 |[],_=>True
 | .gp n::p,τ=>rO p (pT τ n)
 | .idx i::p,τ=>(∃n e,τ= .arr n e∧i<n)∧rO p (XJ τ)
theorem wY.eq{τ:Ty}{x:τ.den}{n:Nat}{υ:Ty}{y:υ.den}{o:Nat}(h:wY τ x n υ y o):υ=pT τ n∧o=ni τ n:=by
 induction h with
 |here x=>exact⟨rfl,rfl⟩
 |there x h ih=>obtain⟨rfl,rfl⟩:=ih;exact⟨rfl,rfl⟩
theorem Ca.eq{p:List Step}{τ:Ty}{x:τ.den}{υ:Ty}{y:υ.den}{o:Nat}(h:Ca p τ x υ y o):υ=Ad p τ∧o=bA p τ:=by
 induction h with
 |nil x=>exact⟨rfl,rfl⟩
 |gp h r ih=>
  obtain⟨h1,h2⟩:=h.eq
  obtain⟨h3,h4⟩:=ih
  subst h1 h2 h3 h4
  exact⟨rfl,rfl⟩
 |idx r ih=>
  obtain⟨h3,h4⟩:=ih
  subst h3 h4
  exact⟨rfl,rfl⟩
theorem XK(p q:List Step): ∀τ,Ad (p++q) τ=Ad q (Ad p τ):=by
 induction p with
 |nil=>intro τ;rfl
 |cons s p ih=>intro τ;cases s<;>simp[Ad,ih]
theorem ny(p q:List Step): ∀τ,bA (p++q) τ=bA p τ+bA q (Ad p τ):=by
 induction p with
 |nil=>intro τ;simp[bA,Ad]
 |cons s p ih=>intro τ;cases s<;>simp[bA,Ad,ih,Nat.add_assoc]
theorem nz(p q:List Step): ∀τ,rO (p++q) τ↔rO p τ∧rO q (Ad p τ):=by
 induction p with
 |nil=>intro τ;simp[rO,Ad]
 |cons s p ih=>intro τ;cases s<;>simp[rO,Ad,ih,and_assoc]
theorem gv{α:Type}(l:List α)(i:Nat)(d:α)(h:i<l.length):l.getD i d=l[i]:=by simp[List.getD,List.getElem?_eq_getElem h]
theorem th{α:Type}(n:Nat): ∀(l:List (List α)) (i:Nat) (h:i<l.length),(∀j (hj:j<l.length),l[j].length=n)→(l.flatten.drop (i*n)).take n=l[i]
 |a::l,0,_,hn=>by
  have:=hn 0 (by simp)
  simp only[List.getElem_cons_zero]at this
  simp[←this]
 |a::l,i+1,h,hn=>by
  have h0:=hn 0 (by simp)
  simp only[List.getElem_cons_zero]at h0
  rw[List.flatten_cons,Nat.add_mul,Nat.one_mul,Nat.add_comm (i*n) n,←List.drop_drop,List.drop_left' h0]
  exact th n l i (by simpa using h) (fun j hj=>hn (j+1) (by simp;omega))
theorem Rd.idx{w:World}{M:Nat→Prop}{n:Nat}{e:Ty}{cs:List Value}{x:(Ty.arr n e).den}(h:Rd w M (.arr n e) cs x){i:Nat}(hi:i<n):
  Rd w M e ((cs.drop (i*e.size)).take e.size) (List.getD x i e.zero):=by
 simp only[Rd]at h
 obtain⟨hn,Kv,hc,rfl,hr⟩:=h
 rw[th e.size Kv i (by omega) (fun j hj=>(hr j (by omega) hj).length),gv x i e.zero (by omega)]
 exact hr i (by omega) (by omega)
theorem Ca.bound{p:List Step}{τ:Ty}{x:τ.den}{υ:Ty}{y:υ.den}{o:Nat}(h:Ca p τ x υ y o):rO p τ→o+υ.size≤τ.size:=by
 induction h with
 |nil x=>intro _;simp
 |gp h r ih=>
  intro hi
  obtain⟨h1,h2⟩:=h.eq
  subst h1
  have:=ih hi
  have:=h.bound
  omega
 | @idx p n e σ x i z q r ih=>
  intro hi
  obtain⟨⟨n',e',he,ky⟩,iA⟩:=hi
  cases he
  have:=ih iA
  have h2:(i+1)*e.size≤n*e.size:=Nat.mul_le_mul_right _ ky
  rw[Nat.add_mul]at h2
  simp only[Ty.size]
  omega
theorem Ca.rd{w:World}{M:Nat→Prop}{p:List Step}{τ:Ty}{x:τ.den}{υ:Ty}{y:υ.den}{o:Nat}(h:Ca p τ x υ y o):
  rO p τ→ ∀{cs:List Value},Rd w M τ cs x→Rd w M υ ((cs.drop o).take υ.size) y:=by
 induction h with
 |nil x=>intro _ cs hr;rw[List.drop_zero,List.take_of_length_le (by rw[hr.length];exact Nat.le_refl _)];exact hr
 |gp h r ih=>
  intro hi cs hr
  obtain⟨h1,h2⟩:=h.eq
  subst h1
  have:=ih hi (h.rd hr)
  have hb:=Ca.bound r hi
  rw[List.drop_take,List.drop_drop,List.take_take,Nat.min_eq_left (by omega)]at this
  exact this
 | @idx p n e σ x i z q r ih=>
  intro hi cs hr
  obtain⟨⟨n',e',he,ky⟩,iA⟩:=hi
  cases he
  have:=ih iA (hr.idx ky)
  have hb:=Ca.bound r iA
  rw[List.drop_take,List.drop_drop,List.take_take,Nat.min_eq_left (by omega)]at this
  exact this
def df{α:Type}(cs:List α)(o:Nat)(new:List α):List α:=cs.take o++new++cs.drop (o+new.length)
theorem ti{α:Type}{a b:List α}{o:Nat}{new:List α}(h:o+new.length≤a.length):df (a++b) o new=df a o new++b:=by
 unfold df
 rw[List.take_append_of_le_length (by omega),List.drop_append_of_le_length (by omega)]
 simp only[List.append_assoc]
theorem q6{α:Type}{a b:List α}{o:Nat}{new:List α}:df (a++b) (a.length+o) new=a++df b o new:=by
 unfold df
 rw[List.take_append,List.take_of_length_le (by omega),Nat.add_sub_cancel_left,Nat.add_assoc,List.drop_append,List.drop_of_length_le (by omega),Nat.add_sub_cancel_left]
 simp
theorem dU{α:Type}{a:List α}{o:Nat}{new:List α}(h:o+new.length≤a.length):(df a o new).length=a.length:=by
 unfold df;simp;omega
theorem Cb{α:Type}{a:List α}{o i n:Nat}{new:List α}(h:i+n≤o∨o+new.length≤i)(hl:o+new.length≤a.length):((df a o new).drop i).take n=(a.drop i).take n:=by
 apply List.ext_getElem?
 intro j
 simp only[List.getElem?_take,List.getElem?_drop]
 split
 ·rename_i hj
  unfold df
  rcases h with h|h
  ·rw[List.append_assoc,List.getElem?_append_left (by simp;omega),List.getElem?_take,if_pos (by omega)]
  ·rw[List.getElem?_append_right (by simp;omega)]
   simp only[List.length_append,List.length_take,Nat.min_eq_left (show o≤a.length by omega),List.getElem?_drop]
   congr 1;omega
 ·rfl
theorem XL{α:Type}{a:List α}{o:Nat}{new:List α}(hl:o+new.length≤a.length):((df a o new).drop o).take new.length=new:=by
 unfold df
 rw[List.append_assoc,List.drop_left' (by simp;omega),List.take_left' rfl]
theorem DZ{α:Type}{l:List α}{o:Nat}{u:α}(h:l[o]? =some u):df l o [u]=l:=by
 obtain⟨dz,rfl⟩:=List.getElem?_eq_some_iff.1 h
 unfold df
 simp
theorem xH{α:Type}{l:List α}{o:Nat}{u:α}(h:o<l.length):(df l o [u])[o]? =some u:=by
 unfold df
 rw[List.append_assoc,List.getElem?_append_right (by simp;omega)]
 simp[Nat.min_eq_left (Nat.le_of_lt h)]
theorem oc{τ:Ty}: ∀{n:Nat} {a:Ty},B4 τ n=some a→ ∀x:τ.den,∃y o,wY τ x n a y o:=by
 induction τ with
 |pair a b _ Mu=>
  intro n c h x
  cases n with
  |zero=>cases h;exact⟨_,_,.here x⟩
  |succ n=>
   obtain⟨y,o,hf⟩:=Mu (n:=n) (a:=c) h x.2
   exact⟨y,_,.there x hf⟩
 |_=>intro n c h;simp[B4]at h
theorem od: ∀{p:List Step} {τ υ:Ty},ed p τ υ=true→ ∀x:τ.den,∃y o,Ca p τ x υ y o
 |[],τ,υ,h,x=>by
  have h:=of_decide_eq_true h
  subst h
  exact⟨x,0,.nil x⟩
 | .gp n::p,τ,υ,h,x=>by
  unfold ed at h
  split at h
  ·rename_i a ha
   obtain⟨y,o,hf⟩:=oc ha x
   obtain⟨z,q,hp⟩:=od h y
   exact⟨z,_,.gp hf hp⟩
  ·cases h
 | .idx _::_,_,_,h,_=>by simp[ed]at h
theorem gw: ∀{p:List Step} {τ υ:Ty},ed p τ υ=true→rO p τ∧Ad p τ=υ
 |[],τ,υ,h=>⟨trivial,of_decide_eq_true h⟩
 | .gp n::p,τ,υ,h=>by
  have h0:=h
  unfold ed at h
  split at h
  ·rename_i a ha
   obtain⟨y,o,hf⟩:=oc ha τ.zero
   obtain⟨h1,h2⟩:=gw h
   have:=hf.eq.1
   subst this
   exact⟨h1,h2⟩
  ·cases h
 | .idx _::_,_,_,h=>by simp[ed]at h
theorem u5: ∀{p q:List Step},DP p q=true→p=q
 |[],[],_=>rfl
 | .gp a::p,.gp b::q,h=>by
  simp only[DP,Bool.and_eq_true]at h
  rw[Nat.eq_of_beq_eq_true h.1,u5 h.2]
 |[],_::_,h| .gp _::_,[],h| .idx _::_,_,h| .gp _::_,.idx _::_,h=>by simp[DP]at h
theorem wY.apart{τ:Ty}{x:τ.den}{n:Nat}{υ:Ty}{y:υ.den}{o:Nat}(h:wY τ x n υ y o): ∀{x':τ.den} {n':Nat} {υ':Ty} {y':υ'.den} {o':Nat},wY τ x' n' υ' y' o'→n≠n'→o+υ.size≤o'∨o'+υ'.size≤o:=by
 induction h with
 |here x=>
  intro x' n' υ' y' o' h' g7
  cases h' with
  |here=>exact absurd rfl g7
  |there _ h'=>left;omega
 |there x h ih=>
  intro x' n' υ' y' o' h' g7
  cases h' with
  |here=>right;omega
  |there _ h'=>rcases ih h' (fun e=>g7 (by rw[e]))with h1|h1<;>omega
theorem Ca.apart{p:List Step}{τ:Ty}{x:τ.den}{υ:Ty}{y:υ.den}{o:Nat}(h:Ca p τ x υ y o):rO p τ→ ∀{q:List Step} {e:Ty},ed q τ (.slice e)=true→rL p q=false→bA q τ<o∨o+υ.size≤bA q τ:=by
 induction h with
 |nil x=>intro _ q e _ h;simp[rL]at h
 | @gp p τ υ σ x n o y z q hf r ih=>
  intro hi q' e hq hp
  obtain⟨h1,h2⟩:=hf.eq
  subst h1 h2
  cases q' with
  |nil=>
   have:=of_decide_eq_true hq
   subst this
   cases hf
  |cons s q'=>
   cases s with
   |idx i=>simp[ed]at hq
   |gp m=>
    unfold ed at hq
    split at hq
    ·rename_i a ha
     obtain⟨y',o',wZ⟩:=oc ha x
     obtain⟨h3,h4⟩:=wZ.eq
     subst h3 h4
     have hb:=r.bound hi
     obtain⟨h5,h6⟩:=gw hq
     obtain⟨z',o2,AV⟩:=od hq y'
     have dq:=AV.bound h5
     have ho2:=AV.eq.2
     subst ho2
     simp only[bA]
     by_cases hnm:n=m
     ·subst hnm
      have Ae:rL p q'=false:=by
       simp only[rL,Bool.and_eq_false_iff]at hp
       rcases hp with hp|hp
       ·rw[Nat.beq_refl]at hp;cases hp
       ·exact hp
      rcases ih hi hq Ae with h7|h7<;>omega
     ·rcases hf.apart wZ hnm with h7|h7
      ·right;omega
      ·left
       have:1≤(Ty.slice e).size:=Nat.le_refl _
       omega
    ·cases hq
 | @idx p n e' σ x i z q r ih=>
  intro hi q' e hq hp
  cases q' with
  |nil=>have:=of_decide_eq_true hq;cases this
  |cons s q'=>
   cases s with
   |idx i=>simp[ed]at hq
   |gp m=>simp[ed,B4]at hq
def dX:Value→Option Nat
 | .pointer (some a)=>some a.block
 | .slice (some a) _ cap=>if cap=0 then none else some a.block
 |_=>none
def aN.mut:aN→Prop
 | .obj _ _| .own _ _| .dK _ _ _ _=>True
 |_=>False
def ER(w:World)(M:Nat→Prop)(v:Value):aN→Prop
 | .obj τ x=> ∃b cs t,v= .pointer (some ⟨b,0,none⟩)∧w.heap[b]? =some (.cells cs t (0,0))∧M b∧Rd w M τ cs.toList x
 | .dK τ x p _=> ∃b cs t nA u,v= .pointer (some ⟨b,0,none⟩)∧w.heap[b]? =some (.cells cs t (0,0))∧M b∧Rd w M τ nA x∧cs.toList=df nA (bA p τ) [u]∧u.oneCell'=true∧ ∃e,ed p τ (.slice e)=true
 | .own e l=>(l=[]∧ ∃a,v= .slice a 0 0)∨
  ∃b cs t cap,v= .slice (some ⟨b,0,none⟩) l.length cap∧w.heap[b]? =some (.cells cs t (0,0))∧M b∧0<cap∧l.length≤cap∧cap≤maxLen∧cs.size=cap*e.size∧
   ∀i (h:i<l.length),Rd w M e ((cs.toList.drop (i*e.size)).take e.size) l[i]
 | .kg e l=>Rd w M (.slice e) [v] l∧((l=[]∧ ∃a n c,v= .slice a n c)∨ ∃b n c,v= .slice (some ⟨b,0,none⟩) n c)
 | .gone=>True
def AR(v:Value)(p:List Step)(u:Value):aN→Prop
 | .obj τ _| .dK τ _ _ _=>rO p τ∧ ∃b,v= .pointer (some ⟨b,0,none⟩)∧u= .pointer (some ⟨b,bA p τ,none⟩)
 | .own e l| .kg e l=> ∃i q,p= .idx i::q∧i<l.length∧rO q e∧ ∃b n c,v= .slice (some ⟨b,0,none⟩) n c∧u= .pointer (some ⟨b,i*e.size+bA q e,none⟩)
 | .gone=> ∃a,u= .pointer (some a)
mutual
def VR(w:World)(M:Nat→Prop)(H:Nat→Option aN)(ν:Nat→Value):aV→Value→Prop
 | .any,_=>True
 | .Ms,v=>v=undef
 | .val τ x,v=>V w M τ v x
 | .B5 τ x n,v=>V w M τ v x∧ ∃cs a,v= .agg cs∧cs.toList[ni τ n]? =some (.slice a 0 0)
 | .emp,v=> ∃a,v= .slice a 0 0
 | .ref id,v=>H id≠none∧v=ν id
 | .fA id p,v=> ∃e,H id=some e∧AR (ν id) p v e
 | .me τ x,v=> ∃b off,v= .pointer (some ⟨b,off,none⟩)∧b<w.heap.size∧ ¬M b∧ ∃cs,At w b off cs∧Rd w M τ cs x
 | .tup vs,v=> ∃us:List Value,v= .tuple us.toArray∧fC w M H ν vs us
 | .DQ f caps,v=> ∃cs:List Value,v= .func (.func f) #[] cs.toArray∧fC w M H ν caps cs
def fC(w:World)(M:Nat→Prop)(H:Nat→Option aN)(ν:Nat→Value):List aV→List Value→Prop
 |[],[]=>True
 |a::as,v::vs=>VR w M H ν a v∧fC w M H ν as vs
 |_,_=>False
end
def aN.g8:aN→aN→Prop
 | .obj τ _,.obj υ _| .obj τ _,.dK υ _ _ _| .dK τ _ _ _,.obj υ _| .dK τ _ _ _,.dK υ _ _ _=>τ=υ
 | .own e l,.own f k| .own e l,.kg f k| .kg e l,.kg f k=>e=f∧l.length=k.length
 |_,.gone=>True
 |_,_=>False
structure nT(H:Nat→Option aN)(ν:Nat→Value)(H':Nat→Option aN)(ν':Nat→Value):Prop where
 iJ: ∀i e,H i=some e→ ∃e',H' i=some e'∧e.g8 e'
 head: ∀i,H i≠none→ν' i=ν i
theorem AR.ptr{v:Value}{p:List Step}{u:Value}{e:aN}(h:AR v p u e): ∃a,u= .pointer (some a):=by
 cases e<;>simp only[AR]at h
 ·obtain⟨_,b,_,h⟩:=h;exact⟨_,h⟩
 ·obtain⟨_,b,_,h⟩:=h;exact⟨_,h⟩
 ·obtain⟨i,q,_,_,_,b,n,c,_,h⟩:=h;exact⟨_,h⟩
 ·obtain⟨i,q,_,_,_,b,n,c,_,h⟩:=h;exact⟨_,h⟩
 ·exact h
theorem AR.g8{v:Value}{p:List Step}{u:Value}{e e':aN}(h:AR v p u e)(l:e.g8 e'):AR v p u e':=by
 have hp:=h.ptr
 cases e<;>cases e'<;>simp only[aN.g8]at l<;>simp only[AR]at h ⊢ <;>try exact hp
 ·subst l;exact h
 ·subst l;exact h
 ·subst l;exact h
 ·subst l;exact h
 ·obtain⟨rfl,hl⟩:=l;obtain⟨i,q,hp,hi,r⟩:=h;exact⟨i,q,hp,by omega,r⟩
 ·obtain⟨rfl,hl⟩:=l;obtain⟨i,q,hp,hi,r⟩:=h;exact⟨i,q,hp,by omega,r⟩
 ·obtain⟨rfl,hl⟩:=l;obtain⟨i,q,hp,hi,r⟩:=h;exact⟨i,q,hp,by omega,r⟩
theorem aN.g8.refl(e:aN):e.g8 e:=by cases e<;>simp[aN.g8]
theorem nT.refl(H:Nat→Option aN)(ν:Nat→Value):nT H ν H ν:=⟨fun _ e h=>⟨e,h,.refl e⟩,fun _ _=>rfl⟩
mutual
theorem VR.bB{w w':World}{M M':Nat→Prop}{H H':Nat→Option aN}{ν ν':Nat→Value}(k:dd w M w' M')(g:nT H ν H' ν'):
  ∀{a:aV} {v:Value},VR w M H ν a v→VR w' M' H' ν' a v
 | .any,_,_=>by simp[VR]
 | .Ms,_,h=>by simpa [VR]using h
 | .val τ x,v,h=>by simp only[VR]at h ⊢;exact h.bB k
 | .B5 τ x n,v,h=>by simp only[VR]at h ⊢;exact⟨h.1.bB k,h.2⟩
 | .emp,_,h=>by simpa [VR]using h
 | .ref id,_,h=>by
  simp only[VR]at h ⊢
  obtain⟨h1,h2⟩:=h
  obtain⟨e,he⟩:=Option.ne_none_iff_exists'.1 h1
  obtain⟨e',sd,_⟩:=g.iJ id e he
  exact⟨by simp[sd],by rw[g.head id h1];exact h2⟩
 | .fA id p,_,h=>by
  simp only[VR]at h ⊢
  obtain⟨e,he,ha⟩:=h
  obtain⟨e',sd,hl⟩:=g.iJ id e he
  exact⟨e',sd,by rw[g.head id (by simp[he])];exact ha.g8 hl⟩
 | .me τ x,_,h=>by
  simp only[VR]at h ⊢
  obtain⟨b,off,rfl,hb,hm,cs,ha,hr⟩:=h
  exact⟨b,off,rfl,Nat.lt_of_lt_of_le hb k.size,fun h'=>hm (k.less b hb h'),cs,ha.bB (k.block b hb hm),hr.bB k⟩
 | .tup vs,_,h=>by
  simp only[VR]at h ⊢
  obtain⟨us,rfl,h⟩:=h
  exact⟨us,rfl,fC.bB k g h⟩
 | .DQ f caps,_,h=>by
  simp only[VR]at h ⊢
  obtain⟨us,rfl,h⟩:=h
  exact⟨us,rfl,fC.bB k g h⟩
theorem fC.bB{w w':World}{M M':Nat→Prop}{H H':Nat→Option aN}{ν ν':Nat→Value}(k:dd w M w' M')(g:nT H ν H' ν'):
  ∀{as:List aV} {vs:List Value},fC w M H ν as vs→fC w' M' H' ν' as vs
 |[],[],_=>by simp[fC]
 |a::as,v::vs,h=>by simp only[fC]at h ⊢;exact⟨VR.bB k g h.1,fC.bB k g h.2⟩
 |[],_::_,h=>by simp[fC]at h
 |_::_,[],h=>by simp[fC]at h
end
end VM
end
