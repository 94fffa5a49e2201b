/- A part of the proof of HedgeDrawn of layer 22: a machine that reads a function of the program as an equation between values. -/
import Derived.Test.YtocmlaipoebfeaaGreatVm6
import Derived.KernelRfl
import Derived.Test.YtocmlaipoebfeaaGreatVm0
import Derived.Laws.Externs
import Derived.Shelf.Spec.SlicesInsertGrow
set_option linter.all false
section
namespace VM
open Go
@[reducible] def CM.arr:CM→Type→Type
 | .v τ,T| .obj τ,T| .io τ,T| .fn _ τ,T=>τ.den→T
 | .own e,T=>List e.den→T
 | .ed τ _ e,T=>τ.den→List e.den→T
 | .same _,T=>T
@[reducible] def Pv:List (Nat×CM)→Type→Type
 |[],R=>R
 |q::r,R=>q.2.arr (Pv r R)
def CM.lam{T:Type}(s:Nat)(σ:St):(m:CM)→(St→T)→m.arr T
 | .v τ,f=>fun x=>f (σ.put s (.val τ x))
 | .own e,f=>fun x=>f ((σ.put s (.ref (16*s+14))).il (16*s+14) (some (.own e x)))
 | .obj τ,f=>fun x=>f ((σ.put s (.fR (16*s+14) [])).il (16*s+14) (some (.obj τ x)))
 | .ed τ q e,f=>fun x l=>f (((σ.put s (.fR (16*s+14) [])).il (16*s+13) (some (.own e l))).il (16*s+14) (some (.ed τ x q (16*s+13))))
 | .io τ,f=>fun x=>f ((σ.put s (.fR (16*s+15) [])).il (16*s+15) (some (.obj τ x)))
 | .fn g τ,f=>fun x=>f (σ.put s (.F8 g (mM τ x)))
 | .same s',f=>f (σ.put s (σ.T s'))
def ahq{R:Type}(κ:St→R):(L:List (Nat×CM))→St→Pv L R
 |[],σ=>κ σ
 |q::r,σ=>q.2.lam q.1 σ (ahq κ r)
@[reducible] def uc:List AM→Type→Type
 |[],R=>R
 |m::r,R=>m.den→uc r R
def Ck{R:Type}:(ms:List AM)→uc ms R→HP ms→R
 |[],g,_=>g
 |[_],g,x=>g x
 |_::n::ms,g,x=>Ck (n::ms) (g x.1) x.2
def NZ{R:Type}:(ms:List AM)→(HP ms→R)→uc ms R
 |[],f=>f ()
 |[_],f=>f
 |_::n::ms,f=>fun x=>NZ (n::ms) fun y=>f (x,y)
theorem EC{R:Type}: ∀(ms:List AM) (f:HP ms→R) (x:HP ms),Ck ms (NZ ms f) x=f x
 |[],_,()=>rfl
 |[_],_,_=>rfl
 |_::n::ms,f,x=>EC (n::ms) (fun y=>f (x.1,y)) x.2
structure Pc where
 k:Nat
 c:List (Nat×CM)
 path:List Nat
 ks:List Nat
def Qy:List Pc→Nat→Pc
 |[],_=>⟨0,[],[],[]⟩
 |p::r,k=>cond (Nat.beq k p.k) p (Qy r k)
def GZ:List Pc→Nat→Option (List (Nat×CM))
 |[],_=>none
 |p::r,k=>cond (Nat.beq k p.k) (some p.c) (GZ r k)
def wN:List (Nat×iz)→Nat→List iz
 |[],_=>[]
 |q::r,i=>cond (Nat.beq i q.1) (q.2::wN r i) (wN r i)
def Cl:List AM→Nat→List Nat
 |[],_=>[]
 | .io _::r,i=>i::Cl r (i+1)
 |_::r,i=>Cl r (i+1)
structure Fx where
 nt:Nat
 tab:List (Nat×Ty)
 G:List (Nat×iz)
 N:Nat
 fn:Func
 args:List AM
 res:List AM
 Z4:List Pc
 lk:Option (Ty×List Step×Ty×List Nat):=none
namespace Fx
variable(X:Fx)
abbrev R:=Option (HP X.res)
def E:Env:={nt:=X.nt,ty:=fun i=>GY i X.tab,Γ:=wN X.G,N:=X.N,rD:=fun r=>GZ X.Z4 (2*r+1),s9:=fun r=>GZ X.Z4 (2*r),io:=Cl X.args 0,lk:=X.lk}
@[reducible] def c(i:Nat):List (Nat×CM):=(Qy X.Z4 i).c
def path(i:Nat):List Nat:=(Qy X.Z4 i).path
def odd(i:Nat):Bool:=Nat.beq (i%2) 1
def cut(ρ:Nat→St→X.R)(l:Nat):St→X.R:=fun σ=>rH (some (X.c l)) σ (ρ l)
def ks(ρ:Nat→St→X.R)(i:Nat):List (St→X.R):=(Qy X.Z4 i).ks.map (X.cut ρ)
noncomputable def lp(ρ:Nat→St→X.R)(i n:Nat):St→X.R:=lpF X.E X.fn X.args X.res (X.c i) (X.path i) (X.ks ρ i) n
noncomputable def bm(ρ:Nat→St→X.R)(i:Nat):St→X.R:=cond (odd i) (X.lp ρ i X.N) (atF X.E X.fn X.args X.res (X.path i) (X.ks ρ i))
def own(ρ:Nat→St→X.R)(i:Nat):List (St→X.R):=X.ks ρ i++cond (odd i) [X.cut ρ i] []
noncomputable def at'(K ρ:Nat→St→X.R)(i:Nat):St→X.R:=atQ X.E X.fn X.args X.res (fun r=>K (2*r)) (fun r=>K (2*r+1)) (X.path i) (X.own ρ i)
noncomputable def tl(K ρ:Nat→St→X.R)(i:Nat):List ((St→X.R)×(St→X.R)):=rV X.E (fun r=>K (2*r)) (fun r=>K (2*r+1)) (T5 X.E X.fn X.args X.res (X.path i) (X.own ρ i))
@[reducible] def cu(i:Nat)(κ:St→X.R):Pv (X.c i) X.R:=ahq κ (X.c i) S0
@[reducible] noncomputable def bd(K ρ:Nat→St→X.R)(i:Nat):Pv (X.c i) X.R:=X.cu i (X.at' K ρ i)
@[reducible] def kc(ρ:Nat→St→X.R)(i:Nat):Pv (X.c i) X.R:=X.cu i (ρ i)
def xN:Nat→St→X.R:=fun _ _=>none
noncomputable def top(K:Nat→St→X.R):uc X.args X.R:=NZ X.args fun x=>atQ X.E X.fn X.args X.res (fun r=>K (2*r)) (fun r=>K (2*r+1)) [] [] (entry X.args x 0 S0)
noncomputable def tlT(K:Nat→St→X.R):List ((St→X.R)×(St→X.R)):=rV X.E (fun r=>K (2*r)) (fun r=>K (2*r+1)) (T5 X.E X.fn X.args X.res [] [])
noncomputable def S(q:Bool)(g:uc X.args X.R):iz:={args:=X.args,res:=X.res,quiet:=q,run:=Ck X.args g}
variable{X}
theorem T6(f:Nat→St→X.R): ∀ou:List Nat,NX (ou.map fun t=>(f t,f t))
 |[]=>trivial
 |_::r=>⟨rfl,T6 f r⟩
theorem okJ{i:Nat}(ou:List Nat)(hi:odd i=false)(hr: ∀K ρ,X.tl K ρ i=ou.map fun t=>(K t,X.bm ρ t)){g:(Nat→St→X.R)→(Nat→St→X.R)→Pv (X.c i) X.R}(h: ∀K ρ,X.bd K ρ i=g K ρ)(ρ:Nat→St→X.R):X.kc (X.bm ρ) i=g (X.bm ρ) ρ:=by
 rw[←h]
 have:X.bm ρ i=X.at' (X.bm ρ) ρ i:=by
  funext σ
  have h1:=hr (X.bm ρ) ρ
  unfold tl own at h1
  rw[hi,cond_false,List.append_nil]at h1
  unfold at' own
  rw[hi,cond_false,List.append_nil]
  rw[←at_eq X.E X.fn X.args X.res h1 (T6 (X.bm ρ) ou) σ]
  unfold bm;rw[hi];rfl
 unfold kc bd
 rw[this]
def okb(X:Fx)(i:Nat):Bool:=odd i&&(Qy X.Z4 i).ks.all fun l=> !(Nat.beq l i)
theorem okL{i:Nat}(ou:List Nat)(hi:okb X i=true)(hr: ∀K ρ,X.tl K ρ i=ou.map fun t=>(K t,X.bm ρ t)){g:(Nat→St→X.R)→(Nat→St→X.R)→Pv (X.c i) X.R}(h: ∀K ρ,X.bd K ρ i=g K ρ)(ρ:Nat→St→X.R)
  (G:Nat→Pv (X.c i) X.R) (h0:X.cu i (fun _=>none)=G 0) (hs: ∀n ρ',X.kc ρ' i=G n→(∀l,Nat.beq l i=false→X.kc ρ' l=X.kc ρ l)→g (X.bm ρ') ρ'=G (n+1)):X.kc (X.bm ρ) i=G X.N:=by
 unfold okb at hi
 rw[Bool.and_eq_true]at hi
 obtain⟨hi,hk⟩:=hi
 have key: ∀n,X.cu i (X.lp ρ i n)=G n:=by
  intro n
  induction n with
  |zero=>exact h0
  |succ n ih=>
   let ρ':Nat→St→X.R:=fun l=>cond (Nat.beq l i) (X.lp ρ i n) (ρ l)
   have e1:ρ' i=X.lp ρ i n:=by show cond (Nat.beq i i) _ _=_;rw[Nat.beq_refl];rfl
   have e2: ∀l,Nat.beq l i=false→ρ' l=ρ l:=fun l hl=>by show cond (Nat.beq l i) _ _=_;rw[hl];rfl
   rw[←hs n ρ' (by unfold kc;rw[e1];exact ih) (fun l hl=>by unfold kc;rw[e2 l hl]),←h]
   have e3:X.ks ρ' i=X.ks ρ i:=by
    unfold ks
    refine List.map_congr_left fun l hl=> ?_
    have:=List.all_eq_true.1 hk l hl
    unfold cut
    rw[e2 l (by simpa using this)]
   have:X.lp ρ i (n+1)=X.at' (X.bm ρ') ρ' i:=by
    funext σ
    have h1:=hr (X.bm ρ') ρ'
    unfold tl own at h1
    rw[hi,cond_true]at h1
    unfold at' own
    rw[hi,cond_true]
    rw[←at_eq X.E X.fn X.args X.res h1 (T6 (X.bm ρ') ou) σ]
    unfold lp
    rw[Qu,e3]
    unfold cut
    rw[e1];rfl
   unfold bd
   rw[this]
 have:X.bm ρ i=X.lp ρ i X.N:=by unfold bm;rw[hi];rfl
 unfold kc
 rw[this];exact key _
def ED(P:Program):List (Nat×iz)→Prop
 |[]=>True
 |q::r=>fc P q.1 q.2∧ED P r
structure _root_.VM.Kn(P:Program) where
 f:Nat
 S:iz
 ok:fc P f S
def _root_.VM.Kn.p{P:Program}(k:Kn P):Nat×iz:=(k.f,k.S)
def _root_.VM.Kn.l{P:Program}:List (Kn P)→List (Nat×iz)
 |[]=>[]
 |k::r=>k.p::Kn.l r
theorem _root_.VM.Kn.all{P:Program}: ∀l:List (Kn P),ED P (Kn.l l)
 |[]=>trivial
 |k::r=>⟨k.ok,Kn.all r⟩
theorem wO{P:Program}: ∀{l:List (Nat×iz)},ED P l→ ∀f S,S∈wN l f→fc P f S
 |[],_,f,S,h=>by simp[wN]at h
 |q::r,ha,f,S,h=>by
  unfold wN at h
  cases hb:Nat.beq f q.1<;>rw[hb]at h
  ·exact wO ha.2 f S h
  ·rcases List.mem_cons.1 h with rfl|h
   ·rw[Nat.eq_of_beq_eq_true hb];exact ha.1
   ·exact wO ha.2 f S h
theorem Aq: ∀{l:List Pc},(l.all fun p=>gA p.c)=true→ ∀i L,GZ l i=some L→gA L=true
 |q::r,ha,i,L,h=>by
  rw[List.all_cons,Bool.and_eq_true]at ha
  unfold GZ at h
  cases hb:Nat.beq i q.k<;>rw[hb]at h
  ·exact Aq ha.2 i L h
  ·cases h;exact ha.1
def chk(X:Fx)(q:Bool):Bool:=(X.Z4.all fun p=>gA p.c)&&((!(X.fn.name== "runtime.NumGoroutine")&&Nat.beq X.nt X.fn.ntmps)&&(X.fn.body.isSome&&(Nat.ble X.args.length X.nt&&((!q||X.res.all AM.flat)&&decide (lI X.args=lI X.res)))))
theorem G0: ∀{ms:List AM} {k i:Nat} {m:AM},ms[i]? =some m→m.fU=true→k+i∈Cl ms k
 |[],_,_,_,h,_=>by simp at h
 |m::ms,k,0,m',h,sM=>by
  simp only[List.getElem?_cons_zero,Option.some.injEq]at h
  subst h
  cases m<;>simp[AM.fU]at sM
  simp[Cl]
 |m::ms,k,i+1,m',h,sM=>by
  have:=G0 (ms:=ms) (k:=k+1) (i:=i) (by simpa using h) sM
  rw[show k+(i+1)=k+1+i from by omega]
  cases m<;>simp only[Cl]<;>first|exact List.mem_cons_of_mem _ this|exact this
theorem Mt: ∀{ms:List AM} {k i:Nat},i∈Cl ms k→i<k+ms.length
 |[],_,_,h=>by simp[Cl]at h
 |m::ms,k,i,h=>by
  have hr:i∈Cl ms (k+1)→i<k+(m::ms).length:=fun h=>by have:=Mt h;simp only[List.length_cons];omega
  cases m<;>simp only[Cl]at h<;>first
   |exact hr h
   |(rcases List.mem_cons.1 h with rfl|h<;>first|exact hr h|(simp only[List.length_cons];omega))
variable(X)in
theorem G1{P:Program}(ht:Ap P X.tab)(hG:ED P X.G)(hc:(X.Z4.all fun p=>gA p.c)=true):oN P X.E:=by
 have gW: ∀t τ,GY t X.tab=some τ→pH P τ (.inl t)=true∧T3 P τ t=true:=fun t τ h=>by
  have:=List.all_eq_true.1 ht.ok _ (C1 h)
  simpa using this
 exact{ty:=fun t τ h=>eE (gW t τ h).1,eq:=fun t τ h hc ha=>T4 (eE (gW t τ h).1) (gW t τ h).2 hc ha,ag3:=wO hG,mixed:=ht.mixed,gA:=fun i L h=>Aq hc _ L h,P3:=fun i L h=>Aq hc _ L h}
theorem mkS{P:Program}(ht:Ap P X.tab){f:FuncId}(hf:P.funcs[f]? =some X.fn){q:Bool}(hc:chk X q=true)(hG:ED P X.G){g:uc X.args X.R}(h: ∀x,Gh X.E X.fn X.args X.res x=Ck X.args g x):fc P f (X.S q g):=by
 unfold chk at hc
 simp only[Bool.and_eq_true]at hc
 obtain⟨h0,⟨h1,h2⟩,h3,h4,h5,h6⟩:=hc
 refine Ql (G1 X ht hG h0) hf (by simpa using h1) (Nat.eq_of_beq_eq_true h2) (X.S q g) (fun i m hm sM=> ?_) (fun i hi=> ?_) ?_ (fun hq=> ?_) (of_decide_eq_true h6) h
 ·have:=G0 (k:=0) hm sM
  rwa [Nat.zero_add]at this
 ·have:=Mt (k:=0) hi
  rwa [Nat.zero_add]at this
 ·have:=Nat.le_of_ble_eq_true h4
  rwa [Nat.eq_of_beq_eq_true h2]at this
 ·have hq:q=true:=hq
  subst hq
  show X.res.all AM.flat=true
  simpa using h5
theorem abX{g:uc X.args X.R}(h:NZ X.args (Gh X.E X.fn X.args X.res)=g)(x:HP X.args):Gh X.E X.fn X.args X.res x=Ck X.args g x:=by rw[←h,EC]
variable(X)in
theorem ok0{P:Program}(ht:Ap P X.tab){f:FuncId}(hf:P.funcs[f]? =some X.fn){q:Bool}(hc:chk X q=true)(hG:ED P X.G){g:uc X.args X.R}(h:NZ X.args (Gh X.E X.fn X.args X.res)=g):fc P f (X.S q g):=
 mkS ht hf hc hG (abX h)
theorem abY(hb:X.fn.body.isSome=true)(ou:List Nat)(hr: ∀K,X.tlT K=ou.map fun t=>(K t,X.bm X.xN t))
  {g:(Nat→St→X.R)→uc X.args X.R} (h: ∀K,X.top K=g K) {f:uc X.args X.R} (hf:g (X.bm X.xN)=f) (x:HP X.args):Gh X.E X.fn X.args X.res x=Ck X.args f x:=by
 rw[←hf,←h,abU hb]
 unfold top
 rw[EC]
 exact at_eq X.E X.fn X.args X.res (hr (X.bm X.xN)) (T6 (X.bm X.xN) ou) _
variable(X)in
theorem ok1{P:Program}(ht:Ap P X.tab){f:FuncId}(hf:P.funcs[f]? =some X.fn){q:Bool}(hc:chk X q=true)(hG:ED P X.G)(ou:List Nat)(hr: ∀K,X.tlT K=ou.map fun t=>(K t,X.bm X.xN t))
  {g:(Nat→St→X.R)→uc X.args X.R} (h: ∀K,X.top K=g K) {f':uc X.args X.R} (yC:g (X.bm X.xN)=f'):fc P f (X.S q f'):=by
 have hb:X.fn.body.isSome=true:=by
  unfold chk at hc
  simp only[Bool.and_eq_true]at hc
  exact hc.2.2.1
 exact mkS ht hf hc hG (abY hb ou hr h yC)
theorem uJ{i:Nat}(ou:List Nat){g:(Nat→St→X.R)→(Nat→St→X.R)→Pv (X.c i) X.R}(h: ∀K ρ,X.bd K ρ i=g K ρ)(ρ:Nat→St→X.R){f:Pv (X.c i) X.R}(hf:g (X.bm ρ) ρ=f:=by rfl)
 (hi:odd i=false:=by kernel_rfl) (hr: ∀K ρ,X.tl K ρ i=ou.map fun t=>(K t,X.bm ρ t):=by intro K ρ;kernel_rfl):X.kc (X.bm ρ) i=f:=(okJ ou hi hr h ρ).trans hf
theorem uL{i:Nat}(ou:List Nat){g:(Nat→St→X.R)→(Nat→St→X.R)→Pv (X.c i) X.R}(h: ∀K ρ,X.bd K ρ i=g K ρ)(ρ:Nat→St→X.R)
 (G:Nat→Pv (X.c i) X.R) (hs: ∀n ρ',X.kc ρ' i=G n→(∀l,Nat.beq l i=false→X.kc ρ' l=X.kc ρ l)→g (X.bm ρ') ρ'=G (n+1)) (h0:X.cu i (fun _=>none)=G 0:=by rfl)
 (hi:okb X i=true:=by kernel_rfl) (hr: ∀K ρ,X.tl K ρ i=ou.map fun t=>(K t,X.bm ρ t):=by intro K ρ;kernel_rfl):X.kc (X.bm ρ) i=G X.N:=okL ou hi hr h ρ G h0 hs
variable(X)in
theorem u0{P:Program}(ht:Ap P X.tab){f:FuncId}(hf:P.funcs[f]? =some X.fn){q:Bool}{g:uc X.args X.R}(hG:ED P X.G:=by first|exact trivial|exact Kn.all _)(hc:chk X q=true:=by kernel_rfl)(h:NZ X.args (Gh X.E X.fn X.args X.res)=g:=by kernel_rfl):fc P f (X.S q g):=ok0 X ht hf hc hG h
variable(X)in
theorem u1{P:Program}(ht:Ap P X.tab){f:FuncId}(hf:P.funcs[f]? =some X.fn)(ou:List Nat)
 {g:(Nat→St→X.R)→uc X.args X.R} (h: ∀K,X.top K=g K) {q:Bool} {f':uc X.args X.R} (yC:g (X.bm X.xN)=f':=by rfl) (hG:ED P X.G:=by first|exact trivial|exact Kn.all _) (hc:chk X q=true:=by kernel_rfl) (hr: ∀K,X.tlT K=ou.map fun t=>(K t,X.bm X.xN t):=by intro K;kernel_rfl):fc P f (X.S q f'):=ok1 X ht hf hc hG ou hr h yC
end Fx
end VM
end
section
namespace VM
open Go
variable{P:Program}
theorem Left.same(w:World)(M0:Nat→Prop)(h: ∀b,M0 b→b<w.heap.size):Left w M0 [] w M0:=
 ⟨fun _ h=>h,h,fun _ _ h=> .inl h,fun _ _ _=>rfl,Nat.le_refl _,rfl,rfl,rfl⟩
theorem ahr{w:World}{M:Nat→Prop}{a b c:IntKind}{x:HP [.v (.int a),.v (.int b),.v (.int c)]}{vs:List Value}(h:gl w M [.v (.int a),.v (.int b),.v (.int c)] x vs):vs=[.int a x.1,.int b x.2.1,.int c x.2.2]:=by
 simp only[gl,A1,V,Ty.isAgg,Bool.false_eq_true,if_false,Rd,List.cons.injEq,and_true]at h
 obtain⟨v,vs,rfl,rfl,v,vs,rfl,rfl,v,vs,rfl,rfl,rfl⟩:=h
 rfl
theorem rr2{w:World}{M:Nat→Prop}{a b:IntKind}(x y:Int):RR w M [.v (.int a),.v (.int b)] (x,y) [.int a x,.int b y] []:=by
 simp only[RR]
 refine .inr ⟨_,_,rfl,rfl,rfl,?_,.inr ⟨_,_,rfl,rfl,rfl,?_,rfl,trivial⟩⟩<;>simp[A1,V,Ty.isAgg,Rd,rz,wv]
theorem Mu{f:FuncId}(run:Int×Int×Int→Option (Int×Int))
  (h: ∀(w:World) (a b c u v:Int),run (a,b,c)=some (u,v)→(callFunc f #[.int .u64 a,.int .u64 b,.int .u64 c]).run P w= .ok (.value (.tuple #[.int .u64 u,.int .u64 v])) w):
  fc P f {args:=[.v (.int .u64),.v (.int .u64),.v (.int .u64)],res:=[.v (.int .u64),.v (.int .u64)],quiet:=true,run}:=by
 refine⟨fun _=>rfl,rfl,fun M0 w vs x y mV hA _ _ hy=> ?_⟩
 have TC:=ahr hA
 subst TC
 exact Cd (h w x.1 x.2.1 x.2.2 y.1 y.2 hy) ⟨_,M0,rfl,rr2 y.1 y.2,Left.same w M0 mV,List.nodup_nil,fun b hb=>by cases hb⟩
theorem wP(nm:String)(a b c:Nat)(h:c≤1)(w:World):(Extern.MathBitsCarry.three nm #[.int .u64 a,.int .u64 b,.int .u64 c]).run P w= .ok (a,b,c) w:=by
 have h5: ¬(1<c):=by omega
 have:Extern.MathBitsCarry.three nm #[.int .u64 a,.int .u64 b,.int .u64 c]=(do
  let c:=(←asInt (.int .u64 c)).toNat
  if c>1 then unsupported (.noEntry ("extern/math/bits." ++nm++ ": a carry that is neither 0 nor 1"))
  pure ((←asInt (.int .u64 a)).toNat,(←asInt (.int .u64 b)).toNat,c)):=rfl
 rw[this]
 simp[asInt,asIntOf]
 omega
theorem N0{f:FuncId}{fn:Func}(N:Nat)(hf:P.funcs[f]? =some fn)(vi:(fn.name== "runtime.NumGoroutine")=false)(hb:fn.body.isNone=true)(hn:Extern.findNext fn=none)
  (he:Extern.find fn=(Extern.MathBitsCarry.rows[0]?).map (·.2)):fc P f (oC.S N):=by
 refine Mu (fun x=>oC N x.1 x.2.1 x.2.2) fun w a b c u v hy=> ?_
 simp only[oC]at hy
 split at hy
 ·rename_i hc
  obtain⟨h1,h2,h3,h4⟩:=hc
  obtain⟨a,rfl⟩:=Int.eq_ofNat_of_zero_le h1
  obtain⟨b,rfl⟩:=Int.eq_ofNat_of_zero_le h2
  obtain⟨c,rfl⟩:=Int.eq_ofNat_of_zero_le h3
  cases hy
  rw[run_callFunc_extern hf vi hb hn he]
  simp[wP _ a b c (by omega),Extern.MathBitsCarry.pair,Extern.MathBitsCarry.m64]
 ·cases hy
theorem N1{f:FuncId}{fn:Func}(N:Nat)(hf:P.funcs[f]? =some fn)(vi:(fn.name== "runtime.NumGoroutine")=false)(hb:fn.body.isNone=true)(hn:Extern.findNext fn=none)
  (he:Extern.find fn=(Extern.MathBitsCarry.rows[1]?).map (·.2)):fc P f (oD.S N):=by
 refine Mu (fun x=>oD N x.1 x.2.1 x.2.2) fun w a b c u v hy=> ?_
 simp only[oD]at hy
 split at hy
 ·rename_i hc
  obtain⟨h1,mU,h2,tE,h3,h4⟩:=hc
  obtain⟨a,rfl⟩:=Int.eq_ofNat_of_zero_le h1
  obtain⟨b,rfl⟩:=Int.eq_ofNat_of_zero_le h2
  obtain⟨c,rfl⟩:=Int.eq_ofNat_of_zero_le h3
  cases hy
  rw[run_callFunc_extern hf vi hb hn he]
  have e1:((a+18446744073709551616-b-c:Nat):Int)=(a:Int)+18446744073709551616-b-c:=by omega
  by_cases h:a<b+c
  ·have h':(a:Int)<(b:Int)+(c:Int):=by omega
   simp[wP _ a b c (by omega),Extern.MathBitsCarry.pair,Extern.MathBitsCarry.m64,e1,h,h']
  ·have h': ¬(a:Int)<(b:Int)+(c:Int):=by omega
   simp[wP _ a b c (by omega),Extern.MathBitsCarry.pair,Extern.MathBitsCarry.m64,e1,h,h']
 ·cases hy
end VM
end
section
namespace VM
open Go Go.Shelf Go.RowKit Go.Lib Go.Proofs
variable{P:Program}{ρ:Ren}
noncomputable def Qz(ρ:Ren)(fn:Func):Func:={fn with body:=(Body2.n22 ρ).body,ntmps:=95,results:=(Body2.n22 ρ).results,nfree:=0}
theorem rW(ρ:Ren)(fn:Func):(Qz ρ fn).ntmps=95:=rfl
structure Ky(P:Program)(e:Ty)(ρ:Ren)(f:FuncId)(fn fo:Func):Prop where
 hf:P.funcs[f]? =some (Qz ρ fn)
 t3:P.underlying (ρ.t 3)=some (.int .i64)
 t4:P.underlying (ρ.t 4)=some .bool
 t24:P.underlying (ρ.t 24)=some (.slice (ρ.t 9))
 lay:gT P e (ρ.t 9)
 mO:0<e.size
 mixed:P.follows .mixedOrders=true
set_option maxHeartbeats 4000000 in
set_option maxRecDepth 100000 in
theorem EE{e:Ty}{f:FuncId}{fn fo:Func}(L:Ky P e ρ f fn fo)(w:World)(base:Option Addr)(n c m vc:Nat)(va:Addr)(v':Value)(w':World)(hm:0<m)(hn:n≤c)
  (GF: ∀ty,(Builtin.append_ #[ρ.t 24,ρ.t 24] ty #[.slice base n c,.slice (some va) m vc]).run P w= .ok v' w'):
   Calls P f #[.slice base n c,.int .i64 n,.slice (some va) m vc] w fun r w2=>r= .returned v'∧w2=w':=by
 have u3:=run_underlying L.t3;have u4:=run_underlying L.t4;have u24:=run_underlying L.t24
 have t3:=L.t3;have t4:=L.t4;have t24:=L.t24
 have z9:=fun w=>cq L.lay w
 have mixed:=L.mixed
 have zk: ¬((m:Int)=0):=by omega
 go_enter L.hf,rW ρ fn
 cases base with
 |none=>
   go_wp2_with (at_builtin;refine Lib.wpList_append_run _ rfl _ _ _ _ rfl _ _ rfl rfl _ _ (GF _) ?_)
   all_goals (go_ret;exact⟨rfl,rfl⟩)
 |some a=>
   obtain⟨ab,ao,asp⟩:=a
   go_wp2_with (at_builtin;refine Lib.wpList_append_run _ rfl _ _ _ _ rfl _ _ rfl rfl _ _ (GF _) ?_)
   all_goals (go_ret;exact⟨rfl,rfl⟩)
theorem run_copy_row{t te e:TypeId}{k:Nat}(ht:P.underlying t=some (.slice e))(hk: ∀w,(Go.sizeOf e).run P w= .ok k w){W:World}{b o ahs ant abZ aht n:Nat}{a:Addr}{cs:Array Value}(hg:W.heap[b]? =some (.cells cs te (0,0)))
  {news:List Value} (hnn:Nat.min abZ ahs=n) (hl:news.length=n*k) (hn: ∀j u,news[j]? =some u→W.cell? (a.add j)=some u) (h1: ∀u∈news,u.oneCell'=true) (Gy:o+news.length≤cs.size) (ty:TypeId):
  (Builtin.copy_ #[t,t] ty #[.slice (some ⟨b,o,none⟩) ahs ant,.slice (some a) abZ aht]).run P W= .ok (goInt n) (W.setRow b (dv cs.toList o news).toArray):=by
 have hf:=run_firstCells_some (P:=P) W k n a abZ aht news hl hn
 have JQ:=run_storeCells_at (P:=P) b o te news 0 cs W hg (by omega) h1
 simp only[Nat.add_zero]at JQ
 simp[Builtin.copy_,run_underlying ht,hk,Builtin.lenOf,hnn,hf,JQ,dv]
set_option maxHeartbeats 4000000 in
set_option maxRecDepth 100000 in
theorem N2{e:Ty}{f:FuncId}{fn fo:Func}(L:Ky P e ρ f fn fo)(w:World)(b n c i m vc:Nat)(va:Addr)(EF QA:Array Value)(hi:i<n)(hm:0<m)(hr:n+m≤c)(anu:c≤9223372036854775807)
  (hov: ∀x lb cb,(callFunc (ρ.f 29) #[.slice (some va) m vc,.slice (some ⟨b,x,none⟩) lb cb]).run P w= .ok (.value (.bool false)) w)
  (T7: ∀ty dc sc,(Builtin.copy_ #[(ρ.t 24),(ρ.t 24)] ty #[.slice (some ⟨b,(i+m)*e.size,none⟩) (n+m-(i+m)) dc,.slice (some ⟨b,i*e.size,none⟩) (n+m-i) sc]).run P w.drew= .ok (goInt ((n-i:Nat):Int)) (w.drew.setRow b EF))
  (T8: ∀W:World,W.heap=(w.setRow b EF).heap→ ∀ty dc,(Builtin.copy_ #[(ρ.t 24),(ρ.t 24)] ty #[.slice (some ⟨b,i*e.size,none⟩) (n+m-i) dc,.slice (some va) m vc]).run P W= .ok (goInt m) (W.setRow b QA)):
   Calls P f #[.slice (some ⟨b,0,none⟩) n c,.int .i64 i,.slice (some va) m vc] w fun r w2=>r= .returned (.slice (some ⟨b,0,none⟩) (n+m) c)∧w2=(w.drew.setRow b EF).setRow b QA:=by
 have u3:=run_underlying L.t3;have u4:=run_underlying L.t4;have u24:=run_underlying L.t24
 have t3:=L.t3;have t4:=L.t4;have t24:=L.t24
 have z9:=fun w=>cq L.lay w
 have mixed:=L.mixed
 have zk: ¬((m:Int)=0):=by omega
 have JZ: ¬((i:Int)=(n:Int)):=by omega
 have hw1:IntKind.i64.wrap ((i:Int)+(m:Int))=(i:Int)+(m:Int):=by rw[IntKind.wrap_i64];omega
 have kB:(0:Int)≤(i:Int)+(m:Int):=by omega
 have gC:i≤n:=by omega
 have NT:((i:Int)+(m:Int)).toNat=i+m:=by omega
 have tb: ¬(c=i+m):=by omega
 have hb3:(i:Int)≤(n:Int)+(m:Int):=by omega
 have hb4: ¬(c=i):=by omega
 go_enter L.hf,rW ρ fn
 go_wp2_with (simp only[hov])
 go_region_law_o (refine step_copy_runI rfl _ _ (ρ.t 24) (ρ.t 24) rfl _ _ (by simp[Act.eval,Act.put]) (by simp[Act.eval,Act.put]) (T7 _ _ _) ?_)
 have h2:=T8 (w.drew.setRow b EF) rfl
 go_wp2
 go_ret
 exact⟨rfl,rfl⟩
set_option maxHeartbeats 4000000 in
set_option maxRecDepth 100000 in
theorem QB{e:Ty}{f:FuncId}{fn fo:Func}(L:Ky P e ρ f fn fo)(w:World)(b n c i m vc nb G:Nat)(va:Addr)(N3 EF QA:Array Value)(hi:i<n)(hm:0<m)(hnc:n≤c)(hr:c<n+m)(anu:c≤9223372036854775807)(ZZ:n+m≤9223372036854775807)(hG:n+m≤G)(au2:G≤9223372036854775807)
  (GF: ∀ty,(Builtin.append_ #[(ρ.t 24),(ρ.t 3)] ty #[.slice (some ⟨b,0,none⟩) i c,.int .i64 ((n:Int)+(m:Int)-(i:Int))]).run P w= .ok (.slice (some ⟨w.heap.size,0,none⟩) (n+m) G) (w.drew.alloc (.cells N3 (ρ.t 9))))
  (T7: ∀W:World,W.heap=(w.alloc (.cells N3 (ρ.t 9))).heap→ ∀ty dc,(Builtin.copy_ #[(ρ.t 24),(ρ.t 24)] ty #[.slice (some ⟨w.heap.size,i*e.size,none⟩) (n+m-i) dc,.slice (some va) m vc]).run P W= .ok (goInt m) (W.setRow w.heap.size EF))
  (T8: ∀W:World,W.heap=((w.alloc (.cells N3 (ρ.t 9))).setRow w.heap.size EF).heap→ ∀ty dc sc,(Builtin.copy_ #[(ρ.t 24),(ρ.t 24)] ty #[.slice (some ⟨w.heap.size,(i+m)*e.size,none⟩) (n+m-(i+m)) dc,.slice (some ⟨b,i*e.size,none⟩) (n-i) sc]).run P W= .ok (goInt ((n-i:Nat):Int)) (W.setRow w.heap.size QA)):
   Calls P f #[.slice (some ⟨b,0,none⟩) n c,.int .i64 i,.slice (some va) m vc] w fun r w2=>r= .returned (.slice (some ⟨w.heap.size,0,none⟩) (n+m) G)∧w2=((w.drew.alloc (.cells N3 (ρ.t 9))).setRow w.heap.size EF).drew.setRow w.heap.size QA:=by
 have u3:=run_underlying L.t3;have u4:=run_underlying L.t4;have u24:=run_underlying L.t24
 have t3:=L.t3;have t4:=L.t4;have t24:=L.t24
 have z9:=fun w=>cq L.lay w
 have mixed:=L.mixed
 have zk: ¬((m:Int)=0):=by omega
 have JZ: ¬((i:Int)=(n:Int)):=by omega
 have hz3:(c:Int)<(n:Int)+(m:Int):=by omega
 have hw1:IntKind.i64.wrap ((i:Int)+(m:Int))=(i:Int)+(m:Int):=by rw[IntKind.wrap_i64];omega
 have kB:(0:Int)≤(i:Int)+(m:Int):=by omega
 have gC:i≤n:=by omega
 have NT:((i:Int)+(m:Int)).toNat=i+m:=by omega
 have hGi: ¬(G=i):=by omega
 have au3: ¬(G=i+m):=by omega
 have hci: ¬(c=i):=by omega
 have hb3:(i:Int)≤(n:Int):=by omega
 have h1:=T7 ((w.alloc (.cells N3 (ρ.t 9))).drew) rfl
 have h2:=T8 (((w.alloc (.cells N3 (ρ.t 9))).drew.setRow w.heap.size EF).drew) rfl
 go_enter L.hf,rW ρ fn
 go_wp2_with (first
   |(at_builtin;refine Lib.wpList_append_run _ rfl _ _ _ _ rfl _ _ rfl rfl _ _ (GF _) ?_)
   |(at_builtin;refine wpList_copy_runI _ rfl _ _ (ρ.t 24) (ρ.t 24) rfl _ _ rfl rfl (T7 _ (by exact rfl) _ _) ?_)
   |(at_builtin;refine wpList_copy_runI _ rfl _ _ (ρ.t 24) (ρ.t 24) rfl _ _ rfl rfl (T8 _ (by exact rfl) _ _ _) ?_))
 go_region_law_o (refine step_copy_runI rfl _ _ (ρ.t 24) (ρ.t 24) rfl _ _ (by simp[Act.eval,Act.put]) (by simp[Act.eval,Act.put]) (h2 _ _ _) ?_)
 go_wp2
 go_ret
 exact⟨rfl,rfl⟩
theorem zm{α:Type}(A Z news:List α):dv (A++Z) A.length news=A++(news++Z.drop news.length):=by
 unfold dv
 rw[List.take_left' rfl,List.append_assoc,←List.drop_drop,List.drop_left' rfl]
theorem nD.ahu{w:World}{M:Nat→Prop}{e:Ty}{cs:List Value}{l:List e.den}(h:nD w M e cs l)(i:Nat):nD w M e (cs.take (i*e.size)) (l.take i):=by
 intro j hj
 rw[List.length_take]at hj
 have:=c4 (s:=e.size) (show j<i by omega)
 rw[List.drop_take,List.take_take,Nat.min_eq_left (by omega),List.getElem_take]
 exact h j (by omega)
theorem nD.ahv{w:World}{M:Nat→Prop}{e:Ty}{cs:List Value}{l:List e.den}(h:nD w M e cs l)(i:Nat):nD w M e ((cs.drop (i*e.size)).take ((l.length-i)*e.size)) (l.drop i):=by
 intro j hj
 rw[List.length_drop]at hj
 have:=c4 (s:=e.size) hj
 rw[List.drop_take,List.take_take,Nat.min_eq_left (by omega),List.drop_drop,List.getElem_drop,←Nat.add_mul]
 exact h (i+j) (by omega)
theorem sP{w w':World}{M0:Nat→Prop}{hs:List Nat}{e:Ty}{rb cap:Nat}{row:Array Value}{t:TypeId}{l:List e.den}(mV: ∀b,M0 b→b<w.heap.size)(rT: ∀b∈hs,¬M0 b)
  (S8: ∀b,b<w.heap.size→b∉hs→w'.heap[b]? =w.heap[b]?) (pY:w.heap.size≤w'.heap.size) (hrb:rb<w.heap.size→rb∈hs) (hos:w'.os=w.os) (htp:w'.tape=w.tape) (Et:w'.output=w.output)
  (Km:w'.heap[rb]? =some (.cells row t (0,0))) (h0:0<cap) (hl:l.length≤cap) (hm:cap≤maxLen) (hrs:row.size=cap*e.size) (ic:nD w (fun b=>M0 b∨b∈hs) e row.toList l):
  ∃us M',Value.slice (some ⟨rb,0,none⟩) l.length cap=rP us∧RR w' M' [.own e] l us []∧Left w M0 hs w' M'∧(bf [.own e] us []).Nodup∧ ∀b∈bf [.own e] us [],¬M0 b:=by
 have Kf:rb<w'.heap.size:=(Array.getElem?_eq_some_iff.1 Km).1
 have hk:du w (fun b=>M0 b∨b∈hs) w' (fun b=>M0 b∨b=rb):=⟨pY,fun b hb hn=>S8 b hb (fun h=>hn (.inr h)),fun b hb h=>h.elim .inl (fun e=> .inr (e▸hrb (e▸hb)))⟩
 have tA:bf [.own e] [Value.slice (some ⟨rb,0,none⟩) l.length cap] []=[rb]:=by
  have:cap≠0:=by omega
  simp[bf,cI,AM.fU,eD,this]
 refine⟨[.slice (some ⟨rb,0,none⟩) l.length cap],fun b=>M0 b∨b=rb,rfl,?_,?_,?_,?_⟩
 ·simp only[RR]
  refine .inr ⟨_,[],rfl,rfl,rfl,?_,rfl,trivial⟩
  simp only[A1,ER,rz]
  exact .inr ⟨rb,row,t,cap,rfl,Km,.inr rfl,h0,hl,hm,hrs,ic.bP hk⟩
 ·exact⟨fun b h=> .inl h,fun b h=>h.elim (fun h=>Nat.lt_of_lt_of_le (mV b h) pY) (fun h=>h▸Kf),fun b hb h=>h.elim .inl (fun e=> .inr (e▸hrb (e▸hb))),S8,pY,hos,htp,Et⟩
 ·rw[tA];simp
 ·rw[tA]
  intro b hb h
  rw[List.mem_singleton]at hb
  subst hb
  exact rT b (hrb (mV b h)) h
theorem setRow_other(w:World){b c:Nat}(r:Array Value)(h:c≠b):(w.setRow b r).heap[c]? =w.heap[c]? :=by
 unfold World.setRow
 rw[Array.getElem?_modify,if_neg (fun e=>h e.symm)]
theorem setRow_size(w:World)(b:Nat)(r:Array Value):(w.setRow b r).heap.size=w.heap.size:=by
 unfold World.setRow;simp
theorem alloc_old(w:World)(o:Obj){c:Nat}(h:c<w.heap.size):(w.alloc o).heap[c]? =w.heap[c]? :=by
 show(w.heap.push o)[c]? =_
 rw[Array.getElem?_push,if_neg (by omega)]
theorem np(w:World)(o:Obj):(w.alloc o).heap[w.heap.size]? =some o:=by
 show(w.heap.push o)[w.heap.size]? =_
 simp
theorem kU(w:World)(o:Obj):(w.alloc o).heap.size=w.heap.size+1:=by
 show(w.heap.push o).size=_
 simp
theorem qi{w:World}{b:Nat}{cs:Array Value}{t:TypeId}{f:Nat×Nat}(h:w.heap[b]? =some (.cells cs t f))(o n:Nat): ∀j u,((cs.toList.drop o).take n)[j]? =some u→w.cell? ((⟨b,o,none⟩:Addr).add j)=some u:=by
 intro j u hj
 rw[Addr.add_lit]
 rw[List.getElem?_take]at hj
 split at hj
 ·rw[List.getElem?_drop,Array.getElem?_toList]at hj
  simp only[World.cell?,h]
  simpa using hj
 ·cases hj
theorem Mv{w:World}{M:Nat→Prop}{v:Value}{e:Ty}{l:List e.den}(h:ER w M v (.own e l)):(l=[]∧ ∃a,v= .slice a 0 0)∨
 ∃b cs t cap,v= .slice (some ⟨b,0,none⟩) l.length cap∧w.heap[b]? =some (.cells cs t (0,0))∧M b∧0<cap∧l.length≤cap∧cap≤maxLen∧cs.size=cap*e.size∧nD w M e cs.toList l:=h
end VM
end
section
namespace VM
open Go Go.Shelf Go.RowKit Go.Lib Go.Proofs
variable{P:Program}{ρ:Ren}
theorem Ar{w:World}{t e':TypeId}{e:Ty}(hu:P.underlying t=some (.slice e'))(hle:gT P e e'){n m cap cp:Nat}{olds news:List Value}{base:Option Addr}{a':Addr}(PX:base=none→n=0∧cap=0)
  (yL:olds.length=n*e.size) (ho: ∀b,base=some b→ ∀j u,olds[j]? =some u→w.cell? (b.add j)=some u) (S4:news.length=m*e.size) (hn: ∀j u,news[j]? =some u→w.cell? (a'.add j)=some u)
  (hg:cap<n+m) (hs:n+m<uM):
  ∃jW rest,(∀ty,(Builtin.append_ #[t,t] ty #[.slice base n cap,.slice (some a') m cp]).run P w= .ok (.slice (some ⟨w.heap.size,0,none⟩) (n+m) jW) (w.drew.alloc (.cells (olds++news++rest).toArray e')))∧
   n+m≤jW∧jW≤maxLen∧rest.length=(jW-(n+m))*e.size:=by
 obtain⟨i,hi,pY,hz,hby⟩:=hle.base
 have hzs:(bT e e.cr).cells.size=e.size:=by rw[←Array.length_toList,eR,lq]
 have ZZ:n+m≤maxLen:=by simp only[uM,maxLen]at hs ⊢;omega
 have Gy:(n+m)*i.bytes≤140737488355328:=by
  have:(n+m)*i.bytes≤68719476736*2048:=Nat.mul_le_mul (by simp only[uM]at hs;omega) hby
  omega
 refine⟨grownCap w (n+m) cap e',(Builtin.zeroCells (bT e e.cr).cells (grownCap w (n+m) cap e'-(n+m))).toList,fun ty=> ?_,grownCap_ge _ _ _ _,grownCap_le_maxLen _ _ _ _ ZZ,?_⟩
 ·cases base with
  |none=>
   obtain⟨rfl,rfl⟩:=PX rfl
   have ho0:olds=[]:=List.eq_nil_of_length_eq_zero (by rw[yL];simp)
   subst ho0
   have:=run_append_nil (P:=P) w t ty e' i _ hu hi hz a' m cp news (by rw[S4,pY]) hn (by simpa using hg) (by simp only[uM]at hs;omega) (by simp at Gy;omega)
   simp only[Nat.zero_add,List.nil_append]
   rw[this]
   congr 2
   apply congrArg (fun z=>Obj.cells z e' (0,0))
   apply Array.ext';simp
  |some b=>
   have:=run_append_grow (P:=P) w t ty e' i _ hu hi hz b n cap olds (by rw[yL,pY]) (ho b rfl) a' m cp news (by rw[S4,pY]) hn hg (by simp only[uM]at hs;omega) (growslice_fits hg Gy)
   rw[this]
   congr 2
   apply congrArg (fun z=>Obj.cells z e' (0,0))
   apply Array.ext';simp
 ·rw[Array.length_toList,size_zeroCells,hzs]
theorem N4{w:World}{t tn e':TypeId}{e:Ty}(hu:P.underlying t=some (.slice e'))(NT:P.underlying tn=some (.int .i64))(hle:gT P e e')(abR:0<e.size){n k cap:Nat}{olds:List Value}{b:Addr}
  (yL:olds.length=n*e.size) (ho: ∀j u,olds[j]? =some u→w.cell? (b.add j)=some u) (hk:0<k) (hg:cap<n+k) (hs:n+k<uM):
  ∃jW rest,(∀ty,(Builtin.append_ #[t,tn] ty #[.slice (some b) n cap,.int .i64 k]).run P w= .ok (.slice (some ⟨w.heap.size,0,none⟩) (n+k) jW) (w.drew.alloc (.cells (olds++rest).toArray e')))∧
   n+k≤jW∧jW≤maxLen∧rest.length=(jW-n)*e.size:=by
 obtain⟨i,hi,pY,hz,hby⟩:=hle.base
 have hzs:(bT e e.cr).cells.size=e.size:=by rw[←Array.length_toList,eR,lq]
 have ZZ:n+k≤maxLen:=by simp only[uM,maxLen]at hs ⊢;omega
 have Gy:(n+k)*i.bytes≤140737488355328:=by
  have:(n+k)*i.bytes≤68719476736*2048:=Nat.mul_le_mul (by simp only[uM]at hs;omega) hby
  omega
 have hkb:k*i.bytes≤281474976710656:=by
  have:k*i.bytes≤(n+k)*i.bytes:=Nat.mul_le_mul_right _ (by omega)
  omega
 have TN:=grownCap_ge w (n+k) cap e'
 refine⟨grownCap w (n+k) cap e',(Builtin.zeroCells (bT e e.cr).cells k++Builtin.zeroCells (bT e e.cr).cells (grownCap w (n+k) cap e'-(n+k))).toList,fun ty=> ?_,TN,grownCap_le_maxLen _ _ _ _ ZZ,?_⟩
 ·have hold:(Builtin.firstCells i.size n (.slice (some b) n cap)).run P w.drew= .ok olds.toArray w.drew:=run_firstCells_some w.drew i.size n b n cap olds (by rw[yL,pY]) (fun j u hj=>ho j u hj)
  have:=Lib.run_append_grow_zeros w t tn ty e' i _ .i64 .i64 hu NT hi hz (some b) n cap olds hold k hk (by rw[pY];exact abR) hg (by simp only[uM]at hs;omega) hkb (growslice_fits hg Gy)
  rw[this]
  congr 2
  apply congrArg (fun z=>Obj.cells z e' (0,0))
  apply Array.ext';simp
 ·rw[Array.toList_append,List.length_append,Array.length_toList,Array.length_toList,size_zeroCells,size_zeroCells,hzs,←Nat.add_mul]
  congr 1;omega
structure OvP(P:Program)(ρ:Ren)(fo:Func):Prop where
 hf:P.funcs[ρ.f 29]? =some fo
 name:(fo.name== "runtime.NumGoroutine")=false
 body:fo.body.isNone=true
 next:Extern.findNext fo=none
 find:Extern.find fo=some (Extern.SlicesOverlaps.overlaps #[ρ.t 24,ρ.t 24] #[ρ.t 4])
theorem ud{e:Ty}{f:FuncId}{fn fo:Func}(L:Ky P e ρ f fn fo)(O:OvP P ρ fo)(vi:(fn.name== "runtime.NumGoroutine")=false)(QC:(Body2.n22 ρ).body.isNone=false)(N:Nat):fc P f (gS e N):=by
 refine⟨(fun h=>by cases h),rfl,fun M0 w vs x y mV hA vf rT hy=> ?_⟩
 obtain⟨l,i,v⟩:=x
 have Qm:gR N l i v=some y:=hy
 clear hy
 simp only[gS,gl]at hA
 obtain⟨v0,P2,rfl,h0,v1,vs2,rfl,h1,v2,vs3,rfl,h2,rfl⟩:=hA
 simp only[gR]at Qm
 split at Qm
 case isFalse=>cases Qm
 rename_i hc
 cases Qm
 obtain⟨hi0,B6,Gs,EG⟩:=hc
 obtain⟨i,rfl⟩:=Int.eq_ofNat_of_zero_le hi0
 have ahw:i≤l.length:=by omega
 simp only[A1,rz,wv,V,Ty.isAgg,Bool.false_eq_true,if_false,Rd,List.cons.injEq,and_true]at h0 h1 h2
 subst h1
 have hk:=L.mO
 replace Gs:List.length (α:=e.den) v=1:=Gs
 rcases Mv h2 with⟨TZ,_⟩|⟨b2,cs2,t2,vn,TD,Ki,Ek,hc2,hl2,uX,Mw,S1⟩
 ·rw[TZ]at Gs;cases Gs
 replace TD:v2= .slice (some ⟨b2,0,none⟩) 1 vn:=by rw[TD];congr 1
 subst TD
 have TB:e.size≤cs2.toList.length:=by
  rw[Array.length_toList (xs:=cs2),Mw]
  exact Nat.le_mul_of_pos_left _ hc2
 obtain⟨news,QD⟩: ∃news,news=cs2.toList.take e.size:=⟨_,rfl⟩
 have CK:news.length=1*e.size:=by rw[QD,List.length_take,Nat.one_mul];omega
 have hnr:nD w (fun b=>M0 b∨b∈cR (gS e N).args [v0,.int .i64 (i:Int),.slice (some ⟨b2,0,none⟩) 1 vn]) e news v:=by
  rw[QD];exact S1.take (by rw[Gs,Nat.one_mul];exact Nat.le_refl _)
 have hnc: ∀j u,news[j]? =some u→w.cell? ((⟨b2,0,none⟩:Addr).add j)=some u:=by
  have:=qi Ki 0 e.size
  rw[List.drop_zero]at this
  rw[QD];exact this
 have hn1: ∀u∈news,u.oneCell'=true:=by
  have:=hnr 0 (by omega)
  rw[Nat.zero_mul,List.drop_zero,List.take_of_length_le (by omega)]at this
  exact this.ln
 have tb:eD (.slice (some ⟨b2,0,none⟩) 1 vn)=some b2:=by simp[eD];omega
 replace EG:List.length (α:=e.den) l+1<uM:=EG
 have Z5:(List.take i l++(v++List.drop i l)).length=l.length+1:=by rw[List.length_append,List.length_append,List.length_take,List.length_drop,Gs];omega
 have hbn:(Qz ρ fn).body.isNone=false:=QC
 refine pe L.hf vi hbn ?_
 rcases Mv h0 with⟨rfl,ad,rfl⟩|⟨b1,uO,t1,yO,rfl,JU,hM1,Es,Z6,pA,Mi,QE⟩
 ·
  have hi:i=0:=by simpa using ahw
  subst hi
  obtain⟨jW,rest,cO,NW,gQ,Kf⟩:=Ar (P:=P) (w:=w) L.t24 L.lay (n:=0) (m:=1) (cap:=0) (cp:=vn) (olds:=[]) (news:=news) (base:=ad) (a':=⟨b2,0,none⟩) (fun _=>⟨rfl,rfl⟩) (by simp) (fun _ _ j u hj=>by simp at hj) CK hnc (by omega) (by simp only[uM];omega)
  refine(EE L w ad 0 0 1 vn ⟨b2,0,none⟩ _ _ (by omega) (Nat.le_refl _) cO).mono ?_
  rintro e1 w' ⟨rfl,rfl⟩
  refine⟨_,rfl,?_⟩
  simp only[Nat.zero_add]at NW Kf
  have hv:v=v++[]:=by simp
  have:=sP (e:=e) (rb:=w.heap.size) (cap:=jW) (l:=v) (t:=ρ.t 9) (w:=w) (w':=w.drew.alloc (.cells ([]++news++rest).toArray (ρ.t 9))) mV rT (fun b hb _=>alloc_old w.drew _ hb) (by rw[kU];exact Nat.le_succ _) (fun h=>absurd h (Nat.lt_irrefl _)) rfl rfl rfl (np w.drew _) (by omega) (by omega) gQ
   (by simp only[List.nil_append,List.size_toArray,List.length_append,CK,Kf,←Nat.add_mul];congr 1;omega) (by simpa using hnr.more (cs':=rest) (by rw[Gs,CK];exact Nat.le_refl _))
  rw[Gs]at this
  simpa [gS,dG,AM.fU]using this
 ·have kB:eD (.slice (some ⟨b1,0,none⟩) l.length yO)=some b1:=by simp[eD];omega
  have hh:cR (gS e N).args [.slice (some ⟨b1,0,none⟩) l.length yO,.int .i64 (i:Int),.slice (some ⟨b2,0,none⟩) 1 vn]=[b1,b2]:=by simp[gS,cR,cI,kB,tb]
  rw[hh]at vf rT hnr ⊢
  replace QE:nD w (fun b=>M0 b∨b∈[b1,b2]) e uO.toList l:=by rw[←hh];exact QE
  have gk:b1≠b2:=by simpa using vf
  have anz:b1<w.heap.size:=(Array.getElem?_eq_some_iff.1 JU).1
  have agH:b2<w.heap.size:=(Array.getElem?_eq_some_iff.1 Ki).1
  have pB:l.length*e.size≤uO.toList.length:=by rw[Array.length_toList (xs:=uO),Mi];exact Nat.mul_le_mul_right _ Z6
  have hik:i*e.size≤l.length*e.size:=Nat.mul_le_mul_right _ ahw
  obtain⟨A,hAe⟩: ∃A,A=uO.toList.take (i*e.size):=⟨_,rfl⟩
  obtain⟨mid,ab1⟩: ∃mid,mid=(uO.toList.drop (i*e.size)).take ((l.length-i)*e.size):=⟨_,rfl⟩
  have My:A.length=i*e.size:=by rw[hAe,List.length_take];omega
  have zO:mid.length=(l.length-i)*e.size:=by
   rw[ab1,List.length_take,List.length_drop,Nat.sub_mul];omega
  have hAr:=QE.ahu i
  have hmr:=QE.ahv i
  rw[←hAe]at hAr
  rw[←ab1]at hmr
  have hti:(l.take i).length=i:=by rw[List.length_take];omega
  have Mz: ∀rest:List Value,nD w (fun b=>M0 b∨b∈[b1,b2]) e (A++(news++(mid++rest))) (l.take i++(v++l.drop i)):=fun rest=>
   hAr.append (by rw[My,hti]) (hnr.append (by rw[CK,Gs]) (hmr.more (by rw[List.length_drop,zO];exact Nat.le_refl _)))
  have hAc: ∀j u,A[j]? =some u→w.cell? ((⟨b1,0,none⟩:Addr).add j)=some u:=by
   have:=qi JU 0 (i*e.size)
   rw[List.drop_zero]at this
   rw[hAe];exact this
  have hmc: ∀j u,mid[j]? =some u→w.cell? ((⟨b1,i*e.size,none⟩:Addr).add j)=some u:=by
   rw[ab1];exact qi JU (i*e.size) _
  have ahz: ∀u∈mid,u.oneCell'=true:=by
   intro u hu
   obtain⟨j,hj,rfl⟩:=List.mem_iff_getElem.1 hu
   rw[zO]at hj
   have hq:j/e.size<l.length-i:=Nat.div_lt_of_lt_mul (by rw[Nat.mul_comm];exact hj)
   have:=(hmr (j/e.size) (by rw[List.length_drop];exact hq)).ln
   refine this _ ?_
   have hjm:j/e.size*e.size+j%e.size=j:=by rw[Nat.mul_comm];exact Nat.div_add_mod j e.size
   have BX:j%e.size<e.size:=Nat.mod_lt _ hk
   rw[List.mem_iff_getElem?]
   refine⟨j%e.size,?_⟩
   rw[List.getElem?_take,if_pos BX,List.getElem?_drop,hjm]
   exact List.getElem?_eq_getElem _
  by_cases gC:i=l.length
  ·
   subst gC
   have hm0:mid=[]:=List.eq_nil_of_length_eq_zero (by rw[zO];simp)
   by_cases vd:l.length+1≤yO
   ·obtain⟨ie,hie,pY,_⟩:=L.lay.base
    have cO: ∀ty,(Builtin.append_ #[ρ.t 24,ρ.t 24] ty #[.slice (some ⟨b1,0,none⟩) l.length yO,.slice (some ⟨b2,0,none⟩) 1 vn]).run P w=_:=fun ty=>
     Gx (ty:=ty) (cp:=vn) L.t24 hie JU (by rw[pY];exact Mi) (by rw[pY];exact CK) hnc hn1 vd
    refine(EE L w _ _ _ 1 vn ⟨b2,0,none⟩ _ _ (by omega) Z6 cO).mono ?_
    rintro e1 w' ⟨rfl,rfl⟩
    refine⟨_,rfl,?_⟩
    rw[pY]
    have Km:dv uO.toList (l.length*e.size) news=A++(news++(mid++uO.toList.drop (l.length*e.size+news.length))):=by
     rw[hm0,hAe];simp[dv]
    have:=sP (e:=e) (rb:=b1) (cap:=yO) (l:=l.take l.length++(v++l.drop l.length)) (t:=t1) (w:=w) (w':=w.setRow b1 (dv uO.toList (l.length*e.size) news).toArray) mV rT (fun b hb hn=>setRow_other w _ (fun e=>hn (by simp[e]))) (by rw[setRow_size];exact Nat.le_refl _) (fun _=>by simp) rfl rfl rfl (setRow_heap w b1 uO _ t1 _ JU) Es (by rw[Z5];exact vd) pA
     (by
      have:=c4 (s:=e.size) (show l.length<yO by omega)
      rw[Km,List.size_toArray]
      simp only[List.length_append,hm0,List.length_nil,List.length_drop,Array.length_toList,My,CK,Mi]
      omega)
     (by rw[Km];exact Mz _)
    rw[Z5]at this
    simpa [gS,dG,AM.fU]using this
   ·obtain⟨jW,rest,cO,NW,gQ,Kf⟩:=Ar (P:=P) (w:=w) L.t24 L.lay (n:=l.length) (m:=1) (cap:=yO) (cp:=vn) (olds:=A) (news:=news) (base:=some ⟨b1,0,none⟩) (a':=⟨b2,0,none⟩) (fun h=>by cases h) My (fun b hb=>by cases hb;exact hAc) CK hnc (by omega) EG
    refine(EE L w _ _ _ 1 vn ⟨b2,0,none⟩ _ _ (by omega) Z6 cO).mono ?_
    rintro e1 w' ⟨rfl,rfl⟩
    refine⟨_,rfl,?_⟩
    have:=sP (e:=e) (rb:=w.heap.size) (cap:=jW) (l:=l.take l.length++(v++l.drop l.length)) (t:=ρ.t 9) (w:=w) (w':=w.drew.alloc (.cells (A++news++rest).toArray (ρ.t 9))) mV rT (fun b hb _=>alloc_old w.drew _ hb) (by rw[kU];exact Nat.le_succ _) (fun h=>absurd h (Nat.lt_irrefl _)) rfl rfl rfl (np w.drew _) (by omega) (by rw[Z5];exact NW) gQ
     (by simp only[List.size_toArray,List.length_append,My,CK,Kf,←Nat.add_mul];congr 1;omega) (by have:=Mz rest;rw[hm0,List.nil_append,←List.append_assoc]at this;exact this)
    rw[Z5]at this
    simpa [gS,dG,AM.fU]using this
  ·have ab2:i<l.length:=by omega
   have TM:i*e.size+e.size≤l.length*e.size:=c4 ab2
   have e1k:(i+1)*e.size=A.length+news.length:=by rw[My,CK,Nat.add_mul]
   have zU:Nat.min 1 (l.length+1-i)=1:=Nat.min_eq_left (by omega)
   by_cases vd:l.length+1≤yO
   ·
    have ahA:l.length*e.size+e.size≤uO.toList.length:=by rw[Array.length_toList (xs:=uO),Mi];exact c4 (by omega)
    have hsh: ∀(b:Nat) (c:Array Value) (t:TypeId),w.heap[b]? =some (.cells c t (0,0))→w.shape? b=some (t,c.size):=fun b c t h=>by simp[World.shape?,h]
    obtain⟨B,hB⟩: ∃B,B=uO.toList.drop (i*e.size):=⟨_,rfl⟩
    have ahB:uO.toList=A++B:=by rw[hAe,hB,List.take_append_drop]
    have hBl:B.length=uO.toList.length-i*e.size:=by rw[hB,List.length_drop]
    have hBk:(B.take e.size).length=e.size:=by rw[List.length_take];omega
    have G4:dv uO.toList ((i+1)*e.size) mid=A++(B.take e.size++(mid++(B.drop e.size).drop mid.length)):=by
     have:uO.toList=(A++B.take e.size)++B.drop e.size:=by rw[List.append_assoc,List.take_append_drop];exact ahB
     rw[this,show(i+1)*e.size=(A++B.take e.size).length from by rw[List.length_append,hBk,My,Nat.add_mul,Nat.one_mul],zm,List.append_assoc]
    have G6:dv (dv uO.toList ((i+1)*e.size) mid) (i*e.size) news=A++(news++(mid++(B.drop e.size).drop mid.length)):=by
     rw[G4,←My,zm,CK,Nat.one_mul,List.drop_left' hBk]
    refine(N2 L w b1 l.length yO i 1 vn ⟨b2,0,none⟩ (dv uO.toList ((i+1)*e.size) mid).toArray (dv (dv uO.toList ((i+1)*e.size) mid) (i*e.size) news).toArray ab2 (by omega) vd (by simp only[maxLen]at pA;omega) (fun x lb cb=> ?_) (fun ty dc sc=> ?_) (fun W hW ty dc=> ?_)).mono ?_
    ·rw[run_callFunc_extern O.hf O.name O.body O.next O.find,
      Lib.run_overlaps_apart w (ρ.t 24) (ρ.t 4) (ρ.t 9) L.t24 e.size (fun w=>cq L.lay w) ⟨b2,0,none⟩ ⟨b1,x,none⟩ 1 vn lb cb (Ne.symm gk) t2 t1 cs2.size uO.size (hsh b2 cs2 t2 Ki) (hsh b1 uO t1 JU) (by rw[Mi];exact Nat.ne_of_gt (Nat.mul_pos Es hk)) (by simp[World.frozen?,Ki]) (by simp[World.frozen?,Ki])]
     rfl
    ·exact run_copy_row (P:=P) (W:=w.drew) L.t24 (fun w=>cq L.lay w) (cs:=uO) JU (news:=mid) (n:=l.length-i) (by simp only[Nat.min_def];split<;>omega) zO hmc ahz (by rw[zO,Nat.add_mul,Nat.one_mul];rw[Array.length_toList (xs:=uO)]at ahA;rw[Nat.sub_mul];omega) ty
    ·exact run_copy_row (P:=P) (W:=W) L.t24 (fun w=>cq L.lay w) (cs:=(dv uO.toList ((i+1)*e.size) mid).toArray) (te:=t1) (by rw[hW];exact setRow_heap w b1 uO _ t1 _ JU) (news:=news) (n:=1) zU CK
      (fun j u hj=>by
       have:=hnc j u hj
       rw[Addr.add_lit]at this ⊢
       rw[show W.cell? ⟨b2,0+j,none⟩=w.cell? ⟨b2,0+j,none⟩from World.cell?_of_block (by rw[hW];exact setRow_other w _ (Ne.symm gk))]
       exact this) hn1 (by
       rw[List.size_toArray,G4]
       simp only[List.length_append,hBk,My,CK]
       omega) ty
    ·rintro e1 w' ⟨rfl,rfl⟩
     refine⟨_,rfl,?_⟩
     have:=sP (e:=e) (rb:=b1) (cap:=yO) (l:=l.take i++(v++l.drop i)) (t:=t1) (w:=w) (w':=(w.drew.setRow b1 (dv uO.toList ((i+1)*e.size) mid).toArray).setRow b1 (dv (dv uO.toList ((i+1)*e.size) mid) (i*e.size) news).toArray) mV rT
      (fun b hb hn=>(setRow_other _ _ (fun e=>hn (by simp[e]))).trans (setRow_other _ _ (fun e=>hn (by simp[e])))) (by rw[setRow_size,setRow_size];exact Nat.le_refl _) (fun _=>by simp) rfl rfl rfl (setRow_heap _ b1 _ _ t1 _ (setRow_heap w.drew b1 uO _ t1 _ JU)) Es (by rw[Z5];exact vd) pA
      (by
       rw[G6,List.size_toArray]
       rw[Array.length_toList (xs:=uO)]at ahA hBl
       simp only[List.length_append,List.length_drop,My,CK,zO,hBl,Nat.sub_mul]
       omega)
      (by rw[G6];exact Mz _)
     rw[Z5]at this
     simpa [gS,dG,AM.fU]using this
   ·
    obtain⟨jW,Z,cO,NW,gQ,hZl⟩:=N4 (P:=P) (w:=w) L.t24 L.t3 L.lay hk (n:=i) (k:=l.length+1-i) (cap:=yO) (olds:=A) (b:=⟨b1,0,none⟩) My hAc (by omega) (by omega) (by omega)
    have anC:i+(l.length+1-i)=l.length+1:=by omega
    rw[anC]at cO NW
    have hZk:(l.length+1-i)*e.size≤Z.length:=by rw[hZl];exact Nat.mul_le_mul_right _ (by omega)
    rw[Nat.sub_mul,Nat.add_mul,Nat.one_mul]at hZk
    have G4:dv (A++Z) (i*e.size) news=A++(news++Z.drop news.length):=by rw[←My,zm]
    have G6:dv (dv (A++Z) (i*e.size) news) ((i+1)*e.size) mid=A++(news++(mid++(Z.drop news.length).drop mid.length)):=by
     rw[G4,←List.append_assoc,e1k,←List.length_append,zm,List.append_assoc]
    have hnb:w.heap.size≠b1:=by omega
    have avc:b2≠w.heap.size:=by omega
    refine(QB L w b1 l.length yO i 1 vn 0 jW ⟨b2,0,none⟩ (A++Z).toArray (dv (A++Z) (i*e.size) news).toArray (dv (dv (A++Z) (i*e.size) news) ((i+1)*e.size) mid).toArray ab2 (by omega) Z6 (by omega) (by simp only[maxLen]at pA;omega) (by simp only[uM]at EG;omega) NW (by simp only[maxLen]at gQ;omega) (fun ty=> ?_) (fun W hW ty dc=> ?_) (fun W hW ty dc sc=> ?_)).mono ?_
    ·have:=cO ty
     rw[show(((l.length+1-i:Nat):Int))=(l.length:Int)+(1:Nat)-(i:Int)from by omega]at this
     exact this
    ·exact run_copy_row (P:=P) (W:=W) L.t24 (fun w=>cq L.lay w) (cs:=(A++Z).toArray) (te:=ρ.t 9) (by rw[hW];exact np w _) (news:=news) (n:=1) zU CK
      (fun j u hj=>by
       have:=hnc j u hj
       rw[Addr.add_lit]at this ⊢
       rw[show W.cell? ⟨b2,0+j,none⟩=w.cell? ⟨b2,0+j,none⟩from World.cell?_of_block (by rw[hW];exact alloc_old w _ agH)]
       exact this) hn1 (by rw[List.size_toArray,List.length_append,My,CK];omega) ty
    ·exact run_copy_row (P:=P) (W:=W) L.t24 (fun w=>cq L.lay w) (cs:=(dv (A++Z) (i*e.size) news).toArray) (te:=ρ.t 9) (by rw[hW];exact setRow_heap _ _ _ _ _ _ (np w _)) (news:=mid) (n:=l.length-i) (by simp only[Nat.min_def];split<;>omega) zO
      (fun j u hj=>by
       have:=hmc j u hj
       rw[Addr.add_lit]at this ⊢
       rw[show W.cell? ⟨b1,i*e.size+j,none⟩=w.cell? ⟨b1,i*e.size+j,none⟩from World.cell?_of_block (by rw[hW];exact(setRow_other _ _ (Ne.symm hnb)).trans (alloc_old w _ anz))]
       exact this) ahz (by
       rw[List.size_toArray,G4]
       simp only[List.length_append,List.length_drop,My,CK,zO,Nat.add_mul,Nat.sub_mul]
       omega) ty
    ·rintro e1 w' ⟨rfl,rfl⟩
     refine⟨_,rfl,?_⟩
     have hg':((w.drew.alloc (.cells (A++Z).toArray (ρ.t 9))).setRow w.heap.size (dv (A++Z) (i*e.size) news).toArray).drew.heap[w.heap.size]? =some (.cells (dv (A++Z) (i*e.size) news).toArray (ρ.t 9) (0,0)):=setRow_heap _ _ _ _ _ _ (np w.drew _)
     have:=sP (e:=e) (rb:=w.heap.size) (cap:=jW) (l:=l.take i++(v++l.drop i)) (t:=ρ.t 9) (w:=w) (w':=((w.drew.alloc (.cells (A++Z).toArray (ρ.t 9))).setRow w.heap.size (dv (A++Z) (i*e.size) news).toArray).drew.setRow w.heap.size (dv (dv (A++Z) (i*e.size) news) ((i+1)*e.size) mid).toArray) mV rT
      (fun b hb hn=>(setRow_other _ _ (by omega)).trans ((setRow_other _ _ (by omega)).trans (alloc_old w.drew _ hb))) (by rw[setRow_size];show _≤(World.setRow _ _ _).heap.size;rw[setRow_size,kU];exact Nat.le_succ _) (fun h=>absurd h (Nat.lt_irrefl _)) rfl rfl rfl (setRow_heap _ _ _ _ _ _ hg') (by omega) (by rw[Z5];exact NW) gQ
      (by
       rw[G6,List.size_toArray]
       have hmul:(jW-i)*e.size=jW*e.size-i*e.size:=Nat.sub_mul _ _ _
       have hci:i*e.size≤jW*e.size:=Nat.mul_le_mul_right _ (by omega)
       simp only[List.length_append,List.length_drop,My,CK,zO,hZl,hmul,Nat.sub_mul]at hZk ⊢
       omega)
      (by rw[G6];exact Mz _)
     rw[Z5]at this
     simpa [gS,dG,AM.fU]using this
end VM
end
section
namespace VM
open Go Go.Shelf Go.RowKit Go.Lib Go.Proofs
variable{P:Program}{ρ:Ren}
noncomputable def QF(ρ:Ren)(fn:Func):Func:={fn with body:=(Body2.n15 ρ).body,ntmps:=8,results:=(Body2.n15 ρ).results,nfree:=0}
theorem xO(ρ:Ren)(fn:Func):(QF ρ fn).ntmps=8:=rfl
structure EH(P:Program)(e:Ty)(ρ:Ren)(f:FuncId)(fn:Func):Prop where
 hf:P.funcs[f]? =some (QF ρ fn)
 t4:P.underlying (ρ.t 4)=some .bool
 t22:P.underlying (ρ.t 22)=some (.slice (ρ.t 3))
 lay:gT P e (ρ.t 3)
 mO:0<e.size
 mixed:P.follows .mixedOrders=true
set_option maxHeartbeats 4000000 in
set_option maxRecDepth 100000 in
theorem N5{e:Ty}{f:FuncId}{fn:Func}(L:EH P e ρ f fn)(w:World)(n c:Nat):
  Calls P f #[.slice none n c] w fun r w2=>r= .returned (.slice none 0 0)∧w2=w:=by
 have u22:=run_underlying L.t22
 have t4:=L.t4;have t22:=L.t22
 have z3:=fun w=>cq L.lay w
 have mixed:=L.mixed
 have q22: ∀(w:World) (a:Option Addr) (n c n' c':Nat),(binOp .eql (ρ.t 22) (.slice a n c) (.slice none n' c')).run P w= .ok (.bool a.isNone) w:=fun w a n c n' c'=>Lib.run_eql_slice_nil w _ _ a n c n' c' L.t22
 go_enter L.hf,xO ρ fn
 go_wp2
 go_ret
 exact⟨rfl,rfl⟩
set_option maxHeartbeats 4000000 in
set_option maxRecDepth 100000 in
theorem As{e:Ty}{f:FuncId}{fn:Func}(L:EH P e ρ f fn)(w:World)(a:Addr)(n c:Nat)(v':Value)(w':World)
  (GF: ∀ty,(Builtin.append_ #[ρ.t 22,ρ.t 22] ty #[.slice (some ⟨w.heap.size,0,none⟩) 0 0,.slice (some a) n c]).run P (w.alloc (.cells #[] (ρ.t 3)))= .ok v' w'):
   Calls P f #[.slice (some a) n c] w fun r w2=>r= .returned v'∧w2=w':=by
 have u22:=run_underlying L.t22
 have t4:=L.t4;have t22:=L.t22
 have z3:=fun w=>cq L.lay w
 have mixed:=L.mixed
 have q22: ∀(w:World) (a:Option Addr) (n c n' c':Nat),(binOp .eql (ρ.t 22) (.slice a n c) (.slice none n' c')).run P w= .ok (.bool a.isNone) w:=fun w a n c n' c'=>Lib.run_eql_slice_nil w _ _ a n c n' c' L.t22
 obtain⟨ab,ao,asp⟩:=a
 go_enter L.hf,xO ρ fn
 go_wp2_with (at_builtin;refine Lib.wpList_append_run _ rfl _ _ _ _ rfl _ _ rfl rfl _ _ (GF _) ?_)
 all_goals (go_ret;exact⟨rfl,rfl⟩)
theorem QG{w w':World}{M0:Nat→Prop}{e:Ty}(a:Option Addr)(mV: ∀b,M0 b→b<w.heap.size)(S8: ∀b,b<w.heap.size→w'.heap[b]? =w.heap[b]?)(pY:w.heap.size≤w'.heap.size)
  (hos:w'.os=w.os) (htp:w'.tape=w.tape) (Et:w'.output=w.output):
  ∃us M',Value.slice a 0 0=rP us∧RR w' M' [.own e] ([]:List e.den) us []∧Left w M0 [] w' M'∧(bf [.own e] us []).Nodup∧ ∀b∈bf [.own e] us [],¬M0 b:=by
 have tA:bf [.own e] [Value.slice a 0 0] []=[]:=by
  cases a<;>simp[bf,cI,AM.fU,eD]
 refine⟨[.slice a 0 0],M0,rfl,?_,?_,?_,?_⟩
 ·simp only[RR]
  refine .inr ⟨_,[],rfl,rfl,rfl,?_,rfl,trivial⟩
  simp only[A1,ER,rz]
  exact .inl ⟨trivial,a,rfl⟩
 ·exact⟨fun b h=>h,fun b h=>Nat.lt_of_lt_of_le (mV b h) pY,fun b hb h=> .inl h,fun b hb _=>S8 b hb,pY,hos,htp,Et⟩
 ·rw[tA];simp
 ·rw[tA];simp
theorem nq{e:Ty}{f:FuncId}{fn:Func}(L:EH P e ρ f fn)(vi:(fn.name== "runtime.NumGoroutine")=false)(QC:(Body2.n15 ρ).body.isNone=false)(N:Nat):fc P f (rI e N):=by
 refine⟨(fun h=>by cases h),rfl,fun M0 w vs x y mV hA vf rT hy=> ?_⟩
 have Qm:kP N x=some y:=hy
 clear hy
 obtain⟨v0,P2,rfl,h0,h2⟩:=hA
 have h2:P2=[]:=h2
 subst h2
 replace h0:V w (fun b=>M0 b∨b∈([]:List Nat)) (.slice e) v0 x:=h0
 unfold kP at Qm
 split at Qm
 case isFalse=>cases Qm
 rename_i EG
 cases Qm
 have hbn:(QF ρ fn).body.isNone=false:=QC
 have hh:cR (rI e N).args [v0]=[]:=rfl
 rw[hh]at rT ⊢
 refine pe L.hf vi hbn ?_
 obtain⟨i,hi,pY,hz,hby⟩:=L.lay.base
 have hS:=Src.Tv h0
 by_cases hx:x=[]
 ·obtain⟨a,cp,hv,_⟩:=hS
  subst hv
  rw[hx]
  cases a with
  |none=>
   refine(N5 L w _ cp).mono ?_
   rintro e1 w' ⟨rfl,rfl⟩
   exact⟨_,rfl,QG none mV (fun _ _=>rfl) (Nat.le_refl _) rfl rfl rfl⟩
  |some a=>
   refine(As L w a _ cp _ _ (fun ty=>oM (P:=P) (w:=w.alloc (.cells #[] (ρ.t 3))) L.t22 hi (some ⟨w.heap.size,0,none⟩) 0 0 (Nat.le_refl _) (some a) cp)).mono ?_
   rintro e1 w' ⟨rfl,rfl⟩
   exact⟨_,rfl,QG _ mV (fun b hb=>alloc_old w _ hb) (by rw[kU];exact Nat.le_succ _) rfl rfl rfl⟩
 ·obtain⟨b,off,cp,news,hv,hl,ll,ic,h1⟩:=hS.cells hx
  have Ko:0<x.length:=List.length_pos_iff.2 hx
  subst hv
  obtain⟨jW,rest,cO,NW,gQ,Kf⟩:=Ar (P:=P) (w:=w.alloc (.cells #[] (ρ.t 3))) L.t22 L.lay (n:=0) (m:=x.length) (cap:=0) (cp:=cp) (olds:=[]) (news:=news) (base:=some ⟨w.heap.size,0,none⟩) (a':=⟨b,off,none⟩) (fun h=>by cases h) (by simp) (fun _ _ j u hj=>by simp at hj) hl
   (fun j u hj=>by rw[Addr.add_lit];exact Lib.cell?_alloc_some _ (ll j u hj)) (by omega) (by omega)
  refine(As L w ⟨b,off,none⟩ _ cp _ _ cO).mono ?_
  rintro e1 w' ⟨rfl,rfl⟩
  refine⟨_,rfl,?_⟩
  simp only[Nat.zero_add]at NW Kf ⊢
  have Mi:(w.alloc (.cells #[] (ρ.t 3))).heap.size=w.heap.size+1:=kU w _
  exact sP (e:=e) (rb:=(w.alloc (.cells #[] (ρ.t 3))).heap.size) (cap:=jW) (l:=x) (t:=ρ.t 3) (w:=w) (w':=(w.alloc (.cells #[] (ρ.t 3))).drew.alloc (.cells ([]++news++rest).toArray (ρ.t 3))) mV rT
   (fun b hb _=>(alloc_old (w.alloc (.cells #[] (ρ.t 3))).drew _ (by show b<(w.alloc (.cells #[] (ρ.t 3))).heap.size;omega)).trans (alloc_old w _ hb))
   (by rw[kU];show w.heap.size≤(w.alloc (.cells #[] (ρ.t 3))).heap.size+1;omega) (fun h=>by omega) rfl rfl rfl (np (w.alloc (.cells #[] (ρ.t 3))).drew _) (by omega) NW gQ
   (by simp only[List.nil_append,List.size_toArray,List.length_append,hl,Kf,←Nat.add_mul];congr 1;omega) (by simpa using nD.more (cs':=rest) (show nD w (fun b=>M0 b∨b∈([]:List Nat)) e news x from ic) (by rw[hl];exact Nat.le_refl _))
end VM
end
