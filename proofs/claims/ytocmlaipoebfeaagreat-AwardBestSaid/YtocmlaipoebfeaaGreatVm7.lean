/- A part of the proof of AwardBest of layer 25: a machine that reads a function of the program as an equation between values. -/
import Derived.Test.YtocmlaipoebfeaaGreatVm6
import Derived.KernelRfl
import Derived.Test.YtocmlaipoebfeaaGreatVm0
import Derived.Laws.Externs
import Derived.Shelf.Spec.SlicesInsertGrow
set_option linter.all false
section
namespace VM
open Go
@[reducible] def CM.arr:CM→Type→Type
 | .v τ,T| .obj τ,T| .io τ,T| .fn _ τ,T=>τ.den→T
 | .own e,T=>List e.den→T
 | .dE τ _ e,T=>τ.den→List e.den→T
 | .same _,T=>T
@[reducible] def Ln:List (Nat×CM)→Type→Type
 |[],R=>R
 |q::r,R=>q.2.arr (Ln r R)
def CM.lam{T:Type}(s:Nat)(σ:St):(m:CM)→(St→T)→m.arr T
 | .v τ,f=>fun x=>f (σ.put s (.val τ x))
 | .own e,f=>fun x=>f ((σ.put s (.ref (16*s+14))).gF (16*s+14) (some (.own e x)))
 | .obj τ,f=>fun x=>f ((σ.put s (.eV (16*s+14) [])).gF (16*s+14) (some (.obj τ x)))
 | .dE τ q e,f=>fun x l=>f (((σ.put s (.eV (16*s+14) [])).gF (16*s+13) (some (.own e l))).gF (16*s+14) (some (.dE τ x q (16*s+13))))
 | .io τ,f=>fun x=>f ((σ.put s (.eV (16*s+15) [])).gF (16*s+15) (some (.obj τ x)))
 | .fn g τ,f=>fun x=>f (σ.put s (.CQ g (kX τ x)))
 | .same s',f=>f (σ.put s (σ.T s'))
def acm{R:Type}(κ:St→R):(L:List (Nat×CM))→St→Ln L R
 |[],σ=>κ σ
 |q::r,σ=>q.2.lam q.1 σ (acm κ r)
@[reducible] def sl:List AM→Type→Type
 |[],R=>R
 |m::r,R=>m.den→sl r R
def zL{R:Type}:(ms:List AM)→sl ms R→HP ms→R
 |[],g,_=>g
 |[_],g,x=>g x
 |_::n::ms,g,x=>zL (n::ms) (g x.1) x.2
def J4{R:Type}:(ms:List AM)→(HP ms→R)→sl ms R
 |[],f=>f ()
 |[_],f=>f
 |_::n::ms,f=>fun x=>J4 (n::ms) fun y=>f (x,y)
theorem BG{R:Type}: ∀(ms:List AM) (f:HP ms→R) (x:HP ms),zL ms (J4 ms f) x=f x
 |[],_,()=>rfl
 |[_],_,_=>rfl
 |_::n::ms,f,x=>BG (n::ms) (fun y=>f (x.1,y)) x.2
structure Pc where
 k:Nat
 c:List (Nat×CM)
 path:List Nat
 ks:List Nat
def MB:List Pc→Nat→Pc
 |[],_=>⟨0,[],[],[]⟩
 |p::r,k=>cond (Nat.beq k p.k) p (MB r k)
def DG:List Pc→Nat→Option (List (Nat×CM))
 |[],_=>none
 |p::r,k=>cond (Nat.beq k p.k) (some p.c) (DG r k)
def uI:List (Nat×gL)→Nat→List gL
 |[],_=>[]
 |q::r,i=>cond (Nat.beq i q.1) (q.2::uI r i) (uI r i)
def zM:List AM→Nat→List Nat
 |[],_=>[]
 | .io _::r,i=>i::zM r (i+1)
 |_::r,i=>zM r (i+1)
structure Fx where
 nt:Nat
 tab:List (Nat×Ty)
 G:List (Nat×gL)
 N:Nat
 fn:Func
 args:List AM
 res:List AM
 VB:List Pc
 lk:Option (Ty×List Step×Ty×List Nat):=none
namespace Fx
variable(X:Fx)
abbrev R:=Option (HP X.res)
def E:Env:={nt:=X.nt,ty:=fun i=>DF i X.tab,Γ:=uI X.G,N:=X.N,pW:=fun r=>DG X.VB (2*r+1),rp:=fun r=>DG X.VB (2*r),io:=zM X.args 0,lk:=X.lk}
@[reducible] def c(i:Nat):List (Nat×CM):=(MB X.VB i).c
def path(i:Nat):List Nat:=(MB X.VB i).path
def odd(i:Nat):Bool:=Nat.beq (i%2) 1
def cut(ρ:Nat→St→X.R)(l:Nat):St→X.R:=fun σ=>p3 (some (X.c l)) σ (ρ l)
def ks(ρ:Nat→St→X.R)(i:Nat):List (St→X.R):=(MB X.VB i).ks.map (X.cut ρ)
noncomputable def lp(ρ:Nat→St→X.R)(i n:Nat):St→X.R:=lpF X.E X.fn X.args X.res (X.c i) (X.path i) (X.ks ρ i) n
noncomputable def bo(ρ:Nat→St→X.R)(i:Nat):St→X.R:=cond (odd i) (X.lp ρ i X.N) (Xj X.E X.fn X.args X.res (X.path i) (X.ks ρ i))
def own(ρ:Nat→St→X.R)(i:Nat):List (St→X.R):=X.ks ρ i++cond (odd i) [X.cut ρ i] []
noncomputable def Gl(K ρ:Nat→St→X.R)(i:Nat):St→X.R:=atQ X.E X.fn X.args X.res (fun r=>K (2*r)) (fun r=>K (2*r+1)) (X.path i) (X.own ρ i)
noncomputable def tl(K ρ:Nat→St→X.R)(i:Nat):List ((St→X.R)×(St→X.R)):=qh X.E (fun r=>K (2*r)) (fun r=>K (2*r+1)) (P2 X.E X.fn X.args X.res (X.path i) (X.own ρ i))
@[reducible] def cu(i:Nat)(κ:St→X.R):Ln (X.c i) X.R:=acm κ (X.c i) S0
@[reducible] noncomputable def bd(K ρ:Nat→St→X.R)(i:Nat):Ln (X.c i) X.R:=X.cu i (X.Gl K ρ i)
@[reducible] def kc(ρ:Nat→St→X.R)(i:Nat):Ln (X.c i) X.R:=X.cu i (ρ i)
def vC:Nat→St→X.R:=fun _ _=>none
noncomputable def top(K:Nat→St→X.R):sl X.args X.R:=J4 X.args fun x=>atQ X.E X.fn X.args X.res (fun r=>K (2*r)) (fun r=>K (2*r+1)) [] [] (entry X.args x 0 S0)
noncomputable def tlT(K:Nat→St→X.R):List ((St→X.R)×(St→X.R)):=qh X.E (fun r=>K (2*r)) (fun r=>K (2*r+1)) (P2 X.E X.fn X.args X.res [] [])
noncomputable def S(q:Bool)(g:sl X.args X.R):gL:={args:=X.args,res:=X.res,quiet:=q,run:=zL X.args g}
variable{X}
theorem P3(f:Nat→St→X.R): ∀mY:List Nat,J2 (mY.map fun t=>(f t,f t))
 |[]=>trivial
 |_::r=>⟨rfl,P3 f r⟩
theorem okJ{i:Nat}(mY:List Nat)(hi:odd i=false)(hr: ∀K ρ,X.tl K ρ i=mY.map fun t=>(K t,X.bo ρ t)){g:(Nat→St→X.R)→(Nat→St→X.R)→Ln (X.c i) X.R}(h: ∀K ρ,X.bd K ρ i=g K ρ)(ρ:Nat→St→X.R):X.kc (X.bo ρ) i=g (X.bo ρ) ρ:=by
 rw[←h]
 have:X.bo ρ i=X.Gl (X.bo ρ) ρ i:=by
  funext σ
  have h1:=hr (X.bo ρ) ρ
  unfold tl own at h1
  rw[hi,cond_false,List.append_nil]at h1
  unfold Gl own
  rw[hi,cond_false,List.append_nil]
  rw[←at_eq X.E X.fn X.args X.res h1 (P3 (X.bo ρ) mY) σ]
  unfold bo;rw[hi];rfl
 unfold kc bd
 rw[this]
def okb(X:Fx)(i:Nat):Bool:=odd i&&(MB X.VB i).ks.all fun l=> !(Nat.beq l i)
theorem okL{i:Nat}(mY:List Nat)(hi:okb X i=true)(hr: ∀K ρ,X.tl K ρ i=mY.map fun t=>(K t,X.bo ρ t)){g:(Nat→St→X.R)→(Nat→St→X.R)→Ln (X.c i) X.R}(h: ∀K ρ,X.bd K ρ i=g K ρ)(ρ:Nat→St→X.R)
  (G:Nat→Ln (X.c i) X.R) (h0:X.cu i (fun _=>none)=G 0) (hs: ∀n ρ',X.kc ρ' i=G n→(∀l,Nat.beq l i=false→X.kc ρ' l=X.kc ρ l)→g (X.bo ρ') ρ'=G (n+1)):X.kc (X.bo ρ) i=G X.N:=by
 unfold okb at hi
 rw[Bool.and_eq_true]at hi
 obtain⟨hi,hk⟩:=hi
 have key: ∀n,X.cu i (X.lp ρ i n)=G n:=by
  intro n
  induction n with
  |zero=>exact h0
  |succ n ih=>
   let ρ':Nat→St→X.R:=fun l=>cond (Nat.beq l i) (X.lp ρ i n) (ρ l)
   have e1:ρ' i=X.lp ρ i n:=by show cond (Nat.beq i i) _ _=_;rw[Nat.beq_refl];rfl
   have e2: ∀l,Nat.beq l i=false→ρ' l=ρ l:=fun l hl=>by show cond (Nat.beq l i) _ _=_;rw[hl];rfl
   rw[←hs n ρ' (by unfold kc;rw[e1];exact ih) (fun l hl=>by unfold kc;rw[e2 l hl]),←h]
   have e3:X.ks ρ' i=X.ks ρ i:=by
    unfold ks
    refine List.map_congr_left fun l hl=> ?_
    have:=List.all_eq_true.1 hk l hl
    unfold cut
    rw[e2 l (by simpa using this)]
   have:X.lp ρ i (n+1)=X.Gl (X.bo ρ') ρ' i:=by
    funext σ
    have h1:=hr (X.bo ρ') ρ'
    unfold tl own at h1
    rw[hi,cond_true]at h1
    unfold Gl own
    rw[hi,cond_true]
    rw[←at_eq X.E X.fn X.args X.res h1 (P3 (X.bo ρ') mY) σ]
    unfold lp
    rw[Mw,e3]
    unfold cut
    rw[e1];rfl
   unfold bd
   rw[this]
 have:X.bo ρ i=X.lp ρ i X.N:=by unfold bo;rw[hi];rfl
 unfold kc
 rw[this];exact key _
def BH(P:Program):List (Nat×gL)→Prop
 |[]=>True
 |q::r=>eE P q.1 q.2∧BH P r
structure _root_.VM.Kn(P:Program) where
 f:Nat
 S:gL
 ok:eE P f S
def _root_.VM.Kn.p{P:Program}(k:Kn P):Nat×gL:=(k.f,k.S)
def _root_.VM.Kn.l{P:Program}:List (Kn P)→List (Nat×gL)
 |[]=>[]
 |k::r=>k.p::Kn.l r
theorem _root_.VM.Kn.all{P:Program}: ∀l:List (Kn P),BH P (Kn.l l)
 |[]=>trivial
 |k::r=>⟨k.ok,Kn.all r⟩
theorem uK{P:Program}: ∀{l:List (Nat×gL)},BH P l→ ∀f S,S∈uI l f→eE P f S
 |[],_,f,S,h=>by simp[uI]at h
 |q::r,ha,f,S,h=>by
  unfold uI at h
  cases hb:Nat.beq f q.1<;>rw[hb]at h
  ·exact uK ha.2 f S h
  ·rcases List.mem_cons.1 h with rfl|h
   ·rw[Nat.eq_of_beq_eq_true hb];exact ha.1
   ·exact uK ha.2 f S h
theorem xO: ∀{l:List Pc},(l.all fun p=>fM p.c)=true→ ∀i L,DG l i=some L→fM L=true
 |q::r,ha,i,L,h=>by
  rw[List.all_cons,Bool.and_eq_true]at ha
  unfold DG at h
  cases hb:Nat.beq i q.k<;>rw[hb]at h
  ·exact xO ha.2 i L h
  ·cases h;exact ha.1
def Xl(X:Fx)(q:Bool):Bool:=(X.VB.all fun p=>fM p.c)&&((!(X.fn.name== "runtime.NumGoroutine")&&Nat.beq X.nt X.fn.ntmps)&&(X.fn.body.isSome&&(Nat.ble X.args.length X.nt&&((!q||X.res.all AM.flat)&&decide (kd X.args=kd X.res)))))
theorem DH: ∀{ms:List AM} {k i:Nat} {m:AM},ms[i]? =some m→m.fk=true→k+i∈zM ms k
 |[],_,_,_,h,_=>by simp at h
 |m::ms,k,0,m',h,qS=>by
  simp only[List.getElem?_cons_zero,Option.some.injEq]at h
  subst h
  cases m<;>simp[AM.fk]at qS
  simp[zM]
 |m::ms,k,i+1,m',h,qS=>by
  have:=DH (ms:=ms) (k:=k+1) (i:=i) (by simpa using h) qS
  rw[show k+(i+1)=k+1+i from by omega]
  cases m<;>simp only[zM]<;>first|exact List.mem_cons_of_mem _ this|exact this
theorem IH: ∀{ms:List AM} {k i:Nat},i∈zM ms k→i<k+ms.length
 |[],_,_,h=>by simp[zM]at h
 |m::ms,k,i,h=>by
  have hr:i∈zM ms (k+1)→i<k+(m::ms).length:=fun h=>by have:=IH h;simp only[List.length_cons];omega
  cases m<;>simp only[zM]at h<;>first
   |exact hr h
   |(rcases List.mem_cons.1 h with rfl|h<;>first|exact hr h|(simp only[List.length_cons];omega))
variable(X)in
theorem DI{P:Program}(ht:xN P X.tab)(hG:BH P X.G)(hc:(X.VB.all fun p=>fM p.c)=true):nk P X.E:=by
 have kb: ∀t τ,DF t X.tab=some τ→oj P τ (.inl t)=true∧P0 P τ t=true:=fun t τ h=>by
  have:=List.all_eq_true.1 ht.ok _ (Ao h)
  simpa using this
 exact{ty:=fun t τ h=>dG (kb t τ h).1,eq:=fun t τ h hc ha=>P1 (dG (kb t τ h).1) (kb t τ h).2 hc ha,abW:=uK hG,mixed:=ht.mixed,fM:=fun i L h=>xO hc _ L h,L4:=fun i L h=>xO hc _ L h}
theorem mkS{P:Program}(ht:xN P X.tab){f:FuncId}(hf:P.funcs[f]? =some X.fn){q:Bool}(hc:Xl X q=true)(hG:BH P X.G){g:sl X.args X.R}(h: ∀x,CY X.E X.fn X.args X.res x=zL X.args g x):eE P f (X.S q g):=by
 unfold Xl at hc
 simp only[Bool.and_eq_true]at hc
 obtain⟨h0,⟨h1,h2⟩,h3,h4,h5,h6⟩:=hc
 refine Mn (DI X ht hG h0) hf (by simpa using h1) (Nat.eq_of_beq_eq_true h2) (X.S q g) (fun i m hm qS=> ?_) (fun i hi=> ?_) ?_ (fun hq=> ?_) (of_decide_eq_true h6) h
 ·have:=DH (k:=0) hm qS
  rwa [Nat.zero_add]at this
 ·have:=IH (k:=0) hi
  rwa [Nat.zero_add]at this
 ·have:=Nat.le_of_ble_eq_true h4
  rwa [Nat.eq_of_beq_eq_true h2]at this
 ·have hq:q=true:=hq
  subst hq
  show X.res.all AM.flat=true
  simpa using h5
theorem Xm{g:sl X.args X.R}(h:J4 X.args (CY X.E X.fn X.args X.res)=g)(x:HP X.args):CY X.E X.fn X.args X.res x=zL X.args g x:=by rw[←h,BG]
variable(X)in
theorem ok0{P:Program}(ht:xN P X.tab){f:FuncId}(hf:P.funcs[f]? =some X.fn){q:Bool}(hc:Xl X q=true)(hG:BH P X.G){g:sl X.args X.R}(h:J4 X.args (CY X.E X.fn X.args X.res)=g):eE P f (X.S q g):=
 mkS ht hf hc hG (Xm h)
theorem Xn(hb:X.fn.body.isSome=true)(mY:List Nat)(hr: ∀K,X.tlT K=mY.map fun t=>(K t,X.bo X.vC t))
  {g:(Nat→St→X.R)→sl X.args X.R} (h: ∀K,X.top K=g K) {f:sl X.args X.R} (hf:g (X.bo X.vC)=f) (x:HP X.args):CY X.E X.fn X.args X.res x=zL X.args f x:=by
 rw[←hf,←h,Xk hb]
 unfold top
 rw[BG]
 exact at_eq X.E X.fn X.args X.res (hr (X.bo X.vC)) (P3 (X.bo X.vC) mY) _
variable(X)in
theorem ok1{P:Program}(ht:xN P X.tab){f:FuncId}(hf:P.funcs[f]? =some X.fn){q:Bool}(hc:Xl X q=true)(hG:BH P X.G)(mY:List Nat)(hr: ∀K,X.tlT K=mY.map fun t=>(K t,X.bo X.vC t))
  {g:(Nat→St→X.R)→sl X.args X.R} (h: ∀K,X.top K=g K) {f':sl X.args X.R} (wh:g (X.bo X.vC)=f'):eE P f (X.S q f'):=by
 have hb:X.fn.body.isSome=true:=by
  unfold Xl at hc
  simp only[Bool.and_eq_true]at hc
  exact hc.2.2.1
 exact mkS ht hf hc hG (Xn hb mY hr h wh)
theorem uJ{i:Nat}(mY:List Nat){g:(Nat→St→X.R)→(Nat→St→X.R)→Ln (X.c i) X.R}(h: ∀K ρ,X.bd K ρ i=g K ρ)(ρ:Nat→St→X.R){f:Ln (X.c i) X.R}(hf:g (X.bo ρ) ρ=f:=by rfl)
 (hi:odd i=false:=by kernel_rfl) (hr: ∀K ρ,X.tl K ρ i=mY.map fun t=>(K t,X.bo ρ t):=by intro K ρ;kernel_rfl):X.kc (X.bo ρ) i=f:=(okJ mY hi hr h ρ).trans hf
theorem uL{i:Nat}(mY:List Nat){g:(Nat→St→X.R)→(Nat→St→X.R)→Ln (X.c i) X.R}(h: ∀K ρ,X.bd K ρ i=g K ρ)(ρ:Nat→St→X.R)
 (G:Nat→Ln (X.c i) X.R) (hs: ∀n ρ',X.kc ρ' i=G n→(∀l,Nat.beq l i=false→X.kc ρ' l=X.kc ρ l)→g (X.bo ρ') ρ'=G (n+1)) (h0:X.cu i (fun _=>none)=G 0:=by rfl)
 (hi:okb X i=true:=by kernel_rfl) (hr: ∀K ρ,X.tl K ρ i=mY.map fun t=>(K t,X.bo ρ t):=by intro K ρ;kernel_rfl):X.kc (X.bo ρ) i=G X.N:=okL mY hi hr h ρ G h0 hs
variable(X)in
theorem u0{P:Program}(ht:xN P X.tab){f:FuncId}(hf:P.funcs[f]? =some X.fn){q:Bool}{g:sl X.args X.R}(hG:BH P X.G:=by first|exact trivial|exact Kn.all _)(hc:Xl X q=true:=by kernel_rfl)(h:J4 X.args (CY X.E X.fn X.args X.res)=g:=by kernel_rfl):eE P f (X.S q g):=ok0 X ht hf hc hG h
variable(X)in
theorem u1{P:Program}(ht:xN P X.tab){f:FuncId}(hf:P.funcs[f]? =some X.fn)(mY:List Nat)
 {g:(Nat→St→X.R)→sl X.args X.R} (h: ∀K,X.top K=g K) {q:Bool} {f':sl X.args X.R} (wh:g (X.bo X.vC)=f':=by rfl) (hG:BH P X.G:=by first|exact trivial|exact Kn.all _) (hc:Xl X q=true:=by kernel_rfl) (hr: ∀K,X.tlT K=mY.map fun t=>(K t,X.bo X.vC t):=by intro K;kernel_rfl):eE P f (X.S q f'):=ok1 X ht hf hc hG mY hr h wh
end Fx
end VM
end
section
namespace VM
open Go
variable{P:Program}
theorem Left.same(w:World)(M0:Nat→Prop)(h: ∀b,M0 b→b<w.heap.size):Left w M0 [] w M0:=
 ⟨fun _ h=>h,h,fun _ _ h=> .inl h,fun _ _ _=>rfl,Nat.le_refl _,rfl,rfl,rfl⟩
theorem acn{w:World}{M:Nat→Prop}{a b c:IntKind}{x:HP [.v (.int a),.v (.int b),.v (.int c)]}{vs:List Value}(h:fB w M [.v (.int a),.v (.int b),.v (.int c)] x vs):vs=[.int a x.1,.int b x.2.1,.int c x.2.2]:=by
 simp only[fB,A1,V,Ty.isAgg,Bool.false_eq_true,if_false,Rd,List.cons.injEq,and_true]at h
 obtain⟨v,vs,rfl,rfl,v,vs,rfl,rfl,v,vs,rfl,rfl,rfl⟩:=h
 rfl
theorem rr2{w:World}{M:Nat→Prop}{a b:IntKind}(x y:Int):RR w M [.v (.int a),.v (.int b)] (x,y) [.int a x,.int b y] []:=by
 simp only[RR]
 refine .inr ⟨_,_,rfl,rfl,rfl,?_,.inr ⟨_,_,rfl,rfl,rfl,?_,rfl,trivial⟩⟩<;>simp[A1,V,Ty.isAgg,Rd,pS,uq]
theorem II{f:FuncId}(run:Int×Int×Int→Option (Int×Int))
  (h: ∀(w:World) (a b c u v:Int),run (a,b,c)=some (u,v)→(callFunc f #[.int .u64 a,.int .u64 b,.int .u64 c]).run P w= .ok (.value (.tuple #[.int .u64 u,.int .u64 v])) w):
  eE P f {args:=[.v (.int .u64),.v (.int .u64),.v (.int .u64)],res:=[.v (.int .u64),.v (.int .u64)],quiet:=true,run}:=by
 refine⟨fun _=>rfl,rfl,fun M0 w vs x y mX hA _ _ hy=> ?_⟩
 have Px:=acn hA
 subst Px
 exact zF (h w x.1 x.2.1 x.2.2 y.1 y.2 hy) ⟨_,M0,rfl,rr2 y.1 y.2,Left.same w M0 mX,List.nodup_nil,fun b hb=>by cases hb⟩
theorem uM(nm:String)(a b c:Nat)(h:c≤1)(w:World):(Extern.MathBitsCarry.three nm #[.int .u64 a,.int .u64 b,.int .u64 c]).run P w= .ok (a,b,c) w:=by
 have h5: ¬(1<c):=by omega
 have:Extern.MathBitsCarry.three nm #[.int .u64 a,.int .u64 b,.int .u64 c]=(do
  let c:=(←asInt (.int .u64 c)).toNat
  if c>1 then unsupported (.noEntry ("extern/math/bits." ++nm++ ": a carry that is neither 0 nor 1"))
  pure ((←asInt (.int .u64 a)).toNat,(←asInt (.int .u64 b)).toNat,c)):=rfl
 rw[this]
 simp[asInt,asIntOf]
 omega
theorem J5{f:FuncId}{fn:Func}(N:Nat)(hf:P.funcs[f]? =some fn)(th:(fn.name== "runtime.NumGoroutine")=false)(hb:fn.body.isNone=true)(hn:Extern.findNext fn=none)
  (he:Extern.find fn=(Extern.MathBitsCarry.rows[0]?).map (·.2)):eE P f (rH.S N):=by
 refine II (fun x=>rH N x.1 x.2.1 x.2.2) fun w a b c u v hy=> ?_
 simp only[rH]at hy
 split at hy
 ·rename_i hc
  obtain⟨h1,h2,h3,h4⟩:=hc
  obtain⟨a,rfl⟩:=Int.eq_ofNat_of_zero_le h1
  obtain⟨b,rfl⟩:=Int.eq_ofNat_of_zero_le h2
  obtain⟨c,rfl⟩:=Int.eq_ofNat_of_zero_le h3
  cases hy
  rw[run_callFunc_extern hf th hb hn he]
  simp[uM _ a b c (by omega),Extern.MathBitsCarry.pair,Extern.MathBitsCarry.m64]
 ·cases hy
theorem aa0{f:FuncId}{fn:Func}(N:Nat)(hf:P.funcs[f]? =some fn)(th:(fn.name== "runtime.NumGoroutine")=false)(hb:fn.body.isNone=true)(hn:Extern.findNext fn=none)
  (he:Extern.find fn=(Extern.MathBitsCarry.rows[1]?).map (·.2)):eE P f (CZ.S N):=by
 refine II (fun x=>CZ N x.1 x.2.1 x.2.2) fun w a b c u v hy=> ?_
 simp only[CZ]at hy
 split at hy
 ·rename_i hc
  obtain⟨h1,kO,h2,rM,h3,h4⟩:=hc
  obtain⟨a,rfl⟩:=Int.eq_ofNat_of_zero_le h1
  obtain⟨b,rfl⟩:=Int.eq_ofNat_of_zero_le h2
  obtain⟨c,rfl⟩:=Int.eq_ofNat_of_zero_le h3
  cases hy
  rw[run_callFunc_extern hf th hb hn he]
  have e1:((a+18446744073709551616-b-c:Nat):Int)=(a:Int)+18446744073709551616-b-c:=by omega
  by_cases h:a<b+c
  ·have h':(a:Int)<(b:Int)+(c:Int):=by omega
   simp[uM _ a b c (by omega),Extern.MathBitsCarry.pair,Extern.MathBitsCarry.m64,e1,h,h']
  ·have h': ¬(a:Int)<(b:Int)+(c:Int):=by omega
   simp[uM _ a b c (by omega),Extern.MathBitsCarry.pair,Extern.MathBitsCarry.m64,e1,h,h']
 ·cases hy
end VM
end
section
namespace VM
open Go Go.Shelf Go.RowKit Go.Lib Go.Proofs
variable{P:Program}{ρ:Ren}
noncomputable def MC(ρ:Ren)(fn:Func):Func:={fn with body:=(Body2.n22 ρ).body,ntmps:=95,results:=(Body2.n22 ρ).results,nfree:=0}
theorem qi(ρ:Ren)(fn:Func):(MC ρ fn).ntmps=95:=rfl
structure J6(P:Program)(e:Ty)(ρ:Ren)(f:FuncId)(fn fo:Func):Prop where
 hf:P.funcs[f]? =some (MC ρ fn)
 t3:P.underlying (ρ.t 3)=some (.int .i64)
 t4:P.underlying (ρ.t 4)=some .bool
 t24:P.underlying (ρ.t 24)=some (.slice (ρ.t 9))
 lay:gh P e (ρ.t 9)
 la:0<e.size
 mixed:P.follows .mixedOrders=true
set_option maxHeartbeats 4000000 in
set_option maxRecDepth 100000 in
theorem BI{e:Ty}{f:FuncId}{fn fo:Func}(L:J6 P e ρ f fn fo)(w:World)(base:Option Addr)(n c m vc:Nat)(va:Addr)(v':Value)(w':World)(hm:0<m)(hn:n≤c)
  (Dp: ∀ty,(Builtin.append_ #[ρ.t 24,ρ.t 24] ty #[.slice base n c,.slice (some va) m vc]).run P w= .ok v' w'):
   Calls P f #[.slice base n c,.int .i64 n,.slice (some va) m vc] w fun r w2=>r= .returned v'∧w2=w':=by
 have u3:=run_underlying L.t3;have u4:=run_underlying L.t4;have u24:=run_underlying L.t24
 have t3:=L.t3;have t4:=L.t4;have t24:=L.t24
 have z9:=fun w=>bV L.lay w
 have mixed:=L.mixed
 have wX: ¬((m:Int)=0):=by omega
 go_enter L.hf,qi ρ fn
 cases base with
 |none=>
   go_wp2_with (at_builtin;refine Lib.wpList_append_run _ rfl _ _ _ _ rfl _ _ rfl rfl _ _ (Dp _) ?_)
   all_goals (go_ret;exact⟨rfl,rfl⟩)
 |some a=>
   obtain⟨ab,ao,asp⟩:=a
   go_wp2_with (at_builtin;refine Lib.wpList_append_run _ rfl _ _ _ _ rfl _ _ rfl rfl _ _ (Dp _) ?_)
   all_goals (go_ret;exact⟨rfl,rfl⟩)
theorem run_copy_row{t te e:TypeId}{k:Nat}(ht:P.underlying t=some (.slice e))(hk: ∀w,(Go.sizeOf e).run P w= .ok k w){W:World}{b o aco ahF Xo acp n:Nat}{a:Addr}{cs:Array Value}(hg:W.heap[b]? =some (.cells cs te (0,0)))
  {news:List Value} (hnn:Nat.min Xo aco=n) (hl:news.length=n*k) (hn: ∀j u,news[j]? =some u→W.cell? (a.add j)=some u) (h1: ∀u∈news,u.oneCell'=true) (Dh:o+news.length≤cs.size) (ty:TypeId):
  (Builtin.copy_ #[t,t] ty #[.slice (some ⟨b,o,none⟩) aco ahF,.slice (some a) Xo acp]).run P W= .ok (goInt n) (W.setRow b (c5 cs.toList o news).toArray):=by
 have hf:=run_firstCells_some (P:=P) W k n a Xo acp news hl hn
 have Gb:=run_storeCells_at (P:=P) b o te news 0 cs W hg (by omega) h1
 simp only[Nat.add_zero]at Gb
 simp[Builtin.copy_,run_underlying ht,hk,Builtin.lenOf,hnn,hf,Gb,c5]
set_option maxHeartbeats 4000000 in
set_option maxRecDepth 100000 in
theorem J7{e:Ty}{f:FuncId}{fn fo:Func}(L:J6 P e ρ f fn fo)(w:World)(b n c i m vc:Nat)(va:Addr)(BJ MD:Array Value)(hi:i<n)(hm:0<m)(hr:n+m≤c)(ahG:c≤9223372036854775807)
  (hov: ∀x lb cb,(callFunc (ρ.f 29) #[.slice (some va) m vc,.slice (some ⟨b,x,none⟩) lb cb]).run P w= .ok (.value (.bool false)) w)
  (P4: ∀ty dc sc,(Builtin.copy_ #[(ρ.t 24),(ρ.t 24)] ty #[.slice (some ⟨b,(i+m)*e.size,none⟩) (n+m-(i+m)) dc,.slice (some ⟨b,i*e.size,none⟩) (n+m-i) sc]).run P w.drew= .ok (goInt ((n-i:Nat):Int)) (w.drew.setRow b BJ))
  (P5: ∀W:World,W.heap=(w.setRow b BJ).heap→ ∀ty dc,(Builtin.copy_ #[(ρ.t 24),(ρ.t 24)] ty #[.slice (some ⟨b,i*e.size,none⟩) (n+m-i) dc,.slice (some va) m vc]).run P W= .ok (goInt m) (W.setRow b MD)):
   Calls P f #[.slice (some ⟨b,0,none⟩) n c,.int .i64 i,.slice (some va) m vc] w fun r w2=>r= .returned (.slice (some ⟨b,0,none⟩) (n+m) c)∧w2=(w.drew.setRow b BJ).setRow b MD:=by
 have u3:=run_underlying L.t3;have u4:=run_underlying L.t4;have u24:=run_underlying L.t24
 have t3:=L.t3;have t4:=L.t4;have t24:=L.t24
 have z9:=fun w=>bV L.lay w
 have mixed:=L.mixed
 have wX: ¬((m:Int)=0):=by omega
 have Gm: ¬((i:Int)=(n:Int)):=by omega
 have hw1:IntKind.i64.wrap ((i:Int)+(m:Int))=(i:Int)+(m:Int):=by rw[IntKind.wrap_i64];omega
 have jo:(0:Int)≤(i:Int)+(m:Int):=by omega
 have gC:i≤n:=by omega
 have JY:((i:Int)+(m:Int)).toNat=i+m:=by omega
 have rX: ¬(c=i+m):=by omega
 have hb3:(i:Int)≤(n:Int)+(m:Int):=by omega
 have hb4: ¬(c=i):=by omega
 go_enter L.hf,qi ρ fn
 go_wp2_with (simp only[hov])
 go_region_law_o (refine step_copy_runI rfl _ _ (ρ.t 24) (ρ.t 24) rfl _ _ (by simp[Act.eval,Act.put]) (by simp[Act.eval,Act.put]) (P4 _ _ _) ?_)
 have h2:=P5 (w.drew.setRow b BJ) rfl
 go_wp2
 go_ret
 exact⟨rfl,rfl⟩
set_option maxHeartbeats 4000000 in
set_option maxRecDepth 100000 in
theorem ME{e:Ty}{f:FuncId}{fn fo:Func}(L:J6 P e ρ f fn fo)(w:World)(b n c i m vc nb G:Nat)(va:Addr)(J8 BJ MD:Array Value)(hi:i<n)(hm:0<m)(hnc:n≤c)(hr:c<n+m)(ahG:c≤9223372036854775807)(Vu:n+m≤9223372036854775807)(hG:n+m≤G)(aoa:G≤9223372036854775807)
  (Dp: ∀ty,(Builtin.append_ #[(ρ.t 24),(ρ.t 3)] ty #[.slice (some ⟨b,0,none⟩) i c,.int .i64 ((n:Int)+(m:Int)-(i:Int))]).run P w= .ok (.slice (some ⟨w.heap.size,0,none⟩) (n+m) G) (w.drew.alloc (.cells J8 (ρ.t 9))))
  (P4: ∀W:World,W.heap=(w.alloc (.cells J8 (ρ.t 9))).heap→ ∀ty dc,(Builtin.copy_ #[(ρ.t 24),(ρ.t 24)] ty #[.slice (some ⟨w.heap.size,i*e.size,none⟩) (n+m-i) dc,.slice (some va) m vc]).run P W= .ok (goInt m) (W.setRow w.heap.size BJ))
  (P5: ∀W:World,W.heap=((w.alloc (.cells J8 (ρ.t 9))).setRow w.heap.size BJ).heap→ ∀ty dc sc,(Builtin.copy_ #[(ρ.t 24),(ρ.t 24)] ty #[.slice (some ⟨w.heap.size,(i+m)*e.size,none⟩) (n+m-(i+m)) dc,.slice (some ⟨b,i*e.size,none⟩) (n-i) sc]).run P W= .ok (goInt ((n-i:Nat):Int)) (W.setRow w.heap.size MD)):
   Calls P f #[.slice (some ⟨b,0,none⟩) n c,.int .i64 i,.slice (some va) m vc] w fun r w2=>r= .returned (.slice (some ⟨w.heap.size,0,none⟩) (n+m) G)∧w2=((w.drew.alloc (.cells J8 (ρ.t 9))).setRow w.heap.size BJ).drew.setRow w.heap.size MD:=by
 have u3:=run_underlying L.t3;have u4:=run_underlying L.t4;have u24:=run_underlying L.t24
 have t3:=L.t3;have t4:=L.t4;have t24:=L.t24
 have z9:=fun w=>bV L.lay w
 have mixed:=L.mixed
 have wX: ¬((m:Int)=0):=by omega
 have Gm: ¬((i:Int)=(n:Int)):=by omega
 have hz3:(c:Int)<(n:Int)+(m:Int):=by omega
 have hw1:IntKind.i64.wrap ((i:Int)+(m:Int))=(i:Int)+(m:Int):=by rw[IntKind.wrap_i64];omega
 have jo:(0:Int)≤(i:Int)+(m:Int):=by omega
 have gC:i≤n:=by omega
 have JY:((i:Int)+(m:Int)).toNat=i+m:=by omega
 have hGi: ¬(G=i):=by omega
 have aob: ¬(G=i+m):=by omega
 have hci: ¬(c=i):=by omega
 have hb3:(i:Int)≤(n:Int):=by omega
 have h1:=P4 ((w.alloc (.cells J8 (ρ.t 9))).drew) rfl
 have h2:=P5 (((w.alloc (.cells J8 (ρ.t 9))).drew.setRow w.heap.size BJ).drew) rfl
 go_enter L.hf,qi ρ fn
 go_wp2_with (first
   |(at_builtin;refine Lib.wpList_append_run _ rfl _ _ _ _ rfl _ _ rfl rfl _ _ (Dp _) ?_)
   |(at_builtin;refine wpList_copy_runI _ rfl _ _ (ρ.t 24) (ρ.t 24) rfl _ _ rfl rfl (P4 _ (by exact rfl) _ _) ?_)
   |(at_builtin;refine wpList_copy_runI _ rfl _ _ (ρ.t 24) (ρ.t 24) rfl _ _ rfl rfl (P5 _ (by exact rfl) _ _ _) ?_))
 go_region_law_o (refine step_copy_runI rfl _ _ (ρ.t 24) (ρ.t 24) rfl _ _ (by simp[Act.eval,Act.put]) (by simp[Act.eval,Act.put]) (h2 _ _ _) ?_)
 go_wp2
 go_ret
 exact⟨rfl,rfl⟩
theorem wZ{α:Type}(A Z news:List α):c5 (A++Z) A.length news=A++(news++Z.drop news.length):=by
 unfold c5
 rw[List.take_left' rfl,List.append_assoc,←List.drop_drop,List.drop_left' rfl]
theorem lY.acq{w:World}{M:Nat→Prop}{e:Ty}{cs:List Value}{l:List e.den}(h:lY w M e cs l)(i:Nat):lY w M e (cs.take (i*e.size)) (l.take i):=by
 intro j hj
 rw[List.length_take]at hj
 have:=cH (s:=e.size) (show j<i by omega)
 rw[List.drop_take,List.take_take,Nat.min_eq_left (by omega),List.getElem_take]
 exact h j (by omega)
theorem lY.acr{w:World}{M:Nat→Prop}{e:Ty}{cs:List Value}{l:List e.den}(h:lY w M e cs l)(i:Nat):lY w M e ((cs.drop (i*e.size)).take ((l.length-i)*e.size)) (l.drop i):=by
 intro j hj
 rw[List.length_drop]at hj
 have:=cH (s:=e.size) hj
 rw[List.drop_take,List.take_take,Nat.min_eq_left (by omega),List.drop_drop,List.getElem_drop,←Nat.add_mul]
 exact h (i+j) (by omega)
theorem qV{w w':World}{M0:Nat→Prop}{hs:List Nat}{e:Ty}{rb cap:Nat}{row:Array Value}{t:TypeId}{l:List e.den}(mX: ∀b,M0 b→b<w.heap.size)(qf: ∀b∈hs,¬M0 b)
  (Vw: ∀b,b<w.heap.size→b∉hs→w'.heap[b]? =w.heap[b]?) (oy:w.heap.size≤w'.heap.size) (hrb:rb<w.heap.size→rb∈hs) (hos:w'.os=w.os) (htp:w'.tape=w.tape) (GJ:w'.output=w.output)
  (GK:w'.heap[rb]? =some (.cells row t (0,0))) (h0:0<cap) (hl:l.length≤cap) (hm:cap≤maxLen) (hrs:row.size=cap*e.size) (gB:lY w (fun b=>M0 b∨b∈hs) e row.toList l):
  ∃us M',Value.slice (some ⟨rb,0,none⟩) l.length cap=qa us∧RR w' M' [.own e] l us []∧Left w M0 hs w' M'∧(aZ [.own e] us []).Nodup∧ ∀b∈aZ [.own e] us [],¬M0 b:=by
 have Gc:rb<w'.heap.size:=(Array.getElem?_eq_some_iff.1 GK).1
 have hk:c4 w (fun b=>M0 b∨b∈hs) w' (fun b=>M0 b∨b=rb):=⟨oy,fun b hb hn=>Vw b hb (fun h=>hn (.inr h)),fun b hb h=>h.elim .inl (fun e=> .inr (e▸hrb (e▸hb)))⟩
 have sN:aZ [.own e] [Value.slice (some ⟨rb,0,none⟩) l.length cap] []=[rb]:=by
  have:cap≠0:=by omega
  simp[aZ,cf,AM.fk,dV,this]
 refine⟨[.slice (some ⟨rb,0,none⟩) l.length cap],fun b=>M0 b∨b=rb,rfl,?_,?_,?_,?_⟩
 ·simp only[RR]
  refine .inr ⟨_,[],rfl,rfl,rfl,?_,rfl,trivial⟩
  simp only[A1,ER,pS]
  exact .inr ⟨rb,row,t,cap,rfl,GK,.inr rfl,h0,hl,hm,hrs,gB.br hk⟩
 ·exact⟨fun b h=> .inl h,fun b h=>h.elim (fun h=>Nat.lt_of_lt_of_le (mX b h) oy) (fun h=>h▸Gc),fun b hb h=>h.elim .inl (fun e=> .inr (e▸hrb (e▸hb))),Vw,oy,hos,htp,GJ⟩
 ·rw[sN];simp
 ·rw[sN]
  intro b hb h
  rw[List.mem_singleton]at hb
  subst hb
  exact qf b (hrb (mX b h)) h
theorem setRow_other(w:World){b c:Nat}(r:Array Value)(h:c≠b):(w.setRow b r).heap[c]? =w.heap[c]? :=by
 unfold World.setRow
 rw[Array.getElem?_modify,if_neg (fun e=>h e.symm)]
theorem setRow_size(w:World)(b:Nat)(r:Array Value):(w.setRow b r).heap.size=w.heap.size:=by
 unfold World.setRow;simp
theorem alloc_old(w:World)(o:Obj){c:Nat}(h:c<w.heap.size):(w.alloc o).heap[c]? =w.heap[c]? :=by
 show(w.heap.push o)[c]? =_
 rw[Array.getElem?_push,if_neg (by omega)]
theorem lL(w:World)(o:Obj):(w.alloc o).heap[w.heap.size]? =some o:=by
 show(w.heap.push o)[w.heap.size]? =_
 simp
theorem jz(w:World)(o:Obj):(w.alloc o).heap.size=w.heap.size+1:=by
 show(w.heap.push o).size=_
 simp
theorem oN{w:World}{b:Nat}{cs:Array Value}{t:TypeId}{f:Nat×Nat}(h:w.heap[b]? =some (.cells cs t f))(o n:Nat): ∀j u,((cs.toList.drop o).take n)[j]? =some u→w.cell? ((⟨b,o,none⟩:Addr).add j)=some u:=by
 intro j u hj
 rw[Addr.add_lit]
 rw[List.getElem?_take]at hj
 split at hj
 ·rw[List.getElem?_drop,Array.getElem?_toList]at hj
  simp only[World.cell?,h]
  simpa using hj
 ·cases hj
theorem IJ{w:World}{M:Nat→Prop}{v:Value}{e:Ty}{l:List e.den}(h:ER w M v (.own e l)):(l=[]∧ ∃a,v= .slice a 0 0)∨
 ∃b cs t cap,v= .slice (some ⟨b,0,none⟩) l.length cap∧w.heap[b]? =some (.cells cs t (0,0))∧M b∧0<cap∧l.length≤cap∧cap≤maxLen∧cs.size=cap*e.size∧lY w M e cs.toList l:=h
end VM
end
section
namespace VM
open Go Go.Shelf Go.RowKit Go.Lib Go.Proofs
variable{P:Program}{ρ:Ren}
theorem xP{w:World}{t e':TypeId}{e:Ty}(hu:P.underlying t=some (.slice e'))(hle:gh P e e'){n m cap cp:Nat}{olds news:List Value}{base:Option Addr}{a':Addr}(LX:base=none→n=0∧cap=0)
  (wx:olds.length=n*e.size) (ho: ∀b,base=some b→ ∀j u,olds[j]? =some u→w.cell? (b.add j)=some u) (O2:news.length=m*e.size) (hn: ∀j u,news[j]? =some u→w.cell? (a'.add j)=some u)
  (hg:cap<n+m) (hs:n+m<sS):
  ∃iR rest,(∀ty,(Builtin.append_ #[t,t] ty #[.slice base n cap,.slice (some a') m cp]).run P w= .ok (.slice (some ⟨w.heap.size,0,none⟩) (n+m) iR) (w.drew.alloc (.cells (olds++news++rest).toArray e')))∧
   n+m≤iR∧iR≤maxLen∧rest.length=(iR-(n+m))*e.size:=by
 obtain⟨i,hi,oy,hz,WR⟩:=hle.base
 have hzs:(bE e e.bW).cells.size=e.size:=by rw[←Array.length_toList,eg,jR]
 have Vu:n+m≤maxLen:=by simp only[sS,maxLen]at hs ⊢;omega
 have Dh:(n+m)*i.bytes≤140737488355328:=by
  have:(n+m)*i.bytes≤68719476736*2048:=Nat.mul_le_mul (by simp only[sS]at hs;omega) WR
  omega
 refine⟨grownCap w (n+m) cap e',(Builtin.zeroCells (bE e e.bW).cells (grownCap w (n+m) cap e'-(n+m))).toList,fun ty=> ?_,grownCap_ge _ _ _ _,grownCap_le_maxLen _ _ _ _ Vu,?_⟩
 ·cases base with
  |none=>
   obtain⟨rfl,rfl⟩:=LX rfl
   have ho0:olds=[]:=List.eq_nil_of_length_eq_zero (by rw[wx];simp)
   subst ho0
   have:=run_append_nil (P:=P) w t ty e' i _ hu hi hz a' m cp news (by rw[O2,oy]) hn (by simpa using hg) (by simp only[sS]at hs;omega) (by simp at Dh;omega)
   simp only[Nat.zero_add,List.nil_append]
   rw[this]
   congr 2
   apply congrArg (fun z=>Obj.cells z e' (0,0))
   apply Array.ext';simp
  |some b=>
   have:=run_append_grow (P:=P) w t ty e' i _ hu hi hz b n cap olds (by rw[wx,oy]) (ho b rfl) a' m cp news (by rw[O2,oy]) hn hg (by simp only[sS]at hs;omega) (growslice_fits hg Dh)
   rw[this]
   congr 2
   apply congrArg (fun z=>Obj.cells z e' (0,0))
   apply Array.ext';simp
 ·rw[Array.length_toList,size_zeroCells,hzs]
theorem J9{w:World}{t tn e':TypeId}{e:Ty}(hu:P.underlying t=some (.slice e'))(JY:P.underlying tn=some (.int .i64))(hle:gh P e e')(Xh:0<e.size){n k cap:Nat}{olds:List Value}{b:Addr}
  (wx:olds.length=n*e.size) (ho: ∀j u,olds[j]? =some u→w.cell? (b.add j)=some u) (hk:0<k) (hg:cap<n+k) (hs:n+k<sS):
  ∃iR rest,(∀ty,(Builtin.append_ #[t,tn] ty #[.slice (some b) n cap,.int .i64 k]).run P w= .ok (.slice (some ⟨w.heap.size,0,none⟩) (n+k) iR) (w.drew.alloc (.cells (olds++rest).toArray e')))∧
   n+k≤iR∧iR≤maxLen∧rest.length=(iR-n)*e.size:=by
 obtain⟨i,hi,oy,hz,WR⟩:=hle.base
 have hzs:(bE e e.bW).cells.size=e.size:=by rw[←Array.length_toList,eg,jR]
 have Vu:n+k≤maxLen:=by simp only[sS,maxLen]at hs ⊢;omega
 have Dh:(n+k)*i.bytes≤140737488355328:=by
  have:(n+k)*i.bytes≤68719476736*2048:=Nat.mul_le_mul (by simp only[sS]at hs;omega) WR
  omega
 have hkb:k*i.bytes≤281474976710656:=by
  have:k*i.bytes≤(n+k)*i.bytes:=Nat.mul_le_mul_right _ (by omega)
  omega
 have PI:=grownCap_ge w (n+k) cap e'
 refine⟨grownCap w (n+k) cap e',(Builtin.zeroCells (bE e e.bW).cells k++Builtin.zeroCells (bE e e.bW).cells (grownCap w (n+k) cap e'-(n+k))).toList,fun ty=> ?_,PI,grownCap_le_maxLen _ _ _ _ Vu,?_⟩
 ·have hold:(Builtin.firstCells i.size n (.slice (some b) n cap)).run P w.drew= .ok olds.toArray w.drew:=run_firstCells_some w.drew i.size n b n cap olds (by rw[wx,oy]) (fun j u hj=>ho j u hj)
  have:=Lib.run_append_grow_zeros w t tn ty e' i _ .i64 .i64 hu JY hi hz (some b) n cap olds hold k hk (by rw[oy];exact Xh) hg (by simp only[sS]at hs;omega) hkb (growslice_fits hg Dh)
  rw[this]
  congr 2
  apply congrArg (fun z=>Obj.cells z e' (0,0))
  apply Array.ext';simp
 ·rw[Array.toList_append,List.length_append,Array.length_toList,Array.length_toList,size_zeroCells,size_zeroCells,hzs,←Nat.add_mul]
  congr 1;omega
structure OvP(P:Program)(ρ:Ren)(fo:Func):Prop where
 hf:P.funcs[ρ.f 29]? =some fo
 name:(fo.name== "runtime.NumGoroutine")=false
 body:fo.body.isNone=true
 next:Extern.findNext fo=none
 find:Extern.find fo=some (Extern.SlicesOverlaps.overlaps #[ρ.t 24,ρ.t 24] #[ρ.t 4])
theorem xQ{e:Ty}{f:FuncId}{fn fo:Func}(L:J6 P e ρ f fn fo)(O:OvP P ρ fo)(th:(fn.name== "runtime.NumGoroutine")=false)(MF:(Body2.n22 ρ).body.isNone=false)(N:Nat):eE P f (gY e N):=by
 refine⟨(fun h=>by cases h),rfl,fun M0 w vs x y mX hA td qf hy=> ?_⟩
 obtain⟨l,i,v⟩:=x
 have Mo:lf N l i v=some y:=hy
 clear hy
 simp only[gY,fB]at hA
 obtain⟨v0,O6,rfl,h0,v1,vs2,rfl,h1,v2,vs3,rfl,h2,rfl⟩:=hA
 simp only[lf]at Mo
 split at Mo
 case isFalse=>cases Mo
 rename_i hc
 cases Mo
 obtain⟨hi0,zx,GG,BK⟩:=hc
 obtain⟨i,rfl⟩:=Int.eq_ofNat_of_zero_le hi0
 have acs:i≤l.length:=by omega
 simp only[A1,pS,uq,V,Ty.isAgg,Bool.false_eq_true,if_false,Rd,List.cons.injEq,and_true]at h0 h1 h2
 subst h1
 have hk:=L.la
 replace GG:List.length (α:=e.den) v=1:=GG
 rcases IJ h2 with⟨PX,_⟩|⟨b2,WD,t2,tq,Py,LF,Bq,WS,hl2,sY,VC,CG⟩
 ·rw[PX]at GG;cases GG
 replace Py:v2= .slice (some ⟨b2,0,none⟩) 1 tq:=by rw[Py];congr 1
 subst Py
 have Pw:e.size≤WD.toList.length:=by
  rw[Array.length_toList (xs:=WD),VC]
  exact Nat.le_mul_of_pos_left _ WS
 obtain⟨news,MG⟩: ∃news,news=WD.toList.take e.size:=⟨_,rfl⟩
 have z6:news.length=1*e.size:=by rw[MG,List.length_take,Nat.one_mul];omega
 have hnr:lY w (fun b=>M0 b∨b∈cv (gY e N).args [v0,.int .i64 (i:Int),.slice (some ⟨b2,0,none⟩) 1 tq]) e news v:=by
  rw[MG];exact CG.take (by rw[GG,Nat.one_mul];exact Nat.le_refl _)
 have hnc: ∀j u,news[j]? =some u→w.cell? ((⟨b2,0,none⟩:Addr).add j)=some u:=by
  have:=oN LF 0 e.size
  rw[List.drop_zero]at this
  rw[MG];exact this
 have hn1: ∀u∈news,u.oneCell'=true:=by
  have:=hnr 0 (by omega)
  rw[Nat.zero_mul,List.drop_zero,List.take_of_length_le (by omega)]at this
  exact this.jQ
 have rX:dV (.slice (some ⟨b2,0,none⟩) 1 tq)=some b2:=by simp[dV];omega
 replace BK:List.length (α:=e.den) l+1<sS:=BK
 have VE:(List.take i l++(v++List.drop i l)).length=l.length+1:=by rw[List.length_append,List.length_append,List.length_take,List.length_drop,GG];omega
 have hbn:(MC ρ fn).body.isNone=false:=MF
 refine nQ L.hf th hbn ?_
 rcases IJ h0 with⟨rfl,ad,rfl⟩|⟨b1,sO,t1,wA,rfl,Gf,hM1,Df,hl1,ob,Iu,Gn⟩
 ·
  have hi:i=0:=by simpa using acs
  subst hi
  obtain⟨iR,rest,cr,J1,gk,Gc⟩:=xP (P:=P) (w:=w) L.t24 L.lay (n:=0) (m:=1) (cap:=0) (cp:=tq) (olds:=[]) (news:=news) (base:=ad) (a':=⟨b2,0,none⟩) (fun _=>⟨rfl,rfl⟩) (by simp) (fun _ _ j u hj=>by simp at hj) z6 hnc (by omega) (by simp only[sS];omega)
  refine(BI L w ad 0 0 1 tq ⟨b2,0,none⟩ _ _ (by omega) (Nat.le_refl _) cr).mono ?_
  rintro e1 w' ⟨rfl,rfl⟩
  refine⟨_,rfl,?_⟩
  simp only[Nat.zero_add]at J1 Gc
  have hv:v=v++[]:=by simp
  have:=qV (e:=e) (rb:=w.heap.size) (cap:=iR) (l:=v) (t:=ρ.t 9) (w:=w) (w':=w.drew.alloc (.cells ([]++news++rest).toArray (ρ.t 9))) mX qf (fun b hb _=>alloc_old w.drew _ hb) (by rw[jz];exact Nat.le_succ _) (fun h=>absurd h (Nat.lt_irrefl _)) rfl rfl rfl (lL w.drew _) (by omega) (by omega) gk
   (by simp only[List.nil_append,List.size_toArray,List.length_append,z6,Gc,←Nat.add_mul];congr 1;omega) (by simpa using hnr.more (cs':=rest) (by rw[GG,z6];exact Nat.le_refl _))
  rw[GG]at this
  simpa [gY,dg,AM.fk]using this
 ·have jo:dV (.slice (some ⟨b1,0,none⟩) l.length wA)=some b1:=by simp[dV];omega
  have hh:cv (gY e N).args [.slice (some ⟨b1,0,none⟩) l.length wA,.int .i64 (i:Int),.slice (some ⟨b2,0,none⟩) 1 tq]=[b1,b2]:=by simp[gY,cv,cf,jo,rX]
  rw[hh]at td qf hnr ⊢
  replace Gn:lY w (fun b=>M0 b∨b∈[b1,b2]) e sO.toList l:=by rw[←hh];exact Gn
  have gG:b1≠b2:=by simpa using td
  have ahK:b1<w.heap.size:=(Array.getElem?_eq_some_iff.1 Gf).1
  have abA:b2<w.heap.size:=(Array.getElem?_eq_some_iff.1 LF).1
  have oc:l.length*e.size≤sO.toList.length:=by rw[Array.length_toList (xs:=sO),Iu];exact Nat.mul_le_mul_right _ hl1
  have hik:i*e.size≤l.length*e.size:=Nat.mul_le_mul_right _ acs
  obtain⟨A,hAe⟩: ∃A,A=sO.toList.take (i*e.size):=⟨_,rfl⟩
  obtain⟨mid,Xp⟩: ∃mid,mid=(sO.toList.drop (i*e.size)).take ((l.length-i)*e.size):=⟨_,rfl⟩
  have IK:A.length=i*e.size:=by rw[hAe,List.length_take];omega
  have zm:mid.length=(l.length-i)*e.size:=by
   rw[Xp,List.length_take,List.length_drop,Nat.sub_mul];omega
  have hAr:=Gn.acq i
  have hmr:=Gn.acr i
  rw[←hAe]at hAr
  rw[←Xp]at hmr
  have hti:(l.take i).length=i:=by rw[List.length_take];omega
  have IL: ∀rest:List Value,lY w (fun b=>M0 b∨b∈[b1,b2]) e (A++(news++(mid++rest))) (l.take i++(v++l.drop i)):=fun rest=>
   hAr.append (by rw[IK,hti]) (hnr.append (by rw[z6,GG]) (hmr.more (by rw[List.length_drop,zm];exact Nat.le_refl _)))
  have hAc: ∀j u,A[j]? =some u→w.cell? ((⟨b1,0,none⟩:Addr).add j)=some u:=by
   have:=oN Gf 0 (i*e.size)
   rw[List.drop_zero]at this
   rw[hAe];exact this
  have hmc: ∀j u,mid[j]? =some u→w.cell? ((⟨b1,i*e.size,none⟩:Addr).add j)=some u:=by
   rw[Xp];exact oN Gf (i*e.size) _
  have acx: ∀u∈mid,u.oneCell'=true:=by
   intro u hu
   obtain⟨j,hj,rfl⟩:=List.mem_iff_getElem.1 hu
   rw[zm]at hj
   have hq:j/e.size<l.length-i:=Nat.div_lt_of_lt_mul (by rw[Nat.mul_comm];exact hj)
   have:=(hmr (j/e.size) (by rw[List.length_drop];exact hq)).jQ
   refine this _ ?_
   have hjm:j/e.size*e.size+j%e.size=j:=by rw[Nat.mul_comm];exact Nat.div_add_mod j e.size
   have zq:j%e.size<e.size:=Nat.mod_lt _ hk
   rw[List.mem_iff_getElem?]
   refine⟨j%e.size,?_⟩
   rw[List.getElem?_take,if_pos zq,List.getElem?_drop,hjm]
   exact List.getElem?_eq_getElem _
  by_cases gC:i=l.length
  ·
   subst gC
   have WO:mid=[]:=List.eq_nil_of_length_eq_zero (by rw[zm];simp)
   by_cases tb:l.length+1≤wA
   ·obtain⟨ie,hie,oy,_⟩:=L.lay.base
    have cr: ∀ty,(Builtin.append_ #[ρ.t 24,ρ.t 24] ty #[.slice (some ⟨b1,0,none⟩) l.length wA,.slice (some ⟨b2,0,none⟩) 1 tq]).run P w=_:=fun ty=>
     Dg (ty:=ty) (cp:=tq) L.t24 hie Gf (by rw[oy];exact Iu) (by rw[oy];exact z6) hnc hn1 tb
    refine(BI L w _ _ _ 1 tq ⟨b2,0,none⟩ _ _ (by omega) hl1 cr).mono ?_
    rintro e1 w' ⟨rfl,rfl⟩
    refine⟨_,rfl,?_⟩
    rw[oy]
    have GK:c5 sO.toList (l.length*e.size) news=A++(news++(mid++sO.toList.drop (l.length*e.size+news.length))):=by
     rw[WO,hAe];simp[c5]
    have:=qV (e:=e) (rb:=b1) (cap:=wA) (l:=l.take l.length++(v++l.drop l.length)) (t:=t1) (w:=w) (w':=w.setRow b1 (c5 sO.toList (l.length*e.size) news).toArray) mX qf (fun b hb hn=>setRow_other w _ (fun e=>hn (by simp[e]))) (by rw[setRow_size];exact Nat.le_refl _) (fun _=>by simp) rfl rfl rfl (setRow_heap w b1 sO _ t1 _ Gf) Df (by rw[VE];exact tb) ob
     (by
      have:=cH (s:=e.size) (show l.length<wA by omega)
      rw[GK,List.size_toArray]
      simp only[List.length_append,WO,List.length_nil,List.length_drop,Array.length_toList,IK,z6,Iu]
      omega)
     (by rw[GK];exact IL _)
    rw[VE]at this
    simpa [gY,dg,AM.fk]using this
   ·obtain⟨iR,rest,cr,J1,gk,Gc⟩:=xP (P:=P) (w:=w) L.t24 L.lay (n:=l.length) (m:=1) (cap:=wA) (cp:=tq) (olds:=A) (news:=news) (base:=some ⟨b1,0,none⟩) (a':=⟨b2,0,none⟩) (fun h=>by cases h) IK (fun b hb=>by cases hb;exact hAc) z6 hnc (by omega) BK
    refine(BI L w _ _ _ 1 tq ⟨b2,0,none⟩ _ _ (by omega) hl1 cr).mono ?_
    rintro e1 w' ⟨rfl,rfl⟩
    refine⟨_,rfl,?_⟩
    have:=qV (e:=e) (rb:=w.heap.size) (cap:=iR) (l:=l.take l.length++(v++l.drop l.length)) (t:=ρ.t 9) (w:=w) (w':=w.drew.alloc (.cells (A++news++rest).toArray (ρ.t 9))) mX qf (fun b hb _=>alloc_old w.drew _ hb) (by rw[jz];exact Nat.le_succ _) (fun h=>absurd h (Nat.lt_irrefl _)) rfl rfl rfl (lL w.drew _) (by omega) (by rw[VE];exact J1) gk
     (by simp only[List.size_toArray,List.length_append,IK,z6,Gc,←Nat.add_mul];congr 1;omega) (by have:=IL rest;rw[WO,List.nil_append,←List.append_assoc]at this;exact this)
    rw[VE]at this
    simpa [gY,dg,AM.fk]using this
  ·have Xq:i<l.length:=by omega
   have PH:i*e.size+e.size≤l.length*e.size:=cH Xq
   have e1k:(i+1)*e.size=A.length+news.length:=by rw[IK,z6,Nat.add_mul]
   have xr:Nat.min 1 (l.length+1-i)=1:=Nat.min_eq_left (by omega)
   by_cases tb:l.length+1≤wA
   ·
    have acy:l.length*e.size+e.size≤sO.toList.length:=by rw[Array.length_toList (xs:=sO),Iu];exact cH (by omega)
    have hsh: ∀(b:Nat) (c:Array Value) (t:TypeId),w.heap[b]? =some (.cells c t (0,0))→w.shape? b=some (t,c.size):=fun b c t h=>by simp[World.shape?,h]
    obtain⟨B,hB⟩: ∃B,B=sO.toList.drop (i*e.size):=⟨_,rfl⟩
    have acz:sO.toList=A++B:=by rw[hAe,hB,List.take_append_drop]
    have hBl:B.length=sO.toList.length-i*e.size:=by rw[hB,List.length_drop]
    have hBk:(B.take e.size).length=e.size:=by rw[List.length_take];omega
    have DJ:c5 sO.toList ((i+1)*e.size) mid=A++(B.take e.size++(mid++(B.drop e.size).drop mid.length)):=by
     have:sO.toList=(A++B.take e.size)++B.drop e.size:=by rw[List.append_assoc,List.take_append_drop];exact acz
     rw[this,show(i+1)*e.size=(A++B.take e.size).length from by rw[List.length_append,hBk,IK,Nat.add_mul,Nat.one_mul],wZ,List.append_assoc]
    have DK:c5 (c5 sO.toList ((i+1)*e.size) mid) (i*e.size) news=A++(news++(mid++(B.drop e.size).drop mid.length)):=by
     rw[DJ,←IK,wZ,z6,Nat.one_mul,List.drop_left' hBk]
    refine(J7 L w b1 l.length wA i 1 tq ⟨b2,0,none⟩ (c5 sO.toList ((i+1)*e.size) mid).toArray (c5 (c5 sO.toList ((i+1)*e.size) mid) (i*e.size) news).toArray Xq (by omega) tb (by simp only[maxLen]at ob;omega) (fun x lb cb=> ?_) (fun ty dc sc=> ?_) (fun W hW ty dc=> ?_)).mono ?_
    ·rw[run_callFunc_extern O.hf O.name O.body O.next O.find,
      Lib.run_overlaps_apart w (ρ.t 24) (ρ.t 4) (ρ.t 9) L.t24 e.size (fun w=>bV L.lay w) ⟨b2,0,none⟩ ⟨b1,x,none⟩ 1 tq lb cb (Ne.symm gG) t2 t1 WD.size sO.size (hsh b2 WD t2 LF) (hsh b1 sO t1 Gf) (by rw[Iu];exact Nat.ne_of_gt (Nat.mul_pos Df hk)) (by simp[World.frozen?,LF]) (by simp[World.frozen?,LF])]
     rfl
    ·exact run_copy_row (P:=P) (W:=w.drew) L.t24 (fun w=>bV L.lay w) (cs:=sO) Gf (news:=mid) (n:=l.length-i) (by simp only[Nat.min_def];split<;>omega) zm hmc acx (by rw[zm,Nat.add_mul,Nat.one_mul];rw[Array.length_toList (xs:=sO)]at acy;rw[Nat.sub_mul];omega) ty
    ·exact run_copy_row (P:=P) (W:=W) L.t24 (fun w=>bV L.lay w) (cs:=(c5 sO.toList ((i+1)*e.size) mid).toArray) (te:=t1) (by rw[hW];exact setRow_heap w b1 sO _ t1 _ Gf) (news:=news) (n:=1) xr z6
      (fun j u hj=>by
       have:=hnc j u hj
       rw[Addr.add_lit]at this ⊢
       rw[show W.cell? ⟨b2,0+j,none⟩=w.cell? ⟨b2,0+j,none⟩from World.cell?_of_block (by rw[hW];exact setRow_other w _ (Ne.symm gG))]
       exact this) hn1 (by
       rw[List.size_toArray,DJ]
       simp only[List.length_append,hBk,IK,z6]
       omega) ty
    ·rintro e1 w' ⟨rfl,rfl⟩
     refine⟨_,rfl,?_⟩
     have:=qV (e:=e) (rb:=b1) (cap:=wA) (l:=l.take i++(v++l.drop i)) (t:=t1) (w:=w) (w':=(w.drew.setRow b1 (c5 sO.toList ((i+1)*e.size) mid).toArray).setRow b1 (c5 (c5 sO.toList ((i+1)*e.size) mid) (i*e.size) news).toArray) mX qf
      (fun b hb hn=>(setRow_other _ _ (fun e=>hn (by simp[e]))).trans (setRow_other _ _ (fun e=>hn (by simp[e])))) (by rw[setRow_size,setRow_size];exact Nat.le_refl _) (fun _=>by simp) rfl rfl rfl (setRow_heap _ b1 _ _ t1 _ (setRow_heap w.drew b1 sO _ t1 _ Gf)) Df (by rw[VE];exact tb) ob
      (by
       rw[DK,List.size_toArray]
       rw[Array.length_toList (xs:=sO)]at acy hBl
       simp only[List.length_append,List.length_drop,IK,z6,zm,hBl,Nat.sub_mul]
       omega)
      (by rw[DK];exact IL _)
     rw[VE]at this
     simpa [gY,dg,AM.fk]using this
   ·
    obtain⟨iR,Z,cr,J1,gk,hZl⟩:=J9 (P:=P) (w:=w) L.t24 L.t3 L.lay hk (n:=i) (k:=l.length+1-i) (cap:=wA) (olds:=A) (b:=⟨b1,0,none⟩) IK hAc (by omega) (by omega) (by omega)
    have ahN:i+(l.length+1-i)=l.length+1:=by omega
    rw[ahN]at cr J1
    have hZk:(l.length+1-i)*e.size≤Z.length:=by rw[hZl];exact Nat.mul_le_mul_right _ (by omega)
    rw[Nat.sub_mul,Nat.add_mul,Nat.one_mul]at hZk
    have DJ:c5 (A++Z) (i*e.size) news=A++(news++Z.drop news.length):=by rw[←IK,wZ]
    have DK:c5 (c5 (A++Z) (i*e.size) news) ((i+1)*e.size) mid=A++(news++(mid++(Z.drop news.length).drop mid.length)):=by
     rw[DJ,←List.append_assoc,e1k,←List.length_append,wZ,List.append_assoc]
    have hnb:w.heap.size≠b1:=by omega
    have aok:b2≠w.heap.size:=by omega
    refine(ME L w b1 l.length wA i 1 tq 0 iR ⟨b2,0,none⟩ (A++Z).toArray (c5 (A++Z) (i*e.size) news).toArray (c5 (c5 (A++Z) (i*e.size) news) ((i+1)*e.size) mid).toArray Xq (by omega) hl1 (by omega) (by simp only[maxLen]at ob;omega) (by simp only[sS]at BK;omega) J1 (by simp only[maxLen]at gk;omega) (fun ty=> ?_) (fun W hW ty dc=> ?_) (fun W hW ty dc sc=> ?_)).mono ?_
    ·have:=cr ty
     rw[show(((l.length+1-i:Nat):Int))=(l.length:Int)+(1:Nat)-(i:Int)from by omega]at this
     exact this
    ·exact run_copy_row (P:=P) (W:=W) L.t24 (fun w=>bV L.lay w) (cs:=(A++Z).toArray) (te:=ρ.t 9) (by rw[hW];exact lL w _) (news:=news) (n:=1) xr z6
      (fun j u hj=>by
       have:=hnc j u hj
       rw[Addr.add_lit]at this ⊢
       rw[show W.cell? ⟨b2,0+j,none⟩=w.cell? ⟨b2,0+j,none⟩from World.cell?_of_block (by rw[hW];exact alloc_old w _ abA)]
       exact this) hn1 (by rw[List.size_toArray,List.length_append,IK,z6];omega) ty
    ·exact run_copy_row (P:=P) (W:=W) L.t24 (fun w=>bV L.lay w) (cs:=(c5 (A++Z) (i*e.size) news).toArray) (te:=ρ.t 9) (by rw[hW];exact setRow_heap _ _ _ _ _ _ (lL w _)) (news:=mid) (n:=l.length-i) (by simp only[Nat.min_def];split<;>omega) zm
      (fun j u hj=>by
       have:=hmc j u hj
       rw[Addr.add_lit]at this ⊢
       rw[show W.cell? ⟨b1,i*e.size+j,none⟩=w.cell? ⟨b1,i*e.size+j,none⟩from World.cell?_of_block (by rw[hW];exact(setRow_other _ _ (Ne.symm hnb)).trans (alloc_old w _ ahK))]
       exact this) acx (by
       rw[List.size_toArray,DJ]
       simp only[List.length_append,List.length_drop,IK,z6,zm,Nat.add_mul,Nat.sub_mul]
       omega) ty
    ·rintro e1 w' ⟨rfl,rfl⟩
     refine⟨_,rfl,?_⟩
     have hg':((w.drew.alloc (.cells (A++Z).toArray (ρ.t 9))).setRow w.heap.size (c5 (A++Z) (i*e.size) news).toArray).drew.heap[w.heap.size]? =some (.cells (c5 (A++Z) (i*e.size) news).toArray (ρ.t 9) (0,0)):=setRow_heap _ _ _ _ _ _ (lL w.drew _)
     have:=qV (e:=e) (rb:=w.heap.size) (cap:=iR) (l:=l.take i++(v++l.drop i)) (t:=ρ.t 9) (w:=w) (w':=((w.drew.alloc (.cells (A++Z).toArray (ρ.t 9))).setRow w.heap.size (c5 (A++Z) (i*e.size) news).toArray).drew.setRow w.heap.size (c5 (c5 (A++Z) (i*e.size) news) ((i+1)*e.size) mid).toArray) mX qf
      (fun b hb hn=>(setRow_other _ _ (by omega)).trans ((setRow_other _ _ (by omega)).trans (alloc_old w.drew _ hb))) (by rw[setRow_size];show _≤(World.setRow _ _ _).heap.size;rw[setRow_size,jz];exact Nat.le_succ _) (fun h=>absurd h (Nat.lt_irrefl _)) rfl rfl rfl (setRow_heap _ _ _ _ _ _ hg') (by omega) (by rw[VE];exact J1) gk
      (by
       rw[DK,List.size_toArray]
       have hmul:(iR-i)*e.size=iR*e.size-i*e.size:=Nat.sub_mul _ _ _
       have hci:i*e.size≤iR*e.size:=Nat.mul_le_mul_right _ (by omega)
       simp only[List.length_append,List.length_drop,IK,z6,zm,hZl,hmul,Nat.sub_mul]at hZk ⊢
       omega)
      (by rw[DK];exact IL _)
     rw[VE]at this
     simpa [gY,dg,AM.fk]using this
end VM
end
section
namespace VM
open Go Go.Shelf Go.RowKit Go.Lib Go.Proofs
variable{P:Program}{ρ:Ren}
noncomputable def MH(ρ:Ren)(fn:Func):Func:={fn with body:=(Body2.n15 ρ).body,ntmps:=8,results:=(Body2.n15 ρ).results,nfree:=0}
theorem vD(ρ:Ren)(fn:Func):(MH ρ fn).ntmps=8:=rfl
structure xR(P:Program)(e:Ty)(ρ:Ren)(f:FuncId)(fn:Func):Prop where
 hf:P.funcs[f]? =some (MH ρ fn)
 t4:P.underlying (ρ.t 4)=some .bool
 t22:P.underlying (ρ.t 22)=some (.slice (ρ.t 3))
 lay:gh P e (ρ.t 3)
 la:0<e.size
 mixed:P.follows .mixedOrders=true
set_option maxHeartbeats 4000000 in
set_option maxRecDepth 100000 in
theorem Ka{e:Ty}{f:FuncId}{fn:Func}(L:xR P e ρ f fn)(w:World)(n c:Nat):
  Calls P f #[.slice none n c] w fun r w2=>r= .returned (.slice none 0 0)∧w2=w:=by
 have u22:=run_underlying L.t22
 have t4:=L.t4;have t22:=L.t22
 have z3:=fun w=>bV L.lay w
 have mixed:=L.mixed
 have q22: ∀(w:World) (a:Option Addr) (n c n' c':Nat),(binOp .eql (ρ.t 22) (.slice a n c) (.slice none n' c')).run P w= .ok (.bool a.isNone) w:=fun w a n c n' c'=>Lib.run_eql_slice_nil w _ _ a n c n' c' L.t22
 go_enter L.hf,vD ρ fn
 go_wp2
 go_ret
 exact⟨rfl,rfl⟩
set_option maxHeartbeats 4000000 in
set_option maxRecDepth 100000 in
theorem xS{e:Ty}{f:FuncId}{fn:Func}(L:xR P e ρ f fn)(w:World)(a:Addr)(n c:Nat)(v':Value)(w':World)
  (Dp: ∀ty,(Builtin.append_ #[ρ.t 22,ρ.t 22] ty #[.slice (some ⟨w.heap.size,0,none⟩) 0 0,.slice (some a) n c]).run P (w.alloc (.cells #[] (ρ.t 3)))= .ok v' w'):
   Calls P f #[.slice (some a) n c] w fun r w2=>r= .returned v'∧w2=w':=by
 have u22:=run_underlying L.t22
 have t4:=L.t4;have t22:=L.t22
 have z3:=fun w=>bV L.lay w
 have mixed:=L.mixed
 have q22: ∀(w:World) (a:Option Addr) (n c n' c':Nat),(binOp .eql (ρ.t 22) (.slice a n c) (.slice none n' c')).run P w= .ok (.bool a.isNone) w:=fun w a n c n' c'=>Lib.run_eql_slice_nil w _ _ a n c n' c' L.t22
 obtain⟨ab,ao,asp⟩:=a
 go_enter L.hf,vD ρ fn
 go_wp2_with (at_builtin;refine Lib.wpList_append_run _ rfl _ _ _ _ rfl _ _ rfl rfl _ _ (Dp _) ?_)
 all_goals (go_ret;exact⟨rfl,rfl⟩)
theorem MI{w w':World}{M0:Nat→Prop}{e:Ty}(a:Option Addr)(mX: ∀b,M0 b→b<w.heap.size)(Vw: ∀b,b<w.heap.size→w'.heap[b]? =w.heap[b]?)(oy:w.heap.size≤w'.heap.size)
  (hos:w'.os=w.os) (htp:w'.tape=w.tape) (GJ:w'.output=w.output):
  ∃us M',Value.slice a 0 0=qa us∧RR w' M' [.own e] ([]:List e.den) us []∧Left w M0 [] w' M'∧(aZ [.own e] us []).Nodup∧ ∀b∈aZ [.own e] us [],¬M0 b:=by
 have sN:aZ [.own e] [Value.slice a 0 0] []=[]:=by
  cases a<;>simp[aZ,cf,AM.fk,dV]
 refine⟨[.slice a 0 0],M0,rfl,?_,?_,?_,?_⟩
 ·simp only[RR]
  refine .inr ⟨_,[],rfl,rfl,rfl,?_,rfl,trivial⟩
  simp only[A1,ER,pS]
  exact .inl ⟨trivial,a,rfl⟩
 ·exact⟨fun b h=>h,fun b h=>Nat.lt_of_lt_of_le (mX b h) oy,fun b hb h=> .inl h,fun b hb _=>Vw b hb,oy,hos,htp,GJ⟩
 ·rw[sN];simp
 ·rw[sN];simp
theorem iu{e:Ty}{f:FuncId}{fn:Func}(L:xR P e ρ f fn)(th:(fn.name== "runtime.NumGoroutine")=false)(MF:(Body2.n15 ρ).body.isNone=false)(N:Nat):eE P f (nO e N):=by
 refine⟨(fun h=>by cases h),rfl,fun M0 w vs x y mX hA td qf hy=> ?_⟩
 have Mo:g9 N x=some y:=hy
 clear hy
 obtain⟨v0,O6,rfl,h0,h2⟩:=hA
 have h2:O6=[]:=h2
 subst h2
 replace h0:V w (fun b=>M0 b∨b∈([]:List Nat)) (.slice e) v0 x:=h0
 unfold g9 at Mo
 split at Mo
 case isFalse=>cases Mo
 rename_i BK
 cases Mo
 have hbn:(MH ρ fn).body.isNone=false:=MF
 have hh:cv (nO e N).args [v0]=[]:=rfl
 rw[hh]at qf ⊢
 refine nQ L.hf th hbn ?_
 obtain⟨i,hi,oy,hz,WR⟩:=L.lay.base
 have hS:=Src.Pq h0
 by_cases hx:x=[]
 ·obtain⟨a,cp,hv,_⟩:=hS
  subst hv
  rw[hx]
  cases a with
  |none=>
   refine(Ka L w _ cp).mono ?_
   rintro e1 w' ⟨rfl,rfl⟩
   exact⟨_,rfl,MI none mX (fun _ _=>rfl) (Nat.le_refl _) rfl rfl rfl⟩
  |some a=>
   refine(xS L w a _ cp _ _ (fun ty=>nj (P:=P) (w:=w.alloc (.cells #[] (ρ.t 3))) L.t22 hi (some ⟨w.heap.size,0,none⟩) 0 0 (Nat.le_refl _) (some a) cp)).mono ?_
   rintro e1 w' ⟨rfl,rfl⟩
   exact⟨_,rfl,MI _ mX (fun b hb=>alloc_old w _ hb) (by rw[jz];exact Nat.le_succ _) rfl rfl rfl⟩
 ·obtain⟨b,off,cp,news,hv,hl,lh,gB,h1⟩:=hS.cells hx
  have GM:0<x.length:=List.length_pos_iff.2 hx
  subst hv
  obtain⟨iR,rest,cr,J1,gk,Gc⟩:=xP (P:=P) (w:=w.alloc (.cells #[] (ρ.t 3))) L.t22 L.lay (n:=0) (m:=x.length) (cap:=0) (cp:=cp) (olds:=[]) (news:=news) (base:=some ⟨w.heap.size,0,none⟩) (a':=⟨b,off,none⟩) (fun h=>by cases h) (by simp) (fun _ _ j u hj=>by simp at hj) hl
   (fun j u hj=>by rw[Addr.add_lit];exact Lib.cell?_alloc_some _ (lh j u hj)) (by omega) (by omega)
  refine(xS L w ⟨b,off,none⟩ _ cp _ _ cr).mono ?_
  rintro e1 w' ⟨rfl,rfl⟩
  refine⟨_,rfl,?_⟩
  simp only[Nat.zero_add]at J1 Gc ⊢
  have Iu:(w.alloc (.cells #[] (ρ.t 3))).heap.size=w.heap.size+1:=jz w _
  exact qV (e:=e) (rb:=(w.alloc (.cells #[] (ρ.t 3))).heap.size) (cap:=iR) (l:=x) (t:=ρ.t 3) (w:=w) (w':=(w.alloc (.cells #[] (ρ.t 3))).drew.alloc (.cells ([]++news++rest).toArray (ρ.t 3))) mX qf
   (fun b hb _=>(alloc_old (w.alloc (.cells #[] (ρ.t 3))).drew _ (by show b<(w.alloc (.cells #[] (ρ.t 3))).heap.size;omega)).trans (alloc_old w _ hb))
   (by rw[jz];show w.heap.size≤(w.alloc (.cells #[] (ρ.t 3))).heap.size+1;omega) (fun h=>by omega) rfl rfl rfl (lL (w.alloc (.cells #[] (ρ.t 3))).drew _) (by omega) J1 gk
   (by simp only[List.nil_append,List.size_toArray,List.length_append,hl,Gc,←Nat.add_mul];congr 1;omega) (by simpa using lY.more (cs':=rest) (show lY w (fun b=>M0 b∨b∈([]:List Nat)) e news x from gB) (by rw[hl];exact Nat.le_refl _))
end VM
end
