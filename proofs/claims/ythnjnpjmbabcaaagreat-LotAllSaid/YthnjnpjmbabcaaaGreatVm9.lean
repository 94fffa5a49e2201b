/- A part of the proof of LotAll of layer 23: a machine that reads a function of the program as an equation between values. -/
import Derived.Test.YthnjnpjmbabcaaaGreatVm8
import Derived.KernelRfl
import Derived.Test.YthnjnpjmbabcaaaGreatVm0
import Derived.Laws.Externs
import Derived.Shelf.Spec.SlicesInsertGrow
set_option linter.all false
open List renaming length→ℓ
noncomputable section
section
namespace VM
open Go
@[reducible] def CM.arr:CM→Type→Type
 | .v τ,T| .obj τ,T| .io τ,T| .fn _ τ,T=>τ.den→T
 | .own e,T=>List e.den→T
 | .dj τ _ e,T=>τ.den→List e.den→T
 | .same _,T=>T
 | .cV e,T=>List (List e.den)→T
@[reducible] def HF:List (Nat×CM)→Type→Type
 |[],R=>R
 |q::r,R=>q.2.arr (HF r R)
def CM.lam{T:Type}(s:Nat)(σ:St):(m:CM)→(St→T)→m.arr T
 | .v τ,f=>λx=>f (σ.put s (.val τ x))
 | .own e,f=>λx=>f ((σ.put s (.ref (16*s+14))).dT (16*s+14) (some (.own e x)))
 | .obj τ,f=>λx=>f ((σ.put s (.dQ (16*s+14) [])).dT (16*s+14) (some (.obj τ x)))
 | .dj τ q e,f=>λx l=>f (((σ.put s (.dQ (16*s+14) [])).dT (16*s+13) (some (.own e l))).dT (16*s+14) (some (.dj τ x q (16*s+13))))
 | .io τ,f=>λx=>f ((σ.put s (.dQ (16*s+15) [])).dT (16*s+15) (some (.obj τ x)))
 | .fn g τ,f=>λx=>f (σ.put s (.BD g (kg τ x)))
 | .same s',f=>f (σ.put s (σ.T s'))
 | .cV e,f=>λl=>f (((σ.put s (.ref (16*s+14))).dT (16*s+14) (some (.cV e l none))).dT 7 (some .gone))
def TQ{R:Type}(κ:St→R):(L:List (Nat×CM))→St→HF L R
 |[],σ=>κ σ
 |q::r,σ=>q.2.lam q.1 σ (TQ κ r)
@[reducible] def q6:List AM→Type→Type
 |[],R=>R
 |m::r,R=>m.den→q6 r R
def xE{R:Type}:(ms:List AM)→q6 ms R→HP ms→R
 |[],g,_=>g
 |[_],g,x=>g x
 |_::n::ms,g,x=>xE (n::ms) (g x.1) x.2
def GK{R:Type}:(ms:List AM)→(HP ms→R)→q6 ms R
 |[],f=>f ()
 |[_],f=>f
 |_::n::ms,f=>λx=>GK (n::ms) λy=>f (x,y)
theorem Av{R:Type}: ∀(ms:List AM) (f:HP ms→R) (x:HP ms),xE ms (GK ms f) x=f x
 |[],_,()=>rfl
 |[_],_,_=>rfl
 |_::n::ms,f,x=>Av (n::ms) (λy=>f (x.1,y)) x.2
structure Pc where
 k:Nat
 c:List (Nat×CM)
 path:List Nat
 ks:List Nat
def Jb:List Pc→Nat→Pc
 |[],_=>⟨0,[],[],[]⟩
 |p::r,k=>cond (Nat.beq k p.k) p (Jb r k)
def Cq:List Pc→Nat→Option (List (Nat×CM))
 |[],_=>none
 |p::r,k=>cond (Nat.beq k p.k) (some p.c) (Cq r k)
def tI:List (Nat×jU)→Nat→List jU
 |[],_=>[]
 |q::r,i=>cond (Nat.beq i q.1) (q.2::tI r i) (tI r i)
def xF:List AM→Nat→List Nat
 |[],_=>[]
 | .io _::r,i=>i::xF r (i+1)
 | .lo _::r,i=>i::xF r (i+1)
 |_::r,i=>xF r (i+1)
structure Fx where
 nt:Nat
 tab:List (Nat×Ty)
 G:List (Nat×jU)
 N:Nat
 fn:Func
 args:List AM
 res:List AM
 NN:List Pc
 lk:Option (Ty×List Step×Ty×List Nat):=none
namespace Fx
variable(X:Fx)
abbrev R:=Option (HP X.res)
def E:Env:={nt:=X.nt,ty:=λi=>Cp i X.tab,Γ:=tI X.G,N:=X.N,pc:=λr=>Cq X.NN (2*r+1),qn:=λr=>Cq X.NN (2*r),io:=xF X.args 0,lk:=X.lk}
@[reducible] def c(i:Nat):List (Nat×CM):=(Jb X.NN i).c
def path(i:Nat):List Nat:=(Jb X.NN i).path
def odd(i:Nat):Bool:=Nat.beq (i%2) 1
def cut(ρ:Nat→St→X.R)(l:Nat):St→X.R:=fun σ=>pk (some (X.c l)) σ (ρ l)
def ks(ρ:Nat→St→X.R)(i:Nat):List (St→X.R):=(Jb X.NN i).ks.map (X.cut ρ)
def lp(ρ:Nat→St→X.R)(i n:Nat):St→X.R:=X0 X.E X.fn X.args X.res (X.c i) (X.path i) (X.ks ρ i) n
def cE(ρ:Nat→St→X.R)(i:Nat):St→X.R:=cond (odd i) (X.lp ρ i X.N) (PF X.E X.fn X.args X.res (X.path i) (X.ks ρ i))
def own(ρ:Nat→St→X.R)(i:Nat):List (St→X.R):=X.ks ρ i++cond (odd i) [X.cut ρ i] []
def GL(K ρ:Nat→St→X.R)(i:Nat):St→X.R:=Wy X.E X.fn X.args X.res (λr=>K (2*r)) (λr=>K (2*r+1)) (X.path i) (X.own ρ i)
def tl(K ρ:Nat→St→X.R)(i:Nat):List ((St→X.R)×(St→X.R)):=pE X.E (λr=>K (2*r)) (λr=>K (2*r+1)) (Lx X.E X.fn X.args X.res (X.path i) (X.own ρ i))
@[reducible] def cu(i:Nat)(κ:St→X.R):HF (X.c i) X.R:=TQ κ (X.c i) S0
@[reducible] def bd(K ρ:Nat→St→X.R)(i:Nat):HF (X.c i) X.R:=X.cu i (X.GL K ρ i)
@[reducible] def kc(ρ:Nat→St→X.R)(i:Nat):HF (X.c i) X.R:=X.cu i (ρ i)
def uM:Nat→St→X.R:=λ_ _=>none
def top(K:Nat→St→X.R):q6 X.args X.R:=GK X.args λx=>Wy X.E X.fn X.args X.res (λr=>K (2*r)) (λr=>K (2*r+1)) [] [] (entry X.args x 0 S0)
def X1(K:Nat→St→X.R):List ((St→X.R)×(St→X.R)):=pE X.E (λr=>K (2*r)) (λr=>K (2*r+1)) (Lx X.E X.fn X.args X.res [] [])
def S(q:Bool)(g:q6 X.args X.R):jU:={args:=X.args,res:=X.res,quiet:=q,run:=xE X.args g}
variable{X}
theorem Ly(f:Nat→St→X.R): ∀lQ:List Nat,GI (lQ.map λt=>(f t,f t))
 |[]=>trivial
 |_::r=>⟨rfl,Ly f r⟩
theorem okJ{i:Nat}(lQ:List Nat)(hi:odd i=false)(hr: ∀K ρ,X.tl K ρ i=lQ.map λt=>(K t,X.cE ρ t)){g:(Nat→St→X.R)→(Nat→St→X.R)→HF (X.c i) X.R}(h: ∀K ρ,X.bd K ρ i=g K ρ)(ρ:Nat→St→X.R):X.kc (X.cE ρ) i=g (X.cE ρ) ρ:=by
 rw[←h]
 have:X.cE ρ i=X.GL (X.cE ρ) ρ i:=by
  funext σ
  have h1:=hr (X.cE ρ) ρ
  unfold tl own at h1
  rw[hi,ah,cy]at h1
  unfold GL own
  rw[hi,ah,cy]
  rw[←at_eq X.E X.fn X.args X.res h1 (Ly (X.cE ρ) lQ) σ]
  unfold cE;rw[hi];rfl
 unfold kc bd
 rw[this]
def X2(X:Fx)(i:Nat):Bool:=odd i&&(Jb X.NN i).ks.all λl=> !(Nat.beq l i)
theorem okL{i:Nat}(lQ:List Nat)(hi:X2 X i=true)(hr: ∀K ρ,X.tl K ρ i=lQ.map λt=>(K t,X.cE ρ t)){g:(Nat→St→X.R)→(Nat→St→X.R)→HF (X.c i) X.R}(h: ∀K ρ,X.bd K ρ i=g K ρ)(ρ:Nat→St→X.R)
  (G:Nat→HF (X.c i) X.R) (h0:X.cu i (λ_=>none)=G 0) (hs: ∀n ρ',X.kc ρ' i=G n→(∀l,Nat.beq l i=false→X.kc ρ' l=X.kc ρ l)→g (X.cE ρ') ρ'=G (n+1)):X.kc (X.cE ρ) i=G X.N:=by
 unfold X2 at hi
 rw[bg]at hi
 obtain⟨hi,hk⟩:=hi
 have key: ∀n,X.cu i (X.lp ρ i n)=G n:=by
  intro n
  induction n with
  |zero=>exact h0
  |succ n ih=>
   let ρ':Nat→St→X.R:=λl=>cond (Nat.beq l i) (X.lp ρ i n) (ρ l)
   have e1:ρ' i=X.lp ρ i n:=by show cond (Nat.beq i i) _ _=_;rw[jw];rfl
   have e2: ∀l,Nat.beq l i=false→ρ' l=ρ l:=λl hl=>by show cond (Nat.beq l i) _ _=_;rw[hl];rfl
   rw[←hs n ρ' (by unfold kc;rw[e1];exact ih) (λl hl=>by unfold kc;rw[e2 l hl]),←h]
   have e3:X.ks ρ' i=X.ks ρ i:=by
    unfold ks
    refine gJ λl hl=> ?_
    have:=kO.1 hk l hl
    unfold cut
    rw[e2 l (by simpa using this)]
   have:X.lp ρ i (n+1)=X.GL (X.cE ρ') ρ' i:=by
    funext σ
    have h1:=hr (X.cE ρ') ρ'
    unfold tl own at h1
    rw[hi,aa]at h1
    unfold GL own
    rw[hi,aa]
    rw[←at_eq X.E X.fn X.args X.res h1 (Ly (X.cE ρ') lQ) σ]
    unfold lp
    rw[I7,e3]
    unfold cut
    rw[e1];rfl
   unfold bd
   rw[this]
 have:X.cE ρ i=X.lp ρ i X.N:=by unfold cE;rw[hi];rfl
 unfold kc
 rw[this];exact key _
def Aw(P:Program):List (Nat×jU)→Prop
 |[]=>True
 |q::r=>gy P q.1 q.2∧Aw P r
structure _root_.VM.Kn(P:Program) where
 f:Nat
 S:jU
 ok:gy P f S
def _root_.VM.Kn.p{P:Program}(k:Kn P):Nat×jU:=(k.f,k.S)
def _root_.VM.Kn.l{P:Program}:List (Kn P)→List (Nat×jU)
 |[]=>[]
 |k::r=>k.p::Kn.l r
theorem _root_.VM.Kn.all{P:Program}: ∀l:List (Kn P),Aw P (Kn.l l)
 |[]=>trivial
 |k::r=>⟨k.ok,Kn.all r⟩
theorem tJ{P:Program}: ∀{l:List (Nat×jU)},Aw P l→ ∀f S,S∈tI l f→gy P f S
 |[],_,f,S,h=>by simp[tI]at h
 |q::r,ha,f,S,h=>by
  unfold tI at h
  cases hb:Nat.beq f q.1<;>rw[hb]at h
  ·exact tJ ha.2 f S h
  ·rcases bu.1 h with rfl|h
   ·rw[cJ hb];exact ha.1
   ·exact tJ ha.2 f S h
theorem xG: ∀{l:List Pc},(l.all λp=>fp p.c)=true→ ∀i L,Cq l i=some L→fp L=true
 |q::r,ha,i,L,h=>by
  rw[rZ,bg]at ha
  unfold Cq at h
  cases hb:Nat.beq i q.k<;>rw[hb]at h
  ·exact xG ha.2 i L h
  ·cases h;exact ha.1
def PI(X:Fx)(q:Bool):Bool:=(X.NN.all λp=>fp p.c)&&((!(X.fn.name== "runtime.NumGoroutine")&&Nat.beq X.nt X.fn.ntmps)&&(X.fn.body.isSome&&(Nat.ble X.args.length X.nt&&((!q||X.res.all AM.flat)&&decide (g6 X.args=g6 X.res)))))
theorem Cr: ∀{ms:List AM} {k i:Nat} {m:AM},ms[i]? =some m→m.dY=true→k+i∈xF ms k
 |[],_,_,_,h,_=>by simp at h
 |m::ms,k,0,m',h,ni=>by
  simp only[wy,cK]at h
  subst h
  cases m<;>simp[AM.dY]at ni<;>simp[xF]
 |m::ms,k,i+1,m',h,ni=>by
  have:=Cr (ms:=ms) (k:=k+1) (i:=i) (by simpa using h) ni
  rw[show k+(i+1)=k+1+i from by omega]
  cases m<;>simp only[xF]<;>first|exact aR _ this|exact this
theorem Fj: ∀{ms:List AM} {k i:Nat},i∈xF ms k→i<k+ms.length
 |[],_,_,h=>by simp[xF]at h
 |m::ms,k,i,h=>by
  have hr:i∈xF ms (k+1)→i<k+(m::ms).length:=λh=>by have:=Fj h;simp only[aG];omega
  cases m<;>simp only[xF]at h<;>first
   |exact hr h
   |(rcases bu.1 h with rfl|h<;>first|exact hr h|(simp only[aG];omega))
variable(X)in
theorem zE{P:Program}(ht:xD P X.tab)(hG:Aw P X.G)(hc:(X.NN.all λp=>fp p.c)=true):jF P X.E:=by
 have ia: ∀t τ,Cp t X.tab=some τ→nk P τ (.inl t)=true∧Lv P τ t=true:=λt τ h=>by
  have:=kO.1 ht.ok _ (zD h)
  simpa using this
 exact{ty:=λt τ h=>iB (ia t τ h).1,eq:=λt τ h hc ha=>Lw (iB (ia t τ h).1) (ia t τ h).2 hc ha,Tk:=tJ hG,mixed:=ht.mixed,fp:=λi L h=>xG hc _ L h,Iz:=λi L h=>xG hc _ L h}
theorem mkS{P:Program}(ht:xD P X.tab){f:FuncId}(hf:P.funcs[f]? =some X.fn){q:Bool}(hc:PI X q=true)(hG:Aw P X.G){g:q6 X.args X.R}(h: ∀x,zl X.E X.fn X.args X.res x=xE X.args g x):gy P f (X.S q g):=by
 unfold PI at hc
 simp only[bg]at hc
 obtain⟨h0,⟨h1,h2⟩,h3,h4,h5,h6⟩:=hc
 refine IZ (zE X ht hG h0) hf (by simpa using h1) (cJ h2) (X.S q g) (λi m hm ni=> ?_) (λi hi=> ?_) ?_ (λhq=> ?_) (bO h6) h
 ·have:=Cr (k:=0) hm ni
  rwa [c7]at this
 ·have:=Fj (k:=0) hi
  rwa [c7]at this
 ·have:=rM h4
  rwa [cJ h2]at this
 ·have hq:q=true:=hq
  subst hq
  show X.res.all AM.flat=true
  simpa using h5
theorem Jc{g:q6 X.args X.R}(h:GK X.args (zl X.E X.fn X.args X.res)=g)(x:HP X.args):zl X.E X.fn X.args X.res x=xE X.args g x:=by rw[←h,Av]
variable(X)in
theorem ok0{P:Program}(ht:xD P X.tab){f:FuncId}(hf:P.funcs[f]? =some X.fn){q:Bool}(hc:PI X q=true)(hG:Aw P X.G){g:q6 X.args X.R}(h:GK X.args (zl X.E X.fn X.args X.res)=g):gy P f (X.S q g):=
 mkS ht hf hc hG (Jc h)
theorem TR(hb:X.fn.body.isSome=true)(lQ:List Nat)(hr: ∀K,X.X1 K=lQ.map λt=>(K t,X.cE X.uM t))
  {g:(Nat→St→X.R)→q6 X.args X.R} (h: ∀K,X.top K=g K) {f:q6 X.args X.R} (hf:g (X.cE X.uM)=f) (x:HP X.args):zl X.E X.fn X.args X.res x=xE X.args f x:=by
 rw[←hf,←h,PG hb]
 unfold top
 rw[Av]
 exact at_eq X.E X.fn X.args X.res (hr (X.cE X.uM)) (Ly (X.cE X.uM) lQ) _
variable(X)in
theorem ok1{P:Program}(ht:xD P X.tab){f:FuncId}(hf:P.funcs[f]? =some X.fn){q:Bool}(hc:PI X q=true)(hG:Aw P X.G)(lQ:List Nat)(hr: ∀K,X.X1 K=lQ.map λt=>(K t,X.cE X.uM t))
  {g:(Nat→St→X.R)→q6 X.args X.R} (h: ∀K,X.top K=g K) {f':q6 X.args X.R} (qt:g (X.cE X.uM)=f'):gy P f (X.S q f'):=by
 have hb:X.fn.body.isSome=true:=by
  unfold PI at hc
  simp only[bg]at hc
  exact hc.2.2.1
 exact mkS ht hf hc hG (TR hb lQ hr h qt)
theorem uJ{i:Nat}(lQ:List Nat){g:(Nat→St→X.R)→(Nat→St→X.R)→HF (X.c i) X.R}(h: ∀K ρ,X.bd K ρ i=g K ρ)(ρ:Nat→St→X.R){f:HF (X.c i) X.R}(hf:g (X.cE ρ) ρ=f:=by rfl)
 (hi:odd i=false:=by kernel_rfl) (hr: ∀K ρ,X.tl K ρ i=lQ.map λt=>(K t,X.cE ρ t):=by intro K ρ;kernel_rfl):X.kc (X.cE ρ) i=f:=(okJ lQ hi hr h ρ).trans hf
theorem uL{i:Nat}(lQ:List Nat){g:(Nat→St→X.R)→(Nat→St→X.R)→HF (X.c i) X.R}(h: ∀K ρ,X.bd K ρ i=g K ρ)(ρ:Nat→St→X.R)
 (G:Nat→HF (X.c i) X.R) (hs: ∀n ρ',X.kc ρ' i=G n→(∀l,Nat.beq l i=false→X.kc ρ' l=X.kc ρ l)→g (X.cE ρ') ρ'=G (n+1)) (h0:X.cu i (λ_=>none)=G 0:=by rfl)
 (hi:X2 X i=true:=by kernel_rfl) (hr: ∀K ρ,X.tl K ρ i=lQ.map λt=>(K t,X.cE ρ t):=by intro K ρ;kernel_rfl):X.kc (X.cE ρ) i=G X.N:=okL lQ hi hr h ρ G h0 hs
variable(X)in
theorem u0{P:Program}(ht:xD P X.tab){f:FuncId}(hf:P.funcs[f]? =some X.fn){q:Bool}{g:q6 X.args X.R}(hG:Aw P X.G:=by first|exact trivial|exact Kn.all _)(hc:PI X q=true:=by kernel_rfl)(h:GK X.args (zl X.E X.fn X.args X.res)=g:=by kernel_rfl):gy P f (X.S q g):=ok0 X ht hf hc hG h
variable(X)in
theorem u1{P:Program}(ht:xD P X.tab){f:FuncId}(hf:P.funcs[f]? =some X.fn)(lQ:List Nat)
 {g:(Nat→St→X.R)→q6 X.args X.R} (h: ∀K,X.top K=g K) {q:Bool} {f':q6 X.args X.R} (qt:g (X.cE X.uM)=f':=by rfl) (hG:Aw P X.G:=by first|exact trivial|exact Kn.all _) (hc:PI X q=true:=by kernel_rfl) (hr: ∀K,X.X1 K=lQ.map λt=>(K t,X.cE X.uM t):=by intro K;kernel_rfl):gy P f (X.S q f'):=ok1 X ht hf hc hG lQ hr h qt
end Fx
end VM
end
section
namespace VM
open Go
variable{P:Program}
theorem Left.same(w:World)(M0:Nat→Prop)(h: ∀b,M0 b→b<w.heap.size):Left w M0 [] w M0:=
 ⟨λ_ h=>h,h,λ_ _ h=> .inl h,λ_ _ _=>rfl,aH _,rfl,rfl,rfl⟩
theorem TS{w:World}{M:Nat→Prop}{a b c:IntKind}{x:HP [.v (.int a),.v (.int b),.v (.int c)]}{vs:List Value}(h:eA w M [.v (.int a),.v (.int b),.v (.int c)] x vs):vs=[.int a x.1,.int b x.2.1,.int c x.2.2]:=by
 simp only[eA,A1,V,Ty.isAgg,dJ,cU,Rd,cM,cT]at h
 obtain⟨v,vs,rfl,rfl,v,vs,rfl,rfl,v,vs,rfl,rfl,rfl⟩:=h
 rfl
theorem rr2{w:World}{M:Nat→Prop}{a b:IntKind}(x y:Int):RR w M [.v (.int a),.v (.int b)] (x,y) [.int a x,.int b y] []:=by
 simp only[RR]
 refine .inr ⟨_,_,rfl,rfl,rfl,?_,.inr ⟨_,_,rfl,rfl,rfl,?_,rfl,trivial⟩⟩<;>simp[A1,V,Ty.isAgg,Rd,jX,lM]
theorem Fk{f:FuncId}(run:Int×Int×Int→Option (Int×Int))
  (h: ∀(w:World) (a b c u v:Int),run (a,b,c)=some (u,v)→(callFunc f #[.int .u64 a,.int .u64 b,.int .u64 c]).run P w= .ok (.value (.tuple #[.int .u64 u,.int .u64 v])) w):
  gy P f {args:=[.v (.int .u64),.v (.int .u64),.v (.int .u64)],res:=[.v (.int .u64),.v (.int .u64)],quiet:=true,run}:=by
 refine⟨λ_=>rfl,rfl,λM0 w vs x y nS hA _ _ hy=> ?_⟩
 have K5:=TS hA
 subst K5
 exact yW (h w x.1 x.2.1 x.2.2 y.1 y.2 hy) ⟨_,M0,rfl,rr2 y.1 y.2,Left.same w M0 nS,wN,λb hb=>by cases hb⟩
theorem tK(nm:String)(a b c:Nat)(h:c≤1)(w:World):(Extern.MathBitsCarry.three nm #[.int .u64 a,.int .u64 b,.int .u64 c]).run P w= .ok (a,b,c) w:=by
 have h5: ¬(1<c):=ω
 have:Extern.MathBitsCarry.three nm #[.int .u64 a,.int .u64 b,.int .u64 c]=(do
  let c:=(←asInt (.int .u64 c)).toNat
  if c>1 then unsupported (.noEntry ("extern/math/bits." ++nm++ ": a carry that is neither 0 nor 1"))
  pure ((←asInt (.int .u64 a)).toNat,(←asInt (.int .u64 b)).toNat,c)):=rfl
 rw[this]
 simp[asInt,asIntOf]
 omega
theorem GM{f:FuncId}{fn:Func}(N:Nat)(hf:P.funcs[f]? =some fn)(sL:(fn.name== "runtime.NumGoroutine")=false)(hb:fn.body.isNone=true)(hn:Extern.findNext fn=none)
  (he:Extern.find fn=(Extern.MathBitsCarry.rows[0]?).map (·.2)):gy P f (mh.S N):=by
 refine Fk (λx=>mh N x.1 x.2.1 x.2.2) λw a b c u v hy=> ?_
 simp only[mh]at hy
 split at hy
 ·rename_i hc
  obtain⟨h1,h2,h3,h4⟩:=hc
  obtain⟨a,rfl⟩:=lZ h1
  obtain⟨b,rfl⟩:=lZ h2
  obtain⟨c,rfl⟩:=lZ h3
  cases hy
  rw[run_callFunc_extern hf sL hb hn he]
  simp[tK _ a b c ω,Extern.MathBitsCarry.pair,Extern.MathBitsCarry.m64]
 ·cases hy
theorem GN{f:FuncId}{fn:Func}(N:Nat)(hf:P.funcs[f]? =some fn)(sL:(fn.name== "runtime.NumGoroutine")=false)(hb:fn.body.isNone=true)(hn:Extern.findNext fn=none)
  (he:Extern.find fn=(Extern.MathBitsCarry.rows[1]?).map (·.2)):gy P f (mi.S N):=by
 refine Fk (λx=>mi N x.1 x.2.1 x.2.2) λw a b c u v hy=> ?_
 simp only[mi]at hy
 split at hy
 ·rename_i hc
  obtain⟨h1,jY,h2,qI,h3,h4⟩:=hc
  obtain⟨a,rfl⟩:=lZ h1
  obtain⟨b,rfl⟩:=lZ h2
  obtain⟨c,rfl⟩:=lZ h3
  cases hy
  rw[run_callFunc_extern hf sL hb hn he]
  have e1:((a+18446744073709551616-b-c:Nat):Int)=(a:Int)+18446744073709551616-b-c:=ω
  by_cases h:a<b+c
  ·have h':(a:Int)<(b:Int)+(c:Int):=ω
   simp[tK _ a b c ω,Extern.MathBitsCarry.pair,Extern.MathBitsCarry.m64,e1,h,h']
  ·have h': ¬(a:Int)<(b:Int)+(c:Int):=ω
   simp[tK _ a b c ω,Extern.MathBitsCarry.pair,Extern.MathBitsCarry.m64,e1,h,h']
 ·cases hy
end VM
end
section
namespace VM
open Go Go.Shelf Go.RowKit Go.Lib Go.Proofs
variable{P:Program}{ρ:Ren}
def Jd(ρ:Ren)(fn:Func):Func:={fn with body:=(Body2.n22 ρ).body,ntmps:=95,results:=(Body2.n22 ρ).results,nfree:=0}
theorem pF(ρ:Ren)(fn:Func):(Jd ρ fn).ntmps=95:=rfl
structure Je(P:Program)(e:Ty)(ρ:Ren)(f:FuncId)(fn fo:Func):Prop where
 hf:P.funcs[f]? =some (Jd ρ fn)
 t3:P.underlying (ρ.t 3)=some (.int .i64)
 t4:P.underlying (ρ.t 4)=some .bool
 t24:P.underlying (ρ.t 24)=some (.slice (ρ.t 9))
 lay:fe P e (ρ.t 9)
 ln:0<e.size
 mixed:P.follows .mixedOrders=true
set_option maxHeartbeats 4000000 in
set_option maxRecDepth 100000 in
theorem Ax{e:Ty}{f:FuncId}{fn fo:Func}(L:Je P e ρ f fn fo)(w:World)(base:Option Addr)(n c m vc:Nat)(va:Addr)(v':Value)(w':World)(hm:0<m)(hn:n≤c)
  (Gr: ∀ty,(Builtin.append_ #[ρ.t 24,ρ.t 24] ty #[.slice base n c,.slice (some va) m vc]).run P w= .ok v' w'):
   Calls P f #[.slice base n c,.int .i64 n,.slice (some va) m vc] w λr w2=>r= .returned v'∧w2=w':=by
 have u3:=run_underlying L.t3;have u4:=run_underlying L.t4;have u24:=run_underlying L.t24
 have t3:=L.t3;have t4:=L.t4;have t24:=L.t24
 have z9:=λw=>bL L.lay w
 have mixed:=L.mixed
 have HA: ¬((m:Int)=0):=ω
 go_enter L.hf,pF ρ fn
 cases base with
 |none=>
   go_wp2_with (at_builtin;refine Lib.wpList_append_run _ rfl _ _ _ _ rfl _ _ rfl rfl _ _ (Gr _) ?_)
   all_goals (go_ret;exact⟨rfl,rfl⟩)
 |some a=>
   obtain⟨ab,ao,asp⟩:=a
   go_wp2_with (at_builtin;refine Lib.wpList_append_run _ rfl _ _ _ _ rfl _ _ rfl rfl _ _ (Gr _) ?_)
   all_goals (go_ret;exact⟨rfl,rfl⟩)
theorem run_copy_row{t te e:TypeId}{k:Nat}(ht:P.underlying t=some (.slice e))(hk: ∀w,(Go.sizeOf e).run P w= .ok k w){W:World}{b o dLen dCap sLen sCap n:Nat}{a:Addr}{cs:Array Value}(hg:W.heap[b]? =some (.cells cs te (0,0)))
  {news:List Value} (XA:Nat.min sLen dLen=n) (hl:news.length=n*k) (hn: ∀j u,news[j]? =some u→W.cell? (a.add j)=some u) (h1: ∀u∈news,u.oneCell'=true) (xh:o+news.length≤cs.size) (ty:TypeId):
  (Builtin.copy_ #[t,t] ty #[.slice (some ⟨b,o,none⟩) dLen dCap,.slice (some a) sLen sCap]).run P W= .ok (goInt n) (W.setRow b (ca cs.toList o news).toArray):=by
 have hf:=run_firstCells_some (P:=P) W k n a sLen sCap news hl hn
 have zo:=run_storeCells_at (P:=P) b o te news 0 cs W hg ω h1
 simp only[gr]at zo
 simp[Builtin.copy_,run_underlying ht,hk,Builtin.lenOf,XA,hf,zo,ca]
set_option maxHeartbeats 4000000 in
set_option maxRecDepth 100000 in
theorem GO{e:Ty}{f:FuncId}{fn fo:Func}(L:Je P e ρ f fn fo)(w:World)(b n c i m vc:Nat)(va:Addr)(Ay Jf:Array Value)(hi:i<n)(hm:0<m)(hr:n+m≤c)(X4:c≤9223372036854775807)
  (hov: ∀x lb cb,(callFunc (ρ.f 29) #[.slice (some va) m vc,.slice (some ⟨b,x,none⟩) lb cb]).run P w= .ok (.value (.bool false)) w)
  (LA: ∀ty dc sc,(Builtin.copy_ #[(ρ.t 24),(ρ.t 24)] ty #[.slice (some ⟨b,(i+m)*e.size,none⟩) (n+m-(i+m)) dc,.slice (some ⟨b,i*e.size,none⟩) (n+m-i) sc]).run P w.drew= .ok (goInt ((n-i:Nat):Int)) (w.drew.setRow b Ay))
  (LB: ∀W:World,W.heap=(w.setRow b Ay).heap→ ∀ty dc,(Builtin.copy_ #[(ρ.t 24),(ρ.t 24)] ty #[.slice (some ⟨b,i*e.size,none⟩) (n+m-i) dc,.slice (some va) m vc]).run P W= .ok (goInt m) (W.setRow b Jf)):
   Calls P f #[.slice (some ⟨b,0,none⟩) n c,.int .i64 i,.slice (some va) m vc] w λr w2=>r= .returned (.slice (some ⟨b,0,none⟩) (n+m) c)∧w2=(w.drew.setRow b Ay).setRow b Jf:=by
 have u3:=run_underlying L.t3;have u4:=run_underlying L.t4;have u24:=run_underlying L.t24
 have t3:=L.t3;have t4:=L.t4;have t24:=L.t24
 have z9:=λw=>bL L.lay w
 have mixed:=L.mixed
 have HA: ¬((m:Int)=0):=ω
 have Sn: ¬((i:Int)=(n:Int)):=ω
 have hw1:IntKind.i64.wrap ((i:Int)+(m:Int))=(i:Int)+(m:Int):=by rw[IntKind.wrap_i64];omega
 have cg:(0:Int)≤(i:Int)+(m:Int):=ω
 have jl:i≤n:=ω
 have GD:((i:Int)+(m:Int)).toNat=i+m:=ω
 have nI: ¬(c=i+m):=ω
 have hb3:(i:Int)≤(n:Int)+(m:Int):=ω
 have hb4: ¬(c=i):=ω
 go_enter L.hf,pF ρ fn
 go_wp2_with (simp only[hov])
 go_region_law_o (refine step_copy_runI rfl _ _ (ρ.t 24) (ρ.t 24) rfl _ _ (by simp[Act.eval,Act.put]) (by simp[Act.eval,Act.put]) (LA _ _ _) ?_)
 have h2:=LB (w.drew.setRow b Ay) rfl
 go_wp2
 go_ret
 exact⟨rfl,rfl⟩
set_option maxHeartbeats 4000000 in
set_option maxRecDepth 100000 in
theorem Jg{e:Ty}{f:FuncId}{fn fo:Func}(L:Je P e ρ f fn fo)(w:World)(b n c i m vc nb G:Nat)(va:Addr)(GP Ay Jf:Array Value)(hi:i<n)(hm:0<m)(Su:n≤c)(hr:c<n+m)(X4:c≤9223372036854775807)(Si:n+m≤9223372036854775807)(hG:n+m≤G)(acU:G≤9223372036854775807)
  (Gr: ∀ty,(Builtin.append_ #[(ρ.t 24),(ρ.t 3)] ty #[.slice (some ⟨b,0,none⟩) i c,.int .i64 ((n:Int)+(m:Int)-(i:Int))]).run P w= .ok (.slice (some ⟨w.heap.size,0,none⟩) (n+m) G) (w.drew.alloc (.cells GP (ρ.t 9))))
  (LA: ∀W:World,W.heap=(w.alloc (.cells GP (ρ.t 9))).heap→ ∀ty dc,(Builtin.copy_ #[(ρ.t 24),(ρ.t 24)] ty #[.slice (some ⟨w.heap.size,i*e.size,none⟩) (n+m-i) dc,.slice (some va) m vc]).run P W= .ok (goInt m) (W.setRow w.heap.size Ay))
  (LB: ∀W:World,W.heap=((w.alloc (.cells GP (ρ.t 9))).setRow w.heap.size Ay).heap→ ∀ty dc sc,(Builtin.copy_ #[(ρ.t 24),(ρ.t 24)] ty #[.slice (some ⟨w.heap.size,(i+m)*e.size,none⟩) (n+m-(i+m)) dc,.slice (some ⟨b,i*e.size,none⟩) (n-i) sc]).run P W= .ok (goInt ((n-i:Nat):Int)) (W.setRow w.heap.size Jf)):
   Calls P f #[.slice (some ⟨b,0,none⟩) n c,.int .i64 i,.slice (some va) m vc] w λr w2=>r= .returned (.slice (some ⟨w.heap.size,0,none⟩) (n+m) G)∧w2=((w.drew.alloc (.cells GP (ρ.t 9))).setRow w.heap.size Ay).drew.setRow w.heap.size Jf:=by
 have u3:=run_underlying L.t3;have u4:=run_underlying L.t4;have u24:=run_underlying L.t24
 have t3:=L.t3;have t4:=L.t4;have t24:=L.t24
 have z9:=λw=>bL L.lay w
 have mixed:=L.mixed
 have HA: ¬((m:Int)=0):=ω
 have Sn: ¬((i:Int)=(n:Int)):=ω
 have hz3:(c:Int)<(n:Int)+(m:Int):=ω
 have hw1:IntKind.i64.wrap ((i:Int)+(m:Int))=(i:Int)+(m:Int):=by rw[IntKind.wrap_i64];omega
 have cg:(0:Int)≤(i:Int)+(m:Int):=ω
 have jl:i≤n:=ω
 have GD:((i:Int)+(m:Int)).toNat=i+m:=ω
 have hGi: ¬(G=i):=ω
 have acV: ¬(G=i+m):=ω
 have hci: ¬(c=i):=ω
 have hb3:(i:Int)≤(n:Int):=ω
 have h1:=LA ((w.alloc (.cells GP (ρ.t 9))).drew) rfl
 have h2:=LB (((w.alloc (.cells GP (ρ.t 9))).drew.setRow w.heap.size Ay).drew) rfl
 go_enter L.hf,pF ρ fn
 go_wp2_with (first
   |(at_builtin;refine Lib.wpList_append_run _ rfl _ _ _ _ rfl _ _ rfl rfl _ _ (Gr _) ?_)
   |(at_builtin;refine wpList_copy_runI _ rfl _ _ (ρ.t 24) (ρ.t 24) rfl _ _ rfl rfl (LA _ (by exact rfl) _ _) ?_)
   |(at_builtin;refine wpList_copy_runI _ rfl _ _ (ρ.t 24) (ρ.t 24) rfl _ _ rfl rfl (LB _ (by exact rfl) _ _ _) ?_))
 go_region_law_o (refine step_copy_runI rfl _ _ (ρ.t 24) (ρ.t 24) rfl _ _ (by simp[Act.eval,Act.put]) (by simp[Act.eval,Act.put]) (h2 _ _ _) ?_)
 go_wp2
 go_ret
 exact⟨rfl,rfl⟩
theorem sQ{α:Type}(A Z news:List α):ca (A++Z) A.length news=A++(news++Z.drop news.length):=by
 unfold ca
 rw[oW rfl,bs,←eC,jj rfl]
theorem jT.TT{w:World}{M:Nat→Prop}{e:Ty}{cs:List Value}{l:List e.den}(h:jT w M e cs l)(i:Nat):jT w M e (cs.take (i*e.size)) (l.take i):=by
 intro j hj
 rw[a7]at hj
 have:=cc (s:=e.size) (show j<i by omega)
 rw[kQ,kR,du ω,wE]
 exact h j ω
theorem jT.TU{w:World}{M:Nat→Prop}{e:Ty}{cs:List Value}{l:List e.den}(h:jT w M e cs l)(i:Nat):jT w M e ((cs.drop (i*e.size)).take ((l.length-i)*e.size)) (l.drop i):=by
 intro j hj
 rw[dn]at hj
 have:=cc (s:=e.size) hj
 rw[kQ,kR,du ω,eC,List.getElem_drop,←cr]
 exact h (i+j) ω
theorem p9{w w':World}{M0:Nat→Prop}{hs:List Nat}{e:Ty}{rb cap:Nat}{row:Array Value}{t:TypeId}{l:List e.den}(nS: ∀b,M0 b→b<w.heap.size)(qz: ∀b∈hs,¬M0 b)
  (Ix: ∀b,b<w.heap.size→b∉hs→w'.heap[b]? =w.heap[b]?) (kz:w.heap.size≤w'.heap.size) (Wz:rb<w.heap.size→rb∈hs) (hos:w'.os=w.os) (htp:w'.tape=w.tape) (Ig:w'.output=w.output)
  (vt:w'.heap[rb]? =some (.cells row t (0,0))) (h0:0<cap) (hl:l.length≤cap) (hm:cap≤maxLen) (S9:row.size=cap*e.size) (fg:jT w (λb=>M0 b∨b∈hs) e row.toList l):
  ∃us M',Value.slice (some ⟨rb,0,none⟩) l.length cap=qG us∧RR w' M' [.own e] l us []∧Left w M0 hs w' M'∧(aN [.own e] us []).Nodup∧ ∀b∈aN [.own e] us [],¬M0 b:=by
 have HW:rb<w'.heap.size:=(fO.1 vt).1
 have hk:cm w (λb=>M0 b∨b∈hs) w' (λb=>M0 b∨b=rb):=⟨kz,λb hb hn=>Ix b hb (λh=>hn (.inr h)),λb hb h=>h.elim .inl (λe=> .inr (e▸Wz (e▸hb)))⟩
 have po:aN [.own e] [Value.slice (some ⟨rb,0,none⟩) l.length cap] []=[rb]:=by
  have:cap≠0:=ω
  simp[aN,bH,AM.dY,cn,this]
 refine⟨[.slice (some ⟨rb,0,none⟩) l.length cap],λb=>M0 b∨b=rb,rfl,?_,?_,?_,?_⟩
 ·simp only[RR]
  refine .inr ⟨_,[],rfl,rfl,rfl,?_,rfl,trivial⟩
  simp only[A1,ER,jX]
  exact .inr ⟨rb,row,t,cap,rfl,vt,.inr rfl,h0,hl,hm,S9,fg.aV hk⟩
 ·exact⟨λb h=> .inl h,λb h=>h.elim (λh=>fP (nS b h) kz) (λh=>h▸HW),λb hb h=>h.elim .inl (λe=> .inr (e▸Wz (e▸hb))),Ix,kz,hos,htp,Ig⟩
 ·rw[po];simp
 ·rw[po]
  intro b hb h
  rw[dK]at hb
  subst hb
  exact qz b (Wz (nS b h)) h
theorem setRow_other(w:World){b c:Nat}(r:Array Value)(h:c≠b):(w.setRow b r).heap[c]? =w.heap[c]? :=by
 unfold World.setRow
 rw[Array.getElem?_modify,af (λe=>h e.symm)]
theorem setRow_size(w:World)(b:Nat)(r:Array Value):(w.setRow b r).heap.size=w.heap.size:=by
 unfold World.setRow;simp
theorem alloc_old(w:World)(o:Obj){c:Nat}(h:c<w.heap.size):(w.alloc o).heap[c]? =w.heap[c]? :=by
 show(w.heap.push o)[c]? =_
 rw[Array.getElem?_push,af ω]
theorem iX(w:World)(o:Obj):(w.alloc o).heap[w.heap.size]? =some o:=by
 show(w.heap.push o)[w.heap.size]? =_
 simp
theorem nU(w:World)(o:Obj):(w.alloc o).heap.size=w.heap.size+1:=by
 show(w.heap.push o).size=_
 simp
theorem nV{w:World}{b:Nat}{cs:Array Value}{t:TypeId}{f:Nat×Nat}(h:w.heap[b]? =some (.cells cs t f))(o n:Nat): ∀j u,((cs.toList.drop o).take n)[j]? =some u→w.cell? ((⟨b,o,none⟩:Addr).add j)=some u:=by
 intro j u hj
 rw[Addr.add_lit]
 rw[gK]at hj
 split at hj
 ·rw[gL,dm]at hj
  simp only[World.cell?,h]
  simpa using hj
 ·cases hj
theorem Fl{w:World}{M:Nat→Prop}{v:Value}{e:Ty}{l:List e.den}(h:ER w M v (.own e l)):(l=[]∧ ∃a,v= .slice a 0 0)∨
 ∃b cs t cap,v= .slice (some ⟨b,0,none⟩) l.length cap∧w.heap[b]? =some (.cells cs t (0,0))∧M b∧0<cap∧l.length≤cap∧cap≤maxLen∧cs.size=cap*e.size∧jT w M e cs.toList l:=h
end VM
end
section
namespace VM
open Go Go.Shelf Go.RowKit Go.Lib Go.Proofs
variable{P:Program}{ρ:Ren}
theorem Cs{w:World}{t e':TypeId}{e:Ty}(hu:P.underlying t=some (.slice e'))(hle:fe P e e'){n m cap cp:Nat}{olds news:List Value}{base:Option Addr}{a':Addr}(Ik:base=none→n=0∧cap=0)
  (oB:olds.length=n*e.size) (ho: ∀b,base=some b→ ∀j u,olds[j]? =some u→w.cell? (b.add j)=some u) (KG:news.length=m*e.size) (hn: ∀j u,news[j]? =some u→w.cell? (a'.add j)=some u)
  (hg:cap<n+m) (hs:n+m<sh):
  ∃iz rest,(∀ty,(Builtin.append_ #[t,t] ty #[.slice base n cap,.slice (some a') m cp]).run P w= .ok (.slice (some ⟨w.heap.size,0,none⟩) (n+m) iz) (w.drew.alloc (.cells (olds++news++rest).toArray e')))∧
   n+m≤iz∧iz≤maxLen∧rest.length=(iz-(n+m))*e.size:=by
 obtain⟨i,hi,kz,hz,Sh⟩:=hle.base
 have O7:(aK e e.aW).cells.size=e.size:=by rw[←aJ,cX,gx]
 have Si:n+m≤maxLen:=by simp only[sh,maxLen]at hs ⊢;omega
 have xh:(n+m)*i.bytes≤140737488355328:=by
  have:(n+m)*i.bytes≤68719476736*2048:=rX (by simp only[sh]at hs;omega) Sh
  omega
 refine⟨grownCap w (n+m) cap e',(Builtin.zeroCells (aK e e.aW).cells (grownCap w (n+m) cap e'-(n+m))).toList,λty=> ?_,grownCap_ge _ _ _ _,grownCap_le_maxLen _ _ _ _ Si,?_⟩
 ·cases base with
  |none=>
   obtain⟨rfl,rfl⟩:=Ik rfl
   have Xn:olds=[]:=ij (by rw[oB];simp)
   subst Xn
   have:=run_append_nil (P:=P) w t ty e' i _ hu hi hz a' m cp news (by rw[KG,kz]) hn (by simpa using hg) (by simp only[sh]at hs;omega) (by simp at xh;omega)
   simp only[c7,fT]
   rw[this]
   congr 2
   apply gv (λz=>Obj.cells z e' (0,0))
   apply eb;simp
  |some b=>
   have:=run_append_grow (P:=P) w t ty e' i _ hu hi hz b n cap olds (by rw[oB,kz]) (ho b rfl) a' m cp news (by rw[KG,kz]) hn hg (by simp only[sh]at hs;omega) (growslice_fits hg xh)
   rw[this]
   congr 2
   apply gv (λz=>Obj.cells z e' (0,0))
   apply eb;simp
 ·rw[aJ,size_zeroCells,O7]
theorem GQ{w:World}{t tn e':TypeId}{e:Ty}(hu:P.underlying t=some (.slice e'))(GD:P.underlying tn=some (.int .i64))(hle:fe P e e')(PD:0<e.size){n k cap:Nat}{olds:List Value}{b:Addr}
  (oB:olds.length=n*e.size) (ho: ∀j u,olds[j]? =some u→w.cell? (b.add j)=some u) (hk:0<k) (hg:cap<n+k) (hs:n+k<sh):
  ∃iz rest,(∀ty,(Builtin.append_ #[t,tn] ty #[.slice (some b) n cap,.int .i64 k]).run P w= .ok (.slice (some ⟨w.heap.size,0,none⟩) (n+k) iz) (w.drew.alloc (.cells (olds++rest).toArray e')))∧
   n+k≤iz∧iz≤maxLen∧rest.length=(iz-n)*e.size:=by
 obtain⟨i,hi,kz,hz,Sh⟩:=hle.base
 have O7:(aK e e.aW).cells.size=e.size:=by rw[←aJ,cX,gx]
 have Si:n+k≤maxLen:=by simp only[sh,maxLen]at hs ⊢;omega
 have xh:(n+k)*i.bytes≤140737488355328:=by
  have:(n+k)*i.bytes≤68719476736*2048:=rX (by simp only[sh]at hs;omega) Sh
  omega
 have hkb:k*i.bytes≤281474976710656:=by
  have:k*i.bytes≤(n+k)*i.bytes:=eB _ ω
  omega
 have Ld:=grownCap_ge w (n+k) cap e'
 refine⟨grownCap w (n+k) cap e',(Builtin.zeroCells (aK e e.aW).cells k++Builtin.zeroCells (aK e e.aW).cells (grownCap w (n+k) cap e'-(n+k))).toList,λty=> ?_,Ld,grownCap_le_maxLen _ _ _ _ Si,?_⟩
 ·have hold:(Builtin.firstCells i.size n (.slice (some b) n cap)).run P w.drew= .ok olds.toArray w.drew:=run_firstCells_some w.drew i.size n b n cap olds (by rw[oB,kz]) (λj u hj=>ho j u hj)
  have:=Lib.run_append_grow_zeros w t tn ty e' i _ .i64 .i64 hu GD hi hz (some b) n cap olds hold k hk (by rw[kz];exact PD) hg (by simp only[sh]at hs;omega) hkb (growslice_fits hg xh)
  rw[this]
  congr 2
  apply gv (λz=>Obj.cells z e' (0,0))
  apply eb;simp
 ·rw[Array.toList_append,aO,aJ,aJ,size_zeroCells,size_zeroCells,O7,←cr]
  congr 1;omega
structure OvP(P:Program)(ρ:Ren)(fo:Func):Prop where
 hf:P.funcs[ρ.f 29]? =some fo
 name:(fo.name== "runtime.NumGoroutine")=false
 body:fo.body.isNone=true
 next:Extern.findNext fo=none
 find:Extern.find fo=some (Extern.SlicesOverlaps.overlaps #[ρ.t 24,ρ.t 24] #[ρ.t 4])
theorem El{e:Ty}{f:FuncId}{fn fo:Func}(L:Je P e ρ f fn fo)(O:OvP P ρ fo)(sL:(fn.name== "runtime.NumGoroutine")=false)(TV:(Body2.n22 ρ).body.isNone=false)(N:Nat):gy P f (iu e N):=by
 refine⟨(λh=>by cases h),rfl,λM0 w vs x y nS hA oO qz hy=> ?_⟩
 obtain⟨l,i,v⟩:=x
 have GH:nF N l i v=some y:=hy
 clear hy
 simp only[iu,eA]at hA
 obtain⟨v0,Iy,rfl,h0,v1,X5,rfl,h1,v2,vs3,rfl,h2,rfl⟩:=hA
 simp only[nF]at GH
 split at GH
 case isFalse=>cases GH
 rename_i hc
 cases GH
 obtain⟨hi0,vo,DU,Ct⟩:=hc
 obtain⟨i,rfl⟩:=lZ hi0
 have TW:i≤l.length:=ω
 simp only[A1,jX,lM,V,Ty.isAgg,dJ,cU,Rd,cM,cT]at h0 h1 h2
 subst h1
 have hk:=L.ln
 replace DU:ℓ (α:=e.den) v=1:=DU
 rcases Fl h2 with⟨Gp,_⟩|⟨b2,E1,t2,sR,O2,E2,Ae,Lb,Z4,kI,hs2,H5⟩
 ·rw[Gp]at DU;cases DU
 replace O2:v2= .slice (some ⟨b2,0,none⟩) 1 sR:=by rw[O2];congr 1
 subst O2
 have K0:e.size≤E1.toList.length:=by
  rw[aJ (xs:=E1),hs2]
  exact Nat.le_mul_of_pos_left _ Lb
 obtain⟨news,Jh⟩: ∃news,news=E1.toList.take e.size:=⟨_,rfl⟩
 have zn:news.length=1*e.size:=by rw[Jh,a7,fi];omega
 have WA:jT w (λb=>M0 b∨b∈bY (iu e N).args [v0,.int .i64 (i:Int),.slice (some ⟨b2,0,none⟩) 1 sR]) e news v:=by
  rw[Jh];exact H5.take (by rw[DU,fi];exact aH _)
 have Su: ∀j u,news[j]? =some u→w.cell? ((⟨b2,0,none⟩:Addr).add j)=some u:=by
  have:=nV E2 0 e.size
  rw[bX]at this
  rw[Jh];exact this
 have WB: ∀u∈news,u.oneCell'=true:=by
  have:=WA 0 ω
  rw[wQ,bX,dI ω]at this
  exact this.fU
 have nI:cn (.slice (some ⟨b2,0,none⟩) 1 sR)=some b2:=by simp[cn];omega
 replace Ct:ℓ (α:=e.den) l+1<sh:=Ct
 have NO:(List.take i l++(v++List.drop i l)).length=l.length+1:=by rw[aO,aO,a7,dn,DU];omega
 have Sg:(Jd ρ fn).body.isNone=false:=TV
 refine mM L.hf sL Sg ?_
 rcases Fl h0 with⟨rfl,ad,rfl⟩|⟨b1,qE,t1,sH,rfl,Al,Ws,rq,Pp,fM,DT,HE⟩
 ·
  have hi:i=0:=by simpa using TW
  subst hi
  obtain⟨iz,rest,bG,Hz,eh,HW⟩:=Cs (P:=P) (w:=w) L.t24 L.lay (n:=0) (m:=1) (cap:=0) (cp:=sR) (olds:=[]) (news:=news) (base:=ad) (a':=⟨b2,0,none⟩) (λ_=>⟨rfl,rfl⟩) (by simp) (λ_ _ j u hj=>by simp at hj) zn Su ω (by simp only[sh];omega)
  refine(Ax L w ad 0 0 1 sR ⟨b2,0,none⟩ _ _ ω (aH _) bG).mono ?_
  rintro e1 w' ⟨rfl,rfl⟩
  refine⟨_,rfl,?_⟩
  simp only[c7]at Hz HW
  have hv:v=v++[]:=by simp
  have:=p9 (e:=e) (rb:=w.heap.size) (cap:=iz) (l:=v) (t:=ρ.t 9) (w:=w) (w':=w.drew.alloc (.cells ([]++news++rest).toArray (ρ.t 9))) nS qz (λb hb _=>alloc_old w.drew _ hb) (by rw[nU];exact Nat.le_succ _) (λh=>absurd h (wO _)) rfl rfl rfl (iX w.drew _) ω ω eh
   (by simp only[fT,dZ,aO,zn,HW,←cr];congr 1;omega) (by simpa using WA.more (cs':=rest) (by rw[DU,zn];exact aH _))
  rw[DU]at this
  simpa [iu,c3,AM.dY]using this
 ·have cg:cn (.slice (some ⟨b1,0,none⟩) l.length sH)=some b1:=by simp[cn];omega
  have hh:bY (iu e N).args [.slice (some ⟨b1,0,none⟩) l.length sH,.int .i64 (i:Int),.slice (some ⟨b2,0,none⟩) 1 sR]=[b1,b2]:=by simp[iu,bY,bH,cg,nI]
  rw[hh]at oO qz WA ⊢
  replace HE:jT w (λb=>M0 b∨b∈[b1,b2]) e qE.toList l:=by rw[←hh];exact HE
  have eX:b1≠b2:=by simpa using oO
  have X6:b1<w.heap.size:=(fO.1 Al).1
  have K2:b2<w.heap.size:=(fO.1 E2).1
  have k5:l.length*e.size≤qE.toList.length:=by rw[aJ (xs:=qE),DT];exact eB _ Pp
  have TX:i*e.size≤l.length*e.size:=eB _ TW
  obtain⟨A,TY⟩: ∃A,A=qE.toList.take (i*e.size):=⟨_,rfl⟩
  obtain⟨mid,GR⟩: ∃mid,mid=(qE.toList.drop (i*e.size)).take ((l.length-i)*e.size):=⟨_,rfl⟩
  have Fm:A.length=i*e.size:=by rw[TY,a7];omega
  have vR:mid.length=(l.length-i)*e.size:=by
   rw[GR,a7,dn,kU];omega
  have hAr:=HE.TT i
  have X9:=HE.TU i
  rw[←TY]at hAr
  rw[←GR]at X9
  have hti:(l.take i).length=i:=by rw[a7];omega
  have Fo: ∀rest:List Value,jT w (λb=>M0 b∨b∈[b1,b2]) e (A++(news++(mid++rest))) (l.take i++(v++l.drop i)):=λrest=>
   hAr.append (by rw[Fm,hti]) (WA.append (by rw[zn,DU]) (X9.more (by rw[dn,vR];exact aH _)))
  have hAc: ∀j u,A[j]? =some u→w.cell? ((⟨b1,0,none⟩:Addr).add j)=some u:=by
   have:=nV Al 0 (i*e.size)
   rw[bX]at this
   rw[TY];exact this
  have hmc: ∀j u,mid[j]? =some u→w.cell? ((⟨b1,i*e.size,none⟩:Addr).add j)=some u:=by
   rw[GR];exact nV Al (i*e.size) _
  have TZ: ∀u∈mid,u.oneCell'=true:=by
   intro u hu
   obtain⟨j,hj,rfl⟩:=oS.1 hu
   rw[vR]at hj
   have hq:j/e.size<l.length-i:=Nat.div_lt_of_lt_mul (by rw[sb];exact hj)
   have:=(X9 (j/e.size) (by rw[dn];exact hq)).fU
   refine this _ ?_
   have hjm:j/e.size*e.size+j%e.size=j:=by rw[sb];exact Nat.div_add_mod j e.size
   have sv:j%e.size<e.size:=Nat.mod_lt _ hk
   rw[List.mem_iff_getElem?]
   refine⟨j%e.size,?_⟩
   rw[gK,ae sv,gL,hjm]
   exact ba _
  by_cases jl:i=l.length
  ·
   subst jl
   have DW:mid=[]:=ij (by rw[vR];simp)
   by_cases sD:l.length+1≤sH
   ·obtain⟨ie,Sd,kz,_⟩:=L.lay.base
    have bG: ∀ty,(Builtin.append_ #[ρ.t 24,ρ.t 24] ty #[.slice (some ⟨b1,0,none⟩) l.length sH,.slice (some ⟨b2,0,none⟩) 1 sR]).run P w=_:=λty=>
     BZ (ty:=ty) (cp:=sR) L.t24 Sd Al (by rw[kz];exact DT) (by rw[kz];exact zn) Su WB sD
    refine(Ax L w _ _ _ 1 sR ⟨b2,0,none⟩ _ _ ω Pp bG).mono ?_
    rintro e1 w' ⟨rfl,rfl⟩
    refine⟨_,rfl,?_⟩
    rw[kz]
    have vt:ca qE.toList (l.length*e.size) news=A++(news++(mid++qE.toList.drop (l.length*e.size+news.length))):=by
     rw[DW,TY];simp[ca]
    have:=p9 (e:=e) (rb:=b1) (cap:=sH) (l:=l.take l.length++(v++l.drop l.length)) (t:=t1) (w:=w) (w':=w.setRow b1 (ca qE.toList (l.length*e.size) news).toArray) nS qz (λb hb hn=>setRow_other w _ (λe=>hn (by simp[e]))) (by rw[setRow_size];exact aH _) (λ_=>by simp) rfl rfl rfl (setRow_heap w b1 qE _ t1 _ Al) rq (by rw[NO];exact sD) fM
     (by
      have:=cc (s:=e.size) (show l.length<sH by omega)
      rw[vt,dZ]
      simp only[aO,DW,bM,dn,aJ,Fm,zn,DT]
      omega)
     (by rw[vt];exact Fo _)
    rw[NO]at this
    simpa [iu,c3,AM.dY]using this
   ·obtain⟨iz,rest,bG,Hz,eh,HW⟩:=Cs (P:=P) (w:=w) L.t24 L.lay (n:=l.length) (m:=1) (cap:=sH) (cp:=sR) (olds:=A) (news:=news) (base:=some ⟨b1,0,none⟩) (a':=⟨b2,0,none⟩) (λh=>by cases h) Fm (λb hb=>by cases hb;exact hAc) zn Su ω Ct
    refine(Ax L w _ _ _ 1 sR ⟨b2,0,none⟩ _ _ ω Pp bG).mono ?_
    rintro e1 w' ⟨rfl,rfl⟩
    refine⟨_,rfl,?_⟩
    have:=p9 (e:=e) (rb:=w.heap.size) (cap:=iz) (l:=l.take l.length++(v++l.drop l.length)) (t:=ρ.t 9) (w:=w) (w':=w.drew.alloc (.cells (A++news++rest).toArray (ρ.t 9))) nS qz (λb hb _=>alloc_old w.drew _ hb) (by rw[nU];exact Nat.le_succ _) (λh=>absurd h (wO _)) rfl rfl rfl (iX w.drew _) ω (by rw[NO];exact Hz) eh
     (by simp only[dZ,aO,Fm,zn,HW,←cr];congr 1;omega) (by have:=Fo rest;rw[DW,fT,←bs]at this;exact this)
    rw[NO]at this
    simpa [iu,c3,AM.dY]using this
  ·have PJ:i<l.length:=ω
   have Lg:i*e.size+e.size≤l.length*e.size:=cc PJ
   have e1k:(i+1)*e.size=A.length+news.length:=by rw[Fm,zn,cr]
   have vS:Nat.min 1 (l.length+1-i)=1:=du ω
   by_cases sD:l.length+1≤sH
   ·
    have T0:l.length*e.size+e.size≤qE.toList.length:=by rw[aJ (xs:=qE),DT];exact cc ω
    have hsh: ∀(b:Nat) (c:Array Value) (t:TypeId),w.heap[b]? =some (.cells c t (0,0))→w.shape? b=some (t,c.size):=λb c t h=>by simp[World.shape?,h]
    obtain⟨B,hB⟩: ∃B,B=qE.toList.drop (i*e.size):=⟨_,rfl⟩
    have T1:qE.toList=A++B:=by rw[TY,hB,ik]
    have hBl:B.length=qE.toList.length-i*e.size:=by rw[hB,dn]
    have Ya:(B.take e.size).length=e.size:=by rw[a7];omega
    have Cu:ca qE.toList ((i+1)*e.size) mid=A++(B.take e.size++(mid++(B.drop e.size).drop mid.length)):=by
     have:qE.toList=(A++B.take e.size)++B.drop e.size:=by rw[bs,ik];exact T1
     rw[this,show(i+1)*e.size=(A++B.take e.size).length from by rw[aO,Ya,Fm,cr,fi],sQ,bs]
    have uN:ca (ca qE.toList ((i+1)*e.size) mid) (i*e.size) news=A++(news++(mid++(B.drop e.size).drop mid.length)):=by
     rw[Cu,←Fm,sQ,zn,fi,jj Ya]
    refine(GO L w b1 l.length sH i 1 sR ⟨b2,0,none⟩ (ca qE.toList ((i+1)*e.size) mid).toArray (ca (ca qE.toList ((i+1)*e.size) mid) (i*e.size) news).toArray PJ ω sD (by simp only[maxLen]at fM;omega) (λx lb cb=> ?_) (λty dc sc=> ?_) (λW hW ty dc=> ?_)).mono ?_
    ·rw[run_callFunc_extern O.hf O.name O.body O.next O.find,
      Lib.run_overlaps_apart w (ρ.t 24) (ρ.t 4) (ρ.t 9) L.t24 e.size (λw=>bL L.lay w) ⟨b2,0,none⟩ ⟨b1,x,none⟩ 1 sR lb cb (cP eX) t2 t1 E1.size qE.size (hsh b2 E1 t2 E2) (hsh b1 qE t1 Al) (by rw[DT];exact Nat.ne_of_gt (Nat.mul_pos rq hk)) (by simp[World.frozen?,E2]) (by simp[World.frozen?,E2])]
     rfl
    ·exact run_copy_row (P:=P) (W:=w.drew) L.t24 (λw=>bL L.lay w) (cs:=qE) Al (news:=mid) (n:=l.length-i) (by simp only[Nat.min_def];split<;>omega) vR hmc TZ (by rw[vR,cr,fi];rw[aJ (xs:=qE)]at T0;rw[kU];omega) ty
    ·exact run_copy_row (P:=P) (W:=W) L.t24 (λw=>bL L.lay w) (cs:=(ca qE.toList ((i+1)*e.size) mid).toArray) (te:=t1) (by rw[hW];exact setRow_heap w b1 qE _ t1 _ Al) (news:=news) (n:=1) vS zn
      (λj u hj=>by
       have:=Su j u hj
       rw[Addr.add_lit]at this ⊢
       rw[show W.cell? ⟨b2,0+j,none⟩=w.cell? ⟨b2,0+j,none⟩from World.cell?_of_block (by rw[hW];exact setRow_other w _ (cP eX))]
       exact this) WB (by
       rw[dZ,Cu]
       simp only[aO,Ya,Fm,zn]
       omega) ty
    ·rintro e1 w' ⟨rfl,rfl⟩
     refine⟨_,rfl,?_⟩
     have:=p9 (e:=e) (rb:=b1) (cap:=sH) (l:=l.take i++(v++l.drop i)) (t:=t1) (w:=w) (w':=(w.drew.setRow b1 (ca qE.toList ((i+1)*e.size) mid).toArray).setRow b1 (ca (ca qE.toList ((i+1)*e.size) mid) (i*e.size) news).toArray) nS qz
      (λb hb hn=>(setRow_other _ _ (λe=>hn (by simp[e]))).trans (setRow_other _ _ (λe=>hn (by simp[e])))) (by rw[setRow_size,setRow_size];exact aH _) (λ_=>by simp) rfl rfl rfl (setRow_heap _ b1 _ _ t1 _ (setRow_heap w.drew b1 qE _ t1 _ Al)) rq (by rw[NO];exact sD) fM
      (by
       rw[uN,dZ]
       rw[aJ (xs:=qE)]at T0 hBl
       simp only[aO,dn,Fm,zn,vR,hBl,kU]
       omega)
      (by rw[uN];exact Fo _)
     rw[NO]at this
     simpa [iu,c3,AM.dY]using this
   ·
    obtain⟨iz,Z,bG,Hz,eh,hZl⟩:=GQ (P:=P) (w:=w) L.t24 L.t3 L.lay hk (n:=i) (k:=l.length+1-i) (cap:=sH) (olds:=A) (b:=⟨b1,0,none⟩) Fm hAc ω ω ω
    have Yb:i+(l.length+1-i)=l.length+1:=ω
    rw[Yb]at bG Hz
    have hZk:(l.length+1-i)*e.size≤Z.length:=by rw[hZl];exact eB _ ω
    rw[kU,cr,fi]at hZk
    have Cu:ca (A++Z) (i*e.size) news=A++(news++Z.drop news.length):=by rw[←Fm,sQ]
    have uN:ca (ca (A++Z) (i*e.size) news) ((i+1)*e.size) mid=A++(news++(mid++(Z.drop news.length).drop mid.length)):=by
     rw[Cu,←bs,e1k,←aO,sQ,bs]
    have WC:w.heap.size≠b1:=ω
    have ac7:b2≠w.heap.size:=ω
    refine(Jg L w b1 l.length sH i 1 sR 0 iz ⟨b2,0,none⟩ (A++Z).toArray (ca (A++Z) (i*e.size) news).toArray (ca (ca (A++Z) (i*e.size) news) ((i+1)*e.size) mid).toArray PJ ω Pp ω (by simp only[maxLen]at fM;omega) (by simp only[sh]at Ct;omega) Hz (by simp only[maxLen]at eh;omega) (λty=> ?_) (λW hW ty dc=> ?_) (λW hW ty dc sc=> ?_)).mono ?_
    ·have:=bG ty
     rw[show(((l.length+1-i:Nat):Int))=(l.length:Int)+(1:Nat)-(i:Int)from by omega]at this
     exact this
    ·exact run_copy_row (P:=P) (W:=W) L.t24 (λw=>bL L.lay w) (cs:=(A++Z).toArray) (te:=ρ.t 9) (by rw[hW];exact iX w _) (news:=news) (n:=1) vS zn
      (λj u hj=>by
       have:=Su j u hj
       rw[Addr.add_lit]at this ⊢
       rw[show W.cell? ⟨b2,0+j,none⟩=w.cell? ⟨b2,0+j,none⟩from World.cell?_of_block (by rw[hW];exact alloc_old w _ K2)]
       exact this) WB (by rw[dZ,aO,Fm,zn];omega) ty
    ·exact run_copy_row (P:=P) (W:=W) L.t24 (λw=>bL L.lay w) (cs:=(ca (A++Z) (i*e.size) news).toArray) (te:=ρ.t 9) (by rw[hW];exact setRow_heap _ _ _ _ _ _ (iX w _)) (news:=mid) (n:=l.length-i) (by simp only[Nat.min_def];split<;>omega) vR
      (λj u hj=>by
       have:=hmc j u hj
       rw[Addr.add_lit]at this ⊢
       rw[show W.cell? ⟨b1,i*e.size+j,none⟩=w.cell? ⟨b1,i*e.size+j,none⟩from World.cell?_of_block (by rw[hW];exact(setRow_other _ _ (cP WC)).trans (alloc_old w _ X6))]
       exact this) TZ (by
       rw[dZ,Cu]
       simp only[aO,dn,Fm,zn,vR,cr,kU]
       omega) ty
    ·rintro e1 w' ⟨rfl,rfl⟩
     refine⟨_,rfl,?_⟩
     have OS:((w.drew.alloc (.cells (A++Z).toArray (ρ.t 9))).setRow w.heap.size (ca (A++Z) (i*e.size) news).toArray).drew.heap[w.heap.size]? =some (.cells (ca (A++Z) (i*e.size) news).toArray (ρ.t 9) (0,0)):=setRow_heap _ _ _ _ _ _ (iX w.drew _)
     have:=p9 (e:=e) (rb:=w.heap.size) (cap:=iz) (l:=l.take i++(v++l.drop i)) (t:=ρ.t 9) (w:=w) (w':=((w.drew.alloc (.cells (A++Z).toArray (ρ.t 9))).setRow w.heap.size (ca (A++Z) (i*e.size) news).toArray).drew.setRow w.heap.size (ca (ca (A++Z) (i*e.size) news) ((i+1)*e.size) mid).toArray) nS qz
      (λb hb hn=>(setRow_other _ _ ω).trans ((setRow_other _ _ ω).trans (alloc_old w.drew _ hb))) (by rw[setRow_size];show _≤(World.setRow _ _ _).heap.size;rw[setRow_size,nU];exact Nat.le_succ _) (λh=>absurd h (wO _)) rfl rfl rfl (setRow_heap _ _ _ _ _ _ OS) ω (by rw[NO];exact Hz) eh
      (by
       rw[uN,dZ]
       have hmul:(iz-i)*e.size=iz*e.size-i*e.size:=kU _ _ _
       have hci:i*e.size≤iz*e.size:=eB _ ω
       simp only[aO,dn,Fm,zn,vR,hZl,hmul,kU]at hZk ⊢
       omega)
      (by rw[uN];exact Fo _)
     rw[NO]at this
     simpa [iu,c3,AM.dY]using this
end VM
end
section
namespace VM
open Go Go.RowKit
variable{P:Program}
def gX(k n:Nat)(a:Int):Array Value:=(List.replicate k (Value.int .i64 a)++List.replicate (n-k) (Value.int .i64 0)).toArray
theorem tL{k n:Nat}{a:Int}(h:k≤n):(gX k n a).size=n:=by simp[gX];omega
theorem zF{k m n:Nat}{a:Int}(h:k+m≤n):(ca (gX k n a).toList (k*1) (List.replicate m (Value.int .i64 a))).toArray=gX (k+m) n a:=by
 unfold gX
 show(ca (List.replicate k (Value.int .i64 a)++List.replicate (n-k) (Value.int .i64 0)) (k*1) (List.replicate m (Value.int .i64 a))).toArray=_
 congr 1
 have:=sQ (List.replicate k (Value.int .i64 a)) (List.replicate (n-k) (Value.int .i64 0)) (List.replicate m (Value.int .i64 a))
 rw[a5]at this
 rw[o8,this,←bs,List.replicate_append_replicate]
 simp
 omega
theorem Em{w:World}{b k n:Nat}{a:Int}{t:TypeId}(h:w.heap[b]? =some (.cells (gX k n a) t (0,0)))(m:Nat)(hm:m≤k): ∀j u,(List.replicate m (Value.int .i64 a))[j]? =some u→w.cell? ((⟨b,0,none⟩:Addr).add j)=some u:=by
 intro j u hj
 rw[Addr.add_lit,c7]
 obtain⟨c6,rfl⟩:=lX.1 hj
 rw[a5]at c6
 simp only[World.cell?,h,gX]
 show(List.replicate k (Value.int .i64 a)++List.replicate (n-k) (Value.int .i64 0)).toArray[j]? =_
 rw[oQ,kt (by simp;omega),rG,ae ω,rI]
theorem GU{W:World}{t e:TypeId}{a:Int}(hu:P.underlying t=some (.slice e))(hle:fe P (.int .i64) e)(m:Nat)(h:m<1048576):
  (Instr.makeSlice t (.int .i64 (m:Int)) (.int .i64 (m:Int))).run P W= .ok (.slice (some ⟨W.heap.size,0,none⟩) m m) (W.alloc (.cells (gX 0 m a) e)):=by
 obtain⟨i,hi,hs,hz,hb⟩:=hle.base
 have xf:(i.bytes:Int)*m≤281474976710656:=by
  have h4:(i.bytes:Int)≤2048:=ω
  have:(i.bytes:Int)*m≤2048*m:=ny h4 ω
  omega
 have bG:=run_make (P:=P) W t e i _ hu hi hz .i64 .i64 m m ω ω xf ω
 rw[bG]
 have h1:madeCells (aK (.int .i64) (Ty.int .i64).aW).cells ((m:Int).toNat*i.size)=gX 0 m a:=by
  rw[hs]
  simp only[gX,ar,Ty.size,o8,rP,fT,Nat.sub_zero]
  apply eb
  apply oT
  intro j
  simp[madeCells,aK,Ty.isAgg,Ty.aW,Value.cells]
  by_cases hj:j<m
  ·simp[hj,rG,Nat.mod_one]
  ·simp[hj,rG]
 rw[h1]
 simp
theorem En{f:FuncId}{fn:Func}(hf:P.funcs[f]? =some fn)(sL:(fn.name== "runtime.NumGoroutine")=false)(hb:fn.body.isNone=false)(t:TypeId)(N:Nat)
  (h: ∀(w:World) (a n:Int) (b off c:Nat),0<n→n<1048576→w.cell? ⟨b,off,none⟩=some (.int .i64 a)→1≤c→Calls P f #[.slice (some ⟨b,off,none⟩) 1 c,.int .i64 n] w λe w'=> ∃rb,e= .returned (.slice (some ⟨rb,0,none⟩) n.toNat n.toNat)∧w.heap.size≤rb∧w'.heap[rb]? =some (.cells (gX n.toNat n.toNat a) t (0,0))∧Below w.heap.size w w'):
  gy P f (vO (.int .i64) N):=by
 refine⟨(λh=>by cases h),rfl,λM0 w vs x y nS hA oO qz hy=> ?_⟩
 obtain⟨l,n⟩:=x
 have GH:sl N l n=some y:=hy
 simp only[vO,eA]at hA
 obtain⟨v0,Iy,rfl,h0,v1,X5,rfl,h1,rfl⟩:=hA
 simp only[sl]at GH
 split at GH
 case h_2=>cases GH
 rename_i l' a
 split at GH
 case isFalse=>cases GH
 rename_i hc
 cases GH
 simp only[A1,jX,lM,V,Ty.isAgg,dJ,cU,Rd,cM,cT]at h0 h1
 subst h1
 obtain⟨ad,cap,rfl,Hw,m9⟩:=h0
 obtain⟨b,off,rfl,po,_,cs',lK,rfl⟩:=m9 0 (by simp)
 have w9:=lK 0 _ rfl
 simp only[a6]at Hw
 refine mM hf sL hb ((h w a n b off cap hc.1 hc.2 (by simpa using w9) Hw).mono ?_)
 rintro e w' ⟨rb,rfl,Wz,vt,IW⟩
 refine⟨_,rfl,?_⟩
 have hn:n.toNat≤n.toNat:=aH _
 have hh:bY (vO (.int .i64) N).args [.slice (some ⟨b,off,none⟩) 1 cap,.int .i64 n]=[]:=rfl
 have:=p9 (e:= .int .i64) (rb:=rb) (cap:=n.toNat) (l:=List.replicate n.toNat a) (t:=t) (w:=w) (w':=w') (hs:=[]) (M0:=M0) nS (λb hb=>by cases hb) (λc hc _=>IW.block c hc) IW.size (λh=>absurd h ω) IW.os IW.tape IW.output vt ω (by simp) (by simp only[maxLen];omega)
  (by rw[tL hn];simp[Ty.size]) (by
   intro i hi
   rw[a5]at hi
   simp only[Rd,Ty.size,gX,o8,wP,rP,cy,List.drop_replicate,List.take_replicate,rI]
   rw[show min 1 (n.toNat-i)=1 from by omega];rfl)
 simp only[a5]at this
 exact this
theorem LC{E:Env}(hE:jF P E)(PH:E.io=[]){f:FuncId}{fn:Func}(hf:P.funcs[f]? =some fn)(hc:(Nat.beq E.nt fn.ntmps&&Nat.ble 2 E.nt)=true){w:World}{a b u v:Int}
  (h:zl E fn [.v (.int .u64),.v (.int .u64)] [.v (.int .u64),.v (.int .u64)] (a,b)=some (u,v)):Calls P f #[.int .u64 a,.int .u64 b] w λe w'=>e= .returned (.tuple #[.int .u64 u,.int .u64 v])∧Below w.heap.size w w':=by
 rw[bg]at hc
 have Lu:=cJ hc.1
 have hlen:=rM hc.2
 refine(tH (args:=[.v (.int .u64),.v (.int .u64)]) (res:=[.v (.int .u64),.v (.int .u64)]) (y:=(u,v)) (M0:=λ_=>False) (w:=w) (vs:=[.int .u64 a,.int .u64 b]) (x:=(a,b)) hE hf Lu (λi m hm ni=> ?_) (λi hi=>by rw[PH]at hi;cases hi) (by rw[←Lu];exact hlen) (λb hb=>hb.elim) ?_ wN (λb hb=>by cases hb) h).mono ?_
 ·match i,hm with
  |0,hm=>cases hm;cases ni
  |1,hm=>cases hm;cases ni
 ·simp only[eA]
  refine⟨_,_,rfl,?_,_,_,rfl,?_,rfl⟩<;>simp[A1,V,Ty.isAgg,Rd,jX,lM]
 ·rintro e w' ⟨r,rfl,us,M',rfl,B5,hL,_,_⟩
  simp only[RR]at B5
  rcases B5 with⟨p,vU,h1,_⟩|⟨r1,Iy,_,_,rfl,HE,B5⟩
  ·cases h1
  ·rcases B5 with⟨p,vU,h1,_⟩|⟨r2,X5,_,_,rfl,H5,rfl,_⟩
   ·cases h1
   ·simp only[A1,V,Ty.isAgg,dJ,cU,Rd,cM,cT,jX,lM]at HE H5
    subst HE;subst H5
    exact⟨rfl,hL.os,hL.tape,hL.output,hL.size,λb hb=>hL.frame b hb (by simp[bY,bH])⟩
end VM
end
