/- A part of the proof of HedgeLess of layer 22: a machine that reads a function of the program as an equation between values. -/
import Derived.Test.YtocmlaipoebfeaaGreatVm6
import Derived.KernelRfl
import Derived.Test.YtocmlaipoebfeaaGreatVm0
import Derived.Laws.Externs
import Derived.Shelf.Spec.SlicesInsertGrow
set_option linter.all false
noncomputable section
section
namespace VM
open Go
@[reducible] def CM.arr:CM→Type→Type
 | .v τ,T| .obj τ,T| .io τ,T| .fn _ τ,T=>τ.den→T
 | .own e,T=>List e.den→T
 | .ga τ _ e,T=>τ.den→List e.den→T
 | .same _,T=>T
@[reducible] def Xk:List (Nat×CM)→Type→Type
 |[],R=>R
 |q::r,R=>q.2.arr (Xk r R)
def CM.lam{T:Type}(s:Nat)(σ:St):(m:CM)→(St→T)→m.arr T
 | .v τ,f=>λx=>f (σ.put s (.val τ x))
 | .own e,f=>λx=>f ((σ.put s (.ref (16*s+14))).jW (16*s+14) (some (.own e x)))
 | .obj τ,f=>λx=>f ((σ.put s (.jr (16*s+14) [])).jW (16*s+14) (some (.obj τ x)))
 | .ga τ q e,f=>λx l=>f (((σ.put s (.jr (16*s+14) [])).jW (16*s+13) (some (.own e l))).jW (16*s+14) (some (.ga τ x q (16*s+13))))
 | .io τ,f=>λx=>f ((σ.put s (.jr (16*s+15) [])).jW (16*s+15) (some (.obj τ x)))
 | .fn g τ,f=>λx=>f (σ.put s (.Nd g (qA τ x)))
 | .same s',f=>f (σ.put s (σ.T s'))
def apw{R:Type}(κ:St→R):(L:List (Nat×CM))→St→Xk L R
 |[],σ=>κ σ
 |q::r,σ=>q.2.lam q.1 σ (apw κ r)
@[reducible] def zv:List AM→Type→Type
 |[],R=>R
 |m::r,R=>m.den→zv r R
def Ld{R:Type}:(ms:List AM)→zv ms R→HP ms→R
 |[],g,_=>g
 |[_],g,x=>g x
 |_::n::ms,g,x=>Ld (n::ms) (g x.1) x.2
def Vs{R:Type}:(ms:List AM)→(HP ms→R)→zv ms R
 |[],f=>f ()
 |[_],f=>f
 |_::n::ms,f=>λx=>Vs (n::ms) λy=>f (x,y)
theorem Le{R:Type}: ∀(ms:List AM) (f:HP ms→R) (x:HP ms),Ld ms (Vs ms f) x=f x
 |[],_,()=>rfl
 |[_],_,_=>rfl
 |_::n::ms,f,x=>Le (n::ms) (λy=>f (x.1,y)) x.2
structure Pc where
 k:Nat
 c:List (Nat×CM)
 path:List Nat
 ks:List Nat
def Yp:List Pc→Nat→Pc
 |[],_=>⟨0,[],[],[]⟩
 |p::r,k=>cond (Nat.beq k p.k) p (Yp r k)
def N1:List Pc→Nat→Option (List (Nat×CM))
 |[],_=>none
 |p::r,k=>cond (Nat.beq k p.k) (some p.c) (N1 r k)
def Cd:List (Nat×lI)→Nat→List lI
 |[],_=>[]
 |q::r,i=>cond (Nat.beq i q.1) (q.2::Cd r i) (Cd r i)
def Gi:List AM→Nat→List Nat
 |[],_=>[]
 | .io _::r,i=>i::Gi r (i+1)
 | .lo _::r,i=>i::Gi r (i+1)
 |_::r,i=>Gi r (i+1)
structure Fx where
 nt:Nat
 tab:List (Nat×Ty)
 G:List (Nat×lI)
 N:Nat
 fn:Func
 args:List AM
 res:List AM
 pcs:List Pc
 lk:Option (Ty×List Step×Ty×List Nat):=none
namespace Fx
variable(X:Fx)
abbrev R:=Option (HP X.res)
def E:Env:={nt:=X.nt,ty:=λi=>N0 i X.tab,Γ:=Cd X.G,N:=X.N,xc:=λr=>N1 X.pcs (2*r+1),yG:=λr=>N1 X.pcs (2*r),io:=Gi X.args 0,lk:=X.lk}
@[reducible] def c(i:Nat):List (Nat×CM):=(Yp X.pcs i).c
def path(i:Nat):List Nat:=(Yp X.pcs i).path
def odd(i:Nat):Bool:=Nat.beq (i%2) 1
def cut(ρ:Nat→St→X.R)(l:Nat):St→X.R:=fun σ=>xg (some (X.c l)) σ (ρ l)
def ks(ρ:Nat→St→X.R)(i:Nat):List (St→X.R):=(Yp X.pcs i).ks.map (X.cut ρ)
def lp(ρ:Nat→St→X.R)(i n:Nat):St→X.R:=lpF X.E X.fn X.args X.res (X.c i) (X.path i) (X.ks ρ i) n
def ch(ρ:Nat→St→X.R)(i:Nat):St→X.R:=cond (odd i) (X.lp ρ i X.N) (atF X.E X.fn X.args X.res (X.path i) (X.ks ρ i))
def own(ρ:Nat→St→X.R)(i:Nat):List (St→X.R):=X.ks ρ i++cond (odd i) [X.cut ρ i] []
def at'(K ρ:Nat→St→X.R)(i:Nat):St→X.R:=atQ X.E X.fn X.args X.res (λr=>K (2*r)) (λr=>K (2*r+1)) (X.path i) (X.own ρ i)
def tl(K ρ:Nat→St→X.R)(i:Nat):List ((St→X.R)×(St→X.R)):=xz X.E (λr=>K (2*r)) (λr=>K (2*r+1)) (aca X.E X.fn X.args X.res (X.path i) (X.own ρ i))
@[reducible] def cu(i:Nat)(κ:St→X.R):Xk (X.c i) X.R:=apw κ (X.c i) S0
@[reducible] def bd(K ρ:Nat→St→X.R)(i:Nat):Xk (X.c i) X.R:=X.cu i (X.at' K ρ i)
@[reducible] def kc(ρ:Nat→St→X.R)(i:Nat):Xk (X.c i) X.R:=X.cu i (ρ i)
def Dp:Nat→St→X.R:=λ_ _=>none
def top(K:Nat→St→X.R):zv X.args X.R:=Vs X.args λx=>atQ X.E X.fn X.args X.res (λr=>K (2*r)) (λr=>K (2*r+1)) [] [] (entry X.args x 0 S0)
def tlT(K:Nat→St→X.R):List ((St→X.R)×(St→X.R)):=xz X.E (λr=>K (2*r)) (λr=>K (2*r+1)) (aca X.E X.fn X.args X.res [] [])
def S(q:Bool)(g:zv X.args X.R):lI:={args:=X.args,res:=X.res,quiet:=q,run:=Ld X.args g}
variable{X}
theorem acb(f:Nat→St→X.R): ∀sW:List Nat,Vq (sW.map λt=>(f t,f t))
 |[]=>trivial
 |_::r=>⟨rfl,acb f r⟩
theorem okJ{i:Nat}(sW:List Nat)(hi:odd i=false)(hr: ∀K ρ,X.tl K ρ i=sW.map λt=>(K t,X.ch ρ t)){g:(Nat→St→X.R)→(Nat→St→X.R)→Xk (X.c i) X.R}(h: ∀K ρ,X.bd K ρ i=g K ρ)(ρ:Nat→St→X.R):X.kc (X.ch ρ) i=g (X.ch ρ) ρ:=by
 rw[←h]
 have:X.ch ρ i=X.at' (X.ch ρ) ρ i:=by
  funext σ
  have h1:=hr (X.ch ρ) ρ
  unfold tl own at h1
  rw[hi,av,cH]at h1
  unfold at' own
  rw[hi,av,cH]
  rw[←at_eq X.E X.fn X.args X.res h1 (acb (X.ch ρ) sW) σ]
  unfold ch;rw[hi];rfl
 unfold kc bd
 rw[this]
def okb(X:Fx)(i:Nat):Bool:=odd i&&(Yp X.pcs i).ks.all λl=> !(Nat.beq l i)
theorem okL{i:Nat}(sW:List Nat)(hi:okb X i=true)(hr: ∀K ρ,X.tl K ρ i=sW.map λt=>(K t,X.ch ρ t)){g:(Nat→St→X.R)→(Nat→St→X.R)→Xk (X.c i) X.R}(h: ∀K ρ,X.bd K ρ i=g K ρ)(ρ:Nat→St→X.R)
  (G:Nat→Xk (X.c i) X.R) (h0:X.cu i (λ_=>none)=G 0) (hs: ∀n ρ',X.kc ρ' i=G n→(∀l,Nat.beq l i=false→X.kc ρ' l=X.kc ρ l)→g (X.ch ρ') ρ'=G (n+1)):X.kc (X.ch ρ) i=G X.N:=by
 unfold okb at hi
 rw[bB]at hi
 obtain⟨hi,hk⟩:=hi
 have key: ∀n,X.cu i (X.lp ρ i n)=G n:=by
  intro n
  induction n with
  |zero=>exact h0
  |succ n ih=>
   let ρ':Nat→St→X.R:=λl=>cond (Nat.beq l i) (X.lp ρ i n) (ρ l)
   have e1:ρ' i=X.lp ρ i n:=by show cond (Nat.beq i i) _ _=_;rw[uC];rfl
   have e2: ∀l,Nat.beq l i=false→ρ' l=ρ l:=λl hl=>by show cond (Nat.beq l i) _ _=_;rw[hl];rfl
   rw[←hs n ρ' (by unfold kc;rw[e1];exact ih) (λl hl=>by unfold kc;rw[e2 l hl]),←h]
   have e3:X.ks ρ' i=X.ks ρ i:=by
    unfold ks
    refine rC λl hl=> ?_
    have:=nn.1 hk l hl
    unfold cut
    rw[e2 l (by simpa using this)]
   have:X.lp ρ i (n+1)=X.at' (X.ch ρ') ρ' i:=by
    funext σ
    have h1:=hr (X.ch ρ') ρ'
    unfold tl own at h1
    rw[hi,ak]at h1
    unfold at' own
    rw[hi,ak]
    rw[←at_eq X.E X.fn X.args X.res h1 (acb (X.ch ρ') sW) σ]
    unfold lp
    rw[Yl,e3]
    unfold cut
    rw[e1];rfl
   unfold bd
   rw[this]
 have:X.ch ρ i=X.lp ρ i X.N:=by unfold ch;rw[hi];rfl
 unfold kc
 rw[this];exact key _
def Lf(P:Program):List (Nat×lI)→Prop
 |[]=>True
 |q::r=>ix P q.1 q.2∧Lf P r
structure _root_.VM.Kn(P:Program) where
 f:Nat
 S:lI
 ok:ix P f S
def _root_.VM.Kn.p{P:Program}(k:Kn P):Nat×lI:=(k.f,k.S)
def _root_.VM.Kn.l{P:Program}:List (Kn P)→List (Nat×lI)
 |[]=>[]
 |k::r=>k.p::Kn.l r
theorem _root_.VM.Kn.all{P:Program}: ∀l:List (Kn P),Lf P (Kn.l l)
 |[]=>trivial
 |k::r=>⟨k.ok,Kn.all r⟩
theorem Ce{P:Program}: ∀{l:List (Nat×lI)},Lf P l→ ∀f S,S∈Cd l f→ix P f S
 |[],_,f,S,h=>by simp[Cd]at h
 |q::r,ha,f,S,h=>by
  unfold Cd at h
  cases hb:Nat.beq f q.1<;>rw[hb]at h
  ·exact Ce ha.2 f S h
  ·rcases aZ.1 h with rfl|h
   ·rw[fR hb];exact ha.1
   ·exact Ce ha.2 f S h
theorem Gj: ∀{l:List Pc},(l.all λp=>kf p.c)=true→ ∀i L,N1 l i=some L→kf L=true
 |q::r,ha,i,L,h=>by
  rw[Ao,bB]at ha
  unfold N1 at h
  cases hb:Nat.beq i q.k<;>rw[hb]at h
  ·exact Gj ha.2 i L h
  ·cases h;exact ha.1
def chk(X:Fx)(q:Bool):Bool:=(X.pcs.all λp=>kf p.c)&&((!(X.fn.name== "runtime.NumGoroutine")&&Nat.beq X.nt X.fn.ntmps)&&(X.fn.body.isSome&&(Nat.ble X.args.length X.nt&&((!q||X.res.all AM.flat)&&decide (nH X.args=nH X.res)))))
theorem N2: ∀{ms:List AM} {k i:Nat} {m:AM},ms[i]? =some m→m.iJ=true→k+i∈Gi ms k
 |[],_,_,_,h,_=>by simp at h
 |m::ms,k,0,m',h,wB=>by
  simp only[M6,iA]at h
  subst h
  cases m<;>simp[AM.iJ]at wB<;>simp[Gi]
 |m::ms,k,i+1,m',h,wB=>by
  have:=N2 (ms:=ms) (k:=k+1) (i:=i) (by simpa using h) wB
  rw[show k+(i+1)=k+1+i from by omega]
  cases m<;>simp only[Gi]<;>first|exact a7 _ this|exact this
theorem TJ: ∀{ms:List AM} {k i:Nat},i∈Gi ms k→i<k+ms.length
 |[],_,_,h=>by simp[Gi]at h
 |m::ms,k,i,h=>by
  have hr:i∈Gi ms (k+1)→i<k+(m::ms).length:=λh=>by have:=TJ h;simp only[aR];omega
  cases m<;>simp only[Gi]at h<;>first
   |exact hr h
   |(rcases aZ.1 h with rfl|h<;>first|exact hr h|(simp only[aR];omega))
variable(X)in
theorem TK{P:Program}(ht:Gh P X.tab)(hG:Lf P X.G)(hc:(X.pcs.all λp=>kf p.c)=true):uS P X.E:=by
 have ki: ∀t τ,N0 t X.tab=some τ→uU P τ (.inl t)=true∧ab8 P τ t=true:=λt τ h=>by
  have:=nn.1 ht.ok _ (Jq h)
  simpa using this
 exact{ty:=λt τ h=>gI (ki t τ h).1,eq:=λt τ h hc ha=>ab9 (gI (ki t τ h).1) (ki t τ h).2 hc ha,ao7:=Ce hG,mixed:=ht.mixed,kf:=λi L h=>Gj hc _ L h,XT:=λi L h=>Gj hc _ L h}
theorem mkS{P:Program}(ht:Gh P X.tab){f:FuncId}(hf:P.funcs[f]? =some X.fn){q:Bool}(hc:chk X q=true)(hG:Lf P X.G){g:zv X.args X.R}(h: ∀x,Rk X.E X.fn X.args X.res x=Ld X.args g x):ix P f (X.S q g):=by
 unfold chk at hc
 simp only[bB]at hc
 obtain⟨h0,⟨h1,h2⟩,h3,h4,h5,h6⟩:=hc
 refine Yd (TK X ht hG h0) hf (by simpa using h1) (fR h2) (X.S q g) (λi m hm wB=> ?_) (λi hi=> ?_) ?_ (λhq=> ?_) (bA h6) h
 ·have:=N2 (k:=0) hm wB
  rwa [fT]at this
 ·have:=TJ (k:=0) hi
  rwa [fT]at this
 ·have:=Fh h4
  rwa [fR h2]at this
 ·have hq:q=true:=hq
  subst hq
  show X.res.all AM.flat=true
  simpa using h5
theorem akb{g:zv X.args X.R}(h:Vs X.args (Rk X.E X.fn X.args X.res)=g)(x:HP X.args):Rk X.E X.fn X.args X.res x=Ld X.args g x:=by rw[←h,Le]
variable(X)in
theorem ok0{P:Program}(ht:Gh P X.tab){f:FuncId}(hf:P.funcs[f]? =some X.fn){q:Bool}(hc:chk X q=true)(hG:Lf P X.G){g:zv X.args X.R}(h:Vs X.args (Rk X.E X.fn X.args X.res)=g):ix P f (X.S q g):=
 mkS ht hf hc hG (akb h)
theorem apx(hb:X.fn.body.isSome=true)(sW:List Nat)(hr: ∀K,X.tlT K=sW.map λt=>(K t,X.ch X.Dp t))
  {g:(Nat→St→X.R)→zv X.args X.R} (h: ∀K,X.top K=g K) {f:zv X.args X.R} (hf:g (X.ch X.Dp)=f) (x:HP X.args):Rk X.E X.fn X.args X.res x=Ld X.args f x:=by
 rw[←hf,←h,aj9 hb]
 unfold top
 rw[Le]
 exact at_eq X.E X.fn X.args X.res (hr (X.ch X.Dp)) (acb (X.ch X.Dp) sW) _
variable(X)in
theorem ok1{P:Program}(ht:Gh P X.tab){f:FuncId}(hf:P.funcs[f]? =some X.fn){q:Bool}(hc:chk X q=true)(hG:Lf P X.G)(sW:List Nat)(hr: ∀K,X.tlT K=sW.map λt=>(K t,X.ch X.Dp t))
  {g:(Nat→St→X.R)→zv X.args X.R} (h: ∀K,X.top K=g K) {f':zv X.args X.R} (BZ:g (X.ch X.Dp)=f'):ix P f (X.S q f'):=by
 have hb:X.fn.body.isSome=true:=by
  unfold chk at hc
  simp only[bB]at hc
  exact hc.2.2.1
 exact mkS ht hf hc hG (apx hb sW hr h BZ)
theorem uJ{i:Nat}(sW:List Nat){g:(Nat→St→X.R)→(Nat→St→X.R)→Xk (X.c i) X.R}(h: ∀K ρ,X.bd K ρ i=g K ρ)(ρ:Nat→St→X.R){f:Xk (X.c i) X.R}(hf:g (X.ch ρ) ρ=f:=by rfl)
 (hi:odd i=false:=by kernel_rfl) (hr: ∀K ρ,X.tl K ρ i=sW.map λt=>(K t,X.ch ρ t):=by intro K ρ;kernel_rfl):X.kc (X.ch ρ) i=f:=(okJ sW hi hr h ρ).trans hf
theorem uL{i:Nat}(sW:List Nat){g:(Nat→St→X.R)→(Nat→St→X.R)→Xk (X.c i) X.R}(h: ∀K ρ,X.bd K ρ i=g K ρ)(ρ:Nat→St→X.R)
 (G:Nat→Xk (X.c i) X.R) (hs: ∀n ρ',X.kc ρ' i=G n→(∀l,Nat.beq l i=false→X.kc ρ' l=X.kc ρ l)→g (X.ch ρ') ρ'=G (n+1)) (h0:X.cu i (λ_=>none)=G 0:=by rfl)
 (hi:okb X i=true:=by kernel_rfl) (hr: ∀K ρ,X.tl K ρ i=sW.map λt=>(K t,X.ch ρ t):=by intro K ρ;kernel_rfl):X.kc (X.ch ρ) i=G X.N:=okL sW hi hr h ρ G h0 hs
variable(X)in
theorem u0{P:Program}(ht:Gh P X.tab){f:FuncId}(hf:P.funcs[f]? =some X.fn){q:Bool}{g:zv X.args X.R}(hG:Lf P X.G:=by first|exact trivial|exact Kn.all _)(hc:chk X q=true:=by kernel_rfl)(h:Vs X.args (Rk X.E X.fn X.args X.res)=g:=by kernel_rfl):ix P f (X.S q g):=ok0 X ht hf hc hG h
variable(X)in
theorem u1{P:Program}(ht:Gh P X.tab){f:FuncId}(hf:P.funcs[f]? =some X.fn)(sW:List Nat)
 {g:(Nat→St→X.R)→zv X.args X.R} (h: ∀K,X.top K=g K) {q:Bool} {f':zv X.args X.R} (BZ:g (X.ch X.Dp)=f':=by rfl) (hG:Lf P X.G:=by first|exact trivial|exact Kn.all _) (hc:chk X q=true:=by kernel_rfl) (hr: ∀K,X.tlT K=sW.map λt=>(K t,X.ch X.Dp t):=by intro K;kernel_rfl):ix P f (X.S q f'):=ok1 X ht hf hc hG sW hr h BZ
end Fx
end VM
end
section
namespace VM
open Go
variable{P:Program}
theorem Left.same(w:World)(M0:Nat→Prop)(h: ∀b,M0 b→b<w.heap.size):Left w M0 [] w M0:=
 ⟨λ_ h=>h,h,λ_ _ h=> .inl h,λ_ _ _=>rfl,aH _,rfl,rfl,rfl⟩
theorem apy{w:World}{M:Nat→Prop}{a b c:IntKind}{x:HP [.v (.int a),.v (.int b),.v (.int c)]}{vs:List Value}(h:jM w M [.v (.int a),.v (.int b),.v (.int c)] x vs):vs=[.int a x.1,.int b x.2.1,.int c x.2.2]:=by
 simp only[jM,A1,V,Ty.isAgg,jd,fc,Rd,fu,ec]at h
 obtain⟨v,vs,rfl,rfl,v,vs,rfl,rfl,v,vs,rfl,rfl,rfl⟩:=h
 rfl
theorem rr2{w:World}{M:Nat→Prop}{a b:IntKind}(x y:Int):RR w M [.v (.int a),.v (.int b)] (x,y) [.int a x,.int b y] []:=by
 simp only[RR]
 refine .inr ⟨_,_,rfl,rfl,rfl,?_,.inr ⟨_,_,rfl,rfl,rfl,?_,rfl,trivial⟩⟩<;>simp[A1,V,Ty.isAgg,Rd,ur,yM]
theorem TL{f:FuncId}(run:Int×Int×Int→Option (Int×Int))
  (h: ∀(w:World) (a b c u v:Int),run (a,b,c)=some (u,v)→(callFunc f #[.int .u64 a,.int .u64 b,.int .u64 c]).run P w= .ok (.value (.tuple #[.int .u64 u,.int .u64 v])) w):
  ix P f {args:=[.v (.int .u64),.v (.int .u64),.v (.int .u64)],res:=[.v (.int .u64),.v (.int .u64)],quiet:=true,run}:=by
 refine⟨λ_=>rfl,rfl,λM0 w vs x y sd hA _ _ hy=> ?_⟩
 have hvs:=apy hA
 subst hvs
 exact Iu (h w x.1 x.2.1 x.2.2 y.1 y.2 hy) ⟨_,M0,rfl,rr2 y.1 y.2,Left.same w M0 sd,List.nodup_nil,λb hb=>by cases hb⟩
theorem Cg(nm:String)(a b c:Nat)(h:c≤1)(w:World):(Extern.MathBitsCarry.three nm #[.int .u64 a,.int .u64 b,.int .u64 c]).run P w= .ok (a,b,c) w:=by
 have h5: ¬(1<c):=ω
 have:Extern.MathBitsCarry.three nm #[.int .u64 a,.int .u64 b,.int .u64 c]=(do
  let c:=(←asInt (.int .u64 c)).toNat
  if c>1 then unsupported (.noEntry ("extern/math/bits." ++nm++ ": a carry that is neither 0 nor 1"))
  pure ((←asInt (.int .u64 a)).toNat,(←asInt (.int .u64 b)).toNat,c)):=rfl
 rw[this]
 simp[asInt,asIntOf]
 omega
theorem Vt{f:FuncId}{fn:Func}(N:Nat)(hf:P.funcs[f]? =some fn)(AV:(fn.name== "runtime.NumGoroutine")=false)(hb:fn.body.isNone=true)(hn:Extern.findNext fn=none)
  (he:Extern.find fn=(Extern.MathBitsCarry.rows[0]?).map (·.2)):ix P f (tf.S N):=by
 refine TL (λx=>tf N x.1 x.2.1 x.2.2) λw a b c u v hy=> ?_
 simp only[tf]at hy
 split at hy
 ·rename_i hc
  obtain⟨h1,h2,h3,h4⟩:=hc
  obtain⟨a,rfl⟩:=vq h1
  obtain⟨b,rfl⟩:=vq h2
  obtain⟨c,rfl⟩:=vq h3
  cases hy
  rw[run_callFunc_extern hf AV hb hn he]
  simp[Cg _ a b c ω,Extern.MathBitsCarry.pair,Extern.MathBitsCarry.m64]
 ·cases hy
theorem Vu{f:FuncId}{fn:Func}(N:Nat)(hf:P.funcs[f]? =some fn)(AV:(fn.name== "runtime.NumGoroutine")=false)(hb:fn.body.isNone=true)(hn:Extern.findNext fn=none)
  (he:Extern.find fn=(Extern.MathBitsCarry.rows[1]?).map (·.2)):ix P f (tg.S N):=by
 refine TL (λx=>tg N x.1 x.2.1 x.2.2) λw a b c u v hy=> ?_
 simp only[tg]at hy
 split at hy
 ·rename_i hc
  obtain⟨h1,qM,h2,y6,h3,h4⟩:=hc
  obtain⟨a,rfl⟩:=vq h1
  obtain⟨b,rfl⟩:=vq h2
  obtain⟨c,rfl⟩:=vq h3
  cases hy
  rw[run_callFunc_extern hf AV hb hn he]
  have e1:((a+18446744073709551616-b-c:Nat):Int)=(a:Int)+18446744073709551616-b-c:=ω
  by_cases h:a<b+c
  ·have h':(a:Int)<(b:Int)+(c:Int):=ω
   simp[Cg _ a b c ω,Extern.MathBitsCarry.pair,Extern.MathBitsCarry.m64,e1,h,h']
  ·have h': ¬(a:Int)<(b:Int)+(c:Int):=ω
   simp[Cg _ a b c ω,Extern.MathBitsCarry.pair,Extern.MathBitsCarry.m64,e1,h,h']
 ·cases hy
end VM
end
section
namespace VM
open Go Go.Shelf Go.RowKit Go.Lib Go.Proofs
variable{P:Program}{ρ:Ren}
def Yq(ρ:Ren)(fn:Func):Func:={fn with body:=(Body2.n22 ρ).body,ntmps:=95,results:=(Body2.n22 ρ).results,nfree:=0}
theorem xA(ρ:Ren)(fn:Func):(Yq ρ fn).ntmps=95:=rfl
structure RS(P:Program)(e:Ty)(ρ:Ren)(f:FuncId)(fn fo:Func):Prop where
 hf:P.funcs[f]? =some (Yq ρ fn)
 t3:P.underlying (ρ.t 3)=some (.int .i64)
 t4:P.underlying (ρ.t 4)=some .bool
 t24:P.underlying (ρ.t 24)=some (.slice (ρ.t 9))
 lay:kO P e (ρ.t 9)
 qD:0<e.size
 mixed:P.follows .mixedOrders=true
set_option maxHeartbeats 4000000 in
set_option maxRecDepth 100000 in
theorem Lg{e:Ty}{f:FuncId}{fn fo:Func}(L:RS P e ρ f fn fo)(w:World)(base:Option Addr)(n c m vc:Nat)(va:Addr)(v':Value)(w':World)(hm:0<m)(hn:n≤c)
  (NK: ∀ty,(Builtin.append_ #[ρ.t 24,ρ.t 24] ty #[.slice base n c,.slice (some va) m vc]).run P w= .ok v' w'):
   Calls P f #[.slice base n c,.int .i64 n,.slice (some va) m vc] w λr w2=>r= .returned v'∧w2=w':=by
 have u3:=run_underlying L.t3;have u4:=run_underlying L.t4;have u24:=run_underlying L.t24
 have t3:=L.t3;have t4:=L.t4;have t24:=L.t24
 have z9:=λw=>dn L.lay w
 have mixed:=L.mixed
 have Db: ¬((m:Int)=0):=ω
 go_enter L.hf,xA ρ fn
 cases base with
 |none=>
   go_wp2_with (at_builtin;refine Lib.wpList_append_run _ rfl _ _ _ _ rfl _ _ rfl rfl _ _ (NK _) ?_)
   all_goals (go_ret;exact⟨rfl,rfl⟩)
 |some a=>
   obtain⟨ab,ao,asp⟩:=a
   go_wp2_with (at_builtin;refine Lib.wpList_append_run _ rfl _ _ _ _ rfl _ _ rfl rfl _ _ (NK _) ?_)
   all_goals (go_ret;exact⟨rfl,rfl⟩)
theorem run_copy_row{t te e:TypeId}{k:Nat}(ht:P.underlying t=some (.slice e))(hk: ∀w,(Go.sizeOf e).run P w= .ok k w){W:World}{b o apz avs akc apA n:Nat}{a:Addr}{cs:Array Value}(hg:W.heap[b]? =some (.cells cs te (0,0)))
  {news:List Value} (hnn:Nat.min akc apz=n) (hl:news.length=n*k) (hn: ∀j u,news[j]? =some u→W.cell? (a.add j)=some u) (h1: ∀u∈news,u.oneCell'=true) (NA:o+news.length≤cs.size) (ty:TypeId):
  (Builtin.copy_ #[t,t] ty #[.slice (some ⟨b,o,none⟩) apz avs,.slice (some a) akc apA]).run P W= .ok (goInt n) (W.setRow b (fk cs.toList o news).toArray):=by
 have hf:=run_firstCells_some (P:=P) W k n a akc apA news hl hn
 have H5:=run_storeCells_at (P:=P) b o te news 0 cs W hg ω h1
 simp only[nw]at H5
 simp[Builtin.copy_,run_underlying ht,hk,Builtin.lenOf,hnn,hf,H5,fk]
set_option maxHeartbeats 4000000 in
set_option maxRecDepth 100000 in
theorem Vv{e:Ty}{f:FuncId}{fn fo:Func}(L:RS P e ρ f fn fo)(w:World)(b n c i m vc:Nat)(va:Addr)(Lh Yr:Array Value)(hi:i<n)(hm:0<m)(hr:n+m≤c)(avt:c≤9223372036854775807)
  (hov: ∀x lb cb,(callFunc (ρ.f 29) #[.slice (some va) m vc,.slice (some ⟨b,x,none⟩) lb cb]).run P w= .ok (.value (.bool false)) w)
  (acd: ∀ty dc sc,(Builtin.copy_ #[(ρ.t 24),(ρ.t 24)] ty #[.slice (some ⟨b,(i+m)*e.size,none⟩) (n+m-(i+m)) dc,.slice (some ⟨b,i*e.size,none⟩) (n+m-i) sc]).run P w.drew= .ok (goInt ((n-i:Nat):Int)) (w.drew.setRow b Lh))
  (ace: ∀W:World,W.heap=(w.setRow b Lh).heap→ ∀ty dc,(Builtin.copy_ #[(ρ.t 24),(ρ.t 24)] ty #[.slice (some ⟨b,i*e.size,none⟩) (n+m-i) dc,.slice (some va) m vc]).run P W= .ok (goInt m) (W.setRow b Yr)):
   Calls P f #[.slice (some ⟨b,0,none⟩) n c,.int .i64 i,.slice (some va) m vc] w λr w2=>r= .returned (.slice (some ⟨b,0,none⟩) (n+m) c)∧w2=(w.drew.setRow b Lh).setRow b Yr:=by
 have u3:=run_underlying L.t3;have u4:=run_underlying L.t4;have u24:=run_underlying L.t24
 have t3:=L.t3;have t4:=L.t4;have t24:=L.t24
 have z9:=λw=>dn L.lay w
 have mixed:=L.mixed
 have Db: ¬((m:Int)=0):=ω
 have Ib: ¬((i:Int)=(n:Int)):=ω
 have hw1:IntKind.i64.wrap ((i:Int)+(m:Int))=(i:Int)+(m:Int):=by rw[IntKind.wrap_i64];omega
 have mJ:(0:Int)≤(i:Int)+(m:Int):=ω
 have lj:i≤n:=ω
 have Vl:((i:Int)+(m:Int)).toNat=i+m:=ω
 have uM: ¬(c=i+m):=ω
 have hb3:(i:Int)≤(n:Int)+(m:Int):=ω
 have hb4: ¬(c=i):=ω
 go_enter L.hf,xA ρ fn
 go_wp2_with (simp only[hov])
 go_region_law_o (refine step_copy_runI rfl _ _ (ρ.t 24) (ρ.t 24) rfl _ _ (by simp[Act.eval,Act.put]) (by simp[Act.eval,Act.put]) (acd _ _ _) ?_)
 have h2:=ace (w.drew.setRow b Lh) rfl
 go_wp2
 go_ret
 exact⟨rfl,rfl⟩
set_option maxHeartbeats 4000000 in
set_option maxRecDepth 100000 in
theorem Ys{e:Ty}{f:FuncId}{fn fo:Func}(L:RS P e ρ f fn fo)(w:World)(b n c i m vc nb G:Nat)(va:Addr)(Vw Lh Yr:Array Value)(hi:i<n)(hm:0<m)(hnc:n≤c)(hr:c<n+m)(avt:c≤9223372036854775807)(h63:n+m≤9223372036854775807)(hG:n+m≤G)(aCA:G≤9223372036854775807)
  (NK: ∀ty,(Builtin.append_ #[(ρ.t 24),(ρ.t 3)] ty #[.slice (some ⟨b,0,none⟩) i c,.int .i64 ((n:Int)+(m:Int)-(i:Int))]).run P w= .ok (.slice (some ⟨w.heap.size,0,none⟩) (n+m) G) (w.drew.alloc (.cells Vw (ρ.t 9))))
  (acd: ∀W:World,W.heap=(w.alloc (.cells Vw (ρ.t 9))).heap→ ∀ty dc,(Builtin.copy_ #[(ρ.t 24),(ρ.t 24)] ty #[.slice (some ⟨w.heap.size,i*e.size,none⟩) (n+m-i) dc,.slice (some va) m vc]).run P W= .ok (goInt m) (W.setRow w.heap.size Lh))
  (ace: ∀W:World,W.heap=((w.alloc (.cells Vw (ρ.t 9))).setRow w.heap.size Lh).heap→ ∀ty dc sc,(Builtin.copy_ #[(ρ.t 24),(ρ.t 24)] ty #[.slice (some ⟨w.heap.size,(i+m)*e.size,none⟩) (n+m-(i+m)) dc,.slice (some ⟨b,i*e.size,none⟩) (n-i) sc]).run P W= .ok (goInt ((n-i:Nat):Int)) (W.setRow w.heap.size Yr)):
   Calls P f #[.slice (some ⟨b,0,none⟩) n c,.int .i64 i,.slice (some va) m vc] w λr w2=>r= .returned (.slice (some ⟨w.heap.size,0,none⟩) (n+m) G)∧w2=((w.drew.alloc (.cells Vw (ρ.t 9))).setRow w.heap.size Lh).drew.setRow w.heap.size Yr:=by
 have u3:=run_underlying L.t3;have u4:=run_underlying L.t4;have u24:=run_underlying L.t24
 have t3:=L.t3;have t4:=L.t4;have t24:=L.t24
 have z9:=λw=>dn L.lay w
 have mixed:=L.mixed
 have Db: ¬((m:Int)=0):=ω
 have Ib: ¬((i:Int)=(n:Int)):=ω
 have hz3:(c:Int)<(n:Int)+(m:Int):=ω
 have hw1:IntKind.i64.wrap ((i:Int)+(m:Int))=(i:Int)+(m:Int):=by rw[IntKind.wrap_i64];omega
 have mJ:(0:Int)≤(i:Int)+(m:Int):=ω
 have lj:i≤n:=ω
 have Vl:((i:Int)+(m:Int)).toNat=i+m:=ω
 have hGi: ¬(G=i):=ω
 have aCB: ¬(G=i+m):=ω
 have hci: ¬(c=i):=ω
 have hb3:(i:Int)≤(n:Int):=ω
 have h1:=acd ((w.alloc (.cells Vw (ρ.t 9))).drew) rfl
 have h2:=ace (((w.alloc (.cells Vw (ρ.t 9))).drew.setRow w.heap.size Lh).drew) rfl
 go_enter L.hf,xA ρ fn
 go_wp2_with (first
   |(at_builtin;refine Lib.wpList_append_run _ rfl _ _ _ _ rfl _ _ rfl rfl _ _ (NK _) ?_)
   |(at_builtin;refine wpList_copy_runI _ rfl _ _ (ρ.t 24) (ρ.t 24) rfl _ _ rfl rfl (acd _ (by exact rfl) _ _) ?_)
   |(at_builtin;refine wpList_copy_runI _ rfl _ _ (ρ.t 24) (ρ.t 24) rfl _ _ rfl rfl (ace _ (by exact rfl) _ _ _) ?_))
 go_region_law_o (refine step_copy_runI rfl _ _ (ρ.t 24) (ρ.t 24) rfl _ _ (by simp[Act.eval,Act.put]) (by simp[Act.eval,Act.put]) (h2 _ _ _) ?_)
 go_wp2
 go_ret
 exact⟨rfl,rfl⟩
theorem EJ{α:Type}(A Z news:List α):fk (A++Z) A.length news=A++(news++Z.drop news.length):=by
 unfold fk
 rw[w4 rfl,bH,←jL,nq rfl]
theorem rV.apC{w:World}{M:Nat→Prop}{e:Ty}{cs:List Value}{l:List e.den}(h:rV w M e cs l)(i:Nat):rV w M e (cs.take (i*e.size)) (l.take i):=by
 intro j hj
 rw[cc]at hj
 have:=eG (s:=e.size) (show j<i by omega)
 rw[rF,rG,iB ω,Ft]
 exact h j ω
theorem rV.apD{w:World}{M:Nat→Prop}{e:Ty}{cs:List Value}{l:List e.den}(h:rV w M e cs l)(i:Nat):rV w M e ((cs.drop (i*e.size)).take ((l.length-i)*e.size)) (l.drop i):=by
 intro j hj
 rw[dC]at hj
 have:=eG (s:=e.size) hj
 rw[rF,rG,iB ω,jL,Fs,←eE]
 exact h (i+j) ω
theorem yn{w w':World}{M0:Nat→Prop}{hs:List Nat}{e:Ty}{rb cap:Nat}{row:Array Value}{t:TypeId}{l:List e.den}(sd: ∀b,M0 b→b<w.heap.size)(xx: ∀b∈hs,¬M0 b)
  (hfr: ∀b,b<w.heap.size→b∉hs→w'.heap[b]? =w.heap[b]?) (uq:w.heap.size≤w'.heap.size) (hrb:rb<w.heap.size→rb∈hs) (hos:w'.os=w.os) (htp:w'.tape=w.tape) (RI:w'.output=w.output)
  (RJ:w'.heap[rb]? =some (.cells row t (0,0))) (h0:0<cap) (hl:l.length≤cap) (hm:cap≤maxLen) (hrs:row.size=cap*e.size) (ld:rV w (λb=>M0 b∨b∈hs) e row.toList l):
  ∃us M',Value.slice (some ⟨rb,0,none⟩) l.length cap=xr us∧RR w' M' [.own e] l us []∧Left w M0 hs w' M'∧(bK [.own e] us []).Nodup∧ ∀b∈bK [.own e] us [],¬M0 b:=by
 have I8:rb<w'.heap.size:=(kH.1 RJ).1
 have hk:fi w (λb=>M0 b∨b∈hs) w' (λb=>M0 b∨b=rb):=⟨uq,λb hb hn=>hfr b hb (λh=>hn (.inr h)),λb hb h=>h.elim .inl (λe=> .inr (e▸hrb (e▸hb)))⟩
 have xj:bK [.own e] [Value.slice (some ⟨rb,0,none⟩) l.length cap] []=[rb]:=by
  have:cap≠0:=ω
  simp[bK,dh,AM.iJ,fI,this]
 refine⟨[.slice (some ⟨rb,0,none⟩) l.length cap],λb=>M0 b∨b=rb,rfl,?_,?_,?_,?_⟩
 ·simp only[RR]
  refine .inr ⟨_,[],rfl,rfl,rfl,?_,rfl,trivial⟩
  simp only[A1,ER,ur]
  exact .inr ⟨rb,row,t,cap,rfl,RJ,.inr rfl,h0,hl,hm,hrs,ld.cm hk⟩
 ·exact⟨λb h=> .inl h,λb h=>h.elim (λh=>nc (sd b h) uq) (λh=>h▸I8),λb hb h=>h.elim .inl (λe=> .inr (e▸hrb (e▸hb))),hfr,uq,hos,htp,RI⟩
 ·rw[xj];simp
 ·rw[xj]
  intro b hb h
  rw[cr]at hb
  subst hb
  exact xx b (hrb (sd b h)) h
theorem setRow_other(w:World){b c:Nat}(r:Array Value)(h:c≠b):(w.setRow b r).heap[c]? =w.heap[c]? :=by
 unfold World.setRow
 rw[Array.getElem?_modify,aj (λe=>h e.symm)]
theorem setRow_size(w:World)(b:Nat)(r:Array Value):(w.setRow b r).heap.size=w.heap.size:=by
 unfold World.setRow;simp
theorem alloc_old(w:World)(o:Obj){c:Nat}(h:c<w.heap.size):(w.alloc o).heap[c]? =w.heap[c]? :=by
 show(w.heap.push o)[c]? =_
 rw[Array.getElem?_push,aj ω]
theorem rj(w:World)(o:Obj):(w.alloc o).heap[w.heap.size]? =some o:=by
 show(w.heap.push o)[w.heap.size]? =_
 simp
theorem oC(w:World)(o:Obj):(w.alloc o).heap.size=w.heap.size+1:=by
 show(w.heap.push o).size=_
 simp
theorem vF{w:World}{b:Nat}{cs:Array Value}{t:TypeId}{f:Nat×Nat}(h:w.heap[b]? =some (.cells cs t f))(o n:Nat): ∀j u,((cs.toList.drop o).take n)[j]? =some u→w.cell? ((⟨b,o,none⟩:Addr).add j)=some u:=by
 intro j u hj
 rw[Addr.add_lit]
 rw[mg]at hj
 split at hj
 ·rw[mh,gP]at hj
  simp only[World.cell?,h]
  simpa using hj
 ·cases hj
theorem TM{w:World}{M:Nat→Prop}{v:Value}{e:Ty}{l:List e.den}(h:ER w M v (.own e l)):(l=[]∧ ∃a,v= .slice a 0 0)∨
 ∃b cs t cap,v= .slice (some ⟨b,0,none⟩) l.length cap∧w.heap[b]? =some (.cells cs t (0,0))∧M b∧0<cap∧l.length≤cap∧cap≤maxLen∧cs.size=cap*e.size∧rV w M e cs.toList l:=h
end VM
end
section
namespace VM
open Go Go.Shelf Go.RowKit Go.Lib Go.Proofs
variable{P:Program}{ρ:Ren}
theorem Gk{w:World}{t e':TypeId}{e:Ty}(hu:P.underlying t=some (.slice e'))(hle:kO P e e'){n m cap cp:Nat}{olds news:List Value}{base:Option Addr}{a':Addr}(XO:base=none→n=0∧cap=0)
  (yL:olds.length=n*e.size) (ho: ∀b,base=some b→ ∀j u,olds[j]? =some u→w.cell? (b.add j)=some u) (hln:news.length=m*e.size) (hn: ∀j u,news[j]? =some u→w.cell? (a'.add j)=some u)
  (hg:cap<n+m) (hs:n+m<zP):
  ∃nG rest,(∀ty,(Builtin.append_ #[t,t] ty #[.slice base n cap,.slice (some a') m cp]).run P w= .ok (.slice (some ⟨w.heap.size,0,none⟩) (n+m) nG) (w.drew.alloc (.cells (olds++news++rest).toArray e')))∧
   n+m≤nG∧nG≤maxLen∧rest.length=(nG-(n+m))*e.size:=by
 obtain⟨i,hi,uq,hz,hby⟩:=hle.base
 have hzs:(cR e e.du).cells.size=e.size:=by rw[←bL,gS,pa]
 have h63:n+m≤maxLen:=by simp only[zP,maxLen]at hs ⊢;omega
 have NA:(n+m)*i.bytes≤140737488355328:=by
  have:(n+m)*i.bytes≤68719476736*2048:=w7 (by simp only[zP]at hs;omega) hby
  omega
 refine⟨grownCap w (n+m) cap e',(Builtin.zeroCells (cR e e.du).cells (grownCap w (n+m) cap e'-(n+m))).toList,λty=> ?_,grownCap_ge _ _ _ _,grownCap_le_maxLen _ _ _ _ h63,?_⟩
 ·cases base with
  |none=>
   obtain⟨rfl,rfl⟩:=XO rfl
   have ho0:olds=[]:=ta (by rw[yL];simp)
   subst ho0
   have:=run_append_nil (P:=P) w t ty e' i _ hu hi hz a' m cp news (by rw[hln,uq]) hn (by simpa using hg) (by simp only[zP]at hs;omega) (by simp at NA;omega)
   simp only[fT,cW]
   rw[this]
   congr 2
   apply ej (λz=>Obj.cells z e' (0,0))
   apply jt;simp
  |some b=>
   have:=run_append_grow (P:=P) w t ty e' i _ hu hi hz b n cap olds (by rw[yL,uq]) (ho b rfl) a' m cp news (by rw[hln,uq]) hn hg (by simp only[zP]at hs;omega) (growslice_fits hg NA)
   rw[this]
   congr 2
   apply ej (λz=>Obj.cells z e' (0,0))
   apply jt;simp
 ·rw[bL,size_zeroCells,hzs]
theorem Vx{w:World}{t tn e':TypeId}{e:Ty}(hu:P.underlying t=some (.slice e'))(Vl:P.underlying tn=some (.int .i64))(hle:kO P e e')(aj6:0<e.size){n k cap:Nat}{olds:List Value}{b:Addr}
  (yL:olds.length=n*e.size) (ho: ∀j u,olds[j]? =some u→w.cell? (b.add j)=some u) (hk:0<k) (hg:cap<n+k) (hs:n+k<zP):
  ∃nG rest,(∀ty,(Builtin.append_ #[t,tn] ty #[.slice (some b) n cap,.int .i64 k]).run P w= .ok (.slice (some ⟨w.heap.size,0,none⟩) (n+k) nG) (w.drew.alloc (.cells (olds++rest).toArray e')))∧
   n+k≤nG∧nG≤maxLen∧rest.length=(nG-n)*e.size:=by
 obtain⟨i,hi,uq,hz,hby⟩:=hle.base
 have hzs:(cR e e.du).cells.size=e.size:=by rw[←bL,gS,pa]
 have h63:n+k≤maxLen:=by simp only[zP,maxLen]at hs ⊢;omega
 have NA:(n+k)*i.bytes≤140737488355328:=by
  have:(n+k)*i.bytes≤68719476736*2048:=w7 (by simp only[zP]at hs;omega) hby
  omega
 have hkb:k*i.bytes≤281474976710656:=by
  have:k*i.bytes≤(n+k)*i.bytes:=kJ _ ω
  omega
 have hge:=grownCap_ge w (n+k) cap e'
 refine⟨grownCap w (n+k) cap e',(Builtin.zeroCells (cR e e.du).cells k++Builtin.zeroCells (cR e e.du).cells (grownCap w (n+k) cap e'-(n+k))).toList,λty=> ?_,hge,grownCap_le_maxLen _ _ _ _ h63,?_⟩
 ·have hold:(Builtin.firstCells i.size n (.slice (some b) n cap)).run P w.drew= .ok olds.toArray w.drew:=run_firstCells_some w.drew i.size n b n cap olds (by rw[yL,uq]) (λj u hj=>ho j u hj)
  have:=Lib.run_append_grow_zeros w t tn ty e' i _ .i64 .i64 hu Vl hi hz (some b) n cap olds hold k hk (by rw[uq];exact aj6) hg (by simp only[zP]at hs;omega) hkb (growslice_fits hg NA)
  rw[this]
  congr 2
  apply ej (λz=>Obj.cells z e' (0,0))
  apply jt;simp
 ·rw[Array.toList_append,aM,bL,bL,size_zeroCells,size_zeroCells,hzs,←eE]
  congr 1;omega
structure OvP(P:Program)(ρ:Ren)(fo:Func):Prop where
 hf:P.funcs[ρ.f 29]? =some fo
 name:(fo.name== "runtime.NumGoroutine")=false
 body:fo.body.isNone=true
 next:Extern.findNext fo=none
 find:Extern.find fo=some (Extern.SlicesOverlaps.overlaps #[ρ.t 24,ρ.t 24] #[ρ.t 4])
theorem zw{e:Ty}{f:FuncId}{fn fo:Func}(L:RS P e ρ f fn fo)(O:OvP P ρ fo)(AV:(fn.name== "runtime.NumGoroutine")=false)(Yt:(Body2.n22 ρ).body.isNone=false)(N:Nat):ix P f (kN e N):=by
 refine⟨(λh=>by cases h),rfl,λM0 w vs x y sd hA yN xx hy=> ?_⟩
 obtain⟨l,i,v⟩:=x
 have TG:kM N l i v=some y:=hy
 clear hy
 simp only[kN,jM]at hA
 obtain⟨v0,vs1,rfl,h0,v1,vs2,rfl,h1,v2,vs3,rfl,h2,rfl⟩:=hA
 simp only[kM]at TG
 split at TG
 case isFalse=>cases TG
 rename_i hc
 cases TG
 obtain⟨hi0,Ip,Nu,Li⟩:=hc
 obtain⟨i,rfl⟩:=vq hi0
 have apF:i≤l.length:=ω
 simp only[A1,ur,yM,V,Ty.isAgg,jd,fc,Rd,fu,ec]at h0 h1 h2
 subst h1
 have hk:=L.qD
 replace Nu:List.length (α:=e.den) v=1:=Nu
 rcases TM h2 with⟨Vn,_⟩|⟨b2,cs2,t2,A0,hv2,U1,KW,hc2,hl2,yY,TN,AH⟩
 ·rw[Vn]at Nu;cases Nu
 replace hv2:v2= .slice (some ⟨b2,0,none⟩) 1 A0:=by rw[hv2];congr 1
 subst hv2
 have abF:e.size≤cs2.toList.length:=by
  rw[bL (xs:=cs2),TN]
  exact Nat.le_mul_of_pos_left _ hc2
 obtain⟨news,Yu⟩: ∃news,news=cs2.toList.take e.size:=⟨_,rfl⟩
 have I7:news.length=1*e.size:=by rw[Yu,cc,kb];omega
 have hnr:rV w (λb=>M0 b∨b∈dX (kN e N).args [v0,.int .i64 (i:Int),.slice (some ⟨b2,0,none⟩) 1 A0]) e news v:=by
  rw[Yu];exact AH.take (by rw[Nu,kb];exact aH _)
 have hnc: ∀j u,news[j]? =some u→w.cell? ((⟨b2,0,none⟩:Addr).add j)=some u:=by
  have:=vF U1 0 e.size
  rw[c0]at this
  rw[Yu];exact this
 have hn1: ∀u∈news,u.oneCell'=true:=by
  have:=hnr 0 ω
  rw[Nat.zero_mul,c0,jK ω]at this
  exact this.o9
 have uM:fI (.slice (some ⟨b2,0,none⟩) 1 A0)=some b2:=by simp[fI];omega
 replace Li:List.length (α:=e.den) l+1<zP:=Li
 have hyl:(List.take i l++(v++List.drop i l)).length=l.length+1:=by rw[aM,aM,cc,dC,Nu];omega
 have hbn:(Yq ρ fn).body.isNone=false:=Yt
 refine tW L.hf AV hbn ?_
 rcases TM h0 with⟨rfl,ad,rfl⟩|⟨b1,zQ,t1,Ee,rfl,Ro,hM1,Jf,hl1,uK,Tv,zS⟩
 ·
  have hi:i=0:=by simpa using apF
  subst hi
  obtain⟨nG,rest,dQ,Vp,jY,I8⟩:=Gk (P:=P) (w:=w) L.t24 L.lay (n:=0) (m:=1) (cap:=0) (cp:=A0) (olds:=[]) (news:=news) (base:=ad) (a':=⟨b2,0,none⟩) (λ_=>⟨rfl,rfl⟩) (by simp) (λ_ _ j u hj=>by simp at hj) I7 hnc ω (by simp only[zP];omega)
  refine(Lg L w ad 0 0 1 A0 ⟨b2,0,none⟩ _ _ ω (aH _) dQ).mono ?_
  rintro e1 w' ⟨rfl,rfl⟩
  refine⟨_,rfl,?_⟩
  simp only[fT]at Vp I8
  have hv:v=v++[]:=by simp
  have:=yn (e:=e) (rb:=w.heap.size) (cap:=nG) (l:=v) (t:=ρ.t 9) (w:=w) (w':=w.drew.alloc (.cells ([]++news++rest).toArray (ρ.t 9))) sd xx (λb hb _=>alloc_old w.drew _ hb) (by rw[oC];exact rL _) (λh=>absurd h (Ap _)) rfl rfl rfl (rj w.drew _) ω ω jY
   (by simp only[cW,je,aM,I7,I8,←eE];congr 1;omega) (by simpa using hnr.more (cs':=rest) (by rw[Nu,I7];exact aH _))
  rw[Nu]at this
  simpa [kN,fx,AM.iJ]using this
 ·have mJ:fI (.slice (some ⟨b1,0,none⟩) l.length Ee)=some b1:=by simp[fI];omega
  have hh:dX (kN e N).args [.slice (some ⟨b1,0,none⟩) l.length Ee,.int .i64 (i:Int),.slice (some ⟨b2,0,none⟩) 1 A0]=[b1,b2]:=by simp[kN,dX,dh,mJ,uM]
  rw[hh]at yN xx hnr ⊢
  replace zS:rV w (λb=>M0 b∨b∈[b1,b2]) e zQ.toList l:=by rw[←hh];exact zS
  have iI:b1≠b2:=by simpa using yN
  have avw:b1<w.heap.size:=(kH.1 Ro).1
  have aoO:b2<w.heap.size:=(kH.1 U1).1
  have tV:l.length*e.size≤zQ.toList.length:=by rw[bL (xs:=zQ),Tv];exact kJ _ hl1
  have hik:i*e.size≤l.length*e.size:=kJ _ apF
  obtain⟨A,hAe⟩: ∃A,A=zQ.toList.take (i*e.size):=⟨_,rfl⟩
  obtain⟨mid,akd⟩: ∃mid,mid=(zQ.toList.drop (i*e.size)).take ((l.length-i)*e.size):=⟨_,rfl⟩
  have TO:A.length=i*e.size:=by rw[hAe,cc];omega
  have FK:mid.length=(l.length-i)*e.size:=by
   rw[akd,cc,dC,rM];omega
  have hAr:=zS.apC i
  have hmr:=zS.apD i
  rw[←hAe]at hAr
  rw[←akd]at hmr
  have hti:(l.take i).length=i:=by rw[cc];omega
  have TP: ∀rest:List Value,rV w (λb=>M0 b∨b∈[b1,b2]) e (A++(news++(mid++rest))) (l.take i++(v++l.drop i)):=λrest=>
   hAr.append (by rw[TO,hti]) (hnr.append (by rw[I7,Nu]) (hmr.more (by rw[dC,FK];exact aH _)))
  have hAc: ∀j u,A[j]? =some u→w.cell? ((⟨b1,0,none⟩:Addr).add j)=some u:=by
   have:=vF Ro 0 (i*e.size)
   rw[c0]at this
   rw[hAe];exact this
  have hmc: ∀j u,mid[j]? =some u→w.cell? ((⟨b1,i*e.size,none⟩:Addr).add j)=some u:=by
   rw[akd];exact vF Ro (i*e.size) _
  have apI: ∀u∈mid,u.oneCell'=true:=by
   intro u hu
   obtain⟨j,hj,rfl⟩:=rB.1 hu
   rw[FK]at hj
   have hq:j/e.size<l.length-i:=Nat.div_lt_of_lt_mul (by rw[Aq];exact hj)
   have:=(hmr (j/e.size) (by rw[dC];exact hq)).o9
   refine this _ ?_
   have hjm:j/e.size*e.size+j%e.size=j:=by rw[Aq];exact Nat.div_add_mod j e.size
   have H7:j%e.size<e.size:=Nat.mod_lt _ hk
   rw[List.mem_iff_getElem?]
   refine⟨j%e.size,?_⟩
   rw[mg,ah H7,mh,hjm]
   exact bg _
  by_cases lj:i=l.length
  ·
   subst lj
   have hm0:mid=[]:=ta (by rw[FK];simp)
   by_cases AQ:l.length+1≤Ee
   ·obtain⟨ie,hie,uq,_⟩:=L.lay.base
    have dQ: ∀ty,(Builtin.append_ #[ρ.t 24,ρ.t 24] ty #[.slice (some ⟨b1,0,none⟩) l.length Ee,.slice (some ⟨b2,0,none⟩) 1 A0]).run P w=_:=λty=>
     Nz (ty:=ty) (cp:=A0) L.t24 hie Ro (by rw[uq];exact Tv) (by rw[uq];exact I7) hnc hn1 AQ
    refine(Lg L w _ _ _ 1 A0 ⟨b2,0,none⟩ _ _ ω hl1 dQ).mono ?_
    rintro e1 w' ⟨rfl,rfl⟩
    refine⟨_,rfl,?_⟩
    rw[uq]
    have RJ:fk zQ.toList (l.length*e.size) news=A++(news++(mid++zQ.toList.drop (l.length*e.size+news.length))):=by
     rw[hm0,hAe];simp[fk]
    have:=yn (e:=e) (rb:=b1) (cap:=Ee) (l:=l.take l.length++(v++l.drop l.length)) (t:=t1) (w:=w) (w':=w.setRow b1 (fk zQ.toList (l.length*e.size) news).toArray) sd xx (λb hb hn=>setRow_other w _ (λe=>hn (by simp[e]))) (by rw[setRow_size];exact aH _) (λ_=>by simp) rfl rfl rfl (setRow_heap w b1 zQ _ t1 _ Ro) Jf (by rw[hyl];exact AQ) uK
     (by
      have:=eG (s:=e.size) (show l.length<Ee by omega)
      rw[RJ,je]
      simp only[aM,hm0,ck,dC,bL,TO,I7,Tv]
      omega)
     (by rw[RJ];exact TP _)
    rw[hyl]at this
    simpa [kN,fx,AM.iJ]using this
   ·obtain⟨nG,rest,dQ,Vp,jY,I8⟩:=Gk (P:=P) (w:=w) L.t24 L.lay (n:=l.length) (m:=1) (cap:=Ee) (cp:=A0) (olds:=A) (news:=news) (base:=some ⟨b1,0,none⟩) (a':=⟨b2,0,none⟩) (λh=>by cases h) TO (λb hb=>by cases hb;exact hAc) I7 hnc ω Li
    refine(Lg L w _ _ _ 1 A0 ⟨b2,0,none⟩ _ _ ω hl1 dQ).mono ?_
    rintro e1 w' ⟨rfl,rfl⟩
    refine⟨_,rfl,?_⟩
    have:=yn (e:=e) (rb:=w.heap.size) (cap:=nG) (l:=l.take l.length++(v++l.drop l.length)) (t:=ρ.t 9) (w:=w) (w':=w.drew.alloc (.cells (A++news++rest).toArray (ρ.t 9))) sd xx (λb hb _=>alloc_old w.drew _ hb) (by rw[oC];exact rL _) (λh=>absurd h (Ap _)) rfl rfl rfl (rj w.drew _) ω (by rw[hyl];exact Vp) jY
     (by simp only[je,aM,TO,I7,I8,←eE];congr 1;omega) (by have:=TP rest;rw[hm0,cW,←bH]at this;exact this)
    rw[hyl]at this
    simpa [kN,fx,AM.iJ]using this
  ·have ake:i<l.length:=ω
   have hi1:i*e.size+e.size≤l.length*e.size:=eG ake
   have e1k:(i+1)*e.size=A.length+news.length:=by rw[TO,I7,eE]
   have FQ:Nat.min 1 (l.length+1-i)=1:=iB ω
   by_cases AQ:l.length+1≤Ee
   ·
    have apJ:l.length*e.size+e.size≤zQ.toList.length:=by rw[bL (xs:=zQ),Tv];exact eG ω
    have hsh: ∀(b:Nat) (c:Array Value) (t:TypeId),w.heap[b]? =some (.cells c t (0,0))→w.shape? b=some (t,c.size):=λb c t h=>by simp[World.shape?,h]
    obtain⟨B,hB⟩: ∃B,B=zQ.toList.drop (i*e.size):=⟨_,rfl⟩
    have apK:zQ.toList=A++B:=by rw[hAe,hB,gb]
    have hBl:B.length=zQ.toList.length-i*e.size:=by rw[hB,dC]
    have hBk:(B.take e.size).length=e.size:=by rw[cc];omega
    have N3:fk zQ.toList ((i+1)*e.size) mid=A++(B.take e.size++(mid++(B.drop e.size).drop mid.length)):=by
     have:zQ.toList=(A++B.take e.size)++B.drop e.size:=by rw[bH,gb];exact apK
     rw[this,show(i+1)*e.size=(A++B.take e.size).length from by rw[aM,hBk,TO,eE,kb],EJ,bH]
    have N4:fk (fk zQ.toList ((i+1)*e.size) mid) (i*e.size) news=A++(news++(mid++(B.drop e.size).drop mid.length)):=by
     rw[N3,←TO,EJ,I7,kb,nq hBk]
    refine(Vv L w b1 l.length Ee i 1 A0 ⟨b2,0,none⟩ (fk zQ.toList ((i+1)*e.size) mid).toArray (fk (fk zQ.toList ((i+1)*e.size) mid) (i*e.size) news).toArray ake ω AQ (by simp only[maxLen]at uK;omega) (λx lb cb=> ?_) (λty dc sc=> ?_) (λW hW ty dc=> ?_)).mono ?_
    ·rw[run_callFunc_extern O.hf O.name O.body O.next O.find,
      Lib.run_overlaps_apart w (ρ.t 24) (ρ.t 4) (ρ.t 9) L.t24 e.size (λw=>dn L.lay w) ⟨b2,0,none⟩ ⟨b1,x,none⟩ 1 A0 lb cb (eU iI) t2 t1 cs2.size zQ.size (hsh b2 cs2 t2 U1) (hsh b1 zQ t1 Ro) (by rw[Tv];exact Nat.ne_of_gt (Nat.mul_pos Jf hk)) (by simp[World.frozen?,U1]) (by simp[World.frozen?,U1])]
     rfl
    ·exact run_copy_row (P:=P) (W:=w.drew) L.t24 (λw=>dn L.lay w) (cs:=zQ) Ro (news:=mid) (n:=l.length-i) (by simp only[Nat.min_def];split<;>omega) FK hmc apI (by rw[FK,eE,kb];rw[bL (xs:=zQ)]at apJ;rw[rM];omega) ty
    ·exact run_copy_row (P:=P) (W:=W) L.t24 (λw=>dn L.lay w) (cs:=(fk zQ.toList ((i+1)*e.size) mid).toArray) (te:=t1) (by rw[hW];exact setRow_heap w b1 zQ _ t1 _ Ro) (news:=news) (n:=1) FQ I7
      (λj u hj=>by
       have:=hnc j u hj
       rw[Addr.add_lit]at this ⊢
       rw[show W.cell? ⟨b2,0+j,none⟩=w.cell? ⟨b2,0+j,none⟩from World.cell?_of_block (by rw[hW];exact setRow_other w _ (eU iI))]
       exact this) hn1 (by
       rw[je,N3]
       simp only[aM,hBk,TO,I7]
       omega) ty
    ·rintro e1 w' ⟨rfl,rfl⟩
     refine⟨_,rfl,?_⟩
     have:=yn (e:=e) (rb:=b1) (cap:=Ee) (l:=l.take i++(v++l.drop i)) (t:=t1) (w:=w) (w':=(w.drew.setRow b1 (fk zQ.toList ((i+1)*e.size) mid).toArray).setRow b1 (fk (fk zQ.toList ((i+1)*e.size) mid) (i*e.size) news).toArray) sd xx
      (λb hb hn=>(setRow_other _ _ (λe=>hn (by simp[e]))).trans (setRow_other _ _ (λe=>hn (by simp[e])))) (by rw[setRow_size,setRow_size];exact aH _) (λ_=>by simp) rfl rfl rfl (setRow_heap _ b1 _ _ t1 _ (setRow_heap w.drew b1 zQ _ t1 _ Ro)) Jf (by rw[hyl];exact AQ) uK
      (by
       rw[N4,je]
       rw[bL (xs:=zQ)]at apJ hBl
       simp only[aM,dC,TO,I7,FK,hBl,rM]
       omega)
      (by rw[N4];exact TP _)
     rw[hyl]at this
     simpa [kN,fx,AM.iJ]using this
   ·
    obtain⟨nG,Z,dQ,Vp,jY,hZl⟩:=Vx (P:=P) (w:=w) L.t24 L.t3 L.lay hk (n:=i) (k:=l.length+1-i) (cap:=Ee) (olds:=A) (b:=⟨b1,0,none⟩) TO hAc ω ω ω
    have avz:i+(l.length+1-i)=l.length+1:=ω
    rw[avz]at dQ Vp
    have hZk:(l.length+1-i)*e.size≤Z.length:=by rw[hZl];exact kJ _ ω
    rw[rM,eE,kb]at hZk
    have N3:fk (A++Z) (i*e.size) news=A++(news++Z.drop news.length):=by rw[←TO,EJ]
    have N4:fk (fk (A++Z) (i*e.size) news) ((i+1)*e.size) mid=A++(news++(mid++(Z.drop news.length).drop mid.length)):=by
     rw[N3,←bH,e1k,←aM,EJ,bH]
    have hnb:w.heap.size≠b1:=ω
    have aCI:b2≠w.heap.size:=ω
    refine(Ys L w b1 l.length Ee i 1 A0 0 nG ⟨b2,0,none⟩ (A++Z).toArray (fk (A++Z) (i*e.size) news).toArray (fk (fk (A++Z) (i*e.size) news) ((i+1)*e.size) mid).toArray ake ω hl1 ω (by simp only[maxLen]at uK;omega) (by simp only[zP]at Li;omega) Vp (by simp only[maxLen]at jY;omega) (λty=> ?_) (λW hW ty dc=> ?_) (λW hW ty dc sc=> ?_)).mono ?_
    ·have:=dQ ty
     rw[show(((l.length+1-i:Nat):Int))=(l.length:Int)+(1:Nat)-(i:Int)from by omega]at this
     exact this
    ·exact run_copy_row (P:=P) (W:=W) L.t24 (λw=>dn L.lay w) (cs:=(A++Z).toArray) (te:=ρ.t 9) (by rw[hW];exact rj w _) (news:=news) (n:=1) FQ I7
      (λj u hj=>by
       have:=hnc j u hj
       rw[Addr.add_lit]at this ⊢
       rw[show W.cell? ⟨b2,0+j,none⟩=w.cell? ⟨b2,0+j,none⟩from World.cell?_of_block (by rw[hW];exact alloc_old w _ aoO)]
       exact this) hn1 (by rw[je,aM,TO,I7];omega) ty
    ·exact run_copy_row (P:=P) (W:=W) L.t24 (λw=>dn L.lay w) (cs:=(fk (A++Z) (i*e.size) news).toArray) (te:=ρ.t 9) (by rw[hW];exact setRow_heap _ _ _ _ _ _ (rj w _)) (news:=mid) (n:=l.length-i) (by simp only[Nat.min_def];split<;>omega) FK
      (λj u hj=>by
       have:=hmc j u hj
       rw[Addr.add_lit]at this ⊢
       rw[show W.cell? ⟨b1,i*e.size+j,none⟩=w.cell? ⟨b1,i*e.size+j,none⟩from World.cell?_of_block (by rw[hW];exact(setRow_other _ _ (eU hnb)).trans (alloc_old w _ avw))]
       exact this) apI (by
       rw[je,N3]
       simp only[aM,dC,TO,I7,FK,eE,rM]
       omega) ty
    ·rintro e1 w' ⟨rfl,rfl⟩
     refine⟨_,rfl,?_⟩
     have hg':((w.drew.alloc (.cells (A++Z).toArray (ρ.t 9))).setRow w.heap.size (fk (A++Z) (i*e.size) news).toArray).drew.heap[w.heap.size]? =some (.cells (fk (A++Z) (i*e.size) news).toArray (ρ.t 9) (0,0)):=setRow_heap _ _ _ _ _ _ (rj w.drew _)
     have:=yn (e:=e) (rb:=w.heap.size) (cap:=nG) (l:=l.take i++(v++l.drop i)) (t:=ρ.t 9) (w:=w) (w':=((w.drew.alloc (.cells (A++Z).toArray (ρ.t 9))).setRow w.heap.size (fk (A++Z) (i*e.size) news).toArray).drew.setRow w.heap.size (fk (fk (A++Z) (i*e.size) news) ((i+1)*e.size) mid).toArray) sd xx
      (λb hb hn=>(setRow_other _ _ ω).trans ((setRow_other _ _ ω).trans (alloc_old w.drew _ hb))) (by rw[setRow_size];show _≤(World.setRow _ _ _).heap.size;rw[setRow_size,oC];exact rL _) (λh=>absurd h (Ap _)) rfl rfl rfl (setRow_heap _ _ _ _ _ _ hg') ω (by rw[hyl];exact Vp) jY
      (by
       rw[N4,je]
       have hmul:(nG-i)*e.size=nG*e.size-i*e.size:=rM _ _ _
       have hci:i*e.size≤nG*e.size:=kJ _ ω
       simp only[aM,dC,TO,I7,FK,hZl,hmul,rM]at hZk ⊢
       omega)
      (by rw[N4];exact TP _)
     rw[hyl]at this
     simpa [kN,fx,AM.iJ]using this
end VM
end
section
namespace VM
open Go Go.Shelf Go.RowKit Go.Lib Go.Proofs
variable{P:Program}{ρ:Ren}
def Yv(ρ:Ren)(fn:Func):Func:={fn with body:=(Body2.n15 ρ).body,ntmps:=8,results:=(Body2.n15 ρ).results,nfree:=0}
theorem Dq(ρ:Ren)(fn:Func):(Yv ρ fn).ntmps=8:=rfl
structure Lj(P:Program)(e:Ty)(ρ:Ren)(f:FuncId)(fn:Func):Prop where
 hf:P.funcs[f]? =some (Yv ρ fn)
 t4:P.underlying (ρ.t 4)=some .bool
 t22:P.underlying (ρ.t 22)=some (.slice (ρ.t 3))
 lay:kO P e (ρ.t 3)
 qD:0<e.size
 mixed:P.follows .mixedOrders=true
set_option maxHeartbeats 4000000 in
set_option maxRecDepth 100000 in
theorem Vy{e:Ty}{f:FuncId}{fn:Func}(L:Lj P e ρ f fn)(w:World)(n c:Nat):
  Calls P f #[.slice none n c] w λr w2=>r= .returned (.slice none 0 0)∧w2=w:=by
 have u22:=run_underlying L.t22
 have t4:=L.t4;have t22:=L.t22
 have z3:=λw=>dn L.lay w
 have mixed:=L.mixed
 have q22: ∀(w:World) (a:Option Addr) (n c n' c':Nat),(binOp .eql (ρ.t 22) (.slice a n c) (.slice none n' c')).run P w= .ok (.bool a.isNone) w:=λw a n c n' c'=>Lib.run_eql_slice_nil w _ _ a n c n' c' L.t22
 go_enter L.hf,Dq ρ fn
 go_wp2
 go_ret
 exact⟨rfl,rfl⟩
set_option maxHeartbeats 4000000 in
set_option maxRecDepth 100000 in
theorem Gl{e:Ty}{f:FuncId}{fn:Func}(L:Lj P e ρ f fn)(w:World)(a:Addr)(n c:Nat)(v':Value)(w':World)
  (NK: ∀ty,(Builtin.append_ #[ρ.t 22,ρ.t 22] ty #[.slice (some ⟨w.heap.size,0,none⟩) 0 0,.slice (some a) n c]).run P (w.alloc (.cells #[] (ρ.t 3)))= .ok v' w'):
   Calls P f #[.slice (some a) n c] w λr w2=>r= .returned v'∧w2=w':=by
 have u22:=run_underlying L.t22
 have t4:=L.t4;have t22:=L.t22
 have z3:=λw=>dn L.lay w
 have mixed:=L.mixed
 have q22: ∀(w:World) (a:Option Addr) (n c n' c':Nat),(binOp .eql (ρ.t 22) (.slice a n c) (.slice none n' c')).run P w= .ok (.bool a.isNone) w:=λw a n c n' c'=>Lib.run_eql_slice_nil w _ _ a n c n' c' L.t22
 obtain⟨ab,ao,asp⟩:=a
 go_enter L.hf,Dq ρ fn
 go_wp2_with (at_builtin;refine Lib.wpList_append_run _ rfl _ _ _ _ rfl _ _ rfl rfl _ _ (NK _) ?_)
 all_goals (go_ret;exact⟨rfl,rfl⟩)
theorem Yw{w w':World}{M0:Nat→Prop}{e:Ty}(a:Option Addr)(sd: ∀b,M0 b→b<w.heap.size)(hfr: ∀b,b<w.heap.size→w'.heap[b]? =w.heap[b]?)(uq:w.heap.size≤w'.heap.size)
  (hos:w'.os=w.os) (htp:w'.tape=w.tape) (RI:w'.output=w.output):
  ∃us M',Value.slice a 0 0=xr us∧RR w' M' [.own e] ([]:List e.den) us []∧Left w M0 [] w' M'∧(bK [.own e] us []).Nodup∧ ∀b∈bK [.own e] us [],¬M0 b:=by
 have xj:bK [.own e] [Value.slice a 0 0] []=[]:=by
  cases a<;>simp[bK,dh,AM.iJ,fI]
 refine⟨[.slice a 0 0],M0,rfl,?_,?_,?_,?_⟩
 ·simp only[RR]
  refine .inr ⟨_,[],rfl,rfl,rfl,?_,rfl,trivial⟩
  simp only[A1,ER,ur]
  exact .inl ⟨trivial,a,rfl⟩
 ·exact⟨λb h=>h,λb h=>nc (sd b h) uq,λb hb h=> .inl h,λb hb _=>hfr b hb,uq,hos,htp,RI⟩
 ·rw[xj];simp
 ·rw[xj];simp
theorem rl{e:Ty}{f:FuncId}{fn:Func}(L:Lj P e ρ f fn)(AV:(fn.name== "runtime.NumGoroutine")=false)(Yt:(Body2.n15 ρ).body.isNone=false)(N:Nat):ix P f (xh e N):=by
 refine⟨(λh=>by cases h),rfl,λM0 w vs x y sd hA yN xx hy=> ?_⟩
 have TG:ox N x=some y:=hy
 clear hy
 obtain⟨v0,vs1,rfl,h0,h2⟩:=hA
 have h2:vs1=[]:=h2
 subst h2
 replace h0:V w (λb=>M0 b∨b∈([]:List Nat)) (.slice e) v0 x:=h0
 unfold ox at TG
 split at TG
 case isFalse=>cases TG
 rename_i Li
 cases TG
 have hbn:(Yv ρ fn).body.isNone=false:=Yt
 have hh:dX (xh e N).args [v0]=[]:=rfl
 rw[hh]at xx ⊢
 refine tW L.hf AV hbn ?_
 obtain⟨i,hi,uq,hz,hby⟩:=L.lay.base
 have hS:=Src.abA h0
 by_cases hx:x=[]
 ·obtain⟨a,cp,hv,_⟩:=hS
  subst hv
  rw[hx]
  cases a with
  |none=>
   refine(Vy L w _ cp).mono ?_
   rintro e1 w' ⟨rfl,rfl⟩
   exact⟨_,rfl,Yw none sd (λ_ _=>rfl) (aH _) rfl rfl rfl⟩
  |some a=>
   refine(Gl L w a _ cp _ _ (λty=>tq (P:=P) (w:=w.alloc (.cells #[] (ρ.t 3))) L.t22 hi (some ⟨w.heap.size,0,none⟩) 0 0 (aH _) (some a) cp)).mono ?_
   rintro e1 w' ⟨rfl,rfl⟩
   exact⟨_,rfl,Yw _ sd (λb hb=>alloc_old w _ hb) (by rw[oC];exact rL _) rfl rfl rfl⟩
 ·obtain⟨b,off,cp,news,hv,hl,qa,ld,h1⟩:=hS.cells hx
  have NB:0<x.length:=o7.2 hx
  subst hv
  obtain⟨nG,rest,dQ,Vp,jY,I8⟩:=Gk (P:=P) (w:=w.alloc (.cells #[] (ρ.t 3))) L.t22 L.lay (n:=0) (m:=x.length) (cap:=0) (cp:=cp) (olds:=[]) (news:=news) (base:=some ⟨w.heap.size,0,none⟩) (a':=⟨b,off,none⟩) (λh=>by cases h) (by simp) (λ_ _ j u hj=>by simp at hj) hl
   (λj u hj=>by rw[Addr.add_lit];exact Lib.cell?_alloc_some _ (qa j u hj)) ω ω
  refine(Gl L w ⟨b,off,none⟩ _ cp _ _ dQ).mono ?_
  rintro e1 w' ⟨rfl,rfl⟩
  refine⟨_,rfl,?_⟩
  simp only[fT]at Vp I8 ⊢
  have Tv:(w.alloc (.cells #[] (ρ.t 3))).heap.size=w.heap.size+1:=oC w _
  exact yn (e:=e) (rb:=(w.alloc (.cells #[] (ρ.t 3))).heap.size) (cap:=nG) (l:=x) (t:=ρ.t 3) (w:=w) (w':=(w.alloc (.cells #[] (ρ.t 3))).drew.alloc (.cells ([]++news++rest).toArray (ρ.t 3))) sd xx
   (λb hb _=>(alloc_old (w.alloc (.cells #[] (ρ.t 3))).drew _ (by show b<(w.alloc (.cells #[] (ρ.t 3))).heap.size;omega)).trans (alloc_old w _ hb))
   (by rw[oC];show w.heap.size≤(w.alloc (.cells #[] (ρ.t 3))).heap.size+1;omega) (λh=>ω) rfl rfl rfl (rj (w.alloc (.cells #[] (ρ.t 3))).drew _) ω Vp jY
   (by simp only[cW,je,aM,hl,I8,←eE];congr 1;omega) (by simpa using rV.more (cs':=rest) (show rV w (λb=>M0 b∨b∈([]:List Nat)) e news x from ld) (by rw[hl];exact aH _))
end VM
end
