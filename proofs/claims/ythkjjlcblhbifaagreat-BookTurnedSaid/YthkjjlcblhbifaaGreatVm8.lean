/- A part of the proof of BookTurned of layer 18: a machine that reads a function of the program as an equation between values. -/
import Derived.Test.YthkjjlcblhbifaaGreatVm7
import Derived.KernelRfl
import Derived.Test.YthkjjlcblhbifaaGreatVm0
import Derived.Laws.Externs
import Derived.Shelf.Spec.SlicesInsertGrow
set_option linter.all false
open List renaming length→ℓ
noncomputable section
section
namespace VM
open Go
@[reducible] def CM.arr:CM→Type→Type
 | .v τ,T| .obj τ,T| .io τ,T| .fn _ τ,T=>τ.den→T
 | .own e,T=>List e.den→T
 | .gk τ _ e,T=>τ.den→List e.den→T
 | .same _,T=>T
@[reducible] def XW:List (Nat×CM)→Type→Type
 |[],R=>R
 |q::r,R=>q.2.arr (XW r R)
def CM.lam{T:Type}(s:Nat)(σ:St):(m:CM)→(St→T)→m.arr T
 | .v τ,f=>λx=>f (σ.put s (.val τ x))
 | .own e,f=>λx=>f ((σ.put s (.ref (16*s+14))).kt (16*s+14) (some (.own e x)))
 | .obj τ,f=>λx=>f ((σ.put s (.jf (16*s+14) [])).kt (16*s+14) (some (.obj τ x)))
 | .gk τ q e,f=>λx l=>f (((σ.put s (.jf (16*s+14) [])).kt (16*s+13) (some (.own e l))).kt (16*s+14) (some (.gk τ x q (16*s+13))))
 | .io τ,f=>λx=>f ((σ.put s (.jf (16*s+15) [])).kt (16*s+15) (some (.obj τ x)))
 | .fn g τ,f=>λx=>f (σ.put s (.N7 g (qP τ x)))
 | .same s',f=>f (σ.put s (σ.T s'))
def apR{R:Type}(κ:St→R):(L:List (Nat×CM))→St→XW L R
 |[],σ=>κ σ
 |q::r,σ=>q.2.lam q.1 σ (apR κ r)
@[reducible] def Ab:List AM→Type→Type
 |[],R=>R
 |m::r,R=>m.den→Ab r R
def JP{R:Type}:(ms:List AM)→Ab ms R→HP ms→R
 |[],g,_=>g
 |[_],g,x=>g x
 |_::n::ms,g,x=>JP (n::ms) (g x.1) x.2
def V6{R:Type}:(ms:List AM)→(HP ms→R)→Ab ms R
 |[],f=>f ()
 |[_],f=>f
 |_::n::ms,f=>λx=>V6 (n::ms) λy=>f (x,y)
theorem Mc{R:Type}: ∀(ms:List AM) (f:HP ms→R) (x:HP ms),JP ms (V6 ms f) x=f x
 |[],_,()=>rfl
 |[_],_,_=>rfl
 |_::n::ms,f,x=>Mc (n::ms) (λy=>f (x.1,y)) x.2
structure Pc where
 k:Nat
 c:List (Nat×CM)
 path:List Nat
 ks:List Nat
def Zc:List Pc→Nat→Pc
 |[],_=>⟨0,[],[],[]⟩
 |p::r,k=>cond (Nat.beq k p.k) p (Zc r k)
def OX:List Pc→Nat→Option (List (Nat×CM))
 |[],_=>none
 |p::r,k=>cond (Nat.beq k p.k) (some p.c) (OX r k)
def CV:List (Nat×nf)→Nat→List nf
 |[],_=>[]
 |q::r,i=>cond (Nat.beq i q.1) (q.2::CV r i) (CV r i)
def Hp:List AM→Nat→List Nat
 |[],_=>[]
 | .io _::r,i=>i::Hp r (i+1)
 | .lo _::r,i=>i::Hp r (i+1)
 |_::r,i=>Hp r (i+1)
structure Fx where
 nt:Nat
 tab:List (Nat×Ty)
 G:List (Nat×nf)
 N:Nat
 fn:Func
 args:List AM
 res:List AM
 pcs:List Pc
 lk:Option (Ty×List Step×Ty×List Nat):=none
namespace Fx
variable(X:Fx)
abbrev R:=Option (HP X.res)
def E:Env:={nt:=X.nt,ty:=λi=>OW i X.tab,Γ:=CV X.G,N:=X.N,xr:=λr=>OX X.pcs (2*r+1),zk:=λr=>OX X.pcs (2*r),io:=Hp X.args 0,lk:=X.lk}
@[reducible] def c(i:Nat):List (Nat×CM):=(Zc X.pcs i).c
def path(i:Nat):List Nat:=(Zc X.pcs i).path
def odd(i:Nat):Bool:=Nat.beq (i%2) 1
def cut(ρ:Nat→St→X.R)(l:Nat):St→X.R:=fun σ=>xz (some (X.c l)) σ (ρ l)
def ks(ρ:Nat→St→X.R)(i:Nat):List (St→X.R):=(Zc X.pcs i).ks.map (X.cut ρ)
def lp(ρ:Nat→St→X.R)(i n:Nat):St→X.R:=lpF X.E X.fn X.args X.res (X.c i) (X.path i) (X.ks ρ i) n
def cC(ρ:Nat→St→X.R)(i:Nat):St→X.R:=cond (odd i) (X.lp ρ i X.N) (atF X.E X.fn X.args X.res (X.path i) (X.ks ρ i))
def own(ρ:Nat→St→X.R)(i:Nat):List (St→X.R):=X.ks ρ i++cond (odd i) [X.cut ρ i] []
def at'(K ρ:Nat→St→X.R)(i:Nat):St→X.R:=atQ X.E X.fn X.args X.res (λr=>K (2*r)) (λr=>K (2*r+1)) (X.path i) (X.own ρ i)
def tl(K ρ:Nat→St→X.R)(i:Nat):List ((St→X.R)×(St→X.R)):=xR X.E (λr=>K (2*r)) (λr=>K (2*r+1)) (acG X.E X.fn X.args X.res (X.path i) (X.own ρ i))
@[reducible] def cu(i:Nat)(κ:St→X.R):XW (X.c i) X.R:=apR κ (X.c i) S0
@[reducible] def bd(K ρ:Nat→St→X.R)(i:Nat):XW (X.c i) X.R:=X.cu i (X.at' K ρ i)
@[reducible] def kc(ρ:Nat→St→X.R)(i:Nat):XW (X.c i) X.R:=X.cu i (ρ i)
def Ea:Nat→St→X.R:=λ_ _=>none
def top(K:Nat→St→X.R):Ab X.args X.R:=V6 X.args λx=>atQ X.E X.fn X.args X.res (λr=>K (2*r)) (λr=>K (2*r+1)) [] [] (entry X.args x 0 S0)
def tlT(K:Nat→St→X.R):List ((St→X.R)×(St→X.R)):=xR X.E (λr=>K (2*r)) (λr=>K (2*r+1)) (acG X.E X.fn X.args X.res [] [])
def S(q:Bool)(g:Ab X.args X.R):nf:={args:=X.args,res:=X.res,quiet:=q,run:=JP X.args g}
variable{X}
theorem acH(f:Nat→St→X.R): ∀td:List Nat,V4 (td.map λt=>(f t,f t))
 |[]=>trivial
 |_::r=>⟨rfl,acH f r⟩
theorem okJ{i:Nat}(td:List Nat)(hi:odd i=false)(hr: ∀K ρ,X.tl K ρ i=td.map λt=>(K t,X.cC ρ t)){g:(Nat→St→X.R)→(Nat→St→X.R)→XW (X.c i) X.R}(h: ∀K ρ,X.bd K ρ i=g K ρ)(ρ:Nat→St→X.R):X.kc (X.cC ρ) i=g (X.cC ρ) ρ:=by
 rw[←h]
 have:X.cC ρ i=X.at' (X.cC ρ) ρ i:=by
  funext σ
  have h1:=hr (X.cC ρ) ρ
  unfold tl own at h1
  rw[hi,av,cA]at h1
  unfold at' own
  rw[hi,av,cA]
  rw[←at_eq X.E X.fn X.args X.res h1 (acH (X.cC ρ) td) σ]
  unfold cC;rw[hi];rfl
 unfold kc bd
 rw[this]
def okb(X:Fx)(i:Nat):Bool:=odd i&&(Zc X.pcs i).ks.all λl=> !(Nat.beq l i)
theorem okL{i:Nat}(td:List Nat)(hi:okb X i=true)(hr: ∀K ρ,X.tl K ρ i=td.map λt=>(K t,X.cC ρ t)){g:(Nat→St→X.R)→(Nat→St→X.R)→XW (X.c i) X.R}(h: ∀K ρ,X.bd K ρ i=g K ρ)(ρ:Nat→St→X.R)
  (G:Nat→XW (X.c i) X.R) (h0:X.cu i (λ_=>none)=G 0) (hs: ∀n ρ',X.kc ρ' i=G n→(∀l,Nat.beq l i=false→X.kc ρ' l=X.kc ρ l)→g (X.cC ρ') ρ'=G (n+1)):X.kc (X.cC ρ) i=G X.N:=by
 unfold okb at hi
 rw[bQ]at hi
 obtain⟨hi,hk⟩:=hi
 have key: ∀n,X.cu i (X.lp ρ i n)=G n:=by
  intro n
  induction n with
  |zero=>exact h0
  |succ n ih=>
   let ρ':Nat→St→X.R:=λl=>cond (Nat.beq l i) (X.lp ρ i n) (ρ l)
   have e1:ρ' i=X.lp ρ i n:=by show cond (Nat.beq i i) _ _=_;rw[pY];rfl
   have e2: ∀l,Nat.beq l i=false→ρ' l=ρ l:=λl hl=>by show cond (Nat.beq l i) _ _=_;rw[hl];rfl
   rw[←hs n ρ' (by unfold kc;rw[e1];exact ih) (λl hl=>by unfold kc;rw[e2 l hl]),←h]
   have e3:X.ks ρ' i=X.ks ρ i:=by
    unfold ks
    refine pU λl hl=> ?_
    have:=pF.1 hk l hl
    unfold cut
    rw[e2 l (by simpa using this)]
   have:X.lp ρ i (n+1)=X.at' (X.cC ρ') ρ' i:=by
    funext σ
    have h1:=hr (X.cC ρ') ρ'
    unfold tl own at h1
    rw[hi,aj]at h1
    unfold at' own
    rw[hi,aj]
    rw[←at_eq X.E X.fn X.args X.res h1 (acH (X.cC ρ') td) σ]
    unfold lp
    rw[Y8,e3]
    unfold cut
    rw[e1];rfl
   unfold bd
   rw[this]
 have:X.cC ρ i=X.lp ρ i X.N:=by unfold cC;rw[hi];rfl
 unfold kc
 rw[this];exact key _
def Md(P:Program):List (Nat×nf)→Prop
 |[]=>True
 |q::r=>jw P q.1 q.2∧Md P r
structure _root_.VM.Kn(P:Program) where
 f:Nat
 S:nf
 ok:jw P f S
def _root_.VM.Kn.p{P:Program}(k:Kn P):Nat×nf:=(k.f,k.S)
def _root_.VM.Kn.l{P:Program}:List (Kn P)→List (Nat×nf)
 |[]=>[]
 |k::r=>k.p::Kn.l r
theorem _root_.VM.Kn.all{P:Program}: ∀l:List (Kn P),Md P (Kn.l l)
 |[]=>trivial
 |k::r=>⟨k.ok,Kn.all r⟩
theorem CW{P:Program}: ∀{l:List (Nat×nf)},Md P l→ ∀f S,S∈CV l f→jw P f S
 |[],_,f,S,h=>by simp[CV]at h
 |q::r,ha,f,S,h=>by
  unfold CV at h
  cases hb:Nat.beq f q.1<;>rw[hb]at h
  ·exact CW ha.2 f S h
  ·rcases bh.1 h with rfl|h
   ·rw[fF hb];exact ha.1
   ·exact CW ha.2 f S h
theorem Hr: ∀{l:List Pc},(l.all λp=>kW p.c)=true→ ∀i L,OX l i=some L→kW L=true
 |q::r,ha,i,L,h=>by
  rw[xm,bQ]at ha
  unfold OX at h
  cases hb:Nat.beq i q.k<;>rw[hb]at h
  ·exact Hr ha.2 i L h
  ·cases h;exact ha.1
def chk(X:Fx)(q:Bool):Bool:=(X.pcs.all λp=>kW p.c)&&((!(X.fn.name== "runtime.NumGoroutine")&&Nat.beq X.nt X.fn.ntmps)&&(X.fn.body.isSome&&(Nat.ble X.args.length X.nt&&((!q||X.res.all AM.flat)&&decide (nF X.args=nF X.res)))))
theorem OY: ∀{ms:List AM} {k i:Nat} {m:AM},ms[i]? =some m→m.iU=true→k+i∈Hp ms k
 |[],_,_,_,h,_=>by simp at h
 |m::ms,k,0,m',h,wI=>by
  simp only[NW,iI]at h
  subst h
  cases m<;>simp[AM.iU]at wI<;>simp[Hp]
 |m::ms,k,i+1,m',h,wI=>by
  have:=OY (ms:=ms) (k:=k+1) (i:=i) (by simpa using h) wI
  rw[show k+(i+1)=k+1+i from by omega]
  cases m<;>simp only[Hp]<;>first|exact ba _ this|exact this
theorem Uo: ∀{ms:List AM} {k i:Nat},i∈Hp ms k→i<k+ms.length
 |[],_,_,h=>by simp[Hp]at h
 |m::ms,k,i,h=>by
  have hr:i∈Hp ms (k+1)→i<k+(m::ms).length:=λh=>by have:=Uo h;simp only[aT];omega
  cases m<;>simp only[Hp]at h<;>first
   |exact hr h
   |(rcases bh.1 h with rfl|h<;>first|exact hr h|(simp only[aT];omega))
variable(X)in
theorem OZ{P:Program}(ht:Ho P X.tab)(hG:Md P X.G)(hc:(X.pcs.all λp=>kW p.c)=true):tF P X.E:=by
 have iS: ∀t τ,OW t X.tab=some τ→uT P τ (.inl t)=true∧acE P τ t=true:=λt τ h=>by
  have:=pF.1 ht.ok _ (Kv h)
  simpa using this
 exact{ty:=λt τ h=>iL (iS t τ h).1,eq:=λt τ h hc ha=>acF (iL (iS t τ h).1) (iS t τ h).2 hc ha,aps:=CW hG,mixed:=ht.mixed,kW:=λi L h=>Hr hc _ L h,YH:=λi L h=>Hr hc _ L h}
theorem mkS{P:Program}(ht:Ho P X.tab){f:FuncId}(hf:P.funcs[f]? =some X.fn){q:Bool}(hc:chk X q=true)(hG:Md P X.G){g:Ab X.args X.R}(h: ∀x,Of X.E X.fn X.args X.res x=JP X.args g x):jw P f (X.S q g):=by
 unfold chk at hc
 simp only[bQ]at hc
 obtain⟨h0,⟨h1,h2⟩,h3,h4,h5,h6⟩:=hc
 refine Y0 (OZ X ht hG h0) hf (by simpa using h1) (fF h2) (X.S q g) (λi m hm wI=> ?_) (λi hi=> ?_) ?_ (λhq=> ?_) (bD h6) h
 ·have:=OY (k:=0) hm wI
  rwa [fX]at this
 ·have:=Uo (k:=0) hi
  rwa [fX]at this
 ·have:=Gn h4
  rwa [fF h2]at this
 ·have hq:q=true:=hq
  subst hq
  show X.res.all AM.flat=true
  simpa using h5
theorem acI{g:Ab X.args X.R}(h:V6 X.args (Of X.E X.fn X.args X.res)=g)(x:HP X.args):Of X.E X.fn X.args X.res x=JP X.args g x:=by rw[←h,Mc]
variable(X)in
theorem ok0{P:Program}(ht:Ho P X.tab){f:FuncId}(hf:P.funcs[f]? =some X.fn){q:Bool}(hc:chk X q=true)(hG:Md P X.G){g:Ab X.args X.R}(h:V6 X.args (Of X.E X.fn X.args X.res)=g):jw P f (X.S q g):=
 mkS ht hf hc hG (acI h)
theorem apS(hb:X.fn.body.isSome=true)(td:List Nat)(hr: ∀K,X.tlT K=td.map λt=>(K t,X.cC X.Ea t))
  {g:(Nat→St→X.R)→Ab X.args X.R} (h: ∀K,X.top K=g K) {f:Ab X.args X.R} (hf:g (X.cC X.Ea)=f) (x:HP X.args):Of X.E X.fn X.args X.res x=JP X.args f x:=by
 rw[←hf,←h,akV hb]
 unfold top
 rw[Mc]
 exact at_eq X.E X.fn X.args X.res (hr (X.cC X.Ea)) (acH (X.cC X.Ea) td) _
variable(X)in
theorem ok1{P:Program}(ht:Ho P X.tab){f:FuncId}(hf:P.funcs[f]? =some X.fn){q:Bool}(hc:chk X q=true)(hG:Md P X.G)(td:List Nat)(hr: ∀K,X.tlT K=td.map λt=>(K t,X.cC X.Ea t))
  {g:(Nat→St→X.R)→Ab X.args X.R} (h: ∀K,X.top K=g K) {f':Ab X.args X.R} (zP:g (X.cC X.Ea)=f'):jw P f (X.S q f'):=by
 have hb:X.fn.body.isSome=true:=by
  unfold chk at hc
  simp only[bQ]at hc
  exact hc.2.2.1
 exact mkS ht hf hc hG (apS hb td hr h zP)
theorem uJ{i:Nat}(td:List Nat){g:(Nat→St→X.R)→(Nat→St→X.R)→XW (X.c i) X.R}(h: ∀K ρ,X.bd K ρ i=g K ρ)(ρ:Nat→St→X.R){f:XW (X.c i) X.R}(hf:g (X.cC ρ) ρ=f:=by rfl)
 (hi:odd i=false:=by kernel_rfl) (hr: ∀K ρ,X.tl K ρ i=td.map λt=>(K t,X.cC ρ t):=by intro K ρ;kernel_rfl):X.kc (X.cC ρ) i=f:=(okJ td hi hr h ρ).trans hf
theorem uL{i:Nat}(td:List Nat){g:(Nat→St→X.R)→(Nat→St→X.R)→XW (X.c i) X.R}(h: ∀K ρ,X.bd K ρ i=g K ρ)(ρ:Nat→St→X.R)
 (G:Nat→XW (X.c i) X.R) (hs: ∀n ρ',X.kc ρ' i=G n→(∀l,Nat.beq l i=false→X.kc ρ' l=X.kc ρ l)→g (X.cC ρ') ρ'=G (n+1)) (h0:X.cu i (λ_=>none)=G 0:=by rfl)
 (hi:okb X i=true:=by kernel_rfl) (hr: ∀K ρ,X.tl K ρ i=td.map λt=>(K t,X.cC ρ t):=by intro K ρ;kernel_rfl):X.kc (X.cC ρ) i=G X.N:=okL td hi hr h ρ G h0 hs
variable(X)in
theorem u0{P:Program}(ht:Ho P X.tab){f:FuncId}(hf:P.funcs[f]? =some X.fn){q:Bool}{g:Ab X.args X.R}(hG:Md P X.G:=by first|exact trivial|exact Kn.all _)(hc:chk X q=true:=by kernel_rfl)(h:V6 X.args (Of X.E X.fn X.args X.res)=g:=by kernel_rfl):jw P f (X.S q g):=ok0 X ht hf hc hG h
variable(X)in
theorem u1{P:Program}(ht:Ho P X.tab){f:FuncId}(hf:P.funcs[f]? =some X.fn)(td:List Nat)
 {g:(Nat→St→X.R)→Ab X.args X.R} (h: ∀K,X.top K=g K) {q:Bool} {f':Ab X.args X.R} (zP:g (X.cC X.Ea)=f':=by rfl) (hG:Md P X.G:=by first|exact trivial|exact Kn.all _) (hc:chk X q=true:=by kernel_rfl) (hr: ∀K,X.tlT K=td.map λt=>(K t,X.cC X.Ea t):=by intro K;kernel_rfl):jw P f (X.S q f'):=ok1 X ht hf hc hG td hr h zP
end Fx
end VM
end
section
namespace VM
open Go
variable{P:Program}
theorem Left.same(w:World)(M0:Nat→Prop)(h: ∀b,M0 b→b<w.heap.size):Left w M0 [] w M0:=
 ⟨λ_ h=>h,h,λ_ _ h=> .inl h,λ_ _ _=>rfl,aH _,rfl,rfl,rfl⟩
theorem apT{w:World}{M:Nat→Prop}{a b c:IntKind}{x:HP [.v (.int a),.v (.int b),.v (.int c)]}{vs:List Value}(h:kE w M [.v (.int a),.v (.int b),.v (.int c)] x vs):vs=[.int a x.1,.int b x.2.1,.int c x.2.2]:=by
 simp only[kE,A1,V,Ty.isAgg,jN,fI,Rd,fW,eL]at h
 obtain⟨v,vs,rfl,rfl,v,vs,rfl,rfl,v,vs,rfl,rfl,rfl⟩:=h
 rfl
theorem rr2{w:World}{M:Nat→Prop}{a b:IntKind}(x y:Int):RR w M [.v (.int a),.v (.int b)] (x,y) [.int a x,.int b y] []:=by
 simp only[RR]
 refine .inr ⟨_,_,rfl,rfl,rfl,?_,.inr ⟨_,_,rfl,rfl,rfl,?_,rfl,trivial⟩⟩<;>simp[A1,V,Ty.isAgg,Rd,q4,ui]
theorem Up{f:FuncId}(run:Int×Int×Int→Option (Int×Int))
  (h: ∀(w:World) (a b c u v:Int),run (a,b,c)=some (u,v)→(callFunc f #[.int .u64 a,.int .u64 b,.int .u64 c]).run P w= .ok (.value (.tuple #[.int .u64 u,.int .u64 v])) w):
  jw P f {args:=[.v (.int .u64),.v (.int .u64),.v (.int .u64)],res:=[.v (.int .u64),.v (.int .u64)],quiet:=true,run}:=by
 refine⟨λ_=>rfl,rfl,λM0 w vs x y tc hA _ _ hy=> ?_⟩
 have hvs:=apT hA
 subst hvs
 exact JK (h w x.1 x.2.1 x.2.2 y.1 y.2 hy) ⟨_,M0,rfl,rr2 y.1 y.2,Left.same w M0 tc,List.nodup_nil,λb hb=>by cases hb⟩
theorem CX(nm:String)(a b c:Nat)(h:c≤1)(w:World):(Extern.MathBitsCarry.three nm #[.int .u64 a,.int .u64 b,.int .u64 c]).run P w= .ok (a,b,c) w:=by
 have h5: ¬(1<c):=ω
 have:Extern.MathBitsCarry.three nm #[.int .u64 a,.int .u64 b,.int .u64 c]=(do
  let c:=(←asInt (.int .u64 c)).toNat
  if c>1 then unsupported (.noEntry ("extern/math/bits." ++nm++ ": a carry that is neither 0 nor 1"))
  pure ((←asInt (.int .u64 a)).toNat,(←asInt (.int .u64 b)).toNat,c)):=rfl
 rw[this]
 simp[asInt,asIntOf]
 omega
theorem V7{f:FuncId}{fn:Func}(N:Nat)(hf:P.funcs[f]? =some fn)(BE:(fn.name== "runtime.NumGoroutine")=false)(hb:fn.body.isNone=true)(hn:Extern.findNext fn=none)
  (he:Extern.find fn=(Extern.MathBitsCarry.rows[0]?).map (·.2)):jw P f (uO.S N):=by
 refine Up (λx=>uO N x.1 x.2.1 x.2.2) λw a b c u v hy=> ?_
 simp only[uO]at hy
 split at hy
 ·rename_i hc
  obtain⟨h1,h2,h3,h4⟩:=hc
  obtain⟨a,rfl⟩:=vt h1
  obtain⟨b,rfl⟩:=vt h2
  obtain⟨c,rfl⟩:=vt h3
  cases hy
  rw[run_callFunc_extern hf BE hb hn he]
  simp[CX _ a b c ω,Extern.MathBitsCarry.pair,Extern.MathBitsCarry.m64]
 ·cases hy
theorem V8{f:FuncId}{fn:Func}(N:Nat)(hf:P.funcs[f]? =some fn)(BE:(fn.name== "runtime.NumGoroutine")=false)(hb:fn.body.isNone=true)(hn:Extern.findNext fn=none)
  (he:Extern.find fn=(Extern.MathBitsCarry.rows[1]?).map (·.2)):jw P f (tA.S N):=by
 refine Up (λx=>tA N x.1 x.2.1 x.2.2) λw a b c u v hy=> ?_
 simp only[tA]at hy
 split at hy
 ·rename_i hc
  obtain⟨h1,q6,h2,zF,h3,h4⟩:=hc
  obtain⟨a,rfl⟩:=vt h1
  obtain⟨b,rfl⟩:=vt h2
  obtain⟨c,rfl⟩:=vt h3
  cases hy
  rw[run_callFunc_extern hf BE hb hn he]
  have e1:((a+18446744073709551616-b-c:Nat):Int)=(a:Int)+18446744073709551616-b-c:=ω
  by_cases h:a<b+c
  ·have h':(a:Int)<(b:Int)+(c:Int):=ω
   simp[CX _ a b c ω,Extern.MathBitsCarry.pair,Extern.MathBitsCarry.m64,e1,h,h']
  ·have h': ¬(a:Int)<(b:Int)+(c:Int):=ω
   simp[CX _ a b c ω,Extern.MathBitsCarry.pair,Extern.MathBitsCarry.m64,e1,h,h']
 ·cases hy
end VM
end
section
namespace VM
open Go Go.Shelf Go.RowKit Go.Lib Go.Proofs
variable{P:Program}{ρ:Ren}
def Zd(ρ:Ren)(fn:Func):Func:={fn with body:=(Body2.n22 ρ).body,ntmps:=95,results:=(Body2.n22 ρ).results,nfree:=0}
theorem xS(ρ:Ren)(fn:Func):(Zd ρ fn).ntmps=95:=rfl
structure V9(P:Program)(e:Ty)(ρ:Ren)(f:FuncId)(fn fo:Func):Prop where
 hf:P.funcs[f]? =some (Zd ρ fn)
 t3:P.underlying (ρ.t 3)=some (.int .i64)
 t4:P.underlying (ρ.t 4)=some .bool
 t24:P.underlying (ρ.t 24)=some (.slice (ρ.t 9))
 lay:kX P e (ρ.t 9)
 qT:0<e.size
 mixed:P.follows .mixedOrders=true
set_option maxHeartbeats 4000000 in
set_option maxRecDepth 100000 in
theorem Me{e:Ty}{f:FuncId}{fn fo:Func}(L:V9 P e ρ f fn fo)(w:World)(base:Option Addr)(n c m vc:Nat)(va:Addr)(v':Value)(w':World)(hm:0<m)(hn:n≤c)
  (OF: ∀ty,(Builtin.append_ #[ρ.t 24,ρ.t 24] ty #[.slice base n c,.slice (some va) m vc]).run P w= .ok v' w'):
   Calls P f #[.slice base n c,.int .i64 n,.slice (some va) m vc] w λr w2=>r= .returned v'∧w2=w':=by
 have u3:=run_underlying L.t3;have u4:=run_underlying L.t4;have u24:=run_underlying L.t24
 have t3:=L.t3;have t4:=L.t4;have t24:=L.t24
 have z9:=λw=>dz L.lay w
 have mixed:=L.mixed
 have zB: ¬((m:Int)=0):=ω
 go_enter L.hf,xS ρ fn
 cases base with
 |none=>
   go_wp2_with (at_builtin;refine Lib.wpList_append_run _ rfl _ _ _ _ rfl _ _ rfl rfl _ _ (OF _) ?_)
   all_goals (go_ret;exact⟨rfl,rfl⟩)
 |some a=>
   obtain⟨ab,ao,asp⟩:=a
   go_wp2_with (at_builtin;refine Lib.wpList_append_run _ rfl _ _ _ _ rfl _ _ rfl rfl _ _ (OF _) ?_)
   all_goals (go_ret;exact⟨rfl,rfl⟩)
theorem run_copy_row{t te e:TypeId}{k:Nat}(ht:P.underlying t=some (.slice e))(hk: ∀w,(Go.sizeOf e).run P w= .ok k w){W:World}{b o apU avY akX apV n:Nat}{a:Addr}{cs:Array Value}(hg:W.heap[b]? =some (.cells cs te (0,0)))
  {news:List Value} (hnn:Nat.min akX apU=n) (hl:news.length=n*k) (hn: ∀j u,news[j]? =some u→W.cell? (a.add j)=some u) (h1: ∀u∈news,u.oneCell'=true) (G4:o+news.length≤cs.size) (ty:TypeId):
  (Builtin.copy_ #[t,t] ty #[.slice (some ⟨b,o,none⟩) apU avY,.slice (some a) akX apV]).run P W= .ok (goInt n) (W.setRow b (eQ cs.toList o news).toArray):=by
 have hf:=run_firstCells_some (P:=P) W k n a akX apV news hl hn
 have w7:=run_storeCells_at (P:=P) b o te news 0 cs W hg ω h1
 simp only[mB]at w7
 simp[Builtin.copy_,run_underlying ht,hk,Builtin.lenOf,hnn,hf,w7,eQ]
set_option maxHeartbeats 4000000 in
set_option maxRecDepth 100000 in
theorem Wa{e:Ty}{f:FuncId}{fn fo:Func}(L:V9 P e ρ f fn fo)(w:World)(b n c i m vc:Nat)(va:Addr)(Mf Ze:Array Value)(hi:i<n)(hm:0<m)(hr:n+m≤c)(avZ:c≤9223372036854775807)
  (hov: ∀x lb cb,(callFunc (ρ.f 29) #[.slice (some va) m vc,.slice (some ⟨b,x,none⟩) lb cb]).run P w= .ok (.value (.bool false)) w)
  (acJ: ∀ty dc sc,(Builtin.copy_ #[(ρ.t 24),(ρ.t 24)] ty #[.slice (some ⟨b,(i+m)*e.size,none⟩) (n+m-(i+m)) dc,.slice (some ⟨b,i*e.size,none⟩) (n+m-i) sc]).run P w.drew= .ok (goInt ((n-i:Nat):Int)) (w.drew.setRow b Mf))
  (acK: ∀W:World,W.heap=(w.setRow b Mf).heap→ ∀ty dc,(Builtin.copy_ #[(ρ.t 24),(ρ.t 24)] ty #[.slice (some ⟨b,i*e.size,none⟩) (n+m-i) dc,.slice (some va) m vc]).run P W= .ok (goInt m) (W.setRow b Ze)):
   Calls P f #[.slice (some ⟨b,0,none⟩) n c,.int .i64 i,.slice (some va) m vc] w λr w2=>r= .returned (.slice (some ⟨b,0,none⟩) (n+m) c)∧w2=(w.drew.setRow b Mf).setRow b Ze:=by
 have u3:=run_underlying L.t3;have u4:=run_underlying L.t4;have u24:=run_underlying L.t24
 have t3:=L.t3;have t4:=L.t4;have t24:=L.t24
 have z9:=λw=>dz L.lay w
 have mixed:=L.mixed
 have zB: ¬((m:Int)=0):=ω
 have FM: ¬((i:Int)=(n:Int)):=ω
 have hw1:IntKind.i64.wrap ((i:Int)+(m:Int))=(i:Int)+(m:Int):=by rw[IntKind.wrap_i64];omega
 have nD:(0:Int)≤(i:Int)+(m:Int):=ω
 have ke:i≤n:=ω
 have V1:((i:Int)+(m:Int)).toNat=i+m:=ω
 have vm: ¬(c=i+m):=ω
 have hb3:(i:Int)≤(n:Int)+(m:Int):=ω
 have hb4: ¬(c=i):=ω
 go_enter L.hf,xS ρ fn
 go_wp2_with (simp only[hov])
 go_region_law_o (refine step_copy_runI rfl _ _ (ρ.t 24) (ρ.t 24) rfl _ _ (by simp[Act.eval,Act.put]) (by simp[Act.eval,Act.put]) (acJ _ _ _) ?_)
 have h2:=acK (w.drew.setRow b Mf) rfl
 go_wp2
 go_ret
 exact⟨rfl,rfl⟩
set_option maxHeartbeats 4000000 in
set_option maxRecDepth 100000 in
theorem Zf{e:Ty}{f:FuncId}{fn fo:Func}(L:V9 P e ρ f fn fo)(w:World)(b n c i m vc nb G:Nat)(va:Addr)(Wb Mf Ze:Array Value)(hi:i<n)(hm:0<m)(hnc:n≤c)(hr:c<n+m)(avZ:c≤9223372036854775807)(h63:n+m≤9223372036854775807)(hG:n+m≤G)(aDm:G≤9223372036854775807)
  (OF: ∀ty,(Builtin.append_ #[(ρ.t 24),(ρ.t 3)] ty #[.slice (some ⟨b,0,none⟩) i c,.int .i64 ((n:Int)+(m:Int)-(i:Int))]).run P w= .ok (.slice (some ⟨w.heap.size,0,none⟩) (n+m) G) (w.drew.alloc (.cells Wb (ρ.t 9))))
  (acJ: ∀W:World,W.heap=(w.alloc (.cells Wb (ρ.t 9))).heap→ ∀ty dc,(Builtin.copy_ #[(ρ.t 24),(ρ.t 24)] ty #[.slice (some ⟨w.heap.size,i*e.size,none⟩) (n+m-i) dc,.slice (some va) m vc]).run P W= .ok (goInt m) (W.setRow w.heap.size Mf))
  (acK: ∀W:World,W.heap=((w.alloc (.cells Wb (ρ.t 9))).setRow w.heap.size Mf).heap→ ∀ty dc sc,(Builtin.copy_ #[(ρ.t 24),(ρ.t 24)] ty #[.slice (some ⟨w.heap.size,(i+m)*e.size,none⟩) (n+m-(i+m)) dc,.slice (some ⟨b,i*e.size,none⟩) (n-i) sc]).run P W= .ok (goInt ((n-i:Nat):Int)) (W.setRow w.heap.size Ze)):
   Calls P f #[.slice (some ⟨b,0,none⟩) n c,.int .i64 i,.slice (some va) m vc] w λr w2=>r= .returned (.slice (some ⟨w.heap.size,0,none⟩) (n+m) G)∧w2=((w.drew.alloc (.cells Wb (ρ.t 9))).setRow w.heap.size Mf).drew.setRow w.heap.size Ze:=by
 have u3:=run_underlying L.t3;have u4:=run_underlying L.t4;have u24:=run_underlying L.t24
 have t3:=L.t3;have t4:=L.t4;have t24:=L.t24
 have z9:=λw=>dz L.lay w
 have mixed:=L.mixed
 have zB: ¬((m:Int)=0):=ω
 have FM: ¬((i:Int)=(n:Int)):=ω
 have hz3:(c:Int)<(n:Int)+(m:Int):=ω
 have hw1:IntKind.i64.wrap ((i:Int)+(m:Int))=(i:Int)+(m:Int):=by rw[IntKind.wrap_i64];omega
 have nD:(0:Int)≤(i:Int)+(m:Int):=ω
 have ke:i≤n:=ω
 have V1:((i:Int)+(m:Int)).toNat=i+m:=ω
 have hGi: ¬(G=i):=ω
 have aDn: ¬(G=i+m):=ω
 have hci: ¬(c=i):=ω
 have hb3:(i:Int)≤(n:Int):=ω
 have h1:=acJ ((w.alloc (.cells Wb (ρ.t 9))).drew) rfl
 have h2:=acK (((w.alloc (.cells Wb (ρ.t 9))).drew.setRow w.heap.size Mf).drew) rfl
 go_enter L.hf,xS ρ fn
 go_wp2_with (first
   |(at_builtin;refine Lib.wpList_append_run _ rfl _ _ _ _ rfl _ _ rfl rfl _ _ (OF _) ?_)
   |(at_builtin;refine wpList_copy_runI _ rfl _ _ (ρ.t 24) (ρ.t 24) rfl _ _ rfl rfl (acJ _ (by exact rfl) _ _) ?_)
   |(at_builtin;refine wpList_copy_runI _ rfl _ _ (ρ.t 24) (ρ.t 24) rfl _ _ rfl rfl (acK _ (by exact rfl) _ _ _) ?_))
 go_region_law_o (refine step_copy_runI rfl _ _ (ρ.t 24) (ρ.t 24) rfl _ _ (by simp[Act.eval,Act.put]) (by simp[Act.eval,Act.put]) (h2 _ _ _) ?_)
 go_wp2
 go_ret
 exact⟨rfl,rfl⟩
theorem FN{α:Type}(A Z news:List α):eQ (A++Z) A.length news=A++(news++Z.drop news.length):=by
 unfold eQ
 rw[xk rfl,bF,←iJ,mz rfl]
theorem pI.apX{w:World}{M:Nat→Prop}{e:Ty}{cs:List Value}{l:List e.den}(h:pI w M e cs l)(i:Nat):pI w M e (cs.take (i*e.size)) (l.take i):=by
 intro j hj
 rw[cj]at hj
 have:=eE (s:=e.size) (show j<i by omega)
 rw[rT,rU,iu ω,AW]
 exact h j ω
theorem pI.apY{w:World}{M:Nat→Prop}{e:Ty}{cs:List Value}{l:List e.den}(h:pI w M e cs l)(i:Nat):pI w M e ((cs.drop (i*e.size)).take ((l.length-i)*e.size)) (l.drop i):=by
 intro j hj
 rw[ec]at hj
 have:=eE (s:=e.size) hj
 rw[rT,rU,iu ω,iJ,Gt,←eJ]
 exact h (i+j) ω
theorem yW{w w':World}{M0:Nat→Prop}{hs:List Nat}{e:Ty}{rb cap:Nat}{row:Array Value}{t:TypeId}{l:List e.den}(tc: ∀b,M0 b→b<w.heap.size)(xP: ∀b∈hs,¬M0 b)
  (hfr: ∀b,b<w.heap.size→b∉hs→w'.heap[b]? =w.heap[b]?) (qR:w.heap.size≤w'.heap.size) (hrb:rb<w.heap.size→rb∈hs) (hos:w'.os=w.os) (htp:w'.tape=w.tape) (Sm:w'.output=w.output)
  (So:w'.heap[rb]? =some (.cells row t (0,0))) (h0:0<cap) (hl:l.length≤cap) (hm:cap≤maxLen) (hrs:row.size=cap*e.size) (kD:pI w (λb=>M0 b∨b∈hs) e row.toList l):
  ∃us M',Value.slice (some ⟨rb,0,none⟩) l.length cap=xL us∧RR w' M' [.own e] l us []∧Left w M0 hs w' M'∧(bK [.own e] us []).Nodup∧ ∀b∈bK [.own e] us [],¬M0 b:=by
 have Ki:rb<w'.heap.size:=(lH.1 So).1
 have hk:fP w (λb=>M0 b∨b∈hs) w' (λb=>M0 b∨b=rb):=⟨qR,λb hb hn=>hfr b hb (λh=>hn (.inr h)),λb hb h=>h.elim .inl (λe=> .inr (e▸hrb (e▸hb)))⟩
 have xD:bK [.own e] [Value.slice (some ⟨rb,0,none⟩) l.length cap] []=[rb]:=by
  have:cap≠0:=ω
  simp[bK,dA,AM.iU,fD,this]
 refine⟨[.slice (some ⟨rb,0,none⟩) l.length cap],λb=>M0 b∨b=rb,rfl,?_,?_,?_,?_⟩
 ·simp only[RR]
  refine .inr ⟨_,[],rfl,rfl,rfl,?_,rfl,trivial⟩
  simp only[A1,ER,q4]
  exact .inr ⟨rb,row,t,cap,rfl,So,.inr rfl,h0,hl,hm,hrs,kD.ch hk⟩
 ·exact⟨λb h=> .inl h,λb h=>h.elim (λh=>n6 (tc b h) qR) (λh=>h▸Ki),λb hb h=>h.elim .inl (λe=> .inr (e▸hrb (e▸hb))),hfr,qR,hos,htp,Sm⟩
 ·rw[xD];simp
 ·rw[xD]
  intro b hb h
  rw[cy]at hb
  subst hb
  exact xP b (hrb (tc b h)) h
theorem setRow_other(w:World){b c:Nat}(r:Array Value)(h:c≠b):(w.setRow b r).heap[c]? =w.heap[c]? :=by
 unfold World.setRow
 rw[Array.getElem?_modify,ag (λe=>h e.symm)]
theorem setRow_size(w:World)(b:Nat)(r:Array Value):(w.setRow b r).heap.size=w.heap.size:=by
 unfold World.setRow;simp
theorem alloc_old(w:World)(o:Obj){c:Nat}(h:c<w.heap.size):(w.alloc o).heap[c]? =w.heap[c]? :=by
 show(w.heap.push o)[c]? =_
 rw[Array.getElem?_push,ag ω]
theorem rG(w:World)(o:Obj):(w.alloc o).heap[w.heap.size]? =some o:=by
 show(w.heap.push o)[w.heap.size]? =_
 simp
theorem pa(w:World)(o:Obj):(w.alloc o).heap.size=w.heap.size+1:=by
 show(w.heap.push o).size=_
 simp
theorem vM{w:World}{b:Nat}{cs:Array Value}{t:TypeId}{f:Nat×Nat}(h:w.heap[b]? =some (.cells cs t f))(o n:Nat): ∀j u,((cs.toList.drop o).take n)[j]? =some u→w.cell? ((⟨b,o,none⟩:Addr).add j)=some u:=by
 intro j u hj
 rw[Addr.add_lit]
 rw[mX]at hj
 split at hj
 ·rw[mY,iH]at hj
  simp only[World.cell?,h]
  simpa using hj
 ·cases hj
theorem Uq{w:World}{M:Nat→Prop}{v:Value}{e:Ty}{l:List e.den}(h:ER w M v (.own e l)):(l=[]∧ ∃a,v= .slice a 0 0)∨
 ∃b cs t cap,v= .slice (some ⟨b,0,none⟩) l.length cap∧w.heap[b]? =some (.cells cs t (0,0))∧M b∧0<cap∧l.length≤cap∧cap≤maxLen∧cs.size=cap*e.size∧pI w M e cs.toList l:=h
end VM
end
section
namespace VM
open Go Go.Shelf Go.RowKit Go.Lib Go.Proofs
variable{P:Program}{ρ:Ren}
theorem Hs{w:World}{t e':TypeId}{e:Ty}(hu:P.underlying t=some (.slice e'))(hle:kX P e e'){n m cap cp:Nat}{olds news:List Value}{base:Option Addr}{a':Addr}(Yx:base=none→n=0∧cap=0)
  (w9:olds.length=n*e.size) (ho: ∀b,base=some b→ ∀j u,olds[j]? =some u→w.cell? (b.add j)=some u) (hln:news.length=m*e.size) (hn: ∀j u,news[j]? =some u→w.cell? (a'.add j)=some u)
  (hg:cap<n+m) (hs:n+m<Ba):
  ∃nh rest,(∀ty,(Builtin.append_ #[t,t] ty #[.slice base n cap,.slice (some a') m cp]).run P w= .ok (.slice (some ⟨w.heap.size,0,none⟩) (n+m) nh) (w.drew.alloc (.cells (olds++news++rest).toArray e')))∧
   n+m≤nh∧nh≤maxLen∧rest.length=(nh-(n+m))*e.size:=by
 obtain⟨i,hi,qR,hz,hby⟩:=hle.base
 have hzs:(cr e e.cL).cells.size=e.size:=by rw[←bp,fK,mF]
 have h63:n+m≤maxLen:=by simp only[Ba,maxLen]at hs ⊢;omega
 have G4:(n+m)*i.bytes≤140737488355328:=by
  have:(n+m)*i.bytes≤68719476736*2048:=uD (by simp only[Ba]at hs;omega) hby
  omega
 refine⟨grownCap w (n+m) cap e',(Builtin.zeroCells (cr e e.cL).cells (grownCap w (n+m) cap e'-(n+m))).toList,λty=> ?_,grownCap_ge _ _ _ _,grownCap_le_maxLen _ _ _ _ h63,?_⟩
 ·cases base with
  |none=>
   obtain⟨rfl,rfl⟩:=Yx rfl
   have ho0:olds=[]:=vo (by rw[w9];simp)
   subst ho0
   have:=run_append_nil (P:=P) w t ty e' i _ hu hi hz a' m cp news (by rw[hln,qR]) hn (by simpa using hg) (by simp only[Ba]at hs;omega) (by simp at G4;omega)
   simp only[fX,cD]
   rw[this]
   congr 2
   apply fe (λz=>Obj.cells z e' (0,0))
   apply ia;simp
  |some b=>
   have:=run_append_grow (P:=P) w t ty e' i _ hu hi hz b n cap olds (by rw[w9,qR]) (ho b rfl) a' m cp news (by rw[hln,qR]) hn hg (by simp only[Ba]at hs;omega) (growslice_fits hg G4)
   rw[this]
   congr 2
   apply fe (λz=>Obj.cells z e' (0,0))
   apply ia;simp
 ·rw[bp,size_zeroCells,hzs]
theorem Wc{w:World}{t tn e':TypeId}{e:Ty}(hu:P.underlying t=some (.slice e'))(V1:P.underlying tn=some (.int .i64))(hle:kX P e e')(akS:0<e.size){n k cap:Nat}{olds:List Value}{b:Addr}
  (w9:olds.length=n*e.size) (ho: ∀j u,olds[j]? =some u→w.cell? (b.add j)=some u) (hk:0<k) (hg:cap<n+k) (hs:n+k<Ba):
  ∃nh rest,(∀ty,(Builtin.append_ #[t,tn] ty #[.slice (some b) n cap,.int .i64 k]).run P w= .ok (.slice (some ⟨w.heap.size,0,none⟩) (n+k) nh) (w.drew.alloc (.cells (olds++rest).toArray e')))∧
   n+k≤nh∧nh≤maxLen∧rest.length=(nh-n)*e.size:=by
 obtain⟨i,hi,qR,hz,hby⟩:=hle.base
 have hzs:(cr e e.cL).cells.size=e.size:=by rw[←bp,fK,mF]
 have h63:n+k≤maxLen:=by simp only[Ba,maxLen]at hs ⊢;omega
 have G4:(n+k)*i.bytes≤140737488355328:=by
  have:(n+k)*i.bytes≤68719476736*2048:=uD (by simp only[Ba]at hs;omega) hby
  omega
 have hkb:k*i.bytes≤281474976710656:=by
  have:k*i.bytes≤(n+k)*i.bytes:=kB _ ω
  omega
 have L1:=grownCap_ge w (n+k) cap e'
 refine⟨grownCap w (n+k) cap e',(Builtin.zeroCells (cr e e.cL).cells k++Builtin.zeroCells (cr e e.cL).cells (grownCap w (n+k) cap e'-(n+k))).toList,λty=> ?_,L1,grownCap_le_maxLen _ _ _ _ h63,?_⟩
 ·have hold:(Builtin.firstCells i.size n (.slice (some b) n cap)).run P w.drew= .ok olds.toArray w.drew:=run_firstCells_some w.drew i.size n b n cap olds (by rw[w9,qR]) (λj u hj=>ho j u hj)
  have:=Lib.run_append_grow_zeros w t tn ty e' i _ .i64 .i64 hu V1 hi hz (some b) n cap olds hold k hk (by rw[qR];exact akS) hg (by simp only[Ba]at hs;omega) hkb (growslice_fits hg G4)
  rw[this]
  congr 2
  apply fe (λz=>Obj.cells z e' (0,0))
  apply ia;simp
 ·rw[Array.toList_append,aS,bp,bp,size_zeroCells,size_zeroCells,hzs,←eJ]
  congr 1;omega
structure OvP(P:Program)(ρ:Ren)(fo:Func):Prop where
 hf:P.funcs[ρ.f 29]? =some fo
 name:(fo.name== "runtime.NumGoroutine")=false
 body:fo.body.isNone=true
 next:Extern.findNext fo=none
 find:Extern.find fo=some (Extern.SlicesOverlaps.overlaps #[ρ.t 24,ρ.t 24] #[ρ.t 4])
theorem Ht{e:Ty}{f:FuncId}{fn fo:Func}(L:V9 P e ρ f fn fo)(O:OvP P ρ fo)(BE:(fn.name== "runtime.NumGoroutine")=false)(Zg:(Body2.n22 ρ).body.isNone=false)(N:Nat):jw P f (m1 e N):=by
 refine⟨(λh=>by cases h),rfl,λM0 w vs x y tc hA wV xP hy=> ?_⟩
 obtain⟨l,i,v⟩:=x
 have Ul:qY N l i v=some y:=hy
 clear hy
 simp only[m1,kE]at hA
 obtain⟨v0,YG,rfl,h0,v1,vs2,rfl,h1,v2,vs3,rfl,h2,rfl⟩:=hA
 simp only[qY]at Ul
 split at Ul
 case isFalse=>cases Ul
 rename_i hc
 cases Ul
 obtain⟨hi0,Bl,Sj,Mg⟩:=hc
 obtain⟨i,rfl⟩:=vt hi0
 have apZ:i≤l.length:=ω
 simp only[A1,q4,ui,V,Ty.isAgg,jN,fI,Rd,fW,eL]at h0 h1 h2
 subst h1
 have hk:=L.qT
 replace Sj:ℓ (α:=e.den) v=1:=Sj
 rcases Uq h2 with⟨VN,_⟩|⟨b2,T4,t2,BJ,hv2,Yj,LR,hc2,hl2,yP,Wd,zT⟩
 ·rw[VN]at Sj;cases Sj
 replace hv2:v2= .slice (some ⟨b2,0,none⟩) 1 BJ:=by rw[hv2];congr 1
 subst hv2
 have acb:e.size≤T4.toList.length:=by
  rw[bp (xs:=T4),Wd]
  exact Nat.le_mul_of_pos_left _ hc2
 obtain⟨news,Zh⟩: ∃news,news=T4.toList.take e.size:=⟨_,rfl⟩
 have Kh:news.length=1*e.size:=by rw[Zh,cj,kT];omega
 have hnr:pI w (λb=>M0 b∨b∈eF (m1 e N).args [v0,.int .i64 (i:Int),.slice (some ⟨b2,0,none⟩) 1 BJ]) e news v:=by
  rw[Zh];exact zT.take (by rw[Sj,kT];exact aH _)
 have hnc: ∀j u,news[j]? =some u→w.cell? ((⟨b2,0,none⟩:Addr).add j)=some u:=by
  have:=vM Yj 0 e.size
  rw[cM]at this
  rw[Zh];exact this
 have Sw: ∀u∈news,u.oneCell'=true:=by
  have:=hnr 0 ω
  rw[Nat.zero_mul,cM,iG ω]at this
  exact this.lL
 have vm:fD (.slice (some ⟨b2,0,none⟩) 1 BJ)=some b2:=by simp[fD];omega
 replace Mg:ℓ (α:=e.den) l+1<Ba:=Mg
 have Zi:(List.take i l++(v++List.drop i l)).length=l.length+1:=by rw[aS,aS,cj,ec,Sj];omega
 have hbn:(Zd ρ fn).body.isNone=false:=Zg
 refine uj L.hf BE hbn ?_
 rcases Uq h0 with⟨rfl,ad,rfl⟩|⟨b1,zW,t1,E7,rfl,R5,hM1,FJ,Sx,ug,NA,BK⟩
 ·
  have hi:i=0:=by simpa using apZ
  subst hi
  obtain⟨nh,rest,dH,Sh,ji,Ki⟩:=Hs (P:=P) (w:=w) L.t24 L.lay (n:=0) (m:=1) (cap:=0) (cp:=BJ) (olds:=[]) (news:=news) (base:=ad) (a':=⟨b2,0,none⟩) (λ_=>⟨rfl,rfl⟩) (by simp) (λ_ _ j u hj=>by simp at hj) Kh hnc ω (by simp only[Ba];omega)
  refine(Me L w ad 0 0 1 BJ ⟨b2,0,none⟩ _ _ ω (aH _) dH).mono ?_
  rintro e1 w' ⟨rfl,rfl⟩
  refine⟨_,rfl,?_⟩
  simp only[fX]at Sh Ki
  have hv:v=v++[]:=by simp
  have:=yW (e:=e) (rb:=w.heap.size) (cap:=nh) (l:=v) (t:=ρ.t 9) (w:=w) (w':=w.drew.alloc (.cells ([]++news++rest).toArray (ρ.t 9))) tc xP (λb hb _=>alloc_old w.drew _ hb) (by rw[pa];exact rY _) (λh=>absurd h (GA _)) rfl rfl rfl (rG w.drew _) ω ω ji
   (by simp only[cD,jh,aS,Kh,Ki,←eJ];congr 1;omega) (by simpa using hnr.more (cs':=rest) (by rw[Sj,Kh];exact aH _))
  rw[Sj]at this
  simpa [m1,fQ,AM.iU]using this
 ·have nD:fD (.slice (some ⟨b1,0,none⟩) l.length E7)=some b1:=by simp[fD];omega
  have hh:eF (m1 e N).args [.slice (some ⟨b1,0,none⟩) l.length E7,.int .i64 (i:Int),.slice (some ⟨b2,0,none⟩) 1 BJ]=[b1,b2]:=by simp[m1,eF,dA,nD,vm]
  rw[hh]at wV xP hnr ⊢
  replace BK:pI w (λb=>M0 b∨b∈[b1,b2]) e zW.toList l:=by rw[←hh];exact BK
  have kN:b1≠b2:=by simpa using wV
  have av3:b1<w.heap.size:=(lH.1 R5).1
  have ao5:b2<w.heap.size:=(lH.1 Yj).1
  have qQ:l.length*e.size≤zW.toList.length:=by rw[bp (xs:=zW),NA];exact kB _ Sx
  have hik:i*e.size≤l.length*e.size:=kB _ apZ
  obtain⟨A,hAe⟩: ∃A,A=zW.toList.take (i*e.size):=⟨_,rfl⟩
  obtain⟨mid,akZ⟩: ∃mid,mid=(zW.toList.drop (i*e.size)).take ((l.length-i)*e.size):=⟨_,rfl⟩
  have Ur:A.length=i*e.size:=by rw[hAe,cj];omega
  have FF:mid.length=(l.length-i)*e.size:=by
   rw[akZ,cj,ec,rZ];omega
  have hAr:=BK.apX i
  have hmr:=BK.apY i
  rw[←hAe]at hAr
  rw[←akZ]at hmr
  have hti:(l.take i).length=i:=by rw[cj];omega
  have Us: ∀rest:List Value,pI w (λb=>M0 b∨b∈[b1,b2]) e (A++(news++(mid++rest))) (l.take i++(v++l.drop i)):=λrest=>
   hAr.append (by rw[Ur,hti]) (hnr.append (by rw[Kh,Sj]) (hmr.more (by rw[ec,FF];exact aH _)))
  have hAc: ∀j u,A[j]? =some u→w.cell? ((⟨b1,0,none⟩:Addr).add j)=some u:=by
   have:=vM R5 0 (i*e.size)
   rw[cM]at this
   rw[hAe];exact this
  have hmc: ∀j u,mid[j]? =some u→w.cell? ((⟨b1,i*e.size,none⟩:Addr).add j)=some u:=by
   rw[akZ];exact vM R5 (i*e.size) _
  have ap1: ∀u∈mid,u.oneCell'=true:=by
   intro u hu
   obtain⟨j,hj,rfl⟩:=rO.1 hu
   rw[FF]at hj
   have hq:j/e.size<l.length-i:=Nat.div_lt_of_lt_mul (by rw[GB];exact hj)
   have:=(hmr (j/e.size) (by rw[ec];exact hq)).lL
   refine this _ ?_
   have hjm:j/e.size*e.size+j%e.size=j:=by rw[GB];exact Nat.div_add_mod j e.size
   have Bm:j%e.size<e.size:=Nat.mod_lt _ hk
   rw[List.mem_iff_getElem?]
   refine⟨j%e.size,?_⟩
   rw[mX,ak Bm,mY,hjm]
   exact bm _
  by_cases ke:i=l.length
  ·
   subst ke
   have hm0:mid=[]:=vo (by rw[FF];simp)
   by_cases Bx:l.length+1≤E7
   ·obtain⟨ie,hie,qR,_⟩:=L.lay.base
    have dH: ∀ty,(Builtin.append_ #[ρ.t 24,ρ.t 24] ty #[.slice (some ⟨b1,0,none⟩) l.length E7,.slice (some ⟨b2,0,none⟩) 1 BJ]).run P w=_:=λty=>
     Ox (ty:=ty) (cp:=BJ) L.t24 hie R5 (by rw[qR];exact NA) (by rw[qR];exact Kh) hnc Sw Bx
    refine(Me L w _ _ _ 1 BJ ⟨b2,0,none⟩ _ _ ω Sx dH).mono ?_
    rintro e1 w' ⟨rfl,rfl⟩
    refine⟨_,rfl,?_⟩
    rw[qR]
    have So:eQ zW.toList (l.length*e.size) news=A++(news++(mid++zW.toList.drop (l.length*e.size+news.length))):=by
     rw[hm0,hAe];simp[eQ]
    have:=yW (e:=e) (rb:=b1) (cap:=E7) (l:=l.take l.length++(v++l.drop l.length)) (t:=t1) (w:=w) (w':=w.setRow b1 (eQ zW.toList (l.length*e.size) news).toArray) tc xP (λb hb hn=>setRow_other w _ (λe=>hn (by simp[e]))) (by rw[setRow_size];exact aH _) (λ_=>by simp) rfl rfl rfl (setRow_heap w b1 zW _ t1 _ R5) FJ (by rw[Zi];exact Bx) ug
     (by
      have:=eE (s:=e.size) (show l.length<E7 by omega)
      rw[So,jh]
      simp only[aS,hm0,bZ,ec,bp,Ur,Kh,NA]
      omega)
     (by rw[So];exact Us _)
    rw[Zi]at this
    simpa [m1,fQ,AM.iU]using this
   ·obtain⟨nh,rest,dH,Sh,ji,Ki⟩:=Hs (P:=P) (w:=w) L.t24 L.lay (n:=l.length) (m:=1) (cap:=E7) (cp:=BJ) (olds:=A) (news:=news) (base:=some ⟨b1,0,none⟩) (a':=⟨b2,0,none⟩) (λh=>by cases h) Ur (λb hb=>by cases hb;exact hAc) Kh hnc ω Mg
    refine(Me L w _ _ _ 1 BJ ⟨b2,0,none⟩ _ _ ω Sx dH).mono ?_
    rintro e1 w' ⟨rfl,rfl⟩
    refine⟨_,rfl,?_⟩
    have:=yW (e:=e) (rb:=w.heap.size) (cap:=nh) (l:=l.take l.length++(v++l.drop l.length)) (t:=ρ.t 9) (w:=w) (w':=w.drew.alloc (.cells (A++news++rest).toArray (ρ.t 9))) tc xP (λb hb _=>alloc_old w.drew _ hb) (by rw[pa];exact rY _) (λh=>absurd h (GA _)) rfl rfl rfl (rG w.drew _) ω (by rw[Zi];exact Sh) ji
     (by simp only[jh,aS,Ur,Kh,Ki,←eJ];congr 1;omega) (by have:=Us rest;rw[hm0,cD,←bF]at this;exact this)
    rw[Zi]at this
    simpa [m1,fQ,AM.iU]using this
  ·have ak0:i<l.length:=ω
   have hi1:i*e.size+e.size≤l.length*e.size:=eE ak0
   have e1k:(i+1)*e.size=A.length+news.length:=by rw[Ur,Kh,eJ]
   have CI:Nat.min 1 (l.length+1-i)=1:=iu ω
   by_cases Bx:l.length+1≤E7
   ·
    have ap2:l.length*e.size+e.size≤zW.toList.length:=by rw[bp (xs:=zW),NA];exact eE ω
    have hsh: ∀(b:Nat) (c:Array Value) (t:TypeId),w.heap[b]? =some (.cells c t (0,0))→w.shape? b=some (t,c.size):=λb c t h=>by simp[World.shape?,h]
    obtain⟨B,hB⟩: ∃B,B=zW.toList.drop (i*e.size):=⟨_,rfl⟩
    have ap3:zW.toList=A++B:=by rw[hAe,hB,gT]
    have hBl:B.length=zW.toList.length-i*e.size:=by rw[hB,ec]
    have hBk:(B.take e.size).length=e.size:=by rw[cj];omega
    have O0:eQ zW.toList ((i+1)*e.size) mid=A++(B.take e.size++(mid++(B.drop e.size).drop mid.length)):=by
     have:zW.toList=(A++B.take e.size)++B.drop e.size:=by rw[bF,gT];exact ap3
     rw[this,show(i+1)*e.size=(A++B.take e.size).length from by rw[aS,hBk,Ur,eJ,kT],FN,bF]
    have O1:eQ (eQ zW.toList ((i+1)*e.size) mid) (i*e.size) news=A++(news++(mid++(B.drop e.size).drop mid.length)):=by
     rw[O0,←Ur,FN,Kh,kT,mz hBk]
    refine(Wa L w b1 l.length E7 i 1 BJ ⟨b2,0,none⟩ (eQ zW.toList ((i+1)*e.size) mid).toArray (eQ (eQ zW.toList ((i+1)*e.size) mid) (i*e.size) news).toArray ak0 ω Bx (by simp only[maxLen]at ug;omega) (λx lb cb=> ?_) (λty dc sc=> ?_) (λW hW ty dc=> ?_)).mono ?_
    ·rw[run_callFunc_extern O.hf O.name O.body O.next O.find,
      Lib.run_overlaps_apart w (ρ.t 24) (ρ.t 4) (ρ.t 9) L.t24 e.size (λw=>dz L.lay w) ⟨b2,0,none⟩ ⟨b1,x,none⟩ 1 BJ lb cb (fk kN) t2 t1 T4.size zW.size (hsh b2 T4 t2 Yj) (hsh b1 zW t1 R5) (by rw[NA];exact Nat.ne_of_gt (Nat.mul_pos FJ hk)) (by simp[World.frozen?,Yj]) (by simp[World.frozen?,Yj])]
     rfl
    ·exact run_copy_row (P:=P) (W:=w.drew) L.t24 (λw=>dz L.lay w) (cs:=zW) R5 (news:=mid) (n:=l.length-i) (by simp only[Nat.min_def];split<;>omega) FF hmc ap1 (by rw[FF,eJ,kT];rw[bp (xs:=zW)]at ap2;rw[rZ];omega) ty
    ·exact run_copy_row (P:=P) (W:=W) L.t24 (λw=>dz L.lay w) (cs:=(eQ zW.toList ((i+1)*e.size) mid).toArray) (te:=t1) (by rw[hW];exact setRow_heap w b1 zW _ t1 _ R5) (news:=news) (n:=1) CI Kh
      (λj u hj=>by
       have:=hnc j u hj
       rw[Addr.add_lit]at this ⊢
       rw[show W.cell? ⟨b2,0+j,none⟩=w.cell? ⟨b2,0+j,none⟩from World.cell?_of_block (by rw[hW];exact setRow_other w _ (fk kN))]
       exact this) Sw (by
       rw[jh,O0]
       simp only[aS,hBk,Ur,Kh]
       omega) ty
    ·rintro e1 w' ⟨rfl,rfl⟩
     refine⟨_,rfl,?_⟩
     have:=yW (e:=e) (rb:=b1) (cap:=E7) (l:=l.take i++(v++l.drop i)) (t:=t1) (w:=w) (w':=(w.drew.setRow b1 (eQ zW.toList ((i+1)*e.size) mid).toArray).setRow b1 (eQ (eQ zW.toList ((i+1)*e.size) mid) (i*e.size) news).toArray) tc xP
      (λb hb hn=>(setRow_other _ _ (λe=>hn (by simp[e]))).trans (setRow_other _ _ (λe=>hn (by simp[e])))) (by rw[setRow_size,setRow_size];exact aH _) (λ_=>by simp) rfl rfl rfl (setRow_heap _ b1 _ _ t1 _ (setRow_heap w.drew b1 zW _ t1 _ R5)) FJ (by rw[Zi];exact Bx) ug
      (by
       rw[O1,jh]
       rw[bp (xs:=zW)]at ap2 hBl
       simp only[aS,ec,Ur,Kh,FF,hBl,rZ]
       omega)
      (by rw[O1];exact Us _)
     rw[Zi]at this
     simpa [m1,fQ,AM.iU]using this
   ·
    obtain⟨nh,Z,dH,Sh,ji,hZl⟩:=Wc (P:=P) (w:=w) L.t24 L.t3 L.lay hk (n:=i) (k:=l.length+1-i) (cap:=E7) (olds:=A) (b:=⟨b1,0,none⟩) Ur hAc ω ω ω
    have av6:i+(l.length+1-i)=l.length+1:=ω
    rw[av6]at dH Sh
    have hZk:(l.length+1-i)*e.size≤Z.length:=by rw[hZl];exact kB _ ω
    rw[rZ,eJ,kT]at hZk
    have O0:eQ (A++Z) (i*e.size) news=A++(news++Z.drop news.length):=by rw[←Ur,FN]
    have O1:eQ (eQ (A++Z) (i*e.size) news) ((i+1)*e.size) mid=A++(news++(mid++(Z.drop news.length).drop mid.length)):=by
     rw[O0,←bF,e1k,←aS,FN,bF]
    have hnb:w.heap.size≠b1:=ω
    have aDv:b2≠w.heap.size:=ω
    refine(Zf L w b1 l.length E7 i 1 BJ 0 nh ⟨b2,0,none⟩ (A++Z).toArray (eQ (A++Z) (i*e.size) news).toArray (eQ (eQ (A++Z) (i*e.size) news) ((i+1)*e.size) mid).toArray ak0 ω Sx ω (by simp only[maxLen]at ug;omega) (by simp only[Ba]at Mg;omega) Sh (by simp only[maxLen]at ji;omega) (λty=> ?_) (λW hW ty dc=> ?_) (λW hW ty dc sc=> ?_)).mono ?_
    ·have:=dH ty
     rw[show(((l.length+1-i:Nat):Int))=(l.length:Int)+(1:Nat)-(i:Int)from by omega]at this
     exact this
    ·exact run_copy_row (P:=P) (W:=W) L.t24 (λw=>dz L.lay w) (cs:=(A++Z).toArray) (te:=ρ.t 9) (by rw[hW];exact rG w _) (news:=news) (n:=1) CI Kh
      (λj u hj=>by
       have:=hnc j u hj
       rw[Addr.add_lit]at this ⊢
       rw[show W.cell? ⟨b2,0+j,none⟩=w.cell? ⟨b2,0+j,none⟩from World.cell?_of_block (by rw[hW];exact alloc_old w _ ao5)]
       exact this) Sw (by rw[jh,aS,Ur,Kh];omega) ty
    ·exact run_copy_row (P:=P) (W:=W) L.t24 (λw=>dz L.lay w) (cs:=(eQ (A++Z) (i*e.size) news).toArray) (te:=ρ.t 9) (by rw[hW];exact setRow_heap _ _ _ _ _ _ (rG w _)) (news:=mid) (n:=l.length-i) (by simp only[Nat.min_def];split<;>omega) FF
      (λj u hj=>by
       have:=hmc j u hj
       rw[Addr.add_lit]at this ⊢
       rw[show W.cell? ⟨b1,i*e.size+j,none⟩=w.cell? ⟨b1,i*e.size+j,none⟩from World.cell?_of_block (by rw[hW];exact(setRow_other _ _ (fk hnb)).trans (alloc_old w _ av3))]
       exact this) ap1 (by
       rw[jh,O0]
       simp only[aS,ec,Ur,Kh,FF,eJ,rZ]
       omega) ty
    ·rintro e1 w' ⟨rfl,rfl⟩
     refine⟨_,rfl,?_⟩
     have hg':((w.drew.alloc (.cells (A++Z).toArray (ρ.t 9))).setRow w.heap.size (eQ (A++Z) (i*e.size) news).toArray).drew.heap[w.heap.size]? =some (.cells (eQ (A++Z) (i*e.size) news).toArray (ρ.t 9) (0,0)):=setRow_heap _ _ _ _ _ _ (rG w.drew _)
     have:=yW (e:=e) (rb:=w.heap.size) (cap:=nh) (l:=l.take i++(v++l.drop i)) (t:=ρ.t 9) (w:=w) (w':=((w.drew.alloc (.cells (A++Z).toArray (ρ.t 9))).setRow w.heap.size (eQ (A++Z) (i*e.size) news).toArray).drew.setRow w.heap.size (eQ (eQ (A++Z) (i*e.size) news) ((i+1)*e.size) mid).toArray) tc xP
      (λb hb hn=>(setRow_other _ _ ω).trans ((setRow_other _ _ ω).trans (alloc_old w.drew _ hb))) (by rw[setRow_size];show _≤(World.setRow _ _ _).heap.size;rw[setRow_size,pa];exact rY _) (λh=>absurd h (GA _)) rfl rfl rfl (setRow_heap _ _ _ _ _ _ hg') ω (by rw[Zi];exact Sh) ji
      (by
       rw[O1,jh]
       have hmul:(nh-i)*e.size=nh*e.size-i*e.size:=rZ _ _ _
       have hci:i*e.size≤nh*e.size:=kB _ ω
       simp only[aS,ec,Ur,Kh,FF,hZl,hmul,rZ]at hZk ⊢
       omega)
      (by rw[O1];exact Us _)
     rw[Zi]at this
     simpa [m1,fQ,AM.iU]using this
def Zj(ρ:Ren)(fn:Func):Func:={fn with body:=(Body2.n15 ρ).body,ntmps:=8,results:=(Body2.n15 ρ).results,nfree:=0}
theorem Eb(ρ:Ren)(fn:Func):(Zj ρ fn).ntmps=8:=rfl
structure Mh(P:Program)(e:Ty)(ρ:Ren)(f:FuncId)(fn:Func):Prop where
 hf:P.funcs[f]? =some (Zj ρ fn)
 t4:P.underlying (ρ.t 4)=some .bool
 t22:P.underlying (ρ.t 22)=some (.slice (ρ.t 3))
 lay:kX P e (ρ.t 3)
 qT:0<e.size
 mixed:P.follows .mixedOrders=true
set_option maxHeartbeats 4000000 in
set_option maxRecDepth 100000 in
theorem We{e:Ty}{f:FuncId}{fn:Func}(L:Mh P e ρ f fn)(w:World)(n c:Nat):
  Calls P f #[.slice none n c] w λr w2=>r= .returned (.slice none 0 0)∧w2=w:=by
 have u22:=run_underlying L.t22
 have t4:=L.t4;have t22:=L.t22
 have z3:=λw=>dz L.lay w
 have mixed:=L.mixed
 have q22: ∀(w:World) (a:Option Addr) (n c n' c':Nat),(binOp .eql (ρ.t 22) (.slice a n c) (.slice none n' c')).run P w= .ok (.bool a.isNone) w:=λw a n c n' c'=>Lib.run_eql_slice_nil w _ _ a n c n' c' L.t22
 go_enter L.hf,Eb ρ fn
 go_wp2
 go_ret
 exact⟨rfl,rfl⟩
set_option maxHeartbeats 4000000 in
set_option maxRecDepth 100000 in
theorem Hu{e:Ty}{f:FuncId}{fn:Func}(L:Mh P e ρ f fn)(w:World)(a:Addr)(n c:Nat)(v':Value)(w':World)
  (OF: ∀ty,(Builtin.append_ #[ρ.t 22,ρ.t 22] ty #[.slice (some ⟨w.heap.size,0,none⟩) 0 0,.slice (some a) n c]).run P (w.alloc (.cells #[] (ρ.t 3)))= .ok v' w'):
   Calls P f #[.slice (some a) n c] w λr w2=>r= .returned v'∧w2=w':=by
 have u22:=run_underlying L.t22
 have t4:=L.t4;have t22:=L.t22
 have z3:=λw=>dz L.lay w
 have mixed:=L.mixed
 have q22: ∀(w:World) (a:Option Addr) (n c n' c':Nat),(binOp .eql (ρ.t 22) (.slice a n c) (.slice none n' c')).run P w= .ok (.bool a.isNone) w:=λw a n c n' c'=>Lib.run_eql_slice_nil w _ _ a n c n' c' L.t22
 obtain⟨ab,ao,asp⟩:=a
 go_enter L.hf,Eb ρ fn
 go_wp2_with (at_builtin;refine Lib.wpList_append_run _ rfl _ _ _ _ rfl _ _ rfl rfl _ _ (OF _) ?_)
 all_goals (go_ret;exact⟨rfl,rfl⟩)
theorem Zk{w w':World}{M0:Nat→Prop}{e:Ty}(a:Option Addr)(tc: ∀b,M0 b→b<w.heap.size)(hfr: ∀b,b<w.heap.size→w'.heap[b]? =w.heap[b]?)(qR:w.heap.size≤w'.heap.size)
  (hos:w'.os=w.os) (htp:w'.tape=w.tape) (Sm:w'.output=w.output):
  ∃us M',Value.slice a 0 0=xL us∧RR w' M' [.own e] ([]:List e.den) us []∧Left w M0 [] w' M'∧(bK [.own e] us []).Nodup∧ ∀b∈bK [.own e] us [],¬M0 b:=by
 have xD:bK [.own e] [Value.slice a 0 0] []=[]:=by
  cases a<;>simp[bK,dA,AM.iU,fD]
 refine⟨[.slice a 0 0],M0,rfl,?_,?_,?_,?_⟩
 ·simp only[RR]
  refine .inr ⟨_,[],rfl,rfl,rfl,?_,rfl,trivial⟩
  simp only[A1,ER,q4]
  exact .inl ⟨trivial,a,rfl⟩
 ·exact⟨λb h=>h,λb h=>n6 (tc b h) qR,λb hb h=> .inl h,λb hb _=>hfr b hb,qR,hos,htp,Sm⟩
 ·rw[xD];simp
 ·rw[xD];simp
theorem rH{e:Ty}{f:FuncId}{fn:Func}(L:Mh P e ρ f fn)(BE:(fn.name== "runtime.NumGoroutine")=false)(Zg:(Body2.n15 ρ).body.isNone=false)(N:Nat):jw P f (xA e N):=by
 refine⟨(λh=>by cases h),rfl,λM0 w vs x y tc hA wV xP hy=> ?_⟩
 have Ul:jv N x=some y:=hy
 clear hy
 obtain⟨v0,YG,rfl,h0,h2⟩:=hA
 have h2:YG=[]:=h2
 subst h2
 replace h0:V w (λb=>M0 b∨b∈([]:List Nat)) (.slice e) v0 x:=h0
 unfold jv at Ul
 split at Ul
 case isFalse=>cases Ul
 rename_i Mg
 cases Ul
 have hbn:(Zj ρ fn).body.isNone=false:=Zg
 have hh:eF (xA e N).args [v0]=[]:=rfl
 rw[hh]at xP ⊢
 refine uj L.hf BE hbn ?_
 obtain⟨i,hi,qR,hz,hby⟩:=L.lay.base
 have hS:=Src.ab5 h0
 by_cases hx:x=[]
 ·obtain⟨a,cp,hv,_⟩:=hS
  subst hv
  rw[hx]
  cases a with
  |none=>
   refine(We L w _ cp).mono ?_
   rintro e1 w' ⟨rfl,rfl⟩
   exact⟨_,rfl,Zk none tc (λ_ _=>rfl) (aH _) rfl rfl rfl⟩
  |some a=>
   refine(Hu L w a _ cp _ _ (λty=>tE (P:=P) (w:=w.alloc (.cells #[] (ρ.t 3))) L.t22 hi (some ⟨w.heap.size,0,none⟩) 0 0 (aH _) (some a) cp)).mono ?_
   rintro e1 w' ⟨rfl,rfl⟩
   exact⟨_,rfl,Zk _ tc (λb hb=>alloc_old w _ hb) (by rw[pa];exact rY _) rfl rfl rfl⟩
 ·obtain⟨b,off,cp,news,hv,hl,pH,kD,h1⟩:=hS.cells hx
  have Oy:0<x.length:=pT.2 hx
  subst hv
  obtain⟨nh,rest,dH,Sh,ji,Ki⟩:=Hs (P:=P) (w:=w.alloc (.cells #[] (ρ.t 3))) L.t22 L.lay (n:=0) (m:=x.length) (cap:=0) (cp:=cp) (olds:=[]) (news:=news) (base:=some ⟨w.heap.size,0,none⟩) (a':=⟨b,off,none⟩) (λh=>by cases h) (by simp) (λ_ _ j u hj=>by simp at hj) hl
   (λj u hj=>by rw[Addr.add_lit];exact Lib.cell?_alloc_some _ (pH j u hj)) ω ω
  refine(Hu L w ⟨b,off,none⟩ _ cp _ _ dH).mono ?_
  rintro e1 w' ⟨rfl,rfl⟩
  refine⟨_,rfl,?_⟩
  simp only[fX]at Sh Ki ⊢
  have NA:(w.alloc (.cells #[] (ρ.t 3))).heap.size=w.heap.size+1:=pa w _
  exact yW (e:=e) (rb:=(w.alloc (.cells #[] (ρ.t 3))).heap.size) (cap:=nh) (l:=x) (t:=ρ.t 3) (w:=w) (w':=(w.alloc (.cells #[] (ρ.t 3))).drew.alloc (.cells ([]++news++rest).toArray (ρ.t 3))) tc xP
   (λb hb _=>(alloc_old (w.alloc (.cells #[] (ρ.t 3))).drew _ (by show b<(w.alloc (.cells #[] (ρ.t 3))).heap.size;omega)).trans (alloc_old w _ hb))
   (by rw[pa];show w.heap.size≤(w.alloc (.cells #[] (ρ.t 3))).heap.size+1;omega) (λh=>ω) rfl rfl rfl (rG (w.alloc (.cells #[] (ρ.t 3))).drew _) ω Sh ji
   (by simp only[cD,jh,aS,hl,Ki,←eJ];congr 1;omega) (by simpa using pI.more (cs':=rest) (show pI w (λb=>M0 b∨b∈([]:List Nat)) e news x from kD) (by rw[hl];exact aH _))
end VM
end
