/- A part of the proof of WindBears of layer 21: a machine that reads a function of the program as an equation between values. -/
import Derived.Test.YtecmobijochjkaaGreatVm6
import Derived.KernelRfl
import Derived.Test.YtecmobijochjkaaGreatVm0
import Derived.Laws.Externs
import Derived.Shelf.Spec.SlicesInsertGrow
set_option linter.all false
noncomputable section
section
namespace VM
open Go
@[reducible] def CM.arr:CM→Type→Type
 | .v τ,T| .obj τ,T| .io τ,T| .fn _ τ,T=>τ.den→T
 | .own e,T=>List e.den→T
 | .gk τ _ e,T=>τ.den→List e.den→T
 | .same _,T=>T
@[reducible] def Vi:List (Nat×CM)→Type→Type
 |[],R=>R
 |q::r,R=>q.2.arr (Vi r R)
def CM.lam{T:Type}(s:Nat)(σ:St):(m:CM)→(St→T)→m.arr T
 | .v τ,f=>λx=>f (σ.put s (.val τ x))
 | .own e,f=>λx=>f ((σ.put s (.ref (16*s+14))).jR (16*s+14) (some (.own e x)))
 | .obj τ,f=>λx=>f ((σ.put s (.jr (16*s+14) [])).jR (16*s+14) (some (.obj τ x)))
 | .gk τ q e,f=>λx l=>f (((σ.put s (.jr (16*s+14) [])).jR (16*s+13) (some (.own e l))).jR (16*s+14) (some (.gk τ x q (16*s+13))))
 | .io τ,f=>λx=>f ((σ.put s (.jr (16*s+15) [])).jR (16*s+15) (some (.obj τ x)))
 | .fn g τ,f=>λx=>f (σ.put s (.Mf g (pP τ x)))
 | .same s',f=>f (σ.put s (σ.T s'))
def amj{R:Type}(κ:St→R):(L:List (Nat×CM))→St→Vi L R
 |[],σ=>κ σ
 |q::r,σ=>q.2.lam q.1 σ (amj κ r)
@[reducible] def y4:List AM→Type→Type
 |[],R=>R
 |m::r,R=>m.den→y4 r R
def Kh{R:Type}:(ms:List AM)→y4 ms R→HP ms→R
 |[],g,_=>g
 |[_],g,x=>g x
 |_::n::ms,g,x=>Kh (n::ms) (g x.1) x.2
def TC{R:Type}:(ms:List AM)→(HP ms→R)→y4 ms R
 |[],f=>f ()
 |[_],f=>f
 |_::n::ms,f=>λx=>TC (n::ms) λy=>f (x,y)
theorem Ki{R:Type}: ∀(ms:List AM) (f:HP ms→R) (x:HP ms),Kh ms (TC ms f) x=f x
 |[],_,()=>rfl
 |[_],_,_=>rfl
 |_::n::ms,f,x=>Ki (n::ms) (λy=>f (x.1,y)) x.2
structure Pc where
 k:Nat
 c:List (Nat×CM)
 path:List Nat
 ks:List Nat
def Wp:List Pc→Nat→Pc
 |[],_=>⟨0,[],[],[]⟩
 |p::r,k=>cond (Nat.beq k p.k) p (Wp r k)
def M5:List Pc→Nat→Option (List (Nat×CM))
 |[],_=>none
 |p::r,k=>cond (Nat.beq k p.k) (some p.c) (M5 r k)
def BC:List (Nat×me)→Nat→List me
 |[],_=>[]
 |q::r,i=>cond (Nat.beq i q.1) (q.2::BC r i) (BC r i)
def Fo:List AM→Nat→List Nat
 |[],_=>[]
 | .io _::r,i=>i::Fo r (i+1)
 | .lo _::r,i=>i::Fo r (i+1)
 |_::r,i=>Fo r (i+1)
structure Fx where
 nt:Nat
 tab:List (Nat×Ty)
 G:List (Nat×me)
 N:Nat
 fn:Func
 args:List AM
 res:List AM
 pcs:List Pc
 lk:Option (Ty×List Step×Ty×List Nat):=none
namespace Fx
variable(X:Fx)
abbrev R:=Option (HP X.res)
def E:Env:={nt:=X.nt,ty:=λi=>M4 i X.tab,Γ:=BC X.G,N:=X.N,wi:=λr=>M5 X.pcs (2*r+1),yd:=λr=>M5 X.pcs (2*r),io:=Fo X.args 0,lk:=X.lk}
@[reducible] def c(i:Nat):List (Nat×CM):=(Wp X.pcs i).c
def path(i:Nat):List Nat:=(Wp X.pcs i).path
def odd(i:Nat):Bool:=Nat.beq (i%2) 1
def cut(ρ:Nat→St→X.R)(l:Nat):St→X.R:=fun σ=>wo (some (X.c l)) σ (ρ l)
def ks(ρ:Nat→St→X.R)(i:Nat):List (St→X.R):=(Wp X.pcs i).ks.map (X.cut ρ)
def lp(ρ:Nat→St→X.R)(i n:Nat):St→X.R:=lpF X.E X.fn X.args X.res (X.c i) (X.path i) (X.ks ρ i) n
def cg(ρ:Nat→St→X.R)(i:Nat):St→X.R:=cond (odd i) (X.lp ρ i X.N) (atF X.E X.fn X.args X.res (X.path i) (X.ks ρ i))
def own(ρ:Nat→St→X.R)(i:Nat):List (St→X.R):=X.ks ρ i++cond (odd i) [X.cut ρ i] []
def PX(K ρ:Nat→St→X.R)(i:Nat):St→X.R:=atQ X.E X.fn X.args X.res (λr=>K (2*r)) (λr=>K (2*r+1)) (X.path i) (X.own ρ i)
def tl(K ρ:Nat→St→X.R)(i:Nat):List ((St→X.R)×(St→X.R)):=wM X.E (λr=>K (2*r)) (λr=>K (2*r+1)) (ZT X.E X.fn X.args X.res (X.path i) (X.own ρ i))
@[reducible] def cu(i:Nat)(κ:St→X.R):Vi (X.c i) X.R:=amj κ (X.c i) S0
@[reducible] def bd(K ρ:Nat→St→X.R)(i:Nat):Vi (X.c i) X.R:=X.cu i (X.PX K ρ i)
@[reducible] def kc(ρ:Nat→St→X.R)(i:Nat):Vi (X.c i) X.R:=X.cu i (ρ i)
def CH:Nat→St→X.R:=λ_ _=>none
def top(K:Nat→St→X.R):y4 X.args X.R:=TC X.args λx=>atQ X.E X.fn X.args X.res (λr=>K (2*r)) (λr=>K (2*r+1)) [] [] (entry X.args x 0 S0)
def tlT(K:Nat→St→X.R):List ((St→X.R)×(St→X.R)):=wM X.E (λr=>K (2*r)) (λr=>K (2*r+1)) (ZT X.E X.fn X.args X.res [] [])
def S(q:Bool)(g:y4 X.args X.R):me:={args:=X.args,res:=X.res,quiet:=q,run:=Kh X.args g}
variable{X}
theorem ZU(f:Nat→St→X.R): ∀rX:List Nat,TA (rX.map λt=>(f t,f t))
 |[]=>trivial
 |_::r=>⟨rfl,ZU f r⟩
theorem okJ{i:Nat}(rX:List Nat)(hi:odd i=false)(hr: ∀K ρ,X.tl K ρ i=rX.map λt=>(K t,X.cg ρ t)){g:(Nat→St→X.R)→(Nat→St→X.R)→Vi (X.c i) X.R}(h: ∀K ρ,X.bd K ρ i=g K ρ)(ρ:Nat→St→X.R):X.kc (X.cg ρ) i=g (X.cg ρ) ρ:=by
 rw[←h]
 have:X.cg ρ i=X.PX (X.cg ρ) ρ i:=by
  funext σ
  have h1:=hr (X.cg ρ) ρ
  unfold tl own at h1
  rw[hi,av,ck]at h1
  unfold PX own
  rw[hi,av,ck]
  rw[←at_eq X.E X.fn X.args X.res h1 (ZU (X.cg ρ) rX) σ]
  unfold cg;rw[hi];rfl
 unfold kc bd
 rw[this]
def okb(X:Fx)(i:Nat):Bool:=odd i&&(Wp X.pcs i).ks.all λl=> !(Nat.beq l i)
theorem okL{i:Nat}(rX:List Nat)(hi:okb X i=true)(hr: ∀K ρ,X.tl K ρ i=rX.map λt=>(K t,X.cg ρ t)){g:(Nat→St→X.R)→(Nat→St→X.R)→Vi (X.c i) X.R}(h: ∀K ρ,X.bd K ρ i=g K ρ)(ρ:Nat→St→X.R)
  (G:Nat→Vi (X.c i) X.R) (h0:X.cu i (λ_=>none)=G 0) (hs: ∀n ρ',X.kc ρ' i=G n→(∀l,Nat.beq l i=false→X.kc ρ' l=X.kc ρ l)→g (X.cg ρ') ρ'=G (n+1)):X.kc (X.cg ρ) i=G X.N:=by
 unfold okb at hi
 rw[bQ]at hi
 obtain⟨hi,hk⟩:=hi
 have key: ∀n,X.cu i (X.lp ρ i n)=G n:=by
  intro n
  induction n with
  |zero=>exact h0
  |succ n ih=>
   let ρ':Nat→St→X.R:=λl=>cond (Nat.beq l i) (X.lp ρ i n) (ρ l)
   have e1:ρ' i=X.lp ρ i n:=by show cond (Nat.beq i i) _ _=_;rw[tz];rfl
   have e2: ∀l,Nat.beq l i=false→ρ' l=ρ l:=λl hl=>by show cond (Nat.beq l i) _ _=_;rw[hl];rfl
   rw[←hs n ρ' (by unfold kc;rw[e1];exact ih) (λl hl=>by unfold kc;rw[e2 l hl]),←h]
   have e3:X.ks ρ' i=X.ks ρ i:=by
    unfold ks
    refine qG λl hl=> ?_
    have:=qK.1 hk l hl
    unfold cut
    rw[e2 l (by simpa using this)]
   have:X.lp ρ i (n+1)=X.PX (X.cg ρ') ρ' i:=by
    funext σ
    have h1:=hr (X.cg ρ') ρ'
    unfold tl own at h1
    rw[hi,aq]at h1
    unfold PX own
    rw[hi,aq]
    rw[←at_eq X.E X.fn X.args X.res h1 (ZU (X.cg ρ') rX) σ]
    unfold lp
    rw[Wl,e3]
    unfold cut
    rw[e1];rfl
   unfold bd
   rw[this]
 have:X.cg ρ i=X.lp ρ i X.N:=by unfold cg;rw[hi];rfl
 unfold kc
 rw[this];exact key _
def Kj(P:Program):List (Nat×me)→Prop
 |[]=>True
 |q::r=>iM P q.1 q.2∧Kj P r
structure _root_.VM.Kn(P:Program) where
 f:Nat
 S:me
 ok:iM P f S
def _root_.VM.Kn.p{P:Program}(k:Kn P):Nat×me:=(k.f,k.S)
def _root_.VM.Kn.l{P:Program}:List (Kn P)→List (Nat×me)
 |[]=>[]
 |k::r=>k.p::Kn.l r
theorem _root_.VM.Kn.all{P:Program}: ∀l:List (Kn P),Kj P (Kn.l l)
 |[]=>trivial
 |k::r=>⟨k.ok,Kn.all r⟩
theorem BD{P:Program}: ∀{l:List (Nat×me)},Kj P l→ ∀f S,S∈BC l f→iM P f S
 |[],_,f,S,h=>by simp[BC]at h
 |q::r,ha,f,S,h=>by
  unfold BC at h
  cases hb:Nat.beq f q.1<;>rw[hb]at h
  ·exact BD ha.2 f S h
  ·rcases aX.1 h with rfl|h
   ·rw[fW hb];exact ha.1
   ·exact BD ha.2 f S h
theorem Fp: ∀{l:List Pc},(l.all λp=>kd p.c)=true→ ∀i L,M5 l i=some L→kd L=true
 |q::r,ha,i,L,h=>by
  rw[EF,bQ]at ha
  unfold M5 at h
  cases hb:Nat.beq i q.k<;>rw[hb]at h
  ·exact Fp ha.2 i L h
  ·cases h;exact ha.1
def chk(X:Fx)(q:Bool):Bool:=(X.pcs.all λp=>kd p.c)&&((!(X.fn.name== "runtime.NumGoroutine")&&Nat.beq X.nt X.fn.ntmps)&&(X.fn.body.isSome&&(Nat.ble X.args.length X.nt&&((!q||X.res.all AM.flat)&&decide (ni X.args=ni X.res)))))
theorem M6: ∀{ms:List AM} {k i:Nat} {m:AM},ms[i]? =some m→m.iL=true→k+i∈Fo ms k
 |[],_,_,_,h,_=>by simp at h
 |m::ms,k,0,m',h,vq=>by
  simp only[L0,iC]at h
  subst h
  cases m<;>simp[AM.iL]at vq<;>simp[Fo]
 |m::ms,k,i+1,m',h,vq=>by
  have:=M6 (ms:=ms) (k:=k+1) (i:=i) (by simpa using h) vq
  rw[show k+(i+1)=k+1+i from by omega]
  cases m<;>simp only[Fo]<;>first|exact aY _ this|exact this
theorem RT: ∀{ms:List AM} {k i:Nat},i∈Fo ms k→i<k+ms.length
 |[],_,_,h=>by simp[Fo]at h
 |m::ms,k,i,h=>by
  have hr:i∈Fo ms (k+1)→i<k+(m::ms).length:=λh=>by have:=RT h;simp only[aR];omega
  cases m<;>simp only[Fo]at h<;>first
   |exact hr h
   |(rcases aX.1 h with rfl|h<;>first|exact hr h|(simp only[aR];omega))
variable(X)in
theorem RU{P:Program}(ht:Fm P X.tab)(hG:Kj P X.G)(hc:(X.pcs.all λp=>kd p.c)=true):tK P X.E:=by
 have lz: ∀t τ,M4 t X.tab=some τ→tM P τ (.inl t)=true∧ZR P τ t=true:=λt τ h=>by
  have:=qK.1 ht.ok _ (Iy h)
  simpa using this
 exact{ty:=λt τ h=>gY (lz t τ h).1,eq:=λt τ h hc ha=>ZS (gY (lz t τ h).1) (lz t τ h).2 hc ha,alW:=BD hG,mixed:=ht.mixed,kd:=λi L h=>Fp hc _ L h,VV:=λi L h=>Fp hc _ L h}
theorem mkS{P:Program}(ht:Fm P X.tab){f:FuncId}(hf:P.funcs[f]? =some X.fn){q:Bool}(hc:chk X q=true)(hG:Kj P X.G){g:y4 X.args X.R}(h: ∀x,PN X.E X.fn X.args X.res x=Kh X.args g x):iM P f (X.S q g):=by
 unfold chk at hc
 simp only[bQ]at hc
 obtain⟨h0,⟨h1,h2⟩,h3,h4,h5,h6⟩:=hc
 refine Wd (RU X ht hG h0) hf (by simpa using h1) (fW h2) (X.S q g) (λi m hm vq=> ?_) (λi hi=> ?_) ?_ (λhq=> ?_) (bz h6) h
 ·have:=M6 (k:=0) hm vq
  rwa [gq]at this
 ·have:=RT (k:=0) hi
  rwa [gq]at this
 ·have:=Ep h4
  rwa [fW h2]at this
 ·have hq:q=true:=hq
  subst hq
  show X.res.all AM.flat=true
  simpa using h5
theorem ahG{g:y4 X.args X.R}(h:TC X.args (PN X.E X.fn X.args X.res)=g)(x:HP X.args):PN X.E X.fn X.args X.res x=Kh X.args g x:=by rw[←h,Ki]
variable(X)in
theorem ok0{P:Program}(ht:Fm P X.tab){f:FuncId}(hf:P.funcs[f]? =some X.fn){q:Bool}(hc:chk X q=true)(hG:Kj P X.G){g:y4 X.args X.R}(h:TC X.args (PN X.E X.fn X.args X.res)=g):iM P f (X.S q g):=
 mkS ht hf hc hG (ahG h)
theorem amk(hb:X.fn.body.isSome=true)(rX:List Nat)(hr: ∀K,X.tlT K=rX.map λt=>(K t,X.cg X.CH t))
  {g:(Nat→St→X.R)→y4 X.args X.R} (h: ∀K,X.top K=g K) {f:y4 X.args X.R} (hf:g (X.cg X.CH)=f) (x:HP X.args):PN X.E X.fn X.args X.res x=Kh X.args f x:=by
 rw[←hf,←h,ahE hb]
 unfold top
 rw[Ki]
 exact at_eq X.E X.fn X.args X.res (hr (X.cg X.CH)) (ZU (X.cg X.CH) rX) _
variable(X)in
theorem ok1{P:Program}(ht:Fm P X.tab){f:FuncId}(hf:P.funcs[f]? =some X.fn){q:Bool}(hc:chk X q=true)(hG:Kj P X.G)(rX:List Nat)(hr: ∀K,X.tlT K=rX.map λt=>(K t,X.cg X.CH t))
  {g:(Nat→St→X.R)→y4 X.args X.R} (h: ∀K,X.top K=g K) {f':y4 X.args X.R} (Bo:g (X.cg X.CH)=f'):iM P f (X.S q f'):=by
 have hb:X.fn.body.isSome=true:=by
  unfold chk at hc
  simp only[bQ]at hc
  exact hc.2.2.1
 exact mkS ht hf hc hG (amk hb rX hr h Bo)
theorem uJ{i:Nat}(rX:List Nat){g:(Nat→St→X.R)→(Nat→St→X.R)→Vi (X.c i) X.R}(h: ∀K ρ,X.bd K ρ i=g K ρ)(ρ:Nat→St→X.R){f:Vi (X.c i) X.R}(hf:g (X.cg ρ) ρ=f:=by rfl)
 (hi:odd i=false:=by kernel_rfl) (hr: ∀K ρ,X.tl K ρ i=rX.map λt=>(K t,X.cg ρ t):=by intro K ρ;kernel_rfl):X.kc (X.cg ρ) i=f:=(okJ rX hi hr h ρ).trans hf
theorem uL{i:Nat}(rX:List Nat){g:(Nat→St→X.R)→(Nat→St→X.R)→Vi (X.c i) X.R}(h: ∀K ρ,X.bd K ρ i=g K ρ)(ρ:Nat→St→X.R)
 (G:Nat→Vi (X.c i) X.R) (hs: ∀n ρ',X.kc ρ' i=G n→(∀l,Nat.beq l i=false→X.kc ρ' l=X.kc ρ l)→g (X.cg ρ') ρ'=G (n+1)) (h0:X.cu i (λ_=>none)=G 0:=by rfl)
 (hi:okb X i=true:=by kernel_rfl) (hr: ∀K ρ,X.tl K ρ i=rX.map λt=>(K t,X.cg ρ t):=by intro K ρ;kernel_rfl):X.kc (X.cg ρ) i=G X.N:=okL rX hi hr h ρ G h0 hs
variable(X)in
theorem u0{P:Program}(ht:Fm P X.tab){f:FuncId}(hf:P.funcs[f]? =some X.fn){q:Bool}{g:y4 X.args X.R}(hG:Kj P X.G:=by first|exact trivial|exact Kn.all _)(hc:chk X q=true:=by kernel_rfl)(h:TC X.args (PN X.E X.fn X.args X.res)=g:=by kernel_rfl):iM P f (X.S q g):=ok0 X ht hf hc hG h
variable(X)in
theorem u1{P:Program}(ht:Fm P X.tab){f:FuncId}(hf:P.funcs[f]? =some X.fn)(rX:List Nat)
 {g:(Nat→St→X.R)→y4 X.args X.R} (h: ∀K,X.top K=g K) {q:Bool} {f':y4 X.args X.R} (Bo:g (X.cg X.CH)=f':=by rfl) (hG:Kj P X.G:=by first|exact trivial|exact Kn.all _) (hc:chk X q=true:=by kernel_rfl) (hr: ∀K,X.tlT K=rX.map λt=>(K t,X.cg X.CH t):=by intro K;kernel_rfl):iM P f (X.S q f'):=ok1 X ht hf hc hG rX hr h Bo
end Fx
end VM
end
section
namespace VM
open Go
variable{P:Program}
theorem Left.same(w:World)(M0:Nat→Prop)(h: ∀b,M0 b→b<w.heap.size):Left w M0 [] w M0:=
 ⟨λ_ h=>h,h,λ_ _ h=> .inl h,λ_ _ _=>rfl,aG _,rfl,rfl,rfl⟩
theorem aml{w:World}{M:Nat→Prop}{a b c:IntKind}{x:HP [.v (.int a),.v (.int b),.v (.int c)]}{vs:List Value}(h:jJ w M [.v (.int a),.v (.int b),.v (.int c)] x vs):vs=[.int a x.1,.int b x.2.1,.int c x.2.2]:=by
 simp only[jJ,A1,V,Ty.isAgg,jc,eU,Rd,fi,eT]at h
 obtain⟨v,vs,rfl,rfl,v,vs,rfl,rfl,v,vs,rfl,rfl,rfl⟩:=h
 rfl
theorem rr2{w:World}{M:Nat→Prop}{a b:IntKind}(x y:Int):RR w M [.v (.int a),.v (.int b)] (x,y) [.int a x,.int b y] []:=by
 simp only[RR]
 refine .inr ⟨_,_,rfl,rfl,rfl,?_,.inr ⟨_,_,rfl,rfl,rfl,?_,rfl,trivial⟩⟩<;>simp[A1,V,Ty.isAgg,Rd,tg,yj]
theorem RV{f:FuncId}(run:Int×Int×Int→Option (Int×Int))
  (h: ∀(w:World) (a b c u v:Int),run (a,b,c)=some (u,v)→(callFunc f #[.int .u64 a,.int .u64 b,.int .u64 c]).run P w= .ok (.value (.tuple #[.int .u64 u,.int .u64 v])) w):
  iM P f {args:=[.v (.int .u64),.v (.int .u64),.v (.int .u64)],res:=[.v (.int .u64),.v (.int .u64)],quiet:=true,run}:=by
 refine⟨λ_=>rfl,rfl,λM0 w vs x y rW hA _ _ hy=> ?_⟩
 have Zp:=aml hA
 subst Zp
 exact HA (h w x.1 x.2.1 x.2.2 y.1 y.2 hy) ⟨_,M0,rfl,rr2 y.1 y.2,Left.same w M0 rW,List.nodup_nil,λb hb=>by cases hb⟩
theorem BE(nm:String)(a b c:Nat)(h:c≤1)(w:World):(Extern.MathBitsCarry.three nm #[.int .u64 a,.int .u64 b,.int .u64 c]).run P w= .ok (a,b,c) w:=by
 have h5: ¬(1<c):=ω
 have:Extern.MathBitsCarry.three nm #[.int .u64 a,.int .u64 b,.int .u64 c]=(do
  let c:=(←asInt (.int .u64 c)).toNat
  if c>1 then unsupported (.noEntry ("extern/math/bits." ++nm++ ": a carry that is neither 0 nor 1"))
  pure ((←asInt (.int .u64 a)).toNat,(←asInt (.int .u64 b)).toNat,c)):=rfl
 rw[this]
 simp[asInt,asIntOf]
 omega
theorem TD{f:FuncId}{fn:Func}(N:Nat)(hf:P.funcs[f]? =some fn)(Aj:(fn.name== "runtime.NumGoroutine")=false)(hb:fn.body.isNone=true)(hn:Extern.findNext fn=none)
  (he:Extern.find fn=(Extern.MathBitsCarry.rows[0]?).map (·.2)):iM P f (yA.S N):=by
 refine RV (λx=>yA N x.1 x.2.1 x.2.2) λw a b c u v hy=> ?_
 simp only[yA]at hy
 split at hy
 ·rename_i hc
  obtain⟨h1,h2,h3,h4⟩:=hc
  obtain⟨a,rfl⟩:=ur h1
  obtain⟨b,rfl⟩:=ur h2
  obtain⟨c,rfl⟩:=ur h3
  cases hy
  rw[run_callFunc_extern hf Aj hb hn he]
  simp[BE _ a b c ω,Extern.MathBitsCarry.pair,Extern.MathBitsCarry.m64]
 ·cases hy
theorem TE{f:FuncId}{fn:Func}(N:Nat)(hf:P.funcs[f]? =some fn)(Aj:(fn.name== "runtime.NumGoroutine")=false)(hb:fn.body.isNone=true)(hn:Extern.findNext fn=none)
  (he:Extern.find fn=(Extern.MathBitsCarry.rows[1]?).map (·.2)):iM P f (vn.S N):=by
 refine RV (λx=>vn N x.1 x.2.1 x.2.2) λw a b c u v hy=> ?_
 simp only[vn]at hy
 split at hy
 ·rename_i hc
  obtain⟨h1,pC,h2,yF,h3,h4⟩:=hc
  obtain⟨a,rfl⟩:=ur h1
  obtain⟨b,rfl⟩:=ur h2
  obtain⟨c,rfl⟩:=ur h3
  cases hy
  rw[run_callFunc_extern hf Aj hb hn he]
  have e1:((a+18446744073709551616-b-c:Nat):Int)=(a:Int)+18446744073709551616-b-c:=ω
  by_cases h:a<b+c
  ·have h':(a:Int)<(b:Int)+(c:Int):=ω
   simp[BE _ a b c ω,Extern.MathBitsCarry.pair,Extern.MathBitsCarry.m64,e1,h,h']
  ·have h': ¬(a:Int)<(b:Int)+(c:Int):=ω
   simp[BE _ a b c ω,Extern.MathBitsCarry.pair,Extern.MathBitsCarry.m64,e1,h,h']
 ·cases hy
end VM
end
section
namespace VM
open Go Go.Shelf Go.RowKit Go.Lib Go.Proofs
variable{P:Program}{ρ:Ren}
def Wq(ρ:Ren)(fn:Func):Func:={fn with body:=(Body2.n22 ρ).body,ntmps:=95,results:=(Body2.n22 ρ).results,nfree:=0}
theorem wN(ρ:Ren)(fn:Func):(Wq ρ fn).ntmps=95:=rfl
structure TF(P:Program)(e:Ty)(ρ:Ren)(f:FuncId)(fn fo:Func):Prop where
 hf:P.funcs[f]? =some (Wq ρ fn)
 t3:P.underlying (ρ.t 3)=some (.int .i64)
 t4:P.underlying (ρ.t 4)=some .bool
 t24:P.underlying (ρ.t 24)=some (.slice (ρ.t 9))
 lay:kL P e (ρ.t 9)
 pS:0<e.size
 mixed:P.follows .mixedOrders=true
set_option maxHeartbeats 4000000 in
set_option maxRecDepth 100000 in
theorem Kk{e:Ty}{f:FuncId}{fn fo:Func}(L:TF P e ρ f fn fo)(w:World)(base:Option Addr)(n c m vc:Nat)(va:Addr)(v':Value)(w':World)(hm:0<m)(hn:n≤c)
  (MJ: ∀ty,(Builtin.append_ #[ρ.t 24,ρ.t 24] ty #[.slice base n c,.slice (some va) m vc]).run P w= .ok v' w'):
   Calls P f #[.slice base n c,.int .i64 n,.slice (some va) m vc] w λr w2=>r= .returned v'∧w2=w':=by
 have u3:=run_underlying L.t3;have u4:=run_underlying L.t4;have u24:=run_underlying L.t24
 have t3:=L.t3;have t4:=L.t4;have t24:=L.t24
 have z9:=λw=>de L.lay w
 have mixed:=L.mixed
 have Cv: ¬((m:Int)=0):=ω
 go_enter L.hf,wN ρ fn
 cases base with
 |none=>
   go_wp2_with (at_builtin;refine Lib.wpList_append_run _ rfl _ _ _ _ rfl _ _ rfl rfl _ _ (MJ _) ?_)
   all_goals (go_ret;exact⟨rfl,rfl⟩)
 |some a=>
   obtain⟨ab,ao,asp⟩:=a
   go_wp2_with (at_builtin;refine Lib.wpList_append_run _ rfl _ _ _ _ rfl _ _ rfl rfl _ _ (MJ _) ?_)
   all_goals (go_ret;exact⟨rfl,rfl⟩)
theorem run_copy_row{t te e:TypeId}{k:Nat}(ht:P.underlying t=some (.slice e))(hk: ∀w,(Go.sizeOf e).run P w= .ok k w){W:World}{b o amm arE ahH amn n:Nat}{a:Addr}{cs:Array Value}(hg:W.heap[b]? =some (.cells cs te (0,0)))
  {news:List Value} (hnn:Nat.min ahH amm=n) (hl:news.length=n*k) (hn: ∀j u,news[j]? =some u→W.cell? (a.add j)=some u) (h1: ∀u∈news,u.oneCell'=true) (MC:o+news.length≤cs.size) (ty:TypeId):
  (Builtin.copy_ #[t,t] ty #[.slice (some ⟨b,o,none⟩) amm arE,.slice (some a) ahH amn]).run P W= .ok (goInt n) (W.setRow b (fc cs.toList o news).toArray):=by
 have hf:=run_firstCells_some (P:=P) W k n a ahH amn news hl hn
 have Hb:=run_storeCells_at (P:=P) b o te news 0 cs W hg ω h1
 simp only[m5]at Hb
 simp[Builtin.copy_,run_underlying ht,hk,Builtin.lenOf,hnn,hf,Hb,fc]
set_option maxHeartbeats 4000000 in
set_option maxRecDepth 100000 in
theorem TG{e:Ty}{f:FuncId}{fn fo:Func}(L:TF P e ρ f fn fo)(w:World)(b n c i m vc:Nat)(va:Addr)(Kl Wr:Array Value)(hi:i<n)(hm:0<m)(hr:n+m≤c)(arF:c≤9223372036854775807)
  (hov: ∀x lb cb,(callFunc (ρ.f 29) #[.slice (some va) m vc,.slice (some ⟨b,x,none⟩) lb cb]).run P w= .ok (.value (.bool false)) w)
  (ZV: ∀ty dc sc,(Builtin.copy_ #[(ρ.t 24),(ρ.t 24)] ty #[.slice (some ⟨b,(i+m)*e.size,none⟩) (n+m-(i+m)) dc,.slice (some ⟨b,i*e.size,none⟩) (n+m-i) sc]).run P w.drew= .ok (goInt ((n-i:Nat):Int)) (w.drew.setRow b Kl))
  (ZW: ∀W:World,W.heap=(w.setRow b Kl).heap→ ∀ty dc,(Builtin.copy_ #[(ρ.t 24),(ρ.t 24)] ty #[.slice (some ⟨b,i*e.size,none⟩) (n+m-i) dc,.slice (some va) m vc]).run P W= .ok (goInt m) (W.setRow b Wr)):
   Calls P f #[.slice (some ⟨b,0,none⟩) n c,.int .i64 i,.slice (some va) m vc] w λr w2=>r= .returned (.slice (some ⟨b,0,none⟩) (n+m) c)∧w2=(w.drew.setRow b Kl).setRow b Wr:=by
 have u3:=run_underlying L.t3;have u4:=run_underlying L.t4;have u24:=run_underlying L.t24
 have t3:=L.t3;have t4:=L.t4;have t24:=L.t24
 have z9:=λw=>de L.lay w
 have mixed:=L.mixed
 have Cv: ¬((m:Int)=0):=ω
 have Hg: ¬((i:Int)=(n:Int)):=ω
 have hw1:IntKind.i64.wrap ((i:Int)+(m:Int))=(i:Int)+(m:Int):=by rw[IntKind.wrap_i64];omega
 have mA:(0:Int)≤(i:Int)+(m:Int):=ω
 have lW:i≤n:=ω
 have Tu:((i:Int)+(m:Int)).toNat=i+m:=ω
 have ui: ¬(c=i+m):=ω
 have hb3:(i:Int)≤(n:Int)+(m:Int):=ω
 have hb4: ¬(c=i):=ω
 go_enter L.hf,wN ρ fn
 go_wp2_with (simp only[hov])
 go_region_law_o (refine step_copy_runI rfl _ _ (ρ.t 24) (ρ.t 24) rfl _ _ (by simp[Act.eval,Act.put]) (by simp[Act.eval,Act.put]) (ZV _ _ _) ?_)
 have h2:=ZW (w.drew.setRow b Kl) rfl
 go_wp2
 go_ret
 exact⟨rfl,rfl⟩
set_option maxHeartbeats 4000000 in
set_option maxRecDepth 100000 in
theorem Ws{e:Ty}{f:FuncId}{fn fo:Func}(L:TF P e ρ f fn fo)(w:World)(b n c i m vc nb G:Nat)(va:Addr)(TH Kl Wr:Array Value)(hi:i<n)(hm:0<m)(hnc:n≤c)(hr:c<n+m)(arF:c≤9223372036854775807)(h63:n+m≤9223372036854775807)(hG:n+m≤G)(ayP:G≤9223372036854775807)
  (MJ: ∀ty,(Builtin.append_ #[(ρ.t 24),(ρ.t 3)] ty #[.slice (some ⟨b,0,none⟩) i c,.int .i64 ((n:Int)+(m:Int)-(i:Int))]).run P w= .ok (.slice (some ⟨w.heap.size,0,none⟩) (n+m) G) (w.drew.alloc (.cells TH (ρ.t 9))))
  (ZV: ∀W:World,W.heap=(w.alloc (.cells TH (ρ.t 9))).heap→ ∀ty dc,(Builtin.copy_ #[(ρ.t 24),(ρ.t 24)] ty #[.slice (some ⟨w.heap.size,i*e.size,none⟩) (n+m-i) dc,.slice (some va) m vc]).run P W= .ok (goInt m) (W.setRow w.heap.size Kl))
  (ZW: ∀W:World,W.heap=((w.alloc (.cells TH (ρ.t 9))).setRow w.heap.size Kl).heap→ ∀ty dc sc,(Builtin.copy_ #[(ρ.t 24),(ρ.t 24)] ty #[.slice (some ⟨w.heap.size,(i+m)*e.size,none⟩) (n+m-(i+m)) dc,.slice (some ⟨b,i*e.size,none⟩) (n-i) sc]).run P W= .ok (goInt ((n-i:Nat):Int)) (W.setRow w.heap.size Wr)):
   Calls P f #[.slice (some ⟨b,0,none⟩) n c,.int .i64 i,.slice (some va) m vc] w λr w2=>r= .returned (.slice (some ⟨w.heap.size,0,none⟩) (n+m) G)∧w2=((w.drew.alloc (.cells TH (ρ.t 9))).setRow w.heap.size Kl).drew.setRow w.heap.size Wr:=by
 have u3:=run_underlying L.t3;have u4:=run_underlying L.t4;have u24:=run_underlying L.t24
 have t3:=L.t3;have t4:=L.t4;have t24:=L.t24
 have z9:=λw=>de L.lay w
 have mixed:=L.mixed
 have Cv: ¬((m:Int)=0):=ω
 have Hg: ¬((i:Int)=(n:Int)):=ω
 have hz3:(c:Int)<(n:Int)+(m:Int):=ω
 have hw1:IntKind.i64.wrap ((i:Int)+(m:Int))=(i:Int)+(m:Int):=by rw[IntKind.wrap_i64];omega
 have mA:(0:Int)≤(i:Int)+(m:Int):=ω
 have lW:i≤n:=ω
 have Tu:((i:Int)+(m:Int)).toNat=i+m:=ω
 have hGi: ¬(G=i):=ω
 have ayQ: ¬(G=i+m):=ω
 have hci: ¬(c=i):=ω
 have hb3:(i:Int)≤(n:Int):=ω
 have h1:=ZV ((w.alloc (.cells TH (ρ.t 9))).drew) rfl
 have h2:=ZW (((w.alloc (.cells TH (ρ.t 9))).drew.setRow w.heap.size Kl).drew) rfl
 go_enter L.hf,wN ρ fn
 go_wp2_with (first
   |(at_builtin;refine Lib.wpList_append_run _ rfl _ _ _ _ rfl _ _ rfl rfl _ _ (MJ _) ?_)
   |(at_builtin;refine wpList_copy_runI _ rfl _ _ (ρ.t 24) (ρ.t 24) rfl _ _ rfl rfl (ZV _ (by exact rfl) _ _) ?_)
   |(at_builtin;refine wpList_copy_runI _ rfl _ _ (ρ.t 24) (ρ.t 24) rfl _ _ rfl rfl (ZW _ (by exact rfl) _ _ _) ?_))
 go_region_law_o (refine step_copy_runI rfl _ _ (ρ.t 24) (ρ.t 24) rfl _ _ (by simp[Act.eval,Act.put]) (by simp[Act.eval,Act.put]) (h2 _ _ _) ?_)
 go_wp2
 go_ret
 exact⟨rfl,rfl⟩
theorem DZ{α:Type}(A Z news:List α):fc (A++Z) A.length news=A++(news++Z.drop news.length):=by
 unfold fc
 rw[vY rfl,bu,←jI,m2 rfl]
theorem qZ.amp{w:World}{M:Nat→Prop}{e:Ty}{cs:List Value}{l:List e.den}(h:qZ w M e cs l)(i:Nat):qZ w M e (cs.take (i*e.size)) (l.take i):=by
 intro j hj
 rw[cf]at hj
 have:=eB (s:=e.size) (show j<i by omega)
 rw[qL,qM,iE ω,Ex]
 exact h j ω
theorem qZ.amq{w:World}{M:Nat→Prop}{e:Ty}{cs:List Value}{l:List e.den}(h:qZ w M e cs l)(i:Nat):qZ w M e ((cs.drop (i*e.size)).take ((l.length-i)*e.size)) (l.drop i):=by
 intro j hj
 rw[dS]at hj
 have:=eB (s:=e.size) hj
 rw[qL,qM,iE ω,jI,Ew,←eu]
 exact h (i+j) ω
theorem xG{w w':World}{M0:Nat→Prop}{hs:List Nat}{e:Ty}{rb cap:Nat}{row:Array Value}{t:TypeId}{l:List e.den}(rW: ∀b,M0 b→b<w.heap.size)(wK: ∀b∈hs,¬M0 b)
  (VT: ∀b,b<w.heap.size→b∉hs→w'.heap[b]? =w.heap[b]?) (tf:w.heap.size≤w'.heap.size) (hrb:rb<w.heap.size→rb∈hs) (hos:w'.os=w.os) (htp:w'.tape=w.tape) (Qb:w'.output=w.output)
  (Qc:w'.heap[rb]? =some (.cells row t (0,0))) (h0:0<cap) (hl:l.length≤cap) (hm:cap≤maxLen) (hrs:row.size=cap*e.size) (kX:qZ w (λb=>M0 b∨b∈hs) e row.toList l):
  ∃us M',Value.slice (some ⟨rb,0,none⟩) l.length cap=wF us∧RR w' M' [.own e] l us []∧Left w M0 hs w' M'∧(bF [.own e] us []).Nodup∧ ∀b∈bF [.own e] us [],¬M0 b:=by
 have Ig:rb<w'.heap.size:=(kH.1 Qc).1
 have hk:fa w (λb=>M0 b∨b∈hs) w' (λb=>M0 b∨b=rb):=⟨tf,λb hb hn=>VT b hb (λh=>hn (.inr h)),λb hb h=>h.elim .inl (λe=> .inr (e▸hrb (e▸hb)))⟩
 have wv:bF [.own e] [Value.slice (some ⟨rb,0,none⟩) l.length cap] []=[rb]:=by
  have:cap≠0:=ω
  simp[bF,da,AM.iL,fM,this]
 refine⟨[.slice (some ⟨rb,0,none⟩) l.length cap],λb=>M0 b∨b=rb,rfl,?_,?_,?_,?_⟩
 ·simp only[RR]
  refine .inr ⟨_,[],rfl,rfl,rfl,?_,rfl,trivial⟩
  simp only[A1,ER,tg]
  exact .inr ⟨rb,row,t,cap,rfl,Qc,.inr rfl,h0,hl,hm,hrs,kX.cc hk⟩
 ·exact⟨λb h=> .inl h,λb h=>h.elim (λh=>mY (rW b h) tf) (λh=>h▸Ig),λb hb h=>h.elim .inl (λe=> .inr (e▸hrb (e▸hb))),VT,tf,hos,htp,Qb⟩
 ·rw[wv];simp
 ·rw[wv]
  intro b hb h
  rw[bV]at hb
  subst hb
  exact wK b (hrb (rW b h)) h
theorem setRow_other(w:World){b c:Nat}(r:Array Value)(h:c≠b):(w.setRow b r).heap[c]? =w.heap[c]? :=by
 unfold World.setRow
 rw[Array.getElem?_modify,ah (λe=>h e.symm)]
theorem setRow_size(w:World)(b:Nat)(r:Array Value):(w.setRow b r).heap.size=w.heap.size:=by
 unfold World.setRow;simp
theorem alloc_old(w:World)(o:Obj){c:Nat}(h:c<w.heap.size):(w.alloc o).heap[c]? =w.heap[c]? :=by
 show(w.heap.push o)[c]? =_
 rw[Array.getElem?_push,ah ω]
theorem qu(w:World)(o:Obj):(w.alloc o).heap[w.heap.size]? =some o:=by
 show(w.heap.push o)[w.heap.size]? =_
 simp
theorem oh(w:World)(o:Obj):(w.alloc o).heap.size=w.heap.size+1:=by
 show(w.heap.push o).size=_
 simp
theorem uK{w:World}{b:Nat}{cs:Array Value}{t:TypeId}{f:Nat×Nat}(h:w.heap[b]? =some (.cells cs t f))(o n:Nat): ∀j u,((cs.toList.drop o).take n)[j]? =some u→w.cell? ((⟨b,o,none⟩:Addr).add j)=some u:=by
 intro j u hj
 rw[Addr.add_lit]
 rw[lR]at hj
 split at hj
 ·rw[lS,gV]at hj
  simp only[World.cell?,h]
  simpa using hj
 ·cases hj
theorem RW{w:World}{M:Nat→Prop}{v:Value}{e:Ty}{l:List e.den}(h:ER w M v (.own e l)):(l=[]∧ ∃a,v= .slice a 0 0)∨
 ∃b cs t cap,v= .slice (some ⟨b,0,none⟩) l.length cap∧w.heap[b]? =some (.cells cs t (0,0))∧M b∧0<cap∧l.length≤cap∧cap≤maxLen∧cs.size=cap*e.size∧qZ w M e cs.toList l:=h
end VM
end
section
namespace VM
open Go Go.Shelf Go.RowKit Go.Lib Go.Proofs
variable{P:Program}{ρ:Ren}
theorem Fs{w:World}{t e':TypeId}{e:Ty}(hu:P.underlying t=some (.slice e'))(hle:kL P e e'){n m cap cp:Nat}{olds news:List Value}{base:Option Addr}{a':Addr}(VN:base=none→n=0∧cap=0)
  (yi:olds.length=n*e.size) (ho: ∀b,base=some b→ ∀j u,olds[j]? =some u→w.cell? (b.add j)=some u) (Y2:news.length=m*e.size) (hn: ∀j u,news[j]? =some u→w.cell? (a'.add j)=some u)
  (hg:cap<n+m) (hs:n+m<zQ):
  ∃nh rest,(∀ty,(Builtin.append_ #[t,t] ty #[.slice base n cap,.slice (some a') m cp]).run P w= .ok (.slice (some ⟨w.heap.size,0,none⟩) (n+m) nh) (w.drew.alloc (.cells (olds++news++rest).toArray e')))∧
   n+m≤nh∧nh≤maxLen∧rest.length=(nh-(n+m))*e.size:=by
 obtain⟨i,hi,tf,hz,hby⟩:=hle.base
 have hzs:(cM e e.dj).cells.size=e.size:=by rw[←bI,gW,oM]
 have h63:n+m≤maxLen:=by simp only[zQ,maxLen]at hs ⊢;omega
 have MC:(n+m)*i.bytes≤140737488355328:=by
  have:(n+m)*i.bytes≤68719476736*2048:=wb (by simp only[zQ]at hs;omega) hby
  omega
 refine⟨grownCap w (n+m) cap e',(Builtin.zeroCells (cM e e.dj).cells (grownCap w (n+m) cap e'-(n+m))).toList,λty=> ?_,grownCap_ge _ _ _ _,grownCap_le_maxLen _ _ _ _ h63,?_⟩
 ·cases base with
  |none=>
   obtain⟨rfl,rfl⟩:=VN rfl
   have ho0:olds=[]:=uk (by rw[yi];simp)
   subst ho0
   have:=run_append_nil (P:=P) w t ty e' i _ hu hi hz a' m cp news (by rw[Y2,tf]) hn (by simpa using hg) (by simp only[zQ]at hs;omega) (by simp at MC;omega)
   simp only[gq,cL]
   rw[this]
   congr 2
   apply fj (λz=>Obj.cells z e' (0,0))
   apply js;simp
  |some b=>
   have:=run_append_grow (P:=P) w t ty e' i _ hu hi hz b n cap olds (by rw[yi,tf]) (ho b rfl) a' m cp news (by rw[Y2,tf]) hn hg (by simp only[zQ]at hs;omega) (growslice_fits hg MC)
   rw[this]
   congr 2
   apply fj (λz=>Obj.cells z e' (0,0))
   apply js;simp
 ·rw[bI,size_zeroCells,hzs]
theorem TI{w:World}{t tn e':TypeId}{e:Ty}(hu:P.underlying t=some (.slice e'))(Tu:P.underlying tn=some (.int .i64))(hle:kL P e e')(ahB:0<e.size){n k cap:Nat}{olds:List Value}{b:Addr}
  (yi:olds.length=n*e.size) (ho: ∀j u,olds[j]? =some u→w.cell? (b.add j)=some u) (hk:0<k) (hg:cap<n+k) (hs:n+k<zQ):
  ∃nh rest,(∀ty,(Builtin.append_ #[t,tn] ty #[.slice (some b) n cap,.int .i64 k]).run P w= .ok (.slice (some ⟨w.heap.size,0,none⟩) (n+k) nh) (w.drew.alloc (.cells (olds++rest).toArray e')))∧
   n+k≤nh∧nh≤maxLen∧rest.length=(nh-n)*e.size:=by
 obtain⟨i,hi,tf,hz,hby⟩:=hle.base
 have hzs:(cM e e.dj).cells.size=e.size:=by rw[←bI,gW,oM]
 have h63:n+k≤maxLen:=by simp only[zQ,maxLen]at hs ⊢;omega
 have MC:(n+k)*i.bytes≤140737488355328:=by
  have:(n+k)*i.bytes≤68719476736*2048:=wb (by simp only[zQ]at hs;omega) hby
  omega
 have hkb:k*i.bytes≤281474976710656:=by
  have:k*i.bytes≤(n+k)*i.bytes:=lO _ ω
  omega
 have Y6:=grownCap_ge w (n+k) cap e'
 refine⟨grownCap w (n+k) cap e',(Builtin.zeroCells (cM e e.dj).cells k++Builtin.zeroCells (cM e e.dj).cells (grownCap w (n+k) cap e'-(n+k))).toList,λty=> ?_,Y6,grownCap_le_maxLen _ _ _ _ h63,?_⟩
 ·have hold:(Builtin.firstCells i.size n (.slice (some b) n cap)).run P w.drew= .ok olds.toArray w.drew:=run_firstCells_some w.drew i.size n b n cap olds (by rw[yi,tf]) (λj u hj=>ho j u hj)
  have:=Lib.run_append_grow_zeros w t tn ty e' i _ .i64 .i64 hu Tu hi hz (some b) n cap olds hold k hk (by rw[tf];exact ahB) hg (by simp only[zQ]at hs;omega) hkb (growslice_fits hg MC)
  rw[this]
  congr 2
  apply fj (λz=>Obj.cells z e' (0,0))
  apply js;simp
 ·rw[Array.toList_append,aS,bI,bI,size_zeroCells,size_zeroCells,hzs,←eu]
  congr 1;omega
structure OvP(P:Program)(ρ:Ren)(fo:Func):Prop where
 hf:P.funcs[ρ.f 29]? =some fo
 name:(fo.name== "runtime.NumGoroutine")=false
 body:fo.body.isNone=true
 next:Extern.findNext fo=none
 find:Extern.find fo=some (Extern.SlicesOverlaps.overlaps #[ρ.t 24,ρ.t 24] #[ρ.t 4])
theorem Ft{e:Ty}{f:FuncId}{fn fo:Func}(L:TF P e ρ f fn fo)(O:OvP P ρ fo)(Aj:(fn.name== "runtime.NumGoroutine")=false)(Wt:(Body2.n22 ρ).body.isNone=false)(N:Nat):iM P f (lV e N):=by
 refine⟨(λh=>by cases h),rfl,λM0 w vs x y rW hA yk wK hy=> ?_⟩
 obtain⟨l,i,v⟩:=x
 have RP:p4 N l i v=some y:=hy
 clear hy
 simp only[lV,jJ]at hA
 obtain⟨v0,VU,rfl,h0,v1,vs2,rfl,h1,v2,vs3,rfl,h2,rfl⟩:=hA
 simp only[p4]at RP
 split at RP
 case isFalse=>cases RP
 rename_i hc
 cases RP
 obtain⟨hi0,Hp,P8,Km⟩:=hc
 obtain⟨i,rfl⟩:=ur hi0
 have amr:i≤l.length:=ω
 simp only[A1,tg,yj,V,Ty.isAgg,jc,eU,Rd,fi,eT]at h0 h1 h2
 subst h1
 have hk:=L.pS
 replace P8:List.length (α:=e.den) v=1:=P8
 rcases RW h2 with⟨ZO,_⟩|⟨b2,cs2,t2,Ao,Zq,VA,JZ,hc2,hl2,yB,TJ,yS⟩
 ·rw[ZO]at P8;cases P8
 replace Zq:v2= .slice (some ⟨b2,0,none⟩) 1 Ao:=by rw[Zq];congr 1
 subst Zq
 have Zo:e.size≤cs2.toList.length:=by
  rw[bI (xs:=cs2),TJ]
  exact Nat.le_mul_of_pos_left _ hc2
 obtain⟨news,Wu⟩: ∃news,news=cs2.toList.take e.size:=⟨_,rfl⟩
 have Ie:news.length=1*e.size:=by rw[Wu,cf,jX];omega
 have hnr:qZ w (λb=>M0 b∨b∈dO (lV e N).args [v0,.int .i64 (i:Int),.slice (some ⟨b2,0,none⟩) 1 Ao]) e news v:=by
  rw[Wu];exact yS.take (by rw[P8,jX];exact aG _)
 have hnc: ∀j u,news[j]? =some u→w.cell? ((⟨b2,0,none⟩:Addr).add j)=some u:=by
  have:=uK VA 0 e.size
  rw[c0]at this
  rw[Wu];exact this
 have Qk: ∀u∈news,u.oneCell'=true:=by
  have:=hnr 0 ω
  rw[Nat.zero_mul,c0,jH ω]at this
  exact this.oL
 have ui:fM (.slice (some ⟨b2,0,none⟩) 1 Ao)=some b2:=by simp[fM];omega
 replace Km:List.length (α:=e.den) l+1<zQ:=Km
 have Wv:(List.take i l++(v++List.drop i l)).length=l.length+1:=by rw[aS,aS,cf,dS,P8];omega
 have hbn:(Wq ρ fn).body.isNone=false:=Wt
 refine s0 L.hf Aj hbn ?_
 rcases RW h0 with⟨rfl,ad,rfl⟩|⟨b1,zo,t1,Dy,rfl,PS,hM1,LA,Ql,tG,Ly,y5⟩
 ·
  have hi:i=0:=by simpa using amr
  subst hi
  obtain⟨nh,rest,dE,Tz,jT,Ig⟩:=Fs (P:=P) (w:=w) L.t24 L.lay (n:=0) (m:=1) (cap:=0) (cp:=Ao) (olds:=[]) (news:=news) (base:=ad) (a':=⟨b2,0,none⟩) (λ_=>⟨rfl,rfl⟩) (by simp) (λ_ _ j u hj=>by simp at hj) Ie hnc ω (by simp only[zQ];omega)
  refine(Kk L w ad 0 0 1 Ao ⟨b2,0,none⟩ _ _ ω (aG _) dE).mono ?_
  rintro e1 w' ⟨rfl,rfl⟩
  refine⟨_,rfl,?_⟩
  simp only[gq]at Tz Ig
  have hv:v=v++[]:=by simp
  have:=xG (e:=e) (rb:=w.heap.size) (cap:=nh) (l:=v) (t:=ρ.t 9) (w:=w) (w':=w.drew.alloc (.cells ([]++news++rest).toArray (ρ.t 9))) rW wK (λb hb _=>alloc_old w.drew _ hb) (by rw[oh];exact qP _) (λh=>absurd h (EG _)) rfl rfl rfl (qu w.drew _) ω ω jT
   (by simp only[cL,jd,aS,Ie,Ig,←eu];congr 1;omega) (by simpa using hnr.more (cs':=rest) (by rw[P8,Ie];exact aG _))
  rw[P8]at this
  simpa [lV,fp,AM.iL]using this
 ·have mA:fM (.slice (some ⟨b1,0,none⟩) l.length Dy)=some b1:=by simp[fM];omega
  have hh:dO (lV e N).args [.slice (some ⟨b1,0,none⟩) l.length Dy,.int .i64 (i:Int),.slice (some ⟨b2,0,none⟩) 1 Ao]=[b1,b2]:=by simp[lV,dO,da,mA,ui]
  rw[hh]at yk wK hnr ⊢
  replace y5:qZ w (λb=>M0 b∨b∈[b1,b2]) e zo.toList l:=by rw[←hh];exact y5
  have jB:b1≠b2:=by simpa using yk
  have arK:b1<w.heap.size:=(kH.1 PS).1
  have alB:b2<w.heap.size:=(kH.1 VA).1
  have sZ:l.length*e.size≤zo.toList.length:=by rw[bI (xs:=zo),Ly];exact lO _ Ql
  have hik:i*e.size≤l.length*e.size:=lO _ amr
  obtain⟨A,hAe⟩: ∃A,A=zo.toList.take (i*e.size):=⟨_,rfl⟩
  obtain⟨mid,ahI⟩: ∃mid,mid=(zo.toList.drop (i*e.size)).take ((l.length-i)*e.size):=⟨_,rfl⟩
  have RX:A.length=i*e.size:=by rw[hAe,cf];omega
  have G9:mid.length=(l.length-i)*e.size:=by
   rw[ahI,cf,dS,qQ];omega
  have hAr:=y5.amp i
  have hmr:=y5.amq i
  rw[←hAe]at hAr
  rw[←ahI]at hmr
  have hti:(l.take i).length=i:=by rw[cf];omega
  have RY: ∀rest:List Value,qZ w (λb=>M0 b∨b∈[b1,b2]) e (A++(news++(mid++rest))) (l.take i++(v++l.drop i)):=λrest=>
   hAr.append (by rw[RX,hti]) (hnr.append (by rw[Ie,P8]) (hmr.more (by rw[dS,G9];exact aG _)))
  have hAc: ∀j u,A[j]? =some u→w.cell? ((⟨b1,0,none⟩:Addr).add j)=some u:=by
   have:=uK PS 0 (i*e.size)
   rw[c0]at this
   rw[hAe];exact this
  have hmc: ∀j u,mid[j]? =some u→w.cell? ((⟨b1,i*e.size,none⟩:Addr).add j)=some u:=by
   rw[ahI];exact uK PS (i*e.size) _
  have amu: ∀u∈mid,u.oneCell'=true:=by
   intro u hu
   obtain⟨j,hj,rfl⟩:=qF.1 hu
   rw[G9]at hj
   have hq:j/e.size<l.length-i:=Nat.div_lt_of_lt_mul (by rw[EH];exact hj)
   have:=(hmr (j/e.size) (by rw[dS];exact hq)).oL
   refine this _ ?_
   have hjm:j/e.size*e.size+j%e.size=j:=by rw[EH];exact Nat.div_add_mod j e.size
   have Hd:j%e.size<e.size:=Nat.mod_lt _ hk
   rw[List.mem_iff_getElem?]
   refine⟨j%e.size,?_⟩
   rw[lR,aj Hd,lS,hjm]
   exact bl _
  by_cases lW:i=l.length
  ·
   subst lW
   have hm0:mid=[]:=uk (by rw[G9];simp)
   by_cases Ae:l.length+1≤Dy
   ·obtain⟨ie,hie,tf,_⟩:=L.lay.base
    have dE: ∀ty,(Builtin.append_ #[ρ.t 24,ρ.t 24] ty #[.slice (some ⟨b1,0,none⟩) l.length Dy,.slice (some ⟨b2,0,none⟩) 1 Ao]).run P w=_:=λty=>
     MB (ty:=ty) (cp:=Ao) L.t24 hie PS (by rw[tf];exact Ly) (by rw[tf];exact Ie) hnc Qk Ae
    refine(Kk L w _ _ _ 1 Ao ⟨b2,0,none⟩ _ _ ω Ql dE).mono ?_
    rintro e1 w' ⟨rfl,rfl⟩
    refine⟨_,rfl,?_⟩
    rw[tf]
    have Qc:fc zo.toList (l.length*e.size) news=A++(news++(mid++zo.toList.drop (l.length*e.size+news.length))):=by
     rw[hm0,hAe];simp[fc]
    have:=xG (e:=e) (rb:=b1) (cap:=Dy) (l:=l.take l.length++(v++l.drop l.length)) (t:=t1) (w:=w) (w':=w.setRow b1 (fc zo.toList (l.length*e.size) news).toArray) rW wK (λb hb hn=>setRow_other w _ (λe=>hn (by simp[e]))) (by rw[setRow_size];exact aG _) (λ_=>by simp) rfl rfl rfl (setRow_heap w b1 zo _ t1 _ PS) LA (by rw[Wv];exact Ae) tG
     (by
      have:=eB (s:=e.size) (show l.length<Dy by omega)
      rw[Qc,jd]
      simp only[aS,hm0,bT,dS,bI,RX,Ie,Ly]
      omega)
     (by rw[Qc];exact RY _)
    rw[Wv]at this
    simpa [lV,fp,AM.iL]using this
   ·obtain⟨nh,rest,dE,Tz,jT,Ig⟩:=Fs (P:=P) (w:=w) L.t24 L.lay (n:=l.length) (m:=1) (cap:=Dy) (cp:=Ao) (olds:=A) (news:=news) (base:=some ⟨b1,0,none⟩) (a':=⟨b2,0,none⟩) (λh=>by cases h) RX (λb hb=>by cases hb;exact hAc) Ie hnc ω Km
    refine(Kk L w _ _ _ 1 Ao ⟨b2,0,none⟩ _ _ ω Ql dE).mono ?_
    rintro e1 w' ⟨rfl,rfl⟩
    refine⟨_,rfl,?_⟩
    have:=xG (e:=e) (rb:=w.heap.size) (cap:=nh) (l:=l.take l.length++(v++l.drop l.length)) (t:=ρ.t 9) (w:=w) (w':=w.drew.alloc (.cells (A++news++rest).toArray (ρ.t 9))) rW wK (λb hb _=>alloc_old w.drew _ hb) (by rw[oh];exact qP _) (λh=>absurd h (EG _)) rfl rfl rfl (qu w.drew _) ω (by rw[Wv];exact Tz) jT
     (by simp only[jd,aS,RX,Ie,Ig,←eu];congr 1;omega) (by have:=RY rest;rw[hm0,cL,←bu]at this;exact this)
    rw[Wv]at this
    simpa [lV,fp,AM.iL]using this
  ·have ahJ:i<l.length:=ω
   have ZA:i*e.size+e.size≤l.length*e.size:=eB ahJ
   have e1k:(i+1)*e.size=A.length+news.length:=by rw[RX,Ie,eu]
   have EX:Nat.min 1 (l.length+1-i)=1:=iE ω
   by_cases Ae:l.length+1≤Dy
   ·
    have amv:l.length*e.size+e.size≤zo.toList.length:=by rw[bI (xs:=zo),Ly];exact eB ω
    have hsh: ∀(b:Nat) (c:Array Value) (t:TypeId),w.heap[b]? =some (.cells c t (0,0))→w.shape? b=some (t,c.size):=λb c t h=>by simp[World.shape?,h]
    obtain⟨B,hB⟩: ∃B,B=zo.toList.drop (i*e.size):=⟨_,rfl⟩
    have amw:zo.toList=A++B:=by rw[hAe,hB,gl]
    have hBl:B.length=zo.toList.length-i*e.size:=by rw[hB,dS]
    have hBk:(B.take e.size).length=e.size:=by rw[cf];omega
    have M7:fc zo.toList ((i+1)*e.size) mid=A++(B.take e.size++(mid++(B.drop e.size).drop mid.length)):=by
     have:zo.toList=(A++B.take e.size)++B.drop e.size:=by rw[bu,gl];exact amw
     rw[this,show(i+1)*e.size=(A++B.take e.size).length from by rw[aS,hBk,RX,eu,jX],DZ,bu]
    have M8:fc (fc zo.toList ((i+1)*e.size) mid) (i*e.size) news=A++(news++(mid++(B.drop e.size).drop mid.length)):=by
     rw[M7,←RX,DZ,Ie,jX,m2 hBk]
    refine(TG L w b1 l.length Dy i 1 Ao ⟨b2,0,none⟩ (fc zo.toList ((i+1)*e.size) mid).toArray (fc (fc zo.toList ((i+1)*e.size) mid) (i*e.size) news).toArray ahJ ω Ae (by simp only[maxLen]at tG;omega) (λx lb cb=> ?_) (λty dc sc=> ?_) (λW hW ty dc=> ?_)).mono ?_
    ·rw[run_callFunc_extern O.hf O.name O.body O.next O.find,
      Lib.run_overlaps_apart w (ρ.t 24) (ρ.t 4) (ρ.t 9) L.t24 e.size (λw=>de L.lay w) ⟨b2,0,none⟩ ⟨b1,x,none⟩ 1 Ao lb cb (eJ jB) t2 t1 cs2.size zo.size (hsh b2 cs2 t2 VA) (hsh b1 zo t1 PS) (by rw[Ly];exact Nat.ne_of_gt (Nat.mul_pos LA hk)) (by simp[World.frozen?,VA]) (by simp[World.frozen?,VA])]
     rfl
    ·exact run_copy_row (P:=P) (W:=w.drew) L.t24 (λw=>de L.lay w) (cs:=zo) PS (news:=mid) (n:=l.length-i) (by simp only[Nat.min_def];split<;>omega) G9 hmc amu (by rw[G9,eu,jX];rw[bI (xs:=zo)]at amv;rw[qQ];omega) ty
    ·exact run_copy_row (P:=P) (W:=W) L.t24 (λw=>de L.lay w) (cs:=(fc zo.toList ((i+1)*e.size) mid).toArray) (te:=t1) (by rw[hW];exact setRow_heap w b1 zo _ t1 _ PS) (news:=news) (n:=1) EX Ie
      (λj u hj=>by
       have:=hnc j u hj
       rw[Addr.add_lit]at this ⊢
       rw[show W.cell? ⟨b2,0+j,none⟩=w.cell? ⟨b2,0+j,none⟩from World.cell?_of_block (by rw[hW];exact setRow_other w _ (eJ jB))]
       exact this) Qk (by
       rw[jd,M7]
       simp only[aS,hBk,RX,Ie]
       omega) ty
    ·rintro e1 w' ⟨rfl,rfl⟩
     refine⟨_,rfl,?_⟩
     have:=xG (e:=e) (rb:=b1) (cap:=Dy) (l:=l.take i++(v++l.drop i)) (t:=t1) (w:=w) (w':=(w.drew.setRow b1 (fc zo.toList ((i+1)*e.size) mid).toArray).setRow b1 (fc (fc zo.toList ((i+1)*e.size) mid) (i*e.size) news).toArray) rW wK
      (λb hb hn=>(setRow_other _ _ (λe=>hn (by simp[e]))).trans (setRow_other _ _ (λe=>hn (by simp[e])))) (by rw[setRow_size,setRow_size];exact aG _) (λ_=>by simp) rfl rfl rfl (setRow_heap _ b1 _ _ t1 _ (setRow_heap w.drew b1 zo _ t1 _ PS)) LA (by rw[Wv];exact Ae) tG
      (by
       rw[M8,jd]
       rw[bI (xs:=zo)]at amv hBl
       simp only[aS,dS,RX,Ie,G9,hBl,qQ]
       omega)
      (by rw[M8];exact RY _)
     rw[Wv]at this
     simpa [lV,fp,AM.iL]using this
   ·
    obtain⟨nh,Z,dE,Tz,jT,hZl⟩:=TI (P:=P) (w:=w) L.t24 L.t3 L.lay hk (n:=i) (k:=l.length+1-i) (cap:=Dy) (olds:=A) (b:=⟨b1,0,none⟩) RX hAc ω ω ω
    have arN:i+(l.length+1-i)=l.length+1:=ω
    rw[arN]at dE Tz
    have hZk:(l.length+1-i)*e.size≤Z.length:=by rw[hZl];exact lO _ ω
    rw[qQ,eu,jX]at hZk
    have M7:fc (A++Z) (i*e.size) news=A++(news++Z.drop news.length):=by rw[←RX,DZ]
    have M8:fc (fc (A++Z) (i*e.size) news) ((i+1)*e.size) mid=A++(news++(mid++(Z.drop news.length).drop mid.length)):=by
     rw[M7,←bu,e1k,←aS,DZ,bu]
    have hnb:w.heap.size≠b1:=ω
    have ayX:b2≠w.heap.size:=ω
    refine(Ws L w b1 l.length Dy i 1 Ao 0 nh ⟨b2,0,none⟩ (A++Z).toArray (fc (A++Z) (i*e.size) news).toArray (fc (fc (A++Z) (i*e.size) news) ((i+1)*e.size) mid).toArray ahJ ω Ql ω (by simp only[maxLen]at tG;omega) (by simp only[zQ]at Km;omega) Tz (by simp only[maxLen]at jT;omega) (λty=> ?_) (λW hW ty dc=> ?_) (λW hW ty dc sc=> ?_)).mono ?_
    ·have:=dE ty
     rw[show(((l.length+1-i:Nat):Int))=(l.length:Int)+(1:Nat)-(i:Int)from by omega]at this
     exact this
    ·exact run_copy_row (P:=P) (W:=W) L.t24 (λw=>de L.lay w) (cs:=(A++Z).toArray) (te:=ρ.t 9) (by rw[hW];exact qu w _) (news:=news) (n:=1) EX Ie
      (λj u hj=>by
       have:=hnc j u hj
       rw[Addr.add_lit]at this ⊢
       rw[show W.cell? ⟨b2,0+j,none⟩=w.cell? ⟨b2,0+j,none⟩from World.cell?_of_block (by rw[hW];exact alloc_old w _ alB)]
       exact this) Qk (by rw[jd,aS,RX,Ie];omega) ty
    ·exact run_copy_row (P:=P) (W:=W) L.t24 (λw=>de L.lay w) (cs:=(fc (A++Z) (i*e.size) news).toArray) (te:=ρ.t 9) (by rw[hW];exact setRow_heap _ _ _ _ _ _ (qu w _)) (news:=mid) (n:=l.length-i) (by simp only[Nat.min_def];split<;>omega) G9
      (λj u hj=>by
       have:=hmc j u hj
       rw[Addr.add_lit]at this ⊢
       rw[show W.cell? ⟨b1,i*e.size+j,none⟩=w.cell? ⟨b1,i*e.size+j,none⟩from World.cell?_of_block (by rw[hW];exact(setRow_other _ _ (eJ hnb)).trans (alloc_old w _ arK))]
       exact this) amu (by
       rw[jd,M7]
       simp only[aS,dS,RX,Ie,G9,eu,qQ]
       omega) ty
    ·rintro e1 w' ⟨rfl,rfl⟩
     refine⟨_,rfl,?_⟩
     have hg':((w.drew.alloc (.cells (A++Z).toArray (ρ.t 9))).setRow w.heap.size (fc (A++Z) (i*e.size) news).toArray).drew.heap[w.heap.size]? =some (.cells (fc (A++Z) (i*e.size) news).toArray (ρ.t 9) (0,0)):=setRow_heap _ _ _ _ _ _ (qu w.drew _)
     have:=xG (e:=e) (rb:=w.heap.size) (cap:=nh) (l:=l.take i++(v++l.drop i)) (t:=ρ.t 9) (w:=w) (w':=((w.drew.alloc (.cells (A++Z).toArray (ρ.t 9))).setRow w.heap.size (fc (A++Z) (i*e.size) news).toArray).drew.setRow w.heap.size (fc (fc (A++Z) (i*e.size) news) ((i+1)*e.size) mid).toArray) rW wK
      (λb hb hn=>(setRow_other _ _ ω).trans ((setRow_other _ _ ω).trans (alloc_old w.drew _ hb))) (by rw[setRow_size];show _≤(World.setRow _ _ _).heap.size;rw[setRow_size,oh];exact qP _) (λh=>absurd h (EG _)) rfl rfl rfl (setRow_heap _ _ _ _ _ _ hg') ω (by rw[Wv];exact Tz) jT
      (by
       rw[M8,jd]
       have hmul:(nh-i)*e.size=nh*e.size-i*e.size:=qQ _ _ _
       have hci:i*e.size≤nh*e.size:=lO _ ω
       simp only[aS,dS,RX,Ie,G9,hZl,hmul,qQ]at hZk ⊢
       omega)
      (by rw[M8];exact RY _)
     rw[Wv]at this
     simpa [lV,fp,AM.iL]using this
end VM
end
section
namespace VM
open Go Go.Shelf Go.RowKit Go.Lib Go.Proofs
variable{P:Program}{ρ:Ren}
def Ww(ρ:Ren)(fn:Func):Func:={fn with body:=(Body2.n15 ρ).body,ntmps:=8,results:=(Body2.n15 ρ).results,nfree:=0}
theorem CI(ρ:Ren)(fn:Func):(Ww ρ fn).ntmps=8:=rfl
structure Ko(P:Program)(e:Ty)(ρ:Ren)(f:FuncId)(fn:Func):Prop where
 hf:P.funcs[f]? =some (Ww ρ fn)
 t4:P.underlying (ρ.t 4)=some .bool
 t22:P.underlying (ρ.t 22)=some (.slice (ρ.t 3))
 lay:kL P e (ρ.t 3)
 pS:0<e.size
 mixed:P.follows .mixedOrders=true
set_option maxHeartbeats 4000000 in
set_option maxRecDepth 100000 in
theorem TK{e:Ty}{f:FuncId}{fn:Func}(L:Ko P e ρ f fn)(w:World)(n c:Nat):
  Calls P f #[.slice none n c] w λr w2=>r= .returned (.slice none 0 0)∧w2=w:=by
 have u22:=run_underlying L.t22
 have t4:=L.t4;have t22:=L.t22
 have z3:=λw=>de L.lay w
 have mixed:=L.mixed
 have q22: ∀(w:World) (a:Option Addr) (n c n' c':Nat),(binOp .eql (ρ.t 22) (.slice a n c) (.slice none n' c')).run P w= .ok (.bool a.isNone) w:=λw a n c n' c'=>Lib.run_eql_slice_nil w _ _ a n c n' c' L.t22
 go_enter L.hf,CI ρ fn
 go_wp2
 go_ret
 exact⟨rfl,rfl⟩
set_option maxHeartbeats 4000000 in
set_option maxRecDepth 100000 in
theorem Fu{e:Ty}{f:FuncId}{fn:Func}(L:Ko P e ρ f fn)(w:World)(a:Addr)(n c:Nat)(v':Value)(w':World)
  (MJ: ∀ty,(Builtin.append_ #[ρ.t 22,ρ.t 22] ty #[.slice (some ⟨w.heap.size,0,none⟩) 0 0,.slice (some a) n c]).run P (w.alloc (.cells #[] (ρ.t 3)))= .ok v' w'):
   Calls P f #[.slice (some a) n c] w λr w2=>r= .returned v'∧w2=w':=by
 have u22:=run_underlying L.t22
 have t4:=L.t4;have t22:=L.t22
 have z3:=λw=>de L.lay w
 have mixed:=L.mixed
 have q22: ∀(w:World) (a:Option Addr) (n c n' c':Nat),(binOp .eql (ρ.t 22) (.slice a n c) (.slice none n' c')).run P w= .ok (.bool a.isNone) w:=λw a n c n' c'=>Lib.run_eql_slice_nil w _ _ a n c n' c' L.t22
 obtain⟨ab,ao,asp⟩:=a
 go_enter L.hf,CI ρ fn
 go_wp2_with (at_builtin;refine Lib.wpList_append_run _ rfl _ _ _ _ rfl _ _ rfl rfl _ _ (MJ _) ?_)
 all_goals (go_ret;exact⟨rfl,rfl⟩)
theorem Wx{w w':World}{M0:Nat→Prop}{e:Ty}(a:Option Addr)(rW: ∀b,M0 b→b<w.heap.size)(VT: ∀b,b<w.heap.size→w'.heap[b]? =w.heap[b]?)(tf:w.heap.size≤w'.heap.size)
  (hos:w'.os=w.os) (htp:w'.tape=w.tape) (Qb:w'.output=w.output):
  ∃us M',Value.slice a 0 0=wF us∧RR w' M' [.own e] ([]:List e.den) us []∧Left w M0 [] w' M'∧(bF [.own e] us []).Nodup∧ ∀b∈bF [.own e] us [],¬M0 b:=by
 have wv:bF [.own e] [Value.slice a 0 0] []=[]:=by
  cases a<;>simp[bF,da,AM.iL,fM]
 refine⟨[.slice a 0 0],M0,rfl,?_,?_,?_,?_⟩
 ·simp only[RR]
  refine .inr ⟨_,[],rfl,rfl,rfl,?_,rfl,trivial⟩
  simp only[A1,ER,tg]
  exact .inl ⟨trivial,a,rfl⟩
 ·exact⟨λb h=>h,λb h=>mY (rW b h) tf,λb hb h=> .inl h,λb hb _=>VT b hb,tf,hos,htp,Qb⟩
 ·rw[wv];simp
 ·rw[wv];simp
theorem qv{e:Ty}{f:FuncId}{fn:Func}(L:Ko P e ρ f fn)(Aj:(fn.name== "runtime.NumGoroutine")=false)(Wt:(Body2.n15 ρ).body.isNone=false)(N:Nat):iM P f (wq e N):=by
 refine⟨(λh=>by cases h),rfl,λM0 w vs x y rW hA yk wK hy=> ?_⟩
 have RP:oc N x=some y:=hy
 clear hy
 obtain⟨v0,VU,rfl,h0,h2⟩:=hA
 have h2:VU=[]:=h2
 subst h2
 replace h0:V w (λb=>M0 b∨b∈([]:List Nat)) (.slice e) v0 x:=h0
 unfold oc at RP
 split at RP
 case isFalse=>cases RP
 rename_i Km
 cases RP
 have hbn:(Ww ρ fn).body.isNone=false:=Wt
 have hh:dO (wq e N).args [v0]=[]:=rfl
 rw[hh]at wK ⊢
 refine s0 L.hf Aj hbn ?_
 obtain⟨i,hi,tf,hz,hby⟩:=L.lay.base
 have hS:=Src.Zj h0
 by_cases hx:x=[]
 ·obtain⟨a,cp,hv,_⟩:=hS
  subst hv
  rw[hx]
  cases a with
  |none=>
   refine(TK L w _ cp).mono ?_
   rintro e1 w' ⟨rfl,rfl⟩
   exact⟨_,rfl,Wx none rW (λ_ _=>rfl) (aG _) rfl rfl rfl⟩
  |some a=>
   refine(Fu L w a _ cp _ _ (λty=>sC (P:=P) (w:=w.alloc (.cells #[] (ρ.t 3))) L.t22 hi (some ⟨w.heap.size,0,none⟩) 0 0 (aG _) (some a) cp)).mono ?_
   rintro e1 w' ⟨rfl,rfl⟩
   exact⟨_,rfl,Wx _ rW (λb hb=>alloc_old w _ hb) (by rw[oh];exact qP _) rfl rfl rfl⟩
 ·obtain⟨b,off,cp,news,hv,hl,p5,kX,h1⟩:=hS.cells hx
  have Hz:0<x.length:=su.2 hx
  subst hv
  obtain⟨nh,rest,dE,Tz,jT,Ig⟩:=Fs (P:=P) (w:=w.alloc (.cells #[] (ρ.t 3))) L.t22 L.lay (n:=0) (m:=x.length) (cap:=0) (cp:=cp) (olds:=[]) (news:=news) (base:=some ⟨w.heap.size,0,none⟩) (a':=⟨b,off,none⟩) (λh=>by cases h) (by simp) (λ_ _ j u hj=>by simp at hj) hl
   (λj u hj=>by rw[Addr.add_lit];exact Lib.cell?_alloc_some _ (p5 j u hj)) ω ω
  refine(Fu L w ⟨b,off,none⟩ _ cp _ _ dE).mono ?_
  rintro e1 w' ⟨rfl,rfl⟩
  refine⟨_,rfl,?_⟩
  simp only[gq]at Tz Ig ⊢
  have Ly:(w.alloc (.cells #[] (ρ.t 3))).heap.size=w.heap.size+1:=oh w _
  exact xG (e:=e) (rb:=(w.alloc (.cells #[] (ρ.t 3))).heap.size) (cap:=nh) (l:=x) (t:=ρ.t 3) (w:=w) (w':=(w.alloc (.cells #[] (ρ.t 3))).drew.alloc (.cells ([]++news++rest).toArray (ρ.t 3))) rW wK
   (λb hb _=>(alloc_old (w.alloc (.cells #[] (ρ.t 3))).drew _ (by show b<(w.alloc (.cells #[] (ρ.t 3))).heap.size;omega)).trans (alloc_old w _ hb))
   (by rw[oh];show w.heap.size≤(w.alloc (.cells #[] (ρ.t 3))).heap.size+1;omega) (λh=>ω) rfl rfl rfl (qu (w.alloc (.cells #[] (ρ.t 3))).drew _) ω Tz jT
   (by simp only[cL,jd,aS,hl,Ig,←eu];congr 1;omega) (by simpa using qZ.more (cs':=rest) (show qZ w (λb=>M0 b∨b∈([]:List Nat)) e news x from kX) (by rw[hl];exact aG _))
end VM
end
