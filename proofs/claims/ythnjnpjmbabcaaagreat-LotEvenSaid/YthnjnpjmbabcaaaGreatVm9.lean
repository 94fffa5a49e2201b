/- A part of the proof of LotEven of layer 23: a machine that reads a function of the program as an equation between values. -/
import Derived.Test.YthnjnpjmbabcaaaGreatVm8
import Derived.KernelRfl
import Derived.Test.YthnjnpjmbabcaaaGreatVm0
import Derived.Laws.Externs
import Derived.Shelf.Spec.SlicesInsertGrow
set_option linter.all false
open List renaming length→ℓ
noncomputable section
section
namespace VM
open Go
@[reducible] def CM.arr:CM→Type→Type
 | .v τ,T| .obj τ,T| .io τ,T| .fn _ τ,T=>τ.den→T
 | .own e,T=>List e.den→T
 | .fv τ _ e,T=>τ.den→List e.den→T
 | .same _,T=>T
 | .eU e,T=>List (List e.den)→T
@[reducible] def Vs:List (Nat×CM)→Type→Type
 |[],R=>R
 |q::r,R=>q.2.arr (Vs r R)
def CM.lam{T:Type}(s:Nat)(σ:St):(m:CM)→(St→T)→m.arr T
 | .v τ,f=>λx=>f (σ.put s (.val τ x))
 | .own e,f=>λx=>f ((σ.put s (.ref (16*s+14))).ik (16*s+14) (some (.own e x)))
 | .obj τ,f=>λx=>f ((σ.put s (.ic (16*s+14) [])).ik (16*s+14) (some (.obj τ x)))
 | .fv τ q e,f=>λx l=>f (((σ.put s (.ic (16*s+14) [])).ik (16*s+13) (some (.own e l))).ik (16*s+14) (some (.fv τ x q (16*s+13))))
 | .io τ,f=>λx=>f ((σ.put s (.ic (16*s+15) [])).ik (16*s+15) (some (.obj τ x)))
 | .fn g τ,f=>λx=>f (σ.put s (.Mr g (p7 τ x)))
 | .same s',f=>f (σ.put s (σ.T s'))
 | .eU e,f=>λl=>f (((σ.put s (.ref (16*s+14))).ik (16*s+14) (some (.eU e l none))).ik 7 (some .gone))
def amR{R:Type}(κ:St→R):(L:List (Nat×CM))→St→Vs L R
 |[],σ=>κ σ
 |q::r,σ=>q.2.lam q.1 σ (amR κ r)
@[reducible] def zh:List AM→Type→Type
 |[],R=>R
 |m::r,R=>m.den→zh r R
def ID{R:Type}:(ms:List AM)→zh ms R→HP ms→R
 |[],g,_=>g
 |[_],g,x=>g x
 |_::n::ms,g,x=>ID (n::ms) (g x.1) x.2
def TX{R:Type}:(ms:List AM)→(HP ms→R)→zh ms R
 |[],f=>f ()
 |[_],f=>f
 |_::n::ms,f=>λx=>TX (n::ms) λy=>f (x,y)
theorem KH{R:Type}: ∀(ms:List AM) (f:HP ms→R) (x:HP ms),ID ms (TX ms f) x=f x
 |[],_,()=>rfl
 |[_],_,_=>rfl
 |_::n::ms,f,x=>KH (n::ms) (λy=>f (x.1,y)) x.2
structure Pc where
 k:Nat
 c:List (Nat×CM)
 path:List Nat
 ks:List Nat
def WL:List Pc→Nat→Pc
 |[],_=>⟨0,[],[],[]⟩
 |p::r,k=>cond (Nat.beq k p.k) p (WL r k)
def Nn:List Pc→Nat→Option (List (Nat×CM))
 |[],_=>none
 |p::r,k=>cond (Nat.beq k p.k) (some p.c) (Nn r k)
def B4:List (Nat×pP)→Nat→List pP
 |[],_=>[]
 |q::r,i=>cond (Nat.beq i q.1) (q.2::B4 r i) (B4 r i)
def Gl:List AM→Nat→List Nat
 |[],_=>[]
 | .io _::r,i=>i::Gl r (i+1)
 | .lo _::r,i=>i::Gl r (i+1)
 |_::r,i=>Gl r (i+1)
structure Fx where
 nt:Nat
 tab:List (Nat×Ty)
 G:List (Nat×pP)
 N:Nat
 fn:Func
 args:List AM
 res:List AM
 pcs:List Pc
 lk:Option (Ty×List Step×Ty×List Nat):=none
namespace Fx
variable(X:Fx)
abbrev R:=Option (HP X.res)
def E:Env:={nt:=X.nt,ty:=λi=>Nm i X.tab,Γ:=B4 X.G,N:=X.N,wT:=λr=>Nn X.pcs (2*r+1),yt:=λr=>Nn X.pcs (2*r),io:=Gl X.args 0,lk:=X.lk}
@[reducible] def c(i:Nat):List (Nat×CM):=(WL X.pcs i).c
def path(i:Nat):List Nat:=(WL X.pcs i).path
def odd(i:Nat):Bool:=Nat.beq (i%2) 1
def cut(ρ:Nat→St→X.R)(l:Nat):St→X.R:=fun σ=>w3 (some (X.c l)) σ (ρ l)
def ks(ρ:Nat→St→X.R)(i:Nat):List (St→X.R):=(WL X.pcs i).ks.map (X.cut ρ)
def lp(ρ:Nat→St→X.R)(i n:Nat):St→X.R:=lpF X.E X.fn X.args X.res (X.c i) (X.path i) (X.ks ρ i) n
def ck(ρ:Nat→St→X.R)(i:Nat):St→X.R:=cond (odd i) (X.lp ρ i X.N) (atF X.E X.fn X.args X.res (X.path i) (X.ks ρ i))
def own(ρ:Nat→St→X.R)(i:Nat):List (St→X.R):=X.ks ρ i++cond (odd i) [X.cut ρ i] []
def Qb(K ρ:Nat→St→X.R)(i:Nat):St→X.R:=atQ X.E X.fn X.args X.res (λr=>K (2*r)) (λr=>K (2*r+1)) (X.path i) (X.own ρ i)
def tl(K ρ:Nat→St→X.R)(i:Nat):List ((St→X.R)×(St→X.R)):=xi X.E (λr=>K (2*r)) (λr=>K (2*r+1)) (Z4 X.E X.fn X.args X.res (X.path i) (X.own ρ i))
@[reducible] def cu(i:Nat)(κ:St→X.R):Vs (X.c i) X.R:=amR κ (X.c i) S0
@[reducible] def bd(K ρ:Nat→St→X.R)(i:Nat):Vs (X.c i) X.R:=X.cu i (X.Qb K ρ i)
@[reducible] def kc(ρ:Nat→St→X.R)(i:Nat):Vs (X.c i) X.R:=X.cu i (ρ i)
def Dh:Nat→St→X.R:=λ_ _=>none
def top(K:Nat→St→X.R):zh X.args X.R:=TX X.args λx=>atQ X.E X.fn X.args X.res (λr=>K (2*r)) (λr=>K (2*r+1)) [] [] (entry X.args x 0 S0)
def tlT(K:Nat→St→X.R):List ((St→X.R)×(St→X.R)):=xi X.E (λr=>K (2*r)) (λr=>K (2*r+1)) (Z4 X.E X.fn X.args X.res [] [])
def S(q:Bool)(g:zh X.args X.R):pP:={args:=X.args,res:=X.res,quiet:=q,run:=ID X.args g}
variable{X}
theorem Z5(f:Nat→St→X.R): ∀sD:List Nat,TV (sD.map λt=>(f t,f t))
 |[]=>trivial
 |_::r=>⟨rfl,Z5 f r⟩
theorem okJ{i:Nat}(sD:List Nat)(hi:odd i=false)(hr: ∀K ρ,X.tl K ρ i=sD.map λt=>(K t,X.ck ρ t)){g:(Nat→St→X.R)→(Nat→St→X.R)→Vs (X.c i) X.R}(h: ∀K ρ,X.bd K ρ i=g K ρ)(ρ:Nat→St→X.R):X.kc (X.ck ρ) i=g (X.ck ρ) ρ:=by
 rw[←h]
 have:X.ck ρ i=X.Qb (X.ck ρ) ρ i:=by
  funext σ
  have h1:=hr (X.ck ρ) ρ
  unfold tl own at h1
  rw[hi,au,cN]at h1
  unfold Qb own
  rw[hi,au,cN]
  rw[←at_eq X.E X.fn X.args X.res h1 (Z5 (X.ck ρ) sD) σ]
  unfold ck;rw[hi];rfl
 unfold kc bd
 rw[this]
def okb(X:Fx)(i:Nat):Bool:=odd i&&(WL X.pcs i).ks.all λl=> !(Nat.beq l i)
theorem okL{i:Nat}(sD:List Nat)(hi:okb X i=true)(hr: ∀K ρ,X.tl K ρ i=sD.map λt=>(K t,X.ck ρ t)){g:(Nat→St→X.R)→(Nat→St→X.R)→Vs (X.c i) X.R}(h: ∀K ρ,X.bd K ρ i=g K ρ)(ρ:Nat→St→X.R)
  (G:Nat→Vs (X.c i) X.R) (h0:X.cu i (λ_=>none)=G 0) (hs: ∀n ρ',X.kc ρ' i=G n→(∀l,Nat.beq l i=false→X.kc ρ' l=X.kc ρ l)→g (X.ck ρ') ρ'=G (n+1)):X.kc (X.ck ρ) i=G X.N:=by
 unfold okb at hi
 rw[bQ]at hi
 obtain⟨hi,hk⟩:=hi
 have key: ∀n,X.cu i (X.lp ρ i n)=G n:=by
  intro n
  induction n with
  |zero=>exact h0
  |succ n ih=>
   let ρ':Nat→St→X.R:=λl=>cond (Nat.beq l i) (X.lp ρ i n) (ρ l)
   have e1:ρ' i=X.lp ρ i n:=by show cond (Nat.beq i i) _ _=_;rw[o7];rfl
   have e2: ∀l,Nat.beq l i=false→ρ' l=ρ l:=λl hl=>by show cond (Nat.beq l i) _ _=_;rw[hl];rfl
   rw[←hs n ρ' (by unfold kc;rw[e1];exact ih) (λl hl=>by unfold kc;rw[e2 l hl]),←h]
   have e3:X.ks ρ' i=X.ks ρ i:=by
    unfold ks
    refine mc λl hl=> ?_
    have:=q6.1 hk l hl
    unfold cut
    rw[e2 l (by simpa using this)]
   have:X.lp ρ i (n+1)=X.Qb (X.ck ρ') ρ' i:=by
    funext σ
    have h1:=hr (X.ck ρ') ρ'
    unfold tl own at h1
    rw[hi,aj]at h1
    unfold Qb own
    rw[hi,aj]
    rw[←at_eq X.E X.fn X.args X.res h1 (Z5 (X.ck ρ') sD) σ]
    unfold lp
    rw[WH,e3]
    unfold cut
    rw[e1];rfl
   unfold bd
   rw[this]
 have:X.ck ρ i=X.lp ρ i X.N:=by unfold ck;rw[hi];rfl
 unfold kc
 rw[this];exact key _
def KI(P:Program):List (Nat×pP)→Prop
 |[]=>True
 |q::r=>lN P q.1 q.2∧KI P r
structure _root_.VM.Kn(P:Program) where
 f:Nat
 S:pP
 ok:lN P f S
def _root_.VM.Kn.p{P:Program}(k:Kn P):Nat×pP:=(k.f,k.S)
def _root_.VM.Kn.l{P:Program}:List (Kn P)→List (Nat×pP)
 |[]=>[]
 |k::r=>k.p::Kn.l r
theorem _root_.VM.Kn.all{P:Program}: ∀l:List (Kn P),KI P (Kn.l l)
 |[]=>trivial
 |k::r=>⟨k.ok,Kn.all r⟩
theorem B5{P:Program}: ∀{l:List (Nat×pP)},KI P l→ ∀f S,S∈B4 l f→lN P f S
 |[],_,f,S,h=>by simp[B4]at h
 |q::r,ha,f,S,h=>by
  unfold B4 at h
  cases hb:Nat.beq f q.1<;>rw[hb]at h
  ·exact B5 ha.2 f S h
  ·rcases bm.1 h with rfl|h
   ·rw[eK hb];exact ha.1
   ·exact B5 ha.2 f S h
theorem Gm: ∀{l:List Pc},(l.all λp=>kk p.c)=true→ ∀i L,Nn l i=some L→kk L=true
 |q::r,ha,i,L,h=>by
  rw[Ab,bQ]at ha
  unfold Nn at h
  cases hb:Nat.beq i q.k<;>rw[hb]at h
  ·exact Gm ha.2 i L h
  ·cases h;exact ha.1
def chk(X:Fx)(q:Bool):Bool:=(X.pcs.all λp=>kk p.c)&&((!(X.fn.name== "runtime.NumGoroutine")&&Nat.beq X.nt X.fn.ntmps)&&(X.fn.body.isSome&&(Nat.ble X.args.length X.nt&&((!q||X.res.all AM.flat)&&decide (mN X.args=mN X.res)))))
theorem No: ∀{ms:List AM} {k i:Nat} {m:AM},ms[i]? =some m→m.iD=true→k+i∈Gl ms k
 |[],_,_,_,h,_=>by simp at h
 |m::ms,k,0,m',h,ug=>by
  simp only[Fc,eL]at h
  subst h
  cases m<;>simp[AM.iD]at ug<;>simp[Gl]
 |m::ms,k,i+1,m',h,ug=>by
  have:=No (ms:=ms) (k:=k+1) (i:=i) (by simpa using h) ug
  rw[show k+(i+1)=k+1+i from by omega]
  cases m<;>simp only[Gl]<;>first|exact a6 _ this|exact this
theorem R8: ∀{ms:List AM} {k i:Nat},i∈Gl ms k→i<k+ms.length
 |[],_,_,h=>by simp[Gl]at h
 |m::ms,k,i,h=>by
  have hr:i∈Gl ms (k+1)→i<k+(m::ms).length:=λh=>by have:=R8 h;simp only[aU];omega
  cases m<;>simp only[Gl]at h<;>first
   |exact hr h
   |(rcases bm.1 h with rfl|h<;>first|exact hr h|(simp only[aU];omega))
variable(X)in
theorem Np{P:Program}(ht:Gk P X.tab)(hG:KI P X.G)(hc:(X.pcs.all λp=>kk p.c)=true):p8 P X.E:=by
 have iT: ∀t τ,Nm t X.tab=some τ→ui P τ (.inl t)=true∧Z2 P τ t=true:=λt τ h=>by
  have:=q6.1 ht.ok _ (Jn h)
  simpa using this
 exact{ty:=λt τ h=>ny (iT t τ h).1,eq:=λt τ h hc ha=>Z3 (ny (iT t τ h).1) (iT t τ h).2 hc ha,amo:=B5 hG,mixed:=ht.mixed,kk:=λi L h=>Gm hc _ L h,Wb:=λi L h=>Gm hc _ L h}
theorem mkS{P:Program}(ht:Gk P X.tab){f:FuncId}(hf:P.funcs[f]? =some X.fn){q:Bool}(hc:chk X q=true)(hG:KI P X.G){g:zh X.args X.R}(h: ∀x,Kk X.E X.fn X.args X.res x=ID X.args g x):lN P f (X.S q g):=by
 unfold chk at hc
 simp only[bQ]at hc
 obtain⟨h0,⟨h1,h2⟩,h3,h4,h5,h6⟩:=hc
 refine Wy (Np X ht hG h0) hf (by simpa using h1) (eK h2) (X.S q g) (λi m hm ug=> ?_) (λi hi=> ?_) ?_ (λhq=> ?_) (bl h6) h
 ·have:=No (k:=0) hm ug
  rwa [fh]at this
 ·have:=R8 (k:=0) hi
  rwa [fh]at this
 ·have:=zP h4
  rwa [eK h2]at this
 ·have hq:q=true:=hq
  subst hq
  show X.res.all AM.flat=true
  simpa using h5
theorem Z6{g:zh X.args X.R}(h:TX X.args (Kk X.E X.fn X.args X.res)=g)(x:HP X.args):Kk X.E X.fn X.args X.res x=ID X.args g x:=by rw[←h,KH]
variable(X)in
theorem ok0{P:Program}(ht:Gk P X.tab){f:FuncId}(hf:P.funcs[f]? =some X.fn){q:Bool}(hc:chk X q=true)(hG:KI P X.G){g:zh X.args X.R}(h:TX X.args (Kk X.E X.fn X.args X.res)=g):lN P f (X.S q g):=
 mkS ht hf hc hG (Z6 h)
theorem amS(hb:X.fn.body.isSome=true)(sD:List Nat)(hr: ∀K,X.tlT K=sD.map λt=>(K t,X.ck X.Dh t))
  {g:(Nat→St→X.R)→zh X.args X.R} (h: ∀K,X.top K=g K) {f:zh X.args X.R} (hf:g (X.ck X.Dh)=f) (x:HP X.args):Kk X.E X.fn X.args X.res x=ID X.args f x:=by
 rw[←hf,←h,ahF hb]
 unfold top
 rw[KH]
 exact at_eq X.E X.fn X.args X.res (hr (X.ck X.Dh)) (Z5 (X.ck X.Dh) sD) _
variable(X)in
theorem ok1{P:Program}(ht:Gk P X.tab){f:FuncId}(hf:P.funcs[f]? =some X.fn){q:Bool}(hc:chk X q=true)(hG:KI P X.G)(sD:List Nat)(hr: ∀K,X.tlT K=sD.map λt=>(K t,X.ck X.Dh t))
  {g:(Nat→St→X.R)→zh X.args X.R} (h: ∀K,X.top K=g K) {f':zh X.args X.R} (yx:g (X.ck X.Dh)=f'):lN P f (X.S q f'):=by
 have hb:X.fn.body.isSome=true:=by
  unfold chk at hc
  simp only[bQ]at hc
  exact hc.2.2.1
 exact mkS ht hf hc hG (amS hb sD hr h yx)
theorem uJ{i:Nat}(sD:List Nat){g:(Nat→St→X.R)→(Nat→St→X.R)→Vs (X.c i) X.R}(h: ∀K ρ,X.bd K ρ i=g K ρ)(ρ:Nat→St→X.R){f:Vs (X.c i) X.R}(hf:g (X.ck ρ) ρ=f:=by rfl)
 (hi:odd i=false:=by kernel_rfl) (hr: ∀K ρ,X.tl K ρ i=sD.map λt=>(K t,X.ck ρ t):=by intro K ρ;kernel_rfl):X.kc (X.ck ρ) i=f:=(okJ sD hi hr h ρ).trans hf
theorem uL{i:Nat}(sD:List Nat){g:(Nat→St→X.R)→(Nat→St→X.R)→Vs (X.c i) X.R}(h: ∀K ρ,X.bd K ρ i=g K ρ)(ρ:Nat→St→X.R)
 (G:Nat→Vs (X.c i) X.R) (hs: ∀n ρ',X.kc ρ' i=G n→(∀l,Nat.beq l i=false→X.kc ρ' l=X.kc ρ l)→g (X.ck ρ') ρ'=G (n+1)) (h0:X.cu i (λ_=>none)=G 0:=by rfl)
 (hi:okb X i=true:=by kernel_rfl) (hr: ∀K ρ,X.tl K ρ i=sD.map λt=>(K t,X.ck ρ t):=by intro K ρ;kernel_rfl):X.kc (X.ck ρ) i=G X.N:=okL sD hi hr h ρ G h0 hs
variable(X)in
theorem u0{P:Program}(ht:Gk P X.tab){f:FuncId}(hf:P.funcs[f]? =some X.fn){q:Bool}{g:zh X.args X.R}(hG:KI P X.G:=by first|exact trivial|exact Kn.all _)(hc:chk X q=true:=by kernel_rfl)(h:TX X.args (Kk X.E X.fn X.args X.res)=g:=by kernel_rfl):lN P f (X.S q g):=ok0 X ht hf hc hG h
variable(X)in
theorem u1{P:Program}(ht:Gk P X.tab){f:FuncId}(hf:P.funcs[f]? =some X.fn)(sD:List Nat)
 {g:(Nat→St→X.R)→zh X.args X.R} (h: ∀K,X.top K=g K) {q:Bool} {f':zh X.args X.R} (yx:g (X.ck X.Dh)=f':=by rfl) (hG:KI P X.G:=by first|exact trivial|exact Kn.all _) (hc:chk X q=true:=by kernel_rfl) (hr: ∀K,X.tlT K=sD.map λt=>(K t,X.ck X.Dh t):=by intro K;kernel_rfl):lN P f (X.S q f'):=ok1 X ht hf hc hG sD hr h yx
end Fx
end VM
end
section
namespace VM
open Go
variable{P:Program}
theorem Left.same(w:World)(M0:Nat→Prop)(h: ∀b,M0 b→b<w.heap.size):Left w M0 [] w M0:=
 ⟨λ_ h=>h,h,λ_ _ h=> .inl h,λ_ _ _=>rfl,aI _,rfl,rfl,rfl⟩
theorem amT{w:World}{M:Nat→Prop}{a b c:IntKind}{x:HP [.v (.int a),.v (.int b),.v (.int c)]}{vs:List Value}(h:jg w M [.v (.int a),.v (.int b),.v (.int c)] x vs):vs=[.int a x.1,.int b x.2.1,.int c x.2.2]:=by
 simp only[jg,A1,V,Ty.isAgg,gW,eo,Rd,eN,eA]at h
 obtain⟨v,vs,rfl,rfl,v,vs,rfl,rfl,v,vs,rfl,rfl,rfl⟩:=h
 rfl
theorem rr2{w:World}{M:Nat→Prop}{a b:IntKind}(x y:Int):RR w M [.v (.int a),.v (.int b)] (x,y) [.int a x,.int b y] []:=by
 simp only[RR]
 refine .inr ⟨_,_,rfl,rfl,rfl,?_,.inr ⟨_,_,rfl,rfl,rfl,?_,rfl,trivial⟩⟩<;>simp[A1,V,Ty.isAgg,Rd,pU,sy]
theorem R9{f:FuncId}(run:Int×Int×Int→Option (Int×Int))
  (h: ∀(w:World) (a b c u v:Int),run (a,b,c)=some (u,v)→(callFunc f #[.int .u64 a,.int .u64 b,.int .u64 c]).run P w= .ok (.value (.tuple #[.int .u64 u,.int .u64 v])) w):
  lN P f {args:=[.v (.int .u64),.v (.int .u64),.v (.int .u64)],res:=[.v (.int .u64),.v (.int .u64)],quiet:=true,run}:=by
 refine⟨λ_=>rfl,rfl,λM0 w vs x y vi hA _ _ hy=> ?_⟩
 have ZC:=amT hA
 subst ZC
 exact Iw (h w x.1 x.2.1 x.2.2 y.1 y.2 hy) ⟨_,M0,rfl,rr2 y.1 y.2,Left.same w M0 vi,Fy,λb hb=>by cases hb⟩
theorem B6(nm:String)(a b c:Nat)(h:c≤1)(w:World):(Extern.MathBitsCarry.three nm #[.int .u64 a,.int .u64 b,.int .u64 c]).run P w= .ok (a,b,c) w:=by
 have h5: ¬(1<c):=ω
 have:Extern.MathBitsCarry.three nm #[.int .u64 a,.int .u64 b,.int .u64 c]=(do
  let c:=(←asInt (.int .u64 c)).toNat
  if c>1 then unsupported (.noEntry ("extern/math/bits." ++nm++ ": a carry that is neither 0 nor 1"))
  pure ((←asInt (.int .u64 a)).toNat,(←asInt (.int .u64 b)).toNat,c)):=rfl
 rw[this]
 simp[asInt,asIntOf]
 omega
theorem TY{f:FuncId}{fn:Func}(N:Nat)(hf:P.funcs[f]? =some fn)(AP:(fn.name== "runtime.NumGoroutine")=false)(hb:fn.body.isNone=true)(hn:Extern.findNext fn=none)
  (he:Extern.find fn=(Extern.MathBitsCarry.rows[0]?).map (·.2)):lN P f (sQ.S N):=by
 refine R9 (λx=>sQ N x.1 x.2.1 x.2.2) λw a b c u v hy=> ?_
 simp only[sQ]at hy
 split at hy
 ·rename_i hc
  obtain⟨h1,h2,h3,h4⟩:=hc
  obtain⟨a,rfl⟩:=sO h1
  obtain⟨b,rfl⟩:=sO h2
  obtain⟨c,rfl⟩:=sO h3
  cases hy
  rw[run_callFunc_extern hf AP hb hn he]
  simp[B6 _ a b c ω,Extern.MathBitsCarry.pair,Extern.MathBitsCarry.m64]
 ·cases hy
theorem TZ{f:FuncId}{fn:Func}(N:Nat)(hf:P.funcs[f]? =some fn)(AP:(fn.name== "runtime.NumGoroutine")=false)(hb:fn.body.isNone=true)(hn:Extern.findNext fn=none)
  (he:Extern.find fn=(Extern.MathBitsCarry.rows[1]?).map (·.2)):lN P f (sR.S N):=by
 refine R9 (λx=>sR N x.1 x.2.1 x.2.2) λw a b c u v hy=> ?_
 simp only[sR]at hy
 split at hy
 ·rename_i hc
  obtain⟨h1,pV,h2,yT,h3,h4⟩:=hc
  obtain⟨a,rfl⟩:=sO h1
  obtain⟨b,rfl⟩:=sO h2
  obtain⟨c,rfl⟩:=sO h3
  cases hy
  rw[run_callFunc_extern hf AP hb hn he]
  have e1:((a+18446744073709551616-b-c:Nat):Int)=(a:Int)+18446744073709551616-b-c:=ω
  by_cases h:a<b+c
  ·have h':(a:Int)<(b:Int)+(c:Int):=ω
   simp[B6 _ a b c ω,Extern.MathBitsCarry.pair,Extern.MathBitsCarry.m64,e1,h,h']
  ·have h': ¬(a:Int)<(b:Int)+(c:Int):=ω
   simp[B6 _ a b c ω,Extern.MathBitsCarry.pair,Extern.MathBitsCarry.m64,e1,h,h']
 ·cases hy
end VM
end
section
namespace VM
open Go Go.Shelf Go.RowKit Go.Lib Go.Proofs
variable{P:Program}{ρ:Ren}
def WM(ρ:Ren)(fn:Func):Func:={fn with body:=(Body2.n22 ρ).body,ntmps:=95,results:=(Body2.n22 ρ).results,nfree:=0}
theorem xj(ρ:Ren)(fn:Func):(WM ρ fn).ntmps=95:=rfl
structure WN(P:Program)(e:Ty)(ρ:Ren)(f:FuncId)(fn fo:Func):Prop where
 hf:P.funcs[f]? =some (WM ρ fn)
 t3:P.underlying (ρ.t 3)=some (.int .i64)
 t4:P.underlying (ρ.t 4)=some .bool
 t24:P.underlying (ρ.t 24)=some (.slice (ρ.t 9))
 lay:jX P e (ρ.t 9)
 rH:0<e.size
 mixed:P.follows .mixedOrders=true
set_option maxHeartbeats 4000000 in
set_option maxRecDepth 100000 in
theorem KJ{e:Ty}{f:FuncId}{fn fo:Func}(L:WN P e ρ f fn fo)(w:World)(base:Option Addr)(n c m vc:Nat)(va:Addr)(v':Value)(w':World)(hm:0<m)(hn:n≤c)
  (TG: ∀ty,(Builtin.append_ #[ρ.t 24,ρ.t 24] ty #[.slice base n c,.slice (some va) m vc]).run P w= .ok v' w'):
   Calls P f #[.slice base n c,.int .i64 n,.slice (some va) m vc] w λr w2=>r= .returned v'∧w2=w':=by
 have u3:=run_underlying L.t3;have u4:=run_underlying L.t4;have u24:=run_underlying L.t24
 have t3:=L.t3;have t4:=L.t4;have t24:=L.t24
 have z9:=λw=>c6 L.lay w
 have mixed:=L.mixed
 have yP: ¬((m:Int)=0):=ω
 go_enter L.hf,xj ρ fn
 cases base with
 |none=>
   go_wp2_with (at_builtin;refine Lib.wpList_append_run _ rfl _ _ _ _ rfl _ _ rfl rfl _ _ (TG _) ?_)
   all_goals (go_ret;exact⟨rfl,rfl⟩)
 |some a=>
   obtain⟨ab,ao,asp⟩:=a
   go_wp2_with (at_builtin;refine Lib.wpList_append_run _ rfl _ _ _ _ rfl _ _ rfl rfl _ _ (TG _) ?_)
   all_goals (go_ret;exact⟨rfl,rfl⟩)
theorem run_copy_row{t te e:TypeId}{k:Nat}(ht:P.underlying t=some (.slice e))(hk: ∀w,(Go.sizeOf e).run P w= .ok k w){W:World}{b o dLen dCap sLen sCap n:Nat}{a:Addr}{cs:Array Value}(hg:W.heap[b]? =some (.cells cs te (0,0)))
  {news:List Value} (hnn:Nat.min sLen dLen=n) (hl:news.length=n*k) (hn: ∀j u,news[j]? =some u→W.cell? (a.add j)=some u) (h1: ∀u∈news,u.oneCell'=true) (FZ:o+news.length≤cs.size) (ty:TypeId):
  (Builtin.copy_ #[t,t] ty #[.slice (some ⟨b,o,none⟩) dLen dCap,.slice (some a) sLen sCap]).run P W= .ok (goInt n) (W.setRow b (dI cs.toList o news).toArray):=by
 have hf:=run_firstCells_some (P:=P) W k n a sLen sCap news hl hn
 have CY:=run_storeCells_at (P:=P) b o te news 0 cs W hg ω h1
 simp only[kf]at CY
 simp[Builtin.copy_,run_underlying ht,hk,Builtin.lenOf,hnn,hf,CY,dI]
set_option maxHeartbeats 4000000 in
set_option maxRecDepth 100000 in
theorem T0{e:Ty}{f:FuncId}{fn fo:Func}(L:WN P e ρ f fn fo)(w:World)(b n c i m vc:Nat)(va:Addr)(KK WO:Array Value)(hi:i<n)(hm:0<m)(hr:n+m≤c)(asA:c≤9223372036854775807)
  (hov: ∀x lb cb,(callFunc (ρ.f 29) #[.slice (some va) m vc,.slice (some ⟨b,x,none⟩) lb cb]).run P w= .ok (.value (.bool false)) w)
  (Z7: ∀ty dc sc,(Builtin.copy_ #[(ρ.t 24),(ρ.t 24)] ty #[.slice (some ⟨b,(i+m)*e.size,none⟩) (n+m-(i+m)) dc,.slice (some ⟨b,i*e.size,none⟩) (n+m-i) sc]).run P w.drew= .ok (goInt ((n-i:Nat):Int)) (w.drew.setRow b KK))
  (Z8: ∀W:World,W.heap=(w.setRow b KK).heap→ ∀ty dc,(Builtin.copy_ #[(ρ.t 24),(ρ.t 24)] ty #[.slice (some ⟨b,i*e.size,none⟩) (n+m-i) dc,.slice (some va) m vc]).run P W= .ok (goInt m) (W.setRow b WO)):
   Calls P f #[.slice (some ⟨b,0,none⟩) n c,.int .i64 i,.slice (some va) m vc] w λr w2=>r= .returned (.slice (some ⟨b,0,none⟩) (n+m) c)∧w2=(w.drew.setRow b KK).setRow b WO:=by
 have u3:=run_underlying L.t3;have u4:=run_underlying L.t4;have u24:=run_underlying L.t24
 have t3:=L.t3;have t4:=L.t4;have t24:=L.t24
 have z9:=λw=>c6 L.lay w
 have mixed:=L.mixed
 have yP: ¬((m:Int)=0):=ω
 have EM: ¬((i:Int)=(n:Int)):=ω
 have hw1:IntKind.i64.wrap ((i:Int)+(m:Int))=(i:Int)+(m:Int):=by rw[IntKind.wrap_i64];omega
 have dA:(0:Int)≤(i:Int)+(m:Int):=ω
 have mi:i≤n:=ω
 have TS:((i:Int)+(m:Int)).toNat=i+m:=ω
 have qO: ¬(c=i+m):=ω
 have hb3:(i:Int)≤(n:Int)+(m:Int):=ω
 have hb4: ¬(c=i):=ω
 go_enter L.hf,xj ρ fn
 go_wp2_with (simp only[hov])
 go_region_law_o (refine step_copy_runI rfl _ _ (ρ.t 24) (ρ.t 24) rfl _ _ (by simp[Act.eval,Act.put]) (by simp[Act.eval,Act.put]) (Z7 _ _ _) ?_)
 have h2:=Z8 (w.drew.setRow b KK) rfl
 go_wp2
 go_ret
 exact⟨rfl,rfl⟩
set_option maxHeartbeats 4000000 in
set_option maxRecDepth 100000 in
theorem WQ{e:Ty}{f:FuncId}{fn fo:Func}(L:WN P e ρ f fn fo)(w:World)(b n c i m vc nb G:Nat)(va:Addr)(T1 KK WO:Array Value)(hi:i<n)(hm:0<m)(hnc:n≤c)(hr:c<n+m)(asA:c≤9223372036854775807)(h63:n+m≤9223372036854775807)(hG:n+m≤G)(azU:G≤9223372036854775807)
  (TG: ∀ty,(Builtin.append_ #[(ρ.t 24),(ρ.t 3)] ty #[.slice (some ⟨b,0,none⟩) i c,.int .i64 ((n:Int)+(m:Int)-(i:Int))]).run P w= .ok (.slice (some ⟨w.heap.size,0,none⟩) (n+m) G) (w.drew.alloc (.cells T1 (ρ.t 9))))
  (Z7: ∀W:World,W.heap=(w.alloc (.cells T1 (ρ.t 9))).heap→ ∀ty dc,(Builtin.copy_ #[(ρ.t 24),(ρ.t 24)] ty #[.slice (some ⟨w.heap.size,i*e.size,none⟩) (n+m-i) dc,.slice (some va) m vc]).run P W= .ok (goInt m) (W.setRow w.heap.size KK))
  (Z8: ∀W:World,W.heap=((w.alloc (.cells T1 (ρ.t 9))).setRow w.heap.size KK).heap→ ∀ty dc sc,(Builtin.copy_ #[(ρ.t 24),(ρ.t 24)] ty #[.slice (some ⟨w.heap.size,(i+m)*e.size,none⟩) (n+m-(i+m)) dc,.slice (some ⟨b,i*e.size,none⟩) (n-i) sc]).run P W= .ok (goInt ((n-i:Nat):Int)) (W.setRow w.heap.size WO)):
   Calls P f #[.slice (some ⟨b,0,none⟩) n c,.int .i64 i,.slice (some va) m vc] w λr w2=>r= .returned (.slice (some ⟨w.heap.size,0,none⟩) (n+m) G)∧w2=((w.drew.alloc (.cells T1 (ρ.t 9))).setRow w.heap.size KK).drew.setRow w.heap.size WO:=by
 have u3:=run_underlying L.t3;have u4:=run_underlying L.t4;have u24:=run_underlying L.t24
 have t3:=L.t3;have t4:=L.t4;have t24:=L.t24
 have z9:=λw=>c6 L.lay w
 have mixed:=L.mixed
 have yP: ¬((m:Int)=0):=ω
 have EM: ¬((i:Int)=(n:Int)):=ω
 have hz3:(c:Int)<(n:Int)+(m:Int):=ω
 have hw1:IntKind.i64.wrap ((i:Int)+(m:Int))=(i:Int)+(m:Int):=by rw[IntKind.wrap_i64];omega
 have dA:(0:Int)≤(i:Int)+(m:Int):=ω
 have mi:i≤n:=ω
 have TS:((i:Int)+(m:Int)).toNat=i+m:=ω
 have hGi: ¬(G=i):=ω
 have azV: ¬(G=i+m):=ω
 have hci: ¬(c=i):=ω
 have hb3:(i:Int)≤(n:Int):=ω
 have h1:=Z7 ((w.alloc (.cells T1 (ρ.t 9))).drew) rfl
 have h2:=Z8 (((w.alloc (.cells T1 (ρ.t 9))).drew.setRow w.heap.size KK).drew) rfl
 go_enter L.hf,xj ρ fn
 go_wp2_with (first
   |(at_builtin;refine Lib.wpList_append_run _ rfl _ _ _ _ rfl _ _ rfl rfl _ _ (TG _) ?_)
   |(at_builtin;refine wpList_copy_runI _ rfl _ _ (ρ.t 24) (ρ.t 24) rfl _ _ rfl rfl (Z7 _ (by exact rfl) _ _) ?_)
   |(at_builtin;refine wpList_copy_runI _ rfl _ _ (ρ.t 24) (ρ.t 24) rfl _ _ rfl rfl (Z8 _ (by exact rfl) _ _ _) ?_))
 go_region_law_o (refine step_copy_runI rfl _ _ (ρ.t 24) (ρ.t 24) rfl _ _ (by simp[Act.eval,Act.put]) (by simp[Act.eval,Act.put]) (h2 _ _ _) ?_)
 go_wp2
 go_ret
 exact⟨rfl,rfl⟩
theorem AV{α:Type}(A Z news:List α):dI (A++Z) A.length news=A++(news++Z.drop news.length):=by
 unfold dI
 rw[wI rfl,bU,←ji,lH rfl]
theorem pO.amV{w:World}{M:Nat→Prop}{e:Ty}{cs:List Value}{l:List e.den}(h:pO w M e cs l)(i:Nat):pO w M e (cs.take (i*e.size)) (l.take i):=by
 intro j hj
 rw[bE]at hj
 have:=dJ (s:=e.size) (show j<i by omega)
 rw[ra,rf,fT ω,zX]
 exact h j ω
theorem pO.amW{w:World}{M:Nat→Prop}{e:Ty}{cs:List Value}{l:List e.den}(h:pO w M e cs l)(i:Nat):pO w M e ((cs.drop (i*e.size)).take ((l.length-i)*e.size)) (l.drop i):=by
 intro j hj
 rw[dy]at hj
 have:=dJ (s:=e.size) hj
 rw[ra,rf,fT ω,ji,Fo,←dR]
 exact h (i+j) ω
theorem xW{w w':World}{M0:Nat→Prop}{hs:List Nat}{e:Ty}{rb cap:Nat}{row:Array Value}{t:TypeId}{l:List e.den}(vi: ∀b,M0 b→b<w.heap.size)(yD: ∀b∈hs,¬M0 b)
  (hfr: ∀b,b<w.heap.size→b∉hs→w'.heap[b]? =w.heap[b]?) (pT:w.heap.size≤w'.heap.size) (hrb:rb<w.heap.size→rb∈hs) (hos:w'.os=w.os) (htp:w'.tape=w.tape) (VX:w'.output=w.output)
  (D6:w'.heap[rb]? =some (.cells row t (0,0))) (h0:0<cap) (hl:l.length≤cap) (hm:cap≤maxLen) (hrs:row.size=cap*e.size) (kd:pO w (λb=>M0 b∨b∈hs) e row.toList l):
  ∃us M',Value.slice (some ⟨rb,0,none⟩) l.length cap=yQ us∧RR w' M' [.own e] l us []∧Left w M0 hs w' M'∧(bL [.own e] us []).Nodup∧ ∀b∈bL [.own e] us [],¬M0 b:=by
 have MB:rb<w'.heap.size:=(kP.1 D6).1
 have hk:dP w (λb=>M0 b∨b∈hs) w' (λb=>M0 b∨b=rb):=⟨pT,λb hb hn=>hfr b hb (λh=>hn (.inr h)),λb hb h=>h.elim .inl (λe=> .inr (e▸hrb (e▸hb)))⟩
 have wu:bL [.own e] [Value.slice (some ⟨rb,0,none⟩) l.length cap] []=[rb]:=by
  have:cap≠0:=ω
  simp[bL,cV,AM.iD,dQ,this]
 refine⟨[.slice (some ⟨rb,0,none⟩) l.length cap],λb=>M0 b∨b=rb,rfl,?_,?_,?_,?_⟩
 ·simp only[RR]
  refine .inr ⟨_,[],rfl,rfl,rfl,?_,rfl,trivial⟩
  simp only[A1,ER,pU]
  exact .inr ⟨rb,row,t,cap,rfl,D6,.inr rfl,h0,hl,hm,hrs,kd.bG hk⟩
 ·exact⟨λb h=> .inl h,λb h=>h.elim (λh=>kQ (vi b h) pT) (λh=>h▸MB),λb hb h=>h.elim .inl (λe=> .inr (e▸hrb (e▸hb))),hfr,pT,hos,htp,VX⟩
 ·rw[wu];simp
 ·rw[wu]
  intro b hb h
  rw[cg]at hb
  subst hb
  exact yD b (hrb (vi b h)) h
theorem setRow_other(w:World){b c:Nat}(r:Array Value)(h:c≠b):(w.setRow b r).heap[c]? =w.heap[c]? :=by
 unfold World.setRow
 rw[Array.getElem?_modify,ah (λe=>h e.symm)]
theorem setRow_size(w:World)(b:Nat)(r:Array Value):(w.setRow b r).heap.size=w.heap.size:=by
 unfold World.setRow;simp
theorem alloc_old(w:World)(o:Obj){c:Nat}(h:c<w.heap.size):(w.alloc o).heap[c]? =w.heap[c]? :=by
 show(w.heap.push o)[c]? =_
 rw[Array.getElem?_push,ah ω]
theorem oj(w:World)(o:Obj):(w.alloc o).heap[w.heap.size]? =some o:=by
 show(w.heap.push o)[w.heap.size]? =_
 simp
theorem vk(w:World)(o:Obj):(w.alloc o).heap.size=w.heap.size+1:=by
 show(w.heap.push o).size=_
 simp
theorem vl{w:World}{b:Nat}{cs:Array Value}{t:TypeId}{f:Nat×Nat}(h:w.heap[b]? =some (.cells cs t f))(o n:Nat): ∀j u,((cs.toList.drop o).take n)[j]? =some u→w.cell? ((⟨b,o,none⟩:Addr).add j)=some u:=by
 intro j u hj
 rw[Addr.add_lit]
 rw[mf]at hj
 split at hj
 ·rw[mg,fR]at hj
  simp only[World.cell?,h]
  simpa using hj
 ·cases hj
theorem Sa{w:World}{M:Nat→Prop}{v:Value}{e:Ty}{l:List e.den}(h:ER w M v (.own e l)):(l=[]∧ ∃a,v= .slice a 0 0)∨
 ∃b cs t cap,v= .slice (some ⟨b,0,none⟩) l.length cap∧w.heap[b]? =some (.cells cs t (0,0))∧M b∧0<cap∧l.length≤cap∧cap≤maxLen∧cs.size=cap*e.size∧pO w M e cs.toList l:=h
end VM
end
section
namespace VM
open Go Go.Shelf Go.RowKit Go.Lib Go.Proofs
variable{P:Program}{ρ:Ren}
theorem Nq{w:World}{t e':TypeId}{e:Ty}(hu:P.underlying t=some (.slice e'))(hle:jX P e e'){n m cap cp:Nat}{olds news:List Value}{base:Option Addr}{a':Addr}(V1:base=none→n=0∧cap=0)
  (wi:olds.length=n*e.size) (ho: ∀b,base=some b→ ∀j u,olds[j]? =some u→w.cell? (b.add j)=some u) (Y8:news.length=m*e.size) (hn: ∀j u,news[j]? =some u→w.cell? (a'.add j)=some u)
  (hg:cap<n+m) (hs:n+m<Al):
  ∃nv rest,(∀ty,(Builtin.append_ #[t,t] ty #[.slice base n cap,.slice (some a') m cp]).run P w= .ok (.slice (some ⟨w.heap.size,0,none⟩) (n+m) nv) (w.drew.alloc (.cells (olds++news++rest).toArray e')))∧
   n+m≤nv∧nv≤maxLen∧rest.length=(nv-(n+m))*e.size:=by
 obtain⟨i,hi,pT,hz,hby⟩:=hle.base
 have hzs:(bD e e.bS).cells.size=e.size:=by rw[←ba,eX,lM]
 have h63:n+m≤maxLen:=by simp only[Al,maxLen]at hs ⊢;omega
 have FZ:(n+m)*i.bytes≤140737488355328:=by
  have:(n+m)*i.bytes≤68719476736*2048:=wM (by simp only[Al]at hs;omega) hby
  omega
 refine⟨grownCap w (n+m) cap e',(Builtin.zeroCells (bD e e.bS).cells (grownCap w (n+m) cap e'-(n+m))).toList,λty=> ?_,grownCap_ge _ _ _ _,grownCap_le_maxLen _ _ _ _ h63,?_⟩
 ·cases base with
  |none=>
   obtain⟨rfl,rfl⟩:=V1 rfl
   have ho0:olds=[]:=qg (by rw[wi];simp)
   subst ho0
   have:=run_append_nil (P:=P) w t ty e' i _ hu hi hz a' m cp news (by rw[Y8,pT]) hn (by simpa using hg) (by simp only[Al]at hs;omega) (by simp at FZ;omega)
   simp only[fh,cM]
   rw[this]
   congr 2
   apply gz (λz=>Obj.cells z e' (0,0))
   apply gb;simp
  |some b=>
   have:=run_append_grow (P:=P) w t ty e' i _ hu hi hz b n cap olds (by rw[wi,pT]) (ho b rfl) a' m cp news (by rw[Y8,pT]) hn hg (by simp only[Al]at hs;omega) (growslice_fits hg FZ)
   rw[this]
   congr 2
   apply gz (λz=>Obj.cells z e' (0,0))
   apply gb;simp
 ·rw[ba,size_zeroCells,hzs]
theorem T2{w:World}{t tn e':TypeId}{e:Ty}(hu:P.underlying t=some (.slice e'))(TS:P.underlying tn=some (.int .i64))(hle:jX P e e')(ahC:0<e.size){n k cap:Nat}{olds:List Value}{b:Addr}
  (wi:olds.length=n*e.size) (ho: ∀j u,olds[j]? =some u→w.cell? (b.add j)=some u) (hk:0<k) (hg:cap<n+k) (hs:n+k<Al):
  ∃nv rest,(∀ty,(Builtin.append_ #[t,tn] ty #[.slice (some b) n cap,.int .i64 k]).run P w= .ok (.slice (some ⟨w.heap.size,0,none⟩) (n+k) nv) (w.drew.alloc (.cells (olds++rest).toArray e')))∧
   n+k≤nv∧nv≤maxLen∧rest.length=(nv-n)*e.size:=by
 obtain⟨i,hi,pT,hz,hby⟩:=hle.base
 have hzs:(bD e e.bS).cells.size=e.size:=by rw[←ba,eX,lM]
 have h63:n+k≤maxLen:=by simp only[Al,maxLen]at hs ⊢;omega
 have FZ:(n+k)*i.bytes≤140737488355328:=by
  have:(n+k)*i.bytes≤68719476736*2048:=wM (by simp only[Al]at hs;omega) hby
  omega
 have hkb:k*i.bytes≤281474976710656:=by
  have:k*i.bytes≤(n+k)*i.bytes:=jh _ ω
  omega
 have Vp:=grownCap_ge w (n+k) cap e'
 refine⟨grownCap w (n+k) cap e',(Builtin.zeroCells (bD e e.bS).cells k++Builtin.zeroCells (bD e e.bS).cells (grownCap w (n+k) cap e'-(n+k))).toList,λty=> ?_,Vp,grownCap_le_maxLen _ _ _ _ h63,?_⟩
 ·have hold:(Builtin.firstCells i.size n (.slice (some b) n cap)).run P w.drew= .ok olds.toArray w.drew:=run_firstCells_some w.drew i.size n b n cap olds (by rw[wi,pT]) (λj u hj=>ho j u hj)
  have:=Lib.run_append_grow_zeros w t tn ty e' i _ .i64 .i64 hu TS hi hz (some b) n cap olds hold k hk (by rw[pT];exact ahC) hg (by simp only[Al]at hs;omega) hkb (growslice_fits hg FZ)
  rw[this]
  congr 2
  apply gz (λz=>Obj.cells z e' (0,0))
  apply gb;simp
 ·rw[Array.toList_append,aX,ba,ba,size_zeroCells,size_zeroCells,hzs,←dR]
  congr 1;omega
structure OvP(P:Program)(ρ:Ren)(fo:Func):Prop where
 hf:P.funcs[ρ.f 29]? =some fo
 name:(fo.name== "runtime.NumGoroutine")=false
 body:fo.body.isNone=true
 next:Extern.findNext fo=none
 find:Extern.find fo=some (Extern.SlicesOverlaps.overlaps #[ρ.t 24,ρ.t 24] #[ρ.t 4])
theorem Qz{e:Ty}{f:FuncId}{fn fo:Func}(L:WN P e ρ f fn fo)(O:OvP P ρ fo)(AP:(fn.name== "runtime.NumGoroutine")=false)(amX:(Body2.n22 ρ).body.isNone=false)(N:Nat):lN P f (nn e N):=by
 refine⟨(λh=>by cases h),rfl,λM0 w vs x y vi hA wj yD hy=> ?_⟩
 obtain⟨l,i,v⟩:=x
 have Jj:uY N l i v=some y:=hy
 clear hy
 simp only[nn,jg]at hA
 obtain⟨v0,Zb,rfl,h0,v1,vs2,rfl,h1,v2,vs3,rfl,h2,rfl⟩:=hA
 simp only[uY]at Jj
 split at Jj
 case isFalse=>cases Jj
 rename_i hc
 cases Jj
 obtain⟨hi0,D1,MJ,Nr⟩:=hc
 obtain⟨i,rfl⟩:=sO hi0
 have amY:i≤l.length:=ω
 simp only[A1,pU,sy,V,Ty.isAgg,gW,eo,Rd,eN,eA]at h0 h1 h2
 subst h1
 have hk:=L.rH
 replace MJ:ℓ (α:=e.den) v=1:=MJ
 rcases Sa h2 with⟨TE,_⟩|⟨b2,RP,t2,AW,ZD,RQ,Kr,hc2,hl2,qN,WR,xQ⟩
 ·rw[TE]at MJ;cases MJ
 replace ZD:v2= .slice (some ⟨b2,0,none⟩) 1 AW:=by rw[ZD];congr 1
 subst ZD
 have Zy:e.size≤RP.toList.length:=by
  rw[ba (xs:=RP),WR]
  exact Nat.le_mul_of_pos_left _ hc2
 obtain⟨news,WS⟩: ∃news,news=RP.toList.take e.size:=⟨_,rfl⟩
 have I6:news.length=1*e.size:=by rw[WS,bE,kg];omega
 have hnr:pO w (λb=>M0 b∨b∈dB (nn e N).args [v0,.int .i64 (i:Int),.slice (some ⟨b2,0,none⟩) 1 AW]) e news v:=by
  rw[WS];exact xQ.take (by rw[MJ,kg];exact aI _)
 have hnc: ∀j u,news[j]? =some u→w.cell? ((⟨b2,0,none⟩:Addr).add j)=some u:=by
  have:=vl RQ 0 e.size
  rw[c9]at this
  rw[WS];exact this
 have hn1: ∀u∈news,u.oneCell'=true:=by
  have:=hnr 0 ω
  rw[FC,c9,gh ω]at this
  exact this.kS
 have qO:dQ (.slice (some ⟨b2,0,none⟩) 1 AW)=some b2:=by simp[dQ];omega
 replace Nr:ℓ (α:=e.den) l+1<Al:=Nr
 have hyl:(List.take i l++(v++List.drop i l)).length=l.length+1:=by rw[aX,aX,bE,dy,MJ];omega
 have hbn:(WM ρ fn).body.isNone=false:=amX
 refine tu L.hf AP hbn ?_
 rcases Sa h0 with⟨rfl,ad,rfl⟩|⟨b1,yO,t1,AK,rfl,Kx,hM1,zz,Zc,kO,I9,xe⟩
 ·
  have hi:i=0:=by simpa using amY
  subst hi
  obtain⟨nv,rest,cU,Vo,iS,MB⟩:=Nq (P:=P) (w:=w) L.t24 L.lay (n:=0) (m:=1) (cap:=0) (cp:=AW) (olds:=[]) (news:=news) (base:=ad) (a':=⟨b2,0,none⟩) (λ_=>⟨rfl,rfl⟩) (by simp) (λ_ _ j u hj=>by simp at hj) I6 hnc ω (by simp only[Al];omega)
  refine(KJ L w ad 0 0 1 AW ⟨b2,0,none⟩ _ _ ω (aI _) cU).mono ?_
  rintro e1 w' ⟨rfl,rfl⟩
  refine⟨_,rfl,?_⟩
  simp only[fh]at Vo MB
  have hv:v=v++[]:=by simp
  have:=xW (e:=e) (rb:=w.heap.size) (cap:=nv) (l:=v) (t:=ρ.t 9) (w:=w) (w':=w.drew.alloc (.cells ([]++news++rest).toArray (ρ.t 9))) vi yD (λb hb _=>alloc_old w.drew _ hb) (by rw[vk];exact tU _) (λh=>absurd h (FB _)) rfl rfl rfl (oj w.drew _) ω ω iS
   (by simp only[cM,iI,aX,I6,MB,←dR];congr 1;omega) (by simpa using hnr.more (cs':=rest) (by rw[MJ,I6];exact aI _))
  rw[MJ]at this
  simpa [nn,fb,AM.iD]using this
 ·have dA:dQ (.slice (some ⟨b1,0,none⟩) l.length AK)=some b1:=by simp[dQ];omega
  have hh:dB (nn e N).args [.slice (some ⟨b1,0,none⟩) l.length AK,.int .i64 (i:Int),.slice (some ⟨b2,0,none⟩) 1 AW]=[b1,b2]:=by simp[nn,dB,cV,dA,qO]
  rw[hh]at wj yD hnr ⊢
  replace xe:pO w (λb=>M0 b∨b∈[b1,b2]) e yO.toList l:=by rw[←hh];exact xe
  have ij:b1≠b2:=by simpa using wj
  have asC:b1<w.heap.size:=(kP.1 Kx).1
  have Zz:b2<w.heap.size:=(kP.1 RQ).1
  have qp:l.length*e.size≤yO.toList.length:=by rw[ba (xs:=yO),I9];exact jh _ Zc
  have hik:i*e.size≤l.length*e.size:=jh _ amY
  obtain⟨A,hAe⟩: ∃A,A=yO.toList.take (i*e.size):=⟨_,rfl⟩
  obtain⟨mid,ahI⟩: ∃mid,mid=(yO.toList.drop (i*e.size)).take ((l.length-i)*e.size):=⟨_,rfl⟩
  have Sb:A.length=i*e.size:=by rw[hAe,bE];omega
  have CT:mid.length=(l.length-i)*e.size:=by
   rw[ahI,bE,dy,rl];omega
  have hAr:=xe.amV i
  have hmr:=xe.amW i
  rw[←hAe]at hAr
  rw[←ahI]at hmr
  have hti:(l.take i).length=i:=by rw[bE];omega
  have Sc: ∀rest:List Value,pO w (λb=>M0 b∨b∈[b1,b2]) e (A++(news++(mid++rest))) (l.take i++(v++l.drop i)):=λrest=>
   hAr.append (by rw[Sb,hti]) (hnr.append (by rw[I6,MJ]) (hmr.more (by rw[dy,CT];exact aI _)))
  have hAc: ∀j u,A[j]? =some u→w.cell? ((⟨b1,0,none⟩:Addr).add j)=some u:=by
   have:=vl Kx 0 (i*e.size)
   rw[c9]at this
   rw[hAe];exact this
  have hmc: ∀j u,mid[j]? =some u→w.cell? ((⟨b1,i*e.size,none⟩:Addr).add j)=some u:=by
   rw[ahI];exact vl Kx (i*e.size) _
  have am0: ∀u∈mid,u.oneCell'=true:=by
   intro u hu
   obtain⟨j,hj,rfl⟩:=qX.1 hu
   rw[CT]at hj
   have hq:j/e.size<l.length-i:=Nat.div_lt_of_lt_mul (by rw[Ac];exact hj)
   have:=(hmr (j/e.size) (by rw[dy];exact hq)).kS
   refine this _ ?_
   have hjm:j/e.size*e.size+j%e.size=j:=by rw[Ac];exact Nat.div_add_mod j e.size
   have Ax:j%e.size<e.size:=Nat.mod_lt _ hk
   rw[List.mem_iff_getElem?]
   refine⟨j%e.size,?_⟩
   rw[mf,ak Ax,mg,hjm]
   exact bo _
  by_cases mi:i=l.length
  ·
   subst mi
   have P9:mid=[]:=qg (by rw[CT];simp)
   by_cases AG:l.length+1≤AK
   ·obtain⟨ie,hie,pT,_⟩:=L.lay.base
    have cU: ∀ty,(Builtin.append_ #[ρ.t 24,ρ.t 24] ty #[.slice (some ⟨b1,0,none⟩) l.length AK,.slice (some ⟨b2,0,none⟩) 1 AW]).run P w=_:=λty=>
     MQ (ty:=ty) (cp:=AW) L.t24 hie Kx (by rw[pT];exact I9) (by rw[pT];exact I6) hnc hn1 AG
    refine(KJ L w _ _ _ 1 AW ⟨b2,0,none⟩ _ _ ω Zc cU).mono ?_
    rintro e1 w' ⟨rfl,rfl⟩
    refine⟨_,rfl,?_⟩
    rw[pT]
    have D6:dI yO.toList (l.length*e.size) news=A++(news++(mid++yO.toList.drop (l.length*e.size+news.length))):=by
     rw[P9,hAe];simp[dI]
    have:=xW (e:=e) (rb:=b1) (cap:=AK) (l:=l.take l.length++(v++l.drop l.length)) (t:=t1) (w:=w) (w':=w.setRow b1 (dI yO.toList (l.length*e.size) news).toArray) vi yD (λb hb hn=>setRow_other w _ (λe=>hn (by simp[e]))) (by rw[setRow_size];exact aI _) (λ_=>by simp) rfl rfl rfl (setRow_heap w b1 yO _ t1 _ Kx) zz (by rw[hyl];exact AG) kO
     (by
      have:=dJ (s:=e.size) (show l.length<AK by omega)
      rw[D6,iI]
      simp only[aX,P9,bY,dy,ba,Sb,I6,I9]
      omega)
     (by rw[D6];exact Sc _)
    rw[hyl]at this
    simpa [nn,fb,AM.iD]using this
   ·obtain⟨nv,rest,cU,Vo,iS,MB⟩:=Nq (P:=P) (w:=w) L.t24 L.lay (n:=l.length) (m:=1) (cap:=AK) (cp:=AW) (olds:=A) (news:=news) (base:=some ⟨b1,0,none⟩) (a':=⟨b2,0,none⟩) (λh=>by cases h) Sb (λb hb=>by cases hb;exact hAc) I6 hnc ω Nr
    refine(KJ L w _ _ _ 1 AW ⟨b2,0,none⟩ _ _ ω Zc cU).mono ?_
    rintro e1 w' ⟨rfl,rfl⟩
    refine⟨_,rfl,?_⟩
    have:=xW (e:=e) (rb:=w.heap.size) (cap:=nv) (l:=l.take l.length++(v++l.drop l.length)) (t:=ρ.t 9) (w:=w) (w':=w.drew.alloc (.cells (A++news++rest).toArray (ρ.t 9))) vi yD (λb hb _=>alloc_old w.drew _ hb) (by rw[vk];exact tU _) (λh=>absurd h (FB _)) rfl rfl rfl (oj w.drew _) ω (by rw[hyl];exact Vo) iS
     (by simp only[iI,aX,Sb,I6,MB,←dR];congr 1;omega) (by have:=Sc rest;rw[P9,cM,←bU]at this;exact this)
    rw[hyl]at this
    simpa [nn,fb,AM.iD]using this
  ·have ahJ:i<l.length:=ω
   have ZM:i*e.size+e.size≤l.length*e.size:=dJ ahJ
   have e1k:(i+1)*e.size=A.length+news.length:=by rw[Sb,I6,dR]
   have BS:Nat.min 1 (l.length+1-i)=1:=fT ω
   by_cases AG:l.length+1≤AK
   ·
    have am1:l.length*e.size+e.size≤yO.toList.length:=by rw[ba (xs:=yO),I9];exact dJ ω
    have hsh: ∀(b:Nat) (c:Array Value) (t:TypeId),w.heap[b]? =some (.cells c t (0,0))→w.shape? b=some (t,c.size):=λb c t h=>by simp[World.shape?,h]
    obtain⟨B,hB⟩: ∃B,B=yO.toList.drop (i*e.size):=⟨_,rfl⟩
    have am2:yO.toList=A++B:=by rw[hAe,hB,iG]
    have hBl:B.length=yO.toList.length-i*e.size:=by rw[hB,dy]
    have hBk:(B.take e.size).length=e.size:=by rw[bE];omega
    have Ns:dI yO.toList ((i+1)*e.size) mid=A++(B.take e.size++(mid++(B.drop e.size).drop mid.length)):=by
     have:yO.toList=(A++B.take e.size)++B.drop e.size:=by rw[bU,iG];exact am2
     rw[this,show(i+1)*e.size=(A++B.take e.size).length from by rw[aX,hBk,Sb,dR,kg],AV,bU]
    have Di:dI (dI yO.toList ((i+1)*e.size) mid) (i*e.size) news=A++(news++(mid++(B.drop e.size).drop mid.length)):=by
     rw[Ns,←Sb,AV,I6,kg,lH hBk]
    refine(T0 L w b1 l.length AK i 1 AW ⟨b2,0,none⟩ (dI yO.toList ((i+1)*e.size) mid).toArray (dI (dI yO.toList ((i+1)*e.size) mid) (i*e.size) news).toArray ahJ ω AG (by simp only[maxLen]at kO;omega) (λx lb cb=> ?_) (λty dc sc=> ?_) (λW hW ty dc=> ?_)).mono ?_
    ·rw[run_callFunc_extern O.hf O.name O.body O.next O.find,
      Lib.run_overlaps_apart w (ρ.t 24) (ρ.t 4) (ρ.t 9) L.t24 e.size (λw=>c6 L.lay w) ⟨b2,0,none⟩ ⟨b1,x,none⟩ 1 AW lb cb (dz ij) t2 t1 RP.size yO.size (hsh b2 RP t2 RQ) (hsh b1 yO t1 Kx) (by rw[I9];exact Nat.ne_of_gt (Nat.mul_pos zz hk)) (by simp[World.frozen?,RQ]) (by simp[World.frozen?,RQ])]
     rfl
    ·exact run_copy_row (P:=P) (W:=w.drew) L.t24 (λw=>c6 L.lay w) (cs:=yO) Kx (news:=mid) (n:=l.length-i) (by simp only[Nat.min_def];split<;>omega) CT hmc am0 (by rw[CT,dR,kg];rw[ba (xs:=yO)]at am1;rw[rl];omega) ty
    ·exact run_copy_row (P:=P) (W:=W) L.t24 (λw=>c6 L.lay w) (cs:=(dI yO.toList ((i+1)*e.size) mid).toArray) (te:=t1) (by rw[hW];exact setRow_heap w b1 yO _ t1 _ Kx) (news:=news) (n:=1) BS I6
      (λj u hj=>by
       have:=hnc j u hj
       rw[Addr.add_lit]at this ⊢
       rw[show W.cell? ⟨b2,0+j,none⟩=w.cell? ⟨b2,0+j,none⟩from World.cell?_of_block (by rw[hW];exact setRow_other w _ (dz ij))]
       exact this) hn1 (by
       rw[iI,Ns]
       simp only[aX,hBk,Sb,I6]
       omega) ty
    ·rintro e1 w' ⟨rfl,rfl⟩
     refine⟨_,rfl,?_⟩
     have:=xW (e:=e) (rb:=b1) (cap:=AK) (l:=l.take i++(v++l.drop i)) (t:=t1) (w:=w) (w':=(w.drew.setRow b1 (dI yO.toList ((i+1)*e.size) mid).toArray).setRow b1 (dI (dI yO.toList ((i+1)*e.size) mid) (i*e.size) news).toArray) vi yD
      (λb hb hn=>(setRow_other _ _ (λe=>hn (by simp[e]))).trans (setRow_other _ _ (λe=>hn (by simp[e])))) (by rw[setRow_size,setRow_size];exact aI _) (λ_=>by simp) rfl rfl rfl (setRow_heap _ b1 _ _ t1 _ (setRow_heap w.drew b1 yO _ t1 _ Kx)) zz (by rw[hyl];exact AG) kO
      (by
       rw[Di,iI]
       rw[ba (xs:=yO)]at am1 hBl
       simp only[aX,dy,Sb,I6,CT,hBl,rl]
       omega)
      (by rw[Di];exact Sc _)
     rw[hyl]at this
     simpa [nn,fb,AM.iD]using this
   ·
    obtain⟨nv,Z,cU,Vo,iS,hZl⟩:=T2 (P:=P) (w:=w) L.t24 L.t3 L.lay hk (n:=i) (k:=l.length+1-i) (cap:=AK) (olds:=A) (b:=⟨b1,0,none⟩) Sb hAc ω ω ω
    have asF:i+(l.length+1-i)=l.length+1:=ω
    rw[asF]at cU Vo
    have hZk:(l.length+1-i)*e.size≤Z.length:=by rw[hZl];exact jh _ ω
    rw[rl,dR,kg]at hZk
    have Ns:dI (A++Z) (i*e.size) news=A++(news++Z.drop news.length):=by rw[←Sb,AV]
    have Di:dI (dI (A++Z) (i*e.size) news) ((i+1)*e.size) mid=A++(news++(mid++(Z.drop news.length).drop mid.length)):=by
     rw[Ns,←bU,e1k,←aX,AV,bU]
    have hnb:w.heap.size≠b1:=ω
    have az3:b2≠w.heap.size:=ω
    refine(WQ L w b1 l.length AK i 1 AW 0 nv ⟨b2,0,none⟩ (A++Z).toArray (dI (A++Z) (i*e.size) news).toArray (dI (dI (A++Z) (i*e.size) news) ((i+1)*e.size) mid).toArray ahJ ω Zc ω (by simp only[maxLen]at kO;omega) (by simp only[Al]at Nr;omega) Vo (by simp only[maxLen]at iS;omega) (λty=> ?_) (λW hW ty dc=> ?_) (λW hW ty dc sc=> ?_)).mono ?_
    ·have:=cU ty
     rw[show(((l.length+1-i:Nat):Int))=(l.length:Int)+(1:Nat)-(i:Int)from by omega]at this
     exact this
    ·exact run_copy_row (P:=P) (W:=W) L.t24 (λw=>c6 L.lay w) (cs:=(A++Z).toArray) (te:=ρ.t 9) (by rw[hW];exact oj w _) (news:=news) (n:=1) BS I6
      (λj u hj=>by
       have:=hnc j u hj
       rw[Addr.add_lit]at this ⊢
       rw[show W.cell? ⟨b2,0+j,none⟩=w.cell? ⟨b2,0+j,none⟩from World.cell?_of_block (by rw[hW];exact alloc_old w _ Zz)]
       exact this) hn1 (by rw[iI,aX,Sb,I6];omega) ty
    ·exact run_copy_row (P:=P) (W:=W) L.t24 (λw=>c6 L.lay w) (cs:=(dI (A++Z) (i*e.size) news).toArray) (te:=ρ.t 9) (by rw[hW];exact setRow_heap _ _ _ _ _ _ (oj w _)) (news:=mid) (n:=l.length-i) (by simp only[Nat.min_def];split<;>omega) CT
      (λj u hj=>by
       have:=hmc j u hj
       rw[Addr.add_lit]at this ⊢
       rw[show W.cell? ⟨b1,i*e.size+j,none⟩=w.cell? ⟨b1,i*e.size+j,none⟩from World.cell?_of_block (by rw[hW];exact(setRow_other _ _ (dz hnb)).trans (alloc_old w _ asC))]
       exact this) am0 (by
       rw[iI,Ns]
       simp only[aX,dy,Sb,I6,CT,dR,rl]
       omega) ty
    ·rintro e1 w' ⟨rfl,rfl⟩
     refine⟨_,rfl,?_⟩
     have hg':((w.drew.alloc (.cells (A++Z).toArray (ρ.t 9))).setRow w.heap.size (dI (A++Z) (i*e.size) news).toArray).drew.heap[w.heap.size]? =some (.cells (dI (A++Z) (i*e.size) news).toArray (ρ.t 9) (0,0)):=setRow_heap _ _ _ _ _ _ (oj w.drew _)
     have:=xW (e:=e) (rb:=w.heap.size) (cap:=nv) (l:=l.take i++(v++l.drop i)) (t:=ρ.t 9) (w:=w) (w':=((w.drew.alloc (.cells (A++Z).toArray (ρ.t 9))).setRow w.heap.size (dI (A++Z) (i*e.size) news).toArray).drew.setRow w.heap.size (dI (dI (A++Z) (i*e.size) news) ((i+1)*e.size) mid).toArray) vi yD
      (λb hb hn=>(setRow_other _ _ ω).trans ((setRow_other _ _ ω).trans (alloc_old w.drew _ hb))) (by rw[setRow_size];show _≤(World.setRow _ _ _).heap.size;rw[setRow_size,vk];exact tU _) (λh=>absurd h (FB _)) rfl rfl rfl (setRow_heap _ _ _ _ _ _ hg') ω (by rw[hyl];exact Vo) iS
      (by
       rw[Di,iI]
       have hmul:(nv-i)*e.size=nv*e.size-i*e.size:=rl _ _ _
       have hci:i*e.size≤nv*e.size:=jh _ ω
       simp only[aX,dy,Sb,I6,CT,hZl,hmul,rl]at hZk ⊢
       omega)
      (by rw[Di];exact Sc _)
     rw[hyl]at this
     simpa [nn,fb,AM.iD]using this
end VM
end
section
namespace VM
open Go Go.RowKit
variable{P:Program}
def mD(k n:Nat)(a:Int):Array Value:=(List.replicate k (Value.int .i64 a)++List.replicate (n-k) (Value.int .i64 0)).toArray
theorem B7{k n:Nat}{a:Int}(h:k≤n):(mD k n a).size=n:=by simp[mD];omega
theorem Jo{k m n:Nat}{a:Int}(h:k+m≤n):(dI (mD k n a).toList (k*1) (List.replicate m (Value.int .i64 a))).toArray=mD (k+m) n a:=by
 unfold mD
 show(dI (List.replicate k (Value.int .i64 a)++List.replicate (n-k) (Value.int .i64 0)) (k*1) (List.replicate m (Value.int .i64 a))).toArray=_
 congr 1
 have:=AV (List.replicate k (Value.int .i64 a)) (List.replicate (n-k) (Value.int .i64 0)) (List.replicate m (Value.int .i64 a))
 rw[bP]at this
 rw[wO,this,←bU,List.replicate_append_replicate]
 simp
 omega
theorem QA{w:World}{b k n:Nat}{a:Int}{t:TypeId}(h:w.heap[b]? =some (.cells (mD k n a) t (0,0)))(m:Nat)(hm:m≤k): ∀j u,(List.replicate m (Value.int .i64 a))[j]? =some u→w.cell? ((⟨b,0,none⟩:Addr).add j)=some u:=by
 intro j u hj
 rw[Addr.add_lit,fh]
 obtain⟨dU,rfl⟩:=sN.1 hj
 rw[bP]at dU
 simp only[World.cell?,h,mD]
 show(List.replicate k (Value.int .i64 a)++List.replicate (n-k) (Value.int .i64 0)).toArray[j]? =_
 rw[wC,qj (by simp;omega),uT,ak ω,zM]
theorem T3{W:World}{t e:TypeId}{a:Int}(hu:P.underlying t=some (.slice e))(hle:jX P (.int .i64) e)(m:Nat)(h:m<1048576):
  (Instr.makeSlice t (.int .i64 (m:Int)) (.int .i64 (m:Int))).run P W= .ok (.slice (some ⟨W.heap.size,0,none⟩) m m) (W.alloc (.cells (mD 0 m a) e)):=by
 obtain⟨i,hi,hs,hz,hb⟩:=hle.base
 have FX:(i.bytes:Int)*m≤281474976710656:=by
  have h4:(i.bytes:Int)≤2048:=ω
  have:(i.bytes:Int)*m≤2048*m:=qf h4 ω
  omega
 have cU:=run_make (P:=P) W t e i _ hu hi hz .i64 .i64 m m ω ω FX ω
 rw[cU]
 have h1:madeCells (bD (.int .i64) (Ty.int .i64).bS).cells ((m:Int).toNat*i.size)=mD 0 m a:=by
  rw[hs]
  simp only[mD,aF,Ty.size,wO,zT,cM,Nat.sub_zero]
  apply gb
  apply wG
  intro j
  simp[madeCells,bD,Ty.isAgg,Ty.bS,Value.cells]
  by_cases hj:j<m
  ·simp[hj,uT,Nat.mod_one]
  ·simp[hj,uT]
 rw[h1]
 simp
theorem QB{f:FuncId}{fn:Func}(hf:P.funcs[f]? =some fn)(AP:(fn.name== "runtime.NumGoroutine")=false)(hb:fn.body.isNone=false)(t:TypeId)(N:Nat)
  (h: ∀(w:World) (a n:Int) (b off c:Nat),0<n→n<1048576→w.cell? ⟨b,off,none⟩=some (.int .i64 a)→1≤c→Calls P f #[.slice (some ⟨b,off,none⟩) 1 c,.int .i64 n] w λe w'=> ∃rb,e= .returned (.slice (some ⟨rb,0,none⟩) n.toNat n.toNat)∧w.heap.size≤rb∧w'.heap[rb]? =some (.cells (mD n.toNat n.toNat a) t (0,0))∧Below w.heap.size w w'):
  lN P f (EC (.int .i64) N):=by
 refine⟨(λh=>by cases h),rfl,λM0 w vs x y vi hA wj yD hy=> ?_⟩
 obtain⟨l,n⟩:=x
 have Jj:Ao N l n=some y:=hy
 simp only[EC,jg]at hA
 obtain⟨v0,Zb,rfl,h0,v1,vs2,rfl,h1,rfl⟩:=hA
 simp only[Ao]at Jj
 split at Jj
 case h_2=>cases Jj
 rename_i l' a
 split at Jj
 case isFalse=>cases Jj
 rename_i hc
 cases Jj
 simp only[A1,pU,sy,V,Ty.isAgg,gW,eo,Rd,eN,eA]at h0 h1
 subst h1
 obtain⟨ad,cap,rfl,Vn,ub⟩:=h0
 obtain⟨b,off,rfl,wu,_,cs',oO,rfl⟩:=ub 0 (by simp)
 have D2:=oO 0 _ rfl
 simp only[aJ]at Vn
 refine tu hf AP hb ((h w a n b off cap hc.1 hc.2 (by simpa using D2) Vn).mono ?_)
 rintro e w' ⟨rb,rfl,hrb,D6,Wv⟩
 refine⟨_,rfl,?_⟩
 have hn:n.toNat≤n.toNat:=aI _
 have hh:dB (EC (.int .i64) N).args [.slice (some ⟨b,off,none⟩) 1 cap,.int .i64 n]=[]:=rfl
 have:=xW (e:= .int .i64) (rb:=rb) (cap:=n.toNat) (l:=List.replicate n.toNat a) (t:=t) (w:=w) (w':=w') (hs:=[]) (M0:=M0) vi (λb hb=>by cases hb) (λc hc _=>Wv.block c hc) Wv.size (λh=>absurd h ω) Wv.os Wv.tape Wv.output D6 ω (by simp) (by simp only[maxLen];omega)
  (by rw[B7 hn];simp[Ty.size]) (by
   intro i hi
   rw[bP]at hi
   simp only[Rd,Ty.size,mD,wO,ri,zT,cN,List.drop_replicate,List.take_replicate,zM]
   rw[show min 1 (n.toNat-i)=1 from by omega];rfl)
 simp only[bP]at this
 exact this
theorem Z9{E:Env}(hE:p8 P E)(ahG:E.io=[]){f:FuncId}{fn:Func}(hf:P.funcs[f]? =some fn)(hc:(Nat.beq E.nt fn.ntmps&&Nat.ble 2 E.nt)=true){w:World}{a b u v:Int}
  (h:Kk E fn [.v (.int .u64),.v (.int .u64)] [.v (.int .u64),.v (.int .u64)] (a,b)=some (u,v)):Calls P f #[.int .u64 a,.int .u64 b] w λe w'=>e= .returned (.tuple #[.int .u64 u,.int .u64 v])∧Below w.heap.size w w':=by
 rw[bQ]at hc
 have Z1:=eK hc.1
 have hlen:=zP hc.2
 refine(B3 (args:=[.v (.int .u64),.v (.int .u64)]) (res:=[.v (.int .u64),.v (.int .u64)]) (y:=(u,v)) (M0:=λ_=>False) (w:=w) (vs:=[.int .u64 a,.int .u64 b]) (x:=(a,b)) hE hf Z1 (λi m hm ug=> ?_) (λi hi=>by rw[ahG]at hi;cases hi) (by rw[←Z1];exact hlen) (λb hb=>hb.elim) ?_ Fy (λb hb=>by cases hb) h).mono ?_
 ·match i,hm with
  |0,hm=>cases hm;cases ug
  |1,hm=>cases hm;cases ug
 ·simp only[jg]
  refine⟨_,_,rfl,?_,_,_,rfl,?_,rfl⟩<;>simp[A1,V,Ty.isAgg,Rd,pU,sy]
 ·rintro e w' ⟨r,rfl,us,M',rfl,MX,hL,_,_⟩
  simp only[RR]at MX
  rcases MX with⟨p,EI,h1,_⟩|⟨r1,Zb,_,_,rfl,xe,MX⟩
  ·cases h1
  ·rcases MX with⟨p,EI,h1,_⟩|⟨r2,vs2,_,_,rfl,xQ,rfl,_⟩
   ·cases h1
   ·simp only[A1,V,Ty.isAgg,gW,eo,Rd,eN,eA,pU,sy]at xe xQ
    subst xe;subst xQ
    exact⟨rfl,hL.os,hL.tape,hL.output,hL.size,λb hb=>hL.frame b hb (by simp[dB,cV])⟩
end VM
end
