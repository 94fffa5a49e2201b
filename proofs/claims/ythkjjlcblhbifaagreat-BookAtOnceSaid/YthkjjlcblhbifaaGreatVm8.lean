/- A part of the proof of BookAtOnce of layer 18: a machine that reads a function of the program as an equation between values. -/
import Derived.Test.YthkjjlcblhbifaaGreatVm7
import Derived.KernelRfl
import Derived.Test.YthkjjlcblhbifaaGreatVm0
import Derived.Laws.Externs
import Derived.Shelf.Spec.SlicesInsertGrow
set_option linter.all false
open List renaming length→ℓ
noncomputable section
section
namespace VM
open Go
@[reducible] def CM.arr:CM→Type→Type
 | .v τ,T| .obj τ,T| .io τ,T| .fn _ τ,T=>τ.den→T
 | .own e,T=>List e.den→T
 | .gg τ _ e,T=>τ.den→List e.den→T
 | .same _,T=>T
@[reducible] def Xo:List (Nat×CM)→Type→Type
 |[],R=>R
 |q::r,R=>q.2.arr (Xo r R)
def CM.lam{T:Type}(s:Nat)(σ:St):(m:CM)→(St→T)→m.arr T
 | .v τ,f=>λx=>f (σ.put s (.val τ x))
 | .own e,f=>λx=>f ((σ.put s (.ref (16*s+14))).kk (16*s+14) (some (.own e x)))
 | .obj τ,f=>λx=>f ((σ.put s (.jd (16*s+14) [])).kk (16*s+14) (some (.obj τ x)))
 | .gg τ q e,f=>λx l=>f (((σ.put s (.jd (16*s+14) [])).kk (16*s+13) (some (.own e l))).kk (16*s+14) (some (.gg τ x q (16*s+13))))
 | .io τ,f=>λx=>f ((σ.put s (.jd (16*s+15) [])).kk (16*s+15) (some (.obj τ x)))
 | .fn g τ,f=>λx=>f (σ.put s (.NL g (qz τ x)))
 | .same s',f=>f (σ.put s (σ.T s'))
def apw{R:Type}(κ:St→R):(L:List (Nat×CM))→St→Xo L R
 |[],σ=>κ σ
 |q::r,σ=>q.2.lam q.1 σ (apw κ r)
@[reducible] def zL:List AM→Type→Type
 |[],R=>R
 |m::r,R=>m.den→zL r R
def Jz{R:Type}:(ms:List AM)→zL ms R→HP ms→R
 |[],g,_=>g
 |[_],g,x=>g x
 |_::n::ms,g,x=>Jz (n::ms) (g x.1) x.2
def VE{R:Type}:(ms:List AM)→(HP ms→R)→zL ms R
 |[],f=>f ()
 |[_],f=>f
 |_::n::ms,f=>λx=>VE (n::ms) λy=>f (x,y)
theorem LR{R:Type}: ∀(ms:List AM) (f:HP ms→R) (x:HP ms),Jz ms (VE ms f) x=f x
 |[],_,()=>rfl
 |[_],_,_=>rfl
 |_::n::ms,f,x=>LR (n::ms) (λy=>f (x.1,y)) x.2
structure Pc where
 k:Nat
 c:List (Nat×CM)
 path:List Nat
 ks:List Nat
def YE:List Pc→Nat→Pc
 |[],_=>⟨0,[],[],[]⟩
 |p::r,k=>cond (Nat.beq k p.k) p (YE r k)
def OC:List Pc→Nat→Option (List (Nat×CM))
 |[],_=>none
 |p::r,k=>cond (Nat.beq k p.k) (some p.c) (OC r k)
def CD:List (Nat×m1)→Nat→List m1
 |[],_=>[]
 |q::r,i=>cond (Nat.beq i q.1) (q.2::CD r i) (CD r i)
def G4:List AM→Nat→List Nat
 |[],_=>[]
 | .io _::r,i=>i::G4 r (i+1)
 | .lo _::r,i=>i::G4 r (i+1)
 |_::r,i=>G4 r (i+1)
structure Fx where
 nt:Nat
 tab:List (Nat×Ty)
 G:List (Nat×m1)
 N:Nat
 fn:Func
 args:List AM
 res:List AM
 pcs:List Pc
 lk:Option (Ty×List Step×Ty×List Nat):=none
namespace Fx
variable(X:Fx)
abbrev R:=Option (HP X.res)
def E:Env:={nt:=X.nt,ty:=λi=>OB i X.tab,Γ:=CD X.G,N:=X.N,w4:=λr=>OC X.pcs (2*r+1),yX:=λr=>OC X.pcs (2*r),io:=G4 X.args 0,lk:=X.lk}
@[reducible] def c(i:Nat):List (Nat×CM):=(YE X.pcs i).c
def path(i:Nat):List Nat:=(YE X.pcs i).path
def odd(i:Nat):Bool:=Nat.beq (i%2) 1
def cut(ρ:Nat→St→X.R)(l:Nat):St→X.R:=fun σ=>xb (some (X.c l)) σ (ρ l)
def ks(ρ:Nat→St→X.R)(i:Nat):List (St→X.R):=(YE X.pcs i).ks.map (X.cut ρ)
def lp(ρ:Nat→St→X.R)(i n:Nat):St→X.R:=lpF X.E X.fn X.args X.res (X.c i) (X.path i) (X.ks ρ i) n
def cq(ρ:Nat→St→X.R)(i:Nat):St→X.R:=cond (odd i) (X.lp ρ i X.N) (atF X.E X.fn X.args X.res (X.path i) (X.ks ρ i))
def own(ρ:Nat→St→X.R)(i:Nat):List (St→X.R):=X.ks ρ i++cond (odd i) [X.cut ρ i] []
def at'(K ρ:Nat→St→X.R)(i:Nat):St→X.R:=atQ X.E X.fn X.args X.res (λr=>K (2*r)) (λr=>K (2*r+1)) (X.path i) (X.own ρ i)
def tl(K ρ:Nat→St→X.R)(i:Nat):List ((St→X.R)×(St→X.R)):=xw X.E (λr=>K (2*r)) (λr=>K (2*r+1)) (acf X.E X.fn X.args X.res (X.path i) (X.own ρ i))
@[reducible] def cu(i:Nat)(κ:St→X.R):Xo (X.c i) X.R:=apw κ (X.c i) S0
@[reducible] def bd(K ρ:Nat→St→X.R)(i:Nat):Xo (X.c i) X.R:=X.cu i (X.at' K ρ i)
@[reducible] def kc(ρ:Nat→St→X.R)(i:Nat):Xo (X.c i) X.R:=X.cu i (ρ i)
def DV:Nat→St→X.R:=λ_ _=>none
def top(K:Nat→St→X.R):zL X.args X.R:=VE X.args λx=>atQ X.E X.fn X.args X.res (λr=>K (2*r)) (λr=>K (2*r+1)) [] [] (entry X.args x 0 S0)
def tlT(K:Nat→St→X.R):List ((St→X.R)×(St→X.R)):=xw X.E (λr=>K (2*r)) (λr=>K (2*r+1)) (acf X.E X.fn X.args X.res [] [])
def S(q:Bool)(g:zL X.args X.R):m1:={args:=X.args,res:=X.res,quiet:=q,run:=Jz X.args g}
variable{X}
theorem acg(f:Nat→St→X.R): ∀sX:List Nat,VB (sX.map λt=>(f t,f t))
 |[]=>trivial
 |_::r=>⟨rfl,acg f r⟩
theorem okJ{i:Nat}(sX:List Nat)(hi:odd i=false)(hr: ∀K ρ,X.tl K ρ i=sX.map λt=>(K t,X.cq ρ t)){g:(Nat→St→X.R)→(Nat→St→X.R)→Xo (X.c i) X.R}(h: ∀K ρ,X.bd K ρ i=g K ρ)(ρ:Nat→St→X.R):X.kc (X.cq ρ) i=g (X.cq ρ) ρ:=by
 rw[←h]
 have:X.cq ρ i=X.at' (X.cq ρ) ρ i:=by
  funext σ
  have h1:=hr (X.cq ρ) ρ
  unfold tl own at h1
  rw[hi,av,cw]at h1
  unfold at' own
  rw[hi,av,cw]
  rw[←at_eq X.E X.fn X.args X.res h1 (acg (X.cq ρ) sX) σ]
  unfold cq;rw[hi];rfl
 unfold kc bd
 rw[this]
def okb(X:Fx)(i:Nat):Bool:=odd i&&(YE X.pcs i).ks.all λl=> !(Nat.beq l i)
theorem okL{i:Nat}(sX:List Nat)(hi:okb X i=true)(hr: ∀K ρ,X.tl K ρ i=sX.map λt=>(K t,X.cq ρ t)){g:(Nat→St→X.R)→(Nat→St→X.R)→Xo (X.c i) X.R}(h: ∀K ρ,X.bd K ρ i=g K ρ)(ρ:Nat→St→X.R)
  (G:Nat→Xo (X.c i) X.R) (h0:X.cu i (λ_=>none)=G 0) (hs: ∀n ρ',X.kc ρ' i=G n→(∀l,Nat.beq l i=false→X.kc ρ' l=X.kc ρ l)→g (X.cq ρ') ρ'=G (n+1)):X.kc (X.cq ρ) i=G X.N:=by
 unfold okb at hi
 rw[bM]at hi
 obtain⟨hi,hk⟩:=hi
 have key: ∀n,X.cu i (X.lp ρ i n)=G n:=by
  intro n
  induction n with
  |zero=>exact h0
  |succ n ih=>
   let ρ':Nat→St→X.R:=λl=>cond (Nat.beq l i) (X.lp ρ i n) (ρ l)
   have e1:ρ' i=X.lp ρ i n:=by show cond (Nat.beq i i) _ _=_;rw[pJ];rfl
   have e2: ∀l,Nat.beq l i=false→ρ' l=ρ l:=λl hl=>by show cond (Nat.beq l i) _ _=_;rw[hl];rfl
   rw[←hs n ρ' (by unfold kc;rw[e1];exact ih) (λl hl=>by unfold kc;rw[e2 l hl]),←h]
   have e3:X.ks ρ' i=X.ks ρ i:=by
    unfold ks
    refine pE λl hl=> ?_
    have:=kz.1 hk l hl
    unfold cut
    rw[e2 l (by simpa using this)]
   have:X.lp ρ i (n+1)=X.at' (X.cq ρ') ρ' i:=by
    funext σ
    have h1:=hr (X.cq ρ') ρ'
    unfold tl own at h1
    rw[hi,ak]at h1
    unfold at' own
    rw[hi,ak]
    rw[←at_eq X.E X.fn X.args X.res h1 (acg (X.cq ρ') sX) σ]
    unfold lp
    rw[YA,e3]
    unfold cut
    rw[e1];rfl
   unfold bd
   rw[this]
 have:X.cq ρ i=X.lp ρ i X.N:=by unfold cq;rw[hi];rfl
 unfold kc
 rw[this];exact key _
def LS(P:Program):List (Nat×m1)→Prop
 |[]=>True
 |q::r=>jw P q.1 q.2∧LS P r
structure _root_.VM.Kn(P:Program) where
 f:Nat
 S:m1
 ok:jw P f S
def _root_.VM.Kn.p{P:Program}(k:Kn P):Nat×m1:=(k.f,k.S)
def _root_.VM.Kn.l{P:Program}:List (Kn P)→List (Nat×m1)
 |[]=>[]
 |k::r=>k.p::Kn.l r
theorem _root_.VM.Kn.all{P:Program}: ∀l:List (Kn P),LS P (Kn.l l)
 |[]=>trivial
 |k::r=>⟨k.ok,Kn.all r⟩
theorem CE{P:Program}: ∀{l:List (Nat×m1)},LS P l→ ∀f S,S∈CD l f→jw P f S
 |[],_,f,S,h=>by simp[CD]at h
 |q::r,ha,f,S,h=>by
  unfold CD at h
  cases hb:Nat.beq f q.1<;>rw[hb]at h
  ·exact CE ha.2 f S h
  ·rcases a8.1 h with rfl|h
   ·rw[fF hb];exact ha.1
   ·exact CE ha.2 f S h
theorem G6: ∀{l:List Pc},(l.all λp=>kW p.c)=true→ ∀i L,OC l i=some L→kW L=true
 |q::r,ha,i,L,h=>by
  rw[kR,bM]at ha
  unfold OC at h
  cases hb:Nat.beq i q.k<;>rw[hb]at h
  ·exact G6 ha.2 i L h
  ·cases h;exact ha.1
def chk(X:Fx)(q:Bool):Bool:=(X.pcs.all λp=>kW p.c)&&((!(X.fn.name== "runtime.NumGoroutine")&&Nat.beq X.nt X.fn.ntmps)&&(X.fn.body.isSome&&(Nat.ble X.args.length X.nt&&((!q||X.res.all AM.flat)&&decide (np X.args=np X.res)))))
theorem OD: ∀{ms:List AM} {k i:Nat} {m:AM},ms[i]? =some m→m.iQ=true→k+i∈G4 ms k
 |[],_,_,_,h,_=>by simp at h
 |m::ms,k,0,m',h,wh=>by
  simp only[Nz,iB]at h
  subst h
  cases m<;>simp[AM.iQ]at wh<;>simp[G4]
 |m::ms,k,i+1,m',h,wh=>by
  have:=OD (ms:=ms) (k:=k+1) (i:=i) (by simpa using h) wh
  rw[show k+(i+1)=k+1+i from by omega]
  cases m<;>simp only[G4]<;>first|exact aZ _ this|exact this
theorem TW: ∀{ms:List AM} {k i:Nat},i∈G4 ms k→i<k+ms.length
 |[],_,_,h=>by simp[G4]at h
 |m::ms,k,i,h=>by
  have hr:i∈G4 ms (k+1)→i<k+(m::ms).length:=λh=>by have:=TW h;simp only[aT];omega
  cases m<;>simp only[G4]at h<;>first
   |exact hr h
   |(rcases a8.1 h with rfl|h<;>first|exact hr h|(simp only[aT];omega))
variable(X)in
theorem OE{P:Program}(ht:G1 P X.tab)(hG:LS P X.G)(hc:(X.pcs.all λp=>kW p.c)=true):tp P X.E:=by
 have iv: ∀t τ,OB t X.tab=some τ→uC P τ (.inl t)=true∧acd P τ t=true:=λt τ h=>by
  have:=kz.1 ht.ok _ (Ki h)
  simpa using this
 exact{ty:=λt τ h=>iE (iv t τ h).1,eq:=λt τ h hc ha=>ace (iE (iv t τ h).1) (iv t τ h).2 hc ha,ao6:=CE hG,mixed:=ht.mixed,kW:=λi L h=>G6 hc _ L h,X3:=λi L h=>G6 hc _ L h}
theorem mkS{P:Program}(ht:G1 P X.tab){f:FuncId}(hf:P.funcs[f]? =some X.fn){q:Bool}(hc:chk X q=true)(hG:LS P X.G){g:zL X.args X.R}(h: ∀x,NT X.E X.fn X.args X.res x=Jz X.args g x):jw P f (X.S q g):=by
 unfold chk at hc
 simp only[bM]at hc
 obtain⟨h0,⟨h1,h2⟩,h3,h4,h5,h6⟩:=hc
 refine Ys (OE X ht hG h0) hf (by simpa using h1) (fF h2) (X.S q g) (λi m hm wh=> ?_) (λi hi=> ?_) ?_ (λhq=> ?_) (bt h6) h
 ·have:=OD (k:=0) hm wh
  rwa [gn]at this
 ·have:=TW (k:=0) hi
  rwa [gn]at this
 ·have:=FW h4
  rwa [fF h2]at this
 ·have hq:q=true:=hq
  subst hq
  show X.res.all AM.flat=true
  simpa using h5
theorem akx{g:zL X.args X.R}(h:VE X.args (NT X.E X.fn X.args X.res)=g)(x:HP X.args):NT X.E X.fn X.args X.res x=Jz X.args g x:=by rw[←h,LR]
variable(X)in
theorem ok0{P:Program}(ht:G1 P X.tab){f:FuncId}(hf:P.funcs[f]? =some X.fn){q:Bool}(hc:chk X q=true)(hG:LS P X.G){g:zL X.args X.R}(h:VE X.args (NT X.E X.fn X.args X.res)=g):jw P f (X.S q g):=
 mkS ht hf hc hG (akx h)
theorem aky(hb:X.fn.body.isSome=true)(sX:List Nat)(hr: ∀K,X.tlT K=sX.map λt=>(K t,X.cq X.DV t))
  {g:(Nat→St→X.R)→zL X.args X.R} (h: ∀K,X.top K=g K) {f:zL X.args X.R} (hf:g (X.cq X.DV)=f) (x:HP X.args):NT X.E X.fn X.args X.res x=Jz X.args f x:=by
 rw[←hf,←h,akv hb]
 unfold top
 rw[LR]
 exact at_eq X.E X.fn X.args X.res (hr (X.cq X.DV)) (acg (X.cq X.DV) sX) _
variable(X)in
theorem ok1{P:Program}(ht:G1 P X.tab){f:FuncId}(hf:P.funcs[f]? =some X.fn){q:Bool}(hc:chk X q=true)(hG:LS P X.G)(sX:List Nat)(hr: ∀K,X.tlT K=sX.map λt=>(K t,X.cq X.DV t))
  {g:(Nat→St→X.R)→zL X.args X.R} (h: ∀K,X.top K=g K) {f':zL X.args X.R} (zx:g (X.cq X.DV)=f'):jw P f (X.S q f'):=by
 have hb:X.fn.body.isSome=true:=by
  unfold chk at hc
  simp only[bM]at hc
  exact hc.2.2.1
 exact mkS ht hf hc hG (aky hb sX hr h zx)
theorem uJ{i:Nat}(sX:List Nat){g:(Nat→St→X.R)→(Nat→St→X.R)→Xo (X.c i) X.R}(h: ∀K ρ,X.bd K ρ i=g K ρ)(ρ:Nat→St→X.R){f:Xo (X.c i) X.R}(hf:g (X.cq ρ) ρ=f:=by rfl)
 (hi:odd i=false:=by kernel_rfl) (hr: ∀K ρ,X.tl K ρ i=sX.map λt=>(K t,X.cq ρ t):=by intro K ρ;kernel_rfl):X.kc (X.cq ρ) i=f:=(okJ sX hi hr h ρ).trans hf
theorem uL{i:Nat}(sX:List Nat){g:(Nat→St→X.R)→(Nat→St→X.R)→Xo (X.c i) X.R}(h: ∀K ρ,X.bd K ρ i=g K ρ)(ρ:Nat→St→X.R)
 (G:Nat→Xo (X.c i) X.R) (hs: ∀n ρ',X.kc ρ' i=G n→(∀l,Nat.beq l i=false→X.kc ρ' l=X.kc ρ l)→g (X.cq ρ') ρ'=G (n+1)) (h0:X.cu i (λ_=>none)=G 0:=by rfl)
 (hi:okb X i=true:=by kernel_rfl) (hr: ∀K ρ,X.tl K ρ i=sX.map λt=>(K t,X.cq ρ t):=by intro K ρ;kernel_rfl):X.kc (X.cq ρ) i=G X.N:=okL sX hi hr h ρ G h0 hs
variable(X)in
theorem u0{P:Program}(ht:G1 P X.tab){f:FuncId}(hf:P.funcs[f]? =some X.fn){q:Bool}{g:zL X.args X.R}(hG:LS P X.G:=by first|exact trivial|exact Kn.all _)(hc:chk X q=true:=by kernel_rfl)(h:VE X.args (NT X.E X.fn X.args X.res)=g:=by kernel_rfl):jw P f (X.S q g):=ok0 X ht hf hc hG h
variable(X)in
theorem u1{P:Program}(ht:G1 P X.tab){f:FuncId}(hf:P.funcs[f]? =some X.fn)(sX:List Nat)
 {g:(Nat→St→X.R)→zL X.args X.R} (h: ∀K,X.top K=g K) {q:Bool} {f':zL X.args X.R} (zx:g (X.cq X.DV)=f':=by rfl) (hG:LS P X.G:=by first|exact trivial|exact Kn.all _) (hc:chk X q=true:=by kernel_rfl) (hr: ∀K,X.tlT K=sX.map λt=>(K t,X.cq X.DV t):=by intro K;kernel_rfl):jw P f (X.S q f'):=ok1 X ht hf hc hG sX hr h zx
end Fx
end VM
end
section
namespace VM
open Go
variable{P:Program}
theorem Left.same(w:World)(M0:Nat→Prop)(h: ∀b,M0 b→b<w.heap.size):Left w M0 [] w M0:=
 ⟨λ_ h=>h,h,λ_ _ h=> .inl h,λ_ _ _=>rfl,aH _,rfl,rfl,rfl⟩
theorem apx{w:World}{M:Nat→Prop}{a b c:IntKind}{x:HP [.v (.int a),.v (.int b),.v (.int c)]}{vs:List Value}(h:kD w M [.v (.int a),.v (.int b),.v (.int c)] x vs):vs=[.int a x.1,.int b x.2.1,.int c x.2.2]:=by
 simp only[kD,A1,V,Ty.isAgg,jL,fG,Rd,fV,eF]at h
 obtain⟨v,vs,rfl,rfl,v,vs,rfl,rfl,v,vs,rfl,rfl,rfl⟩:=h
 rfl
theorem rr2{w:World}{M:Nat→Prop}{a b:IntKind}(x y:Int):RR w M [.v (.int a),.v (.int b)] (x,y) [.int a x,.int b y] []:=by
 simp only[RR]
 refine .inr ⟨_,_,rfl,rfl,rfl,?_,.inr ⟨_,_,rfl,rfl,rfl,?_,rfl,trivial⟩⟩<;>simp[A1,V,Ty.isAgg,Rd,qK,tV]
theorem TX{f:FuncId}(run:Int×Int×Int→Option (Int×Int))
  (h: ∀(w:World) (a b c u v:Int),run (a,b,c)=some (u,v)→(callFunc f #[.int .u64 a,.int .u64 b,.int .u64 c]).run P w= .ok (.value (.tuple #[.int .u64 u,.int .u64 v])) w):
  jw P f {args:=[.v (.int .u64),.v (.int .u64),.v (.int .u64)],res:=[.v (.int .u64),.v (.int .u64)],quiet:=true,run}:=by
 refine⟨λ_=>rfl,rfl,λM0 w vs x y sW hA _ _ hy=> ?_⟩
 have hvs:=apx hA
 subst hvs
 exact Ju (h w x.1 x.2.1 x.2.2 y.1 y.2 hy) ⟨_,M0,rfl,rr2 y.1 y.2,Left.same w M0 sW,List.nodup_nil,λb hb=>by cases hb⟩
theorem CF(nm:String)(a b c:Nat)(h:c≤1)(w:World):(Extern.MathBitsCarry.three nm #[.int .u64 a,.int .u64 b,.int .u64 c]).run P w= .ok (a,b,c) w:=by
 have h5: ¬(1<c):=ω
 have:Extern.MathBitsCarry.three nm #[.int .u64 a,.int .u64 b,.int .u64 c]=(do
  let c:=(←asInt (.int .u64 c)).toNat
  if c>1 then unsupported (.noEntry ("extern/math/bits." ++nm++ ": a carry that is neither 0 nor 1"))
  pure ((←asInt (.int .u64 a)).toNat,(←asInt (.int .u64 b)).toNat,c)):=rfl
 rw[this]
 simp[asInt,asIntOf]
 omega
theorem VF{f:FuncId}{fn:Func}(N:Nat)(hf:P.funcs[f]? =some fn)(Bf:(fn.name== "runtime.NumGoroutine")=false)(hb:fn.body.isNone=true)(hn:Extern.findNext fn=none)
  (he:Extern.find fn=(Extern.MathBitsCarry.rows[0]?).map (·.2)):jw P f (ux.S N):=by
 refine TX (λx=>ux N x.1 x.2.1 x.2.2) λw a b c u v hy=> ?_
 simp only[ux]at hy
 split at hy
 ·rename_i hc
  obtain⟨h1,h2,h3,h4⟩:=hc
  obtain⟨a,rfl⟩:=u6 h1
  obtain⟨b,rfl⟩:=u6 h2
  obtain⟨c,rfl⟩:=u6 h3
  cases hy
  rw[run_callFunc_extern hf Bf hb hn he]
  simp[CF _ a b c ω,Extern.MathBitsCarry.pair,Extern.MathBitsCarry.m64]
 ·cases hy
theorem VG{f:FuncId}{fn:Func}(N:Nat)(hf:P.funcs[f]? =some fn)(Bf:(fn.name== "runtime.NumGoroutine")=false)(hb:fn.body.isNone=true)(hn:Extern.findNext fn=none)
  (he:Extern.find fn=(Extern.MathBitsCarry.rows[1]?).map (·.2)):jw P f (tg.S N):=by
 refine TX (λx=>tg N x.1 x.2.1 x.2.2) λw a b c u v hy=> ?_
 simp only[tg]at hy
 split at hy
 ·rename_i hc
  obtain⟨h1,qM,h2,zm,h3,h4⟩:=hc
  obtain⟨a,rfl⟩:=u6 h1
  obtain⟨b,rfl⟩:=u6 h2
  obtain⟨c,rfl⟩:=u6 h3
  cases hy
  rw[run_callFunc_extern hf Bf hb hn he]
  have e1:((a+18446744073709551616-b-c:Nat):Int)=(a:Int)+18446744073709551616-b-c:=ω
  by_cases h:a<b+c
  ·have h':(a:Int)<(b:Int)+(c:Int):=ω
   simp[CF _ a b c ω,Extern.MathBitsCarry.pair,Extern.MathBitsCarry.m64,e1,h,h']
  ·have h': ¬(a:Int)<(b:Int)+(c:Int):=ω
   simp[CF _ a b c ω,Extern.MathBitsCarry.pair,Extern.MathBitsCarry.m64,e1,h,h']
 ·cases hy
end VM
end
section
namespace VM
open Go Go.Shelf Go.RowKit Go.Lib Go.Proofs
variable{P:Program}{ρ:Ren}
def YF(ρ:Ren)(fn:Func):Func:={fn with body:=(Body2.n22 ρ).body,ntmps:=95,results:=(Body2.n22 ρ).results,nfree:=0}
theorem xx(ρ:Ren)(fn:Func):(YF ρ fn).ntmps=95:=rfl
structure VH(P:Program)(e:Ty)(ρ:Ren)(f:FuncId)(fn fo:Func):Prop where
 hf:P.funcs[f]? =some (YF ρ fn)
 t3:P.underlying (ρ.t 3)=some (.int .i64)
 t4:P.underlying (ρ.t 4)=some .bool
 t24:P.underlying (ρ.t 24)=some (.slice (ρ.t 9))
 lay:kX P e (ρ.t 9)
 qD:0<e.size
 mixed:P.follows .mixedOrders=true
set_option maxHeartbeats 4000000 in
set_option maxRecDepth 100000 in
theorem LV{e:Ty}{f:FuncId}{fn fo:Func}(L:VH P e ρ f fn fo)(w:World)(base:Option Addr)(n c m vc:Nat)(va:Addr)(v':Value)(w':World)(hm:0<m)(hn:n≤c)
  (Og: ∀ty,(Builtin.append_ #[ρ.t 24,ρ.t 24] ty #[.slice base n c,.slice (some va) m vc]).run P w= .ok v' w'):
   Calls P f #[.slice base n c,.int .i64 n,.slice (some va) m vc] w λr w2=>r= .returned v'∧w2=w':=by
 have u3:=run_underlying L.t3;have u4:=run_underlying L.t4;have u24:=run_underlying L.t24
 have t3:=L.t3;have t4:=L.t4;have t24:=L.t24
 have z9:=λw=>dv L.lay w
 have mixed:=L.mixed
 have zi: ¬((m:Int)=0):=ω
 go_enter L.hf,xx ρ fn
 cases base with
 |none=>
   go_wp2_with (at_builtin;refine Lib.wpList_append_run _ rfl _ _ _ _ rfl _ _ rfl rfl _ _ (Og _) ?_)
   all_goals (go_ret;exact⟨rfl,rfl⟩)
 |some a=>
   obtain⟨ab,ao,asp⟩:=a
   go_wp2_with (at_builtin;refine Lib.wpList_append_run _ rfl _ _ _ _ rfl _ _ rfl rfl _ _ (Og _) ?_)
   all_goals (go_ret;exact⟨rfl,rfl⟩)
theorem run_copy_row{t te e:TypeId}{k:Nat}(ht:P.underlying t=some (.slice e))(hk: ∀w,(Go.sizeOf e).run P w= .ok k w){W:World}{b o apy avB akz apz n:Nat}{a:Addr}{cs:Array Value}(hg:W.heap[b]? =some (.cells cs te (0,0)))
  {news:List Value} (hnn:Nat.min akz apy=n) (hl:news.length=n*k) (hn: ∀j u,news[j]? =some u→W.cell? (a.add j)=some u) (h1: ∀u∈news,u.oneCell'=true) (GG:o+news.length≤cs.size) (ty:TypeId):
  (Builtin.copy_ #[t,t] ty #[.slice (some ⟨b,o,none⟩) apy avB,.slice (some a) akz apz]).run P W= .ok (goInt n) (W.setRow b (eN cs.toList o news).toArray):=by
 have hf:=run_firstCells_some (P:=P) W k n a akz apz news hl hn
 have xh:=run_storeCells_at (P:=P) b o te news 0 cs W hg ω h1
 simp only[mA]at xh
 simp[Builtin.copy_,run_underlying ht,hk,Builtin.lenOf,hnn,hf,xh,eN]
set_option maxHeartbeats 4000000 in
set_option maxRecDepth 100000 in
theorem VI{e:Ty}{f:FuncId}{fn fo:Func}(L:VH P e ρ f fn fo)(w:World)(b n c i m vc:Nat)(va:Addr)(LW YG:Array Value)(hi:i<n)(hm:0<m)(hr:n+m≤c)(avC:c≤9223372036854775807)
  (hov: ∀x lb cb,(callFunc (ρ.f 29) #[.slice (some va) m vc,.slice (some ⟨b,x,none⟩) lb cb]).run P w= .ok (.value (.bool false)) w)
  (ach: ∀ty dc sc,(Builtin.copy_ #[(ρ.t 24),(ρ.t 24)] ty #[.slice (some ⟨b,(i+m)*e.size,none⟩) (n+m-(i+m)) dc,.slice (some ⟨b,i*e.size,none⟩) (n+m-i) sc]).run P w.drew= .ok (goInt ((n-i:Nat):Int)) (w.drew.setRow b LW))
  (aci: ∀W:World,W.heap=(w.setRow b LW).heap→ ∀ty dc,(Builtin.copy_ #[(ρ.t 24),(ρ.t 24)] ty #[.slice (some ⟨b,i*e.size,none⟩) (n+m-i) dc,.slice (some va) m vc]).run P W= .ok (goInt m) (W.setRow b YG)):
   Calls P f #[.slice (some ⟨b,0,none⟩) n c,.int .i64 i,.slice (some va) m vc] w λr w2=>r= .returned (.slice (some ⟨b,0,none⟩) (n+m) c)∧w2=(w.drew.setRow b LW).setRow b YG:=by
 have u3:=run_underlying L.t3;have u4:=run_underlying L.t4;have u24:=run_underlying L.t24
 have t3:=L.t3;have t4:=L.t4;have t24:=L.t24
 have z9:=λw=>dv L.lay w
 have mixed:=L.mixed
 have zi: ¬((m:Int)=0):=ω
 have Fu: ¬((i:Int)=(n:Int)):=ω
 have hw1:IntKind.i64.wrap ((i:Int)+(m:Int))=(i:Int)+(m:Int):=by rw[IntKind.wrap_i64];omega
 have nk:(0:Int)≤(i:Int)+(m:Int):=ω
 have kC:i≤n:=ω
 have Vy:((i:Int)+(m:Int)).toNat=i+m:=ω
 have uX: ¬(c=i+m):=ω
 have hb3:(i:Int)≤(n:Int)+(m:Int):=ω
 have hb4: ¬(c=i):=ω
 go_enter L.hf,xx ρ fn
 go_wp2_with (simp only[hov])
 go_region_law_o (refine step_copy_runI rfl _ _ (ρ.t 24) (ρ.t 24) rfl _ _ (by simp[Act.eval,Act.put]) (by simp[Act.eval,Act.put]) (ach _ _ _) ?_)
 have h2:=aci (w.drew.setRow b LW) rfl
 go_wp2
 go_ret
 exact⟨rfl,rfl⟩
set_option maxHeartbeats 4000000 in
set_option maxRecDepth 100000 in
theorem YH{e:Ty}{f:FuncId}{fn fo:Func}(L:VH P e ρ f fn fo)(w:World)(b n c i m vc nb G:Nat)(va:Addr)(VJ LW YG:Array Value)(hi:i<n)(hm:0<m)(hnc:n≤c)(hr:c<n+m)(avC:c≤9223372036854775807)(h63:n+m≤9223372036854775807)(hG:n+m≤G)(aCM:G≤9223372036854775807)
  (Og: ∀ty,(Builtin.append_ #[(ρ.t 24),(ρ.t 3)] ty #[.slice (some ⟨b,0,none⟩) i c,.int .i64 ((n:Int)+(m:Int)-(i:Int))]).run P w= .ok (.slice (some ⟨w.heap.size,0,none⟩) (n+m) G) (w.drew.alloc (.cells VJ (ρ.t 9))))
  (ach: ∀W:World,W.heap=(w.alloc (.cells VJ (ρ.t 9))).heap→ ∀ty dc,(Builtin.copy_ #[(ρ.t 24),(ρ.t 24)] ty #[.slice (some ⟨w.heap.size,i*e.size,none⟩) (n+m-i) dc,.slice (some va) m vc]).run P W= .ok (goInt m) (W.setRow w.heap.size LW))
  (aci: ∀W:World,W.heap=((w.alloc (.cells VJ (ρ.t 9))).setRow w.heap.size LW).heap→ ∀ty dc sc,(Builtin.copy_ #[(ρ.t 24),(ρ.t 24)] ty #[.slice (some ⟨w.heap.size,(i+m)*e.size,none⟩) (n+m-(i+m)) dc,.slice (some ⟨b,i*e.size,none⟩) (n-i) sc]).run P W= .ok (goInt ((n-i:Nat):Int)) (W.setRow w.heap.size YG)):
   Calls P f #[.slice (some ⟨b,0,none⟩) n c,.int .i64 i,.slice (some va) m vc] w λr w2=>r= .returned (.slice (some ⟨w.heap.size,0,none⟩) (n+m) G)∧w2=((w.drew.alloc (.cells VJ (ρ.t 9))).setRow w.heap.size LW).drew.setRow w.heap.size YG:=by
 have u3:=run_underlying L.t3;have u4:=run_underlying L.t4;have u24:=run_underlying L.t24
 have t3:=L.t3;have t4:=L.t4;have t24:=L.t24
 have z9:=λw=>dv L.lay w
 have mixed:=L.mixed
 have zi: ¬((m:Int)=0):=ω
 have Fu: ¬((i:Int)=(n:Int)):=ω
 have hz3:(c:Int)<(n:Int)+(m:Int):=ω
 have hw1:IntKind.i64.wrap ((i:Int)+(m:Int))=(i:Int)+(m:Int):=by rw[IntKind.wrap_i64];omega
 have nk:(0:Int)≤(i:Int)+(m:Int):=ω
 have kC:i≤n:=ω
 have Vy:((i:Int)+(m:Int)).toNat=i+m:=ω
 have hGi: ¬(G=i):=ω
 have aCN: ¬(G=i+m):=ω
 have hci: ¬(c=i):=ω
 have hb3:(i:Int)≤(n:Int):=ω
 have h1:=ach ((w.alloc (.cells VJ (ρ.t 9))).drew) rfl
 have h2:=aci (((w.alloc (.cells VJ (ρ.t 9))).drew.setRow w.heap.size LW).drew) rfl
 go_enter L.hf,xx ρ fn
 go_wp2_with (first
   |(at_builtin;refine Lib.wpList_append_run _ rfl _ _ _ _ rfl _ _ rfl rfl _ _ (Og _) ?_)
   |(at_builtin;refine wpList_copy_runI _ rfl _ _ (ρ.t 24) (ρ.t 24) rfl _ _ rfl rfl (ach _ (by exact rfl) _ _) ?_)
   |(at_builtin;refine wpList_copy_runI _ rfl _ _ (ρ.t 24) (ρ.t 24) rfl _ _ rfl rfl (aci _ (by exact rfl) _ _ _) ?_))
 go_region_law_o (refine step_copy_runI rfl _ _ (ρ.t 24) (ρ.t 24) rfl _ _ (by simp[Act.eval,Act.put]) (by simp[Act.eval,Act.put]) (h2 _ _ _) ?_)
 go_wp2
 go_ret
 exact⟨rfl,rfl⟩
theorem Fv{α:Type}(A Z news:List α):eN (A++Z) A.length news=A++(news++Z.drop news.length):=by
 unfold eN
 rw[wX rfl,bE,←iC,mz rfl]
theorem pv.apB{w:World}{M:Nat→Prop}{e:Ty}{cs:List Value}{l:List e.den}(h:pv w M e cs l)(i:Nat):pv w M e (cs.take (i*e.size)) (l.take i):=by
 intro j hj
 rw[bV]at hj
 have:=ew (s:=e.size) (show j<i by omega)
 rw[rH,rI,ij ω,Az]
 exact h j ω
theorem pv.apC{w:World}{M:Nat→Prop}{e:Ty}{cs:List Value}{l:List e.den}(h:pv w M e cs l)(i:Nat):pv w M e ((cs.drop (i*e.size)).take ((l.length-i)*e.size)) (l.drop i):=by
 intro j hj
 rw[dY]at hj
 have:=ew (s:=e.size) hj
 rw[rH,rI,ij ω,iC,F1,←eD]
 exact h (i+j) ω
theorem yE{w w':World}{M0:Nat→Prop}{hs:List Nat}{e:Ty}{rb cap:Nat}{row:Array Value}{t:TypeId}{l:List e.den}(sW: ∀b,M0 b→b<w.heap.size)(xu: ∀b∈hs,¬M0 b)
  (hfr: ∀b,b<w.heap.size→b∉hs→w'.heap[b]? =w.heap[b]?) (qB:w.heap.size≤w'.heap.size) (hrb:rb<w.heap.size→rb∈hs) (hos:w'.os=w.os) (htp:w'.tape=w.tape) (RU:w'.output=w.output)
  (RW:w'.heap[rb]? =some (.cells row t (0,0))) (h0:0<cap) (hl:l.length≤cap) (hm:cap≤maxLen) (hrs:row.size=cap*e.size) (kB:pv w (λb=>M0 b∨b∈hs) e row.toList l):
  ∃us M',Value.slice (some ⟨rb,0,none⟩) l.length cap=xp us∧RR w' M' [.own e] l us []∧Left w M0 hs w' M'∧(bH [.own e] us []).Nodup∧ ∀b∈bH [.own e] us [],¬M0 b:=by
 have J6:rb<w'.heap.size:=(lJ.1 RW).1
 have hk:fO w (λb=>M0 b∨b∈hs) w' (λb=>M0 b∨b=rb):=⟨qB,λb hb hn=>hfr b hb (λh=>hn (.inr h)),λb hb h=>h.elim .inl (λe=> .inr (e▸hrb (e▸hb)))⟩
 have xf:bH [.own e] [Value.slice (some ⟨rb,0,none⟩) l.length cap] []=[rb]:=by
  have:cap≠0:=ω
  simp[bH,dw,AM.iQ,fC,this]
 refine⟨[.slice (some ⟨rb,0,none⟩) l.length cap],λb=>M0 b∨b=rb,rfl,?_,?_,?_,?_⟩
 ·simp only[RR]
  refine .inr ⟨_,[],rfl,rfl,rfl,?_,rfl,trivial⟩
  simp only[A1,ER,qK]
  exact .inr ⟨rb,row,t,cap,rfl,RW,.inr rfl,h0,hl,hm,hrs,kB.bZ hk⟩
 ·exact⟨λb h=> .inl h,λb h=>h.elim (λh=>nM (sW b h) qB) (λh=>h▸J6),λb hb h=>h.elim .inl (λe=> .inr (e▸hrb (e▸hb))),hfr,qB,hos,htp,RU⟩
 ·rw[xf];simp
 ·rw[xf]
  intro b hb h
  rw[cn]at hb
  subst hb
  exact xu b (hrb (sW b h)) h
theorem setRow_other(w:World){b c:Nat}(r:Array Value)(h:c≠b):(w.setRow b r).heap[c]? =w.heap[c]? :=by
 unfold World.setRow
 rw[Array.getElem?_modify,ah (λe=>h e.symm)]
theorem setRow_size(w:World)(b:Nat)(r:Array Value):(w.setRow b r).heap.size=w.heap.size:=by
 unfold World.setRow;simp
theorem alloc_old(w:World)(o:Obj){c:Nat}(h:c<w.heap.size):(w.alloc o).heap[c]? =w.heap[c]? :=by
 show(w.heap.push o)[c]? =_
 rw[Array.getElem?_push,ah ω]
theorem rp(w:World)(o:Obj):(w.alloc o).heap[w.heap.size]? =some o:=by
 show(w.heap.push o)[w.heap.size]? =_
 simp
theorem oW(w:World)(o:Obj):(w.alloc o).heap.size=w.heap.size+1:=by
 show(w.heap.push o).size=_
 simp
theorem vr{w:World}{b:Nat}{cs:Array Value}{t:TypeId}{f:Nat×Nat}(h:w.heap[b]? =some (.cells cs t f))(o n:Nat): ∀j u,((cs.toList.drop o).take n)[j]? =some u→w.cell? ((⟨b,o,none⟩:Addr).add j)=some u:=by
 intro j u hj
 rw[Addr.add_lit]
 rw[mR]at hj
 split at hj
 ·rw[mS,iA]at hj
  simp only[World.cell?,h]
  simpa using hj
 ·cases hj
theorem TY{w:World}{M:Nat→Prop}{v:Value}{e:Ty}{l:List e.den}(h:ER w M v (.own e l)):(l=[]∧ ∃a,v= .slice a 0 0)∨
 ∃b cs t cap,v= .slice (some ⟨b,0,none⟩) l.length cap∧w.heap[b]? =some (.cells cs t (0,0))∧M b∧0<cap∧l.length≤cap∧cap≤maxLen∧cs.size=cap*e.size∧pv w M e cs.toList l:=h
end VM
end
section
namespace VM
open Go Go.Shelf Go.RowKit Go.Lib Go.Proofs
variable{P:Program}{ρ:Ren}
theorem G7{w:World}{t e':TypeId}{e:Ty}(hu:P.underlying t=some (.slice e'))(hle:kX P e e'){n m cap cp:Nat}{olds news:List Value}{base:Option Addr}{a':Addr}(XU:base=none→n=0∧cap=0)
  (wM:olds.length=n*e.size) (ho: ∀b,base=some b→ ∀j u,olds[j]? =some u→w.cell? (b.add j)=some u) (hln:news.length=m*e.size) (hn: ∀j u,news[j]? =some u→w.cell? (a'.add j)=some u)
  (hg:cap<n+m) (hs:n+m<AN):
  ∃m3 rest,(∀ty,(Builtin.append_ #[t,t] ty #[.slice base n cap,.slice (some a') m cp]).run P w= .ok (.slice (some ⟨w.heap.size,0,none⟩) (n+m) m3) (w.drew.alloc (.cells (olds++news++rest).toArray e')))∧
   n+m≤m3∧m3≤maxLen∧rest.length=(m3-(n+m))*e.size:=by
 obtain⟨i,hi,qB,hz,hby⟩:=hle.base
 have hzs:(cg e e.cD).cells.size=e.size:=by rw[←bn,fI,mD]
 have h63:n+m≤maxLen:=by simp only[AN,maxLen]at hs ⊢;omega
 have GG:(n+m)*i.bytes≤140737488355328:=by
  have:(n+m)*i.bytes≤68719476736*2048:=ui (by simp only[AN]at hs;omega) hby
  omega
 refine⟨grownCap w (n+m) cap e',(Builtin.zeroCells (cg e e.cD).cells (grownCap w (n+m) cap e'-(n+m))).toList,λty=> ?_,grownCap_ge _ _ _ _,grownCap_le_maxLen _ _ _ _ h63,?_⟩
 ·cases base with
  |none=>
   obtain⟨rfl,rfl⟩:=XU rfl
   have ho0:olds=[]:=uZ (by rw[wM];simp)
   subst ho0
   have:=run_append_nil (P:=P) w t ty e' i _ hu hi hz a' m cp news (by rw[hln,qB]) hn (by simpa using hg) (by simp only[AN]at hs;omega) (by simp at GG;omega)
   simp only[gn,cN]
   rw[this]
   congr 2
   apply fv (λz=>Obj.cells z e' (0,0))
   apply gZ;simp
  |some b=>
   have:=run_append_grow (P:=P) w t ty e' i _ hu hi hz b n cap olds (by rw[wM,qB]) (ho b rfl) a' m cp news (by rw[hln,qB]) hn hg (by simp only[AN]at hs;omega) (growslice_fits hg GG)
   rw[this]
   congr 2
   apply fv (λz=>Obj.cells z e' (0,0))
   apply gZ;simp
 ·rw[bn,size_zeroCells,hzs]
theorem VK{w:World}{t tn e':TypeId}{e:Ty}(hu:P.underlying t=some (.slice e'))(Vy:P.underlying tn=some (.int .i64))(hle:kX P e e')(aks:0<e.size){n k cap:Nat}{olds:List Value}{b:Addr}
  (wM:olds.length=n*e.size) (ho: ∀j u,olds[j]? =some u→w.cell? (b.add j)=some u) (hk:0<k) (hg:cap<n+k) (hs:n+k<AN):
  ∃m3 rest,(∀ty,(Builtin.append_ #[t,tn] ty #[.slice (some b) n cap,.int .i64 k]).run P w= .ok (.slice (some ⟨w.heap.size,0,none⟩) (n+k) m3) (w.drew.alloc (.cells (olds++rest).toArray e')))∧
   n+k≤m3∧m3≤maxLen∧rest.length=(m3-n)*e.size:=by
 obtain⟨i,hi,qB,hz,hby⟩:=hle.base
 have hzs:(cg e e.cD).cells.size=e.size:=by rw[←bn,fI,mD]
 have h63:n+k≤maxLen:=by simp only[AN,maxLen]at hs ⊢;omega
 have GG:(n+k)*i.bytes≤140737488355328:=by
  have:(n+k)*i.bytes≤68719476736*2048:=ui (by simp only[AN]at hs;omega) hby
  omega
 have hkb:k*i.bytes≤281474976710656:=by
  have:k*i.bytes≤(n+k)*i.bytes:=kv _ ω
  omega
 have TK:=grownCap_ge w (n+k) cap e'
 refine⟨grownCap w (n+k) cap e',(Builtin.zeroCells (cg e e.cD).cells k++Builtin.zeroCells (cg e e.cD).cells (grownCap w (n+k) cap e'-(n+k))).toList,λty=> ?_,TK,grownCap_le_maxLen _ _ _ _ h63,?_⟩
 ·have hold:(Builtin.firstCells i.size n (.slice (some b) n cap)).run P w.drew= .ok olds.toArray w.drew:=run_firstCells_some w.drew i.size n b n cap olds (by rw[wM,qB]) (λj u hj=>ho j u hj)
  have:=Lib.run_append_grow_zeros w t tn ty e' i _ .i64 .i64 hu Vy hi hz (some b) n cap olds hold k hk (by rw[qB];exact aks) hg (by simp only[AN]at hs;omega) hkb (growslice_fits hg GG)
  rw[this]
  congr 2
  apply fv (λz=>Obj.cells z e' (0,0))
  apply gZ;simp
 ·rw[Array.toList_append,aS,bn,bn,size_zeroCells,size_zeroCells,hzs,←eD]
  congr 1;omega
structure OvP(P:Program)(ρ:Ren)(fo:Func):Prop where
 hf:P.funcs[ρ.f 29]? =some fo
 name:(fo.name== "runtime.NumGoroutine")=false
 body:fo.body.isNone=true
 next:Extern.findNext fo=none
 find:Extern.find fo=some (Extern.SlicesOverlaps.overlaps #[ρ.t 24,ρ.t 24] #[ρ.t 4])
theorem G8{e:Ty}{f:FuncId}{fn fo:Func}(L:VH P e ρ f fn fo)(O:OvP P ρ fo)(Bf:(fn.name== "runtime.NumGoroutine")=false)(YI:(Body2.n22 ρ).body.isNone=false)(N:Nat):jw P f (mV e N):=by
 refine⟨(λh=>by cases h),rfl,λM0 w vs x y sW hA wD xu hy=> ?_⟩
 obtain⟨l,i,v⟩:=x
 have TT:qH N l i v=some y:=hy
 clear hy
 simp only[mV,kD]at hA
 obtain⟨v0,vs1,rfl,h0,v1,vs2,rfl,h1,v2,vs3,rfl,h2,rfl⟩:=hA
 simp only[qH]at TT
 split at TT
 case isFalse=>cases TT
 rename_i hc
 cases TT
 obtain⟨hi0,Fm,RQ,LX⟩:=hc
 obtain⟨i,rfl⟩:=u6 hi0
 have apD:i≤l.length:=ω
 simp only[A1,qK,tV,V,Ty.isAgg,jL,fG,Rd,fV,eF]at h0 h1 h2
 subst h1
 have hk:=L.qD
 replace RQ:ℓ (α:=e.den) v=1:=RQ
 rcases TY h2 with⟨Vl,_⟩|⟨b2,TC,t2,Bl,hv2,XG,Ly,hc2,hl2,yw,VL,zA⟩
 ·rw[Vl]at RQ;cases RQ
 replace hv2:v2= .slice (some ⟨b2,0,none⟩) 1 Bl:=by rw[hv2];congr 1
 subst hv2
 have abL:e.size≤TC.toList.length:=by
  rw[bn (xs:=TC),VL]
  exact Nat.le_mul_of_pos_left _ hc2
 obtain⟨news,YJ⟩: ∃news,news=TC.toList.take e.size:=⟨_,rfl⟩
 have J5:news.length=1*e.size:=by rw[YJ,bV,kT];omega
 have hnr:pv w (λb=>M0 b∨b∈eA (mV e N).args [v0,.int .i64 (i:Int),.slice (some ⟨b2,0,none⟩) 1 Bl]) e news v:=by
  rw[YJ];exact zA.take (by rw[RQ,kT];exact aH _)
 have hnc: ∀j u,news[j]? =some u→w.cell? ((⟨b2,0,none⟩:Addr).add j)=some u:=by
  have:=vr XG 0 e.size
  rw[cV]at this
  rw[YJ];exact this
 have R4: ∀u∈news,u.oneCell'=true:=by
  have:=hnr 0 ω
  rw[Nat.zero_mul,cV,iz ω]at this
  exact this.lM
 have uX:fC (.slice (some ⟨b2,0,none⟩) 1 Bl)=some b2:=by simp[fC];omega
 replace LX:ℓ (α:=e.den) l+1<AN:=LX
 have YK:(List.take i l++(v++List.drop i l)).length=l.length+1:=by rw[aS,aS,bV,dY,RQ];omega
 have hbn:(YF ρ fn).body.isNone=false:=YI
 refine tW L.hf Bf hbn ?_
 rcases TY h0 with⟨rfl,ad,rfl⟩|⟨b1,zD,t1,EP,rfl,RC,hM1,EL,R5,tT,Nh,Bm⟩
 ·
  have hi:i=0:=by simpa using apD
  subst hi
  obtain⟨m3,rest,dC,RO,jv,J6⟩:=G7 (P:=P) (w:=w) L.t24 L.lay (n:=0) (m:=1) (cap:=0) (cp:=Bl) (olds:=[]) (news:=news) (base:=ad) (a':=⟨b2,0,none⟩) (λ_=>⟨rfl,rfl⟩) (by simp) (λ_ _ j u hj=>by simp at hj) J5 hnc ω (by simp only[AN];omega)
  refine(LV L w ad 0 0 1 Bl ⟨b2,0,none⟩ _ _ ω (aH _) dC).mono ?_
  rintro e1 w' ⟨rfl,rfl⟩
  refine⟨_,rfl,?_⟩
  simp only[gn]at RO J6
  have hv:v=v++[]:=by simp
  have:=yE (e:=e) (rb:=w.heap.size) (cap:=m3) (l:=v) (t:=ρ.t 9) (w:=w) (w':=w.drew.alloc (.cells ([]++news++rest).toArray (ρ.t 9))) sW xu (λb hb _=>alloc_old w.drew _ hb) (by rw[oW];exact rN _) (λh=>absurd h (Ge _)) rfl rfl rfl (rp w.drew _) ω ω jv
   (by simp only[cN,jg,aS,J5,J6,←eD];congr 1;omega) (by simpa using hnr.more (cs':=rest) (by rw[RQ,J5];exact aH _))
  rw[RQ]at this
  simpa [mV,fP,AM.iQ]using this
 ·have nk:fC (.slice (some ⟨b1,0,none⟩) l.length EP)=some b1:=by simp[fC];omega
  have hh:eA (mV e N).args [.slice (some ⟨b1,0,none⟩) l.length EP,.int .i64 (i:Int),.slice (some ⟨b2,0,none⟩) 1 Bl]=[b1,b2]:=by simp[mV,eA,dw,nk,uX]
  rw[hh]at wD xu hnr ⊢
  replace Bm:pv w (λb=>M0 b∨b∈[b1,b2]) e zD.toList l:=by rw[←hh];exact Bm
  have ko:b1≠b2:=by simpa using wD
  have avF:b1<w.heap.size:=(lJ.1 RC).1
  have aoK:b2<w.heap.size:=(lJ.1 XG).1
  have qA:l.length*e.size≤zD.toList.length:=by rw[bn (xs:=zD),Nh];exact kv _ R5
  have hik:i*e.size≤l.length*e.size:=kv _ apD
  obtain⟨A,hAe⟩: ∃A,A=zD.toList.take (i*e.size):=⟨_,rfl⟩
  obtain⟨mid,akC⟩: ∃mid,mid=(zD.toList.drop (i*e.size)).take ((l.length-i)*e.size):=⟨_,rfl⟩
  have TZ:A.length=i*e.size:=by rw[hAe,bV];omega
  have Fl:mid.length=(l.length-i)*e.size:=by
   rw[akC,bV,dY,rO];omega
  have hAr:=Bm.apB i
  have hmr:=Bm.apC i
  rw[←hAe]at hAr
  rw[←akC]at hmr
  have hti:(l.take i).length=i:=by rw[bV];omega
  have T0: ∀rest:List Value,pv w (λb=>M0 b∨b∈[b1,b2]) e (A++(news++(mid++rest))) (l.take i++(v++l.drop i)):=λrest=>
   hAr.append (by rw[TZ,hti]) (hnr.append (by rw[J5,RQ]) (hmr.more (by rw[dY,Fl];exact aH _)))
  have hAc: ∀j u,A[j]? =some u→w.cell? ((⟨b1,0,none⟩:Addr).add j)=some u:=by
   have:=vr RC 0 (i*e.size)
   rw[cV]at this
   rw[hAe];exact this
  have hmc: ∀j u,mid[j]? =some u→w.cell? ((⟨b1,i*e.size,none⟩:Addr).add j)=some u:=by
   rw[akC];exact vr RC (i*e.size) _
  have apF: ∀u∈mid,u.oneCell'=true:=by
   intro u hu
   obtain⟨j,hj,rfl⟩:=rD.1 hu
   rw[Fl]at hj
   have hq:j/e.size<l.length-i:=Nat.div_lt_of_lt_mul (by rw[Gg];exact hj)
   have:=(hmr (j/e.size) (by rw[dY];exact hq)).lM
   refine this _ ?_
   have hjm:j/e.size*e.size+j%e.size=j:=by rw[Gg];exact Nat.div_add_mod j e.size
   have AY:j%e.size<e.size:=Nat.mod_lt _ hk
   rw[List.mem_iff_getElem?]
   refine⟨j%e.size,?_⟩
   rw[mR,aj AY,mS,hjm]
   exact bm _
  by_cases kC:i=l.length
  ·
   subst kC
   have hm0:mid=[]:=uZ (by rw[Fl];simp)
   by_cases A8:l.length+1≤EP
   ·obtain⟨ie,hie,qB,_⟩:=L.lay.base
    have dC: ∀ty,(Builtin.append_ #[ρ.t 24,ρ.t 24] ty #[.slice (some ⟨b1,0,none⟩) l.length EP,.slice (some ⟨b2,0,none⟩) 1 Bl]).run P w=_:=λty=>
     N7 (ty:=ty) (cp:=Bl) L.t24 hie RC (by rw[qB];exact Nh) (by rw[qB];exact J5) hnc R4 A8
    refine(LV L w _ _ _ 1 Bl ⟨b2,0,none⟩ _ _ ω R5 dC).mono ?_
    rintro e1 w' ⟨rfl,rfl⟩
    refine⟨_,rfl,?_⟩
    rw[qB]
    have RW:eN zD.toList (l.length*e.size) news=A++(news++(mid++zD.toList.drop (l.length*e.size+news.length))):=by
     rw[hm0,hAe];simp[eN]
    have:=yE (e:=e) (rb:=b1) (cap:=EP) (l:=l.take l.length++(v++l.drop l.length)) (t:=t1) (w:=w) (w':=w.setRow b1 (eN zD.toList (l.length*e.size) news).toArray) sW xu (λb hb hn=>setRow_other w _ (λe=>hn (by simp[e]))) (by rw[setRow_size];exact aH _) (λ_=>by simp) rfl rfl rfl (setRow_heap w b1 zD _ t1 _ RC) EL (by rw[YK];exact A8) tT
     (by
      have:=ew (s:=e.size) (show l.length<EP by omega)
      rw[RW,jg]
      simp only[aS,hm0,cr,dY,bn,TZ,J5,Nh]
      omega)
     (by rw[RW];exact T0 _)
    rw[YK]at this
    simpa [mV,fP,AM.iQ]using this
   ·obtain⟨m3,rest,dC,RO,jv,J6⟩:=G7 (P:=P) (w:=w) L.t24 L.lay (n:=l.length) (m:=1) (cap:=EP) (cp:=Bl) (olds:=A) (news:=news) (base:=some ⟨b1,0,none⟩) (a':=⟨b2,0,none⟩) (λh=>by cases h) TZ (λb hb=>by cases hb;exact hAc) J5 hnc ω LX
    refine(LV L w _ _ _ 1 Bl ⟨b2,0,none⟩ _ _ ω R5 dC).mono ?_
    rintro e1 w' ⟨rfl,rfl⟩
    refine⟨_,rfl,?_⟩
    have:=yE (e:=e) (rb:=w.heap.size) (cap:=m3) (l:=l.take l.length++(v++l.drop l.length)) (t:=ρ.t 9) (w:=w) (w':=w.drew.alloc (.cells (A++news++rest).toArray (ρ.t 9))) sW xu (λb hb _=>alloc_old w.drew _ hb) (by rw[oW];exact rN _) (λh=>absurd h (Ge _)) rfl rfl rfl (rp w.drew _) ω (by rw[YK];exact RO) jv
     (by simp only[jg,aS,TZ,J5,J6,←eD];congr 1;omega) (by have:=T0 rest;rw[hm0,cN,←bE]at this;exact this)
    rw[YK]at this
    simpa [mV,fP,AM.iQ]using this
  ·have akD:i<l.length:=ω
   have hi1:i*e.size+e.size≤l.length*e.size:=ew akD
   have e1k:(i+1)*e.size=A.length+news.length:=by rw[TZ,J5,eD]
   have Cp:Nat.min 1 (l.length+1-i)=1:=ij ω
   by_cases A8:l.length+1≤EP
   ·
    have apG:l.length*e.size+e.size≤zD.toList.length:=by rw[bn (xs:=zD),Nh];exact ew ω
    have hsh: ∀(b:Nat) (c:Array Value) (t:TypeId),w.heap[b]? =some (.cells c t (0,0))→w.shape? b=some (t,c.size):=λb c t h=>by simp[World.shape?,h]
    obtain⟨B,hB⟩: ∃B,B=zD.toList.drop (i*e.size):=⟨_,rfl⟩
    have apH:zD.toList=A++B:=by rw[hAe,hB,gM]
    have hBl:B.length=zD.toList.length-i*e.size:=by rw[hB,dY]
    have hBk:(B.take e.size).length=e.size:=by rw[bV];omega
    have OF:eN zD.toList ((i+1)*e.size) mid=A++(B.take e.size++(mid++(B.drop e.size).drop mid.length)):=by
     have:zD.toList=(A++B.take e.size)++B.drop e.size:=by rw[bE,gM];exact apH
     rw[this,show(i+1)*e.size=(A++B.take e.size).length from by rw[aS,hBk,TZ,eD,kT],Fv,bE]
    have OG:eN (eN zD.toList ((i+1)*e.size) mid) (i*e.size) news=A++(news++(mid++(B.drop e.size).drop mid.length)):=by
     rw[OF,←TZ,Fv,J5,kT,mz hBk]
    refine(VI L w b1 l.length EP i 1 Bl ⟨b2,0,none⟩ (eN zD.toList ((i+1)*e.size) mid).toArray (eN (eN zD.toList ((i+1)*e.size) mid) (i*e.size) news).toArray akD ω A8 (by simp only[maxLen]at tT;omega) (λx lb cb=> ?_) (λty dc sc=> ?_) (λW hW ty dc=> ?_)).mono ?_
    ·rw[run_callFunc_extern O.hf O.name O.body O.next O.find,
      Lib.run_overlaps_apart w (ρ.t 24) (ρ.t 4) (ρ.t 9) L.t24 e.size (λw=>dv L.lay w) ⟨b2,0,none⟩ ⟨b1,x,none⟩ 1 Bl lb cb (fh ko) t2 t1 TC.size zD.size (hsh b2 TC t2 XG) (hsh b1 zD t1 RC) (by rw[Nh];exact Nat.ne_of_gt (Nat.mul_pos EL hk)) (by simp[World.frozen?,XG]) (by simp[World.frozen?,XG])]
     rfl
    ·exact run_copy_row (P:=P) (W:=w.drew) L.t24 (λw=>dv L.lay w) (cs:=zD) RC (news:=mid) (n:=l.length-i) (by simp only[Nat.min_def];split<;>omega) Fl hmc apF (by rw[Fl,eD,kT];rw[bn (xs:=zD)]at apG;rw[rO];omega) ty
    ·exact run_copy_row (P:=P) (W:=W) L.t24 (λw=>dv L.lay w) (cs:=(eN zD.toList ((i+1)*e.size) mid).toArray) (te:=t1) (by rw[hW];exact setRow_heap w b1 zD _ t1 _ RC) (news:=news) (n:=1) Cp J5
      (λj u hj=>by
       have:=hnc j u hj
       rw[Addr.add_lit]at this ⊢
       rw[show W.cell? ⟨b2,0+j,none⟩=w.cell? ⟨b2,0+j,none⟩from World.cell?_of_block (by rw[hW];exact setRow_other w _ (fh ko))]
       exact this) R4 (by
       rw[jg,OF]
       simp only[aS,hBk,TZ,J5]
       omega) ty
    ·rintro e1 w' ⟨rfl,rfl⟩
     refine⟨_,rfl,?_⟩
     have:=yE (e:=e) (rb:=b1) (cap:=EP) (l:=l.take i++(v++l.drop i)) (t:=t1) (w:=w) (w':=(w.drew.setRow b1 (eN zD.toList ((i+1)*e.size) mid).toArray).setRow b1 (eN (eN zD.toList ((i+1)*e.size) mid) (i*e.size) news).toArray) sW xu
      (λb hb hn=>(setRow_other _ _ (λe=>hn (by simp[e]))).trans (setRow_other _ _ (λe=>hn (by simp[e])))) (by rw[setRow_size,setRow_size];exact aH _) (λ_=>by simp) rfl rfl rfl (setRow_heap _ b1 _ _ t1 _ (setRow_heap w.drew b1 zD _ t1 _ RC)) EL (by rw[YK];exact A8) tT
      (by
       rw[OG,jg]
       rw[bn (xs:=zD)]at apG hBl
       simp only[aS,dY,TZ,J5,Fl,hBl,rO]
       omega)
      (by rw[OG];exact T0 _)
     rw[YK]at this
     simpa [mV,fP,AM.iQ]using this
   ·
    obtain⟨m3,Z,dC,RO,jv,hZl⟩:=VK (P:=P) (w:=w) L.t24 L.t3 L.lay hk (n:=i) (k:=l.length+1-i) (cap:=EP) (olds:=A) (b:=⟨b1,0,none⟩) TZ hAc ω ω ω
    have avI:i+(l.length+1-i)=l.length+1:=ω
    rw[avI]at dC RO
    have hZk:(l.length+1-i)*e.size≤Z.length:=by rw[hZl];exact kv _ ω
    rw[rO,eD,kT]at hZk
    have OF:eN (A++Z) (i*e.size) news=A++(news++Z.drop news.length):=by rw[←TZ,Fv]
    have OG:eN (eN (A++Z) (i*e.size) news) ((i+1)*e.size) mid=A++(news++(mid++(Z.drop news.length).drop mid.length)):=by
     rw[OF,←bE,e1k,←aS,Fv,bE]
    have hnb:w.heap.size≠b1:=ω
    have aCU:b2≠w.heap.size:=ω
    refine(YH L w b1 l.length EP i 1 Bl 0 m3 ⟨b2,0,none⟩ (A++Z).toArray (eN (A++Z) (i*e.size) news).toArray (eN (eN (A++Z) (i*e.size) news) ((i+1)*e.size) mid).toArray akD ω R5 ω (by simp only[maxLen]at tT;omega) (by simp only[AN]at LX;omega) RO (by simp only[maxLen]at jv;omega) (λty=> ?_) (λW hW ty dc=> ?_) (λW hW ty dc sc=> ?_)).mono ?_
    ·have:=dC ty
     rw[show(((l.length+1-i:Nat):Int))=(l.length:Int)+(1:Nat)-(i:Int)from by omega]at this
     exact this
    ·exact run_copy_row (P:=P) (W:=W) L.t24 (λw=>dv L.lay w) (cs:=(A++Z).toArray) (te:=ρ.t 9) (by rw[hW];exact rp w _) (news:=news) (n:=1) Cp J5
      (λj u hj=>by
       have:=hnc j u hj
       rw[Addr.add_lit]at this ⊢
       rw[show W.cell? ⟨b2,0+j,none⟩=w.cell? ⟨b2,0+j,none⟩from World.cell?_of_block (by rw[hW];exact alloc_old w _ aoK)]
       exact this) R4 (by rw[jg,aS,TZ,J5];omega) ty
    ·exact run_copy_row (P:=P) (W:=W) L.t24 (λw=>dv L.lay w) (cs:=(eN (A++Z) (i*e.size) news).toArray) (te:=ρ.t 9) (by rw[hW];exact setRow_heap _ _ _ _ _ _ (rp w _)) (news:=mid) (n:=l.length-i) (by simp only[Nat.min_def];split<;>omega) Fl
      (λj u hj=>by
       have:=hmc j u hj
       rw[Addr.add_lit]at this ⊢
       rw[show W.cell? ⟨b1,i*e.size+j,none⟩=w.cell? ⟨b1,i*e.size+j,none⟩from World.cell?_of_block (by rw[hW];exact(setRow_other _ _ (fh hnb)).trans (alloc_old w _ avF))]
       exact this) apF (by
       rw[jg,OF]
       simp only[aS,dY,TZ,J5,Fl,eD,rO]
       omega) ty
    ·rintro e1 w' ⟨rfl,rfl⟩
     refine⟨_,rfl,?_⟩
     have hg':((w.drew.alloc (.cells (A++Z).toArray (ρ.t 9))).setRow w.heap.size (eN (A++Z) (i*e.size) news).toArray).drew.heap[w.heap.size]? =some (.cells (eN (A++Z) (i*e.size) news).toArray (ρ.t 9) (0,0)):=setRow_heap _ _ _ _ _ _ (rp w.drew _)
     have:=yE (e:=e) (rb:=w.heap.size) (cap:=m3) (l:=l.take i++(v++l.drop i)) (t:=ρ.t 9) (w:=w) (w':=((w.drew.alloc (.cells (A++Z).toArray (ρ.t 9))).setRow w.heap.size (eN (A++Z) (i*e.size) news).toArray).drew.setRow w.heap.size (eN (eN (A++Z) (i*e.size) news) ((i+1)*e.size) mid).toArray) sW xu
      (λb hb hn=>(setRow_other _ _ ω).trans ((setRow_other _ _ ω).trans (alloc_old w.drew _ hb))) (by rw[setRow_size];show _≤(World.setRow _ _ _).heap.size;rw[setRow_size,oW];exact rN _) (λh=>absurd h (Ge _)) rfl rfl rfl (setRow_heap _ _ _ _ _ _ hg') ω (by rw[YK];exact RO) jv
      (by
       rw[OG,jg]
       have hmul:(m3-i)*e.size=m3*e.size-i*e.size:=rO _ _ _
       have hci:i*e.size≤m3*e.size:=kv _ ω
       simp only[aS,dY,TZ,J5,Fl,hZl,hmul,rO]at hZk ⊢
       omega)
      (by rw[OG];exact T0 _)
     rw[YK]at this
     simpa [mV,fP,AM.iQ]using this
def YL(ρ:Ren)(fn:Func):Func:={fn with body:=(Body2.n15 ρ).body,ntmps:=8,results:=(Body2.n15 ρ).results,nfree:=0}
theorem DW(ρ:Ren)(fn:Func):(YL ρ fn).ntmps=8:=rfl
structure LY(P:Program)(e:Ty)(ρ:Ren)(f:FuncId)(fn:Func):Prop where
 hf:P.funcs[f]? =some (YL ρ fn)
 t4:P.underlying (ρ.t 4)=some .bool
 t22:P.underlying (ρ.t 22)=some (.slice (ρ.t 3))
 lay:kX P e (ρ.t 3)
 qD:0<e.size
 mixed:P.follows .mixedOrders=true
set_option maxHeartbeats 4000000 in
set_option maxRecDepth 100000 in
theorem VN{e:Ty}{f:FuncId}{fn:Func}(L:LY P e ρ f fn)(w:World)(n c:Nat):
  Calls P f #[.slice none n c] w λr w2=>r= .returned (.slice none 0 0)∧w2=w:=by
 have u22:=run_underlying L.t22
 have t4:=L.t4;have t22:=L.t22
 have z3:=λw=>dv L.lay w
 have mixed:=L.mixed
 have q22: ∀(w:World) (a:Option Addr) (n c n' c':Nat),(binOp .eql (ρ.t 22) (.slice a n c) (.slice none n' c')).run P w= .ok (.bool a.isNone) w:=λw a n c n' c'=>Lib.run_eql_slice_nil w _ _ a n c n' c' L.t22
 go_enter L.hf,DW ρ fn
 go_wp2
 go_ret
 exact⟨rfl,rfl⟩
set_option maxHeartbeats 4000000 in
set_option maxRecDepth 100000 in
theorem G9{e:Ty}{f:FuncId}{fn:Func}(L:LY P e ρ f fn)(w:World)(a:Addr)(n c:Nat)(v':Value)(w':World)
  (Og: ∀ty,(Builtin.append_ #[ρ.t 22,ρ.t 22] ty #[.slice (some ⟨w.heap.size,0,none⟩) 0 0,.slice (some a) n c]).run P (w.alloc (.cells #[] (ρ.t 3)))= .ok v' w'):
   Calls P f #[.slice (some a) n c] w λr w2=>r= .returned v'∧w2=w':=by
 have u22:=run_underlying L.t22
 have t4:=L.t4;have t22:=L.t22
 have z3:=λw=>dv L.lay w
 have mixed:=L.mixed
 have q22: ∀(w:World) (a:Option Addr) (n c n' c':Nat),(binOp .eql (ρ.t 22) (.slice a n c) (.slice none n' c')).run P w= .ok (.bool a.isNone) w:=λw a n c n' c'=>Lib.run_eql_slice_nil w _ _ a n c n' c' L.t22
 obtain⟨ab,ao,asp⟩:=a
 go_enter L.hf,DW ρ fn
 go_wp2_with (at_builtin;refine Lib.wpList_append_run _ rfl _ _ _ _ rfl _ _ rfl rfl _ _ (Og _) ?_)
 all_goals (go_ret;exact⟨rfl,rfl⟩)
theorem YM{w w':World}{M0:Nat→Prop}{e:Ty}(a:Option Addr)(sW: ∀b,M0 b→b<w.heap.size)(hfr: ∀b,b<w.heap.size→w'.heap[b]? =w.heap[b]?)(qB:w.heap.size≤w'.heap.size)
  (hos:w'.os=w.os) (htp:w'.tape=w.tape) (RU:w'.output=w.output):
  ∃us M',Value.slice a 0 0=xp us∧RR w' M' [.own e] ([]:List e.den) us []∧Left w M0 [] w' M'∧(bH [.own e] us []).Nodup∧ ∀b∈bH [.own e] us [],¬M0 b:=by
 have xf:bH [.own e] [Value.slice a 0 0] []=[]:=by
  cases a<;>simp[bH,dw,AM.iQ,fC]
 refine⟨[.slice a 0 0],M0,rfl,?_,?_,?_,?_⟩
 ·simp only[RR]
  refine .inr ⟨_,[],rfl,rfl,rfl,?_,rfl,trivial⟩
  simp only[A1,ER,qK]
  exact .inl ⟨trivial,a,rfl⟩
 ·exact⟨λb h=>h,λb h=>nM (sW b h) qB,λb hb h=> .inl h,λb hb _=>hfr b hb,qB,hos,htp,RU⟩
 ·rw[xf];simp
 ·rw[xf];simp
theorem rq{e:Ty}{f:FuncId}{fn:Func}(L:LY P e ρ f fn)(Bf:(fn.name== "runtime.NumGoroutine")=false)(YI:(Body2.n15 ρ).body.isNone=false)(N:Nat):jw P f (xc e N):=by
 refine⟨(λh=>by cases h),rfl,λM0 w vs x y sW hA wD xu hy=> ?_⟩
 have TT:ju N x=some y:=hy
 clear hy
 obtain⟨v0,vs1,rfl,h0,h2⟩:=hA
 have h2:vs1=[]:=h2
 subst h2
 replace h0:V w (λb=>M0 b∨b∈([]:List Nat)) (.slice e) v0 x:=h0
 unfold ju at TT
 split at TT
 case isFalse=>cases TT
 rename_i LX
 cases TT
 have hbn:(YL ρ fn).body.isNone=false:=YI
 have hh:eA (xc e N).args [v0]=[]:=rfl
 rw[hh]at xu ⊢
 refine tW L.hf Bf hbn ?_
 obtain⟨i,hi,qB,hz,hby⟩:=L.lay.base
 have hS:=Src.abF h0
 by_cases hx:x=[]
 ·obtain⟨a,cp,hv,_⟩:=hS
  subst hv
  rw[hx]
  cases a with
  |none=>
   refine(VN L w _ cp).mono ?_
   rintro e1 w' ⟨rfl,rfl⟩
   exact⟨_,rfl,YM none sW (λ_ _=>rfl) (aH _) rfl rfl rfl⟩
  |some a=>
   refine(G9 L w a _ cp _ _ (λty=>tk (P:=P) (w:=w.alloc (.cells #[] (ρ.t 3))) L.t22 hi (some ⟨w.heap.size,0,none⟩) 0 0 (aH _) (some a) cp)).mono ?_
   rintro e1 w' ⟨rfl,rfl⟩
   exact⟨_,rfl,YM _ sW (λb hb=>alloc_old w _ hb) (by rw[oW];exact rN _) rfl rfl rfl⟩
 ·obtain⟨b,off,cp,news,hv,hl,pt,kB,h1⟩:=hS.cells hx
  have N8:0<x.length:=pD.2 hx
  subst hv
  obtain⟨m3,rest,dC,RO,jv,J6⟩:=G7 (P:=P) (w:=w.alloc (.cells #[] (ρ.t 3))) L.t22 L.lay (n:=0) (m:=x.length) (cap:=0) (cp:=cp) (olds:=[]) (news:=news) (base:=some ⟨w.heap.size,0,none⟩) (a':=⟨b,off,none⟩) (λh=>by cases h) (by simp) (λ_ _ j u hj=>by simp at hj) hl
   (λj u hj=>by rw[Addr.add_lit];exact Lib.cell?_alloc_some _ (pt j u hj)) ω ω
  refine(G9 L w ⟨b,off,none⟩ _ cp _ _ dC).mono ?_
  rintro e1 w' ⟨rfl,rfl⟩
  refine⟨_,rfl,?_⟩
  simp only[gn]at RO J6 ⊢
  have Nh:(w.alloc (.cells #[] (ρ.t 3))).heap.size=w.heap.size+1:=oW w _
  exact yE (e:=e) (rb:=(w.alloc (.cells #[] (ρ.t 3))).heap.size) (cap:=m3) (l:=x) (t:=ρ.t 3) (w:=w) (w':=(w.alloc (.cells #[] (ρ.t 3))).drew.alloc (.cells ([]++news++rest).toArray (ρ.t 3))) sW xu
   (λb hb _=>(alloc_old (w.alloc (.cells #[] (ρ.t 3))).drew _ (by show b<(w.alloc (.cells #[] (ρ.t 3))).heap.size;omega)).trans (alloc_old w _ hb))
   (by rw[oW];show w.heap.size≤(w.alloc (.cells #[] (ρ.t 3))).heap.size+1;omega) (λh=>ω) rfl rfl rfl (rp (w.alloc (.cells #[] (ρ.t 3))).drew _) ω RO jv
   (by simp only[cN,jg,aS,hl,J6,←eD];congr 1;omega) (by simpa using pv.more (cs':=rest) (show pv w (λb=>M0 b∨b∈([]:List Nat)) e news x from kB) (by rw[hl];exact aH _))
end VM
end
