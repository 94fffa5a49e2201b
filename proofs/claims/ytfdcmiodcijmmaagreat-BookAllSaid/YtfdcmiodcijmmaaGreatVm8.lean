/- A part of the proof of BookAll of layer 18: a machine that reads a function of the program as an equation between values. -/
import Derived.Test.YtfdcmiodcijmmaaGreatVm7
import Derived.KernelRfl
import Derived.Test.YtfdcmiodcijmmaaGreatVm0
import Derived.Laws.Externs
import Derived.Shelf.Spec.SlicesInsertGrow
set_option linter.all false
open List renaming length→ℓ
noncomputable section
section
namespace VM
open Go
@[reducible] def CM.arr:CM→Type→Type
 | .v τ,T| .obj τ,T| .io τ,T| .fn _ τ,T=>τ.den→T
 | .own e,T=>List e.den→T
 | .dT τ _ e,T=>τ.den→List e.den→T
 | .same _,T=>T
@[reducible] def Ko:List (Nat×CM)→Type→Type
 |[],R=>R
 |q::r,R=>q.2.arr (Ko r R)
def CM.lam{T:Type}(s:Nat)(σ:St):(m:CM)→(St→T)→m.arr T
 | .v τ,f=>λx=>f (σ.put s (.val τ x))
 | .own e,f=>λx=>f ((σ.put s (.ref (16*s+14))).fY (16*s+14) (some (.own e x)))
 | .obj τ,f=>λx=>f ((σ.put s (.ft (16*s+14) [])).fY (16*s+14) (some (.obj τ x)))
 | .dT τ q e,f=>λx l=>f (((σ.put s (.ft (16*s+14) [])).fY (16*s+13) (some (.own e l))).fY (16*s+14) (some (.dT τ x q (16*s+13))))
 | .io τ,f=>λx=>f ((σ.put s (.ft (16*s+15) [])).fY (16*s+15) (some (.obj τ x)))
 | .fn g τ,f=>λx=>f (σ.put s (.Dh g (lA τ x)))
 | .same s',f=>f (σ.put s (σ.T s'))
def WY{R:Type}(κ:St→R):(L:List (Nat×CM))→St→Ko L R
 |[],σ=>κ σ
 |q::r,σ=>q.2.lam q.1 σ (WY κ r)
@[reducible] def ss:List AM→Type→Type
 |[],R=>R
 |m::r,R=>m.den→ss r R
def yM{R:Type}:(ms:List AM)→ss ms R→HP ms→R
 |[],g,_=>g
 |[_],g,x=>g x
 |_::n::ms,g,x=>yM (n::ms) (g x.1) x.2
def Jj{R:Type}:(ms:List AM)→(HP ms→R)→ss ms R
 |[],f=>f ()
 |[_],f=>f
 |_::n::ms,f=>λx=>Jj (n::ms) λy=>f (x,y)
theorem BW{R:Type}: ∀(ms:List AM) (f:HP ms→R) (x:HP ms),yM ms (Jj ms f) x=f x
 |[],_,()=>rfl
 |[_],_,_=>rfl
 |_::n::ms,f,x=>BW (n::ms) (λy=>f (x.1,y)) x.2
structure Pc where
 k:Nat
 c:List (Nat×CM)
 path:List Nat
 ks:List Nat
def Ls:List Pc→Nat→Pc
 |[],_=>⟨0,[],[],[]⟩
 |p::r,k=>cond (Nat.beq k p.k) p (Ls r k)
def D5:List Pc→Nat→Option (List (Nat×CM))
 |[],_=>none
 |p::r,k=>cond (Nat.beq k p.k) (some p.c) (D5 r k)
def uU:List (Nat×iI)→Nat→List iI
 |[],_=>[]
 |q::r,i=>cond (Nat.beq i q.1) (q.2::uU r i) (uU r i)
def yN:List AM→Nat→List Nat
 |[],_=>[]
 | .io _::r,i=>i::yN r (i+1)
 | .lo _::r,i=>i::yN r (i+1)
 |_::r,i=>yN r (i+1)
structure Fx where
 nt:Nat
 tab:List (Nat×Ty)
 G:List (Nat×iI)
 N:Nat
 fn:Func
 args:List AM
 res:List AM
 Ra:List Pc
 lk:Option (Ty×List Step×Ty×List Nat):=none
namespace Fx
variable(X:Fx)
abbrev R:=Option (HP X.res)
def E:Env:={nt:=X.nt,ty:=λi=>D4 i X.tab,Γ:=uU X.G,N:=X.N,p8:=λr=>D5 X.Ra (2*r+1),rF:=λr=>D5 X.Ra (2*r),io:=yN X.args 0,lk:=X.lk}
@[reducible] def c(i:Nat):List (Nat×CM):=(Ls X.Ra i).c
def path(i:Nat):List Nat:=(Ls X.Ra i).path
def odd(i:Nat):Bool:=Nat.beq (i%2) 1
def cut(ρ:Nat→St→X.R)(l:Nat):St→X.R:=fun σ=>qh (some (X.c l)) σ (ρ l)
def ks(ρ:Nat→St→X.R)(i:Nat):List (St→X.R):=(Ls X.Ra i).ks.map (X.cut ρ)
def lp(ρ:Nat→St→X.R)(i n:Nat):St→X.R:=lpF X.E X.fn X.args X.res (X.c i) (X.path i) (X.ks ρ i) n
def cM(ρ:Nat→St→X.R)(i:Nat):St→X.R:=cond (odd i) (X.lp ρ i X.N) (SK X.E X.fn X.args X.res (X.path i) (X.ks ρ i))
def own(ρ:Nat→St→X.R)(i:Nat):List (St→X.R):=X.ks ρ i++cond (odd i) [X.cut ρ i] []
def SM(K ρ:Nat→St→X.R)(i:Nat):St→X.R:=atQ X.E X.fn X.args X.res (λr=>K (2*r)) (λr=>K (2*r+1)) (X.path i) (X.own ρ i)
def tl(K ρ:Nat→St→X.R)(i:Nat):List ((St→X.R)×(St→X.R)):=qz X.E (λr=>K (2*r)) (λr=>K (2*r+1)) (N9 X.E X.fn X.args X.res (X.path i) (X.own ρ i))
@[reducible] def cu(i:Nat)(κ:St→X.R):Ko (X.c i) X.R:=WY κ (X.c i) S0
@[reducible] def bd(K ρ:Nat→St→X.R)(i:Nat):Ko (X.c i) X.R:=X.cu i (X.SM K ρ i)
@[reducible] def kc(ρ:Nat→St→X.R)(i:Nat):Ko (X.c i) X.R:=X.cu i (ρ i)
def vS:Nat→St→X.R:=λ_ _=>none
def top(K:Nat→St→X.R):ss X.args X.R:=Jj X.args λx=>atQ X.E X.fn X.args X.res (λr=>K (2*r)) (λr=>K (2*r+1)) [] [] (entry X.args x 0 S0)
def tlT(K:Nat→St→X.R):List ((St→X.R)×(St→X.R)):=qz X.E (λr=>K (2*r)) (λr=>K (2*r+1)) (N9 X.E X.fn X.args X.res [] [])
def S(q:Bool)(g:ss X.args X.R):iI:={args:=X.args,res:=X.res,quiet:=q,run:=yM X.args g}
variable{X}
theorem Oa(f:Nat→St→X.R): ∀m6:List Nat,Jh (m6.map λt=>(f t,f t))
 |[]=>trivial
 |_::r=>⟨rfl,Oa f r⟩
theorem okJ{i:Nat}(m6:List Nat)(hi:odd i=false)(hr: ∀K ρ,X.tl K ρ i=m6.map λt=>(K t,X.cM ρ t)){g:(Nat→St→X.R)→(Nat→St→X.R)→Ko (X.c i) X.R}(h: ∀K ρ,X.bd K ρ i=g K ρ)(ρ:Nat→St→X.R):X.kc (X.cM ρ) i=g (X.cM ρ) ρ:=by
 rw[←h]
 have:X.cM ρ i=X.SM (X.cM ρ) ρ i:=by
  funext σ
  have h1:=hr (X.cM ρ) ρ
  unfold tl own at h1
  rw[hi,an,bF]at h1
  unfold SM own
  rw[hi,an,bF]
  rw[←at_eq X.E X.fn X.args X.res h1 (Oa (X.cM ρ) m6) σ]
  unfold cM;rw[hi];rfl
 unfold kc bd
 rw[this]
def okb(X:Fx)(i:Nat):Bool:=odd i&&(Ls X.Ra i).ks.all λl=> !(Nat.beq l i)
theorem okL{i:Nat}(m6:List Nat)(hi:okb X i=true)(hr: ∀K ρ,X.tl K ρ i=m6.map λt=>(K t,X.cM ρ t)){g:(Nat→St→X.R)→(Nat→St→X.R)→Ko (X.c i) X.R}(h: ∀K ρ,X.bd K ρ i=g K ρ)(ρ:Nat→St→X.R)
  (G:Nat→Ko (X.c i) X.R) (h0:X.cu i (λ_=>none)=G 0) (hs: ∀n ρ',X.kc ρ' i=G n→(∀l,Nat.beq l i=false→X.kc ρ' l=X.kc ρ l)→g (X.cM ρ') ρ'=G (n+1)):X.kc (X.cM ρ) i=G X.N:=by
 unfold okb at hi
 rw[ba]at hi
 obtain⟨hi,hk⟩:=hi
 have key: ∀n,X.cu i (X.lp ρ i n)=G n:=by
  intro n
  induction n with
  |zero=>exact h0
  |succ n ih=>
   let ρ':Nat→St→X.R:=λl=>cond (Nat.beq l i) (X.lp ρ i n) (ρ l)
   have e1:ρ' i=X.lp ρ i n:=by show cond (Nat.beq i i) _ _=_;rw[ku];rfl
   have e2: ∀l,Nat.beq l i=false→ρ' l=ρ l:=λl hl=>by show cond (Nat.beq l i) _ _=_;rw[hl];rfl
   rw[←hs n ρ' (by unfold kc;rw[e1];exact ih) (λl hl=>by unfold kc;rw[e2 l hl]),←h]
   have e3:X.ks ρ' i=X.ks ρ i:=by
    unfold ks
    refine nh λl hl=> ?_
    have:=lJ.1 hk l hl
    unfold cut
    rw[e2 l (by simpa using this)]
   have:X.lp ρ i (n+1)=X.SM (X.cM ρ') ρ' i:=by
    funext σ
    have h1:=hr (X.cM ρ') ρ'
    unfold tl own at h1
    rw[hi,aa]at h1
    unfold SM own
    rw[hi,aa]
    rw[←at_eq X.E X.fn X.args X.res h1 (Oa (X.cM ρ') m6) σ]
    unfold lp
    rw[Lo,e3]
    unfold cut
    rw[e1];rfl
   unfold bd
   rw[this]
 have:X.cM ρ i=X.lp ρ i X.N:=by unfold cM;rw[hi];rfl
 unfold kc
 rw[this];exact key _
def BX(P:Program):List (Nat×iI)→Prop
 |[]=>True
 |q::r=>fj P q.1 q.2∧BX P r
structure _root_.VM.Kn(P:Program) where
 f:Nat
 S:iI
 ok:fj P f S
def _root_.VM.Kn.p{P:Program}(k:Kn P):Nat×iI:=(k.f,k.S)
def _root_.VM.Kn.l{P:Program}:List (Kn P)→List (Nat×iI)
 |[]=>[]
 |k::r=>k.p::Kn.l r
theorem _root_.VM.Kn.all{P:Program}: ∀l:List (Kn P),BX P (Kn.l l)
 |[]=>trivial
 |k::r=>⟨k.ok,Kn.all r⟩
theorem uV{P:Program}: ∀{l:List (Nat×iI)},BX P l→ ∀f S,S∈uU l f→fj P f S
 |[],_,f,S,h=>by simp[uU]at h
 |q::r,ha,f,S,h=>by
  unfold uU at h
  cases hb:Nat.beq f q.1<;>rw[hb]at h
  ·exact uV ha.2 f S h
  ·rcases aV.1 h with rfl|h
   ·rw[df hb];exact ha.1
   ·exact uV ha.2 f S h
theorem yO: ∀{l:List Pc},(l.all λp=>gz p.c)=true→ ∀i L,D5 l i=some L→gz L=true
 |q::r,ha,i,L,h=>by
  rw[pX,ba]at ha
  unfold D5 at h
  cases hb:Nat.beq i q.k<;>rw[hb]at h
  ·exact yO ha.2 i L h
  ·cases h;exact ha.1
def SN(X:Fx)(q:Bool):Bool:=(X.Ra.all λp=>gz p.c)&&((!(X.fn.name== "runtime.NumGoroutine")&&Nat.beq X.nt X.fn.ntmps)&&(X.fn.body.isSome&&(Nat.ble X.args.length X.nt&&((!q||X.res.all AM.flat)&&decide (iX X.args=iX X.res)))))
theorem D6: ∀{ms:List AM} {k i:Nat} {m:AM},ms[i]? =some m→m.eU=true→k+i∈yN ms k
 |[],_,_,_,h,_=>by simp at h
 |m::ms,k,0,m',h,pw=>by
  simp only[C8,eJ]at h
  subst h
  cases m<;>simp[AM.eU]at pw<;>simp[yN]
 |m::ms,k,i+1,m',h,pw=>by
  have:=D6 (ms:=ms) (k:=k+1) (i:=i) (by simpa using h) pw
  rw[show k+(i+1)=k+1+i from by omega]
  cases m<;>simp only[yN]<;>first|exact aU _ this|exact this
theorem H4: ∀{ms:List AM} {k i:Nat},i∈yN ms k→i<k+ms.length
 |[],_,_,h=>by simp[yN]at h
 |m::ms,k,i,h=>by
  have hr:i∈yN ms (k+1)→i<k+(m::ms).length:=λh=>by have:=H4 h;simp only[aL];omega
  cases m<;>simp only[yN]at h<;>first
   |exact hr h
   |(rcases aV.1 h with rfl|h<;>first|exact hr h|(simp only[aL];omega))
variable(X)in
theorem AV{P:Program}(ht:yL P X.tab)(hG:BX P X.G)(hc:(X.Ra.all λp=>gz p.c)=true):mI P X.E:=by
 have fi: ∀t τ,D4 t X.tab=some τ→oj P τ (.inl t)=true∧N7 P τ t=true:=λt τ h=>by
  have:=lJ.1 ht.ok _ (AU h)
  simpa using this
 exact{ty:=λt τ h=>eN (fi t τ h).1,eq:=λt τ h hc ha=>N8 (eN (fi t τ h).1) (fi t τ h).2 hc ha,Wv:=uV hG,mixed:=ht.mixed,gz:=λi L h=>yO hc _ L h,KX:=λi L h=>yO hc _ L h}
theorem mkS{P:Program}(ht:yL P X.tab){f:FuncId}(hf:P.funcs[f]? =some X.fn){q:Bool}(hc:SN X q=true)(hG:BX P X.G){g:ss X.args X.R}(h: ∀x,CN X.E X.fn X.args X.res x=yM X.args g x):fj P f (X.S q g):=by
 unfold SN at hc
 simp only[ba]at hc
 obtain⟨h0,⟨h1,h2⟩,h3,h4,h5,h6⟩:=hc
 refine Lf (AV X ht hG h0) hf (by simpa using h1) (df h2) (X.S q g) (λi m hm pw=> ?_) (λi hi=> ?_) ?_ (λhq=> ?_) (bH h6) h
 ·have:=D6 (k:=0) hm pw
  rwa [dG]at this
 ·have:=H4 (k:=0) hi
  rwa [dG]at this
 ·have:=xy h4
  rwa [df h2]at this
 ·have hq:q=true:=hq
  subst hq
  show X.res.all AM.flat=true
  simpa using h5
theorem Jk{g:ss X.args X.R}(h:Jj X.args (CN X.E X.fn X.args X.res)=g)(x:HP X.args):CN X.E X.fn X.args X.res x=yM X.args g x:=by rw[←h,BW]
variable(X)in
theorem ok0{P:Program}(ht:yL P X.tab){f:FuncId}(hf:P.funcs[f]? =some X.fn){q:Bool}(hc:SN X q=true)(hG:BX P X.G){g:ss X.args X.R}(h:Jj X.args (CN X.E X.fn X.args X.res)=g):fj P f (X.S q g):=
 mkS ht hf hc hG (Jk h)
theorem abe(hb:X.fn.body.isSome=true)(m6:List Nat)(hr: ∀K,X.tlT K=m6.map λt=>(K t,X.cM X.vS t))
  {g:(Nat→St→X.R)→ss X.args X.R} (h: ∀K,X.top K=g K) {f:ss X.args X.R} (hf:g (X.cM X.vS)=f) (x:HP X.args):CN X.E X.fn X.args X.res x=yM X.args f x:=by
 rw[←hf,←h,SL hb]
 unfold top
 rw[BW]
 exact at_eq X.E X.fn X.args X.res (hr (X.cM X.vS)) (Oa (X.cM X.vS) m6) _
variable(X)in
theorem ok1{P:Program}(ht:yL P X.tab){f:FuncId}(hf:P.funcs[f]? =some X.fn){q:Bool}(hc:SN X q=true)(hG:BX P X.G)(m6:List Nat)(hr: ∀K,X.tlT K=m6.map λt=>(K t,X.cM X.vS t))
  {g:(Nat→St→X.R)→ss X.args X.R} (h: ∀K,X.top K=g K) {f':ss X.args X.R} (sa:g (X.cM X.vS)=f'):fj P f (X.S q f'):=by
 have hb:X.fn.body.isSome=true:=by
  unfold SN at hc
  simp only[ba]at hc
  exact hc.2.2.1
 exact mkS ht hf hc hG (abe hb m6 hr h sa)
theorem uJ{i:Nat}(m6:List Nat){g:(Nat→St→X.R)→(Nat→St→X.R)→Ko (X.c i) X.R}(h: ∀K ρ,X.bd K ρ i=g K ρ)(ρ:Nat→St→X.R){f:Ko (X.c i) X.R}(hf:g (X.cM ρ) ρ=f:=by rfl)
 (hi:odd i=false:=by kernel_rfl) (hr: ∀K ρ,X.tl K ρ i=m6.map λt=>(K t,X.cM ρ t):=by intro K ρ;kernel_rfl):X.kc (X.cM ρ) i=f:=(okJ m6 hi hr h ρ).trans hf
theorem uL{i:Nat}(m6:List Nat){g:(Nat→St→X.R)→(Nat→St→X.R)→Ko (X.c i) X.R}(h: ∀K ρ,X.bd K ρ i=g K ρ)(ρ:Nat→St→X.R)
 (G:Nat→Ko (X.c i) X.R) (hs: ∀n ρ',X.kc ρ' i=G n→(∀l,Nat.beq l i=false→X.kc ρ' l=X.kc ρ l)→g (X.cM ρ') ρ'=G (n+1)) (h0:X.cu i (λ_=>none)=G 0:=by rfl)
 (hi:okb X i=true:=by kernel_rfl) (hr: ∀K ρ,X.tl K ρ i=m6.map λt=>(K t,X.cM ρ t):=by intro K ρ;kernel_rfl):X.kc (X.cM ρ) i=G X.N:=okL m6 hi hr h ρ G h0 hs
variable(X)in
theorem u0{P:Program}(ht:yL P X.tab){f:FuncId}(hf:P.funcs[f]? =some X.fn){q:Bool}{g:ss X.args X.R}(hG:BX P X.G:=by first|exact trivial|exact Kn.all _)(hc:SN X q=true:=by kernel_rfl)(h:Jj X.args (CN X.E X.fn X.args X.res)=g:=by kernel_rfl):fj P f (X.S q g):=ok0 X ht hf hc hG h
variable(X)in
theorem u1{P:Program}(ht:yL P X.tab){f:FuncId}(hf:P.funcs[f]? =some X.fn)(m6:List Nat)
 {g:(Nat→St→X.R)→ss X.args X.R} (h: ∀K,X.top K=g K) {q:Bool} {f':ss X.args X.R} (sa:g (X.cM X.vS)=f':=by rfl) (hG:BX P X.G:=by first|exact trivial|exact Kn.all _) (hc:SN X q=true:=by kernel_rfl) (hr: ∀K,X.tlT K=m6.map λt=>(K t,X.cM X.vS t):=by intro K;kernel_rfl):fj P f (X.S q f'):=ok1 X ht hf hc hG m6 hr h sa
end Fx
end VM
end
section
namespace VM
open Go
variable{P:Program}
theorem Left.same(w:World)(M0:Nat→Prop)(h: ∀b,M0 b→b<w.heap.size):Left w M0 [] w M0:=
 ⟨λ_ h=>h,h,λ_ _ h=> .inl h,λ_ _ _=>rfl,aB _,rfl,rfl,rfl⟩
theorem WZ{w:World}{M:Nat→Prop}{a b c:IntKind}{x:HP [.v (.int a),.v (.int b),.v (.int c)]}{vs:List Value}(h:gj w M [.v (.int a),.v (.int b),.v (.int c)] x vs):vs=[.int a x.1,.int b x.2.1,.int c x.2.2]:=by
 simp only[gj,A1,V,Ty.isAgg,fD,dW,Rd,dx,dR]at h
 obtain⟨v,vs,rfl,rfl,v,vs,rfl,rfl,v,vs,rfl,rfl,rfl⟩:=h
 rfl
theorem rr2{w:World}{M:Nat→Prop}{a b:IntKind}(x y:Int):RR w M [.v (.int a),.v (.int b)] (x,y) [.int a x,.int b y] []:=by
 simp only[RR]
 refine .inr ⟨_,_,rfl,rfl,rfl,?_,.inr ⟨_,_,rfl,rfl,rfl,?_,rfl,trivial⟩⟩<;>simp[A1,V,Ty.isAgg,Rd,lP,nP]
theorem H5{f:FuncId}(run:Int×Int×Int→Option (Int×Int))
  (h: ∀(w:World) (a b c u v:Int),run (a,b,c)=some (u,v)→(callFunc f #[.int .u64 a,.int .u64 b,.int .u64 c]).run P w= .ok (.value (.tuple #[.int .u64 u,.int .u64 v])) w):
  fj P f {args:=[.v (.int .u64),.v (.int .u64),.v (.int .u64)],res:=[.v (.int .u64),.v (.int .u64)],quiet:=true,run}:=by
 refine⟨λ_=>rfl,rfl,λM0 w vs x y m5 hA _ _ hy=> ?_⟩
 have NJ:=WZ hA
 subst NJ
 exact Ah (h w x.1 x.2.1 x.2.2 y.1 y.2 hy) ⟨_,M0,rfl,rr2 y.1 y.2,Left.same w M0 m5,List.nodup_nil,λb hb=>by cases hb⟩
theorem uW(nm:String)(a b c:Nat)(h:c≤1)(w:World):(Extern.MathBitsCarry.three nm #[.int .u64 a,.int .u64 b,.int .u64 c]).run P w= .ok (a,b,c) w:=by
 have h5: ¬(1<c):=ω
 have:Extern.MathBitsCarry.three nm #[.int .u64 a,.int .u64 b,.int .u64 c]=(do
  let c:=(←asInt (.int .u64 c)).toNat
  if c>1 then unsupported (.noEntry ("extern/math/bits." ++nm++ ": a carry that is neither 0 nor 1"))
  pure ((←asInt (.int .u64 a)).toNat,(←asInt (.int .u64 b)).toNat,c)):=rfl
 rw[this]
 simp[asInt,asIntOf]
 omega
theorem Jl{f:FuncId}{fn:Func}(N:Nat)(hf:P.funcs[f]? =some fn)(tN:(fn.name== "runtime.NumGoroutine")=false)(hb:fn.body.isNone=true)(hn:Extern.findNext fn=none)
  (he:Extern.find fn=(Extern.MathBitsCarry.rows[0]?).map (·.2)):fj P f (od.S N):=by
 refine H5 (λx=>od N x.1 x.2.1 x.2.2) λw a b c u v hy=> ?_
 simp only[od]at hy
 split at hy
 ·rename_i hc
  obtain⟨h1,h2,h3,h4⟩:=hc
  obtain⟨a,rfl⟩:=oA h1
  obtain⟨b,rfl⟩:=oA h2
  obtain⟨c,rfl⟩:=oA h3
  cases hy
  rw[run_callFunc_extern hf tN hb hn he]
  simp[uW _ a b c ω,Extern.MathBitsCarry.pair,Extern.MathBitsCarry.m64]
 ·cases hy
theorem Jm{f:FuncId}{fn:Func}(N:Nat)(hf:P.funcs[f]? =some fn)(tN:(fn.name== "runtime.NumGoroutine")=false)(hb:fn.body.isNone=true)(hn:Extern.findNext fn=none)
  (he:Extern.find fn=(Extern.MathBitsCarry.rows[1]?).map (·.2)):fj P f (np.S N):=by
 refine H5 (λx=>np N x.1 x.2.1 x.2.2) λw a b c u v hy=> ?_
 simp only[np]at hy
 split at hy
 ·rename_i hc
  obtain⟨h1,m4,h2,rU,h3,h4⟩:=hc
  obtain⟨a,rfl⟩:=oA h1
  obtain⟨b,rfl⟩:=oA h2
  obtain⟨c,rfl⟩:=oA h3
  cases hy
  rw[run_callFunc_extern hf tN hb hn he]
  have e1:((a+18446744073709551616-b-c:Nat):Int)=(a:Int)+18446744073709551616-b-c:=ω
  by_cases h:a<b+c
  ·have h':(a:Int)<(b:Int)+(c:Int):=ω
   simp[uW _ a b c ω,Extern.MathBitsCarry.pair,Extern.MathBitsCarry.m64,e1,h,h']
  ·have h': ¬(a:Int)<(b:Int)+(c:Int):=ω
   simp[uW _ a b c ω,Extern.MathBitsCarry.pair,Extern.MathBitsCarry.m64,e1,h,h']
 ·cases hy
end VM
end
section
namespace VM
open Go Go.Shelf Go.RowKit Go.Lib Go.Proofs
variable{P:Program}{ρ:Ren}
def Lt(ρ:Ren)(fn:Func):Func:={fn with body:=(Body2.n22 ρ).body,ntmps:=95,results:=(Body2.n22 ρ).results,nfree:=0}
theorem qA(ρ:Ren)(fn:Func):(Lt ρ fn).ntmps=95:=rfl
structure Jn(P:Program)(e:Ty)(ρ:Ren)(f:FuncId)(fn fo:Func):Prop where
 hf:P.funcs[f]? =some (Lt ρ fn)
 t3:P.underlying (ρ.t 3)=some (.int .i64)
 t4:P.underlying (ρ.t 4)=some .bool
 t24:P.underlying (ρ.t 24)=some (.slice (ρ.t 9))
 lay:gA P e (ρ.t 9)
 lD:0<e.size
 mixed:P.follows .mixedOrders=true
set_option maxHeartbeats 4000000 in
set_option maxRecDepth 100000 in
theorem BY{e:Ty}{f:FuncId}{fn fo:Func}(L:Jn P e ρ f fn fo)(w:World)(base:Option Addr)(n c m vc:Nat)(va:Addr)(v':Value)(w':World)(hm:0<m)(hn:n≤c)
  (DM: ∀ty,(Builtin.append_ #[ρ.t 24,ρ.t 24] ty #[.slice base n c,.slice (some va) m vc]).run P w= .ok v' w'):
   Calls P f #[.slice base n c,.int .i64 n,.slice (some va) m vc] w λr w2=>r= .returned v'∧w2=w':=by
 have u3:=run_underlying L.t3;have u4:=run_underlying L.t4;have u24:=run_underlying L.t24
 have t3:=L.t3;have t4:=L.t4;have t24:=L.t24
 have z9:=λw=>cc L.lay w
 have mixed:=L.mixed
 have Kj: ¬((m:Int)=0):=ω
 go_enter L.hf,qA ρ fn
 cases base with
 |none=>
   go_wp2_with (at_builtin;refine Lib.wpList_append_run _ rfl _ _ _ _ rfl _ _ rfl rfl _ _ (DM _) ?_)
   all_goals (go_ret;exact⟨rfl,rfl⟩)
 |some a=>
   obtain⟨ab,ao,asp⟩:=a
   go_wp2_with (at_builtin;refine Lib.wpList_append_run _ rfl _ _ _ _ rfl _ _ rfl rfl _ _ (DM _) ?_)
   all_goals (go_ret;exact⟨rfl,rfl⟩)
theorem run_copy_row{t te e:TypeId}{k:Nat}(ht:P.underlying t=some (.slice e))(hk: ∀w,(Go.sizeOf e).run P w= .ok k w){W:World}{b o W0 abf SO W1 n:Nat}{a:Addr}{cs:Array Value}(hg:W.heap[b]? =some (.cells cs te (0,0)))
  {news:List Value} (hnn:Nat.min SO W0=n) (hl:news.length=n*k) (hn: ∀j u,news[j]? =some u→W.cell? (a.add j)=some u) (h1: ∀u∈news,u.oneCell'=true) (yp:o+news.length≤cs.size) (ty:TypeId):
  (Builtin.copy_ #[t,t] ty #[.slice (some ⟨b,o,none⟩) W0 abf,.slice (some a) SO W1]).run P W= .ok (goInt n) (W.setRow b (cL cs.toList o news).toArray):=by
 have hf:=run_firstCells_some (P:=P) W k n a SO W1 news hl hn
 have sM:=run_storeCells_at (P:=P) b o te news 0 cs W hg ω h1
 simp only[ik]at sM
 simp[Builtin.copy_,run_underlying ht,hk,Builtin.lenOf,hnn,hf,sM,cL]
set_option maxHeartbeats 4000000 in
set_option maxRecDepth 100000 in
theorem Jo{e:Ty}{f:FuncId}{fn fo:Func}(L:Jn P e ρ f fn fo)(w:World)(b n c i m vc:Nat)(va:Addr)(BZ Lu:Array Value)(hi:i<n)(hm:0<m)(hr:n+m≤c)(abg:c≤9223372036854775807)
  (hov: ∀x lb cb,(callFunc (ρ.f 29) #[.slice (some va) m vc,.slice (some ⟨b,x,none⟩) lb cb]).run P w= .ok (.value (.bool false)) w)
  (Ob: ∀ty dc sc,(Builtin.copy_ #[(ρ.t 24),(ρ.t 24)] ty #[.slice (some ⟨b,(i+m)*e.size,none⟩) (n+m-(i+m)) dc,.slice (some ⟨b,i*e.size,none⟩) (n+m-i) sc]).run P w.drew= .ok (goInt ((n-i:Nat):Int)) (w.drew.setRow b BZ))
  (Oc: ∀W:World,W.heap=(w.setRow b BZ).heap→ ∀ty dc,(Builtin.copy_ #[(ρ.t 24),(ρ.t 24)] ty #[.slice (some ⟨b,i*e.size,none⟩) (n+m-i) dc,.slice (some va) m vc]).run P W= .ok (goInt m) (W.setRow b Lu)):
   Calls P f #[.slice (some ⟨b,0,none⟩) n c,.int .i64 i,.slice (some va) m vc] w λr w2=>r= .returned (.slice (some ⟨b,0,none⟩) (n+m) c)∧w2=(w.drew.setRow b BZ).setRow b Lu:=by
 have u3:=run_underlying L.t3;have u4:=run_underlying L.t4;have u24:=run_underlying L.t24
 have t3:=L.t3;have t4:=L.t4;have t24:=L.t24
 have z9:=λw=>cc L.lay w
 have mixed:=L.mixed
 have Kj: ¬((m:Int)=0):=ω
 have Vr: ¬((i:Int)=(n:Int)):=ω
 have hw1:IntKind.i64.wrap ((i:Int)+(m:Int))=(i:Int)+(m:Int):=by rw[IntKind.wrap_i64];omega
 have jF:(0:Int)≤(i:Int)+(m:Int):=ω
 have hJ:i≤n:=ω
 have Jd:((i:Int)+(m:Int)).toNat=i+m:=ω
 have sd: ¬(c=i+m):=ω
 have hb3:(i:Int)≤(n:Int)+(m:Int):=ω
 have hb4: ¬(c=i):=ω
 go_enter L.hf,qA ρ fn
 go_wp2_with (simp only[hov])
 go_region_law_o (refine step_copy_runI rfl _ _ (ρ.t 24) (ρ.t 24) rfl _ _ (by simp[Act.eval,Act.put]) (by simp[Act.eval,Act.put]) (Ob _ _ _) ?_)
 have h2:=Oc (w.drew.setRow b BZ) rfl
 go_wp2
 go_ret
 exact⟨rfl,rfl⟩
set_option maxHeartbeats 4000000 in
set_option maxRecDepth 100000 in
theorem Lv{e:Ty}{f:FuncId}{fn fo:Func}(L:Jn P e ρ f fn fo)(w:World)(b n c i m vc nb G:Nat)(va:Addr)(Jp BZ Lu:Array Value)(hi:i<n)(hm:0<m)(Vx:n≤c)(hr:c<n+m)(abg:c≤9223372036854775807)(Vm:n+m≤9223372036854775807)(hG:n+m≤G)(agq:G≤9223372036854775807)
  (DM: ∀ty,(Builtin.append_ #[(ρ.t 24),(ρ.t 3)] ty #[.slice (some ⟨b,0,none⟩) i c,.int .i64 ((n:Int)+(m:Int)-(i:Int))]).run P w= .ok (.slice (some ⟨w.heap.size,0,none⟩) (n+m) G) (w.drew.alloc (.cells Jp (ρ.t 9))))
  (Ob: ∀W:World,W.heap=(w.alloc (.cells Jp (ρ.t 9))).heap→ ∀ty dc,(Builtin.copy_ #[(ρ.t 24),(ρ.t 24)] ty #[.slice (some ⟨w.heap.size,i*e.size,none⟩) (n+m-i) dc,.slice (some va) m vc]).run P W= .ok (goInt m) (W.setRow w.heap.size BZ))
  (Oc: ∀W:World,W.heap=((w.alloc (.cells Jp (ρ.t 9))).setRow w.heap.size BZ).heap→ ∀ty dc sc,(Builtin.copy_ #[(ρ.t 24),(ρ.t 24)] ty #[.slice (some ⟨w.heap.size,(i+m)*e.size,none⟩) (n+m-(i+m)) dc,.slice (some ⟨b,i*e.size,none⟩) (n-i) sc]).run P W= .ok (goInt ((n-i:Nat):Int)) (W.setRow w.heap.size Lu)):
   Calls P f #[.slice (some ⟨b,0,none⟩) n c,.int .i64 i,.slice (some va) m vc] w λr w2=>r= .returned (.slice (some ⟨w.heap.size,0,none⟩) (n+m) G)∧w2=((w.drew.alloc (.cells Jp (ρ.t 9))).setRow w.heap.size BZ).drew.setRow w.heap.size Lu:=by
 have u3:=run_underlying L.t3;have u4:=run_underlying L.t4;have u24:=run_underlying L.t24
 have t3:=L.t3;have t4:=L.t4;have t24:=L.t24
 have z9:=λw=>cc L.lay w
 have mixed:=L.mixed
 have Kj: ¬((m:Int)=0):=ω
 have Vr: ¬((i:Int)=(n:Int)):=ω
 have hz3:(c:Int)<(n:Int)+(m:Int):=ω
 have hw1:IntKind.i64.wrap ((i:Int)+(m:Int))=(i:Int)+(m:Int):=by rw[IntKind.wrap_i64];omega
 have jF:(0:Int)≤(i:Int)+(m:Int):=ω
 have hJ:i≤n:=ω
 have Jd:((i:Int)+(m:Int)).toNat=i+m:=ω
 have hGi: ¬(G=i):=ω
 have agr: ¬(G=i+m):=ω
 have hci: ¬(c=i):=ω
 have hb3:(i:Int)≤(n:Int):=ω
 have h1:=Ob ((w.alloc (.cells Jp (ρ.t 9))).drew) rfl
 have h2:=Oc (((w.alloc (.cells Jp (ρ.t 9))).drew.setRow w.heap.size BZ).drew) rfl
 go_enter L.hf,qA ρ fn
 go_wp2_with (first
   |(at_builtin;refine Lib.wpList_append_run _ rfl _ _ _ _ rfl _ _ rfl rfl _ _ (DM _) ?_)
   |(at_builtin;refine wpList_copy_runI _ rfl _ _ (ρ.t 24) (ρ.t 24) rfl _ _ rfl rfl (Ob _ (by exact rfl) _ _) ?_)
   |(at_builtin;refine wpList_copy_runI _ rfl _ _ (ρ.t 24) (ρ.t 24) rfl _ _ rfl rfl (Oc _ (by exact rfl) _ _ _) ?_))
 go_region_law_o (refine step_copy_runI rfl _ _ (ρ.t 24) (ρ.t 24) rfl _ _ (by simp[Act.eval,Act.put]) (by simp[Act.eval,Act.put]) (h2 _ _ _) ?_)
 go_wp2
 go_ret
 exact⟨rfl,rfl⟩
theorem w7{α:Type}(A Z news:List α):cL (A++Z) A.length news=A++(news++Z.drop news.length):=by
 unfold cL
 rw[pS rfl,aT,←eK,kd rfl]
theorem kf.W2{w:World}{M:Nat→Prop}{e:Ty}{cs:List Value}{l:List e.den}(h:kf w M e cs l)(i:Nat):kf w M e (cs.take (i*e.size)) (l.take i):=by
 intro j hj
 rw[bV]at hj
 have:=cE (s:=e.size) (show j<i by omega)
 rw[mj,mm,fb ω,xF]
 exact h j ω
theorem kf.W3{w:World}{M:Nat→Prop}{e:Ty}{cs:List Value}{l:List e.den}(h:kf w M e cs l)(i:Nat):kf w M e ((cs.drop (i*e.size)).take ((l.length-i)*e.size)) (l.drop i):=by
 intro j hj
 rw[dZ]at hj
 have:=cE (s:=e.size) hj
 rw[mj,mm,fb ω,eK,List.getElem_drop,←cI]
 exact h (i+j) ω
theorem rl{w w':World}{M0:Nat→Prop}{hs:List Nat}{e:Ty}{rb cap:Nat}{row:Array Value}{t:TypeId}{l:List e.den}(m5: ∀b,M0 b→b<w.heap.size)(qx: ∀b∈hs,¬M0 b)
  (Ni: ∀b,b<w.heap.size→b∉hs→w'.heap[b]? =w.heap[b]?) (mb:w.heap.size≤w'.heap.size) (hrb:rb<w.heap.size→rb∈hs) (hos:w'.os=w.os) (SP:w'.tape=w.tape) (Gu:w'.output=w.output)
  (Gw:w'.heap[rb]? =some (.cells row t (0,0))) (h0:0<cap) (hl:l.length≤cap) (hm:cap≤maxLen) (Wh:row.size=cap*e.size) (gK:kf w (λb=>M0 b∨b∈hs) e row.toList l):
  ∃us M',Value.slice (some ⟨rb,0,none⟩) l.length cap=qt us∧RR w' M' [.own e] l us []∧Left w M0 hs w' M'∧(aO [.own e] us []).Nodup∧ ∀b∈aO [.own e] us [],¬M0 b:=by
 have Gp:rb<w'.heap.size:=(gM.1 Gw).1
 have hk:dq w (λb=>M0 b∨b∈hs) w' (λb=>M0 b∨b=rb):=⟨mb,λb hb hn=>Ni b hb (λh=>hn (.inr h)),λb hb h=>h.elim .inl (λe=> .inr (e▸hrb (e▸hb)))⟩
 have wC:aO [.own e] [Value.slice (some ⟨rb,0,none⟩) l.length cap] []=[rb]:=by
  have:cap≠0:=ω
  simp[aO,cf,AM.eU,dd,this]
 refine⟨[.slice (some ⟨rb,0,none⟩) l.length cap],λb=>M0 b∨b=rb,rfl,?_,?_,?_,?_⟩
 ·simp only[RR]
  refine .inr ⟨_,[],rfl,rfl,rfl,?_,rfl,trivial⟩
  simp only[A1,ER,lP]
  exact .inr ⟨rb,row,t,cap,rfl,Gw,.inr rfl,h0,hl,hm,Wh,gK.bm hk⟩
 ·exact⟨λb h=> .inl h,λb h=>h.elim (λh=>ka (m5 b h) mb) (λh=>h▸Gp),λb hb h=>h.elim .inl (λe=> .inr (e▸hrb (e▸hb))),Ni,mb,hos,SP,Gu⟩
 ·rw[wC];simp
 ·rw[wC]
  intro b hb h
  rw[dw]at hb
  subst hb
  exact qx b (hrb (m5 b h)) h
theorem setRow_other(w:World){b c:Nat}(r:Array Value)(h:c≠b):(w.setRow b r).heap[c]? =w.heap[c]? :=by
 unfold World.setRow
 rw[Array.getElem?_modify,af (λe=>h e.symm)]
theorem setRow_size(w:World)(b:Nat)(r:Array Value):(w.setRow b r).heap.size=w.heap.size:=by
 unfold World.setRow;simp
theorem alloc_old(w:World)(o:Obj){c:Nat}(h:c<w.heap.size):(w.alloc o).heap[c]? =w.heap[c]? :=by
 show(w.heap.push o)[c]? =_
 rw[Array.getElem?_push,af ω]
theorem mc(w:World)(o:Obj):(w.alloc o).heap[w.heap.size]? =some o:=by
 show(w.heap.push o)[w.heap.size]? =_
 simp
theorem jP(w:World)(o:Obj):(w.alloc o).heap.size=w.heap.size+1:=by
 show(w.heap.push o).size=_
 simp
theorem oT{w:World}{b:Nat}{cs:Array Value}{t:TypeId}{f:Nat×Nat}(h:w.heap[b]? =some (.cells cs t f))(o n:Nat): ∀j u,((cs.toList.drop o).take n)[j]? =some u→w.cell? ((⟨b,o,none⟩:Addr).add j)=some u:=by
 intro j u hj
 rw[Addr.add_lit]
 rw[iA]at hj
 split at hj
 ·rw[iB,eI]at hj
  simp only[World.cell?,h]
  simpa using hj
 ·cases hj
theorem H6{w:World}{M:Nat→Prop}{v:Value}{e:Ty}{l:List e.den}(h:ER w M v (.own e l)):(l=[]∧ ∃a,v= .slice a 0 0)∨
 ∃b cs t cap,v= .slice (some ⟨b,0,none⟩) l.length cap∧w.heap[b]? =some (.cells cs t (0,0))∧M b∧0<cap∧l.length≤cap∧cap≤maxLen∧cs.size=cap*e.size∧kf w M e cs.toList l:=h
end VM
end
section
namespace VM
open Go Go.Shelf Go.RowKit Go.Lib Go.Proofs
variable{P:Program}{ρ:Ren}
theorem yP{w:World}{t e':TypeId}{e:Ty}(hu:P.underlying t=some (.slice e'))(hle:gA P e e'){n m cap cp:Nat}{olds news:List Value}{base:Option Addr}{a':Addr}(KN:base=none→n=0∧cap=0)
  (pK:olds.length=n*e.size) (ho: ∀b,base=some b→ ∀j u,olds[j]? =some u→w.cell? (b.add j)=some u) (Nc:news.length=m*e.size) (hn: ∀j u,news[j]? =some u→w.cell? (a'.add j)=some u)
  (hg:cap<n+m) (hs:n+m<th):
  ∃iK rest,(∀ty,(Builtin.append_ #[t,t] ty #[.slice base n cap,.slice (some a') m cp]).run P w= .ok (.slice (some ⟨w.heap.size,0,none⟩) (n+m) iK) (w.drew.alloc (.cells (olds++news++rest).toArray e')))∧
   n+m≤iK∧iK≤maxLen∧rest.length=(iK-(n+m))*e.size:=by
 obtain⟨i,hi,mb,hz,Sg⟩:=hle.base
 have Sh:(aZ e e.bq).cells.size=e.size:=by rw[←aG,di,iq]
 have Vm:n+m≤maxLen:=by simp only[th,maxLen]at hs ⊢;omega
 have yp:(n+m)*i.bytes≤140737488355328:=by
  have:(n+m)*i.bytes≤68719476736*2048:=pW (by simp only[th]at hs;omega) Sg
  omega
 refine⟨grownCap w (n+m) cap e',(Builtin.zeroCells (aZ e e.bq).cells (grownCap w (n+m) cap e'-(n+m))).toList,λty=> ?_,grownCap_ge _ _ _ _,grownCap_le_maxLen _ _ _ _ Vm,?_⟩
 ·cases base with
  |none=>
   obtain⟨rfl,rfl⟩:=KN rfl
   have ho0:olds=[]:=oy (by rw[pK];simp)
   subst ho0
   have:=run_append_nil (P:=P) w t ty e' i _ hu hi hz a' m cp news (by rw[Nc,mb]) hn (by simpa using hg) (by simp only[th]at hs;omega) (by simp at yp;omega)
   simp only[dG,c7]
   rw[this]
   congr 2
   apply cN (λz=>Obj.cells z e' (0,0))
   apply fE;simp
  |some b=>
   have:=run_append_grow (P:=P) w t ty e' i _ hu hi hz b n cap olds (by rw[pK,mb]) (ho b rfl) a' m cp news (by rw[Nc,mb]) hn hg (by simp only[th]at hs;omega) (growslice_fits hg yp)
   rw[this]
   congr 2
   apply cN (λz=>Obj.cells z e' (0,0))
   apply fE;simp
 ·rw[aG,size_zeroCells,Sh]
theorem Jq{w:World}{t tn e':TypeId}{e:Ty}(hu:P.underlying t=some (.slice e'))(Jd:P.underlying tn=some (.int .i64))(hle:gA P e e')(SI:0<e.size){n k cap:Nat}{olds:List Value}{b:Addr}
  (pK:olds.length=n*e.size) (ho: ∀j u,olds[j]? =some u→w.cell? (b.add j)=some u) (hk:0<k) (hg:cap<n+k) (hs:n+k<th):
  ∃iK rest,(∀ty,(Builtin.append_ #[t,tn] ty #[.slice (some b) n cap,.int .i64 k]).run P w= .ok (.slice (some ⟨w.heap.size,0,none⟩) (n+k) iK) (w.drew.alloc (.cells (olds++rest).toArray e')))∧
   n+k≤iK∧iK≤maxLen∧rest.length=(iK-n)*e.size:=by
 obtain⟨i,hi,mb,hz,Sg⟩:=hle.base
 have Sh:(aZ e e.bq).cells.size=e.size:=by rw[←aG,di,iq]
 have Vm:n+k≤maxLen:=by simp only[th,maxLen]at hs ⊢;omega
 have yp:(n+k)*i.bytes≤140737488355328:=by
  have:(n+k)*i.bytes≤68719476736*2048:=pW (by simp only[th]at hs;omega) Sg
  omega
 have hkb:k*i.bytes≤281474976710656:=by
  have:k*i.bytes≤(n+k)*i.bytes:=gh _ ω
  omega
 have HS:=grownCap_ge w (n+k) cap e'
 refine⟨grownCap w (n+k) cap e',(Builtin.zeroCells (aZ e e.bq).cells k++Builtin.zeroCells (aZ e e.bq).cells (grownCap w (n+k) cap e'-(n+k))).toList,λty=> ?_,HS,grownCap_le_maxLen _ _ _ _ Vm,?_⟩
 ·have hold:(Builtin.firstCells i.size n (.slice (some b) n cap)).run P w.drew= .ok olds.toArray w.drew:=run_firstCells_some w.drew i.size n b n cap olds (by rw[pK,mb]) (λj u hj=>ho j u hj)
  have:=Lib.run_append_grow_zeros w t tn ty e' i _ .i64 .i64 hu Jd hi hz (some b) n cap olds hold k hk (by rw[mb];exact SI) hg (by simp only[th]at hs;omega) hkb (growslice_fits hg yp)
  rw[this]
  congr 2
  apply cN (λz=>Obj.cells z e' (0,0))
  apply fE;simp
 ·rw[Array.toList_append,aC,aG,aG,size_zeroCells,size_zeroCells,Sh,←cI]
  congr 1;omega
structure OvP(P:Program)(ρ:Ren)(fo:Func):Prop where
 hf:P.funcs[ρ.f 29]? =some fo
 name:(fo.name== "runtime.NumGoroutine")=false
 body:fo.body.isNone=true
 next:Extern.findNext fo=none
 find:Extern.find fo=some (Extern.SlicesOverlaps.overlaps #[ρ.t 24,ρ.t 24] #[ρ.t 4])
theorem yQ{e:Ty}{f:FuncId}{fn fo:Func}(L:Jn P e ρ f fn fo)(O:OvP P ρ fo)(tN:(fn.name== "runtime.NumGoroutine")=false)(Lw:(Body2.n22 ρ).body.isNone=false)(N:Nat):fj P f (iE e N):=by
 refine⟨(λh=>by cases h),rfl,λM0 w vs x y m5 hA pJ qx hy=> ?_⟩
 obtain⟨l,i,v⟩:=x
 have Lg:lM N l i v=some y:=hy
 clear hy
 simp only[iE,gj]at hA
 obtain⟨v0,KW,rfl,h0,v1,vs2,rfl,h1,v2,vs3,rfl,h2,rfl⟩:=hA
 simp only[lM]at Lg
 split at Lg
 case isFalse=>cases Lg
 rename_i hc
 cases Lg
 obtain⟨hi0,tz,HL,B0⟩:=hc
 obtain⟨i,rfl⟩:=oA hi0
 have W4:i≤l.length:=ω
 simp only[A1,lP,nP,V,Ty.isAgg,fD,dW,Rd,dx,dR]at h0 h1 h2
 subst h1
 have hk:=L.lD
 replace HL:ℓ (α:=e.den) v=1:=HL
 rcases H6 h2 with⟨I0,_⟩|⟨b2,HJ,t2,tS,Sb,KC,BJ,Si,hl2,qY,hs2,Vd⟩
 ·rw[I0]at HL;cases HL
 replace Sb:v2= .slice (some ⟨b2,0,none⟩) 1 tS:=by rw[Sb];congr 1
 subst Sb
 have NH:e.size≤HJ.toList.length:=by
  rw[aG (xs:=HJ),hs2]
  exact Nat.le_mul_of_pos_left _ Si
 obtain⟨news,Lx⟩: ∃news,news=HJ.toList.take e.size:=⟨_,rfl⟩
 have AG:news.length=1*e.size:=by rw[Lx,bV,gw];omega
 have hnr:kf w (λb=>M0 b∨b∈cF (iE e N).args [v0,.int .i64 (i:Int),.slice (some ⟨b2,0,none⟩) 1 tS]) e news v:=by
  rw[Lx];exact Vd.take (by rw[HL,gw];exact aB _)
 have Vx: ∀j u,news[j]? =some u→w.cell? ((⟨b2,0,none⟩:Addr).add j)=some u:=by
  have:=oT KC 0 e.size
  rw[bY]at this
  rw[Lx];exact this
 have hn1: ∀u∈news,u.oneCell'=true:=by
  have:=hnr 0 ω
  rw[Nat.zero_mul,bY,jf ω]at this
  exact this.gO
 have sd:dd (.slice (some ⟨b2,0,none⟩) 1 tS)=some b2:=by simp[dd];omega
 replace B0:ℓ (α:=e.den) l+1<th:=B0
 have Rb:(List.take i l++(v++List.drop i l)).length=l.length+1:=by rw[aC,aC,bV,dZ,HL];omega
 have Q1:(Lt ρ fn).body.isNone=false:=Lw
 refine nQ L.hf tN Q1 ?_
 rcases H6 h0 with⟨rfl,ad,rfl⟩|⟨b1,sj,t1,wJ,rfl,Gf,hM1,yl,hl1,nN,M8,hr1⟩
 ·
  have hi:i=0:=by simpa using W4
  subst hi
  obtain⟨iK,rest,cr,Jg,fc,Gp⟩:=yP (P:=P) (w:=w) L.t24 L.lay (n:=0) (m:=1) (cap:=0) (cp:=tS) (olds:=[]) (news:=news) (base:=ad) (a':=⟨b2,0,none⟩) (λ_=>⟨rfl,rfl⟩) (by simp) (λ_ _ j u hj=>by simp at hj) AG Vx ω (by simp only[th];omega)
  refine(BY L w ad 0 0 1 tS ⟨b2,0,none⟩ _ _ ω (aB _) cr).mono ?_
  rintro e1 w' ⟨rfl,rfl⟩
  refine⟨_,rfl,?_⟩
  simp only[dG]at Jg Gp
  have hv:v=v++[]:=by simp
  have:=rl (e:=e) (rb:=w.heap.size) (cap:=iK) (l:=v) (t:=ρ.t 9) (w:=w) (w':=w.drew.alloc (.cells ([]++news++rest).toArray (ρ.t 9))) m5 qx (λb hb _=>alloc_old w.drew _ hb) (by rw[jP];exact tc _) (λh=>absurd h (xL _)) rfl rfl rfl (mc w.drew _) ω ω fc
   (by simp only[c7,fa,aC,AG,Gp,←cI];congr 1;omega) (by simpa using hnr.more (cs':=rest) (by rw[HL,AG];exact aB _))
  rw[HL]at this
  simpa [iE,du,AM.eU]using this
 ·have jF:dd (.slice (some ⟨b1,0,none⟩) l.length wJ)=some b1:=by simp[dd];omega
  have hh:cF (iE e N).args [.slice (some ⟨b1,0,none⟩) l.length wJ,.int .i64 (i:Int),.slice (some ⟨b2,0,none⟩) 1 tS]=[b1,b2]:=by simp[iE,cF,cf,jF,sd]
  rw[hh]at pJ qx hnr ⊢
  replace hr1:kf w (λb=>M0 b∨b∈[b1,b2]) e sj.toList l:=by rw[←hh];exact hr1
  have gY:b1≠b2:=by simpa using pJ
  have abk:b1<w.heap.size:=(gM.1 Gf).1
  have V9:b2<w.heap.size:=(gM.1 KC).1
  have lB:l.length*e.size≤sj.toList.length:=by rw[aG (xs:=sj),M8];exact gh _ hl1
  have hik:i*e.size≤l.length*e.size:=gh _ W4
  obtain⟨A,W5⟩: ∃A,A=sj.toList.take (i*e.size):=⟨_,rfl⟩
  obtain⟨mid,SQ⟩: ∃mid,mid=(sj.toList.drop (i*e.size)).take ((l.length-i)*e.size):=⟨_,rfl⟩
  have H7:A.length=i*e.size:=by rw[W5,bV];omega
  have zP:mid.length=(l.length-i)*e.size:=by
   rw[SQ,bV,dZ,mq];omega
  have hAr:=hr1.W2 i
  have hmr:=hr1.W3 i
  rw[←W5]at hAr
  rw[←SQ]at hmr
  have hti:(l.take i).length=i:=by rw[bV];omega
  have H8: ∀rest:List Value,kf w (λb=>M0 b∨b∈[b1,b2]) e (A++(news++(mid++rest))) (l.take i++(v++l.drop i)):=λrest=>
   hAr.append (by rw[H7,hti]) (hnr.append (by rw[AG,HL]) (hmr.more (by rw[dZ,zP];exact aB _)))
  have hAc: ∀j u,A[j]? =some u→w.cell? ((⟨b1,0,none⟩:Addr).add j)=some u:=by
   have:=oT Gf 0 (i*e.size)
   rw[bY]at this
   rw[W5];exact this
  have hmc: ∀j u,mid[j]? =some u→w.cell? ((⟨b1,i*e.size,none⟩:Addr).add j)=some u:=by
   rw[SQ];exact oT Gf (i*e.size) _
  have W6: ∀u∈mid,u.oneCell'=true:=by
   intro u hu
   obtain⟨j,hj,rfl⟩:=xz.1 hu
   rw[zP]at hj
   have hq:j/e.size<l.length-i:=Nat.div_lt_of_lt_mul (by rw[xN];exact hj)
   have:=(hmr (j/e.size) (by rw[dZ];exact hq)).gO
   refine this _ ?_
   have hjm:j/e.size*e.size+j%e.size=j:=by rw[xN];exact Nat.div_add_mod j e.size
   have tA:j%e.size<e.size:=Nat.mod_lt _ hk
   rw[List.mem_iff_getElem?]
   refine⟨j%e.size,?_⟩
   rw[iA,ae tA,iB,hjm]
   exact bc _
  by_cases hJ:i=l.length
  ·
   subst hJ
   have Sf:mid=[]:=oy (by rw[zP];simp)
   by_cases tH:l.length+1≤wJ
   ·obtain⟨ie,Vg,mb,_⟩:=L.lay.base
    have cr: ∀ty,(Builtin.append_ #[ρ.t 24,ρ.t 24] ty #[.slice (some ⟨b1,0,none⟩) l.length wJ,.slice (some ⟨b2,0,none⟩) 1 tS]).run P w=_:=λty=>
     DF (ty:=ty) (cp:=tS) L.t24 Vg Gf (by rw[mb];exact M8) (by rw[mb];exact AG) Vx hn1 tH
    refine(BY L w _ _ _ 1 tS ⟨b2,0,none⟩ _ _ ω hl1 cr).mono ?_
    rintro e1 w' ⟨rfl,rfl⟩
    refine⟨_,rfl,?_⟩
    rw[mb]
    have Gw:cL sj.toList (l.length*e.size) news=A++(news++(mid++sj.toList.drop (l.length*e.size+news.length))):=by
     rw[Sf,W5];simp[cL]
    have:=rl (e:=e) (rb:=b1) (cap:=wJ) (l:=l.take l.length++(v++l.drop l.length)) (t:=t1) (w:=w) (w':=w.setRow b1 (cL sj.toList (l.length*e.size) news).toArray) m5 qx (λb hb hn=>setRow_other w _ (λe=>hn (by simp[e]))) (by rw[setRow_size];exact aB _) (λ_=>by simp) rfl rfl rfl (setRow_heap w b1 sj _ t1 _ Gf) yl (by rw[Rb];exact tH) nN
     (by
      have:=cE (s:=e.size) (show l.length<wJ by omega)
      rw[Gw,fa]
      simp only[aC,Sf,dy,dZ,aG,H7,AG,M8]
      omega)
     (by rw[Gw];exact H8 _)
    rw[Rb]at this
    simpa [iE,du,AM.eU]using this
   ·obtain⟨iK,rest,cr,Jg,fc,Gp⟩:=yP (P:=P) (w:=w) L.t24 L.lay (n:=l.length) (m:=1) (cap:=wJ) (cp:=tS) (olds:=A) (news:=news) (base:=some ⟨b1,0,none⟩) (a':=⟨b2,0,none⟩) (λh=>by cases h) H7 (λb hb=>by cases hb;exact hAc) AG Vx ω B0
    refine(BY L w _ _ _ 1 tS ⟨b2,0,none⟩ _ _ ω hl1 cr).mono ?_
    rintro e1 w' ⟨rfl,rfl⟩
    refine⟨_,rfl,?_⟩
    have:=rl (e:=e) (rb:=w.heap.size) (cap:=iK) (l:=l.take l.length++(v++l.drop l.length)) (t:=ρ.t 9) (w:=w) (w':=w.drew.alloc (.cells (A++news++rest).toArray (ρ.t 9))) m5 qx (λb hb _=>alloc_old w.drew _ hb) (by rw[jP];exact tc _) (λh=>absurd h (xL _)) rfl rfl rfl (mc w.drew _) ω (by rw[Rb];exact Jg) fc
     (by simp only[fa,aC,H7,AG,Gp,←cI];congr 1;omega) (by have:=H8 rest;rw[Sf,c7,←aT]at this;exact this)
    rw[Rb]at this
    simpa [iE,du,AM.eU]using this
  ·have SR:i<l.length:=ω
   have NT:i*e.size+e.size≤l.length*e.size:=cE SR
   have e1k:(i+1)*e.size=A.length+news.length:=by rw[H7,AG,cI]
   have w4:Nat.min 1 (l.length+1-i)=1:=fb ω
   by_cases tH:l.length+1≤wJ
   ·
    have W7:l.length*e.size+e.size≤sj.toList.length:=by rw[aG (xs:=sj),M8];exact cE ω
    have hsh: ∀(b:Nat) (c:Array Value) (t:TypeId),w.heap[b]? =some (.cells c t (0,0))→w.shape? b=some (t,c.size):=λb c t h=>by simp[World.shape?,h]
    obtain⟨B,hB⟩: ∃B,B=sj.toList.drop (i*e.size):=⟨_,rfl⟩
    have W8:sj.toList=A++B:=by rw[W5,hB,gg]
    have hBl:B.length=sj.toList.length-i*e.size:=by rw[hB,dZ]
    have hBk:(B.take e.size).length=e.size:=by rw[bV];omega
    have D7:cL sj.toList ((i+1)*e.size) mid=A++(B.take e.size++(mid++(B.drop e.size).drop mid.length)):=by
     have:sj.toList=(A++B.take e.size)++B.drop e.size:=by rw[aT,gg];exact W8
     rw[this,show(i+1)*e.size=(A++B.take e.size).length from by rw[aC,hBk,H7,cI,gw],w7,aT]
    have D8:cL (cL sj.toList ((i+1)*e.size) mid) (i*e.size) news=A++(news++(mid++(B.drop e.size).drop mid.length)):=by
     rw[D7,←H7,w7,AG,gw,kd hBk]
    refine(Jo L w b1 l.length wJ i 1 tS ⟨b2,0,none⟩ (cL sj.toList ((i+1)*e.size) mid).toArray (cL (cL sj.toList ((i+1)*e.size) mid) (i*e.size) news).toArray SR ω tH (by simp only[maxLen]at nN;omega) (λx lb cb=> ?_) (λty dc sc=> ?_) (λW hW ty dc=> ?_)).mono ?_
    ·rw[run_callFunc_extern O.hf O.name O.body O.next O.find,
      Lib.run_overlaps_apart w (ρ.t 24) (ρ.t 4) (ρ.t 9) L.t24 e.size (λw=>cc L.lay w) ⟨b2,0,none⟩ ⟨b1,x,none⟩ 1 tS lb cb (cZ gY) t2 t1 HJ.size sj.size (hsh b2 HJ t2 KC) (hsh b1 sj t1 Gf) (by rw[M8];exact Nat.ne_of_gt (Nat.mul_pos yl hk)) (by simp[World.frozen?,KC]) (by simp[World.frozen?,KC])]
     rfl
    ·exact run_copy_row (P:=P) (W:=w.drew) L.t24 (λw=>cc L.lay w) (cs:=sj) Gf (news:=mid) (n:=l.length-i) (by simp only[Nat.min_def];split<;>omega) zP hmc W6 (by rw[zP,cI,gw];rw[aG (xs:=sj)]at W7;rw[mq];omega) ty
    ·exact run_copy_row (P:=P) (W:=W) L.t24 (λw=>cc L.lay w) (cs:=(cL sj.toList ((i+1)*e.size) mid).toArray) (te:=t1) (by rw[hW];exact setRow_heap w b1 sj _ t1 _ Gf) (news:=news) (n:=1) w4 AG
      (λj u hj=>by
       have:=Vx j u hj
       rw[Addr.add_lit]at this ⊢
       rw[show W.cell? ⟨b2,0+j,none⟩=w.cell? ⟨b2,0+j,none⟩from World.cell?_of_block (by rw[hW];exact setRow_other w _ (cZ gY))]
       exact this) hn1 (by
       rw[fa,D7]
       simp only[aC,hBk,H7,AG]
       omega) ty
    ·rintro e1 w' ⟨rfl,rfl⟩
     refine⟨_,rfl,?_⟩
     have:=rl (e:=e) (rb:=b1) (cap:=wJ) (l:=l.take i++(v++l.drop i)) (t:=t1) (w:=w) (w':=(w.drew.setRow b1 (cL sj.toList ((i+1)*e.size) mid).toArray).setRow b1 (cL (cL sj.toList ((i+1)*e.size) mid) (i*e.size) news).toArray) m5 qx
      (λb hb hn=>(setRow_other _ _ (λe=>hn (by simp[e]))).trans (setRow_other _ _ (λe=>hn (by simp[e])))) (by rw[setRow_size,setRow_size];exact aB _) (λ_=>by simp) rfl rfl rfl (setRow_heap _ b1 _ _ t1 _ (setRow_heap w.drew b1 sj _ t1 _ Gf)) yl (by rw[Rb];exact tH) nN
      (by
       rw[D8,fa]
       rw[aG (xs:=sj)]at W7 hBl
       simp only[aC,dZ,H7,AG,zP,hBl,mq]
       omega)
      (by rw[D8];exact H8 _)
     rw[Rb]at this
     simpa [iE,du,AM.eU]using this
   ·
    obtain⟨iK,Z,cr,Jg,fc,hZl⟩:=Jq (P:=P) (w:=w) L.t24 L.t3 L.lay hk (n:=i) (k:=l.length+1-i) (cap:=wJ) (olds:=A) (b:=⟨b1,0,none⟩) H7 hAc ω ω ω
    have abn:i+(l.length+1-i)=l.length+1:=ω
    rw[abn]at cr Jg
    have hZk:(l.length+1-i)*e.size≤Z.length:=by rw[hZl];exact gh _ ω
    rw[mq,cI,gw]at hZk
    have D7:cL (A++Z) (i*e.size) news=A++(news++Z.drop news.length):=by rw[←H7,w7]
    have D8:cL (cL (A++Z) (i*e.size) news) ((i+1)*e.size) mid=A++(news++(mid++(Z.drop news.length).drop mid.length)):=by
     rw[D7,←aT,e1k,←aC,w7,aT]
    have hnb:w.heap.size≠b1:=ω
    have agD:b2≠w.heap.size:=ω
    refine(Lv L w b1 l.length wJ i 1 tS 0 iK ⟨b2,0,none⟩ (A++Z).toArray (cL (A++Z) (i*e.size) news).toArray (cL (cL (A++Z) (i*e.size) news) ((i+1)*e.size) mid).toArray SR ω hl1 ω (by simp only[maxLen]at nN;omega) (by simp only[th]at B0;omega) Jg (by simp only[maxLen]at fc;omega) (λty=> ?_) (λW hW ty dc=> ?_) (λW hW ty dc sc=> ?_)).mono ?_
    ·have:=cr ty
     rw[show(((l.length+1-i:Nat):Int))=(l.length:Int)+(1:Nat)-(i:Int)from by omega]at this
     exact this
    ·exact run_copy_row (P:=P) (W:=W) L.t24 (λw=>cc L.lay w) (cs:=(A++Z).toArray) (te:=ρ.t 9) (by rw[hW];exact mc w _) (news:=news) (n:=1) w4 AG
      (λj u hj=>by
       have:=Vx j u hj
       rw[Addr.add_lit]at this ⊢
       rw[show W.cell? ⟨b2,0+j,none⟩=w.cell? ⟨b2,0+j,none⟩from World.cell?_of_block (by rw[hW];exact alloc_old w _ V9)]
       exact this) hn1 (by rw[fa,aC,H7,AG];omega) ty
    ·exact run_copy_row (P:=P) (W:=W) L.t24 (λw=>cc L.lay w) (cs:=(cL (A++Z) (i*e.size) news).toArray) (te:=ρ.t 9) (by rw[hW];exact setRow_heap _ _ _ _ _ _ (mc w _)) (news:=mid) (n:=l.length-i) (by simp only[Nat.min_def];split<;>omega) zP
      (λj u hj=>by
       have:=hmc j u hj
       rw[Addr.add_lit]at this ⊢
       rw[show W.cell? ⟨b1,i*e.size+j,none⟩=w.cell? ⟨b1,i*e.size+j,none⟩from World.cell?_of_block (by rw[hW];exact(setRow_other _ _ (cZ hnb)).trans (alloc_old w _ abk))]
       exact this) W6 (by
       rw[fa,D7]
       simp only[aC,dZ,H7,AG,zP,cI,mq]
       omega) ty
    ·rintro e1 w' ⟨rfl,rfl⟩
     refine⟨_,rfl,?_⟩
     have ZY:((w.drew.alloc (.cells (A++Z).toArray (ρ.t 9))).setRow w.heap.size (cL (A++Z) (i*e.size) news).toArray).drew.heap[w.heap.size]? =some (.cells (cL (A++Z) (i*e.size) news).toArray (ρ.t 9) (0,0)):=setRow_heap _ _ _ _ _ _ (mc w.drew _)
     have:=rl (e:=e) (rb:=w.heap.size) (cap:=iK) (l:=l.take i++(v++l.drop i)) (t:=ρ.t 9) (w:=w) (w':=((w.drew.alloc (.cells (A++Z).toArray (ρ.t 9))).setRow w.heap.size (cL (A++Z) (i*e.size) news).toArray).drew.setRow w.heap.size (cL (cL (A++Z) (i*e.size) news) ((i+1)*e.size) mid).toArray) m5 qx
      (λb hb hn=>(setRow_other _ _ ω).trans ((setRow_other _ _ ω).trans (alloc_old w.drew _ hb))) (by rw[setRow_size];show _≤(World.setRow _ _ _).heap.size;rw[setRow_size,jP];exact tc _) (λh=>absurd h (xL _)) rfl rfl rfl (setRow_heap _ _ _ _ _ _ ZY) ω (by rw[Rb];exact Jg) fc
      (by
       rw[D8,fa]
       have hmul:(iK-i)*e.size=iK*e.size-i*e.size:=mq _ _ _
       have hci:i*e.size≤iK*e.size:=gh _ ω
       simp only[aC,dZ,H7,AG,zP,hZl,hmul,mq]at hZk ⊢
       omega)
      (by rw[D8];exact H8 _)
     rw[Rb]at this
     simpa [iE,du,AM.eU]using this
end VM
end
section
namespace VM
open Go Go.Shelf Go.RowKit Go.Lib Go.Proofs
variable{P:Program}{ρ:Ren}
def Ly(ρ:Ren)(fn:Func):Func:={fn with body:=(Body2.n15 ρ).body,ntmps:=8,results:=(Body2.n15 ρ).results,nfree:=0}
theorem vT(ρ:Ren)(fn:Func):(Ly ρ fn).ntmps=8:=rfl
structure B1(P:Program)(e:Ty)(ρ:Ren)(f:FuncId)(fn:Func):Prop where
 hf:P.funcs[f]? =some (Ly ρ fn)
 t4:P.underlying (ρ.t 4)=some .bool
 t22:P.underlying (ρ.t 22)=some (.slice (ρ.t 3))
 lay:gA P e (ρ.t 3)
 lD:0<e.size
 mixed:P.follows .mixedOrders=true
set_option maxHeartbeats 4000000 in
set_option maxRecDepth 100000 in
theorem Jr{e:Ty}{f:FuncId}{fn:Func}(L:B1 P e ρ f fn)(w:World)(n c:Nat):
  Calls P f #[.slice none n c] w λr w2=>r= .returned (.slice none 0 0)∧w2=w:=by
 have u22:=run_underlying L.t22
 have t4:=L.t4;have t22:=L.t22
 have z3:=λw=>cc L.lay w
 have mixed:=L.mixed
 have q22: ∀(w:World) (a:Option Addr) (n c n' c':Nat),(binOp .eql (ρ.t 22) (.slice a n c) (.slice none n' c')).run P w= .ok (.bool a.isNone) w:=λw a n c n' c'=>Lib.run_eql_slice_nil w _ _ a n c n' c' L.t22
 go_enter L.hf,vT ρ fn
 go_wp2
 go_ret
 exact⟨rfl,rfl⟩
set_option maxHeartbeats 4000000 in
set_option maxRecDepth 100000 in
theorem yR{e:Ty}{f:FuncId}{fn:Func}(L:B1 P e ρ f fn)(w:World)(a:Addr)(n c:Nat)(v':Value)(w':World)
  (DM: ∀ty,(Builtin.append_ #[ρ.t 22,ρ.t 22] ty #[.slice (some ⟨w.heap.size,0,none⟩) 0 0,.slice (some a) n c]).run P (w.alloc (.cells #[] (ρ.t 3)))= .ok v' w'):
   Calls P f #[.slice (some a) n c] w λr w2=>r= .returned v'∧w2=w':=by
 have u22:=run_underlying L.t22
 have t4:=L.t4;have t22:=L.t22
 have z3:=λw=>cc L.lay w
 have mixed:=L.mixed
 have q22: ∀(w:World) (a:Option Addr) (n c n' c':Nat),(binOp .eql (ρ.t 22) (.slice a n c) (.slice none n' c')).run P w= .ok (.bool a.isNone) w:=λw a n c n' c'=>Lib.run_eql_slice_nil w _ _ a n c n' c' L.t22
 obtain⟨ab,ao,asp⟩:=a
 go_enter L.hf,vT ρ fn
 go_wp2_with (at_builtin;refine Lib.wpList_append_run _ rfl _ _ _ _ rfl _ _ rfl rfl _ _ (DM _) ?_)
 all_goals (go_ret;exact⟨rfl,rfl⟩)
theorem LA{w w':World}{M0:Nat→Prop}{e:Ty}(a:Option Addr)(m5: ∀b,M0 b→b<w.heap.size)(Ni: ∀b,b<w.heap.size→w'.heap[b]? =w.heap[b]?)(mb:w.heap.size≤w'.heap.size)
  (hos:w'.os=w.os) (SP:w'.tape=w.tape) (Gu:w'.output=w.output):
  ∃us M',Value.slice a 0 0=qt us∧RR w' M' [.own e] ([]:List e.den) us []∧Left w M0 [] w' M'∧(aO [.own e] us []).Nodup∧ ∀b∈aO [.own e] us [],¬M0 b:=by
 have wC:aO [.own e] [Value.slice a 0 0] []=[]:=by
  cases a<;>simp[aO,cf,AM.eU,dd]
 refine⟨[.slice a 0 0],M0,rfl,?_,?_,?_,?_⟩
 ·simp only[RR]
  refine .inr ⟨_,[],rfl,rfl,rfl,?_,rfl,trivial⟩
  simp only[A1,ER,lP]
  exact .inl ⟨trivial,a,rfl⟩
 ·exact⟨λb h=>h,λb h=>ka (m5 b h) mb,λb hb h=> .inl h,λb hb _=>Ni b hb,mb,hos,SP,Gu⟩
 ·rw[wC];simp
 ·rw[wC];simp
theorem me{e:Ty}{f:FuncId}{fn:Func}(L:B1 P e ρ f fn)(tN:(fn.name== "runtime.NumGoroutine")=false)(Lw:(Body2.n15 ρ).body.isNone=false)(N:Nat):fj P f (qi e N):=by
 refine⟨(λh=>by cases h),rfl,λM0 w vs x y m5 hA pJ qx hy=> ?_⟩
 have Lg:fh N x=some y:=hy
 clear hy
 obtain⟨v0,KW,rfl,h0,h2⟩:=hA
 have h2:KW=[]:=h2
 subst h2
 replace h0:V w (λb=>M0 b∨b∈([]:List Nat)) (.slice e) v0 x:=h0
 unfold fh at Lg
 split at Lg
 case isFalse=>cases Lg
 rename_i B0
 cases Lg
 have Q1:(Ly ρ fn).body.isNone=false:=Lw
 have hh:cF (qi e N).args [v0]=[]:=rfl
 rw[hh]at qx ⊢
 refine nQ L.hf tN Q1 ?_
 obtain⟨i,hi,mb,hz,Sg⟩:=L.lay.base
 have hS:=Src.NA h0
 by_cases hx:x=[]
 ·obtain⟨a,cp,hv,_⟩:=hS
  subst hv
  rw[hx]
  cases a with
  |none=>
   refine(Jr L w _ cp).mono ?_
   rintro e1 w' ⟨rfl,rfl⟩
   exact⟨_,rfl,LA none m5 (λ_ _=>rfl) (aB _) rfl rfl rfl⟩
  |some a=>
   refine(yR L w a _ cp _ _ (λty=>nv (P:=P) (w:=w.alloc (.cells #[] (ρ.t 3))) L.t22 hi (some ⟨w.heap.size,0,none⟩) 0 0 (aB _) (some a) cp)).mono ?_
   rintro e1 w' ⟨rfl,rfl⟩
   exact⟨_,rfl,LA _ m5 (λb hb=>alloc_old w _ hb) (by rw[jP];exact tc _) rfl rfl rfl⟩
 ·obtain⟨b,off,cp,news,hv,hl,m2,gK,h1⟩:=hS.cells hx
  have NP:0<x.length:=qS.2 hx
  subst hv
  obtain⟨iK,rest,cr,Jg,fc,Gp⟩:=yP (P:=P) (w:=w.alloc (.cells #[] (ρ.t 3))) L.t22 L.lay (n:=0) (m:=x.length) (cap:=0) (cp:=cp) (olds:=[]) (news:=news) (base:=some ⟨w.heap.size,0,none⟩) (a':=⟨b,off,none⟩) (λh=>by cases h) (by simp) (λ_ _ j u hj=>by simp at hj) hl
   (λj u hj=>by rw[Addr.add_lit];exact Lib.cell?_alloc_some _ (m2 j u hj)) ω ω
  refine(yR L w ⟨b,off,none⟩ _ cp _ _ cr).mono ?_
  rintro e1 w' ⟨rfl,rfl⟩
  refine⟨_,rfl,?_⟩
  simp only[dG]at Jg Gp ⊢
  have M8:(w.alloc (.cells #[] (ρ.t 3))).heap.size=w.heap.size+1:=jP w _
  exact rl (e:=e) (rb:=(w.alloc (.cells #[] (ρ.t 3))).heap.size) (cap:=iK) (l:=x) (t:=ρ.t 3) (w:=w) (w':=(w.alloc (.cells #[] (ρ.t 3))).drew.alloc (.cells ([]++news++rest).toArray (ρ.t 3))) m5 qx
   (λb hb _=>(alloc_old (w.alloc (.cells #[] (ρ.t 3))).drew _ (by show b<(w.alloc (.cells #[] (ρ.t 3))).heap.size;omega)).trans (alloc_old w _ hb))
   (by rw[jP];show w.heap.size≤(w.alloc (.cells #[] (ρ.t 3))).heap.size+1;omega) (λh=>ω) rfl rfl rfl (mc (w.alloc (.cells #[] (ρ.t 3))).drew _) ω Jg fc
   (by simp only[c7,fa,aC,hl,Gp,←cI];congr 1;omega) (by simpa using kf.more (cs':=rest) (show kf w (λb=>M0 b∨b∈([]:List Nat)) e news x from gK) (by rw[hl];exact aB _))
end VM
end
