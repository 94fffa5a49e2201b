/- A part of the proof of BookTwo of layer 18: a machine that reads a function of the program as an equation between values. -/
import Derived.Test.YtecmobijochjkaaGreatVm7
import Derived.KernelRfl
import Derived.Test.YtecmobijochjkaaGreatVm0
import Derived.Laws.Externs
import Derived.Shelf.Spec.SlicesInsertGrow
set_option linter.all false
open List renaming length→ℓ
noncomputable section
section
namespace VM
open Go
@[reducible] def CM.arr:CM→Type→Type
 | .v τ,T| .obj τ,T| .io τ,T| .fn _ τ,T=>τ.den→T
 | .own e,T=>List e.den→T
 | .gk τ _ e,T=>τ.den→List e.den→T
 | .same _,T=>T
@[reducible] def XT:List (Nat×CM)→Type→Type
 |[],R=>R
 |q::r,R=>q.2.arr (XT r R)
def CM.lam{T:Type}(s:Nat)(σ:St):(m:CM)→(St→T)→m.arr T
 | .v τ,f=>λx=>f (σ.put s (.val τ x))
 | .own e,f=>λx=>f ((σ.put s (.ref (16*s+14))).kp (16*s+14) (some (.own e x)))
 | .obj τ,f=>λx=>f ((σ.put s (.jE (16*s+14) [])).kp (16*s+14) (some (.obj τ x)))
 | .gk τ q e,f=>λx l=>f (((σ.put s (.jE (16*s+14) [])).kp (16*s+13) (some (.own e l))).kp (16*s+14) (some (.gk τ x q (16*s+13))))
 | .io τ,f=>λx=>f ((σ.put s (.jE (16*s+15) [])).kp (16*s+15) (some (.obj τ x)))
 | .fn g τ,f=>λx=>f (σ.put s (.NM g (qO τ x)))
 | .same s',f=>f (σ.put s (σ.T s'))
def apT{R:Type}(κ:St→R):(L:List (Nat×CM))→St→XT L R
 |[],σ=>κ σ
 |q::r,σ=>q.2.lam q.1 σ (apT κ r)
@[reducible] def Ad:List AM→Type→Type
 |[],R=>R
 |m::r,R=>m.den→Ad r R
def Jr{R:Type}:(ms:List AM)→Ad ms R→HP ms→R
 |[],g,_=>g
 |[_],g,x=>g x
 |_::n::ms,g,x=>Jr (n::ms) (g x.1) x.2
def V4{R:Type}:(ms:List AM)→(HP ms→R)→Ad ms R
 |[],f=>f ()
 |[_],f=>f
 |_::n::ms,f=>λx=>V4 (n::ms) λy=>f (x,y)
theorem LN{R:Type}: ∀(ms:List AM) (f:HP ms→R) (x:HP ms),Jr ms (V4 ms f) x=f x
 |[],_,()=>rfl
 |[_],_,_=>rfl
 |_::n::ms,f,x=>LN (n::ms) (λy=>f (x.1,y)) x.2
structure Pc where
 k:Nat
 c:List (Nat×CM)
 path:List Nat
 ks:List Nat
def Y1:List Pc→Nat→Pc
 |[],_=>⟨0,[],[],[]⟩
 |p::r,k=>cond (Nat.beq k p.k) p (Y1 r k)
def OE:List Pc→Nat→Option (List (Nat×CM))
 |[],_=>none
 |p::r,k=>cond (Nat.beq k p.k) (some p.c) (OE r k)
def CK:List (Nat×m2)→Nat→List m2
 |[],_=>[]
 |q::r,i=>cond (Nat.beq i q.1) (q.2::CK r i) (CK r i)
def G7:List AM→Nat→List Nat
 |[],_=>[]
 | .io _::r,i=>i::G7 r (i+1)
 | .lo _::r,i=>i::G7 r (i+1)
 |_::r,i=>G7 r (i+1)
structure Fx where
 nt:Nat
 tab:List (Nat×Ty)
 G:List (Nat×m2)
 N:Nat
 fn:Func
 args:List AM
 res:List AM
 pcs:List Pc
 lk:Option (Ty×List Step×Ty×List Nat):=none
namespace Fx
variable(X:Fx)
abbrev R:=Option (HP X.res)
def E:Env:={nt:=X.nt,ty:=λi=>OD i X.tab,Γ:=CK X.G,N:=X.N,xq:=λr=>OE X.pcs (2*r+1),zk:=λr=>OE X.pcs (2*r),io:=G7 X.args 0,lk:=X.lk}
@[reducible] def c(i:Nat):List (Nat×CM):=(Y1 X.pcs i).c
def path(i:Nat):List Nat:=(Y1 X.pcs i).path
def odd(i:Nat):Bool:=Nat.beq (i%2) 1
def cut(ρ:Nat→St→X.R)(l:Nat):St→X.R:=fun σ=>xz (some (X.c l)) σ (ρ l)
def ks(ρ:Nat→St→X.R)(i:Nat):List (St→X.R):=(Y1 X.pcs i).ks.map (X.cut ρ)
def lp(ρ:Nat→St→X.R)(i n:Nat):St→X.R:=lpF X.E X.fn X.args X.res (X.c i) (X.path i) (X.ks ρ i) n
def ct(ρ:Nat→St→X.R)(i:Nat):St→X.R:=cond (odd i) (X.lp ρ i X.N) (atF X.E X.fn X.args X.res (X.path i) (X.ks ρ i))
def own(ρ:Nat→St→X.R)(i:Nat):List (St→X.R):=X.ks ρ i++cond (odd i) [X.cut ρ i] []
def at'(K ρ:Nat→St→X.R)(i:Nat):St→X.R:=atQ X.E X.fn X.args X.res (λr=>K (2*r)) (λr=>K (2*r+1)) (X.path i) (X.own ρ i)
def tl(K ρ:Nat→St→X.R)(i:Nat):List ((St→X.R)×(St→X.R)):=xQ X.E (λr=>K (2*r)) (λr=>K (2*r+1)) (acE X.E X.fn X.args X.res (X.path i) (X.own ρ i))
@[reducible] def cu(i:Nat)(κ:St→X.R):XT (X.c i) X.R:=apT κ (X.c i) S0
@[reducible] def bd(K ρ:Nat→St→X.R)(i:Nat):XT (X.c i) X.R:=X.cu i (X.at' K ρ i)
@[reducible] def kc(ρ:Nat→St→X.R)(i:Nat):XT (X.c i) X.R:=X.cu i (ρ i)
def D5:Nat→St→X.R:=λ_ _=>none
def top(K:Nat→St→X.R):Ad X.args X.R:=V4 X.args λx=>atQ X.E X.fn X.args X.res (λr=>K (2*r)) (λr=>K (2*r+1)) [] [] (entry X.args x 0 S0)
def tlT(K:Nat→St→X.R):List ((St→X.R)×(St→X.R)):=xQ X.E (λr=>K (2*r)) (λr=>K (2*r+1)) (acE X.E X.fn X.args X.res [] [])
def S(q:Bool)(g:Ad X.args X.R):m2:={args:=X.args,res:=X.res,quiet:=q,run:=Jr X.args g}
variable{X}
theorem acF(f:Nat→St→X.R): ∀td:List Nat,V2 (td.map λt=>(f t,f t))
 |[]=>trivial
 |_::r=>⟨rfl,acF f r⟩
theorem okJ{i:Nat}(td:List Nat)(hi:odd i=false)(hr: ∀K ρ,X.tl K ρ i=td.map λt=>(K t,X.ct ρ t)){g:(Nat→St→X.R)→(Nat→St→X.R)→XT (X.c i) X.R}(h: ∀K ρ,X.bd K ρ i=g K ρ)(ρ:Nat→St→X.R):X.kc (X.ct ρ) i=g (X.ct ρ) ρ:=by
 rw[←h]
 have:X.ct ρ i=X.at' (X.ct ρ) ρ i:=by
  funext σ
  have h1:=hr (X.ct ρ) ρ
  unfold tl own at h1
  rw[hi,av,cw]at h1
  unfold at' own
  rw[hi,av,cw]
  rw[←at_eq X.E X.fn X.args X.res h1 (acF (X.ct ρ) td) σ]
  unfold ct;rw[hi];rfl
 unfold kc bd
 rw[this]
def okb(X:Fx)(i:Nat):Bool:=odd i&&(Y1 X.pcs i).ks.all λl=> !(Nat.beq l i)
theorem okL{i:Nat}(td:List Nat)(hi:okb X i=true)(hr: ∀K ρ,X.tl K ρ i=td.map λt=>(K t,X.ct ρ t)){g:(Nat→St→X.R)→(Nat→St→X.R)→XT (X.c i) X.R}(h: ∀K ρ,X.bd K ρ i=g K ρ)(ρ:Nat→St→X.R)
  (G:Nat→XT (X.c i) X.R) (h0:X.cu i (λ_=>none)=G 0) (hs: ∀n ρ',X.kc ρ' i=G n→(∀l,Nat.beq l i=false→X.kc ρ' l=X.kc ρ l)→g (X.ct ρ') ρ'=G (n+1)):X.kc (X.ct ρ) i=G X.N:=by
 unfold okb at hi
 rw[bM]at hi
 obtain⟨hi,hk⟩:=hi
 have key: ∀n,X.cu i (X.lp ρ i n)=G n:=by
  intro n
  induction n with
  |zero=>exact h0
  |succ n ih=>
   let ρ':Nat→St→X.R:=λl=>cond (Nat.beq l i) (X.lp ρ i n) (ρ l)
   have e1:ρ' i=X.lp ρ i n:=by show cond (Nat.beq i i) _ _=_;rw[pT];rfl
   have e2: ∀l,Nat.beq l i=false→ρ' l=ρ l:=λl hl=>by show cond (Nat.beq l i) _ _=_;rw[hl];rfl
   rw[←hs n ρ' (by unfold kc;rw[e1];exact ih) (λl hl=>by unfold kc;rw[e2 l hl]),←h]
   have e3:X.ks ρ' i=X.ks ρ i:=by
    unfold ks
    refine pP λl hl=> ?_
    have:=pB.1 hk l hl
    unfold cut
    rw[e2 l (by simpa using this)]
   have:X.lp ρ i (n+1)=X.at' (X.ct ρ') ρ' i:=by
    funext σ
    have h1:=hr (X.ct ρ') ρ'
    unfold tl own at h1
    rw[hi,ak]at h1
    unfold at' own
    rw[hi,ak]
    rw[←at_eq X.E X.fn X.args X.res h1 (acF (X.ct ρ') td) σ]
    unfold lp
    rw[YX,e3]
    unfold cut
    rw[e1];rfl
   unfold bd
   rw[this]
 have:X.ct ρ i=X.lp ρ i X.N:=by unfold ct;rw[hi];rfl
 unfold kc
 rw[this];exact key _
def LO(P:Program):List (Nat×m2)→Prop
 |[]=>True
 |q::r=>ju P q.1 q.2∧LO P r
structure _root_.VM.Kn(P:Program) where
 f:Nat
 S:m2
 ok:ju P f S
def _root_.VM.Kn.p{P:Program}(k:Kn P):Nat×m2:=(k.f,k.S)
def _root_.VM.Kn.l{P:Program}:List (Kn P)→List (Nat×m2)
 |[]=>[]
 |k::r=>k.p::Kn.l r
theorem _root_.VM.Kn.all{P:Program}: ∀l:List (Kn P),LO P (Kn.l l)
 |[]=>trivial
 |k::r=>⟨k.ok,Kn.all r⟩
theorem CL{P:Program}: ∀{l:List (Nat×m2)},LO P l→ ∀f S,S∈CK l f→ju P f S
 |[],_,f,S,h=>by simp[CK]at h
 |q::r,ha,f,S,h=>by
  unfold CK at h
  cases hb:Nat.beq f q.1<;>rw[hb]at h
  ·exact CL ha.2 f S h
  ·rcases a8.1 h with rfl|h
   ·rw[fy hb];exact ha.1
   ·exact CL ha.2 f S h
theorem G8: ∀{l:List Pc},(l.all λp=>kV p.c)=true→ ∀i L,OE l i=some L→kV L=true
 |q::r,ha,i,L,h=>by
  rw[xj,bM]at ha
  unfold OE at h
  cases hb:Nat.beq i q.k<;>rw[hb]at h
  ·exact G8 ha.2 i L h
  ·cases h;exact ha.1
def chk(X:Fx)(q:Bool):Bool:=(X.pcs.all λp=>kV p.c)&&((!(X.fn.name== "runtime.NumGoroutine")&&Nat.beq X.nt X.fn.ntmps)&&(X.fn.body.isSome&&(Nat.ble X.args.length X.nt&&((!q||X.res.all AM.flat)&&decide (nu X.args=nu X.res)))))
theorem OF: ∀{ms:List AM} {k i:Nat} {m:AM},ms[i]? =some m→m.iS=true→k+i∈G7 ms k
 |[],_,_,_,h,_=>by simp at h
 |m::ms,k,0,m',h,wG=>by
  simp only[NB,iA]at h
  subst h
  cases m<;>simp[AM.iS]at wG<;>simp[G7]
 |m::ms,k,i+1,m',h,wG=>by
  have:=OF (ms:=ms) (k:=k+1) (i:=i) (by simpa using h) wG
  rw[show k+(i+1)=k+1+i from by omega]
  cases m<;>simp only[G7]<;>first|exact aZ _ this|exact this
theorem Ug: ∀{ms:List AM} {k i:Nat},i∈G7 ms k→i<k+ms.length
 |[],_,_,h=>by simp[G7]at h
 |m::ms,k,i,h=>by
  have hr:i∈G7 ms (k+1)→i<k+(m::ms).length:=λh=>by have:=Ug h;simp only[aT];omega
  cases m<;>simp only[G7]at h<;>first
   |exact hr h
   |(rcases a8.1 h with rfl|h<;>first|exact hr h|(simp only[aT];omega))
variable(X)in
theorem OG{P:Program}(ht:G6 P X.tab)(hG:LO P X.G)(hc:(X.pcs.all λp=>kV p.c)=true):tI P X.E:=by
 have iQ: ∀t τ,OD t X.tab=some τ→uT P τ (.inl t)=true∧acC P τ t=true:=λt τ h=>by
  have:=pB.1 ht.ok _ (J9 h)
  simpa using this
 exact{ty:=λt τ h=>iF (iQ t τ h).1,eq:=λt τ h hc ha=>acD (iF (iQ t τ h).1) (iQ t τ h).2 hc ha,apu:=CL hG,mixed:=ht.mixed,kV:=λi L h=>G8 hc _ L h,Yy:=λi L h=>G8 hc _ L h}
theorem mkS{P:Program}(ht:G6 P X.tab){f:FuncId}(hf:P.funcs[f]? =some X.fn){q:Bool}(hc:chk X q=true)(hG:LO P X.G){g:Ad X.args X.R}(h: ∀x,NU X.E X.fn X.args X.res x=Jr X.args g x):ju P f (X.S q g):=by
 unfold chk at hc
 simp only[bM]at hc
 obtain⟨h0,⟨h1,h2⟩,h3,h4,h5,h6⟩:=hc
 refine YQ (OG X ht hG h0) hf (by simpa using h1) (fy h2) (X.S q g) (λi m hm wG=> ?_) (λi hi=> ?_) ?_ (λhq=> ?_) (bt h6) h
 ·have:=OF (k:=0) hm wG
  rwa [gm]at this
 ·have:=Ug (k:=0) hi
  rwa [gm]at this
 ·have:=F3 h4
  rwa [fy h2]at this
 ·have hq:q=true:=hq
  subst hq
  show X.res.all AM.flat=true
  simpa using h5
theorem acG{g:Ad X.args X.R}(h:V4 X.args (NU X.E X.fn X.args X.res)=g)(x:HP X.args):NU X.E X.fn X.args X.res x=Jr X.args g x:=by rw[←h,LN]
variable(X)in
theorem ok0{P:Program}(ht:G6 P X.tab){f:FuncId}(hf:P.funcs[f]? =some X.fn){q:Bool}(hc:chk X q=true)(hG:LO P X.G){g:Ad X.args X.R}(h:V4 X.args (NU X.E X.fn X.args X.res)=g):ju P f (X.S q g):=
 mkS ht hf hc hG (acG h)
theorem apU(hb:X.fn.body.isSome=true)(td:List Nat)(hr: ∀K,X.tlT K=td.map λt=>(K t,X.ct X.D5 t))
  {g:(Nat→St→X.R)→Ad X.args X.R} (h: ∀K,X.top K=g K) {f:Ad X.args X.R} (hf:g (X.ct X.D5)=f) (x:HP X.args):NU X.E X.fn X.args X.res x=Jr X.args f x:=by
 rw[←hf,←h,akN hb]
 unfold top
 rw[LN]
 exact at_eq X.E X.fn X.args X.res (hr (X.ct X.D5)) (acF (X.ct X.D5) td) _
variable(X)in
theorem ok1{P:Program}(ht:G6 P X.tab){f:FuncId}(hf:P.funcs[f]? =some X.fn){q:Bool}(hc:chk X q=true)(hG:LO P X.G)(td:List Nat)(hr: ∀K,X.tlT K=td.map λt=>(K t,X.ct X.D5 t))
  {g:(Nat→St→X.R)→Ad X.args X.R} (h: ∀K,X.top K=g K) {f':Ad X.args X.R} (zQ:g (X.ct X.D5)=f'):ju P f (X.S q f'):=by
 have hb:X.fn.body.isSome=true:=by
  unfold chk at hc
  simp only[bM]at hc
  exact hc.2.2.1
 exact mkS ht hf hc hG (apU hb td hr h zQ)
theorem uJ{i:Nat}(td:List Nat){g:(Nat→St→X.R)→(Nat→St→X.R)→XT (X.c i) X.R}(h: ∀K ρ,X.bd K ρ i=g K ρ)(ρ:Nat→St→X.R){f:XT (X.c i) X.R}(hf:g (X.ct ρ) ρ=f:=by rfl)
 (hi:odd i=false:=by kernel_rfl) (hr: ∀K ρ,X.tl K ρ i=td.map λt=>(K t,X.ct ρ t):=by intro K ρ;kernel_rfl):X.kc (X.ct ρ) i=f:=(okJ td hi hr h ρ).trans hf
theorem uL{i:Nat}(td:List Nat){g:(Nat→St→X.R)→(Nat→St→X.R)→XT (X.c i) X.R}(h: ∀K ρ,X.bd K ρ i=g K ρ)(ρ:Nat→St→X.R)
 (G:Nat→XT (X.c i) X.R) (hs: ∀n ρ',X.kc ρ' i=G n→(∀l,Nat.beq l i=false→X.kc ρ' l=X.kc ρ l)→g (X.ct ρ') ρ'=G (n+1)) (h0:X.cu i (λ_=>none)=G 0:=by rfl)
 (hi:okb X i=true:=by kernel_rfl) (hr: ∀K ρ,X.tl K ρ i=td.map λt=>(K t,X.ct ρ t):=by intro K ρ;kernel_rfl):X.kc (X.ct ρ) i=G X.N:=okL td hi hr h ρ G h0 hs
variable(X)in
theorem u0{P:Program}(ht:G6 P X.tab){f:FuncId}(hf:P.funcs[f]? =some X.fn){q:Bool}{g:Ad X.args X.R}(hG:LO P X.G:=by first|exact trivial|exact Kn.all _)(hc:chk X q=true:=by kernel_rfl)(h:V4 X.args (NU X.E X.fn X.args X.res)=g:=by kernel_rfl):ju P f (X.S q g):=ok0 X ht hf hc hG h
variable(X)in
theorem u1{P:Program}(ht:G6 P X.tab){f:FuncId}(hf:P.funcs[f]? =some X.fn)(td:List Nat)
 {g:(Nat→St→X.R)→Ad X.args X.R} (h: ∀K,X.top K=g K) {q:Bool} {f':Ad X.args X.R} (zQ:g (X.ct X.D5)=f':=by rfl) (hG:LO P X.G:=by first|exact trivial|exact Kn.all _) (hc:chk X q=true:=by kernel_rfl) (hr: ∀K,X.tlT K=td.map λt=>(K t,X.ct X.D5 t):=by intro K;kernel_rfl):ju P f (X.S q f'):=ok1 X ht hf hc hG td hr h zQ
end Fx
end VM
end
section
namespace VM
open Go
variable{P:Program}
theorem Left.same(w:World)(M0:Nat→Prop)(h: ∀b,M0 b→b<w.heap.size):Left w M0 [] w M0:=
 ⟨λ_ h=>h,h,λ_ _ h=> .inl h,λ_ _ _=>rfl,aH _,rfl,rfl,rfl⟩
theorem apV{w:World}{M:Nat→Prop}{a b c:IntKind}{x:HP [.v (.int a),.v (.int b),.v (.int c)]}{vs:List Value}(h:kC w M [.v (.int a),.v (.int b),.v (.int c)] x vs):vs=[.int a x.1,.int b x.2.1,.int c x.2.2]:=by
 simp only[kC,A1,V,Ty.isAgg,jM,fC,Rd,fQ,fB]at h
 obtain⟨v,vs,rfl,rfl,v,vs,rfl,rfl,v,vs,rfl,rfl,rfl⟩:=h
 rfl
theorem rr2{w:World}{M:Nat→Prop}{a b:IntKind}(x y:Int):RR w M [.v (.int a),.v (.int b)] (x,y) [.int a x,.int b y] []:=by
 simp only[RR]
 refine .inr ⟨_,_,rfl,rfl,rfl,?_,.inr ⟨_,_,rfl,rfl,rfl,?_,rfl,trivial⟩⟩<;>simp[A1,V,Ty.isAgg,Rd,q3,uk]
theorem Uh{f:FuncId}(run:Int×Int×Int→Option (Int×Int))
  (h: ∀(w:World) (a b c u v:Int),run (a,b,c)=some (u,v)→(callFunc f #[.int .u64 a,.int .u64 b,.int .u64 c]).run P w= .ok (.value (.tuple #[.int .u64 u,.int .u64 v])) w):
  ju P f {args:=[.v (.int .u64),.v (.int .u64),.v (.int .u64)],res:=[.v (.int .u64),.v (.int .u64)],quiet:=true,run}:=by
 refine⟨λ_=>rfl,rfl,λM0 w vs x y tc hA _ _ hy=> ?_⟩
 have hvs:=apV hA
 subst hvs
 exact Jm (h w x.1 x.2.1 x.2.2 y.1 y.2 hy) ⟨_,M0,rfl,rr2 y.1 y.2,Left.same w M0 tc,List.nodup_nil,λb hb=>by cases hb⟩
theorem CN(nm:String)(a b c:Nat)(h:c≤1)(w:World):(Extern.MathBitsCarry.three nm #[.int .u64 a,.int .u64 b,.int .u64 c]).run P w= .ok (a,b,c) w:=by
 have h5: ¬(1<c):=ω
 have:Extern.MathBitsCarry.three nm #[.int .u64 a,.int .u64 b,.int .u64 c]=(do
  let c:=(←asInt (.int .u64 c)).toNat
  if c>1 then unsupported (.noEntry ("extern/math/bits." ++nm++ ": a carry that is neither 0 nor 1"))
  pure ((←asInt (.int .u64 a)).toNat,(←asInt (.int .u64 b)).toNat,c)):=rfl
 rw[this]
 simp[asInt,asIntOf]
 omega
theorem V5{f:FuncId}{fn:Func}(N:Nat)(hf:P.funcs[f]? =some fn)(Bv:(fn.name== "runtime.NumGoroutine")=false)(hb:fn.body.isNone=true)(hn:Extern.findNext fn=none)
  (he:Extern.find fn=(Extern.MathBitsCarry.rows[0]?).map (·.2)):ju P f (uO.S N):=by
 refine Uh (λx=>uO N x.1 x.2.1 x.2.2) λw a b c u v hy=> ?_
 simp only[uO]at hy
 split at hy
 ·rename_i hc
  obtain⟨h1,h2,h3,h4⟩:=hc
  obtain⟨a,rfl⟩:=vr h1
  obtain⟨b,rfl⟩:=vr h2
  obtain⟨c,rfl⟩:=vr h3
  cases hy
  rw[run_callFunc_extern hf Bv hb hn he]
  simp[CN _ a b c ω,Extern.MathBitsCarry.pair,Extern.MathBitsCarry.m64]
 ·cases hy
theorem V6{f:FuncId}{fn:Func}(N:Nat)(hf:P.funcs[f]? =some fn)(Bv:(fn.name== "runtime.NumGoroutine")=false)(hb:fn.body.isNone=true)(hn:Extern.findNext fn=none)
  (he:Extern.find fn=(Extern.MathBitsCarry.rows[1]?).map (·.2)):ju P f (tD.S N):=by
 refine Uh (λx=>tD N x.1 x.2.1 x.2.2) λw a b c u v hy=> ?_
 simp only[tD]at hy
 split at hy
 ·rename_i hc
  obtain⟨h1,q5,h2,zF,h3,h4⟩:=hc
  obtain⟨a,rfl⟩:=vr h1
  obtain⟨b,rfl⟩:=vr h2
  obtain⟨c,rfl⟩:=vr h3
  cases hy
  rw[run_callFunc_extern hf Bv hb hn he]
  have e1:((a+18446744073709551616-b-c:Nat):Int)=(a:Int)+18446744073709551616-b-c:=ω
  by_cases h:a<b+c
  ·have h':(a:Int)<(b:Int)+(c:Int):=ω
   simp[CN _ a b c ω,Extern.MathBitsCarry.pair,Extern.MathBitsCarry.m64,e1,h,h']
  ·have h': ¬(a:Int)<(b:Int)+(c:Int):=ω
   simp[CN _ a b c ω,Extern.MathBitsCarry.pair,Extern.MathBitsCarry.m64,e1,h,h']
 ·cases hy
end VM
end
section
namespace VM
open Go Go.Shelf Go.RowKit Go.Lib Go.Proofs
variable{P:Program}{ρ:Ren}
def Y2(ρ:Ren)(fn:Func):Func:={fn with body:=(Body2.n22 ρ).body,ntmps:=95,results:=(Body2.n22 ρ).results,nfree:=0}
theorem xR(ρ:Ren)(fn:Func):(Y2 ρ fn).ntmps=95:=rfl
structure V7(P:Program)(e:Ty)(ρ:Ren)(f:FuncId)(fn fo:Func):Prop where
 hf:P.funcs[f]? =some (Y2 ρ fn)
 t3:P.underlying (ρ.t 3)=some (.int .i64)
 t4:P.underlying (ρ.t 4)=some .bool
 t24:P.underlying (ρ.t 24)=some (.slice (ρ.t 9))
 lay:kW P e (ρ.t 9)
 qS:0<e.size
 mixed:P.follows .mixedOrders=true
set_option maxHeartbeats 4000000 in
set_option maxRecDepth 100000 in
theorem LP{e:Ty}{f:FuncId}{fn fo:Func}(L:V7 P e ρ f fn fo)(w:World)(base:Option Addr)(n c m vc:Nat)(va:Addr)(v':Value)(w':World)(hm:0<m)(hn:n≤c)
  (Oh: ∀ty,(Builtin.append_ #[ρ.t 24,ρ.t 24] ty #[.slice base n c,.slice (some va) m vc]).run P w= .ok v' w'):
   Calls P f #[.slice base n c,.int .i64 n,.slice (some va) m vc] w λr w2=>r= .returned v'∧w2=w':=by
 have u3:=run_underlying L.t3;have u4:=run_underlying L.t4;have u24:=run_underlying L.t24
 have t3:=L.t3;have t4:=L.t4;have t24:=L.t24
 have z9:=λw=>dv L.lay w
 have mixed:=L.mixed
 have zC: ¬((m:Int)=0):=ω
 go_enter L.hf,xR ρ fn
 cases base with
 |none=>
   go_wp2_with (at_builtin;refine Lib.wpList_append_run _ rfl _ _ _ _ rfl _ _ rfl rfl _ _ (Oh _) ?_)
   all_goals (go_ret;exact⟨rfl,rfl⟩)
 |some a=>
   obtain⟨ab,ao,asp⟩:=a
   go_wp2_with (at_builtin;refine Lib.wpList_append_run _ rfl _ _ _ _ rfl _ _ rfl rfl _ _ (Oh _) ?_)
   all_goals (go_ret;exact⟨rfl,rfl⟩)
theorem run_copy_row{t te e:TypeId}{k:Nat}(ht:P.underlying t=some (.slice e))(hk: ∀w,(Go.sizeOf e).run P w= .ok k w){W:World}{b o apW avZ akP apX n:Nat}{a:Addr}{cs:Array Value}(hg:W.heap[b]? =some (.cells cs te (0,0)))
  {news:List Value} (hnn:Nat.min akP apW=n) (hl:news.length=n*k) (hn: ∀j u,news[j]? =some u→W.cell? (a.add j)=some u) (h1: ∀u∈news,u.oneCell'=true) (GI:o+news.length≤cs.size) (ty:TypeId):
  (Builtin.copy_ #[t,t] ty #[.slice (some ⟨b,o,none⟩) apW avZ,.slice (some a) akP apX]).run P W= .ok (goInt n) (W.setRow b (eM cs.toList o news).toArray):=by
 have hf:=run_firstCells_some (P:=P) W k n a akP apX news hl hn
 have vl:=run_storeCells_at (P:=P) b o te news 0 cs W hg ω h1
 simp only[mz]at vl
 simp[Builtin.copy_,run_underlying ht,hk,Builtin.lenOf,hnn,hf,vl,eM]
set_option maxHeartbeats 4000000 in
set_option maxRecDepth 100000 in
theorem V8{e:Ty}{f:FuncId}{fn fo:Func}(L:V7 P e ρ f fn fo)(w:World)(b n c i m vc:Nat)(va:Addr)(LR Y3:Array Value)(hi:i<n)(hm:0<m)(hr:n+m≤c)(av0:c≤9223372036854775807)
  (hov: ∀x lb cb,(callFunc (ρ.f 29) #[.slice (some va) m vc,.slice (some ⟨b,x,none⟩) lb cb]).run P w= .ok (.value (.bool false)) w)
  (acH: ∀ty dc sc,(Builtin.copy_ #[(ρ.t 24),(ρ.t 24)] ty #[.slice (some ⟨b,(i+m)*e.size,none⟩) (n+m-(i+m)) dc,.slice (some ⟨b,i*e.size,none⟩) (n+m-i) sc]).run P w.drew= .ok (goInt ((n-i:Nat):Int)) (w.drew.setRow b LR))
  (acI: ∀W:World,W.heap=(w.setRow b LR).heap→ ∀ty dc,(Builtin.copy_ #[(ρ.t 24),(ρ.t 24)] ty #[.slice (some ⟨b,i*e.size,none⟩) (n+m-i) dc,.slice (some va) m vc]).run P W= .ok (goInt m) (W.setRow b Y3)):
   Calls P f #[.slice (some ⟨b,0,none⟩) n c,.int .i64 i,.slice (some va) m vc] w λr w2=>r= .returned (.slice (some ⟨b,0,none⟩) (n+m) c)∧w2=(w.drew.setRow b LR).setRow b Y3:=by
 have u3:=run_underlying L.t3;have u4:=run_underlying L.t4;have u24:=run_underlying L.t24
 have t3:=L.t3;have t4:=L.t4;have t24:=L.t24
 have z9:=λw=>dv L.lay w
 have mixed:=L.mixed
 have zC: ¬((m:Int)=0):=ω
 have FA: ¬((i:Int)=(n:Int)):=ω
 have hw1:IntKind.i64.wrap ((i:Int)+(m:Int))=(i:Int)+(m:Int):=by rw[IntKind.wrap_i64];omega
 have nr:(0:Int)≤(i:Int)+(m:Int):=ω
 have ka:i≤n:=ω
 have VY:((i:Int)+(m:Int)).toNat=i+m:=ω
 have vk: ¬(c=i+m):=ω
 have hb3:(i:Int)≤(n:Int)+(m:Int):=ω
 have hb4: ¬(c=i):=ω
 go_enter L.hf,xR ρ fn
 go_wp2_with (simp only[hov])
 go_region_law_o (refine step_copy_runI rfl _ _ (ρ.t 24) (ρ.t 24) rfl _ _ (by simp[Act.eval,Act.put]) (by simp[Act.eval,Act.put]) (acH _ _ _) ?_)
 have h2:=acI (w.drew.setRow b LR) rfl
 go_wp2
 go_ret
 exact⟨rfl,rfl⟩
set_option maxHeartbeats 4000000 in
set_option maxRecDepth 100000 in
theorem Y4{e:Ty}{f:FuncId}{fn fo:Func}(L:V7 P e ρ f fn fo)(w:World)(b n c i m vc nb G:Nat)(va:Addr)(V9 LR Y3:Array Value)(hi:i<n)(hm:0<m)(hnc:n≤c)(hr:c<n+m)(av0:c≤9223372036854775807)(h63:n+m≤9223372036854775807)(hG:n+m≤G)(aDk:G≤9223372036854775807)
  (Oh: ∀ty,(Builtin.append_ #[(ρ.t 24),(ρ.t 3)] ty #[.slice (some ⟨b,0,none⟩) i c,.int .i64 ((n:Int)+(m:Int)-(i:Int))]).run P w= .ok (.slice (some ⟨w.heap.size,0,none⟩) (n+m) G) (w.drew.alloc (.cells V9 (ρ.t 9))))
  (acH: ∀W:World,W.heap=(w.alloc (.cells V9 (ρ.t 9))).heap→ ∀ty dc,(Builtin.copy_ #[(ρ.t 24),(ρ.t 24)] ty #[.slice (some ⟨w.heap.size,i*e.size,none⟩) (n+m-i) dc,.slice (some va) m vc]).run P W= .ok (goInt m) (W.setRow w.heap.size LR))
  (acI: ∀W:World,W.heap=((w.alloc (.cells V9 (ρ.t 9))).setRow w.heap.size LR).heap→ ∀ty dc sc,(Builtin.copy_ #[(ρ.t 24),(ρ.t 24)] ty #[.slice (some ⟨w.heap.size,(i+m)*e.size,none⟩) (n+m-(i+m)) dc,.slice (some ⟨b,i*e.size,none⟩) (n-i) sc]).run P W= .ok (goInt ((n-i:Nat):Int)) (W.setRow w.heap.size Y3)):
   Calls P f #[.slice (some ⟨b,0,none⟩) n c,.int .i64 i,.slice (some va) m vc] w λr w2=>r= .returned (.slice (some ⟨w.heap.size,0,none⟩) (n+m) G)∧w2=((w.drew.alloc (.cells V9 (ρ.t 9))).setRow w.heap.size LR).drew.setRow w.heap.size Y3:=by
 have u3:=run_underlying L.t3;have u4:=run_underlying L.t4;have u24:=run_underlying L.t24
 have t3:=L.t3;have t4:=L.t4;have t24:=L.t24
 have z9:=λw=>dv L.lay w
 have mixed:=L.mixed
 have zC: ¬((m:Int)=0):=ω
 have FA: ¬((i:Int)=(n:Int)):=ω
 have hz3:(c:Int)<(n:Int)+(m:Int):=ω
 have hw1:IntKind.i64.wrap ((i:Int)+(m:Int))=(i:Int)+(m:Int):=by rw[IntKind.wrap_i64];omega
 have nr:(0:Int)≤(i:Int)+(m:Int):=ω
 have ka:i≤n:=ω
 have VY:((i:Int)+(m:Int)).toNat=i+m:=ω
 have hGi: ¬(G=i):=ω
 have aDl: ¬(G=i+m):=ω
 have hci: ¬(c=i):=ω
 have hb3:(i:Int)≤(n:Int):=ω
 have h1:=acH ((w.alloc (.cells V9 (ρ.t 9))).drew) rfl
 have h2:=acI (((w.alloc (.cells V9 (ρ.t 9))).drew.setRow w.heap.size LR).drew) rfl
 go_enter L.hf,xR ρ fn
 go_wp2_with (first
   |(at_builtin;refine Lib.wpList_append_run _ rfl _ _ _ _ rfl _ _ rfl rfl _ _ (Oh _) ?_)
   |(at_builtin;refine wpList_copy_runI _ rfl _ _ (ρ.t 24) (ρ.t 24) rfl _ _ rfl rfl (acH _ (by exact rfl) _ _) ?_)
   |(at_builtin;refine wpList_copy_runI _ rfl _ _ (ρ.t 24) (ρ.t 24) rfl _ _ rfl rfl (acI _ (by exact rfl) _ _ _) ?_))
 go_region_law_o (refine step_copy_runI rfl _ _ (ρ.t 24) (ρ.t 24) rfl _ _ (by simp[Act.eval,Act.put]) (by simp[Act.eval,Act.put]) (h2 _ _ _) ?_)
 go_wp2
 go_ret
 exact⟨rfl,rfl⟩
theorem FB{α:Type}(A Z news:List α):eM (A++Z) A.length news=A++(news++Z.drop news.length):=by
 unfold eM
 rw[xh rfl,bE,←iB,mv rfl]
theorem pF.apZ{w:World}{M:Nat→Prop}{e:Ty}{cs:List Value}{l:List e.den}(h:pF w M e cs l)(i:Nat):pF w M e (cs.take (i*e.size)) (l.take i):=by
 intro j hj
 rw[bZ]at hj
 have:=eC (s:=e.size) (show j<i by omega)
 rw[rT,rU,ik ω,AP]
 exact h j ω
theorem pF.ap0{w:World}{M:Nat→Prop}{e:Ty}{cs:List Value}{l:List e.den}(h:pF w M e cs l)(i:Nat):pF w M e ((cs.drop (i*e.size)).take ((l.length-i)*e.size)) (l.drop i):=by
 intro j hj
 rw[eg]at hj
 have:=eC (s:=e.size) hj
 rw[rT,rU,ik ω,iB,F8,←eG]
 exact h (i+j) ω
theorem yV{w w':World}{M0:Nat→Prop}{hs:List Nat}{e:Ty}{rb cap:Nat}{row:Array Value}{t:TypeId}{l:List e.den}(tc: ∀b,M0 b→b<w.heap.size)(xO: ∀b∈hs,¬M0 b)
  (hfr: ∀b,b<w.heap.size→b∉hs→w'.heap[b]? =w.heap[b]?) (qQ:w.heap.size≤w'.heap.size) (hrb:rb<w.heap.size→rb∈hs) (hos:w'.os=w.os) (htp:w'.tape=w.tape) (Se:w'.output=w.output)
  (Sg:w'.heap[rb]? =some (.cells row t (0,0))) (h0:0<cap) (hl:l.length≤cap) (hm:cap≤maxLen) (hrs:row.size=cap*e.size) (kB:pF w (λb=>M0 b∨b∈hs) e row.toList l):
  ∃us M',Value.slice (some ⟨rb,0,none⟩) l.length cap=xK us∧RR w' M' [.own e] l us []∧Left w M0 hs w' M'∧(bI [.own e] us []).Nodup∧ ∀b∈bI [.own e] us [],¬M0 b:=by
 have JX:rb<w'.heap.size:=(lG.1 Sg).1
 have hk:fI w (λb=>M0 b∨b∈hs) w' (λb=>M0 b∨b=rb):=⟨qQ,λb hb hn=>hfr b hb (λh=>hn (.inr h)),λb hb h=>h.elim .inl (λe=> .inr (e▸hrb (e▸hb)))⟩
 have xC:bI [.own e] [Value.slice (some ⟨rb,0,none⟩) l.length cap] []=[rb]:=by
  have:cap≠0:=ω
  simp[bI,dw,AM.iS,fv,this]
 refine⟨[.slice (some ⟨rb,0,none⟩) l.length cap],λb=>M0 b∨b=rb,rfl,?_,?_,?_,?_⟩
 ·simp only[RR]
  refine .inr ⟨_,[],rfl,rfl,rfl,?_,rfl,trivial⟩
  simp only[A1,ER,q3]
  exact .inr ⟨rb,row,t,cap,rfl,Sg,.inr rfl,h0,hl,hm,hrs,kB.cg hk⟩
 ·exact⟨λb h=> .inl h,λb h=>h.elim (λh=>nQ (tc b h) qQ) (λh=>h▸JX),λb hb h=>h.elim .inl (λe=> .inr (e▸hrb (e▸hb))),hfr,qQ,hos,htp,Se⟩
 ·rw[xC];simp
 ·rw[xC]
  intro b hb h
  rw[cr]at hb
  subst hb
  exact xO b (hrb (tc b h)) h
theorem setRow_other(w:World){b c:Nat}(r:Array Value)(h:c≠b):(w.setRow b r).heap[c]? =w.heap[c]? :=by
 unfold World.setRow
 rw[Array.getElem?_modify,ah (λe=>h e.symm)]
theorem setRow_size(w:World)(b:Nat)(r:Array Value):(w.setRow b r).heap.size=w.heap.size:=by
 unfold World.setRow;simp
theorem alloc_old(w:World)(o:Obj){c:Nat}(h:c<w.heap.size):(w.alloc o).heap[c]? =w.heap[c]? :=by
 show(w.heap.push o)[c]? =_
 rw[Array.getElem?_push,ah ω]
theorem rG(w:World)(o:Obj):(w.alloc o).heap[w.heap.size]? =some o:=by
 show(w.heap.push o)[w.heap.size]? =_
 simp
theorem o6(w:World)(o:Obj):(w.alloc o).heap.size=w.heap.size+1:=by
 show(w.heap.push o).size=_
 simp
theorem vJ{w:World}{b:Nat}{cs:Array Value}{t:TypeId}{f:Nat×Nat}(h:w.heap[b]? =some (.cells cs t f))(o n:Nat): ∀j u,((cs.toList.drop o).take n)[j]? =some u→w.cell? ((⟨b,o,none⟩:Addr).add j)=some u:=by
 intro j u hj
 rw[Addr.add_lit]
 rw[mS]at hj
 split at hj
 ·rw[mT,iz]at hj
  simp only[World.cell?,h]
  simpa using hj
 ·cases hj
theorem Ui{w:World}{M:Nat→Prop}{v:Value}{e:Ty}{l:List e.den}(h:ER w M v (.own e l)):(l=[]∧ ∃a,v= .slice a 0 0)∨
 ∃b cs t cap,v= .slice (some ⟨b,0,none⟩) l.length cap∧w.heap[b]? =some (.cells cs t (0,0))∧M b∧0<cap∧l.length≤cap∧cap≤maxLen∧cs.size=cap*e.size∧pF w M e cs.toList l:=h
end VM
end
section
namespace VM
open Go Go.Shelf Go.RowKit Go.Lib Go.Proofs
variable{P:Program}{ρ:Ren}
theorem G9{w:World}{t e':TypeId}{e:Ty}(hu:P.underlying t=some (.slice e'))(hle:kW P e e'){n m cap cp:Nat}{olds news:List Value}{base:Option Addr}{a':Addr}(Yo:base=none→n=0∧cap=0)
  (w6:olds.length=n*e.size) (ho: ∀b,base=some b→ ∀j u,olds[j]? =some u→w.cell? (b.add j)=some u) (hln:news.length=m*e.size) (hn: ∀j u,news[j]? =some u→w.cell? (a'.add j)=some u)
  (hg:cap<n+m) (hs:n+m<A2):
  ∃m4 rest,(∀ty,(Builtin.append_ #[t,t] ty #[.slice base n cap,.slice (some a') m cp]).run P w= .ok (.slice (some ⟨w.heap.size,0,none⟩) (n+m) m4) (w.drew.alloc (.cells (olds++news++rest).toArray e')))∧
   n+m≤m4∧m4≤maxLen∧rest.length=(m4-(n+m))*e.size:=by
 obtain⟨i,hi,qQ,hz,hby⟩:=hle.base
 have hzs:(ck e e.cC).cells.size=e.size:=by rw[←bk,fD,mD]
 have h63:n+m≤maxLen:=by simp only[A2,maxLen]at hs ⊢;omega
 have GI:(n+m)*i.bytes≤140737488355328:=by
  have:(n+m)*i.bytes≤68719476736*2048:=uD (by simp only[A2]at hs;omega) hby
  omega
 refine⟨grownCap w (n+m) cap e',(Builtin.zeroCells (ck e e.cC).cells (grownCap w (n+m) cap e'-(n+m))).toList,λty=> ?_,grownCap_ge _ _ _ _,grownCap_le_maxLen _ _ _ _ h63,?_⟩
 ·cases base with
  |none=>
   obtain⟨rfl,rfl⟩:=Yo rfl
   have ho0:olds=[]:=vo (by rw[w6];simp)
   subst ho0
   have:=run_append_nil (P:=P) w t ty e' i _ hu hi hz a' m cp news (by rw[hln,qQ]) hn (by simpa using hg) (by simp only[A2]at hs;omega) (by simp at GI;omega)
   simp only[gm,cM]
   rw[this]
   congr 2
   apply fj (λz=>Obj.cells z e' (0,0))
   apply g8;simp
  |some b=>
   have:=run_append_grow (P:=P) w t ty e' i _ hu hi hz b n cap olds (by rw[w6,qQ]) (ho b rfl) a' m cp news (by rw[hln,qQ]) hn hg (by simp only[A2]at hs;omega) (growslice_fits hg GI)
   rw[this]
   congr 2
   apply fj (λz=>Obj.cells z e' (0,0))
   apply g8;simp
 ·rw[bk,size_zeroCells,hzs]
theorem Wa{w:World}{t tn e':TypeId}{e:Ty}(hu:P.underlying t=some (.slice e'))(VY:P.underlying tn=some (.int .i64))(hle:kW P e e')(akK:0<e.size){n k cap:Nat}{olds:List Value}{b:Addr}
  (w6:olds.length=n*e.size) (ho: ∀j u,olds[j]? =some u→w.cell? (b.add j)=some u) (hk:0<k) (hg:cap<n+k) (hs:n+k<A2):
  ∃m4 rest,(∀ty,(Builtin.append_ #[t,tn] ty #[.slice (some b) n cap,.int .i64 k]).run P w= .ok (.slice (some ⟨w.heap.size,0,none⟩) (n+k) m4) (w.drew.alloc (.cells (olds++rest).toArray e')))∧
   n+k≤m4∧m4≤maxLen∧rest.length=(m4-n)*e.size:=by
 obtain⟨i,hi,qQ,hz,hby⟩:=hle.base
 have hzs:(ck e e.cC).cells.size=e.size:=by rw[←bk,fD,mD]
 have h63:n+k≤maxLen:=by simp only[A2,maxLen]at hs ⊢;omega
 have GI:(n+k)*i.bytes≤140737488355328:=by
  have:(n+k)*i.bytes≤68719476736*2048:=uD (by simp only[A2]at hs;omega) hby
  omega
 have hkb:k*i.bytes≤281474976710656:=by
  have:k*i.bytes≤(n+k)*i.bytes:=kz _ ω
  omega
 have RX:=grownCap_ge w (n+k) cap e'
 refine⟨grownCap w (n+k) cap e',(Builtin.zeroCells (ck e e.cC).cells k++Builtin.zeroCells (ck e e.cC).cells (grownCap w (n+k) cap e'-(n+k))).toList,λty=> ?_,RX,grownCap_le_maxLen _ _ _ _ h63,?_⟩
 ·have hold:(Builtin.firstCells i.size n (.slice (some b) n cap)).run P w.drew= .ok olds.toArray w.drew:=run_firstCells_some w.drew i.size n b n cap olds (by rw[w6,qQ]) (λj u hj=>ho j u hj)
  have:=Lib.run_append_grow_zeros w t tn ty e' i _ .i64 .i64 hu VY hi hz (some b) n cap olds hold k hk (by rw[qQ];exact akK) hg (by simp only[A2]at hs;omega) hkb (growslice_fits hg GI)
  rw[this]
  congr 2
  apply fj (λz=>Obj.cells z e' (0,0))
  apply g8;simp
 ·rw[Array.toList_append,aS,bk,bk,size_zeroCells,size_zeroCells,hzs,←eG]
  congr 1;omega
structure OvP(P:Program)(ρ:Ren)(fo:Func):Prop where
 hf:P.funcs[ρ.f 29]? =some fo
 name:(fo.name== "runtime.NumGoroutine")=false
 body:fo.body.isNone=true
 next:Extern.findNext fo=none
 find:Extern.find fo=some (Extern.SlicesOverlaps.overlaps #[ρ.t 24,ρ.t 24] #[ρ.t 4])
theorem Ha{e:Ty}{f:FuncId}{fn fo:Func}(L:V7 P e ρ f fn fo)(O:OvP P ρ fo)(Bv:(fn.name== "runtime.NumGoroutine")=false)(Y5:(Body2.n22 ρ).body.isNone=false)(N:Nat):ju P f (mX e N):=by
 refine⟨(λh=>by cases h),rfl,λM0 w vs x y tc hA wU xO hy=> ?_⟩
 obtain⟨l,i,v⟩:=x
 have Ud:qW N l i v=some y:=hy
 clear hy
 simp only[mX,kC]at hA
 obtain⟨v0,Yx,rfl,h0,v1,vs2,rfl,h1,v2,vs3,rfl,h2,rfl⟩:=hA
 simp only[qW]at Ud
 split at Ud
 case isFalse=>cases Ud
 rename_i hc
 cases Ud
 obtain⟨hi0,zB,Sb,LS⟩:=hc
 obtain⟨i,rfl⟩:=vr hi0
 have ap2:i≤l.length:=ω
 simp only[A1,q3,uk,V,Ty.isAgg,jM,fC,Rd,fQ,fB]at h0 h1 h2
 subst h1
 have hk:=L.qS
 replace Sb:ℓ (α:=e.den) v=1:=Sb
 rcases Ui h2 with⟨VJ,_⟩|⟨b2,TZ,t2,BB,hv2,Ya,Lv,hc2,hl2,yO,Wb,zV⟩
 ·rw[VJ]at Sb;cases Sb
 replace hv2:v2= .slice (some ⟨b2,0,none⟩) 1 BB:=by rw[hv2];congr 1
 subst hv2
 have ab8:e.size≤TZ.toList.length:=by
  rw[bk (xs:=TZ),Wb]
  exact Nat.le_mul_of_pos_left _ hc2
 obtain⟨news,Y6⟩: ∃news,news=TZ.toList.take e.size:=⟨_,rfl⟩
 have JW:news.length=1*e.size:=by rw[Y6,bZ,kS];omega
 have hnr:pF w (λb=>M0 b∨b∈eD (mX e N).args [v0,.int .i64 (i:Int),.slice (some ⟨b2,0,none⟩) 1 BB]) e news v:=by
  rw[Y6];exact zV.take (by rw[Sb,kS];exact aH _)
 have hnc: ∀j u,news[j]? =some u→w.cell? ((⟨b2,0,none⟩:Addr).add j)=some u:=by
  have:=vJ Ya 0 e.size
  rw[cQ]at this
  rw[Y6];exact this
 have So: ∀u∈news,u.oneCell'=true:=by
  have:=hnr 0 ω
  rw[Nat.zero_mul,cQ,iy ω]at this
  exact this.lJ
 have vk:fv (.slice (some ⟨b2,0,none⟩) 1 BB)=some b2:=by simp[fv];omega
 replace LS:ℓ (α:=e.den) l+1<A2:=LS
 have Y7:(List.take i l++(v++List.drop i l)).length=l.length+1:=by rw[aS,aS,bZ,eg,Sb];omega
 have hbn:(Y2 ρ fn).body.isNone=false:=Y5
 refine um L.hf Bv hbn ?_
 rcases Ui h0 with⟨rfl,ad,rfl⟩|⟨b1,zY,t1,EW,rfl,RW,hM1,DT,Sp,ui,Ni,BC⟩
 ·
  have hi:i=0:=by simpa using ap2
  subst hi
  obtain⟨m4,rest,dF,V1,jt,JX⟩:=G9 (P:=P) (w:=w) L.t24 L.lay (n:=0) (m:=1) (cap:=0) (cp:=BB) (olds:=[]) (news:=news) (base:=ad) (a':=⟨b2,0,none⟩) (λ_=>⟨rfl,rfl⟩) (by simp) (λ_ _ j u hj=>by simp at hj) JW hnc ω (by simp only[A2];omega)
  refine(LP L w ad 0 0 1 BB ⟨b2,0,none⟩ _ _ ω (aH _) dF).mono ?_
  rintro e1 w' ⟨rfl,rfl⟩
  refine⟨_,rfl,?_⟩
  simp only[gm]at V1 JX
  have hv:v=v++[]:=by simp
  have:=yV (e:=e) (rb:=w.heap.size) (cap:=m4) (l:=v) (t:=ρ.t 9) (w:=w) (w':=w.drew.alloc (.cells ([]++news++rest).toArray (ρ.t 9))) tc xO (λb hb _=>alloc_old w.drew _ hb) (by rw[o6];exact rZ _) (λh=>absurd h (Gf _)) rfl rfl rfl (rG w.drew _) ω ω jt
   (by simp only[cM,jf,aS,JW,JX,←eG];congr 1;omega) (by simpa using hnr.more (cs':=rest) (by rw[Sb,JW];exact aH _))
  rw[Sb]at this
  simpa [mX,fL,AM.iS]using this
 ·have nr:fv (.slice (some ⟨b1,0,none⟩) l.length EW)=some b1:=by simp[fv];omega
  have hh:eD (mX e N).args [.slice (some ⟨b1,0,none⟩) l.length EW,.int .i64 (i:Int),.slice (some ⟨b2,0,none⟩) 1 BB]=[b1,b2]:=by simp[mX,eD,dw,nr,vk]
  rw[hh]at wU xO hnr ⊢
  replace BC:pF w (λb=>M0 b∨b∈[b1,b2]) e zY.toList l:=by rw[←hh];exact BC
  have kq:b1≠b2:=by simpa using wU
  have av3:b1<w.heap.size:=(lG.1 RW).1
  have ao7:b2<w.heap.size:=(lG.1 Ya).1
  have qP:l.length*e.size≤zY.toList.length:=by rw[bk (xs:=zY),Ni];exact kz _ Sp
  have hik:i*e.size≤l.length*e.size:=kz _ ap2
  obtain⟨A,hAe⟩: ∃A,A=zY.toList.take (i*e.size):=⟨_,rfl⟩
  obtain⟨mid,akR⟩: ∃mid,mid=(zY.toList.drop (i*e.size)).take ((l.length-i)*e.size):=⟨_,rfl⟩
  have Uj:A.length=i*e.size:=by rw[hAe,bZ];omega
  have Fs:mid.length=(l.length-i)*e.size:=by
   rw[akR,bZ,eg,sa];omega
  have hAr:=BC.apZ i
  have hmr:=BC.ap0 i
  rw[←hAe]at hAr
  rw[←akR]at hmr
  have hti:(l.take i).length=i:=by rw[bZ];omega
  have Uk: ∀rest:List Value,pF w (λb=>M0 b∨b∈[b1,b2]) e (A++(news++(mid++rest))) (l.take i++(v++l.drop i)):=λrest=>
   hAr.append (by rw[Uj,hti]) (hnr.append (by rw[JW,Sb]) (hmr.more (by rw[eg,Fs];exact aH _)))
  have hAc: ∀j u,A[j]? =some u→w.cell? ((⟨b1,0,none⟩:Addr).add j)=some u:=by
   have:=vJ RW 0 (i*e.size)
   rw[cQ]at this
   rw[hAe];exact this
  have hmc: ∀j u,mid[j]? =some u→w.cell? ((⟨b1,i*e.size,none⟩:Addr).add j)=some u:=by
   rw[akR];exact vJ RW (i*e.size) _
  have ap4: ∀u∈mid,u.oneCell'=true:=by
   intro u hu
   obtain⟨j,hj,rfl⟩:=rO.1 hu
   rw[Fs]at hj
   have hq:j/e.size<l.length-i:=Nat.div_lt_of_lt_mul (by rw[Gh];exact hj)
   have:=(hmr (j/e.size) (by rw[eg];exact hq)).lJ
   refine this _ ?_
   have hjm:j/e.size*e.size+j%e.size=j:=by rw[Gh];exact Nat.div_add_mod j e.size
   have Bd:j%e.size<e.size:=Nat.mod_lt _ hk
   rw[List.mem_iff_getElem?]
   refine⟨j%e.size,?_⟩
   rw[mS,aj Bd,mT,hjm]
   exact bo _
  by_cases ka:i=l.length
  ·
   subst ka
   have hm0:mid=[]:=vo (by rw[Fs];simp)
   by_cases Bp:l.length+1≤EW
   ·obtain⟨ie,hie,qQ,_⟩:=L.lay.base
    have dF: ∀ty,(Builtin.append_ #[ρ.t 24,ρ.t 24] ty #[.slice (some ⟨b1,0,none⟩) l.length EW,.slice (some ⟨b2,0,none⟩) 1 BB]).run P w=_:=λty=>
     N8 (ty:=ty) (cp:=BB) L.t24 hie RW (by rw[qQ];exact Ni) (by rw[qQ];exact JW) hnc So Bp
    refine(LP L w _ _ _ 1 BB ⟨b2,0,none⟩ _ _ ω Sp dF).mono ?_
    rintro e1 w' ⟨rfl,rfl⟩
    refine⟨_,rfl,?_⟩
    rw[qQ]
    have Sg:eM zY.toList (l.length*e.size) news=A++(news++(mid++zY.toList.drop (l.length*e.size+news.length))):=by
     rw[hm0,hAe];simp[eM]
    have:=yV (e:=e) (rb:=b1) (cap:=EW) (l:=l.take l.length++(v++l.drop l.length)) (t:=t1) (w:=w) (w':=w.setRow b1 (eM zY.toList (l.length*e.size) news).toArray) tc xO (λb hb hn=>setRow_other w _ (λe=>hn (by simp[e]))) (by rw[setRow_size];exact aH _) (λ_=>by simp) rfl rfl rfl (setRow_heap w b1 zY _ t1 _ RW) DT (by rw[Y7];exact Bp) ui
     (by
      have:=eC (s:=e.size) (show l.length<EW by omega)
      rw[Sg,jf]
      simp only[aS,hm0,cj,eg,bk,Uj,JW,Ni]
      omega)
     (by rw[Sg];exact Uk _)
    rw[Y7]at this
    simpa [mX,fL,AM.iS]using this
   ·obtain⟨m4,rest,dF,V1,jt,JX⟩:=G9 (P:=P) (w:=w) L.t24 L.lay (n:=l.length) (m:=1) (cap:=EW) (cp:=BB) (olds:=A) (news:=news) (base:=some ⟨b1,0,none⟩) (a':=⟨b2,0,none⟩) (λh=>by cases h) Uj (λb hb=>by cases hb;exact hAc) JW hnc ω LS
    refine(LP L w _ _ _ 1 BB ⟨b2,0,none⟩ _ _ ω Sp dF).mono ?_
    rintro e1 w' ⟨rfl,rfl⟩
    refine⟨_,rfl,?_⟩
    have:=yV (e:=e) (rb:=w.heap.size) (cap:=m4) (l:=l.take l.length++(v++l.drop l.length)) (t:=ρ.t 9) (w:=w) (w':=w.drew.alloc (.cells (A++news++rest).toArray (ρ.t 9))) tc xO (λb hb _=>alloc_old w.drew _ hb) (by rw[o6];exact rZ _) (λh=>absurd h (Gf _)) rfl rfl rfl (rG w.drew _) ω (by rw[Y7];exact V1) jt
     (by simp only[jf,aS,Uj,JW,JX,←eG];congr 1;omega) (by have:=Uk rest;rw[hm0,cM,←bE]at this;exact this)
    rw[Y7]at this
    simpa [mX,fL,AM.iS]using this
  ·have akS:i<l.length:=ω
   have hi1:i*e.size+e.size≤l.length*e.size:=eC akS
   have e1k:(i+1)*e.size=A.length+news.length:=by rw[Uj,JW,eG]
   have CA:Nat.min 1 (l.length+1-i)=1:=ik ω
   by_cases Bp:l.length+1≤EW
   ·
    have ap5:l.length*e.size+e.size≤zY.toList.length:=by rw[bk (xs:=zY),Ni];exact eC ω
    have hsh: ∀(b:Nat) (c:Array Value) (t:TypeId),w.heap[b]? =some (.cells c t (0,0))→w.shape? b=some (t,c.size):=λb c t h=>by simp[World.shape?,h]
    obtain⟨B,hB⟩: ∃B,B=zY.toList.drop (i*e.size):=⟨_,rfl⟩
    have ap6:zY.toList=A++B:=by rw[hAe,hB,gL]
    have hBl:B.length=zY.toList.length-i*e.size:=by rw[hB,eg]
    have hBk:(B.take e.size).length=e.size:=by rw[bZ];omega
    have OH:eM zY.toList ((i+1)*e.size) mid=A++(B.take e.size++(mid++(B.drop e.size).drop mid.length)):=by
     have:zY.toList=(A++B.take e.size)++B.drop e.size:=by rw[bE,gL];exact ap6
     rw[this,show(i+1)*e.size=(A++B.take e.size).length from by rw[aS,hBk,Uj,eG,kS],FB,bE]
    have OI:eM (eM zY.toList ((i+1)*e.size) mid) (i*e.size) news=A++(news++(mid++(B.drop e.size).drop mid.length)):=by
     rw[OH,←Uj,FB,JW,kS,mv hBk]
    refine(V8 L w b1 l.length EW i 1 BB ⟨b2,0,none⟩ (eM zY.toList ((i+1)*e.size) mid).toArray (eM (eM zY.toList ((i+1)*e.size) mid) (i*e.size) news).toArray akS ω Bp (by simp only[maxLen]at ui;omega) (λx lb cb=> ?_) (λty dc sc=> ?_) (λW hW ty dc=> ?_)).mono ?_
    ·rw[run_callFunc_extern O.hf O.name O.body O.next O.find,
      Lib.run_overlaps_apart w (ρ.t 24) (ρ.t 4) (ρ.t 9) L.t24 e.size (λw=>dv L.lay w) ⟨b2,0,none⟩ ⟨b1,x,none⟩ 1 BB lb cb (fc kq) t2 t1 TZ.size zY.size (hsh b2 TZ t2 Ya) (hsh b1 zY t1 RW) (by rw[Ni];exact Nat.ne_of_gt (Nat.mul_pos DT hk)) (by simp[World.frozen?,Ya]) (by simp[World.frozen?,Ya])]
     rfl
    ·exact run_copy_row (P:=P) (W:=w.drew) L.t24 (λw=>dv L.lay w) (cs:=zY) RW (news:=mid) (n:=l.length-i) (by simp only[Nat.min_def];split<;>omega) Fs hmc ap4 (by rw[Fs,eG,kS];rw[bk (xs:=zY)]at ap5;rw[sa];omega) ty
    ·exact run_copy_row (P:=P) (W:=W) L.t24 (λw=>dv L.lay w) (cs:=(eM zY.toList ((i+1)*e.size) mid).toArray) (te:=t1) (by rw[hW];exact setRow_heap w b1 zY _ t1 _ RW) (news:=news) (n:=1) CA JW
      (λj u hj=>by
       have:=hnc j u hj
       rw[Addr.add_lit]at this ⊢
       rw[show W.cell? ⟨b2,0+j,none⟩=w.cell? ⟨b2,0+j,none⟩from World.cell?_of_block (by rw[hW];exact setRow_other w _ (fc kq))]
       exact this) So (by
       rw[jf,OH]
       simp only[aS,hBk,Uj,JW]
       omega) ty
    ·rintro e1 w' ⟨rfl,rfl⟩
     refine⟨_,rfl,?_⟩
     have:=yV (e:=e) (rb:=b1) (cap:=EW) (l:=l.take i++(v++l.drop i)) (t:=t1) (w:=w) (w':=(w.drew.setRow b1 (eM zY.toList ((i+1)*e.size) mid).toArray).setRow b1 (eM (eM zY.toList ((i+1)*e.size) mid) (i*e.size) news).toArray) tc xO
      (λb hb hn=>(setRow_other _ _ (λe=>hn (by simp[e]))).trans (setRow_other _ _ (λe=>hn (by simp[e])))) (by rw[setRow_size,setRow_size];exact aH _) (λ_=>by simp) rfl rfl rfl (setRow_heap _ b1 _ _ t1 _ (setRow_heap w.drew b1 zY _ t1 _ RW)) DT (by rw[Y7];exact Bp) ui
      (by
       rw[OI,jf]
       rw[bk (xs:=zY)]at ap5 hBl
       simp only[aS,eg,Uj,JW,Fs,hBl,sa]
       omega)
      (by rw[OI];exact Uk _)
     rw[Y7]at this
     simpa [mX,fL,AM.iS]using this
   ·
    obtain⟨m4,Z,dF,V1,jt,hZl⟩:=Wa (P:=P) (w:=w) L.t24 L.t3 L.lay hk (n:=i) (k:=l.length+1-i) (cap:=EW) (olds:=A) (b:=⟨b1,0,none⟩) Uj hAc ω ω ω
    have av6:i+(l.length+1-i)=l.length+1:=ω
    rw[av6]at dF V1
    have hZk:(l.length+1-i)*e.size≤Z.length:=by rw[hZl];exact kz _ ω
    rw[sa,eG,kS]at hZk
    have OH:eM (A++Z) (i*e.size) news=A++(news++Z.drop news.length):=by rw[←Uj,FB]
    have OI:eM (eM (A++Z) (i*e.size) news) ((i+1)*e.size) mid=A++(news++(mid++(Z.drop news.length).drop mid.length)):=by
     rw[OH,←bE,e1k,←aS,FB,bE]
    have hnb:w.heap.size≠b1:=ω
    have aDs:b2≠w.heap.size:=ω
    refine(Y4 L w b1 l.length EW i 1 BB 0 m4 ⟨b2,0,none⟩ (A++Z).toArray (eM (A++Z) (i*e.size) news).toArray (eM (eM (A++Z) (i*e.size) news) ((i+1)*e.size) mid).toArray akS ω Sp ω (by simp only[maxLen]at ui;omega) (by simp only[A2]at LS;omega) V1 (by simp only[maxLen]at jt;omega) (λty=> ?_) (λW hW ty dc=> ?_) (λW hW ty dc sc=> ?_)).mono ?_
    ·have:=dF ty
     rw[show(((l.length+1-i:Nat):Int))=(l.length:Int)+(1:Nat)-(i:Int)from by omega]at this
     exact this
    ·exact run_copy_row (P:=P) (W:=W) L.t24 (λw=>dv L.lay w) (cs:=(A++Z).toArray) (te:=ρ.t 9) (by rw[hW];exact rG w _) (news:=news) (n:=1) CA JW
      (λj u hj=>by
       have:=hnc j u hj
       rw[Addr.add_lit]at this ⊢
       rw[show W.cell? ⟨b2,0+j,none⟩=w.cell? ⟨b2,0+j,none⟩from World.cell?_of_block (by rw[hW];exact alloc_old w _ ao7)]
       exact this) So (by rw[jf,aS,Uj,JW];omega) ty
    ·exact run_copy_row (P:=P) (W:=W) L.t24 (λw=>dv L.lay w) (cs:=(eM (A++Z) (i*e.size) news).toArray) (te:=ρ.t 9) (by rw[hW];exact setRow_heap _ _ _ _ _ _ (rG w _)) (news:=mid) (n:=l.length-i) (by simp only[Nat.min_def];split<;>omega) Fs
      (λj u hj=>by
       have:=hmc j u hj
       rw[Addr.add_lit]at this ⊢
       rw[show W.cell? ⟨b1,i*e.size+j,none⟩=w.cell? ⟨b1,i*e.size+j,none⟩from World.cell?_of_block (by rw[hW];exact(setRow_other _ _ (fc hnb)).trans (alloc_old w _ av3))]
       exact this) ap4 (by
       rw[jf,OH]
       simp only[aS,eg,Uj,JW,Fs,eG,sa]
       omega) ty
    ·rintro e1 w' ⟨rfl,rfl⟩
     refine⟨_,rfl,?_⟩
     have hg':((w.drew.alloc (.cells (A++Z).toArray (ρ.t 9))).setRow w.heap.size (eM (A++Z) (i*e.size) news).toArray).drew.heap[w.heap.size]? =some (.cells (eM (A++Z) (i*e.size) news).toArray (ρ.t 9) (0,0)):=setRow_heap _ _ _ _ _ _ (rG w.drew _)
     have:=yV (e:=e) (rb:=w.heap.size) (cap:=m4) (l:=l.take i++(v++l.drop i)) (t:=ρ.t 9) (w:=w) (w':=((w.drew.alloc (.cells (A++Z).toArray (ρ.t 9))).setRow w.heap.size (eM (A++Z) (i*e.size) news).toArray).drew.setRow w.heap.size (eM (eM (A++Z) (i*e.size) news) ((i+1)*e.size) mid).toArray) tc xO
      (λb hb hn=>(setRow_other _ _ ω).trans ((setRow_other _ _ ω).trans (alloc_old w.drew _ hb))) (by rw[setRow_size];show _≤(World.setRow _ _ _).heap.size;rw[setRow_size,o6];exact rZ _) (λh=>absurd h (Gf _)) rfl rfl rfl (setRow_heap _ _ _ _ _ _ hg') ω (by rw[Y7];exact V1) jt
      (by
       rw[OI,jf]
       have hmul:(m4-i)*e.size=m4*e.size-i*e.size:=sa _ _ _
       have hci:i*e.size≤m4*e.size:=kz _ ω
       simp only[aS,eg,Uj,JW,Fs,hZl,hmul,sa]at hZk ⊢
       omega)
      (by rw[OI];exact Uk _)
     rw[Y7]at this
     simpa [mX,fL,AM.iS]using this
end VM
end
section
namespace VM
open Go Go.Shelf Go.RowKit Go.Lib Go.Proofs
variable{P:Program}{ρ:Ren}
def Y8(ρ:Ren)(fn:Func):Func:={fn with body:=(Body2.n15 ρ).body,ntmps:=8,results:=(Body2.n15 ρ).results,nfree:=0}
theorem D6(ρ:Ren)(fn:Func):(Y8 ρ fn).ntmps=8:=rfl
structure LV(P:Program)(e:Ty)(ρ:Ren)(f:FuncId)(fn:Func):Prop where
 hf:P.funcs[f]? =some (Y8 ρ fn)
 t4:P.underlying (ρ.t 4)=some .bool
 t22:P.underlying (ρ.t 22)=some (.slice (ρ.t 3))
 lay:kW P e (ρ.t 3)
 qS:0<e.size
 mixed:P.follows .mixedOrders=true
set_option maxHeartbeats 4000000 in
set_option maxRecDepth 100000 in
theorem Wc{e:Ty}{f:FuncId}{fn:Func}(L:LV P e ρ f fn)(w:World)(n c:Nat):
  Calls P f #[.slice none n c] w λr w2=>r= .returned (.slice none 0 0)∧w2=w:=by
 have u22:=run_underlying L.t22
 have t4:=L.t4;have t22:=L.t22
 have z3:=λw=>dv L.lay w
 have mixed:=L.mixed
 have q22: ∀(w:World) (a:Option Addr) (n c n' c':Nat),(binOp .eql (ρ.t 22) (.slice a n c) (.slice none n' c')).run P w= .ok (.bool a.isNone) w:=λw a n c n' c'=>Lib.run_eql_slice_nil w _ _ a n c n' c' L.t22
 go_enter L.hf,D6 ρ fn
 go_wp2
 go_ret
 exact⟨rfl,rfl⟩
set_option maxHeartbeats 4000000 in
set_option maxRecDepth 100000 in
theorem Hb{e:Ty}{f:FuncId}{fn:Func}(L:LV P e ρ f fn)(w:World)(a:Addr)(n c:Nat)(v':Value)(w':World)
  (Oh: ∀ty,(Builtin.append_ #[ρ.t 22,ρ.t 22] ty #[.slice (some ⟨w.heap.size,0,none⟩) 0 0,.slice (some a) n c]).run P (w.alloc (.cells #[] (ρ.t 3)))= .ok v' w'):
   Calls P f #[.slice (some a) n c] w λr w2=>r= .returned v'∧w2=w':=by
 have u22:=run_underlying L.t22
 have t4:=L.t4;have t22:=L.t22
 have z3:=λw=>dv L.lay w
 have mixed:=L.mixed
 have q22: ∀(w:World) (a:Option Addr) (n c n' c':Nat),(binOp .eql (ρ.t 22) (.slice a n c) (.slice none n' c')).run P w= .ok (.bool a.isNone) w:=λw a n c n' c'=>Lib.run_eql_slice_nil w _ _ a n c n' c' L.t22
 obtain⟨ab,ao,asp⟩:=a
 go_enter L.hf,D6 ρ fn
 go_wp2_with (at_builtin;refine Lib.wpList_append_run _ rfl _ _ _ _ rfl _ _ rfl rfl _ _ (Oh _) ?_)
 all_goals (go_ret;exact⟨rfl,rfl⟩)
theorem Y9{w w':World}{M0:Nat→Prop}{e:Ty}(a:Option Addr)(tc: ∀b,M0 b→b<w.heap.size)(hfr: ∀b,b<w.heap.size→w'.heap[b]? =w.heap[b]?)(qQ:w.heap.size≤w'.heap.size)
  (hos:w'.os=w.os) (htp:w'.tape=w.tape) (Se:w'.output=w.output):
  ∃us M',Value.slice a 0 0=xK us∧RR w' M' [.own e] ([]:List e.den) us []∧Left w M0 [] w' M'∧(bI [.own e] us []).Nodup∧ ∀b∈bI [.own e] us [],¬M0 b:=by
 have xC:bI [.own e] [Value.slice a 0 0] []=[]:=by
  cases a<;>simp[bI,dw,AM.iS,fv]
 refine⟨[.slice a 0 0],M0,rfl,?_,?_,?_,?_⟩
 ·simp only[RR]
  refine .inr ⟨_,[],rfl,rfl,rfl,?_,rfl,trivial⟩
  simp only[A1,ER,q3]
  exact .inl ⟨trivial,a,rfl⟩
 ·exact⟨λb h=>h,λb h=>nQ (tc b h) qQ,λb hb h=> .inl h,λb hb _=>hfr b hb,qQ,hos,htp,Se⟩
 ·rw[xC];simp
 ·rw[xC];simp
theorem rH{e:Ty}{f:FuncId}{fn:Func}(L:LV P e ρ f fn)(Bv:(fn.name== "runtime.NumGoroutine")=false)(Y5:(Body2.n15 ρ).body.isNone=false)(N:Nat):ju P f (xA e N):=by
 refine⟨(λh=>by cases h),rfl,λM0 w vs x y tc hA wU xO hy=> ?_⟩
 have Ud:js N x=some y:=hy
 clear hy
 obtain⟨v0,Yx,rfl,h0,h2⟩:=hA
 have h2:Yx=[]:=h2
 subst h2
 replace h0:V w (λb=>M0 b∨b∈([]:List Nat)) (.slice e) v0 x:=h0
 unfold js at Ud
 split at Ud
 case isFalse=>cases Ud
 rename_i LS
 cases Ud
 have hbn:(Y8 ρ fn).body.isNone=false:=Y5
 have hh:eD (xA e N).args [v0]=[]:=rfl
 rw[hh]at xO ⊢
 refine um L.hf Bv hbn ?_
 obtain⟨i,hi,qQ,hz,hby⟩:=L.lay.base
 have hS:=Src.ab2 h0
 by_cases hx:x=[]
 ·obtain⟨a,cp,hv,_⟩:=hS
  subst hv
  rw[hx]
  cases a with
  |none=>
   refine(Wc L w _ cp).mono ?_
   rintro e1 w' ⟨rfl,rfl⟩
   exact⟨_,rfl,Y9 none tc (λ_ _=>rfl) (aH _) rfl rfl rfl⟩
  |some a=>
   refine(Hb L w a _ cp _ _ (λty=>tH (P:=P) (w:=w.alloc (.cells #[] (ρ.t 3))) L.t22 hi (some ⟨w.heap.size,0,none⟩) 0 0 (aH _) (some a) cp)).mono ?_
   rintro e1 w' ⟨rfl,rfl⟩
   exact⟨_,rfl,Y9 _ tc (λb hb=>alloc_old w _ hb) (by rw[o6];exact rZ _) rfl rfl rfl⟩
 ·obtain⟨b,off,cp,news,hv,hl,pE,kB,h1⟩:=hS.cells hx
  have N9:0<x.length:=pO.2 hx
  subst hv
  obtain⟨m4,rest,dF,V1,jt,JX⟩:=G9 (P:=P) (w:=w.alloc (.cells #[] (ρ.t 3))) L.t22 L.lay (n:=0) (m:=x.length) (cap:=0) (cp:=cp) (olds:=[]) (news:=news) (base:=some ⟨w.heap.size,0,none⟩) (a':=⟨b,off,none⟩) (λh=>by cases h) (by simp) (λ_ _ j u hj=>by simp at hj) hl
   (λj u hj=>by rw[Addr.add_lit];exact Lib.cell?_alloc_some _ (pE j u hj)) ω ω
  refine(Hb L w ⟨b,off,none⟩ _ cp _ _ dF).mono ?_
  rintro e1 w' ⟨rfl,rfl⟩
  refine⟨_,rfl,?_⟩
  simp only[gm]at V1 JX ⊢
  have Ni:(w.alloc (.cells #[] (ρ.t 3))).heap.size=w.heap.size+1:=o6 w _
  exact yV (e:=e) (rb:=(w.alloc (.cells #[] (ρ.t 3))).heap.size) (cap:=m4) (l:=x) (t:=ρ.t 3) (w:=w) (w':=(w.alloc (.cells #[] (ρ.t 3))).drew.alloc (.cells ([]++news++rest).toArray (ρ.t 3))) tc xO
   (λb hb _=>(alloc_old (w.alloc (.cells #[] (ρ.t 3))).drew _ (by show b<(w.alloc (.cells #[] (ρ.t 3))).heap.size;omega)).trans (alloc_old w _ hb))
   (by rw[o6];show w.heap.size≤(w.alloc (.cells #[] (ρ.t 3))).heap.size+1;omega) (λh=>ω) rfl rfl rfl (rG (w.alloc (.cells #[] (ρ.t 3))).drew _) ω V1 jt
   (by simp only[cM,jf,aS,hl,JX,←eG];congr 1;omega) (by simpa using pF.more (cs':=rest) (show pF w (λb=>M0 b∨b∈([]:List Nat)) e news x from kB) (by rw[hl];exact aH _))
end VM
end
