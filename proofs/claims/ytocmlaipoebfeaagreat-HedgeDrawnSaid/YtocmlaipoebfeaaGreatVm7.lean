/- A part of the proof of HedgeDrawn of layer 22: a machine that reads a function of the program as an equation between values. -/
import Derived.Test.YtocmlaipoebfeaaGreatVm6
import Derived.KernelRfl
import Derived.Test.YtocmlaipoebfeaaGreatVm0
import Derived.Laws.Externs
import Derived.Shelf.Spec.SlicesInsertGrow
set_option linter.all false
section
namespace VM
open Go
@[reducible] def CM.arr:CM→Type→Type
 | .v τ,T| .obj τ,T| .io τ,T| .fn _ τ,T=>τ.den→T
 | .own e,T=>List e.den→T
 | .ej τ _ e,T=>τ.den→List e.den→T
 | .same _,T=>T
@[reducible] def Ql:List (Nat×CM)→Type→Type
 |[],R=>R
 |q::r,R=>q.2.arr (Ql r R)
def CM.lam{T:Type}(s:Nat)(σ:St):(m:CM)→(St→T)→m.arr T
 | .v τ,f=>fun x=>f (σ.put s (.val τ x))
 | .own e,f=>fun x=>f ((σ.put s (.ref (16*s+14))).ix (16*s+14) (some (.own e x)))
 | .obj τ,f=>fun x=>f ((σ.put s (.fW (16*s+14) [])).ix (16*s+14) (some (.obj τ x)))
 | .ej τ q e,f=>fun x l=>f (((σ.put s (.fW (16*s+14) [])).ix (16*s+13) (some (.own e l))).ix (16*s+14) (some (.ej τ x q (16*s+13))))
 | .io τ,f=>fun x=>f ((σ.put s (.fW (16*s+15) [])).ix (16*s+15) (some (.obj τ x)))
 | .fn g τ,f=>fun x=>f (σ.put s (.GB g (mY τ x)))
 | .same s',f=>f (σ.put s (σ.T s'))
def aip{R:Type}(κ:St→R):(L:List (Nat×CM))→St→Ql L R
 |[],σ=>κ σ
 |q::r,σ=>q.2.lam q.1 σ (aip κ r)
@[reducible] def uD:List AM→Type→Type
 |[],R=>R
 |m::r,R=>m.den→uD r R
def CQ{R:Type}:(ms:List AM)→uD ms R→HP ms→R
 |[],g,_=>g
 |[_],g,x=>g x
 |_::n::ms,g,x=>CQ (n::ms) (g x.1) x.2
def OG{R:Type}:(ms:List AM)→(HP ms→R)→uD ms R
 |[],f=>f ()
 |[_],f=>f
 |_::n::ms,f=>fun x=>OG (n::ms) fun y=>f (x,y)
theorem E7{R:Type}: ∀(ms:List AM) (f:HP ms→R) (x:HP ms),CQ ms (OG ms f) x=f x
 |[],_,()=>rfl
 |[_],_,_=>rfl
 |_::n::ms,f,x=>E7 (n::ms) (fun y=>f (x.1,y)) x.2
structure Pc where
 k:Nat
 c:List (Nat×CM)
 path:List Nat
 ks:List Nat
def Ro:List Pc→Nat→Pc
 |[],_=>⟨0,[],[],[]⟩
 |p::r,k=>cond (Nat.beq k p.k) p (Ro r k)
def Hv:List Pc→Nat→Option (List (Nat×CM))
 |[],_=>none
 |p::r,k=>cond (Nat.beq k p.k) (some p.c) (Hv r k)
def w8:List (Nat×iD)→Nat→List iD
 |[],_=>[]
 |q::r,i=>cond (Nat.beq i q.1) (q.2::w8 r i) (w8 r i)
def CR:List AM→Nat→List Nat
 |[],_=>[]
 | .io _::r,i=>i::CR r (i+1)
 |_::r,i=>CR r (i+1)
structure Fx where
 nt:Nat
 tab:List (Nat×Ty)
 G:List (Nat×iD)
 N:Nat
 fn:Func
 args:List AM
 res:List AM
 pcs:List Pc
 lk:Option (Ty×List Step×Ty×List Nat):=none
namespace Fx
variable(X:Fx)
abbrev R:=Option (HP X.res)
def E:Env:={nt:=X.nt,ty:=fun i=>Hu i X.tab,Γ:=w8 X.G,N:=X.N,rU:=fun r=>Hv X.pcs (2*r+1),tD:=fun r=>Hv X.pcs (2*r),io:=CR X.args 0,lk:=X.lk}
@[reducible] def c(i:Nat):List (Nat×CM):=(Ro X.pcs i).c
def path(i:Nat):List Nat:=(Ro X.pcs i).path
def odd(i:Nat):Bool:=Nat.beq (i%2) 1
def cut(ρ:Nat→St→X.R)(l:Nat):St→X.R:=fun σ=>rY (some (X.c l)) σ (ρ l)
def ks(ρ:Nat→St→X.R)(i:Nat):List (St→X.R):=(Ro X.pcs i).ks.map (X.cut ρ)
noncomputable def lp(ρ:Nat→St→X.R)(i n:Nat):St→X.R:=lpF X.E X.fn X.args X.res (X.c i) (X.path i) (X.ks ρ i) n
noncomputable def bq(ρ:Nat→St→X.R)(i:Nat):St→X.R:=cond (odd i) (X.lp ρ i X.N) (atF X.E X.fn X.args X.res (X.path i) (X.ks ρ i))
def own(ρ:Nat→St→X.R)(i:Nat):List (St→X.R):=X.ks ρ i++cond (odd i) [X.cut ρ i] []
noncomputable def at'(K ρ:Nat→St→X.R)(i:Nat):St→X.R:=atQ X.E X.fn X.args X.res (fun r=>K (2*r)) (fun r=>K (2*r+1)) (X.path i) (X.own ρ i)
noncomputable def tl(K ρ:Nat→St→X.R)(i:Nat):List ((St→X.R)×(St→X.R)):=sq X.E (fun r=>K (2*r)) (fun r=>K (2*r+1)) (U4 X.E X.fn X.args X.res (X.path i) (X.own ρ i))
@[reducible] def cu(i:Nat)(κ:St→X.R):Ql (X.c i) X.R:=aip κ (X.c i) S0
@[reducible] noncomputable def bd(K ρ:Nat→St→X.R)(i:Nat):Ql (X.c i) X.R:=X.cu i (X.at' K ρ i)
@[reducible] def kc(ρ:Nat→St→X.R)(i:Nat):Ql (X.c i) X.R:=X.cu i (ρ i)
def yf:Nat→St→X.R:=fun _ _=>none
noncomputable def top(K:Nat→St→X.R):uD X.args X.R:=OG X.args fun x=>atQ X.E X.fn X.args X.res (fun r=>K (2*r)) (fun r=>K (2*r+1)) [] [] (entry X.args x 0 S0)
noncomputable def tlT(K:Nat→St→X.R):List ((St→X.R)×(St→X.R)):=sq X.E (fun r=>K (2*r)) (fun r=>K (2*r+1)) (U4 X.E X.fn X.args X.res [] [])
noncomputable def S(q:Bool)(g:uD X.args X.R):iD:={args:=X.args,res:=X.res,quiet:=q,run:=CQ X.args g}
variable{X}
theorem U5(f:Nat→St→X.R): ∀oJ:List Nat,OE (oJ.map fun t=>(f t,f t))
 |[]=>trivial
 |_::r=>⟨rfl,U5 f r⟩
theorem okJ{i:Nat}(oJ:List Nat)(hi:odd i=false)(hr: ∀K ρ,X.tl K ρ i=oJ.map fun t=>(K t,X.bq ρ t)){g:(Nat→St→X.R)→(Nat→St→X.R)→Ql (X.c i) X.R}(h: ∀K ρ,X.bd K ρ i=g K ρ)(ρ:Nat→St→X.R):X.kc (X.bq ρ) i=g (X.bq ρ) ρ:=by
 rw[←h]
 have:X.bq ρ i=X.at' (X.bq ρ) ρ i:=by
  funext σ
  have h1:=hr (X.bq ρ) ρ
  unfold tl own at h1
  rw[hi,ayB,ay2]at h1
  unfold at' own
  rw[hi,ayB,ay2]
  rw[←at_eq X.E X.fn X.args X.res h1 (U5 (X.bq ρ) oJ) σ]
  unfold bq;rw[hi];rfl
 unfold kc bd
 rw[this]
def okb(X:Fx)(i:Nat):Bool:=odd i&&(Ro X.pcs i).ks.all fun l=> !(Nat.beq l i)
theorem okL{i:Nat}(oJ:List Nat)(hi:okb X i=true)(hr: ∀K ρ,X.tl K ρ i=oJ.map fun t=>(K t,X.bq ρ t)){g:(Nat→St→X.R)→(Nat→St→X.R)→Ql (X.c i) X.R}(h: ∀K ρ,X.bd K ρ i=g K ρ)(ρ:Nat→St→X.R)
  (G:Nat→Ql (X.c i) X.R) (h0:X.cu i (fun _=>none)=G 0) (hs: ∀n ρ',X.kc ρ' i=G n→(∀l,Nat.beq l i=false→X.kc ρ' l=X.kc ρ l)→g (X.bq ρ') ρ'=G (n+1)):X.kc (X.bq ρ) i=G X.N:=by
 unfold okb at hi
 rw[ayQ]at hi
 obtain⟨hi,hk⟩:=hi
 have key: ∀n,X.cu i (X.lp ρ i n)=G n:=by
  intro n
  induction n with
  |zero=>exact h0
  |succ n ih=>
   let ρ':Nat→St→X.R:=fun l=>cond (Nat.beq l i) (X.lp ρ i n) (ρ l)
   have e1:ρ' i=X.lp ρ i n:=by show cond (Nat.beq i i) _ _=_;rw[aBl];rfl
   have e2: ∀l,Nat.beq l i=false→ρ' l=ρ l:=fun l hl=>by show cond (Nat.beq l i) _ _=_;rw[hl];rfl
   rw[←hs n ρ' (by unfold kc;rw[e1];exact ih) (fun l hl=>by unfold kc;rw[e2 l hl]),←h]
   have e3:X.ks ρ' i=X.ks ρ i:=by
    unfold ks
    refine aAf fun l hl=> ?_
    have:=azZ.1 hk l hl
    unfold cut
    rw[e2 l (by simpa using this)]
   have:X.lp ρ i (n+1)=X.at' (X.bq ρ') ρ' i:=by
    funext σ
    have h1:=hr (X.bq ρ') ρ'
    unfold tl own at h1
    rw[hi,ayz]at h1
    unfold at' own
    rw[hi,ayz]
    rw[←at_eq X.E X.fn X.args X.res h1 (U5 (X.bq ρ') oJ) σ]
    unfold lp
    rw[Rk,e3]
    unfold cut
    rw[e1];rfl
   unfold bd
   rw[this]
 have:X.bq ρ i=X.lp ρ i X.N:=by unfold bq;rw[hi];rfl
 unfold kc
 rw[this];exact key _
def E8(P:Program):List (Nat×iD)→Prop
 |[]=>True
 |q::r=>fh P q.1 q.2∧E8 P r
structure _root_.VM.Kn(P:Program) where
 f:Nat
 S:iD
 ok:fh P f S
def _root_.VM.Kn.p{P:Program}(k:Kn P):Nat×iD:=(k.f,k.S)
def _root_.VM.Kn.l{P:Program}:List (Kn P)→List (Nat×iD)
 |[]=>[]
 |k::r=>k.p::Kn.l r
theorem _root_.VM.Kn.all{P:Program}: ∀l:List (Kn P),E8 P (Kn.l l)
 |[]=>trivial
 |k::r=>⟨k.ok,Kn.all r⟩
theorem w9{P:Program}: ∀{l:List (Nat×iD)},E8 P l→ ∀f S,S∈w8 l f→fh P f S
 |[],_,f,S,h=>by simp[w8]at h
 |q::r,ha,f,S,h=>by
  unfold w8 at h
  cases hb:Nat.beq f q.1<;>rw[hb]at h
  ·exact w9 ha.2 f S h
  ·rcases ayY.1 h with rfl|h
   ·rw[ay9 hb];exact ha.1
   ·exact w9 ha.2 f S h
theorem AK: ∀{l:List Pc},(l.all fun p=>gJ p.c)=true→ ∀i L,Hv l i=some L→gJ L=true
 |q::r,ha,i,L,h=>by
  rw[aBt,ayQ]at ha
  unfold Hv at h
  cases hb:Nat.beq i q.k<;>rw[hb]at h
  ·exact AK ha.2 i L h
  ·cases h;exact ha.1
def chk(X:Fx)(q:Bool):Bool:=(X.pcs.all fun p=>gJ p.c)&&((!(X.fn.name== "runtime.NumGoroutine")&&Nat.beq X.nt X.fn.ntmps)&&(X.fn.body.isSome&&(Nat.ble X.args.length X.nt&&((!q||X.res.all AM.flat)&&decide (lT X.args=lT X.res)))))
theorem Hw: ∀{ms:List AM} {k i:Nat} {m:AM},ms[i]? =some m→m.fY=true→k+i∈CR ms k
 |[],_,_,_,h,_=>by simp at h
 |m::ms,k,0,m',h,s6=>by
  simp only[aBQ,azz]at h
  subst h
  cases m<;>simp[AM.fY]at s6
  simp[CR]
 |m::ms,k,i+1,m',h,s6=>by
  have:=Hw (ms:=ms) (k:=k+1) (i:=i) (by simpa using h) s6
  rw[show k+(i+1)=k+1+i from by omega]
  cases m<;>simp only[CR]<;>first|exact ayK _ this|exact this
theorem M9: ∀{ms:List AM} {k i:Nat},i∈CR ms k→i<k+ms.length
 |[],_,_,h=>by simp[CR]at h
 |m::ms,k,i,h=>by
  have hr:i∈CR ms (k+1)→i<k+(m::ms).length:=fun h=>by have:=M9 h;simp only[ayI];omega
  cases m<;>simp only[CR]at h<;>first
   |exact hr h
   |(rcases ayY.1 h with rfl|h<;>first|exact hr h|(simp only[ayI];omega))
variable(X)in
theorem Hy{P:Program}(ht:AJ P X.tab)(hG:E8 P X.G)(hc:(X.pcs.all fun p=>gJ p.c)=true):o3 P X.E:=by
 have g9: ∀t τ,Hu t X.tab=some τ→p3 P τ (.inl t)=true∧U2 P τ t=true:=fun t τ h=>by
  have:=azZ.1 ht.ok _ (Dz h)
  simpa using this
 exact{ty:=fun t τ h=>eK (g9 t τ h).1,eq:=fun t τ h hc ha=>U3 (eK (g9 t τ h).1) (g9 t τ h).2 hc ha,ah0:=w9 hG,mixed:=ht.mixed,gJ:=fun i L h=>AK hc _ L h,QS:=fun i L h=>AK hc _ L h}
theorem mkS{P:Program}(ht:AJ P X.tab){f:FuncId}(hf:P.funcs[f]? =some X.fn){q:Bool}(hc:chk X q=true)(hG:E8 P X.G){g:uD X.args X.R}(h: ∀x,GK X.E X.fn X.args X.res x=CQ X.args g x):fh P f (X.S q g):=by
 unfold chk at hc
 simp only[ayQ]at hc
 obtain⟨h0,⟨h1,h2⟩,h3,h4,h5,h6⟩:=hc
 refine Ra (Hy X ht hG h0) hf (by simpa using h1) (ay9 h2) (X.S q g) (fun i m hm s6=> ?_) (fun i hi=> ?_) ?_ (fun hq=> ?_) (ayV h6) h
 ·have:=Hw (k:=0) hm s6
  rwa [azH]at this
 ·have:=M9 (k:=0) hi
  rwa [azH]at this
 ·have:=aBn h4
  rwa [ay9 h2]at this
 ·have hq:q=true:=hq
  subst hq
  show X.res.all AM.flat=true
  simpa using h5
theorem ac5{g:uD X.args X.R}(h:OG X.args (GK X.E X.fn X.args X.res)=g)(x:HP X.args):GK X.E X.fn X.args X.res x=CQ X.args g x:=by rw[←h,E7]
variable(X)in
theorem ok0{P:Program}(ht:AJ P X.tab){f:FuncId}(hf:P.funcs[f]? =some X.fn){q:Bool}(hc:chk X q=true)(hG:E8 P X.G){g:uD X.args X.R}(h:OG X.args (GK X.E X.fn X.args X.res)=g):fh P f (X.S q g):=
 mkS ht hf hc hG (ac5 h)
theorem ac6(hb:X.fn.body.isSome=true)(oJ:List Nat)(hr: ∀K,X.tlT K=oJ.map fun t=>(K t,X.bq X.yf t))
  {g:(Nat→St→X.R)→uD X.args X.R} (h: ∀K,X.top K=g K) {f:uD X.args X.R} (hf:g (X.bq X.yf)=f) (x:HP X.args):GK X.E X.fn X.args X.res x=CQ X.args f x:=by
 rw[←hf,←h,ac2 hb]
 unfold top
 rw[E7]
 exact at_eq X.E X.fn X.args X.res (hr (X.bq X.yf)) (U5 (X.bq X.yf) oJ) _
variable(X)in
theorem ok1{P:Program}(ht:AJ P X.tab){f:FuncId}(hf:P.funcs[f]? =some X.fn){q:Bool}(hc:chk X q=true)(hG:E8 P X.G)(oJ:List Nat)(hr: ∀K,X.tlT K=oJ.map fun t=>(K t,X.bq X.yf t))
  {g:(Nat→St→X.R)→uD X.args X.R} (h: ∀K,X.top K=g K) {f':uD X.args X.R} (yU:g (X.bq X.yf)=f'):fh P f (X.S q f'):=by
 have hb:X.fn.body.isSome=true:=by
  unfold chk at hc
  simp only[ayQ]at hc
  exact hc.2.2.1
 exact mkS ht hf hc hG (ac6 hb oJ hr h yU)
theorem uJ{i:Nat}(oJ:List Nat){g:(Nat→St→X.R)→(Nat→St→X.R)→Ql (X.c i) X.R}(h: ∀K ρ,X.bd K ρ i=g K ρ)(ρ:Nat→St→X.R){f:Ql (X.c i) X.R}(hf:g (X.bq ρ) ρ=f:=by rfl)
 (hi:odd i=false:=by kernel_rfl) (hr: ∀K ρ,X.tl K ρ i=oJ.map fun t=>(K t,X.bq ρ t):=by intro K ρ;kernel_rfl):X.kc (X.bq ρ) i=f:=(okJ oJ hi hr h ρ).trans hf
theorem uL{i:Nat}(oJ:List Nat){g:(Nat→St→X.R)→(Nat→St→X.R)→Ql (X.c i) X.R}(h: ∀K ρ,X.bd K ρ i=g K ρ)(ρ:Nat→St→X.R)
 (G:Nat→Ql (X.c i) X.R) (hs: ∀n ρ',X.kc ρ' i=G n→(∀l,Nat.beq l i=false→X.kc ρ' l=X.kc ρ l)→g (X.bq ρ') ρ'=G (n+1)) (h0:X.cu i (fun _=>none)=G 0:=by rfl)
 (hi:okb X i=true:=by kernel_rfl) (hr: ∀K ρ,X.tl K ρ i=oJ.map fun t=>(K t,X.bq ρ t):=by intro K ρ;kernel_rfl):X.kc (X.bq ρ) i=G X.N:=okL oJ hi hr h ρ G h0 hs
variable(X)in
theorem u0{P:Program}(ht:AJ P X.tab){f:FuncId}(hf:P.funcs[f]? =some X.fn){q:Bool}{g:uD X.args X.R}(hG:E8 P X.G:=by first|exact trivial|exact Kn.all _)(hc:chk X q=true:=by kernel_rfl)(h:OG X.args (GK X.E X.fn X.args X.res)=g:=by kernel_rfl):fh P f (X.S q g):=ok0 X ht hf hc hG h
variable(X)in
theorem u1{P:Program}(ht:AJ P X.tab){f:FuncId}(hf:P.funcs[f]? =some X.fn)(oJ:List Nat)
 {g:(Nat→St→X.R)→uD X.args X.R} (h: ∀K,X.top K=g K) {q:Bool} {f':uD X.args X.R} (yU:g (X.bq X.yf)=f':=by rfl) (hG:E8 P X.G:=by first|exact trivial|exact Kn.all _) (hc:chk X q=true:=by kernel_rfl) (hr: ∀K,X.tlT K=oJ.map fun t=>(K t,X.bq X.yf t):=by intro K;kernel_rfl):fh P f (X.S q f'):=ok1 X ht hf hc hG oJ hr h yU
end Fx
end VM
end
section
namespace VM
open Go
variable{P:Program}
theorem Left.same(w:World)(M0:Nat→Prop)(h: ∀b,M0 b→b<w.heap.size):Left w M0 [] w M0:=
 ⟨fun _ h=>h,h,fun _ _ h=> .inl h,fun _ _ _=>rfl,ayJ _,rfl,rfl,rfl⟩
theorem aiq{w:World}{M:Nat→Prop}{a b c:IntKind}{x:HP [.v (.int a),.v (.int b),.v (.int c)]}{vs:List Value}(h:gr w M [.v (.int a),.v (.int b),.v (.int c)] x vs):vs=[.int a x.1,.int b x.2.1,.int c x.2.2]:=by
 simp only[gr,A1,V,Ty.isAgg,azv,aAt,Rd,azq,az4]at h
 obtain⟨v,vs,rfl,rfl,v,vs,rfl,rfl,v,vs,rfl,rfl,rfl⟩:=h
 rfl
theorem rr2{w:World}{M:Nat→Prop}{a b:IntKind}(x y:Int):RR w M [.v (.int a),.v (.int b)] (x,y) [.int a x,.int b y] []:=by
 simp only[RR]
 refine .inr ⟨_,_,rfl,rfl,rfl,?_,.inr ⟨_,_,rfl,rfl,rfl,?_,rfl,trivial⟩⟩<;>simp[A1,V,Ty.isAgg,Rd,rQ,wP]
theorem Na{f:FuncId}(run:Int×Int×Int→Option (Int×Int))
  (h: ∀(w:World) (a b c u v:Int),run (a,b,c)=some (u,v)→(callFunc f #[.int .u64 a,.int .u64 b,.int .u64 c]).run P w= .ok (.value (.tuple #[.int .u64 u,.int .u64 v])) w):
  fh P f {args:=[.v (.int .u64),.v (.int .u64),.v (.int .u64)],res:=[.v (.int .u64),.v (.int .u64)],quiet:=true,run}:=by
 refine⟨fun _=>rfl,rfl,fun M0 w vs x y nc hA _ _ hy=> ?_⟩
 have UA:=aiq hA
 subst UA
 exact CJ (h w x.1 x.2.1 x.2.2 y.1 y.2 hy) ⟨_,M0,rfl,rr2 y.1 y.2,Left.same w M0 nc,List.nodup_nil,fun b hb=>by cases hb⟩
theorem xa(nm:String)(a b c:Nat)(h:c≤1)(w:World):(Extern.MathBitsCarry.three nm #[.int .u64 a,.int .u64 b,.int .u64 c]).run P w= .ok (a,b,c) w:=by
 have h5: ¬(1<c):=by omega
 have:Extern.MathBitsCarry.three nm #[.int .u64 a,.int .u64 b,.int .u64 c]=(do
  let c:=(←asInt (.int .u64 c)).toNat
  if c>1 then unsupported (.noEntry ("extern/math/bits." ++nm++ ": a carry that is neither 0 nor 1"))
  pure ((←asInt (.int .u64 a)).toNat,(←asInt (.int .u64 b)).toNat,c)):=rfl
 rw[this]
 simp[asInt,asIntOf]
 omega
theorem OH{f:FuncId}{fn:Func}(N:Nat)(hf:P.funcs[f]? =some fn)(vA:(fn.name== "runtime.NumGoroutine")=false)(hb:fn.body.isNone=true)(hn:Extern.findNext fn=none)
  (he:Extern.find fn=(Extern.MathBitsCarry.rows[0]?).map (·.2)):fh P f (oT.S N):=by
 refine Na (fun x=>oT N x.1 x.2.1 x.2.2) fun w a b c u v hy=> ?_
 simp only[oT]at hy
 split at hy
 ·rename_i hc
  obtain⟨h1,h2,h3,h4⟩:=hc
  obtain⟨a,rfl⟩:=azX h1
  obtain⟨b,rfl⟩:=azX h2
  obtain⟨c,rfl⟩:=azX h3
  cases hy
  rw[run_callFunc_extern hf vA hb hn he]
  simp[xa _ a b c (by omega),Extern.MathBitsCarry.pair,Extern.MathBitsCarry.m64]
 ·cases hy
theorem OI{f:FuncId}{fn:Func}(N:Nat)(hf:P.funcs[f]? =some fn)(vA:(fn.name== "runtime.NumGoroutine")=false)(hb:fn.body.isNone=true)(hn:Extern.findNext fn=none)
  (he:Extern.find fn=(Extern.MathBitsCarry.rows[1]?).map (·.2)):fh P f (oU.S N):=by
 refine Na (fun x=>oU N x.1 x.2.1 x.2.2) fun w a b c u v hy=> ?_
 simp only[oU]at hy
 split at hy
 ·rename_i hc
  obtain⟨h1,m9,h2,ua,h3,h4⟩:=hc
  obtain⟨a,rfl⟩:=azX h1
  obtain⟨b,rfl⟩:=azX h2
  obtain⟨c,rfl⟩:=azX h3
  cases hy
  rw[run_callFunc_extern hf vA hb hn he]
  have e1:((a+18446744073709551616-b-c:Nat):Int)=(a:Int)+18446744073709551616-b-c:=by omega
  by_cases h:a<b+c
  ·have h':(a:Int)<(b:Int)+(c:Int):=by omega
   simp[xa _ a b c (by omega),Extern.MathBitsCarry.pair,Extern.MathBitsCarry.m64,e1,h,h']
  ·have h': ¬(a:Int)<(b:Int)+(c:Int):=by omega
   simp[xa _ a b c (by omega),Extern.MathBitsCarry.pair,Extern.MathBitsCarry.m64,e1,h,h']
 ·cases hy
end VM
end
section
namespace VM
open Go Go.Shelf Go.RowKit Go.Lib Go.Proofs
variable{P:Program}{ρ:Ren}
noncomputable def Rp(ρ:Ren)(fn:Func):Func:={fn with body:=(Body2.n22 ρ).body,ntmps:=95,results:=(Body2.n22 ρ).results,nfree:=0}
theorem sr(ρ:Ren)(fn:Func):(Rp ρ fn).ntmps=95:=rfl
structure K7(P:Program)(e:Ty)(ρ:Ren)(f:FuncId)(fn fo:Func):Prop where
 hf:P.funcs[f]? =some (Rp ρ fn)
 t3:P.underlying (ρ.t 3)=some (.int .i64)
 t4:P.underlying (ρ.t 4)=some .bool
 t24:P.underlying (ρ.t 24)=some (.slice (ρ.t 9))
 lay:g6 P e (ρ.t 9)
 m0:0<e.size
 mixed:P.follows .mixedOrders=true
set_option maxHeartbeats 4000000 in
set_option maxRecDepth 100000 in
theorem E9{e:Ty}{f:FuncId}{fn fo:Func}(L:K7 P e ρ f fn fo)(w:World)(base:Option Addr)(n c m vc:Nat)(va:Addr)(v':Value)(w':World)(hm:0<m)(hn:n≤c)
  (Hd: ∀ty,(Builtin.append_ #[ρ.t 24,ρ.t 24] ty #[.slice base n c,.slice (some va) m vc]).run P w= .ok v' w'):
   Calls P f #[.slice base n c,.int .i64 n,.slice (some va) m vc] w fun r w2=>r= .returned v'∧w2=w':=by
 have u3:=run_underlying L.t3;have u4:=run_underlying L.t4;have u24:=run_underlying L.t24
 have t3:=L.t3;have t4:=L.t4;have t24:=L.t24
 have z9:=fun w=>cw L.lay w
 have mixed:=L.mixed
 have zC: ¬((m:Int)=0):=by omega
 go_enter L.hf,sr ρ fn
 cases base with
 |none=>
   go_wp2_with (at_builtin;refine Lib.wpList_append_run _ rfl _ _ _ _ rfl _ _ rfl rfl _ _ (Hd _) ?_)
   all_goals (go_ret;exact⟨rfl,rfl⟩)
 |some a=>
   obtain⟨ab,ao,asp⟩:=a
   go_wp2_with (at_builtin;refine Lib.wpList_append_run _ rfl _ _ _ _ rfl _ _ rfl rfl _ _ (Hd _) ?_)
   all_goals (go_ret;exact⟨rfl,rfl⟩)
theorem run_copy_row{t te e:TypeId}{k:Nat}(ht:P.underlying t=some (.slice e))(hk: ∀w,(Go.sizeOf e).run P w= .ok k w){W:World}{b o air an4 ac7 ais n:Nat}{a:Addr}{cs:Array Value}(hg:W.heap[b]? =some (.cells cs te (0,0)))
  {news:List Value} (hnn:Nat.min ac7 air=n) (hl:news.length=n*k) (hn: ∀j u,news[j]? =some u→W.cell? (a.add j)=some u) (h1: ∀u∈news,u.oneCell'=true) (G7:o+news.length≤cs.size) (ty:TypeId):
  (Builtin.copy_ #[t,t] ty #[.slice (some ⟨b,o,none⟩) air an4,.slice (some a) ac7 ais]).run P W= .ok (goInt n) (W.setRow b (dz cs.toList o news).toArray):=by
 have hf:=run_firstCells_some (P:=P) W k n a ac7 ais news hl hn
 have Kq:=run_storeCells_at (P:=P) b o te news 0 cs W hg (by omega) h1
 simp only[aAO]at Kq
 simp[Builtin.copy_,run_underlying ht,hk,Builtin.lenOf,hnn,hf,Kq,dz]
set_option maxHeartbeats 4000000 in
set_option maxRecDepth 100000 in
theorem OJ{e:Ty}{f:FuncId}{fn fo:Func}(L:K7 P e ρ f fn fo)(w:World)(b n c i m vc:Nat)(va:Addr)(Fa Rq:Array Value)(hi:i<n)(hm:0<m)(hr:n+m≤c)(an5:c≤9223372036854775807)
  (hov: ∀x lb cb,(callFunc (ρ.f 29) #[.slice (some va) m vc,.slice (some ⟨b,x,none⟩) lb cb]).run P w= .ok (.value (.bool false)) w)
  (U6: ∀ty dc sc,(Builtin.copy_ #[(ρ.t 24),(ρ.t 24)] ty #[.slice (some ⟨b,(i+m)*e.size,none⟩) (n+m-(i+m)) dc,.slice (some ⟨b,i*e.size,none⟩) (n+m-i) sc]).run P w.drew= .ok (goInt ((n-i:Nat):Int)) (w.drew.setRow b Fa))
  (U7: ∀W:World,W.heap=(w.setRow b Fa).heap→ ∀ty dc,(Builtin.copy_ #[(ρ.t 24),(ρ.t 24)] ty #[.slice (some ⟨b,i*e.size,none⟩) (n+m-i) dc,.slice (some va) m vc]).run P W= .ok (goInt m) (W.setRow b Rq)):
   Calls P f #[.slice (some ⟨b,0,none⟩) n c,.int .i64 i,.slice (some va) m vc] w fun r w2=>r= .returned (.slice (some ⟨b,0,none⟩) (n+m) c)∧w2=(w.drew.setRow b Fa).setRow b Rq:=by
 have u3:=run_underlying L.t3;have u4:=run_underlying L.t4;have u24:=run_underlying L.t24
 have t3:=L.t3;have t4:=L.t4;have t24:=L.t24
 have z9:=fun w=>cw L.lay w
 have mixed:=L.mixed
 have zC: ¬((m:Int)=0):=by omega
 have KA: ¬((i:Int)=(n:Int)):=by omega
 have hw1:IntKind.i64.wrap ((i:Int)+(m:Int))=(i:Int)+(m:Int):=by rw[IntKind.wrap_i64];omega
 have kI:(0:Int)≤(i:Int)+(m:Int):=by omega
 have gD:i≤n:=by omega
 have OA:((i:Int)+(m:Int)).toNat=i+m:=by omega
 have tF: ¬(c=i+m):=by omega
 have hb3:(i:Int)≤(n:Int)+(m:Int):=by omega
 have hb4: ¬(c=i):=by omega
 go_enter L.hf,sr ρ fn
 go_wp2_with (simp only[hov])
 go_region_law_o (refine step_copy_runI rfl _ _ (ρ.t 24) (ρ.t 24) rfl _ _ (by simp[Act.eval,Act.put]) (by simp[Act.eval,Act.put]) (U6 _ _ _) ?_)
 have h2:=U7 (w.drew.setRow b Fa) rfl
 go_wp2
 go_ret
 exact⟨rfl,rfl⟩
set_option maxHeartbeats 4000000 in
set_option maxRecDepth 100000 in
theorem Rr{e:Ty}{f:FuncId}{fn fo:Func}(L:K7 P e ρ f fn fo)(w:World)(b n c i m vc nb G:Nat)(va:Addr)(OK Fa Rq:Array Value)(hi:i<n)(hm:0<m)(hnc:n≤c)(hr:c<n+m)(an5:c≤9223372036854775807)(h63:n+m≤9223372036854775807)(hG:n+m≤G)(avw:G≤9223372036854775807)
  (Hd: ∀ty,(Builtin.append_ #[(ρ.t 24),(ρ.t 3)] ty #[.slice (some ⟨b,0,none⟩) i c,.int .i64 ((n:Int)+(m:Int)-(i:Int))]).run P w= .ok (.slice (some ⟨w.heap.size,0,none⟩) (n+m) G) (w.drew.alloc (.cells OK (ρ.t 9))))
  (U6: ∀W:World,W.heap=(w.alloc (.cells OK (ρ.t 9))).heap→ ∀ty dc,(Builtin.copy_ #[(ρ.t 24),(ρ.t 24)] ty #[.slice (some ⟨w.heap.size,i*e.size,none⟩) (n+m-i) dc,.slice (some va) m vc]).run P W= .ok (goInt m) (W.setRow w.heap.size Fa))
  (U7: ∀W:World,W.heap=((w.alloc (.cells OK (ρ.t 9))).setRow w.heap.size Fa).heap→ ∀ty dc sc,(Builtin.copy_ #[(ρ.t 24),(ρ.t 24)] ty #[.slice (some ⟨w.heap.size,(i+m)*e.size,none⟩) (n+m-(i+m)) dc,.slice (some ⟨b,i*e.size,none⟩) (n-i) sc]).run P W= .ok (goInt ((n-i:Nat):Int)) (W.setRow w.heap.size Rq)):
   Calls P f #[.slice (some ⟨b,0,none⟩) n c,.int .i64 i,.slice (some va) m vc] w fun r w2=>r= .returned (.slice (some ⟨w.heap.size,0,none⟩) (n+m) G)∧w2=((w.drew.alloc (.cells OK (ρ.t 9))).setRow w.heap.size Fa).drew.setRow w.heap.size Rq:=by
 have u3:=run_underlying L.t3;have u4:=run_underlying L.t4;have u24:=run_underlying L.t24
 have t3:=L.t3;have t4:=L.t4;have t24:=L.t24
 have z9:=fun w=>cw L.lay w
 have mixed:=L.mixed
 have zC: ¬((m:Int)=0):=by omega
 have KA: ¬((i:Int)=(n:Int)):=by omega
 have hz3:(c:Int)<(n:Int)+(m:Int):=by omega
 have hw1:IntKind.i64.wrap ((i:Int)+(m:Int))=(i:Int)+(m:Int):=by rw[IntKind.wrap_i64];omega
 have kI:(0:Int)≤(i:Int)+(m:Int):=by omega
 have gD:i≤n:=by omega
 have OA:((i:Int)+(m:Int)).toNat=i+m:=by omega
 have hGi: ¬(G=i):=by omega
 have avx: ¬(G=i+m):=by omega
 have hci: ¬(c=i):=by omega
 have hb3:(i:Int)≤(n:Int):=by omega
 have h1:=U6 ((w.alloc (.cells OK (ρ.t 9))).drew) rfl
 have h2:=U7 (((w.alloc (.cells OK (ρ.t 9))).drew.setRow w.heap.size Fa).drew) rfl
 go_enter L.hf,sr ρ fn
 go_wp2_with (first
   |(at_builtin;refine Lib.wpList_append_run _ rfl _ _ _ _ rfl _ _ rfl rfl _ _ (Hd _) ?_)
   |(at_builtin;refine wpList_copy_runI _ rfl _ _ (ρ.t 24) (ρ.t 24) rfl _ _ rfl rfl (U6 _ (by exact rfl) _ _) ?_)
   |(at_builtin;refine wpList_copy_runI _ rfl _ _ (ρ.t 24) (ρ.t 24) rfl _ _ rfl rfl (U7 _ (by exact rfl) _ _ _) ?_))
 go_region_law_o (refine step_copy_runI rfl _ _ (ρ.t 24) (ρ.t 24) rfl _ _ (by simp[Act.eval,Act.put]) (by simp[Act.eval,Act.put]) (h2 _ _ _) ?_)
 go_wp2
 go_ret
 exact⟨rfl,rfl⟩
theorem zE{α:Type}(A Z news:List α):dz (A++Z) A.length news=A++(news++Z.drop news.length):=by
 unfold dz
 rw[aBb rfl,ayP,←azR,aAh rfl]
theorem nQ.ait{w:World}{M:Nat→Prop}{e:Ty}{cs:List Value}{l:List e.den}(h:nQ w M e cs l)(i:Nat):nQ w M e (cs.take (i*e.size)) (l.take i):=by
 intro j hj
 rw[ayX]at hj
 have:=c8 (s:=e.size) (show j<i by omega)
 rw[aAJ,aAK,azF (by omega),List.getElem_take]
 exact h j (by omega)
theorem nQ.aiu{w:World}{M:Nat→Prop}{e:Ty}{cs:List Value}{l:List e.den}(h:nQ w M e cs l)(i:Nat):nQ w M e ((cs.drop (i*e.size)).take ((l.length-i)*e.size)) (l.drop i):=by
 intro j hj
 rw[aza]at hj
 have:=c8 (s:=e.size) hj
 rw[aAJ,aAK,azF (by omega),azR,List.getElem_drop,←azx]
 exact h (i+j) (by omega)
theorem s9{w w':World}{M0:Nat→Prop}{hs:List Nat}{e:Ty}{rb cap:Nat}{row:Array Value}{t:TypeId}{l:List e.den}(nc: ∀b,M0 b→b<w.heap.size)(sm: ∀b∈hs,¬M0 b)
  (T9: ∀b,b<w.heap.size→b∉hs→w'.heap[b]? =w.heap[b]?) (qp:w.heap.size≤w'.heap.size) (hrb:rb<w.heap.size→rb∈hs) (hos:w'.os=w.os) (htp:w'.tape=w.tape) (EY:w'.output=w.output)
  (KX:w'.heap[rb]? =some (.cells row t (0,0))) (h0:0<cap) (hl:l.length≤cap) (hm:cap≤maxLen) (hrs:row.size=cap*e.size) (iu:nQ w (fun b=>M0 b∨b∈hs) e row.toList l):
  ∃us M',Value.slice (some ⟨rb,0,none⟩) l.length cap=si us∧RR w' M' [.own e] l us []∧Left w M0 hs w' M'∧(bk [.own e] us []).Nodup∧ ∀b∈bk [.own e] us [],¬M0 b:=by
 have Kr:rb<w'.heap.size:=(azj.1 KX).1
 have hk:dy w (fun b=>M0 b∨b∈hs) w' (fun b=>M0 b∨b=rb):=⟨qp,fun b hb hn=>T9 b hb (fun h=>hn (.inr h)),fun b hb h=>h.elim .inl (fun e=> .inr (e▸hrb (e▸hb)))⟩
 have tW:bk [.own e] [Value.slice (some ⟨rb,0,none⟩) l.length cap] []=[rb]:=by
  have:cap≠0:=by omega
  simp[bk,cN,AM.fY,eJ,this]
 refine⟨[.slice (some ⟨rb,0,none⟩) l.length cap],fun b=>M0 b∨b=rb,rfl,?_,?_,?_,?_⟩
 ·simp only[RR]
  refine .inr ⟨_,[],rfl,rfl,rfl,?_,rfl,trivial⟩
  simp only[A1,ER,rQ]
  exact .inr ⟨rb,row,t,cap,rfl,KX,.inr rfl,h0,hl,hm,hrs,iu.bD hk⟩
 ·exact⟨fun b h=> .inl h,fun b h=>h.elim (fun h=>azP (nc b h) qp) (fun h=>h▸Kr),fun b hb h=>h.elim .inl (fun e=> .inr (e▸hrb (e▸hb))),T9,qp,hos,htp,EY⟩
 ·rw[tW];simp
 ·rw[tW]
  intro b hb h
  rw[ay0]at hb
  subst hb
  exact sm b (hrb (nc b h)) h
theorem setRow_other(w:World){b c:Nat}(r:Array Value)(h:c≠b):(w.setRow b r).heap[c]? =w.heap[c]? :=by
 unfold World.setRow
 rw[Array.getElem?_modify,ayE (fun e=>h e.symm)]
theorem setRow_size(w:World)(b:Nat)(r:Array Value):(w.setRow b r).heap.size=w.heap.size:=by
 unfold World.setRow;simp
theorem alloc_old(w:World)(o:Obj){c:Nat}(h:c<w.heap.size):(w.alloc o).heap[c]? =w.heap[c]? :=by
 show(w.heap.push o)[c]? =_
 rw[Array.getElem?_push,ayE (by omega)]
theorem nD(w:World)(o:Obj):(w.alloc o).heap[w.heap.size]? =some o:=by
 show(w.heap.push o)[w.heap.size]? =_
 simp
theorem kZ(w:World)(o:Obj):(w.alloc o).heap.size=w.heap.size+1:=by
 show(w.heap.push o).size=_
 simp
theorem qG{w:World}{b:Nat}{cs:Array Value}{t:TypeId}{f:Nat×Nat}(h:w.heap[b]? =some (.cells cs t f))(o n:Nat): ∀j u,((cs.toList.drop o).take n)[j]? =some u→w.cell? ((⟨b,o,none⟩:Addr).add j)=some u:=by
 intro j u hj
 rw[Addr.add_lit]
 rw[azJ]at hj
 split at hj
 ·rw[azK,azh]at hj
  simp only[World.cell?,h]
  simpa using hj
 ·cases hj
theorem Nb{w:World}{M:Nat→Prop}{v:Value}{e:Ty}{l:List e.den}(h:ER w M v (.own e l)):(l=[]∧ ∃a,v= .slice a 0 0)∨
 ∃b cs t cap,v= .slice (some ⟨b,0,none⟩) l.length cap∧w.heap[b]? =some (.cells cs t (0,0))∧M b∧0<cap∧l.length≤cap∧cap≤maxLen∧cs.size=cap*e.size∧nQ w M e cs.toList l:=h
end VM
end
section
namespace VM
open Go Go.Shelf Go.RowKit Go.Lib Go.Proofs
variable{P:Program}{ρ:Ren}
theorem AL{w:World}{t e':TypeId}{e:Ty}(hu:P.underlying t=some (.slice e'))(hle:g6 P e e'){n m cap cp:Nat}{olds news:List Value}{base:Option Addr}{a':Addr}(QM:base=none→n=0∧cap=0)
  (y6:olds.length=n*e.size) (ho: ∀b,base=some b→ ∀j u,olds[j]? =some u→w.cell? (b.add j)=some u) (T5:news.length=m*e.size) (hn: ∀j u,news[j]? =some u→w.cell? (a'.add j)=some u)
  (hg:cap<n+m) (hs:n+m<u7):
  ∃ka rest,(∀ty,(Builtin.append_ #[t,t] ty #[.slice base n cap,.slice (some a') m cp]).run P w= .ok (.slice (some ⟨w.heap.size,0,none⟩) (n+m) ka) (w.drew.alloc (.cells (olds++news++rest).toArray e')))∧
   n+m≤ka∧ka≤maxLen∧rest.length=(ka-(n+m))*e.size:=by
 obtain⟨i,hi,qp,hz,hby⟩:=hle.base
 have hzs:(bU e e.cy).cells.size=e.size:=by rw[←ayM,eW,lI]
 have h63:n+m≤maxLen:=by simp only[u7,maxLen]at hs ⊢;omega
 have G7:(n+m)*i.bytes≤140737488355328:=by
  have:(n+m)*i.bytes≤68719476736*2048:=aBB (by simp only[u7]at hs;omega) hby
  omega
 refine⟨grownCap w (n+m) cap e',(Builtin.zeroCells (bU e e.cy).cells (grownCap w (n+m) cap e'-(n+m))).toList,fun ty=> ?_,grownCap_ge _ _ _ _,grownCap_le_maxLen _ _ _ _ h63,?_⟩
 ·cases base with
  |none=>
   obtain⟨rfl,rfl⟩:=QM rfl
   have ho0:olds=[]:=azL (by rw[y6];simp)
   subst ho0
   have:=run_append_nil (P:=P) w t ty e' i _ hu hi hz a' m cp news (by rw[T5,qp]) hn (by simpa using hg) (by simp only[u7]at hs;omega) (by simp at G7;omega)
   simp only[azH,ay8]
   rw[this]
   congr 2
   apply azS (fun z=>Obj.cells z e' (0,0))
   apply aAy;simp
  |some b=>
   have:=run_append_grow (P:=P) w t ty e' i _ hu hi hz b n cap olds (by rw[y6,qp]) (ho b rfl) a' m cp news (by rw[T5,qp]) hn hg (by simp only[u7]at hs;omega) (growslice_fits hg G7)
   rw[this]
   congr 2
   apply azS (fun z=>Obj.cells z e' (0,0))
   apply aAy;simp
 ·rw[ayM,size_zeroCells,hzs]
theorem OL{w:World}{t tn e':TypeId}{e:Ty}(hu:P.underlying t=some (.slice e'))(OA:P.underlying tn=some (.int .i64))(hle:g6 P e e')(acZ:0<e.size){n k cap:Nat}{olds:List Value}{b:Addr}
  (y6:olds.length=n*e.size) (ho: ∀j u,olds[j]? =some u→w.cell? (b.add j)=some u) (hk:0<k) (hg:cap<n+k) (hs:n+k<u7):
  ∃ka rest,(∀ty,(Builtin.append_ #[t,tn] ty #[.slice (some b) n cap,.int .i64 k]).run P w= .ok (.slice (some ⟨w.heap.size,0,none⟩) (n+k) ka) (w.drew.alloc (.cells (olds++rest).toArray e')))∧
   n+k≤ka∧ka≤maxLen∧rest.length=(ka-n)*e.size:=by
 obtain⟨i,hi,qp,hz,hby⟩:=hle.base
 have hzs:(bU e e.cy).cells.size=e.size:=by rw[←ayM,eW,lI]
 have h63:n+k≤maxLen:=by simp only[u7,maxLen]at hs ⊢;omega
 have G7:(n+k)*i.bytes≤140737488355328:=by
  have:(n+k)*i.bytes≤68719476736*2048:=aBB (by simp only[u7]at hs;omega) hby
  omega
 have hkb:k*i.bytes≤281474976710656:=by
  have:k*i.bytes≤(n+k)*i.bytes:=azy _ (by omega)
  omega
 have UL:=grownCap_ge w (n+k) cap e'
 refine⟨grownCap w (n+k) cap e',(Builtin.zeroCells (bU e e.cy).cells k++Builtin.zeroCells (bU e e.cy).cells (grownCap w (n+k) cap e'-(n+k))).toList,fun ty=> ?_,UL,grownCap_le_maxLen _ _ _ _ h63,?_⟩
 ·have hold:(Builtin.firstCells i.size n (.slice (some b) n cap)).run P w.drew= .ok olds.toArray w.drew:=run_firstCells_some w.drew i.size n b n cap olds (by rw[y6,qp]) (fun j u hj=>ho j u hj)
  have:=Lib.run_append_grow_zeros w t tn ty e' i _ .i64 .i64 hu OA hi hz (some b) n cap olds hold k hk (by rw[qp];exact acZ) hg (by simp only[u7]at hs;omega) hkb (growslice_fits hg G7)
  rw[this]
  congr 2
  apply azS (fun z=>Obj.cells z e' (0,0))
  apply aAy;simp
 ·rw[Array.toList_append,ayH,ayM,ayM,size_zeroCells,size_zeroCells,hzs,←azx]
  congr 1;omega
structure OvP(P:Program)(ρ:Ren)(fo:Func):Prop where
 hf:P.funcs[ρ.f 29]? =some fo
 name:(fo.name== "runtime.NumGoroutine")=false
 body:fo.body.isNone=true
 next:Extern.findNext fo=none
 find:Extern.find fo=some (Extern.SlicesOverlaps.overlaps #[ρ.t 24,ρ.t 24] #[ρ.t 4])
theorem uE{e:Ty}{f:FuncId}{fn fo:Func}(L:K7 P e ρ f fn fo)(O:OvP P ρ fo)(vA:(fn.name== "runtime.NumGoroutine")=false)(Rs:(Body2.n22 ρ).body.isNone=false)(N:Nat):fh P f (g5 e N):=by
 refine⟨(fun h=>by cases h),rfl,fun M0 w vs x y nc hA vx sm hy=> ?_⟩
 obtain⟨l,i,v⟩:=x
 have Rb:gZ N l i v=some y:=hy
 clear hy
 simp only[g5,gr]at hA
 obtain⟨v0,QR,rfl,h0,v1,vs2,rfl,h1,v2,vs3,rfl,h2,rfl⟩:=hA
 simp only[gZ]at Rb
 split at Rb
 case isFalse=>cases Rb
 rename_i hc
 cases Rb
 obtain⟨hi0,CB,GX,Fb⟩:=hc
 obtain⟨i,rfl⟩:=azX hi0
 have aiv:i≤l.length:=by omega
 simp only[A1,rQ,wP,V,Ty.isAgg,azv,aAt,Rd,azq,az4]at h0 h1 h2
 subst h1
 have hk:=L.m0
 replace GX:List.length (α:=e.den) v=1:=GX
 rcases Nb h2 with⟨UY,_⟩|⟨b2,cs2,t2,vF,UB,KT,EP,hc2,hl2,vl,Nc,Gr⟩
 ·rw[UY]at GX;cases GX
 replace UB:v2= .slice (some ⟨b2,0,none⟩) 1 vF:=by rw[UB];congr 1
 subst UB
 have Uz:e.size≤cs2.toList.length:=by
  rw[ayM (xs:=cs2),Nc]
  exact Nat.le_mul_of_pos_left _ hc2
 obtain⟨news,Rt⟩: ∃news,news=cs2.toList.take e.size:=⟨_,rfl⟩
 have Dg:news.length=1*e.size:=by rw[Rt,ayX,aAw];omega
 have hnr:nQ w (fun b=>M0 b∨b∈cW (g5 e N).args [v0,.int .i64 (i:Int),.slice (some ⟨b2,0,none⟩) 1 vF]) e news v:=by
  rw[Rt];exact Gr.take (by rw[GX,aAw];exact ayJ _)
 have hnc: ∀j u,news[j]? =some u→w.cell? ((⟨b2,0,none⟩:Addr).add j)=some u:=by
  have:=qG KT 0 e.size
  rw[ay7]at this
  rw[Rt];exact this
 have hn1: ∀u∈news,u.oneCell'=true:=by
  have:=hnr 0 (by omega)
  rw[Nat.zero_mul,ay7,azo (by omega)]at this
  exact this.lH
 have tF:eJ (.slice (some ⟨b2,0,none⟩) 1 vF)=some b2:=by simp[eJ];omega
 replace Fb:List.length (α:=e.den) l+1<u7:=Fb
 have hyl:(List.take i l++(v++List.drop i l)).length=l.length+1:=by rw[ayH,ayH,ayX,aza,GX];omega
 have hbn:(Rp ρ fn).body.isNone=false:=Rs
 refine pD L.hf vA hbn ?_
 rcases Nb h0 with⟨rfl,ad,rfl⟩|⟨b1,vb,t1,y9,rfl,Kv,hM1,CF,hl1,pS,MU,Fc⟩
 ·
  have hi:i=0:=by simpa using aiv
  subst hi
  obtain⟨ka,rest,cT,OD,gY,Kr⟩:=AL (P:=P) (w:=w) L.t24 L.lay (n:=0) (m:=1) (cap:=0) (cp:=vF) (olds:=[]) (news:=news) (base:=ad) (a':=⟨b2,0,none⟩) (fun _=>⟨rfl,rfl⟩) (by simp) (fun _ _ j u hj=>by simp at hj) Dg hnc (by omega) (by simp only[u7];omega)
  refine(E9 L w ad 0 0 1 vF ⟨b2,0,none⟩ _ _ (by omega) (ayJ _) cT).mono ?_
  rintro e1 w' ⟨rfl,rfl⟩
  refine⟨_,rfl,?_⟩
  simp only[azH]at OD Kr
  have hv:v=v++[]:=by simp
  have:=s9 (e:=e) (rb:=w.heap.size) (cap:=ka) (l:=v) (t:=ρ.t 9) (w:=w) (w':=w.drew.alloc (.cells ([]++news++rest).toArray (ρ.t 9))) nc sm (fun b hb _=>alloc_old w.drew _ hb) (by rw[kZ];exact aBd _) (fun h=>absurd h (aBN _)) rfl rfl rfl (nD w.drew _) (by omega) (by omega) gY
   (by simp only[ay8,azA,ayH,Dg,Kr,←azx];congr 1;omega) (by simpa using hnr.more (cs':=rest) (by rw[GX,Dg];exact ayJ _))
  rw[GX]at this
  simpa [g5,dK,AM.fY]using this
 ·have kI:eJ (.slice (some ⟨b1,0,none⟩) l.length y9)=some b1:=by simp[eJ];omega
  have hh:cW (g5 e N).args [.slice (some ⟨b1,0,none⟩) l.length y9,.int .i64 (i:Int),.slice (some ⟨b2,0,none⟩) 1 vF]=[b1,b2]:=by simp[g5,cW,cN,kI,tF]
  rw[hh]at vx sm hnr ⊢
  replace Fc:nQ w (fun b=>M0 b∨b∈[b1,b2]) e vb.toList l:=by rw[←hh];exact Fc
  have gq:b1≠b2:=by simpa using vx
  have an8:b1<w.heap.size:=(azj.1 Kv).1
  have ahE:b2<w.heap.size:=(azj.1 KT).1
  have pT:l.length*e.size≤vb.toList.length:=by rw[ayM (xs:=vb),MU];exact azy _ hl1
  have hik:i*e.size≤l.length*e.size:=azy _ aiv
  obtain⟨A,hAe⟩: ∃A,A=vb.toList.take (i*e.size):=⟨_,rfl⟩
  obtain⟨mid,ac9⟩: ∃mid,mid=(vb.toList.drop (i*e.size)).take ((l.length-i)*e.size):=⟨_,rfl⟩
  have Nd:A.length=i*e.size:=by rw[hAe,ayX];omega
  have Ac:mid.length=(l.length-i)*e.size:=by
   rw[ac9,ayX,aza,aBe];omega
  have hAr:=Fc.ait i
  have hmr:=Fc.aiu i
  rw[←hAe]at hAr
  rw[←ac9]at hmr
  have hti:(l.take i).length=i:=by rw[ayX];omega
  have Nf: ∀rest:List Value,nQ w (fun b=>M0 b∨b∈[b1,b2]) e (A++(news++(mid++rest))) (l.take i++(v++l.drop i)):=fun rest=>
   hAr.append (by rw[Nd,hti]) (hnr.append (by rw[Dg,GX]) (hmr.more (by rw[aza,Ac];exact ayJ _)))
  have hAc: ∀j u,A[j]? =some u→w.cell? ((⟨b1,0,none⟩:Addr).add j)=some u:=by
   have:=qG Kv 0 (i*e.size)
   rw[ay7]at this
   rw[hAe];exact this
  have hmc: ∀j u,mid[j]? =some u→w.cell? ((⟨b1,i*e.size,none⟩:Addr).add j)=some u:=by
   rw[ac9];exact qG Kv (i*e.size) _
  have aiy: ∀u∈mid,u.oneCell'=true:=by
   intro u hu
   obtain⟨j,hj,rfl⟩:=az5.1 hu
   rw[Ac]at hj
   have hq:j/e.size<l.length-i:=Nat.div_lt_of_lt_mul (by rw[aBV];exact hj)
   have:=(hmr (j/e.size) (by rw[aza];exact hq)).lH
   refine this _ ?_
   have hjm:j/e.size*e.size+j%e.size=j:=by rw[aBV];exact Nat.div_add_mod j e.size
   have Cr:j%e.size<e.size:=Nat.mod_lt _ hk
   rw[List.mem_iff_getElem?]
   refine⟨j%e.size,?_⟩
   rw[azJ,ayF Cr,azK,hjm]
   exact ayG _
  by_cases gD:i=l.length
  ·
   subst gD
   have hm0:mid=[]:=azL (by rw[Ac];simp)
   by_cases vv:l.length+1≤y9
   ·obtain⟨ie,hie,qp,_⟩:=L.lay.base
    have cT: ∀ty,(Builtin.append_ #[ρ.t 24,ρ.t 24] ty #[.slice (some ⟨b1,0,none⟩) l.length y9,.slice (some ⟨b2,0,none⟩) 1 vF]).run P w=_:=fun ty=>
     G6 (ty:=ty) (cp:=vF) L.t24 hie Kv (by rw[qp];exact MU) (by rw[qp];exact Dg) hnc hn1 vv
    refine(E9 L w _ _ _ 1 vF ⟨b2,0,none⟩ _ _ (by omega) hl1 cT).mono ?_
    rintro e1 w' ⟨rfl,rfl⟩
    refine⟨_,rfl,?_⟩
    rw[qp]
    have KX:dz vb.toList (l.length*e.size) news=A++(news++(mid++vb.toList.drop (l.length*e.size+news.length))):=by
     rw[hm0,hAe];simp[dz]
    have:=s9 (e:=e) (rb:=b1) (cap:=y9) (l:=l.take l.length++(v++l.drop l.length)) (t:=t1) (w:=w) (w':=w.setRow b1 (dz vb.toList (l.length*e.size) news).toArray) nc sm (fun b hb hn=>setRow_other w _ (fun e=>hn (by simp[e]))) (by rw[setRow_size];exact ayJ _) (fun _=>by simp) rfl rfl rfl (setRow_heap w b1 vb _ t1 _ Kv) CF (by rw[hyl];exact vv) pS
     (by
      have:=c8 (s:=e.size) (show l.length<y9 by omega)
      rw[KX,azA]
      simp only[ayH,hm0,ayW,aza,ayM,Nd,Dg,MU]
      omega)
     (by rw[KX];exact Nf _)
    rw[hyl]at this
    simpa [g5,dK,AM.fY]using this
   ·obtain⟨ka,rest,cT,OD,gY,Kr⟩:=AL (P:=P) (w:=w) L.t24 L.lay (n:=l.length) (m:=1) (cap:=y9) (cp:=vF) (olds:=A) (news:=news) (base:=some ⟨b1,0,none⟩) (a':=⟨b2,0,none⟩) (fun h=>by cases h) Nd (fun b hb=>by cases hb;exact hAc) Dg hnc (by omega) Fb
    refine(E9 L w _ _ _ 1 vF ⟨b2,0,none⟩ _ _ (by omega) hl1 cT).mono ?_
    rintro e1 w' ⟨rfl,rfl⟩
    refine⟨_,rfl,?_⟩
    have:=s9 (e:=e) (rb:=w.heap.size) (cap:=ka) (l:=l.take l.length++(v++l.drop l.length)) (t:=ρ.t 9) (w:=w) (w':=w.drew.alloc (.cells (A++news++rest).toArray (ρ.t 9))) nc sm (fun b hb _=>alloc_old w.drew _ hb) (by rw[kZ];exact aBd _) (fun h=>absurd h (aBN _)) rfl rfl rfl (nD w.drew _) (by omega) (by rw[hyl];exact OD) gY
     (by simp only[azA,ayH,Nd,Dg,Kr,←azx];congr 1;omega) (by have:=Nf rest;rw[hm0,ay8,←ayP]at this;exact this)
    rw[hyl]at this
    simpa [g5,dK,AM.fY]using this
  ·have ada:i<l.length:=by omega
   have UK:i*e.size+e.size≤l.length*e.size:=c8 ada
   have e1k:(i+1)*e.size=A.length+news.length:=by rw[Nd,Dg,azx]
   have Aj:Nat.min 1 (l.length+1-i)=1:=azF (by omega)
   by_cases vv:l.length+1≤y9
   ·
    have aiz:l.length*e.size+e.size≤vb.toList.length:=by rw[ayM (xs:=vb),MU];exact c8 (by omega)
    have hsh: ∀(b:Nat) (c:Array Value) (t:TypeId),w.heap[b]? =some (.cells c t (0,0))→w.shape? b=some (t,c.size):=fun b c t h=>by simp[World.shape?,h]
    obtain⟨B,hB⟩: ∃B,B=vb.toList.drop (i*e.size):=⟨_,rfl⟩
    have aiA:vb.toList=A++B:=by rw[hAe,hB,azg]
    have hBl:B.length=vb.toList.length-i*e.size:=by rw[hB,aza]
    have hBk:(B.take e.size).length=e.size:=by rw[ayX];omega
    have Hz:dz vb.toList ((i+1)*e.size) mid=A++(B.take e.size++(mid++(B.drop e.size).drop mid.length)):=by
     have:vb.toList=(A++B.take e.size)++B.drop e.size:=by rw[ayP,azg];exact aiA
     rw[this,show(i+1)*e.size=(A++B.take e.size).length from by rw[ayH,hBk,Nd,azx,aAw],zE,ayP]
    have HA:dz (dz vb.toList ((i+1)*e.size) mid) (i*e.size) news=A++(news++(mid++(B.drop e.size).drop mid.length)):=by
     rw[Hz,←Nd,zE,Dg,aAw,aAh hBk]
    refine(OJ L w b1 l.length y9 i 1 vF ⟨b2,0,none⟩ (dz vb.toList ((i+1)*e.size) mid).toArray (dz (dz vb.toList ((i+1)*e.size) mid) (i*e.size) news).toArray ada (by omega) vv (by simp only[maxLen]at pS;omega) (fun x lb cb=> ?_) (fun ty dc sc=> ?_) (fun W hW ty dc=> ?_)).mono ?_
    ·rw[run_callFunc_extern O.hf O.name O.body O.next O.find,
      Lib.run_overlaps_apart w (ρ.t 24) (ρ.t 4) (ρ.t 9) L.t24 e.size (fun w=>cw L.lay w) ⟨b2,0,none⟩ ⟨b1,x,none⟩ 1 vF lb cb (aAu gq) t2 t1 cs2.size vb.size (hsh b2 cs2 t2 KT) (hsh b1 vb t1 Kv) (by rw[MU];exact Nat.ne_of_gt (Nat.mul_pos CF hk)) (by simp[World.frozen?,KT]) (by simp[World.frozen?,KT])]
     rfl
    ·exact run_copy_row (P:=P) (W:=w.drew) L.t24 (fun w=>cw L.lay w) (cs:=vb) Kv (news:=mid) (n:=l.length-i) (by simp only[Nat.min_def];split<;>omega) Ac hmc aiy (by rw[Ac,azx,aAw];rw[ayM (xs:=vb)]at aiz;rw[aBe];omega) ty
    ·exact run_copy_row (P:=P) (W:=W) L.t24 (fun w=>cw L.lay w) (cs:=(dz vb.toList ((i+1)*e.size) mid).toArray) (te:=t1) (by rw[hW];exact setRow_heap w b1 vb _ t1 _ Kv) (news:=news) (n:=1) Aj Dg
      (fun j u hj=>by
       have:=hnc j u hj
       rw[Addr.add_lit]at this ⊢
       rw[show W.cell? ⟨b2,0+j,none⟩=w.cell? ⟨b2,0+j,none⟩from World.cell?_of_block (by rw[hW];exact setRow_other w _ (aAu gq))]
       exact this) hn1 (by
       rw[azA,Hz]
       simp only[ayH,hBk,Nd,Dg]
       omega) ty
    ·rintro e1 w' ⟨rfl,rfl⟩
     refine⟨_,rfl,?_⟩
     have:=s9 (e:=e) (rb:=b1) (cap:=y9) (l:=l.take i++(v++l.drop i)) (t:=t1) (w:=w) (w':=(w.drew.setRow b1 (dz vb.toList ((i+1)*e.size) mid).toArray).setRow b1 (dz (dz vb.toList ((i+1)*e.size) mid) (i*e.size) news).toArray) nc sm
      (fun b hb hn=>(setRow_other _ _ (fun e=>hn (by simp[e]))).trans (setRow_other _ _ (fun e=>hn (by simp[e])))) (by rw[setRow_size,setRow_size];exact ayJ _) (fun _=>by simp) rfl rfl rfl (setRow_heap _ b1 _ _ t1 _ (setRow_heap w.drew b1 vb _ t1 _ Kv)) CF (by rw[hyl];exact vv) pS
      (by
       rw[HA,azA]
       rw[ayM (xs:=vb)]at aiz hBl
       simp only[ayH,aza,Nd,Dg,Ac,hBl,aBe]
       omega)
      (by rw[HA];exact Nf _)
     rw[hyl]at this
     simpa [g5,dK,AM.fY]using this
   ·
    obtain⟨ka,Z,cT,OD,gY,hZl⟩:=OL (P:=P) (w:=w) L.t24 L.t3 L.lay hk (n:=i) (k:=l.length+1-i) (cap:=y9) (olds:=A) (b:=⟨b1,0,none⟩) Nd hAc (by omega) (by omega) (by omega)
    have aob:i+(l.length+1-i)=l.length+1:=by omega
    rw[aob]at cT OD
    have hZk:(l.length+1-i)*e.size≤Z.length:=by rw[hZl];exact azy _ (by omega)
    rw[aBe,azx,aAw]at hZk
    have Hz:dz (A++Z) (i*e.size) news=A++(news++Z.drop news.length):=by rw[←Nd,zE]
    have HA:dz (dz (A++Z) (i*e.size) news) ((i+1)*e.size) mid=A++(news++(mid++(Z.drop news.length).drop mid.length)):=by
     rw[Hz,←ayP,e1k,←ayH,zE,ayP]
    have hnb:w.heap.size≠b1:=by omega
    have avG:b2≠w.heap.size:=by omega
    refine(Rr L w b1 l.length y9 i 1 vF 0 ka ⟨b2,0,none⟩ (A++Z).toArray (dz (A++Z) (i*e.size) news).toArray (dz (dz (A++Z) (i*e.size) news) ((i+1)*e.size) mid).toArray ada (by omega) hl1 (by omega) (by simp only[maxLen]at pS;omega) (by simp only[u7]at Fb;omega) OD (by simp only[maxLen]at gY;omega) (fun ty=> ?_) (fun W hW ty dc=> ?_) (fun W hW ty dc sc=> ?_)).mono ?_
    ·have:=cT ty
     rw[show(((l.length+1-i:Nat):Int))=(l.length:Int)+(1:Nat)-(i:Int)from by omega]at this
     exact this
    ·exact run_copy_row (P:=P) (W:=W) L.t24 (fun w=>cw L.lay w) (cs:=(A++Z).toArray) (te:=ρ.t 9) (by rw[hW];exact nD w _) (news:=news) (n:=1) Aj Dg
      (fun j u hj=>by
       have:=hnc j u hj
       rw[Addr.add_lit]at this ⊢
       rw[show W.cell? ⟨b2,0+j,none⟩=w.cell? ⟨b2,0+j,none⟩from World.cell?_of_block (by rw[hW];exact alloc_old w _ ahE)]
       exact this) hn1 (by rw[azA,ayH,Nd,Dg];omega) ty
    ·exact run_copy_row (P:=P) (W:=W) L.t24 (fun w=>cw L.lay w) (cs:=(dz (A++Z) (i*e.size) news).toArray) (te:=ρ.t 9) (by rw[hW];exact setRow_heap _ _ _ _ _ _ (nD w _)) (news:=mid) (n:=l.length-i) (by simp only[Nat.min_def];split<;>omega) Ac
      (fun j u hj=>by
       have:=hmc j u hj
       rw[Addr.add_lit]at this ⊢
       rw[show W.cell? ⟨b1,i*e.size+j,none⟩=w.cell? ⟨b1,i*e.size+j,none⟩from World.cell?_of_block (by rw[hW];exact(setRow_other _ _ (aAu hnb)).trans (alloc_old w _ an8))]
       exact this) aiy (by
       rw[azA,Hz]
       simp only[ayH,aza,Nd,Dg,Ac,azx,aBe]
       omega) ty
    ·rintro e1 w' ⟨rfl,rfl⟩
     refine⟨_,rfl,?_⟩
     have hg':((w.drew.alloc (.cells (A++Z).toArray (ρ.t 9))).setRow w.heap.size (dz (A++Z) (i*e.size) news).toArray).drew.heap[w.heap.size]? =some (.cells (dz (A++Z) (i*e.size) news).toArray (ρ.t 9) (0,0)):=setRow_heap _ _ _ _ _ _ (nD w.drew _)
     have:=s9 (e:=e) (rb:=w.heap.size) (cap:=ka) (l:=l.take i++(v++l.drop i)) (t:=ρ.t 9) (w:=w) (w':=((w.drew.alloc (.cells (A++Z).toArray (ρ.t 9))).setRow w.heap.size (dz (A++Z) (i*e.size) news).toArray).drew.setRow w.heap.size (dz (dz (A++Z) (i*e.size) news) ((i+1)*e.size) mid).toArray) nc sm
      (fun b hb hn=>(setRow_other _ _ (by omega)).trans ((setRow_other _ _ (by omega)).trans (alloc_old w.drew _ hb))) (by rw[setRow_size];show _≤(World.setRow _ _ _).heap.size;rw[setRow_size,kZ];exact aBd _) (fun h=>absurd h (aBN _)) rfl rfl rfl (setRow_heap _ _ _ _ _ _ hg') (by omega) (by rw[hyl];exact OD) gY
      (by
       rw[HA,azA]
       have hmul:(ka-i)*e.size=ka*e.size-i*e.size:=aBe _ _ _
       have hci:i*e.size≤ka*e.size:=azy _ (by omega)
       simp only[ayH,aza,Nd,Dg,Ac,hZl,hmul,aBe]at hZk ⊢
       omega)
      (by rw[HA];exact Nf _)
     rw[hyl]at this
     simpa [g5,dK,AM.fY]using this
end VM
end
section
namespace VM
open Go Go.Shelf Go.RowKit Go.Lib Go.Proofs
variable{P:Program}{ρ:Ren}
noncomputable def Ru(ρ:Ren)(fn:Func):Func:={fn with body:=(Body2.n15 ρ).body,ntmps:=8,results:=(Body2.n15 ρ).results,nfree:=0}
theorem yg(ρ:Ren)(fn:Func):(Ru ρ fn).ntmps=8:=rfl
structure Fe(P:Program)(e:Ty)(ρ:Ren)(f:FuncId)(fn:Func):Prop where
 hf:P.funcs[f]? =some (Ru ρ fn)
 t4:P.underlying (ρ.t 4)=some .bool
 t22:P.underlying (ρ.t 22)=some (.slice (ρ.t 3))
 lay:g6 P e (ρ.t 3)
 m0:0<e.size
 mixed:P.follows .mixedOrders=true
set_option maxHeartbeats 4000000 in
set_option maxRecDepth 100000 in
theorem OM{e:Ty}{f:FuncId}{fn:Func}(L:Fe P e ρ f fn)(w:World)(n c:Nat):
  Calls P f #[.slice none n c] w fun r w2=>r= .returned (.slice none 0 0)∧w2=w:=by
 have u22:=run_underlying L.t22
 have t4:=L.t4;have t22:=L.t22
 have z3:=fun w=>cw L.lay w
 have mixed:=L.mixed
 have q22: ∀(w:World) (a:Option Addr) (n c n' c':Nat),(binOp .eql (ρ.t 22) (.slice a n c) (.slice none n' c')).run P w= .ok (.bool a.isNone) w:=fun w a n c n' c'=>Lib.run_eql_slice_nil w _ _ a n c n' c' L.t22
 go_enter L.hf,yg ρ fn
 go_wp2
 go_ret
 exact⟨rfl,rfl⟩
set_option maxHeartbeats 4000000 in
set_option maxRecDepth 100000 in
theorem AN{e:Ty}{f:FuncId}{fn:Func}(L:Fe P e ρ f fn)(w:World)(a:Addr)(n c:Nat)(v':Value)(w':World)
  (Hd: ∀ty,(Builtin.append_ #[ρ.t 22,ρ.t 22] ty #[.slice (some ⟨w.heap.size,0,none⟩) 0 0,.slice (some a) n c]).run P (w.alloc (.cells #[] (ρ.t 3)))= .ok v' w'):
   Calls P f #[.slice (some a) n c] w fun r w2=>r= .returned v'∧w2=w':=by
 have u22:=run_underlying L.t22
 have t4:=L.t4;have t22:=L.t22
 have z3:=fun w=>cw L.lay w
 have mixed:=L.mixed
 have q22: ∀(w:World) (a:Option Addr) (n c n' c':Nat),(binOp .eql (ρ.t 22) (.slice a n c) (.slice none n' c')).run P w= .ok (.bool a.isNone) w:=fun w a n c n' c'=>Lib.run_eql_slice_nil w _ _ a n c n' c' L.t22
 obtain⟨ab,ao,asp⟩:=a
 go_enter L.hf,yg ρ fn
 go_wp2_with (at_builtin;refine Lib.wpList_append_run _ rfl _ _ _ _ rfl _ _ rfl rfl _ _ (Hd _) ?_)
 all_goals (go_ret;exact⟨rfl,rfl⟩)
theorem Rv{w w':World}{M0:Nat→Prop}{e:Ty}(a:Option Addr)(nc: ∀b,M0 b→b<w.heap.size)(T9: ∀b,b<w.heap.size→w'.heap[b]? =w.heap[b]?)(qp:w.heap.size≤w'.heap.size)
  (hos:w'.os=w.os) (htp:w'.tape=w.tape) (EY:w'.output=w.output):
  ∃us M',Value.slice a 0 0=si us∧RR w' M' [.own e] ([]:List e.den) us []∧Left w M0 [] w' M'∧(bk [.own e] us []).Nodup∧ ∀b∈bk [.own e] us [],¬M0 b:=by
 have tW:bk [.own e] [Value.slice a 0 0] []=[]:=by
  cases a<;>simp[bk,cN,AM.fY,eJ]
 refine⟨[.slice a 0 0],M0,rfl,?_,?_,?_,?_⟩
 ·simp only[RR]
  refine .inr ⟨_,[],rfl,rfl,rfl,?_,rfl,trivial⟩
  simp only[A1,ER,rQ]
  exact .inl ⟨trivial,a,rfl⟩
 ·exact⟨fun b h=>h,fun b h=>azP (nc b h) qp,fun b hb h=> .inl h,fun b hb _=>T9 b hb,qp,hos,htp,EY⟩
 ·rw[tW];simp
 ·rw[tW];simp
theorem nE{e:Ty}{f:FuncId}{fn:Func}(L:Fe P e ρ f fn)(vA:(fn.name== "runtime.NumGoroutine")=false)(Rs:(Body2.n15 ρ).body.isNone=false)(N:Nat):fh P f (rZ e N):=by
 refine⟨(fun h=>by cases h),rfl,fun M0 w vs x y nc hA vx sm hy=> ?_⟩
 have Rb:kU N x=some y:=hy
 clear hy
 obtain⟨v0,QR,rfl,h0,h2⟩:=hA
 have h2:QR=[]:=h2
 subst h2
 replace h0:V w (fun b=>M0 b∨b∈([]:List Nat)) (.slice e) v0 x:=h0
 unfold kU at Rb
 split at Rb
 case isFalse=>cases Rb
 rename_i Fb
 cases Rb
 have hbn:(Ru ρ fn).body.isNone=false:=Rs
 have hh:cW (rZ e N).args [v0]=[]:=rfl
 rw[hh]at sm ⊢
 refine pD L.hf vA hbn ?_
 obtain⟨i,hi,qp,hz,hby⟩:=L.lay.base
 have hS:=Src.Uu h0
 by_cases hx:x=[]
 ·obtain⟨a,cp,hv,_⟩:=hS
  subst hv
  rw[hx]
  cases a with
  |none=>
   refine(OM L w _ cp).mono ?_
   rintro e1 w' ⟨rfl,rfl⟩
   exact⟨_,rfl,Rv none nc (fun _ _=>rfl) (ayJ _) rfl rfl rfl⟩
  |some a=>
   refine(AN L w a _ cp _ _ (fun ty=>o1 (P:=P) (w:=w.alloc (.cells #[] (ρ.t 3))) L.t22 hi (some ⟨w.heap.size,0,none⟩) 0 0 (ayJ _) (some a) cp)).mono ?_
   rintro e1 w' ⟨rfl,rfl⟩
   exact⟨_,rfl,Rv _ nc (fun b hb=>alloc_old w _ hb) (by rw[kZ];exact aBd _) rfl rfl rfl⟩
 ·obtain⟨b,off,cp,news,hv,hl,lG,iu,h1⟩:=hS.cells hx
  have KY:0<x.length:=azQ.2 hx
  subst hv
  obtain⟨ka,rest,cT,OD,gY,Kr⟩:=AL (P:=P) (w:=w.alloc (.cells #[] (ρ.t 3))) L.t22 L.lay (n:=0) (m:=x.length) (cap:=0) (cp:=cp) (olds:=[]) (news:=news) (base:=some ⟨w.heap.size,0,none⟩) (a':=⟨b,off,none⟩) (fun h=>by cases h) (by simp) (fun _ _ j u hj=>by simp at hj) hl
   (fun j u hj=>by rw[Addr.add_lit];exact Lib.cell?_alloc_some _ (lG j u hj)) (by omega) (by omega)
  refine(AN L w ⟨b,off,none⟩ _ cp _ _ cT).mono ?_
  rintro e1 w' ⟨rfl,rfl⟩
  refine⟨_,rfl,?_⟩
  simp only[azH]at OD Kr ⊢
  have MU:(w.alloc (.cells #[] (ρ.t 3))).heap.size=w.heap.size+1:=kZ w _
  exact s9 (e:=e) (rb:=(w.alloc (.cells #[] (ρ.t 3))).heap.size) (cap:=ka) (l:=x) (t:=ρ.t 3) (w:=w) (w':=(w.alloc (.cells #[] (ρ.t 3))).drew.alloc (.cells ([]++news++rest).toArray (ρ.t 3))) nc sm
   (fun b hb _=>(alloc_old (w.alloc (.cells #[] (ρ.t 3))).drew _ (by show b<(w.alloc (.cells #[] (ρ.t 3))).heap.size;omega)).trans (alloc_old w _ hb))
   (by rw[kZ];show w.heap.size≤(w.alloc (.cells #[] (ρ.t 3))).heap.size+1;omega) (fun h=>by omega) rfl rfl rfl (nD (w.alloc (.cells #[] (ρ.t 3))).drew _) (by omega) OD gY
   (by simp only[ay8,azA,ayH,hl,Kr,←azx];congr 1;omega) (by simpa using nQ.more (cs':=rest) (show nQ w (fun b=>M0 b∨b∈([]:List Nat)) e news x from iu) (by rw[hl];exact ayJ _))
end VM
end
