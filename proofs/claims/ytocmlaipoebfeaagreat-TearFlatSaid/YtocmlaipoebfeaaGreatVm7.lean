/- A part of the proof of TearFlat of layer 29: a machine that reads a function of the program as an equation between values. -/
import Derived.Test.YtocmlaipoebfeaaGreatVm6
import Derived.KernelRfl
import Derived.Test.YtocmlaipoebfeaaGreatVm0
import Derived.Laws.Externs
import Derived.Shelf.Spec.SlicesInsertGrow
set_option linter.all false
noncomputable section
section
namespace VM
open Go
@[reducible] def CM.arr:CM→Type→Type
 | .v τ,T| .obj τ,T| .io τ,T| .fn _ τ,T=>τ.den→T
 | .own e,T=>List e.den→T
 | .gk τ _ e,T=>τ.den→List e.den→T
 | .same _,T=>T
@[reducible] def U1:List (Nat×CM)→Type→Type
 |[],R=>R
 |q::r,R=>q.2.arr (U1 r R)
def CM.lam{T:Type}(s:Nat)(σ:St):(m:CM)→(St→T)→m.arr T
 | .v τ,f=>λx=>f (σ.put s (.val τ x))
 | .own e,f=>λx=>f ((σ.put s (.ref (16*s+14))).jU (16*s+14) (some (.own e x)))
 | .obj τ,f=>λx=>f ((σ.put s (.jr (16*s+14) [])).jU (16*s+14) (some (.obj τ x)))
 | .gk τ q e,f=>λx l=>f (((σ.put s (.jr (16*s+14) [])).jU (16*s+13) (some (.own e l))).jU (16*s+14) (some (.gk τ x q (16*s+13))))
 | .io τ,f=>λx=>f ((σ.put s (.jr (16*s+15) [])).jU (16*s+15) (some (.obj τ x)))
 | .fn g τ,f=>λx=>f (σ.put s (.LR g (pW τ x)))
 | .same s',f=>f (σ.put s (σ.T s'))
def amD{R:Type}(κ:St→R):(L:List (Nat×CM))→St→U1 L R
 |[],σ=>κ σ
 |q::r,σ=>q.2.lam q.1 σ (amD κ r)
@[reducible] def yR:List AM→Type→Type
 |[],R=>R
 |m::r,R=>m.den→yR r R
def J4{R:Type}:(ms:List AM)→yR ms R→HP ms→R
 |[],g,_=>g
 |[_],g,x=>g x
 |_::n::ms,g,x=>J4 (n::ms) (g x.1) x.2
def Tn{R:Type}:(ms:List AM)→(HP ms→R)→yR ms R
 |[],f=>f ()
 |[_],f=>f
 |_::n::ms,f=>λx=>Tn (n::ms) λy=>f (x,y)
theorem J5{R:Type}: ∀(ms:List AM) (f:HP ms→R) (x:HP ms),J4 ms (Tn ms f) x=f x
 |[],_,()=>rfl
 |[_],_,_=>rfl
 |_::n::ms,f,x=>J5 (n::ms) (λy=>f (x.1,y)) x.2
structure Pc where
 k:Nat
 c:List (Nat×CM)
 path:List Nat
 ks:List Nat
def V6:List Pc→Nat→Pc
 |[],_=>⟨0,[],[],[]⟩
 |p::r,k=>cond (Nat.beq k p.k) p (V6 r k)
def MK:List Pc→Nat→Option (List (Nat×CM))
 |[],_=>none
 |p::r,k=>cond (Nat.beq k p.k) (some p.c) (MK r k)
def Bx:List (Nat×lJ)→Nat→List lJ
 |[],_=>[]
 |q::r,i=>cond (Nat.beq i q.1) (q.2::Bx r i) (Bx r i)
def Fo:List AM→Nat→List Nat
 |[],_=>[]
 | .io _::r,i=>i::Fo r (i+1)
 | .lo _::r,i=>i::Fo r (i+1)
 |_::r,i=>Fo r (i+1)
structure Fx where
 nt:Nat
 tab:List (Nat×Ty)
 G:List (Nat×lJ)
 N:Nat
 fn:Func
 args:List AM
 res:List AM
 pcs:List Pc
 lk:Option (Ty×List Step×Ty×List Nat):=none
namespace Fx
variable(X:Fx)
abbrev R:=Option (HP X.res)
def E:Env:={nt:=X.nt,ty:=λi=>MJ i X.tab,Γ:=Bx X.G,N:=X.N,wz:=λr=>MK X.pcs (2*r+1),xZ:=λr=>MK X.pcs (2*r),io:=Fo X.args 0,lk:=X.lk}
@[reducible] def c(i:Nat):List (Nat×CM):=(V6 X.pcs i).c
def path(i:Nat):List Nat:=(V6 X.pcs i).path
def odd(i:Nat):Bool:=Nat.beq (i%2) 1
def cut(ρ:Nat→St→X.R)(l:Nat):St→X.R:=fun σ=>wD (some (X.c l)) σ (ρ l)
def ks(ρ:Nat→St→X.R)(i:Nat):List (St→X.R):=(V6 X.pcs i).ks.map (X.cut ρ)
def lp(ρ:Nat→St→X.R)(i n:Nat):St→X.R:=lpF X.E X.fn X.args X.res (X.c i) (X.path i) (X.ks ρ i) n
def bW(ρ:Nat→St→X.R)(i:Nat):St→X.R:=cond (odd i) (X.lp ρ i X.N) (atF X.E X.fn X.args X.res (X.path i) (X.ks ρ i))
def own(ρ:Nat→St→X.R)(i:Nat):List (St→X.R):=X.ks ρ i++cond (odd i) [X.cut ρ i] []
def ML(K ρ:Nat→St→X.R)(i:Nat):St→X.R:=atQ X.E X.fn X.args X.res (λr=>K (2*r)) (λr=>K (2*r+1)) (X.path i) (X.own ρ i)
def tl(K ρ:Nat→St→X.R)(i:Nat):List ((St→X.R)×(St→X.R)):=wT X.E (λr=>K (2*r)) (λr=>K (2*r+1)) (ZI X.E X.fn X.args X.res (X.path i) (X.own ρ i))
@[reducible] def cu(i:Nat)(κ:St→X.R):U1 (X.c i) X.R:=amD κ (X.c i) S0
@[reducible] def bd(K ρ:Nat→St→X.R)(i:Nat):U1 (X.c i) X.R:=X.cu i (X.ML K ρ i)
@[reducible] def kc(ρ:Nat→St→X.R)(i:Nat):U1 (X.c i) X.R:=X.cu i (ρ i)
def CH:Nat→St→X.R:=λ_ _=>none
def top(K:Nat→St→X.R):yR X.args X.R:=Tn X.args λx=>atQ X.E X.fn X.args X.res (λr=>K (2*r)) (λr=>K (2*r+1)) [] [] (entry X.args x 0 S0)
def tlT(K:Nat→St→X.R):List ((St→X.R)×(St→X.R)):=wT X.E (λr=>K (2*r)) (λr=>K (2*r+1)) (ZI X.E X.fn X.args X.res [] [])
def S(q:Bool)(g:yR X.args X.R):lJ:={args:=X.args,res:=X.res,quiet:=q,run:=J4 X.args g}
variable{X}
theorem ZJ(f:Nat→St→X.R): ∀sl:List Nat,Tl (sl.map λt=>(f t,f t))
 |[]=>trivial
 |_::r=>⟨rfl,ZJ f r⟩
theorem okJ{i:Nat}(sl:List Nat)(hi:odd i=false)(hr: ∀K ρ,X.tl K ρ i=sl.map λt=>(K t,X.bW ρ t)){g:(Nat→St→X.R)→(Nat→St→X.R)→U1 (X.c i) X.R}(h: ∀K ρ,X.bd K ρ i=g K ρ)(ρ:Nat→St→X.R):X.kc (X.bW ρ) i=g (X.bW ρ) ρ:=by
 rw[←h]
 have:X.bW ρ i=X.ML (X.bW ρ) ρ i:=by
  funext σ
  have h1:=hr (X.bW ρ) ρ
  unfold tl own at h1
  rw[hi,ar,cK]at h1
  unfold ML own
  rw[hi,ar,cK]
  rw[←at_eq X.E X.fn X.args X.res h1 (ZJ (X.bW ρ) sl) σ]
  unfold bW;rw[hi];rfl
 unfold kc bd
 rw[this]
def okb(X:Fx)(i:Nat):Bool:=odd i&&(V6 X.pcs i).ks.all λl=> !(Nat.beq l i)
theorem okL{i:Nat}(sl:List Nat)(hi:okb X i=true)(hr: ∀K ρ,X.tl K ρ i=sl.map λt=>(K t,X.bW ρ t)){g:(Nat→St→X.R)→(Nat→St→X.R)→U1 (X.c i) X.R}(h: ∀K ρ,X.bd K ρ i=g K ρ)(ρ:Nat→St→X.R)
  (G:Nat→U1 (X.c i) X.R) (h0:X.cu i (λ_=>none)=G 0) (hs: ∀n ρ',X.kc ρ' i=G n→(∀l,Nat.beq l i=false→X.kc ρ' l=X.kc ρ l)→g (X.bW ρ') ρ'=G (n+1)):X.kc (X.bW ρ) i=G X.N:=by
 unfold okb at hi
 rw[bP]at hi
 obtain⟨hi,hk⟩:=hi
 have key: ∀n,X.cu i (X.lp ρ i n)=G n:=by
  intro n
  induction n with
  |zero=>exact h0
  |succ n ih=>
   let ρ':Nat→St→X.R:=λl=>cond (Nat.beq l i) (X.lp ρ i n) (ρ l)
   have e1:ρ' i=X.lp ρ i n:=by show cond (Nat.beq i i) _ _=_;rw[tK];rfl
   have e2: ∀l,Nat.beq l i=false→ρ' l=ρ l:=λl hl=>by show cond (Nat.beq l i) _ _=_;rw[hl];rfl
   rw[←hs n ρ' (by unfold kc;rw[e1];exact ih) (λl hl=>by unfold kc;rw[e2 l hl]),←h]
   have e3:X.ks ρ' i=X.ks ρ i:=by
    unfold ks
    refine qJ λl hl=> ?_
    have:=qO.1 hk l hl
    unfold cut
    rw[e2 l (by simpa using this)]
   have:X.lp ρ i (n+1)=X.ML (X.bW ρ') ρ' i:=by
    funext σ
    have h1:=hr (X.bW ρ') ρ'
    unfold tl own at h1
    rw[hi,ak]at h1
    unfold ML own
    rw[hi,ak]
    rw[←at_eq X.E X.fn X.args X.res h1 (ZJ (X.bW ρ') sl) σ]
    unfold lp
    rw[V2,e3]
    unfold cut
    rw[e1];rfl
   unfold bd
   rw[this]
 have:X.bW ρ i=X.lp ρ i X.N:=by unfold bW;rw[hi];rfl
 unfold kc
 rw[this];exact key _
def J6(P:Program):List (Nat×lJ)→Prop
 |[]=>True
 |q::r=>iy P q.1 q.2∧J6 P r
structure _root_.VM.Kn(P:Program) where
 f:Nat
 S:lJ
 ok:iy P f S
def _root_.VM.Kn.p{P:Program}(k:Kn P):Nat×lJ:=(k.f,k.S)
def _root_.VM.Kn.l{P:Program}:List (Kn P)→List (Nat×lJ)
 |[]=>[]
 |k::r=>k.p::Kn.l r
theorem _root_.VM.Kn.all{P:Program}: ∀l:List (Kn P),J6 P (Kn.l l)
 |[]=>trivial
 |k::r=>⟨k.ok,Kn.all r⟩
theorem By{P:Program}: ∀{l:List (Nat×lJ)},J6 P l→ ∀f S,S∈Bx l f→iy P f S
 |[],_,f,S,h=>by simp[Bx]at h
 |q::r,ha,f,S,h=>by
  unfold Bx at h
  cases hb:Nat.beq f q.1<;>rw[hb]at h
  ·exact By ha.2 f S h
  ·rcases aX.1 h with rfl|h
   ·rw[fV hb];exact ha.1
   ·exact By ha.2 f S h
theorem Fp: ∀{l:List Pc},(l.all λp=>kg p.c)=true→ ∀i L,MK l i=some L→kg L=true
 |q::r,ha,i,L,h=>by
  rw[EK,bP]at ha
  unfold MK at h
  cases hb:Nat.beq i q.k<;>rw[hb]at h
  ·exact Fp ha.2 i L h
  ·cases h;exact ha.1
def chk(X:Fx)(q:Bool):Bool:=(X.pcs.all λp=>kg p.c)&&((!(X.fn.name== "runtime.NumGoroutine")&&Nat.beq X.nt X.fn.ntmps)&&(X.fn.body.isSome&&(Nat.ble X.args.length X.nt&&((!q||X.res.all AM.flat)&&decide (nC X.args=nC X.res)))))
theorem MM: ∀{ms:List AM} {k i:Nat} {m:AM},ms[i]? =some m→m.iJ=true→k+i∈Fo ms k
 |[],_,_,_,h,_=>by simp at h
 |m::ms,k,0,m',h,vH=>by
  simp only[LF,iC]at h
  subst h
  cases m<;>simp[AM.iJ]at vH<;>simp[Fo]
 |m::ms,k,i+1,m',h,vH=>by
  have:=MM (ms:=ms) (k:=k+1) (i:=i) (by simpa using h) vH
  rw[show k+(i+1)=k+1+i from by omega]
  cases m<;>simp only[Fo]<;>first|exact a8 _ this|exact this
theorem RP: ∀{ms:List AM} {k i:Nat},i∈Fo ms k→i<k+ms.length
 |[],_,_,h=>by simp[Fo]at h
 |m::ms,k,i,h=>by
  have hr:i∈Fo ms (k+1)→i<k+(m::ms).length:=λh=>by have:=RP h;simp only[aW];omega
  cases m<;>simp only[Fo]at h<;>first
   |exact hr h
   |(rcases aX.1 h with rfl|h<;>first|exact hr h|(simp only[aW];omega))
variable(X)in
theorem RQ{P:Program}(ht:Fm P X.tab)(hG:J6 P X.G)(hc:(X.pcs.all λp=>kg p.c)=true):tZ P X.E:=by
 have lM: ∀t τ,MJ t X.tab=some τ→ub P τ (.inl t)=true∧ZG P τ t=true:=λt τ h=>by
  have:=qO.1 ht.ok _ (Iu h)
  simpa using this
 exact{ty:=λt τ h=>gR (lM t τ h).1,eq:=λt τ h hc ha=>ZH (gR (lM t τ h).1) (lM t τ h).2 hc ha,ame:=By hG,mixed:=ht.mixed,kg:=λi L h=>Fp hc _ L h,Vz:=λi L h=>Fp hc _ L h}
theorem mkS{P:Program}(ht:Fm P X.tab){f:FuncId}(hf:P.funcs[f]? =some X.fn){q:Bool}(hc:chk X q=true)(hG:J6 P X.G){g:yR X.args X.R}(h: ∀x,Pw X.E X.fn X.args X.res x=J4 X.args g x):iy P f (X.S q g):=by
 unfold chk at hc
 simp only[bP]at hc
 obtain⟨h0,⟨h1,h2⟩,h3,h4,h5,h6⟩:=hc
 refine VU (RQ X ht hG h0) hf (by simpa using h1) (fV h2) (X.S q g) (λi m hm vH=> ?_) (λi hi=> ?_) ?_ (λhq=> ?_) (bF h6) h
 ·have:=MM (k:=0) hm vH
  rwa [gq]at this
 ·have:=RP (k:=0) hi
  rwa [gq]at this
 ·have:=Ez h4
  rwa [fV h2]at this
 ·have hq:q=true:=hq
  subst hq
  show X.res.all AM.flat=true
  simpa using h5
theorem ahD{g:yR X.args X.R}(h:Tn X.args (Pw X.E X.fn X.args X.res)=g)(x:HP X.args):Pw X.E X.fn X.args X.res x=J4 X.args g x:=by rw[←h,J5]
variable(X)in
theorem ok0{P:Program}(ht:Fm P X.tab){f:FuncId}(hf:P.funcs[f]? =some X.fn){q:Bool}(hc:chk X q=true)(hG:J6 P X.G){g:yR X.args X.R}(h:Tn X.args (Pw X.E X.fn X.args X.res)=g):iy P f (X.S q g):=
 mkS ht hf hc hG (ahD h)
theorem amE(hb:X.fn.body.isSome=true)(sl:List Nat)(hr: ∀K,X.tlT K=sl.map λt=>(K t,X.bW X.CH t))
  {g:(Nat→St→X.R)→yR X.args X.R} (h: ∀K,X.top K=g K) {f:yR X.args X.R} (hf:g (X.bW X.CH)=f) (x:HP X.args):Pw X.E X.fn X.args X.res x=J4 X.args f x:=by
 rw[←hf,←h,ahB hb]
 unfold top
 rw[J5]
 exact at_eq X.E X.fn X.args X.res (hr (X.bW X.CH)) (ZJ (X.bW X.CH) sl) _
variable(X)in
theorem ok1{P:Program}(ht:Fm P X.tab){f:FuncId}(hf:P.funcs[f]? =some X.fn){q:Bool}(hc:chk X q=true)(hG:J6 P X.G)(sl:List Nat)(hr: ∀K,X.tlT K=sl.map λt=>(K t,X.bW X.CH t))
  {g:(Nat→St→X.R)→yR X.args X.R} (h: ∀K,X.top K=g K) {f':yR X.args X.R} (Bk:g (X.bW X.CH)=f'):iy P f (X.S q f'):=by
 have hb:X.fn.body.isSome=true:=by
  unfold chk at hc
  simp only[bP]at hc
  exact hc.2.2.1
 exact mkS ht hf hc hG (amE hb sl hr h Bk)
theorem uJ{i:Nat}(sl:List Nat){g:(Nat→St→X.R)→(Nat→St→X.R)→U1 (X.c i) X.R}(h: ∀K ρ,X.bd K ρ i=g K ρ)(ρ:Nat→St→X.R){f:U1 (X.c i) X.R}(hf:g (X.bW ρ) ρ=f:=by rfl)
 (hi:odd i=false:=by kernel_rfl) (hr: ∀K ρ,X.tl K ρ i=sl.map λt=>(K t,X.bW ρ t):=by intro K ρ;kernel_rfl):X.kc (X.bW ρ) i=f:=(okJ sl hi hr h ρ).trans hf
theorem uL{i:Nat}(sl:List Nat){g:(Nat→St→X.R)→(Nat→St→X.R)→U1 (X.c i) X.R}(h: ∀K ρ,X.bd K ρ i=g K ρ)(ρ:Nat→St→X.R)
 (G:Nat→U1 (X.c i) X.R) (hs: ∀n ρ',X.kc ρ' i=G n→(∀l,Nat.beq l i=false→X.kc ρ' l=X.kc ρ l)→g (X.bW ρ') ρ'=G (n+1)) (h0:X.cu i (λ_=>none)=G 0:=by rfl)
 (hi:okb X i=true:=by kernel_rfl) (hr: ∀K ρ,X.tl K ρ i=sl.map λt=>(K t,X.bW ρ t):=by intro K ρ;kernel_rfl):X.kc (X.bW ρ) i=G X.N:=okL sl hi hr h ρ G h0 hs
variable(X)in
theorem u0{P:Program}(ht:Fm P X.tab){f:FuncId}(hf:P.funcs[f]? =some X.fn){q:Bool}{g:yR X.args X.R}(hG:J6 P X.G:=by first|exact trivial|exact Kn.all _)(hc:chk X q=true:=by kernel_rfl)(h:Tn X.args (Pw X.E X.fn X.args X.res)=g:=by kernel_rfl):iy P f (X.S q g):=ok0 X ht hf hc hG h
variable(X)in
theorem u1{P:Program}(ht:Fm P X.tab){f:FuncId}(hf:P.funcs[f]? =some X.fn)(sl:List Nat)
 {g:(Nat→St→X.R)→yR X.args X.R} (h: ∀K,X.top K=g K) {q:Bool} {f':yR X.args X.R} (Bk:g (X.bW X.CH)=f':=by rfl) (hG:J6 P X.G:=by first|exact trivial|exact Kn.all _) (hc:chk X q=true:=by kernel_rfl) (hr: ∀K,X.tlT K=sl.map λt=>(K t,X.bW X.CH t):=by intro K;kernel_rfl):iy P f (X.S q f'):=ok1 X ht hf hc hG sl hr h Bk
end Fx
end VM
end
section
namespace VM
open Go
variable{P:Program}
theorem Left.same(w:World)(M0:Nat→Prop)(h: ∀b,M0 b→b<w.heap.size):Left w M0 [] w M0:=
 ⟨λ_ h=>h,h,λ_ _ h=> .inl h,λ_ _ _=>rfl,aI _,rfl,rfl,rfl⟩
theorem amF{w:World}{M:Nat→Prop}{a b c:IntKind}{x:HP [.v (.int a),.v (.int b),.v (.int c)]}{vs:List Value}(h:jL w M [.v (.int a),.v (.int b),.v (.int c)] x vs):vs=[.int a x.1,.int b x.2.1,.int c x.2.2]:=by
 simp only[jL,A1,V,Ty.isAgg,jd,fa,Rd,fv,ec]at h
 obtain⟨v,vs,rfl,rfl,v,vs,rfl,rfl,v,vs,rfl,rfl,rfl⟩:=h
 rfl
theorem rr2{w:World}{M:Nat→Prop}{a b:IntKind}(x y:Int):RR w M [.v (.int a),.v (.int b)] (x,y) [.int a x,.int b y] []:=by
 simp only[RR]
 refine .inr ⟨_,_,rfl,rfl,rfl,?_,.inr ⟨_,_,rfl,rfl,rfl,?_,rfl,trivial⟩⟩<;>simp[A1,V,Ty.isAgg,Rd,tz,yf]
theorem RS{f:FuncId}(run:Int×Int×Int→Option (Int×Int))
  (h: ∀(w:World) (a b c u v:Int),run (a,b,c)=some (u,v)→(callFunc f #[.int .u64 a,.int .u64 b,.int .u64 c]).run P w= .ok (.value (.tuple #[.int .u64 u,.int .u64 v])) w):
  iy P f {args:=[.v (.int .u64),.v (.int .u64),.v (.int .u64)],res:=[.v (.int .u64),.v (.int .u64)],quiet:=true,run}:=by
 refine⟨λ_=>rfl,rfl,λM0 w vs x y sj hA _ _ hy=> ?_⟩
 have Zd:=amF hA
 subst Zd
 exact HA (h w x.1 x.2.1 x.2.2 y.1 y.2 hy) ⟨_,M0,rfl,rr2 y.1 y.2,Left.same w M0 sj,List.nodup_nil,λb hb=>by cases hb⟩
theorem Bz(nm:String)(a b c:Nat)(h:c≤1)(w:World):(Extern.MathBitsCarry.three nm #[.int .u64 a,.int .u64 b,.int .u64 c]).run P w= .ok (a,b,c) w:=by
 have h5: ¬(1<c):=ω
 have:Extern.MathBitsCarry.three nm #[.int .u64 a,.int .u64 b,.int .u64 c]=(do
  let c:=(←asInt (.int .u64 c)).toNat
  if c>1 then unsupported (.noEntry ("extern/math/bits." ++nm++ ": a carry that is neither 0 nor 1"))
  pure ((←asInt (.int .u64 a)).toNat,(←asInt (.int .u64 b)).toNat,c)):=rfl
 rw[this]
 simp[asInt,asIntOf]
 omega
theorem To{f:FuncId}{fn:Func}(N:Nat)(hf:P.funcs[f]? =some fn)(Ad:(fn.name== "runtime.NumGoroutine")=false)(hb:fn.body.isNone=true)(hn:Extern.findNext fn=none)
  (he:Extern.find fn=(Extern.MathBitsCarry.rows[0]?).map (·.2)):iy P f (vB.S N):=by
 refine RS (λx=>vB N x.1 x.2.1 x.2.2) λw a b c u v hy=> ?_
 simp only[vB]at hy
 split at hy
 ·rename_i hc
  obtain⟨h1,h2,h3,h4⟩:=hc
  obtain⟨a,rfl⟩:=uM h1
  obtain⟨b,rfl⟩:=uM h2
  obtain⟨c,rfl⟩:=uM h3
  cases hy
  rw[run_callFunc_extern hf Ad hb hn he]
  simp[Bz _ a b c ω,Extern.MathBitsCarry.pair,Extern.MathBitsCarry.m64]
 ·cases hy
theorem Tp{f:FuncId}{fn:Func}(N:Nat)(hf:P.funcs[f]? =some fn)(Ad:(fn.name== "runtime.NumGoroutine")=false)(hb:fn.body.isNone=true)(hn:Extern.findNext fn=none)
  (he:Extern.find fn=(Extern.MathBitsCarry.rows[1]?).map (·.2)):iy P f (vC.S N):=by
 refine RS (λx=>vC N x.1 x.2.1 x.2.2) λw a b c u v hy=> ?_
 simp only[vC]at hy
 split at hy
 ·rename_i hc
  obtain⟨h1,p8,h2,yz,h3,h4⟩:=hc
  obtain⟨a,rfl⟩:=uM h1
  obtain⟨b,rfl⟩:=uM h2
  obtain⟨c,rfl⟩:=uM h3
  cases hy
  rw[run_callFunc_extern hf Ad hb hn he]
  have e1:((a+18446744073709551616-b-c:Nat):Int)=(a:Int)+18446744073709551616-b-c:=ω
  by_cases h:a<b+c
  ·have h':(a:Int)<(b:Int)+(c:Int):=ω
   simp[Bz _ a b c ω,Extern.MathBitsCarry.pair,Extern.MathBitsCarry.m64,e1,h,h']
  ·have h': ¬(a:Int)<(b:Int)+(c:Int):=ω
   simp[Bz _ a b c ω,Extern.MathBitsCarry.pair,Extern.MathBitsCarry.m64,e1,h,h']
 ·cases hy
end VM
end
section
namespace VM
open Go Go.Shelf Go.RowKit Go.Lib Go.Proofs
variable{P:Program}{ρ:Ren}
def V7(ρ:Ren)(fn:Func):Func:={fn with body:=(Body2.n22 ρ).body,ntmps:=95,results:=(Body2.n22 ρ).results,nfree:=0}
theorem wU(ρ:Ren)(fn:Func):(V7 ρ fn).ntmps=95:=rfl
structure P9(P:Program)(e:Ty)(ρ:Ren)(f:FuncId)(fn fo:Func):Prop where
 hf:P.funcs[f]? =some (V7 ρ fn)
 t3:P.underlying (ρ.t 3)=some (.int .i64)
 t4:P.underlying (ρ.t 4)=some .bool
 t24:P.underlying (ρ.t 24)=some (.slice (ρ.t 9))
 lay:kO P e (ρ.t 9)
 pY:0<e.size
 mixed:P.follows .mixedOrders=true
set_option maxHeartbeats 4000000 in
set_option maxRecDepth 100000 in
theorem J7{e:Ty}{f:FuncId}{fn fo:Func}(L:P9 P e ρ f fn fo)(w:World)(base:Option Addr)(n c m vc:Nat)(va:Addr)(v':Value)(w':World)(hm:0<m)(hn:n≤c)
  (Mr: ∀ty,(Builtin.append_ #[ρ.t 24,ρ.t 24] ty #[.slice base n c,.slice (some va) m vc]).run P w= .ok v' w'):
   Calls P f #[.slice base n c,.int .i64 n,.slice (some va) m vc] w λr w2=>r= .returned v'∧w2=w':=by
 have u3:=run_underlying L.t3;have u4:=run_underlying L.t4;have u24:=run_underlying L.t24
 have t3:=L.t3;have t4:=L.t4;have t24:=L.t24
 have z9:=λw=>dk L.lay w
 have mixed:=L.mixed
 have Cv: ¬((m:Int)=0):=ω
 go_enter L.hf,wU ρ fn
 cases base with
 |none=>
   go_wp2_with (at_builtin;refine Lib.wpList_append_run _ rfl _ _ _ _ rfl _ _ rfl rfl _ _ (Mr _) ?_)
   all_goals (go_ret;exact⟨rfl,rfl⟩)
 |some a=>
   obtain⟨ab,ao,asp⟩:=a
   go_wp2_with (at_builtin;refine Lib.wpList_append_run _ rfl _ _ _ _ rfl _ _ rfl rfl _ _ (Mr _) ?_)
   all_goals (go_ret;exact⟨rfl,rfl⟩)
theorem run_copy_row{t te e:TypeId}{k:Nat}(ht:P.underlying t=some (.slice e))(hk: ∀w,(Go.sizeOf e).run P w= .ok k w){W:World}{b o amG ash ahE amH n:Nat}{a:Addr}{cs:Array Value}(hg:W.heap[b]? =some (.cells cs te (0,0)))
  {news:List Value} (hnn:Nat.min ahE amG=n) (hl:news.length=n*k) (hn: ∀j u,news[j]? =some u→W.cell? (a.add j)=some u) (h1: ∀u∈news,u.oneCell'=true) (Mj:o+news.length≤cs.size) (ty:TypeId):
  (Builtin.copy_ #[t,t] ty #[.slice (some ⟨b,o,none⟩) amG ash,.slice (some a) ahE amH]).run P W= .ok (goInt n) (W.setRow b (fj cs.toList o news).toArray):=by
 have hf:=run_firstCells_some (P:=P) W k n a ahE amH news hl hn
 have EV:=run_storeCells_at (P:=P) b o te news 0 cs W hg ω h1
 simp only[nr]at EV
 simp[Builtin.copy_,run_underlying ht,hk,Builtin.lenOf,hnn,hf,EV,fj]
set_option maxHeartbeats 4000000 in
set_option maxRecDepth 100000 in
theorem Tq{e:Ty}{f:FuncId}{fn fo:Func}(L:P9 P e ρ f fn fo)(w:World)(b n c i m vc:Nat)(va:Addr)(J8 V8:Array Value)(hi:i<n)(hm:0<m)(hr:n+m≤c)(asi:c≤9223372036854775807)
  (hov: ∀x lb cb,(callFunc (ρ.f 29) #[.slice (some va) m vc,.slice (some ⟨b,x,none⟩) lb cb]).run P w= .ok (.value (.bool false)) w)
  (ZK: ∀ty dc sc,(Builtin.copy_ #[(ρ.t 24),(ρ.t 24)] ty #[.slice (some ⟨b,(i+m)*e.size,none⟩) (n+m-(i+m)) dc,.slice (some ⟨b,i*e.size,none⟩) (n+m-i) sc]).run P w.drew= .ok (goInt ((n-i:Nat):Int)) (w.drew.setRow b J8))
  (ZL: ∀W:World,W.heap=(w.setRow b J8).heap→ ∀ty dc,(Builtin.copy_ #[(ρ.t 24),(ρ.t 24)] ty #[.slice (some ⟨b,i*e.size,none⟩) (n+m-i) dc,.slice (some va) m vc]).run P W= .ok (goInt m) (W.setRow b V8)):
   Calls P f #[.slice (some ⟨b,0,none⟩) n c,.int .i64 i,.slice (some va) m vc] w λr w2=>r= .returned (.slice (some ⟨b,0,none⟩) (n+m) c)∧w2=(w.drew.setRow b J8).setRow b V8:=by
 have u3:=run_underlying L.t3;have u4:=run_underlying L.t4;have u24:=run_underlying L.t24
 have t3:=L.t3;have t4:=L.t4;have t24:=L.t24
 have z9:=λw=>dk L.lay w
 have mixed:=L.mixed
 have Cv: ¬((m:Int)=0):=ω
 have Hj: ¬((i:Int)=(n:Int)):=ω
 have hw1:IntKind.i64.wrap ((i:Int)+(m:Int))=(i:Int)+(m:Int):=by rw[IntKind.wrap_i64];omega
 have mG:(0:Int)≤(i:Int)+(m:Int):=ω
 have m4:i≤n:=ω
 have Th:((i:Int)+(m:Int)).toNat=i+m:=ω
 have tU: ¬(c=i+m):=ω
 have hb3:(i:Int)≤(n:Int)+(m:Int):=ω
 have hb4: ¬(c=i):=ω
 go_enter L.hf,wU ρ fn
 go_wp2_with (simp only[hov])
 go_region_law_o (refine step_copy_runI rfl _ _ (ρ.t 24) (ρ.t 24) rfl _ _ (by simp[Act.eval,Act.put]) (by simp[Act.eval,Act.put]) (ZK _ _ _) ?_)
 have h2:=ZL (w.drew.setRow b J8) rfl
 go_wp2
 go_ret
 exact⟨rfl,rfl⟩
set_option maxHeartbeats 4000000 in
set_option maxRecDepth 100000 in
theorem V9{e:Ty}{f:FuncId}{fn fo:Func}(L:P9 P e ρ f fn fo)(w:World)(b n c i m vc nb G:Nat)(va:Addr)(Ts J8 V8:Array Value)(hi:i<n)(hm:0<m)(hnc:n≤c)(hr:c<n+m)(asi:c≤9223372036854775807)(h63:n+m≤9223372036854775807)(hG:n+m≤G)(azo:G≤9223372036854775807)
  (Mr: ∀ty,(Builtin.append_ #[(ρ.t 24),(ρ.t 3)] ty #[.slice (some ⟨b,0,none⟩) i c,.int .i64 ((n:Int)+(m:Int)-(i:Int))]).run P w= .ok (.slice (some ⟨w.heap.size,0,none⟩) (n+m) G) (w.drew.alloc (.cells Ts (ρ.t 9))))
  (ZK: ∀W:World,W.heap=(w.alloc (.cells Ts (ρ.t 9))).heap→ ∀ty dc,(Builtin.copy_ #[(ρ.t 24),(ρ.t 24)] ty #[.slice (some ⟨w.heap.size,i*e.size,none⟩) (n+m-i) dc,.slice (some va) m vc]).run P W= .ok (goInt m) (W.setRow w.heap.size J8))
  (ZL: ∀W:World,W.heap=((w.alloc (.cells Ts (ρ.t 9))).setRow w.heap.size J8).heap→ ∀ty dc sc,(Builtin.copy_ #[(ρ.t 24),(ρ.t 24)] ty #[.slice (some ⟨w.heap.size,(i+m)*e.size,none⟩) (n+m-(i+m)) dc,.slice (some ⟨b,i*e.size,none⟩) (n-i) sc]).run P W= .ok (goInt ((n-i:Nat):Int)) (W.setRow w.heap.size V8)):
   Calls P f #[.slice (some ⟨b,0,none⟩) n c,.int .i64 i,.slice (some va) m vc] w λr w2=>r= .returned (.slice (some ⟨w.heap.size,0,none⟩) (n+m) G)∧w2=((w.drew.alloc (.cells Ts (ρ.t 9))).setRow w.heap.size J8).drew.setRow w.heap.size V8:=by
 have u3:=run_underlying L.t3;have u4:=run_underlying L.t4;have u24:=run_underlying L.t24
 have t3:=L.t3;have t4:=L.t4;have t24:=L.t24
 have z9:=λw=>dk L.lay w
 have mixed:=L.mixed
 have Cv: ¬((m:Int)=0):=ω
 have Hj: ¬((i:Int)=(n:Int)):=ω
 have hz3:(c:Int)<(n:Int)+(m:Int):=ω
 have hw1:IntKind.i64.wrap ((i:Int)+(m:Int))=(i:Int)+(m:Int):=by rw[IntKind.wrap_i64];omega
 have mG:(0:Int)≤(i:Int)+(m:Int):=ω
 have m4:i≤n:=ω
 have Th:((i:Int)+(m:Int)).toNat=i+m:=ω
 have hGi: ¬(G=i):=ω
 have azp: ¬(G=i+m):=ω
 have hci: ¬(c=i):=ω
 have hb3:(i:Int)≤(n:Int):=ω
 have h1:=ZK ((w.alloc (.cells Ts (ρ.t 9))).drew) rfl
 have h2:=ZL (((w.alloc (.cells Ts (ρ.t 9))).drew.setRow w.heap.size J8).drew) rfl
 go_enter L.hf,wU ρ fn
 go_wp2_with (first
   |(at_builtin;refine Lib.wpList_append_run _ rfl _ _ _ _ rfl _ _ rfl rfl _ _ (Mr _) ?_)
   |(at_builtin;refine wpList_copy_runI _ rfl _ _ (ρ.t 24) (ρ.t 24) rfl _ _ rfl rfl (ZK _ (by exact rfl) _ _) ?_)
   |(at_builtin;refine wpList_copy_runI _ rfl _ _ (ρ.t 24) (ρ.t 24) rfl _ _ rfl rfl (ZL _ (by exact rfl) _ _ _) ?_))
 go_region_law_o (refine step_copy_runI rfl _ _ (ρ.t 24) (ρ.t 24) rfl _ _ (by simp[Act.eval,Act.put]) (by simp[Act.eval,Act.put]) (h2 _ _ _) ?_)
 go_wp2
 go_ret
 exact⟨rfl,rfl⟩
theorem D4{α:Type}(A Z news:List α):fj (A++Z) A.length news=A++(news++Z.drop news.length):=by
 unfold fj
 rw[wi rfl,bM,←jJ,nj rfl]
theorem q5.amJ{w:World}{M:Nat→Prop}{e:Ty}{cs:List Value}{l:List e.den}(h:q5 w M e cs l)(i:Nat):q5 w M e (cs.take (i*e.size)) (l.take i):=by
 intro j hj
 rw[bO]at hj
 have:=eH (s:=e.size) (show j<i by omega)
 rw[qP,qQ,gZ ω,zy]
 exact h j ω
theorem q5.amK{w:World}{M:Nat→Prop}{e:Ty}{cs:List Value}{l:List e.den}(h:q5 w M e cs l)(i:Nat):q5 w M e ((cs.drop (i*e.size)).take ((l.length-i)*e.size)) (l.drop i):=by
 intro j hj
 rw[dI]at hj
 have:=eH (s:=e.size) hj
 rw[qP,qQ,gZ ω,jJ,zx,←eG]
 exact h (i+j) ω
theorem xA{w w':World}{M0:Nat→Prop}{hs:List Nat}{e:Ty}{rb cap:Nat}{row:Array Value}{t:TypeId}{l:List e.den}(sj: ∀b,M0 b→b<w.heap.size)(wR: ∀b∈hs,¬M0 b)
  (hfr: ∀b,b<w.heap.size→b∉hs→w'.heap[b]? =w.heap[b]?) (sh:w.heap.size≤w'.heap.size) (hrb:rb<w.heap.size→rb∈hs) (hos:w'.os=w.os) (htp:w'.tape=w.tape) (P0:w'.output=w.output)
  (P1:w'.heap[rb]? =some (.cells row t (0,0))) (h0:0<cap) (hl:l.length≤cap) (hm:cap≤maxLen) (hrs:row.size=cap*e.size) (lh:q5 w (λb=>M0 b∨b∈hs) e row.toList l):
  ∃us M',Value.slice (some ⟨rb,0,none⟩) l.length cap=wM us∧RR w' M' [.own e] l us []∧Left w M0 hs w' M'∧(bH [.own e] us []).Nodup∧ ∀b∈bH [.own e] us [],¬M0 b:=by
 have H9:rb<w'.heap.size:=(kI.1 P1).1
 have hk:fh w (λb=>M0 b∨b∈hs) w' (λb=>M0 b∨b=rb):=⟨sh,λb hb hn=>hfr b hb (λh=>hn (.inr h)),λb hb h=>h.elim .inl (λe=> .inr (e▸hrb (e▸hb)))⟩
 have vD:bH [.own e] [Value.slice (some ⟨rb,0,none⟩) l.length cap] []=[rb]:=by
  have:cap≠0:=ω
  simp[bH,db,AM.iJ,fL,this]
 refine⟨[.slice (some ⟨rb,0,none⟩) l.length cap],λb=>M0 b∨b=rb,rfl,?_,?_,?_,?_⟩
 ·simp only[RR]
  refine .inr ⟨_,[],rfl,rfl,rfl,?_,rfl,trivial⟩
  simp only[A1,ER,tz]
  exact .inr ⟨rb,row,t,cap,rfl,P1,.inr rfl,h0,hl,hm,hrs,lh.cc hk⟩
 ·exact⟨λb h=> .inl h,λb h=>h.elim (λh=>nc (sj b h) sh) (λh=>h▸H9),λb hb h=>h.elim .inl (λe=> .inr (e▸hrb (e▸hb))),hfr,sh,hos,htp,P0⟩
 ·rw[vD];simp
 ·rw[vD]
  intro b hb h
  rw[cm]at hb
  subst hb
  exact wR b (hrb (sj b h)) h
theorem setRow_other(w:World){b c:Nat}(r:Array Value)(h:c≠b):(w.setRow b r).heap[c]? =w.heap[c]? :=by
 unfold World.setRow
 rw[Array.getElem?_modify,ah (λe=>h e.symm)]
theorem setRow_size(w:World)(b:Nat)(r:Array Value):(w.setRow b r).heap.size=w.heap.size:=by
 unfold World.setRow;simp
theorem alloc_old(w:World)(o:Obj){c:Nat}(h:c<w.heap.size):(w.alloc o).heap[c]? =w.heap[c]? :=by
 show(w.heap.push o)[c]? =_
 rw[Array.getElem?_push,ah ω]
theorem qy(w:World)(o:Obj):(w.alloc o).heap[w.heap.size]? =some o:=by
 show(w.heap.push o)[w.heap.size]? =_
 simp
theorem oy(w:World)(o:Obj):(w.alloc o).heap.size=w.heap.size+1:=by
 show(w.heap.push o).size=_
 simp
theorem u5{w:World}{b:Nat}{cs:Array Value}{t:TypeId}{f:Nat×Nat}(h:w.heap[b]? =some (.cells cs t f))(o n:Nat): ∀j u,((cs.toList.drop o).take n)[j]? =some u→w.cell? ((⟨b,o,none⟩:Addr).add j)=some u:=by
 intro j u hj
 rw[Addr.add_lit]
 rw[lZ]at hj
 split at hj
 ·rw[mc,gY]at hj
  simp only[World.cell?,h]
  simpa using hj
 ·cases hj
theorem RT{w:World}{M:Nat→Prop}{v:Value}{e:Ty}{l:List e.den}(h:ER w M v (.own e l)):(l=[]∧ ∃a,v= .slice a 0 0)∨
 ∃b cs t cap,v= .slice (some ⟨b,0,none⟩) l.length cap∧w.heap[b]? =some (.cells cs t (0,0))∧M b∧0<cap∧l.length≤cap∧cap≤maxLen∧cs.size=cap*e.size∧q5 w M e cs.toList l:=h
end VM
end
section
namespace VM
open Go Go.Shelf Go.RowKit Go.Lib Go.Proofs
variable{P:Program}{ρ:Ren}
theorem Fs{w:World}{t e':TypeId}{e:Ty}(hu:P.underlying t=some (.slice e'))(hle:kO P e e'){n m cap cp:Nat}{olds news:List Value}{base:Option Addr}{a':Addr}(Vu:base=none→n=0∧cap=0)
  (ye:olds.length=n*e.size) (ho: ∀b,base=some b→ ∀j u,olds[j]? =some u→w.cell? (b.add j)=some u) (YJ:news.length=m*e.size) (hn: ∀j u,news[j]? =some u→w.cell? (a'.add j)=some u)
  (hg:cap<n+m) (hs:n+m<yE):
  ∃nB rest,(∀ty,(Builtin.append_ #[t,t] ty #[.slice base n cap,.slice (some a') m cp]).run P w= .ok (.slice (some ⟨w.heap.size,0,none⟩) (n+m) nB) (w.drew.alloc (.cells (olds++news++rest).toArray e')))∧
   n+m≤nB∧nB≤maxLen∧rest.length=(nB-(n+m))*e.size:=by
 obtain⟨i,hi,sh,hz,hby⟩:=hle.base
 have hzs:(cI e e.dr).cells.size=e.size:=by rw[←bJ,g5,oU]
 have h63:n+m≤maxLen:=by simp only[yE,maxLen]at hs ⊢;omega
 have Mj:(n+m)*i.bytes≤140737488355328:=by
  have:(n+m)*i.bytes≤68719476736*2048:=wk (by simp only[yE]at hs;omega) hby
  omega
 refine⟨grownCap w (n+m) cap e',(Builtin.zeroCells (cI e e.dr).cells (grownCap w (n+m) cap e'-(n+m))).toList,λty=> ?_,grownCap_ge _ _ _ _,grownCap_le_maxLen _ _ _ _ h63,?_⟩
 ·cases base with
  |none=>
   obtain⟨rfl,rfl⟩:=Vu rfl
   have ho0:olds=[]:=uI (by rw[ye];simp)
   subst ho0
   have:=run_append_nil (P:=P) w t ty e' i _ hu hi hz a' m cp news (by rw[YJ,sh]) hn (by simpa using hg) (by simp only[yE]at hs;omega) (by simp at Mj;omega)
   simp only[gq,cL]
   rw[this]
   congr 2
   apply eA (λz=>Obj.cells z e' (0,0))
   apply js;simp
  |some b=>
   have:=run_append_grow (P:=P) w t ty e' i _ hu hi hz b n cap olds (by rw[ye,sh]) (ho b rfl) a' m cp news (by rw[YJ,sh]) hn hg (by simp only[yE]at hs;omega) (growslice_fits hg Mj)
   rw[this]
   congr 2
   apply eA (λz=>Obj.cells z e' (0,0))
   apply js;simp
 ·rw[bJ,size_zeroCells,hzs]
theorem Tt{w:World}{t tn e':TypeId}{e:Ty}(hu:P.underlying t=some (.slice e'))(Th:P.underlying tn=some (.int .i64))(hle:kO P e e')(ahy:0<e.size){n k cap:Nat}{olds:List Value}{b:Addr}
  (ye:olds.length=n*e.size) (ho: ∀j u,olds[j]? =some u→w.cell? (b.add j)=some u) (hk:0<k) (hg:cap<n+k) (hs:n+k<yE):
  ∃nB rest,(∀ty,(Builtin.append_ #[t,tn] ty #[.slice (some b) n cap,.int .i64 k]).run P w= .ok (.slice (some ⟨w.heap.size,0,none⟩) (n+k) nB) (w.drew.alloc (.cells (olds++rest).toArray e')))∧
   n+k≤nB∧nB≤maxLen∧rest.length=(nB-n)*e.size:=by
 obtain⟨i,hi,sh,hz,hby⟩:=hle.base
 have hzs:(cI e e.dr).cells.size=e.size:=by rw[←bJ,g5,oU]
 have h63:n+k≤maxLen:=by simp only[yE,maxLen]at hs ⊢;omega
 have Mj:(n+k)*i.bytes≤140737488355328:=by
  have:(n+k)*i.bytes≤68719476736*2048:=wk (by simp only[yE]at hs;omega) hby
  omega
 have hkb:k*i.bytes≤281474976710656:=by
  have:k*i.bytes≤(n+k)*i.bytes:=kK _ ω
  omega
 have YN:=grownCap_ge w (n+k) cap e'
 refine⟨grownCap w (n+k) cap e',(Builtin.zeroCells (cI e e.dr).cells k++Builtin.zeroCells (cI e e.dr).cells (grownCap w (n+k) cap e'-(n+k))).toList,λty=> ?_,YN,grownCap_le_maxLen _ _ _ _ h63,?_⟩
 ·have hold:(Builtin.firstCells i.size n (.slice (some b) n cap)).run P w.drew= .ok olds.toArray w.drew:=run_firstCells_some w.drew i.size n b n cap olds (by rw[ye,sh]) (λj u hj=>ho j u hj)
  have:=Lib.run_append_grow_zeros w t tn ty e' i _ .i64 .i64 hu Th hi hz (some b) n cap olds hold k hk (by rw[sh];exact ahy) hg (by simp only[yE]at hs;omega) hkb (growslice_fits hg Mj)
  rw[this]
  congr 2
  apply eA (λz=>Obj.cells z e' (0,0))
  apply js;simp
 ·rw[Array.toList_append,aT,bJ,bJ,size_zeroCells,size_zeroCells,hzs,←eG]
  congr 1;omega
structure OvP(P:Program)(ρ:Ren)(fo:Func):Prop where
 hf:P.funcs[ρ.f 29]? =some fo
 name:(fo.name== "runtime.NumGoroutine")=false
 body:fo.body.isNone=true
 next:Extern.findNext fo=none
 find:Extern.find fo=some (Extern.SlicesOverlaps.overlaps #[ρ.t 24,ρ.t 24] #[ρ.t 4])
theorem yS{e:Ty}{f:FuncId}{fn fo:Func}(L:P9 P e ρ f fn fo)(O:OvP P ρ fo)(Ad:(fn.name== "runtime.NumGoroutine")=false)(Wa:(Body2.n22 ρ).body.isNone=false)(N:Nat):iy P f (kN e N):=by
 refine⟨(λh=>by cases h),rfl,λM0 w vs x y sj hA yg wR hy=> ?_⟩
 obtain⟨l,i,v⟩:=x
 have RM:kM N l i v=some y:=hy
 clear hy
 simp only[kN,jL]at hA
 obtain⟨v0,YO,rfl,h0,v1,vs2,rfl,h1,v2,vs3,rfl,h2,rfl⟩:=hA
 simp only[kM]at RM
 split at RM
 case isFalse=>cases RM
 rename_i hc
 cases RM
 obtain⟨hi0,Ht,Md,J9⟩:=hc
 obtain⟨i,rfl⟩:=uM hi0
 have amL:i≤l.length:=ω
 simp only[A1,tz,yf,V,Ty.isAgg,jd,fa,Rd,fv,ec]at h0 h1 h2
 subst h1
 have hk:=L.pY
 replace Md:List.length (α:=e.den) v=1:=Md
 rcases RT h2 with⟨ZD,_⟩|⟨b2,cs2,t2,Aj,Ze,Vj,JL,hc2,hl2,yu,Wb,zV⟩
 ·rw[ZD]at Md;cases Md
 replace Ze:v2= .slice (some ⟨b2,0,none⟩) 1 Aj:=by rw[Ze];congr 1
 subst Ze
 have Zc:e.size≤cs2.toList.length:=by
  rw[bJ (xs:=cs2),Wb]
  exact Nat.le_mul_of_pos_left _ hc2
 obtain⟨news,Wc⟩: ∃news,news=cs2.toList.take e.size:=⟨_,rfl⟩
 have H8:news.length=1*e.size:=by rw[Wc,bO,ke];omega
 have hnr:q5 w (λb=>M0 b∨b∈dX (kN e N).args [v0,.int .i64 (i:Int),.slice (some ⟨b2,0,none⟩) 1 Aj]) e news v:=by
  rw[Wc];exact zV.take (by rw[Md,ke];exact aI _)
 have hnc: ∀j u,news[j]? =some u→w.cell? ((⟨b2,0,none⟩:Addr).add j)=some u:=by
  have:=u5 Vj 0 e.size
  rw[cM]at this
  rw[Wc];exact this
 have hn1: ∀u∈news,u.oneCell'=true:=by
  have:=hnr 0 ω
  rw[Nat.zero_mul,cM,gl ω]at this
  exact this.oT
 have tU:fL (.slice (some ⟨b2,0,none⟩) 1 Aj)=some b2:=by simp[fL];omega
 replace J9:List.length (α:=e.den) l+1<yE:=J9
 have hyl:(List.take i l++(v++List.drop i l)).length=l.length+1:=by rw[aT,aT,bO,dI,Md];omega
 have hbn:(V7 ρ fn).body.isNone=false:=Wa
 refine ta L.hf Ad hbn ?_
 rcases RT h0 with⟨rfl,ad,rfl⟩|⟨b1,ze,t1,Dw,rfl,PC,hM1,Ih,ZM,tT,Py,zf⟩
 ·
  have hi:i=0:=by simpa using amL
  subst hi
  obtain⟨nB,rest,dJ,Tk,jW,H9⟩:=Fs (P:=P) (w:=w) L.t24 L.lay (n:=0) (m:=1) (cap:=0) (cp:=Aj) (olds:=[]) (news:=news) (base:=ad) (a':=⟨b2,0,none⟩) (λ_=>⟨rfl,rfl⟩) (by simp) (λ_ _ j u hj=>by simp at hj) H8 hnc ω (by simp only[yE];omega)
  refine(J7 L w ad 0 0 1 Aj ⟨b2,0,none⟩ _ _ ω (aI _) dJ).mono ?_
  rintro e1 w' ⟨rfl,rfl⟩
  refine⟨_,rfl,?_⟩
  simp only[gq]at Tk H9
  have hv:v=v++[]:=by simp
  have:=xA (e:=e) (rb:=w.heap.size) (cap:=nB) (l:=v) (t:=ρ.t 9) (w:=w) (w':=w.drew.alloc (.cells ([]++news++rest).toArray (ρ.t 9))) sj wR (λb hb _=>alloc_old w.drew _ hb) (by rw[oy];exact qT _) (λh=>absurd h (EL _)) rfl rfl rfl (qy w.drew _) ω ω jW
   (by simp only[cL,je,aT,H8,H9,←eG];congr 1;omega) (by simpa using hnr.more (cs':=rest) (by rw[Md,H8];exact aI _))
  rw[Md]at this
  simpa [kN,fC,AM.iJ]using this
 ·have mG:fL (.slice (some ⟨b1,0,none⟩) l.length Dw)=some b1:=by simp[fL];omega
  have hh:dX (kN e N).args [.slice (some ⟨b1,0,none⟩) l.length Dw,.int .i64 (i:Int),.slice (some ⟨b2,0,none⟩) 1 Aj]=[b1,b2]:=by simp[kN,dX,db,mG,tU]
  rw[hh]at yg wR hnr ⊢
  replace zf:q5 w (λb=>M0 b∨b∈[b1,b2]) e ze.toList l:=by rw[←hh];exact zf
  have iI:b1≠b2:=by simpa using yg
  have aso:b1<w.heap.size:=(kI.1 PC).1
  have alU:b2<w.heap.size:=(kI.1 Vj).1
  have s9:l.length*e.size≤ze.toList.length:=by rw[bJ (xs:=ze),Py];exact kK _ ZM
  have hik:i*e.size≤l.length*e.size:=kK _ amL
  obtain⟨A,hAe⟩: ∃A,A=ze.toList.take (i*e.size):=⟨_,rfl⟩
  obtain⟨mid,ahF⟩: ∃mid,mid=(ze.toList.drop (i*e.size)).take ((l.length-i)*e.size):=⟨_,rfl⟩
  have RU:A.length=i*e.size:=by rw[hAe,bO];omega
  have Hc:mid.length=(l.length-i)*e.size:=by
   rw[ahF,bO,dI,qU];omega
  have hAr:=zf.amJ i
  have hmr:=zf.amK i
  rw[←hAe]at hAr
  rw[←ahF]at hmr
  have hti:(l.take i).length=i:=by rw[bO];omega
  have RV: ∀rest:List Value,q5 w (λb=>M0 b∨b∈[b1,b2]) e (A++(news++(mid++rest))) (l.take i++(v++l.drop i)):=λrest=>
   hAr.append (by rw[RU,hti]) (hnr.append (by rw[H8,Md]) (hmr.more (by rw[dI,Hc];exact aI _)))
  have hAc: ∀j u,A[j]? =some u→w.cell? ((⟨b1,0,none⟩:Addr).add j)=some u:=by
   have:=u5 PC 0 (i*e.size)
   rw[cM]at this
   rw[hAe];exact this
  have hmc: ∀j u,mid[j]? =some u→w.cell? ((⟨b1,i*e.size,none⟩:Addr).add j)=some u:=by
   rw[ahF];exact u5 PC (i*e.size) _
  have amO: ∀u∈mid,u.oneCell'=true:=by
   intro u hu
   obtain⟨j,hj,rfl⟩:=qI.1 hu
   rw[Hc]at hj
   have hq:j/e.size<l.length-i:=Nat.div_lt_of_lt_mul (by rw[zF];exact hj)
   have:=(hmr (j/e.size) (by rw[dI];exact hq)).oT
   refine this _ ?_
   have hjm:j/e.size*e.size+j%e.size=j:=by rw[zF];exact Nat.div_add_mod j e.size
   have Hg:j%e.size<e.size:=Nat.mod_lt _ hk
   rw[List.mem_iff_getElem?]
   refine⟨j%e.size,?_⟩
   rw[lZ,aj Hg,mc,hjm]
   exact bl _
  by_cases m4:i=l.length
  ·
   subst m4
   have hm0:mid=[]:=uI (by rw[Hc];simp)
   by_cases z8:l.length+1≤Dw
   ·obtain⟨ie,hie,sh,_⟩:=L.lay.base
    have dJ: ∀ty,(Builtin.append_ #[ρ.t 24,ρ.t 24] ty #[.slice (some ⟨b1,0,none⟩) l.length Dw,.slice (some ⟨b2,0,none⟩) 1 Aj]).run P w=_:=λty=>
     Mi (ty:=ty) (cp:=Aj) L.t24 hie PC (by rw[sh];exact Py) (by rw[sh];exact H8) hnc hn1 z8
    refine(J7 L w _ _ _ 1 Aj ⟨b2,0,none⟩ _ _ ω ZM dJ).mono ?_
    rintro e1 w' ⟨rfl,rfl⟩
    refine⟨_,rfl,?_⟩
    rw[sh]
    have P1:fj ze.toList (l.length*e.size) news=A++(news++(mid++ze.toList.drop (l.length*e.size+news.length))):=by
     rw[hm0,hAe];simp[fj]
    have:=xA (e:=e) (rb:=b1) (cap:=Dw) (l:=l.take l.length++(v++l.drop l.length)) (t:=t1) (w:=w) (w':=w.setRow b1 (fj ze.toList (l.length*e.size) news).toArray) sj wR (λb hb hn=>setRow_other w _ (λe=>hn (by simp[e]))) (by rw[setRow_size];exact aI _) (λ_=>by simp) rfl rfl rfl (setRow_heap w b1 ze _ t1 _ PC) Ih (by rw[hyl];exact z8) tT
     (by
      have:=eH (s:=e.size) (show l.length<Dw by omega)
      rw[P1,je]
      simp only[aT,hm0,bZ,dI,bJ,RU,H8,Py]
      omega)
     (by rw[P1];exact RV _)
    rw[hyl]at this
    simpa [kN,fC,AM.iJ]using this
   ·obtain⟨nB,rest,dJ,Tk,jW,H9⟩:=Fs (P:=P) (w:=w) L.t24 L.lay (n:=l.length) (m:=1) (cap:=Dw) (cp:=Aj) (olds:=A) (news:=news) (base:=some ⟨b1,0,none⟩) (a':=⟨b2,0,none⟩) (λh=>by cases h) RU (λb hb=>by cases hb;exact hAc) H8 hnc ω J9
    refine(J7 L w _ _ _ 1 Aj ⟨b2,0,none⟩ _ _ ω ZM dJ).mono ?_
    rintro e1 w' ⟨rfl,rfl⟩
    refine⟨_,rfl,?_⟩
    have:=xA (e:=e) (rb:=w.heap.size) (cap:=nB) (l:=l.take l.length++(v++l.drop l.length)) (t:=ρ.t 9) (w:=w) (w':=w.drew.alloc (.cells (A++news++rest).toArray (ρ.t 9))) sj wR (λb hb _=>alloc_old w.drew _ hb) (by rw[oy];exact qT _) (λh=>absurd h (EL _)) rfl rfl rfl (qy w.drew _) ω (by rw[hyl];exact Tk) jW
     (by simp only[je,aT,RU,H8,H9,←eG];congr 1;omega) (by have:=RV rest;rw[hm0,cL,←bM]at this;exact this)
    rw[hyl]at this
    simpa [kN,fC,AM.iJ]using this
  ·have ahG:i<l.length:=ω
   have Zo:i*e.size+e.size≤l.length*e.size:=eH ahG
   have e1k:(i+1)*e.size=A.length+news.length:=by rw[RU,H8,eG]
   have EZ:Nat.min 1 (l.length+1-i)=1:=gZ ω
   by_cases z8:l.length+1≤Dw
   ·
    have amP:l.length*e.size+e.size≤ze.toList.length:=by rw[bJ (xs:=ze),Py];exact eH ω
    have Wd: ∀(b:Nat) (c:Array Value) (t:TypeId),w.heap[b]? =some (.cells c t (0,0))→w.shape? b=some (t,c.size):=λb c t h=>by simp[World.shape?,h]
    obtain⟨B,hB⟩: ∃B,B=ze.toList.drop (i*e.size):=⟨_,rfl⟩
    have amQ:ze.toList=A++B:=by rw[hAe,hB,fW]
    have hBl:B.length=ze.toList.length-i*e.size:=by rw[hB,dI]
    have hBk:(B.take e.size).length=e.size:=by rw[bO];omega
    have MN:fj ze.toList ((i+1)*e.size) mid=A++(B.take e.size++(mid++(B.drop e.size).drop mid.length)):=by
     have:ze.toList=(A++B.take e.size)++B.drop e.size:=by rw[bM,fW];exact amQ
     rw[this,show(i+1)*e.size=(A++B.take e.size).length from by rw[aT,hBk,RU,eG,ke],D4,bM]
    have MO:fj (fj ze.toList ((i+1)*e.size) mid) (i*e.size) news=A++(news++(mid++(B.drop e.size).drop mid.length)):=by
     rw[MN,←RU,D4,H8,ke,nj hBk]
    refine(Tq L w b1 l.length Dw i 1 Aj ⟨b2,0,none⟩ (fj ze.toList ((i+1)*e.size) mid).toArray (fj (fj ze.toList ((i+1)*e.size) mid) (i*e.size) news).toArray ahG ω z8 (by simp only[maxLen]at tT;omega) (λx lb cb=> ?_) (λty dc sc=> ?_) (λW hW ty dc=> ?_)).mono ?_
    ·rw[run_callFunc_extern O.hf O.name O.body O.next O.find,
      Lib.run_overlaps_apart w (ρ.t 24) (ρ.t 4) (ρ.t 9) L.t24 e.size (λw=>dk L.lay w) ⟨b2,0,none⟩ ⟨b1,x,none⟩ 1 Aj lb cb (eU iI) t2 t1 cs2.size ze.size (Wd b2 cs2 t2 Vj) (Wd b1 ze t1 PC) (by rw[Py];exact Nat.ne_of_gt (Nat.mul_pos Ih hk)) (by simp[World.frozen?,Vj]) (by simp[World.frozen?,Vj])]
     rfl
    ·exact run_copy_row (P:=P) (W:=w.drew) L.t24 (λw=>dk L.lay w) (cs:=ze) PC (news:=mid) (n:=l.length-i) (by simp only[Nat.min_def];split<;>omega) Hc hmc amO (by rw[Hc,eG,ke];rw[bJ (xs:=ze)]at amP;rw[qU];omega) ty
    ·exact run_copy_row (P:=P) (W:=W) L.t24 (λw=>dk L.lay w) (cs:=(fj ze.toList ((i+1)*e.size) mid).toArray) (te:=t1) (by rw[hW];exact setRow_heap w b1 ze _ t1 _ PC) (news:=news) (n:=1) EZ H8
      (λj u hj=>by
       have:=hnc j u hj
       rw[Addr.add_lit]at this ⊢
       rw[show W.cell? ⟨b2,0+j,none⟩=w.cell? ⟨b2,0+j,none⟩from World.cell?_of_block (by rw[hW];exact setRow_other w _ (eU iI))]
       exact this) hn1 (by
       rw[je,MN]
       simp only[aT,hBk,RU,H8]
       omega) ty
    ·rintro e1 w' ⟨rfl,rfl⟩
     refine⟨_,rfl,?_⟩
     have:=xA (e:=e) (rb:=b1) (cap:=Dw) (l:=l.take i++(v++l.drop i)) (t:=t1) (w:=w) (w':=(w.drew.setRow b1 (fj ze.toList ((i+1)*e.size) mid).toArray).setRow b1 (fj (fj ze.toList ((i+1)*e.size) mid) (i*e.size) news).toArray) sj wR
      (λb hb hn=>(setRow_other _ _ (λe=>hn (by simp[e]))).trans (setRow_other _ _ (λe=>hn (by simp[e])))) (by rw[setRow_size,setRow_size];exact aI _) (λ_=>by simp) rfl rfl rfl (setRow_heap _ b1 _ _ t1 _ (setRow_heap w.drew b1 ze _ t1 _ PC)) Ih (by rw[hyl];exact z8) tT
      (by
       rw[MO,je]
       rw[bJ (xs:=ze)]at amP hBl
       simp only[aT,dI,RU,H8,Hc,hBl,qU]
       omega)
      (by rw[MO];exact RV _)
     rw[hyl]at this
     simpa [kN,fC,AM.iJ]using this
   ·
    obtain⟨nB,Z,dJ,Tk,jW,hZl⟩:=Tt (P:=P) (w:=w) L.t24 L.t3 L.lay hk (n:=i) (k:=l.length+1-i) (cap:=Dw) (olds:=A) (b:=⟨b1,0,none⟩) RU hAc ω ω ω
    have ass:i+(l.length+1-i)=l.length+1:=ω
    rw[ass]at dJ Tk
    have hZk:(l.length+1-i)*e.size≤Z.length:=by rw[hZl];exact kK _ ω
    rw[qU,eG,ke]at hZk
    have MN:fj (A++Z) (i*e.size) news=A++(news++Z.drop news.length):=by rw[←RU,D4]
    have MO:fj (fj (A++Z) (i*e.size) news) ((i+1)*e.size) mid=A++(news++(mid++(Z.drop news.length).drop mid.length)):=by
     rw[MN,←bM,e1k,←aT,D4,bM]
    have hnb:w.heap.size≠b1:=ω
    have azw:b2≠w.heap.size:=ω
    refine(V9 L w b1 l.length Dw i 1 Aj 0 nB ⟨b2,0,none⟩ (A++Z).toArray (fj (A++Z) (i*e.size) news).toArray (fj (fj (A++Z) (i*e.size) news) ((i+1)*e.size) mid).toArray ahG ω ZM ω (by simp only[maxLen]at tT;omega) (by simp only[yE]at J9;omega) Tk (by simp only[maxLen]at jW;omega) (λty=> ?_) (λW hW ty dc=> ?_) (λW hW ty dc sc=> ?_)).mono ?_
    ·have:=dJ ty
     rw[show(((l.length+1-i:Nat):Int))=(l.length:Int)+(1:Nat)-(i:Int)from by omega]at this
     exact this
    ·exact run_copy_row (P:=P) (W:=W) L.t24 (λw=>dk L.lay w) (cs:=(A++Z).toArray) (te:=ρ.t 9) (by rw[hW];exact qy w _) (news:=news) (n:=1) EZ H8
      (λj u hj=>by
       have:=hnc j u hj
       rw[Addr.add_lit]at this ⊢
       rw[show W.cell? ⟨b2,0+j,none⟩=w.cell? ⟨b2,0+j,none⟩from World.cell?_of_block (by rw[hW];exact alloc_old w _ alU)]
       exact this) hn1 (by rw[je,aT,RU,H8];omega) ty
    ·exact run_copy_row (P:=P) (W:=W) L.t24 (λw=>dk L.lay w) (cs:=(fj (A++Z) (i*e.size) news).toArray) (te:=ρ.t 9) (by rw[hW];exact setRow_heap _ _ _ _ _ _ (qy w _)) (news:=mid) (n:=l.length-i) (by simp only[Nat.min_def];split<;>omega) Hc
      (λj u hj=>by
       have:=hmc j u hj
       rw[Addr.add_lit]at this ⊢
       rw[show W.cell? ⟨b1,i*e.size+j,none⟩=w.cell? ⟨b1,i*e.size+j,none⟩from World.cell?_of_block (by rw[hW];exact(setRow_other _ _ (eU hnb)).trans (alloc_old w _ aso))]
       exact this) amO (by
       rw[je,MN]
       simp only[aT,dI,RU,H8,Hc,eG,qU]
       omega) ty
    ·rintro e1 w' ⟨rfl,rfl⟩
     refine⟨_,rfl,?_⟩
     have hg':((w.drew.alloc (.cells (A++Z).toArray (ρ.t 9))).setRow w.heap.size (fj (A++Z) (i*e.size) news).toArray).drew.heap[w.heap.size]? =some (.cells (fj (A++Z) (i*e.size) news).toArray (ρ.t 9) (0,0)):=setRow_heap _ _ _ _ _ _ (qy w.drew _)
     have:=xA (e:=e) (rb:=w.heap.size) (cap:=nB) (l:=l.take i++(v++l.drop i)) (t:=ρ.t 9) (w:=w) (w':=((w.drew.alloc (.cells (A++Z).toArray (ρ.t 9))).setRow w.heap.size (fj (A++Z) (i*e.size) news).toArray).drew.setRow w.heap.size (fj (fj (A++Z) (i*e.size) news) ((i+1)*e.size) mid).toArray) sj wR
      (λb hb hn=>(setRow_other _ _ ω).trans ((setRow_other _ _ ω).trans (alloc_old w.drew _ hb))) (by rw[setRow_size];show _≤(World.setRow _ _ _).heap.size;rw[setRow_size,oy];exact qT _) (λh=>absurd h (EL _)) rfl rfl rfl (setRow_heap _ _ _ _ _ _ hg') ω (by rw[hyl];exact Tk) jW
      (by
       rw[MO,je]
       have hmul:(nB-i)*e.size=nB*e.size-i*e.size:=qU _ _ _
       have hci:i*e.size≤nB*e.size:=kK _ ω
       simp only[aT,dI,RU,H8,Hc,hZl,hmul,qU]at hZk ⊢
       omega)
      (by rw[MO];exact RV _)
     rw[hyl]at this
     simpa [kN,fC,AM.iJ]using this
end VM
end
section
namespace VM
open Go Go.Shelf Go.RowKit Go.Lib Go.Proofs
variable{P:Program}{ρ:Ren}
def We(ρ:Ren)(fn:Func):Func:={fn with body:=(Body2.n15 ρ).body,ntmps:=8,results:=(Body2.n15 ρ).results,nfree:=0}
theorem CI(ρ:Ren)(fn:Func):(We ρ fn).ntmps=8:=rfl
structure Ka(P:Program)(e:Ty)(ρ:Ren)(f:FuncId)(fn:Func):Prop where
 hf:P.funcs[f]? =some (We ρ fn)
 t4:P.underlying (ρ.t 4)=some .bool
 t22:P.underlying (ρ.t 22)=some (.slice (ρ.t 3))
 lay:kO P e (ρ.t 3)
 pY:0<e.size
 mixed:P.follows .mixedOrders=true
set_option maxHeartbeats 4000000 in
set_option maxRecDepth 100000 in
theorem Tu{e:Ty}{f:FuncId}{fn:Func}(L:Ka P e ρ f fn)(w:World)(n c:Nat):
  Calls P f #[.slice none n c] w λr w2=>r= .returned (.slice none 0 0)∧w2=w:=by
 have u22:=run_underlying L.t22
 have t4:=L.t4;have t22:=L.t22
 have z3:=λw=>dk L.lay w
 have mixed:=L.mixed
 have q22: ∀(w:World) (a:Option Addr) (n c n' c':Nat),(binOp .eql (ρ.t 22) (.slice a n c) (.slice none n' c')).run P w= .ok (.bool a.isNone) w:=λw a n c n' c'=>Lib.run_eql_slice_nil w _ _ a n c n' c' L.t22
 go_enter L.hf,CI ρ fn
 go_wp2
 go_ret
 exact⟨rfl,rfl⟩
set_option maxHeartbeats 4000000 in
set_option maxRecDepth 100000 in
theorem Ft{e:Ty}{f:FuncId}{fn:Func}(L:Ka P e ρ f fn)(w:World)(a:Addr)(n c:Nat)(v':Value)(w':World)
  (Mr: ∀ty,(Builtin.append_ #[ρ.t 22,ρ.t 22] ty #[.slice (some ⟨w.heap.size,0,none⟩) 0 0,.slice (some a) n c]).run P (w.alloc (.cells #[] (ρ.t 3)))= .ok v' w'):
   Calls P f #[.slice (some a) n c] w λr w2=>r= .returned v'∧w2=w':=by
 have u22:=run_underlying L.t22
 have t4:=L.t4;have t22:=L.t22
 have z3:=λw=>dk L.lay w
 have mixed:=L.mixed
 have q22: ∀(w:World) (a:Option Addr) (n c n' c':Nat),(binOp .eql (ρ.t 22) (.slice a n c) (.slice none n' c')).run P w= .ok (.bool a.isNone) w:=λw a n c n' c'=>Lib.run_eql_slice_nil w _ _ a n c n' c' L.t22
 obtain⟨ab,ao,asp⟩:=a
 go_enter L.hf,CI ρ fn
 go_wp2_with (at_builtin;refine Lib.wpList_append_run _ rfl _ _ _ _ rfl _ _ rfl rfl _ _ (Mr _) ?_)
 all_goals (go_ret;exact⟨rfl,rfl⟩)
theorem Wf{w w':World}{M0:Nat→Prop}{e:Ty}(a:Option Addr)(sj: ∀b,M0 b→b<w.heap.size)(hfr: ∀b,b<w.heap.size→w'.heap[b]? =w.heap[b]?)(sh:w.heap.size≤w'.heap.size)
  (hos:w'.os=w.os) (htp:w'.tape=w.tape) (P0:w'.output=w.output):
  ∃us M',Value.slice a 0 0=wM us∧RR w' M' [.own e] ([]:List e.den) us []∧Left w M0 [] w' M'∧(bH [.own e] us []).Nodup∧ ∀b∈bH [.own e] us [],¬M0 b:=by
 have vD:bH [.own e] [Value.slice a 0 0] []=[]:=by
  cases a<;>simp[bH,db,AM.iJ,fL]
 refine⟨[.slice a 0 0],M0,rfl,?_,?_,?_,?_⟩
 ·simp only[RR]
  refine .inr ⟨_,[],rfl,rfl,rfl,?_,rfl,trivial⟩
  simp only[A1,ER,tz]
  exact .inl ⟨trivial,a,rfl⟩
 ·exact⟨λb h=>h,λb h=>nc (sj b h) sh,λb hb h=> .inl h,λb hb _=>hfr b hb,sh,hos,htp,P0⟩
 ·rw[vD];simp
 ·rw[vD];simp
theorem qz{e:Ty}{f:FuncId}{fn:Func}(L:Ka P e ρ f fn)(Ad:(fn.name== "runtime.NumGoroutine")=false)(Wa:(Body2.n15 ρ).body.isNone=false)(N:Nat):iy P f (wE e N):=by
 refine⟨(λh=>by cases h),rfl,λM0 w vs x y sj hA yg wR hy=> ?_⟩
 have RM:ou N x=some y:=hy
 clear hy
 obtain⟨v0,YO,rfl,h0,h2⟩:=hA
 have h2:YO=[]:=h2
 subst h2
 replace h0:V w (λb=>M0 b∨b∈([]:List Nat)) (.slice e) v0 x:=h0
 unfold ou at RM
 split at RM
 case isFalse=>cases RM
 rename_i J9
 cases RM
 have hbn:(We ρ fn).body.isNone=false:=Wa
 have hh:dX (wE e N).args [v0]=[]:=rfl
 rw[hh]at wR ⊢
 refine ta L.hf Ad hbn ?_
 obtain⟨i,hi,sh,hz,hby⟩:=L.lay.base
 have hS:=Src.Y7 h0
 by_cases hx:x=[]
 ·obtain⟨a,cp,hv,_⟩:=hS
  subst hv
  rw[hx]
  cases a with
  |none=>
   refine(Tu L w _ cp).mono ?_
   rintro e1 w' ⟨rfl,rfl⟩
   exact⟨_,rfl,Wf none sj (λ_ _=>rfl) (aI _) rfl rfl rfl⟩
  |some a=>
   refine(Ft L w a _ cp _ _ (λty=>sK (P:=P) (w:=w.alloc (.cells #[] (ρ.t 3))) L.t22 hi (some ⟨w.heap.size,0,none⟩) 0 0 (aI _) (some a) cp)).mono ?_
   rintro e1 w' ⟨rfl,rfl⟩
   exact⟨_,rfl,Wf _ sj (λb hb=>alloc_old w _ hb) (by rw[oy];exact qT _) rfl rfl rfl⟩
 ·obtain⟨b,off,cp,news,hv,hl,p6,lh,h1⟩:=hS.cells hx
  have Mk:0<x.length:=o0.2 hx
  subst hv
  obtain⟨nB,rest,dJ,Tk,jW,H9⟩:=Fs (P:=P) (w:=w.alloc (.cells #[] (ρ.t 3))) L.t22 L.lay (n:=0) (m:=x.length) (cap:=0) (cp:=cp) (olds:=[]) (news:=news) (base:=some ⟨w.heap.size,0,none⟩) (a':=⟨b,off,none⟩) (λh=>by cases h) (by simp) (λ_ _ j u hj=>by simp at hj) hl
   (λj u hj=>by rw[Addr.add_lit];exact Lib.cell?_alloc_some _ (p6 j u hj)) ω ω
  refine(Ft L w ⟨b,off,none⟩ _ cp _ _ dJ).mono ?_
  rintro e1 w' ⟨rfl,rfl⟩
  refine⟨_,rfl,?_⟩
  simp only[gq]at Tk H9 ⊢
  have Py:(w.alloc (.cells #[] (ρ.t 3))).heap.size=w.heap.size+1:=oy w _
  exact xA (e:=e) (rb:=(w.alloc (.cells #[] (ρ.t 3))).heap.size) (cap:=nB) (l:=x) (t:=ρ.t 3) (w:=w) (w':=(w.alloc (.cells #[] (ρ.t 3))).drew.alloc (.cells ([]++news++rest).toArray (ρ.t 3))) sj wR
   (λb hb _=>(alloc_old (w.alloc (.cells #[] (ρ.t 3))).drew _ (by show b<(w.alloc (.cells #[] (ρ.t 3))).heap.size;omega)).trans (alloc_old w _ hb))
   (by rw[oy];show w.heap.size≤(w.alloc (.cells #[] (ρ.t 3))).heap.size+1;omega) (λh=>ω) rfl rfl rfl (qy (w.alloc (.cells #[] (ρ.t 3))).drew _) ω Tk jW
   (by simp only[cL,je,aT,hl,H9,←eG];congr 1;omega) (by simpa using q5.more (cs':=rest) (show q5 w (λb=>M0 b∨b∈([]:List Nat)) e news x from lh) (by rw[hl];exact aI _))
end VM
end
