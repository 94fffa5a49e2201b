/- A part of the proof of WindDrawn of layer 21: a machine that reads a function of the program as an equation between values. -/
import Derived.Test.YtecmobijochjkaaGreatVm6
import Derived.KernelRfl
import Derived.Test.YtecmobijochjkaaGreatVm0
import Derived.Laws.Externs
import Derived.Shelf.Spec.SlicesInsertGrow
set_option linter.all false
noncomputable section
section
namespace VM
open Go
@[reducible] def CM.arr:CM→Type→Type
 | .v τ,T| .obj τ,T| .io τ,T| .fn _ τ,T=>τ.den→T
 | .own e,T=>List e.den→T
 | .ga τ _ e,T=>τ.den→List e.den→T
 | .same _,T=>T
@[reducible] def UN:List (Nat×CM)→Type→Type
 |[],R=>R
 |q::r,R=>q.2.arr (UN r R)
def CM.lam{T:Type}(s:Nat)(σ:St):(m:CM)→(St→T)→m.arr T
 | .v τ,f=>λx=>f (σ.put s (.val τ x))
 | .own e,f=>λx=>f ((σ.put s (.ref (16*s+14))).jF (16*s+14) (some (.own e x)))
 | .obj τ,f=>λx=>f ((σ.put s (.jg (16*s+14) [])).jF (16*s+14) (some (.obj τ x)))
 | .ga τ q e,f=>λx l=>f (((σ.put s (.jg (16*s+14) [])).jF (16*s+13) (some (.own e l))).jF (16*s+14) (some (.ga τ x q (16*s+13))))
 | .io τ,f=>λx=>f ((σ.put s (.jg (16*s+15) [])).jF (16*s+15) (some (.obj τ x)))
 | .fn g τ,f=>λx=>f (σ.put s (.LD g (pG τ x)))
 | .same s',f=>f (σ.put s (σ.T s'))
def al1{R:Type}(κ:St→R):(L:List (Nat×CM))→St→UN L R
 |[],σ=>κ σ
 |q::r,σ=>q.2.lam q.1 σ (al1 κ r)
@[reducible] def yE:List AM→Type→Type
 |[],R=>R
 |m::r,R=>m.den→yE r R
def Hg{R:Type}:(ms:List AM)→yE ms R→HP ms→R
 |[],g,_=>g
 |[_],g,x=>g x
 |_::n::ms,g,x=>Hg (n::ms) (g x.1) x.2
def S8{R:Type}:(ms:List AM)→(HP ms→R)→yE ms R
 |[],f=>f ()
 |[_],f=>f
 |_::n::ms,f=>λx=>S8 (n::ms) λy=>f (x,y)
theorem JT{R:Type}: ∀(ms:List AM) (f:HP ms→R) (x:HP ms),Hg ms (S8 ms f) x=f x
 |[],_,()=>rfl
 |[_],_,_=>rfl
 |_::n::ms,f,x=>JT (n::ms) (λy=>f (x.1,y)) x.2
structure Pc where
 k:Nat
 c:List (Nat×CM)
 path:List Nat
 ks:List Nat
def VT:List Pc→Nat→Pc
 |[],_=>⟨0,[],[],[]⟩
 |p::r,k=>cond (Nat.beq k p.k) p (VT r k)
def MA:List Pc→Nat→Option (List (Nat×CM))
 |[],_=>none
 |p::r,k=>cond (Nat.beq k p.k) (some p.c) (MA r k)
def Bb:List (Nat×lO)→Nat→List lO
 |[],_=>[]
 |q::r,i=>cond (Nat.beq i q.1) (q.2::Bb r i) (Bb r i)
def E1:List AM→Nat→List Nat
 |[],_=>[]
 | .io _::r,i=>i::E1 r (i+1)
 | .lo _::r,i=>i::E1 r (i+1)
 |_::r,i=>E1 r (i+1)
structure Fx where
 nt:Nat
 tab:List (Nat×Ty)
 G:List (Nat×lO)
 N:Nat
 fn:Func
 args:List AM
 res:List AM
 pcs:List Pc
 lk:Option (Ty×List Step×Ty×List Nat):=none
namespace Fx
variable(X:Fx)
abbrev R:=Option (HP X.res)
def E:Env:={nt:=X.nt,ty:=λi=>Mz i X.tab,Γ:=Bb X.G,N:=X.N,vK:=λr=>MA X.pcs (2*r+1),xI:=λr=>MA X.pcs (2*r),io:=E1 X.args 0,lk:=X.lk}
@[reducible] def c(i:Nat):List (Nat×CM):=(VT X.pcs i).c
def path(i:Nat):List Nat:=(VT X.pcs i).path
def odd(i:Nat):Bool:=Nat.beq (i%2) 1
def cut(ρ:Nat→St→X.R)(l:Nat):St→X.R:=fun σ=>vO (some (X.c l)) σ (ρ l)
def ks(ρ:Nat→St→X.R)(i:Nat):List (St→X.R):=(VT X.pcs i).ks.map (X.cut ρ)
def lp(ρ:Nat→St→X.R)(i n:Nat):St→X.R:=lpF X.E X.fn X.args X.res (X.c i) (X.path i) (X.ks ρ i) n
def ca(ρ:Nat→St→X.R)(i:Nat):St→X.R:=cond (odd i) (X.lp ρ i X.N) (atF X.E X.fn X.args X.res (X.path i) (X.ks ρ i))
def own(ρ:Nat→St→X.R)(i:Nat):List (St→X.R):=X.ks ρ i++cond (odd i) [X.cut ρ i] []
def Pu(K ρ:Nat→St→X.R)(i:Nat):St→X.R:=atQ X.E X.fn X.args X.res (λr=>K (2*r)) (λr=>K (2*r+1)) (X.path i) (X.own ρ i)
def tl(K ρ:Nat→St→X.R)(i:Nat):List ((St→X.R)×(St→X.R)):=wh X.E (λr=>K (2*r)) (λr=>K (2*r+1)) (Zu X.E X.fn X.args X.res (X.path i) (X.own ρ i))
@[reducible] def cu(i:Nat)(κ:St→X.R):UN (X.c i) X.R:=al1 κ (X.c i) S0
@[reducible] def bd(K ρ:Nat→St→X.R)(i:Nat):UN (X.c i) X.R:=X.cu i (X.Pu K ρ i)
@[reducible] def kc(ρ:Nat→St→X.R)(i:Nat):UN (X.c i) X.R:=X.cu i (ρ i)
def Ci:Nat→St→X.R:=λ_ _=>none
def top(K:Nat→St→X.R):yE X.args X.R:=S8 X.args λx=>atQ X.E X.fn X.args X.res (λr=>K (2*r)) (λr=>K (2*r+1)) [] [] (entry X.args x 0 S0)
def tlT(K:Nat→St→X.R):List ((St→X.R)×(St→X.R)):=wh X.E (λr=>K (2*r)) (λr=>K (2*r+1)) (Zu X.E X.fn X.args X.res [] [])
def S(q:Bool)(g:yE X.args X.R):lO:={args:=X.args,res:=X.res,quiet:=q,run:=Hg X.args g}
variable{X}
theorem Zv(f:Nat→St→X.R): ∀rF:List Nat,S6 (rF.map λt=>(f t,f t))
 |[]=>trivial
 |_::r=>⟨rfl,Zv f r⟩
theorem okJ{i:Nat}(rF:List Nat)(hi:odd i=false)(hr: ∀K ρ,X.tl K ρ i=rF.map λt=>(K t,X.ca ρ t)){g:(Nat→St→X.R)→(Nat→St→X.R)→UN (X.c i) X.R}(h: ∀K ρ,X.bd K ρ i=g K ρ)(ρ:Nat→St→X.R):X.kc (X.ca ρ) i=g (X.ca ρ) ρ:=by
 rw[←h]
 have:X.ca ρ i=X.Pu (X.ca ρ) ρ i:=by
  funext σ
  have h1:=hr (X.ca ρ) ρ
  unfold tl own at h1
  rw[hi,av,ch]at h1
  unfold Pu own
  rw[hi,av,ch]
  rw[←at_eq X.E X.fn X.args X.res h1 (Zv (X.ca ρ) rF) σ]
  unfold ca;rw[hi];rfl
 unfold kc bd
 rw[this]
def okb(X:Fx)(i:Nat):Bool:=odd i&&(VT X.pcs i).ks.all λl=> !(Nat.beq l i)
theorem okL{i:Nat}(rF:List Nat)(hi:okb X i=true)(hr: ∀K ρ,X.tl K ρ i=rF.map λt=>(K t,X.ca ρ t)){g:(Nat→St→X.R)→(Nat→St→X.R)→UN (X.c i) X.R}(h: ∀K ρ,X.bd K ρ i=g K ρ)(ρ:Nat→St→X.R)
  (G:Nat→UN (X.c i) X.R) (h0:X.cu i (λ_=>none)=G 0) (hs: ∀n ρ',X.kc ρ' i=G n→(∀l,Nat.beq l i=false→X.kc ρ' l=X.kc ρ l)→g (X.ca ρ') ρ'=G (n+1)):X.kc (X.ca ρ) i=G X.N:=by
 unfold okb at hi
 rw[bP]at hi
 obtain⟨hi,hk⟩:=hi
 have key: ∀n,X.cu i (X.lp ρ i n)=G n:=by
  intro n
  induction n with
  |zero=>exact h0
  |succ n ih=>
   let ρ':Nat→St→X.R:=λl=>cond (Nat.beq l i) (X.lp ρ i n) (ρ l)
   have e1:ρ' i=X.lp ρ i n:=by show cond (Nat.beq i i) _ _=_;rw[sY];rfl
   have e2: ∀l,Nat.beq l i=false→ρ' l=ρ l:=λl hl=>by show cond (Nat.beq l i) _ _=_;rw[hl];rfl
   rw[←hs n ρ' (by unfold kc;rw[e1];exact ih) (λl hl=>by unfold kc;rw[e2 l hl]),←h]
   have e3:X.ks ρ' i=X.ks ρ i:=by
    unfold ks
    refine qo λl hl=> ?_
    have:=qu.1 hk l hl
    unfold cut
    rw[e2 l (by simpa using this)]
   have:X.lp ρ i (n+1)=X.Pu (X.ca ρ') ρ' i:=by
    funext σ
    have h1:=hr (X.ca ρ') ρ'
    unfold tl own at h1
    rw[hi,ak]at h1
    unfold Pu own
    rw[hi,ak]
    rw[←at_eq X.E X.fn X.args X.res h1 (Zv (X.ca ρ') rF) σ]
    unfold lp
    rw[VO,e3]
    unfold cut
    rw[e1];rfl
   unfold bd
   rw[this]
 have:X.ca ρ i=X.lp ρ i X.N:=by unfold ca;rw[hi];rfl
 unfold kc
 rw[this];exact key _
def JU(P:Program):List (Nat×lO)→Prop
 |[]=>True
 |q::r=>iA P q.1 q.2∧JU P r
structure _root_.VM.Kn(P:Program) where
 f:Nat
 S:lO
 ok:iA P f S
def _root_.VM.Kn.p{P:Program}(k:Kn P):Nat×lO:=(k.f,k.S)
def _root_.VM.Kn.l{P:Program}:List (Kn P)→List (Nat×lO)
 |[]=>[]
 |k::r=>k.p::Kn.l r
theorem _root_.VM.Kn.all{P:Program}: ∀l:List (Kn P),JU P (Kn.l l)
 |[]=>trivial
 |k::r=>⟨k.ok,Kn.all r⟩
theorem Bc{P:Program}: ∀{l:List (Nat×lO)},JU P l→ ∀f S,S∈Bb l f→iA P f S
 |[],_,f,S,h=>by simp[Bb]at h
 |q::r,ha,f,S,h=>by
  unfold Bb at h
  cases hb:Nat.beq f q.1<;>rw[hb]at h
  ·exact Bc ha.2 f S h
  ·rcases aX.1 h with rfl|h
   ·rw[fT hb];exact ha.1
   ·exact Bc ha.2 f S h
theorem E2: ∀{l:List Pc},(l.all λp=>jU p.c)=true→ ∀i L,MA l i=some L→jU L=true
 |q::r,ha,i,L,h=>by
  rw[El,bP]at ha
  unfold MA at h
  cases hb:Nat.beq i q.k<;>rw[hb]at h
  ·exact E2 ha.2 i L h
  ·cases h;exact ha.1
def chk(X:Fx)(q:Bool):Bool:=(X.pcs.all λp=>jU p.c)&&((!(X.fn.name== "runtime.NumGoroutine")&&Nat.beq X.nt X.fn.ntmps)&&(X.fn.body.isSome&&(Nat.ble X.args.length X.nt&&((!q||X.res.all AM.flat)&&decide (m1 X.args=m1 X.res)))))
theorem MB: ∀{ms:List AM} {k i:Nat} {m:AM},ms[i]? =some m→m.iz=true→k+i∈E1 ms k
 |[],_,_,_,h,_=>by simp at h
 |m::ms,k,0,m',h,uW=>by
  simp only[Lr,iq]at h
  subst h
  cases m<;>simp[AM.iz]at uW<;>simp[E1]
 |m::ms,k,i+1,m',h,uW=>by
  have:=MB (ms:=ms) (k:=k+1) (i:=i) (by simpa using h) uW
  rw[show k+(i+1)=k+1+i from by omega]
  cases m<;>simp only[E1]<;>first|exact a6 _ this|exact this
theorem Rq: ∀{ms:List AM} {k i:Nat},i∈E1 ms k→i<k+ms.length
 |[],_,_,h=>by simp[E1]at h
 |m::ms,k,i,h=>by
  have hr:i∈E1 ms (k+1)→i<k+(m::ms).length:=λh=>by have:=Rq h;simp only[aR];omega
  cases m<;>simp only[E1]at h<;>first
   |exact hr h
   |(rcases aX.1 h with rfl|h<;>first|exact hr h|(simp only[aR];omega))
variable(X)in
theorem MC{P:Program}(ht:E0 P X.tab)(hG:JU P X.G)(hc:(X.pcs.all λp=>jU p.c)=true):sb P X.E:=by
 have kW: ∀t τ,Mz t X.tab=some τ→tf P τ (.inl t)=true∧Zs P τ t=true:=λt τ h=>by
  have:=qu.1 ht.ok _ (H8 h)
  simpa using this
 exact{ty:=λt τ h=>gO (kW t τ h).1,eq:=λt τ h hc ha=>Zt (gO (kW t τ h).1) (kW t τ h).2 hc ha,alE:=Bc hG,mixed:=ht.mixed,jU:=λi L h=>E2 hc _ L h,Vm:=λi L h=>E2 hc _ L h}
theorem mkS{P:Program}(ht:E0 P X.tab){f:FuncId}(hf:P.funcs[f]? =some X.fn){q:Bool}(hc:chk X q=true)(hG:JU P X.G){g:yE X.args X.R}(h: ∀x,LO X.E X.fn X.args X.res x=Hg X.args g x):iA P f (X.S q g):=by
 unfold chk at hc
 simp only[bP]at hc
 obtain⟨h0,⟨h1,h2⟩,h3,h4,h5,h6⟩:=hc
 refine VF (MC X ht hG h0) hf (by simpa using h1) (fT h2) (X.S q g) (λi m hm uW=> ?_) (λi hi=> ?_) ?_ (λhq=> ?_) (bz h6) h
 ·have:=MB (k:=0) hm uW
  rwa [gh]at this
 ·have:=Rq (k:=0) hi
  rwa [gh]at this
 ·have:=D7 h4
  rwa [fT h2]at this
 ·have hq:q=true:=hq
  subst hq
  show X.res.all AM.flat=true
  simpa using h5
theorem Zw{g:yE X.args X.R}(h:S8 X.args (LO X.E X.fn X.args X.res)=g)(x:HP X.args):LO X.E X.fn X.args X.res x=Hg X.args g x:=by rw[←h,JT]
variable(X)in
theorem ok0{P:Program}(ht:E0 P X.tab){f:FuncId}(hf:P.funcs[f]? =some X.fn){q:Bool}(hc:chk X q=true)(hG:JU P X.G){g:yE X.args X.R}(h:S8 X.args (LO X.E X.fn X.args X.res)=g):iA P f (X.S q g):=
 mkS ht hf hc hG (Zw h)
theorem al2(hb:X.fn.body.isSome=true)(rF:List Nat)(hr: ∀K,X.tlT K=rF.map λt=>(K t,X.ca X.Ci t))
  {g:(Nat→St→X.R)→yE X.args X.R} (h: ∀K,X.top K=g K) {f:yE X.args X.R} (hf:g (X.ca X.Ci)=f) (x:HP X.args):LO X.E X.fn X.args X.res x=Hg X.args f x:=by
 rw[←hf,←h,ahn hb]
 unfold top
 rw[JT]
 exact at_eq X.E X.fn X.args X.res (hr (X.ca X.Ci)) (Zv (X.ca X.Ci) rF) _
variable(X)in
theorem ok1{P:Program}(ht:E0 P X.tab){f:FuncId}(hf:P.funcs[f]? =some X.fn){q:Bool}(hc:chk X q=true)(hG:JU P X.G)(rF:List Nat)(hr: ∀K,X.tlT K=rF.map λt=>(K t,X.ca X.Ci t))
  {g:(Nat→St→X.R)→yE X.args X.R} (h: ∀K,X.top K=g K) {f':yE X.args X.R} (AX:g (X.ca X.Ci)=f'):iA P f (X.S q f'):=by
 have hb:X.fn.body.isSome=true:=by
  unfold chk at hc
  simp only[bP]at hc
  exact hc.2.2.1
 exact mkS ht hf hc hG (al2 hb rF hr h AX)
theorem uJ{i:Nat}(rF:List Nat){g:(Nat→St→X.R)→(Nat→St→X.R)→UN (X.c i) X.R}(h: ∀K ρ,X.bd K ρ i=g K ρ)(ρ:Nat→St→X.R){f:UN (X.c i) X.R}(hf:g (X.ca ρ) ρ=f:=by rfl)
 (hi:odd i=false:=by kernel_rfl) (hr: ∀K ρ,X.tl K ρ i=rF.map λt=>(K t,X.ca ρ t):=by intro K ρ;kernel_rfl):X.kc (X.ca ρ) i=f:=(okJ rF hi hr h ρ).trans hf
theorem uL{i:Nat}(rF:List Nat){g:(Nat→St→X.R)→(Nat→St→X.R)→UN (X.c i) X.R}(h: ∀K ρ,X.bd K ρ i=g K ρ)(ρ:Nat→St→X.R)
 (G:Nat→UN (X.c i) X.R) (hs: ∀n ρ',X.kc ρ' i=G n→(∀l,Nat.beq l i=false→X.kc ρ' l=X.kc ρ l)→g (X.ca ρ') ρ'=G (n+1)) (h0:X.cu i (λ_=>none)=G 0:=by rfl)
 (hi:okb X i=true:=by kernel_rfl) (hr: ∀K ρ,X.tl K ρ i=rF.map λt=>(K t,X.ca ρ t):=by intro K ρ;kernel_rfl):X.kc (X.ca ρ) i=G X.N:=okL rF hi hr h ρ G h0 hs
variable(X)in
theorem u0{P:Program}(ht:E0 P X.tab){f:FuncId}(hf:P.funcs[f]? =some X.fn){q:Bool}{g:yE X.args X.R}(hG:JU P X.G:=by first|exact trivial|exact Kn.all _)(hc:chk X q=true:=by kernel_rfl)(h:S8 X.args (LO X.E X.fn X.args X.res)=g:=by kernel_rfl):iA P f (X.S q g):=ok0 X ht hf hc hG h
variable(X)in
theorem u1{P:Program}(ht:E0 P X.tab){f:FuncId}(hf:P.funcs[f]? =some X.fn)(rF:List Nat)
 {g:(Nat→St→X.R)→yE X.args X.R} (h: ∀K,X.top K=g K) {q:Bool} {f':yE X.args X.R} (AX:g (X.ca X.Ci)=f':=by rfl) (hG:JU P X.G:=by first|exact trivial|exact Kn.all _) (hc:chk X q=true:=by kernel_rfl) (hr: ∀K,X.tlT K=rF.map λt=>(K t,X.ca X.Ci t):=by intro K;kernel_rfl):iA P f (X.S q f'):=ok1 X ht hf hc hG rF hr h AX
end Fx
end VM
end
section
namespace VM
open Go
variable{P:Program}
theorem Left.same(w:World)(M0:Nat→Prop)(h: ∀b,M0 b→b<w.heap.size):Left w M0 [] w M0:=
 ⟨λ_ h=>h,h,λ_ _ h=> .inl h,λ_ _ _=>rfl,aG _,rfl,rfl,rfl⟩
theorem al3{w:World}{M:Nat→Prop}{a b c:IntKind}{x:HP [.v (.int a),.v (.int b),.v (.int c)]}{vs:List Value}(h:jy w M [.v (.int a),.v (.int b),.v (.int c)] x vs):vs=[.int a x.1,.int b x.2.1,.int c x.2.2]:=by
 simp only[jy,A1,V,Ty.isAgg,iQ,eQ,Rd,fe,eP]at h
 obtain⟨v,vs,rfl,rfl,v,vs,rfl,rfl,v,vs,rfl,rfl,rfl⟩:=h
 rfl
theorem rr2{w:World}{M:Nat→Prop}{a b:IntKind}(x y:Int):RR w M [.v (.int a),.v (.int b)] (x,y) [.int a x,.int b y] []:=by
 simp only[RR]
 refine .inr ⟨_,_,rfl,rfl,rfl,?_,.inr ⟨_,_,rfl,rfl,rfl,?_,rfl,trivial⟩⟩<;>simp[A1,V,Ty.isAgg,Rd,sQ,xO]
theorem Rr{f:FuncId}(run:Int×Int×Int→Option (Int×Int))
  (h: ∀(w:World) (a b c u v:Int),run (a,b,c)=some (u,v)→(callFunc f #[.int .u64 a,.int .u64 b,.int .u64 c]).run P w= .ok (.value (.tuple #[.int .u64 u,.int .u64 v])) w):
  iA P f {args:=[.v (.int .u64),.v (.int .u64),.v (.int .u64)],res:=[.v (.int .u64),.v (.int .u64)],quiet:=true,run}:=by
 refine⟨λ_=>rfl,rfl,λM0 w vs x y rE hA _ _ hy=> ?_⟩
 have Y0:=al3 hA
 subst Y0
 exact Ha (h w x.1 x.2.1 x.2.2 y.1 y.2 hy) ⟨_,M0,rfl,rr2 y.1 y.2,Left.same w M0 rE,List.nodup_nil,λb hb=>by cases hb⟩
theorem Bd(nm:String)(a b c:Nat)(h:c≤1)(w:World):(Extern.MathBitsCarry.three nm #[.int .u64 a,.int .u64 b,.int .u64 c]).run P w= .ok (a,b,c) w:=by
 have h5: ¬(1<c):=ω
 have:Extern.MathBitsCarry.three nm #[.int .u64 a,.int .u64 b,.int .u64 c]=(do
  let c:=(←asInt (.int .u64 c)).toNat
  if c>1 then unsupported (.noEntry ("extern/math/bits." ++nm++ ": a carry that is neither 0 nor 1"))
  pure ((←asInt (.int .u64 a)).toNat,(←asInt (.int .u64 b)).toNat,c)):=rfl
 rw[this]
 simp[asInt,asIntOf]
 omega
theorem S9{f:FuncId}{fn:Func}(N:Nat)(hf:P.funcs[f]? =some fn)(zQ:(fn.name== "runtime.NumGoroutine")=false)(hb:fn.body.isNone=true)(hn:Extern.findNext fn=none)
  (he:Extern.find fn=(Extern.MathBitsCarry.rows[0]?).map (·.2)):iA P f (yb.S N):=by
 refine Rr (λx=>yb N x.1 x.2.1 x.2.2) λw a b c u v hy=> ?_
 simp only[yb]at hy
 split at hy
 ·rename_i hc
  obtain⟨h1,h2,h3,h4⟩:=hc
  obtain⟨a,rfl⟩:=tM h1
  obtain⟨b,rfl⟩:=tM h2
  obtain⟨c,rfl⟩:=tM h3
  cases hy
  rw[run_callFunc_extern hf zQ hb hn he]
  simp[Bd _ a b c ω,Extern.MathBitsCarry.pair,Extern.MathBitsCarry.m64]
 ·cases hy
theorem Ta{f:FuncId}{fn:Func}(N:Nat)(hf:P.funcs[f]? =some fn)(zQ:(fn.name== "runtime.NumGoroutine")=false)(hb:fn.body.isNone=true)(hn:Extern.findNext fn=none)
  (he:Extern.find fn=(Extern.MathBitsCarry.rows[1]?).map (·.2)):iA P f (uT.S N):=by
 refine Rr (λx=>uT N x.1 x.2.1 x.2.2) λw a b c u v hy=> ?_
 simp only[uT]at hy
 split at hy
 ·rename_i hc
  obtain⟨h1,pg,h2,yg,h3,h4⟩:=hc
  obtain⟨a,rfl⟩:=tM h1
  obtain⟨b,rfl⟩:=tM h2
  obtain⟨c,rfl⟩:=tM h3
  cases hy
  rw[run_callFunc_extern hf zQ hb hn he]
  have e1:((a+18446744073709551616-b-c:Nat):Int)=(a:Int)+18446744073709551616-b-c:=ω
  by_cases h:a<b+c
  ·have h':(a:Int)<(b:Int)+(c:Int):=ω
   simp[Bd _ a b c ω,Extern.MathBitsCarry.pair,Extern.MathBitsCarry.m64,e1,h,h']
  ·have h': ¬(a:Int)<(b:Int)+(c:Int):=ω
   simp[Bd _ a b c ω,Extern.MathBitsCarry.pair,Extern.MathBitsCarry.m64,e1,h,h']
 ·cases hy
end VM
end
section
namespace VM
open Go Go.Shelf Go.RowKit Go.Lib Go.Proofs
variable{P:Program}{ρ:Ren}
def VU(ρ:Ren)(fn:Func):Func:={fn with body:=(Body2.n22 ρ).body,ntmps:=95,results:=(Body2.n22 ρ).results,nfree:=0}
theorem wi(ρ:Ren)(fn:Func):(VU ρ fn).ntmps=95:=rfl
structure Tb(P:Program)(e:Ty)(ρ:Ren)(f:FuncId)(fn fo:Func):Prop where
 hf:P.funcs[f]? =some (VU ρ fn)
 t3:P.underlying (ρ.t 3)=some (.int .i64)
 t4:P.underlying (ρ.t 4)=some .bool
 t24:P.underlying (ρ.t 24)=some (.slice (ρ.t 9))
 lay:kA P e (ρ.t 9)
 pJ:0<e.size
 mixed:P.follows .mixedOrders=true
set_option maxHeartbeats 4000000 in
set_option maxRecDepth 100000 in
theorem JV{e:Ty}{f:FuncId}{fn fo:Func}(L:Tb P e ρ f fn fo)(w:World)(base:Option Addr)(n c m vc:Nat)(va:Addr)(v':Value)(w':World)(hm:0<m)(hn:n≤c)
  (Mh: ∀ty,(Builtin.append_ #[ρ.t 24,ρ.t 24] ty #[.slice base n c,.slice (some va) m vc]).run P w= .ok v' w'):
   Calls P f #[.slice base n c,.int .i64 n,.slice (some va) m vc] w λr w2=>r= .returned v'∧w2=w':=by
 have u3:=run_underlying L.t3;have u4:=run_underlying L.t4;have u24:=run_underlying L.t24
 have t3:=L.t3;have t4:=L.t4;have t24:=L.t24
 have z9:=λw=>de L.lay w
 have mixed:=L.mixed
 have B5: ¬((m:Int)=0):=ω
 go_enter L.hf,wi ρ fn
 cases base with
 |none=>
   go_wp2_with (at_builtin;refine Lib.wpList_append_run _ rfl _ _ _ _ rfl _ _ rfl rfl _ _ (Mh _) ?_)
   all_goals (go_ret;exact⟨rfl,rfl⟩)
 |some a=>
   obtain⟨ab,ao,asp⟩:=a
   go_wp2_with (at_builtin;refine Lib.wpList_append_run _ rfl _ _ _ _ rfl _ _ rfl rfl _ _ (Mh _) ?_)
   all_goals (go_ret;exact⟨rfl,rfl⟩)
theorem run_copy_row{t te e:TypeId}{k:Nat}(ht:P.underlying t=some (.slice e))(hk: ∀w,(Go.sizeOf e).run P w= .ok k w){W:World}{b o al4 art ahp al5 n:Nat}{a:Addr}{cs:Array Value}(hg:W.heap[b]? =some (.cells cs te (0,0)))
  {news:List Value} (hnn:Nat.min ahp al4=n) (hl:news.length=n*k) (hn: ∀j u,news[j]? =some u→W.cell? (a.add j)=some u) (h1: ∀u∈news,u.oneCell'=true) (Ma:o+news.length≤cs.size) (ty:TypeId):
  (Builtin.copy_ #[t,t] ty #[.slice (some ⟨b,o,none⟩) al4 art,.slice (some a) ahp al5]).run P W= .ok (goInt n) (W.setRow b (e8 cs.toList o news).toArray):=by
 have hf:=run_firstCells_some (P:=P) W k n a ahp al5 news hl hn
 have GG:=run_storeCells_at (P:=P) b o te news 0 cs W hg ω h1
 simp only[mT]at GG
 simp[Builtin.copy_,run_underlying ht,hk,Builtin.lenOf,hnn,hf,GG,e8]
set_option maxHeartbeats 4000000 in
set_option maxRecDepth 100000 in
theorem Tc{e:Ty}{f:FuncId}{fn fo:Func}(L:Tb P e ρ f fn fo)(w:World)(b n c i m vc:Nat)(va:Addr)(JW VV:Array Value)(hi:i<n)(hm:0<m)(hr:n+m≤c)(aru:c≤9223372036854775807)
  (hov: ∀x lb cb,(callFunc (ρ.f 29) #[.slice (some va) m vc,.slice (some ⟨b,x,none⟩) lb cb]).run P w= .ok (.value (.bool false)) w)
  (Zx: ∀ty dc sc,(Builtin.copy_ #[(ρ.t 24),(ρ.t 24)] ty #[.slice (some ⟨b,(i+m)*e.size,none⟩) (n+m-(i+m)) dc,.slice (some ⟨b,i*e.size,none⟩) (n+m-i) sc]).run P w.drew= .ok (goInt ((n-i:Nat):Int)) (w.drew.setRow b JW))
  (Zy: ∀W:World,W.heap=(w.setRow b JW).heap→ ∀ty dc,(Builtin.copy_ #[(ρ.t 24),(ρ.t 24)] ty #[.slice (some ⟨b,i*e.size,none⟩) (n+m-i) dc,.slice (some va) m vc]).run P W= .ok (goInt m) (W.setRow b VV)):
   Calls P f #[.slice (some ⟨b,0,none⟩) n c,.int .i64 i,.slice (some va) m vc] w λr w2=>r= .returned (.slice (some ⟨b,0,none⟩) (n+m) c)∧w2=(w.drew.setRow b JW).setRow b VV:=by
 have u3:=run_underlying L.t3;have u4:=run_underlying L.t4;have u24:=run_underlying L.t24
 have t3:=L.t3;have t4:=L.t4;have t24:=L.t24
 have z9:=λw=>de L.lay w
 have mixed:=L.mixed
 have B5: ¬((m:Int)=0):=ω
 have GM: ¬((i:Int)=(n:Int)):=ω
 have hw1:IntKind.i64.wrap ((i:Int)+(m:Int))=(i:Int)+(m:Int):=by rw[IntKind.wrap_i64];omega
 have me:(0:Int)≤(i:Int)+(m:Int):=ω
 have lK:i≤n:=ω
 have S1:((i:Int)+(m:Int)).toNat=i+m:=ω
 have tI: ¬(c=i+m):=ω
 have hb3:(i:Int)≤(n:Int)+(m:Int):=ω
 have hb4: ¬(c=i):=ω
 go_enter L.hf,wi ρ fn
 go_wp2_with (simp only[hov])
 go_region_law_o (refine step_copy_runI rfl _ _ (ρ.t 24) (ρ.t 24) rfl _ _ (by simp[Act.eval,Act.put]) (by simp[Act.eval,Act.put]) (Zx _ _ _) ?_)
 have h2:=Zy (w.drew.setRow b JW) rfl
 go_wp2
 go_ret
 exact⟨rfl,rfl⟩
set_option maxHeartbeats 4000000 in
set_option maxRecDepth 100000 in
theorem VW{e:Ty}{f:FuncId}{fn fo:Func}(L:Tb P e ρ f fn fo)(w:World)(b n c i m vc nb G:Nat)(va:Addr)(Td JW VV:Array Value)(hi:i<n)(hm:0<m)(hnc:n≤c)(hr:c<n+m)(aru:c≤9223372036854775807)(h63:n+m≤9223372036854775807)(hG:n+m≤G)(ayF:G≤9223372036854775807)
  (Mh: ∀ty,(Builtin.append_ #[(ρ.t 24),(ρ.t 3)] ty #[.slice (some ⟨b,0,none⟩) i c,.int .i64 ((n:Int)+(m:Int)-(i:Int))]).run P w= .ok (.slice (some ⟨w.heap.size,0,none⟩) (n+m) G) (w.drew.alloc (.cells Td (ρ.t 9))))
  (Zx: ∀W:World,W.heap=(w.alloc (.cells Td (ρ.t 9))).heap→ ∀ty dc,(Builtin.copy_ #[(ρ.t 24),(ρ.t 24)] ty #[.slice (some ⟨w.heap.size,i*e.size,none⟩) (n+m-i) dc,.slice (some va) m vc]).run P W= .ok (goInt m) (W.setRow w.heap.size JW))
  (Zy: ∀W:World,W.heap=((w.alloc (.cells Td (ρ.t 9))).setRow w.heap.size JW).heap→ ∀ty dc sc,(Builtin.copy_ #[(ρ.t 24),(ρ.t 24)] ty #[.slice (some ⟨w.heap.size,(i+m)*e.size,none⟩) (n+m-(i+m)) dc,.slice (some ⟨b,i*e.size,none⟩) (n-i) sc]).run P W= .ok (goInt ((n-i:Nat):Int)) (W.setRow w.heap.size VV)):
   Calls P f #[.slice (some ⟨b,0,none⟩) n c,.int .i64 i,.slice (some va) m vc] w λr w2=>r= .returned (.slice (some ⟨w.heap.size,0,none⟩) (n+m) G)∧w2=((w.drew.alloc (.cells Td (ρ.t 9))).setRow w.heap.size JW).drew.setRow w.heap.size VV:=by
 have u3:=run_underlying L.t3;have u4:=run_underlying L.t4;have u24:=run_underlying L.t24
 have t3:=L.t3;have t4:=L.t4;have t24:=L.t24
 have z9:=λw=>de L.lay w
 have mixed:=L.mixed
 have B5: ¬((m:Int)=0):=ω
 have GM: ¬((i:Int)=(n:Int)):=ω
 have hz3:(c:Int)<(n:Int)+(m:Int):=ω
 have hw1:IntKind.i64.wrap ((i:Int)+(m:Int))=(i:Int)+(m:Int):=by rw[IntKind.wrap_i64];omega
 have me:(0:Int)≤(i:Int)+(m:Int):=ω
 have lK:i≤n:=ω
 have S1:((i:Int)+(m:Int)).toNat=i+m:=ω
 have hGi: ¬(G=i):=ω
 have ayG: ¬(G=i+m):=ω
 have hci: ¬(c=i):=ω
 have hb3:(i:Int)≤(n:Int):=ω
 have h1:=Zx ((w.alloc (.cells Td (ρ.t 9))).drew) rfl
 have h2:=Zy (((w.alloc (.cells Td (ρ.t 9))).drew.setRow w.heap.size JW).drew) rfl
 go_enter L.hf,wi ρ fn
 go_wp2_with (first
   |(at_builtin;refine Lib.wpList_append_run _ rfl _ _ _ _ rfl _ _ rfl rfl _ _ (Mh _) ?_)
   |(at_builtin;refine wpList_copy_runI _ rfl _ _ (ρ.t 24) (ρ.t 24) rfl _ _ rfl rfl (Zx _ (by exact rfl) _ _) ?_)
   |(at_builtin;refine wpList_copy_runI _ rfl _ _ (ρ.t 24) (ρ.t 24) rfl _ _ rfl rfl (Zy _ (by exact rfl) _ _ _) ?_))
 go_region_law_o (refine step_copy_runI rfl _ _ (ρ.t 24) (ρ.t 24) rfl _ _ (by simp[Act.eval,Act.put]) (by simp[Act.eval,Act.put]) (h2 _ _ _) ?_)
 go_wp2
 go_ret
 exact⟨rfl,rfl⟩
theorem DH{α:Type}(A Z news:List α):e8 (A++Z) A.length news=A++(news++Z.drop news.length):=by
 unfold e8
 rw[vA rfl,br,←jx,mP rfl]
theorem qJ.al7{w:World}{M:Nat→Prop}{e:Ty}{cs:List Value}{l:List e.den}(h:qJ w M e cs l)(i:Nat):qJ w M e (cs.take (i*e.size)) (l.take i):=by
 intro j hj
 rw[cc]at hj
 have:=eh (s:=e.size) (show j<i by omega)
 rw[qv,qw,ir ω,Ed]
 exact h j ω
theorem qJ.al8{w:World}{M:Nat→Prop}{e:Ty}{cs:List Value}{l:List e.den}(h:qJ w M e cs l)(i:Nat):qJ w M e ((cs.drop (i*e.size)).take ((l.length-i)*e.size)) (l.drop i):=by
 intro j hj
 rw[dO]at hj
 have:=eh (s:=e.size) hj
 rw[qv,qw,ir ω,jx,Ec,←eg]
 exact h (i+j) ω
theorem xl{w w':World}{M0:Nat→Prop}{hs:List Nat}{e:Ty}{rb cap:Nat}{row:Array Value}{t:TypeId}{l:List e.den}(rE: ∀b,M0 b→b<w.heap.size)(we: ∀b∈hs,¬M0 b)
  (Vl: ∀b,b<w.heap.size→b∉hs→w'.heap[b]? =w.heap[b]?) (sP:w.heap.size≤w'.heap.size) (hrb:rb<w.heap.size→rb∈hs) (hos:w'.os=w.os) (htp:w'.tape=w.tape) (PI:w'.output=w.output)
  (PJ:w'.heap[rb]? =some (.cells row t (0,0))) (h0:0<cap) (hl:l.length≤cap) (hm:cap≤maxLen) (hrs:row.size=cap*e.size) (kM:qJ w (λb=>M0 b∨b∈hs) e row.toList l):
  ∃us M',Value.slice (some ⟨rb,0,none⟩) l.length cap=vY us∧RR w' M' [.own e] l us []∧Left w M0 hs w' M'∧(bF [.own e] us []).Nodup∧ ∀b∈bF [.own e] us [],¬M0 b:=by
 have HM:rb<w'.heap.size:=(kt.1 PJ).1
 have hk:eY w (λb=>M0 b∨b∈hs) w' (λb=>M0 b∨b=rb):=⟨sP,λb hb hn=>Vl b hb (λh=>hn (.inr h)),λb hb h=>h.elim .inl (λe=> .inr (e▸hrb (e▸hb)))⟩
 have vR:bF [.own e] [Value.slice (some ⟨rb,0,none⟩) l.length cap] []=[rb]:=by
  have:cap≠0:=ω
  simp[bF,c9,AM.iz,fH,this]
 refine⟨[.slice (some ⟨rb,0,none⟩) l.length cap],λb=>M0 b∨b=rb,rfl,?_,?_,?_,?_⟩
 ·simp only[RR]
  refine .inr ⟨_,[],rfl,rfl,rfl,?_,rfl,trivial⟩
  simp only[A1,ER,sQ]
  exact .inr ⟨rb,row,t,cap,rfl,PJ,.inr rfl,h0,hl,hm,hrs,kM.bZ hk⟩
 ·exact⟨λb h=> .inl h,λb h=>h.elim (λh=>mL (rE b h) sP) (λh=>h▸HM),λb hb h=>h.elim .inl (λe=> .inr (e▸hrb (e▸hb))),Vl,sP,hos,htp,PI⟩
 ·rw[vR];simp
 ·rw[vR]
  intro b hb h
  rw[bT]at hb
  subst hb
  exact we b (hrb (rE b h)) h
theorem setRow_other(w:World){b c:Nat}(r:Array Value)(h:c≠b):(w.setRow b r).heap[c]? =w.heap[c]? :=by
 unfold World.setRow
 rw[Array.getElem?_modify,ah (λe=>h e.symm)]
theorem setRow_size(w:World)(b:Nat)(r:Array Value):(w.setRow b r).heap.size=w.heap.size:=by
 unfold World.setRow;simp
theorem alloc_old(w:World)(o:Obj){c:Nat}(h:c<w.heap.size):(w.alloc o).heap[c]? =w.heap[c]? :=by
 show(w.heap.push o)[c]? =_
 rw[Array.getElem?_push,ah ω]
theorem qf(w:World)(o:Obj):(w.alloc o).heap[w.heap.size]? =some o:=by
 show(w.heap.push o)[w.heap.size]? =_
 simp
theorem nS(w:World)(o:Obj):(w.alloc o).heap.size=w.heap.size+1:=by
 show(w.heap.push o).size=_
 simp
theorem ub{w:World}{b:Nat}{cs:Array Value}{t:TypeId}{f:Nat×Nat}(h:w.heap[b]? =some (.cells cs t f))(o n:Nat): ∀j u,((cs.toList.drop o).take n)[j]? =some u→w.cell? ((⟨b,o,none⟩:Addr).add j)=some u:=by
 intro j u hj
 rw[Addr.add_lit]
 rw[lE]at hj
 split at hj
 ·rw[lF,gL]at hj
  simp only[World.cell?,h]
  simpa using hj
 ·cases hj
theorem Rs{w:World}{M:Nat→Prop}{v:Value}{e:Ty}{l:List e.den}(h:ER w M v (.own e l)):(l=[]∧ ∃a,v= .slice a 0 0)∨
 ∃b cs t cap,v= .slice (some ⟨b,0,none⟩) l.length cap∧w.heap[b]? =some (.cells cs t (0,0))∧M b∧0<cap∧l.length≤cap∧cap≤maxLen∧cs.size=cap*e.size∧qJ w M e cs.toList l:=h
end VM
end
section
namespace VM
open Go Go.Shelf Go.RowKit Go.Lib Go.Proofs
variable{P:Program}{ρ:Ren}
theorem E3{w:World}{t e':TypeId}{e:Ty}(hu:P.underlying t=some (.slice e'))(hle:kA P e e'){n m cap cp:Nat}{olds news:List Value}{base:Option Addr}{a':Addr}(Vg:base=none→n=0∧cap=0)
  (xN:olds.length=n*e.size) (ho: ∀b,base=some b→ ∀j u,olds[j]? =some u→w.cell? (b.add j)=some u) (YC:news.length=m*e.size) (hn: ∀j u,news[j]? =some u→w.cell? (a'.add j)=some u)
  (hg:cap<n+m) (hs:n+m<zw):
  ∃m0 rest,(∀ty,(Builtin.append_ #[t,t] ty #[.slice base n cap,.slice (some a') m cp]).run P w= .ok (.slice (some ⟨w.heap.size,0,none⟩) (n+m) m0) (w.drew.alloc (.cells (olds++news++rest).toArray e')))∧
   n+m≤m0∧m0≤maxLen∧rest.length=(m0-(n+m))*e.size:=by
 obtain⟨i,hi,sP,hz,hby⟩:=hle.base
 have hzs:(cJ e e.di).cells.size=e.size:=by rw[←bG,gM,ov]
 have h63:n+m≤maxLen:=by simp only[zw,maxLen]at hs ⊢;omega
 have Ma:(n+m)*i.bytes≤140737488355328:=by
  have:(n+m)*i.bytes≤68719476736*2048:=vD (by simp only[zw]at hs;omega) hby
  omega
 refine⟨grownCap w (n+m) cap e',(Builtin.zeroCells (cJ e e.di).cells (grownCap w (n+m) cap e'-(n+m))).toList,λty=> ?_,grownCap_ge _ _ _ _,grownCap_le_maxLen _ _ _ _ h63,?_⟩
 ·cases base with
  |none=>
   obtain⟨rfl,rfl⟩:=Vg rfl
   have ho0:olds=[]:=tJ (by rw[xN];simp)
   subst ho0
   have:=run_append_nil (P:=P) w t ty e' i _ hu hi hz a' m cp news (by rw[YC,sP]) hn (by simpa using hg) (by simp only[zw]at hs;omega) (by simp at Ma;omega)
   simp only[gh,cI]
   rw[this]
   congr 2
   apply ff (λz=>Obj.cells z e' (0,0))
   apply jh;simp
  |some b=>
   have:=run_append_grow (P:=P) w t ty e' i _ hu hi hz b n cap olds (by rw[xN,sP]) (ho b rfl) a' m cp news (by rw[YC,sP]) hn hg (by simp only[zw]at hs;omega) (growslice_fits hg Ma)
   rw[this]
   congr 2
   apply ff (λz=>Obj.cells z e' (0,0))
   apply jh;simp
 ·rw[bG,size_zeroCells,hzs]
theorem Te{w:World}{t tn e':TypeId}{e:Ty}(hu:P.underlying t=some (.slice e'))(S1:P.underlying tn=some (.int .i64))(hle:kA P e e')(ahk:0<e.size){n k cap:Nat}{olds:List Value}{b:Addr}
  (xN:olds.length=n*e.size) (ho: ∀j u,olds[j]? =some u→w.cell? (b.add j)=some u) (hk:0<k) (hg:cap<n+k) (hs:n+k<zw):
  ∃m0 rest,(∀ty,(Builtin.append_ #[t,tn] ty #[.slice (some b) n cap,.int .i64 k]).run P w= .ok (.slice (some ⟨w.heap.size,0,none⟩) (n+k) m0) (w.drew.alloc (.cells (olds++rest).toArray e')))∧
   n+k≤m0∧m0≤maxLen∧rest.length=(m0-n)*e.size:=by
 obtain⟨i,hi,sP,hz,hby⟩:=hle.base
 have hzs:(cJ e e.di).cells.size=e.size:=by rw[←bG,gM,ov]
 have h63:n+k≤maxLen:=by simp only[zw,maxLen]at hs ⊢;omega
 have Ma:(n+k)*i.bytes≤140737488355328:=by
  have:(n+k)*i.bytes≤68719476736*2048:=vD (by simp only[zw]at hs;omega) hby
  omega
 have hkb:k*i.bytes≤281474976710656:=by
  have:k*i.bytes≤(n+k)*i.bytes:=lB _ ω
  omega
 have YG:=grownCap_ge w (n+k) cap e'
 refine⟨grownCap w (n+k) cap e',(Builtin.zeroCells (cJ e e.di).cells k++Builtin.zeroCells (cJ e e.di).cells (grownCap w (n+k) cap e'-(n+k))).toList,λty=> ?_,YG,grownCap_le_maxLen _ _ _ _ h63,?_⟩
 ·have hold:(Builtin.firstCells i.size n (.slice (some b) n cap)).run P w.drew= .ok olds.toArray w.drew:=run_firstCells_some w.drew i.size n b n cap olds (by rw[xN,sP]) (λj u hj=>ho j u hj)
  have:=Lib.run_append_grow_zeros w t tn ty e' i _ .i64 .i64 hu S1 hi hz (some b) n cap olds hold k hk (by rw[sP];exact ahk) hg (by simp only[zw]at hs;omega) hkb (growslice_fits hg Ma)
  rw[this]
  congr 2
  apply ff (λz=>Obj.cells z e' (0,0))
  apply jh;simp
 ·rw[Array.toList_append,aS,bG,bG,size_zeroCells,size_zeroCells,hzs,←eg]
  congr 1;omega
structure OvP(P:Program)(ρ:Ren)(fo:Func):Prop where
 hf:P.funcs[ρ.f 29]? =some fo
 name:(fo.name== "runtime.NumGoroutine")=false
 body:fo.body.isNone=true
 next:Extern.findNext fo=none
 find:Extern.find fo=some (Extern.SlicesOverlaps.overlaps #[ρ.t 24,ρ.t 24] #[ρ.t 4])
theorem E4{e:Ty}{f:FuncId}{fn fo:Func}(L:Tb P e ρ f fn fo)(O:OvP P ρ fo)(zQ:(fn.name== "runtime.NumGoroutine")=false)(VX:(Body2.n22 ρ).body.isNone=false)(N:Nat):iA P f (lJ e N):=by
 refine⟨(λh=>by cases h),rfl,λM0 w vs x y rE hA xP we hy=> ?_⟩
 obtain⟨l,i,v⟩:=x
 have Rn:pQ N l i v=some y:=hy
 clear hy
 simp only[lJ,jy]at hA
 obtain⟨v0,YH,rfl,h0,v1,vs2,rfl,h1,v2,vs3,rfl,h2,rfl⟩:=hA
 simp only[pQ]at Rn
 split at Rn
 case isFalse=>cases Rn
 rename_i hc
 cases Rn
 obtain⟨hi0,GY,PF,JX⟩:=hc
 obtain⟨i,rfl⟩:=tM hi0
 have al9:i≤l.length:=ω
 simp only[A1,sQ,xO,V,Ty.isAgg,iQ,eQ,Rd,fe,eP]at h0 h1 h2
 subst h1
 have hk:=L.pJ
 replace PF:List.length (α:=e.den) v=1:=PF
 rcases Rs h2 with⟨Zp,_⟩|⟨b2,cs2,t2,zW,Y1,U5,JB,hc2,hl2,yc,Tf,yv⟩
 ·rw[Zp]at PF;cases PF
 replace Y1:v2= .slice (some ⟨b2,0,none⟩) 1 zW:=by rw[Y1];congr 1
 subst Y1
 have YZ:e.size≤cs2.toList.length:=by
  rw[bG (xs:=cs2),Tf]
  exact Nat.le_mul_of_pos_left _ hc2
 obtain⟨news,VY⟩: ∃news,news=cs2.toList.take e.size:=⟨_,rfl⟩
 have HL:news.length=1*e.size:=by rw[VY,cc,jP];omega
 have hnr:qJ w (λb=>M0 b∨b∈dM (lJ e N).args [v0,.int .i64 (i:Int),.slice (some ⟨b2,0,none⟩) 1 zW]) e news v:=by
  rw[VY];exact yv.take (by rw[PF,jP];exact aG _)
 have hnc: ∀j u,news[j]? =some u→w.cell? ((⟨b2,0,none⟩:Addr).add j)=some u:=by
  have:=ub U5 0 e.size
  rw[cX]at this
  rw[VY];exact this
 have PU: ∀u∈news,u.oneCell'=true:=by
  have:=hnr 0 ω
  rw[Nat.zero_mul,cX,jw ω]at this
  exact this.ou
 have tI:fH (.slice (some ⟨b2,0,none⟩) 1 zW)=some b2:=by simp[fH];omega
 replace JX:List.length (α:=e.den) l+1<zw:=JX
 have VZ:(List.take i l++(v++List.drop i l)).length=l.length+1:=by rw[aS,aS,cc,dO,PF];omega
 have hbn:(VU ρ fn).body.isNone=false:=VX
 refine sG L.hf zQ hbn ?_
 rcases Rs h0 with⟨rfl,ad,rfl⟩|⟨b1,yW,t1,C8,rfl,Pp,hM1,K5,PV,s9,Pn,zX⟩
 ·
  have hi:i=0:=by simpa using al9
  subst hi
  obtain⟨m0,rest,dD,S5,jI,HM⟩:=E3 (P:=P) (w:=w) L.t24 L.lay (n:=0) (m:=1) (cap:=0) (cp:=zW) (olds:=[]) (news:=news) (base:=ad) (a':=⟨b2,0,none⟩) (λ_=>⟨rfl,rfl⟩) (by simp) (λ_ _ j u hj=>by simp at hj) HL hnc ω (by simp only[zw];omega)
  refine(JV L w ad 0 0 1 zW ⟨b2,0,none⟩ _ _ ω (aG _) dD).mono ?_
  rintro e1 w' ⟨rfl,rfl⟩
  refine⟨_,rfl,?_⟩
  simp only[gh]at S5 HM
  have hv:v=v++[]:=by simp
  have:=xl (e:=e) (rb:=w.heap.size) (cap:=m0) (l:=v) (t:=ρ.t 9) (w:=w) (w':=w.drew.alloc (.cells ([]++news++rest).toArray (ρ.t 9))) rE we (λb hb _=>alloc_old w.drew _ hb) (by rw[nS];exact qz _) (λh=>absurd h (Em _)) rfl rfl rfl (qf w.drew _) ω ω jI
   (by simp only[cI,iR,aS,HL,HM,←eg];congr 1;omega) (by simpa using hnr.more (cs':=rest) (by rw[PF,HL];exact aG _))
  rw[PF]at this
  simpa [lJ,fg,AM.iz]using this
 ·have me:fH (.slice (some ⟨b1,0,none⟩) l.length C8)=some b1:=by simp[fH];omega
  have hh:dM (lJ e N).args [.slice (some ⟨b1,0,none⟩) l.length C8,.int .i64 (i:Int),.slice (some ⟨b2,0,none⟩) 1 zW]=[b1,b2]:=by simp[lJ,dM,c9,me,tI]
  rw[hh]at xP we hnr ⊢
  replace zX:qJ w (λb=>M0 b∨b∈[b1,b2]) e yW.toList l:=by rw[←hh];exact zX
  have jH:b1≠b2:=by simpa using xP
  have arz:b1<w.heap.size:=(kt.1 Pp).1
  have alh:b2<w.heap.size:=(kt.1 U5).1
  have sF:l.length*e.size≤yW.toList.length:=by rw[bG (xs:=yW),Pn];exact lB _ PV
  have hik:i*e.size≤l.length*e.size:=lB _ al9
  obtain⟨A,hAe⟩: ∃A,A=yW.toList.take (i*e.size):=⟨_,rfl⟩
  obtain⟨mid,ahq⟩: ∃mid,mid=(yW.toList.drop (i*e.size)).take ((l.length-i)*e.size):=⟨_,rfl⟩
  have Rt:A.length=i*e.size:=by rw[hAe,cc];omega
  have GD:mid.length=(l.length-i)*e.size:=by
   rw[ahq,cc,dO,qA];omega
  have hAr:=zX.al7 i
  have hmr:=zX.al8 i
  rw[←hAe]at hAr
  rw[←ahq]at hmr
  have hti:(l.take i).length=i:=by rw[cc];omega
  have Ru: ∀rest:List Value,qJ w (λb=>M0 b∨b∈[b1,b2]) e (A++(news++(mid++rest))) (l.take i++(v++l.drop i)):=λrest=>
   hAr.append (by rw[Rt,hti]) (hnr.append (by rw[HL,PF]) (hmr.more (by rw[dO,GD];exact aG _)))
  have hAc: ∀j u,A[j]? =some u→w.cell? ((⟨b1,0,none⟩:Addr).add j)=some u:=by
   have:=ub Pp 0 (i*e.size)
   rw[cX]at this
   rw[hAe];exact this
  have hmc: ∀j u,mid[j]? =some u→w.cell? ((⟨b1,i*e.size,none⟩:Addr).add j)=some u:=by
   rw[ahq];exact ub Pp (i*e.size) _
  have amc: ∀u∈mid,u.oneCell'=true:=by
   intro u hu
   obtain⟨j,hj,rfl⟩:=qn.1 hu
   rw[GD]at hj
   have hq:j/e.size<l.length-i:=Nat.div_lt_of_lt_mul (by rw[En];exact hj)
   have:=(hmr (j/e.size) (by rw[dO];exact hq)).ou
   refine this _ ?_
   have hjm:j/e.size*e.size+j%e.size=j:=by rw[En];exact Nat.div_add_mod j e.size
   have GI:j%e.size<e.size:=Nat.mod_lt _ hk
   rw[List.mem_iff_getElem?]
   refine⟨j%e.size,?_⟩
   rw[lE,aj GI,lF,hjm]
   exact bm _
  by_cases lK:i=l.length
  ·
   subst lK
   have hm0:mid=[]:=tJ (by rw[GD];simp)
   by_cases zM:l.length+1≤C8
   ·obtain⟨ie,hie,sP,_⟩:=L.lay.base
    have dD: ∀ty,(Builtin.append_ #[ρ.t 24,ρ.t 24] ty #[.slice (some ⟨b1,0,none⟩) l.length C8,.slice (some ⟨b2,0,none⟩) 1 zW]).run P w=_:=λty=>
     L9 (ty:=ty) (cp:=zW) L.t24 hie Pp (by rw[sP];exact Pn) (by rw[sP];exact HL) hnc PU zM
    refine(JV L w _ _ _ 1 zW ⟨b2,0,none⟩ _ _ ω PV dD).mono ?_
    rintro e1 w' ⟨rfl,rfl⟩
    refine⟨_,rfl,?_⟩
    rw[sP]
    have PJ:e8 yW.toList (l.length*e.size) news=A++(news++(mid++yW.toList.drop (l.length*e.size+news.length))):=by
     rw[hm0,hAe];simp[e8]
    have:=xl (e:=e) (rb:=b1) (cap:=C8) (l:=l.take l.length++(v++l.drop l.length)) (t:=t1) (w:=w) (w':=w.setRow b1 (e8 yW.toList (l.length*e.size) news).toArray) rE we (λb hb hn=>setRow_other w _ (λe=>hn (by simp[e]))) (by rw[setRow_size];exact aG _) (λ_=>by simp) rfl rfl rfl (setRow_heap w b1 yW _ t1 _ Pp) K5 (by rw[VZ];exact zM) s9
     (by
      have:=eh (s:=e.size) (show l.length<C8 by omega)
      rw[PJ,iR]
      simp only[aS,hm0,bS,dO,bG,Rt,HL,Pn]
      omega)
     (by rw[PJ];exact Ru _)
    rw[VZ]at this
    simpa [lJ,fg,AM.iz]using this
   ·obtain⟨m0,rest,dD,S5,jI,HM⟩:=E3 (P:=P) (w:=w) L.t24 L.lay (n:=l.length) (m:=1) (cap:=C8) (cp:=zW) (olds:=A) (news:=news) (base:=some ⟨b1,0,none⟩) (a':=⟨b2,0,none⟩) (λh=>by cases h) Rt (λb hb=>by cases hb;exact hAc) HL hnc ω JX
    refine(JV L w _ _ _ 1 zW ⟨b2,0,none⟩ _ _ ω PV dD).mono ?_
    rintro e1 w' ⟨rfl,rfl⟩
    refine⟨_,rfl,?_⟩
    have:=xl (e:=e) (rb:=w.heap.size) (cap:=m0) (l:=l.take l.length++(v++l.drop l.length)) (t:=ρ.t 9) (w:=w) (w':=w.drew.alloc (.cells (A++news++rest).toArray (ρ.t 9))) rE we (λb hb _=>alloc_old w.drew _ hb) (by rw[nS];exact qz _) (λh=>absurd h (Em _)) rfl rfl rfl (qf w.drew _) ω (by rw[VZ];exact S5) jI
     (by simp only[iR,aS,Rt,HL,HM,←eg];congr 1;omega) (by have:=Ru rest;rw[hm0,cI,←br]at this;exact this)
    rw[VZ]at this
    simpa [lJ,fg,AM.iz]using this
  ·have ahr:i<l.length:=ω
   have Zb:i*e.size+e.size≤l.length*e.size:=eh ahr
   have e1k:(i+1)*e.size=A.length+news.length:=by rw[Rt,HL,eg]
   have EB:Nat.min 1 (l.length+1-i)=1:=ir ω
   by_cases zM:l.length+1≤C8
   ·
    have amd:l.length*e.size+e.size≤yW.toList.length:=by rw[bG (xs:=yW),Pn];exact eh ω
    have hsh: ∀(b:Nat) (c:Array Value) (t:TypeId),w.heap[b]? =some (.cells c t (0,0))→w.shape? b=some (t,c.size):=λb c t h=>by simp[World.shape?,h]
    obtain⟨B,hB⟩: ∃B,B=yW.toList.drop (i*e.size):=⟨_,rfl⟩
    have ame:yW.toList=A++B:=by rw[hAe,hB,gb]
    have hBl:B.length=yW.toList.length-i*e.size:=by rw[hB,dO]
    have hBk:(B.take e.size).length=e.size:=by rw[cc];omega
    have MD:e8 yW.toList ((i+1)*e.size) mid=A++(B.take e.size++(mid++(B.drop e.size).drop mid.length)):=by
     have:yW.toList=(A++B.take e.size)++B.drop e.size:=by rw[br,gb];exact ame
     rw[this,show(i+1)*e.size=(A++B.take e.size).length from by rw[aS,hBk,Rt,eg,jP],DH,br]
    have ME:e8 (e8 yW.toList ((i+1)*e.size) mid) (i*e.size) news=A++(news++(mid++(B.drop e.size).drop mid.length)):=by
     rw[MD,←Rt,DH,HL,jP,mP hBk]
    refine(Tc L w b1 l.length C8 i 1 zW ⟨b2,0,none⟩ (e8 yW.toList ((i+1)*e.size) mid).toArray (e8 (e8 yW.toList ((i+1)*e.size) mid) (i*e.size) news).toArray ahr ω zM (by simp only[maxLen]at s9;omega) (λx lb cb=> ?_) (λty dc sc=> ?_) (λW hW ty dc=> ?_)).mono ?_
    ·rw[run_callFunc_extern O.hf O.name O.body O.next O.find,
      Lib.run_overlaps_apart w (ρ.t 24) (ρ.t 4) (ρ.t 9) L.t24 e.size (λw=>de L.lay w) ⟨b2,0,none⟩ ⟨b1,x,none⟩ 1 zW lb cb (eE jH) t2 t1 cs2.size yW.size (hsh b2 cs2 t2 U5) (hsh b1 yW t1 Pp) (by rw[Pn];exact Nat.ne_of_gt (Nat.mul_pos K5 hk)) (by simp[World.frozen?,U5]) (by simp[World.frozen?,U5])]
     rfl
    ·exact run_copy_row (P:=P) (W:=w.drew) L.t24 (λw=>de L.lay w) (cs:=yW) Pp (news:=mid) (n:=l.length-i) (by simp only[Nat.min_def];split<;>omega) GD hmc amc (by rw[GD,eg,jP];rw[bG (xs:=yW)]at amd;rw[qA];omega) ty
    ·exact run_copy_row (P:=P) (W:=W) L.t24 (λw=>de L.lay w) (cs:=(e8 yW.toList ((i+1)*e.size) mid).toArray) (te:=t1) (by rw[hW];exact setRow_heap w b1 yW _ t1 _ Pp) (news:=news) (n:=1) EB HL
      (λj u hj=>by
       have:=hnc j u hj
       rw[Addr.add_lit]at this ⊢
       rw[show W.cell? ⟨b2,0+j,none⟩=w.cell? ⟨b2,0+j,none⟩from World.cell?_of_block (by rw[hW];exact setRow_other w _ (eE jH))]
       exact this) PU (by
       rw[iR,MD]
       simp only[aS,hBk,Rt,HL]
       omega) ty
    ·rintro e1 w' ⟨rfl,rfl⟩
     refine⟨_,rfl,?_⟩
     have:=xl (e:=e) (rb:=b1) (cap:=C8) (l:=l.take i++(v++l.drop i)) (t:=t1) (w:=w) (w':=(w.drew.setRow b1 (e8 yW.toList ((i+1)*e.size) mid).toArray).setRow b1 (e8 (e8 yW.toList ((i+1)*e.size) mid) (i*e.size) news).toArray) rE we
      (λb hb hn=>(setRow_other _ _ (λe=>hn (by simp[e]))).trans (setRow_other _ _ (λe=>hn (by simp[e])))) (by rw[setRow_size,setRow_size];exact aG _) (λ_=>by simp) rfl rfl rfl (setRow_heap _ b1 _ _ t1 _ (setRow_heap w.drew b1 yW _ t1 _ Pp)) K5 (by rw[VZ];exact zM) s9
      (by
       rw[ME,iR]
       rw[bG (xs:=yW)]at amd hBl
       simp only[aS,dO,Rt,HL,GD,hBl,qA]
       omega)
      (by rw[ME];exact Ru _)
     rw[VZ]at this
     simpa [lJ,fg,AM.iz]using this
   ·
    obtain⟨m0,Z,dD,S5,jI,hZl⟩:=Te (P:=P) (w:=w) L.t24 L.t3 L.lay hk (n:=i) (k:=l.length+1-i) (cap:=C8) (olds:=A) (b:=⟨b1,0,none⟩) Rt hAc ω ω ω
    have arC:i+(l.length+1-i)=l.length+1:=ω
    rw[arC]at dD S5
    have hZk:(l.length+1-i)*e.size≤Z.length:=by rw[hZl];exact lB _ ω
    rw[qA,eg,jP]at hZk
    have MD:e8 (A++Z) (i*e.size) news=A++(news++Z.drop news.length):=by rw[←Rt,DH]
    have ME:e8 (e8 (A++Z) (i*e.size) news) ((i+1)*e.size) mid=A++(news++(mid++(Z.drop news.length).drop mid.length)):=by
     rw[MD,←br,e1k,←aS,DH,br]
    have hnb:w.heap.size≠b1:=ω
    have ayN:b2≠w.heap.size:=ω
    refine(VW L w b1 l.length C8 i 1 zW 0 m0 ⟨b2,0,none⟩ (A++Z).toArray (e8 (A++Z) (i*e.size) news).toArray (e8 (e8 (A++Z) (i*e.size) news) ((i+1)*e.size) mid).toArray ahr ω PV ω (by simp only[maxLen]at s9;omega) (by simp only[zw]at JX;omega) S5 (by simp only[maxLen]at jI;omega) (λty=> ?_) (λW hW ty dc=> ?_) (λW hW ty dc sc=> ?_)).mono ?_
    ·have:=dD ty
     rw[show(((l.length+1-i:Nat):Int))=(l.length:Int)+(1:Nat)-(i:Int)from by omega]at this
     exact this
    ·exact run_copy_row (P:=P) (W:=W) L.t24 (λw=>de L.lay w) (cs:=(A++Z).toArray) (te:=ρ.t 9) (by rw[hW];exact qf w _) (news:=news) (n:=1) EB HL
      (λj u hj=>by
       have:=hnc j u hj
       rw[Addr.add_lit]at this ⊢
       rw[show W.cell? ⟨b2,0+j,none⟩=w.cell? ⟨b2,0+j,none⟩from World.cell?_of_block (by rw[hW];exact alloc_old w _ alh)]
       exact this) PU (by rw[iR,aS,Rt,HL];omega) ty
    ·exact run_copy_row (P:=P) (W:=W) L.t24 (λw=>de L.lay w) (cs:=(e8 (A++Z) (i*e.size) news).toArray) (te:=ρ.t 9) (by rw[hW];exact setRow_heap _ _ _ _ _ _ (qf w _)) (news:=mid) (n:=l.length-i) (by simp only[Nat.min_def];split<;>omega) GD
      (λj u hj=>by
       have:=hmc j u hj
       rw[Addr.add_lit]at this ⊢
       rw[show W.cell? ⟨b1,i*e.size+j,none⟩=w.cell? ⟨b1,i*e.size+j,none⟩from World.cell?_of_block (by rw[hW];exact(setRow_other _ _ (eE hnb)).trans (alloc_old w _ arz))]
       exact this) amc (by
       rw[iR,MD]
       simp only[aS,dO,Rt,HL,GD,eg,qA]
       omega) ty
    ·rintro e1 w' ⟨rfl,rfl⟩
     refine⟨_,rfl,?_⟩
     have hg':((w.drew.alloc (.cells (A++Z).toArray (ρ.t 9))).setRow w.heap.size (e8 (A++Z) (i*e.size) news).toArray).drew.heap[w.heap.size]? =some (.cells (e8 (A++Z) (i*e.size) news).toArray (ρ.t 9) (0,0)):=setRow_heap _ _ _ _ _ _ (qf w.drew _)
     have:=xl (e:=e) (rb:=w.heap.size) (cap:=m0) (l:=l.take i++(v++l.drop i)) (t:=ρ.t 9) (w:=w) (w':=((w.drew.alloc (.cells (A++Z).toArray (ρ.t 9))).setRow w.heap.size (e8 (A++Z) (i*e.size) news).toArray).drew.setRow w.heap.size (e8 (e8 (A++Z) (i*e.size) news) ((i+1)*e.size) mid).toArray) rE we
      (λb hb hn=>(setRow_other _ _ ω).trans ((setRow_other _ _ ω).trans (alloc_old w.drew _ hb))) (by rw[setRow_size];show _≤(World.setRow _ _ _).heap.size;rw[setRow_size,nS];exact qz _) (λh=>absurd h (Em _)) rfl rfl rfl (setRow_heap _ _ _ _ _ _ hg') ω (by rw[VZ];exact S5) jI
      (by
       rw[ME,iR]
       have hmul:(m0-i)*e.size=m0*e.size-i*e.size:=qA _ _ _
       have hci:i*e.size≤m0*e.size:=lB _ ω
       simp only[aS,dO,Rt,HL,GD,hZl,hmul,qA]at hZk ⊢
       omega)
      (by rw[ME];exact Ru _)
     rw[VZ]at this
     simpa [lJ,fg,AM.iz]using this
end VM
end
section
namespace VM
open Go Go.Shelf Go.RowKit Go.Lib Go.Proofs
variable{P:Program}{ρ:Ren}
def V0(ρ:Ren)(fn:Func):Func:={fn with body:=(Body2.n15 ρ).body,ntmps:=8,results:=(Body2.n15 ρ).results,nfree:=0}
theorem Cj(ρ:Ren)(fn:Func):(V0 ρ fn).ntmps=8:=rfl
structure JY(P:Program)(e:Ty)(ρ:Ren)(f:FuncId)(fn:Func):Prop where
 hf:P.funcs[f]? =some (V0 ρ fn)
 t4:P.underlying (ρ.t 4)=some .bool
 t22:P.underlying (ρ.t 22)=some (.slice (ρ.t 3))
 lay:kA P e (ρ.t 3)
 pJ:0<e.size
 mixed:P.follows .mixedOrders=true
set_option maxHeartbeats 4000000 in
set_option maxRecDepth 100000 in
theorem Tg{e:Ty}{f:FuncId}{fn:Func}(L:JY P e ρ f fn)(w:World)(n c:Nat):
  Calls P f #[.slice none n c] w λr w2=>r= .returned (.slice none 0 0)∧w2=w:=by
 have u22:=run_underlying L.t22
 have t4:=L.t4;have t22:=L.t22
 have z3:=λw=>de L.lay w
 have mixed:=L.mixed
 have q22: ∀(w:World) (a:Option Addr) (n c n' c':Nat),(binOp .eql (ρ.t 22) (.slice a n c) (.slice none n' c')).run P w= .ok (.bool a.isNone) w:=λw a n c n' c'=>Lib.run_eql_slice_nil w _ _ a n c n' c' L.t22
 go_enter L.hf,Cj ρ fn
 go_wp2
 go_ret
 exact⟨rfl,rfl⟩
set_option maxHeartbeats 4000000 in
set_option maxRecDepth 100000 in
theorem E5{e:Ty}{f:FuncId}{fn:Func}(L:JY P e ρ f fn)(w:World)(a:Addr)(n c:Nat)(v':Value)(w':World)
  (Mh: ∀ty,(Builtin.append_ #[ρ.t 22,ρ.t 22] ty #[.slice (some ⟨w.heap.size,0,none⟩) 0 0,.slice (some a) n c]).run P (w.alloc (.cells #[] (ρ.t 3)))= .ok v' w'):
   Calls P f #[.slice (some a) n c] w λr w2=>r= .returned v'∧w2=w':=by
 have u22:=run_underlying L.t22
 have t4:=L.t4;have t22:=L.t22
 have z3:=λw=>de L.lay w
 have mixed:=L.mixed
 have q22: ∀(w:World) (a:Option Addr) (n c n' c':Nat),(binOp .eql (ρ.t 22) (.slice a n c) (.slice none n' c')).run P w= .ok (.bool a.isNone) w:=λw a n c n' c'=>Lib.run_eql_slice_nil w _ _ a n c n' c' L.t22
 obtain⟨ab,ao,asp⟩:=a
 go_enter L.hf,Cj ρ fn
 go_wp2_with (at_builtin;refine Lib.wpList_append_run _ rfl _ _ _ _ rfl _ _ rfl rfl _ _ (Mh _) ?_)
 all_goals (go_ret;exact⟨rfl,rfl⟩)
theorem V1{w w':World}{M0:Nat→Prop}{e:Ty}(a:Option Addr)(rE: ∀b,M0 b→b<w.heap.size)(Vl: ∀b,b<w.heap.size→w'.heap[b]? =w.heap[b]?)(sP:w.heap.size≤w'.heap.size)
  (hos:w'.os=w.os) (htp:w'.tape=w.tape) (PI:w'.output=w.output):
  ∃us M',Value.slice a 0 0=vY us∧RR w' M' [.own e] ([]:List e.den) us []∧Left w M0 [] w' M'∧(bF [.own e] us []).Nodup∧ ∀b∈bF [.own e] us [],¬M0 b:=by
 have vR:bF [.own e] [Value.slice a 0 0] []=[]:=by
  cases a<;>simp[bF,c9,AM.iz,fH]
 refine⟨[.slice a 0 0],M0,rfl,?_,?_,?_,?_⟩
 ·simp only[RR]
  refine .inr ⟨_,[],rfl,rfl,rfl,?_,rfl,trivial⟩
  simp only[A1,ER,sQ]
  exact .inl ⟨trivial,a,rfl⟩
 ·exact⟨λb h=>h,λb h=>mL (rE b h) sP,λb hb h=> .inl h,λb hb _=>Vl b hb,sP,hos,htp,PI⟩
 ·rw[vR];simp
 ·rw[vR];simp
theorem qg{e:Ty}{f:FuncId}{fn:Func}(L:JY P e ρ f fn)(zQ:(fn.name== "runtime.NumGoroutine")=false)(VX:(Body2.n15 ρ).body.isNone=false)(N:Nat):iA P f (vP e N):=by
 refine⟨(λh=>by cases h),rfl,λM0 w vs x y rE hA xP we hy=> ?_⟩
 have Rn:nO N x=some y:=hy
 clear hy
 obtain⟨v0,YH,rfl,h0,h2⟩:=hA
 have h2:YH=[]:=h2
 subst h2
 replace h0:V w (λb=>M0 b∨b∈([]:List Nat)) (.slice e) v0 x:=h0
 unfold nO at Rn
 split at Rn
 case isFalse=>cases Rn
 rename_i JX
 cases Rn
 have hbn:(V0 ρ fn).body.isNone=false:=VX
 have hh:dM (vP e N).args [v0]=[]:=rfl
 rw[hh]at we ⊢
 refine sG L.hf zQ hbn ?_
 obtain⟨i,hi,sP,hz,hby⟩:=L.lay.base
 have hS:=Src.YU h0
 by_cases hx:x=[]
 ·obtain⟨a,cp,hv,_⟩:=hS
  subst hv
  rw[hx]
  cases a with
  |none=>
   refine(Tg L w _ cp).mono ?_
   rintro e1 w' ⟨rfl,rfl⟩
   exact⟨_,rfl,V1 none rE (λ_ _=>rfl) (aG _) rfl rfl rfl⟩
  |some a=>
   refine(E5 L w a _ cp _ _ (λty=>sa (P:=P) (w:=w.alloc (.cells #[] (ρ.t 3))) L.t22 hi (some ⟨w.heap.size,0,none⟩) 0 0 (aG _) (some a) cp)).mono ?_
   rintro e1 w' ⟨rfl,rfl⟩
   exact⟨_,rfl,V1 _ rE (λb hb=>alloc_old w _ hb) (by rw[nS];exact qz _) rfl rfl rfl⟩
 ·obtain⟨b,off,cp,news,hv,hl,pR,kM,h1⟩:=hS.cells hx
  have G8:0<x.length:=rU.2 hx
  subst hv
  obtain⟨m0,rest,dD,S5,jI,HM⟩:=E3 (P:=P) (w:=w.alloc (.cells #[] (ρ.t 3))) L.t22 L.lay (n:=0) (m:=x.length) (cap:=0) (cp:=cp) (olds:=[]) (news:=news) (base:=some ⟨w.heap.size,0,none⟩) (a':=⟨b,off,none⟩) (λh=>by cases h) (by simp) (λ_ _ j u hj=>by simp at hj) hl
   (λj u hj=>by rw[Addr.add_lit];exact Lib.cell?_alloc_some _ (pR j u hj)) ω ω
  refine(E5 L w ⟨b,off,none⟩ _ cp _ _ dD).mono ?_
  rintro e1 w' ⟨rfl,rfl⟩
  refine⟨_,rfl,?_⟩
  simp only[gh]at S5 HM ⊢
  have Pn:(w.alloc (.cells #[] (ρ.t 3))).heap.size=w.heap.size+1:=nS w _
  exact xl (e:=e) (rb:=(w.alloc (.cells #[] (ρ.t 3))).heap.size) (cap:=m0) (l:=x) (t:=ρ.t 3) (w:=w) (w':=(w.alloc (.cells #[] (ρ.t 3))).drew.alloc (.cells ([]++news++rest).toArray (ρ.t 3))) rE we
   (λb hb _=>(alloc_old (w.alloc (.cells #[] (ρ.t 3))).drew _ (by show b<(w.alloc (.cells #[] (ρ.t 3))).heap.size;omega)).trans (alloc_old w _ hb))
   (by rw[nS];show w.heap.size≤(w.alloc (.cells #[] (ρ.t 3))).heap.size+1;omega) (λh=>ω) rfl rfl rfl (qf (w.alloc (.cells #[] (ρ.t 3))).drew _) ω S5 jI
   (by simp only[cI,iR,aS,hl,HM,←eg];congr 1;omega) (by simpa using qJ.more (cs':=rest) (show qJ w (λb=>M0 b∨b∈([]:List Nat)) e news x from kM) (by rw[hl];exact aG _))
end VM
end
