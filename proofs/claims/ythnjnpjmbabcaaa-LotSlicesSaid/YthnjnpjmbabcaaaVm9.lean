/- A part of the proof of LotSlices of layer 23: a machine that reads a function of the program as an equation between values. -/
import Derived.Test.YthnjnpjmbabcaaaVm8
import Derived.KernelRfl
import Derived.Test.YthnjnpjmbabcaaaVm0
import Derived.Laws.Externs
import Derived.Shelf.Spec.SlicesInsertGrow
set_option linter.all false
open List renaming length→ℓ
noncomputable section
section
namespace VM
open Go
@[reducible] def CM.arr:CM→Type→Type
 | .v τ,T| .obj τ,T| .io τ,T| .fn _ τ,T=>τ.den→T
 | .own e,T=>List e.den→T
 | .cQ τ _ e,T=>τ.den→List e.den→T
 | .same _,T=>T
 | .cq e,T=>List (List e.den)→T
@[reducible] def DN:List (Nat×CM)→Type→Type
 |[],R=>R
 |q::r,R=>q.2.arr (DN r R)
def CM.lam{T:Type}(s:Nat)(σ:St):(m:CM)→(St→T)→m.arr T
 | .v τ,f=>λx=>f (σ.put s (.val τ x))
 | .own e,f=>λx=>f ((σ.put s (.ref (16*s+14))).di (16*s+14) (some (.own e x)))
 | .obj τ,f=>λx=>f ((σ.put s (.dg (16*s+14) [])).di (16*s+14) (some (.obj τ x)))
 | .cQ τ q e,f=>λx l=>f (((σ.put s (.dg (16*s+14) [])).di (16*s+13) (some (.own e l))).di (16*s+14) (some (.cQ τ x q (16*s+13))))
 | .io τ,f=>λx=>f ((σ.put s (.dg (16*s+15) [])).di (16*s+15) (some (.obj τ x)))
 | .fn g τ,f=>λx=>f (σ.put s (.yC g (g8 τ x)))
 | .same s',f=>f (σ.put s (σ.T s'))
 | .cq e,f=>λl=>f (((σ.put s (.ref (16*s+14))).di (16*s+14) (some (.cq e l none))).di 7 (some .gone))
def N0{R:Type}(κ:St→R):(L:List (Nat×CM))→St→DN L R
 |[],σ=>κ σ
 |q::r,σ=>q.2.lam q.1 σ (N0 κ r)
@[reducible] def oH:List AM→Type→Type
 |[],R=>R
 |m::r,R=>m.den→oH r R
def vT{R:Type}:(ms:List AM)→oH ms R→HP ms→R
 |[],g,_=>g
 |[_],g,x=>g x
 |_::n::ms,g,x=>vT (n::ms) (g x.1) x.2
def CX{R:Type}:(ms:List AM)→(HP ms→R)→oH ms R
 |[],f=>f ()
 |[_],f=>f
 |_::n::ms,f=>λx=>CX (n::ms) λy=>f (x,y)
theorem xt{R:Type}: ∀(ms:List AM) (f:HP ms→R) (x:HP ms),vT ms (CX ms f) x=f x
 |[],_,()=>rfl
 |[_],_,_=>rfl
 |_::n::ms,f,x=>xt (n::ms) (λy=>f (x.1,y)) x.2
structure Pc where
 k:Nat
 c:List (Nat×CM)
 path:List Nat
 ks:List Nat
def E6:List Pc→Nat→Pc
 |[],_=>⟨0,[],[],[]⟩
 |p::r,k=>cond (Nat.beq k p.k) p (E6 r k)
def zq:List Pc→Nat→Option (List (Nat×CM))
 |[],_=>none
 |p::r,k=>cond (Nat.beq k p.k) (some p.c) (zq r k)
def qV:List (Nat×gV)→Nat→List gV
 |[],_=>[]
 |q::r,i=>cond (Nat.beq i q.1) (q.2::qV r i) (qV r i)
def uA:List AM→Nat→List Nat
 |[],_=>[]
 | .io _::r,i=>i::uA r (i+1)
 | .lo _::r,i=>i::uA r (i+1)
 |_::r,i=>uA r (i+1)
structure Fx where
 nt:Nat
 tab:List (Nat×Ty)
 G:List (Nat×gV)
 N:Nat
 fn:Func
 args:List AM
 res:List AM
 I4:List Pc
 lk:Option (Ty×List Step×Ty×List Nat):=none
namespace Fx
variable(X:Fx)
abbrev R:=Option (HP X.res)
def E:Env:={nt:=X.nt,ty:=λi=>zp i X.tab,Γ:=qV X.G,N:=X.N,mZ:=λr=>zq X.I4 (2*r+1),n5:=λr=>zq X.I4 (2*r),io:=uA X.args 0,lk:=X.lk}
@[reducible] def c(i:Nat):List (Nat×CM):=(E6 X.I4 i).c
def path(i:Nat):List Nat:=(E6 X.I4 i).path
def odd(i:Nat):Bool:=Nat.beq (i%2) 1
def cut(ρ:Nat→St→X.R)(l:Nat):St→X.R:=fun σ=>m9 (some (X.c l)) σ (ρ l)
def ks(ρ:Nat→St→X.R)(i:Nat):List (St→X.R):=(E6 X.I4 i).ks.map (X.cut ρ)
def lp(ρ:Nat→St→X.R)(i n:Nat):St→X.R:=RF X.E X.fn X.args X.res (X.c i) (X.path i) (X.ks ρ i) n
def dn(ρ:Nat→St→X.R)(i:Nat):St→X.R:=cond (odd i) (X.lp ρ i X.N) (KH X.E X.fn X.args X.res (X.path i) (X.ks ρ i))
def own(ρ:Nat→St→X.R)(i:Nat):List (St→X.R):=X.ks ρ i++cond (odd i) [X.cut ρ i] []
def CY(K ρ:Nat→St→X.R)(i:Nat):St→X.R:=P8 X.E X.fn X.args X.res (λr=>K (2*r)) (λr=>K (2*r+1)) (X.path i) (X.own ρ i)
def tl(K ρ:Nat→St→X.R)(i:Nat):List ((St→X.R)×(St→X.R)):=nv X.E (λr=>K (2*r)) (λr=>K (2*r+1)) (HD X.E X.fn X.args X.res (X.path i) (X.own ρ i))
@[reducible] def cu(i:Nat)(κ:St→X.R):DN (X.c i) X.R:=N0 κ (X.c i) S0
@[reducible] def bd(K ρ:Nat→St→X.R)(i:Nat):DN (X.c i) X.R:=X.cu i (X.CY K ρ i)
@[reducible] def kc(ρ:Nat→St→X.R)(i:Nat):DN (X.c i) X.R:=X.cu i (ρ i)
def rS:Nat→St→X.R:=λ_ _=>none
def top(K:Nat→St→X.R):oH X.args X.R:=CX X.args λx=>P8 X.E X.fn X.args X.res (λr=>K (2*r)) (λr=>K (2*r+1)) [] [] (entry X.args x 0 S0)
def RG(K:Nat→St→X.R):List ((St→X.R)×(St→X.R)):=nv X.E (λr=>K (2*r)) (λr=>K (2*r+1)) (HD X.E X.fn X.args X.res [] [])
def S(q:Bool)(g:oH X.args X.R):gV:={args:=X.args,res:=X.res,quiet:=q,run:=vT X.args g}
variable{X}
theorem HE(f:Nat→St→X.R): ∀jv:List Nat,CV (jv.map λt=>(f t,f t))
 |[]=>trivial
 |_::r=>⟨rfl,HE f r⟩
theorem VL{i:Nat}(jv:List Nat)(hi:odd i=false)(hr: ∀K ρ,X.tl K ρ i=jv.map λt=>(K t,X.dn ρ t)){g:(Nat→St→X.R)→(Nat→St→X.R)→DN (X.c i) X.R}(h: ∀K ρ,X.bd K ρ i=g K ρ)(ρ:Nat→St→X.R):X.kc (X.dn ρ) i=g (X.dn ρ) ρ:=by
 rw[←h]
 have:X.dn ρ i=X.CY (X.dn ρ) ρ i:=by
  funext σ
  have h1:=hr (X.dn ρ) ρ
  unfold tl own at h1
  rw[hi,aj,cV]at h1
  unfold CY own
  rw[hi,aj,cV]
  rw[←at_eq X.E X.fn X.args X.res h1 (HE (X.dn ρ) jv) σ]
  unfold dn;rw[hi];rfl
 unfold kc bd
 rw[this]
def RH(X:Fx)(i:Nat):Bool:=odd i&&(E6 X.I4 i).ks.all λl=> !(Nat.beq l i)
theorem VN{i:Nat}(jv:List Nat)(hi:RH X i=true)(hr: ∀K ρ,X.tl K ρ i=jv.map λt=>(K t,X.dn ρ t)){g:(Nat→St→X.R)→(Nat→St→X.R)→DN (X.c i) X.R}(h: ∀K ρ,X.bd K ρ i=g K ρ)(ρ:Nat→St→X.R)
  (G:Nat→DN (X.c i) X.R) (h0:X.cu i (λ_=>none)=G 0) (hs: ∀n ρ',X.kc ρ' i=G n→(∀l,Nat.beq l i=false→X.kc ρ' l=X.kc ρ l)→g (X.dn ρ') ρ'=G (n+1)):X.kc (X.dn ρ) i=G X.N:=by
 unfold RH at hi
 rw[aV]at hi
 obtain⟨hi,hk⟩:=hi
 have key: ∀n,X.cu i (X.lp ρ i n)=G n:=by
  intro n
  induction n with
  |zero=>exact h0
  |succ n ih=>
   let ρ':Nat→St→X.R:=λl=>cond (Nat.beq l i) (X.lp ρ i n) (ρ l)
   have e1:ρ' i=X.lp ρ i n:=by show cond (Nat.beq i i) _ _=_;rw[gC];rfl
   have e2: ∀l,Nat.beq l i=false→ρ' l=ρ l:=λl hl=>by show cond (Nat.beq l i) _ _=_;rw[hl];rfl
   rw[←hs n ρ' (by unfold kc;rw[e1];exact ih) (λl hl=>by unfold kc;rw[e2 l hl]),←h]
   have e3:X.ks ρ' i=X.ks ρ i:=by
    unfold ks
    refine fc λl hl=> ?_
    have:=iI.1 hk l hl
    unfold cut
    rw[e2 l (by simpa using this)]
   have:X.lp ρ i (n+1)=X.CY (X.dn ρ') ρ' i:=by
    funext σ
    have h1:=hr (X.dn ρ') ρ'
    unfold tl own at h1
    rw[hi,ah]at h1
    unfold CY own
    rw[hi,ah]
    rw[←at_eq X.E X.fn X.args X.res h1 (HE (X.dn ρ') jv) σ]
    unfold lp
    rw[E2,e3]
    unfold cut
    rw[e1];rfl
   unfold bd
   rw[this]
 have:X.dn ρ i=X.lp ρ i X.N:=by unfold dn;rw[hi];rfl
 unfold kc
 rw[this];exact key _
def xu(P:Program):List (Nat×gV)→Prop
 |[]=>True
 |q::r=>eV P q.1 q.2∧xu P r
structure _root_.VM.Kn(P:Program) where
 f:Nat
 S:gV
 ok:eV P f S
def _root_.VM.Kn.p{P:Program}(k:Kn P):Nat×gV:=(k.f,k.S)
def _root_.VM.Kn.l{P:Program}:List (Kn P)→List (Nat×gV)
 |[]=>[]
 |k::r=>k.p::Kn.l r
theorem _root_.VM.Kn.all{P:Program}: ∀l:List (Kn P),xu P (Kn.l l)
 |[]=>trivial
 |k::r=>⟨k.ok,Kn.all r⟩
theorem qW{P:Program}: ∀{l:List (Nat×gV)},xu P l→ ∀f S,S∈qV l f→eV P f S
 |[],_,f,S,h=>by simp[qV]at h
 |q::r,ha,f,S,h=>by
  unfold qV at h
  cases hb:Nat.beq f q.1<;>rw[hb]at h
  ·exact qW ha.2 f S h
  ·rcases bc.1 h with rfl|h
   ·rw[bY hb];exact ha.1
   ·exact qW ha.2 f S h
theorem uB: ∀{l:List Pc},(l.all λp=>ec p.c)=true→ ∀i L,zq l i=some L→ec L=true
 |q::r,ha,i,L,h=>by
  rw[pn,aV]at ha
  unfold zq at h
  cases hb:Nat.beq i q.k<;>rw[hb]at h
  ·exact uB ha.2 i L h
  ·cases h;exact ha.1
def KK(X:Fx)(q:Bool):Bool:=(X.I4.all λp=>ec p.c)&&((!(X.fn.name== "runtime.NumGoroutine")&&Nat.beq X.nt X.fn.ntmps)&&(X.fn.body.isSome&&(Nat.ble X.args.length X.nt&&((!q||X.res.all AM.flat)&&decide (fw X.args=fw X.res)))))
theorem zr: ∀{ms:List AM} {k i:Nat} {m:AM},ms[i]? =some m→m.dm=true→k+i∈uA ms k
 |[],_,_,_,h,_=>by simp at h
 |m::ms,k,0,m',h,kK=>by
  simp only[s9,bZ]at h
  subst h
  cases m<;>simp[AM.dm]at kK<;>simp[uA]
 |m::ms,k,i+1,m',h,kK=>by
  have:=zr (ms:=ms) (k:=k+1) (i:=i) (by simpa using h) kK
  rw[show k+(i+1)=k+1+i from by omega]
  cases m<;>simp only[uA]<;>first|exact a7 _ this|exact this
theorem BD: ∀{ms:List AM} {k i:Nat},i∈uA ms k→i<k+ms.length
 |[],_,_,h=>by simp[uA]at h
 |m::ms,k,i,h=>by
  have hr:i∈uA ms (k+1)→i<k+(m::ms).length:=λh=>by have:=BD h;simp only[aE];omega
  cases m<;>simp only[uA]at h<;>first
   |exact hr h
   |(rcases bc.1 h with rfl|h<;>first|exact hr h|(simp only[aE];omega))
variable(X)in
theorem zt{P:Program}(ht:uz P X.tab)(hG:xu P X.G)(hc:(X.I4.all λp=>ec p.c)=true):g9 P X.E:=by
 have fB: ∀t τ,zp t X.tab=some τ→kM P τ (.inl t)=true∧HA P τ t=true:=λt τ h=>by
  have:=iI.1 ht.ok _ (wE h)
  simpa using this
 exact{ty:=λt τ h=>fR (fB t τ h).1,eq:=λt τ h hc ha=>HC (fR (fB t τ h).1) (fB t τ h).2 hc ha,Nu:=qW hG,mixed:=ht.mixed,ec:=λi L h=>uB hc _ L h,Et:=λi L h=>uB hc _ L h}
theorem Tv{P:Program}(ht:uz P X.tab){f:FuncId}(hf:P.funcs[f]? =some X.fn){q:Bool}(hc:KK X q=true)(hG:xu P X.G){g:oH X.args X.R}(h: ∀x,w7 X.E X.fn X.args X.res x=vT X.args g x):eV P f (X.S q g):=by
 unfold KK at hc
 simp only[aV]at hc
 obtain⟨h0,⟨h1,h2⟩,h3,h4,h5,h6⟩:=hc
 refine EU (zt X ht hG h0) hf (by simpa using h1) (bY h2) (X.S q g) (λi m hm kK=> ?_) (λi hi=> ?_) ?_ (λhq=> ?_) (bs h6) h
 ·have:=zr (k:=0) hm kK
  rwa [cF]at this
 ·have:=BD (k:=0) hi
  rwa [cF]at this
 ·have:=o5 h4
  rwa [bY h2]at this
 ·have hq:q=true:=hq
  subst hq
  show X.res.all AM.flat=true
  simpa using h5
theorem E7{g:oH X.args X.R}(h:CX X.args (w7 X.E X.fn X.args X.res)=g)(x:HP X.args):w7 X.E X.fn X.args X.res x=vT X.args g x:=by rw[←h,xt]
variable(X)in
theorem VO{P:Program}(ht:uz P X.tab){f:FuncId}(hf:P.funcs[f]? =some X.fn){q:Bool}(hc:KK X q=true)(hG:xu P X.G){g:oH X.args X.R}(h:CX X.args (w7 X.E X.fn X.args X.res)=g):eV P f (X.S q g):=
 Tv ht hf hc hG (E7 h)
theorem RI(hb:X.fn.body.isSome=true)(jv:List Nat)(hr: ∀K,X.RG K=jv.map λt=>(K t,X.dn X.rS t))
  {g:(Nat→St→X.R)→oH X.args X.R} (h: ∀K,X.top K=g K) {f:oH X.args X.R} (hf:g (X.dn X.rS)=f) (x:HP X.args):w7 X.E X.fn X.args X.res x=vT X.args f x:=by
 rw[←hf,←h,KI hb]
 unfold top
 rw[xt]
 exact at_eq X.E X.fn X.args X.res (hr (X.dn X.rS)) (HE (X.dn X.rS) jv) _
variable(X)in
theorem VP{P:Program}(ht:uz P X.tab){f:FuncId}(hf:P.funcs[f]? =some X.fn){q:Bool}(hc:KK X q=true)(hG:xu P X.G)(jv:List Nat)(hr: ∀K,X.RG K=jv.map λt=>(K t,X.dn X.rS t))
  {g:(Nat→St→X.R)→oH X.args X.R} (h: ∀K,X.top K=g K) {f':oH X.args X.R} (n9:g (X.dn X.rS)=f'):eV P f (X.S q f'):=by
 have hb:X.fn.body.isSome=true:=by
  unfold KK at hc
  simp only[aV]at hc
  exact hc.2.2.1
 exact Tv ht hf hc hG (RI hb jv hr h n9)
theorem uJ{i:Nat}(jv:List Nat){g:(Nat→St→X.R)→(Nat→St→X.R)→DN (X.c i) X.R}(h: ∀K ρ,X.bd K ρ i=g K ρ)(ρ:Nat→St→X.R){f:DN (X.c i) X.R}(hf:g (X.dn ρ) ρ=f:=by rfl)
 (hi:odd i=false:=by kernel_rfl) (hr: ∀K ρ,X.tl K ρ i=jv.map λt=>(K t,X.dn ρ t):=by intro K ρ;kernel_rfl):X.kc (X.dn ρ) i=f:=(VL jv hi hr h ρ).trans hf
theorem uL{i:Nat}(jv:List Nat){g:(Nat→St→X.R)→(Nat→St→X.R)→DN (X.c i) X.R}(h: ∀K ρ,X.bd K ρ i=g K ρ)(ρ:Nat→St→X.R)
 (G:Nat→DN (X.c i) X.R) (hs: ∀n ρ',X.kc ρ' i=G n→(∀l,Nat.beq l i=false→X.kc ρ' l=X.kc ρ l)→g (X.dn ρ') ρ'=G (n+1)) (h0:X.cu i (λ_=>none)=G 0:=by rfl)
 (hi:RH X i=true:=by kernel_rfl) (hr: ∀K ρ,X.tl K ρ i=jv.map λt=>(K t,X.dn ρ t):=by intro K ρ;kernel_rfl):X.kc (X.dn ρ) i=G X.N:=VN jv hi hr h ρ G h0 hs
variable(X)in
theorem u0{P:Program}(ht:uz P X.tab){f:FuncId}(hf:P.funcs[f]? =some X.fn){q:Bool}{g:oH X.args X.R}(hG:xu P X.G:=by first|exact trivial|exact Kn.all _)(hc:KK X q=true:=by kernel_rfl)(h:CX X.args (w7 X.E X.fn X.args X.res)=g:=by kernel_rfl):eV P f (X.S q g):=VO X ht hf hc hG h
variable(X)in
theorem u1{P:Program}(ht:uz P X.tab){f:FuncId}(hf:P.funcs[f]? =some X.fn)(jv:List Nat)
 {g:(Nat→St→X.R)→oH X.args X.R} (h: ∀K,X.top K=g K) {q:Bool} {f':oH X.args X.R} (n9:g (X.dn X.rS)=f':=by rfl) (hG:xu P X.G:=by first|exact trivial|exact Kn.all _) (hc:KK X q=true:=by kernel_rfl) (hr: ∀K,X.RG K=jv.map λt=>(K t,X.dn X.rS t):=by intro K;kernel_rfl):eV P f (X.S q f'):=VP X ht hf hc hG jv hr h n9
end Fx
end VM
end
section
namespace VM
open Go
variable{P:Program}
theorem Left.same(w:World)(M0:Nat→Prop)(h: ∀b,M0 b→b<w.heap.size):Left w M0 [] w M0:=
 ⟨λ_ h=>h,h,λ_ _ h=> .inl h,λ_ _ _=>rfl,aB _,rfl,rfl,rfl⟩
theorem N1{w:World}{M:Nat→Prop}{a b c:IntKind}{x:HP [.v (.int a),.v (.int b),.v (.int c)]}{vs:List Value}(h:dC w M [.v (.int a),.v (.int b),.v (.int c)] x vs):vs=[.int a x.1,.int b x.2.1,.int c x.2.2]:=by
 simp only[dC,A1,V,Ty.isAgg,dq,c7,Rd,cc,cn]at h
 obtain⟨v,vs,rfl,rfl,v,vs,rfl,rfl,v,vs,rfl,rfl,rfl⟩:=h
 rfl
theorem VQ{w:World}{M:Nat→Prop}{a b:IntKind}(x y:Int):RR w M [.v (.int a),.v (.int b)] (x,y) [.int a x,.int b y] []:=by
 simp only[RR]
 refine .inr ⟨_,_,rfl,rfl,rfl,?_,.inr ⟨_,_,rfl,rfl,rfl,?_,rfl,trivial⟩⟩<;>simp[A1,V,Ty.isAgg,Rd,gZ,jq]
theorem BE{f:FuncId}(run:Int×Int×Int→Option (Int×Int))
  (h: ∀(w:World) (a b c u v:Int),run (a,b,c)=some (u,v)→(callFunc f #[.int .u64 a,.int .u64 b,.int .u64 c]).run P w= .ok (.value (.tuple #[.int .u64 u,.int .u64 v])) w):
  eV P f {args:=[.v (.int .u64),.v (.int .u64),.v (.int .u64)],res:=[.v (.int .u64),.v (.int .u64)],quiet:=true,run}:=by
 refine⟨λ_=>rfl,rfl,λM0 w vs x y lK hA _ _ hy=> ?_⟩
 have G9:=N1 hA
 subst G9
 exact vM (h w x.1 x.2.1 x.2.2 y.1 y.2 hy) ⟨_,M0,rfl,VQ y.1 y.2,Left.same w M0 lK,tw,λb hb=>by cases hb⟩
theorem qX(nm:String)(a b c:Nat)(h:c≤1)(w:World):(Extern.MathBitsCarry.three nm #[.int .u64 a,.int .u64 b,.int .u64 c]).run P w= .ok (a,b,c) w:=by
 have h5: ¬(1<c):=ω
 have:Extern.MathBitsCarry.three nm #[.int .u64 a,.int .u64 b,.int .u64 c]=(do
  let c:=(←asInt (.int .u64 c)).toNat
  if c>1 then unsupported (.noEntry ("extern/math/bits." ++nm++ ": a carry that is neither 0 nor 1"))
  pure ((←asInt (.int .u64 a)).toNat,(←asInt (.int .u64 b)).toNat,c)):=rfl
 rw[this]
 simp[asInt,asIntOf]
 omega
theorem CZ{f:FuncId}{fn:Func}(N:Nat)(hf:P.funcs[f]? =some fn)(pZ:(fn.name== "runtime.NumGoroutine")=false)(hb:fn.body.isNone=true)(hn:Extern.findNext fn=none)
  (he:Extern.find fn=(Extern.MathBitsCarry.rows[0]?).map (·.2)):eV P f (jE.S N):=by
 refine BE (λx=>jE N x.1 x.2.1 x.2.2) λw a b c u v hy=> ?_
 simp only[jE]at hy
 split at hy
 ·rename_i hc
  obtain⟨h1,h2,h3,h4⟩:=hc
  obtain⟨a,rfl⟩:=jA h1
  obtain⟨b,rfl⟩:=jA h2
  obtain⟨c,rfl⟩:=jA h3
  cases hy
  rw[run_callFunc_extern hf pZ hb hn he]
  simp[qX _ a b c ω,Extern.MathBitsCarry.pair,Extern.MathBitsCarry.m64]
 ·cases hy
theorem C0{f:FuncId}{fn:Func}(N:Nat)(hf:P.funcs[f]? =some fn)(pZ:(fn.name== "runtime.NumGoroutine")=false)(hb:fn.body.isNone=true)(hn:Extern.findNext fn=none)
  (he:Extern.find fn=(Extern.MathBitsCarry.rows[1]?).map (·.2)):eV P f (jF.S N):=by
 refine BE (λx=>jF N x.1 x.2.1 x.2.2) λw a b c u v hy=> ?_
 simp only[jF]at hy
 split at hy
 ·rename_i hc
  obtain⟨h1,ju,h2,qB,h3,h4⟩:=hc
  obtain⟨a,rfl⟩:=jA h1
  obtain⟨b,rfl⟩:=jA h2
  obtain⟨c,rfl⟩:=jA h3
  cases hy
  rw[run_callFunc_extern hf pZ hb hn he]
  have e1:((a+18446744073709551616-b-c:Nat):Int)=(a:Int)+18446744073709551616-b-c:=ω
  by_cases h:a<b+c
  ·have h':(a:Int)<(b:Int)+(c:Int):=ω
   simp[qX _ a b c ω,Extern.MathBitsCarry.pair,Extern.MathBitsCarry.m64,e1,h,h']
  ·have h': ¬(a:Int)<(b:Int)+(c:Int):=ω
   simp[qX _ a b c ω,Extern.MathBitsCarry.pair,Extern.MathBitsCarry.m64,e1,h,h']
 ·cases hy
end VM
end
section
namespace VM
open Go Go.Shelf Go.RowKit Go.Lib Go.Proofs
variable{P:Program}{ρ:Ren}
def E8(ρ:Ren)(fn:Func):Func:={fn with body:=(Body2.n22 ρ).body,ntmps:=95,results:=(Body2.n22 ρ).results,nfree:=0}
theorem nw(ρ:Ren)(fn:Func):(E8 ρ fn).ntmps=95:=rfl
structure E9(P:Program)(e:Ty)(ρ:Ren)(f:FuncId)(fn fo:Func):Prop where
 hf:P.funcs[f]? =some (E8 ρ fn)
 t3:P.underlying (ρ.t 3)=some (.int .i64)
 t4:P.underlying (ρ.t 4)=some .bool
 t24:P.underlying (ρ.t 24)=some (.slice (ρ.t 9))
 lay:dY P e (ρ.t 9)
 jd:0<e.size
 mixed:P.follows .mixedOrders=true
set_option maxHeartbeats 4000000 in
set_option maxRecDepth 100000 in
theorem xv{e:Ty}{f:FuncId}{fn fo:Func}(L:E9 P e ρ f fn fo)(w:World)(base:Option Addr)(n c m vc:Nat)(va:Addr)(v':Value)(w':World)(hm:0<m)(hn:n≤c)
  (CD: ∀ty,(Builtin.append_ #[ρ.t 24,ρ.t 24] ty #[.slice base n c,.slice (some va) m vc]).run P w= .ok v' w'):
   Calls P f #[.slice base n c,.int .i64 n,.slice (some va) m vc] w λr w2=>r= .returned v'∧w2=w':=by
 have u3:=run_underlying L.t3;have u4:=run_underlying L.t4;have Tw:=run_underlying L.t24
 have t3:=L.t3;have t4:=L.t4;have t24:=L.t24
 have z9:=λw=>bp L.lay w
 have mixed:=L.mixed
 have DH: ¬((m:Int)=0):=ω
 go_enter L.hf,nw ρ fn
 cases base with
 |none=>
   go_wp2_with (at_builtin;refine Lib.wpList_append_run _ rfl _ _ _ _ rfl _ _ rfl rfl _ _ (CD _) ?_)
   all_goals (go_ret;exact⟨rfl,rfl⟩)
 |some a=>
   obtain⟨ab,ao,VG⟩:=a
   go_wp2_with (at_builtin;refine Lib.wpList_append_run _ rfl _ _ _ _ rfl _ _ rfl rfl _ _ (CD _) ?_)
   all_goals (go_ret;exact⟨rfl,rfl⟩)
theorem run_copy_row{t te e:TypeId}{k:Nat}(ht:P.underlying t=some (.slice e))(hk: ∀w,(Go.sizeOf e).run P w= .ok k w){W:World}{b o dLen dCap sLen sCap n:Nat}{a:Addr}{cs:Array Value}(hg:W.heap[b]? =some (.cells cs te (0,0)))
  {news:List Value} (Rc:Nat.min sLen dLen=n) (hl:news.length=n*k) (hn: ∀j u,news[j]? =some u→W.cell? (a.add j)=some u) (h1: ∀u∈news,u.oneCell'=true) (tX:o+news.length≤cs.size) (ty:TypeId):
  (Builtin.copy_ #[t,t] ty #[.slice (some ⟨b,o,none⟩) dLen dCap,.slice (some a) sLen sCap]).run P W= .ok (goInt n) (W.setRow b (bG cs.toList o news).toArray):=by
 have hf:=run_firstCells_some (P:=P) W k n a sLen sCap news hl hn
 have wj:=run_storeCells_at (P:=P) b o te news 0 cs W hg ω h1
 simp only[eR]at wj
 simp[Builtin.copy_,run_underlying ht,hk,Builtin.lenOf,Rc,hf,wj,bG]
set_option maxHeartbeats 4000000 in
set_option maxRecDepth 100000 in
theorem C1{e:Ty}{f:FuncId}{fn fo:Func}(L:E9 P e ρ f fn fo)(w:World)(b n c i m vc:Nat)(va:Addr)(xw Fa:Array Value)(hi:i<n)(hm:0<m)(hr:n+m≤c)(RJ:c≤9223372036854775807)
  (VS: ∀x lb cb,(callFunc (ρ.f 29) #[.slice (some va) m vc,.slice (some ⟨b,x,none⟩) lb cb]).run P w= .ok (.value (.bool false)) w)
  (HF: ∀ty dc sc,(Builtin.copy_ #[(ρ.t 24),(ρ.t 24)] ty #[.slice (some ⟨b,(i+m)*e.size,none⟩) (n+m-(i+m)) dc,.slice (some ⟨b,i*e.size,none⟩) (n+m-i) sc]).run P w.drew= .ok (goInt ((n-i:Nat):Int)) (w.drew.setRow b xw))
  (HH: ∀W:World,W.heap=(w.setRow b xw).heap→ ∀ty dc,(Builtin.copy_ #[(ρ.t 24),(ρ.t 24)] ty #[.slice (some ⟨b,i*e.size,none⟩) (n+m-i) dc,.slice (some va) m vc]).run P W= .ok (goInt m) (W.setRow b Fa)):
   Calls P f #[.slice (some ⟨b,0,none⟩) n c,.int .i64 i,.slice (some va) m vc] w λr w2=>r= .returned (.slice (some ⟨b,0,none⟩) (n+m) c)∧w2=(w.drew.setRow b xw).setRow b Fa:=by
 have u3:=run_underlying L.t3;have u4:=run_underlying L.t4;have Tw:=run_underlying L.t24
 have t3:=L.t3;have t4:=L.t4;have t24:=L.t24
 have z9:=λw=>bp L.lay w
 have mixed:=L.mixed
 have DH: ¬((m:Int)=0):=ω
 have MC: ¬((i:Int)=(n:Int)):=ω
 have VT:IntKind.i64.wrap ((i:Int)+(m:Int))=(i:Int)+(m:Int):=by rw[IntKind.wrap_i64];omega
 have bL:(0:Int)≤(i:Int)+(m:Int):=ω
 have gu:i≤n:=ω
 have CR:((i:Int)+(m:Int)).toNat=i+m:=ω
 have lz: ¬(c=i+m):=ω
 have VU:(i:Int)≤(n:Int)+(m:Int):=ω
 have YP: ¬(c=i):=ω
 go_enter L.hf,nw ρ fn
 go_wp2_with (simp only[VS])
 go_region_law_o (refine step_copy_runI rfl _ _ (ρ.t 24) (ρ.t 24) rfl _ _ (by simp[Act.eval,Act.put]) (by simp[Act.eval,Act.put]) (HF _ _ _) ?_)
 have h2:=HH (w.drew.setRow b xw) rfl
 go_wp2
 go_ret
 exact⟨rfl,rfl⟩
set_option maxHeartbeats 4000000 in
set_option maxRecDepth 100000 in
theorem Fb{e:Ty}{f:FuncId}{fn fo:Func}(L:E9 P e ρ f fn fo)(w:World)(b n c i m vc nb G:Nat)(va:Addr)(C2 xw Fa:Array Value)(hi:i<n)(hm:0<m)(MI:n≤c)(hr:c<n+m)(RJ:c≤9223372036854775807)(IS:n+m≤9223372036854775807)(hG:n+m≤G)(VV:G≤9223372036854775807)
  (CD: ∀ty,(Builtin.append_ #[(ρ.t 24),(ρ.t 3)] ty #[.slice (some ⟨b,0,none⟩) i c,.int .i64 ((n:Int)+(m:Int)-(i:Int))]).run P w= .ok (.slice (some ⟨w.heap.size,0,none⟩) (n+m) G) (w.drew.alloc (.cells C2 (ρ.t 9))))
  (HF: ∀W:World,W.heap=(w.alloc (.cells C2 (ρ.t 9))).heap→ ∀ty dc,(Builtin.copy_ #[(ρ.t 24),(ρ.t 24)] ty #[.slice (some ⟨w.heap.size,i*e.size,none⟩) (n+m-i) dc,.slice (some va) m vc]).run P W= .ok (goInt m) (W.setRow w.heap.size xw))
  (HH: ∀W:World,W.heap=((w.alloc (.cells C2 (ρ.t 9))).setRow w.heap.size xw).heap→ ∀ty dc sc,(Builtin.copy_ #[(ρ.t 24),(ρ.t 24)] ty #[.slice (some ⟨w.heap.size,(i+m)*e.size,none⟩) (n+m-(i+m)) dc,.slice (some ⟨b,i*e.size,none⟩) (n-i) sc]).run P W= .ok (goInt ((n-i:Nat):Int)) (W.setRow w.heap.size Fa)):
   Calls P f #[.slice (some ⟨b,0,none⟩) n c,.int .i64 i,.slice (some va) m vc] w λr w2=>r= .returned (.slice (some ⟨w.heap.size,0,none⟩) (n+m) G)∧w2=((w.drew.alloc (.cells C2 (ρ.t 9))).setRow w.heap.size xw).drew.setRow w.heap.size Fa:=by
 have u3:=run_underlying L.t3;have u4:=run_underlying L.t4;have Tw:=run_underlying L.t24
 have t3:=L.t3;have t4:=L.t4;have t24:=L.t24
 have z9:=λw=>bp L.lay w
 have mixed:=L.mixed
 have DH: ¬((m:Int)=0):=ω
 have MC: ¬((i:Int)=(n:Int)):=ω
 have YQ:(c:Int)<(n:Int)+(m:Int):=ω
 have VT:IntKind.i64.wrap ((i:Int)+(m:Int))=(i:Int)+(m:Int):=by rw[IntKind.wrap_i64];omega
 have bL:(0:Int)≤(i:Int)+(m:Int):=ω
 have gu:i≤n:=ω
 have CR:((i:Int)+(m:Int)).toNat=i+m:=ω
 have YR: ¬(G=i):=ω
 have VW: ¬(G=i+m):=ω
 have VX: ¬(c=i):=ω
 have VU:(i:Int)≤(n:Int):=ω
 have h1:=HF ((w.alloc (.cells C2 (ρ.t 9))).drew) rfl
 have h2:=HH (((w.alloc (.cells C2 (ρ.t 9))).drew.setRow w.heap.size xw).drew) rfl
 go_enter L.hf,nw ρ fn
 go_wp2_with (first
   |(at_builtin;refine Lib.wpList_append_run _ rfl _ _ _ _ rfl _ _ rfl rfl _ _ (CD _) ?_)
   |(at_builtin;refine wpList_copy_runI _ rfl _ _ (ρ.t 24) (ρ.t 24) rfl _ _ rfl rfl (HF _ (by exact rfl) _ _) ?_)
   |(at_builtin;refine wpList_copy_runI _ rfl _ _ (ρ.t 24) (ρ.t 24) rfl _ _ rfl rfl (HH _ (by exact rfl) _ _ _) ?_))
 go_region_law_o (refine step_copy_runI rfl _ _ (ρ.t 24) (ρ.t 24) rfl _ _ (by simp[Act.eval,Act.put]) (by simp[Act.eval,Act.put]) (h2 _ _ _) ?_)
 go_wp2
 go_ret
 exact⟨rfl,rfl⟩
theorem p8{α:Type}(A Z news:List α):bG (A++Z) A.length news=A++(news++Z.drop news.length):=by
 unfold bG
 rw[mR rfl,bq,←dE,gp rfl]
theorem gT.N2{w:World}{M:Nat→Prop}{e:Ty}{cs:List Value}{l:List e.den}(h:gT w M e cs l)(i:Nat):gT w M e (cs.take (i*e.size)) (l.take i):=by
 intro j hj
 rw[aT]at hj
 have:=bH (s:=e.size) (show j<i by omega)
 rw[iJ,iK,c5 ω,tg]
 exact h j ω
theorem gT.N3{w:World}{M:Nat→Prop}{e:Ty}{cs:List Value}{l:List e.den}(h:gT w M e cs l)(i:Nat):gT w M e ((cs.drop (i*e.size)).take ((l.length-i)*e.size)) (l.drop i):=by
 intro j hj
 rw[cT]at hj
 have:=bH (s:=e.size) hj
 rw[iJ,iK,c5 ω,dE,List.getElem_drop,←bO]
 exact h (i+j) ω
theorem nU{w w':World}{M0:Nat→Prop}{hs:List Nat}{e:Ty}{rb cap:Nat}{row:Array Value}{t:TypeId}{l:List e.den}(lK: ∀b,M0 b→b<w.heap.size)(oe: ∀b∈hs,¬M0 b)
  (IX: ∀b,b<w.heap.size→b∉hs→w'.heap[b]? =w.heap[b]?) (ir:w.heap.size≤w'.heap.size) (P9:rb<w.heap.size→rb∈hs) (VY:w'.os=w.os) (VZ:w'.tape=w.tape) (Ee:w'.output=w.output)
  (sA:w'.heap[rb]? =some (.cells row t (0,0))) (h0:0<cap) (hl:l.length≤cap) (hm:cap≤maxLen) (Nj:row.size=cap*e.size) (eJ:gT w (λb=>M0 b∨b∈hs) e row.toList l):
  ∃us M',Value.slice (some ⟨rb,0,none⟩) l.length cap=oq us∧RR w' M' [.own e] l us []∧Left w M0 hs w' M'∧(aF [.own e] us []).Nodup∧ ∀b∈aF [.own e] us [],¬M0 b:=by
 have D0:rb<w'.heap.size:=(ez.1 sA).1
 have hk:bJ w (λb=>M0 b∨b∈hs) w' (λb=>M0 b∨b=rb):=⟨ir,λb hb hn=>IX b hb (λh=>hn (.inr h)),λb hb h=>h.elim .inl (λe=> .inr (e▸P9 (e▸hb)))⟩
 have ru:aF [.own e] [Value.slice (some ⟨rb,0,none⟩) l.length cap] []=[rb]:=by
  have:cap≠0:=ω
  simp[aF,bl,AM.dm,bK,this]
 refine⟨[.slice (some ⟨rb,0,none⟩) l.length cap],λb=>M0 b∨b=rb,rfl,?_,?_,?_,?_⟩
 ·simp only[RR]
  refine .inr ⟨_,[],rfl,rfl,rfl,?_,rfl,trivial⟩
  simp only[A1,ER,gZ]
  exact .inr ⟨rb,row,t,cap,rfl,sA,.inr rfl,h0,hl,hm,Nj,eJ.aK hk⟩
 ·exact⟨λb h=> .inl h,λb h=>h.elim (λh=>fe (lK b h) ir) (λh=>h▸D0),λb hb h=>h.elim .inl (λe=> .inr (e▸P9 (e▸hb))),IX,ir,VY,VZ,Ee⟩
 ·rw[ru];simp
 ·rw[ru]
  intro b hb h
  rw[eC]at hb
  subst hb
  exact oe b (P9 (lK b h)) h
theorem setRow_other(w:World){b c:Nat}(r:Array Value)(h:c≠b):(w.setRow b r).heap[c]? =w.heap[c]? :=by
 unfold World.setRow
 rw[Array.getElem?_modify,ag (λe=>h e.symm)]
theorem setRow_size(w:World)(b:Nat)(r:Array Value):(w.setRow b r).heap.size=w.heap.size:=by
 unfold World.setRow;simp
theorem alloc_old(w:World)(o:Obj){c:Nat}(h:c<w.heap.size):(w.alloc o).heap[c]? =w.heap[c]? :=by
 show(w.heap.push o)[c]? =_
 rw[Array.getElem?_push,ag ω]
theorem gi(w:World)(o:Obj):(w.alloc o).heap[w.heap.size]? =some o:=by
 show(w.heap.push o)[w.heap.size]? =_
 simp
theorem lN(w:World)(o:Obj):(w.alloc o).heap.size=w.heap.size+1:=by
 show(w.heap.push o).size=_
 simp
theorem lO{w:World}{b:Nat}{cs:Array Value}{t:TypeId}{f:Nat×Nat}(h:w.heap[b]? =some (.cells cs t f))(o n:Nat): ∀j u,((cs.toList.drop o).take n)[j]? =some u→w.cell? ((⟨b,o,none⟩:Addr).add j)=some u:=by
 intro j u hj
 rw[Addr.add_lit]
 rw[ff]at hj
 split at hj
 ·rw[fg,cM]at hj
  simp only[World.cell?,h]
  simpa using hj
 ·cases hj
theorem BF{w:World}{M:Nat→Prop}{v:Value}{e:Ty}{l:List e.den}(h:ER w M v (.own e l)):(l=[]∧ ∃a,v= .slice a 0 0)∨
 ∃b cs t cap,v= .slice (some ⟨b,0,none⟩) l.length cap∧w.heap[b]? =some (.cells cs t (0,0))∧M b∧0<cap∧l.length≤cap∧cap≤maxLen∧cs.size=cap*e.size∧gT w M e cs.toList l:=h
end VM
end
section
namespace VM
open Go Go.Shelf Go.RowKit Go.Lib Go.Proofs
variable{P:Program}{ρ:Ren}
theorem zu{w:World}{t e':TypeId}{e:Ty}(hu:P.underlying t=some (.slice e'))(hle:dY P e e'){n m cap cp:Nat}{olds news:List Value}{base:Option Addr}{a':Addr}(Eh:base=none→n=0∧cap=0)
  (mG:olds.length=n*e.size) (ho: ∀b,base=some b→ ∀j u,olds[j]? =some u→w.cell? (b.add j)=some u) (GG:news.length=m*e.size) (hn: ∀j u,news[j]? =some u→w.cell? (a'.add j)=some u)
  (hg:cap<n+m) (hs:n+m<py):
  ∃fP rest,(∀ty,(Builtin.append_ #[t,t] ty #[.slice base n cap,.slice (some a') m cp]).run P w= .ok (.slice (some ⟨w.heap.size,0,none⟩) (n+m) fP) (w.drew.alloc (.cells (olds++news++rest).toArray e')))∧
   n+m≤fP∧fP≤maxLen∧rest.length=(fP-(n+m))*e.size:=by
 obtain⟨i,hi,ir,hz,Mw⟩:=hle.base
 have J9:(aC e e.aL).cells.size=e.size:=by rw[←az,ct,eU]
 have IS:n+m≤maxLen:=by simp only[py,maxLen]at hs ⊢;omega
 have tX:(n+m)*i.bytes≤140737488355328:=by
  have:(n+m)*i.bytes≤68719476736*2048:=pj (by simp only[py]at hs;omega) Mw
  omega
 refine⟨grownCap w (n+m) cap e',(Builtin.zeroCells (aC e e.aL).cells (grownCap w (n+m) cap e'-(n+m))).toList,λty=> ?_,grownCap_ge _ _ _ _,grownCap_le_maxLen _ _ _ _ IS,?_⟩
 ·cases base with
  |none=>
   obtain⟨rfl,rfl⟩:=Eh rfl
   have QZ:olds=[]:=ia (by rw[mG];simp)
   subst QZ
   have:=run_append_nil (P:=P) w t ty e' i _ hu hi hz a' m cp news (by rw[GG,ir]) hn (by simpa using hg) (by simp only[py]at hs;omega) (by simp at tX;omega)
   simp only[cF,fF]
   rw[this]
   congr 2
   apply iO (λz=>Obj.cells z e' (0,0))
   apply dt;simp
  |some b=>
   have:=run_append_grow (P:=P) w t ty e' i _ hu hi hz b n cap olds (by rw[mG,ir]) (ho b rfl) a' m cp news (by rw[GG,ir]) hn hg (by simp only[py]at hs;omega) (growslice_fits hg tX)
   rw[this]
   congr 2
   apply iO (λz=>Obj.cells z e' (0,0))
   apply dt;simp
 ·rw[az,size_zeroCells,J9]
theorem C3{w:World}{t tn e':TypeId}{e:Ty}(hu:P.underlying t=some (.slice e'))(CR:P.underlying tn=some (.int .i64))(hle:dY P e e')(KF:0<e.size){n k cap:Nat}{olds:List Value}{b:Addr}
  (mG:olds.length=n*e.size) (ho: ∀j u,olds[j]? =some u→w.cell? (b.add j)=some u) (hk:0<k) (hg:cap<n+k) (hs:n+k<py):
  ∃fP rest,(∀ty,(Builtin.append_ #[t,tn] ty #[.slice (some b) n cap,.int .i64 k]).run P w= .ok (.slice (some ⟨w.heap.size,0,none⟩) (n+k) fP) (w.drew.alloc (.cells (olds++rest).toArray e')))∧
   n+k≤fP∧fP≤maxLen∧rest.length=(fP-n)*e.size:=by
 obtain⟨i,hi,ir,hz,Mw⟩:=hle.base
 have J9:(aC e e.aL).cells.size=e.size:=by rw[←az,ct,eU]
 have IS:n+k≤maxLen:=by simp only[py,maxLen]at hs ⊢;omega
 have tX:(n+k)*i.bytes≤140737488355328:=by
  have:(n+k)*i.bytes≤68719476736*2048:=pj (by simp only[py]at hs;omega) Mw
  omega
 have V0:k*i.bytes≤281474976710656:=by
  have:k*i.bytes≤(n+k)*i.bytes:=dD _ ω
  omega
 have Ke:=grownCap_ge w (n+k) cap e'
 refine⟨grownCap w (n+k) cap e',(Builtin.zeroCells (aC e e.aL).cells k++Builtin.zeroCells (aC e e.aL).cells (grownCap w (n+k) cap e'-(n+k))).toList,λty=> ?_,Ke,grownCap_le_maxLen _ _ _ _ IS,?_⟩
 ·have hold:(Builtin.firstCells i.size n (.slice (some b) n cap)).run P w.drew= .ok olds.toArray w.drew:=run_firstCells_some w.drew i.size n b n cap olds (by rw[mG,ir]) (λj u hj=>ho j u hj)
  have:=Lib.run_append_grow_zeros w t tn ty e' i _ .i64 .i64 hu CR hi hz (some b) n cap olds hold k hk (by rw[ir];exact KF) hg (by simp only[py]at hs;omega) V0 (growslice_fits hg tX)
  rw[this]
  congr 2
  apply iO (λz=>Obj.cells z e' (0,0))
  apply dt;simp
 ·rw[Array.toList_append,aQ,az,az,size_zeroCells,size_zeroCells,J9,←bO]
  congr 1;omega
structure V1(P:Program)(ρ:Ren)(fo:Func):Prop where
 hf:P.funcs[ρ.f 29]? =some fo
 name:(fo.name== "runtime.NumGoroutine")=false
 body:fo.body.isNone=true
 next:Extern.findNext fo=none
 find:Extern.find fo=some (Extern.SlicesOverlaps.overlaps #[ρ.t 24,ρ.t 24] #[ρ.t 4])
theorem AN{e:Ty}{f:FuncId}{fn fo:Func}(L:E9 P e ρ f fn fo)(O:V1 P ρ fo)(pZ:(fn.name== "runtime.NumGoroutine")=false)(N4:(Body2.n22 ρ).body.isNone=false)(N:Nat):eV P f (fL e N):=by
 refine⟨(λh=>by cases h),rfl,λM0 w vs x y lK hA mH oe hy=> ?_⟩
 obtain⟨l,i,v⟩:=x
 have CU:lr N l i v=some y:=hy
 clear hy
 simp only[fL,dC]at hA
 obtain⟨v0,Es,rfl,h0,v1,RK,rfl,h1,v2,V2,rfl,h2,rfl⟩:=hA
 simp only[lr]at CU
 split at CU
 case isFalse=>cases CU
 rename_i hc
 cases CU
 obtain⟨V3,sv,Ak,HI⟩:=hc
 obtain⟨i,rfl⟩:=jA V3
 have N5:i≤l.length:=ω
 simp only[A1,gZ,jq,V,Ty.isAgg,dq,c7,Rd,cc,cn]at h0 h1 h2
 subst h1
 have hk:=L.jd
 replace Ak:ℓ (α:=e.den) v=1:=Ak
 rcases BF h2 with⟨CB,_⟩|⟨b2,Bm,t2,p9,J4,Bn,xe,Ka,SW,iC,V4,D5⟩
 ·rw[CB]at Ak;cases Ak
 replace J4:v2= .slice (some ⟨b2,0,none⟩) 1 p9:=by rw[J4];congr 1
 subst J4
 have G5:e.size≤Bm.toList.length:=by
  rw[az (xs:=Bm),V4]
  exact Nat.le_mul_of_pos_left _ Ka
 obtain⟨news,Fc⟩: ∃news,news=Bm.toList.take e.size:=⟨_,rfl⟩
 have wi:news.length=1*e.size:=by rw[Fc,aT,ea];omega
 have Qa:gT w (λb=>M0 b∨b∈bE (fL e N).args [v0,.int .i64 (i:Int),.slice (some ⟨b2,0,none⟩) 1 p9]) e news v:=by
  rw[Fc];exact D5.take (by rw[Ak,ea];exact aB _)
 have MI: ∀j u,news[j]? =some u→w.cell? ((⟨b2,0,none⟩:Addr).add j)=some u:=by
  have:=lO Bn 0 e.size
  rw[cW]at this
  rw[Fc];exact this
 have RL: ∀u∈news,u.oneCell'=true:=by
  have:=Qa 0 ω
  rw[tA,cW,eA ω]at this
  exact this.eE
 have lz:bK (.slice (some ⟨b2,0,none⟩) 1 p9)=some b2:=by simp[bK];omega
 replace HI:ℓ (α:=e.den) l+1<py:=HI
 have I5:(List.take i l++(v++List.drop i l)).length=l.length+1:=by rw[aQ,aQ,aT,cT,Ak];omega
 have Mv:(E8 ρ fn).body.isNone=false:=N4
 refine jX L.hf pZ Mv ?_
 rcases BF h0 with⟨rfl,ad,rfl⟩|⟨b1,oj,t1,pV,rfl,xk,P2,pO,Kr,ew,Bo,DL⟩
 ·
  have hi:i=0:=by simpa using N5
  subst hi
  obtain⟨fP,rest,bk,DG,dz,D0⟩:=zu (P:=P) (w:=w) L.t24 L.lay (n:=0) (m:=1) (cap:=0) (cp:=p9) (olds:=[]) (news:=news) (base:=ad) (a':=⟨b2,0,none⟩) (λ_=>⟨rfl,rfl⟩) (by simp) (λ_ _ j u hj=>by simp at hj) wi MI ω (by simp only[py];omega)
  refine(xv L w ad 0 0 1 p9 ⟨b2,0,none⟩ _ _ ω (aB _) bk).mono ?_
  rintro e1 w' ⟨rfl,rfl⟩
  refine⟨_,rfl,?_⟩
  simp only[cF]at DG D0
  have hv:v=v++[]:=by simp
  have:=nU (e:=e) (rb:=w.heap.size) (cap:=fP) (l:=v) (t:=ρ.t 9) (w:=w) (w':=w.drew.alloc (.cells ([]++news++rest).toArray (ρ.t 9))) lK oe (λb hb _=>alloc_old w.drew _ hb) (by rw[lN];exact Nat.le_succ _) (λh=>absurd h (tz _)) rfl rfl rfl (gi w.drew _) ω ω dz
   (by simp only[fF,dr,aQ,wi,D0,←bO];congr 1;omega) (by simpa using Qa.more (cs':=rest) (by rw[Ak,wi];exact aB _))
  rw[Ak]at this
  simpa [fL,cv,AM.dm]using this
 ·have bL:bK (.slice (some ⟨b1,0,none⟩) l.length pV)=some b1:=by simp[bK];omega
  have hh:bE (fL e N).args [.slice (some ⟨b1,0,none⟩) l.length pV,.int .i64 (i:Int),.slice (some ⟨b2,0,none⟩) 1 p9]=[b1,b2]:=by simp[fL,bE,bl,bL,lz]
  rw[hh]at mH oe Qa ⊢
  replace DL:gT w (λb=>M0 b∨b∈[b1,b2]) e oj.toList l:=by rw[←hh];exact DL
  have dT:b1≠b2:=by simpa using mH
  have RM:b1<w.heap.size:=(ez.1 xk).1
  have G6:b2<w.heap.size:=(ez.1 Bn).1
  have iU:l.length*e.size≤oj.toList.length:=by rw[az (xs:=oj),Bo];exact dD _ Kr
  have N6:i*e.size≤l.length*e.size:=dD _ N5
  obtain⟨A,N7⟩: ∃A,A=oj.toList.take (i*e.size):=⟨_,rfl⟩
  obtain⟨mid,KL⟩: ∃mid,mid=(oj.toList.drop (i*e.size)).take ((l.length-i)*e.size):=⟨_,rfl⟩
  have BG:A.length=i*e.size:=by rw[N7,aT];omega
  have sO:mid.length=(l.length-i)*e.size:=by
   rw[KL,aT,cT,iM];omega
  have Tx:=DL.N2 i
  have RN:=DL.N3 i
  rw[←N7]at Tx
  rw[←KL]at RN
  have V5:(l.take i).length=i:=by rw[aT];omega
  have BH: ∀rest:List Value,gT w (λb=>M0 b∨b∈[b1,b2]) e (A++(news++(mid++rest))) (l.take i++(v++l.drop i)):=λrest=>
   Tx.append (by rw[BG,V5]) (Qa.append (by rw[wi,Ak]) (RN.more (by rw[cT,sO];exact aB _)))
  have Tz: ∀j u,A[j]? =some u→w.cell? ((⟨b1,0,none⟩:Addr).add j)=some u:=by
   have:=lO xk 0 (i*e.size)
   rw[cW]at this
   rw[N7];exact this
  have TA: ∀j u,mid[j]? =some u→w.cell? ((⟨b1,i*e.size,none⟩:Addr).add j)=some u:=by
   rw[KL];exact lO xk (i*e.size) _
  have N8: ∀u∈mid,u.oneCell'=true:=by
   intro u hu
   obtain⟨j,hj,rfl⟩:=mL.1 hu
   rw[sO]at hj
   have hq:j/e.size<l.length-i:=Nat.div_lt_of_lt_mul (by rw[pq];exact hj)
   have:=(RN (j/e.size) (by rw[cT];exact hq)).eE
   refine this _ ?_
   have V6:j/e.size*e.size+j%e.size=j:=by rw[pq];exact Nat.div_add_mod j e.size
   have pJ:j%e.size<e.size:=Nat.mod_lt _ hk
   rw[List.mem_iff_getElem?]
   refine⟨j%e.size,?_⟩
   rw[ff,af pJ,fg,V6]
   exact a6 _
  by_cases gu:i=l.length
  ·
   subst gu
   have Am:mid=[]:=ia (by rw[sO];simp)
   by_cases pR:l.length+1≤pV
   ·obtain⟨ie,Ms,ir,_⟩:=L.lay.base
    have bk: ∀ty,(Builtin.append_ #[ρ.t 24,ρ.t 24] ty #[.slice (some ⟨b1,0,none⟩) l.length pV,.slice (some ⟨b2,0,none⟩) 1 p9]).run P w=_:=λty=>
     yX (ty:=ty) (cp:=p9) L.t24 Ms xk (by rw[ir];exact Bo) (by rw[ir];exact wi) MI RL pR
    refine(xv L w _ _ _ 1 p9 ⟨b2,0,none⟩ _ _ ω Kr bk).mono ?_
    rintro e1 w' ⟨rfl,rfl⟩
    refine⟨_,rfl,?_⟩
    rw[ir]
    have sA:bG oj.toList (l.length*e.size) news=A++(news++(mid++oj.toList.drop (l.length*e.size+news.length))):=by
     rw[Am,N7];simp[bG]
    have:=nU (e:=e) (rb:=b1) (cap:=pV) (l:=l.take l.length++(v++l.drop l.length)) (t:=t1) (w:=w) (w':=w.setRow b1 (bG oj.toList (l.length*e.size) news).toArray) lK oe (λb hb hn=>setRow_other w _ (λe=>hn (by simp[e]))) (by rw[setRow_size];exact aB _) (λ_=>by simp) rfl rfl rfl (setRow_heap w b1 oj _ t1 _ xk) pO (by rw[I5];exact pR) ew
     (by
      have:=bH (s:=e.size) (show l.length<pV by omega)
      rw[sA,dr]
      simp only[aQ,Am,cA,cT,az,BG,wi,Bo]
      omega)
     (by rw[sA];exact BH _)
    rw[I5]at this
    simpa [fL,cv,AM.dm]using this
   ·obtain⟨fP,rest,bk,DG,dz,D0⟩:=zu (P:=P) (w:=w) L.t24 L.lay (n:=l.length) (m:=1) (cap:=pV) (cp:=p9) (olds:=A) (news:=news) (base:=some ⟨b1,0,none⟩) (a':=⟨b2,0,none⟩) (λh=>by cases h) BG (λb hb=>by cases hb;exact Tz) wi MI ω HI
    refine(xv L w _ _ _ 1 p9 ⟨b2,0,none⟩ _ _ ω Kr bk).mono ?_
    rintro e1 w' ⟨rfl,rfl⟩
    refine⟨_,rfl,?_⟩
    have:=nU (e:=e) (rb:=w.heap.size) (cap:=fP) (l:=l.take l.length++(v++l.drop l.length)) (t:=ρ.t 9) (w:=w) (w':=w.drew.alloc (.cells (A++news++rest).toArray (ρ.t 9))) lK oe (λb hb _=>alloc_old w.drew _ hb) (by rw[lN];exact Nat.le_succ _) (λh=>absurd h (tz _)) rfl rfl rfl (gi w.drew _) ω (by rw[I5];exact DG) dz
     (by simp only[dr,aQ,BG,wi,D0,←bO];congr 1;omega) (by have:=BH rest;rw[Am,fF,←bq]at this;exact this)
    rw[I5]at this
    simpa [fL,cv,AM.dm]using this
  ·have KM:i<l.length:=ω
   have Hj:i*e.size+e.size≤l.length*e.size:=bH KM
   have V7:(i+1)*e.size=A.length+news.length:=by rw[BG,wi,bO]
   have sP:Nat.min 1 (l.length+1-i)=1:=c5 ω
   by_cases pR:l.length+1≤pV
   ·
    have N9:l.length*e.size+e.size≤oj.toList.length:=by rw[az (xs:=oj),Bo];exact bH ω
    have TB: ∀(b:Nat) (c:Array Value) (t:TypeId),w.heap[b]? =some (.cells c t (0,0))→w.shape? b=some (t,c.size):=λb c t h=>by simp[World.shape?,h]
    obtain⟨B,hB⟩: ∃B,B=oj.toList.drop (i*e.size):=⟨_,rfl⟩
    have Oa:oj.toList=A++B:=by rw[N7,hB,fE]
    have TC:B.length=oj.toList.length-i*e.size:=by rw[hB,cT]
    have RO:(B.take e.size).length=e.size:=by rw[aT];omega
    have zv:bG oj.toList ((i+1)*e.size) mid=A++(B.take e.size++(mid++(B.drop e.size).drop mid.length)):=by
     have:oj.toList=(A++B.take e.size)++B.drop e.size:=by rw[bq,fE];exact Oa
     rw[this,show(i+1)*e.size=(A++B.take e.size).length from by rw[aQ,RO,BG,bO,ea],p8,bq]
    have rT:bG (bG oj.toList ((i+1)*e.size) mid) (i*e.size) news=A++(news++(mid++(B.drop e.size).drop mid.length)):=by
     rw[zv,←BG,p8,wi,ea,gp RO]
    refine(C1 L w b1 l.length pV i 1 p9 ⟨b2,0,none⟩ (bG oj.toList ((i+1)*e.size) mid).toArray (bG (bG oj.toList ((i+1)*e.size) mid) (i*e.size) news).toArray KM ω pR (by simp only[maxLen]at ew;omega) (λx lb cb=> ?_) (λty dc sc=> ?_) (λW hW ty dc=> ?_)).mono ?_
    ·rw[run_callFunc_extern O.hf O.name O.body O.next O.find,
      Lib.run_overlaps_apart w (ρ.t 24) (ρ.t 4) (ρ.t 9) L.t24 e.size (λw=>bp L.lay w) ⟨b2,0,none⟩ ⟨b1,x,none⟩ 1 p9 lb cb (cf dT) t2 t1 Bm.size oj.size (TB b2 Bm t2 Bn) (TB b1 oj t1 xk) (by rw[Bo];exact Nat.ne_of_gt (Nat.mul_pos pO hk)) (by simp[World.frozen?,Bn]) (by simp[World.frozen?,Bn])]
     rfl
    ·exact run_copy_row (P:=P) (W:=w.drew) L.t24 (λw=>bp L.lay w) (cs:=oj) xk (news:=mid) (n:=l.length-i) (by simp only[Nat.min_def];split<;>omega) sO TA N8 (by rw[sO,bO,ea];rw[az (xs:=oj)]at N9;rw[iM];omega) ty
    ·exact run_copy_row (P:=P) (W:=W) L.t24 (λw=>bp L.lay w) (cs:=(bG oj.toList ((i+1)*e.size) mid).toArray) (te:=t1) (by rw[hW];exact setRow_heap w b1 oj _ t1 _ xk) (news:=news) (n:=1) sP wi
      (λj u hj=>by
       have:=MI j u hj
       rw[Addr.add_lit]at this ⊢
       rw[show W.cell? ⟨b2,0+j,none⟩=w.cell? ⟨b2,0+j,none⟩from World.cell?_of_block (by rw[hW];exact setRow_other w _ (cf dT))]
       exact this) RL (by
       rw[dr,zv]
       simp only[aQ,RO,BG,wi]
       omega) ty
    ·rintro e1 w' ⟨rfl,rfl⟩
     refine⟨_,rfl,?_⟩
     have:=nU (e:=e) (rb:=b1) (cap:=pV) (l:=l.take i++(v++l.drop i)) (t:=t1) (w:=w) (w':=(w.drew.setRow b1 (bG oj.toList ((i+1)*e.size) mid).toArray).setRow b1 (bG (bG oj.toList ((i+1)*e.size) mid) (i*e.size) news).toArray) lK oe
      (λb hb hn=>(setRow_other _ _ (λe=>hn (by simp[e]))).trans (setRow_other _ _ (λe=>hn (by simp[e])))) (by rw[setRow_size,setRow_size];exact aB _) (λ_=>by simp) rfl rfl rfl (setRow_heap _ b1 _ _ t1 _ (setRow_heap w.drew b1 oj _ t1 _ xk)) pO (by rw[I5];exact pR) ew
      (by
       rw[rT,dr]
       rw[az (xs:=oj)]at N9 TC
       simp only[aQ,cT,BG,wi,sO,TC,iM]
       omega)
      (by rw[rT];exact BH _)
     rw[I5]at this
     simpa [fL,cv,AM.dm]using this
   ·
    obtain⟨fP,Z,bk,DG,dz,TD⟩:=C3 (P:=P) (w:=w) L.t24 L.t3 L.lay hk (n:=i) (k:=l.length+1-i) (cap:=pV) (olds:=A) (b:=⟨b1,0,none⟩) BG Tz ω ω ω
    have RP:i+(l.length+1-i)=l.length+1:=ω
    rw[RP]at bk DG
    have TE:(l.length+1-i)*e.size≤Z.length:=by rw[TD];exact dD _ ω
    rw[iM,bO,ea]at TE
    have zv:bG (A++Z) (i*e.size) news=A++(news++Z.drop news.length):=by rw[←BG,p8]
    have rT:bG (bG (A++Z) (i*e.size) news) ((i+1)*e.size) mid=A++(news++(mid++(Z.drop news.length).drop mid.length)):=by
     rw[zv,←bq,V7,←aQ,p8,bq]
    have Qb:w.heap.size≠b1:=ω
    have V8:b2≠w.heap.size:=ω
    refine(Fb L w b1 l.length pV i 1 p9 0 fP ⟨b2,0,none⟩ (A++Z).toArray (bG (A++Z) (i*e.size) news).toArray (bG (bG (A++Z) (i*e.size) news) ((i+1)*e.size) mid).toArray KM ω Kr ω (by simp only[maxLen]at ew;omega) (by simp only[py]at HI;omega) DG (by simp only[maxLen]at dz;omega) (λty=> ?_) (λW hW ty dc=> ?_) (λW hW ty dc sc=> ?_)).mono ?_
    ·have:=bk ty
     rw[show(((l.length+1-i:Nat):Int))=(l.length:Int)+(1:Nat)-(i:Int)from by omega]at this
     exact this
    ·exact run_copy_row (P:=P) (W:=W) L.t24 (λw=>bp L.lay w) (cs:=(A++Z).toArray) (te:=ρ.t 9) (by rw[hW];exact gi w _) (news:=news) (n:=1) sP wi
      (λj u hj=>by
       have:=MI j u hj
       rw[Addr.add_lit]at this ⊢
       rw[show W.cell? ⟨b2,0+j,none⟩=w.cell? ⟨b2,0+j,none⟩from World.cell?_of_block (by rw[hW];exact alloc_old w _ G6)]
       exact this) RL (by rw[dr,aQ,BG,wi];omega) ty
    ·exact run_copy_row (P:=P) (W:=W) L.t24 (λw=>bp L.lay w) (cs:=(bG (A++Z) (i*e.size) news).toArray) (te:=ρ.t 9) (by rw[hW];exact setRow_heap _ _ _ _ _ _ (gi w _)) (news:=mid) (n:=l.length-i) (by simp only[Nat.min_def];split<;>omega) sO
      (λj u hj=>by
       have:=TA j u hj
       rw[Addr.add_lit]at this ⊢
       rw[show W.cell? ⟨b1,i*e.size+j,none⟩=w.cell? ⟨b1,i*e.size+j,none⟩from World.cell?_of_block (by rw[hW];exact(setRow_other _ _ (cf Qb)).trans (alloc_old w _ RM))]
       exact this) N8 (by
       rw[dr,zv]
       simp only[aQ,cT,BG,wi,sO,bO,iM]
       omega) ty
    ·rintro e1 w' ⟨rfl,rfl⟩
     refine⟨_,rfl,?_⟩
     have JU:((w.drew.alloc (.cells (A++Z).toArray (ρ.t 9))).setRow w.heap.size (bG (A++Z) (i*e.size) news).toArray).drew.heap[w.heap.size]? =some (.cells (bG (A++Z) (i*e.size) news).toArray (ρ.t 9) (0,0)):=setRow_heap _ _ _ _ _ _ (gi w.drew _)
     have:=nU (e:=e) (rb:=w.heap.size) (cap:=fP) (l:=l.take i++(v++l.drop i)) (t:=ρ.t 9) (w:=w) (w':=((w.drew.alloc (.cells (A++Z).toArray (ρ.t 9))).setRow w.heap.size (bG (A++Z) (i*e.size) news).toArray).drew.setRow w.heap.size (bG (bG (A++Z) (i*e.size) news) ((i+1)*e.size) mid).toArray) lK oe
      (λb hb hn=>(setRow_other _ _ ω).trans ((setRow_other _ _ ω).trans (alloc_old w.drew _ hb))) (by rw[setRow_size];show _≤(World.setRow _ _ _).heap.size;rw[setRow_size,lN];exact Nat.le_succ _) (λh=>absurd h (tz _)) rfl rfl rfl (setRow_heap _ _ _ _ _ _ JU) ω (by rw[I5];exact DG) dz
      (by
       rw[rT,dr]
       have hmul:(fP-i)*e.size=fP*e.size-i*e.size:=iM _ _ _
       have VX:i*e.size≤fP*e.size:=dD _ ω
       simp only[aQ,cT,BG,wi,sO,TD,hmul,iM]at TE ⊢
       omega)
      (by rw[rT];exact BH _)
     rw[I5]at this
     simpa [fL,cv,AM.dm]using this
end VM
end
section
namespace VM
open Go Go.RowKit
variable{P:Program}
def fu(k n:Nat)(a:Int):Array Value:=(List.replicate k (Value.int .i64 a)++List.replicate (n-k) (Value.int .i64 0)).toArray
theorem qY{k n:Nat}{a:Int}(h:k≤n):(fu k n a).size=n:=by simp[fu];omega
theorem wF{k m n:Nat}{a:Int}(h:k+m≤n):(bG (fu k n a).toList (k*1) (List.replicate m (Value.int .i64 a))).toArray=fu (k+m) n a:=by
 unfold fu
 show(bG (List.replicate k (Value.int .i64 a)++List.replicate (n-k) (Value.int .i64 0)) (k*1) (List.replicate m (Value.int .i64 a))).toArray=_
 congr 1
 have:=p8 (List.replicate k (Value.int .i64 a)) (List.replicate (n-k) (Value.int .i64 0)) (List.replicate m (Value.int .i64 a))
 rw[a8]at this
 rw[mV,this,←bq,List.replicate_append_replicate]
 simp
 omega
theorem AO{w:World}{b k n:Nat}{a:Int}{t:TypeId}(h:w.heap[b]? =some (.cells (fu k n a) t (0,0)))(m:Nat)(hm:m≤k): ∀j u,(List.replicate m (Value.int .i64 a))[j]? =some u→w.cell? ((⟨b,0,none⟩:Addr).add j)=some u:=by
 intro j u hj
 rw[Addr.add_lit,cF]
 obtain⟨cy,rfl⟩:=jz.1 hj
 rw[a8]at cy
 simp only[World.cell?,h,fu]
 show(List.replicate k (Value.int .i64 a)++List.replicate (n-k) (Value.int .i64 0)).toArray[j]? =_
 rw[mK,ic (by simp;omega),oY,af ω,o3]
theorem C4{W:World}{t e:TypeId}{a:Int}(hu:P.underlying t=some (.slice e))(hle:dY P (.int .i64) e)(m:Nat)(h:m<1048576):
  (Instr.makeSlice t (.int .i64 (m:Int)) (.int .i64 (m:Int))).run P W= .ok (.slice (some ⟨W.heap.size,0,none⟩) m m) (W.alloc (.cells (fu 0 m a) e)):=by
 obtain⟨i,hi,hs,hz,hb⟩:=hle.base
 have tV:(i.bytes:Int)*m≤281474976710656:=by
  have h4:(i.bytes:Int)≤2048:=ω
  have:(i.bytes:Int)*m≤2048*m:=kY h4 ω
  omega
 have bk:=run_make (P:=P) W t e i _ hu hi hz .i64 .i64 m m ω ω tV ω
 rw[bk]
 have h1:madeCells (aC (.int .i64) (Ty.int .i64).aL).cells ((m:Int).toNat*i.size)=fu 0 m a:=by
  rw[hs]
  simp only[fu,aI,Ty.size,mV,List.replicate_zero,fF,Nat.sub_zero]
  apply dt
  apply mP
  intro j
  simp[madeCells,aC,Ty.isAgg,Ty.aL,Value.cells]
  by_cases hj:j<m
  ·simp[hj,oY,Nat.mod_one]
  ·simp[hj,oY]
 rw[h1]
 simp
theorem AP{f:FuncId}{fn:Func}(hf:P.funcs[f]? =some fn)(pZ:(fn.name== "runtime.NumGoroutine")=false)(hb:fn.body.isNone=false)(t:TypeId)(N:Nat)
  (h: ∀(w:World) (a n:Int) (b off c:Nat),0<n→n<1048576→w.cell? ⟨b,off,none⟩=some (.int .i64 a)→1≤c→Calls P f #[.slice (some ⟨b,off,none⟩) 1 c,.int .i64 n] w λe w'=> ∃rb,e= .returned (.slice (some ⟨rb,0,none⟩) n.toNat n.toNat)∧w.heap.size≤rb∧w'.heap[rb]? =some (.cells (fu n.toNat n.toNat a) t (0,0))∧Below w.heap.size w w'):
  eV P f (sM (.int .i64) N):=by
 refine⟨(λh=>by cases h),rfl,λM0 w vs x y lK hA mH oe hy=> ?_⟩
 obtain⟨l,n⟩:=x
 have CU:pB N l n=some y:=hy
 simp only[sM,dC]at hA
 obtain⟨v0,Es,rfl,h0,v1,RK,rfl,h1,rfl⟩:=hA
 simp only[pB]at CU
 split at CU
 case h_2=>cases CU
 rename_i l' a
 split at CU
 case isFalse=>cases CU
 rename_i hc
 cases CU
 simp only[A1,gZ,jq,V,Ty.isAgg,dq,c7,Rd,cc,cn]at h0 h1
 subst h1
 obtain⟨ad,cap,rfl,DF,kF⟩:=h0
 obtain⟨b,off,rfl,ru,_,cs',jo,rfl⟩:=kF 0 (by simp)
 have tP:=jo 0 _ rfl
 simp only[aR]at DF
 refine jX hf pZ hb ((h w a n b off cap hc.1 hc.2 (by simpa using tP) DF).mono ?_)
 rintro e w' ⟨rb,rfl,P9,sA,EO⟩
 refine⟨_,rfl,?_⟩
 have hn:n.toNat≤n.toNat:=aB _
 have hh:bE (sM (.int .i64) N).args [.slice (some ⟨b,off,none⟩) 1 cap,.int .i64 n]=[]:=rfl
 have:=nU (e:= .int .i64) (rb:=rb) (cap:=n.toNat) (l:=List.replicate n.toNat a) (t:=t) (w:=w) (w':=w') (hs:=[]) (M0:=M0) lK (λb hb=>by cases hb) (λc hc _=>EO.block c hc) EO.size (λh=>absurd h ω) EO.os EO.tape EO.output sA ω (by simp) (by simp only[maxLen];omega)
  (by rw[qY hn];simp[Ty.size]) (by
   intro i hi
   rw[a8]at hi
   simp only[Rd,Ty.size,fu,mV,Nat.sub_self,List.replicate_zero,cV,List.drop_replicate,List.take_replicate,o3]
   rw[show min 1 (n.toNat-i)=1 from by omega];rfl)
 simp only[a8]at this
 exact this
theorem HJ{E:Env}(hE:g9 P E)(KJ:E.io=[]){f:FuncId}{fn:Func}(hf:P.funcs[f]? =some fn)(hc:(Nat.beq E.nt fn.ntmps&&Nat.ble 2 E.nt)=true){w:World}{a b u v:Int}
  (h:w7 E fn [.v (.int .u64),.v (.int .u64)] [.v (.int .u64),.v (.int .u64)] (a,b)=some (u,v)):Calls P f #[.int .u64 a,.int .u64 b] w λe w'=>e= .returned (.tuple #[.int .u64 u,.int .u64 v])∧Below w.heap.size w w':=by
 rw[aV]at hc
 have Hz:=bY hc.1
 have hlen:=o5 hc.2
 refine(qU (args:=[.v (.int .u64),.v (.int .u64)]) (res:=[.v (.int .u64),.v (.int .u64)]) (y:=(u,v)) (M0:=λ_=>False) (w:=w) (vs:=[.int .u64 a,.int .u64 b]) (x:=(a,b)) hE hf Hz (λi m hm kK=> ?_) (λi hi=>by rw[KJ]at hi;cases hi) (by rw[←Hz];exact hlen) (λb hb=>hb.elim) ?_ tw (λb hb=>by cases hb) h).mono ?_
 ·match i,hm with
  |0,hm=>cases hm;cases kK
  |1,hm=>cases hm;cases kK
 ·simp only[dC]
  refine⟨_,_,rfl,?_,_,_,rfl,?_,rfl⟩<;>simp[A1,V,Ty.isAgg,Rd,gZ,jq]
 ·rintro e w' ⟨r,rfl,us,M',rfl,y6,hL,_,_⟩
  simp only[RR]at y6
  rcases y6 with⟨p,sR,h1,_⟩|⟨r1,Es,_,_,rfl,DL,y6⟩
  ·cases h1
  ·rcases y6 with⟨p,sR,h1,_⟩|⟨r2,RK,_,_,rfl,D5,rfl,_⟩
   ·cases h1
   ·simp only[A1,V,Ty.isAgg,dq,c7,Rd,cc,cn,gZ,jq]at DL D5
    subst DL;subst D5
    exact⟨rfl,hL.os,hL.tape,hL.output,hL.size,λb hb=>hL.frame b hb (by simp[bE,bl])⟩
end VM
end
