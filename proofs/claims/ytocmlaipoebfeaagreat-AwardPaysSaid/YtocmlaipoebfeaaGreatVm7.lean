/- A part of the proof of AwardPays of layer 25: a machine that reads a function of the program as an equation between values. -/
import Derived.Test.YtocmlaipoebfeaaGreatVm6
import Derived.KernelRfl
import Derived.Test.YtocmlaipoebfeaaGreatVm0
import Derived.Laws.Externs
import Derived.Shelf.Spec.SlicesInsertGrow
set_option linter.all false
section
namespace VM
open Go
@[reducible] def CM.arr:CM→Type→Type
 | .v τ,T| .obj τ,T| .io τ,T| .fn _ τ,T=>τ.den→T
 | .own e,T=>List e.den→T
 | .dY τ _ e,T=>τ.den→List e.den→T
 | .same _,T=>T
@[reducible] def M7:List (Nat×CM)→Type→Type
 |[],R=>R
 |q::r,R=>q.2.arr (M7 r R)
def CM.lam{T:Type}(s:Nat)(σ:St):(m:CM)→(St→T)→m.arr T
 | .v τ,f=>fun x=>f (σ.put s (.val τ x))
 | .own e,f=>fun x=>f ((σ.put s (.ref (16*s+14))).g6 (16*s+14) (some (.own e x)))
 | .obj τ,f=>fun x=>f ((σ.put s (.fA (16*s+14) [])).g6 (16*s+14) (some (.obj τ x)))
 | .dY τ q e,f=>fun x l=>f (((σ.put s (.fA (16*s+14) [])).g6 (16*s+13) (some (.own e l))).g6 (16*s+14) (some (.dY τ x q (16*s+13))))
 | .io τ,f=>fun x=>f ((σ.put s (.fA (16*s+15) [])).g6 (16*s+15) (some (.obj τ x)))
 | .fn g τ,f=>fun x=>f (σ.put s (.D7 g (lR τ x)))
 | .same s',f=>f (σ.put s (σ.T s'))
def aeq{R:Type}(κ:St→R):(L:List (Nat×CM))→St→M7 L R
 |[],σ=>κ σ
 |q::r,σ=>q.2.lam q.1 σ (aeq κ r)
@[reducible] def tB:List AM→Type→Type
 |[],R=>R
 |m::r,R=>m.den→tB r R
def A5{R:Type}:(ms:List AM)→tB ms R→HP ms→R
 |[],g,_=>g
 |[_],g,x=>g x
 |_::n::ms,g,x=>A5 (n::ms) (g x.1) x.2
def Ls{R:Type}:(ms:List AM)→(HP ms→R)→tB ms R
 |[],f=>f ()
 |[_],f=>f
 |_::n::ms,f=>fun x=>Ls (n::ms) fun y=>f (x,y)
theorem CR{R:Type}: ∀(ms:List AM) (f:HP ms→R) (x:HP ms),A5 ms (Ls ms f) x=f x
 |[],_,()=>rfl
 |[_],_,_=>rfl
 |_::n::ms,f,x=>CR (n::ms) (fun y=>f (x.1,y)) x.2
structure Pc where
 k:Nat
 c:List (Nat×CM)
 path:List Nat
 ks:List Nat
def Ob:List Pc→Nat→Pc
 |[],_=>⟨0,[],[],[]⟩
 |p::r,k=>cond (Nat.beq k p.k) p (Ob r k)
def EZ:List Pc→Nat→Option (List (Nat×CM))
 |[],_=>none
 |p::r,k=>cond (Nat.beq k p.k) (some p.c) (EZ r k)
def vM:List (Nat×ia)→Nat→List ia
 |[],_=>[]
 |q::r,i=>cond (Nat.beq i q.1) (q.2::vM r i) (vM r i)
def A6:List AM→Nat→List Nat
 |[],_=>[]
 | .io _::r,i=>i::A6 r (i+1)
 |_::r,i=>A6 r (i+1)
structure Fx where
 nt:Nat
 tab:List (Nat×Ty)
 G:List (Nat×ia)
 N:Nat
 fn:Func
 args:List AM
 res:List AM
 Xo:List Pc
 lk:Option (Ty×List Step×Ty×List Nat):=none
namespace Fx
variable(X:Fx)
abbrev R:=Option (HP X.res)
def E:Env:={nt:=X.nt,ty:=fun i=>EY i X.tab,Γ:=vM X.G,N:=X.N,qV:=fun r=>EZ X.Xo (2*r+1),sF:=fun r=>EZ X.Xo (2*r),io:=A6 X.args 0,lk:=X.lk}
@[reducible] def c(i:Nat):List (Nat×CM):=(Ob X.Xo i).c
def path(i:Nat):List Nat:=(Ob X.Xo i).path
def odd(i:Nat):Bool:=Nat.beq (i%2) 1
def cut(ρ:Nat→St→X.R)(l:Nat):St→X.R:=fun σ=>qZ (some (X.c l)) σ (ρ l)
def ks(ρ:Nat→St→X.R)(i:Nat):List (St→X.R):=(Ob X.Xo i).ks.map (X.cut ρ)
noncomputable def lp(ρ:Nat→St→X.R)(i n:Nat):St→X.R:=lpF X.E X.fn X.args X.res (X.c i) (X.path i) (X.ks ρ i) n
noncomputable def bq(ρ:Nat→St→X.R)(i:Nat):St→X.R:=cond (odd i) (X.lp ρ i X.N) (Zd X.E X.fn X.args X.res (X.path i) (X.ks ρ i))
def own(ρ:Nat→St→X.R)(i:Nat):List (St→X.R):=X.ks ρ i++cond (odd i) [X.cut ρ i] []
noncomputable def Lt(K ρ:Nat→St→X.R)(i:Nat):St→X.R:=atQ X.E X.fn X.args X.res (fun r=>K (2*r)) (fun r=>K (2*r+1)) (X.path i) (X.own ρ i)
noncomputable def tl(K ρ:Nat→St→X.R)(i:Nat):List ((St→X.R)×(St→X.R)):=rp X.E (fun r=>K (2*r)) (fun r=>K (2*r+1)) (RJ X.E X.fn X.args X.res (X.path i) (X.own ρ i))
@[reducible] def cu(i:Nat)(κ:St→X.R):M7 (X.c i) X.R:=aeq κ (X.c i) S0
@[reducible] noncomputable def bd(K ρ:Nat→St→X.R)(i:Nat):M7 (X.c i) X.R:=X.cu i (X.Lt K ρ i)
@[reducible] def kc(ρ:Nat→St→X.R)(i:Nat):M7 (X.c i) X.R:=X.cu i (ρ i)
def wR:Nat→St→X.R:=fun _ _=>none
noncomputable def top(K:Nat→St→X.R):tB X.args X.R:=Ls X.args fun x=>atQ X.E X.fn X.args X.res (fun r=>K (2*r)) (fun r=>K (2*r+1)) [] [] (entry X.args x 0 S0)
noncomputable def tlT(K:Nat→St→X.R):List ((St→X.R)×(St→X.R)):=rp X.E (fun r=>K (2*r)) (fun r=>K (2*r+1)) (RJ X.E X.fn X.args X.res [] [])
noncomputable def S(q:Bool)(g:tB X.args X.R):ia:={args:=X.args,res:=X.res,quiet:=q,run:=A5 X.args g}
variable{X}
theorem RK(f:Nat→St→X.R): ∀nI:List Nat,Lq (nI.map fun t=>(f t,f t))
 |[]=>trivial
 |_::r=>⟨rfl,RK f r⟩
theorem okJ{i:Nat}(nI:List Nat)(hi:odd i=false)(hr: ∀K ρ,X.tl K ρ i=nI.map fun t=>(K t,X.bq ρ t)){g:(Nat→St→X.R)→(Nat→St→X.R)→M7 (X.c i) X.R}(h: ∀K ρ,X.bd K ρ i=g K ρ)(ρ:Nat→St→X.R):X.kc (X.bq ρ) i=g (X.bq ρ) ρ:=by
 rw[←h]
 have:X.bq ρ i=X.Lt (X.bq ρ) ρ i:=by
  funext σ
  have h1:=hr (X.bq ρ) ρ
  unfold tl own at h1
  rw[hi,atH,auh]at h1
  unfold Lt own
  rw[hi,atH,auh]
  rw[←at_eq X.E X.fn X.args X.res h1 (RK (X.bq ρ) nI) σ]
  unfold bq;rw[hi];rfl
 unfold kc bd
 rw[this]
def okb(X:Fx)(i:Nat):Bool:=odd i&&(Ob X.Xo i).ks.all fun l=> !(Nat.beq l i)
theorem okL{i:Nat}(nI:List Nat)(hi:okb X i=true)(hr: ∀K ρ,X.tl K ρ i=nI.map fun t=>(K t,X.bq ρ t)){g:(Nat→St→X.R)→(Nat→St→X.R)→M7 (X.c i) X.R}(h: ∀K ρ,X.bd K ρ i=g K ρ)(ρ:Nat→St→X.R)
  (G:Nat→M7 (X.c i) X.R) (h0:X.cu i (fun _=>none)=G 0) (hs: ∀n ρ',X.kc ρ' i=G n→(∀l,Nat.beq l i=false→X.kc ρ' l=X.kc ρ l)→g (X.bq ρ') ρ'=G (n+1)):X.kc (X.bq ρ) i=G X.N:=by
 unfold okb at hi
 rw[atW]at hi
 obtain⟨hi,hk⟩:=hi
 have key: ∀n,X.cu i (X.lp ρ i n)=G n:=by
  intro n
  induction n with
  |zero=>exact h0
  |succ n ih=>
   let ρ':Nat→St→X.R:=fun l=>cond (Nat.beq l i) (X.lp ρ i n) (ρ l)
   have e1:ρ' i=X.lp ρ i n:=by show cond (Nat.beq i i) _ _=_;rw[awm];rfl
   have e2: ∀l,Nat.beq l i=false→ρ' l=ρ l:=fun l hl=>by show cond (Nat.beq l i) _ _=_;rw[hl];rfl
   rw[←hs n ρ' (by unfold kc;rw[e1];exact ih) (fun l hl=>by unfold kc;rw[e2 l hl]),←h]
   have e3:X.ks ρ' i=X.ks ρ i:=by
    unfold ks
    refine ava fun l hl=> ?_
    have:=avw.1 hk l hl
    unfold cut
    rw[e2 l (by simpa using this)]
   have:X.lp ρ i (n+1)=X.Lt (X.bq ρ') ρ' i:=by
    funext σ
    have h1:=hr (X.bq ρ') ρ'
    unfold tl own at h1
    rw[hi,atC]at h1
    unfold Lt own
    rw[hi,atC]
    rw[←at_eq X.E X.fn X.args X.res h1 (RK (X.bq ρ') nI) σ]
    unfold lp
    rw[N7,e3]
    unfold cut
    rw[e1];rfl
   unfold bd
   rw[this]
 have:X.bq ρ i=X.lp ρ i X.N:=by unfold bq;rw[hi];rfl
 unfold kc
 rw[this];exact key _
def CS(P:Program):List (Nat×ia)→Prop
 |[]=>True
 |q::r=>eZ P q.1 q.2∧CS P r
structure _root_.VM.Kn(P:Program) where
 f:Nat
 S:ia
 ok:eZ P f S
def _root_.VM.Kn.p{P:Program}(k:Kn P):Nat×ia:=(k.f,k.S)
def _root_.VM.Kn.l{P:Program}:List (Kn P)→List (Nat×ia)
 |[]=>[]
 |k::r=>k.p::Kn.l r
theorem _root_.VM.Kn.all{P:Program}: ∀l:List (Kn P),CS P (Kn.l l)
 |[]=>trivial
 |k::r=>⟨k.ok,Kn.all r⟩
theorem vN{P:Program}: ∀{l:List (Nat×ia)},CS P l→ ∀f S,S∈vM l f→eZ P f S
 |[],_,f,S,h=>by simp[vM]at h
 |q::r,ha,f,S,h=>by
  unfold vM at h
  cases hb:Nat.beq f q.1<;>rw[hb]at h
  ·exact vN ha.2 f S h
  ·rcases atZ.1 h with rfl|h
   ·rw[auj hb];exact ha.1
   ·exact vN ha.2 f S h
theorem y4: ∀{l:List Pc},(l.all fun p=>gq p.c)=true→ ∀i L,EZ l i=some L→gq L=true
 |q::r,ha,i,L,h=>by
  rw[aw8,atW]at ha
  unfold EZ at h
  cases hb:Nat.beq i q.k<;>rw[hb]at h
  ·exact y4 ha.2 i L h
  ·cases h;exact ha.1
def Zf(X:Fx)(q:Bool):Bool:=(X.Xo.all fun p=>gq p.c)&&((!(X.fn.name== "runtime.NumGoroutine")&&Nat.beq X.nt X.fn.ntmps)&&(X.fn.body.isSome&&(Nat.ble X.args.length X.nt&&((!q||X.res.all AM.flat)&&decide (kT X.args=kT X.res)))))
theorem E0: ∀{ms:List AM} {k i:Nat} {m:AM},ms[i]? =some m→m.fO=true→k+i∈A6 ms k
 |[],_,_,_,h,_=>by simp at h
 |m::ms,k,0,m',h,sd=>by
  simp only[awN,auF]at h
  subst h
  cases m<;>simp[AM.fO]at sd
  simp[A6]
 |m::ms,k,i+1,m',h,sd=>by
  have:=E0 (ms:=ms) (k:=k+1) (i:=i) (by simpa using h) sd
  rw[show k+(i+1)=k+1+i from by omega]
  cases m<;>simp only[A6]<;>first|exact atM _ this|exact this
theorem J0: ∀{ms:List AM} {k i:Nat},i∈A6 ms k→i<k+ms.length
 |[],_,_,h=>by simp[A6]at h
 |m::ms,k,i,h=>by
  have hr:i∈A6 ms (k+1)→i<k+(m::ms).length:=fun h=>by have:=J0 h;simp only[atN];omega
  cases m<;>simp only[A6]at h<;>first
   |exact hr h
   |(rcases atZ.1 h with rfl|h<;>first|exact hr h|(simp only[atN];omega))
variable(X)in
theorem E1{P:Program}(ht:y3 P X.tab)(hG:CS P X.G)(hc:(X.Xo.all fun p=>gq p.c)=true):n6 P X.E:=by
 have jw: ∀t τ,EY t X.tab=some τ→pd P τ (.inl t)=true∧RH P τ t=true:=fun t τ h=>by
  have:=avw.1 ht.ok _ (BH h)
  simpa using this
 exact{ty:=fun t τ h=>ea (jw t τ h).1,eq:=fun t τ h hc ha=>RI (ea (jw t τ h).1) (jw t τ h).2 hc ha,ad2:=vN hG,mixed:=ht.mixed,gq:=fun i L h=>y4 hc _ L h,NH:=fun i L h=>y4 hc _ L h}
theorem mkS{P:Program}(ht:y3 P X.tab){f:FuncId}(hf:P.funcs[f]? =some X.fn){q:Bool}(hc:Zf X q=true)(hG:CS P X.G){g:tB X.args X.R}(h: ∀x,Ef X.E X.fn X.args X.res x=A5 X.args g x):eZ P f (X.S q g):=by
 unfold Zf at hc
 simp only[atW]at hc
 obtain⟨h0,⟨h1,h2⟩,h3,h4,h5,h6⟩:=hc
 refine NY (E1 X ht hG h0) hf (by simpa using h1) (auj h2) (X.S q g) (fun i m hm sd=> ?_) (fun i hi=> ?_) ?_ (fun hq=> ?_) (atY h6) h
 ·have:=E0 (k:=0) hm sd
  rwa [auP]at this
 ·have:=J0 (k:=0) hi
  rwa [auP]at this
 ·have:=awr h4
  rwa [auj h2]at this
 ·have hq:q=true:=hq
  subst hq
  show X.res.all AM.flat=true
  simpa using h5
theorem Zg{g:tB X.args X.R}(h:Ls X.args (Ef X.E X.fn X.args X.res)=g)(x:HP X.args):Ef X.E X.fn X.args X.res x=A5 X.args g x:=by rw[←h,CR]
variable(X)in
theorem ok0{P:Program}(ht:y3 P X.tab){f:FuncId}(hf:P.funcs[f]? =some X.fn){q:Bool}(hc:Zf X q=true)(hG:CS P X.G){g:tB X.args X.R}(h:Ls X.args (Ef X.E X.fn X.args X.res)=g):eZ P f (X.S q g):=
 mkS ht hf hc hG (Zg h)
theorem Zh(hb:X.fn.body.isSome=true)(nI:List Nat)(hr: ∀K,X.tlT K=nI.map fun t=>(K t,X.bq X.wR t))
  {g:(Nat→St→X.R)→tB X.args X.R} (h: ∀K,X.top K=g K) {f:tB X.args X.R} (hf:g (X.bq X.wR)=f) (x:HP X.args):Ef X.E X.fn X.args X.res x=A5 X.args f x:=by
 rw[←hf,←h,Ze hb]
 unfold top
 rw[CR]
 exact at_eq X.E X.fn X.args X.res (hr (X.bq X.wR)) (RK (X.bq X.wR) nI) _
variable(X)in
theorem ok1{P:Program}(ht:y3 P X.tab){f:FuncId}(hf:P.funcs[f]? =some X.fn){q:Bool}(hc:Zf X q=true)(hG:CS P X.G)(nI:List Nat)(hr: ∀K,X.tlT K=nI.map fun t=>(K t,X.bq X.wR t))
  {g:(Nat→St→X.R)→tB X.args X.R} (h: ∀K,X.top K=g K) {f':tB X.args X.R} (xn:g (X.bq X.wR)=f'):eZ P f (X.S q f'):=by
 have hb:X.fn.body.isSome=true:=by
  unfold Zf at hc
  simp only[atW]at hc
  exact hc.2.2.1
 exact mkS ht hf hc hG (Zh hb nI hr h xn)
theorem uJ{i:Nat}(nI:List Nat){g:(Nat→St→X.R)→(Nat→St→X.R)→M7 (X.c i) X.R}(h: ∀K ρ,X.bd K ρ i=g K ρ)(ρ:Nat→St→X.R){f:M7 (X.c i) X.R}(hf:g (X.bq ρ) ρ=f:=by rfl)
 (hi:odd i=false:=by kernel_rfl) (hr: ∀K ρ,X.tl K ρ i=nI.map fun t=>(K t,X.bq ρ t):=by intro K ρ;kernel_rfl):X.kc (X.bq ρ) i=f:=(okJ nI hi hr h ρ).trans hf
theorem uL{i:Nat}(nI:List Nat){g:(Nat→St→X.R)→(Nat→St→X.R)→M7 (X.c i) X.R}(h: ∀K ρ,X.bd K ρ i=g K ρ)(ρ:Nat→St→X.R)
 (G:Nat→M7 (X.c i) X.R) (hs: ∀n ρ',X.kc ρ' i=G n→(∀l,Nat.beq l i=false→X.kc ρ' l=X.kc ρ l)→g (X.bq ρ') ρ'=G (n+1)) (h0:X.cu i (fun _=>none)=G 0:=by rfl)
 (hi:okb X i=true:=by kernel_rfl) (hr: ∀K ρ,X.tl K ρ i=nI.map fun t=>(K t,X.bq ρ t):=by intro K ρ;kernel_rfl):X.kc (X.bq ρ) i=G X.N:=okL nI hi hr h ρ G h0 hs
variable(X)in
theorem u0{P:Program}(ht:y3 P X.tab){f:FuncId}(hf:P.funcs[f]? =some X.fn){q:Bool}{g:tB X.args X.R}(hG:CS P X.G:=by first|exact trivial|exact Kn.all _)(hc:Zf X q=true:=by kernel_rfl)(h:Ls X.args (Ef X.E X.fn X.args X.res)=g:=by kernel_rfl):eZ P f (X.S q g):=ok0 X ht hf hc hG h
variable(X)in
theorem u1{P:Program}(ht:y3 P X.tab){f:FuncId}(hf:P.funcs[f]? =some X.fn)(nI:List Nat)
 {g:(Nat→St→X.R)→tB X.args X.R} (h: ∀K,X.top K=g K) {q:Bool} {f':tB X.args X.R} (xn:g (X.bq X.wR)=f':=by rfl) (hG:CS P X.G:=by first|exact trivial|exact Kn.all _) (hc:Zf X q=true:=by kernel_rfl) (hr: ∀K,X.tlT K=nI.map fun t=>(K t,X.bq X.wR t):=by intro K;kernel_rfl):eZ P f (X.S q f'):=ok1 X ht hf hc hG nI hr h xn
end Fx
end VM
end
section
namespace VM
open Go
variable{P:Program}
theorem Left.same(w:World)(M0:Nat→Prop)(h: ∀b,M0 b→b<w.heap.size):Left w M0 [] w M0:=
 ⟨fun _ h=>h,h,fun _ _ h=> .inl h,fun _ _ _=>rfl,atP _,rfl,rfl,rfl⟩
theorem aer{w:World}{M:Nat→Prop}{a b c:IntKind}{x:HP [.v (.int a),.v (.int b),.v (.int c)]}{vs:List Value}(h:fY w M [.v (.int a),.v (.int b),.v (.int c)] x vs):vs=[.int a x.1,.int b x.2.1,.int c x.2.2]:=by
 simp only[fY,A1,V,Ty.isAgg,auA,avq,Rd,auv,au3]at h
 obtain⟨v,vs,rfl,rfl,v,vs,rfl,rfl,v,vs,rfl,rfl,rfl⟩:=h
 rfl
theorem rr2{w:World}{M:Nat→Prop}{a b:IntKind}(x y:Int):RR w M [.v (.int a),.v (.int b)] (x,y) [.int a x,.int b y] []:=by
 simp only[RR]
 refine .inr ⟨_,_,rfl,rfl,rfl,?_,.inr ⟨_,_,rfl,rfl,rfl,?_,rfl,trivial⟩⟩<;>simp[A1,V,Ty.isAgg,Rd,qS,vz]
theorem J1{f:FuncId}(run:Int×Int×Int→Option (Int×Int))
  (h: ∀(w:World) (a b c u v:Int),run (a,b,c)=some (u,v)→(callFunc f #[.int .u64 a,.int .u64 b,.int .u64 c]).run P w= .ok (.value (.tuple #[.int .u64 u,.int .u64 v])) w):
  eZ P f {args:=[.v (.int .u64),.v (.int .u64),.v (.int .u64)],res:=[.v (.int .u64),.v (.int .u64)],quiet:=true,run}:=by
 refine⟨fun _=>rfl,rfl,fun M0 w vs x y nH hA _ _ hy=> ?_⟩
 have Rg:=aer hA
 subst Rg
 exact AY (h w x.1 x.2.1 x.2.2 y.1 y.2 hy) ⟨_,M0,rfl,rr2 y.1 y.2,Left.same w M0 nH,List.nodup_nil,fun b hb=>by cases hb⟩
theorem vO(nm:String)(a b c:Nat)(h:c≤1)(w:World):(Extern.MathBitsCarry.three nm #[.int .u64 a,.int .u64 b,.int .u64 c]).run P w= .ok (a,b,c) w:=by
 have h5: ¬(1<c):=by omega
 have:Extern.MathBitsCarry.three nm #[.int .u64 a,.int .u64 b,.int .u64 c]=(do
  let c:=(←asInt (.int .u64 c)).toNat
  if c>1 then unsupported (.noEntry ("extern/math/bits." ++nm++ ": a carry that is neither 0 nor 1"))
  pure ((←asInt (.int .u64 a)).toNat,(←asInt (.int .u64 b)).toNat,c)):=rfl
 rw[this]
 simp[asInt,asIntOf]
 omega
theorem Lu{f:FuncId}{fn:Func}(N:Nat)(hf:P.funcs[f]? =some fn)(uH:(fn.name== "runtime.NumGoroutine")=false)(hb:fn.body.isNone=true)(hn:Extern.findNext fn=none)
  (he:Extern.find fn=(Extern.MathBitsCarry.rows[0]?).map (·.2)):eZ P f (sU.S N):=by
 refine J1 (fun x=>sU N x.1 x.2.1 x.2.2) fun w a b c u v hy=> ?_
 simp only[sU]at hy
 split at hy
 ·rename_i hc
  obtain⟨h1,h2,h3,h4⟩:=hc
  obtain⟨a,rfl⟩:=auZ h1
  obtain⟨b,rfl⟩:=auZ h2
  obtain⟨c,rfl⟩:=auZ h3
  cases hy
  rw[run_callFunc_extern hf uH hb hn he]
  simp[vO _ a b c (by omega),Extern.MathBitsCarry.pair,Extern.MathBitsCarry.m64]
 ·cases hy
theorem ac2{f:FuncId}{fn:Func}(N:Nat)(hf:P.funcs[f]? =some fn)(uH:(fn.name== "runtime.NumGoroutine")=false)(hb:fn.body.isNone=true)(hn:Extern.findNext fn=none)
  (he:Extern.find fn=(Extern.MathBitsCarry.rows[1]?).map (·.2)):eZ P f (Eg.S N):=by
 refine J1 (fun x=>Eg N x.1 x.2.1 x.2.2) fun w a b c u v hy=> ?_
 simp only[Eg]at hy
 split at hy
 ·rename_i hc
  obtain⟨h1,lI,h2,sZ,h3,h4⟩:=hc
  obtain⟨a,rfl⟩:=auZ h1
  obtain⟨b,rfl⟩:=auZ h2
  obtain⟨c,rfl⟩:=auZ h3
  cases hy
  rw[run_callFunc_extern hf uH hb hn he]
  have e1:((a+18446744073709551616-b-c:Nat):Int)=(a:Int)+18446744073709551616-b-c:=by omega
  by_cases h:a<b+c
  ·have h':(a:Int)<(b:Int)+(c:Int):=by omega
   simp[vO _ a b c (by omega),Extern.MathBitsCarry.pair,Extern.MathBitsCarry.m64,e1,h,h']
  ·have h': ¬(a:Int)<(b:Int)+(c:Int):=by omega
   simp[vO _ a b c (by omega),Extern.MathBitsCarry.pair,Extern.MathBitsCarry.m64,e1,h,h']
 ·cases hy
end VM
end
section
namespace VM
open Go Go.Shelf Go.RowKit Go.Lib Go.Proofs
variable{P:Program}{ρ:Ren}
noncomputable def Oc(ρ:Ren)(fn:Func):Func:={fn with body:=(Body2.n22 ρ).body,ntmps:=95,results:=(Body2.n22 ρ).results,nfree:=0}
theorem rq(ρ:Ren)(fn:Func):(Oc ρ fn).ntmps=95:=rfl
structure Lv(P:Program)(e:Ty)(ρ:Ren)(f:FuncId)(fn fo:Func):Prop where
 hf:P.funcs[f]? =some (Oc ρ fn)
 t3:P.underlying (ρ.t 3)=some (.int .i64)
 t4:P.underlying (ρ.t 4)=some .bool
 t24:P.underlying (ρ.t 24)=some (.slice (ρ.t 9))
 lay:gM P e (ρ.t 9)
 lU:0<e.size
 mixed:P.follows .mixedOrders=true
set_option maxHeartbeats 4000000 in
set_option maxRecDepth 100000 in
theorem CT{e:Ty}{f:FuncId}{fn fo:Func}(L:Lv P e ρ f fn fo)(w:World)(base:Option Addr)(n c m vc:Nat)(va:Addr)(v':Value)(w':World)(hm:0<m)(hn:n≤c)
  (EG: ∀ty,(Builtin.append_ #[ρ.t 24,ρ.t 24] ty #[.slice base n c,.slice (some va) m vc]).run P w= .ok v' w'):
   Calls P f #[.slice base n c,.int .i64 n,.slice (some va) m vc] w fun r w2=>r= .returned v'∧w2=w':=by
 have u3:=run_underlying L.t3;have u4:=run_underlying L.t4;have u24:=run_underlying L.t24
 have t3:=L.t3;have t4:=L.t4;have t24:=L.t24
 have z9:=fun w=>cc L.lay w
 have mixed:=L.mixed
 have yb: ¬((m:Int)=0):=by omega
 go_enter L.hf,rq ρ fn
 cases base with
 |none=>
   go_wp2_with (at_builtin;refine Lib.wpList_append_run _ rfl _ _ _ _ rfl _ _ rfl rfl _ _ (EG _) ?_)
   all_goals (go_ret;exact⟨rfl,rfl⟩)
 |some a=>
   obtain⟨ab,ao,asp⟩:=a
   go_wp2_with (at_builtin;refine Lib.wpList_append_run _ rfl _ _ _ _ rfl _ _ rfl rfl _ _ (EG _) ?_)
   all_goals (go_ret;exact⟨rfl,rfl⟩)
theorem run_copy_row{t te e:TypeId}{k:Nat}(ht:P.underlying t=some (.slice e))(hk: ∀w,(Go.sizeOf e).run P w= .ok k w){W:World}{b o aes aj0 Zi aet n:Nat}{a:Addr}{cs:Array Value}(hg:W.heap[b]? =some (.cells cs te (0,0)))
  {news:List Value} (hnn:Nat.min Zi aes=n) (hl:news.length=n*k) (hn: ∀j u,news[j]? =some u→W.cell? (a.add j)=some u) (h1: ∀u∈news,u.oneCell'=true) (EA:o+news.length≤cs.size) (ty:TypeId):
  (Builtin.copy_ #[t,t] ty #[.slice (some ⟨b,o,none⟩) aes aj0,.slice (some a) Zi aet]).run P W= .ok (goInt n) (W.setRow b (di cs.toList o news).toArray):=by
 have hf:=run_firstCells_some (P:=P) W k n a Zi aet news hl hn
 have q4:=run_storeCells_at (P:=P) b o te news 0 cs W hg (by omega) h1
 simp only[avK]at q4
 simp[Builtin.copy_,run_underlying ht,hk,Builtin.lenOf,hnn,hf,q4,di]
set_option maxHeartbeats 4000000 in
set_option maxRecDepth 100000 in
theorem Lw{e:Ty}{f:FuncId}{fn fo:Func}(L:Lv P e ρ f fn fo)(w:World)(b n c i m vc:Nat)(va:Addr)(CU Od:Array Value)(hi:i<n)(hm:0<m)(hr:n+m≤c)(aj1:c≤9223372036854775807)
  (hov: ∀x lb cb,(callFunc (ρ.f 29) #[.slice (some va) m vc,.slice (some ⟨b,x,none⟩) lb cb]).run P w= .ok (.value (.bool false)) w)
  (RL: ∀ty dc sc,(Builtin.copy_ #[(ρ.t 24),(ρ.t 24)] ty #[.slice (some ⟨b,(i+m)*e.size,none⟩) (n+m-(i+m)) dc,.slice (some ⟨b,i*e.size,none⟩) (n+m-i) sc]).run P w.drew= .ok (goInt ((n-i:Nat):Int)) (w.drew.setRow b CU))
  (RM: ∀W:World,W.heap=(w.setRow b CU).heap→ ∀ty dc,(Builtin.copy_ #[(ρ.t 24),(ρ.t 24)] ty #[.slice (some ⟨b,i*e.size,none⟩) (n+m-i) dc,.slice (some va) m vc]).run P W= .ok (goInt m) (W.setRow b Od)):
   Calls P f #[.slice (some ⟨b,0,none⟩) n c,.int .i64 i,.slice (some va) m vc] w fun r w2=>r= .returned (.slice (some ⟨b,0,none⟩) (n+m) c)∧w2=(w.drew.setRow b CU).setRow b Od:=by
 have u3:=run_underlying L.t3;have u4:=run_underlying L.t4;have u24:=run_underlying L.t24
 have t3:=L.t3;have t4:=L.t4;have t24:=L.t24
 have z9:=fun w=>cc L.lay w
 have mixed:=L.mixed
 have yb: ¬((m:Int)=0):=by omega
 have HN: ¬((i:Int)=(n:Int)):=by omega
 have hw1:IntKind.i64.wrap ((i:Int)+(m:Int))=(i:Int)+(m:Int):=by rw[IntKind.wrap_i64];omega
 have jS:(0:Int)≤(i:Int)+(m:Int):=by omega
 have jN:i≤n:=by omega
 have Lm:((i:Int)+(m:Int)).toNat=i+m:=by omega
 have th: ¬(c=i+m):=by omega
 have hb3:(i:Int)≤(n:Int)+(m:Int):=by omega
 have hb4: ¬(c=i):=by omega
 go_enter L.hf,rq ρ fn
 go_wp2_with (simp only[hov])
 go_region_law_o (refine step_copy_runI rfl _ _ (ρ.t 24) (ρ.t 24) rfl _ _ (by simp[Act.eval,Act.put]) (by simp[Act.eval,Act.put]) (RL _ _ _) ?_)
 have h2:=RM (w.drew.setRow b CU) rfl
 go_wp2
 go_ret
 exact⟨rfl,rfl⟩
set_option maxHeartbeats 4000000 in
set_option maxRecDepth 100000 in
theorem Oe{e:Ty}{f:FuncId}{fn fo:Func}(L:Lv P e ρ f fn fo)(w:World)(b n c i m vc nb G:Nat)(va:Addr)(Lx CU Od:Array Value)(hi:i<n)(hm:0<m)(hnc:n≤c)(hr:c<n+m)(aj1:c≤9223372036854775807)(Xh:n+m≤9223372036854775807)(hG:n+m≤G)(aqE:G≤9223372036854775807)
  (EG: ∀ty,(Builtin.append_ #[(ρ.t 24),(ρ.t 3)] ty #[.slice (some ⟨b,0,none⟩) i c,.int .i64 ((n:Int)+(m:Int)-(i:Int))]).run P w= .ok (.slice (some ⟨w.heap.size,0,none⟩) (n+m) G) (w.drew.alloc (.cells Lx (ρ.t 9))))
  (RL: ∀W:World,W.heap=(w.alloc (.cells Lx (ρ.t 9))).heap→ ∀ty dc,(Builtin.copy_ #[(ρ.t 24),(ρ.t 24)] ty #[.slice (some ⟨w.heap.size,i*e.size,none⟩) (n+m-i) dc,.slice (some va) m vc]).run P W= .ok (goInt m) (W.setRow w.heap.size CU))
  (RM: ∀W:World,W.heap=((w.alloc (.cells Lx (ρ.t 9))).setRow w.heap.size CU).heap→ ∀ty dc sc,(Builtin.copy_ #[(ρ.t 24),(ρ.t 24)] ty #[.slice (some ⟨w.heap.size,(i+m)*e.size,none⟩) (n+m-(i+m)) dc,.slice (some ⟨b,i*e.size,none⟩) (n-i) sc]).run P W= .ok (goInt ((n-i:Nat):Int)) (W.setRow w.heap.size Od)):
   Calls P f #[.slice (some ⟨b,0,none⟩) n c,.int .i64 i,.slice (some va) m vc] w fun r w2=>r= .returned (.slice (some ⟨w.heap.size,0,none⟩) (n+m) G)∧w2=((w.drew.alloc (.cells Lx (ρ.t 9))).setRow w.heap.size CU).drew.setRow w.heap.size Od:=by
 have u3:=run_underlying L.t3;have u4:=run_underlying L.t4;have u24:=run_underlying L.t24
 have t3:=L.t3;have t4:=L.t4;have t24:=L.t24
 have z9:=fun w=>cc L.lay w
 have mixed:=L.mixed
 have yb: ¬((m:Int)=0):=by omega
 have HN: ¬((i:Int)=(n:Int)):=by omega
 have hz3:(c:Int)<(n:Int)+(m:Int):=by omega
 have hw1:IntKind.i64.wrap ((i:Int)+(m:Int))=(i:Int)+(m:Int):=by rw[IntKind.wrap_i64];omega
 have jS:(0:Int)≤(i:Int)+(m:Int):=by omega
 have jN:i≤n:=by omega
 have Lm:((i:Int)+(m:Int)).toNat=i+m:=by omega
 have hGi: ¬(G=i):=by omega
 have aqF: ¬(G=i+m):=by omega
 have hci: ¬(c=i):=by omega
 have hb3:(i:Int)≤(n:Int):=by omega
 have h1:=RL ((w.alloc (.cells Lx (ρ.t 9))).drew) rfl
 have h2:=RM (((w.alloc (.cells Lx (ρ.t 9))).drew.setRow w.heap.size CU).drew) rfl
 go_enter L.hf,rq ρ fn
 go_wp2_with (first
   |(at_builtin;refine Lib.wpList_append_run _ rfl _ _ _ _ rfl _ _ rfl rfl _ _ (EG _) ?_)
   |(at_builtin;refine wpList_copy_runI _ rfl _ _ (ρ.t 24) (ρ.t 24) rfl _ _ rfl rfl (RL _ (by exact rfl) _ _) ?_)
   |(at_builtin;refine wpList_copy_runI _ rfl _ _ (ρ.t 24) (ρ.t 24) rfl _ _ rfl rfl (RM _ (by exact rfl) _ _ _) ?_))
 go_region_law_o (refine step_copy_runI rfl _ _ (ρ.t 24) (ρ.t 24) rfl _ _ (by simp[Act.eval,Act.put]) (by simp[Act.eval,Act.put]) (h2 _ _ _) ?_)
 go_wp2
 go_ret
 exact⟨rfl,rfl⟩
theorem yd{α:Type}(A Z news:List α):di (A++Z) A.length news=A++(news++Z.drop news.length):=by
 unfold di
 rw[av7 rfl,atV,←auV,avc rfl]
theorem mR.aeu{w:World}{M:Nat→Prop}{e:Ty}{cs:List Value}{l:List e.den}(h:mR w M e cs l)(i:Nat):mR w M e (cs.take (i*e.size)) (l.take i):=by
 intro j hj
 rw[at4]at hj
 have:=cR (s:=e.size) (show j<i by omega)
 rw[avE,avF,auL (by omega),List.getElem_take]
 exact h j (by omega)
theorem mR.aev{w:World}{M:Nat→Prop}{e:Ty}{cs:List Value}{l:List e.den}(h:mR w M e cs l)(i:Nat):mR w M e ((cs.drop (i*e.size)).take ((l.length-i)*e.size)) (l.drop i):=by
 intro j hj
 rw[aum]at hj
 have:=cR (s:=e.size) hj
 rw[avE,avF,auL (by omega),auV,List.getElem_drop,←auE]
 exact h (i+j) (by omega)
theorem sg{w w':World}{M0:Nat→Prop}{hs:List Nat}{e:Ty}{rb cap:Nat}{row:Array Value}{t:TypeId}{l:List e.den}(nH: ∀b,M0 b→b<w.heap.size)(rm: ∀b∈hs,¬M0 b)
  (Xj: ∀b,b<w.heap.size→b∉hs→w'.heap[b]? =w.heap[b]?) (pv:w.heap.size≤w'.heap.size) (hrb:rb<w.heap.size→rb∈hs) (hos:w'.os=w.os) (htp:w'.tape=w.tape) (Ig:w'.output=w.output)
  (Ih:w'.heap[rb]? =some (.cells row t (0,0))) (h0:0<cap) (hl:l.length≤cap) (hm:cap≤maxLen) (hrs:row.size=cap*e.size) (g4:mR w (fun b=>M0 b∨b∈hs) e row.toList l):
  ∃us M',Value.slice (some ⟨rb,0,none⟩) l.length cap=ri us∧RR w' M' [.own e] l us []∧Left w M0 hs w' M'∧(a8 [.own e] us []).Nodup∧ ∀b∈a8 [.own e] us [],¬M0 b:=by
 have En:rb<w'.heap.size:=(aup.1 Ih).1
 have hk:dh w (fun b=>M0 b∨b∈hs) w' (fun b=>M0 b∨b=rb):=⟨pv,fun b hb hn=>Xj b hb (fun h=>hn (.inr h)),fun b hb h=>h.elim .inl (fun e=> .inr (e▸hrb (e▸hb)))⟩
 have tZ:a8 [.own e] [Value.slice (some ⟨rb,0,none⟩) l.length cap] []=[rb]:=by
  have:cap≠0:=by omega
  simp[a8,cy,AM.fO,eA,this]
 refine⟨[.slice (some ⟨rb,0,none⟩) l.length cap],fun b=>M0 b∨b=rb,rfl,?_,?_,?_,?_⟩
 ·simp only[RR]
  refine .inr ⟨_,[],rfl,rfl,rfl,?_,rfl,trivial⟩
  simp only[A1,ER,qS]
  exact .inr ⟨rb,row,t,cap,rfl,Ih,.inr rfl,h0,hl,hm,hrs,g4.bp hk⟩
 ·exact⟨fun b h=> .inl h,fun b h=>h.elim (fun h=>auU (nH b h) pv) (fun h=>h▸En),fun b hb h=>h.elim .inl (fun e=> .inr (e▸hrb (e▸hb))),Xj,pv,hos,htp,Ig⟩
 ·rw[tZ];simp
 ·rw[tZ]
  intro b hb h
  rw[at2]at hb
  subst hb
  exact rm b (hrb (nH b h)) h
theorem setRow_other(w:World){b c:Nat}(r:Array Value)(h:c≠b):(w.setRow b r).heap[c]? =w.heap[c]? :=by
 unfold World.setRow
 rw[Array.getElem?_modify,atL (fun e=>h e.symm)]
theorem setRow_size(w:World)(b:Nat)(r:Array Value):(w.setRow b r).heap.size=w.heap.size:=by
 unfold World.setRow;simp
theorem alloc_old(w:World)(o:Obj){c:Nat}(h:c<w.heap.size):(w.alloc o).heap[c]? =w.heap[c]? :=by
 show(w.heap.push o)[c]? =_
 rw[Array.getElem?_push,atL (by omega)]
theorem mD(w:World)(o:Obj):(w.alloc o).heap[w.heap.size]? =some o:=by
 show(w.heap.push o)[w.heap.size]? =_
 simp
theorem kd(w:World)(o:Obj):(w.alloc o).heap.size=w.heap.size+1:=by
 show(w.heap.push o).size=_
 simp
theorem pL{w:World}{b:Nat}{cs:Array Value}{t:TypeId}{f:Nat×Nat}(h:w.heap[b]? =some (.cells cs t f))(o n:Nat): ∀j u,((cs.toList.drop o).take n)[j]? =some u→w.cell? ((⟨b,o,none⟩:Addr).add j)=some u:=by
 intro j u hj
 rw[Addr.add_lit]
 rw[auN]at hj
 split at hj
 ·rw[auO,auo]at hj
  simp only[World.cell?,h]
  simpa using hj
 ·cases hj
theorem J2{w:World}{M:Nat→Prop}{v:Value}{e:Ty}{l:List e.den}(h:ER w M v (.own e l)):(l=[]∧ ∃a,v= .slice a 0 0)∨
 ∃b cs t cap,v= .slice (some ⟨b,0,none⟩) l.length cap∧w.heap[b]? =some (.cells cs t (0,0))∧M b∧0<cap∧l.length≤cap∧cap≤maxLen∧cs.size=cap*e.size∧mR w M e cs.toList l:=h
end VM
end
section
namespace VM
open Go Go.Shelf Go.RowKit Go.Lib Go.Proofs
variable{P:Program}{ρ:Ren}
theorem y5{w:World}{t e':TypeId}{e:Ty}(hu:P.underlying t=some (.slice e'))(hle:gM P e e'){n m cap cp:Nat}{olds news:List Value}{base:Option Addr}{a':Addr}(NB:base=none→n=0∧cap=0)
  (xy:olds.length=n*e.size) (ho: ∀b,base=some b→ ∀j u,olds[j]? =some u→w.cell? (b.add j)=some u) (QM:news.length=m*e.size) (hn: ∀j u,news[j]? =some u→w.cell? (a'.add j)=some u)
  (hg:cap<n+m) (hs:n+m<uh):
  ∃jx rest,(∀ty,(Builtin.append_ #[t,t] ty #[.slice base n cap,.slice (some a') m cp]).run P w= .ok (.slice (some ⟨w.heap.size,0,none⟩) (n+m) jx) (w.drew.alloc (.cells (olds++news++rest).toArray e')))∧
   n+m≤jx∧jx≤maxLen∧rest.length=(jx-(n+m))*e.size:=by
 obtain⟨i,hi,pv,hz,YL⟩:=hle.base
 have hzs:(bK e e.cf).cells.size=e.size:=by rw[←atO,eI,kH]
 have Xh:n+m≤maxLen:=by simp only[uh,maxLen]at hs ⊢;omega
 have EA:(n+m)*i.bytes≤140737488355328:=by
  have:(n+m)*i.bytes≤68719476736*2048:=awy (by simp only[uh]at hs;omega) YL
  omega
 refine⟨grownCap w (n+m) cap e',(Builtin.zeroCells (bK e e.cf).cells (grownCap w (n+m) cap e'-(n+m))).toList,fun ty=> ?_,grownCap_ge _ _ _ _,grownCap_le_maxLen _ _ _ _ Xh,?_⟩
 ·cases base with
  |none=>
   obtain⟨rfl,rfl⟩:=NB rfl
   have ho0:olds=[]:=auQ (by rw[xy];simp)
   subst ho0
   have:=run_append_nil (P:=P) w t ty e' i _ hu hi hz a' m cp news (by rw[QM,pv]) hn (by simpa using hg) (by simp only[uh]at hs;omega) (by simp at EA;omega)
   simp only[auP,aug]
   rw[this]
   congr 2
   apply avh (fun z=>Obj.cells z e' (0,0))
   apply avx;simp
  |some b=>
   have:=run_append_grow (P:=P) w t ty e' i _ hu hi hz b n cap olds (by rw[xy,pv]) (ho b rfl) a' m cp news (by rw[QM,pv]) hn hg (by simp only[uh]at hs;omega) (growslice_fits hg EA)
   rw[this]
   congr 2
   apply avh (fun z=>Obj.cells z e' (0,0))
   apply avx;simp
 ·rw[atO,size_zeroCells,hzs]
theorem Ly{w:World}{t tn e':TypeId}{e:Ty}(hu:P.underlying t=some (.slice e'))(Lm:P.underlying tn=some (.int .i64))(hle:gM P e e')(Zb:0<e.size){n k cap:Nat}{olds:List Value}{b:Addr}
  (xy:olds.length=n*e.size) (ho: ∀j u,olds[j]? =some u→w.cell? (b.add j)=some u) (hk:0<k) (hg:cap<n+k) (hs:n+k<uh):
  ∃jx rest,(∀ty,(Builtin.append_ #[t,tn] ty #[.slice (some b) n cap,.int .i64 k]).run P w= .ok (.slice (some ⟨w.heap.size,0,none⟩) (n+k) jx) (w.drew.alloc (.cells (olds++rest).toArray e')))∧
   n+k≤jx∧jx≤maxLen∧rest.length=(jx-n)*e.size:=by
 obtain⟨i,hi,pv,hz,YL⟩:=hle.base
 have hzs:(bK e e.cf).cells.size=e.size:=by rw[←atO,eI,kH]
 have Xh:n+k≤maxLen:=by simp only[uh,maxLen]at hs ⊢;omega
 have EA:(n+k)*i.bytes≤140737488355328:=by
  have:(n+k)*i.bytes≤68719476736*2048:=awy (by simp only[uh]at hs;omega) YL
  omega
 have hkb:k*i.bytes≤281474976710656:=by
  have:k*i.bytes≤(n+k)*i.bytes:=auJ _ (by omega)
  omega
 have Rr:=grownCap_ge w (n+k) cap e'
 refine⟨grownCap w (n+k) cap e',(Builtin.zeroCells (bK e e.cf).cells k++Builtin.zeroCells (bK e e.cf).cells (grownCap w (n+k) cap e'-(n+k))).toList,fun ty=> ?_,Rr,grownCap_le_maxLen _ _ _ _ Xh,?_⟩
 ·have hold:(Builtin.firstCells i.size n (.slice (some b) n cap)).run P w.drew= .ok olds.toArray w.drew:=run_firstCells_some w.drew i.size n b n cap olds (by rw[xy,pv]) (fun j u hj=>ho j u hj)
  have:=Lib.run_append_grow_zeros w t tn ty e' i _ .i64 .i64 hu Lm hi hz (some b) n cap olds hold k hk (by rw[pv];exact Zb) hg (by simp only[uh]at hs;omega) hkb (growslice_fits hg EA)
  rw[this]
  congr 2
  apply avh (fun z=>Obj.cells z e' (0,0))
  apply avx;simp
 ·rw[Array.toList_append,atJ,atO,atO,size_zeroCells,size_zeroCells,hzs,←auE]
  congr 1;omega
structure OvP(P:Program)(ρ:Ren)(fo:Func):Prop where
 hf:P.funcs[ρ.f 29]? =some fo
 name:(fo.name== "runtime.NumGoroutine")=false
 body:fo.body.isNone=true
 next:Extern.findNext fo=none
 find:Extern.find fo=some (Extern.SlicesOverlaps.overlaps #[ρ.t 24,ρ.t 24] #[ρ.t 4])
theorem y6{e:Ty}{f:FuncId}{fn fo:Func}(L:Lv P e ρ f fn fo)(O:OvP P ρ fo)(uH:(fn.name== "runtime.NumGoroutine")=false)(Of:(Body2.n22 ρ).body.isNone=false)(N:Nat):eZ P f (iy e N):=by
 refine⟨(fun h=>by cases h),rfl,fun M0 w vs x y nH hA uE rm hy=> ?_⟩
 obtain⟨l,i,v⟩:=x
 have NZ:lZ N l i v=some y:=hy
 clear hy
 simp only[iy,fY]at hA
 obtain⟨v0,QQ,rfl,h0,v1,vs2,rfl,h1,v2,vs3,rfl,h2,rfl⟩:=hA
 simp only[lZ]at NZ
 split at NZ
 case isFalse=>cases NZ
 rename_i hc
 cases NZ
 obtain⟨hi0,AP,Ib,CV⟩:=hc
 obtain⟨i,rfl⟩:=auZ hi0
 have aew:i≤l.length:=by omega
 simp only[A1,qS,vz,V,Ty.isAgg,auA,avq,Rd,auv,au3]at h0 h1 h2
 subst h1
 have hk:=L.lU
 replace Ib:List.length (α:=e.den) v=1:=Ib
 rcases J2 h2 with⟨RE,_⟩|⟨b2,Yy,t2,uO,Rh,Er,CB,YM,hl2,ur,Xp,DW⟩
 ·rw[RE]at Ib;cases Ib
 replace Rh:v2= .slice (some ⟨b2,0,none⟩) 1 uO:=by rw[Rh];congr 1
 subst Rh
 have Rf:e.size≤Yy.toList.length:=by
  rw[atO (xs:=Yy),Xp]
  exact Nat.le_mul_of_pos_left _ YM
 obtain⟨news,Og⟩: ∃news,news=Yy.toList.take e.size:=⟨_,rfl⟩
 have Bq:news.length=1*e.size:=by rw[Og,at4,avt];omega
 have hnr:mR w (fun b=>M0 b∨b∈cG (iy e N).args [v0,.int .i64 (i:Int),.slice (some ⟨b2,0,none⟩) 1 uO]) e news v:=by
  rw[Og];exact DW.take (by rw[Ib,avt];exact atP _)
 have hnc: ∀j u,news[j]? =some u→w.cell? ((⟨b2,0,none⟩:Addr).add j)=some u:=by
  have:=pL Er 0 e.size
  rw[aui]at this
  rw[Og];exact this
 have hn1: ∀u∈news,u.oneCell'=true:=by
  have:=hnr 0 (by omega)
  rw[Nat.zero_mul,aui,aur (by omega)]at this
  exact this.kG
 have th:eA (.slice (some ⟨b2,0,none⟩) 1 uO)=some b2:=by simp[eA];omega
 replace CV:List.length (α:=e.den) l+1<uh:=CV
 have Xq:(List.take i l++(v++List.drop i l)).length=l.length+1:=by rw[atJ,atJ,at4,aum,Ib];omega
 have hbn:(Oc ρ fn).body.isNone=false:=Of
 refine oL L.hf uH hbn ?_
 rcases J2 h0 with⟨rfl,ad,rfl⟩|⟨b1,ua,t1,xC,rfl,HI,hM1,Ey,hl1,o6,JN,HO⟩
 ·
  have hi:i=0:=by simpa using aew
  subst hi
  obtain⟨jx,rest,cD,Lp,gP,En⟩:=y5 (P:=P) (w:=w) L.t24 L.lay (n:=0) (m:=1) (cap:=0) (cp:=uO) (olds:=[]) (news:=news) (base:=ad) (a':=⟨b2,0,none⟩) (fun _=>⟨rfl,rfl⟩) (by simp) (fun _ _ j u hj=>by simp at hj) Bq hnc (by omega) (by simp only[uh];omega)
  refine(CT L w ad 0 0 1 uO ⟨b2,0,none⟩ _ _ (by omega) (atP _) cD).mono ?_
  rintro e1 w' ⟨rfl,rfl⟩
  refine⟨_,rfl,?_⟩
  simp only[auP]at Lp En
  have hv:v=v++[]:=by simp
  have:=sg (e:=e) (rb:=w.heap.size) (cap:=jx) (l:=v) (t:=ρ.t 9) (w:=w) (w':=w.drew.alloc (.cells ([]++news++rest).toArray (ρ.t 9))) nH rm (fun b hb _=>alloc_old w.drew _ hb) (by rw[kd];exact awd _) (fun h=>absurd h (aw9 _)) rfl rfl rfl (mD w.drew _) (by omega) (by omega) gP
   (by simp only[aug,auG,atJ,Bq,En,←auE];congr 1;omega) (by simpa using hnr.more (cs':=rest) (by rw[Ib,Bq];exact atP _))
  rw[Ib]at this
  simpa [iy,du,AM.fO]using this
 ·have jS:eA (.slice (some ⟨b1,0,none⟩) l.length xC)=some b1:=by simp[eA];omega
  have hh:cG (iy e N).args [.slice (some ⟨b1,0,none⟩) l.length xC,.int .i64 (i:Int),.slice (some ⟨b2,0,none⟩) 1 uO]=[b1,b2]:=by simp[iy,cG,cy,jS,th]
  rw[hh]at uE rm hnr ⊢
  replace HO:mR w (fun b=>M0 b∨b∈[b1,b2]) e ua.toList l:=by rw[←hh];exact HO
  have ib:b1≠b2:=by simpa using uE
  have aj5:b1<w.heap.size:=(aup.1 HI).1
  have adH:b2<w.heap.size:=(aup.1 Er).1
  have oK:l.length*e.size≤ua.toList.length:=by rw[atO (xs:=ua),JN];exact auJ _ hl1
  have hik:i*e.size≤l.length*e.size:=auJ _ aew
  obtain⟨A,hAe⟩: ∃A,A=ua.toList.take (i*e.size):=⟨_,rfl⟩
  obtain⟨mid,Zj⟩: ∃mid,mid=(ua.toList.drop (i*e.size)).take ((l.length-i)*e.size):=⟨_,rfl⟩
  have J3:A.length=i*e.size:=by rw[hAe,at4];omega
  have AB:mid.length=(l.length-i)*e.size:=by
   rw[Zj,at4,aum,awe];omega
  have hAr:=HO.aeu i
  have hmr:=HO.aev i
  rw[←hAe]at hAr
  rw[←Zj]at hmr
  have hti:(l.take i).length=i:=by rw[at4];omega
  have J4: ∀rest:List Value,mR w (fun b=>M0 b∨b∈[b1,b2]) e (A++(news++(mid++rest))) (l.take i++(v++l.drop i)):=fun rest=>
   hAr.append (by rw[J3,hti]) (hnr.append (by rw[Bq,Ib]) (hmr.more (by rw[aum,AB];exact atP _)))
  have hAc: ∀j u,A[j]? =some u→w.cell? ((⟨b1,0,none⟩:Addr).add j)=some u:=by
   have:=pL HI 0 (i*e.size)
   rw[aui]at this
   rw[hAe];exact this
  have hmc: ∀j u,mid[j]? =some u→w.cell? ((⟨b1,i*e.size,none⟩:Addr).add j)=some u:=by
   rw[Zj];exact pL HI (i*e.size) _
  have aeA: ∀u∈mid,u.oneCell'=true:=by
   intro u hu
   obtain⟨j,hj,rfl⟩:=au4.1 hu
   rw[AB]at hj
   have hq:j/e.size<l.length-i:=Nat.div_lt_of_lt_mul (by rw[axc];exact hj)
   have:=(hmr (j/e.size) (by rw[aum];exact hq)).kG
   refine this _ ?_
   have hjm:j/e.size*e.size+j%e.size=j:=by rw[axc];exact Nat.div_add_mod j e.size
   have wC:j%e.size<e.size:=Nat.mod_lt _ hk
   rw[List.mem_iff_getElem?]
   refine⟨j%e.size,?_⟩
   rw[auN,atK wC,auO,hjm]
   exact atI _
  by_cases jN:i=l.length
  ·
   subst jN
   have YJ:mid=[]:=auQ (by rw[AB];simp)
   by_cases uC:l.length+1≤xC
   ·obtain⟨ie,hie,pv,_⟩:=L.lay.base
    have cD: ∀ty,(Builtin.append_ #[ρ.t 24,ρ.t 24] ty #[.slice (some ⟨b1,0,none⟩) l.length xC,.slice (some ⟨b2,0,none⟩) 1 uO]).run P w=_:=fun ty=>
     Ez (ty:=ty) (cp:=uO) L.t24 hie HI (by rw[pv];exact JN) (by rw[pv];exact Bq) hnc hn1 uC
    refine(CT L w _ _ _ 1 uO ⟨b2,0,none⟩ _ _ (by omega) hl1 cD).mono ?_
    rintro e1 w' ⟨rfl,rfl⟩
    refine⟨_,rfl,?_⟩
    rw[pv]
    have Ih:di ua.toList (l.length*e.size) news=A++(news++(mid++ua.toList.drop (l.length*e.size+news.length))):=by
     rw[YJ,hAe];simp[di]
    have:=sg (e:=e) (rb:=b1) (cap:=xC) (l:=l.take l.length++(v++l.drop l.length)) (t:=t1) (w:=w) (w':=w.setRow b1 (di ua.toList (l.length*e.size) news).toArray) nH rm (fun b hb hn=>setRow_other w _ (fun e=>hn (by simp[e]))) (by rw[setRow_size];exact atP _) (fun _=>by simp) rfl rfl rfl (setRow_heap w b1 ua _ t1 _ HI) Ey (by rw[Xq];exact uC) o6
     (by
      have:=cR (s:=e.size) (show l.length<xC by omega)
      rw[Ih,auG]
      simp only[atJ,YJ,aua,aum,atO,J3,Bq,JN]
      omega)
     (by rw[Ih];exact J4 _)
    rw[Xq]at this
    simpa [iy,du,AM.fO]using this
   ·obtain⟨jx,rest,cD,Lp,gP,En⟩:=y5 (P:=P) (w:=w) L.t24 L.lay (n:=l.length) (m:=1) (cap:=xC) (cp:=uO) (olds:=A) (news:=news) (base:=some ⟨b1,0,none⟩) (a':=⟨b2,0,none⟩) (fun h=>by cases h) J3 (fun b hb=>by cases hb;exact hAc) Bq hnc (by omega) CV
    refine(CT L w _ _ _ 1 uO ⟨b2,0,none⟩ _ _ (by omega) hl1 cD).mono ?_
    rintro e1 w' ⟨rfl,rfl⟩
    refine⟨_,rfl,?_⟩
    have:=sg (e:=e) (rb:=w.heap.size) (cap:=jx) (l:=l.take l.length++(v++l.drop l.length)) (t:=ρ.t 9) (w:=w) (w':=w.drew.alloc (.cells (A++news++rest).toArray (ρ.t 9))) nH rm (fun b hb _=>alloc_old w.drew _ hb) (by rw[kd];exact awd _) (fun h=>absurd h (aw9 _)) rfl rfl rfl (mD w.drew _) (by omega) (by rw[Xq];exact Lp) gP
     (by simp only[auG,atJ,J3,Bq,En,←auE];congr 1;omega) (by have:=J4 rest;rw[YJ,aug,←atV]at this;exact this)
    rw[Xq]at this
    simpa [iy,du,AM.fO]using this
  ·have Zk:i<l.length:=by omega
   have Rq:i*e.size+e.size≤l.length*e.size:=cR Zk
   have e1k:(i+1)*e.size=A.length+news.length:=by rw[J3,Bq,auE]
   have yF:Nat.min 1 (l.length+1-i)=1:=auL (by omega)
   by_cases uC:l.length+1≤xC
   ·
    have aeB:l.length*e.size+e.size≤ua.toList.length:=by rw[atO (xs:=ua),JN];exact cR (by omega)
    have hsh: ∀(b:Nat) (c:Array Value) (t:TypeId),w.heap[b]? =some (.cells c t (0,0))→w.shape? b=some (t,c.size):=fun b c t h=>by simp[World.shape?,h]
    obtain⟨B,hB⟩: ∃B,B=ua.toList.drop (i*e.size):=⟨_,rfl⟩
    have aeC:ua.toList=A++B:=by rw[hAe,hB,auq]
    have hBl:B.length=ua.toList.length-i*e.size:=by rw[hB,aum]
    have hBk:(B.take e.size).length=e.size:=by rw[at4];omega
    have E2:di ua.toList ((i+1)*e.size) mid=A++(B.take e.size++(mid++(B.drop e.size).drop mid.length)):=by
     have:ua.toList=(A++B.take e.size)++B.drop e.size:=by rw[atV,auq];exact aeC
     rw[this,show(i+1)*e.size=(A++B.take e.size).length from by rw[atJ,hBk,J3,auE,avt],yd,atV]
    have E3:di (di ua.toList ((i+1)*e.size) mid) (i*e.size) news=A++(news++(mid++(B.drop e.size).drop mid.length)):=by
     rw[E2,←J3,yd,Bq,avt,avc hBk]
    refine(Lw L w b1 l.length xC i 1 uO ⟨b2,0,none⟩ (di ua.toList ((i+1)*e.size) mid).toArray (di (di ua.toList ((i+1)*e.size) mid) (i*e.size) news).toArray Zk (by omega) uC (by simp only[maxLen]at o6;omega) (fun x lb cb=> ?_) (fun ty dc sc=> ?_) (fun W hW ty dc=> ?_)).mono ?_
    ·rw[run_callFunc_extern O.hf O.name O.body O.next O.find,
      Lib.run_overlaps_apart w (ρ.t 24) (ρ.t 4) (ρ.t 9) L.t24 e.size (fun w=>cc L.lay w) ⟨b2,0,none⟩ ⟨b1,x,none⟩ 1 uO lb cb (avr ib) t2 t1 Yy.size ua.size (hsh b2 Yy t2 Er) (hsh b1 ua t1 HI) (by rw[JN];exact Nat.ne_of_gt (Nat.mul_pos Ey hk)) (by simp[World.frozen?,Er]) (by simp[World.frozen?,Er])]
     rfl
    ·exact run_copy_row (P:=P) (W:=w.drew) L.t24 (fun w=>cc L.lay w) (cs:=ua) HI (news:=mid) (n:=l.length-i) (by simp only[Nat.min_def];split<;>omega) AB hmc aeA (by rw[AB,auE,avt];rw[atO (xs:=ua)]at aeB;rw[awe];omega) ty
    ·exact run_copy_row (P:=P) (W:=W) L.t24 (fun w=>cc L.lay w) (cs:=(di ua.toList ((i+1)*e.size) mid).toArray) (te:=t1) (by rw[hW];exact setRow_heap w b1 ua _ t1 _ HI) (news:=news) (n:=1) yF Bq
      (fun j u hj=>by
       have:=hnc j u hj
       rw[Addr.add_lit]at this ⊢
       rw[show W.cell? ⟨b2,0+j,none⟩=w.cell? ⟨b2,0+j,none⟩from World.cell?_of_block (by rw[hW];exact setRow_other w _ (avr ib))]
       exact this) hn1 (by
       rw[auG,E2]
       simp only[atJ,hBk,J3,Bq]
       omega) ty
    ·rintro e1 w' ⟨rfl,rfl⟩
     refine⟨_,rfl,?_⟩
     have:=sg (e:=e) (rb:=b1) (cap:=xC) (l:=l.take i++(v++l.drop i)) (t:=t1) (w:=w) (w':=(w.drew.setRow b1 (di ua.toList ((i+1)*e.size) mid).toArray).setRow b1 (di (di ua.toList ((i+1)*e.size) mid) (i*e.size) news).toArray) nH rm
      (fun b hb hn=>(setRow_other _ _ (fun e=>hn (by simp[e]))).trans (setRow_other _ _ (fun e=>hn (by simp[e])))) (by rw[setRow_size,setRow_size];exact atP _) (fun _=>by simp) rfl rfl rfl (setRow_heap _ b1 _ _ t1 _ (setRow_heap w.drew b1 ua _ t1 _ HI)) Ey (by rw[Xq];exact uC) o6
      (by
       rw[E3,auG]
       rw[atO (xs:=ua)]at aeB hBl
       simp only[atJ,aum,J3,Bq,AB,hBl,awe]
       omega)
      (by rw[E3];exact J4 _)
     rw[Xq]at this
     simpa [iy,du,AM.fO]using this
   ·
    obtain⟨jx,Z,cD,Lp,gP,hZl⟩:=Ly (P:=P) (w:=w) L.t24 L.t3 L.lay hk (n:=i) (k:=l.length+1-i) (cap:=xC) (olds:=A) (b:=⟨b1,0,none⟩) J3 hAc (by omega) (by omega) (by omega)
    have aj8:i+(l.length+1-i)=l.length+1:=by omega
    rw[aj8]at cD Lp
    have hZk:(l.length+1-i)*e.size≤Z.length:=by rw[hZl];exact auJ _ (by omega)
    rw[awe,auE,avt]at hZk
    have E2:di (A++Z) (i*e.size) news=A++(news++Z.drop news.length):=by rw[←J3,yd]
    have E3:di (di (A++Z) (i*e.size) news) ((i+1)*e.size) mid=A++(news++(mid++(Z.drop news.length).drop mid.length)):=by
     rw[E2,←atV,e1k,←atJ,yd,atV]
    have hnb:w.heap.size≠b1:=by omega
    have aqO:b2≠w.heap.size:=by omega
    refine(Oe L w b1 l.length xC i 1 uO 0 jx ⟨b2,0,none⟩ (A++Z).toArray (di (A++Z) (i*e.size) news).toArray (di (di (A++Z) (i*e.size) news) ((i+1)*e.size) mid).toArray Zk (by omega) hl1 (by omega) (by simp only[maxLen]at o6;omega) (by simp only[uh]at CV;omega) Lp (by simp only[maxLen]at gP;omega) (fun ty=> ?_) (fun W hW ty dc=> ?_) (fun W hW ty dc sc=> ?_)).mono ?_
    ·have:=cD ty
     rw[show(((l.length+1-i:Nat):Int))=(l.length:Int)+(1:Nat)-(i:Int)from by omega]at this
     exact this
    ·exact run_copy_row (P:=P) (W:=W) L.t24 (fun w=>cc L.lay w) (cs:=(A++Z).toArray) (te:=ρ.t 9) (by rw[hW];exact mD w _) (news:=news) (n:=1) yF Bq
      (fun j u hj=>by
       have:=hnc j u hj
       rw[Addr.add_lit]at this ⊢
       rw[show W.cell? ⟨b2,0+j,none⟩=w.cell? ⟨b2,0+j,none⟩from World.cell?_of_block (by rw[hW];exact alloc_old w _ adH)]
       exact this) hn1 (by rw[auG,atJ,J3,Bq];omega) ty
    ·exact run_copy_row (P:=P) (W:=W) L.t24 (fun w=>cc L.lay w) (cs:=(di (A++Z) (i*e.size) news).toArray) (te:=ρ.t 9) (by rw[hW];exact setRow_heap _ _ _ _ _ _ (mD w _)) (news:=mid) (n:=l.length-i) (by simp only[Nat.min_def];split<;>omega) AB
      (fun j u hj=>by
       have:=hmc j u hj
       rw[Addr.add_lit]at this ⊢
       rw[show W.cell? ⟨b1,i*e.size+j,none⟩=w.cell? ⟨b1,i*e.size+j,none⟩from World.cell?_of_block (by rw[hW];exact(setRow_other _ _ (avr hnb)).trans (alloc_old w _ aj5))]
       exact this) aeA (by
       rw[auG,E2]
       simp only[atJ,aum,J3,Bq,AB,auE,awe]
       omega) ty
    ·rintro e1 w' ⟨rfl,rfl⟩
     refine⟨_,rfl,?_⟩
     have Yu:((w.drew.alloc (.cells (A++Z).toArray (ρ.t 9))).setRow w.heap.size (di (A++Z) (i*e.size) news).toArray).drew.heap[w.heap.size]? =some (.cells (di (A++Z) (i*e.size) news).toArray (ρ.t 9) (0,0)):=setRow_heap _ _ _ _ _ _ (mD w.drew _)
     have:=sg (e:=e) (rb:=w.heap.size) (cap:=jx) (l:=l.take i++(v++l.drop i)) (t:=ρ.t 9) (w:=w) (w':=((w.drew.alloc (.cells (A++Z).toArray (ρ.t 9))).setRow w.heap.size (di (A++Z) (i*e.size) news).toArray).drew.setRow w.heap.size (di (di (A++Z) (i*e.size) news) ((i+1)*e.size) mid).toArray) nH rm
      (fun b hb hn=>(setRow_other _ _ (by omega)).trans ((setRow_other _ _ (by omega)).trans (alloc_old w.drew _ hb))) (by rw[setRow_size];show _≤(World.setRow _ _ _).heap.size;rw[setRow_size,kd];exact awd _) (fun h=>absurd h (aw9 _)) rfl rfl rfl (setRow_heap _ _ _ _ _ _ Yu) (by omega) (by rw[Xq];exact Lp) gP
      (by
       rw[E3,auG]
       have hmul:(jx-i)*e.size=jx*e.size-i*e.size:=awe _ _ _
       have hci:i*e.size≤jx*e.size:=auJ _ (by omega)
       simp only[atJ,aum,J3,Bq,AB,hZl,hmul,awe]at hZk ⊢
       omega)
      (by rw[E3];exact J4 _)
     rw[Xq]at this
     simpa [iy,du,AM.fO]using this
end VM
end
section
namespace VM
open Go Go.Shelf Go.RowKit Go.Lib Go.Proofs
variable{P:Program}{ρ:Ren}
noncomputable def Oh(ρ:Ren)(fn:Func):Func:={fn with body:=(Body2.n15 ρ).body,ntmps:=8,results:=(Body2.n15 ρ).results,nfree:=0}
theorem wS(ρ:Ren)(fn:Func):(Oh ρ fn).ntmps=8:=rfl
structure y7(P:Program)(e:Ty)(ρ:Ren)(f:FuncId)(fn:Func):Prop where
 hf:P.funcs[f]? =some (Oh ρ fn)
 t4:P.underlying (ρ.t 4)=some .bool
 t22:P.underlying (ρ.t 22)=some (.slice (ρ.t 3))
 lay:gM P e (ρ.t 3)
 lU:0<e.size
 mixed:P.follows .mixedOrders=true
set_option maxHeartbeats 4000000 in
set_option maxRecDepth 100000 in
theorem LA{e:Ty}{f:FuncId}{fn:Func}(L:y7 P e ρ f fn)(w:World)(n c:Nat):
  Calls P f #[.slice none n c] w fun r w2=>r= .returned (.slice none 0 0)∧w2=w:=by
 have u22:=run_underlying L.t22
 have t4:=L.t4;have t22:=L.t22
 have z3:=fun w=>cc L.lay w
 have mixed:=L.mixed
 have q22: ∀(w:World) (a:Option Addr) (n c n' c':Nat),(binOp .eql (ρ.t 22) (.slice a n c) (.slice none n' c')).run P w= .ok (.bool a.isNone) w:=fun w a n c n' c'=>Lib.run_eql_slice_nil w _ _ a n c n' c' L.t22
 go_enter L.hf,wS ρ fn
 go_wp2
 go_ret
 exact⟨rfl,rfl⟩
set_option maxHeartbeats 4000000 in
set_option maxRecDepth 100000 in
theorem y8{e:Ty}{f:FuncId}{fn:Func}(L:y7 P e ρ f fn)(w:World)(a:Addr)(n c:Nat)(v':Value)(w':World)
  (EG: ∀ty,(Builtin.append_ #[ρ.t 22,ρ.t 22] ty #[.slice (some ⟨w.heap.size,0,none⟩) 0 0,.slice (some a) n c]).run P (w.alloc (.cells #[] (ρ.t 3)))= .ok v' w'):
   Calls P f #[.slice (some a) n c] w fun r w2=>r= .returned v'∧w2=w':=by
 have u22:=run_underlying L.t22
 have t4:=L.t4;have t22:=L.t22
 have z3:=fun w=>cc L.lay w
 have mixed:=L.mixed
 have q22: ∀(w:World) (a:Option Addr) (n c n' c':Nat),(binOp .eql (ρ.t 22) (.slice a n c) (.slice none n' c')).run P w= .ok (.bool a.isNone) w:=fun w a n c n' c'=>Lib.run_eql_slice_nil w _ _ a n c n' c' L.t22
 obtain⟨ab,ao,asp⟩:=a
 go_enter L.hf,wS ρ fn
 go_wp2_with (at_builtin;refine Lib.wpList_append_run _ rfl _ _ _ _ rfl _ _ rfl rfl _ _ (EG _) ?_)
 all_goals (go_ret;exact⟨rfl,rfl⟩)
theorem Oi{w w':World}{M0:Nat→Prop}{e:Ty}(a:Option Addr)(nH: ∀b,M0 b→b<w.heap.size)(Xj: ∀b,b<w.heap.size→w'.heap[b]? =w.heap[b]?)(pv:w.heap.size≤w'.heap.size)
  (hos:w'.os=w.os) (htp:w'.tape=w.tape) (Ig:w'.output=w.output):
  ∃us M',Value.slice a 0 0=ri us∧RR w' M' [.own e] ([]:List e.den) us []∧Left w M0 [] w' M'∧(a8 [.own e] us []).Nodup∧ ∀b∈a8 [.own e] us [],¬M0 b:=by
 have tZ:a8 [.own e] [Value.slice a 0 0] []=[]:=by
  cases a<;>simp[a8,cy,AM.fO,eA]
 refine⟨[.slice a 0 0],M0,rfl,?_,?_,?_,?_⟩
 ·simp only[RR]
  refine .inr ⟨_,[],rfl,rfl,rfl,?_,rfl,trivial⟩
  simp only[A1,ER,qS]
  exact .inl ⟨trivial,a,rfl⟩
 ·exact⟨fun b h=>h,fun b h=>auU (nH b h) pv,fun b hb h=> .inl h,fun b hb _=>Xj b hb,pv,hos,htp,Ig⟩
 ·rw[tZ];simp
 ·rw[tZ];simp
theorem iW{e:Ty}{f:FuncId}{fn:Func}(L:y7 P e ρ f fn)(uH:(fn.name== "runtime.NumGoroutine")=false)(Of:(Body2.n15 ρ).body.isNone=false)(N:Nat):eZ P f (oH e N):=by
 refine⟨(fun h=>by cases h),rfl,fun M0 w vs x y nH hA uE rm hy=> ?_⟩
 have NZ:iI N x=some y:=hy
 clear hy
 obtain⟨v0,QQ,rfl,h0,h2⟩:=hA
 have h2:QQ=[]:=h2
 subst h2
 replace h0:V w (fun b=>M0 b∨b∈([]:List Nat)) (.slice e) v0 x:=h0
 unfold iI at NZ
 split at NZ
 case isFalse=>cases NZ
 rename_i CV
 cases NZ
 have hbn:(Oh ρ fn).body.isNone=false:=Of
 have hh:cG (oH e N).args [v0]=[]:=rfl
 rw[hh]at rm ⊢
 refine oL L.hf uH hbn ?_
 obtain⟨i,hi,pv,hz,YL⟩:=L.lay.base
 have hS:=Src.Q9 h0
 by_cases hx:x=[]
 ·obtain⟨a,cp,hv,_⟩:=hS
  subst hv
  rw[hx]
  cases a with
  |none=>
   refine(LA L w _ cp).mono ?_
   rintro e1 w' ⟨rfl,rfl⟩
   exact⟨_,rfl,Oi none nH (fun _ _=>rfl) (atP _) rfl rfl rfl⟩
  |some a=>
   refine(y8 L w a _ cp _ _ (fun ty=>n0 (P:=P) (w:=w.alloc (.cells #[] (ρ.t 3))) L.t22 hi (some ⟨w.heap.size,0,none⟩) 0 0 (atP _) (some a) cp)).mono ?_
   rintro e1 w' ⟨rfl,rfl⟩
   exact⟨_,rfl,Oi _ nH (fun b hb=>alloc_old w _ hb) (by rw[kd];exact awd _) rfl rfl rfl⟩
 ·obtain⟨b,off,cp,news,hv,hl,ma,g4,h1⟩:=hS.cells hx
  have Ii:0<x.length:=au1.2 hx
  subst hv
  obtain⟨jx,rest,cD,Lp,gP,En⟩:=y5 (P:=P) (w:=w.alloc (.cells #[] (ρ.t 3))) L.t22 L.lay (n:=0) (m:=x.length) (cap:=0) (cp:=cp) (olds:=[]) (news:=news) (base:=some ⟨w.heap.size,0,none⟩) (a':=⟨b,off,none⟩) (fun h=>by cases h) (by simp) (fun _ _ j u hj=>by simp at hj) hl
   (fun j u hj=>by rw[Addr.add_lit];exact Lib.cell?_alloc_some _ (ma j u hj)) (by omega) (by omega)
  refine(y8 L w ⟨b,off,none⟩ _ cp _ _ cD).mono ?_
  rintro e1 w' ⟨rfl,rfl⟩
  refine⟨_,rfl,?_⟩
  simp only[auP]at Lp En ⊢
  have JN:(w.alloc (.cells #[] (ρ.t 3))).heap.size=w.heap.size+1:=kd w _
  exact sg (e:=e) (rb:=(w.alloc (.cells #[] (ρ.t 3))).heap.size) (cap:=jx) (l:=x) (t:=ρ.t 3) (w:=w) (w':=(w.alloc (.cells #[] (ρ.t 3))).drew.alloc (.cells ([]++news++rest).toArray (ρ.t 3))) nH rm
   (fun b hb _=>(alloc_old (w.alloc (.cells #[] (ρ.t 3))).drew _ (by show b<(w.alloc (.cells #[] (ρ.t 3))).heap.size;omega)).trans (alloc_old w _ hb))
   (by rw[kd];show w.heap.size≤(w.alloc (.cells #[] (ρ.t 3))).heap.size+1;omega) (fun h=>by omega) rfl rfl rfl (mD (w.alloc (.cells #[] (ρ.t 3))).drew _) (by omega) Lp gP
   (by simp only[aug,auG,atJ,hl,En,←auE];congr 1;omega) (by simpa using mR.more (cs':=rest) (show mR w (fun b=>M0 b∨b∈([]:List Nat)) e news x from g4) (by rw[hl];exact atP _))
end VM
end
