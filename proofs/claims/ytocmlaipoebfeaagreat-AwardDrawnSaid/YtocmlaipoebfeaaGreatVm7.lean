/- A part of the proof of AwardDrawn of layer 25: a machine that reads a function of the program as an equation between values. -/
import Derived.Test.YtocmlaipoebfeaaGreatVm6
import Derived.KernelRfl
import Derived.Test.YtocmlaipoebfeaaGreatVm0
import Derived.Laws.Externs
import Derived.Shelf.Spec.SlicesInsertGrow
set_option linter.all false
section
namespace VM
open Go
@[reducible] def CM.arr:CM→Type→Type
 | .v τ,T| .obj τ,T| .io τ,T| .fn _ τ,T=>τ.den→T
 | .own e,T=>List e.den→T
 | .dN τ _ e,T=>τ.den→List e.den→T
 | .same _,T=>T
@[reducible] def Me:List (Nat×CM)→Type→Type
 |[],R=>R
 |q::r,R=>q.2.arr (Me r R)
def CM.lam{T:Type}(s:Nat)(σ:St):(m:CM)→(St→T)→m.arr T
 | .v τ,f=>fun x=>f (σ.put s (.val τ x))
 | .own e,f=>fun x=>f ((σ.put s (.ref (16*s+14))).gK (16*s+14) (some (.own e x)))
 | .obj τ,f=>fun x=>f ((σ.put s (.fc (16*s+14) [])).gK (16*s+14) (some (.obj τ x)))
 | .dN τ q e,f=>fun x l=>f (((σ.put s (.fc (16*s+14) [])).gK (16*s+13) (some (.own e l))).gK (16*s+14) (some (.dN τ x q (16*s+13))))
 | .io τ,f=>fun x=>f ((σ.put s (.fc (16*s+15) [])).gK (16*s+15) (some (.obj τ x)))
 | .fn g τ,f=>fun x=>f (σ.put s (.Dj g (lA τ x)))
 | .same s',f=>f (σ.put s (σ.T s'))
def adh{R:Type}(κ:St→R):(L:List (Nat×CM))→St→Me L R
 |[],σ=>κ σ
 |q::r,σ=>q.2.lam q.1 σ (adh κ r)
@[reducible] def sJ:List AM→Type→Type
 |[],R=>R
 |m::r,R=>m.den→sJ r R
def yu{R:Type}:(ms:List AM)→sJ ms R→HP ms→R
 |[],g,_=>g
 |[_],g,x=>g x
 |_::n::ms,g,x=>yu (n::ms) (g x.1) x.2
def KI{R:Type}:(ms:List AM)→(HP ms→R)→sJ ms R
 |[],f=>f ()
 |[_],f=>f
 |_::n::ms,f=>fun x=>KI (n::ms) fun y=>f (x,y)
theorem B6{R:Type}: ∀(ms:List AM) (f:HP ms→R) (x:HP ms),yu ms (KI ms f) x=f x
 |[],_,()=>rfl
 |[_],_,_=>rfl
 |_::n::ms,f,x=>B6 (n::ms) (fun y=>f (x.1,y)) x.2
structure Pc where
 k:Nat
 c:List (Nat×CM)
 path:List Nat
 ks:List Nat
def Nn:List Pc→Nat→Pc
 |[],_=>⟨0,[],[],[]⟩
 |p::r,k=>cond (Nat.beq k p.k) p (Nn r k)
def D8:List Pc→Nat→Option (List (Nat×CM))
 |[],_=>none
 |p::r,k=>cond (Nat.beq k p.k) (some p.c) (D8 r k)
def vg:List (Nat×gP)→Nat→List gP
 |[],_=>[]
 |q::r,i=>cond (Nat.beq i q.1) (q.2::vg r i) (vg r i)
def Ae:List AM→Nat→List Nat
 |[],_=>[]
 | .io _::r,i=>i::Ae r (i+1)
 |_::r,i=>Ae r (i+1)
structure Fx where
 nt:Nat
 tab:List (Nat×Ty)
 G:List (Nat×gP)
 N:Nat
 fn:Func
 args:List AM
 res:List AM
 Wq:List Pc
 lk:Option (Ty×List Step×Ty×List Nat):=none
namespace Fx
variable(X:Fx)
abbrev R:=Option (HP X.res)
def E:Env:={nt:=X.nt,ty:=fun i=>D7 i X.tab,Γ:=vg X.G,N:=X.N,qj:=fun r=>D8 X.Wq (2*r+1),rK:=fun r=>D8 X.Wq (2*r),io:=Ae X.args 0,lk:=X.lk}
@[reducible] def c(i:Nat):List (Nat×CM):=(Nn X.Wq i).c
def path(i:Nat):List Nat:=(Nn X.Wq i).path
def odd(i:Nat):Bool:=Nat.beq (i%2) 1
def cut(ρ:Nat→St→X.R)(l:Nat):St→X.R:=fun σ=>qn (some (X.c l)) σ (ρ l)
def ks(ρ:Nat→St→X.R)(i:Nat):List (St→X.R):=(Nn X.Wq i).ks.map (X.cut ρ)
noncomputable def lp(ρ:Nat→St→X.R)(i n:Nat):St→X.R:=lpF X.E X.fn X.args X.res (X.c i) (X.path i) (X.ks ρ i) n
noncomputable def bp(ρ:Nat→St→X.R)(i:Nat):St→X.R:=cond (odd i) (X.lp ρ i X.N) (Ya X.E X.fn X.args X.res (X.path i) (X.ks ρ i))
def own(ρ:Nat→St→X.R)(i:Nat):List (St→X.R):=X.ks ρ i++cond (odd i) [X.cut ρ i] []
noncomputable def KJ(K ρ:Nat→St→X.R)(i:Nat):St→X.R:=atQ X.E X.fn X.args X.res (fun r=>K (2*r)) (fun r=>K (2*r+1)) (X.path i) (X.own ρ i)
noncomputable def tl(K ρ:Nat→St→X.R)(i:Nat):List ((St→X.R)×(St→X.R)):=qD X.E (fun r=>K (2*r)) (fun r=>K (2*r+1)) (QH X.E X.fn X.args X.res (X.path i) (X.own ρ i))
@[reducible] def cu(i:Nat)(κ:St→X.R):Me (X.c i) X.R:=adh κ (X.c i) S0
@[reducible] noncomputable def bd(K ρ:Nat→St→X.R)(i:Nat):Me (X.c i) X.R:=X.cu i (X.KJ K ρ i)
@[reducible] def kc(ρ:Nat→St→X.R)(i:Nat):Me (X.c i) X.R:=X.cu i (ρ i)
def wc:Nat→St→X.R:=fun _ _=>none
noncomputable def top(K:Nat→St→X.R):sJ X.args X.R:=KI X.args fun x=>atQ X.E X.fn X.args X.res (fun r=>K (2*r)) (fun r=>K (2*r+1)) [] [] (entry X.args x 0 S0)
noncomputable def tlT(K:Nat→St→X.R):List ((St→X.R)×(St→X.R)):=qD X.E (fun r=>K (2*r)) (fun r=>K (2*r+1)) (QH X.E X.fn X.args X.res [] [])
noncomputable def S(q:Bool)(g:sJ X.args X.R):gP:={args:=X.args,res:=X.res,quiet:=q,run:=yu X.args g}
variable{X}
theorem QI(f:Nat→St→X.R): ∀nu:List Nat,KG (nu.map fun t=>(f t,f t))
 |[]=>trivial
 |_::r=>⟨rfl,QI f r⟩
theorem okJ{i:Nat}(nu:List Nat)(hi:odd i=false)(hr: ∀K ρ,X.tl K ρ i=nu.map fun t=>(K t,X.bp ρ t)){g:(Nat→St→X.R)→(Nat→St→X.R)→Me (X.c i) X.R}(h: ∀K ρ,X.bd K ρ i=g K ρ)(ρ:Nat→St→X.R):X.kc (X.bp ρ) i=g (X.bp ρ) ρ:=by
 rw[←h]
 have:X.bp ρ i=X.KJ (X.bp ρ) ρ i:=by
  funext σ
  have h1:=hr (X.bp ρ) ρ
  unfold tl own at h1
  rw[hi,cond_false,List.append_nil]at h1
  unfold KJ own
  rw[hi,cond_false,List.append_nil]
  rw[←at_eq X.E X.fn X.args X.res h1 (QI (X.bp ρ) nu) σ]
  unfold bp;rw[hi];rfl
 unfold kc bd
 rw[this]
def okb(X:Fx)(i:Nat):Bool:=odd i&&(Nn X.Wq i).ks.all fun l=> !(Nat.beq l i)
theorem okL{i:Nat}(nu:List Nat)(hi:okb X i=true)(hr: ∀K ρ,X.tl K ρ i=nu.map fun t=>(K t,X.bp ρ t)){g:(Nat→St→X.R)→(Nat→St→X.R)→Me (X.c i) X.R}(h: ∀K ρ,X.bd K ρ i=g K ρ)(ρ:Nat→St→X.R)
  (G:Nat→Me (X.c i) X.R) (h0:X.cu i (fun _=>none)=G 0) (hs: ∀n ρ',X.kc ρ' i=G n→(∀l,Nat.beq l i=false→X.kc ρ' l=X.kc ρ l)→g (X.bp ρ') ρ'=G (n+1)):X.kc (X.bp ρ) i=G X.N:=by
 unfold okb at hi
 rw[Bool.and_eq_true]at hi
 obtain⟨hi,hk⟩:=hi
 have key: ∀n,X.cu i (X.lp ρ i n)=G n:=by
  intro n
  induction n with
  |zero=>exact h0
  |succ n ih=>
   let ρ':Nat→St→X.R:=fun l=>cond (Nat.beq l i) (X.lp ρ i n) (ρ l)
   have e1:ρ' i=X.lp ρ i n:=by show cond (Nat.beq i i) _ _=_;rw[Nat.beq_refl];rfl
   have e2: ∀l,Nat.beq l i=false→ρ' l=ρ l:=fun l hl=>by show cond (Nat.beq l i) _ _=_;rw[hl];rfl
   rw[←hs n ρ' (by unfold kc;rw[e1];exact ih) (fun l hl=>by unfold kc;rw[e2 l hl]),←h]
   have e3:X.ks ρ' i=X.ks ρ i:=by
    unfold ks
    refine List.map_congr_left fun l hl=> ?_
    have:=List.all_eq_true.1 hk l hl
    unfold cut
    rw[e2 l (by simpa using this)]
   have:X.lp ρ i (n+1)=X.KJ (X.bp ρ') ρ' i:=by
    funext σ
    have h1:=hr (X.bp ρ') ρ'
    unfold tl own at h1
    rw[hi,cond_true]at h1
    unfold KJ own
    rw[hi,cond_true]
    rw[←at_eq X.E X.fn X.args X.res h1 (QI (X.bp ρ') nu) σ]
    unfold lp
    rw[Nj,e3]
    unfold cut
    rw[e1];rfl
   unfold bd
   rw[this]
 have:X.bp ρ i=X.lp ρ i X.N:=by unfold bp;rw[hi];rfl
 unfold kc
 rw[this];exact key _
def B7(P:Program):List (Nat×gP)→Prop
 |[]=>True
 |q::r=>eI P q.1 q.2∧B7 P r
structure _root_.VM.Kn(P:Program) where
 f:Nat
 S:gP
 ok:eI P f S
def _root_.VM.Kn.p{P:Program}(k:Kn P):Nat×gP:=(k.f,k.S)
def _root_.VM.Kn.l{P:Program}:List (Kn P)→List (Nat×gP)
 |[]=>[]
 |k::r=>k.p::Kn.l r
theorem _root_.VM.Kn.all{P:Program}: ∀l:List (Kn P),B7 P (Kn.l l)
 |[]=>trivial
 |k::r=>⟨k.ok,Kn.all r⟩
theorem vh{P:Program}: ∀{l:List (Nat×gP)},B7 P l→ ∀f S,S∈vg l f→eI P f S
 |[],_,f,S,h=>by simp[vg]at h
 |q::r,ha,f,S,h=>by
  unfold vg at h
  cases hb:Nat.beq f q.1<;>rw[hb]at h
  ·exact vh ha.2 f S h
  ·rcases List.mem_cons.1 h with rfl|h
   ·rw[Nat.eq_of_beq_eq_true hb];exact ha.1
   ·exact vh ha.2 f S h
theorem yv: ∀{l:List Pc},(l.all fun p=>fR p.c)=true→ ∀i L,D8 l i=some L→fR L=true
 |q::r,ha,i,L,h=>by
  rw[List.all_cons,Bool.and_eq_true]at ha
  unfold D8 at h
  cases hb:Nat.beq i q.k<;>rw[hb]at h
  ·exact yv ha.2 i L h
  ·cases h;exact ha.1
def Yc(X:Fx)(q:Bool):Bool:=(X.Wq.all fun p=>fR p.c)&&((!(X.fn.name== "runtime.NumGoroutine")&&Nat.beq X.nt X.fn.ntmps)&&(X.fn.body.isSome&&(Nat.ble X.args.length X.nt&&((!q||X.res.all AM.flat)&&decide (kj X.args=kj X.res)))))
theorem D9: ∀{ms:List AM} {k i:Nat} {m:AM},ms[i]? =some m→m.fx=true→k+i∈Ae ms k
 |[],_,_,_,h,_=>by simp at h
 |m::ms,k,0,m',h,rf=>by
  simp only[List.getElem?_cons_zero,Option.some.injEq]at h
  subst h
  cases m<;>simp[AM.fx]at rf
  simp[Ae]
 |m::ms,k,i+1,m',h,rf=>by
  have:=D9 (ms:=ms) (k:=k+1) (i:=i) (by simpa using h) rf
  rw[show k+(i+1)=k+1+i from by omega]
  cases m<;>simp only[Ae]<;>first|exact List.mem_cons_of_mem _ this|exact this
theorem Jh: ∀{ms:List AM} {k i:Nat},i∈Ae ms k→i<k+ms.length
 |[],_,_,h=>by simp[Ae]at h
 |m::ms,k,i,h=>by
  have hr:i∈Ae ms (k+1)→i<k+(m::ms).length:=fun h=>by have:=Jh h;simp only[List.length_cons];omega
  cases m<;>simp only[Ae]at h<;>first
   |exact hr h
   |(rcases List.mem_cons.1 h with rfl|h<;>first|exact hr h|(simp only[List.length_cons];omega))
variable(X)in
theorem AT{P:Program}(ht:yt P X.tab)(hG:B7 P X.G)(hc:(X.Wq.all fun p=>fR p.c)=true):mF P X.E:=by
 have iX: ∀t τ,D7 t X.tab=some τ→oI P τ (.inl t)=true∧QF P τ t=true:=fun t τ h=>by
  have:=List.all_eq_true.1 ht.ok _ (AS h)
  simpa using this
 exact{ty:=fun t τ h=>dO (iX t τ h).1,eq:=fun t τ h hc ha=>QG (dO (iX t τ h).1) (iX t τ h).2 hc ha,acR:=vh hG,mixed:=ht.mixed,fR:=fun i L h=>yv hc _ L h,MN:=fun i L h=>yv hc _ L h}
theorem mkS{P:Program}(ht:yt P X.tab){f:FuncId}(hf:P.funcs[f]? =some X.fn){q:Bool}(hc:Yc X q=true)(hG:B7 P X.G){g:sJ X.args X.R}(h: ∀x,C3 X.E X.fn X.args X.res x=yu X.args g x):eI P f (X.S q g):=by
 unfold Yc at hc
 simp only[Bool.and_eq_true]at hc
 obtain⟨h0,⟨h1,h2⟩,h3,h4,h5,h6⟩:=hc
 refine M9 (AT X ht hG h0) hf (by simpa using h1) (Nat.eq_of_beq_eq_true h2) (X.S q g) (fun i m hm rf=> ?_) (fun i hi=> ?_) ?_ (fun hq=> ?_) (of_decide_eq_true h6) h
 ·have:=D9 (k:=0) hm rf
  rwa [Nat.zero_add]at this
 ·have:=Jh (k:=0) hi
  rwa [Nat.zero_add]at this
 ·have:=Nat.le_of_ble_eq_true h4
  rwa [Nat.eq_of_beq_eq_true h2]at this
 ·have hq:q=true:=hq
  subst hq
  show X.res.all AM.flat=true
  simpa using h5
theorem QJ{g:sJ X.args X.R}(h:KI X.args (C3 X.E X.fn X.args X.res)=g)(x:HP X.args):C3 X.E X.fn X.args X.res x=yu X.args g x:=by rw[←h,B6]
variable(X)in
theorem ok0{P:Program}(ht:yt P X.tab){f:FuncId}(hf:P.funcs[f]? =some X.fn){q:Bool}(hc:Yc X q=true)(hG:B7 P X.G){g:sJ X.args X.R}(h:KI X.args (C3 X.E X.fn X.args X.res)=g):eI P f (X.S q g):=
 mkS ht hf hc hG (QJ h)
theorem Yd(hb:X.fn.body.isSome=true)(nu:List Nat)(hr: ∀K,X.tlT K=nu.map fun t=>(K t,X.bp X.wc t))
  {g:(Nat→St→X.R)→sJ X.args X.R} (h: ∀K,X.top K=g K) {f:sJ X.args X.R} (hf:g (X.bp X.wc)=f) (x:HP X.args):C3 X.E X.fn X.args X.res x=yu X.args f x:=by
 rw[←hf,←h,Yb hb]
 unfold top
 rw[B6]
 exact at_eq X.E X.fn X.args X.res (hr (X.bp X.wc)) (QI (X.bp X.wc) nu) _
variable(X)in
theorem ok1{P:Program}(ht:yt P X.tab){f:FuncId}(hf:P.funcs[f]? =some X.fn){q:Bool}(hc:Yc X q=true)(hG:B7 P X.G)(nu:List Nat)(hr: ∀K,X.tlT K=nu.map fun t=>(K t,X.bp X.wc t))
  {g:(Nat→St→X.R)→sJ X.args X.R} (h: ∀K,X.top K=g K) {f':sJ X.args X.R} (wN:g (X.bp X.wc)=f'):eI P f (X.S q f'):=by
 have hb:X.fn.body.isSome=true:=by
  unfold Yc at hc
  simp only[Bool.and_eq_true]at hc
  exact hc.2.2.1
 exact mkS ht hf hc hG (Yd hb nu hr h wN)
theorem uJ{i:Nat}(nu:List Nat){g:(Nat→St→X.R)→(Nat→St→X.R)→Me (X.c i) X.R}(h: ∀K ρ,X.bd K ρ i=g K ρ)(ρ:Nat→St→X.R){f:Me (X.c i) X.R}(hf:g (X.bp ρ) ρ=f:=by rfl)
 (hi:odd i=false:=by kernel_rfl) (hr: ∀K ρ,X.tl K ρ i=nu.map fun t=>(K t,X.bp ρ t):=by intro K ρ;kernel_rfl):X.kc (X.bp ρ) i=f:=(okJ nu hi hr h ρ).trans hf
theorem uL{i:Nat}(nu:List Nat){g:(Nat→St→X.R)→(Nat→St→X.R)→Me (X.c i) X.R}(h: ∀K ρ,X.bd K ρ i=g K ρ)(ρ:Nat→St→X.R)
 (G:Nat→Me (X.c i) X.R) (hs: ∀n ρ',X.kc ρ' i=G n→(∀l,Nat.beq l i=false→X.kc ρ' l=X.kc ρ l)→g (X.bp ρ') ρ'=G (n+1)) (h0:X.cu i (fun _=>none)=G 0:=by rfl)
 (hi:okb X i=true:=by kernel_rfl) (hr: ∀K ρ,X.tl K ρ i=nu.map fun t=>(K t,X.bp ρ t):=by intro K ρ;kernel_rfl):X.kc (X.bp ρ) i=G X.N:=okL nu hi hr h ρ G h0 hs
variable(X)in
theorem u0{P:Program}(ht:yt P X.tab){f:FuncId}(hf:P.funcs[f]? =some X.fn){q:Bool}{g:sJ X.args X.R}(hG:B7 P X.G:=by first|exact trivial|exact Kn.all _)(hc:Yc X q=true:=by kernel_rfl)(h:KI X.args (C3 X.E X.fn X.args X.res)=g:=by kernel_rfl):eI P f (X.S q g):=ok0 X ht hf hc hG h
variable(X)in
theorem u1{P:Program}(ht:yt P X.tab){f:FuncId}(hf:P.funcs[f]? =some X.fn)(nu:List Nat)
 {g:(Nat→St→X.R)→sJ X.args X.R} (h: ∀K,X.top K=g K) {q:Bool} {f':sJ X.args X.R} (wN:g (X.bp X.wc)=f':=by rfl) (hG:B7 P X.G:=by first|exact trivial|exact Kn.all _) (hc:Yc X q=true:=by kernel_rfl) (hr: ∀K,X.tlT K=nu.map fun t=>(K t,X.bp X.wc t):=by intro K;kernel_rfl):eI P f (X.S q f'):=ok1 X ht hf hc hG nu hr h wN
end Fx
end VM
end
section
namespace VM
open Go
variable{P:Program}
theorem Left.same(w:World)(M0:Nat→Prop)(h: ∀b,M0 b→b<w.heap.size):Left w M0 [] w M0:=
 ⟨fun _ h=>h,h,fun _ _ h=> .inl h,fun _ _ _=>rfl,Nat.le_refl _,rfl,rfl,rfl⟩
theorem adi{w:World}{M:Nat→Prop}{a b c:IntKind}{x:HP [.v (.int a),.v (.int b),.v (.int c)]}{vs:List Value}(h:fG w M [.v (.int a),.v (.int b),.v (.int c)] x vs):vs=[.int a x.1,.int b x.2.1,.int c x.2.2]:=by
 simp only[fG,A1,V,Ty.isAgg,Bool.false_eq_true,if_false,Rd,List.cons.injEq,and_true]at h
 obtain⟨v,vs,rfl,rfl,v,vs,rfl,rfl,v,vs,rfl,rfl,rfl⟩:=h
 rfl
theorem rr2{w:World}{M:Nat→Prop}{a b:IntKind}(x y:Int):RR w M [.v (.int a),.v (.int b)] (x,y) [.int a x,.int b y] []:=by
 simp only[RR]
 refine .inr ⟨_,_,rfl,rfl,rfl,?_,.inr ⟨_,_,rfl,rfl,rfl,?_,rfl,trivial⟩⟩<;>simp[A1,V,Ty.isAgg,Rd,qg,uV]
theorem Ji{f:FuncId}(run:Int×Int×Int→Option (Int×Int))
  (h: ∀(w:World) (a b c u v:Int),run (a,b,c)=some (u,v)→(callFunc f #[.int .u64 a,.int .u64 b,.int .u64 c]).run P w= .ok (.value (.tuple #[.int .u64 u,.int .u64 v])) w):
  eI P f {args:=[.v (.int .u64),.v (.int .u64),.v (.int .u64)],res:=[.v (.int .u64),.v (.int .u64)],quiet:=true,run}:=by
 refine⟨fun _=>rfl,rfl,fun M0 w vs x y ns hA _ _ hy=> ?_⟩
 have Qe:=adi hA
 subst Qe
 exact z7 (h w x.1 x.2.1 x.2.2 y.1 y.2 hy) ⟨_,M0,rfl,rr2 y.1 y.2,Left.same w M0 ns,List.nodup_nil,fun b hb=>by cases hb⟩
theorem vi(nm:String)(a b c:Nat)(h:c≤1)(w:World):(Extern.MathBitsCarry.three nm #[.int .u64 a,.int .u64 b,.int .u64 c]).run P w= .ok (a,b,c) w:=by
 have h5: ¬(1<c):=by omega
 have:Extern.MathBitsCarry.three nm #[.int .u64 a,.int .u64 b,.int .u64 c]=(do
  let c:=(←asInt (.int .u64 c)).toNat
  if c>1 then unsupported (.noEntry ("extern/math/bits." ++nm++ ": a carry that is neither 0 nor 1"))
  pure ((←asInt (.int .u64 a)).toNat,(←asInt (.int .u64 b)).toNat,c)):=rfl
 rw[this]
 simp[asInt,asIntOf]
 omega
theorem KK{f:FuncId}{fn:Func}(N:Nat)(hf:P.funcs[f]? =some fn)(tN:(fn.name== "runtime.NumGoroutine")=false)(hb:fn.body.isNone=true)(hn:Extern.findNext fn=none)
  (he:Extern.find fn=(Extern.MathBitsCarry.rows[0]?).map (·.2)):eI P f (rW.S N):=by
 refine Ji (fun x=>rW N x.1 x.2.1 x.2.2) fun w a b c u v hy=> ?_
 simp only[rW]at hy
 split at hy
 ·rename_i hc
  obtain⟨h1,h2,h3,h4⟩:=hc
  obtain⟨a,rfl⟩:=Int.eq_ofNat_of_zero_le h1
  obtain⟨b,rfl⟩:=Int.eq_ofNat_of_zero_le h2
  obtain⟨c,rfl⟩:=Int.eq_ofNat_of_zero_le h3
  cases hy
  rw[run_callFunc_extern hf tN hb hn he]
  simp[vi _ a b c (by omega),Extern.MathBitsCarry.pair,Extern.MathBitsCarry.m64]
 ·cases hy
theorem abS{f:FuncId}{fn:Func}(N:Nat)(hf:P.funcs[f]? =some fn)(tN:(fn.name== "runtime.NumGoroutine")=false)(hb:fn.body.isNone=true)(hn:Extern.findNext fn=none)
  (he:Extern.find fn=(Extern.MathBitsCarry.rows[1]?).map (·.2)):eI P f (Dt.S N):=by
 refine Ji (fun x=>Dt N x.1 x.2.1 x.2.2) fun w a b c u v hy=> ?_
 simp only[Dt]at hy
 split at hy
 ·rename_i hc
  obtain⟨h1,la,h2,sb,h3,h4⟩:=hc
  obtain⟨a,rfl⟩:=Int.eq_ofNat_of_zero_le h1
  obtain⟨b,rfl⟩:=Int.eq_ofNat_of_zero_le h2
  obtain⟨c,rfl⟩:=Int.eq_ofNat_of_zero_le h3
  cases hy
  rw[run_callFunc_extern hf tN hb hn he]
  have e1:((a+18446744073709551616-b-c:Nat):Int)=(a:Int)+18446744073709551616-b-c:=by omega
  by_cases h:a<b+c
  ·have h':(a:Int)<(b:Int)+(c:Int):=by omega
   simp[vi _ a b c (by omega),Extern.MathBitsCarry.pair,Extern.MathBitsCarry.m64,e1,h,h']
  ·have h': ¬(a:Int)<(b:Int)+(c:Int):=by omega
   simp[vi _ a b c (by omega),Extern.MathBitsCarry.pair,Extern.MathBitsCarry.m64,e1,h,h']
 ·cases hy
end VM
end
section
namespace VM
open Go Go.Shelf Go.RowKit Go.Lib Go.Proofs
variable{P:Program}{ρ:Ren}
noncomputable def No(ρ:Ren)(fn:Func):Func:={fn with body:=(Body2.n22 ρ).body,ntmps:=95,results:=(Body2.n22 ρ).results,nfree:=0}
theorem qE(ρ:Ren)(fn:Func):(No ρ fn).ntmps=95:=rfl
structure KL(P:Program)(e:Ty)(ρ:Ren)(f:FuncId)(fn fo:Func):Prop where
 hf:P.funcs[f]? =some (No ρ fn)
 t3:P.underlying (ρ.t 3)=some (.int .i64)
 t4:P.underlying (ρ.t 4)=some .bool
 t24:P.underlying (ρ.t 24)=some (.slice (ρ.t 9))
 lay:gl P e (ρ.t 9)
 lC:0<e.size
 mixed:P.follows .mixedOrders=true
set_option maxHeartbeats 4000000 in
set_option maxRecDepth 100000 in
theorem B8{e:Ty}{f:FuncId}{fn fo:Func}(L:KL P e ρ f fn fo)(w:World)(base:Option Addr)(n c m vc:Nat)(va:Addr)(v':Value)(w':World)(hm:0<m)(hn:n≤c)
  (DR: ∀ty,(Builtin.append_ #[ρ.t 24,ρ.t 24] ty #[.slice base n c,.slice (some va) m vc]).run P w= .ok v' w'):
   Calls P f #[.slice base n c,.int .i64 n,.slice (some va) m vc] w fun r w2=>r= .returned v'∧w2=w':=by
 have u3:=run_underlying L.t3;have u4:=run_underlying L.t4;have u24:=run_underlying L.t24
 have t3:=L.t3;have t4:=L.t4;have t24:=L.t24
 have z9:=fun w=>bY L.lay w
 have mixed:=L.mixed
 have xw: ¬((m:Int)=0):=by omega
 go_enter L.hf,qE ρ fn
 cases base with
 |none=>
   go_wp2_with (at_builtin;refine Lib.wpList_append_run _ rfl _ _ _ _ rfl _ _ rfl rfl _ _ (DR _) ?_)
   all_goals (go_ret;exact⟨rfl,rfl⟩)
 |some a=>
   obtain⟨ab,ao,asp⟩:=a
   go_wp2_with (at_builtin;refine Lib.wpList_append_run _ rfl _ _ _ _ rfl _ _ rfl rfl _ _ (DR _) ?_)
   all_goals (go_ret;exact⟨rfl,rfl⟩)
theorem run_copy_row{t te e:TypeId}{k:Nat}(ht:P.underlying t=some (.slice e))(hk: ∀w,(Go.sizeOf e).run P w= .ok k w){W:World}{b o adj aiE Ye adk n:Nat}{a:Addr}{cs:Array Value}(hg:W.heap[b]? =some (.cells cs te (0,0)))
  {news:List Value} (hnn:Nat.min Ye adj=n) (hl:news.length=n*k) (hn: ∀j u,news[j]? =some u→W.cell? (a.add j)=some u) (h1: ∀u∈news,u.oneCell'=true) (DL:o+news.length≤cs.size) (ty:TypeId):
  (Builtin.copy_ #[t,t] ty #[.slice (some ⟨b,o,none⟩) adj aiE,.slice (some a) Ye adk]).run P W= .ok (goInt n) (W.setRow b (dd cs.toList o news).toArray):=by
 have hf:=run_firstCells_some (P:=P) W k n a Ye adk news hl hn
 have GH:=run_storeCells_at (P:=P) b o te news 0 cs W hg (by omega) h1
 simp only[Nat.add_zero]at GH
 simp[Builtin.copy_,run_underlying ht,hk,Builtin.lenOf,hnn,hf,GH,dd]
set_option maxHeartbeats 4000000 in
set_option maxRecDepth 100000 in
theorem KM{e:Ty}{f:FuncId}{fn fo:Func}(L:KL P e ρ f fn fo)(w:World)(b n c i m vc:Nat)(va:Addr)(B9 Np:Array Value)(hi:i<n)(hm:0<m)(hr:n+m≤c)(aiF:c≤9223372036854775807)
  (hov: ∀x lb cb,(callFunc (ρ.f 29) #[.slice (some va) m vc,.slice (some ⟨b,x,none⟩) lb cb]).run P w= .ok (.value (.bool false)) w)
  (QK: ∀ty dc sc,(Builtin.copy_ #[(ρ.t 24),(ρ.t 24)] ty #[.slice (some ⟨b,(i+m)*e.size,none⟩) (n+m-(i+m)) dc,.slice (some ⟨b,i*e.size,none⟩) (n+m-i) sc]).run P w.drew= .ok (goInt ((n-i:Nat):Int)) (w.drew.setRow b B9))
  (QL: ∀W:World,W.heap=(w.setRow b B9).heap→ ∀ty dc,(Builtin.copy_ #[(ρ.t 24),(ρ.t 24)] ty #[.slice (some ⟨b,i*e.size,none⟩) (n+m-i) dc,.slice (some va) m vc]).run P W= .ok (goInt m) (W.setRow b Np)):
   Calls P f #[.slice (some ⟨b,0,none⟩) n c,.int .i64 i,.slice (some va) m vc] w fun r w2=>r= .returned (.slice (some ⟨b,0,none⟩) (n+m) c)∧w2=(w.drew.setRow b B9).setRow b Np:=by
 have u3:=run_underlying L.t3;have u4:=run_underlying L.t4;have u24:=run_underlying L.t24
 have t3:=L.t3;have t4:=L.t4;have t24:=L.t24
 have z9:=fun w=>bY L.lay w
 have mixed:=L.mixed
 have xw: ¬((m:Int)=0):=by omega
 have GU: ¬((i:Int)=(n:Int)):=by omega
 have hw1:IntKind.i64.wrap ((i:Int)+(m:Int))=(i:Int)+(m:Int):=by rw[IntKind.wrap_i64];omega
 have jw:(0:Int)≤(i:Int)+(m:Int):=by omega
 have jr:i≤n:=by omega
 have KC:((i:Int)+(m:Int)).toNat=i+m:=by omega
 have sv: ¬(c=i+m):=by omega
 have hb3:(i:Int)≤(n:Int)+(m:Int):=by omega
 have hb4: ¬(c=i):=by omega
 go_enter L.hf,qE ρ fn
 go_wp2_with (simp only[hov])
 go_region_law_o (refine step_copy_runI rfl _ _ (ρ.t 24) (ρ.t 24) rfl _ _ (by simp[Act.eval,Act.put]) (by simp[Act.eval,Act.put]) (QK _ _ _) ?_)
 have h2:=QL (w.drew.setRow b B9) rfl
 go_wp2
 go_ret
 exact⟨rfl,rfl⟩
set_option maxHeartbeats 4000000 in
set_option maxRecDepth 100000 in
theorem Nq{e:Ty}{f:FuncId}{fn fo:Func}(L:KL P e ρ f fn fo)(w:World)(b n c i m vc nb G:Nat)(va:Addr)(KN B9 Np:Array Value)(hi:i<n)(hm:0<m)(hnc:n≤c)(hr:c<n+m)(aiF:c≤9223372036854775807)(Wj:n+m≤9223372036854775807)(hG:n+m≤G)(aph:G≤9223372036854775807)
  (DR: ∀ty,(Builtin.append_ #[(ρ.t 24),(ρ.t 3)] ty #[.slice (some ⟨b,0,none⟩) i c,.int .i64 ((n:Int)+(m:Int)-(i:Int))]).run P w= .ok (.slice (some ⟨w.heap.size,0,none⟩) (n+m) G) (w.drew.alloc (.cells KN (ρ.t 9))))
  (QK: ∀W:World,W.heap=(w.alloc (.cells KN (ρ.t 9))).heap→ ∀ty dc,(Builtin.copy_ #[(ρ.t 24),(ρ.t 24)] ty #[.slice (some ⟨w.heap.size,i*e.size,none⟩) (n+m-i) dc,.slice (some va) m vc]).run P W= .ok (goInt m) (W.setRow w.heap.size B9))
  (QL: ∀W:World,W.heap=((w.alloc (.cells KN (ρ.t 9))).setRow w.heap.size B9).heap→ ∀ty dc sc,(Builtin.copy_ #[(ρ.t 24),(ρ.t 24)] ty #[.slice (some ⟨w.heap.size,(i+m)*e.size,none⟩) (n+m-(i+m)) dc,.slice (some ⟨b,i*e.size,none⟩) (n-i) sc]).run P W= .ok (goInt ((n-i:Nat):Int)) (W.setRow w.heap.size Np)):
   Calls P f #[.slice (some ⟨b,0,none⟩) n c,.int .i64 i,.slice (some va) m vc] w fun r w2=>r= .returned (.slice (some ⟨w.heap.size,0,none⟩) (n+m) G)∧w2=((w.drew.alloc (.cells KN (ρ.t 9))).setRow w.heap.size B9).drew.setRow w.heap.size Np:=by
 have u3:=run_underlying L.t3;have u4:=run_underlying L.t4;have u24:=run_underlying L.t24
 have t3:=L.t3;have t4:=L.t4;have t24:=L.t24
 have z9:=fun w=>bY L.lay w
 have mixed:=L.mixed
 have xw: ¬((m:Int)=0):=by omega
 have GU: ¬((i:Int)=(n:Int)):=by omega
 have hz3:(c:Int)<(n:Int)+(m:Int):=by omega
 have hw1:IntKind.i64.wrap ((i:Int)+(m:Int))=(i:Int)+(m:Int):=by rw[IntKind.wrap_i64];omega
 have jw:(0:Int)≤(i:Int)+(m:Int):=by omega
 have jr:i≤n:=by omega
 have KC:((i:Int)+(m:Int)).toNat=i+m:=by omega
 have hGi: ¬(G=i):=by omega
 have api: ¬(G=i+m):=by omega
 have hci: ¬(c=i):=by omega
 have hb3:(i:Int)≤(n:Int):=by omega
 have h1:=QK ((w.alloc (.cells KN (ρ.t 9))).drew) rfl
 have h2:=QL (((w.alloc (.cells KN (ρ.t 9))).drew.setRow w.heap.size B9).drew) rfl
 go_enter L.hf,qE ρ fn
 go_wp2_with (first
   |(at_builtin;refine Lib.wpList_append_run _ rfl _ _ _ _ rfl _ _ rfl rfl _ _ (DR _) ?_)
   |(at_builtin;refine wpList_copy_runI _ rfl _ _ (ρ.t 24) (ρ.t 24) rfl _ _ rfl rfl (QK _ (by exact rfl) _ _) ?_)
   |(at_builtin;refine wpList_copy_runI _ rfl _ _ (ρ.t 24) (ρ.t 24) rfl _ _ rfl rfl (QL _ (by exact rfl) _ _ _) ?_))
 go_region_law_o (refine step_copy_runI rfl _ _ (ρ.t 24) (ρ.t 24) rfl _ _ (by simp[Act.eval,Act.put]) (by simp[Act.eval,Act.put]) (h2 _ _ _) ?_)
 go_wp2
 go_ret
 exact⟨rfl,rfl⟩
theorem xy{α:Type}(A Z news:List α):dd (A++Z) A.length news=A++(news++Z.drop news.length):=by
 unfold dd
 rw[List.take_left' rfl,List.append_assoc,←List.drop_drop,List.drop_left' rfl]
theorem mA.adl{w:World}{M:Nat→Prop}{e:Ty}{cs:List Value}{l:List e.den}(h:mA w M e cs l)(i:Nat):mA w M e (cs.take (i*e.size)) (l.take i):=by
 intro j hj
 rw[List.length_take]at hj
 have:=cR (s:=e.size) (show j<i by omega)
 rw[List.drop_take,List.take_take,Nat.min_eq_left (by omega),List.getElem_take]
 exact h j (by omega)
theorem mA.adm{w:World}{M:Nat→Prop}{e:Ty}{cs:List Value}{l:List e.den}(h:mA w M e cs l)(i:Nat):mA w M e ((cs.drop (i*e.size)).take ((l.length-i)*e.size)) (l.drop i):=by
 intro j hj
 rw[List.length_drop]at hj
 have:=cR (s:=e.size) hj
 rw[List.drop_take,List.take_take,Nat.min_eq_left (by omega),List.drop_drop,List.getElem_drop,←Nat.add_mul]
 exact h (i+j) (by omega)
theorem rk{w w':World}{M0:Nat→Prop}{hs:List Nat}{e:Ty}{rb cap:Nat}{row:Array Value}{t:TypeId}{l:List e.den}(ns: ∀b,M0 b→b<w.heap.size)(qB: ∀b∈hs,¬M0 b)
  (Wl: ∀b,b<w.heap.size→b∉hs→w'.heap[b]? =w.heap[b]?) (oT:w.heap.size≤w'.heap.size) (hrb:rb<w.heap.size→rb∈hs) (hos:w'.os=w.os) (htp:w'.tape=w.tape) (Hj:w'.output=w.output)
  (Hk:w'.heap[rb]? =some (.cells row t (0,0))) (h0:0<cap) (hl:l.length≤cap) (hm:cap≤maxLen) (hrs:row.size=cap*e.size) (gG:mA w (fun b=>M0 b∨b∈hs) e row.toList l):
  ∃us M',Value.slice (some ⟨rb,0,none⟩) l.length cap=qx us∧RR w' M' [.own e] l us []∧Left w M0 hs w' M'∧(a8 [.own e] us []).Nodup∧ ∀b∈a8 [.own e] us [],¬M0 b:=by
 have GI:rb<w'.heap.size:=(Array.getElem?_eq_some_iff.1 Hk).1
 have hk:da w (fun b=>M0 b∨b∈hs) w' (fun b=>M0 b∨b=rb):=⟨oT,fun b hb hn=>Wl b hb (fun h=>hn (.inr h)),fun b hb h=>h.elim .inl (fun e=> .inr (e▸hrb (e▸hb)))⟩
 have tf:a8 [.own e] [Value.slice (some ⟨rb,0,none⟩) l.length cap] []=[rb]:=by
  have:cap≠0:=by omega
  simp[a8,cq,AM.fx,eh,this]
 refine⟨[.slice (some ⟨rb,0,none⟩) l.length cap],fun b=>M0 b∨b=rb,rfl,?_,?_,?_,?_⟩
 ·simp only[RR]
  refine .inr ⟨_,[],rfl,rfl,rfl,?_,rfl,trivial⟩
  simp only[A1,ER,qg]
  exact .inr ⟨rb,row,t,cap,rfl,Hk,.inr rfl,h0,hl,hm,hrs,gG.br hk⟩
 ·exact⟨fun b h=> .inl h,fun b h=>h.elim (fun h=>Nat.lt_of_lt_of_le (ns b h) oT) (fun h=>h▸GI),fun b hb h=>h.elim .inl (fun e=> .inr (e▸hrb (e▸hb))),Wl,oT,hos,htp,Hj⟩
 ·rw[tf];simp
 ·rw[tf]
  intro b hb h
  rw[List.mem_singleton]at hb
  subst hb
  exact qB b (hrb (ns b h)) h
theorem setRow_other(w:World){b c:Nat}(r:Array Value)(h:c≠b):(w.setRow b r).heap[c]? =w.heap[c]? :=by
 unfold World.setRow
 rw[Array.getElem?_modify,if_neg (fun e=>h e.symm)]
theorem setRow_size(w:World)(b:Nat)(r:Array Value):(w.setRow b r).heap.size=w.heap.size:=by
 unfold World.setRow;simp
theorem alloc_old(w:World)(o:Obj){c:Nat}(h:c<w.heap.size):(w.alloc o).heap[c]? =w.heap[c]? :=by
 show(w.heap.push o)[c]? =_
 rw[Array.getElem?_push,if_neg (by omega)]
theorem me(w:World)(o:Obj):(w.alloc o).heap[w.heap.size]? =some o:=by
 show(w.heap.push o)[w.heap.size]? =_
 simp
theorem jG(w:World)(o:Obj):(w.alloc o).heap.size=w.heap.size+1:=by
 show(w.heap.push o).size=_
 simp
theorem o9{w:World}{b:Nat}{cs:Array Value}{t:TypeId}{f:Nat×Nat}(h:w.heap[b]? =some (.cells cs t f))(o n:Nat): ∀j u,((cs.toList.drop o).take n)[j]? =some u→w.cell? ((⟨b,o,none⟩:Addr).add j)=some u:=by
 intro j u hj
 rw[Addr.add_lit]
 rw[List.getElem?_take]at hj
 split at hj
 ·rw[List.getElem?_drop,Array.getElem?_toList]at hj
  simp only[World.cell?,h]
  simpa using hj
 ·cases hj
theorem Jj{w:World}{M:Nat→Prop}{v:Value}{e:Ty}{l:List e.den}(h:ER w M v (.own e l)):(l=[]∧ ∃a,v= .slice a 0 0)∨
 ∃b cs t cap,v= .slice (some ⟨b,0,none⟩) l.length cap∧w.heap[b]? =some (.cells cs t (0,0))∧M b∧0<cap∧l.length≤cap∧cap≤maxLen∧cs.size=cap*e.size∧mA w M e cs.toList l:=h
end VM
end
section
namespace VM
open Go Go.Shelf Go.RowKit Go.Lib Go.Proofs
variable{P:Program}{ρ:Ren}
theorem yw{w:World}{t e':TypeId}{e:Ty}(hu:P.underlying t=some (.slice e'))(hle:gl P e e'){n m cap cp:Nat}{olds news:List Value}{base:Option Addr}{a':Addr}(MI:base=none→n=0∧cap=0)
  (wW:olds.length=n*e.size) (ho: ∀b,base=some b→ ∀j u,olds[j]? =some u→w.cell? (b.add j)=some u) (PK:news.length=m*e.size) (hn: ∀j u,news[j]? =some u→w.cell? (a'.add j)=some u)
  (hg:cap<n+m) (hs:n+m<tp):
  ∃iY rest,(∀ty,(Builtin.append_ #[t,t] ty #[.slice base n cap,.slice (some a') m cp]).run P w= .ok (.slice (some ⟨w.heap.size,0,none⟩) (n+m) iY) (w.drew.alloc (.cells (olds++news++rest).toArray e')))∧
   n+m≤iY∧iY≤maxLen∧rest.length=(iY-(n+m))*e.size:=by
 obtain⟨i,hi,oT,hz,XH⟩:=hle.base
 have hzs:(bE e e.b7).cells.size=e.size:=by rw[←Array.length_toList,ew,jY]
 have Wj:n+m≤maxLen:=by simp only[tp,maxLen]at hs ⊢;omega
 have DL:(n+m)*i.bytes≤140737488355328:=by
  have:(n+m)*i.bytes≤68719476736*2048:=Nat.mul_le_mul (by simp only[tp]at hs;omega) XH
  omega
 refine⟨grownCap w (n+m) cap e',(Builtin.zeroCells (bE e e.b7).cells (grownCap w (n+m) cap e'-(n+m))).toList,fun ty=> ?_,grownCap_ge _ _ _ _,grownCap_le_maxLen _ _ _ _ Wj,?_⟩
 ·cases base with
  |none=>
   obtain⟨rfl,rfl⟩:=MI rfl
   have ho0:olds=[]:=List.eq_nil_of_length_eq_zero (by rw[wW];simp)
   subst ho0
   have:=run_append_nil (P:=P) w t ty e' i _ hu hi hz a' m cp news (by rw[PK,oT]) hn (by simpa using hg) (by simp only[tp]at hs;omega) (by simp at DL;omega)
   simp only[Nat.zero_add,List.nil_append]
   rw[this]
   congr 2
   apply congrArg (fun z=>Obj.cells z e' (0,0))
   apply Array.ext';simp
  |some b=>
   have:=run_append_grow (P:=P) w t ty e' i _ hu hi hz b n cap olds (by rw[wW,oT]) (ho b rfl) a' m cp news (by rw[PK,oT]) hn hg (by simp only[tp]at hs;omega) (growslice_fits hg DL)
   rw[this]
   congr 2
   apply congrArg (fun z=>Obj.cells z e' (0,0))
   apply Array.ext';simp
 ·rw[Array.length_toList,size_zeroCells,hzs]
theorem KO{w:World}{t tn e':TypeId}{e:Ty}(hu:P.underlying t=some (.slice e'))(KC:P.underlying tn=some (.int .i64))(hle:gl P e e')(X8:0<e.size){n k cap:Nat}{olds:List Value}{b:Addr}
  (wW:olds.length=n*e.size) (ho: ∀j u,olds[j]? =some u→w.cell? (b.add j)=some u) (hk:0<k) (hg:cap<n+k) (hs:n+k<tp):
  ∃iY rest,(∀ty,(Builtin.append_ #[t,tn] ty #[.slice (some b) n cap,.int .i64 k]).run P w= .ok (.slice (some ⟨w.heap.size,0,none⟩) (n+k) iY) (w.drew.alloc (.cells (olds++rest).toArray e')))∧
   n+k≤iY∧iY≤maxLen∧rest.length=(iY-n)*e.size:=by
 obtain⟨i,hi,oT,hz,XH⟩:=hle.base
 have hzs:(bE e e.b7).cells.size=e.size:=by rw[←Array.length_toList,ew,jY]
 have Wj:n+k≤maxLen:=by simp only[tp,maxLen]at hs ⊢;omega
 have DL:(n+k)*i.bytes≤140737488355328:=by
  have:(n+k)*i.bytes≤68719476736*2048:=Nat.mul_le_mul (by simp only[tp]at hs;omega) XH
  omega
 have hkb:k*i.bytes≤281474976710656:=by
  have:k*i.bytes≤(n+k)*i.bytes:=Nat.mul_le_mul_right _ (by omega)
  omega
 have Qq:=grownCap_ge w (n+k) cap e'
 refine⟨grownCap w (n+k) cap e',(Builtin.zeroCells (bE e e.b7).cells k++Builtin.zeroCells (bE e e.b7).cells (grownCap w (n+k) cap e'-(n+k))).toList,fun ty=> ?_,Qq,grownCap_le_maxLen _ _ _ _ Wj,?_⟩
 ·have hold:(Builtin.firstCells i.size n (.slice (some b) n cap)).run P w.drew= .ok olds.toArray w.drew:=run_firstCells_some w.drew i.size n b n cap olds (by rw[wW,oT]) (fun j u hj=>ho j u hj)
  have:=Lib.run_append_grow_zeros w t tn ty e' i _ .i64 .i64 hu KC hi hz (some b) n cap olds hold k hk (by rw[oT];exact X8) hg (by simp only[tp]at hs;omega) hkb (growslice_fits hg DL)
  rw[this]
  congr 2
  apply congrArg (fun z=>Obj.cells z e' (0,0))
  apply Array.ext';simp
 ·rw[Array.toList_append,List.length_append,Array.length_toList,Array.length_toList,size_zeroCells,size_zeroCells,hzs,←Nat.add_mul]
  congr 1;omega
structure OvP(P:Program)(ρ:Ren)(fo:Func):Prop where
 hf:P.funcs[ρ.f 29]? =some fo
 name:(fo.name== "runtime.NumGoroutine")=false
 body:fo.body.isNone=true
 next:Extern.findNext fo=none
 find:Extern.find fo=some (Extern.SlicesOverlaps.overlaps #[ρ.t 24,ρ.t 24] #[ρ.t 4])
theorem yx{e:Ty}{f:FuncId}{fn fo:Func}(L:KL P e ρ f fn fo)(O:OvP P ρ fo)(tN:(fn.name== "runtime.NumGoroutine")=false)(Nr:(Body2.n22 ρ).body.isNone=false)(N:Nat):eI P f (g5 e N):=by
 refine⟨(fun h=>by cases h),rfl,fun M0 w vs x y ns hA tK qB hy=> ?_⟩
 obtain⟨l,i,v⟩:=x
 have Na:lG N l i v=some y:=hy
 clear hy
 simp only[g5,fG]at hA
 obtain⟨v0,PQ,rfl,h0,v1,vs2,rfl,h1,v2,vs3,rfl,h2,rfl⟩:=hA
 simp only[lG]at Na
 split at Na
 case isFalse=>cases Na
 rename_i hc
 cases Na
 obtain⟨hi0,zW,Hg,Ca⟩:=hc
 obtain⟨i,rfl⟩:=Int.eq_ofNat_of_zero_le hi0
 have adn:i≤l.length:=by omega
 simp only[A1,qg,uV,V,Ty.isAgg,Bool.false_eq_true,if_false,Rd,List.cons.injEq,and_true]at h0 h1 h2
 subst h1
 have hk:=L.lC
 replace Hg:List.length (α:=e.den) v=1:=Hg
 rcases Jj h2 with⟨QC,_⟩|⟨b2,Xw,t2,tS,Qf,Mu,BR,XI,hl2,tx,Wr,C6⟩
 ·rw[QC]at Hg;cases Hg
 replace Qf:v2= .slice (some ⟨b2,0,none⟩) 1 tS:=by rw[Qf];congr 1
 subst Qf
 have Qd:e.size≤Xw.toList.length:=by
  rw[Array.length_toList (xs:=Xw),Wr]
  exact Nat.le_mul_of_pos_left _ XI
 obtain⟨news,Ns⟩: ∃news,news=Xw.toList.take e.size:=⟨_,rfl⟩
 have Az:news.length=1*e.size:=by rw[Ns,List.length_take,Nat.one_mul];omega
 have hnr:mA w (fun b=>M0 b∨b∈cB (g5 e N).args [v0,.int .i64 (i:Int),.slice (some ⟨b2,0,none⟩) 1 tS]) e news v:=by
  rw[Ns];exact C6.take (by rw[Hg,Nat.one_mul];exact Nat.le_refl _)
 have hnc: ∀j u,news[j]? =some u→w.cell? ((⟨b2,0,none⟩:Addr).add j)=some u:=by
  have:=o9 Mu 0 e.size
  rw[List.drop_zero]at this
  rw[Ns];exact this
 have hn1: ∀u∈news,u.oneCell'=true:=by
  have:=hnr 0 (by omega)
  rw[Nat.zero_mul,List.drop_zero,List.take_of_length_le (by omega)]at this
  exact this.jX
 have sv:eh (.slice (some ⟨b2,0,none⟩) 1 tS)=some b2:=by simp[eh];omega
 replace Ca:List.length (α:=e.den) l+1<tp:=Ca
 have Ws:(List.take i l++(v++List.drop i l)).length=l.length+1:=by rw[List.length_append,List.length_append,List.length_take,List.length_drop,Hg];omega
 have hbn:(No ρ fn).body.isNone=false:=Nr
 refine ob L.hf tN hbn ?_
 rcases Jj h0 with⟨rfl,ad,rfl⟩|⟨b1,tg,t1,wZ,rfl,GM,hM1,DJ,hl1,oB,I5,GV⟩
 ·
  have hi:i=0:=by simpa using adn
  subst hi
  obtain⟨iY,rest,cw,KF,gp,GI⟩:=yw (P:=P) (w:=w) L.t24 L.lay (n:=0) (m:=1) (cap:=0) (cp:=tS) (olds:=[]) (news:=news) (base:=ad) (a':=⟨b2,0,none⟩) (fun _=>⟨rfl,rfl⟩) (by simp) (fun _ _ j u hj=>by simp at hj) Az hnc (by omega) (by simp only[tp];omega)
  refine(B8 L w ad 0 0 1 tS ⟨b2,0,none⟩ _ _ (by omega) (Nat.le_refl _) cw).mono ?_
  rintro e1 w' ⟨rfl,rfl⟩
  refine⟨_,rfl,?_⟩
  simp only[Nat.zero_add]at KF GI
  have hv:v=v++[]:=by simp
  have:=rk (e:=e) (rb:=w.heap.size) (cap:=iY) (l:=v) (t:=ρ.t 9) (w:=w) (w':=w.drew.alloc (.cells ([]++news++rest).toArray (ρ.t 9))) ns qB (fun b hb _=>alloc_old w.drew _ hb) (by rw[jG];exact Nat.le_succ _) (fun h=>absurd h (Nat.lt_irrefl _)) rfl rfl rfl (me w.drew _) (by omega) (by omega) gp
   (by simp only[List.nil_append,List.size_toArray,List.length_append,Az,GI,←Nat.add_mul];congr 1;omega) (by simpa using hnr.more (cs':=rest) (by rw[Hg,Az];exact Nat.le_refl _))
  rw[Hg]at this
  simpa [g5,dq,AM.fx]using this
 ·have jw:eh (.slice (some ⟨b1,0,none⟩) l.length wZ)=some b1:=by simp[eh];omega
  have hh:cB (g5 e N).args [.slice (some ⟨b1,0,none⟩) l.length wZ,.int .i64 (i:Int),.slice (some ⟨b2,0,none⟩) 1 tS]=[b1,b2]:=by simp[g5,cB,cq,jw,sv]
  rw[hh]at tK qB hnr ⊢
  replace GV:mA w (fun b=>M0 b∨b∈[b1,b2]) e tg.toList l:=by rw[←hh];exact GV
  have gH:b1≠b2:=by simpa using tK
  have aiJ:b1<w.heap.size:=(Array.getElem?_eq_some_iff.1 GM).1
  have acv:b2<w.heap.size:=(Array.getElem?_eq_some_iff.1 Mu).1
  have oC:l.length*e.size≤tg.toList.length:=by rw[Array.length_toList (xs:=tg),I5];exact Nat.mul_le_mul_right _ hl1
  have hik:i*e.size≤l.length*e.size:=Nat.mul_le_mul_right _ adn
  obtain⟨A,hAe⟩: ∃A,A=tg.toList.take (i*e.size):=⟨_,rfl⟩
  obtain⟨mid,Yf⟩: ∃mid,mid=(tg.toList.drop (i*e.size)).take ((l.length-i)*e.size):=⟨_,rfl⟩
  have Jk:A.length=i*e.size:=by rw[hAe,List.length_take];omega
  have Ay:mid.length=(l.length-i)*e.size:=by
   rw[Yf,List.length_take,List.length_drop,Nat.sub_mul];omega
  have hAr:=GV.adl i
  have hmr:=GV.adm i
  rw[←hAe]at hAr
  rw[←Yf]at hmr
  have hti:(l.take i).length=i:=by rw[List.length_take];omega
  have Jl: ∀rest:List Value,mA w (fun b=>M0 b∨b∈[b1,b2]) e (A++(news++(mid++rest))) (l.take i++(v++l.drop i)):=fun rest=>
   hAr.append (by rw[Jk,hti]) (hnr.append (by rw[Az,Hg]) (hmr.more (by rw[List.length_drop,Ay];exact Nat.le_refl _)))
  have hAc: ∀j u,A[j]? =some u→w.cell? ((⟨b1,0,none⟩:Addr).add j)=some u:=by
   have:=o9 GM 0 (i*e.size)
   rw[List.drop_zero]at this
   rw[hAe];exact this
  have hmc: ∀j u,mid[j]? =some u→w.cell? ((⟨b1,i*e.size,none⟩:Addr).add j)=some u:=by
   rw[Yf];exact o9 GM (i*e.size) _
  have ads: ∀u∈mid,u.oneCell'=true:=by
   intro u hu
   obtain⟨j,hj,rfl⟩:=List.mem_iff_getElem.1 hu
   rw[Ay]at hj
   have hq:j/e.size<l.length-i:=Nat.div_lt_of_lt_mul (by rw[Nat.mul_comm];exact hj)
   have:=(hmr (j/e.size) (by rw[List.length_drop];exact hq)).jX
   refine this _ ?_
   have hjm:j/e.size*e.size+j%e.size=j:=by rw[Nat.mul_comm];exact Nat.div_add_mod j e.size
   have zP:j%e.size<e.size:=Nat.mod_lt _ hk
   rw[List.mem_iff_getElem?]
   refine⟨j%e.size,?_⟩
   rw[List.getElem?_take,if_pos zP,List.getElem?_drop,hjm]
   exact List.getElem?_eq_getElem _
  by_cases jr:i=l.length
  ·
   subst jr
   have XF:mid=[]:=List.eq_nil_of_length_eq_zero (by rw[Ay];simp)
   by_cases tI:l.length+1≤wZ
   ·obtain⟨ie,hie,oT,_⟩:=L.lay.base
    have cw: ∀ty,(Builtin.append_ #[ρ.t 24,ρ.t 24] ty #[.slice (some ⟨b1,0,none⟩) l.length wZ,.slice (some ⟨b2,0,none⟩) 1 tS]).run P w=_:=fun ty=>
     DK (ty:=ty) (cp:=tS) L.t24 hie GM (by rw[oT];exact I5) (by rw[oT];exact Az) hnc hn1 tI
    refine(B8 L w _ _ _ 1 tS ⟨b2,0,none⟩ _ _ (by omega) hl1 cw).mono ?_
    rintro e1 w' ⟨rfl,rfl⟩
    refine⟨_,rfl,?_⟩
    rw[oT]
    have Hk:dd tg.toList (l.length*e.size) news=A++(news++(mid++tg.toList.drop (l.length*e.size+news.length))):=by
     rw[XF,hAe];simp[dd]
    have:=rk (e:=e) (rb:=b1) (cap:=wZ) (l:=l.take l.length++(v++l.drop l.length)) (t:=t1) (w:=w) (w':=w.setRow b1 (dd tg.toList (l.length*e.size) news).toArray) ns qB (fun b hb hn=>setRow_other w _ (fun e=>hn (by simp[e]))) (by rw[setRow_size];exact Nat.le_refl _) (fun _=>by simp) rfl rfl rfl (setRow_heap w b1 tg _ t1 _ GM) DJ (by rw[Ws];exact tI) oB
     (by
      have:=cR (s:=e.size) (show l.length<wZ by omega)
      rw[Hk,List.size_toArray]
      simp only[List.length_append,XF,List.length_nil,List.length_drop,Array.length_toList,Jk,Az,I5]
      omega)
     (by rw[Hk];exact Jl _)
    rw[Ws]at this
    simpa [g5,dq,AM.fx]using this
   ·obtain⟨iY,rest,cw,KF,gp,GI⟩:=yw (P:=P) (w:=w) L.t24 L.lay (n:=l.length) (m:=1) (cap:=wZ) (cp:=tS) (olds:=A) (news:=news) (base:=some ⟨b1,0,none⟩) (a':=⟨b2,0,none⟩) (fun h=>by cases h) Jk (fun b hb=>by cases hb;exact hAc) Az hnc (by omega) Ca
    refine(B8 L w _ _ _ 1 tS ⟨b2,0,none⟩ _ _ (by omega) hl1 cw).mono ?_
    rintro e1 w' ⟨rfl,rfl⟩
    refine⟨_,rfl,?_⟩
    have:=rk (e:=e) (rb:=w.heap.size) (cap:=iY) (l:=l.take l.length++(v++l.drop l.length)) (t:=ρ.t 9) (w:=w) (w':=w.drew.alloc (.cells (A++news++rest).toArray (ρ.t 9))) ns qB (fun b hb _=>alloc_old w.drew _ hb) (by rw[jG];exact Nat.le_succ _) (fun h=>absurd h (Nat.lt_irrefl _)) rfl rfl rfl (me w.drew _) (by omega) (by rw[Ws];exact KF) gp
     (by simp only[List.size_toArray,List.length_append,Jk,Az,GI,←Nat.add_mul];congr 1;omega) (by have:=Jl rest;rw[XF,List.nil_append,←List.append_assoc]at this;exact this)
    rw[Ws]at this
    simpa [g5,dq,AM.fx]using this
  ·have Yg:i<l.length:=by omega
   have Qp:i*e.size+e.size≤l.length*e.size:=cR Yg
   have e1k:(i+1)*e.size=A.length+news.length:=by rw[Jk,Az,Nat.add_mul]
   have xW:Nat.min 1 (l.length+1-i)=1:=Nat.min_eq_left (by omega)
   by_cases tI:l.length+1≤wZ
   ·
    have adt:l.length*e.size+e.size≤tg.toList.length:=by rw[Array.length_toList (xs:=tg),I5];exact cR (by omega)
    have hsh: ∀(b:Nat) (c:Array Value) (t:TypeId),w.heap[b]? =some (.cells c t (0,0))→w.shape? b=some (t,c.size):=fun b c t h=>by simp[World.shape?,h]
    obtain⟨B,hB⟩: ∃B,B=tg.toList.drop (i*e.size):=⟨_,rfl⟩
    have adu:tg.toList=A++B:=by rw[hAe,hB,List.take_append_drop]
    have hBl:B.length=tg.toList.length-i*e.size:=by rw[hB,List.length_drop]
    have hBk:(B.take e.size).length=e.size:=by rw[List.length_take];omega
    have Ea:dd tg.toList ((i+1)*e.size) mid=A++(B.take e.size++(mid++(B.drop e.size).drop mid.length)):=by
     have:tg.toList=(A++B.take e.size)++B.drop e.size:=by rw[List.append_assoc,List.take_append_drop];exact adu
     rw[this,show(i+1)*e.size=(A++B.take e.size).length from by rw[List.length_append,hBk,Jk,Nat.add_mul,Nat.one_mul],xy,List.append_assoc]
    have Eb:dd (dd tg.toList ((i+1)*e.size) mid) (i*e.size) news=A++(news++(mid++(B.drop e.size).drop mid.length)):=by
     rw[Ea,←Jk,xy,Az,Nat.one_mul,List.drop_left' hBk]
    refine(KM L w b1 l.length wZ i 1 tS ⟨b2,0,none⟩ (dd tg.toList ((i+1)*e.size) mid).toArray (dd (dd tg.toList ((i+1)*e.size) mid) (i*e.size) news).toArray Yg (by omega) tI (by simp only[maxLen]at oB;omega) (fun x lb cb=> ?_) (fun ty dc sc=> ?_) (fun W hW ty dc=> ?_)).mono ?_
    ·rw[run_callFunc_extern O.hf O.name O.body O.next O.find,
      Lib.run_overlaps_apart w (ρ.t 24) (ρ.t 4) (ρ.t 9) L.t24 e.size (fun w=>bY L.lay w) ⟨b2,0,none⟩ ⟨b1,x,none⟩ 1 tS lb cb (Ne.symm gH) t2 t1 Xw.size tg.size (hsh b2 Xw t2 Mu) (hsh b1 tg t1 GM) (by rw[I5];exact Nat.ne_of_gt (Nat.mul_pos DJ hk)) (by simp[World.frozen?,Mu]) (by simp[World.frozen?,Mu])]
     rfl
    ·exact run_copy_row (P:=P) (W:=w.drew) L.t24 (fun w=>bY L.lay w) (cs:=tg) GM (news:=mid) (n:=l.length-i) (by simp only[Nat.min_def];split<;>omega) Ay hmc ads (by rw[Ay,Nat.add_mul,Nat.one_mul];rw[Array.length_toList (xs:=tg)]at adt;rw[Nat.sub_mul];omega) ty
    ·exact run_copy_row (P:=P) (W:=W) L.t24 (fun w=>bY L.lay w) (cs:=(dd tg.toList ((i+1)*e.size) mid).toArray) (te:=t1) (by rw[hW];exact setRow_heap w b1 tg _ t1 _ GM) (news:=news) (n:=1) xW Az
      (fun j u hj=>by
       have:=hnc j u hj
       rw[Addr.add_lit]at this ⊢
       rw[show W.cell? ⟨b2,0+j,none⟩=w.cell? ⟨b2,0+j,none⟩from World.cell?_of_block (by rw[hW];exact setRow_other w _ (Ne.symm gH))]
       exact this) hn1 (by
       rw[List.size_toArray,Ea]
       simp only[List.length_append,hBk,Jk,Az]
       omega) ty
    ·rintro e1 w' ⟨rfl,rfl⟩
     refine⟨_,rfl,?_⟩
     have:=rk (e:=e) (rb:=b1) (cap:=wZ) (l:=l.take i++(v++l.drop i)) (t:=t1) (w:=w) (w':=(w.drew.setRow b1 (dd tg.toList ((i+1)*e.size) mid).toArray).setRow b1 (dd (dd tg.toList ((i+1)*e.size) mid) (i*e.size) news).toArray) ns qB
      (fun b hb hn=>(setRow_other _ _ (fun e=>hn (by simp[e]))).trans (setRow_other _ _ (fun e=>hn (by simp[e])))) (by rw[setRow_size,setRow_size];exact Nat.le_refl _) (fun _=>by simp) rfl rfl rfl (setRow_heap _ b1 _ _ t1 _ (setRow_heap w.drew b1 tg _ t1 _ GM)) DJ (by rw[Ws];exact tI) oB
      (by
       rw[Eb,List.size_toArray]
       rw[Array.length_toList (xs:=tg)]at adt hBl
       simp only[List.length_append,List.length_drop,Jk,Az,Ay,hBl,Nat.sub_mul]
       omega)
      (by rw[Eb];exact Jl _)
     rw[Ws]at this
     simpa [g5,dq,AM.fx]using this
   ·
    obtain⟨iY,Z,cw,KF,gp,hZl⟩:=KO (P:=P) (w:=w) L.t24 L.t3 L.lay hk (n:=i) (k:=l.length+1-i) (cap:=wZ) (olds:=A) (b:=⟨b1,0,none⟩) Jk hAc (by omega) (by omega) (by omega)
    have aiM:i+(l.length+1-i)=l.length+1:=by omega
    rw[aiM]at cw KF
    have hZk:(l.length+1-i)*e.size≤Z.length:=by rw[hZl];exact Nat.mul_le_mul_right _ (by omega)
    rw[Nat.sub_mul,Nat.add_mul,Nat.one_mul]at hZk
    have Ea:dd (A++Z) (i*e.size) news=A++(news++Z.drop news.length):=by rw[←Jk,xy]
    have Eb:dd (dd (A++Z) (i*e.size) news) ((i+1)*e.size) mid=A++(news++(mid++(Z.drop news.length).drop mid.length)):=by
     rw[Ea,←List.append_assoc,e1k,←List.length_append,xy,List.append_assoc]
    have hnb:w.heap.size≠b1:=by omega
    have aps:b2≠w.heap.size:=by omega
    refine(Nq L w b1 l.length wZ i 1 tS 0 iY ⟨b2,0,none⟩ (A++Z).toArray (dd (A++Z) (i*e.size) news).toArray (dd (dd (A++Z) (i*e.size) news) ((i+1)*e.size) mid).toArray Yg (by omega) hl1 (by omega) (by simp only[maxLen]at oB;omega) (by simp only[tp]at Ca;omega) KF (by simp only[maxLen]at gp;omega) (fun ty=> ?_) (fun W hW ty dc=> ?_) (fun W hW ty dc sc=> ?_)).mono ?_
    ·have:=cw ty
     rw[show(((l.length+1-i:Nat):Int))=(l.length:Int)+(1:Nat)-(i:Int)from by omega]at this
     exact this
    ·exact run_copy_row (P:=P) (W:=W) L.t24 (fun w=>bY L.lay w) (cs:=(A++Z).toArray) (te:=ρ.t 9) (by rw[hW];exact me w _) (news:=news) (n:=1) xW Az
      (fun j u hj=>by
       have:=hnc j u hj
       rw[Addr.add_lit]at this ⊢
       rw[show W.cell? ⟨b2,0+j,none⟩=w.cell? ⟨b2,0+j,none⟩from World.cell?_of_block (by rw[hW];exact alloc_old w _ acv)]
       exact this) hn1 (by rw[List.size_toArray,List.length_append,Jk,Az];omega) ty
    ·exact run_copy_row (P:=P) (W:=W) L.t24 (fun w=>bY L.lay w) (cs:=(dd (A++Z) (i*e.size) news).toArray) (te:=ρ.t 9) (by rw[hW];exact setRow_heap _ _ _ _ _ _ (me w _)) (news:=mid) (n:=l.length-i) (by simp only[Nat.min_def];split<;>omega) Ay
      (fun j u hj=>by
       have:=hmc j u hj
       rw[Addr.add_lit]at this ⊢
       rw[show W.cell? ⟨b1,i*e.size+j,none⟩=w.cell? ⟨b1,i*e.size+j,none⟩from World.cell?_of_block (by rw[hW];exact(setRow_other _ _ (Ne.symm hnb)).trans (alloc_old w _ aiJ))]
       exact this) ads (by
       rw[List.size_toArray,Ea]
       simp only[List.length_append,List.length_drop,Jk,Az,Ay,Nat.add_mul,Nat.sub_mul]
       omega) ty
    ·rintro e1 w' ⟨rfl,rfl⟩
     refine⟨_,rfl,?_⟩
     have hg':((w.drew.alloc (.cells (A++Z).toArray (ρ.t 9))).setRow w.heap.size (dd (A++Z) (i*e.size) news).toArray).drew.heap[w.heap.size]? =some (.cells (dd (A++Z) (i*e.size) news).toArray (ρ.t 9) (0,0)):=setRow_heap _ _ _ _ _ _ (me w.drew _)
     have:=rk (e:=e) (rb:=w.heap.size) (cap:=iY) (l:=l.take i++(v++l.drop i)) (t:=ρ.t 9) (w:=w) (w':=((w.drew.alloc (.cells (A++Z).toArray (ρ.t 9))).setRow w.heap.size (dd (A++Z) (i*e.size) news).toArray).drew.setRow w.heap.size (dd (dd (A++Z) (i*e.size) news) ((i+1)*e.size) mid).toArray) ns qB
      (fun b hb hn=>(setRow_other _ _ (by omega)).trans ((setRow_other _ _ (by omega)).trans (alloc_old w.drew _ hb))) (by rw[setRow_size];show _≤(World.setRow _ _ _).heap.size;rw[setRow_size,jG];exact Nat.le_succ _) (fun h=>absurd h (Nat.lt_irrefl _)) rfl rfl rfl (setRow_heap _ _ _ _ _ _ hg') (by omega) (by rw[Ws];exact KF) gp
      (by
       rw[Eb,List.size_toArray]
       have hmul:(iY-i)*e.size=iY*e.size-i*e.size:=Nat.sub_mul _ _ _
       have hci:i*e.size≤iY*e.size:=Nat.mul_le_mul_right _ (by omega)
       simp only[List.length_append,List.length_drop,Jk,Az,Ay,hZl,hmul,Nat.sub_mul]at hZk ⊢
       omega)
      (by rw[Eb];exact Jl _)
     rw[Ws]at this
     simpa [g5,dq,AM.fx]using this
end VM
end
section
namespace VM
open Go Go.Shelf Go.RowKit Go.Lib Go.Proofs
variable{P:Program}{ρ:Ren}
noncomputable def Nt(ρ:Ren)(fn:Func):Func:={fn with body:=(Body2.n15 ρ).body,ntmps:=8,results:=(Body2.n15 ρ).results,nfree:=0}
theorem we(ρ:Ren)(fn:Func):(Nt ρ fn).ntmps=8:=rfl
structure yz(P:Program)(e:Ty)(ρ:Ren)(f:FuncId)(fn:Func):Prop where
 hf:P.funcs[f]? =some (Nt ρ fn)
 t4:P.underlying (ρ.t 4)=some .bool
 t22:P.underlying (ρ.t 22)=some (.slice (ρ.t 3))
 lay:gl P e (ρ.t 3)
 lC:0<e.size
 mixed:P.follows .mixedOrders=true
set_option maxHeartbeats 4000000 in
set_option maxRecDepth 100000 in
theorem KP{e:Ty}{f:FuncId}{fn:Func}(L:yz P e ρ f fn)(w:World)(n c:Nat):
  Calls P f #[.slice none n c] w fun r w2=>r= .returned (.slice none 0 0)∧w2=w:=by
 have u22:=run_underlying L.t22
 have t4:=L.t4;have t22:=L.t22
 have z3:=fun w=>bY L.lay w
 have mixed:=L.mixed
 have q22: ∀(w:World) (a:Option Addr) (n c n' c':Nat),(binOp .eql (ρ.t 22) (.slice a n c) (.slice none n' c')).run P w= .ok (.bool a.isNone) w:=fun w a n c n' c'=>Lib.run_eql_slice_nil w _ _ a n c n' c' L.t22
 go_enter L.hf,we ρ fn
 go_wp2
 go_ret
 exact⟨rfl,rfl⟩
set_option maxHeartbeats 4000000 in
set_option maxRecDepth 100000 in
theorem yA{e:Ty}{f:FuncId}{fn:Func}(L:yz P e ρ f fn)(w:World)(a:Addr)(n c:Nat)(v':Value)(w':World)
  (DR: ∀ty,(Builtin.append_ #[ρ.t 22,ρ.t 22] ty #[.slice (some ⟨w.heap.size,0,none⟩) 0 0,.slice (some a) n c]).run P (w.alloc (.cells #[] (ρ.t 3)))= .ok v' w'):
   Calls P f #[.slice (some a) n c] w fun r w2=>r= .returned v'∧w2=w':=by
 have u22:=run_underlying L.t22
 have t4:=L.t4;have t22:=L.t22
 have z3:=fun w=>bY L.lay w
 have mixed:=L.mixed
 have q22: ∀(w:World) (a:Option Addr) (n c n' c':Nat),(binOp .eql (ρ.t 22) (.slice a n c) (.slice none n' c')).run P w= .ok (.bool a.isNone) w:=fun w a n c n' c'=>Lib.run_eql_slice_nil w _ _ a n c n' c' L.t22
 obtain⟨ab,ao,asp⟩:=a
 go_enter L.hf,we ρ fn
 go_wp2_with (at_builtin;refine Lib.wpList_append_run _ rfl _ _ _ _ rfl _ _ rfl rfl _ _ (DR _) ?_)
 all_goals (go_ret;exact⟨rfl,rfl⟩)
theorem Nu{w w':World}{M0:Nat→Prop}{e:Ty}(a:Option Addr)(ns: ∀b,M0 b→b<w.heap.size)(Wl: ∀b,b<w.heap.size→w'.heap[b]? =w.heap[b]?)(oT:w.heap.size≤w'.heap.size)
  (hos:w'.os=w.os) (htp:w'.tape=w.tape) (Hj:w'.output=w.output):
  ∃us M',Value.slice a 0 0=qx us∧RR w' M' [.own e] ([]:List e.den) us []∧Left w M0 [] w' M'∧(a8 [.own e] us []).Nodup∧ ∀b∈a8 [.own e] us [],¬M0 b:=by
 have tf:a8 [.own e] [Value.slice a 0 0] []=[]:=by
  cases a<;>simp[a8,cq,AM.fx,eh]
 refine⟨[.slice a 0 0],M0,rfl,?_,?_,?_,?_⟩
 ·simp only[RR]
  refine .inr ⟨_,[],rfl,rfl,rfl,?_,rfl,trivial⟩
  simp only[A1,ER,qg]
  exact .inl ⟨trivial,a,rfl⟩
 ·exact⟨fun b h=>h,fun b h=>Nat.lt_of_lt_of_le (ns b h) oT,fun b hb h=> .inl h,fun b hb _=>Wl b hb,oT,hos,htp,Hj⟩
 ·rw[tf];simp
 ·rw[tf];simp
theorem iA{e:Ty}{f:FuncId}{fn:Func}(L:yz P e ρ f fn)(tN:(fn.name== "runtime.NumGoroutine")=false)(Nr:(Body2.n15 ρ).body.isNone=false)(N:Nat):eI P f (n9 e N):=by
 refine⟨(fun h=>by cases h),rfl,fun M0 w vs x y ns hA tK qB hy=> ?_⟩
 have Na:ib N x=some y:=hy
 clear hy
 obtain⟨v0,PQ,rfl,h0,h2⟩:=hA
 have h2:PQ=[]:=h2
 subst h2
 replace h0:V w (fun b=>M0 b∨b∈([]:List Nat)) (.slice e) v0 x:=h0
 unfold ib at Na
 split at Na
 case isFalse=>cases Na
 rename_i Ca
 cases Na
 have hbn:(Nt ρ fn).body.isNone=false:=Nr
 have hh:cB (n9 e N).args [v0]=[]:=rfl
 rw[hh]at qB ⊢
 refine ob L.hf tN hbn ?_
 obtain⟨i,hi,oT,hz,XH⟩:=L.lay.base
 have hS:=Src.P8 h0
 by_cases hx:x=[]
 ·obtain⟨a,cp,hv,_⟩:=hS
  subst hv
  rw[hx]
  cases a with
  |none=>
   refine(KP L w _ cp).mono ?_
   rintro e1 w' ⟨rfl,rfl⟩
   exact⟨_,rfl,Nu none ns (fun _ _=>rfl) (Nat.le_refl _) rfl rfl rfl⟩
  |some a=>
   refine(yA L w a _ cp _ _ (fun ty=>nK (P:=P) (w:=w.alloc (.cells #[] (ρ.t 3))) L.t22 hi (some ⟨w.heap.size,0,none⟩) 0 0 (Nat.le_refl _) (some a) cp)).mono ?_
   rintro e1 w' ⟨rfl,rfl⟩
   exact⟨_,rfl,Nu _ ns (fun b hb=>alloc_old w _ hb) (by rw[jG];exact Nat.le_succ _) rfl rfl rfl⟩
 ·obtain⟨b,off,cp,news,hv,hl,lH,gG,h1⟩:=hS.cells hx
  have Hl:0<x.length:=List.length_pos_iff.2 hx
  subst hv
  obtain⟨iY,rest,cw,KF,gp,GI⟩:=yw (P:=P) (w:=w.alloc (.cells #[] (ρ.t 3))) L.t22 L.lay (n:=0) (m:=x.length) (cap:=0) (cp:=cp) (olds:=[]) (news:=news) (base:=some ⟨w.heap.size,0,none⟩) (a':=⟨b,off,none⟩) (fun h=>by cases h) (by simp) (fun _ _ j u hj=>by simp at hj) hl
   (fun j u hj=>by rw[Addr.add_lit];exact Lib.cell?_alloc_some _ (lH j u hj)) (by omega) (by omega)
  refine(yA L w ⟨b,off,none⟩ _ cp _ _ cw).mono ?_
  rintro e1 w' ⟨rfl,rfl⟩
  refine⟨_,rfl,?_⟩
  simp only[Nat.zero_add]at KF GI ⊢
  have I5:(w.alloc (.cells #[] (ρ.t 3))).heap.size=w.heap.size+1:=jG w _
  exact rk (e:=e) (rb:=(w.alloc (.cells #[] (ρ.t 3))).heap.size) (cap:=iY) (l:=x) (t:=ρ.t 3) (w:=w) (w':=(w.alloc (.cells #[] (ρ.t 3))).drew.alloc (.cells ([]++news++rest).toArray (ρ.t 3))) ns qB
   (fun b hb _=>(alloc_old (w.alloc (.cells #[] (ρ.t 3))).drew _ (by show b<(w.alloc (.cells #[] (ρ.t 3))).heap.size;omega)).trans (alloc_old w _ hb))
   (by rw[jG];show w.heap.size≤(w.alloc (.cells #[] (ρ.t 3))).heap.size+1;omega) (fun h=>by omega) rfl rfl rfl (me (w.alloc (.cells #[] (ρ.t 3))).drew _) (by omega) KF gp
   (by simp only[List.nil_append,List.size_toArray,List.length_append,hl,GI,←Nat.add_mul];congr 1;omega) (by simpa using mA.more (cs':=rest) (show mA w (fun b=>M0 b∨b∈([]:List Nat)) e news x from gG) (by rw[hl];exact Nat.le_refl _))
end VM
end
