/- A part of the proof of HedgeFills of layer 22: a machine that reads a function of the program as an equation between values. -/
import Derived.Test.YtocmlaipoebfeaaGreatVm6
import Derived.KernelRfl
import Derived.Test.YtocmlaipoebfeaaGreatVm0
import Derived.Laws.Externs
import Derived.Shelf.Spec.SlicesInsertGrow
set_option linter.all false
section
namespace VM
open Go
@[reducible] def CM.arr:CM→Type→Type
 | .v τ,T| .obj τ,T| .io τ,T| .fn _ τ,T=>τ.den→T
 | .own e,T=>List e.den→T
 | .dW τ _ e,T=>τ.den→List e.den→T
 | .same _,T=>T
@[reducible] def Pv:List (Nat×CM)→Type→Type
 |[],R=>R
 |q::r,R=>q.2.arr (Pv r R)
def CM.lam{T:Type}(s:Nat)(σ:St):(m:CM)→(St→T)→m.arr T
 | .v τ,f=>fun x=>f (σ.put s (.val τ x))
 | .own e,f=>fun x=>f ((σ.put s (.ref (16*s+14))).iv (16*s+14) (some (.own e x)))
 | .obj τ,f=>fun x=>f ((σ.put s (.fP (16*s+14) [])).iv (16*s+14) (some (.obj τ x)))
 | .dW τ q e,f=>fun x l=>f (((σ.put s (.fP (16*s+14) [])).iv (16*s+13) (some (.own e l))).iv (16*s+14) (some (.dW τ x q (16*s+13))))
 | .io τ,f=>fun x=>f ((σ.put s (.fP (16*s+15) [])).iv (16*s+15) (some (.obj τ x)))
 | .fn g τ,f=>fun x=>f (σ.put s (.FE g (mz τ x)))
 | .same s',f=>f (σ.put s (σ.T s'))
def ahr{R:Type}(κ:St→R):(L:List (Nat×CM))→St→Pv L R
 |[],σ=>κ σ
 |q::r,σ=>q.2.lam q.1 σ (ahr κ r)
@[reducible] def ua:List AM→Type→Type
 |[],R=>R
 |m::r,R=>m.den→ua r R
def D9{R:Type}:(ms:List AM)→ua ms R→HP ms→R
 |[],g,_=>g
 |[_],g,x=>g x
 |_::n::ms,g,x=>D9 (n::ms) (g x.1) x.2
def NM{R:Type}:(ms:List AM)→(HP ms→R)→ua ms R
 |[],f=>f ()
 |[_],f=>f
 |_::n::ms,f=>fun x=>NM (n::ms) fun y=>f (x,y)
theorem Ea{R:Type}: ∀(ms:List AM) (f:HP ms→R) (x:HP ms),D9 ms (NM ms f) x=f x
 |[],_,()=>rfl
 |[_],_,_=>rfl
 |_::n::ms,f,x=>Ea (n::ms) (fun y=>f (x.1,y)) x.2
structure Pc where
 k:Nat
 c:List (Nat×CM)
 path:List Nat
 ks:List Nat
def Qy:List Pc→Nat→Pc
 |[],_=>⟨0,[],[],[]⟩
 |p::r,k=>cond (Nat.beq k p.k) p (Qy r k)
def Gq:List Pc→Nat→Option (List (Nat×CM))
 |[],_=>none
 |p::r,k=>cond (Nat.beq k p.k) (some p.c) (Gq r k)
def wH:List (Nat×iC)→Nat→List iC
 |[],_=>[]
 |q::r,i=>cond (Nat.beq i q.1) (q.2::wH r i) (wH r i)
def B2:List AM→Nat→List Nat
 |[],_=>[]
 | .io _::r,i=>i::B2 r (i+1)
 |_::r,i=>B2 r (i+1)
structure Fx where
 nt:Nat
 tab:List (Nat×Ty)
 G:List (Nat×iC)
 N:Nat
 fn:Func
 args:List AM
 res:List AM
 pcs:List Pc
 lk:Option (Ty×List Step×Ty×List Nat):=none
namespace Fx
variable(X:Fx)
abbrev R:=Option (HP X.res)
def E:Env:={nt:=X.nt,ty:=fun i=>Gp i X.tab,Γ:=wH X.G,N:=X.N,rE:=fun r=>Gq X.pcs (2*r+1),td:=fun r=>Gq X.pcs (2*r),io:=B2 X.args 0,lk:=X.lk}
@[reducible] def c(i:Nat):List (Nat×CM):=(Qy X.pcs i).c
def path(i:Nat):List Nat:=(Qy X.pcs i).path
def odd(i:Nat):Bool:=Nat.beq (i%2) 1
def cut(ρ:Nat→St→X.R)(l:Nat):St→X.R:=fun σ=>rI (some (X.c l)) σ (ρ l)
def ks(ρ:Nat→St→X.R)(i:Nat):List (St→X.R):=(Qy X.pcs i).ks.map (X.cut ρ)
noncomputable def lp(ρ:Nat→St→X.R)(i n:Nat):St→X.R:=lpF X.E X.fn X.args X.res (X.c i) (X.path i) (X.ks ρ i) n
noncomputable def bp(ρ:Nat→St→X.R)(i:Nat):St→X.R:=cond (odd i) (X.lp ρ i X.N) (atF X.E X.fn X.args X.res (X.path i) (X.ks ρ i))
def own(ρ:Nat→St→X.R)(i:Nat):List (St→X.R):=X.ks ρ i++cond (odd i) [X.cut ρ i] []
noncomputable def at'(K ρ:Nat→St→X.R)(i:Nat):St→X.R:=atQ X.E X.fn X.args X.res (fun r=>K (2*r)) (fun r=>K (2*r+1)) (X.path i) (X.own ρ i)
noncomputable def tl(K ρ:Nat→St→X.R)(i:Nat):List ((St→X.R)×(St→X.R)):=rV X.E (fun r=>K (2*r)) (fun r=>K (2*r+1)) (Ue X.E X.fn X.args X.res (X.path i) (X.own ρ i))
@[reducible] def cu(i:Nat)(κ:St→X.R):Pv (X.c i) X.R:=ahr κ (X.c i) S0
@[reducible] noncomputable def bd(K ρ:Nat→St→X.R)(i:Nat):Pv (X.c i) X.R:=X.cu i (X.at' K ρ i)
@[reducible] def kc(ρ:Nat→St→X.R)(i:Nat):Pv (X.c i) X.R:=X.cu i (ρ i)
def xF:Nat→St→X.R:=fun _ _=>none
noncomputable def top(K:Nat→St→X.R):ua X.args X.R:=NM X.args fun x=>atQ X.E X.fn X.args X.res (fun r=>K (2*r)) (fun r=>K (2*r+1)) [] [] (entry X.args x 0 S0)
noncomputable def tlT(K:Nat→St→X.R):List ((St→X.R)×(St→X.R)):=rV X.E (fun r=>K (2*r)) (fun r=>K (2*r+1)) (Ue X.E X.fn X.args X.res [] [])
noncomputable def S(q:Bool)(g:ua X.args X.R):iC:={args:=X.args,res:=X.res,quiet:=q,run:=D9 X.args g}
variable{X}
theorem Uf(f:Nat→St→X.R): ∀oq:List Nat,NK (oq.map fun t=>(f t,f t))
 |[]=>trivial
 |_::r=>⟨rfl,Uf f r⟩
theorem okJ{i:Nat}(oq:List Nat)(hi:odd i=false)(hr: ∀K ρ,X.tl K ρ i=oq.map fun t=>(K t,X.bp ρ t)){g:(Nat→St→X.R)→(Nat→St→X.R)→Pv (X.c i) X.R}(h: ∀K ρ,X.bd K ρ i=g K ρ)(ρ:Nat→St→X.R):X.kc (X.bp ρ) i=g (X.bp ρ) ρ:=by
 rw[←h]
 have:X.bp ρ i=X.at' (X.bp ρ) ρ i:=by
  funext σ
  have h1:=hr (X.bp ρ) ρ
  unfold tl own at h1
  rw[hi,cond_false,List.append_nil]at h1
  unfold at' own
  rw[hi,cond_false,List.append_nil]
  rw[←at_eq X.E X.fn X.args X.res h1 (Uf (X.bp ρ) oq) σ]
  unfold bp;rw[hi];rfl
 unfold kc bd
 rw[this]
def okb(X:Fx)(i:Nat):Bool:=odd i&&(Qy X.pcs i).ks.all fun l=> !(Nat.beq l i)
theorem okL{i:Nat}(oq:List Nat)(hi:okb X i=true)(hr: ∀K ρ,X.tl K ρ i=oq.map fun t=>(K t,X.bp ρ t)){g:(Nat→St→X.R)→(Nat→St→X.R)→Pv (X.c i) X.R}(h: ∀K ρ,X.bd K ρ i=g K ρ)(ρ:Nat→St→X.R)
  (G:Nat→Pv (X.c i) X.R) (h0:X.cu i (fun _=>none)=G 0) (hs: ∀n ρ',X.kc ρ' i=G n→(∀l,Nat.beq l i=false→X.kc ρ' l=X.kc ρ l)→g (X.bp ρ') ρ'=G (n+1)):X.kc (X.bp ρ) i=G X.N:=by
 unfold okb at hi
 rw[Bool.and_eq_true]at hi
 obtain⟨hi,hk⟩:=hi
 have key: ∀n,X.cu i (X.lp ρ i n)=G n:=by
  intro n
  induction n with
  |zero=>exact h0
  |succ n ih=>
   let ρ':Nat→St→X.R:=fun l=>cond (Nat.beq l i) (X.lp ρ i n) (ρ l)
   have e1:ρ' i=X.lp ρ i n:=by show cond (Nat.beq i i) _ _=_;rw[Nat.beq_refl];rfl
   have e2: ∀l,Nat.beq l i=false→ρ' l=ρ l:=fun l hl=>by show cond (Nat.beq l i) _ _=_;rw[hl];rfl
   rw[←hs n ρ' (by unfold kc;rw[e1];exact ih) (fun l hl=>by unfold kc;rw[e2 l hl]),←h]
   have e3:X.ks ρ' i=X.ks ρ i:=by
    unfold ks
    refine List.map_congr_left fun l hl=> ?_
    have:=List.all_eq_true.1 hk l hl
    unfold cut
    rw[e2 l (by simpa using this)]
   have:X.lp ρ i (n+1)=X.at' (X.bp ρ') ρ' i:=by
    funext σ
    have h1:=hr (X.bp ρ') ρ'
    unfold tl own at h1
    rw[hi,cond_true]at h1
    unfold at' own
    rw[hi,cond_true]
    rw[←at_eq X.E X.fn X.args X.res h1 (Uf (X.bp ρ') oq) σ]
    unfold lp
    rw[Qu,e3]
    unfold cut
    rw[e1];rfl
   unfold bd
   rw[this]
 have:X.bp ρ i=X.lp ρ i X.N:=by unfold bp;rw[hi];rfl
 unfold kc
 rw[this];exact key _
def Eb(P:Program):List (Nat×iC)→Prop
 |[]=>True
 |q::r=>e7 P q.1 q.2∧Eb P r
structure _root_.VM.Kn(P:Program) where
 f:Nat
 S:iC
 ok:e7 P f S
def _root_.VM.Kn.p{P:Program}(k:Kn P):Nat×iC:=(k.f,k.S)
def _root_.VM.Kn.l{P:Program}:List (Kn P)→List (Nat×iC)
 |[]=>[]
 |k::r=>k.p::Kn.l r
theorem _root_.VM.Kn.all{P:Program}: ∀l:List (Kn P),Eb P (Kn.l l)
 |[]=>trivial
 |k::r=>⟨k.ok,Kn.all r⟩
theorem wI{P:Program}: ∀{l:List (Nat×iC)},Eb P l→ ∀f S,S∈wH l f→e7 P f S
 |[],_,f,S,h=>by simp[wH]at h
 |q::r,ha,f,S,h=>by
  unfold wH at h
  cases hb:Nat.beq f q.1<;>rw[hb]at h
  ·exact wI ha.2 f S h
  ·rcases List.mem_cons.1 h with rfl|h
   ·rw[Nat.eq_of_beq_eq_true hb];exact ha.1
   ·exact wI ha.2 f S h
theorem zV: ∀{l:List Pc},(l.all fun p=>gF p.c)=true→ ∀i L,Gq l i=some L→gF L=true
 |q::r,ha,i,L,h=>by
  rw[List.all_cons,Bool.and_eq_true]at ha
  unfold Gq at h
  cases hb:Nat.beq i q.k<;>rw[hb]at h
  ·exact zV ha.2 i L h
  ·cases h;exact ha.1
def chk(X:Fx)(q:Bool):Bool:=(X.pcs.all fun p=>gF p.c)&&((!(X.fn.name== "runtime.NumGoroutine")&&Nat.beq X.nt X.fn.ntmps)&&(X.fn.body.isSome&&(Nat.ble X.args.length X.nt&&((!q||X.res.all AM.flat)&&decide (lC X.args=lC X.res)))))
theorem Gr: ∀{ms:List AM} {k i:Nat} {m:AM},ms[i]? =some m→m.fR=true→k+i∈B2 ms k
 |[],_,_,_,h,_=>by simp at h
 |m::ms,k,0,m',h,sL=>by
  simp only[List.getElem?_cons_zero,Option.some.injEq]at h
  subst h
  cases m<;>simp[AM.fR]at sL
  simp[B2]
 |m::ms,k,i+1,m',h,sL=>by
  have:=Gr (ms:=ms) (k:=k+1) (i:=i) (by simpa using h) sL
  rw[show k+(i+1)=k+1+i from by omega]
  cases m<;>simp only[B2]<;>first|exact List.mem_cons_of_mem _ this|exact this
theorem Md: ∀{ms:List AM} {k i:Nat},i∈B2 ms k→i<k+ms.length
 |[],_,_,h=>by simp[B2]at h
 |m::ms,k,i,h=>by
  have hr:i∈B2 ms (k+1)→i<k+(m::ms).length:=fun h=>by have:=Md h;simp only[List.length_cons];omega
  cases m<;>simp only[B2]at h<;>first
   |exact hr h
   |(rcases List.mem_cons.1 h with rfl|h<;>first|exact hr h|(simp only[List.length_cons];omega))
variable(X)in
theorem Me{P:Program}(ht:zU P X.tab)(hG:Eb P X.G)(hc:(X.pcs.all fun p=>gF p.c)=true):pN P X.E:=by
 have gH: ∀t τ,Gp t X.tab=some τ→pP P τ (.inl t)=true∧Uc P τ t=true:=fun t τ h=>by
  have:=List.all_eq_true.1 ht.ok _ (CF h)
  simpa using this
 exact{ty:=fun t τ h=>eA (gH t τ h).1,eq:=fun t τ h hc ha=>Ud (eA (gH t τ h).1) (gH t τ h).2 hc ha,ag3:=wI hG,mixed:=ht.mixed,gF:=fun i L h=>zV hc _ L h,P3:=fun i L h=>zV hc _ L h}
theorem mkS{P:Program}(ht:zU P X.tab){f:FuncId}(hf:P.funcs[f]? =some X.fn){q:Bool}(hc:chk X q=true)(hG:Eb P X.G){g:ua X.args X.R}(h: ∀x,Jy X.E X.fn X.args X.res x=D9 X.args g x):e7 P f (X.S q g):=by
 unfold chk at hc
 simp only[Bool.and_eq_true]at hc
 obtain⟨h0,⟨h1,h2⟩,h3,h4,h5,h6⟩:=hc
 refine Ql (Me X ht hG h0) hf (by simpa using h1) (Nat.eq_of_beq_eq_true h2) (X.S q g) (fun i m hm sL=> ?_) (fun i hi=> ?_) ?_ (fun hq=> ?_) (of_decide_eq_true h6) h
 ·have:=Gr (k:=0) hm sL
  rwa [Nat.zero_add]at this
 ·have:=Md (k:=0) hi
  rwa [Nat.zero_add]at this
 ·have:=Nat.le_of_ble_eq_true h4
  rwa [Nat.eq_of_beq_eq_true h2]at this
 ·have hq:q=true:=hq
  subst hq
  show X.res.all AM.flat=true
  simpa using h5
theorem ab4{g:ua X.args X.R}(h:NM X.args (Jy X.E X.fn X.args X.res)=g)(x:HP X.args):Jy X.E X.fn X.args X.res x=D9 X.args g x:=by rw[←h,Ea]
variable(X)in
theorem ok0{P:Program}(ht:zU P X.tab){f:FuncId}(hf:P.funcs[f]? =some X.fn){q:Bool}(hc:chk X q=true)(hG:Eb P X.G){g:ua X.args X.R}(h:NM X.args (Jy X.E X.fn X.args X.res)=g):e7 P f (X.S q g):=
 mkS ht hf hc hG (ab4 h)
theorem ahs(hb:X.fn.body.isSome=true)(oq:List Nat)(hr: ∀K,X.tlT K=oq.map fun t=>(K t,X.bp X.xF t))
  {g:(Nat→St→X.R)→ua X.args X.R} (h: ∀K,X.top K=g K) {f:ua X.args X.R} (hf:g (X.bp X.xF)=f) (x:HP X.args):Jy X.E X.fn X.args X.res x=D9 X.args f x:=by
 rw[←hf,←h,ab1 hb]
 unfold top
 rw[Ea]
 exact at_eq X.E X.fn X.args X.res (hr (X.bp X.xF)) (Uf (X.bp X.xF) oq) _
variable(X)in
theorem ok1{P:Program}(ht:zU P X.tab){f:FuncId}(hf:P.funcs[f]? =some X.fn){q:Bool}(hc:chk X q=true)(hG:Eb P X.G)(oq:List Nat)(hr: ∀K,X.tlT K=oq.map fun t=>(K t,X.bp X.xF t))
  {g:(Nat→St→X.R)→ua X.args X.R} (h: ∀K,X.top K=g K) {f':ua X.args X.R} (we:g (X.bp X.xF)=f'):e7 P f (X.S q f'):=by
 have hb:X.fn.body.isSome=true:=by
  unfold chk at hc
  simp only[Bool.and_eq_true]at hc
  exact hc.2.2.1
 exact mkS ht hf hc hG (ahs hb oq hr h we)
theorem uJ{i:Nat}(oq:List Nat){g:(Nat→St→X.R)→(Nat→St→X.R)→Pv (X.c i) X.R}(h: ∀K ρ,X.bd K ρ i=g K ρ)(ρ:Nat→St→X.R){f:Pv (X.c i) X.R}(hf:g (X.bp ρ) ρ=f:=by rfl)
 (hi:odd i=false:=by kernel_rfl) (hr: ∀K ρ,X.tl K ρ i=oq.map fun t=>(K t,X.bp ρ t):=by intro K ρ;kernel_rfl):X.kc (X.bp ρ) i=f:=(okJ oq hi hr h ρ).trans hf
theorem uL{i:Nat}(oq:List Nat){g:(Nat→St→X.R)→(Nat→St→X.R)→Pv (X.c i) X.R}(h: ∀K ρ,X.bd K ρ i=g K ρ)(ρ:Nat→St→X.R)
 (G:Nat→Pv (X.c i) X.R) (hs: ∀n ρ',X.kc ρ' i=G n→(∀l,Nat.beq l i=false→X.kc ρ' l=X.kc ρ l)→g (X.bp ρ') ρ'=G (n+1)) (h0:X.cu i (fun _=>none)=G 0:=by rfl)
 (hi:okb X i=true:=by kernel_rfl) (hr: ∀K ρ,X.tl K ρ i=oq.map fun t=>(K t,X.bp ρ t):=by intro K ρ;kernel_rfl):X.kc (X.bp ρ) i=G X.N:=okL oq hi hr h ρ G h0 hs
variable(X)in
theorem u0{P:Program}(ht:zU P X.tab){f:FuncId}(hf:P.funcs[f]? =some X.fn){q:Bool}{g:ua X.args X.R}(hG:Eb P X.G:=by first|exact trivial|exact Kn.all _)(hc:chk X q=true:=by kernel_rfl)(h:NM X.args (Jy X.E X.fn X.args X.res)=g:=by kernel_rfl):e7 P f (X.S q g):=ok0 X ht hf hc hG h
variable(X)in
theorem u1{P:Program}(ht:zU P X.tab){f:FuncId}(hf:P.funcs[f]? =some X.fn)(oq:List Nat)
 {g:(Nat→St→X.R)→ua X.args X.R} (h: ∀K,X.top K=g K) {q:Bool} {f':ua X.args X.R} (we:g (X.bp X.xF)=f':=by rfl) (hG:Eb P X.G:=by first|exact trivial|exact Kn.all _) (hc:chk X q=true:=by kernel_rfl) (hr: ∀K,X.tlT K=oq.map fun t=>(K t,X.bp X.xF t):=by intro K;kernel_rfl):e7 P f (X.S q f'):=ok1 X ht hf hc hG oq hr h we
end Fx
end VM
end
section
namespace VM
open Go
variable{P:Program}
theorem Left.same(w:World)(M0:Nat→Prop)(h: ∀b,M0 b→b<w.heap.size):Left w M0 [] w M0:=
 ⟨fun _ h=>h,h,fun _ _ h=> .inl h,fun _ _ _=>rfl,Nat.le_refl _,rfl,rfl,rfl⟩
theorem aht{w:World}{M:Nat→Prop}{a b c:IntKind}{x:HP [.v (.int a),.v (.int b),.v (.int c)]}{vs:List Value}(h:gj w M [.v (.int a),.v (.int b),.v (.int c)] x vs):vs=[.int a x.1,.int b x.2.1,.int c x.2.2]:=by
 simp only[gj,A1,V,Ty.isAgg,Bool.false_eq_true,if_false,Rd,List.cons.injEq,and_true]at h
 obtain⟨v,vs,rfl,rfl,v,vs,rfl,rfl,v,vs,rfl,rfl,rfl⟩:=h
 rfl
theorem rr2{w:World}{M:Nat→Prop}{a b:IntKind}(x y:Int):RR w M [.v (.int a),.v (.int b)] (x,y) [.int a x,.int b y] []:=by
 simp only[RR]
 refine .inr ⟨_,_,rfl,rfl,rfl,?_,.inr ⟨_,_,rfl,rfl,rfl,?_,rfl,trivial⟩⟩<;>simp[A1,V,Ty.isAgg,Rd,rz,wh]
theorem Mf{f:FuncId}(run:Int×Int×Int→Option (Int×Int))
  (h: ∀(w:World) (a b c u v:Int),run (a,b,c)=some (u,v)→(callFunc f #[.int .u64 a,.int .u64 b,.int .u64 c]).run P w= .ok (.value (.tuple #[.int .u64 u,.int .u64 v])) w):
  e7 P f {args:=[.v (.int .u64),.v (.int .u64),.v (.int .u64)],res:=[.v (.int .u64),.v (.int .u64)],quiet:=true,run}:=by
 refine⟨fun _=>rfl,rfl,fun M0 w vs x y nC hA _ _ hy=> ?_⟩
 have TJ:=aht hA
 subst TJ
 exact BW (h w x.1 x.2.1 x.2.2 y.1 y.2 hy) ⟨_,M0,rfl,rr2 y.1 y.2,Left.same w M0 nC,List.nodup_nil,fun b hb=>by cases hb⟩
theorem wJ(nm:String)(a b c:Nat)(h:c≤1)(w:World):(Extern.MathBitsCarry.three nm #[.int .u64 a,.int .u64 b,.int .u64 c]).run P w= .ok (a,b,c) w:=by
 have h5: ¬(1<c):=by omega
 have:Extern.MathBitsCarry.three nm #[.int .u64 a,.int .u64 b,.int .u64 c]=(do
  let c:=(←asInt (.int .u64 c)).toNat
  if c>1 then unsupported (.noEntry ("extern/math/bits." ++nm++ ": a carry that is neither 0 nor 1"))
  pure ((←asInt (.int .u64 a)).toNat,(←asInt (.int .u64 b)).toNat,c)):=rfl
 rw[this]
 simp[asInt,asIntOf]
 omega
theorem NN{f:FuncId}{fn:Func}(N:Nat)(hf:P.funcs[f]? =some fn)(vd:(fn.name== "runtime.NumGoroutine")=false)(hb:fn.body.isNone=true)(hn:Extern.findNext fn=none)
  (he:Extern.find fn=(Extern.MathBitsCarry.rows[0]?).map (·.2)):e7 P f (oC.S N):=by
 refine Mf (fun x=>oC N x.1 x.2.1 x.2.2) fun w a b c u v hy=> ?_
 simp only[oC]at hy
 split at hy
 ·rename_i hc
  obtain⟨h1,h2,h3,h4⟩:=hc
  obtain⟨a,rfl⟩:=Int.eq_ofNat_of_zero_le h1
  obtain⟨b,rfl⟩:=Int.eq_ofNat_of_zero_le h2
  obtain⟨c,rfl⟩:=Int.eq_ofNat_of_zero_le h3
  cases hy
  rw[run_callFunc_extern hf vd hb hn he]
  simp[wJ _ a b c (by omega),Extern.MathBitsCarry.pair,Extern.MathBitsCarry.m64]
 ·cases hy
theorem NO{f:FuncId}{fn:Func}(N:Nat)(hf:P.funcs[f]? =some fn)(vd:(fn.name== "runtime.NumGoroutine")=false)(hb:fn.body.isNone=true)(hn:Extern.findNext fn=none)
  (he:Extern.find fn=(Extern.MathBitsCarry.rows[1]?).map (·.2)):e7 P f (oD.S N):=by
 refine Mf (fun x=>oD N x.1 x.2.1 x.2.2) fun w a b c u v hy=> ?_
 simp only[oD]at hy
 split at hy
 ·rename_i hc
  obtain⟨h1,mJ,h2,tG,h3,h4⟩:=hc
  obtain⟨a,rfl⟩:=Int.eq_ofNat_of_zero_le h1
  obtain⟨b,rfl⟩:=Int.eq_ofNat_of_zero_le h2
  obtain⟨c,rfl⟩:=Int.eq_ofNat_of_zero_le h3
  cases hy
  rw[run_callFunc_extern hf vd hb hn he]
  have e1:((a+18446744073709551616-b-c:Nat):Int)=(a:Int)+18446744073709551616-b-c:=by omega
  by_cases h:a<b+c
  ·have h':(a:Int)<(b:Int)+(c:Int):=by omega
   simp[wJ _ a b c (by omega),Extern.MathBitsCarry.pair,Extern.MathBitsCarry.m64,e1,h,h']
  ·have h': ¬(a:Int)<(b:Int)+(c:Int):=by omega
   simp[wJ _ a b c (by omega),Extern.MathBitsCarry.pair,Extern.MathBitsCarry.m64,e1,h,h']
 ·cases hy
end VM
end
section
namespace VM
open Go Go.Shelf Go.RowKit Go.Lib Go.Proofs
variable{P:Program}{ρ:Ren}
noncomputable def Qz(ρ:Ren)(fn:Func):Func:={fn with body:=(Body2.n22 ρ).body,ntmps:=95,results:=(Body2.n22 ρ).results,nfree:=0}
theorem rW(ρ:Ren)(fn:Func):(Qz ρ fn).ntmps=95:=rfl
structure Kg(P:Program)(e:Ty)(ρ:Ren)(f:FuncId)(fn fo:Func):Prop where
 hf:P.funcs[f]? =some (Qz ρ fn)
 t3:P.underlying (ρ.t 3)=some (.int .i64)
 t4:P.underlying (ρ.t 4)=some .bool
 t24:P.underlying (ρ.t 24)=some (.slice (ρ.t 9))
 lay:g5 P e (ρ.t 9)
 mB:0<e.size
 mixed:P.follows .mixedOrders=true
set_option maxHeartbeats 4000000 in
set_option maxRecDepth 100000 in
theorem Ec{e:Ty}{f:FuncId}{fn fo:Func}(L:Kg P e ρ f fn fo)(w:World)(base:Option Addr)(n c m vc:Nat)(va:Addr)(v':Value)(w':World)(hm:0<m)(hn:n≤c)
  (F8: ∀ty,(Builtin.append_ #[ρ.t 24,ρ.t 24] ty #[.slice base n c,.slice (some va) m vc]).run P w= .ok v' w'):
   Calls P f #[.slice base n c,.int .i64 n,.slice (some va) m vc] w fun r w2=>r= .returned v'∧w2=w':=by
 have u3:=run_underlying L.t3;have u4:=run_underlying L.t4;have u24:=run_underlying L.t24
 have t3:=L.t3;have t4:=L.t4;have t24:=L.t24
 have z9:=fun w=>cj L.lay w
 have mixed:=L.mixed
 have yZ: ¬((m:Int)=0):=by omega
 go_enter L.hf,rW ρ fn
 cases base with
 |none=>
   go_wp2_with (at_builtin;refine Lib.wpList_append_run _ rfl _ _ _ _ rfl _ _ rfl rfl _ _ (F8 _) ?_)
   all_goals (go_ret;exact⟨rfl,rfl⟩)
 |some a=>
   obtain⟨ab,ao,asp⟩:=a
   go_wp2_with (at_builtin;refine Lib.wpList_append_run _ rfl _ _ _ _ rfl _ _ rfl rfl _ _ (F8 _) ?_)
   all_goals (go_ret;exact⟨rfl,rfl⟩)
theorem run_copy_row{t te e:TypeId}{k:Nat}(ht:P.underlying t=some (.slice e))(hk: ∀w,(Go.sizeOf e).run P w= .ok k w){W:World}{b o ahu am1 ab5 ahv n:Nat}{a:Addr}{cs:Array Value}(hg:W.heap[b]? =some (.cells cs te (0,0)))
  {news:List Value} (hnn:Nat.min ab5 ahu=n) (hl:news.length=n*k) (hn: ∀j u,news[j]? =some u→W.cell? (a.add j)=some u) (h1: ∀u∈news,u.oneCell'=true) (F2:o+news.length≤cs.size) (ty:TypeId):
  (Builtin.copy_ #[t,t] ty #[.slice (some ⟨b,o,none⟩) ahu am1,.slice (some a) ab5 ahv]).run P W= .ok (goInt n) (W.setRow b (dq cs.toList o news).toArray):=by
 have hf:=run_firstCells_some (P:=P) W k n a ab5 ahv news hl hn
 have JA:=run_storeCells_at (P:=P) b o te news 0 cs W hg (by omega) h1
 simp only[Nat.add_zero]at JA
 simp[Builtin.copy_,run_underlying ht,hk,Builtin.lenOf,hnn,hf,JA,dq]
set_option maxHeartbeats 4000000 in
set_option maxRecDepth 100000 in
theorem NP{e:Ty}{f:FuncId}{fn fo:Func}(L:Kg P e ρ f fn fo)(w:World)(b n c i m vc:Nat)(va:Addr)(Ed QA:Array Value)(hi:i<n)(hm:0<m)(hr:n+m≤c)(am2:c≤9223372036854775807)
  (hov: ∀x lb cb,(callFunc (ρ.f 29) #[.slice (some va) m vc,.slice (some ⟨b,x,none⟩) lb cb]).run P w= .ok (.value (.bool false)) w)
  (Ug: ∀ty dc sc,(Builtin.copy_ #[(ρ.t 24),(ρ.t 24)] ty #[.slice (some ⟨b,(i+m)*e.size,none⟩) (n+m-(i+m)) dc,.slice (some ⟨b,i*e.size,none⟩) (n+m-i) sc]).run P w.drew= .ok (goInt ((n-i:Nat):Int)) (w.drew.setRow b Ed))
  (Uh: ∀W:World,W.heap=(w.setRow b Ed).heap→ ∀ty dc,(Builtin.copy_ #[(ρ.t 24),(ρ.t 24)] ty #[.slice (some ⟨b,i*e.size,none⟩) (n+m-i) dc,.slice (some va) m vc]).run P W= .ok (goInt m) (W.setRow b QA)):
   Calls P f #[.slice (some ⟨b,0,none⟩) n c,.int .i64 i,.slice (some va) m vc] w fun r w2=>r= .returned (.slice (some ⟨b,0,none⟩) (n+m) c)∧w2=(w.drew.setRow b Ed).setRow b QA:=by
 have u3:=run_underlying L.t3;have u4:=run_underlying L.t4;have u24:=run_underlying L.t24
 have t3:=L.t3;have t4:=L.t4;have t24:=L.t24
 have z9:=fun w=>cj L.lay w
 have mixed:=L.mixed
 have yZ: ¬((m:Int)=0):=by omega
 have JJ: ¬((i:Int)=(n:Int)):=by omega
 have hw1:IntKind.i64.wrap ((i:Int)+(m:Int))=(i:Int)+(m:Int):=by rw[IntKind.wrap_i64];omega
 have ke:(0:Int)≤(i:Int)+(m:Int):=by omega
 have ir:i≤n:=by omega
 have NG:((i:Int)+(m:Int)).toNat=i+m:=by omega
 have tg: ¬(c=i+m):=by omega
 have hb3:(i:Int)≤(n:Int)+(m:Int):=by omega
 have hb4: ¬(c=i):=by omega
 go_enter L.hf,rW ρ fn
 go_wp2_with (simp only[hov])
 go_region_law_o (refine step_copy_runI rfl _ _ (ρ.t 24) (ρ.t 24) rfl _ _ (by simp[Act.eval,Act.put]) (by simp[Act.eval,Act.put]) (Ug _ _ _) ?_)
 have h2:=Uh (w.drew.setRow b Ed) rfl
 go_wp2
 go_ret
 exact⟨rfl,rfl⟩
set_option maxHeartbeats 4000000 in
set_option maxRecDepth 100000 in
theorem QB{e:Ty}{f:FuncId}{fn fo:Func}(L:Kg P e ρ f fn fo)(w:World)(b n c i m vc nb G:Nat)(va:Addr)(NQ Ed QA:Array Value)(hi:i<n)(hm:0<m)(hnc:n≤c)(hr:c<n+m)(am2:c≤9223372036854775807)(h63:n+m≤9223372036854775807)(hG:n+m≤G)(aur:G≤9223372036854775807)
  (F8: ∀ty,(Builtin.append_ #[(ρ.t 24),(ρ.t 3)] ty #[.slice (some ⟨b,0,none⟩) i c,.int .i64 ((n:Int)+(m:Int)-(i:Int))]).run P w= .ok (.slice (some ⟨w.heap.size,0,none⟩) (n+m) G) (w.drew.alloc (.cells NQ (ρ.t 9))))
  (Ug: ∀W:World,W.heap=(w.alloc (.cells NQ (ρ.t 9))).heap→ ∀ty dc,(Builtin.copy_ #[(ρ.t 24),(ρ.t 24)] ty #[.slice (some ⟨w.heap.size,i*e.size,none⟩) (n+m-i) dc,.slice (some va) m vc]).run P W= .ok (goInt m) (W.setRow w.heap.size Ed))
  (Uh: ∀W:World,W.heap=((w.alloc (.cells NQ (ρ.t 9))).setRow w.heap.size Ed).heap→ ∀ty dc sc,(Builtin.copy_ #[(ρ.t 24),(ρ.t 24)] ty #[.slice (some ⟨w.heap.size,(i+m)*e.size,none⟩) (n+m-(i+m)) dc,.slice (some ⟨b,i*e.size,none⟩) (n-i) sc]).run P W= .ok (goInt ((n-i:Nat):Int)) (W.setRow w.heap.size QA)):
   Calls P f #[.slice (some ⟨b,0,none⟩) n c,.int .i64 i,.slice (some va) m vc] w fun r w2=>r= .returned (.slice (some ⟨w.heap.size,0,none⟩) (n+m) G)∧w2=((w.drew.alloc (.cells NQ (ρ.t 9))).setRow w.heap.size Ed).drew.setRow w.heap.size QA:=by
 have u3:=run_underlying L.t3;have u4:=run_underlying L.t4;have u24:=run_underlying L.t24
 have t3:=L.t3;have t4:=L.t4;have t24:=L.t24
 have z9:=fun w=>cj L.lay w
 have mixed:=L.mixed
 have yZ: ¬((m:Int)=0):=by omega
 have JJ: ¬((i:Int)=(n:Int)):=by omega
 have hz3:(c:Int)<(n:Int)+(m:Int):=by omega
 have hw1:IntKind.i64.wrap ((i:Int)+(m:Int))=(i:Int)+(m:Int):=by rw[IntKind.wrap_i64];omega
 have ke:(0:Int)≤(i:Int)+(m:Int):=by omega
 have ir:i≤n:=by omega
 have NG:((i:Int)+(m:Int)).toNat=i+m:=by omega
 have hGi: ¬(G=i):=by omega
 have aus: ¬(G=i+m):=by omega
 have hci: ¬(c=i):=by omega
 have hb3:(i:Int)≤(n:Int):=by omega
 have h1:=Ug ((w.alloc (.cells NQ (ρ.t 9))).drew) rfl
 have h2:=Uh (((w.alloc (.cells NQ (ρ.t 9))).drew.setRow w.heap.size Ed).drew) rfl
 go_enter L.hf,rW ρ fn
 go_wp2_with (first
   |(at_builtin;refine Lib.wpList_append_run _ rfl _ _ _ _ rfl _ _ rfl rfl _ _ (F8 _) ?_)
   |(at_builtin;refine wpList_copy_runI _ rfl _ _ (ρ.t 24) (ρ.t 24) rfl _ _ rfl rfl (Ug _ (by exact rfl) _ _) ?_)
   |(at_builtin;refine wpList_copy_runI _ rfl _ _ (ρ.t 24) (ρ.t 24) rfl _ _ rfl rfl (Uh _ (by exact rfl) _ _ _) ?_))
 go_region_law_o (refine step_copy_runI rfl _ _ (ρ.t 24) (ρ.t 24) rfl _ _ (by simp[Act.eval,Act.put]) (by simp[Act.eval,Act.put]) (h2 _ _ _) ?_)
 go_wp2
 go_ret
 exact⟨rfl,rfl⟩
theorem y4{α:Type}(A Z news:List α):dq (A++Z) A.length news=A++(news++Z.drop news.length):=by
 unfold dq
 rw[List.take_left' rfl,List.append_assoc,←List.drop_drop,List.drop_left' rfl]
theorem nu.ahw{w:World}{M:Nat→Prop}{e:Ty}{cs:List Value}{l:List e.den}(h:nu w M e cs l)(i:Nat):nu w M e (cs.take (i*e.size)) (l.take i):=by
 intro j hj
 rw[List.length_take]at hj
 have:=cY (s:=e.size) (show j<i by omega)
 rw[List.drop_take,List.take_take,Nat.min_eq_left (by omega),List.getElem_take]
 exact h j (by omega)
theorem nu.ahx{w:World}{M:Nat→Prop}{e:Ty}{cs:List Value}{l:List e.den}(h:nu w M e cs l)(i:Nat):nu w M e ((cs.drop (i*e.size)).take ((l.length-i)*e.size)) (l.drop i):=by
 intro j hj
 rw[List.length_drop]at hj
 have:=cY (s:=e.size) hj
 rw[List.drop_take,List.take_take,Nat.min_eq_left (by omega),List.drop_drop,List.getElem_drop,←Nat.add_mul]
 exact h (i+j) (by omega)
theorem sO{w w':World}{M0:Nat→Prop}{hs:List Nat}{e:Ty}{rb cap:Nat}{row:Array Value}{t:TypeId}{l:List e.den}(nC: ∀b,M0 b→b<w.heap.size)(rT: ∀b∈hs,¬M0 b)
  (hfr: ∀b,b<w.heap.size→b∉hs→w'.heap[b]? =w.heap[b]?) (p9:w.heap.size≤w'.heap.size) (hrb:rb<w.heap.size→rb∈hs) (hos:w'.os=w.os) (htp:w'.tape=w.tape) (J5:w'.output=w.output)
  (J6:w'.heap[rb]? =some (.cells row t (0,0))) (h0:0<cap) (hl:l.length≤cap) (hm:cap≤maxLen) (hrs:row.size=cap*e.size) (iq:nu w (fun b=>M0 b∨b∈hs) e row.toList l):
  ∃us M',Value.slice (some ⟨rb,0,none⟩) l.length cap=rP us∧RR w' M' [.own e] l us []∧Left w M0 hs w' M'∧(bg [.own e] us []).Nodup∧ ∀b∈bg [.own e] us [],¬M0 b:=by
 have JB:rb<w'.heap.size:=(Array.getElem?_eq_some_iff.1 J6).1
 have hk:dp w (fun b=>M0 b∨b∈hs) w' (fun b=>M0 b∨b=rb):=⟨p9,fun b hb hn=>hfr b hb (fun h=>hn (.inr h)),fun b hb h=>h.elim .inl (fun e=> .inr (e▸hrb (e▸hb)))⟩
 have uF:bg [.own e] [Value.slice (some ⟨rb,0,none⟩) l.length cap] []=[rb]:=by
  have:cap≠0:=by omega
  simp[bg,cD,AM.fR,ez,this]
 refine⟨[.slice (some ⟨rb,0,none⟩) l.length cap],fun b=>M0 b∨b=rb,rfl,?_,?_,?_,?_⟩
 ·simp only[RR]
  refine .inr ⟨_,[],rfl,rfl,rfl,?_,rfl,trivial⟩
  simp only[A1,ER,rz]
  exact .inr ⟨rb,row,t,cap,rfl,J6,.inr rfl,h0,hl,hm,hrs,iq.bx hk⟩
 ·exact⟨fun b h=> .inl h,fun b h=>h.elim (fun h=>Nat.lt_of_lt_of_le (nC b h) p9) (fun h=>h▸JB),fun b hb h=>h.elim .inl (fun e=> .inr (e▸hrb (e▸hb))),hfr,p9,hos,htp,J5⟩
 ·rw[uF];simp
 ·rw[uF]
  intro b hb h
  rw[List.mem_singleton]at hb
  subst hb
  exact rT b (hrb (nC b h)) h
theorem setRow_other(w:World){b c:Nat}(r:Array Value)(h:c≠b):(w.setRow b r).heap[c]? =w.heap[c]? :=by
 unfold World.setRow
 rw[Array.getElem?_modify,if_neg (fun e=>h e.symm)]
theorem setRow_size(w:World)(b:Nat)(r:Array Value):(w.setRow b r).heap.size=w.heap.size:=by
 unfold World.setRow;simp
theorem alloc_old(w:World)(o:Obj){c:Nat}(h:c<w.heap.size):(w.alloc o).heap[c]? =w.heap[c]? :=by
 show(w.heap.push o)[c]? =_
 rw[Array.getElem?_push,if_neg (by omega)]
theorem m9(w:World)(o:Obj):(w.alloc o).heap[w.heap.size]? =some o:=by
 show(w.heap.push o)[w.heap.size]? =_
 simp
theorem kF(w:World)(o:Obj):(w.alloc o).heap.size=w.heap.size+1:=by
 show(w.heap.push o).size=_
 simp
theorem qq{w:World}{b:Nat}{cs:Array Value}{t:TypeId}{f:Nat×Nat}(h:w.heap[b]? =some (.cells cs t f))(o n:Nat): ∀j u,((cs.toList.drop o).take n)[j]? =some u→w.cell? ((⟨b,o,none⟩:Addr).add j)=some u:=by
 intro j u hj
 rw[Addr.add_lit]
 rw[List.getElem?_take]at hj
 split at hj
 ·rw[List.getElem?_drop,Array.getElem?_toList]at hj
  simp only[World.cell?,h]
  simpa using hj
 ·cases hj
theorem Mg{w:World}{M:Nat→Prop}{v:Value}{e:Ty}{l:List e.den}(h:ER w M v (.own e l)):(l=[]∧ ∃a,v= .slice a 0 0)∨
 ∃b cs t cap,v= .slice (some ⟨b,0,none⟩) l.length cap∧w.heap[b]? =some (.cells cs t (0,0))∧M b∧0<cap∧l.length≤cap∧cap≤maxLen∧cs.size=cap*e.size∧nu w M e cs.toList l:=h
end VM
end
section
namespace VM
open Go Go.Shelf Go.RowKit Go.Lib Go.Proofs
variable{P:Program}{ρ:Ren}
theorem zW{w:World}{t e':TypeId}{e:Ty}(hu:P.underlying t=some (.slice e'))(hle:g5 P e e'){n m cap cp:Nat}{olds news:List Value}{base:Option Addr}{a':Addr}(PY:base=none→n=0∧cap=0)
  (yw:olds.length=n*e.size) (ho: ∀b,base=some b→ ∀j u,olds[j]? =some u→w.cell? (b.add j)=some u) (S9:news.length=m*e.size) (hn: ∀j u,news[j]? =some u→w.cell? (a'.add j)=some u)
  (hg:cap<n+m) (hs:n+m<uD):
  ∃jO rest,(∀ty,(Builtin.append_ #[t,t] ty #[.slice base n cap,.slice (some a') m cp]).run P w= .ok (.slice (some ⟨w.heap.size,0,none⟩) (n+m) jO) (w.drew.alloc (.cells (olds++news++rest).toArray e')))∧
   n+m≤jO∧jO≤maxLen∧rest.length=(jO-(n+m))*e.size:=by
 obtain⟨i,hi,p9,hz,hby⟩:=hle.base
 have hzs:(bQ e e.ck).cells.size=e.size:=by rw[←Array.length_toList,eJ,lh]
 have h63:n+m≤maxLen:=by simp only[uD,maxLen]at hs ⊢;omega
 have F2:(n+m)*i.bytes≤140737488355328:=by
  have:(n+m)*i.bytes≤68719476736*2048:=Nat.mul_le_mul (by simp only[uD]at hs;omega) hby
  omega
 refine⟨grownCap w (n+m) cap e',(Builtin.zeroCells (bQ e e.ck).cells (grownCap w (n+m) cap e'-(n+m))).toList,fun ty=> ?_,grownCap_ge _ _ _ _,grownCap_le_maxLen _ _ _ _ h63,?_⟩
 ·cases base with
  |none=>
   obtain⟨rfl,rfl⟩:=PY rfl
   have ho0:olds=[]:=List.eq_nil_of_length_eq_zero (by rw[yw];simp)
   subst ho0
   have:=run_append_nil (P:=P) w t ty e' i _ hu hi hz a' m cp news (by rw[S9,p9]) hn (by simpa using hg) (by simp only[uD]at hs;omega) (by simp at F2;omega)
   simp only[Nat.zero_add,List.nil_append]
   rw[this]
   congr 2
   apply congrArg (fun z=>Obj.cells z e' (0,0))
   apply Array.ext';simp
  |some b=>
   have:=run_append_grow (P:=P) w t ty e' i _ hu hi hz b n cap olds (by rw[yw,p9]) (ho b rfl) a' m cp news (by rw[S9,p9]) hn hg (by simp only[uD]at hs;omega) (growslice_fits hg F2)
   rw[this]
   congr 2
   apply congrArg (fun z=>Obj.cells z e' (0,0))
   apply Array.ext';simp
 ·rw[Array.length_toList,size_zeroCells,hzs]
theorem NR{w:World}{t tn e':TypeId}{e:Ty}(hu:P.underlying t=some (.slice e'))(NG:P.underlying tn=some (.int .i64))(hle:g5 P e e')(abY:0<e.size){n k cap:Nat}{olds:List Value}{b:Addr}
  (yw:olds.length=n*e.size) (ho: ∀j u,olds[j]? =some u→w.cell? (b.add j)=some u) (hk:0<k) (hg:cap<n+k) (hs:n+k<uD):
  ∃jO rest,(∀ty,(Builtin.append_ #[t,tn] ty #[.slice (some b) n cap,.int .i64 k]).run P w= .ok (.slice (some ⟨w.heap.size,0,none⟩) (n+k) jO) (w.drew.alloc (.cells (olds++rest).toArray e')))∧
   n+k≤jO∧jO≤maxLen∧rest.length=(jO-n)*e.size:=by
 obtain⟨i,hi,p9,hz,hby⟩:=hle.base
 have hzs:(bQ e e.ck).cells.size=e.size:=by rw[←Array.length_toList,eJ,lh]
 have h63:n+k≤maxLen:=by simp only[uD,maxLen]at hs ⊢;omega
 have F2:(n+k)*i.bytes≤140737488355328:=by
  have:(n+k)*i.bytes≤68719476736*2048:=Nat.mul_le_mul (by simp only[uD]at hs;omega) hby
  omega
 have hkb:k*i.bytes≤281474976710656:=by
  have:k*i.bytes≤(n+k)*i.bytes:=Nat.mul_le_mul_right _ (by omega)
  omega
 have TV:=grownCap_ge w (n+k) cap e'
 refine⟨grownCap w (n+k) cap e',(Builtin.zeroCells (bQ e e.ck).cells k++Builtin.zeroCells (bQ e e.ck).cells (grownCap w (n+k) cap e'-(n+k))).toList,fun ty=> ?_,TV,grownCap_le_maxLen _ _ _ _ h63,?_⟩
 ·have hold:(Builtin.firstCells i.size n (.slice (some b) n cap)).run P w.drew= .ok olds.toArray w.drew:=run_firstCells_some w.drew i.size n b n cap olds (by rw[yw,p9]) (fun j u hj=>ho j u hj)
  have:=Lib.run_append_grow_zeros w t tn ty e' i _ .i64 .i64 hu NG hi hz (some b) n cap olds hold k hk (by rw[p9];exact abY) hg (by simp only[uD]at hs;omega) hkb (growslice_fits hg F2)
  rw[this]
  congr 2
  apply congrArg (fun z=>Obj.cells z e' (0,0))
  apply Array.ext';simp
 ·rw[Array.toList_append,List.length_append,Array.length_toList,Array.length_toList,size_zeroCells,size_zeroCells,hzs,←Nat.add_mul]
  congr 1;omega
structure OvP(P:Program)(ρ:Ren)(fo:Func):Prop where
 hf:P.funcs[ρ.f 29]? =some fo
 name:(fo.name== "runtime.NumGoroutine")=false
 body:fo.body.isNone=true
 next:Extern.findNext fo=none
 find:Extern.find fo=some (Extern.SlicesOverlaps.overlaps #[ρ.t 24,ρ.t 24] #[ρ.t 4])
theorem ub{e:Ty}{f:FuncId}{fn fo:Func}(L:Kg P e ρ f fn fo)(O:OvP P ρ fo)(vd:(fn.name== "runtime.NumGoroutine")=false)(QC:(Body2.n22 ρ).body.isNone=false)(N:Nat):e7 P f (gZ e N):=by
 refine⟨(fun h=>by cases h),rfl,fun M0 w vs x y nC hA u7 rT hy=> ?_⟩
 obtain⟨l,i,v⟩:=x
 have Qm:gY N l i v=some y:=hy
 clear hy
 simp only[gZ,gj]at hA
 obtain⟨v0,Tf,rfl,h0,v1,vs2,rfl,h1,v2,vs3,rfl,h2,rfl⟩:=hA
 simp only[gY]at Qm
 split at Qm
 case isFalse=>cases Qm
 rename_i hc
 cases Qm
 obtain⟨hi0,BO,FW,Ee⟩:=hc
 obtain⟨i,rfl⟩:=Int.eq_ofNat_of_zero_le hi0
 have ahz:i≤l.length:=by omega
 simp only[A1,rz,wh,V,Ty.isAgg,Bool.false_eq_true,if_false,Rd,List.cons.injEq,and_true]at h0 h1 h2
 subst h1
 have hk:=L.mB
 replace FW:List.length (α:=e.den) v=1:=FW
 rcases Mg h2 with⟨T8,_⟩|⟨b2,cs2,t2,vi,TK,Nk,DU,hc2,hl2,uS,Mh,Fo⟩
 ·rw[T8]at FW;cases FW
 replace TK:v2= .slice (some ⟨b2,0,none⟩) 1 vi:=by rw[TK];congr 1
 subst TK
 have TI:e.size≤cs2.toList.length:=by
  rw[Array.length_toList (xs:=cs2),Mh]
  exact Nat.le_mul_of_pos_left _ hc2
 obtain⟨news,QD⟩: ∃news,news=cs2.toList.take e.size:=⟨_,rfl⟩
 have Cp:news.length=1*e.size:=by rw[QD,List.length_take,Nat.one_mul];omega
 have hnr:nu w (fun b=>M0 b∨b∈cK (gZ e N).args [v0,.int .i64 (i:Int),.slice (some ⟨b2,0,none⟩) 1 vi]) e news v:=by
  rw[QD];exact Fo.take (by rw[FW,Nat.one_mul];exact Nat.le_refl _)
 have hnc: ∀j u,news[j]? =some u→w.cell? ((⟨b2,0,none⟩:Addr).add j)=some u:=by
  have:=qq Nk 0 e.size
  rw[List.drop_zero]at this
  rw[QD];exact this
 have hn1: ∀u∈news,u.oneCell'=true:=by
  have:=hnr 0 (by omega)
  rw[Nat.zero_mul,List.drop_zero,List.take_of_length_le (by omega)]at this
  exact this.lf
 have tg:ez (.slice (some ⟨b2,0,none⟩) 1 vi)=some b2:=by simp[ez];omega
 replace Ee:List.length (α:=e.den) l+1<uD:=Ee
 have hyl:(List.take i l++(v++List.drop i l)).length=l.length+1:=by rw[List.length_append,List.length_append,List.length_take,List.length_drop,FW];omega
 have hbn:(Qz ρ fn).body.isNone=false:=QC
 refine pj L.hf vd hbn ?_
 rcases Mg h0 with⟨rfl,ad,rfl⟩|⟨b1,uG,t1,yB,rfl,JE,hM1,BS,hl1,pG,LY,Ef⟩
 ·
  have hi:i=0:=by simpa using ahz
  subst hi
  obtain⟨jO,rest,cI,NJ,gB,JB⟩:=zW (P:=P) (w:=w) L.t24 L.lay (n:=0) (m:=1) (cap:=0) (cp:=vi) (olds:=[]) (news:=news) (base:=ad) (a':=⟨b2,0,none⟩) (fun _=>⟨rfl,rfl⟩) (by simp) (fun _ _ j u hj=>by simp at hj) Cp hnc (by omega) (by simp only[uD];omega)
  refine(Ec L w ad 0 0 1 vi ⟨b2,0,none⟩ _ _ (by omega) (Nat.le_refl _) cI).mono ?_
  rintro e1 w' ⟨rfl,rfl⟩
  refine⟨_,rfl,?_⟩
  simp only[Nat.zero_add]at NJ JB
  have hv:v=v++[]:=by simp
  have:=sO (e:=e) (rb:=w.heap.size) (cap:=jO) (l:=v) (t:=ρ.t 9) (w:=w) (w':=w.drew.alloc (.cells ([]++news++rest).toArray (ρ.t 9))) nC rT (fun b hb _=>alloc_old w.drew _ hb) (by rw[kF];exact Nat.le_succ _) (fun h=>absurd h (Nat.lt_irrefl _)) rfl rfl rfl (m9 w.drew _) (by omega) (by omega) gB
   (by simp only[List.nil_append,List.size_toArray,List.length_append,Cp,JB,←Nat.add_mul];congr 1;omega) (by simpa using hnr.more (cs':=rest) (by rw[FW,Cp];exact Nat.le_refl _))
  rw[FW]at this
  simpa [gZ,dB,AM.fR]using this
 ·have ke:ez (.slice (some ⟨b1,0,none⟩) l.length yB)=some b1:=by simp[ez];omega
  have hh:cK (gZ e N).args [.slice (some ⟨b1,0,none⟩) l.length yB,.int .i64 (i:Int),.slice (some ⟨b2,0,none⟩) 1 vi]=[b1,b2]:=by simp[gZ,cK,cD,ke,tg]
  rw[hh]at u7 rT hnr ⊢
  replace Ef:nu w (fun b=>M0 b∨b∈[b1,b2]) e uG.toList l:=by rw[←hh];exact Ef
  have gi:b1≠b2:=by simpa using u7
  have am5:b1<w.heap.size:=(Array.getElem?_eq_some_iff.1 JE).1
  have agH:b2<w.heap.size:=(Array.getElem?_eq_some_iff.1 Nk).1
  have pH:l.length*e.size≤uG.toList.length:=by rw[Array.length_toList (xs:=uG),LY];exact Nat.mul_le_mul_right _ hl1
  have hik:i*e.size≤l.length*e.size:=Nat.mul_le_mul_right _ ahz
  obtain⟨A,hAe⟩: ∃A,A=uG.toList.take (i*e.size):=⟨_,rfl⟩
  obtain⟨mid,ab6⟩: ∃mid,mid=(uG.toList.drop (i*e.size)).take ((l.length-i)*e.size):=⟨_,rfl⟩
  have Mi:A.length=i*e.size:=by rw[hAe,List.length_take];omega
  have BL:mid.length=(l.length-i)*e.size:=by
   rw[ab6,List.length_take,List.length_drop,Nat.sub_mul];omega
  have hAr:=Ef.ahw i
  have hmr:=Ef.ahx i
  rw[←hAe]at hAr
  rw[←ab6]at hmr
  have hti:(l.take i).length=i:=by rw[List.length_take];omega
  have Mj: ∀rest:List Value,nu w (fun b=>M0 b∨b∈[b1,b2]) e (A++(news++(mid++rest))) (l.take i++(v++l.drop i)):=fun rest=>
   hAr.append (by rw[Mi,hti]) (hnr.append (by rw[Cp,FW]) (hmr.more (by rw[List.length_drop,BL];exact Nat.le_refl _)))
  have hAc: ∀j u,A[j]? =some u→w.cell? ((⟨b1,0,none⟩:Addr).add j)=some u:=by
   have:=qq JE 0 (i*e.size)
   rw[List.drop_zero]at this
   rw[hAe];exact this
  have hmc: ∀j u,mid[j]? =some u→w.cell? ((⟨b1,i*e.size,none⟩:Addr).add j)=some u:=by
   rw[ab6];exact qq JE (i*e.size) _
  have ahC: ∀u∈mid,u.oneCell'=true:=by
   intro u hu
   obtain⟨j,hj,rfl⟩:=List.mem_iff_getElem.1 hu
   rw[BL]at hj
   have hq:j/e.size<l.length-i:=Nat.div_lt_of_lt_mul (by rw[Nat.mul_comm];exact hj)
   have:=(hmr (j/e.size) (by rw[List.length_drop];exact hq)).lf
   refine this _ ?_
   have hjm:j/e.size*e.size+j%e.size=j:=by rw[Nat.mul_comm];exact Nat.div_add_mod j e.size
   have BE:j%e.size<e.size:=Nat.mod_lt _ hk
   rw[List.mem_iff_getElem?]
   refine⟨j%e.size,?_⟩
   rw[List.getElem?_take,if_pos BE,List.getElem?_drop,hjm]
   exact List.getElem?_eq_getElem _
  by_cases ir:i=l.length
  ·
   subst ir
   have hm0:mid=[]:=List.eq_nil_of_length_eq_zero (by rw[BL];simp)
   by_cases u5:l.length+1≤yB
   ·obtain⟨ie,hie,p9,_⟩:=L.lay.base
    have cI: ∀ty,(Builtin.append_ #[ρ.t 24,ρ.t 24] ty #[.slice (some ⟨b1,0,none⟩) l.length yB,.slice (some ⟨b2,0,none⟩) 1 vi]).run P w=_:=fun ty=>
     F1 (ty:=ty) (cp:=vi) L.t24 hie JE (by rw[p9];exact LY) (by rw[p9];exact Cp) hnc hn1 u5
    refine(Ec L w _ _ _ 1 vi ⟨b2,0,none⟩ _ _ (by omega) hl1 cI).mono ?_
    rintro e1 w' ⟨rfl,rfl⟩
    refine⟨_,rfl,?_⟩
    rw[p9]
    have J6:dq uG.toList (l.length*e.size) news=A++(news++(mid++uG.toList.drop (l.length*e.size+news.length))):=by
     rw[hm0,hAe];simp[dq]
    have:=sO (e:=e) (rb:=b1) (cap:=yB) (l:=l.take l.length++(v++l.drop l.length)) (t:=t1) (w:=w) (w':=w.setRow b1 (dq uG.toList (l.length*e.size) news).toArray) nC rT (fun b hb hn=>setRow_other w _ (fun e=>hn (by simp[e]))) (by rw[setRow_size];exact Nat.le_refl _) (fun _=>by simp) rfl rfl rfl (setRow_heap w b1 uG _ t1 _ JE) BS (by rw[hyl];exact u5) pG
     (by
      have:=cY (s:=e.size) (show l.length<yB by omega)
      rw[J6,List.size_toArray]
      simp only[List.length_append,hm0,List.length_nil,List.length_drop,Array.length_toList,Mi,Cp,LY]
      omega)
     (by rw[J6];exact Mj _)
    rw[hyl]at this
    simpa [gZ,dB,AM.fR]using this
   ·obtain⟨jO,rest,cI,NJ,gB,JB⟩:=zW (P:=P) (w:=w) L.t24 L.lay (n:=l.length) (m:=1) (cap:=yB) (cp:=vi) (olds:=A) (news:=news) (base:=some ⟨b1,0,none⟩) (a':=⟨b2,0,none⟩) (fun h=>by cases h) Mi (fun b hb=>by cases hb;exact hAc) Cp hnc (by omega) Ee
    refine(Ec L w _ _ _ 1 vi ⟨b2,0,none⟩ _ _ (by omega) hl1 cI).mono ?_
    rintro e1 w' ⟨rfl,rfl⟩
    refine⟨_,rfl,?_⟩
    have:=sO (e:=e) (rb:=w.heap.size) (cap:=jO) (l:=l.take l.length++(v++l.drop l.length)) (t:=ρ.t 9) (w:=w) (w':=w.drew.alloc (.cells (A++news++rest).toArray (ρ.t 9))) nC rT (fun b hb _=>alloc_old w.drew _ hb) (by rw[kF];exact Nat.le_succ _) (fun h=>absurd h (Nat.lt_irrefl _)) rfl rfl rfl (m9 w.drew _) (by omega) (by rw[hyl];exact NJ) gB
     (by simp only[List.size_toArray,List.length_append,Mi,Cp,JB,←Nat.add_mul];congr 1;omega) (by have:=Mj rest;rw[hm0,List.nil_append,←List.append_assoc]at this;exact this)
    rw[hyl]at this
    simpa [gZ,dB,AM.fR]using this
  ·have ab7:i<l.length:=by omega
   have TT:i*e.size+e.size≤l.length*e.size:=cY ab7
   have e1k:(i+1)*e.size=A.length+news.length:=by rw[Mi,Cp,Nat.add_mul]
   have zy:Nat.min 1 (l.length+1-i)=1:=Nat.min_eq_left (by omega)
   by_cases u5:l.length+1≤yB
   ·
    have ahD:l.length*e.size+e.size≤uG.toList.length:=by rw[Array.length_toList (xs:=uG),LY];exact cY (by omega)
    have hsh: ∀(b:Nat) (c:Array Value) (t:TypeId),w.heap[b]? =some (.cells c t (0,0))→w.shape? b=some (t,c.size):=fun b c t h=>by simp[World.shape?,h]
    obtain⟨B,hB⟩: ∃B,B=uG.toList.drop (i*e.size):=⟨_,rfl⟩
    have ahE:uG.toList=A++B:=by rw[hAe,hB,List.take_append_drop]
    have hBl:B.length=uG.toList.length-i*e.size:=by rw[hB,List.length_drop]
    have hBk:(B.take e.size).length=e.size:=by rw[List.length_take];omega
    have Gs:dq uG.toList ((i+1)*e.size) mid=A++(B.take e.size++(mid++(B.drop e.size).drop mid.length)):=by
     have:uG.toList=(A++B.take e.size)++B.drop e.size:=by rw[List.append_assoc,List.take_append_drop];exact ahE
     rw[this,show(i+1)*e.size=(A++B.take e.size).length from by rw[List.length_append,hBk,Mi,Nat.add_mul,Nat.one_mul],y4,List.append_assoc]
    have Gt:dq (dq uG.toList ((i+1)*e.size) mid) (i*e.size) news=A++(news++(mid++(B.drop e.size).drop mid.length)):=by
     rw[Gs,←Mi,y4,Cp,Nat.one_mul,List.drop_left' hBk]
    refine(NP L w b1 l.length yB i 1 vi ⟨b2,0,none⟩ (dq uG.toList ((i+1)*e.size) mid).toArray (dq (dq uG.toList ((i+1)*e.size) mid) (i*e.size) news).toArray ab7 (by omega) u5 (by simp only[maxLen]at pG;omega) (fun x lb cb=> ?_) (fun ty dc sc=> ?_) (fun W hW ty dc=> ?_)).mono ?_
    ·rw[run_callFunc_extern O.hf O.name O.body O.next O.find,
      Lib.run_overlaps_apart w (ρ.t 24) (ρ.t 4) (ρ.t 9) L.t24 e.size (fun w=>cj L.lay w) ⟨b2,0,none⟩ ⟨b1,x,none⟩ 1 vi lb cb (Ne.symm gi) t2 t1 cs2.size uG.size (hsh b2 cs2 t2 Nk) (hsh b1 uG t1 JE) (by rw[LY];exact Nat.ne_of_gt (Nat.mul_pos BS hk)) (by simp[World.frozen?,Nk]) (by simp[World.frozen?,Nk])]
     rfl
    ·exact run_copy_row (P:=P) (W:=w.drew) L.t24 (fun w=>cj L.lay w) (cs:=uG) JE (news:=mid) (n:=l.length-i) (by simp only[Nat.min_def];split<;>omega) BL hmc ahC (by rw[BL,Nat.add_mul,Nat.one_mul];rw[Array.length_toList (xs:=uG)]at ahD;rw[Nat.sub_mul];omega) ty
    ·exact run_copy_row (P:=P) (W:=W) L.t24 (fun w=>cj L.lay w) (cs:=(dq uG.toList ((i+1)*e.size) mid).toArray) (te:=t1) (by rw[hW];exact setRow_heap w b1 uG _ t1 _ JE) (news:=news) (n:=1) zy Cp
      (fun j u hj=>by
       have:=hnc j u hj
       rw[Addr.add_lit]at this ⊢
       rw[show W.cell? ⟨b2,0+j,none⟩=w.cell? ⟨b2,0+j,none⟩from World.cell?_of_block (by rw[hW];exact setRow_other w _ (Ne.symm gi))]
       exact this) hn1 (by
       rw[List.size_toArray,Gs]
       simp only[List.length_append,hBk,Mi,Cp]
       omega) ty
    ·rintro e1 w' ⟨rfl,rfl⟩
     refine⟨_,rfl,?_⟩
     have:=sO (e:=e) (rb:=b1) (cap:=yB) (l:=l.take i++(v++l.drop i)) (t:=t1) (w:=w) (w':=(w.drew.setRow b1 (dq uG.toList ((i+1)*e.size) mid).toArray).setRow b1 (dq (dq uG.toList ((i+1)*e.size) mid) (i*e.size) news).toArray) nC rT
      (fun b hb hn=>(setRow_other _ _ (fun e=>hn (by simp[e]))).trans (setRow_other _ _ (fun e=>hn (by simp[e])))) (by rw[setRow_size,setRow_size];exact Nat.le_refl _) (fun _=>by simp) rfl rfl rfl (setRow_heap _ b1 _ _ t1 _ (setRow_heap w.drew b1 uG _ t1 _ JE)) BS (by rw[hyl];exact u5) pG
      (by
       rw[Gt,List.size_toArray]
       rw[Array.length_toList (xs:=uG)]at ahD hBl
       simp only[List.length_append,List.length_drop,Mi,Cp,BL,hBl,Nat.sub_mul]
       omega)
      (by rw[Gt];exact Mj _)
     rw[hyl]at this
     simpa [gZ,dB,AM.fR]using this
   ·
    obtain⟨jO,Z,cI,NJ,gB,hZl⟩:=NR (P:=P) (w:=w) L.t24 L.t3 L.lay hk (n:=i) (k:=l.length+1-i) (cap:=yB) (olds:=A) (b:=⟨b1,0,none⟩) Mi hAc (by omega) (by omega) (by omega)
    have am8:i+(l.length+1-i)=l.length+1:=by omega
    rw[am8]at cI NJ
    have hZk:(l.length+1-i)*e.size≤Z.length:=by rw[hZl];exact Nat.mul_le_mul_right _ (by omega)
    rw[Nat.sub_mul,Nat.add_mul,Nat.one_mul]at hZk
    have Gs:dq (A++Z) (i*e.size) news=A++(news++Z.drop news.length):=by rw[←Mi,y4]
    have Gt:dq (dq (A++Z) (i*e.size) news) ((i+1)*e.size) mid=A++(news++(mid++(Z.drop news.length).drop mid.length)):=by
     rw[Gs,←List.append_assoc,e1k,←List.length_append,y4,List.append_assoc]
    have hnb:w.heap.size≠b1:=by omega
    have auC:b2≠w.heap.size:=by omega
    refine(QB L w b1 l.length yB i 1 vi 0 jO ⟨b2,0,none⟩ (A++Z).toArray (dq (A++Z) (i*e.size) news).toArray (dq (dq (A++Z) (i*e.size) news) ((i+1)*e.size) mid).toArray ab7 (by omega) hl1 (by omega) (by simp only[maxLen]at pG;omega) (by simp only[uD]at Ee;omega) NJ (by simp only[maxLen]at gB;omega) (fun ty=> ?_) (fun W hW ty dc=> ?_) (fun W hW ty dc sc=> ?_)).mono ?_
    ·have:=cI ty
     rw[show(((l.length+1-i:Nat):Int))=(l.length:Int)+(1:Nat)-(i:Int)from by omega]at this
     exact this
    ·exact run_copy_row (P:=P) (W:=W) L.t24 (fun w=>cj L.lay w) (cs:=(A++Z).toArray) (te:=ρ.t 9) (by rw[hW];exact m9 w _) (news:=news) (n:=1) zy Cp
      (fun j u hj=>by
       have:=hnc j u hj
       rw[Addr.add_lit]at this ⊢
       rw[show W.cell? ⟨b2,0+j,none⟩=w.cell? ⟨b2,0+j,none⟩from World.cell?_of_block (by rw[hW];exact alloc_old w _ agH)]
       exact this) hn1 (by rw[List.size_toArray,List.length_append,Mi,Cp];omega) ty
    ·exact run_copy_row (P:=P) (W:=W) L.t24 (fun w=>cj L.lay w) (cs:=(dq (A++Z) (i*e.size) news).toArray) (te:=ρ.t 9) (by rw[hW];exact setRow_heap _ _ _ _ _ _ (m9 w _)) (news:=mid) (n:=l.length-i) (by simp only[Nat.min_def];split<;>omega) BL
      (fun j u hj=>by
       have:=hmc j u hj
       rw[Addr.add_lit]at this ⊢
       rw[show W.cell? ⟨b1,i*e.size+j,none⟩=w.cell? ⟨b1,i*e.size+j,none⟩from World.cell?_of_block (by rw[hW];exact(setRow_other _ _ (Ne.symm hnb)).trans (alloc_old w _ am5))]
       exact this) ahC (by
       rw[List.size_toArray,Gs]
       simp only[List.length_append,List.length_drop,Mi,Cp,BL,Nat.add_mul,Nat.sub_mul]
       omega) ty
    ·rintro e1 w' ⟨rfl,rfl⟩
     refine⟨_,rfl,?_⟩
     have hg':((w.drew.alloc (.cells (A++Z).toArray (ρ.t 9))).setRow w.heap.size (dq (A++Z) (i*e.size) news).toArray).drew.heap[w.heap.size]? =some (.cells (dq (A++Z) (i*e.size) news).toArray (ρ.t 9) (0,0)):=setRow_heap _ _ _ _ _ _ (m9 w.drew _)
     have:=sO (e:=e) (rb:=w.heap.size) (cap:=jO) (l:=l.take i++(v++l.drop i)) (t:=ρ.t 9) (w:=w) (w':=((w.drew.alloc (.cells (A++Z).toArray (ρ.t 9))).setRow w.heap.size (dq (A++Z) (i*e.size) news).toArray).drew.setRow w.heap.size (dq (dq (A++Z) (i*e.size) news) ((i+1)*e.size) mid).toArray) nC rT
      (fun b hb hn=>(setRow_other _ _ (by omega)).trans ((setRow_other _ _ (by omega)).trans (alloc_old w.drew _ hb))) (by rw[setRow_size];show _≤(World.setRow _ _ _).heap.size;rw[setRow_size,kF];exact Nat.le_succ _) (fun h=>absurd h (Nat.lt_irrefl _)) rfl rfl rfl (setRow_heap _ _ _ _ _ _ hg') (by omega) (by rw[hyl];exact NJ) gB
      (by
       rw[Gt,List.size_toArray]
       have hmul:(jO-i)*e.size=jO*e.size-i*e.size:=Nat.sub_mul _ _ _
       have hci:i*e.size≤jO*e.size:=Nat.mul_le_mul_right _ (by omega)
       simp only[List.length_append,List.length_drop,Mi,Cp,BL,hZl,hmul,Nat.sub_mul]at hZk ⊢
       omega)
      (by rw[Gt];exact Mj _)
     rw[hyl]at this
     simpa [gZ,dB,AM.fR]using this
end VM
end
section
namespace VM
open Go Go.Shelf Go.RowKit Go.Lib Go.Proofs
variable{P:Program}{ρ:Ren}
noncomputable def QE(ρ:Ren)(fn:Func):Func:={fn with body:=(Body2.n15 ρ).body,ntmps:=8,results:=(Body2.n15 ρ).results,nfree:=0}
theorem xG(ρ:Ren)(fn:Func):(QE ρ fn).ntmps=8:=rfl
structure Eg(P:Program)(e:Ty)(ρ:Ren)(f:FuncId)(fn:Func):Prop where
 hf:P.funcs[f]? =some (QE ρ fn)
 t4:P.underlying (ρ.t 4)=some .bool
 t22:P.underlying (ρ.t 22)=some (.slice (ρ.t 3))
 lay:g5 P e (ρ.t 3)
 mB:0<e.size
 mixed:P.follows .mixedOrders=true
set_option maxHeartbeats 4000000 in
set_option maxRecDepth 100000 in
theorem NS{e:Ty}{f:FuncId}{fn:Func}(L:Eg P e ρ f fn)(w:World)(n c:Nat):
  Calls P f #[.slice none n c] w fun r w2=>r= .returned (.slice none 0 0)∧w2=w:=by
 have u22:=run_underlying L.t22
 have t4:=L.t4;have t22:=L.t22
 have z3:=fun w=>cj L.lay w
 have mixed:=L.mixed
 have q22: ∀(w:World) (a:Option Addr) (n c n' c':Nat),(binOp .eql (ρ.t 22) (.slice a n c) (.slice none n' c')).run P w= .ok (.bool a.isNone) w:=fun w a n c n' c'=>Lib.run_eql_slice_nil w _ _ a n c n' c' L.t22
 go_enter L.hf,xG ρ fn
 go_wp2
 go_ret
 exact⟨rfl,rfl⟩
set_option maxHeartbeats 4000000 in
set_option maxRecDepth 100000 in
theorem zX{e:Ty}{f:FuncId}{fn:Func}(L:Eg P e ρ f fn)(w:World)(a:Addr)(n c:Nat)(v':Value)(w':World)
  (F8: ∀ty,(Builtin.append_ #[ρ.t 22,ρ.t 22] ty #[.slice (some ⟨w.heap.size,0,none⟩) 0 0,.slice (some a) n c]).run P (w.alloc (.cells #[] (ρ.t 3)))= .ok v' w'):
   Calls P f #[.slice (some a) n c] w fun r w2=>r= .returned v'∧w2=w':=by
 have u22:=run_underlying L.t22
 have t4:=L.t4;have t22:=L.t22
 have z3:=fun w=>cj L.lay w
 have mixed:=L.mixed
 have q22: ∀(w:World) (a:Option Addr) (n c n' c':Nat),(binOp .eql (ρ.t 22) (.slice a n c) (.slice none n' c')).run P w= .ok (.bool a.isNone) w:=fun w a n c n' c'=>Lib.run_eql_slice_nil w _ _ a n c n' c' L.t22
 obtain⟨ab,ao,asp⟩:=a
 go_enter L.hf,xG ρ fn
 go_wp2_with (at_builtin;refine Lib.wpList_append_run _ rfl _ _ _ _ rfl _ _ rfl rfl _ _ (F8 _) ?_)
 all_goals (go_ret;exact⟨rfl,rfl⟩)
theorem QF{w w':World}{M0:Nat→Prop}{e:Ty}(a:Option Addr)(nC: ∀b,M0 b→b<w.heap.size)(hfr: ∀b,b<w.heap.size→w'.heap[b]? =w.heap[b]?)(p9:w.heap.size≤w'.heap.size)
  (hos:w'.os=w.os) (htp:w'.tape=w.tape) (J5:w'.output=w.output):
  ∃us M',Value.slice a 0 0=rP us∧RR w' M' [.own e] ([]:List e.den) us []∧Left w M0 [] w' M'∧(bg [.own e] us []).Nodup∧ ∀b∈bg [.own e] us [],¬M0 b:=by
 have uF:bg [.own e] [Value.slice a 0 0] []=[]:=by
  cases a<;>simp[bg,cD,AM.fR,ez]
 refine⟨[.slice a 0 0],M0,rfl,?_,?_,?_,?_⟩
 ·simp only[RR]
  refine .inr ⟨_,[],rfl,rfl,rfl,?_,rfl,trivial⟩
  simp only[A1,ER,rz]
  exact .inl ⟨trivial,a,rfl⟩
 ·exact⟨fun b h=>h,fun b h=>Nat.lt_of_lt_of_le (nC b h) p9,fun b hb h=> .inl h,fun b hb _=>hfr b hb,p9,hos,htp,J5⟩
 ·rw[uF];simp
 ·rw[uF];simp
theorem nc{e:Ty}{f:FuncId}{fn:Func}(L:Eg P e ρ f fn)(vd:(fn.name== "runtime.NumGoroutine")=false)(QC:(Body2.n15 ρ).body.isNone=false)(N:Nat):e7 P f (rJ e N):=by
 refine⟨(fun h=>by cases h),rfl,fun M0 w vs x y nC hA u7 rT hy=> ?_⟩
 have Qm:kB N x=some y:=hy
 clear hy
 obtain⟨v0,Tf,rfl,h0,h2⟩:=hA
 have h2:Tf=[]:=h2
 subst h2
 replace h0:V w (fun b=>M0 b∨b∈([]:List Nat)) (.slice e) v0 x:=h0
 unfold kB at Qm
 split at Qm
 case isFalse=>cases Qm
 rename_i Ee
 cases Qm
 have hbn:(QE ρ fn).body.isNone=false:=QC
 have hh:cK (rJ e N).args [v0]=[]:=rfl
 rw[hh]at rT ⊢
 refine pj L.hf vd hbn ?_
 obtain⟨i,hi,p9,hz,hby⟩:=L.lay.base
 have hS:=Src.TD h0
 by_cases hx:x=[]
 ·obtain⟨a,cp,hv,_⟩:=hS
  subst hv
  rw[hx]
  cases a with
  |none=>
   refine(NS L w _ cp).mono ?_
   rintro e1 w' ⟨rfl,rfl⟩
   exact⟨_,rfl,QF none nC (fun _ _=>rfl) (Nat.le_refl _) rfl rfl rfl⟩
  |some a=>
   refine(zX L w a _ cp _ _ (fun ty=>oM (P:=P) (w:=w.alloc (.cells #[] (ρ.t 3))) L.t22 hi (some ⟨w.heap.size,0,none⟩) 0 0 (Nat.le_refl _) (some a) cp)).mono ?_
   rintro e1 w' ⟨rfl,rfl⟩
   exact⟨_,rfl,QF _ nC (fun b hb=>alloc_old w _ hb) (by rw[kF];exact Nat.le_succ _) rfl rfl rfl⟩
 ·obtain⟨b,off,cp,news,hv,hl,ld,iq,h1⟩:=hS.cells hx
  have J7:0<x.length:=List.length_pos_iff.2 hx
  subst hv
  obtain⟨jO,rest,cI,NJ,gB,JB⟩:=zW (P:=P) (w:=w.alloc (.cells #[] (ρ.t 3))) L.t22 L.lay (n:=0) (m:=x.length) (cap:=0) (cp:=cp) (olds:=[]) (news:=news) (base:=some ⟨w.heap.size,0,none⟩) (a':=⟨b,off,none⟩) (fun h=>by cases h) (by simp) (fun _ _ j u hj=>by simp at hj) hl
   (fun j u hj=>by rw[Addr.add_lit];exact Lib.cell?_alloc_some _ (ld j u hj)) (by omega) (by omega)
  refine(zX L w ⟨b,off,none⟩ _ cp _ _ cI).mono ?_
  rintro e1 w' ⟨rfl,rfl⟩
  refine⟨_,rfl,?_⟩
  simp only[Nat.zero_add]at NJ JB ⊢
  have LY:(w.alloc (.cells #[] (ρ.t 3))).heap.size=w.heap.size+1:=kF w _
  exact sO (e:=e) (rb:=(w.alloc (.cells #[] (ρ.t 3))).heap.size) (cap:=jO) (l:=x) (t:=ρ.t 3) (w:=w) (w':=(w.alloc (.cells #[] (ρ.t 3))).drew.alloc (.cells ([]++news++rest).toArray (ρ.t 3))) nC rT
   (fun b hb _=>(alloc_old (w.alloc (.cells #[] (ρ.t 3))).drew _ (by show b<(w.alloc (.cells #[] (ρ.t 3))).heap.size;omega)).trans (alloc_old w _ hb))
   (by rw[kF];show w.heap.size≤(w.alloc (.cells #[] (ρ.t 3))).heap.size+1;omega) (fun h=>by omega) rfl rfl rfl (m9 (w.alloc (.cells #[] (ρ.t 3))).drew _) (by omega) NJ gB
   (by simp only[List.nil_append,List.size_toArray,List.length_append,hl,JB,←Nat.add_mul];congr 1;omega) (by simpa using nu.more (cs':=rest) (show nu w (fun b=>M0 b∨b∈([]:List Nat)) e news x from iq) (by rw[hl];exact Nat.le_refl _))
end VM
end
