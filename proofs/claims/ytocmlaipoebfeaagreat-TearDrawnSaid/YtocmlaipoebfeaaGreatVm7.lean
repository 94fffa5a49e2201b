/- A part of the proof of TearDrawn of layer 29: a machine that reads a function of the program as an equation between values. -/
import Derived.Test.YtocmlaipoebfeaaGreatVm6
import Derived.KernelRfl
import Derived.Test.YtocmlaipoebfeaaGreatVm0
import Derived.Laws.Externs
import Derived.Shelf.Spec.SlicesInsertGrow
set_option linter.all false
section
namespace VM
open Go
@[reducible] def CM.arr:CM→Type→Type
 | .v τ,T| .obj τ,T| .io τ,T| .fn _ τ,T=>τ.den→T
 | .own e,T=>List e.den→T
 | .dP τ _ e,T=>τ.den→List e.den→T
 | .same _,T=>T
@[reducible] def Na:List (Nat×CM)→Type→Type
 |[],R=>R
 |q::r,R=>q.2.arr (Na r R)
def CM.lam{T:Type}(s:Nat)(σ:St):(m:CM)→(St→T)→m.arr T
 | .v τ,f=>fun x=>f (σ.put s (.val τ x))
 | .own e,f=>fun x=>f ((σ.put s (.ref (16*s+14))).gX (16*s+14) (some (.own e x)))
 | .obj τ,f=>fun x=>f ((σ.put s (.fD (16*s+14) [])).gX (16*s+14) (some (.obj τ x)))
 | .dP τ q e,f=>fun x l=>f (((σ.put s (.fD (16*s+14) [])).gX (16*s+13) (some (.own e l))).gX (16*s+14) (some (.dP τ x q (16*s+13))))
 | .io τ,f=>fun x=>f ((σ.put s (.fD (16*s+15) [])).gX (16*s+15) (some (.obj τ x)))
 | .fn g τ,f=>fun x=>f (σ.put s (.Eg g (lF τ x)))
 | .same s',f=>f (σ.put s (σ.T s'))
def aeH{R:Type}(κ:St→R):(L:List (Nat×CM))→St→Na L R
 |[],σ=>κ σ
 |q::r,σ=>q.2.lam q.1 σ (aeH κ r)
@[reducible] def s0:List AM→Type→Type
 |[],R=>R
 |m::r,R=>m.den→s0 r R
def A2{R:Type}:(ms:List AM)→s0 ms R→HP ms→R
 |[],g,_=>g
 |[_],g,x=>g x
 |_::n::ms,g,x=>A2 (n::ms) (g x.1) x.2
def LD{R:Type}:(ms:List AM)→(HP ms→R)→s0 ms R
 |[],f=>f ()
 |[_],f=>f
 |_::n::ms,f=>fun x=>LD (n::ms) fun y=>f (x,y)
theorem CX{R:Type}: ∀(ms:List AM) (f:HP ms→R) (x:HP ms),A2 ms (LD ms f) x=f x
 |[],_,()=>rfl
 |[_],_,_=>rfl
 |_::n::ms,f,x=>CX (n::ms) (fun y=>f (x.1,y)) x.2
structure Pc where
 k:Nat
 c:List (Nat×CM)
 path:List Nat
 ks:List Nat
def Oe:List Pc→Nat→Pc
 |[],_=>⟨0,[],[],[]⟩
 |p::r,k=>cond (Nat.beq k p.k) p (Oe r k)
def E4:List Pc→Nat→Option (List (Nat×CM))
 |[],_=>none
 |p::r,k=>cond (Nat.beq k p.k) (some p.c) (E4 r k)
def vD:List (Nat×g8)→Nat→List g8
 |[],_=>[]
 |q::r,i=>cond (Nat.beq i q.1) (q.2::vD r i) (vD r i)
def A3:List AM→Nat→List Nat
 |[],_=>[]
 | .io _::r,i=>i::A3 r (i+1)
 |_::r,i=>A3 r (i+1)
structure Fx where
 nt:Nat
 tab:List (Nat×Ty)
 G:List (Nat×g8)
 N:Nat
 fn:Func
 args:List AM
 res:List AM
 XS:List Pc
 lk:Option (Ty×List Step×Ty×List Nat):=none
namespace Fx
variable(X:Fx)
abbrev R:=Option (HP X.res)
def E:Env:={nt:=X.nt,ty:=fun i=>E3 i X.tab,Γ:=vD X.G,N:=X.N,qt:=fun r=>E4 X.XS (2*r+1),sk:=fun r=>E4 X.XS (2*r),io:=A3 X.args 0,lk:=X.lk}
@[reducible] def c(i:Nat):List (Nat×CM):=(Oe X.XS i).c
def path(i:Nat):List Nat:=(Oe X.XS i).path
def odd(i:Nat):Bool:=Nat.beq (i%2) 1
def cut(ρ:Nat→St→X.R)(l:Nat):St→X.R:=fun σ=>qx (some (X.c l)) σ (ρ l)
def ks(ρ:Nat→St→X.R)(i:Nat):List (St→X.R):=(Oe X.XS i).ks.map (X.cut ρ)
noncomputable def lp(ρ:Nat→St→X.R)(i n:Nat):St→X.R:=lpF X.E X.fn X.args X.res (X.c i) (X.path i) (X.ks ρ i) n
noncomputable def bg(ρ:Nat→St→X.R)(i:Nat):St→X.R:=cond (odd i) (X.lp ρ i X.N) (ZC X.E X.fn X.args X.res (X.path i) (X.ks ρ i))
def own(ρ:Nat→St→X.R)(i:Nat):List (St→X.R):=X.ks ρ i++cond (odd i) [X.cut ρ i] []
noncomputable def ZE(K ρ:Nat→St→X.R)(i:Nat):St→X.R:=atQ X.E X.fn X.args X.res (fun r=>K (2*r)) (fun r=>K (2*r+1)) (X.path i) (X.own ρ i)
noncomputable def tl(K ρ:Nat→St→X.R)(i:Nat):List ((St→X.R)×(St→X.R)):=qL X.E (fun r=>K (2*r)) (fun r=>K (2*r+1)) (RI X.E X.fn X.args X.res (X.path i) (X.own ρ i))
@[reducible] def cu(i:Nat)(κ:St→X.R):Na (X.c i) X.R:=aeH κ (X.c i) S0
@[reducible] noncomputable def bd(K ρ:Nat→St→X.R)(i:Nat):Na (X.c i) X.R:=X.cu i (X.ZE K ρ i)
@[reducible] def kc(ρ:Nat→St→X.R)(i:Nat):Na (X.c i) X.R:=X.cu i (ρ i)
def wN:Nat→St→X.R:=fun _ _=>none
noncomputable def top(K:Nat→St→X.R):s0 X.args X.R:=LD X.args fun x=>atQ X.E X.fn X.args X.res (fun r=>K (2*r)) (fun r=>K (2*r+1)) [] [] (entry X.args x 0 S0)
noncomputable def tlT(K:Nat→St→X.R):List ((St→X.R)×(St→X.R)):=qL X.E (fun r=>K (2*r)) (fun r=>K (2*r+1)) (RI X.E X.fn X.args X.res [] [])
noncomputable def S(q:Bool)(g:s0 X.args X.R):g8:={args:=X.args,res:=X.res,quiet:=q,run:=A2 X.args g}
variable{X}
theorem RJ(f:Nat→St→X.R): ∀nG:List Nat,LB (nG.map fun t=>(f t,f t))
 |[]=>trivial
 |_::r=>⟨rfl,RJ f r⟩
theorem okJ{i:Nat}(nG:List Nat)(hi:odd i=false)(hr: ∀K ρ,X.tl K ρ i=nG.map fun t=>(K t,X.bg ρ t)){g:(Nat→St→X.R)→(Nat→St→X.R)→Na (X.c i) X.R}(h: ∀K ρ,X.bd K ρ i=g K ρ)(ρ:Nat→St→X.R):X.kc (X.bg ρ) i=g (X.bg ρ) ρ:=by
 rw[←h]
 have:X.bg ρ i=X.ZE (X.bg ρ) ρ i:=by
  funext σ
  have h1:=hr (X.bg ρ) ρ
  unfold tl own at h1
  rw[hi,cond_false,List.append_nil]at h1
  unfold ZE own
  rw[hi,cond_false,List.append_nil]
  rw[←at_eq X.E X.fn X.args X.res h1 (RJ (X.bg ρ) nG) σ]
  unfold bg;rw[hi];rfl
 unfold kc bd
 rw[this]
def okb(X:Fx)(i:Nat):Bool:=odd i&&(Oe X.XS i).ks.all fun l=> !(Nat.beq l i)
theorem okL{i:Nat}(nG:List Nat)(hi:okb X i=true)(hr: ∀K ρ,X.tl K ρ i=nG.map fun t=>(K t,X.bg ρ t)){g:(Nat→St→X.R)→(Nat→St→X.R)→Na (X.c i) X.R}(h: ∀K ρ,X.bd K ρ i=g K ρ)(ρ:Nat→St→X.R)
  (G:Nat→Na (X.c i) X.R) (h0:X.cu i (fun _=>none)=G 0) (hs: ∀n ρ',X.kc ρ' i=G n→(∀l,Nat.beq l i=false→X.kc ρ' l=X.kc ρ l)→g (X.bg ρ') ρ'=G (n+1)):X.kc (X.bg ρ) i=G X.N:=by
 unfold okb at hi
 rw[Bool.and_eq_true]at hi
 obtain⟨hi,hk⟩:=hi
 have key: ∀n,X.cu i (X.lp ρ i n)=G n:=by
  intro n
  induction n with
  |zero=>exact h0
  |succ n ih=>
   let ρ':Nat→St→X.R:=fun l=>cond (Nat.beq l i) (X.lp ρ i n) (ρ l)
   have e1:ρ' i=X.lp ρ i n:=by show cond (Nat.beq i i) _ _=_;rw[Nat.beq_refl];rfl
   have e2: ∀l,Nat.beq l i=false→ρ' l=ρ l:=fun l hl=>by show cond (Nat.beq l i) _ _=_;rw[hl];rfl
   rw[←hs n ρ' (by unfold kc;rw[e1];exact ih) (fun l hl=>by unfold kc;rw[e2 l hl]),←h]
   have e3:X.ks ρ' i=X.ks ρ i:=by
    unfold ks
    refine List.map_congr_left fun l hl=> ?_
    have:=List.all_eq_true.1 hk l hl
    unfold cut
    rw[e2 l (by simpa using this)]
   have:X.lp ρ i (n+1)=X.ZE (X.bg ρ') ρ' i:=by
    funext σ
    have h1:=hr (X.bg ρ') ρ'
    unfold tl own at h1
    rw[hi,cond_true]at h1
    unfold ZE own
    rw[hi,cond_true]
    rw[←at_eq X.E X.fn X.args X.res h1 (RJ (X.bg ρ') nG) σ]
    unfold lp
    rw[Oa,e3]
    unfold cut
    rw[e1];rfl
   unfold bd
   rw[this]
 have:X.bg ρ i=X.lp ρ i X.N:=by unfold bg;rw[hi];rfl
 unfold kc
 rw[this];exact key _
def CY(P:Program):List (Nat×g8)→Prop
 |[]=>True
 |q::r=>eQ P q.1 q.2∧CY P r
structure _root_.VM.Kn(P:Program) where
 f:Nat
 S:g8
 ok:eQ P f S
def _root_.VM.Kn.p{P:Program}(k:Kn P):Nat×g8:=(k.f,k.S)
def _root_.VM.Kn.l{P:Program}:List (Kn P)→List (Nat×g8)
 |[]=>[]
 |k::r=>k.p::Kn.l r
theorem _root_.VM.Kn.all{P:Program}: ∀l:List (Kn P),CY P (Kn.l l)
 |[]=>trivial
 |k::r=>⟨k.ok,Kn.all r⟩
theorem vE{P:Program}: ∀{l:List (Nat×g8)},CY P l→ ∀f S,S∈vD l f→eQ P f S
 |[],_,f,S,h=>by simp[vD]at h
 |q::r,ha,f,S,h=>by
  unfold vD at h
  cases hb:Nat.beq f q.1<;>rw[hb]at h
  ·exact vE ha.2 f S h
  ·rcases List.mem_cons.1 h with rfl|h
   ·rw[Nat.eq_of_beq_eq_true hb];exact ha.1
   ·exact vE ha.2 f S h
theorem y7: ∀{l:List Pc},(l.all fun p=>gd p.c)=true→ ∀i L,E4 l i=some L→gd L=true
 |q::r,ha,i,L,h=>by
  rw[List.all_cons,Bool.and_eq_true]at ha
  unfold E4 at h
  cases hb:Nat.beq i q.k<;>rw[hb]at h
  ·exact y7 ha.2 i L h
  ·cases h;exact ha.1
def ZF(X:Fx)(q:Bool):Bool:=(X.XS.all fun p=>gd p.c)&&((!(X.fn.name== "runtime.NumGoroutine")&&Nat.beq X.nt X.fn.ntmps)&&(X.fn.body.isSome&&(Nat.ble X.args.length X.nt&&((!q||X.res.all AM.flat)&&decide (kG X.args=kG X.res)))))
theorem E5: ∀{ms:List AM} {k i:Nat} {m:AM},ms[i]? =some m→m.fG=true→k+i∈A3 ms k
 |[],_,_,_,h,_=>by simp at h
 |m::ms,k,0,m',h,rC=>by
  simp only[List.getElem?_cons_zero,Option.some.injEq]at h
  subst h
  cases m<;>simp[AM.fG]at rC
  simp[A3]
 |m::ms,k,i+1,m',h,rC=>by
  have:=E5 (ms:=ms) (k:=k+1) (i:=i) (by simpa using h) rC
  rw[show k+(i+1)=k+1+i from by omega]
  cases m<;>simp only[A3]<;>first|exact List.mem_cons_of_mem _ this|exact this
theorem Kc: ∀{ms:List AM} {k i:Nat},i∈A3 ms k→i<k+ms.length
 |[],_,_,h=>by simp[A3]at h
 |m::ms,k,i,h=>by
  have hr:i∈A3 ms (k+1)→i<k+(m::ms).length:=fun h=>by have:=Kc h;simp only[List.length_cons];omega
  cases m<;>simp only[A3]at h<;>first
   |exact hr h
   |(rcases List.mem_cons.1 h with rfl|h<;>first|exact hr h|(simp only[List.length_cons];omega))
variable(X)in
theorem E6{P:Program}(ht:y6 P X.tab)(hG:CY P X.G)(hc:(X.XS.all fun p=>gd p.c)=true):nW P X.E:=by
 have jo: ∀t τ,E3 t X.tab=some τ→oL P τ (.inl t)=true∧RG P τ t=true:=fun t τ h=>by
  have:=List.all_eq_true.1 ht.ok _ (BF h)
  simpa using this
 exact{ty:=fun t τ h=>eo (jo t τ h).1,eq:=fun t τ h hc ha=>RH (eo (jo t τ h).1) (jo t τ h).2 hc ha,aei:=vE hG,mixed:=ht.mixed,gd:=fun i L h=>y7 hc _ L h,NL:=fun i L h=>y7 hc _ L h}
theorem mkS{P:Program}(ht:y6 P X.tab){f:FuncId}(hf:P.funcs[f]? =some X.fn){q:Bool}(hc:ZF X q=true)(hG:CY P X.G){g:s0 X.args X.R}(h: ∀x,Eo X.E X.fn X.args X.res x=A2 X.args g x):eQ P f (X.S q g):=by
 unfold ZF at hc
 simp only[Bool.and_eq_true]at hc
 obtain⟨h0,⟨h1,h2⟩,h3,h4,h5,h6⟩:=hc
 refine N2 (E6 X ht hG h0) hf (by simpa using h1) (Nat.eq_of_beq_eq_true h2) (X.S q g) (fun i m hm rC=> ?_) (fun i hi=> ?_) ?_ (fun hq=> ?_) (of_decide_eq_true h6) h
 ·have:=E5 (k:=0) hm rC
  rwa [Nat.zero_add]at this
 ·have:=Kc (k:=0) hi
  rwa [Nat.zero_add]at this
 ·have:=Nat.le_of_ble_eq_true h4
  rwa [Nat.eq_of_beq_eq_true h2]at this
 ·have hq:q=true:=hq
  subst hq
  show X.res.all AM.flat=true
  simpa using h5
theorem RK{g:s0 X.args X.R}(h:LD X.args (Eo X.E X.fn X.args X.res)=g)(x:HP X.args):Eo X.E X.fn X.args X.res x=A2 X.args g x:=by rw[←h,CX]
variable(X)in
theorem ok0{P:Program}(ht:y6 P X.tab){f:FuncId}(hf:P.funcs[f]? =some X.fn){q:Bool}(hc:ZF X q=true)(hG:CY P X.G){g:s0 X.args X.R}(h:LD X.args (Eo X.E X.fn X.args X.res)=g):eQ P f (X.S q g):=
 mkS ht hf hc hG (RK h)
theorem aeI(hb:X.fn.body.isSome=true)(nG:List Nat)(hr: ∀K,X.tlT K=nG.map fun t=>(K t,X.bg X.wN t))
  {g:(Nat→St→X.R)→s0 X.args X.R} (h: ∀K,X.top K=g K) {f:s0 X.args X.R} (hf:g (X.bg X.wN)=f) (x:HP X.args):Eo X.E X.fn X.args X.res x=A2 X.args f x:=by
 rw[←hf,←h,ZD hb]
 unfold top
 rw[CX]
 exact at_eq X.E X.fn X.args X.res (hr (X.bg X.wN)) (RJ (X.bg X.wN) nG) _
variable(X)in
theorem ok1{P:Program}(ht:y6 P X.tab){f:FuncId}(hf:P.funcs[f]? =some X.fn){q:Bool}(hc:ZF X q=true)(hG:CY P X.G)(nG:List Nat)(hr: ∀K,X.tlT K=nG.map fun t=>(K t,X.bg X.wN t))
  {g:(Nat→St→X.R)→s0 X.args X.R} (h: ∀K,X.top K=g K) {f':s0 X.args X.R} (xk:g (X.bg X.wN)=f'):eQ P f (X.S q f'):=by
 have hb:X.fn.body.isSome=true:=by
  unfold ZF at hc
  simp only[Bool.and_eq_true]at hc
  exact hc.2.2.1
 exact mkS ht hf hc hG (aeI hb nG hr h xk)
theorem uJ{i:Nat}(nG:List Nat){g:(Nat→St→X.R)→(Nat→St→X.R)→Na (X.c i) X.R}(h: ∀K ρ,X.bd K ρ i=g K ρ)(ρ:Nat→St→X.R){f:Na (X.c i) X.R}(hf:g (X.bg ρ) ρ=f:=by rfl)
 (hi:odd i=false:=by kernel_rfl) (hr: ∀K ρ,X.tl K ρ i=nG.map fun t=>(K t,X.bg ρ t):=by intro K ρ;kernel_rfl):X.kc (X.bg ρ) i=f:=(okJ nG hi hr h ρ).trans hf
theorem uL{i:Nat}(nG:List Nat){g:(Nat→St→X.R)→(Nat→St→X.R)→Na (X.c i) X.R}(h: ∀K ρ,X.bd K ρ i=g K ρ)(ρ:Nat→St→X.R)
 (G:Nat→Na (X.c i) X.R) (hs: ∀n ρ',X.kc ρ' i=G n→(∀l,Nat.beq l i=false→X.kc ρ' l=X.kc ρ l)→g (X.bg ρ') ρ'=G (n+1)) (h0:X.cu i (fun _=>none)=G 0:=by rfl)
 (hi:okb X i=true:=by kernel_rfl) (hr: ∀K ρ,X.tl K ρ i=nG.map fun t=>(K t,X.bg ρ t):=by intro K ρ;kernel_rfl):X.kc (X.bg ρ) i=G X.N:=okL nG hi hr h ρ G h0 hs
variable(X)in
theorem u0{P:Program}(ht:y6 P X.tab){f:FuncId}(hf:P.funcs[f]? =some X.fn){q:Bool}{g:s0 X.args X.R}(hG:CY P X.G:=by first|exact trivial|exact Kn.all _)(hc:ZF X q=true:=by kernel_rfl)(h:LD X.args (Eo X.E X.fn X.args X.res)=g:=by kernel_rfl):eQ P f (X.S q g):=ok0 X ht hf hc hG h
variable(X)in
theorem u1{P:Program}(ht:y6 P X.tab){f:FuncId}(hf:P.funcs[f]? =some X.fn)(nG:List Nat)
 {g:(Nat→St→X.R)→s0 X.args X.R} (h: ∀K,X.top K=g K) {q:Bool} {f':s0 X.args X.R} (xk:g (X.bg X.wN)=f':=by rfl) (hG:CY P X.G:=by first|exact trivial|exact Kn.all _) (hc:ZF X q=true:=by kernel_rfl) (hr: ∀K,X.tlT K=nG.map fun t=>(K t,X.bg X.wN t):=by intro K;kernel_rfl):eQ P f (X.S q f'):=ok1 X ht hf hc hG nG hr h xk
end Fx
end VM
end
section
namespace VM
open Go
variable{P:Program}
theorem Left.same(w:World)(M0:Nat→Prop)(h: ∀b,M0 b→b<w.heap.size):Left w M0 [] w M0:=
 ⟨fun _ h=>h,h,fun _ _ h=> .inl h,fun _ _ _=>rfl,Nat.le_refl _,rfl,rfl,rfl⟩
theorem aeJ{w:World}{M:Nat→Prop}{a b c:IntKind}{x:HP [.v (.int a),.v (.int b),.v (.int c)]}{vs:List Value}(h:fR w M [.v (.int a),.v (.int b),.v (.int c)] x vs):vs=[.int a x.1,.int b x.2.1,.int c x.2.2]:=by
 simp only[fR,A1,V,Ty.isAgg,Bool.false_eq_true,if_false,Rd,List.cons.injEq,and_true]at h
 obtain⟨v,vs,rfl,rfl,v,vs,rfl,rfl,v,vs,rfl,rfl,rfl⟩:=h
 rfl
theorem rr2{w:World}{M:Nat→Prop}{a b:IntKind}(x y:Int):RR w M [.v (.int a),.v (.int b)] (x,y) [.int a x,.int b y] []:=by
 simp only[RR]
 refine .inr ⟨_,_,rfl,rfl,rfl,?_,.inr ⟨_,_,rfl,rfl,rfl,?_,rfl,trivial⟩⟩<;>simp[A1,V,Ty.isAgg,Rd,qn,vj]
theorem Kd{f:FuncId}(run:Int×Int×Int→Option (Int×Int))
  (h: ∀(w:World) (a b c u v:Int),run (a,b,c)=some (u,v)→(callFunc f #[.int .u64 a,.int .u64 b,.int .u64 c]).run P w= .ok (.value (.tuple #[.int .u64 u,.int .u64 v])) w):
  eQ P f {args:=[.v (.int .u64),.v (.int .u64),.v (.int .u64)],res:=[.v (.int .u64),.v (.int .u64)],quiet:=true,run}:=by
 refine⟨fun _=>rfl,rfl,fun M0 w vs x y nF hA _ _ hy=> ?_⟩
 have Rg:=aeJ hA
 subst Rg
 exact AV (h w x.1 x.2.1 x.2.2 y.1 y.2 hy) ⟨_,M0,rfl,rr2 y.1 y.2,Left.same w M0 nF,List.nodup_nil,fun b hb=>by cases hb⟩
theorem vF(nm:String)(a b c:Nat)(h:c≤1)(w:World):(Extern.MathBitsCarry.three nm #[.int .u64 a,.int .u64 b,.int .u64 c]).run P w= .ok (a,b,c) w:=by
 have h5: ¬(1<c):=by omega
 have:Extern.MathBitsCarry.three nm #[.int .u64 a,.int .u64 b,.int .u64 c]=(do
  let c:=(←asInt (.int .u64 c)).toNat
  if c>1 then unsupported (.noEntry ("extern/math/bits." ++nm++ ": a carry that is neither 0 nor 1"))
  pure ((←asInt (.int .u64 a)).toNat,(←asInt (.int .u64 b)).toNat,c)):=rfl
 rw[this]
 simp[asInt,asIntOf]
 omega
theorem LF{f:FuncId}{fn:Func}(N:Nat)(hf:P.funcs[f]? =some fn)(ub:(fn.name== "runtime.NumGoroutine")=false)(hb:fn.body.isNone=true)(hn:Extern.findNext fn=none)
  (he:Extern.find fn=(Extern.MathBitsCarry.rows[0]?).map (·.2)):eQ P f (pX.S N):=by
 refine Kd (fun x=>pX N x.1 x.2.1 x.2.2) fun w a b c u v hy=> ?_
 simp only[pX]at hy
 split at hy
 ·rename_i hc
  obtain⟨h1,h2,h3,h4⟩:=hc
  obtain⟨a,rfl⟩:=Int.eq_ofNat_of_zero_le h1
  obtain⟨b,rfl⟩:=Int.eq_ofNat_of_zero_le h2
  obtain⟨c,rfl⟩:=Int.eq_ofNat_of_zero_le h3
  cases hy
  rw[run_callFunc_extern hf ub hb hn he]
  simp[vF _ a b c (by omega),Extern.MathBitsCarry.pair,Extern.MathBitsCarry.m64]
 ·cases hy
theorem LG{f:FuncId}{fn:Func}(N:Nat)(hf:P.funcs[f]? =some fn)(ub:(fn.name== "runtime.NumGoroutine")=false)(hb:fn.body.isNone=true)(hn:Extern.findNext fn=none)
  (he:Extern.find fn=(Extern.MathBitsCarry.rows[1]?).map (·.2)):eQ P f (pY.S N):=by
 refine Kd (fun x=>pY N x.1 x.2.1 x.2.2) fun w a b c u v hy=> ?_
 simp only[pY]at hy
 split at hy
 ·rename_i hc
  obtain⟨h1,lO,h2,sH,h3,h4⟩:=hc
  obtain⟨a,rfl⟩:=Int.eq_ofNat_of_zero_le h1
  obtain⟨b,rfl⟩:=Int.eq_ofNat_of_zero_le h2
  obtain⟨c,rfl⟩:=Int.eq_ofNat_of_zero_le h3
  cases hy
  rw[run_callFunc_extern hf ub hb hn he]
  have e1:((a+18446744073709551616-b-c:Nat):Int)=(a:Int)+18446744073709551616-b-c:=by omega
  by_cases h:a<b+c
  ·have h':(a:Int)<(b:Int)+(c:Int):=by omega
   simp[vF _ a b c (by omega),Extern.MathBitsCarry.pair,Extern.MathBitsCarry.m64,e1,h,h']
  ·have h': ¬(a:Int)<(b:Int)+(c:Int):=by omega
   simp[vF _ a b c (by omega),Extern.MathBitsCarry.pair,Extern.MathBitsCarry.m64,e1,h,h']
 ·cases hy
end VM
end
section
namespace VM
open Go Go.Shelf Go.RowKit Go.Lib Go.Proofs
variable{P:Program}{ρ:Ren}
noncomputable def Of(ρ:Ren)(fn:Func):Func:={fn with body:=(Body2.n22 ρ).body,ntmps:=95,results:=(Body2.n22 ρ).results,nfree:=0}
theorem qM(ρ:Ren)(fn:Func):(Of ρ fn).ntmps=95:=rfl
structure IA(P:Program)(e:Ty)(ρ:Ren)(f:FuncId)(fn fo:Func):Prop where
 hf:P.funcs[f]? =some (Of ρ fn)
 t3:P.underlying (ρ.t 3)=some (.int .i64)
 t4:P.underlying (ρ.t 4)=some .bool
 t24:P.underlying (ρ.t 24)=some (.slice (ρ.t 9))
 lay:gA P e (ρ.t 9)
 lH:0<e.size
 mixed:P.follows .mixedOrders=true
set_option maxHeartbeats 4000000 in
set_option maxRecDepth 100000 in
theorem CZ{e:Ty}{f:FuncId}{fn fo:Func}(L:IA P e ρ f fn fo)(w:World)(base:Option Addr)(n c m vc:Nat)(va:Addr)(v':Value)(w':World)(hm:0<m)(hn:n≤c)
  (EL: ∀ty,(Builtin.append_ #[ρ.t 24,ρ.t 24] ty #[.slice base n c,.slice (some va) m vc]).run P w= .ok v' w'):
   Calls P f #[.slice base n c,.int .i64 n,.slice (some va) m vc] w fun r w2=>r= .returned v'∧w2=w':=by
 have u3:=run_underlying L.t3;have u4:=run_underlying L.t4;have u24:=run_underlying L.t24
 have t3:=L.t3;have t4:=L.t4;have t24:=L.t24
 have z9:=fun w=>b7 L.lay w
 have mixed:=L.mixed
 have ya: ¬((m:Int)=0):=by omega
 go_enter L.hf,qM ρ fn
 cases base with
 |none=>
   go_wp2_with (at_builtin;refine Lib.wpList_append_run _ rfl _ _ _ _ rfl _ _ rfl rfl _ _ (EL _) ?_)
   all_goals (go_ret;exact⟨rfl,rfl⟩)
 |some a=>
   obtain⟨ab,ao,asp⟩:=a
   go_wp2_with (at_builtin;refine Lib.wpList_append_run _ rfl _ _ _ _ rfl _ _ rfl rfl _ _ (EL _) ?_)
   all_goals (go_ret;exact⟨rfl,rfl⟩)
theorem run_copy_row{t te e:TypeId}{k:Nat}(ht:P.underlying t=some (.slice e))(hk: ∀w,(Go.sizeOf e).run P w= .ok k w){W:World}{b o aeK akb ZG aeL n:Nat}{a:Addr}{cs:Array Value}(hg:W.heap[b]? =some (.cells cs te (0,0)))
  {news:List Value} (hnn:Nat.min ZG aeK=n) (hl:news.length=n*k) (hn: ∀j u,news[j]? =some u→W.cell? (a.add j)=some u) (h1: ∀u∈news,u.oneCell'=true) (EF:o+news.length≤cs.size) (ty:TypeId):
  (Builtin.copy_ #[t,t] ty #[.slice (some ⟨b,o,none⟩) aeK akb,.slice (some a) ZG aeL]).run P W= .ok (goInt n) (W.setRow b (dj cs.toList o news).toArray):=by
 have hf:=run_firstCells_some (P:=P) W k n a ZG aeL news hl hn
 have HO:=run_storeCells_at (P:=P) b o te news 0 cs W hg (by omega) h1
 simp only[Nat.add_zero]at HO
 simp[Builtin.copy_,run_underlying ht,hk,Builtin.lenOf,hnn,hf,HO,dj]
set_option maxHeartbeats 4000000 in
set_option maxRecDepth 100000 in
theorem LH{e:Ty}{f:FuncId}{fn fo:Func}(L:IA P e ρ f fn fo)(w:World)(b n c i m vc:Nat)(va:Addr)(C0 Og:Array Value)(hi:i<n)(hm:0<m)(hr:n+m≤c)(akc:c≤9223372036854775807)
  (hov: ∀x lb cb,(callFunc (ρ.f 29) #[.slice (some va) m vc,.slice (some ⟨b,x,none⟩) lb cb]).run P w= .ok (.value (.bool false)) w)
  (RL: ∀ty dc sc,(Builtin.copy_ #[(ρ.t 24),(ρ.t 24)] ty #[.slice (some ⟨b,(i+m)*e.size,none⟩) (n+m-(i+m)) dc,.slice (some ⟨b,i*e.size,none⟩) (n+m-i) sc]).run P w.drew= .ok (goInt ((n-i:Nat):Int)) (w.drew.setRow b C0))
  (RM: ∀W:World,W.heap=(w.setRow b C0).heap→ ∀ty dc,(Builtin.copy_ #[(ρ.t 24),(ρ.t 24)] ty #[.slice (some ⟨b,i*e.size,none⟩) (n+m-i) dc,.slice (some va) m vc]).run P W= .ok (goInt m) (W.setRow b Og)):
   Calls P f #[.slice (some ⟨b,0,none⟩) n c,.int .i64 i,.slice (some va) m vc] w fun r w2=>r= .returned (.slice (some ⟨b,0,none⟩) (n+m) c)∧w2=(w.drew.setRow b C0).setRow b Og:=by
 have u3:=run_underlying L.t3;have u4:=run_underlying L.t4;have u24:=run_underlying L.t24
 have t3:=L.t3;have t4:=L.t4;have t24:=L.t24
 have z9:=fun w=>b7 L.lay w
 have mixed:=L.mixed
 have ya: ¬((m:Int)=0):=by omega
 have H4: ¬((i:Int)=(n:Int)):=by omega
 have hw1:IntKind.i64.wrap ((i:Int)+(m:Int))=(i:Int)+(m:Int):=by rw[IntKind.wrap_i64];omega
 have jI:(0:Int)≤(i:Int)+(m:Int):=by omega
 have jZ:i≤n:=by omega
 have Lw:((i:Int)+(m:Int)).toNat=i+m:=by omega
 have so: ¬(c=i+m):=by omega
 have hb3:(i:Int)≤(n:Int)+(m:Int):=by omega
 have hb4: ¬(c=i):=by omega
 go_enter L.hf,qM ρ fn
 go_wp2_with (simp only[hov])
 go_region_law_o (refine step_copy_runI rfl _ _ (ρ.t 24) (ρ.t 24) rfl _ _ (by simp[Act.eval,Act.put]) (by simp[Act.eval,Act.put]) (RL _ _ _) ?_)
 have h2:=RM (w.drew.setRow b C0) rfl
 go_wp2
 go_ret
 exact⟨rfl,rfl⟩
set_option maxHeartbeats 4000000 in
set_option maxRecDepth 100000 in
theorem Oh{e:Ty}{f:FuncId}{fn fo:Func}(L:IA P e ρ f fn fo)(w:World)(b n c i m vc nb G:Nat)(va:Addr)(LJ C0 Og:Array Value)(hi:i<n)(hm:0<m)(hnc:n≤c)(hr:c<n+m)(akc:c≤9223372036854775807)(XK:n+m≤9223372036854775807)(hG:n+m≤G)(ark:G≤9223372036854775807)
  (EL: ∀ty,(Builtin.append_ #[(ρ.t 24),(ρ.t 3)] ty #[.slice (some ⟨b,0,none⟩) i c,.int .i64 ((n:Int)+(m:Int)-(i:Int))]).run P w= .ok (.slice (some ⟨w.heap.size,0,none⟩) (n+m) G) (w.drew.alloc (.cells LJ (ρ.t 9))))
  (RL: ∀W:World,W.heap=(w.alloc (.cells LJ (ρ.t 9))).heap→ ∀ty dc,(Builtin.copy_ #[(ρ.t 24),(ρ.t 24)] ty #[.slice (some ⟨w.heap.size,i*e.size,none⟩) (n+m-i) dc,.slice (some va) m vc]).run P W= .ok (goInt m) (W.setRow w.heap.size C0))
  (RM: ∀W:World,W.heap=((w.alloc (.cells LJ (ρ.t 9))).setRow w.heap.size C0).heap→ ∀ty dc sc,(Builtin.copy_ #[(ρ.t 24),(ρ.t 24)] ty #[.slice (some ⟨w.heap.size,(i+m)*e.size,none⟩) (n+m-(i+m)) dc,.slice (some ⟨b,i*e.size,none⟩) (n-i) sc]).run P W= .ok (goInt ((n-i:Nat):Int)) (W.setRow w.heap.size Og)):
   Calls P f #[.slice (some ⟨b,0,none⟩) n c,.int .i64 i,.slice (some va) m vc] w fun r w2=>r= .returned (.slice (some ⟨w.heap.size,0,none⟩) (n+m) G)∧w2=((w.drew.alloc (.cells LJ (ρ.t 9))).setRow w.heap.size C0).drew.setRow w.heap.size Og:=by
 have u3:=run_underlying L.t3;have u4:=run_underlying L.t4;have u24:=run_underlying L.t24
 have t3:=L.t3;have t4:=L.t4;have t24:=L.t24
 have z9:=fun w=>b7 L.lay w
 have mixed:=L.mixed
 have ya: ¬((m:Int)=0):=by omega
 have H4: ¬((i:Int)=(n:Int)):=by omega
 have hz3:(c:Int)<(n:Int)+(m:Int):=by omega
 have hw1:IntKind.i64.wrap ((i:Int)+(m:Int))=(i:Int)+(m:Int):=by rw[IntKind.wrap_i64];omega
 have jI:(0:Int)≤(i:Int)+(m:Int):=by omega
 have jZ:i≤n:=by omega
 have Lw:((i:Int)+(m:Int)).toNat=i+m:=by omega
 have hGi: ¬(G=i):=by omega
 have arl: ¬(G=i+m):=by omega
 have hci: ¬(c=i):=by omega
 have hb3:(i:Int)≤(n:Int):=by omega
 have h1:=RL ((w.alloc (.cells LJ (ρ.t 9))).drew) rfl
 have h2:=RM (((w.alloc (.cells LJ (ρ.t 9))).drew.setRow w.heap.size C0).drew) rfl
 go_enter L.hf,qM ρ fn
 go_wp2_with (first
   |(at_builtin;refine Lib.wpList_append_run _ rfl _ _ _ _ rfl _ _ rfl rfl _ _ (EL _) ?_)
   |(at_builtin;refine wpList_copy_runI _ rfl _ _ (ρ.t 24) (ρ.t 24) rfl _ _ rfl rfl (RL _ (by exact rfl) _ _) ?_)
   |(at_builtin;refine wpList_copy_runI _ rfl _ _ (ρ.t 24) (ρ.t 24) rfl _ _ rfl rfl (RM _ (by exact rfl) _ _ _) ?_))
 go_region_law_o (refine step_copy_runI rfl _ _ (ρ.t 24) (ρ.t 24) rfl _ _ (by simp[Act.eval,Act.put]) (by simp[Act.eval,Act.put]) (h2 _ _ _) ?_)
 go_wp2
 go_ret
 exact⟨rfl,rfl⟩
theorem yd{α:Type}(A Z news:List α):dj (A++Z) A.length news=A++(news++Z.drop news.length):=by
 unfold dj
 rw[List.take_left' rfl,List.append_assoc,←List.drop_drop,List.drop_left' rfl]
theorem mE.aeM{w:World}{M:Nat→Prop}{e:Ty}{cs:List Value}{l:List e.den}(h:mE w M e cs l)(i:Nat):mE w M e (cs.take (i*e.size)) (l.take i):=by
 intro j hj
 rw[List.length_take]at hj
 have:=cS (s:=e.size) (show j<i by omega)
 rw[List.drop_take,List.take_take,Nat.min_eq_left (by omega),List.getElem_take]
 exact h j (by omega)
theorem mE.aeN{w:World}{M:Nat→Prop}{e:Ty}{cs:List Value}{l:List e.den}(h:mE w M e cs l)(i:Nat):mE w M e ((cs.drop (i*e.size)).take ((l.length-i)*e.size)) (l.drop i):=by
 intro j hj
 rw[List.length_drop]at hj
 have:=cS (s:=e.size) hj
 rw[List.drop_take,List.take_take,Nat.min_eq_left (by omega),List.drop_drop,List.getElem_drop,←Nat.add_mul]
 exact h (i+j) (by omega)
theorem rF{w w':World}{M0:Nat→Prop}{hs:List Nat}{e:Ty}{rb cap:Nat}{row:Array Value}{t:TypeId}{l:List e.den}(nF: ∀b,M0 b→b<w.heap.size)(qJ: ∀b∈hs,¬M0 b)
  (XM: ∀b,b<w.heap.size→b∉hs→w'.heap[b]? =w.heap[b]?) (nU:w.heap.size≤w'.heap.size) (hrb:rb<w.heap.size→rb∈hs) (hos:w'.os=w.os) (htp:w'.tape=w.tape) (Ip:w'.output=w.output)
  (Iq:w'.heap[rb]? =some (.cells row t (0,0))) (h0:0<cap) (hl:l.length≤cap) (hm:cap≤maxLen) (hrs:row.size=cap*e.size) (gV:mE w (fun b=>M0 b∨b∈hs) e row.toList l):
  ∃us M',Value.slice (some ⟨rb,0,none⟩) l.length cap=qF us∧RR w' M' [.own e] l us []∧Left w M0 hs w' M'∧(a8 [.own e] us []).Nodup∧ ∀b∈a8 [.own e] us [],¬M0 b:=by
 have HQ:rb<w'.heap.size:=(Array.getElem?_eq_some_iff.1 Iq).1
 have hk:di w (fun b=>M0 b∨b∈hs) w' (fun b=>M0 b∨b=rb):=⟨nU,fun b hb hn=>XM b hb (fun h=>hn (.inr h)),fun b hb h=>h.elim .inl (fun e=> .inr (e▸hrb (e▸hb)))⟩
 have sm:a8 [.own e] [Value.slice (some ⟨rb,0,none⟩) l.length cap] []=[rb]:=by
  have:cap≠0:=by omega
  simp[a8,ct,AM.fG,ej,this]
 refine⟨[.slice (some ⟨rb,0,none⟩) l.length cap],fun b=>M0 b∨b=rb,rfl,?_,?_,?_,?_⟩
 ·simp only[RR]
  refine .inr ⟨_,[],rfl,rfl,rfl,?_,rfl,trivial⟩
  simp only[A1,ER,qn]
  exact .inr ⟨rb,row,t,cap,rfl,Iq,.inr rfl,h0,hl,hm,hrs,gV.bs hk⟩
 ·exact⟨fun b h=> .inl h,fun b h=>h.elim (fun h=>Nat.lt_of_lt_of_le (nF b h) nU) (fun h=>h▸HQ),fun b hb h=>h.elim .inl (fun e=> .inr (e▸hrb (e▸hb))),XM,nU,hos,htp,Ip⟩
 ·rw[sm];simp
 ·rw[sm]
  intro b hb h
  rw[List.mem_singleton]at hb
  subst hb
  exact qJ b (hrb (nF b h)) h
theorem setRow_other(w:World){b c:Nat}(r:Array Value)(h:c≠b):(w.setRow b r).heap[c]? =w.heap[c]? :=by
 unfold World.setRow
 rw[Array.getElem?_modify,if_neg (fun e=>h e.symm)]
theorem setRow_size(w:World)(b:Nat)(r:Array Value):(w.setRow b r).heap.size=w.heap.size:=by
 unfold World.setRow;simp
theorem alloc_old(w:World)(o:Obj){c:Nat}(h:c<w.heap.size):(w.alloc o).heap[c]? =w.heap[c]? :=by
 show(w.heap.push o)[c]? =_
 rw[Array.getElem?_push,if_neg (by omega)]
theorem mi(w:World)(o:Obj):(w.alloc o).heap[w.heap.size]? =some o:=by
 show(w.heap.push o)[w.heap.size]? =_
 simp
theorem kb(w:World)(o:Obj):(w.alloc o).heap.size=w.heap.size+1:=by
 show(w.heap.push o).size=_
 simp
theorem pg{w:World}{b:Nat}{cs:Array Value}{t:TypeId}{f:Nat×Nat}(h:w.heap[b]? =some (.cells cs t f))(o n:Nat): ∀j u,((cs.toList.drop o).take n)[j]? =some u→w.cell? ((⟨b,o,none⟩:Addr).add j)=some u:=by
 intro j u hj
 rw[Addr.add_lit]
 rw[List.getElem?_take]at hj
 split at hj
 ·rw[List.getElem?_drop,Array.getElem?_toList]at hj
  simp only[World.cell?,h]
  simpa using hj
 ·cases hj
theorem Ke{w:World}{M:Nat→Prop}{v:Value}{e:Ty}{l:List e.den}(h:ER w M v (.own e l)):(l=[]∧ ∃a,v= .slice a 0 0)∨
 ∃b cs t cap,v= .slice (some ⟨b,0,none⟩) l.length cap∧w.heap[b]? =some (.cells cs t (0,0))∧M b∧0<cap∧l.length≤cap∧cap≤maxLen∧cs.size=cap*e.size∧mE w M e cs.toList l:=h
end VM
end
section
namespace VM
open Go Go.Shelf Go.RowKit Go.Lib Go.Proofs
variable{P:Program}{ρ:Ren}
theorem y8{w:World}{t e':TypeId}{e:Ty}(hu:P.underlying t=some (.slice e'))(hle:gA P e e'){n m cap cp:Nat}{olds news:List Value}{base:Option Addr}{a':Addr}(NG:base=none→n=0∧cap=0)
  (xv:olds.length=n*e.size) (ho: ∀b,base=some b→ ∀j u,olds[j]? =some u→w.cell? (b.add j)=some u) (QM:news.length=m*e.size) (hn: ∀j u,news[j]? =some u→w.cell? (a'.add j)=some u)
  (hg:cap<n+m) (hs:n+m<tx):
  ∃jq rest,(∀ty,(Builtin.append_ #[t,t] ty #[.slice base n cap,.slice (some a') m cp]).run P w= .ok (.slice (some ⟨w.heap.size,0,none⟩) (n+m) jq) (w.drew.alloc (.cells (olds++news++rest).toArray e')))∧
   n+m≤jq∧jq≤maxLen∧rest.length=(jq-(n+m))*e.size:=by
 obtain⟨i,hi,nU,hz,Za⟩:=hle.base
 have hzs:(bF e e.b9).cells.size=e.size:=by rw[←Array.length_toList,eC,ky]
 have XK:n+m≤maxLen:=by simp only[tx,maxLen]at hs ⊢;omega
 have EF:(n+m)*i.bytes≤140737488355328:=by
  have:(n+m)*i.bytes≤68719476736*2048:=Nat.mul_le_mul (by simp only[tx]at hs;omega) Za
  omega
 refine⟨grownCap w (n+m) cap e',(Builtin.zeroCells (bF e e.b9).cells (grownCap w (n+m) cap e'-(n+m))).toList,fun ty=> ?_,grownCap_ge _ _ _ _,grownCap_le_maxLen _ _ _ _ XK,?_⟩
 ·cases base with
  |none=>
   obtain⟨rfl,rfl⟩:=NG rfl
   have ho0:olds=[]:=List.eq_nil_of_length_eq_zero (by rw[xv];simp)
   subst ho0
   have:=run_append_nil (P:=P) w t ty e' i _ hu hi hz a' m cp news (by rw[QM,nU]) hn (by simpa using hg) (by simp only[tx]at hs;omega) (by simp at EF;omega)
   simp only[Nat.zero_add,List.nil_append]
   rw[this]
   congr 2
   apply congrArg (fun z=>Obj.cells z e' (0,0))
   apply Array.ext';simp
  |some b=>
   have:=run_append_grow (P:=P) w t ty e' i _ hu hi hz b n cap olds (by rw[xv,nU]) (ho b rfl) a' m cp news (by rw[QM,nU]) hn hg (by simp only[tx]at hs;omega) (growslice_fits hg EF)
   rw[this]
   congr 2
   apply congrArg (fun z=>Obj.cells z e' (0,0))
   apply Array.ext';simp
 ·rw[Array.length_toList,size_zeroCells,hzs]
theorem LK{w:World}{t tn e':TypeId}{e:Ty}(hu:P.underlying t=some (.slice e'))(Lw:P.underlying tn=some (.int .i64))(hle:gA P e e')(ZA:0<e.size){n k cap:Nat}{olds:List Value}{b:Addr}
  (xv:olds.length=n*e.size) (ho: ∀j u,olds[j]? =some u→w.cell? (b.add j)=some u) (hk:0<k) (hg:cap<n+k) (hs:n+k<tx):
  ∃jq rest,(∀ty,(Builtin.append_ #[t,tn] ty #[.slice (some b) n cap,.int .i64 k]).run P w= .ok (.slice (some ⟨w.heap.size,0,none⟩) (n+k) jq) (w.drew.alloc (.cells (olds++rest).toArray e')))∧
   n+k≤jq∧jq≤maxLen∧rest.length=(jq-n)*e.size:=by
 obtain⟨i,hi,nU,hz,Za⟩:=hle.base
 have hzs:(bF e e.b9).cells.size=e.size:=by rw[←Array.length_toList,eC,ky]
 have XK:n+k≤maxLen:=by simp only[tx,maxLen]at hs ⊢;omega
 have EF:(n+k)*i.bytes≤140737488355328:=by
  have:(n+k)*i.bytes≤68719476736*2048:=Nat.mul_le_mul (by simp only[tx]at hs;omega) Za
  omega
 have hkb:k*i.bytes≤281474976710656:=by
  have:k*i.bytes≤(n+k)*i.bytes:=Nat.mul_le_mul_right _ (by omega)
  omega
 have QQ:=grownCap_ge w (n+k) cap e'
 refine⟨grownCap w (n+k) cap e',(Builtin.zeroCells (bF e e.b9).cells k++Builtin.zeroCells (bF e e.b9).cells (grownCap w (n+k) cap e'-(n+k))).toList,fun ty=> ?_,QQ,grownCap_le_maxLen _ _ _ _ XK,?_⟩
 ·have hold:(Builtin.firstCells i.size n (.slice (some b) n cap)).run P w.drew= .ok olds.toArray w.drew:=run_firstCells_some w.drew i.size n b n cap olds (by rw[xv,nU]) (fun j u hj=>ho j u hj)
  have:=Lib.run_append_grow_zeros w t tn ty e' i _ .i64 .i64 hu Lw hi hz (some b) n cap olds hold k hk (by rw[nU];exact ZA) hg (by simp only[tx]at hs;omega) hkb (growslice_fits hg EF)
  rw[this]
  congr 2
  apply congrArg (fun z=>Obj.cells z e' (0,0))
  apply Array.ext';simp
 ·rw[Array.toList_append,List.length_append,Array.length_toList,Array.length_toList,size_zeroCells,size_zeroCells,hzs,←Nat.add_mul]
  congr 1;omega
structure OvP(P:Program)(ρ:Ren)(fo:Func):Prop where
 hf:P.funcs[ρ.f 29]? =some fo
 name:(fo.name== "runtime.NumGoroutine")=false
 body:fo.body.isNone=true
 next:Extern.findNext fo=none
 find:Extern.find fo=some (Extern.SlicesOverlaps.overlaps #[ρ.t 24,ρ.t 24] #[ρ.t 4])
theorem s4{e:Ty}{f:FuncId}{fn fo:Func}(L:IA P e ρ f fn fo)(O:OvP P ρ fo)(ub:(fn.name== "runtime.NumGoroutine")=false)(Oi:(Body2.n22 ρ).body.isNone=false)(N:Nat):eQ P f (gz e N):=by
 refine⟨(fun h=>by cases h),rfl,fun M0 w vs x y nF hA tY qJ hy=> ?_⟩
 obtain⟨l,i,v⟩:=x
 have J9:gy N l i v=some y:=hy
 clear hy
 simp only[gz,fR]at hA
 obtain⟨v0,QR,rfl,h0,v1,vs2,rfl,h1,v2,vs3,rfl,h2,rfl⟩:=hA
 simp only[gy]at J9
 split at J9
 case isFalse=>cases J9
 rename_i hc
 cases J9
 obtain⟨hi0,AK,Ez,C1⟩:=hc
 obtain⟨i,rfl⟩:=Int.eq_ofNat_of_zero_le hi0
 have aeO:i≤l.length:=by omega
 simp only[A1,qn,vj,V,Ty.isAgg,Bool.false_eq_true,if_false,Rd,List.cons.injEq,and_true]at h0 h1 h2
 subst h1
 have hk:=L.lH
 replace Ez:List.length (α:=e.den) v=1:=Ez
 rcases Ke h2 with⟨RC,_⟩|⟨b2,YY,t2,uh,Rh,Nt,CF,Zb,hl2,tL,XT,D2⟩
 ·rw[RC]at Ez;cases Ez
 replace Rh:v2= .slice (some ⟨b2,0,none⟩) 1 uh:=by rw[Rh];congr 1
 subst Rh
 have Rf:e.size≤YY.toList.length:=by
  rw[Array.length_toList (xs:=YY),XT]
  exact Nat.le_mul_of_pos_left _ Zb
 obtain⟨news,Oj⟩: ∃news,news=YY.toList.take e.size:=⟨_,rfl⟩
 have Bo:news.length=1*e.size:=by rw[Oj,List.length_take,Nat.one_mul];omega
 have hnr:mE w (fun b=>M0 b∨b∈cG (gz e N).args [v0,.int .i64 (i:Int),.slice (some ⟨b2,0,none⟩) 1 uh]) e news v:=by
  rw[Oj];exact D2.take (by rw[Ez,Nat.one_mul];exact Nat.le_refl _)
 have hnc: ∀j u,news[j]? =some u→w.cell? ((⟨b2,0,none⟩:Addr).add j)=some u:=by
  have:=pg Nt 0 e.size
  rw[List.drop_zero]at this
  rw[Oj];exact this
 have hn1: ∀u∈news,u.oneCell'=true:=by
  have:=hnr 0 (by omega)
  rw[Nat.zero_mul,List.drop_zero,List.take_of_length_le (by omega)]at this
  exact this.kv
 have so:ej (.slice (some ⟨b2,0,none⟩) 1 uh)=some b2:=by simp[ej];omega
 replace C1:List.length (α:=e.den) l+1<tx:=C1
 have XU:(List.take i l++(v++List.drop i l)).length=l.length+1:=by rw[List.length_append,List.length_append,List.length_take,List.length_drop,Ez];omega
 have hbn:(Of ρ fn).body.isNone=false:=Oi
 refine og L.hf ub hbn ?_
 rcases Ke h0 with⟨rfl,ad,rfl⟩|⟨b1,tA,t1,xy,rfl,HU,hM1,AQ,ZH,oF,HR,C2⟩
 ·
  have hi:i=0:=by simpa using aeO
  subst hi
  obtain⟨jq,rest,cA,LA,gD,HQ⟩:=y8 (P:=P) (w:=w) L.t24 L.lay (n:=0) (m:=1) (cap:=0) (cp:=uh) (olds:=[]) (news:=news) (base:=ad) (a':=⟨b2,0,none⟩) (fun _=>⟨rfl,rfl⟩) (by simp) (fun _ _ j u hj=>by simp at hj) Bo hnc (by omega) (by simp only[tx];omega)
  refine(CZ L w ad 0 0 1 uh ⟨b2,0,none⟩ _ _ (by omega) (Nat.le_refl _) cA).mono ?_
  rintro e1 w' ⟨rfl,rfl⟩
  refine⟨_,rfl,?_⟩
  simp only[Nat.zero_add]at LA HQ
  have hv:v=v++[]:=by simp
  have:=rF (e:=e) (rb:=w.heap.size) (cap:=jq) (l:=v) (t:=ρ.t 9) (w:=w) (w':=w.drew.alloc (.cells ([]++news++rest).toArray (ρ.t 9))) nF qJ (fun b hb _=>alloc_old w.drew _ hb) (by rw[kb];exact Nat.le_succ _) (fun h=>absurd h (Nat.lt_irrefl _)) rfl rfl rfl (mi w.drew _) (by omega) (by omega) gD
   (by simp only[List.nil_append,List.size_toArray,List.length_append,Bo,HQ,←Nat.add_mul];congr 1;omega) (by simpa using hnr.more (cs':=rest) (by rw[Ez,Bo];exact Nat.le_refl _))
  rw[Ez]at this
  simpa [gz,du,AM.fG]using this
 ·have jI:ej (.slice (some ⟨b1,0,none⟩) l.length xy)=some b1:=by simp[ej];omega
  have hh:cG (gz e N).args [.slice (some ⟨b1,0,none⟩) l.length xy,.int .i64 (i:Int),.slice (some ⟨b2,0,none⟩) 1 uh]=[b1,b2]:=by simp[gz,cG,ct,jI,so]
  rw[hh]at tY qJ hnr ⊢
  replace C2:mE w (fun b=>M0 b∨b∈[b1,b2]) e tA.toList l:=by rw[←hh];exact C2
  have g9:b1≠b2:=by simpa using tY
  have akg:b1<w.heap.size:=(Array.getElem?_eq_some_iff.1 HU).1
  have adW:b2<w.heap.size:=(Array.getElem?_eq_some_iff.1 Nt).1
  have oG:l.length*e.size≤tA.toList.length:=by rw[Array.length_toList (xs:=tA),HR];exact Nat.mul_le_mul_right _ ZH
  have hik:i*e.size≤l.length*e.size:=Nat.mul_le_mul_right _ aeO
  obtain⟨A,hAe⟩: ∃A,A=tA.toList.take (i*e.size):=⟨_,rfl⟩
  obtain⟨mid,ZI⟩: ∃mid,mid=(tA.toList.drop (i*e.size)).take ((l.length-i)*e.size):=⟨_,rfl⟩
  have Kf:A.length=i*e.size:=by rw[hAe,List.length_take];omega
  have Bn:mid.length=(l.length-i)*e.size:=by
   rw[ZI,List.length_take,List.length_drop,Nat.sub_mul];omega
  have hAr:=C2.aeM i
  have hmr:=C2.aeN i
  rw[←hAe]at hAr
  rw[←ZI]at hmr
  have hti:(l.take i).length=i:=by rw[List.length_take];omega
  have Kg: ∀rest:List Value,mE w (fun b=>M0 b∨b∈[b1,b2]) e (A++(news++(mid++rest))) (l.take i++(v++l.drop i)):=fun rest=>
   hAr.append (by rw[Kf,hti]) (hnr.append (by rw[Bo,Ez]) (hmr.more (by rw[List.length_drop,Bn];exact Nat.le_refl _)))
  have hAc: ∀j u,A[j]? =some u→w.cell? ((⟨b1,0,none⟩:Addr).add j)=some u:=by
   have:=pg HU 0 (i*e.size)
   rw[List.drop_zero]at this
   rw[hAe];exact this
  have hmc: ∀j u,mid[j]? =some u→w.cell? ((⟨b1,i*e.size,none⟩:Addr).add j)=some u:=by
   rw[ZI];exact pg HU (i*e.size) _
  have aeR: ∀u∈mid,u.oneCell'=true:=by
   intro u hu
   obtain⟨j,hj,rfl⟩:=List.mem_iff_getElem.1 hu
   rw[Bn]at hj
   have hq:j/e.size<l.length-i:=Nat.div_lt_of_lt_mul (by rw[Nat.mul_comm];exact hj)
   have:=(hmr (j/e.size) (by rw[List.length_drop];exact hq)).kv
   refine this _ ?_
   have hjm:j/e.size*e.size+j%e.size=j:=by rw[Nat.mul_comm];exact Nat.div_add_mod j e.size
   have AB:j%e.size<e.size:=Nat.mod_lt _ hk
   rw[List.mem_iff_getElem?]
   refine⟨j%e.size,?_⟩
   rw[List.getElem?_take,if_pos AB,List.getElem?_drop,hjm]
   exact List.getElem?_eq_getElem _
  by_cases jZ:i=l.length
  ·
   subst jZ
   have Y8:mid=[]:=List.eq_nil_of_length_eq_zero (by rw[Bn];simp)
   by_cases tV:l.length+1≤xy
   ·obtain⟨ie,hie,nU,_⟩:=L.lay.base
    have cA: ∀ty,(Builtin.append_ #[ρ.t 24,ρ.t 24] ty #[.slice (some ⟨b1,0,none⟩) l.length xy,.slice (some ⟨b2,0,none⟩) 1 uh]).run P w=_:=fun ty=>
     EE (ty:=ty) (cp:=uh) L.t24 hie HU (by rw[nU];exact HR) (by rw[nU];exact Bo) hnc hn1 tV
    refine(CZ L w _ _ _ 1 uh ⟨b2,0,none⟩ _ _ (by omega) ZH cA).mono ?_
    rintro e1 w' ⟨rfl,rfl⟩
    refine⟨_,rfl,?_⟩
    rw[nU]
    have Iq:dj tA.toList (l.length*e.size) news=A++(news++(mid++tA.toList.drop (l.length*e.size+news.length))):=by
     rw[Y8,hAe];simp[dj]
    have:=rF (e:=e) (rb:=b1) (cap:=xy) (l:=l.take l.length++(v++l.drop l.length)) (t:=t1) (w:=w) (w':=w.setRow b1 (dj tA.toList (l.length*e.size) news).toArray) nF qJ (fun b hb hn=>setRow_other w _ (fun e=>hn (by simp[e]))) (by rw[setRow_size];exact Nat.le_refl _) (fun _=>by simp) rfl rfl rfl (setRow_heap w b1 tA _ t1 _ HU) AQ (by rw[XU];exact tV) oF
     (by
      have:=cS (s:=e.size) (show l.length<xy by omega)
      rw[Iq,List.size_toArray]
      simp only[List.length_append,Y8,List.length_nil,List.length_drop,Array.length_toList,Kf,Bo,HR]
      omega)
     (by rw[Iq];exact Kg _)
    rw[XU]at this
    simpa [gz,du,AM.fG]using this
   ·obtain⟨jq,rest,cA,LA,gD,HQ⟩:=y8 (P:=P) (w:=w) L.t24 L.lay (n:=l.length) (m:=1) (cap:=xy) (cp:=uh) (olds:=A) (news:=news) (base:=some ⟨b1,0,none⟩) (a':=⟨b2,0,none⟩) (fun h=>by cases h) Kf (fun b hb=>by cases hb;exact hAc) Bo hnc (by omega) C1
    refine(CZ L w _ _ _ 1 uh ⟨b2,0,none⟩ _ _ (by omega) ZH cA).mono ?_
    rintro e1 w' ⟨rfl,rfl⟩
    refine⟨_,rfl,?_⟩
    have:=rF (e:=e) (rb:=w.heap.size) (cap:=jq) (l:=l.take l.length++(v++l.drop l.length)) (t:=ρ.t 9) (w:=w) (w':=w.drew.alloc (.cells (A++news++rest).toArray (ρ.t 9))) nF qJ (fun b hb _=>alloc_old w.drew _ hb) (by rw[kb];exact Nat.le_succ _) (fun h=>absurd h (Nat.lt_irrefl _)) rfl rfl rfl (mi w.drew _) (by omega) (by rw[XU];exact LA) gD
     (by simp only[List.size_toArray,List.length_append,Kf,Bo,HQ,←Nat.add_mul];congr 1;omega) (by have:=Kg rest;rw[Y8,List.nil_append,←List.append_assoc]at this;exact this)
    rw[XU]at this
    simpa [gz,du,AM.fG]using this
  ·have ZJ:i<l.length:=by omega
   have Rq:i*e.size+e.size≤l.length*e.size:=cS ZJ
   have e1k:(i+1)*e.size=A.length+news.length:=by rw[Kf,Bo,Nat.add_mul]
   have yJ:Nat.min 1 (l.length+1-i)=1:=Nat.min_eq_left (by omega)
   by_cases tV:l.length+1≤xy
   ·
    have aeS:l.length*e.size+e.size≤tA.toList.length:=by rw[Array.length_toList (xs:=tA),HR];exact cS (by omega)
    have hsh: ∀(b:Nat) (c:Array Value) (t:TypeId),w.heap[b]? =some (.cells c t (0,0))→w.shape? b=some (t,c.size):=fun b c t h=>by simp[World.shape?,h]
    obtain⟨B,hB⟩: ∃B,B=tA.toList.drop (i*e.size):=⟨_,rfl⟩
    have aeT:tA.toList=A++B:=by rw[hAe,hB,List.take_append_drop]
    have hBl:B.length=tA.toList.length-i*e.size:=by rw[hB,List.length_drop]
    have hBk:(B.take e.size).length=e.size:=by rw[List.length_take];omega
    have E7:dj tA.toList ((i+1)*e.size) mid=A++(B.take e.size++(mid++(B.drop e.size).drop mid.length)):=by
     have:tA.toList=(A++B.take e.size)++B.drop e.size:=by rw[List.append_assoc,List.take_append_drop];exact aeT
     rw[this,show(i+1)*e.size=(A++B.take e.size).length from by rw[List.length_append,hBk,Kf,Nat.add_mul,Nat.one_mul],yd,List.append_assoc]
    have E8:dj (dj tA.toList ((i+1)*e.size) mid) (i*e.size) news=A++(news++(mid++(B.drop e.size).drop mid.length)):=by
     rw[E7,←Kf,yd,Bo,Nat.one_mul,List.drop_left' hBk]
    refine(LH L w b1 l.length xy i 1 uh ⟨b2,0,none⟩ (dj tA.toList ((i+1)*e.size) mid).toArray (dj (dj tA.toList ((i+1)*e.size) mid) (i*e.size) news).toArray ZJ (by omega) tV (by simp only[maxLen]at oF;omega) (fun x lb cb=> ?_) (fun ty dc sc=> ?_) (fun W hW ty dc=> ?_)).mono ?_
    ·rw[run_callFunc_extern O.hf O.name O.body O.next O.find,
      Lib.run_overlaps_apart w (ρ.t 24) (ρ.t 4) (ρ.t 9) L.t24 e.size (fun w=>b7 L.lay w) ⟨b2,0,none⟩ ⟨b1,x,none⟩ 1 uh lb cb (Ne.symm g9) t2 t1 YY.size tA.size (hsh b2 YY t2 Nt) (hsh b1 tA t1 HU) (by rw[HR];exact Nat.ne_of_gt (Nat.mul_pos AQ hk)) (by simp[World.frozen?,Nt]) (by simp[World.frozen?,Nt])]
     rfl
    ·exact run_copy_row (P:=P) (W:=w.drew) L.t24 (fun w=>b7 L.lay w) (cs:=tA) HU (news:=mid) (n:=l.length-i) (by simp only[Nat.min_def];split<;>omega) Bn hmc aeR (by rw[Bn,Nat.add_mul,Nat.one_mul];rw[Array.length_toList (xs:=tA)]at aeS;rw[Nat.sub_mul];omega) ty
    ·exact run_copy_row (P:=P) (W:=W) L.t24 (fun w=>b7 L.lay w) (cs:=(dj tA.toList ((i+1)*e.size) mid).toArray) (te:=t1) (by rw[hW];exact setRow_heap w b1 tA _ t1 _ HU) (news:=news) (n:=1) yJ Bo
      (fun j u hj=>by
       have:=hnc j u hj
       rw[Addr.add_lit]at this ⊢
       rw[show W.cell? ⟨b2,0+j,none⟩=w.cell? ⟨b2,0+j,none⟩from World.cell?_of_block (by rw[hW];exact setRow_other w _ (Ne.symm g9))]
       exact this) hn1 (by
       rw[List.size_toArray,E7]
       simp only[List.length_append,hBk,Kf,Bo]
       omega) ty
    ·rintro e1 w' ⟨rfl,rfl⟩
     refine⟨_,rfl,?_⟩
     have:=rF (e:=e) (rb:=b1) (cap:=xy) (l:=l.take i++(v++l.drop i)) (t:=t1) (w:=w) (w':=(w.drew.setRow b1 (dj tA.toList ((i+1)*e.size) mid).toArray).setRow b1 (dj (dj tA.toList ((i+1)*e.size) mid) (i*e.size) news).toArray) nF qJ
      (fun b hb hn=>(setRow_other _ _ (fun e=>hn (by simp[e]))).trans (setRow_other _ _ (fun e=>hn (by simp[e])))) (by rw[setRow_size,setRow_size];exact Nat.le_refl _) (fun _=>by simp) rfl rfl rfl (setRow_heap _ b1 _ _ t1 _ (setRow_heap w.drew b1 tA _ t1 _ HU)) AQ (by rw[XU];exact tV) oF
      (by
       rw[E8,List.size_toArray]
       rw[Array.length_toList (xs:=tA)]at aeS hBl
       simp only[List.length_append,List.length_drop,Kf,Bo,Bn,hBl,Nat.sub_mul]
       omega)
      (by rw[E8];exact Kg _)
     rw[XU]at this
     simpa [gz,du,AM.fG]using this
   ·
    obtain⟨jq,Z,cA,LA,gD,hZl⟩:=LK (P:=P) (w:=w) L.t24 L.t3 L.lay hk (n:=i) (k:=l.length+1-i) (cap:=xy) (olds:=A) (b:=⟨b1,0,none⟩) Kf hAc (by omega) (by omega) (by omega)
    have akj:i+(l.length+1-i)=l.length+1:=by omega
    rw[akj]at cA LA
    have hZk:(l.length+1-i)*e.size≤Z.length:=by rw[hZl];exact Nat.mul_le_mul_right _ (by omega)
    rw[Nat.sub_mul,Nat.add_mul,Nat.one_mul]at hZk
    have E7:dj (A++Z) (i*e.size) news=A++(news++Z.drop news.length):=by rw[←Kf,yd]
    have E8:dj (dj (A++Z) (i*e.size) news) ((i+1)*e.size) mid=A++(news++(mid++(Z.drop news.length).drop mid.length)):=by
     rw[E7,←List.append_assoc,e1k,←List.length_append,yd,List.append_assoc]
    have hnb:w.heap.size≠b1:=by omega
    have arw:b2≠w.heap.size:=by omega
    refine(Oh L w b1 l.length xy i 1 uh 0 jq ⟨b2,0,none⟩ (A++Z).toArray (dj (A++Z) (i*e.size) news).toArray (dj (dj (A++Z) (i*e.size) news) ((i+1)*e.size) mid).toArray ZJ (by omega) ZH (by omega) (by simp only[maxLen]at oF;omega) (by simp only[tx]at C1;omega) LA (by simp only[maxLen]at gD;omega) (fun ty=> ?_) (fun W hW ty dc=> ?_) (fun W hW ty dc sc=> ?_)).mono ?_
    ·have:=cA ty
     rw[show(((l.length+1-i:Nat):Int))=(l.length:Int)+(1:Nat)-(i:Int)from by omega]at this
     exact this
    ·exact run_copy_row (P:=P) (W:=W) L.t24 (fun w=>b7 L.lay w) (cs:=(A++Z).toArray) (te:=ρ.t 9) (by rw[hW];exact mi w _) (news:=news) (n:=1) yJ Bo
      (fun j u hj=>by
       have:=hnc j u hj
       rw[Addr.add_lit]at this ⊢
       rw[show W.cell? ⟨b2,0+j,none⟩=w.cell? ⟨b2,0+j,none⟩from World.cell?_of_block (by rw[hW];exact alloc_old w _ adW)]
       exact this) hn1 (by rw[List.size_toArray,List.length_append,Kf,Bo];omega) ty
    ·exact run_copy_row (P:=P) (W:=W) L.t24 (fun w=>b7 L.lay w) (cs:=(dj (A++Z) (i*e.size) news).toArray) (te:=ρ.t 9) (by rw[hW];exact setRow_heap _ _ _ _ _ _ (mi w _)) (news:=mid) (n:=l.length-i) (by simp only[Nat.min_def];split<;>omega) Bn
      (fun j u hj=>by
       have:=hmc j u hj
       rw[Addr.add_lit]at this ⊢
       rw[show W.cell? ⟨b1,i*e.size+j,none⟩=w.cell? ⟨b1,i*e.size+j,none⟩from World.cell?_of_block (by rw[hW];exact(setRow_other _ _ (Ne.symm hnb)).trans (alloc_old w _ akg))]
       exact this) aeR (by
       rw[List.size_toArray,E7]
       simp only[List.length_append,List.length_drop,Kf,Bo,Bn,Nat.add_mul,Nat.sub_mul]
       omega) ty
    ·rintro e1 w' ⟨rfl,rfl⟩
     refine⟨_,rfl,?_⟩
     have hg':((w.drew.alloc (.cells (A++Z).toArray (ρ.t 9))).setRow w.heap.size (dj (A++Z) (i*e.size) news).toArray).drew.heap[w.heap.size]? =some (.cells (dj (A++Z) (i*e.size) news).toArray (ρ.t 9) (0,0)):=setRow_heap _ _ _ _ _ _ (mi w.drew _)
     have:=rF (e:=e) (rb:=w.heap.size) (cap:=jq) (l:=l.take i++(v++l.drop i)) (t:=ρ.t 9) (w:=w) (w':=((w.drew.alloc (.cells (A++Z).toArray (ρ.t 9))).setRow w.heap.size (dj (A++Z) (i*e.size) news).toArray).drew.setRow w.heap.size (dj (dj (A++Z) (i*e.size) news) ((i+1)*e.size) mid).toArray) nF qJ
      (fun b hb hn=>(setRow_other _ _ (by omega)).trans ((setRow_other _ _ (by omega)).trans (alloc_old w.drew _ hb))) (by rw[setRow_size];show _≤(World.setRow _ _ _).heap.size;rw[setRow_size,kb];exact Nat.le_succ _) (fun h=>absurd h (Nat.lt_irrefl _)) rfl rfl rfl (setRow_heap _ _ _ _ _ _ hg') (by omega) (by rw[XU];exact LA) gD
      (by
       rw[E8,List.size_toArray]
       have hmul:(jq-i)*e.size=jq*e.size-i*e.size:=Nat.sub_mul _ _ _
       have hci:i*e.size≤jq*e.size:=Nat.mul_le_mul_right _ (by omega)
       simp only[List.length_append,List.length_drop,Kf,Bo,Bn,hZl,hmul,Nat.sub_mul]at hZk ⊢
       omega)
      (by rw[E8];exact Kg _)
     rw[XU]at this
     simpa [gz,du,AM.fG]using this
end VM
end
section
namespace VM
open Go Go.Shelf Go.RowKit Go.Lib Go.Proofs
variable{P:Program}{ρ:Ren}
noncomputable def Ol(ρ:Ren)(fn:Func):Func:={fn with body:=(Body2.n15 ρ).body,ntmps:=8,results:=(Body2.n15 ρ).results,nfree:=0}
theorem wO(ρ:Ren)(fn:Func):(Ol ρ fn).ntmps=8:=rfl
structure C3(P:Program)(e:Ty)(ρ:Ren)(f:FuncId)(fn:Func):Prop where
 hf:P.funcs[f]? =some (Ol ρ fn)
 t4:P.underlying (ρ.t 4)=some .bool
 t22:P.underlying (ρ.t 22)=some (.slice (ρ.t 3))
 lay:gA P e (ρ.t 3)
 lH:0<e.size
 mixed:P.follows .mixedOrders=true
set_option maxHeartbeats 4000000 in
set_option maxRecDepth 100000 in
theorem LM{e:Ty}{f:FuncId}{fn:Func}(L:C3 P e ρ f fn)(w:World)(n c:Nat):
  Calls P f #[.slice none n c] w fun r w2=>r= .returned (.slice none 0 0)∧w2=w:=by
 have u22:=run_underlying L.t22
 have t4:=L.t4;have t22:=L.t22
 have z3:=fun w=>b7 L.lay w
 have mixed:=L.mixed
 have q22: ∀(w:World) (a:Option Addr) (n c n' c':Nat),(binOp .eql (ρ.t 22) (.slice a n c) (.slice none n' c')).run P w= .ok (.bool a.isNone) w:=fun w a n c n' c'=>Lib.run_eql_slice_nil w _ _ a n c n' c' L.t22
 go_enter L.hf,wO ρ fn
 go_wp2
 go_ret
 exact⟨rfl,rfl⟩
set_option maxHeartbeats 4000000 in
set_option maxRecDepth 100000 in
theorem y9{e:Ty}{f:FuncId}{fn:Func}(L:C3 P e ρ f fn)(w:World)(a:Addr)(n c:Nat)(v':Value)(w':World)
  (EL: ∀ty,(Builtin.append_ #[ρ.t 22,ρ.t 22] ty #[.slice (some ⟨w.heap.size,0,none⟩) 0 0,.slice (some a) n c]).run P (w.alloc (.cells #[] (ρ.t 3)))= .ok v' w'):
   Calls P f #[.slice (some a) n c] w fun r w2=>r= .returned v'∧w2=w':=by
 have u22:=run_underlying L.t22
 have t4:=L.t4;have t22:=L.t22
 have z3:=fun w=>b7 L.lay w
 have mixed:=L.mixed
 have q22: ∀(w:World) (a:Option Addr) (n c n' c':Nat),(binOp .eql (ρ.t 22) (.slice a n c) (.slice none n' c')).run P w= .ok (.bool a.isNone) w:=fun w a n c n' c'=>Lib.run_eql_slice_nil w _ _ a n c n' c' L.t22
 obtain⟨ab,ao,asp⟩:=a
 go_enter L.hf,wO ρ fn
 go_wp2_with (at_builtin;refine Lib.wpList_append_run _ rfl _ _ _ _ rfl _ _ rfl rfl _ _ (EL _) ?_)
 all_goals (go_ret;exact⟨rfl,rfl⟩)
theorem Om{w w':World}{M0:Nat→Prop}{e:Ty}(a:Option Addr)(nF: ∀b,M0 b→b<w.heap.size)(XM: ∀b,b<w.heap.size→w'.heap[b]? =w.heap[b]?)(nU:w.heap.size≤w'.heap.size)
  (hos:w'.os=w.os) (htp:w'.tape=w.tape) (Ip:w'.output=w.output):
  ∃us M',Value.slice a 0 0=qF us∧RR w' M' [.own e] ([]:List e.den) us []∧Left w M0 [] w' M'∧(a8 [.own e] us []).Nodup∧ ∀b∈a8 [.own e] us [],¬M0 b:=by
 have sm:a8 [.own e] [Value.slice a 0 0] []=[]:=by
  cases a<;>simp[a8,ct,AM.fG,ej]
 refine⟨[.slice a 0 0],M0,rfl,?_,?_,?_,?_⟩
 ·simp only[RR]
  refine .inr ⟨_,[],rfl,rfl,rfl,?_,rfl,trivial⟩
  simp only[A1,ER,qn]
  exact .inl ⟨trivial,a,rfl⟩
 ·exact⟨fun b h=>h,fun b h=>Nat.lt_of_lt_of_le (nF b h) nU,fun b hb h=> .inl h,fun b hb _=>XM b hb,nU,hos,htp,Ip⟩
 ·rw[sm];simp
 ·rw[sm];simp
theorem mj{e:Ty}{f:FuncId}{fn:Func}(L:C3 P e ρ f fn)(ub:(fn.name== "runtime.NumGoroutine")=false)(Oi:(Body2.n15 ρ).body.isNone=false)(N:Nat):eQ P f (qy e N):=by
 refine⟨(fun h=>by cases h),rfl,fun M0 w vs x y nF hA tY qJ hy=> ?_⟩
 have J9:jX N x=some y:=hy
 clear hy
 obtain⟨v0,QR,rfl,h0,h2⟩:=hA
 have h2:QR=[]:=h2
 subst h2
 replace h0:V w (fun b=>M0 b∨b∈([]:List Nat)) (.slice e) v0 x:=h0
 unfold jX at J9
 split at J9
 case isFalse=>cases J9
 rename_i C1
 cases J9
 have hbn:(Ol ρ fn).body.isNone=false:=Oi
 have hh:cG (qy e N).args [v0]=[]:=rfl
 rw[hh]at qJ ⊢
 refine og L.hf ub hbn ?_
 obtain⟨i,hi,nU,hz,Za⟩:=L.lay.base
 have hS:=Src.Q9 h0
 by_cases hx:x=[]
 ·obtain⟨a,cp,hv,_⟩:=hS
  subst hv
  rw[hx]
  cases a with
  |none=>
   refine(LM L w _ cp).mono ?_
   rintro e1 w' ⟨rfl,rfl⟩
   exact⟨_,rfl,Om none nF (fun _ _=>rfl) (Nat.le_refl _) rfl rfl rfl⟩
  |some a=>
   refine(y9 L w a _ cp _ _ (fun ty=>nV (P:=P) (w:=w.alloc (.cells #[] (ρ.t 3))) L.t22 hi (some ⟨w.heap.size,0,none⟩) 0 0 (Nat.le_refl _) (some a) cp)).mono ?_
   rintro e1 w' ⟨rfl,rfl⟩
   exact⟨_,rfl,Om _ nF (fun b hb=>alloc_old w _ hb) (by rw[kb];exact Nat.le_succ _) rfl rfl rfl⟩
 ·obtain⟨b,off,cp,news,hv,hl,lL,gV,h1⟩:=hS.cells hx
  have Ir:0<x.length:=List.length_pos_iff.2 hx
  subst hv
  obtain⟨jq,rest,cA,LA,gD,HQ⟩:=y8 (P:=P) (w:=w.alloc (.cells #[] (ρ.t 3))) L.t22 L.lay (n:=0) (m:=x.length) (cap:=0) (cp:=cp) (olds:=[]) (news:=news) (base:=some ⟨w.heap.size,0,none⟩) (a':=⟨b,off,none⟩) (fun h=>by cases h) (by simp) (fun _ _ j u hj=>by simp at hj) hl
   (fun j u hj=>by rw[Addr.add_lit];exact Lib.cell?_alloc_some _ (lL j u hj)) (by omega) (by omega)
  refine(y9 L w ⟨b,off,none⟩ _ cp _ _ cA).mono ?_
  rintro e1 w' ⟨rfl,rfl⟩
  refine⟨_,rfl,?_⟩
  simp only[Nat.zero_add]at LA HQ ⊢
  have HR:(w.alloc (.cells #[] (ρ.t 3))).heap.size=w.heap.size+1:=kb w _
  exact rF (e:=e) (rb:=(w.alloc (.cells #[] (ρ.t 3))).heap.size) (cap:=jq) (l:=x) (t:=ρ.t 3) (w:=w) (w':=(w.alloc (.cells #[] (ρ.t 3))).drew.alloc (.cells ([]++news++rest).toArray (ρ.t 3))) nF qJ
   (fun b hb _=>(alloc_old (w.alloc (.cells #[] (ρ.t 3))).drew _ (by show b<(w.alloc (.cells #[] (ρ.t 3))).heap.size;omega)).trans (alloc_old w _ hb))
   (by rw[kb];show w.heap.size≤(w.alloc (.cells #[] (ρ.t 3))).heap.size+1;omega) (fun h=>by omega) rfl rfl rfl (mi (w.alloc (.cells #[] (ρ.t 3))).drew _) (by omega) LA gD
   (by simp only[List.nil_append,List.size_toArray,List.length_append,hl,HQ,←Nat.add_mul];congr 1;omega) (by simpa using mE.more (cs':=rest) (show mE w (fun b=>M0 b∨b∈([]:List Nat)) e news x from gV) (by rw[hl];exact Nat.le_refl _))
end VM
end
