/- A part of the proof of TearDrawn of layer 29: a machine that reads a function of the program as an equation between values. -/
import Derived.Test.YtocmlaipoebfeaaGreatVm6
import Derived.KernelRfl
import Derived.Test.YtocmlaipoebfeaaGreatVm0
import Derived.Laws.Externs
import Derived.Shelf.Spec.SlicesInsertGrow
set_option linter.all false
section
namespace VM
open Go
@[reducible] def CM.arr:CM→Type→Type
 | .v τ,T| .obj τ,T| .io τ,T| .fn _ τ,T=>τ.den→T
 | .own e,T=>List e.den→T
 | .dK τ _ e,T=>τ.den→List e.den→T
 | .same _,T=>T
@[reducible] def Mi:List (Nat×CM)→Type→Type
 |[],R=>R
 |q::r,R=>q.2.arr (Mi r R)
def CM.lam{T:Type}(s:Nat)(σ:St):(m:CM)→(St→T)→m.arr T
 | .v τ,f=>fun x=>f (σ.put s (.val τ x))
 | .own e,f=>fun x=>f ((σ.put s (.ref (16*s+14))).gR (16*s+14) (some (.own e x)))
 | .obj τ,f=>fun x=>f ((σ.put s (.fA (16*s+14) [])).gR (16*s+14) (some (.obj τ x)))
 | .dK τ q e,f=>fun x l=>f (((σ.put s (.fA (16*s+14) [])).gR (16*s+13) (some (.own e l))).gR (16*s+14) (some (.dK τ x q (16*s+13))))
 | .io τ,f=>fun x=>f ((σ.put s (.fA (16*s+15) [])).gR (16*s+15) (some (.obj τ x)))
 | .fn g τ,f=>fun x=>f (σ.put s (.DQ g (lh τ x)))
 | .same s',f=>f (σ.put s (σ.T s'))
def adL{R:Type}(κ:St→R):(L:List (Nat×CM))→St→Mi L R
 |[],σ=>κ σ
 |q::r,σ=>q.2.lam q.1 σ (adL κ r)
@[reducible] def sJ:List AM→Type→Type
 |[],R=>R
 |m::r,R=>m.den→sJ r R
def Ax{R:Type}:(ms:List AM)→sJ ms R→HP ms→R
 |[],g,_=>g
 |[_],g,x=>g x
 |_::n::ms,g,x=>Ax (n::ms) (g x.1) x.2
def K1{R:Type}:(ms:List AM)→(HP ms→R)→sJ ms R
 |[],f=>f ()
 |[_],f=>f
 |_::n::ms,f=>fun x=>K1 (n::ms) fun y=>f (x,y)
theorem Cx{R:Type}: ∀(ms:List AM) (f:HP ms→R) (x:HP ms),Ax ms (K1 ms f) x=f x
 |[],_,()=>rfl
 |[_],_,_=>rfl
 |_::n::ms,f,x=>Cx (n::ms) (fun y=>f (x.1,y)) x.2
structure Pc where
 k:Nat
 c:List (Nat×CM)
 path:List Nat
 ks:List Nat
def Np:List Pc→Nat→Pc
 |[],_=>⟨0,[],[],[]⟩
 |p::r,k=>cond (Nat.beq k p.k) p (Np r k)
def EE:List Pc→Nat→Option (List (Nat×CM))
 |[],_=>none
 |p::r,k=>cond (Nat.beq k p.k) (some p.c) (EE r k)
def vi:List (Nat×g6)→Nat→List g6
 |[],_=>[]
 |q::r,i=>cond (Nat.beq i q.1) (q.2::vi r i) (vi r i)
def Ay:List AM→Nat→List Nat
 |[],_=>[]
 | .io _::r,i=>i::Ay r (i+1)
 |_::r,i=>Ay r (i+1)
structure Fx where
 nt:Nat
 tab:List (Nat×Ty)
 G:List (Nat×g6)
 N:Nat
 fn:Func
 args:List AM
 res:List AM
 WI:List Pc
 lk:Option (Ty×List Step×Ty×List Nat):=none
namespace Fx
variable(X:Fx)
abbrev R:=Option (HP X.res)
def E:Env:={nt:=X.nt,ty:=fun i=>ED i X.tab,Γ:=vi X.G,N:=X.N,p7:=fun r=>EE X.WI (2*r+1),rN:=fun r=>EE X.WI (2*r),io:=Ay X.args 0,lk:=X.lk}
@[reducible] def c(i:Nat):List (Nat×CM):=(Np X.WI i).c
def path(i:Nat):List Nat:=(Np X.WI i).path
def odd(i:Nat):Bool:=Nat.beq (i%2) 1
def cut(ρ:Nat→St→X.R)(l:Nat):St→X.R:=fun σ=>qb (some (X.c l)) σ (ρ l)
def ks(ρ:Nat→St→X.R)(i:Nat):List (St→X.R):=(Np X.WI i).ks.map (X.cut ρ)
noncomputable def lp(ρ:Nat→St→X.R)(i n:Nat):St→X.R:=lpF X.E X.fn X.args X.res (X.c i) (X.path i) (X.ks ρ i) n
noncomputable def bc(ρ:Nat→St→X.R)(i:Nat):St→X.R:=cond (odd i) (X.lp ρ i X.N) (Yw X.E X.fn X.args X.res (X.path i) (X.ks ρ i))
def own(ρ:Nat→St→X.R)(i:Nat):List (St→X.R):=X.ks ρ i++cond (odd i) [X.cut ρ i] []
noncomputable def Yy(K ρ:Nat→St→X.R)(i:Nat):St→X.R:=atQ X.E X.fn X.args X.res (fun r=>K (2*r)) (fun r=>K (2*r+1)) (X.path i) (X.own ρ i)
noncomputable def tl(K ρ:Nat→St→X.R)(i:Nat):List ((St→X.R)×(St→X.R)):=qu X.E (fun r=>K (2*r)) (fun r=>K (2*r+1)) (QJ X.E X.fn X.args X.res (X.path i) (X.own ρ i))
@[reducible] def cu(i:Nat)(κ:St→X.R):Mi (X.c i) X.R:=adL κ (X.c i) S0
@[reducible] noncomputable def bd(K ρ:Nat→St→X.R)(i:Nat):Mi (X.c i) X.R:=X.cu i (X.Yy K ρ i)
@[reducible] def kc(ρ:Nat→St→X.R)(i:Nat):Mi (X.c i) X.R:=X.cu i (ρ i)
def wq:Nat→St→X.R:=fun _ _=>none
noncomputable def top(K:Nat→St→X.R):sJ X.args X.R:=K1 X.args fun x=>atQ X.E X.fn X.args X.res (fun r=>K (2*r)) (fun r=>K (2*r+1)) [] [] (entry X.args x 0 S0)
noncomputable def tlT(K:Nat→St→X.R):List ((St→X.R)×(St→X.R)):=qu X.E (fun r=>K (2*r)) (fun r=>K (2*r+1)) (QJ X.E X.fn X.args X.res [] [])
noncomputable def S(q:Bool)(g:sJ X.args X.R):g6:={args:=X.args,res:=X.res,quiet:=q,run:=Ax X.args g}
variable{X}
theorem QK(f:Nat→St→X.R): ∀np:List Nat,KZ (np.map fun t=>(f t,f t))
 |[]=>trivial
 |_::r=>⟨rfl,QK f r⟩
theorem okJ{i:Nat}(np:List Nat)(hi:odd i=false)(hr: ∀K ρ,X.tl K ρ i=np.map fun t=>(K t,X.bc ρ t)){g:(Nat→St→X.R)→(Nat→St→X.R)→Mi (X.c i) X.R}(h: ∀K ρ,X.bd K ρ i=g K ρ)(ρ:Nat→St→X.R):X.kc (X.bc ρ) i=g (X.bc ρ) ρ:=by
 rw[←h]
 have:X.bc ρ i=X.Yy (X.bc ρ) ρ i:=by
  funext σ
  have h1:=hr (X.bc ρ) ρ
  unfold tl own at h1
  rw[hi,cond_false,List.append_nil]at h1
  unfold Yy own
  rw[hi,cond_false,List.append_nil]
  rw[←at_eq X.E X.fn X.args X.res h1 (QK (X.bc ρ) np) σ]
  unfold bc;rw[hi];rfl
 unfold kc bd
 rw[this]
def okb(X:Fx)(i:Nat):Bool:=odd i&&(Np X.WI i).ks.all fun l=> !(Nat.beq l i)
theorem okL{i:Nat}(np:List Nat)(hi:okb X i=true)(hr: ∀K ρ,X.tl K ρ i=np.map fun t=>(K t,X.bc ρ t)){g:(Nat→St→X.R)→(Nat→St→X.R)→Mi (X.c i) X.R}(h: ∀K ρ,X.bd K ρ i=g K ρ)(ρ:Nat→St→X.R)
  (G:Nat→Mi (X.c i) X.R) (h0:X.cu i (fun _=>none)=G 0) (hs: ∀n ρ',X.kc ρ' i=G n→(∀l,Nat.beq l i=false→X.kc ρ' l=X.kc ρ l)→g (X.bc ρ') ρ'=G (n+1)):X.kc (X.bc ρ) i=G X.N:=by
 unfold okb at hi
 rw[Bool.and_eq_true]at hi
 obtain⟨hi,hk⟩:=hi
 have key: ∀n,X.cu i (X.lp ρ i n)=G n:=by
  intro n
  induction n with
  |zero=>exact h0
  |succ n ih=>
   let ρ':Nat→St→X.R:=fun l=>cond (Nat.beq l i) (X.lp ρ i n) (ρ l)
   have e1:ρ' i=X.lp ρ i n:=by show cond (Nat.beq i i) _ _=_;rw[Nat.beq_refl];rfl
   have e2: ∀l,Nat.beq l i=false→ρ' l=ρ l:=fun l hl=>by show cond (Nat.beq l i) _ _=_;rw[hl];rfl
   rw[←hs n ρ' (by unfold kc;rw[e1];exact ih) (fun l hl=>by unfold kc;rw[e2 l hl]),←h]
   have e3:X.ks ρ' i=X.ks ρ i:=by
    unfold ks
    refine List.map_congr_left fun l hl=> ?_
    have:=List.all_eq_true.1 hk l hl
    unfold cut
    rw[e2 l (by simpa using this)]
   have:X.lp ρ i (n+1)=X.Yy (X.bc ρ') ρ' i:=by
    funext σ
    have h1:=hr (X.bc ρ') ρ'
    unfold tl own at h1
    rw[hi,cond_true]at h1
    unfold Yy own
    rw[hi,cond_true]
    rw[←at_eq X.E X.fn X.args X.res h1 (QK (X.bc ρ') np) σ]
    unfold lp
    rw[Nl,e3]
    unfold cut
    rw[e1];rfl
   unfold bd
   rw[this]
 have:X.bc ρ i=X.lp ρ i X.N:=by unfold bc;rw[hi];rfl
 unfold kc
 rw[this];exact key _
def Cy(P:Program):List (Nat×g6)→Prop
 |[]=>True
 |q::r=>eM P q.1 q.2∧Cy P r
structure _root_.VM.Kn(P:Program) where
 f:Nat
 S:g6
 ok:eM P f S
def _root_.VM.Kn.p{P:Program}(k:Kn P):Nat×g6:=(k.f,k.S)
def _root_.VM.Kn.l{P:Program}:List (Kn P)→List (Nat×g6)
 |[]=>[]
 |k::r=>k.p::Kn.l r
theorem _root_.VM.Kn.all{P:Program}: ∀l:List (Kn P),Cy P (Kn.l l)
 |[]=>trivial
 |k::r=>⟨k.ok,Kn.all r⟩
theorem vj{P:Program}: ∀{l:List (Nat×g6)},Cy P l→ ∀f S,S∈vi l f→eM P f S
 |[],_,f,S,h=>by simp[vi]at h
 |q::r,ha,f,S,h=>by
  unfold vi at h
  cases hb:Nat.beq f q.1<;>rw[hb]at h
  ·exact vj ha.2 f S h
  ·rcases List.mem_cons.1 h with rfl|h
   ·rw[Nat.eq_of_beq_eq_true hb];exact ha.1
   ·exact vj ha.2 f S h
theorem yM: ∀{l:List Pc},(l.all fun p=>fW p.c)=true→ ∀i L,EE l i=some L→fW L=true
 |q::r,ha,i,L,h=>by
  rw[List.all_cons,Bool.and_eq_true]at ha
  unfold EE at h
  cases hb:Nat.beq i q.k<;>rw[hb]at h
  ·exact yM ha.2 i L h
  ·cases h;exact ha.1
def Yz(X:Fx)(q:Bool):Bool:=(X.WI.all fun p=>fW p.c)&&((!(X.fn.name== "runtime.NumGoroutine")&&Nat.beq X.nt X.fn.ntmps)&&(X.fn.body.isSome&&(Nat.ble X.args.length X.nt&&((!q||X.res.all AM.flat)&&decide (kA X.args=kA X.res)))))
theorem EF: ∀{ms:List AM} {k i:Nat} {m:AM},ms[i]? =some m→m.fD=true→k+i∈Ay ms k
 |[],_,_,_,h,_=>by simp at h
 |m::ms,k,0,m',h,ra=>by
  simp only[List.getElem?_cons_zero,Option.some.injEq]at h
  subst h
  cases m<;>simp[AM.fD]at ra
  simp[Ay]
 |m::ms,k,i+1,m',h,ra=>by
  have:=EF (ms:=ms) (k:=k+1) (i:=i) (by simpa using h) ra
  rw[show k+(i+1)=k+1+i from by omega]
  cases m<;>simp only[Ay]<;>first|exact List.mem_cons_of_mem _ this|exact this
theorem JF: ∀{ms:List AM} {k i:Nat},i∈Ay ms k→i<k+ms.length
 |[],_,_,h=>by simp[Ay]at h
 |m::ms,k,i,h=>by
  have hr:i∈Ay ms (k+1)→i<k+(m::ms).length:=fun h=>by have:=JF h;simp only[List.length_cons];omega
  cases m<;>simp only[Ay]at h<;>first
   |exact hr h
   |(rcases List.mem_cons.1 h with rfl|h<;>first|exact hr h|(simp only[List.length_cons];omega))
variable(X)in
theorem EG{P:Program}(ht:yL P X.tab)(hG:Cy P X.G)(hc:(X.WI.all fun p=>fW p.c)=true):nG P X.E:=by
 have jj: ∀t τ,ED t X.tab=some τ→oq P τ (.inl t)=true∧QH P τ t=true:=fun t τ h=>by
  have:=List.all_eq_true.1 ht.ok _ (Be h)
  simpa using this
 exact{ty:=fun t τ h=>dY (jj t τ h).1,eq:=fun t τ h hc ha=>QI (dY (jj t τ h).1) (jj t τ h).2 hc ha,adm:=vj hG,mixed:=ht.mixed,fW:=fun i L h=>yM hc _ L h,MR:=fun i L h=>yM hc _ L h}
theorem mkS{P:Program}(ht:yL P X.tab){f:FuncId}(hf:P.funcs[f]? =some X.fn){q:Bool}(hc:Yz X q=true)(hG:Cy P X.G){g:sJ X.args X.R}(h: ∀x,DY X.E X.fn X.args X.res x=Ax X.args g x):eM P f (X.S q g):=by
 unfold Yz at hc
 simp only[Bool.and_eq_true]at hc
 obtain⟨h0,⟨h1,h2⟩,h3,h4,h5,h6⟩:=hc
 refine Nc (EG X ht hG h0) hf (by simpa using h1) (Nat.eq_of_beq_eq_true h2) (X.S q g) (fun i m hm ra=> ?_) (fun i hi=> ?_) ?_ (fun hq=> ?_) (of_decide_eq_true h6) h
 ·have:=EF (k:=0) hm ra
  rwa [Nat.zero_add]at this
 ·have:=JF (k:=0) hi
  rwa [Nat.zero_add]at this
 ·have:=Nat.le_of_ble_eq_true h4
  rwa [Nat.eq_of_beq_eq_true h2]at this
 ·have hq:q=true:=hq
  subst hq
  show X.res.all AM.flat=true
  simpa using h5
theorem QL{g:sJ X.args X.R}(h:K1 X.args (DY X.E X.fn X.args X.res)=g)(x:HP X.args):DY X.E X.fn X.args X.res x=Ax X.args g x:=by rw[←h,Cx]
variable(X)in
theorem ok0{P:Program}(ht:yL P X.tab){f:FuncId}(hf:P.funcs[f]? =some X.fn){q:Bool}(hc:Yz X q=true)(hG:Cy P X.G){g:sJ X.args X.R}(h:K1 X.args (DY X.E X.fn X.args X.res)=g):eM P f (X.S q g):=
 mkS ht hf hc hG (QL h)
theorem adM(hb:X.fn.body.isSome=true)(np:List Nat)(hr: ∀K,X.tlT K=np.map fun t=>(K t,X.bc X.wq t))
  {g:(Nat→St→X.R)→sJ X.args X.R} (h: ∀K,X.top K=g K) {f:sJ X.args X.R} (hf:g (X.bc X.wq)=f) (x:HP X.args):DY X.E X.fn X.args X.res x=Ax X.args f x:=by
 rw[←hf,←h,Yx hb]
 unfold top
 rw[Cx]
 exact at_eq X.E X.fn X.args X.res (hr (X.bc X.wq)) (QK (X.bc X.wq) np) _
variable(X)in
theorem ok1{P:Program}(ht:yL P X.tab){f:FuncId}(hf:P.funcs[f]? =some X.fn){q:Bool}(hc:Yz X q=true)(hG:Cy P X.G)(np:List Nat)(hr: ∀K,X.tlT K=np.map fun t=>(K t,X.bc X.wq t))
  {g:(Nat→St→X.R)→sJ X.args X.R} (h: ∀K,X.top K=g K) {f':sJ X.args X.R} (wZ:g (X.bc X.wq)=f'):eM P f (X.S q f'):=by
 have hb:X.fn.body.isSome=true:=by
  unfold Yz at hc
  simp only[Bool.and_eq_true]at hc
  exact hc.2.2.1
 exact mkS ht hf hc hG (adM hb np hr h wZ)
theorem uJ{i:Nat}(np:List Nat){g:(Nat→St→X.R)→(Nat→St→X.R)→Mi (X.c i) X.R}(h: ∀K ρ,X.bd K ρ i=g K ρ)(ρ:Nat→St→X.R){f:Mi (X.c i) X.R}(hf:g (X.bc ρ) ρ=f:=by rfl)
 (hi:odd i=false:=by kernel_rfl) (hr: ∀K ρ,X.tl K ρ i=np.map fun t=>(K t,X.bc ρ t):=by intro K ρ;kernel_rfl):X.kc (X.bc ρ) i=f:=(okJ np hi hr h ρ).trans hf
theorem uL{i:Nat}(np:List Nat){g:(Nat→St→X.R)→(Nat→St→X.R)→Mi (X.c i) X.R}(h: ∀K ρ,X.bd K ρ i=g K ρ)(ρ:Nat→St→X.R)
 (G:Nat→Mi (X.c i) X.R) (hs: ∀n ρ',X.kc ρ' i=G n→(∀l,Nat.beq l i=false→X.kc ρ' l=X.kc ρ l)→g (X.bc ρ') ρ'=G (n+1)) (h0:X.cu i (fun _=>none)=G 0:=by rfl)
 (hi:okb X i=true:=by kernel_rfl) (hr: ∀K ρ,X.tl K ρ i=np.map fun t=>(K t,X.bc ρ t):=by intro K ρ;kernel_rfl):X.kc (X.bc ρ) i=G X.N:=okL np hi hr h ρ G h0 hs
variable(X)in
theorem u0{P:Program}(ht:yL P X.tab){f:FuncId}(hf:P.funcs[f]? =some X.fn){q:Bool}{g:sJ X.args X.R}(hG:Cy P X.G:=by first|exact trivial|exact Kn.all _)(hc:Yz X q=true:=by kernel_rfl)(h:K1 X.args (DY X.E X.fn X.args X.res)=g:=by kernel_rfl):eM P f (X.S q g):=ok0 X ht hf hc hG h
variable(X)in
theorem u1{P:Program}(ht:yL P X.tab){f:FuncId}(hf:P.funcs[f]? =some X.fn)(np:List Nat)
 {g:(Nat→St→X.R)→sJ X.args X.R} (h: ∀K,X.top K=g K) {q:Bool} {f':sJ X.args X.R} (wZ:g (X.bc X.wq)=f':=by rfl) (hG:Cy P X.G:=by first|exact trivial|exact Kn.all _) (hc:Yz X q=true:=by kernel_rfl) (hr: ∀K,X.tlT K=np.map fun t=>(K t,X.bc X.wq t):=by intro K;kernel_rfl):eM P f (X.S q f'):=ok1 X ht hf hc hG np hr h wZ
end Fx
end VM
end
section
namespace VM
open Go
variable{P:Program}
theorem Left.same(w:World)(M0:Nat→Prop)(h: ∀b,M0 b→b<w.heap.size):Left w M0 [] w M0:=
 ⟨fun _ h=>h,h,fun _ _ h=> .inl h,fun _ _ _=>rfl,Nat.le_refl _,rfl,rfl,rfl⟩
theorem adN{w:World}{M:Nat→Prop}{a b c:IntKind}{x:HP [.v (.int a),.v (.int b),.v (.int c)]}{vs:List Value}(h:fN w M [.v (.int a),.v (.int b),.v (.int c)] x vs):vs=[.int a x.1,.int b x.2.1,.int c x.2.2]:=by
 simp only[fN,A1,V,Ty.isAgg,Bool.false_eq_true,if_false,Rd,List.cons.injEq,and_true]at h
 obtain⟨v,vs,rfl,rfl,v,vs,rfl,rfl,v,vs,rfl,rfl,rfl⟩:=h
 rfl
theorem rr2{w:World}{M:Nat→Prop}{a b:IntKind}(x y:Int):RR w M [.v (.int a),.v (.int b)] (x,y) [.int a x,.int b y] []:=by
 simp only[RR]
 refine .inr ⟨_,_,rfl,rfl,rfl,?_,.inr ⟨_,_,rfl,rfl,rfl,?_,rfl,trivial⟩⟩<;>simp[A1,V,Ty.isAgg,Rd,p3,uT]
theorem JG{f:FuncId}(run:Int×Int×Int→Option (Int×Int))
  (h: ∀(w:World) (a b c u v:Int),run (a,b,c)=some (u,v)→(callFunc f #[.int .u64 a,.int .u64 b,.int .u64 c]).run P w= .ok (.value (.tuple #[.int .u64 u,.int .u64 v])) w):
  eM P f {args:=[.v (.int .u64),.v (.int .u64),.v (.int .u64)],res:=[.v (.int .u64),.v (.int .u64)],quiet:=true,run}:=by
 refine⟨fun _=>rfl,rfl,fun M0 w vs x y nn hA _ _ hy=> ?_⟩
 have Qh:=adN hA
 subst Qh
 exact Aq (h w x.1 x.2.1 x.2.2 y.1 y.2 hy) ⟨_,M0,rfl,rr2 y.1 y.2,Left.same w M0 nn,List.nodup_nil,fun b hb=>by cases hb⟩
theorem vk(nm:String)(a b c:Nat)(h:c≤1)(w:World):(Extern.MathBitsCarry.three nm #[.int .u64 a,.int .u64 b,.int .u64 c]).run P w= .ok (a,b,c) w:=by
 have h5: ¬(1<c):=by omega
 have:Extern.MathBitsCarry.three nm #[.int .u64 a,.int .u64 b,.int .u64 c]=(do
  let c:=(←asInt (.int .u64 c)).toNat
  if c>1 then unsupported (.noEntry ("extern/math/bits." ++nm++ ": a carry that is neither 0 nor 1"))
  pure ((←asInt (.int .u64 a)).toNat,(←asInt (.int .u64 b)).toNat,c)):=rfl
 rw[this]
 simp[asInt,asIntOf]
 omega
theorem K2{f:FuncId}{fn:Func}(N:Nat)(hf:P.funcs[f]? =some fn)(tH:(fn.name== "runtime.NumGoroutine")=false)(hb:fn.body.isNone=true)(hn:Extern.findNext fn=none)
  (he:Extern.find fn=(Extern.MathBitsCarry.rows[0]?).map (·.2)):eM P f (pF.S N):=by
 refine JG (fun x=>pF N x.1 x.2.1 x.2.2) fun w a b c u v hy=> ?_
 simp only[pF]at hy
 split at hy
 ·rename_i hc
  obtain⟨h1,h2,h3,h4⟩:=hc
  obtain⟨a,rfl⟩:=Int.eq_ofNat_of_zero_le h1
  obtain⟨b,rfl⟩:=Int.eq_ofNat_of_zero_le h2
  obtain⟨c,rfl⟩:=Int.eq_ofNat_of_zero_le h3
  cases hy
  rw[run_callFunc_extern hf tH hb hn he]
  simp[vk _ a b c (by omega),Extern.MathBitsCarry.pair,Extern.MathBitsCarry.m64]
 ·cases hy
theorem K3{f:FuncId}{fn:Func}(N:Nat)(hf:P.funcs[f]? =some fn)(tH:(fn.name== "runtime.NumGoroutine")=false)(hb:fn.body.isNone=true)(hn:Extern.findNext fn=none)
  (he:Extern.find fn=(Extern.MathBitsCarry.rows[1]?).map (·.2)):eM P f (pG.S N):=by
 refine JG (fun x=>pG N x.1 x.2.1 x.2.2) fun w a b c u v hy=> ?_
 simp only[pG]at hy
 split at hy
 ·rename_i hc
  obtain⟨h1,lB,h2,sj,h3,h4⟩:=hc
  obtain⟨a,rfl⟩:=Int.eq_ofNat_of_zero_le h1
  obtain⟨b,rfl⟩:=Int.eq_ofNat_of_zero_le h2
  obtain⟨c,rfl⟩:=Int.eq_ofNat_of_zero_le h3
  cases hy
  rw[run_callFunc_extern hf tH hb hn he]
  have e1:((a+18446744073709551616-b-c:Nat):Int)=(a:Int)+18446744073709551616-b-c:=by omega
  by_cases h:a<b+c
  ·have h':(a:Int)<(b:Int)+(c:Int):=by omega
   simp[vk _ a b c (by omega),Extern.MathBitsCarry.pair,Extern.MathBitsCarry.m64,e1,h,h']
  ·have h': ¬(a:Int)<(b:Int)+(c:Int):=by omega
   simp[vk _ a b c (by omega),Extern.MathBitsCarry.pair,Extern.MathBitsCarry.m64,e1,h,h']
 ·cases hy
end VM
end
section
namespace VM
open Go Go.Shelf Go.RowKit Go.Lib Go.Proofs
variable{P:Program}{ρ:Ren}
noncomputable def Nq(ρ:Ren)(fn:Func):Func:={fn with body:=(Body2.n22 ρ).body,ntmps:=95,results:=(Body2.n22 ρ).results,nfree:=0}
theorem qv(ρ:Ren)(fn:Func):(Nq ρ fn).ntmps=95:=rfl
structure HZ(P:Program)(e:Ty)(ρ:Ren)(f:FuncId)(fn fo:Func):Prop where
 hf:P.funcs[f]? =some (Nq ρ fn)
 t3:P.underlying (ρ.t 3)=some (.int .i64)
 t4:P.underlying (ρ.t 4)=some .bool
 t24:P.underlying (ρ.t 24)=some (.slice (ρ.t 9))
 lay:gu P e (ρ.t 9)
 ll:0<e.size
 mixed:P.follows .mixedOrders=true
set_option maxHeartbeats 4000000 in
set_option maxRecDepth 100000 in
theorem Cz{e:Ty}{f:FuncId}{fn fo:Func}(L:HZ P e ρ f fn fo)(w:World)(base:Option Addr)(n c m vc:Nat)(va:Addr)(v':Value)(w':World)(hm:0<m)(hn:n≤c)
  (El: ∀ty,(Builtin.append_ #[ρ.t 24,ρ.t 24] ty #[.slice base n c,.slice (some va) m vc]).run P w= .ok v' w'):
   Calls P f #[.slice base n c,.int .i64 n,.slice (some va) m vc] w fun r w2=>r= .returned v'∧w2=w':=by
 have u3:=run_underlying L.t3;have u4:=run_underlying L.t4;have u24:=run_underlying L.t24
 have t3:=L.t3;have t4:=L.t4;have t24:=L.t24
 have z9:=fun w=>bX L.lay w
 have mixed:=L.mixed
 have xI: ¬((m:Int)=0):=by omega
 go_enter L.hf,qv ρ fn
 cases base with
 |none=>
   go_wp2_with (at_builtin;refine Lib.wpList_append_run _ rfl _ _ _ _ rfl _ _ rfl rfl _ _ (El _) ?_)
   all_goals (go_ret;exact⟨rfl,rfl⟩)
 |some a=>
   obtain⟨ab,ao,asp⟩:=a
   go_wp2_with (at_builtin;refine Lib.wpList_append_run _ rfl _ _ _ _ rfl _ _ rfl rfl _ _ (El _) ?_)
   all_goals (go_ret;exact⟨rfl,rfl⟩)
theorem run_copy_row{t te e:TypeId}{k:Nat}(ht:P.underlying t=some (.slice e))(hk: ∀w,(Go.sizeOf e).run P w= .ok k w){W:World}{b o adO ajF YA adP n:Nat}{a:Addr}{cs:Array Value}(hg:W.heap[b]? =some (.cells cs te (0,0)))
  {news:List Value} (hnn:Nat.min YA adO=n) (hl:news.length=n*k) (hn: ∀j u,news[j]? =some u→W.cell? (a.add j)=some u) (h1: ∀u∈news,u.oneCell'=true) (Ef:o+news.length≤cs.size) (ty:TypeId):
  (Builtin.copy_ #[t,t] ty #[.slice (some ⟨b,o,none⟩) adO ajF,.slice (some a) YA adP]).run P W= .ok (goInt n) (W.setRow b (df cs.toList o news).toArray):=by
 have hf:=run_firstCells_some (P:=P) W k n a YA adP news hl hn
 have Hi:=run_storeCells_at (P:=P) b o te news 0 cs W hg (by omega) h1
 simp only[Nat.add_zero]at Hi
 simp[Builtin.copy_,run_underlying ht,hk,Builtin.lenOf,hnn,hf,Hi,df]
set_option maxHeartbeats 4000000 in
set_option maxRecDepth 100000 in
theorem K4{e:Ty}{f:FuncId}{fn fo:Func}(L:HZ P e ρ f fn fo)(w:World)(b n c i m vc:Nat)(va:Addr)(CA Nr:Array Value)(hi:i<n)(hm:0<m)(hr:n+m≤c)(ajG:c≤9223372036854775807)
  (hov: ∀x lb cb,(callFunc (ρ.f 29) #[.slice (some va) m vc,.slice (some ⟨b,x,none⟩) lb cb]).run P w= .ok (.value (.bool false)) w)
  (QM: ∀ty dc sc,(Builtin.copy_ #[(ρ.t 24),(ρ.t 24)] ty #[.slice (some ⟨b,(i+m)*e.size,none⟩) (n+m-(i+m)) dc,.slice (some ⟨b,i*e.size,none⟩) (n+m-i) sc]).run P w.drew= .ok (goInt ((n-i:Nat):Int)) (w.drew.setRow b CA))
  (QN: ∀W:World,W.heap=(w.setRow b CA).heap→ ∀ty dc,(Builtin.copy_ #[(ρ.t 24),(ρ.t 24)] ty #[.slice (some ⟨b,i*e.size,none⟩) (n+m-i) dc,.slice (some va) m vc]).run P W= .ok (goInt m) (W.setRow b Nr)):
   Calls P f #[.slice (some ⟨b,0,none⟩) n c,.int .i64 i,.slice (some va) m vc] w fun r w2=>r= .returned (.slice (some ⟨b,0,none⟩) (n+m) c)∧w2=(w.drew.setRow b CA).setRow b Nr:=by
 have u3:=run_underlying L.t3;have u4:=run_underlying L.t4;have u24:=run_underlying L.t24
 have t3:=L.t3;have t4:=L.t4;have t24:=L.t24
 have z9:=fun w=>bX L.lay w
 have mixed:=L.mixed
 have xI: ¬((m:Int)=0):=by omega
 have Ht: ¬((i:Int)=(n:Int)):=by omega
 have hw1:IntKind.i64.wrap ((i:Int)+(m:Int))=(i:Int)+(m:Int):=by rw[IntKind.wrap_i64];omega
 have jD:(0:Int)≤(i:Int)+(m:Int):=by omega
 have ky:i≤n:=by omega
 have KV:((i:Int)+(m:Int)).toNat=i+m:=by omega
 have rQ: ¬(c=i+m):=by omega
 have hb3:(i:Int)≤(n:Int)+(m:Int):=by omega
 have hb4: ¬(c=i):=by omega
 go_enter L.hf,qv ρ fn
 go_wp2_with (simp only[hov])
 go_region_law_o (refine step_copy_runI rfl _ _ (ρ.t 24) (ρ.t 24) rfl _ _ (by simp[Act.eval,Act.put]) (by simp[Act.eval,Act.put]) (QM _ _ _) ?_)
 have h2:=QN (w.drew.setRow b CA) rfl
 go_wp2
 go_ret
 exact⟨rfl,rfl⟩
set_option maxHeartbeats 4000000 in
set_option maxRecDepth 100000 in
theorem Ns{e:Ty}{f:FuncId}{fn fo:Func}(L:HZ P e ρ f fn fo)(w:World)(b n c i m vc nb G:Nat)(va:Addr)(K5 CA Nr:Array Value)(hi:i<n)(hm:0<m)(hnc:n≤c)(hr:c<n+m)(ajG:c≤9223372036854775807)(Wz:n+m≤9223372036854775807)(hG:n+m≤G)(aqO:G≤9223372036854775807)
  (El: ∀ty,(Builtin.append_ #[(ρ.t 24),(ρ.t 3)] ty #[.slice (some ⟨b,0,none⟩) i c,.int .i64 ((n:Int)+(m:Int)-(i:Int))]).run P w= .ok (.slice (some ⟨w.heap.size,0,none⟩) (n+m) G) (w.drew.alloc (.cells K5 (ρ.t 9))))
  (QM: ∀W:World,W.heap=(w.alloc (.cells K5 (ρ.t 9))).heap→ ∀ty dc,(Builtin.copy_ #[(ρ.t 24),(ρ.t 24)] ty #[.slice (some ⟨w.heap.size,i*e.size,none⟩) (n+m-i) dc,.slice (some va) m vc]).run P W= .ok (goInt m) (W.setRow w.heap.size CA))
  (QN: ∀W:World,W.heap=((w.alloc (.cells K5 (ρ.t 9))).setRow w.heap.size CA).heap→ ∀ty dc sc,(Builtin.copy_ #[(ρ.t 24),(ρ.t 24)] ty #[.slice (some ⟨w.heap.size,(i+m)*e.size,none⟩) (n+m-(i+m)) dc,.slice (some ⟨b,i*e.size,none⟩) (n-i) sc]).run P W= .ok (goInt ((n-i:Nat):Int)) (W.setRow w.heap.size Nr)):
   Calls P f #[.slice (some ⟨b,0,none⟩) n c,.int .i64 i,.slice (some va) m vc] w fun r w2=>r= .returned (.slice (some ⟨w.heap.size,0,none⟩) (n+m) G)∧w2=((w.drew.alloc (.cells K5 (ρ.t 9))).setRow w.heap.size CA).drew.setRow w.heap.size Nr:=by
 have u3:=run_underlying L.t3;have u4:=run_underlying L.t4;have u24:=run_underlying L.t24
 have t3:=L.t3;have t4:=L.t4;have t24:=L.t24
 have z9:=fun w=>bX L.lay w
 have mixed:=L.mixed
 have xI: ¬((m:Int)=0):=by omega
 have Ht: ¬((i:Int)=(n:Int)):=by omega
 have hz3:(c:Int)<(n:Int)+(m:Int):=by omega
 have hw1:IntKind.i64.wrap ((i:Int)+(m:Int))=(i:Int)+(m:Int):=by rw[IntKind.wrap_i64];omega
 have jD:(0:Int)≤(i:Int)+(m:Int):=by omega
 have ky:i≤n:=by omega
 have KV:((i:Int)+(m:Int)).toNat=i+m:=by omega
 have hGi: ¬(G=i):=by omega
 have aqP: ¬(G=i+m):=by omega
 have hci: ¬(c=i):=by omega
 have hb3:(i:Int)≤(n:Int):=by omega
 have h1:=QM ((w.alloc (.cells K5 (ρ.t 9))).drew) rfl
 have h2:=QN (((w.alloc (.cells K5 (ρ.t 9))).drew.setRow w.heap.size CA).drew) rfl
 go_enter L.hf,qv ρ fn
 go_wp2_with (first
   |(at_builtin;refine Lib.wpList_append_run _ rfl _ _ _ _ rfl _ _ rfl rfl _ _ (El _) ?_)
   |(at_builtin;refine wpList_copy_runI _ rfl _ _ (ρ.t 24) (ρ.t 24) rfl _ _ rfl rfl (QM _ (by exact rfl) _ _) ?_)
   |(at_builtin;refine wpList_copy_runI _ rfl _ _ (ρ.t 24) (ρ.t 24) rfl _ _ rfl rfl (QN _ (by exact rfl) _ _ _) ?_))
 go_region_law_o (refine step_copy_runI rfl _ _ (ρ.t 24) (ρ.t 24) rfl _ _ (by simp[Act.eval,Act.put]) (by simp[Act.eval,Act.put]) (h2 _ _ _) ?_)
 go_wp2
 go_ret
 exact⟨rfl,rfl⟩
theorem xL{α:Type}(A Z news:List α):df (A++Z) A.length news=A++(news++Z.drop news.length):=by
 unfold df
 rw[List.take_left' rfl,List.append_assoc,←List.drop_drop,List.drop_left' rfl]
theorem mm.adQ{w:World}{M:Nat→Prop}{e:Ty}{cs:List Value}{l:List e.den}(h:mm w M e cs l)(i:Nat):mm w M e (cs.take (i*e.size)) (l.take i):=by
 intro j hj
 rw[List.length_take]at hj
 have:=cO (s:=e.size) (show j<i by omega)
 rw[List.drop_take,List.take_take,Nat.min_eq_left (by omega),List.getElem_take]
 exact h j (by omega)
theorem mm.adR{w:World}{M:Nat→Prop}{e:Ty}{cs:List Value}{l:List e.den}(h:mm w M e cs l)(i:Nat):mm w M e ((cs.drop (i*e.size)).take ((l.length-i)*e.size)) (l.drop i):=by
 intro j hj
 rw[List.length_drop]at hj
 have:=cO (s:=e.size) hj
 rw[List.drop_take,List.take_take,Nat.min_eq_left (by omega),List.drop_drop,List.getElem_drop,←Nat.add_mul]
 exact h (i+j) (by omega)
theorem rj{w w':World}{M0:Nat→Prop}{hs:List Nat}{e:Ty}{rb cap:Nat}{row:Array Value}{t:TypeId}{l:List e.den}(nn: ∀b,M0 b→b<w.heap.size)(qq: ∀b∈hs,¬M0 b)
  (WB: ∀b,b<w.heap.size→b∉hs→w'.heap[b]? =w.heap[b]?) (nE:w.heap.size≤w'.heap.size) (hrb:rb<w.heap.size→rb∈hs) (hos:w'.os=w.os) (htp:w'.tape=w.tape) (HM:w'.output=w.output)
  (HN:w'.heap[rb]? =some (.cells row t (0,0))) (h0:0<cap) (hl:l.length≤cap) (hm:cap≤maxLen) (hrs:row.size=cap*e.size) (gO:mm w (fun b=>M0 b∨b∈hs) e row.toList l):
  ∃us M',Value.slice (some ⟨rb,0,none⟩) l.length cap=qm us∧RR w' M' [.own e] l us []∧Left w M0 hs w' M'∧(aZ [.own e] us []).Nodup∧ ∀b∈aZ [.own e] us [],¬M0 b:=by
 have HH:rb<w'.heap.size:=(Array.getElem?_eq_some_iff.1 HN).1
 have hk:dd w (fun b=>M0 b∨b∈hs) w' (fun b=>M0 b∨b=rb):=⟨nE,fun b hb hn=>WB b hb (fun h=>hn (.inr h)),fun b hb h=>h.elim .inl (fun e=> .inr (e▸hrb (e▸hb)))⟩
 have rP:aZ [.own e] [Value.slice (some ⟨rb,0,none⟩) l.length cap] []=[rb]:=by
  have:cap≠0:=by omega
  simp[aZ,cm,AM.fD,dX,this]
 refine⟨[.slice (some ⟨rb,0,none⟩) l.length cap],fun b=>M0 b∨b=rb,rfl,?_,?_,?_,?_⟩
 ·simp only[RR]
  refine .inr ⟨_,[],rfl,rfl,rfl,?_,rfl,trivial⟩
  simp only[A1,ER,p3]
  exact .inr ⟨rb,row,t,cap,rfl,HN,.inr rfl,h0,hl,hm,hrs,gO.bB hk⟩
 ·exact⟨fun b h=> .inl h,fun b h=>h.elim (fun h=>Nat.lt_of_lt_of_le (nn b h) nE) (fun h=>h▸HH),fun b hb h=>h.elim .inl (fun e=> .inr (e▸hrb (e▸hb))),WB,nE,hos,htp,HM⟩
 ·rw[rP];simp
 ·rw[rP]
  intro b hb h
  rw[List.mem_singleton]at hb
  subst hb
  exact qq b (hrb (nn b h)) h
theorem setRow_other(w:World){b c:Nat}(r:Array Value)(h:c≠b):(w.setRow b r).heap[c]? =w.heap[c]? :=by
 unfold World.setRow
 rw[Array.getElem?_modify,if_neg (fun e=>h e.symm)]
theorem setRow_size(w:World)(b:Nat)(r:Array Value):(w.setRow b r).heap.size=w.heap.size:=by
 unfold World.setRow;simp
theorem alloc_old(w:World)(o:Obj){c:Nat}(h:c<w.heap.size):(w.alloc o).heap[c]? =w.heap[c]? :=by
 show(w.heap.push o)[c]? =_
 rw[Array.getElem?_push,if_neg (by omega)]
theorem lV(w:World)(o:Obj):(w.alloc o).heap[w.heap.size]? =some o:=by
 show(w.heap.push o)[w.heap.size]? =_
 simp
theorem jV(w:World)(o:Obj):(w.alloc o).heap.size=w.heap.size+1:=by
 show(w.heap.push o).size=_
 simp
theorem oW{w:World}{b:Nat}{cs:Array Value}{t:TypeId}{f:Nat×Nat}(h:w.heap[b]? =some (.cells cs t f))(o n:Nat): ∀j u,((cs.toList.drop o).take n)[j]? =some u→w.cell? ((⟨b,o,none⟩:Addr).add j)=some u:=by
 intro j u hj
 rw[Addr.add_lit]
 rw[List.getElem?_take]at hj
 split at hj
 ·rw[List.getElem?_drop,Array.getElem?_toList]at hj
  simp only[World.cell?,h]
  simpa using hj
 ·cases hj
theorem JH{w:World}{M:Nat→Prop}{v:Value}{e:Ty}{l:List e.den}(h:ER w M v (.own e l)):(l=[]∧ ∃a,v= .slice a 0 0)∨
 ∃b cs t cap,v= .slice (some ⟨b,0,none⟩) l.length cap∧w.heap[b]? =some (.cells cs t (0,0))∧M b∧0<cap∧l.length≤cap∧cap≤maxLen∧cs.size=cap*e.size∧mm w M e cs.toList l:=h
end VM
end
section
namespace VM
open Go Go.Shelf Go.RowKit Go.Lib Go.Proofs
variable{P:Program}{ρ:Ren}
theorem yN{w:World}{t e':TypeId}{e:Ty}(hu:P.underlying t=some (.slice e'))(hle:gu P e e'){n m cap cp:Nat}{olds news:List Value}{base:Option Addr}{a':Addr}(MM:base=none→n=0∧cap=0)
  (xa:olds.length=n*e.size) (ho: ∀b,base=some b→ ∀j u,olds[j]? =some u→w.cell? (b.add j)=some u) (PM:news.length=m*e.size) (hn: ∀j u,news[j]? =some u→w.cell? (a'.add j)=some u)
  (hg:cap<n+m) (hs:n+m<s8):
  ∃jk rest,(∀ty,(Builtin.append_ #[t,t] ty #[.slice base n cap,.slice (some a') m cp]).run P w= .ok (.slice (some ⟨w.heap.size,0,none⟩) (n+m) jk) (w.drew.alloc (.cells (olds++news++rest).toArray e')))∧
   n+m≤jk∧jk≤maxLen∧rest.length=(jk-(n+m))*e.size:=by
 obtain⟨i,hi,nE,hz,X3⟩:=hle.base
 have hzs:(bE e e.bZ).cells.size=e.size:=by rw[←Array.length_toList,ej,kj]
 have Wz:n+m≤maxLen:=by simp only[s8,maxLen]at hs ⊢;omega
 have Ef:(n+m)*i.bytes≤140737488355328:=by
  have:(n+m)*i.bytes≤68719476736*2048:=Nat.mul_le_mul (by simp only[s8]at hs;omega) X3
  omega
 refine⟨grownCap w (n+m) cap e',(Builtin.zeroCells (bE e e.bZ).cells (grownCap w (n+m) cap e'-(n+m))).toList,fun ty=> ?_,grownCap_ge _ _ _ _,grownCap_le_maxLen _ _ _ _ Wz,?_⟩
 ·cases base with
  |none=>
   obtain⟨rfl,rfl⟩:=MM rfl
   have ho0:olds=[]:=List.eq_nil_of_length_eq_zero (by rw[xa];simp)
   subst ho0
   have:=run_append_nil (P:=P) w t ty e' i _ hu hi hz a' m cp news (by rw[PM,nE]) hn (by simpa using hg) (by simp only[s8]at hs;omega) (by simp at Ef;omega)
   simp only[Nat.zero_add,List.nil_append]
   rw[this]
   congr 2
   apply congrArg (fun z=>Obj.cells z e' (0,0))
   apply Array.ext';simp
  |some b=>
   have:=run_append_grow (P:=P) w t ty e' i _ hu hi hz b n cap olds (by rw[xa,nE]) (ho b rfl) a' m cp news (by rw[PM,nE]) hn hg (by simp only[s8]at hs;omega) (growslice_fits hg Ef)
   rw[this]
   congr 2
   apply congrArg (fun z=>Obj.cells z e' (0,0))
   apply Array.ext';simp
 ·rw[Array.length_toList,size_zeroCells,hzs]
theorem K6{w:World}{t tn e':TypeId}{e:Ty}(hu:P.underlying t=some (.slice e'))(KV:P.underlying tn=some (.int .i64))(hle:gu P e e')(Yu:0<e.size){n k cap:Nat}{olds:List Value}{b:Addr}
  (xa:olds.length=n*e.size) (ho: ∀j u,olds[j]? =some u→w.cell? (b.add j)=some u) (hk:0<k) (hg:cap<n+k) (hs:n+k<s8):
  ∃jk rest,(∀ty,(Builtin.append_ #[t,tn] ty #[.slice (some b) n cap,.int .i64 k]).run P w= .ok (.slice (some ⟨w.heap.size,0,none⟩) (n+k) jk) (w.drew.alloc (.cells (olds++rest).toArray e')))∧
   n+k≤jk∧jk≤maxLen∧rest.length=(jk-n)*e.size:=by
 obtain⟨i,hi,nE,hz,X3⟩:=hle.base
 have hzs:(bE e e.bZ).cells.size=e.size:=by rw[←Array.length_toList,ej,kj]
 have Wz:n+k≤maxLen:=by simp only[s8,maxLen]at hs ⊢;omega
 have Ef:(n+k)*i.bytes≤140737488355328:=by
  have:(n+k)*i.bytes≤68719476736*2048:=Nat.mul_le_mul (by simp only[s8]at hs;omega) X3
  omega
 have hkb:k*i.bytes≤281474976710656:=by
  have:k*i.bytes≤(n+k)*i.bytes:=Nat.mul_le_mul_right _ (by omega)
  omega
 have PS:=grownCap_ge w (n+k) cap e'
 refine⟨grownCap w (n+k) cap e',(Builtin.zeroCells (bE e e.bZ).cells k++Builtin.zeroCells (bE e e.bZ).cells (grownCap w (n+k) cap e'-(n+k))).toList,fun ty=> ?_,PS,grownCap_le_maxLen _ _ _ _ Wz,?_⟩
 ·have hold:(Builtin.firstCells i.size n (.slice (some b) n cap)).run P w.drew= .ok olds.toArray w.drew:=run_firstCells_some w.drew i.size n b n cap olds (by rw[xa,nE]) (fun j u hj=>ho j u hj)
  have:=Lib.run_append_grow_zeros w t tn ty e' i _ .i64 .i64 hu KV hi hz (some b) n cap olds hold k hk (by rw[nE];exact Yu) hg (by simp only[s8]at hs;omega) hkb (growslice_fits hg Ef)
  rw[this]
  congr 2
  apply congrArg (fun z=>Obj.cells z e' (0,0))
  apply Array.ext';simp
 ·rw[Array.toList_append,List.length_append,Array.length_toList,Array.length_toList,size_zeroCells,size_zeroCells,hzs,←Nat.add_mul]
  congr 1;omega
structure OvP(P:Program)(ρ:Ren)(fo:Func):Prop where
 hf:P.funcs[ρ.f 29]? =some fo
 name:(fo.name== "runtime.NumGoroutine")=false
 body:fo.body.isNone=true
 next:Extern.findNext fo=none
 find:Extern.find fo=some (Extern.SlicesOverlaps.overlaps #[ρ.t 24,ρ.t 24] #[ρ.t 4])
theorem sK{e:Ty}{f:FuncId}{fn fo:Func}(L:HZ P e ρ f fn fo)(O:OvP P ρ fo)(tH:(fn.name== "runtime.NumGoroutine")=false)(Nt:(Body2.n22 ρ).body.isNone=false)(N:Nat):eM P f (gr e N):=by
 refine⟨(fun h=>by cases h),rfl,fun M0 w vs x y nn hA tE qq hy=> ?_⟩
 obtain⟨l,i,v⟩:=x
 have JC:gq N l i v=some y:=hy
 clear hy
 simp only[gr,fN]at hA
 obtain⟨v0,PT,rfl,h0,v1,vs2,rfl,h1,v2,vs3,rfl,h2,rfl⟩:=hA
 simp only[gq]at JC
 split at JC
 case isFalse=>cases JC
 rename_i hc
 cases JC
 obtain⟨hi0,Ai,D9,CB⟩:=hc
 obtain⟨i,rfl⟩:=Int.eq_ofNat_of_zero_le hi0
 have adS:i≤l.length:=by omega
 simp only[A1,p3,uT,V,Ty.isAgg,Bool.false_eq_true,if_false,Rd,List.cons.injEq,and_true]at h0 h1 h2
 subst h1
 have hk:=L.ll
 replace D9:List.length (α:=e.den) v=1:=D9
 rcases JH h2 with⟨QD,_⟩|⟨b2,XR,t2,tM,Qi,MA,Cg,X4,hl2,tk,WJ,PJ⟩
 ·rw[QD]at D9;cases D9
 replace Qi:v2= .slice (some ⟨b2,0,none⟩) 1 tM:=by rw[Qi];congr 1
 subst Qi
 have Qg:e.size≤XR.toList.length:=by
  rw[Array.length_toList (xs:=XR),WJ]
  exact Nat.le_mul_of_pos_left _ X4
 obtain⟨news,Nu⟩: ∃news,news=XR.toList.take e.size:=⟨_,rfl⟩
 have AX:news.length=1*e.size:=by rw[Nu,List.length_take,Nat.one_mul];omega
 have hnr:mm w (fun b=>M0 b∨b∈cA (gr e N).args [v0,.int .i64 (i:Int),.slice (some ⟨b2,0,none⟩) 1 tM]) e news v:=by
  rw[Nu];exact PJ.take (by rw[D9,Nat.one_mul];exact Nat.le_refl _)
 have hnc: ∀j u,news[j]? =some u→w.cell? ((⟨b2,0,none⟩:Addr).add j)=some u:=by
  have:=oW MA 0 e.size
  rw[List.drop_zero]at this
  rw[Nu];exact this
 have hn1: ∀u∈news,u.oneCell'=true:=by
  have:=hnr 0 (by omega)
  rw[Nat.zero_mul,List.drop_zero,List.take_of_length_le (by omega)]at this
  exact this.ki
 have rQ:dX (.slice (some ⟨b2,0,none⟩) 1 tM)=some b2:=by simp[dX];omega
 replace CB:List.length (α:=e.den) l+1<s8:=CB
 have WK:(List.take i l++(v++List.drop i l)).length=l.length+1:=by rw[List.length_append,List.length_append,List.length_take,List.length_drop,D9];omega
 have hbn:(Nq ρ fn).body.isNone=false:=Nt
 refine nU L.hf tH hbn ?_
 rcases JH h0 with⟨rfl,ad,rfl⟩|⟨b1,ta,t1,xd,rfl,Hm,hM1,Cn,YB,oe,Hj,Nv⟩
 ·
  have hi:i=0:=by simpa using adS
  subst hi
  obtain⟨jk,rest,ct,KY,gy,HH⟩:=yN (P:=P) (w:=w) L.t24 L.lay (n:=0) (m:=1) (cap:=0) (cp:=tM) (olds:=[]) (news:=news) (base:=ad) (a':=⟨b2,0,none⟩) (fun _=>⟨rfl,rfl⟩) (by simp) (fun _ _ j u hj=>by simp at hj) AX hnc (by omega) (by simp only[s8];omega)
  refine(Cz L w ad 0 0 1 tM ⟨b2,0,none⟩ _ _ (by omega) (Nat.le_refl _) ct).mono ?_
  rintro e1 w' ⟨rfl,rfl⟩
  refine⟨_,rfl,?_⟩
  simp only[Nat.zero_add]at KY HH
  have hv:v=v++[]:=by simp
  have:=rj (e:=e) (rb:=w.heap.size) (cap:=jk) (l:=v) (t:=ρ.t 9) (w:=w) (w':=w.drew.alloc (.cells ([]++news++rest).toArray (ρ.t 9))) nn qq (fun b hb _=>alloc_old w.drew _ hb) (by rw[jV];exact Nat.le_succ _) (fun h=>absurd h (Nat.lt_irrefl _)) rfl rfl rfl (lV w.drew _) (by omega) (by omega) gy
   (by simp only[List.nil_append,List.size_toArray,List.length_append,AX,HH,←Nat.add_mul];congr 1;omega) (by simpa using hnr.more (cs':=rest) (by rw[D9,AX];exact Nat.le_refl _))
  rw[D9]at this
  simpa [gr,dm,AM.fD]using this
 ·have jD:dX (.slice (some ⟨b1,0,none⟩) l.length xd)=some b1:=by simp[dX];omega
  have hh:cA (gr e N).args [.slice (some ⟨b1,0,none⟩) l.length xd,.int .i64 (i:Int),.slice (some ⟨b2,0,none⟩) 1 tM]=[b1,b2]:=by simp[gr,cA,cm,jD,rQ]
  rw[hh]at tE qq hnr ⊢
  replace Nv:mm w (fun b=>M0 b∨b∈[b1,b2]) e ta.toList l:=by rw[←hh];exact Nv
  have g7:b1≠b2:=by simpa using tE
  have ajL:b1<w.heap.size:=(Array.getElem?_eq_some_iff.1 Hm).1
  have acX:b2<w.heap.size:=(Array.getElem?_eq_some_iff.1 MA).1
  have og:l.length*e.size≤ta.toList.length:=by rw[Array.length_toList (xs:=ta),Hj];exact Nat.mul_le_mul_right _ YB
  have hik:i*e.size≤l.length*e.size:=Nat.mul_le_mul_right _ adS
  obtain⟨A,hAe⟩: ∃A,A=ta.toList.take (i*e.size):=⟨_,rfl⟩
  obtain⟨mid,YC⟩: ∃mid,mid=(ta.toList.drop (i*e.size)).take ((l.length-i)*e.size):=⟨_,rfl⟩
  have JI:A.length=i*e.size:=by rw[hAe,List.length_take];omega
  have AW:mid.length=(l.length-i)*e.size:=by
   rw[YC,List.length_take,List.length_drop,Nat.sub_mul];omega
  have hAr:=Nv.adQ i
  have hmr:=Nv.adR i
  rw[←hAe]at hAr
  rw[←YC]at hmr
  have hti:(l.take i).length=i:=by rw[List.length_take];omega
  have JJ: ∀rest:List Value,mm w (fun b=>M0 b∨b∈[b1,b2]) e (A++(news++(mid++rest))) (l.take i++(v++l.drop i)):=fun rest=>
   hAr.append (by rw[JI,hti]) (hnr.append (by rw[AX,D9]) (hmr.more (by rw[List.length_drop,AW];exact Nat.le_refl _)))
  have hAc: ∀j u,A[j]? =some u→w.cell? ((⟨b1,0,none⟩:Addr).add j)=some u:=by
   have:=oW Hm 0 (i*e.size)
   rw[List.drop_zero]at this
   rw[hAe];exact this
  have hmc: ∀j u,mid[j]? =some u→w.cell? ((⟨b1,i*e.size,none⟩:Addr).add j)=some u:=by
   rw[YC];exact oW Hm (i*e.size) _
  have adV: ∀u∈mid,u.oneCell'=true:=by
   intro u hu
   obtain⟨j,hj,rfl⟩:=List.mem_iff_getElem.1 hu
   rw[AW]at hj
   have hq:j/e.size<l.length-i:=Nat.div_lt_of_lt_mul (by rw[Nat.mul_comm];exact hj)
   have:=(hmr (j/e.size) (by rw[List.length_drop];exact hq)).ki
   refine this _ ?_
   have hjm:j/e.size*e.size+j%e.size=j:=by rw[Nat.mul_comm];exact Nat.div_add_mod j e.size
   have z8:j%e.size<e.size:=Nat.mod_lt _ hk
   rw[List.mem_iff_getElem?]
   refine⟨j%e.size,?_⟩
   rw[List.getElem?_take,if_pos z8,List.getElem?_drop,hjm]
   exact List.getElem?_eq_getElem _
  by_cases ky:i=l.length
  ·
   subst ky
   have X1:mid=[]:=List.eq_nil_of_length_eq_zero (by rw[AW];simp)
   by_cases tA:l.length+1≤xd
   ·obtain⟨ie,hie,nE,_⟩:=L.lay.base
    have ct: ∀ty,(Builtin.append_ #[ρ.t 24,ρ.t 24] ty #[.slice (some ⟨b1,0,none⟩) l.length xd,.slice (some ⟨b2,0,none⟩) 1 tM]).run P w=_:=fun ty=>
     Ee (ty:=ty) (cp:=tM) L.t24 hie Hm (by rw[nE];exact Hj) (by rw[nE];exact AX) hnc hn1 tA
    refine(Cz L w _ _ _ 1 tM ⟨b2,0,none⟩ _ _ (by omega) YB ct).mono ?_
    rintro e1 w' ⟨rfl,rfl⟩
    refine⟨_,rfl,?_⟩
    rw[nE]
    have HN:df ta.toList (l.length*e.size) news=A++(news++(mid++ta.toList.drop (l.length*e.size+news.length))):=by
     rw[X1,hAe];simp[df]
    have:=rj (e:=e) (rb:=b1) (cap:=xd) (l:=l.take l.length++(v++l.drop l.length)) (t:=t1) (w:=w) (w':=w.setRow b1 (df ta.toList (l.length*e.size) news).toArray) nn qq (fun b hb hn=>setRow_other w _ (fun e=>hn (by simp[e]))) (by rw[setRow_size];exact Nat.le_refl _) (fun _=>by simp) rfl rfl rfl (setRow_heap w b1 ta _ t1 _ Hm) Cn (by rw[WK];exact tA) oe
     (by
      have:=cO (s:=e.size) (show l.length<xd by omega)
      rw[HN,List.size_toArray]
      simp only[List.length_append,X1,List.length_nil,List.length_drop,Array.length_toList,JI,AX,Hj]
      omega)
     (by rw[HN];exact JJ _)
    rw[WK]at this
    simpa [gr,dm,AM.fD]using this
   ·obtain⟨jk,rest,ct,KY,gy,HH⟩:=yN (P:=P) (w:=w) L.t24 L.lay (n:=l.length) (m:=1) (cap:=xd) (cp:=tM) (olds:=A) (news:=news) (base:=some ⟨b1,0,none⟩) (a':=⟨b2,0,none⟩) (fun h=>by cases h) JI (fun b hb=>by cases hb;exact hAc) AX hnc (by omega) CB
    refine(Cz L w _ _ _ 1 tM ⟨b2,0,none⟩ _ _ (by omega) YB ct).mono ?_
    rintro e1 w' ⟨rfl,rfl⟩
    refine⟨_,rfl,?_⟩
    have:=rj (e:=e) (rb:=w.heap.size) (cap:=jk) (l:=l.take l.length++(v++l.drop l.length)) (t:=ρ.t 9) (w:=w) (w':=w.drew.alloc (.cells (A++news++rest).toArray (ρ.t 9))) nn qq (fun b hb _=>alloc_old w.drew _ hb) (by rw[jV];exact Nat.le_succ _) (fun h=>absurd h (Nat.lt_irrefl _)) rfl rfl rfl (lV w.drew _) (by omega) (by rw[WK];exact KY) gy
     (by simp only[List.size_toArray,List.length_append,JI,AX,HH,←Nat.add_mul];congr 1;omega) (by have:=JJ rest;rw[X1,List.nil_append,←List.append_assoc]at this;exact this)
    rw[WK]at this
    simpa [gr,dm,AM.fD]using this
  ·have YD:i<l.length:=by omega
   have Qr:i*e.size+e.size≤l.length*e.size:=cO YD
   have e1k:(i+1)*e.size=A.length+news.length:=by rw[JI,AX,Nat.add_mul]
   have yp:Nat.min 1 (l.length+1-i)=1:=Nat.min_eq_left (by omega)
   by_cases tA:l.length+1≤xd
   ·
    have adW:l.length*e.size+e.size≤ta.toList.length:=by rw[Array.length_toList (xs:=ta),Hj];exact cO (by omega)
    have hsh: ∀(b:Nat) (c:Array Value) (t:TypeId),w.heap[b]? =some (.cells c t (0,0))→w.shape? b=some (t,c.size):=fun b c t h=>by simp[World.shape?,h]
    obtain⟨B,hB⟩: ∃B,B=ta.toList.drop (i*e.size):=⟨_,rfl⟩
    have adX:ta.toList=A++B:=by rw[hAe,hB,List.take_append_drop]
    have hBl:B.length=ta.toList.length-i*e.size:=by rw[hB,List.length_drop]
    have hBk:(B.take e.size).length=e.size:=by rw[List.length_take];omega
    have EH:df ta.toList ((i+1)*e.size) mid=A++(B.take e.size++(mid++(B.drop e.size).drop mid.length)):=by
     have:ta.toList=(A++B.take e.size)++B.drop e.size:=by rw[List.append_assoc,List.take_append_drop];exact adX
     rw[this,show(i+1)*e.size=(A++B.take e.size).length from by rw[List.length_append,hBk,JI,Nat.add_mul,Nat.one_mul],xL,List.append_assoc]
    have EI:df (df ta.toList ((i+1)*e.size) mid) (i*e.size) news=A++(news++(mid++(B.drop e.size).drop mid.length)):=by
     rw[EH,←JI,xL,AX,Nat.one_mul,List.drop_left' hBk]
    refine(K4 L w b1 l.length xd i 1 tM ⟨b2,0,none⟩ (df ta.toList ((i+1)*e.size) mid).toArray (df (df ta.toList ((i+1)*e.size) mid) (i*e.size) news).toArray YD (by omega) tA (by simp only[maxLen]at oe;omega) (fun x lb cb=> ?_) (fun ty dc sc=> ?_) (fun W hW ty dc=> ?_)).mono ?_
    ·rw[run_callFunc_extern O.hf O.name O.body O.next O.find,
      Lib.run_overlaps_apart w (ρ.t 24) (ρ.t 4) (ρ.t 9) L.t24 e.size (fun w=>bX L.lay w) ⟨b2,0,none⟩ ⟨b1,x,none⟩ 1 tM lb cb (Ne.symm g7) t2 t1 XR.size ta.size (hsh b2 XR t2 MA) (hsh b1 ta t1 Hm) (by rw[Hj];exact Nat.ne_of_gt (Nat.mul_pos Cn hk)) (by simp[World.frozen?,MA]) (by simp[World.frozen?,MA])]
     rfl
    ·exact run_copy_row (P:=P) (W:=w.drew) L.t24 (fun w=>bX L.lay w) (cs:=ta) Hm (news:=mid) (n:=l.length-i) (by simp only[Nat.min_def];split<;>omega) AW hmc adV (by rw[AW,Nat.add_mul,Nat.one_mul];rw[Array.length_toList (xs:=ta)]at adW;rw[Nat.sub_mul];omega) ty
    ·exact run_copy_row (P:=P) (W:=W) L.t24 (fun w=>bX L.lay w) (cs:=(df ta.toList ((i+1)*e.size) mid).toArray) (te:=t1) (by rw[hW];exact setRow_heap w b1 ta _ t1 _ Hm) (news:=news) (n:=1) yp AX
      (fun j u hj=>by
       have:=hnc j u hj
       rw[Addr.add_lit]at this ⊢
       rw[show W.cell? ⟨b2,0+j,none⟩=w.cell? ⟨b2,0+j,none⟩from World.cell?_of_block (by rw[hW];exact setRow_other w _ (Ne.symm g7))]
       exact this) hn1 (by
       rw[List.size_toArray,EH]
       simp only[List.length_append,hBk,JI,AX]
       omega) ty
    ·rintro e1 w' ⟨rfl,rfl⟩
     refine⟨_,rfl,?_⟩
     have:=rj (e:=e) (rb:=b1) (cap:=xd) (l:=l.take i++(v++l.drop i)) (t:=t1) (w:=w) (w':=(w.drew.setRow b1 (df ta.toList ((i+1)*e.size) mid).toArray).setRow b1 (df (df ta.toList ((i+1)*e.size) mid) (i*e.size) news).toArray) nn qq
      (fun b hb hn=>(setRow_other _ _ (fun e=>hn (by simp[e]))).trans (setRow_other _ _ (fun e=>hn (by simp[e])))) (by rw[setRow_size,setRow_size];exact Nat.le_refl _) (fun _=>by simp) rfl rfl rfl (setRow_heap _ b1 _ _ t1 _ (setRow_heap w.drew b1 ta _ t1 _ Hm)) Cn (by rw[WK];exact tA) oe
      (by
       rw[EI,List.size_toArray]
       rw[Array.length_toList (xs:=ta)]at adW hBl
       simp only[List.length_append,List.length_drop,JI,AX,AW,hBl,Nat.sub_mul]
       omega)
      (by rw[EI];exact JJ _)
     rw[WK]at this
     simpa [gr,dm,AM.fD]using this
   ·
    obtain⟨jk,Z,ct,KY,gy,hZl⟩:=K6 (P:=P) (w:=w) L.t24 L.t3 L.lay hk (n:=i) (k:=l.length+1-i) (cap:=xd) (olds:=A) (b:=⟨b1,0,none⟩) JI hAc (by omega) (by omega) (by omega)
    have ajO:i+(l.length+1-i)=l.length+1:=by omega
    rw[ajO]at ct KY
    have hZk:(l.length+1-i)*e.size≤Z.length:=by rw[hZl];exact Nat.mul_le_mul_right _ (by omega)
    rw[Nat.sub_mul,Nat.add_mul,Nat.one_mul]at hZk
    have EH:df (A++Z) (i*e.size) news=A++(news++Z.drop news.length):=by rw[←JI,xL]
    have EI:df (df (A++Z) (i*e.size) news) ((i+1)*e.size) mid=A++(news++(mid++(Z.drop news.length).drop mid.length)):=by
     rw[EH,←List.append_assoc,e1k,←List.length_append,xL,List.append_assoc]
    have hnb:w.heap.size≠b1:=by omega
    have aqY:b2≠w.heap.size:=by omega
    refine(Ns L w b1 l.length xd i 1 tM 0 jk ⟨b2,0,none⟩ (A++Z).toArray (df (A++Z) (i*e.size) news).toArray (df (df (A++Z) (i*e.size) news) ((i+1)*e.size) mid).toArray YD (by omega) YB (by omega) (by simp only[maxLen]at oe;omega) (by simp only[s8]at CB;omega) KY (by simp only[maxLen]at gy;omega) (fun ty=> ?_) (fun W hW ty dc=> ?_) (fun W hW ty dc sc=> ?_)).mono ?_
    ·have:=ct ty
     rw[show(((l.length+1-i:Nat):Int))=(l.length:Int)+(1:Nat)-(i:Int)from by omega]at this
     exact this
    ·exact run_copy_row (P:=P) (W:=W) L.t24 (fun w=>bX L.lay w) (cs:=(A++Z).toArray) (te:=ρ.t 9) (by rw[hW];exact lV w _) (news:=news) (n:=1) yp AX
      (fun j u hj=>by
       have:=hnc j u hj
       rw[Addr.add_lit]at this ⊢
       rw[show W.cell? ⟨b2,0+j,none⟩=w.cell? ⟨b2,0+j,none⟩from World.cell?_of_block (by rw[hW];exact alloc_old w _ acX)]
       exact this) hn1 (by rw[List.size_toArray,List.length_append,JI,AX];omega) ty
    ·exact run_copy_row (P:=P) (W:=W) L.t24 (fun w=>bX L.lay w) (cs:=(df (A++Z) (i*e.size) news).toArray) (te:=ρ.t 9) (by rw[hW];exact setRow_heap _ _ _ _ _ _ (lV w _)) (news:=mid) (n:=l.length-i) (by simp only[Nat.min_def];split<;>omega) AW
      (fun j u hj=>by
       have:=hmc j u hj
       rw[Addr.add_lit]at this ⊢
       rw[show W.cell? ⟨b1,i*e.size+j,none⟩=w.cell? ⟨b1,i*e.size+j,none⟩from World.cell?_of_block (by rw[hW];exact(setRow_other _ _ (Ne.symm hnb)).trans (alloc_old w _ ajL))]
       exact this) adV (by
       rw[List.size_toArray,EH]
       simp only[List.length_append,List.length_drop,JI,AX,AW,Nat.add_mul,Nat.sub_mul]
       omega) ty
    ·rintro e1 w' ⟨rfl,rfl⟩
     refine⟨_,rfl,?_⟩
     have hg':((w.drew.alloc (.cells (A++Z).toArray (ρ.t 9))).setRow w.heap.size (df (A++Z) (i*e.size) news).toArray).drew.heap[w.heap.size]? =some (.cells (df (A++Z) (i*e.size) news).toArray (ρ.t 9) (0,0)):=setRow_heap _ _ _ _ _ _ (lV w.drew _)
     have:=rj (e:=e) (rb:=w.heap.size) (cap:=jk) (l:=l.take i++(v++l.drop i)) (t:=ρ.t 9) (w:=w) (w':=((w.drew.alloc (.cells (A++Z).toArray (ρ.t 9))).setRow w.heap.size (df (A++Z) (i*e.size) news).toArray).drew.setRow w.heap.size (df (df (A++Z) (i*e.size) news) ((i+1)*e.size) mid).toArray) nn qq
      (fun b hb hn=>(setRow_other _ _ (by omega)).trans ((setRow_other _ _ (by omega)).trans (alloc_old w.drew _ hb))) (by rw[setRow_size];show _≤(World.setRow _ _ _).heap.size;rw[setRow_size,jV];exact Nat.le_succ _) (fun h=>absurd h (Nat.lt_irrefl _)) rfl rfl rfl (setRow_heap _ _ _ _ _ _ hg') (by omega) (by rw[WK];exact KY) gy
      (by
       rw[EI,List.size_toArray]
       have hmul:(jk-i)*e.size=jk*e.size-i*e.size:=Nat.sub_mul _ _ _
       have hci:i*e.size≤jk*e.size:=Nat.mul_le_mul_right _ (by omega)
       simp only[List.length_append,List.length_drop,JI,AX,AW,hZl,hmul,Nat.sub_mul]at hZk ⊢
       omega)
      (by rw[EI];exact JJ _)
     rw[WK]at this
     simpa [gr,dm,AM.fD]using this
end VM
end
section
namespace VM
open Go Go.Shelf Go.RowKit Go.Lib Go.Proofs
variable{P:Program}{ρ:Ren}
noncomputable def Nw(ρ:Ren)(fn:Func):Func:={fn with body:=(Body2.n15 ρ).body,ntmps:=8,results:=(Body2.n15 ρ).results,nfree:=0}
theorem wu(ρ:Ren)(fn:Func):(Nw ρ fn).ntmps=8:=rfl
structure CC(P:Program)(e:Ty)(ρ:Ren)(f:FuncId)(fn:Func):Prop where
 hf:P.funcs[f]? =some (Nw ρ fn)
 t4:P.underlying (ρ.t 4)=some .bool
 t22:P.underlying (ρ.t 22)=some (.slice (ρ.t 3))
 lay:gu P e (ρ.t 3)
 ll:0<e.size
 mixed:P.follows .mixedOrders=true
set_option maxHeartbeats 4000000 in
set_option maxRecDepth 100000 in
theorem K7{e:Ty}{f:FuncId}{fn:Func}(L:CC P e ρ f fn)(w:World)(n c:Nat):
  Calls P f #[.slice none n c] w fun r w2=>r= .returned (.slice none 0 0)∧w2=w:=by
 have u22:=run_underlying L.t22
 have t4:=L.t4;have t22:=L.t22
 have z3:=fun w=>bX L.lay w
 have mixed:=L.mixed
 have q22: ∀(w:World) (a:Option Addr) (n c n' c':Nat),(binOp .eql (ρ.t 22) (.slice a n c) (.slice none n' c')).run P w= .ok (.bool a.isNone) w:=fun w a n c n' c'=>Lib.run_eql_slice_nil w _ _ a n c n' c' L.t22
 go_enter L.hf,wu ρ fn
 go_wp2
 go_ret
 exact⟨rfl,rfl⟩
set_option maxHeartbeats 4000000 in
set_option maxRecDepth 100000 in
theorem yO{e:Ty}{f:FuncId}{fn:Func}(L:CC P e ρ f fn)(w:World)(a:Addr)(n c:Nat)(v':Value)(w':World)
  (El: ∀ty,(Builtin.append_ #[ρ.t 22,ρ.t 22] ty #[.slice (some ⟨w.heap.size,0,none⟩) 0 0,.slice (some a) n c]).run P (w.alloc (.cells #[] (ρ.t 3)))= .ok v' w'):
   Calls P f #[.slice (some a) n c] w fun r w2=>r= .returned v'∧w2=w':=by
 have u22:=run_underlying L.t22
 have t4:=L.t4;have t22:=L.t22
 have z3:=fun w=>bX L.lay w
 have mixed:=L.mixed
 have q22: ∀(w:World) (a:Option Addr) (n c n' c':Nat),(binOp .eql (ρ.t 22) (.slice a n c) (.slice none n' c')).run P w= .ok (.bool a.isNone) w:=fun w a n c n' c'=>Lib.run_eql_slice_nil w _ _ a n c n' c' L.t22
 obtain⟨ab,ao,asp⟩:=a
 go_enter L.hf,wu ρ fn
 go_wp2_with (at_builtin;refine Lib.wpList_append_run _ rfl _ _ _ _ rfl _ _ rfl rfl _ _ (El _) ?_)
 all_goals (go_ret;exact⟨rfl,rfl⟩)
theorem Nx{w w':World}{M0:Nat→Prop}{e:Ty}(a:Option Addr)(nn: ∀b,M0 b→b<w.heap.size)(WB: ∀b,b<w.heap.size→w'.heap[b]? =w.heap[b]?)(nE:w.heap.size≤w'.heap.size)
  (hos:w'.os=w.os) (htp:w'.tape=w.tape) (HM:w'.output=w.output):
  ∃us M',Value.slice a 0 0=qm us∧RR w' M' [.own e] ([]:List e.den) us []∧Left w M0 [] w' M'∧(aZ [.own e] us []).Nodup∧ ∀b∈aZ [.own e] us [],¬M0 b:=by
 have rP:aZ [.own e] [Value.slice a 0 0] []=[]:=by
  cases a<;>simp[aZ,cm,AM.fD,dX]
 refine⟨[.slice a 0 0],M0,rfl,?_,?_,?_,?_⟩
 ·simp only[RR]
  refine .inr ⟨_,[],rfl,rfl,rfl,?_,rfl,trivial⟩
  simp only[A1,ER,p3]
  exact .inl ⟨trivial,a,rfl⟩
 ·exact⟨fun b h=>h,fun b h=>Nat.lt_of_lt_of_le (nn b h) nE,fun b hb h=> .inl h,fun b hb _=>WB b hb,nE,hos,htp,HM⟩
 ·rw[rP];simp
 ·rw[rP];simp
theorem lW{e:Ty}{f:FuncId}{fn:Func}(L:CC P e ρ f fn)(tH:(fn.name== "runtime.NumGoroutine")=false)(Nt:(Body2.n15 ρ).body.isNone=false)(N:Nat):eM P f (qc e N):=by
 refine⟨(fun h=>by cases h),rfl,fun M0 w vs x y nn hA tE qq hy=> ?_⟩
 have JC:jQ N x=some y:=hy
 clear hy
 obtain⟨v0,PT,rfl,h0,h2⟩:=hA
 have h2:PT=[]:=h2
 subst h2
 replace h0:V w (fun b=>M0 b∨b∈([]:List Nat)) (.slice e) v0 x:=h0
 unfold jQ at JC
 split at JC
 case isFalse=>cases JC
 rename_i CB
 cases JC
 have hbn:(Nw ρ fn).body.isNone=false:=Nt
 have hh:cA (qc e N).args [v0]=[]:=rfl
 rw[hh]at qq ⊢
 refine nU L.hf tH hbn ?_
 obtain⟨i,hi,nE,hz,X3⟩:=L.lay.base
 have hS:=Src.Qb h0
 by_cases hx:x=[]
 ·obtain⟨a,cp,hv,_⟩:=hS
  subst hv
  rw[hx]
  cases a with
  |none=>
   refine(K7 L w _ cp).mono ?_
   rintro e1 w' ⟨rfl,rfl⟩
   exact⟨_,rfl,Nx none nn (fun _ _=>rfl) (Nat.le_refl _) rfl rfl rfl⟩
  |some a=>
   refine(yO L w a _ cp _ _ (fun ty=>nF (P:=P) (w:=w.alloc (.cells #[] (ρ.t 3))) L.t22 hi (some ⟨w.heap.size,0,none⟩) 0 0 (Nat.le_refl _) (some a) cp)).mono ?_
   rintro e1 w' ⟨rfl,rfl⟩
   exact⟨_,rfl,Nx _ nn (fun b hb=>alloc_old w _ hb) (by rw[jV];exact Nat.le_succ _) rfl rfl rfl⟩
 ·obtain⟨b,off,cp,news,hv,hl,ly,gO,h1⟩:=hS.cells hx
  have HO:0<x.length:=List.length_pos_iff.2 hx
  subst hv
  obtain⟨jk,rest,ct,KY,gy,HH⟩:=yN (P:=P) (w:=w.alloc (.cells #[] (ρ.t 3))) L.t22 L.lay (n:=0) (m:=x.length) (cap:=0) (cp:=cp) (olds:=[]) (news:=news) (base:=some ⟨w.heap.size,0,none⟩) (a':=⟨b,off,none⟩) (fun h=>by cases h) (by simp) (fun _ _ j u hj=>by simp at hj) hl
   (fun j u hj=>by rw[Addr.add_lit];exact Lib.cell?_alloc_some _ (ly j u hj)) (by omega) (by omega)
  refine(yO L w ⟨b,off,none⟩ _ cp _ _ ct).mono ?_
  rintro e1 w' ⟨rfl,rfl⟩
  refine⟨_,rfl,?_⟩
  simp only[Nat.zero_add]at KY HH ⊢
  have Hj:(w.alloc (.cells #[] (ρ.t 3))).heap.size=w.heap.size+1:=jV w _
  exact rj (e:=e) (rb:=(w.alloc (.cells #[] (ρ.t 3))).heap.size) (cap:=jk) (l:=x) (t:=ρ.t 3) (w:=w) (w':=(w.alloc (.cells #[] (ρ.t 3))).drew.alloc (.cells ([]++news++rest).toArray (ρ.t 3))) nn qq
   (fun b hb _=>(alloc_old (w.alloc (.cells #[] (ρ.t 3))).drew _ (by show b<(w.alloc (.cells #[] (ρ.t 3))).heap.size;omega)).trans (alloc_old w _ hb))
   (by rw[jV];show w.heap.size≤(w.alloc (.cells #[] (ρ.t 3))).heap.size+1;omega) (fun h=>by omega) rfl rfl rfl (lV (w.alloc (.cells #[] (ρ.t 3))).drew _) (by omega) KY gy
   (by simp only[List.nil_append,List.size_toArray,List.length_append,hl,HH,←Nat.add_mul];congr 1;omega) (by simpa using mm.more (cs':=rest) (show mm w (fun b=>M0 b∨b∈([]:List Nat)) e news x from gO) (by rw[hl];exact Nat.le_refl _))
end VM
end
