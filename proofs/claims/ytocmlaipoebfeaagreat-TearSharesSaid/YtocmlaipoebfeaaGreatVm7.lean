/- A part of the proof of TearShares of layer 29: a machine that reads a function of the program as an equation between values. -/
import Derived.Test.YtocmlaipoebfeaaGreatVm6
import Derived.KernelRfl
import Derived.Test.YtocmlaipoebfeaaGreatVm0
import Derived.Laws.Externs
import Derived.Shelf.Spec.SlicesInsertGrow
set_option linter.all false
section
namespace VM
open Go
@[reducible] def CM.arr:CM→Type→Type
 | .v τ,T| .obj τ,T| .io τ,T| .fn _ τ,T=>τ.den→T
 | .own e,T=>List e.den→T
 | .dO τ _ e,T=>τ.den→List e.den→T
 | .same _,T=>T
@[reducible] def MP:List (Nat×CM)→Type→Type
 |[],R=>R
 |q::r,R=>q.2.arr (MP r R)
def CM.lam{T:Type}(s:Nat)(σ:St):(m:CM)→(St→T)→m.arr T
 | .v τ,f=>fun x=>f (σ.put s (.val τ x))
 | .own e,f=>fun x=>f ((σ.put s (.ref (16*s+14))).gZ (16*s+14) (some (.own e x)))
 | .obj τ,f=>fun x=>f ((σ.put s (.fC (16*s+14) [])).gZ (16*s+14) (some (.obj τ x)))
 | .dO τ q e,f=>fun x l=>f (((σ.put s (.fC (16*s+14) [])).gZ (16*s+13) (some (.own e l))).gZ (16*s+14) (some (.dO τ x q (16*s+13))))
 | .io τ,f=>fun x=>f ((σ.put s (.fC (16*s+15) [])).gZ (16*s+15) (some (.obj τ x)))
 | .fn g τ,f=>fun x=>f (σ.put s (.D1 g (lq τ x)))
 | .same s',f=>f (σ.put s (σ.T s'))
def aeu{R:Type}(κ:St→R):(L:List (Nat×CM))→St→MP L R
 |[],σ=>κ σ
 |q::r,σ=>q.2.lam q.1 σ (aeu κ r)
@[reducible] def s4:List AM→Type→Type
 |[],R=>R
 |m::r,R=>m.den→s4 r R
def CN{R:Type}:(ms:List AM)→s4 ms R→HP ms→R
 |[],g,_=>g
 |[_],g,x=>g x
 |_::n::ms,g,x=>CN (n::ms) (g x.1) x.2
def Lj{R:Type}:(ms:List AM)→(HP ms→R)→s4 ms R
 |[],f=>f ()
 |[_],f=>f
 |_::n::ms,f=>fun x=>Lj (n::ms) fun y=>f (x,y)
theorem CO{R:Type}: ∀(ms:List AM) (f:HP ms→R) (x:HP ms),CN ms (Lj ms f) x=f x
 |[],_,()=>rfl
 |[_],_,_=>rfl
 |_::n::ms,f,x=>CO (n::ms) (fun y=>f (x.1,y)) x.2
structure Pc where
 k:Nat
 c:List (Nat×CM)
 path:List Nat
 ks:List Nat
def NZ:List Pc→Nat→Pc
 |[],_=>⟨0,[],[],[]⟩
 |p::r,k=>cond (Nat.beq k p.k) p (NZ r k)
def EM:List Pc→Nat→Option (List (Nat×CM))
 |[],_=>none
 |p::r,k=>cond (Nat.beq k p.k) (some p.c) (EM r k)
def vv:List (Nat×g9)→Nat→List g9
 |[],_=>[]
 |q::r,i=>cond (Nat.beq i q.1) (q.2::vv r i) (vv r i)
def A0:List AM→Nat→List Nat
 |[],_=>[]
 | .io _::r,i=>i::A0 r (i+1)
 |_::r,i=>A0 r (i+1)
structure Fx where
 nt:Nat
 tab:List (Nat×Ty)
 G:List (Nat×g9)
 N:Nat
 fn:Func
 args:List AM
 res:List AM
 XD:List Pc
 lk:Option (Ty×List Step×Ty×List Nat):=none
namespace Fx
variable(X:Fx)
abbrev R:=Option (HP X.res)
def E:Env:={nt:=X.nt,ty:=fun i=>EL i X.tab,Γ:=vv X.G,N:=X.N,qy:=fun r=>EM X.XD (2*r+1),sl:=fun r=>EM X.XD (2*r),io:=A0 X.args 0,lk:=X.lk}
@[reducible] def c(i:Nat):List (Nat×CM):=(NZ X.XD i).c
def path(i:Nat):List Nat:=(NZ X.XD i).path
def odd(i:Nat):Bool:=Nat.beq (i%2) 1
def cut(ρ:Nat→St→X.R)(l:Nat):St→X.R:=fun σ=>qC (some (X.c l)) σ (ρ l)
def ks(ρ:Nat→St→X.R)(i:Nat):List (St→X.R):=(NZ X.XD i).ks.map (X.cut ρ)
noncomputable def lp(ρ:Nat→St→X.R)(i n:Nat):St→X.R:=lpF X.E X.fn X.args X.res (X.c i) (X.path i) (X.ks ρ i) n
noncomputable def bm(ρ:Nat→St→X.R)(i:Nat):St→X.R:=cond (odd i) (X.lp ρ i X.N) (Zo X.E X.fn X.args X.res (X.path i) (X.ks ρ i))
def own(ρ:Nat→St→X.R)(i:Nat):List (St→X.R):=X.ks ρ i++cond (odd i) [X.cut ρ i] []
noncomputable def Qz(K ρ:Nat→St→X.R)(i:Nat):St→X.R:=atQ X.E X.fn X.args X.res (fun r=>K (2*r)) (fun r=>K (2*r+1)) (X.path i) (X.own ρ i)
noncomputable def tl(K ρ:Nat→St→X.R)(i:Nat):List ((St→X.R)×(St→X.R)):=qQ X.E (fun r=>K (2*r)) (fun r=>K (2*r+1)) (Rt X.E X.fn X.args X.res (X.path i) (X.own ρ i))
@[reducible] def cu(i:Nat)(κ:St→X.R):MP (X.c i) X.R:=aeu κ (X.c i) S0
@[reducible] noncomputable def bd(K ρ:Nat→St→X.R)(i:Nat):MP (X.c i) X.R:=X.cu i (X.Qz K ρ i)
@[reducible] def kc(ρ:Nat→St→X.R)(i:Nat):MP (X.c i) X.R:=X.cu i (ρ i)
def wK:Nat→St→X.R:=fun _ _=>none
noncomputable def top(K:Nat→St→X.R):s4 X.args X.R:=Lj X.args fun x=>atQ X.E X.fn X.args X.res (fun r=>K (2*r)) (fun r=>K (2*r+1)) [] [] (entry X.args x 0 S0)
noncomputable def tlT(K:Nat→St→X.R):List ((St→X.R)×(St→X.R)):=qQ X.E (fun r=>K (2*r)) (fun r=>K (2*r+1)) (Rt X.E X.fn X.args X.res [] [])
noncomputable def S(q:Bool)(g:s4 X.args X.R):g9:={args:=X.args,res:=X.res,quiet:=q,run:=CN X.args g}
variable{X}
theorem Ru(f:Nat→St→X.R): ∀nx:List Nat,Lh (nx.map fun t=>(f t,f t))
 |[]=>trivial
 |_::r=>⟨rfl,Ru f r⟩
theorem okJ{i:Nat}(nx:List Nat)(hi:odd i=false)(hr: ∀K ρ,X.tl K ρ i=nx.map fun t=>(K t,X.bm ρ t)){g:(Nat→St→X.R)→(Nat→St→X.R)→MP (X.c i) X.R}(h: ∀K ρ,X.bd K ρ i=g K ρ)(ρ:Nat→St→X.R):X.kc (X.bm ρ) i=g (X.bm ρ) ρ:=by
 rw[←h]
 have:X.bm ρ i=X.Qz (X.bm ρ) ρ i:=by
  funext σ
  have h1:=hr (X.bm ρ) ρ
  unfold tl own at h1
  rw[hi,auc,auJ]at h1
  unfold Qz own
  rw[hi,auc,auJ]
  rw[←at_eq X.E X.fn X.args X.res h1 (Ru (X.bm ρ) nx) σ]
  unfold bm;rw[hi];rfl
 unfold kc bd
 rw[this]
def okb(X:Fx)(i:Nat):Bool:=odd i&&(NZ X.XD i).ks.all fun l=> !(Nat.beq l i)
theorem okL{i:Nat}(nx:List Nat)(hi:okb X i=true)(hr: ∀K ρ,X.tl K ρ i=nx.map fun t=>(K t,X.bm ρ t)){g:(Nat→St→X.R)→(Nat→St→X.R)→MP (X.c i) X.R}(h: ∀K ρ,X.bd K ρ i=g K ρ)(ρ:Nat→St→X.R)
  (G:Nat→MP (X.c i) X.R) (h0:X.cu i (fun _=>none)=G 0) (hs: ∀n ρ',X.kc ρ' i=G n→(∀l,Nat.beq l i=false→X.kc ρ' l=X.kc ρ l)→g (X.bm ρ') ρ'=G (n+1)):X.kc (X.bm ρ) i=G X.N:=by
 unfold okb at hi
 rw[aus]at hi
 obtain⟨hi,hk⟩:=hi
 have key: ∀n,X.cu i (X.lp ρ i n)=G n:=by
  intro n
  induction n with
  |zero=>exact h0
  |succ n ih=>
   let ρ':Nat→St→X.R:=fun l=>cond (Nat.beq l i) (X.lp ρ i n) (ρ l)
   have e1:ρ' i=X.lp ρ i n:=by show cond (Nat.beq i i) _ _=_;rw[awV];rfl
   have e2: ∀l,Nat.beq l i=false→ρ' l=ρ l:=fun l hl=>by show cond (Nat.beq l i) _ _=_;rw[hl];rfl
   rw[←hs n ρ' (by unfold kc;rw[e1];exact ih) (fun l hl=>by unfold kc;rw[e2 l hl]),←h]
   have e3:X.ks ρ' i=X.ks ρ i:=by
    unfold ks
    refine avJ fun l hl=> ?_
    have:=av5.1 hk l hl
    unfold cut
    rw[e2 l (by simpa using this)]
   have:X.lp ρ i (n+1)=X.Qz (X.bm ρ') ρ' i:=by
    funext σ
    have h1:=hr (X.bm ρ') ρ'
    unfold tl own at h1
    rw[hi,aua]at h1
    unfold Qz own
    rw[hi,aua]
    rw[←at_eq X.E X.fn X.args X.res h1 (Ru (X.bm ρ') nx) σ]
    unfold lp
    rw[NV,e3]
    unfold cut
    rw[e1];rfl
   unfold bd
   rw[this]
 have:X.bm ρ i=X.lp ρ i X.N:=by unfold bm;rw[hi];rfl
 unfold kc
 rw[this];exact key _
def CP(P:Program):List (Nat×g9)→Prop
 |[]=>True
 |q::r=>eP P q.1 q.2∧CP P r
structure _root_.VM.Kn(P:Program) where
 f:Nat
 S:g9
 ok:eP P f S
def _root_.VM.Kn.p{P:Program}(k:Kn P):Nat×g9:=(k.f,k.S)
def _root_.VM.Kn.l{P:Program}:List (Kn P)→List (Nat×g9)
 |[]=>[]
 |k::r=>k.p::Kn.l r
theorem _root_.VM.Kn.all{P:Program}: ∀l:List (Kn P),CP P (Kn.l l)
 |[]=>trivial
 |k::r=>⟨k.ok,Kn.all r⟩
theorem vw{P:Program}: ∀{l:List (Nat×g9)},CP P l→ ∀f S,S∈vv l f→eP P f S
 |[],_,f,S,h=>by simp[vv]at h
 |q::r,ha,f,S,h=>by
  unfold vv at h
  cases hb:Nat.beq f q.1<;>rw[hb]at h
  ·exact vw ha.2 f S h
  ·rcases auy.1 h with rfl|h
   ·rw[auN hb];exact ha.1
   ·exact vw ha.2 f S h
theorem y4: ∀{l:List Pc},(l.all fun p=>gg p.c)=true→ ∀i L,EM l i=some L→gg L=true
 |q::r,ha,i,L,h=>by
  rw[axO,aus]at ha
  unfold EM at h
  cases hb:Nat.beq i q.k<;>rw[hb]at h
  ·exact y4 ha.2 i L h
  ·cases h;exact ha.1
def Zq(X:Fx)(q:Bool):Bool:=(X.XD.all fun p=>gg p.c)&&((!(X.fn.name== "runtime.NumGoroutine")&&Nat.beq X.nt X.fn.ntmps)&&(X.fn.body.isSome&&(Nat.ble X.args.length X.nt&&((!q||X.res.all AM.flat)&&decide (kG X.args=kG X.res)))))
theorem EN: ∀{ms:List AM} {k i:Nat} {m:AM},ms[i]? =some m→m.fF=true→k+i∈A0 ms k
 |[],_,_,_,h,_=>by simp at h
 |m::ms,k,0,m',h,rH=>by
  simp only[axw,avb]at h
  subst h
  cases m<;>simp[AM.fF]at rH
  simp[A0]
 |m::ms,k,i+1,m',h,rH=>by
  have:=EN (ms:=ms) (k:=k+1) (i:=i) (by simpa using h) rH
  rw[show k+(i+1)=k+1+i from by omega]
  cases m<;>simp only[A0]<;>first|exact auk _ this|exact this
theorem JV: ∀{ms:List AM} {k i:Nat},i∈A0 ms k→i<k+ms.length
 |[],_,_,h=>by simp[A0]at h
 |m::ms,k,i,h=>by
  have hr:i∈A0 ms (k+1)→i<k+(m::ms).length:=fun h=>by have:=JV h;simp only[auj];omega
  cases m<;>simp only[A0]at h<;>first
   |exact hr h
   |(rcases auy.1 h with rfl|h<;>first|exact hr h|(simp only[auj];omega))
variable(X)in
theorem JW{P:Program}(ht:y3 P X.tab)(hG:CP P X.G)(hc:(X.XD.all fun p=>gg p.c)=true):oH P X.E:=by
 have kF: ∀t τ,EL t X.tab=some τ→oJ P τ (.inl t)=true∧Rr P τ t=true:=fun t τ h=>by
  have:=av5.1 ht.ok _ (BC h)
  simpa using this
 exact{ty:=fun t τ h=>eg (kF t τ h).1,eq:=fun t τ h hc ha=>Rs (eg (kF t τ h).1) (kF t τ h).2 hc ha,ad5:=vw hG,mixed:=ht.mixed,gg:=fun i L h=>y4 hc _ L h,Nv:=fun i L h=>y4 hc _ L h}
theorem mkS{P:Program}(ht:y3 P X.tab){f:FuncId}(hf:P.funcs[f]? =some X.fn){q:Bool}(hc:Zq X q=true)(hG:CP P X.G){g:s4 X.args X.R}(h: ∀x,Ho X.E X.fn X.args X.res x=CN X.args g x):eP P f (X.S q g):=by
 unfold Zq at hc
 simp only[aus]at hc
 obtain⟨h0,⟨h1,h2⟩,h3,h4,h5,h6⟩:=hc
 refine NN (JW X ht hG h0) hf (by simpa using h1) (auN h2) (X.S q g) (fun i m hm rH=> ?_) (fun i hi=> ?_) ?_ (fun hq=> ?_) (auw h6) h
 ·have:=EN (k:=0) hm rH
  rwa [avk]at this
 ·have:=JV (k:=0) hi
  rwa [avk]at this
 ·have:=aw0 h4
  rwa [auN h2]at this
 ·have hq:q=true:=hq
  subst hq
  show X.res.all AM.flat=true
  simpa using h5
theorem Zr{g:s4 X.args X.R}(h:Lj X.args (Ho X.E X.fn X.args X.res)=g)(x:HP X.args):Ho X.E X.fn X.args X.res x=CN X.args g x:=by rw[←h,CO]
variable(X)in
theorem ok0{P:Program}(ht:y3 P X.tab){f:FuncId}(hf:P.funcs[f]? =some X.fn){q:Bool}(hc:Zq X q=true)(hG:CP P X.G){g:s4 X.args X.R}(h:Lj X.args (Ho X.E X.fn X.args X.res)=g):eP P f (X.S q g):=
 mkS ht hf hc hG (Zr h)
theorem aev(hb:X.fn.body.isSome=true)(nx:List Nat)(hr: ∀K,X.tlT K=nx.map fun t=>(K t,X.bm X.wK t))
  {g:(Nat→St→X.R)→s4 X.args X.R} (h: ∀K,X.top K=g K) {f:s4 X.args X.R} (hf:g (X.bm X.wK)=f) (x:HP X.args):Ho X.E X.fn X.args X.res x=CN X.args f x:=by
 rw[←hf,←h,Zp hb]
 unfold top
 rw[CO]
 exact at_eq X.E X.fn X.args X.res (hr (X.bm X.wK)) (Ru (X.bm X.wK) nx) _
variable(X)in
theorem ok1{P:Program}(ht:y3 P X.tab){f:FuncId}(hf:P.funcs[f]? =some X.fn){q:Bool}(hc:Zq X q=true)(hG:CP P X.G)(nx:List Nat)(hr: ∀K,X.tlT K=nx.map fun t=>(K t,X.bm X.wK t))
  {g:(Nat→St→X.R)→s4 X.args X.R} (h: ∀K,X.top K=g K) {f':s4 X.args X.R} (xd:g (X.bm X.wK)=f'):eP P f (X.S q f'):=by
 have hb:X.fn.body.isSome=true:=by
  unfold Zq at hc
  simp only[aus]at hc
  exact hc.2.2.1
 exact mkS ht hf hc hG (aev hb nx hr h xd)
theorem uJ{i:Nat}(nx:List Nat){g:(Nat→St→X.R)→(Nat→St→X.R)→MP (X.c i) X.R}(h: ∀K ρ,X.bd K ρ i=g K ρ)(ρ:Nat→St→X.R){f:MP (X.c i) X.R}(hf:g (X.bm ρ) ρ=f:=by rfl)
 (hi:odd i=false:=by kernel_rfl) (hr: ∀K ρ,X.tl K ρ i=nx.map fun t=>(K t,X.bm ρ t):=by intro K ρ;kernel_rfl):X.kc (X.bm ρ) i=f:=(okJ nx hi hr h ρ).trans hf
theorem uL{i:Nat}(nx:List Nat){g:(Nat→St→X.R)→(Nat→St→X.R)→MP (X.c i) X.R}(h: ∀K ρ,X.bd K ρ i=g K ρ)(ρ:Nat→St→X.R)
 (G:Nat→MP (X.c i) X.R) (hs: ∀n ρ',X.kc ρ' i=G n→(∀l,Nat.beq l i=false→X.kc ρ' l=X.kc ρ l)→g (X.bm ρ') ρ'=G (n+1)) (h0:X.cu i (fun _=>none)=G 0:=by rfl)
 (hi:okb X i=true:=by kernel_rfl) (hr: ∀K ρ,X.tl K ρ i=nx.map fun t=>(K t,X.bm ρ t):=by intro K ρ;kernel_rfl):X.kc (X.bm ρ) i=G X.N:=okL nx hi hr h ρ G h0 hs
variable(X)in
theorem u0{P:Program}(ht:y3 P X.tab){f:FuncId}(hf:P.funcs[f]? =some X.fn){q:Bool}{g:s4 X.args X.R}(hG:CP P X.G:=by first|exact trivial|exact Kn.all _)(hc:Zq X q=true:=by kernel_rfl)(h:Lj X.args (Ho X.E X.fn X.args X.res)=g:=by kernel_rfl):eP P f (X.S q g):=ok0 X ht hf hc hG h
variable(X)in
theorem u1{P:Program}(ht:y3 P X.tab){f:FuncId}(hf:P.funcs[f]? =some X.fn)(nx:List Nat)
 {g:(Nat→St→X.R)→s4 X.args X.R} (h: ∀K,X.top K=g K) {q:Bool} {f':s4 X.args X.R} (xd:g (X.bm X.wK)=f':=by rfl) (hG:CP P X.G:=by first|exact trivial|exact Kn.all _) (hc:Zq X q=true:=by kernel_rfl) (hr: ∀K,X.tlT K=nx.map fun t=>(K t,X.bm X.wK t):=by intro K;kernel_rfl):eP P f (X.S q f'):=ok1 X ht hf hc hG nx hr h xd
end Fx
end VM
end
section
namespace VM
open Go
variable{P:Program}
theorem Left.same(w:World)(M0:Nat→Prop)(h: ∀b,M0 b→b<w.heap.size):Left w M0 [] w M0:=
 ⟨fun _ h=>h,h,fun _ _ h=> .inl h,fun _ _ _=>rfl,aul _,rfl,rfl,rfl⟩
theorem aew{w:World}{M:Nat→Prop}{a b c:IntKind}{x:HP [.v (.int a),.v (.int b),.v (.int c)]}{vs:List Value}(h:fU w M [.v (.int a),.v (.int b),.v (.int c)] x vs):vs=[.int a x.1,.int b x.2.1,.int c x.2.2]:=by
 simp only[fU,A1,V,Ty.isAgg,au6,avQ,Rd,auZ,avB]at h
 obtain⟨v,vs,rfl,rfl,v,vs,rfl,rfl,v,vs,rfl,rfl,rfl⟩:=h
 rfl
theorem rr2{w:World}{M:Nat→Prop}{a b:IntKind}(x y:Int):RR w M [.v (.int a),.v (.int b)] (x,y) [.int a x,.int b y] []:=by
 simp only[RR]
 refine .inr ⟨_,_,rfl,rfl,rfl,?_,.inr ⟨_,_,rfl,rfl,rfl,?_,rfl,trivial⟩⟩<;>simp[A1,V,Ty.isAgg,Rd,qt,u9]
theorem JX{f:FuncId}(run:Int×Int×Int→Option (Int×Int))
  (h: ∀(w:World) (a b c u v:Int),run (a,b,c)=some (u,v)→(callFunc f #[.int .u64 a,.int .u64 b,.int .u64 c]).run P w= .ok (.value (.tuple #[.int .u64 u,.int .u64 v])) w):
  eP P f {args:=[.v (.int .u64),.v (.int .u64),.v (.int .u64)],res:=[.v (.int .u64),.v (.int .u64)],quiet:=true,run}:=by
 refine⟨fun _=>rfl,rfl,fun M0 w vs x y nw hA _ _ hy=> ?_⟩
 have QX:=aew hA
 subst QX
 exact AU (h w x.1 x.2.1 x.2.2 y.1 y.2 hy) ⟨_,M0,rfl,rr2 y.1 y.2,Left.same w M0 nw,List.nodup_nil,fun b hb=>by cases hb⟩
theorem vx(nm:String)(a b c:Nat)(h:c≤1)(w:World):(Extern.MathBitsCarry.three nm #[.int .u64 a,.int .u64 b,.int .u64 c]).run P w= .ok (a,b,c) w:=by
 have h5: ¬(1<c):=by omega
 have:Extern.MathBitsCarry.three nm #[.int .u64 a,.int .u64 b,.int .u64 c]=(do
  let c:=(←asInt (.int .u64 c)).toNat
  if c>1 then unsupported (.noEntry ("extern/math/bits." ++nm++ ": a carry that is neither 0 nor 1"))
  pure ((←asInt (.int .u64 a)).toNat,(←asInt (.int .u64 b)).toNat,c)):=rfl
 rw[this]
 simp[asInt,asIntOf]
 omega
theorem Lk{f:FuncId}{fn:Func}(N:Nat)(hf:P.funcs[f]? =some fn)(tU:(fn.name== "runtime.NumGoroutine")=false)(hb:fn.body.isNone=true)(hn:Extern.findNext fn=none)
  (he:Extern.find fn=(Extern.MathBitsCarry.rows[0]?).map (·.2)):eP P f (p6.S N):=by
 refine JX (fun x=>p6 N x.1 x.2.1 x.2.2) fun w a b c u v hy=> ?_
 simp only[p6]at hy
 split at hy
 ·rename_i hc
  obtain⟨h1,h2,h3,h4⟩:=hc
  obtain⟨a,rfl⟩:=avx h1
  obtain⟨b,rfl⟩:=avx h2
  obtain⟨c,rfl⟩:=avx h3
  cases hy
  rw[run_callFunc_extern hf tU hb hn he]
  simp[vx _ a b c (by omega),Extern.MathBitsCarry.pair,Extern.MathBitsCarry.m64]
 ·cases hy
theorem Ll{f:FuncId}{fn:Func}(N:Nat)(hf:P.funcs[f]? =some fn)(tU:(fn.name== "runtime.NumGoroutine")=false)(hb:fn.body.isNone=true)(hn:Extern.findNext fn=none)
  (he:Extern.find fn=(Extern.MathBitsCarry.rows[1]?).map (·.2)):eP P f (p7.S N):=by
 refine JX (fun x=>p7 N x.1 x.2.1 x.2.2) fun w a b c u v hy=> ?_
 simp only[p7]at hy
 split at hy
 ·rename_i hc
  obtain⟨h1,lE,h2,sJ,h3,h4⟩:=hc
  obtain⟨a,rfl⟩:=avx h1
  obtain⟨b,rfl⟩:=avx h2
  obtain⟨c,rfl⟩:=avx h3
  cases hy
  rw[run_callFunc_extern hf tU hb hn he]
  have e1:((a+18446744073709551616-b-c:Nat):Int)=(a:Int)+18446744073709551616-b-c:=by omega
  by_cases h:a<b+c
  ·have h':(a:Int)<(b:Int)+(c:Int):=by omega
   simp[vx _ a b c (by omega),Extern.MathBitsCarry.pair,Extern.MathBitsCarry.m64,e1,h,h']
  ·have h': ¬(a:Int)<(b:Int)+(c:Int):=by omega
   simp[vx _ a b c (by omega),Extern.MathBitsCarry.pair,Extern.MathBitsCarry.m64,e1,h,h']
 ·cases hy
end VM
end
section
namespace VM
open Go Go.Shelf Go.RowKit Go.Lib Go.Proofs
variable{P:Program}{ρ:Ren}
noncomputable def N0(ρ:Ren)(fn:Func):Func:={fn with body:=(Body2.n22 ρ).body,ntmps:=95,results:=(Body2.n22 ρ).results,nfree:=0}
theorem qR(ρ:Ren)(fn:Func):(N0 ρ fn).ntmps=95:=rfl
structure Ie(P:Program)(e:Ty)(ρ:Ren)(f:FuncId)(fn fo:Func):Prop where
 hf:P.funcs[f]? =some (N0 ρ fn)
 t3:P.underlying (ρ.t 3)=some (.int .i64)
 t4:P.underlying (ρ.t 4)=some .bool
 t24:P.underlying (ρ.t 24)=some (.slice (ρ.t 9))
 lay:gD P e (ρ.t 9)
 ly:0<e.size
 mixed:P.follows .mixedOrders=true
set_option maxHeartbeats 4000000 in
set_option maxRecDepth 100000 in
theorem CQ{e:Ty}{f:FuncId}{fn fo:Func}(L:Ie P e ρ f fn fo)(w:World)(base:Option Addr)(n c m vc:Nat)(va:Addr)(v':Value)(w':World)(hm:0<m)(hn:n≤c)
  (Ev: ∀ty,(Builtin.append_ #[ρ.t 24,ρ.t 24] ty #[.slice base n c,.slice (some va) m vc]).run P w= .ok v' w'):
   Calls P f #[.slice base n c,.int .i64 n,.slice (some va) m vc] w fun r w2=>r= .returned v'∧w2=w':=by
 have u3:=run_underlying L.t3;have u4:=run_underlying L.t4;have u24:=run_underlying L.t24
 have t3:=L.t3;have t4:=L.t4;have t24:=L.t24
 have z9:=fun w=>b8 L.lay w
 have mixed:=L.mixed
 have xS: ¬((m:Int)=0):=by omega
 go_enter L.hf,qR ρ fn
 cases base with
 |none=>
   go_wp2_with (at_builtin;refine Lib.wpList_append_run _ rfl _ _ _ _ rfl _ _ rfl rfl _ _ (Ev _) ?_)
   all_goals (go_ret;exact⟨rfl,rfl⟩)
 |some a=>
   obtain⟨ab,ao,asp⟩:=a
   go_wp2_with (at_builtin;refine Lib.wpList_append_run _ rfl _ _ _ _ rfl _ _ rfl rfl _ _ (Ev _) ?_)
   all_goals (go_ret;exact⟨rfl,rfl⟩)
theorem run_copy_row{t te e:TypeId}{k:Nat}(ht:P.underlying t=some (.slice e))(hk: ∀w,(Go.sizeOf e).run P w= .ok k w){W:World}{b o aex ajW Zs aey n:Nat}{a:Addr}{cs:Array Value}(hg:W.heap[b]? =some (.cells cs te (0,0)))
  {news:List Value} (hnn:Nat.min Zs aex=n) (hl:news.length=n*k) (hn: ∀j u,news[j]? =some u→W.cell? (a.add j)=some u) (h1: ∀u∈news,u.oneCell'=true) (Eo:o+news.length≤cs.size) (ty:TypeId):
  (Builtin.copy_ #[t,t] ty #[.slice (some ⟨b,o,none⟩) aex ajW,.slice (some a) Zs aey]).run P W= .ok (goInt n) (W.setRow b (dg cs.toList o news).toArray):=by
 have hf:=run_firstCells_some (P:=P) W k n a Zs aey news hl hn
 have Hr:=run_storeCells_at (P:=P) b o te news 0 cs W hg (by omega) h1
 simp only[awn]at Hr
 simp[Builtin.copy_,run_underlying ht,hk,Builtin.lenOf,hnn,hf,Hr,dg]
set_option maxHeartbeats 4000000 in
set_option maxRecDepth 100000 in
theorem Lm{e:Ty}{f:FuncId}{fn fo:Func}(L:Ie P e ρ f fn fo)(w:World)(b n c i m vc:Nat)(va:Addr)(CR N1:Array Value)(hi:i<n)(hm:0<m)(hr:n+m≤c)(ajX:c≤9223372036854775807)
  (hov: ∀x lb cb,(callFunc (ρ.f 29) #[.slice (some va) m vc,.slice (some ⟨b,x,none⟩) lb cb]).run P w= .ok (.value (.bool false)) w)
  (Rv: ∀ty dc sc,(Builtin.copy_ #[(ρ.t 24),(ρ.t 24)] ty #[.slice (some ⟨b,(i+m)*e.size,none⟩) (n+m-(i+m)) dc,.slice (some ⟨b,i*e.size,none⟩) (n+m-i) sc]).run P w.drew= .ok (goInt ((n-i:Nat):Int)) (w.drew.setRow b CR))
  (Rw: ∀W:World,W.heap=(w.setRow b CR).heap→ ∀ty dc,(Builtin.copy_ #[(ρ.t 24),(ρ.t 24)] ty #[.slice (some ⟨b,i*e.size,none⟩) (n+m-i) dc,.slice (some va) m vc]).run P W= .ok (goInt m) (W.setRow b N1)):
   Calls P f #[.slice (some ⟨b,0,none⟩) n c,.int .i64 i,.slice (some va) m vc] w fun r w2=>r= .returned (.slice (some ⟨b,0,none⟩) (n+m) c)∧w2=(w.drew.setRow b CR).setRow b N1:=by
 have u3:=run_underlying L.t3;have u4:=run_underlying L.t4;have u24:=run_underlying L.t24
 have t3:=L.t3;have t4:=L.t4;have t24:=L.t24
 have z9:=fun w=>b8 L.lay w
 have mixed:=L.mixed
 have xS: ¬((m:Int)=0):=by omega
 have HE: ¬((i:Int)=(n:Int)):=by omega
 have hw1:IntKind.i64.wrap ((i:Int)+(m:Int))=(i:Int)+(m:Int):=by rw[IntKind.wrap_i64];omega
 have jN:(0:Int)≤(i:Int)+(m:Int):=by omega
 have jP:i≤n:=by omega
 have Ld:((i:Int)+(m:Int)).toNat=i+m:=by omega
 have sr: ¬(c=i+m):=by omega
 have hb3:(i:Int)≤(n:Int)+(m:Int):=by omega
 have hb4: ¬(c=i):=by omega
 go_enter L.hf,qR ρ fn
 go_wp2_with (simp only[hov])
 go_region_law_o (refine step_copy_runI rfl _ _ (ρ.t 24) (ρ.t 24) rfl _ _ (by simp[Act.eval,Act.put]) (by simp[Act.eval,Act.put]) (Rv _ _ _) ?_)
 have h2:=Rw (w.drew.setRow b CR) rfl
 go_wp2
 go_ret
 exact⟨rfl,rfl⟩
set_option maxHeartbeats 4000000 in
set_option maxRecDepth 100000 in
theorem N2{e:Ty}{f:FuncId}{fn fo:Func}(L:Ie P e ρ f fn fo)(w:World)(b n c i m vc nb G:Nat)(va:Addr)(Ln CR N1:Array Value)(hi:i<n)(hm:0<m)(hnc:n≤c)(hr:c<n+m)(ajX:c≤9223372036854775807)(Xw:n+m≤9223372036854775807)(hG:n+m≤G)(aqS:G≤9223372036854775807)
  (Ev: ∀ty,(Builtin.append_ #[(ρ.t 24),(ρ.t 3)] ty #[.slice (some ⟨b,0,none⟩) i c,.int .i64 ((n:Int)+(m:Int)-(i:Int))]).run P w= .ok (.slice (some ⟨w.heap.size,0,none⟩) (n+m) G) (w.drew.alloc (.cells Ln (ρ.t 9))))
  (Rv: ∀W:World,W.heap=(w.alloc (.cells Ln (ρ.t 9))).heap→ ∀ty dc,(Builtin.copy_ #[(ρ.t 24),(ρ.t 24)] ty #[.slice (some ⟨w.heap.size,i*e.size,none⟩) (n+m-i) dc,.slice (some va) m vc]).run P W= .ok (goInt m) (W.setRow w.heap.size CR))
  (Rw: ∀W:World,W.heap=((w.alloc (.cells Ln (ρ.t 9))).setRow w.heap.size CR).heap→ ∀ty dc sc,(Builtin.copy_ #[(ρ.t 24),(ρ.t 24)] ty #[.slice (some ⟨w.heap.size,(i+m)*e.size,none⟩) (n+m-(i+m)) dc,.slice (some ⟨b,i*e.size,none⟩) (n-i) sc]).run P W= .ok (goInt ((n-i:Nat):Int)) (W.setRow w.heap.size N1)):
   Calls P f #[.slice (some ⟨b,0,none⟩) n c,.int .i64 i,.slice (some va) m vc] w fun r w2=>r= .returned (.slice (some ⟨w.heap.size,0,none⟩) (n+m) G)∧w2=((w.drew.alloc (.cells Ln (ρ.t 9))).setRow w.heap.size CR).drew.setRow w.heap.size N1:=by
 have u3:=run_underlying L.t3;have u4:=run_underlying L.t4;have u24:=run_underlying L.t24
 have t3:=L.t3;have t4:=L.t4;have t24:=L.t24
 have z9:=fun w=>b8 L.lay w
 have mixed:=L.mixed
 have xS: ¬((m:Int)=0):=by omega
 have HE: ¬((i:Int)=(n:Int)):=by omega
 have hz3:(c:Int)<(n:Int)+(m:Int):=by omega
 have hw1:IntKind.i64.wrap ((i:Int)+(m:Int))=(i:Int)+(m:Int):=by rw[IntKind.wrap_i64];omega
 have jN:(0:Int)≤(i:Int)+(m:Int):=by omega
 have jP:i≤n:=by omega
 have Ld:((i:Int)+(m:Int)).toNat=i+m:=by omega
 have hGi: ¬(G=i):=by omega
 have aqT: ¬(G=i+m):=by omega
 have hci: ¬(c=i):=by omega
 have hb3:(i:Int)≤(n:Int):=by omega
 have h1:=Rv ((w.alloc (.cells Ln (ρ.t 9))).drew) rfl
 have h2:=Rw (((w.alloc (.cells Ln (ρ.t 9))).drew.setRow w.heap.size CR).drew) rfl
 go_enter L.hf,qR ρ fn
 go_wp2_with (first
   |(at_builtin;refine Lib.wpList_append_run _ rfl _ _ _ _ rfl _ _ rfl rfl _ _ (Ev _) ?_)
   |(at_builtin;refine wpList_copy_runI _ rfl _ _ (ρ.t 24) (ρ.t 24) rfl _ _ rfl rfl (Rv _ (by exact rfl) _ _) ?_)
   |(at_builtin;refine wpList_copy_runI _ rfl _ _ (ρ.t 24) (ρ.t 24) rfl _ _ rfl rfl (Rw _ (by exact rfl) _ _ _) ?_))
 go_region_law_o (refine step_copy_runI rfl _ _ (ρ.t 24) (ρ.t 24) rfl _ _ (by simp[Act.eval,Act.put]) (by simp[Act.eval,Act.put]) (h2 _ _ _) ?_)
 go_wp2
 go_ret
 exact⟨rfl,rfl⟩
theorem xV{α:Type}(A Z news:List α):dg (A++Z) A.length news=A++(news++Z.drop news.length):=by
 unfold dg
 rw[awK rfl,aur,←avr,avL rfl]
theorem mj.aeA{w:World}{M:Nat→Prop}{e:Ty}{cs:List Value}{l:List e.den}(h:mj w M e cs l)(i:Nat):mj w M e (cs.take (i*e.size)) (l.take i):=by
 intro j hj
 rw[auu]at hj
 have:=cQ (s:=e.size) (show j<i by omega)
 rw[awi,awj,avd (by omega),List.getElem_take]
 exact h j (by omega)
theorem mj.aeB{w:World}{M:Nat→Prop}{e:Ty}{cs:List Value}{l:List e.den}(h:mj w M e cs l)(i:Nat):mj w M e ((cs.drop (i*e.size)).take ((l.length-i)*e.size)) (l.drop i):=by
 intro j hj
 rw[auP]at hj
 have:=cQ (s:=e.size) hj
 rw[awi,awj,avd (by omega),avr,axr,←au9]
 exact h (i+j) (by omega)
theorem rK{w w':World}{M0:Nat→Prop}{hs:List Nat}{e:Ty}{rb cap:Nat}{row:Array Value}{t:TypeId}{l:List e.den}(nw: ∀b,M0 b→b<w.heap.size)(qO: ∀b∈hs,¬M0 b)
  (Xy: ∀b,b<w.heap.size→b∉hs→w'.heap[b]? =w.heap[b]?) (ou:w.heap.size≤w'.heap.size) (hrb:rb<w.heap.size→rb∈hs) (hos:w'.os=w.os) (htp:w'.tape=w.tape) (HZ:w'.output=w.output)
  (H4:w'.heap[rb]? =some (.cells row t (0,0))) (h0:0<cap) (hl:l.length≤cap) (hm:cap≤maxLen) (hrs:row.size=cap*e.size) (gV:mj w (fun b=>M0 b∨b∈hs) e row.toList l):
  ∃us M',Value.slice (some ⟨rb,0,none⟩) l.length cap=qJ us∧RR w' M' [.own e] l us []∧Left w M0 hs w' M'∧(a7 [.own e] us []).Nodup∧ ∀b∈a7 [.own e] us [],¬M0 b:=by
 have Hs:rb<w'.heap.size:=(auU.1 H4).1
 have hk:df w (fun b=>M0 b∨b∈hs) w' (fun b=>M0 b∨b=rb):=⟨ou,fun b hb hn=>Xy b hb (fun h=>hn (.inr h)),fun b hb h=>h.elim .inl (fun e=> .inr (e▸hrb (e▸hb)))⟩
 have sq:a7 [.own e] [Value.slice (some ⟨rb,0,none⟩) l.length cap] []=[rb]:=by
  have:cap≠0:=by omega
  simp[a7,ct,AM.fF,ed,this]
 refine⟨[.slice (some ⟨rb,0,none⟩) l.length cap],fun b=>M0 b∨b=rb,rfl,?_,?_,?_,?_⟩
 ·simp only[RR]
  refine .inr ⟨_,[],rfl,rfl,rfl,?_,rfl,trivial⟩
  simp only[A1,ER,qt]
  exact .inr ⟨rb,row,t,cap,rfl,H4,.inr rfl,h0,hl,hm,hrs,gV.bt hk⟩
 ·exact⟨fun b h=> .inl h,fun b h=>h.elim (fun h=>avn (nw b h) ou) (fun h=>h▸Hs),fun b hb h=>h.elim .inl (fun e=> .inr (e▸hrb (e▸hb))),Xy,ou,hos,htp,HZ⟩
 ·rw[sq];simp
 ·rw[sq]
  intro b hb h
  rw[auE]at hb
  subst hb
  exact qO b (hrb (nw b h)) h
theorem setRow_other(w:World){b c:Nat}(r:Array Value)(h:c≠b):(w.setRow b r).heap[c]? =w.heap[c]? :=by
 unfold World.setRow
 rw[Array.getElem?_modify,aui (fun e=>h e.symm)]
theorem setRow_size(w:World)(b:Nat)(r:Array Value):(w.setRow b r).heap.size=w.heap.size:=by
 unfold World.setRow;simp
theorem alloc_old(w:World)(o:Obj){c:Nat}(h:c<w.heap.size):(w.alloc o).heap[c]? =w.heap[c]? :=by
 show(w.heap.push o)[c]? =_
 rw[Array.getElem?_push,aui (by omega)]
theorem lU(w:World)(o:Obj):(w.alloc o).heap[w.heap.size]? =some o:=by
 show(w.heap.push o)[w.heap.size]? =_
 simp
theorem ke(w:World)(o:Obj):(w.alloc o).heap.size=w.heap.size+1:=by
 show(w.heap.push o).size=_
 simp
theorem ph{w:World}{b:Nat}{cs:Array Value}{t:TypeId}{f:Nat×Nat}(h:w.heap[b]? =some (.cells cs t f))(o n:Nat): ∀j u,((cs.toList.drop o).take n)[j]? =some u→w.cell? ((⟨b,o,none⟩:Addr).add j)=some u:=by
 intro j u hj
 rw[Addr.add_lit]
 rw[avi]at hj
 split at hj
 ·rw[avj,auS]at hj
  simp only[World.cell?,h]
  simpa using hj
 ·cases hj
theorem JY{w:World}{M:Nat→Prop}{v:Value}{e:Ty}{l:List e.den}(h:ER w M v (.own e l)):(l=[]∧ ∃a,v= .slice a 0 0)∨
 ∃b cs t cap,v= .slice (some ⟨b,0,none⟩) l.length cap∧w.heap[b]? =some (.cells cs t (0,0))∧M b∧0<cap∧l.length≤cap∧cap≤maxLen∧cs.size=cap*e.size∧mj w M e cs.toList l:=h
end VM
end
section
namespace VM
open Go Go.Shelf Go.RowKit Go.Lib Go.Proofs
variable{P:Program}{ρ:Ren}
theorem y5{w:World}{t e':TypeId}{e:Ty}(hu:P.underlying t=some (.slice e'))(hle:gD P e e'){n m cap cp:Nat}{olds news:List Value}{base:Option Addr}{a':Addr}(Np:base=none→n=0∧cap=0)
  (xm:olds.length=n*e.size) (ho: ∀b,base=some b→ ∀j u,olds[j]? =some u→w.cell? (b.add j)=some u) (Qs:news.length=m*e.size) (hn: ∀j u,news[j]? =some u→w.cell? (a'.add j)=some u)
  (hg:cap<n+m) (hs:n+m<si):
  ∃jo rest,(∀ty,(Builtin.append_ #[t,t] ty #[.slice base n cap,.slice (some a') m cp]).run P w= .ok (.slice (some ⟨w.heap.size,0,none⟩) (n+m) jo) (w.drew.alloc (.cells (olds++news++rest).toArray e')))∧
   n+m≤jo∧jo≤maxLen∧rest.length=(jo-(n+m))*e.size:=by
 obtain⟨i,hi,ou,hz,YV⟩:=hle.base
 have hzs:(bF e e.ca).cells.size=e.size:=by rw[←aum,eA,kv]
 have Xw:n+m≤maxLen:=by simp only[si,maxLen]at hs ⊢;omega
 have Eo:(n+m)*i.bytes≤140737488355328:=by
  have:(n+m)*i.bytes≤68719476736*2048:=axh (by simp only[si]at hs;omega) YV
  omega
 refine⟨grownCap w (n+m) cap e',(Builtin.zeroCells (bF e e.ca).cells (grownCap w (n+m) cap e'-(n+m))).toList,fun ty=> ?_,grownCap_ge _ _ _ _,grownCap_le_maxLen _ _ _ _ Xw,?_⟩
 ·cases base with
  |none=>
   obtain⟨rfl,rfl⟩:=Np rfl
   have ho0:olds=[]:=avl (by rw[xm];simp)
   subst ho0
   have:=run_append_nil (P:=P) w t ty e' i _ hu hi hz a' m cp news (by rw[Qs,ou]) hn (by simpa using hg) (by simp only[si]at hs;omega) (by simp at Eo;omega)
   simp only[avk,auK]
   rw[this]
   congr 2
   apply avH (fun z=>Obj.cells z e' (0,0))
   apply av7;simp
  |some b=>
   have:=run_append_grow (P:=P) w t ty e' i _ hu hi hz b n cap olds (by rw[xm,ou]) (ho b rfl) a' m cp news (by rw[Qs,ou]) hn hg (by simp only[si]at hs;omega) (growslice_fits hg Eo)
   rw[this]
   congr 2
   apply avH (fun z=>Obj.cells z e' (0,0))
   apply av7;simp
 ·rw[aum,size_zeroCells,hzs]
theorem Lo{w:World}{t tn e':TypeId}{e:Ty}(hu:P.underlying t=some (.slice e'))(Ld:P.underlying tn=some (.int .i64))(hle:gD P e e')(Zm:0<e.size){n k cap:Nat}{olds:List Value}{b:Addr}
  (xm:olds.length=n*e.size) (ho: ∀j u,olds[j]? =some u→w.cell? (b.add j)=some u) (hk:0<k) (hg:cap<n+k) (hs:n+k<si):
  ∃jo rest,(∀ty,(Builtin.append_ #[t,tn] ty #[.slice (some b) n cap,.int .i64 k]).run P w= .ok (.slice (some ⟨w.heap.size,0,none⟩) (n+k) jo) (w.drew.alloc (.cells (olds++rest).toArray e')))∧
   n+k≤jo∧jo≤maxLen∧rest.length=(jo-n)*e.size:=by
 obtain⟨i,hi,ou,hz,YV⟩:=hle.base
 have hzs:(bF e e.ca).cells.size=e.size:=by rw[←aum,eA,kv]
 have Xw:n+k≤maxLen:=by simp only[si,maxLen]at hs ⊢;omega
 have Eo:(n+k)*i.bytes≤140737488355328:=by
  have:(n+k)*i.bytes≤68719476736*2048:=axh (by simp only[si]at hs;omega) YV
  omega
 have hkb:k*i.bytes≤281474976710656:=by
  have:k*i.bytes≤(n+k)*i.bytes:=ava _ (by omega)
  omega
 have Qw:=grownCap_ge w (n+k) cap e'
 refine⟨grownCap w (n+k) cap e',(Builtin.zeroCells (bF e e.ca).cells k++Builtin.zeroCells (bF e e.ca).cells (grownCap w (n+k) cap e'-(n+k))).toList,fun ty=> ?_,Qw,grownCap_le_maxLen _ _ _ _ Xw,?_⟩
 ·have hold:(Builtin.firstCells i.size n (.slice (some b) n cap)).run P w.drew= .ok olds.toArray w.drew:=run_firstCells_some w.drew i.size n b n cap olds (by rw[xm,ou]) (fun j u hj=>ho j u hj)
  have:=Lib.run_append_grow_zeros w t tn ty e' i _ .i64 .i64 hu Ld hi hz (some b) n cap olds hold k hk (by rw[ou];exact Zm) hg (by simp only[si]at hs;omega) hkb (growslice_fits hg Eo)
  rw[this]
  congr 2
  apply avH (fun z=>Obj.cells z e' (0,0))
  apply av7;simp
 ·rw[Array.toList_append,aug,aum,aum,size_zeroCells,size_zeroCells,hzs,←au9]
  congr 1;omega
structure OvP(P:Program)(ρ:Ren)(fo:Func):Prop where
 hf:P.funcs[ρ.f 29]? =some fo
 name:(fo.name== "runtime.NumGoroutine")=false
 body:fo.body.isNone=true
 next:Extern.findNext fo=none
 find:Extern.find fo=some (Extern.SlicesOverlaps.overlaps #[ρ.t 24,ρ.t 24] #[ρ.t 4])
theorem s6{e:Ty}{f:FuncId}{fn fo:Func}(L:Ie P e ρ f fn fo)(O:OvP P ρ fo)(tU:(fn.name== "runtime.NumGoroutine")=false)(N3:(Body2.n22 ρ).body.isNone=false)(N:Nat):eP P f (gC e N):=by
 refine⟨(fun h=>by cases h),rfl,fun M0 w vs x y nw hA tQ qO hy=> ?_⟩
 obtain⟨l,i,v⟩:=x
 have JS:gB N l i v=some y:=hy
 clear hy
 simp only[gC,fU]at hA
 obtain⟨v0,Nu,rfl,h0,v1,vs2,rfl,h1,v2,vs3,rfl,h2,rfl⟩:=hA
 simp only[gB]at JS
 split at JS
 case isFalse=>cases JS
 rename_i hc
 cases JS
 obtain⟨hi0,AJ,Ei,y6⟩:=hc
 obtain⟨i,rfl⟩:=avx hi0
 have aeC:i≤l.length:=by omega
 simp only[A1,qt,u9,V,Ty.isAgg,au6,avQ,Rd,auZ,avB]at h0 h1 h2
 subst h1
 have hk:=L.ly
 replace Ei:List.length (α:=e.den) v=1:=Ei
 rcases JY h2 with⟨Rn,_⟩|⟨b2,YI,t2,ua,QY,Nb,Cx,YW,hl2,tF,XE,DR⟩
 ·rw[Rn]at Ei;cases Ei
 replace QY:v2= .slice (some ⟨b2,0,none⟩) 1 ua:=by rw[QY];congr 1
 subst QY
 have QW:e.size≤YI.toList.length:=by
  rw[aum (xs:=YI),XE]
  exact Nat.le_mul_of_pos_left _ YW
 obtain⟨news,N4⟩: ∃news,news=YI.toList.take e.size:=⟨_,rfl⟩
 have Bl:news.length=1*e.size:=by rw[N4,auu,av2];omega
 have hnr:mj w (fun b=>M0 b∨b∈cD (gC e N).args [v0,.int .i64 (i:Int),.slice (some ⟨b2,0,none⟩) 1 ua]) e news v:=by
  rw[N4];exact DR.take (by rw[Ei,av2];exact aul _)
 have hnc: ∀j u,news[j]? =some u→w.cell? ((⟨b2,0,none⟩:Addr).add j)=some u:=by
  have:=ph Nb 0 e.size
  rw[auG]at this
  rw[N4];exact this
 have hn1: ∀u∈news,u.oneCell'=true:=by
  have:=hnr 0 (by omega)
  rw[Nat.zero_mul,auG,auM (by omega)]at this
  exact this.ku
 have sr:ed (.slice (some ⟨b2,0,none⟩) 1 ua)=some b2:=by simp[ed];omega
 replace y6:List.length (α:=e.den) l+1<si:=y6
 have XF:(List.take i l++(v++List.drop i l)).length=l.length+1:=by rw[aug,aug,auu,auP,Ei];omega
 have hbn:(N0 ρ fn).body.isNone=false:=N3
 refine n8 L.hf tU hbn ?_
 rcases JY h0 with⟨rfl,ad,rfl⟩|⟨b1,tv,t1,xq,rfl,Hy,hM1,AP,Zt,oC,Ht,CS⟩
 ·
  have hi:i=0:=by simpa using aeC
  subst hi
  obtain⟨jo,rest,cw,Lg,gG,Hs⟩:=y5 (P:=P) (w:=w) L.t24 L.lay (n:=0) (m:=1) (cap:=0) (cp:=ua) (olds:=[]) (news:=news) (base:=ad) (a':=⟨b2,0,none⟩) (fun _=>⟨rfl,rfl⟩) (by simp) (fun _ _ j u hj=>by simp at hj) Bl hnc (by omega) (by simp only[si];omega)
  refine(CQ L w ad 0 0 1 ua ⟨b2,0,none⟩ _ _ (by omega) (aul _) cw).mono ?_
  rintro e1 w' ⟨rfl,rfl⟩
  refine⟨_,rfl,?_⟩
  simp only[avk]at Lg Hs
  have hv:v=v++[]:=by simp
  have:=rK (e:=e) (rb:=w.heap.size) (cap:=jo) (l:=v) (t:=ρ.t 9) (w:=w) (w':=w.drew.alloc (.cells ([]++news++rest).toArray (ρ.t 9))) nw qO (fun b hb _=>alloc_old w.drew _ hb) (by rw[ke];exact awN _) (fun h=>absurd h (axP _)) rfl rfl rfl (lU w.drew _) (by omega) (by omega) gG
   (by simp only[auK,avc,aug,Bl,Hs,←au9];congr 1;omega) (by simpa using hnr.more (cs':=rest) (by rw[Ei,Bl];exact aul _))
  rw[Ei]at this
  simpa [gC,dr,AM.fF]using this
 ·have jN:ed (.slice (some ⟨b1,0,none⟩) l.length xq)=some b1:=by simp[ed];omega
  have hh:cD (gC e N).args [.slice (some ⟨b1,0,none⟩) l.length xq,.int .i64 (i:Int),.slice (some ⟨b2,0,none⟩) 1 ua]=[b1,b2]:=by simp[gC,cD,ct,jN,sr]
  rw[hh]at tQ qO hnr ⊢
  replace CS:mj w (fun b=>M0 b∨b∈[b1,b2]) e tv.toList l:=by rw[←hh];exact CS
  have fL:b1≠b2:=by simpa using tQ
  have aj1:b1<w.heap.size:=(auU.1 Hy).1
  have adK:b2<w.heap.size:=(auU.1 Nb).1
  have oD:l.length*e.size≤tv.toList.length:=by rw[aum (xs:=tv),Ht];exact ava _ Zt
  have hik:i*e.size≤l.length*e.size:=ava _ aeC
  obtain⟨A,hAe⟩: ∃A,A=tv.toList.take (i*e.size):=⟨_,rfl⟩
  obtain⟨mid,Zu⟩: ∃mid,mid=(tv.toList.drop (i*e.size)).take ((l.length-i)*e.size):=⟨_,rfl⟩
  have JZ:A.length=i*e.size:=by rw[hAe,auu];omega
  have Bk:mid.length=(l.length-i)*e.size:=by
   rw[Zu,auu,auP,awO];omega
  have hAr:=CS.aeA i
  have hmr:=CS.aeB i
  rw[←hAe]at hAr
  rw[←Zu]at hmr
  have hti:(l.take i).length=i:=by rw[auu];omega
  have J0: ∀rest:List Value,mj w (fun b=>M0 b∨b∈[b1,b2]) e (A++(news++(mid++rest))) (l.take i++(v++l.drop i)):=fun rest=>
   hAr.append (by rw[JZ,hti]) (hnr.append (by rw[Bl,Ei]) (hmr.more (by rw[auP,Bk];exact aul _)))
  have hAc: ∀j u,A[j]? =some u→w.cell? ((⟨b1,0,none⟩:Addr).add j)=some u:=by
   have:=ph Hy 0 (i*e.size)
   rw[auG]at this
   rw[hAe];exact this
  have hmc: ∀j u,mid[j]? =some u→w.cell? ((⟨b1,i*e.size,none⟩:Addr).add j)=some u:=by
   rw[Zu];exact ph Hy (i*e.size) _
  have aeF: ∀u∈mid,u.oneCell'=true:=by
   intro u hu
   obtain⟨j,hj,rfl⟩:=avE.1 hu
   rw[Bk]at hj
   have hq:j/e.size<l.length-i:=Nat.div_lt_of_lt_mul (by rw[axB];exact hj)
   have:=(hmr (j/e.size) (by rw[auP];exact hq)).ku
   refine this _ ?_
   have hjm:j/e.size*e.size+j%e.size=j:=by rw[axB];exact Nat.div_add_mod j e.size
   have AA:j%e.size<e.size:=Nat.mod_lt _ hk
   rw[List.mem_iff_getElem?]
   refine⟨j%e.size,?_⟩
   rw[avi,auh AA,avj,hjm]
   exact auf _
  by_cases jP:i=l.length
  ·
   subst jP
   have YT:mid=[]:=avl (by rw[Bk];simp)
   by_cases tO:l.length+1≤xq
   ·obtain⟨ie,hie,ou,_⟩:=L.lay.base
    have cw: ∀ty,(Builtin.append_ #[ρ.t 24,ρ.t 24] ty #[.slice (some ⟨b1,0,none⟩) l.length xq,.slice (some ⟨b2,0,none⟩) 1 ua]).run P w=_:=fun ty=>
     En (ty:=ty) (cp:=ua) L.t24 hie Hy (by rw[ou];exact Ht) (by rw[ou];exact Bl) hnc hn1 tO
    refine(CQ L w _ _ _ 1 ua ⟨b2,0,none⟩ _ _ (by omega) Zt cw).mono ?_
    rintro e1 w' ⟨rfl,rfl⟩
    refine⟨_,rfl,?_⟩
    rw[ou]
    have H4:dg tv.toList (l.length*e.size) news=A++(news++(mid++tv.toList.drop (l.length*e.size+news.length))):=by
     rw[YT,hAe];simp[dg]
    have:=rK (e:=e) (rb:=b1) (cap:=xq) (l:=l.take l.length++(v++l.drop l.length)) (t:=t1) (w:=w) (w':=w.setRow b1 (dg tv.toList (l.length*e.size) news).toArray) nw qO (fun b hb hn=>setRow_other w _ (fun e=>hn (by simp[e]))) (by rw[setRow_size];exact aul _) (fun _=>by simp) rfl rfl rfl (setRow_heap w b1 tv _ t1 _ Hy) AP (by rw[XF];exact tO) oC
     (by
      have:=cQ (s:=e.size) (show l.length<xq by omega)
      rw[H4,avc]
      simp only[aug,YT,auA,auP,aum,JZ,Bl,Ht]
      omega)
     (by rw[H4];exact J0 _)
    rw[XF]at this
    simpa [gC,dr,AM.fF]using this
   ·obtain⟨jo,rest,cw,Lg,gG,Hs⟩:=y5 (P:=P) (w:=w) L.t24 L.lay (n:=l.length) (m:=1) (cap:=xq) (cp:=ua) (olds:=A) (news:=news) (base:=some ⟨b1,0,none⟩) (a':=⟨b2,0,none⟩) (fun h=>by cases h) JZ (fun b hb=>by cases hb;exact hAc) Bl hnc (by omega) y6
    refine(CQ L w _ _ _ 1 ua ⟨b2,0,none⟩ _ _ (by omega) Zt cw).mono ?_
    rintro e1 w' ⟨rfl,rfl⟩
    refine⟨_,rfl,?_⟩
    have:=rK (e:=e) (rb:=w.heap.size) (cap:=jo) (l:=l.take l.length++(v++l.drop l.length)) (t:=ρ.t 9) (w:=w) (w':=w.drew.alloc (.cells (A++news++rest).toArray (ρ.t 9))) nw qO (fun b hb _=>alloc_old w.drew _ hb) (by rw[ke];exact awN _) (fun h=>absurd h (axP _)) rfl rfl rfl (lU w.drew _) (by omega) (by rw[XF];exact Lg) gG
     (by simp only[avc,aug,JZ,Bl,Hs,←au9];congr 1;omega) (by have:=J0 rest;rw[YT,auK,←aur]at this;exact this)
    rw[XF]at this
    simpa [gC,dr,AM.fF]using this
  ·have Zv:i<l.length:=by omega
   have Q9:i*e.size+e.size≤l.length*e.size:=cQ Zv
   have e1k:(i+1)*e.size=A.length+news.length:=by rw[JZ,Bl,au9]
   have yF:Nat.min 1 (l.length+1-i)=1:=avd (by omega)
   by_cases tO:l.length+1≤xq
   ·
    have aeG:l.length*e.size+e.size≤tv.toList.length:=by rw[aum (xs:=tv),Ht];exact cQ (by omega)
    have hsh: ∀(b:Nat) (c:Array Value) (t:TypeId),w.heap[b]? =some (.cells c t (0,0))→w.shape? b=some (t,c.size):=fun b c t h=>by simp[World.shape?,h]
    obtain⟨B,hB⟩: ∃B,B=tv.toList.drop (i*e.size):=⟨_,rfl⟩
    have aeH:tv.toList=A++B:=by rw[hAe,hB,auR]
    have hBl:B.length=tv.toList.length-i*e.size:=by rw[hB,auP]
    have hBk:(B.take e.size).length=e.size:=by rw[auu];omega
    have EO:dg tv.toList ((i+1)*e.size) mid=A++(B.take e.size++(mid++(B.drop e.size).drop mid.length)):=by
     have:tv.toList=(A++B.take e.size)++B.drop e.size:=by rw[aur,auR];exact aeH
     rw[this,show(i+1)*e.size=(A++B.take e.size).length from by rw[aug,hBk,JZ,au9,av2],xV,aur]
    have EP:dg (dg tv.toList ((i+1)*e.size) mid) (i*e.size) news=A++(news++(mid++(B.drop e.size).drop mid.length)):=by
     rw[EO,←JZ,xV,Bl,av2,avL hBk]
    refine(Lm L w b1 l.length xq i 1 ua ⟨b2,0,none⟩ (dg tv.toList ((i+1)*e.size) mid).toArray (dg (dg tv.toList ((i+1)*e.size) mid) (i*e.size) news).toArray Zv (by omega) tO (by simp only[maxLen]at oC;omega) (fun x lb cb=> ?_) (fun ty dc sc=> ?_) (fun W hW ty dc=> ?_)).mono ?_
    ·rw[run_callFunc_extern O.hf O.name O.body O.next O.find,
      Lib.run_overlaps_apart w (ρ.t 24) (ρ.t 4) (ρ.t 9) L.t24 e.size (fun w=>b8 L.lay w) ⟨b2,0,none⟩ ⟨b1,x,none⟩ 1 ua lb cb (av0 fL) t2 t1 YI.size tv.size (hsh b2 YI t2 Nb) (hsh b1 tv t1 Hy) (by rw[Ht];exact Nat.ne_of_gt (Nat.mul_pos AP hk)) (by simp[World.frozen?,Nb]) (by simp[World.frozen?,Nb])]
     rfl
    ·exact run_copy_row (P:=P) (W:=w.drew) L.t24 (fun w=>b8 L.lay w) (cs:=tv) Hy (news:=mid) (n:=l.length-i) (by simp only[Nat.min_def];split<;>omega) Bk hmc aeF (by rw[Bk,au9,av2];rw[aum (xs:=tv)]at aeG;rw[awO];omega) ty
    ·exact run_copy_row (P:=P) (W:=W) L.t24 (fun w=>b8 L.lay w) (cs:=(dg tv.toList ((i+1)*e.size) mid).toArray) (te:=t1) (by rw[hW];exact setRow_heap w b1 tv _ t1 _ Hy) (news:=news) (n:=1) yF Bl
      (fun j u hj=>by
       have:=hnc j u hj
       rw[Addr.add_lit]at this ⊢
       rw[show W.cell? ⟨b2,0+j,none⟩=w.cell? ⟨b2,0+j,none⟩from World.cell?_of_block (by rw[hW];exact setRow_other w _ (av0 fL))]
       exact this) hn1 (by
       rw[avc,EO]
       simp only[aug,hBk,JZ,Bl]
       omega) ty
    ·rintro e1 w' ⟨rfl,rfl⟩
     refine⟨_,rfl,?_⟩
     have:=rK (e:=e) (rb:=b1) (cap:=xq) (l:=l.take i++(v++l.drop i)) (t:=t1) (w:=w) (w':=(w.drew.setRow b1 (dg tv.toList ((i+1)*e.size) mid).toArray).setRow b1 (dg (dg tv.toList ((i+1)*e.size) mid) (i*e.size) news).toArray) nw qO
      (fun b hb hn=>(setRow_other _ _ (fun e=>hn (by simp[e]))).trans (setRow_other _ _ (fun e=>hn (by simp[e])))) (by rw[setRow_size,setRow_size];exact aul _) (fun _=>by simp) rfl rfl rfl (setRow_heap _ b1 _ _ t1 _ (setRow_heap w.drew b1 tv _ t1 _ Hy)) AP (by rw[XF];exact tO) oC
      (by
       rw[EP,avc]
       rw[aum (xs:=tv)]at aeG hBl
       simp only[aug,auP,JZ,Bl,Bk,hBl,awO]
       omega)
      (by rw[EP];exact J0 _)
     rw[XF]at this
     simpa [gC,dr,AM.fF]using this
   ·
    obtain⟨jo,Z,cw,Lg,gG,hZl⟩:=Lo (P:=P) (w:=w) L.t24 L.t3 L.lay hk (n:=i) (k:=l.length+1-i) (cap:=xq) (olds:=A) (b:=⟨b1,0,none⟩) JZ hAc (by omega) (by omega) (by omega)
    have aj4:i+(l.length+1-i)=l.length+1:=by omega
    rw[aj4]at cw Lg
    have hZk:(l.length+1-i)*e.size≤Z.length:=by rw[hZl];exact ava _ (by omega)
    rw[awO,au9,av2]at hZk
    have EO:dg (A++Z) (i*e.size) news=A++(news++Z.drop news.length):=by rw[←JZ,xV]
    have EP:dg (dg (A++Z) (i*e.size) news) ((i+1)*e.size) mid=A++(news++(mid++(Z.drop news.length).drop mid.length)):=by
     rw[EO,←aur,e1k,←aug,xV,aur]
    have hnb:w.heap.size≠b1:=by omega
    have aq2:b2≠w.heap.size:=by omega
    refine(N2 L w b1 l.length xq i 1 ua 0 jo ⟨b2,0,none⟩ (A++Z).toArray (dg (A++Z) (i*e.size) news).toArray (dg (dg (A++Z) (i*e.size) news) ((i+1)*e.size) mid).toArray Zv (by omega) Zt (by omega) (by simp only[maxLen]at oC;omega) (by simp only[si]at y6;omega) Lg (by simp only[maxLen]at gG;omega) (fun ty=> ?_) (fun W hW ty dc=> ?_) (fun W hW ty dc sc=> ?_)).mono ?_
    ·have:=cw ty
     rw[show(((l.length+1-i:Nat):Int))=(l.length:Int)+(1:Nat)-(i:Int)from by omega]at this
     exact this
    ·exact run_copy_row (P:=P) (W:=W) L.t24 (fun w=>b8 L.lay w) (cs:=(A++Z).toArray) (te:=ρ.t 9) (by rw[hW];exact lU w _) (news:=news) (n:=1) yF Bl
      (fun j u hj=>by
       have:=hnc j u hj
       rw[Addr.add_lit]at this ⊢
       rw[show W.cell? ⟨b2,0+j,none⟩=w.cell? ⟨b2,0+j,none⟩from World.cell?_of_block (by rw[hW];exact alloc_old w _ adK)]
       exact this) hn1 (by rw[avc,aug,JZ,Bl];omega) ty
    ·exact run_copy_row (P:=P) (W:=W) L.t24 (fun w=>b8 L.lay w) (cs:=(dg (A++Z) (i*e.size) news).toArray) (te:=ρ.t 9) (by rw[hW];exact setRow_heap _ _ _ _ _ _ (lU w _)) (news:=mid) (n:=l.length-i) (by simp only[Nat.min_def];split<;>omega) Bk
      (fun j u hj=>by
       have:=hmc j u hj
       rw[Addr.add_lit]at this ⊢
       rw[show W.cell? ⟨b1,i*e.size+j,none⟩=w.cell? ⟨b1,i*e.size+j,none⟩from World.cell?_of_block (by rw[hW];exact(setRow_other _ _ (av0 hnb)).trans (alloc_old w _ aj1))]
       exact this) aeF (by
       rw[avc,EO]
       simp only[aug,auP,JZ,Bl,Bk,au9,awO]
       omega) ty
    ·rintro e1 w' ⟨rfl,rfl⟩
     refine⟨_,rfl,?_⟩
     have hg':((w.drew.alloc (.cells (A++Z).toArray (ρ.t 9))).setRow w.heap.size (dg (A++Z) (i*e.size) news).toArray).drew.heap[w.heap.size]? =some (.cells (dg (A++Z) (i*e.size) news).toArray (ρ.t 9) (0,0)):=setRow_heap _ _ _ _ _ _ (lU w.drew _)
     have:=rK (e:=e) (rb:=w.heap.size) (cap:=jo) (l:=l.take i++(v++l.drop i)) (t:=ρ.t 9) (w:=w) (w':=((w.drew.alloc (.cells (A++Z).toArray (ρ.t 9))).setRow w.heap.size (dg (A++Z) (i*e.size) news).toArray).drew.setRow w.heap.size (dg (dg (A++Z) (i*e.size) news) ((i+1)*e.size) mid).toArray) nw qO
      (fun b hb hn=>(setRow_other _ _ (by omega)).trans ((setRow_other _ _ (by omega)).trans (alloc_old w.drew _ hb))) (by rw[setRow_size];show _≤(World.setRow _ _ _).heap.size;rw[setRow_size,ke];exact awN _) (fun h=>absurd h (axP _)) rfl rfl rfl (setRow_heap _ _ _ _ _ _ hg') (by omega) (by rw[XF];exact Lg) gG
      (by
       rw[EP,avc]
       have hmul:(jo-i)*e.size=jo*e.size-i*e.size:=awO _ _ _
       have hci:i*e.size≤jo*e.size:=ava _ (by omega)
       simp only[aug,auP,JZ,Bl,Bk,hZl,hmul,awO]at hZk ⊢
       omega)
      (by rw[EP];exact J0 _)
     rw[XF]at this
     simpa [gC,dr,AM.fF]using this
end VM
end
section
namespace VM
open Go Go.Shelf Go.RowKit Go.Lib Go.Proofs
variable{P:Program}{ρ:Ren}
noncomputable def N5(ρ:Ren)(fn:Func):Func:={fn with body:=(Body2.n15 ρ).body,ntmps:=8,results:=(Body2.n15 ρ).results,nfree:=0}
theorem wL(ρ:Ren)(fn:Func):(N5 ρ fn).ntmps=8:=rfl
structure CT(P:Program)(e:Ty)(ρ:Ren)(f:FuncId)(fn:Func):Prop where
 hf:P.funcs[f]? =some (N5 ρ fn)
 t4:P.underlying (ρ.t 4)=some .bool
 t22:P.underlying (ρ.t 22)=some (.slice (ρ.t 3))
 lay:gD P e (ρ.t 3)
 ly:0<e.size
 mixed:P.follows .mixedOrders=true
set_option maxHeartbeats 4000000 in
set_option maxRecDepth 100000 in
theorem Lp{e:Ty}{f:FuncId}{fn:Func}(L:CT P e ρ f fn)(w:World)(n c:Nat):
  Calls P f #[.slice none n c] w fun r w2=>r= .returned (.slice none 0 0)∧w2=w:=by
 have u22:=run_underlying L.t22
 have t4:=L.t4;have t22:=L.t22
 have z3:=fun w=>b8 L.lay w
 have mixed:=L.mixed
 have q22: ∀(w:World) (a:Option Addr) (n c n' c':Nat),(binOp .eql (ρ.t 22) (.slice a n c) (.slice none n' c')).run P w= .ok (.bool a.isNone) w:=fun w a n c n' c'=>Lib.run_eql_slice_nil w _ _ a n c n' c' L.t22
 go_enter L.hf,wL ρ fn
 go_wp2
 go_ret
 exact⟨rfl,rfl⟩
set_option maxHeartbeats 4000000 in
set_option maxRecDepth 100000 in
theorem y7{e:Ty}{f:FuncId}{fn:Func}(L:CT P e ρ f fn)(w:World)(a:Addr)(n c:Nat)(v':Value)(w':World)
  (Ev: ∀ty,(Builtin.append_ #[ρ.t 22,ρ.t 22] ty #[.slice (some ⟨w.heap.size,0,none⟩) 0 0,.slice (some a) n c]).run P (w.alloc (.cells #[] (ρ.t 3)))= .ok v' w'):
   Calls P f #[.slice (some a) n c] w fun r w2=>r= .returned v'∧w2=w':=by
 have u22:=run_underlying L.t22
 have t4:=L.t4;have t22:=L.t22
 have z3:=fun w=>b8 L.lay w
 have mixed:=L.mixed
 have q22: ∀(w:World) (a:Option Addr) (n c n' c':Nat),(binOp .eql (ρ.t 22) (.slice a n c) (.slice none n' c')).run P w= .ok (.bool a.isNone) w:=fun w a n c n' c'=>Lib.run_eql_slice_nil w _ _ a n c n' c' L.t22
 obtain⟨ab,ao,asp⟩:=a
 go_enter L.hf,wL ρ fn
 go_wp2_with (at_builtin;refine Lib.wpList_append_run _ rfl _ _ _ _ rfl _ _ rfl rfl _ _ (Ev _) ?_)
 all_goals (go_ret;exact⟨rfl,rfl⟩)
theorem N6{w w':World}{M0:Nat→Prop}{e:Ty}(a:Option Addr)(nw: ∀b,M0 b→b<w.heap.size)(Xy: ∀b,b<w.heap.size→w'.heap[b]? =w.heap[b]?)(ou:w.heap.size≤w'.heap.size)
  (hos:w'.os=w.os) (htp:w'.tape=w.tape) (HZ:w'.output=w.output):
  ∃us M',Value.slice a 0 0=qJ us∧RR w' M' [.own e] ([]:List e.den) us []∧Left w M0 [] w' M'∧(a7 [.own e] us []).Nodup∧ ∀b∈a7 [.own e] us [],¬M0 b:=by
 have sq:a7 [.own e] [Value.slice a 0 0] []=[]:=by
  cases a<;>simp[a7,ct,AM.fF,ed]
 refine⟨[.slice a 0 0],M0,rfl,?_,?_,?_,?_⟩
 ·simp only[RR]
  refine .inr ⟨_,[],rfl,rfl,rfl,?_,rfl,trivial⟩
  simp only[A1,ER,qt]
  exact .inl ⟨trivial,a,rfl⟩
 ·exact⟨fun b h=>h,fun b h=>avn (nw b h) ou,fun b hb h=> .inl h,fun b hb _=>Xy b hb,ou,hos,htp,HZ⟩
 ·rw[sq];simp
 ·rw[sq];simp
theorem lV{e:Ty}{f:FuncId}{fn:Func}(L:CT P e ρ f fn)(tU:(fn.name== "runtime.NumGoroutine")=false)(N3:(Body2.n15 ρ).body.isNone=false)(N:Nat):eP P f (qD e N):=by
 refine⟨(fun h=>by cases h),rfl,fun M0 w vs x y nw hA tQ qO hy=> ?_⟩
 have JS:j1 N x=some y:=hy
 clear hy
 obtain⟨v0,Nu,rfl,h0,h2⟩:=hA
 have h2:Nu=[]:=h2
 subst h2
 replace h0:V w (fun b=>M0 b∨b∈([]:List Nat)) (.slice e) v0 x:=h0
 unfold j1 at JS
 split at JS
 case isFalse=>cases JS
 rename_i y6
 cases JS
 have hbn:(N5 ρ fn).body.isNone=false:=N3
 have hh:cD (qD e N).args [v0]=[]:=rfl
 rw[hh]at qO ⊢
 refine n8 L.hf tU hbn ?_
 obtain⟨i,hi,ou,hz,YV⟩:=L.lay.base
 have hS:=Src.QR h0
 by_cases hx:x=[]
 ·obtain⟨a,cp,hv,_⟩:=hS
  subst hv
  rw[hx]
  cases a with
  |none=>
   refine(Lp L w _ cp).mono ?_
   rintro e1 w' ⟨rfl,rfl⟩
   exact⟨_,rfl,N6 none nw (fun _ _=>rfl) (aul _) rfl rfl rfl⟩
  |some a=>
   refine(y7 L w a _ cp _ _ (fun ty=>nK (P:=P) (w:=w.alloc (.cells #[] (ρ.t 3))) L.t22 hi (some ⟨w.heap.size,0,none⟩) 0 0 (aul _) (some a) cp)).mono ?_
   rintro e1 w' ⟨rfl,rfl⟩
   exact⟨_,rfl,N6 _ nw (fun b hb=>alloc_old w _ hb) (by rw[ke];exact awN _) rfl rfl rfl⟩
 ·obtain⟨b,off,cp,news,hv,hl,lC,gV,h1⟩:=hS.cells hx
  have yL:0<x.length:=avC.2 hx
  subst hv
  obtain⟨jo,rest,cw,Lg,gG,Hs⟩:=y5 (P:=P) (w:=w.alloc (.cells #[] (ρ.t 3))) L.t22 L.lay (n:=0) (m:=x.length) (cap:=0) (cp:=cp) (olds:=[]) (news:=news) (base:=some ⟨w.heap.size,0,none⟩) (a':=⟨b,off,none⟩) (fun h=>by cases h) (by simp) (fun _ _ j u hj=>by simp at hj) hl
   (fun j u hj=>by rw[Addr.add_lit];exact Lib.cell?_alloc_some _ (lC j u hj)) (by omega) (by omega)
  refine(y7 L w ⟨b,off,none⟩ _ cp _ _ cw).mono ?_
  rintro e1 w' ⟨rfl,rfl⟩
  refine⟨_,rfl,?_⟩
  simp only[avk]at Lg Hs ⊢
  have Ht:(w.alloc (.cells #[] (ρ.t 3))).heap.size=w.heap.size+1:=ke w _
  exact rK (e:=e) (rb:=(w.alloc (.cells #[] (ρ.t 3))).heap.size) (cap:=jo) (l:=x) (t:=ρ.t 3) (w:=w) (w':=(w.alloc (.cells #[] (ρ.t 3))).drew.alloc (.cells ([]++news++rest).toArray (ρ.t 3))) nw qO
   (fun b hb _=>(alloc_old (w.alloc (.cells #[] (ρ.t 3))).drew _ (by show b<(w.alloc (.cells #[] (ρ.t 3))).heap.size;omega)).trans (alloc_old w _ hb))
   (by rw[ke];show w.heap.size≤(w.alloc (.cells #[] (ρ.t 3))).heap.size+1;omega) (fun h=>by omega) rfl rfl rfl (lU (w.alloc (.cells #[] (ρ.t 3))).drew _) (by omega) Lg gG
   (by simp only[auK,avc,aug,hl,Hs,←au9];congr 1;omega) (by simpa using mj.more (cs':=rest) (show mj w (fun b=>M0 b∨b∈([]:List Nat)) e news x from gV) (by rw[hl];exact aul _))
end VM
end
