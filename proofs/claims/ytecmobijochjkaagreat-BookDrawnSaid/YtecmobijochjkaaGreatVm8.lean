/- A part of the proof of BookDrawn of layer 18: a machine that reads a function of the program as an equation between values. -/
import Derived.Test.YtecmobijochjkaaGreatVm7
import Derived.KernelRfl
import Derived.Test.YtecmobijochjkaaGreatVm0
import Derived.Laws.Externs
import Derived.Shelf.Spec.SlicesInsertGrow
set_option linter.all false
open List renaming length→ℓ
noncomputable section
section
namespace VM
open Go
@[reducible] def CM.arr:CM→Type→Type
 | .v τ,T| .obj τ,T| .io τ,T| .fn _ τ,T=>τ.den→T
 | .own e,T=>List e.den→T
 | .gn τ _ e,T=>τ.den→List e.den→T
 | .same _,T=>T
@[reducible] def X6:List (Nat×CM)→Type→Type
 |[],R=>R
 |q::r,R=>q.2.arr (X6 r R)
def CM.lam{T:Type}(s:Nat)(σ:St):(m:CM)→(St→T)→m.arr T
 | .v τ,f=>λx=>f (σ.put s (.val τ x))
 | .own e,f=>λx=>f ((σ.put s (.ref (16*s+14))).ku (16*s+14) (some (.own e x)))
 | .obj τ,f=>λx=>f ((σ.put s (.jH (16*s+14) [])).ku (16*s+14) (some (.obj τ x)))
 | .gn τ q e,f=>λx l=>f (((σ.put s (.jH (16*s+14) [])).ku (16*s+13) (some (.own e l))).ku (16*s+14) (some (.gn τ x q (16*s+13))))
 | .io τ,f=>λx=>f ((σ.put s (.jH (16*s+15) [])).ku (16*s+15) (some (.obj τ x)))
 | .fn g τ,f=>λx=>f (σ.put s (.NZ g (q4 τ x)))
 | .same s',f=>f (σ.put s (σ.T s'))
def aqe{R:Type}(κ:St→R):(L:List (Nat×CM))→St→X6 L R
 |[],σ=>κ σ
 |q::r,σ=>q.2.lam q.1 σ (aqe κ r)
@[reducible] def Aj:List AM→Type→Type
 |[],R=>R
 |m::r,R=>m.den→Aj r R
def Hh{R:Type}:(ms:List AM)→Aj ms R→HP ms→R
 |[],g,_=>g
 |[_],g,x=>g x
 |_::n::ms,g,x=>Hh (n::ms) (g x.1) x.2
def V8{R:Type}:(ms:List AM)→(HP ms→R)→Aj ms R
 |[],f=>f ()
 |[_],f=>f
 |_::n::ms,f=>λx=>V8 (n::ms) λy=>f (x,y)
theorem LY{R:Type}: ∀(ms:List AM) (f:HP ms→R) (x:HP ms),Hh ms (V8 ms f) x=f x
 |[],_,()=>rfl
 |[_],_,_=>rfl
 |_::n::ms,f,x=>LY (n::ms) (λy=>f (x.1,y)) x.2
structure Pc where
 k:Nat
 c:List (Nat×CM)
 path:List Nat
 ks:List Nat
def Zf:List Pc→Nat→Pc
 |[],_=>⟨0,[],[],[]⟩
 |p::r,k=>cond (Nat.beq k p.k) p (Zf r k)
def OQ:List Pc→Nat→Option (List (Nat×CM))
 |[],_=>none
 |p::r,k=>cond (Nat.beq k p.k) (some p.c) (OQ r k)
def CU:List (Nat×nc)→Nat→List nc
 |[],_=>[]
 |q::r,i=>cond (Nat.beq i q.1) (q.2::CU r i) (CU r i)
def Hi:List AM→Nat→List Nat
 |[],_=>[]
 | .io _::r,i=>i::Hi r (i+1)
 | .lo _::r,i=>i::Hi r (i+1)
 |_::r,i=>Hi r (i+1)
structure Fx where
 nt:Nat
 tab:List (Nat×Ty)
 G:List (Nat×nc)
 N:Nat
 fn:Func
 args:List AM
 res:List AM
 pcs:List Pc
 lk:Option (Ty×List Step×Ty×List Nat):=none
namespace Fx
variable(X:Fx)
abbrev R:=Option (HP X.res)
def E:Env:={nt:=X.nt,ty:=λi=>OP i X.tab,Γ:=CU X.G,N:=X.N,xz:=λr=>OQ X.pcs (2*r+1),zu:=λr=>OQ X.pcs (2*r),io:=Hi X.args 0,lk:=X.lk}
@[reducible] def c(i:Nat):List (Nat×CM):=(Zf X.pcs i).c
def path(i:Nat):List Nat:=(Zf X.pcs i).path
def odd(i:Nat):Bool:=Nat.beq (i%2) 1
def cut(ρ:Nat→St→X.R)(l:Nat):St→X.R:=fun σ=>xH (some (X.c l)) σ (ρ l)
def ks(ρ:Nat→St→X.R)(i:Nat):List (St→X.R):=(Zf X.pcs i).ks.map (X.cut ρ)
def lp(ρ:Nat→St→X.R)(i n:Nat):St→X.R:=lpF X.E X.fn X.args X.res (X.c i) (X.path i) (X.ks ρ i) n
def cv(ρ:Nat→St→X.R)(i:Nat):St→X.R:=cond (odd i) (X.lp ρ i X.N) (atF X.E X.fn X.args X.res (X.path i) (X.ks ρ i))
def own(ρ:Nat→St→X.R)(i:Nat):List (St→X.R):=X.ks ρ i++cond (odd i) [X.cut ρ i] []
def at'(K ρ:Nat→St→X.R)(i:Nat):St→X.R:=atQ X.E X.fn X.args X.res (λr=>K (2*r)) (λr=>K (2*r+1)) (X.path i) (X.own ρ i)
def tl(K ρ:Nat→St→X.R)(i:Nat):List ((St→X.R)×(St→X.R)):=xY X.E (λr=>K (2*r)) (λr=>K (2*r+1)) (acN X.E X.fn X.args X.res (X.path i) (X.own ρ i))
@[reducible] def cu(i:Nat)(κ:St→X.R):X6 (X.c i) X.R:=aqe κ (X.c i) S0
@[reducible] def bd(K ρ:Nat→St→X.R)(i:Nat):X6 (X.c i) X.R:=X.cu i (X.at' K ρ i)
@[reducible] def kc(ρ:Nat→St→X.R)(i:Nat):X6 (X.c i) X.R:=X.cu i (ρ i)
def D8:Nat→St→X.R:=λ_ _=>none
def top(K:Nat→St→X.R):Aj X.args X.R:=V8 X.args λx=>atQ X.E X.fn X.args X.res (λr=>K (2*r)) (λr=>K (2*r+1)) [] [] (entry X.args x 0 S0)
def tlT(K:Nat→St→X.R):List ((St→X.R)×(St→X.R)):=xY X.E (λr=>K (2*r)) (λr=>K (2*r+1)) (acN X.E X.fn X.args X.res [] [])
def S(q:Bool)(g:Aj X.args X.R):nc:={args:=X.args,res:=X.res,quiet:=q,run:=Hh X.args g}
variable{X}
theorem acO(f:Nat→St→X.R): ∀tu:List Nat,V6 (tu.map λt=>(f t,f t))
 |[]=>trivial
 |_::r=>⟨rfl,acO f r⟩
theorem okJ{i:Nat}(tu:List Nat)(hi:odd i=false)(hr: ∀K ρ,X.tl K ρ i=tu.map λt=>(K t,X.cv ρ t)){g:(Nat→St→X.R)→(Nat→St→X.R)→X6 (X.c i) X.R}(h: ∀K ρ,X.bd K ρ i=g K ρ)(ρ:Nat→St→X.R):X.kc (X.cv ρ) i=g (X.cv ρ) ρ:=by
 rw[←h]
 have:X.cv ρ i=X.at' (X.cv ρ) ρ i:=by
  funext σ
  have h1:=hr (X.cv ρ) ρ
  unfold tl own at h1
  rw[hi,av,cy]at h1
  unfold at' own
  rw[hi,av,cy]
  rw[←at_eq X.E X.fn X.args X.res h1 (acO (X.cv ρ) tu) σ]
  unfold cv;rw[hi];rfl
 unfold kc bd
 rw[this]
def okb(X:Fx)(i:Nat):Bool:=odd i&&(Zf X.pcs i).ks.all λl=> !(Nat.beq l i)
theorem okL{i:Nat}(tu:List Nat)(hi:okb X i=true)(hr: ∀K ρ,X.tl K ρ i=tu.map λt=>(K t,X.cv ρ t)){g:(Nat→St→X.R)→(Nat→St→X.R)→X6 (X.c i) X.R}(h: ∀K ρ,X.bd K ρ i=g K ρ)(ρ:Nat→St→X.R)
  (G:Nat→X6 (X.c i) X.R) (h0:X.cu i (λ_=>none)=G 0) (hs: ∀n ρ',X.kc ρ' i=G n→(∀l,Nat.beq l i=false→X.kc ρ' l=X.kc ρ l)→g (X.cv ρ') ρ'=G (n+1)):X.kc (X.cv ρ) i=G X.N:=by
 unfold okb at hi
 rw[bP]at hi
 obtain⟨hi,hk⟩:=hi
 have key: ∀n,X.cu i (X.lp ρ i n)=G n:=by
  intro n
  induction n with
  |zero=>exact h0
  |succ n ih=>
   let ρ':Nat→St→X.R:=λl=>cond (Nat.beq l i) (X.lp ρ i n) (ρ l)
   have e1:ρ' i=X.lp ρ i n:=by show cond (Nat.beq i i) _ _=_;rw[p8];rfl
   have e2: ∀l,Nat.beq l i=false→ρ' l=ρ l:=λl hl=>by show cond (Nat.beq l i) _ _=_;rw[hl];rfl
   rw[←hs n ρ' (by unfold kc;rw[e1];exact ih) (λl hl=>by unfold kc;rw[e2 l hl]),←h]
   have e3:X.ks ρ' i=X.ks ρ i:=by
    unfold ks
    refine p4 λl hl=> ?_
    have:=pL.1 hk l hl
    unfold cut
    rw[e2 l (by simpa using this)]
   have:X.lp ρ i (n+1)=X.at' (X.cv ρ') ρ' i:=by
    funext σ
    have h1:=hr (X.cv ρ') ρ'
    unfold tl own at h1
    rw[hi,aj]at h1
    unfold at' own
    rw[hi,aj]
    rw[←at_eq X.E X.fn X.args X.res h1 (acO (X.cv ρ') tu) σ]
    unfold lp
    rw[Zb,e3]
    unfold cut
    rw[e1];rfl
   unfold bd
   rw[this]
 have:X.cv ρ i=X.lp ρ i X.N:=by unfold cv;rw[hi];rfl
 unfold kc
 rw[this];exact key _
def LZ(P:Program):List (Nat×nc)→Prop
 |[]=>True
 |q::r=>jw P q.1 q.2∧LZ P r
structure _root_.VM.Kn(P:Program) where
 f:Nat
 S:nc
 ok:jw P f S
def _root_.VM.Kn.p{P:Program}(k:Kn P):Nat×nc:=(k.f,k.S)
def _root_.VM.Kn.l{P:Program}:List (Kn P)→List (Nat×nc)
 |[]=>[]
 |k::r=>k.p::Kn.l r
theorem _root_.VM.Kn.all{P:Program}: ∀l:List (Kn P),LZ P (Kn.l l)
 |[]=>trivial
 |k::r=>⟨k.ok,Kn.all r⟩
theorem CV{P:Program}: ∀{l:List (Nat×nc)},LZ P l→ ∀f S,S∈CU l f→jw P f S
 |[],_,f,S,h=>by simp[CU]at h
 |q::r,ha,f,S,h=>by
  unfold CU at h
  cases hb:Nat.beq f q.1<;>rw[hb]at h
  ·exact CV ha.2 f S h
  ·rcases bc.1 h with rfl|h
   ·rw[fA hb];exact ha.1
   ·exact CV ha.2 f S h
theorem Hj: ∀{l:List Pc},(l.all λp=>kY p.c)=true→ ∀i L,OQ l i=some L→kY L=true
 |q::r,ha,i,L,h=>by
  rw[xv,bP]at ha
  unfold OQ at h
  cases hb:Nat.beq i q.k<;>rw[hb]at h
  ·exact Hj ha.2 i L h
  ·cases h;exact ha.1
def chk(X:Fx)(q:Bool):Bool:=(X.pcs.all λp=>kY p.c)&&((!(X.fn.name== "runtime.NumGoroutine")&&Nat.beq X.nt X.fn.ntmps)&&(X.fn.body.isSome&&(Nat.ble X.args.length X.nt&&((!q||X.res.all AM.flat)&&decide (nE X.args=nE X.res)))))
theorem OR: ∀{ms:List AM} {k i:Nat} {m:AM},ms[i]? =some m→m.iV=true→k+i∈Hi ms k
 |[],_,_,_,h,_=>by simp at h
 |m::ms,k,0,m',h,wQ=>by
  simp only[NO,iI]at h
  subst h
  cases m<;>simp[AM.iV]at wQ<;>simp[Hi]
 |m::ms,k,i+1,m',h,wQ=>by
  have:=OR (ms:=ms) (k:=k+1) (i:=i) (by simpa using h) wQ
  rw[show k+(i+1)=k+1+i from by omega]
  cases m<;>simp only[Hi]<;>first|exact a8 _ this|exact this
theorem Uo: ∀{ms:List AM} {k i:Nat},i∈Hi ms k→i<k+ms.length
 |[],_,_,h=>by simp[Hi]at h
 |m::ms,k,i,h=>by
  have hr:i∈Hi ms (k+1)→i<k+(m::ms).length:=λh=>by have:=Uo h;simp only[aT];omega
  cases m<;>simp only[Hi]at h<;>first
   |exact hr h
   |(rcases bc.1 h with rfl|h<;>first|exact hr h|(simp only[aT];omega))
variable(X)in
theorem Km{P:Program}(ht:Hg P X.tab)(hG:LZ P X.G)(hc:(X.pcs.all λp=>kY p.c)=true):sF P X.E:=by
 have iT: ∀t τ,OP t X.tab=some τ→u6 P τ (.inl t)=true∧acL P τ t=true:=λt τ h=>by
  have:=pL.1 ht.ok _ (Kl h)
  simpa using this
 exact{ty:=λt τ h=>iM (iT t τ h).1,eq:=λt τ h hc ha=>acM (iM (iT t τ h).1) (iT t τ h).2 hc ha,apP:=CV hG,mixed:=ht.mixed,kY:=λi L h=>Hj hc _ L h,YK:=λi L h=>Hj hc _ L h}
theorem mkS{P:Program}(ht:Hg P X.tab){f:FuncId}(hf:P.funcs[f]? =some X.fn){q:Bool}(hc:chk X q=true)(hG:LZ P X.G){g:Aj X.args X.R}(h: ∀x,No X.E X.fn X.args X.res x=Hh X.args g x):jw P f (X.S q g):=by
 unfold chk at hc
 simp only[bP]at hc
 obtain⟨h0,⟨h1,h2⟩,h3,h4,h5,h6⟩:=hc
 refine Y3 (Km X ht hG h0) hf (by simpa using h1) (fA h2) (X.S q g) (λi m hm wQ=> ?_) (λi hi=> ?_) ?_ (λhq=> ?_) (bA h6) h
 ·have:=OR (k:=0) hm wQ
  rwa [gr]at this
 ·have:=Uo (k:=0) hi
  rwa [gr]at this
 ·have:=Gc h4
  rwa [fA h2]at this
 ·have hq:q=true:=hq
  subst hq
  show X.res.all AM.flat=true
  simpa using h5
theorem acP{g:Aj X.args X.R}(h:V8 X.args (No X.E X.fn X.args X.res)=g)(x:HP X.args):No X.E X.fn X.args X.res x=Hh X.args g x:=by rw[←h,LY]
variable(X)in
theorem ok0{P:Program}(ht:Hg P X.tab){f:FuncId}(hf:P.funcs[f]? =some X.fn){q:Bool}(hc:chk X q=true)(hG:LZ P X.G){g:Aj X.args X.R}(h:V8 X.args (No X.E X.fn X.args X.res)=g):jw P f (X.S q g):=
 mkS ht hf hc hG (acP h)
theorem ak2(hb:X.fn.body.isSome=true)(tu:List Nat)(hr: ∀K,X.tlT K=tu.map λt=>(K t,X.cv X.D8 t))
  {g:(Nat→St→X.R)→Aj X.args X.R} (h: ∀K,X.top K=g K) {f:Aj X.args X.R} (hf:g (X.cv X.D8)=f) (x:HP X.args):No X.E X.fn X.args X.res x=Hh X.args f x:=by
 rw[←hf,←h,ak0 hb]
 unfold top
 rw[LY]
 exact at_eq X.E X.fn X.args X.res (hr (X.cv X.D8)) (acO (X.cv X.D8) tu) _
variable(X)in
theorem ok1{P:Program}(ht:Hg P X.tab){f:FuncId}(hf:P.funcs[f]? =some X.fn){q:Bool}(hc:chk X q=true)(hG:LZ P X.G)(tu:List Nat)(hr: ∀K,X.tlT K=tu.map λt=>(K t,X.cv X.D8 t))
  {g:(Nat→St→X.R)→Aj X.args X.R} (h: ∀K,X.top K=g K) {f':Aj X.args X.R} (zW:g (X.cv X.D8)=f'):jw P f (X.S q f'):=by
 have hb:X.fn.body.isSome=true:=by
  unfold chk at hc
  simp only[bP]at hc
  exact hc.2.2.1
 exact mkS ht hf hc hG (ak2 hb tu hr h zW)
theorem uJ{i:Nat}(tu:List Nat){g:(Nat→St→X.R)→(Nat→St→X.R)→X6 (X.c i) X.R}(h: ∀K ρ,X.bd K ρ i=g K ρ)(ρ:Nat→St→X.R){f:X6 (X.c i) X.R}(hf:g (X.cv ρ) ρ=f:=by rfl)
 (hi:odd i=false:=by kernel_rfl) (hr: ∀K ρ,X.tl K ρ i=tu.map λt=>(K t,X.cv ρ t):=by intro K ρ;kernel_rfl):X.kc (X.cv ρ) i=f:=(okJ tu hi hr h ρ).trans hf
theorem uL{i:Nat}(tu:List Nat){g:(Nat→St→X.R)→(Nat→St→X.R)→X6 (X.c i) X.R}(h: ∀K ρ,X.bd K ρ i=g K ρ)(ρ:Nat→St→X.R)
 (G:Nat→X6 (X.c i) X.R) (hs: ∀n ρ',X.kc ρ' i=G n→(∀l,Nat.beq l i=false→X.kc ρ' l=X.kc ρ l)→g (X.cv ρ') ρ'=G (n+1)) (h0:X.cu i (λ_=>none)=G 0:=by rfl)
 (hi:okb X i=true:=by kernel_rfl) (hr: ∀K ρ,X.tl K ρ i=tu.map λt=>(K t,X.cv ρ t):=by intro K ρ;kernel_rfl):X.kc (X.cv ρ) i=G X.N:=okL tu hi hr h ρ G h0 hs
variable(X)in
theorem u0{P:Program}(ht:Hg P X.tab){f:FuncId}(hf:P.funcs[f]? =some X.fn){q:Bool}{g:Aj X.args X.R}(hG:LZ P X.G:=by first|exact trivial|exact Kn.all _)(hc:chk X q=true:=by kernel_rfl)(h:V8 X.args (No X.E X.fn X.args X.res)=g:=by kernel_rfl):jw P f (X.S q g):=ok0 X ht hf hc hG h
variable(X)in
theorem u1{P:Program}(ht:Hg P X.tab){f:FuncId}(hf:P.funcs[f]? =some X.fn)(tu:List Nat)
 {g:(Nat→St→X.R)→Aj X.args X.R} (h: ∀K,X.top K=g K) {q:Bool} {f':Aj X.args X.R} (zW:g (X.cv X.D8)=f':=by rfl) (hG:LZ P X.G:=by first|exact trivial|exact Kn.all _) (hc:chk X q=true:=by kernel_rfl) (hr: ∀K,X.tlT K=tu.map λt=>(K t,X.cv X.D8 t):=by intro K;kernel_rfl):jw P f (X.S q f'):=ok1 X ht hf hc hG tu hr h zW
end Fx
end VM
end
section
namespace VM
open Go
variable{P:Program}
theorem Left.same(w:World)(M0:Nat→Prop)(h: ∀b,M0 b→b<w.heap.size):Left w M0 [] w M0:=
 ⟨λ_ h=>h,h,λ_ _ h=> .inl h,λ_ _ _=>rfl,aH _,rfl,rfl,rfl⟩
theorem aqf{w:World}{M:Nat→Prop}{a b c:IntKind}{x:HP [.v (.int a),.v (.int b),.v (.int c)]}{vs:List Value}(h:kF w M [.v (.int a),.v (.int b),.v (.int c)] x vs):vs=[.int a x.1,.int b x.2.1,.int c x.2.2]:=by
 simp only[kF,A1,V,Ty.isAgg,jO,fE,Rd,fT,fD]at h
 obtain⟨v,vs,rfl,rfl,v,vs,rfl,rfl,v,vs,rfl,rfl,rfl⟩:=h
 rfl
theorem rr2{w:World}{M:Nat→Prop}{a b:IntKind}(x y:Int):RR w M [.v (.int a),.v (.int b)] (x,y) [.int a x,.int b y] []:=by
 simp only[RR]
 refine .inr ⟨_,_,rfl,rfl,rfl,?_,.inr ⟨_,_,rfl,rfl,rfl,?_,rfl,trivial⟩⟩<;>simp[A1,V,Ty.isAgg,Rd,rq,ux]
theorem Up{f:FuncId}(run:Int×Int×Int→Option (Int×Int))
  (h: ∀(w:World) (a b c u v:Int),run (a,b,c)=some (u,v)→(callFunc f #[.int .u64 a,.int .u64 b,.int .u64 c]).run P w= .ok (.value (.tuple #[.int .u64 u,.int .u64 v])) w):
  jw P f {args:=[.v (.int .u64),.v (.int .u64),.v (.int .u64)],res:=[.v (.int .u64),.v (.int .u64)],quiet:=true,run}:=by
 refine⟨λ_=>rfl,rfl,λM0 w vs x y tt hA _ _ hy=> ?_⟩
 have hvs:=aqf hA
 subst hvs
 exact JA (h w x.1 x.2.1 x.2.2 y.1 y.2 hy) ⟨_,M0,rfl,rr2 y.1 y.2,Left.same w M0 tt,List.nodup_nil,λb hb=>by cases hb⟩
theorem CW(nm:String)(a b c:Nat)(h:c≤1)(w:World):(Extern.MathBitsCarry.three nm #[.int .u64 a,.int .u64 b,.int .u64 c]).run P w= .ok (a,b,c) w:=by
 have h5: ¬(1<c):=ω
 have:Extern.MathBitsCarry.three nm #[.int .u64 a,.int .u64 b,.int .u64 c]=(do
  let c:=(←asInt (.int .u64 c)).toNat
  if c>1 then unsupported (.noEntry ("extern/math/bits." ++nm++ ": a carry that is neither 0 nor 1"))
  pure ((←asInt (.int .u64 a)).toNat,(←asInt (.int .u64 b)).toNat,c)):=rfl
 rw[this]
 simp[asInt,asIntOf]
 omega
theorem V9{f:FuncId}{fn:Func}(N:Nat)(hf:P.funcs[f]? =some fn)(BH:(fn.name== "runtime.NumGoroutine")=false)(hb:fn.body.isNone=true)(hn:Extern.findNext fn=none)
  (he:Extern.find fn=(Extern.MathBitsCarry.rows[0]?).map (·.2)):jw P f (uX.S N):=by
 refine Up (λx=>uX N x.1 x.2.1 x.2.2) λw a b c u v hy=> ?_
 simp only[uX]at hy
 split at hy
 ·rename_i hc
  obtain⟨h1,h2,h3,h4⟩:=hc
  obtain⟨a,rfl⟩:=vC h1
  obtain⟨b,rfl⟩:=vC h2
  obtain⟨c,rfl⟩:=vC h3
  cases hy
  rw[run_callFunc_extern hf BH hb hn he]
  simp[CW _ a b c ω,Extern.MathBitsCarry.pair,Extern.MathBitsCarry.m64]
 ·cases hy
theorem Wa{f:FuncId}{fn:Func}(N:Nat)(hf:P.funcs[f]? =some fn)(BH:(fn.name== "runtime.NumGoroutine")=false)(hb:fn.body.isNone=true)(hn:Extern.findNext fn=none)
  (he:Extern.find fn=(Extern.MathBitsCarry.rows[1]?).map (·.2)):jw P f (tM.S N):=by
 refine Up (λx=>tM N x.1 x.2.1 x.2.2) λw a b c u v hy=> ?_
 simp only[tM]at hy
 split at hy
 ·rename_i hc
  obtain⟨h1,ru,h2,zL,h3,h4⟩:=hc
  obtain⟨a,rfl⟩:=vC h1
  obtain⟨b,rfl⟩:=vC h2
  obtain⟨c,rfl⟩:=vC h3
  cases hy
  rw[run_callFunc_extern hf BH hb hn he]
  have e1:((a+18446744073709551616-b-c:Nat):Int)=(a:Int)+18446744073709551616-b-c:=ω
  by_cases h:a<b+c
  ·have h':(a:Int)<(b:Int)+(c:Int):=ω
   simp[CW _ a b c ω,Extern.MathBitsCarry.pair,Extern.MathBitsCarry.m64,e1,h,h']
  ·have h': ¬(a:Int)<(b:Int)+(c:Int):=ω
   simp[CW _ a b c ω,Extern.MathBitsCarry.pair,Extern.MathBitsCarry.m64,e1,h,h']
 ·cases hy
end VM
end
section
namespace VM
open Go Go.Shelf Go.RowKit Go.Lib Go.Proofs
variable{P:Program}{ρ:Ren}
def Zg(ρ:Ren)(fn:Func):Func:={fn with body:=(Body2.n22 ρ).body,ntmps:=95,results:=(Body2.n22 ρ).results,nfree:=0}
theorem xZ(ρ:Ren)(fn:Func):(Zg ρ fn).ntmps=95:=rfl
structure Wb(P:Program)(e:Ty)(ρ:Ren)(f:FuncId)(fn fo:Func):Prop where
 hf:P.funcs[f]? =some (Zg ρ fn)
 t3:P.underlying (ρ.t 3)=some (.int .i64)
 t4:P.underlying (ρ.t 4)=some .bool
 t24:P.underlying (ρ.t 24)=some (.slice (ρ.t 9))
 lay:kZ P e (ρ.t 9)
 ra:0<e.size
 mixed:P.follows .mixedOrders=true
set_option maxHeartbeats 4000000 in
set_option maxRecDepth 100000 in
theorem L0{e:Ty}{f:FuncId}{fn fo:Func}(L:Wb P e ρ f fn fo)(w:World)(base:Option Addr)(n c m vc:Nat)(va:Addr)(v':Value)(w':World)(hm:0<m)(hn:n≤c)
  (Ox: ∀ty,(Builtin.append_ #[ρ.t 24,ρ.t 24] ty #[.slice base n c,.slice (some va) m vc]).run P w= .ok v' w'):
   Calls P f #[.slice base n c,.int .i64 n,.slice (some va) m vc] w λr w2=>r= .returned v'∧w2=w':=by
 have u3:=run_underlying L.t3;have u4:=run_underlying L.t4;have u24:=run_underlying L.t24
 have t3:=L.t3;have t4:=L.t4;have t24:=L.t24
 have z9:=λw=>dy L.lay w
 have mixed:=L.mixed
 have zI: ¬((m:Int)=0):=ω
 go_enter L.hf,xZ ρ fn
 cases base with
 |none=>
   go_wp2_with (at_builtin;refine Lib.wpList_append_run _ rfl _ _ _ _ rfl _ _ rfl rfl _ _ (Ox _) ?_)
   all_goals (go_ret;exact⟨rfl,rfl⟩)
 |some a=>
   obtain⟨ab,ao,asp⟩:=a
   go_wp2_with (at_builtin;refine Lib.wpList_append_run _ rfl _ _ _ _ rfl _ _ rfl rfl _ _ (Ox _) ?_)
   all_goals (go_ret;exact⟨rfl,rfl⟩)
theorem run_copy_row{t te e:TypeId}{k:Nat}(ht:P.underlying t=some (.slice e))(hk: ∀w,(Go.sizeOf e).run P w= .ok k w){W:World}{b o aqg awa ak3 aqh n:Nat}{a:Addr}{cs:Array Value}(hg:W.heap[b]? =some (.cells cs te (0,0)))
  {news:List Value} (hnn:Nat.min ak3 aqg=n) (hl:news.length=n*k) (hn: ∀j u,news[j]? =some u→W.cell? (a.add j)=some u) (h1: ∀u∈news,u.oneCell'=true) (GU:o+news.length≤cs.size) (ty:TypeId):
  (Builtin.copy_ #[t,t] ty #[.slice (some ⟨b,o,none⟩) aqg awa,.slice (some a) ak3 aqh]).run P W= .ok (goInt n) (W.setRow b (eJ cs.toList o news).toArray):=by
 have hf:=run_firstCells_some (P:=P) W k n a ak3 aqh news hl hn
 have xd:=run_storeCells_at (P:=P) b o te news 0 cs W hg ω h1
 simp only[mC]at xd
 simp[Builtin.copy_,run_underlying ht,hk,Builtin.lenOf,hnn,hf,xd,eJ]
set_option maxHeartbeats 4000000 in
set_option maxRecDepth 100000 in
theorem Wc{e:Ty}{f:FuncId}{fn fo:Func}(L:Wb P e ρ f fn fo)(w:World)(b n c i m vc:Nat)(va:Addr)(L1 Zh:Array Value)(hi:i<n)(hm:0<m)(hr:n+m≤c)(awb:c≤9223372036854775807)
  (hov: ∀x lb cb,(callFunc (ρ.f 29) #[.slice (some va) m vc,.slice (some ⟨b,x,none⟩) lb cb]).run P w= .ok (.value (.bool false)) w)
  (acQ: ∀ty dc sc,(Builtin.copy_ #[(ρ.t 24),(ρ.t 24)] ty #[.slice (some ⟨b,(i+m)*e.size,none⟩) (n+m-(i+m)) dc,.slice (some ⟨b,i*e.size,none⟩) (n+m-i) sc]).run P w.drew= .ok (goInt ((n-i:Nat):Int)) (w.drew.setRow b L1))
  (acR: ∀W:World,W.heap=(w.setRow b L1).heap→ ∀ty dc,(Builtin.copy_ #[(ρ.t 24),(ρ.t 24)] ty #[.slice (some ⟨b,i*e.size,none⟩) (n+m-i) dc,.slice (some va) m vc]).run P W= .ok (goInt m) (W.setRow b Zh)):
   Calls P f #[.slice (some ⟨b,0,none⟩) n c,.int .i64 i,.slice (some va) m vc] w λr w2=>r= .returned (.slice (some ⟨b,0,none⟩) (n+m) c)∧w2=(w.drew.setRow b L1).setRow b Zh:=by
 have u3:=run_underlying L.t3;have u4:=run_underlying L.t4;have u24:=run_underlying L.t24
 have t3:=L.t3;have t4:=L.t4;have t24:=L.t24
 have z9:=λw=>dy L.lay w
 have mixed:=L.mixed
 have zI: ¬((m:Int)=0):=ω
 have FF: ¬((i:Int)=(n:Int)):=ω
 have hw1:IntKind.i64.wrap ((i:Int)+(m:Int))=(i:Int)+(m:Int):=by rw[IntKind.wrap_i64];omega
 have nC:(0:Int)≤(i:Int)+(m:Int):=ω
 have kg:i≤n:=ω
 have V2:((i:Int)+(m:Int)).toNat=i+m:=ω
 have vx: ¬(c=i+m):=ω
 have hb3:(i:Int)≤(n:Int)+(m:Int):=ω
 have hb4: ¬(c=i):=ω
 go_enter L.hf,xZ ρ fn
 go_wp2_with (simp only[hov])
 go_region_law_o (refine step_copy_runI rfl _ _ (ρ.t 24) (ρ.t 24) rfl _ _ (by simp[Act.eval,Act.put]) (by simp[Act.eval,Act.put]) (acQ _ _ _) ?_)
 have h2:=acR (w.drew.setRow b L1) rfl
 go_wp2
 go_ret
 exact⟨rfl,rfl⟩
set_option maxHeartbeats 4000000 in
set_option maxRecDepth 100000 in
theorem Zi{e:Ty}{f:FuncId}{fn fo:Func}(L:Wb P e ρ f fn fo)(w:World)(b n c i m vc nb G:Nat)(va:Addr)(Wd L1 Zh:Array Value)(hi:i<n)(hm:0<m)(hnc:n≤c)(hr:c<n+m)(awb:c≤9223372036854775807)(h63:n+m≤9223372036854775807)(hG:n+m≤G)(aDD:G≤9223372036854775807)
  (Ox: ∀ty,(Builtin.append_ #[(ρ.t 24),(ρ.t 3)] ty #[.slice (some ⟨b,0,none⟩) i c,.int .i64 ((n:Int)+(m:Int)-(i:Int))]).run P w= .ok (.slice (some ⟨w.heap.size,0,none⟩) (n+m) G) (w.drew.alloc (.cells Wd (ρ.t 9))))
  (acQ: ∀W:World,W.heap=(w.alloc (.cells Wd (ρ.t 9))).heap→ ∀ty dc,(Builtin.copy_ #[(ρ.t 24),(ρ.t 24)] ty #[.slice (some ⟨w.heap.size,i*e.size,none⟩) (n+m-i) dc,.slice (some va) m vc]).run P W= .ok (goInt m) (W.setRow w.heap.size L1))
  (acR: ∀W:World,W.heap=((w.alloc (.cells Wd (ρ.t 9))).setRow w.heap.size L1).heap→ ∀ty dc sc,(Builtin.copy_ #[(ρ.t 24),(ρ.t 24)] ty #[.slice (some ⟨w.heap.size,(i+m)*e.size,none⟩) (n+m-(i+m)) dc,.slice (some ⟨b,i*e.size,none⟩) (n-i) sc]).run P W= .ok (goInt ((n-i:Nat):Int)) (W.setRow w.heap.size Zh)):
   Calls P f #[.slice (some ⟨b,0,none⟩) n c,.int .i64 i,.slice (some va) m vc] w λr w2=>r= .returned (.slice (some ⟨w.heap.size,0,none⟩) (n+m) G)∧w2=((w.drew.alloc (.cells Wd (ρ.t 9))).setRow w.heap.size L1).drew.setRow w.heap.size Zh:=by
 have u3:=run_underlying L.t3;have u4:=run_underlying L.t4;have u24:=run_underlying L.t24
 have t3:=L.t3;have t4:=L.t4;have t24:=L.t24
 have z9:=λw=>dy L.lay w
 have mixed:=L.mixed
 have zI: ¬((m:Int)=0):=ω
 have FF: ¬((i:Int)=(n:Int)):=ω
 have hz3:(c:Int)<(n:Int)+(m:Int):=ω
 have hw1:IntKind.i64.wrap ((i:Int)+(m:Int))=(i:Int)+(m:Int):=by rw[IntKind.wrap_i64];omega
 have nC:(0:Int)≤(i:Int)+(m:Int):=ω
 have kg:i≤n:=ω
 have V2:((i:Int)+(m:Int)).toNat=i+m:=ω
 have hGi: ¬(G=i):=ω
 have aDE: ¬(G=i+m):=ω
 have hci: ¬(c=i):=ω
 have hb3:(i:Int)≤(n:Int):=ω
 have h1:=acQ ((w.alloc (.cells Wd (ρ.t 9))).drew) rfl
 have h2:=acR (((w.alloc (.cells Wd (ρ.t 9))).drew.setRow w.heap.size L1).drew) rfl
 go_enter L.hf,xZ ρ fn
 go_wp2_with (first
   |(at_builtin;refine Lib.wpList_append_run _ rfl _ _ _ _ rfl _ _ rfl rfl _ _ (Ox _) ?_)
   |(at_builtin;refine wpList_copy_runI _ rfl _ _ (ρ.t 24) (ρ.t 24) rfl _ _ rfl rfl (acQ _ (by exact rfl) _ _) ?_)
   |(at_builtin;refine wpList_copy_runI _ rfl _ _ (ρ.t 24) (ρ.t 24) rfl _ _ rfl rfl (acR _ (by exact rfl) _ _ _) ?_))
 go_region_law_o (refine step_copy_runI rfl _ _ (ρ.t 24) (ρ.t 24) rfl _ _ (by simp[Act.eval,Act.put]) (by simp[Act.eval,Act.put]) (h2 _ _ _) ?_)
 go_wp2
 go_ret
 exact⟨rfl,rfl⟩
theorem FG{α:Type}(A Z news:List α):eJ (A++Z) A.length news=A++(news++Z.drop news.length):=by
 unfold eJ
 rw[xt rfl,bD,←iJ,mA rfl]
theorem pO.aqj{w:World}{M:Nat→Prop}{e:Ty}{cs:List Value}{l:List e.den}(h:pO w M e cs l)(i:Nat):pO w M e (cs.take (i*e.size)) (l.take i):=by
 intro j hj
 rw[cf]at hj
 have:=ew (s:=e.size) (show j<i by omega)
 rw[sf,si,iq ω,AZ]
 exact h j ω
theorem pO.aqk{w:World}{M:Nat→Prop}{e:Ty}{cs:List Value}{l:List e.den}(h:pO w M e cs l)(i:Nat):pO w M e ((cs.drop (i*e.size)).take ((l.length-i)*e.size)) (l.drop i):=by
 intro j hj
 rw[dY]at hj
 have:=ew (s:=e.size) hj
 rw[sf,si,iq ω,iJ,Gh,←eD]
 exact h (i+j) ω
theorem zb{w w':World}{M0:Nat→Prop}{hs:List Nat}{e:Ty}{rb cap:Nat}{row:Array Value}{t:TypeId}{l:List e.den}(tt: ∀b,M0 b→b<w.heap.size)(xW: ∀b∈hs,¬M0 b)
  (hfr: ∀b,b<w.heap.size→b∉hs→w'.heap[b]? =w.heap[b]?) (q6:w.heap.size≤w'.heap.size) (hrb:rb<w.heap.size→rb∈hs) (hos:w'.os=w.os) (htp:w'.tape=w.tape) (Sp:w'.output=w.output)
  (Sr:w'.heap[rb]? =some (.cells row t (0,0))) (h0:0<cap) (hl:l.length≤cap) (hm:cap≤maxLen) (hrs:row.size=cap*e.size) (kE:pO w (λb=>M0 b∨b∈hs) e row.toList l):
  ∃us M',Value.slice (some ⟨rb,0,none⟩) l.length cap=xS us∧RR w' M' [.own e] l us []∧Left w M0 hs w' M'∧(bI [.own e] us []).Nodup∧ ∀b∈bI [.own e] us [],¬M0 b:=by
 have J9:rb<w'.heap.size:=(lI.1 Sr).1
 have hk:fK w (λb=>M0 b∨b∈hs) w' (λb=>M0 b∨b=rb):=⟨q6,λb hb hn=>hfr b hb (λh=>hn (.inr h)),λb hb h=>h.elim .inl (λe=> .inr (e▸hrb (e▸hb)))⟩
 have xK:bI [.own e] [Value.slice (some ⟨rb,0,none⟩) l.length cap] []=[rb]:=by
  have:cap≠0:=ω
  simp[bI,dz,AM.iV,fx,this]
 refine⟨[.slice (some ⟨rb,0,none⟩) l.length cap],λb=>M0 b∨b=rb,rfl,?_,?_,?_,?_⟩
 ·simp only[RR]
  refine .inr ⟨_,[],rfl,rfl,rfl,?_,rfl,trivial⟩
  simp only[A1,ER,rq]
  exact .inr ⟨rb,row,t,cap,rfl,Sr,.inr rfl,h0,hl,hm,hrs,kE.cg hk⟩
 ·exact⟨λb h=> .inl h,λb h=>h.elim (λh=>nX (tt b h) q6) (λh=>h▸J9),λb hb h=>h.elim .inl (λe=> .inr (e▸hrb (e▸hb))),hfr,q6,hos,htp,Sp⟩
 ·rw[xK];simp
 ·rw[xK]
  intro b hb h
  rw[cw]at hb
  subst hb
  exact xW b (hrb (tt b h)) h
theorem setRow_other(w:World){b c:Nat}(r:Array Value)(h:c≠b):(w.setRow b r).heap[c]? =w.heap[c]? :=by
 unfold World.setRow
 rw[Array.getElem?_modify,ah (λe=>h e.symm)]
theorem setRow_size(w:World)(b:Nat)(r:Array Value):(w.setRow b r).heap.size=w.heap.size:=by
 unfold World.setRow;simp
theorem alloc_old(w:World)(o:Obj){c:Nat}(h:c<w.heap.size):(w.alloc o).heap[c]? =w.heap[c]? :=by
 show(w.heap.push o)[c]? =_
 rw[Array.getElem?_push,ah ω]
theorem rR(w:World)(o:Obj):(w.alloc o).heap[w.heap.size]? =some o:=by
 show(w.heap.push o)[w.heap.size]? =_
 simp
theorem pg(w:World)(o:Obj):(w.alloc o).heap.size=w.heap.size+1:=by
 show(w.heap.push o).size=_
 simp
theorem vS{w:World}{b:Nat}{cs:Array Value}{t:TypeId}{f:Nat×Nat}(h:w.heap[b]? =some (.cells cs t f))(o n:Nat): ∀j u,((cs.toList.drop o).take n)[j]? =some u→w.cell? ((⟨b,o,none⟩:Addr).add j)=some u:=by
 intro j u hj
 rw[Addr.add_lit]
 rw[mY]at hj
 split at hj
 ·rw[mZ,iH]at hj
  simp only[World.cell?,h]
  simpa using hj
 ·cases hj
theorem Uq{w:World}{M:Nat→Prop}{v:Value}{e:Ty}{l:List e.den}(h:ER w M v (.own e l)):(l=[]∧ ∃a,v= .slice a 0 0)∨
 ∃b cs t cap,v= .slice (some ⟨b,0,none⟩) l.length cap∧w.heap[b]? =some (.cells cs t (0,0))∧M b∧0<cap∧l.length≤cap∧cap≤maxLen∧cs.size=cap*e.size∧pO w M e cs.toList l:=h
end VM
end
section
namespace VM
open Go Go.Shelf Go.RowKit Go.Lib Go.Proofs
variable{P:Program}{ρ:Ren}
theorem Hk{w:World}{t e':TypeId}{e:Ty}(hu:P.underlying t=some (.slice e'))(hle:kZ P e e'){n m cap cp:Nat}{olds news:List Value}{base:Option Addr}{a':Addr}(YA:base=none→n=0∧cap=0)
  (xf:olds.length=n*e.size) (ho: ∀b,base=some b→ ∀j u,olds[j]? =some u→w.cell? (b.add j)=some u) (hln:news.length=m*e.size) (hn: ∀j u,news[j]? =some u→w.cell? (a'.add j)=some u)
  (hg:cap<n+m) (hs:n+m<Bd):
  ∃ng rest,(∀ty,(Builtin.append_ #[t,t] ty #[.slice base n cap,.slice (some a') m cp]).run P w= .ok (.slice (some ⟨w.heap.size,0,none⟩) (n+m) ng) (w.drew.alloc (.cells (olds++news++rest).toArray e')))∧
   n+m≤ng∧ng≤maxLen∧rest.length=(ng-(n+m))*e.size:=by
 obtain⟨i,hi,q6,hz,hby⟩:=hle.base
 have hzs:(ck e e.cI).cells.size=e.size:=by rw[←bm,fF,mG]
 have h63:n+m≤maxLen:=by simp only[Bd,maxLen]at hs ⊢;omega
 have GU:(n+m)*i.bytes≤140737488355328:=by
  have:(n+m)*i.bytes≤68719476736*2048:=uO (by simp only[Bd]at hs;omega) hby
  omega
 refine⟨grownCap w (n+m) cap e',(Builtin.zeroCells (ck e e.cI).cells (grownCap w (n+m) cap e'-(n+m))).toList,λty=> ?_,grownCap_ge _ _ _ _,grownCap_le_maxLen _ _ _ _ h63,?_⟩
 ·cases base with
  |none=>
   obtain⟨rfl,rfl⟩:=YA rfl
   have ho0:olds=[]:=vz (by rw[xf];simp)
   subst ho0
   have:=run_append_nil (P:=P) w t ty e' i _ hu hi hz a' m cp news (by rw[hln,q6]) hn (by simpa using hg) (by simp only[Bd]at hs;omega) (by simp at GU;omega)
   simp only[gr,cB]
   rw[this]
   congr 2
   apply e7 (λz=>Obj.cells z e' (0,0))
   apply g8;simp
  |some b=>
   have:=run_append_grow (P:=P) w t ty e' i _ hu hi hz b n cap olds (by rw[xf,q6]) (ho b rfl) a' m cp news (by rw[hln,q6]) hn hg (by simp only[Bd]at hs;omega) (growslice_fits hg GU)
   rw[this]
   congr 2
   apply e7 (λz=>Obj.cells z e' (0,0))
   apply g8;simp
 ·rw[bm,size_zeroCells,hzs]
theorem We{w:World}{t tn e':TypeId}{e:Ty}(hu:P.underlying t=some (.slice e'))(V2:P.underlying tn=some (.int .i64))(hle:kZ P e e')(akX:0<e.size){n k cap:Nat}{olds:List Value}{b:Addr}
  (xf:olds.length=n*e.size) (ho: ∀j u,olds[j]? =some u→w.cell? (b.add j)=some u) (hk:0<k) (hg:cap<n+k) (hs:n+k<Bd):
  ∃ng rest,(∀ty,(Builtin.append_ #[t,tn] ty #[.slice (some b) n cap,.int .i64 k]).run P w= .ok (.slice (some ⟨w.heap.size,0,none⟩) (n+k) ng) (w.drew.alloc (.cells (olds++rest).toArray e')))∧
   n+k≤ng∧ng≤maxLen∧rest.length=(ng-n)*e.size:=by
 obtain⟨i,hi,q6,hz,hby⟩:=hle.base
 have hzs:(ck e e.cI).cells.size=e.size:=by rw[←bm,fF,mG]
 have h63:n+k≤maxLen:=by simp only[Bd,maxLen]at hs ⊢;omega
 have GU:(n+k)*i.bytes≤140737488355328:=by
  have:(n+k)*i.bytes≤68719476736*2048:=uO (by simp only[Bd]at hs;omega) hby
  omega
 have hkb:k*i.bytes≤281474976710656:=by
  have:k*i.bytes≤(n+k)*i.bytes:=kC _ ω
  omega
 have LO:=grownCap_ge w (n+k) cap e'
 refine⟨grownCap w (n+k) cap e',(Builtin.zeroCells (ck e e.cI).cells k++Builtin.zeroCells (ck e e.cI).cells (grownCap w (n+k) cap e'-(n+k))).toList,λty=> ?_,LO,grownCap_le_maxLen _ _ _ _ h63,?_⟩
 ·have hold:(Builtin.firstCells i.size n (.slice (some b) n cap)).run P w.drew= .ok olds.toArray w.drew:=run_firstCells_some w.drew i.size n b n cap olds (by rw[xf,q6]) (λj u hj=>ho j u hj)
  have:=Lib.run_append_grow_zeros w t tn ty e' i _ .i64 .i64 hu V2 hi hz (some b) n cap olds hold k hk (by rw[q6];exact akX) hg (by simp only[Bd]at hs;omega) hkb (growslice_fits hg GU)
  rw[this]
  congr 2
  apply e7 (λz=>Obj.cells z e' (0,0))
  apply g8;simp
 ·rw[Array.toList_append,aS,bm,bm,size_zeroCells,size_zeroCells,hzs,←eD]
  congr 1;omega
structure OvP(P:Program)(ρ:Ren)(fo:Func):Prop where
 hf:P.funcs[ρ.f 29]? =some fo
 name:(fo.name== "runtime.NumGoroutine")=false
 body:fo.body.isNone=true
 next:Extern.findNext fo=none
 find:Extern.find fo=some (Extern.SlicesOverlaps.overlaps #[ρ.t 24,ρ.t 24] #[ρ.t 4])
theorem Hl{e:Ty}{f:FuncId}{fn fo:Func}(L:Wb P e ρ f fn fo)(O:OvP P ρ fo)(BH:(fn.name== "runtime.NumGoroutine")=false)(Zj:(Body2.n22 ρ).body.isNone=false)(N:Nat):jw P f (m2 e N):=by
 refine⟨(λh=>by cases h),rfl,λM0 w vs x y tt hA w6 xW hy=> ?_⟩
 obtain⟨l,i,v⟩:=x
 have Ul:rl N l i v=some y:=hy
 clear hy
 simp only[m2,kF]at hA
 obtain⟨v0,YJ,rfl,h0,v1,vs2,rfl,h1,v2,vs3,rfl,h2,rfl⟩:=hA
 simp only[rl]at Ul
 split at Ul
 case isFalse=>cases Ul
 rename_i hc
 cases Ul
 obtain⟨hi0,Bp,Sm,L4⟩:=hc
 obtain⟨i,rfl⟩:=vC hi0
 have aql:i≤l.length:=ω
 simp only[A1,rq,ux,V,Ty.isAgg,jO,fE,Rd,fT,fD]at h0 h1 h2
 subst h1
 have hk:=L.ra
 replace Sm:ℓ (α:=e.den) v=1:=Sm
 rcases Uq h2 with⟨VO,_⟩|⟨b2,T8,t2,BM,hv2,Ym,LF,hc2,hl2,yZ,Wf,z6⟩
 ·rw[VO]at Sm;cases Sm
 replace hv2:v2= .slice (some ⟨b2,0,none⟩) 1 BM:=by rw[hv2];congr 1
 subst hv2
 have aci:e.size≤T8.toList.length:=by
  rw[bm (xs:=T8),Wf]
  exact Nat.le_mul_of_pos_left _ hc2
 obtain⟨news,Zk⟩: ∃news,news=T8.toList.take e.size:=⟨_,rfl⟩
 have J8:news.length=1*e.size:=by rw[Zk,cf,kV];omega
 have hnr:pO w (λb=>M0 b∨b∈eA (m2 e N).args [v0,.int .i64 (i:Int),.slice (some ⟨b2,0,none⟩) 1 BM]) e news v:=by
  rw[Zk];exact z6.take (by rw[Sm,kV];exact aH _)
 have hnc: ∀j u,news[j]? =some u→w.cell? ((⟨b2,0,none⟩:Addr).add j)=some u:=by
  have:=vS Ym 0 e.size
  rw[cJ]at this
  rw[Zk];exact this
 have Sz: ∀u∈news,u.oneCell'=true:=by
  have:=hnr 0 ω
  rw[Nat.zero_mul,cJ,iG ω]at this
  exact this.lM
 have vx:fx (.slice (some ⟨b2,0,none⟩) 1 BM)=some b2:=by simp[fx];omega
 replace L4:ℓ (α:=e.den) l+1<Bd:=L4
 have Zl:(List.take i l++(v++List.drop i l)).length=l.length+1:=by rw[aS,aS,cf,dY,Sm];omega
 have hbn:(Zg ρ fn).body.isNone=false:=Zj
 refine uy L.hf BH hbn ?_
 rcases Uq h0 with⟨rfl,ad,rfl⟩|⟨b1,Aa,t1,EZ,rfl,R9,hM1,EV,SA,uv,Nr,BN⟩
 ·
  have hi:i=0:=by simpa using aql
  subst hi
  obtain⟨ng,rest,dG,V5,jh,J9⟩:=Hk (P:=P) (w:=w) L.t24 L.lay (n:=0) (m:=1) (cap:=0) (cp:=BM) (olds:=[]) (news:=news) (base:=ad) (a':=⟨b2,0,none⟩) (λ_=>⟨rfl,rfl⟩) (by simp) (λ_ _ j u hj=>by simp at hj) J8 hnc ω (by simp only[Bd];omega)
  refine(L0 L w ad 0 0 1 BM ⟨b2,0,none⟩ _ _ ω (aH _) dG).mono ?_
  rintro e1 w' ⟨rfl,rfl⟩
  refine⟨_,rfl,?_⟩
  simp only[gr]at V5 J9
  have hv:v=v++[]:=by simp
  have:=zb (e:=e) (rb:=w.heap.size) (cap:=ng) (l:=v) (t:=ρ.t 9) (w:=w) (w':=w.drew.alloc (.cells ([]++news++rest).toArray (ρ.t 9))) tt xW (λb hb _=>alloc_old w.drew _ hb) (by rw[pg];exact so _) (λh=>absurd h (Gp _)) rfl rfl rfl (rR w.drew _) ω ω jh
   (by simp only[cB,jg,aS,J8,J9,←eD];congr 1;omega) (by simpa using hnr.more (cs':=rest) (by rw[Sm,J8];exact aH _))
  rw[Sm]at this
  simpa [m2,fN,AM.iV]using this
 ·have nC:fx (.slice (some ⟨b1,0,none⟩) l.length EZ)=some b1:=by simp[fx];omega
  have hh:eA (m2 e N).args [.slice (some ⟨b1,0,none⟩) l.length EZ,.int .i64 (i:Int),.slice (some ⟨b2,0,none⟩) 1 BM]=[b1,b2]:=by simp[m2,eA,dz,nC,vx]
  rw[hh]at w6 xW hnr ⊢
  replace BN:pO w (λb=>M0 b∨b∈[b1,b2]) e Aa.toList l:=by rw[←hh];exact BN
  have kQ:b1≠b2:=by simpa using w6
  have awf:b1<w.heap.size:=(lI.1 R9).1
  have aps:b2<w.heap.size:=(lI.1 Ym).1
  have q5:l.length*e.size≤Aa.toList.length:=by rw[bm (xs:=Aa),Nr];exact kC _ SA
  have hik:i*e.size≤l.length*e.size:=kC _ aql
  obtain⟨A,hAe⟩: ∃A,A=Aa.toList.take (i*e.size):=⟨_,rfl⟩
  obtain⟨mid,ak5⟩: ∃mid,mid=(Aa.toList.drop (i*e.size)).take ((l.length-i)*e.size):=⟨_,rfl⟩
  have Ur:A.length=i*e.size:=by rw[hAe,cf];omega
  have Fy:mid.length=(l.length-i)*e.size:=by
   rw[ak5,cf,dY,sq];omega
  have hAr:=BN.aqj i
  have hmr:=BN.aqk i
  rw[←hAe]at hAr
  rw[←ak5]at hmr
  have hti:(l.take i).length=i:=by rw[cf];omega
  have Us: ∀rest:List Value,pO w (λb=>M0 b∨b∈[b1,b2]) e (A++(news++(mid++rest))) (l.take i++(v++l.drop i)):=λrest=>
   hAr.append (by rw[Ur,hti]) (hnr.append (by rw[J8,Sm]) (hmr.more (by rw[dY,Fy];exact aH _)))
  have hAc: ∀j u,A[j]? =some u→w.cell? ((⟨b1,0,none⟩:Addr).add j)=some u:=by
   have:=vS R9 0 (i*e.size)
   rw[cJ]at this
   rw[hAe];exact this
  have hmc: ∀j u,mid[j]? =some u→w.cell? ((⟨b1,i*e.size,none⟩:Addr).add j)=some u:=by
   rw[ak5];exact vS R9 (i*e.size) _
  have aqn: ∀u∈mid,u.oneCell'=true:=by
   intro u hu
   obtain⟨j,hj,rfl⟩:=rZ.1 hu
   rw[Fy]at hj
   have hq:j/e.size<l.length-i:=Nat.div_lt_of_lt_mul (by rw[Gq];exact hj)
   have:=(hmr (j/e.size) (by rw[dY];exact hq)).lM
   refine this _ ?_
   have hjm:j/e.size*e.size+j%e.size=j:=by rw[Gq];exact Nat.div_add_mod j e.size
   have Bq:j%e.size<e.size:=Nat.mod_lt _ hk
   rw[List.mem_iff_getElem?]
   refine⟨j%e.size,?_⟩
   rw[mY,ak Bq,mZ,hjm]
   exact bl _
  by_cases kg:i=l.length
  ·
   subst kg
   have hm0:mid=[]:=vz (by rw[Fy];simp)
   by_cases BB:l.length+1≤EZ
   ·obtain⟨ie,hie,q6,_⟩:=L.lay.base
    have dG: ∀ty,(Builtin.append_ #[ρ.t 24,ρ.t 24] ty #[.slice (some ⟨b1,0,none⟩) l.length EZ,.slice (some ⟨b2,0,none⟩) 1 BM]).run P w=_:=λty=>
     Ol (ty:=ty) (cp:=BM) L.t24 hie R9 (by rw[q6];exact Nr) (by rw[q6];exact J8) hnc Sz BB
    refine(L0 L w _ _ _ 1 BM ⟨b2,0,none⟩ _ _ ω SA dG).mono ?_
    rintro e1 w' ⟨rfl,rfl⟩
    refine⟨_,rfl,?_⟩
    rw[q6]
    have Sr:eJ Aa.toList (l.length*e.size) news=A++(news++(mid++Aa.toList.drop (l.length*e.size+news.length))):=by
     rw[hm0,hAe];simp[eJ]
    have:=zb (e:=e) (rb:=b1) (cap:=EZ) (l:=l.take l.length++(v++l.drop l.length)) (t:=t1) (w:=w) (w':=w.setRow b1 (eJ Aa.toList (l.length*e.size) news).toArray) tt xW (λb hb hn=>setRow_other w _ (λe=>hn (by simp[e]))) (by rw[setRow_size];exact aH _) (λ_=>by simp) rfl rfl rfl (setRow_heap w b1 Aa _ t1 _ R9) EV (by rw[Zl];exact BB) uv
     (by
      have:=ew (s:=e.size) (show l.length<EZ by omega)
      rw[Sr,jg]
      simp only[aS,hm0,ca,dY,bm,Ur,J8,Nr]
      omega)
     (by rw[Sr];exact Us _)
    rw[Zl]at this
    simpa [m2,fN,AM.iV]using this
   ·obtain⟨ng,rest,dG,V5,jh,J9⟩:=Hk (P:=P) (w:=w) L.t24 L.lay (n:=l.length) (m:=1) (cap:=EZ) (cp:=BM) (olds:=A) (news:=news) (base:=some ⟨b1,0,none⟩) (a':=⟨b2,0,none⟩) (λh=>by cases h) Ur (λb hb=>by cases hb;exact hAc) J8 hnc ω L4
    refine(L0 L w _ _ _ 1 BM ⟨b2,0,none⟩ _ _ ω SA dG).mono ?_
    rintro e1 w' ⟨rfl,rfl⟩
    refine⟨_,rfl,?_⟩
    have:=zb (e:=e) (rb:=w.heap.size) (cap:=ng) (l:=l.take l.length++(v++l.drop l.length)) (t:=ρ.t 9) (w:=w) (w':=w.drew.alloc (.cells (A++news++rest).toArray (ρ.t 9))) tt xW (λb hb _=>alloc_old w.drew _ hb) (by rw[pg];exact so _) (λh=>absurd h (Gp _)) rfl rfl rfl (rR w.drew _) ω (by rw[Zl];exact V5) jh
     (by simp only[jg,aS,Ur,J8,J9,←eD];congr 1;omega) (by have:=Us rest;rw[hm0,cB,←bD]at this;exact this)
    rw[Zl]at this
    simpa [m2,fN,AM.iV]using this
  ·have ak6:i<l.length:=ω
   have hi1:i*e.size+e.size≤l.length*e.size:=ew ak6
   have e1k:(i+1)*e.size=A.length+news.length:=by rw[Ur,J8,eD]
   have CJ:Nat.min 1 (l.length+1-i)=1:=iq ω
   by_cases BB:l.length+1≤EZ
   ·
    have aqo:l.length*e.size+e.size≤Aa.toList.length:=by rw[bm (xs:=Aa),Nr];exact ew ω
    have hsh: ∀(b:Nat) (c:Array Value) (t:TypeId),w.heap[b]? =some (.cells c t (0,0))→w.shape? b=some (t,c.size):=λb c t h=>by simp[World.shape?,h]
    obtain⟨B,hB⟩: ∃B,B=Aa.toList.drop (i*e.size):=⟨_,rfl⟩
    have aqp:Aa.toList=A++B:=by rw[hAe,hB,gP]
    have hBl:B.length=Aa.toList.length-i*e.size:=by rw[hB,dY]
    have hBk:(B.take e.size).length=e.size:=by rw[cf];omega
    have OS:eJ Aa.toList ((i+1)*e.size) mid=A++(B.take e.size++(mid++(B.drop e.size).drop mid.length)):=by
     have:Aa.toList=(A++B.take e.size)++B.drop e.size:=by rw[bD,gP];exact aqp
     rw[this,show(i+1)*e.size=(A++B.take e.size).length from by rw[aS,hBk,Ur,eD,kV],FG,bD]
    have OT:eJ (eJ Aa.toList ((i+1)*e.size) mid) (i*e.size) news=A++(news++(mid++(B.drop e.size).drop mid.length)):=by
     rw[OS,←Ur,FG,J8,kV,mA hBk]
    refine(Wc L w b1 l.length EZ i 1 BM ⟨b2,0,none⟩ (eJ Aa.toList ((i+1)*e.size) mid).toArray (eJ (eJ Aa.toList ((i+1)*e.size) mid) (i*e.size) news).toArray ak6 ω BB (by simp only[maxLen]at uv;omega) (λx lb cb=> ?_) (λty dc sc=> ?_) (λW hW ty dc=> ?_)).mono ?_
    ·rw[run_callFunc_extern O.hf O.name O.body O.next O.find,
      Lib.run_overlaps_apart w (ρ.t 24) (ρ.t 4) (ρ.t 9) L.t24 e.size (λw=>dy L.lay w) ⟨b2,0,none⟩ ⟨b1,x,none⟩ 1 BM lb cb (ff kQ) t2 t1 T8.size Aa.size (hsh b2 T8 t2 Ym) (hsh b1 Aa t1 R9) (by rw[Nr];exact Nat.ne_of_gt (Nat.mul_pos EV hk)) (by simp[World.frozen?,Ym]) (by simp[World.frozen?,Ym])]
     rfl
    ·exact run_copy_row (P:=P) (W:=w.drew) L.t24 (λw=>dy L.lay w) (cs:=Aa) R9 (news:=mid) (n:=l.length-i) (by simp only[Nat.min_def];split<;>omega) Fy hmc aqn (by rw[Fy,eD,kV];rw[bm (xs:=Aa)]at aqo;rw[sq];omega) ty
    ·exact run_copy_row (P:=P) (W:=W) L.t24 (λw=>dy L.lay w) (cs:=(eJ Aa.toList ((i+1)*e.size) mid).toArray) (te:=t1) (by rw[hW];exact setRow_heap w b1 Aa _ t1 _ R9) (news:=news) (n:=1) CJ J8
      (λj u hj=>by
       have:=hnc j u hj
       rw[Addr.add_lit]at this ⊢
       rw[show W.cell? ⟨b2,0+j,none⟩=w.cell? ⟨b2,0+j,none⟩from World.cell?_of_block (by rw[hW];exact setRow_other w _ (ff kQ))]
       exact this) Sz (by
       rw[jg,OS]
       simp only[aS,hBk,Ur,J8]
       omega) ty
    ·rintro e1 w' ⟨rfl,rfl⟩
     refine⟨_,rfl,?_⟩
     have:=zb (e:=e) (rb:=b1) (cap:=EZ) (l:=l.take i++(v++l.drop i)) (t:=t1) (w:=w) (w':=(w.drew.setRow b1 (eJ Aa.toList ((i+1)*e.size) mid).toArray).setRow b1 (eJ (eJ Aa.toList ((i+1)*e.size) mid) (i*e.size) news).toArray) tt xW
      (λb hb hn=>(setRow_other _ _ (λe=>hn (by simp[e]))).trans (setRow_other _ _ (λe=>hn (by simp[e])))) (by rw[setRow_size,setRow_size];exact aH _) (λ_=>by simp) rfl rfl rfl (setRow_heap _ b1 _ _ t1 _ (setRow_heap w.drew b1 Aa _ t1 _ R9)) EV (by rw[Zl];exact BB) uv
      (by
       rw[OT,jg]
       rw[bm (xs:=Aa)]at aqo hBl
       simp only[aS,dY,Ur,J8,Fy,hBl,sq]
       omega)
      (by rw[OT];exact Us _)
     rw[Zl]at this
     simpa [m2,fN,AM.iV]using this
   ·
    obtain⟨ng,Z,dG,V5,jh,hZl⟩:=We (P:=P) (w:=w) L.t24 L.t3 L.lay hk (n:=i) (k:=l.length+1-i) (cap:=EZ) (olds:=A) (b:=⟨b1,0,none⟩) Ur hAc ω ω ω
    have awi:i+(l.length+1-i)=l.length+1:=ω
    rw[awi]at dG V5
    have hZk:(l.length+1-i)*e.size≤Z.length:=by rw[hZl];exact kC _ ω
    rw[sq,eD,kV]at hZk
    have OS:eJ (A++Z) (i*e.size) news=A++(news++Z.drop news.length):=by rw[←Ur,FG]
    have OT:eJ (eJ (A++Z) (i*e.size) news) ((i+1)*e.size) mid=A++(news++(mid++(Z.drop news.length).drop mid.length)):=by
     rw[OS,←bD,e1k,←aS,FG,bD]
    have hnb:w.heap.size≠b1:=ω
    have aDL:b2≠w.heap.size:=ω
    refine(Zi L w b1 l.length EZ i 1 BM 0 ng ⟨b2,0,none⟩ (A++Z).toArray (eJ (A++Z) (i*e.size) news).toArray (eJ (eJ (A++Z) (i*e.size) news) ((i+1)*e.size) mid).toArray ak6 ω SA ω (by simp only[maxLen]at uv;omega) (by simp only[Bd]at L4;omega) V5 (by simp only[maxLen]at jh;omega) (λty=> ?_) (λW hW ty dc=> ?_) (λW hW ty dc sc=> ?_)).mono ?_
    ·have:=dG ty
     rw[show(((l.length+1-i:Nat):Int))=(l.length:Int)+(1:Nat)-(i:Int)from by omega]at this
     exact this
    ·exact run_copy_row (P:=P) (W:=W) L.t24 (λw=>dy L.lay w) (cs:=(A++Z).toArray) (te:=ρ.t 9) (by rw[hW];exact rR w _) (news:=news) (n:=1) CJ J8
      (λj u hj=>by
       have:=hnc j u hj
       rw[Addr.add_lit]at this ⊢
       rw[show W.cell? ⟨b2,0+j,none⟩=w.cell? ⟨b2,0+j,none⟩from World.cell?_of_block (by rw[hW];exact alloc_old w _ aps)]
       exact this) Sz (by rw[jg,aS,Ur,J8];omega) ty
    ·exact run_copy_row (P:=P) (W:=W) L.t24 (λw=>dy L.lay w) (cs:=(eJ (A++Z) (i*e.size) news).toArray) (te:=ρ.t 9) (by rw[hW];exact setRow_heap _ _ _ _ _ _ (rR w _)) (news:=mid) (n:=l.length-i) (by simp only[Nat.min_def];split<;>omega) Fy
      (λj u hj=>by
       have:=hmc j u hj
       rw[Addr.add_lit]at this ⊢
       rw[show W.cell? ⟨b1,i*e.size+j,none⟩=w.cell? ⟨b1,i*e.size+j,none⟩from World.cell?_of_block (by rw[hW];exact(setRow_other _ _ (ff hnb)).trans (alloc_old w _ awf))]
       exact this) aqn (by
       rw[jg,OS]
       simp only[aS,dY,Ur,J8,Fy,eD,sq]
       omega) ty
    ·rintro e1 w' ⟨rfl,rfl⟩
     refine⟨_,rfl,?_⟩
     have hg':((w.drew.alloc (.cells (A++Z).toArray (ρ.t 9))).setRow w.heap.size (eJ (A++Z) (i*e.size) news).toArray).drew.heap[w.heap.size]? =some (.cells (eJ (A++Z) (i*e.size) news).toArray (ρ.t 9) (0,0)):=setRow_heap _ _ _ _ _ _ (rR w.drew _)
     have:=zb (e:=e) (rb:=w.heap.size) (cap:=ng) (l:=l.take i++(v++l.drop i)) (t:=ρ.t 9) (w:=w) (w':=((w.drew.alloc (.cells (A++Z).toArray (ρ.t 9))).setRow w.heap.size (eJ (A++Z) (i*e.size) news).toArray).drew.setRow w.heap.size (eJ (eJ (A++Z) (i*e.size) news) ((i+1)*e.size) mid).toArray) tt xW
      (λb hb hn=>(setRow_other _ _ ω).trans ((setRow_other _ _ ω).trans (alloc_old w.drew _ hb))) (by rw[setRow_size];show _≤(World.setRow _ _ _).heap.size;rw[setRow_size,pg];exact so _) (λh=>absurd h (Gp _)) rfl rfl rfl (setRow_heap _ _ _ _ _ _ hg') ω (by rw[Zl];exact V5) jh
      (by
       rw[OT,jg]
       have hmul:(ng-i)*e.size=ng*e.size-i*e.size:=sq _ _ _
       have hci:i*e.size≤ng*e.size:=kC _ ω
       simp only[aS,dY,Ur,J8,Fy,hZl,hmul,sq]at hZk ⊢
       omega)
      (by rw[OT];exact Us _)
     rw[Zl]at this
     simpa [m2,fN,AM.iV]using this
end VM
end
section
namespace VM
open Go Go.Shelf Go.RowKit Go.Lib Go.Proofs
variable{P:Program}{ρ:Ren}
def Zm(ρ:Ren)(fn:Func):Func:={fn with body:=(Body2.n15 ρ).body,ntmps:=8,results:=(Body2.n15 ρ).results,nfree:=0}
theorem D9(ρ:Ren)(fn:Func):(Zm ρ fn).ntmps=8:=rfl
structure L7(P:Program)(e:Ty)(ρ:Ren)(f:FuncId)(fn:Func):Prop where
 hf:P.funcs[f]? =some (Zm ρ fn)
 t4:P.underlying (ρ.t 4)=some .bool
 t22:P.underlying (ρ.t 22)=some (.slice (ρ.t 3))
 lay:kZ P e (ρ.t 3)
 ra:0<e.size
 mixed:P.follows .mixedOrders=true
set_option maxHeartbeats 4000000 in
set_option maxRecDepth 100000 in
theorem Wg{e:Ty}{f:FuncId}{fn:Func}(L:L7 P e ρ f fn)(w:World)(n c:Nat):
  Calls P f #[.slice none n c] w λr w2=>r= .returned (.slice none 0 0)∧w2=w:=by
 have u22:=run_underlying L.t22
 have t4:=L.t4;have t22:=L.t22
 have z3:=λw=>dy L.lay w
 have mixed:=L.mixed
 have q22: ∀(w:World) (a:Option Addr) (n c n' c':Nat),(binOp .eql (ρ.t 22) (.slice a n c) (.slice none n' c')).run P w= .ok (.bool a.isNone) w:=λw a n c n' c'=>Lib.run_eql_slice_nil w _ _ a n c n' c' L.t22
 go_enter L.hf,D9 ρ fn
 go_wp2
 go_ret
 exact⟨rfl,rfl⟩
set_option maxHeartbeats 4000000 in
set_option maxRecDepth 100000 in
theorem Hm{e:Ty}{f:FuncId}{fn:Func}(L:L7 P e ρ f fn)(w:World)(a:Addr)(n c:Nat)(v':Value)(w':World)
  (Ox: ∀ty,(Builtin.append_ #[ρ.t 22,ρ.t 22] ty #[.slice (some ⟨w.heap.size,0,none⟩) 0 0,.slice (some a) n c]).run P (w.alloc (.cells #[] (ρ.t 3)))= .ok v' w'):
   Calls P f #[.slice (some a) n c] w λr w2=>r= .returned v'∧w2=w':=by
 have u22:=run_underlying L.t22
 have t4:=L.t4;have t22:=L.t22
 have z3:=λw=>dy L.lay w
 have mixed:=L.mixed
 have q22: ∀(w:World) (a:Option Addr) (n c n' c':Nat),(binOp .eql (ρ.t 22) (.slice a n c) (.slice none n' c')).run P w= .ok (.bool a.isNone) w:=λw a n c n' c'=>Lib.run_eql_slice_nil w _ _ a n c n' c' L.t22
 obtain⟨ab,ao,asp⟩:=a
 go_enter L.hf,D9 ρ fn
 go_wp2_with (at_builtin;refine Lib.wpList_append_run _ rfl _ _ _ _ rfl _ _ rfl rfl _ _ (Ox _) ?_)
 all_goals (go_ret;exact⟨rfl,rfl⟩)
theorem Zn{w w':World}{M0:Nat→Prop}{e:Ty}(a:Option Addr)(tt: ∀b,M0 b→b<w.heap.size)(hfr: ∀b,b<w.heap.size→w'.heap[b]? =w.heap[b]?)(q6:w.heap.size≤w'.heap.size)
  (hos:w'.os=w.os) (htp:w'.tape=w.tape) (Sp:w'.output=w.output):
  ∃us M',Value.slice a 0 0=xS us∧RR w' M' [.own e] ([]:List e.den) us []∧Left w M0 [] w' M'∧(bI [.own e] us []).Nodup∧ ∀b∈bI [.own e] us [],¬M0 b:=by
 have xK:bI [.own e] [Value.slice a 0 0] []=[]:=by
  cases a<;>simp[bI,dz,AM.iV,fx]
 refine⟨[.slice a 0 0],M0,rfl,?_,?_,?_,?_⟩
 ·simp only[RR]
  refine .inr ⟨_,[],rfl,rfl,rfl,?_,rfl,trivial⟩
  simp only[A1,ER,rq]
  exact .inl ⟨trivial,a,rfl⟩
 ·exact⟨λb h=>h,λb h=>nX (tt b h) q6,λb hb h=> .inl h,λb hb _=>hfr b hb,q6,hos,htp,Sp⟩
 ·rw[xK];simp
 ·rw[xK];simp
theorem rS{e:Ty}{f:FuncId}{fn:Func}(L:L7 P e ρ f fn)(BH:(fn.name== "runtime.NumGoroutine")=false)(Zj:(Body2.n15 ρ).body.isNone=false)(N:Nat):jw P f (xI e N):=by
 refine⟨(λh=>by cases h),rfl,λM0 w vs x y tt hA w6 xW hy=> ?_⟩
 have Ul:jv N x=some y:=hy
 clear hy
 obtain⟨v0,YJ,rfl,h0,h2⟩:=hA
 have h2:YJ=[]:=h2
 subst h2
 replace h0:V w (λb=>M0 b∨b∈([]:List Nat)) (.slice e) v0 x:=h0
 unfold jv at Ul
 split at Ul
 case isFalse=>cases Ul
 rename_i L4
 cases Ul
 have hbn:(Zm ρ fn).body.isNone=false:=Zj
 have hh:eA (xI e N).args [v0]=[]:=rfl
 rw[hh]at xW ⊢
 refine uy L.hf BH hbn ?_
 obtain⟨i,hi,q6,hz,hby⟩:=L.lay.base
 have hS:=Src.acb h0
 by_cases hx:x=[]
 ·obtain⟨a,cp,hv,_⟩:=hS
  subst hv
  rw[hx]
  cases a with
  |none=>
   refine(Wg L w _ cp).mono ?_
   rintro e1 w' ⟨rfl,rfl⟩
   exact⟨_,rfl,Zn none tt (λ_ _=>rfl) (aH _) rfl rfl rfl⟩
  |some a=>
   refine(Hm L w a _ cp _ _ (λty=>tQ (P:=P) (w:=w.alloc (.cells #[] (ρ.t 3))) L.t22 hi (some ⟨w.heap.size,0,none⟩) 0 0 (aH _) (some a) cp)).mono ?_
   rintro e1 w' ⟨rfl,rfl⟩
   exact⟨_,rfl,Zn _ tt (λb hb=>alloc_old w _ hb) (by rw[pg];exact so _) rfl rfl rfl⟩
 ·obtain⟨b,off,cp,news,hv,hl,pN,kE,h1⟩:=hS.cells hx
  have Om:0<x.length:=p3.2 hx
  subst hv
  obtain⟨ng,rest,dG,V5,jh,J9⟩:=Hk (P:=P) (w:=w.alloc (.cells #[] (ρ.t 3))) L.t22 L.lay (n:=0) (m:=x.length) (cap:=0) (cp:=cp) (olds:=[]) (news:=news) (base:=some ⟨w.heap.size,0,none⟩) (a':=⟨b,off,none⟩) (λh=>by cases h) (by simp) (λ_ _ j u hj=>by simp at hj) hl
   (λj u hj=>by rw[Addr.add_lit];exact Lib.cell?_alloc_some _ (pN j u hj)) ω ω
  refine(Hm L w ⟨b,off,none⟩ _ cp _ _ dG).mono ?_
  rintro e1 w' ⟨rfl,rfl⟩
  refine⟨_,rfl,?_⟩
  simp only[gr]at V5 J9 ⊢
  have Nr:(w.alloc (.cells #[] (ρ.t 3))).heap.size=w.heap.size+1:=pg w _
  exact zb (e:=e) (rb:=(w.alloc (.cells #[] (ρ.t 3))).heap.size) (cap:=ng) (l:=x) (t:=ρ.t 3) (w:=w) (w':=(w.alloc (.cells #[] (ρ.t 3))).drew.alloc (.cells ([]++news++rest).toArray (ρ.t 3))) tt xW
   (λb hb _=>(alloc_old (w.alloc (.cells #[] (ρ.t 3))).drew _ (by show b<(w.alloc (.cells #[] (ρ.t 3))).heap.size;omega)).trans (alloc_old w _ hb))
   (by rw[pg];show w.heap.size≤(w.alloc (.cells #[] (ρ.t 3))).heap.size+1;omega) (λh=>ω) rfl rfl rfl (rR (w.alloc (.cells #[] (ρ.t 3))).drew _) ω V5 jh
   (by simp only[cB,jg,aS,hl,J9,←eD];congr 1;omega) (by simpa using pO.more (cs':=rest) (show pO w (λb=>M0 b∨b∈([]:List Nat)) e news x from kE) (by rw[hl];exact aH _))
end VM
end
