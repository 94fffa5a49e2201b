/- A part of the proof of WindEmpty of layer 21: a machine that reads a function of the program as an equation between values. -/
import Derived.Test.YtecmobijochjkaaGreatVm6
import Derived.KernelRfl
import Derived.Test.YtecmobijochjkaaGreatVm0
import Derived.Laws.Externs
import Derived.Shelf.Spec.SlicesInsertGrow
set_option linter.all false
noncomputable section
section
namespace VM
open Go
@[reducible] def CM.arr:CM→Type→Type
 | .v τ,T| .obj τ,T| .io τ,T| .fn _ τ,T=>τ.den→T
 | .own e,T=>List e.den→T
 | .gh τ _ e,T=>τ.den→List e.den→T
 | .same _,T=>T
@[reducible] def Vf:List (Nat×CM)→Type→Type
 |[],R=>R
 |q::r,R=>q.2.arr (Vf r R)
def CM.lam{T:Type}(s:Nat)(σ:St):(m:CM)→(St→T)→m.arr T
 | .v τ,f=>λx=>f (σ.put s (.val τ x))
 | .own e,f=>λx=>f ((σ.put s (.ref (16*s+14))).jO (16*s+14) (some (.own e x)))
 | .obj τ,f=>λx=>f ((σ.put s (.jn (16*s+14) [])).jO (16*s+14) (some (.obj τ x)))
 | .gh τ q e,f=>λx l=>f (((σ.put s (.jn (16*s+14) [])).jO (16*s+13) (some (.own e l))).jO (16*s+14) (some (.gh τ x q (16*s+13))))
 | .io τ,f=>λx=>f ((σ.put s (.jn (16*s+15) [])).jO (16*s+15) (some (.obj τ x)))
 | .fn g τ,f=>λx=>f (σ.put s (.Mf g (pM τ x)))
 | .same s',f=>f (σ.put s (σ.T s'))
def amh{R:Type}(κ:St→R):(L:List (Nat×CM))→St→Vf L R
 |[],σ=>κ σ
 |q::r,σ=>q.2.lam q.1 σ (amh κ r)
@[reducible] def yP:List AM→Type→Type
 |[],R=>R
 |m::r,R=>m.den→yP r R
def Ke{R:Type}:(ms:List AM)→yP ms R→HP ms→R
 |[],g,_=>g
 |[_],g,x=>g x
 |_::n::ms,g,x=>Ke (n::ms) (g x.1) x.2
def Tx{R:Type}:(ms:List AM)→(HP ms→R)→yP ms R
 |[],f=>f ()
 |[_],f=>f
 |_::n::ms,f=>λx=>Tx (n::ms) λy=>f (x,y)
theorem Kf{R:Type}: ∀(ms:List AM) (f:HP ms→R) (x:HP ms),Ke ms (Tx ms f) x=f x
 |[],_,()=>rfl
 |[_],_,_=>rfl
 |_::n::ms,f,x=>Kf (n::ms) (λy=>f (x.1,y)) x.2
structure Pc where
 k:Nat
 c:List (Nat×CM)
 path:List Nat
 ks:List Nat
def Wk:List Pc→Nat→Pc
 |[],_=>⟨0,[],[],[]⟩
 |p::r,k=>cond (Nat.beq k p.k) p (Wk r k)
def M5:List Pc→Nat→Option (List (Nat×CM))
 |[],_=>none
 |p::r,k=>cond (Nat.beq k p.k) (some p.c) (M5 r k)
def Bx:List (Nat×lW)→Nat→List lW
 |[],_=>[]
 |q::r,i=>cond (Nat.beq i q.1) (q.2::Bx r i) (Bx r i)
def Fe:List AM→Nat→List Nat
 |[],_=>[]
 | .io _::r,i=>i::Fe r (i+1)
 | .lo _::r,i=>i::Fe r (i+1)
 |_::r,i=>Fe r (i+1)
structure Fx where
 nt:Nat
 tab:List (Nat×Ty)
 G:List (Nat×lW)
 N:Nat
 fn:Func
 args:List AM
 res:List AM
 pcs:List Pc
 lk:Option (Ty×List Step×Ty×List Nat):=none
namespace Fx
variable(X:Fx)
abbrev R:=Option (HP X.res)
def E:Env:={nt:=X.nt,ty:=λi=>M4 i X.tab,Γ:=Bx X.G,N:=X.N,vW:=λr=>M5 X.pcs (2*r+1),xT:=λr=>M5 X.pcs (2*r),io:=Fe X.args 0,lk:=X.lk}
@[reducible] def c(i:Nat):List (Nat×CM):=(Wk X.pcs i).c
def path(i:Nat):List Nat:=(Wk X.pcs i).path
def odd(i:Nat):Bool:=Nat.beq (i%2) 1
def cut(ρ:Nat→St→X.R)(l:Nat):St→X.R:=fun σ=>wa (some (X.c l)) σ (ρ l)
def ks(ρ:Nat→St→X.R)(i:Nat):List (St→X.R):=(Wk X.pcs i).ks.map (X.cut ρ)
def lp(ρ:Nat→St→X.R)(i n:Nat):St→X.R:=lpF X.E X.fn X.args X.res (X.c i) (X.path i) (X.ks ρ i) n
def cf(ρ:Nat→St→X.R)(i:Nat):St→X.R:=cond (odd i) (X.lp ρ i X.N) (atF X.E X.fn X.args X.res (X.path i) (X.ks ρ i))
def own(ρ:Nat→St→X.R)(i:Nat):List (St→X.R):=X.ks ρ i++cond (odd i) [X.cut ρ i] []
def PU(K ρ:Nat→St→X.R)(i:Nat):St→X.R:=atQ X.E X.fn X.args X.res (λr=>K (2*r)) (λr=>K (2*r+1)) (X.path i) (X.own ρ i)
def tl(K ρ:Nat→St→X.R)(i:Nat):List ((St→X.R)×(St→X.R)):=wA X.E (λr=>K (2*r)) (λr=>K (2*r+1)) (ZR X.E X.fn X.args X.res (X.path i) (X.own ρ i))
@[reducible] def cu(i:Nat)(κ:St→X.R):Vf (X.c i) X.R:=amh κ (X.c i) S0
@[reducible] def bd(K ρ:Nat→St→X.R)(i:Nat):Vf (X.c i) X.R:=X.cu i (X.PU K ρ i)
@[reducible] def kc(ρ:Nat→St→X.R)(i:Nat):Vf (X.c i) X.R:=X.cu i (ρ i)
def CD:Nat→St→X.R:=λ_ _=>none
def top(K:Nat→St→X.R):yP X.args X.R:=Tx X.args λx=>atQ X.E X.fn X.args X.res (λr=>K (2*r)) (λr=>K (2*r+1)) [] [] (entry X.args x 0 S0)
def tlT(K:Nat→St→X.R):List ((St→X.R)×(St→X.R)):=wA X.E (λr=>K (2*r)) (λr=>K (2*r+1)) (ZR X.E X.fn X.args X.res [] [])
def S(q:Bool)(g:yP X.args X.R):lW:={args:=X.args,res:=X.res,quiet:=q,run:=Ke X.args g}
variable{X}
theorem ZS(f:Nat→St→X.R): ∀rR:List Nat,Tv (rR.map λt=>(f t,f t))
 |[]=>trivial
 |_::r=>⟨rfl,ZS f r⟩
theorem okJ{i:Nat}(rR:List Nat)(hi:odd i=false)(hr: ∀K ρ,X.tl K ρ i=rR.map λt=>(K t,X.cf ρ t)){g:(Nat→St→X.R)→(Nat→St→X.R)→Vf (X.c i) X.R}(h: ∀K ρ,X.bd K ρ i=g K ρ)(ρ:Nat→St→X.R):X.kc (X.cf ρ) i=g (X.cf ρ) ρ:=by
 rw[←h]
 have:X.cf ρ i=X.PU (X.cf ρ) ρ i:=by
  funext σ
  have h1:=hr (X.cf ρ) ρ
  unfold tl own at h1
  rw[hi,av,ch]at h1
  unfold PU own
  rw[hi,av,ch]
  rw[←at_eq X.E X.fn X.args X.res h1 (ZS (X.cf ρ) rR) σ]
  unfold cf;rw[hi];rfl
 unfold kc bd
 rw[this]
def okb(X:Fx)(i:Nat):Bool:=odd i&&(Wk X.pcs i).ks.all λl=> !(Nat.beq l i)
theorem okL{i:Nat}(rR:List Nat)(hi:okb X i=true)(hr: ∀K ρ,X.tl K ρ i=rR.map λt=>(K t,X.cf ρ t)){g:(Nat→St→X.R)→(Nat→St→X.R)→Vf (X.c i) X.R}(h: ∀K ρ,X.bd K ρ i=g K ρ)(ρ:Nat→St→X.R)
  (G:Nat→Vf (X.c i) X.R) (h0:X.cu i (λ_=>none)=G 0) (hs: ∀n ρ',X.kc ρ' i=G n→(∀l,Nat.beq l i=false→X.kc ρ' l=X.kc ρ l)→g (X.cf ρ') ρ'=G (n+1)):X.kc (X.cf ρ) i=G X.N:=by
 unfold okb at hi
 rw[bQ]at hi
 obtain⟨hi,hk⟩:=hi
 have key: ∀n,X.cu i (X.lp ρ i n)=G n:=by
  intro n
  induction n with
  |zero=>exact h0
  |succ n ih=>
   let ρ':Nat→St→X.R:=λl=>cond (Nat.beq l i) (X.lp ρ i n) (ρ l)
   have e1:ρ' i=X.lp ρ i n:=by show cond (Nat.beq i i) _ _=_;rw[tf];rfl
   have e2: ∀l,Nat.beq l i=false→ρ' l=ρ l:=λl hl=>by show cond (Nat.beq l i) _ _=_;rw[hl];rfl
   rw[←hs n ρ' (by unfold kc;rw[e1];exact ih) (λl hl=>by unfold kc;rw[e2 l hl]),←h]
   have e3:X.ks ρ' i=X.ks ρ i:=by
    unfold ks
    refine qz λl hl=> ?_
    have:=qD.1 hk l hl
    unfold cut
    rw[e2 l (by simpa using this)]
   have:X.lp ρ i (n+1)=X.PU (X.cf ρ') ρ' i:=by
    funext σ
    have h1:=hr (X.cf ρ') ρ'
    unfold tl own at h1
    rw[hi,aq]at h1
    unfold PU own
    rw[hi,aq]
    rw[←at_eq X.E X.fn X.args X.res h1 (ZS (X.cf ρ') rR) σ]
    unfold lp
    rw[Wg,e3]
    unfold cut
    rw[e1];rfl
   unfold bd
   rw[this]
 have:X.cf ρ i=X.lp ρ i X.N:=by unfold cf;rw[hi];rfl
 unfold kc
 rw[this];exact key _
def Kg(P:Program):List (Nat×lW)→Prop
 |[]=>True
 |q::r=>iF P q.1 q.2∧Kg P r
structure _root_.VM.Kn(P:Program) where
 f:Nat
 S:lW
 ok:iF P f S
def _root_.VM.Kn.p{P:Program}(k:Kn P):Nat×lW:=(k.f,k.S)
def _root_.VM.Kn.l{P:Program}:List (Kn P)→List (Nat×lW)
 |[]=>[]
 |k::r=>k.p::Kn.l r
theorem _root_.VM.Kn.all{P:Program}: ∀l:List (Kn P),Kg P (Kn.l l)
 |[]=>trivial
 |k::r=>⟨k.ok,Kn.all r⟩
theorem By{P:Program}: ∀{l:List (Nat×lW)},Kg P l→ ∀f S,S∈Bx l f→iF P f S
 |[],_,f,S,h=>by simp[Bx]at h
 |q::r,ha,f,S,h=>by
  unfold Bx at h
  cases hb:Nat.beq f q.1<;>rw[hb]at h
  ·exact By ha.2 f S h
  ·rcases aW.1 h with rfl|h
   ·rw[fW hb];exact ha.1
   ·exact By ha.2 f S h
theorem Ff: ∀{l:List Pc},(l.all λp=>ka p.c)=true→ ∀i L,M5 l i=some L→ka L=true
 |q::r,ha,i,L,h=>by
  rw[Ey,bQ]at ha
  unfold M5 at h
  cases hb:Nat.beq i q.k<;>rw[hb]at h
  ·exact Ff ha.2 i L h
  ·cases h;exact ha.1
def chk(X:Fx)(q:Bool):Bool:=(X.pcs.all λp=>ka p.c)&&((!(X.fn.name== "runtime.NumGoroutine")&&Nat.beq X.nt X.fn.ntmps)&&(X.fn.body.isSome&&(Nat.ble X.args.length X.nt&&((!q||X.res.all AM.flat)&&decide (m8 X.args=m8 X.res)))))
theorem M6: ∀{ms:List AM} {k i:Nat} {m:AM},ms[i]? =some m→m.iE=true→k+i∈Fe ms k
 |[],_,_,_,h,_=>by simp at h
 |m::ms,k,0,m',h,vf=>by
  simp only[L0,iw]at h
  subst h
  cases m<;>simp[AM.iE]at vf<;>simp[Fe]
 |m::ms,k,i+1,m',h,vf=>by
  have:=M6 (ms:=ms) (k:=k+1) (i:=i) (by simpa using h) vf
  rw[show k+(i+1)=k+1+i from by omega]
  cases m<;>simp only[Fe]<;>first|exact aZ _ this|exact this
theorem RL: ∀{ms:List AM} {k i:Nat},i∈Fe ms k→i<k+ms.length
 |[],_,_,h=>by simp[Fe]at h
 |m::ms,k,i,h=>by
  have hr:i∈Fe ms (k+1)→i<k+(m::ms).length:=λh=>by have:=RL h;simp only[aR];omega
  cases m<;>simp only[Fe]at h<;>first
   |exact hr h
   |(rcases aW.1 h with rfl|h<;>first|exact hr h|(simp only[aR];omega))
variable(X)in
theorem RM{P:Program}(ht:Fc P X.tab)(hG:Kg P X.G)(hc:(X.pcs.all λp=>ka p.c)=true):tx P X.E:=by
 have lx: ∀t τ,M4 t X.tab=some τ→tA P τ (.inl t)=true∧ZP P τ t=true:=λt τ h=>by
  have:=qD.1 ht.ok _ (It h)
  simpa using this
 exact{ty:=λt τ h=>gV (lx t τ h).1,eq:=λt τ h hc ha=>ZQ (gV (lx t τ h).1) (lx t τ h).2 hc ha,alU:=By hG,mixed:=ht.mixed,ka:=λi L h=>Ff hc _ L h,VQ:=λi L h=>Ff hc _ L h}
theorem mkS{P:Program}(ht:Fc P X.tab){f:FuncId}(hf:P.funcs[f]? =some X.fn){q:Bool}(hc:chk X q=true)(hG:Kg P X.G){g:yP X.args X.R}(h: ∀x,PJ X.E X.fn X.args X.res x=Ke X.args g x):iF P f (X.S q g):=by
 unfold chk at hc
 simp only[bQ]at hc
 obtain⟨h0,⟨h1,h2⟩,h3,h4,h5,h6⟩:=hc
 refine V8 (RM X ht hG h0) hf (by simpa using h1) (fW h2) (X.S q g) (λi m hm vf=> ?_) (λi hi=> ?_) ?_ (λhq=> ?_) (bz h6) h
 ·have:=M6 (k:=0) hm vf
  rwa [gk]at this
 ·have:=RL (k:=0) hi
  rwa [gk]at this
 ·have:=Ej h4
  rwa [fW h2]at this
 ·have hq:q=true:=hq
  subst hq
  show X.res.all AM.flat=true
  simpa using h5
theorem ahD{g:yP X.args X.R}(h:Tx X.args (PJ X.E X.fn X.args X.res)=g)(x:HP X.args):PJ X.E X.fn X.args X.res x=Ke X.args g x:=by rw[←h,Kf]
variable(X)in
theorem ok0{P:Program}(ht:Fc P X.tab){f:FuncId}(hf:P.funcs[f]? =some X.fn){q:Bool}(hc:chk X q=true)(hG:Kg P X.G){g:yP X.args X.R}(h:Tx X.args (PJ X.E X.fn X.args X.res)=g):iF P f (X.S q g):=
 mkS ht hf hc hG (ahD h)
theorem ami(hb:X.fn.body.isSome=true)(rR:List Nat)(hr: ∀K,X.tlT K=rR.map λt=>(K t,X.cf X.CD t))
  {g:(Nat→St→X.R)→yP X.args X.R} (h: ∀K,X.top K=g K) {f:yP X.args X.R} (hf:g (X.cf X.CD)=f) (x:HP X.args):PJ X.E X.fn X.args X.res x=Ke X.args f x:=by
 rw[←hf,←h,ahB hb]
 unfold top
 rw[Kf]
 exact at_eq X.E X.fn X.args X.res (hr (X.cf X.CD)) (ZS (X.cf X.CD) rR) _
variable(X)in
theorem ok1{P:Program}(ht:Fc P X.tab){f:FuncId}(hf:P.funcs[f]? =some X.fn){q:Bool}(hc:chk X q=true)(hG:Kg P X.G)(rR:List Nat)(hr: ∀K,X.tlT K=rR.map λt=>(K t,X.cf X.CD t))
  {g:(Nat→St→X.R)→yP X.args X.R} (h: ∀K,X.top K=g K) {f':yP X.args X.R} (zN:g (X.cf X.CD)=f'):iF P f (X.S q f'):=by
 have hb:X.fn.body.isSome=true:=by
  unfold chk at hc
  simp only[bQ]at hc
  exact hc.2.2.1
 exact mkS ht hf hc hG (ami hb rR hr h zN)
theorem uJ{i:Nat}(rR:List Nat){g:(Nat→St→X.R)→(Nat→St→X.R)→Vf (X.c i) X.R}(h: ∀K ρ,X.bd K ρ i=g K ρ)(ρ:Nat→St→X.R){f:Vf (X.c i) X.R}(hf:g (X.cf ρ) ρ=f:=by rfl)
 (hi:odd i=false:=by kernel_rfl) (hr: ∀K ρ,X.tl K ρ i=rR.map λt=>(K t,X.cf ρ t):=by intro K ρ;kernel_rfl):X.kc (X.cf ρ) i=f:=(okJ rR hi hr h ρ).trans hf
theorem uL{i:Nat}(rR:List Nat){g:(Nat→St→X.R)→(Nat→St→X.R)→Vf (X.c i) X.R}(h: ∀K ρ,X.bd K ρ i=g K ρ)(ρ:Nat→St→X.R)
 (G:Nat→Vf (X.c i) X.R) (hs: ∀n ρ',X.kc ρ' i=G n→(∀l,Nat.beq l i=false→X.kc ρ' l=X.kc ρ l)→g (X.cf ρ') ρ'=G (n+1)) (h0:X.cu i (λ_=>none)=G 0:=by rfl)
 (hi:okb X i=true:=by kernel_rfl) (hr: ∀K ρ,X.tl K ρ i=rR.map λt=>(K t,X.cf ρ t):=by intro K ρ;kernel_rfl):X.kc (X.cf ρ) i=G X.N:=okL rR hi hr h ρ G h0 hs
variable(X)in
theorem u0{P:Program}(ht:Fc P X.tab){f:FuncId}(hf:P.funcs[f]? =some X.fn){q:Bool}{g:yP X.args X.R}(hG:Kg P X.G:=by first|exact trivial|exact Kn.all _)(hc:chk X q=true:=by kernel_rfl)(h:Tx X.args (PJ X.E X.fn X.args X.res)=g:=by kernel_rfl):iF P f (X.S q g):=ok0 X ht hf hc hG h
variable(X)in
theorem u1{P:Program}(ht:Fc P X.tab){f:FuncId}(hf:P.funcs[f]? =some X.fn)(rR:List Nat)
 {g:(Nat→St→X.R)→yP X.args X.R} (h: ∀K,X.top K=g K) {q:Bool} {f':yP X.args X.R} (zN:g (X.cf X.CD)=f':=by rfl) (hG:Kg P X.G:=by first|exact trivial|exact Kn.all _) (hc:chk X q=true:=by kernel_rfl) (hr: ∀K,X.tlT K=rR.map λt=>(K t,X.cf X.CD t):=by intro K;kernel_rfl):iF P f (X.S q f'):=ok1 X ht hf hc hG rR hr h zN
end Fx
end VM
end
section
namespace VM
open Go
variable{P:Program}
theorem Left.same(w:World)(M0:Nat→Prop)(h: ∀b,M0 b→b<w.heap.size):Left w M0 [] w M0:=
 ⟨λ_ h=>h,h,λ_ _ h=> .inl h,λ_ _ _=>rfl,aG _,rfl,rfl,rfl⟩
theorem amj{w:World}{M:Nat→Prop}{a b c:IntKind}{x:HP [.v (.int a),.v (.int b),.v (.int c)]}{vs:List Value}(h:jH w M [.v (.int a),.v (.int b),.v (.int c)] x vs):vs=[.int a x.1,.int b x.2.1,.int c x.2.2]:=by
 simp only[jH,A1,V,Ty.isAgg,iY,eT,Rd,fh,eS]at h
 obtain⟨v,vs,rfl,rfl,v,vs,rfl,rfl,v,vs,rfl,rfl,rfl⟩:=h
 rfl
theorem rr2{w:World}{M:Nat→Prop}{a b:IntKind}(x y:Int):RR w M [.v (.int a),.v (.int b)] (x,y) [.int a x,.int b y] []:=by
 simp only[RR]
 refine .inr ⟨_,_,rfl,rfl,rfl,?_,.inr ⟨_,_,rfl,rfl,rfl,?_,rfl,trivial⟩⟩<;>simp[A1,V,Ty.isAgg,Rd,s4,ya]
theorem RN{f:FuncId}(run:Int×Int×Int→Option (Int×Int))
  (h: ∀(w:World) (a b c u v:Int),run (a,b,c)=some (u,v)→(callFunc f #[.int .u64 a,.int .u64 b,.int .u64 c]).run P w= .ok (.value (.tuple #[.int .u64 u,.int .u64 v])) w):
  iF P f {args:=[.v (.int .u64),.v (.int .u64),.v (.int .u64)],res:=[.v (.int .u64),.v (.int .u64)],quiet:=true,run}:=by
 refine⟨λ_=>rfl,rfl,λM0 w vs x y rQ hA _ _ hy=> ?_⟩
 have Zn:=amj hA
 subst Zn
 exact Hu (h w x.1 x.2.1 x.2.2 y.1 y.2 hy) ⟨_,M0,rfl,rr2 y.1 y.2,Left.same w M0 rQ,List.nodup_nil,λb hb=>by cases hb⟩
theorem Bz(nm:String)(a b c:Nat)(h:c≤1)(w:World):(Extern.MathBitsCarry.three nm #[.int .u64 a,.int .u64 b,.int .u64 c]).run P w= .ok (a,b,c) w:=by
 have h5: ¬(1<c):=ω
 have:Extern.MathBitsCarry.three nm #[.int .u64 a,.int .u64 b,.int .u64 c]=(do
  let c:=(←asInt (.int .u64 c)).toNat
  if c>1 then unsupported (.noEntry ("extern/math/bits." ++nm++ ": a carry that is neither 0 nor 1"))
  pure ((←asInt (.int .u64 a)).toNat,(←asInt (.int .u64 b)).toNat,c)):=rfl
 rw[this]
 simp[asInt,asIntOf]
 omega
theorem Tz{f:FuncId}{fn:Func}(N:Nat)(hf:P.funcs[f]? =some fn)(Ad:(fn.name== "runtime.NumGoroutine")=false)(hb:fn.body.isNone=true)(hn:Extern.findNext fn=none)
  (he:Extern.find fn=(Extern.MathBitsCarry.rows[0]?).map (·.2)):iF P f (ym.S N):=by
 refine RN (λx=>ym N x.1 x.2.1 x.2.2) λw a b c u v hy=> ?_
 simp only[ym]at hy
 split at hy
 ·rename_i hc
  obtain⟨h1,h2,h3,h4⟩:=hc
  obtain⟨a,rfl⟩:=tY h1
  obtain⟨b,rfl⟩:=tY h2
  obtain⟨c,rfl⟩:=tY h3
  cases hy
  rw[run_callFunc_extern hf Ad hb hn he]
  simp[Bz _ a b c ω,Extern.MathBitsCarry.pair,Extern.MathBitsCarry.m64]
 ·cases hy
theorem TA{f:FuncId}{fn:Func}(N:Nat)(hf:P.funcs[f]? =some fn)(Ad:(fn.name== "runtime.NumGoroutine")=false)(hb:fn.body.isNone=true)(hn:Extern.findNext fn=none)
  (he:Extern.find fn=(Extern.MathBitsCarry.rows[1]?).map (·.2)):iF P f (vb.S N):=by
 refine RN (λx=>vb N x.1 x.2.1 x.2.2) λw a b c u v hy=> ?_
 simp only[vb]at hy
 split at hy
 ·rename_i hc
  obtain⟨h1,py,h2,yt,h3,h4⟩:=hc
  obtain⟨a,rfl⟩:=tY h1
  obtain⟨b,rfl⟩:=tY h2
  obtain⟨c,rfl⟩:=tY h3
  cases hy
  rw[run_callFunc_extern hf Ad hb hn he]
  have e1:((a+18446744073709551616-b-c:Nat):Int)=(a:Int)+18446744073709551616-b-c:=ω
  by_cases h:a<b+c
  ·have h':(a:Int)<(b:Int)+(c:Int):=ω
   simp[Bz _ a b c ω,Extern.MathBitsCarry.pair,Extern.MathBitsCarry.m64,e1,h,h']
  ·have h': ¬(a:Int)<(b:Int)+(c:Int):=ω
   simp[Bz _ a b c ω,Extern.MathBitsCarry.pair,Extern.MathBitsCarry.m64,e1,h,h']
 ·cases hy
end VM
end
section
namespace VM
open Go Go.Shelf Go.RowKit Go.Lib Go.Proofs
variable{P:Program}{ρ:Ren}
def Wl(ρ:Ren)(fn:Func):Func:={fn with body:=(Body2.n22 ρ).body,ntmps:=95,results:=(Body2.n22 ρ).results,nfree:=0}
theorem wD(ρ:Ren)(fn:Func):(Wl ρ fn).ntmps=95:=rfl
structure TB(P:Program)(e:Ty)(ρ:Ren)(f:FuncId)(fn fo:Func):Prop where
 hf:P.funcs[f]? =some (Wl ρ fn)
 t3:P.underlying (ρ.t 3)=some (.int .i64)
 t4:P.underlying (ρ.t 4)=some .bool
 t24:P.underlying (ρ.t 24)=some (.slice (ρ.t 9))
 lay:kH P e (ρ.t 9)
 pP:0<e.size
 mixed:P.follows .mixedOrders=true
set_option maxHeartbeats 4000000 in
set_option maxRecDepth 100000 in
theorem Kh{e:Ty}{f:FuncId}{fn fo:Func}(L:TB P e ρ f fn fo)(w:World)(base:Option Addr)(n c m vc:Nat)(va:Addr)(v':Value)(w':World)(hm:0<m)(hn:n≤c)
  (MJ: ∀ty,(Builtin.append_ #[ρ.t 24,ρ.t 24] ty #[.slice base n c,.slice (some va) m vc]).run P w= .ok v' w'):
   Calls P f #[.slice base n c,.int .i64 n,.slice (some va) m vc] w λr w2=>r= .returned v'∧w2=w':=by
 have u3:=run_underlying L.t3;have u4:=run_underlying L.t4;have u24:=run_underlying L.t24
 have t3:=L.t3;have t4:=L.t4;have t24:=L.t24
 have z9:=λw=>de L.lay w
 have mixed:=L.mixed
 have Cr: ¬((m:Int)=0):=ω
 go_enter L.hf,wD ρ fn
 cases base with
 |none=>
   go_wp2_with (at_builtin;refine Lib.wpList_append_run _ rfl _ _ _ _ rfl _ _ rfl rfl _ _ (MJ _) ?_)
   all_goals (go_ret;exact⟨rfl,rfl⟩)
 |some a=>
   obtain⟨ab,ao,asp⟩:=a
   go_wp2_with (at_builtin;refine Lib.wpList_append_run _ rfl _ _ _ _ rfl _ _ rfl rfl _ _ (MJ _) ?_)
   all_goals (go_ret;exact⟨rfl,rfl⟩)
theorem run_copy_row{t te e:TypeId}{k:Nat}(ht:P.underlying t=some (.slice e))(hk: ∀w,(Go.sizeOf e).run P w= .ok k w){W:World}{b o amk arC ahE aml n:Nat}{a:Addr}{cs:Array Value}(hg:W.heap[b]? =some (.cells cs te (0,0)))
  {news:List Value} (hnn:Nat.min ahE amk=n) (hl:news.length=n*k) (hn: ∀j u,news[j]? =some u→W.cell? (a.add j)=some u) (h1: ∀u∈news,u.oneCell'=true) (MC:o+news.length≤cs.size) (ty:TypeId):
  (Builtin.copy_ #[t,t] ty #[.slice (some ⟨b,o,none⟩) amk arC,.slice (some a) ahE aml]).run P W= .ok (goInt n) (W.setRow b (fb cs.toList o news).toArray):=by
 have hf:=run_firstCells_some (P:=P) W k n a ahE aml news hl hn
 have G6:=run_storeCells_at (P:=P) b o te news 0 cs W hg ω h1
 simp only[m0]at G6
 simp[Builtin.copy_,run_underlying ht,hk,Builtin.lenOf,hnn,hf,G6,fb]
set_option maxHeartbeats 4000000 in
set_option maxRecDepth 100000 in
theorem TC{e:Ty}{f:FuncId}{fn fo:Func}(L:TB P e ρ f fn fo)(w:World)(b n c i m vc:Nat)(va:Addr)(Ki Wm:Array Value)(hi:i<n)(hm:0<m)(hr:n+m≤c)(arD:c≤9223372036854775807)
  (hov: ∀x lb cb,(callFunc (ρ.f 29) #[.slice (some va) m vc,.slice (some ⟨b,x,none⟩) lb cb]).run P w= .ok (.value (.bool false)) w)
  (ZT: ∀ty dc sc,(Builtin.copy_ #[(ρ.t 24),(ρ.t 24)] ty #[.slice (some ⟨b,(i+m)*e.size,none⟩) (n+m-(i+m)) dc,.slice (some ⟨b,i*e.size,none⟩) (n+m-i) sc]).run P w.drew= .ok (goInt ((n-i:Nat):Int)) (w.drew.setRow b Ki))
  (ZU: ∀W:World,W.heap=(w.setRow b Ki).heap→ ∀ty dc,(Builtin.copy_ #[(ρ.t 24),(ρ.t 24)] ty #[.slice (some ⟨b,i*e.size,none⟩) (n+m-i) dc,.slice (some va) m vc]).run P W= .ok (goInt m) (W.setRow b Wm)):
   Calls P f #[.slice (some ⟨b,0,none⟩) n c,.int .i64 i,.slice (some va) m vc] w λr w2=>r= .returned (.slice (some ⟨b,0,none⟩) (n+m) c)∧w2=(w.drew.setRow b Ki).setRow b Wm:=by
 have u3:=run_underlying L.t3;have u4:=run_underlying L.t4;have u24:=run_underlying L.t24
 have t3:=L.t3;have t4:=L.t4;have t24:=L.t24
 have z9:=λw=>de L.lay w
 have mixed:=L.mixed
 have Cr: ¬((m:Int)=0):=ω
 have Hb: ¬((i:Int)=(n:Int)):=ω
 have hw1:IntKind.i64.wrap ((i:Int)+(m:Int))=(i:Int)+(m:Int):=by rw[IntKind.wrap_i64];omega
 have mw:(0:Int)≤(i:Int)+(m:Int):=ω
 have lT:i≤n:=ω
 have Tp:((i:Int)+(m:Int)).toNat=i+m:=ω
 have tU: ¬(c=i+m):=ω
 have hb3:(i:Int)≤(n:Int)+(m:Int):=ω
 have hb4: ¬(c=i):=ω
 go_enter L.hf,wD ρ fn
 go_wp2_with (simp only[hov])
 go_region_law_o (refine step_copy_runI rfl _ _ (ρ.t 24) (ρ.t 24) rfl _ _ (by simp[Act.eval,Act.put]) (by simp[Act.eval,Act.put]) (ZT _ _ _) ?_)
 have h2:=ZU (w.drew.setRow b Ki) rfl
 go_wp2
 go_ret
 exact⟨rfl,rfl⟩
set_option maxHeartbeats 4000000 in
set_option maxRecDepth 100000 in
theorem Wn{e:Ty}{f:FuncId}{fn fo:Func}(L:TB P e ρ f fn fo)(w:World)(b n c i m vc nb G:Nat)(va:Addr)(TD Ki Wm:Array Value)(hi:i<n)(hm:0<m)(hnc:n≤c)(hr:c<n+m)(arD:c≤9223372036854775807)(h63:n+m≤9223372036854775807)(hG:n+m≤G)(ayI:G≤9223372036854775807)
  (MJ: ∀ty,(Builtin.append_ #[(ρ.t 24),(ρ.t 3)] ty #[.slice (some ⟨b,0,none⟩) i c,.int .i64 ((n:Int)+(m:Int)-(i:Int))]).run P w= .ok (.slice (some ⟨w.heap.size,0,none⟩) (n+m) G) (w.drew.alloc (.cells TD (ρ.t 9))))
  (ZT: ∀W:World,W.heap=(w.alloc (.cells TD (ρ.t 9))).heap→ ∀ty dc,(Builtin.copy_ #[(ρ.t 24),(ρ.t 24)] ty #[.slice (some ⟨w.heap.size,i*e.size,none⟩) (n+m-i) dc,.slice (some va) m vc]).run P W= .ok (goInt m) (W.setRow w.heap.size Ki))
  (ZU: ∀W:World,W.heap=((w.alloc (.cells TD (ρ.t 9))).setRow w.heap.size Ki).heap→ ∀ty dc sc,(Builtin.copy_ #[(ρ.t 24),(ρ.t 24)] ty #[.slice (some ⟨w.heap.size,(i+m)*e.size,none⟩) (n+m-(i+m)) dc,.slice (some ⟨b,i*e.size,none⟩) (n-i) sc]).run P W= .ok (goInt ((n-i:Nat):Int)) (W.setRow w.heap.size Wm)):
   Calls P f #[.slice (some ⟨b,0,none⟩) n c,.int .i64 i,.slice (some va) m vc] w λr w2=>r= .returned (.slice (some ⟨w.heap.size,0,none⟩) (n+m) G)∧w2=((w.drew.alloc (.cells TD (ρ.t 9))).setRow w.heap.size Ki).drew.setRow w.heap.size Wm:=by
 have u3:=run_underlying L.t3;have u4:=run_underlying L.t4;have u24:=run_underlying L.t24
 have t3:=L.t3;have t4:=L.t4;have t24:=L.t24
 have z9:=λw=>de L.lay w
 have mixed:=L.mixed
 have Cr: ¬((m:Int)=0):=ω
 have Hb: ¬((i:Int)=(n:Int)):=ω
 have hz3:(c:Int)<(n:Int)+(m:Int):=ω
 have hw1:IntKind.i64.wrap ((i:Int)+(m:Int))=(i:Int)+(m:Int):=by rw[IntKind.wrap_i64];omega
 have mw:(0:Int)≤(i:Int)+(m:Int):=ω
 have lT:i≤n:=ω
 have Tp:((i:Int)+(m:Int)).toNat=i+m:=ω
 have hGi: ¬(G=i):=ω
 have ayJ: ¬(G=i+m):=ω
 have hci: ¬(c=i):=ω
 have hb3:(i:Int)≤(n:Int):=ω
 have h1:=ZT ((w.alloc (.cells TD (ρ.t 9))).drew) rfl
 have h2:=ZU (((w.alloc (.cells TD (ρ.t 9))).drew.setRow w.heap.size Ki).drew) rfl
 go_enter L.hf,wD ρ fn
 go_wp2_with (first
   |(at_builtin;refine Lib.wpList_append_run _ rfl _ _ _ _ rfl _ _ rfl rfl _ _ (MJ _) ?_)
   |(at_builtin;refine wpList_copy_runI _ rfl _ _ (ρ.t 24) (ρ.t 24) rfl _ _ rfl rfl (ZT _ (by exact rfl) _ _) ?_)
   |(at_builtin;refine wpList_copy_runI _ rfl _ _ (ρ.t 24) (ρ.t 24) rfl _ _ rfl rfl (ZU _ (by exact rfl) _ _ _) ?_))
 go_region_law_o (refine step_copy_runI rfl _ _ (ρ.t 24) (ρ.t 24) rfl _ _ (by simp[Act.eval,Act.put]) (by simp[Act.eval,Act.put]) (h2 _ _ _) ?_)
 go_wp2
 go_ret
 exact⟨rfl,rfl⟩
theorem DV{α:Type}(A Z news:List α):fb (A++Z) A.length news=A++(news++Z.drop news.length):=by
 unfold fb
 rw[vN rfl,bt,←jG,mX rfl]
theorem qS.amn{w:World}{M:Nat→Prop}{e:Ty}{cs:List Value}{l:List e.den}(h:qS w M e cs l)(i:Nat):qS w M e (cs.take (i*e.size)) (l.take i):=by
 intro j hj
 rw[cc]at hj
 have:=ew (s:=e.size) (show j<i by omega)
 rw[qE,qF,iy ω,Ep]
 exact h j ω
theorem qS.amo{w:World}{M:Nat→Prop}{e:Ty}{cs:List Value}{l:List e.den}(h:qS w M e cs l)(i:Nat):qS w M e ((cs.drop (i*e.size)).take ((l.length-i)*e.size)) (l.drop i):=by
 intro j hj
 rw[dR]at hj
 have:=ew (s:=e.size) hj
 rw[qE,qF,iy ω,jG,Eo,←et]
 exact h (i+j) ω
theorem xx{w w':World}{M0:Nat→Prop}{hs:List Nat}{e:Ty}{rb cap:Nat}{row:Array Value}{t:TypeId}{l:List e.den}(rQ: ∀b,M0 b→b<w.heap.size)(wy: ∀b∈hs,¬M0 b)
  (VO: ∀b,b<w.heap.size→b∉hs→w'.heap[b]? =w.heap[b]?) (s0:w.heap.size≤w'.heap.size) (hrb:rb<w.heap.size→rb∈hs) (hos:w'.os=w.os) (htp:w'.tape=w.tape) (P7:w'.output=w.output)
  (P8:w'.heap[rb]? =some (.cells row t (0,0))) (h0:0<cap) (hl:l.length≤cap) (hm:cap≤maxLen) (hrs:row.size=cap*e.size) (kV:qS w (λb=>M0 b∨b∈hs) e row.toList l):
  ∃us M',Value.slice (some ⟨rb,0,none⟩) l.length cap=wo us∧RR w' M' [.own e] l us []∧Left w M0 hs w' M'∧(bF [.own e] us []).Nodup∧ ∀b∈bF [.own e] us [],¬M0 b:=by
 have H9:rb<w'.heap.size:=(kD.1 P8).1
 have hk:e8 w (λb=>M0 b∨b∈hs) w' (λb=>M0 b∨b=rb):=⟨s0,λb hb hn=>VO b hb (λh=>hn (.inr h)),λb hb h=>h.elim .inl (λe=> .inr (e▸hrb (e▸hb)))⟩
 have we:bF [.own e] [Value.slice (some ⟨rb,0,none⟩) l.length cap] []=[rb]:=by
  have:cap≠0:=ω
  simp[bF,c9,AM.iE,fL,this]
 refine⟨[.slice (some ⟨rb,0,none⟩) l.length cap],λb=>M0 b∨b=rb,rfl,?_,?_,?_,?_⟩
 ·simp only[RR]
  refine .inr ⟨_,[],rfl,rfl,rfl,?_,rfl,trivial⟩
  simp only[A1,ER,s4]
  exact .inr ⟨rb,row,t,cap,rfl,P8,.inr rfl,h0,hl,hm,hrs,kV.ca hk⟩
 ·exact⟨λb h=> .inl h,λb h=>h.elim (λh=>mT (rQ b h) s0) (λh=>h▸H9),λb hb h=>h.elim .inl (λe=> .inr (e▸hrb (e▸hb))),VO,s0,hos,htp,P7⟩
 ·rw[we];simp
 ·rw[we]
  intro b hb h
  rw[bW]at hb
  subst hb
  exact wy b (hrb (rQ b h)) h
theorem setRow_other(w:World){b c:Nat}(r:Array Value)(h:c≠b):(w.setRow b r).heap[c]? =w.heap[c]? :=by
 unfold World.setRow
 rw[Array.getElem?_modify,ah (λe=>h e.symm)]
theorem setRow_size(w:World)(b:Nat)(r:Array Value):(w.setRow b r).heap.size=w.heap.size:=by
 unfold World.setRow;simp
theorem alloc_old(w:World)(o:Obj){c:Nat}(h:c<w.heap.size):(w.alloc o).heap[c]? =w.heap[c]? :=by
 show(w.heap.push o)[c]? =_
 rw[Array.getElem?_push,ah ω]
theorem qn(w:World)(o:Obj):(w.alloc o).heap[w.heap.size]? =some o:=by
 show(w.heap.push o)[w.heap.size]? =_
 simp
theorem ob(w:World)(o:Obj):(w.alloc o).heap.size=w.heap.size+1:=by
 show(w.heap.push o).size=_
 simp
theorem uu{w:World}{b:Nat}{cs:Array Value}{t:TypeId}{f:Nat×Nat}(h:w.heap[b]? =some (.cells cs t f))(o n:Nat): ∀j u,((cs.toList.drop o).take n)[j]? =some u→w.cell? ((⟨b,o,none⟩:Addr).add j)=some u:=by
 intro j u hj
 rw[Addr.add_lit]
 rw[lO]at hj
 split at hj
 ·rw[lP,gR]at hj
  simp only[World.cell?,h]
  simpa using hj
 ·cases hj
theorem RO{w:World}{M:Nat→Prop}{v:Value}{e:Ty}{l:List e.den}(h:ER w M v (.own e l)):(l=[]∧ ∃a,v= .slice a 0 0)∨
 ∃b cs t cap,v= .slice (some ⟨b,0,none⟩) l.length cap∧w.heap[b]? =some (.cells cs t (0,0))∧M b∧0<cap∧l.length≤cap∧cap≤maxLen∧cs.size=cap*e.size∧qS w M e cs.toList l:=h
end VM
end
section
namespace VM
open Go Go.Shelf Go.RowKit Go.Lib Go.Proofs
variable{P:Program}{ρ:Ren}
theorem Fg{w:World}{t e':TypeId}{e:Ty}(hu:P.underlying t=some (.slice e'))(hle:kH P e e'){n m cap cp:Nat}{olds news:List Value}{base:Option Addr}{a':Addr}(VI:base=none→n=0∧cap=0)
  (xZ:olds.length=n*e.size) (ho: ∀b,base=some b→ ∀j u,olds[j]? =some u→w.cell? (b.add j)=some u) (YX:news.length=m*e.size) (hn: ∀j u,news[j]? =some u→w.cell? (a'.add j)=some u)
  (hg:cap<n+m) (hs:n+m<zK):
  ∃m7 rest,(∀ty,(Builtin.append_ #[t,t] ty #[.slice base n cap,.slice (some a') m cp]).run P w= .ok (.slice (some ⟨w.heap.size,0,none⟩) (n+m) m7) (w.drew.alloc (.cells (olds++news++rest).toArray e')))∧
   n+m≤m7∧m7≤maxLen∧rest.length=(m7-(n+m))*e.size:=by
 obtain⟨i,hi,s0,hz,hby⟩:=hle.base
 have hzs:(cK e e.di).cells.size=e.size:=by rw[←bH,gT,oJ]
 have h63:n+m≤maxLen:=by simp only[zK,maxLen]at hs ⊢;omega
 have MC:(n+m)*i.bytes≤140737488355328:=by
  have:(n+m)*i.bytes≤68719476736*2048:=vQ (by simp only[zK]at hs;omega) hby
  omega
 refine⟨grownCap w (n+m) cap e',(Builtin.zeroCells (cK e e.di).cells (grownCap w (n+m) cap e'-(n+m))).toList,λty=> ?_,grownCap_ge _ _ _ _,grownCap_le_maxLen _ _ _ _ h63,?_⟩
 ·cases base with
  |none=>
   obtain⟨rfl,rfl⟩:=VI rfl
   have ho0:olds=[]:=tV (by rw[xZ];simp)
   subst ho0
   have:=run_append_nil (P:=P) w t ty e' i _ hu hi hz a' m cp news (by rw[YX,s0]) hn (by simpa using hg) (by simp only[zK]at hs;omega) (by simp at MC;omega)
   simp only[gk,cJ]
   rw[this]
   congr 2
   apply fj (λz=>Obj.cells z e' (0,0))
   apply jo;simp
  |some b=>
   have:=run_append_grow (P:=P) w t ty e' i _ hu hi hz b n cap olds (by rw[xZ,s0]) (ho b rfl) a' m cp news (by rw[YX,s0]) hn hg (by simp only[zK]at hs;omega) (growslice_fits hg MC)
   rw[this]
   congr 2
   apply fj (λz=>Obj.cells z e' (0,0))
   apply jo;simp
 ·rw[bH,size_zeroCells,hzs]
theorem TE{w:World}{t tn e':TypeId}{e:Ty}(hu:P.underlying t=some (.slice e'))(Tp:P.underlying tn=some (.int .i64))(hle:kH P e e')(ahy:0<e.size){n k cap:Nat}{olds:List Value}{b:Addr}
  (xZ:olds.length=n*e.size) (ho: ∀j u,olds[j]? =some u→w.cell? (b.add j)=some u) (hk:0<k) (hg:cap<n+k) (hs:n+k<zK):
  ∃m7 rest,(∀ty,(Builtin.append_ #[t,tn] ty #[.slice (some b) n cap,.int .i64 k]).run P w= .ok (.slice (some ⟨w.heap.size,0,none⟩) (n+k) m7) (w.drew.alloc (.cells (olds++rest).toArray e')))∧
   n+k≤m7∧m7≤maxLen∧rest.length=(m7-n)*e.size:=by
 obtain⟨i,hi,s0,hz,hby⟩:=hle.base
 have hzs:(cK e e.di).cells.size=e.size:=by rw[←bH,gT,oJ]
 have h63:n+k≤maxLen:=by simp only[zK,maxLen]at hs ⊢;omega
 have MC:(n+k)*i.bytes≤140737488355328:=by
  have:(n+k)*i.bytes≤68719476736*2048:=vQ (by simp only[zK]at hs;omega) hby
  omega
 have hkb:k*i.bytes≤281474976710656:=by
  have:k*i.bytes≤(n+k)*i.bytes:=lL _ ω
  omega
 have Y1:=grownCap_ge w (n+k) cap e'
 refine⟨grownCap w (n+k) cap e',(Builtin.zeroCells (cK e e.di).cells k++Builtin.zeroCells (cK e e.di).cells (grownCap w (n+k) cap e'-(n+k))).toList,λty=> ?_,Y1,grownCap_le_maxLen _ _ _ _ h63,?_⟩
 ·have hold:(Builtin.firstCells i.size n (.slice (some b) n cap)).run P w.drew= .ok olds.toArray w.drew:=run_firstCells_some w.drew i.size n b n cap olds (by rw[xZ,s0]) (λj u hj=>ho j u hj)
  have:=Lib.run_append_grow_zeros w t tn ty e' i _ .i64 .i64 hu Tp hi hz (some b) n cap olds hold k hk (by rw[s0];exact ahy) hg (by simp only[zK]at hs;omega) hkb (growslice_fits hg MC)
  rw[this]
  congr 2
  apply fj (λz=>Obj.cells z e' (0,0))
  apply jo;simp
 ·rw[Array.toList_append,aS,bH,bH,size_zeroCells,size_zeroCells,hzs,←et]
  congr 1;omega
structure OvP(P:Program)(ρ:Ren)(fo:Func):Prop where
 hf:P.funcs[ρ.f 29]? =some fo
 name:(fo.name== "runtime.NumGoroutine")=false
 body:fo.body.isNone=true
 next:Extern.findNext fo=none
 find:Extern.find fo=some (Extern.SlicesOverlaps.overlaps #[ρ.t 24,ρ.t 24] #[ρ.t 4])
theorem Fh{e:Ty}{f:FuncId}{fn fo:Func}(L:TB P e ρ f fn fo)(O:OvP P ρ fo)(Ad:(fn.name== "runtime.NumGoroutine")=false)(Wo:(Body2.n22 ρ).body.isNone=false)(N:Nat):iF P f (lS e N):=by
 refine⟨(λh=>by cases h),rfl,λM0 w vs x y rQ hA yb wy hy=> ?_⟩
 obtain⟨l,i,v⟩:=x
 have RI:pX N l i v=some y:=hy
 clear hy
 simp only[lS,jH]at hA
 obtain⟨v0,VP,rfl,h0,v1,vs2,rfl,h1,v2,vs3,rfl,h2,rfl⟩:=hA
 simp only[pX]at RI
 split at RI
 case isFalse=>cases RI
 rename_i hc
 cases RI
 obtain⟨hi0,Hl,P4,Kj⟩:=hc
 obtain⟨i,rfl⟩:=tY hi0
 have amp:i≤l.length:=ω
 simp only[A1,s4,ya,V,Ty.isAgg,iY,eT,Rd,fh,eS]at h0 h1 h2
 subst h1
 have hk:=L.pP
 replace P4:List.length (α:=e.den) v=1:=P4
 rcases RO h2 with⟨ZM,_⟩|⟨b2,cs2,t2,Aj,Zo,Vw,JW,hc2,hl2,yn,TF,yH⟩
 ·rw[ZM]at P4;cases P4
 replace Zo:v2= .slice (some ⟨b2,0,none⟩) 1 Aj:=by rw[Zo];congr 1
 subst Zo
 have Zm:e.size≤cs2.toList.length:=by
  rw[bH (xs:=cs2),TF]
  exact Nat.le_mul_of_pos_left _ hc2
 obtain⟨news,Wp⟩: ∃news,news=cs2.toList.take e.size:=⟨_,rfl⟩
 have H8:news.length=1*e.size:=by rw[Wp,cc,jV];omega
 have hnr:qS w (λb=>M0 b∨b∈dO (lS e N).args [v0,.int .i64 (i:Int),.slice (some ⟨b2,0,none⟩) 1 Aj]) e news v:=by
  rw[Wp];exact yH.take (by rw[P4,jV];exact aG _)
 have hnc: ∀j u,news[j]? =some u→w.cell? ((⟨b2,0,none⟩:Addr).add j)=some u:=by
  have:=uu Vw 0 e.size
  rw[cZ]at this
  rw[Wp];exact this
 have Qg: ∀u∈news,u.oneCell'=true:=by
  have:=hnr 0 ω
  rw[Nat.zero_mul,cZ,jF ω]at this
  exact this.oI
 have tU:fL (.slice (some ⟨b2,0,none⟩) 1 Aj)=some b2:=by simp[fL];omega
 replace Kj:List.length (α:=e.den) l+1<zK:=Kj
 have Wq:(List.take i l++(v++List.drop i l)).length=l.length+1:=by rw[aS,aS,cc,dR,P4];omega
 have hbn:(Wl ρ fn).body.isNone=false:=Wo
 refine sT L.hf Ad hbn ?_
 rcases RO h0 with⟨rfl,ad,rfl⟩|⟨b1,zh,t1,Ds,rfl,PN,hM1,Ly,Qh,tq,Lx,yQ⟩
 ·
  have hi:i=0:=by simpa using amp
  subst hi
  obtain⟨m7,rest,dE,Tu,jQ,H9⟩:=Fg (P:=P) (w:=w) L.t24 L.lay (n:=0) (m:=1) (cap:=0) (cp:=Aj) (olds:=[]) (news:=news) (base:=ad) (a':=⟨b2,0,none⟩) (λ_=>⟨rfl,rfl⟩) (by simp) (λ_ _ j u hj=>by simp at hj) H8 hnc ω (by simp only[zK];omega)
  refine(Kh L w ad 0 0 1 Aj ⟨b2,0,none⟩ _ _ ω (aG _) dE).mono ?_
  rintro e1 w' ⟨rfl,rfl⟩
  refine⟨_,rfl,?_⟩
  simp only[gk]at Tu H9
  have hv:v=v++[]:=by simp
  have:=xx (e:=e) (rb:=w.heap.size) (cap:=m7) (l:=v) (t:=ρ.t 9) (w:=w) (w':=w.drew.alloc (.cells ([]++news++rest).toArray (ρ.t 9))) rQ wy (λb hb _=>alloc_old w.drew _ hb) (by rw[ob];exact qI _) (λh=>absurd h (Ez _)) rfl rfl rfl (qn w.drew _) ω ω jQ
   (by simp only[cJ,iZ,aS,H8,H9,←et];congr 1;omega) (by simpa using hnr.more (cs':=rest) (by rw[P4,H8];exact aG _))
  rw[P4]at this
  simpa [lS,fm,AM.iE]using this
 ·have mw:fL (.slice (some ⟨b1,0,none⟩) l.length Ds)=some b1:=by simp[fL];omega
  have hh:dO (lS e N).args [.slice (some ⟨b1,0,none⟩) l.length Ds,.int .i64 (i:Int),.slice (some ⟨b2,0,none⟩) 1 Aj]=[b1,b2]:=by simp[lS,dO,c9,mw,tU]
  rw[hh]at yb wy hnr ⊢
  replace yQ:qS w (λb=>M0 b∨b∈[b1,b2]) e zh.toList l:=by rw[←hh];exact yQ
  have jy:b1≠b2:=by simpa using yb
  have arI:b1<w.heap.size:=(kD.1 PN).1
  have alz:b2<w.heap.size:=(kD.1 Vw).1
  have sS:l.length*e.size≤zh.toList.length:=by rw[bH (xs:=zh),Lx];exact lL _ Qh
  have hik:i*e.size≤l.length*e.size:=lL _ amp
  obtain⟨A,hAe⟩: ∃A,A=zh.toList.take (i*e.size):=⟨_,rfl⟩
  obtain⟨mid,ahF⟩: ∃mid,mid=(zh.toList.drop (i*e.size)).take ((l.length-i)*e.size):=⟨_,rfl⟩
  have RP:A.length=i*e.size:=by rw[hAe,cc];omega
  have G1:mid.length=(l.length-i)*e.size:=by
   rw[ahF,cc,dR,qJ];omega
  have hAr:=yQ.amn i
  have hmr:=yQ.amo i
  rw[←hAe]at hAr
  rw[←ahF]at hmr
  have hti:(l.take i).length=i:=by rw[cc];omega
  have RQ: ∀rest:List Value,qS w (λb=>M0 b∨b∈[b1,b2]) e (A++(news++(mid++rest))) (l.take i++(v++l.drop i)):=λrest=>
   hAr.append (by rw[RP,hti]) (hnr.append (by rw[H8,P4]) (hmr.more (by rw[dR,G1];exact aG _)))
  have hAc: ∀j u,A[j]? =some u→w.cell? ((⟨b1,0,none⟩:Addr).add j)=some u:=by
   have:=uu PN 0 (i*e.size)
   rw[cZ]at this
   rw[hAe];exact this
  have hmc: ∀j u,mid[j]? =some u→w.cell? ((⟨b1,i*e.size,none⟩:Addr).add j)=some u:=by
   rw[ahF];exact uu PN (i*e.size) _
  have amt: ∀u∈mid,u.oneCell'=true:=by
   intro u hu
   obtain⟨j,hj,rfl⟩:=qy.1 hu
   rw[G1]at hj
   have hq:j/e.size<l.length-i:=Nat.div_lt_of_lt_mul (by rw[EA];exact hj)
   have:=(hmr (j/e.size) (by rw[dR];exact hq)).oI
   refine this _ ?_
   have hjm:j/e.size*e.size+j%e.size=j:=by rw[EA];exact Nat.div_add_mod j e.size
   have G8:j%e.size<e.size:=Nat.mod_lt _ hk
   rw[List.mem_iff_getElem?]
   refine⟨j%e.size,?_⟩
   rw[lO,aj G8,lP,hjm]
   exact bk _
  by_cases lT:i=l.length
  ·
   subst lT
   have hm0:mid=[]:=tV (by rw[G1];simp)
   by_cases z8:l.length+1≤Ds
   ·obtain⟨ie,hie,s0,_⟩:=L.lay.base
    have dE: ∀ty,(Builtin.append_ #[ρ.t 24,ρ.t 24] ty #[.slice (some ⟨b1,0,none⟩) l.length Ds,.slice (some ⟨b2,0,none⟩) 1 Aj]).run P w=_:=λty=>
     MB (ty:=ty) (cp:=Aj) L.t24 hie PN (by rw[s0];exact Lx) (by rw[s0];exact H8) hnc Qg z8
    refine(Kh L w _ _ _ 1 Aj ⟨b2,0,none⟩ _ _ ω Qh dE).mono ?_
    rintro e1 w' ⟨rfl,rfl⟩
    refine⟨_,rfl,?_⟩
    rw[s0]
    have P8:fb zh.toList (l.length*e.size) news=A++(news++(mid++zh.toList.drop (l.length*e.size+news.length))):=by
     rw[hm0,hAe];simp[fb]
    have:=xx (e:=e) (rb:=b1) (cap:=Ds) (l:=l.take l.length++(v++l.drop l.length)) (t:=t1) (w:=w) (w':=w.setRow b1 (fb zh.toList (l.length*e.size) news).toArray) rQ wy (λb hb hn=>setRow_other w _ (λe=>hn (by simp[e]))) (by rw[setRow_size];exact aG _) (λ_=>by simp) rfl rfl rfl (setRow_heap w b1 zh _ t1 _ PN) Ly (by rw[Wq];exact z8) tq
     (by
      have:=ew (s:=e.size) (show l.length<Ds by omega)
      rw[P8,iZ]
      simp only[aS,hm0,bU,dR,bH,RP,H8,Lx]
      omega)
     (by rw[P8];exact RQ _)
    rw[Wq]at this
    simpa [lS,fm,AM.iE]using this
   ·obtain⟨m7,rest,dE,Tu,jQ,H9⟩:=Fg (P:=P) (w:=w) L.t24 L.lay (n:=l.length) (m:=1) (cap:=Ds) (cp:=Aj) (olds:=A) (news:=news) (base:=some ⟨b1,0,none⟩) (a':=⟨b2,0,none⟩) (λh=>by cases h) RP (λb hb=>by cases hb;exact hAc) H8 hnc ω Kj
    refine(Kh L w _ _ _ 1 Aj ⟨b2,0,none⟩ _ _ ω Qh dE).mono ?_
    rintro e1 w' ⟨rfl,rfl⟩
    refine⟨_,rfl,?_⟩
    have:=xx (e:=e) (rb:=w.heap.size) (cap:=m7) (l:=l.take l.length++(v++l.drop l.length)) (t:=ρ.t 9) (w:=w) (w':=w.drew.alloc (.cells (A++news++rest).toArray (ρ.t 9))) rQ wy (λb hb _=>alloc_old w.drew _ hb) (by rw[ob];exact qI _) (λh=>absurd h (Ez _)) rfl rfl rfl (qn w.drew _) ω (by rw[Wq];exact Tu) jQ
     (by simp only[iZ,aS,RP,H8,H9,←et];congr 1;omega) (by have:=RQ rest;rw[hm0,cJ,←bt]at this;exact this)
    rw[Wq]at this
    simpa [lS,fm,AM.iE]using this
  ·have ahG:i<l.length:=ω
   have Zy:i*e.size+e.size≤l.length*e.size:=ew ahG
   have e1k:(i+1)*e.size=A.length+news.length:=by rw[RP,H8,et]
   have EN:Nat.min 1 (l.length+1-i)=1:=iy ω
   by_cases z8:l.length+1≤Ds
   ·
    have amu:l.length*e.size+e.size≤zh.toList.length:=by rw[bH (xs:=zh),Lx];exact ew ω
    have hsh: ∀(b:Nat) (c:Array Value) (t:TypeId),w.heap[b]? =some (.cells c t (0,0))→w.shape? b=some (t,c.size):=λb c t h=>by simp[World.shape?,h]
    obtain⟨B,hB⟩: ∃B,B=zh.toList.drop (i*e.size):=⟨_,rfl⟩
    have amv:zh.toList=A++B:=by rw[hAe,hB,gi]
    have hBl:B.length=zh.toList.length-i*e.size:=by rw[hB,dR]
    have hBk:(B.take e.size).length=e.size:=by rw[cc];omega
    have M7:fb zh.toList ((i+1)*e.size) mid=A++(B.take e.size++(mid++(B.drop e.size).drop mid.length)):=by
     have:zh.toList=(A++B.take e.size)++B.drop e.size:=by rw[bt,gi];exact amv
     rw[this,show(i+1)*e.size=(A++B.take e.size).length from by rw[aS,hBk,RP,et,jV],DV,bt]
    have M8:fb (fb zh.toList ((i+1)*e.size) mid) (i*e.size) news=A++(news++(mid++(B.drop e.size).drop mid.length)):=by
     rw[M7,←RP,DV,H8,jV,mX hBk]
    refine(TC L w b1 l.length Ds i 1 Aj ⟨b2,0,none⟩ (fb zh.toList ((i+1)*e.size) mid).toArray (fb (fb zh.toList ((i+1)*e.size) mid) (i*e.size) news).toArray ahG ω z8 (by simp only[maxLen]at tq;omega) (λx lb cb=> ?_) (λty dc sc=> ?_) (λW hW ty dc=> ?_)).mono ?_
    ·rw[run_callFunc_extern O.hf O.name O.body O.next O.find,
      Lib.run_overlaps_apart w (ρ.t 24) (ρ.t 4) (ρ.t 9) L.t24 e.size (λw=>de L.lay w) ⟨b2,0,none⟩ ⟨b1,x,none⟩ 1 Aj lb cb (eH jy) t2 t1 cs2.size zh.size (hsh b2 cs2 t2 Vw) (hsh b1 zh t1 PN) (by rw[Lx];exact Nat.ne_of_gt (Nat.mul_pos Ly hk)) (by simp[World.frozen?,Vw]) (by simp[World.frozen?,Vw])]
     rfl
    ·exact run_copy_row (P:=P) (W:=w.drew) L.t24 (λw=>de L.lay w) (cs:=zh) PN (news:=mid) (n:=l.length-i) (by simp only[Nat.min_def];split<;>omega) G1 hmc amt (by rw[G1,et,jV];rw[bH (xs:=zh)]at amu;rw[qJ];omega) ty
    ·exact run_copy_row (P:=P) (W:=W) L.t24 (λw=>de L.lay w) (cs:=(fb zh.toList ((i+1)*e.size) mid).toArray) (te:=t1) (by rw[hW];exact setRow_heap w b1 zh _ t1 _ PN) (news:=news) (n:=1) EN H8
      (λj u hj=>by
       have:=hnc j u hj
       rw[Addr.add_lit]at this ⊢
       rw[show W.cell? ⟨b2,0+j,none⟩=w.cell? ⟨b2,0+j,none⟩from World.cell?_of_block (by rw[hW];exact setRow_other w _ (eH jy))]
       exact this) Qg (by
       rw[iZ,M7]
       simp only[aS,hBk,RP,H8]
       omega) ty
    ·rintro e1 w' ⟨rfl,rfl⟩
     refine⟨_,rfl,?_⟩
     have:=xx (e:=e) (rb:=b1) (cap:=Ds) (l:=l.take i++(v++l.drop i)) (t:=t1) (w:=w) (w':=(w.drew.setRow b1 (fb zh.toList ((i+1)*e.size) mid).toArray).setRow b1 (fb (fb zh.toList ((i+1)*e.size) mid) (i*e.size) news).toArray) rQ wy
      (λb hb hn=>(setRow_other _ _ (λe=>hn (by simp[e]))).trans (setRow_other _ _ (λe=>hn (by simp[e])))) (by rw[setRow_size,setRow_size];exact aG _) (λ_=>by simp) rfl rfl rfl (setRow_heap _ b1 _ _ t1 _ (setRow_heap w.drew b1 zh _ t1 _ PN)) Ly (by rw[Wq];exact z8) tq
      (by
       rw[M8,iZ]
       rw[bH (xs:=zh)]at amu hBl
       simp only[aS,dR,RP,H8,G1,hBl,qJ]
       omega)
      (by rw[M8];exact RQ _)
     rw[Wq]at this
     simpa [lS,fm,AM.iE]using this
   ·
    obtain⟨m7,Z,dE,Tu,jQ,hZl⟩:=TE (P:=P) (w:=w) L.t24 L.t3 L.lay hk (n:=i) (k:=l.length+1-i) (cap:=Ds) (olds:=A) (b:=⟨b1,0,none⟩) RP hAc ω ω ω
    have arL:i+(l.length+1-i)=l.length+1:=ω
    rw[arL]at dE Tu
    have hZk:(l.length+1-i)*e.size≤Z.length:=by rw[hZl];exact lL _ ω
    rw[qJ,et,jV]at hZk
    have M7:fb (A++Z) (i*e.size) news=A++(news++Z.drop news.length):=by rw[←RP,DV]
    have M8:fb (fb (A++Z) (i*e.size) news) ((i+1)*e.size) mid=A++(news++(mid++(Z.drop news.length).drop mid.length)):=by
     rw[M7,←bt,e1k,←aS,DV,bt]
    have hnb:w.heap.size≠b1:=ω
    have ayQ:b2≠w.heap.size:=ω
    refine(Wn L w b1 l.length Ds i 1 Aj 0 m7 ⟨b2,0,none⟩ (A++Z).toArray (fb (A++Z) (i*e.size) news).toArray (fb (fb (A++Z) (i*e.size) news) ((i+1)*e.size) mid).toArray ahG ω Qh ω (by simp only[maxLen]at tq;omega) (by simp only[zK]at Kj;omega) Tu (by simp only[maxLen]at jQ;omega) (λty=> ?_) (λW hW ty dc=> ?_) (λW hW ty dc sc=> ?_)).mono ?_
    ·have:=dE ty
     rw[show(((l.length+1-i:Nat):Int))=(l.length:Int)+(1:Nat)-(i:Int)from by omega]at this
     exact this
    ·exact run_copy_row (P:=P) (W:=W) L.t24 (λw=>de L.lay w) (cs:=(A++Z).toArray) (te:=ρ.t 9) (by rw[hW];exact qn w _) (news:=news) (n:=1) EN H8
      (λj u hj=>by
       have:=hnc j u hj
       rw[Addr.add_lit]at this ⊢
       rw[show W.cell? ⟨b2,0+j,none⟩=w.cell? ⟨b2,0+j,none⟩from World.cell?_of_block (by rw[hW];exact alloc_old w _ alz)]
       exact this) Qg (by rw[iZ,aS,RP,H8];omega) ty
    ·exact run_copy_row (P:=P) (W:=W) L.t24 (λw=>de L.lay w) (cs:=(fb (A++Z) (i*e.size) news).toArray) (te:=ρ.t 9) (by rw[hW];exact setRow_heap _ _ _ _ _ _ (qn w _)) (news:=mid) (n:=l.length-i) (by simp only[Nat.min_def];split<;>omega) G1
      (λj u hj=>by
       have:=hmc j u hj
       rw[Addr.add_lit]at this ⊢
       rw[show W.cell? ⟨b1,i*e.size+j,none⟩=w.cell? ⟨b1,i*e.size+j,none⟩from World.cell?_of_block (by rw[hW];exact(setRow_other _ _ (eH hnb)).trans (alloc_old w _ arI))]
       exact this) amt (by
       rw[iZ,M7]
       simp only[aS,dR,RP,H8,G1,et,qJ]
       omega) ty
    ·rintro e1 w' ⟨rfl,rfl⟩
     refine⟨_,rfl,?_⟩
     have hg':((w.drew.alloc (.cells (A++Z).toArray (ρ.t 9))).setRow w.heap.size (fb (A++Z) (i*e.size) news).toArray).drew.heap[w.heap.size]? =some (.cells (fb (A++Z) (i*e.size) news).toArray (ρ.t 9) (0,0)):=setRow_heap _ _ _ _ _ _ (qn w.drew _)
     have:=xx (e:=e) (rb:=w.heap.size) (cap:=m7) (l:=l.take i++(v++l.drop i)) (t:=ρ.t 9) (w:=w) (w':=((w.drew.alloc (.cells (A++Z).toArray (ρ.t 9))).setRow w.heap.size (fb (A++Z) (i*e.size) news).toArray).drew.setRow w.heap.size (fb (fb (A++Z) (i*e.size) news) ((i+1)*e.size) mid).toArray) rQ wy
      (λb hb hn=>(setRow_other _ _ ω).trans ((setRow_other _ _ ω).trans (alloc_old w.drew _ hb))) (by rw[setRow_size];show _≤(World.setRow _ _ _).heap.size;rw[setRow_size,ob];exact qI _) (λh=>absurd h (Ez _)) rfl rfl rfl (setRow_heap _ _ _ _ _ _ hg') ω (by rw[Wq];exact Tu) jQ
      (by
       rw[M8,iZ]
       have hmul:(m7-i)*e.size=m7*e.size-i*e.size:=qJ _ _ _
       have hci:i*e.size≤m7*e.size:=lL _ ω
       simp only[aS,dR,RP,H8,G1,hZl,hmul,qJ]at hZk ⊢
       omega)
      (by rw[M8];exact RQ _)
     rw[Wq]at this
     simpa [lS,fm,AM.iE]using this
end VM
end
section
namespace VM
open Go Go.Shelf Go.RowKit Go.Lib Go.Proofs
variable{P:Program}{ρ:Ren}
def Wr(ρ:Ren)(fn:Func):Func:={fn with body:=(Body2.n15 ρ).body,ntmps:=8,results:=(Body2.n15 ρ).results,nfree:=0}
theorem CE(ρ:Ren)(fn:Func):(Wr ρ fn).ntmps=8:=rfl
structure Kk(P:Program)(e:Ty)(ρ:Ren)(f:FuncId)(fn:Func):Prop where
 hf:P.funcs[f]? =some (Wr ρ fn)
 t4:P.underlying (ρ.t 4)=some .bool
 t22:P.underlying (ρ.t 22)=some (.slice (ρ.t 3))
 lay:kH P e (ρ.t 3)
 pP:0<e.size
 mixed:P.follows .mixedOrders=true
set_option maxHeartbeats 4000000 in
set_option maxRecDepth 100000 in
theorem TG{e:Ty}{f:FuncId}{fn:Func}(L:Kk P e ρ f fn)(w:World)(n c:Nat):
  Calls P f #[.slice none n c] w λr w2=>r= .returned (.slice none 0 0)∧w2=w:=by
 have u22:=run_underlying L.t22
 have t4:=L.t4;have t22:=L.t22
 have z3:=λw=>de L.lay w
 have mixed:=L.mixed
 have q22: ∀(w:World) (a:Option Addr) (n c n' c':Nat),(binOp .eql (ρ.t 22) (.slice a n c) (.slice none n' c')).run P w= .ok (.bool a.isNone) w:=λw a n c n' c'=>Lib.run_eql_slice_nil w _ _ a n c n' c' L.t22
 go_enter L.hf,CE ρ fn
 go_wp2
 go_ret
 exact⟨rfl,rfl⟩
set_option maxHeartbeats 4000000 in
set_option maxRecDepth 100000 in
theorem Fi{e:Ty}{f:FuncId}{fn:Func}(L:Kk P e ρ f fn)(w:World)(a:Addr)(n c:Nat)(v':Value)(w':World)
  (MJ: ∀ty,(Builtin.append_ #[ρ.t 22,ρ.t 22] ty #[.slice (some ⟨w.heap.size,0,none⟩) 0 0,.slice (some a) n c]).run P (w.alloc (.cells #[] (ρ.t 3)))= .ok v' w'):
   Calls P f #[.slice (some a) n c] w λr w2=>r= .returned v'∧w2=w':=by
 have u22:=run_underlying L.t22
 have t4:=L.t4;have t22:=L.t22
 have z3:=λw=>de L.lay w
 have mixed:=L.mixed
 have q22: ∀(w:World) (a:Option Addr) (n c n' c':Nat),(binOp .eql (ρ.t 22) (.slice a n c) (.slice none n' c')).run P w= .ok (.bool a.isNone) w:=λw a n c n' c'=>Lib.run_eql_slice_nil w _ _ a n c n' c' L.t22
 obtain⟨ab,ao,asp⟩:=a
 go_enter L.hf,CE ρ fn
 go_wp2_with (at_builtin;refine Lib.wpList_append_run _ rfl _ _ _ _ rfl _ _ rfl rfl _ _ (MJ _) ?_)
 all_goals (go_ret;exact⟨rfl,rfl⟩)
theorem Ws{w w':World}{M0:Nat→Prop}{e:Ty}(a:Option Addr)(rQ: ∀b,M0 b→b<w.heap.size)(VO: ∀b,b<w.heap.size→w'.heap[b]? =w.heap[b]?)(s0:w.heap.size≤w'.heap.size)
  (hos:w'.os=w.os) (htp:w'.tape=w.tape) (P7:w'.output=w.output):
  ∃us M',Value.slice a 0 0=wo us∧RR w' M' [.own e] ([]:List e.den) us []∧Left w M0 [] w' M'∧(bF [.own e] us []).Nodup∧ ∀b∈bF [.own e] us [],¬M0 b:=by
 have we:bF [.own e] [Value.slice a 0 0] []=[]:=by
  cases a<;>simp[bF,c9,AM.iE,fL]
 refine⟨[.slice a 0 0],M0,rfl,?_,?_,?_,?_⟩
 ·simp only[RR]
  refine .inr ⟨_,[],rfl,rfl,rfl,?_,rfl,trivial⟩
  simp only[A1,ER,s4]
  exact .inl ⟨trivial,a,rfl⟩
 ·exact⟨λb h=>h,λb h=>mT (rQ b h) s0,λb hb h=> .inl h,λb hb _=>VO b hb,s0,hos,htp,P7⟩
 ·rw[we];simp
 ·rw[we];simp
theorem qo{e:Ty}{f:FuncId}{fn:Func}(L:Kk P e ρ f fn)(Ad:(fn.name== "runtime.NumGoroutine")=false)(Wo:(Body2.n15 ρ).body.isNone=false)(N:Nat):iF P f (wb e N):=by
 refine⟨(λh=>by cases h),rfl,λM0 w vs x y rQ hA yb wy hy=> ?_⟩
 have RI:n0 N x=some y:=hy
 clear hy
 obtain⟨v0,VP,rfl,h0,h2⟩:=hA
 have h2:VP=[]:=h2
 subst h2
 replace h0:V w (λb=>M0 b∨b∈([]:List Nat)) (.slice e) v0 x:=h0
 unfold n0 at RI
 split at RI
 case isFalse=>cases RI
 rename_i Kj
 cases RI
 have hbn:(Wr ρ fn).body.isNone=false:=Wo
 have hh:dO (wb e N).args [v0]=[]:=rfl
 rw[hh]at wy ⊢
 refine sT L.hf Ad hbn ?_
 obtain⟨i,hi,s0,hz,hby⟩:=L.lay.base
 have hS:=Src.Zh h0
 by_cases hx:x=[]
 ·obtain⟨a,cp,hv,_⟩:=hS
  subst hv
  rw[hx]
  cases a with
  |none=>
   refine(TG L w _ cp).mono ?_
   rintro e1 w' ⟨rfl,rfl⟩
   exact⟨_,rfl,Ws none rQ (λ_ _=>rfl) (aG _) rfl rfl rfl⟩
  |some a=>
   refine(Fi L w a _ cp _ _ (λty=>sr (P:=P) (w:=w.alloc (.cells #[] (ρ.t 3))) L.t22 hi (some ⟨w.heap.size,0,none⟩) 0 0 (aG _) (some a) cp)).mono ?_
   rintro e1 w' ⟨rfl,rfl⟩
   exact⟨_,rfl,Ws _ rQ (λb hb=>alloc_old w _ hb) (by rw[ob];exact qI _) rfl rfl rfl⟩
 ·obtain⟨b,off,cp,news,hv,hl,pY,kV,h1⟩:=hS.cells hx
  have Hs:0<x.length:=si.2 hx
  subst hv
  obtain⟨m7,rest,dE,Tu,jQ,H9⟩:=Fg (P:=P) (w:=w.alloc (.cells #[] (ρ.t 3))) L.t22 L.lay (n:=0) (m:=x.length) (cap:=0) (cp:=cp) (olds:=[]) (news:=news) (base:=some ⟨w.heap.size,0,none⟩) (a':=⟨b,off,none⟩) (λh=>by cases h) (by simp) (λ_ _ j u hj=>by simp at hj) hl
   (λj u hj=>by rw[Addr.add_lit];exact Lib.cell?_alloc_some _ (pY j u hj)) ω ω
  refine(Fi L w ⟨b,off,none⟩ _ cp _ _ dE).mono ?_
  rintro e1 w' ⟨rfl,rfl⟩
  refine⟨_,rfl,?_⟩
  simp only[gk]at Tu H9 ⊢
  have Lx:(w.alloc (.cells #[] (ρ.t 3))).heap.size=w.heap.size+1:=ob w _
  exact xx (e:=e) (rb:=(w.alloc (.cells #[] (ρ.t 3))).heap.size) (cap:=m7) (l:=x) (t:=ρ.t 3) (w:=w) (w':=(w.alloc (.cells #[] (ρ.t 3))).drew.alloc (.cells ([]++news++rest).toArray (ρ.t 3))) rQ wy
   (λb hb _=>(alloc_old (w.alloc (.cells #[] (ρ.t 3))).drew _ (by show b<(w.alloc (.cells #[] (ρ.t 3))).heap.size;omega)).trans (alloc_old w _ hb))
   (by rw[ob];show w.heap.size≤(w.alloc (.cells #[] (ρ.t 3))).heap.size+1;omega) (λh=>ω) rfl rfl rfl (qn (w.alloc (.cells #[] (ρ.t 3))).drew _) ω Tu jQ
   (by simp only[cJ,iZ,aS,hl,H9,←et];congr 1;omega) (by simpa using qS.more (cs':=rest) (show qS w (λb=>M0 b∨b∈([]:List Nat)) e news x from kV) (by rw[hl];exact aG _))
end VM
end
