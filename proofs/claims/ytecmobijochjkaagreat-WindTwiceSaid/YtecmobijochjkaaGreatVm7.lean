/- A part of the proof of WindTwice of layer 21: a machine that reads a function of the program as an equation between values. -/
import Derived.Test.YtecmobijochjkaaGreatVm6
import Derived.KernelRfl
import Derived.Test.YtecmobijochjkaaGreatVm0
import Derived.Laws.Externs
import Derived.Shelf.Spec.SlicesInsertGrow
set_option linter.all false
noncomputable section
section
namespace VM
open Go
@[reducible] def CM.arr:CM→Type→Type
 | .v τ,T| .obj τ,T| .io τ,T| .fn _ τ,T=>τ.den→T
 | .own e,T=>List e.den→T
 | .gd τ _ e,T=>τ.den→List e.den→T
 | .same _,T=>T
@[reducible] def Vl:List (Nat×CM)→Type→Type
 |[],R=>R
 |q::r,R=>q.2.arr (Vl r R)
def CM.lam{T:Type}(s:Nat)(σ:St):(m:CM)→(St→T)→m.arr T
 | .v τ,f=>λx=>f (σ.put s (.val τ x))
 | .own e,f=>λx=>f ((σ.put s (.ref (16*s+14))).jP (16*s+14) (some (.own e x)))
 | .obj τ,f=>λx=>f ((σ.put s (.jo (16*s+14) [])).jP (16*s+14) (some (.obj τ x)))
 | .gd τ q e,f=>λx l=>f (((σ.put s (.jo (16*s+14) [])).jP (16*s+13) (some (.own e l))).jP (16*s+14) (some (.gd τ x q (16*s+13))))
 | .io τ,f=>λx=>f ((σ.put s (.jo (16*s+15) [])).jP (16*s+15) (some (.obj τ x)))
 | .fn g τ,f=>λx=>f (σ.put s (.L9 g (pO τ x)))
 | .same s',f=>f (σ.put s (σ.T s'))
def amu{R:Type}(κ:St→R):(L:List (Nat×CM))→St→Vl L R
 |[],σ=>κ σ
 |q::r,σ=>q.2.lam q.1 σ (amu κ r)
@[reducible] def yO:List AM→Type→Type
 |[],R=>R
 |m::r,R=>m.den→yO r R
def Kb{R:Type}:(ms:List AM)→yO ms R→HP ms→R
 |[],g,_=>g
 |[_],g,x=>g x
 |_::n::ms,g,x=>Kb (n::ms) (g x.1) x.2
def TE{R:Type}:(ms:List AM)→(HP ms→R)→yO ms R
 |[],f=>f ()
 |[_],f=>f
 |_::n::ms,f=>λx=>TE (n::ms) λy=>f (x,y)
theorem Kc{R:Type}: ∀(ms:List AM) (f:HP ms→R) (x:HP ms),Kb ms (TE ms f) x=f x
 |[],_,()=>rfl
 |[_],_,_=>rfl
 |_::n::ms,f,x=>Kc (n::ms) (λy=>f (x.1,y)) x.2
structure Pc where
 k:Nat
 c:List (Nat×CM)
 path:List Nat
 ks:List Nat
def Wq:List Pc→Nat→Pc
 |[],_=>⟨0,[],[],[]⟩
 |p::r,k=>cond (Nat.beq k p.k) p (Wq r k)
def MV:List Pc→Nat→Option (List (Nat×CM))
 |[],_=>none
 |p::r,k=>cond (Nat.beq k p.k) (some p.c) (MV r k)
def Bp:List (Nat×lY)→Nat→List lY
 |[],_=>[]
 |q::r,i=>cond (Nat.beq i q.1) (q.2::Bp r i) (Bp r i)
def Ff:List AM→Nat→List Nat
 |[],_=>[]
 | .io _::r,i=>i::Ff r (i+1)
 | .lo _::r,i=>i::Ff r (i+1)
 |_::r,i=>Ff r (i+1)
structure Fx where
 nt:Nat
 tab:List (Nat×Ty)
 G:List (Nat×lY)
 N:Nat
 fn:Func
 args:List AM
 res:List AM
 pcs:List Pc
 lk:Option (Ty×List Step×Ty×List Nat):=none
namespace Fx
variable(X:Fx)
abbrev R:=Option (HP X.res)
def E:Env:={nt:=X.nt,ty:=λi=>MU i X.tab,Γ:=Bp X.G,N:=X.N,vT:=λr=>MV X.pcs (2*r+1),xS:=λr=>MV X.pcs (2*r),io:=Ff X.args 0,lk:=X.lk}
@[reducible] def c(i:Nat):List (Nat×CM):=(Wq X.pcs i).c
def path(i:Nat):List Nat:=(Wq X.pcs i).path
def odd(i:Nat):Bool:=Nat.beq (i%2) 1
def cut(ρ:Nat→St→X.R)(l:Nat):St→X.R:=fun σ=>vX (some (X.c l)) σ (ρ l)
def ks(ρ:Nat→St→X.R)(i:Nat):List (St→X.R):=(Wq X.pcs i).ks.map (X.cut ρ)
def lp(ρ:Nat→St→X.R)(i n:Nat):St→X.R:=lpF X.E X.fn X.args X.res (X.c i) (X.path i) (X.ks ρ i) n
def cf(ρ:Nat→St→X.R)(i:Nat):St→X.R:=cond (odd i) (X.lp ρ i X.N) (atF X.E X.fn X.args X.res (X.path i) (X.ks ρ i))
def own(ρ:Nat→St→X.R)(i:Nat):List (St→X.R):=X.ks ρ i++cond (odd i) [X.cut ρ i] []
def PV(K ρ:Nat→St→X.R)(i:Nat):St→X.R:=atQ X.E X.fn X.args X.res (λr=>K (2*r)) (λr=>K (2*r+1)) (X.path i) (X.own ρ i)
def tl(K ρ:Nat→St→X.R)(i:Nat):List ((St→X.R)×(St→X.R)):=wx X.E (λr=>K (2*r)) (λr=>K (2*r+1)) (ZZ X.E X.fn X.args X.res (X.path i) (X.own ρ i))
@[reducible] def cu(i:Nat)(κ:St→X.R):Vl (X.c i) X.R:=amu κ (X.c i) S0
@[reducible] def bd(K ρ:Nat→St→X.R)(i:Nat):Vl (X.c i) X.R:=X.cu i (X.PV K ρ i)
@[reducible] def kc(ρ:Nat→St→X.R)(i:Nat):Vl (X.c i) X.R:=X.cu i (ρ i)
def Cw:Nat→St→X.R:=λ_ _=>none
def top(K:Nat→St→X.R):yO X.args X.R:=TE X.args λx=>atQ X.E X.fn X.args X.res (λr=>K (2*r)) (λr=>K (2*r+1)) [] [] (entry X.args x 0 S0)
def tlT(K:Nat→St→X.R):List ((St→X.R)×(St→X.R)):=wx X.E (λr=>K (2*r)) (λr=>K (2*r+1)) (ZZ X.E X.fn X.args X.res [] [])
def S(q:Bool)(g:yO X.args X.R):lY:={args:=X.args,res:=X.res,quiet:=q,run:=Kb X.args g}
variable{X}
theorem Z0(f:Nat→St→X.R): ∀rQ:List Nat,TC (rQ.map λt=>(f t,f t))
 |[]=>trivial
 |_::r=>⟨rfl,Z0 f r⟩
theorem okJ{i:Nat}(rQ:List Nat)(hi:odd i=false)(hr: ∀K ρ,X.tl K ρ i=rQ.map λt=>(K t,X.cf ρ t)){g:(Nat→St→X.R)→(Nat→St→X.R)→Vl (X.c i) X.R}(h: ∀K ρ,X.bd K ρ i=g K ρ)(ρ:Nat→St→X.R):X.kc (X.cf ρ) i=g (X.cf ρ) ρ:=by
 rw[←h]
 have:X.cf ρ i=X.PV (X.cf ρ) ρ i:=by
  funext σ
  have h1:=hr (X.cf ρ) ρ
  unfold tl own at h1
  rw[hi,av,ch]at h1
  unfold PV own
  rw[hi,av,ch]
  rw[←at_eq X.E X.fn X.args X.res h1 (Z0 (X.cf ρ) rQ) σ]
  unfold cf;rw[hi];rfl
 unfold kc bd
 rw[this]
def okb(X:Fx)(i:Nat):Bool:=odd i&&(Wq X.pcs i).ks.all λl=> !(Nat.beq l i)
theorem okL{i:Nat}(rQ:List Nat)(hi:okb X i=true)(hr: ∀K ρ,X.tl K ρ i=rQ.map λt=>(K t,X.cf ρ t)){g:(Nat→St→X.R)→(Nat→St→X.R)→Vl (X.c i) X.R}(h: ∀K ρ,X.bd K ρ i=g K ρ)(ρ:Nat→St→X.R)
  (G:Nat→Vl (X.c i) X.R) (h0:X.cu i (λ_=>none)=G 0) (hs: ∀n ρ',X.kc ρ' i=G n→(∀l,Nat.beq l i=false→X.kc ρ' l=X.kc ρ l)→g (X.cf ρ') ρ'=G (n+1)):X.kc (X.cf ρ) i=G X.N:=by
 unfold okb at hi
 rw[bR]at hi
 obtain⟨hi,hk⟩:=hi
 have key: ∀n,X.cu i (X.lp ρ i n)=G n:=by
  intro n
  induction n with
  |zero=>exact h0
  |succ n ih=>
   let ρ':Nat→St→X.R:=λl=>cond (Nat.beq l i) (X.lp ρ i n) (ρ l)
   have e1:ρ' i=X.lp ρ i n:=by show cond (Nat.beq i i) _ _=_;rw[tc];rfl
   have e2: ∀l,Nat.beq l i=false→ρ' l=ρ l:=λl hl=>by show cond (Nat.beq l i) _ _=_;rw[hl];rfl
   rw[←hs n ρ' (by unfold kc;rw[e1];exact ih) (λl hl=>by unfold kc;rw[e2 l hl]),←h]
   have e3:X.ks ρ' i=X.ks ρ i:=by
    unfold ks
    refine qz λl hl=> ?_
    have:=qD.1 hk l hl
    unfold cut
    rw[e2 l (by simpa using this)]
   have:X.lp ρ i (n+1)=X.PV (X.cf ρ') ρ' i:=by
    funext σ
    have h1:=hr (X.cf ρ') ρ'
    unfold tl own at h1
    rw[hi,ak]at h1
    unfold PV own
    rw[hi,ak]
    rw[←at_eq X.E X.fn X.args X.res h1 (Z0 (X.cf ρ') rQ) σ]
    unfold lp
    rw[Wm,e3]
    unfold cut
    rw[e1];rfl
   unfold bd
   rw[this]
 have:X.cf ρ i=X.lp ρ i X.N:=by unfold cf;rw[hi];rfl
 unfold kc
 rw[this];exact key _
def Kd(P:Program):List (Nat×lY)→Prop
 |[]=>True
 |q::r=>iD P q.1 q.2∧Kd P r
structure _root_.VM.Kn(P:Program) where
 f:Nat
 S:lY
 ok:iD P f S
def _root_.VM.Kn.p{P:Program}(k:Kn P):Nat×lY:=(k.f,k.S)
def _root_.VM.Kn.l{P:Program}:List (Kn P)→List (Nat×lY)
 |[]=>[]
 |k::r=>k.p::Kn.l r
theorem _root_.VM.Kn.all{P:Program}: ∀l:List (Kn P),Kd P (Kn.l l)
 |[]=>trivial
 |k::r=>⟨k.ok,Kn.all r⟩
theorem Bq{P:Program}: ∀{l:List (Nat×lY)},Kd P l→ ∀f S,S∈Bp l f→iD P f S
 |[],_,f,S,h=>by simp[Bp]at h
 |q::r,ha,f,S,h=>by
  unfold Bp at h
  cases hb:Nat.beq f q.1<;>rw[hb]at h
  ·exact Bq ha.2 f S h
  ·rcases aW.1 h with rfl|h
   ·rw[fV hb];exact ha.1
   ·exact Bq ha.2 f S h
theorem Fg: ∀{l:List Pc},(l.all λp=>kd p.c)=true→ ∀i L,MV l i=some L→kd L=true
 |q::r,ha,i,L,h=>by
  rw[Ez,bR]at ha
  unfold MV at h
  cases hb:Nat.beq i q.k<;>rw[hb]at h
  ·exact Fg ha.2 i L h
  ·cases h;exact ha.1
def chk(X:Fx)(q:Bool):Bool:=(X.pcs.all λp=>kd p.c)&&((!(X.fn.name== "runtime.NumGoroutine")&&Nat.beq X.nt X.fn.ntmps)&&(X.fn.body.isSome&&(Nat.ble X.args.length X.nt&&((!q||X.res.all AM.flat)&&decide (nf X.args=nf X.res)))))
theorem MW: ∀{ms:List AM} {k i:Nat} {m:AM},ms[i]? =some m→m.iC=true→k+i∈Ff ms k
 |[],_,_,_,h,_=>by simp at h
 |m::ms,k,0,m',h,vd=>by
  simp only[LS,iv]at h
  subst h
  cases m<;>simp[AM.iC]at vd<;>simp[Ff]
 |m::ms,k,i+1,m',h,vd=>by
  have:=MW (ms:=ms) (k:=k+1) (i:=i) (by simpa using h) vd
  rw[show k+(i+1)=k+1+i from by omega]
  cases m<;>simp only[Ff]<;>first|exact aZ _ this|exact this
theorem RQ: ∀{ms:List AM} {k i:Nat},i∈Ff ms k→i<k+ms.length
 |[],_,_,h=>by simp[Ff]at h
 |m::ms,k,i,h=>by
  have hr:i∈Ff ms (k+1)→i<k+(m::ms).length:=λh=>by have:=RQ h;simp only[aR];omega
  cases m<;>simp only[Ff]at h<;>first
   |exact hr h
   |(rcases aW.1 h with rfl|h<;>first|exact hr h|(simp only[aR];omega))
variable(X)in
theorem RS{P:Program}(ht:Fe P X.tab)(hG:Kd P X.G)(hc:(X.pcs.all λp=>kd p.c)=true):tv P X.E:=by
 have lq: ∀t τ,MU t X.tab=some τ→tz P τ (.inl t)=true∧ZX P τ t=true:=λt τ h=>by
  have:=qD.1 ht.ok _ (Iq h)
  simpa using this
 exact{ty:=λt τ h=>gV (lq t τ h).1,eq:=λt τ h hc ha=>ZY (gV (lq t τ h).1) (lq t τ h).2 hc ha,al7:=Bq hG,mixed:=ht.mixed,kd:=λi L h=>Fg hc _ L h,VW:=λi L h=>Fg hc _ L h}
theorem mkS{P:Program}(ht:Fe P X.tab){f:FuncId}(hf:P.funcs[f]? =some X.fn){q:Bool}(hc:chk X q=true)(hG:Kd P X.G){g:yO X.args X.R}(h: ∀x,PK X.E X.fn X.args X.res x=Kb X.args g x):iD P f (X.S q g):=by
 unfold chk at hc
 simp only[bR]at hc
 obtain⟨h0,⟨h1,h2⟩,h3,h4,h5,h6⟩:=hc
 refine We (RS X ht hG h0) hf (by simpa using h1) (fV h2) (X.S q g) (λi m hm vd=> ?_) (λi hi=> ?_) ?_ (λhq=> ?_) (bx h6) h
 ·have:=MW (k:=0) hm vd
  rwa [gi]at this
 ·have:=RQ (k:=0) hi
  rwa [gi]at this
 ·have:=Ek h4
  rwa [fV h2]at this
 ·have hq:q=true:=hq
  subst hq
  show X.res.all AM.flat=true
  simpa using h5
theorem Z1{g:yO X.args X.R}(h:TE X.args (PK X.E X.fn X.args X.res)=g)(x:HP X.args):PK X.E X.fn X.args X.res x=Kb X.args g x:=by rw[←h,Kc]
variable(X)in
theorem ok0{P:Program}(ht:Fe P X.tab){f:FuncId}(hf:P.funcs[f]? =some X.fn){q:Bool}(hc:chk X q=true)(hG:Kd P X.G){g:yO X.args X.R}(h:TE X.args (PK X.E X.fn X.args X.res)=g):iD P f (X.S q g):=
 mkS ht hf hc hG (Z1 h)
theorem arS(hb:X.fn.body.isSome=true)(rQ:List Nat)(hr: ∀K,X.tlT K=rQ.map λt=>(K t,X.cf X.Cw t))
  {g:(Nat→St→X.R)→yO X.args X.R} (h: ∀K,X.top K=g K) {f:yO X.args X.R} (hf:g (X.cf X.Cw)=f) (x:HP X.args):PK X.E X.fn X.args X.res x=Kb X.args f x:=by
 rw[←hf,←h,ahP hb]
 unfold top
 rw[Kc]
 exact at_eq X.E X.fn X.args X.res (hr (X.cf X.Cw)) (Z0 (X.cf X.Cw) rQ) _
variable(X)in
theorem ok1{P:Program}(ht:Fe P X.tab){f:FuncId}(hf:P.funcs[f]? =some X.fn){q:Bool}(hc:chk X q=true)(hG:Kd P X.G)(rQ:List Nat)(hr: ∀K,X.tlT K=rQ.map λt=>(K t,X.cf X.Cw t))
  {g:(Nat→St→X.R)→yO X.args X.R} (h: ∀K,X.top K=g K) {f':yO X.args X.R} (Bb:g (X.cf X.Cw)=f'):iD P f (X.S q f'):=by
 have hb:X.fn.body.isSome=true:=by
  unfold chk at hc
  simp only[bR]at hc
  exact hc.2.2.1
 exact mkS ht hf hc hG (arS hb rQ hr h Bb)
theorem uJ{i:Nat}(rQ:List Nat){g:(Nat→St→X.R)→(Nat→St→X.R)→Vl (X.c i) X.R}(h: ∀K ρ,X.bd K ρ i=g K ρ)(ρ:Nat→St→X.R){f:Vl (X.c i) X.R}(hf:g (X.cf ρ) ρ=f:=by rfl)
 (hi:odd i=false:=by kernel_rfl) (hr: ∀K ρ,X.tl K ρ i=rQ.map λt=>(K t,X.cf ρ t):=by intro K ρ;kernel_rfl):X.kc (X.cf ρ) i=f:=(okJ rQ hi hr h ρ).trans hf
theorem uL{i:Nat}(rQ:List Nat){g:(Nat→St→X.R)→(Nat→St→X.R)→Vl (X.c i) X.R}(h: ∀K ρ,X.bd K ρ i=g K ρ)(ρ:Nat→St→X.R)
 (G:Nat→Vl (X.c i) X.R) (hs: ∀n ρ',X.kc ρ' i=G n→(∀l,Nat.beq l i=false→X.kc ρ' l=X.kc ρ l)→g (X.cf ρ') ρ'=G (n+1)) (h0:X.cu i (λ_=>none)=G 0:=by rfl)
 (hi:okb X i=true:=by kernel_rfl) (hr: ∀K ρ,X.tl K ρ i=rQ.map λt=>(K t,X.cf ρ t):=by intro K ρ;kernel_rfl):X.kc (X.cf ρ) i=G X.N:=okL rQ hi hr h ρ G h0 hs
variable(X)in
theorem u0{P:Program}(ht:Fe P X.tab){f:FuncId}(hf:P.funcs[f]? =some X.fn){q:Bool}{g:yO X.args X.R}(hG:Kd P X.G:=by first|exact trivial|exact Kn.all _)(hc:chk X q=true:=by kernel_rfl)(h:TE X.args (PK X.E X.fn X.args X.res)=g:=by kernel_rfl):iD P f (X.S q g):=ok0 X ht hf hc hG h
variable(X)in
theorem u1{P:Program}(ht:Fe P X.tab){f:FuncId}(hf:P.funcs[f]? =some X.fn)(rQ:List Nat)
 {g:(Nat→St→X.R)→yO X.args X.R} (h: ∀K,X.top K=g K) {q:Bool} {f':yO X.args X.R} (Bb:g (X.cf X.Cw)=f':=by rfl) (hG:Kd P X.G:=by first|exact trivial|exact Kn.all _) (hc:chk X q=true:=by kernel_rfl) (hr: ∀K,X.tlT K=rQ.map λt=>(K t,X.cf X.Cw t):=by intro K;kernel_rfl):iD P f (X.S q f'):=ok1 X ht hf hc hG rQ hr h Bb
end Fx
end VM
end
section
namespace VM
open Go
variable{P:Program}
theorem Left.same(w:World)(M0:Nat→Prop)(h: ∀b,M0 b→b<w.heap.size):Left w M0 [] w M0:=
 ⟨λ_ h=>h,h,λ_ _ h=> .inl h,λ_ _ _=>rfl,aG _,rfl,rfl,rfl⟩
theorem amv{w:World}{M:Nat→Prop}{a b c:IntKind}{x:HP [.v (.int a),.v (.int b),.v (.int c)]}{vs:List Value}(h:jI w M [.v (.int a),.v (.int b),.v (.int c)] x vs):vs=[.int a x.1,.int b x.2.1,.int c x.2.2]:=by
 simp only[jI,A1,V,Ty.isAgg,iW,eT,Rd,fh,eS]at h
 obtain⟨v,vs,rfl,rfl,v,vs,rfl,rfl,v,vs,rfl,rfl,rfl⟩:=h
 rfl
theorem rr2{w:World}{M:Nat→Prop}{a b:IntKind}(x y:Int):RR w M [.v (.int a),.v (.int b)] (x,y) [.int a x,.int b y] []:=by
 simp only[RR]
 refine .inr ⟨_,_,rfl,rfl,rfl,?_,.inr ⟨_,_,rfl,rfl,rfl,?_,rfl,trivial⟩⟩<;>simp[A1,V,Ty.isAgg,Rd,s0,xZ]
theorem RT{f:FuncId}(run:Int×Int×Int→Option (Int×Int))
  (h: ∀(w:World) (a b c u v:Int),run (a,b,c)=some (u,v)→(callFunc f #[.int .u64 a,.int .u64 b,.int .u64 c]).run P w= .ok (.value (.tuple #[.int .u64 u,.int .u64 v])) w):
  iD P f {args:=[.v (.int .u64),.v (.int .u64),.v (.int .u64)],res:=[.v (.int .u64),.v (.int .u64)],quiet:=true,run}:=by
 refine⟨λ_=>rfl,rfl,λM0 w vs x y rP hA _ _ hy=> ?_⟩
 have Zv:=amv hA
 subst Zv
 exact Hr (h w x.1 x.2.1 x.2.2 y.1 y.2 hy) ⟨_,M0,rfl,rr2 y.1 y.2,Left.same w M0 rP,List.nodup_nil,λb hb=>by cases hb⟩
theorem Br(nm:String)(a b c:Nat)(h:c≤1)(w:World):(Extern.MathBitsCarry.three nm #[.int .u64 a,.int .u64 b,.int .u64 c]).run P w= .ok (a,b,c) w:=by
 have h5: ¬(1<c):=ω
 have:Extern.MathBitsCarry.three nm #[.int .u64 a,.int .u64 b,.int .u64 c]=(do
  let c:=(←asInt (.int .u64 c)).toNat
  if c>1 then unsupported (.noEntry ("extern/math/bits." ++nm++ ": a carry that is neither 0 nor 1"))
  pure ((←asInt (.int .u64 a)).toNat,(←asInt (.int .u64 b)).toNat,c)):=rfl
 rw[this]
 simp[asInt,asIntOf]
 omega
theorem TF{f:FuncId}{fn:Func}(N:Nat)(hf:P.funcs[f]? =some fn)(z7:(fn.name== "runtime.NumGoroutine")=false)(hb:fn.body.isNone=true)(hn:Extern.findNext fn=none)
  (he:Extern.find fn=(Extern.MathBitsCarry.rows[0]?).map (·.2)):iD P f (yl.S N):=by
 refine RT (λx=>yl N x.1 x.2.1 x.2.2) λw a b c u v hy=> ?_
 simp only[yl]at hy
 split at hy
 ·rename_i hc
  obtain⟨h1,h2,h3,h4⟩:=hc
  obtain⟨a,rfl⟩:=tW h1
  obtain⟨b,rfl⟩:=tW h2
  obtain⟨c,rfl⟩:=tW h3
  cases hy
  rw[run_callFunc_extern hf z7 hb hn he]
  simp[Br _ a b c ω,Extern.MathBitsCarry.pair,Extern.MathBitsCarry.m64]
 ·cases hy
theorem TG{f:FuncId}{fn:Func}(N:Nat)(hf:P.funcs[f]? =some fn)(z7:(fn.name== "runtime.NumGoroutine")=false)(hb:fn.body.isNone=true)(hn:Extern.findNext fn=none)
  (he:Extern.find fn=(Extern.MathBitsCarry.rows[1]?).map (·.2)):iD P f (u7.S N):=by
 refine RT (λx=>u7 N x.1 x.2.1 x.2.2) λw a b c u v hy=> ?_
 simp only[u7]at hy
 split at hy
 ·rename_i hc
  obtain⟨h1,pA,h2,yr,h3,h4⟩:=hc
  obtain⟨a,rfl⟩:=tW h1
  obtain⟨b,rfl⟩:=tW h2
  obtain⟨c,rfl⟩:=tW h3
  cases hy
  rw[run_callFunc_extern hf z7 hb hn he]
  have e1:((a+18446744073709551616-b-c:Nat):Int)=(a:Int)+18446744073709551616-b-c:=ω
  by_cases h:a<b+c
  ·have h':(a:Int)<(b:Int)+(c:Int):=ω
   simp[Br _ a b c ω,Extern.MathBitsCarry.pair,Extern.MathBitsCarry.m64,e1,h,h']
  ·have h': ¬(a:Int)<(b:Int)+(c:Int):=ω
   simp[Br _ a b c ω,Extern.MathBitsCarry.pair,Extern.MathBitsCarry.m64,e1,h,h']
 ·cases hy
end VM
end
section
namespace VM
open Go Go.Shelf Go.RowKit Go.Lib Go.Proofs
variable{P:Program}{ρ:Ren}
def Wr(ρ:Ren)(fn:Func):Func:={fn with body:=(Body2.n22 ρ).body,ntmps:=95,results:=(Body2.n22 ρ).results,nfree:=0}
theorem wy(ρ:Ren)(fn:Func):(Wr ρ fn).ntmps=95:=rfl
structure TH(P:Program)(e:Ty)(ρ:Ren)(f:FuncId)(fn fo:Func):Prop where
 hf:P.funcs[f]? =some (Wr ρ fn)
 t3:P.underlying (ρ.t 3)=some (.int .i64)
 t4:P.underlying (ρ.t 4)=some .bool
 t24:P.underlying (ρ.t 24)=some (.slice (ρ.t 9))
 lay:kI P e (ρ.t 9)
 pR:0<e.size
 mixed:P.follows .mixedOrders=true
set_option maxHeartbeats 4000000 in
set_option maxRecDepth 100000 in
theorem Ke{e:Ty}{f:FuncId}{fn fo:Func}(L:TH P e ρ f fn fo)(w:World)(base:Option Addr)(n c m vc:Nat)(va:Addr)(v':Value)(w':World)(hm:0<m)(hn:n≤c)
  (MD: ∀ty,(Builtin.append_ #[ρ.t 24,ρ.t 24] ty #[.slice base n c,.slice (some va) m vc]).run P w= .ok v' w'):
   Calls P f #[.slice base n c,.int .i64 n,.slice (some va) m vc] w λr w2=>r= .returned v'∧w2=w':=by
 have u3:=run_underlying L.t3;have u4:=run_underlying L.t4;have u24:=run_underlying L.t24
 have t3:=L.t3;have t4:=L.t4;have t24:=L.t24
 have z9:=λw=>df L.lay w
 have mixed:=L.mixed
 have Cj: ¬((m:Int)=0):=ω
 go_enter L.hf,wy ρ fn
 cases base with
 |none=>
   go_wp2_with (at_builtin;refine Lib.wpList_append_run _ rfl _ _ _ _ rfl _ _ rfl rfl _ _ (MD _) ?_)
   all_goals (go_ret;exact⟨rfl,rfl⟩)
 |some a=>
   obtain⟨ab,ao,asp⟩:=a
   go_wp2_with (at_builtin;refine Lib.wpList_append_run _ rfl _ _ _ _ rfl _ _ rfl rfl _ _ (MD _) ?_)
   all_goals (go_ret;exact⟨rfl,rfl⟩)
theorem run_copy_row{t te e:TypeId}{k:Nat}(ht:P.underlying t=some (.slice e))(hk: ∀w,(Go.sizeOf e).run P w= .ok k w){W:World}{b o amw arT ahR amx n:Nat}{a:Addr}{cs:Array Value}(hg:W.heap[b]? =some (.cells cs te (0,0)))
  {news:List Value} (hnn:Nat.min ahR amw=n) (hl:news.length=n*k) (hn: ∀j u,news[j]? =some u→W.cell? (a.add j)=some u) (h1: ∀u∈news,u.oneCell'=true) (Mv:o+news.length≤cs.size) (ty:TypeId):
  (Builtin.copy_ #[t,t] ty #[.slice (some ⟨b,o,none⟩) amw arT,.slice (some a) ahR amx]).run P W= .ok (goInt n) (W.setRow b (fb cs.toList o news).toArray):=by
 have hf:=run_firstCells_some (P:=P) W k n a ahR amx news hl hn
 have GZ:=run_storeCells_at (P:=P) b o te news 0 cs W hg ω h1
 simp only[m3]at GZ
 simp[Builtin.copy_,run_underlying ht,hk,Builtin.lenOf,hnn,hf,GZ,fb]
set_option maxHeartbeats 4000000 in
set_option maxRecDepth 100000 in
theorem TI{e:Ty}{f:FuncId}{fn fo:Func}(L:TH P e ρ f fn fo)(w:World)(b n c i m vc:Nat)(va:Addr)(Kf Ws:Array Value)(hi:i<n)(hm:0<m)(hr:n+m≤c)(arU:c≤9223372036854775807)
  (hov: ∀x lb cb,(callFunc (ρ.f 29) #[.slice (some va) m vc,.slice (some ⟨b,x,none⟩) lb cb]).run P w= .ok (.value (.bool false)) w)
  (Z2: ∀ty dc sc,(Builtin.copy_ #[(ρ.t 24),(ρ.t 24)] ty #[.slice (some ⟨b,(i+m)*e.size,none⟩) (n+m-(i+m)) dc,.slice (some ⟨b,i*e.size,none⟩) (n+m-i) sc]).run P w.drew= .ok (goInt ((n-i:Nat):Int)) (w.drew.setRow b Kf))
  (Z3: ∀W:World,W.heap=(w.setRow b Kf).heap→ ∀ty dc,(Builtin.copy_ #[(ρ.t 24),(ρ.t 24)] ty #[.slice (some ⟨b,i*e.size,none⟩) (n+m-i) dc,.slice (some va) m vc]).run P W= .ok (goInt m) (W.setRow b Ws)):
   Calls P f #[.slice (some ⟨b,0,none⟩) n c,.int .i64 i,.slice (some va) m vc] w λr w2=>r= .returned (.slice (some ⟨b,0,none⟩) (n+m) c)∧w2=(w.drew.setRow b Kf).setRow b Ws:=by
 have u3:=run_underlying L.t3;have u4:=run_underlying L.t4;have u24:=run_underlying L.t24
 have t3:=L.t3;have t4:=L.t4;have t24:=L.t24
 have z9:=λw=>df L.lay w
 have mixed:=L.mixed
 have Cj: ¬((m:Int)=0):=ω
 have G7: ¬((i:Int)=(n:Int)):=ω
 have hw1:IntKind.i64.wrap ((i:Int)+(m:Int))=(i:Int)+(m:Int):=by rw[IntKind.wrap_i64];omega
 have my:(0:Int)≤(i:Int)+(m:Int):=ω
 have lU:i≤n:=ω
 have Tw:((i:Int)+(m:Int)).toNat=i+m:=ω
 have tS: ¬(c=i+m):=ω
 have hb3:(i:Int)≤(n:Int)+(m:Int):=ω
 have hb4: ¬(c=i):=ω
 go_enter L.hf,wy ρ fn
 go_wp2_with (simp only[hov])
 go_region_law_o (refine step_copy_runI rfl _ _ (ρ.t 24) (ρ.t 24) rfl _ _ (by simp[Act.eval,Act.put]) (by simp[Act.eval,Act.put]) (Z2 _ _ _) ?_)
 have h2:=Z3 (w.drew.setRow b Kf) rfl
 go_wp2
 go_ret
 exact⟨rfl,rfl⟩
set_option maxHeartbeats 4000000 in
set_option maxRecDepth 100000 in
theorem Wt{e:Ty}{f:FuncId}{fn fo:Func}(L:TH P e ρ f fn fo)(w:World)(b n c i m vc nb G:Nat)(va:Addr)(TJ Kf Ws:Array Value)(hi:i<n)(hm:0<m)(hnc:n≤c)(hr:c<n+m)(arU:c≤9223372036854775807)(h63:n+m≤9223372036854775807)(hG:n+m≤G)(ay1:G≤9223372036854775807)
  (MD: ∀ty,(Builtin.append_ #[(ρ.t 24),(ρ.t 3)] ty #[.slice (some ⟨b,0,none⟩) i c,.int .i64 ((n:Int)+(m:Int)-(i:Int))]).run P w= .ok (.slice (some ⟨w.heap.size,0,none⟩) (n+m) G) (w.drew.alloc (.cells TJ (ρ.t 9))))
  (Z2: ∀W:World,W.heap=(w.alloc (.cells TJ (ρ.t 9))).heap→ ∀ty dc,(Builtin.copy_ #[(ρ.t 24),(ρ.t 24)] ty #[.slice (some ⟨w.heap.size,i*e.size,none⟩) (n+m-i) dc,.slice (some va) m vc]).run P W= .ok (goInt m) (W.setRow w.heap.size Kf))
  (Z3: ∀W:World,W.heap=((w.alloc (.cells TJ (ρ.t 9))).setRow w.heap.size Kf).heap→ ∀ty dc sc,(Builtin.copy_ #[(ρ.t 24),(ρ.t 24)] ty #[.slice (some ⟨w.heap.size,(i+m)*e.size,none⟩) (n+m-(i+m)) dc,.slice (some ⟨b,i*e.size,none⟩) (n-i) sc]).run P W= .ok (goInt ((n-i:Nat):Int)) (W.setRow w.heap.size Ws)):
   Calls P f #[.slice (some ⟨b,0,none⟩) n c,.int .i64 i,.slice (some va) m vc] w λr w2=>r= .returned (.slice (some ⟨w.heap.size,0,none⟩) (n+m) G)∧w2=((w.drew.alloc (.cells TJ (ρ.t 9))).setRow w.heap.size Kf).drew.setRow w.heap.size Ws:=by
 have u3:=run_underlying L.t3;have u4:=run_underlying L.t4;have u24:=run_underlying L.t24
 have t3:=L.t3;have t4:=L.t4;have t24:=L.t24
 have z9:=λw=>df L.lay w
 have mixed:=L.mixed
 have Cj: ¬((m:Int)=0):=ω
 have G7: ¬((i:Int)=(n:Int)):=ω
 have hz3:(c:Int)<(n:Int)+(m:Int):=ω
 have hw1:IntKind.i64.wrap ((i:Int)+(m:Int))=(i:Int)+(m:Int):=by rw[IntKind.wrap_i64];omega
 have my:(0:Int)≤(i:Int)+(m:Int):=ω
 have lU:i≤n:=ω
 have Tw:((i:Int)+(m:Int)).toNat=i+m:=ω
 have hGi: ¬(G=i):=ω
 have ay2: ¬(G=i+m):=ω
 have hci: ¬(c=i):=ω
 have hb3:(i:Int)≤(n:Int):=ω
 have h1:=Z2 ((w.alloc (.cells TJ (ρ.t 9))).drew) rfl
 have h2:=Z3 (((w.alloc (.cells TJ (ρ.t 9))).drew.setRow w.heap.size Kf).drew) rfl
 go_enter L.hf,wy ρ fn
 go_wp2_with (first
   |(at_builtin;refine Lib.wpList_append_run _ rfl _ _ _ _ rfl _ _ rfl rfl _ _ (MD _) ?_)
   |(at_builtin;refine wpList_copy_runI _ rfl _ _ (ρ.t 24) (ρ.t 24) rfl _ _ rfl rfl (Z2 _ (by exact rfl) _ _) ?_)
   |(at_builtin;refine wpList_copy_runI _ rfl _ _ (ρ.t 24) (ρ.t 24) rfl _ _ rfl rfl (Z3 _ (by exact rfl) _ _ _) ?_))
 go_region_law_o (refine step_copy_runI rfl _ _ (ρ.t 24) (ρ.t 24) rfl _ _ (by simp[Act.eval,Act.put]) (by simp[Act.eval,Act.put]) (h2 _ _ _) ?_)
 go_wp2
 go_ret
 exact⟨rfl,rfl⟩
theorem DT{α:Type}(A Z news:List α):fb (A++Z) A.length news=A++(news++Z.drop news.length):=by
 unfold fb
 rw[vK rfl,br,←jH,m0 rfl]
theorem qS.amz{w:World}{M:Nat→Prop}{e:Ty}{cs:List Value}{l:List e.den}(h:qS w M e cs l)(i:Nat):qS w M e (cs.take (i*e.size)) (l.take i):=by
 intro j hj
 rw[cc]at hj
 have:=ew (s:=e.size) (show j<i by omega)
 rw[qE,qF,iw ω,Er]
 exact h j ω
theorem qS.amA{w:World}{M:Nat→Prop}{e:Ty}{cs:List Value}{l:List e.den}(h:qS w M e cs l)(i:Nat):qS w M e ((cs.drop (i*e.size)).take ((l.length-i)*e.size)) (l.drop i):=by
 intro j hj
 rw[dV]at hj
 have:=ew (s:=e.size) hj
 rw[qE,qF,iw ω,jH,Ep,←eu]
 exact h (i+j) ω
theorem xv{w w':World}{M0:Nat→Prop}{hs:List Nat}{e:Ty}{rb cap:Nat}{row:Array Value}{t:TypeId}{l:List e.den}(rP: ∀b,M0 b→b<w.heap.size)(wu: ∀b∈hs,¬M0 b)
  (VU: ∀b,b<w.heap.size→b∉hs→w'.heap[b]? =w.heap[b]?) (sZ:w.heap.size≤w'.heap.size) (hrb:rb<w.heap.size→rb∈hs) (hos:w'.os=w.os) (htp:w'.tape=w.tape) (P8:w'.output=w.output)
  (P9:w'.heap[rb]? =some (.cells row t (0,0))) (h0:0<cap) (hl:l.length≤cap) (hm:cap≤maxLen) (hrs:row.size=cap*e.size) (kV:qS w (λb=>M0 b∨b∈hs) e row.toList l):
  ∃us M',Value.slice (some ⟨rb,0,none⟩) l.length cap=wj us∧RR w' M' [.own e] l us []∧Left w M0 hs w' M'∧(bG [.own e] us []).Nodup∧ ∀b∈bG [.own e] us [],¬M0 b:=by
 have H6:rb<w'.heap.size:=(kF.1 P9).1
 have hk:e8 w (λb=>M0 b∨b∈hs) w' (λb=>M0 b∨b=rb):=⟨sZ,λb hb hn=>VU b hb (λh=>hn (.inr h)),λb hb h=>h.elim .inl (λe=> .inr (e▸hrb (e▸hb)))⟩
 have wa:bG [.own e] [Value.slice (some ⟨rb,0,none⟩) l.length cap] []=[rb]:=by
  have:cap≠0:=ω
  simp[bG,da,AM.iC,fK,this]
 refine⟨[.slice (some ⟨rb,0,none⟩) l.length cap],λb=>M0 b∨b=rb,rfl,?_,?_,?_,?_⟩
 ·simp only[RR]
  refine .inr ⟨_,[],rfl,rfl,rfl,?_,rfl,trivial⟩
  simp only[A1,ER,s0]
  exact .inr ⟨rb,row,t,cap,rfl,P9,.inr rfl,h0,hl,hm,hrs,kV.ca hk⟩
 ·exact⟨λb h=> .inl h,λb h=>h.elim (λh=>mW (rP b h) sZ) (λh=>h▸H6),λb hb h=>h.elim .inl (λe=> .inr (e▸hrb (e▸hb))),VU,sZ,hos,htp,P8⟩
 ·rw[wa];simp
 ·rw[wa]
  intro b hb h
  rw[bW]at hb
  subst hb
  exact wu b (hrb (rP b h)) h
theorem setRow_other(w:World){b c:Nat}(r:Array Value)(h:c≠b):(w.setRow b r).heap[c]? =w.heap[c]? :=by
 unfold World.setRow
 rw[Array.getElem?_modify,ah (λe=>h e.symm)]
theorem setRow_size(w:World)(b:Nat)(r:Array Value):(w.setRow b r).heap.size=w.heap.size:=by
 unfold World.setRow;simp
theorem alloc_old(w:World)(o:Obj){c:Nat}(h:c<w.heap.size):(w.alloc o).heap[c]? =w.heap[c]? :=by
 show(w.heap.push o)[c]? =_
 rw[Array.getElem?_push,ah ω]
theorem qm(w:World)(o:Obj):(w.alloc o).heap[w.heap.size]? =some o:=by
 show(w.heap.push o)[w.heap.size]? =_
 simp
theorem oc(w:World)(o:Obj):(w.alloc o).heap.size=w.heap.size+1:=by
 show(w.heap.push o).size=_
 simp
theorem uq{w:World}{b:Nat}{cs:Array Value}{t:TypeId}{f:Nat×Nat}(h:w.heap[b]? =some (.cells cs t f))(o n:Nat): ∀j u,((cs.toList.drop o).take n)[j]? =some u→w.cell? ((⟨b,o,none⟩:Addr).add j)=some u:=by
 intro j u hj
 rw[Addr.add_lit]
 rw[lO]at hj
 split at hj
 ·rw[lP,gR]at hj
  simp only[World.cell?,h]
  simpa using hj
 ·cases hj
theorem RU{w:World}{M:Nat→Prop}{v:Value}{e:Ty}{l:List e.den}(h:ER w M v (.own e l)):(l=[]∧ ∃a,v= .slice a 0 0)∨
 ∃b cs t cap,v= .slice (some ⟨b,0,none⟩) l.length cap∧w.heap[b]? =some (.cells cs t (0,0))∧M b∧0<cap∧l.length≤cap∧cap≤maxLen∧cs.size=cap*e.size∧qS w M e cs.toList l:=h
end VM
end
section
namespace VM
open Go Go.Shelf Go.RowKit Go.Lib Go.Proofs
variable{P:Program}{ρ:Ren}
theorem Fh{w:World}{t e':TypeId}{e:Ty}(hu:P.underlying t=some (.slice e'))(hle:kI P e e'){n m cap cp:Nat}{olds news:List Value}{base:Option Addr}{a':Addr}(VO:base=none→n=0∧cap=0)
  (xY:olds.length=n*e.size) (ho: ∀b,base=some b→ ∀j u,olds[j]? =some u→w.cell? (b.add j)=some u) (Y8:news.length=m*e.size) (hn: ∀j u,news[j]? =some u→w.cell? (a'.add j)=some u)
  (hg:cap<n+m) (hs:n+m<zG):
  ∃nc rest,(∀ty,(Builtin.append_ #[t,t] ty #[.slice base n cap,.slice (some a') m cp]).run P w= .ok (.slice (some ⟨w.heap.size,0,none⟩) (n+m) nc) (w.drew.alloc (.cells (olds++news++rest).toArray e')))∧
   n+m≤nc∧nc≤maxLen∧rest.length=(nc-(n+m))*e.size:=by
 obtain⟨i,hi,sZ,hz,hby⟩:=hle.base
 have hzs:(cK e e.dj).cells.size=e.size:=by rw[←bI,gT,oK]
 have h63:n+m≤maxLen:=by simp only[zG,maxLen]at hs ⊢;omega
 have Mv:(n+m)*i.bytes≤140737488355328:=by
  have:(n+m)*i.bytes≤68719476736*2048:=vN (by simp only[zG]at hs;omega) hby
  omega
 refine⟨grownCap w (n+m) cap e',(Builtin.zeroCells (cK e e.dj).cells (grownCap w (n+m) cap e'-(n+m))).toList,λty=> ?_,grownCap_ge _ _ _ _,grownCap_le_maxLen _ _ _ _ h63,?_⟩
 ·cases base with
  |none=>
   obtain⟨rfl,rfl⟩:=VO rfl
   have ho0:olds=[]:=tT (by rw[xY];simp)
   subst ho0
   have:=run_append_nil (P:=P) w t ty e' i _ hu hi hz a' m cp news (by rw[Y8,sZ]) hn (by simpa using hg) (by simp only[zG]at hs;omega) (by simp at Mv;omega)
   simp only[gi,cJ]
   rw[this]
   congr 2
   apply fi (λz=>Obj.cells z e' (0,0))
   apply jq;simp
  |some b=>
   have:=run_append_grow (P:=P) w t ty e' i _ hu hi hz b n cap olds (by rw[xY,sZ]) (ho b rfl) a' m cp news (by rw[Y8,sZ]) hn hg (by simp only[zG]at hs;omega) (growslice_fits hg Mv)
   rw[this]
   congr 2
   apply fi (λz=>Obj.cells z e' (0,0))
   apply jq;simp
 ·rw[bI,size_zeroCells,hzs]
theorem TK{w:World}{t tn e':TypeId}{e:Ty}(hu:P.underlying t=some (.slice e'))(Tw:P.underlying tn=some (.int .i64))(hle:kI P e e')(ahM:0<e.size){n k cap:Nat}{olds:List Value}{b:Addr}
  (xY:olds.length=n*e.size) (ho: ∀j u,olds[j]? =some u→w.cell? (b.add j)=some u) (hk:0<k) (hg:cap<n+k) (hs:n+k<zG):
  ∃nc rest,(∀ty,(Builtin.append_ #[t,tn] ty #[.slice (some b) n cap,.int .i64 k]).run P w= .ok (.slice (some ⟨w.heap.size,0,none⟩) (n+k) nc) (w.drew.alloc (.cells (olds++rest).toArray e')))∧
   n+k≤nc∧nc≤maxLen∧rest.length=(nc-n)*e.size:=by
 obtain⟨i,hi,sZ,hz,hby⟩:=hle.base
 have hzs:(cK e e.dj).cells.size=e.size:=by rw[←bI,gT,oK]
 have h63:n+k≤maxLen:=by simp only[zG,maxLen]at hs ⊢;omega
 have Mv:(n+k)*i.bytes≤140737488355328:=by
  have:(n+k)*i.bytes≤68719476736*2048:=vN (by simp only[zG]at hs;omega) hby
  omega
 have hkb:k*i.bytes≤281474976710656:=by
  have:k*i.bytes≤(n+k)*i.bytes:=lL _ ω
  omega
 have Zc:=grownCap_ge w (n+k) cap e'
 refine⟨grownCap w (n+k) cap e',(Builtin.zeroCells (cK e e.dj).cells k++Builtin.zeroCells (cK e e.dj).cells (grownCap w (n+k) cap e'-(n+k))).toList,λty=> ?_,Zc,grownCap_le_maxLen _ _ _ _ h63,?_⟩
 ·have hold:(Builtin.firstCells i.size n (.slice (some b) n cap)).run P w.drew= .ok olds.toArray w.drew:=run_firstCells_some w.drew i.size n b n cap olds (by rw[xY,sZ]) (λj u hj=>ho j u hj)
  have:=Lib.run_append_grow_zeros w t tn ty e' i _ .i64 .i64 hu Tw hi hz (some b) n cap olds hold k hk (by rw[sZ];exact ahM) hg (by simp only[zG]at hs;omega) hkb (growslice_fits hg Mv)
  rw[this]
  congr 2
  apply fi (λz=>Obj.cells z e' (0,0))
  apply jq;simp
 ·rw[Array.toList_append,aS,bI,bI,size_zeroCells,size_zeroCells,hzs,←eu]
  congr 1;omega
structure OvP(P:Program)(ρ:Ren)(fo:Func):Prop where
 hf:P.funcs[ρ.f 29]? =some fo
 name:(fo.name== "runtime.NumGoroutine")=false
 body:fo.body.isNone=true
 next:Extern.findNext fo=none
 find:Extern.find fo=some (Extern.SlicesOverlaps.overlaps #[ρ.t 24,ρ.t 24] #[ρ.t 4])
theorem Fi{e:Ty}{f:FuncId}{fn fo:Func}(L:TH P e ρ f fn fo)(O:OvP P ρ fo)(z7:(fn.name== "runtime.NumGoroutine")=false)(Wu:(Body2.n22 ρ).body.isNone=false)(N:Nat):iD P f (lT e N):=by
 refine⟨(λh=>by cases h),rfl,λM0 w vs x y rP hA ya wu hy=> ?_⟩
 obtain⟨l,i,v⟩:=x
 have RN:pY N l i v=some y:=hy
 clear hy
 simp only[lT,jI]at hA
 obtain⟨v0,VV,rfl,h0,v1,vs2,rfl,h1,v2,vs3,rfl,h2,rfl⟩:=hA
 simp only[pY]at RN
 split at RN
 case isFalse=>cases RN
 rename_i hc
 cases RN
 obtain⟨hi0,Hh,P5,Kg⟩:=hc
 obtain⟨i,rfl⟩:=tW hi0
 have amB:i≤l.length:=ω
 simp only[A1,s0,xZ,V,Ty.isAgg,iW,eT,Rd,fh,eS]at h0 h1 h2
 subst h1
 have hk:=L.pR
 replace P5:List.length (α:=e.den) v=1:=P5
 rcases RU h2 with⟨ZU,_⟩|⟨b2,cs2,t2,Ad,Zw,VB,JT,hc2,hl2,ym,TL,yG⟩
 ·rw[ZU]at P5;cases P5
 replace Zw:v2= .slice (some ⟨b2,0,none⟩) 1 Ad:=by rw[Zw];congr 1
 subst Zw
 have Zu:e.size≤cs2.toList.length:=by
  rw[bI (xs:=cs2),TL]
  exact Nat.le_mul_of_pos_left _ hc2
 obtain⟨news,Wv⟩: ∃news,news=cs2.toList.take e.size:=⟨_,rfl⟩
 have H5:news.length=1*e.size:=by rw[Wv,cc,jX];omega
 have hnr:qS w (λb=>M0 b∨b∈dR (lT e N).args [v0,.int .i64 (i:Int),.slice (some ⟨b2,0,none⟩) 1 Ad]) e news v:=by
  rw[Wv];exact yG.take (by rw[P5,jX];exact aG _)
 have hnc: ∀j u,news[j]? =some u→w.cell? ((⟨b2,0,none⟩:Addr).add j)=some u:=by
  have:=uq VB 0 e.size
  rw[cZ]at this
  rw[Wv];exact this
 have Qh: ∀u∈news,u.oneCell'=true:=by
  have:=hnr 0 ω
  rw[Nat.zero_mul,cZ,jG ω]at this
  exact this.oJ
 have tS:fK (.slice (some ⟨b2,0,none⟩) 1 Ad)=some b2:=by simp[fK];omega
 replace Kg:List.length (α:=e.den) l+1<zG:=Kg
 have Ww:(List.take i l++(v++List.drop i l)).length=l.length+1:=by rw[aS,aS,cc,dV,P5];omega
 have hbn:(Wr ρ fn).body.isNone=false:=Wu
 refine sT L.hf z7 hbn ?_
 rcases RU h0 with⟨rfl,ad,rfl⟩|⟨b1,zb,t1,Dl,rfl,PO,hM1,Lq,Qi,tp,Lp,yP⟩
 ·
  have hi:i=0:=by simpa using amB
  subst hi
  obtain⟨nc,rest,dE,TB,jR,H6⟩:=Fh (P:=P) (w:=w) L.t24 L.lay (n:=0) (m:=1) (cap:=0) (cp:=Ad) (olds:=[]) (news:=news) (base:=ad) (a':=⟨b2,0,none⟩) (λ_=>⟨rfl,rfl⟩) (by simp) (λ_ _ j u hj=>by simp at hj) H5 hnc ω (by simp only[zG];omega)
  refine(Ke L w ad 0 0 1 Ad ⟨b2,0,none⟩ _ _ ω (aG _) dE).mono ?_
  rintro e1 w' ⟨rfl,rfl⟩
  refine⟨_,rfl,?_⟩
  simp only[gi]at TB H6
  have hv:v=v++[]:=by simp
  have:=xv (e:=e) (rb:=w.heap.size) (cap:=nc) (l:=v) (t:=ρ.t 9) (w:=w) (w':=w.drew.alloc (.cells ([]++news++rest).toArray (ρ.t 9))) rP wu (λb hb _=>alloc_old w.drew _ hb) (by rw[oc];exact qI _) (λh=>absurd h (EA _)) rfl rfl rfl (qm w.drew _) ω ω jR
   (by simp only[cJ,iX,aS,H5,H6,←eu];congr 1;omega) (by simpa using hnr.more (cs':=rest) (by rw[P5,H5];exact aG _))
  rw[P5]at this
  simpa [lT,fj,AM.iC]using this
 ·have my:fK (.slice (some ⟨b1,0,none⟩) l.length Dl)=some b1:=by simp[fK];omega
  have hh:dR (lT e N).args [.slice (some ⟨b1,0,none⟩) l.length Dl,.int .i64 (i:Int),.slice (some ⟨b2,0,none⟩) 1 Ad]=[b1,b2]:=by simp[lT,dR,da,my,tS]
  rw[hh]at ya wu hnr ⊢
  replace yP:qS w (λb=>M0 b∨b∈[b1,b2]) e zb.toList l:=by rw[←hh];exact yP
  have jB:b1≠b2:=by simpa using ya
  have arZ:b1<w.heap.size:=(kF.1 PO).1
  have alM:b2<w.heap.size:=(kF.1 VB).1
  have sS:l.length*e.size≤zb.toList.length:=by rw[bI (xs:=zb),Lp];exact lL _ Qi
  have hik:i*e.size≤l.length*e.size:=lL _ amB
  obtain⟨A,hAe⟩: ∃A,A=zb.toList.take (i*e.size):=⟨_,rfl⟩
  obtain⟨mid,ahS⟩: ∃mid,mid=(zb.toList.drop (i*e.size)).take ((l.length-i)*e.size):=⟨_,rfl⟩
  have RV:A.length=i*e.size:=by rw[hAe,cc];omega
  have GX:mid.length=(l.length-i)*e.size:=by
   rw[ahS,cc,dV,qJ];omega
  have hAr:=yP.amz i
  have hmr:=yP.amA i
  rw[←hAe]at hAr
  rw[←ahS]at hmr
  have hti:(l.take i).length=i:=by rw[cc];omega
  have RW: ∀rest:List Value,qS w (λb=>M0 b∨b∈[b1,b2]) e (A++(news++(mid++rest))) (l.take i++(v++l.drop i)):=λrest=>
   hAr.append (by rw[RV,hti]) (hnr.append (by rw[H5,P5]) (hmr.more (by rw[dV,GX];exact aG _)))
  have hAc: ∀j u,A[j]? =some u→w.cell? ((⟨b1,0,none⟩:Addr).add j)=some u:=by
   have:=uq PO 0 (i*e.size)
   rw[cZ]at this
   rw[hAe];exact this
  have hmc: ∀j u,mid[j]? =some u→w.cell? ((⟨b1,i*e.size,none⟩:Addr).add j)=some u:=by
   rw[ahS];exact uq PO (i*e.size) _
  have amE: ∀u∈mid,u.oneCell'=true:=by
   intro u hu
   obtain⟨j,hj,rfl⟩:=qy.1 hu
   rw[GX]at hj
   have hq:j/e.size<l.length-i:=Nat.div_lt_of_lt_mul (by rw[EB];exact hj)
   have:=(hmr (j/e.size) (by rw[dV];exact hq)).oJ
   refine this _ ?_
   have hjm:j/e.size*e.size+j%e.size=j:=by rw[EB];exact Nat.div_add_mod j e.size
   have G1:j%e.size<e.size:=Nat.mod_lt _ hk
   rw[List.mem_iff_getElem?]
   refine⟨j%e.size,?_⟩
   rw[lO,aj G1,lP,hjm]
   exact bn _
  by_cases lU:i=l.length
  ·
   subst lU
   have hm0:mid=[]:=tT (by rw[GX];simp)
   by_cases zX:l.length+1≤Dl
   ·obtain⟨ie,hie,sZ,_⟩:=L.lay.base
    have dE: ∀ty,(Builtin.append_ #[ρ.t 24,ρ.t 24] ty #[.slice (some ⟨b1,0,none⟩) l.length Dl,.slice (some ⟨b2,0,none⟩) 1 Ad]).run P w=_:=λty=>
     Mu (ty:=ty) (cp:=Ad) L.t24 hie PO (by rw[sZ];exact Lp) (by rw[sZ];exact H5) hnc Qh zX
    refine(Ke L w _ _ _ 1 Ad ⟨b2,0,none⟩ _ _ ω Qi dE).mono ?_
    rintro e1 w' ⟨rfl,rfl⟩
    refine⟨_,rfl,?_⟩
    rw[sZ]
    have P9:fb zb.toList (l.length*e.size) news=A++(news++(mid++zb.toList.drop (l.length*e.size+news.length))):=by
     rw[hm0,hAe];simp[fb]
    have:=xv (e:=e) (rb:=b1) (cap:=Dl) (l:=l.take l.length++(v++l.drop l.length)) (t:=t1) (w:=w) (w':=w.setRow b1 (fb zb.toList (l.length*e.size) news).toArray) rP wu (λb hb hn=>setRow_other w _ (λe=>hn (by simp[e]))) (by rw[setRow_size];exact aG _) (λ_=>by simp) rfl rfl rfl (setRow_heap w b1 zb _ t1 _ PO) Lq (by rw[Ww];exact zX) tp
     (by
      have:=ew (s:=e.size) (show l.length<Dl by omega)
      rw[P9,iX]
      simp only[aS,hm0,bU,dV,bI,RV,H5,Lp]
      omega)
     (by rw[P9];exact RW _)
    rw[Ww]at this
    simpa [lT,fj,AM.iC]using this
   ·obtain⟨nc,rest,dE,TB,jR,H6⟩:=Fh (P:=P) (w:=w) L.t24 L.lay (n:=l.length) (m:=1) (cap:=Dl) (cp:=Ad) (olds:=A) (news:=news) (base:=some ⟨b1,0,none⟩) (a':=⟨b2,0,none⟩) (λh=>by cases h) RV (λb hb=>by cases hb;exact hAc) H5 hnc ω Kg
    refine(Ke L w _ _ _ 1 Ad ⟨b2,0,none⟩ _ _ ω Qi dE).mono ?_
    rintro e1 w' ⟨rfl,rfl⟩
    refine⟨_,rfl,?_⟩
    have:=xv (e:=e) (rb:=w.heap.size) (cap:=nc) (l:=l.take l.length++(v++l.drop l.length)) (t:=ρ.t 9) (w:=w) (w':=w.drew.alloc (.cells (A++news++rest).toArray (ρ.t 9))) rP wu (λb hb _=>alloc_old w.drew _ hb) (by rw[oc];exact qI _) (λh=>absurd h (EA _)) rfl rfl rfl (qm w.drew _) ω (by rw[Ww];exact TB) jR
     (by simp only[iX,aS,RV,H5,H6,←eu];congr 1;omega) (by have:=RW rest;rw[hm0,cJ,←br]at this;exact this)
    rw[Ww]at this
    simpa [lT,fj,AM.iC]using this
  ·have ahT:i<l.length:=ω
   have ZG:i*e.size+e.size≤l.length*e.size:=ew ahT
   have e1k:(i+1)*e.size=A.length+news.length:=by rw[RV,H5,eu]
   have EO:Nat.min 1 (l.length+1-i)=1:=iw ω
   by_cases zX:l.length+1≤Dl
   ·
    have amF:l.length*e.size+e.size≤zb.toList.length:=by rw[bI (xs:=zb),Lp];exact ew ω
    have hsh: ∀(b:Nat) (c:Array Value) (t:TypeId),w.heap[b]? =some (.cells c t (0,0))→w.shape? b=some (t,c.size):=λb c t h=>by simp[World.shape?,h]
    obtain⟨B,hB⟩: ∃B,B=zb.toList.drop (i*e.size):=⟨_,rfl⟩
    have amG:zb.toList=A++B:=by rw[hAe,hB,gg]
    have hBl:B.length=zb.toList.length-i*e.size:=by rw[hB,dV]
    have hBk:(B.take e.size).length=e.size:=by rw[cc];omega
    have MX:fb zb.toList ((i+1)*e.size) mid=A++(B.take e.size++(mid++(B.drop e.size).drop mid.length)):=by
     have:zb.toList=(A++B.take e.size)++B.drop e.size:=by rw[br,gg];exact amG
     rw[this,show(i+1)*e.size=(A++B.take e.size).length from by rw[aS,hBk,RV,eu,jX],DT,br]
    have MY:fb (fb zb.toList ((i+1)*e.size) mid) (i*e.size) news=A++(news++(mid++(B.drop e.size).drop mid.length)):=by
     rw[MX,←RV,DT,H5,jX,m0 hBk]
    refine(TI L w b1 l.length Dl i 1 Ad ⟨b2,0,none⟩ (fb zb.toList ((i+1)*e.size) mid).toArray (fb (fb zb.toList ((i+1)*e.size) mid) (i*e.size) news).toArray ahT ω zX (by simp only[maxLen]at tp;omega) (λx lb cb=> ?_) (λty dc sc=> ?_) (λW hW ty dc=> ?_)).mono ?_
    ·rw[run_callFunc_extern O.hf O.name O.body O.next O.find,
      Lib.run_overlaps_apart w (ρ.t 24) (ρ.t 4) (ρ.t 9) L.t24 e.size (λw=>df L.lay w) ⟨b2,0,none⟩ ⟨b1,x,none⟩ 1 Ad lb cb (eJ jB) t2 t1 cs2.size zb.size (hsh b2 cs2 t2 VB) (hsh b1 zb t1 PO) (by rw[Lp];exact Nat.ne_of_gt (Nat.mul_pos Lq hk)) (by simp[World.frozen?,VB]) (by simp[World.frozen?,VB])]
     rfl
    ·exact run_copy_row (P:=P) (W:=w.drew) L.t24 (λw=>df L.lay w) (cs:=zb) PO (news:=mid) (n:=l.length-i) (by simp only[Nat.min_def];split<;>omega) GX hmc amE (by rw[GX,eu,jX];rw[bI (xs:=zb)]at amF;rw[qJ];omega) ty
    ·exact run_copy_row (P:=P) (W:=W) L.t24 (λw=>df L.lay w) (cs:=(fb zb.toList ((i+1)*e.size) mid).toArray) (te:=t1) (by rw[hW];exact setRow_heap w b1 zb _ t1 _ PO) (news:=news) (n:=1) EO H5
      (λj u hj=>by
       have:=hnc j u hj
       rw[Addr.add_lit]at this ⊢
       rw[show W.cell? ⟨b2,0+j,none⟩=w.cell? ⟨b2,0+j,none⟩from World.cell?_of_block (by rw[hW];exact setRow_other w _ (eJ jB))]
       exact this) Qh (by
       rw[iX,MX]
       simp only[aS,hBk,RV,H5]
       omega) ty
    ·rintro e1 w' ⟨rfl,rfl⟩
     refine⟨_,rfl,?_⟩
     have:=xv (e:=e) (rb:=b1) (cap:=Dl) (l:=l.take i++(v++l.drop i)) (t:=t1) (w:=w) (w':=(w.drew.setRow b1 (fb zb.toList ((i+1)*e.size) mid).toArray).setRow b1 (fb (fb zb.toList ((i+1)*e.size) mid) (i*e.size) news).toArray) rP wu
      (λb hb hn=>(setRow_other _ _ (λe=>hn (by simp[e]))).trans (setRow_other _ _ (λe=>hn (by simp[e])))) (by rw[setRow_size,setRow_size];exact aG _) (λ_=>by simp) rfl rfl rfl (setRow_heap _ b1 _ _ t1 _ (setRow_heap w.drew b1 zb _ t1 _ PO)) Lq (by rw[Ww];exact zX) tp
      (by
       rw[MY,iX]
       rw[bI (xs:=zb)]at amF hBl
       simp only[aS,dV,RV,H5,GX,hBl,qJ]
       omega)
      (by rw[MY];exact RW _)
     rw[Ww]at this
     simpa [lT,fj,AM.iC]using this
   ·
    obtain⟨nc,Z,dE,TB,jR,hZl⟩:=TK (P:=P) (w:=w) L.t24 L.t3 L.lay hk (n:=i) (k:=l.length+1-i) (cap:=Dl) (olds:=A) (b:=⟨b1,0,none⟩) RV hAc ω ω ω
    have ar2:i+(l.length+1-i)=l.length+1:=ω
    rw[ar2]at dE TB
    have hZk:(l.length+1-i)*e.size≤Z.length:=by rw[hZl];exact lL _ ω
    rw[qJ,eu,jX]at hZk
    have MX:fb (A++Z) (i*e.size) news=A++(news++Z.drop news.length):=by rw[←RV,DT]
    have MY:fb (fb (A++Z) (i*e.size) news) ((i+1)*e.size) mid=A++(news++(mid++(Z.drop news.length).drop mid.length)):=by
     rw[MX,←br,e1k,←aS,DT,br]
    have hnb:w.heap.size≠b1:=ω
    have ay9:b2≠w.heap.size:=ω
    refine(Wt L w b1 l.length Dl i 1 Ad 0 nc ⟨b2,0,none⟩ (A++Z).toArray (fb (A++Z) (i*e.size) news).toArray (fb (fb (A++Z) (i*e.size) news) ((i+1)*e.size) mid).toArray ahT ω Qi ω (by simp only[maxLen]at tp;omega) (by simp only[zG]at Kg;omega) TB (by simp only[maxLen]at jR;omega) (λty=> ?_) (λW hW ty dc=> ?_) (λW hW ty dc sc=> ?_)).mono ?_
    ·have:=dE ty
     rw[show(((l.length+1-i:Nat):Int))=(l.length:Int)+(1:Nat)-(i:Int)from by omega]at this
     exact this
    ·exact run_copy_row (P:=P) (W:=W) L.t24 (λw=>df L.lay w) (cs:=(A++Z).toArray) (te:=ρ.t 9) (by rw[hW];exact qm w _) (news:=news) (n:=1) EO H5
      (λj u hj=>by
       have:=hnc j u hj
       rw[Addr.add_lit]at this ⊢
       rw[show W.cell? ⟨b2,0+j,none⟩=w.cell? ⟨b2,0+j,none⟩from World.cell?_of_block (by rw[hW];exact alloc_old w _ alM)]
       exact this) Qh (by rw[iX,aS,RV,H5];omega) ty
    ·exact run_copy_row (P:=P) (W:=W) L.t24 (λw=>df L.lay w) (cs:=(fb (A++Z) (i*e.size) news).toArray) (te:=ρ.t 9) (by rw[hW];exact setRow_heap _ _ _ _ _ _ (qm w _)) (news:=mid) (n:=l.length-i) (by simp only[Nat.min_def];split<;>omega) GX
      (λj u hj=>by
       have:=hmc j u hj
       rw[Addr.add_lit]at this ⊢
       rw[show W.cell? ⟨b1,i*e.size+j,none⟩=w.cell? ⟨b1,i*e.size+j,none⟩from World.cell?_of_block (by rw[hW];exact(setRow_other _ _ (eJ hnb)).trans (alloc_old w _ arZ))]
       exact this) amE (by
       rw[iX,MX]
       simp only[aS,dV,RV,H5,GX,eu,qJ]
       omega) ty
    ·rintro e1 w' ⟨rfl,rfl⟩
     refine⟨_,rfl,?_⟩
     have hg':((w.drew.alloc (.cells (A++Z).toArray (ρ.t 9))).setRow w.heap.size (fb (A++Z) (i*e.size) news).toArray).drew.heap[w.heap.size]? =some (.cells (fb (A++Z) (i*e.size) news).toArray (ρ.t 9) (0,0)):=setRow_heap _ _ _ _ _ _ (qm w.drew _)
     have:=xv (e:=e) (rb:=w.heap.size) (cap:=nc) (l:=l.take i++(v++l.drop i)) (t:=ρ.t 9) (w:=w) (w':=((w.drew.alloc (.cells (A++Z).toArray (ρ.t 9))).setRow w.heap.size (fb (A++Z) (i*e.size) news).toArray).drew.setRow w.heap.size (fb (fb (A++Z) (i*e.size) news) ((i+1)*e.size) mid).toArray) rP wu
      (λb hb hn=>(setRow_other _ _ ω).trans ((setRow_other _ _ ω).trans (alloc_old w.drew _ hb))) (by rw[setRow_size];show _≤(World.setRow _ _ _).heap.size;rw[setRow_size,oc];exact qI _) (λh=>absurd h (EA _)) rfl rfl rfl (setRow_heap _ _ _ _ _ _ hg') ω (by rw[Ww];exact TB) jR
      (by
       rw[MY,iX]
       have hmul:(nc-i)*e.size=nc*e.size-i*e.size:=qJ _ _ _
       have hci:i*e.size≤nc*e.size:=lL _ ω
       simp only[aS,dV,RV,H5,GX,hZl,hmul,qJ]at hZk ⊢
       omega)
      (by rw[MY];exact RW _)
     rw[Ww]at this
     simpa [lT,fj,AM.iC]using this
end VM
end
section
namespace VM
open Go Go.Shelf Go.RowKit Go.Lib Go.Proofs
variable{P:Program}{ρ:Ren}
def Wx(ρ:Ren)(fn:Func):Func:={fn with body:=(Body2.n15 ρ).body,ntmps:=8,results:=(Body2.n15 ρ).results,nfree:=0}
theorem Cx(ρ:Ren)(fn:Func):(Wx ρ fn).ntmps=8:=rfl
structure Kh(P:Program)(e:Ty)(ρ:Ren)(f:FuncId)(fn:Func):Prop where
 hf:P.funcs[f]? =some (Wx ρ fn)
 t4:P.underlying (ρ.t 4)=some .bool
 t22:P.underlying (ρ.t 22)=some (.slice (ρ.t 3))
 lay:kI P e (ρ.t 3)
 pR:0<e.size
 mixed:P.follows .mixedOrders=true
set_option maxHeartbeats 4000000 in
set_option maxRecDepth 100000 in
theorem TM{e:Ty}{f:FuncId}{fn:Func}(L:Kh P e ρ f fn)(w:World)(n c:Nat):
  Calls P f #[.slice none n c] w λr w2=>r= .returned (.slice none 0 0)∧w2=w:=by
 have u22:=run_underlying L.t22
 have t4:=L.t4;have t22:=L.t22
 have z3:=λw=>df L.lay w
 have mixed:=L.mixed
 have q22: ∀(w:World) (a:Option Addr) (n c n' c':Nat),(binOp .eql (ρ.t 22) (.slice a n c) (.slice none n' c')).run P w= .ok (.bool a.isNone) w:=λw a n c n' c'=>Lib.run_eql_slice_nil w _ _ a n c n' c' L.t22
 go_enter L.hf,Cx ρ fn
 go_wp2
 go_ret
 exact⟨rfl,rfl⟩
set_option maxHeartbeats 4000000 in
set_option maxRecDepth 100000 in
theorem Fj{e:Ty}{f:FuncId}{fn:Func}(L:Kh P e ρ f fn)(w:World)(a:Addr)(n c:Nat)(v':Value)(w':World)
  (MD: ∀ty,(Builtin.append_ #[ρ.t 22,ρ.t 22] ty #[.slice (some ⟨w.heap.size,0,none⟩) 0 0,.slice (some a) n c]).run P (w.alloc (.cells #[] (ρ.t 3)))= .ok v' w'):
   Calls P f #[.slice (some a) n c] w λr w2=>r= .returned v'∧w2=w':=by
 have u22:=run_underlying L.t22
 have t4:=L.t4;have t22:=L.t22
 have z3:=λw=>df L.lay w
 have mixed:=L.mixed
 have q22: ∀(w:World) (a:Option Addr) (n c n' c':Nat),(binOp .eql (ρ.t 22) (.slice a n c) (.slice none n' c')).run P w= .ok (.bool a.isNone) w:=λw a n c n' c'=>Lib.run_eql_slice_nil w _ _ a n c n' c' L.t22
 obtain⟨ab,ao,asp⟩:=a
 go_enter L.hf,Cx ρ fn
 go_wp2_with (at_builtin;refine Lib.wpList_append_run _ rfl _ _ _ _ rfl _ _ rfl rfl _ _ (MD _) ?_)
 all_goals (go_ret;exact⟨rfl,rfl⟩)
theorem Wy{w w':World}{M0:Nat→Prop}{e:Ty}(a:Option Addr)(rP: ∀b,M0 b→b<w.heap.size)(VU: ∀b,b<w.heap.size→w'.heap[b]? =w.heap[b]?)(sZ:w.heap.size≤w'.heap.size)
  (hos:w'.os=w.os) (htp:w'.tape=w.tape) (P8:w'.output=w.output):
  ∃us M',Value.slice a 0 0=wj us∧RR w' M' [.own e] ([]:List e.den) us []∧Left w M0 [] w' M'∧(bG [.own e] us []).Nodup∧ ∀b∈bG [.own e] us [],¬M0 b:=by
 have wa:bG [.own e] [Value.slice a 0 0] []=[]:=by
  cases a<;>simp[bG,da,AM.iC,fK]
 refine⟨[.slice a 0 0],M0,rfl,?_,?_,?_,?_⟩
 ·simp only[RR]
  refine .inr ⟨_,[],rfl,rfl,rfl,?_,rfl,trivial⟩
  simp only[A1,ER,s0]
  exact .inl ⟨trivial,a,rfl⟩
 ·exact⟨λb h=>h,λb h=>mW (rP b h) sZ,λb hb h=> .inl h,λb hb _=>VU b hb,sZ,hos,htp,P8⟩
 ·rw[wa];simp
 ·rw[wa];simp
theorem qn{e:Ty}{f:FuncId}{fn:Func}(L:Kh P e ρ f fn)(z7:(fn.name== "runtime.NumGoroutine")=false)(Wu:(Body2.n15 ρ).body.isNone=false)(N:Nat):iD P f (vY e N):=by
 refine⟨(λh=>by cases h),rfl,λM0 w vs x y rP hA ya wu hy=> ?_⟩
 have RN:n6 N x=some y:=hy
 clear hy
 obtain⟨v0,VV,rfl,h0,h2⟩:=hA
 have h2:VV=[]:=h2
 subst h2
 replace h0:V w (λb=>M0 b∨b∈([]:List Nat)) (.slice e) v0 x:=h0
 unfold n6 at RN
 split at RN
 case isFalse=>cases RN
 rename_i Kg
 cases RN
 have hbn:(Wx ρ fn).body.isNone=false:=Wu
 have hh:dR (vY e N).args [v0]=[]:=rfl
 rw[hh]at wu ⊢
 refine sT L.hf z7 hbn ?_
 obtain⟨i,hi,sZ,hz,hby⟩:=L.lay.base
 have hS:=Src.Zp h0
 by_cases hx:x=[]
 ·obtain⟨a,cp,hv,_⟩:=hS
  subst hv
  rw[hx]
  cases a with
  |none=>
   refine(TM L w _ cp).mono ?_
   rintro e1 w' ⟨rfl,rfl⟩
   exact⟨_,rfl,Wy none rP (λ_ _=>rfl) (aG _) rfl rfl rfl⟩
  |some a=>
   refine(Fj L w a _ cp _ _ (λty=>sr (P:=P) (w:=w.alloc (.cells #[] (ρ.t 3))) L.t22 hi (some ⟨w.heap.size,0,none⟩) 0 0 (aG _) (some a) cp)).mono ?_
   rintro e1 w' ⟨rfl,rfl⟩
   exact⟨_,rfl,Wy _ rP (λb hb=>alloc_old w _ hb) (by rw[oc];exact qI _) rfl rfl rfl⟩
 ·obtain⟨b,off,cp,news,hv,hl,pZ,kV,h1⟩:=hS.cells hx
  have Ho:0<x.length:=si.2 hx
  subst hv
  obtain⟨nc,rest,dE,TB,jR,H6⟩:=Fh (P:=P) (w:=w.alloc (.cells #[] (ρ.t 3))) L.t22 L.lay (n:=0) (m:=x.length) (cap:=0) (cp:=cp) (olds:=[]) (news:=news) (base:=some ⟨w.heap.size,0,none⟩) (a':=⟨b,off,none⟩) (λh=>by cases h) (by simp) (λ_ _ j u hj=>by simp at hj) hl
   (λj u hj=>by rw[Addr.add_lit];exact Lib.cell?_alloc_some _ (pZ j u hj)) ω ω
  refine(Fj L w ⟨b,off,none⟩ _ cp _ _ dE).mono ?_
  rintro e1 w' ⟨rfl,rfl⟩
  refine⟨_,rfl,?_⟩
  simp only[gi]at TB H6 ⊢
  have Lp:(w.alloc (.cells #[] (ρ.t 3))).heap.size=w.heap.size+1:=oc w _
  exact xv (e:=e) (rb:=(w.alloc (.cells #[] (ρ.t 3))).heap.size) (cap:=nc) (l:=x) (t:=ρ.t 3) (w:=w) (w':=(w.alloc (.cells #[] (ρ.t 3))).drew.alloc (.cells ([]++news++rest).toArray (ρ.t 3))) rP wu
   (λb hb _=>(alloc_old (w.alloc (.cells #[] (ρ.t 3))).drew _ (by show b<(w.alloc (.cells #[] (ρ.t 3))).heap.size;omega)).trans (alloc_old w _ hb))
   (by rw[oc];show w.heap.size≤(w.alloc (.cells #[] (ρ.t 3))).heap.size+1;omega) (λh=>ω) rfl rfl rfl (qm (w.alloc (.cells #[] (ρ.t 3))).drew _) ω TB jR
   (by simp only[cJ,iX,aS,hl,H6,←eu];congr 1;omega) (by simpa using qS.more (cs':=rest) (show qS w (λb=>M0 b∨b∈([]:List Nat)) e news x from kV) (by rw[hl];exact aG _))
end VM
end
