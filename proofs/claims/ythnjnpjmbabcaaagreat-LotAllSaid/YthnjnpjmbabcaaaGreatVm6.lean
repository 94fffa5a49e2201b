/- A part of the proof of LotAll of layer 23: a machine that reads a function of the program as an equation between values. -/
import Derived.Test.YthnjnpjmbabcaaaGreatVm5
set_option linter.all false
open List renaming getD→γ
section
namespace VM
open Go
variable{P:Program}{E:Env}{o:Oper}{a:Act}{w:World}{M:Nat→Prop}{ν:Nat→Value}{σ:St}{c:Ctx}{α:Type}{r:α}{next:Act→World→Prop}{Q:Exit→Act→World→Prop}
def mix{β:Type}(A B:Nat→β):Nat→β:=λi=>if i%2=0 then A (i/2)else B (i/2)
theorem dE{β:Type}(A B:Nat→β)(i:Nat):mix A B (2*i)=A i:=by
 unfold mix
 rw[ae ω,show 2*i/2=i from by omega]
theorem mw{β:Type}(A B:Nat→β)(i:Nat):mix A B (2*i+1)=B i:=by
 unfold mix
 rw[af ω,show(2*i+1)/2=i from by omega]
theorem Sq{β:Type}{A B A' B':Nat→β}(hl: ∀i,A i=A' i)(hr: ∀i,B i=B' i):mix A B=mix A' B':=by
 funext i;unfold mix;rw[hl,hr]
def az.re(f:Nat→Nat):az→az
 | .dj τ x p j=> .dj τ x p (f j)
 |e=>e
theorem ER.re{v:Value}{f:Nat→Nat}{e:az}:ER w M v (e.re f)↔ER w M v e:=by cases e<;>simp[az.re,ER]
theorem az.lh{f:Nat→Nat}{e:az}:(e.re f).mut↔e.mut:=by cases e<;>simp[az.re,az.mut]
theorem az.E7{f g:Nat→Nat}{e e':az}:(e.re f).fy (e'.re g)↔e.fy e':=by cases e<;>cases e'<;>simp[az.re,az.fy]
def ml(i:Nat):Nat:=2*i
def mr(i:Nat):Nat:=2*i+1
def dg(A B:Nat→Option az):Nat→Option az:=λi=>if i%2=0 then(A (i/2)).map (az.re ml)else(B (i/2)).map (az.re mr)
theorem mN(A B:Nat→Option az)(i:Nat):dg A B (2*i)=(A i).map (az.re ml):=by
 unfold dg
 rw[ae ω,show 2*i/2=i from by omega]
theorem iA(A B:Nat→Option az)(i:Nat):dg A B (2*i+1)=(B i).map (az.re mr):=by
 unfold dg
 rw[af ω,show(2*i+1)/2=i from by omega]
theorem dC{A B:Nat→Option az}{i:Nat}{e:az}(h:A i=some e):dg A B (2*i)=some (e.re ml):=by rw[mN,h];rfl
theorem jm{A B:Nat→Option az}{i:Nat}{e:az}(h:B i=some e):dg A B (2*i+1)=some (e.re mr):=by rw[iA,h];rfl
theorem Ap{A B:Nat→Option az}{i:Nat}:dg A B (2*i)≠none↔A i≠none:=by rw[mN];cases A i<;>simp
theorem Aq{A B:Nat→Option az}{i:Nat}:dg A B (2*i+1)≠none↔B i≠none:=by rw[iA];cases B i<;>simp
theorem iW(A B:Nat→Option az)(i:Nat)(v:Option az):aC (dg A B) (2*i) (v.map (az.re ml))=dg (aC A i v) B:=by
 funext k
 by_cases hk:k=2*i
 ·subst hk;rw[ag,mN,ag]
 ·rw[aj _ _ hk]
  unfold dg
  by_cases h2:k%2=0
  ·rw[ae h2,ae h2,aj _ _ ω]
  ·rw[af h2,af h2]
theorem lj(A B:Nat→Option az)(i:Nat)(v:Option az):aC (dg A B) (2*i+1) (v.map (az.re mr))=dg A (aC B i v):=by
 funext k
 by_cases hk:k=2*i+1
 ·subst hk;rw[ag,iA,ag]
 ·rw[aj _ _ hk]
  unfold dg
  by_cases h2:k%2=0
  ·rw[ae h2,ae h2]
  ·rw[af h2,af h2,aj _ _ ω]
theorem updν_mix_r(A B:Nat→Value)(i:Nat)(v:Value):updν (mix A B) (2*i+1) v=mix A (updν B i v):=by
 funext k
 unfold updν mix
 by_cases hk:k=2*i+1
 ·subst hk;rw[ae rfl,af ω]
  show v=if(2*i+1)/2=i then v else B ((2*i+1)/2)
  rw[ae ω]
 ·rw[af hk]
  by_cases h2:k%2=0
  ·rw[ae h2,ae h2]
  ·rw[af h2,af h2]
   show B (k/2)=if k/2=i then v else B (k/2)
   rw[af ω]
theorem Mem.left{H A:Nat→Option az}{νA:Nat→Value}(h:Mem c (dg H A) w M (mix ν νA)):Mem c H w M ν:=
 ⟨λi e hi=>by have:=h.dH (2*i) _ (dC hi);rw[dE]at this;exact ER.re.1 this,
  λi j e e' b jC hi hm hj eh=>by have:=h.qv (2*i) (2*j) _ _ b ω (dC hi) (az.lh.2 hm) (dC hj) (az.lh.2 eh);rwa [dE,dE]at this,
  λi e b hi hm=>by have:=h.new (2*i) _ b (dC hi) (az.lh.2 hm);rwa [dE]at this,
  λi e l b hi=>by have:=h.qp (2*i) e l b (dC hi);rwa [dE]at this,
  λi τ x p j hi=>by
   obtain⟨h1,b,h2,h3⟩:=h.dj (2*i) τ x p (ml j) (dC hi)
   rw[dE]at h2
   unfold ml at h1 h3
   rw[dE]at h3
   exact⟨Ap.1 h1,b,h2,h3⟩,
  h.sub,h.qS,h.frame,h.size,h.iT,h.os,h.tape,h.output⟩
theorem Mem.right{H A:Nat→Option az}{νA:Nat→Value}(h:Mem c (dg H A) w M (mix ν νA)):Mem c A w M νA:=
 ⟨λi e hi=>by have:=h.dH (2*i+1) _ (jm hi);rw[mw]at this;exact ER.re.1 this,
  λi j e e' b jC hi hm hj eh=>by have:=h.qv (2*i+1) (2*j+1) _ _ b ω (jm hi) (az.lh.2 hm) (jm hj) (az.lh.2 eh);rwa [mw,mw]at this,
  λi e b hi hm=>by have:=h.new (2*i+1) _ b (jm hi) (az.lh.2 hm);rwa [mw]at this,
  λi e l b hi=>by have:=h.qp (2*i+1) e l b (jm hi);rwa [mw]at this,
  λi τ x p j hi=>by
   obtain⟨h1,b,h2,h3⟩:=h.dj (2*i+1) τ x p (mr j) (jm hi)
   rw[mw]at h2
   unfold mr at h1 h3
   rw[mw]at h3
   exact⟨Aq.1 h1,b,h2,h3⟩,
  h.sub,h.qS,h.frame,h.size,h.iT,h.os,h.tape,h.output⟩
theorem Mem.Lm{H:Nat→Option az}(νA:Nat→Value)(h:Mem c H w M ν):Mem c (dg H (λ_=>none)) w M (mix ν νA):=by
 have key: ∀i e,dg H (λ_=>none) i=some e→ ∃j e0,i=2*j∧H j=some e0∧e=e0.re ml:=by
  intro i e hi
  unfold dg at hi
  by_cases h2:i%2=0
  ·rw[ae h2]at hi
   obtain⟨e0,h3,h4⟩:=rJ.1 hi
   exact⟨i/2,e0,ω,h3,h4.symm⟩
  ·rw[af h2]at hi;cases hi
 refine⟨λi e hi=> ?_,λi j e e' b jC hi hm hj eh=> ?_,λi e b hi hm=> ?_,λi e l b hi=> ?_,λi τ x p j hi=> ?_,h.sub,h.qS,h.frame,h.size,h.iT,h.os,h.tape,h.output⟩
 ·obtain⟨j,e0,rfl,hj,rfl⟩:=key i e hi;rw[dE];exact ER.re.2 (h.dH j e0 hj)
 ·obtain⟨i',e1,rfl,mj,rfl⟩:=key i e hi;obtain⟨j',e2,rfl,IB,rfl⟩:=key j e' hj
  rw[dE,dE];exact h.qv i' j' e1 e2 b ω mj (az.lh.1 hm) IB (az.lh.1 eh)
 ·obtain⟨j,e0,rfl,hj,rfl⟩:=key i e hi;rw[dE];exact h.new j e0 b hj (az.lh.1 hm)
 ·obtain⟨j,e0,rfl,hj,he⟩:=key i _ hi
  cases e0<;>simp only[az.re]at he<;>cases he
  rw[dE];exact h.qp j e l b hj
 ·obtain⟨k,e0,rfl,hk,he⟩:=key i _ hi
  cases e0<;>simp only[az.re]at he<;>cases he
  obtain⟨h1,b,h2,h3⟩:=h.dj k _ _ _ _ hk
  refine⟨Ap.2 h1,b,by rw[dE];exact h2,?_⟩
  unfold ml
  rw[dE];exact h3
theorem eI.left{H A H' A':Nat→Option az}{νA ν' νA':Nat→Value}(g:eI (dg H A) (mix ν νA) (dg H' A') (mix ν' νA')):eI H ν H' ν':=
 ⟨λi e hi=>by
   obtain⟨e',h1,h2⟩:=g.dH (2*i) _ (dC hi)
   rw[mN]at h1
   obtain⟨e0,h3,rfl⟩:=rJ.1 h1
   exact⟨e0,h3,az.E7.1 h2⟩,
  λi hi=>by have:=g.head (2*i) (Ap.2 hi);rwa [dE,dE]at this⟩
theorem eI.right{H A H' A':Nat→Option az}{νA ν' νA':Nat→Value}(g:eI (dg H A) (mix ν νA) (dg H' A') (mix ν' νA')):eI A νA A' νA':=
 ⟨λi e hi=>by
   obtain⟨e',h1,h2⟩:=g.dH (2*i+1) _ (jm hi)
   rw[iA]at h1
   obtain⟨e0,h3,rfl⟩:=rJ.1 h1
   exact⟨e0,h3,az.E7.1 h2⟩,
  λi hi=>by have:=g.head (2*i+1) (Aq.2 hi);rwa [mw,mw]at this⟩
theorem Mem.move{H A:Nat→Option az}{νA:Nat→Value}(h:Mem c (dg H A) w M (mix ν νA)){i j:Nat}{e e1:az}(hi:H i=some e)(hm:e.mut)(hj:A j=none)
  (sw:(e1=e∧ ∀τ x p k,e≠ .dj τ x p k)∨ ∃τ x p k k',e= .dj τ x p k∧e1= .dj τ x p k'∧A k'≠none∧νA k'=ν k):
  Tr c (dg H A) w M (mix ν νA) (dg (aC H i (some .gone)) (aC A j (some e1))) w M (mix ν (updν νA j (ν i))):=by
 have hg:=Tr.gone h (2*i)
 have XC:(some az.gone)=(some az.gone).map (az.re ml):=rfl
 rw[XC,iW]at hg
 have E5:=dC (B:=A) hi
 have hER:ER w M (ν i) (e1.re mr):=by
  have h1:=h.dH (2*i) _ E5
  rw[dE]at h1
  have h1:=ER.re.1 h1
  rcases sw with⟨rfl,_⟩|⟨τ,x,p,k,k',rfl,rfl,_,_⟩
  ·exact ER.re.2 h1
  ·exact h1
 have h2:=Mem.oD hg.mem (id:=2*j+1) (v:=ν i) (e:=e1.re mr) (λe' lO=>by rw[iA,hj]at lO;cases lO)
  hER
  (λb hb k e' hk eh=>by
   by_cases vW:k=2*i
   ·subst vW;rw[mN,ag]at hk;cases hk;simp[az.re,az.mut]at eh
   ·have Sr:dg H A k=some e':=by
     have:=congrFun (iW H A i (some .gone)) k
     rw[aj _ _ vW]at this
     rw[this];exact hk
    have:=h.qv (2*i) k _ e' b (cP vW) E5 (az.lh.2 hm) Sr eh
    rw[dE]at this
    exact this hb)
  (λb hb=>by have:=h.new (2*i) _ b E5 (az.lh.2 hm);rw[dE]at this;exact this hb)
  (λb e0 l0 he hb=>by
   rcases sw with⟨rfl,_⟩|⟨τ,x,p,k,k',rfl,rfl,_,_⟩
   ·cases e1<;>simp only[az.re]at he<;>cases he
    have:=h.qp (2*i) e0 l0 b E5;rw[dE]at this;exact this hb
   ·simp[az.re]at he)
  (.inl (by rw[iA,hj];rfl))
  (fun τ x p k he=>by
   rcases sw with⟨rfl,hn⟩|⟨τ,x,p,k,k',rfl,rfl,hk,hνk⟩
   ·cases e1<;>simp only[az.re]at he<;>cases he
    exact absurd rfl (hn _ _ _ _)
   ·simp only[az.re]at he
    cases he
    obtain⟨_,b,h4,h5⟩:=h.dj (2*i) _ _ _ _ E5
    rw[dE]at h4
    have Wi:k'≠j:=λe=>hk (e▸hj)
    refine⟨?_,b,h4,?_⟩
    ·rw[aj _ _ (by unfold mr;omega)]
     unfold mr
     exact Aq.2 hk
    ·unfold ml at h5
     rw[dE]at h5
     rw[h5,←hνk]
     have:updν (mix ν νA) (2*j+1) (ν i) (mr k')=mix ν νA (mr k'):=by
      unfold updν mr;rw[af ω]
     rw[this];unfold mr;rw[mw])
 have Ln:some (e1.re mr)=(some e1).map (az.re mr):=rfl
 rw[Ln,lj,updν_mix_r]at h2
 refine⟨h2,.refl w M,⟨λk e' hk=> ?_,λk hk=> ?_⟩⟩
 ·by_cases h3:k%2=0
  ·obtain⟨k',rfl⟩: ∃k',k=2*k':=⟨k/2,ω⟩
   by_cases vX:k'=i
   ·subst vX;exact⟨.gone,by rw[mN,ag];rfl,az.eN _⟩
   ·exact⟨e',by rw[mN]at hk ⊢;rw[aj _ _ vX];exact hk,.refl e'⟩
  ·obtain⟨k',rfl⟩: ∃k',k=2*k'+1:=⟨k/2,ω⟩
   rw[iA]at hk ⊢
   have vX:k'≠j:=λe=>by rw[e,hj]at hk;cases hk
   exact⟨e',by rw[aj _ _ vX];exact hk,.refl e'⟩
 ·by_cases h3:k%2=0
  ·obtain⟨k',rfl⟩: ∃k',k=2*k':=⟨k/2,ω⟩
   rw[dE,dE]
  ·obtain⟨k',rfl⟩: ∃k',k=2*k'+1:=⟨k/2,ω⟩
   rw[mw,mw]
   have vX:k'≠j:=λe=>by rw[iA,e,hj]at hk;exact hk rfl
   simp[updν,vX]
theorem Mem.fresh{H A:Nat→Option az}{νA:Nat→Value}(h:Mem c (dg H A) w M (mix ν νA)){j:Nat}(hj:A j=none)(e:Ty)(ad:Option Addr):
  Tr c (dg H A) w M (mix ν νA) (dg H (aC A j (some (.own e [])))) w M (mix ν (updν νA j (.slice ad 0 0))):=by
 have:=Tr.nothing h (id:=2*j+1) (by rw[iA,hj];rfl) e ad
 have Ln:some (az.own e [])=(some (az.own e [])).map (az.re mr):=rfl
 rw[Ln,lj,updν_mix_r]at this
 exact this
def zw(H' H:Nat→Option az):Prop:= ∀i e l o,H' i=some (.cV e l o)→H i=some (.cV e l o)
theorem zw.rfl{H:Nat→Option az}:zw H H:=λ_ _ _ _ h=>h
theorem zw.trans{H H' Ns:Nat→Option az}(h:zw Ns H')(k:zw H' H):zw Ns H:=λi e l o hi=>k i e l o (h i e l o hi)
theorem zw.td{H:Nat→Option az}{j:Nat}{v:az}(hv: ∀e l o,v≠ .cV e l o):zw (aC H j (some v)) H:=λi e l o hi=>by
 by_cases jC:i=j
 ·subst jC;rw[ag]at hi;cases hi;exact absurd (Eq.refl _) (hv e l o)
 ·rwa [aj _ _ jC]at hi
theorem zw.mix{H H' A A':Nat→Option az}(h:zw H' H)(k:zw A' A):zw (dg H' A') (dg H A):=λi e l o hi=>by
 have key: ∀{f:Nat→Nat} {x:Option az},x.map (az.re f)=some (.cV e l o)→x=some (.cV e l o):=λ{f x} hx=>by
  cases x with
  |none=>cases hx
  |some y=>cases y<;>simp[az.re]at hx ⊢ <;>exact hx
 by_cases h3:i%2=0
 ·obtain⟨k',rfl⟩: ∃k',i=2*k':=⟨i/2,ω⟩
  rw[mN]at hi ⊢;rw[h _ _ _ _ (key hi)];rfl
 ·obtain⟨k',rfl⟩: ∃k',i=2*k'+1:=⟨i/2,ω⟩
  rw[iA]at hi ⊢;rw[k _ _ _ _ (key hi)];rfl
structure CF(c0 c:Ctx)(H A:Nat→Option az)(ν νA:Nat→Value):Prop where
 tok:A 7=none→ ∀i e l o,A i≠some (.cV e l o)
 one: ∀i j e l o e' l' o',dg H A i=some (.cV e l o)→dg H A j=some (.cV e' l' o')→i=j
 mem: ∀i e l o,dg H A i=some (.cV e l o)→Tl c0 c e l o (mix ν νA i)
theorem CF.step{c0:Ctx}{H A H' A':Nat→Option az}{νA νA':Nat→Value}(h:CF c0 c H A ν νA)(g:eI (dg H A) (mix ν νA) (dg H' A') (mix ν νA'))(h1:zw H' H)(h2:zw A' A):CF c0 c H' A' ν νA':=by
 refine⟨λh7 i e l o hi=> ?_,λi j e l o e' l' o' hi hj=>h.one i j _ _ _ _ _ _ (h1.mix h2 _ _ _ _ hi) (h1.mix h2 _ _ _ _ hj),λi e l o hi=> ?_⟩
 ·refine h.tok ?_ i e l o (h2 _ _ _ _ hi)
  cases h0:A 7 with
  |none=>rfl
  |some e0=>obtain⟨e1,h1,_⟩:=g.right.dH 7 e0 h0;rw[h7]at h1;cases h1
 ·have:=h1.mix h2 _ _ _ _ hi
  rw[g.head i (by rw[this];simp)]
  exact h.mem i e l o this
structure Cut(fl:Prop)(c0 c:Ctx)(σ acc:St)(tm:Array Value)(w:World)(M:Nat→Prop)(ν νA:Nat→Value):Prop where
 mem:Mem c (dg σ.H acc.H) w M (mix ν νA)
 src: ∀i,VR w M σ.H ν (σ.T i) (tm.getD i undef)
 dst: ∀i,VR w M acc.H νA (acc.T i) (tm.getD i undef)
 cV:fl→CF c0 c σ.H acc.H ν νA
theorem Cut.tr{fl:Prop}{c0:Ctx}{acc:St}{tm:Array Value}{νA:Nat→Value}(h:Cut fl c0 c σ acc tm w M ν νA){H' A':Nat→Option az}{M':Nat→Prop}{νA':Nat→Value}(t:Tr c (dg σ.H acc.H) w M (mix ν νA) (dg H' A') w M' (mix ν νA'))(h1:zw H' σ.H)(h2:zw A' acc.H){s:Nat}{x:aF}(hx:VR w M' A' νA' x (tm.getD s undef)):
  Cut fl c0 c ⟨σ.T,H'⟩ ⟨(acc.put s x).T,A'⟩ tm w M' ν νA':=by
 refine⟨t.mem,λi=>VR.aV t.aV t.goes.left (h.src i),λi=> ?_,λhf=>(h.cV hf).step t.goes h1 h2⟩
 show VR w M' A' νA' ((acc.put s x).T i) _
 by_cases hi:i=s
 ·subst hi;rw[lf];exact hx
 ·rw[pB _ _ hi];exact VR.aV t.aV t.goes.right (h.dst i)
def IE(A:Nat→Option az)(s:Nat):Prop:=A (16*s+13)=none∧A (16*s+14)=none∧A (16*s+15)=none
theorem fE{q:Nat×CM}{L:List (Nat×CM)}{A:Nat→Option az}(hF:fp (q::L)=true)(hN: ∀p∈q::L,IE A p.1):
  fp L=true∧(∀p∈L,IE A p.1)∧
   ∀(A':Nat→Option az) (d:Nat) (v:Option az),(d=16*q.1+13∨d=16*q.1+14∨d=16*q.1+15)→(∀p∈L,IE A' p.1)→ ∀p∈L,IE (aC A' d v) p.1:=by
 unfold fp at hF
 rw[bg,kO]at hF
 refine⟨hF.2,λp hp=>hN p (aR _ hp),λA' d v hd hN' p hp=> ?_⟩
 have eX:p.1≠q.1:=λe=>by
  have:=hF.1 p hp
  rw[e]at this
  simp at this
 obtain⟨h1,h2,h3⟩:=hN' p hp
 exact⟨by rw[aj _ _ ω];exact h1,by rw[aj _ _ ω];exact h2,by rw[aj _ _ ω];exact h3⟩
theorem cF{fl:Prop}{c0:Ctx}{tm:Array Value}: ∀(L:List (Nat×CM)) (σ acc:St) (M:Nat→Prop) (νA:Nat→Value) (K:St→Option α),Cut fl c0 c σ acc tm w M ν νA→fp L=true→(∀q∈L,IE acc.H q.1)→dz L σ acc K=some r→
  ∃IF M' νA',K IF=some r∧Core c IF tm w M' νA'∧(fl→fD c0 c IF.H νA')
 |[],σ,acc,M,νA,K,hC,_,_,h=>⟨acc,M,νA,h,⟨hC.mem.right,hC.dst⟩,λhf=>⟨(hC.cV hf).tok,λi j e l o e' l' o' hi hj=>by
   have:=(hC.cV hf).one (2*i+1) (2*j+1) e l o e' l' o' (jm hi) (jm hj);omega,λi e l o hi=>by
   have:=(hC.cV hf).mem (2*i+1) e l o (jm hi);rwa [mw]at this⟩⟩
 |(s,.v τ)::L,σ,acc,M,νA,K,hC,hF,hN,h=>by
  obtain⟨Bf,Bh,xm⟩:=fE hF hN
  unfold dz at h
  obtain⟨y,rd,ups,h,hy⟩:=vV hC.mem.left (hC.src s) h
  rcases hy with⟨rfl,hV⟩|⟨id,e,l,rfl,hid,hV⟩
  ·exact cF L σ _ M νA K (hC.tr (.refl hC.mem) .rfl .rfl (x:= .val τ y) (by simp only[VR];exact hV)) Bf Bh h
  ·obtain⟨M2,df,_,Ae⟩:=Tr.freeze hC.mem (id:=2*id) (dC hid)
   have Ln:some (az.jk e l)=(some (az.jk e l)).map (az.re ml):=rfl
   rw[Ln,iW]at df
   refine cF L _ _ M2 νA K (hC.tr df (.td λ_ _ _=>by simp) .rfl (x:= .val τ y) ?_) Bf Bh h
   simp only[VR]
   exact hV M2 (λb=>by rw[Ae b,dE])
 |(s,.own e)::L,σ,acc,M,νA,K,hC,hF,hN,h=>by
  obtain⟨Bf,Bh,xm⟩:=fE hF hN
  unfold dz at h
  have hs:=hC.src s
  split at h
  ·rename_i hT
   have hj:=(hN _ bl).2.1
   rw[hT]at hs
   obtain⟨ad,hv⟩:=VR.emp.1 hs
   refine cF L σ _ M _ K (hC.tr (hC.mem.fresh hj e ad) .rfl (.td λ_ _ _=>by simp) (x:= .ref (16*s+14)) ?_) Bf (xm _ _ _ (.inr (.inl rfl)) Bh) h
   simp only[VR]
   exact⟨by rw[ag];simp,by rw[hv];simp[updν]⟩
  ·rename_i id hT
   rw[hT]at hs
   simp only[VR]at hs
   split at h
   ·rename_i e' l hid
    obtain⟨e1,h⟩:=aE h
    cases e1
    have hj:=(hN _ bl).2.1
    refine cF L _ _ M _ K (hC.tr (hC.mem.move hid trivial hj (.inl ⟨rfl,λ_ _ _ _=>by simp⟩)) (.td λ_ _ _=>by simp) (.td λ_ _ _=>by simp) (x:= .ref (16*s+14)) ?_) Bf (xm _ _ _ (.inr (.inl rfl)) Bh) h
    simp only[VR]
    exact⟨by rw[ag];simp,by rw[hs.2];simp[updν]⟩
   ·cases h
  ·cases h
 |(s,.obj τ)::L,σ,acc,M,νA,K,hC,hF,hN,h=>by
  obtain⟨Bf,Bh,xm⟩:=fE hF hN
  unfold dz at h
  have hs:=hC.src s
  split at h
  ·rename_i id hT
   rw[hT]at hs
   split at h
   ·rename_i υ x hid
    obtain⟨e1,h⟩:=aE h
    subst e1
    have hj:=(hN _ bl).2.1
    simp only[VR]at hs
    obtain⟨e,he,eQ⟩:=hs
    rw[hid]at he;cases he
    simp only[AR]at eQ
    obtain⟨_,b,hb,hv⟩:=eQ
    refine cF L _ _ M _ K (hC.tr (hC.mem.move hid trivial hj (.inl ⟨rfl,λ_ _ _ _=>by simp⟩)) (.td λ_ _ _=>by simp) (.td λ_ _ _=>by simp) (x:= .dQ (16*s+14) []) ?_) Bf (xm _ _ _ (.inr (.inl rfl)) Bh) h
    simp only[VR]
    exact⟨_,ag _ _ _,trivial,b,by simp[updν,hb],hv⟩
   ·
    rename_i υ x q k hid
    obtain⟨z,ups,M2,hK,KF,df,Tq,b,cs,t,hb,hg,Ae,fg⟩: ∃z ups M2,bc υ τ z (λy=>dz L ((σ.pb ups).dT id (some .gone)) ((acc.put s (.dQ (16*s+14) [])).dT (16*s+14) (some (.obj τ y))) K)=some r∧zw (a8 σ.H ups) σ.H∧
      Tr c (dg σ.H acc.H) w M (mix ν νA) (dg (a8 σ.H ups) acc.H) w M2 (mix ν νA)∧a8 σ.H ups id=some (.dj υ x q k)∧ ∃b cs t,ν id= .pointer (some ⟨b,0,none⟩)∧w.heap[b]? =some (.cells cs t (0,0))∧M2 b∧Rd w M2 υ cs.toList z:=by
     have Ts:=dC (B:=acc.H) hid
     unfold tj at h
     split at h
     ·rename_i e l hk
      have eX:id≠k:=λe=>by rw[e,hk]at hid;cases hid
      obtain⟨z,ups,M2,hK,df,_,Lb,b,cs,t,hb,hg,Ae,fg⟩:=nK (H:=dg σ.H acc.H) hC.mem (id:=2*id) (j:=2*k) (x:=x) (q:=q)
       (k:=λz _=>bc υ τ z λy=>dz L ((σ.pb [(k,some (.jk e l))]).dT id (some .gone)) ((acc.put s (.dQ (16*s+14) [])).dT (16*s+14) (some (.obj τ y))) K) Ts (by
        unfold tj
        rw[dC hk]
        exact h)
      rw[dE]at hb
      rcases Lb with⟨e2,l2,h2,_⟩|⟨e2,l2,h2,rfl⟩
      ·rw[dC hk]at h2;simp[az.re]at h2
      ·rw[dC hk]at h2
       simp only[az.re,cK]at h2
       have Ln:some (az.jk e l)=(some (az.jk e l)).map (az.re ml):=rfl
       have pv:Tr c (dg σ.H acc.H) w M (mix ν νA) (aC (dg σ.H acc.H) (2*k) (some (.jk e l))) w M2 (mix ν νA):=by
        cases h2;exact df
       rw[Ln,iW]at pv
       exact⟨z,_,M2,hK,.td (λ_ _ _=>by simp),pv,by show aC σ.H k _ id=_;rw[aj _ _ eX];exact hid,b,cs,t,hb,hg,Ae,fg⟩
     ·rename_i e l hk
      obtain⟨z,ups,M2,hK,df,_,Lb,b,cs,t,hb,hg,Ae,fg⟩:=nK (H:=dg σ.H acc.H) hC.mem (id:=2*id) (j:=2*k) (x:=x) (q:=q)
       (k:=λz _=>bc υ τ z λy=>dz L ((σ.pb []).dT id (some .gone)) ((acc.put s (.dQ (16*s+14) [])).dT (16*s+14) (some (.obj τ y))) K) Ts (by
        unfold tj
        rw[dC hk]
        exact h)
      rw[dE]at hb
      rcases Lb with⟨e2,l2,h2,rfl⟩|⟨e2,l2,h2,_⟩
      ·exact⟨z,[],M2,hK,.rfl,df,hid,b,cs,t,hb,hg,Ae,fg⟩
      ·rw[dC hk]at h2;simp[az.re]at h2
     ·cases h
    obtain⟨e1,hK⟩:=aE hK
    subst e1
    have XD:Cut fl c0 c ⟨σ.T,a8 σ.H ups⟩ acc tm w M2 ν νA:=⟨df.mem,λi=>VR.aV df.aV df.goes.left (hC.src i),λi=>VR.aV df.aV df.goes.right (hC.dst i),λhf=>(hC.cV hf).step df.goes KF .rfl⟩
    have oP:=Tr.SW (e':= .obj υ z) df.mem (dC Tq) trivial trivial rfl (λ_ _=>by simp) (by rw[dE];simp only[ER];exact⟨b,cs,t,hb,hg,Ae,fg⟩) (λ_ _ _ _ h=>by cases h)
    have Ln:some (az.obj υ z)=(some (az.obj υ z)).map (az.re ml):=rfl
    rw[Ln,iW]at oP
    have hC3:Cut fl c0 c ⟨σ.T,aC (a8 σ.H ups) id (some (.obj υ z))⟩ acc tm w M2 ν νA:=⟨oP.mem,λi=>VR.aV oP.aV oP.goes.left (XD.src i),λi=>VR.aV oP.aV oP.goes.right (XD.dst i),λhf=>(XD.cV hf).step oP.goes (.td λ_ _ _=>by simp) .rfl⟩
    have hj:=(hN _ bl).2.1
    simp only[VR]at hs
    obtain⟨e,he,eQ⟩:=hs
    rw[hid]at he;cases he
    simp only[AR]at eQ
    obtain⟨_,b',bT,hv⟩:=eQ
    rw[hb]at bT;cases bT
    have Wt:=hC3.mem.move (ag _ _ _) trivial hj (.inl ⟨rfl,λ_ _ _ _=>by simp⟩)
    rw[qT]at Wt
    have zo:(σ.pb ups).dT id (some .gone)=⟨σ.T,aC (a8 σ.H ups) id (some .gone)⟩:=by
     have h2:σ.pb ups=⟨σ.T,a8 σ.H ups⟩:=by rw[←D5,←D6 ups σ]
     rw[h2];rfl
    rw[zo]at hK
    refine cF L _ _ M2 _ K (hC3.tr Wt (λi e l o hi=>by
     by_cases aI:i=id
     ·subst aI;rw[ag]at hi;cases hi
     ·rw[aj _ _ aI]at hi;show aC _ id _ i=_;rw[aj _ _ aI];exact hi) (.td λ_ _ _=>by simp) (x:= .dQ (16*s+14) []) ?_) Bf (xm _ _ _ (.inr (.inl rfl)) Bh) hK
    simp only[VR]
    exact⟨_,ag _ _ _,trivial,b,by simp[updν,hb],hv⟩
   ·cases h
  ·cases h
 |(s,.dj τ q e)::L,σ,acc,M,νA,K,hC,hF,hN,h=>by
  obtain⟨Bf,Bh,xm⟩:=fE hF hN
  unfold dz at h
  have hs:=hC.src s
  split at h
  ·rename_i id hT
   rw[hT]at hs
   split at h
   ·rename_i υ x q' k hid
    obtain⟨Hy,h1⟩:=aP h
    clear h
    have:=qR Hy
    subst this
    split at h1
    ·rename_i e' l hk
     obtain⟨e1,h2⟩:=aE h1
     clear h1
     subst e1
     obtain⟨e2,h⟩:=aE h2
     cases e2
     have eX:id≠k:=λe=>by rw[e,hk]at hid;cases hid
     obtain⟨XE,XF,_⟩:=hN _ bl
     simp only[VR]at hs
     obtain⟨e,he,eQ⟩:=hs
     rw[hid]at he;cases he
     simp only[AR]at eQ
     obtain⟨_,b,hb,hv⟩:=eQ
     have fM:=hC.mem.move hk trivial XE (.inl ⟨rfl,λ_ _ _ _=>by simp⟩)
     have jV:aC σ.H k (some .gone) id=some (.dj υ x q k):=by rw[aj _ _ eX];exact hid
     have kI:=fM.mem.move jV trivial (j:=16*s+14) (e1:= .dj υ x q (16*s+13)) (by rw[aj _ _ ω];exact XF)
      (.inr ⟨υ,x,q,k,16*s+13,rfl,rfl,by rw[ag];simp,by simp[updν]⟩)
     refine cF L _ _ M _ K (hC.tr (fM.trans kI) (.trans (.td λ_ _ _=>by simp) (.td λ_ _ _=>by simp)) (.trans (.td λ_ _ _=>by simp) (.td λ_ _ _=>by simp)) (s:=s) (x:= .dQ (16*s+14) []) ?_) Bf (xm _ _ _ (.inr (.inl rfl)) (xm _ _ _ (.inl rfl) Bh)) h
     simp only[VR]
     exact⟨_,ag _ _ _,trivial,b,by simp[updν,hb],hv⟩
    ·cases h1
   ·cases h
  ·cases h
 |(s,.same s')::L,σ,acc,M,νA,K,hC,hF,hN,h=>by
  obtain⟨Bf,Bh,xm⟩:=fE hF hN
  unfold dz at h
  split at h
  ·rename_i i j j' h1 h2 h3
   obtain⟨hb,h⟩:=aP h
   have hb:=cJ hb
   have e1:=hC.src s
   have e2:=hC.src s'
   have e3:=hC.dst s'
   rw[h1]at e1;rw[h2]at e2;rw[h3]at e3
   simp only[VR]at e1 e2 e3
   refine cF L σ _ M νA K (hC.tr (.refl hC.mem) .rfl .rfl (x:= .ref j') ?_) Bf Bh h
   simp only[VR]
   exact⟨e3.1,by rw[e1.2,hb,←e2.2,e3.2]⟩
  ·cases h
 |(s,.io τ)::L,σ,acc,M,νA,K,hC,hF,hN,h=>by
  obtain⟨Bf,Bh,xm⟩:=fE hF hN
  unfold dz at h
  have hs:=hC.src s
  split at h
  ·rename_i id hT
   rw[hT]at hs
   obtain⟨_,h⟩:=aP h
   split at h
   ·rename_i υ x hid
    obtain⟨e1,h⟩:=aE h
    subst e1
    have hj:=(hN _ bl).2.2
    simp only[VR]at hs
    obtain⟨e,he,eQ⟩:=hs
    rw[hid]at he;cases he
    simp only[AR]at eQ
    obtain⟨_,b,hb,hv⟩:=eQ
    refine cF L _ _ M _ K (hC.tr (hC.mem.move hid trivial hj (.inl ⟨rfl,λ_ _ _ _=>by simp⟩)) (.td λ_ _ _=>by simp) (.td λ_ _ _=>by simp) (x:= .dQ (16*s+15) []) ?_) Bf (xm _ _ _ (.inr (.inr rfl)) Bh) h
    simp only[VR]
    exact⟨_,ag _ _ _,trivial,b,by simp[updν,hb],hv⟩
   ·cases h
  ·cases h
 |(s,.fn f τ)::L,σ,acc,M,νA,K,hC,hF,hN,h=>by
  obtain⟨Bf,Bh,xm⟩:=fE hF hN
  unfold dz at h
  have hs:=hC.src s
  split at h
  ·rename_i f' cs hT
   rw[hT]at hs
   obtain⟨hb,h1⟩:=aP h
   clear h
   have hb:=cJ hb
   subst hb
   simp only[VR]at hs
   obtain⟨us,hv,K5⟩:=hs
   obtain⟨y,rd,ups,h,hy⟩:=xi hC.mem.left K5 h1
   split at h
   ·refine cF L σ _ M νA K (hC.tr (.refl hC.mem) .rfl .rfl (x:= .BD f (kg τ y)) ?_) Bf Bh h
    simp only[VR]
    exact⟨us,hv,eE.free (hy rfl)⟩
   ·cases h
  ·cases h
 |(s,.cV e)::L,σ,acc,M,νA,K,hC,hF,hN,h=>by
  obtain⟨Bf,Bh,xm⟩:=fE hF hN
  unfold dz at h
  have hs:=hC.src s
  split at h
  ·rename_i id hT
   rw[hT]at hs
   simp only[VR]at hs
   split at h
   ·rename_i e' l hid
    obtain⟨e1,h1⟩:=aE h
    clear h
    cases e1
    obtain⟨h7,h⟩:=fC h1
    have hj:=(hN _ bl).2.1
    have hg:=Tr.gone hC.mem (2*id)
    have XC:(some az.gone)=(some az.gone).map (az.re ml):=rfl
    rw[XC,iW]at hg
    have fM:=hg.mem.ghost (id:=2*(16*s+14)+1) (e:= .cV e l none) (v:=ν id) (by simp[az.mut]) (λ_=>by simp[ER]) (.inl (by rw[iA,hj];rfl))
    have Al:=eI.put (ν:=mix ν νA) (H:=dg (aC σ.H id (some .gone)) acc.H) (id:=2*(16*s+14)+1) (by rw[iA,hj];rfl) (.cV e l none) (ν id)
    have Ll:(some (az.cV e l none))=(some (az.cV e l none)).map (az.re mr):=rfl
    rw[Ll,lj,updν_mix_r]at fM Al
    have kI:=fM.ghost (id:=2*7+1) (e:= .gone) (v:=mix ν (updν νA (16*s+14) (ν id)) (2*7+1)) (by simp[az.mut]) (λ_=>by simp[ER]) (.inr rfl)
    have E2:=eI.gone (ν:=mix ν (updν νA (16*s+14) (ν id))) (H:=dg (aC σ.H id (some .gone)) (aC acc.H (16*s+14) (some (.cV e l none)))) (2*7+1)
    have hg7:(some az.gone)=(some az.gone).map (az.re mr):=rfl
    rw[updν_self]at kI
    rw[hg7,lj]at kI E2
    have hgs:=(hg.goes.trans Al).trans E2
    refine cF L ⟨σ.T,aC σ.H id (some .gone)⟩ ⟨(acc.put s (.ref (16*s+14))).T,aC (aC acc.H (16*s+14) (some (.cV e l none))) 7 (some .gone)⟩ M (updν νA (16*s+14) (ν id)) K
     ⟨kI,λi=>VR.aV hg.aV hgs.left (hC.src i),λi=> ?_,λhf=> ?_⟩ Bf (λp hp=> ?_) h
    ·show VR w M _ _ ((acc.put s (.ref (16*s+14))).T i) _
     by_cases hi:i=s
     ·subst hi;rw[lf]
      simp only[VR]
      exact⟨by rw[aj _ _ ω,ag];simp,by rw[hs.2];simp[updν]⟩
     ·rw[pB _ _ hi];exact VR.aV hg.aV hgs.right (hC.dst i)
    ·have Wu:=hC.cV hf
     have key: ∀i e1 l1 o1,dg (aC σ.H id (some .gone)) (aC (aC acc.H (16*s+14) (some (.cV e l none))) 7 (some .gone)) i=some (.cV e1 l1 o1)→i=2*(16*s+14)+1∧az.cV e l none= .cV e1 l1 o1:=λi e1 l1 o1 hi=>by
      by_cases jC:i=2*(16*s+14)+1
      ·subst jC;rw[iA,aj _ _ ω,ag]at hi
       exact⟨rfl,by simpa [az.re]using hi⟩
      ·exfalso
       have h0:dg (aC σ.H id (some .gone)) acc.H i=some (.cV e1 l1 o1):=by
        have h3:zw (dg (aC σ.H id (some .gone)) (aC (aC acc.H (16*s+14) (some (.cV e l none))) 7 (some .gone))) (dg (aC σ.H id (some .gone)) (aC acc.H (16*s+14) (some (.cV e l none)))):=zw.mix .rfl (.td λ_ _ _=>by simp)
        have h4:=h3 _ _ _ _ hi
        rw[←lj,aj _ _ jC]at h4
        exact h4
       have h1:=(zw.mix (.td λ_ _ _=>by simp) .rfl) _ _ _ _ h0
       have h2:=Wu.one _ _ _ _ _ _ _ _ h1 (dC (B:=acc.H) hid)
       subst h2
       rw[mN,ag]at h0
       simp[az.re]at h0
     refine⟨λyK=>(by have yK:aC (aC acc.H (16*s+14) (some (.cV e l none))) 7 (some .gone) 7=none:=yK;rw[ag]at yK;cases yK),λi j e1 l1 o1 e2 l2 o2 hi IB=>(by rw[(key _ _ _ _ hi).1,(key _ _ _ _ IB).1]),λi e1 l1 o1 hi=> ?_⟩
     obtain⟨rfl,he⟩:=key _ _ _ _ hi
     cases he
     have:=Wu.mem (2*id) e l none (dC hid)
     rw[dE]at this
     rw[mw]
     simpa [updν]using this
    ·obtain⟨XG,XH,h15⟩:=xm acc.H (16*s+14) (some (.cV e l none)) (.inr (.inl rfl)) Bh p hp
     exact⟨(aj (aC acc.H (16*s+14) (some (.cV e l none))) (some .gone) (d:=7) ω).trans XG,(aj (aC acc.H (16*s+14) (some (.cV e l none))) (some .gone) (d:=7) ω).trans XH,(aj (aC acc.H (16*s+14) (some (.cV e l none))) (some .gone) (d:=7) ω).trans h15⟩
   ·cases h
  ·cases h
theorem qX(hI:Inv c E σ a w){L:Option (List (Nat×CM))}(hL: ∀L',L=some L'→fp L'=true){K:St→Option α}(h:pk L σ K=some r): ∃σ',K σ'=some r∧Inv c E σ' a w:=by
 unfold pk at h
 split at h
 ·exact⟨σ,h,hI⟩
 ·have Ix:=hL _ rfl
  obtain⟨⟨d,M,ν,hle,hc,yZ⟩,hs,hd⟩:=hI
  have Wu:E.cV=true→CF c d σ.H (λ_=>none) ν (λ_=>undef):=λhf=>by
   have yZ:=yZ hf
   have key: ∀i e l o,dg σ.H (λ_=>none) i=some (.cV e l o)→ ∃k,i=2*k∧σ.H k=some (.cV e l o):=λi e l o hi=>by
    by_cases h3:i%2=0
    ·obtain⟨k',rfl⟩: ∃k',i=2*k':=⟨i/2,ω⟩
     refine⟨k',rfl,?_⟩
     rw[mN]at hi
     cases hk:σ.H k' with
     |none=>rw[hk]at hi;cases hi
     |some y=>rw[hk]at hi;cases y<;>simp[az.re]at hi ⊢ <;>exact hi
    ·obtain⟨k',rfl⟩: ∃k',i=2*k'+1:=⟨i/2,ω⟩
     rw[iA]at hi;cases hi
   refine⟨λ_ i e l o hi=>(by cases hi),λi j e l o e' l' o' hi hj=> ?_,λi e l o hi=> ?_⟩
   ·obtain⟨k,rfl,hk⟩:=key _ _ _ _ hi
    obtain⟨k',rfl,nf⟩:=key _ _ _ _ hj
    rw[yZ.one k k' _ _ _ _ _ _ hk nf]
   ·obtain⟨k,rfl,hk⟩:=key _ _ _ _ hi
    rw[dE];exact yZ.mem k e l o hk
  obtain⟨IF,M',νA',hK,Tt,qt⟩:=cF (fl:=E.cV=true) (c0:=c) (tm:=a.tmps) _ σ ⟨λ_=> .any,λ_=>none⟩ M (λ_=>undef) K ⟨hc.mem.Lm _,hc.tmp,λi=>by simp[VR],Wu⟩ Ix (λ_ _=>⟨rfl,rfl,rfl⟩) h
  exact⟨IF,hK,⟨d,M',νA',hle,Tt,qt⟩,hs,hd⟩
end VM
end
section
namespace VM
open Go
variable{α:Type}{r:α}
theorem bR{υ τ:Ty}{y:υ.den}{k:τ.den→Option α}(h:bc υ τ y k=some r): ∃z,k z=some r∧ ∀k':τ.den→Option α,bc υ τ y k'=k' z:=by
 obtain⟨e,h⟩:=aE h
 subst e
 exact⟨y,h,λk'=>by simp[bc]⟩
theorem dr{υ τ:Ty}{k:Option α}(h:ef υ τ k=some r):k=some r∧ ∀k':Option α,ef υ τ k'=k':=by
 obtain⟨e,h1⟩:=bU h
 clear h
 subst e
 exact⟨h1,λk'=>by simp[ef]⟩
theorem ch{b:Bool}{K:Option α}(h:cond b K none=some r):K=some r∧ ∀K':Option α,cond b K' none=K':=by
 obtain⟨rfl,h⟩:=aP h
 exact⟨h,λ_=>rfl⟩
theorem nj{b:Bool}{K:Option α}(h:cond b none K=some r):K=some r∧ ∀K':Option α,cond b none K'=K':=by
 obtain⟨rfl,h⟩:=g5 h
 exact⟨h,λ_=>rfl⟩
theorem p6: ∀{τ:Ty} {x:τ.den} {n:Nat} {k:(υ:Ty)→υ.den→Option α},nC τ x n k=some r→ ∃υ y,k υ y=some r∧ ∀k':(υ:Ty)→υ.den→Option α,nC τ x n k'=k' υ y
 | .pair a b,x,0,k,h=>⟨a,x.1,h,λ_=>rfl⟩
 | .pair a b,x,n+1,k,h=>by
  obtain⟨υ,y,h1,h2⟩:=p6 (τ:=b) (x:=x.2) (n:=n) (k:=k) h
  exact⟨υ,y,h1,λk'=>h2 k'⟩
 | .int _,_,_,_,h| .bool,_,_,_,h| .str,_,_,_,h| .slice _,_,_,_,h| .unit,_,_,_,h| .arr _ _,_,_,_,h=>by simp[nC]at h
theorem qY: ∀{τ:Ty} {x:τ.den} {n:Nat} {m:(υ:Ty)→υ.den→(υ.den→Option α)→Option α} {k:τ.den→Option α},
  (∀υ y (k:υ.den→Option α),m υ y k=some r→ ∃z,k z=some r∧ ∀k':υ.den→Option α,m υ y k'=k' z)→c8 τ x n m k=some r→ ∃z,k z=some r∧ ∀k':τ.den→Option α,c8 τ x n m k'=k' z
 | .pair a b,x,0,m,k,hm,h=>by
  obtain⟨z,h1,h2⟩:=hm a x.1 _ h
  exact⟨(z,x.2),h1,λk'=>h2 _⟩
 | .pair a b,x,n+1,m,k,hm,h=>by
  obtain⟨z,h1,h2⟩:=qY (τ:=b) (x:=x.2) (n:=n) (m:=m) (k:=λz=>k (x.1,z)) hm h
  exact⟨(x.1,z),h1,λk'=>h2 (λz=>k' (x.1,z))⟩
 | .int _,_,_,_,_,_,h| .bool,_,_,_,_,_,h| .str,_,_,_,_,_,h| .slice _,_,_,_,_,_,h| .unit,_,_,_,_,_,h| .arr _ _,_,_,_,_,_,h=>by simp[c8]at h
theorem dL: ∀{p:List Step} {τ:Ty} {x:τ.den} {k:(υ:Ty)→υ.den→Option α},si p τ x k=some r→ ∃υ y,k υ y=some r∧ ∀k':(υ:Ty)→υ.den→Option α,si p τ x k'=k' υ y
 |[],τ,x,k,h=>⟨τ,x,h,λ_=>rfl⟩
 | .dS n::p,τ,x,k,h=>by
  obtain⟨υ,y,h1,h2⟩:=p6 (h:nC τ x n _=some r)
  obtain⟨υ',y',h3,h4⟩:=dL h1
  exact⟨υ',y',h3,λk'=>(h2 _).trans (h4 k')⟩
 | .idx i::p,τ,x,k,h=>by
  cases τ with
  |arr n e=>
   obtain⟨υ',y',h3,h4⟩:=dL (p:=p) (τ:=e) (x:=γ x i e.zero) (k:=k) h
   exact⟨υ',y',h3,λk'=>h4 k'⟩
  |_=>simp[si,OJ]at h
theorem jn{υ:Ty}{y:υ.den}: ∀{p:List Step} {τ:Ty} {x:τ.den} {k:τ.den→Option α},oL υ y p τ x k=some r→ ∃z,k z=some r∧ ∀k':τ.den→Option α,oL υ y p τ x k'=k' z
 |[],τ,x,k,h=>bR h
 | .dS n::p,τ,x,k,h=>qY (λ_ _ _ h=>jn h) h
 | .idx i::p,τ,x,k,h=>by
  cases τ with
  |arr n e=>
   obtain⟨z,h1,h2⟩:=jn (p:=p) (τ:=e) (x:=γ x i e.zero) (k:=λz=>k (List.set x i z)) h
   exact⟨_,h1,λk'=>h2 (λz=>k' (List.set x i z))⟩
  |_=>simp[oL,vL]at h
theorem kD{a:aF}{k:IntKind→Int→Option α}(h:oM a k=some r): ∃i n,k i n=some r∧ ∀k':IntKind→Int→Option α,oM a k'=k' i n:=by
 obtain⟨i,n,rfl,h⟩:=iy h
 exact⟨i,n,h,λ_=>rfl⟩
theorem E8{a:aF}{k:(τ:Ty)→τ.den→Option α}(h:BF a k=some r): ∃τ x,k τ x=some r∧ ∀k':(τ:Ty)→τ.den→Option α,BF a k'=k' τ x:=by
 unfold BF at h
 split at h
 ·exact⟨_,_,h,λ_=>rfl⟩
 ·cases h
theorem nP{a:Option aF}{d:Int}{k:Int→Option α}(h:qo a d k=some r): ∃n,k n=some r∧ ∀k':Int→Option α,qo a d k'=k' n:=by
 cases a with
 |none=>exact⟨d,h,λ_=>rfl⟩
 |some a=>
  obtain⟨i,n,h1,h2⟩:=kD (h:oM a (λ_ x=>k x)=some r)
  exact⟨n,h1,λk'=>h2 (λ_ x=>k' x)⟩
abbrev Ag(rd:List Nat)(H H':Nat→Option az):Prop:= ∀i∈rd,H' i=H i
theorem jo{fz:Bool}{a:aF}{H:Nat→Option az}{τ:Ty}{k:τ.den→List Nat→dR→Option α}(h:gS fz a H τ k=some r):
  ∃y rd ups,k y rd ups=some r∧ ∀H',Ag rd H H'→ ∀k':τ.den→List Nat→dR→Option α,gS fz a H' τ k'=k' y rd ups:=by
 cases a with
 |val υ x=>
  simp only[gS]at h
  obtain⟨z,h1,h2⟩:=bR h
  refine⟨z,[],[],h1,λH' _ k'=> ?_⟩
  simp only[gS]
  exact h2 (λy=>k' y [] [])
 |zZ υ x n=>
  simp only[gS]at h
  obtain⟨z,h1,h2⟩:=bR h
  refine⟨z,[],[],h1,λH' _ k'=> ?_⟩
  simp only[gS]
  exact h2 (λy=>k' y [] [])
 |emp=>
  cases τ with
  |slice e=>exact⟨[],[],[],h,λ_ _ _=>rfl⟩
  |_=>cases h
 |ref id=>
  have h:(match H id with
   |some (.own e l)=>bc (.slice e) τ l λy=>k y [id] (cond fz [(id,some (.jk e l))] [])
   |some (.jk e l)=>bc (.slice e) τ l λy=>k y [id] []
   |_=>none)=some r:=h
  cases hH:H id with
  |none=>rw[hH]at h;cases h
  |some e=>
   rw[hH]at h
   cases e with
   |own e l=>
    obtain⟨z,h1,h2⟩:=bR (h:bc (.slice e) τ l _=some r)
    refine⟨z,_,_,h1,λH' hA k'=> ?_⟩
    have:H' id=some (.own e l):=by rw[hA id (by simp),hH]
    show(match H' id with
     |some (.own e l)=>bc (.slice e) τ l λy=>k' y [id] (cond fz [(id,some (.jk e l))] [])
     |some (.jk e l)=>bc (.slice e) τ l λy=>k' y [id] []
     |_=>none)=_
    rw[this];exact h2 _
   |jk e l=>
    obtain⟨z,h1,h2⟩:=bR (h:bc (.slice e) τ l _=some r)
    refine⟨z,_,_,h1,λH' hA k'=> ?_⟩
    have:H' id=some (.jk e l):=by rw[hA id (by simp),hH]
    show(match H' id with
     |some (.own e l)=>bc (.slice e) τ l λy=>k' y [id] (cond fz [(id,some (.jk e l))] [])
     |some (.jk e l)=>bc (.slice e) τ l λy=>k' y [id] []
     |_=>none)=_
    rw[this];exact h2 _
   |obj _ _=>cases h
   |dj _ _ _ _=>cases h
   |cV _ _ _=>cases h
   |gone=>cases h
 |any|HS|dQ _ _|kW _ _|Sa _|BD _ _|yM _ _ _ _|sub _ _ _=>cases h
theorem p7{id:Nat}{p:List Step}{H:Nat→Option az}{k:Ty→Option α}(h:gi id p H k=some r): ∃υ,k υ=some r∧ ∀H',H' id=H id→ ∀k':Ty→Option α,gi id p H' k'=k' υ:=by
 unfold gi at h
 split at h
 ·rename_i τ x hid
  obtain⟨υ,y,h1,h2⟩:=dL h
  exact⟨υ,h1,λH' hA k'=>by unfold gi;rw[hA,hid];exact h2 _⟩
 ·rename_i τ x _ _ hid
  obtain⟨υ,y,h1,h2⟩:=dL h
  exact⟨υ,h1,λH' hA k'=>by unfold gi;rw[hA,hid];exact h2 _⟩
 ·rename_i e l hid
  split at h
  ·obtain⟨υ,y,h1,h2⟩:=dL h
   exact⟨υ,h1,λH' hA k'=>by unfold gi;rw[hA,hid];exact h2 _⟩
  ·cases h
 ·rename_i e l hid
  split at h
  ·obtain⟨υ,y,h1,h2⟩:=dL h
   exact⟨υ,h1,λH' hA k'=>by unfold gi;rw[hA,hid];exact h2 _⟩
  ·cases h
 ·cases h
theorem p8{H:Nat→Option az}{id:Nat}{e:az}{K:Option α}(h:ku H id e K=some r):K=some r∧ ∀H',H' id=H id→ ∀(e':az) (K':Option α),ku H' id e' K'=K':=by
 obtain⟨h1,h2⟩:=fC h
 exact⟨h2,λH' hA e' K'=>by unfold ku;rw[hA,h1]⟩
theorem Gu{b:BinOp}{k:IntKind}{x y:Int}{K:aF→Option α}(h:nD b k x y K=some r): ∃v,K v=some r∧ ∀K':aF→Option α,nD b k x y K'=K' v:=by
 cases b<;>simp only[nD]at h ⊢ <;>first
  |exact⟨_,h,λ_=>rfl⟩
  |(obtain⟨h1,h2⟩:=nj h;exact⟨_,h1,λ_=>h2 _⟩)
  |cases h
theorem Pr{b:BinOp}{k:IntKind}{x y:Int}{K:aF→Option α}(h:KU b k x y K=some r): ∃v,K v=some r∧ ∀K':aF→Option α,KU b k x y K'=K' v:=by
 cases b<;>simp only[KU]at h ⊢ <;>first
  |(obtain⟨h1,h2⟩:=nj h;exact⟨_,h1,λ_=>h2 _⟩)
  |cases h
theorem IG{t:Option Ty}{op:BinOp}{τ:Ty}{x:τ.den}{υ:Ty}{y:υ.den}{K:aF→Option α}(h:wV t op τ x υ y K=some r): ∃v,K v=some r∧ ∀K':aF→Option α,wV t op τ x υ y K'=K' v:=by
 unfold wV at h ⊢
 split at h
 ·rename_i k x k' y
  cases hs:KV op
  ·rw[hs]at h
   have h:(if k=k' then nD op k x y K else none)=some r:=h
   by_cases hk:k=k'
   ·rw[ae hk]at h
    obtain⟨v,h1,h2⟩:=Gu h
    exact⟨v,h1,λK'=>by simp only[ah,ae hk];exact h2 K'⟩
   ·rw[af hk]at h;cases h
  ·rw[hs]at h
   obtain⟨v,h1,h2⟩:=Pr (h:KU op k x y K=some r)
   exact⟨v,h1,λK'=>by simp only[aa];exact h2 K'⟩
 ·split at h
  ·cases h
  ·obtain⟨h1,h2⟩:=dr h
   obtain⟨h3,h4⟩:=ch h1
   split at h3
   ·obtain⟨z,h5,h6⟩:=bR h3
    exact⟨_,h5,λK'=>by rw[h2,h4];exact h6 _⟩
   ·obtain⟨z,h5,h6⟩:=bR h3
    exact⟨_,h5,λK'=>by rw[h2,h4];exact h6 _⟩
   ·cases h3
theorem Lo{u:UnOp}{a:aF}{K:aF→Option α}(h:FZ u a K=some r): ∃v,K v=some r∧ ∀K':aF→Option α,FZ u a K'=K' v:=by
 unfold FZ at h
 split at h<;>first
  |exact⟨_,h,λ_=>rfl⟩
  |cases h
theorem Ef{up:Bool}: ∀{xs:List aF} {a:aF} {K:aF→Option α},KA up a xs K=some r→ ∃v,K v=some r∧ ∀K':aF→Option α,KA up a xs K'=K' v
 |[],a,K,h=>⟨a,h,λ_=>rfl⟩
 |b::xs,a,K,h=>by
  unfold KA at h
  obtain⟨k,x,h1,h2⟩:=kD h
  obtain⟨k',y,h3,h4⟩:=kD h1
  by_cases hk:k=k'
  ·rw[ae hk]at h3
   obtain⟨v,h5,h6⟩:=Ef h3
   refine⟨v,h5,λK'=> ?_⟩
   unfold KA
   rw[h2,h4,ae hk]
   exact h6 K'
  ·rw[af hk]at h3;cases h3
theorem Lp{τ:Ty}{a:aF}{H:Nat→Option az}{K:dp α}(h:BG τ a H K=some r): ∃v rd ups,K v rd ups=some r∧ ∀H',Ag rd H H'→ ∀K':dp α,BG τ a H' K'=K' v rd ups:=by
 unfold BG at h
 split at h
 ·exact⟨_,_,_,h,λ_ _ _=>rfl⟩
 ·exact⟨_,_,_,h,λ_ _ _=>rfl⟩
 ·exact⟨_,_,_,h,λ_ _ _=>rfl⟩
 ·exact⟨_,_,_,h,λ_ _ _=>rfl⟩
 ·split at h
  ·rename_i hid
   exact⟨_,_,_,h,λH' hA K'=>by unfold BG;simp only;rw[hA _ (by simp),hid]⟩
  ·rename_i hid
   exact⟨_,_,_,h,λH' hA K'=>by unfold BG;simp only;rw[hA _ (by simp),hid]⟩
  ·cases h
 ·cases h
theorem Lq{id:Nat}{e:Ty}{a b:aF}{H:Nat→Option az}{K:dp α}(h:BH id e a b H K=some r): ∃v rd ups,K v rd ups=some r∧id∈rd∧ ∀H',Ag rd H H'→ ∀K':dp α,BH id e a b H' K'=K' v rd ups:=by
 unfold BH at h
 obtain⟨ys,rd,ups,h1,h2⟩:=jo h
 split at h1
 ·obtain⟨h3,h4⟩:=ch h1
  refine⟨_,_,_,h3,by simp,λH' hA K'=> ?_⟩
  unfold BH
  rw[h2 H' (λi hi=>hA i (aR _ hi))]
  exact h4 _
 ·rename_i j
  split at h1
  ·rename_i e' l hj
   obtain⟨z,h3,h4⟩:=bR h1
   obtain⟨h5,h6⟩:=ch h3
   refine⟨_,_,_,h5,by simp,λH' hA K'=> ?_⟩
   unfold BH
   rw[h2 H' (λi hi=>hA i (aR _ (aR _ hi)))]
   simp only
   rw[hA j (by simp),hj]
   simp only
   rw[h4]
   exact h6 _
  ·cases h1
 ·cases h1
theorem xt{e:Ty}{n:Nat}{H:Nat→Option az}: ∀{ps:List (Nat×aF)} {l:List e.den} {zx:List Nat} {xu:dR} {K:List e.den→List Nat→dR→Option α},pd e H n ps l zx xu K=some r→
  ∃l' rd ups,K l' rd ups=some r∧(∀i∈zx,i∈rd)∧ ∀H',Ag rd H H'→ ∀K':List e.den→List Nat→dR→Option α,pd e H' n ps l zx xu K'=K' l' rd ups
 |[],l,zx,xu,K,h=>⟨l,zx,xu,h,λ_ h=>h,λ_ _ _=>rfl⟩
 |p::ps,l,zx,xu,K,h=>by
  unfold pd at h
  obtain⟨h1,h2⟩:=ch h
  obtain⟨y,Ie,tA,h3,h4⟩:=jo h1
  obtain⟨l',rd,ups,h5,h6,h7⟩:=xt h3
  refine⟨l',rd,ups,h5,λi hi=>h6 i (bF _ hi),λH' hA K'=> ?_⟩
  unfold pd
  rw[h2,h4 H' (λi hi=>hA i (h6 i (bk _ hi)))]
  exact h7 H' hA K'
theorem tC{τ:Ty}{H:Nat→Option az}: ∀{ps:List (Nat×aF)} {x:τ.den} {zx:List Nat} {xu:dR} {K:τ.den→List Nat→dR→Option α},gj τ H ps x zx xu K=some r→
  ∃x' rd ups,K x' rd ups=some r∧(∀i∈zx,i∈rd)∧ ∀H',Ag rd H H'→ ∀K':τ.den→List Nat→dR→Option α,gj τ H' ps x zx xu K'=K' x' rd ups
 |[],x,zx,xu,K,h=>⟨x,zx,xu,h,λ_ h=>h,λ_ _ _=>rfl⟩
 |p::ps,x,zx,xu,K,h=>by
  unfold gj at h
  obtain⟨υ,z,h1,h2⟩:=p6 h
  obtain⟨y,Ie,tA,h3,h4⟩:=jo h1
  obtain⟨z',h5,h6⟩:=qY (m:=fun υ' _ k'=>bc υ υ' y k') (fun υ' y' k hk=>bR hk) h3
  obtain⟨x',rd,ups,h7,h8,h9⟩:=tC h5
  refine⟨x',rd,ups,h7,λi hi=>h8 i (bF _ hi),λH' hA K'=> ?_⟩
  unfold gj
  rw[h2,h4 H' (λi hi=>hA i (h8 i (bk _ hi))),h6]
  exact h9 H' hA K'
theorem IH{H:Nat→Option az}{v:aF}{a:Ty}{k:a.den→List Nat→dR→Option α}(h:ud v H a k=some r):
  ∃x rd ups,k x rd ups=some r∧ ∀H',Ag rd H H'→ ∀k':a.den→List Nat→dR→Option α,ud v H' a k'=k' x rd ups:=by
 unfold ud at h
 split at h
 ·split at h
  ·obtain⟨z,h1,h2⟩:=bR h
   refine⟨_,_,_,h1,λH' _ k'=> ?_⟩
   unfold ud
   simp only
   rw[h2]
  ·cases h
 ·rename_i k0 iU
  obtain⟨y,rd,ups,h1,h2⟩:=jo h
  refine⟨y,rd,ups,h1,λH' hA k'=> ?_⟩
  unfold ud
  split
  ·exact(iU _ _ rfl HEq.rfl).elim
  ·exact h2 H' hA _
theorem Ca{H:Nat→Option az}: ∀{τ:Ty} {vs:List aF} {k:τ.den→List Nat→dR→Option α},kY H τ vs k=some r→
  ∃x rd ups,k x rd ups=some r∧ ∀H',Ag rd H H'→ ∀k':τ.den→List Nat→dR→Option α,kY H' τ vs k'=k' x rd ups
 | .unit,[],k,h=>⟨(),[],[],h,λ_ _ _=>rfl⟩
 | .pair a b,v::vs,k,h=>by
  unfold kY at h
  obtain⟨y,rd,ups,h1,h2⟩:=IH h
  obtain⟨ys,pU,eg,h3,h4⟩:=Ca h1
  refine⟨(y,ys),_,_,h3,λH' hA k'=> ?_⟩
  unfold kY
  rw[h2 H' (λi hi=>hA i (bF _ hi)),h4 H' (λi hi=>hA i (bk _ hi))]
 | .unit,_::_,_,h=>by simp[kY]at h
 | .pair _ _,[],_,h=>by simp[kY]at h
 | .int _,_,_,h| .bool,_,_,h| .str,_,_,h| .slice _,_,_,h| .arr _ _,_,_,h=>by simp[kY]at h
theorem xv: ∀{kv:List aF} {H:Nat→Option az} {K:List aF→List Nat→dR→Option α},pe H kv K=some r→
  ∃cs rd ups,K cs rd ups=some r∧ ∀H',Ag rd H H'→ ∀K':List aF→List Nat→dR→Option α,pe H' kv K'=K' cs rd ups
 |[],H,K,h=>⟨[],[],[],h,λ_ _ _=>rfl⟩
 |a::kv,H,K,h=>by
  unfold pe at h
  split at h
  ·rename_i id
   split at h
   ·rename_i τ x hid
    obtain⟨cs,rd,ups,h1,h2⟩:=xv h
    refine⟨_,_,_,h1,λH' hA K'=> ?_⟩
    unfold pe
    simp only
    rw[hA id (by simp),hid]
    simp only
    rw[h2 (aC H' id (some .gone)) (λi hi=>by
     by_cases aI:i=id
     ·subst aI;rw[ag,ag]
     ·rw[aj _ _ aI,aj _ _ aI];exact hA i (aR _ hi))]
   ·cases h
  ·rename_i iU
   obtain⟨cs,rd,ups,h1,h2⟩:=xv h
   refine⟨_,_,_,h1,λH' hA K'=> ?_⟩
   unfold pe
   split
   ·exact absurd rfl (iU _)
   ·rw[h2 H' hA]
end VM
end
