/- A part of the proof of LotEven of layer 23: a machine that reads a function of the program as an equation between values. -/
import Derived.Test.YthnjnpjmbabcaaaGreatVm5
set_option linter.all false
open List renaming getD→γ
section
namespace VM
open Go
variable{P:Program}{E:Env}{o:Oper}{a:Act}{w:World}{M:Nat→Prop}{ν:Nat→Value}{σ:St}{c:Ctx}{α:Type}{r:α}{next:Act→World→Prop}{Q:Exit→Act→World→Prop}
def mix{β:Type}(A B:Nat→β):Nat→β:=λi=>if i%2=0 then A (i/2)else B (i/2)
theorem gP{β:Type}(A B:Nat→β)(i:Nat):mix A B (2*i)=A i:=by
 unfold mix
 rw[ak ω,show 2*i/2=i from by omega]
theorem sX{β:Type}(A B:Nat→β)(i:Nat):mix A B (2*i+1)=B i:=by
 unfold mix
 rw[ah ω,show(2*i+1)/2=i from by omega]
theorem alq{β:Type}{A B A' B':Nat→β}(hl: ∀i,A i=A' i)(hr: ∀i,B i=B' i):mix A B=mix A' B':=by
 funext i;unfold mix;rw[hl,hr]
def aW.re(f:Nat→Nat):aW→aW
 | .fv τ x p j=> .fv τ x p (f j)
 |e=>e
theorem ER.re{v:Value}{f:Nat→Nat}{e:aW}:ER w M v (e.re f)↔ER w M v e:=by cases e<;>simp[aW.re,ER]
theorem aW.rE{f:Nat→Nat}{e:aW}:(e.re f).mut↔e.mut:=by cases e<;>simp[aW.re,aW.mut]
theorem aW.RX{f g:Nat→Nat}{e e':aW}:(e.re f).kt (e'.re g)↔e.kt e':=by cases e<;>cases e'<;>simp[aW.re,aW.kt]
def ml(i:Nat):Nat:=2*i
def mr(i:Nat):Nat:=2*i+1
def fI(A B:Nat→Option aW):Nat→Option aW:=λi=>if i%2=0 then(A (i/2)).map (aW.re ml)else(B (i/2)).map (aW.re mr)
theorem tv(A B:Nat→Option aW)(i:Nat):fI A B (2*i)=(A i).map (aW.re ml):=by
 unfold fI
 rw[ak ω,show 2*i/2=i from by omega]
theorem nw(A B:Nat→Option aW)(i:Nat):fI A B (2*i+1)=(B i).map (aW.re mr):=by
 unfold fI
 rw[ah ω,show(2*i+1)/2=i from by omega]
theorem gI{A B:Nat→Option aW}{i:Nat}{e:aW}(h:A i=some e):fI A B (2*i)=some (e.re ml):=by rw[tv,h];rfl
theorem oP{A B:Nat→Option aW}{i:Nat}{e:aW}(h:B i=some e):fI A B (2*i+1)=some (e.re mr):=by rw[nw,h];rfl
theorem KC{A B:Nat→Option aW}{i:Nat}:fI A B (2*i)≠none↔A i≠none:=by rw[tv];cases A i<;>simp
theorem KD{A B:Nat→Option aW}{i:Nat}:fI A B (2*i+1)≠none↔B i≠none:=by rw[nw];cases B i<;>simp
theorem oi(A B:Nat→Option aW)(i:Nat)(v:Option aW):bc (fI A B) (2*i) (v.map (aW.re ml))=fI (bc A i v) B:=by
 funext k
 by_cases hk:k=2*i
 ·subst hk;rw[ar,tv,ar]
 ·rw[av _ _ hk]
  unfold fI
  by_cases h2:k%2=0
  ·rw[ak h2,ak h2,av _ _ ω]
  ·rw[ah h2,ah h2]
theorem rF(A B:Nat→Option aW)(i:Nat)(v:Option aW):bc (fI A B) (2*i+1) (v.map (aW.re mr))=fI A (bc B i v):=by
 funext k
 by_cases hk:k=2*i+1
 ·subst hk;rw[ar,nw,ar]
 ·rw[av _ _ hk]
  unfold fI
  by_cases h2:k%2=0
  ·rw[ak h2,ak h2]
  ·rw[ah h2,ah h2,av _ _ ω]
theorem updν_mix_r(A B:Nat→Value)(i:Nat)(v:Value):updν (mix A B) (2*i+1) v=mix A (updν B i v):=by
 funext k
 unfold updν mix
 by_cases hk:k=2*i+1
 ·subst hk;rw[ak rfl,ah ω]
  show v=if(2*i+1)/2=i then v else B ((2*i+1)/2)
  rw[ak ω]
 ·rw[ah hk]
  by_cases h2:k%2=0
  ·rw[ak h2,ak h2]
  ·rw[ah h2,ah h2]
   show B (k/2)=if k/2=i then v else B (k/2)
   rw[ah ω]
theorem Mem.left{H A:Nat→Option aW}{νA:Nat→Value}(h:Mem c (fI H A) w M (mix ν νA)):Mem c H w M ν:=
 ⟨λi e hi=>by have:=h.gT (2*i) _ (gI hi);rw[gP]at this;exact ER.re.1 this,
  λi j e e' b mj hi hm hj iS=>by have:=h.yA (2*i) (2*j) _ _ b ω (gI hi) (aW.rE.2 hm) (gI hj) (aW.rE.2 iS);rwa [gP,gP]at this,
  λi e b hi hm=>by have:=h.new (2*i) _ b (gI hi) (aW.rE.2 hm);rwa [gP]at this,
  λi e l b hi=>by have:=h.yv (2*i) e l b (gI hi);rwa [gP]at this,
  λi τ x p j hi=>by
   obtain⟨h1,b,h2,h3⟩:=h.fv (2*i) τ x p (ml j) (gI hi)
   rw[gP]at h2
   unfold ml at h1 h3
   rw[gP]at h3
   exact⟨KC.1 h1,b,h2,h3⟩,
  h.sub,h.y6,h.frame,h.size,h.og,h.os,h.tape,h.output⟩
theorem Mem.right{H A:Nat→Option aW}{νA:Nat→Value}(h:Mem c (fI H A) w M (mix ν νA)):Mem c A w M νA:=
 ⟨λi e hi=>by have:=h.gT (2*i+1) _ (oP hi);rw[sX]at this;exact ER.re.1 this,
  λi j e e' b mj hi hm hj iS=>by have:=h.yA (2*i+1) (2*j+1) _ _ b ω (oP hi) (aW.rE.2 hm) (oP hj) (aW.rE.2 iS);rwa [sX,sX]at this,
  λi e b hi hm=>by have:=h.new (2*i+1) _ b (oP hi) (aW.rE.2 hm);rwa [sX]at this,
  λi e l b hi=>by have:=h.yv (2*i+1) e l b (oP hi);rwa [sX]at this,
  λi τ x p j hi=>by
   obtain⟨h1,b,h2,h3⟩:=h.fv (2*i+1) τ x p (mr j) (oP hi)
   rw[sX]at h2
   unfold mr at h1 h3
   rw[sX]at h3
   exact⟨KD.1 h1,b,h2,h3⟩,
  h.sub,h.y6,h.frame,h.size,h.og,h.os,h.tape,h.output⟩
theorem Mem.ZS{H:Nat→Option aW}(νA:Nat→Value)(h:Mem c H w M ν):Mem c (fI H (λ_=>none)) w M (mix ν νA):=by
 have key: ∀i e,fI H (λ_=>none) i=some e→ ∃j e0,i=2*j∧H j=some e0∧e=e0.re ml:=by
  intro i e hi
  unfold fI at hi
  by_cases h2:i%2=0
  ·rw[ak h2]at hi
   obtain⟨e0,h3,h4⟩:=zN.1 hi
   exact⟨i/2,e0,ω,h3,h4.symm⟩
  ·rw[ah h2]at hi;cases hi
 refine⟨λi e hi=> ?_,λi j e e' b mj hi hm hj iS=> ?_,λi e b hi hm=> ?_,λi e l b hi=> ?_,λi τ x p j hi=> ?_,h.sub,h.y6,h.frame,h.size,h.og,h.os,h.tape,h.output⟩
 ·obtain⟨j,e0,rfl,hj,rfl⟩:=key i e hi;rw[gP];exact ER.re.2 (h.gT j e0 hj)
 ·obtain⟨i',e1,rfl,mz,rfl⟩:=key i e hi;obtain⟨j',e2,rfl,Qq,rfl⟩:=key j e' hj
  rw[gP,gP];exact h.yA i' j' e1 e2 b ω mz (aW.rE.1 hm) Qq (aW.rE.1 iS)
 ·obtain⟨j,e0,rfl,hj,rfl⟩:=key i e hi;rw[gP];exact h.new j e0 b hj (aW.rE.1 hm)
 ·obtain⟨j,e0,rfl,hj,he⟩:=key i _ hi
  cases e0<;>simp only[aW.re]at he<;>cases he
  rw[gP];exact h.yv j e l b hj
 ·obtain⟨k,e0,rfl,hk,he⟩:=key i _ hi
  cases e0<;>simp only[aW.re]at he<;>cases he
  obtain⟨h1,b,h2,h3⟩:=h.fv k _ _ _ _ hk
  refine⟨KC.2 h1,b,by rw[gP];exact h2,?_⟩
  unfold ml
  rw[gP];exact h3
theorem jC.left{H A H' A':Nat→Option aW}{νA ν' νA':Nat→Value}(g:jC (fI H A) (mix ν νA) (fI H' A') (mix ν' νA')):jC H ν H' ν':=
 ⟨λi e hi=>by
   obtain⟨e',h1,h2⟩:=g.gT (2*i) _ (gI hi)
   rw[tv]at h1
   obtain⟨e0,h3,rfl⟩:=zN.1 h1
   exact⟨e0,h3,aW.RX.1 h2⟩,
  λi hi=>by have:=g.head (2*i) (KC.2 hi);rwa [gP,gP]at this⟩
theorem jC.right{H A H' A':Nat→Option aW}{νA ν' νA':Nat→Value}(g:jC (fI H A) (mix ν νA) (fI H' A') (mix ν' νA')):jC A νA A' νA':=
 ⟨λi e hi=>by
   obtain⟨e',h1,h2⟩:=g.gT (2*i+1) _ (oP hi)
   rw[nw]at h1
   obtain⟨e0,h3,rfl⟩:=zN.1 h1
   exact⟨e0,h3,aW.RX.1 h2⟩,
  λi hi=>by have:=g.head (2*i+1) (KD.2 hi);rwa [sX,sX]at this⟩
theorem Mem.move{H A:Nat→Option aW}{νA:Nat→Value}(h:Mem c (fI H A) w M (mix ν νA)){i j:Nat}{e e1:aW}(hi:H i=some e)(hm:e.mut)(hj:A j=none)
  (Ay:(e1=e∧ ∀τ x p k,e≠ .fv τ x p k)∨ ∃τ x p k k',e= .fv τ x p k∧e1= .fv τ x p k'∧A k'≠none∧νA k'=ν k):
  Tr c (fI H A) w M (mix ν νA) (fI (bc H i (some .gone)) (bc A j (some e1))) w M (mix ν (updν νA j (ν i))):=by
 have hg:=Tr.gone h (2*i)
 have hgo:(some aW.gone)=(some aW.gone).map (aW.re ml):=rfl
 rw[hgo,oi]at hg
 have RV:=gI (B:=A) hi
 have hER:ER w M (ν i) (e1.re mr):=by
  have h1:=h.gT (2*i) _ RV
  rw[gP]at h1
  have h1:=ER.re.1 h1
  rcases Ay with⟨rfl,_⟩|⟨τ,x,p,k,k',rfl,rfl,_,_⟩
  ·exact ER.re.2 h1
  ·exact h1
 have h2:=Mem.vU hg.mem (id:=2*j+1) (v:=ν i) (e:=e1.re mr) (λe' sB=>by rw[nw,hj]at sB;cases sB)
  hER
  (λb hb k e' hk iS=>by
   by_cases EK:k=2*i
   ·subst EK;rw[tv,ar]at hk;cases hk;simp[aW.re,aW.mut]at iS
   ·have hk3:fI H A k=some e':=by
     have:=congrFun (oi H A i (some .gone)) k
     rw[av _ _ EK]at this
     rw[this];exact hk
    have:=h.yA (2*i) k _ e' b (dz EK) RV (aW.rE.2 hm) hk3 iS
    rw[gP]at this
    exact this hb)
  (λb hb=>by have:=h.new (2*i) _ b RV (aW.rE.2 hm);rw[gP]at this;exact this hb)
  (λb e0 l0 he hb=>by
   rcases Ay with⟨rfl,_⟩|⟨τ,x,p,k,k',rfl,rfl,_,_⟩
   ·cases e1<;>simp only[aW.re]at he<;>cases he
    have:=h.yv (2*i) e0 l0 b RV;rw[gP]at this;exact this hb
   ·simp[aW.re]at he)
  (.inl (by rw[nw,hj];rfl))
  (fun τ x p k he=>by
   rcases Ay with⟨rfl,hn⟩|⟨τ,x,p,k,k',rfl,rfl,hk,hνk⟩
   ·cases e1<;>simp only[aW.re]at he<;>cases he
    exact absurd rfl (hn _ _ _ _)
   ·simp only[aW.re]at he
    cases he
    obtain⟨_,b,h4,h5⟩:=h.fv (2*i) _ _ _ _ RV
    rw[gP]at h4
    have hkj:k'≠j:=λe=>hk (e▸hj)
    refine⟨?_,b,h4,?_⟩
    ·rw[av _ _ (by unfold mr;omega)]
     unfold mr
     exact KD.2 hk
    ·unfold ml at h5
     rw[gP]at h5
     rw[h5,←hνk]
     have:updν (mix ν νA) (2*j+1) (ν i) (mr k')=mix ν νA (mr k'):=by
      unfold updν mr;rw[ah ω]
     rw[this];unfold mr;rw[sX])
 have ZT:some (e1.re mr)=(some e1).map (aW.re mr):=rfl
 rw[ZT,rF,updν_mix_r]at h2
 refine⟨h2,.refl w M,⟨λk e' hk=> ?_,λk hk=> ?_⟩⟩
 ·by_cases h3:k%2=0
  ·obtain⟨k',rfl⟩: ∃k',k=2*k':=⟨k/2,ω⟩
   by_cases EN:k'=i
   ·subst EN;exact⟨.gone,by rw[tv,ar];rfl,aW.jG _⟩
   ·exact⟨e',by rw[tv]at hk ⊢;rw[av _ _ EN];exact hk,.refl e'⟩
  ·obtain⟨k',rfl⟩: ∃k',k=2*k'+1:=⟨k/2,ω⟩
   rw[nw]at hk ⊢
   have EN:k'≠j:=λe=>by rw[e,hj]at hk;cases hk
   exact⟨e',by rw[av _ _ EN];exact hk,.refl e'⟩
 ·by_cases h3:k%2=0
  ·obtain⟨k',rfl⟩: ∃k',k=2*k':=⟨k/2,ω⟩
   rw[gP,gP]
  ·obtain⟨k',rfl⟩: ∃k',k=2*k'+1:=⟨k/2,ω⟩
   rw[sX,sX]
   have EN:k'≠j:=λe=>by rw[nw,e,hj]at hk;exact hk rfl
   simp[updν,EN]
theorem Mem.fresh{H A:Nat→Option aW}{νA:Nat→Value}(h:Mem c (fI H A) w M (mix ν νA)){j:Nat}(hj:A j=none)(e:Ty)(ad:Option Addr):
  Tr c (fI H A) w M (mix ν νA) (fI H (bc A j (some (.own e [])))) w M (mix ν (updν νA j (.slice ad 0 0))):=by
 have:=Tr.nothing h (id:=2*j+1) (by rw[nw,hj];rfl) e ad
 have ZT:some (aW.own e [])=(some (aW.own e [])).map (aW.re mr):=rfl
 rw[ZT,rF,updν_mix_r]at this
 exact this
def Je(H' H:Nat→Option aW):Prop:= ∀i e l o,H' i=some (.eU e l o)→H i=some (.eU e l o)
theorem Je.rfl{H:Nat→Option aW}:Je H H:=λ_ _ _ _ h=>h
theorem Je.trans{H H' H'':Nat→Option aW}(h:Je H'' H')(k:Je H' H):Je H'' H:=λi e l o hi=>k i e l o (h i e l o hi)
theorem Je.BI{H:Nat→Option aW}{j:Nat}{v:aW}(hv: ∀e l o,v≠ .eU e l o):Je (bc H j (some v)) H:=λi e l o hi=>by
 by_cases mj:i=j
 ·subst mj;rw[ar]at hi;cases hi;exact absurd (Eq.refl _) (hv e l o)
 ·rwa [av _ _ mj]at hi
theorem Je.mix{H H' A A':Nat→Option aW}(h:Je H' H)(k:Je A' A):Je (fI H' A') (fI H A):=λi e l o hi=>by
 have key: ∀{f:Nat→Nat} {x:Option aW},x.map (aW.re f)=some (.eU e l o)→x=some (.eU e l o):=λ{f x} hx=>by
  cases x with
  |none=>cases hx
  |some y=>cases y<;>simp[aW.re]at hx ⊢ <;>exact hx
 by_cases h3:i%2=0
 ·obtain⟨k',rfl⟩: ∃k',i=2*k':=⟨i/2,ω⟩
  rw[tv]at hi ⊢;rw[h _ _ _ _ (key hi)];rfl
 ·obtain⟨k',rfl⟩: ∃k',i=2*k'+1:=⟨i/2,ω⟩
  rw[nw]at hi ⊢;rw[k _ _ _ _ (key hi)];rfl
structure CF(c0 c:Ctx)(H A:Nat→Option aW)(ν νA:Nat→Value):Prop where
 tok:A 7=none→ ∀i e l o,A i≠some (.eU e l o)
 one: ∀i j e l o e' l' o',fI H A i=some (.eU e l o)→fI H A j=some (.eU e' l' o')→i=j
 mem: ∀i e l o,fI H A i=some (.eU e l o)→amp c0 c e l o (mix ν νA i)
theorem CF.step{c0:Ctx}{H A H' A':Nat→Option aW}{νA νA':Nat→Value}(h:CF c0 c H A ν νA)(g:jC (fI H A) (mix ν νA) (fI H' A') (mix ν νA'))(h1:Je H' H)(h2:Je A' A):CF c0 c H' A' ν νA':=by
 refine⟨λh7 i e l o hi=> ?_,λi j e l o e' l' o' hi hj=>h.one i j _ _ _ _ _ _ (h1.mix h2 _ _ _ _ hi) (h1.mix h2 _ _ _ _ hj),λi e l o hi=> ?_⟩
 ·refine h.tok ?_ i e l o (h2 _ _ _ _ hi)
  cases h0:A 7 with
  |none=>rfl
  |some e0=>obtain⟨e1,h1,_⟩:=g.right.gT 7 e0 h0;rw[h7]at h1;cases h1
 ·have:=h1.mix h2 _ _ _ _ hi
  rw[g.head i (by rw[this];simp)]
  exact h.mem i e l o this
structure Cut(fl:Prop)(c0 c:Ctx)(σ acc:St)(tm:Array Value)(w:World)(M:Nat→Prop)(ν νA:Nat→Value):Prop where
 mem:Mem c (fI σ.H acc.H) w M (mix ν νA)
 src: ∀i,VR w M σ.H ν (σ.T i) (tm.getD i undef)
 dst: ∀i,VR w M acc.H νA (acc.T i) (tm.getD i undef)
 eU:fl→CF c0 c σ.H acc.H ν νA
theorem Cut.tr{fl:Prop}{c0:Ctx}{acc:St}{tm:Array Value}{νA:Nat→Value}(h:Cut fl c0 c σ acc tm w M ν νA){H' A':Nat→Option aW}{M':Nat→Prop}{νA':Nat→Value}(t:Tr c (fI σ.H acc.H) w M (mix ν νA) (fI H' A') w M' (mix ν νA'))(h1:Je H' σ.H)(h2:Je A' acc.H){s:Nat}{x:bk}(hx:VR w M' A' νA' x (tm.getD s undef)):
  Cut fl c0 c ⟨σ.T,H'⟩ ⟨(acc.put s x).T,A'⟩ tm w M' ν νA':=by
 refine⟨t.mem,λi=>VR.bG t.bG t.goes.left (h.src i),λi=> ?_,λhf=>(h.eU hf).step t.goes h1 h2⟩
 show VR w M' A' νA' ((acc.put s x).T i) _
 by_cases hi:i=s
 ·subst hi;rw[rD];exact hx
 ·rw[xf _ _ hi];exact VR.bG t.bG t.goes.right (h.dst i)
def Wf(A:Nat→Option aW)(s:Nat):Prop:=A (16*s+13)=none∧A (16*s+14)=none∧A (16*s+15)=none
theorem kA{q:Nat×CM}{L:List (Nat×CM)}{A:Nat→Option aW}(hF:kk (q::L)=true)(hN: ∀p∈q::L,Wf A p.1):
  kk L=true∧(∀p∈L,Wf A p.1)∧
   ∀(A':Nat→Option aW) (d:Nat) (v:Option aW),(d=16*q.1+13∨d=16*q.1+14∨d=16*q.1+15)→(∀p∈L,Wf A' p.1)→ ∀p∈L,Wf (bc A' d v) p.1:=by
 unfold kk at hF
 rw[bQ,q6]at hF
 refine⟨hF.2,λp hp=>hN p (a6 _ hp),λA' d v hd hN' p hp=> ?_⟩
 have ij:p.1≠q.1:=λe=>by
  have:=hF.1 p hp
  rw[e]at this
  simp at this
 obtain⟨h1,h2,h3⟩:=hN' p hp
 exact⟨by rw[av _ _ ω];exact h1,by rw[av _ _ ω];exact h2,by rw[av _ _ ω];exact h3⟩
theorem eB{fl:Prop}{c0:Ctx}{tm:Array Value}: ∀(L:List (Nat×CM)) (σ acc:St) (M:Nat→Prop) (νA:Nat→Value) (K:St→Option α),Cut fl c0 c σ acc tm w M ν νA→kk L=true→(∀q∈L,Wf acc.H q.1)→gC L σ acc K=some r→
  ∃Wg M' νA',K Wg=some r∧Core c Wg tm w M' νA'∧(fl→kz c0 c Wg.H νA')
 |[],σ,acc,M,νA,K,hC,_,_,h=>⟨acc,M,νA,h,⟨hC.mem.right,hC.dst⟩,λhf=>⟨(hC.eU hf).tok,λi j e l o e' l' o' hi hj=>by
   have:=(hC.eU hf).one (2*i+1) (2*j+1) e l o e' l' o' (oP hi) (oP hj);omega,λi e l o hi=>by
   have:=(hC.eU hf).mem (2*i+1) e l o (oP hi);rwa [sX]at this⟩⟩
 |(s,.v τ)::L,σ,acc,M,νA,K,hC,hF,hN,h=>by
  obtain⟨LX,LY,F4⟩:=kA hF hN
  unfold gC at h
  obtain⟨y,rd,ups,h,hy⟩:=EJ hC.mem.left (hC.src s) h
  rcases hy with⟨rfl,hV⟩|⟨id,e,l,rfl,hid,hV⟩
  ·exact eB L σ _ M νA K (hC.tr (.refl hC.mem) .rfl .rfl (x:= .val τ y) (by simp only[VR];exact hV)) LX LY h
  ·obtain⟨M2,fG,_,Kr⟩:=Tr.freeze hC.mem (id:=2*id) (gI hid)
   have ZT:some (aW.oN e l)=(some (aW.oN e l)).map (aW.re ml):=rfl
   rw[ZT,oi]at fG
   refine eB L _ _ M2 νA K (hC.tr fG (.BI λ_ _ _=>by simp) .rfl (x:= .val τ y) ?_) LX LY h
   simp only[VR]
   exact hV M2 (λb=>by rw[Kr b,gP])
 |(s,.own e)::L,σ,acc,M,νA,K,hC,hF,hN,h=>by
  obtain⟨LX,LY,F4⟩:=kA hF hN
  unfold gC at h
  have hs:=hC.src s
  split at h
  ·rename_i hT
   have hj:=(hN _ bu).2.1
   rw[hT]at hs
   obtain⟨ad,hv⟩:=VR.emp.1 hs
   refine eB L σ _ M _ K (hC.tr (hC.mem.fresh hj e ad) .rfl (.BI λ_ _ _=>by simp) (x:= .ref (16*s+14)) ?_) LX (F4 _ _ _ (.inr (.inl rfl)) LY) h
   simp only[VR]
   exact⟨by rw[ar];simp,by rw[hv];simp[updν]⟩
  ·rename_i id hT
   rw[hT]at hs
   simp only[VR]at hs
   split at h
   ·rename_i e' l hid
    obtain⟨e1,h⟩:=bh h
    cases e1
    have hj:=(hN _ bu).2.1
    refine eB L _ _ M _ K (hC.tr (hC.mem.move hid trivial hj (.inl ⟨rfl,λ_ _ _ _=>by simp⟩)) (.BI λ_ _ _=>by simp) (.BI λ_ _ _=>by simp) (x:= .ref (16*s+14)) ?_) LX (F4 _ _ _ (.inr (.inl rfl)) LY) h
    simp only[VR]
    exact⟨by rw[ar];simp,by rw[hs.2];simp[updν]⟩
   ·cases h
  ·cases h
 |(s,.obj τ)::L,σ,acc,M,νA,K,hC,hF,hN,h=>by
  obtain⟨LX,LY,F4⟩:=kA hF hN
  unfold gC at h
  have hs:=hC.src s
  split at h
  ·rename_i id hT
   rw[hT]at hs
   split at h
   ·rename_i υ x hid
    obtain⟨e1,h⟩:=bh h
    subst e1
    have hj:=(hN _ bu).2.1
    simp only[VR]at hs
    obtain⟨e,he,jI⟩:=hs
    rw[hid]at he;cases he
    simp only[AR]at jI
    obtain⟨_,b,hb,hv⟩:=jI
    refine eB L _ _ M _ K (hC.tr (hC.mem.move hid trivial hj (.inl ⟨rfl,λ_ _ _ _=>by simp⟩)) (.BI λ_ _ _=>by simp) (.BI λ_ _ _=>by simp) (x:= .ic (16*s+14) []) ?_) LX (F4 _ _ _ (.inr (.inl rfl)) LY) h
    simp only[VR]
    exact⟨_,ar _ _ _,trivial,b,by simp[updν,hb],hv⟩
   ·
    rename_i υ x q k hid
    obtain⟨z,ups,M2,hK,Y7,fG,amu,b,cs,t,hb,hg,Kr,kd⟩: ∃z ups M2,cr υ τ z (λy=>gC L ((σ.wS ups).ik id (some .gone)) ((acc.put s (.ic (16*s+14) [])).ik (16*s+14) (some (.obj τ y))) K)=some r∧Je (cj σ.H ups) σ.H∧
      Tr c (fI σ.H acc.H) w M (mix ν νA) (fI (cj σ.H ups) acc.H) w M2 (mix ν νA)∧cj σ.H ups id=some (.fv υ x q k)∧ ∃b cs t,ν id= .pointer (some ⟨b,0,none⟩)∧w.heap[b]? =some (.cells cs t (0,0))∧M2 b∧Rd w M2 υ cs.toList z:=by
     have amv:=gI (B:=acc.H) hid
     unfold BM at h
     split at h
     ·rename_i e l hk
      have ij:id≠k:=λe=>by rw[e,hk]at hid;cases hid
      obtain⟨z,ups,M2,hK,fG,_,hc2,b,cs,t,hb,hg,Kr,kd⟩:=u7 (H:=fI σ.H acc.H) hC.mem (id:=2*id) (j:=2*k) (x:=x) (q:=q)
       (k:=λz _=>cr υ τ z λy=>gC L ((σ.wS [(k,some (.oN e l))]).ik id (some .gone)) ((acc.put s (.ic (16*s+14) [])).ik (16*s+14) (some (.obj τ y))) K) amv (by
        unfold BM
        rw[gI hk]
        exact h)
      rw[gP]at hb
      rcases hc2 with⟨e2,l2,h2,_⟩|⟨e2,l2,h2,rfl⟩
      ·rw[gI hk]at h2;simp[aW.re]at h2
      ·rw[gI hk]at h2
       simp only[aW.re,eL]at h2
       have ZT:some (aW.oN e l)=(some (aW.oN e l)).map (aW.re ml):=rfl
       have w7:Tr c (fI σ.H acc.H) w M (mix ν νA) (bc (fI σ.H acc.H) (2*k) (some (.oN e l))) w M2 (mix ν νA):=by
        cases h2;exact fG
       rw[ZT,oi]at w7
       exact⟨z,_,M2,hK,.BI (λ_ _ _=>by simp),w7,by show bc σ.H k _ id=_;rw[av _ _ ij];exact hid,b,cs,t,hb,hg,Kr,kd⟩
     ·rename_i e l hk
      obtain⟨z,ups,M2,hK,fG,_,hc2,b,cs,t,hb,hg,Kr,kd⟩:=u7 (H:=fI σ.H acc.H) hC.mem (id:=2*id) (j:=2*k) (x:=x) (q:=q)
       (k:=λz _=>cr υ τ z λy=>gC L ((σ.wS []).ik id (some .gone)) ((acc.put s (.ic (16*s+14) [])).ik (16*s+14) (some (.obj τ y))) K) amv (by
        unfold BM
        rw[gI hk]
        exact h)
      rw[gP]at hb
      rcases hc2 with⟨e2,l2,h2,rfl⟩|⟨e2,l2,h2,_⟩
      ·exact⟨z,[],M2,hK,.rfl,fG,hid,b,cs,t,hb,hg,Kr,kd⟩
      ·rw[gI hk]at h2;simp[aW.re]at h2
     ·cases h
    obtain⟨e1,hK⟩:=bh hK
    subst e1
    have hC2:Cut fl c0 c ⟨σ.T,cj σ.H ups⟩ acc tm w M2 ν νA:=⟨fG.mem,λi=>VR.bG fG.bG fG.goes.left (hC.src i),λi=>VR.bG fG.bG fG.goes.right (hC.dst i),λhf=>(hC.eU hf).step fG.goes Y7 .rfl⟩
    have rA:=Tr.Ip (e':= .obj υ z) fG.mem (gI amu) trivial trivial rfl (λ_ _=>by simp) (by rw[gP];simp only[ER];exact⟨b,cs,t,hb,hg,Kr,kd⟩) (λ_ _ _ _ h=>by cases h)
    have ZT:some (aW.obj υ z)=(some (aW.obj υ z)).map (aW.re ml):=rfl
    rw[ZT,oi]at rA
    have hC3:Cut fl c0 c ⟨σ.T,bc (cj σ.H ups) id (some (.obj υ z))⟩ acc tm w M2 ν νA:=⟨rA.mem,λi=>VR.bG rA.bG rA.goes.left (hC2.src i),λi=>VR.bG rA.bG rA.goes.right (hC2.dst i),λhf=>(hC2.eU hf).step rA.goes (.BI λ_ _ _=>by simp) .rfl⟩
    have hj:=(hN _ bu).2.1
    simp only[VR]at hs
    obtain⟨e,he,jI⟩:=hs
    rw[hid]at he;cases he
    simp only[AR]at jI
    obtain⟨_,b',dj,hv⟩:=jI
    rw[hb]at dj;cases dj
    have hmv:=hC3.mem.move (ar _ _ _) trivial hj (.inl ⟨rfl,λ_ _ _ _=>by simp⟩)
    rw[y7]at hmv
    have CY:(σ.wS ups).ik id (some .gone)=⟨σ.T,bc (cj σ.H ups) id (some .gone)⟩:=by
     have h2:σ.wS ups=⟨σ.T,cj σ.H ups⟩:=by rw[←Qj,←Qk ups σ]
     rw[h2];rfl
    rw[CY]at hK
    refine eB L _ _ M2 _ K (hC3.tr hmv (λi e l o hi=>by
     by_cases bw:i=id
     ·subst bw;rw[ar]at hi;cases hi
     ·rw[av _ _ bw]at hi;show bc _ id _ i=_;rw[av _ _ bw];exact hi) (.BI λ_ _ _=>by simp) (x:= .ic (16*s+14) []) ?_) LX (F4 _ _ _ (.inr (.inl rfl)) LY) hK
    simp only[VR]
    exact⟨_,ar _ _ _,trivial,b,by simp[updν,hb],hv⟩
   ·cases h
  ·cases h
 |(s,.fv τ q e)::L,σ,acc,M,νA,K,hC,hF,hN,h=>by
  obtain⟨LX,LY,F4⟩:=kA hF hN
  unfold gC at h
  have hs:=hC.src s
  split at h
  ·rename_i id hT
   rw[hT]at hs
   split at h
   ·rename_i υ x q' k hid
    obtain⟨Zv,h1⟩:=bN h
    clear h
    have:=y5 Zv
    subst this
    split at h1
    ·rename_i e' l hk
     obtain⟨e1,h2⟩:=bh h1
     clear h1
     subst e1
     obtain⟨e2,h⟩:=bh h2
     cases e2
     have ij:id≠k:=λe=>by rw[e,hk]at hid;cases hid
     obtain⟨ar8,ar9,_⟩:=hN _ bu
     simp only[VR]at hs
     obtain⟨e,he,jI⟩:=hs
     rw[hid]at he;cases he
     simp only[AR]at jI
     obtain⟨_,b,hb,hv⟩:=jI
     have kO:=hC.mem.move hk trivial ar8 (.inl ⟨rfl,λ_ _ _ _=>by simp⟩)
     have pR:bc σ.H k (some .gone) id=some (.fv υ x q k):=by rw[av _ _ ij];exact hid
     have qN:=kO.mem.move pR trivial (j:=16*s+14) (e1:= .fv υ x q (16*s+13)) (by rw[av _ _ ω];exact ar9)
      (.inr ⟨υ,x,q,k,16*s+13,rfl,rfl,by rw[ar];simp,by simp[updν]⟩)
     refine eB L _ _ M _ K (hC.tr (kO.trans qN) (.trans (.BI λ_ _ _=>by simp) (.BI λ_ _ _=>by simp)) (.trans (.BI λ_ _ _=>by simp) (.BI λ_ _ _=>by simp)) (s:=s) (x:= .ic (16*s+14) []) ?_) LX (F4 _ _ _ (.inr (.inl rfl)) (F4 _ _ _ (.inl rfl) LY)) h
     simp only[VR]
     exact⟨_,ar _ _ _,trivial,b,by simp[updν,hb],hv⟩
    ·cases h1
   ·cases h
  ·cases h
 |(s,.same s')::L,σ,acc,M,νA,K,hC,hF,hN,h=>by
  obtain⟨LX,LY,F4⟩:=kA hF hN
  unfold gC at h
  split at h
  ·rename_i i j j' h1 h2 h3
   obtain⟨hb,h⟩:=bN h
   have hb:=eK hb
   have e1:=hC.src s
   have e2:=hC.src s'
   have e3:=hC.dst s'
   rw[h1]at e1;rw[h2]at e2;rw[h3]at e3
   simp only[VR]at e1 e2 e3
   refine eB L σ _ M νA K (hC.tr (.refl hC.mem) .rfl .rfl (x:= .ref j') ?_) LX LY h
   simp only[VR]
   exact⟨e3.1,by rw[e1.2,hb,←e2.2,e3.2]⟩
  ·cases h
 |(s,.io τ)::L,σ,acc,M,νA,K,hC,hF,hN,h=>by
  obtain⟨LX,LY,F4⟩:=kA hF hN
  unfold gC at h
  have hs:=hC.src s
  split at h
  ·rename_i id hT
   rw[hT]at hs
   obtain⟨_,h⟩:=bN h
   split at h
   ·rename_i υ x hid
    obtain⟨e1,h⟩:=bh h
    subst e1
    have hj:=(hN _ bu).2.2
    simp only[VR]at hs
    obtain⟨e,he,jI⟩:=hs
    rw[hid]at he;cases he
    simp only[AR]at jI
    obtain⟨_,b,hb,hv⟩:=jI
    refine eB L _ _ M _ K (hC.tr (hC.mem.move hid trivial hj (.inl ⟨rfl,λ_ _ _ _=>by simp⟩)) (.BI λ_ _ _=>by simp) (.BI λ_ _ _=>by simp) (x:= .ic (16*s+15) []) ?_) LX (F4 _ _ _ (.inr (.inr rfl)) LY) h
    simp only[VR]
    exact⟨_,ar _ _ _,trivial,b,by simp[updν,hb],hv⟩
   ·cases h
  ·cases h
 |(s,.fn f τ)::L,σ,acc,M,νA,K,hC,hF,hN,h=>by
  obtain⟨LX,LY,F4⟩:=kA hF hN
  unfold gC at h
  have hs:=hC.src s
  split at h
  ·rename_i f' cs hT
   rw[hT]at hs
   obtain⟨hb,h1⟩:=bN h
   clear h
   have hb:=eK hb
   subst hb
   simp only[VR]at hs
   obtain⟨us,hv,ZC⟩:=hs
   obtain⟨y,rd,ups,h,hy⟩:=F0 hC.mem.left ZC h1
   split at h
   ·refine eB L σ _ M νA K (hC.tr (.refl hC.mem) .rfl .rfl (x:= .Mr f (p7 τ y)) ?_) LX LY h
    simp only[VR]
    exact⟨us,hv,jk.free (hy rfl)⟩
   ·cases h
  ·cases h
 |(s,.eU e)::L,σ,acc,M,νA,K,hC,hF,hN,h=>by
  obtain⟨LX,LY,F4⟩:=kA hF hN
  unfold gC at h
  have hs:=hC.src s
  split at h
  ·rename_i id hT
   rw[hT]at hs
   simp only[VR]at hs
   split at h
   ·rename_i e' l hid
    obtain⟨e1,h1⟩:=bh h
    clear h
    cases e1
    obtain⟨h7,h⟩:=ky h1
    have hj:=(hN _ bu).2.1
    have hg:=Tr.gone hC.mem (2*id)
    have hgo:(some aW.gone)=(some aW.gone).map (aW.re ml):=rfl
    rw[hgo,oi]at hg
    have kO:=hg.mem.ghost (id:=2*(16*s+14)+1) (e:= .eU e l none) (v:=ν id) (by simp[aW.mut]) (λ_=>by simp[ER]) (.inl (by rw[nw,hj];rfl))
    have Kx:=jC.put (ν:=mix ν νA) (H:=fI (bc σ.H id (some .gone)) acc.H) (id:=2*(16*s+14)+1) (by rw[nw,hj];rfl) (.eU e l none) (ν id)
    have ZR:(some (aW.eU e l none))=(some (aW.eU e l none)).map (aW.re mr):=rfl
    rw[ZR,rF,updν_mix_r]at kO Kx
    have qN:=kO.ghost (id:=2*7+1) (e:= .gone) (v:=mix ν (updν νA (16*s+14) (ν id)) (2*7+1)) (by simp[aW.mut]) (λ_=>by simp[ER]) (.inr rfl)
    have RQ:=jC.gone (ν:=mix ν (updν νA (16*s+14) (ν id))) (H:=fI (bc σ.H id (some .gone)) (bc acc.H (16*s+14) (some (.eU e l none)))) (2*7+1)
    have hg7:(some aW.gone)=(some aW.gone).map (aW.re mr):=rfl
    rw[updν_self]at qN
    rw[hg7,rF]at qN RQ
    have hgs:=(hg.goes.trans Kx).trans RQ
    refine eB L ⟨σ.T,bc σ.H id (some .gone)⟩ ⟨(acc.put s (.ref (16*s+14))).T,bc (bc acc.H (16*s+14) (some (.eU e l none))) 7 (some .gone)⟩ M (updν νA (16*s+14) (ν id)) K
     ⟨qN,λi=>VR.bG hg.bG hgs.left (hC.src i),λi=> ?_,λhf=> ?_⟩ LX (λp hp=> ?_) h
    ·show VR w M _ _ ((acc.put s (.ref (16*s+14))).T i) _
     by_cases hi:i=s
     ·subst hi;rw[rD]
      simp only[VR]
      exact⟨by rw[av _ _ ω,ar];simp,by rw[hs.2];simp[updν]⟩
     ·rw[xf _ _ hi];exact VR.bG hg.bG hgs.right (hC.dst i)
    ·have hcf:=hC.eU hf
     have key: ∀i e1 l1 o1,fI (bc σ.H id (some .gone)) (bc (bc acc.H (16*s+14) (some (.eU e l none))) 7 (some .gone)) i=some (.eU e1 l1 o1)→i=2*(16*s+14)+1∧aW.eU e l none= .eU e1 l1 o1:=λi e1 l1 o1 hi=>by
      by_cases mj:i=2*(16*s+14)+1
      ·subst mj;rw[nw,av _ _ ω,ar]at hi
       exact⟨rfl,by simpa [aW.re]using hi⟩
      ·exfalso
       have h0:fI (bc σ.H id (some .gone)) acc.H i=some (.eU e1 l1 o1):=by
        have h3:Je (fI (bc σ.H id (some .gone)) (bc (bc acc.H (16*s+14) (some (.eU e l none))) 7 (some .gone))) (fI (bc σ.H id (some .gone)) (bc acc.H (16*s+14) (some (.eU e l none)))):=Je.mix .rfl (.BI λ_ _ _=>by simp)
        have h4:=h3 _ _ _ _ hi
        rw[←rF,av _ _ mj]at h4
        exact h4
       have h1:=(Je.mix (.BI λ_ _ _=>by simp) .rfl) _ _ _ _ h0
       have h2:=hcf.one _ _ _ _ _ _ _ _ h1 (gI (B:=acc.H) hid)
       subst h2
       rw[tv,ar]at h0
       simp[aW.re]at h0
     refine⟨λIc=>(by have Ic:bc (bc acc.H (16*s+14) (some (.eU e l none))) 7 (some .gone) 7=none:=Ic;rw[ar]at Ic;cases Ic),λi j e1 l1 o1 e2 l2 o2 hi Qq=>(by rw[(key _ _ _ _ hi).1,(key _ _ _ _ Qq).1]),λi e1 l1 o1 hi=> ?_⟩
     obtain⟨rfl,he⟩:=key _ _ _ _ hi
     cases he
     have:=hcf.mem (2*id) e l none (gI hid)
     rw[gP]at this
     rw[sX]
     simpa [updν]using this
    ·obtain⟨h13,h14,h15⟩:=F4 acc.H (16*s+14) (some (.eU e l none)) (.inr (.inl rfl)) LY p hp
     exact⟨(av (bc acc.H (16*s+14) (some (.eU e l none))) (some .gone) (d:=7) ω).trans h13,(av (bc acc.H (16*s+14) (some (.eU e l none))) (some .gone) (d:=7) ω).trans h14,(av (bc acc.H (16*s+14) (some (.eU e l none))) (some .gone) (d:=7) ω).trans h15⟩
   ·cases h
  ·cases h
theorem zb(hI:Inv c E σ a w){L:Option (List (Nat×CM))}(hL: ∀L',L=some L'→kk L'=true){K:St→Option α}(h:w3 L σ K=some r): ∃σ',K σ'=some r∧Inv c E σ' a w:=by
 unfold w3 at h
 split at h
 ·exact⟨σ,h,hI⟩
 ·have hfr:=hL _ rfl
  obtain⟨⟨d,M,ν,hle,hc,D9⟩,hs,hd⟩:=hI
  have hcf:E.eU=true→CF c d σ.H (λ_=>none) ν (λ_=>undef):=λhf=>by
   have D9:=D9 hf
   have key: ∀i e l o,fI σ.H (λ_=>none) i=some (.eU e l o)→ ∃k,i=2*k∧σ.H k=some (.eU e l o):=λi e l o hi=>by
    by_cases h3:i%2=0
    ·obtain⟨k',rfl⟩: ∃k',i=2*k':=⟨i/2,ω⟩
     refine⟨k',rfl,?_⟩
     rw[tv]at hi
     cases hk:σ.H k' with
     |none=>rw[hk]at hi;cases hi
     |some y=>rw[hk]at hi;cases y<;>simp[aW.re]at hi ⊢ <;>exact hi
    ·obtain⟨k',rfl⟩: ∃k',i=2*k'+1:=⟨i/2,ω⟩
     rw[nw]at hi;cases hi
   refine⟨λ_ i e l o hi=>(by cases hi),λi j e l o e' l' o' hi hj=> ?_,λi e l o hi=> ?_⟩
   ·obtain⟨k,rfl,hk⟩:=key _ _ _ _ hi
    obtain⟨k',rfl,rz⟩:=key _ _ _ _ hj
    rw[D9.one k k' _ _ _ _ _ _ hk rz]
   ·obtain⟨k,rfl,hk⟩:=key _ _ _ _ hi
    rw[gP];exact D9.mem k e l o hk
  obtain⟨Wg,M',νA',hK,amw,yx⟩:=eB (fl:=E.eU=true) (c0:=c) (tm:=a.tmps) _ σ ⟨λ_=> .any,λ_=>none⟩ M (λ_=>undef) K ⟨hc.mem.ZS _,hc.tmp,λi=>by simp[VR],hcf⟩ hfr (λ_ _=>⟨rfl,rfl,rfl⟩) h
  exact⟨Wg,hK,⟨d,M',νA',hle,amw,yx⟩,hs,hd⟩
end VM
end
section
namespace VM
open Go
variable{α:Type}{r:α}
theorem de{υ τ:Ty}{y:υ.den}{k:τ.den→Option α}(h:cr υ τ y k=some r): ∃z,k z=some r∧ ∀k':τ.den→Option α,cr υ τ y k'=k' z:=by
 obtain⟨e,h⟩:=bh h
 subst e
 exact⟨y,h,λk'=>by simp[cr]⟩
theorem gd{υ τ:Ty}{k:Option α}(h:iQ υ τ k=some r):k=some r∧ ∀k':Option α,iQ υ τ k'=k':=by
 obtain⟨e,h1⟩:=dt h
 clear h
 subst e
 exact⟨h1,λk'=>by simp[iQ]⟩
theorem dM{b:Bool}{K:Option α}(h:cond b K none=some r):K=some r∧ ∀K':Option α,cond b K' none=K':=by
 obtain⟨rfl,h⟩:=bN h
 exact⟨h,λ_=>rfl⟩
theorem uh{b:Bool}{K:Option α}(h:cond b none K=some r):K=some r∧ ∀K':Option α,cond b none K'=K':=by
 obtain⟨rfl,h⟩:=mM h
 exact⟨h,λ_=>rfl⟩
theorem xT: ∀{τ:Ty} {x:τ.den} {n:Nat} {k:(υ:Ty)→υ.den→Option α},uV τ x n k=some r→ ∃υ y,k υ y=some r∧ ∀k':(υ:Ty)→υ.den→Option α,uV τ x n k'=k' υ y
 | .pair a b,x,0,k,h=>⟨a,x.1,h,λ_=>rfl⟩
 | .pair a b,x,n+1,k,h=>by
  obtain⟨υ,y,h1,h2⟩:=xT (τ:=b) (x:=x.2) (n:=n) (k:=k) h
  exact⟨υ,y,h1,λk'=>h2 k'⟩
 | .int _,_,_,_,h| .bool,_,_,_,h| .str,_,_,_,h| .slice _,_,_,_,h| .unit,_,_,_,h| .arr _ _,_,_,_,h=>by simp[uV]at h
theorem zd: ∀{τ:Ty} {x:τ.den} {n:Nat} {m:(υ:Ty)→υ.den→(υ.den→Option α)→Option α} {k:τ.den→Option α},
  (∀υ y (k:υ.den→Option α),m υ y k=some r→ ∃z,k z=some r∧ ∀k':υ.den→Option α,m υ y k'=k' z)→fi τ x n m k=some r→ ∃z,k z=some r∧ ∀k':τ.den→Option α,fi τ x n m k'=k' z
 | .pair a b,x,0,m,k,hm,h=>by
  obtain⟨z,h1,h2⟩:=hm a x.1 _ h
  exact⟨(z,x.2),h1,λk'=>h2 _⟩
 | .pair a b,x,n+1,m,k,hm,h=>by
  obtain⟨z,h1,h2⟩:=zd (τ:=b) (x:=x.2) (n:=n) (m:=m) (k:=λz=>k (x.1,z)) hm h
  exact⟨(x.1,z),h1,λk'=>h2 (λz=>k' (x.1,z))⟩
 | .int _,_,_,_,_,_,h| .bool,_,_,_,_,_,h| .str,_,_,_,_,_,h| .slice _,_,_,_,_,_,h| .unit,_,_,_,_,_,h| .arr _ _,_,_,_,_,_,h=>by simp[fi]at h
theorem gZ: ∀{p:List Step} {τ:Ty} {x:τ.den} {k:(υ:Ty)→υ.den→Option α},Am p τ x k=some r→ ∃υ y,k υ y=some r∧ ∀k':(υ:Ty)→υ.den→Option α,Am p τ x k'=k' υ y
 |[],τ,x,k,h=>⟨τ,x,h,λ_=>rfl⟩
 | .gr n::p,τ,x,k,h=>by
  obtain⟨υ,y,h1,h2⟩:=xT (h:uV τ x n _=some r)
  obtain⟨υ',y',h3,h4⟩:=gZ h1
  exact⟨υ',y',h3,λk'=>(h2 _).trans (h4 k')⟩
 | .idx i::p,τ,x,k,h=>by
  cases τ with
  |arr n e=>
   obtain⟨υ',y',h3,h4⟩:=gZ (p:=p) (τ:=e) (x:=γ x i e.zero) (k:=k) h
   exact⟨υ',y',h3,λk'=>h4 k'⟩
  |_=>simp[Am,agN]at h
theorem oQ{υ:Ty}{y:υ.den}: ∀{p:List Step} {τ:Ty} {x:τ.den} {k:τ.den→Option α},we υ y p τ x k=some r→ ∃z,k z=some r∧ ∀k':τ.den→Option α,we υ y p τ x k'=k' z
 |[],τ,x,k,h=>de h
 | .gr n::p,τ,x,k,h=>zd (λ_ _ _ h=>oQ h) h
 | .idx i::p,τ,x,k,h=>by
  cases τ with
  |arr n e=>
   obtain⟨z,h1,h2⟩:=oQ (p:=p) (τ:=e) (x:=γ x i e.zero) (k:=λz=>k (List.set x i z)) h
   exact⟨_,h1,λk'=>h2 (λz=>k' (List.set x i z))⟩
  |_=>simp[we,Ez]at h
theorem qw{a:bk}{k:IntKind→Int→Option α}(h:wg a k=some r): ∃i n,k i n=some r∧ ∀k':IntKind→Int→Option α,wg a k'=k' i n:=by
 obtain⟨i,n,rfl,h⟩:=nu h
 exact⟨i,n,h,λ_=>rfl⟩
theorem RY{a:bk}{k:(τ:Ty)→τ.den→Option α}(h:Mt a k=some r): ∃τ x,k τ x=some r∧ ∀k':(τ:Ty)→τ.den→Option α,Mt a k'=k' τ x:=by
 unfold Mt at h
 split at h
 ·exact⟨_,_,h,λ_=>rfl⟩
 ·cases h
theorem vf{a:Option bk}{d:Int}{k:Int→Option α}(h:yu a d k=some r): ∃n,k n=some r∧ ∀k':Int→Option α,yu a d k'=k' n:=by
 cases a with
 |none=>exact⟨d,h,λ_=>rfl⟩
 |some a=>
  obtain⟨i,n,h1,h2⟩:=qw (h:wg a (λ_ x=>k x)=some r)
  exact⟨n,h1,λk'=>h2 (λ_ x=>k' x)⟩
abbrev Ag(rd:List Nat)(H H':Nat→Option aW):Prop:= ∀i∈rd,H' i=H i
theorem oR{fz:Bool}{a:bk}{H:Nat→Option aW}{τ:Ty}{k:τ.den→List Nat→ig→Option α}(h:mw fz a H τ k=some r):
  ∃y rd ups,k y rd ups=some r∧ ∀H',Ag rd H H'→ ∀k':τ.den→List Nat→ig→Option α,mw fz a H' τ k'=k' y rd ups:=by
 cases a with
 |val υ x=>
  simp only[mw]at h
  obtain⟨z,h1,h2⟩:=de h
  refine⟨z,[],[],h1,λH' _ k'=> ?_⟩
  simp only[mw]
  exact h2 (λy=>k' y [] [])
 |Kh υ x n=>
  simp only[mw]at h
  obtain⟨z,h1,h2⟩:=de h
  refine⟨z,[],[],h1,λH' _ k'=> ?_⟩
  simp only[mw]
  exact h2 (λy=>k' y [] [])
 |emp=>
  cases τ with
  |slice e=>exact⟨[],[],[],h,λ_ _ _=>rfl⟩
  |_=>cases h
 |ref id=>
  have h:(match H id with
   |some (.own e l)=>cr (.slice e) τ l λy=>k y [id] (cond fz [(id,some (.oN e l))] [])
   |some (.oN e l)=>cr (.slice e) τ l λy=>k y [id] []
   |_=>none)=some r:=h
  cases hH:H id with
  |none=>rw[hH]at h;cases h
  |some e=>
   rw[hH]at h
   cases e with
   |own e l=>
    obtain⟨z,h1,h2⟩:=de (h:cr (.slice e) τ l _=some r)
    refine⟨z,_,_,h1,λH' hA k'=> ?_⟩
    have:H' id=some (.own e l):=by rw[hA id (by simp),hH]
    show(match H' id with
     |some (.own e l)=>cr (.slice e) τ l λy=>k' y [id] (cond fz [(id,some (.oN e l))] [])
     |some (.oN e l)=>cr (.slice e) τ l λy=>k' y [id] []
     |_=>none)=_
    rw[this];exact h2 _
   |oN e l=>
    obtain⟨z,h1,h2⟩:=de (h:cr (.slice e) τ l _=some r)
    refine⟨z,_,_,h1,λH' hA k'=> ?_⟩
    have:H' id=some (.oN e l):=by rw[hA id (by simp),hH]
    show(match H' id with
     |some (.own e l)=>cr (.slice e) τ l λy=>k' y [id] (cond fz [(id,some (.oN e l))] [])
     |some (.oN e l)=>cr (.slice e) τ l λy=>k' y [id] []
     |_=>none)=_
    rw[this];exact h2 _
   |obj _ _=>cases h
   |fv _ _ _ _=>cases h
   |eU _ _ _=>cases h
   |gone=>cases h
 |any|VF|ic _ _|rn _ _|tup _|Mr _ _|Ij _ _ _ _|sub _ _ _=>cases h
theorem xU{id:Nat}{p:List Step}{H:Nat→Option aW}{k:Ty→Option α}(h:lx id p H k=some r): ∃υ,k υ=some r∧ ∀H',H' id=H id→ ∀k':Ty→Option α,lx id p H' k'=k' υ:=by
 unfold lx at h
 split at h
 ·rename_i τ x hid
  obtain⟨υ,y,h1,h2⟩:=gZ h
  exact⟨υ,h1,λH' hA k'=>by unfold lx;rw[hA,hid];exact h2 _⟩
 ·rename_i τ x _ _ hid
  obtain⟨υ,y,h1,h2⟩:=gZ h
  exact⟨υ,h1,λH' hA k'=>by unfold lx;rw[hA,hid];exact h2 _⟩
 ·rename_i e l hid
  split at h
  ·obtain⟨υ,y,h1,h2⟩:=gZ h
   exact⟨υ,h1,λH' hA k'=>by unfold lx;rw[hA,hid];exact h2 _⟩
  ·cases h
 ·rename_i e l hid
  split at h
  ·obtain⟨υ,y,h1,h2⟩:=gZ h
   exact⟨υ,h1,λH' hA k'=>by unfold lx;rw[hA,hid];exact h2 _⟩
  ·cases h
 ·cases h
theorem xV{H:Nat→Option aW}{id:Nat}{e:aW}{K:Option α}(h:qn H id e K=some r):K=some r∧ ∀H',H' id=H id→ ∀(e':aW) (K':Option α),qn H' id e' K'=K':=by
 obtain⟨h1,h2⟩:=ky h
 exact⟨h2,λH' hA e' K'=>by unfold qn;rw[hA,h1]⟩
theorem TJ{b:BinOp}{k:IntKind}{x y:Int}{K:bk→Option α}(h:uW b k x y K=some r): ∃v,K v=some r∧ ∀K':bk→Option α,uW b k x y K'=K' v:=by
 cases b<;>simp only[uW]at h ⊢ <;>first
  |exact⟨_,h,λ_=>rfl⟩
  |(obtain⟨h1,h2⟩:=uh h;exact⟨_,h1,λ_=>h2 _⟩)
  |cases h
theorem ahr{b:BinOp}{k:IntKind}{x y:Int}{K:bk→Option α}(h:Zr b k x y K=some r): ∃v,K v=some r∧ ∀K':bk→Option α,Zr b k x y K'=K' v:=by
 cases b<;>simp only[Zr]at h ⊢ <;>first
  |(obtain⟨h1,h2⟩:=uh h;exact⟨_,h1,λ_=>h2 _⟩)
  |cases h
theorem Wh{t:Option Ty}{op:BinOp}{τ:Ty}{x:τ.den}{υ:Ty}{y:υ.den}{K:bk→Option α}(h:FG t op τ x υ y K=some r): ∃v,K v=some r∧ ∀K':bk→Option α,FG t op τ x υ y K'=K' v:=by
 unfold FG at h ⊢
 split at h
 ·rename_i k x k' y
  cases hs:Zs op
  ·rw[hs]at h
   have h:(if k=k' then uW op k x y K else none)=some r:=h
   by_cases hk:k=k'
   ·rw[ak hk]at h
    obtain⟨v,h1,h2⟩:=TJ h
    exact⟨v,h1,λK'=>by simp only[au,ak hk];exact h2 K'⟩
   ·rw[ah hk]at h;cases h
  ·rw[hs]at h
   obtain⟨v,h1,h2⟩:=ahr (h:Zr op k x y K=some r)
   exact⟨v,h1,λK'=>by simp only[aj];exact h2 K'⟩
 ·split at h
  ·cases h
  ·obtain⟨h1,h2⟩:=gd h
   obtain⟨h3,h4⟩:=dM h1
   split at h3
   ·obtain⟨z,h5,h6⟩:=de h3
    exact⟨_,h5,λK'=>by rw[h2,h4];exact h6 _⟩
   ·obtain⟨z,h5,h6⟩:=de h3
    exact⟨_,h5,λK'=>by rw[h2,h4];exact h6 _⟩
   ·cases h3
theorem ZU{u:UnOp}{a:bk}{K:bk→Option α}(h:Tj u a K=some r): ∃v,K v=some r∧ ∀K':bk→Option α,Tj u a K'=K' v:=by
 unfold Tj at h
 split at h<;>first
  |exact⟨_,h,λ_=>rfl⟩
  |cases h
theorem Qt{up:Bool}: ∀{xs:List bk} {a:bk} {K:bk→Option α},Y1 up a xs K=some r→ ∃v,K v=some r∧ ∀K':bk→Option α,Y1 up a xs K'=K' v
 |[],a,K,h=>⟨a,h,λ_=>rfl⟩
 |b::xs,a,K,h=>by
  unfold Y1 at h
  obtain⟨k,x,h1,h2⟩:=qw h
  obtain⟨k',y,h3,h4⟩:=qw h1
  by_cases hk:k=k'
  ·rw[ak hk]at h3
   obtain⟨v,h5,h6⟩:=Qt h3
   refine⟨v,h5,λK'=> ?_⟩
   unfold Y1
   rw[h2,h4,ak hk]
   exact h6 K'
  ·rw[ah hk]at h3;cases h3
theorem ZV{τ:Ty}{a:bk}{H:Nat→Option aW}{K:fV α}(h:Mu τ a H K=some r): ∃v rd ups,K v rd ups=some r∧ ∀H',Ag rd H H'→ ∀K':fV α,Mu τ a H' K'=K' v rd ups:=by
 unfold Mu at h
 split at h
 ·exact⟨_,_,_,h,λ_ _ _=>rfl⟩
 ·exact⟨_,_,_,h,λ_ _ _=>rfl⟩
 ·exact⟨_,_,_,h,λ_ _ _=>rfl⟩
 ·exact⟨_,_,_,h,λ_ _ _=>rfl⟩
 ·split at h
  ·rename_i hid
   exact⟨_,_,_,h,λH' hA K'=>by unfold Mu;simp only;rw[hA _ (by simp),hid]⟩
  ·rename_i hid
   exact⟨_,_,_,h,λH' hA K'=>by unfold Mu;simp only;rw[hA _ (by simp),hid]⟩
  ·cases h
 ·cases h
theorem ZW{id:Nat}{e:Ty}{a b:bk}{H:Nat→Option aW}{K:fV α}(h:Mv id e a b H K=some r): ∃v rd ups,K v rd ups=some r∧id∈rd∧ ∀H',Ag rd H H'→ ∀K':fV α,Mv id e a b H' K'=K' v rd ups:=by
 unfold Mv at h
 obtain⟨ys,rd,ups,h1,h2⟩:=oR h
 split at h1
 ·obtain⟨h3,h4⟩:=dM h1
  refine⟨_,_,_,h3,by simp,λH' hA K'=> ?_⟩
  unfold Mv
  rw[h2 H' (λi hi=>hA i (a6 _ hi))]
  exact h4 _
 ·rename_i j
  split at h1
  ·rename_i e' l hj
   obtain⟨z,h3,h4⟩:=de h1
   obtain⟨h5,h6⟩:=dM h3
   refine⟨_,_,_,h5,by simp,λH' hA K'=> ?_⟩
   unfold Mv
   rw[h2 H' (λi hi=>hA i (a6 _ (a6 _ hi)))]
   simp only
   rw[hA j (by simp),hj]
   simp only
   rw[h4]
   exact h6 _
  ·cases h1
 ·cases h1
theorem Gb{e:Ty}{n:Nat}{H:Nat→Option aW}: ∀{ps:List (Nat×bk)} {l:List e.den} {Jf:List Nat} {Gc:ig} {K:List e.den→List Nat→ig→Option α},wU e H n ps l Jf Gc K=some r→
  ∃l' rd ups,K l' rd ups=some r∧(∀i∈Jf,i∈rd)∧ ∀H',Ag rd H H'→ ∀K':List e.den→List Nat→ig→Option α,wU e H' n ps l Jf Gc K'=K' l' rd ups
 |[],l,Jf,Gc,K,h=>⟨l,Jf,Gc,h,λ_ h=>h,λ_ _ _=>rfl⟩
 |p::ps,l,Jf,Gc,K,h=>by
  unfold wU at h
  obtain⟨h1,h2⟩:=dM h
  obtain⟨y,VW,BW,h3,h4⟩:=oR h1
  obtain⟨l',rd,ups,h5,h6,h7⟩:=Gb h3
  refine⟨l',rd,ups,h5,λi hi=>h6 i (cS _ hi),λH' hA K'=> ?_⟩
  unfold wU
  rw[h2,h4 H' (λi hi=>hA i (h6 i (cA _ hi)))]
  exact h7 H' hA K'
theorem BY{τ:Ty}{H:Nat→Option aW}: ∀{ps:List (Nat×bk)} {x:τ.den} {Jf:List Nat} {Gc:ig} {K:τ.den→List Nat→ig→Option α},ly τ H ps x Jf Gc K=some r→
  ∃x' rd ups,K x' rd ups=some r∧(∀i∈Jf,i∈rd)∧ ∀H',Ag rd H H'→ ∀K':τ.den→List Nat→ig→Option α,ly τ H' ps x Jf Gc K'=K' x' rd ups
 |[],x,Jf,Gc,K,h=>⟨x,Jf,Gc,h,λ_ h=>h,λ_ _ _=>rfl⟩
 |p::ps,x,Jf,Gc,K,h=>by
  unfold ly at h
  obtain⟨υ,z,h1,h2⟩:=xT h
  obtain⟨y,VW,BW,h3,h4⟩:=oR h1
  obtain⟨z',h5,h6⟩:=zd (m:=fun υ' _ k'=>cr υ υ' y k') (fun υ' y' k hk=>de hk) h3
  obtain⟨x',rd,ups,h7,h8,h9⟩:=BY h5
  refine⟨x',rd,ups,h7,λi hi=>h8 i (cS _ hi),λH' hA K'=> ?_⟩
  unfold ly
  rw[h2,h4 H' (λi hi=>hA i (h8 i (cA _ hi))),h6]
  exact h9 H' hA K'
theorem Wi{H:Nat→Option aW}{v:bk}{a:Ty}{k:a.den→List Nat→ig→Option α}(h:CO v H a k=some r):
  ∃x rd ups,k x rd ups=some r∧ ∀H',Ag rd H H'→ ∀k':a.den→List Nat→ig→Option α,CO v H' a k'=k' x rd ups:=by
 unfold CO at h
 split at h
 ·split at h
  ·obtain⟨z,h1,h2⟩:=de h
   refine⟨_,_,_,h1,λH' _ k'=> ?_⟩
   unfold CO
   simp only
   rw[h2]
  ·cases h
 ·rename_i k0 nr
  obtain⟨y,rd,ups,h1,h2⟩:=oR h
  refine⟨y,rd,ups,h1,λH' hA k'=> ?_⟩
  unfold CO
  split
  ·exact(nr _ _ rfl HEq.rfl).elim
  ·exact h2 H' hA _
theorem M7{H:Nat→Option aW}: ∀{τ:Ty} {vs:List bk} {k:τ.den→List Nat→ig→Option α},rp H τ vs k=some r→
  ∃x rd ups,k x rd ups=some r∧ ∀H',Ag rd H H'→ ∀k':τ.den→List Nat→ig→Option α,rp H' τ vs k'=k' x rd ups
 | .unit,[],k,h=>⟨(),[],[],h,λ_ _ _=>rfl⟩
 | .pair a b,v::vs,k,h=>by
  unfold rp at h
  obtain⟨y,rd,ups,h1,h2⟩:=Wi h
  obtain⟨ys,xL,iR,h3,h4⟩:=M7 h1
  refine⟨(y,ys),_,_,h3,λH' hA k'=> ?_⟩
  unfold rp
  rw[h2 H' (λi hi=>hA i (cS _ hi)),h4 H' (λi hi=>hA i (cA _ hi))]
 | .unit,_::_,_,h=>by simp[rp]at h
 | .pair _ _,[],_,h=>by simp[rp]at h
 | .int _,_,_,h| .bool,_,_,h| .str,_,_,h| .slice _,_,_,h| .arr _ _,_,_,h=>by simp[rp]at h
theorem Gd: ∀{qo:List bk} {H:Nat→Option aW} {K:List bk→List Nat→ig→Option α},wV H qo K=some r→
  ∃cs rd ups,K cs rd ups=some r∧ ∀H',Ag rd H H'→ ∀K':List bk→List Nat→ig→Option α,wV H' qo K'=K' cs rd ups
 |[],H,K,h=>⟨[],[],[],h,λ_ _ _=>rfl⟩
 |a::qo,H,K,h=>by
  unfold wV at h
  split at h
  ·rename_i id
   split at h
   ·rename_i τ x hid
    obtain⟨cs,rd,ups,h1,h2⟩:=Gd h
    refine⟨_,_,_,h1,λH' hA K'=> ?_⟩
    unfold wV
    simp only
    rw[hA id (by simp),hid]
    simp only
    rw[h2 (bc H' id (some .gone)) (λi hi=>by
     by_cases bw:i=id
     ·subst bw;rw[ar,ar]
     ·rw[av _ _ bw,av _ _ bw];exact hA i (a6 _ hi))]
   ·cases h
  ·rename_i nr
   obtain⟨cs,rd,ups,h1,h2⟩:=Gd h
   refine⟨_,_,_,h1,λH' hA K'=> ?_⟩
   unfold wV
   split
   ·exact absurd rfl (nr _)
   ·rw[h2 H' hA]
end VM
end
