/- A part of the proof of LotSlices of layer 23: a machine that reads a function of the program as an equation between values. -/
import Derived.Test.YthnjnpjmbabcaaaVm5
set_option linter.all false
open List renaming getD→γ
section
namespace VM
open Go
variable{P:Program}{E:Env}{o:Oper}{a:Act}{w:World}{M:Nat→Prop}{ν:Nat→Value}{σ:St}{c:Ctx}{α:Type}{r:α}{next:Act→World→Prop}{Q:Exit→Act→World→Prop}
def mix{β:Type}(A B:Nat→β):Nat→β:=λi=>if i%2=0 then A (i/2)else B (i/2)
theorem da{β:Type}(A B:Nat→β)(i:Nat):mix A B (2*i)=A i:=by
 unfold mix
 rw[af ω,show 2*i/2=i from by omega]
theorem jL{β:Type}(A B:Nat→β)(i:Nat):mix A B (2*i+1)=B i:=by
 unfold mix
 rw[ag ω,show(2*i+1)/2=i from by omega]
theorem MF{β:Type}{A B A' B':Nat→β}(hl: ∀i,A i=A' i)(hr: ∀i,B i=B' i):mix A B=mix A' B':=by
 funext i;unfold mix;rw[hl,hr]
def ar.re(f:Nat→Nat):ar→ar
 | .cQ τ x p j=> .cQ τ x p (f j)
 |e=>e
theorem ER.re{v:Value}{f:Nat→Nat}{e:ar}:ER w M v (e.re f)↔ER w M v e:=by cases e<;>simp[ar.re,ER]
theorem ar.ja{f:Nat→Nat}{e:ar}:(e.re f).mut↔e.mut:=by cases e<;>simp[ar.re,ar.mut]
theorem ar.Bs{f g:Nat→Nat}{e e':ar}:(e.re f).eg (e'.re g)↔e.eg e':=by cases e<;>cases e'<;>simp[ar.re,ar.eg]
def ml(i:Nat):Nat:=2*i
def mr(i:Nat):Nat:=2*i+1
def cK(A B:Nat→Option ar):Nat→Option ar:=λi=>if i%2=0 then(A (i/2)).map (ar.re ml)else(B (i/2)).map (ar.re mr)
theorem jY(A B:Nat→Option ar)(i:Nat):cK A B (2*i)=(A i).map (ar.re ml):=by
 unfold cK
 rw[af ω,show 2*i/2=i from by omega]
theorem fQ(A B:Nat→Option ar)(i:Nat):cK A B (2*i+1)=(B i).map (ar.re mr):=by
 unfold cK
 rw[ag ω,show(2*i+1)/2=i from by omega]
theorem c8{A B:Nat→Option ar}{i:Nat}{e:ar}(h:A i=some e):cK A B (2*i)=some (e.re ml):=by rw[jY,h];rfl
theorem gv{A B:Nat→Option ar}{i:Nat}{e:ar}(h:B i=some e):cK A B (2*i+1)=some (e.re mr):=by rw[fQ,h];rfl
theorem xm{A B:Nat→Option ar}{i:Nat}:cK A B (2*i)≠none↔A i≠none:=by rw[jY];cases A i<;>simp
theorem xn{A B:Nat→Option ar}{i:Nat}:cK A B (2*i+1)≠none↔B i≠none:=by rw[fQ];cases B i<;>simp
theorem gh(A B:Nat→Option ar)(i:Nat)(v:Option ar):au (cK A B) (2*i) (v.map (ar.re ml))=cK (au A i v) B:=by
 funext k
 by_cases hk:k=2*i
 ·subst hk;rw[aa,jY,aa]
 ·rw[ae _ _ hk]
  unfold cK
  by_cases h2:k%2=0
  ·rw[af h2,af h2,ae _ _ ω]
  ·rw[ag h2,ag h2]
theorem jb(A B:Nat→Option ar)(i:Nat)(v:Option ar):au (cK A B) (2*i+1) (v.map (ar.re mr))=cK A (au B i v):=by
 funext k
 by_cases hk:k=2*i+1
 ·subst hk;rw[aa,fQ,aa]
 ·rw[ae _ _ hk]
  unfold cK
  by_cases h2:k%2=0
  ·rw[af h2,af h2]
  ·rw[ag h2,ag h2,ae _ _ ω]
theorem updν_mix_r(A B:Nat→Value)(i:Nat)(v:Value):updν (mix A B) (2*i+1) v=mix A (updν B i v):=by
 funext k
 unfold updν mix
 by_cases hk:k=2*i+1
 ·subst hk;rw[af rfl,ag ω]
  show v=if(2*i+1)/2=i then v else B ((2*i+1)/2)
  rw[af ω]
 ·rw[ag hk]
  by_cases h2:k%2=0
  ·rw[af h2,af h2]
  ·rw[ag h2,ag h2]
   show B (k/2)=if k/2=i then v else B (k/2)
   rw[ag ω]
theorem Mem.left{H A:Nat→Option ar}{νA:Nat→Value}(h:Mem c (cK H A) w M (mix ν νA)):Mem c H w M ν:=
 ⟨λi e hi=>by have:=h.dd (2*i) _ (c8 hi);rw[da]at this;exact ER.re.1 this,
  λi j e e' b gH hi hm hj dz=>by have:=h.ob (2*i) (2*j) _ _ b ω (c8 hi) (ar.ja.2 hm) (c8 hj) (ar.ja.2 dz);rwa [da,da]at this,
  λi e b hi hm=>by have:=h.new (2*i) _ b (c8 hi) (ar.ja.2 hm);rwa [da]at this,
  λi e l b hi=>by have:=h.n7 (2*i) e l b (c8 hi);rwa [da]at this,
  λi τ x p j hi=>by
   obtain⟨h1,b,h2,h3⟩:=h.cQ (2*i) τ x p (ml j) (c8 hi)
   rw[da]at h2
   unfold ml at h1 h3
   rw[da]at h3
   exact⟨xm.1 h1,b,h2,h3⟩,
  h.sub,h.oy,h.frame,h.size,h.gf,h.os,h.tape,h.output⟩
theorem Mem.right{H A:Nat→Option ar}{νA:Nat→Value}(h:Mem c (cK H A) w M (mix ν νA)):Mem c A w M νA:=
 ⟨λi e hi=>by have:=h.dd (2*i+1) _ (gv hi);rw[jL]at this;exact ER.re.1 this,
  λi j e e' b gH hi hm hj dz=>by have:=h.ob (2*i+1) (2*j+1) _ _ b ω (gv hi) (ar.ja.2 hm) (gv hj) (ar.ja.2 dz);rwa [jL,jL]at this,
  λi e b hi hm=>by have:=h.new (2*i+1) _ b (gv hi) (ar.ja.2 hm);rwa [jL]at this,
  λi e l b hi=>by have:=h.n7 (2*i+1) e l b (gv hi);rwa [jL]at this,
  λi τ x p j hi=>by
   obtain⟨h1,b,h2,h3⟩:=h.cQ (2*i+1) τ x p (mr j) (gv hi)
   rw[jL]at h2
   unfold mr at h1 h3
   rw[jL]at h3
   exact⟨xn.1 h1,b,h2,h3⟩,
  h.sub,h.oy,h.frame,h.size,h.gf,h.os,h.tape,h.output⟩
theorem Mem.Hp{H:Nat→Option ar}(νA:Nat→Value)(h:Mem c H w M ν):Mem c (cK H (λ_=>none)) w M (mix ν νA):=by
 have key: ∀i e,cK H (λ_=>none) i=some e→ ∃j e0,i=2*j∧H j=some e0∧e=e0.re ml:=by
  intro i e hi
  unfold cK at hi
  by_cases h2:i%2=0
  ·rw[af h2]at hi
   obtain⟨e0,h3,h4⟩:=o4.1 hi
   exact⟨i/2,e0,ω,h3,h4.symm⟩
  ·rw[ag h2]at hi;cases hi
 refine⟨λi e hi=> ?_,λi j e e' b gH hi hm hj dz=> ?_,λi e b hi hm=> ?_,λi e l b hi=> ?_,λi τ x p j hi=> ?_,h.sub,h.oy,h.frame,h.size,h.gf,h.os,h.tape,h.output⟩
 ·obtain⟨j,e0,rfl,hj,rfl⟩:=key i e hi;rw[da];exact ER.re.2 (h.dd j e0 hj)
 ·obtain⟨i',e1,rfl,kk,rfl⟩:=key i e hi;obtain⟨j',e2,rfl,Ev,rfl⟩:=key j e' hj
  rw[da,da];exact h.ob i' j' e1 e2 b ω kk (ar.ja.1 hm) Ev (ar.ja.1 dz)
 ·obtain⟨j,e0,rfl,hj,rfl⟩:=key i e hi;rw[da];exact h.new j e0 b hj (ar.ja.1 hm)
 ·obtain⟨j,e0,rfl,hj,he⟩:=key i _ hi
  cases e0<;>simp only[ar.re]at he<;>cases he
  rw[da];exact h.n7 j e l b hj
 ·obtain⟨k,e0,rfl,hk,he⟩:=key i _ hi
  cases e0<;>simp only[ar.re]at he<;>cases he
  obtain⟨h1,b,h2,h3⟩:=h.cQ k _ _ _ _ hk
  refine⟨xm.2 h1,b,by rw[da];exact h2,?_⟩
  unfold ml
  rw[da];exact h3
theorem dM.left{H A H' A':Nat→Option ar}{νA ν' νA':Nat→Value}(g:dM (cK H A) (mix ν νA) (cK H' A') (mix ν' νA')):dM H ν H' ν':=
 ⟨λi e hi=>by
   obtain⟨e',h1,h2⟩:=g.dd (2*i) _ (c8 hi)
   rw[jY]at h1
   obtain⟨e0,h3,rfl⟩:=o4.1 h1
   exact⟨e0,h3,ar.Bs.1 h2⟩,
  λi hi=>by have:=g.head (2*i) (xm.2 hi);rwa [da,da]at this⟩
theorem dM.right{H A H' A':Nat→Option ar}{νA ν' νA':Nat→Value}(g:dM (cK H A) (mix ν νA) (cK H' A') (mix ν' νA')):dM A νA A' νA':=
 ⟨λi e hi=>by
   obtain⟨e',h1,h2⟩:=g.dd (2*i+1) _ (gv hi)
   rw[fQ]at h1
   obtain⟨e0,h3,rfl⟩:=o4.1 h1
   exact⟨e0,h3,ar.Bs.1 h2⟩,
  λi hi=>by have:=g.head (2*i+1) (xn.2 hi);rwa [jL,jL]at this⟩
theorem Mem.move{H A:Nat→Option ar}{νA:Nat→Value}(h:Mem c (cK H A) w M (mix ν νA)){i j:Nat}{e e1:ar}(hi:H i=some e)(hm:e.mut)(hj:A j=none)
  (pK:(e1=e∧ ∀τ x p k,e≠ .cQ τ x p k)∨ ∃τ x p k k',e= .cQ τ x p k∧e1= .cQ τ x p k'∧A k'≠none∧νA k'=ν k):
  Tr c (cK H A) w M (mix ν νA) (cK (au H i (some .gone)) (au A j (some e1))) w M (mix ν (updν νA j (ν i))):=by
 have hg:=Tr.gone h (2*i)
 have Rf:(some ar.gone)=(some ar.gone).map (ar.re ml):=rfl
 rw[Rf,gh]at hg
 have Bq:=c8 (B:=A) hi
 have Vn:ER w M (ν i) (e1.re mr):=by
  have h1:=h.dd (2*i) _ Bq
  rw[da]at h1
  have h1:=ER.re.1 h1
  rcases pK with⟨rfl,_⟩|⟨τ,x,p,k,k',rfl,rfl,_,_⟩
  ·exact ER.re.2 h1
  ·exact h1
 have h2:=Mem.mo hg.mem (id:=2*j+1) (v:=ν i) (e:=e1.re mr) (λe' js=>by rw[fQ,hj]at js;cases js)
  Vn
  (λb hb k e' hk dz=>by
   by_cases sT:k=2*i
   ·subst sT;rw[jY,aa]at hk;cases hk;simp[ar.re,ar.mut]at dz
   ·have MG:cK H A k=some e':=by
     have:=congrFun (gh H A i (some .gone)) k
     rw[ae _ _ sT]at this
     rw[this];exact hk
    have:=h.ob (2*i) k _ e' b (cf sT) Bq (ar.ja.2 hm) MG dz
    rw[da]at this
    exact this hb)
  (λb hb=>by have:=h.new (2*i) _ b Bq (ar.ja.2 hm);rw[da]at this;exact this hb)
  (λb e0 l0 he hb=>by
   rcases pK with⟨rfl,_⟩|⟨τ,x,p,k,k',rfl,rfl,_,_⟩
   ·cases e1<;>simp only[ar.re]at he<;>cases he
    have:=h.n7 (2*i) e0 l0 b Bq;rw[da]at this;exact this hb
   ·simp[ar.re]at he)
  (.inl (by rw[fQ,hj];rfl))
  (fun τ x p k he=>by
   rcases pK with⟨rfl,hn⟩|⟨τ,x,p,k,k',rfl,rfl,hk,hνk⟩
   ·cases e1<;>simp only[ar.re]at he<;>cases he
    exact absurd rfl (hn _ _ _ _)
   ·simp only[ar.re]at he
    cases he
    obtain⟨_,b,h4,h5⟩:=h.cQ (2*i) _ _ _ _ Bq
    rw[da]at h4
    have PU:k'≠j:=λe=>hk (e▸hj)
    refine⟨?_,b,h4,?_⟩
    ·rw[ae _ _ (by unfold mr;omega)]
     unfold mr
     exact xn.2 hk
    ·unfold ml at h5
     rw[da]at h5
     rw[h5,←hνk]
     have:updν (mix ν νA) (2*j+1) (ν i) (mr k')=mix ν νA (mr k'):=by
      unfold updν mr;rw[ag ω]
     rw[this];unfold mr;rw[jL])
 have Hr:some (e1.re mr)=(some e1).map (ar.re mr):=rfl
 rw[Hr,jb,updν_mix_r]at h2
 refine⟨h2,.refl w M,⟨λk e' hk=> ?_,λk hk=> ?_⟩⟩
 ·by_cases h3:k%2=0
  ·obtain⟨k',rfl⟩: ∃k',k=2*k':=⟨k/2,ω⟩
   by_cases vN:k'=i
   ·subst vN;exact⟨.gone,by rw[jY,aa];rfl,ar.dN _⟩
   ·exact⟨e',by rw[jY]at hk ⊢;rw[ae _ _ vN];exact hk,.refl e'⟩
  ·obtain⟨k',rfl⟩: ∃k',k=2*k'+1:=⟨k/2,ω⟩
   rw[fQ]at hk ⊢
   have vN:k'≠j:=λe=>by rw[e,hj]at hk;cases hk
   exact⟨e',by rw[ae _ _ vN];exact hk,.refl e'⟩
 ·by_cases h3:k%2=0
  ·obtain⟨k',rfl⟩: ∃k',k=2*k':=⟨k/2,ω⟩
   rw[da,da]
  ·obtain⟨k',rfl⟩: ∃k',k=2*k'+1:=⟨k/2,ω⟩
   rw[jL,jL]
   have vN:k'≠j:=λe=>by rw[fQ,e,hj]at hk;exact hk rfl
   simp[updν,vN]
theorem Mem.fresh{H A:Nat→Option ar}{νA:Nat→Value}(h:Mem c (cK H A) w M (mix ν νA)){j:Nat}(hj:A j=none)(e:Ty)(ad:Option Addr):
  Tr c (cK H A) w M (mix ν νA) (cK H (au A j (some (.own e [])))) w M (mix ν (updν νA j (.slice ad 0 0))):=by
 have:=Tr.nothing h (id:=2*j+1) (by rw[fQ,hj];rfl) e ad
 have Hr:some (ar.own e [])=(some (ar.own e [])).map (ar.re mr):=rfl
 rw[Hr,jb,updν_mix_r]at this
 exact this
def wx(H' H:Nat→Option ar):Prop:= ∀i e l o,H' i=some (.cq e l o)→H i=some (.cq e l o)
theorem wx.rfl{H:Nat→Option ar}:wx H H:=λ_ _ _ _ h=>h
theorem wx.trans{H H' IG:Nat→Option ar}(h:wx IG H')(k:wx H' H):wx IG H:=λi e l o hi=>k i e l o (h i e l o hi)
theorem wx.qz{H:Nat→Option ar}{j:Nat}{v:ar}(hv: ∀e l o,v≠ .cq e l o):wx (au H j (some v)) H:=λi e l o hi=>by
 by_cases gH:i=j
 ·subst gH;rw[aa]at hi;cases hi;exact absurd (Eq.refl _) (hv e l o)
 ·rwa [ae _ _ gH]at hi
theorem wx.mix{H H' A A':Nat→Option ar}(h:wx H' H)(k:wx A' A):wx (cK H' A') (cK H A):=λi e l o hi=>by
 have key: ∀{f:Nat→Nat} {x:Option ar},x.map (ar.re f)=some (.cq e l o)→x=some (.cq e l o):=λ{f x} hx=>by
  cases x with
  |none=>cases hx
  |some y=>cases y<;>simp[ar.re]at hx ⊢ <;>exact hx
 by_cases h3:i%2=0
 ·obtain⟨k',rfl⟩: ∃k',i=2*k':=⟨i/2,ω⟩
  rw[jY]at hi ⊢;rw[h _ _ _ _ (key hi)];rfl
 ·obtain⟨k',rfl⟩: ∃k',i=2*k'+1:=⟨i/2,ω⟩
  rw[fQ]at hi ⊢;rw[k _ _ _ _ (key hi)];rfl
structure CF(c0 c:Ctx)(H A:Nat→Option ar)(ν νA:Nat→Value):Prop where
 tok:A 7=none→ ∀i e l o,A i≠some (.cq e l o)
 one: ∀i j e l o e' l' o',cK H A i=some (.cq e l o)→cK H A j=some (.cq e' l' o')→i=j
 mem: ∀i e l o,cK H A i=some (.cq e l o)→Nv c0 c e l o (mix ν νA i)
theorem CF.step{c0:Ctx}{H A H' A':Nat→Option ar}{νA νA':Nat→Value}(h:CF c0 c H A ν νA)(g:dM (cK H A) (mix ν νA) (cK H' A') (mix ν νA'))(h1:wx H' H)(h2:wx A' A):CF c0 c H' A' ν νA':=by
 refine⟨λh7 i e l o hi=> ?_,λi j e l o e' l' o' hi hj=>h.one i j _ _ _ _ _ _ (h1.mix h2 _ _ _ _ hi) (h1.mix h2 _ _ _ _ hj),λi e l o hi=> ?_⟩
 ·refine h.tok ?_ i e l o (h2 _ _ _ _ hi)
  cases h0:A 7 with
  |none=>rfl
  |some e0=>obtain⟨e1,h1,_⟩:=g.right.dd 7 e0 h0;rw[h7]at h1;cases h1
 ·have:=h1.mix h2 _ _ _ _ hi
  rw[g.head i (by rw[this];simp)]
  exact h.mem i e l o this
structure Cut(fl:Prop)(c0 c:Ctx)(σ acc:St)(tm:Array Value)(w:World)(M:Nat→Prop)(ν νA:Nat→Value):Prop where
 mem:Mem c (cK σ.H acc.H) w M (mix ν νA)
 src: ∀i,VR w M σ.H ν (σ.T i) (tm.getD i undef)
 dst: ∀i,VR w M acc.H νA (acc.T i) (tm.getD i undef)
 cq:fl→CF c0 c σ.H acc.H ν νA
theorem Cut.tr{fl:Prop}{c0:Ctx}{acc:St}{tm:Array Value}{νA:Nat→Value}(h:Cut fl c0 c σ acc tm w M ν νA){H' A':Nat→Option ar}{M':Nat→Prop}{νA':Nat→Value}(t:Tr c (cK σ.H acc.H) w M (mix ν νA) (cK H' A') w M' (mix ν νA'))(h1:wx H' σ.H)(h2:wx A' acc.H){s:Nat}{x:ax}(hx:VR w M' A' νA' x (tm.getD s undef)):
  Cut fl c0 c ⟨σ.T,H'⟩ ⟨(acc.put s x).T,A'⟩ tm w M' ν νA':=by
 refine⟨t.mem,λi=>VR.aK t.aK t.goes.left (h.src i),λi=> ?_,λhf=>(h.cq hf).step t.goes h1 h2⟩
 show VR w M' A' νA' ((acc.put s x).T i) _
 by_cases hi:i=s
 ·subst hi;rw[iZ];exact hx
 ·rw[nr _ _ hi];exact VR.aK t.aK t.goes.right (h.dst i)
def Ey(A:Nat→Option ar)(s:Nat):Prop:=A (16*s+13)=none∧A (16*s+14)=none∧A (16*s+15)=none
theorem eo{q:Nat×CM}{L:List (Nat×CM)}{A:Nat→Option ar}(hF:ec (q::L)=true)(hN: ∀p∈q::L,Ey A p.1):
  ec L=true∧(∀p∈L,Ey A p.1)∧
   ∀(A':Nat→Option ar) (d:Nat) (v:Option ar),(d=16*q.1+13∨d=16*q.1+14∨d=16*q.1+15)→(∀p∈L,Ey A' p.1)→ ∀p∈L,Ey (au A' d v) p.1:=by
 unfold ec at hF
 rw[aV,iI]at hF
 refine⟨hF.2,λp hp=>hN p (a7 _ hp),λA' d v hd Vo p hp=> ?_⟩
 have dT:p.1≠q.1:=λe=>by
  have:=hF.1 p hp
  rw[e]at this
  simp at this
 obtain⟨h1,h2,h3⟩:=Vo p hp
 exact⟨by rw[ae _ _ ω];exact h1,by rw[ae _ _ ω];exact h2,by rw[ae _ _ ω];exact h3⟩
theorem bV{fl:Prop}{c0:Ctx}{tm:Array Value}: ∀(L:List (Nat×CM)) (σ acc:St) (M:Nat→Prop) (νA:Nat→Value) (K:St→Option α),Cut fl c0 c σ acc tm w M ν νA→ec L=true→(∀q∈L,Ey acc.H q.1)→c4 L σ acc K=some r→
  ∃Ez M' νA',K Ez=some r∧Core c Ez tm w M' νA'∧(fl→ek c0 c Ez.H νA')
 |[],σ,acc,M,νA,K,hC,_,_,h=>⟨acc,M,νA,h,⟨hC.mem.right,hC.dst⟩,λhf=>⟨(hC.cq hf).tok,λi j e l o e' l' o' hi hj=>by
   have:=(hC.cq hf).one (2*i+1) (2*j+1) e l o e' l' o' (gv hi) (gv hj);omega,λi e l o hi=>by
   have:=(hC.cq hf).mem (2*i+1) e l o (gv hi);rwa [jL]at this⟩⟩
 |(s,.v τ)::L,σ,acc,M,νA,K,hC,hF,hN,h=>by
  obtain⟨yd,ye,ud⟩:=eo hF hN
  unfold c4 at h
  obtain⟨y,rd,ups,h,hy⟩:=sS hC.mem.left (hC.src s) h
  rcases hy with⟨rfl,hV⟩|⟨id,e,l,rfl,hid,hV⟩
  ·exact bV L σ _ M νA K (hC.tr (.refl hC.mem) .rfl .rfl (x:= .val τ y) (by simp only[VR];exact hV)) yd ye h
  ·obtain⟨M2,cI,_,xe⟩:=Tr.freeze hC.mem (id:=2*id) (c8 hid)
   have Hr:some (ar.gr e l)=(some (ar.gr e l)).map (ar.re ml):=rfl
   rw[Hr,gh]at cI
   refine bV L _ _ M2 νA K (hC.tr cI (.qz λ_ _ _=>by simp) .rfl (x:= .val τ y) ?_) yd ye h
   simp only[VR]
   exact hV M2 (λb=>by rw[xe b,da])
 |(s,.own e)::L,σ,acc,M,νA,K,hC,hF,hN,h=>by
  obtain⟨yd,ye,ud⟩:=eo hF hN
  unfold c4 at h
  have hs:=hC.src s
  split at h
  ·rename_i hT
   have hj:=(hN _ ba).2.1
   rw[hT]at hs
   obtain⟨ad,hv⟩:=VR.emp.1 hs
   refine bV L σ _ M _ K (hC.tr (hC.mem.fresh hj e ad) .rfl (.qz λ_ _ _=>by simp) (x:= .ref (16*s+14)) ?_) yd (ud _ _ _ (.inr (.inl rfl)) ye) h
   simp only[VR]
   exact⟨by rw[aa];simp,by rw[hv];simp[updν]⟩
  ·rename_i id hT
   rw[hT]at hs
   simp only[VR]at hs
   split at h
   ·rename_i e' l hid
    obtain⟨e1,h⟩:=aw h
    cases e1
    have hj:=(hN _ ba).2.1
    refine bV L _ _ M _ K (hC.tr (hC.mem.move hid trivial hj (.inl ⟨rfl,λ_ _ _ _=>by simp⟩)) (.qz λ_ _ _=>by simp) (.qz λ_ _ _=>by simp) (x:= .ref (16*s+14)) ?_) yd (ud _ _ _ (.inr (.inl rfl)) ye) h
    simp only[VR]
    exact⟨by rw[aa];simp,by rw[hs.2];simp[updν]⟩
   ·cases h
  ·cases h
 |(s,.obj τ)::L,σ,acc,M,νA,K,hC,hF,hN,h=>by
  obtain⟨yd,ye,ud⟩:=eo hF hN
  unfold c4 at h
  have hs:=hC.src s
  split at h
  ·rename_i id hT
   rw[hT]at hs
   split at h
   ·rename_i υ x hid
    obtain⟨e1,h⟩:=aw h
    subst e1
    have hj:=(hN _ ba).2.1
    simp only[VR]at hs
    obtain⟨e,he,dR⟩:=hs
    rw[hid]at he;cases he
    simp only[AR]at dR
    obtain⟨_,b,hb,hv⟩:=dR
    refine bV L _ _ M _ K (hC.tr (hC.mem.move hid trivial hj (.inl ⟨rfl,λ_ _ _ _=>by simp⟩)) (.qz λ_ _ _=>by simp) (.qz λ_ _ _=>by simp) (x:= .dg (16*s+14) []) ?_) yd (ud _ _ _ (.inr (.inl rfl)) ye) h
    simp only[VR]
    exact⟨_,aa _ _ _,trivial,b,by simp[updν,hb],hv⟩
   ·
    rename_i υ x q k hid
    obtain⟨z,ups,M2,hK,GF,cI,NA,b,cs,t,hb,hg,xe,eJ⟩: ∃z ups M2,aP υ τ z (λy=>c4 L ((σ.mY ups).di id (some .gone)) ((acc.put s (.dg (16*s+14) [])).di (16*s+14) (some (.obj τ y))) K)=some r∧wx (aN σ.H ups) σ.H∧
      Tr c (cK σ.H acc.H) w M (mix ν νA) (cK (aN σ.H ups) acc.H) w M2 (mix ν νA)∧aN σ.H ups id=some (.cQ υ x q k)∧ ∃b cs t,ν id= .pointer (some ⟨b,0,none⟩)∧w.heap[b]? =some (.cells cs t (0,0))∧M2 b∧Rd w M2 υ cs.toList z:=by
     have NB:=c8 (B:=acc.H) hid
     unfold qE at h
     split at h
     ·rename_i e l hk
      have dT:id≠k:=λe=>by rw[e,hk]at hid;cases hid
      obtain⟨z,ups,M2,hK,cI,_,Ka,b,cs,t,hb,hg,xe,eJ⟩:=lD (H:=cK σ.H acc.H) hC.mem (id:=2*id) (j:=2*k) (x:=x) (q:=q)
       (k:=λz _=>aP υ τ z λy=>c4 L ((σ.mY [(k,some (.gr e l))]).di id (some .gone)) ((acc.put s (.dg (16*s+14) [])).di (16*s+14) (some (.obj τ y))) K) NB (by
        unfold qE
        rw[c8 hk]
        exact h)
      rw[da]at hb
      rcases Ka with⟨e2,l2,h2,_⟩|⟨e2,l2,h2,rfl⟩
      ·rw[c8 hk]at h2;simp[ar.re]at h2
      ·rw[c8 hk]at h2
       simp only[ar.re,bZ]at h2
       have Hr:some (ar.gr e l)=(some (ar.gr e l)).map (ar.re ml):=rfl
       have nh:Tr c (cK σ.H acc.H) w M (mix ν νA) (au (cK σ.H acc.H) (2*k) (some (.gr e l))) w M2 (mix ν νA):=by
        cases h2;exact cI
       rw[Hr,gh]at nh
       exact⟨z,_,M2,hK,.qz (λ_ _ _=>by simp),nh,by show au σ.H k _ id=_;rw[ae _ _ dT];exact hid,b,cs,t,hb,hg,xe,eJ⟩
     ·rename_i e l hk
      obtain⟨z,ups,M2,hK,cI,_,Ka,b,cs,t,hb,hg,xe,eJ⟩:=lD (H:=cK σ.H acc.H) hC.mem (id:=2*id) (j:=2*k) (x:=x) (q:=q)
       (k:=λz _=>aP υ τ z λy=>c4 L ((σ.mY []).di id (some .gone)) ((acc.put s (.dg (16*s+14) [])).di (16*s+14) (some (.obj τ y))) K) NB (by
        unfold qE
        rw[c8 hk]
        exact h)
      rw[da]at hb
      rcases Ka with⟨e2,l2,h2,rfl⟩|⟨e2,l2,h2,_⟩
      ·exact⟨z,[],M2,hK,.rfl,cI,hid,b,cs,t,hb,hg,xe,eJ⟩
      ·rw[c8 hk]at h2;simp[ar.re]at h2
     ·cases h
    obtain⟨e1,hK⟩:=aw hK
    subst e1
    have Rg:Cut fl c0 c ⟨σ.T,aN σ.H ups⟩ acc tm w M2 ν νA:=⟨cI.mem,λi=>VR.aK cI.aK cI.goes.left (hC.src i),λi=>VR.aK cI.aK cI.goes.right (hC.dst i),λhf=>(hC.cq hf).step cI.goes GF .rfl⟩
    have rD:=Tr.M4 (e':= .obj υ z) cI.mem (c8 NA) trivial trivial rfl (λ_ _=>by simp) (by rw[da];simp only[ER];exact⟨b,cs,t,hb,hg,xe,eJ⟩) (λ_ _ _ _ h=>by cases h)
    have Hr:some (ar.obj υ z)=(some (ar.obj υ z)).map (ar.re ml):=rfl
    rw[Hr,gh]at rD
    have Te:Cut fl c0 c ⟨σ.T,au (aN σ.H ups) id (some (.obj υ z))⟩ acc tm w M2 ν νA:=⟨rD.mem,λi=>VR.aK rD.aK rD.goes.left (Rg.src i),λi=>VR.aK rD.aK rD.goes.right (Rg.dst i),λhf=>(Rg.cq hf).step rD.goes (.qz λ_ _ _=>by simp) .rfl⟩
    have hj:=(hN _ ba).2.1
    simp only[VR]at hs
    obtain⟨e,he,dR⟩:=hs
    rw[hid]at he;cases he
    simp only[AR]at dR
    obtain⟨_,b',bA,hv⟩:=dR
    rw[hb]at bA;cases bA
    have P3:=Te.mem.move (aa _ _ _) trivial hj (.inl ⟨rfl,λ_ _ _ _=>by simp⟩)
    rw[oz]at P3
    have wj:(σ.mY ups).di id (some .gone)=⟨σ.T,au (aN σ.H ups) id (some .gone)⟩:=by
     have h2:σ.mY ups=⟨σ.T,aN σ.H ups⟩:=by rw[←Aw,←Ax ups σ]
     rw[h2];rfl
    rw[wj]at hK
    refine bV L _ _ M2 _ K (Te.tr P3 (λi e l o hi=>by
     by_cases ay:i=id
     ·subst ay;rw[aa]at hi;cases hi
     ·rw[ae _ _ ay]at hi;show au _ id _ i=_;rw[ae _ _ ay];exact hi) (.qz λ_ _ _=>by simp) (x:= .dg (16*s+14) []) ?_) yd (ud _ _ _ (.inr (.inl rfl)) ye) hK
    simp only[VR]
    exact⟨_,aa _ _ _,trivial,b,by simp[updν,hb],hv⟩
   ·cases h
  ·cases h
 |(s,.cQ τ q e)::L,σ,acc,M,νA,K,hC,hF,hN,h=>by
  obtain⟨yd,ye,ud⟩:=eo hF hN
  unfold c4 at h
  have hs:=hC.src s
  split at h
  ·rename_i id hT
   rw[hT]at hs
   split at h
   ·rename_i υ x q' k hid
    obtain⟨G2,h1⟩:=aG h
    clear h
    have:=ox G2
    subst this
    split at h1
    ·rename_i e' l hk
     obtain⟨e1,h2⟩:=aw h1
     clear h1
     subst e1
     obtain⟨e2,h⟩:=aw h2
     cases e2
     have dT:id≠k:=λe=>by rw[e,hk]at hid;cases hid
     obtain⟨Rh,Ri,_⟩:=hN _ ba
     simp only[VR]at hs
     obtain⟨e,he,dR⟩:=hs
     rw[hid]at he;cases he
     simp only[AR]at dR
     obtain⟨_,b,hb,hv⟩:=dR
     have ew:=hC.mem.move hk trivial Rh (.inl ⟨rfl,λ_ _ _ _=>by simp⟩)
     have gW:au σ.H k (some .gone) id=some (.cQ υ x q k):=by rw[ae _ _ dT];exact hid
     have iC:=ew.mem.move gW trivial (j:=16*s+14) (e1:= .cQ υ x q (16*s+13)) (by rw[ae _ _ ω];exact Ri)
      (.inr ⟨υ,x,q,k,16*s+13,rfl,rfl,by rw[aa];simp,by simp[updν]⟩)
     refine bV L _ _ M _ K (hC.tr (ew.trans iC) (.trans (.qz λ_ _ _=>by simp) (.qz λ_ _ _=>by simp)) (.trans (.qz λ_ _ _=>by simp) (.qz λ_ _ _=>by simp)) (s:=s) (x:= .dg (16*s+14) []) ?_) yd (ud _ _ _ (.inr (.inl rfl)) (ud _ _ _ (.inl rfl) ye)) h
     simp only[VR]
     exact⟨_,aa _ _ _,trivial,b,by simp[updν,hb],hv⟩
    ·cases h1
   ·cases h
  ·cases h
 |(s,.same s')::L,σ,acc,M,νA,K,hC,hF,hN,h=>by
  obtain⟨yd,ye,ud⟩:=eo hF hN
  unfold c4 at h
  split at h
  ·rename_i i j j' h1 h2 h3
   obtain⟨hb,h⟩:=aG h
   have hb:=bY hb
   have e1:=hC.src s
   have e2:=hC.src s'
   have e3:=hC.dst s'
   rw[h1]at e1;rw[h2]at e2;rw[h3]at e3
   simp only[VR]at e1 e2 e3
   refine bV L σ _ M νA K (hC.tr (.refl hC.mem) .rfl .rfl (x:= .ref j') ?_) yd ye h
   simp only[VR]
   exact⟨e3.1,by rw[e1.2,hb,←e2.2,e3.2]⟩
  ·cases h
 |(s,.io τ)::L,σ,acc,M,νA,K,hC,hF,hN,h=>by
  obtain⟨yd,ye,ud⟩:=eo hF hN
  unfold c4 at h
  have hs:=hC.src s
  split at h
  ·rename_i id hT
   rw[hT]at hs
   obtain⟨_,h⟩:=aG h
   split at h
   ·rename_i υ x hid
    obtain⟨e1,h⟩:=aw h
    subst e1
    have hj:=(hN _ ba).2.2
    simp only[VR]at hs
    obtain⟨e,he,dR⟩:=hs
    rw[hid]at he;cases he
    simp only[AR]at dR
    obtain⟨_,b,hb,hv⟩:=dR
    refine bV L _ _ M _ K (hC.tr (hC.mem.move hid trivial hj (.inl ⟨rfl,λ_ _ _ _=>by simp⟩)) (.qz λ_ _ _=>by simp) (.qz λ_ _ _=>by simp) (x:= .dg (16*s+15) []) ?_) yd (ud _ _ _ (.inr (.inr rfl)) ye) h
    simp only[VR]
    exact⟨_,aa _ _ _,trivial,b,by simp[updν,hb],hv⟩
   ·cases h
  ·cases h
 |(s,.fn f τ)::L,σ,acc,M,νA,K,hC,hF,hN,h=>by
  obtain⟨yd,ye,ud⟩:=eo hF hN
  unfold c4 at h
  have hs:=hC.src s
  split at h
  ·rename_i f' cs hT
   rw[hT]at hs
   obtain⟨hb,h1⟩:=aG h
   clear h
   have hb:=bY hb
   subst hb
   simp only[VR]at hs
   obtain⟨us,hv,G9⟩:=hs
   obtain⟨y,rd,ups,h,hy⟩:=tY hC.mem.left G9 h1
   split at h
   ·refine bV L σ _ M νA K (hC.tr (.refl hC.mem) .rfl .rfl (x:= .yC f (g8 τ y)) ?_) yd ye h
    simp only[VR]
    exact⟨us,hv,dF.free (hy rfl)⟩
   ·cases h
  ·cases h
 |(s,.cq e)::L,σ,acc,M,νA,K,hC,hF,hN,h=>by
  obtain⟨yd,ye,ud⟩:=eo hF hN
  unfold c4 at h
  have hs:=hC.src s
  split at h
  ·rename_i id hT
   rw[hT]at hs
   simp only[VR]at hs
   split at h
   ·rename_i e' l hid
    obtain⟨e1,h1⟩:=aw h
    clear h
    cases e1
    obtain⟨h7,h⟩:=ej h1
    have hj:=(hN _ ba).2.1
    have hg:=Tr.gone hC.mem (2*id)
    have Rf:(some ar.gone)=(some ar.gone).map (ar.re ml):=rfl
    rw[Rf,gh]at hg
    have ew:=hg.mem.ghost (id:=2*(16*s+14)+1) (e:= .cq e l none) (v:=ν id) (by simp[ar.mut]) (λ_=>by simp[ER]) (.inl (by rw[fQ,hj];rfl))
    have xk:=dM.put (ν:=mix ν νA) (H:=cK (au σ.H id (some .gone)) acc.H) (id:=2*(16*s+14)+1) (by rw[fQ,hj];rfl) (.cq e l none) (ν id)
    have Ho:(some (ar.cq e l none))=(some (ar.cq e l none)).map (ar.re mr):=rfl
    rw[Ho,jb,updν_mix_r]at ew xk
    have iC:=ew.ghost (id:=2*7+1) (e:= .gone) (v:=mix ν (updν νA (16*s+14) (ν id)) (2*7+1)) (by simp[ar.mut]) (λ_=>by simp[ER]) (.inr rfl)
    have Bn:=dM.gone (ν:=mix ν (updν νA (16*s+14) (ν id))) (H:=cK (au σ.H id (some .gone)) (au acc.H (16*s+14) (some (.cq e l none)))) (2*7+1)
    have Vp:(some ar.gone)=(some ar.gone).map (ar.re mr):=rfl
    rw[updν_self]at iC
    rw[Vp,jb]at iC Bn
    have Tf:=(hg.goes.trans xk).trans Bn
    refine bV L ⟨σ.T,au σ.H id (some .gone)⟩ ⟨(acc.put s (.ref (16*s+14))).T,au (au acc.H (16*s+14) (some (.cq e l none))) 7 (some .gone)⟩ M (updν νA (16*s+14) (ν id)) K
     ⟨iC,λi=>VR.aK hg.aK Tf.left (hC.src i),λi=> ?_,λhf=> ?_⟩ yd (λp hp=> ?_) h
    ·show VR w M _ _ ((acc.put s (.ref (16*s+14))).T i) _
     by_cases hi:i=s
     ·subst hi;rw[iZ]
      simp only[VR]
      exact⟨by rw[ae _ _ ω,aa];simp,by rw[hs.2];simp[updν]⟩
     ·rw[nr _ _ hi];exact VR.aK hg.aK Tf.right (hC.dst i)
    ·have P4:=hC.cq hf
     have key: ∀i e1 l1 o1,cK (au σ.H id (some .gone)) (au (au acc.H (16*s+14) (some (.cq e l none))) 7 (some .gone)) i=some (.cq e1 l1 o1)→i=2*(16*s+14)+1∧ar.cq e l none= .cq e1 l1 o1:=λi e1 l1 o1 hi=>by
      by_cases gH:i=2*(16*s+14)+1
      ·subst gH;rw[fQ,ae _ _ ω,aa]at hi
       exact⟨rfl,by simpa [ar.re]using hi⟩
      ·exfalso
       have h0:cK (au σ.H id (some .gone)) acc.H i=some (.cq e1 l1 o1):=by
        have h3:wx (cK (au σ.H id (some .gone)) (au (au acc.H (16*s+14) (some (.cq e l none))) 7 (some .gone))) (cK (au σ.H id (some .gone)) (au acc.H (16*s+14) (some (.cq e l none)))):=wx.mix .rfl (.qz λ_ _ _=>by simp)
        have h4:=h3 _ _ _ _ hi
        rw[←jb,ae _ _ gH]at h4
        exact h4
       have h1:=(wx.mix (.qz λ_ _ _=>by simp) .rfl) _ _ _ _ h0
       have h2:=P4.one _ _ _ _ _ _ _ _ h1 (c8 (B:=acc.H) hid)
       subst h2
       rw[jY,aa]at h0
       simp[ar.re]at h0
     refine⟨λvy=>(by have vy:au (au acc.H (16*s+14) (some (.cq e l none))) 7 (some .gone) 7=none:=vy;rw[aa]at vy;cases vy),λi j e1 l1 o1 e2 l2 o2 hi Ev=>(by rw[(key _ _ _ _ hi).1,(key _ _ _ _ Ev).1]),λi e1 l1 o1 hi=> ?_⟩
     obtain⟨rfl,he⟩:=key _ _ _ _ hi
     cases he
     have:=P4.mem (2*id) e l none (c8 hid)
     rw[da]at this
     rw[jL]
     simpa [updν]using this
    ·obtain⟨Rj,Rk,Vq⟩:=ud acc.H (16*s+14) (some (.cq e l none)) (.inr (.inl rfl)) ye p hp
     exact⟨(ae (au acc.H (16*s+14) (some (.cq e l none))) (some .gone) (d:=7) ω).trans Rj,(ae (au acc.H (16*s+14) (some (.cq e l none))) (some .gone) (d:=7) ω).trans Rk,(ae (au acc.H (16*s+14) (some (.cq e l none))) (some .gone) (d:=7) ω).trans Vq⟩
   ·cases h
  ·cases h
theorem oD(hI:Inv c E σ a w){L:Option (List (Nat×CM))}(hL: ∀L',L=some L'→ec L'=true){K:St→Option α}(h:m9 L σ K=some r): ∃σ',K σ'=some r∧Inv c E σ' a w:=by
 unfold m9 at h
 split at h
 ·exact⟨σ,h,hI⟩
 ·have IX:=hL _ rfl
  obtain⟨⟨d,M,ν,hle,hc,GJ⟩,hs,hd⟩:=hI
  have P4:E.cq=true→CF c d σ.H (λ_=>none) ν (λ_=>undef):=λhf=>by
   have GJ:=GJ hf
   have key: ∀i e l o,cK σ.H (λ_=>none) i=some (.cq e l o)→ ∃k,i=2*k∧σ.H k=some (.cq e l o):=λi e l o hi=>by
    by_cases h3:i%2=0
    ·obtain⟨k',rfl⟩: ∃k',i=2*k':=⟨i/2,ω⟩
     refine⟨k',rfl,?_⟩
     rw[jY]at hi
     cases hk:σ.H k' with
     |none=>rw[hk]at hi;cases hi
     |some y=>rw[hk]at hi;cases y<;>simp[ar.re]at hi ⊢ <;>exact hi
    ·obtain⟨k',rfl⟩: ∃k',i=2*k'+1:=⟨i/2,ω⟩
     rw[fQ]at hi;cases hi
   refine⟨λ_ i e l o hi=>(by cases hi),λi j e l o e' l' o' hi hj=> ?_,λi e l o hi=> ?_⟩
   ·obtain⟨k,rfl,hk⟩:=key _ _ _ _ hi
    obtain⟨k',rfl,kH⟩:=key _ _ _ _ hj
    rw[GJ.one k k' _ _ _ _ _ _ hk kH]
   ·obtain⟨k,rfl,hk⟩:=key _ _ _ _ hi
    rw[da];exact GJ.mem k e l o hk
  obtain⟨Ez,M',νA',hK,NC,n9⟩:=bV (fl:=E.cq=true) (c0:=c) (tm:=a.tmps) _ σ ⟨λ_=> .any,λ_=>none⟩ M (λ_=>undef) K ⟨hc.mem.Hp _,hc.tmp,λi=>by simp[VR],P4⟩ IX (λ_ _=>⟨rfl,rfl,rfl⟩) h
  exact⟨Ez,hK,⟨d,M',νA',hle,NC,n9⟩,hs,hd⟩
end VM
end
section
namespace VM
open Go
variable{α:Type}{r:α}
theorem bw{υ τ:Ty}{y:υ.den}{k:τ.den→Option α}(h:aP υ τ y k=some r): ∃z,k z=some r∧ ∀k':τ.den→Option α,aP υ τ y k'=k' z:=by
 obtain⟨e,h⟩:=aw h
 subst e
 exact⟨y,h,λk'=>by simp[aP]⟩
theorem cR{υ τ:Ty}{k:Option α}(h:dx υ τ k=some r):k=some r∧ ∀k':Option α,dx υ τ k'=k':=by
 obtain⟨e,h1⟩:=bB h
 clear h
 subst e
 exact⟨h1,λk'=>by simp[dx]⟩
theorem bI{b:Bool}{K:Option α}(h:cond b K none=some r):K=some r∧ ∀K':Option α,cond b K' none=K':=by
 obtain⟨rfl,h⟩:=aG h
 exact⟨h,λ_=>rfl⟩
theorem kL{b:Bool}{K:Option α}(h:cond b none K=some r):K=some r∧ ∀K':Option α,cond b none K'=K':=by
 obtain⟨rfl,h⟩:=fv h
 exact⟨h,λ_=>rfl⟩
theorem nR: ∀{τ:Ty} {x:τ.den} {n:Nat} {k:(υ:Ty)→υ.den→Option α},ll τ x n k=some r→ ∃υ y,k υ y=some r∧ ∀k':(υ:Ty)→υ.den→Option α,ll τ x n k'=k' υ y
 | .pair a b,x,0,k,h=>⟨a,x.1,h,λ_=>rfl⟩
 | .pair a b,x,n+1,k,h=>by
  obtain⟨υ,y,h1,h2⟩:=nR (τ:=b) (x:=x.2) (n:=n) (k:=k) h
  exact⟨υ,y,h1,λk'=>h2 k'⟩
 | .int _,_,_,_,h| .bool,_,_,_,h| .str,_,_,_,h| .slice _,_,_,_,h| .unit,_,_,_,h| .arr _ _,_,_,_,h=>by simp[ll]at h
theorem oE: ∀{τ:Ty} {x:τ.den} {n:Nat} {m:(υ:Ty)→υ.den→(υ.den→Option α)→Option α} {k:τ.den→Option α},
  (∀υ y (k:υ.den→Option α),m υ y k=some r→ ∃z,k z=some r∧ ∀k':υ.den→Option α,m υ y k'=k' z)→cB τ x n m k=some r→ ∃z,k z=some r∧ ∀k':τ.den→Option α,cB τ x n m k'=k' z
 | .pair a b,x,0,m,k,hm,h=>by
  obtain⟨z,h1,h2⟩:=hm a x.1 _ h
  exact⟨(z,x.2),h1,λk'=>h2 _⟩
 | .pair a b,x,n+1,m,k,hm,h=>by
  obtain⟨z,h1,h2⟩:=oE (τ:=b) (x:=x.2) (n:=n) (m:=m) (k:=λz=>k (x.1,z)) hm h
  exact⟨(x.1,z),h1,λk'=>h2 (λz=>k' (x.1,z))⟩
 | .int _,_,_,_,_,_,h| .bool,_,_,_,_,_,h| .str,_,_,_,_,_,h| .slice _,_,_,_,_,_,h| .unit,_,_,_,_,_,h| .arr _ _,_,_,_,_,_,h=>by simp[cB]at h
theorem de: ∀{p:List Step} {τ:Ty} {x:τ.den} {k:(υ:Ty)→υ.den→Option α},pz p τ x k=some r→ ∃υ y,k υ y=some r∧ ∀k':(υ:Ty)→υ.den→Option α,pz p τ x k'=k' υ y
 |[],τ,x,k,h=>⟨τ,x,h,λ_=>rfl⟩
 | .dw n::p,τ,x,k,h=>by
  obtain⟨υ,y,h1,h2⟩:=nR (h:ll τ x n _=some r)
  obtain⟨υ',y',h3,h4⟩:=de h1
  exact⟨υ',y',h3,λk'=>(h2 _).trans (h4 k')⟩
 | .idx i::p,τ,x,k,h=>by
  cases τ with
  |arr n e=>
   obtain⟨υ',y',h3,h4⟩:=de (p:=p) (τ:=e) (x:=γ x i e.zero) (k:=k) h
   exact⟨υ',y',h3,λk'=>h4 k'⟩
  |_=>simp[pz,JL]at h
theorem gw{υ:Ty}{y:υ.den}: ∀{p:List Step} {τ:Ty} {x:τ.den} {k:τ.den→Option α},mD υ y p τ x k=some r→ ∃z,k z=some r∧ ∀k':τ.den→Option α,mD υ y p τ x k'=k' z
 |[],τ,x,k,h=>bw h
 | .dw n::p,τ,x,k,h=>oE (λ_ _ _ h=>gw h) h
 | .idx i::p,τ,x,k,h=>by
  cases τ with
  |arr n e=>
   obtain⟨z,h1,h2⟩:=gw (p:=p) (τ:=e) (x:=γ x i e.zero) (k:=λz=>k (List.set x i z)) h
   exact⟨_,h1,λk'=>h2 (λz=>k' (List.set x i z))⟩
  |_=>simp[mD,sJ]at h
theorem iy{a:ax}{k:IntKind→Int→Option α}(h:mE a k=some r): ∃i n,k i n=some r∧ ∀k':IntKind→Int→Option α,mE a k'=k' i n:=by
 obtain⟨i,n,rfl,h⟩:=fO h
 exact⟨i,n,h,λ_=>rfl⟩
theorem Bt{a:ax}{k:(τ:Ty)→τ.den→Option α}(h:yE a k=some r): ∃τ x,k τ x=some r∧ ∀k':(τ:Ty)→τ.den→Option α,yE a k'=k' τ x:=by
 unfold yE at h
 split at h
 ·exact⟨_,_,h,λ_=>rfl⟩
 ·cases h
theorem lH{a:Option ax}{d:Int}{k:Int→Option α}(h:n6 a d k=some r): ∃n,k n=some r∧ ∀k':Int→Option α,n6 a d k'=k' n:=by
 cases a with
 |none=>exact⟨d,h,λ_=>rfl⟩
 |some a=>
  obtain⟨i,n,h1,h2⟩:=iy (h:mE a (λ_ x=>k x)=some r)
  exact⟨n,h1,λk'=>h2 (λ_ x=>k' x)⟩
abbrev Ag(rd:List Nat)(H H':Nat→Option ar):Prop:= ∀i∈rd,H' i=H i
theorem gx{fz:Bool}{a:ax}{H:Nat→Option ar}{τ:Ty}{k:τ.den→List Nat→dh→Option α}(h:fk fz a H τ k=some r):
  ∃y rd ups,k y rd ups=some r∧ ∀H',Ag rd H H'→ ∀k':τ.den→List Nat→dh→Option α,fk fz a H' τ k'=k' y rd ups:=by
 cases a with
 |val υ x=>
  simp only[fk]at h
  obtain⟨z,h1,h2⟩:=bw h
  refine⟨z,[],[],h1,λH' _ k'=> ?_⟩
  simp only[fk]
  exact h2 (λy=>k' y [] [])
 |w4 υ x n=>
  simp only[fk]at h
  obtain⟨z,h1,h2⟩:=bw h
  refine⟨z,[],[],h1,λH' _ k'=> ?_⟩
  simp only[fk]
  exact h2 (λy=>k' y [] [])
 |emp=>
  cases τ with
  |slice e=>exact⟨[],[],[],h,λ_ _ _=>rfl⟩
  |_=>cases h
 |ref id=>
  have h:(match H id with
   |some (.own e l)=>aP (.slice e) τ l λy=>k y [id] (cond fz [(id,some (.gr e l))] [])
   |some (.gr e l)=>aP (.slice e) τ l λy=>k y [id] []
   |_=>none)=some r:=h
  cases hH:H id with
  |none=>rw[hH]at h;cases h
  |some e=>
   rw[hH]at h
   cases e with
   |own e l=>
    obtain⟨z,h1,h2⟩:=bw (h:aP (.slice e) τ l _=some r)
    refine⟨z,_,_,h1,λH' hA k'=> ?_⟩
    have:H' id=some (.own e l):=by rw[hA id (by simp),hH]
    show(match H' id with
     |some (.own e l)=>aP (.slice e) τ l λy=>k' y [id] (cond fz [(id,some (.gr e l))] [])
     |some (.gr e l)=>aP (.slice e) τ l λy=>k' y [id] []
     |_=>none)=_
    rw[this];exact h2 _
   |gr e l=>
    obtain⟨z,h1,h2⟩:=bw (h:aP (.slice e) τ l _=some r)
    refine⟨z,_,_,h1,λH' hA k'=> ?_⟩
    have:H' id=some (.gr e l):=by rw[hA id (by simp),hH]
    show(match H' id with
     |some (.own e l)=>aP (.slice e) τ l λy=>k' y [id] (cond fz [(id,some (.gr e l))] [])
     |some (.gr e l)=>aP (.slice e) τ l λy=>k' y [id] []
     |_=>none)=_
    rw[this];exact h2 _
   |obj _ _=>cases h
   |cQ _ _ _ _=>cases h
   |cq _ _ _=>cases h
   |gone=>cases h
 |any|DW|dg _ _|iP _ _|Mp _|yC _ _|vB _ _ _ _|sub _ _ _=>cases h
theorem nS{id:Nat}{p:List Step}{H:Nat→Option ar}{k:Ty→Option α}(h:eM id p H k=some r): ∃υ,k υ=some r∧ ∀H',H' id=H id→ ∀k':Ty→Option α,eM id p H' k'=k' υ:=by
 unfold eM at h
 split at h
 ·rename_i τ x hid
  obtain⟨υ,y,h1,h2⟩:=de h
  exact⟨υ,h1,λH' hA k'=>by unfold eM;rw[hA,hid];exact h2 _⟩
 ·rename_i τ x _ _ hid
  obtain⟨υ,y,h1,h2⟩:=de h
  exact⟨υ,h1,λH' hA k'=>by unfold eM;rw[hA,hid];exact h2 _⟩
 ·rename_i e l hid
  split at h
  ·obtain⟨υ,y,h1,h2⟩:=de h
   exact⟨υ,h1,λH' hA k'=>by unfold eM;rw[hA,hid];exact h2 _⟩
  ·cases h
 ·rename_i e l hid
  split at h
  ·obtain⟨υ,y,h1,h2⟩:=de h
   exact⟨υ,h1,λH' hA k'=>by unfold eM;rw[hA,hid];exact h2 _⟩
  ·cases h
 ·cases h
theorem nT{H:Nat→Option ar}{id:Nat}{e:ar}{K:Option α}(h:il H id e K=some r):K=some r∧ ∀H',H' id=H id→ ∀(e':ar) (K':Option α),il H' id e' K'=K':=by
 obtain⟨h1,h2⟩:=ej h
 exact⟨h2,λH' hA e' K'=>by unfold il;rw[hA,h1]⟩
theorem CH{b:BinOp}{k:IntKind}{x y:Int}{K:ax→Option α}(h:ln b k x y K=some r): ∃v,K v=some r∧ ∀K':ax→Option α,ln b k x y K'=K' v:=by
 cases b<;>simp only[ln]at h ⊢ <;>first
  |exact⟨_,h,λ_=>rfl⟩
  |(obtain⟨h1,h2⟩:=kL h;exact⟨_,h1,λ_=>h2 _⟩)
  |cases h
theorem Ku{b:BinOp}{k:IntKind}{x y:Int}{K:ax→Option α}(h:GY b k x y K=some r): ∃v,K v=some r∧ ∀K':ax→Option α,GY b k x y K'=K' v:=by
 cases b<;>simp only[GY]at h ⊢ <;>first
  |(obtain⟨h1,h2⟩:=kL h;exact⟨_,h1,λ_=>h2 _⟩)
  |cases h
theorem EA{t:Option Ty}{op:BinOp}{τ:Ty}{x:τ.den}{υ:Ty}{y:υ.den}{K:ax→Option α}(h:tE t op τ x υ y K=some r): ∃v,K v=some r∧ ∀K':ax→Option α,tE t op τ x υ y K'=K' v:=by
 unfold tE at h ⊢
 split at h
 ·rename_i k x k' y
  cases hs:GZ op
  ·rw[hs]at h
   have h:(if k=k' then ln op k x y K else none)=some r:=h
   by_cases hk:k=k'
   ·rw[af hk]at h
    obtain⟨v,h1,h2⟩:=CH h
    exact⟨v,h1,λK'=>by simp only[aj,af hk];exact h2 K'⟩
   ·rw[ag hk]at h;cases h
  ·rw[hs]at h
   obtain⟨v,h1,h2⟩:=Ku (h:GY op k x y K=some r)
   exact⟨v,h1,λK'=>by simp only[ah];exact h2 K'⟩
 ·split at h
  ·cases h
  ·obtain⟨h1,h2⟩:=cR h
   obtain⟨h3,h4⟩:=bI h1
   split at h3
   ·obtain⟨z,h5,h6⟩:=bw h3
    exact⟨_,h5,λK'=>by rw[h2,h4];exact h6 _⟩
   ·obtain⟨z,h5,h6⟩:=bw h3
    exact⟨_,h5,λK'=>by rw[h2,h4];exact h6 _⟩
   ·cases h3
theorem Hs{u:UnOp}{a:ax}{K:ax→Option α}(h:Ce u a K=some r): ∃v,K v=some r∧ ∀K':ax→Option α,Ce u a K'=K' v:=by
 unfold Ce at h
 split at h<;>first
  |exact⟨_,h,λ_=>rfl⟩
  |cases h
theorem AG{up:Bool}: ∀{xs:List ax} {a:ax} {K:ax→Option α},Gy up a xs K=some r→ ∃v,K v=some r∧ ∀K':ax→Option α,Gy up a xs K'=K' v
 |[],a,K,h=>⟨a,h,λ_=>rfl⟩
 |b::xs,a,K,h=>by
  unfold Gy at h
  obtain⟨k,x,h1,h2⟩:=iy h
  obtain⟨k',y,h3,h4⟩:=iy h1
  by_cases hk:k=k'
  ·rw[af hk]at h3
   obtain⟨v,h5,h6⟩:=AG h3
   refine⟨v,h5,λK'=> ?_⟩
   unfold Gy
   rw[h2,h4,af hk]
   exact h6 K'
  ·rw[ag hk]at h3;cases h3
theorem Ht{τ:Ty}{a:ax}{H:Nat→Option ar}{K:cN α}(h:yF τ a H K=some r): ∃v rd ups,K v rd ups=some r∧ ∀H',Ag rd H H'→ ∀K':cN α,yF τ a H' K'=K' v rd ups:=by
 unfold yF at h
 split at h
 ·exact⟨_,_,_,h,λ_ _ _=>rfl⟩
 ·exact⟨_,_,_,h,λ_ _ _=>rfl⟩
 ·exact⟨_,_,_,h,λ_ _ _=>rfl⟩
 ·exact⟨_,_,_,h,λ_ _ _=>rfl⟩
 ·split at h
  ·rename_i hid
   exact⟨_,_,_,h,λH' hA K'=>by unfold yF;simp only;rw[hA _ (by simp),hid]⟩
  ·rename_i hid
   exact⟨_,_,_,h,λH' hA K'=>by unfold yF;simp only;rw[hA _ (by simp),hid]⟩
  ·cases h
 ·cases h
theorem Hu{id:Nat}{e:Ty}{a b:ax}{H:Nat→Option ar}{K:cN α}(h:yG id e a b H K=some r): ∃v rd ups,K v rd ups=some r∧id∈rd∧ ∀H',Ag rd H H'→ ∀K':cN α,yG id e a b H' K'=K' v rd ups:=by
 unfold yG at h
 obtain⟨ys,rd,ups,h1,h2⟩:=gx h
 split at h1
 ·obtain⟨h3,h4⟩:=bI h1
  refine⟨_,_,_,h3,by simp,λH' hA K'=> ?_⟩
  unfold yG
  rw[h2 H' (λi hi=>hA i (a7 _ hi))]
  exact h4 _
 ·rename_i j
  split at h1
  ·rename_i e' l hj
   obtain⟨z,h3,h4⟩:=bw h1
   obtain⟨h5,h6⟩:=bI h3
   refine⟨_,_,_,h5,by simp,λH' hA K'=> ?_⟩
   unfold yG
   rw[h2 H' (λi hi=>hA i (a7 _ (a7 _ hi)))]
   simp only
   rw[hA j (by simp),hj]
   simp only
   rw[h4]
   exact h6 _
  ·cases h1
 ·cases h1
theorem uj{e:Ty}{n:Nat}{H:Nat→Option ar}: ∀{ps:List (Nat×ax)} {l:List e.den} {wy:List Nat} {uk:dh} {K:List e.den→List Nat→dh→Option α},m0 e H n ps l wy uk K=some r→
  ∃l' rd ups,K l' rd ups=some r∧(∀i∈wy,i∈rd)∧ ∀H',Ag rd H H'→ ∀K':List e.den→List Nat→dh→Option α,m0 e H' n ps l wy uk K'=K' l' rd ups
 |[],l,wy,uk,K,h=>⟨l,wy,uk,h,λ_ h=>h,λ_ _ _=>rfl⟩
 |p::ps,l,wy,uk,K,h=>by
  unfold m0 at h
  obtain⟨h1,h2⟩:=bI h
  obtain⟨y,Ed,qN,h3,h4⟩:=gx h1
  obtain⟨l',rd,ups,h5,h6,h7⟩:=uj h3
  refine⟨l',rd,ups,h5,λi hi=>h6 i (bh _ hi),λH' hA K'=> ?_⟩
  unfold m0
  rw[h2,h4 H' (λi hi=>hA i (h6 i (aS _ hi)))]
  exact h7 H' hA K'
theorem qP{τ:Ty}{H:Nat→Option ar}: ∀{ps:List (Nat×ax)} {x:τ.den} {wy:List Nat} {uk:dh} {K:τ.den→List Nat→dh→Option α},eN τ H ps x wy uk K=some r→
  ∃x' rd ups,K x' rd ups=some r∧(∀i∈wy,i∈rd)∧ ∀H',Ag rd H H'→ ∀K':τ.den→List Nat→dh→Option α,eN τ H' ps x wy uk K'=K' x' rd ups
 |[],x,wy,uk,K,h=>⟨x,wy,uk,h,λ_ h=>h,λ_ _ _=>rfl⟩
 |p::ps,x,wy,uk,K,h=>by
  unfold eN at h
  obtain⟨υ,z,h1,h2⟩:=nR h
  obtain⟨y,Ed,qN,h3,h4⟩:=gx h1
  obtain⟨z',h5,h6⟩:=oE (m:=fun υ' _ k'=>aP υ υ' y k') (fun υ' y' k hk=>bw hk) h3
  obtain⟨x',rd,ups,h7,h8,h9⟩:=qP h5
  refine⟨x',rd,ups,h7,λi hi=>h8 i (bh _ hi),λH' hA K'=> ?_⟩
  unfold eN
  rw[h2,h4 H' (λi hi=>hA i (h8 i (aS _ hi))),h6]
  exact h9 H' hA K'
theorem EB{H:Nat→Option ar}{v:ax}{a:Ty}{k:a.den→List Nat→dh→Option α}(h:rl v H a k=some r):
  ∃x rd ups,k x rd ups=some r∧ ∀H',Ag rd H H'→ ∀k':a.den→List Nat→dh→Option α,rl v H' a k'=k' x rd ups:=by
 unfold rl at h
 split at h
 ·split at h
  ·obtain⟨z,h1,h2⟩:=bw h
   refine⟨_,_,_,h1,λH' _ k'=> ?_⟩
   unfold rl
   simp only
   rw[h2]
  ·cases h
 ·rename_i k0 gX
  obtain⟨y,rd,ups,h1,h2⟩:=gx h
  refine⟨y,rd,ups,h1,λH' hA k'=> ?_⟩
  unfold rl
  split
  ·exact(gX _ _ rfl HEq.rfl).elim
  ·exact h2 H' hA _
theorem zb{H:Nat→Option ar}: ∀{τ:Ty} {vs:List ax} {k:τ.den→List Nat→dh→Option α},iR H τ vs k=some r→
  ∃x rd ups,k x rd ups=some r∧ ∀H',Ag rd H H'→ ∀k':τ.den→List Nat→dh→Option α,iR H' τ vs k'=k' x rd ups
 | .unit,[],k,h=>⟨(),[],[],h,λ_ _ _=>rfl⟩
 | .pair a b,v::vs,k,h=>by
  unfold iR at h
  obtain⟨y,rd,ups,h1,h2⟩:=EB h
  obtain⟨ys,nK,dy,h3,h4⟩:=zb h1
  refine⟨(y,ys),_,_,h3,λH' hA k'=> ?_⟩
  unfold iR
  rw[h2 H' (λi hi=>hA i (bh _ hi)),h4 H' (λi hi=>hA i (aS _ hi))]
 | .unit,_::_,_,h=>by simp[iR]at h
 | .pair _ _,[],_,h=>by simp[iR]at h
 | .int _,_,_,h| .bool,_,_,h| .str,_,_,h| .slice _,_,_,h| .arr _ _,_,_,h=>by simp[iR]at h
theorem um: ∀{im:List ax} {H:Nat→Option ar} {K:List ax→List Nat→dh→Option α},m4 H im K=some r→
  ∃cs rd ups,K cs rd ups=some r∧ ∀H',Ag rd H H'→ ∀K':List ax→List Nat→dh→Option α,m4 H' im K'=K' cs rd ups
 |[],H,K,h=>⟨[],[],[],h,λ_ _ _=>rfl⟩
 |a::im,H,K,h=>by
  unfold m4 at h
  split at h
  ·rename_i id
   split at h
   ·rename_i τ x hid
    obtain⟨cs,rd,ups,h1,h2⟩:=um h
    refine⟨_,_,_,h1,λH' hA K'=> ?_⟩
    unfold m4
    simp only
    rw[hA id (by simp),hid]
    simp only
    rw[h2 (au H' id (some .gone)) (λi hi=>by
     by_cases ay:i=id
     ·subst ay;rw[aa,aa]
     ·rw[ae _ _ ay,ae _ _ ay];exact hA i (a7 _ hi))]
   ·cases h
  ·rename_i gX
   obtain⟨cs,rd,ups,h1,h2⟩:=um h
   refine⟨_,_,_,h1,λH' hA K'=> ?_⟩
   unfold m4
   split
   ·exact absurd rfl (gX _)
   ·rw[h2 H' hA]
end VM
end
