/- A part of the proof of HedgeLess of layer 22: what the functions compute, in plain words. -/
import Derived.Test.YtocmlaipoebfeaaGreatPlain7
import Derived.Test.YtocmlaipoebfeaaGreatPlain4
set_option linter.all false
section
namespace VM
open Go VM.F Go.RowKit
theorem xZ{P:Int→Prop} [DecidablePred P]{f:Int→Int→Int}: ∀{K:List c5} {o:au},eC P f K=some o→(o.map keyOf).Sublist K∧(∀x∈o,dZ x=f x.1 x.2.1∧dZ x≠0∧P (dZ x))∧(∀k∈K,P (f k.1 k.2))∧ ∀a b,gk a b o=if(a,b)∈K then f a b else 0
 |[],o,h=>by
  have e:[]=o:=nr h
  subst e
  exact⟨List.Sublist.refl _,λx hx=>(nomatch hx),λk hk=>(nomatch hk),λa b=>by rw[aj (λh=>nomatch h)];rfl⟩
 |k::t,o,h=>by
  rw[kW]at h
  by_cases hp:P (f k.1 k.2)
  ·rw[ah hp]at h
   cases ho:eC P f t with
   |none=>rw[ho]at h;exact nomatch h
   |some o'=>
    rw[ho]at h
    have e:(if f k.1 k.2=0 then o' else(k.1,(k.2,(f k.1 k.2,())))::o')=o:=nr h
    obtain⟨s,g,gp,gf⟩:=xZ ho
    have ki: ∀k'∈k::t,P (f k'.1 k'.2):=λk' hk=>by
     rcases aZ.1 hk with rfl|hk
     ·exact hp
     ·exact gp k' hk
    by_cases h0:f k.1 k.2=0
    ·rw[ah h0]at e
     subst e
     refine⟨s.cons _,g,ki,λa b=> ?_⟩
     rw[gf a b]
     by_cases hk:(a,b)=k
     ·subst hk
      rw[ah (bh ..)]
      dsimp only at h0
      rw[h0];split<;>rfl
     ·by_cases ht:(a,b)∈t
      ·rw[ah ht,ah (a7 _ ht)]
      ·rw[aj ht,aj (λh=>(aZ.1 h).elim hk ht)]
    ·rw[aj h0]at e
     subst e
     refine⟨s.cons_cons _,λx hx=> ?_,ki,λa b=> ?_⟩
     ·rcases aZ.1 hx with rfl|hx
      ·exact⟨rfl,h0,hp⟩
      ·exact g x hx
     ·rw[gZ]
      dsimp only
      rw[gf a b]
      by_cases h1:k.1=a
      ·by_cases h2:k.2=b
       ·have hk:(a,b)=k:=by rw[←h1,←h2]
        rw[ah h1,ah h2,ah (by rw[hk];exact bh ..),h1,h2]
       ·have hk:(a,b)≠k:=λe=>h2 (by rw[←e])
        rw[ah h1,aj h2]
        by_cases ht:(a,b)∈t
        ·rw[ah ht,ah (a7 _ ht)]
        ·rw[aj ht,aj (λh=>(aZ.1 h).elim hk ht)]
      ·have hk:(a,b)≠k:=λe=>h1 (by rw[←e])
       rw[aj h1]
       by_cases ht:(a,b)∈t
       ·rw[ah ht,ah (a7 _ ht)]
       ·rw[aj ht,aj (λh=>(aZ.1 h).elim hk ht)]
  ·rw[aj hp]at h;exact nomatch h
theorem Z8{l:au}(hs:ug (l.map keyOf)){j:Nat}(hj:j<l.length)(h0:0<j):ue (keyOf (l.getD (j-1) a6)) (keyOf (l.getD j a6)):=by
 have:=vp.1 (Ai.1 hs) (j-1) j ω hj ω
 rw[aU,aU,bg hj,bg (show j-1<l.length by omega)]
 exact this
theorem SO{l:au}(hs:ug (l.map keyOf))(h: ∀x∈l,bV x.1 x.2.1∧dZ x≠0∧qE (dZ x)):dt l=true:=by
 unfold dt
 rw[fv]
 refine a8 λj hj=> ?_
 obtain⟨a,b,c⟩:=h _ (u6 (d:=a6) hj)
 exact⟨a,b,c,λh0=>Z8 hs hj h0⟩
theorem WU{l:au}(hs:ug (l.map keyOf))(h: ∀x∈l,cV x.1 x.2.1∧dZ x≠0):eP l=true:=by
 unfold eP
 rw[fv]
 refine a8 λj hj=> ?_
 obtain⟨a,b⟩:=h _ (u6 (d:=a6) hj)
 exact⟨a,b,λh0=>Z8 hs hj h0⟩
theorem sN{a b:Int}:(a,b)∈kz↔bV a b:=by
 unfold kz bV
 rw[oN];dsimp only;omega
theorem SP(b:an)(s e:au):((gj b s e).2=2∧(gj b s e).1=(cg,(cT,(bq,(bq,(de,(dk,())))))))∨ ∃s' r',eC Fq (fS b.2.2.2.1 s) kz=some s'∧eC aE (fS b.2.2.1 e) ot=some r'∧gj b s e=((b.1,(b.2.1,(r',(s',b.2.2.2.2)))),0):=by
 unfold gj
 cases h1:eC Fq (fS b.2.2.2.1 s) kz with
 |none=>exact .inl ⟨rfl,rfl⟩
 |some s'=>
  cases h2:eC aE (fS b.2.2.1 e) ot with
  |none=>exact .inl ⟨rfl,rfl⟩
  |some r'=>exact .inr ⟨s',r',rfl,rfl,rfl⟩
theorem SQ{l E o:au}(hs:dt l=true)(h:eC Fq (fS l E) kz=some o):dt o=true∧(∀a b,bV a b→eR o a b=eR l a b+cE a b E∧Fq (eR o a b)):=by
 obtain⟨h1,h2,h3,h4⟩:=xZ h
 have hso:ug (o.map keyOf):=wX h1 (oO 6 25 0)
 have ho:dt o=true:=SO hso λx hx=>by
  have hk:(x.1,x.2.1)∈kz:=h1.subset (fa (f:=keyOf) hx)
  obtain⟨_,g1,g2⟩:=h2 x hx
  exact⟨sN.1 hk,g1,g2.2⟩
 refine⟨ho,λa b hp=> ?_⟩
 have e:eR o a b=fS l E a b:=by
  unfold eR
  rw[ho,ah rfl,h4 a b,ah (sN.2 hp)]
 refine⟨?_,by rw[e];exact h3 _ (sN.2 hp)⟩
 rw[e]
 unfold fS eR
 rw[hs,ah rfl,rq (eY hs).1]
theorem E5{a b:Int}{l:au}(h:cE a b l≠0): ∃x∈l,x.1=a∧x.2.1=b:=
 MZ λhn=>h (ky λx hx e=>hn ⟨x,hx,e⟩)
theorem adI{l E o:au}(hs:eP l=true)(hE: ∀x∈E,cV x.1 x.2.1)(h:eC aE (fS l E) ot=some o):eP o=true∧(∀a b,cV a b→ou o a b=ou l a b+cE a b E∧aE (ou o a b)):=by
 obtain⟨h1,h2,h3,h4⟩:=xZ h
 obtain⟨hl,tV⟩:=oP hs
 have hso:ug (o.map keyOf):=wX h1 (oO 25 7 1)
 have ho:eP o=true:=WU hso λx hx=>by
  obtain⟨g0,g1,g2⟩:=h2 x hx
  refine⟨?_,g1⟩
  rw[g0]at g1
  unfold fS at g1
  by_cases hz:cE x.1 x.2.1 l=0
  ·rw[hz,pB]at g1
   obtain⟨y,hy,e1,e2⟩:=E5 g1
   rw[←e1,←e2];exact hE y hy
  ·obtain⟨y,hy,e1,e2⟩:=E5 hz
   rw[←e1,←e2];exact tV y hy
 refine⟨ho,λa b hk=> ?_⟩
 have hg:(a,b)∈ot:=by
  unfold ot
  rw[oN]
  unfold cV at hk
  dsimp only;omega
 have e:ou o a b=fS l E a b:=by
  unfold ou
  rw[ho,ah rfl,h4 a b,ah hg]
 refine⟨?_,by rw[e];exact h3 _ hg⟩
 rw[e]
 unfold fS ou
 rw[hs,ah rfl,rq hl]
end VM
end
section
namespace VM
open Go VM.F Go.RowKit
namespace Pure
end Pure
end VM
end
section
namespace VM
open Go VM.F Go.RowKit
namespace Pure
end Pure
end VM
end
section
namespace VM
open Go VM.F Go.RowKit
def IW(p:c5→Bool):au→Int
 |[]=>0
 |x::t=>(if p (keyOf x)=true then dZ x else 0)+IW p t
def Hs(p:c5→Bool)(f:Int→Int→Int):List c5→Int
 |[]=>0
 |k::t=>(if p k=true then f k.1 k.2 else 0)+Hs p f t
theorem CK(p:c5→Bool)(x:cK)(t:au):IW p (x::t)=(if p (keyOf x)=true then dZ x else 0)+IW p t:=rfl
theorem rz(p:c5→Bool)(f:Int→Int→Int)(k:c5)(t:List c5):Hs p f (k::t)=(if p k=true then f k.1 k.2 else 0)+Hs p f t:=rfl
theorem Ks{P:Int→Prop} [DecidablePred P]{f:Int→Int→Int}(p:c5→Bool): ∀{K:List c5} {o:au},eC P f K=some o→IW p o=Hs p f K
 |[],o,h=>by
  have e:[]=o:=nr h
  subst e;rfl
 |k::t,o,h=>by
  rw[kW]at h
  by_cases hp:P (f k.1 k.2)
  ·rw[ah hp]at h
   cases ho:eC P f t with
   |none=>rw[ho]at h;exact nomatch h
   |some o'=>
    rw[ho]at h
    have e:(if f k.1 k.2=0 then o' else(k.1,(k.2,(f k.1 k.2,())))::o')=o:=nr h
    rw[rz,←Ks p ho]
    by_cases h0:f k.1 k.2=0
    ·rw[ah h0]at e
     rw[←e,h0]
     split<;>omega
    ·rw[aj h0]at e
     rw[←e];rfl
  ·rw[aj hp]at h;exact nomatch h
theorem Ht(p:c5→Bool)(f g:Int→Int→Int): ∀K:List c5,Hs p (λa b=>f a b+g a b) K=Hs p f K+Hs p g K
 |[]=>rfl
 |k::t=>by
  rw[rz,rz,rz,Ht p f g t]
  split<;>omega
theorem CL{p:c5→Bool}{f:Int→Int→Int}: ∀{K:List c5},(∀k∈K,f k.1 k.2=0)→Hs p f K=0
 |[],_=>rfl
 |k::t,h=>by
  rw[rz,h k (bh ..),CL λx hx=>h x (a7 _ hx)]
  split<;>rfl
theorem PN(p:c5→Bool)(k:c5)(v:Int): ∀{K:List c5},ug K→k∈K→Hs p (λa b=>if k.1=a∧k.2=b then v else 0) K=if p k=true then v else 0
 |[],_,h=>nomatch h
 |x::t,hs,h=>by
  obtain⟨h1,h2⟩:=eK.1 hs
  rw[rz]
  by_cases e:k=x
  ·subst e
   have hz:Hs p (λa b=>if k.1=a∧k.2=b then v else 0) t=0:=CL λy hy=>aj λe=>by
    have:=h1 y hy
    rw[show y=k from gR e.1.symm e.2.symm]at this
    exact ph this
   rw[ah (show k.1=k.1∧k.2=k.2 from⟨rfl,rfl⟩),hz,iG]
  ·rw[aj (show ¬(k.1=x.1∧k.2=x.2)from λh=>e (gR h.1 h.2)),PN p k v h2 ((aZ.1 h).elim (λh=>absurd h e) id)]
   split<;>omega
theorem Hu(p:c5→Bool){K:List c5}(hs:ug K): ∀{l:au},(∀x∈l,keyOf x∈K)→Hs p (λa b=>cE a b l) K=IW p l
 |[],_=>CL λ_ _=>rfl
 |x::t,h=>by
  have e:(λa b=>cE a b (x::t))=λa b=>(if(keyOf x).1=a∧(keyOf x).2=b then dZ x else 0)+cE a b t:=by
   funext a b;exact im a b x t
  rw[e,Ht,PN p (keyOf x) (dZ x) hs (h x (bh ..)),Hu p hs λy hy=>h y (a7 _ hy),CK]
theorem Hv{P:Int→Prop} [DecidablePred P]{l E o:au}{K:List c5}(p:c5→Bool)(hs:ug K)(hl: ∀x∈l,keyOf x∈K)(hE: ∀x∈E,keyOf x∈K)(h:eC P (fS l E) K=some o):IW p o=IW p l+IW p E:=by
 rw[Ks p h,←Hu p hs hl,←Hu p hs hE,←Ht];rfl
theorem wk: ∀l:au,IW (λ_=>true) l=(l.map dZ).sum
 |[]=>rfl
 |x::t=>by rw[CK,ah rfl,wk t,bR,cB]
theorem yC(i:Int): ∀l:au,IW (λk=>decide (k.2=i)) l=(c8 i l).sum
 |[]=>rfl
 |x::t=>by
  rw[CK,yC i t,dp]
  by_cases e:x.2.1=i
  ·rw[ah (a8 (show(keyOf x).2=i from e)),ah e,cB]
  ·rw[aj (by rw[bC (show ¬(keyOf x).2=i from e)];exact qJ),aj e,pB]
def Hw(m:aD)(a:aO)(k n:Int):Prop:=(dz k 5→(et a n).2=true)∧(dz k 6∨dz k 7→ ¬dz (gW m n) 0)
def Hy(c:ae)(a:aO)(k n:Int):Prop:=(dz k 0∨(et a k).2=true)∧oc n c.1.length
theorem PO{k n:Int}(h:cV k n):(k,n)∈ot:=by
 unfold ot
 rw[oN]
 unfold cV at h
 dsimp only;omega
theorem Hz{l E:au}{Q:Int→Int→Prop}(hl: ∀x∈l,Q x.1 x.2.1)(hE: ∀x∈E,Q x.1 x.2.1){a b:Int}(h:fS l E a b≠0):Q a b:=by
 unfold fS at h
 by_cases hz:cE a b l=0
 ·rw[hz,pB]at h
  obtain⟨y,hy,e1,e2⟩:=E5 h
  rw[←e1,←e2];exact hE y hy
 ·obtain⟨y,hy,e1,e2⟩:=E5 hz
  rw[←e1,←e2];exact hl y hy
theorem Mh{c:ae}{b:an}{s e s' r':au}(hB:cY c b=true)(h1:eC Fq (fS b.2.2.2.1 s) kz=some s')(h2:eC aE (fS b.2.2.1 e) ot=some r')
  (gs: ∀x∈s,bV x.1 x.2.1∧Hy c b.2.1 x.1 x.2.1) (flat: ∀i:Int,(c8 i s).sum=0) (ge: ∀x∈e,cV x.1 x.2.1∧Hw b.1 b.2.1 x.1 x.2.1) (zero:(e.map dZ).sum=0):
  cY c (b.1,(b.2.1,(r',(s',b.2.2.2.2))))=true:=by
 have hB':=hB
 unfold cY at hB'
 simp only[bB]at hB'
 obtain⟨b1,b2,b3,b4,b5,b6,b7,b8,b9,b10,b11⟩:=hB'
 obtain⟨hr,hs⟩:=fG hB
 obtain⟨o1,_⟩:=SQ hs h1
 obtain⟨o2,_⟩:=adI hr (λx hx=>(ge x hx).1) h2
 obtain⟨NC,hsk⟩:=eY hs
 obtain⟨I8,hrk⟩:=oP hr
 have k1: ∀x∈b.2.2.2.1,keyOf x∈kz:=λx hx=>sN.2 (hsk x hx).1
 have k2: ∀x∈s,keyOf x∈kz:=λx hx=>sN.2 (gs x hx).1
 have k3: ∀x∈b.2.2.1,keyOf x∈ot:=λx hx=>PO (hrk x hx)
 have k4: ∀x∈e,keyOf x∈ot:=λx hx=>PO (ge x hx).1
 have hp8:=bA b8
 have hp9:=bA b9
 have q8: ∀x∈b.2.2.1,Hw b.1 b.2.1 x.1 x.2.1:=λx hx=>by
  obtain⟨i,hi,e⟩:=gd hx
  have:=hp8 i hi
  unfold jP at this
  rw[aU,bg hi,ng,e]at this
  exact this
 have q9: ∀x∈b.2.2.2.1,Hy c b.2.1 x.1 x.2.1:=λx hx=>by
  obtain⟨i,hi,e⟩:=gd hx
  have:=hp9 i hi
  unfold jj at this
  rw[aU,bg hi,ng,e]at this
  exact this
 have n4:decide (dz (gK r') 0)=true:=by
  refine a8 ?_
  unfold gK dz
  rw[o2,ah rfl,←wk,Hv _ (oO 25 7 1) k3 k4 h2,wk,wk,zero,iG]
  have:=bA b4
  unfold gK dz at this
  rw[hr,ah rfl]at this
  exact this
 have n5:oJ s'=true:=by
  unfold oJ at b5 ⊢
  obtain⟨f1,_⟩:=dw.1 b5
  rw[o1,fv]
  refine a8 λj hj=> ?_
  have:=bA f1 j hj
  unfold ud dz tE at this ⊢
  rw[hs,ah rfl]at this
  rw[o1,ah rfl,←yC,Hv _ (oO 6 25 0) k1 k2 h1,yC,yC,flat,iG]
  exact this
 have n8:decide (∀j,j<r'.length→jP b.1 b.2.1 r' j)=true:=a8 λj hj=>by
  obtain⟨g0,g1,_⟩:=(xZ h2).2.1 _ (u6 (d:=a6) hj)
  rw[g0]at g1
  exact Hz (Q:=Hw b.1 b.2.1) q8 (λx hx=>(ge x hx).2) g1
 have n9:decide (∀j,j<s'.length→jj c b.2.1 s' j)=true:=a8 λj hj=>by
  obtain⟨g0,g1,_⟩:=(xZ h1).2.1 _ (u6 (d:=a6) hj)
  rw[g0]at g1
  exact Hz (Q:=Hy c b.2.1) q9 (λx hx=>(gs x hx).2) g1
 unfold cY
 simp only[bB]
 exact⟨b1,b2,o2,n4,n5,b6,b7,n8,n9,b10,b11⟩
end VM
end
section
namespace VM
open Go VM.F
theorem iD{α:Type}{l:List α}{d:α}{i:Nat}(h:i<l.length):l.getD i d=l[i]:=by
 rw[aU,bg h];rfl
theorem gX{α:Type}{d:α}{l:List α}{Q:α→Prop}:(∀j,j<l.length→Q (l.getD j d))↔ ∀x∈l,Q x:=
 ⟨λh x hx=>by
  obtain⟨i,hi,e⟩:=gd hx
  rw[←e,←iD (d:=d) hi];exact h i hi,λh j hj=>h _ (u6 hj)⟩
theorem vi{α:Type}{d:α}{R:α→α→Prop}(tr: ∀a b c,R a b→R b c→R a c): ∀l:List α,(∀j,j<l.length→0<j→R (l.getD (j-1) d) (l.getD j d))↔l.Pairwise R
 |[]=>⟨λ_=>List.Pairwise.nil,λ_ j hj=>nomatch hj⟩
 |[x]=>⟨λ_=>Ff R x,λ_ j hj h0=>by have:j<1:=hj;omega⟩
 |x::y::t=>by
  rw[eK,←vi tr (y::t)]
  constructor
  ·intro h
   have hxy:R x y:=h 1 (by simp) ω
   have ht: ∀j,j<(y::t).length→0<j→R ((y::t).getD (j-1) d) ((y::t).getD j d):=λj hj h0=>by
    have:=h (j+1) (by simpa using hj) ω
    obtain⟨k,rfl⟩: ∃k,j=k+1:=⟨j-1,ω⟩
    exact this
   have hp:=(vi tr (y::t)).1 ht
   refine⟨λz hz=> ?_,ht⟩
   rcases aZ.1 hz with rfl|hz
   ·exact hxy
   ·exact tr _ _ _ hxy ((eK.1 hp).1 z hz)
  ·rintro⟨h1,h2⟩ j hj h0
   obtain⟨k,rfl⟩: ∃k,j=k+1:=⟨j-1,ω⟩
   cases k with
   |zero=>exact h1 y (bh ..)
   |succ k=>exact h2 (k+1) (by simpa using hj) ω
def Z9(x y:Cm):Prop:=oc x.1 y.1
def PQ(x y:bT):Prop:=oc x.1 y.1
def Kt(x y:c7):Prop:=oc x.1 y.1
theorem Mi{a b c:Int}(h1:oc a b)(h2:oc b c):oc a c:=Int.lt_trans h1 h2
def aaa(a b:Int):Prop:=1≤a∧a≤12∧1≤b∧b≤4
theorem gq{m:aD}:dB m=true↔(∀x∈m,aaa x.1 x.2.1)∧m.Pairwise Z9:=by
 unfold dB
 rw[fv,fb,←vi (R:=Z9) (d:=cv) (λ_ _ _=>Mi),←gX (d:=cv)]
 exact⟨λh=>⟨λj hj=>⟨(h j hj).1,(h j hj).2.1,(h j hj).2.2.1,(h j hj).2.2.2.1⟩,λj hj h0=>(h j hj).2.2.2.2 h0⟩,λh j hj=>⟨(h.1 j hj).1,(h.1 j hj).2.1,(h.1 j hj).2.2.1,(h.1 j hj).2.2.2,λh0=>h.2 j hj h0⟩⟩
def aqr(x y:bT):Prop:=dz x.2.2.1 1∧dz y.2.2.1 1∧dz x.2.1 y.2.1
def SS(x:bT):Prop:=lq x.1 x.2.1 x.2.2.1 x.2.2.2.1
def ntw(x y:bT):Prop:= ¬aqr x y
theorem pZ{a:aO}:gh a=true↔(∀x∈a,SS x)∧a.Pairwise PQ∧a.Pairwise ntw:=by
 unfold gh
 rw[fv,fb,←vi (R:=PQ) (d:=aW) (λ_ _ _=>Mi),←gX (d:=aW),vp]
 constructor
 ·refine λh=>⟨λj hj=>(h j hj).1,λj hj h0=>(h j hj).2.1 h0,λi j hi hj qB ht=>(h j hj).2.2 ⟨?_,xH.2 ⟨i,qB,?_,?_⟩⟩⟩
  ·rw[iD hj];exact ht.2.1
  ·rw[iD hi];exact ht.1
  ·rw[iD hi,iD hj];exact ht.2.2
 ·rintro⟨h1,h2,h3⟩ j hj
  refine⟨h1 j hj,λh0=>h2 j hj h0,λ⟨ht,ho⟩=> ?_⟩
  obtain⟨i,qB,e1,e2⟩:=xH.1 ho
  rw[iD hj]at ht e2
  rw[iD (show i<a.length by omega)]at e1 e2
  exact h3 i j ω hj qB ⟨e1,ht,e2⟩
theorem kC{l:bm}:dv l=true↔(∀x∈l,jb x)∧l.Pairwise Kt∧l.length≤32:=by
 unfold dv
 rw[dw,fb,fb,←vi (R:=Kt) (d:=eT) (λ_ _ _=>Mi),←gX (d:=eT)]
 exact⟨λh=>⟨λj hj=>(h.1 j hj).1,λj hj h0=>(h.1 j hj).2 h0,h.2⟩,λh=>⟨λj hj=>⟨h.1 j hj,λh0=>h.2.1 j hj h0⟩,h.2.2⟩⟩
def jo(m:aD)(n:Int):Prop:= ∃x∈m,dz x.1 n
def q5(a:aO)(n:Int):Prop:= ∃x∈a,dz x.1 n
theorem gr{n:Int}: ∀{m:aD},(∀x∈m,aaa x.1 x.2.1)→(¬dz (jO n m) 0↔jo m n)
 |[],_=>⟨λh=>absurd rfl h,λ⟨_,h,_⟩=>nomatch h⟩
 |x::t,h=>by
  have ih:=gr (n:=n) λy hy=>h y (a7 _ hy)
  have hx:=h x (bh ..)
  rw[vN]
  by_cases e:x.1=n
  ·rw[ah e]
   have g: ∀v:Int,1≤v→ ¬dz v 0:=λv h1 h2=>by unfold dz at h2;omega
   exact⟨λ_=>⟨x,bh ..,e⟩,λ_=>g _ hx.2.2.1⟩
  ·rw[aj e,ih]
   exact⟨λ⟨y,hy,h⟩=>⟨y,a7 _ hy,h⟩,λ⟨y,hy,h'⟩=>(aZ.1 hy).elim (λk=>absurd (k▸h') e) λhy=>⟨y,hy,h'⟩⟩
theorem CN{n:Int}: ∀{a:aO},(si n a).2=true↔q5 a n
 |[]=>⟨λh=>(nomatch h),λ⟨_,h,_⟩=>nomatch h⟩
 |x::t=>by
  rw[mD]
  by_cases e:x.1=n
  ·rw[ah e]
   exact⟨λ_=>⟨x,bh ..,e⟩,λ_=>rfl⟩
  ·rw[aj e,CN]
   exact⟨λ⟨y,hy,h⟩=>⟨y,a7 _ hy,h⟩,λ⟨y,hy,h'⟩=>(aZ.1 hy).elim (λk=>absurd (k▸h') e) λhy=>⟨y,hy,h'⟩⟩
theorem wm{m:aD}(h:dB m=true)(n:Int): ¬dz (gW m n) 0↔jo m n:=by
 unfold gW;rw[ah h];exact gr (gq.1 h).1
theorem p3{a:aO}(h:gh a=true)(n:Int):(et a n).2=true↔q5 a n:=by
 unfold et;rw[ah h];exact CN
def jw(m:aD)(a:aO)(k n:Int):Prop:=(dz k 5→q5 a n)∧(dz k 6∨dz k 7→jo m n)
def zf(c:ae)(a:aO)(k n:Int):Prop:=(dz k 0∨q5 a k)∧oc n c.1.length
def HA(c:ae)(a:aO)(x:c7):Prop:=q5 a x.2.1∧oc x.2.2.1 c.1.length
theorem Mj{m:aD}{a:aO}(hm:dB m=true)(ha:gh a=true){k n:Int}:Hw m a k n↔jw m a k n:=by
 unfold Hw jw;rw[p3 ha,wm hm]
theorem Mk{c:ae}{a:aO}(ha:gh a=true){k n:Int}:Hy c a k n↔zf c a k n:=by
 unfold Hy zf;rw[p3 ha]
structure RB(C:ae)(b:an):Prop where
 c:eo C=true
 m:dB b.1=true
 a:gh b.2.1=true
 ma: ∀x∈b.2.1,jo b.1 x.2.1
 r:eP b.2.2.1=true
 t:dz (gK b.2.2.1) 0
 s:oJ b.2.2.2.1=true
 o:dv b.2.2.2.2.2.1=true
 n:dz b.2.2.2.2.1.length C.1.length
 rk: ∀x∈b.2.2.1,jw b.1 b.2.1 x.1 x.2.1
 sk: ∀x∈b.2.2.2.1,zf C b.2.1 x.1 x.2.1
 ok: ∀x∈b.2.2.2.2.2.1,HA C b.2.1 x
 p:eV b.2.2.2.2.1=true
theorem ub{c:ae}{b:an}:cY c b=true↔RB c b:=by
 unfold cY sm
 simp only[bB,fv,fb]
 constructor
 ·rintro⟨b1,⟨b2,b2',akT⟩,b3,b4,b5,b6,b7,b8,b9,b10,b11⟩
  refine⟨b1,b2,b2',?_,b3,b4,b5,b6,b7,?_,?_,?_,b11⟩
  ·exact(gX (d:=aW) (Q:=λx=>jo b.1 x.2.1)).1 λj hj=>(gr (gq.1 b2).1).1 (akT j hj)
  ·exact(gX (d:=a6) (Q:=λx=>jw b.1 b.2.1 x.1 x.2.1)).1 λj hj=>(Mj b2 b2').1 (b8 j hj)
  ·exact(gX (d:=a6) (Q:=λx=>zf c b.2.1 x.1 x.2.1)).1 λj hj=>(Mk b2').1 (b9 j hj)
  ·exact(gX (d:=eT) (Q:=λx=>HA c b.2.1 x)).1 λj hj=>⟨(p3 b2' _).1 (b10 j hj).1,(b10 j hj).2⟩
 ·rintro⟨b1,b2,b2',akT,b3,b4,b5,b6,b7,b8,b9,b10,b11⟩
  refine⟨b1,⟨b2,b2',?_⟩,b3,b4,b5,b6,b7,?_,?_,?_,b11⟩
  ·exact λj hj=>(gr (gq.1 b2).1).2 ((gX (d:=aW) (Q:=λx=>jo b.1 x.2.1)).2 akT j hj)
  ·exact λj hj=>(Mj b2 b2').2 ((gX (d:=a6) (Q:=λx=>jw b.1 b.2.1 x.1 x.2.1)).2 b8 j hj)
  ·exact λj hj=>(Mk b2').2 ((gX (d:=a6) (Q:=λx=>zf c b.2.1 x.1 x.2.1)).2 b9 j hj)
  ·exact λj hj=>let h:=(gX (d:=eT) (Q:=λx=>HA c b.2.1 x)).2 b10 j hj;⟨(p3 b2' _).2 h.1,h.2⟩
theorem RB.WV{c:ae}{b:an}(h:RB c b){m:aD}{a:aO}(hm:dB m=true)(ha:gh a=true)(mm: ∀n,jo b.1 n→jo m n)(aa: ∀n,q5 b.2.1 n→q5 a n)(ma: ∀x∈a,jo m x.2.1):
  RB c (m,(a,b.2.2)):=
 ⟨h.c,hm,ha,ma,h.r,h.t,h.s,h.o,h.n,λx hx=>⟨λe=>aa _ ((h.rk x hx).1 e),λe=>mm _ ((h.rk x hx).2 e)⟩,λx hx=>⟨(h.sk x hx).1.imp id (aa _),(h.sk x hx).2⟩,λx hx=>⟨aa _ (h.ok x hx).1,(h.ok x hx).2⟩,h.p⟩
theorem RB.Ml{c:ae}{b:an}(h:RB c b){o:bm}(ho:dv o=true)(hk: ∀x∈o,HA c b.2.1 x):RB c (b.1,(b.2.1,(b.2.2.1,(b.2.2.2.1,(b.2.2.2.2.1,(o,())))))):=
 ⟨h.c,h.m,h.a,h.ma,h.r,h.t,h.s,ho,h.n,h.rk,h.sk,hk,h.p⟩
theorem RB.aqt{c:ae}{b:an}(h:RB c b){s e s' r':au}(h1:eC Fq (fS b.2.2.2.1 s) kz=some s')(h2:eC aE (fS b.2.2.1 e) ot=some r')
  (gs: ∀x∈s,bV x.1 x.2.1∧zf c b.2.1 x.1 x.2.1) (flat: ∀i:Int,(c8 i s).sum=0) (ge: ∀x∈e,cV x.1 x.2.1∧jw b.1 b.2.1 x.1 x.2.1) (zero:(e.map dZ).sum=0):RB c (b.1,(b.2.1,(r',(s',b.2.2.2.2)))):=
 ub.1 (Mh (ub.2 h) h1 h2 (λx hx=>⟨(gs x hx).1,(Mk h.a).2 (gs x hx).2⟩) flat (λx hx=>⟨(ge x hx).1,(Mj h.m h.a).2 (ge x hx).2⟩) zero)
abbrev RBs(c:ae)(b b':an):Prop:=RB c b'∧b'.1=b.1∧b'.2.1=b.2.1∧b'.2.2.2.2=b.2.2.2.2
theorem RB.gj{c:ae}{b:an}(h:RB c b){s e:au}(gs: ∀x∈s,bV x.1 x.2.1∧zf c b.2.1 x.1 x.2.1)(flat: ∀i:Int,(c8 i s).sum=0)
  (ge: ∀x∈e,cV x.1 x.2.1∧jw b.1 b.2.1 x.1 x.2.1) (zero:(e.map dZ).sum=0) (h0:(VM.gj b s e).2=0):RBs c b (VM.gj b s e).1:=by
 rcases SP b s e with⟨h1,_⟩|⟨s',r',h1,h2,h3⟩
 ·rw[h1]at h0;exact absurd h0 δ
 ·rw[h3];exact⟨h.aqt h1 h2 gs flat ge zero,rfl,rfl,rfl⟩
end VM
end
section
namespace VM
open Go VM.F
theorem Ok.and{α:Type}{P Q:α→Prop}{o:Option α}(h1:Ok P o)(h2:Ok Q o):Ok (λr=>P r∧Q r) o:=by
 obtain⟨r,e,hr⟩:=h1
 obtain⟨q,e',hq⟩:=h2
 rw[e]at e'
 exact⟨r,e,hr,(nr e')▸hq⟩
theorem BK{α:Type}{l:List α}{x y:α}(k:Nat):y∈l.take k++x::l.drop k↔y=x∨y∈l:=by
 have e:y∈l↔y∈l.take k∨y∈l.drop k:=by rw[←bk,gb]
 rw[e,bk,aZ]
 constructor
 ·rintro(h|h|h)
  ·exact .inr (.inl h)
  ·exact .inl h
  ·exact .inr (.inr h)
 ·rintro(h|h|h)
  ·exact .inr (.inl h)
  ·exact .inl h
  ·exact .inr (.inr h)
theorem HB{α:Type}{R:α→α→Prop}{l:List α}{x:α}{k:Nat}(hp:l.Pairwise R)(h1: ∀y∈l.take k,R y x)(h2: ∀y∈l.drop k,R x y):(l.take k++x::l.drop k).Pairwise R:=by
 rw[←gb k l,wY]at hp
 rw[wY,eK]
 exact⟨hp.1,⟨h2,hp.2.1⟩,λa ha b hb=>by
  rcases aZ.1 hb with rfl|hb
  ·exact h1 a ha
  ·exact hp.2.2 a ha b hb⟩
theorem UH{α:Type}{l:List α}{d:α}{f:α→Int}(hp:l.Pairwise λa b=>oc (f a) (f b)){v:Int}{k:Nat}(h1: ∀j,j<k→oc (f (l.getD j d)) v)(h2:k<l.length→ ¬oc (f (l.getD k d)) v)(hn: ∀y∈l,¬dz (f y) v):
  (∀y∈l.take k,oc (f y) v)∧ ∀y∈l.drop k,oc v (f y):=by
 refine⟨λy hy=> ?_,λy hy=> ?_⟩
 ·obtain⟨j,hj,e⟩:=gd hy
  rw[cc]at hj
  rw[Ft]at e
  have:=h1 j ω
  rw[iD ω,e]at this
  exact this
 ·obtain⟨j,hj,e⟩:=gd hy
  rw[dC]at hj
  rw[Fs]at e
  have h3:=h2 ω
  rw[iD ω]at h3
  have h4:=hn y (m9 hy)
  have g: ∀a b c:Int,¬oc a c→(oc a b∨a=b)→ ¬dz b c→oc c b:=λa b c h h' K6=>by
   unfold oc dz at*
   rcases h' with h'|h'<;>omega
  refine g _ _ _ h3 ?_ h4
  by_cases h0:j=0
  ·subst h0;right;rw[←e];rfl
  ·left
   have:=vp.1 hp k (k+j) ω ω ω
   rw[e]at this;exact this
theorem HC{α:Type}{l:List α}{d:α}(g:α→α){i:Nat}(hi:i<l.length):
  ((l.take i).map g++l.drop i).getD i d=l.getD i d∧((l.take i).map g++l.drop i).set i (g (l.getD i d))=(l.take (i+1)).map g++l.drop (i+1)∧(g (l.getD i d)=l.getD i d→(l.take i).map g++l.drop i=(l.take (i+1)).map g++l.drop (i+1)):=by
 have hlen:((l.take i).map g).length=i:=by rw[cI,cc];omega
 have e1:l.drop i=l[i]::l.drop (i+1):=qI hi
 have e2:l.take (i+1)=l.take i++[l[i]]:=(td hi).symm
 rw[iD hi]
 refine⟨?_,?_,λh=> ?_⟩
 ·rw[aU,lY ω,hlen,lG,e1];rfl
 ·rw[Fj _ _ ω,hlen,lG,e1,e2,List.set_cons_zero,dg,bH];rfl
 ·rw[e1,e2,dg,bH,bR,h];rfl
theorem yD{α:Type}(l:List α)(g:α→α)(i:Nat):((l.take i).map g++l.drop i).length=l.length:=by
 rw[aM,cI,cc,dC];omega
theorem aab(N:Nat)(hN:200000≤N){a:aD}(hl:a.length≤50000)(id:Int):Ok (λr=>r.2=0→dB r.1=true∧ ∀n,jo a n→jo r.1 n) (iq N a id):=by
 have bad: ∀e:Int,e≠0→Ok (λr:aD×Int=>r.2=0→dB r.1=true∧ ∀n,jo a n→jo r.1 n) (some ([],e)):=λe h=>aq λh'=>absurd h' h
 have b1:=bad 1 δ
 unfold iq iq.b
 refine bw (mP N ω hN) (bz (λ_=>b1) λhM=>ax (λ_=>b1) λh1=>ax (λ_=>b1) λh2=>bw (ik N ω hN id) (bt (λ_=>bad _ δ) λh0=> ?_))
 obtain⟨hm,hp⟩:=gq.1 hM
 have hn: ∀y∈a,¬dz y.1 id:=λy hy e=>(gr hm).2 ⟨y,hy,e⟩ h0
 have fin: ∀k:Nat,k≤a.length→(∀j,j<k→oc (a.getD j cv).1 id)→(k<a.length→ ¬oc (a.getD k cv).1 id)→Ok (λr=>r.2=0→dB r.1=true∧ ∀n,jo a n→jo r.1 n) (iq.j9 N a id [] (k:Int)):=λk hk g1 g2=>by
  unfold iq.j9 iq.On
  refine L4 hk ω λ_=> ?_
  simp only[cW,aG,dq,c0,jf,bH,kK]
  obtain⟨q1,q2⟩:=UH (f:=λx:Cm=>x.1) hp g1 g2 hn
  refine⟨gq.2 ⟨λx hx=> ?_,HB hp q1 q2⟩,λn ⟨y,hy,e⟩=>⟨y,(BK k).2 (.inr hy),e⟩⟩
  rcases(BK k).1 hx with rfl|hx
  ·exact⟨h1,h2,(show(1:Int)≤1 by decide),(show(1:Int)≤4 by decide)⟩
  ·exact hm x hx
 refine bn (σ:=Unit) (len:=a.length) (F:=λn i _=>iq.l7 N n a id [] i) (s:=()) (λi _=> ∀j,j<i→oc (a.getD j cv).1 id) (λj hj=>absurd hj ω) ω (λn i _ hi hI hr=> ?_) (λn _ hI=> ?_)
 all_goals unfold iq.l7 iq.p6
 ·rw[aw (x:=(i:Int)+1) ω ω,af i]
  refine ax (λ_=>aA ⟨ω,ω⟩ (ax (λh=>hr () λj hj=> ?_) λh=>fin i ω hI λ_ h'=> ?_)) λ_=>ω
  ·by_cases e:j=i
   ·subst e;exact h
   ·exact hI j ω
  ·have g: ∀x y:Int,oc x y→y≤x→False:=λx y h h'=>by unfold oc at h;omega
   exact g _ _ h' h
 ·exact ax (λ_=>ω) λ_=>fin _ (aH _) hI λh=>absurd h ω
theorem aac(N:Nat)(a b:Int):Ok (λr=>r.2=true→1≤r.1∧r.1≤4) (Wy N a b):=by
 have h: ∀(x:Int) (t:Bool),(t=true→1≤x∧x≤4)→Ok (λr:Int×Bool=>r.2=true→1≤r.1∧r.1≤4) (some (x,t)):=λx t hx=>aq hx
 unfold Wy
 repeat' first|refine ok_eq (λ_=> ?_) (λ_=> ?_)|exact h _ _ δ
def Mm(id v:Int)(x:Cm):Cm:=if x.1=id then(x.1,(v,x.2.2))else x
theorem SU(id v:Int)(x:Cm):(Mm id v x).1=x.1:=by unfold Mm;split<;>rfl
theorem ya{α:Type}{R:α→α→Prop}{g:α→α}{l:List α}(hp:l.Pairwise R)(h: ∀x∈l,∀y∈l,R x y→R (g x) (g y)):(l.map g).Pairwise R:=by
 rw[Ai]
 exact hp.imp_of_mem λhx hy h'=>h _ hx _ hy h'
theorem UI(N:Nat)(hN:200000≤N){l:aD}(hl:l.length≤50000)(id k:Int):Ok (λr=>r.2=0→dB r.1=true∧(∀n,jo l n→jo r.1 n)∧jo l id) (lV N l id k):=by
 have bad: ∀e:Int,e≠0→Ok (λr:aD×Int=>r.2=0→dB r.1=true∧(∀n,jo l n→jo r.1 n)∧jo l id) (some ([],e)):=λe h=>aq λh'=>absurd h' h
 unfold lV lV.b
 refine bw (mP N ω hN) (bz (λ_=>bad _ δ) λhM=>bw (ik N ω hN _) (ok_eq (λ_=>bad _ δ) λH5=>ag (aac N _ _) λz hz=>bz (λ_=>bad _ δ) λIb=>aF (by rw[ck];omega) ?_))
 obtain⟨hm,hp⟩:=gq.1 hM
 have hz:=hz Ib
 rw[cW]
 refine bn (len:=l.length) (F:=λn i s=>lV.CE N n id z.1 s i) (λi s=>s=(l.take i).map (Mm id z.1)++l.drop i) rfl ω (λn i s hi hI hr=> ?_) (λn s hI=> ?_)
 all_goals unfold lV.CE lV.zL
 ·rw[aw (x:=(i:Int)+1) ω ω,af i]
  obtain⟨s1,s2,s3⟩:=HC (d:=cv) (Mm id z.1) hi
  have hs:s.length=l.length:=by rw[hI];exact yD l _ i
  rw[←hI]at s1 s2 s3
  refine ax (λ_=>aA ⟨ω,ω⟩ (ok_eq (λe=>aA ⟨ω,ω⟩ (hr _ ?_)) λe=>hr s (s3 ?_))) λ_=>ω
  ·rw[aG,s1]at e ⊢
   rw[←s2]
   unfold Mm;rw[ah e]
  ·rw[aG,s1]at e
   unfold Mm;rw[aj e]
 ·have hs:s.length=l.length:=by rw[hI];exact yD l _ _
  have e:s=l.map (Mm id z.1):=by rw[hI,jf,nf,cH]
  refine ax (λ_=>ω) λ_=>aq λ_=> ?_
  dsimp only
  rw[e]
  refine⟨gq.2 ⟨λx hx=> ?_,ya hp λx _ y _ h=> ?_⟩,λn ⟨y,hy,e⟩=>⟨Mm id z.1 y,fa hy,?_⟩,(gr hm).1 H5⟩
  ·obtain⟨y,hy,rfl⟩:=cL.1 hx
   have h:=hm y hy
   unfold Mm
   split
   ·exact⟨h.1,h.2.1,hz.1,hz.2⟩
   ·exact h
  ·unfold Z9;rw[SU,SU];exact h
  ·rw[SU];exact e
def IX(id v:Int)(x:bT):bT:=if x.1=id then(x.1,(x.2.1,(x.2.2.1,(v,x.2.2.2.2))))else x
def Eu(id v:Int)(x:bT):bT:=if x.1=id then(x.1,(v,x.2.2))else x
theorem yb(id v:Int)(x:bT):(IX id v x).1=x.1∧(IX id v x).2.1=x.2.1∧(IX id v x).2.2.1=x.2.2.1:=by unfold IX;split<;>exact⟨rfl,rfl,rfl⟩
theorem HD(id v:Int)(x:bT):(Eu id v x).1=x.1∧(Eu id v x).2.2=x.2.2:=by unfold Eu;split<;>exact⟨rfl,rfl⟩
theorem PS{a:aO}{g:bT→bT}(hg: ∀x,(g x).1=x.1)(n:Int)(h:q5 a n):q5 (a.map g) n:=by
 obtain⟨y,hy,e⟩:=h
 exact⟨g y,fa hy,by rw[hg];exact e⟩
abbrev s4(m:aD)(a:aO)(r:aO×Int):Prop:=r.2=0→gh r.1=true∧(∀n,q5 a n→q5 r.1 n)∧ ∀x∈r.1,jo m x.2.1
theorem s4.bad{m:aD}{a:aO}{e:Int}(h:e≠0):Ok (s4 m a) (some ([],e)):=aq λh'=>absurd h' h
theorem aad(N:Nat)(hN:200000≤N){m:aD}{l:aO}(hl:l.length≤50000)(hm: ∀x∈l,jo m x.2.1)(id q:Int):Ok (s4 m l) (nX N l id q):=by
 unfold nX nX.b
 refine bw (u5 N ω hN) (bz (λ_=>s4.bad δ) λhA=>ax (λ_=>s4.bad δ) λq0=>ax (λ_=>s4.bad δ) λq1=>bw (sl N ω hN _) (bz (λ_=>s4.bad δ) λ_=>aF (by rw[ck];omega) ?_))
 obtain⟨ha,hp,ht⟩:=pZ.1 hA
 rw[cW]
 refine bn (len:=l.length) (F:=λn i s=>nX.l8 N n id q s i) (λi s=>s=(l.take i).map (IX id q)++l.drop i) rfl ω (λn i s hi hI hr=> ?_) (λn s hI=> ?_)
 all_goals unfold nX.l8 nX.Dy
 ·rw[aw (x:=(i:Int)+1) ω ω,af i]
  obtain⟨s1,s2,s3⟩:=HC (d:=aW) (IX id q) hi
  have hs:s.length=l.length:=by rw[hI];exact yD l _ i
  rw[←hI]at s1 s2 s3
  refine ax (λ_=>aA ⟨ω,ω⟩ (ok_eq (λe=>aA ⟨ω,ω⟩ (hr _ ?_)) λe=>hr s (s3 ?_))) λ_=>ω
  ·rw[aG,s1]at e ⊢
   rw[←s2]
   unfold IX;rw[ah e]
  ·rw[aG,s1]at e
   unfold IX;rw[aj e]
 ·have hs:s.length=l.length:=by rw[hI];exact yD l _ _
  have e:s=l.map (IX id q):=by rw[hI,jf,nf,cH]
  refine ax (λ_=>ω) λ_=>aq λ_=> ?_
  dsimp only
  rw[e]
  refine⟨pZ.2 ⟨λx hx=> ?_,ya hp λx _ y _ h=> ?_,ya ht λx _ y _ h=> ?_⟩,PS λx=>(yb id q x).1,λx hx=> ?_⟩
  ·obtain⟨y,hy,rfl⟩:=cL.1 hx
   have h:=ha y hy
   unfold IX
   split
   ·exact⟨h.1,h.2.1,h.2.2.1,q0,q1⟩
   ·exact h
  ·unfold PQ;rw[(yb id q x).1,(yb id q y).1];exact h
  ·unfold ntw aqr;rw[(yb id q x).2.1,(yb id q y).2.1,(yb id q x).2.2,(yb id q y).2.2];exact h
  ·obtain⟨y,hy,rfl⟩:=cL.1 hx
   rw[(yb id q y).2.1];exact hm y hy
theorem Ku{n:Int}: ∀{l:aO},l.Pairwise PQ→ ∀x∈l,dz x.1 n→(si n l).1=x
 |[],_,x,hx,_=>nomatch hx
 |y::t,hp,x,hx,e=>by
  rw[mD]
  rcases aZ.1 hx with rfl|hx
  ·rw[ah (show x.1=n from e)]
  ·have h:oc y.1 x.1:=(eK.1 hp).1 x hx
   have g: ∀a b:Int,oc a b→dz b n→ ¬a=n:=λa b h1 h2=>by unfold oc dz at*;omega
   rw[aj (g _ _ h e)]
   exact Ku (eK.1 hp).2 x hx e
theorem SV(N:Nat)(hN:200000≤N){m:aD}{l:aO}(FK:m.length≤50000)(hl:l.length≤50000)(id to:Int):Ok (s4 m l) (nY N m l id to):=by
 unfold nY nY.b
 refine bw (xI N ω ω hN) (bz (λ_=>s4.bad δ) λhR=>bw (sl N ω hN _) (bw (ik N ω hN _) (bz (λ_=>s4.bad δ) λ_=>ok_eq (λ_=>s4.bad δ) λhs=>bt (λ_=>s4.bad δ) λhk=>bt (λ_=>s4.bad δ) λ_=>aF (by rw[ck];omega) ?_)))
 unfold sm at hR
 simp only[bB,fv,fb]at hR
 obtain⟨hM,hA,hma⟩:=hR
 obtain⟨ha,hp,ht⟩:=pZ.1 hA
 have hmm:=(gq.1 hM).1
 obtain⟨mx,Rn,emx⟩:=(gr hmm).1 hs
 have hm: ∀x∈l,jo m x.2.1:=(gX (d:=aW) (Q:=λx=>jo m x.2.1)).1 λj hj=>(gr hmm).1 (hma j hj)
 rw[cW]
 refine bn (len:=l.length) (F:=λn i s=>nY.oi N n id to s i) (λi s=>s=(l.take i).map (Eu id to)++l.drop i) rfl ω (λn i s hi hI hr=> ?_) (λn s hI=> ?_)
 all_goals unfold nY.oi nY.mF
 ·rw[aw (x:=(i:Int)+1) ω ω,af i]
  obtain⟨s1,s2,s3⟩:=HC (d:=aW) (Eu id to) hi
  have hs:s.length=l.length:=by rw[hI];exact yD l _ i
  rw[←hI]at s1 s2 s3
  refine ax (λ_=>aA ⟨ω,ω⟩ (ok_eq (λe=>aA ⟨ω,ω⟩ (hr _ ?_)) λe=>hr s (s3 ?_))) λ_=>ω
  ·rw[aG,s1]at e ⊢
   rw[←s2]
   unfold Eu;rw[ah e]
  ·rw[aG,s1]at e
   unfold Eu;rw[aj e]
 ·have hs:s.length=l.length:=by rw[hI];exact yD l _ _
  have e:s=l.map (Eu id to):=by rw[hI,jf,nf,cH]
  refine ax (λ_=>ω) λ_=>aq λ_=> ?_
  dsimp only
  rw[e]
  have cl: ∀x∈l,x.1=id→x.2.2.1=2:=λx hx e=>by rw[←Ku hp x hx e];exact hk
  have mo:aaa mx.1 mx.2.1:=hmm mx Rn
  have aqv:mx.1=to:=emx
  refine⟨pZ.2 ⟨λx hx=> ?_,ya hp λx _ y _ h=> ?_,ya ht λx hx y hy h=> ?_⟩,PS λx=>(HD id to x).1,λx hx=> ?_⟩
  ·obtain⟨y,hy,rfl⟩:=cL.1 hx
   have h:=ha y hy
   unfold Eu
   split
   ·exact⟨h.1,⟨aqv▸mo.1,aqv▸mo.2.1⟩,h.2.2⟩
   ·exact h
  ·unfold PQ;rw[(HD id to x).1,(HD id to y).1];exact h
  ·intro ⟨t1,t2,t3⟩
   rw[(HD id to x).2]at t1
   rw[(HD id to y).2]at t2
   have nx: ∀x∈l,dz x.2.2.1 1→Eu id to x=x:=λx hx e=>by
    unfold Eu
    rw[aj]
    intro h'
    have:=cl x hx h'
    have e':x.2.2.1=1:=e
    rw[e']at this;exact absurd this δ
   rw[nx x hx t1,nx y hy t2]at t3
   exact h ⟨t1,t2,t3⟩
  ·obtain⟨y,hy,rfl⟩:=cL.1 hx
   unfold Eu
   split
   ·exact⟨mx,Rn,emx⟩
   ·exact hm y hy
theorem DT{n:Int}: ∀{l:aO},(∀x∈l,SS x)→nN n l=0→ ∀x∈l,dz x.2.2.1 1→ ¬dz x.2.1 n
 |[],_,_,x,hx,_=>nomatch hx
 |y::t,ha,h,x,hx,e=>by
  rw[tB]at h
  have ih:=DT (n:=n) λz hz=>ha z (a7 _ hz)
  have hy:SS y:=ha y (bh ..)
  have g: ∀v:Int,1≤v→ ¬v=0:=λv h1 h2=>ω
  by_cases e1:y.2.1=n
  ·rw[ah e1]at h
   by_cases e2:y.2.2.1=1
   ·rw[ah e2]at h;exact absurd h (g _ hy.1.1)
   ·rw[aj e2]at h
    rcases aZ.1 hx with rfl|hx
    ·exact absurd e e2
    ·exact ih h x hx e
  ·rw[aj e1]at h
   rcases aZ.1 hx with rfl|hx
   ·exact e1
   ·exact ih h x hx e
theorem adK(N:Nat)(hN:200000≤N){m:aD}{l:aO}(FK:m.length≤50000)(hl:l.length≤50000)(x:bT):Ok (s4 m l) (fm N m l x):=by
 unfold fm fm.b
 refine bw (xI N ω ω hN) (bz (λ_=>s4.bad δ) λhR=>bw (u5 N (l:=[x]) (by rw[aK];omega) hN) (bz (λ_=>s4.bad δ) λhX=>bw (ik N ω hN _) (ok_eq (λ_=>s4.bad δ) λhs=>bt (λ_=>s4.bad δ) λ_=>bw (sl N ω hN _) (sq (λ_=>s4.bad δ) λhf=> ?_))))
 unfold sm at hR
 simp only[bB,fv,fb]at hR
 obtain⟨hM,hA,hma⟩:=hR
 obtain⟨ha,hp,ht⟩:=pZ.1 hA
 have hmm:=(gq.1 hM).1
 have hx:=(pZ.1 hX).1 x (cr.2 rfl)
 have hxm:=(gr hmm).1 hs
 have hm: ∀x∈l,jo m x.2.1:=(gX (d:=aW) (Q:=λx=>jo m x.2.1)).1 λj hj=>(gr hmm).1 (hma j hj)
 have hn: ∀y∈l,¬dz y.1 x.1:=λy hy e=>by
  have:=CN.2 ⟨y,hy,e⟩
  rw[hf]at this;exact nomatch this
 have fin:(∀y∈l,ntw y x)→ ∀k:Nat,k≤l.length→(∀j,j<k→oc (l.getD j aW).1 x.1)→(k<l.length→ ¬oc (l.getD k aW).1 x.1)→Ok (s4 m l) (fm.ze N l x [] (k:Int)):=λhw k hk g1 g2=>by
  unfold fm.ze fm.s0
  refine L4 hk ω λ_=> ?_
  simp only[cW,aG,dq,c0,jf,bH,kK]
  obtain⟨q1,q2⟩:=UH (f:=λx:bT=>x.1) hp g1 g2 hn
  have tw: ∀y∈l,ntw x y:=λy hy ⟨t1,t2,t3⟩=>hw y hy ⟨t2,t1,Eq.symm t3⟩
  refine⟨pZ.2 ⟨λy hy=> ?_,HB hp q1 q2,HB ht (λy hy=>hw y (lZ hy)) λy hy=>tw y (m9 hy)⟩,λn ⟨y,hy,e⟩=>⟨y,(BK k).2 (.inr hy),e⟩,λy hy=> ?_⟩
  ·rcases(BK k).1 hy with rfl|hy
   ·exact hx
   ·exact ha y hy
  ·rcases(BK k).1 hy with rfl|hy
   ·exact hxm
   ·exact hm y hy
 have hj:(∀y∈l,ntw y x)→Ok (s4 m l) (fm.Kl N l x):=λhw=>by
  unfold fm.Kl fm.CG
  refine bn (σ:=Unit) (len:=l.length) (F:=λn i _=>fm.oi N n l x [] i) (s:=()) (λi _=> ∀j,j<i→oc (l.getD j aW).1 x.1) (λj hj=>absurd hj ω) ω (λn i _ hi hI hr=> ?_) (λn _ hI=> ?_)
  all_goals unfold fm.oi fm.mF
  ·rw[aw (x:=(i:Int)+1) ω ω,af i]
   refine ax (λ_=>aA ⟨ω,ω⟩ (ax (λh=>hr () λj hj=> ?_) λh=>fin hw i ω hI λ_ h'=> ?_)) λ_=>ω
   ·by_cases e:j=i
    ·subst e;exact h
    ·exact hI j ω
   ·have g: ∀x y:Int,oc x y→y≤x→False:=λx y h h'=>by unfold oc at h;omega
    exact g _ _ h' h
  ·exact ax (λ_=>ω) λ_=>fin hw _ (aH _) hI λh=>absurd h ω
 refine ok_eq (λe=>bw (rn N ω hN _) (bt (λ_=>s4.bad δ) λh0=>hj λy hy ⟨t1,_,t3⟩=> ?_)) λe=>hj λy hy ⟨_,t2,_⟩=>e t2
 unfold nO at h0
 rw[ah hA]at h0
 exact DT ha h0 y hy t1 t3
end VM
end
section
namespace VM
open Go VM.F
def PB(m:aD)(a:aO)(p:bJ):Prop:=
 ∃e:au,p=e.map jQ∧GG e∧(∀x∈e,cV x.1 x.2.1∧jw m a x.1 x.2.1)∧(e.map dZ).sum=0
def SB(c:ae)(a:aO)(s:au):Prop:=eW s∧(∀x∈s,bV x.1 x.2.1∧zf c a x.1 x.2.1)∧ ∀i:Int,(c8 i s).sum=0
theorem PB.nil{m:aD}{a:aO}:PB m a []:=⟨[],rfl,λx hx=>(nomatch hx),λx hx=>(nomatch hx),rfl⟩
theorem PB.app{m:aD}{a:aO}{p q:bJ}(hp:PB m a p)(hq:PB m a q):PB m a (p++q):=by
 obtain⟨e,rfl,e1,e2,e3⟩:=hp
 obtain⟨f,rfl,f1,f2,f3⟩:=hq
 refine⟨e++f,dg.symm,λx hx=>(bk.1 hx).elim (e1 x) (f1 x),λx hx=>(bk.1 hx).elim (e2 x) (f2 x),?_⟩
 rw[dg,nh,e3,f3];rfl
theorem HE(i:Int): ∀s t:au,c8 i (s++t)=c8 i s++c8 i t
 |[],t=>rfl
 |x::s,t=>by
  rw[kK,dp,dp,HE i s t]
  split<;>rfl
theorem SB.nil{c:ae}{a:aO}:SB c a []:=⟨λx hx=>(nomatch hx),λx hx=>(nomatch hx),λ_=>rfl⟩
theorem SB.app{c:ae}{a:aO}{s t:au}(hs:SB c a s)(ht:SB c a t):SB c a (s++t):=
 ⟨λx hx=>(bk.1 hx).elim (hs.1 x) (ht.1 x),λx hx=>(bk.1 hx).elim (hs.2.1 x) (ht.2.1 x),λi=>by rw[HE,nh,hs.2.2,ht.2.2];rfl⟩
theorem SB.two{c:ae}{a:aO}{x y i q r:Int}(hq:aE q)(hr:aE r)(e:q+r=0)(hx:bV x i∧zf c a x i)(hy:bV y i∧zf c a y i):SB c a [(x,(i,(q,()))),(y,(i,(r,())))]:=by
 refine⟨λz hz=> ?_,λz hz=> ?_,λj=> ?_⟩
 ·rcases aZ.1 hz with rfl|hz
  ·exact hq
  ·rw[cr.1 hz];exact hr
 ·rcases aZ.1 hz with rfl|hz
  ·exact hx
  ·rw[cr.1 hz];exact hy
 ·rw[dp,dp]
  by_cases h:i=j
  ·rw[ah h,ah h]
   show q+(r+0)=0
   omega
  ·rw[aj h,aj h];rfl
theorem PB.two{m:aD}{a:aO}{k n k' n' v w:Int}(hv:cf v)(hw:cf w)(e:v+w=0)(h1:cV k n∧jw m a k n)(h2:cV k' n'∧jw m a k' n'):PB m a [(k,(n,(di v,()))),(k',(n',(di w,())))]:=by
 refine⟨[(k,(n,(v,()))),(k',(n',(w,())))],rfl,λz hz=> ?_,λz hz=> ?_,?_⟩
 ·rcases aZ.1 hz with rfl|hz
  ·exact hv
  ·rw[cr.1 hz];exact hw
 ·rcases aZ.1 hz with rfl|hz
  ·exact h1
  ·rw[cr.1 hz];exact h2
 ·show v+(w+0)=0
  omega
abbrev Kv(c:ae)(b:an)(r:an×Int):Prop:=r.2=0→RBs c b r.1
theorem Kv.bad{c:ae}{b b':an}{e:Int}(h:e≠0):Ok (Kv c b) (some (b',e)):=aq λh'=>absurd h' h
theorem aae(N:Nat)(hN:4000000≤N){b:an}{s e:au}(w:iM b)(hr:eP b.2.2.1=true)(hs:dt b.2.2.2.1=true)(lr:b.2.2.1.length≤90000)(ls:b.2.2.2.1.length≤90000)(qs:eW s)(lns:s.length≤100000)(qe:GG e)(lne:e.length≤100000):
  BG N b s (e.map jQ)=some (gj b s e):=by
 unfold BG gj
 rw[Sf N hN hs ls w.qs qs lns,acQ N hN hr lr w.qr qe lne]
 unfold xO
 rw[ar,ar]
 cases eC Fq (fS b.2.2.2.1 s) kz with
 |none=>rfl
 |some s'=>
  cases eC aE (fS b.2.2.1 e) ot with
  |none=>rfl
  |some r'=>rfl
theorem tQ(N:Nat)(hN:4000000≤N){c:ae}{b:an}{s:au}{p:bJ}{m:Nat}(hm:m≤50000)(hb:G m aL b)(h:RB c b)(hs:SB c b.2.1 s)(hp:PB b.1 b.2.1 p)(ls:s.length≤50000)(lp:p.length≤50000):Ok (Kv c b) (BG N b s p):=by
 obtain⟨e,rfl,e1,e2,e3⟩:=hp
 obtain⟨hr,H5⟩:=fG (ub.2 h)
 have w:=G.wf hm hb
 rw[cI]at lp
 exact nW (aae N hN w.w hr H5 w.r w.s hs.1 ω e1 ω) λh0=>h.gj hs.2.1 hs.2.2 e2 e3 h0
theorem ui{v:Int}(h:aE v):cf v∧cf (-v):=by unfold aE at h;unfold cf;omega
theorem tR(N:Nat)(hN:4000000≤N){m:aD}{a:aO}{k n k' n' v:Int}(hv:cf v∧cf (-v))(h1:cV k n∧jw m a k n)(h2:cV k' n'∧jw m a k' n'):Ok (λr=>PB m a r∧r.length=2) (CI N k n k' n' (di v)):=by
 unfold CI
 exact bw (oE N hN (vQ hv.1)) (aq ⟨PB.two hv.2 hv.1 ω h1 h2,rfl⟩)
theorem vj{c:ae}{b:an}(h:RB c b){k:Int}(hk:q5 b.2.1 k):cV 5 k∧jw b.1 b.2.1 5 k:=by
 obtain⟨y,hy,e⟩:=hk
 have hk:=(pZ.1 h.a).1 y hy
 have e':y.1=k:=e
 exact⟨.inr (.inl ⟨rfl,e'▸hk.1⟩),λ_=>⟨y,hy,e⟩,λh=>absurd h δ⟩
theorem CO{m:aD}{a:aO}{k:Int}(h:1≤k∧k≤4):cV k 0∧jw m a k 0:=
 ⟨.inl ⟨h.1,h.2,rfl⟩,λe=>by unfold dz at e;omega,λe=>by unfold dz at e;omega⟩
theorem BL{c:ae}{b:an}(h:RB c b){k n:Int}(hk:6≤k∧k≤7)(hn:jo b.1 n):cV k n∧jw b.1 b.2.1 k n:=by
 obtain⟨y,hy,e⟩:=hn
 have hm:=(gq.1 h.m).1 y hy
 have e':y.1=n:=e
 exact⟨.inr (.inr ⟨hk.1,hk.2,e'▸hm.1,e'▸hm.2.1⟩),λe=>by unfold dz at e;omega,λ_=>⟨y,hy,e⟩⟩
theorem Mn{m:aD}{a:aO}{k:Int}(h:dz k 0∨q5 a k)(hk:0≤k∧k≤24)(x:Int):cV (vX k x).1 (vX k x).2.1∧jw m a (vX k x).1 (vX k x).2.1:=by
 unfold vX
 by_cases e:k=0
 ·rw[ah e]
  exact⟨show cV 2 0 by decide,λh=>absurd h (show ¬dz 2 5 by decide),λh=>absurd h (show ¬(dz 2 6∨dz 2 7)by decide)⟩
 ·rw[aj e]
  refine⟨show cV 5 k by unfold cV;omega,λ_=>h.elim (λh=>absurd h e) id,λh=>absurd h (show ¬(dz 5 6∨dz 5 7)by decide)⟩
theorem PU{c:ae}{b:an}(h:RB c b){k:Int}(ht:((et b.2.1 k).2||decide (dz k 0))=true):dz k 0∨q5 b.2.1 k:=by
 rcases Bool.or_eq_true_iff.1 ht with ht|ht
 ·exact .inr ((p3 h.a k).1 ht)
 ·exact .inl (bA ht)
theorem IY(N:Nat)(hN:4000000≤N){m:aD}{a:aO}{t:iP}{p:Int}(ht:ea t)(hp:cC p)(h1:dz t.1 0∨q5 a t.1)(h2:dz t.2.1 0∨q5 a t.2.1):Ok (λr=>PB m a r.1∧r.1.length≤2) (Sl N t p):=by
 refine nW (IP N hN ht hp) ?_
 have ht':=ht
 unfold ea jy at ht'
 have hk:cf ((p-t.2.2.2.2.1)*t.2.2.2.1)∧cf (-((p-t.2.2.2.2.1)*t.2.2.2.1)):=by
  have hq:=ht'.2.2.2.2.1
  have he:=ht'.2.2.2.2.2
  generalize t.2.2.2.2.1=e at*
  generalize t.2.2.2.1=q at*
  unfold cC at hp he
  have:=Cv (d:=p-e) ω hq
  unfold cf;omega
 unfold nT
 dsimp only
 split
 ·exact⟨PB.nil,bF _⟩
 ·refine⟨⟨_,rfl,λx hx=> ?_,λx hx=> ?_,?_⟩,aH 2⟩
  ·rcases aZ.1 hx with rfl|hx
   ·rw[iQ];exact hk.1
   ·rw[cr.1 hx,iQ];exact hk.2
  ·rcases aZ.1 hx with rfl|hx
   ·exact Mn h1 ht'.1 _
   ·rw[cr.1 hx];exact Mn h2 ht'.2.1 _
  ·rw[bR,bR,gQ,iQ,iQ,cB,cB,iF];omega
theorem Kw(N:Nat)(hN:5000000≤N){c:ae}{b:an}{l:bs}{m:Nat}(hm:m≤50000)(hb:G m aL b)(h:RB c b):Ok (Kv c b) (gz N c b l):=by
 unfold gz gz.b
 refine bw (dS N hN hm hb) (bz (λ_=>Kv.bad δ) λhB=>ax (λ_=>Kv.bad δ) λhl=> ?_)
 obtain⟨hp,B1⟩:=dy hB
 refine bn (len:=l.length) (F:=λn i (_:Unit)=>gz.l4 N n l c b (cg,(cT,(bq,(bq,(de,(dk,())))))) i) (s:=()) (λi _=> ∀j,j<i→ea (l.getD j gu)) (λj hj=>ω) ω (λn i _ hi hI hr=> ?_) (λn _ hI=> ?_)
 all_goals unfold gz.l4 gz.eN
 ·rw[aw (x:=(i:Int)+1) ω ω,af i]
  refine ax (λ_=>aA ⟨ω,ω⟩ (bw (yw N _) (bz (λ_=>Kv.bad δ) λht=>hr () λj hj=> ?_))) λ_=>ω
  by_cases e:j=i
  ·rw[e];exact bA ht
  ·exact hI j ω
 ·refine ax (λ_=>ω) λ_=> ?_
  have wf:=G.wf hm hb
  refine bn (len:=l.length) (F:=λn i (s:au×bJ)=>gz.CE N n l c b (cg,(cT,(bq,(bq,(de,(dk,())))))) s.1 s.2 i) (s:=(_,_)) (λi s=>(SB c b.2.1 s.1∧s.1.length≤2*i)∧PB b.1 b.2.1 s.2∧s.2.length≤2*i) ⟨⟨SB.nil,bF _⟩,PB.nil,bF _⟩ ω (λn i s hi hJ hr=> ?_) (λn s hJ=> ?_)
  all_goals unfold gz.CE gz.zL
  all_goals obtain⟨⟨j1,j2⟩,j3,j4⟩:=hJ
  ·have ht0:=hI i hi
   have ht:=ht0
   unfold ea jy at ht
   dsimp only
   rw[aw (x:=(i:Int)+1) ω ω,af i,aG]
   generalize l.getD i gu=t at*
   refine ax (λ_=>aA ⟨ω,ω⟩ (bw (u7 N b wf.w.a ω _) (bz (λ_=>Kv.bad δ) λt1=>bw (u7 N b wf.w.a ω _) (bz (λ_=>Kv.bad δ) λt2=>ew (λ_=>Kv.bad δ) λfj=>aF ?_ (aA ⟨ht.2.2.2.1.1,by rw[hp];exact fj⟩ ?_))))) λ_=>ω
   ·rw[aR,aK];omega
   have i1:=PU h t1
   have i2:=PU h t2
   have pr:cC (b.2.2.2.2.1.getD t.2.2.1.toNat 0):=by
    unfold eV at B1
    have hk:t.2.2.1.toNat<b.2.2.2.2.1.length:=by
     rw[hp]
     have g: ∀x:Int,0≤x→x<(c.1.length:Int)→x.toNat<c.1.length:=λx h1 h2=>ω
     exact g _ ht.2.2.2.1.1 fj
    exact(bA B1) _ hk
   refine ag (IY N ω ht0 pr i1 i2) λr ⟨zS,AH⟩=>aF ω (hr (_,_) ⟨⟨?_,?_⟩,PB.app j3 zS,?_⟩)
   ·refine SB.app j1 ?_
    have hq:aE t.2.2.2.1∧aE (0-t.2.2.2.1)∧W .i64 (0-t.2.2.2.1)=0-t.2.2.2.1:=by
     have hq:=ht.2.2.2.2.1
     generalize t.2.2.2.1=q at*
     exact⟨by unfold aE;omega,by unfold aE;omega,aw ω ω⟩
    rw[hq.2.2]
    have pl: ∀x:Int,0≤x∧x≤24→bV x t.2.2.1:=λx hx=>⟨hx.1,hx.2,ht.2.2.2.1.1,ht.2.2.2.1.2⟩
    exact SB.two hq.1 hq.2.1 ω ⟨pl _ ht.1,i1,fj⟩ ⟨pl _ ht.2.1,i2,fj⟩
   ·dsimp only;rw[List.length_append,List.length_cons,List.length_singleton];omega
   ·dsimp only;rw[List.length_append];omega
  ·exact ax (λ_=>ω) λ_=>ag (tQ N ω hm hb h j1 j3 ω ω) λr h=>aq h
theorem adL(N:Nat)(hN:5000000≤N){c:ae}{b:an}{h:bT}{a q p:Int}{m:Nat}(h2:200≤m)(hm:m≤40000)(hc:G m aB c)(hb:G m aL b)(hR:RB c b)(hh:G m eu h)(ha:aE a)(hq:aE q)(hp:aE p):Ok (λr=>r.2.2=0→RB c r.1) (qw N c b h a q p):=by
 have ho:G m lE (h.1,(a,(h.2.1,(W .i64 (3-h.2.2.1),(q,(p,())))))):=⟨hh.1,ha,hh.2.1,gE _,hq,hp,trivial⟩
 have dT: ∀e:Int,e≠0→Ok (λr:an×bT×Int=>r.2.2=0→RB c r.1) (some ((cg,(cT,(bq,(bq,(de,(dk,())))))),(aW,e))):=λe h=>aq λh'=>absurd h' h
 unfold qw qw.b
 have hj: ∀t:iP,Ok (λr=>r.2.2=0→RB c r.1) (qw.j14 N q c b h (cg,(cT,(bq,(bq,(de,(dk,())))))) aW t):=λt=>by
  unfold qw.j14 qw.adj
  exact ag (Kw N hN ω hb hR) λr hr=>bt (λh=>dT _ h) λh0=>aq λ_=>(hr h0).1
 have b1:=dT 1 δ
 exact bw (dS N hN ω hb) (bz (λ_=>b1) λ_=>bw (sD N h) (bz (λ_=>b1) λ_=>ax (λ_=>b1) λ_=>ax (λ_=>b1) λ_=>ax (λ_=>b1) λ_=>ax (λ_=>b1) λ_=>ax (λ_=>dT _ δ) λ_=>ax (λ_=>b1) λ_=>ax (λ_=>b1) λ_=>ag (BH N hN h2 hm hc hb ho) λe _=>bt (λh=>dT _ h) λ_=>ok_eq (λ_=>hj _) λ_=>hj _))
theorem PV(N:Nat)(hN:5000000≤N){c:ae}{b:an}{m:Nat}(h2:200≤m)(hm:m≤40000)(hc:G m aB c)(hb:G m aL b)(hR:RB c b){a:Int}(ha:aE a){q:Int}(hq:aE q):Ok (Kv c b) (WC N c b a q):=by
 have b1: ∀e:Int,e≠0→Ok (Kv c b) (some ((cg,(cT,(bq,(bq,(de,(dk,())))))),e)):=λe h=>Kv.bad h
 unfold WC
 refine bw (dS N hN ω hb) (bz (λ_=>b1 _ δ) λ_=>ax (λ_=>b1 _ δ) λ_=>ag (Hl N ω ω hb.2.1 _) λx ⟨_,hxf⟩=>bz (λ_=>b1 _ δ) λhf=>ag (oY N ω ω hb.1 _) λ_ _=>bt (λ_=>b1 _ δ) λ_=>ag (mH N ω ω hb.2.2.1 _ _) λg hg=>ag (bu N ω hg) λx hx=>ag (bu N ω hq) λy hy=>ag (yA N ω ω hx hy) λz hz=>ag (Hk N ω h2 hm hc hb (bF _) _) λw hw=>ag (qv N ω ω ω hz hw) λ_ _=>ax (λ_=>b1 _ δ) λ_=>bw (da N ω hq.1 hq.2) ?_)
 rw[hxf]at hf
 exact ag (tR N ω (ui hq) (vj hR ((p3 hR.a a).1 hf)) (CO δ)) λp ⟨hp,AN⟩=>ag (tQ N ω ω hb hR SB.nil hp (bF _) ω) λr hr=>aq hr
def DU(i d:Int)(l:au):au:=(l.filter λx=>decide (dz x.2.1 i∧ ¬dz d 0)).map λx=>vX x.1 (dZ x*d)
theorem SW{l:au}{i d:Int}{k:Nat}(hk:k<l.length):DU i d (l.take (k+1))=DU i d (l.take k)++if dz (l.getD k a6).2.1 i∧ ¬dz d 0 then [vX (l.getD k a6).1 (dZ (l.getD k a6)*d)]else []:=by
 have e2:l.take (k+1)=l.take k++[l[k]]:=(td hk).symm
 unfold DU
 rw[e2,List.filter_append,dg,iD hk]
 congr 1
 by_cases h:dz l[k].2.1 i∧ ¬dz d 0
 ·rw[ah h,w3,ah (a8 h)];rfl
 ·rw[aj h,w3,aj (by rw[bC h];exact qJ)];rfl
theorem Kx{i d:Int}: ∀l:au,((DU i d l).map dZ).sum=(c8 i l).sum*d
 |[]=>(rJ d).symm
 |x::t=>by
  have ih:=Kx (i:=i) (d:=d) t
  unfold DU at ih ⊢
  rw[dp]
  by_cases h:x.2.1=i
  ·rw[ah h]
   by_cases h0:d=0
   ·rw[w3,aj (by rw[bC (λh=>h.2 h0)];exact qJ),ih,h0,As,As]
   ·rw[w3,ah (a8 ⟨h,h0⟩),bR,bR,cB,cB,ih,js,iQ]
  ·rw[aj h,w3,aj (by rw[bC (λk=>h k.1)];exact qJ),ih]
theorem adM{q d:Int}(hq:aE q)(hd: -1000000000000≤d∧d≤1000000000000):cf (q*d):=by
 have h1:(q*d).natAbs≤9223372036854775808*1000000000000:=by
  rw[Int.natAbs_mul]
  unfold aE at hq
  exact w7 ω ω
 unfold cf;omega
theorem aaf(N:Nat)(hN:4000000≤N){c:ae}{b:an}{m:Nat}(hm:m≤50000)(hb:G m aL b)(hR:RB c b){i:Int}(hi0:0≤i∧i<6)(x y:Int):Ok (λr=>PB b.1 b.2.1 r.1∧r.1.length≤50000) (n0 N b.2.2.2.1 i x y):=by
 have h:=hb.2.2.2.1
 have hl:=h.1
 have hs:=(fG (ub.2 hR)).2
 have fl:(c8 i b.2.2.2.1).sum=0:=by
  have:=hR.s
  unfold oJ at this
  have:=bA (dw.1 this).1 i.toNat (by unfold ku;omega)
  unfold ud dz tE at this
  rw[ah hs,mc hi0.1]at this
  exact this
 have hp:=(eY hs).2
 unfold n0 n0.b
 have nil: ∀e:Int,Ok (λr:bJ×Int=>PB b.1 b.2.1 r.1∧r.1.length≤50000) (some ([],e)):=λe=>aq ⟨PB.nil,bF _⟩
 refine bw (mQ N ω ω) (bz (λ_=>nil _) λ_=>bw (iL N _) (bz (λ_=>nil _) λha=>bw (iL N _) (bz (λ_=>nil _) λfg=> ?_)))
 have ha:=bA ha
 have fg:=bA fg
 refine bw (da N ω ω ω) (bw (da N ω ω ω) (bw (tx N hN ((Fit.i64 ω ω).mono ω) ((Fit.i64 ω ω).mono ω)) ?_))
 have d64: -1000000000000≤y-x∧y-x≤1000000000000:=ω
 generalize y-x=d at*
 have fin:PB b.1 b.2.1 ((DU i d b.2.2.2.1).map jQ):=by
  refine⟨_,rfl,λz hz=> ?_,λz hz=> ?_,?_⟩
  ·obtain⟨u,hu,rfl⟩:=cL.1 hz
   rw[iQ];exact adM (h.2 u (w5.1 hu).1).2.2.1 d64
  ·obtain⟨u,hu,rfl⟩:=cL.1 hz
   have hu:=(w5.1 hu).1
   exact Mn (hR.sk u hu).1 ⟨(hp u hu).1.1,(hp u hu).1.2.1⟩ _
  ·rw[Kx,fl,rJ]
 refine bn (len:=b.2.2.2.1.length) (F:=λn j s=>n0.l6 N n b.2.2.2.1 i s (di d) j) (λj s=>s=(DU i d (b.2.2.2.1.take j)).map jQ∧s.length≤j) ⟨rfl,bF _⟩ ω (λn j s hj hI hr=> ?_) (λn s hI=> ?_)
 all_goals unfold n0.l6 n0.tX
 ·obtain⟨i1,i2⟩:=hI
  have st:=SW (i:=i) (d:=d) hj
  have hx:G m iT (b.2.2.2.1.getD j a6):=h.2 _ (u6 hj)
  rw[aw (x:=(j:Int)+1) ω ω,af j,aG]
  have skip: ¬(dz (b.2.2.2.1.getD j a6).2.1 i∧ ¬dz d 0)→s=(DU i d (b.2.2.2.1.take (j+1))).map jQ∧s.length≤j+1:=λh=>⟨by rw[st,aj h,cH];exact i1,ω⟩
  refine ax (λ_=>aA ⟨ω,ω⟩ (bt (λe=>hr s (skip λk=>e k.1)) λe1=>bw (mj N d) (ok_eq (λe=>hr s (skip λk=>k.2 (kv.1 e))) λe2=>aA ⟨ω,ω⟩ (bw (Cu _ (dZ (b.2.2.2.1.getD j a6)*d) N) (aA ⟨ω,ω⟩ (bw (da N ω hx.2.2.1.1 hx.2.2.1.2) (bw (uX N hN ((Fit.i64 hx.2.2.1.1 hx.2.2.1.2).mono ω) ((Fit.i64 ω ω).mono ω)) (aF (by rw[aK];omega) (hr _ ⟨?_,by rw[aM,aK];omega⟩))))))))) λ_=>ω
  rw[st,ah ⟨e1,λk=>e2 (kv.2 k)⟩,dg,i1]
  congr 1
  unfold jQ
  rw[bR,gQ,iQ];rfl
 ·have i2:=hI.2
  refine ax (λ_=>ω) λ_=>aq ⟨?_,by dsimp only;omega⟩
  have:=hI.1
  rw[jf]at this
  rw[this];exact fin
theorem SX{l:List Int}(h:eV l=true){p:Int}(hp:1≤p∧p≤1000000000000)(k:Nat):eV (l.set k p)=true:=by
 unfold eV at*
 have h:=bA h
 refine a8 λj hj=> ?_
 rw[bM]at hj
 have XU:=h j hj
 unfold qO at*
 rw[aU,List.getElem?_set]
 split
 ·rw[ah ω];exact hp
 ·rw[←aU];exact XU
theorem PW(N:Nat)(hN:5000000≤N){c:ae}{b:an}{m:Nat}(hm:m≤50000)(hb:G m aL b)(hR:RB c b)(i p:Int):Ok (λr=>r.2.2=0→RB c r.1) (WB N c b i p):=by
 have dT: ∀e:Int,e≠0→Ok (λr:an×bJ×Int=>r.2.2=0→RB c r.1) (some ((cg,(cT,(bq,(bq,(de,(dk,())))))),([],e))):=λe h=>aq λh'=>absurd h' h
 have AN:=hb.2.2.2.2.1.1
 have hci:c.1.length≤6:=by
  have:=hR.c
  unfold eo at this
  exact(bA (dw.1 this).1).2
 unfold WB
 refine bw (dS N hN hm hb) (bz (λ_=>dT _ δ) λhB=>bw (iL N _) (bz (λ_=>dT _ δ) λhp=>ax (λ_=>dT _ δ) λh0=>ew (λ_=>dT _ δ) λh1=> ?_))
 obtain⟨EK,_⟩:=dy hB
 have hp:=bA hp
 dsimp only
 rw[cW]
 refine aA ⟨h0,by rw[EK];exact h1⟩ (ag (aaf N ω hm hb hR ⟨h0,ω⟩ _ _) λf ⟨hf,U5⟩=>ag (tQ N ω hm hb hR SB.nil hf (bF _) U5) λr hr=>bt (λh=>dT _ h) λhz=>aF (by rw[ck];omega) (aA ⟨h0,by rw[EK];exact h1⟩ (aq λ_=> ?_)))
 have q:=(hr hz).1
 exact⟨q.c,q.m,q.a,q.ma,q.r,q.t,q.s,q.o,by rw[bM];exact hR.n,q.rk,q.sk,q.ok,SX hR.p hp _⟩
end VM
end
