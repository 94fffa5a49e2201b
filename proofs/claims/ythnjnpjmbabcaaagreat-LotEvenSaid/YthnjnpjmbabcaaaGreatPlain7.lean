/- A part of the proof of LotEven of layer 23: what the functions compute, in plain words. -/
import Derived.Test.YthnjnpjmbabcaaaGreatPlain6
import Derived.Test.YthnjnpjmbabcaaaGreatPlain4
import Derived.Test.YthnjnpjmbabcaaaGreatPlain3
set_option linter.all false
section
namespace VM
open Go VM.F Go.RowKit
variable(N:Nat)
def IU(p:gv→Bool):aC→Int
 |[]=>0
 |x::t=>(if p (keyOf x)=true then gJ x else 0)+IU p t
def Hk(p:gv→Bool)(f:Int→Int→Int):List gv→Int
 |[]=>0
 |k::t=>(if p k=true then f k.1 k.2 else 0)+Hk p f t
theorem Cx(p:gv→Bool)(x:eP)(t:aC):IU p (x::t)=(if p (keyOf x)=true then gJ x else 0)+IU p t:=rfl
theorem qV(p:gv→Bool)(f:Int→Int→Int)(k:gv)(t:List gv):Hk p f (k::t)=(if p k=true then f k.1 k.2 else 0)+Hk p f t:=rfl
theorem J3{P:Int→Prop} [DecidablePred P]{f:Int→Int→Int}(p:gv→Bool): ∀{K:List gv} {o:aC},jo P f K=some o→IU p o=Hk p f K
 |[],o,h=>by
  have e:[]=o:=q7 h
  subst e;rfl
 |k::t,o,h=>by
  rw[Cg]at h
  by_cases hp:P (f k.1 k.2)
  ·rw[ak hp]at h
   cases ho:jo P f t with
   |none=>rw[ho]at h;exact nomatch h
   |some o'=>
    rw[ho]at h
    have e:(if f k.1 k.2=0 then o' else(k.1,(k.2,(f k.1 k.2,())))::o')=o:=q7 h
    rw[qV,←J3 p ho]
    by_cases h0:f k.1 k.2=0
    ·rw[ak h0]at e
     rw[←e,h0]
     split<;>omega
    ·rw[ah h0]at e
     rw[←e];rfl
  ·rw[ah hp]at h;exact nomatch h
theorem Hl(p:gv→Bool)(f g:Int→Int→Int): ∀K:List gv,Hk p (λa b=>f a b+g a b) K=Hk p f K+Hk p g K
 |[]=>rfl
 |k::t=>by
  rw[qV,qV,qV,Hl p f g t]
  split<;>omega
theorem Cy{p:gv→Bool}{f:Int→Int→Int}: ∀{K:List gv},(∀k∈K,f k.1 k.2=0)→Hk p f K=0
 |[],_=>rfl
 |k::t,h=>by
  rw[qV,h k (bu ..),Cy λx hx=>h x (a6 _ hx)]
  split<;>rfl
theorem OJ(p:gv→Bool)(k:gv)(v:Int): ∀{K:List gv},Ej K→k∈K→Hk p (λa b=>if k.1=a∧k.2=b then v else 0) K=if p k=true then v else 0
 |[],_,h=>nomatch h
 |x::t,hs,h=>by
  obtain⟨h1,h2⟩:=gX.1 hs
  rw[qV]
  by_cases e:k=x
  ·subst e
   have hz:Hk p (λa b=>if k.1=a∧k.2=b then v else 0) t=0:=Cy λy hy=>ah λe=>by
    have:=h1 y hy
    rw[show y=k from ki e.1.symm e.2.symm]at this
    exact yb this
   rw[ak (show k.1=k.1∧k.2=k.2 from⟨rfl,rfl⟩),hz,jy]
  ·rw[ah (show ¬(k.1=x.1∧k.2=x.2)from λh=>e (ki h.1 h.2)),OJ p k v h2 ((bm.1 h).elim (λh=>absurd h e) id)]
   split<;>omega
theorem Hm(p:gv→Bool){K:List gv}(hs:Ej K): ∀{l:aC},(∀x∈l,keyOf x∈K)→Hk p (λa b=>dK a b l) K=IU p l
 |[],_=>Cy λ_ _=>rfl
 |x::t,h=>by
  have e:(λa b=>dK a b (x::t))=λa b=>(if(keyOf x).1=a∧(keyOf x).2=b then gJ x else 0)+dK a b t:=by
   funext a b;exact jn a b x t
  rw[e,Hl,OJ p (keyOf x) (gJ x) hs (h x (bu ..)),Hm p hs λy hy=>h y (a6 _ hy),Cx]
theorem Hn{P:Int→Prop} [DecidablePred P]{l E o:aC}{K:List gv}(p:gv→Bool)(hs:Ej K)(hl: ∀x∈l,keyOf x∈K)(hE: ∀x∈E,keyOf x∈K)(h:jo P (fS l E) K=some o):IU p o=IU p l+IU p E:=by
 rw[J3 p h,←Hm p hs hl,←Hm p hs hE,←Hl];rfl
theorem vH: ∀l:aC,IU (λ_=>true) l=(l.map gJ).sum
 |[]=>rfl
 |x::t=>by rw[Cx,ak rfl,vH t,bZ,cD]
theorem yj(i:Int): ∀l:aC,IU (λk=>decide (k.2=i)) l=(dS i l).sum
 |[]=>rfl
 |x::t=>by
  rw[Cx,yj i t,ef]
  by_cases e:x.2.1=i
  ·rw[ak (bq (show(keyOf x).2=i from e)),ak e,cD]
  ·rw[ah (by rw[bK (show ¬(keyOf x).2=i from e)];exact qY),ah e,tT]
def Ho(m:aB)(a:aO)(k n:Int):Prop:=(du k 5→(fX a n).2=true)∧(du k 6∨du k 7→ ¬du (iX m n) 0)
def Hp(c:ae)(a:aO)(k n:Int):Prop:=(du k 0∨(fX a k).2=true)∧n0 n c.1.length
theorem OK{k n:Int}(h:df k n):(k,n)∈s6:=by
 unfold s6
 rw[uw]
 unfold df at h
 dsimp only;omega
theorem Hr{l E:aC}{Q:Int→Int→Prop}(hl: ∀x∈l,Q x.1 x.2.1)(hE: ∀x∈E,Q x.1 x.2.1){a b:Int}(h:fS l E a b≠0):Q a b:=by
 unfold fS at h
 by_cases hz:dK a b l=0
 ·rw[hz,tT]at h
  obtain⟨y,hy,e1,e2⟩:=E3 h
  rw[←e1,←e2];exact hE y hy
 ·obtain⟨y,hy,e1,e2⟩:=E3 hz
  rw[←e1,←e2];exact hl y hy
theorem Lq{c:ae}{b:aq}{s e s' r':aC}(hB:dT c b=true)(h1:jo Fq (fS b.2.2.2.1 s) oy=some s')(h2:jo aG (fS b.2.2.1 e) s6=some r')
  (gs: ∀x∈s,cE x.1 x.2.1∧Hp c b.2.1 x.1 x.2.1) (flat: ∀i:Int,(dS i s).sum=0) (ge: ∀x∈e,df x.1 x.2.1∧Ho b.1 b.2.1 x.1 x.2.1) (zero:(e.map gJ).sum=0):
  dT c (b.1,(b.2.1,(r',(s',b.2.2.2.2))))=true:=by
 have hB':=hB
 unfold dT at hB'
 simp only[bQ]at hB'
 obtain⟨b1,b2,b3,b4,b5,b6,b7,b8,b9,b10,b11⟩:=hB'
 obtain⟨hr,hs⟩:=gl hB
 obtain⟨o1,_⟩:=Rh hs h1
 obtain⟨o2,_⟩:=abq hr (λx hx=>(ge x hx).1) h2
 obtain⟨MR,hsk⟩:=fK hs
 obtain⟨MB,hrk⟩:=vy hr
 have k1: ∀x∈b.2.2.2.1,keyOf x∈oy:=λx hx=>ss.2 (hsk x hx).1
 have k2: ∀x∈s,keyOf x∈oy:=λx hx=>ss.2 (gs x hx).1
 have k3: ∀x∈b.2.2.1,keyOf x∈s6:=λx hx=>OK (hrk x hx)
 have k4: ∀x∈e,keyOf x∈s6:=λx hx=>OK (ge x hx).1
 have hp8:=bl b8
 have hp9:=bl b9
 have q8: ∀x∈b.2.2.1,Ho b.1 b.2.1 x.1 x.2.1:=λx hx=>by
  obtain⟨i,hi,e⟩:=fC hx
  have:=hp8 i hi
  unfold jT at this
  rw[aZ,bo hi,lG,e]at this
  exact this
 have q9: ∀x∈b.2.2.2.1,Hp c b.2.1 x.1 x.2.1:=λx hx=>by
  obtain⟨i,hi,e⟩:=fC hx
  have:=hp9 i hi
  unfold jm at this
  rw[aZ,bo hi,lG,e]at this
  exact this
 have n4:decide (du (gK r') 0)=true:=by
  refine bq ?_
  unfold gK du
  rw[o2,ak rfl,←vH,Hn _ (ux 25 7 1) k3 k4 h2,vH,vH,zero,jy]
  have:=bl b4
  unfold gK du at this
  rw[hr,ak rfl]at this
  exact this
 have n5:ov s'=true:=by
  unfold ov at b5 ⊢
  obtain⟨f1,_⟩:=cL.1 b5
  rw[o1,gk]
  refine bq λj hj=> ?_
  have:=bl f1 j hj
  unfold tz du s4 at this ⊢
  rw[hs,ak rfl]at this
  rw[o1,ak rfl,←yj,Hn _ (ux 6 25 0) k1 k2 h1,yj,yj,flat,jy]
  exact this
 have n8:decide (∀j,j<r'.length→jT b.1 b.2.1 r' j)=true:=bq λj hj=>by
  obtain⟨g0,g1,_⟩:=(xC h2).2.1 _ (n7 (d:=bW) hj)
  rw[g0]at g1
  exact Hr (Q:=Ho b.1 b.2.1) q8 (λx hx=>(ge x hx).2) g1
 have n9:decide (∀j,j<s'.length→jm c b.2.1 s' j)=true:=bq λj hj=>by
  obtain⟨g0,g1,_⟩:=(xC h1).2.1 _ (n7 (d:=bW) hj)
  rw[g0]at g1
  exact Hr (Q:=Hp c b.2.1) q9 (λx hx=>(gs x hx).2) g1
 unfold dT
 simp only[bQ]
 exact⟨b1,b2,o2,n4,n5,b6,b7,n8,n9,b10,b11⟩
end VM
end
section
namespace VM
open Go VM.F
variable(N:Nat)
theorem iL{α:Type}{l:List α}{d:α}{i:Nat}(h:i<l.length):l.getD i d=l[i]:=by
 rw[aZ,bo h];rfl
theorem gO{α:Type}{d:α}{l:List α}{Q:α→Prop}:(∀j,j<l.length→Q (l.getD j d))↔ ∀x∈l,Q x:=
 ⟨λh x hx=>by
  obtain⟨i,hi,e⟩:=fC hx
  rw[←e,←iL (d:=d) hi];exact h i hi,λh j hj=>h _ (n7 hj)⟩
theorem qW{α:Type}{d:α}{R:α→α→Prop}(tr: ∀a b c,R a b→R b c→R a c): ∀l:List α,(∀j,j<l.length→0<j→R (l.getD (j-1) d) (l.getD j d))↔l.Pairwise R
 |[]=>⟨λ_=>List.Pairwise.nil,λ_ j hj=>nomatch hj⟩
 |[x]=>⟨λ_=>Ff R x,λ_ j hj h0=>by have:j<1:=hj;omega⟩
 |x::y::t=>by
  rw[gX,←qW tr (y::t)]
  constructor
  ·intro h
   have hxy:R x y:=h 1 (by simp) ω
   have ht: ∀j,j<(y::t).length→0<j→R ((y::t).getD (j-1) d) ((y::t).getD j d):=λj hj h0=>by
    have:=h (j+1) (by simpa using hj) ω
    obtain⟨k,rfl⟩: ∃k,j=k+1:=⟨j-1,ω⟩
    exact this
   have hp:=(qW tr (y::t)).1 ht
   refine⟨λz hz=> ?_,ht⟩
   rcases bm.1 hz with rfl|hz
   ·exact hxy
   ·exact tr _ _ _ hxy ((gX.1 hp).1 z hz)
  ·rintro⟨h1,h2⟩ j hj h0
   obtain⟨k,rfl⟩: ∃k,j=k+1:=⟨j-1,ω⟩
   cases k with
   |zero=>exact h1 y (bu ..)
   |succ k=>exact h2 (k+1) (by simpa using hj) ω
def X2(x y:lT):Prop:=n0 x.1 y.1
def OL(x y:cv):Prop:=n0 x.1 y.1
def J4(x y:gu):Prop:=n0 x.1 y.1
theorem Hs{a b c:Int}(h1:n0 a b)(h2:n0 b c):n0 a c:=Int.lt_trans h1 h2
def X3(a b:Int):Prop:=1≤a∧a≤12∧1≤b∧b≤4
theorem gn{m:aB}:dg m=true↔(∀x∈m,X3 x.1 x.2.1)∧m.Pairwise X2:=by
 unfold dg
 rw[gk,ff,←qW (R:=X2) (d:=ct) (λ_ _ _=>Hs),←gO (d:=ct)]
 exact⟨λh=>⟨λj hj=>⟨(h j hj).1,(h j hj).2.1,(h j hj).2.2.1,(h j hj).2.2.2.1⟩,λj hj h0=>(h j hj).2.2.2.2 h0⟩,λh j hj=>⟨(h.1 j hj).1,(h.1 j hj).2.1,(h.1 j hj).2.2.1,(h.1 j hj).2.2.2,λh0=>h.2 j hj h0⟩⟩
def anI(x y:cv):Prop:=du x.2.2.1 1∧du y.2.2.1 1∧du x.2.1 y.2.1
def Ri(x:cv):Prop:=mH x.1 x.2.1 x.2.2.1 x.2.2.2.1
def ntw(x y:cv):Prop:= ¬anI x y
theorem pJ{a:aO}:gR a=true↔(∀x∈a,Ri x)∧a.Pairwise OL∧a.Pairwise ntw:=by
 unfold gR
 rw[gk,ff,←qW (R:=OL) (d:=aQ) (λ_ _ _=>Hs),←gO (d:=aQ),qk]
 constructor
 ·refine λh=>⟨λj hj=>(h j hj).1,λj hj h0=>(h j hj).2.1 h0,λi j hi hj mj ht=>(h j hj).2.2 ⟨?_,xn.2 ⟨i,mj,?_,?_⟩⟩⟩
  ·rw[iL hj];exact ht.2.1
  ·rw[iL hi];exact ht.1
  ·rw[iL hi,iL hj];exact ht.2.2
 ·rintro⟨h1,h2,h3⟩ j hj
  refine⟨h1 j hj,λh0=>h2 j hj h0,λ⟨ht,ho⟩=> ?_⟩
  obtain⟨i,mj,e1,e2⟩:=xn.1 ho
  rw[iL hj]at ht e2
  rw[iL (show i<a.length by omega)]at e1 e2
  exact h3 i j ω hj mj ⟨e1,ht,e2⟩
theorem kM{l:bC}:dV l=true↔(∀x∈l,rP x)∧l.Pairwise J4∧l.length≤32:=by
 unfold dV
 rw[cL,ff,ff,←qW (R:=J4) (d:=fu) (λ_ _ _=>Hs),←gO (d:=fu)]
 exact⟨λh=>⟨λj hj=>(h.1 j hj).1,λj hj h0=>(h.1 j hj).2 h0,h.2⟩,λh=>⟨λj hj=>⟨h.1 j hj,λh0=>h.2.1 j hj h0⟩,h.2.2⟩⟩
def jw(m:aB)(n:Int):Prop:= ∃x∈m,du x.1 n
def qG(a:aO)(n:Int):Prop:= ∃x∈a,du x.1 n
theorem gq{n:Int}: ∀{m:aB},(∀x∈m,X3 x.1 x.2.1)→(¬du (jS n m) 0↔jw m n)
 |[],_=>⟨λh=>absurd rfl h,λ⟨_,h,_⟩=>nomatch h⟩
 |x::t,h=>by
  have ih:=gq (n:=n) λy hy=>h y (a6 _ hy)
  have hx:=h x (bu ..)
  rw[vv]
  by_cases e:x.1=n
  ·rw[ak e]
   have g: ∀v:Int,1≤v→ ¬du v 0:=λv h1 h2=>by unfold du at h2;omega
   exact⟨λ_=>⟨x,bu ..,e⟩,λ_=>g _ hx.2.2.1⟩
  ·rw[ah e,ih]
   exact⟨λ⟨y,hy,h⟩=>⟨y,a6 _ hy,h⟩,λ⟨y,hy,h'⟩=>(bm.1 hy).elim (λk=>absurd (k▸h') e) λhy=>⟨y,hy,h'⟩⟩
theorem Cz{n:Int}: ∀{a:aO},(ur n a).2=true↔qG a n
 |[]=>⟨λh=>(nomatch h),λ⟨_,h,_⟩=>nomatch h⟩
 |x::t=>by
  rw[ou]
  by_cases e:x.1=n
  ·rw[ak e]
   exact⟨λ_=>⟨x,bu ..,e⟩,λ_=>rfl⟩
  ·rw[ah e,Cz]
   exact⟨λ⟨y,hy,h⟩=>⟨y,a6 _ hy,h⟩,λ⟨y,hy,h'⟩=>(bm.1 hy).elim (λk=>absurd (k▸h') e) λhy=>⟨y,hy,h'⟩⟩
theorem vI{m:aB}(h:dg m=true)(n:Int): ¬du (iX m n) 0↔jw m n:=by
 unfold iX;rw[ak h];exact gq (gn.1 h).1
theorem pK{a:aO}(h:gR a=true)(n:Int):(fX a n).2=true↔qG a n:=by
 unfold fX;rw[ak h];exact Cz
def jE(m:aB)(a:aO)(k n:Int):Prop:=(du k 5→qG a n)∧(du k 6∨du k 7→jw m n)
def yY(c:ae)(a:aO)(k n:Int):Prop:=(du k 0∨qG a k)∧n0 n c.1.length
def Ht(c:ae)(a:aO)(x:gu):Prop:=qG a x.2.1∧n0 x.2.2.1 c.1.length
theorem Lr{m:aB}{a:aO}(hm:dg m=true)(ha:gR a=true){k n:Int}:Ho m a k n↔jE m a k n:=by
 unfold Ho jE;rw[pK ha,vI hm]
theorem Ls{c:ae}{a:aO}(ha:gR a=true){k n:Int}:Hp c a k n↔yY c a k n:=by
 unfold Hp yY;rw[pK ha]
structure RB(C:ae)(b:aq):Prop where
 c:eO C=true
 m:dg b.1=true
 a:gR b.2.1=true
 ma: ∀x∈b.2.1,jw b.1 x.2.1
 r:fx b.2.2.1=true
 t:du (gK b.2.2.1) 0
 s:ov b.2.2.2.1=true
 o:dV b.2.2.2.2.2.1=true
 n:du b.2.2.2.2.1.length C.1.length
 rk: ∀x∈b.2.2.1,jE b.1 b.2.1 x.1 x.2.1
 sk: ∀x∈b.2.2.2.1,yY C b.2.1 x.1 x.2.1
 ok: ∀x∈b.2.2.2.2.2.1,Ht C b.2.1 x
 p:eY b.2.2.2.2.1=true
theorem oF{c:ae}{b:aq}:dT c b=true↔RB c b:=by
 unfold dT rS
 simp only[bQ,gk,ff]
 constructor
 ·rintro⟨b1,⟨b2,b2',aik⟩,b3,b4,b5,b6,b7,b8,b9,b10,b11⟩
  refine⟨b1,b2,b2',?_,b3,b4,b5,b6,b7,?_,?_,?_,b11⟩
  ·exact(gO (d:=aQ) (Q:=λx=>jw b.1 x.2.1)).1 λj hj=>(gq (gn.1 b2).1).1 (aik j hj)
  ·exact(gO (d:=bW) (Q:=λx=>jE b.1 b.2.1 x.1 x.2.1)).1 λj hj=>(Lr b2 b2').1 (b8 j hj)
  ·exact(gO (d:=bW) (Q:=λx=>yY c b.2.1 x.1 x.2.1)).1 λj hj=>(Ls b2').1 (b9 j hj)
  ·exact(gO (d:=fu) (Q:=λx=>Ht c b.2.1 x)).1 λj hj=>⟨(pK b2' _).1 (b10 j hj).1,(b10 j hj).2⟩
 ·rintro⟨b1,b2,b2',aik,b3,b4,b5,b6,b7,b8,b9,b10,b11⟩
  refine⟨b1,⟨b2,b2',?_⟩,b3,b4,b5,b6,b7,?_,?_,?_,b11⟩
  ·exact λj hj=>(gq (gn.1 b2).1).2 ((gO (d:=aQ) (Q:=λx=>jw b.1 x.2.1)).2 aik j hj)
  ·exact λj hj=>(Lr b2 b2').2 ((gO (d:=bW) (Q:=λx=>jE b.1 b.2.1 x.1 x.2.1)).2 b8 j hj)
  ·exact λj hj=>(Ls b2').2 ((gO (d:=bW) (Q:=λx=>yY c b.2.1 x.1 x.2.1)).2 b9 j hj)
  ·exact λj hj=>let h:=(gO (d:=fu) (Q:=λx=>Ht c b.2.1 x)).2 b10 j hj;⟨(pK b2' _).2 h.1,h.2⟩
theorem RB.UY{c:ae}{b:aq}(h:RB c b){m:aB}{a:aO}(hm:dg m=true)(ha:gR a=true)(mm: ∀n,jw b.1 n→jw m n)(aa: ∀n,qG b.2.1 n→qG a n)(ma: ∀x∈a,jw m x.2.1):
  RB c (m,(a,b.2.2)):=
 ⟨h.c,hm,ha,ma,h.r,h.t,h.s,h.o,h.n,λx hx=>⟨λe=>aa _ ((h.rk x hx).1 e),λe=>mm _ ((h.rk x hx).2 e)⟩,λx hx=>⟨(h.sk x hx).1.imp id (aa _),(h.sk x hx).2⟩,λx hx=>⟨aa _ (h.ok x hx).1,(h.ok x hx).2⟩,h.p⟩
theorem RB.Lt{c:ae}{b:aq}(h:RB c b){o:bC}(ho:dV o=true)(hk: ∀x∈o,Ht c b.2.1 x):RB c (b.1,(b.2.1,(b.2.2.1,(b.2.2.2.1,(b.2.2.2.2.1,(o,())))))):=
 ⟨h.c,h.m,h.a,h.ma,h.r,h.t,h.s,ho,h.n,h.rk,h.sk,hk,h.p⟩
theorem RB.anK{c:ae}{b:aq}(h:RB c b){s e s' r':aC}(h1:jo Fq (fS b.2.2.2.1 s) oy=some s')(h2:jo aG (fS b.2.2.1 e) s6=some r')
  (gs: ∀x∈s,cE x.1 x.2.1∧yY c b.2.1 x.1 x.2.1) (flat: ∀i:Int,(dS i s).sum=0) (ge: ∀x∈e,df x.1 x.2.1∧jE b.1 b.2.1 x.1 x.2.1) (zero:(e.map gJ).sum=0):RB c (b.1,(b.2.1,(r',(s',b.2.2.2.2)))):=
 oF.1 (Lq (oF.2 h) h1 h2 (λx hx=>⟨(gs x hx).1,(Ls h.a).2 (gs x hx).2⟩) flat (λx hx=>⟨(ge x hx).1,(Lr h.m h.a).2 (ge x hx).2⟩) zero)
abbrev RBs(c:ae)(b b':aq):Prop:=RB c b'∧b'.1=b.1∧b'.2.1=b.2.1∧b'.2.2.2.2=b.2.2.2.2
theorem RB.oT{c:ae}{b:aq}(h:RB c b){s e:aC}(gs: ∀x∈s,cE x.1 x.2.1∧yY c b.2.1 x.1 x.2.1)(flat: ∀i:Int,(dS i s).sum=0)
  (ge: ∀x∈e,df x.1 x.2.1∧jE b.1 b.2.1 x.1 x.2.1) (zero:(e.map gJ).sum=0) (h0:(VM.oT b s e).2=0):RBs c b (VM.oT b s e).1:=by
 rcases Rg b s e with⟨h1,_⟩|⟨s',r',h1,h2,h3⟩
 ·rw[h1]at h0;exact absurd h0 δ
 ·rw[h3];exact⟨h.anK h1 h2 gs flat ge zero,rfl,rfl,rfl⟩
theorem UZ{l:aC}(h:dq l=true): ∀x∈l,gJ x≠0:=by
 unfold dq at h
 rw[gk]at h
 exact(gO (d:=bW) (Q:=λx=>gJ x≠0)).1 λj hj=>((bl h) j hj).2.1
end VM
end
section
namespace VM
open Go VM.F Go.RowKit
variable(N:Nat)
theorem X4{c:ae}{b:aq}(hR:RB c b)(a:Int):lz c (posOf b.2.2.2.1 a)=true:=by
 have hk:=(gl (oF.2 hR)).2
 obtain⟨h1,h2⟩:=fK hk
 have e:posOf b.2.2.2.1 a=kK a b.2.2.2.1:=by unfold posOf;rw[ak hk]
 rw[e]
 have hs:(kK a b.2.2.2.1).Pairwise (λx y:lT=>n0 x.1 y.1):=wH.1 (xu (a:=a) h1)
 have hc:=(qW (R:=λx y:lT=>n0 x.1 y.1) (d:=ct) (λ_ _ _=>Hs) _).2 hs
 unfold lz
 refine cL.2 ⟨bq λj hj=> ?_,hR.c⟩
 obtain⟨x,hx,_,e⟩:=mI (n7 (d:=ct) hj)
 have hp:=hc j hj
 unfold mS
 rw[e]at hp ⊢
 exact⟨(h2 x hx).1.2.2.1,(hR.sk x hx).2,UZ hk x hx,(h2 x hx).2,λh0=>hp h0⟩
theorem vJ(c:ae)(next:Int)(p:aB)(t:List aB)(out:aN):uH c next (p::t) out=
 if p=[]then uH c next t out else if(ya (-(tA c p))).2=true then uH c next t (out++[(next+(out.length:Int),(p,((ya (-(tA c p))).1,(1,(0,(0,()))))))])else none:=rfl
theorem yk{c:ae}{next:Int}: ∀{t:List aB} {out o:aN},uH c next t out=some o→o.length≤out.length+t.length
 |[],out,o,h=>by cases h;exact aI _
 |p::t,out,o,h=>by
  rw[vJ]at h
  rw[aU]
  split at h
  ·have:=yk h;omega
  ·split at h
   ·have:=yk h;rw[aX,aJ]at this;omega
   ·cases h
theorem zv(c:ae)(next:Int)(all:aB)(k:Nat)(t:List Nat)(out:aN):vZ c next all (k::t) out=(uH c next (nP c (bV c all k)) out).bind (vZ c next all t):=rfl
theorem X5{x:Int}(h:0≤x∧x≤92233720368547758070000000000):c7 x∧x≠ -170141183460469231731687303715884105728∧c7 (-x):=by unfold c7;omega
theorem U0(hN:5000000≤N)(K8:dN.fe){next:Int}(hn:1≤next∧next≤1099511627764)(c:ae)(all:aB)(b:Int){parts:List aB}(hp:parts.length≤3)(hq: ∀p∈parts,p.length≤100000∧ ∀y∈p,aG y.2.1){out:aN}(ho:out.length≤1000):
  dN.Zh N K8 N next c all out b parts (parts.length:Int) 0=match uH c next parts out with
   |some o=>K8 next c all o (W .i64 (b+1))
   |none=>some ([],2):=by
 have:=vr parts bM (λm j s=>dN.Zh N K8 m next c all s b parts (parts.length:Int) j) (λt s=>match uH c next t s with
   |some o=>K8 next c all o (W .i64 (b+1))
   |none=>some ([],2)) (λj s=>s.length≤1000+j) (λm j s hj hI hr=> ?_) (λm s hI=> ?_) parts.length N 0 out ω ω ω ω
 ·exact this
 ·have hx:parts.getD j bM∈parts:=by rw[aZ,bo hj];exact fg hj
  obtain⟨h1,h2⟩:=hq _ hx
  unfold dN.Zh dN.abt
  rw[aP ω,aj,aY ω ω,aj,aF,ay (x:=(j:Int)+1) ω ω,ag j,vJ]
  by_cases It:parts.getD j bM=[]
  ·rw[ak It,cZ (by rw[It];rfl),aj]
   exact hr s ω
  ·have C2:((parts.getD j bM).length:Int)≠0:=λh=>It (qg ω)
   obtain⟨g1,g2,g3⟩:=X5 (GJ (c:=c) h2)
   rw[ah It,da C2,au,aaG N ω c h1 h2,aw,aaO N g1 g2,aw,Xe N g3,aw,cond_not]
   by_cases hi:(ya (-(tA c (parts.getD j bM)))).2=true
   ·rw[ak hi,hi,aj,ay (x:=next+(s.length:Int)) ω ω]
    dsimp only
    rw[ch (by rw[aJ];omega),aj]
    exact hr _ (by rw[aX,aJ];omega)
   ·rw[ah hi,lF _ |>.mp hi,au]
 ·unfold dN.Zh dN.abt
  rw[aK ω,au]
  rfl
theorem J5: ∀{l:aB},(∀y∈l,LQ y)→0≤eh l∧eh l≤9223372036854775808*(l.length:Int)
 |[],_=>δ
 |x::t,h=>by
  have ih:=J5 (λy hy=>h y (a6 _ hy))
  have hx:=(h x bu).2.1
  have hb:(x.2.1.natAbs:Int)≤9223372036854775808:=by
   have g: ∀x:Int,aG x→(x.natAbs:Int)≤9223372036854775808:=λx h=>by unfold aG at h;omega
   exact g _ hx
  have e:eh (x::t)=(x.2.1.natAbs:Int)+eh t:=by unfold eh;rw[bZ,cD]
  have e2:(((x::t).length:Nat):Int)=(t.length:Int)+1:=by rw[aU];rfl
  rw[e,e2,jz]
  omega
theorem Rj(l:aB)(x:lT):eh (l++[x])=eh l+(x.2.1.natAbs:Int):=by
 unfold eh
 rw[dL,lI]
 simp
theorem IV{c:ae}{l:aB}{i:Nat}(hi:i<l.length)(k:Nat):bV c (l.take (i+1)) k=bV c (l.take i) k++if si c (l.getD i ct)=(k:Int)then [l.getD i ct]else []:=by
 unfold bV
 rw[zY,List.filter_append,bo hi,aZ,bo hi]
 congr 1
 simp only[Option.toList_some,lG,tM,List.filter_nil,q4]
theorem qH(c:ae)(l:aB)(k:Nat):(bV c l k).length≤l.length:=Mn _ _
theorem lj{c:ae}{l:aB}{k:Nat}{y:lT}(h:y∈bV c l k):y∈l:=(nh.1 h).1
theorem OM(hN:5000000≤N)(K8:dN.fe)(next:Int){c:ae}(hc:aG c.2.2.2.2.2.1){all:aB}(hl:all.length≤1000)(hq: ∀y∈all,LQ y∧0≤(y.1:Int)∧(y.1:Int)<(c.1.length:Int))(out:aN)(k:Nat):
  dN.oU N K8 N next c all out (k:Int) bM (cO 0) (k:Int) (all.length:Int) 0=dN.yF N K8 N next c all out (List.replicate (jv c (bV c all k)) bM) (k:Int) (bV c all k) ((bV c all k).length:Int) 0:=by
 have:=vr all ct (λm i (s:aB×bI)=>dN.oU N K8 m next c all out (k:Int) s.1 s.2 (k:Int) (all.length:Int) i) (λ_ _=>dN.yF N K8 N next c all out (List.replicate (jv c (bV c all k)) bM) (k:Int) (bV c all k) ((bV c all k).length:Int) 0)
  (λi s=>s=(bV c (all.take i) k,cO (eh (bV c (all.take i) k)))) (λm i s hi hI hr=> ?_) (λm s hI=> ?_) all.length N 0 (bM,cO 0) ω ω ω rfl
 ·exact this
 ·have hx:all.getD i ct∈all:=by rw[aZ,bo hi];exact fg hi
  obtain⟨hy,It,hp1⟩:=hq _ hx
  have T6:=hy.2.1
  unfold aG at T6
  have hb:((all.getD i ct).2.1.natAbs:Int)<9223372036854775808:=by
   have g: ∀x:Int,-9223372036854775808≤x→x<9223372036854775808→mZ x→(x.natAbs:Int)<9223372036854775808:=λx h1 h2 h3=>by unfold mZ at h3;omega
   exact g _ T6.1 T6.2 hy.2.2
  have hlen:=qH c (all.take i) k
  rw[bE]at hlen
  have hg:=J5 (l:=bV c (all.take i) k) λy hy=>(hq y (iH (lj hy))).1
  have Vv:=IV (c:=c) hi k
  subst hI
  generalize bV c (all.take i) k=own at*
  unfold dN.oU dN.m5
  dsimp only
  rw[aP ω,aj,aY ω ω,aj,aF,aY It hp1,aj,ay (x:=(i:Int)+1) ω ω,ag i]
  change cond (aM (si c (all.getD i ct)) (k:Int)) _ _=_
  by_cases h:si c (all.getD i ct)=(k:Int)
  ·rw[ak h]at Vv
   rw[cZ h,aj,ch (by rw[aJ];omega),aj,AX N T6.1 T6.2,aw,ay ω hb,Gs N ω hb,aw,aaH N (by unfold c7;omega) (by unfold c7;omega) (by unfold c7;omega),aw]
   refine hr (own++[all.getD i ct],cO (eh own+((all.getD i ct).2.1.natAbs:Int))) ?_
   rw[Vv,Rj]
  ·rw[ah h,cN]at Vv
   rw[da h,au]
   refine hr (own,cO (eh own)) ?_
   rw[Vv]
 ·have hS:=pH (eh (bV c all k)) c.2.2.2.2.2.1
  rw[fD]at hI
  subst hI
  unfold dN.oU dN.m5
  dsimp only
  rw[aK ω,au,Cw N ω hc,aw,cC hS.1 ω ω,aj]
  rfl
theorem X8(hN:5000000≤N){next:Int}(hn:1≤next∧next≤1099511627764){c:ae}(hc:aG c.2.2.2.2.2.1){all:aB}(hl:all.length≤1000)(hq: ∀y∈all,LQ y∧0≤(y.1:Int)∧(y.1:Int)<(c.1.length:Int)):
  dN.l8 N N next c all [] 0=some (JY c all next):=by
 have:=vr (List.range 4) 0 (λm i s=>dN.l8 N m next c all s i) (λt s=>match vZ c next all t s with
   |some o=>some (o,(0:Int))
   |none=>some ([],2)) (λi s=>s.length≤3*i) (λm i s hi hI hr=> ?_) (λm s hI=> ?_) 4 N 0 [] (by rw[ng];omega) ω ω (by rw[bY];omega)
 ·rw[show((0:Nat):Int)=0 from rfl,c9]at this
  rw[this]
  unfold JY
  cases vZ c next all (List.range 4) []<;>rfl
 ·have hi4:i<4:=by rw[ng]at hi;exact hi
  have e:(List.range 4).getD i 0=i:=by rw[aZ,bo hi];simp
  have anM: ∀y∈bV c all i,LQ y:=λy hy=>(hq y (lj hy)).1
  have wi:=qH c all i
  have hS:=pH (eh (bV c all i)) c.2.2.2.2.2.1
  have hp:jv c (bV c all i)≤3:=by unfold jv;omega
  rw[e,zv]
  unfold dN.l8 dN.zo
  rw[aP ω,aj]
  refine(OM N hN (dN.l8 N m) next hc hl hq s i).trans ?_
  rw[UM N hN _ _ _ _ _ hp _ ω anM]
  have e2:(List.range (jv c (bV c all i))).map (oc (bV c all i) (jv c (bV c all i)))=nP c (bV c all i):=rfl
  have e3:(nP c (bV c all i)).length≤3:=by unfold nP;simp;exact hp
  rw[e2,U0 N hN _ hn c all _ e3 (λp hpm=> ?_) ω,ay (x:=(i:Int)+1) ω ω,ag i]
  ·cases hL:uH c next (nP c (bV c all i)) s with
   |none=>rfl
   |some o=>
    have:=yk hL
    exact hr o ω
  ·obtain⟨j,_,rfl⟩:=cQ.1 hpm
   exact⟨by have:=yi (bV c all i) (jv c (bV c all i)) j;omega,SO anM hp j⟩
 ·unfold dN.l8 dN.zo
  rw[aK (by rw[ng];omega),au]
  rfl
end VM
end
section
namespace VM
open Go VM.F Go.RowKit
variable(N:Nat)
def jx(c:ae)(b:aq)(next:Int):aN×Int:=
 if dT c b=true then if next<1∨1099511627764<next then([],1)else if posOf b.2.2.2.1 0=[]then([],3)else JY c (posOf b.2.2.2.1 0) next else([],1)
theorem E4{c:ae}{b:aq}(w:ow b)(hB:dT c b=true):(posOf b.2.2.2.1 0).length≤6∧ ∀y∈posOf b.2.2.2.1 0,LQ y∧0≤(y.1:Int)∧(y.1:Int)<(c.1.length:Int):=by
 have hL:=X4 (oF.1 hB) 0
 have sE:=Xm w.qs 0
 have hg:=JD hL sE
 refine⟨hg.len,λy hy=> ?_⟩
 have hp:=(K3 hL sE y hy).place
 have h1:=hg.inst y hy
 unfold Sw at h1
 unfold s7 at hp
 exact⟨⟨by unfold aG;omega,hg.q y hy⟩,hp⟩
theorem zw(hN:5000000≤N){c:ae}{b:aq}(w:ow b)(hc:aG c.2.2.2.2.2.1)(next:Int):dN N c b next=some (jx c b next):=by
 unfold dN dN.b jx
 rw[aaz N ω w,aw,cond_not]
 by_cases hB:dT c b=true
 ·obtain⟨h6,hq⟩:=E4 w hB
  rw[ak hB,hB,aj]
  by_cases h1:next<1
  ·rw[aP h1,aj,ak (.inl h1)]
  rw[aK ω,au]
  by_cases h2:1099511627764<next
  ·rw[aP h2,aj,ak (.inr h2)]
  rw[aK ω,au,ah ω,anp N w.s ω,aw]
  by_cases h3:posOf b.2.2.2.1 0=[]
  ·rw[cZ (by rw[h3];rfl),aj,ak h3]
  ·have hz:((posOf b.2.2.2.1 0).length:Int)≠0:=λh=>h3 (qg ω)
   rw[da hz,au,ah h3,X8 N hN ω hc ω hq]
 ·rw[ah hB,lF _ |>.mp hB,au]
theorem Hu{c:ae}{next:Int}: ∀{t:List aB} {out o:aN},(∀p∈t,p.length≤100000)→rV out→uH c next t out=some o→rV o
 |[],out,o,_,h,e=>by cases e;exact h
 |p::t,out,o,hp,h,e=>by
  rw[vJ]at e
  split at e
  ·exact Hu (λq hq=>hp q (a6 _ hq)) h e
  ·split at e
   ·refine Hu (λq hq=>hp q (a6 _ hq)) (λx hx=> ?_) e
    rcases bf.1 hx with hx|hx
    ·exact h x hx
    ·rw[cg.1 hx];exact hp p bu
   ·cases e
theorem By(c:ae)(l:aB):(nP c l).length≤3:=by
 have hS:=pH (eh l) c.2.2.2.2.2.1
 unfold nP
 simp
 unfold jv
 omega
theorem Lu{c:ae}{l p:aB}(h:p∈nP c l):p.length≤l.length:=by
 obtain⟨j,_,rfl⟩:=cQ.1 h
 exact yi l _ j
theorem ON{c:ae}{next:Int}{all:aB}(hl:all.length≤100000): ∀{t:List Nat} {out o:aN},rV out→vZ c next all t out=some o→rV o∧o.length≤out.length+3*t.length
 |[],out,o,h,e=>by cases e;exact⟨h,aI _⟩
 |k::t,out,o,h,e=>by
  rw[zv]at e
  obtain⟨u,hu,e⟩:=qm.1 e
  have h1:=Hu (λp hp=>ca (Lu hp) (ca (qH c all k) hl)) h hu
  have h2:=yk hu
  have h3:=By c (bV c all k)
  obtain⟨h4,h5⟩:=ON hl h1 e
  exact⟨h4,by rw[aU];omega⟩
theorem Rk{c:ae}{b:aq}(w:ow b)(next:Int):rV (jx c b next).1∧(jx c b next).1.length≤12:=by
 have h0:rV []∧([]:aN).length≤12:=⟨(λx hx=>nomatch hx),bA _⟩
 unfold jx
 split
 ·rename_i hB
  obtain⟨h6,_⟩:=E4 w hB
  split
  ·exact h0
  ·split
   ·exact h0
   ·unfold JY
    cases hL:vZ c next (posOf b.2.2.2.1 0) (List.range 4) []with
    |none=>exact h0
    |some o=>
     obtain⟨h1,h2⟩:=ON ω h0.1 hL
     rw[ng,bY]at h2
     exact⟨h1,ω⟩
 ·exact h0
def yl(id:Int):aN→eE×Bool
 |[]=>(((0:Int),(bM,aQ)),false)
 |x::t=>if x.1=id then(x,true)else yl id t
theorem Lv(id:Int)(x:eE)(t:aN):yl id (x::t)=if x.1=id then(x,true)else yl id t:=rfl
theorem Ya(hN:200000≤N){l:aN}(hl:l.length≤100000)(hw:rV l)(id:Int):DJ N l id=some (yl id l):=by
 unfold DJ DJ.b
 refine Dq l ((0:Int),(bM,aQ)) (λn i=>DJ.l2 N n id ((0:Int),(bM,aQ)) l (l.length:Int) i) (λt=>some (yl id t)) (λn i hi hr=> ?_) (λn=> ?_) N ω
 ·have hlx:=zp hw i
  unfold DJ.l2 DJ.gm
  rw[aP ω,aj,aY ω ω,aj,aF,Lv,ay (x:=(i:Int)+1) ω ω,ag i]
  by_cases h:(l.getD i ((0:Int),(bM,aQ))).1=id
  ·rw[cZ h,aj,ak h,ch ω,aj]
  ·rw[da h,au,ah h];exact hr
 ·unfold DJ.l2 DJ.gm
  rw[aK ω,au];rfl
def lC:ae:=([((0:Int),((100:Int),((0:Int),((2:Int),())))),((1:Int),((7:Int),ct))],((0:Int),((0:Int),((0:Int),((0:Int),((3:Int),((0:Int),())))))))
def lS:aC:=[((0:Int),((0:Int),((7:Int),()))),((0:Int),((1:Int),((-2:Int),()))),((1:Int),((0:Int),((-7:Int),()))),((1:Int),((1:Int),((2:Int),())))]
def lB(s:aC):aq:=([((1:Int),((1:Int),()))],([((1:Int),((1:Int),((1:Int),((0:Int),()))))],(cf,(s,([(100:Int),(7:Int)],(eu,()))))))
def lL:aN:=[((5:Int),([((0:Int),((3:Int),()))],((-6:Int),((1:Int),ct)))),((6:Int),([((0:Int),((2:Int),()))],((-4:Int),((1:Int),ct)))),((7:Int),([((0:Int),((2:Int),()))],((-4:Int),((1:Int),ct)))),((8:Int),([((1:Int),((-2:Int),()))],((0:Int),((1:Int),ct))))]
theorem lK1:jx lC (lB lS) 5=(lL,0):=κ
theorem lK2:jx lC (lB []) 5=([],3):=κ
theorem lK3:yl 7 lL=(((7:Int),([((0:Int),((2:Int),()))],((-4:Int),((1:Int),ct)))),true):=κ
theorem lK4:vA lC lL=true:=by decide+kernel
theorem lW1:ow (lB lS):=⟨δ,δ,δ,δ,δ,δ,λx hx=>(nomatch hx),K2 (l:=lS) δ⟩
theorem lW2:ow (lB []):=⟨δ,δ,δ,δ,δ,δ,λx hx=>(nomatch hx),λx hx=>(nomatch hx)⟩
theorem lW3:rV lL:=λx hx=>by
 have:x.2.1.length=1:=by
  simp only[lL,bm,Fu,or_false]at hx
  rcases hx with rfl|rfl|rfl|rfl<;>rfl
 omega
theorem U1(hN:5000000≤N):F7 N=some true:=by
 unfold F7 F23
 rw[aw]
 show(dN N lC (lB lS) 5).bind _=_
 rw[zw N hN lW1 δ,aw,lK1]
 show(DJ N lL 7).bind _=_
 rw[Ya N ω δ lW3,aw,lK3]
 show(dN N lC (lB []) 5).bind _=_
 rw[zw N hN lW2 δ,aw,lK2]
 have h1:zF N (lL.getD (0:Int).toNat ((0:Int),(bM,aQ))).2.1 [((0:Int),((3:Int),()))]=some true:=Hj N δ ω
 have h2:zF N [((0:Int),((2:Int),()))] [((0:Int),((2:Int),()))]=some true:=Hj N δ ω
 have h3:zF N (lL.getD (3:Int).toNat ((0:Int),(bM,aQ))).2.1 [((1:Int),((-2:Int),()))]=some true:=Hj N δ ω
 have h4:uR N lC lL=some true:=by rw[aaF N ω lC δ lW3,lK4]
 have e2:aM (lL.length:Int) 4=true:=cZ rfl
 have e3:a7 0 lL.length=true:=aY δ δ
 have e4:a7 3 lL.length=true:=aY δ δ
 have e5:aM (lL.getD (0:Int).toNat ((0:Int),(bM,aQ))).1 5=true:=cZ rfl
 have e6:aM (lL.getD (0:Int).toNat ((0:Int),(bM,aQ))).2.2.1 (-6)=true:=cZ rfl
 have e7:aM (lL.getD (0:Int).toNat ((0:Int),(bM,aQ))).2.2.2.1 1=true:=cZ rfl
 have h5:zE N (cO 7) 3=some 3:=by rw[Cw N ω δ];rfl
 have h6:zE N (cO 6) 3=some 2:=by rw[Cw N ω δ];rfl
 simp only[h1,h2,h3,h4,e2,e3,e4,e5,e6,e7,Bj,aj,aw,Gs N (x:=7) ω ω,Gs N (x:=6) ω ω,h5,h6]
 show(uR N lC lL).bind _=_
 rw[h4];rfl
end VM
end
section
namespace VM
open Go VM.F Go.RowKit
variable(N:Nat)
def partAt(q:Int)(n k:Nat):Int:=(iB (q.natAbs:Int) n).1.getD k 0
theorem SV{q:Int}{n:Nat}(h:aG q)(hq:mZ q)(h0:1≤n)(hn:n≤3):(iB (q.natAbs:Int) n).1=bF (q.natAbs:Int) (List.replicate n 1):=by
 unfold iB
 rw[ah ω,aF]
 unfold mJ
 have hm:may (List.replicate n 1)=true:=iK.2 ⟨by rw[bP];omega,He n⟩
 rw[ah (by rw[hm];simp<;>omega),zu,ah ω,ah ω]
theorem Rl{n k:Nat}(hk:k<n):(List.replicate n (1:Int)).getD k 0=1:=by
 rw[aZ,uT,ak hk];rfl
theorem U2{q:Int}{n:Nat}(h:aG q)(hq:mZ q)(hn:n≤3){i k:Nat}(hi:i<n)(hk:k<n):partAt q n k≤partAt q n i+1:=by
 unfold partAt
 rw[SV h hq ω hn]
 exact Ob (by rw[Rl hi,Rl hk])
theorem Yb{q:Int}{n:Nat}(h:aG q)(hq:mZ q)(hn:n≤3){k:Nat}(hk:k<n):(partAt q n k*n-(q.natAbs:Int)).natAbs<n:=by
 unfold partAt
 rw[SV h hq ω hn]
 have:=QY (t:=(q.natAbs:Int)) (w:=List.replicate n 1) ω (by rw[zu];omega) k
 rw[zu,Rl hk,Ah]at this
 omega
theorem SW{q:Int}{n:Nat}(h:aG q)(hq:mZ q)(hn:n≤3)(k:Nat):((Er q n k).natAbs:Int)=partAt q n k:=by
 have:=E2 h hq hn k
 unfold Er partAt
 split<;>omega
theorem Yc(p:Nat→Int): ∀n,0<n→ ∃i,i<n∧ ∀j,j<n→p i≤p j
 |1,_=>⟨0,ω,λj hj=>by rw[show j=0 by omega];exact ec _⟩
 |n+2,_=>by
  obtain⟨i,hi,hm⟩:=Yc p (n+1) ω
  by_cases h:p i≤p (n+1)
  ·exact⟨i,ω,λj hj=>by
    by_cases e:j=n+1
    ·rw[e];exact h
    ·exact hm j ω⟩
  ·exact⟨n+1,ω,λj hj=>by
    by_cases e:j=n+1
    ·rw[e];exact ec _
    ·have:=hm j ω;omega⟩
theorem Rm{q:Int}{n:Nat}(h:aG q)(hq:mZ q)(hn:n≤3): ∃m:Int,0≤m∧ ∀j,j<n→m≤partAt q n j∧partAt q n j≤m+1:=by
 by_cases h0:n=0
 ·exact⟨0,ω,λj hj=>ω⟩
 ·obtain⟨i,hi,hm⟩:=Yc (partAt q n) n ω
  exact⟨partAt q n i,(E2 h hq hn i).1,λj hj=>⟨hm j hj,U2 h hq hn hi hj⟩⟩
theorem ym{l:aB}{n k:Nat}{z:lT}(h:z∈oc l n k): ∃y∈l,z.1=y.1∧z.2.1=Er y.2.1 n k∧z.2.1≠0:=by
 obtain⟨y,hy,e⟩:=zV.1 h
 unfold oD at e
 split at e
 ·cases e
 ·rename_i h0
  cases e;exact⟨y,hy,rfl,rfl,h0⟩
theorem U3{l:aB}{n k:Nat}{y:lT}(hy:y∈l)(h:Er y.2.1 n k≠0):(y.1,(Er y.2.1 n k,()))∈oc l n k:=
 zV.2 ⟨y,hy,by unfold oD;rw[ah h]⟩
def IW(c:ae)(x:eE):Int:=si c (x.2.1.getD 0 ct)
def DK(c:ae)(all:aB)(k:Nat)(x:eE):Prop:=
 x.2.1≠[]∧ ∃j,j<jv c (bV c all k)∧x.2.1=oc (bV c all k) (jv c (bV c all k)) j
theorem DK.leg{c:ae}{all:aB}{k:Nat}{x:eE}(h:DK c all k x){z:lT}(hz:z∈x.2.1):si c z=(k:Int):=by
 obtain⟨_,j,_,e⟩:=h
 rw[e]at hz
 obtain⟨y,hy,e1,_⟩:=ym hz
 have:=bl (nh.1 hy).2
 unfold si at*
 rw[e1];exact this
theorem DK.IW{c:ae}{all:aB}{k:Nat}{x:eE}(h:DK c all k x):IW c x=(k:Int):=
 h.leg (n7 (oK.2 h.1))
theorem CA{c:ae}{next:Int}: ∀{t:List aB} {out o:aN},uH c next t out=some o→ ∃e,o=out++e∧e.length≤t.length∧ ∀x∈e,x.2.1∈t∧x.2.1≠[]
 |[],out,o,h=>by cases h;exact⟨[],(cN _).symm,aI _,λx hx=>nomatch hx⟩
 |p::t,out,o,h=>by
  rw[vJ]at h
  split at h
  ·obtain⟨e,h1,h2,h3⟩:=CA h
   exact⟨e,h1,by rw[aU];omega,λx hx=>⟨a6 _ (h3 x hx).1,(h3 x hx).2⟩⟩
  ·rename_i hp
   split at h
   ·obtain⟨e,h1,h2,h3⟩:=CA h
    rw[bU]at h1
    refine⟨_,h1,by rw[aX,aJ,aU];omega,λx hx=> ?_⟩
    rcases bf.1 hx with hx|hx
    ·rw[cg.1 hx];exact⟨bu,hp⟩
    ·exact⟨a6 _ (h3 x hx).1,(h3 x hx).2⟩
   ·cases h
theorem DL{α:Type}{p:α→Bool}{l:List α}(h: ∀x∈l,p x=false):l.countP p=0:=List.countP_eq_zero.2 λx hx=>by rw[h x hx];decide
theorem J6{c:ae}{next:Int}{all:aB}: ∀{t:List Nat} {out o:aN},t.Nodup→vZ c next all t out=some o→
  ∃e,o=out++e∧(∀x∈e,∃k∈t,DK c all k x)∧ ∀B:Int,e.countP (λx=>decide (IW c x=B))≤3
 |[],out,o,_,h=>by cases h;exact⟨[],(cN _).symm,λx hx=>(nomatch hx),λB=>bA _⟩
 |k::t,out,o,hn,h=>by
  rw[zv]at h
  obtain⟨u,hu,h⟩:=qm.1 h
  obtain⟨hk,hn⟩:=wJ.1 hn
  obtain⟨e1,rfl,l1,a1⟩:=CA hu
  obtain⟨e2,rfl,a2,c2⟩:=J6 hn h
  have b1: ∀x∈e1,DK c all k x:=λx hx=>by
   obtain⟨h1,h2⟩:=a1 x hx
   obtain⟨j,hj,ej⟩:=cQ.1 h1
   exact⟨h2,j,nj.1 hj,ej.symm⟩
  refine⟨e1++e2,bU ..,λx hx=> ?_,λB=> ?_⟩
  ·rcases bf.1 hx with hx|hx
   ·exact⟨k,bu,b1 x hx⟩
   ·obtain⟨k',rz,h'⟩:=a2 x hx
    exact⟨k',a6 _ rz,h'⟩
  ·rw[List.countP_append]
   by_cases hB:B=(k:Int)
   ·have z2:e2.countP (λx=>decide (IW c x=B))=0:=DL λx hx=>by
     obtain⟨k',rz,h'⟩:=a2 x hx
     refine bK λe=>hk ?_
     rw[h'.IW,hB]at e
     have:k'=k:=ω
     exact this▸rz
    have:=Fh (p:=λx=>decide (IW c x=B)) (l:=e1)
    have:=By c (bV c all k)
    omega
   ·have z1:e1.countP (λx=>decide (IW c x=B))=0:=DL λx hx=>bK λe=>hB (by rw[←e,(b1 x hx).IW])
    have:=c2 B
    omega
structure Made(c:ae)(all:aB)(o:aN):Prop where
 lot: ∀x∈o,∃k,DK c all k x
 KU: ∀B:Int,o.countP (λx=>decide (IW c x=B))≤3
theorem Lw{c:ae}{b:aq}{next:Int}(h:(jx c b next).2=0):dT c b=true∧vZ c next (posOf b.2.2.2.1 0) (List.range 4) []=some (jx c b next).1∧Made c (posOf b.2.2.2.1 0) (jx c b next).1:=by
 unfold jx at*
 split at h
 ·rename_i hB
  rw[ak hB]
  split at h
  ·cases h
  ·rename_i h1
   rw[ah h1]
   split at h
   ·cases h
   ·rename_i h2
    rw[ah h2]
    unfold JY at*
    cases hL:vZ c next (posOf b.2.2.2.1 0) (List.range 4) []with
    |none=>rw[hL]at h;cases h
    |some o=>
     obtain⟨e,he,h3,h4⟩:=J6 List.nodup_range hL
     rw[cM]at he
     subst he
     exact⟨hB,rfl,λx hx=>by obtain⟨k,_,hk⟩:=h3 x hx;exact⟨k,hk⟩,h4⟩
 ·cases h
theorem Yd{c:ae}{b:aq}(hR:RB c b){y z:lT}(hy:y∈posOf b.2.2.2.1 0)(hz:z∈posOf b.2.2.2.1 0)(e:y.1=z.1):y=z:=by
 have hk:=(gl (oF.2 hR)).2
 obtain⟨h1,h2⟩:=fK hk
 have ep:posOf b.2.2.2.1 0=kK 0 b.2.2.2.1:=by unfold posOf;rw[ak hk]
 rw[ep]at hy hz
 have hs:=xu (a:=0) h1
 generalize kK 0 b.2.2.2.1=l at*
 obtain⟨i,hi,rfl⟩:=fC hy
 obtain⟨j,hj,rfl⟩:=fC hz
 have P6:=qk.1 hs
 have g: ∀i j (hi:i<l.length) (hj:j<l.length),i<j→(l[i].1:Int)<l[j].1:=λi j hi hj mj=>by
  have:=P6 i j (by simpa using hi) (by simpa using hj) mj
  simpa using this
 have Ye: ∀a b:Int,a=b→a<b→False:=λa b h1 h2=>ω
 rcases Nat.lt_trichotomy i j with h|h|h
 ·exact(Ye _ _ e (g i j hi hj h)).elim
 ·subst h;rfl
 ·exact(Ye _ _ e.symm (g j i hj hi h)).elim
end VM
end
section
namespace VM
open Go VM.F
variable(N:Nat)
theorem Ok.and{α:Type}{P Q:α→Prop}{o:Option α}(h1:Ok P o)(h2:Ok Q o):Ok (λr=>P r∧Q r) o:=by
 obtain⟨r,e,hr⟩:=h1
 obtain⟨q,e',hq⟩:=h2
 rw[e]at e'
 exact⟨r,e,hr,(q7 e')▸hq⟩
theorem Bz{α:Type}{l:List α}{x y:α}(k:Nat):y∈l.take k++x::l.drop k↔y=x∨y∈l:=by
 have e:y∈l↔y∈l.take k∨y∈l.drop k:=by rw[←bf,iG]
 rw[e,bf,bm]
 constructor
 ·rintro(h|h|h)
  ·exact .inr (.inl h)
  ·exact .inl h
  ·exact .inr (.inr h)
 ·rintro(h|h|h)
  ·exact .inr (.inl h)
  ·exact .inl h
  ·exact .inr (.inr h)
theorem Hv{α:Type}{R:α→α→Prop}{l:List α}{x:α}{k:Nat}(hp:l.Pairwise R)(h1: ∀y∈l.take k,R y x)(h2: ∀y∈l.drop k,R x y):(l.take k++x::l.drop k).Pairwise R:=by
 rw[←iG k l,wE]at hp
 rw[wE,gX]
 exact⟨hp.1,⟨h2,hp.2.1⟩,λa ha b hb=>by
  rcases bm.1 hb with rfl|hb
  ·exact h1 a ha
  ·exact hp.2.2 a ha b hb⟩
theorem SX{α:Type}{l:List α}{d:α}{f:α→Int}(hp:l.Pairwise λa b=>n0 (f a) (f b)){v:Int}{k:Nat}(h1: ∀j,j<k→n0 (f (l.getD j d)) v)(h2:k<l.length→ ¬n0 (f (l.getD k d)) v)(hn: ∀y∈l,¬du (f y) v):
  (∀y∈l.take k,n0 (f y) v)∧ ∀y∈l.drop k,n0 v (f y):=by
 refine⟨λy hy=> ?_,λy hy=> ?_⟩
 ·obtain⟨j,hj,e⟩:=fC hy
  rw[bE]at hj
  rw[zX]at e
  have:=h1 j ω
  rw[iL ω,e]at this
  exact this
 ·obtain⟨j,hj,e⟩:=fC hy
  rw[dy]at hj
  rw[Fo]at e
  have h3:=h2 ω
  rw[iL ω]at h3
  have h4:=hn y (lZ hy)
  have g: ∀a b c:Int,¬n0 a c→(n0 a b∨a=b)→ ¬du b c→n0 c b:=λa b c h h' Kz=>by
   unfold n0 du at*
   rcases h' with h'|h'<;>omega
  refine g _ _ _ h3 ?_ h4
  by_cases h0:j=0
  ·subst h0;right;rw[←e];rfl
  ·left
   have:=qk.1 hp k (k+j) ω ω ω
   rw[e]at this;exact this
theorem CB{α:Type}{l:List α}{d:α}(g:α→α){i:Nat}(hi:i<l.length):
  ((l.take i).map g++l.drop i).getD i d=l.getD i d∧((l.take i).map g++l.drop i).set i (g (l.getD i d))=(l.take (i+1)).map g++l.drop (i+1)∧(g (l.getD i d)=l.getD i d→(l.take i).map g++l.drop i=(l.take (i+1)).map g++l.drop (i+1)):=by
 have hlen:((l.take i).map g).length=i:=by rw[fE,bE];omega
 have e1:l.drop i=l[i]::l.drop (i+1):=nc hi
 have e2:l.take (i+1)=l.take i++[l[i]]:=(wA hi).symm
 rw[iL hi]
 refine⟨?_,?_,λh=> ?_⟩
 ·rw[aZ,oJ ω,hlen,ri,e1];rfl
 ·rw[Mq _ _ ω,hlen,ri,e1,e2,Fl,dL,bU];rfl
 ·rw[e1,e2,dL,bU,bZ,h];rfl
theorem yp{α:Type}(l:List α)(g:α→α)(i:Nat):((l.take i).map g++l.drop i).length=l.length:=by
 rw[aX,fE,bE,dy];omega
theorem Yf(hN:200000≤N){a:aB}(hl:a.length≤50000)(id:Int):Ok (λr=>r.2=0→dg r.1=true∧ ∀n,jw a n→jw r.1 n) (iw N a id):=by
 have bad: ∀e:Int,e≠0→Ok (λr:aB×Int=>r.2=0→dg r.1=true∧ ∀n,jw a n→jw r.1 n) (some ([],e)):=λe h=>an λh'=>absurd h' h
 have b1:=bad 1 δ
 unfold iw iw.b
 refine bH (mP N ω hN) (bx (λ_=>b1) λhM=>ax (λ_=>b1) λh1=>ax (λ_=>b1) λh2=>bH (ir N ω hN id) (bz (λ_=>bad _ δ) λh0=> ?_))
 obtain⟨hm,hp⟩:=gn.1 hM
 have hn: ∀y∈a,¬du y.1 id:=λy hy e=>(gq hm).2 ⟨y,hy,e⟩ h0
 have fin: ∀k:Nat,k≤a.length→(∀j,j<k→n0 (a.getD j ct).1 id)→(k<a.length→ ¬n0 (a.getD k ct).1 id)→Ok (λr=>r.2=0→dg r.1=true∧ ∀n,jw a n→jw r.1 n) (iw.j9 N a id [] (k:Int)):=λk hk g1 g2=>by
  unfold iw.j9 iw.NL
  refine Lf hk ω λ_=> ?_
  simp only[cM,aF,cT,c9,fD,bU,mh]
  obtain⟨q1,q2⟩:=SX (f:=λx:lT=>x.1) hp g1 g2 hn
  refine⟨gn.2 ⟨λx hx=> ?_,Hv hp q1 q2⟩,λn ⟨y,hy,e⟩=>⟨y,(Bz k).2 (.inr hy),e⟩⟩
  rcases(Bz k).1 hx with rfl|hx
  ·exact⟨h1,h2,(show(1:Int)≤1 by decide),(show(1:Int)≤4 by decide)⟩
  ·exact hm x hx
 refine bg (σ:=Unit) (len:=a.length) (F:=λn i _=>iw.l7 N n a id [] i) (s:=()) (λi _=> ∀j,j<i→n0 (a.getD j ct).1 id) (λj hj=>absurd hj ω) ω (λn i _ hi hI hr=> ?_) (λn _ hI=> ?_)
 all_goals unfold iw.l7 iw.rL
 ·rw[ay (x:=(i:Int)+1) ω ω,ag i]
  refine ax (λ_=>az ⟨ω,ω⟩ (ax (λh=>hr () λj hj=> ?_) λh=>fin i ω hI λ_ h'=> ?_)) λ_=>ω
  ·by_cases e:j=i
   ·subst e;exact h
   ·exact hI j ω
  ·have g: ∀x y:Int,n0 x y→y≤x→False:=λx y h h'=>by unfold n0 at h;omega
   exact g _ _ h' h
 ·exact ax (λ_=>ω) λ_=>fin _ (aI _) hI λh=>absurd h ω
theorem Yg(a b:Int):Ok (λr=>r.2=true→1≤r.1∧r.1≤4) (UC N a b):=by
 have h: ∀(x:Int) (t:Bool),(t=true→1≤x∧x≤4)→Ok (λr:Int×Bool=>r.2=true→1≤r.1∧r.1≤4) (some (x,t)):=λx t hx=>an hx
 unfold UC
 repeat' first|refine ok_eq (λ_=> ?_) (λ_=> ?_)|exact h _ _ δ
def Lx(id v:Int)(x:lT):lT:=if x.1=id then(x.1,(v,x.2.2))else x
theorem Rn(id v:Int)(x:lT):(Lx id v x).1=x.1:=by unfold Lx;split<;>rfl
theorem xD{α:Type}{R:α→α→Prop}{g:α→α}{l:List α}(hp:l.Pairwise R)(h: ∀x∈l,∀y∈l,R x y→R (g x) (g y)):(l.map g).Pairwise R:=by
 rw[wH]
 exact hp.imp_of_mem λhx hy h'=>h _ hx _ hy h'
theorem SY(hN:200000≤N){l:aB}(hl:l.length≤50000)(id k:Int):Ok (λr=>r.2=0→dg r.1=true∧(∀n,jw l n→jw r.1 n)∧jw l id) (lW N l id k):=by
 have bad: ∀e:Int,e≠0→Ok (λr:aB×Int=>r.2=0→dg r.1=true∧(∀n,jw l n→jw r.1 n)∧jw l id) (some ([],e)):=λe h=>an λh'=>absurd h' h
 unfold lW lW.b
 refine bH (mP N ω hN) (bx (λ_=>bad _ δ) λhM=>bH (ir N ω hN _) (ok_eq (λ_=>bad _ δ) λCY=>af (Yg N _ _) λz hz=>bx (λ_=>bad _ δ) λEM=>aE (by rw[bY];omega) ?_))
 obtain⟨hm,hp⟩:=gn.1 hM
 have hz:=hz EM
 rw[cM]
 refine bg (len:=l.length) (F:=λn i s=>lW.Co N n id z.1 s i) (λi s=>s=(l.take i).map (Lx id z.1)++l.drop i) rfl ω (λn i s hi hI hr=> ?_) (λn s hI=> ?_)
 all_goals unfold lW.Co lW.zr
 ·rw[ay (x:=(i:Int)+1) ω ω,ag i]
  obtain⟨s1,s2,s3⟩:=CB (d:=ct) (Lx id z.1) hi
  have hs:s.length=l.length:=by rw[hI];exact yp l _ i
  rw[←hI]at s1 s2 s3
  refine ax (λ_=>az ⟨ω,ω⟩ (ok_eq (λe=>az ⟨ω,ω⟩ (hr _ ?_)) λe=>hr s (s3 ?_))) λ_=>ω
  ·rw[aF,s1]at e ⊢
   rw[←s2]
   unfold Lx;rw[ak e]
  ·rw[aF,s1]at e
   unfold Lx;rw[ah e]
 ·have hs:s.length=l.length:=by rw[hI];exact yp l _ _
  have e:s=l.map (Lx id z.1):=by rw[hI,fD,oX,cN]
  refine ax (λ_=>ω) λ_=>an λ_=> ?_
  dsimp only
  rw[e]
  refine⟨gn.2 ⟨λx hx=> ?_,xD hp λx _ y _ h=> ?_⟩,λn ⟨y,hy,e⟩=>⟨Lx id z.1 y,gi hy,?_⟩,(gq hm).1 CY⟩
  ·obtain⟨y,hy,rfl⟩:=cQ.1 hx
   have h:=hm y hy
   unfold Lx
   split
   ·exact⟨h.1,h.2.1,hz.1,hz.2⟩
   ·exact h
  ·unfold X2;rw[Rn,Rn];exact h
  ·rw[Rn];exact e
def IX(id v:Int)(x:cv):cv:=if x.1=id then(x.1,(x.2.1,(x.2.2.1,(v,x.2.2.2.2))))else x
def Es(id v:Int)(x:cv):cv:=if x.1=id then(x.1,(v,x.2.2))else x
theorem xE(id v:Int)(x:cv):(IX id v x).1=x.1∧(IX id v x).2.1=x.2.1∧(IX id v x).2.2.1=x.2.2.1:=by unfold IX;split<;>exact⟨rfl,rfl,rfl⟩
theorem Hw(id v:Int)(x:cv):(Es id v x).1=x.1∧(Es id v x).2.2=x.2.2:=by unfold Es;split<;>exact⟨rfl,rfl⟩
theorem OO{a:aO}{g:cv→cv}(hg: ∀x,(g x).1=x.1)(n:Int)(h:qG a n):qG (a.map g) n:=by
 obtain⟨y,hy,e⟩:=h
 exact⟨g y,gi hy,by rw[hg];exact e⟩
abbrev sG(m:aB)(a:aO)(r:aO×Int):Prop:=r.2=0→gR r.1=true∧(∀n,qG a n→qG r.1 n)∧ ∀x∈r.1,jw m x.2.1
theorem sG.bad{m:aB}{a:aO}{e:Int}(h:e≠0):Ok (sG m a) (some ([],e)):=an λh'=>absurd h' h
theorem Yh(hN:200000≤N){m:aB}{l:aO}(hl:l.length≤50000)(hm: ∀x∈l,jw m x.2.1)(id q:Int):Ok (sG m l) (nL N l id q):=by
 unfold nL nL.b
 refine bH (uu N ω hN) (bx (λ_=>sG.bad δ) λhA=>ax (λ_=>sG.bad δ) λq0=>ax (λ_=>sG.bad δ) λq1=>bH (rR N ω hN _) (bx (λ_=>sG.bad δ) λ_=>aE (by rw[bY];omega) ?_))
 obtain⟨ha,hp,ht⟩:=pJ.1 hA
 rw[cM]
 refine bg (len:=l.length) (F:=λn i s=>nL.l8 N n id q s i) (λi s=>s=(l.take i).map (IX id q)++l.drop i) rfl ω (λn i s hi hI hr=> ?_) (λn s hI=> ?_)
 all_goals unfold nL.l8 nL.zo
 ·rw[ay (x:=(i:Int)+1) ω ω,ag i]
  obtain⟨s1,s2,s3⟩:=CB (d:=aQ) (IX id q) hi
  have hs:s.length=l.length:=by rw[hI];exact yp l _ i
  rw[←hI]at s1 s2 s3
  refine ax (λ_=>az ⟨ω,ω⟩ (ok_eq (λe=>az ⟨ω,ω⟩ (hr _ ?_)) λe=>hr s (s3 ?_))) λ_=>ω
  ·rw[aF,s1]at e ⊢
   rw[←s2]
   unfold IX;rw[ak e]
  ·rw[aF,s1]at e
   unfold IX;rw[ah e]
 ·have hs:s.length=l.length:=by rw[hI];exact yp l _ _
  have e:s=l.map (IX id q):=by rw[hI,fD,oX,cN]
  refine ax (λ_=>ω) λ_=>an λ_=> ?_
  dsimp only
  rw[e]
  refine⟨pJ.2 ⟨λx hx=> ?_,xD hp λx _ y _ h=> ?_,xD ht λx _ y _ h=> ?_⟩,OO λx=>(xE id q x).1,λx hx=> ?_⟩
  ·obtain⟨y,hy,rfl⟩:=cQ.1 hx
   have h:=ha y hy
   unfold IX
   split
   ·exact⟨h.1,h.2.1,h.2.2.1,q0,q1⟩
   ·exact h
  ·unfold OL;rw[(xE id q x).1,(xE id q y).1];exact h
  ·unfold ntw anI;rw[(xE id q x).2.1,(xE id q y).2.1,(xE id q x).2.2,(xE id q y).2.2];exact h
  ·obtain⟨y,hy,rfl⟩:=cQ.1 hx
   rw[(xE id q y).2.1];exact hm y hy
theorem J7{n:Int}: ∀{l:aO},l.Pairwise OL→ ∀x∈l,du x.1 n→(ur n l).1=x
 |[],_,x,hx,_=>nomatch hx
 |y::t,hp,x,hx,e=>by
  rw[ou]
  rcases bm.1 hx with rfl|hx
  ·rw[ak (show x.1=n from e)]
  ·have h:n0 y.1 x.1:=(gX.1 hp).1 x hx
   have g: ∀a b:Int,n0 a b→du b n→ ¬a=n:=λa b h1 h2=>by unfold n0 du at*;omega
   rw[ah (g _ _ h e)]
   exact J7 (gX.1 hp).2 x hx e
theorem Ro(hN:200000≤N){m:aB}{l:aO}(CT:m.length≤50000)(hl:l.length≤50000)(id to:Int):Ok (sG m l) (nM N m l id to):=by
 unfold nM nM.b
 refine bH (xp N ω ω hN) (bx (λ_=>sG.bad δ) λhR=>bH (rR N ω hN _) (bH (ir N ω hN _) (bx (λ_=>sG.bad δ) λ_=>ok_eq (λ_=>sG.bad δ) λhs=>bz (λ_=>sG.bad δ) λhk=>bz (λ_=>sG.bad δ) λ_=>aE (by rw[bY];omega) ?_)))
 unfold rS at hR
 simp only[bQ,gk,ff]at hR
 obtain⟨hM,hA,hma⟩:=hR
 obtain⟨ha,hp,ht⟩:=pJ.1 hA
 have hmm:=(gn.1 hM).1
 obtain⟨mx,LV,emx⟩:=(gq hmm).1 hs
 have hm: ∀x∈l,jw m x.2.1:=(gO (d:=aQ) (Q:=λx=>jw m x.2.1)).1 λj hj=>(gq hmm).1 (hma j hj)
 rw[cM]
 refine bg (len:=l.length) (F:=λn i s=>nM.oU N n id to s i) (λi s=>s=(l.take i).map (Es id to)++l.drop i) rfl ω (λn i s hi hI hr=> ?_) (λn s hI=> ?_)
 all_goals unfold nM.oU nM.m5
 ·rw[ay (x:=(i:Int)+1) ω ω,ag i]
  obtain⟨s1,s2,s3⟩:=CB (d:=aQ) (Es id to) hi
  have hs:s.length=l.length:=by rw[hI];exact yp l _ i
  rw[←hI]at s1 s2 s3
  refine ax (λ_=>az ⟨ω,ω⟩ (ok_eq (λe=>az ⟨ω,ω⟩ (hr _ ?_)) λe=>hr s (s3 ?_))) λ_=>ω
  ·rw[aF,s1]at e ⊢
   rw[←s2]
   unfold Es;rw[ak e]
  ·rw[aF,s1]at e
   unfold Es;rw[ah e]
 ·have hs:s.length=l.length:=by rw[hI];exact yp l _ _
  have e:s=l.map (Es id to):=by rw[hI,fD,oX,cN]
  refine ax (λ_=>ω) λ_=>an λ_=> ?_
  dsimp only
  rw[e]
  have cl: ∀x∈l,x.1=id→x.2.2.1=2:=λx hx e=>by rw[←J7 hp x hx e];exact hk
  have mo:X3 mx.1 mx.2.1:=hmm mx LV
  have anN:mx.1=to:=emx
  refine⟨pJ.2 ⟨λx hx=> ?_,xD hp λx _ y _ h=> ?_,xD ht λx hx y hy h=> ?_⟩,OO λx=>(Hw id to x).1,λx hx=> ?_⟩
  ·obtain⟨y,hy,rfl⟩:=cQ.1 hx
   have h:=ha y hy
   unfold Es
   split
   ·exact⟨h.1,⟨anN▸mo.1,anN▸mo.2.1⟩,h.2.2⟩
   ·exact h
  ·unfold OL;rw[(Hw id to x).1,(Hw id to y).1];exact h
  ·intro ⟨t1,t2,t3⟩
   rw[(Hw id to x).2]at t1
   rw[(Hw id to y).2]at t2
   have nx: ∀x∈l,du x.2.2.1 1→Es id to x=x:=λx hx e=>by
    unfold Es
    rw[ah]
    intro h'
    have:=cl x hx h'
    have e':x.2.2.1=1:=e
    rw[e']at this;exact absurd this δ
   rw[nx x hx t1,nx y hy t2]at t3
   exact h ⟨t1,t2,t3⟩
  ·obtain⟨y,hy,rfl⟩:=cQ.1 hx
   unfold Es
   split
   ·exact⟨mx,LV,emx⟩
   ·exact hm y hy
theorem DM{n:Int}: ∀{l:aO},(∀x∈l,Ri x)→nC n l=0→ ∀x∈l,du x.2.2.1 1→ ¬du x.2.1 n
 |[],_,_,x,hx,_=>nomatch hx
 |y::t,ha,h,x,hx,e=>by
  rw[s0]at h
  have ih:=DM (n:=n) λz hz=>ha z (a6 _ hz)
  have hy:Ri y:=ha y (bu ..)
  have g: ∀v:Int,1≤v→ ¬v=0:=λv h1 h2=>ω
  by_cases e1:y.2.1=n
  ·rw[ak e1]at h
   by_cases e2:y.2.2.1=1
   ·rw[ak e2]at h;exact absurd h (g _ hy.1.1)
   ·rw[ah e2]at h
    rcases bm.1 hx with rfl|hx
    ·exact absurd e e2
    ·exact ih h x hx e
  ·rw[ah e1]at h
   rcases bm.1 hx with rfl|hx
   ·exact e1
   ·exact ih h x hx e
theorem abu(hN:200000≤N){m:aB}{l:aO}(CT:m.length≤50000)(hl:l.length≤50000)(x:cv):Ok (sG m l) (fc N m l x):=by
 unfold fc fc.b
 refine bH (xp N ω ω hN) (bx (λ_=>sG.bad δ) λhR=>bH (uu N (l:=[x]) (by rw[aJ];omega) hN) (bx (λ_=>sG.bad δ) λhX=>bH (ir N ω hN _) (ok_eq (λ_=>sG.bad δ) λhs=>bz (λ_=>sG.bad δ) λ_=>bH (rR N ω hN _) (sb (λ_=>sG.bad δ) λhf=> ?_))))
 unfold rS at hR
 simp only[bQ,gk,ff]at hR
 obtain⟨hM,hA,hma⟩:=hR
 obtain⟨ha,hp,ht⟩:=pJ.1 hA
 have hmm:=(gn.1 hM).1
 have hx:=(pJ.1 hX).1 x (cg.2 rfl)
 have hxm:=(gq hmm).1 hs
 have hm: ∀x∈l,jw m x.2.1:=(gO (d:=aQ) (Q:=λx=>jw m x.2.1)).1 λj hj=>(gq hmm).1 (hma j hj)
 have hn: ∀y∈l,¬du y.1 x.1:=λy hy e=>by
  have:=Cz.2 ⟨y,hy,e⟩
  rw[hf]at this;exact nomatch this
 have fin:(∀y∈l,ntw y x)→ ∀k:Nat,k≤l.length→(∀j,j<k→n0 (l.getD j aQ).1 x.1)→(k<l.length→ ¬n0 (l.getD k aQ).1 x.1)→Ok (sG m l) (fc.Cp N l x [] (k:Int)):=λhw k hk g1 g2=>by
  unfold fc.Cp fc.wo
  refine Lf hk ω λ_=> ?_
  simp only[cM,aF,cT,c9,fD,bU,mh]
  obtain⟨q1,q2⟩:=SX (f:=λx:cv=>x.1) hp g1 g2 hn
  have tw: ∀y∈l,ntw x y:=λy hy ⟨t1,t2,t3⟩=>hw y hy ⟨t2,t1,Eq.symm t3⟩
  refine⟨pJ.2 ⟨λy hy=> ?_,Hv hp q1 q2,Hv ht (λy hy=>hw y (iH hy)) λy hy=>tw y (lZ hy)⟩,λn ⟨y,hy,e⟩=>⟨y,(Bz k).2 (.inr hy),e⟩,λy hy=> ?_⟩
  ·rcases(Bz k).1 hy with rfl|hy
   ·exact hx
   ·exact ha y hy
  ·rcases(Bz k).1 hy with rfl|hy
   ·exact hxm
   ·exact hm y hy
 have hj:(∀y∈l,ntw y x)→Ok (sG m l) (fc.JW N l x):=λhw=>by
  unfold fc.JW fc.Cs
  refine bg (σ:=Unit) (len:=l.length) (F:=λn i _=>fc.oU N n l x [] i) (s:=()) (λi _=> ∀j,j<i→n0 (l.getD j aQ).1 x.1) (λj hj=>absurd hj ω) ω (λn i _ hi hI hr=> ?_) (λn _ hI=> ?_)
  all_goals unfold fc.oU fc.m5
  ·rw[ay (x:=(i:Int)+1) ω ω,ag i]
   refine ax (λ_=>az ⟨ω,ω⟩ (ax (λh=>hr () λj hj=> ?_) λh=>fin hw i ω hI λ_ h'=> ?_)) λ_=>ω
   ·by_cases e:j=i
    ·subst e;exact h
    ·exact hI j ω
   ·have g: ∀x y:Int,n0 x y→y≤x→False:=λx y h h'=>by unfold n0 at h;omega
    exact g _ _ h' h
  ·exact ax (λ_=>ω) λ_=>fin hw _ (aI _) hI λh=>absurd h ω
 refine ok_eq (λe=>bH (qS N ω hN _) (bz (λ_=>sG.bad δ) λh0=>hj λy hy ⟨t1,_,t3⟩=> ?_)) λe=>hj λy hy ⟨_,t2,_⟩=>e t2
 unfold nD at h0
 rw[ak hA]at h0
 exact DM ha h0 y hy t1 t3
end VM
end
