/- A part of the proof of WindBears of layer 21: what the functions compute, in plain words. -/
import Derived.Test.YtecmobijochjkaaGreatPlain6
import Derived.Test.YtecmobijochjkaaGreatPlain4
set_option linter.all false
section
namespace VM
open Go VM.F
theorem ia{α:Type}{l:List α}{d:α}{i:Nat}(h:i<l.length):l.getD i d=l[i]:=by
 rw[aU,bl h];rfl
theorem gN{α:Type}{d:α}{l:List α}{Q:α→Prop}:(∀j,j<l.length→Q (l.getD j d))↔ ∀x∈l,Q x:=
 ⟨λh x hx=>by
  obtain⟨i,hi,e⟩:=gm hx
  rw[←e,←ia (d:=d) hi];exact h i hi,λh j hj=>h _ (pt hj)⟩
theorem qD{α:Type}{d:α}{R:α→α→Prop}(tr: ∀a b c,R a b→R b c→R a c): ∀l:List α,(∀j,j<l.length→0<j→R (l.getD (j-1) d) (l.getD j d))↔l.Pairwise R
 |[]=>⟨λ_=>List.Pairwise.nil,λ_ j hj=>nomatch hj⟩
 |[x]=>⟨λ_=>En R x,λ_ j hj h0=>by have:j<1:=hj;omega⟩
 |x::y::t=>by
  rw[dZ,←qD tr (y::t)]
  constructor
  ·intro h
   have Y4:R x y:=h 1 (by simp) ω
   have ht: ∀j,j<(y::t).length→0<j→R ((y::t).getD (j-1) d) ((y::t).getD j d):=λj hj h0=>by
    have:=h (j+1) (by simpa using hj) ω
    obtain⟨k,rfl⟩: ∃k,j=k+1:=⟨j-1,ω⟩
    exact this
   have hp:=(qD tr (y::t)).1 ht
   refine⟨λz hz=> ?_,ht⟩
   rcases aX.1 hz with rfl|hz
   ·exact Y4
   ·exact tr _ _ _ Y4 ((dZ.1 hp).1 z hz)
  ·rintro⟨h1,h2⟩ j hj h0
   obtain⟨k,rfl⟩: ∃k,j=k+1:=⟨j-1,ω⟩
   cases k with
   |zero=>exact h1 y (bg ..)
   |succ k=>exact h2 (k+1) (by simpa using hj) ω
def XR(x y:ym):Prop:=mQ x.1 y.1
def C8(x y:bM):Prop:=mQ x.1 y.1
def Jq(x y:gA):Prop:=mQ x.1 y.1
theorem Gw{a b c:Int}(h1:mQ a b)(h2:mQ b c):mQ a c:=Int.lt_trans h1 h2
def XS(a b:Int):Prop:=1≤a∧a≤12∧1≤b∧b≤4
theorem gy{m:aE}:dp m=true↔(∀x∈m,XS x.1 x.2.1)∧m.Pairwise XR:=by
 unfold dp
 rw[fX,fg,←qD (R:=XR) (d:=cA) (λ_ _ _=>Gw),←gN (d:=cA)]
 exact⟨λh=>⟨λj hj=>⟨(h j hj).1,(h j hj).2.1,(h j hj).2.2.1,(h j hj).2.2.2.1⟩,λj hj h0=>(h j hj).2.2.2.2 h0⟩,λh j hj=>⟨(h.1 j hj).1,(h.1 j hj).2.1,(h.1 j hj).2.2.1,(h.1 j hj).2.2.2,λh0=>h.2 j hj h0⟩⟩
def am0(x y:bM):Prop:=dw x.2.2.1 1∧dw y.2.2.1 1∧dw x.2.1 y.2.1
def Q0(x:bM):Prop:=mu x.1 x.2.1 x.2.2.1 x.2.2.2.1
def ntw(x y:bM):Prop:= ¬am0 x y
theorem nP{a:aL}:fC a=true↔(∀x∈a,Q0 x)∧a.Pairwise C8∧a.Pairwise ntw:=by
 unfold fC
 rw[fX,fg,←qD (R:=C8) (d:=aV) (λ_ _ _=>Gw),←gN (d:=aV),uq]
 constructor
 ·refine λh=>⟨λj hj=>(h j hj).1,λj hj h0=>(h j hj).2.1 h0,λi j hi hj pQ ht=>(h j hj).2.2 ⟨?_,wZ.2 ⟨i,pQ,?_,?_⟩⟩⟩
  ·rw[ia hj];exact ht.2.1
  ·rw[ia hi];exact ht.1
  ·rw[ia hi,ia hj];exact ht.2.2
 ·rintro⟨h1,h2,h3⟩ j hj
  refine⟨h1 j hj,λh0=>h2 j hj h0,λ⟨ht,ho⟩=> ?_⟩
  obtain⟨i,pQ,e1,e2⟩:=wZ.1 ho
  rw[ia hj]at ht e2
  rw[ia (show i<a.length by omega)]at e1 e2
  exact h3 i j ω hj pQ ⟨e1,ht,e2⟩
theorem kB{l:bB}:ei l=true↔(∀x∈l,rm x)∧l.Pairwise Jq∧l.length≤32:=by
 unfold ei
 rw[cK,fg,fg,←qD (R:=Jq) (d:=fm) (λ_ _ _=>Gw),←gN (d:=fm)]
 exact⟨λh=>⟨λj hj=>(h.1 j hj).1,λj hj h0=>(h.1 j hj).2 h0,h.2⟩,λh=>⟨λj hj=>⟨h.1 j hj,λh0=>h.2.1 j hj h0⟩,h.2.2⟩⟩
def jn(m:aE)(n:Int):Prop:= ∃x∈m,dw x.1 n
def ql(a:aL)(n:Int):Prop:= ∃x∈a,dw x.1 n
theorem gz{n:Int}: ∀{m:aE},(∀x∈m,XS x.1 x.2.1)→(¬dw (jM n m) 0↔jn m n)
 |[],_=>⟨λh=>absurd rfl h,λ⟨_,h,_⟩=>nomatch h⟩
 |x::t,h=>by
  have ih:=gz (n:=n) λy hy=>h y (aY _ hy)
  have hx:=h x (bg ..)
  rw[uS]
  by_cases e:x.1=n
  ·rw[aj e]
   have g: ∀v:Int,1≤v→ ¬dw v 0:=λv h1 h2=>by unfold dw at h2;omega
   exact⟨λ_=>⟨x,bg ..,e⟩,λ_=>g _ hx.2.2.1⟩
  ·rw[ah e,ih]
   exact⟨λ⟨y,hy,h⟩=>⟨y,aY _ hy,h⟩,λ⟨y,hy,h'⟩=>(aX.1 hy).elim (λk=>absurd (k▸h') e) λhy=>⟨y,hy,h'⟩⟩
theorem B5{n:Int}: ∀{a:aL},(tR n a).2=true↔ql a n
 |[]=>⟨λh=>(nomatch h),λ⟨_,h,_⟩=>nomatch h⟩
 |x::t=>by
  rw[oq]
  by_cases e:x.1=n
  ·rw[aj e]
   exact⟨λ_=>⟨x,bg ..,e⟩,λ_=>rfl⟩
  ·rw[ah e,B5]
   exact⟨λ⟨y,hy,h⟩=>⟨y,aY _ hy,h⟩,λ⟨y,hy,h'⟩=>(aX.1 hy).elim (λk=>absurd (k▸h') e) λhy=>⟨y,hy,h'⟩⟩
theorem vf{m:aE}(h:dp m=true)(n:Int): ¬dw (eL m n) 0↔jn m n:=by
 unfold eL;rw[aj h];exact gz (gy.1 h).1
theorem nQ{a:aL}(h:fC a=true)(n:Int):(fe a n).2=true↔ql a n:=by
 unfold fe;rw[aj h];exact B5
def jx(m:aE)(a:aL)(k n:Int):Prop:=(dw k 5→ql a n)∧(dw k 6∨dw k 7→jn m n)
def yL(c:ae)(a:aL)(k n:Int):Prop:=(dw k 0∨ql a k)∧mQ n c.1.length
def Gx(c:ae)(a:aL)(x:gA):Prop:=ql a x.2.1∧mQ x.2.2.1 c.1.length
theorem K4{m:aE}{a:aL}(hm:dp m=true)(ha:fC a=true){k n:Int}:Gt m a k n↔jx m a k n:=by
 unfold Gt jx;rw[nQ ha,vf hm]
theorem K5{c:ae}{a:aL}(ha:fC a=true){k n:Int}:Gu c a k n↔yL c a k n:=by
 unfold Gu yL;rw[nQ ha]
structure RB(C:ae)(b:an):Prop where
 c:fB C=true
 m:dp b.1=true
 a:fC b.2.1=true
 ma: ∀x∈b.2.1,jn b.1 x.2.1
 r:eC b.2.2.1=true
 t:dw (gK b.2.2.1) 0
 s:ov b.2.2.2.1=true
 o:ei b.2.2.2.2.2.1=true
 n:dw b.2.2.2.2.1.length C.1.length
 rk: ∀x∈b.2.2.1,jx b.1 b.2.1 x.1 x.2.1
 sk: ∀x∈b.2.2.2.1,yL C b.2.1 x.1 x.2.1
 ok: ∀x∈b.2.2.2.2.2.1,Gx C b.2.1 x
 p:eW b.2.2.2.2.1=true
theorem oF{c:ae}{b:an}:dx c b=true↔RB c b:=by
 unfold dx pG
 simp only[bQ,fX,fg]
 constructor
 ·rintro⟨b1,⟨b2,b2',aid⟩,b3,b4,b5,b6,b7,b8,b9,b10,b11⟩
  refine⟨b1,b2,b2',?_,b3,b4,b5,b6,b7,?_,?_,?_,b11⟩
  ·exact(gN (d:=aV) (Q:=λx=>jn b.1 x.2.1)).1 λj hj=>(gz (gy.1 b2).1).1 (aid j hj)
  ·exact(gN (d:=bm) (Q:=λx=>jx b.1 b.2.1 x.1 x.2.1)).1 λj hj=>(K4 b2 b2').1 (b8 j hj)
  ·exact(gN (d:=bm) (Q:=λx=>yL c b.2.1 x.1 x.2.1)).1 λj hj=>(K5 b2').1 (b9 j hj)
  ·exact(gN (d:=fm) (Q:=λx=>Gx c b.2.1 x)).1 λj hj=>⟨(nQ b2' _).1 (b10 j hj).1,(b10 j hj).2⟩
 ·rintro⟨b1,b2,b2',aid,b3,b4,b5,b6,b7,b8,b9,b10,b11⟩
  refine⟨b1,⟨b2,b2',?_⟩,b3,b4,b5,b6,b7,?_,?_,?_,b11⟩
  ·exact λj hj=>(gz (gy.1 b2).1).2 ((gN (d:=aV) (Q:=λx=>jn b.1 x.2.1)).2 aid j hj)
  ·exact λj hj=>(K4 b2 b2').2 ((gN (d:=bm) (Q:=λx=>jx b.1 b.2.1 x.1 x.2.1)).2 b8 j hj)
  ·exact λj hj=>(K5 b2').2 ((gN (d:=bm) (Q:=λx=>yL c b.2.1 x.1 x.2.1)).2 b9 j hj)
  ·exact λj hj=>let h:=(gN (d:=fm) (Q:=λx=>Gx c b.2.1 x)).2 b10 j hj;⟨(nQ b2' _).2 h.1,h.2⟩
theorem RB.UI{c:ae}{b:an}(h:RB c b){m:aE}{a:aL}(hm:dp m=true)(ha:fC a=true)(mm: ∀n,jn b.1 n→jn m n)(aa: ∀n,ql b.2.1 n→ql a n)(ma: ∀x∈a,jn m x.2.1):
  RB c (m,(a,b.2.2)):=
 ⟨h.c,hm,ha,ma,h.r,h.t,h.s,h.o,h.n,λx hx=>⟨λe=>aa _ ((h.rk x hx).1 e),λe=>mm _ ((h.rk x hx).2 e)⟩,λx hx=>⟨(h.sk x hx).1.imp id (aa _),(h.sk x hx).2⟩,λx hx=>⟨aa _ (h.ok x hx).1,(h.ok x hx).2⟩,h.p⟩
theorem RB.K6{c:ae}{b:an}(h:RB c b){o:bB}(ho:ei o=true)(hk: ∀x∈o,Gx c b.2.1 x):RB c (b.1,(b.2.1,(b.2.2.1,(b.2.2.2.1,(b.2.2.2.2.1,(o,())))))):=
 ⟨h.c,h.m,h.a,h.ma,h.r,h.t,h.s,ho,h.n,h.rk,h.sk,hk,h.p⟩
theorem RB.am2{c:ae}{b:an}(h:RB c b){s e s' r':au}(h1:eh Fq (fS b.2.2.2.1 s) jC=some s')(h2:eh aD (fS b.2.2.1 e) nC=some r')
  (gs: ∀x∈s,bG x.1 x.2.1∧yL c b.2.1 x.1 x.2.1) (flat: ∀i:Int,(c6 i s).sum=0) (ge: ∀x∈e,cS x.1 x.2.1∧jx b.1 b.2.1 x.1 x.2.1) (zero:(e.map ed).sum=0):RB c (b.1,(b.2.1,(r',(s',b.2.2.2.2)))):=
 oF.1 (K3 (oF.2 h) h1 h2 (λx hx=>⟨(gs x hx).1,(K5 h.a).2 (gs x hx).2⟩) flat (λx hx=>⟨(ge x hx).1,(K4 h.m h.a).2 (ge x hx).2⟩) zero)
abbrev RBs(c:ae)(b b':an):Prop:=RB c b'∧b'.1=b.1∧b'.2.1=b.2.1∧b'.2.2.2.2=b.2.2.2.2
theorem RB.ew{c:ae}{b:an}(h:RB c b){s e:au}(gs: ∀x∈s,bG x.1 x.2.1∧yL c b.2.1 x.1 x.2.1)(flat: ∀i:Int,(c6 i s).sum=0)
  (ge: ∀x∈e,cS x.1 x.2.1∧jx b.1 b.2.1 x.1 x.2.1) (zero:(e.map ed).sum=0) (h0:(VM.ew b s e).2=0):RBs c b (VM.ew b s e).1:=by
 rcases Gm b s e with⟨h1,_⟩|⟨s',r',h1,h2,h3⟩
 ·rw[h1]at h0;exact absurd h0 δ
 ·rw[h3];exact⟨h.am2 h1 h2 gs flat ge zero,rfl,rfl,rfl⟩
theorem UJ{l:au}(h:cQ l=true): ∀x∈l,ed x≠0:=by
 unfold cQ at h
 rw[fX]at h
 exact(gN (d:=bm) (Q:=λx=>ed x≠0)).1 λj hj=>((bz h) j hj).2.1
theorem XT{l:au}(h:cQ l=true)(a i:Int):dN l a i=bZ a i l:=by
 unfold dN;rw[aj h,qz (dC h).1]
end VM
end
section
namespace VM
open Go VM.F
theorem Ok.and{α:Type}{P Q:α→Prop}{o:Option α}(h1:Ok P o)(h2:Ok Q o):Ok (λr=>P r∧Q r) o:=by
 obtain⟨r,e,hr⟩:=h1
 obtain⟨q,e',hq⟩:=h2
 rw[e]at e'
 exact⟨r,e,hr,(oJ e')▸hq⟩
theorem A6{α:Type}{l:List α}{x y:α}(k:Nat):y∈l.take k++x::l.drop k↔y=x∨y∈l:=by
 have e:y∈l↔y∈l.take k∨y∈l.drop k:=by rw[←ba,gl]
 rw[e,ba,aX]
 constructor
 ·rintro(h|h|h)
  ·exact .inr (.inl h)
  ·exact .inl h
  ·exact .inr (.inr h)
 ·rintro(h|h|h)
  ·exact .inr (.inl h)
  ·exact .inl h
  ·exact .inr (.inr h)
theorem Gy{α:Type}{R:α→α→Prop}{l:List α}{x:α}{k:Nat}(hp:l.Pairwise R)(h1: ∀y∈l.take k,R y x)(h2: ∀y∈l.drop k,R x y):(l.take k++x::l.drop k).Pairwise R:=by
 rw[←gl k l,vT]at hp
 rw[vT,dZ]
 exact⟨hp.1,⟨h2,hp.2.1⟩,λa ha b hb=>by
  rcases aX.1 hb with rfl|hb
  ·exact h1 a ha
  ·exact hp.2.2 a ha b hb⟩
theorem SL{α:Type}{l:List α}{d:α}{f:α→Int}(hp:l.Pairwise λa b=>mQ (f a) (f b)){v:Int}{k:Nat}(h1: ∀j,j<k→mQ (f (l.getD j d)) v)(h2:k<l.length→ ¬mQ (f (l.getD k d)) v)(hn: ∀y∈l,¬dw (f y) v):
  (∀y∈l.take k,mQ (f y) v)∧ ∀y∈l.drop k,mQ v (f y):=by
 refine⟨λy hy=> ?_,λy hy=> ?_⟩
 ·obtain⟨j,hj,e⟩:=gm hy
  rw[cf]at hj
  rw[Ex]at e
  have:=h1 j ω
  rw[ia ω,e]at this
  exact this
 ·obtain⟨j,hj,e⟩:=gm hy
  rw[dS]at hj
  rw[Ew]at e
  have h3:=h2 ω
  rw[ia ω]at h3
  have h4:=hn y (mX hy)
  have g: ∀a b c:Int,¬mQ a c→(mQ a b∨a=b)→ ¬dw b c→mQ c b:=λa b c h h' J9=>by
   unfold mQ dw at*
   rcases h' with h'|h'<;>omega
  refine g _ _ _ h3 ?_ h4
  by_cases h0:j=0
  ·subst h0;right;rw[←e];rfl
  ·left
   have:=uq.1 hp k (k+j) ω ω ω
   rw[e]at this;exact this
theorem B6{α:Type}{l:List α}{d:α}(g:α→α){i:Nat}(hi:i<l.length):
  ((l.take i).map g++l.drop i).getD i d=l.getD i d∧((l.take i).map g++l.drop i).set i (g (l.getD i d))=(l.take (i+1)).map g++l.drop (i+1)∧(g (l.getD i d)=l.getD i d→(l.take i).map g++l.drop i=(l.take (i+1)).map g++l.drop (i+1)):=by
 have hlen:((l.take i).map g).length=i:=by rw[cy,cf];omega
 have e1:l.drop i=l[i]::l.drop (i+1):=pW hi
 have e2:l.take (i+1)=l.take i++[l[i]]:=(pX hi).symm
 rw[ia hi]
 refine⟨?_,?_,λh=> ?_⟩
 ·rw[aU,oI ω,hlen,tA,e1];rfl
 ·rw[Md _ _ ω,hlen,tA,e1,e2,List.set_cons_zero,cZ,bu];rfl
 ·rw[e1,e2,cZ,bu,bW,h];rfl
theorem xX{α:Type}(l:List α)(g:α→α)(i:Nat):((l.take i).map g++l.drop i).length=l.length:=by
 rw[aS,cy,cf,dS];omega
theorem XU(N:Nat)(hN:200000≤N){a:aE}(hl:a.length≤50000)(id:Int):Ok (λr=>r.2=0→dp r.1=true∧ ∀n,jn a n→jn r.1 n) (iu N a id):=by
 have bad: ∀e:Int,e≠0→Ok (λr:aE×Int=>r.2=0→dp r.1=true∧ ∀n,jn a n→jn r.1 n) (some ([],e)):=λe h=>ak λh'=>absurd h' h
 have b1:=bad 1 δ
 unfold iu iu.b
 refine bo (mF N ω hN) (bw (λ_=>b1) λhM=>aw (λ_=>b1) λh1=>aw (λ_=>b1) λh2=>bo (il N ω hN id) (bq (λ_=>bad _ δ) λh0=> ?_))
 obtain⟨hm,hp⟩:=gy.1 hM
 have hn: ∀y∈a,¬dw y.1 id:=λy hy e=>(gz hm).2 ⟨y,hy,e⟩ h0
 have fin: ∀k:Nat,k≤a.length→(∀j,j<k→mQ (a.getD j cA).1 id)→(k<a.length→ ¬mQ (a.getD k cA).1 id)→Ok (λr=>r.2=0→dp r.1=true∧ ∀n,jn a n→jn r.1 n) (iu.j9 N a id [] (k:Int)):=λk hk g1 g2=>by
  unfold iu.j9 iu.Nl
  refine KV hk ω λ_=> ?_
  simp only[cL,aJ,dr,c0,iD,bu,kJ]
  obtain⟨q1,q2⟩:=SL (f:=λx:ym=>x.1) hp g1 g2 hn
  refine⟨gy.2 ⟨λx hx=> ?_,Gy hp q1 q2⟩,λn ⟨y,hy,e⟩=>⟨y,(A6 k).2 (.inr hy),e⟩⟩
  rcases(A6 k).1 hx with rfl|hx
  ·exact⟨h1,h2,(show(1:Int)≤1 by decide),(show(1:Int)≤4 by decide)⟩
  ·exact hm x hx
 refine bc (σ:=Unit) (len:=a.length) (F:=λn i _=>iu.l7 N n a id [] i) (s:=()) (λi _=> ∀j,j<i→mQ (a.getD j cA).1 id) (λj hj=>absurd hj ω) ω (λn i _ hi hI hr=> ?_) (λn _ hI=> ?_)
 all_goals unfold iu.l7 iu.rj
 ·rw[ay (x:=(i:Int)+1) ω ω,ag i]
  refine aw (λ_=>aB ⟨ω,ω⟩ (aw (λh=>hr () λj hj=> ?_) λh=>fin i ω hI λ_ h'=> ?_)) λ_=>ω
  ·by_cases e:j=i
   ·subst e;exact h
   ·exact hI j ω
  ·have g: ∀x y:Int,mQ x y→y≤x→False:=λx y h h'=>by unfold mQ at h;omega
   exact g _ _ h' h
 ·exact aw (λ_=>ω) λ_=>fin _ (aG _) hI λh=>absurd h ω
theorem XV(N:Nat)(a b:Int):Ok (λr=>r.2=true→1≤r.1∧r.1≤4) (Uo N a b):=by
 have h: ∀(x:Int) (t:Bool),(t=true→1≤x∧x≤4)→Ok (λr:Int×Bool=>r.2=true→1≤r.1∧r.1≤4) (some (x,t)):=λx t hx=>ak hx
 unfold Uo
 repeat' first|refine ok_eq (λ_=> ?_) (λ_=> ?_)|exact h _ _ δ
def K7(id v:Int)(x:ym):ym:=if x.1=id then(x.1,(v,x.2.2))else x
theorem Q1(id v:Int)(x:ym):(K7 id v x).1=x.1:=by unfold K7;split<;>rfl
theorem xh{α:Type}{R:α→α→Prop}{g:α→α}{l:List α}(hp:l.Pairwise R)(h: ∀x∈l,∀y∈l,R x y→R (g x) (g y)):(l.map g).Pairwise R:=by
 rw[tj]
 exact hp.imp_of_mem λhx hy h'=>h _ hx _ hy h'
theorem SM(N:Nat)(hN:200000≤N){l:aE}(hl:l.length≤50000)(id k:Int):Ok (λr=>r.2=0→dp r.1=true∧(∀n,jn l n→jn r.1 n)∧jn l id) (lL N l id k):=by
 have bad: ∀e:Int,e≠0→Ok (λr:aE×Int=>r.2=0→dp r.1=true∧(∀n,jn l n→jn r.1 n)∧jn l id) (some ([],e)):=λe h=>ak λh'=>absurd h' h
 unfold lL lL.b
 refine bo (mF N ω hN) (bw (λ_=>bad _ δ) λhM=>bo (il N ω hN _) (ok_eq (λ_=>bad _ δ) λHb=>af (XV N _ _) λz hz=>bw (λ_=>bad _ δ) λHg=>aC (by rw[bT];omega) ?_))
 obtain⟨hm,hp⟩:=gy.1 hM
 have hz:=hz Hg
 rw[cL]
 refine bc (len:=l.length) (F:=λn i s=>lL.BY N n id z.1 s i) (λi s=>s=(l.take i).map (K7 id z.1)++l.drop i) rfl ω (λn i s hi hI hr=> ?_) (λn s hI=> ?_)
 all_goals unfold lL.BY lL.zg
 ·rw[ay (x:=(i:Int)+1) ω ω,ag i]
  obtain⟨s1,s2,s3⟩:=B6 (d:=cA) (K7 id z.1) hi
  have hs:s.length=l.length:=by rw[hI];exact xX l _ i
  rw[←hI]at s1 s2 s3
  refine aw (λ_=>aB ⟨ω,ω⟩ (ok_eq (λe=>aB ⟨ω,ω⟩ (hr _ ?_)) λe=>hr s (s3 ?_))) λ_=>ω
  ·rw[aJ,s1]at e ⊢
   rw[←s2]
   unfold K7;rw[aj e]
  ·rw[aJ,s1]at e
   unfold K7;rw[ah e]
 ·have hs:s.length=l.length:=by rw[hI];exact xX l _ _
  have e:s=l.map (K7 id z.1):=by rw[hI,iD,mZ,ck]
  refine aw (λ_=>ω) λ_=>ak λ_=> ?_
  dsimp only
  rw[e]
  refine⟨gy.2 ⟨λx hx=> ?_,xh hp λx _ y _ h=> ?_⟩,λn ⟨y,hy,e⟩=>⟨K7 id z.1 y,eS hy,?_⟩,(gz hm).1 Hb⟩
  ·obtain⟨y,hy,rfl⟩:=cD.1 hx
   have h:=hm y hy
   unfold K7
   split
   ·exact⟨h.1,h.2.1,hz.1,hz.2⟩
   ·exact h
  ·unfold XR;rw[Q1,Q1];exact h
  ·rw[Q1];exact e
def H4(id v:Int)(x:bM):bM:=if x.1=id then(x.1,(x.2.1,(x.2.2.1,(v,x.2.2.2.2))))else x
def DL(id v:Int)(x:bM):bM:=if x.1=id then(x.1,(v,x.2.2))else x
theorem xi(id v:Int)(x:bM):(H4 id v x).1=x.1∧(H4 id v x).2.1=x.2.1∧(H4 id v x).2.2.1=x.2.2.1:=by unfold H4;split<;>exact⟨rfl,rfl,rfl⟩
theorem Gz(id v:Int)(x:bM):(DL id v x).1=x.1∧(DL id v x).2.2=x.2.2:=by unfold DL;split<;>exact⟨rfl,rfl⟩
theorem N9{a:aL}{g:bM→bM}(hg: ∀x,(g x).1=x.1)(n:Int)(h:ql a n):ql (a.map g) n:=by
 obtain⟨y,hy,e⟩:=h
 exact⟨g y,eS hy,by rw[hg];exact e⟩
abbrev se(m:aE)(a:aL)(r:aL×Int):Prop:=r.2=0→fC r.1=true∧(∀n,ql a n→ql r.1 n)∧ ∀x∈r.1,jn m x.2.1
theorem se.bad{m:aE}{a:aL}{e:Int}(h:e≠0):Ok (se m a) (some ([],e)):=ak λh'=>absurd h' h
theorem XW(N:Nat)(hN:200000≤N){m:aE}{l:aL}(hl:l.length≤50000)(hm: ∀x∈l,jn m x.2.1)(id q:Int):Ok (se m l) (nI N l id q):=by
 unfold nI nI.b
 refine bo (tS N ω hN) (bw (λ_=>se.bad δ) λhA=>aw (λ_=>se.bad δ) λq0=>aw (λ_=>se.bad δ) λq1=>bo (rn N ω hN _) (bw (λ_=>se.bad δ) λ_=>aC (by rw[bT];omega) ?_))
 obtain⟨ha,hp,ht⟩:=nP.1 hA
 rw[cL]
 refine bc (len:=l.length) (F:=λn i s=>nI.l8 N n id q s i) (λi s=>s=(l.take i).map (H4 id q)++l.drop i) rfl ω (λn i s hi hI hr=> ?_) (λn s hI=> ?_)
 all_goals unfold nI.l8 nI.yn
 ·rw[ay (x:=(i:Int)+1) ω ω,ag i]
  obtain⟨s1,s2,s3⟩:=B6 (d:=aV) (H4 id q) hi
  have hs:s.length=l.length:=by rw[hI];exact xX l _ i
  rw[←hI]at s1 s2 s3
  refine aw (λ_=>aB ⟨ω,ω⟩ (ok_eq (λe=>aB ⟨ω,ω⟩ (hr _ ?_)) λe=>hr s (s3 ?_))) λ_=>ω
  ·rw[aJ,s1]at e ⊢
   rw[←s2]
   unfold H4;rw[aj e]
  ·rw[aJ,s1]at e
   unfold H4;rw[ah e]
 ·have hs:s.length=l.length:=by rw[hI];exact xX l _ _
  have e:s=l.map (H4 id q):=by rw[hI,iD,mZ,ck]
  refine aw (λ_=>ω) λ_=>ak λ_=> ?_
  dsimp only
  rw[e]
  refine⟨nP.2 ⟨λx hx=> ?_,xh hp λx _ y _ h=> ?_,xh ht λx _ y _ h=> ?_⟩,N9 λx=>(xi id q x).1,λx hx=> ?_⟩
  ·obtain⟨y,hy,rfl⟩:=cD.1 hx
   have h:=ha y hy
   unfold H4
   split
   ·exact⟨h.1,h.2.1,h.2.2.1,q0,q1⟩
   ·exact h
  ·unfold C8;rw[(xi id q x).1,(xi id q y).1];exact h
  ·unfold ntw am0;rw[(xi id q x).2.1,(xi id q y).2.1,(xi id q x).2.2,(xi id q y).2.2];exact h
  ·obtain⟨y,hy,rfl⟩:=cD.1 hx
   rw[(xi id q y).2.1];exact hm y hy
theorem Jr{n:Int}: ∀{l:aL},l.Pairwise C8→ ∀x∈l,dw x.1 n→(tR n l).1=x
 |[],_,x,hx,_=>nomatch hx
 |y::t,hp,x,hx,e=>by
  rw[oq]
  rcases aX.1 hx with rfl|hx
  ·rw[aj (show x.1=n from e)]
  ·have h:mQ y.1 x.1:=(dZ.1 hp).1 x hx
   have g: ∀a b:Int,mQ a b→dw b n→ ¬a=n:=λa b h1 h2=>by unfold mQ dw at*;omega
   rw[ah (g _ _ h e)]
   exact Jr (dZ.1 hp).2 x hx e
theorem Q2(N:Nat)(hN:200000≤N){m:aE}{l:aL}(G9:m.length≤50000)(hl:l.length≤50000)(id to:Int):Ok (se m l) (nJ N m l id to):=by
 unfold nJ nJ.b
 refine bo (w3 N ω ω hN) (bw (λ_=>se.bad δ) λhR=>bo (rn N ω hN _) (bo (il N ω hN _) (bw (λ_=>se.bad δ) λ_=>ok_eq (λ_=>se.bad δ) λhs=>bq (λ_=>se.bad δ) λhk=>bq (λ_=>se.bad δ) λ_=>aC (by rw[bT];omega) ?_)))
 unfold pG at hR
 simp only[bQ,fX,fg]at hR
 obtain⟨hM,hA,hma⟩:=hR
 obtain⟨ha,hp,ht⟩:=nP.1 hA
 have hmm:=(gy.1 hM).1
 obtain⟨mx,Hw,emx⟩:=(gz hmm).1 hs
 have hm: ∀x∈l,jn m x.2.1:=(gN (d:=aV) (Q:=λx=>jn m x.2.1)).1 λj hj=>(gz hmm).1 (hma j hj)
 rw[cL]
 refine bc (len:=l.length) (F:=λn i s=>nJ.nW N n id to s i) (λi s=>s=(l.take i).map (DL id to)++l.drop i) rfl ω (λn i s hi hI hr=> ?_) (λn s hI=> ?_)
 all_goals unfold nJ.nW nJ.mR
 ·rw[ay (x:=(i:Int)+1) ω ω,ag i]
  obtain⟨s1,s2,s3⟩:=B6 (d:=aV) (DL id to) hi
  have hs:s.length=l.length:=by rw[hI];exact xX l _ i
  rw[←hI]at s1 s2 s3
  refine aw (λ_=>aB ⟨ω,ω⟩ (ok_eq (λe=>aB ⟨ω,ω⟩ (hr _ ?_)) λe=>hr s (s3 ?_))) λ_=>ω
  ·rw[aJ,s1]at e ⊢
   rw[←s2]
   unfold DL;rw[aj e]
  ·rw[aJ,s1]at e
   unfold DL;rw[ah e]
 ·have hs:s.length=l.length:=by rw[hI];exact xX l _ _
  have e:s=l.map (DL id to):=by rw[hI,iD,mZ,ck]
  refine aw (λ_=>ω) λ_=>ak λ_=> ?_
  dsimp only
  rw[e]
  have cl: ∀x∈l,x.1=id→x.2.2.1=2:=λx hx e=>by rw[←Jr hp x hx e];exact hk
  have mo:XS mx.1 mx.2.1:=hmm mx Hw
  have am3:mx.1=to:=emx
  refine⟨nP.2 ⟨λx hx=> ?_,xh hp λx _ y _ h=> ?_,xh ht λx hx y hy h=> ?_⟩,N9 λx=>(Gz id to x).1,λx hx=> ?_⟩
  ·obtain⟨y,hy,rfl⟩:=cD.1 hx
   have h:=ha y hy
   unfold DL
   split
   ·exact⟨h.1,⟨am3▸mo.1,am3▸mo.2.1⟩,h.2.2⟩
   ·exact h
  ·unfold C8;rw[(Gz id to x).1,(Gz id to y).1];exact h
  ·intro ⟨t1,t2,t3⟩
   rw[(Gz id to x).2]at t1
   rw[(Gz id to y).2]at t2
   have nx: ∀x∈l,dw x.2.2.1 1→DL id to x=x:=λx hx e=>by
    unfold DL
    rw[ah]
    intro h'
    have:=cl x hx h'
    have e':x.2.2.1=1:=e
    rw[e']at this;exact absurd this δ
   rw[nx x hx t1,nx y hy t2]at t3
   exact h ⟨t1,t2,t3⟩
  ·obtain⟨y,hy,rfl⟩:=cD.1 hx
   unfold DL
   split
   ·exact⟨mx,Hw,emx⟩
   ·exact hm y hy
theorem C9{n:Int}: ∀{l:aL},(∀x∈l,Q0 x)→nq n l=0→ ∀x∈l,dw x.2.2.1 1→ ¬dw x.2.1 n
 |[],_,_,x,hx,_=>nomatch hx
 |y::t,ha,h,x,hx,e=>by
  rw[sJ]at h
  have ih:=C9 (n:=n) λz hz=>ha z (aY _ hz)
  have hy:Q0 y:=ha y (bg ..)
  have g: ∀v:Int,1≤v→ ¬v=0:=λv h1 h2=>ω
  by_cases e1:y.2.1=n
  ·rw[aj e1]at h
   by_cases e2:y.2.2.1=1
   ·rw[aj e2]at h;exact absurd h (g _ hy.1.1)
   ·rw[ah e2]at h
    rcases aX.1 hx with rfl|hx
    ·exact absurd e e2
    ·exact ih h x hx e
  ·rw[ah e1]at h
   rcases aX.1 hx with rfl|hx
   ·exact e1
   ·exact ih h x hx e
theorem aa8(N:Nat)(hN:200000≤N){m:aE}{l:aL}(G9:m.length≤50000)(hl:l.length≤50000)(x:bM):Ok (se m l) (ff N m l x):=by
 unfold ff ff.b
 refine bo (w3 N ω ω hN) (bw (λ_=>se.bad δ) λhR=>bo (tS N (l:=[x]) (by rw[aI];omega) hN) (bw (λ_=>se.bad δ) λhX=>bo (il N ω hN _) (ok_eq (λ_=>se.bad δ) λhs=>bq (λ_=>se.bad δ) λ_=>bo (rn N ω hN _) (pj (λ_=>se.bad δ) λhf=> ?_))))
 unfold pG at hR
 simp only[bQ,fX,fg]at hR
 obtain⟨hM,hA,hma⟩:=hR
 obtain⟨ha,hp,ht⟩:=nP.1 hA
 have hmm:=(gy.1 hM).1
 have hx:=(nP.1 hX).1 x (bV.2 rfl)
 have hxm:=(gz hmm).1 hs
 have hm: ∀x∈l,jn m x.2.1:=(gN (d:=aV) (Q:=λx=>jn m x.2.1)).1 λj hj=>(gz hmm).1 (hma j hj)
 have hn: ∀y∈l,¬dw y.1 x.1:=λy hy e=>by
  have:=B5.2 ⟨y,hy,e⟩
  rw[hf]at this;exact nomatch this
 have fin:(∀y∈l,ntw y x)→ ∀k:Nat,k≤l.length→(∀j,j<k→mQ (l.getD j aV).1 x.1)→(k<l.length→ ¬mQ (l.getD k aV).1 x.1)→Ok (se m l) (ff.Bl N l x [] (k:Int)):=λhw k hk g1 g2=>by
  unfold ff.Bl ff.vd
  refine KV hk ω λ_=> ?_
  simp only[cL,aJ,dr,c0,iD,bu,kJ]
  obtain⟨q1,q2⟩:=SL (f:=λx:bM=>x.1) hp g1 g2 hn
  have tw: ∀y∈l,ntw x y:=λy hy ⟨t1,t2,t3⟩=>hw y hy ⟨t2,t1,Eq.symm t3⟩
  refine⟨nP.2 ⟨λy hy=> ?_,Gy hp q1 q2,Gy ht (λy hy=>hw y (lP hy)) λy hy=>tw y (mX hy)⟩,λn ⟨y,hy,e⟩=>⟨y,(A6 k).2 (.inr hy),e⟩,λy hy=> ?_⟩
  ·rcases(A6 k).1 hy with rfl|hy
   ·exact hx
   ·exact ha y hy
  ·rcases(A6 k).1 hy with rfl|hy
   ·exact hxm
   ·exact hm y hy
 have hj:(∀y∈l,ntw y x)→Ok (se m l) (ff.Jj N l x):=λhw=>by
  unfold ff.Jj ff.BZ
  refine bc (σ:=Unit) (len:=l.length) (F:=λn i _=>ff.nW N n l x [] i) (s:=()) (λi _=> ∀j,j<i→mQ (l.getD j aV).1 x.1) (λj hj=>absurd hj ω) ω (λn i _ hi hI hr=> ?_) (λn _ hI=> ?_)
  all_goals unfold ff.nW ff.mR
  ·rw[ay (x:=(i:Int)+1) ω ω,ag i]
   refine aw (λ_=>aB ⟨ω,ω⟩ (aw (λh=>hr () λj hj=> ?_) λh=>fin hw i ω hI λ_ h'=> ?_)) λ_=>ω
   ·by_cases e:j=i
    ·subst e;exact h
    ·exact hI j ω
   ·have g: ∀x y:Int,mQ x y→y≤x→False:=λx y h h'=>by unfold mQ at h;omega
    exact g _ _ h' h
  ·exact aw (λ_=>ω) λ_=>fin hw _ (aG _) hI λh=>absurd h ω
 refine ok_eq (λe=>bo (qy N ω hN _) (bq (λ_=>se.bad δ) λh0=>hj λy hy ⟨t1,_,t3⟩=> ?_)) λe=>hj λy hy ⟨_,t2,_⟩=>e t2
 unfold nr at h0
 rw[aj hA]at h0
 exact C9 ha h0 y hy t1 t3
end VM
end
section
namespace VM
open Go VM.F
def PB(m:aE)(a:aL)(p:bE):Prop:=
 ∃e:au,p=e.map g7∧BN e∧(∀x∈e,cS x.1 x.2.1∧jx m a x.1 x.2.1)∧(e.map ed).sum=0
def SB(c:ae)(a:aL)(s:au):Prop:=dT s∧(∀x∈s,bG x.1 x.2.1∧yL c a x.1 x.2.1)∧ ∀i:Int,(c6 i s).sum=0
theorem PB.nil{m:aE}{a:aL}:PB m a []:=⟨[],rfl,λx hx=>(nomatch hx),λx hx=>(nomatch hx),rfl⟩
theorem PB.app{m:aE}{a:aL}{p q:bE}(hp:PB m a p)(hq:PB m a q):PB m a (p++q):=by
 obtain⟨e,rfl,e1,e2,e3⟩:=hp
 obtain⟨f,rfl,f1,f2,f3⟩:=hq
 refine⟨e++f,cZ.symm,λx hx=>(ba.1 hx).elim (e1 x) (f1 x),λx hx=>(ba.1 hx).elim (e2 x) (f2 x),?_⟩
 rw[cZ,lT,e3,f3];rfl
theorem GA(i:Int): ∀s t:au,c6 i (s++t)=c6 i s++c6 i t
 |[],t=>rfl
 |x::s,t=>by
  rw[kJ,df,df,GA i s t]
  split<;>rfl
theorem SB.nil{c:ae}{a:aL}:SB c a []:=⟨λx hx=>(nomatch hx),λx hx=>(nomatch hx),λ_=>rfl⟩
theorem SB.app{c:ae}{a:aL}{s t:au}(hs:SB c a s)(ht:SB c a t):SB c a (s++t):=
 ⟨λx hx=>(ba.1 hx).elim (hs.1 x) (ht.1 x),λx hx=>(ba.1 hx).elim (hs.2.1 x) (ht.2.1 x),λi=>by rw[GA,lT,hs.2.2,ht.2.2];rfl⟩
theorem SB.two{c:ae}{a:aL}{x y i q r:Int}(hq:aD q)(hr:aD r)(e:q+r=0)(hx:bG x i∧yL c a x i)(hy:bG y i∧yL c a y i):SB c a [(x,(i,(q,()))),(y,(i,(r,())))]:=by
 refine⟨λz hz=> ?_,λz hz=> ?_,λj=> ?_⟩
 ·rcases aX.1 hz with rfl|hz
  ·exact hq
  ·rw[bV.1 hz];exact hr
 ·rcases aX.1 hz with rfl|hz
  ·exact hx
  ·rw[bV.1 hz];exact hy
 ·rw[df,df]
  by_cases h:i=j
  ·rw[aj h,aj h]
   show q+(r+0)=0
   omega
  ·rw[ah h,ah h];rfl
theorem PB.two{m:aE}{a:aL}{k n k' n' v w:Int}(hv:dm v)(hw:dm w)(e:v+w=0)(h1:cS k n∧jx m a k n)(h2:cS k' n'∧jx m a k' n'):PB m a [(k,(n,(cP v,()))),(k',(n',(cP w,())))]:=by
 refine⟨[(k,(n,(v,()))),(k',(n',(w,())))],rfl,λz hz=> ?_,λz hz=> ?_,?_⟩
 ·rcases aX.1 hz with rfl|hz
  ·exact hv
  ·rw[bV.1 hz];exact hw
 ·rcases aX.1 hz with rfl|hz
  ·exact h1
  ·rw[bV.1 hz];exact h2
 ·show v+(w+0)=0
  omega
abbrev Js(c:ae)(b:an)(r:an×Int):Prop:=r.2=0→RBs c b r.1
theorem Js.bad{c:ae}{b b':an}{e:Int}(h:e≠0):Ok (Js c b) (some (b',e)):=ak λh'=>absurd h' h
theorem XX(N:Nat)(hN:4000000≤N){b:an}{s e:au}(w:im b)(hr:eC b.2.2.1=true)(hs:cQ b.2.2.2.1=true)(lr:b.2.2.1.length≤90000)(ls:b.2.2.2.1.length≤90000)(qs:dT s)(lns:s.length≤100000)(qe:BN e)(lne:e.length≤100000):
  yq N b s (e.map g7)=some (ew b s e):=by
 unfold yq ew
 rw[FN N hN hs ls w.qs qs lns,Sl N hN hr lr w.qr qe lne]
 unfold vJ
 rw[ar,ar]
 cases eh Fq (fS b.2.2.2.1 s) jC with
 |none=>rfl
 |some s'=>
  cases eh aD (fS b.2.2.1 e) nC with
  |none=>rfl
  |some r'=>rfl
theorem sU(N:Nat)(hN:4000000≤N){c:ae}{b:an}{s:au}{p:bE}{m:Nat}(hm:m≤50000)(hb:G m aK b)(h:RB c b)(hs:SB c b.2.1 s)(hp:PB b.1 b.2.1 p)(ls:s.length≤50000)(lp:p.length≤50000):Ok (Js c b) (yq N b s p):=by
 obtain⟨e,rfl,e1,e2,e3⟩:=hp
 obtain⟨hr,Hb⟩:=eF (oF.2 h)
 have w:=G.wf hm hb
 rw[cy]at lp
 exact nG (XX N hN w.w hr Hb w.r w.s hs.1 ω e1 ω) λh0=>h.ew hs.2.1 hs.2.2 e2 e3 h0
theorem oT{v:Int}(h:aD v):dm v∧dm (-v):=by unfold aD at h;unfold dm;omega
theorem sV(N:Nat)(hN:4000000≤N){m:aE}{a:aL}{k n k' n' v:Int}(hv:dm v∧dm (-v))(h1:cS k n∧jx m a k n)(h2:cS k' n'∧jx m a k' n'):Ok (λr=>PB m a r∧r.length=2) (yr N k n k' n' (cP v)):=by
 unfold yr
 exact bo (jz N hN (AK hv.1)) (ak ⟨PB.two hv.2 hv.1 ω h1 h2,rfl⟩)
theorem ud{c:ae}{b:an}(h:RB c b){k:Int}(hk:ql b.2.1 k):cS 5 k∧jx b.1 b.2.1 5 k:=by
 obtain⟨y,hy,e⟩:=hk
 have hk:=(nP.1 h.a).1 y hy
 have e':y.1=k:=e
 exact⟨.inr (.inl ⟨rfl,e'▸hk.1⟩),λ_=>⟨y,hy,e⟩,λh=>absurd h δ⟩
theorem B7{m:aE}{a:aL}{k:Int}(h:1≤k∧k≤4):cS k 0∧jx m a k 0:=
 ⟨.inl ⟨h.1,h.2,rfl⟩,λe=>by unfold dw at e;omega,λe=>by unfold dw at e;omega⟩
theorem A7{c:ae}{b:an}(h:RB c b){k n:Int}(hk:6≤k∧k≤7)(hn:jn b.1 n):cS k n∧jx b.1 b.2.1 k n:=by
 obtain⟨y,hy,e⟩:=hn
 have hm:=(gy.1 h.m).1 y hy
 have e':y.1=n:=e
 exact⟨.inr (.inr ⟨hk.1,hk.2,e'▸hm.1,e'▸hm.2.1⟩),λe=>by unfold dw at e;omega,λ_=>⟨y,hy,e⟩⟩
theorem K8{m:aE}{a:aL}{k:Int}(h:dw k 0∨ql a k)(hk:0≤k∧k≤24)(x:Int):cS (AU k x).1 (AU k x).2.1∧jx m a (AU k x).1 (AU k x).2.1:=by
 unfold AU
 by_cases e:k=0
 ·rw[aj e]
  exact⟨show cS 2 0 by decide,λh=>absurd h (show ¬dw 2 5 by decide),λh=>absurd h (show ¬(dw 2 6∨dw 2 7)by decide)⟩
 ·rw[ah e]
  refine⟨show cS 5 k by unfold cS;omega,λ_=>h.elim (λh=>absurd h e) id,λh=>absurd h (show ¬(dw 5 6∨dw 5 7)by decide)⟩
theorem Oa{c:ae}{b:an}(h:RB c b){k:Int}(ht:((fe b.2.1 k).2||decide (dw k 0))=true):dw k 0∨ql b.2.1 k:=by
 rcases Bool.or_eq_true_iff.1 ht with ht|ht
 ·exact .inr ((nQ h.a k).1 ht)
 ·exact .inl (bz ht)
theorem H5(N:Nat)(hN:4000000≤N){m:aE}{a:aL}{t:ta}{p:Int}(ht:nD t)(hp:ji p)(h1:dw t.1 0∨ql a t.1)(h2:dw t.2.1 0∨ql a t.2.1):Ok (λr=>PB m a r.1∧r.1.length≤2) (QH N t p):=by
 refine nG (HR N hN ht hp) ?_
 have ht':=ht
 unfold nD ky at ht'
 have hk:dm ((p-t.2.2.2.2.1)*t.2.2.2.1)∧dm (-((p-t.2.2.2.2.1)*t.2.2.2.1)):=by
  have hq:=ht'.2.2.2.2.1
  have he:=ht'.2.2.2.2.2
  generalize t.2.2.2.2.1=e at*
  generalize t.2.2.2.1=q at*
  unfold ji at hp he
  have:=IZ (d:=p-e) ω hq
  unfold dm;omega
 unfold QG
 dsimp only
 split
 ·exact⟨PB.nil,bp _⟩
 ·refine⟨⟨_,rfl,λx hx=> ?_,λx hx=> ?_,?_⟩,aG 2⟩
  ·rcases aX.1 hx with rfl|hx
   ·rw[nE];exact hk.1
   ·rw[bV.1 hx,nE];exact hk.2
  ·rcases aX.1 hx with rfl|hx
   ·exact K8 h1 ht'.1 _
   ·rw[bV.1 hx];exact K8 h2 ht'.2.1 _
  ·rw[bW,bW,je,nE,nE,cz,cz,iI];omega
theorem Jt(N:Nat)(hN:5000000≤N){c:ae}{b:an}{l:bK}{m:Nat}(hm:m≤50000)(hb:G m aK b)(h:RB c b):Ok (Js c b) (gC N c b l):=by
 unfold gC gC.b
 refine bo (dH N hN hm hb) (bw (λ_=>Js.bad δ) λhB=>aw (λ_=>Js.bad δ) λhl=> ?_)
 obtain⟨hp,G8⟩:=ir hB
 refine bc (len:=l.length) (F:=λn i (_:Unit)=>gC.l4 N n l c b (cn,(c9,(bH,(bH,(dB,(dR,())))))) i) (s:=()) (λi _=> ∀j,j<i→nD (l.getD j mL)) (λj hj=>ω) ω (λn i _ hi hI hr=> ?_) (λn _ hI=> ?_)
 all_goals unfold gC.l4 gC.eK
 ·rw[ay (x:=(i:Int)+1) ω ω,ag i]
  refine aw (λ_=>aB ⟨ω,ω⟩ (bo (xP N _) (bw (λ_=>Js.bad δ) λht=>hr () λj hj=> ?_))) λ_=>ω
  by_cases e:j=i
  ·rw[e];exact bz ht
  ·exact hI j ω
 ·refine aw (λ_=>ω) λ_=> ?_
  have wf:=G.wf hm hb
  refine bc (len:=l.length) (F:=λn i (s:au×bE)=>gC.BY N n l c b (cn,(c9,(bH,(bH,(dB,(dR,())))))) s.1 s.2 i) (s:=(_,_)) (λi s=>(SB c b.2.1 s.1∧s.1.length≤2*i)∧PB b.1 b.2.1 s.2∧s.2.length≤2*i) ⟨⟨SB.nil,bp _⟩,PB.nil,bp _⟩ ω (λn i s hi hJ hr=> ?_) (λn s hJ=> ?_)
  all_goals unfold gC.BY gC.zg
  all_goals obtain⟨⟨j1,j2⟩,j3,j4⟩:=hJ
  ·have ht0:=hI i hi
   have ht:=ht0
   unfold nD ky at ht
   dsimp only
   rw[ay (x:=(i:Int)+1) ω ω,ag i,aJ]
   generalize l.getD i mL=t at*
   refine aw (λ_=>aB ⟨ω,ω⟩ (bo (tT N b wf.w.a ω _) (bw (λ_=>Js.bad δ) λt1=>bo (tT N b wf.w.a ω _) (bw (λ_=>Js.bad δ) λt2=>dY (λ_=>Js.bad δ) λfb=>aC ?_ (aB ⟨ht.2.2.2.1.1,by rw[hp];exact fb⟩ ?_))))) λ_=>ω
   ·rw[aR,aI];omega
   have i1:=Oa h t1
   have i2:=Oa h t2
   have pr:ji (b.2.2.2.2.1.getD t.2.2.1.toNat 0):=by
    unfold eW at G8
    have hk:t.2.2.1.toNat<b.2.2.2.2.1.length:=by
     rw[hp]
     have g: ∀x:Int,0≤x→x<(c.1.length:Int)→x.toNat<c.1.length:=λx h1 h2=>ω
     exact g _ ht.2.2.2.1.1 fb
    exact(bz G8) _ hk
   refine af (H5 N ω ht0 pr i1 i2) λr ⟨y5,yS⟩=>aC ω (hr (_,_) ⟨⟨?_,?_⟩,PB.app j3 y5,?_⟩)
   ·refine SB.app j1 ?_
    have hq:aD t.2.2.2.1∧aD (0-t.2.2.2.1)∧W .i64 (0-t.2.2.2.1)=0-t.2.2.2.1:=by
     have hq:=ht.2.2.2.2.1
     generalize t.2.2.2.1=q at*
     exact⟨by unfold aD;omega,by unfold aD;omega,ay ω ω⟩
    rw[hq.2.2]
    have pl: ∀x:Int,0≤x∧x≤24→bG x t.2.2.1:=λx hx=>⟨hx.1,hx.2,ht.2.2.2.1.1,ht.2.2.2.1.2⟩
    exact SB.two hq.1 hq.2.1 ω ⟨pl _ ht.1,i1,fb⟩ ⟨pl _ ht.2.1,i2,fb⟩
   ·dsimp only;rw[List.length_append,List.length_cons,List.length_singleton];omega
   ·dsimp only;rw[List.length_append];omega
  ·exact aw (λ_=>ω) λ_=>af (sU N ω hm hb h j1 j3 ω ω) λr h=>ak h
theorem aa9(N:Nat)(hN:5000000≤N){c:ae}{b:an}{h:bM}{a q p:Int}{m:Nat}(h2:200≤m)(hm:m≤40000)(hc:G m aA c)(hb:G m aK b)(hR:RB c b)(hh:G m eA h)(ha:aD a)(hq:aD q)(hp:aD p):Ok (λr=>r.2.2=0→RB c r.1∧r.2.1.2.1=h.2.1∧W2 r.2.1.2.2.2.1 1000000000) (pL N c b h a q p):=by
 have ho:G m mV (h.1,(a,(h.2.1,(W .i64 (3-h.2.2.1),(q,(p,())))))):=⟨hh.1,ha,hh.2.1,fU _,hq,hp,trivial⟩
 have dI: ∀e:Int,e≠0→Ok (λr:an×bM×Int=>r.2.2=0→RB c r.1∧r.2.1.2.1=h.2.1∧W2 r.2.1.2.2.2.1 1000000000) (some ((cn,(c9,(bH,(bH,(dB,(dR,())))))),(aV,e))):=λe h=>ak λh'=>absurd h' h
 unfold pL pL.b
 have hj:A0 h→1≤q→ ¬mQ h.2.2.2.1 q→ ∀t:ta,Ok (λr=>r.2.2=0→RB c r.1∧r.2.1.2.1=h.2.1∧W2 r.2.1.2.2.2.1 1000000000) (pL.Vn N q c b h (cn,(c9,(bH,(bH,(dB,(dR,())))))) aV t):=λhk q1 q2 t=>by
  have g: ∀x:Int,qIn x→ ¬mQ x q→W2 (W .i64 (x-q)) 1000000000:=λx h1 h2=>by unfold qIn at h1;unfold mQ at h2;unfold W2;rw[ay ω ω];omega
  unfold pL.Vn pL.NR
  exact af (Jt N hN ω hb hR) λr hr=>bq (λh=>dI _ h) λh0=>ak λ_=>⟨(hr h0).1,rfl,g _ hk.2.2.2 q2⟩
 have b1:=dI 1 δ
 exact bo (dH N hN ω hb) (bw (λ_=>b1) λ_=>bo (xe N h) (bw (λ_=>b1) λhk=>aw (λ_=>b1) λq1=>aw (λ_=>b1) λ_=>aw (λ_=>b1) λ_=>aw (λ_=>b1) λ_=>aw (λ_=>dI _ δ) λq2=>aw (λ_=>b1) λ_=>aw (λ_=>b1) λ_=>af (A3 N hN h2 hm hc hb ho) λe _=>bq (λh=>dI _ h) λ_=>ok_eq (λ_=>hj (bz hk) q1 (Int.not_lt.2 q2) _) λ_=>hj (bz hk) q1 (Int.not_lt.2 q2) _))
theorem Ob(N:Nat)(hN:5000000≤N){c:ae}{b:an}{m:Nat}(h2:200≤m)(hm:m≤40000)(hc:G m aA c)(hb:G m aK b)(hR:RB c b){a:Int}(ha:aD a){q:Int}(hq:aD q):Ok (Js c b) (Us N c b a q):=by
 have b1: ∀e:Int,e≠0→Ok (Js c b) (some ((cn,(c9,(bH,(bH,(dB,(dR,())))))),e)):=λe h=>Js.bad h
 unfold Us
 refine bo (dH N hN ω hb) (bw (λ_=>b1 _ δ) λ_=>aw (λ_=>b1 _ δ) λ_=>af (Gg N ω ω hb.2.1 _) λx ⟨_,hxf⟩=>bw (λ_=>b1 _ δ) λhf=>af (oD N ω ω hb.1 _) λ_ _=>bq (λ_=>b1 _ δ) λ_=>af (mw N ω ω hb.2.2.1 _ _) λg hg=>af (br N ω hg) λx hx=>af (br N ω hq) λy hy=>af (xS N ω ω hx hy) λz hz=>af (Gf N ω h2 hm hc hb (bp _) _) λw hw=>af (pK N ω ω ω hz hw) λ_ _=>aw (λ_=>b1 _ δ) λ_=>bo (cv N ω hq.1 hq.2) ?_)
 rw[hxf]at hf
 exact af (sV N ω (oT hq) (ud hR ((nQ hR.a a).1 hf)) (B7 δ)) λp ⟨hp,Hu⟩=>af (sU N ω ω hb hR SB.nil hp (bp _) ω) λr hr=>ak hr
def Da(i d:Int)(l:au):au:=(l.filter λx=>decide (dw x.2.1 i∧ ¬dw d 0)).map λx=>AU x.1 (ed x*d)
theorem Q3{l:au}{i d:Int}{k:Nat}(hk:k<l.length):Da i d (l.take (k+1))=Da i d (l.take k)++if dw (l.getD k bm).2.1 i∧ ¬dw d 0 then [AU (l.getD k bm).1 (ed (l.getD k bm)*d)]else []:=by
 have e2:l.take (k+1)=l.take k++[l[k]]:=(pX hk).symm
 unfold Da
 rw[e2,List.filter_append,cZ,ia hk]
 congr 1
 by_cases h:dw l[k].2.1 i∧ ¬dw d 0
 ·rw[aj h,vX,aj (bs h)];rfl
 ·rw[ah h,vX,ah (by rw[cm h];exact qH)];rfl
theorem Ju{i d:Int}: ∀l:au,((Da i d l).map ed).sum=(c6 i l).sum*d
 |[]=>(EK d).symm
 |x::t=>by
  have ih:=Ju (i:=i) (d:=d) t
  unfold Da at ih ⊢
  rw[df]
  by_cases h:x.2.1=i
  ·rw[aj h]
   by_cases h0:d=0
   ·rw[vX,ah (by rw[cm (λh=>h.2 h0)];exact qH),ih,h0,zK,zK]
   ·rw[vX,aj (bs ⟨h,h0⟩),bW,bW,cz,cz,ih,qR,nE]
  ·rw[ah h,vX,ah (by rw[cm (λk=>h k.1)];exact qH),ih]
theorem aba{q d:Int}(hq:aD q)(hd: -1000000000000≤d∧d≤1000000000000):dm (q*d):=by
 have h1:(q*d).natAbs≤9223372036854775808*1000000000000:=by
  rw[Int.natAbs_mul]
  unfold aD at hq
  exact wb ω ω
 unfold dm;omega
theorem XY(N:Nat)(hN:4000000≤N){c:ae}{b:an}{m:Nat}(hm:m≤50000)(hb:G m aK b)(hR:RB c b){i:Int}(hi0:0≤i∧i<6)(x y:Int):Ok (λr=>PB b.1 b.2.1 r.1∧r.1.length≤50000) (nL N b.2.2.2.1 i x y):=by
 have h:=hb.2.2.2.1
 have hl:=h.1
 have hs:=(eF (oF.2 hR)).2
 have fl:(c6 i b.2.2.2.1).sum=0:=by
  have:=hR.s
  unfold ov at this
  have:=bz (cK.1 this).1 i.toNat (by unfold ko;omega)
  unfold s4 dw sK at this
  rw[aj hs,ti hi0.1]at this
  exact this
 have hp:=(dC hs).2
 unfold nL nL.b
 have nil: ∀e:Int,Ok (λr:bE×Int=>PB b.1 b.2.1 r.1∧r.1.length≤50000) (some ([],e)):=λe=>ak ⟨PB.nil,bp _⟩
 refine bo (kQ N ω ω) (bw (λ_=>nil _) λ_=>bo (iP N _) (bw (λ_=>nil _) λha=>bo (iP N _) (bw (λ_=>nil _) λeZ=> ?_)))
 have ha:=bz ha
 have eZ:=bz eZ
 refine bo (cv N ω ω ω) (bo (cv N ω ω ω) (bo (sH N hN ((Fit.i64 ω ω).mono ω) ((Fit.i64 ω ω).mono ω)) ?_))
 have d64: -1000000000000≤y-x∧y-x≤1000000000000:=ω
 generalize y-x=d at*
 have fin:PB b.1 b.2.1 ((Da i d b.2.2.2.1).map g7):=by
  refine⟨_,rfl,λz hz=> ?_,λz hz=> ?_,?_⟩
  ·obtain⟨u,hu,rfl⟩:=cD.1 hz
   rw[nE];exact aba (h.2 u (vZ.1 hu).1).2.2.1 d64
  ·obtain⟨u,hu,rfl⟩:=cD.1 hz
   have hu:=(vZ.1 hu).1
   exact K8 (hR.sk u hu).1 ⟨(hp u hu).1.1,(hp u hu).1.2.1⟩ _
  ·rw[Ju,fl,EK]
 refine bc (len:=b.2.2.2.1.length) (F:=λn j s=>nL.l6 N n b.2.2.2.1 i s (cP d) j) (λj s=>s=(Da i d (b.2.2.2.1.take j)).map g7∧s.length≤j) ⟨rfl,bp _⟩ ω (λn j s hj hI hr=> ?_) (λn s hI=> ?_)
 all_goals unfold nL.l6 nL.uN
 ·obtain⟨i1,i2⟩:=hI
  have st:=Q3 (i:=i) (d:=d) hj
  have hx:G m jv (b.2.2.2.1.getD j bm):=h.2 _ (pt hj)
  rw[ay (x:=(j:Int)+1) ω ω,ag j,aJ]
  have skip: ¬(dw (b.2.2.2.1.getD j bm).2.1 i∧ ¬dw d 0)→s=(Da i d (b.2.2.2.1.take (j+1))).map g7∧s.length≤j+1:=λh=>⟨by rw[st,ah h,ck];exact i1,ω⟩
  refine aw (λ_=>aB ⟨ω,ω⟩ (bq (λe=>hr s (skip λk=>e k.1)) λe1=>bo (p7 N d) (ok_eq (λe=>hr s (skip λk=>k.2 (kp.1 e))) λe2=>aB ⟨ω,ω⟩ (bo (BT _ (ed (b.2.2.2.1.getD j bm)*d) N) (aB ⟨ω,ω⟩ (bo (cv N ω hx.2.2.1.1 hx.2.2.1.2) (bo (tO N hN ((Fit.i64 hx.2.2.1.1 hx.2.2.1.2).mono ω) ((Fit.i64 ω ω).mono ω)) (aC (by rw[aI];omega) (hr _ ⟨?_,by rw[aS,aI];omega⟩))))))))) λ_=>ω
  rw[st,aj ⟨e1,λk=>e2 (kp.2 k)⟩,cZ,i1]
  congr 1
  unfold g7
  rw[bW,je,nE];rfl
 ·have i2:=hI.2
  refine aw (λ_=>ω) λ_=>ak ⟨?_,by dsimp only;omega⟩
  have:=hI.1
  rw[iD]at this
  rw[this];exact fin
theorem Q4{l:List Int}(h:eW l=true){p:Int}(hp:1≤p∧p≤1000000000000)(k:Nat):eW (l.set k p)=true:=by
 unfold eW at*
 have h:=bz h
 refine bs λj hj=> ?_
 rw[bO]at hj
 have Y7:=h j hj
 unfold p9 at*
 rw[aU,List.getElem?_set]
 split
 ·rw[aj ω];exact hp
 ·rw[←aU];exact Y7
theorem Oc(N:Nat)(hN:5000000≤N){c:ae}{b:an}{m:Nat}(hm:m≤50000)(hb:G m aK b)(hR:RB c b)(i p:Int):Ok (λr=>r.2.2=0→RB c r.1) (Ur N c b i p):=by
 have dI: ∀e:Int,e≠0→Ok (λr:an×bE×Int=>r.2.2=0→RB c r.1) (some ((cn,(c9,(bH,(bH,(dB,(dR,())))))),([],e))):=λe h=>ak λh'=>absurd h' h
 have Hu:=hb.2.2.2.2.1.1
 have hci:c.1.length≤6:=by
  have:=hR.c
  unfold fB at this
  exact(bz (cK.1 this).1).2
 unfold Ur
 refine bo (dH N hN hm hb) (bw (λ_=>dI _ δ) λhB=>bo (iP N _) (bw (λ_=>dI _ δ) λhp=>aw (λ_=>dI _ δ) λh0=>dY (λ_=>dI _ δ) λh1=> ?_))
 obtain⟨hpr,_⟩:=ir hB
 have hp:=bz hp
 dsimp only
 rw[cL]
 refine aB ⟨h0,by rw[hpr];exact h1⟩ (af (XY N ω hm hb hR ⟨h0,ω⟩ _ _) λf ⟨hf,Td⟩=>af (sU N ω hm hb hR SB.nil hf (bp _) Td) λr hr=>bq (λh=>dI _ h) λhz=>aC (by rw[bT];omega) (aB ⟨h0,by rw[hpr];exact h1⟩ (ak λ_=> ?_)))
 have q:=(hr hz).1
 exact⟨q.c,q.m,q.a,q.ma,q.r,q.t,q.s,q.o,by rw[bO];exact hR.n,q.rk,q.sk,q.ok,Q4 hR.p hp _⟩
end VM
end
section
namespace VM
open Go VM.F
theorem GB{l s:bB}(h:ei l=true)(hs:s.Sublist l):ei s=true:=by
 obtain⟨h1,h2,h3⟩:=kB.1 h
 exact kB.2 ⟨λx hx=>h1 x (hs.subset hx),h2.sublist hs,cq hs.length_le h3⟩
theorem GC{α:Type}{l s:List α}{d:α}{i:Nat}(hi:i<l.length)(h:s.Sublist (l.take i)):s.Sublist (l.take (i+1))∧(s++[l.getD i d]).Sublist (l.take (i+1)):=by
 have e2:l.take (i+1)=l.take i++[l[i]]:=(pX hi).symm
 rw[e2,ia hi]
 exact⟨h.trans (List.sublist_append_left ..),h.append (List.Sublist.refl _)⟩
theorem UK(N:Nat)(hN:200000≤N){l:bB}(hl:l.length≤50000)(a id:Int):Ok (λr=>r.2=0→ei r.1=true∧ ∀x∈r.1,x∈l) (nK N l a id):=by
 have bad: ∀e:Int,e≠0→Ok (λr:bB×Int=>r.2=0→ei r.1=true∧ ∀x∈r.1,x∈l) (some ([],e)):=λe h=>ak λh'=>absurd h' h
 unfold nK nK.b
 refine bo (ik N ω hN) (bw (λ_=>bad _ δ) λhO=>bc (len:=l.length) (F:=λn i s=>nK.l5 N n l a id s i) (λi s=>s.Sublist (l.take i)) (EA _) ω (λn i s hi hI hr=> ?_) (λn s hI=> ?_))
 all_goals have hs:=hI.length_le
 all_goals rw[cf]at hs
 all_goals unfold nK.l5 nK.eg
 ·rw[ay (x:=(i:Int)+1) ω ω,ag i]
  obtain⟨q1,q2⟩:=GC (d:=fm) hi hI
  have h1:=hr s q1
  have h2:=hr _ q2
  repeat' first|exact h1|exact h2|refine aC (by rw[aI];omega) ?_|refine aB ⟨ω,ω⟩ ?_|refine aw (λ_=> ?_) (λ_=> ?_)|refine bq (λ_=> ?_) (λ_=> ?_)|(exfalso;omega)
 ·rw[iD]at hI
  exact aw (λ_=>ω) λ_=>ok_eq (λ_=>bad _ δ) λ_=>ak λ_=>⟨GB hO hI,λx hx=>hI.subset hx⟩
theorem XZ(N:Nat)(hN:200000≤N){l:bB}{a:List Int}{m:Nat}(hm:m≤50000)(hl:l.length≤m)(ha:a.length≤m):Ok (λr=>ei l=true→r.Sublist l) (fV N l a):=by
 unfold fV fV.b
 refine bo (ik N ω hN) (bw (λh=>ak λh'=>by rw[h]at h';exact nomatch h') λ_=>bc (len:=l.length) (F:=λn i s=>fV.l5 N n l a s i) (λi s=>s.Sublist (l.take i)) (EA _) ω (λn i s hi hI hr=> ?_) (λn s hI=> ?_))
 all_goals have hs:=hI.length_le
 all_goals rw[cf]at hs
 all_goals unfold fV.l5 fV.eg
 ·obtain⟨q1,q2⟩:=GC (d:=fm) hi hI
  refine aw (λ_=> ?_) λ_=>ω
  refine bc (len:=a.length) (F:=λn' j b=>fV.l9 N (fV.l5 N n) n' l a s (i:Int) b j) (λ_ _=>True) trivial ω (λn' j b hj _ eO=> ?_) (λn' b _=> ?_)
  all_goals unfold fV.l9 fV.xK
  ·rw[ay (x:=(j:Int)+1) ω ω,ag j]
   exact aw (λ_=>pj (λ_=>eO _ trivial) λ_=>aB ⟨ω,ω⟩ (aB ⟨ω,ω⟩ (eO _ trivial))) λ_=>ω
  ·rw[ay (x:=(i:Int)+1) ω ω,ag i]
   exact aw (λ_=>ω) λ_=>bw (λ_=>aB ⟨ω,ω⟩ (aC (by rw[aI];omega) (hr _ q2))) λ_=>hr s q1
 ·rw[iD]at hI
  exact aw (λ_=>ω) λ_=>ak λ_=>hI
theorem Od(N:Nat)(hN:5000000≤N){c:ae}{b:an}{m:Nat}(hm:m≤50000)(hb:G m aK b)(hR:RB c b)(id:Int)(bf:jn b.1 id):Ok (λr=>RB c r.1) (KY N c b id):=by
 have Hb:eL b.1 id≠0:=(vf hR.m id).2 bf
 unfold KY
 refine bo (dH N hN hm hb) (bw (λh=>by rw[oF.2 hR]at h;exact nomatch h) λ_=>bo (ot N (cq hb.1.1 ω) ω _) (ok_eq (λh=>absurd h Hb) λ_=>af (NT N ω hm hb.2.1 _) λa ha=>af (XZ N ω hm hb.2.2.2.2.2.1.1 ha) λr hr=>ak ?_))
 have hs:=hr hR.o
 exact hR.K6 (GB hR.o hs) λx hx=>hR.ok x (hs.subset hx)
theorem abb(N:Nat)(hN:200000≤N){l:bB}(hl:l.length≤50000)(a d:Int):Ok (λr=>r.length≤l.length∧ ∀x∈r,x∈l) (dJ N l a d):=by
 unfold dJ dJ.b
 refine bo (ik N ω hN) (bw (λ_=>ak ⟨bp _,λx hx=>nomatch hx⟩) λ_=>bc (len:=l.length) (F:=λn i s=>dJ.l5 N n l a d s i) (λi s=>s.length≤i∧ ∀x∈s,x∈l) ⟨aG 0,λx hx=>nomatch hx⟩ ω (λn i s hi hI hr=> ?_) (λn s hI=> ?_))
 all_goals unfold dJ.l5 dJ.eg
 ·obtain⟨hs,RJ⟩:=hI
  have hx:l.getD (i:Int).toNat fm∈l:=pt hi
  have fin: ∀k:Nat,k≤s.length→Ok (λr=>r.length≤l.length∧ ∀x∈r,x∈l) (dJ.Jj N (dJ.l5 N n) l a d s (i:Int) (k:Int)):=λk hk=>by
   unfold dJ.Jj dJ.BZ
   rw[ay (x:=(i:Int)+1) ω ω,ag i]
   dsimp only
   have t: ∀a b:Nat,(List.drop a (List.take b s)).length≤s.length:=λa b=>by rw[dS,cf];omega
   have t1:=t (0:Int).toNat (k:Int).toNat
   have t2:=t (k:Int).toNat (s.length:Int).toNat
   refine BX ⟨ω,ω,ω,ω⟩ (aC ω (aB ⟨ω,ω⟩ (aC (by rw[aI];omega) (BX ⟨ω,ω,ω,ω⟩ (aC (by rw[aS,aI];omega) (hr _ ⟨?_,λy hy=> ?_⟩))))))
   ·simp only[cL,aS,dS,cf,aI,aJ,dr];omega
   ·rcases ba.1 hy with hy|hy
    ·rcases ba.1 hy with hy|hy
     ·exact RJ y (lP (mX hy))
     ·rw[bV.1 hy];exact hx
    ·exact RJ y (lP (mX hy))
  have h1:=hr s ⟨ω,RJ⟩
  have hw:Ok (λr=>r.length≤l.length∧ ∀x∈r,x∈l) (dJ.l9 N (dJ.l5 N n) N l a d s (i:Int) 0):=by
   refine lZ (len:=s.length) (F:=λn' j=>dJ.l9 N (dJ.l5 N n) n' l a d s (i:Int) j) ω (λn' j hj eO=> ?_) (λn'=> ?_)
   all_goals unfold dJ.l9 dJ.xK
   ·rw[ay (x:=(j:Int)+1) ω ω,ag j]
    have hah: ∀x y:gA,Ok (λ_=>True) (Uq N x y):=λx y=>by unfold Uq;exact bq (λ_=>e7) λ_=>e7
    exact aw (λ_=>aB ⟨ω,ω⟩ (aB ⟨ω,ω⟩ (af (hah _ _) λ_ _=>pj (λ_=>eO) λ_=>fin j ω))) λ_=>ω
   ·exact aw (λ_=>ω) λ_=>fin _ (aG _)
  rw[ay (x:=(i:Int)+1) ω ω,ag i]
  repeat' first|exact h1|exact hw|refine aB ⟨ω,ω⟩ ?_|refine aw (λ_=> ?_) (λ_=> ?_)|refine bq (λ_=> ?_) (λ_=> ?_)|(exfalso;omega)
 ·exact aw (λ_=>ω) λ_=>ak hI
def aie(x:gA)(q:Int):gA:=(x.1,(x.2.1,(x.2.2.1,(x.2.2.2.1,(q,x.2.2.2.2.2)))))
def leftOf(l:bB)(n:Int)(k:Nat)(x:gA):Prop:= ∃q:Int,x=aie (l.getD k fm) q∧n≤q∧q≤1000000000
theorem leftOf.mono{l:bB}{n n':Int}(h:n'≤n){k:Nat}{x:gA}(hx:leftOf l n k x):leftOf l n' k x:=by
 obtain⟨q,e,h1,h2⟩:=hx
 exact⟨q,e,fI h h1,h2⟩
abbrev SN(l:bB)(o:gA)(r:bB×bK×Int×Int):Prop:=ei r.1=true∧(∀x∈r.1,∃y∈l,x.1=y.1∧x.2.1=y.2.1∧x.2.2.1=y.2.2.1)∧r.2.2.1≤o.2.2.2.2.1
theorem abc{l s:bB}{n:Int}(hs:s.length=l.length)(h: ∀k,k<l.length→leftOf l n k (s.getD k fm))(hp:l.Pairwise Jq):s.Pairwise Jq:=by
 rw[uq]at hp ⊢
 intro i j hi hj pQ
 have g: ∀k (hk:k<s.length),s[k].1=(l[k]' ω).1:=λk hk=>by
  obtain⟨q,e,_⟩:=h k ω
  rw[ia hk,ia (show k<l.length by omega)]at e
  rw[e];rfl
 unfold Jq
 rw[g i hi,g j hj]
 exact hp i j ω ω pQ
theorem X0(N:Nat)(hN:200000≤N){l:bB}{o:gA}(hl:l.length≤50000)(hO:ei l=true)(ho:rm o):Ok (SN l o) (ch N l o):=by
 unfold ch ch.b
 refine bo (ik N ω hN) (bw (λh=>by rw[hO]at h;exact nomatch h) λ_=>bo (Aw N o) (bw (λh=>absurd ho (of_decide_eq_false h)) λ_=>aC (by rw[bT];omega) (af (abb N hN hl _ _) λw ⟨hwl,hwm⟩=> ?_)))
 obtain⟨h1,h2,h3⟩:=kB.1 hO
 rw[cL]
 have fin: ∀(n:Int) (s:bB) (q:Int) (t:bK),s.length=l.length→(∀k,k<l.length→leftOf l n k (s.getD k fm))→q≤o.2.2.2.2.1→Ok (SN l o) (ch.j22 N s q t):=λn s q t hs E4 hq=>by
  unfold ch.j22 ch.aaS
  refine bc (len:=s.length) (F:=λn i u=>ch.LF N n s q t u i) (λi u=>u.Sublist (s.take i)∧ ∀x∈u,mQ 0 x.2.2.2.2.1) ⟨EA _,λx hx=>nomatch hx⟩ ω (λn i u hi hI hr=> ?_) (λn u hI=> ?_)
  all_goals obtain⟨i1,i2⟩:=hI
  all_goals have Hi:=i1.length_le
  all_goals rw[cf]at Hi
  all_goals unfold ch.LF ch.NV
  ·rw[ay (x:=(i:Int)+1) ω ω,ag i,aJ]
   obtain⟨q1,q2⟩:=GC (d:=fm) hi i1
   exact aw (λ_=>aB ⟨ω,ω⟩ (aw (λhq=>aB ⟨ω,ω⟩ (aC (by rw[aI];omega) (hr _ ⟨q2,λx hx=>by
    rcases ba.1 hx with hx|hx
    ·exact i2 x hx
    ·rw[bV.1 hx];exact hq⟩))) λ_=>hr u ⟨q1,i2⟩)) λ_=>ω
  ·rw[iD]at i1
   have PX: ∀x∈s,∃y∈l,∃q:Int,x=aie y q∧q≤1000000000:=λx hx=>by
    obtain⟨k,hk,e⟩:=gm hx
    obtain⟨q,e',_,h⟩:=E4 k ω
    rw[ia hk,e]at e'
    exact⟨_,pt (d:=fm) (show k<l.length by omega),q,e',h⟩
   refine aw (λ_=>ω) λ_=>ak ⟨kB.2 ⟨λx hx=> ?_,(abc hs E4 h2).sublist i1,by have:=i1.length_le;dsimp only at*;omega⟩,λx hx=> ?_,hq⟩
   ·obtain⟨y,hy,q,e,hq⟩:=PX x (i1.subset hx)
    have h0:=i2 x hx
    have ok:=h1 y hy
    subst e
    exact⟨ok.1,ok.2.1,ok.2.2.1,ok.2.2.2.1,⟨show(1:Int)≤q from h0,hq⟩,ok.2.2.2.2.2⟩
   ·obtain⟨y,hy,q,e,_⟩:=PX x (i1.subset hx)
    exact⟨y,hy,by rw[e];rfl,by rw[e];rfl,by rw[e];rfl⟩
 refine bc (len:=w.length) (F:=λn i (s:bB×Int×bK)=>ch.l7 N n o s.1 s.2.1 s.2.2 w i) (s:=(_,(_,_))) (λi s=>(s.1.length=l.length∧ ∀k,k<l.length→leftOf l (-1000000000*(i:Int)) k (s.1.getD k fm))∧(0≤s.2.1∧s.2.1≤o.2.2.2.2.1)∧s.2.2.length≤i) ⟨⟨rfl,λk hk=>⟨(l.getD k fm).2.2.2.2.1,rfl,?_,?_⟩⟩,⟨?_,fJ _⟩,bp _⟩ ω (λn i s hi hI hr=> ?_) (λn s hI=> ?_)
 ·have:=(h1 _ (pt (d:=fm) hk)).2.2.2.2.1.1
  exact fI δ this
 ·exact(h1 _ (pt (d:=fm) hk)).2.2.2.2.1.2
 ·exact fI δ ho.2.2.2.2.1.1
 all_goals unfold ch.l7 ch.rj
 ·obtain⟨⟨hs,E4⟩,hq,ht⟩:=hI
  have hoq:o.2.2.2.2.1≤1000000000:=ho.2.2.2.2.1.2
  have f1:=fin _ s.1 s.2.1 s.2.2 hs E4 hq.2
  have hx:=h1 _ (hwm _ (pt (d:=fm) hi))
  have ah6: ∀(v:Int) (t:ta),0≤v→v≤s.2.1→v≤1000000000→Ok (SN l o) (ch.Bl N (ch.l7 N n) o s.1 s.2.1 s.2.2 w (i:Int) v t):=λv t v0 v1 v2=>by
   unfold ch.Bl ch.vd
   have TJ:s.2.1≤1000000000:=fI hq.2 hoq
   rw[ay (x:=s.2.1-v) ω ω]
   refine aC (by rw[aI];omega) (bc (len:=s.1.length) (F:=λn' j u=>ch.Hh N (ch.l7 N n) n' o u (s.2.1-v) (s.2.2++[t]) w (i:Int) v j) (λj u=>u.length=l.length∧ ∀k,k<l.length→leftOf l (if k<j then-1000000000*((i:Int)+1)else-1000000000*(i:Int)) k (u.getD k fm)) ⟨hs,λk hk=>by rw[ah ω];exact E4 k hk⟩ ω (λn' j u hj hJ eO=> ?_) (λn' u hJ=> ?_))
   all_goals obtain⟨Hi,hum⟩:=hJ
   all_goals unfold ch.Hh ch.DJ
   ·rw[ay (x:=(j:Int)+1) ω ω,ag j,aJ,aJ]
    have same: ∀k,k<l.length→k≠j→leftOf l (if k<j+1 then-1000000000*((i:Int)+1)else-1000000000*(i:Int)) k (u.getD k fm):=λk hk e=>by
     have:=hum k hk
     by_cases h:k<j
     ·rw[aj h]at this;rw[aj ω];exact this
     ·rw[ah h]at this;rw[ah ω];exact this
    have h0:=hum j ω
    rw[ah ω]at h0
    refine aw (λ_=>aB ⟨ω,ω⟩ (aB ⟨ω,ω⟩ (ok_eq (λ_=>aB ⟨ω,ω⟩ (aB ⟨ω,ω⟩ (eO _ ⟨by rw[bO];exact Hi,λk hk=> ?_⟩))) λ_=>eO u ⟨Hi,λk hk=> ?_⟩))) λ_=>ω
    ·by_cases e:k=j
     ·subst e
      rw[aj ω]
      obtain⟨q,e,q1,q2⟩:=h0
      have es: ∀y:gA,(u.set k y).getD k fm=y:=λy=>by
       rw[aU,List.getElem?_set_self ω];rfl
      rw[es,e]
      unfold aie
      dsimp only
      rw[ay (x:=q-v) ω ω]
      exact⟨q-v,rfl,ω,ω⟩
     ·have es: ∀y:gA,(u.set j y).getD k fm=u.getD k fm:=λy=>by
       rw[aU,aU,List.getElem?_set_ne ω]
      rw[es];exact same k hk e
    ·by_cases e:k=j
     ·subst e
      rw[aj ω]
      exact h0.mono ω
     ·exact same k hk e
   ·rw[ay (x:=(i:Int)+1) ω ω,ag i]
    exact aw (λ_=>ω) λ_=>hr (_,(_,_)) ⟨⟨Hi,λk hk=>by
     have:=hum k hk
     rw[aj ω]at this
     rw[Int.natCast_add];exact this⟩,⟨by dsimp only;omega,by dsimp only;omega⟩,by dsimp only;rw[List.length_append,List.length_singleton];omega⟩
  have DK:0<s.2.1→Ok (SN l o) (ch.HW N (ch.l7 N n) o s.1 s.2.1 s.2.2 w (i:Int)):=λHz=>by
   unfold ch.HW ch.B0
   rw[ay (x:=(i:Int)+1) ω ω,ag i,aJ]
   dsimp only
   have h1:=hr s ⟨⟨hs,λk hk=>(E4 k hk).mono ω⟩,hq,ω⟩
   have TJ:s.2.1≤1000000000:=fI hq.2 hoq
   have hm:0≤mn s.2.1 (w.getD i fm).2.2.2.2.1∧mn s.2.1 (w.getD i fm).2.2.2.2.1≤s.2.1:=by
    have h1:=hx.2.2.2.2.1.1
    generalize (w.getD i fm).2.2.2.2.1=q at*
    rw[Ry];split<;>omega
   repeat' first|exact h1|exact ah6 _ _ hm.1 hm.2 (fI hm.2 TJ)|refine aB ⟨ω,ω⟩ ?_|refine ok_eq (λ_=> ?_) (λ_=> ?_)
  repeat' first|exact f1|exact DK (by assumption)|refine aB ⟨ω,ω⟩ ?_|refine aw (λ_=> ?_) (λ_=> ?_)|refine ok_eq (λ_=> ?_) (λ_=> ?_)|(exfalso;omega)
 ·obtain⟨⟨hs,E4⟩,hq,ht⟩:=hI
  exact aw (λ_=>ω) λ_=>fin _ _ _ _ hs E4 hq.2
theorem X1(N:Nat)(hN:5000000≤N){c:ae}{b:an}{o:gA}{m:Nat}(h2:200≤m)(hm:m≤40000)(hc:G m aA c)(hb:G m aK b)(hR:RB c b)(ho:G 0 mV o):Ok (λr=>r.2.2.2=0→RB c r.1) (jl N c b o):=by
 have Ir:=hb.2.2.2.2.2.1.1
 have dI: ∀(t:bK) (e:Int),e≠0→Ok (λr:an×bK×Int×Int=>r.2.2.2=0→RB c r.1) (some ((cn,(c9,(bH,(bH,(dB,(dR,())))))),(t,((0:Int),e)))):=λt e h=>ak λh'=>absurd h' h
 obtain⟨g1,g2,g3⟩:=kB.1 hR.o
 unfold jl jl.b
 refine af (A3 N hN h2 hm hc hb (G.mono (bp m) ho)) λe he=>bq (λh=>dI _ _ h) λe0=> ?_
 obtain⟨o1,o2,o3⟩:=he e0
 have oA:=(nQ hR.a _).1 o2
 have DK: ∀(r:bB) (t:bK) (q:Int),ei r=true→(∀x∈r,∃y∈b.2.2.2.2.2.1,x.1=y.1∧x.2.1=y.2.1∧x.2.2.1=y.2.2.1)→q≤o.2.2.2.2.1→(0<q→r.length≤31)→(∀y∈b.2.2.2.2.2.1,mQ y.1 o.1)→Ok (λr=>r.2.2.2=0→RB c r.1) (jl.HW N c b o (cn,(c9,(bH,(bH,(dB,(dR,())))))) r t q):=λr t q hr hrm hq Ig fb=>by
  obtain⟨r1,r2,r3⟩:=kB.1 hr
  unfold jl.HW jl.B0
  refine af (Jt N hN ω hb hR) λz hz=>bq (λh=>dI _ _ h) λz0=> ?_
  obtain⟨zR,_,za,_⟩:=hz z0
  have hk: ∀x∈r,Gx c z.1.2.1 x:=λx hx=>by
   obtain⟨y,hy,_,e1,e2⟩:=hrm x hx
   have:=hR.ok y hy
   unfold Gx at this ⊢
   rw[za,e1,e2];exact this
  refine aw (λh0=>aC (by rw[aI];omega) (ak λ_=>zR.K6 (kB.2 ⟨λx hx=> ?_,?_,?_⟩) λx hx=> ?_)) λ_=>ak λ_=>zR.K6 hr hk
  ·rcases ba.1 hx with hx|hx
   ·exact r1 x hx
   ·rw[bV.1 hx]
    exact⟨o1.1,o1.2.1,o1.2.2.1,o1.2.2.2.1,⟨h0,fI hq o1.2.2.2.2.1.2⟩,o1.2.2.2.2.2⟩
  ·rw[vT]
   refine⟨r2,En ..,λx hx y hy=> ?_⟩
   rw[bV.1 hy]
   obtain⟨u,hu,e,_⟩:=hrm x hx
   unfold Jq
   rw[e];exact fb u hu
  ·rw[aS,aI];have:=Ig h0;omega
  ·rcases ba.1 hx with hx|hx
   ·exact hk x hx
   ·rw[bV.1 hx]
    unfold Gx
    rw[za];exact⟨oA,o3⟩
 have hj7:(∀y∈b.2.2.2.2.2.1,mQ y.1 o.1)→Ok (λr=>r.2.2.2=0→RB c r.1) (jl.j7 N c b o (cn,(c9,(bH,(bH,(dB,(dR,()))))))):=λfb=>by
  unfold jl.j7 jl.Vk
  refine af (X0 N ω ω hR.o o1) λz ⟨z1,z2,z3⟩=> ?_
  have zl:=(kB.1 z1).2.2
  exact aw (λh0=>ok_eq (λ_=>dI _ _ δ) λjB=>DK _ _ _ z1 z2 z3 (λ_=>ω) fb) λh0=>DK _ _ _ z1 z2 z3 (λh=>ω) fb
 refine aw (λh0=> ?_) λh0=>hj7 λy hy=> ?_
 ·dsimp only
  refine aB (by rw[ay ω ω];omega) (dY (λ_=>dI _ _ δ) λX2=>hj7 λy hy=> ?_)
  have e1:(W .i64 ((b.2.2.2.2.2.1.length:Int)-1)).toNat=b.2.2.2.2.2.1.length-1:=by rw[ay ω ω];omega
  rw[e1,ia ω]at X2
  obtain⟨k,hk,e⟩:=gm hy
  by_cases h:k=b.2.2.2.2.2.1.length-1
  ·subst h;rw[←e];exact X2
  ·have:=uq.1 g2 k (b.2.2.2.2.2.1.length-1) hk ω ω
   rw[e]at this
   exact Gw this X2
 ·have:=List.length_pos_of_mem hy
  omega
end VM
end
