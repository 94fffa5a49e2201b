/- A part of the proof of WindDrawn of layer 21: what the functions compute, in plain words. -/
import Derived.Test.YtecmobijochjkaaGreatPlain6
import Derived.Test.YtecmobijochjkaaGreatPlain4
set_option linter.all false
section
namespace VM
open Go VM.F
theorem iw{α:Type}{l:List α}{d:α}{i:Nat}(h:i<l.length):l.getD i d=l[i]:=by
 rw[aU,bm h];rfl
theorem gW{α:Type}{d:α}{l:List α}{Q:α→Prop}:(∀j,j<l.length→Q (l.getD j d))↔ ∀x∈l,Q x:=
 ⟨λh x hx=>by
  obtain⟨i,hi,e⟩:=gd hx
  rw[←e,←iw (d:=d) hi];exact h i hi,λh j hj=>h _ (ru hj)⟩
theorem tE{α:Type}{d:α}{R:α→α→Prop}(tr: ∀a b c,R a b→R b c→R a c): ∀l:List α,(∀j,j<l.length→0<j→R (l.getD (j-1) d) (l.getD j d))↔l.Pairwise R
 |[]=>⟨λ_=>List.Pairwise.nil,λ_ j hj=>nomatch hj⟩
 |[x]=>⟨λ_=>D5 R x,λ_ j hj h0=>by have:j<1:=hj;omega⟩
 |x::y::t=>by
  rw[eo,←tE tr (y::t)]
  constructor
  ·intro h
   have YE:R x y:=h 1 (by simp) ω
   have ht: ∀j,j<(y::t).length→0<j→R ((y::t).getD (j-1) d) ((y::t).getD j d):=λj hj h0=>by
    have:=h (j+1) (by simpa using hj) ω
    obtain⟨k,rfl⟩: ∃k,j=k+1:=⟨j-1,ω⟩
    exact this
   have hp:=(tE tr (y::t)).1 ht
   refine⟨λz hz=> ?_,ht⟩
   rcases aX.1 hz with rfl|hz
   ·exact YE
   ·exact tr _ _ _ YE ((eo.1 hp).1 z hz)
  ·rintro⟨h1,h2⟩ j hj h0
   obtain⟨k,rfl⟩: ∃k,j=k+1:=⟨j-1,ω⟩
   cases k with
   |zero=>exact h1 y (bn ..)
   |succ k=>exact h2 (k+1) (by simpa using hj) ω
def Xr(x y:yI):Prop:=n0 x.1 y.1
def NJ(x y:bX):Prop:=n0 x.1 y.1
def I4(x y:gj):Prop:=n0 x.1 y.1
theorem KE{a b c:Int}(h1:n0 a b)(h2:n0 b c):n0 a c:=Int.lt_trans h1 h2
def Xs(a b:Int):Prop:=1≤a∧a≤12∧1≤b∧b≤4
theorem gq{m:aD}:dp m=true↔(∀x∈m,Xs x.1 x.2.1)∧m.Pairwise Xr:=by
 unfold dp
 rw[gg,fb,←tE (R:=Xr) (d:=cz) (λ_ _ _=>KE),←gW (d:=cz)]
 exact⟨λh=>⟨λj hj=>⟨(h j hj).1,(h j hj).2.1,(h j hj).2.2.1,(h j hj).2.2.2.1⟩,λj hj h0=>(h j hj).2.2.2.2 h0⟩,λh j hj=>⟨(h.1 j hj).1,(h.1 j hj).2.1,(h.1 j hj).2.2.1,(h.1 j hj).2.2.2,λh0=>h.2 j hj h0⟩⟩
def amH(x y:bX):Prop:=dw x.2.2.1 1∧dw y.2.2.1 1∧dw x.2.1 y.2.1
def QD(x:bX):Prop:=lV x.1 x.2.1 x.2.2.1 x.2.2.2.1
def ntw(x y:bX):Prop:= ¬amH x y
theorem o6{a:aM}:fu a=true↔(∀x∈a,QD x)∧a.Pairwise NJ∧a.Pairwise ntw:=by
 unfold fu
 rw[gg,fb,←tE (R:=NJ) (d:=aV) (λ_ _ _=>KE),←gW (d:=aV),tL]
 constructor
 ·refine λh=>⟨λj hj=>(h j hj).1,λj hj h0=>(h j hj).2.1 h0,λi j hi hj pH ht=>(h j hj).2.2 ⟨?_,wz.2 ⟨i,pH,?_,?_⟩⟩⟩
  ·rw[iw hj];exact ht.2.1
  ·rw[iw hi];exact ht.1
  ·rw[iw hi,iw hj];exact ht.2.2
 ·rintro⟨h1,h2,h3⟩ j hj
  refine⟨h1 j hj,λh0=>h2 j hj h0,λ⟨ht,ho⟩=> ?_⟩
  obtain⟨i,pH,e1,e2⟩:=wz.1 ho
  rw[iw hj]at ht e2
  rw[iw (show i<a.length by omega)]at e1 e2
  exact h3 i j ω hj pH ⟨e1,ht,e2⟩
theorem kk{l:bq}:dY l=true↔(∀x∈l,qT x)∧l.Pairwise I4∧l.length≤32:=by
 unfold dY
 rw[cN,fb,fb,←tE (R:=I4) (d:=e7) (λ_ _ _=>KE),←gW (d:=e7)]
 exact⟨λh=>⟨λj hj=>(h.1 j hj).1,λj hj h0=>(h.1 j hj).2 h0,h.2⟩,λh=>⟨λj hj=>⟨h.1 j hj,λh0=>h.2.1 j hj h0⟩,h.2.2⟩⟩
def jd(m:aD)(n:Int):Prop:= ∃x∈m,dw x.1 n
def p7(a:aM)(n:Int):Prop:= ∃x∈a,dw x.1 n
theorem gr{n:Int}: ∀{m:aD},(∀x∈m,Xs x.1 x.2.1)→(¬dw (jA n m) 0↔jd m n)
 |[],_=>⟨λh=>absurd rfl h,λ⟨_,h,_⟩=>nomatch h⟩
 |x::t,h=>by
  have ih:=gr (n:=n) λy hy=>h y (a6 _ hy)
  have hx:=h x (bn ..)
  rw[uk]
  by_cases e:x.1=n
  ·rw[aj e]
   have g: ∀v:Int,1≤v→ ¬dw v 0:=λv h1 h2=>by unfold dw at h2;omega
   exact⟨λ_=>⟨x,bn ..,e⟩,λ_=>g _ hx.2.2.1⟩
  ·rw[ah e,ih]
   exact⟨λ⟨y,hy,h⟩=>⟨y,a6 _ hy,h⟩,λ⟨y,hy,h'⟩=>(aX.1 hy).elim (λk=>absurd (k▸h') e) λhy=>⟨y,hy,h'⟩⟩
theorem BH{n:Int}: ∀{a:aM},(tj n a).2=true↔p7 a n
 |[]=>⟨λh=>(nomatch h),λ⟨_,h,_⟩=>nomatch h⟩
 |x::t=>by
  rw[nW]
  by_cases e:x.1=n
  ·rw[aj e]
   exact⟨λ_=>⟨x,bn ..,e⟩,λ_=>rfl⟩
  ·rw[ah e,BH]
   exact⟨λ⟨y,hy,h⟩=>⟨y,a6 _ hy,h⟩,λ⟨y,hy,h'⟩=>(aX.1 hy).elim (λk=>absurd (k▸h') e) λhy=>⟨y,hy,h'⟩⟩
theorem uM{m:aD}(h:dp m=true)(n:Int): ¬dw (fZ m n) 0↔jd m n:=by
 unfold fZ;rw[aj h];exact gr (gq.1 h).1
theorem o7{a:aM}(h:fu a=true)(n:Int):(e9 a n).2=true↔p7 a n:=by
 unfold e9;rw[aj h];exact BH
def jm(m:aD)(a:aM)(k n:Int):Prop:=(dw k 5→p7 a n)∧(dw k 6∨dw k 7→jd m n)
def ym(c:ae)(a:aM)(k n:Int):Prop:=(dw k 0∨p7 a k)∧n0 n c.1.length
def Ga(c:ae)(a:aM)(x:gj):Prop:=p7 a x.2.1∧n0 x.2.2.1 c.1.length
theorem KF{m:aD}{a:aM}(hm:dp m=true)(ha:fu a=true){k n:Int}:F7 m a k n↔jm m a k n:=by
 unfold F7 jm;rw[o7 ha,uM hm]
theorem KG{c:ae}{a:aM}(ha:fu a=true){k n:Int}:F8 c a k n↔ym c a k n:=by
 unfold F8 ym;rw[o7 ha]
structure RB(C:ae)(b:aq):Prop where
 c:fI C=true
 m:dp b.1=true
 a:fu b.2.1=true
 ma: ∀x∈b.2.1,jd b.1 x.2.1
 r:ei b.2.2.1=true
 t:dw (gE b.2.2.1) 0
 s:nZ b.2.2.2.1=true
 o:dY b.2.2.2.2.2.1=true
 n:dw b.2.2.2.2.1.length C.1.length
 rk: ∀x∈b.2.2.1,jm b.1 b.2.1 x.1 x.2.1
 sk: ∀x∈b.2.2.2.1,ym C b.2.1 x.1 x.2.1
 ok: ∀x∈b.2.2.2.2.2.1,Ga C b.2.1 x
 p:eS b.2.2.2.2.1=true
theorem wU{c:ae}{b:aq}:dx c b=true↔RB c b:=by
 unfold dx pq
 simp only[bP,gg,fb]
 constructor
 ·rintro⟨b1,⟨b2,b2',ahX⟩,b3,b4,b5,b6,b7,b8,b9,b10,b11⟩
  refine⟨b1,b2,b2',?_,b3,b4,b5,b6,b7,?_,?_,?_,b11⟩
  ·exact(gW (d:=aV) (Q:=λx=>jd b.1 x.2.1)).1 λj hj=>(gr (gq.1 b2).1).1 (ahX j hj)
  ·exact(gW (d:=bl) (Q:=λx=>jm b.1 b.2.1 x.1 x.2.1)).1 λj hj=>(KF b2 b2').1 (b8 j hj)
  ·exact(gW (d:=bl) (Q:=λx=>ym c b.2.1 x.1 x.2.1)).1 λj hj=>(KG b2').1 (b9 j hj)
  ·exact(gW (d:=e7) (Q:=λx=>Ga c b.2.1 x)).1 λj hj=>⟨(o7 b2' _).1 (b10 j hj).1,(b10 j hj).2⟩
 ·rintro⟨b1,b2,b2',ahX,b3,b4,b5,b6,b7,b8,b9,b10,b11⟩
  refine⟨b1,⟨b2,b2',?_⟩,b3,b4,b5,b6,b7,?_,?_,?_,b11⟩
  ·exact λj hj=>(gr (gq.1 b2).1).2 ((gW (d:=aV) (Q:=λx=>jd b.1 x.2.1)).2 ahX j hj)
  ·exact λj hj=>(KF b2 b2').2 ((gW (d:=bl) (Q:=λx=>jm b.1 b.2.1 x.1 x.2.1)).2 b8 j hj)
  ·exact λj hj=>(KG b2').2 ((gW (d:=bl) (Q:=λx=>ym c b.2.1 x.1 x.2.1)).2 b9 j hj)
  ·exact λj hj=>let h:=(gW (d:=e7) (Q:=λx=>Ga c b.2.1 x)).2 b10 j hj;⟨(o7 b2' _).2 h.1,h.2⟩
theorem RB.Uj{c:ae}{b:aq}(h:RB c b){m:aD}{a:aM}(hm:dp m=true)(ha:fu a=true)(mm: ∀n,jd b.1 n→jd m n)(aa: ∀n,p7 b.2.1 n→p7 a n)(ma: ∀x∈a,jd m x.2.1):
  RB c (m,(a,b.2.2)):=
 ⟨h.c,hm,ha,ma,h.r,h.t,h.s,h.o,h.n,λx hx=>⟨λe=>aa _ ((h.rk x hx).1 e),λe=>mm _ ((h.rk x hx).2 e)⟩,λx hx=>⟨(h.sk x hx).1.imp id (aa _),(h.sk x hx).2⟩,λx hx=>⟨aa _ (h.ok x hx).1,(h.ok x hx).2⟩,h.p⟩
theorem RB.KH{c:ae}{b:aq}(h:RB c b){o:bq}(ho:dY o=true)(hk: ∀x∈o,Ga c b.2.1 x):RB c (b.1,(b.2.1,(b.2.2.1,(b.2.2.2.1,(b.2.2.2.2.1,(o,())))))):=
 ⟨h.c,h.m,h.a,h.ma,h.r,h.t,h.s,ho,h.n,h.rk,h.sk,hk,h.p⟩
theorem RB.amJ{c:ae}{b:aq}(h:RB c b){s e s' r':au}(h1:dW Fq (fS b.2.2.2.1 s) jr=some s')(h2:dW aE (fS b.2.2.1 e) ni=some r')
  (gs: ∀x∈s,bI x.1 x.2.1∧ym c b.2.1 x.1 x.2.1) (flat: ∀i:Int,(c5 i s).sum=0) (ge: ∀x∈e,cQ x.1 x.2.1∧jm b.1 b.2.1 x.1 x.2.1) (zero:(e.map dZ).sum=0):RB c (b.1,(b.2.1,(r',(s',b.2.2.2.2)))):=
 wU.1 (KD (wU.2 h) h1 h2 (λx hx=>⟨(gs x hx).1,(KG h.a).2 (gs x hx).2⟩) flat (λx hx=>⟨(ge x hx).1,(KF h.m h.a).2 (ge x hx).2⟩) zero)
abbrev RBs(c:ae)(b b':aq):Prop:=RB c b'∧b'.1=b.1∧b'.2.1=b.2.1∧b'.2.2.2.2=b.2.2.2.2
theorem RB.eI{c:ae}{b:aq}(h:RB c b){s e:au}(gs: ∀x∈s,bI x.1 x.2.1∧ym c b.2.1 x.1 x.2.1)(flat: ∀i:Int,(c5 i s).sum=0)
  (ge: ∀x∈e,cQ x.1 x.2.1∧jm b.1 b.2.1 x.1 x.2.1) (zero:(e.map dZ).sum=0) (h0:(VM.eI b s e).2=0):RBs c b (VM.eI b s e).1:=by
 rcases QB b s e with⟨h1,_⟩|⟨s',r',h1,h2,h3⟩
 ·rw[h1]at h0;exact absurd h0 δ
 ·rw[h3];exact⟨h.amJ h1 h2 gs flat ge zero,rfl,rfl,rfl⟩
end VM
end
section
namespace VM
open Go VM.F
theorem Ok.and{α:Type}{P Q:α→Prop}{o:Option α}(h1:Ok P o)(h2:Ok Q o):Ok (λr=>P r∧Q r) o:=by
 obtain⟨r,e,hr⟩:=h1
 obtain⟨q,e',hq⟩:=h2
 rw[e]at e'
 exact⟨r,e,hr,(mQ e')▸hq⟩
theorem AG{α:Type}{l:List α}{x y:α}(k:Nat):y∈l.take k++x::l.drop k↔y=x∨y∈l:=by
 have e:y∈l↔y∈l.take k∨y∈l.drop k:=by rw[←bb,gb]
 rw[e,bb,aX]
 constructor
 ·rintro(h|h|h)
  ·exact .inr (.inl h)
  ·exact .inl h
  ·exact .inr (.inr h)
 ·rintro(h|h|h)
  ·exact .inr (.inl h)
  ·exact .inl h
  ·exact .inr (.inr h)
theorem Gb{α:Type}{R:α→α→Prop}{l:List α}{x:α}{k:Nat}(hp:l.Pairwise R)(h1: ∀y∈l.take k,R y x)(h2: ∀y∈l.drop k,R x y):(l.take k++x::l.drop k).Pairwise R:=by
 rw[←gb k l,vu]at hp
 rw[vu,eo]
 exact⟨hp.1,⟨h2,hp.2.1⟩,λa ha b hb=>by
  rcases aX.1 hb with rfl|hb
  ·exact h1 a ha
  ·exact hp.2.2 a ha b hb⟩
theorem Sg{α:Type}{l:List α}{d:α}{f:α→Int}(hp:l.Pairwise λa b=>n0 (f a) (f b)){v:Int}{k:Nat}(h1: ∀j,j<k→n0 (f (l.getD j d)) v)(h2:k<l.length→ ¬n0 (f (l.getD k d)) v)(hn: ∀y∈l,¬dw (f y) v):
  (∀y∈l.take k,n0 (f y) v)∧ ∀y∈l.drop k,n0 v (f y):=by
 refine⟨λy hy=> ?_,λy hy=> ?_⟩
 ·obtain⟨j,hj,e⟩:=gd hy
  rw[cc]at hj
  rw[Ed]at e
  have:=h1 j ω
  rw[iw ω,e]at this
  exact this
 ·obtain⟨j,hj,e⟩:=gd hy
  rw[dO]at hj
  rw[Ec]at e
  have h3:=h2 ω
  rw[iw ω]at h3
  have h4:=hn y (mK hy)
  have g: ∀a b c:Int,¬n0 a c→(n0 a b∨a=b)→ ¬dw b c→n0 c b:=λa b c h h' JL=>by
   unfold n0 dw at*
   rcases h' with h'|h'<;>omega
  refine g _ _ _ h3 ?_ h4
  by_cases h0:j=0
  ·subst h0;right;rw[←e];rfl
  ·left
   have:=tL.1 hp k (k+j) ω ω ω
   rw[e]at this;exact this
theorem BI{α:Type}{l:List α}{d:α}(g:α→α){i:Nat}(hi:i<l.length):
  ((l.take i).map g++l.drop i).getD i d=l.getD i d∧((l.take i).map g++l.drop i).set i (g (l.getD i d))=(l.take (i+1)).map g++l.drop (i+1)∧(g (l.getD i d)=l.getD i d→(l.take i).map g++l.drop i=(l.take (i+1)).map g++l.drop (i+1)):=by
 have hlen:((l.take i).map g).length=i:=by rw[cv,cc];omega
 have e1:l.drop i=l[i]::l.drop (i+1):=pM hi
 have e2:l.take (i+1)=l.take i++[l[i]]:=(rT hi).symm
 rw[iw hi]
 refine⟨?_,?_,λh=> ?_⟩
 ·rw[aU,oq ω,hlen,sZ,e1];rfl
 ·rw[LB _ _ ω,hlen,sZ,e1,e2,List.set_cons_zero,cW,br];rfl
 ·rw[e1,e2,cW,br,bU,h];rfl
theorem xD{α:Type}(l:List α)(g:α→α)(i:Nat):((l.take i).map g++l.drop i).length=l.length:=by
 rw[aS,cv,cc,dO];omega
theorem Xt(N:Nat)(hN:200000≤N){a:aD}(hl:a.length≤50000)(id:Int):Ok (λr=>r.2=0→dp r.1=true∧ ∀n,jd a n→jd r.1 n) (hZ N a id):=by
 have bad: ∀e:Int,e≠0→Ok (λr:aD×Int=>r.2=0→dp r.1=true∧ ∀n,jd a n→jd r.1 n) (some ([],e)):=λe h=>an λh'=>absurd h' h
 have b1:=bad 1 δ
 unfold hZ hZ.b
 refine bA (mj N ω hN) (bt (λ_=>b1) λhM=>aw (λ_=>b1) λh1=>aw (λ_=>b1) λh2=>bA (g7 N ω hN id) (bx (λ_=>bad _ δ) λh0=> ?_))
 obtain⟨hm,hp⟩:=gq.1 hM
 have hn: ∀y∈a,¬dw y.1 id:=λy hy e=>(gr hm).2 ⟨y,hy,e⟩ h0
 have fin: ∀k:Nat,k≤a.length→(∀j,j<k→n0 (a.getD j cz).1 id)→(k<a.length→ ¬n0 (a.getD k cz).1 id)→Ok (λr=>r.2=0→dp r.1=true∧ ∀n,jd a n→jd r.1 n) (hZ.j9 N a id [] (k:Int)):=λk hk g1 g2=>by
  unfold hZ.j9 hZ.MP
  refine Kv hk ω λ_=> ?_
  simp only[cI,aJ,dq,cX,iS,br,lG]
  obtain⟨q1,q2⟩:=Sg (f:=λx:yI=>x.1) hp g1 g2 hn
  refine⟨gq.2 ⟨λx hx=> ?_,Gb hp q1 q2⟩,λn ⟨y,hy,e⟩=>⟨y,(AG k).2 (.inr hy),e⟩⟩
  rcases(AG k).1 hx with rfl|hx
  ·exact⟨h1,h2,(show(1:Int)≤1 by decide),(show(1:Int)≤4 by decide)⟩
  ·exact hm x hx
 refine bc (σ:=Unit) (len:=a.length) (F:=λn i _=>hZ.l7 N n a id [] i) (s:=()) (λi _=> ∀j,j<i→n0 (a.getD j cz).1 id) (λj hj=>absurd hj ω) ω (λn i _ hi hI hr=> ?_) (λn _ hI=> ?_)
 all_goals unfold hZ.l7 hZ.pj
 ·rw[ax (x:=(i:Int)+1) ω ω,ag i]
  refine aw (λ_=>aB ⟨ω,ω⟩ (aw (λh=>hr () λj hj=> ?_) λh=>fin i ω hI λ_ h'=> ?_)) λ_=>ω
  ·by_cases e:j=i
   ·subst e;exact h
   ·exact hI j ω
  ·have g: ∀x y:Int,n0 x y→y≤x→False:=λx y h h'=>by unfold n0 at h;omega
   exact g _ _ h' h
 ·exact aw (λ_=>ω) λ_=>fin _ (aG _) hI λh=>absurd h ω
theorem Xu(N:Nat)(a b:Int):Ok (λr=>r.2=true→1≤r.1∧r.1≤4) (TX N a b):=by
 have h: ∀(x:Int) (t:Bool),(t=true→1≤x∧x≤4)→Ok (λr:Int×Bool=>r.2=true→1≤r.1∧r.1≤4) (some (x,t)):=λx t hx=>an hx
 unfold TX
 repeat' first|refine ok_eq (λ_=> ?_) (λ_=> ?_)|exact h _ _ δ
def KI(id v:Int)(x:yI):yI:=if x.1=id then(x.1,(v,x.2.2))else x
theorem QE(id v:Int)(x:yI):(KI id v x).1=x.1:=by unfold KI;split<;>rfl
theorem wV{α:Type}{R:α→α→Prop}{g:α→α}{l:List α}(hp:l.Pairwise R)(h: ∀x∈l,∀y∈l,R x y→R (g x) (g y)):(l.map g).Pairwise R:=by
 rw[zj]
 exact hp.imp_of_mem λhx hy h'=>h _ hx _ hy h'
theorem Sh(N:Nat)(hN:200000≤N){l:aD}(hl:l.length≤50000)(id k:Int):Ok (λr=>r.2=0→dp r.1=true∧(∀n,jd l n→jd r.1 n)∧jd l id) (lq N l id k):=by
 have bad: ∀e:Int,e≠0→Ok (λr:aD×Int=>r.2=0→dp r.1=true∧(∀n,jd l n→jd r.1 n)∧jd l id) (some ([],e)):=λe h=>an λh'=>absurd h' h
 unfold lq lq.b
 refine bA (mj N ω hN) (bt (λ_=>bad _ δ) λhM=>bA (g7 N ω hN _) (ok_eq (λ_=>bad _ δ) λGG=>af (Xu N _ _) λz hz=>bt (λ_=>bad _ δ) λGM=>aC (by rw[bS];omega) ?_))
 obtain⟨hm,hp⟩:=gq.1 hM
 have hz:=hz GM
 rw[cI]
 refine bc (len:=l.length) (F:=λn i s=>lq.BA N n id z.1 s i) (λi s=>s=(l.take i).map (KI id z.1)++l.drop i) rfl ω (λn i s hi hI hr=> ?_) (λn s hI=> ?_)
 all_goals unfold lq.BA lq.yO
 ·rw[ax (x:=(i:Int)+1) ω ω,ag i]
  obtain⟨s1,s2,s3⟩:=BI (d:=cz) (KI id z.1) hi
  have hs:s.length=l.length:=by rw[hI];exact xD l _ i
  rw[←hI]at s1 s2 s3
  refine aw (λ_=>aB ⟨ω,ω⟩ (ok_eq (λe=>aB ⟨ω,ω⟩ (hr _ ?_)) λe=>hr s (s3 ?_))) λ_=>ω
  ·rw[aJ,s1]at e ⊢
   rw[←s2]
   unfold KI;rw[aj e]
  ·rw[aJ,s1]at e
   unfold KI;rw[ah e]
 ·have hs:s.length=l.length:=by rw[hI];exact xD l _ _
  have e:s=l.map (KI id z.1):=by rw[hI,iS,mM,ch]
  refine aw (λ_=>ω) λ_=>an λ_=> ?_
  dsimp only
  rw[e]
  refine⟨gq.2 ⟨λx hx=> ?_,wV hp λx _ y _ h=> ?_⟩,λn ⟨y,hy,e⟩=>⟨KI id z.1 y,eO hy,?_⟩,(gr hm).1 GG⟩
  ·obtain⟨y,hy,rfl⟩:=cC.1 hx
   have h:=hm y hy
   unfold KI
   split
   ·exact⟨h.1,h.2.1,hz.1,hz.2⟩
   ·exact h
  ·unfold Xr;rw[QE,QE];exact h
  ·rw[QE];exact e
def HC(id v:Int)(x:bX):bX:=if x.1=id then(x.1,(x.2.1,(x.2.2.1,(v,x.2.2.2.2))))else x
def Dt(id v:Int)(x:bX):bX:=if x.1=id then(x.1,(v,x.2.2))else x
theorem wX(id v:Int)(x:bX):(HC id v x).1=x.1∧(HC id v x).2.1=x.2.1∧(HC id v x).2.2.1=x.2.2.1:=by unfold HC;split<;>exact⟨rfl,rfl,rfl⟩
theorem Gc(id v:Int)(x:bX):(Dt id v x).1=x.1∧(Dt id v x).2.2=x.2.2:=by unfold Dt;split<;>exact⟨rfl,rfl⟩
theorem NK{a:aM}{g:bX→bX}(hg: ∀x,(g x).1=x.1)(n:Int)(h:p7 a n):p7 (a.map g) n:=by
 obtain⟨y,hy,e⟩:=h
 exact⟨g y,eO hy,by rw[hg];exact e⟩
abbrev rL(m:aD)(a:aM)(r:aM×Int):Prop:=r.2=0→fu r.1=true∧(∀n,p7 a n→p7 r.1 n)∧ ∀x∈r.1,jd m x.2.1
theorem rL.bad{m:aD}{a:aM}{e:Int}(h:e≠0):Ok (rL m a) (some ([],e)):=an λh'=>absurd h' h
theorem Xv(N:Nat)(hN:200000≤N){m:aD}{l:aM}(hl:l.length≤50000)(hm: ∀x∈l,jd m x.2.1)(id q:Int):Ok (rL m l) (nr N l id q):=by
 unfold nr nr.b
 refine bA (tk N ω hN) (bt (λ_=>rL.bad δ) λhA=>aw (λ_=>rL.bad δ) λq0=>aw (λ_=>rL.bad δ) λq1=>bA (qU N ω hN _) (bt (λ_=>rL.bad δ) λ_=>aC (by rw[bS];omega) ?_))
 obtain⟨ha,hp,ht⟩:=o6.1 hA
 rw[cI]
 refine bc (len:=l.length) (F:=λn i s=>nr.l8 N n id q s i) (λi s=>s=(l.take i).map (HC id q)++l.drop i) rfl ω (λn i s hi hI hr=> ?_) (λn s hI=> ?_)
 all_goals unfold nr.l8 nr.xR
 ·rw[ax (x:=(i:Int)+1) ω ω,ag i]
  obtain⟨s1,s2,s3⟩:=BI (d:=aV) (HC id q) hi
  have hs:s.length=l.length:=by rw[hI];exact xD l _ i
  rw[←hI]at s1 s2 s3
  refine aw (λ_=>aB ⟨ω,ω⟩ (ok_eq (λe=>aB ⟨ω,ω⟩ (hr _ ?_)) λe=>hr s (s3 ?_))) λ_=>ω
  ·rw[aJ,s1]at e ⊢
   rw[←s2]
   unfold HC;rw[aj e]
  ·rw[aJ,s1]at e
   unfold HC;rw[ah e]
 ·have hs:s.length=l.length:=by rw[hI];exact xD l _ _
  have e:s=l.map (HC id q):=by rw[hI,iS,mM,ch]
  refine aw (λ_=>ω) λ_=>an λ_=> ?_
  dsimp only
  rw[e]
  refine⟨o6.2 ⟨λx hx=> ?_,wV hp λx _ y _ h=> ?_,wV ht λx _ y _ h=> ?_⟩,NK λx=>(wX id q x).1,λx hx=> ?_⟩
  ·obtain⟨y,hy,rfl⟩:=cC.1 hx
   have h:=ha y hy
   unfold HC
   split
   ·exact⟨h.1,h.2.1,h.2.2.1,q0,q1⟩
   ·exact h
  ·unfold NJ;rw[(wX id q x).1,(wX id q y).1];exact h
  ·unfold ntw amH;rw[(wX id q x).2.1,(wX id q y).2.1,(wX id q x).2.2,(wX id q y).2.2];exact h
  ·obtain⟨y,hy,rfl⟩:=cC.1 hx
   rw[(wX id q y).2.1];exact hm y hy
theorem I5{n:Int}: ∀{l:aM},l.Pairwise NJ→ ∀x∈l,dw x.1 n→(tj n l).1=x
 |[],_,x,hx,_=>nomatch hx
 |y::t,hp,x,hx,e=>by
  rw[nW]
  rcases aX.1 hx with rfl|hx
  ·rw[aj (show x.1=n from e)]
  ·have h:n0 y.1 x.1:=(eo.1 hp).1 x hx
   have g: ∀a b:Int,n0 a b→dw b n→ ¬a=n:=λa b h1 h2=>by unfold n0 dw at*;omega
   rw[ah (g _ _ h e)]
   exact I5 (eo.1 hp).2 x hx e
theorem QF(N:Nat)(hN:200000≤N){m:aD}{l:aM}(GD:m.length≤50000)(hl:l.length≤50000)(id to:Int):Ok (rL m l) (ns N m l id to):=by
 unfold ns ns.b
 refine bA (wD N ω ω hN) (bt (λ_=>rL.bad δ) λhR=>bA (qU N ω hN _) (bA (g7 N ω hN _) (bt (λ_=>rL.bad δ) λ_=>ok_eq (λ_=>rL.bad δ) λhs=>bx (λ_=>rL.bad δ) λhk=>bx (λ_=>rL.bad δ) λ_=>aC (by rw[bS];omega) ?_)))
 unfold pq at hR
 simp only[bP,gg,fb]at hR
 obtain⟨hM,hA,hma⟩:=hR
 obtain⟨ha,hp,ht⟩:=o6.1 hA
 have hmm:=(gq.1 hM).1
 obtain⟨mx,K7,emx⟩:=(gr hmm).1 hs
 have hm: ∀x∈l,jd m x.2.1:=(gW (d:=aV) (Q:=λx=>jd m x.2.1)).1 λj hj=>(gr hmm).1 (hma j hj)
 rw[cI]
 refine bc (len:=l.length) (F:=λn i s=>ns.nG N n id to s i) (λi s=>s=(l.take i).map (Dt id to)++l.drop i) rfl ω (λn i s hi hI hr=> ?_) (λn s hI=> ?_)
 all_goals unfold ns.nG ns.mE
 ·rw[ax (x:=(i:Int)+1) ω ω,ag i]
  obtain⟨s1,s2,s3⟩:=BI (d:=aV) (Dt id to) hi
  have hs:s.length=l.length:=by rw[hI];exact xD l _ i
  rw[←hI]at s1 s2 s3
  refine aw (λ_=>aB ⟨ω,ω⟩ (ok_eq (λe=>aB ⟨ω,ω⟩ (hr _ ?_)) λe=>hr s (s3 ?_))) λ_=>ω
  ·rw[aJ,s1]at e ⊢
   rw[←s2]
   unfold Dt;rw[aj e]
  ·rw[aJ,s1]at e
   unfold Dt;rw[ah e]
 ·have hs:s.length=l.length:=by rw[hI];exact xD l _ _
  have e:s=l.map (Dt id to):=by rw[hI,iS,mM,ch]
  refine aw (λ_=>ω) λ_=>an λ_=> ?_
  dsimp only
  rw[e]
  have cl: ∀x∈l,x.1=id→x.2.2.1=2:=λx hx e=>by rw[←I5 hp x hx e];exact hk
  have mo:Xs mx.1 mx.2.1:=hmm mx K7
  have amL:mx.1=to:=emx
  refine⟨o6.2 ⟨λx hx=> ?_,wV hp λx _ y _ h=> ?_,wV ht λx hx y hy h=> ?_⟩,NK λx=>(Gc id to x).1,λx hx=> ?_⟩
  ·obtain⟨y,hy,rfl⟩:=cC.1 hx
   have h:=ha y hy
   unfold Dt
   split
   ·exact⟨h.1,⟨amL▸mo.1,amL▸mo.2.1⟩,h.2.2⟩
   ·exact h
  ·unfold NJ;rw[(Gc id to x).1,(Gc id to y).1];exact h
  ·intro ⟨t1,t2,t3⟩
   rw[(Gc id to x).2]at t1
   rw[(Gc id to y).2]at t2
   have nx: ∀x∈l,dw x.2.2.1 1→Dt id to x=x:=λx hx e=>by
    unfold Dt
    rw[ah]
    intro h'
    have:=cl x hx h'
    have e':x.2.2.1=1:=e
    rw[e']at this;exact absurd this δ
   rw[nx x hx t1,nx y hy t2]at t3
   exact h ⟨t1,t2,t3⟩
  ·obtain⟨y,hy,rfl⟩:=cC.1 hx
   unfold Dt
   split
   ·exact⟨mx,K7,emx⟩
   ·exact hm y hy
theorem CI{n:Int}: ∀{l:aM},(∀x∈l,QD x)→m6 n l=0→ ∀x∈l,dw x.2.2.1 1→ ¬dw x.2.1 n
 |[],_,_,x,hx,_=>nomatch hx
 |y::t,ha,h,x,hx,e=>by
  rw[sl]at h
  have ih:=CI (n:=n) λz hz=>ha z (a6 _ hz)
  have hy:QD y:=ha y (bn ..)
  have g: ∀v:Int,1≤v→ ¬v=0:=λv h1 h2=>ω
  by_cases e1:y.2.1=n
  ·rw[aj e1]at h
   by_cases e2:y.2.2.1=1
   ·rw[aj e2]at h;exact absurd h (g _ hy.1.1)
   ·rw[ah e2]at h
    rcases aX.1 hx with rfl|hx
    ·exact absurd e e2
    ·exact ih h x hx e
  ·rw[ah e1]at h
   rcases aX.1 hx with rfl|hx
   ·exact e1
   ·exact ih h x hx e
theorem aaL(N:Nat)(hN:200000≤N){m:aD}{l:aM}(GD:m.length≤50000)(hl:l.length≤50000)(x:bX):Ok (rL m l) (fa N m l x):=by
 unfold fa fa.b
 refine bA (wD N ω ω hN) (bt (λ_=>rL.bad δ) λhR=>bA (tk N (l:=[x]) (by rw[aI];omega) hN) (bt (λ_=>rL.bad δ) λhX=>bA (g7 N ω hN _) (ok_eq (λ_=>rL.bad δ) λhs=>bx (λ_=>rL.bad δ) λ_=>bA (qU N ω hN _) (oZ (λ_=>rL.bad δ) λhf=> ?_))))
 unfold pq at hR
 simp only[bP,gg,fb]at hR
 obtain⟨hM,hA,hma⟩:=hR
 obtain⟨ha,hp,ht⟩:=o6.1 hA
 have hmm:=(gq.1 hM).1
 have hx:=(o6.1 hX).1 x (bT.2 rfl)
 have hxm:=(gr hmm).1 hs
 have hm: ∀x∈l,jd m x.2.1:=(gW (d:=aV) (Q:=λx=>jd m x.2.1)).1 λj hj=>(gr hmm).1 (hma j hj)
 have hn: ∀y∈l,¬dw y.1 x.1:=λy hy e=>by
  have:=BH.2 ⟨y,hy,e⟩
  rw[hf]at this;exact nomatch this
 have fin:(∀y∈l,ntw y x)→ ∀k:Nat,k≤l.length→(∀j,j<k→n0 (l.getD j aV).1 x.1)→(k<l.length→ ¬n0 (l.getD k aV).1 x.1)→Ok (rL m l) (fa.AU N l x [] (k:Int)):=λhw k hk g1 g2=>by
  unfold fa.AU fa.uI
  refine Kv hk ω λ_=> ?_
  simp only[cI,aJ,dq,cX,iS,br,lG]
  obtain⟨q1,q2⟩:=Sg (f:=λx:bX=>x.1) hp g1 g2 hn
  have tw: ∀y∈l,ntw x y:=λy hy ⟨t1,t2,t3⟩=>hw y hy ⟨t2,t1,Eq.symm t3⟩
  refine⟨o6.2 ⟨λy hy=> ?_,Gb hp q1 q2,Gb ht (λy hy=>hw y (lC hy)) λy hy=>tw y (mK hy)⟩,λn ⟨y,hy,e⟩=>⟨y,(AG k).2 (.inr hy),e⟩,λy hy=> ?_⟩
  ·rcases(AG k).1 hy with rfl|hy
   ·exact hx
   ·exact ha y hy
  ·rcases(AG k).1 hy with rfl|hy
   ·exact hxm
   ·exact hm y hy
 have hj:(∀y∈l,ntw y x)→Ok (rL m l) (fa.IX N l x):=λhw=>by
  unfold fa.IX fa.BB
  refine bc (σ:=Unit) (len:=l.length) (F:=λn i _=>fa.nG N n l x [] i) (s:=()) (λi _=> ∀j,j<i→n0 (l.getD j aV).1 x.1) (λj hj=>absurd hj ω) ω (λn i _ hi hI hr=> ?_) (λn _ hI=> ?_)
  all_goals unfold fa.nG fa.mE
  ·rw[ax (x:=(i:Int)+1) ω ω,ag i]
   refine aw (λ_=>aB ⟨ω,ω⟩ (aw (λh=>hr () λj hj=> ?_) λh=>fin hw i ω hI λ_ h'=> ?_)) λ_=>ω
   ·by_cases e:j=i
    ·subst e;exact h
    ·exact hI j ω
   ·have g: ∀x y:Int,n0 x y→y≤x→False:=λx y h h'=>by unfold n0 at h;omega
    exact g _ _ h' h
  ·exact aw (λ_=>ω) λ_=>fin hw _ (aG _) hI λh=>absurd h ω
 refine ok_eq (λe=>bA (qi N ω hN _) (bx (λ_=>rL.bad δ) λh0=>hj λy hy ⟨t1,_,t3⟩=> ?_)) λe=>hj λy hy ⟨_,t2,_⟩=>e t2
 unfold m7 at h0
 rw[aj hA]at h0
 exact CI ha h0 y hy t1 t3
end VM
end
section
namespace VM
open Go VM.F
def PB(m:aD)(a:aM)(p:bE):Prop:=
 ∃e:au,p=e.map gR∧Bm e∧(∀x∈e,cQ x.1 x.2.1∧jm m a x.1 x.2.1)∧(e.map dZ).sum=0
def SB(c:ae)(a:aM)(s:au):Prop:=ec s∧(∀x∈s,bI x.1 x.2.1∧ym c a x.1 x.2.1)∧ ∀i:Int,(c5 i s).sum=0
theorem PB.nil{m:aD}{a:aM}:PB m a []:=⟨[],rfl,λx hx=>(nomatch hx),λx hx=>(nomatch hx),rfl⟩
theorem PB.app{m:aD}{a:aM}{p q:bE}(hp:PB m a p)(hq:PB m a q):PB m a (p++q):=by
 obtain⟨e,rfl,e1,e2,e3⟩:=hp
 obtain⟨f,rfl,f1,f2,f3⟩:=hq
 refine⟨e++f,cW.symm,λx hx=>(bb.1 hx).elim (e1 x) (f1 x),λx hx=>(bb.1 hx).elim (e2 x) (f2 x),?_⟩
 rw[cW,lH,e3,f3];rfl
theorem Gd(i:Int): ∀s t:au,c5 i (s++t)=c5 i s++c5 i t
 |[],t=>rfl
 |x::s,t=>by
  rw[lG,df,df,Gd i s t]
  split<;>rfl
theorem SB.nil{c:ae}{a:aM}:SB c a []:=⟨λx hx=>(nomatch hx),λx hx=>(nomatch hx),λ_=>rfl⟩
theorem SB.app{c:ae}{a:aM}{s t:au}(hs:SB c a s)(ht:SB c a t):SB c a (s++t):=
 ⟨λx hx=>(bb.1 hx).elim (hs.1 x) (ht.1 x),λx hx=>(bb.1 hx).elim (hs.2.1 x) (ht.2.1 x),λi=>by rw[Gd,lH,hs.2.2,ht.2.2];rfl⟩
theorem SB.two{c:ae}{a:aM}{x y i q r:Int}(hq:aE q)(hr:aE r)(e:q+r=0)(hx:bI x i∧ym c a x i)(hy:bI y i∧ym c a y i):SB c a [(x,(i,(q,()))),(y,(i,(r,())))]:=by
 refine⟨λz hz=> ?_,λz hz=> ?_,λj=> ?_⟩
 ·rcases aX.1 hz with rfl|hz
  ·exact hq
  ·rw[bT.1 hz];exact hr
 ·rcases aX.1 hz with rfl|hz
  ·exact hx
  ·rw[bT.1 hz];exact hy
 ·rw[df,df]
  by_cases h:i=j
  ·rw[aj h,aj h]
   show q+(r+0)=0
   omega
  ·rw[ah h,ah h];rfl
theorem PB.two{m:aD}{a:aM}{k n k' n' v w:Int}(hv:dm v)(hw:dm w)(e:v+w=0)(h1:cQ k n∧jm m a k n)(h2:cQ k' n'∧jm m a k' n'):PB m a [(k,(n,(cT v,()))),(k',(n',(cT w,())))]:=by
 refine⟨[(k,(n,(v,()))),(k',(n',(w,())))],rfl,λz hz=> ?_,λz hz=> ?_,?_⟩
 ·rcases aX.1 hz with rfl|hz
  ·exact hv
  ·rw[bT.1 hz];exact hw
 ·rcases aX.1 hz with rfl|hz
  ·exact h1
  ·rw[bT.1 hz];exact h2
 ·show v+(w+0)=0
  omega
abbrev I6(c:ae)(b:aq)(r:aq×Int):Prop:=r.2=0→RBs c b r.1
theorem I6.bad{c:ae}{b b':aq}{e:Int}(h:e≠0):Ok (I6 c b) (some (b',e)):=an λh'=>absurd h' h
theorem Xw(N:Nat)(hN:4000000≤N){b:aq}{s e:au}(w:g8 b)(hr:ei b.2.2.1=true)(hs:cZ b.2.2.2.1=true)(lr:b.2.2.1.length≤90000)(ls:b.2.2.2.1.length≤90000)(qs:ec s)(lns:s.length≤100000)(qe:Bm e)(lne:e.length≤100000):
  xT N b s (e.map gR)=some (eI b s e):=by
 unfold xT eI
 rw[Fp N hN hs ls w.qs qs lns,RU N hN hr lr w.qr qe lne]
 unfold vm
 rw[ar,ar]
 cases dW Fq (fS b.2.2.2.1 s) jr with
 |none=>rfl
 |some s'=>
  cases dW aE (fS b.2.2.1 e) ni with
  |none=>rfl
  |some r'=>rfl
theorem sA(N:Nat)(hN:4000000≤N){c:ae}{b:aq}{s:au}{p:bE}{m:Nat}(hm:m≤50000)(hb:G m aK b)(h:RB c b)(hs:SB c b.2.1 s)(hp:PB b.1 b.2.1 p)(ls:s.length≤50000)(lp:p.length≤50000):Ok (I6 c b) (xT N b s p):=by
 obtain⟨e,rfl,e1,e2,e3⟩:=hp
 obtain⟨hr,GG⟩:=gk (wU.2 h)
 have w:=G.wf hm hb
 rw[cv]at lp
 exact np (Xw N hN w.w hr GG w.r w.s hs.1 ω e1 ω) λh0=>h.eI hs.2.1 hs.2.2 e2 e3 h0
theorem oD{v:Int}(h:aE v):dm v∧dm (-v):=by unfold aE at h;unfold dm;omega
theorem sB(N:Nat)(hN:4000000≤N){m:aD}{a:aM}{k n k' n' v:Int}(hv:dm v∧dm (-v))(h1:cQ k n∧jm m a k n)(h2:cQ k' n'∧jm m a k' n'):Ok (λr=>PB m a r∧r.length=2) (xU N k n k' n' (cT v)):=by
 unfold xU
 exact bA (jo N hN (Ao hv.1)) (an ⟨PB.two hv.2 hv.1 ω h1 h2,rfl⟩)
theorem tF{c:ae}{b:aq}(h:RB c b){k:Int}(hk:p7 b.2.1 k):cQ 5 k∧jm b.1 b.2.1 5 k:=by
 obtain⟨y,hy,e⟩:=hk
 have hk:=(o6.1 h.a).1 y hy
 have e':y.1=k:=e
 exact⟨.inr (.inl ⟨rfl,e'▸hk.1⟩),λ_=>⟨y,hy,e⟩,λh=>absurd h δ⟩
theorem BJ{m:aD}{a:aM}{k:Int}(h:1≤k∧k≤4):cQ k 0∧jm m a k 0:=
 ⟨.inl ⟨h.1,h.2,rfl⟩,λe=>by unfold dw at e;omega,λe=>by unfold dw at e;omega⟩
theorem AH{c:ae}{b:aq}(h:RB c b){k n:Int}(hk:6≤k∧k≤7)(hn:jd b.1 n):cQ k n∧jm b.1 b.2.1 k n:=by
 obtain⟨y,hy,e⟩:=hn
 have hm:=(gq.1 h.m).1 y hy
 have e':y.1=n:=e
 exact⟨.inr (.inr ⟨hk.1,hk.2,e'▸hm.1,e'▸hm.2.1⟩),λe=>by unfold dw at e;omega,λ_=>⟨y,hy,e⟩⟩
theorem KJ{m:aD}{a:aM}{k:Int}(h:dw k 0∨p7 a k)(hk:0≤k∧k≤24)(x:Int):cQ (Au k x).1 (Au k x).2.1∧jm m a (Au k x).1 (Au k x).2.1:=by
 unfold Au
 by_cases e:k=0
 ·rw[aj e]
  exact⟨show cQ 2 0 by decide,λh=>absurd h (show ¬dw 2 5 by decide),λh=>absurd h (show ¬(dw 2 6∨dw 2 7)by decide)⟩
 ·rw[ah e]
  refine⟨show cQ 5 k by unfold cQ;omega,λ_=>h.elim (λh=>absurd h e) id,λh=>absurd h (show ¬(dw 5 6∨dw 5 7)by decide)⟩
theorem NL{c:ae}{b:aq}(h:RB c b){k:Int}(ht:((e9 b.2.1 k).2||decide (dw k 0))=true):dw k 0∨p7 b.2.1 k:=by
 rcases Bool.or_eq_true_iff.1 ht with ht|ht
 ·exact .inr ((o7 h.a k).1 ht)
 ·exact .inl (bz ht)
theorem HD(N:Nat)(hN:4000000≤N){m:aD}{a:aM}{t:sK}{p:Int}(ht:nj t)(hp:iY p)(h1:dw t.1 0∨p7 a t.1)(h2:dw t.2.1 0∨p7 a t.2.1):Ok (λr=>PB m a r.1∧r.1.length≤2) (Qk N t p):=by
 refine np (Hs N hN ht hp) ?_
 have ht':=ht
 unfold nj ki at ht'
 have hk:dm ((p-t.2.2.2.2.1)*t.2.2.2.1)∧dm (-((p-t.2.2.2.2.1)*t.2.2.2.1)):=by
  have hq:=ht'.2.2.2.2.1
  have he:=ht'.2.2.2.2.2
  generalize t.2.2.2.2.1=e at*
  generalize t.2.2.2.1=q at*
  unfold iY at hp he
  have:=IA (d:=p-e) ω hq
  unfold dm;omega
 unfold Qj
 dsimp only
 split
 ·exact⟨PB.nil,bo _⟩
 ·refine⟨⟨_,rfl,λx hx=> ?_,λx hx=> ?_,?_⟩,aG 2⟩
  ·rcases aX.1 hx with rfl|hx
   ·rw[nk];exact hk.1
   ·rw[bT.1 hx,nk];exact hk.2
  ·rcases aX.1 hx with rfl|hx
   ·exact KJ h1 ht'.1 _
   ·rw[bT.1 hx];exact KJ h2 ht'.2.1 _
  ·rw[bU,bU,iT,nk,nk,cy,cy,ky];omega
theorem I7(N:Nat)(hN:5000000≤N){c:ae}{b:aq}{l:bK}{m:Nat}(hm:m≤50000)(hb:G m aK b)(h:RB c b):Ok (I6 c b) (gv N c b l):=by
 unfold gv gv.b
 refine bA (dG N hN hm hb) (bt (λ_=>I6.bad δ) λhB=>aw (λ_=>I6.bad δ) λhl=> ?_)
 obtain⟨hp,GC⟩:=g9 hB
 refine bc (len:=l.length) (F:=λn i (_:Unit)=>gv.l4 N n l c b (cm,(c8,(bH,(bH,(dC,(dP,())))))) i) (s:=()) (λi _=> ∀j,j<i→nj (l.getD j mz)) (λj hj=>ω) ω (λn i _ hi hI hr=> ?_) (λn _ hI=> ?_)
 all_goals unfold gv.l4 gv.dv
 ·rw[ax (x:=(i:Int)+1) ω ω,ag i]
  refine aw (λ_=>aB ⟨ω,ω⟩ (bA (xw N _) (bt (λ_=>I6.bad δ) λht=>hr () λj hj=> ?_))) λ_=>ω
  by_cases e:j=i
  ·rw[e];exact bz ht
  ·exact hI j ω
 ·refine aw (λ_=>ω) λ_=> ?_
  have wf:=G.wf hm hb
  refine bc (len:=l.length) (F:=λn i (s:au×bE)=>gv.BA N n l c b (cm,(c8,(bH,(bH,(dC,(dP,())))))) s.1 s.2 i) (s:=(_,_)) (λi s=>(SB c b.2.1 s.1∧s.1.length≤2*i)∧PB b.1 b.2.1 s.2∧s.2.length≤2*i) ⟨⟨SB.nil,bo _⟩,PB.nil,bo _⟩ ω (λn i s hi hJ hr=> ?_) (λn s hJ=> ?_)
  all_goals unfold gv.BA gv.yO
  all_goals obtain⟨⟨j1,j2⟩,j3,j4⟩:=hJ
  ·have ht0:=hI i hi
   have ht:=ht0
   unfold nj ki at ht
   dsimp only
   rw[ax (x:=(i:Int)+1) ω ω,ag i,aJ]
   generalize l.getD i mz=t at*
   refine aw (λ_=>aB ⟨ω,ω⟩ (bA (tp N b wf.w.a ω _) (bt (λ_=>I6.bad δ) λt1=>bA (tp N b wf.w.a ω _) (bt (λ_=>I6.bad δ) λt2=>dU (λ_=>I6.bad δ) λeZ=>aC ?_ (aB ⟨ht.2.2.2.1.1,by rw[hp];exact eZ⟩ ?_))))) λ_=>ω
   ·rw[aR,aI];omega
   have i1:=NL h t1
   have i2:=NL h t2
   have pr:iY (b.2.2.2.2.1.getD t.2.2.1.toNat 0):=by
    unfold eS at GC
    have hk:t.2.2.1.toNat<b.2.2.2.2.1.length:=by
     rw[hp]
     have g: ∀x:Int,0≤x→x<(c.1.length:Int)→x.toNat<c.1.length:=λx h1 h2=>ω
     exact g _ ht.2.2.2.1.1 eZ
    exact(bz GC) _ hk
   refine af (HD N ω ht0 pr i1 i2) λr ⟨zX,yv⟩=>aC ω (hr (_,_) ⟨⟨?_,?_⟩,PB.app j3 zX,?_⟩)
   ·refine SB.app j1 ?_
    have hq:aE t.2.2.2.1∧aE (0-t.2.2.2.1)∧W .i64 (0-t.2.2.2.1)=0-t.2.2.2.1:=by
     have hq:=ht.2.2.2.2.1
     generalize t.2.2.2.1=q at*
     exact⟨by unfold aE;omega,by unfold aE;omega,ax ω ω⟩
    rw[hq.2.2]
    have pl: ∀x:Int,0≤x∧x≤24→bI x t.2.2.1:=λx hx=>⟨hx.1,hx.2,ht.2.2.2.1.1,ht.2.2.2.1.2⟩
    exact SB.two hq.1 hq.2.1 ω ⟨pl _ ht.1,i1,eZ⟩ ⟨pl _ ht.2.1,i2,eZ⟩
   ·dsimp only;rw[List.length_append,List.length_cons,List.length_singleton];omega
   ·dsimp only;rw[List.length_append];omega
  ·exact aw (λ_=>ω) λ_=>af (sA N ω hm hb h j1 j3 ω ω) λr h=>an h
theorem aaM(N:Nat)(hN:5000000≤N){c:ae}{b:aq}{h:bX}{a q p:Int}{m:Nat}(h2:200≤m)(hm:m≤40000)(hc:G m aA c)(hb:G m aK b)(hR:RB c b)(hh:G m ej h)(ha:aE a)(hq:aE q)(hp:aE p):Ok (λr=>r.2.2=0→RB c r.1∧r.2.1.2.1=h.2.1∧Wv r.2.1.2.2.2.1 1000000000) (pA N c b h a q p):=by
 have ho:G m mJ (h.1,(a,(h.2.1,(W .i64 (3-h.2.2.1),(q,(p,())))))):=⟨hh.1,ha,hh.2.1,fQ _,hq,hp,trivial⟩
 have dH: ∀e:Int,e≠0→Ok (λr:aq×bX×Int=>r.2.2=0→RB c r.1∧r.2.1.2.1=h.2.1∧Wv r.2.1.2.2.2.1 1000000000) (some ((cm,(c8,(bH,(bH,(dC,(dP,())))))),(aV,e))):=λe h=>an λh'=>absurd h' h
 unfold pA pA.b
 have hj:AA h→1≤q→ ¬n0 h.2.2.2.1 q→ ∀t:sK,Ok (λr=>r.2.2=0→RB c r.1∧r.2.1.2.1=h.2.1∧Wv r.2.1.2.2.2.1 1000000000) (pA.UR N q c b h (cm,(c8,(bH,(bH,(dC,(dP,())))))) aV t):=λhk q1 q2 t=>by
  have g: ∀x:Int,qIn x→ ¬n0 x q→Wv (W .i64 (x-q)) 1000000000:=λx h1 h2=>by unfold qIn at h1;unfold n0 at h2;unfold Wv;rw[ax ω ω];omega
  unfold pA.UR pA.Nq
  exact af (I7 N hN ω hb hR) λr hr=>bx (λh=>dH _ h) λh0=>an λ_=>⟨(hr h0).1,rfl,g _ hk.2.2.2 q2⟩
 have b1:=dH 1 δ
 exact bA (dG N hN ω hb) (bt (λ_=>b1) λ_=>bA (wO N h) (bt (λ_=>b1) λhk=>aw (λ_=>b1) λq1=>aw (λ_=>b1) λ_=>aw (λ_=>b1) λ_=>aw (λ_=>b1) λ_=>aw (λ_=>dH _ δ) λq2=>aw (λ_=>b1) λ_=>aw (λ_=>b1) λ_=>af (AD N hN h2 hm hc hb ho) λe _=>bx (λh=>dH _ h) λ_=>ok_eq (λ_=>hj (bz hk) q1 (Int.not_lt.2 q2) _) λ_=>hj (bz hk) q1 (Int.not_lt.2 q2) _))
theorem NM(N:Nat)(hN:5000000≤N){c:ae}{b:aq}{m:Nat}(h2:200≤m)(hm:m≤40000)(hc:G m aA c)(hb:G m aK b)(hR:RB c b){a:Int}(ha:aE a){q:Int}(hq:aE q):Ok (I6 c b) (T1 N c b a q):=by
 have b1: ∀e:Int,e≠0→Ok (I6 c b) (some ((cm,(c8,(bH,(bH,(dC,(dP,())))))),e)):=λe h=>I6.bad h
 unfold T1
 refine bA (dG N hN ω hb) (bt (λ_=>b1 _ δ) λ_=>aw (λ_=>b1 _ δ) λ_=>af (FW N ω ω hb.2.1 _) λx ⟨_,hxf⟩=>bt (λ_=>b1 _ δ) λhf=>af (oh N ω ω hb.1 _) λ_ _=>bx (λ_=>b1 _ δ) λ_=>af (lY N ω ω hb.2.2.1 _ _) λg hg=>af (bp N ω hg) λx hx=>af (bp N ω hq) λy hy=>af (xz N ω ω hx hy) λz hz=>af (FV N ω h2 hm hc hb (bo _) _) λw hw=>af (pz N ω ω ω hz hw) λ_ _=>aw (λ_=>b1 _ δ) λ_=>bA (c4 N ω hq.1 hq.2) ?_)
 rw[hxf]at hf
 exact af (sB N ω (oD hq) (tF hR ((o7 hR.a a).1 hf)) (BJ δ)) λp ⟨hp,G4⟩=>af (sA N ω ω hb hR SB.nil hp (bo _) ω) λr hr=>an hr
def CJ(i d:Int)(l:au):au:=(l.filter λx=>decide (dw x.2.1 i∧ ¬dw d 0)).map λx=>Au x.1 (dZ x*d)
theorem QG{l:au}{i d:Int}{k:Nat}(hk:k<l.length):CJ i d (l.take (k+1))=CJ i d (l.take k)++if dw (l.getD k bl).2.1 i∧ ¬dw d 0 then [Au (l.getD k bl).1 (dZ (l.getD k bl)*d)]else []:=by
 have e2:l.take (k+1)=l.take k++[l[k]]:=(rT hk).symm
 unfold CJ
 rw[e2,List.filter_append,cW,iw hk]
 congr 1
 by_cases h:dw l[k].2.1 i∧ ¬dw d 0
 ·rw[aj h,vz,aj (bs h)];rfl
 ·rw[ah h,vz,ah (by rw[cj h];exact qp)];rfl
theorem I8{i d:Int}: ∀l:au,((CJ i d l).map dZ).sum=(c5 i l).sum*d
 |[]=>(Int.zero_mul d).symm
 |x::t=>by
  have ih:=I8 (i:=i) (d:=d) t
  unfold CJ at ih ⊢
  rw[df]
  by_cases h:x.2.1=i
  ·rw[aj h]
   by_cases h0:d=0
   ·rw[vz,ah (by rw[cj (λh=>h.2 h0)];exact qp),ih,h0,zq,zq]
   ·rw[vz,aj (bs ⟨h,h0⟩),bU,bU,cy,cy,ih,qB,nk]
  ·rw[ah h,vz,ah (by rw[cj (λk=>h k.1)];exact qp),ih]
theorem aaN{q d:Int}(hq:aE q)(hd: -1000000000000≤d∧d≤1000000000000):dm (q*d):=by
 have h1:(q*d).natAbs≤9223372036854775808*1000000000000:=by
  rw[Int.natAbs_mul]
  unfold aE at hq
  exact vD ω ω
 unfold dm;omega
theorem Xx(N:Nat)(hN:4000000≤N){c:ae}{b:aq}{m:Nat}(hm:m≤50000)(hb:G m aK b)(hR:RB c b){i:Int}(hi0:0≤i∧i<6)(x y:Int):Ok (λr=>PB b.1 b.2.1 r.1∧r.1.length≤50000) (nv N b.2.2.2.1 i x y):=by
 have h:=hb.2.2.2.1
 have hl:=h.1
 have hs:=(gk (wU.2 hR)).2
 have fl:(c5 i b.2.2.2.1).sum=0:=by
  have:=hR.s
  unfold nZ at this
  have:=bz (cN.1 this).1 i.toNat (by unfold kb;omega)
  unfold sH dw sm at this
  rw[aj hs,vv hi0.1]at this
  exact this
 have hp:=(eG hs).2
 unfold nv nv.b
 have nil: ∀e:Int,Ok (λr:bE×Int=>PB b.1 b.2.1 r.1∧r.1.length≤50000) (some ([],e)):=λe=>an ⟨PB.nil,bo _⟩
 refine bA (kF N ω ω) (bt (λ_=>nil _) λ_=>bA (iE N _) (bt (λ_=>nil _) λha=>bA (iE N _) (bt (λ_=>nil _) λeV=> ?_)))
 have ha:=bz ha
 have eV:=bz eV
 refine bA (c4 N ω ω ω) (bA (c4 N ω ω ω) (bA (ue N hN ((Fit.i64 ω ω).mono ω) ((Fit.i64 ω ω).mono ω)) ?_))
 have d64: -1000000000000≤y-x∧y-x≤1000000000000:=ω
 generalize y-x=d at*
 have fin:PB b.1 b.2.1 ((CJ i d b.2.2.2.1).map gR):=by
  refine⟨_,rfl,λz hz=> ?_,λz hz=> ?_,?_⟩
  ·obtain⟨u,hu,rfl⟩:=cC.1 hz
   rw[nk];exact aaN (h.2 u (vB.1 hu).1).2.2.1 d64
  ·obtain⟨u,hu,rfl⟩:=cC.1 hz
   have hu:=(vB.1 hu).1
   exact KJ (hR.sk u hu).1 ⟨(hp u hu).1.1,(hp u hu).1.2.1⟩ _
  ·rw[I8,fl,Int.zero_mul]
 refine bc (len:=b.2.2.2.1.length) (F:=λn j s=>nv.l6 N n b.2.2.2.1 i s (cT d) j) (λj s=>s=(CJ i d (b.2.2.2.1.take j)).map gR∧s.length≤j) ⟨rfl,bo _⟩ ω (λn j s hj hI hr=> ?_) (λn s hI=> ?_)
 all_goals unfold nv.l6 nv.ud
 ·obtain⟨i1,i2⟩:=hI
  have st:=QG (i:=i) (d:=d) hj
  have hx:G m jk (b.2.2.2.1.getD j bl):=h.2 _ (ru hj)
  rw[ax (x:=(j:Int)+1) ω ω,ag j,aJ]
  have skip: ¬(dw (b.2.2.2.1.getD j bl).2.1 i∧ ¬dw d 0)→s=(CJ i d (b.2.2.2.1.take (j+1))).map gR∧s.length≤j+1:=λh=>⟨by rw[st,ah h,ch];exact i1,ω⟩
  refine aw (λ_=>aB ⟨ω,ω⟩ (bx (λe=>hr s (skip λk=>e k.1)) λe1=>bA (pT N d) (ok_eq (λe=>hr s (skip λk=>k.2 (kd.1 e))) λe2=>aB ⟨ω,ω⟩ (bA (Bu _ (dZ (b.2.2.2.1.getD j bl)*d) N) (aB ⟨ω,ω⟩ (bA (c4 N ω hx.2.2.1.1 hx.2.2.1.2) (bA (wq N hN ((Fit.i64 hx.2.2.1.1 hx.2.2.1.2).mono ω) ((Fit.i64 ω ω).mono ω)) (aC (by rw[aI];omega) (hr _ ⟨?_,by rw[aS,aI];omega⟩))))))))) λ_=>ω
  rw[st,aj ⟨e1,λk=>e2 (kd.2 k)⟩,cW,i1]
  congr 1
  unfold gR
  rw[bU,iT,nk];rfl
 ·have i2:=hI.2
  refine aw (λ_=>ω) λ_=>an ⟨?_,by dsimp only;omega⟩
  have:=hI.1
  rw[iS]at this
  rw[this];exact fin
theorem QH{l:List Int}(h:eS l=true){p:Int}(hp:1≤p∧p≤1000000000000)(k:Nat):eS (l.set k p)=true:=by
 unfold eS at*
 have h:=bz h
 refine bs λj hj=> ?_
 rw[bN]at hj
 have YI:=h j hj
 unfold pV at*
 rw[aU,List.getElem?_set]
 split
 ·rw[aj ω];exact hp
 ·rw[←aU];exact YI
theorem NN(N:Nat)(hN:5000000≤N){c:ae}{b:aq}{m:Nat}(hm:m≤50000)(hb:G m aK b)(hR:RB c b)(i p:Int):Ok (λr=>r.2.2=0→RB c r.1) (T0 N c b i p):=by
 have dH: ∀e:Int,e≠0→Ok (λr:aq×bE×Int=>r.2.2=0→RB c r.1) (some ((cm,(c8,(bH,(bH,(dC,(dP,())))))),([],e))):=λe h=>an λh'=>absurd h' h
 have G4:=hb.2.2.2.2.1.1
 have hci:c.1.length≤6:=by
  have:=hR.c
  unfold fI at this
  exact(bz (cN.1 this).1).2
 unfold T0
 refine bA (dG N hN hm hb) (bt (λ_=>dH _ δ) λhB=>bA (iE N _) (bt (λ_=>dH _ δ) λhp=>aw (λ_=>dH _ δ) λh0=>dU (λ_=>dH _ δ) λh1=> ?_))
 obtain⟨hpr,_⟩:=g9 hB
 have hp:=bz hp
 dsimp only
 rw[cI]
 refine aB ⟨h0,by rw[hpr];exact h1⟩ (af (Xx N ω hm hb hR ⟨h0,ω⟩ _ _) λf ⟨hf,SH⟩=>af (sA N ω hm hb hR SB.nil hf (bo _) SH) λr hr=>bx (λh=>dH _ h) λhz=>aC (by rw[bS];omega) (aB ⟨h0,by rw[hpr];exact h1⟩ (an λ_=> ?_)))
 have q:=(hr hz).1
 exact⟨q.c,q.m,q.a,q.ma,q.r,q.t,q.s,q.o,by rw[bN];exact hR.n,q.rk,q.sk,q.ok,QH hR.p hp _⟩
end VM
end
section
namespace VM
open Go VM.F
theorem Ge{l s:bq}(h:dY l=true)(hs:s.Sublist l):dY s=true:=by
 obtain⟨h1,h2,h3⟩:=kk.1 h
 exact kk.2 ⟨λx hx=>h1 x (hs.subset hx),h2.sublist hs,ck hs.length_le h3⟩
theorem Gf{α:Type}{l s:List α}{d:α}{i:Nat}(hi:i<l.length)(h:s.Sublist (l.take i)):s.Sublist (l.take (i+1))∧(s++[l.getD i d]).Sublist (l.take (i+1)):=by
 have e2:l.take (i+1)=l.take i++[l[i]]:=(rT hi).symm
 rw[e2,iw hi]
 exact⟨h.trans (List.sublist_append_left ..),h.append (List.Sublist.refl _)⟩
theorem Uk(N:Nat)(hN:200000≤N){l:bq}(hl:l.length≤50000)(a id:Int):Ok (λr=>r.2=0→dY r.1=true∧ ∀x∈r.1,x∈l) (nu N l a id):=by
 have bad: ∀e:Int,e≠0→Ok (λr:bq×Int=>r.2=0→dY r.1=true∧ ∀x∈r.1,x∈l) (some ([],e)):=λe h=>an λh'=>absurd h' h
 unfold nu nu.b
 refine bA (g5 N ω hN) (bt (λ_=>bad _ δ) λhO=>bc (len:=l.length) (F:=λn i s=>nu.l5 N n l a id s i) (λi s=>s.Sublist (l.take i)) (Eg _) ω (λn i s hi hI hr=> ?_) (λn s hI=> ?_))
 all_goals have hs:=hI.length_le
 all_goals rw[cc]at hs
 all_goals unfold nu.l5 nu.dV
 ·rw[ax (x:=(i:Int)+1) ω ω,ag i]
  obtain⟨q1,q2⟩:=Gf (d:=e7) hi hI
  have h1:=hr s q1
  have h2:=hr _ q2
  repeat' first|exact h1|exact h2|refine aC (by rw[aI];omega) ?_|refine aB ⟨ω,ω⟩ ?_|refine aw (λ_=> ?_) (λ_=> ?_)|refine bx (λ_=> ?_) (λ_=> ?_)|(exfalso;omega)
 ·rw[iS]at hI
  exact aw (λ_=>ω) λ_=>ok_eq (λ_=>bad _ δ) λ_=>an λ_=>⟨Ge hO hI,λx hx=>hI.subset hx⟩
theorem Xy(N:Nat)(hN:200000≤N){l:bq}{a:List Int}{m:Nat}(hm:m≤50000)(hl:l.length≤m)(ha:a.length≤m):Ok (λr=>dY l=true→r.Sublist l) (fR N l a):=by
 unfold fR fR.b
 refine bA (g5 N ω hN) (bt (λh=>an λh'=>by rw[h]at h';exact nomatch h') λ_=>bc (len:=l.length) (F:=λn i s=>fR.l5 N n l a s i) (λi s=>s.Sublist (l.take i)) (Eg _) ω (λn i s hi hI hr=> ?_) (λn s hI=> ?_))
 all_goals have hs:=hI.length_le
 all_goals rw[cc]at hs
 all_goals unfold fR.l5 fR.dV
 ·obtain⟨q1,q2⟩:=Gf (d:=e7) hi hI
  refine aw (λ_=> ?_) λ_=>ω
  refine bc (len:=a.length) (F:=λn' j b=>fR.l9 N (fR.l5 N n) n' l a s (i:Int) b j) (λ_ _=>True) trivial ω (λn' j b hj _ eJ=> ?_) (λn' b _=> ?_)
  all_goals unfold fR.l9 fR.xp
  ·rw[ax (x:=(j:Int)+1) ω ω,ag j]
   exact aw (λ_=>oZ (λ_=>eJ _ trivial) λ_=>aB ⟨ω,ω⟩ (aB ⟨ω,ω⟩ (eJ _ trivial))) λ_=>ω
  ·rw[ax (x:=(i:Int)+1) ω ω,ag i]
   exact aw (λ_=>ω) λ_=>bt (λ_=>aB ⟨ω,ω⟩ (aC (by rw[aI];omega) (hr _ q2))) λ_=>hr s q1
 ·rw[iS]at hI
  exact aw (λ_=>ω) λ_=>an λ_=>hI
theorem NO(N:Nat)(hN:5000000≤N){c:ae}{b:aq}{m:Nat}(hm:m≤50000)(hb:G m aK b)(hR:RB c b)(id:Int)(bg:jd b.1 id):Ok (λr=>RB c r.1) (Ky N c b id):=by
 have GG:fZ b.1 id≠0:=(uM hR.m id).2 bg
 unfold Ky
 refine bA (dG N hN hm hb) (bt (λh=>by rw[wU.2 hR]at h;exact nomatch h) λ_=>bA (nX N (ck hb.1.1 ω) ω _) (ok_eq (λh=>absurd h GG) λ_=>af (Ns N ω hm hb.2.1 _) λa ha=>af (Xy N ω hm hb.2.2.2.2.2.1.1 ha) λr hr=>an ?_))
 have hs:=hr hR.o
 exact hR.KH (Ge hR.o hs) λx hx=>hR.ok x (hs.subset hx)
theorem aaO(N:Nat)(hN:200000≤N){l:bq}(hl:l.length≤50000)(a d:Int):Ok (λr=>r.length≤l.length∧ ∀x∈r,x∈l) (dI N l a d):=by
 unfold dI dI.b
 refine bA (g5 N ω hN) (bt (λ_=>an ⟨bo _,λx hx=>nomatch hx⟩) λ_=>bc (len:=l.length) (F:=λn i s=>dI.l5 N n l a d s i) (λi s=>s.length≤i∧ ∀x∈s,x∈l) ⟨aG 0,λx hx=>nomatch hx⟩ ω (λn i s hi hI hr=> ?_) (λn s hI=> ?_))
 all_goals unfold dI.l5 dI.dV
 ·obtain⟨hs,Rh⟩:=hI
  have hx:l.getD (i:Int).toNat e7∈l:=ru hi
  have fin: ∀k:Nat,k≤s.length→Ok (λr=>r.length≤l.length∧ ∀x∈r,x∈l) (dI.IX N (dI.l5 N n) l a d s (i:Int) (k:Int)):=λk hk=>by
   unfold dI.IX dI.BB
   rw[ax (x:=(i:Int)+1) ω ω,ag i]
   dsimp only
   have t: ∀a b:Nat,(List.drop a (List.take b s)).length≤s.length:=λa b=>by rw[dO,cc];omega
   have t1:=t (0:Int).toNat (k:Int).toNat
   have t2:=t (k:Int).toNat (s.length:Int).toNat
   refine Bz ⟨ω,ω,ω,ω⟩ (aC ω (aB ⟨ω,ω⟩ (aC (by rw[aI];omega) (Bz ⟨ω,ω,ω,ω⟩ (aC (by rw[aS,aI];omega) (hr _ ⟨?_,λy hy=> ?_⟩))))))
   ·simp only[cI,aS,dO,cc,aI,aJ,dq];omega
   ·rcases bb.1 hy with hy|hy
    ·rcases bb.1 hy with hy|hy
     ·exact Rh y (lC (mK hy))
     ·rw[bT.1 hy];exact hx
    ·exact Rh y (lC (mK hy))
  have h1:=hr s ⟨ω,Rh⟩
  have hw:Ok (λr=>r.length≤l.length∧ ∀x∈r,x∈l) (dI.l9 N (dI.l5 N n) N l a d s (i:Int) 0):=by
   refine lM (len:=s.length) (F:=λn' j=>dI.l9 N (dI.l5 N n) n' l a d s (i:Int) j) ω (λn' j hj eJ=> ?_) (λn'=> ?_)
   all_goals unfold dI.l9 dI.xp
   ·rw[ax (x:=(j:Int)+1) ω ω,ag j]
    have hah: ∀x y:gj,Ok (λ_=>True) (TZ N x y):=λx y=>by unfold TZ;exact bx (λ_=>eW) λ_=>eW
    exact aw (λ_=>aB ⟨ω,ω⟩ (aB ⟨ω,ω⟩ (af (hah _ _) λ_ _=>oZ (λ_=>eJ) λ_=>fin j ω))) λ_=>ω
   ·exact aw (λ_=>ω) λ_=>fin _ (aG _)
  rw[ax (x:=(i:Int)+1) ω ω,ag i]
  repeat' first|exact h1|exact hw|refine aB ⟨ω,ω⟩ ?_|refine aw (λ_=> ?_) (λ_=> ?_)|refine bx (λ_=> ?_) (λ_=> ?_)|(exfalso;omega)
 ·exact aw (λ_=>ω) λ_=>an hI
def ahY(x:gj)(q:Int):gj:=(x.1,(x.2.1,(x.2.2.1,(x.2.2.2.1,(q,x.2.2.2.2.2)))))
def leftOf(l:bq)(n:Int)(k:Nat)(x:gj):Prop:= ∃q:Int,x=ahY (l.getD k e7) q∧n≤q∧q≤1000000000
theorem leftOf.mono{l:bq}{n n':Int}(h:n'≤n){k:Nat}{x:gj}(hx:leftOf l n k x):leftOf l n' k x:=by
 obtain⟨q,e,h1,h2⟩:=hx
 exact⟨q,e,fD h h1,h2⟩
abbrev Si(l:bq)(o:gj)(r:bq×bK×Int×Int):Prop:=dY r.1=true∧(∀x∈r.1,∃y∈l,x.1=y.1∧x.2.1=y.2.1∧x.2.2.1=y.2.2.1)∧r.2.2.1≤o.2.2.2.2.1
theorem aaP{l s:bq}{n:Int}(hs:s.length=l.length)(h: ∀k,k<l.length→leftOf l n k (s.getD k e7))(hp:l.Pairwise I4):s.Pairwise I4:=by
 rw[tL]at hp ⊢
 intro i j hi hj pH
 have g: ∀k (hk:k<s.length),s[k].1=(l[k]' ω).1:=λk hk=>by
  obtain⟨q,e,_⟩:=h k ω
  rw[iw hk,iw (show k<l.length by omega)]at e
  rw[e];rfl
 unfold I4
 rw[g i hi,g j hj]
 exact hp i j ω ω pH
theorem Xz(N:Nat)(hN:200000≤N){l:bq}{o:gj}(hl:l.length≤50000)(hO:dY l=true)(ho:qT o):Ok (Si l o) (cf N l o):=by
 unfold cf cf.b
 refine bA (g5 N ω hN) (bt (λh=>by rw[hO]at h;exact nomatch h) λ_=>bA (Aa N o) (bt (λh=>absurd ho (of_decide_eq_false h)) λ_=>aC (by rw[bS];omega) (af (aaO N hN hl _ _) λw ⟨hwl,hwm⟩=> ?_)))
 obtain⟨h1,h2,h3⟩:=kk.1 hO
 rw[cI]
 have fin: ∀(n:Int) (s:bq) (q:Int) (t:bK),s.length=l.length→(∀k,k<l.length→leftOf l n k (s.getD k e7))→q≤o.2.2.2.2.1→Ok (Si l o) (cf.j22 N s q t):=λn s q t hs G9 hq=>by
  unfold cf.j22 cf.aat
  refine bc (len:=s.length) (F:=λn i u=>cf.La N n s q t u i) (λi u=>u.Sublist (s.take i)∧ ∀x∈u,n0 0 x.2.2.2.2.1) ⟨Eg _,λx hx=>nomatch hx⟩ ω (λn i u hi hI hr=> ?_) (λn u hI=> ?_)
  all_goals obtain⟨i1,i2⟩:=hI
  all_goals have GO:=i1.length_le
  all_goals rw[cc]at GO
  all_goals unfold cf.La cf.Nu
  ·rw[ax (x:=(i:Int)+1) ω ω,ag i,aJ]
   obtain⟨q1,q2⟩:=Gf (d:=e7) hi i1
   exact aw (λ_=>aB ⟨ω,ω⟩ (aw (λhq=>aB ⟨ω,ω⟩ (aC (by rw[aI];omega) (hr _ ⟨q2,λx hx=>by
    rcases bb.1 hx with hx|hx
    ·exact i2 x hx
    ·rw[bT.1 hx];exact hq⟩))) λ_=>hr u ⟨q1,i2⟩)) λ_=>ω
  ·rw[iS]at i1
   have Pu: ∀x∈s,∃y∈l,∃q:Int,x=ahY y q∧q≤1000000000:=λx hx=>by
    obtain⟨k,hk,e⟩:=gd hx
    obtain⟨q,e',_,h⟩:=G9 k ω
    rw[iw hk,e]at e'
    exact⟨_,ru (d:=e7) (show k<l.length by omega),q,e',h⟩
   refine aw (λ_=>ω) λ_=>an ⟨kk.2 ⟨λx hx=> ?_,(aaP hs G9 h2).sublist i1,by have:=i1.length_le;dsimp only at*;omega⟩,λx hx=> ?_,hq⟩
   ·obtain⟨y,hy,q,e,hq⟩:=Pu x (i1.subset hx)
    have h0:=i2 x hx
    have ok:=h1 y hy
    subst e
    exact⟨ok.1,ok.2.1,ok.2.2.1,ok.2.2.2.1,⟨show(1:Int)≤q from h0,hq⟩,ok.2.2.2.2.2⟩
   ·obtain⟨y,hy,q,e,_⟩:=Pu x (i1.subset hx)
    exact⟨y,hy,by rw[e];rfl,by rw[e];rfl,by rw[e];rfl⟩
 refine bc (len:=w.length) (F:=λn i (s:bq×Int×bK)=>cf.l7 N n o s.1 s.2.1 s.2.2 w i) (s:=(_,(_,_))) (λi s=>(s.1.length=l.length∧ ∀k,k<l.length→leftOf l (-1000000000*(i:Int)) k (s.1.getD k e7))∧(0≤s.2.1∧s.2.1≤o.2.2.2.2.1)∧s.2.2.length≤i) ⟨⟨rfl,λk hk=>⟨(l.getD k e7).2.2.2.2.1,rfl,?_,?_⟩⟩,⟨?_,fE _⟩,bo _⟩ ω (λn i s hi hI hr=> ?_) (λn s hI=> ?_)
 ·have:=(h1 _ (ru (d:=e7) hk)).2.2.2.2.1.1
  exact fD δ this
 ·exact(h1 _ (ru (d:=e7) hk)).2.2.2.2.1.2
 ·exact fD δ ho.2.2.2.2.1.1
 all_goals unfold cf.l7 cf.pj
 ·obtain⟨⟨hs,G9⟩,hq,ht⟩:=hI
  have hoq:o.2.2.2.2.1≤1000000000:=ho.2.2.2.2.1.2
  have f1:=fin _ s.1 s.2.1 s.2.2 hs G9 hq.2
  have hx:=h1 _ (hwm _ (ru (d:=e7) hi))
  have ahQ: ∀(v:Int) (t:sK),0≤v→v≤s.2.1→v≤1000000000→Ok (Si l o) (cf.AU N (cf.l7 N n) o s.1 s.2.1 s.2.2 w (i:Int) v t):=λv t v0 v1 v2=>by
   unfold cf.AU cf.uI
   have Tf:s.2.1≤1000000000:=fD hq.2 hoq
   rw[ax (x:=s.2.1-v) ω ω]
   refine aC (by rw[aI];omega) (bc (len:=s.1.length) (F:=λn' j u=>cf.GN N (cf.l7 N n) n' o u (s.2.1-v) (s.2.2++[t]) w (i:Int) v j) (λj u=>u.length=l.length∧ ∀k,k<l.length→leftOf l (if k<j then-1000000000*((i:Int)+1)else-1000000000*(i:Int)) k (u.getD k e7)) ⟨hs,λk hk=>by rw[ah ω];exact G9 k hk⟩ ω (λn' j u hj hJ eJ=> ?_) (λn' u hJ=> ?_))
   all_goals obtain⟨GO,hum⟩:=hJ
   all_goals unfold cf.GN cf.Dr
   ·rw[ax (x:=(j:Int)+1) ω ω,ag j,aJ,aJ]
    have same: ∀k,k<l.length→k≠j→leftOf l (if k<j+1 then-1000000000*((i:Int)+1)else-1000000000*(i:Int)) k (u.getD k e7):=λk hk e=>by
     have:=hum k hk
     by_cases h:k<j
     ·rw[aj h]at this;rw[aj ω];exact this
     ·rw[ah h]at this;rw[ah ω];exact this
    have h0:=hum j ω
    rw[ah ω]at h0
    refine aw (λ_=>aB ⟨ω,ω⟩ (aB ⟨ω,ω⟩ (ok_eq (λ_=>aB ⟨ω,ω⟩ (aB ⟨ω,ω⟩ (eJ _ ⟨by rw[bN];exact GO,λk hk=> ?_⟩))) λ_=>eJ u ⟨GO,λk hk=> ?_⟩))) λ_=>ω
    ·by_cases e:k=j
     ·subst e
      rw[aj ω]
      obtain⟨q,e,q1,q2⟩:=h0
      have es: ∀y:gj,(u.set k y).getD k e7=y:=λy=>by
       rw[aU,List.getElem?_set_self ω];rfl
      rw[es,e]
      unfold ahY
      dsimp only
      rw[ax (x:=q-v) ω ω]
      exact⟨q-v,rfl,ω,ω⟩
     ·have es: ∀y:gj,(u.set j y).getD k e7=u.getD k e7:=λy=>by
       rw[aU,aU,List.getElem?_set_ne ω]
      rw[es];exact same k hk e
    ·by_cases e:k=j
     ·subst e
      rw[aj ω]
      exact h0.mono ω
     ·exact same k hk e
   ·rw[ax (x:=(i:Int)+1) ω ω,ag i]
    exact aw (λ_=>ω) λ_=>hr (_,(_,_)) ⟨⟨GO,λk hk=>by
     have:=hum k hk
     rw[aj ω]at this
     rw[Int.natCast_add];exact this⟩,⟨by dsimp only;omega,by dsimp only;omega⟩,by dsimp only;rw[List.length_append,List.length_singleton];omega⟩
  have Ds:0<s.2.1→Ok (Si l o) (cf.Hy N (cf.l7 N n) o s.1 s.2.1 s.2.2 w (i:Int)):=λG8=>by
   unfold cf.Hy cf.BC
   rw[ax (x:=(i:Int)+1) ω ω,ag i,aJ]
   dsimp only
   have h1:=hr s ⟨⟨hs,λk hk=>(G9 k hk).mono ω⟩,hq,ω⟩
   have Tf:s.2.1≤1000000000:=fD hq.2 hoq
   have hm:0≤mn s.2.1 (w.getD i e7).2.2.2.2.1∧mn s.2.1 (w.getD i e7).2.2.2.2.1≤s.2.1:=by
    have h1:=hx.2.2.2.2.1.1
    generalize (w.getD i e7).2.2.2.2.1=q at*
    rw[Q6];split<;>omega
   repeat' first|exact h1|exact ahQ _ _ hm.1 hm.2 (fD hm.2 Tf)|refine aB ⟨ω,ω⟩ ?_|refine ok_eq (λ_=> ?_) (λ_=> ?_)
  repeat' first|exact f1|exact Ds (by assumption)|refine aB ⟨ω,ω⟩ ?_|refine aw (λ_=> ?_) (λ_=> ?_)|refine ok_eq (λ_=> ?_) (λ_=> ?_)|(exfalso;omega)
 ·obtain⟨⟨hs,G9⟩,hq,ht⟩:=hI
  exact aw (λ_=>ω) λ_=>fin _ _ _ _ hs G9 hq.2
theorem XA(N:Nat)(hN:5000000≤N){c:ae}{b:aq}{o:gj}{m:Nat}(h2:200≤m)(hm:m≤40000)(hc:G m aA c)(hb:G m aK b)(hR:RB c b)(ho:G 0 mJ o):Ok (λr=>r.2.2.2=0→RB c r.1) (jb N c b o):=by
 have HX:=hb.2.2.2.2.2.1.1
 have dH: ∀(t:bK) (e:Int),e≠0→Ok (λr:aq×bK×Int×Int=>r.2.2.2=0→RB c r.1) (some ((cm,(c8,(bH,(bH,(dC,(dP,())))))),(t,((0:Int),e)))):=λt e h=>an λh'=>absurd h' h
 obtain⟨g1,g2,g3⟩:=kk.1 hR.o
 unfold jb jb.b
 refine af (AD N hN h2 hm hc hb (G.mono (bo m) ho)) λe he=>bx (λh=>dH _ _ h) λe0=> ?_
 obtain⟨o1,o2,o3⟩:=he e0
 have oA:=(o7 hR.a _).1 o2
 have Ds: ∀(r:bq) (t:bK) (q:Int),dY r=true→(∀x∈r,∃y∈b.2.2.2.2.2.1,x.1=y.1∧x.2.1=y.2.1∧x.2.2.1=y.2.2.1)→q≤o.2.2.2.2.1→(0<q→r.length≤31)→(∀y∈b.2.2.2.2.2.1,n0 y.1 o.1)→Ok (λr=>r.2.2.2=0→RB c r.1) (jb.Hy N c b o (cm,(c8,(bH,(bH,(dC,(dP,())))))) r t q):=λr t q hr hrm hq HM eZ=>by
  obtain⟨r1,r2,r3⟩:=kk.1 hr
  unfold jb.Hy jb.BC
  refine af (I7 N hN ω hb hR) λz hz=>bx (λh=>dH _ _ h) λz0=> ?_
  obtain⟨zR,_,za,_⟩:=hz z0
  have hk: ∀x∈r,Ga c z.1.2.1 x:=λx hx=>by
   obtain⟨y,hy,_,e1,e2⟩:=hrm x hx
   have:=hR.ok y hy
   unfold Ga at this ⊢
   rw[za,e1,e2];exact this
  refine aw (λh0=>aC (by rw[aI];omega) (an λ_=>zR.KH (kk.2 ⟨λx hx=> ?_,?_,?_⟩) λx hx=> ?_)) λ_=>an λ_=>zR.KH hr hk
  ·rcases bb.1 hx with hx|hx
   ·exact r1 x hx
   ·rw[bT.1 hx]
    exact⟨o1.1,o1.2.1,o1.2.2.1,o1.2.2.2.1,⟨h0,fD hq o1.2.2.2.2.1.2⟩,o1.2.2.2.2.2⟩
  ·rw[vu]
   refine⟨r2,D5 ..,λx hx y hy=> ?_⟩
   rw[bT.1 hy]
   obtain⟨u,hu,e,_⟩:=hrm x hx
   unfold I4
   rw[e];exact eZ u hu
  ·rw[aS,aI];have:=HM h0;omega
  ·rcases bb.1 hx with hx|hx
   ·exact hk x hx
   ·rw[bT.1 hx]
    unfold Ga
    rw[za];exact⟨oA,o3⟩
 have hj7:(∀y∈b.2.2.2.2.2.1,n0 y.1 o.1)→Ok (λr=>r.2.2.2=0→RB c r.1) (jb.j7 N c b o (cm,(c8,(bH,(bH,(dC,(dP,()))))))):=λeZ=>by
  unfold jb.j7 jb.UO
  refine af (Xz N ω ω hR.o o1) λz ⟨z1,z2,z3⟩=> ?_
  have zl:=(kk.1 z1).2.2
  exact aw (λh0=>ok_eq (λ_=>dH _ _ δ) λjH=>Ds _ _ _ z1 z2 z3 (λ_=>ω) eZ) λh0=>Ds _ _ _ z1 z2 z3 (λh=>ω) eZ
 refine aw (λh0=> ?_) λh0=>hj7 λy hy=> ?_
 ·dsimp only
  refine aB (by rw[ax ω ω];omega) (dU (λ_=>dH _ _ δ) λXB=>hj7 λy hy=> ?_)
  have e1:(W .i64 ((b.2.2.2.2.2.1.length:Int)-1)).toNat=b.2.2.2.2.2.1.length-1:=by rw[ax ω ω];omega
  rw[e1,iw ω]at XB
  obtain⟨k,hk,e⟩:=gd hy
  by_cases h:k=b.2.2.2.2.2.1.length-1
  ·subst h;rw[←e];exact XB
  ·have:=tL.1 g2 k (b.2.2.2.2.2.1.length-1) hk ω ω
   rw[e]at this
   exact KE this XB
 ·have:=List.length_pos_of_mem hy
  omega
end VM
end
section
namespace VM
open Go VM.F
theorem aaQ(N:Nat)(hN:5000000≤N){c:ae}{b:aq}{m:Nat}(hm:m≤40000)(hc:G m aA c)(hb:G m aK b)(hR:RB c b)(f:Int)(to a:Int):Ok (λr=>r.2=0→RB c r.1) (T2 N c b f to a):=by
 have bad: ∀e:Int,e≠0→Ok (λr:aq×Int=>r.2=0→RB c r.1) (some ((cm,(c8,(bH,(bH,(dC,(dP,())))))),e)):=λe h=>an λh'=>absurd h' h
 unfold T2
 refine af (Xc N hN hm hc hb _ _ _) λ_ _=>bx (λh=>bad _ h) λ_=>af (QF N ω (ck hb.1.1 ω) (ck hb.2.1.1 ω) _ _) λr hr=>bx (λh=>bad _ h) λh0=>an λ_=> ?_
 obtain⟨r1,r2,r3⟩:=hr h0
 exact hR.Uj hR.m r1 (λ_ h=>h) r2 r3
theorem XC(N:Nat)(hN:200000≤N){c:ae}{b:aq}{m:Nat}(hm:m≤50000)(hb:G m aK b)(hR:RB c b){a:Int}(ha:p7 b.2.1 a):Ok (λr=>SB c b.2.1 r∧r.length≤2*m) (iL N b.2.2.2.1 a 0):=by
 have h:=hb.2.2.2.1
 have hl:=h.1
 have hp:=(eG (gk (wU.2 hR)).2).2
 unfold iL iL.b
 have nil:Ok (λr:au=>SB c b.2.1 r∧r.length≤2*m) (some []):=an ⟨SB.nil,bo _⟩
 refine bA (kF N ω hN) (bt (λ_=>nil) λ_=>ok_eq (λ_=>nil) λ_=>aw (λ_=>nil) λa0=>aw (λ_=>nil) λa1=>aw (λ_=>nil) λ_=>aw (λ_=>nil) λ_=>bc (len:=b.2.2.2.1.length) (F:=λn i s=>iL.l5 N n b.2.2.2.1 a 0 s i) (λi s=>SB c b.2.1 s∧s.length≤2*i) ⟨SB.nil,bo _⟩ ω (λn i s hi hI hr=> ?_) (λn s hI=> ?_))
 all_goals unfold iL.l5 iL.dV
 all_goals obtain⟨i1,i2⟩:=hI
 ·have hx:G m jk (b.2.2.2.1.getD i bl):=h.2 _ (ru hi)
  have Rv:=hp _ (ru (d:=bl) hi)
  have hx2:=hR.sk _ (ru (d:=bl) hi)
  dsimp only
  rw[ax (x:=(i:Int)+1) ω ω,ag i,aJ]
  have h1:=hr s ⟨i1,ω⟩
  have hq:aE (b.2.2.2.1.getD i bl).2.2.1:=hx.2.2.1
  have nB:pU (b.2.2.2.1.getD i bl).2.2.1:=Rv.2
  have pl:=Rv.1
  have ins:=hx2.2
  generalize (b.2.2.2.1.getD i bl).2.2.1=q at*
  generalize (b.2.2.2.1.getD i bl).2.1=k at*
  have hn:=(TH ⟨hq,nB⟩).1
  unfold aE at hn
  rw[ax hn.1 hn.2]
  exact aw (λ_=>aB ⟨ω,ω⟩ (ok_eq (λ_=>aB ⟨ω,ω⟩ (aB ⟨ω,ω⟩ (aB ⟨ω,ω⟩ (aB ⟨ω,ω⟩ (aC (by rw[xB];omega) (hr _ ⟨SB.app i1 (SB.two hn hq ω ⟨⟨a0,a1,pl.2.2.1,pl.2.2.2⟩,.inr ha,ins⟩ ⟨⟨δ,δ,pl.2.2.1,pl.2.2.2⟩,.inl rfl,ins⟩),by rw[aS,aR,aI];omega⟩)))))) λ_=>h1)) λ_=>ω
 ·exact aw (λ_=>ω) λ_=>an ⟨i1,ω⟩
theorem Ul{c:ae}{b:aq}(h:RB c b):b.2.1.length≤24:=ND h.a
theorem aaR(N:Nat)(hN:5000000≤N){c:ae}{b:aq}{m:Nat}(h2:200≤m)(hm:m≤1000)(hc:G m aA c)(hb:G m aK b)(hR:RB c b)(a:Int):Ok (I6 c b) (mF N c b a):=by
 have hal:=Ul hR
 unfold mF mF.b
 refine bA (dG N hN ω hb) (bt (λ_=>I6.bad δ) λhB=>af (qk N ω ω hb _) λ_ _=>ok_eq (λ_=>I6.bad δ) λ_=> ?_)
 refine bc (len:=b.2.1.length) (F:=λn i (z:au×bE)=>mF.l8 N n a c b (cm,(c8,(bH,(bH,(dC,(dP,())))))) z.1 z.2 i) (s:=(_,_)) (λi z=>(SB c b.2.1 z.1∧z.1.length≤2*m*i)∧PB b.1 b.2.1 z.2∧z.2.length≤4*i) ⟨⟨SB.nil,bo _⟩,PB.nil,bo _⟩ ω (λn i z hi hI hr=> ?_) (λn z hI=> ?_)
 all_goals unfold mF.l8 mF.xR
 all_goals obtain⟨⟨h5,h7⟩,h6,h8⟩:=hI
 ·have Xk:2*m*i≤2*m*24:=lD _ ω
  have hms:2*m*(i+1)=2*m*i+2*m:=qy _ _
  have hx:G m ej (b.2.1.getD (i:Int).toNat aV):=G.at hb.2.1 _
  have hA:p7 b.2.1 (b.2.1.getD (i:Int).toNat aV).1:=⟨_,ru hi,rfl⟩
  have hM:=tF hR hA
  have hF:cQ 2 0∧jm b.1 b.2.1 2 0:=BJ δ
  have hj: ∀p:bE,PB b.1 b.2.1 p→p.length≤4*i+2→Ok (I6 c b) (mF.AU N (mF.l8 N n) a c b (cm,(c8,(bH,(bH,(dC,(dP,())))))) z.1 p (i:Int) (b.2.1.getD (i:Int).toNat aV)):=λp hp G4=>by
   unfold mF.AU mF.uI
   rw[ax (x:=(i:Int)+1) ω ω,ag i]
   exact af (tB N ω ω hb _) λg hg=>aw (λ_=>bA (c4 N ω hg.1 hg.2) (bA (jo N ω (Ao (oD hg).1)) (af (sB N ω ⟨(oD hg).2,by rw[Int.neg_neg];exact(oD hg).1⟩ hF hM) λu ⟨hu,GO⟩=>aC ω (af (XC N ω ω hb hR hA) λs ⟨hs,G9⟩=>aC ω (hr (_,_) ⟨⟨SB.app h5 hs,by dsimp only;rw[List.length_append];omega⟩,PB.app hp hu,by dsimp only;rw[List.length_append];omega⟩))))) λ_=>af (XC N ω ω hb hR hA) λs ⟨hs,G9⟩=>aC ω (hr (_,_) ⟨⟨SB.app h5 hs,by dsimp only;rw[List.length_append];omega⟩,hp,by dsimp only;omega⟩)
  rw[ax (x:=(i:Int)+1) ω ω,ag i]
  exact aw (λ_=>aB ⟨ω,ω⟩ (bx (λ_=>hr z ⟨⟨h5,ω⟩,h6,ω⟩) λ_=>ok_eq (λ_=>af (I2 N hN ω hc hb _) λq hq=>bA (c4 N ω hq.1 hq.2) (af (sB N ω (oD hq) hM hF) λu ⟨hu,GO⟩=>aC ω (hj _ (PB.app h6 hu) (by rw[aS];omega)))) λ_=>hj _ h6 ω)) λ_=>ω
 ·have Xk:2*m*b.2.1.length≤2*m*24:=lD _ ω
  exact aw (λ_=>ω) λ_=>af (sA N ω ω hb hR h5 h6 ω ω) λr hr=>an hr
theorem yP{n:Int}: ∀{l:aM},m6 n l≠0→p7 l (m6 n l)
 |[],h=>absurd rfl h
 |x::t,h=>by
  rw[sl]at h ⊢
  have up:p7 t (m6 n t)→p7 (x::t) (m6 n t):=λ⟨y,hy,e⟩=>⟨y,a6 _ hy,e⟩
  by_cases e1:x.2.1=n
  ·rw[aj e1]at h ⊢
   by_cases e2:x.2.2.1=1
   ·rw[aj e2];exact⟨x,bn ..,rfl⟩
   ·rw[ah e2]at h ⊢;exact up (yP h)
  ·rw[ah e1]at h ⊢;exact up (yP h)
theorem I9{a:aM}{n:Int}(h:m7 a n≠0):p7 a (m7 a n):=by
 unfold m7 at*
 split at h
 ·rw[aj (by assumption)];exact yP h
 ·exact absurd rfl h
def Sj(c:ae)(y:yI):Prop:=(0≤y.1∧n0 y.1 c.1.length)∧pU y.2.1
theorem QI{c:ae}{L:bw}(h:Bn c L=true): ∀x∈L,∀y∈x.2.1,Sj c y:=by
 unfold Bn at h
 simp only[bP,gg,fb]at h
 refine(gW (d:=((0:Int),(cm,aV))) (Q:=λx=> ∀y∈x.2.1,Sj c y)).1 λj hj=> ?_
 have h1:=(h.2.2 j hj).2.2.2.1
 unfold lW at h1
 exact(gW (d:=cz) (Q:=Sj c)).1 λi hi=>by
  have h2:=bz (cN.1 h1).1 i hi
  exact⟨⟨h2.1,h2.2.1⟩,h2.2.2.2.1⟩
theorem XD(N:Nat)(hN:5000000≤N){c:ae}{b:aq}{L:bw}{l:aM}{m:Nat}(h2:200≤m)(hm:m≤2000)(hb:G m aK b)(hR:RB c b)(hL:LL m L)(hl:G m (.slice ej) l):Ok (λr=>r.2.2=0→RB c r.1∧r.2.1.length≤12) (fG N c b L l):=by
 have dH: ∀e:Int,e≠0→Ok (λr:aq×bw×Int=>r.2.2=0→RB c r.1∧r.2.1.length≤12) (some ((cm,(c8,(bH,(bH,(dC,(dP,())))))),([],e))):=λe h=>an λh'=>absurd h' h
 have h3:=hL.1
 have h4:=hl.1
 have hw:Iw L:=λy hy=>ck (hL.2 y hy).2.1.1 ω
 have hci:c.1.length≤6:=by
  have:=hR.c
  unfold fI at this
  exact(bz (cN.1 this).1).2
 unfold fG fG.b
 refine bA (dG N hN ω hb) (bt (λ_=>dH _ δ) λ_=>bA (Ap N ω c ω hw) (bt (λ_=>dH _ δ) λhk=>bA (tu N ω ω) (bt (λ_=>dH _ δ) λ_=> ?_)))
 have amM:=QI hk
 have h12:L.length≤12:=by
  unfold Bn at hk
  exact bz (cN.1 (cN.1 hk).2).1
 refine bc (len:=L.length) (F:=λn i (z:au×bE×bw)=>fG.l7 N n L l b (cm,(c8,(bH,(bH,(dC,(dP,())))))) z.1 z.2.1 z.2.2 i) (s:=(_,(_,_))) (λi z=>(SB c b.2.1 z.1∧z.1.length≤2*m*i)∧(PB b.1 b.2.1 z.2.1∧z.2.1.length≤2*i)∧z.2.2.length≤i) ⟨⟨SB.nil,bo _⟩,⟨PB.nil,bo _⟩,bo _⟩ ω (λn i z hi hI hr=> ?_) (λn z hI=> ?_)
 all_goals unfold fG.l7 fG.pj
 all_goals obtain⟨⟨h5,h8⟩,⟨h6,h9⟩,h7⟩:=hI
 ·have Xk:2*m*i≤2*m*12:=lD _ ω
  have hms:2*m*(i+1)=2*m*i+2*m:=qy _ _
  have hx:G m jc (L.getD (i:Int).toNat ((0:Int),(cm,aV))):=G.at hL _
  have hxl:=hx.2.1.1
  have ar3:=amM _ (ru (d:=((0:Int),(cm,aV))) hi)
  rw[ax (x:=(i:Int)+1) ω ω,ag i]
  dsimp only
  rw[cI]
  have put: ∀x:ik,Ok (λr=>r.2.2=0→RB c r.1∧r.2.1.length≤12) (cond (small (z.2.2.length+[x].length)) (fG.l7 N n L l b (cm,(c8,(bH,(bH,(dC,(dP,())))))) z.1 z.2.1 (z.2.2++[x]) ((i+1:Nat):Int)) none):=λx=>aC (by rw[List.length_singleton];omega) (hr (z.1,(z.2.1,z.2.2++[x])) ⟨⟨h5,by dsimp only;omega⟩,⟨h6,by dsimp only;omega⟩,by dsimp only;rw[List.length_append,List.length_singleton];omega⟩)
  refine aw (λ_=>aB ⟨ω,ω⟩ (aC (by rw[bS];omega) (bx (λ_=>put _) λ_=>af (Se N ω ω hl _) λw hw=>bt (λ_=>put _) λ_=>bA (qi N (ck hb.2.1.1 ω) ω _) (ok_eq (λ_=>dH _ δ) λhh=>af (qk N ω ω hb _) λ_ _=>ok_eq (λ_=>dH _ δ) λ_=> ?_)))) λ_=>ω
  have hA:=I9 hh
  have hM:=tF hR hA
  have hF:cQ 2 0∧jm b.1 b.2.1 2 0:=BJ δ
  have amN:0≤m7 b.2.1 w.1.2.2.1∧m7 b.2.1 w.1.2.2.1≤24:=by
   have:=hM.1
   unfold cQ at this;omega
  generalize m7 b.2.1 w.1.2.2.1=h at*
  have hX': ∀y∈(L.getD (i:Int).toNat ((0:Int),(cm,aV))).2.1,Sj c y∧G m js y:=λy hy=>⟨ar3 y (by rw[aJ]at hy;exact hy),hx.2.1.2 y hy⟩
  generalize hX:(((L.getD (i:Int).toNat ((0:Int),(cm,aV))).1,((L.getD (i:Int).toNat ((0:Int),(cm,aV))).2.1,((L.getD (i:Int).toNat ((0:Int),(cm,aV))).2.2.1,((2:Int),(w.1.2.2.1,(w.1.2.2.2.1,())))))):ik)=X
  have hXe:X.2.1=(L.getD (i:Int).toNat ((0:Int),(cm,aV))).2.1:=by rw[←hX]
  rw[←hXe]at hX' hxl
  refine bc (len:=X.2.1.length) (F:=λn' j u=>fG.wF N (fG.l7 N n) n' L l b (cm,(c8,(bH,(bH,(dC,(dP,())))))) u z.2.1 z.2.2 (i:Int) X w.1 h j) (s:=z.1) (λj u=>SB c b.2.1 u∧u.length≤2*m*i+2*j) ⟨h5,h8⟩ ω (λn' j u hj hu eJ=> ?_) (λn' u hu=> ?_)
  all_goals unfold fG.wF fG.vl
  all_goals obtain⟨hu,GO⟩:=hu
  ·have hy:=hX' _ (ru (d:=cz) hj)
   dsimp only
   rw[ax (x:=(j:Int)+1) ω ω,ag j,aJ]
   generalize X.2.1.getD j cz=y at*
   obtain⟨⟨⟨y0,y1⟩,y2⟩,y3⟩:=hy
   have hq:aE y.2.1:=y3.2.1
   have hn:=(TH ⟨hq,y2⟩).1
   have hn':=hn
   unfold aE at hn'
   have e:W .i64 (0-y.2.1)=0-y.2.1:=ax hn'.1 hn'.2
   rw[e]
   have g6: ∀x:Int,n0 x c.1.length→x<6:=λx h=>by unfold n0 at h;omega
   exact aw (λ_=>aB ⟨ω,ω⟩ (aB ⟨ω,ω⟩ (aB ⟨ω,ω⟩ (aB ⟨ω,ω⟩ (aC (by rw[xB];omega) (eJ _ ⟨SB.app hu (SB.two hn hq ω ⟨⟨δ,δ,y0,g6 _ y1⟩,.inl rfl,y1⟩ ⟨⟨amN.1,amN.2,y0,g6 _ y1⟩,.inr hA,y1⟩),by rw[aS,aR,aI];omega⟩)))))) λ_=>ω
  ·have FM:aE w.1.2.2.2.1:=hw.2.2.2.1
   refine aw (λ_=>ω) λ_=>bA (c4 N ω FM.1 FM.2) (af (sB N ω (oD FM) hM hF) λp ⟨hp,G4⟩=>aC ω (aC (by rw[aI];omega) ?_))
   rw[ax (x:=(i:Int)+1) ω ω,ag i]
   exact hr (_,(_,_)) ⟨⟨hu,by dsimp only;omega⟩,⟨PB.app h6 hp,by dsimp only;rw[List.length_append];omega⟩,by dsimp only;rw[List.length_append,List.length_singleton];omega⟩
 ·have Xk:2*m*L.length≤2*m*12:=lD _ ω
  exact aw (λ_=>ω) λ_=>af (sA N ω ω hb hR h5 h6 ω ω) λr hr=>bx (λh=>dH _ h) λh0=>an λ_=>⟨(hr h0).1,by dsimp only;omega⟩
end VM
end
