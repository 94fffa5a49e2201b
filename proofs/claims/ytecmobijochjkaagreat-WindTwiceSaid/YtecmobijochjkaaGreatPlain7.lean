/- A part of the proof of WindTwice of layer 21: what the functions compute, in plain words. -/
import Derived.Test.YtecmobijochjkaaGreatPlain6
import Derived.Test.YtecmobijochjkaaGreatPlain4
set_option linter.all false
section
namespace VM
open Go VM.F
theorem iz{α:Type}{l:List α}{d:α}{i:Nat}(h:i<l.length):l.getD i d=l[i]:=by
 rw[aU,bn h];rfl
theorem gm{α:Type}{d:α}{l:List α}{Q:α→Prop}:(∀j,j<l.length→Q (l.getD j d))↔ ∀x∈l,Q x:=
 ⟨λh x hx=>by
  obtain⟨i,hi,e⟩:=gh hx
  rw[←e,←iz (d:=d) hi];exact h i hi,λh j hj=>h _ (rG hj)⟩
theorem tN{α:Type}{d:α}{R:α→α→Prop}(tr: ∀a b c,R a b→R b c→R a c): ∀l:List α,(∀j,j<l.length→0<j→R (l.getD (j-1) d) (l.getD j d))↔l.Pairwise R
 |[]=>⟨λ_=>List.Pairwise.nil,λ_ j hj=>nomatch hj⟩
 |[x]=>⟨λ_=>Ei R x,λ_ j hj h0=>by have:j<1:=hj;omega⟩
 |x::y::t=>by
  rw[eh,←tN tr (y::t)]
  constructor
  ·intro h
   have Za:R x y:=h 1 (by simp) ω
   have ht: ∀j,j<(y::t).length→0<j→R ((y::t).getD (j-1) d) ((y::t).getD j d):=λj hj h0=>by
    have:=h (j+1) (by simpa using hj) ω
    obtain⟨k,rfl⟩: ∃k,j=k+1:=⟨j-1,ω⟩
    exact this
   have hp:=(tN tr (y::t)).1 ht
   refine⟨λz hz=> ?_,ht⟩
   rcases aW.1 hz with rfl|hz
   ·exact Za
   ·exact tr _ _ _ Za ((eh.1 hp).1 z hz)
  ·rintro⟨h1,h2⟩ j hj h0
   obtain⟨k,rfl⟩: ∃k,j=k+1:=⟨j-1,ω⟩
   cases k with
   |zero=>exact h1 y (bk ..)
   |succ k=>exact h2 (k+1) (by simpa using hj) ω
def XX(x y:yT):Prop:=nS x.1 y.1
def AT(x y:bO):Prop:=nS x.1 y.1
def Jl(x y:gk):Prop:=nS x.1 y.1
theorem KX{a b c:Int}(h1:nS a b)(h2:nS b c):nS a c:=Int.lt_trans h1 h2
def XY(a b:Int):Prop:=1≤a∧a≤12∧1≤b∧b≤4
theorem gv{m:aD}:dq m=true↔(∀x∈m,XY x.1 x.2.1)∧m.Pairwise XX:=by
 unfold dq
 rw[fF,ff,←tN (R:=XX) (d:=cA) (λ_ _ _=>KX),←gm (d:=cA)]
 exact⟨λh=>⟨λj hj=>⟨(h j hj).1,(h j hj).2.1,(h j hj).2.2.1,(h j hj).2.2.2.1⟩,λj hj h0=>(h j hj).2.2.2.2 h0⟩,λh j hj=>⟨(h.1 j hj).1,(h.1 j hj).2.1,(h.1 j hj).2.2.1,(h.1 j hj).2.2.2,λh0=>h.2 j hj h0⟩⟩
def am9(x y:bO):Prop:=dx x.2.2.1 1∧dx y.2.2.1 1∧dx x.2.1 y.2.1
def QZ(x:bO):Prop:=mi x.1 x.2.1 x.2.2.1 x.2.2.2.1
def ntw(x y:bO):Prop:= ¬am9 x y
theorem jv{a:aK}:fA a=true↔(∀x∈a,QZ x)∧a.Pairwise AT∧a.Pairwise ntw:=by
 unfold fA
 rw[fF,ff,←tN (R:=AT) (d:=aV) (λ_ _ _=>KX),←gm (d:=aV),tV]
 constructor
 ·refine λh=>⟨λj hj=>(h j hj).1,λj hj h0=>(h j hj).2.1 h0,λi j hi hj pP ht=>(h j hj).2.2 ⟨?_,wK.2 ⟨i,pP,?_,?_⟩⟩⟩
  ·rw[iz hj];exact ht.2.1
  ·rw[iz hi];exact ht.1
  ·rw[iz hi,iz hj];exact ht.2.2
 ·rintro⟨h1,h2,h3⟩ j hj
  refine⟨h1 j hj,λh0=>h2 j hj h0,λ⟨ht,ho⟩=> ?_⟩
  obtain⟨i,pP,e1,e2⟩:=wK.1 ho
  rw[iz hj]at ht e2
  rw[iz (show i<a.length by omega)]at e1 e2
  exact h3 i j ω hj pP ⟨e1,ht,e2⟩
theorem kA{l:bq}:ej l=true↔(∀x∈l,q6 x)∧l.Pairwise Jl∧l.length≤32:=by
 unfold ej
 rw[cO,ff,ff,←tN (R:=Jl) (d:=fa) (λ_ _ _=>KX),←gm (d:=fa)]
 exact⟨λh=>⟨λj hj=>(h.1 j hj).1,λj hj h0=>(h.1 j hj).2 h0,h.2⟩,λh=>⟨λj hj=>⟨h.1 j hj,λh0=>h.2.1 j hj h0⟩,h.2.2⟩⟩
def jl(m:aD)(n:Int):Prop:= ∃x∈m,dx x.1 n
def qf(a:aK)(n:Int):Prop:= ∃x∈a,dx x.1 n
theorem gw{n:Int}: ∀{m:aD},(∀x∈m,XY x.1 x.2.1)→(¬dx (jK n m) 0↔jl m n)
 |[],_=>⟨λh=>absurd rfl h,λ⟨_,h,_⟩=>nomatch h⟩
 |x::t,h=>by
  have ih:=gw (n:=n) λy hy=>h y (aZ _ hy)
  have hx:=h x (bk ..)
  rw[uA]
  by_cases e:x.1=n
  ·rw[aj e]
   have g: ∀v:Int,1≤v→ ¬dx v 0:=λv h1 h2=>by unfold dx at h2;omega
   exact⟨λ_=>⟨x,bk ..,e⟩,λ_=>g _ hx.2.2.1⟩
  ·rw[ah e,ih]
   exact⟨λ⟨y,hy,h⟩=>⟨y,aZ _ hy,h⟩,λ⟨y,hy,h'⟩=>(aW.1 hy).elim (λk=>absurd (k▸h') e) λhy=>⟨y,hy,h'⟩⟩
theorem BT{n:Int}: ∀{a:aK},(tD n a).2=true↔qf a n
 |[]=>⟨λh=>(nomatch h),λ⟨_,h,_⟩=>nomatch h⟩
 |x::t=>by
  rw[oh]
  by_cases e:x.1=n
  ·rw[aj e]
   exact⟨λ_=>⟨x,bk ..,e⟩,λ_=>rfl⟩
  ·rw[ah e,BT]
   exact⟨λ⟨y,hy,h⟩=>⟨y,aZ _ hy,h⟩,λ⟨y,hy,h'⟩=>(aW.1 hy).elim (λk=>absurd (k▸h') e) λhy=>⟨y,hy,h'⟩⟩
theorem uV{m:aD}(h:dq m=true)(n:Int): ¬dx (eA m n) 0↔jl m n:=by
 unfold eA;rw[aj h];exact gw (gv.1 h).1
theorem pk{a:aK}(h:fA a=true)(n:Int):(fc a n).2=true↔qf a n:=by
 unfold fc;rw[aj h];exact BT
def jw(m:aD)(a:aK)(k n:Int):Prop:=(dx k 5→qf a n)∧(dx k 6∨dx k 7→jl m n)
def yz(c:ae)(a:aK)(k n:Int):Prop:=(dx k 0∨qf a k)∧nS n c.1.length
def Gp(c:ae)(a:aK)(x:gk):Prop:=qf a x.2.1∧nS x.2.2.1 c.1.length
theorem KY{m:aD}{a:aK}(hm:dq m=true)(ha:fA a=true){k n:Int}:Gl m a k n↔jw m a k n:=by
 unfold Gl jw;rw[pk ha,uV hm]
theorem KZ{c:ae}{a:aK}(ha:fA a=true){k n:Int}:Gm c a k n↔yz c a k n:=by
 unfold Gm yz;rw[pk ha]
structure RB(C:ae)(b:aq):Prop where
 c:fL C=true
 m:dq b.1=true
 a:fA b.2.1=true
 ma: ∀x∈b.2.1,jl b.1 x.2.1
 r:dO b.2.2.1=true
 t:dx (gK b.2.2.1) 0
 s:om b.2.2.2.1=true
 o:ej b.2.2.2.2.2.1=true
 n:dx b.2.2.2.2.1.length C.1.length
 rk: ∀x∈b.2.2.1,jw b.1 b.2.1 x.1 x.2.1
 sk: ∀x∈b.2.2.2.1,yz C b.2.1 x.1 x.2.1
 ok: ∀x∈b.2.2.2.2.2.1,Gp C b.2.1 x
 p:eV b.2.2.2.2.1=true
theorem lf{c:ae}{b:aq}:dz c b=true↔RB c b:=by
 unfold dz pE
 simp only[bR,fF,ff]
 constructor
 ·rintro⟨b1,⟨b2,b2',aip⟩,b3,b4,b5,b6,b7,b8,b9,b10,b11⟩
  refine⟨b1,b2,b2',?_,b3,b4,b5,b6,b7,?_,?_,?_,b11⟩
  ·exact(gm (d:=aV) (Q:=λx=>jl b.1 x.2.1)).1 λj hj=>(gw (gv.1 b2).1).1 (aip j hj)
  ·exact(gm (d:=bh) (Q:=λx=>jw b.1 b.2.1 x.1 x.2.1)).1 λj hj=>(KY b2 b2').1 (b8 j hj)
  ·exact(gm (d:=bh) (Q:=λx=>yz c b.2.1 x.1 x.2.1)).1 λj hj=>(KZ b2').1 (b9 j hj)
  ·exact(gm (d:=fa) (Q:=λx=>Gp c b.2.1 x)).1 λj hj=>⟨(pk b2' _).1 (b10 j hj).1,(b10 j hj).2⟩
 ·rintro⟨b1,b2,b2',aip,b3,b4,b5,b6,b7,b8,b9,b10,b11⟩
  refine⟨b1,⟨b2,b2',?_⟩,b3,b4,b5,b6,b7,?_,?_,?_,b11⟩
  ·exact λj hj=>(gw (gv.1 b2).1).2 ((gm (d:=aV) (Q:=λx=>jl b.1 x.2.1)).2 aip j hj)
  ·exact λj hj=>(KY b2 b2').2 ((gm (d:=bh) (Q:=λx=>jw b.1 b.2.1 x.1 x.2.1)).2 b8 j hj)
  ·exact λj hj=>(KZ b2').2 ((gm (d:=bh) (Q:=λx=>yz c b.2.1 x.1 x.2.1)).2 b9 j hj)
  ·exact λj hj=>let h:=(gm (d:=fa) (Q:=λx=>Gp c b.2.1 x)).2 b10 j hj;⟨(pk b2' _).2 h.1,h.2⟩
theorem RB.UM{c:ae}{b:aq}(h:RB c b){m:aD}{a:aK}(hm:dq m=true)(ha:fA a=true)(mm: ∀n,jl b.1 n→jl m n)(aa: ∀n,qf b.2.1 n→qf a n)(ma: ∀x∈a,jl m x.2.1):
  RB c (m,(a,b.2.2)):=
 ⟨h.c,hm,ha,ma,h.r,h.t,h.s,h.o,h.n,λx hx=>⟨λe=>aa _ ((h.rk x hx).1 e),λe=>mm _ ((h.rk x hx).2 e)⟩,λx hx=>⟨(h.sk x hx).1.imp id (aa _),(h.sk x hx).2⟩,λx hx=>⟨aa _ (h.ok x hx).1,(h.ok x hx).2⟩,h.p⟩
theorem RB.K0{c:ae}{b:aq}(h:RB c b){o:bq}(ho:ej o=true)(hk: ∀x∈o,Gp c b.2.1 x):RB c (b.1,(b.2.1,(b.2.2.1,(b.2.2.2.1,(b.2.2.2.2.1,(o,())))))):=
 ⟨h.c,h.m,h.a,h.ma,h.r,h.t,h.s,ho,h.n,h.rk,h.sk,hk,h.p⟩
theorem RB.anb{c:ae}{b:aq}(h:RB c b){s e s' r':au}(h1:dP Fq (fS b.2.2.2.1 s) je=some s')(h2:dP aE (fS b.2.2.1 e) mG=some r')
  (gs: ∀x∈s,bD x.1 x.2.1∧yz c b.2.1 x.1 x.2.1) (flat: ∀i:Int,(c6 i s).sum=0) (ge: ∀x∈e,cQ x.1 x.2.1∧jw b.1 b.2.1 x.1 x.2.1) (zero:(e.map dU).sum=0):RB c (b.1,(b.2.1,(r',(s',b.2.2.2.2)))):=
 lf.1 (KW (lf.2 h) h1 h2 (λx hx=>⟨(gs x hx).1,(KZ h.a).2 (gs x hx).2⟩) flat (λx hx=>⟨(ge x hx).1,(KY h.m h.a).2 (ge x hx).2⟩) zero)
abbrev RBs(c:ae)(b b':aq):Prop:=RB c b'∧b'.1=b.1∧b'.2.1=b.2.1∧b'.2.2.2.2=b.2.2.2.2
theorem RB.dW{c:ae}{b:aq}(h:RB c b){s e:au}(gs: ∀x∈s,bD x.1 x.2.1∧yz c b.2.1 x.1 x.2.1)(flat: ∀i:Int,(c6 i s).sum=0)
  (ge: ∀x∈e,cQ x.1 x.2.1∧jw b.1 b.2.1 x.1 x.2.1) (zero:(e.map dU).sum=0) (h0:(VM.dW b s e).2=0):RBs c b (VM.dW b s e).1:=by
 rcases Gf b s e with⟨h1,_⟩|⟨s',r',h1,h2,h3⟩
 ·rw[h1]at h0;exact absurd h0 δ
 ·rw[h3];exact⟨h.anb h1 h2 gs flat ge zero,rfl,rfl,rfl⟩
theorem tO: ∀{l:au} {x:db},sC (l.map keyOf)→x∈l→fY x.1 x.2.1 l=dU x
 |[],_,_,h=>nomatch h
 |y::t,x,hs,h=>by
  obtain⟨h1,h2⟩:=eh.1 hs
  rw[gl]
  rcases aW.1 h with rfl|h
  ·rw[aj rfl,aj rfl];rfl
  ·have jB: ¬(y.1=x.1∧y.2.1=x.2.1):=λe=>by
    have hk:=h1 (keyOf x) (eM h)
    have he:keyOf y=keyOf x:=gS e.1 e.2
    rw[he]at hk
    exact ns hk
   by_cases e1:y.1=x.1
   ·rw[aj e1,ah (λe2=>jB ⟨e1,e2⟩)];exact tO h2 h
   ·rw[ah e1];exact tO h2 h
theorem BU{P:Int→Prop} [DecidablePred P]{f:Int→Int→Int}: ∀{t:au},(∀x∈t,f x.1 x.2.1=dU x∧dU x≠0∧P (dU x))→dP P f (t.map keyOf)=some t
 |[],_=>rfl
 |x::t,h=>by
  obtain⟨h1,h2,h3⟩:=h x (bk ..)
  rw[bV,jz]
  show(if P (f x.1 x.2.1)then(dP P f (t.map keyOf)).map (λo=>if f x.1 x.2.1=0 then o else(x.1,(x.2.1,(f x.1 x.2.1,())))::o)else none)=_
  rw[h1,aj h3,BU λy hy=>h y (aZ _ hy),Option.map_some,ah h2];rfl
theorem abe{l:au}(h:dO l=true): ∀x∈l,dU x≠0:=by
 unfold dO at h
 rw[fF]at h
 exact(gm (d:=bh) (Q:=λx=>dU x≠0)).1 λj hj=>((bx h) j hj).2.1
theorem UN{l:au}(h:dO l=true)(hq:dy l):dP aE (fS l []) mG=some l:=by
 rw[←Nr (E:=[]) h (λx hx=>nomatch hx)]
 exact BU λx hx=>⟨by
  unfold fS
  rw[kP,gI,←kR (kt h).1]
  exact tO (kt h).1 hx,abe h x hx,hq x hx⟩
theorem abf{a i:Int}{t:au}(h: ∀x∈t,¬(x.1=a∧x.2.1=i)):bP a i t=0:=by
 refine Ee λh0=> ?_
 obtain⟨y,hy,e1,e2⟩:=AS h0
 exact h y hy ⟨e1,e2⟩
theorem Jm{l:au}(h:cz l=true): ∀x∈l,dU x≠0:=by
 unfold cz at h
 rw[fF]at h
 exact(gm (d:=bh) (Q:=λx=>dU x≠0)).1 λj hj=>((bx h) j hj).2.1
theorem N4{l:au}(h:cz l=true)(a i:Int):eG l a i=bP a i l:=by
 unfold eG;rw[aj h,kR (cU h).1]
theorem Q0{l:au}(h:cz l=true)(hq:dy l):dP Fq (fS l []) je=some l:=by
 rw[←IK (E:=[]) h (λx hx=>nomatch hx)]
 exact BU λx hx=>⟨by
  unfold fS
  rw[kP,gI,←kR (cU h).1]
  exact tO (cU h).1 hx,Jm h x hx,hq x hx,((cU h).2 x hx).2⟩
theorem Q1{b:aq}{s e:au}(hr:dO b.2.2.1=true)(hs:cz b.2.2.2.1=true)(qr:dy b.2.2.1)(qs:dy b.2.2.2.1)(h1: ∀a i,bP a i s=0)(h2: ∀a i,bP a i e=0):dW b s e=(b,0):=by
 have e1:fS b.2.2.2.1 s=fS b.2.2.2.1 []:=by funext a i;unfold fS;rw[h1,kP]
 have e2:fS b.2.2.1 e=fS b.2.2.1 []:=by funext a i;unfold fS;rw[h2,kP]
 unfold VM.dW
 rw[e1,e2,Q0 hs qs,UN hr qr]
end VM
end
section
namespace VM
open Go VM.F
theorem Ok.and{α:Type}{P Q:α→Prop}{o:Option α}(h1:Ok P o)(h2:Ok Q o):Ok (λr=>P r∧Q r) o:=by
 obtain⟨r,e,hr⟩:=h1
 obtain⟨q,e',hq⟩:=h2
 rw[e]at e'
 exact⟨r,e,hr,(oH e')▸hq⟩
theorem AU{α:Type}{l:List α}{x y:α}(k:Nat):y∈l.take k++x::l.drop k↔y=x∨y∈l:=by
 have e:y∈l↔y∈l.take k∨y∈l.drop k:=by rw[←bb,gg]
 rw[e,bb,aW]
 constructor
 ·rintro(h|h|h)
  ·exact .inr (.inl h)
  ·exact .inl h
  ·exact .inr (.inr h)
 ·rintro(h|h|h)
  ·exact .inr (.inl h)
  ·exact .inl h
  ·exact .inr (.inr h)
theorem Gq{α:Type}{R:α→α→Prop}{l:List α}{x:α}{k:Nat}(hp:l.Pairwise R)(h1: ∀y∈l.take k,R y x)(h2: ∀y∈l.drop k,R x y):(l.take k++x::l.drop k).Pairwise R:=by
 rw[←gg k l,vE]at hp
 rw[vE,eh]
 exact⟨hp.1,⟨h2,hp.2.1⟩,λa ha b hb=>by
  rcases aW.1 hb with rfl|hb
  ·exact h1 a ha
  ·exact hp.2.2 a ha b hb⟩
theorem SK{α:Type}{l:List α}{d:α}{f:α→Int}(hp:l.Pairwise λa b=>nS (f a) (f b)){v:Int}{k:Nat}(h1: ∀j,j<k→nS (f (l.getD j d)) v)(h2:k<l.length→ ¬nS (f (l.getD k d)) v)(hn: ∀y∈l,¬dx (f y) v):
  (∀y∈l.take k,nS (f y) v)∧ ∀y∈l.drop k,nS v (f y):=by
 refine⟨λy hy=> ?_,λy hy=> ?_⟩
 ·obtain⟨j,hj,e⟩:=gh hy
  rw[cc]at hj
  rw[Er]at e
  have:=h1 j ω
  rw[iz ω,e]at this
  exact this
 ·obtain⟨j,hj,e⟩:=gh hy
  rw[dV]at hj
  rw[Ep]at e
  have h3:=h2 ω
  rw[iz ω]at h3
  have h4:=hn y (mV hy)
  have g: ∀a b c:Int,¬nS a c→(nS a b∨a=b)→ ¬dx b c→nS c b:=λa b c h h' J3=>by
   unfold nS dx at*
   rcases h' with h'|h'<;>omega
  refine g _ _ _ h3 ?_ h4
  by_cases h0:j=0
  ·subst h0;right;rw[←e];rfl
  ·left
   have:=tV.1 hp k (k+j) ω ω ω
   rw[e]at this;exact this
theorem BV{α:Type}{l:List α}{d:α}(g:α→α){i:Nat}(hi:i<l.length):
  ((l.take i).map g++l.drop i).getD i d=l.getD i d∧((l.take i).map g++l.drop i).set i (g (l.getD i d))=(l.take (i+1)).map g++l.drop (i+1)∧(g (l.getD i d)=l.getD i d→(l.take i).map g++l.drop i=(l.take (i+1)).map g++l.drop (i+1)):=by
 have hlen:((l.take i).map g).length=i:=by rw[cv,cc];omega
 have e1:l.drop i=l[i]::l.drop (i+1):=pU hi
 have e2:l.take (i+1)=l.take i++[l[i]]:=(sf hi).symm
 rw[iz hi]
 refine⟨?_,?_,λh=> ?_⟩
 ·rw[aU,oG ω,hlen,td,e1];rfl
 ·rw[L7 _ _ ω,hlen,td,e1,e2,List.set_cons_zero,cY,br];rfl
 ·rw[e1,e2,cY,br,bV,h];rfl
theorem xK{α:Type}(l:List α)(g:α→α)(i:Nat):((l.take i).map g++l.drop i).length=l.length:=by
 rw[aS,cv,cc,dV];omega
theorem XZ(N:Nat)(hN:200000≤N){a:aD}(hl:a.length≤50000)(id:Int):Ok (λr=>r.2=0→dq r.1=true∧ ∀n,jl a n→jl r.1 n) (ig N a id):=by
 have bad: ∀e:Int,e≠0→Ok (λr:aD×Int=>r.2=0→dq r.1=true∧ ∀n,jl a n→jl r.1 n) (some ([],e)):=λe h=>an λh'=>absurd h' h
 have b1:=bad 1 δ
 unfold ig ig.b
 refine bA (mD N ω hN) (bt (λ_=>b1) λhM=>aw (λ_=>b1) λh1=>aw (λ_=>b1) λh2=>bA (ib N ω hN id) (bu (λ_=>bad _ δ) λh0=> ?_))
 obtain⟨hm,hp⟩:=gv.1 hM
 have hn: ∀y∈a,¬dx y.1 id:=λy hy e=>(gw hm).2 ⟨y,hy,e⟩ h0
 have fin: ∀k:Nat,k≤a.length→(∀j,j<k→nS (a.getD j cA).1 id)→(k<a.length→ ¬nS (a.getD k cA).1 id)→Ok (λr=>r.2=0→dq r.1=true∧ ∀n,jl a n→jl r.1 n) (ig.j9 N a id [] (k:Int)):=λk hk g1 g2=>by
  unfold ig.j9 ig.Nd
  refine KO hk ω λ_=> ?_
  simp only[cJ,aJ,dr,cZ,iY,br,lQ]
  obtain⟨q1,q2⟩:=SK (f:=λx:yT=>x.1) hp g1 g2 hn
  refine⟨gv.2 ⟨λx hx=> ?_,Gq hp q1 q2⟩,λn ⟨y,hy,e⟩=>⟨y,(AU k).2 (.inr hy),e⟩⟩
  rcases(AU k).1 hx with rfl|hx
  ·exact⟨h1,h2,(show(1:Int)≤1 by decide),(show(1:Int)≤4 by decide)⟩
  ·exact hm x hx
 refine bg (σ:=Unit) (len:=a.length) (F:=λn i _=>ig.l7 N n a id [] i) (s:=()) (λi _=> ∀j,j<i→nS (a.getD j cA).1 id) (λj hj=>absurd hj ω) ω (λn i _ hi hI hr=> ?_) (λn _ hI=> ?_)
 all_goals unfold ig.l7 ig.q4
 ·rw[ax (x:=(i:Int)+1) ω ω,ag i]
  refine aw (λ_=>aB ⟨ω,ω⟩ (aw (λh=>hr () λj hj=> ?_) λh=>fin i ω hI λ_ h'=> ?_)) λ_=>ω
  ·by_cases e:j=i
   ·subst e;exact h
   ·exact hI j ω
  ·have g: ∀x y:Int,nS x y→y≤x→False:=λx y h h'=>by unfold nS at h;omega
   exact g _ _ h' h
 ·exact aw (λ_=>ω) λ_=>fin _ (aG _) hI λh=>absurd h ω
theorem X0(N:Nat)(a b:Int):Ok (λr=>r.2=true→1≤r.1∧r.1≤4) (Ur N a b):=by
 have h: ∀(x:Int) (t:Bool),(t=true→1≤x∧x≤4)→Ok (λr:Int×Bool=>r.2=true→1≤r.1∧r.1≤4) (some (x,t)):=λx t hx=>an hx
 unfold Ur
 repeat' first|refine ok_eq (λ_=> ?_) (λ_=> ?_)|exact h _ _ δ
def K1(id v:Int)(x:yT):yT:=if x.1=id then(x.1,(v,x.2.2))else x
theorem Q2(id v:Int)(x:yT):(K1 id v x).1=x.1:=by unfold K1;split<;>rfl
theorem w6{α:Type}{R:α→α→Prop}{g:α→α}{l:List α}(hp:l.Pairwise R)(h: ∀x∈l,∀y∈l,R x y→R (g x) (g y)):(l.map g).Pairwise R:=by
 rw[zu]
 exact hp.imp_of_mem λhx hy h'=>h _ hx _ hy h'
theorem SL(N:Nat)(hN:200000≤N){l:aD}(hl:l.length≤50000)(id k:Int):Ok (λr=>r.2=0→dq r.1=true∧(∀n,jl l n→jl r.1 n)∧jl l id) (lH N l id k):=by
 have bad: ∀e:Int,e≠0→Ok (λr:aD×Int=>r.2=0→dq r.1=true∧(∀n,jl l n→jl r.1 n)∧jl l id) (some ([],e)):=λe h=>an λh'=>absurd h' h
 unfold lH lH.b
 refine bA (mD N ω hN) (bt (λ_=>bad _ δ) λhM=>bA (ib N ω hN _) (ok_eq (λ_=>bad _ δ) λGZ=>af (X0 N _ _) λz hz=>bt (λ_=>bad _ δ) λG7=>aC (by rw[bU];omega) ?_))
 obtain⟨hm,hp⟩:=gv.1 hM
 have hz:=hz G7
 rw[cJ]
 refine bg (len:=l.length) (F:=λn i s=>lH.BM N n id z.1 s i) (λi s=>s=(l.take i).map (K1 id z.1)++l.drop i) rfl ω (λn i s hi hI hr=> ?_) (λn s hI=> ?_)
 all_goals unfold lH.BM lH.yZ
 ·rw[ax (x:=(i:Int)+1) ω ω,ag i]
  obtain⟨s1,s2,s3⟩:=BV (d:=cA) (K1 id z.1) hi
  have hs:s.length=l.length:=by rw[hI];exact xK l _ i
  rw[←hI]at s1 s2 s3
  refine aw (λ_=>aB ⟨ω,ω⟩ (ok_eq (λe=>aB ⟨ω,ω⟩ (hr _ ?_)) λe=>hr s (s3 ?_))) λ_=>ω
  ·rw[aJ,s1]at e ⊢
   rw[←s2]
   unfold K1;rw[aj e]
  ·rw[aJ,s1]at e
   unfold K1;rw[ah e]
 ·have hs:s.length=l.length:=by rw[hI];exact xK l _ _
  have e:s=l.map (K1 id z.1):=by rw[hI,iY,mX,ch]
  refine aw (λ_=>ω) λ_=>an λ_=> ?_
  dsimp only
  rw[e]
  refine⟨gv.2 ⟨λx hx=> ?_,w6 hp λx _ y _ h=> ?_⟩,λn ⟨y,hy,e⟩=>⟨K1 id z.1 y,eM hy,?_⟩,(gw hm).1 GZ⟩
  ·obtain⟨y,hy,rfl⟩:=cD.1 hx
   have h:=hm y hy
   unfold K1
   split
   ·exact⟨h.1,h.2.1,hz.1,hz.2⟩
   ·exact h
  ·unfold XX;rw[Q2,Q2];exact h
  ·rw[Q2];exact e
def HS(id v:Int)(x:bO):bO:=if x.1=id then(x.1,(x.2.1,(x.2.2.1,(v,x.2.2.2.2))))else x
def DF(id v:Int)(x:bO):bO:=if x.1=id then(x.1,(v,x.2.2))else x
theorem w7(id v:Int)(x:bO):(HS id v x).1=x.1∧(HS id v x).2.1=x.2.1∧(HS id v x).2.2.1=x.2.2.1:=by unfold HS;split<;>exact⟨rfl,rfl,rfl⟩
theorem Gr(id v:Int)(x:bO):(DF id v x).1=x.1∧(DF id v x).2.2=x.2.2:=by unfold DF;split<;>exact⟨rfl,rfl⟩
theorem N5{a:aK}{g:bO→bO}(hg: ∀x,(g x).1=x.1)(n:Int)(h:qf a n):qf (a.map g) n:=by
 obtain⟨y,hy,e⟩:=h
 exact⟨g y,eM hy,by rw[hg];exact e⟩
abbrev rW(m:aD)(a:aK)(r:aK×Int):Prop:=r.2=0→fA r.1=true∧(∀n,qf a n→qf r.1 n)∧ ∀x∈r.1,jl m x.2.1
theorem rW.bad{m:aD}{a:aK}{e:Int}(h:e≠0):Ok (rW m a) (some ([],e)):=an λh'=>absurd h' h
theorem X1(N:Nat)(hN:200000≤N){m:aD}{l:aK}(hl:l.length≤50000)(hm: ∀x∈l,jl m x.2.1)(id q:Int):Ok (rW m l) (nF N l id q):=by
 unfold nF nF.b
 refine bA (tE N ω hN) (bt (λ_=>rW.bad δ) λhA=>aw (λ_=>rW.bad δ) λq0=>aw (λ_=>rW.bad δ) λq1=>bA (q7 N ω hN _) (bt (λ_=>rW.bad δ) λ_=>aC (by rw[bU];omega) ?_))
 obtain⟨ha,hp,ht⟩:=jv.1 hA
 rw[cJ]
 refine bg (len:=l.length) (F:=λn i s=>nF.l8 N n id q s i) (λi s=>s=(l.take i).map (HS id q)++l.drop i) rfl ω (λn i s hi hI hr=> ?_) (λn s hI=> ?_)
 all_goals unfold nF.l8 nF.yc
 ·rw[ax (x:=(i:Int)+1) ω ω,ag i]
  obtain⟨s1,s2,s3⟩:=BV (d:=aV) (HS id q) hi
  have hs:s.length=l.length:=by rw[hI];exact xK l _ i
  rw[←hI]at s1 s2 s3
  refine aw (λ_=>aB ⟨ω,ω⟩ (ok_eq (λe=>aB ⟨ω,ω⟩ (hr _ ?_)) λe=>hr s (s3 ?_))) λ_=>ω
  ·rw[aJ,s1]at e ⊢
   rw[←s2]
   unfold HS;rw[aj e]
  ·rw[aJ,s1]at e
   unfold HS;rw[ah e]
 ·have hs:s.length=l.length:=by rw[hI];exact xK l _ _
  have e:s=l.map (HS id q):=by rw[hI,iY,mX,ch]
  refine aw (λ_=>ω) λ_=>an λ_=> ?_
  dsimp only
  rw[e]
  refine⟨jv.2 ⟨λx hx=> ?_,w6 hp λx _ y _ h=> ?_,w6 ht λx _ y _ h=> ?_⟩,N5 λx=>(w7 id q x).1,λx hx=> ?_⟩
  ·obtain⟨y,hy,rfl⟩:=cD.1 hx
   have h:=ha y hy
   unfold HS
   split
   ·exact⟨h.1,h.2.1,h.2.2.1,q0,q1⟩
   ·exact h
  ·unfold AT;rw[(w7 id q x).1,(w7 id q y).1];exact h
  ·unfold ntw am9;rw[(w7 id q x).2.1,(w7 id q y).2.1,(w7 id q x).2.2,(w7 id q y).2.2];exact h
  ·obtain⟨y,hy,rfl⟩:=cD.1 hx
   rw[(w7 id q y).2.1];exact hm y hy
theorem Jn{n:Int}: ∀{l:aK},l.Pairwise AT→ ∀x∈l,dx x.1 n→(tD n l).1=x
 |[],_,x,hx,_=>nomatch hx
 |y::t,hp,x,hx,e=>by
  rw[oh]
  rcases aW.1 hx with rfl|hx
  ·rw[aj (show x.1=n from e)]
  ·have h:nS y.1 x.1:=(eh.1 hp).1 x hx
   have g: ∀a b:Int,nS a b→dx b n→ ¬a=n:=λa b h1 h2=>by unfold nS dx at*;omega
   rw[ah (g _ _ h e)]
   exact Jn (eh.1 hp).2 x hx e
theorem Q3(N:Nat)(hN:200000≤N){m:aD}{l:aK}(GX:m.length≤50000)(hl:l.length≤50000)(id to:Int):Ok (rW m l) (nG N m l id to):=by
 unfold nG nG.b
 refine bA (wM N ω ω hN) (bt (λ_=>rW.bad δ) λhR=>bA (q7 N ω hN _) (bA (ib N ω hN _) (bt (λ_=>rW.bad δ) λ_=>ok_eq (λ_=>rW.bad δ) λhs=>bu (λ_=>rW.bad δ) λhk=>bu (λ_=>rW.bad δ) λ_=>aC (by rw[bU];omega) ?_)))
 unfold pE at hR
 simp only[bR,fF,ff]at hR
 obtain⟨hM,hA,hma⟩:=hR
 obtain⟨ha,hp,ht⟩:=jv.1 hA
 have hmm:=(gv.1 hM).1
 obtain⟨mx,Ls,emx⟩:=(gw hmm).1 hs
 have hm: ∀x∈l,jl m x.2.1:=(gm (d:=aV) (Q:=λx=>jl m x.2.1)).1 λj hj=>(gw hmm).1 (hma j hj)
 rw[cJ]
 refine bg (len:=l.length) (F:=λn i s=>nG.nT N n id to s i) (λi s=>s=(l.take i).map (DF id to)++l.drop i) rfl ω (λn i s hi hI hr=> ?_) (λn s hI=> ?_)
 all_goals unfold nG.nT nG.mP
 ·rw[ax (x:=(i:Int)+1) ω ω,ag i]
  obtain⟨s1,s2,s3⟩:=BV (d:=aV) (DF id to) hi
  have hs:s.length=l.length:=by rw[hI];exact xK l _ i
  rw[←hI]at s1 s2 s3
  refine aw (λ_=>aB ⟨ω,ω⟩ (ok_eq (λe=>aB ⟨ω,ω⟩ (hr _ ?_)) λe=>hr s (s3 ?_))) λ_=>ω
  ·rw[aJ,s1]at e ⊢
   rw[←s2]
   unfold DF;rw[aj e]
  ·rw[aJ,s1]at e
   unfold DF;rw[ah e]
 ·have hs:s.length=l.length:=by rw[hI];exact xK l _ _
  have e:s=l.map (DF id to):=by rw[hI,iY,mX,ch]
  refine aw (λ_=>ω) λ_=>an λ_=> ?_
  dsimp only
  rw[e]
  have cl: ∀x∈l,x.1=id→x.2.2.1=2:=λx hx e=>by rw[←Jn hp x hx e];exact hk
  have mo:XY mx.1 mx.2.1:=hmm mx Ls
  have anc:mx.1=to:=emx
  refine⟨jv.2 ⟨λx hx=> ?_,w6 hp λx _ y _ h=> ?_,w6 ht λx hx y hy h=> ?_⟩,N5 λx=>(Gr id to x).1,λx hx=> ?_⟩
  ·obtain⟨y,hy,rfl⟩:=cD.1 hx
   have h:=ha y hy
   unfold DF
   split
   ·exact⟨h.1,⟨anc▸mo.1,anc▸mo.2.1⟩,h.2.2⟩
   ·exact h
  ·unfold AT;rw[(Gr id to x).1,(Gr id to y).1];exact h
  ·intro ⟨t1,t2,t3⟩
   rw[(Gr id to x).2]at t1
   rw[(Gr id to y).2]at t2
   have nx: ∀x∈l,dx x.2.2.1 1→DF id to x=x:=λx hx e=>by
    unfold DF
    rw[ah]
    intro h'
    have:=cl x hx h'
    have e':x.2.2.1=1:=e
    rw[e']at this;exact absurd this δ
   rw[nx x hx t1,nx y hy t2]at t3
   exact h ⟨t1,t2,t3⟩
  ·obtain⟨y,hy,rfl⟩:=cD.1 hx
   unfold DF
   split
   ·exact⟨mx,Ls,emx⟩
   ·exact hm y hy
theorem CW{n:Int}: ∀{l:aK},(∀x∈l,QZ x)→nk n l=0→ ∀x∈l,dx x.2.2.1 1→ ¬dx x.2.1 n
 |[],_,_,x,hx,_=>nomatch hx
 |y::t,ha,h,x,hx,e=>by
  rw[sA]at h
  have ih:=CW (n:=n) λz hz=>ha z (aZ _ hz)
  have hy:QZ y:=ha y (bk ..)
  have g: ∀v:Int,1≤v→ ¬v=0:=λv h1 h2=>ω
  by_cases e1:y.2.1=n
  ·rw[aj e1]at h
   by_cases e2:y.2.2.1=1
   ·rw[aj e2]at h;exact absurd h (g _ hy.1.1)
   ·rw[ah e2]at h
    rcases aW.1 hx with rfl|hx
    ·exact absurd e e2
    ·exact ih h x hx e
  ·rw[ah e1]at h
   rcases aW.1 hx with rfl|hx
   ·exact e1
   ·exact ih h x hx e
theorem abg(N:Nat)(hN:200000≤N){m:aD}{l:aK}(GX:m.length≤50000)(hl:l.length≤50000)(x:bO):Ok (rW m l) (fe N m l x):=by
 unfold fe fe.b
 refine bA (wM N ω ω hN) (bt (λ_=>rW.bad δ) λhR=>bA (tE N (l:=[x]) (by rw[aI];omega) hN) (bt (λ_=>rW.bad δ) λhX=>bA (ib N ω hN _) (ok_eq (λ_=>rW.bad δ) λhs=>bu (λ_=>rW.bad δ) λ_=>bA (q7 N ω hN _) (pf (λ_=>rW.bad δ) λhf=> ?_))))
 unfold pE at hR
 simp only[bR,fF,ff]at hR
 obtain⟨hM,hA,hma⟩:=hR
 obtain⟨ha,hp,ht⟩:=jv.1 hA
 have hmm:=(gv.1 hM).1
 have hx:=(jv.1 hX).1 x (bW.2 rfl)
 have hxm:=(gw hmm).1 hs
 have hm: ∀x∈l,jl m x.2.1:=(gm (d:=aV) (Q:=λx=>jl m x.2.1)).1 λj hj=>(gw hmm).1 (hma j hj)
 have hn: ∀y∈l,¬dx y.1 x.1:=λy hy e=>by
  have:=BT.2 ⟨y,hy,e⟩
  rw[hf]at this;exact nomatch this
 have fin:(∀y∈l,ntw y x)→ ∀k:Nat,k≤l.length→(∀j,j<k→nS (l.getD j aV).1 x.1)→(k<l.length→ ¬nS (l.getD k aV).1 x.1)→Ok (rW m l) (fe.A8 N l x [] (k:Int)):=λhw k hk g1 g2=>by
  unfold fe.A8 fe.uT
  refine KO hk ω λ_=> ?_
  simp only[cJ,aJ,dr,cZ,iY,br,lQ]
  obtain⟨q1,q2⟩:=SK (f:=λx:bO=>x.1) hp g1 g2 hn
  have tw: ∀y∈l,ntw x y:=λy hy ⟨t1,t2,t3⟩=>hw y hy ⟨t2,t1,Eq.symm t3⟩
  refine⟨jv.2 ⟨λy hy=> ?_,Gq hp q1 q2,Gq ht (λy hy=>hw y (lM hy)) λy hy=>tw y (mV hy)⟩,λn ⟨y,hy,e⟩=>⟨y,(AU k).2 (.inr hy),e⟩,λy hy=> ?_⟩
  ·rcases(AU k).1 hy with rfl|hy
   ·exact hx
   ·exact ha y hy
  ·rcases(AU k).1 hy with rfl|hy
   ·exact hxm
   ·exact hm y hy
 have hj:(∀y∈l,ntw y x)→Ok (rW m l) (fe.Je N l x):=λhw=>by
  unfold fe.Je fe.BN
  refine bg (σ:=Unit) (len:=l.length) (F:=λn i _=>fe.nT N n l x [] i) (s:=()) (λi _=> ∀j,j<i→nS (l.getD j aV).1 x.1) (λj hj=>absurd hj ω) ω (λn i _ hi hI hr=> ?_) (λn _ hI=> ?_)
  all_goals unfold fe.nT fe.mP
  ·rw[ax (x:=(i:Int)+1) ω ω,ag i]
   refine aw (λ_=>aB ⟨ω,ω⟩ (aw (λh=>hr () λj hj=> ?_) λh=>fin hw i ω hI λ_ h'=> ?_)) λ_=>ω
   ·by_cases e:j=i
    ·subst e;exact h
    ·exact hI j ω
   ·have g: ∀x y:Int,nS x y→y≤x→False:=λx y h h'=>by unfold nS at h;omega
    exact g _ _ h' h
  ·exact aw (λ_=>ω) λ_=>fin hw _ (aG _) hI λh=>absurd h ω
 refine ok_eq (λe=>bA (qp N ω hN _) (bu (λ_=>rW.bad δ) λh0=>hj λy hy ⟨t1,_,t3⟩=> ?_)) λe=>hj λy hy ⟨_,t2,_⟩=>e t2
 unfold nn at h0
 rw[aj hA]at h0
 exact CW ha h0 y hy t1 t3
end VM
end
section
namespace VM
open Go VM.F
def PB(m:aD)(a:aK)(p:bF):Prop:=
 ∃e:au,p=e.map gY∧BA e∧(∀x∈e,cQ x.1 x.2.1∧jw m a x.1 x.2.1)∧(e.map dU).sum=0
def SB(c:ae)(a:aK)(s:au):Prop:=dy s∧(∀x∈s,bD x.1 x.2.1∧yz c a x.1 x.2.1)∧ ∀i:Int,(c6 i s).sum=0
theorem PB.nil{m:aD}{a:aK}:PB m a []:=⟨[],rfl,λx hx=>(nomatch hx),λx hx=>(nomatch hx),rfl⟩
theorem PB.app{m:aD}{a:aK}{p q:bF}(hp:PB m a p)(hq:PB m a q):PB m a (p++q):=by
 obtain⟨e,rfl,e1,e2,e3⟩:=hp
 obtain⟨f,rfl,f1,f2,f3⟩:=hq
 refine⟨e++f,cY.symm,λx hx=>(bb.1 hx).elim (e1 x) (f1 x),λx hx=>(bb.1 hx).elim (e2 x) (f2 x),?_⟩
 rw[cY,lR,e3,f3];rfl
theorem Gs(i:Int): ∀s t:au,c6 i (s++t)=c6 i s++c6 i t
 |[],t=>rfl
 |x::s,t=>by
  rw[lQ,dg,dg,Gs i s t]
  split<;>rfl
theorem SB.nil{c:ae}{a:aK}:SB c a []:=⟨λx hx=>(nomatch hx),λx hx=>(nomatch hx),λ_=>rfl⟩
theorem SB.app{c:ae}{a:aK}{s t:au}(hs:SB c a s)(ht:SB c a t):SB c a (s++t):=
 ⟨λx hx=>(bb.1 hx).elim (hs.1 x) (ht.1 x),λx hx=>(bb.1 hx).elim (hs.2.1 x) (ht.2.1 x),λi=>by rw[Gs,lR,hs.2.2,ht.2.2];rfl⟩
theorem SB.two{c:ae}{a:aK}{x y i q r:Int}(hq:aE q)(hr:aE r)(e:q+r=0)(hx:bD x i∧yz c a x i)(hy:bD y i∧yz c a y i):SB c a [(x,(i,(q,()))),(y,(i,(r,())))]:=by
 refine⟨λz hz=> ?_,λz hz=> ?_,λj=> ?_⟩
 ·rcases aW.1 hz with rfl|hz
  ·exact hq
  ·rw[bW.1 hz];exact hr
 ·rcases aW.1 hz with rfl|hz
  ·exact hx
  ·rw[bW.1 hz];exact hy
 ·rw[dg,dg]
  by_cases h:i=j
  ·rw[aj h,aj h]
   show q+(r+0)=0
   omega
  ·rw[ah h,ah h];rfl
theorem PB.two{m:aD}{a:aK}{k n k' n' v w:Int}(hv:dn v)(hw:dn w)(e:v+w=0)(h1:cQ k n∧jw m a k n)(h2:cQ k' n'∧jw m a k' n'):PB m a [(k,(n,(cV v,()))),(k',(n',(cV w,())))]:=by
 refine⟨[(k,(n,(v,()))),(k',(n',(w,())))],rfl,λz hz=> ?_,λz hz=> ?_,?_⟩
 ·rcases aW.1 hz with rfl|hz
  ·exact hv
  ·rw[bW.1 hz];exact hw
 ·rcases aW.1 hz with rfl|hz
  ·exact h1
  ·rw[bW.1 hz];exact h2
 ·show v+(w+0)=0
  omega
abbrev Jo(c:ae)(b:aq)(r:aq×Int):Prop:=r.2=0→RBs c b r.1
theorem Jo.bad{c:ae}{b b':aq}{e:Int}(h:e≠0):Ok (Jo c b) (some (b',e)):=an λh'=>absurd h' h
theorem X2(N:Nat)(hN:4000000≤N){b:aq}{s e:au}(w:gE b)(hr:dO b.2.2.1=true)(hs:cz b.2.2.2.1=true)(lr:b.2.2.1.length≤90000)(ls:b.2.2.2.1.length≤90000)(qs:dy s)(lns:s.length≤100000)(qe:BA e)(lne:e.length≤100000):
  yd N b s (e.map gY)=some (dW b s e):=by
 unfold yd dW
 rw[FG N hN hs ls w.qs qs lns,Sk N hN hr lr w.qr qe lne]
 unfold vx
 rw[ar,ar]
 cases dP Fq (fS b.2.2.2.1 s) je with
 |none=>rfl
 |some s'=>
  cases dP aE (fS b.2.2.1 e) mG with
  |none=>rfl
  |some r'=>rfl
theorem sM(N:Nat)(hN:4000000≤N){c:ae}{b:aq}{s:au}{p:bF}{m:Nat}(hm:m≤50000)(hb:G m aL b)(h:RB c b)(hs:SB c b.2.1 s)(hp:PB b.1 b.2.1 p)(ls:s.length≤50000)(lp:p.length≤50000):Ok (Jo c b) (yd N b s p):=by
 obtain⟨e,rfl,e1,e2,e3⟩:=hp
 obtain⟨hr,GZ⟩:=dH (lf.2 h)
 have w:=G.wf hm hb
 rw[cv]at lp
 exact nD (X2 N hN w.w hr GZ w.r w.s hs.1 ω e1 ω) λh0=>h.dW hs.2.1 hs.2.2 e2 e3 h0
theorem oQ{v:Int}(h:aE v):dn v∧dn (-v):=by unfold aE at h;unfold dn;omega
theorem sN(N:Nat)(hN:4000000≤N){m:aD}{a:aK}{k n k' n' v:Int}(hv:dn v∧dn (-v))(h1:cQ k n∧jw m a k n)(h2:cQ k' n'∧jw m a k' n'):Ok (λr=>PB m a r∧r.length=2) (ye N k n k' n' (cV v)):=by
 unfold ye
 exact bA (jy N hN (Ay hv.1)) (an ⟨PB.two hv.2 hv.1 ω h1 h2,rfl⟩)
theorem tP{c:ae}{b:aq}(h:RB c b){k:Int}(hk:qf b.2.1 k):cQ 5 k∧jw b.1 b.2.1 5 k:=by
 obtain⟨y,hy,e⟩:=hk
 have hk:=(jv.1 h.a).1 y hy
 have e':y.1=k:=e
 exact⟨.inr (.inl ⟨rfl,e'▸hk.1⟩),λ_=>⟨y,hy,e⟩,λh=>absurd h δ⟩
theorem BW{m:aD}{a:aK}{k:Int}(h:1≤k∧k≤4):cQ k 0∧jw m a k 0:=
 ⟨.inl ⟨h.1,h.2,rfl⟩,λe=>by unfold dx at e;omega,λe=>by unfold dx at e;omega⟩
theorem AV{c:ae}{b:aq}(h:RB c b){k n:Int}(hk:6≤k∧k≤7)(hn:jl b.1 n):cQ k n∧jw b.1 b.2.1 k n:=by
 obtain⟨y,hy,e⟩:=hn
 have hm:=(gv.1 h.m).1 y hy
 have e':y.1=n:=e
 exact⟨.inr (.inr ⟨hk.1,hk.2,e'▸hm.1,e'▸hm.2.1⟩),λe=>by unfold dx at e;omega,λ_=>⟨y,hy,e⟩⟩
theorem K2{m:aD}{a:aK}{k:Int}(h:dx k 0∨qf a k)(hk:0≤k∧k≤24)(x:Int):cQ (AF k x).1 (AF k x).2.1∧jw m a (AF k x).1 (AF k x).2.1:=by
 unfold AF
 by_cases e:k=0
 ·rw[aj e]
  exact⟨show cQ 2 0 by decide,λh=>absurd h (show ¬dx 2 5 by decide),λh=>absurd h (show ¬(dx 2 6∨dx 2 7)by decide)⟩
 ·rw[ah e]
  refine⟨show cQ 5 k by unfold cQ;omega,λ_=>h.elim (λh=>absurd h e) id,λh=>absurd h (show ¬(dx 5 6∨dx 5 7)by decide)⟩
theorem N6{c:ae}{b:aq}(h:RB c b){k:Int}(ht:((fc b.2.1 k).2||decide (dx k 0))=true):dx k 0∨qf b.2.1 k:=by
 rcases Bool.or_eq_true_iff.1 ht with ht|ht
 ·exact .inr ((pk h.a k).1 ht)
 ·exact .inl (bx ht)
theorem HT(N:Nat)(hN:4000000≤N){m:aD}{a:aK}{t:sW}{p:Int}(ht:nA t)(hp:jg p)(h1:dx t.1 0∨qf a t.1)(h2:dx t.2.1 0∨qf a t.2.1):Ok (λr=>PB m a r.1∧r.1.length≤2) (QI N t p):=by
 refine nD (HI N hN ht hp) ?_
 have ht':=ht
 unfold nA kv at ht'
 have hk:dn ((p-t.2.2.2.2.1)*t.2.2.2.1)∧dn (-((p-t.2.2.2.2.1)*t.2.2.2.1)):=by
  have hq:=ht'.2.2.2.2.1
  have he:=ht'.2.2.2.2.2
  generalize t.2.2.2.2.1=e at*
  generalize t.2.2.2.1=q at*
  unfold jg at hp he
  have:=IT (d:=p-e) ω hq
  unfold dn;omega
 unfold QH
 dsimp only
 split
 ·exact⟨PB.nil,bo _⟩
 ·refine⟨⟨_,rfl,λx hx=> ?_,λx hx=> ?_,?_⟩,aG 2⟩
  ·rcases aW.1 hx with rfl|hx
   ·rw[nB];exact hk.1
   ·rw[bW.1 hx,nB];exact hk.2
  ·rcases aW.1 hx with rfl|hx
   ·exact K2 h1 ht'.1 _
   ·rw[bW.1 hx];exact K2 h2 ht'.2.1 _
  ·rw[bV,bV,iZ,nB,nB,cy,cy,iA];omega
theorem Jp(N:Nat)(hN:5000000≤N){c:ae}{b:aq}{l:bK}{m:Nat}(hm:m≤50000)(hb:G m aL b)(h:RB c b):Ok (Jo c b) (gz N c b l):=by
 unfold gz gz.b
 refine bA (dI N hN hm hb) (bt (λ_=>Jo.bad δ) λhB=>aw (λ_=>Jo.bad δ) λhl=> ?_)
 obtain⟨hp,GW⟩:=ic hB
 refine bg (len:=l.length) (F:=λn i (_:Unit)=>gz.l4 N n l c b (ck,(c9,(bH,(bH,(dC,(dT,())))))) i) (s:=()) (λi _=> ∀j,j<i→nA (l.getD j mK)) (λj hj=>ω) ω (λn i _ hi hI hr=> ?_) (λn _ hI=> ?_)
 all_goals unfold gz.l4 gz.dw
 ·rw[ax (x:=(i:Int)+1) ω ω,ag i]
  refine aw (λ_=>aB ⟨ω,ω⟩ (bA (xD N _) (bt (λ_=>Jo.bad δ) λht=>hr () λj hj=> ?_))) λ_=>ω
  by_cases e:j=i
  ·rw[e];exact bx ht
  ·exact hI j ω
 ·refine aw (λ_=>ω) λ_=> ?_
  have wf:=G.wf hm hb
  refine bg (len:=l.length) (F:=λn i (s:au×bF)=>gz.BM N n l c b (ck,(c9,(bH,(bH,(dC,(dT,())))))) s.1 s.2 i) (s:=(_,_)) (λi s=>(SB c b.2.1 s.1∧s.1.length≤2*i)∧PB b.1 b.2.1 s.2∧s.2.length≤2*i) ⟨⟨SB.nil,bo _⟩,PB.nil,bo _⟩ ω (λn i s hi hJ hr=> ?_) (λn s hJ=> ?_)
  all_goals unfold gz.BM gz.yZ
  all_goals obtain⟨⟨j1,j2⟩,j3,j4⟩:=hJ
  ·have ht0:=hI i hi
   have ht:=ht0
   unfold nA kv at ht
   dsimp only
   rw[ax (x:=(i:Int)+1) ω ω,ag i,aJ]
   generalize l.getD i mK=t at*
   refine aw (λ_=>aB ⟨ω,ω⟩ (bA (tF N b wf.w.a ω _) (bt (λ_=>Jo.bad δ) λt1=>bA (tF N b wf.w.a ω _) (bt (λ_=>Jo.bad δ) λt2=>eg (λ_=>Jo.bad δ) λe9=>aC ?_ (aB ⟨ht.2.2.2.1.1,by rw[hp];exact e9⟩ ?_))))) λ_=>ω
   ·rw[aR,aI];omega
   have i1:=N6 h t1
   have i2:=N6 h t2
   have pr:jg (b.2.2.2.2.1.getD t.2.2.1.toNat 0):=by
    unfold eV at GW
    have hk:t.2.2.1.toNat<b.2.2.2.2.1.length:=by
     rw[hp]
     have g: ∀x:Int,0≤x→x<(c.1.length:Int)→x.toNat<c.1.length:=λx h1 h2=>ω
     exact g _ ht.2.2.2.1.1 e9
    exact(bx GW) _ hk
   refine af (HT N ω ht0 pr i1 i2) λr ⟨yP,yG⟩=>aC ω (hr (_,_) ⟨⟨?_,?_⟩,PB.app j3 yP,?_⟩)
   ·refine SB.app j1 ?_
    have hq:aE t.2.2.2.1∧aE (0-t.2.2.2.1)∧W .i64 (0-t.2.2.2.1)=0-t.2.2.2.1:=by
     have hq:=ht.2.2.2.2.1
     generalize t.2.2.2.1=q at*
     exact⟨by unfold aE;omega,by unfold aE;omega,ax ω ω⟩
    rw[hq.2.2]
    have pl: ∀x:Int,0≤x∧x≤24→bD x t.2.2.1:=λx hx=>⟨hx.1,hx.2,ht.2.2.2.1.1,ht.2.2.2.1.2⟩
    exact SB.two hq.1 hq.2.1 ω ⟨pl _ ht.1,i1,e9⟩ ⟨pl _ ht.2.1,i2,e9⟩
   ·dsimp only;rw[List.length_append,List.length_cons,List.length_singleton];omega
   ·dsimp only;rw[List.length_append];omega
  ·exact aw (λ_=>ω) λ_=>af (sM N ω hm hb h j1 j3 ω ω) λr h=>an h
theorem abh(N:Nat)(hN:5000000≤N){c:ae}{b:aq}{h:bO}{a q p:Int}{m:Nat}(h2:200≤m)(hm:m≤40000)(hc:G m aA c)(hb:G m aL b)(hR:RB c b)(hh:G m eB h)(ha:aE a)(hq:aE q)(hp:aE p):Ok (λr=>r.2.2=0→RB c r.1∧r.2.1.2.1=h.2.1∧W3 r.2.1.2.2.2.1 1000000000) (pK N c b h a q p):=by
 have ho:G m mT (h.1,(a,(h.2.1,(W .i64 (3-h.2.2.1),(q,(p,())))))):=⟨hh.1,ha,hh.2.1,fT _,hq,hp,trivial⟩
 have dJ: ∀e:Int,e≠0→Ok (λr:aq×bO×Int=>r.2.2=0→RB c r.1∧r.2.1.2.1=h.2.1∧W3 r.2.1.2.2.2.1 1000000000) (some ((ck,(c9,(bH,(bH,(dC,(dT,())))))),(aV,e))):=λe h=>an λh'=>absurd h' h
 unfold pK pK.b
 have hj:AL h→1≤q→ ¬nS h.2.2.2.1 q→ ∀t:sW,Ok (λr=>r.2.2=0→RB c r.1∧r.2.1.2.1=h.2.1∧W3 r.2.1.2.2.2.1 1000000000) (pK.Vp N q c b h (ck,(c9,(bH,(bH,(dC,(dT,())))))) aV t):=λhk q1 q2 t=>by
  have g: ∀x:Int,qIn x→ ¬nS x q→W3 (W .i64 (x-q)) 1000000000:=λx h1 h2=>by unfold qIn at h1;unfold nS at h2;unfold W3;rw[ax ω ω];omega
  unfold pK.Vp pK.NM
  exact af (Jp N hN ω hb hR) λr hr=>bu (λh=>dJ _ h) λh0=>an λ_=>⟨(hr h0).1,rfl,g _ hk.2.2.2 q2⟩
 have b1:=dJ 1 δ
 exact bA (dI N hN ω hb) (bt (λ_=>b1) λ_=>bA (w3 N h) (bt (λ_=>b1) λhk=>aw (λ_=>b1) λq1=>aw (λ_=>b1) λ_=>aw (λ_=>b1) λ_=>aw (λ_=>b1) λ_=>aw (λ_=>dJ _ δ) λq2=>aw (λ_=>b1) λ_=>aw (λ_=>b1) λ_=>af (AO N hN h2 hm hc hb ho) λe _=>bu (λh=>dJ _ h) λ_=>ok_eq (λ_=>hj (bx hk) q1 (Int.not_lt.2 q2) _) λ_=>hj (bx hk) q1 (Int.not_lt.2 q2) _))
theorem N7(N:Nat)(hN:5000000≤N){c:ae}{b:aq}{m:Nat}(h2:200≤m)(hm:m≤40000)(hc:G m aA c)(hb:G m aL b)(hR:RB c b){a:Int}(ha:aE a){q:Int}(hq:aE q):Ok (Jo c b) (Uv N c b a q):=by
 have b1: ∀e:Int,e≠0→Ok (Jo c b) (some ((ck,(c9,(bH,(bH,(dC,(dT,())))))),e)):=λe h=>Jo.bad h
 unfold Uv
 refine bA (dI N hN ω hb) (bt (λ_=>b1 _ δ) λ_=>aw (λ_=>b1 _ δ) λ_=>af (F9 N ω ω hb.2.1 _) λx ⟨_,hxf⟩=>bt (λ_=>b1 _ δ) λhf=>af (oB N ω ω hb.1 _) λ_ _=>bu (λ_=>b1 _ δ) λ_=>af (mu N ω ω hb.2.2.1 _ _) λg hg=>af (bp N ω hg) λx hx=>af (bp N ω hq) λy hy=>af (xG N ω ω hx hy) λz hz=>af (F8 N ω h2 hm hc hb (bo _) _) λw hw=>af (pJ N ω ω ω hz hw) λ_ _=>aw (λ_=>b1 _ δ) λ_=>bA (c5 N ω hq.1 hq.2) ?_)
 rw[hxf]at hf
 exact af (sN N ω (oQ hq) (tP hR ((pk hR.a a).1 hf)) (BW δ)) λp ⟨hp,Hl⟩=>af (sM N ω ω hb hR SB.nil hp (bo _) ω) λr hr=>an hr
def CX(i d:Int)(l:au):au:=(l.filter λx=>decide (dx x.2.1 i∧ ¬dx d 0)).map λx=>AF x.1 (dU x*d)
theorem Q4{l:au}{i d:Int}{k:Nat}(hk:k<l.length):CX i d (l.take (k+1))=CX i d (l.take k)++if dx (l.getD k bh).2.1 i∧ ¬dx d 0 then [AF (l.getD k bh).1 (dU (l.getD k bh)*d)]else []:=by
 have e2:l.take (k+1)=l.take k++[l[k]]:=(sf hk).symm
 unfold CX
 rw[e2,List.filter_append,cY,iz hk]
 congr 1
 by_cases h:dx l[k].2.1 i∧ ¬dx d 0
 ·rw[aj h,vJ,aj (bs h)];rfl
 ·rw[ah h,vJ,ah (by rw[cj h];exact qA)];rfl
theorem Jq{i d:Int}: ∀l:au,((CX i d l).map dU).sum=(c6 i l).sum*d
 |[]=>(Int.zero_mul d).symm
 |x::t=>by
  have ih:=Jq (i:=i) (d:=d) t
  unfold CX at ih ⊢
  rw[dg]
  by_cases h:x.2.1=i
  ·rw[aj h]
   by_cases h0:d=0
   ·rw[vJ,ah (by rw[cj (λh=>h.2 h0)];exact qA),ih,h0,zA,zA]
   ·rw[vJ,aj (bs ⟨h,h0⟩),bV,bV,cy,cy,ih,qK,nB]
  ·rw[ah h,vJ,ah (by rw[cj (λk=>h k.1)];exact qA),ih]
theorem abi{q d:Int}(hq:aE q)(hd: -1000000000000≤d∧d≤1000000000000):dn (q*d):=by
 have h1:(q*d).natAbs≤9223372036854775808*1000000000000:=by
  rw[Int.natAbs_mul]
  unfold aE at hq
  exact vN ω ω
 unfold dn;omega
theorem X3(N:Nat)(hN:4000000≤N){c:ae}{b:aq}{m:Nat}(hm:m≤50000)(hb:G m aL b)(hR:RB c b){i:Int}(hi0:0≤i∧i<6)(x y:Int):Ok (λr=>PB b.1 b.2.1 r.1∧r.1.length≤50000) (nI N b.2.2.2.1 i x y):=by
 have h:=hb.2.2.2.1
 have hl:=h.1
 have hs:=(dH (lf.2 hR)).2
 have fl:(c6 i b.2.2.2.1).sum=0:=by
  have:=hR.s
  unfold om at this
  have:=bx (cO.1 this).1 i.toNat (by unfold ko;omega)
  unfold sU dx sB at this
  rw[aj hs,vF hi0.1]at this
  exact this
 have hp:=(cU hs).2
 unfold nI nI.b
 have nil: ∀e:Int,Ok (λr:bF×Int=>PB b.1 b.2.1 r.1∧r.1.length≤50000) (some ([],e)):=λe=>an ⟨PB.nil,bo _⟩
 refine bA (kN N ω ω) (bt (λ_=>nil _) λ_=>bA (iH N _) (bt (λ_=>nil _) λha=>bA (iH N _) (bt (λ_=>nil _) λeY=> ?_)))
 have ha:=bx ha
 have eY:=bx eY
 refine bA (c5 N ω ω ω) (bA (c5 N ω ω ω) (bA (uv N hN ((Fit.i64 ω ω).mono ω) ((Fit.i64 ω ω).mono ω)) ?_))
 have d64: -1000000000000≤y-x∧y-x≤1000000000000:=ω
 generalize y-x=d at*
 have fin:PB b.1 b.2.1 ((CX i d b.2.2.2.1).map gY):=by
  refine⟨_,rfl,λz hz=> ?_,λz hz=> ?_,?_⟩
  ·obtain⟨u,hu,rfl⟩:=cD.1 hz
   rw[nB];exact abi (h.2 u (vL.1 hu).1).2.2.1 d64
  ·obtain⟨u,hu,rfl⟩:=cD.1 hz
   have hu:=(vL.1 hu).1
   exact K2 (hR.sk u hu).1 ⟨(hp u hu).1.1,(hp u hu).1.2.1⟩ _
  ·rw[Jq,fl,Int.zero_mul]
 refine bg (len:=b.2.2.2.1.length) (F:=λn j s=>nI.l6 N n b.2.2.2.1 i s (cV d) j) (λj s=>s=(CX i d (b.2.2.2.1.take j)).map gY∧s.length≤j) ⟨rfl,bo _⟩ ω (λn j s hj hI hr=> ?_) (λn s hI=> ?_)
 all_goals unfold nI.l6 nI.uu
 ·obtain⟨i1,i2⟩:=hI
  have st:=Q4 (i:=i) (d:=d) hj
  have hx:G m jt (b.2.2.2.1.getD j bh):=h.2 _ (rG hj)
  rw[ax (x:=(j:Int)+1) ω ω,ag j,aJ]
  have skip: ¬(dx (b.2.2.2.1.getD j bh).2.1 i∧ ¬dx d 0)→s=(CX i d (b.2.2.2.1.take (j+1))).map gY∧s.length≤j+1:=λh=>⟨by rw[st,ah h,ch];exact i1,ω⟩
  refine aw (λ_=>aB ⟨ω,ω⟩ (bu (λe=>hr s (skip λk=>e k.1)) λe1=>bA (p4 N d) (ok_eq (λe=>hr s (skip λk=>k.2 (kp.1 e))) λe2=>aB ⟨ω,ω⟩ (bA (BH _ (dU (b.2.2.2.1.getD j bh)*d) N) (aB ⟨ω,ω⟩ (bA (c5 N ω hx.2.2.1.1 hx.2.2.1.2) (bA (wF N hN ((Fit.i64 hx.2.2.1.1 hx.2.2.1.2).mono ω) ((Fit.i64 ω ω).mono ω)) (aC (by rw[aI];omega) (hr _ ⟨?_,by rw[aS,aI];omega⟩))))))))) λ_=>ω
  rw[st,aj ⟨e1,λk=>e2 (kp.2 k)⟩,cY,i1]
  congr 1
  unfold gY
  rw[bV,iZ,nB];rfl
 ·have i2:=hI.2
  refine aw (λ_=>ω) λ_=>an ⟨?_,by dsimp only;omega⟩
  have:=hI.1
  rw[iY]at this
  rw[this];exact fin
theorem Q5{l:List Int}(h:eV l=true){p:Int}(hp:1≤p∧p≤1000000000000)(k:Nat):eV (l.set k p)=true:=by
 unfold eV at*
 have h:=bx h
 refine bs λj hj=> ?_
 rw[bN]at hj
 have Zd:=h j hj
 unfold p6 at*
 rw[aU,List.getElem?_set]
 split
 ·rw[aj ω];exact hp
 ·rw[←aU];exact Zd
theorem N8(N:Nat)(hN:5000000≤N){c:ae}{b:aq}{m:Nat}(hm:m≤50000)(hb:G m aL b)(hR:RB c b)(i p:Int):Ok (λr=>r.2.2=0→RB c r.1) (Uu N c b i p):=by
 have dJ: ∀e:Int,e≠0→Ok (λr:aq×bF×Int=>r.2.2=0→RB c r.1) (some ((ck,(c9,(bH,(bH,(dC,(dT,())))))),([],e))):=λe h=>an λh'=>absurd h' h
 have Hl:=hb.2.2.2.2.1.1
 have hci:c.1.length≤6:=by
  have:=hR.c
  unfold fL at this
  exact(bx (cO.1 this).1).2
 unfold Uu
 refine bA (dI N hN hm hb) (bt (λ_=>dJ _ δ) λhB=>bA (iH N _) (bt (λ_=>dJ _ δ) λhp=>aw (λ_=>dJ _ δ) λh0=>eg (λ_=>dJ _ δ) λh1=> ?_))
 obtain⟨hpr,_⟩:=ic hB
 have hp:=bx hp
 dsimp only
 rw[cJ]
 refine aB ⟨h0,by rw[hpr];exact h1⟩ (af (X3 N ω hm hb hR ⟨h0,ω⟩ _ _) λf ⟨hf,Tf⟩=>af (sM N ω hm hb hR SB.nil hf (bo _) Tf) λr hr=>bu (λh=>dJ _ h) λhz=>aC (by rw[bU];omega) (aB ⟨h0,by rw[hpr];exact h1⟩ (an λ_=> ?_)))
 have q:=(hr hz).1
 exact⟨q.c,q.m,q.a,q.ma,q.r,q.t,q.s,q.o,by rw[bN];exact hR.n,q.rk,q.sk,q.ok,Q5 hR.p hp _⟩
end VM
end
section
namespace VM
open Go VM.F
theorem Gt{l s:bq}(h:ej l=true)(hs:s.Sublist l):ej s=true:=by
 obtain⟨h1,h2,h3⟩:=kA.1 h
 exact kA.2 ⟨λx hx=>h1 x (hs.subset hx),h2.sublist hs,cm hs.length_le h3⟩
theorem Gu{α:Type}{l s:List α}{d:α}{i:Nat}(hi:i<l.length)(h:s.Sublist (l.take i)):s.Sublist (l.take (i+1))∧(s++[l.getD i d]).Sublist (l.take (i+1)):=by
 have e2:l.take (i+1)=l.take i++[l[i]]:=(sf hi).symm
 rw[e2,iz hi]
 exact⟨h.trans (List.sublist_append_left ..),h.append (List.Sublist.refl _)⟩
theorem UO(N:Nat)(hN:200000≤N){l:bq}(hl:l.length≤50000)(a id:Int):Ok (λr=>r.2=0→ej r.1=true∧ ∀x∈r.1,x∈l) (nH N l a id):=by
 have bad: ∀e:Int,e≠0→Ok (λr:bq×Int=>r.2=0→ej r.1=true∧ ∀x∈r.1,x∈l) (some ([],e)):=λe h=>an λh'=>absurd h' h
 unfold nH nH.b
 refine bA (ia N ω hN) (bt (λ_=>bad _ δ) λhO=>bg (len:=l.length) (F:=λn i s=>nH.l5 N n l a id s i) (λi s=>s.Sublist (l.take i)) (Eu _) ω (λn i s hi hI hr=> ?_) (λn s hI=> ?_))
 all_goals have hs:=hI.length_le
 all_goals rw[cc]at hs
 all_goals unfold nH.l5 nH.ei
 ·rw[ax (x:=(i:Int)+1) ω ω,ag i]
  obtain⟨q1,q2⟩:=Gu (d:=fa) hi hI
  have h1:=hr s q1
  have h2:=hr _ q2
  repeat' first|exact h1|exact h2|refine aC (by rw[aI];omega) ?_|refine aB ⟨ω,ω⟩ ?_|refine aw (λ_=> ?_) (λ_=> ?_)|refine bu (λ_=> ?_) (λ_=> ?_)|(exfalso;omega)
 ·rw[iY]at hI
  exact aw (λ_=>ω) λ_=>ok_eq (λ_=>bad _ δ) λ_=>an λ_=>⟨Gt hO hI,λx hx=>hI.subset hx⟩
theorem X4(N:Nat)(hN:200000≤N){l:bq}{a:List Int}{m:Nat}(hm:m≤50000)(hl:l.length≤m)(ha:a.length≤m):Ok (λr=>ej l=true→r.Sublist l) (fU N l a):=by
 unfold fU fU.b
 refine bA (ia N ω hN) (bt (λh=>an λh'=>by rw[h]at h';exact nomatch h') λ_=>bg (len:=l.length) (F:=λn i s=>fU.l5 N n l a s i) (λi s=>s.Sublist (l.take i)) (Eu _) ω (λn i s hi hI hr=> ?_) (λn s hI=> ?_))
 all_goals have hs:=hI.length_le
 all_goals rw[cc]at hs
 all_goals unfold fU.l5 fU.ei
 ·obtain⟨q1,q2⟩:=Gu (d:=fa) hi hI
  refine aw (λ_=> ?_) λ_=>ω
  refine bg (len:=a.length) (F:=λn' j b=>fU.l9 N (fU.l5 N n) n' l a s (i:Int) b j) (λ_ _=>True) trivial ω (λn' j b hj _ eO=> ?_) (λn' b _=> ?_)
  all_goals unfold fU.l9 fU.xy
  ·rw[ax (x:=(j:Int)+1) ω ω,ag j]
   exact aw (λ_=>pf (λ_=>eO _ trivial) λ_=>aB ⟨ω,ω⟩ (aB ⟨ω,ω⟩ (eO _ trivial))) λ_=>ω
  ·rw[ax (x:=(i:Int)+1) ω ω,ag i]
   exact aw (λ_=>ω) λ_=>bt (λ_=>aB ⟨ω,ω⟩ (aC (by rw[aI];omega) (hr _ q2))) λ_=>hr s q1
 ·rw[iY]at hI
  exact aw (λ_=>ω) λ_=>an λ_=>hI
theorem N9(N:Nat)(hN:5000000≤N){c:ae}{b:aq}{m:Nat}(hm:m≤50000)(hb:G m aL b)(hR:RB c b)(id:Int)(bf:jl b.1 id):Ok (λr=>RB c r.1) (KR N c b id):=by
 have GZ:eA b.1 id≠0:=(uV hR.m id).2 bf
 unfold KR
 refine bA (dI N hN hm hb) (bt (λh=>by rw[lf.2 hR]at h;exact nomatch h) λ_=>bA (oi N (cm hb.1.1 ω) ω _) (ok_eq (λh=>absurd h GZ) λ_=>af (NO N ω hm hb.2.1 _) λa ha=>af (X4 N ω hm hb.2.2.2.2.2.1.1 ha) λr hr=>an ?_))
 have hs:=hr hR.o
 exact hR.K0 (Gt hR.o hs) λx hx=>hR.ok x (hs.subset hx)
theorem abj(N:Nat)(hN:200000≤N){l:bq}(hl:l.length≤50000)(a d:Int):Ok (λr=>r.length≤l.length∧ ∀x∈r,x∈l) (dK N l a d):=by
 unfold dK dK.b
 refine bA (ia N ω hN) (bt (λ_=>an ⟨bo _,λx hx=>nomatch hx⟩) λ_=>bg (len:=l.length) (F:=λn i s=>dK.l5 N n l a d s i) (λi s=>s.length≤i∧ ∀x∈s,x∈l) ⟨aG 0,λx hx=>nomatch hx⟩ ω (λn i s hi hI hr=> ?_) (λn s hI=> ?_))
 all_goals unfold dK.l5 dK.ei
 ·obtain⟨hs,RH⟩:=hI
  have hx:l.getD (i:Int).toNat fa∈l:=rG hi
  have fin: ∀k:Nat,k≤s.length→Ok (λr=>r.length≤l.length∧ ∀x∈r,x∈l) (dK.Je N (dK.l5 N n) l a d s (i:Int) (k:Int)):=λk hk=>by
   unfold dK.Je dK.BN
   rw[ax (x:=(i:Int)+1) ω ω,ag i]
   dsimp only
   have t: ∀a b:Nat,(List.drop a (List.take b s)).length≤s.length:=λa b=>by rw[dV,cc];omega
   have t1:=t (0:Int).toNat (k:Int).toNat
   have t2:=t (k:Int).toNat (s.length:Int).toNat
   refine BL ⟨ω,ω,ω,ω⟩ (aC ω (aB ⟨ω,ω⟩ (aC (by rw[aI];omega) (BL ⟨ω,ω,ω,ω⟩ (aC (by rw[aS,aI];omega) (hr _ ⟨?_,λy hy=> ?_⟩))))))
   ·simp only[cJ,aS,dV,cc,aI,aJ,dr];omega
   ·rcases bb.1 hy with hy|hy
    ·rcases bb.1 hy with hy|hy
     ·exact RH y (lM (mV hy))
     ·rw[bW.1 hy];exact hx
    ·exact RH y (lM (mV hy))
  have h1:=hr s ⟨ω,RH⟩
  have hw:Ok (λr=>r.length≤l.length∧ ∀x∈r,x∈l) (dK.l9 N (dK.l5 N n) N l a d s (i:Int) 0):=by
   refine lW (len:=s.length) (F:=λn' j=>dK.l9 N (dK.l5 N n) n' l a d s (i:Int) j) ω (λn' j hj eO=> ?_) (λn'=> ?_)
   all_goals unfold dK.l9 dK.xy
   ·rw[ax (x:=(j:Int)+1) ω ω,ag j]
    have hah: ∀x y:gk,Ok (λ_=>True) (Ut N x y):=λx y=>by unfold Ut;exact bu (λ_=>eZ) λ_=>eZ
    exact aw (λ_=>aB ⟨ω,ω⟩ (aB ⟨ω,ω⟩ (af (hah _ _) λ_ _=>pf (λ_=>eO) λ_=>fin j ω))) λ_=>ω
   ·exact aw (λ_=>ω) λ_=>fin _ (aG _)
  rw[ax (x:=(i:Int)+1) ω ω,ag i]
  repeat' first|exact h1|exact hw|refine aB ⟨ω,ω⟩ ?_|refine aw (λ_=> ?_) (λ_=> ?_)|refine bu (λ_=> ?_) (λ_=> ?_)|(exfalso;omega)
 ·exact aw (λ_=>ω) λ_=>an hI
def aiq(x:gk)(q:Int):gk:=(x.1,(x.2.1,(x.2.2.1,(x.2.2.2.1,(q,x.2.2.2.2.2)))))
def leftOf(l:bq)(n:Int)(k:Nat)(x:gk):Prop:= ∃q:Int,x=aiq (l.getD k fa) q∧n≤q∧q≤1000000000
theorem leftOf.mono{l:bq}{n n':Int}(h:n'≤n){k:Nat}{x:gk}(hx:leftOf l n k x):leftOf l n' k x:=by
 obtain⟨q,e,h1,h2⟩:=hx
 exact⟨q,e,fG h h1,h2⟩
abbrev SM(l:bq)(o:gk)(r:bq×bK×Int×Int):Prop:=ej r.1=true∧(∀x∈r.1,∃y∈l,x.1=y.1∧x.2.1=y.2.1∧x.2.2.1=y.2.2.1)∧r.2.2.1≤o.2.2.2.2.1
theorem abk{l s:bq}{n:Int}(hs:s.length=l.length)(h: ∀k,k<l.length→leftOf l n k (s.getD k fa))(hp:l.Pairwise Jl):s.Pairwise Jl:=by
 rw[tV]at hp ⊢
 intro i j hi hj pP
 have g: ∀k (hk:k<s.length),s[k].1=(l[k]' ω).1:=λk hk=>by
  obtain⟨q,e,_⟩:=h k ω
  rw[iz hk,iz (show k<l.length by omega)]at e
  rw[e];rfl
 unfold Jl
 rw[g i hi,g j hj]
 exact hp i j ω ω pP
theorem X5(N:Nat)(hN:200000≤N){l:bq}{o:gk}(hl:l.length≤50000)(hO:ej l=true)(ho:q6 o):Ok (SM l o) (cg N l o):=by
 unfold cg cg.b
 refine bA (ia N ω hN) (bt (λh=>by rw[hO]at h;exact nomatch h) λ_=>bA (Ak N o) (bt (λh=>absurd ho (of_decide_eq_false h)) λ_=>aC (by rw[bU];omega) (af (abj N hN hl _ _) λw ⟨hwl,hwm⟩=> ?_)))
 obtain⟨h1,h2,h3⟩:=kA.1 hO
 rw[cJ]
 have fin: ∀(n:Int) (s:bq) (q:Int) (t:bK),s.length=l.length→(∀k,k<l.length→leftOf l n k (s.getD k fa))→q≤o.2.2.2.2.1→Ok (SM l o) (cg.j22 N s q t):=λn s q t hs Hp hq=>by
  unfold cg.j22 cg.aaY
  refine bg (len:=s.length) (F:=λn i u=>cg.Lw N n s q t u i) (λi u=>u.Sublist (s.take i)∧ ∀x∈u,nS 0 x.2.2.2.2.1) ⟨Eu _,λx hx=>nomatch hx⟩ ω (λn i u hi hI hr=> ?_) (λn u hI=> ?_)
  all_goals obtain⟨i1,i2⟩:=hI
  all_goals have G9:=i1.length_le
  all_goals rw[cc]at G9
  all_goals unfold cg.Lw cg.NQ
  ·rw[ax (x:=(i:Int)+1) ω ω,ag i,aJ]
   obtain⟨q1,q2⟩:=Gu (d:=fa) hi i1
   exact aw (λ_=>aB ⟨ω,ω⟩ (aw (λhq=>aB ⟨ω,ω⟩ (aC (by rw[aI];omega) (hr _ ⟨q2,λx hx=>by
    rcases bb.1 hx with hx|hx
    ·exact i2 x hx
    ·rw[bW.1 hx];exact hq⟩))) λ_=>hr u ⟨q1,i2⟩)) λ_=>ω
  ·rw[iY]at i1
   have PV: ∀x∈s,∃y∈l,∃q:Int,x=aiq y q∧q≤1000000000:=λx hx=>by
    obtain⟨k,hk,e⟩:=gh hx
    obtain⟨q,e',_,h⟩:=Hp k ω
    rw[iz hk,e]at e'
    exact⟨_,rG (d:=fa) (show k<l.length by omega),q,e',h⟩
   refine aw (λ_=>ω) λ_=>an ⟨kA.2 ⟨λx hx=> ?_,(abk hs Hp h2).sublist i1,by have:=i1.length_le;dsimp only at*;omega⟩,λx hx=> ?_,hq⟩
   ·obtain⟨y,hy,q,e,hq⟩:=PV x (i1.subset hx)
    have h0:=i2 x hx
    have ok:=h1 y hy
    subst e
    exact⟨ok.1,ok.2.1,ok.2.2.1,ok.2.2.2.1,⟨show(1:Int)≤q from h0,hq⟩,ok.2.2.2.2.2⟩
   ·obtain⟨y,hy,q,e,_⟩:=PV x (i1.subset hx)
    exact⟨y,hy,by rw[e];rfl,by rw[e];rfl,by rw[e];rfl⟩
 refine bg (len:=w.length) (F:=λn i (s:bq×Int×bK)=>cg.l7 N n o s.1 s.2.1 s.2.2 w i) (s:=(_,(_,_))) (λi s=>(s.1.length=l.length∧ ∀k,k<l.length→leftOf l (-1000000000*(i:Int)) k (s.1.getD k fa))∧(0≤s.2.1∧s.2.1≤o.2.2.2.2.1)∧s.2.2.length≤i) ⟨⟨rfl,λk hk=>⟨(l.getD k fa).2.2.2.2.1,rfl,?_,?_⟩⟩,⟨?_,fH _⟩,bo _⟩ ω (λn i s hi hI hr=> ?_) (λn s hI=> ?_)
 ·have:=(h1 _ (rG (d:=fa) hk)).2.2.2.2.1.1
  exact fG δ this
 ·exact(h1 _ (rG (d:=fa) hk)).2.2.2.2.1.2
 ·exact fG δ ho.2.2.2.2.1.1
 all_goals unfold cg.l7 cg.q4
 ·obtain⟨⟨hs,Hp⟩,hq,ht⟩:=hI
  have hoq:o.2.2.2.2.1≤1000000000:=ho.2.2.2.2.1.2
  have f1:=fin _ s.1 s.2.1 s.2.2 hs Hp hq.2
  have hx:=h1 _ (hwm _ (rG (d:=fa) hi))
  have aii: ∀(v:Int) (t:sW),0≤v→v≤s.2.1→v≤1000000000→Ok (SM l o) (cg.A8 N (cg.l7 N n) o s.1 s.2.1 s.2.2 w (i:Int) v t):=λv t v0 v1 v2=>by
   unfold cg.A8 cg.uT
   have TL:s.2.1≤1000000000:=fG hq.2 hoq
   rw[ax (x:=s.2.1-v) ω ω]
   refine aC (by rw[aI];omega) (bg (len:=s.1.length) (F:=λn' j u=>cg.G8 N (cg.l7 N n) n' o u (s.2.1-v) (s.2.2++[t]) w (i:Int) v j) (λj u=>u.length=l.length∧ ∀k,k<l.length→leftOf l (if k<j then-1000000000*((i:Int)+1)else-1000000000*(i:Int)) k (u.getD k fa)) ⟨hs,λk hk=>by rw[ah ω];exact Hp k hk⟩ ω (λn' j u hj hJ eO=> ?_) (λn' u hJ=> ?_))
   all_goals obtain⟨G9,hum⟩:=hJ
   all_goals unfold cg.G8 cg.DD
   ·rw[ax (x:=(j:Int)+1) ω ω,ag j,aJ,aJ]
    have same: ∀k,k<l.length→k≠j→leftOf l (if k<j+1 then-1000000000*((i:Int)+1)else-1000000000*(i:Int)) k (u.getD k fa):=λk hk e=>by
     have:=hum k hk
     by_cases h:k<j
     ·rw[aj h]at this;rw[aj ω];exact this
     ·rw[ah h]at this;rw[ah ω];exact this
    have h0:=hum j ω
    rw[ah ω]at h0
    refine aw (λ_=>aB ⟨ω,ω⟩ (aB ⟨ω,ω⟩ (ok_eq (λ_=>aB ⟨ω,ω⟩ (aB ⟨ω,ω⟩ (eO _ ⟨by rw[bN];exact G9,λk hk=> ?_⟩))) λ_=>eO u ⟨G9,λk hk=> ?_⟩))) λ_=>ω
    ·by_cases e:k=j
     ·subst e
      rw[aj ω]
      obtain⟨q,e,q1,q2⟩:=h0
      have es: ∀y:gk,(u.set k y).getD k fa=y:=λy=>by
       rw[aU,List.getElem?_set_self ω];rfl
      rw[es,e]
      unfold aiq
      dsimp only
      rw[ax (x:=q-v) ω ω]
      exact⟨q-v,rfl,ω,ω⟩
     ·have es: ∀y:gk,(u.set j y).getD k fa=u.getD k fa:=λy=>by
       rw[aU,aU,List.getElem?_set_ne ω]
      rw[es];exact same k hk e
    ·by_cases e:k=j
     ·subst e
      rw[aj ω]
      exact h0.mono ω
     ·exact same k hk e
   ·rw[ax (x:=(i:Int)+1) ω ω,ag i]
    exact aw (λ_=>ω) λ_=>hr (_,(_,_)) ⟨⟨G9,λk hk=>by
     have:=hum k hk
     rw[aj ω]at this
     rw[Int.natCast_add];exact this⟩,⟨by dsimp only;omega,by dsimp only;omega⟩,by dsimp only;rw[List.length_append,List.length_singleton];omega⟩
  have DE:0<s.2.1→Ok (SM l o) (cg.HN N (cg.l7 N n) o s.1 s.2.1 s.2.2 w (i:Int)):=λHo=>by
   unfold cg.HN cg.BO
   rw[ax (x:=(i:Int)+1) ω ω,ag i,aJ]
   dsimp only
   have h1:=hr s ⟨⟨hs,λk hk=>(Hp k hk).mono ω⟩,hq,ω⟩
   have TL:s.2.1≤1000000000:=fG hq.2 hoq
   have hm:0≤mn s.2.1 (w.getD i fa).2.2.2.2.1∧mn s.2.1 (w.getD i fa).2.2.2.2.1≤s.2.1:=by
    have h1:=hx.2.2.2.2.1.1
    generalize (w.getD i fa).2.2.2.2.1=q at*
    rw[Rx];split<;>omega
   repeat' first|exact h1|exact aii _ _ hm.1 hm.2 (fG hm.2 TL)|refine aB ⟨ω,ω⟩ ?_|refine ok_eq (λ_=> ?_) (λ_=> ?_)
  repeat' first|exact f1|exact DE (by assumption)|refine aB ⟨ω,ω⟩ ?_|refine aw (λ_=> ?_) (λ_=> ?_)|refine ok_eq (λ_=> ?_) (λ_=> ?_)|(exfalso;omega)
 ·obtain⟨⟨hs,Hp⟩,hq,ht⟩:=hI
  exact aw (λ_=>ω) λ_=>fin _ _ _ _ hs Hp hq.2
theorem X7(N:Nat)(hN:5000000≤N){c:ae}{b:aq}{o:gk}{m:Nat}(h2:200≤m)(hm:m≤40000)(hc:G m aA c)(hb:G m aL b)(hR:RB c b)(ho:G 0 mT o):Ok (λr=>r.2.2.2=0→RB c r.1) (jj N c b o):=by
 have Ii:=hb.2.2.2.2.2.1.1
 have dJ: ∀(t:bK) (e:Int),e≠0→Ok (λr:aq×bK×Int×Int=>r.2.2.2=0→RB c r.1) (some ((ck,(c9,(bH,(bH,(dC,(dT,())))))),(t,((0:Int),e)))):=λt e h=>an λh'=>absurd h' h
 obtain⟨g1,g2,g3⟩:=kA.1 hR.o
 unfold jj jj.b
 refine af (AO N hN h2 hm hc hb (G.mono (bo m) ho)) λe he=>bu (λh=>dJ _ _ h) λe0=> ?_
 obtain⟨o1,o2,o3⟩:=he e0
 have oA:=(pk hR.a _).1 o2
 have DE: ∀(r:bq) (t:bK) (q:Int),ej r=true→(∀x∈r,∃y∈b.2.2.2.2.2.1,x.1=y.1∧x.2.1=y.2.1∧x.2.2.1=y.2.2.1)→q≤o.2.2.2.2.1→(0<q→r.length≤31)→(∀y∈b.2.2.2.2.2.1,nS y.1 o.1)→Ok (λr=>r.2.2.2=0→RB c r.1) (jj.HN N c b o (ck,(c9,(bH,(bH,(dC,(dT,())))))) r t q):=λr t q hr hrm hq H6 e9=>by
  obtain⟨r1,r2,r3⟩:=kA.1 hr
  unfold jj.HN jj.BO
  refine af (Jp N hN ω hb hR) λz hz=>bu (λh=>dJ _ _ h) λz0=> ?_
  obtain⟨zR,_,za,_⟩:=hz z0
  have hk: ∀x∈r,Gp c z.1.2.1 x:=λx hx=>by
   obtain⟨y,hy,_,e1,e2⟩:=hrm x hx
   have:=hR.ok y hy
   unfold Gp at this ⊢
   rw[za,e1,e2];exact this
  refine aw (λh0=>aC (by rw[aI];omega) (an λ_=>zR.K0 (kA.2 ⟨λx hx=> ?_,?_,?_⟩) λx hx=> ?_)) λ_=>an λ_=>zR.K0 hr hk
  ·rcases bb.1 hx with hx|hx
   ·exact r1 x hx
   ·rw[bW.1 hx]
    exact⟨o1.1,o1.2.1,o1.2.2.1,o1.2.2.2.1,⟨h0,fG hq o1.2.2.2.2.1.2⟩,o1.2.2.2.2.2⟩
  ·rw[vE]
   refine⟨r2,Ei ..,λx hx y hy=> ?_⟩
   rw[bW.1 hy]
   obtain⟨u,hu,e,_⟩:=hrm x hx
   unfold Jl
   rw[e];exact e9 u hu
  ·rw[aS,aI];have:=H6 h0;omega
  ·rcases bb.1 hx with hx|hx
   ·exact hk x hx
   ·rw[bW.1 hx]
    unfold Gp
    rw[za];exact⟨oA,o3⟩
 have hj7:(∀y∈b.2.2.2.2.2.1,nS y.1 o.1)→Ok (λr=>r.2.2.2=0→RB c r.1) (jj.j7 N c b o (ck,(c9,(bH,(bH,(dC,(dT,()))))))):=λe9=>by
  unfold jj.j7 jj.Vm
  refine af (X5 N ω ω hR.o o1) λz ⟨z1,z2,z3⟩=> ?_
  have zl:=(kA.1 z1).2.2
  exact aw (λh0=>ok_eq (λ_=>dJ _ _ δ) λjB=>DE _ _ _ z1 z2 z3 (λ_=>ω) e9) λh0=>DE _ _ _ z1 z2 z3 (λh=>ω) e9
 refine aw (λh0=> ?_) λh0=>hj7 λy hy=> ?_
 ·dsimp only
  refine aB (by rw[ax ω ω];omega) (eg (λ_=>dJ _ _ δ) λX8=>hj7 λy hy=> ?_)
  have e1:(W .i64 ((b.2.2.2.2.2.1.length:Int)-1)).toNat=b.2.2.2.2.2.1.length-1:=by rw[ax ω ω];omega
  rw[e1,iz ω]at X8
  obtain⟨k,hk,e⟩:=gh hy
  by_cases h:k=b.2.2.2.2.2.1.length-1
  ·subst h;rw[←e];exact X8
  ·have:=tV.1 g2 k (b.2.2.2.2.2.1.length-1) hk ω ω
   rw[e]at this
   exact KX this X8
 ·have:=List.length_pos_of_mem hy
  omega
end VM
end
