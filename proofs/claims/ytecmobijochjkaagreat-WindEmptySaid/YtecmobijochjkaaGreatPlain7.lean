/- A part of the proof of WindEmpty of layer 21: what the functions compute, in plain words. -/
import Derived.Test.YtecmobijochjkaaGreatPlain6
import Derived.Test.YtecmobijochjkaaGreatPlain4
set_option linter.all false
section
namespace VM
open Go VM.F
theorem g5{α:Type}{l:List α}{d:α}{i:Nat}(h:i<l.length):l.getD i d=l[i]:=by
 rw[aU,bk h];rfl
theorem gL{α:Type}{d:α}{l:List α}{Q:α→Prop}:(∀j,j<l.length→Q (l.getD j d))↔ ∀x∈l,Q x:=
 ⟨λh x hx=>by
  obtain⟨i,hi,e⟩:=gj hx
  rw[←e,←g5 (d:=d) hi];exact h i hi,λh j hj=>h _ (qd hj)⟩
theorem tP{α:Type}{d:α}{R:α→α→Prop}(tr: ∀a b c,R a b→R b c→R a c): ∀l:List α,(∀j,j<l.length→0<j→R (l.getD (j-1) d) (l.getD j d))↔l.Pairwise R
 |[]=>⟨λ_=>List.Pairwise.nil,λ_ j hj=>nomatch hj⟩
 |[x]=>⟨λ_=>Eh R x,λ_ j hj h0=>by have:j<1:=hj;omega⟩
 |x::y::t=>by
  rw[ec,←tP tr (y::t)]
  constructor
  ·intro h
   have YZ:R x y:=h 1 (by simp) ω
   have ht: ∀j,j<(y::t).length→0<j→R ((y::t).getD (j-1) d) ((y::t).getD j d):=λj hj h0=>by
    have:=h (j+1) (by simpa using hj) ω
    obtain⟨k,rfl⟩: ∃k,j=k+1:=⟨j-1,ω⟩
    exact this
   have hp:=(tP tr (y::t)).1 ht
   refine⟨λz hz=> ?_,ht⟩
   rcases aW.1 hz with rfl|hz
   ·exact YZ
   ·exact tr _ _ _ YZ ((ec.1 hp).1 z hz)
  ·rintro⟨h1,h2⟩ j hj h0
   obtain⟨k,rfl⟩: ∃k,j=k+1:=⟨j-1,ω⟩
   cases k with
   |zero=>exact h1 y (bm ..)
   |succ k=>exact h2 (k+1) (by simpa using hj) ω
def XM(x y:yV):Prop:=nS x.1 y.1
def AY(x y:bI):Prop:=nS x.1 y.1
def Jm(x y:gm):Prop:=nS x.1 y.1
theorem K2{a b c:Int}(h1:nS a b)(h2:nS b c):nS a c:=Int.lt_trans h1 h2
def XN(a b:Int):Prop:=1≤a∧a≤12∧1≤b∧b≤4
theorem gw{m:aE}:dq m=true↔(∀x∈m,XN x.1 x.2.1)∧m.Pairwise XM:=by
 unfold dq
 rw[fX,ff,←tP (R:=XM) (d:=cD) (λ_ _ _=>K2),←gL (d:=cD)]
 exact⟨λh=>⟨λj hj=>⟨(h j hj).1,(h j hj).2.1,(h j hj).2.2.1,(h j hj).2.2.2.1⟩,λj hj h0=>(h j hj).2.2.2.2 h0⟩,λh j hj=>⟨(h.1 j hj).1,(h.1 j hj).2.1,(h.1 j hj).2.2.1,(h.1 j hj).2.2.2,λh0=>h.2 j hj h0⟩⟩
def amZ(x y:bI):Prop:=dx x.2.2.1 1∧dx y.2.2.1 1∧dx x.2.1 y.2.1
def QX(x:bI):Prop:=mh x.1 x.2.1 x.2.2.1 x.2.2.2.1
def ntw(x y:bI):Prop:= ¬amZ x y
theorem iR{a:aK}:fB a=true↔(∀x∈a,QX x)∧a.Pairwise AY∧a.Pairwise ntw:=by
 unfold fB
 rw[fX,ff,←tP (R:=AY) (d:=aV) (λ_ _ _=>K2),←gL (d:=aV),tX]
 constructor
 ·refine λh=>⟨λj hj=>(h j hj).1,λj hj h0=>(h j hj).2.1 h0,λi j hi hj pN ht=>(h j hj).2.2 ⟨?_,wN.2 ⟨i,pN,?_,?_⟩⟩⟩
  ·rw[g5 hj];exact ht.2.1
  ·rw[g5 hi];exact ht.1
  ·rw[g5 hi,g5 hj];exact ht.2.2
 ·rintro⟨h1,h2,h3⟩ j hj
  refine⟨h1 j hj,λh0=>h2 j hj h0,λ⟨ht,ho⟩=> ?_⟩
  obtain⟨i,pN,e1,e2⟩:=wN.1 ho
  rw[g5 hj]at ht e2
  rw[g5 (show i<a.length by omega)]at e1 e2
  exact h3 i j ω hj pN ⟨e1,ht,e2⟩
theorem kv{l:bs}:eh l=true↔(∀x∈l,q6 x)∧l.Pairwise Jm∧l.length≤32:=by
 unfold eh
 rw[cO,ff,ff,←tP (R:=Jm) (d:=fa) (λ_ _ _=>K2),←gL (d:=fa)]
 exact⟨λh=>⟨λj hj=>(h.1 j hj).1,λj hj h0=>(h.1 j hj).2 h0,h.2⟩,λh=>⟨λj hj=>⟨h.1 j hj,λh0=>h.2.1 j hj h0⟩,h.2.2⟩⟩
def jk(m:aE)(n:Int):Prop:= ∃x∈m,dx x.1 n
def qf(a:aK)(n:Int):Prop:= ∃x∈a,dx x.1 n
theorem gy{n:Int}: ∀{m:aE},(∀x∈m,XN x.1 x.2.1)→(¬dx (jJ n m) 0↔jk m n)
 |[],_=>⟨λh=>absurd rfl h,λ⟨_,h,_⟩=>nomatch h⟩
 |x::t,h=>by
  have ih:=gy (n:=n) λy hy=>h y (aZ _ hy)
  have hx:=h x (bm ..)
  rw[uC]
  by_cases e:x.1=n
  ·rw[aj e]
   have g: ∀v:Int,1≤v→ ¬dx v 0:=λv h1 h2=>by unfold dx at h2;omega
   exact⟨λ_=>⟨x,bm ..,e⟩,λ_=>g _ hx.2.2.1⟩
  ·rw[ah e,ih]
   exact⟨λ⟨y,hy,h⟩=>⟨y,aZ _ hy,h⟩,λ⟨y,hy,h'⟩=>(aW.1 hy).elim (λk=>absurd (k▸h') e) λhy=>⟨y,hy,h'⟩⟩
theorem BZ{n:Int}: ∀{a:aK},(tE n a).2=true↔qf a n
 |[]=>⟨λh=>(nomatch h),λ⟨_,h,_⟩=>nomatch h⟩
 |x::t=>by
  rw[og]
  by_cases e:x.1=n
  ·rw[aj e]
   exact⟨λ_=>⟨x,bm ..,e⟩,λ_=>rfl⟩
  ·rw[ah e,BZ]
   exact⟨λ⟨y,hy,h⟩=>⟨y,aZ _ hy,h⟩,λ⟨y,hy,h'⟩=>(aW.1 hy).elim (λk=>absurd (k▸h') e) λhy=>⟨y,hy,h'⟩⟩
theorem uX{m:aE}(h:dq m=true)(n:Int): ¬dx (eI m n) 0↔jk m n:=by
 unfold eI;rw[aj h];exact gy (gw.1 h).1
theorem pj{a:aK}(h:fB a=true)(n:Int):(fc a n).2=true↔qf a n:=by
 unfold fc;rw[aj h];exact BZ
def ju(m:aE)(a:aK)(k n:Int):Prop:=(dx k 5→qf a n)∧(dx k 6∨dx k 7→jk m n)
def yA(c:ae)(a:aK)(k n:Int):Prop:=(dx k 0∨qf a k)∧nS n c.1.length
def Gq(c:ae)(a:aK)(x:gm):Prop:=qf a x.2.1∧nS x.2.2.1 c.1.length
theorem K3{m:aE}{a:aK}(hm:dq m=true)(ha:fB a=true){k n:Int}:Gm m a k n↔ju m a k n:=by
 unfold Gm ju;rw[pj ha,uX hm]
theorem K4{c:ae}{a:aK}(ha:fB a=true){k n:Int}:Gn c a k n↔yA c a k n:=by
 unfold Gn yA;rw[pj ha]
structure RB(C:ae)(b:an):Prop where
 c:fM C=true
 m:dq b.1=true
 a:fB b.2.1=true
 ma: ∀x∈b.2.1,jk b.1 x.2.1
 r:eA b.2.2.1=true
 t:dx (gI b.2.2.1) 0
 s:oi b.2.2.2.1=true
 o:eh b.2.2.2.2.2.1=true
 n:dx b.2.2.2.2.1.length C.1.length
 rk: ∀x∈b.2.2.1,ju b.1 b.2.1 x.1 x.2.1
 sk: ∀x∈b.2.2.2.1,yA C b.2.1 x.1 x.2.1
 ok: ∀x∈b.2.2.2.2.2.1,Gq C b.2.1 x
 p:eV b.2.2.2.2.1=true
theorem ky{c:ae}{b:an}:dy c b=true↔RB c b:=by
 unfold dy pC
 simp only[bQ,fX,ff]
 constructor
 ·rintro⟨b1,⟨b2,b2',aic⟩,b3,b4,b5,b6,b7,b8,b9,b10,b11⟩
  refine⟨b1,b2,b2',?_,b3,b4,b5,b6,b7,?_,?_,?_,b11⟩
  ·exact(gL (d:=aV) (Q:=λx=>jk b.1 x.2.1)).1 λj hj=>(gy (gw.1 b2).1).1 (aic j hj)
  ·exact(gL (d:=bl) (Q:=λx=>ju b.1 b.2.1 x.1 x.2.1)).1 λj hj=>(K3 b2 b2').1 (b8 j hj)
  ·exact(gL (d:=bl) (Q:=λx=>yA c b.2.1 x.1 x.2.1)).1 λj hj=>(K4 b2').1 (b9 j hj)
  ·exact(gL (d:=fa) (Q:=λx=>Gq c b.2.1 x)).1 λj hj=>⟨(pj b2' _).1 (b10 j hj).1,(b10 j hj).2⟩
 ·rintro⟨b1,b2,b2',aic,b3,b4,b5,b6,b7,b8,b9,b10,b11⟩
  refine⟨b1,⟨b2,b2',?_⟩,b3,b4,b5,b6,b7,?_,?_,?_,b11⟩
  ·exact λj hj=>(gy (gw.1 b2).1).2 ((gL (d:=aV) (Q:=λx=>jk b.1 x.2.1)).2 aic j hj)
  ·exact λj hj=>(K3 b2 b2').2 ((gL (d:=bl) (Q:=λx=>ju b.1 b.2.1 x.1 x.2.1)).2 b8 j hj)
  ·exact λj hj=>(K4 b2').2 ((gL (d:=bl) (Q:=λx=>yA c b.2.1 x.1 x.2.1)).2 b9 j hj)
  ·exact λj hj=>let h:=(gL (d:=fa) (Q:=λx=>Gq c b.2.1 x)).2 b10 j hj;⟨(pj b2' _).2 h.1,h.2⟩
theorem RB.UG{c:ae}{b:an}(h:RB c b){m:aE}{a:aK}(hm:dq m=true)(ha:fB a=true)(mm: ∀n,jk b.1 n→jk m n)(aa: ∀n,qf b.2.1 n→qf a n)(ma: ∀x∈a,jk m x.2.1):
  RB c (m,(a,b.2.2)):=
 ⟨h.c,hm,ha,ma,h.r,h.t,h.s,h.o,h.n,λx hx=>⟨λe=>aa _ ((h.rk x hx).1 e),λe=>mm _ ((h.rk x hx).2 e)⟩,λx hx=>⟨(h.sk x hx).1.imp id (aa _),(h.sk x hx).2⟩,λx hx=>⟨aa _ (h.ok x hx).1,(h.ok x hx).2⟩,h.p⟩
theorem RB.K5{c:ae}{b:an}(h:RB c b){o:bs}(ho:eh o=true)(hk: ∀x∈o,Gq c b.2.1 x):RB c (b.1,(b.2.1,(b.2.2.1,(b.2.2.2.1,(b.2.2.2.2.1,(o,())))))):=
 ⟨h.c,h.m,h.a,h.ma,h.r,h.t,h.s,ho,h.n,h.rk,h.sk,hk,h.p⟩
theorem RB.am1{c:ae}{b:an}(h:RB c b){s e s' r':au}(h1:eg Fq (fS b.2.2.2.1 s) jA=some s')(h2:eg aD (fS b.2.2.1 e) nu=some r')
  (gs: ∀x∈s,bB x.1 x.2.1∧yA c b.2.1 x.1 x.2.1) (flat: ∀i:Int,(c5 i s).sum=0) (ge: ∀x∈e,cN x.1 x.2.1∧ju b.1 b.2.1 x.1 x.2.1) (zero:(e.map dY).sum=0):RB c (b.1,(b.2.1,(r',(s',b.2.2.2.2)))):=
 ky.1 (K1 (ky.2 h) h1 h2 (λx hx=>⟨(gs x hx).1,(K4 h.a).2 (gs x hx).2⟩) flat (λx hx=>⟨(ge x hx).1,(K3 h.m h.a).2 (ge x hx).2⟩) zero)
abbrev RBs(c:ae)(b b':an):Prop:=RB c b'∧b'.1=b.1∧b'.2.1=b.2.1∧b'.2.2.2.2=b.2.2.2.2
theorem RB.eu{c:ae}{b:an}(h:RB c b){s e:au}(gs: ∀x∈s,bB x.1 x.2.1∧yA c b.2.1 x.1 x.2.1)(flat: ∀i:Int,(c5 i s).sum=0)
  (ge: ∀x∈e,cN x.1 x.2.1∧ju b.1 b.2.1 x.1 x.2.1) (zero:(e.map dY).sum=0) (h0:(VM.eu b s e).2=0):RBs c b (VM.eu b s e).1:=by
 rcases Gg b s e with⟨h1,_⟩|⟨s',r',h1,h2,h3⟩
 ·rw[h1]at h0;exact absurd h0 δ
 ·rw[h3];exact⟨h.am1 h1 h2 gs flat ge zero,rfl,rfl,rfl⟩
theorem B0: ∀{l:au} {x:da},sC (l.map keyOf)→x∈l→ga x.1 x.2.1 l=dY x
 |[],_,_,h=>nomatch h
 |y::t,x,hs,h=>by
  obtain⟨h1,h2⟩:=ec.1 hs
  rw[gq]
  rcases aW.1 h with rfl|h
  ·rw[aj rfl,aj rfl];rfl
  ·have jy: ¬(y.1=x.1∧y.2.1=x.2.1):=λe=>by
    have hk:=h1 (keyOf x) (eL h)
    have he:keyOf y=keyOf x:=gS e.1 e.2
    rw[he]at hk
    exact np hk
   by_cases e1:y.1=x.1
   ·rw[aj e1,ah (λe2=>jy ⟨e1,e2⟩)];exact B0 h2 h
   ·rw[ah e1];exact B0 h2 h
theorem aa5{a i:Int}{t:au}(h: ∀x∈t,¬(x.1=a∧x.2.1=i)):bP a i t=0:=by
 refine Ed λh0=> ?_
 obtain⟨y,hy,e1,e2⟩:=AX h0
 exact h y hy ⟨e1,e2⟩
theorem UH{l:au}(h:cB l=true): ∀x∈l,dY x≠0:=by
 unfold cB at h
 rw[fX]at h
 exact(gL (d:=bl) (Q:=λx=>dY x≠0)).1 λj hj=>((bz h) j hj).2.1
theorem AZ{l:au}(h:cB l=true)(a i:Int):dk l a i=bP a i l:=by
 unfold dk;rw[aj h,oy (dn h).1]
end VM
end
section
namespace VM
open Go VM.F
theorem Ok.and{α:Type}{P Q:α→Prop}{o:Option α}(h1:Ok P o)(h2:Ok Q o):Ok (λr=>P r∧Q r) o:=by
 obtain⟨r,e,hr⟩:=h1
 obtain⟨q,e',hq⟩:=h2
 rw[e]at e'
 exact⟨r,e,hr,(oG e')▸hq⟩
theorem A0{α:Type}{l:List α}{x y:α}(k:Nat):y∈l.take k++x::l.drop k↔y=x∨y∈l:=by
 have e:y∈l↔y∈l.take k∨y∈l.drop k:=by rw[←a8,gi]
 rw[e,a8,aW]
 constructor
 ·rintro(h|h|h)
  ·exact .inr (.inl h)
  ·exact .inl h
  ·exact .inr (.inr h)
 ·rintro(h|h|h)
  ·exact .inr (.inl h)
  ·exact .inl h
  ·exact .inr (.inr h)
theorem Gr{α:Type}{R:α→α→Prop}{l:List α}{x:α}{k:Nat}(hp:l.Pairwise R)(h1: ∀y∈l.take k,R y x)(h2: ∀y∈l.drop k,R x y):(l.take k++x::l.drop k).Pairwise R:=by
 rw[←gi k l,vH]at hp
 rw[vH,ec]
 exact⟨hp.1,⟨h2,hp.2.1⟩,λa ha b hb=>by
  rcases aW.1 hb with rfl|hb
  ·exact h1 a ha
  ·exact hp.2.2 a ha b hb⟩
theorem SC{α:Type}{l:List α}{d:α}{f:α→Int}(hp:l.Pairwise λa b=>nS (f a) (f b)){v:Int}{k:Nat}(h1: ∀j,j<k→nS (f (l.getD j d)) v)(h2:k<l.length→ ¬nS (f (l.getD k d)) v)(hn: ∀y∈l,¬dx (f y) v):
  (∀y∈l.take k,nS (f y) v)∧ ∀y∈l.drop k,nS v (f y):=by
 refine⟨λy hy=> ?_,λy hy=> ?_⟩
 ·obtain⟨j,hj,e⟩:=gj hy
  rw[cc]at hj
  rw[Ep]at e
  have:=h1 j ω
  rw[g5 ω,e]at this
  exact this
 ·obtain⟨j,hj,e⟩:=gj hy
  rw[dR]at hj
  rw[Eo]at e
  have h3:=h2 ω
  rw[g5 ω]at h3
  have h4:=hn y (mS hy)
  have g: ∀a b c:Int,¬nS a c→(nS a b∨a=b)→ ¬dx b c→nS c b:=λa b c h h' J6=>by
   unfold nS dx at*
   rcases h' with h'|h'<;>omega
  refine g _ _ _ h3 ?_ h4
  by_cases h0:j=0
  ·subst h0;right;rw[←e];rfl
  ·left
   have:=tX.1 hp k (k+j) ω ω ω
   rw[e]at this;exact this
theorem B1{α:Type}{l:List α}{d:α}(g:α→α){i:Nat}(hi:i<l.length):
  ((l.take i).map g++l.drop i).getD i d=l.getD i d∧((l.take i).map g++l.drop i).set i (g (l.getD i d))=(l.take (i+1)).map g++l.drop (i+1)∧(g (l.getD i d)=l.getD i d→(l.take i).map g++l.drop i=(l.take (i+1)).map g++l.drop (i+1)):=by
 have hlen:((l.take i).map g).length=i:=by rw[ct,cc];omega
 have e1:l.drop i=l[i]::l.drop (i+1):=pS hi
 have e2:l.take (i+1)=l.take i++[l[i]]:=(pT hi).symm
 rw[g5 hi]
 refine⟨?_,?_,λh=> ?_⟩
 ·rw[aU,oF ω,hlen,tg,e1];rfl
 ·rw[Md _ _ ω,hlen,tg,e1,e2,List.set_cons_zero,cY,bt];rfl
 ·rw[e1,e2,cY,bt,bX,h];rfl
theorem xM{α:Type}(l:List α)(g:α→α)(i:Nat):((l.take i).map g++l.drop i).length=l.length:=by
 rw[aS,ct,cc,dR];omega
theorem XO(N:Nat)(hN:200000≤N){a:aE}(hl:a.length≤50000)(id:Int):Ok (λr=>r.2=0→dq r.1=true∧ ∀n,jk a n→jk r.1 n) (ig N a id):=by
 have bad: ∀e:Int,e≠0→Ok (λr:aE×Int=>r.2=0→dq r.1=true∧ ∀n,jk a n→jk r.1 n) (some ([],e)):=λe h=>ak λh'=>absurd h' h
 have b1:=bad 1 δ
 unfold ig ig.b
 refine br (mC N ω hN) (bw (λ_=>b1) λhM=>aw (λ_=>b1) λh1=>aw (λ_=>b1) λh2=>br (ib N ω hN id) (bp (λ_=>bad _ δ) λh0=> ?_))
 obtain⟨hm,hp⟩:=gw.1 hM
 have hn: ∀y∈a,¬dx y.1 id:=λy hy e=>(gy hm).2 ⟨y,hy,e⟩ h0
 have fin: ∀k:Nat,k≤a.length→(∀j,j<k→nS (a.getD j cD).1 id)→(k<a.length→ ¬nS (a.getD k cD).1 id)→Ok (λr=>r.2=0→dq r.1=true∧ ∀n,jk a n→jk r.1 n) (ig.j9 N a id [] (k:Int)):=λk hk g1 g2=>by
  unfold ig.j9 ig.Nl
  refine KT hk ω λ_=> ?_
  simp only[cJ,aJ,dr,cZ,ix,bt,kF]
  obtain⟨q1,q2⟩:=SC (f:=λx:yV=>x.1) hp g1 g2 hn
  refine⟨gw.2 ⟨λx hx=> ?_,Gr hp q1 q2⟩,λn ⟨y,hy,e⟩=>⟨y,(A0 k).2 (.inr hy),e⟩⟩
  rcases(A0 k).1 hx with rfl|hx
  ·exact⟨h1,h2,(show(1:Int)≤1 by decide),(show(1:Int)≤4 by decide)⟩
  ·exact hm x hx
 refine bc (σ:=Unit) (len:=a.length) (F:=λn i _=>ig.l7 N n a id [] i) (s:=()) (λi _=> ∀j,j<i→nS (a.getD j cD).1 id) (λj hj=>absurd hj ω) ω (λn i _ hi hI hr=> ?_) (λn _ hI=> ?_)
 all_goals unfold ig.l7 ig.q4
 ·rw[ay (x:=(i:Int)+1) ω ω,ag i]
  refine aw (λ_=>aB ⟨ω,ω⟩ (aw (λh=>hr () λj hj=> ?_) λh=>fin i ω hI λ_ h'=> ?_)) λ_=>ω
  ·by_cases e:j=i
   ·subst e;exact h
   ·exact hI j ω
  ·have g: ∀x y:Int,nS x y→y≤x→False:=λx y h h'=>by unfold nS at h;omega
   exact g _ _ h' h
 ·exact aw (λ_=>ω) λ_=>fin _ (aG _) hI λh=>absurd h ω
theorem XP(N:Nat)(a b:Int):Ok (λr=>r.2=true→1≤r.1∧r.1≤4) (Ul N a b):=by
 have h: ∀(x:Int) (t:Bool),(t=true→1≤x∧x≤4)→Ok (λr:Int×Bool=>r.2=true→1≤r.1∧r.1≤4) (some (x,t)):=λx t hx=>ak hx
 unfold Ul
 repeat' first|refine ok_eq (λ_=> ?_) (λ_=> ?_)|exact h _ _ δ
def K6(id v:Int)(x:yV):yV:=if x.1=id then(x.1,(v,x.2.2))else x
theorem QY(id v:Int)(x:yV):(K6 id v x).1=x.1:=by unfold K6;split<;>rfl
theorem w9{α:Type}{R:α→α→Prop}{g:α→α}{l:List α}(hp:l.Pairwise R)(h: ∀x∈l,∀y∈l,R x y→R (g x) (g y)):(l.map g).Pairwise R:=by
 rw[zx]
 exact hp.imp_of_mem λhx hy h'=>h _ hx _ hy h'
theorem SD(N:Nat)(hN:200000≤N){l:aE}(hl:l.length≤50000)(id k:Int):Ok (λr=>r.2=0→dq r.1=true∧(∀n,jk l n→jk r.1 n)∧jk l id) (lH N l id k):=by
 have bad: ∀e:Int,e≠0→Ok (λr:aE×Int=>r.2=0→dq r.1=true∧(∀n,jk l n→jk r.1 n)∧jk l id) (some ([],e)):=λe h=>ak λh'=>absurd h' h
 unfold lH lH.b
 refine br (mC N ω hN) (bw (λ_=>bad _ δ) λhM=>br (ib N ω hN _) (ok_eq (λ_=>bad _ δ) λG6=>af (XP N _ _) λz hz=>bw (λ_=>bad _ δ) λHb=>aC (by rw[bU];omega) ?_))
 obtain⟨hm,hp⟩:=gw.1 hM
 have hz:=hz Hb
 rw[cJ]
 refine bc (len:=l.length) (F:=λn i s=>lH.BS N n id z.1 s i) (λi s=>s=(l.take i).map (K6 id z.1)++l.drop i) rfl ω (λn i s hi hI hr=> ?_) (λn s hI=> ?_)
 all_goals unfold lH.BS lH.y7
 ·rw[ay (x:=(i:Int)+1) ω ω,ag i]
  obtain⟨s1,s2,s3⟩:=B1 (d:=cD) (K6 id z.1) hi
  have hs:s.length=l.length:=by rw[hI];exact xM l _ i
  rw[←hI]at s1 s2 s3
  refine aw (λ_=>aB ⟨ω,ω⟩ (ok_eq (λe=>aB ⟨ω,ω⟩ (hr _ ?_)) λe=>hr s (s3 ?_))) λ_=>ω
  ·rw[aJ,s1]at e ⊢
   rw[←s2]
   unfold K6;rw[aj e]
  ·rw[aJ,s1]at e
   unfold K6;rw[ah e]
 ·have hs:s.length=l.length:=by rw[hI];exact xM l _ _
  have e:s=l.map (K6 id z.1):=by rw[hI,ix,mU,ch]
  refine aw (λ_=>ω) λ_=>ak λ_=> ?_
  dsimp only
  rw[e]
  refine⟨gw.2 ⟨λx hx=> ?_,w9 hp λx _ y _ h=> ?_⟩,λn ⟨y,hy,e⟩=>⟨K6 id z.1 y,eL hy,?_⟩,(gy hm).1 G6⟩
  ·obtain⟨y,hy,rfl⟩:=cA.1 hx
   have h:=hm y hy
   unfold K6
   split
   ·exact⟨h.1,h.2.1,hz.1,hz.2⟩
   ·exact h
  ·unfold XM;rw[QY,QY];exact h
  ·rw[QY];exact e
def HV(id v:Int)(x:bI):bI:=if x.1=id then(x.1,(x.2.1,(x.2.2.1,(v,x.2.2.2.2))))else x
def DG(id v:Int)(x:bI):bI:=if x.1=id then(x.1,(v,x.2.2))else x
theorem xa(id v:Int)(x:bI):(HV id v x).1=x.1∧(HV id v x).2.1=x.2.1∧(HV id v x).2.2.1=x.2.2.1:=by unfold HV;split<;>exact⟨rfl,rfl,rfl⟩
theorem Gs(id v:Int)(x:bI):(DG id v x).1=x.1∧(DG id v x).2.2=x.2.2:=by unfold DG;split<;>exact⟨rfl,rfl⟩
theorem Oa{a:aK}{g:bI→bI}(hg: ∀x,(g x).1=x.1)(n:Int)(h:qf a n):qf (a.map g) n:=by
 obtain⟨y,hy,e⟩:=h
 exact⟨g y,eL hy,by rw[hg];exact e⟩
abbrev rX(m:aE)(a:aK)(r:aK×Int):Prop:=r.2=0→fB r.1=true∧(∀n,qf a n→qf r.1 n)∧ ∀x∈r.1,jk m x.2.1
theorem rX.bad{m:aE}{a:aK}{e:Int}(h:e≠0):Ok (rX m a) (some ([],e)):=ak λh'=>absurd h' h
theorem XQ(N:Nat)(hN:200000≤N){m:aE}{l:aK}(hl:l.length≤50000)(hm: ∀x∈l,jk m x.2.1)(id q:Int):Ok (rX m l) (nE N l id q):=by
 unfold nE nE.b
 refine br (tF N ω hN) (bw (λ_=>rX.bad δ) λhA=>aw (λ_=>rX.bad δ) λq0=>aw (λ_=>rX.bad δ) λq1=>br (q7 N ω hN _) (bw (λ_=>rX.bad δ) λ_=>aC (by rw[bU];omega) ?_))
 obtain⟨ha,hp,ht⟩:=iR.1 hA
 rw[cJ]
 refine bc (len:=l.length) (F:=λn i s=>nE.l8 N n id q s i) (λi s=>s=(l.take i).map (HV id q)++l.drop i) rfl ω (λn i s hi hI hr=> ?_) (λn s hI=> ?_)
 all_goals unfold nE.l8 nE.yd
 ·rw[ay (x:=(i:Int)+1) ω ω,ag i]
  obtain⟨s1,s2,s3⟩:=B1 (d:=aV) (HV id q) hi
  have hs:s.length=l.length:=by rw[hI];exact xM l _ i
  rw[←hI]at s1 s2 s3
  refine aw (λ_=>aB ⟨ω,ω⟩ (ok_eq (λe=>aB ⟨ω,ω⟩ (hr _ ?_)) λe=>hr s (s3 ?_))) λ_=>ω
  ·rw[aJ,s1]at e ⊢
   rw[←s2]
   unfold HV;rw[aj e]
  ·rw[aJ,s1]at e
   unfold HV;rw[ah e]
 ·have hs:s.length=l.length:=by rw[hI];exact xM l _ _
  have e:s=l.map (HV id q):=by rw[hI,ix,mU,ch]
  refine aw (λ_=>ω) λ_=>ak λ_=> ?_
  dsimp only
  rw[e]
  refine⟨iR.2 ⟨λx hx=> ?_,w9 hp λx _ y _ h=> ?_,w9 ht λx _ y _ h=> ?_⟩,Oa λx=>(xa id q x).1,λx hx=> ?_⟩
  ·obtain⟨y,hy,rfl⟩:=cA.1 hx
   have h:=ha y hy
   unfold HV
   split
   ·exact⟨h.1,h.2.1,h.2.2.1,q0,q1⟩
   ·exact h
  ·unfold AY;rw[(xa id q x).1,(xa id q y).1];exact h
  ·unfold ntw amZ;rw[(xa id q x).2.1,(xa id q y).2.1,(xa id q x).2.2,(xa id q y).2.2];exact h
  ·obtain⟨y,hy,rfl⟩:=cA.1 hx
   rw[(xa id q y).2.1];exact hm y hy
theorem Jn{n:Int}: ∀{l:aK},l.Pairwise AY→ ∀x∈l,dx x.1 n→(tE n l).1=x
 |[],_,x,hx,_=>nomatch hx
 |y::t,hp,x,hx,e=>by
  rw[og]
  rcases aW.1 hx with rfl|hx
  ·rw[aj (show x.1=n from e)]
  ·have h:nS y.1 x.1:=(ec.1 hp).1 x hx
   have g: ∀a b:Int,nS a b→dx b n→ ¬a=n:=λa b h1 h2=>by unfold nS dx at*;omega
   rw[ah (g _ _ h e)]
   exact Jn (ec.1 hp).2 x hx e
theorem QZ(N:Nat)(hN:200000≤N){m:aE}{l:aK}(G1:m.length≤50000)(hl:l.length≤50000)(id to:Int):Ok (rX m l) (nF N m l id to):=by
 unfold nF nF.b
 refine br (wP N ω ω hN) (bw (λ_=>rX.bad δ) λhR=>br (q7 N ω hN _) (br (ib N ω hN _) (bw (λ_=>rX.bad δ) λ_=>ok_eq (λ_=>rX.bad δ) λhs=>bp (λ_=>rX.bad δ) λhk=>bp (λ_=>rX.bad δ) λ_=>aC (by rw[bU];omega) ?_)))
 unfold pC at hR
 simp only[bQ,fX,ff]at hR
 obtain⟨hM,hA,hma⟩:=hR
 obtain⟨ha,hp,ht⟩:=iR.1 hA
 have hmm:=(gw.1 hM).1
 obtain⟨mx,LB,emx⟩:=(gy hmm).1 hs
 have hm: ∀x∈l,jk m x.2.1:=(gL (d:=aV) (Q:=λx=>jk m x.2.1)).1 λj hj=>(gy hmm).1 (hma j hj)
 rw[cJ]
 refine bc (len:=l.length) (F:=λn i s=>nF.lj N n id to s i) (λi s=>s=(l.take i).map (DG id to)++l.drop i) rfl ω (λn i s hi hI hr=> ?_) (λn s hI=> ?_)
 all_goals unfold nF.lj nF.kP
 ·rw[ay (x:=(i:Int)+1) ω ω,ag i]
  obtain⟨s1,s2,s3⟩:=B1 (d:=aV) (DG id to) hi
  have hs:s.length=l.length:=by rw[hI];exact xM l _ i
  rw[←hI]at s1 s2 s3
  refine aw (λ_=>aB ⟨ω,ω⟩ (ok_eq (λe=>aB ⟨ω,ω⟩ (hr _ ?_)) λe=>hr s (s3 ?_))) λ_=>ω
  ·rw[aJ,s1]at e ⊢
   rw[←s2]
   unfold DG;rw[aj e]
  ·rw[aJ,s1]at e
   unfold DG;rw[ah e]
 ·have hs:s.length=l.length:=by rw[hI];exact xM l _ _
  have e:s=l.map (DG id to):=by rw[hI,ix,mU,ch]
  refine aw (λ_=>ω) λ_=>ak λ_=> ?_
  dsimp only
  rw[e]
  have cl: ∀x∈l,x.1=id→x.2.2.1=2:=λx hx e=>by rw[←Jn hp x hx e];exact hk
  have mo:XN mx.1 mx.2.1:=hmm mx LB
  have am2:mx.1=to:=emx
  refine⟨iR.2 ⟨λx hx=> ?_,w9 hp λx _ y _ h=> ?_,w9 ht λx hx y hy h=> ?_⟩,Oa λx=>(Gs id to x).1,λx hx=> ?_⟩
  ·obtain⟨y,hy,rfl⟩:=cA.1 hx
   have h:=ha y hy
   unfold DG
   split
   ·exact⟨h.1,⟨am2▸mo.1,am2▸mo.2.1⟩,h.2.2⟩
   ·exact h
  ·unfold AY;rw[(Gs id to x).1,(Gs id to y).1];exact h
  ·intro ⟨t1,t2,t3⟩
   rw[(Gs id to x).2]at t1
   rw[(Gs id to y).2]at t2
   have nx: ∀x∈l,dx x.2.2.1 1→DG id to x=x:=λx hx e=>by
    unfold DG
    rw[ah]
    intro h'
    have:=cl x hx h'
    have e':x.2.2.1=1:=e
    rw[e']at this;exact absurd this δ
   rw[nx x hx t1,nx y hy t2]at t3
   exact h ⟨t1,t2,t3⟩
  ·obtain⟨y,hy,rfl⟩:=cA.1 hx
   unfold DG
   split
   ·exact⟨mx,LB,emx⟩
   ·exact hm y hy
theorem C3{n:Int}: ∀{l:aK},(∀x∈l,QX x)→nh n l=0→ ∀x∈l,dx x.2.2.1 1→ ¬dx x.2.1 n
 |[],_,_,x,hx,_=>nomatch hx
 |y::t,ha,h,x,hx,e=>by
  rw[sA]at h
  have ih:=C3 (n:=n) λz hz=>ha z (aZ _ hz)
  have hy:QX y:=ha y (bm ..)
  have g: ∀v:Int,1≤v→ ¬v=0:=λv h1 h2=>ω
  by_cases e1:y.2.1=n
  ·rw[aj e1]at h
   by_cases e2:y.2.2.1=1
   ·rw[aj e2]at h;exact absurd h (g _ hy.1.1)
   ·rw[ah e2]at h
    rcases aW.1 hx with rfl|hx
    ·exact absurd e e2
    ·exact ih h x hx e
  ·rw[ah e1]at h
   rcases aW.1 hx with rfl|hx
   ·exact e1
   ·exact ih h x hx e
theorem aa6(N:Nat)(hN:200000≤N){m:aE}{l:aK}(G1:m.length≤50000)(hl:l.length≤50000)(x:bI):Ok (rX m l) (fe N m l x):=by
 unfold fe fe.b
 refine br (wP N ω ω hN) (bw (λ_=>rX.bad δ) λhR=>br (tF N (l:=[x]) (by rw[aI];omega) hN) (bw (λ_=>rX.bad δ) λhX=>br (ib N ω hN _) (ok_eq (λ_=>rX.bad δ) λhs=>bp (λ_=>rX.bad δ) λ_=>br (q7 N ω hN _) (pe (λ_=>rX.bad δ) λhf=> ?_))))
 unfold pC at hR
 simp only[bQ,fX,ff]at hR
 obtain⟨hM,hA,hma⟩:=hR
 obtain⟨ha,hp,ht⟩:=iR.1 hA
 have hmm:=(gw.1 hM).1
 have hx:=(iR.1 hX).1 x (bW.2 rfl)
 have hxm:=(gy hmm).1 hs
 have hm: ∀x∈l,jk m x.2.1:=(gL (d:=aV) (Q:=λx=>jk m x.2.1)).1 λj hj=>(gy hmm).1 (hma j hj)
 have hn: ∀y∈l,¬dx y.1 x.1:=λy hy e=>by
  have:=BZ.2 ⟨y,hy,e⟩
  rw[hf]at this;exact nomatch this
 have fin:(∀y∈l,ntw y x)→ ∀k:Nat,k≤l.length→(∀j,j<k→nS (l.getD j aV).1 x.1)→(k<l.length→ ¬nS (l.getD k aV).1 x.1)→Ok (rX m l) (fe.Bf N l x [] (k:Int)):=λhw k hk g1 g2=>by
  unfold fe.Bf fe.uV
  refine KT hk ω λ_=> ?_
  simp only[cJ,aJ,dr,cZ,ix,bt,kF]
  obtain⟨q1,q2⟩:=SC (f:=λx:bI=>x.1) hp g1 g2 hn
  have tw: ∀y∈l,ntw x y:=λy hy ⟨t1,t2,t3⟩=>hw y hy ⟨t2,t1,Eq.symm t3⟩
  refine⟨iR.2 ⟨λy hy=> ?_,Gr hp q1 q2,Gr ht (λy hy=>hw y (lM hy)) λy hy=>tw y (mS hy)⟩,λn ⟨y,hy,e⟩=>⟨y,(A0 k).2 (.inr hy),e⟩,λy hy=> ?_⟩
  ·rcases(A0 k).1 hy with rfl|hy
   ·exact hx
   ·exact ha y hy
  ·rcases(A0 k).1 hy with rfl|hy
   ·exact hxm
   ·exact hm y hy
 have hj:(∀y∈l,ntw y x)→Ok (rX m l) (fe.Jf N l x):=λhw=>by
  unfold fe.Jf fe.BT
  refine bc (σ:=Unit) (len:=l.length) (F:=λn i _=>fe.lj N n l x [] i) (s:=()) (λi _=> ∀j,j<i→nS (l.getD j aV).1 x.1) (λj hj=>absurd hj ω) ω (λn i _ hi hI hr=> ?_) (λn _ hI=> ?_)
  all_goals unfold fe.lj fe.kP
  ·rw[ay (x:=(i:Int)+1) ω ω,ag i]
   refine aw (λ_=>aB ⟨ω,ω⟩ (aw (λh=>hr () λj hj=> ?_) λh=>fin hw i ω hI λ_ h'=> ?_)) λ_=>ω
   ·by_cases e:j=i
    ·subst e;exact h
    ·exact hI j ω
   ·have g: ∀x y:Int,nS x y→y≤x→False:=λx y h h'=>by unfold nS at h;omega
    exact g _ _ h' h
  ·exact aw (λ_=>ω) λ_=>fin hw _ (aG _) hI λh=>absurd h ω
 refine ok_eq (λe=>br (qq N ω hN _) (bp (λ_=>rX.bad δ) λh0=>hj λy hy ⟨t1,_,t3⟩=> ?_)) λe=>hj λy hy ⟨_,t2,_⟩=>e t2
 unfold ni at h0
 rw[aj hA]at h0
 exact C3 ha h0 y hy t1 t3
end VM
end
section
namespace VM
open Go VM.F
def PB(m:aE)(a:aK)(p:bE):Prop:=
 ∃e:au,p=e.map gY∧BH e∧(∀x∈e,cN x.1 x.2.1∧ju m a x.1 x.2.1)∧(e.map dY).sum=0
def SB(c:ae)(a:aK)(s:au):Prop:=dS s∧(∀x∈s,bB x.1 x.2.1∧yA c a x.1 x.2.1)∧ ∀i:Int,(c5 i s).sum=0
theorem PB.nil{m:aE}{a:aK}:PB m a []:=⟨[],rfl,λx hx=>(nomatch hx),λx hx=>(nomatch hx),rfl⟩
theorem PB.app{m:aE}{a:aK}{p q:bE}(hp:PB m a p)(hq:PB m a q):PB m a (p++q):=by
 obtain⟨e,rfl,e1,e2,e3⟩:=hp
 obtain⟨f,rfl,f1,f2,f3⟩:=hq
 refine⟨e++f,cY.symm,λx hx=>(a8.1 hx).elim (e1 x) (f1 x),λx hx=>(a8.1 hx).elim (e2 x) (f2 x),?_⟩
 rw[cY,lQ,e3,f3];rfl
theorem Gt(i:Int): ∀s t:au,c5 i (s++t)=c5 i s++c5 i t
 |[],t=>rfl
 |x::s,t=>by
  rw[kF,df,df,Gt i s t]
  split<;>rfl
theorem SB.nil{c:ae}{a:aK}:SB c a []:=⟨λx hx=>(nomatch hx),λx hx=>(nomatch hx),λ_=>rfl⟩
theorem SB.app{c:ae}{a:aK}{s t:au}(hs:SB c a s)(ht:SB c a t):SB c a (s++t):=
 ⟨λx hx=>(a8.1 hx).elim (hs.1 x) (ht.1 x),λx hx=>(a8.1 hx).elim (hs.2.1 x) (ht.2.1 x),λi=>by rw[Gt,lQ,hs.2.2,ht.2.2];rfl⟩
theorem SB.two{c:ae}{a:aK}{x y i q r:Int}(hq:aD q)(hr:aD r)(e:q+r=0)(hx:bB x i∧yA c a x i)(hy:bB y i∧yA c a y i):SB c a [(x,(i,(q,()))),(y,(i,(r,())))]:=by
 refine⟨λz hz=> ?_,λz hz=> ?_,λj=> ?_⟩
 ·rcases aW.1 hz with rfl|hz
  ·exact hq
  ·rw[bW.1 hz];exact hr
 ·rcases aW.1 hz with rfl|hz
  ·exact hx
  ·rw[bW.1 hz];exact hy
 ·rw[df,df]
  by_cases h:i=j
  ·rw[aj h,aj h]
   show q+(r+0)=0
   omega
  ·rw[ah h,ah h];rfl
theorem PB.two{m:aE}{a:aK}{k n k' n' v w:Int}(hv:dm v)(hw:dm w)(e:v+w=0)(h1:cN k n∧ju m a k n)(h2:cN k' n'∧ju m a k' n'):PB m a [(k,(n,(cS v,()))),(k',(n',(cS w,())))]:=by
 refine⟨[(k,(n,(v,()))),(k',(n',(w,())))],rfl,λz hz=> ?_,λz hz=> ?_,?_⟩
 ·rcases aW.1 hz with rfl|hz
  ·exact hv
  ·rw[bW.1 hz];exact hw
 ·rcases aW.1 hz with rfl|hz
  ·exact h1
  ·rw[bW.1 hz];exact h2
 ·show v+(w+0)=0
  omega
abbrev Jo(c:ae)(b:an)(r:an×Int):Prop:=r.2=0→RBs c b r.1
theorem Jo.bad{c:ae}{b b':an}{e:Int}(h:e≠0):Ok (Jo c b) (some (b',e)):=ak λh'=>absurd h' h
theorem XR(N:Nat)(hN:4000000≤N){b:an}{s e:au}(w:gN b)(hr:eA b.2.2.1=true)(hs:cB b.2.2.2.1=true)(lr:b.2.2.1.length≤90000)(ls:b.2.2.2.1.length≤90000)(qs:dS s)(lns:s.length≤100000)(qe:BH e)(lne:e.length≤100000):
  yf N b s (e.map gY)=some (eu b s e):=by
 unfold yf eu
 rw[FG N hN hs ls w.qs qs lns,Sd N hN hr lr w.qr qe lne]
 unfold vy
 rw[ar,ar]
 cases eg Fq (fS b.2.2.2.1 s) jA with
 |none=>rfl
 |some s'=>
  cases eg aD (fS b.2.2.1 e) nu with
  |none=>rfl
  |some r'=>rfl
theorem sN(N:Nat)(hN:4000000≤N){c:ae}{b:an}{s:au}{p:bE}{m:Nat}(hm:m≤50000)(hb:G m aL b)(h:RB c b)(hs:SB c b.2.1 s)(hp:PB b.1 b.2.1 p)(ls:s.length≤50000)(lp:p.length≤50000):Ok (Jo c b) (yf N b s p):=by
 obtain⟨e,rfl,e1,e2,e3⟩:=hp
 obtain⟨hr,G6⟩:=dt (ky.2 h)
 have w:=G.wf hm hb
 rw[ct]at lp
 exact nC (XR N hN w.w hr G6 w.r w.s hs.1 ω e1 ω) λh0=>h.eu hs.2.1 hs.2.2 e2 e3 h0
theorem oP{v:Int}(h:aD v):dm v∧dm (-v):=by unfold aD at h;unfold dm;omega
theorem sO(N:Nat)(hN:4000000≤N){m:aE}{a:aK}{k n k' n' v:Int}(hv:dm v∧dm (-v))(h1:cN k n∧ju m a k n)(h2:cN k' n'∧ju m a k' n'):Ok (λr=>PB m a r∧r.length=2) (yg N k n k' n' (cS v)):=by
 unfold yg
 exact br (jw N hN (AE hv.1)) (ak ⟨PB.two hv.2 hv.1 ω h1 h2,rfl⟩)
theorem tQ{c:ae}{b:an}(h:RB c b){k:Int}(hk:qf b.2.1 k):cN 5 k∧ju b.1 b.2.1 5 k:=by
 obtain⟨y,hy,e⟩:=hk
 have hk:=(iR.1 h.a).1 y hy
 have e':y.1=k:=e
 exact⟨.inr (.inl ⟨rfl,e'▸hk.1⟩),λ_=>⟨y,hy,e⟩,λh=>absurd h δ⟩
theorem B2{m:aE}{a:aK}{k:Int}(h:1≤k∧k≤4):cN k 0∧ju m a k 0:=
 ⟨.inl ⟨h.1,h.2,rfl⟩,λe=>by unfold dx at e;omega,λe=>by unfold dx at e;omega⟩
theorem A2{c:ae}{b:an}(h:RB c b){k n:Int}(hk:6≤k∧k≤7)(hn:jk b.1 n):cN k n∧ju b.1 b.2.1 k n:=by
 obtain⟨y,hy,e⟩:=hn
 have hm:=(gw.1 h.m).1 y hy
 have e':y.1=n:=e
 exact⟨.inr (.inr ⟨hk.1,hk.2,e'▸hm.1,e'▸hm.2.1⟩),λe=>by unfold dx at e;omega,λ_=>⟨y,hy,e⟩⟩
theorem K7{m:aE}{a:aK}{k:Int}(h:dx k 0∨qf a k)(hk:0≤k∧k≤24)(x:Int):cN (AK k x).1 (AK k x).2.1∧ju m a (AK k x).1 (AK k x).2.1:=by
 unfold AK
 by_cases e:k=0
 ·rw[aj e]
  exact⟨show cN 2 0 by decide,λh=>absurd h (show ¬dx 2 5 by decide),λh=>absurd h (show ¬(dx 2 6∨dx 2 7)by decide)⟩
 ·rw[ah e]
  refine⟨show cN 5 k by unfold cN;omega,λ_=>h.elim (λh=>absurd h e) id,λh=>absurd h (show ¬(dx 5 6∨dx 5 7)by decide)⟩
theorem Ob{c:ae}{b:an}(h:RB c b){k:Int}(ht:((fc b.2.1 k).2||decide (dx k 0))=true):dx k 0∨qf b.2.1 k:=by
 rcases Bool.or_eq_true_iff.1 ht with ht|ht
 ·exact .inr ((pj h.a k).1 ht)
 ·exact .inl (bz ht)
theorem HW(N:Nat)(hN:4000000≤N){m:aE}{a:aK}{t:sW}{p:Int}(ht:nz t)(hp:jf p)(h1:dx t.1 0∨qf a t.1)(h2:dx t.2.1 0∨qf a t.2.1):Ok (λr=>PB m a r.1∧r.1.length≤2) (QG N t p):=by
 refine nC (HL N hN ht hp) ?_
 have ht':=ht
 unfold nz kq at ht'
 have hk:dm ((p-t.2.2.2.2.1)*t.2.2.2.1)∧dm (-((p-t.2.2.2.2.1)*t.2.2.2.1)):=by
  have hq:=ht'.2.2.2.2.1
  have he:=ht'.2.2.2.2.2
  generalize t.2.2.2.2.1=e at*
  generalize t.2.2.2.1=q at*
  unfold jf at hp he
  have:=IV (d:=p-e) ω hq
  unfold dm;omega
 unfold QF
 dsimp only
 split
 ·exact⟨PB.nil,bo _⟩
 ·refine⟨⟨_,rfl,λx hx=> ?_,λx hx=> ?_,?_⟩,aG 2⟩
  ·rcases aW.1 hx with rfl|hx
   ·rw[nA];exact hk.1
   ·rw[bW.1 hx,nA];exact hk.2
  ·rcases aW.1 hx with rfl|hx
   ·exact K7 h1 ht'.1 _
   ·rw[bW.1 hx];exact K7 h2 ht'.2.1 _
  ·rw[bX,bX,ja,nA,nA,cw,cw,iC];omega
theorem Jp(N:Nat)(hN:5000000≤N){c:ae}{b:an}{l:bK}{m:Nat}(hm:m≤50000)(hb:G m aL b)(h:RB c b):Ok (Jo c b) (gA N c b l):=by
 unfold gA gA.b
 refine br (dH N hN hm hb) (bw (λ_=>Jo.bad δ) λhB=>aw (λ_=>Jo.bad δ) λhl=> ?_)
 obtain⟨hp,G0⟩:=ic hB
 refine bc (len:=l.length) (F:=λn i (_:Unit)=>gA.l4 N n l c b (ck,(c8,(bG,(bG,(dC,(dQ,())))))) i) (s:=()) (λi _=> ∀j,j<i→nz (l.getD j mI)) (λj hj=>ω) ω (λn i _ hi hI hr=> ?_) (λn _ hI=> ?_)
 all_goals unfold gA.l4 gA.ei
 ·rw[ay (x:=(i:Int)+1) ω ω,ag i]
  refine aw (λ_=>aB ⟨ω,ω⟩ (br (xF N _) (bw (λ_=>Jo.bad δ) λht=>hr () λj hj=> ?_))) λ_=>ω
  by_cases e:j=i
  ·rw[e];exact bz ht
  ·exact hI j ω
 ·refine aw (λ_=>ω) λ_=> ?_
  have wf:=G.wf hm hb
  refine bc (len:=l.length) (F:=λn i (s:au×bE)=>gA.BS N n l c b (ck,(c8,(bG,(bG,(dC,(dQ,())))))) s.1 s.2 i) (s:=(_,_)) (λi s=>(SB c b.2.1 s.1∧s.1.length≤2*i)∧PB b.1 b.2.1 s.2∧s.2.length≤2*i) ⟨⟨SB.nil,bo _⟩,PB.nil,bo _⟩ ω (λn i s hi hJ hr=> ?_) (λn s hJ=> ?_)
  all_goals unfold gA.BS gA.y7
  all_goals obtain⟨⟨j1,j2⟩,j3,j4⟩:=hJ
  ·have ht0:=hI i hi
   have ht:=ht0
   unfold nz kq at ht
   dsimp only
   rw[ay (x:=(i:Int)+1) ω ω,ag i,aJ]
   generalize l.getD i mI=t at*
   refine aw (λ_=>aB ⟨ω,ω⟩ (br (tG N b wf.w.a ω _) (bw (λ_=>Jo.bad δ) λt1=>br (tG N b wf.w.a ω _) (bw (λ_=>Jo.bad δ) λt2=>dZ (λ_=>Jo.bad δ) λe9=>aC ?_ (aB ⟨ht.2.2.2.1.1,by rw[hp];exact e9⟩ ?_))))) λ_=>ω
   ·rw[aR,aI];omega
   have i1:=Ob h t1
   have i2:=Ob h t2
   have pr:jf (b.2.2.2.2.1.getD t.2.2.1.toNat 0):=by
    unfold eV at G0
    have hk:t.2.2.1.toNat<b.2.2.2.2.1.length:=by
     rw[hp]
     have g: ∀x:Int,0≤x→x<(c.1.length:Int)→x.toNat<c.1.length:=λx h1 h2=>ω
     exact g _ ht.2.2.2.1.1 e9
    exact(bz G0) _ hk
   refine af (HW N ω ht0 pr i1 i2) λr ⟨yQ,yH⟩=>aC ω (hr (_,_) ⟨⟨?_,?_⟩,PB.app j3 yQ,?_⟩)
   ·refine SB.app j1 ?_
    have hq:aD t.2.2.2.1∧aD (0-t.2.2.2.1)∧W .i64 (0-t.2.2.2.1)=0-t.2.2.2.1:=by
     have hq:=ht.2.2.2.2.1
     generalize t.2.2.2.1=q at*
     exact⟨by unfold aD;omega,by unfold aD;omega,ay ω ω⟩
    rw[hq.2.2]
    have pl: ∀x:Int,0≤x∧x≤24→bB x t.2.2.1:=λx hx=>⟨hx.1,hx.2,ht.2.2.2.1.1,ht.2.2.2.1.2⟩
    exact SB.two hq.1 hq.2.1 ω ⟨pl _ ht.1,i1,e9⟩ ⟨pl _ ht.2.1,i2,e9⟩
   ·dsimp only;rw[List.length_append,List.length_cons,List.length_singleton];omega
   ·dsimp only;rw[List.length_append];omega
  ·exact aw (λ_=>ω) λ_=>af (sN N ω hm hb h j1 j3 ω ω) λr h=>ak h
theorem aa7(N:Nat)(hN:5000000≤N){c:ae}{b:an}{h:bI}{a q p:Int}{m:Nat}(h2:200≤m)(hm:m≤40000)(hc:G m aA c)(hb:G m aL b)(hR:RB c b)(hh:G m eB h)(ha:aD a)(hq:aD q)(hp:aD p):Ok (λr=>r.2.2=0→RB c r.1∧r.2.1.2.1=h.2.1∧WY r.2.1.2.2.2.1 1000000000) (pI N c b h a q p):=by
 have ho:G m mQ (h.1,(a,(h.2.1,(W .i64 (3-h.2.2.1),(q,(p,())))))):=⟨hh.1,ha,hh.2.1,fU _,hq,hp,trivial⟩
 have dI: ∀e:Int,e≠0→Ok (λr:an×bI×Int=>r.2.2=0→RB c r.1∧r.2.1.2.1=h.2.1∧WY r.2.1.2.2.2.1 1000000000) (some ((ck,(c8,(bG,(bG,(dC,(dQ,())))))),(aV,e))):=λe h=>ak λh'=>absurd h' h
 unfold pI pI.b
 have hj:AS h→1≤q→ ¬nS h.2.2.2.1 q→ ∀t:sW,Ok (λr=>r.2.2=0→RB c r.1∧r.2.1.2.1=h.2.1∧WY r.2.1.2.2.2.1 1000000000) (pI.Vj N q c b h (ck,(c8,(bG,(bG,(dC,(dQ,())))))) aV t):=λhk q1 q2 t=>by
  have g: ∀x:Int,qIn x→ ¬nS x q→WY (W .i64 (x-q)) 1000000000:=λx h1 h2=>by unfold qIn at h1;unfold nS at h2;unfold WY;rw[ay ω ω];omega
  unfold pI.Vj pI.NS
  exact af (Jp N hN ω hb hR) λr hr=>bp (λh=>dI _ h) λh0=>ak λ_=>⟨(hr h0).1,rfl,g _ hk.2.2.2 q2⟩
 have b1:=dI 1 δ
 exact br (dH N hN ω hb) (bw (λ_=>b1) λ_=>br (w6 N h) (bw (λ_=>b1) λhk=>aw (λ_=>b1) λq1=>aw (λ_=>b1) λ_=>aw (λ_=>b1) λ_=>aw (λ_=>b1) λ_=>aw (λ_=>dI _ δ) λq2=>aw (λ_=>b1) λ_=>aw (λ_=>b1) λ_=>af (AU N hN h2 hm hc hb ho) λe _=>bp (λh=>dI _ h) λ_=>ok_eq (λ_=>hj (bz hk) q1 (Int.not_lt.2 q2) _) λ_=>hj (bz hk) q1 (Int.not_lt.2 q2) _))
theorem Oc(N:Nat)(hN:5000000≤N){c:ae}{b:an}{m:Nat}(h2:200≤m)(hm:m≤40000)(hc:G m aA c)(hb:G m aL b)(hR:RB c b){a:Int}(ha:aD a){q:Int}(hq:aD q):Ok (Jo c b) (Up N c b a q):=by
 have b1: ∀e:Int,e≠0→Ok (Jo c b) (some ((ck,(c8,(bG,(bG,(dC,(dQ,())))))),e)):=λe h=>Jo.bad h
 unfold Up
 refine br (dH N hN ω hb) (bw (λ_=>b1 _ δ) λ_=>aw (λ_=>b1 _ δ) λ_=>af (Ga N ω ω hb.2.1 _) λx ⟨_,hxf⟩=>bw (λ_=>b1 _ δ) λhf=>af (oz N ω ω hb.1 _) λ_ _=>bp (λ_=>b1 _ δ) λ_=>af (mq N ω ω hb.2.2.1 _ _) λg hg=>af (bq N ω hg) λx hx=>af (bq N ω hq) λy hy=>af (xI N ω ω hx hy) λz hz=>af (F9 N ω h2 hm hc hb (bo _) _) λw hw=>af (pH N ω ω ω hz hw) λ_ _=>aw (λ_=>b1 _ δ) λ_=>br (cP N ω hq.1 hq.2) ?_)
 rw[hxf]at hf
 exact af (sO N ω (oP hq) (tQ hR ((pj hR.a a).1 hf)) (B2 δ)) λp ⟨hp,Ho⟩=>af (sN N ω ω hb hR SB.nil hp (bo _) ω) λr hr=>ak hr
def C5(i d:Int)(l:au):au:=(l.filter λx=>decide (dx x.2.1 i∧ ¬dx d 0)).map λx=>AK x.1 (dY x*d)
theorem Q0{l:au}{i d:Int}{k:Nat}(hk:k<l.length):C5 i d (l.take (k+1))=C5 i d (l.take k)++if dx (l.getD k bl).2.1 i∧ ¬dx d 0 then [AK (l.getD k bl).1 (dY (l.getD k bl)*d)]else []:=by
 have e2:l.take (k+1)=l.take k++[l[k]]:=(pT hk).symm
 unfold C5
 rw[e2,List.filter_append,cY,g5 hk]
 congr 1
 by_cases h:dx l[k].2.1 i∧ ¬dx d 0
 ·rw[aj h,vM,aj (bu h)];rfl
 ·rw[ah h,vM,ah (by rw[cj h];exact qA)];rfl
theorem Jq{i d:Int}: ∀l:au,((C5 i d l).map dY).sum=(c5 i l).sum*d
 |[]=>(Int.zero_mul d).symm
 |x::t=>by
  have ih:=Jq (i:=i) (d:=d) t
  unfold C5 at ih ⊢
  rw[df]
  by_cases h:x.2.1=i
  ·rw[aj h]
   by_cases h0:d=0
   ·rw[vM,ah (by rw[cj (λh=>h.2 h0)];exact qA),ih,h0,zE,zE]
   ·rw[vM,aj (bu ⟨h,h0⟩),bX,bX,cw,cw,ih,qK,nA]
  ·rw[ah h,vM,ah (by rw[cj (λk=>h k.1)];exact qA),ih]
theorem aa8{q d:Int}(hq:aD q)(hd: -1000000000000≤d∧d≤1000000000000):dm (q*d):=by
 have h1:(q*d).natAbs≤9223372036854775808*1000000000000:=by
  rw[Int.natAbs_mul]
  unfold aD at hq
  exact vQ ω ω
 unfold dm;omega
theorem XS(N:Nat)(hN:4000000≤N){c:ae}{b:an}{m:Nat}(hm:m≤50000)(hb:G m aL b)(hR:RB c b){i:Int}(hi0:0≤i∧i<6)(x y:Int):Ok (λr=>PB b.1 b.2.1 r.1∧r.1.length≤50000) (nH N b.2.2.2.1 i x y):=by
 have h:=hb.2.2.2.1
 have hl:=h.1
 have hs:=(dt (ky.2 hR)).2
 have fl:(c5 i b.2.2.2.1).sum=0:=by
  have:=hR.s
  unfold oi at this
  have:=bz (cO.1 this).1 i.toNat (by unfold kj;omega)
  unfold sU dx sB at this
  rw[aj hs,vI hi0.1]at this
  exact this
 have hp:=(dn hs).2
 unfold nH nH.b
 have nil: ∀e:Int,Ok (λr:bE×Int=>PB b.1 b.2.1 r.1∧r.1.length≤50000) (some ([],e)):=λe=>ak ⟨PB.nil,bo _⟩
 refine br (kM N ω ω) (bw (λ_=>nil _) λ_=>br (iJ N _) (bw (λ_=>nil _) λha=>br (iJ N _) (bw (λ_=>nil _) λeY=> ?_)))
 have ha:=bz ha
 have eY:=bz eY
 refine br (cP N ω ω ω) (br (cP N ω ω ω) (br (ux N hN ((Fit.i64 ω ω).mono ω) ((Fit.i64 ω ω).mono ω)) ?_))
 have d64: -1000000000000≤y-x∧y-x≤1000000000000:=ω
 generalize y-x=d at*
 have fin:PB b.1 b.2.1 ((C5 i d b.2.2.2.1).map gY):=by
  refine⟨_,rfl,λz hz=> ?_,λz hz=> ?_,?_⟩
  ·obtain⟨u,hu,rfl⟩:=cA.1 hz
   rw[nA];exact aa8 (h.2 u (vO.1 hu).1).2.2.1 d64
  ·obtain⟨u,hu,rfl⟩:=cA.1 hz
   have hu:=(vO.1 hu).1
   exact K7 (hR.sk u hu).1 ⟨(hp u hu).1.1,(hp u hu).1.2.1⟩ _
  ·rw[Jq,fl,Int.zero_mul]
 refine bc (len:=b.2.2.2.1.length) (F:=λn j s=>nH.l6 N n b.2.2.2.1 i s (cS d) j) (λj s=>s=(C5 i d (b.2.2.2.1.take j)).map gY∧s.length≤j) ⟨rfl,bo _⟩ ω (λn j s hj hI hr=> ?_) (λn s hI=> ?_)
 all_goals unfold nH.l6 nH.uw
 ·obtain⟨i1,i2⟩:=hI
  have st:=Q0 (i:=i) (d:=d) hj
  have hx:G m js (b.2.2.2.1.getD j bl):=h.2 _ (qd hj)
  rw[ay (x:=(j:Int)+1) ω ω,ag j,aJ]
  have skip: ¬(dx (b.2.2.2.1.getD j bl).2.1 i∧ ¬dx d 0)→s=(C5 i d (b.2.2.2.1.take (j+1))).map gY∧s.length≤j+1:=λh=>⟨by rw[st,ah h,ch];exact i1,ω⟩
  refine aw (λ_=>aB ⟨ω,ω⟩ (bp (λe=>hr s (skip λk=>e k.1)) λe1=>br (p3 N d) (ok_eq (λe=>hr s (skip λk=>k.2 (kk.1 e))) λe2=>aB ⟨ω,ω⟩ (br (BN _ (dY (b.2.2.2.1.getD j bl)*d) N) (aB ⟨ω,ω⟩ (br (cP N ω hx.2.2.1.1 hx.2.2.1.2) (br (wI N hN ((Fit.i64 hx.2.2.1.1 hx.2.2.1.2).mono ω) ((Fit.i64 ω ω).mono ω)) (aC (by rw[aI];omega) (hr _ ⟨?_,by rw[aS,aI];omega⟩))))))))) λ_=>ω
  rw[st,aj ⟨e1,λk=>e2 (kk.2 k)⟩,cY,i1]
  congr 1
  unfold gY
  rw[bX,ja,nA];rfl
 ·have i2:=hI.2
  refine aw (λ_=>ω) λ_=>ak ⟨?_,by dsimp only;omega⟩
  have:=hI.1
  rw[ix]at this
  rw[this];exact fin
theorem Q1{l:List Int}(h:eV l=true){p:Int}(hp:1≤p∧p≤1000000000000)(k:Nat):eV (l.set k p)=true:=by
 unfold eV at*
 have h:=bz h
 refine bu λj hj=> ?_
 rw[bN]at hj
 have Y2:=h j hj
 unfold p5 at*
 rw[aU,List.getElem?_set]
 split
 ·rw[aj ω];exact hp
 ·rw[←aU];exact Y2
theorem Od(N:Nat)(hN:5000000≤N){c:ae}{b:an}{m:Nat}(hm:m≤50000)(hb:G m aL b)(hR:RB c b)(i p:Int):Ok (λr=>r.2.2=0→RB c r.1) (Uo N c b i p):=by
 have dI: ∀e:Int,e≠0→Ok (λr:an×bE×Int=>r.2.2=0→RB c r.1) (some ((ck,(c8,(bG,(bG,(dC,(dQ,())))))),([],e))):=λe h=>ak λh'=>absurd h' h
 have Ho:=hb.2.2.2.2.1.1
 have hci:c.1.length≤6:=by
  have:=hR.c
  unfold fM at this
  exact(bz (cO.1 this).1).2
 unfold Uo
 refine br (dH N hN hm hb) (bw (λ_=>dI _ δ) λhB=>br (iJ N _) (bw (λ_=>dI _ δ) λhp=>aw (λ_=>dI _ δ) λh0=>dZ (λ_=>dI _ δ) λh1=> ?_))
 obtain⟨hpr,_⟩:=ic hB
 have hp:=bz hp
 dsimp only
 rw[cJ]
 refine aB ⟨h0,by rw[hpr];exact h1⟩ (af (XS N ω hm hb hR ⟨h0,ω⟩ _ _) λf ⟨hf,S8⟩=>af (sN N ω hm hb hR SB.nil hf (bo _) S8) λr hr=>bp (λh=>dI _ h) λhz=>aC (by rw[bU];omega) (aB ⟨h0,by rw[hpr];exact h1⟩ (ak λ_=> ?_)))
 have q:=(hr hz).1
 exact⟨q.c,q.m,q.a,q.ma,q.r,q.t,q.s,q.o,by rw[bN];exact hR.n,q.rk,q.sk,q.ok,Q1 hR.p hp _⟩
end VM
end
section
namespace VM
open Go VM.F
theorem Gu{l s:bs}(h:eh l=true)(hs:s.Sublist l):eh s=true:=by
 obtain⟨h1,h2,h3⟩:=kv.1 h
 exact kv.2 ⟨λx hx=>h1 x (hs.subset hx),h2.sublist hs,cm hs.length_le h3⟩
theorem Gv{α:Type}{l s:List α}{d:α}{i:Nat}(hi:i<l.length)(h:s.Sublist (l.take i)):s.Sublist (l.take (i+1))∧(s++[l.getD i d]).Sublist (l.take (i+1)):=by
 have e2:l.take (i+1)=l.take i++[l[i]]:=(pT hi).symm
 rw[e2,g5 hi]
 exact⟨h.trans (List.sublist_append_left ..),h.append (List.Sublist.refl _)⟩
theorem UI(N:Nat)(hN:200000≤N){l:bs}(hl:l.length≤50000)(a id:Int):Ok (λr=>r.2=0→eh r.1=true∧ ∀x∈r.1,x∈l) (nG N l a id):=by
 have bad: ∀e:Int,e≠0→Ok (λr:bs×Int=>r.2=0→eh r.1=true∧ ∀x∈r.1,x∈l) (some ([],e)):=λe h=>ak λh'=>absurd h' h
 unfold nG nG.b
 refine br (ia N ω hN) (bw (λ_=>bad _ δ) λhO=>bc (len:=l.length) (F:=λn i s=>nG.l5 N n l a id s i) (λi s=>s.Sublist (l.take i)) (Et _) ω (λn i s hi hI hr=> ?_) (λn s hI=> ?_))
 all_goals have hs:=hI.length_le
 all_goals rw[cc]at hs
 all_goals unfold nG.l5 nG.ed
 ·rw[ay (x:=(i:Int)+1) ω ω,ag i]
  obtain⟨q1,q2⟩:=Gv (d:=fa) hi hI
  have h1:=hr s q1
  have h2:=hr _ q2
  repeat' first|exact h1|exact h2|refine aC (by rw[aI];omega) ?_|refine aB ⟨ω,ω⟩ ?_|refine aw (λ_=> ?_) (λ_=> ?_)|refine bp (λ_=> ?_) (λ_=> ?_)|(exfalso;omega)
 ·rw[ix]at hI
  exact aw (λ_=>ω) λ_=>ok_eq (λ_=>bad _ δ) λ_=>ak λ_=>⟨Gu hO hI,λx hx=>hI.subset hx⟩
theorem XT(N:Nat)(hN:200000≤N){l:bs}{a:List Int}{m:Nat}(hm:m≤50000)(hl:l.length≤m)(ha:a.length≤m):Ok (λr=>eh l=true→r.Sublist l) (fV N l a):=by
 unfold fV fV.b
 refine br (ia N ω hN) (bw (λh=>ak λh'=>by rw[h]at h';exact nomatch h') λ_=>bc (len:=l.length) (F:=λn i s=>fV.l5 N n l a s i) (λi s=>s.Sublist (l.take i)) (Et _) ω (λn i s hi hI hr=> ?_) (λn s hI=> ?_))
 all_goals have hs:=hI.length_le
 all_goals rw[cc]at hs
 all_goals unfold fV.l5 fV.ed
 ·obtain⟨q1,q2⟩:=Gv (d:=fa) hi hI
  refine aw (λ_=> ?_) λ_=>ω
  refine bc (len:=a.length) (F:=λn' j b=>fV.l9 N (fV.l5 N n) n' l a s (i:Int) b j) (λ_ _=>True) trivial ω (λn' j b hj _ eM=> ?_) (λn' b _=> ?_)
  all_goals unfold fV.l9 fV.xA
  ·rw[ay (x:=(j:Int)+1) ω ω,ag j]
   exact aw (λ_=>pe (λ_=>eM _ trivial) λ_=>aB ⟨ω,ω⟩ (aB ⟨ω,ω⟩ (eM _ trivial))) λ_=>ω
  ·rw[ay (x:=(i:Int)+1) ω ω,ag i]
   exact aw (λ_=>ω) λ_=>bw (λ_=>aB ⟨ω,ω⟩ (aC (by rw[aI];omega) (hr _ q2))) λ_=>hr s q1
 ·rw[ix]at hI
  exact aw (λ_=>ω) λ_=>ak λ_=>hI
theorem Oe(N:Nat)(hN:5000000≤N){c:ae}{b:an}{m:Nat}(hm:m≤50000)(hb:G m aL b)(hR:RB c b)(id:Int)(bf:jk b.1 id):Ok (λr=>RB c r.1) (KW N c b id):=by
 have G6:eI b.1 id≠0:=(uX hR.m id).2 bf
 unfold KW
 refine br (dH N hN hm hb) (bw (λh=>by rw[ky.2 hR]at h;exact nomatch h) λ_=>br (mf N (cm hb.1.1 ω) ω _) (ok_eq (λh=>absurd h G6) λ_=>af (NU N ω hm hb.2.1 _) λa ha=>af (XT N ω hm hb.2.2.2.2.2.1.1 ha) λr hr=>ak ?_))
 have hs:=hr hR.o
 exact hR.K5 (Gu hR.o hs) λx hx=>hR.ok x (hs.subset hx)
theorem aa9(N:Nat)(hN:200000≤N){l:bs}(hl:l.length≤50000)(a d:Int):Ok (λr=>r.length≤l.length∧ ∀x∈r,x∈l) (dJ N l a d):=by
 unfold dJ dJ.b
 refine br (ia N ω hN) (bw (λ_=>ak ⟨bo _,λx hx=>nomatch hx⟩) λ_=>bc (len:=l.length) (F:=λn i s=>dJ.l5 N n l a d s i) (λi s=>s.length≤i∧ ∀x∈s,x∈l) ⟨aG 0,λx hx=>nomatch hx⟩ ω (λn i s hi hI hr=> ?_) (λn s hI=> ?_))
 all_goals unfold dJ.l5 dJ.ed
 ·obtain⟨hs,RC⟩:=hI
  have hx:l.getD (i:Int).toNat fa∈l:=qd hi
  have fin: ∀k:Nat,k≤s.length→Ok (λr=>r.length≤l.length∧ ∀x∈r,x∈l) (dJ.Jf N (dJ.l5 N n) l a d s (i:Int) (k:Int)):=λk hk=>by
   unfold dJ.Jf dJ.BT
   rw[ay (x:=(i:Int)+1) ω ω,ag i]
   dsimp only
   have t: ∀a b:Nat,(List.drop a (List.take b s)).length≤s.length:=λa b=>by rw[dR,cc];omega
   have t1:=t (0:Int).toNat (k:Int).toNat
   have t2:=t (k:Int).toNat (s.length:Int).toNat
   refine BR ⟨ω,ω,ω,ω⟩ (aC ω (aB ⟨ω,ω⟩ (aC (by rw[aI];omega) (BR ⟨ω,ω,ω,ω⟩ (aC (by rw[aS,aI];omega) (hr _ ⟨?_,λy hy=> ?_⟩))))))
   ·simp only[cJ,aS,dR,cc,aI,aJ,dr];omega
   ·rcases a8.1 hy with hy|hy
    ·rcases a8.1 hy with hy|hy
     ·exact RC y (lM (mS hy))
     ·rw[bW.1 hy];exact hx
    ·exact RC y (lM (mS hy))
  have h1:=hr s ⟨ω,RC⟩
  have hw:Ok (λr=>r.length≤l.length∧ ∀x∈r,x∈l) (dJ.l9 N (dJ.l5 N n) N l a d s (i:Int) 0):=by
   refine kR (len:=s.length) (F:=λn' j=>dJ.l9 N (dJ.l5 N n) n' l a d s (i:Int) j) ω (λn' j hj eM=> ?_) (λn'=> ?_)
   all_goals unfold dJ.l9 dJ.xA
   ·rw[ay (x:=(j:Int)+1) ω ω,ag j]
    have hah: ∀x y:gm,Ok (λ_=>True) (Un N x y):=λx y=>by unfold Un;exact bp (λ_=>eZ) λ_=>eZ
    exact aw (λ_=>aB ⟨ω,ω⟩ (aB ⟨ω,ω⟩ (af (hah _ _) λ_ _=>pe (λ_=>eM) λ_=>fin j ω))) λ_=>ω
   ·exact aw (λ_=>ω) λ_=>fin _ (aG _)
  rw[ay (x:=(i:Int)+1) ω ω,ag i]
  repeat' first|exact h1|exact hw|refine aB ⟨ω,ω⟩ ?_|refine aw (λ_=> ?_) (λ_=> ?_)|refine bp (λ_=> ?_) (λ_=> ?_)|(exfalso;omega)
 ·exact aw (λ_=>ω) λ_=>ak hI
def aid(x:gm)(q:Int):gm:=(x.1,(x.2.1,(x.2.2.1,(x.2.2.2.1,(q,x.2.2.2.2.2)))))
def leftOf(l:bs)(n:Int)(k:Nat)(x:gm):Prop:= ∃q:Int,x=aid (l.getD k fa) q∧n≤q∧q≤1000000000
theorem leftOf.mono{l:bs}{n n':Int}(h:n'≤n){k:Nat}{x:gm}(hx:leftOf l n k x):leftOf l n' k x:=by
 obtain⟨q,e,h1,h2⟩:=hx
 exact⟨q,e,fi h h1,h2⟩
abbrev SE(l:bs)(o:gm)(r:bs×bK×Int×Int):Prop:=eh r.1=true∧(∀x∈r.1,∃y∈l,x.1=y.1∧x.2.1=y.2.1∧x.2.2.1=y.2.2.1)∧r.2.2.1≤o.2.2.2.2.1
theorem aba{l s:bs}{n:Int}(hs:s.length=l.length)(h: ∀k,k<l.length→leftOf l n k (s.getD k fa))(hp:l.Pairwise Jm):s.Pairwise Jm:=by
 rw[tX]at hp ⊢
 intro i j hi hj pN
 have g: ∀k (hk:k<s.length),s[k].1=(l[k]' ω).1:=λk hk=>by
  obtain⟨q,e,_⟩:=h k ω
  rw[g5 hk,g5 (show k<l.length by omega)]at e
  rw[e];rfl
 unfold Jm
 rw[g i hi,g j hj]
 exact hp i j ω ω pN
theorem XU(N:Nat)(hN:200000≤N){l:bs}{o:gm}(hl:l.length≤50000)(hO:eh l=true)(ho:q6 o):Ok (SE l o) (cg N l o):=by
 unfold cg cg.b
 refine br (ia N ω hN) (bw (λh=>by rw[hO]at h;exact nomatch h) λ_=>br (Ap N o) (bw (λh=>absurd ho (of_decide_eq_false h)) λ_=>aC (by rw[bU];omega) (af (aa9 N hN hl _ _) λw ⟨hwl,hwm⟩=> ?_)))
 obtain⟨h1,h2,h3⟩:=kv.1 hO
 rw[cJ]
 have fin: ∀(n:Int) (s:bs) (q:Int) (t:bK),s.length=l.length→(∀k,k<l.length→leftOf l n k (s.getD k fa))→q≤o.2.2.2.2.1→Ok (SE l o) (cg.j22 N s q t):=λn s q t hs Ht hq=>by
  unfold cg.j22 cg.aaP
  refine bc (len:=s.length) (F:=λn i u=>cg.LF N n s q t u i) (λi u=>u.Sublist (s.take i)∧ ∀x∈u,nS 0 x.2.2.2.2.1) ⟨Et _,λx hx=>nomatch hx⟩ ω (λn i u hi hI hr=> ?_) (λn u hI=> ?_)
  all_goals obtain⟨i1,i2⟩:=hI
  all_goals have Hd:=i1.length_le
  all_goals rw[cc]at Hd
  all_goals unfold cg.LF cg.NW
  ·rw[ay (x:=(i:Int)+1) ω ω,ag i,aJ]
   obtain⟨q1,q2⟩:=Gv (d:=fa) hi i1
   exact aw (λ_=>aB ⟨ω,ω⟩ (aw (λhq=>aB ⟨ω,ω⟩ (aC (by rw[aI];omega) (hr _ ⟨q2,λx hx=>by
    rcases a8.1 hx with hx|hx
    ·exact i2 x hx
    ·rw[bW.1 hx];exact hq⟩))) λ_=>hr u ⟨q1,i2⟩)) λ_=>ω
  ·rw[ix]at i1
   have PU: ∀x∈s,∃y∈l,∃q:Int,x=aid y q∧q≤1000000000:=λx hx=>by
    obtain⟨k,hk,e⟩:=gj hx
    obtain⟨q,e',_,h⟩:=Ht k ω
    rw[g5 hk,e]at e'
    exact⟨_,qd (d:=fa) (show k<l.length by omega),q,e',h⟩
   refine aw (λ_=>ω) λ_=>ak ⟨kv.2 ⟨λx hx=> ?_,(aba hs Ht h2).sublist i1,by have:=i1.length_le;dsimp only at*;omega⟩,λx hx=> ?_,hq⟩
   ·obtain⟨y,hy,q,e,hq⟩:=PU x (i1.subset hx)
    have h0:=i2 x hx
    have ok:=h1 y hy
    subst e
    exact⟨ok.1,ok.2.1,ok.2.2.1,ok.2.2.2.1,⟨show(1:Int)≤q from h0,hq⟩,ok.2.2.2.2.2⟩
   ·obtain⟨y,hy,q,e,_⟩:=PU x (i1.subset hx)
    exact⟨y,hy,by rw[e];rfl,by rw[e];rfl,by rw[e];rfl⟩
 refine bc (len:=w.length) (F:=λn i (s:bs×Int×bK)=>cg.l7 N n o s.1 s.2.1 s.2.2 w i) (s:=(_,(_,_))) (λi s=>(s.1.length=l.length∧ ∀k,k<l.length→leftOf l (-1000000000*(i:Int)) k (s.1.getD k fa))∧(0≤s.2.1∧s.2.1≤o.2.2.2.2.1)∧s.2.2.length≤i) ⟨⟨rfl,λk hk=>⟨(l.getD k fa).2.2.2.2.1,rfl,?_,?_⟩⟩,⟨?_,fI _⟩,bo _⟩ ω (λn i s hi hI hr=> ?_) (λn s hI=> ?_)
 ·have:=(h1 _ (qd (d:=fa) hk)).2.2.2.2.1.1
  exact fi δ this
 ·exact(h1 _ (qd (d:=fa) hk)).2.2.2.2.1.2
 ·exact fi δ ho.2.2.2.2.1.1
 all_goals unfold cg.l7 cg.q4
 ·obtain⟨⟨hs,Ht⟩,hq,ht⟩:=hI
  have hoq:o.2.2.2.2.1≤1000000000:=ho.2.2.2.2.1.2
  have f1:=fin _ s.1 s.2.1 s.2.2 hs Ht hq.2
  have hx:=h1 _ (hwm _ (qd (d:=fa) hi))
  have ah5: ∀(v:Int) (t:sW),0≤v→v≤s.2.1→v≤1000000000→Ok (SE l o) (cg.Bf N (cg.l7 N n) o s.1 s.2.1 s.2.2 w (i:Int) v t):=λv t v0 v1 v2=>by
   unfold cg.Bf cg.uV
   have TF:s.2.1≤1000000000:=fi hq.2 hoq
   rw[ay (x:=s.2.1-v) ω ω]
   refine aC (by rw[aI];omega) (bc (len:=s.1.length) (F:=λn' j u=>cg.Hc N (cg.l7 N n) n' o u (s.2.1-v) (s.2.2++[t]) w (i:Int) v j) (λj u=>u.length=l.length∧ ∀k,k<l.length→leftOf l (if k<j then-1000000000*((i:Int)+1)else-1000000000*(i:Int)) k (u.getD k fa)) ⟨hs,λk hk=>by rw[ah ω];exact Ht k hk⟩ ω (λn' j u hj hJ eM=> ?_) (λn' u hJ=> ?_))
   all_goals obtain⟨Hd,hum⟩:=hJ
   all_goals unfold cg.Hc cg.DE
   ·rw[ay (x:=(j:Int)+1) ω ω,ag j,aJ,aJ]
    have same: ∀k,k<l.length→k≠j→leftOf l (if k<j+1 then-1000000000*((i:Int)+1)else-1000000000*(i:Int)) k (u.getD k fa):=λk hk e=>by
     have:=hum k hk
     by_cases h:k<j
     ·rw[aj h]at this;rw[aj ω];exact this
     ·rw[ah h]at this;rw[ah ω];exact this
    have h0:=hum j ω
    rw[ah ω]at h0
    refine aw (λ_=>aB ⟨ω,ω⟩ (aB ⟨ω,ω⟩ (ok_eq (λ_=>aB ⟨ω,ω⟩ (aB ⟨ω,ω⟩ (eM _ ⟨by rw[bN];exact Hd,λk hk=> ?_⟩))) λ_=>eM u ⟨Hd,λk hk=> ?_⟩))) λ_=>ω
    ·by_cases e:k=j
     ·subst e
      rw[aj ω]
      obtain⟨q,e,q1,q2⟩:=h0
      have es: ∀y:gm,(u.set k y).getD k fa=y:=λy=>by
       rw[aU,List.getElem?_set_self ω];rfl
      rw[es,e]
      unfold aid
      dsimp only
      rw[ay (x:=q-v) ω ω]
      exact⟨q-v,rfl,ω,ω⟩
     ·have es: ∀y:gm,(u.set j y).getD k fa=u.getD k fa:=λy=>by
       rw[aU,aU,List.getElem?_set_ne ω]
      rw[es];exact same k hk e
    ·by_cases e:k=j
     ·subst e
      rw[aj ω]
      exact h0.mono ω
     ·exact same k hk e
   ·rw[ay (x:=(i:Int)+1) ω ω,ag i]
    exact aw (λ_=>ω) λ_=>hr (_,(_,_)) ⟨⟨Hd,λk hk=>by
     have:=hum k hk
     rw[aj ω]at this
     rw[Int.natCast_add];exact this⟩,⟨by dsimp only;omega,by dsimp only;omega⟩,by dsimp only;rw[List.length_append,List.length_singleton];omega⟩
  have DF:0<s.2.1→Ok (SE l o) (cg.HR N (cg.l7 N n) o s.1 s.2.1 s.2.2 w (i:Int)):=λHs=>by
   unfold cg.HR cg.BU
   rw[ay (x:=(i:Int)+1) ω ω,ag i,aJ]
   dsimp only
   have h1:=hr s ⟨⟨hs,λk hk=>(Ht k hk).mono ω⟩,hq,ω⟩
   have TF:s.2.1≤1000000000:=fi hq.2 hoq
   have hm:0≤mn s.2.1 (w.getD i fa).2.2.2.2.1∧mn s.2.1 (w.getD i fa).2.2.2.2.1≤s.2.1:=by
    have h1:=hx.2.2.2.2.1.1
    generalize (w.getD i fa).2.2.2.2.1=q at*
    rw[Rs];split<;>omega
   repeat' first|exact h1|exact ah5 _ _ hm.1 hm.2 (fi hm.2 TF)|refine aB ⟨ω,ω⟩ ?_|refine ok_eq (λ_=> ?_) (λ_=> ?_)
  repeat' first|exact f1|exact DF (by assumption)|refine aB ⟨ω,ω⟩ ?_|refine aw (λ_=> ?_) (λ_=> ?_)|refine ok_eq (λ_=> ?_) (λ_=> ?_)|(exfalso;omega)
 ·obtain⟨⟨hs,Ht⟩,hq,ht⟩:=hI
  exact aw (λ_=>ω) λ_=>fin _ _ _ _ hs Ht hq.2
theorem XV(N:Nat)(hN:5000000≤N){c:ae}{b:an}{o:gm}{m:Nat}(h2:200≤m)(hm:m≤40000)(hc:G m aA c)(hb:G m aL b)(hR:RB c b)(ho:G 0 mQ o):Ok (λr=>r.2.2.2=0→RB c r.1) (ji N c b o):=by
 have Il:=hb.2.2.2.2.2.1.1
 have dI: ∀(t:bK) (e:Int),e≠0→Ok (λr:an×bK×Int×Int=>r.2.2.2=0→RB c r.1) (some ((ck,(c8,(bG,(bG,(dC,(dQ,())))))),(t,((0:Int),e)))):=λt e h=>ak λh'=>absurd h' h
 obtain⟨g1,g2,g3⟩:=kv.1 hR.o
 unfold ji ji.b
 refine af (AU N hN h2 hm hc hb (G.mono (bo m) ho)) λe he=>bp (λh=>dI _ _ h) λe0=> ?_
 obtain⟨o1,o2,o3⟩:=he e0
 have oA:=(pj hR.a _).1 o2
 have DF: ∀(r:bs) (t:bK) (q:Int),eh r=true→(∀x∈r,∃y∈b.2.2.2.2.2.1,x.1=y.1∧x.2.1=y.2.1∧x.2.2.1=y.2.2.1)→q≤o.2.2.2.2.1→(0<q→r.length≤31)→(∀y∈b.2.2.2.2.2.1,nS y.1 o.1)→Ok (λr=>r.2.2.2=0→RB c r.1) (ji.HR N c b o (ck,(c8,(bG,(bG,(dC,(dQ,())))))) r t q):=λr t q hr hrm hq H9 e9=>by
  obtain⟨r1,r2,r3⟩:=kv.1 hr
  unfold ji.HR ji.BU
  refine af (Jp N hN ω hb hR) λz hz=>bp (λh=>dI _ _ h) λz0=> ?_
  obtain⟨zR,_,za,_⟩:=hz z0
  have hk: ∀x∈r,Gq c z.1.2.1 x:=λx hx=>by
   obtain⟨y,hy,_,e1,e2⟩:=hrm x hx
   have:=hR.ok y hy
   unfold Gq at this ⊢
   rw[za,e1,e2];exact this
  refine aw (λh0=>aC (by rw[aI];omega) (ak λ_=>zR.K5 (kv.2 ⟨λx hx=> ?_,?_,?_⟩) λx hx=> ?_)) λ_=>ak λ_=>zR.K5 hr hk
  ·rcases a8.1 hx with hx|hx
   ·exact r1 x hx
   ·rw[bW.1 hx]
    exact⟨o1.1,o1.2.1,o1.2.2.1,o1.2.2.2.1,⟨h0,fi hq o1.2.2.2.2.1.2⟩,o1.2.2.2.2.2⟩
  ·rw[vH]
   refine⟨r2,Eh ..,λx hx y hy=> ?_⟩
   rw[bW.1 hy]
   obtain⟨u,hu,e,_⟩:=hrm x hx
   unfold Jm
   rw[e];exact e9 u hu
  ·rw[aS,aI];have:=H9 h0;omega
  ·rcases a8.1 hx with hx|hx
   ·exact hk x hx
   ·rw[bW.1 hx]
    unfold Gq
    rw[za];exact⟨oA,o3⟩
 have hj7:(∀y∈b.2.2.2.2.2.1,nS y.1 o.1)→Ok (λr=>r.2.2.2=0→RB c r.1) (ji.j7 N c b o (ck,(c8,(bG,(bG,(dC,(dQ,()))))))):=λe9=>by
  unfold ji.j7 ji.Vg
  refine af (XU N ω ω hR.o o1) λz ⟨z1,z2,z3⟩=> ?_
  have zl:=(kv.1 z1).2.2
  exact aw (λh0=>ok_eq (λ_=>dI _ _ δ) λjy=>DF _ _ _ z1 z2 z3 (λ_=>ω) e9) λh0=>DF _ _ _ z1 z2 z3 (λh=>ω) e9
 refine aw (λh0=> ?_) λh0=>hj7 λy hy=> ?_
 ·dsimp only
  refine aB (by rw[ay ω ω];omega) (dZ (λ_=>dI _ _ δ) λXW=>hj7 λy hy=> ?_)
  have e1:(W .i64 ((b.2.2.2.2.2.1.length:Int)-1)).toNat=b.2.2.2.2.2.1.length-1:=by rw[ay ω ω];omega
  rw[e1,g5 ω]at XW
  obtain⟨k,hk,e⟩:=gj hy
  by_cases h:k=b.2.2.2.2.2.1.length-1
  ·subst h;rw[←e];exact XW
  ·have:=tX.1 g2 k (b.2.2.2.2.2.1.length-1) hk ω ω
   rw[e]at this
   exact K2 this XW
 ·have:=List.length_pos_of_mem hy
  omega
end VM
end
