/- A part of the proof of BookAll of layer 18: what the functions compute, in plain words. -/
import Derived.Test.YtfdcmiodcijmmaaGreatPlain2
import Derived.Test.YtfdcmiodcijmmaaGreatPlain0
set_option linter.all false
section
namespace VM
open Go VM.F
def iT(a:Int):ak→aW
 |[]=>[]
 |x::t=>if x.1=a then(x.2.1,(x.2.2.1,()))::iT a t else iT a t
theorem kQ(a:Int)(x:dJ)(t:ak):iT a (x::t)=if x.1=a then(x.2.1,(x.2.2.1,()))::iT a t else iT a t:=rfl
def posOf(l:ak)(a:Int):aW:=if cB l then iT a l else []
theorem zf(a:Int): ∀l:ak,(iT a l).length≤l.length
 |[]=>aB _
 |x::t=>by
  have:=zf a t
  rw[kQ,aL]
  split
  ·rw[aL];omega
  ·omega
theorem Be(a:Int)(l:ak):(posOf l a).length≤l.length:=by
 unfold posOf
 split
 ·exact zf a l
 ·exact c8 _
theorem mQ{a:Int}{y:GL}: ∀{l:ak},y∈iT a l→ ∃x∈l,x.1=a∧y=(x.2.1,(x.2.2.1,()))
 |[],h=>nomatch h
 |x::t,h=>by
  rw[kQ]at h
  by_cases e:x.1=a
  ·rw[ae e]at h
   rcases aV.1 h with h|h
   ·exact⟨x,bg ..,e,h⟩
   ·obtain⟨x',hx,h'⟩:=mQ h
    exact⟨x',aU _ hx,h'⟩
  ·rw[af e]at h
   obtain⟨x',hx,h'⟩:=mQ h
   exact⟨x',aU _ hx,h'⟩
theorem zg{l:ak}(h:c3 l)(a:Int): ∀y∈posOf l a,bk y.2.1:=λy hy=>by
 unfold posOf at hy
 split at hy
 ·obtain⟨x,hx,_,rfl⟩:=mQ hy
  exact h x hx
 ·nomatch hy
theorem Xq(N:Nat){l:ak}(hl:l.length≤100000)(hN:200000≤N)(a:Int):wg N l a=some (posOf l a):=by
 unfold wg wg.b posOf
 rw[qD N hl hN,ag,cond_not]
 have:=hZ l aH (λn i s=>wg.l5 N n a s l (l.length:Int) i) (λt s=>some (s++iT a t)) (λi (s:aW)=>s.length≤i) (λn i s hi hI hr=> ?_) (λn s hI=> ?_) l.length N 0 [] ω ω ω (aB _)
 ·have e:wg.l5 N N a [] l (l.length:Int) 0=some (iT a l):=this
  rw[e];cases cB l<;>rfl
 ·unfold wg.l5 wg.fX
  rw[az ω,aa,aE ω ω,aa,aw,ay (x:=(i:Int)+1) ω ω,ah i,au,bo (by rw[aQ];omega),aa,kQ]
  split
  ·rw[hr _ (by rw[aC,aQ];omega),aT];rfl
  ·exact hr s ω
 ·unfold wg.l5 wg.fX
  rw[av ω,an]
  show some s=some (s++[])
  rw[bF]
theorem S8(N:Nat){l:ak}(hl:l.length≤100000)(hN:200000≤N)(a:Int):wh N l a=some (posOf l a):=by
 unfold wh wh.b posOf
 rw[om N hl hN,ag,cond_not]
 have:=hZ l aH (λn i s=>wh.l5 N n l a s i) (λt s=>some (s++iT a t)) (λi (s:aW)=>s.length≤i) (λn i s hi hI hr=> ?_) (λn s hI=> ?_) l.length N 0 [] ω ω ω (aB _)
 ·have e:wh.l5 N N l a [] 0=some (iT a l):=this
  rw[e];cases cB l<;>rfl
 ·unfold wh.l5 wh.fX
  rw[az ω,aa,aE ω ω,aa,aa,aa,aw,ay (x:=(i:Int)+1) ω ω,ah i,au,bo (by rw[aQ];omega),aa,kQ]
  split
  ·rw[hr _ (by rw[aC,aQ];omega),aT];rfl
  ·exact hr s ω
 ·unfold wh.l5 wh.fX
  rw[av ω,an]
  show some s=some (s++[])
  rw[bF]
theorem wi{a:Int}: ∀{l:ak},nW (l.map keyOf)→((iT a l).map (λy=>(y.1:Int))).Pairwise (· < ·)
 |[],_=>List.Pairwise.nil
 |x::t,h=>by
  obtain⟨h1,h2⟩:=ez.1 h
  have ih:=wi (a:=a) h2
  rw[kQ]
  by_cases e:x.1=a
  ·rw[ae e,bA]
   refine ez.2 ⟨λz hz=> ?_,ih⟩
   obtain⟨y,hy,rfl⟩:=cA.1 hz
   obtain⟨x',hx,e',rfl⟩:=mQ hy
   have hk:=h1 (keyOf x') (dF hx)
   have g: ∀p q r s:Int,p=a→r=a→gZ p q r s→q<s:=λp q r s h1 h2 h=>by unfold gZ at h;omega
   exact g _ _ _ _ e e' hk
  ·rw[af e];exact ih
def cg(p:Int):Prop:=1≤p∧p≤1000000000000
instance(p:Int):Decidable (cg p):=by unfold cg;infer_instance
theorem mR(N:Nat)(p:Int):y3 N p=some (decide (cg p)):=(u2 N p).trans (cN some (lK.2 Iff.rfl))
def kR(a b c d e:Int):Prop:=(0≤a∧a≤24)∧(0≤b∧b≤24)∧a≠b∧(0≤c∧c<6)∧(1≤d∧d≤1000000000)∧cg e
instance(a b c d e:Int):Decidable (kR a b c d e):=by unfold kR;infer_instance
def cC(t:nS):Prop:=kR t.1 t.2.1 t.2.2.1 t.2.2.2.1 t.2.2.2.2.1
instance:DecidablePred cC:=λt=>by unfold cC;infer_instance
theorem wj(a b c d e:Int):cond (cP 0 a) (cond (cP a 24) (cond (cP 0 b) (cond (cP b 24) (cond (!bf a b) (cond (cP 0 c) (cond (bh c 6) (cond (cP 1 d) (cond (cP d 1000000000) (some (decide (cg e))) (some false)) (some false)) (some false)) (some false)) (some false)) (some false)) (some false)) (some false)) (some false)=some (decide (kR a b c d e)):=by
 simp only[aX,cond_not,au,bb]
 by_cases hP:kR a b c d e
 ·have hp:=hP.2.2.2.2.2
  rw[aD hP,aD hp]
  unfold kR at hP
  repeat' split
  all_goals first|rfl|omega
 ·rw[aP hP]
  by_cases hp:cg e
  ·unfold kR at hP
   repeat' split
   all_goals first|rfl|(exact absurd ⟨ω,ω,ω,ω,ω,hp⟩ hP)
  ·rw[aP hp]
   repeat' split
   all_goals rfl
theorem Bf(N:Nat)(t:nS):Mc N t=some (decide (cC t)):=by
 unfold Mc
 rw[mR,ag]
 exact wj _ _ _ _ _
def ot(a x:Int):dJ:=if a=0 then((2:Int),((0:Int),(x,())))else((5:Int),(a,(x,())))
def iU(t:nS)(p:Int):ak:=if p-t.2.2.2.2.1=0 then []else [ot t.1 ((p-t.2.2.2.2.1)*t.2.2.2.1),ot t.2.1 (-((p-t.2.2.2.2.1)*t.2.2.2.1))]
def gr(b:ar)(t:nS):Int:=b.2.2.2.2.1.getD t.2.2.1.toNat 0
def eG:e8→ak
 |[]=>[]
 |t::r=>(t.1,(t.2.2.1,(t.2.2.2.1,())))::(t.2.1,(t.2.2.1,((0-t.2.2.2.1:Int),())))::eG r
def eW(b:ar):e8→ak
 |[]=>[]
 |t::r=>iU t (gr b t)++eW b r
theorem kS(t:nS)(r:e8):eG (t::r)=(t.1,(t.2.2.1,(t.2.2.2.1,())))::(t.2.1,(t.2.2.1,((0-t.2.2.2.1:Int),())))::eG r:=rfl
theorem nF(b:ar)(t:nS)(r:e8):eW b (t::r)=iU t (gr b t)++eW b r:=rfl
theorem vh(a x:Int)(N:Nat):JP N a=some ((ot a x).1,(ot a x).2.1):=by
 unfold JP ot
 rw[au]
 by_cases h:a=0
 ·rw[ae h,ae h]
 ·rw[af h,af h]
theorem jz(a x:Int):da (ot a x)=x:=by unfold ot;split<;>rfl
theorem Bh{d q:Int}(h1: -1000000000000≤d∧d≤1000000000000)(h2:1≤q∧q≤1000000000): -1000000000000000000000≤d*q∧d*q≤1000000000000000000000∧(d*q=0↔d=0):=by
 refine⟨?_,?_,?_⟩
 ·have:=wW h1.1 (show 0≤q by omega)
  have h3: -1000000000000*1000000000≤ -1000000000000*q:=ω
  omega
 ·have:=wW h1.2 (show 0≤q by omega)
  have h3:1000000000000*q≤1000000000000*1000000000:=ω
  omega
 ·rw[Int.mul_eq_zero];omega
theorem Aw(N:Nat)(hN:4000000≤N){t:nS}{p:Int}(ht:cC t)(hp:cg p):Md N t p=some ((iU t p).map ew,0):=by
 unfold Md iU
 have hq:=ht.2.2.2.2.1
 have he:=ht.2.2.2.2.2
 rw[Bf,ag,aD ht,aN,an,mR,ag,aD hp,aN,an]
 unfold cg at hp he
 generalize t.2.2.2.2.1=e at*
 generalize t.2.2.2.1=q at*
 have hd: -1000000000000≤p-e∧p-e≤1000000000000:=ω
 have hn:=Bh hd hq
 have JM:bO ((p-e)*q):=by unfold bO;omega
 rw[ay (x:=p-e) ω ω,er N ω ω ω,ag,er N ω ω ω,ag,tU N hN ((Fit.i64 ω ω).mono ω) ((Fit.i64 ω ω).mono ω),ag,tT,ag,au]
 by_cases h:p-e=0
 ·rw[ae h,ae (by rw[hn.2.2.2 h];rfl)];rfl
 ·rw[af h,af (λk=>h (hn.2.2.1 (gG.1 k))),vh t.1 ((p-e)*q),ag,vh t.2.1 (-((p-e)*q)),ag,AX N hN (nE JM),ag,bA,bA,eL]
  unfold ew
  rw[jz,jz]
def dD(c:aj)(b:ar)(t:nS):Bool:=
 ((dU b.2.1 t.1).2||decide (eR t.1 0))&&(((dU b.2.1 t.2.1).2||decide (eR t.2.1 0))&&decide (sy t.2.2.1 c.1.length))
def mS(c:aj)(b:ar)(l:e8):ar×Int:=
 if cD c b then(if l.length≤200 then(if l.all (λt=>decide (cC t))then(if l.all (dD c b)then cv b (eG l) (eW b l)else((fP,(fQ,(cj,(cj,(eH,(fv,())))))),3))else((fP,(fQ,(cj,(cj,(eH,(fv,())))))),1))else((fP,(fQ,(cj,(cj,(eH,(fv,())))))),1))else((fP,(fQ,(cj,(cj,(eH,(fv,())))))),1)
theorem iy{c:aj}{b:ar}(h:cD c b=true):b.2.2.2.2.1.length=c.1.length∧fq b.2.2.2.2.1=true:=by
 unfold cD at h
 simp only[ba]at h
 have h1:=bH h.2.2.2.2.2.2.1
 unfold eR at h1
 exact⟨ω,h.2.2.2.2.2.2.2.2.2.2⟩
theorem pd: ∀l:e8,(eG l).length=2*l.length
 |[]=>rfl
 |t::r=>by rw[kS,aL,aL,aL,pd r];omega
theorem sB(t:nS)(p:Int):(iU t p).length≤2:=by
 unfold iU
 split
 ·exact c8 _
 ·exact aB 2
theorem pe(b:ar): ∀l:e8,(eW b l).length≤2*l.length
 |[]=>aB _
 |t::r=>by
  have:=sB t (gr b t)
  have:=pe b r
  rw[nF,aC,aL];omega
theorem ou{l:List Int}(h:fq l=true){i:Nat}(hi:i<l.length):cg (l.getD i 0):=bH h i hi
theorem G0(i:Int)(a b:dJ)(l:ak)(h:a.2.1=b.2.1)(hs:da a+da b=0):(dm i (a::b::l)).sum=(dm i l).sum:=by
 rw[fB,fB]
 by_cases e:a.2.1=i
 ·rw[ae e,ae (h.symm.trans e),eA,eA];omega
 ·rw[af e,af (λk=>e (h.trans k))]
theorem wk: ∀{l:e8},(∀t∈l,cC t)→(∀x∈eG l,bK x.1 x.2.1∧bk (da x)∧xd (da x))∧ ∀i:Int,(dm i (eG l)).sum=0
 |[],_=>⟨λx hx=>(nomatch hx),λi=>rfl⟩
 |t::r,h=>by
  obtain⟨h1,h2⟩:=wk (l:=r) (λy hy=>h y (aU _ hy))
  have ht:=h t (bg ..)
  unfold cC kR at ht
  have g: ∀a b c d:Int,(0≤a∧a≤24)→(0≤b∧b≤24)→(0≤c∧c<6)→(1≤d∧d≤1000000000)→(bK a c∧bk d∧xd d)∧(bK b c∧bk (0-d)∧xd (0-d)):=λa b c d _ _ _ _=>by unfold bK bk xd;omega
  have hg:=g _ _ _ _ ht.1 ht.2.1 ht.2.2.2.1 ht.2.2.2.2.1
  refine⟨λx hx=> ?_,λi=> ?_⟩
  ·rw[kS]at hx
   rcases aV.1 hx with e|hx
   ·rw[e];exact hg.1
   ·rcases aV.1 hx with e|hx
    ·rw[e];exact hg.2
    ·exact h1 x hx
  ·rw[kS]
   have hz: ∀d:Int,d+(0-d)=0:=λd=>ω
   exact(G0 i (t.1,(t.2.2.1,(t.2.2.2.1,()))) (t.2.1,(t.2.2.1,((0-t.2.2.2.1:Int),()))) (eG r) rfl (hz t.2.2.2.1)).trans (h2 i)
theorem G1{t:nS}{p:Int}(ht:cC t)(hp:cg p):bO ((p-t.2.2.2.2.1)*t.2.2.2.1)∧bO (-((p-t.2.2.2.2.1)*t.2.2.2.1)):=by
 have hq:=ht.2.2.2.2.1
 have he:=ht.2.2.2.2.2
 unfold cg at hp he
 generalize t.2.2.2.2.1=e at*
 generalize t.2.2.2.1=q at*
 have hn:=Bh (d:=p-e) ω hq
 unfold bO
 omega
theorem zh{a x:Int}(h:0≤a∧a≤24):cT (ot a x).1 (ot a x).2.1:=by
 unfold ot
 by_cases e:a=0
 ·rw[ae e];show cT 2 0;decide
 ·rw[af e];show cT 5 a;unfold cT;omega
theorem EL{t:nS}{p:Int}(ht:cC t)(hp:cg p):(∀x∈iU t p,cT x.1 x.2.1∧bO (da x))∧((iU t p).map da).sum=0:=by
 have hn:=G1 ht hp
 unfold iU
 split
 ·exact⟨λx hx=>(nomatch hx),rfl⟩
 ·refine⟨λx hx=> ?_,?_⟩
  ·rcases aV.1 hx with e|hx
   ·rw[e,jz];exact⟨zh ht.1,hn.1⟩
   ·rw[dw.1 hx,jz];exact⟨zh ht.2.1,hn.2⟩
  ·rw[bA,bA,eL,eA,eA,jj,jz,jz];omega
theorem wm{b:ar}: ∀{l:e8},(∀t∈l,cC t∧cg (gr b t))→(∀x∈eW b l,cT x.1 x.2.1∧bO (da x))∧((eW b l).map da).sum=0
 |[],_=>⟨λx hx=>(nomatch hx),rfl⟩
 |t::r,h=>by
  obtain⟨h1,h2⟩:=wm (b:=b) (l:=r) (λy hy=>h y (aU _ hy))
  have ht:=h t (bg ..)
  have hc:=EL ht.1 ht.2
  rw[nF]
  refine⟨λx hx=>(br.1 hx).elim (hc.1 x) (h1 x),?_⟩
  rw[cH,n0,hc.2,h2];rfl
theorem Bi{l:e8}(h: ∀t∈l,cC t)(hl:l.length≤200):EA (eG l):=by
 obtain⟨h1,h2⟩:=wk h
 exact⟨λx hx=>(h1 x hx).1,λx hx=>(h1 x hx).2,by rw[pd];omega,h2⟩
theorem Bj{b:ar}{l:e8}(h: ∀t∈l,cC t∧cg (gr b t))(hl:l.length≤200):EC (eW b l):=by
 obtain⟨h1,h2⟩:=wm h
 have:=pe b l
 exact⟨λx hx=>(h1 x hx).1,λx hx=>(h1 x hx).2,ω,h2⟩
theorem Cj(N:Nat)(hN:4000000≤N)(c:aj){b:ar}(w:lU b)(hB:cD c b=true){l:e8}(hk: ∀t∈l,cC t)(hl:l.length≤200):
  ov.Rk N N l c b (fP,(fQ,(cj,(cj,(eH,(fv,())))))) [] [] 0=some (if l.all (dD c b)then cv b (eG l) (eW b l)else((fP,(fQ,(cj,(cj,(eH,(fv,())))))),3)):=by
 obtain⟨hr,hs⟩:=fK hB
 obtain⟨HN,BQ⟩:=iy hB
 have gs:=Bi hk hl
 have:=hZ l g9 (λn i (z:ak×ak)=>ov.Rk N n l c b (fP,(fQ,(cj,(cj,(eH,(fv,())))))) z.1 (z.2.map ew) i)
  (λu z=>some (if u.all (dD c b)then cv b (eG l) (eW b l)else((fP,(fQ,(cj,(cj,(eH,(fv,())))))),3)))
  (λi z=>z.1++eG (l.drop i)=eG l∧z.2++eW b (l.drop i)=eW b l∧ ∀j,j<i→dD c b (l.getD j g9)=true)
  (λn i z hi hI Ek=> ?_) (λn z hI=> ?_) l.length N 0 ([],[]) ω ω ω ⟨rfl,rfl,λj hj=>absurd hj ω⟩
 ·exact this
 ·unfold ov.Rk ov.OU
  obtain⟨i1,i2,i3⟩:=hI
  have hls:=pd l
  have hle:=pe b l
  have z1:z.1.length≤400:=by rw[←i1,aC]at hls;omega
  have z2:z.2.length≤400:=by rw[←i2,aC]at hle;omega
  have hm:l.getD i g9∈l:=by
   rw[aR,bc hi];exact c6 hi
  have ht:=hk _ hm
  rw[drop_cons hi g9,kS]at i1
  rw[drop_cons hi g9,nF]at i2
  rw[az ω,aa,aE ω ω,aa,aw,ay (x:=(i:Int)+1) ω ω,ah i,pX]
  have i4:dD c b (l.getD i g9)=true→ ∀j,j<i+1→dD c b (l.getD j g9)=true:=λh j hj=>by
   by_cases e:j=i
   ·rw[e];exact h
   ·exact i3 j ω
  generalize l.getD i g9=t at*
  have hq:=ht.2.2.2.2.1
  have hJ:=ht.2.2.2.1
  rw[qG N b w.w.a ω,ag,qG N b w.w.a ω,ag,cond_not,cond_not,aX]
  have e0:W .i64 (0-t.2.2.2.1)=0-t.2.2.2.1:=by
   have g: ∀d:Int,1≤d∧d≤1000000000→W .i64 (0-d)=0-d:=λd _=>ay ω ω
   exact g _ hq
  rw[e0]
  dsimp only
  by_cases h1:((dU b.2.1 t.1).2||decide (eR t.1 0))=false
  ·have:dD c b t=false:=by unfold dD;rw[h1];rfl
   rw[h1,this];rfl
  ·rw[nY]at h1
   rw[h1,aa]
   by_cases h2:((dU b.2.1 t.2.1).2||decide (eR t.2.1 0))=false
   ·have:dD c b t=false:=by unfold dD;rw[h1,h2];rfl
    rw[h2,this];rfl
   ·rw[nY]at h2
    rw[h2,aa]
    by_cases h3:(c.1.length:Int)≤t.2.2.1
    ·have:dD c b t=false:=by
      unfold dD
      rw[h1,h2,aP (show ¬sy t.2.2.1 c.1.length from λh=>by unfold sy at h;exact absurd h (mu.2 h3))];rfl
     rw[ae h3,this];rfl
    ·have dv:t.2.2.1<(c.1.length:Int):=n7.1 h3
     have S9:dD c b t=true:=by
      unfold dD
      rw[h1,h2,aD (show sy t.2.2.1 c.1.length from dv)];rfl
     have JQ:t.2.2.1.toNat<b.2.2.2.2.1.length:=by
      have g: ∀x:Int,(0≤x∧x<6)→x<(c.1.length:Int)→x.toNat<b.2.2.2.2.1.length:=λx _ _=>ω
      exact g _ hJ dv
     have Gq:bJ t.2.2.1 b.2.2.2.2.1.length=true:=by
      have g: ∀x:Int,(0≤x∧x<6)→x<(c.1.length:Int)→bJ x b.2.2.2.2.1.length=true:=λx _ _=>aE ω ω
      exact g _ hJ dv
     have hp:cg (gr b t):=ou BQ JQ
     have SP:Md N t (b.2.2.2.2.1.getD t.2.2.1.toNat 0)=some ((iU t (gr b t)).map ew,0):=Aw N hN ht hp
     have yf:=sB t (gr b t)
     rw[af h3,bo (by rw[aL,aQ];omega),aa,Gq,aa,SP,ag,bo (by rw[bI,bI];omega),aa,S9,jh]
     have:=Ek (z.1++[(t.1,(t.2.2.1,(t.2.2.2.1,()))),(t.2.1,(t.2.2.1,((0-t.2.2.2.1:Int),())))],z.2++iU t (gr b t)) ⟨by rw[←i1,aT];rfl,by rw[←i2,aT],i4 S9⟩
     rw[cH]at this
     exact this
 ·unfold ov.Rk ov.OU
  obtain⟨i1,i2,i3⟩:=hI
  rw[pQ]at i1 i2
  have e1:z.1=eG l:=by rw[←i1];exact(bF _).symm
  have e2:z.2=eW b l:=by rw[←i2];exact(bF _).symm
  have fi: ∀t∈l,cC t∧cg (gr b t):=λt ht=>by
   obtain⟨i,hi,e⟩:=iz ht
   have h:=i3 i hi
   rw[aR,bc hi]at h
   simp only[pR,e]at h
   unfold dD at h
   have dv:=bH (dQ.1 (dQ.1 h).2).2
   have hJ:=(hk t ht).2.2.2.1
   have JQ:t.2.2.1.toNat<b.2.2.2.2.1.length:=by
    have g: ∀x:Int,(0≤x∧x<6)→sy x c.1.length→x.toNat<b.2.2.2.2.1.length:=λx _ h=>by unfold sy at h;omega
    exact g _ hJ dv
   exact⟨hk t ht,ou BQ JQ⟩
  rw[av ω,an,e1,e2,Iq N hN w.w hr hs w.r w.s gs (Bj fi hl),ag]
  rfl
theorem G2(N:Nat)(hN:5000000≤N)(c:aj){b:ar}(w:lU b){l:e8}(hl:l.length≤100000):ov N c b l=some (mS c b l):=by
 unfold ov ov.b mS
 rw[qH N hN w.w,ag,cond_not,bb]
 by_cases hB:cD c b=false
 ·rw[hB];rfl
 rw[nY]at hB
 rw[hB,aa,ae rfl]
 by_cases G3:l.length≤200
 ·rw[af ω,ae G3]
  have key: ∀(m n i:Nat),l.length-i≤m→m<n→i≤l.length→(∀j,j<i→cC (l.getD j g9))→ov.l4 N n l c b (fP,(fQ,(cj,(cj,(eH,(fv,())))))) (i:Int)=some (if l.all (λt=>decide (cC t))then(if l.all (dD c b)then cv b (eG l) (eW b l)else((fP,(fQ,(cj,(cj,(eH,(fv,())))))),3))else((fP,(fQ,(cj,(cj,(eH,(fv,())))))),1)):=by
   intro m n
   induction n generalizing m with
   |zero=>intro i _ hn;omega
   |succ n ih=>
    intro i hm hn hi hj
    unfold ov.l4 ov.de
    by_cases h:i<l.length
    ·rw[az ω,aa,aE ω ω,aa,aw,Bf,ag,cond_not,dH,ay (x:=(i:Int)+1) ω ω,ah i]
     by_cases hk:cC (l.getD i g9)
     ·rw[ae hk]
      exact ih (m-1) (i+1) ω ω ω λj Q6=>by
       by_cases e:j=i
       ·rw[e];exact hk
       ·exact hj j ω
     ·rw[af hk]
      have hf:l.all (λt=>decide (cC t))=false:=by
       rw[List.all_eq_false]
       refine⟨l.getD i g9,?_,by rw[aP hk];decide⟩
       rw[aR,bc h];exact c6 h
      rw[hf];rfl
    ·have hk: ∀t∈l,cC t:=λt ht=>by
      obtain⟨k,hk,e⟩:=iz ht
      have:=hj k ω
      rw[aR,bc hk]at this
      rw[←e];exact this
     have ha:l.all (λt=>decide (cC t))=true:=lJ.2 λt ht=>aD (hk t ht)
     rw[av ω,an,ha,ae rfl]
     exact Cj N ω c w hB hk G3
  exact key l.length N 0 ω ω ω (λj hj=>absurd hj ω)
 ·rw[ae ω,af G3]
theorem EM{c:aj}(h:eF c=true):c.1.length≤6∧ ∀i,i<c.1.length→0≤(c.1.getD i bQ).1∧(c.1.getD i bQ).1≤3:=by
 unfold eF at h
 simp only[ba]at h
 have h1:=bH h.1
 have h2:=bH h.2.1
 exact⟨h1.2,λi hi=>(h2 i hi).1⟩
theorem mT(N:Nat)(p:Int):Aq N p=some (decide (cg p)):=(uZ N p).trans (cN some (lK.2 Iff.rfl))
theorem Bk(N:Nat)(hN:10≤N)(t:nS):j1 N t=some (decide (cC t)):=by
 obtain⟨n,rfl⟩: ∃n,N=n+3:=⟨N-3,ω⟩
 refine Eq.trans ?_ (wj t.1 t.2.1 t.2.2.1 t.2.2.2.1 t.2.2.2.2.1)
 unfold j1 j1.b
 have el:List.set (List.set (List.replicate 2 (0:Int)) 0 t.1) 1 t.2.1=[t.1,t.2.1]:=rfl
 rw[el]
 generalize hl:[t.1,t.2.1]=l
 have g0:l.getD (0:Int).toNat 0=t.1:=by rw[←hl];rfl
 have g1:l.getD (1:Int).toNat 0=t.2.1:=by rw[←hl];rfl
 unfold j1.l2 j1.dY
 unfold j1.l2 j1.dY
 unfold j1.l2 j1.dY
 rw[az (x:=0) ω,aa,aE (i:=0) ω ω,aa,ay (x:=0+1) ω ω,show(0:Int)+1=1 from rfl,az (x:=1) (y:=2) ω,aa,aE (i:=1) ω ω,aa,ay (x:=1+1) ω ω,show(1:Int)+1=2 from rfl,av (x:=2) (y:=2) ω,an,g0,g1,mT,ag]
 simp only[aX,cond_not,au,bb]
 by_cases a1:t.1<0
 ·rw[ae a1,af (n7.2 a1)]
 rw[af a1,ae (mu.1 a1)]
 by_cases a2:24<t.1
 ·rw[ae a2,af (n7.2 a2)]
 rw[af a2,ae (mu.1 a2)]
 by_cases a3:t.2.1<0
 ·rw[ae a3,af (n7.2 a3)]
 rw[af a3,ae (mu.1 a3)]
 by_cases a4:24<t.2.1
 ·rw[ae a4,af (n7.2 a4)]
 rw[af a4,ae (mu.1 a4)]
theorem vi(N:Nat)(a x:Int):JR N a (bp x)=some (eu (ot a x)):=by
 unfold JR ot eu
 rw[au]
 by_cases h:a=0
 ·rw[ae h,ae h];rfl
 ·rw[af h,af h];rfl
theorem G4(N:Nat)(hN:100≤N){t:nS}{p:Int}(ht:cC t)(hp:cg p):Me N t p=some ((iU t p).map eu,0):=by
 unfold Me iU
 have hq:=ht.2.2.2.2.1
 have he:=ht.2.2.2.2.2
 rw[Bk N ω,ag,aD ht,aN,an,mT,ag,aD hp,aN,an,au]
 unfold cg at hp he
 generalize t.2.2.2.2.1=e at*
 generalize t.2.2.2.1=q at*
 by_cases h:p=e
 ·rw[ae h,ae ω];rfl
 ·rw[af h,af ω,ay (x:=p-e) ω ω,ay (x:=e-p) ω ω,B6 N ω ω ω ω,ag,vi,ag,B6 N ω ω ω ω,ag,vi,ag,bA,bA,eL,n6 q (p-e)]
  have e2:q*(e-p)= -((p-e)*q):=by rw[n6,←Int.neg_mul];congr 1;omega
  rw[e2]
theorem OV(N:Nat){u v:Int}(hu:bO u)(hv:bO v)(hs:bO (u+v)):Xr N (bp u) (bp v)=some (bp (u+v),true):=by
 unfold Xr bp
 unfold bO at*
 dsimp only
 have hp:0≤u%18446744073709551616∧u%18446744073709551616<18446744073709551616:=ω
 have hq:0≤v%18446744073709551616∧v%18446744073709551616<18446744073709551616:=ω
 rw[kD,kD,qB N ω ω ω ω,ag]
 dsimp only
 have hc:0≤(u%18446744073709551616+v%18446744073709551616+0)/18446744073709551616∧(u%18446744073709551616+v%18446744073709551616+0)/18446744073709551616≤1:=ω
 have e1:(u%18446744073709551616+v%18446744073709551616+0)%18446744073709551616=(u+v)%18446744073709551616:=ω
 have e2:u/18446744073709551616+v/18446744073709551616+(u%18446744073709551616+v%18446744073709551616+0)/18446744073709551616=(u+v)/18446744073709551616:=ω
 have h3: -9223372036854775808≤(u+v)/18446744073709551616∧(u+v)/18446744073709551616<9223372036854775808:=ω
 rw[qB N ω ω hc.1 hc.2,ag]
 dsimp only
 have e3:W .i64 ((u/18446744073709551616%18446744073709551616+v/18446744073709551616%18446744073709551616+(u%18446744073709551616+v%18446744073709551616+0)/18446744073709551616)%18446744073709551616)=(u+v)/18446744073709551616:=by
  rw[eg];split<;>omega
 rw[e3,e1]
 have key: ∀A B C:Int,A=u/18446744073709551616→B=v/18446744073709551616→C=(u+v)/18446744073709551616→(A<0∧B<0→C<0)∧(¬A<0∧ ¬B<0→ ¬C<0):=λA B C _ _ _=>ω
 have k:=key _ _ _ rfl rfl rfl
 simp only[kF,nJ]
 by_cases a:u/18446744073709551616<0<;>by_cases b:v/18446744073709551616<0
 ·have c:=k.1 ⟨a,b⟩
  rw[aD a,aD b,aD c];rfl
 ·rw[aD a,aP b];rfl
 ·rw[aP a,aD b];rfl
 ·have c:=k.2 ⟨a,b⟩
  rw[aP a,aP b,aP c];rfl
theorem wo(N:Nat)(hN:10≤N){l:e8}(hl:l.length≤100000): ∀(m n i:Nat),l.length-i≤m→m<n→i≤l.length→
  ∃r,m8.l2 N n l () (l.length:Int) (i:Int)=some r∧(cP 0 r= !(l.drop i).all (λt=>decide (cC t)))
 |m,0,i,_,hn,_=>ω
 |m,n+1,i,hm,hn,hi=>by
  unfold m8.l2 m8.dY Ta
  by_cases h:i<l.length
  ·rw[az ω,aa,aE ω ω,aa,aw,Bk N hN,ag,ag,cond_not,dH,drop_cons h g9,pX]
   by_cases hP:cC (l.getD i g9)
   ·rw[ae hP,ay ω ω,aD hP,jh]
    exact wo N hN hl (m-1) n (i+1) ω ω ω
   ·rw[af hP,aP hP,s9]
    exact⟨_,rfl,by rw[fT ω];rfl⟩
  ·have e:i=l.length:=ω
   subst e
   rw[av ω,an,pQ]
   exact⟨_,rfl,by rw[fA ω];rfl⟩
theorem G5(N:Nat){l:e8}(hl:l.length≤100000)(hN:200000≤N):OW N l ()=some (!l.all (λt=>decide (cC t))):=by
 unfold OW m8 m8.b
 obtain⟨r,e,h⟩:=wo N ω hl l.length N 0 ω ω ω
 rw[show((0:Nat):Int)=0 from rfl]at e
 rw[e,ag,h,bY]
theorem EN(N:Nat)(hN:4000000≤N)(c:aj){b:ar}(w:lU b)(hB:cD c b=true){l:e8}(hk: ∀t∈l,cC t)(S9: ∀t∈l,dD c b t=true)(hl:l.length≤200):
  nT.vd N N b (fP,(fQ,(cj,(cj,(eH,(fv,())))))) [] [] l (l.length:Int) 0=some (cv b (eG l) (eW b l)):=by
 obtain⟨hr,hs⟩:=fK hB
 obtain⟨HN,BQ⟩:=iy hB
 have gs:=Bi hk hl
 have JQ: ∀t∈l,t.2.2.1.toNat<b.2.2.2.2.1.length∧bJ t.2.2.1 b.2.2.2.2.1.length=true:=λt ht=>by
  have h:=S9 t ht
  unfold dD at h
  have dv:=bH (dQ.1 (dQ.1 h).2).2
  have hJ:=(hk t ht).2.2.2.1
  have g: ∀x:Int,(0≤x∧x<6)→sy x c.1.length→x.toNat<b.2.2.2.2.1.length∧bJ x b.2.2.2.2.1.length=true:=λx _ h=>by unfold sy at h;exact⟨ω,aE ω ω⟩
  exact g _ hJ dv
 have fi: ∀t∈l,cC t∧cg (gr b t):=λt ht=>⟨hk t ht,ou BQ (JQ t ht).1⟩
 have:=hZ l g9 (λn i (z:ak×ak)=>nT.vd N n b (fP,(fQ,(cj,(cj,(eH,(fv,())))))) z.1 (z.2.map eu) l (l.length:Int) i)
  (λu z=>some (cv b (eG l) (eW b l)))
  (λi z=>z.1++eG (l.drop i)=eG l∧z.2++eW b (l.drop i)=eW b l)
  (λn i z hi hI Ek=> ?_) (λn z hI=> ?_) l.length N 0 ([],[]) ω ω ω ⟨rfl,rfl⟩
 ·exact this
 ·unfold nT.vd nT.ua
  obtain⟨i1,i2⟩:=hI
  have hls:=pd l
  have hle:=pe b l
  have z1:z.1.length≤400:=by rw[←i1,aC]at hls;omega
  have z2:z.2.length≤400:=by rw[←i2,aC]at hle;omega
  have hm:l.getD i g9∈l:=by
   rw[aR,bc hi];exact c6 hi
  have ht:=hk _ hm
  have hn:=JQ _ hm
  have hp:=(fi _ hm).2
  rw[drop_cons hi g9,kS]at i1
  rw[drop_cons hi g9,nF]at i2
  rw[az ω,aa,aE ω ω,aa,aw,ay (x:=(i:Int)+1) ω ω,ah i]
  generalize l.getD i g9=t at*
  have hq:=ht.2.2.2.2.1
  have e0:W .i64 (0-t.2.2.2.1)=0-t.2.2.2.1:=by
   have g: ∀d:Int,1≤d∧d≤1000000000→W .i64 (0-d)=0-d:=λd _=>ay ω ω
   exact g _ hq
  rw[e0]
  dsimp only
  have SP:Me N t (b.2.2.2.2.1.getD t.2.2.1.toNat 0)=some ((iU t (gr b t)).map eu,0):=G4 N ω ht hp
  have yf:=sB t (gr b t)
  rw[bo (by rw[aL,aQ];omega),aa,hn.2,aa,SP,ag,bo (by rw[bI,bI];omega),aa]
  have:=Ek (z.1++[(t.1,(t.2.2.1,(t.2.2.2.1,()))),(t.2.1,(t.2.2.1,((0-t.2.2.2.1:Int),())))],z.2++iU t (gr b t)) ⟨by rw[←i1,aT];rfl,by rw[←i2,aT]⟩
  rw[cH]at this
  exact this
 ·unfold nT.vd nT.ua
  obtain⟨i1,i2⟩:=hI
  rw[pQ]at i1 i2
  have e1:z.1=eG l:=by rw[←i1];exact(bF _).symm
  have e2:z.2=eW b l:=by rw[←i2];exact(bF _).symm
  rw[av ω,an,e1,e2,EH N ω w.w hr hs w.r w.s gs (Bj fi hl),ag]
theorem uk{f:Bool}{a:Int}{r:Option (ar×Int)}:cond (!bf a 0) (cond (!f) (some ((fP,(fQ,(cj,(cj,(eH,(fv,())))))),(3:Int))) r) r=if(f||decide (eR a 0))=true then r else some ((fP,(fQ,(cj,(cj,(eH,(fv,())))))),(3:Int)):=by
 rw[cond_not,au,cond_not]
 by_cases h:a=0
 ·rw[ae h,aD (show eR a 0 from h),Bool.or_true,ae rfl]
 ·rw[af h,aP (show ¬eR a 0 from h),n3]
  cases f<;>rfl
theorem Bl(N:Nat)(hN:4000000≤N)(c:aj){b:ar}(w:lU b){l:e8}(hl:l.length≤100000):nT N c b l=some (mS c b l):=by
 unfold nT nT.b mS
 rw[rq N hN w.w,ag,cond_not,bb,G5 N hl ω,ag,cond_not]
 by_cases hB:cD c b=false
 ·rw[hB];rfl
 rw[nY]at hB
 rw[hB,aa,ae rfl]
 by_cases G3:l.length≤200
 ·rw[af ω,ae G3]
  by_cases hk:l.all (λt=>decide (cC t))=false
  ·rw[hk];rfl
  rw[nY]at hk
  rw[hk,aa,ae rfl]
  have uH: ∀t∈l,cC t:=λt ht=>bH (lJ.1 hk t ht)
  have key: ∀(m n i:Nat),l.length-i≤m→m<n→i≤l.length→(∀j,j<i→dD c b (l.getD j g9)=true)→nT.l4 N n l c b (fP,(fQ,(cj,(cj,(eH,(fv,())))))) l (l.length:Int) (i:Int)=some (if l.all (dD c b)then cv b (eG l) (eW b l)else((fP,(fQ,(cj,(cj,(eH,(fv,())))))),3)):=by
   intro m n
   induction n generalizing m with
   |zero=>intro i _ hn;omega
   |succ n ih=>
    intro i hm hn hi hj
    unfold nT.l4 nT.de
    by_cases h:i<l.length
    ·have mD:dD c b (l.getD i g9)=false→some ((fP,(fQ,(cj,(cj,(eH,(fv,())))))),(3:Int))=some (if l.all (dD c b)then cv b (eG l) (eW b l)else((fP,(fQ,(cj,(cj,(eH,(fv,())))))),3)):=λhf=>by
      have:l.all (dD c b)=false:=by
       rw[List.all_eq_false]
       refine⟨l.getD i g9,?_,by rw[hf];decide⟩
       rw[aR,bc h];exact c6 h
      rw[this];rfl
     have Xs:dD c b (l.getD i g9)=true→ ∀j,j<i+1→dD c b (l.getD j g9)=true:=λh j Q6=>by
      by_cases e:j=i
      ·rw[e];exact h
      ·exact hj j ω
     rw[az ω,aa,aE ω ω,aa,aw,u9 N b w.w.a ω,u9 N b w.w.a ω,ay (x:=(i:Int)+1) ω ω,ah i]
     simp only[ag]
     rw[uk,uk,aX]
     generalize l.getD i g9=t at*
     unfold dD at mD Xs
     by_cases h1:((dU b.2.1 t.1).2||decide (eR t.1 0))=true
     ·rw[ae h1]
      by_cases h2:((dU b.2.1 t.2.1).2||decide (eR t.2.1 0))=true
      ·rw[ae h2]
       by_cases h3:(c.1.length:Int)≤t.2.2.1
       ·rw[ae h3]
        exact mD (by rw[h1,h2,aP (show ¬sy t.2.2.1 c.1.length from λh=>by unfold sy at h;exact absurd h (mu.2 h3))];rfl)
       ·rw[af h3]
        exact ih (m-1) (i+1) ω ω ω (Xs (by rw[h1,h2,aD (show sy t.2.2.1 c.1.length from n7.1 h3)];rfl))
      ·rw[af h2]
       exact mD (by rw[gN]at h2;rw[h1,h2];rfl)
     ·rw[af h1]
      exact mD (by rw[gN]at h1;rw[h1];rfl)
    ·have S9: ∀t∈l,dD c b t=true:=λt ht=>by
      obtain⟨k,hk,e⟩:=iz ht
      have:=hj k ω
      rw[aR,bc hk]at this
      rw[←e];exact this
     rw[av ω,an,lJ.2 S9,ae rfl]
     exact EN N hN c w hB uH S9 G3
  exact key l.length N 0 ω ω ω (λj hj=>absurd hj ω)
 ·rw[ae ω,af G3]
end VM
end
section
namespace VM
open Go VM.F
end VM
end
section
namespace VM
open Go VM.F
end VM
end
section
namespace VM
open Go VM.F
end VM
end
section
namespace VM
open Go VM.F
end VM
end
section
namespace VM
open Go VM.F
theorem rz{a b:Int}: ∀{l:ak},nW (l.map keyOf)→jy a b l=bS a b l
 |[],_=>rfl
 |x::t,h=>by
  obtain⟨h1,h2⟩:=ez.1 h
  rw[lV,iR,←rz h2]
  by_cases e1:x.1=a
  ·by_cases e2:x.2.1=b
   ·have hz:bS a b t=0:=gH λy hy e=>by
     have hk:=h1 (keyOf y) (dF hy)
     have he:keyOf y=keyOf x:=ff (e.1.trans e1.symm) (e.2.trans e2.symm)
     rw[he]at hk
     exact ko hk
    rw[ae e1,ae e2,ae ⟨e1,e2⟩,rz h2,hz,iD];rfl
   ·rw[ae e1,af e2,af (λh=>e2 h.2),pY]
  ·rw[af e1,af (λh=>e1 h.1),pY]
end VM
end
section
namespace VM
open Go VM.F
end VM
end
section
namespace VM
open Go VM.F
end VM
end
section
namespace VM
open Go VM.F
theorem OX(N:Nat){x:Int}(h:bO x)(hx:x≠ -170141183460469231731687303715884105728):F80 N (bp x)=some (bp (-x),true):=by
 unfold F80 G6 bp
 unfold bO at h
 dsimp only
 have hp:0≤x%18446744073709551616∧x%18446744073709551616<18446744073709551616:=ω
 have hh: -9223372036854775808≤x/18446744073709551616∧x/18446744073709551616<9223372036854775808:=ω
 rw[kD,kD,iu N ω ω ω ω ω ω,ag]
 dsimp only
 have hb:(0:Int)≤(if(0:Int)<x%18446744073709551616+0 then 1 else 0)∧(if(0:Int)<x%18446744073709551616+0 then(1:Int)else 0)≤1:=by split<;>omega
 rw[iu N ω ω ω ω hb.1 hb.2,ag]
 dsimp only
 have key: ∀{z:aS},z=bp (-x)→((some (z,true):Option (aS×Bool)).bind λr1=>some (r1.1,r1.2))=some (bp (-x),true):=λe=>by rw[e];rfl
 have e3:W .i64 ((0%18446744073709551616-x/18446744073709551616%18446744073709551616-(if(0:Int)<x%18446744073709551616+0 then 1 else 0))%18446744073709551616)=(-x)/18446744073709551616:=by
  by_cases h0:x%18446744073709551616=0
  ·rw[af (show ¬(0:Int)<x%18446744073709551616+0 by omega),eg];split<;>omega
  ·rw[ae (show(0:Int)<x%18446744073709551616+0 by omega),eg];split<;>omega
 have e1:(0-x%18446744073709551616-0)%18446744073709551616=(-x)%18446744073709551616:=ω
 rw[e3,e1]
 simp only[kF,nJ]
 by_cases a:x/18446744073709551616<0
 ·have c: ¬(-x)/18446744073709551616<0:=ω
  rw[aP (show ¬(0:Int)<0 by omega),aD a,aP c]
  exact key rfl
 ·rw[aP (show ¬(0:Int)<0 by omega),aP a]
  exact key rfl
theorem Ir(N:Nat){x:Int}(h:bO x)(hx:x≠ -170141183460469231731687303715884105728):G7 N (bp x)=some (bp (x.natAbs:Int),true):=by
 unfold G7
 have e:(bp x).1=x/18446744073709551616:=rfl
 rw[e]
 by_cases h0:x<0
 ·rw[az (show x/18446744073709551616<0 by omega),aa,OX N h hx,ag,show(x.natAbs:Int)= -x by omega]
 ·rw[av (show 0≤x/18446744073709551616 by omega),an,show(x.natAbs:Int)=x by omega]
end VM
end
section
namespace VM
open Go VM.F
end VM
end
section
namespace VM
open Go VM.F
end VM
end
section
namespace VM
open Go VM.F
def EO(x:sw)(z:Int×Int):Int×Int:=if x.2.2.2.1=1 then(z.1+x.2.2.2.2.1,z.2)else(z.1,z.2+x.2.2.2.2.1)
def Tb(a k:Int):bx→Int×Int→Int×Int
 |[],z=>z
 |x::t,z=>Tb a k t (if x.2.1=a∧x.2.2.1=k then EO x z else z)
theorem zi(a k:Int)(x:sw)(t:bx)(z:Int×Int):Tb a k (x::t) z=Tb a k t (if x.2.1=a∧x.2.2.1=k then EO x z else z):=rfl
def nz(i:Int)(z:Int×Int):dJ:=(i,(z.1,(z.2,())))
def Is(f:Int→Int×Int):Nat→Nat→ak
 |0,_=>[]
 |m+1,k=>if 0<(f (k:Int)).1+(f (k:Int)).2 then nz (k:Int) (f (k:Int))::Is f m (k+1)else Is f m (k+1)
theorem qK(f:Int→Int×Int)(m k:Nat):Is f (m+1) k=if 0<(f (k:Int)).1+(f (k:Int)).2 then nz (k:Int) (f (k:Int))::Is f m (k+1)else Is f m (k+1):=rfl
def CU(l:bx)(a k:Int):Int×Int:=Tb a k l (0,0)
def iG(l:bx)(a:Int):ak:=Is (CU l a) 6 0
theorem It(f:Int→Int×Int): ∀m k,(Is f m k).length≤m
 |0,_=>aB _
 |m+1,k=>by
  rw[qK]
  have:=It f m (k+1)
  split
  ·rw[aL];omega
  ·omega
theorem Mf(f:Int→Int×Int): ∀m k,∀x∈Is f m k,(k:Int)≤x.1
 |0,_,x,hx=>nomatch hx
 |m+1,k,x,hx=>by
  rw[qK]at hx
  have ih:=Mf f m (k+1) x
  split at hx
  ·rcases aV.1 hx with rfl|hx
   ·exact jk _
   ·have:=ih hx;omega
  ·have:=ih hx;omega
def JS(l:bx):Prop:= ∀x∈l,1≤x.2.2.2.2.1∧x.2.2.2.2.1≤1000000000
theorem Ck{l:bx}(h:JS l){i:Nat}(hi:i<l.length):1≤(l.getD i fZ).2.2.2.2.1∧(l.getD i fZ).2.2.2.2.1≤1000000000:=h _ (by
 rw[aR,bc hi];exact c6 hi)
def xi(z:Int×Int)(n:Nat):Prop:=0≤z.1∧z.1≤1000000000*(n:Int)∧0≤z.2∧z.2≤1000000000*(n:Int)
theorem Iu{x:sw}{z:Int×Int}{n:Nat}(hq:1≤x.2.2.2.2.1∧x.2.2.2.2.1≤1000000000)(h:xi z n):xi (EO x z) (n+1):=by
 have g: ∀q:Int,1≤q∧q≤1000000000→xi (z.1+q,z.2) (n+1)∧xi (z.1,z.2+q) (n+1):=λq hq=>by unfold xi at*;dsimp only;omega
 have gx:=g _ hq
 unfold EO
 split
 ·exact gx.1
 ·exact gx.2
theorem xi.mono{z:Int×Int}{n m:Nat}(h:xi z n)(hm:n≤m):xi z m:=by unfold xi at*;omega
theorem Mg{a k:Int}: ∀{l:bx} {z:Int×Int} {n:Nat},JS l→xi z n→xi (Tb a k l z) (n+l.length)
 |[],z,n,_,h=>h
 |x::t,z,n,hq,h=>by
  have hx:=hq x (bg ..)
  rw[zi,aL,show n+(t.length+1)=n+1+t.length by omega]
  refine Mg (λy hy=>hq y (aU _ hy)) ?_
  split
  ·exact Iu hx h
  ·exact xi.mono h ω
theorem Cl{l:bx}(h:JS l)(a k:Int):xi (CU l a k) l.length:=by
 have:=Mg (a:=a) (k:=k) (z:=(0,0)) (n:=0) h (by unfold xi;dsimp only;omega)
 rw[dG]at this;exact this
theorem zj{l:bx}(h:dk l=true):JS l∧l.length≤32:=by
 unfold dk at h
 rw[ba]at h
 refine⟨λx hx=> ?_,bH h.2⟩
 obtain⟨i,hi,e⟩:=iz hx
 have:=bH h.1 i hi
 unfold nA at this
 have h1:=this.1
 rw[aR,bc hi,pR,e]at h1
 unfold qE at h1
 exact h1.2.2.2.2.1
end VM
end
section
namespace VM
open Go VM.F
theorem Mh{x:sw}{z:Int×Int}{n:Nat}(hn:n≤1000)(hq:1≤x.2.2.2.2.1∧x.2.2.2.2.1≤1000000000)(hz:xi z n)(k:Int):
  (x.2.2.2.1=1→((k,(W .i64 (z.1+x.2.2.2.2.1),(z.2,()))):dJ)=nz k (EO x z))∧(¬x.2.2.2.1=1→((k,(z.1,(W .i64 (z.2+x.2.2.2.2.1),()))):dJ)=nz k (EO x z)):=by
 have g: ∀q:Int,1≤q∧q≤1000000000→W .i64 (z.1+q)=z.1+q∧W .i64 (z.2+q)=z.2+q:=λq hq=>by
  unfold xi at hz
  exact⟨ay ω ω,ay ω ω⟩
 have gx:=g _ hq
 unfold EO nz
 exact⟨λh=>by rw[gx.1,ae h],λh=>by rw[gx.2,af h]⟩
theorem wq(N:Nat){F:dJ→Option ak}{G:Nat→dJ→Int→Option ak}(l:bx)(a k:Int)(hq:JS l)(hl:l.length≤1000)(hN:l.length<N)
  (hs: ∀n i z r,i<l.length→xi z i→G n (nz k (if(l.getD i fZ).2.1=a∧(l.getD i fZ).2.2.1=k then EO (l.getD i fZ) z else z)) ((i+1:Nat):Int)=r→G (n+1) (nz k z) (i:Int)=r)
  (he: ∀n z,xi z l.length→G (n+1) (nz k z) (l.length:Int)=F (nz k z)):G N (nz k (0,0)) 0=F (nz k (CU l a k)):=by
 have:=hZ l fZ (λn i (z:Int×Int)=>G n (nz k z) i) (λt z=>F (nz k (Tb a k t z))) (λi z=>xi z i) (λn i z hi hz hr=> ?_) (λn z hz=>he n z hz) l.length N 0 (0,0) ω hN ω (by unfold xi;decide)
 ·exact this
 ·rw[zi]
  refine hs n i z _ hi hz (hr _ ?_)
  split
  ·exact Iu (Ck hq hi) hz
  ·exact xi.mono hz ω
theorem qL{F:Nat→ak→Int→Option ak}(f:Int→Int×Int)
  (hs: ∀(n k:Nat) (out:ak) (r:Option ak),k<6→out.length≤k→F n (if 0<(f (k:Int)).1+(f (k:Int)).2 then out++[nz (k:Int) (f (k:Int))]else out) ((k+1:Nat):Int)=r→F (n+1) out (k:Int)=r)
  (he: ∀n out,F (n+1) out 6=some out): ∀(m n k:Nat) (out:ak),k+m=6→m<n→out.length≤k→F n out (k:Int)=some (out++Is f m k)
 |_,0,_,_,_,hn,_=>ω
 |0,n+1,k,out,hk,_,_=>by
  have:k=6:=ω
  subst this
  rw[show Is f 0 6=[]from rfl,bF]
  exact he n out
 |m+1,n+1,k,out,hk,hn,ho=>by
  refine hs n k out _ ω ho ?_
  rw[qL f hs he m n (k+1) _ ω ω (by
   split
   ·rw[aC,aQ];omega
   ·omega),qK]
  split
  ·rw[aT];rfl
  ·rfl
theorem Mi(N:Nat)(hN:200000≤N){l:bx}(hl:l.length≤100000)(a:Int):ej N l a=some (if dk l then iG l a else []):=by
 unfold ej ej.b
 rw[u5 N hl hN,ag]
 by_cases h:dk l=false
 ·rw[h];rfl
 rw[nY]at h
 rw[h,aN,an,ae rfl]
 obtain⟨hq,h32⟩:=zj h
 refine qL (F:=λn out k=>ej.l5 N n l a out k) (CU l a) (λn k out r hk ho hr=> ?_) (λn out=> ?_) 6 N 0 [] ω ω (aB _)
 ·unfold ej.l5 ej.fX
  rw[az ω,aa]
  refine(wq N (G:=λn' x i=>ej.l9 N (ej.l5 N n) n' l a out (k:Int) x (k:Int) l (l.length:Int) i) (F:=λx=>cond (bh 0 (W .i64 (x.2.1+x.2.2.1))) (cond (small (out.length+[x].length)) (ej.l5 N n l a (out++[x]) (W .i64 ((k:Int)+1))) none) (ej.l5 N n l a out (W .i64 ((k:Int)+1)))) l a (k:Int) hq ω ω (λn' i z r' hi hz fN=> ?_) (λn' z hz=> ?_)).trans ?_
  ·unfold ej.l9 ej.OY
   rw[az ω,aa,aE ω ω,aa,aw,cond_not,au,cond_not,au,au,ay (x:=(i:Int)+1) ω ω,ah i]
   have hw:=Mh (n:=i) ω (Ck hq hi) hz (k:Int)
   by_cases h1:(l.getD i fZ).2.1=a
   ·rw[ae h1]
    by_cases h2:(l.getD i fZ).2.2.1=(k:Int)
    ·rw[ae ⟨h1,h2⟩]at fN
     rw[ae h2]
     by_cases h3:(l.getD i fZ).2.2.2.1=1
     ·rw[ae h3,←fN,←hw.1 h3];rfl
     ·rw[af h3,←fN,←hw.2 h3];rfl
    ·rw[af (λh=>h2 h.2)]at fN
     rw[af h2];exact fN
   ·rw[af (λh=>h1 h.1)]at fN
    rw[af h1];exact fN
  ·unfold ej.l9 ej.OY
   rw[av ω,an]
  ·have hz:=Cl hq a (k:Int)
   unfold xi at hz
   show cond (bh 0 (W .i64 ((CU l a (k:Int)).1+(CU l a (k:Int)).2))) _ _=r
   rw[ay (x:=(CU l a (k:Int)).1+(CU l a (k:Int)).2) ω ω,bb,bo (by rw[aQ];omega),aa,ay (x:=(k:Int)+1) ω ω,ah k,←hr]
   split<;>rfl
 ·unfold ej.l5 ej.fX
  rw[av ω,an]
theorem JT(N:Nat)(hN:200000≤N){l:bx}(hq:JS l)(hl:l.length≤1000)(a:Int):eb N l a=some (iG l a):=by
 unfold eb eb.b
 refine qL (F:=λn out k=>eb.l3 N n l a out k) (CU l a) (λn k out r hk ho hr=> ?_) (λn out=> ?_) 6 N 0 [] ω ω (aB _)
 ·unfold eb.l3 eb.zW
  rw[az ω,aa]
  refine(wq N (G:=λn' x i=>eb.l7 N (eb.l3 N n) n' l a out (k:Int) x i) (F:=λx=>cond (bh 0 x.2.1) (cond (small (out.length+[x].length)) (eb.l3 N n l a (out++[x]) (W .i64 ((k:Int)+1))) none) (cond (bh 0 x.2.2.1) (cond (small (out.length+[x].length)) (eb.l3 N n l a (out++[x]) (W .i64 ((k:Int)+1))) none) (eb.l3 N n l a out (W .i64 ((k:Int)+1))))) l a (k:Int) hq ω ω (λn' i z r' hi hz fN=> ?_) (λn' z hz=> ?_)).trans ?_
  ·unfold eb.l7 eb.pA
   rw[az ω,aa,aE ω ω,aa,aa,aa,aa,aa,aw,cond_not,au,cond_not,au,au,ay (x:=(i:Int)+1) ω ω,ah i]
   have hw:=Mh (n:=i) ω (Ck hq hi) hz (k:Int)
   by_cases h1:(l.getD i fZ).2.1=a
   ·rw[ae h1]
    by_cases h2:(l.getD i fZ).2.2.1=(k:Int)
    ·rw[ae ⟨h1,h2⟩]at fN
     rw[ae h2]
     by_cases h3:(l.getD i fZ).2.2.2.1=1
     ·rw[ae h3,←fN,←hw.1 h3];rfl
     ·rw[af h3,←fN,←hw.2 h3];rfl
    ·rw[af (λh=>h2 h.2)]at fN
     rw[af h2];exact fN
   ·rw[af (λh=>h1 h.1)]at fN
    rw[af h1];exact fN
  ·unfold eb.l7 eb.pA
   rw[av ω,an]
  ·have hz:=Cl hq a (k:Int)
   unfold xi at hz
   show cond (bh 0 (CU l a (k:Int)).1) _ (cond (bh 0 (CU l a (k:Int)).2) _ _)=r
   rw[bb,bb,bo (by rw[aQ];omega),aa,ay (x:=(k:Int)+1) ω ω,ah k,←hr]
   by_cases h0:0<(CU l a (k:Int)).1+(CU l a (k:Int)).2
   ·rw[ae h0]
    by_cases h1:0<(CU l a (k:Int)).1
    ·rw[ae h1]
    ·rw[af h1,ae ω]
   ·rw[af h0,af ω,af ω]
 ·unfold eb.l3 eb.zW
  rw[av ω,an]
def CV(z:Int×Int):Prop:=0≤z.1∧z.1≤33000000000∧0≤z.2∧z.2≤33000000000
def xj(a b s n:Int)(i:Nat)(p:Int):Prop:=0≤a∧a<n∧0≤b∧b≤33000000000∧0≤s∧s≤33000000000∧(b=0→s≠0)∧(0<i→p<a)
instance(a b s n:Int)(i:Nat)(p:Int):Decidable (xj a b s n i p):=by unfold xj;infer_instance
def pf(c:aj)(l:ak)(i:Nat):Prop:=xj (l.getD i aH).1 (l.getD i aH).2.1 (l.getD i aH).2.2.1 c.1.length i (l.getD (i-1) aH).1
instance(c:aj)(l:ak):DecidablePred (pf c l):=λi=>by unfold pf;infer_instance
def ec(c:aj)(l:ak):Bool:=decide (∀j,j<l.length→pf c l j)&&eF c
def zk(k:Int):aW→Int→Int
 |[],z=>z
 |x::t,z=>zk k t (if x.1=k then x.2.1 else z)
theorem sC(k:Int)(x:GL)(t:aW)(z:Int):zk k (x::t) z=zk k t (if x.1=k then x.2.1 else z):=rfl
def qM(k:Int):ak→Int×Int→Int×Int
 |[],z=>z
 |x::t,z=>qM k t (if x.1=k then(x.2.1,x.2.2.1)else z)
theorem sD(k:Int)(x:dJ)(t:ak)(z:Int×Int):qM k (x::t) z=qM k t (if x.1=k then(x.2.1,x.2.2.1)else z):=rfl
theorem EP(k:Int): ∀{l:aW} {z:Int},(∀y∈l,bk y.2.1)→bk z→bk (zk k l z)
 |[],z,_,h=>h
 |x::t,z,hl,h=>by
  rw[sC]
  refine EP k (λy hy=>hl y (aU _ hy)) ?_
  split
  ·exact hl x (bg ..)
  ·exact h
theorem ES(k:Int): ∀{l:ak} {z:Int×Int},(∀x∈l,CV (x.2.1,x.2.2.1))→CV z→CV (qM k l z)
 |[],z,_,h=>h
 |x::t,z,hl,h=>by
  rw[sD]
  refine ES k (λy hy=>hl y (aU _ hy)) ?_
  split
  ·exact hl x (bg ..)
  ·exact h
theorem Cm{c:aj}{l:ak}(h:ec c l=true): ∀x∈l,CV (x.2.1,x.2.2.1):=λx hx=>by
 unfold ec at h
 rw[ba]at h
 obtain⟨i,hi,e⟩:=iz hx
 have h1:=bH h.1 i hi
 unfold pf at h1
 rw[aR,bc hi,pR,e]at h1
 unfold xj at h1
 exact⟨h1.2.2.1,h1.2.2.2.1,h1.2.2.2.2.1,h1.2.2.2.2.2.1⟩
def um(q:Int)(z:Int×Int):Int:=if((q+z.1).natAbs:Int)<((q-z.2).natAbs:Int)then((q-z.2).natAbs:Int)else((q+z.1).natAbs:Int)
theorem Mj{q:Int}{z:Int×Int}(hq:bk q)(hz:CV z):0≤um q z∧um q z≤9223372069854775808:=by
 unfold um CV bk at*
 split<;>omega
def uq(l:aW)(o:ak)(k:Int):Int:=um (zk k l 0) (qM k o (0,0))
def wu(c:aj)(l:aW)(o:ak)(k:Int):Int×Int:=
 if jX c l&&ec c o then(if 0≤k∧k<(c.1.length:Int)then(uq l o k,0)else(0,3))else(0,1)
theorem ur{c:aj}{l:aW}{o:ak}(ho:ec c o=true)(jV: ∀y∈l,bk y.2.1)(k:Int):0≤uq l o k∧uq l o k≤9223372069854775808:=
 Mj (EP k jV (show bk 0 by unfold bk;omega)) (ES k (Cm ho) (by unfold CV;decide))
def jA(c:aj)(i:Nat):Int:=(c.1.getD i bQ).2.2.1
theorem xk{c:aj}(h:eF c=true){i:Nat}(hi:i<c.1.length):0≤jA c i∧jA c i≤1000000000:=by
 unfold eF at h
 simp only[ba]at h
 have:=bH h.2.1 i hi
 unfold la nx at this
 exact this.2.2.1
def jB(c:aj)(l:aW)(o:ak):Nat→Int
 |0=>0
 |n+1=>jB c l o n+uq l o (n:Int)*jA c n
def pg(c:aj)(l:aW)(o:ak):Nat→List Int
 |0=>[]
 |n+1=>pg c l o n++[uq l o (n:Int)*jA c n]
theorem zl(c:aj)(l:aW)(o:ak): ∀n,(pg c l o n).sum=jB c l o n
 |0=>rfl
 |n+1=>by
  show(pg c l o n++[uq l o (n:Int)*jA c n]).sum=jB c l o n+uq l o (n:Int)*jA c n
  rw[n0,zl c l o n,eA,jj,iD]
theorem sE(c:aj)(l:aW)(o:ak): ∀n,(pg c l o n).length=n
 |0=>rfl
 |n+1=>by
  show(pg c l o n++[uq l o (n:Int)*jA c n]).length=n+1
  rw[aC,sE c l o n];rfl
def gW(c:aj)(l:aW)(o:ak):Int×Int:=
 if jX c l&&ec c o then(jB c l o c.1.length,0)else(0,1)
theorem xl{a b:Int}(ha:0≤a∧a≤9223372069854775808)(hb:0≤b∧b≤1000000000):0≤a*b∧a*b≤9223372069854775808000000000:=
 ⟨s8 ha.1 hb.1,mo (Int.mul_le_mul ha.2 hb.2 hb.1 δ) δ⟩
theorem rA{c:aj}{l:aW}{o:ak}(hp:eF c=true)(ho:ec c o=true)(jV: ∀y∈l,bk y.2.1): ∀n,n≤c.1.length→0≤jB c l o n∧jB c l o n≤9223372069854775808000000000*(n:Int)
 |0,_=>⟨jk _,jk _⟩
 |n+1,hn=>by
  have ih:=rA hp ho jV n ω
  have h1:=xl (ur ho jV (n:Int)) (xk hp (i:=n) ω)
  show 0≤jB c l o n+uq l o (n:Int)*jA c n∧jB c l o n+uq l o (n:Int)*jA c n≤_
  omega
theorem fL{c:aj}{l:ak}(h:ec c l=true):eF c=true:=by
 unfold ec at h
 rw[ba]at h;exact h.2
theorem zm{c:aj}(h:eF c=true):c.1.length≤6:=by
 unfold eF at h
 simp only[ba]at h
 exact(bH h.1).2
theorem ET(c:aj){l:aW}(o:ak)(jV: ∀y∈l,bk y.2.1):0≤(gW c l o).1∧(gW c l o).1≤60000000000000000000000000000:=by
 unfold gW
 by_cases h:(jX c l&&ec c o)=true
 ·rw[ae h]
  rw[ba]at h
  have:=rA (fL h.2) h.2 jV c.1.length (aB _)
  have h6:=zm (fL h.2)
  dsimp only
  omega
 ·rw[af h];decide
theorem Rl{P:Prop} [Decidable P]{a b s n p:Int}{r:Option Bool}(h:P↔0≤a∧a<n∧0≤b∧b≤33000000000∧0≤s∧s≤33000000000∧(b=0→s≠0)∧p<a):
  (if a<0 then some false else if n≤a then some false else if b<0 then some false else if 33000000000<b then some false else if s<0 then some false else if 33000000000<s then some false else
   if b=0 then(if s=0 then some false else if a≤p then some false else r)else if a≤p then some false else r)=if P then r else some false:=by
 by_cases hP:P
 ·have:=h.1 hP
  rw[ae hP,af ω,af ω,af ω,af ω,af ω,af ω]
  split
  ·rw[af ω,af ω]
  ·rw[af ω]
 ·rw[af hP]
  have h2:=λh1 h2 h3 h4 h5 h6 h7 h8=>hP (h.2 ⟨h1,h2,h3,h4,h5,h6,h7,h8⟩)
  repeat' split
  all_goals first|rfl|(exfalso;exact h2 ω ω ω ω ω ω ω ω)
theorem Rm{P:Prop} [Decidable P]{a b s n:Int}{r:Option Bool}(h:P↔0≤a∧a<n∧0≤b∧b≤33000000000∧0≤s∧s≤33000000000∧(b=0→s≠0)):
  (if a<0 then some false else if n≤a then some false else if b<0 then some false else if 33000000000<b then some false else if s<0 then some false else if 33000000000<s then some false else
   if b=0 then(if s=0 then some false else r)else r)=if P then r else some false:=by
 by_cases hP:P
 ·have:=h.1 hP
  rw[ae hP,af ω,af ω,af ω,af ω,af ω,af ω]
  split
  ·rw[af ω]
  ·rfl
 ·rw[af hP]
  have h2:=λh1 h2 h3 h4 h5 h6 h7=>hP (h.2 ⟨h1,h2,h3,h4,h5,h6,h7⟩)
  repeat' split
  all_goals first|rfl|(exfalso;exact h2 ω ω ω ω ω ω ω)
theorem zn{c:aj}{l:ak}{i:Nat}(h:0<i):pf c l i↔0≤(l.getD i aH).1∧(l.getD i aH).1<(c.1.length:Int)∧0≤(l.getD i aH).2.1∧(l.getD i aH).2.1≤33000000000∧0≤(l.getD i aH).2.2.1∧(l.getD i aH).2.2.1≤33000000000∧((l.getD i aH).2.1=0→(l.getD i aH).2.2.1≠0)∧(l.getD (i-1) aH).1<(l.getD i aH).1:=
 ⟨λ⟨a,b,c,d,e,f,g,k⟩=>⟨a,b,c,d,e,f,g,k h⟩,λ⟨a,b,c,d,e,f,g,k⟩=>⟨a,b,c,d,e,f,g,λ_=>k⟩⟩
theorem wv{c:aj}{l:ak}{i:Nat}(h: ¬0<i):pf c l i↔0≤(l.getD i aH).1∧(l.getD i aH).1<(c.1.length:Int)∧0≤(l.getD i aH).2.1∧(l.getD i aH).2.1≤33000000000∧0≤(l.getD i aH).2.2.1∧(l.getD i aH).2.2.1≤33000000000∧((l.getD i aH).2.1=0→(l.getD i aH).2.2.1≠0):=
 ⟨λ⟨a,b,c,d,e,f,g,_⟩=>⟨a,b,c,d,e,f,g⟩,λ⟨a,b,c,d,e,f,g⟩=>⟨a,b,c,d,e,f,g,λk=>absurd k h⟩⟩
theorem Bm(N:Nat)(hN:200000≤N)(c:aj){l:ak}(hl:l.length≤100000):kT N c l=some (ec c l):=by
 unfold kT kT.b
 refine e7 (F:=λn i=>kT.l2 N n l c l (l.length:Int) i) (pf c l) (λn i r hi hp hr=> ?_) (λn=> ?_) N ω
 ·unfold kT.l2 kT.dY
  rw[az ω,aa,aE ω ω,aa,aw,ay (x:=(i:Int)+1) ω ω,ah,hr]
  by_cases h0:0<i
  ·have e:W .i64 ((i:Int)-1)=((i-1:Nat):Int):=by rw[ay ω ω];omega
   dsimp only
   rw[az (x:=0) (y:=(i:Int)) ω,e,aw,aE (i:=((i-1:Nat):Int)) ω ω]
   simp only[bb,aX,au,aa]
   have hg:=zn h0 (c:=c) (l:=l)
   exact Rl hg
  ·rw[av (x:=0) (y:=(i:Int)) ω]
   simp only[bb,aX,au,aa,an]
   have hg:=wv h0 (c:=c) (l:=l)
   exact Rm hg
 ·unfold kT.l2 kT.dY
  rw[av ω,an,xc N ω,ag]
theorem zo(N:Nat)(hN:200000≤N)(c:aj){l:ak}(hl:l.length≤100000):kU N c l=some (ec c l):=by
 unfold kU kU.b
 rw[tV N ω,ag]
 have hsc:=e7 (F:=λn i=>kU.l5 N n l c 33000000000 i) (e:=true) (pf c l) (λn i r hi hp hr=> ?_) (λn=> ?_) N (show l.length<N by omega)
 ·rw[jv hsc];unfold ec
  rw[eB,Bool.and_comm]
 ·unfold kU.l5 kU.fX
  rw[az ω,aa,aE ω ω,aa,aw,ay (x:=(i:Int)+1) ω ω,ah,hr]
  by_cases h0:0<i
  ·have e:W .i64 ((i:Int)-1)=((i-1:Nat):Int):=by rw[ay ω ω];omega
   dsimp only
   rw[az (x:=0) (y:=(i:Int)) ω,e,aw,aE (i:=((i-1:Nat):Int)) ω ω]
   simp only[bb,aX,au,aa]
   have hg:=zn h0 (c:=c) (l:=l)
   exact Rl hg
  ·rw[av (x:=0) (y:=(i:Int)) ω]
   simp only[bb,aX,au,aa,an]
   have hg:=wv h0 (c:=c) (l:=l)
   exact Rm hg
 ·unfold kU.l5 kU.fX
  rw[av ω,an]
theorem OZ(N:Nat){u v:Int}(hu:bO u)(hv:bO v)(hs:bO (u-v)):G6 N (bp u) (bp v)=some (bp (u-v),true):=by
 unfold G6 bp
 unfold bO at*
 dsimp only
 have hp:0≤u%18446744073709551616∧u%18446744073709551616<18446744073709551616:=ω
 have hq:0≤v%18446744073709551616∧v%18446744073709551616<18446744073709551616:=ω
 rw[kD,kD,iu N ω ω ω ω ω ω,ag]
 dsimp only
 have hb:(0:Int)≤(if u%18446744073709551616<v%18446744073709551616+0 then 1 else 0)∧(if u%18446744073709551616<v%18446744073709551616+0 then(1:Int)else 0)≤1:=by split<;>omega
 rw[iu N ω ω ω ω hb.1 hb.2,ag]
 dsimp only
 have e3:W .i64 ((u/18446744073709551616%18446744073709551616-v/18446744073709551616%18446744073709551616-(if u%18446744073709551616<v%18446744073709551616+0 then 1 else 0))%18446744073709551616)=(u-v)/18446744073709551616:=by
  by_cases h0:u%18446744073709551616<v%18446744073709551616+0
  ·rw[ae h0,eg];split<;>omega
  ·rw[af h0,eg];split<;>omega
 have e1:(u%18446744073709551616-v%18446744073709551616-0)%18446744073709551616=(u-v)%18446744073709551616:=ω
 rw[e3,e1]
 have key: ∀A B C:Int,A=u/18446744073709551616→B=v/18446744073709551616→C=(u-v)/18446744073709551616→(A<0∧ ¬B<0→C<0)∧(¬A<0∧B<0→ ¬C<0):=λA B C _ _ _=>ω
 have k:=key _ _ _ rfl rfl rfl
 simp only[kF,nJ]
 by_cases a:u/18446744073709551616<0<;>by_cases b:v/18446744073709551616<0
 ·rw[aD a,aD b];rfl
 ·have c:=k.1 ⟨a,b⟩
  rw[aD a,aP b,aD c];rfl
 ·have c:=k.2 ⟨a,b⟩
  rw[aP a,aD b,aP c];rfl
 ·rw[aP a,aP b];rfl
theorem JU(N:Nat){v k:Int}(hv:0≤v∧v≤9223372069854775808)(hk:0≤k∧k≤1000000000):O0 N (bp v) k=some (bp (v*k),true):=by
 unfold O0
 have hm:=xl hv hk
 have h0:v/18446744073709551616=0:=ω
 have h1:v%18446744073709551616=v:=ω
 rw[LJ N ω ω,ag,B2 N ω ω,ag,show(v.natAbs:Int)=v by omega,show(k.natAbs:Int)=k by omega,h0,h1]
 dsimp only
 rw[yS N ω ω ω ω,ag,yS N ω ω ω ω,ag,Int.zero_mul]
 dsimp only
 have e:bp v=((0:Int),(v,())):=by unfold bp;rw[h0,h1]
 generalize v*k=m at*
 rw[qB N ω ω ω ω,ag,e]
 dsimp only
 have e1:(0%18446744073709551616+m/18446744073709551616+0)%18446744073709551616=m/18446744073709551616:=ω
 have e2:(0/18446744073709551616:Int)+(0%18446744073709551616+m/18446744073709551616+0)/18446744073709551616=0:=ω
 rw[e1,e2,dA (x:=0) ω ω,bP,aN,an,av (x:=0) ω,av (x:=k) ω,kF]
 show(lS N false _ _).bind _=_
 rw[sv N ω ω ω ω,ag,show m/18446744073709551616*18446744073709551616+m%18446744073709551616=m by omega]
theorem O1(N:Nat){q:Int}{z:Int×Int}(hq:bk q)(hz:CV z):((Ei N q).bind λr9=>(Ei N z.1).bind λzX=>(Xr N r9 zX).bind λBn=>(Ei N q).bind λAx=>(Ei N z.2).bind λsN=>(G6 N Ax sN).bind λKp=>(G7 N Bn.1).bind λCn=>(G7 N Kp.1).bind λMk=>(Jz N Cn.1 Mk.1).bind λKq=>cond (bh Kq 0) (some (Mk.1,(0:Int))) (some (Cn.1,(0:Int))))=some (bp (um q z),0):=by
 unfold bk CV at*
 have a1:bO q∧bO z.1∧bO z.2∧bO (q+z.1)∧bO (q-z.2):=by unfold bO;omega
 rw[oV N hq.1 hq.2,ag,oV N ω ω,ag,OV N a1.1 a1.2.1 a1.2.2.2.1,ag,ag,oV N ω ω,ag,OZ N a1.1 a1.2.2.1 a1.2.2.2.2,ag,Ir N a1.2.2.2.1 ω,ag,Ir N a1.2.2.2.2 ω,ag,Ii,ag,bb]
 unfold um
 have hs:uz (((q+z.1).natAbs:Int)-((q-z.2).natAbs:Int))<0↔((q+z.1).natAbs:Int)<((q-z.2).natAbs:Int):=by
  unfold uz;split<;>(try split)<;>omega
 by_cases h:((q+z.1).natAbs:Int)<((q-z.2).natAbs:Int)
 ·rw[ae h,ae (hs.2 h)]
 ·rw[af h,af (λk=>h (hs.1 k))]
theorem JV(N:Nat)(hN:200000≤N){o:ak}(uS:o.length≤100000)(ho: ∀x∈o,CV (x.2.1,x.2.2.1))(k:Int){q:Int}(hq:bk q):eX.CT N N k dC q 0 0 o (o.length:Int) 0=some (bp (um q (qM k o (0,0))),0):=by
 have:=hZ o aH (λn i (z:Int×Int)=>eX.CT N n k dC q z.1 z.2 o (o.length:Int) i) (λt z=>some (bp (um q (qM k t z)),(0:Int))) (λi z=>CV z) (λn i z hi hz hr=> ?_) (λn z hz=> ?_) o.length N 0 (0,0) ω ω ω (by unfold CV;decide)
 ·exact this
 ·unfold eX.CT eX.Ce
  rw[az ω,aa,aE ω ω,aa,aw,ay (x:=(i:Int)+1) ω ω,ah i,au,sD]
  by_cases h:(o.getD i aH).1=k
  ·rw[ae h,ae h]
   exact hr ((o.getD i aH).2.1,(o.getD i aH).2.2.1) (ho _ (by rw[aR,bc hi];exact c6 hi))
  ·rw[af h,af h]
   exact hr z hz
 ·unfold eX.CT eX.Ce
  rw[av ω,an]
  exact O1 N hq hz
theorem Tc(N:Nat)(hN:200000≤N)(c:aj){l:aW}(hl:l.length≤100000)(jV: ∀y∈l,bk y.2.1){o:ak}(uS:o.length≤100000)(k:Int):eX N c l o k=some (bp (wu c l o k).1,(wu c l o k).2):=by
 unfold eX eX.b wu
 rw[Ij N hN c hl,ag,cond_not,Bm N hN c uS,ag,cond_not,bb,aX]
 cases h1:jX c l with
 |false=>rfl
 |true=>
  cases h2:ec c o with
  |false=>rfl
  |true=>
   rw[aa,aa,eB,ae rfl]
   by_cases h3:0≤k∧k<(c.1.length:Int)
   ·rw[ae h3,af ω,af ω]
    have:=hZ l dC (λn i (q:Int)=>eX.l7 N n o k dC q 0 0 l (l.length:Int) i) (λt q=>some (bp (um (zk k t q) (qM k o (0,0))),(0:Int))) (λi q=>bk q) (λn i q hi hq hr=> ?_) (λn q hq=> ?_) l.length N 0 0 ω ω ω (by unfold bk;omega)
    ·exact this
    ·unfold eX.l7 eX.pA
     rw[az ω,aa,aE ω ω,aa,aw,ay (x:=(i:Int)+1) ω ω,ah i,au,sC]
     by_cases h:(l.getD i dC).1=k
     ·rw[ae h,ae h]
      exact hr _ (jV _ (by rw[aR,bc hi];exact c6 hi))
     ·rw[af h,af h]
      exact hr q hq
    ·unfold eX.l7 eX.pA
     rw[av ω,an]
     exact JV N hN uS (Cm h2) k hq
   ·rw[af h3]
    by_cases h4:k<0
    ·rw[ae h4];rfl
    ·rw[af h4,ae ω];rfl
theorem Ml(N:Nat)(hN:4000000≤N){q:Int}{z:Int×Int}(hq:bk q)(hz:CV z):((GD N (bU q) (bU z.1)).bind λAx=>(SS N Ax).bind λsN=>(SU N (bU q) (bU z.2)).bind λKp=>(SS N Kp).bind λCn=>(VB N Cn sN).bind λMk=>cond (bh 0 Mk) (some (Cn,(0:Int))) (some (sN,(0:Int))))=some (bU (um q z),0):=by
 unfold bk CV at*
 have f: ∀x:Int,-170141183460469231731687303715884105728≤x→x<170141183460469231731687303715884105728→Fit x 900000:=λx h1 h2=>nE ⟨h1,h2⟩
 rw[kk N hN (f _ ω ω) (f _ ω ω),ag,Eg N hN (f _ ω ω),ag,B5 N hN (f _ ω ω) (f _ ω ω),ag,Eg N hN (f _ ω ω),ag,LD N hN (f _ ω ω) (f _ ω ω),ag,bb]
 unfold um
 have hs:0<uz (((q-z.2).natAbs:Int)-((q+z.1).natAbs:Int))↔((q+z.1).natAbs:Int)<((q-z.2).natAbs:Int):=by
  unfold uz;split<;>(try split)<;>omega
 by_cases h:((q+z.1).natAbs:Int)<((q-z.2).natAbs:Int)
 ·rw[ae h,ae (hs.2 h)]
 ·rw[af h,af (λk=>h (hs.1 k))]
theorem G8(N:Nat)(hN:4000000≤N){o:ak}(uS:o.length≤100000)(ho: ∀x∈o,CV (x.2.1,x.2.2.1))(k:Int){q:Int}(hq:bk q):eY.vd N N o k (bU 0) (bU q) (bU 0) (bU 0) 0=some (bU (um q (qM k o (0,0))),0):=by
 have:=hZ o aH (λn i (z:Int×Int)=>eY.vd N n o k (bU 0) (bU q) (bU z.1) (bU z.2) i) (λt z=>some (bU (um q (qM k t z)),(0:Int))) (λi z=>CV z) (λn i z hi hz hr=> ?_) (λn z hz=> ?_) o.length N 0 (0,0) ω ω ω (by unfold CV;decide)
 ·exact this
 ·unfold eY.vd eY.ua
  rw[az ω,aa,aE ω ω,aa,aa,aw,ay (x:=(i:Int)+1) ω ω,ah i,au,sD]
  by_cases h:(o.getD i aH).1=k
  ·have hx:=ho (o.getD i aH) (by rw[aR,bc hi];exact c6 hi)
   have fN:=hr ((o.getD i aH).2.1,(o.getD i aH).2.2.1) hx
   unfold CV at hx
   rw[ae h,ae h,er N ω (mo δ hx.1) (xD hx.2.1 δ),ag,aa,er N ω (mo δ hx.2.2.1) (xD hx.2.2.2 δ),ag]
   exact fN
  ·rw[af h,af h]
   exact hr z hz
 ·unfold eY.vd eY.ua
  rw[av ω,an]
  exact Ml N hN hq hz
theorem O2(N:Nat)(hN:4000000≤N)(c:aj){l:aW}(hl:l.length≤100000)(jV: ∀y∈l,bk y.2.1){o:ak}(uS:o.length≤100000)(k:Int):eY N c l o k=some (bU (wu c l o k).1,(wu c l o k).2):=by
 unfold eY eY.b wu
 rw[Ex N ω c hl,ag,cond_not,zo N ω c uS,ag,cond_not,bb,aX,←fl]
 cases h1:jX c l with
 |false=>rfl
 |true=>
  cases h2:ec c o with
  |false=>rfl
  |true=>
   rw[aa,aa,eB,ae rfl]
   by_cases h3:0≤k∧k<(c.1.length:Int)
   ·rw[ae h3,af ω,af ω]
    have:=hZ l dC (λn i (q:Int)=>eY.l7 N n l o k (bU 0) (bU q) (bU 0) (bU 0) i) (λt q=>some (bU (um (zk k t q) (qM k o (0,0))),(0:Int))) (λi q=>bk q) (λn i q hi hq hr=> ?_) (λn q hq=> ?_) l.length N 0 0 ω ω ω (by unfold bk;omega)
    ·exact this
    ·unfold eY.l7 eY.pA
     rw[az ω,aa,aE ω ω,aa,aa,aw,ay (x:=(i:Int)+1) ω ω,ah i,au,sC]
     by_cases h:(l.getD i dC).1=k
     ·have hy:=jV (l.getD i dC) (by rw[aR,bc hi];exact c6 hi)
      rw[ae h,ae h,er N ω hy.1 hy.2,ag]
      exact hr _ hy
     ·rw[af h,af h]
      exact hr q hq
    ·unfold eY.l7 eY.pA
     rw[av ω,an]
     exact G8 N hN uS (Cm h2) k hq
   ·rw[af h3]
    by_cases h4:k<0
    ·rw[ae h4]
    ·rw[af h4,ae ω]
theorem Bo{c:aj}{l:aW}{o:ak}(h1:jX c l=true)(h2:ec c o=true){k:Int}(hk:0≤k∧k<(c.1.length:Int)):(wu c l o k).1=uq l o k:=by
 unfold wu
 rw[h1,h2,eB,ae rfl,ae hk]
theorem Mm(N:Nat)(hN:2000000≤N)(c:aj){l:aW}(hl:l.length≤100000)(jV: ∀y∈l,bk y.2.1){o:ak}(uS:o.length≤100000):mU N c l o=some (bp (gW c l o).1,(gW c l o).2):=by
 unfold mU mU.b gW
 rw[Ij N ω c hl,ag,cond_not,Bm N ω c uS,ag,cond_not]
 cases h1:jX c l with
 |false=>rfl
 |true=>
  cases h2:ec c o with
  |false=>rfl
  |true=>
   rw[aa,aa,eB,ae rfl]
   have h6:=zm (fL h2)
   have Xt: ∀i,i<c.1.length→0≤uq l o (i:Int)*jA c i∧uq l o (i:Int)*jA c i≤9223372069854775808000000000:=λi hi=>xl (ur h2 jV (i:Int)) (xk (fL h2) hi)
   have hL: ∀n,n≤c.1.length→ ∀x∈pg c l o n,bO x:=by
    intro n
    induction n with
    |zero=>intro _ x hx;nomatch hx
    |succ n ih=>
     intro hn
     have:=Xt n ω
     exact pb (ih ω) (by unfold bO;omega)
   have hw:=rA (fL h2) h2 jV c.1.length (aB _)
   have key: ∀(m n i:Nat),c.1.length-i≤m→m<n→i≤c.1.length→mU.l5 N n l o c dC ((pg c l o i).map bp) c.1 (c.1.length:Int) (i:Int)=some (bp (jB c l o c.1.length),0):=by
    intro m n
    induction n generalizing m with
    |zero=>intro i _ hn;omega
    |succ n ih=>
     intro i hm hn hi
     unfold mU.l5 mU.fX
     by_cases h:i<c.1.length
     ·have hr:=xk (fL h2) h
      have fN:=hr
      unfold jA at fN
      have ht:=ur h2 jV (i:Int)
      rw[az ω,aa,aE ω ω,aa,Tc N ω c hl jV uS,ag,Bo h1 h2 ⟨ω,ω⟩,aw,JU N ht fN,ag,bo (by rw[bI,sE,aQ];omega),aa,ay (x:=(i:Int)+1) ω ω,ah i]
      have:=ih (m-1) (i+1) ω ω ω
      rw[show pg c l o (i+1)=pg c l o i++[uq l o (i:Int)*jA c i]from rfl,cH]at this
      exact this
     ·have e:i=c.1.length:=ω
      subst e
      rw[av ω,an,xb N (hL _ hi) (by rw[sE];omega) ω,ag,zl]
      unfold Ej
      rw[ae (by unfold bO;omega)]
   exact key c.1.length N 0 ω ω ω
theorem JW(N:Nat)(hN:4000000≤N)(c:aj){l:aW}(hl:l.length≤100000)(jV: ∀y∈l,bk y.2.1){o:ak}(uS:o.length≤100000):mV N c l o=some (bU (gW c l o).1,(gW c l o).2):=by
 unfold mV mV.b gW
 rw[Ex N ω c hl,ag,cond_not,zo N ω c uS,ag,cond_not,←fl]
 cases h1:jX c l with
 |false=>rfl
 |true=>
  cases h2:ec c o with
  |false=>rfl
  |true=>
   rw[aa,aa,eB,ae rfl]
   have h6:=zm (fL h2)
   have f: ∀x:Int,-170141183460469231731687303715884105728≤x→x<170141183460469231731687303715884105728→Fit x 900000:=λx h1 h2=>nE ⟨h1,h2⟩
   have f2: ∀x:Int,0≤x→x≤9223372069854775808→Fit x 80000:=λx h1 h2=>by
    refine Fit.mono (j:=3) ?_ ω
    unfold Fit
    rw[show(4294967296:Nat)^3=79228162514264337593543950336 from rfl]
    omega
   have key: ∀(m n i:Nat),c.1.length-i≤m→m<n→i≤c.1.length→mV.l5 N n l o c (bU 0) (bU (jB c l o i)) (i:Int)=some (bU (jB c l o c.1.length),0):=by
    intro m n
    induction n generalizing m with
    |zero=>intro i _ hn;omega
    |succ n ih=>
     intro i hm hn hi
     unfold mV.l5 mV.fX
     by_cases h:i<c.1.length
     ·have hr:=xk (fL h2) h
      have ht:=ur h2 jV (i:Int)
      have fc:=xl ht hr
      have hw:=rA (fL h2) h2 jV i ω
      have Ni:=f2 _ hr.1 (mo hr.2 δ)
      have hWh:B3 N ((c.1.getD i bQ).2.2.1)=some (bU (jA c i)):=er N ω (mo δ hr.1) (xD hr.2 δ)
      rw[az ω,aa,O2 N ω c hl jV uS,ag,Bo h1 h2 ⟨ω,ω⟩,aE ω ω,aa,aw,hWh,ag,tU N ω ((f2 _ ht.1 ht.2).mono ω) (Ni.mono ω),ag,kk N ω (f _ ω ω) (f _ ω ω),ag,ay (x:=(i:Int)+1) ω ω,ah i]
      exact ih (m-1) (i+1) ω ω ω
     ·have e:i=c.1.length:=ω
      subst e
      rw[av ω,an]
   exact key c.1.length N 0 ω ω ω
theorem rY{c:aj}{b:ar}(h:cD c b=true):dk b.2.2.2.2.2.1=true:=by
 unfold cD at h
 simp only[ba]at h
 exact h.2.2.2.2.2.1
theorem Bp(l:bx)(a:Int):(iG l a).length≤6:=It _ 6 0
def qIn(q:Int):Prop:=1≤q∧q≤1000000000
instance(q:Int):Decidable (qIn q):=by unfold qIn;infer_instance
end VM
end
