/- A part of the proof of AwardPays of layer 25: what the functions compute, in plain words. -/
import Derived.Test.YtocmlaipoebfeaaGreatPlain2
import Derived.Test.YtocmlaipoebfeaaGreatVm6
import Derived.Test.YtocmlaipoebfeaaGreatPlain0
set_option linter.all false
section
namespace VM
open Go VM.F
theorem B0{p:Int}(h: -1152921504606846976≤p∧p≤1152921504606846976):(-9223372036854775808≤p∧p<9223372036854775808)∧(-9223372036854775808≤0-p∧0-p<9223372036854775808):=by omega
theorem Zw(N:Nat)(K:mh.cZ)(l:ay)(b db:ag)(out a7:az)(s e:aj)(w:bn)(h:Int)(i:Nat)(hi:i≤1000)(hs:s.length≤1000)(he:e.length≤1000)(hw: -1152921504606846976≤w.2.2.2.1∧w.2.2.2.1≤1152921504606846976){t:ax}(g:ir t)(hN:2000000≤N):
  mh.vi N K N l b db out s (e.map fP) w h a7 (a7.length:Int) (i:Int) t (t.length:Int) 0=K l b db out (s++dN h t) ((e++xL h w.2.2.2.1).map fP) a7 (a7.length:Int) ((i+1:Nat):Int):=by
 have hlen:=g.len
 have:=pQ t bR (fun n j s=>mh.vi N K n l b db out s (e.map fP) w h a7 (a7.length:Int) (i:Int) t (t.length:Int) j) (fun u s=>K l b db out (s++dN h u) ((e++xL h w.2.2.2.1).map fP) a7 (a7.length:Int) ((i+1:Nat):Int)) (fun j s=>s.length≤1000+2*j)
  (fun n j s hj hI hr=> ?_) (fun n s hI=> ?_) t.length N 0 s (by omega) (by omega) (by omega) (by omega)
 ·exact this
 ·unfold mh.vi mh.sO
  have hm:t.getD j bR∈t:=by
   rw[atD,atI hj];exact aun hj
  have hn:=(aeO (g.q _ hm)).1
  unfold aD at hn
  rw[aK (by omega),atC,aP (by omega) (by omega),atC,atE,ar (x:=(j:Int)+1) (by omega) (by omega),ae j,ar hn.1 hn.2]
  dsimp only
  rw[bF (by rw[atN,atG];omega),atC,gE]
  refine(hr _ ?_).trans ?_
  ·rw[atJ,atN,atG];omega
  ·rw[atV];rfl
 ·unfold mh.vi mh.sO
  rw[aH (by omega),atH,ar (x:=0-w.2.2.2.1) (B0 hw).2.1 (B0 hw).2.2,rB N (B0 hw).2.1 (B0 hw).2.2,atB,rB N (B0 hw).1.1 (B0 hw).1.2,atB,bF (by rw[aud,atN,atG];omega),atC,ar (x:=(i:Int)+1) (by omega) (by omega),ae i]
  show _=K l b db out (s++[]) _ _ _ _
  rw[auh,aus]
  rfl
theorem Dd{D T:az}{x:cq}{i:Nat}(h:D.length=i):(D++x::T).getD i ((0:Int),(aS,aC))=x:=by
 subst h;simp
theorem yk{D T:az}{x y:cq}{i:Nat}(h:D.length=i):(D++x::T).set i y=D++y::T:=by
 subst h;simp
theorem vj{D T:az}{x:cq}{i:Nat}(h:D.length=i):i<(D++x::T).length:=by
 rw[atJ,atN];omega
theorem zy{D T:az}{x:cq}:D++x::T=(D++[x])++T:=by rw[atV];rfl
structure zz(l:az):Prop where
 len:w5 l
 q: ∀x∈l,∀y∈x.2.1,aD y.2.1
theorem B1{c:aa}{l:az}(h:iQ c l=true)(w:zz l){i:Nat}(hi:i<l.length):ir (l.getD i ((0:Int),(aS,aC))).2.1:=by
 unfold iQ at h
 have h':=atY (auc.1 (auc.1 (auc.1 h).2).2).1
 have hl:lM c (l.getD i ((0:Int),(aS,aC))).2.1=true:=(h' i hi).2.2.2.1
 refine Ma hl ?_
 have hm:l.getD i ((0:Int),(aS,aC))∈l:=by
  rw[atD,atI hi];exact aun hi
 exact w.q _ hm
theorem zA{c:aa}{l:az}(h:iQ c l=true):l.length≤12:=by
 unfold iQ at h
 exact atY (auc.1 (auc.1 h).2).1
theorem mi{c:aa}{b:ag}(h:cV c b=true):ed b.2.2.1=true∧cP b.2.2.2.1=true:=by
 unfold cV at h
 have h1:=(auc.1 (auc.1 h).2).2
 have h2:=auc.1 h1
 have h3:=(auc.1 (auc.1 h2.2).2).1
 refine⟨h2.1,?_⟩
 unfold rE at h3
 exact(auc.1 h3).2
structure yl(b:ag):Prop where
 w:tG b
 r:b.2.2.1.length≤90000
 s:b.2.2.2.1.length≤90000
theorem FE(N:Nat)(hN:4000000≤N)(c:aa){b:ag}{a7:az}{l:ay}(w:yl b)(hl:l.length≤100000)(K8:a7.length≤100000)(lw:zz a7):
  mh N c b a7 l=some (ou c b a7 l):=by
 unfold mh mh.b ou
 rw[Kc N hN w.w,atB,Sk N (by omega) c K8 lw.len,atB,Ke N hl (by omega),atB,OX N K8 lw.len (by omega),atB,cond_not,cond_not,cond_not]
 by_cases hB:cV c b=false
 ·rw[hB];rfl
 rw[awL]at hB
 rw[hB,atC,atK rfl]
 by_cases hL:iQ c a7=false
 ·rw[hL];rfl
 rw[awL]at hL
 rw[hL,atC,atK rfl]
 by_cases hD:lN l=false
 ·rw[hD];rfl
 rw[awL]at hD
 rw[hD,atC,atK rfl]
 obtain⟨hr,hs⟩:=mi hB
 have QJ:=zA hL
 have:=pQ a7 ((0:Int),(aS,aC)) (fun n i (z:Kp)=>mh.l7 N n l b (aS,(cj,(ba,(ba,(cI,(cL,())))))) (z.2.2++a7.drop i.toNat) z.1 (z.2.1.map fP) a7 (a7.length:Int) i) (fun t z=>some (FB b (IL b l t z))) (fun i z=>ll z i)
  (fun n i z hi I uS=> ?_) (fun n z I=> ?_) a7.length N 0 ([],[],[]) (by omega) (by omega) (by omega) ll.nil
 ·exact this
 ·unfold mh.l7 mh.oe
  have HR:=I.out
  have hle:=I.len
  have aq1:=I.Sl
  rw[atE,drop_cons hi ((0:Int),(aS,aC)),zw]
  generalize hx:a7.getD i ((0:Int),(aS,aC))=x at*
  have hg:ir x.2.1:=by rw[←hx];exact B1 hL lw hi
  rw[aK (by omega),atC,aP (by omega) (by omega),atC,ar (x:=(i:Int)+1) (by omega) (by omega),ae i,cond_not,aI]
  by_cases h1:x.2.2.2.1=1
  ·rw[atK h1,atK h1,Db N hl (by omega),atB,cond_not]
   by_cases h2:(cr l x.1).2=true
   ·have hb:=Dc h2
    unfold qB vY at hb
    rw[h2,atC,atK rfl,Ow N w.w.a (by omega),atB,vV N w.w.m (by omega),atB,aI,aI]
    by_cases h3:eN b.1 (cr l x.1).1.2.2.1=0
    ·rw[atK h3,atK (Or.inl h3)];rfl
    ·rw[atL h3]
     by_cases h4:c6 b.2.1 (cr l x.1).1.2.2.1=0
     ·rw[atK h4,atK (Or.inr h4)];rfl
     ·rw[atL h4,atL (fun h=>h.elim h3 h4),aP (by omega) (by have:=vj (T:=a7.drop (i+1)) (x:=x) HR;omega),atC]
      dsimp only
      rw[Dd HR,yk HR]
      rw[aP (by omega) (by have:=vj (T:=a7.drop (i+1)) (x:=x) HR;rw[atJ,atN]at this ⊢;omega),atC,Dd HR,yk HR]
      rw[aP (by omega) (by have:=vj (T:=a7.drop (i+1)) (x:=x) HR;rw[atJ,atN]at this ⊢;omega),atC,Dd HR,yk HR]
      rw[Zw N _ l b _ _ _ _ _ _ _ i (by omega) (by omega) (by omega) hb.2.2.2 hg (by omega),zy]
      exact uS _ (I.aeP (zx h4) hb.2.2.2 hg _)
   ·rw[avi]at h2
    rw[h2,atH,atL (by decide),aP (by omega) (by have:=vj (T:=a7.drop (i+1)) (x:=x) HR;omega),atC,Dd HR,yk HR,zy]
    exact uS _ (I.pass _)
  ·rw[atL h1,atL h1,zy]
   exact uS _ (I.pass x)
 ·unfold mh.l7 mh.oe
  rw[aH (by omega),atH,atE,avI,auh,OU N (by omega) w.w hr hs w.r w.s (I.aeQ QJ) (I.aeR QJ),atB,cond_not,aI]
  show _=some (FB b (some z))
  unfold FB
  by_cases h:(dM b z.1 z.2.1).2=0
  ·rw[atK h]
   dsimp only
   rw[atK (show fa (dM b z.1 z.2.1).2 0 from h)]
  ·rw[atL h]
   dsimp only
   rw[atL (show ¬fa (dM b z.1 z.2.1).2 0 from h)]
end VM
end
section
namespace VM
open Go VM.F
end VM
end
section
namespace VM
open Go VM.F
theorem OZ(x:Int):aA x x=true:=cz rfl
theorem zB{P:Int→Prop} [DecidablePred P]{f:Int→Int→Int}: ∀{K:List bY} {o:aj},ew P f K=some o→o.length≤K.length
 |[],o,h=>by
  have:some []=some o:=h
  rw[←avd this];exact atP _
 |k::t,o,h=>by
  rw[jc]at h
  by_cases hP:P (f k.1 k.2)
  ·rw[atK hP]at h
   cases hc:ew P f t with
   |none=>rw[hc]at h;exact absurd h (by simp)
   |some r=>
    have ih:=zB hc
    rw[hc]at h
    have h':=avd h
    rw[←h',atN]
    dsimp only
    split
    ·omega
    ·rw[atN];omega
  ·rw[atL hP]at h;exact absurd h (by simp)
theorem IM:jG.length=150:=by decide+kernel
theorem Mb:jW.length=175:=by decide+kernel
structure Xx(b:ag):Prop where
 m:b.1.length≤100000
 a:b.2.1.length≤100000
 r:b.2.2.1.length≤100000
 s:b.2.2.2.1.length≤100000
 p:b.2.2.2.2.1.length≤100000
 o:b.2.2.2.2.2.1.length≤100000
theorem B2:Xx (([]:ax),(([]:ay),(([]:aj),(([]:aj),(([]:List Int),(([]:a6),())))))):=⟨auu _,auu _,auu _,auu _,auu _,auu _⟩
theorem FF{b:ag}(w:tG b)(s e:aj):Xx (dM b s e).1:=by
 unfold dM
 cases h1:ew Fq (fS b.2.2.2.1 s) jG with
 |none=>exact B2
 |some s'=>
  cases h2:ew aD (fS b.2.2.1 e) jW with
  |none=>exact B2
  |some r'=>
   have g1:=zB h1
   have g2:=zB h2
   rw[IM]at g1
   rw[Mb]at g2
   exact⟨w.m,w.a,by show r'.length≤_;omega,by show s'.length≤_;omega,w.p,w.o⟩
end VM
end
section
namespace VM
open Go VM.F Go.RowKit
def gb(a b:Int):aj→Int
 |[]=>0
 |x::t=>if x.1=a then(if x.2.1=b then x.2.2.1 else gb a b t)else gb a b t
theorem gT(a b:Int)(x:cE)(t:aj):gb a b (x::t)=if x.1=a then(if x.2.1=b then x.2.2.1 else gb a b t)else gb a b t:=rfl
def dR(l:aj)(a b:Int):Int:=if cP l then gb a b l else 0
def c0(l:aj)(a b:Int):Int:=if ed l then gb a b l else 0
theorem ss(N:Nat){l:aj}(hl:l.length≤100000)(hN:200000≤N)(a b:Int):s8 N l a b=some (dR l a b):=by
 unfold s8 s8.b dR
 rw[mF N hl hN,atB,cond_not]
 have:=s4 l aZ (fun n i=>s8.l4 N n l a b i) (fun t=>some (gb a b t)) (fun n i hi hr=> ?_) (fun n=> ?_) N (by omega)
 ·rw[this];cases cP l<;>rfl
 ·unfold s8.l4 s8.cY
  rw[aK (by omega),atC,aP (by omega) (by omega),atC,atC,atC,atE,ar (x:=(i:Int)+1) (by omega) (by omega),ae i,hr,aI,aI,gT]
  split
  ·split<;>rfl
  ·rfl
 ·unfold s8.l4 s8.cY
  rw[aH (by omega),atH];rfl
theorem tL(N:Nat){l:aj}(hl:l.length≤100000)(hN:200000≤N)(a b:Int):ov N l a b=some (c0 l a b):=by
 unfold ov ov.b c0
 rw[zf N hl hN,atB,cond_not]
 have:=s4 l aZ (fun n i=>ov.l4 N n l a b i) (fun t=>some (gb a b t)) (fun n i hi hr=> ?_) (fun n=> ?_) N (by omega)
 ·rw[this];cases ed l<;>rfl
 ·unfold ov.l4 ov.cY
  rw[aK (by omega),atC,aP (by omega) (by omega),atC,atC,atC,atE,ar (x:=(i:Int)+1) (by omega) (by omega),ae i,hr,aI,aI,gT]
  split
  ·split<;>rfl
  ·rfl
 ·unfold ov.l4 ov.cY
  rw[aH (by omega),atH];rfl
def kC:aa:=([((0:Int),((100:Int),bR))],((0:Int),((0:Int),((0:Int),((0:Int),((1:Int),((0:Int),())))))))
def kS:aj:=[((0:Int),((0:Int),((5:Int),()))),((2:Int),((0:Int),((-5:Int),())))]
def kM:ax:=[((1:Int),((1:Int),())),((2:Int),((1:Int),()))]
def kA:ay:=[((1:Int),((1:Int),((1:Int),((0:Int),())))),((2:Int),((2:Int),((1:Int),((0:Int),()))))]
def kB:ag:=(kM,(kA,(ba,(kS,([(100:Int)],(cL,()))))))
def kL:az:=[((3:Int),([((0:Int),((3:Int),()))],((0:Int),((1:Int),bR)))),((4:Int),([((0:Int),((2:Int),()))],((0:Int),((1:Int),bR))))]
def kD:ay:=[((1:Int),((3:Int),((1:Int),((5:Int),())))),((2:Int),((3:Int),((2:Int),((5:Int),()))))]
def kE:ag×az×Int:=
 ((kM,(kA,([((2:Int),((0:Int),((5:Int),()))),((5:Int),((1:Int),((-5:Int),())))],([((0:Int),((0:Int),((2:Int),()))),((1:Int),((0:Int),((3:Int),()))),((2:Int),((0:Int),((-5:Int),())))],([(100:Int)],(cL,())))))),
  ([((3:Int),([((0:Int),((3:Int),()))],((0:Int),((2:Int),((1:Int),((5:Int),())))))),((4:Int),([((0:Int),((2:Int),()))],((0:Int),((3:Int),bR))))],0))
theorem aeS:ou kC kB kL kD=kE:=by kernel_rfl
theorem kB1:cr kD 3=(((1:Int),((3:Int),((1:Int),((5:Int),())))),true):=by decide+kernel
theorem kB2:cr kD 4=(aC,false):=by decide+kernel
theorem Sm{l:aj}(h: ∀i,i<l.length→aD (eO (l.getD i aZ))):eF l:=fun x hx=>by
 obtain⟨i,hi,e⟩:=auD hx
 have:=h i hi
 rw[atD,atI hi]at this
 rw[←e];exact this
theorem kW:yl kB:=⟨⟨by decide,by decide,by decide,by decide,by decide,by decide,fun x hx=>(nomatch hx),Sm (l:=kS) (by decide)⟩,by decide,by decide⟩
theorem kLW:zz kL:=⟨fun x hx=>by
 have:x.2.1.length=1:=by
  rcases atZ.1 hx with rfl|hx
  ·rfl
  ·rw[at2.1 hx];rfl
 omega,fun x hx y hy=>by
 rcases atZ.1 hx with rfl|hx
 ·rw[at2.1 hy];exact⟨by decide,by decide⟩
 ·rw[at2.1 hx]at hy
  rw[at2.1 hy];exact⟨by decide,by decide⟩⟩
theorem Zx:dR kE.1.2.2.2.1 1 0=3:=by decide+kernel
theorem Zy:dR kE.1.2.2.2.1 0 0=2:=by decide+kernel
theorem aeT:c0 kE.1.2.2.1 2 0=5:=by decide+kernel
theorem aeU:c0 kE.1.2.2.1 5 1= -5:=by decide+kernel
theorem Mc(N:Nat)(hN:5000000≤N):F12 N=some true:=by
 unfold F12 F51
 rw[atB]
 show(vg N kD 3).bind _=_
 rw[Db N (by decide) (by omega),atB,kB1]
 show(vg N kD 4).bind _=_
 rw[Db N (by decide) (by omega),atB,kB2]
 show(mh N kC kB kL kD).bind _=_
 rw[FE N (by omega) kC kW (by decide) (by decide) kLW,atB,aeS]
 have h1:s8 N kE.1.2.2.2.1 1 0=some 3:=by rw[ss N (by decide) (by omega),Zx]
 have h2:s8 N kE.1.2.2.2.1 0 0=some 2:=by rw[ss N (by decide) (by omega),Zy]
 have h3:ov N kE.1.2.2.1 2 0=some 5:=by rw[tL N (by decide) (by omega),aeT]
 have h4:ov N kE.1.2.2.1 5 1=some (-5):=by rw[tL N (by decide) (by omega),aeU]
 rw[h1,h2,h3,h4]
 simp only[atB,OZ]
 have e1:aA kE.2.2 0=true:=cz rfl
 have e2:aA (kE.2.1.length:Int) 2=true:=cz rfl
 have e3:aM 0 kE.2.1.length=true:=aP (by decide) (by decide)
 have e4:aM 1 kE.2.1.length=true:=aP (by decide) (by decide)
 have e5:aA (kE.2.1.getD (0:Int).toNat ((0:Int),(aS,aC))).2.2.2.1 2=true:=cz rfl
 have e6:aA (kE.2.1.getD (0:Int).toNat ((0:Int),(aS,aC))).2.2.2.2.1 1=true:=cz rfl
 have e7:aA (kE.2.1.getD (0:Int).toNat ((0:Int),(aS,aC))).2.2.2.2.2.1 5=true:=cz rfl
 have e8:aA (kE.2.1.getD (1:Int).toNat ((0:Int),(aS,aC))).2.2.2.1 3=true:=cz rfl
 simp only[e1,e2,e3,e4,e5,e6,e7,e8,atC,auf]
namespace Pure
end Pure
end VM
end
section
namespace VM
open Go VM.F
theorem tM{l:aj}(h:eF l)(a b:Int):aD (gb a b l):=by
 induction l with
 |nil=>show aD 0;decide
 |cons x t ih=>
  have ih:=ih (fun y hy=>h y (atM _ hy))
  rw[gT]
  split
  ·split
   ·exact h x (atS ..)
   ·exact ih
  ·exact ih
theorem O0{l:aj}(h:eF l)(a b:Int):aD (c0 l a b):=by
 unfold c0
 split
 ·exact tM h a b
 ·exact⟨by decide,by decide⟩
def oN(a:Int):aj→ax
 |[]=>[]
 |x::t=>if x.1=a then(x.2.1,(x.2.2.1,()))::oN a t else oN a t
theorem rK(a:Int)(x:cE)(t:aj):oN a (x::t)=if x.1=a then(x.2.1,(x.2.2.1,()))::oN a t else oN a t:=rfl
def posOf(l:aj)(a:Int):ax:=if cP l then oN a l else []
theorem zC(a:Int): ∀l:aj,(oN a l).length≤l.length
 |[]=>atP _
 |x::t=>by
  have:=zC a t
  rw[rK,atN]
  split
  ·rw[atN];omega
  ·omega
theorem Md(a:Int)(l:aj):(posOf l a).length≤l.length:=by
 unfold posOf
 split
 ·exact zC a l
 ·exact auu _
theorem p9{a:Int}{y:LH}: ∀{l:aj},y∈oN a l→ ∃x∈l,x.1=a∧y=(x.2.1,(x.2.2.1,()))
 |[],h=>nomatch h
 |x::t,h=>by
  rw[rK]at h
  by_cases e:x.1=a
  ·rw[atK e]at h
   rcases atZ.1 h with h|h
   ·exact⟨x,atS ..,e,h⟩
   ·obtain⟨x',hx,h'⟩:=p9 h
    exact⟨x',atM _ hx,h'⟩
  ·rw[atL e]at h
   obtain⟨x',hx,h'⟩:=p9 h
   exact⟨x',atM _ hx,h'⟩
theorem O1(N:Nat){l:aj}(hl:l.length≤100000)(hN:200000≤N)(a:Int):s9 N l a=some (posOf l a):=by
 unfold s9 s9.b posOf
 rw[mF N hl hN,atB,cond_not]
 have:=pQ l aZ (fun n i s=>s9.l5 N n l a s i) (fun t s=>some (s++oN a t)) (fun i (s:ax)=>s.length≤i) (fun n i s hi hI hr=> ?_) (fun n s hI=> ?_) l.length N 0 [] (by omega) (by omega) (by omega) (atP _)
 ·have e:s9.l5 N N l a [] 0=some (oN a l):=this
  rw[e];cases cP l<;>rfl
 ·unfold s9.l5 s9.dr
  rw[aK (by omega),atC,aP (by omega) (by omega),atC,atC,atC,atE,ar (x:=(i:Int)+1) (by omega) (by omega),ae i,aI,bF (by rw[atG];omega),atC,rK]
  split
  ·rw[hr _ (by rw[atJ,atG];omega),atV];rfl
  ·exact hr s (by omega)
 ·unfold s9.l5 s9.dr
  rw[aH (by omega),atH]
  show some s=some (s++[])
  rw[auh]
def De(a n:Int):Prop:=0≤a∧a<n
end VM
end
section
namespace VM
open Go VM.F
end VM
end
section
namespace VM
open Go VM.F
def iC(p:Int):Prop:=1≤p∧p≤1000000000000
instance(p:Int):Decidable (iC p):=by unfold iC;infer_instance
theorem IN(N:Nat)(p:Int):xF N p=some (decide (iC p)):=(jb N p).trans (avh some (avj.2 Iff.rfl))
def jH(a b c d e:Int):Prop:=(0≤a∧a≤24)∧(0≤b∧b≤24)∧a≠b∧(0≤c∧c<6)∧(1≤d∧d≤1000000000)∧iC e
instance(a b c d e:Int):Decidable (jH a b c d e):=by unfold jH;infer_instance
def qa(t:qO):Prop:=jH t.1 t.2.1 t.2.2.1 t.2.2.2.1 t.2.2.2.2.1
instance:DecidablePred qa:=fun t=>by unfold qa;infer_instance
theorem FG(a b c d e:Int):cond (bX 0 a) (cond (bX a 24) (cond (bX 0 b) (cond (bX b 24) (cond (!aA a b) (cond (bX 0 c) (cond (aL c 6) (cond (bX 1 d) (cond (bX d 1000000000) (some (decide (iC e))) (some false)) (some false)) (some false)) (some false)) (some false)) (some false)) (some false)) (some false)) (some false)=some (decide (jH a b c d e)):=by
 simp only[bO,cond_not,aI,cg]
 by_cases hP:jH a b c d e
 ·have hp:=hP.2.2.2.2.2
  rw[at1 hP,at1 hp]
  unfold jH at hP
  repeat' split
  all_goals first|rfl|omega
 ·rw[at6 hP]
  by_cases hp:iC e
  ·unfold jH at hP
   repeat' split
   all_goals first|rfl|(exact absurd ⟨by omega,by omega,by omega,by omega,by omega,hp⟩ hP)
  ·rw[at6 hp]
   repeat' split
   all_goals rfl
theorem B3(N:Nat)(t:qO):O2 N t=some (decide (qa t)):=by
 unfold O2
 rw[IN,atB]
 exact FG _ _ _ _ _
def aeW(a x:Int):cE:=if a=0 then((2:Int),((0:Int),(x,())))else((5:Int),(a,(x,())))
def Zz(t:qO)(p:Int):aj:=if p-t.2.2.2.2.1=0 then []else [aeW t.1 ((p-t.2.2.2.2.1)*t.2.2.2.1),aeW t.2.1 (-((p-t.2.2.2.2.1)*t.2.2.2.1))]
def Sn(b:ag)(t:qO):Int:=b.2.2.2.2.1.getD t.2.2.1.toNat 0
def O3:bg→aj
 |[]=>[]
 |t::r=>(t.1,(t.2.2.1,(t.2.2.2.1,())))::(t.2.1,(t.2.2.1,((0-t.2.2.2.1:Int),())))::O3 r
def O4(b:ag):bg→aj
 |[]=>[]
 |t::r=>Zz t (Sn b t)++O4 b r
def ZA(c:aa)(b:ag)(t:qO):Bool:=
 ((eu b.2.1 t.1).2||decide (fa t.1 0))&&(((eu b.2.1 t.2.1).2||decide (fa t.2.1 0))&&decide (LR t.2.2.1 c.1.length))
def O5(c:aa)(b:ag)(l:bg):ag×Int:=
 if cV c b then(if l.length≤200 then(if l.all (fun t=>decide (qa t))then(if l.all (ZA c b)then dM b (O3 l) (O4 b l)else((aS,(cj,(ba,(ba,(cI,(cL,())))))),3))else((aS,(cj,(ba,(ba,(cI,(cL,())))))),1))else((aS,(cj,(ba,(ba,(cI,(cL,())))))),1))else((aS,(cj,(ba,(ba,(cI,(cL,())))))),1)
theorem iu{c:aa}{b:ag}(h:cV c b=true):b.2.2.2.2.1.length=c.1.length∧gB b.2.2.2.2.1=true:=by
 unfold cV at h
 simp only[atW]at h
 have h1:=atY h.2.2.2.2.2.2.1
 unfold fa at h1
 exact⟨by omega,h.2.2.2.2.2.2.2.2.2.2⟩
end VM
end
section
namespace VM
open Go VM.F
theorem FH{l:List Int}(h:gB l=true){i:Nat}(hi:i<l.length):iC (l.getD i 0):=atY h i hi
end VM
end
section
namespace VM
open Go VM.F
theorem qb{c:aa}{b:ag}(h:cV c b=true):fV c=true:=by
 unfold cV at h
 exact(auc.1 h).1
def jI(k:Int):Nat→ay→List Int
 |_,[]=>[]
 |i,x::t=>if x.1=k then(i:Int)::jI k (i+1) t else jI k (i+1) t
theorem vk(k:Int)(i:Nat)(x:bn)(t:ay):jI k i (x::t)=if x.1=k then(i:Int)::jI k (i+1) t else jI k (i+1) t:=rfl
def fj(c:aa)(k:Int):List Int:=if fV c then jI k 0 c.1 else []
theorem IP(N:Nat)(hN:200000≤N)(c:aa)(hl:c.1.length≤100000)(k:Int):w6 N c k=some (fj c k):=by
 unfold w6 w6.b fj
 rw[m0 N (by omega),atB,cond_not]
 have:=pQ c.1 aC (fun n i s=>w6.l5 N n k c s i) (fun t s=>some (s++jI k (c.1.length-t.length) t)) (fun i (s:List Int)=>s.length≤i) (fun n i s hi hI hr=> ?_) (fun n s hI=> ?_) c.1.length N 0 [] (by omega) (by omega) (by omega) (atP _)
 ·have e:w6.l5 N N k c [] 0=some (jI k 0 c.1):=by
   refine this.trans ?_
   rw[aui,awR];rfl
  rw[e];cases fV c<;>rfl
 ·unfold w6.l5 w6.dr
  have e1:c.1.length-(c.1.getD i aC::c.1.drop (i+1)).length=i:=by rw[atN,aum];omega
  have e2:c.1.length-(c.1.drop (i+1)).length=i+1:=by rw[aum];omega
  rw[e2]at hr
  rw[aK (by omega),atC,aP (by omega) (by omega),atC,atE,ar (x:=(i:Int)+1) (by omega) (by omega),ae i,aI,bF (by rw[atG];omega),atC,e1,vk]
  split
  ·rw[hr _ (by rw[atJ,atG];omega),atV];rfl
  ·exact hr s (by omega)
 ·unfold w6.l5 w6.dr
  rw[aH (by omega),atH]
  show some s=some (s++[])
  rw[auh]
theorem w7{c:aa}(h:fV c=true):c.1.length≤6∧ ∀i,i<c.1.length→0≤(c.1.getD i aC).1∧(c.1.getD i aC).1≤3:=by
 unfold fV at h
 simp only[atW]at h
 have h1:=atY h.1
 have h2:=atY h.2.1
 exact⟨h1.2,fun i hi=>(h2 i hi).1⟩
theorem O6{l:aj}(h:eF l)(a b:Int):aD (dR l a b):=by
 unfold dR
 cases cP l
 ·show aD 0;decide
 ·exact tM h a b
end VM
end
section
namespace VM
open Go VM.F
end VM
end
section
namespace VM
open Go VM.F
end VM
end
section
namespace VM
open Go VM.F
def vl(l:List Int)(k:Int):Int:=l.getD k.toNat 0
def ins(l:List Int):List Int→Int→List Int
 |[],i=>[i]
 |k::t,i=>if vl l i≤vl l k then k::ins l t i else i::k::t
def dw(l:List Int):Nat→List Int
 |0=>[]
 |n+1=>ins l (dw l n) n
def gF(l:List Int):List Int:=dw l l.length
def ta(l:List Int)(a b:Int):Prop:=vl l b<vl l a∨(vl l b=vl l a∧a<b)
theorem Kr(l:List Int): ∀(o:List Int) (i:Int),(ins l o i).length=o.length+1
 |[],i=>rfl
 |k::t,i=>by unfold ins;split<;>simp[Kr l t i]
theorem ow(l:List Int): ∀n,(dw l n).length=n
 |0=>rfl
 |n+1=>by unfold dw;rw[Kr,ow l n]
theorem tN(l:List Int):(gF l).length=l.length:=ow l _
theorem Df(l:List Int){x:Int}: ∀{o:List Int} {i:Int},x∈ins l o i↔x=i∨x∈o
 |[],i=>by simp[ins]
 |k::t,i=>by
  unfold ins;split
  ·rw[atZ,Df l,atZ]
   exact⟨fun h=>h.elim (fun h=> .inr (.inl h)) (fun h=>h.elim .inl (fun h=> .inr (.inr h))),fun h=>h.elim (fun h=> .inr (.inl h)) (fun h=>h.elim .inl (fun h=> .inr (.inr h)))⟩
  ·rw[atZ]
theorem ox(l:List Int){x:Int}: ∀{n:Nat},x∈dw l n↔0≤x∧x<n
 |0=>⟨(fun h=>nomatch h),fun h=>absurd h.1 (by omega)⟩
 |n+1=>by unfold dw;rw[Df,ox l];omega
theorem vm(l:List Int): ∀{o:List Int} {i:Int},o.Pairwise (ta l)→(∀x∈o,x<i)→(ins l o i).Pairwise (ta l)
 |[],i,_,_=>List.pairwise_singleton _ _
 |k::t,i,h,hi=>by
  rw[auz]at h
  have hk:k<i:=hi k (atS ..)
  unfold ins;split
  ·rename_i hle
   rw[auz]
   refine⟨fun x hx=> ?_,vm l h.2 (fun x hx=>hi x (atM _ hx))⟩
   rcases(Df l).1 hx with rfl|hx
   ·unfold ta;omega
   ·exact h.1 x hx
  ·rename_i hle
   rw[auz,auz]
   refine⟨fun x hx=> ?_,h.1,h.2⟩
   rcases atZ.1 hx with rfl|hx
   ·unfold ta;omega
   ·have:=h.1 x hx;unfold ta at*;omega
theorem ku(l:List Int): ∀n,(dw l n).Pairwise (ta l)
 |0=>List.Pairwise.nil
 |n+1=>by unfold dw;exact vm l (ku l n) (fun x hx=>((ox l).1 hx).2)
theorem O7(l:List Int): ∀(o:List Int) (i:Int) (p:Nat),p≤o.length→(∀j,j<p→vl l i≤vl l (o.getD j 0))→(p<o.length→vl l (o.getD p 0)<vl l i)→ins l o i=o.take p++i::o.drop p
 |[],i,p,hp,_,_=>by simp at hp;subst hp;rfl
 |k::t,i,0,hp,_,h=>by
  unfold ins;rw[atL (by have:=h (by simp);simp at this;omega)];rfl
 |k::t,i,p+1,hp,h0,h=>by
  unfold ins
  have h1:vl l i≤vl l k:=h0 0 (by omega)
  rw[atK h1,O7 l t i p (by simpa using hp) (fun j hj=>by have:=h0 (j+1) (by omega);simpa using this) (fun JI=>by have:=h (by simpa using JI);simpa using this)]
  rfl
theorem Ks(l:List Int)(f:Int→Int): ∀(o:List Int) (i:Int),((ins l o i).map f).sum=(o.map f).sum+f i
 |[],i=>by simp[ins]
 |k::t,i=>by
  unfold ins;split
  ·rw[at7,aue,Ks l f t i,at7,aue];omega
  ·simp only[at7,aue];omega
theorem w8(l r:List Int): ∀n,n≤r.length→((dw l n).map (vl r)).sum=(r.take n).sum
 |0,_=>rfl
 |n+1,h=>by
  unfold dw;rw[Ks,w8 l r n (by omega),fU r (by omega)]
  unfold vl;rw[atE]
theorem IQ(l r:List Int)(h:l.length=r.length):((gF l).map (vl r)).sum=r.sum:=by
 unfold gF;rw[w8 l r _ (by omega),aur (by omega)]
theorem zD{o:List Int}{j:Nat}(h:j<o.length):o.getD j 0∈o:=by
 rw[atD,atI h];exact aun h
theorem IS{l:List Int}{n j:Nat}(h:j<n):0≤(dw l n).getD j 0∧(dw l n).getD j 0<n:=by
 exact(ox l).1 (zD (by rw[ow];exact h))
theorem B4(N:Nat)(K:List Int→List Int→Int→Option (List Int)){l:List Int}(hl:l.length≤100000)(i:Nat)(hi:i<l.length): ∀(m n p:Nat),i-p≤m→m<n→p≤i→(∀j,j<p→vl l i≤vl l ((dw l i).getD j 0))→
  dt.l6 N K n l (dw l i) (i:Int) (p:Int)=K l (dw l (i+1)) ((i+1:Nat):Int)
 |m,0,p,_,hn,_,_=>by omega
 |m,n+1,p,hm,hn,hp,h=>by
  have hlen:=ow l i
  have fin: ∀h2:(p<i→vl l ((dw l i).getD p 0)<vl l i),dt.j8 N K l (dw l i) (i:Int) (p:Int)=K l (dw l (i+1)) ((i+1:Nat):Int):=fun h2=>by
   have e:=O7 l (dw l i) i p (by omega) h (fun h3=>h2 (by omega))
   unfold dt.j8 dt.IK
   dsimp only
   rw[cA (by omega) (by omega) (by omega) (by omega),atC,atE,atE,auk,aui]
   rw[bF (by rw[at4];omega),atC,bF (by rw[at4];simp only[atG];omega),atC,cA (by omega) (by omega) (by omega) (by omega),atC,bF (by simp only[atJ,at4,aum,atG];omega),atC,ar (by omega) (by omega),avv,atV,aws,←e]
   rfl
  unfold dt.l6 dt.oX
  by_cases hpi:p<i
  ·have hr:=IS (l:=l) (n:=i) (j:=p) hpi
   rw[aK (by omega),atC,aP (by omega) (by omega),atC,atE,atE,aP (by omega) (by omega),atC,aP (by omega) (by omega),atC]
   by_cases h3:l.getD i 0≤l.getD ((dw l i).getD p 0).toNat 0
   ·rw[dK h3,atC,ar (by omega) (by omega)]
    refine B4 N K hl i hi (m-1) n (p+1) (by omega) (by omega) (by omega) (fun j hj=> ?_)
    by_cases hjp:j=p
    ·rw[hjp];unfold vl;rw[atE];exact h3
    ·exact h j (by omega)
   ·rw[dL (by omega),atH]
    exact fin (fun _=>by unfold vl;rw[atE];omega)
  ·rw[aH (by omega),atH]
   exact fin (fun h=>absurd h hpi)
theorem zE(N:Nat){l:List Int}(hl:l.length≤100000)(hN:l.length<N): ∀(m n i:Nat),l.length-i≤m→m<n→i≤l.length→
  dt.l3 N n l (dw l i) (i:Int)=some (gF l)
 |m,0,i,_,hn,_=>by omega
 |m,n+1,i,hm,hn,hi=>by
  unfold dt.l3 dt.ji
  by_cases h:i<l.length
  ·have:=B4 N (dt.l3 N n) hl i h i N 0 (by omega) (by omega) (by omega) (fun j hj=>by omega)
   rw[aK (by omega),atC]
   refine Eq.trans this ?_
   exact zE N hl hN (m-1) n (i+1) (by omega) (by omega) (by omega)
  ·rw[aH (by omega),atH,show i=l.length by omega];rfl
theorem Me(N:Nat){l:List Int}(hl:l.length≤100000)(hN:l.length<N):dt N l=some (gF l):=by
 unfold dt dt.b
 exact zE N hl hN l.length N 0 (by omega) (by omega) (by omega)
end VM
end
section
namespace VM
open Go VM.F
def Dg(l:List Int):Prop:= ∀x∈l,-9223372036854775808≤x∧x<9223372036854775808
def Pos(l:List Int):Prop:= ∀x∈l,0≤x
def may(w:List Int):Bool:=decide (w.length≤64)&&w.all (fun x=>decide (0≤x))
theorem kK{w:List Int}:may w=true↔w.length≤64∧Pos w:=by
 unfold may Pos;rw[atW,auH,avw]
 simp only[auH]
theorem zF(N:Nat){l:List Int}(hl:l.length≤1000000): ∀(m n i:Nat),l.length-i≤m→m<n→i≤l.length→ ∃r,lO.l4 N n l (i:Int)=some r∧(r=true↔ ∃x∈l.drop i,x<0)
 |m,0,i,_,hn,_=>by omega
 |m,n+1,i,hm,hn,hi=>by
  unfold lO.l4 lO.cY
  by_cases h:i<l.length
  ·have hd:l.drop i=l.getD i 0::l.drop (i+1):=by
    rw[auS h,atD,atI h];rfl
   rw[aK (by omega),atC,aP (by omega) (by omega),atC,atE,hd]
   by_cases hx:l.getD i 0<0
   ·rw[aK hx,atC]
    exact⟨_,rfl,fun _=>⟨_,atS ..,hx⟩,fun _=>rfl⟩
   ·rw[aH (by omega),atH,ar (by omega) (by omega)]
    obtain⟨r,e,h1⟩:=zF N hl (m-1) n (i+1) (by omega) (by omega) (by omega)
    refine⟨r,e,h1.trans ⟨fun⟨x,RN,hx2⟩=>⟨x,atM _ RN,hx2⟩,fun⟨x,RN,hx2⟩=> ?_⟩⟩
    rcases atZ.1 RN with rfl|RN
    ·exact absurd hx2 hx
    ·exact⟨x,RN,hx2⟩
  ·rw[aH (by omega),atH,avO (by omega)]
   exact⟨_,rfl,(fun h=>nomatch h),fun⟨x,hx,_⟩=>nomatch hx⟩
theorem zG(N:Nat){w:List Int}(hN:100≤N)(t:Int):lO N t w=some (decide (t<0)|| !may w):=by
 unfold lO lO.b
 by_cases ht:t<0
 ·rw[aK ht,atC,at1 ht];rfl
 rw[aH (by omega),atH,at6 ht,av5]
 by_cases h:w.length≤64
 ·rw[aH (by omega),atH]
  obtain⟨r,e,hr⟩:=zF N (l:=w) (by omega) w.length N 0 (by omega) (by omega) (by omega)
  rw[aui]at hr
  rw[show((0:Nat):Int)=0 from rfl]at e
  rw[e]
  congr 1
  rw[ave,hr,avp,avT,Ne,kK]
  constructor
  ·rintro⟨x,hx,RB⟩ h;have:=h.2 x hx;omega
  ·intro h1
   by_cases h2: ∃x∈w,x<0
   ·exact h2
   ·exact absurd ⟨h,fun x hx=>by
     by_cases RB:x<0
     ·exact absurd ⟨x,hx,RB⟩ h2
     ·omega⟩ h1
 ·rw[aK (by omega),atC]
  have:may w=false:=by
   rw[avT];intro hm;exact h (kK.1 hm).1
  rw[this];rfl
def bump(q:List Int):List Int→List Int
 |[]=>q
 |k::t=>bump (q.set k.toNat (q.getD k.toNat 0+1)) t
def nM(t S:Int)(w:List Int):List Int:=w.map fun x=>t*x/S
def g9(t S:Int)(w:List Int):List Int:=w.map fun x=>t*x%S
def bf(t:Int)(w:List Int):List Int:=
 bump (nM t w.sum w) ((gF (g9 t w.sum w)).take (t-(nM t w.sum w).sum).toNat)
def m4(t:Int)(w:List Int):List Int×Int:=
 if t<0∨may w=false then([],1)else if 9223372036854775808≤w.sum then([],2)
 else if w.sum=0 then(if t=0 then(List.replicate w.length 0,0)else([],1))else(bf t w,0)
theorem FI: ∀(ks q:List Int),(bump q ks).length=q.length
 |[],q=>rfl
 |k::t,q=>by unfold bump;rw[FI t];simp
theorem Dh: ∀(q:List Int) (k:Nat) (x:Int),k<q.length→(q.set k x).sum=q.sum-q.getD k 0+x
 |[],k,x,h=>absurd h (by simp)
 |a::q,0,x,h=>by simp;omega
 |a::q,k+1,x,h=>by
  have:=Dh q k x (by simpa using h)
  simp[this];omega
theorem gd: ∀{q:List Int},Pos q→0≤q.sum
 |[],_=>by simp
 |a::q,h=>by
  have:=gd (q:=q) (fun x hx=>h x (atM _ hx))
  have:=h a (atS ..)
  rw[aue];omega
theorem tO: ∀{q:List Int},Pos q→ ∀i,q.getD i 0≤q.sum
 |[],_,i=>by simp
 |a::q,h,0=>by
  have:=gd (q:=q) (fun x hx=>h x (atM _ hx))
  rw[aue];simp;omega
 |a::q,h,i+1=>by
  have:=tO (q:=q) (fun x hx=>h x (atM _ hx)) i
  have:=h a (atS ..)
  rw[aue];simp;simp at*;omega
theorem fk{q:List Int}(h:Pos q)(i:Nat):0≤q.getD i 0:=by
 by_cases hi:i<q.length
 ·exact h _ (zD hi)
 ·rw[pO q (by omega)];omega
theorem So{q:List Int}(h:Pos q){x:Int}(hx:0≤x)(k:Nat):Pos (q.set k x):=fun y hy=>by
 rcases avg hy with hy|rfl
 ·exact h y hy
 ·exact hx
theorem FJ{q:List Int}(h:Pos q)(n:Nat):Pos (q.take n):=fun x hx=>h x (au0 hx)
theorem FK: ∀(ks q:List Int),(∀k∈ks,0≤k∧k<q.length)→(bump q ks).sum=q.sum+ks.length
 |[],q,_=>by simp[bump]
 |k::t,q,h=>by
  have hk:=h k (atS ..)
  unfold bump
  rw[FK t _ (fun x hx=>by rw[atX];exact h x (atM _ hx)),Dh q _ _ (by omega),atN];omega
theorem rL(t S:Int)(w:List Int):(nM t S w).length=w.length:=by unfold nM;rw[aud]
theorem ln(t S:Int)(w:List Int):(g9 t S w).length=w.length:=by unfold g9;rw[aud]
theorem Kt{t S:Int}{w:List Int}(i:Nat):(nM t S w).getD i 0=t*w.getD i 0/S:=by
 unfold nM
 by_cases h:i<w.length
 ·rw[atD,auY,atI h,atD,atI h];rfl
 ·rw[pO _ (by rw[aud];omega),pO w (by omega)];simp
theorem Ku{t S:Int}{w:List Int}(i:Nat):(g9 t S w).getD i 0=t*w.getD i 0%S:=by
 unfold g9
 by_cases h:i<w.length
 ·rw[atD,auY,atI h,atD,atI h];rfl
 ·rw[pO _ (by rw[aud];omega),pO w (by omega)];simp
theorem zH{t S:Int}{w:List Int}(ht:0≤t)(hS:0≤S)(hw:Pos w):Pos (nM t S w):=fun x hx=>by
 obtain⟨y,hy,rfl⟩:=auy.1 hx
 exact av9 (awn ht (hw y hy)) hS
theorem FL{t S:Int}{w:List Int}(hS:0<S):Pos (g9 t S w):=fun x hx=>by
 obtain⟨y,hy,rfl⟩:=auy.1 hx
 exact aw0 _ (by omega)
theorem Di(t S:Int): ∀w:List Int,S*(nM t S w).sum+(g9 t S w).sum=t*w.sum
 |[]=>by simp[nM,g9]
 |x::w=>by
  have h:=Di t S w
  have e:=aw2 (t*x) S
  unfold nM g9 at*
  simp only[at7,aue,avJ]
  omega
theorem O8{t S:Int}{w:List Int}(ht:0≤t)(hS:0<S)(h:w.sum≤S):(nM t S w).sum≤t:=by
 have e:=Di t S w
 have h1:=gd (FL (t:=t) (w:=w) hS)
 have h2:=auW h ht
 have h3:S*(nM t S w).sum≤S*t:=by rw[avs S t];omega
 exact awH h3 hS
theorem w9{w:List Int}(h:Pos w)(i:Nat):(w.take i).sum≤w.sum:=by
 have e:w.take i++w.drop i=w:=auq i w
 have h1:(w.take i).sum+(w.drop i).sum=w.sum:=by rw[←avQ,e]
 have:=gd (q:=w.drop i) (fun x hx=>h x (avX hx))
 omega
theorem B5(t S:Int)(w:List Int)(i:Nat):(nM t S w).take i=nM t S (w.take i):=by unfold nM;rw[List.map_take]
theorem zI(N:Nat){ks:List Int}(hl:ks.length≤1000000)(L:Nat)(hk: ∀k∈ks,0≤k∧k<L): ∀(m n i left:Nat) (q:List Int),ks.length-i≤m→m<n→i≤ks.length→q.length=L→Pos q→left≤9223372036854775807→q.sum+left≤9223372036854775807→
  dD.sM N n q (left:Int) ks (i:Int)=some (bump q ((ks.drop i).take left),0)
 |m,0,i,left,q,_,hn,_,_,_,_,_=>by omega
 |m,n+1,i,left,q,hm,hn,hi,hq,hp,hle,hs=>by
  unfold dD.sM dD.rG
  by_cases h:i<ks.length
  ·have hd:ks.drop i=ks.getD i 0::ks.drop (i+1):=by
    rw[auS h,atD,atI h];rfl
   have yN:=hk _ (zD h)
   rw[aK (by omega),atC]
   match left,hle,hs with
   |0,hle,hs=>rw[aH (by omega),atH,auT];rfl
   |left+1,hle,hs=>
    rw[aK (by omega),atC,aP (by omega) (by omega),atC,atE,aP (by omega) (by omega),atC,atC,hd]
    have h1:=tO hp (ks.getD i 0).toNat
    have h2:=fk hp (ks.getD i 0).toNat
    rw[ar (x:=q.getD _ 0+1) (by omega) (by omega),ar (x:=(i:Int)+1) (by omega) (by omega),ar (by omega) (by omega),show((left+1:Nat):Int)-1=(left:Int)by omega]
    refine(zI N hl L hk (m-1) n (i+1) left _ (by omega) (by omega) (by omega) (by rw[atX];exact hq) (So hp (by omega) _) (by omega) ?_).trans rfl
    rw[Dh q _ _ (by omega)];omega
  ·rw[aH (by omega),atH,avO (by omega),List.take_nil];rfl
theorem zJ(l:List Int): ∀k∈gF l,0≤k∧k<l.length:=fun k hk=>(ox l).1 hk
theorem take_set(l:List Int){i:Nat}(x:Int)(h:i<l.length):(l.set i x).take (i+1)=l.take i++[x]:=by
 rw[eV (l.set i x) (by rw[atX];exact h),iX l x h,List.take_set_of_le (by omega)]
theorem Dj{v:Int}(h0: -9223372036854775808≤v)(h1:v<9223372036854775808):A7 v=(v,true):=by unfold A7;rw[atK ⟨h0,h1⟩]
end VM
end
section
namespace VM
open Go VM.F
theorem lq{a b:List Int}(hl:a.length=b.length)(h: ∀i,i<a.length→a.getD i 0=b.getD i 0):a=b:=by
 refine List.ext_getElem hl (fun i h1 h2=> ?_)
 have:=h i h1
 rwa [atD,atI h1,atD,atI h2]at this
theorem Kv: ∀(ks q:List Int) (i:Nat),ks.Nodup→(∀k∈ks,0≤k∧k<q.length)→(bump q ks).getD i 0=q.getD i 0+(if(i:Int)∈ks then 1 else 0)
 |[],q,i,_,_=>by simp[bump]
 |k::t,q,i,hn,h=>by
  have hk:=h k (atS ..)
  rw[awY]at hn
  unfold bump
  rw[Kv t _ i hn.2 (fun x hx=>by rw[atX];exact h x (atM _ hx))]
  by_cases hik:(i:Int)=k
  ·rw[atL (by rw[hik];exact hn.1),atK (by rw[hik];exact atS ..),←hik,atE,iX q _ (by omega)];omega
  ·rw[getD_set_ne q _ (by omega)]
   by_cases ht:(i:Int)∈t
   ·rw[atK ht,atK (atM _ ht)]
   ·rw[atL ht,atL (fun hc=>by rcases atZ.1 hc with hc|hc;exact hik hc;exact ht hc)]
theorem FM(l:List Int):(gF l).Nodup:=(ku l l.length).imp (fun{a b} h he=>by unfold ta at h;rw[he]at h;omega)
theorem Kw(t S:Int)(hS:0<S): ∀u:List Int,(g9 t S u).sum≤u.length*S
 |[]=>by simp[g9]
 |x::u=>by
  have ih:=Kw t S hS u
  have:=awb (t*x) hS
  unfold g9 at*
  rw[at7,aue,atN,Int.natCast_add,awJ];simp;omega
def jf(t:Int)(w:List Int):Int:=t-(nM t w.sum w).sum
theorem left_eq(t:Int)(w:List Int):w.sum*jf t w=(g9 t w.sum w).sum:=by
 have:=Di t w.sum w
 unfold jf;rw[Int.mul_sub,avs w.sum t];omega
theorem zK{t:Int}{w:List Int}(ht:0≤t)(hS:0<w.sum):0≤jf t w:=by
 have:=O8 ht hS (au2 _);unfold jf;omega
theorem Kx{t:Int}{w:List Int}(hS:0<w.sum):jf t w≤w.length:=by
 have h1:=left_eq t w
 have h2:=Kw t w.sum hS w
 rw[←h1,avs (w.length:Int)]at h2
 exact awH h2 hS
theorem kv(t:Int)(w:List Int):(bf t w).length=w.length:=by unfold bf;rw[FI,rL]
theorem qc{t:Int}{w:List Int}(ht:0≤t)(hS:0<w.sum):(bf t w).sum=t:=by
 unfold bf
 have h1:=zK ht hS
 have h2:=Kx (t:=t) hS
 unfold jf at*
 rw[FK _ _ (fun k hk=>by have:=zJ _ k (au0 hk);rw[ln]at this;rwa [rL]),at4,tN,ln]
 omega
theorem tP{f:Int→Int}{c:Int}: ∀{o:List Int},(∀x∈o,f x≤c)→(o.map f).sum≤o.length*c
 |[],_=>by simp
 |x::o,h=>by
  have ih:=tP (f:=f) (c:=c) (o:=o) (fun y hy=>h y (atM _ hy))
  have:=h x (atS ..)
  rw[at7,aue,atN,Int.natCast_add,awJ];simp;omega
theorem IT{l o:List Int}(h:o.Pairwise (ta l)){m:Nat}{x y:Int}(hx:x∈o.take m)(hy:y∈o.drop m):ta l x y:=by
 rw[←auq m o,List.pairwise_append]at h
 exact h.2.2 x hx y hy
theorem Mf{t:Int}{w:List Int}(ht:0≤t)(hS:0<w.sum){i:Int}(hi:i∈(gF (g9 t w.sum w)).take (jf t w).toNat):0<vl (g9 t w.sum w) i:=by
 have Ii: ∀k:Int,0≤vl (g9 t w.sum w) k:=fun k=>fk (FL hS) _
 have dZ: ∀k:Int,vl (g9 t w.sum w) k≤w.sum-1:=fun k=>by
  unfold vl;rw[Ku]
  have:=awb (t*w.getD k.toNat 0) hS;omega
 have h0:=Ii i
 rcases Int.lt_or_le 0 (vl (g9 t w.sum w) i)with h|h
 ·exact h
 exfalso
 have aeX:=IQ (g9 t w.sum w) (g9 t w.sum w) rfl
 rw[←left_eq]at aeX
 have akj:=auq (jf t w).toNat (gF (g9 t w.sum w))
 rw[←akj,aus,avQ]at aeX
 have hd:(((gF (g9 t w.sum w)).drop (jf t w).toNat).map (vl (g9 t w.sum w))).sum≤((gF (g9 t w.sum w)).drop (jf t w).toNat).length*0:=tP (fun y hy=>by
  have:=IT (ku _ _) hi hy
  unfold ta at this;omega)
 have htk:(((gF (g9 t w.sum w)).take (jf t w).toNat).map (vl (g9 t w.sum w))).sum≤((gF (g9 t w.sum w)).take (jf t w).toNat).length*(w.sum-1):=tP (fun y _=>dZ y)
 have h1:=zK ht hS
 have h2:=Kx (t:=t) hS
 rw[at4,tN,ln,auL (by omega),Int.mul_sub]at htk
 rw[Int.mul_zero]at hd
 have h3:(((jf t w).toNat:Nat):Int)=jf t w:=by omega
 have h4:0<(jf t w).toNat:=by
  rcases Nat.eq_zero_or_pos (jf t w).toNat with h|h
  ·rw[h,auT]at hi;nomatch hi
  ·exact h
 rw[h3,avs (jf t w)]at htk
 omega
def extra(t:Int)(w:List Int)(i:Nat):Int:=if(i:Int)∈(gF (g9 t w.sum w)).take (jf t w).toNat then 1 else 0
theorem B6(t:Int)(w:List Int)(i:Nat):(bf t w).getD i 0=t*w.getD i 0/w.sum+extra t w i:=by
 unfold bf
 rw[Kv _ _ i ((FM _).sublist (List.take_sublist ..)) (fun k hk=>by have:=zJ _ k (au0 hk);rw[ln]at this;rwa [rL]),Kt]
 rfl
theorem B7(t:Int)(w:List Int)(i:Nat):extra t w i=0∨extra t w i=1:=by unfold extra;split<;>omega
theorem Mg{t:Int}{w:List Int}(ht:0≤t)(hS:0<w.sum){i:Nat}(h:extra t w i=1):0<t*w.getD i 0%w.sum:=by
 unfold extra at h
 by_cases hi:(i:Int)∈(gF (g9 t w.sum w)).take (jf t w).toNat
 ·have:=Mf ht hS hi
  unfold vl at this;rwa [Ku,atE]at this
 ·rw[atL hi]at h;omega
theorem qd{t:Int}{w:List Int}(ht:0≤t)(hS:0<w.sum)(hw:Pos w):Pos (bf t w):=fun x hx=>by
 obtain⟨i,hi,rfl⟩:=au4.1 hx
 have:=B6 t w i
 rw[atD,atI hi]at this
 have h1:=B7 t w i
 have h2:0≤t*w.getD i 0/w.sum:=av9 (awn ht (fk hw i)) (by omega)
 simp only[avk]at this
 omega
theorem xa{t:Int}{w:List Int}(ht:0≤t)(hS:0<w.sum){i:Nat}(h:w.getD i 0=0):(bf t w).getD i 0=0:=by
 rw[B6,h]
 rcases B7 t w i with h1|h1
 ·rw[h1];simp
 ·have:=Mg ht hS h1
  rw[h]at this;simp at this
end VM
end
section
namespace VM
open Go VM.F
theorem xb(N:Nat)(hN:5000000≤N){t:Int}{w:List Int}(ht:0≤t)(rf:t<9223372036854775808)(hw:w.length≤64)(hp:Pos w)(hS:0<w.sum)(hS1:w.sum<9223372036854775808):
  ∀(m n i:Nat) (q r:List Int),w.length-i≤m→m<n→i≤w.length→q.length=w.length→r.length=w.length→q.take i=nM t w.sum (w.take i)→r.take i=g9 t w.sum (w.take i)→
  dD.B8 N n t w (bH w.sum) q r (t-(nM t w.sum (w.take i)).sum) (i:Int)=some (bf t w,0)
 |m,0,i,q,r,_,hn,_,_,_,_,_=>by omega
 |m,n+1,i,q,r,hm,hn,hi,hq,hr,eq,er=>by
  unfold dD.B8 dD.zL
  by_cases h:i<w.length
  ·have hwi:=fk hp i
   have akk:=tO hp i
   have hb:=mul_lt ht hwi (show t≤9223372036854775807 by omega) (show w.getD i 0≤9223372036854775807 by omega)
   have hqi:t*w.getD i 0/w.sum≤t:=Int.ediv_le_of_le_mul hS (auW akk ht)
   have aq8:0≤t*w.getD i 0/w.sum:=av9 hb.1 (by omega)
   have hri:=awb (t*w.getD i 0) hS
   have aq9:=aw0 (t*w.getD i 0) (show w.sum≠0 by omega)
   have hs0:=O8 ht hS (w9 hp i)
   have JN:=gd (zH ht (by omega:0≤w.sum) (FJ hp i))
   have ft:Fit t 2:=Fit.i64 (by omega) (by omega)
   have fw:Fit (w.getD i 0) 2:=Fit.i64 (by omega) (by omega)
   have fS:Fit w.sum 2:=Fit.i64 (by omega) (by omega)
   rw[aK (by omega),atC,dd N (by omega) (by omega) rf,atB,aP (by omega) (by omega),atC,atE,dd N (by omega) (by omega) (by omega),atB,
    Fg N (by omega) (ft.mono (by omega)) (fw.mono (by omega)),atB,Ka N (by omega) hS ((ft.mul fw).mono (by omega)) (fS.mono (by omega)),atB]
   dsimp only
   rw[ry,atB,Dj (by omega) (by omega),ry,Dj (by omega) (by omega)]
   dsimp only
   rw[atB,aP (by omega) (by omega),atC,aP (by omega) (by omega),atC,atX,aP (by omega) (by omega),atC,iX q _ (by omega),ar (x:=(i:Int)+1) (by omega) (by omega),ar (by omega) (by omega)]
   have uS:=xb N hN ht rf hw hp hS hS1 (m-1) n (i+1) (q.set i (t*w.getD i 0/w.sum)) (r.set i (t*w.getD i 0%w.sum)) (by omega) (by omega) (by omega) (by rw[atX];exact hq) (by rw[atX];exact hr)
    (by rw[take_set q _ (by omega),eq,eV w h];unfold nM;simp)
    (by rw[take_set r _ (by omega),er,eV w h];unfold g9;simp)
   rw[←B5,fU _ (by rw[rL];exact h),Kt,B5]at uS
   rw[aw7]
   exact uS
  ·have kQ:i=w.length:=by omega
   subst kQ
   rw[aur (by omega),aur (by omega)]at eq er
   subst eq er
   rw[aur (by omega)]
   have JN:=gd (zH ht (by omega:0≤w.sum) hp)
   have h1:=zK ht hS
   unfold jf at h1
   rw[aH (by omega),atH,Me N (by rw[ln];omega) (by rw[ln];omega),atB]
   have hlen:=tN (g9 t w.sum w)
   rw[ln]at hlen
   have tZ:=zI N (ks:=gF (g9 t w.sum w)) (by omega) w.length (fun k hk=>by have:=zJ _ k hk;rwa [ln]at this) 1000 N 0 (t-(nM t w.sum w).sum).toNat (nM t w.sum w) (by omega) (by omega) (by omega) (rL ..) (zH ht (by omega) hp) (by omega) (by omega)
   rw[aui,av3 h1]at tZ
   exact tZ
theorem vZ(N:Nat)(hN:5000000≤N){t:Int}{w:List Int}(rf:t<9223372036854775808)(hw:Dg w)(hl:w.length≤1000000):dD N t w=some (m4 t w):=by
 unfold dD dD.b m4
 rw[zG N (by omega),atB]
 by_cases h1:t<0
 ·rw[at1 h1,Bool.true_or,atC,atK (.inl h1)]
 rw[at6 h1,av5]
 cases h2:may w
 ·rw[auf,atC,atK (.inr rfl)]
 rw[at3,atH,atL (by simp[h1]),tD N (by omega) hw hl,atB,pN,atB]
 obtain⟨IU,hp⟩:=kK.1 h2
 have hS0:=gd hp
 have hj: ∀h: ¬9223372036854775808≤w.sum,dD.j6 N t w (bH w.sum)=if w.sum=0 then some (List.replicate w.length 0,0)else some (bf t w,0):=fun h=>by
  unfold dD.j6 dD.M8
  rw[ry,atB,Dj (by omega) (by omega),at3,atH,bM (by omega) (by omega) (by omega),atC,atC,pN,atB,atE]
  by_cases h4:w.sum=0
  ·rw[atK h4,h4,show sk 0=0 from rfl,cz rfl,atC]
  ·rw[atL h4,cS (by unfold sk;repeat' split<;>omega),atH]
   have:=xb N hN (by omega) rf IU hp (by omega) (by omega) w.length N 0 (List.replicate w.length 0) (List.replicate w.length 0) (by omega) (by omega) (by omega) (atT ..) (atT ..) rfl rfl
   rw[auT]at this
   simp only[nM,avl,au9,awp]at this
   exact this
 by_cases h3:9223372036854775808≤w.sum
 ·rw[atK h3,cS (by unfold sk;repeat' split<;>omega),atH]
  unfold dD.j6 dD.M8
  rw[ry,atB];unfold A7;rw[atL (by omega)];rfl
 rw[atL h3,hj h3]
 by_cases h4:w.sum=0
 ·rw[atK h4,atK h4,h4,show sk 0=0 from rfl,cz rfl,atC]
  by_cases h5:t=0
  ·rw[atK h5,cz h5,at3,atH]
  ·rw[atL h5,cS h5,auf,atC]
 ·rw[atL h4,atL h4,cS (by unfold sk;repeat' split<;>omega),atH]
def B9(t n:Int):List Int×Int:=if t<0∨n<1∨64<n then([],1)else m4 t (List.replicate n.toNat 1)
theorem O9(n:Nat):Dg (List.replicate n 1):=fun x hx=>by rw[avC hx];omega
theorem Ca(N:Nat)(hN:5000000≤N){t:Int}{k:Nat}(hk:k≤64)(rf:t<9223372036854775808): ∀(m n i:Nat),k-i≤m→m<n→i≤k→
  m5.l5 N n t (k:Int) (List.replicate i 1++List.replicate (k-i) 0) (i:Int)=some (m4 t (List.replicate k 1))
 |m,0,i,_,hn,_=>by omega
 |m,n+1,i,hm,hn,hi=>by
  unfold m5.l5 m5.dr
  by_cases h:i<k
  ·rw[aK (by omega),atC,aP (by omega) (by simp;omega),atC,ar (by omega) (by omega)]
   refine Eq.trans ?_ (Ca N hN hk rf (m-1) n (i+1) (by omega) (by omega) (by omega))
   congr 1
   rw[atE,List.set_append_right _ _ (by simp),atT,awR,show k-i=(k-(i+1))+1 by omega,av2,List.set_cons_zero,List.replicate_succ',atV]
   rfl
  ·rw[aH (by omega),atH,show k-i=0 by omega,List.replicate_zero,auh,show i=k by omega,vZ N hN rf (O9 _) (by rw[atT];omega)]
   rfl
theorem Pb(N:Nat)(hN:5000000≤N){t n:Int}(rf:t<9223372036854775808):m5 N t n=some (B9 t n):=by
 unfold m5 m5.b B9
 by_cases h1:t<0
 ·rw[aK h1,atC,atK (.inl h1)]
 by_cases h2:n<1
 ·rw[aH (by omega),atH,aK h2,atC,atK (.inr (.inl h2))]
 by_cases h3:64<n
 ·rw[aH (by omega),atH,aH (by omega),atH,aK h3,atC,atK (.inr (.inr h3))]
 rw[aH (by omega),atH,aH (by omega),atH,aH (by omega),atH,atL (by omega),bM (by omega) (by omega) (by omega),atC]
 have:=Ca N hN (t:=t) (k:=n.toNat) (by omega) rf n.toNat N 0 (by omega) (by omega) (by omega)
 rw[List.replicate_zero,aug,Nat.sub_zero,av3 (by omega)]at this
 exact this
end VM
end
section
namespace VM
open Go VM.F
def zM(n:Nat)(f:Nat→Int):List Int:=(List.range n).map f
theorem eB(n:Nat)(f:Nat→Int):(zM n f).length=n:=by unfold zM;rw[aud,avS]
theorem ez{n:Nat}{f:Nat→Int}{i:Nat}(h:i<n):(zM n f).getD i 0=f i:=by
 unfold zM
 rw[atD,auY,List.getElem?_range h];rfl
theorem Dl(n:Nat)(f:Nat→Int)(i:Nat):(zM n f).getD i 0=if i<n then f i else 0:=by
 by_cases h:i<n
 ·rw[atK h,ez h]
 ·rw[atL h,pO _ (by rw[eB];omega)]
theorem Sp{n:Nat}{f:Nat→Int}(h: ∀i,i<n→0≤f i):Pos (zM n f):=fun x hx=>by
 obtain⟨i,hi,rfl⟩:=auy.1 hx
 exact h i (avH.1 hi)
theorem oy{l:List Int}(h: ∀i,i<l.length→0≤l.getD i 0):Pos l:=fun x hx=>by
 obtain⟨i,hi,rfl⟩:=au4.1 hx
 have:=h i hi
 rwa [atD,atI hi]at this
theorem wa: ∀{a b:List Int},a.length=b.length→(∀i,i<a.length→a.getD i 0≤b.getD i 0)→a.sum≤b.sum
 |[],[],_,_=>au2 _
 |[],_::_,h,_=>nomatch h
 |_::_,[],h,_=>nomatch h
 |x::a,y::b,h,h1=>by
  have:=wa (a:=a) (b:=b) (by simpa using h) (fun i hi=>by have:=h1 (i+1) (by simpa using hi);simpa using this)
  have h2:x≤y:=by have:=h1 0 (by simp);simpa using this
  rw[aue,aue];omega
theorem zN: ∀{a b c:List Int},a.length=b.length→a.length=c.length→(∀i,i<a.length→a.getD i 0=b.getD i 0+c.getD i 0)→a.sum=b.sum+c.sum
 |[],[],[],_,_,_=>rfl
 |[],_::_,_,h,_,_=>nomatch h
 |[],[],_::_,_,h,_=>nomatch h
 |_::_,[],_,h,_,_=>nomatch h
 |_::_,_::_,[],_,h,_=>nomatch h
 |x::a,y::b,z::c,h,h',h1=>by
  have:=zN (a:=a) (b:=b) (c:=c) (by simpa using h) (by simpa using h') (fun i hi=>by have:=h1 (i+1) (by simpa using hi);simpa using this)
  have h2:x=y+z:=by have:=h1 0 (by simp);simpa using this
  rw[aue,aue,aue];omega
theorem rM: ∀{a:List Int},(∀i,i<a.length→a.getD i 0=0)→a.sum=0
 |[],_=>rfl
 |x::a,h=>by
  have:=rM (a:=a) (fun i hi=>by have:=h (i+1) (by simpa using hi);simpa using this)
  have h2:x=0:=by have:=h 0 (by simp);simpa using this
  rw[aue];omega
def bG(w caps out:List Int):List Int:=zM w.length fun i=>if out.getD i 0<caps.getD i 0 then w.getD i 0 else 0
def dn(parts caps out:List Int):List Int:=zM out.length fun i=>min (parts.getD i 0) (caps.getD i 0-out.getD i 0)
def rN(out g:List Int):List Int:=zM out.length fun i=>out.getD i 0+g.getD i 0
def qf(w caps:List Int):Nat→List Int→Int→List Int×Int
 |0,out,left=>(out,left)
 |f+1,out,left=>if left=0∨(bG w caps out).sum=0 then(out,left)else
  qf w caps f (rN out (dn (bf left (bG w caps out)) caps out)) (left-(dn (bf left (bG w caps out)) caps out).sum)
structure Ky(t:Int)(w caps out:List Int)(left:Int):Prop where
 n:w.length≤64
 l1:caps.length=w.length
 l2:out.length=w.length
 pw:Pos w
 sw:w.sum<9223372036854775808
 pc: ∀i,0≤caps.getD i 0∧caps.getD i 0<9223372036854775808
 po: ∀i,0≤out.getD i 0
 le: ∀i,i<w.length→out.getD i 0≤caps.getD i 0
 z: ∀i,w.getD i 0=0→out.getD i 0=0
 l:0≤left
 t1:t<9223372036854775808
 s:out.sum+left=t
theorem fl(w caps out:List Int):(bG w caps out).length=w.length:=eB ..
theorem m6{w caps out:List Int}(h:Pos w):Pos (bG w caps out):=Sp (fun i _=>by split;exact fk h i;omega)
theorem FN{w caps out:List Int}(h:Pos w):(bG w caps out).sum≤w.sum:=wa (fl ..) (fun i hi=>by
 rw[fl]at hi
 unfold bG;rw[ez hi];split
 ·omega
 ·exact fk h i)
theorem Pd{t left:Int}{w caps out:List Int}(c:Ky t w caps out left):Dg (bG w caps out):=fun x hx=>by
 have h1:=m6 (caps:=caps) (out:=out) c.pw
 have h2:=FN (caps:=caps) (out:=out) c.pw
 have h3:=h1 x hx
 obtain⟨i,hi,rfl⟩:=au4.1 hx
 have h4:=tO h1 i
 rw[atD,atI hi]at h4
 simp only[avk]at h4
 have:=c.sw
 omega
theorem FO{t left:Int}{w caps out:List Int}(c:Ky t w caps out left):left≤t:=by
 have:=gd (q:=out) (oy (fun i _=>c.po i));have:=c.s;omega
theorem kN{t left:Int}{w caps out:List Int}(c:Ky t w caps out left)(hS:0<(bG w caps out).sum)(i:Nat):
  0≤(dn (bf left (bG w caps out)) caps out).getD i 0∧(dn (bf left (bG w caps out)) caps out).getD i 0≤(bf left (bG w caps out)).getD i 0∧(i<w.length→out.getD i 0+(dn (bf left (bG w caps out)) caps out).getD i 0≤caps.getD i 0):=by
 have h0:=fk (qd c.l hS (m6 c.pw)) i
 unfold dn
 rw[Dl]
 have:=c.l2
 by_cases h:i<out.length
 ·rw[atK h]
  have:=c.le i (by omega)
  omega
 ·rw[atL h];exact⟨by omega,h0,fun h=>by omega⟩
theorem rO(parts caps out:List Int):(dn parts caps out).length=out.length:=eB ..
theorem zO{t left:Int}{w caps out:List Int}(c:Ky t w caps out left)(hS:0<(bG w caps out).sum):0≤(dn (bf left (bG w caps out)) caps out).sum∧(dn (bf left (bG w caps out)) caps out).sum≤left:=by
 constructor
 ·exact gd (oy (fun i _=>(kN c hS i).1))
 ·have:=wa (a:=dn (bf left (bG w caps out)) caps out) (b:=bf left (bG w caps out)) (by rw[rO,kv,fl,c.l2]) (fun i _=>(kN c hS i).2.1)
  rwa [qc c.l hS]at this
theorem FP{t left:Int}{w caps out:List Int}(c:Ky t w caps out left)(hS:0<(bG w caps out).sum):Ky t w caps (rN out (dn (bf left (bG w caps out)) caps out)) (left-(dn (bf left (bG w caps out)) caps out).sum):=by
 have ma: ∀i,(rN out (dn (bf left (bG w caps out)) caps out)).getD i 0=if i<out.length then out.getD i 0+(dn (bf left (bG w caps out)) caps out).getD i 0 else 0:=fun i=>by unfold rN;rw[Dl]
 have gs:=zO c hS
 refine⟨c.n,c.l1,?_,c.pw,c.sw,c.pc,fun i=> ?_,fun i hi=> ?_,fun i hi=> ?_,by omega,c.t1,?_⟩
 ·unfold rN;rw[eB,c.l2]
 ·rw[ma];have:=(kN c hS i).1;have:=c.po i;split<;>omega
 ·rw[ma,atK (by rw[c.l2];exact hi)];exact(kN c hS i).2.2 hi
 ·rw[ma]
  split
  ·have h1:(bG w caps out).getD i 0=0:=by unfold bG;rw[Dl,hi];split<;>(try split)<;>rfl
   have h2:=xa c.l hS h1
   have h3:=kN c hS i
   rw[c.z i hi];omega
  ·rfl
 ·have:=zN (a:=rN out (dn (bf left (bG w caps out)) caps out)) (b:=out) (c:=dn (bf left (bG w caps out)) caps out) (by unfold rN;rw[eB]) (by unfold rN;rw[eB,rO]) (fun i hi=>by
   unfold rN at hi;rw[eB]at hi;rw[ma,atK hi])
  have:=c.s
  omega
def opens(w caps out:List Int):Nat:=(List.range w.length).countP fun i=>decide (0<w.getD i 0∧out.getD i 0<caps.getD i 0)
theorem Cb{p q:Nat→Bool}: ∀{l:List Nat},(∀x∈l,q x=true→p x=true)→(∃x∈l,p x=true∧q x=false)→l.countP q<l.countP p
 |[],_,⟨x,hx,_⟩=>nomatch hx
 |y::l,h,⟨x,hx,h1,h2⟩=>by
  have hle:l.countP q≤l.countP p:=List.countP_mono_left (fun z hz=>h z (atM _ hz))
  rw[List.countP_cons,List.countP_cons]
  rcases atZ.1 hx with rfl|hx
  ·rw[h1,h2];simp;omega
  ·have:=Cb (p:=p) (q:=q) (l:=l) (fun z hz=>h z (atM _ hz)) ⟨x,hx,h1,h2⟩
   have h3:=h y (atS ..)
   cases hq:q y<;>cases hp:p y<;>simp<;>try omega
   rw[hq,hp]at h3;simp at h3
theorem Cc{w caps out:List Int}(hw:Pos w)(h:(bG w caps out).sum=0): ∀i,i<w.length→ ¬(0<w.getD i 0∧out.getD i 0<caps.getD i 0):=fun i hi ⟨h1,h2⟩=>by
 have:=tO (m6 (caps:=caps) (out:=out) hw) i
 unfold bG at this h
 rw[ez hi,atK h2,h]at this
 omega
theorem Dm{w caps out:List Int}(hw:Pos w)(h:(bG w caps out).sum≠0): ∃i,i<w.length∧0<w.getD i 0∧out.getD i 0<caps.getD i 0:=by
 by_cases hx: ∃i,i<w.length∧0<w.getD i 0∧out.getD i 0<caps.getD i 0
 ·exact hx
 ·refine absurd (rM (fun i hi=> ?_)) h
  rw[fl]at hi
  unfold bG
  rw[ez hi]
  split
  ·rename_i h1
   have:=fk hw i
   by_cases h2:0<w.getD i 0
   ·exact absurd ⟨i,hi,h2,h1⟩ hx
   ·omega
  ·rfl
theorem Mh{t left:Int}{w caps out:List Int}(c:Ky t w caps out left)(hS:0<(bG w caps out).sum)(hl:left-(dn (bf left (bG w caps out)) caps out).sum≠0):opens w caps (rN out (dn (bf left (bG w caps out)) caps out))<opens w caps out:=by
 have ma: ∀i,i<w.length→(rN out (dn (bf left (bG w caps out)) caps out)).getD i 0=out.getD i 0+(dn (bf left (bG w caps out)) caps out).getD i 0:=fun i hi=>by unfold rN;rw[ez (by rw[c.l2];exact hi)]
 refine Cb (fun i hi h=> ?_) ?_
 ·rw[avH]at hi
  rw[auH,ma i hi]at h
  rw[auH]
  have:=(kN c hS i).1
  omega
 ·by_cases hx: ∃i,i<w.length∧(0<w.getD i 0∧out.getD i 0<caps.getD i 0)∧caps.getD i 0≤out.getD i 0+(dn (bf left (bG w caps out)) caps out).getD i 0
  ·obtain⟨i,h1,h2,h3⟩:=hx
   refine⟨i,avH.2 h1,at1 h2,at6 ?_⟩
   rw[ma i h1];omega
  ·exfalso
   have h1:bf left (bG w caps out)=dn (bf left (bG w caps out)) caps out:=by
    refine lq (by rw[rO,kv,fl,c.l2]) (fun i hi=> ?_)
    rw[kv,fl]at hi
    have h2:=kN c hS i
    have h3:=fk (qd c.l hS (m6 (caps:=caps) (out:=out) c.pw)) i
    by_cases h4:0<w.getD i 0∧out.getD i 0<caps.getD i 0
    ·have h5: ¬caps.getD i 0≤out.getD i 0+(dn (bf left (bG w caps out)) caps out).getD i 0:=fun h=>hx ⟨i,hi,h4,h⟩
     have h6:(dn (bf left (bG w caps out)) caps out).getD i 0=min ((bf left (bG w caps out)).getD i 0) (caps.getD i 0-out.getD i 0):=ez (by rw[c.l2];exact hi)
     omega
    ·have h7:(bG w caps out).getD i 0=0:=by
      unfold bG;rw[ez hi]
      have:=fk c.pw i
      split<;>omega
     have:=xa c.l hS h7
     omega
   rw[←h1,qc c.l hS]at hl
   omega
theorem Pe(w caps out:List Int):opens w caps out≤w.length:=by
 unfold opens
 have:=List.countP_le_length (p:=fun i=>decide (0<w.getD i 0∧out.getD i 0<caps.getD i 0)) (l:=List.range w.length)
 rwa [avS]at this
structure Full(t:Int)(w caps out:List Int)(left:Int):Prop where
 c:Ky t w caps out left
 f:left=0∨ ∀i,i<w.length→ ¬(0<w.getD i 0∧out.getD i 0<caps.getD i 0)
theorem FQ{t:Int}{w caps:List Int}: ∀(f:Nat) (out:List Int) (left:Int),Ky t w caps out left→(opens w caps out<f∨left=0)→Full t w caps (qf w caps f out left).1 (qf w caps f out left).2
 |0,out,left,c,h=>⟨c,.inl (show left=0 by omega)⟩
 |f+1,out,left,c,h=>by
  unfold qf
  have hS:=gd (m6 (caps:=caps) (out:=out) c.pw)
  split
  ·rename_i h1
   exact⟨c,h1.imp id (Cc c.pw)⟩
  ·rename_i h1
   refine FQ f _ _ (FP c (by omega)) ?_
   by_cases h2:left-(dn (bf left (bG w caps out)) caps out).sum=0
   ·exact .inr h2
   ·have:=Mh c (by omega) h2
    exact .inl (by omega)
def wb(out g:List Int)(i:Nat):List Int:=zM out.length fun j=>if j<i then out.getD j 0+g.getD j 0 else out.getD j 0
theorem mid_zero(out g:List Int):wb out g 0=out:=lq (eB ..) (fun i hi=>by unfold wb at*;rw[eB]at hi;rw[ez hi,atL (by omega)])
theorem Sq(out g:List Int){n:Nat}(h:out.length≤n):wb out g n=rN out g:=lq (by unfold wb rN;rw[eB,eB]) (fun i hi=>by unfold wb rN at*;rw[eB]at hi;rw[ez hi,ez hi,atK (by omega)])
theorem vn(out g:List Int)(i:Nat):(wb out g i).length=out.length:=eB ..
theorem ZB{out g:List Int}{i:Nat}(h:i<out.length):(wb out g i).getD i 0=out.getD i 0:=by unfold wb;rw[ez h,atL (by omega)]
theorem Sr{out g:List Int}{i:Nat}(h:i<out.length):(wb out g i).set i (out.getD i 0+g.getD i 0)=wb out g (i+1):=lq (by rw[atX,vn,vn]) (fun j hj=>by
 rw[atX,vn]at hj
 by_cases tx:i=j
 ·subst tx
  rw[iX _ _ (by rw[vn];exact h)];unfold wb;rw[ez h,atK (by omega)]
 ·rw[getD_set_ne _ _ tx];unfold wb;rw[ez hj,ez hj]
  by_cases h1:j<i
  ·rw[atK h1,atK (by omega)]
  ·rw[atL h1,atL (by omega)])
def oz(s:List Int)(i:Nat):List Int:=zM s.length fun j=>if j<i then s.getD j 0 else 0
theorem Mi(s:List Int):oz s 0=List.replicate s.length 0:=lq (by unfold oz;rw[eB,atT]) (fun i hi=>by
 unfold oz at*;rw[eB]at hi;rw[ez hi,atL (by omega),atD,awf,atK hi];rfl)
theorem Pf(s:List Int):oz s s.length=s:=lq (eB ..) (fun i hi=>by unfold oz at*;rw[eB]at hi;rw[ez hi,atK hi])
theorem lx(s:List Int)(i:Nat):(oz s i).length=s.length:=eB ..
theorem Pg{s:List Int}{i:Nat}(h:i<s.length):(oz s i).set i (s.getD i 0)=oz s (i+1):=lq (by rw[atX,lx,lx]) (fun j hj=>by
 rw[atX,lx]at hj
 by_cases tx:i=j
 ·subst tx
  rw[iX _ _ (by rw[lx];exact h)];unfold oz;rw[ez h,atK (by omega)]
 ·rw[getD_set_ne _ _ tx];unfold oz;rw[ez hj,ez hj]
  by_cases h1:j<i
  ·rw[atK h1,atK (by omega)]
  ·rw[atL h1,atL (by omega)])
theorem Cd{s:List Int}{i:Nat}(h:s.getD i 0=0):oz s i=oz s (i+1):=lq (by rw[lx,lx]) (fun j hj=>by
 rw[lx]at hj
 unfold oz;rw[ez hj,ez hj]
 by_cases h1:j<i
 ·rw[atK h1,atK (by omega)]
 ·rw[atL h1]
  by_cases h2:j=i
  ·subst h2;rw[atK (by omega),h]
  ·rw[atL (by omega)])
theorem ZC(x y:Int):mn x y=min x y:=by rw[Xa];split<;>omega
theorem Mj{t left:Int}{w caps out:List Int}(c:Ky t w caps out left)(hS:0<(bG w caps out).sum)(i:Nat):0≤((dn (bf left (bG w caps out)) caps out).take i).sum∧((dn (bf left (bG w caps out)) caps out).take i).sum≤left:=by
 have h:=oy (l:=dn (bf left (bG w caps out)) caps out) (fun i _=>(kN c hS i).1)
 have:=w9 h i
 have:=zO c hS
 exact⟨gd (FJ h i),by omega⟩
theorem zP(N:Nat)(K:List Int→List Int→List Int→Int→Int→Option (List Int×Int×Int)){t left:Int}{w caps out:List Int}(c:Ky t w caps out left)(hS:0<(bG w caps out).sum)(rd:Int): ∀(m n i:Nat),w.length-i≤m→m<n→i≤w.length→
  c4.AG N K n w caps (wb out (dn (bf left (bG w caps out)) caps out) i) (left-((dn (bf left (bG w caps out)) caps out).take i).sum) rd (bf left (bG w caps out)) (i:Int)=
  K w caps (rN out (dn (bf left (bG w caps out)) caps out)) (left-(dn (bf left (bG w caps out)) caps out).sum) (W .i64 (rd+1))
 |m,0,i,_,hn,_=>by omega
 |m,n+1,i,hm,hn,hi=>by
  have n64:=c.n
  have e1:=c.l1
  have e2:=c.l2
  unfold c4.AG c4.zs
  by_cases h:i<w.length
  ·have hc:=c.pc i
   have ho:=c.po i
   have hle:=c.le i h
   have hg:=kN c hS i
   have h6:(dn (bf left (bG w caps out)) caps out).getD i 0=min ((bf left (bG w caps out)).getD i 0) (caps.getD i 0-out.getD i 0):=ez (by rw[c.l2];exact h)
   have ht:=Mj c hS i
   have hl:=FO c
   have rf:=c.t1
   have hgl:(dn (bf left (bG w caps out)) caps out).getD i 0≤left:=by
    have:=tO (oy (l:=dn (bf left (bG w caps out)) caps out) (fun i _=>(kN c hS i).1)) i
    have:=zO c hS
    omega
   dsimp only
   rw[aK (by omega),atC,aP (by omega) (by rw[kv,fl];omega),atC,aP (by omega) (by omega),atC,aP (by omega) (by rw[vn];omega),atC,atC,atE,ZB (by omega),ar (x:=caps.getD i 0-out.getD i 0) (by omega) (by omega),ZC,←h6,
    ar (x:=(i:Int)+1) (by omega) (by omega),ar (x:=out.getD i 0+_) (by omega) (by omega),ar (x:=left-_-_) (by omega) (by omega),Sr (by omega)]
   have:=zP N K c hS rd (m-1) n (i+1) (by omega) (by omega) (by omega)
   rw[fU _ (by rw[rO];omega),←aw7]at this
   exact this
  ·rw[aH (by omega),atH,Sq _ _ (by omega),aur (by rw[rO];omega)]
def FR(w caps out:List Int)(i:Nat):Prop:= ∃j,j<i∧0<w.getD j 0∧out.getD j 0<caps.getD j 0
theorem qg(N:Nat)(hN:5000000≤N)(K:List Int→List Int→List Int→Int→Int→Option (List Int×Int×Int)){t left:Int}{w caps out:List Int}(c:Ky t w caps out left)(rd:Int): ∀(m n i:Nat) (b:Bool),w.length-i≤m→m<n→i≤w.length→(b=true↔FR w caps out i)→
  c4.nE N K n w caps out left rd (oz (bG w caps out) i) b (i:Int)=
  if left=0∨(bG w caps out).sum=0 then some (out,left,0)else K w caps (rN out (dn (bf left (bG w caps out)) caps out)) (left-(dn (bf left (bG w caps out)) caps out).sum) (W .i64 (rd+1))
 |m,0,i,b,_,hn,_,_=>by omega
 |m,n+1,i,b,hm,hn,hi,hb=>by
  have n64:=c.n
  have e1:=c.l1
  have e2:=c.l2
  unfold c4.nE c4.mf
  by_cases h:i<w.length
  ·have h1:(bG w caps out).getD i 0=if out.getD i 0<caps.getD i 0 then w.getD i 0 else 0:=ez h
   have hw:=fk c.pw i
   have n7: ¬(0<w.getD i 0∧out.getD i 0<caps.getD i 0)→(b=true↔FR w caps out (i+1)):=fun qR=>hb.trans ⟨fun⟨j,hj,h2⟩=>⟨j,by omega,h2⟩,fun⟨j,hj,h2⟩=>⟨j,by
    by_cases tx:j=i
    ·subst tx;exact absurd h2 qR
    ·omega,h2⟩⟩
   rw[aK (by omega),atC,aP (by omega) (by omega),atC,atE]
   by_cases h0:0<w.getD i 0
   ·rw[aK h0,atC,aP (by omega) (by omega),atC,aP (by omega) (by omega),atC]
    by_cases h2:out.getD i 0<caps.getD i 0
    ·rw[atK h2]at h1
     rw[aK h2,atC,atC,aP (by omega) (by rw[lx,fl];omega),atC,ar (by omega) (by omega),←h1,Pg (by rw[fl];exact h)]
     exact qg N hN K c rd (m-1) n (i+1) true (by omega) (by omega) (by omega) ⟨fun _=>⟨i,by omega,h0,h2⟩,fun _=>rfl⟩
    ·rw[atL h2]at h1
     rw[aH (by omega),atH,ar (by omega) (by omega),Cd h1]
     exact qg N hN K c rd (m-1) n (i+1) b (by omega) (by omega) (by omega) (n7 (fun h=>h2 h.2))
   ·have h3:(bG w caps out).getD i 0=0:=by rw[h1];split<;>omega
    rw[aH (by omega),atH,ar (by omega) (by omega),Cd h3]
    exact qg N hN K c rd (m-1) n (i+1) b (by omega) (by omega) (by omega) (n7 (fun h=>h0 h.1))
  ·have hl1:=FO c
   have rf:=c.t1
   have hl0:=c.l
   have kQ:i=(bG w caps out).length:=by rw[fl];omega
   have hp:=m6 (caps:=caps) (out:=out) c.pw
   have hs:=FN (caps:=caps) (out:=out) c.pw
   have hs0:=gd hp
   have hsw:=c.sw
   have hm:may (bG w caps out)=true:=kK.2 ⟨by rw[fl];omega,hp⟩
   rw[aH (by omega),atH]
   by_cases h4:left=0
   ·rw[cz h4,atC,atK (.inl h4)]
   rw[cS h4,atH]
   by_cases h3:(bG w caps out).sum=0
   ·have hbf:b=false:=by
     rw[avT];intro ht
     obtain⟨j,hj,h5⟩:=hb.1 ht
     exact Cc c.pw h3 j (by omega) h5
    rw[atK (.inr h3),hbf];rfl
   ·have hbt:b=true:=hb.2 (by
     obtain⟨j,hj,h5⟩:=Dm c.pw h3
     exact⟨j,by omega,h5⟩)
    rw[hbt,at3,atH,atL (by omega),kQ,Pf,vZ N (by omega) (by omega) (Pd c) (by rw[fl];omega),atB]
    unfold m4
    rw[atL (by rw[hm];simp;omega),atL (by omega),atL h3]
    have:=zP N K c (by omega) rd w.length N 0 (by omega) (by omega) (by omega)
    rw[mid_zero,auT,au9,awp]at this
    exact this
theorem Ce(N:Nat)(hN:5000000≤N){t:Int}{w caps:List Int}: ∀(f n:Nat) (out:List Int) (left:Int),Ky t w caps out left→f≤w.length+1→f<n→
  c4.l8 N n w caps out left ((w.length+1-f:Nat):Int)=some ((qf w caps f out left).1,(qf w caps f out left).2,0)
 |f,0,out,left,c,_,hn=>by omega
 |0,n+1,out,left,c,h,hn=>by
  unfold c4.l8 c4.yh
  rw[dL (by omega)];rfl
 |f+1,n+1,out,left,c,h,hn=>by
  have n64:=c.n
  have hl:=c.l
  unfold c4.l8 c4.yh
  rw[dK (by omega),atC,bM (by omega) (by omega) (by omega),atC,atE]
  have:=qg N hN (c4.l8 N n) c ((w.length+1-(f+1):Nat):Int) w.length N 0 false (by omega) (by omega) (by omega) ⟨(fun h=>nomatch h),fun⟨j,hj,_⟩=>by omega⟩
  rw[Mi,fl]at this
  refine Eq.trans this ?_
  have hS:=gd (m6 (caps:=caps) (out:=out) c.pw)
  unfold qf
  by_cases h1:left=0∨(bG w caps out).sum=0
  ·rw[atK h1,atK h1]
  ·rw[atL h1,atL h1,ar (by omega) (by omega),show(((w.length+1-(f+1):Nat):Int)+1)=((w.length+1-f:Nat):Int)by omega]
   exact Ce N hN f n _ _ (FP c (by omega)) (by omega) (by omega)
def qh(t:Int)(w caps:List Int):List Int×Int×Int:=
 if t<0∨may w=false∨caps.length≠w.length∨may caps=false then([],0,1)else if 9223372036854775808≤w.sum then([],0,2)
 else((qf w caps (w.length+1) (List.replicate w.length 0) t).1,(qf w caps (w.length+1) (List.replicate w.length 0) t).2,0)
theorem mj(n i:Nat):(List.replicate n (0:Int)).getD i 0=0:=by
 rw[atD,awf];split<;>rfl
theorem Cg{t:Int}{w caps:List Int}(ht:0≤t)(rf:t<9223372036854775808)(hw:may w=true)(hc:may caps=true)(hl:caps.length=w.length)(hi:Dg caps)(hs:w.sum<9223372036854775808):Ky t w caps (List.replicate w.length 0) t:=by
 obtain⟨h1,h2⟩:=kK.1 hw
 obtain⟨h3,h4⟩:=kK.1 hc
 refine⟨h1,hl,atT ..,h2,hs,fun i=>⟨fk h4 i,(pe hi i).2⟩,fun i=>by rw[mj];omega,fun i _=>by rw[mj];exact fk h4 i,fun i _=>mj ..,ht,rf,?_⟩
 rw[rM (fun i _=>mj ..)];omega
theorem IV(N:Nat)(hN:5000000≤N){t:Int}{w caps:List Int}(rf:t<9223372036854775808)(hw:Dg w)(hc:Dg caps)(hl:w.length≤1000000):c4 N t w caps=some (qh t w caps):=by
 unfold c4 c4.b qh
 rw[zG N (by omega),atB]
 by_cases h1:t<0
 ·rw[at1 h1,Bool.true_or,atC,atK (.inl h1)]
 rw[at6 h1,av5]
 cases h2:may w
 ·rw[auf,atC,atK (.inr (.inl rfl))]
 rw[at3,atH]
 by_cases h3:caps.length=w.length
 case neg=>rw[cS (by omega),auf,atC,atK (.inr (.inr (.inl h3)))]
 rw[cz (by omega),at3,atH,zG N (by omega),atB]
 cases h4:may caps
 ·rw[atK (.inr (.inr (.inr rfl)))];rfl
 have hp:=gd (kK.1 h2).2
 rw[show(decide ((0:Int)<0)|| !true)=false from rfl,atH,tD N (by omega) hw hl,atB,ry,atB,atL (by simp;omega)]
 by_cases h5:9223372036854775808≤w.sum
 ·rw[atK h5];unfold A7;rw[atL (by omega)];rfl
 rw[atL h5,Dj (by omega) (by omega),at3,atH,bM (by omega) (by omega) (by omega),atC,atE]
 have qM:=(kK.1 h2).1
 have:=Ce N hN (w.length+1) N _ _ (Cg (by omega) rf h2 h4 h3 hc (by omega)) (by omega) (by omega)
 rw[awR]at this
 exact this
end VM
end
