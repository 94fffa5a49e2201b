/- A part of the proof of LotEven of layer 23: what the functions compute, in plain words. -/
import Derived.Test.YthnjnpjmbabcaaaGreatPlain2
import Derived.Test.YthnjnpjmbabcaaaGreatVm8
import Derived.Test.YthnjnpjmbabcaaaGreatPlain1
import Derived.Test.YthnjnpjmbabcaaaGreatPlain0
set_option linter.all false
section
namespace VM
open Go VM.F
variable(N:Nat)
abbrev AwS:=aC×aC×aN
def Sw(a:Int):Prop:=0≤a∧a<6
structure Xj(t:aB):Prop where
 len:t.length≤6
 inst: ∀y∈t,Sw y.1
 q: ∀y∈t,aG y.2.1∧mZ y.2.1
theorem JD{c:ae}{t:aB}(h:lz c t=true)(sE: ∀y∈t,aG y.2.1):Xj t:=by
 unfold lz at h
 obtain⟨h1,h2⟩:=cL.1 h
 have pV:=bl h1
 have h6:c.1.length≤6:=by
  unfold eO at h2
  exact(bl (cL.1 h2).1).2
 have get: ∀(i:Nat) (hi:i<t.length),t.getD i ct=t[i]:=λi hi=>by rw[aZ,bo hi];rfl
 have Qb: ∀i,i<t.length→nF (t.getD i ct).1 (t.getD i ct).2.1 c.1.length i (t.getD (i-1) ct).1:=pV
 have inc: ∀i,i<t.length→(i:Int)≤(t.getD i ct).1:=by
  intro i
  induction i with
  |zero=>intro hi;exact(Qb 0 hi).1
  |succ i ih=>
   intro hi
   have a:=ih ω
   have b:=(Qb (i+1) hi).2.2.2.2 ω
   rw[Nat.add_sub_cancel]at b
   have g: ∀x y:Int,(i:Int)≤x→x<y→((i+1:Nat):Int)≤y:=λx y _ _=>ω
   exact g _ _ a b
 refine⟨?_,λy hy=> ?_,λy hy=> ?_⟩
 ·by_cases h0:t.length=0
  ·omega
  ·have a:=inc (t.length-1) ω
   have b:=(Qb (t.length-1) ω).2.1
   have g: ∀x:Int,((t.length-1:Nat):Int)≤x→x<(c.1.length:Int)→t.length≤6:=λx _ _=>ω
   exact g _ a b
 ·obtain⟨i,hi,e⟩:=fC hy
  have:=Qb i hi
  rw[get i hi,e]at this
  have g: ∀x:Int,0≤x→x<(c.1.length:Int)→Sw x:=λx _ _=>by unfold Sw;omega
  exact g _ this.1 this.2.1
 ·obtain⟨i,hi,e⟩:=fC hy
  have:=Qb i hi
  rw[get i hi,e]at this
  exact⟨sE y hy,this.2.2.2.1⟩
structure afV(z:AwS)(i:Nat):Prop where
 place: ∀x∈z.1,cE x.1 x.2.1
 q: ∀x∈z.1,aG (gJ x)∧mZ (gJ x)
 len:z.1.length≤12*i
 flat: ∀a:Int,(dS a z.1).sum=0
 key: ∀x∈z.2.1,df x.1 x.2.1
 qe: ∀x∈z.2.1,aG (gJ x)
 aAt:z.2.1.length≤2*i
 zero:(z.2.1.map gJ).sum=0
 out:z.2.2.length=i
theorem IL(a:Int)(l m:aC):dS a (l++m)=dS a l++dS a m:=by
 induction l with
 |nil=>rfl
 |cons x t ih=>
  rw[mh,ef,ef,ih]
  split<;>rfl
theorem ahT{v:Int}(h:aG v∧mZ v):aG (0-v)∧mZ (0-v):=by
 unfold aG mZ at*;omega
theorem afV.nil:afV ([],[],[]) 0:=⟨λx hx=>(nomatch hx),λx hx=>(nomatch hx),aI _,λa=>rfl,λx hx=>(nomatch hx),λx hx=>(nomatch hx),aI _,rfl,rfl⟩
theorem gl{c:ae}{b:aq}(h:dT c b=true):fx b.2.2.1=true∧dq b.2.2.2.1=true:=by
 unfold dT at h
 have h1:=(cL.1 (cL.1 h).2).2
 have h2:=cL.1 h1
 have h3:=(cL.1 (cL.1 h2.2).2).1
 refine⟨h2.1,?_⟩
 unfold ov at h3
 exact(cL.1 h3).2
structure Sx(b:aq):Prop where
 w:ow b
 r:b.2.2.1.length≤90000
 s:b.2.2.2.1.length≤90000
end VM
end
section
namespace VM
open Go VM.F
variable(N:Nat)
theorem Bj(x:Int):aM x x=true:=cZ rfl
theorem ahU(x:lT):ti (.pair (.int .i64) (.pair (.int .i64) .unit)) x x=true:=by
 show(aM x.1 x.1&&(aM x.2.1 x.2.1&&true))=true
 rw[Bj,Bj];rfl
theorem JE{F:Nat→Int→Option Bool}{len:Nat}(hs: ∀n (i:Nat),i<len→F n ((i+1:Nat):Int)=some true→F (n+1) (i:Int)=some true)(he: ∀n,F (n+1) (len:Int)=some true): ∀(m n i:Nat),len-i≤m→m<n→i≤len→F n (i:Int)=some true
 |m,0,i,_,hn,_=>ω
 |m,n+1,i,hm,hn,hi=>by
  by_cases h:i<len
  ·exact hs n i h (JE hs he (m-1) n (i+1) ω ω ω)
  ·have:i=len:=ω
   subst this;exact he n
end VM
end
section
namespace VM
open Go VM.F Go.RowKit
variable(N:Nat)
def gL(a b:Int):aC→Int
 |[]=>0
 |x::t=>if x.1=a then(if x.2.1=b then x.2.2.1 else gL a b t)else gL a b t
theorem jq(a b:Int)(x:eP)(t:aC):gL a b (x::t)=if x.1=a then(if x.2.1=b then x.2.2.1 else gL a b t)else gL a b t:=rfl
def fL(l:aC)(a b:Int):Int:=if dq l then gL a b l else 0
def vY(l:aC)(a b:Int):Int:=if fx l then gL a b l else 0
theorem K1{l:aC}(hl:l.length≤100000)(hN:200000≤N)(a b:Int):Dx N l a b=some (fL l a b):=by
 unfold Dx Dx.b fL
 rw[mR N hl hN,aw,cond_not]
 have:=Dq l bW (λn i=>Dx.l4 N n l a b i) (λt=>some (gL a b t)) (λn i hi hr=> ?_) (λn=> ?_) N ω
 ·rw[this];cases dq l<;>rfl
 ·unfold Dx.l4 Dx.ew
  rw[aP ω,aj,aY ω ω,aj,aj,aj,aF,ay (x:=(i:Int)+1) ω ω,ag i,hr,aR,aR,jq]
  split
  ·split<;>rfl
  ·rfl
 ·unfold Dx.l4 Dx.ew
  rw[aK ω,au];rfl
theorem Xk{l:aC}(hl:l.length≤100000)(hN:200000≤N)(a b:Int):ka N l a b=some (vY l a b):=by
 unfold ka ka.b vY
 rw[Gu N hl hN,aw,cond_not]
 have:=Dq l bW (λn i=>ka.l4 N n l a b i) (λt=>some (gL a b t)) (λn i hi hr=> ?_) (λn=> ?_) N ω
 ·rw[this];cases fx l<;>rfl
 ·unfold ka.l4 ka.ew
  rw[aP ω,aj,aY ω ω,aj,aj,aj,aF,ay (x:=(i:Int)+1) ω ω,ag i,hr,aR,aR,jq]
  split
  ·split<;>rfl
  ·rfl
 ·unfold ka.l4 ka.ew
  rw[aK ω,au];rfl
theorem K2{l:aC}(h: ∀i,i<l.length→aG (gJ (l.getD i bW))):gF l:=λx hx=>by
 obtain⟨i,hi,e⟩:=fC hx
 have:=h i hi
 rw[aZ,bo hi]at this
 rw[←e];exact this
namespace Pure
end Pure
end VM
end
section
namespace VM
open Go VM.F
variable(N:Nat)
theorem GH{l:aC}(h:gF l)(a b:Int):aG (gL a b l):=by
 induction l with
 |nil=>show aG 0;decide
 |cons x t ih=>
  have ih:=ih (λy hy=>h y (a6 _ hy))
  rw[jq]
  split
  ·split
   ·exact h x (bu ..)
   ·exact ih
  ·exact ih
theorem Xl{l:aC}(h:gF l)(a b:Int):aG (vY l a b):=by
 unfold vY
 split
 ·exact GH h a b
 ·exact⟨δ,δ⟩
def kK(a:Int):aC→aB
 |[]=>[]
 |x::t=>if x.1=a then(x.2.1,(x.2.2.1,()))::kK a t else kK a t
theorem py(a:Int)(x:eP)(t:aC):kK a (x::t)=if x.1=a then(x.2.1,(x.2.2.1,()))::kK a t else kK a t:=rfl
def posOf(l:aC)(a:Int):aB:=if dq l then kK a l else []
theorem GI(a:Int): ∀l:aC,(kK a l).length≤l.length
 |[]=>aI _
 |x::t=>by
  have:=GI a t
  rw[py,aU]
  split
  ·rw[aU];omega
  ·omega
theorem Uq(a:Int)(l:aC):(posOf l a).length≤l.length:=by
 unfold posOf
 split
 ·exact GI a l
 ·exact bA _
theorem mI{a:Int}{y:lT}: ∀{l:aC},y∈kK a l→ ∃x∈l,x.1=a∧y=(x.2.1,(x.2.2.1,()))
 |[],h=>nomatch h
 |x::t,h=>by
  rw[py]at h
  by_cases e:x.1=a
  ·rw[ak e]at h
   rcases bm.1 h with h|h
   ·exact⟨x,bu ..,e,h⟩
   ·obtain⟨x',hx,h'⟩:=mI h
    exact⟨x',a6 _ hx,h'⟩
  ·rw[ah e]at h
   obtain⟨x',hx,h'⟩:=mI h
   exact⟨x',a6 _ hx,h'⟩
theorem Xm{l:aC}(h:gF l)(a:Int): ∀y∈posOf l a,aG y.2.1:=λy hy=>by
 unfold posOf at hy
 split at hy
 ·obtain⟨x,hx,_,rfl⟩:=mI hy
  exact h x hx
 ·nomatch hy
theorem anp{l:aC}(hl:l.length≤100000)(hN:200000≤N)(a:Int):Dy N l a=some (posOf l a):=by
 unfold Dy Dy.b posOf
 rw[Gv N hl hN,aw,cond_not]
 have:=vr l bW (λn i s=>Dy.l5 N n a s l (l.length:Int) i) (λt s=>some (s++kK a t)) (λi (s:aB)=>s.length≤i) (λn i s hi hI hr=> ?_) (λn s hI=> ?_) l.length N 0 [] ω ω ω (aI _)
 ·have e:Dy.l5 N N a [] l (l.length:Int) 0=some (kK a l):=this
  rw[e];cases dq l<;>rfl
 ·unfold Dy.l5 Dy.e8
  rw[aP ω,aj,aY ω ω,aj,aF,ay (x:=(i:Int)+1) ω ω,ag i,aR,ch (by rw[aJ];omega),aj,py]
  split
  ·rw[hr _ (by rw[aX,aJ];omega),bU];rfl
  ·exact hr s ω
 ·unfold Dy.l5 Dy.e8
  rw[aK ω,au]
  show some s=some (s++[])
  rw[cN]
theorem Xn{l:aC}(hl:l.length≤100000)(hN:200000≤N)(a:Int):yW N l a=some (posOf l a):=by
 unfold yW yW.b posOf
 rw[mR N hl hN,aw,cond_not]
 have:=vr l bW (λn i s=>yW.l5 N n l a s i) (λt s=>some (s++kK a t)) (λi (s:aB)=>s.length≤i) (λn i s hi hI hr=> ?_) (λn s hI=> ?_) l.length N 0 [] ω ω ω (aI _)
 ·have e:yW.l5 N N l a [] 0=some (kK a l):=this
  rw[e];cases dq l<;>rfl
 ·unfold yW.l5 yW.e8
  rw[aP ω,aj,aY ω ω,aj,aj,aj,aF,ay (x:=(i:Int)+1) ω ω,ag i,aR,ch (by rw[aJ];omega),aj,py]
  split
  ·rw[hr _ (by rw[aX,aJ];omega),bU];rfl
  ·exact hr s ω
 ·unfold yW.l5 yW.e8
  rw[aK ω,au]
  show some s=some (s++[])
  rw[cN]
def xt(c:ae)(y:lT):Int:=(c.1.getD y.1.toNat aQ).2.2.2.1
def N1(c:ae)(l:aB):List Int:=l.map λy=>(y.2.1.natAbs:Int)*xt c y
def tA(c:ae)(l:aB):Int:=if lz c l then(N1 c l).sum else 0
def N2(c:ae)(l:aB):Int:=if lz c l then 0 else 1
def s7(a n:Int):Prop:=0≤a∧a<n
structure ahV(c:ae)(y:lT):Prop where
 place:s7 y.1 c.1.length
 size:(y.2.1.natAbs:Int)≤9223372036854775807
 q:aG y.2.1
 ahW:0≤xt c y∧xt c y≤1000000000
theorem K3{c:ae}{t:aB}(h:lz c t=true)(sE: ∀y∈t,aG y.2.1): ∀y∈t,ahV c y:=λy hy=>by
 unfold lz at h
 obtain⟨h1,h2⟩:=cL.1 h
 obtain⟨i,hi,e⟩:=fC hy
 have a:=bl h1 i hi
 unfold mS nF at a
 rw[aZ,bo hi]at a
 simp only[lG,e]at a
 have hp:s7 y.1 c.1.length:=⟨a.1,a.2.1⟩
 have dU:y.1.toNat<c.1.length:=by
  have g: ∀x:Int,s7 x c.1.length→x.toNat<c.1.length:=λx hx=>by unfold s7 at hx;omega
  exact g _ hp
 have hq:=sE y hy
 refine⟨hp,?_,hq,?_⟩
 ·have g: ∀x:Int,aG x→mZ x→(x.natAbs:Int)≤9223372036854775807:=λx h1 h2=>by unfold aG at h1;unfold mZ at h2;omega
  exact g _ hq a.2.2.2.1
 ·unfold eO at h2
  have b:=bl (cL.1 (cL.1 h2).2).1 _ dU
  exact b.2.2.2
theorem N3{c:ae}{y:lT}(h:ahV c y):0≤(y.2.1.natAbs:Int)*xt c y∧(y.2.1.natAbs:Int)*xt c y≤9223372036854775807000000000:=by
 have:=mul_lt (a:=(y.2.1.natAbs:Int)) (b:=xt c y) (m:=9223372036854775807) (n:=1000000000) ω h.ahW.1 h.size h.ahW.2
 exact⟨this.1,by have:=this.2;omega⟩
theorem Sy{B:Int}(hB:0≤B): ∀{ws:List Int},(∀x∈ws,0≤x∧x≤B)→0≤ws.sum∧ws.sum≤B*(ws.length:Int)
 |[],_=>by simp
 |x::t,h=>by
  have h0:=h x (bu ..)
  have ih:=Sy hB (ws:=t) (λy hy=>h y (a6 _ hy))
  rw[cD,aU]
  have e:B*((t.length+1:Nat):Int)=B*(t.length:Int)+B:=by rw[wK,jz];simp
  rw[e]
  omega
theorem Ur{c:ae}{t:aB}(h: ∀y∈t,ahV c y): ∀x∈N1 c t,0≤x∧x≤9223372036854775807000000000:=λx hx=>by
 obtain⟨y,hy,rfl⟩:=cQ.1 hx
 exact N3 (h y hy)
theorem GJ{c:ae}{t:aB}(sE: ∀y∈t,aG y.2.1):0≤tA c t∧tA c t≤92233720368547758070000000000:=by
 unfold tA
 by_cases h:lz c t=true
 ·rw[ak h]
  have hg:=(JD h sE).len
  have:=Sy ω (Ur (K3 h sE))
  have hl:(N1 c t).length=t.length:=fE ..
  rw[hl]at this
  omega
 ·rw[ah h];omega
theorem Xo{x:Int}(h:0≤x∧x≤92233720368547758070000000000):c7 x:=by unfold c7;omega
theorem aaG(hN:2000000≤N)(c:ae){t:aB}(hl:t.length≤100000)(sE: ∀y∈t,aG y.2.1):F47 N c t=some (cO (tA c t),N2 c t):=by
 have MO:=GJ (c:=c) sE
 unfold F47 Ek Ek.b
 rw[Sr N ω c hl,aw,cond_not]
 unfold tA N2 at*
 by_cases h:lz c t=true
 ·have hC:=K3 h sE
  rw[h,ak rfl]at MO
  rw[h,aj,ak rfl,ak rfl]
  have:=vr t ct (λn i ws=>Ek.l5 N n () c ct (ws.map cO) t (t.length:Int) i) (λu ws=>some ((NN (ws++N1 c u).sum).1,(0:Int))) (λi (ws:List Int)=>ws.length≤i∧ ∀x∈ws,c7 x)
   (λn i ws hi hI hr=> ?_) (λn ws hI=> ?_) t.length N 0 [] ω ω ω ⟨aI _,λx hx=>nomatch hx⟩
  ·have e:Ek.l5 N N () c ct [] t (t.length:Int) 0=some ((NN (N1 c t).sum).1,(0:Int)):=this
   rw[e]
   unfold NN
   rw[ak (Xo MO)];rfl
  ·unfold Ek.l5 Ek.e8 F98
   have hm:t.getD i ct∈t:=by
    rw[aZ,bo hi];exact fg hi
   have hy:=hC _ hm
   have h1:=N3 hy
   have hq:=hy.q
   unfold aG at hq
   have hp:=hy.place
   have hs:=hy.size
   have hrt:=hy.ahW
   unfold xt at hrt
   rw[aP ω,aj,aY ω ω,aj,aF,AX N hq.1 hq.2,aw,aY hp.1 hp.2,aj,aw,ay (x:=((t.getD i ct).2.1.natAbs:Int)) ω ω,KQ N ω ω (fU δ hrt.1) (wF hrt.2 δ),aw,ch (by rw[fE,aJ];omega),aj,ay (x:=(i:Int)+1) ω ω,ag i]
   have:=hr (ws++[((t.getD i ct).2.1.natAbs:Int)*xt c (t.getD i ct)]) ⟨by rw[aX,aJ];omega,GF hI.2 (Xo ⟨h1.1,ω⟩)⟩
   rw[dL]at this
   refine this.trans ?_
   rw[bU];rfl
  ·unfold Ek.l5 Ek.e8
   rw[aK ω,au,Sl N hI.2 ω ω,aw]
   show _=some ((NN (ws++[]).sum).1,(0:Int))
   rw[cN]
 ·rw[lF]at h
  rw[h,au];rfl
theorem xu{a:Int}: ∀{l:aC},Ej (l.map keyOf)→((kK a l).map (λy=>(y.1:Int))).Pairwise (· < ·)
 |[],_=>List.Pairwise.nil
 |x::t,h=>by
  obtain⟨h1,h2⟩:=gX.1 h
  have ih:=xu (a:=a) h2
  rw[py]
  by_cases e:x.1=a
  ·rw[ak e,bZ]
   refine gX.2 ⟨λz hz=> ?_,ih⟩
   obtain⟨y,hy,rfl⟩:=cQ.1 hz
   obtain⟨x',hx,e',rfl⟩:=mI hy
   have hk:=h1 (keyOf x') (gi hx)
   have g: ∀p q r s:Int,p=a→r=a→mQ p q r s→q<s:=λp q r s h1 h2 h=>by unfold mQ at h;omega
   exact g _ _ _ _ e e' hk
  ·rw[ah e];exact ih
def jr(p:Int):Prop:=1≤p∧p≤1000000000000
instance(p:Int):Decidable (jr p):=by unfold jr;infer_instance
theorem GK(p:Int):Vu N p=some (decide (jr p)):=(iW N p).trans (gz some (oY.2 Iff.rfl))
def kL(a b c d e:Int):Prop:=(0≤a∧a≤24)∧(0≤b∧b≤24)∧a≠b∧(0≤c∧c<6)∧(1≤d∧d≤1000000000)∧jr e
instance(a b c d e:Int):Decidable (kL a b c d e):=by unfold kL;infer_instance
def nH(t:tB):Prop:=kL t.1 t.2.1 t.2.2.1 t.2.2.2.1 t.2.2.2.2.1
instance:DecidablePred nH:=λt=>by unfold nH;infer_instance
theorem N4(a b c d e:Int):cond (cY 0 a) (cond (cY a 24) (cond (cY 0 b) (cond (cY b 24) (cond (!aM a b) (cond (cY 0 c) (cond (aT c 6) (cond (cY 1 d) (cond (cY d 1000000000) (some (decide (jr e))) (some false)) (some false)) (some false)) (some false)) (some false)) (some false)) (some false)) (some false)) (some false)=some (decide (kL a b c d e)):=by
 simp only[cK,cond_not,aR,c4]
 by_cases hP:kL a b c d e
 ·have hp:=hP.2.2.2.2.2
  rw[bq hP,bq hp]
  unfold kL at hP
  repeat' split
  all_goals first|rfl|omega
 ·rw[bK hP]
  by_cases hp:jr e
  ·unfold kL at hP
   repeat' split
   all_goals first|rfl|(exact absurd ⟨ω,ω,ω,ω,ω,hp⟩ hP)
  ·rw[bK hp]
   repeat' split
   all_goals rfl
theorem yd(t:tB):Xp N t=some (decide (nH t)):=by
 unfold Xp
 rw[GK,aw]
 exact N4 _ _ _ _ _
def Bk(a x:Int):eP:=if a=0 then((2:Int),((0:Int),(x,())))else((5:Int),(a,(x,())))
def QS(t:tB)(p:Int):aC:=if p-t.2.2.2.2.1=0 then []else [Bk t.1 ((p-t.2.2.2.2.1)*t.2.2.2.1),Bk t.2.1 (-((p-t.2.2.2.2.1)*t.2.2.2.1))]
theorem Ch(a x:Int)(N:Nat):K4 N a=some ((Bk a x).1,(Bk a x).2.1):=by
 unfold K4 Bk
 rw[aR]
 by_cases h:a=0
 ·rw[ak h,ak h]
 ·rw[ah h,ah h]
theorem nI(a x:Int):gJ (Bk a x)=x:=by unfold Bk;split<;>rfl
theorem JF{d q:Int}(h1: -1000000000000≤d∧d≤1000000000000)(h2:1≤q∧q≤1000000000): -1000000000000000000000≤d*q∧d*q≤1000000000000000000000∧(d*q=0↔d=0):=by
 refine⟨?_,?_,?_⟩
 ·have:=qf h1.1 (show 0≤q by omega)
  have h3: -1000000000000*1000000000≤ -1000000000000*q:=ω
  omega
 ·have:=qf h1.2 (show 0≤q by omega)
  have h3:1000000000000*q≤1000000000000*1000000000:=ω
  omega
 ·rw[Int.mul_eq_zero];omega
theorem IM(hN:4000000≤N){t:tB}{p:Int}(ht:nH t)(hp:jr p):QT N t p=some ((QS t p).map jU,0):=by
 unfold QT QS
 have hq:=ht.2.2.2.2.1
 have he:=ht.2.2.2.2.2
 rw[yd,aw,bq ht,bR,au,GK,aw,bq hp,bR,au]
 unfold jr at hp he
 generalize t.2.2.2.2.1=e at*
 generalize t.2.2.2.1=q at*
 have hd: -1000000000000≤p-e∧p-e≤1000000000000:=ω
 have hn:=JF hd hq
 have Uo:c7 ((p-e)*q):=by unfold c7;omega
 rw[ay (x:=p-e) ω ω,dp N ω ω ω,aw,dp N ω ω ω,aw,A3 N hN ((Fit.i64 ω ω).mono ω) ((Fit.i64 ω ω).mono ω),aw,qx,aw,aR]
 by_cases h:p-e=0
 ·rw[ak h,ak (by rw[hn.2.2.2 h];rfl)];rfl
 ·rw[ah h,ah (λk=>h (hn.2.2.1 (nE.1 k))),Ch t.1 ((p-e)*q),aw,Ch t.2.1 (-((p-e)*q)),aw,oq N hN (ET Uo),aw,bZ,bZ,gY]
  unfold jU
  rw[nI,nI]
theorem iu{c:ae}{b:aq}(h:dT c b=true):b.2.2.2.2.1.length=c.1.length∧eY b.2.2.2.2.1=true:=by
 unfold dT at h
 simp only[bQ]at h
 have h1:=bl h.2.2.2.2.2.2.1
 unfold du at h1
 exact⟨ω,h.2.2.2.2.2.2.2.2.2.2⟩
theorem N5{l:List Int}(h:eY l=true){i:Nat}(hi:i<l.length):jr (l.getD i 0):=bl h i hi
theorem vB{c:ae}{b:aq}(h:dT c b=true):eO c=true:=by
 unfold dT at h
 exact(cL.1 h).1
def nJ(k:Int):Nat→aO→List Int
 |_,[]=>[]
 |i,x::t=>if x.1=k then(i:Int)::nJ k (i+1) t else nJ k (i+1) t
theorem Bl(k:Int)(i:Nat)(x:cv)(t:aO):nJ k i (x::t)=if x.1=k then(i:Int)::nJ k (i+1) t else nJ k (i+1) t:=rfl
def iY(c:ae)(k:Int):List Int:=if eO c then nJ k 0 c.1 else []
theorem QU(hN:200000≤N)(c:ae)(hl:c.1.length≤100000)(k:Int):pz N c k=some (iY c k):=by
 unfold pz pz.b iY
 rw[nB N ω,aw,cond_not]
 have:=vr c.1 aQ (λn i s=>pz.l5 N n k c s i) (λt s=>some (s++nJ k (c.1.length-t.length) t)) (λi (s:List Int)=>s.length≤i) (λn i s hi hI hr=> ?_) (λn s hI=> ?_) c.1.length N 0 [] ω ω ω (aI _)
 ·have e:pz.l5 N N k c [] 0=some (nJ k 0 c.1):=by
   refine this.trans ?_
   rw[c9,ri];rfl
  rw[e];cases eO c<;>rfl
 ·unfold pz.l5 pz.e8
  have e1:c.1.length-(c.1.getD i aQ::c.1.drop (i+1)).length=i:=by rw[aU,dy];omega
  have e2:c.1.length-(c.1.drop (i+1)).length=i+1:=by rw[dy];omega
  rw[e2]at hr
  rw[aP ω,aj,aY ω ω,aj,aF,ay (x:=(i:Int)+1) ω ω,ag i,aR,ch (by rw[aJ];omega),aj,e1,Bl]
  split
  ·rw[hr _ (by rw[aX,aJ];omega),bU];rfl
  ·exact hr s ω
 ·unfold pz.l5 pz.e8
  rw[aK ω,au]
  show some s=some (s++[])
  rw[cN]
theorem Dz{c:ae}(h:eO c=true):c.1.length≤6∧ ∀i,i<c.1.length→0≤(c.1.getD i aQ).1∧(c.1.getD i aQ).1≤3:=by
 unfold eO at h
 simp only[bQ]at h
 have h1:=bl h.1
 have h2:=bl h.2.1
 exact⟨h1.2,λi hi=>(h2 i hi).1⟩
theorem Xq{l:aC}(h:gF l)(a b:Int):aG (fL l a b):=by
 unfold fL
 cases dq l
 ·show aG 0;decide
 ·exact GH h a b
theorem aaH{u v:Int}(hu:c7 u)(hv:c7 v)(hs:c7 (u+v)):F44 N (cO u) (cO v)=some (cO (u+v),true):=by
 unfold F44 cO
 unfold c7 at*
 dsimp only
 have hp:0≤u%18446744073709551616∧u%18446744073709551616<18446744073709551616:=ω
 have hq:0≤v%18446744073709551616∧v%18446744073709551616<18446744073709551616:=ω
 rw[nA,nA,uj N ω ω ω ω,aw]
 dsimp only
 have hc:0≤(u%18446744073709551616+v%18446744073709551616+0)/18446744073709551616∧(u%18446744073709551616+v%18446744073709551616+0)/18446744073709551616≤1:=ω
 have e1:(u%18446744073709551616+v%18446744073709551616+0)%18446744073709551616=(u+v)%18446744073709551616:=ω
 have e2:u/18446744073709551616+v/18446744073709551616+(u%18446744073709551616+v%18446744073709551616+0)/18446744073709551616=(u+v)/18446744073709551616:=ω
 have h3: -9223372036854775808≤(u+v)/18446744073709551616∧(u+v)/18446744073709551616<9223372036854775808:=ω
 rw[uj N ω ω hc.1 hc.2,aw]
 dsimp only
 have e3:W .i64 ((u/18446744073709551616%18446744073709551616+v/18446744073709551616%18446744073709551616+(u%18446744073709551616+v%18446744073709551616+0)/18446744073709551616)%18446744073709551616)=(u+v)/18446744073709551616:=by
  rw[gU];split<;>omega
 rw[e3,e1]
 have key: ∀A B C:Int,A=u/18446744073709551616→B=v/18446744073709551616→C=(u+v)/18446744073709551616→(A<0∧B<0→C<0)∧(¬A<0∧ ¬B<0→ ¬C<0):=λA B C _ _ _=>ω
 have k:=key _ _ _ rfl rfl rfl
 simp only[uk,rm]
 by_cases a:u/18446744073709551616<0<;>by_cases b:v/18446744073709551616<0
 ·have c:=k.1 ⟨a,b⟩
  rw[bq a,bq b,bq c];rfl
 ·rw[bq a,bK b];rfl
 ·rw[bK a,bq b];rfl
 ·have c:=k.2 ⟨a,b⟩
  rw[bK a,bK b,bK c];rfl
end VM
end
section
namespace VM
open Go VM.F
variable(N:Nat)
def xv(l:List Int)(k:Int):Int:=l.getD k.toNat 0
def ins(l:List Int):List Int→Int→List Int
 |[],i=>[i]
 |k::t,i=>if xv l i≤xv l k then k::ins l t i else i::k::t
def dr(l:List Int):Nat→List Int
 |0=>[]
 |n+1=>ins l (dr l n) n
def iv(l:List Int):List Int:=dr l l.length
def uA(l:List Int)(a b:Int):Prop:=xv l b<xv l a∨(xv l b=xv l a∧a<b)
theorem Sz(l:List Int): ∀(o:List Int) (i:Int),(ins l o i).length=o.length+1
 |[],i=>rfl
 |k::t,i=>by unfold ins;split<;>simp[Sz l t i]
theorem mT(l:List Int): ∀n,(dr l n).length=n
 |0=>rfl
 |n+1=>by unfold dr;rw[Sz,mT l n]
theorem rW(l:List Int):(iv l).length=l.length:=mT l _
theorem K5(l:List Int){x:Int}: ∀{o:List Int} {i:Int},x∈ins l o i↔x=i∨x∈o
 |[],i=>by simp[ins]
 |k::t,i=>by
  unfold ins;split
  ·rw[bm,K5 l,bm]
   exact⟨λh=>h.elim (λh=> .inr (.inl h)) (λh=>h.elim .inl (λh=> .inr (.inr h))),λh=>h.elim (λh=> .inr (.inl h)) (λh=>h.elim .inl (λh=> .inr (.inr h)))⟩
  ·rw[bm]
theorem s8(l:List Int){x:Int}: ∀{n:Nat},x∈dr l n↔0≤x∧x<n
 |0=>⟨(λh=>nomatch h),λh=>absurd h.1 ω⟩
 |n+1=>by unfold dr;rw[K5,s8 l];omega
theorem Bm(l:List Int): ∀{o:List Int} {i:Int},o.Pairwise (uA l)→(∀x∈o,x<i)→(ins l o i).Pairwise (uA l)
 |[],i,_,_=>Ff _ _
 |k::t,i,h,hi=>by
  rw[gX]at h
  have hk:k<i:=hi k (bu ..)
  unfold ins;split
  ·rename_i hle
   rw[gX]
   refine⟨λx hx=> ?_,Bm l h.2 (λx hx=>hi x (a6 _ hx))⟩
   rcases(K5 l).1 hx with rfl|hx
   ·unfold uA;omega
   ·exact h.1 x hx
  ·rename_i hle
   rw[gX,gX]
   refine⟨λx hx=> ?_,h.1,h.2⟩
   rcases bm.1 hx with rfl|hx
   ·unfold uA;omega
   ·have:=h.1 x hx;unfold uA at*;omega
theorem kZ(l:List Int): ∀n,(dr l n).Pairwise (uA l)
 |0=>List.Pairwise.nil
 |n+1=>by unfold dr;exact Bm l (kZ l n) (λx hx=>((s8 l).1 hx).2)
theorem QV(l:List Int): ∀(o:List Int) (i:Int) (p:Nat),p≤o.length→(∀j,j<p→xv l i≤xv l (o.getD j 0))→(p<o.length→xv l (o.getD p 0)<xv l i)→ins l o i=o.take p++i::o.drop p
 |[],i,p,hp,_,_=>by simp at hp;subst hp;rfl
 |k::t,i,0,hp,_,h=>by
  unfold ins;rw[ah (by have:=h (by simp);simp at this;omega)];rfl
 |k::t,i,p+1,hp,h0,h=>by
  unfold ins
  have h1:xv l i≤xv l k:=h0 0 ω
  rw[ak h1,QV l t i p (by simpa using hp) (λj hj=>by have:=h0 (j+1) ω;simpa using this) (λH4=>by have:=h (by simpa using H4);simpa using this)]
  rfl
theorem SA(l:List Int)(f:Int→Int): ∀(o:List Int) (i:Int),((ins l o i).map f).sum=(o.map f).sum+f i
 |[],i=>by simp[ins]
 |k::t,i=>by
  unfold ins;split
  ·rw[bZ,cD,SA l f t i,bZ,cD];omega
  ·simp only[bZ,cD];omega
theorem DA(l r:List Int): ∀n,n≤r.length→((dr l n).map (xv r)).sum=(r.take n).sum
 |0,_=>rfl
 |n+1,h=>by
  unfold dr;rw[SA,DA l r n ω,im r ω]
  unfold xv;rw[aF]
theorem QW(l r:List Int)(h:l.length=r.length):((iv l).map (xv r)).sum=r.sum:=by
 unfold iv;rw[DA l r _ ω,gh ω]
theorem Bn{o:List Int}{j:Nat}(h:j<o.length):o.getD j 0∈o:=by
 rw[aZ,bo h];exact fg h
theorem Xr{l o:List Int}(h:o.Pairwise (uA l)){j k:Nat}(hjk:j<k)(hk:k<o.length):uA l (o.getD j 0) (o.getD k 0):=by
 rw[qk]at h
 rw[aZ,bo ω,aZ,bo hk]
 exact h j k ω hk hjk
theorem GM{l:List Int}{n j:Nat}(h:j<n):0≤(dr l n).getD j 0∧(dr l n).getD j 0<n:=by
 exact(s8 l).1 (Bn (by rw[mT];exact h))
theorem GN{α:Type}(N:Nat){l:List α}{i:Nat}{x:α}(hi:i≤l.length)(hl:l.length<1000000):uY N l (i:Int) [x]=some (l.take i++x::l.drop i):=by
 unfold uY
 rw[ak ⟨ω,ω,rfl,by unfold Al;omega⟩]
 rfl
theorem N6(N:Nat)(K:List Int→List Int→Int→Int→Option (List Int)){l:List Int}(hl:l.length≤100000)(i:Nat)(hi:i<l.length): ∀(p n:Nat),p≤i→p<n→(∀j,p≤j→j<i→xv l ((dr l i).getD j 0)<xv l i)→
  iZ.l6 N K n l (dr l i) (i:Int) (p:Int) (l.length:Int) (i:Int)=K l (dr l (i+1)) (l.length:Int) ((i+1:Nat):Int)
 |p,0,_,hn,_=>ω
 |p,n+1,hp,hn,h=>by
  have hlen:=mT l i
  have fin: ∀h2:(∀j,j<p→xv l i≤xv l ((dr l i).getD j 0)),ins l (dr l i) i=(dr l i).take p++(i:Int)::(dr l i).drop p:=λh2=>QV l _ _ p ω h2 (λh3=>h p ω ω)
  unfold iZ.l6 iZ.vX
  match p,hp,hn,h,fin with
  |0,hp,hn,h,fin=>
   have e:=fin (λj hj=>ω)
   rw[aK ω,au,GN N ω ω,aw,←e,ay ω ω]
   rfl
  |p+1,hp,hn,h,fin=>
   have hr:=GM (l:=l) (n:=i) (j:=p) ω
   have e1:W .i64 (((p+1:Nat):Int)-1)=(p:Int):=by rw[ay ω ω];omega
   have zk:=N6 N K hl i hi p n ω ω
   dsimp only
   rw[e1,aF]
   unfold xv at*
   rw[aF]at*
   rw[aP ω,aj,aY ω ω,aj,aY ω ω,aj,aY ω ω,aj]
   by_cases h3:l.getD ((dr l i).getD p 0).toNat 0<l.getD i 0
   ·rw[aP h3,aj]
    exact zk (λj h4 h5=>by
     by_cases hjp:j=p
     ·rw[hjp];exact h3
     ·exact h j ω h5)
   ·rw[aK ω,au,GN N ω ω,aw,ay ω ω]
    rw[←fin (λj hj=>by
     by_cases hjp:j=p
     ·rw[hjp];omega
     ·have:=Xr (kZ l i) (j:=j) (k:=p) ω ω
      unfold uA xv at this;omega)]
    rfl
theorem JG(N:Nat){l:List Int}(hl:l.length≤100000)(hN:l.length<N): ∀(m n i:Nat),l.length-i≤m→m<n→i≤l.length→
  iZ.l3 N n l (dr l i) (l.length:Int) (i:Int)=some (iv l)
 |m,0,i,_,hn,_=>ω
 |m,n+1,i,hm,hn,hi=>by
  unfold iZ.l3 iZ.lD
  by_cases h:i<l.length
  ·rw[aP ω,aj,mT,N6 N _ hl i h i N ω ω (λj _ _=>ω)]
   exact JG N hl hN (m-1) n (i+1) ω ω ω
  ·rw[aK ω,au]
   unfold ahX
   rw[db ω ω ω ω,aj,aw]
   simp only[cT,c9,aF,fD]
   rw[show i=l.length by omega];rfl
theorem Xs{l:List Int}(hl:l.length≤100000)(hN:l.length<N):iZ N l=some (iv l):=by
 unfold iZ iZ.b
 rw[cC ω ω ω,aj]
 exact JG N hl hN l.length N 0 ω ω ω
theorem JH(N:Nat)(K:List Int→List Int→Int→Option (List Int)){l:List Int}(hl:l.length≤100000)(i:Nat)(hi:i<l.length): ∀(m n p:Nat),i-p≤m→m<n→p≤i→(∀j,j<p→xv l i≤xv l ((dr l i).getD j 0))→
  fy.l6 N K n l (dr l i) (i:Int) (p:Int)=K l (dr l (i+1)) ((i+1:Nat):Int)
 |m,0,p,_,hn,_,_=>ω
 |m,n+1,p,hm,hn,hp,h=>by
  have hlen:=mT l i
  have fin: ∀h2:(p<i→xv l ((dr l i).getD p 0)<xv l i),fy.j8 N K l (dr l i) (i:Int) (p:Int)=K l (dr l (i+1)) ((i+1:Nat):Int):=λh2=>by
   have e:=QV l (dr l i) i p ω h (λh3=>h2 ω)
   unfold fy.j8 fy.JC
   dsimp only
   rw[db ω ω ω ω,aj,aF,aF,cT,c9]
   rw[ch (by rw[bE];omega),aj,ch (by rw[bE];simp only[aJ];omega),aj,db ω ω ω ω,aj,ch (by simp only[aX,bE,dy,aJ];omega),aj,ay ω ω,fD,bU,List.singleton_append,←e]
   rfl
  unfold fy.l6 fy.vX
  by_cases hpi:p<i
  ·have hr:=GM (l:=l) (n:=i) (j:=p) hpi
   rw[aP ω,aj,aY ω ω,aj,aF,aF,aY ω ω,aj,aY ω ω,aj]
   by_cases h3:l.getD i 0≤l.getD ((dr l i).getD p 0).toNat 0
   ·rw[dC h3,aj,ay ω ω]
    refine JH N K hl i hi (m-1) n (p+1) ω ω ω (λj hj=> ?_)
    by_cases hjp:j=p
    ·rw[hjp];unfold xv;rw[aF];exact h3
    ·exact h j ω
   ·rw[dn ω,au]
    exact fin (λ_=>by unfold xv;rw[aF];omega)
  ·rw[aK ω,au]
   exact fin (λh=>absurd h hpi)
theorem GO(N:Nat){l:List Int}(hl:l.length≤100000)(hN:l.length<N): ∀(m n i:Nat),l.length-i≤m→m<n→i≤l.length→
  fy.l3 N n l (dr l i) (i:Int)=some (iv l)
 |m,0,i,_,hn,_=>ω
 |m,n+1,i,hm,hn,hi=>by
  unfold fy.l3 fy.lD
  by_cases h:i<l.length
  ·have:=JH N (fy.l3 N n) hl i h i N 0 ω ω ω (λj hj=>ω)
   rw[aP ω,aj]
   refine Eq.trans this ?_
   exact GO N hl hN (m-1) n (i+1) ω ω ω
  ·rw[aK ω,au,show i=l.length by omega];rfl
theorem Us{l:List Int}(hl:l.length≤100000)(hN:l.length<N):fy N l=some (iv l):=by
 unfold fy fy.b
 exact GO N hl hN l.length N 0 ω ω ω
end VM
end
section
namespace VM
open Go VM.F
variable(N:Nat)
def Ie(l:List Int):Prop:= ∀x∈l,-9223372036854775808≤x∧x<9223372036854775808
def Pos(l:List Int):Prop:= ∀x∈l,0≤x
def may(w:List Int):Bool:=decide (w.length≤64)&&w.all (λx=>decide (0≤x))
theorem iK{w:List Int}:may w=true↔w.length≤64∧Pos w:=by
 unfold may Pos;rw[bQ,ff,q6]
 simp only[ff]
theorem GP(N:Nat){l:List Int}(hl:l.length≤1000000): ∀(m n i:Nat),l.length-i≤m→m<n→i≤l.length→ ∃r,lq.l2 N n l () (l.length:Int) (i:Int)=some r∧(0≤r↔ ∃x∈l.drop i,x<0)
 |m,0,i,_,hn,_=>ω
 |m,n+1,i,hm,hn,hi=>by
  unfold lq.l2 lq.gm ahY
  by_cases h:i<l.length
  ·have hd:l.drop i=l.getD i 0::l.drop (i+1):=by
    rw[nc h,aZ,bo h];rfl
   rw[aP ω,aj,aY ω ω,aj,aw,aF,hd]
   by_cases hx:l.getD i 0<0
   ·rw[aP hx,aj]
    exact⟨_,rfl,λ_=>⟨_,bu ..,hx⟩,λ_=>ω⟩
   ·rw[aK ω,au,ay ω ω]
    obtain⟨r,e,h1⟩:=GP N hl (m-1) n (i+1) ω ω ω
    refine⟨r,e,h1.trans ⟨λ⟨x,Ib,P7⟩=>⟨x,a6 _ Ib,P7⟩,λ⟨x,Ib,P7⟩=> ?_⟩⟩
    rcases bm.1 Ib with rfl|Ib
    ·exact absurd P7 hx
    ·exact⟨x,Ib,P7⟩
  ·rw[aK ω,au,wB ω]
   exact⟨_,rfl,λh=>absurd h δ,λ⟨x,hx,_⟩=>nomatch hx⟩
theorem ahZ{w:List Int}(hN:100≤N):aaI N w=some (may w):=by
 unfold aaI
 by_cases h:w.length≤64
 ·rw[dC ω,aj]
  unfold ah0 lq lq.b
  obtain⟨r,e,hr⟩:=GP N (l:=w) ω w.length N 0 ω ω ω
  rw[c9]at hr
  rw[show((0:Nat):Int)=0 from rfl]at e
  rw[e,aw,aw]
  by_cases h0:0≤r
  ·rw[dC h0]
   obtain⟨x,hx,M4⟩:=hr.1 h0
   have:may w=false:=by
    rw[q5];intro hm
    have:=(iK.1 hm).2 x hx;omega
   rw[this];rfl
  ·rw[dn ω]
   have:may w=true:=iK.2 ⟨h,λx hx=>by
    by_cases M4:x<0
    ·exact absurd (hr.2 ⟨x,hx,M4⟩) h0
    ·omega⟩
   rw[this];rfl
 ·rw[dn ω,au]
  have:may w=false:=by
   rw[q5];intro hm;exact h (iK.1 hm).1
  rw[this]
theorem GQ(N:Nat){l:List Int}(hl:l.length≤1000000): ∀(m n i:Nat),l.length-i≤m→m<n→i≤l.length→ ∃r,p3.l4 N n l (i:Int)=some r∧(r=true↔ ∃x∈l.drop i,x<0)
 |m,0,i,_,hn,_=>ω
 |m,n+1,i,hm,hn,hi=>by
  unfold p3.l4 p3.ew
  by_cases h:i<l.length
  ·have hd:l.drop i=l.getD i 0::l.drop (i+1):=by
    rw[nc h,aZ,bo h];rfl
   rw[aP ω,aj,aY ω ω,aj,aF,hd]
   by_cases hx:l.getD i 0<0
   ·rw[aP hx,aj]
    exact⟨_,rfl,λ_=>⟨_,bu ..,hx⟩,λ_=>rfl⟩
   ·rw[aK ω,au,ay ω ω]
    obtain⟨r,e,h1⟩:=GQ N hl (m-1) n (i+1) ω ω ω
    refine⟨r,e,h1.trans ⟨λ⟨x,Ib,P7⟩=>⟨x,a6 _ Ib,P7⟩,λ⟨x,Ib,P7⟩=> ?_⟩⟩
    rcases bm.1 Ib with rfl|Ib
    ·exact absurd P7 hx
    ·exact⟨x,Ib,P7⟩
  ·rw[aK ω,au,wB ω]
   exact⟨_,rfl,(λh=>nomatch h),λ⟨x,hx,_⟩=>nomatch hx⟩
theorem GR{w:List Int}(hN:100≤N)(t:Int):p3 N t w=some (decide (t<0)|| !may w):=by
 unfold p3 p3.b
 by_cases ht:t<0
 ·rw[aP ht,aj,bq ht];rfl
 rw[aK ω,au,bK ht,tR]
 by_cases h:w.length≤64
 ·rw[aK ω,au]
  obtain⟨r,e,hr⟩:=GQ N (l:=w) ω w.length N 0 ω ω ω
  rw[c9]at hr
  rw[show((0:Nat):Int)=0 from rfl]at e
  rw[e]
  congr 1
  rw[oZ,hr,qZ,q5,Ne,iK]
  constructor
  ·rintro⟨x,hx,M4⟩ h;have:=h.2 x hx;omega
  ·intro h1
   by_cases h2: ∃x∈w,x<0
   ·exact h2
   ·exact absurd ⟨h,λx hx=>by
     by_cases M4:x<0
     ·exact absurd ⟨x,hx,M4⟩ h2
     ·omega⟩ h1
 ·rw[aP ω,aj]
  have:may w=false:=by
   rw[q5];intro hm;exact h (iK.1 hm).1
  rw[this];rfl
def bump(q:List Int):List Int→List Int
 |[]=>q
 |k::t=>bump (q.set k.toNat (q.getD k.toNat 0+1)) t
def lU(t S:Int)(w:List Int):List Int:=w.map λx=>t*x/S
def iF(t S:Int)(w:List Int):List Int:=w.map λx=>t*x%S
def bF(t:Int)(w:List Int):List Int:=
 bump (lU t w.sum w) ((iv (iF t w.sum w)).take (t-(lU t w.sum w).sum).toNat)
def mJ(t:Int)(w:List Int):List Int×Int:=
 if t<0∨may w=false then([],1)else if 9223372036854775808≤w.sum then([],2)
 else if w.sum=0 then(if t=0 then(List.replicate w.length 0,0)else([],1))else(bF t w,0)
theorem N7: ∀(ks q:List Int),(bump q ks).length=q.length
 |[],q=>rfl
 |k::t,q=>by unfold bump;rw[N7 t];simp
theorem EU: ∀(q:List Int) (k:Nat) (x:Int),k<q.length→(q.set k x).sum=q.sum-q.getD k 0+x
 |[],k,x,h=>absurd h (by simp)
 |a::q,0,x,h=>by simp;omega
 |a::q,k+1,x,h=>by
  have:=EU q k x (by simpa using h)
  simp[this];omega
theorem g8: ∀{q:List Int},Pos q→0≤q.sum
 |[],_=>by simp
 |a::q,h=>by
  have:=g8 (q:=q) (λx hx=>h x (a6 _ hx))
  have:=h a (bu ..)
  rw[cD];omega
theorem vC: ∀{q:List Int},Pos q→ ∀i,q.getD i 0≤q.sum
 |[],_,i=>by simp
 |a::q,h,0=>by
  have:=g8 (q:=q) (λx hx=>h x (a6 _ hx))
  rw[cD];simp;omega
 |a::q,h,i+1=>by
  have:=vC (q:=q) (λx hx=>h x (a6 _ hx)) i
  have:=h a (bu ..)
  rw[cD];simp;simp at*;omega
theorem gg{q:List Int}(h:Pos q)(i:Nat):0≤q.getD i 0:=by
 by_cases hi:i<q.length
 ·exact h _ (Bn hi)
 ·rw[vo q ω];omega
theorem SC{q:List Int}(h:Pos q){x:Int}(hx:0≤x)(k:Nat):Pos (q.set k x):=λy hy=>by
 rcases tK hy with hy|rfl
 ·exact h y hy
 ·exact hx
theorem GU{q:List Int}(h:Pos q)(n:Nat):Pos (q.take n):=λx hx=>h x (iH hx)
theorem N8: ∀(ks q:List Int),(∀k∈ks,0≤k∧k<q.length)→(bump q ks).sum=q.sum+ks.length
 |[],q,_=>by simp[bump]
 |k::t,q,h=>by
  have hk:=h k (bu ..)
  unfold bump
  rw[N8 t _ (λx hx=>by rw[bs];exact h x (a6 _ hx)),EU q _ _ ω,aU];omega
theorem rX(t S:Int)(w:List Int):(lU t S w).length=w.length:=by unfold lU;rw[fE]
theorem ja(t S:Int)(w:List Int):(iF t S w).length=w.length:=by unfold iF;rw[fE]
theorem K6{t S:Int}{w:List Int}(i:Nat):(lU t S w).getD i 0=t*w.getD i 0/S:=by
 unfold lU
 by_cases h:i<w.length
 ·rw[aZ,q3,bo h,aZ,bo h];rfl
 ·rw[vo _ (by rw[fE];omega),vo w ω];simp
theorem SD{t S:Int}{w:List Int}(i:Nat):(iF t S w).getD i 0=t*w.getD i 0%S:=by
 unfold iF
 by_cases h:i<w.length
 ·rw[aZ,q3,bo h,aZ,bo h];rfl
 ·rw[vo _ (by rw[fE];omega),vo w ω];simp
theorem uB{t S:Int}{w:List Int}(ht:0≤t)(hS:0≤S)(hw:Pos w):Pos (lU t S w):=λx hx=>by
 obtain⟨y,hy,rfl⟩:=cQ.1 hx
 exact kR (o5 ht (hw y hy)) hS
theorem N9{t S:Int}{w:List Int}(hS:0<S):Pos (iF t S w):=λx hx=>by
 obtain⟨y,hy,rfl⟩:=cQ.1 hx
 exact o4 _ ω
theorem EV(t S:Int): ∀w:List Int,S*(lU t S w).sum+(iF t S w).sum=t*w.sum
 |[]=>by simp[lU,iF]
 |x::w=>by
  have h:=EV t S w
  have e:=sP (t*x) S
  unfold lU iF at*
  simp only[bZ,cD,jz]
  omega
theorem K7{t S:Int}{w:List Int}(ht:0≤t)(hS:0<S)(h:w.sum≤S):(lU t S w).sum≤t:=by
 have e:=EV t S w
 have h1:=g8 (N9 (t:=t) (w:=w) hS)
 have h2:=qi h ht
 have h3:S*(lU t S w).sum≤S*t:=by rw[dZ S t];omega
 exact Fb h3 hS
theorem xw{w:List Int}(h:Pos w)(i:Nat):(w.take i).sum≤w.sum:=by
 have e:w.take i++w.drop i=w:=iG i w
 have h1:(w.take i).sum+(w.drop i).sum=w.sum:=by rw[←lI,e]
 have:=g8 (q:=w.drop i) (λx hx=>h x (lZ hx))
 omega
theorem ye(t S:Int)(w:List Int)(i:Nat):(lU t S w).take i=lU t S (w.take i):=by unfold lU;rw[List.map_take]
theorem JI(N:Nat){ks:List Int}(hl:ks.length≤1000000)(L:Nat)(hk: ∀k∈ks,0≤k∧k<L): ∀(m n i:Nat) (q:List Int),ks.length-i≤m→m<n→i≤ks.length→q.length=L→Pos q→q.sum+(ks.length-i:Nat)≤9223372036854775807→
  qa.yF N n q ks (ks.length:Int) (i:Int)=some (bump q (ks.drop i),0)
 |m,0,i,q,_,hn,_,_,_,_=>ω
 |m,n+1,i,q,hm,hn,hi,hq,hp,hs=>by
  unfold qa.yF qa.Bo
  by_cases h:i<ks.length
  ·have hd:ks.drop i=ks.getD i 0::ks.drop (i+1):=by
    rw[nc h,aZ,bo h];rfl
   have EN:=hk _ (Bn h)
   rw[aP ω,aj,aY ω ω,aj,aF,aY ω ω,aj,aj,hd]
   have h1:=vC hp (ks.getD i 0).toNat
   have h2:=gg hp (ks.getD i 0).toNat
   rw[ay (x:=q.getD _ 0+1) ω ω,ay ω ω]
   refine(JI N hl L hk (m-1) n (i+1) _ ω ω ω (by rw[bs];exact hq) (SC hp ω _) ?_).trans rfl
   rw[EU q _ _ ω];omega
  ·rw[aK ω,au,wB ω];rfl
theorem GV(N:Nat){ks:List Int}(hl:ks.length≤1000000)(L:Nat)(hk: ∀k∈ks,0≤k∧k<L): ∀(m n i left:Nat) (q:List Int),ks.length-i≤m→m<n→i≤ks.length→q.length=L→Pos q→left≤9223372036854775807→q.sum+left≤9223372036854775807→
  pA.xq N n q (left:Int) ks (i:Int)=some (bump q ((ks.drop i).take left),0)
 |m,0,i,left,q,_,hn,_,_,_,_,_=>ω
 |m,n+1,i,left,q,hm,hn,hi,hq,hp,hle,hs=>by
  unfold pA.xq pA.wm
  by_cases h:i<ks.length
  ·have hd:ks.drop i=ks.getD i 0::ks.drop (i+1):=by
    rw[nc h,aZ,bo h];rfl
   have EN:=hk _ (Bn h)
   rw[aP ω,aj]
   match left,hle,hs with
   |0,hle,hs=>rw[aK ω,au,nk];rfl
   |left+1,hle,hs=>
    rw[aP ω,aj,aY ω ω,aj,aF,aY ω ω,aj,aj,hd]
    have h1:=vC hp (ks.getD i 0).toNat
    have h2:=gg hp (ks.getD i 0).toNat
    rw[ay (x:=q.getD _ 0+1) ω ω,ay (x:=(i:Int)+1) ω ω,ay ω ω,show((left+1:Nat):Int)-1=(left:Int)by omega]
    refine(GV N hl L hk (m-1) n (i+1) left _ ω ω ω (by rw[bs];exact hq) (SC hp ω _) ω ?_).trans rfl
    rw[EU q _ _ ω];omega
  ·rw[aK ω,au,wB ω,List.take_nil];rfl
theorem Bp(l:List Int): ∀k∈iv l,0≤k∧k<l.length:=λk hk=>(s8 l).1 hk
theorem take_set(l:List Int){i:Nat}(x:Int)(h:i<l.length):(l.set i x).take (i+1)=l.take i++[x]:=by
 rw[fW (l.set i x) (by rw[bs];exact h),kG l x h,List.take_set_of_le ω]
theorem Ci{v:Int}(h0: -9223372036854775808≤v)(h1:v<9223372036854775808):ya v=(v,true):=by unfold ya;rw[ak ⟨h0,h1⟩]
theorem GW(N:Nat)(hN:1000000≤N){t:Int}{w:List Int}(ht:0≤t)(rA:t<9223372036854775808)(hw:w.length≤64)(hp:Pos w)(hS:0<w.sum)(hS1:w.sum<9223372036854775808):
  ∀(m n i:Nat) (q r:List Int),w.length-i≤m→m<n→i≤w.length→q.length=w.length→r.length=w.length→q.take i=lU t w.sum (w.take i)→r.take i=iF t w.sum (w.take i)→
  qa.oU N n t w.sum q r (t-(lU t w.sum (w.take i)).sum) w (w.length:Int) (i:Int)=some (bF t w,0)
 |m,0,i,q,r,_,hn,_,_,_,_,_=>ω
 |m,n+1,i,q,r,hm,hn,hi,hq,hr,eq,er=>by
  unfold qa.oU qa.m5
  by_cases h:i<w.length
  ·have hwi:=gg hp i
   have ah1:=vC hp i
   have hb:=mul_lt ht hwi (show t≤9223372036854775807 by omega) (show w.getD i 0≤9223372036854775807 by omega)
   have hqi:t*w.getD i 0/w.sum≤t:=Mp hS (qi ah1 ht)
   have as0:0≤t*w.getD i 0/w.sum:=kR hb.1 ω
   have hs0:=K7 ht hS (xw hp i)
   have I9:=g8 (uB ht (by omega:0≤w.sum) (GU hp i))
   rw[aP ω,aj,aY ω ω,aj,aF,KQ N ω ω ω ω,aw,
    aan N ω ω ω hS hS1,aw]
   dsimp only
   rw[KS N ω ω,aw,Ci ω ω]
   dsimp only
   rw[aY ω ω,aj,aY ω ω,aj,bs,aY ω ω,aj,kG q _ ω,ay (x:=(i:Int)+1) ω ω,ay ω ω]
   have zk:=GW N hN ht rA hw hp hS hS1 (m-1) n (i+1) (q.set i (t*w.getD i 0/w.sum)) (r.set i (t*w.getD i 0%w.sum)) ω ω ω (by rw[bs];exact hq) (by rw[bs];exact hr)
    (by rw[take_set q _ ω,eq,fW w h];unfold lU;simp)
    (by rw[take_set r _ ω,er,fW w h];unfold iF;simp)
   rw[←ye,im _ (by rw[rX];exact h),K6,ye]at zk
   rw[Int.sub_sub]
   exact zk
  ·have mz:i=w.length:=ω
   subst mz
   rw[gh ω,gh ω]at eq er
   subst eq er
   rw[gh ω]
   have hs0:=K7 ht hS (ec _)
   have I9:=g8 (uB ht (by omega:0≤w.sum) hp)
   have afW:(t-(lU t w.sum w).sum).toNat≤(iv (iF t w.sum w)).length:=by
    rw[rW,ja]
    have e:=EV t w.sum w
    have:(iF t w.sum w).sum≤w.length*w.sum:=by
     have: ∀u:List Int,(iF t w.sum u).sum≤u.length*w.sum:=by
      intro u
      induction u with
      |nil=>simp[iF]
      |cons x u ih=>
       have:=oL (t*x) hS
       unfold iF at*
       rw[bZ,cD,aU,wK,iN];simp;omega
     exact this w
    have h4:w.sum*(t-(lU t w.sum w).sum)≤w.sum*w.length:=by
     rw[wP,dZ w.sum t,dZ w.sum (w.length:Int)];omega
    have:=Fb h4 hS
    omega
   rw[aK ω,au,Xs N (by rw[ja];omega) (by rw[ja];omega),aw]
   rw[db ω ω ω ω,aj]
   dsimp only
   rw[cT,c9]
   have hlen:=rW (iF t w.sum w)
   rw[ja]at hlen
   have wu:=JI N (ks:=(iv (iF t w.sum w)).take (t-(lU t w.sum w).sum).toNat) (by rw[bE];omega) w.length (λk hk=>by have:=Bp _ k (iH hk);rwa [ja]at this) 1000 N 0 (lU t w.sum w) (by rw[bE];omega) ω ω (rX ..) (uB ht ω hp) (by rw[bE];omega)
   rw[c9]at wu
   exact wu
theorem Xt(hN:2000000≤N){t:Int}{w:List Int}(rA:t<9223372036854775808)(hw:Ie w)(hl:w.length≤1000000):qa N t w=some (mJ t w):=by
 unfold qa qa.b mJ
 by_cases h1:t<0
 ·rw[aP h1,aj,ak (.inl h1)]
 rw[aK ω,au,ahZ N ω,aw]
 cases h2:may w
 ·rw[cJ,aj,ak (.inr rfl)]
 rw[bR,au,ah (by simp[h1]),aao N hw hl ω,aw]
 obtain⟨Cj,hp⟩:=iK.1 h2
 have hS0:=g8 hp
 by_cases h3:9223372036854775808≤w.sum
 ·rw[ak h3];unfold ya;rw[ah ω];rfl
 rw[ah h3,Ci ω ω]
 dsimp only
 rw[bR,au]
 have hm:iP (w.length:Int) (w.length:Int)=true:=cC ω ω ω
 have hz: ∀i:Nat,(List.replicate w.length (0:Int)).take i=(List.replicate w.length (0:Int)).take i:=λ_=>rfl
 by_cases h4:w.sum=0
 ·rw[ak h4,cZ h4,aj]
  by_cases h5:t=0
  ·rw[ak h5,aK ω,au]
   unfold qa.j8 qa.JC
   rw[hm,aj,aj,cZ h5,aj,aF]
  ·rw[ah h5,aP ω,aj]
 ·rw[ah h4,da h4,au]
  unfold qa.j8 qa.JC
  rw[hm,aj,aj]
  rw[aF]
  by_cases h5:t=0
  ·rw[cZ h5,aj]
   subst h5
   have:lU 0 w.sum w=List.replicate w.length 0:=by
    unfold lU;simp only[wN,Int.zero_ediv];exact List.map_const'
   unfold bF
   rw[this];simp[bump]
  ·rw[da h5,au]
   have:=GW N ω ω rA Cj hp ω ω w.length N 0 (List.replicate w.length 0) (List.replicate w.length 0) ω ω ω (bP ..) (bP ..) rfl rfl
   rw[nk]at this
   simp only[lU,gY,iM,Af]at this
   exact this
theorem pB{a b:List Int}(hl:a.length=b.length)(h: ∀i,i<a.length→a.getD i 0=b.getD i 0):a=b:=by
 refine z7 hl (λi h1 h2=> ?_)
 have:=h i h1
 rwa [aZ,bo h1,aZ,bo h2]at this
theorem SE: ∀(ks q:List Int) (i:Nat),ks.Nodup→(∀k∈ks,0≤k∧k<q.length)→(bump q ks).getD i 0=q.getD i 0+(if(i:Int)∈ks then 1 else 0)
 |[],q,i,_,_=>by simp[bump]
 |k::t,q,i,hn,h=>by
  have hk:=h k (bu ..)
  rw[wJ]at hn
  unfold bump
  rw[SE t _ i hn.2 (λx hx=>by rw[bs];exact h x (a6 _ hx))]
  by_cases hik:(i:Int)=k
  ·rw[ah (by rw[hik];exact hn.1),ak (by rw[hik];exact bu ..),←hik,aF,kG q _ ω];omega
  ·rw[getD_set_ne q _ ω]
   by_cases ht:(i:Int)∈t
   ·rw[ak ht,ak (a6 _ ht)]
   ·rw[ah ht,ah (λhc=>by rcases bm.1 hc with hc|hc;exact hik hc;exact ht hc)]
theorem Oa(l:List Int):(iv l).Nodup:=(kZ l l.length).imp (λ{a b} h he=>by unfold uA at h;rw[he]at h;omega)
theorem SF(t S:Int)(hS:0<S): ∀u:List Int,(iF t S u).sum≤u.length*S
 |[]=>by simp[iF]
 |x::u=>by
  have ih:=SF t S hS u
  have:=oL (t*x) hS
  unfold iF at*
  rw[bZ,cD,aU,wK,iN];simp;omega
def mU(t:Int)(w:List Int):Int:=t-(lU t w.sum w).sum
theorem left_eq(t:Int)(w:List Int):w.sum*mU t w=(iF t w.sum w).sum:=by
 have:=EV t w.sum w
 unfold mU;rw[wP,dZ w.sum t];omega
theorem GX{t:Int}{w:List Int}(ht:0≤t)(hS:0<w.sum):0≤mU t w:=by
 have:=K7 ht hS (ec _);unfold mU;omega
theorem SG{t:Int}{w:List Int}(hS:0<w.sum):mU t w≤w.length:=by
 have h1:=left_eq t w
 have h2:=SF t w.sum hS w
 rw[←h1,dZ (w.length:Int)]at h2
 exact Fb h2 hS
theorem oz(t:Int)(w:List Int):(bF t w).length=w.length:=by unfold bF;rw[N7,rX]
theorem vD{t:Int}{w:List Int}(ht:0≤t)(hS:0<w.sum):(bF t w).sum=t:=by
 unfold bF
 have h1:=GX ht hS
 have h2:=SG (t:=t) hS
 unfold mU at*
 rw[N8 _ _ (λk hk=>by have:=Bp _ k (iH hk);rw[ja]at this;rwa [rX]),bE,rW,ja]
 omega
theorem zq{f:Int→Int}{c:Int}: ∀{o:List Int},(∀x∈o,f x≤c)→(o.map f).sum≤o.length*c
 |[],_=>by simp
 |x::o,h=>by
  have ih:=zq (f:=f) (c:=c) (o:=o) (λy hy=>h y (a6 _ hy))
  have:=h x (bu ..)
  rw[bZ,cD,aU,wK,iN];simp;omega
theorem QX{l o:List Int}(h:o.Pairwise (uA l)){m:Nat}{x y:Int}(hx:x∈o.take m)(hy:y∈o.drop m):uA l x y:=by
 rw[←iG m o,wE]at h
 exact h.2.2 x hx y hy
theorem Ut{t:Int}{w:List Int}(ht:0≤t)(hS:0<w.sum){i:Int}(hi:i∈(iv (iF t w.sum w)).take (mU t w).toNat):0<xv (iF t w.sum w) i:=by
 have D7: ∀k:Int,0≤xv (iF t w.sum w) k:=λk=>gg (N9 hS) _
 have dU: ∀k:Int,xv (iF t w.sum w) k≤w.sum-1:=λk=>by
  unfold xv;rw[SD]
  have:=oL (t*w.getD k.toNat 0) hS;omega
 have h0:=D7 i
 rcases Int.lt_or_le 0 (xv (iF t w.sum w) i)with h|h
 ·exact h
 exfalso
 have IK:=QW (iF t w.sum w) (iF t w.sum w) rfl
 rw[←left_eq]at IK
 have ah2:=iG (mU t w).toNat (iv (iF t w.sum w))
 rw[←ah2,dL,lI]at IK
 have hd:(((iv (iF t w.sum w)).drop (mU t w).toNat).map (xv (iF t w.sum w))).sum≤((iv (iF t w.sum w)).drop (mU t w).toNat).length*0:=zq (λy hy=>by
  have:=QX (kZ _ _) hi hy
  unfold uA at this;omega)
 have Vv:(((iv (iF t w.sum w)).take (mU t w).toNat).map (xv (iF t w.sum w))).sum≤((iv (iF t w.sum w)).take (mU t w).toNat).length*(w.sum-1):=zq (λy _=>dU y)
 have h1:=GX ht hS
 have h2:=SG (t:=t) hS
 rw[bE,rW,ja,fT ω,wP]at Vv
 rw[Ae]at hd
 have h3:(((mU t w).toNat:Nat):Int)=mU t w:=ω
 have h4:0<(mU t w).toNat:=by
  rcases Nat.eq_zero_or_pos (mU t w).toNat with h|h
  ·rw[h,nk]at hi;nomatch hi
  ·exact h
 rw[h3,dZ (mU t w)]at Vv
 omega
def extra(t:Int)(w:List Int)(i:Nat):Int:=if(i:Int)∈(iv (iF t w.sum w)).take (mU t w).toNat then 1 else 0
theorem uC(t:Int)(w:List Int)(i:Nat):(bF t w).getD i 0=t*w.getD i 0/w.sum+extra t w i:=by
 unfold bF
 rw[SE _ _ i ((Oa _).sublist (List.take_sublist ..)) (λk hk=>by have:=Bp _ k (iH hk);rw[ja]at this;rwa [rX]),K6]
 rfl
theorem uD(t:Int)(w:List Int)(i:Nat):extra t w i=0∨extra t w i=1:=by unfold extra;split<;>omega
theorem JJ{t:Int}{w:List Int}(ht:0≤t)(hS:0<w.sum){i:Nat}(h:extra t w i=1):0<t*w.getD i 0%w.sum:=by
 unfold extra at h
 by_cases hi:(i:Int)∈(iv (iF t w.sum w)).take (mU t w).toNat
 ·have:=Ut ht hS hi
  unfold xv at this;rwa [SD,aF]at this
 ·rw[ah hi]at h;omega
theorem rY{t:Int}{w:List Int}(ht:0≤t)(hS:0<w.sum)(hw:Pos w):Pos (bF t w):=λx hx=>by
 obtain⟨i,hi,rfl⟩:=qX.1 hx
 have:=uC t w i
 rw[aZ,bo hi]at this
 have h1:=uD t w i
 have h2:0≤t*w.getD i 0/w.sum:=kR (o5 ht (gg hw i)) ω
 simp only[lG]at this
 omega
theorem DB{t:Int}{w:List Int}(ht:0≤t)(hS:0<w.sum){i:Nat}(h:w.getD i 0=0):(bF t w).getD i 0=0:=by
 rw[uC,h]
 rcases uD t w i with h1|h1
 ·rw[h1];simp
 ·have:=JJ ht hS h1
  rw[h]at this;simp at this
theorem QY{t:Int}{w:List Int}(ht:0≤t)(hS:0<w.sum)(i:Nat):((bF t w).getD i 0*w.sum-t*w.getD i 0).natAbs<w.sum:=by
 have e:=sP (t*w.getD i 0) w.sum
 have h1:=oL (t*w.getD i 0) hS
 have h2:=o4 (t*w.getD i 0) (show w.sum≠0 by omega)
 rw[uC,iN,dZ _ w.sum]
 rcases uD t w i with h|h
 ·rw[h,wN];omega
 ·have:=JJ ht hS h
  rw[h,pa];omega
theorem Ob{t:Int}{w:List Int}{k i:Nat}(hw:w.getD i 0=w.getD k 0):(bF t w).getD k 0≤(bF t w).getD i 0+1:=by
 rw[uC,uC,hw]
 rcases uD t w i with h1|h1<;>rcases uD t w k with h2|h2<;>omega
theorem DC(N:Nat)(hN:5000000≤N){t:Int}{w:List Int}(ht:0≤t)(rA:t<9223372036854775808)(hw:w.length≤64)(hp:Pos w)(hS:0<w.sum)(hS1:w.sum<9223372036854775808):
  ∀(m n i:Nat) (q r:List Int),w.length-i≤m→m<n→i≤w.length→q.length=w.length→r.length=w.length→q.take i=lU t w.sum (w.take i)→r.take i=iF t w.sum (w.take i)→
  pA.JK N n t w (c5 w.sum) q r (t-(lU t w.sum (w.take i)).sum) (i:Int)=some (bF t w,0)
 |m,0,i,q,r,_,hn,_,_,_,_,_=>ω
 |m,n+1,i,q,r,hm,hn,hi,hq,hr,eq,er=>by
  unfold pA.JK pA.GY
  by_cases h:i<w.length
  ·have hwi:=gg hp i
   have ah1:=vC hp i
   have hb:=mul_lt ht hwi (show t≤9223372036854775807 by omega) (show w.getD i 0≤9223372036854775807 by omega)
   have hqi:t*w.getD i 0/w.sum≤t:=Mp hS (qi ah1 ht)
   have as0:0≤t*w.getD i 0/w.sum:=kR hb.1 ω
   have hri:=oL (t*w.getD i 0) hS
   have aAw:=o4 (t*w.getD i 0) (show w.sum≠0 by omega)
   have hs0:=K7 ht hS (xw hp i)
   have I9:=g8 (uB ht (by omega:0≤w.sum) (GU hp i))
   have ft:Fit t 2:=Fit.i64 ω ω
   have fw:Fit (w.getD i 0) 2:=Fit.i64 ω ω
   have fS:Fit w.sum 2:=Fit.i64 ω ω
   rw[aP ω,aj,dp N ω ω rA,aw,aY ω ω,aj,aF,dp N ω ω ω,aw,
    A3 N ω (ft.mono ω) (fw.mono ω),aw,Sk N ω hS ((ft.mul fw).mono ω) (fS.mono ω),aw]
   dsimp only
   rw[tx,aw,Ci ω ω,tx,Ci ω ω]
   dsimp only
   rw[aw,aY ω ω,aj,aY ω ω,aj,bs,aY ω ω,aj,kG q _ ω,ay (x:=(i:Int)+1) ω ω,ay ω ω]
   have zk:=DC N hN ht rA hw hp hS hS1 (m-1) n (i+1) (q.set i (t*w.getD i 0/w.sum)) (r.set i (t*w.getD i 0%w.sum)) ω ω ω (by rw[bs];exact hq) (by rw[bs];exact hr)
    (by rw[take_set q _ ω,eq,fW w h];unfold lU;simp)
    (by rw[take_set r _ ω,er,fW w h];unfold iF;simp)
   rw[←ye,im _ (by rw[rX];exact h),K6,ye]at zk
   rw[Int.sub_sub]
   exact zk
  ·have mz:i=w.length:=ω
   subst mz
   rw[gh ω,gh ω]at eq er
   subst eq er
   rw[gh ω]
   have I9:=g8 (uB ht (by omega:0≤w.sum) hp)
   have h1:=GX ht hS
   unfold mU at h1
   rw[aK ω,au,Us N (by rw[ja];omega) (by rw[ja];omega),aw]
   have hlen:=rW (iF t w.sum w)
   rw[ja]at hlen
   have wu:=GV N (ks:=iv (iF t w.sum w)) ω w.length (λk hk=>by have:=Bp _ k hk;rwa [ja]at this) 1000 N 0 (t-(lU t w.sum w).sum).toNat (lU t w.sum w) ω ω ω (rX ..) (uB ht ω hp) ω ω
   rw[c9,nf h1]at wu
   exact wu
theorem Ck(hN:5000000≤N){t:Int}{w:List Int}(rA:t<9223372036854775808)(hw:Ie w)(hl:w.length≤1000000):pA N t w=some (mJ t w):=by
 unfold pA pA.b mJ
 rw[GR N ω,aw]
 by_cases h1:t<0
 ·rw[bq h1,Bool.true_or,aj,ak (.inl h1)]
 rw[bK h1,tR]
 cases h2:may w
 ·rw[cJ,aj,ak (.inr rfl)]
 rw[bR,au,ah (by simp[h1]),zi N ω hw hl,aw,qx,aw]
 obtain⟨Cj,hp⟩:=iK.1 h2
 have hS0:=g8 hp
 have hj: ∀h: ¬9223372036854775808≤w.sum,pA.j6 N t w (c5 w.sum)=if w.sum=0 then some (List.replicate w.length 0,0)else some (bF t w,0):=λh=>by
  unfold pA.j6 pA.T7
  rw[tx,aw,Ci ω ω,bR,au,cC ω ω ω,aj,aj,qx,aw,aF]
  by_cases h4:w.sum=0
  ·rw[ak h4,h4,show wk 0=0 from rfl,cZ rfl,aj]
  ·rw[ah h4,da (by unfold wk;repeat' split<;>omega),au]
   have:=DC N hN ω rA Cj hp ω ω w.length N 0 (List.replicate w.length 0) (List.replicate w.length 0) ω ω ω (bP ..) (bP ..) rfl rfl
   rw[nk]at this
   simp only[lU,gY,iM,Af]at this
   exact this
 by_cases h3:9223372036854775808≤w.sum
 ·rw[ak h3,da (by unfold wk;repeat' split<;>omega),au]
  unfold pA.j6 pA.T7
  rw[tx,aw];unfold ya;rw[ah ω];rfl
 rw[ah h3,hj h3]
 by_cases h4:w.sum=0
 ·rw[ak h4,ak h4,h4,show wk 0=0 from rfl,cZ rfl,aj]
  by_cases h5:t=0
  ·rw[ak h5,cZ h5,bR,au]
  ·rw[ah h5,da h5,cJ,aj]
 ·rw[ah h4,ah h4,da (by unfold wk;repeat' split<;>omega),au]
def iB(t n:Int):List Int×Int:=if t<0∨n<1∨64<n then([],1)else mJ t (List.replicate n.toNat 1)
theorem Oc(n:Nat):Ie (List.replicate n 1):=λx hx=>by rw[wz hx];omega
theorem aaJ(hN:5000000≤N){t n:Int}(rA:t<9223372036854775808):F46 N t n=some (iB t n):=by
 unfold F46 iB
 by_cases h1:t<0
 ·rw[aP h1,aj,ak (.inl h1)]
 by_cases h2:n<1
 ·rw[aK ω,au,aP h2,aj,ak (.inr (.inl h2))]
 by_cases h3:64<n
 ·rw[aK ω,au,aK ω,au,aP h3,aj,ak (.inr (.inr h3))]
 rw[aK ω,au,aK ω,au,aK ω,au,ah ω]
 unfold Ao
 dsimp only
 rw[ak ω,aw,Xt N ω rA (Oc _) (by rw[bP];omega)]
 rfl
theorem JL(N:Nat)(hN:5000000≤N){t:Int}{k:Nat}(hk:k≤64)(rA:t<9223372036854775808): ∀(m n i:Nat),k-i≤m→m<n→i≤k→
  GZ.l5 N n t (k:Int) (List.replicate i 1++List.replicate (k-i) 0) (i:Int)=some (mJ t (List.replicate k 1))
 |m,0,i,_,hn,_=>ω
 |m,n+1,i,hm,hn,hi=>by
  unfold GZ.l5 GZ.e8
  by_cases h:i<k
  ·rw[aP ω,aj,aY ω (by simp;omega),aj,ay ω ω]
   refine Eq.trans ?_ (JL N hN hk rA (m-1) n (i+1) ω ω ω)
   congr 1
   rw[aF,Mq _ _ (by simp),bP,ri,show k-i=(k-(i+1))+1 by omega,zS,Fl,List.replicate_succ',bU]
   rfl
  ·rw[aK ω,au,show k-i=0 by omega,zT,cN,show i=k by omega,Ck N hN rA (Oc _) (by rw[bP];omega)]
   rfl
theorem Xu(hN:5000000≤N){t n:Int}(rA:t<9223372036854775808):GZ N t n=some (iB t n):=by
 unfold GZ GZ.b iB
 by_cases h1:t<0
 ·rw[aP h1,aj,ak (.inl h1)]
 by_cases h2:n<1
 ·rw[aK ω,au,aP h2,aj,ak (.inr (.inl h2))]
 by_cases h3:64<n
 ·rw[aK ω,au,aK ω,au,aP h3,aj,ak (.inr (.inr h3))]
 rw[aK ω,au,aK ω,au,aK ω,au,ah ω,cC ω ω ω,aj]
 have:=JL N hN (t:=t) (k:=n.toNat) ω rA n.toNat N 0 ω ω ω
 rw[zT,cM,Nat.sub_zero,nf ω]at this
 exact this
end VM
end
