/- A part of the proof of BookAtOnce of layer 18: what the functions compute, in plain words. -/
import Derived.Test.YthkjjlcblhbifaaGreatPlain7
import Derived.Test.YthkjjlcblhbifaaGreatPlain5
set_option linter.all false
open List renaming getD→γ
noncomputable section
section
namespace VM
open Go VM.F
variable(N:Nat)
def ua(m:Int):aO→List Int
 |[]=>[]
 |x::t=>if x.2.1=m then x.1::ua m t else ua m t
theorem Iv(m:Int): ∀l:aO,(ua m l).length≤l.length
 |[]=>aH _
 |x::t=>by
  have:=Iv m t
  show(if x.2.1=m then x.1::ua m t else ua m t).length≤t.length+1
  split
  ·rw[aT];omega
  ·omega
def B2(a:aO)(m:Int):List Int:=if gQ a then ua m a else []
theorem aao{a:aO}(hl:a.length≤100000)(hN:200000≤N)(m:Int):Ex N a m=some (B2 a m):=by
 unfold Ex Ex.b B2
 rw[Ma N hl hN,ar,cond_not]
 have:=n0 a ba (λn i s=>Ex.l5 N n m s a (a.length:Int) i) (λt s=>some (s++ua m t)) (λi (s:List Int)=>s.length≤i) (λn i s hi hI hr=> ?_) (λn s hI=> ?_) a.length N 0 [] ω ω ω (aH _)
 ·rw[cV,cN]at this
  have e:Ex.l5 N N m [] a (a.length:Int) 0=some (ua m a):=this
  rw[e];cases gQ a<;>rfl
 ·unfold Ex.l5 Ex.eo
  rw[aR ω,ak,aW ω ω,ak,aI,aw (x:=(i:Int)+1) ω ω,af i,aM,bY (by rw[aJ];omega),ak]
  show _=some (s++(if(a.getD i ba).2.1=m then(a.getD i ba).1::ua m (a.drop (i+1))else ua m (a.drop (i+1))))
  by_cases hx:(a.getD i ba).2.1=m
  ·rw[aj hx,aj hx]
   refine Eq.trans (hr (s++[(a.getD i ba).1]) (by rw[aS,aJ];omega)) ?_
   rw[bE];rfl
  ·rw[ah hx,ah hx]
   exact hr s ω
 ·unfold Ex.l5 Ex.eo
  rw[aP ω,av]
  show some s=some (s++[])
  rw[cw]
theorem ry{α:Type}{l:List α}{i:Nat}(h:i<l.length)(d:α):l.take (i+1)=l.take i++[l.getD i d]:=by
 rw[List.take_add_one,aV,bm h];rfl
def aap(l:List Int)(x:Int):Bool:=l.any λa=>decide (a=x)
theorem P8(N:Nat){l:List Int}(hl:l.length≤100000)(x:Int): ∀(m n i:Nat),l.length-i≤m→m<n→i≤l.length→ ∃r,sO.l2 N n l x (l.length:Int) (i:Int)=some r∧du 0 r=aap (l.drop i) x
 |m,0,i,_,hn,_=>ω
 |m,n+1,i,hm,hn,hi=>by
  unfold sO.l2 sO.fM
  by_cases h:i<l.length
  ·rw[aR ω,ak,aW ω ω,ak,aI,aM,aw (x:=(i:Int)+1) ω ω,af i,drop_cons h 0]
   by_cases hx:x=l.getD i 0
   ·rw[aj hx]
    refine⟨_,rfl,?_⟩
    unfold aap
    rw[Gf,aU hx.symm,mZ,aU ω];rfl
   ·rw[ah hx]
    obtain⟨r,h1,h2⟩:=P8 N hl x (m-1) n (i+1) ω ω ω
    refine⟨r,h1,h2.trans ?_⟩
    unfold aap
    rw[Gf,bx (λe=>hx e.symm),rK]
  ·rw[aP ω,av,jf ω]
   exact⟨_,rfl,by rw[mZ];rfl⟩
theorem P9{l:List Int}(hl:l.length≤100000)(hN:200000≤N)(x:Int):adF N l x=some (aap l x):=by
 unfold adF sO sO.b
 obtain⟨r,h1,h2⟩:=P8 N hl x l.length N 0 ω ω ω
 rw[cV]at h2
 rw[show sO.l2 N N l x (l.length:Int) 0=some r from h1,ar,h2]
def zv(accs:List Int)(o:fZ):Bool:=aap accs o.2.1
theorem Qa{accs:List Int}(hl:accs.length≤100000)(hN:200000≤N)(o:fZ):aaq N o accs=some (zv accs o):=by
 unfold aaq zv
 rw[P9 N hl hN,ar]
theorem Ey(N:Nat){accs:List Int}(ha:accs.length≤100000)(hN:200000≤N){l:aY}(hl:l.length≤100000): ∀(m n i:Nat),l.length-i≤m→m<n→i≤l.length→(∀x∈l.take i,zv accs x=false)→
  (qy.l2 N n l ((accs,()),()) (l.length:Int) (i:Int)=some (-1)∧ ∀x∈l,zv accs x=false)∨
  ∃k:Nat,qy.l2 N n l ((accs,()),()) (l.length:Int) (i:Int)=some (k:Int)∧k<l.length∧(∀x∈l.take k,zv accs x=false)∧zv accs (l.getD k eC)=true
 |m,0,i,_,hn,_,_=>ω
 |m,n+1,i,hm,hn,hi,hp=>by
  unfold qy.l2 qy.fM
  by_cases h:i<l.length
  ·rw[aR ω,ak,aW ω ω,ak,aI,Qa N ha hN,ar,aw (x:=(i:Int)+1) ω ω,af i]
   cases hx:zv accs (l.getD i eC)
   ·refine Ey N ha hN hl (m-1) n (i+1) ω ω ω (λx oO=> ?_)
    rw[ry h eC,bk,cn]at oO
    rcases oO with oO|oO
    ·exact hp x oO
    ·rw[oO];exact hx
   ·exact .inr ⟨i,rfl,h,hp,hx⟩
  ·rw[aP ω,av]
   refine .inl ⟨rfl,λx hx=>hp x ?_⟩
   rw[iz ω];exact hx
def uT(accs:List Int)(l:aY):aY:=l.filter λo=> !zv accs o
theorem Qb{accs:List Int}{l:aY}(h: ∀x∈l,zv accs x=false):uT accs l=l:=by
 unfold uT
 rw[List.filter_eq_self]
 intro x hx;rw[h x hx];rfl
theorem aar(accs:List Int)(l:aY):(uT accs l).length≤l.length:=NG _ _
theorem Iw(N:Nat){accs:List Int}(ha:accs.length≤100000)(hN:200000≤N){l:aY}(hl:l.length≤100000): ∀(m n i j:Nat) (x:aY),l.length-j≤m→m<n→j≤l.length→i≤j→x.length=l.length→x.take i=uT accs (l.take j)→x.drop j=l.drop j→
  sP.l5 N n x ((accs,()),()) (i:Int) (j:Int)=some (uT accs l)
 |m,0,i,j,x,_,hn,_,_,_,_,_=>ω
 |m,n+1,i,j,x,hm,hn,hj,qh,hxl,ht,hd=>by
  unfold sP.l5 sP.eo
  by_cases h:j<l.length
  ·have hg:x.getD j eC=l.getD j eC:=by
    have h1:=fv (λt=>t.getD 0 eC) hd
    simpa [aV]using h1
   have htk:l.take (j+1)=l.take j++[l.getD j eC]:=ry h eC
   rw[aR ω,ak,aW ω ω,ak,aI,hg,Qa N ha hN,ar,aw (x:=(j:Int)+1) ω ω,af j,aW ω ω,ak,aI,aw (x:=(i:Int)+1) ω ω,af i]
   have hd2:x.drop (j+1)=l.drop (j+1):=by rw[←iC,←iC,hd]
   cases hx:zv accs (l.getD j eC)
   ·refine Iw N ha hN hl (m-1) n (i+1) (j+1) _ ω ω ω ω (by rw[bP];exact hxl) ?_ ?_
    ·have e1:uT accs (l.take (j+1))=uT accs (l.take j)++[l.getD j eC]:=by
      rw[htk];unfold uT;rw[Aw];congr 1
      rw[pG,hx];rfl
     rw[e1,←ht,ry (by rw[bP];omega) eC]
     congr 1
     ·rw[List.take_set_of_le (aH _)]
     ·rw[aV,NF ω];rfl
    ·rw[List.drop_set_of_lt ω];exact hd2
   ·refine Iw N ha hN hl (m-1) n i (j+1) x ω ω ω ω hxl ?_ hd2
    rw[htk,ht];unfold uT;rw[Aw,pG,hx];simp
  ·have hje:j=l.length:=ω
   subst hje
   rw[gN]at ht
   have qA:=aar accs l
   rw[aP ω,av,rP,aU ω,ak,aI]
   dsimp only
   have hxt:(x.take i).length=i:=by rw[bV];omega
   rw[rP,aU (by rw[aS,c4,hxt];omega),ak,yl ω,iz ω,ht]
   rfl
theorem WZ{accs:List Int}(ha:accs.length≤100000)(hN:200000≤N){l:aY}(hl:l.length≤100000):sP N l ((accs,()),())=some (uT accs l):=by
 unfold sP sP.b qy qy.b
 rcases Ey N ha hN hl l.length N 0 ω ω ω (λx hx=>by rw[mU]at hx;exact nomatch hx)with⟨h1,h2⟩|⟨k,h1,h2,h3,h4⟩
 ·rw[show qy.l2 N N l ((accs,()),()) (l.length:Int) 0=some (-1)from h1,ar,dV rfl,Qb h2];rfl
 ·rw[show qy.l2 N N l ((accs,()),()) (l.length:Int) 0=some (k:Int)from h1,ar,eU ω,av,aw (x:=(k:Int)+1) ω ω,af k]
  refine Iw N ha hN hl l.length N k (k+1) l ω ω ω ω rfl ?_ rfl
  rw[ry h2 eC]
  unfold uT
  rw[Aw,pG,h4]
  have:=Qb h3
  unfold uT at this
  rw[this];simp
def aas(l:aY)(accs:List Int):aY:=if dm l then uT accs l else []
theorem adG{l:aY}{accs:List Int}(ha:accs.length≤100000)(hN:200000≤N)(hl:l.length≤100000):F71 N l accs=some (aas l accs):=by
 unfold F71 aas
 rw[CN N hl hN,ar,cond_not,vF N ω,ar,WZ N ha hN hl,ar]
 cases dm l<;>rfl
def Dl(c:ae)(b:an)(m:Int):an×Int:=
 if dg c b then(if gJ b.1 m=0 then((cc,(cT,(bq,(bq,(db,(dq,())))))),3)else((b.1,(b.2.1,(b.2.2.1,(b.2.2.2.1,(b.2.2.2.2.1,(aas b.2.2.2.2.2.1 (B2 b.2.1 m),b.2.2.2.2.2.2)))))),0))else((cc,(cT,(bq,(bq,(db,(dq,())))))),1)
theorem W0(a:aO)(m:Int):(B2 a m).length≤a.length:=by
 unfold B2
 split
 ·exact Iv m a
 ·exact bz _
theorem aat(hN:4000000≤N)(c:ae){b:an}(w:oe b)(m:Int):F19 N c b m=some (Dl c b m):=by
 unfold F19 Dl
 have h1:=W0 b.2.1 m
 have h2:=w.a
 rw[BC N hN w,ar,CP N w.m ω,ar,cond_not,aM,O9 N w,ar,aao N w.a ω,ar,adG N ω ω w.o,ar]
 cases dg c b
 ·rfl
 ·show(if gJ b.1 m=0 then _ else _)=some (if gJ b.1 m=0 then _ else _)
  split<;>rfl
end VM
end
section
namespace VM
open Go VM.F Go.RowKit
variable(N:Nat)
theorem UN{a k:Int}: ∀{l:aY} {z:Int×Int},(∀o∈l,¬o.2.2.1=k)→bsL a k l z=z
 |[],z,_=>rfl
 |x::t,z,h=>by
  rw[HY,ah (λe=>h x (bs ..) e.2)]
  exact UN λo ho=>h o (aZ _ ho)
theorem Ix{f:Int→Int×Int}{x:dd}: ∀m (k:Nat),x∈Ux f m k→ ∃j:Nat,x=nz (j:Int) (f (j:Int))∧0<(f (j:Int)).1+(f (j:Int)).2
 |0,_,hx=>nomatch hx
 |m+1,k,hx=>by
  rw[xP]at hx
  split at hx
  ·rename_i h0
   rcases a8.1 hx with rfl|hx
   ·exact⟨k,rfl,h0⟩
   ·exact Ix m (k+1) hx
  ·exact Ix m (k+1) hx
theorem Dm(f:Int→Int×Int): ∀m k,(Ux f m k).Pairwise (λx y:dd=>lI x.1 y.1)
 |0,_=>List.Pairwise.nil
 |m+1,k=>by
  rw[xP]
  split
  ·refine eX.2 ⟨λy hy=> ?_,Dm f m (k+1)⟩
   have:=ZB f m (k+1) y hy
   show(k:Int)<y.1
   omega
  ·exact Dm f m (k+1)
theorem S1{c:ae}{b:an}(hR:RB c b)(a:Int):kL c (qW b.2.2.2.2.2.1 a)=true:=by
 obtain⟨hq,hl⟩:=Pz hR.o
 have hc:=(pg (R:=λx y:dd=>lI x.1 y.1) (d:=bc) (λ_ _ _=>Dh) _).2 (Dm (Xs b.2.2.2.2.2.1 a) 6 0)
 unfold kL
 refine da.2 ⟨aU λj hj=> ?_,hR.c⟩
 obtain⟨i,e,h0⟩:=Ix 6 0 (pV (d:=bc) hj)
 have hp:=hc j hj
 have hz:=UB hq a (i:Int)
 have hn:((i:Int))<(c.1.length:Int):=by
  rcases Int.lt_or_le (i:Int) (c.1.length:Int)with h|h
  ·exact h
  ·exfalso
   have:Xs b.2.2.2.2.2.1 a (i:Int)=(0,0):=UN λo ho he=>by
    have h3:o.2.2.1<(c.1.length:Int):=(hR.ok o ho).2
    rw[he]at h3
    exact absurd h3 (nU.2 h)
   rw[this]at h0
   exact absurd h0 δ
 unfold xQ
 rw[show(qW b.2.2.2.2.2.1 a).getD j bc=(Ux (Xs b.2.2.2.2.2.1 a) 6 0).getD j bc from rfl,show(qW b.2.2.2.2.2.1 a).getD (j-1) bc=(Ux (Xs b.2.2.2.2.2.1 a) 6 0).getD (j-1) bc from rfl]
 rw[e]at hp ⊢
 unfold HZ at hz
 have g: ∀u v:Int,(0≤u∧u≤1000000000*(b.2.2.2.2.2.1.length:Int)∧0≤v∧v≤1000000000*(b.2.2.2.2.2.1.length:Int))→0<u+v→(0≤u∧u≤33000000000∧0≤v∧v≤33000000000∧(u=0→v≠0)):=λu v _ _=>ω
 obtain⟨g1,g2,g3,g4,g5⟩:=g _ _ hz h0
 exact⟨Int.natCast_nonneg i,hn,g1,g2,g3,g4,g5,λh=>hp h⟩
def xW(c:ae)(b:an)(a:Int):Int×Int:=
 if dg c b then(if(eV b.2.1 a).2 then((yM c (posOf b.2.2.2.1 a) (qW b.2.2.2.2.2.1 a)).1,0)else(0,3))else(0,1)
theorem S2{c:ae}{b:an}(h:dg c b=true)(a:Int):(yM c (posOf b.2.2.2.1 a) (qW b.2.2.2.2.2.1 a)).2=0:=by
 have hR:=oh.1 h
 unfold yM
 rw[aag hR a,S1 hR a];rfl
theorem UO(hN:4000000≤N)(c:ae){b:an}(w:oe b)(a:Int):F18 N c b a=some (cL (xW c b a).1,(xW c b a).2):=by
 unfold F18 xW
 rw[BC N hN w,ar,cond_not,CS N b w.a ω,ar,cond_not]
 by_cases hB:dg c b=true
 rotate_left
 ·rw[ah hB];rw[nN]at hB;rw[hB];rfl
 rw[aj hB,hB,ak]
 have Cw:=KE a b.2.2.2.1
 have Cg:=Ws b.2.2.2.2.2.1 a
 have hs:=w.s
 have hoo:(if dm b.2.2.2.2.2.1 then qW b.2.2.2.2.2.1 a else [])=qW b.2.2.2.2.2.1 a:=by rw[aj (JM hB)]
 rw[ap0 N w.s ω,ar,ZE N ω w.o,ar,hoo,ZH N ω c ω (Zm w.qs a) ω,ar,S2 hB]
 cases(eV b.2.1 a).2<;>rfl
def MS(c:ae):au:=if c.2.1=0 then []else [((1:Int),((0:Int),((W .i64 (0-c.2.1)),()))),((3:Int),((0:Int),(c.2.1,())))]
def UP(c:ae):an×Int:=
 if eR c then((([]:aE),(([]:aO),(MS c,(([]:au),(c.1.map (λx:cF=>(x.2.1:Int)),(([]:aY),())))))),0)else((cc,(cT,(bq,(bq,(db,(dq,())))))),1)
theorem Qc{l:aO}(hl:l.length≤100000)(hN:200000≤N)(x2:an)(r:au):
  wJ.l7 N N x2 (([]:aE),(([]:aO),(r,(([]:au),(db,(([]:aY),())))))) [] l (l.length:Int) 0=some ((([]:aE),(([]:aO),(r,(([]:au),(l.map (λx:cF=>(x.2.1:Int)),(([]:aY),())))))),(0:Int)):=by
 have:=n0 l ba (λn i s=>wJ.l7 N n x2 (([]:aE),(([]:aO),(r,(([]:au),(db,(([]:aY),())))))) s l (l.length:Int) i)
  (λt s=>some ((([]:aE),(([]:aO),(r,(([]:au),(s++t.map (λx:cF=>(x.2.1:Int)),(([]:aY),())))))),(0:Int))) (λi (s:List Int)=>s.length≤i) (λn i s hi hI hr=> ?_) (λn s hI=> ?_) l.length N 0 [] ω ω ω (aH _)
 ·rw[cV,cN]at this
  exact this
 ·unfold wJ.l7 wJ.oJ
  rw[aR ω,ak,aW ω ω,ak,aI,bY (by rw[aJ];omega),ak,aw (x:=(i:Int)+1) ω ω,af i]
  refine Eq.trans (hr (s++[(l.getD i ba).2.1]) (by rw[aS,aJ];omega)) ?_
  rw[bE];rfl
 ·unfold wJ.l7 wJ.oJ
  rw[aP ω,av,ik,cw]
theorem alh(hN:200000≤N)(c:ae)(hl:c.1.length≤100000):wJ N c=some (UP c):=by
 unfold wJ wJ.b UP wJ.j6 wJ.OL
 rw[FA N ω,ar,cond_not,cond_not,aM]
 cases eR c with
 |false=>rfl
 |true=>
  rw[ak,aj rfl]
  unfold MS
  by_cases h0:c.2.1=0
  ·rw[aj h0,aj h0];exact Qc N hl hN _ _
  ·rw[ah h0,ah h0];exact Qc N hl hN _ _
theorem S3{c:ae}{b:an}(w:oe b)(i p:Int):Zk (mq c b i p).1:=by
 unfold mq
 repeat' split
 all_goals first|exact C0|skip
 have h:=Pg w [] (iZ i (p-b.2.2.2.2.1.getD i.toNat 0) b.2.2.2.1)
 refine⟨h.m,h.a,h.r,h.s,?_,h.o⟩
 show(List.set b.2.2.2.2.1 i.toNat p).length≤100000
 rw[bP];exact w.p
def bC:ae:=([((0:Int),((100:Int),((2:Int),((0:Int),()))))],((5:Int),((0:Int),((0:Int),((0:Int),((1:Int),((0:Int),())))))))
def bR:au:=[((1:Int),((0:Int),((-5:Int),()))),((3:Int),((0:Int),((5:Int),())))]
def bB:an:=([((1:Int),((1:Int),()))],([((1:Int),((1:Int),((1:Int),((0:Int),())))),((2:Int),((1:Int),((2:Int),((0:Int),()))))],(bR,(([]:au),([(100:Int)],([((1:Int),((2:Int),((0:Int),((1:Int),((4:Int),((1:Int),()))))))],()))))))
def bT:bf:=[((1:Int),((2:Int),((0:Int),((5:Int),((90:Int),())))))]
theorem bW:qU bB:=⟨⟨δ,δ,δ,δ,δ,δ,BN (l:=bR) δ,λx hx=>(nomatch hx)⟩,δ,δ⟩
def bX:an:=([((1:Int),((1:Int),()))],([((1:Int),((1:Int),((1:Int),((0:Int),())))),((2:Int),((1:Int),((2:Int),((0:Int),()))))],([((1:Int),((0:Int),((-5:Int),()))),((3:Int),((0:Int),((5:Int),()))),((5:Int),((1:Int),((50:Int),()))),((5:Int),((2:Int),((-50:Int),())))],([((1:Int),((0:Int),((5:Int),()))),((2:Int),((0:Int),((-5:Int),())))],([(100:Int)],([((1:Int),((2:Int),((0:Int),((1:Int),((4:Int),((1:Int),()))))))],()))))))
theorem bTr:eL bC bB bT=(bX,0):=κ
theorem bXW:qU bX:=⟨⟨δ,δ,δ,δ,δ,δ,BN (l:=bX.2.2.1) δ,BN (l:=bX.2.2.2.1) δ⟩,δ,δ⟩
theorem av5:UP bC=((([]:aE),(([]:aO),(bR,(([]:au),([(100:Int)],(([]:aY),())))))),0):=by
 unfold UP MS
 rw[aj κ,ah δ,aw δ δ];rfl
theorem av6:(mq bC bX 0 110).2.2=0:=κ
theorem av7:(mq bC bX 0 110).2.1.length=2:=κ
theorem av8:tC (mq bC bX 0 110).1.2.2.1 5 1=100:=κ
theorem av9:(mq bC bX 0 110).1.2.2.2.2.1=[110]:=κ
theorem bNd:xW bC bX 2=(10,0):=κ
theorem awa:(xW bC bB 9).2=3:=κ
theorem awb:(Dl bC bB 1).2=0:=κ
theorem bDr:(Dl bC bB 1).1.2.2.2.2.2.1=[]:=κ
theorem bHd:gj bX.2.2.2.1 1 0=5:=κ
theorem bGt:tC bX.2.2.1 5 1=50:=κ
theorem bOk:dg bC bB=true:=κ
theorem bWn:(cL 10).2.1=10:=κ
theorem V5(hN:5000000≤N):F5 N=some true:=by
 unfold F5 F15
 rw[ar]
 show(wJ N bC).bind _=_
 rw[alh N ω bC δ,ar,av5]
 show(tE N bC bB bT).bind _=_
 rw[CT N ω bC bW δ,ar,bTr]
 show(F17 N bC bX 0 110).bind _=_
 have sh:=S3 (c:=bC) bXW.w 0 110
 rw[adE N ω bC bXW δ,ar]
 show(F18 N bC bX 2).bind _=_
 rw[UO N ω bC bXW.w,ar]
 show(F19 N bC bB 1).bind _=_
 rw[aat N ω bC bW.w,ar]
 show(F18 N bC bB 9).bind _=_
 rw[UO N ω bC bW.w,ar]
 dsimp only
 show cond (aN 0 0) ((CY N bR bR).bind λr8=>cond r8 ((CZ N [100] [100]).bind λr9=>cond r9 (cond (aN 0 0) ((Cj N bX.2.2.2.1 1 0).bind λkM=>cond (aN kM 5) ((uY N bX.2.2.1 5 1).bind λnL=>cond (aN nL 50) (cond (aN (mq bC bX 0 110).2.2 0) (cond (aN (((mq bC bX 0 110).2.1.map iI).length:Int) 2) ((uY N (mq bC bX 0 110).1.2.2.1 5 1).bind λoQ=>cond (aN oQ 100) (cond (aN ((mq bC bX 0 110).1.2.2.2.2.1.length:Int) 1) (cond (bb 0 (mq bC bX 0 110).1.2.2.2.2.1.length) (cond (aN (γ (mq bC bX 0 110).1.2.2.2.2.1 (0:Int).toNat 0) 110) (cond (aN (xW bC bX 2).2 0) (cond (aN (cL (xW bC bX 2).1).2.1 10) (cond (aN (Dl bC bB 1).2 0) (cond (aN ((Dl bC bB 1).1.2.2.2.2.2.1.length:Int) 0) (cond (aN (xW bC bB 9).2 3) ((F9 N bC bB).bind λp5=>some p5) (some false)) (some false)) (some false)) (some false)) (some false)) (some false)) none) (some false)) (some false)) (some false)) (some false)) (some false)) (some false)) (some false)) (some false)) (some false)) (some false)=some true
 have l1:(1:Int)=(([(110:Int)]:List Int).length:Int):=rfl
 rw[ec,ak,Pe N δ ω,ar,ak,Pf N δ ω,ar,ak,ak,FF N bXW.w.s ω,ar,bHd,ec,ak,Mk N bXW.w.r ω,ar,bGt,ec,ak,av6,ec,ak,cK,av7,dV (x:=((2:Nat):Int)) (y:=2) rfl,ak,Mk N sh.r ω,ar,av8,ec,ak,av9,
  dV (x:=(([(110:Int)]:List Int).length:Int)) (y:=1) rfl,ak,aW (i:=0) (n:=([(110:Int)]:List Int).length) ω δ,ak,show γ [(110:Int)] (0:Int).toNat 0=110 from rfl,ec,ak,bNd,ec,ak,bWn,ec,ak,awb,ec,ak,bDr,dV (x:=((([]:aY).length:Nat):Int)) (y:=0) rfl,ak,awa,ec,ak,BC N ω bW.w,ar,bOk]
end VM
end
section
namespace VM
open Go VM.F
variable(N:Nat)
theorem Ok.and{α:Type}{P Q:α→Prop}{o:Option α}(h1:Ok P o)(h2:Ok Q o):Ok (λr=>P r∧Q r) o:=by
 obtain⟨r,e,hr⟩:=h1
 obtain⟨q,e',hq⟩:=h2
 rw[e]at e'
 exact⟨r,e,hr,(nR e')▸hq⟩
theorem B3{α:Type}{l:List α}{x y:α}(k:Nat):y∈l.take k++x::l.drop k↔y=x∨y∈l:=by
 have e:y∈l↔y∈l.take k∨y∈l.drop k:=by rw[←bk,gM]
 rw[e,bk,a8]
 constructor
 ·rintro(h|h|h)
  ·exact .inr (.inl h)
  ·exact .inl h
  ·exact .inr (.inr h)
 ·rintro(h|h|h)
  ·exact .inr (.inl h)
  ·exact .inl h
  ·exact .inr (.inr h)
theorem Iy{α:Type}{R:α→α→Prop}{l:List α}{x:α}{k:Nat}(hp:l.Pairwise R)(h1: ∀y∈l.take k,R y x)(h2: ∀y∈l.drop k,R x y):(l.take k++x::l.drop k).Pairwise R:=by
 rw[←gM k l,wR]at hp
 rw[wR,eX]
 exact⟨hp.1,⟨h2,hp.2.1⟩,λa ha b hb=>by
  rcases a8.1 hb with rfl|hb
  ·exact h1 a ha
  ·exact hp.2.2 a ha b hb⟩
theorem UQ{α:Type}{l:List α}{d:α}{f:α→Int}(hp:l.Pairwise λa b=>lI (f a) (f b)){v:Int}{k:Nat}(h1: ∀j,j<k→lI (f (l.getD j d)) v)(h2:k<l.length→ ¬lI (f (l.getD k d)) v)(hn: ∀y∈l,¬dD (f y) v):
  (∀y∈l.take k,lI (f y) v)∧ ∀y∈l.drop k,lI v (f y):=by
 refine⟨λy hy=> ?_,λy hy=> ?_⟩
 ·obtain⟨j,hj,e⟩:=gE hy
  rw[bV]at hj
  rw[Az]at e
  have:=h1 j ω
  rw[jk ω,e]at this
  exact this
 ·obtain⟨j,hj,e⟩:=gE hy
  rw[dY]at hj
  rw[F1]at e
  have h3:=h2 ω
  rw[jk ω]at h3
  have h4:=hn y (mP hy)
  have g: ∀a b c:Int,¬lI a c→(lI a b∨a=b)→ ¬dD b c→lI c b:=λa b c h h' LH=>by
   unfold lI dD at*
   rcases h' with h'|h'<;>omega
  refine g _ _ _ h3 ?_ h4
  by_cases h0:j=0
  ·subst h0;right;rw[←e];rfl
  ·left
   have:=u5.1 hp k (k+j) ω ω ω
   rw[e]at this;exact this
theorem Dn{α:Type}{l:List α}{d:α}(g:α→α){i:Nat}(hi:i<l.length):
  ((l.take i).map g++l.drop i).getD i d=l.getD i d∧((l.take i).map g++l.drop i).set i (g (l.getD i d))=(l.take (i+1)).map g++l.drop (i+1)∧(g (l.getD i d)=l.getD i d→(l.take i).map g++l.drop i=(l.take (i+1)).map g++l.drop (i+1)):=by
 have hlen:((l.take i).map g).length=i:=by rw[cK,bV];omega
 have e1:l.drop i=l[i]::l.drop (i+1):=qF hi
 have e2:l.take (i+1)=l.take i++[l[i]]:=(td hi).symm
 rw[jk hi]
 refine⟨?_,?_,λh=> ?_⟩
 ·rw[aV,pj ω,hlen,uq,e1];rfl
 ·rw[NK _ _ ω,hlen,uq,e1,e2,List.set_cons_zero,dn,bE];rfl
 ·rw[e1,e2,dn,bE,bQ,h];rfl
theorem yU{α:Type}(l:List α)(g:α→α)(i:Nat):((l.take i).map g++l.drop i).length=l.length:=by
 rw[aS,cK,bV,dY];omega
theorem aau(hN:200000≤N){a:aE}(hl:a.length≤50000)(id:Int):Ok (λr=>r.2=0→dI r.1=true∧ ∀n,jX a n→jX r.1 n) (iW N a id):=by
 have bad: ∀e:Int,e≠0→Ok (λr:aE×Int=>r.2=0→dI r.1=true∧ ∀n,jX a n→jX r.1 n) (some ([],e)):=λe h=>aq λh'=>absurd h' h
 have b1:=bad 1 δ
 unfold iW iW.b
 refine bK (nu N ω hN) (bF (λ_=>b1) λhM=>ax (λ_=>b1) λh1=>ax (λ_=>b1) λh2=>bK (iT N ω hN id) (bG (λ_=>bad _ δ) λh0=> ?_))
 obtain⟨hm,hp⟩:=gV.1 hM
 have hn: ∀y∈a,¬dD y.1 id:=λy hy e=>(gW hm).2 ⟨y,hy,e⟩ h0
 have fin: ∀k:Nat,k≤a.length→(∀j,j<k→lI (a.getD j c8).1 id)→(k<a.length→ ¬lI (a.getD k c8).1 id)→Ok (λr=>r.2=0→dI r.1=true∧ ∀n,jX a n→jX r.1 n) (iW.j9 N a id [] (k:Int)):=λk hk g1 g2=>by
  unfold iW.j9 iW.JA
  refine MC hk ω λ_=> ?_
  simp only[cN,aI,dK,cV,gN,bE,ky]
  obtain⟨q1,q2⟩:=UQ (f:=λx:Bx=>x.1) hp g1 g2 hn
  refine⟨gV.2 ⟨λx hx=> ?_,Iy hp q1 q2⟩,λn ⟨y,hy,e⟩=>⟨y,(B3 k).2 (.inr hy),e⟩⟩
  rcases(B3 k).1 hx with rfl|hx
  ·exact⟨h1,h2,(show(1:Int)≤1 by decide),(show(1:Int)≤4 by decide)⟩
  ·exact hm x hx
 refine br (σ:=Unit) (len:=a.length) (F:=λn i _=>iW.l7 N n a id [] i) (s:=()) (λi _=> ∀j,j<i→lI (a.getD j c8).1 id) (λj hj=>absurd hj ω) ω (λn i _ hi hI hr=> ?_) (λn _ hI=> ?_)
 all_goals unfold iW.l7 iW.oJ
 ·rw[aw (x:=(i:Int)+1) ω ω,af i]
  refine ax (λ_=>aB ⟨ω,ω⟩ (ax (λh=>hr () λj hj=> ?_) λh=>fin i ω hI λ_ h'=> ?_)) λ_=>ω
  ·by_cases e:j=i
   ·subst e;exact h
   ·exact hI j ω
  ·have g: ∀x y:Int,lI x y→y≤x→False:=λx y h h'=>by unfold lI at h;omega
   exact g _ _ h' h
 ·exact ax (λ_=>ω) λ_=>fin _ (aH _) hI λh=>absurd h ω
theorem aav(a b:Int):Ok (λr=>r.2=true→1≤r.1∧r.1≤4) (Wy N a b):=by
 have h: ∀(x:Int) (t:Bool),(t=true→1≤x∧x≤4)→Ok (λr:Int×Bool=>r.2=true→1≤r.1∧r.1≤4) (some (x,t)):=λx t hx=>aq hx
 unfold Wy
 repeat' first|refine ok_eq (λ_=> ?_) (λ_=> ?_)|exact h _ _ δ
def MT(id v:Int)(x:Bx):Bx:=if x.1=id then(x.1,(v,x.2.2))else x
theorem S4(id v:Int)(x:Bx):(MT id v x).1=x.1:=by unfold MT;split<;>rfl
theorem xX{α:Type}{R:α→α→Prop}{g:α→α}{l:List α}(hp:l.Pairwise R)(h: ∀x∈l,∀y∈l,R x y→R (g x) (g y)):(l.map g).Pairwise R:=by
 rw[wW]
 exact hp.imp_of_mem λhx hy h'=>h _ hx _ hy h'
theorem UR(hN:200000≤N){l:aE}(hl:l.length≤50000)(id k:Int):Ok (λr=>r.2=0→dI r.1=true∧(∀n,jX l n→jX r.1 n)∧jX l id) (mM N l id k):=by
 have bad: ∀e:Int,e≠0→Ok (λr:aE×Int=>r.2=0→dI r.1=true∧(∀n,jX l n→jX r.1 n)∧jX l id) (some ([],e)):=λe h=>aq λh'=>absurd h' h
 unfold mM mM.b
 refine bK (nu N ω hN) (bF (λ_=>bad _ δ) λhM=>bK (iT N ω hN _) (ok_eq (λ_=>bad _ δ) λxh=>ag (aav N _ _) λz hz=>bF (λ_=>bad _ δ) λFu=>aD (by rw[cr];omega) ?_))
 obtain⟨hm,hp⟩:=gV.1 hM
 have hz:=hz Fu
 rw[cN]
 refine br (len:=l.length) (F:=λn i s=>mM.zW N n id z.1 s i) (λi s=>s=(l.take i).map (MT id z.1)++l.drop i) rfl ω (λn i s hi hI hr=> ?_) (λn s hI=> ?_)
 all_goals unfold mM.zW mM.xK
 ·rw[aw (x:=(i:Int)+1) ω ω,af i]
  obtain⟨s1,s2,s3⟩:=Dn (d:=c8) (MT id z.1) hi
  have hs:s.length=l.length:=by rw[hI];exact yU l _ i
  rw[←hI]at s1 s2 s3
  refine ax (λ_=>aB ⟨ω,ω⟩ (ok_eq (λe=>aB ⟨ω,ω⟩ (hr _ ?_)) λe=>hr s (s3 ?_))) λ_=>ω
  ·rw[aI,s1]at e ⊢
   rw[←s2]
   unfold MT;rw[aj e]
  ·rw[aI,s1]at e
   unfold MT;rw[ah e]
 ·have hs:s.length=l.length:=by rw[hI];exact yU l _ _
  have e:s=l.map (MT id z.1):=by rw[hI,gN,mT,cw]
  refine ax (λ_=>ω) λ_=>aq λ_=> ?_
  dsimp only
  rw[e]
  refine⟨gV.2 ⟨λx hx=> ?_,xX hp λx _ y _ h=> ?_⟩,λn ⟨y,hy,e⟩=>⟨MT id z.1 y,fm hy,?_⟩,(gW hm).1 xh⟩
  ·obtain⟨y,hy,rfl⟩:=cW.1 hx
   have h:=hm y hy
   unfold MT
   split
   ·exact⟨h.1,h.2.1,hz.1,hz.2⟩
   ·exact h
  ·unfold aae;rw[S4,S4];exact h
  ·rw[S4];exact e
def JT(id v:Int)(x:cF):cF:=if x.1=id then(x.1,(x.2.1,(x.2.2.1,(v,x.2.2.2.2))))else x
def E8(id v:Int)(x:cF):cF:=if x.1=id then(x.1,(v,x.2.2))else x
theorem xY(id v:Int)(x:cF):(JT id v x).1=x.1∧(JT id v x).2.1=x.2.1∧(JT id v x).2.2.1=x.2.2.1:=by unfold JT;split<;>exact⟨rfl,rfl,rfl⟩
theorem Iz(id v:Int)(x:cF):(E8 id v x).1=x.1∧(E8 id v x).2.2=x.2.2:=by unfold E8;split<;>exact⟨rfl,rfl⟩
theorem Qd{a:aO}{g:cF→cF}(hg: ∀x,(g x).1=x.1)(n:Int)(h:q5 a n):q5 (a.map g) n:=by
 obtain⟨y,hy,e⟩:=h
 exact⟨g y,fm hy,by rw[hg];exact e⟩
abbrev s6(m:aE)(a:aO)(r:aO×Int):Prop:=r.2=0→gQ r.1=true∧(∀n,q5 a n→q5 r.1 n)∧ ∀x∈r.1,jX m x.2.1
theorem s6.bad{m:aE}{a:aO}{e:Int}(h:e≠0):Ok (s6 m a) (some ([],e)):=aq λh'=>absurd h' h
theorem aaw(hN:200000≤N){m:aE}{l:aO}(hl:l.length≤50000)(hm: ∀x∈l,jX m x.2.1)(id q:Int):Ok (s6 m l) (ox N l id q):=by
 unfold ox ox.b
 refine bK (uH N ω hN) (bF (λ_=>s6.bad δ) λhA=>ax (λ_=>s6.bad δ) λq0=>ax (λ_=>s6.bad δ) λq1=>bK (si N ω hN _) (bF (λ_=>s6.bad δ) λ_=>aD (by rw[cr];omega) ?_))
 obtain⟨ha,hp,ht⟩:=qa.1 hA
 rw[cN]
 refine br (len:=l.length) (F:=λn i s=>ox.l8 N n id q s i) (λi s=>s=(l.take i).map (JT id q)++l.drop i) rfl ω (λn i s hi hI hr=> ?_) (λn s hI=> ?_)
 all_goals unfold ox.l8 ox.D4
 ·rw[aw (x:=(i:Int)+1) ω ω,af i]
  obtain⟨s1,s2,s3⟩:=Dn (d:=ba) (JT id q) hi
  have hs:s.length=l.length:=by rw[hI];exact yU l _ i
  rw[←hI]at s1 s2 s3
  refine ax (λ_=>aB ⟨ω,ω⟩ (ok_eq (λe=>aB ⟨ω,ω⟩ (hr _ ?_)) λe=>hr s (s3 ?_))) λ_=>ω
  ·rw[aI,s1]at e ⊢
   rw[←s2]
   unfold JT;rw[aj e]
  ·rw[aI,s1]at e
   unfold JT;rw[ah e]
 ·have hs:s.length=l.length:=by rw[hI];exact yU l _ _
  have e:s=l.map (JT id q):=by rw[hI,gN,mT,cw]
  refine ax (λ_=>ω) λ_=>aq λ_=> ?_
  dsimp only
  rw[e]
  refine⟨qa.2 ⟨λx hx=> ?_,xX hp λx _ y _ h=> ?_,xX ht λx _ y _ h=> ?_⟩,Qd λx=>(xY id q x).1,λx hx=> ?_⟩
  ·obtain⟨y,hy,rfl⟩:=cW.1 hx
   have h:=ha y hy
   unfold JT
   split
   ·exact⟨h.1,h.2.1,h.2.2.1,q0,q1⟩
   ·exact h
  ·unfold P4;rw[(xY id q x).1,(xY id q y).1];exact h
  ·unfold ntw aqg;rw[(xY id q x).2.1,(xY id q y).2.1,(xY id q x).2.2,(xY id q y).2.2];exact h
  ·obtain⟨y,hy,rfl⟩:=cW.1 hx
   rw[(xY id q y).2.1];exact hm y hy
theorem Lf{n:Int}: ∀{l:aO},l.Pairwise P4→ ∀x∈l,dD x.1 n→(uG n l).1=x
 |[],_,x,hx,_=>nomatch hx
 |y::t,hp,x,hx,e=>by
  rw[o4]
  rcases a8.1 hx with rfl|hx
  ·rw[aj (show x.1=n from e)]
  ·have h:lI y.1 x.1:=(eX.1 hp).1 x hx
   have g: ∀a b:Int,lI a b→dD b n→ ¬a=n:=λa b h1 h2=>by unfold lI dD at*;omega
   rw[ah (g _ _ h e)]
   exact Lf (eX.1 hp).2 x hx e
theorem S5(hN:200000≤N){m:aE}{l:aO}(Fl:m.length≤50000)(hl:l.length≤50000)(id to:Int):Ok (s6 m l) (oy N m l id to):=by
 unfold oy oy.b
 refine bK (xF N ω ω hN) (bF (λ_=>s6.bad δ) λhR=>bK (si N ω hN _) (bK (iT N ω hN _) (bF (λ_=>s6.bad δ) λ_=>ok_eq (λ_=>s6.bad δ) λhs=>bG (λ_=>s6.bad δ) λhk=>bG (λ_=>s6.bad δ) λ_=>aD (by rw[cr];omega) ?_)))
 unfold sj at hR
 simp only[bM,fu,fU]at hR
 obtain⟨hM,hA,hma⟩:=hR
 obtain⟨ha,hp,ht⟩:=qa.1 hA
 have hmm:=(gV.1 hM).1
 obtain⟨mx,Ni,emx⟩:=(gW hmm).1 hs
 have hm: ∀x∈l,jX m x.2.1:=(gS (d:=ba) (Q:=λx=>jX m x.2.1)).1 λj hj=>(gW hmm).1 (hma j hj)
 rw[cN]
 refine br (len:=l.length) (F:=λn i s=>oy.mw N n id to s i) (λi s=>s=(l.take i).map (E8 id to)++l.drop i) rfl ω (λn i s hi hI hr=> ?_) (λn s hI=> ?_)
 all_goals unfold oy.mw oy.lz
 ·rw[aw (x:=(i:Int)+1) ω ω,af i]
  obtain⟨s1,s2,s3⟩:=Dn (d:=ba) (E8 id to) hi
  have hs:s.length=l.length:=by rw[hI];exact yU l _ i
  rw[←hI]at s1 s2 s3
  refine ax (λ_=>aB ⟨ω,ω⟩ (ok_eq (λe=>aB ⟨ω,ω⟩ (hr _ ?_)) λe=>hr s (s3 ?_))) λ_=>ω
  ·rw[aI,s1]at e ⊢
   rw[←s2]
   unfold E8;rw[aj e]
  ·rw[aI,s1]at e
   unfold E8;rw[ah e]
 ·have hs:s.length=l.length:=by rw[hI];exact yU l _ _
  have e:s=l.map (E8 id to):=by rw[hI,gN,mT,cw]
  refine ax (λ_=>ω) λ_=>aq λ_=> ?_
  dsimp only
  rw[e]
  have cl: ∀x∈l,x.1=id→x.2.2.1=2:=λx hx e=>by rw[←Lf hp x hx e];exact hk
  have mo:aaf mx.1 mx.2.1:=hmm mx Ni
  have aqo:mx.1=to:=emx
  refine⟨qa.2 ⟨λx hx=> ?_,xX hp λx _ y _ h=> ?_,xX ht λx hx y hy h=> ?_⟩,Qd λx=>(Iz id to x).1,λx hx=> ?_⟩
  ·obtain⟨y,hy,rfl⟩:=cW.1 hx
   have h:=ha y hy
   unfold E8
   split
   ·exact⟨h.1,⟨aqo▸mo.1,aqo▸mo.2.1⟩,h.2.2⟩
   ·exact h
  ·unfold P4;rw[(Iz id to x).1,(Iz id to y).1];exact h
  ·intro ⟨t1,t2,t3⟩
   rw[(Iz id to x).2]at t1
   rw[(Iz id to y).2]at t2
   have nx: ∀x∈l,dD x.2.2.1 1→E8 id to x=x:=λx hx e=>by
    unfold E8
    rw[ah]
    intro h'
    have:=cl x hx h'
    have e':x.2.2.1=1:=e
    rw[e']at this;exact absurd this δ
   rw[nx x hx t1,nx y hy t2]at t3
   exact h ⟨t1,t2,t3⟩
  ·obtain⟨y,hy,rfl⟩:=cW.1 hx
   unfold E8
   split
   ·exact⟨mx,Ni,emx⟩
   ·exact hm y hy
theorem Ez{n:Int}: ∀{l:aO},(∀x∈l,SV x)→ob n l=0→ ∀x∈l,dD x.2.2.1 1→ ¬dD x.2.1 n
 |[],_,_,x,hx,_=>nomatch hx
 |y::t,ha,h,x,hx,e=>by
  rw[tz]at h
  have ih:=Ez (n:=n) λz hz=>ha z (aZ _ hz)
  have hy:SV y:=ha y (bs ..)
  have g: ∀v:Int,1≤v→ ¬v=0:=λv h1 h2=>ω
  by_cases e1:y.2.1=n
  ·rw[aj e1]at h
   by_cases e2:y.2.2.1=1
   ·rw[aj e2]at h;exact absurd h (g _ hy.1.1)
   ·rw[ah e2]at h
    rcases a8.1 hx with rfl|hx
    ·exact absurd e e2
    ·exact ih h x hx e
  ·rw[ah e1]at h
   rcases a8.1 hx with rfl|hx
   ·exact e1
   ·exact ih h x hx e
theorem adH(hN:200000≤N){m:aE}{l:aO}(Fl:m.length≤50000)(hl:l.length≤50000)(x:cF):Ok (s6 m l) (fT N m l x):=by
 unfold fT fT.b
 refine bK (xF N ω ω hN) (bF (λ_=>s6.bad δ) λhR=>bK (uH N (l:=[x]) (by rw[aJ];omega) hN) (bF (λ_=>s6.bad δ) λhX=>bK (iT N ω hN _) (ok_eq (λ_=>s6.bad δ) λhs=>bG (λ_=>s6.bad δ) λ_=>bK (si N ω hN _) (pd (λ_=>s6.bad δ) λhf=> ?_))))
 unfold sj at hR
 simp only[bM,fu,fU]at hR
 obtain⟨hM,hA,hma⟩:=hR
 obtain⟨ha,hp,ht⟩:=qa.1 hA
 have hmm:=(gV.1 hM).1
 have hx:=(qa.1 hX).1 x (cn.2 rfl)
 have hxm:=(gW hmm).1 hs
 have hm: ∀x∈l,jX m x.2.1:=(gS (d:=ba) (Q:=λx=>jX m x.2.1)).1 λj hj=>(gW hmm).1 (hma j hj)
 have hn: ∀y∈l,¬dD y.1 x.1:=λy hy e=>by
  have:=Di.2 ⟨y,hy,e⟩
  rw[hf]at this;exact nomatch this
 have fin:(∀y∈l,ntw y x)→ ∀k:Nat,k≤l.length→(∀j,j<k→lI (l.getD j ba).1 x.1)→(k<l.length→ ¬lI (l.getD k ba).1 x.1)→Ok (s6 m l) (fT.Da N l x [] (k:Int)):=λhw k hk g1 g2=>by
  unfold fT.Da fT.wI
  refine MC hk ω λ_=> ?_
  simp only[cN,aI,dK,cV,gN,bE,ky]
  obtain⟨q1,q2⟩:=UQ (f:=λx:cF=>x.1) hp g1 g2 hn
  have tw: ∀y∈l,ntw x y:=λy hy ⟨t1,t2,t3⟩=>hw y hy ⟨t2,t1,Eq.symm t3⟩
  refine⟨qa.2 ⟨λy hy=> ?_,Iy hp q1 q2,Iy ht (λy hy=>hw y (lK hy)) λy hy=>tw y (mP hy)⟩,λn ⟨y,hy,e⟩=>⟨y,(B3 k).2 (.inr hy),e⟩,λy hy=> ?_⟩
  ·rcases(B3 k).1 hy with rfl|hy
   ·exact hx
   ·exact ha y hy
  ·rcases(B3 k).1 hy with rfl|hy
   ·exact hxm
   ·exact hm y hy
 have hj:(∀y∈l,ntw y x)→Ok (s6 m l) (fT.E5 N l x):=λhw=>by
  unfold fT.E5 fT.xV
  refine br (σ:=Unit) (len:=l.length) (F:=λn i _=>fT.mw N n l x [] i) (s:=()) (λi _=> ∀j,j<i→lI (l.getD j ba).1 x.1) (λj hj=>absurd hj ω) ω (λn i _ hi hI hr=> ?_) (λn _ hI=> ?_)
  all_goals unfold fT.mw fT.lz
  ·rw[aw (x:=(i:Int)+1) ω ω,af i]
   refine ax (λ_=>aB ⟨ω,ω⟩ (ax (λh=>hr () λj hj=> ?_) λh=>fin hw i ω hI λ_ h'=> ?_)) λ_=>ω
   ·by_cases e:j=i
    ·subst e;exact h
    ·exact hI j ω
   ·have g: ∀x y:Int,lI x y→y≤x→False:=λx y h h'=>by unfold lI at h;omega
    exact g _ _ h' h
  ·exact ax (λ_=>ω) λ_=>fin hw _ (aH _) hI λh=>absurd h ω
 refine ok_eq (λe=>bK (ru N ω hN _) (bG (λ_=>s6.bad δ) λh0=>hj λy hy ⟨t1,_,t3⟩=> ?_)) λe=>hj λy hy ⟨_,t2,_⟩=>e t2
 unfold oc at h0
 rw[aj hA]at h0
 exact Ez ha h0 y hy t1 t3
def PB(m:aE)(a:aO)(p:bO):Prop:=
 ∃e:au,p=e.map jB∧Hz e∧(∀x∈e,c9 x.1 x.2.1∧kf m a x.1 x.2.1)∧(e.map dT).sum=0
def SB(c:ae)(a:aO)(s:au):Prop:=eK s∧(∀x∈s,cj x.1 x.2.1∧zt c a x.1 x.2.1)∧ ∀i:Int,(df i s).sum=0
theorem PB.nil{m:aE}{a:aO}:PB m a []:=⟨[],rfl,λx hx=>(nomatch hx),λx hx=>(nomatch hx),rfl⟩
theorem PB.app{m:aE}{a:aO}{p q:bO}(hp:PB m a p)(hq:PB m a q):PB m a (p++q):=by
 obtain⟨e,rfl,e1,e2,e3⟩:=hp
 obtain⟨f,rfl,f1,f2,f3⟩:=hq
 refine⟨e++f,dn.symm,λx hx=>(bk.1 hx).elim (e1 x) (f1 x),λx hx=>(bk.1 hx).elim (e2 x) (f2 x),?_⟩
 rw[dn,kQ,e3,f3];rfl
theorem IA(i:Int): ∀s t:au,df i (s++t)=df i s++df i t
 |[],t=>rfl
 |x::s,t=>by
  rw[ky,dx,dx,IA i s t]
  split<;>rfl
theorem SB.nil{c:ae}{a:aO}:SB c a []:=⟨λx hx=>(nomatch hx),λx hx=>(nomatch hx),λ_=>rfl⟩
theorem SB.app{c:ae}{a:aO}{s t:au}(hs:SB c a s)(ht:SB c a t):SB c a (s++t):=
 ⟨λx hx=>(bk.1 hx).elim (hs.1 x) (ht.1 x),λx hx=>(bk.1 hx).elim (hs.2.1 x) (ht.2.1 x),λi=>by rw[IA,kQ,hs.2.2,ht.2.2];rfl⟩
theorem SB.two{c:ae}{a:aO}{x y i q r:Int}(hq:aF q)(hr:aF r)(e:q+r=0)(hx:cj x i∧zt c a x i)(hy:cj y i∧zt c a y i):SB c a [(x,(i,(q,()))),(y,(i,(r,())))]:=by
 refine⟨λz hz=> ?_,λz hz=> ?_,λj=> ?_⟩
 ·rcases a8.1 hz with rfl|hz
  ·exact hq
  ·rw[cn.1 hz];exact hr
 ·rcases a8.1 hz with rfl|hz
  ·exact hx
  ·rw[cn.1 hz];exact hy
 ·rw[dx,dx]
  by_cases h:i=j
  ·rw[aj h,aj h]
   show q+(r+0)=0
   omega
  ·rw[ah h,ah h];rfl
theorem PB.two{m:aE}{a:aO}{k n k' n' v w:Int}(hv:cR v)(hw:cR w)(e:v+w=0)(h1:c9 k n∧kf m a k n)(h2:c9 k' n'∧kf m a k' n'):PB m a [(k,(n,(dA v,()))),(k',(n',(dA w,())))]:=by
 refine⟨[(k,(n,(v,()))),(k',(n',(w,())))],rfl,λz hz=> ?_,λz hz=> ?_,?_⟩
 ·rcases a8.1 hz with rfl|hz
  ·exact hv
  ·rw[cn.1 hz];exact hw
 ·rcases a8.1 hz with rfl|hz
  ·exact h1
  ·rw[cn.1 hz];exact h2
 ·show v+(w+0)=0
  omega
abbrev JH(c:ae)(b:an)(r:an×Int):Prop:=r.2=0→RBs c b r.1
theorem JH.bad{c:ae}{b b':an}{e:Int}(h:e≠0):Ok (JH c b) (some (b',e)):=aq λh'=>absurd h' h
theorem aax(hN:4000000≤N){b:an}{s e:au}(w:oe b)(hr:eJ b.2.2.1=true)(hs:de b.2.2.2.1=true)(lr:b.2.2.1.length≤90000)(ls:b.2.2.2.1.length≤90000)(qs:eK s)(lns:s.length≤100000)(qe:Hz e)(lne:e.length≤100000):
  y9 N b s (e.map jB)=some (cC b s e):=by
 unfold y9 cC
 rw[Hy N hN hs ls w.qs qs lns,Um N hN hr lr w.qr qe lne]
 unfold wG
 rw[ar,ar]
 cases dH Fq (fS b.2.2.2.1 s) iU with
 |none=>rfl
 |some s'=>
  cases dH aF (fS b.2.2.1 e) mc with
  |none=>rfl
  |some r'=>rfl
theorem tN(hN:4000000≤N){c:ae}{b:an}{s:au}{p:bO}{m:Nat}(hm:m≤50000)(hb:G m aK b)(h:RB c b)(hs:SB c b.2.1 s)(hp:PB b.1 b.2.1 p)(ls:s.length≤50000)(lp:p.length≤50000):Ok (JH c b) (y9 N b s p):=by
 obtain⟨e,rfl,e1,e2,e3⟩:=hp
 obtain⟨hr,xh⟩:=eS (oh.2 h)
 have w:=G.wf hm hb
 rw[cK]at lp
 exact ou (aax N hN w.w hr xh w.r w.s hs.1 ω e1 ω) λh0=>h.cC hs.2.1 hs.2.2 e2 e3 h0
theorem pB{v:Int}(h:aF v):cR v∧cR (-v):=by unfold aF at h;unfold cR;omega
theorem tO(hN:4000000≤N){m:aE}{a:aO}{k n k' n' v:Int}(hv:cR v∧cR (-v))(h1:c9 k n∧kf m a k n)(h2:c9 k' n'∧kf m a k' n'):Ok (λr=>PB m a r∧r.length=2) (Dd N k n k' n' (dA v)):=by
 unfold Dd
 exact bK (oZ N hN (FD hv.1)) (aq ⟨PB.two hv.2 hv.1 ω h1 h2,rfl⟩)
theorem uU{c:ae}{b:an}(h:RB c b){k:Int}(hk:q5 b.2.1 k):c9 5 k∧kf b.1 b.2.1 5 k:=by
 obtain⟨y,hy,e⟩:=hk
 have hk:=(qa.1 h.a).1 y hy
 have e':y.1=k:=e
 exact⟨.inr (.inl ⟨rfl,e'▸hk.1⟩),λ_=>⟨y,hy,e⟩,λh=>absurd h δ⟩
theorem Dp{m:aE}{a:aO}{k:Int}(h:1≤k∧k≤4):c9 k 0∧kf m a k 0:=
 ⟨.inl ⟨h.1,h.2,rfl⟩,λe=>by unfold dD at e;omega,λe=>by unfold dD at e;omega⟩
theorem B4{c:ae}{b:an}(h:RB c b){k n:Int}(hk:6≤k∧k≤7)(hn:jX b.1 n):c9 k n∧kf b.1 b.2.1 k n:=by
 obtain⟨y,hy,e⟩:=hn
 have hm:=(gV.1 h.m).1 y hy
 have e':y.1=n:=e
 exact⟨.inr (.inr ⟨hk.1,hk.2,e'▸hm.1,e'▸hm.2.1⟩),λe=>by unfold dD at e;omega,λ_=>⟨y,hy,e⟩⟩
theorem MU{m:aE}{a:aO}{k:Int}(h:dD k 0∨q5 a k)(hk:0≤k∧k≤24)(x:Int):c9 (sr k x).1 (sr k x).2.1∧kf m a (sr k x).1 (sr k x).2.1:=by
 unfold sr
 by_cases e:k=0
 ·rw[aj e]
  exact⟨show c9 2 0 by decide,λh=>absurd h (show ¬dD 2 5 by decide),λh=>absurd h (show ¬(dD 2 6∨dD 2 7)by decide)⟩
 ·rw[ah e]
  refine⟨show c9 5 k by unfold c9;omega,λ_=>h.elim (λh=>absurd h e) id,λh=>absurd h (show ¬(dD 5 6∨dD 5 7)by decide)⟩
theorem Qe{c:ae}{b:an}(h:RB c b){k:Int}(ht:((eV b.2.1 k).2||decide (dD k 0))=true):dD k 0∨q5 b.2.1 k:=by
 rcases Bool.or_eq_true_iff.1 ht with ht|ht
 ·exact .inr ((qb h.a k).1 ht)
 ·exact .inl (bt ht)
theorem JU(hN:4000000≤N){m:aE}{a:aO}{t:ir}{p:Int}(ht:cO t)(hp:dj p)(h1:dD t.1 0∨q5 a t.1)(h2:dD t.2.1 0∨q5 a t.2.1):Ok (λr=>PB m a r.1∧r.1.length≤2) (Ph N t p):=by
 refine ou (zp N hN ht hp) ?_
 have ht':=ht
 unfold cO kd at ht'
 have hk:cR ((p-t.2.2.2.2.1)*t.2.2.2.1)∧cR (-((p-t.2.2.2.2.1)*t.2.2.2.1)):=by
  have hq:=ht'.2.2.2.2.1
  have he:=ht'.2.2.2.2.2
  generalize t.2.2.2.2.1=e at*
  generalize t.2.2.2.1=q at*
  unfold dj at hp he
  have:=C2 (d:=p-e) ω hq
  unfold cR;omega
 unfold mi
 dsimp only
 split
 ·exact⟨PB.nil,bz _⟩
 ·refine⟨⟨_,rfl,λx hx=> ?_,λx hx=> ?_,?_⟩,aH 2⟩
  ·rcases a8.1 hx with rfl|hx
   ·rw[ia];exact hk.1
   ·rw[cn.1 hx,ia];exact hk.2
  ·rcases a8.1 hx with rfl|hx
   ·exact MU h1 ht'.1 _
   ·rw[cn.1 hx];exact MU h2 ht'.2.1 _
  ·rw[bQ,bQ,ik,ia,ia,cE,cE,jo];omega
theorem CU(hN:5000000≤N){c:ae}{b:an}{l:bf}{m:Nat}(hm:m≤50000)(hb:G m aK b)(h:RB c b):Ok (JH c b) (nK N c b l):=by
 unfold nK nK.b
 refine bK (ed N hN hm hb) (bF (λ_=>JH.bad δ) λhB=>ax (λ_=>JH.bad δ) λhl=> ?_)
 obtain⟨hp,I2⟩:=fD hB
 refine br (len:=l.length) (F:=λn i (_:Unit)=>nK.l4 N n l c b (cc,(cT,(bq,(bq,(db,(dq,())))))) i) (s:=()) (λi _=> ∀j,j<i→cO (l.getD j eG)) (λj hj=>ω) ω (λn i _ hi hI hr=> ?_) (λn _ hI=> ?_)
 all_goals unfold nK.l4 nK.dQ
 ·rw[aw (x:=(i:Int)+1) ω ω,af i]
  refine ax (λ_=>aB ⟨ω,ω⟩ (bK (uN N _) (bF (λ_=>JH.bad δ) λht=>hr () λj hj=> ?_))) λ_=>ω
  by_cases e:j=i
  ·rw[e];exact bt ht
  ·exact hI j ω
 ·refine ax (λ_=>ω) λ_=> ?_
  have wf:=G.wf hm hb
  refine br (len:=l.length) (F:=λn i (s:au×bO)=>nK.zW N n l c b (cc,(cT,(bq,(bq,(db,(dq,())))))) s.1 s.2 i) (s:=(_,_)) (λi s=>(SB c b.2.1 s.1∧s.1.length≤2*i)∧PB b.1 b.2.1 s.2∧s.2.length≤2*i) ⟨⟨SB.nil,bz _⟩,PB.nil,bz _⟩ ω (λn i s hi hJ hr=> ?_) (λn s hJ=> ?_)
  all_goals unfold nK.zW nK.xK
  all_goals obtain⟨⟨j1,j2⟩,j3,j4⟩:=hJ
  ·have ht0:=hI i hi
   have ht:=ht0
   unfold cO kd at ht
   dsimp only
   rw[aw (x:=(i:Int)+1) ω ω,af i,aI]
   generalize l.getD i eG=t at*
   refine ax (λ_=>aB ⟨ω,ω⟩ (bK (pT N b wf.w.a ω _) (bF (λ_=>JH.bad δ) λt1=>bK (pT N b wf.w.a ω _) (bF (λ_=>JH.bad δ) λt2=>eO (λ_=>JH.bad δ) λeT=>aD ?_ (aB ⟨ht.2.2.2.1.1,by rw[hp];exact eT⟩ ?_))))) λ_=>ω
   ·rw[aT,aJ];omega
   have i1:=Qe h t1
   have i2:=Qe h t2
   have pr:dj (b.2.2.2.2.1.getD t.2.2.1.toNat 0):=by
    unfold fi at I2
    have hk:t.2.2.1.toNat<b.2.2.2.2.1.length:=by
     rw[hp]
     have g: ∀x:Int,0≤x→x<(c.1.length:Int)→x.toNat<c.1.length:=λx h1 h2=>ω
     exact g _ ht.2.2.2.1.1 eT
    exact(bt I2) _ hk
   refine ag (JU N ω ht0 pr i1 i2) λr ⟨Bm,zA⟩=>aD ω (hr (_,_) ⟨⟨?_,?_⟩,PB.app j3 Bm,?_⟩)
   ·refine SB.app j1 ?_
    have hq:aF t.2.2.2.1∧aF (0-t.2.2.2.1)∧W .i64 (0-t.2.2.2.1)=0-t.2.2.2.1:=by
     have hq:=ht.2.2.2.2.1
     generalize t.2.2.2.1=q at*
     exact⟨by unfold aF;omega,by unfold aF;omega,aw ω ω⟩
    rw[hq.2.2]
    have pl: ∀x:Int,0≤x∧x≤24→cj x t.2.2.1:=λx hx=>⟨hx.1,hx.2,ht.2.2.2.1.1,ht.2.2.2.1.2⟩
    exact SB.two hq.1 hq.2.1 ω ⟨pl _ ht.1,i1,eT⟩ ⟨pl _ ht.2.1,i2,eT⟩
   ·dsimp only;rw[List.length_append,List.length_cons,List.length_singleton];omega
   ·dsimp only;rw[List.length_append];omega
  ·exact ax (λ_=>ω) λ_=>ag (tN N ω hm hb h j1 j3 ω ω) λr h=>aq h
theorem adI(hN:5000000≤N){c:ae}{b:an}{h:cF}{a q p:Int}{m:Nat}(h2:200≤m)(hm:m≤40000)(hc:G m aA c)(hb:G m aK b)(hR:RB c b)(hh:G m fc h)(ha:aF a)(hq:aF q)(hp:aF p):Ok (λr=>r.2.2=0→RB c r.1∧r.2.1.2.1=h.2.1∧Ze r.2.1.2.2.2.1 1000000000) (qv N c b h a q p):=by
 have ho:G m nh (h.1,(a,(h.2.1,(W .i64 (3-h.2.2.1),(q,(p,())))))):=⟨hh.1,ha,hh.2.1,gB _,hq,hp,trivial⟩
 have eg: ∀e:Int,e≠0→Ok (λr:an×cF×Int=>r.2.2=0→RB c r.1∧r.2.1.2.1=h.2.1∧Ze r.2.1.2.2.2.1 1000000000) (some ((cc,(cT,(bq,(bq,(db,(dq,())))))),(ba,e))):=λe h=>aq λh'=>absurd h' h
 unfold qv qv.b
 have hj:BV h→1≤q→ ¬lI h.2.2.2.1 q→ ∀t:ir,Ok (λr=>r.2.2=0→RB c r.1∧r.2.1.2.1=h.2.1∧Ze r.2.1.2.2.2.1 1000000000) (qv.j14 N q c b h (cc,(cT,(bq,(bq,(db,(dq,())))))) ba t):=λhk q1 q2 t=>by
  have g: ∀x:Int,qIn x→ ¬lI x q→Ze (W .i64 (x-q)) 1000000000:=λx h1 h2=>by unfold qIn at h1;unfold lI at h2;unfold Ze;rw[aw ω ω];omega
  unfold qv.j14 qv.ac9
  exact ag (CU N hN ω hb hR) λr hr=>bG (λh=>eg _ h) λh0=>aq λ_=>⟨(hr h0).1,rfl,g _ hk.2.2.2 q2⟩
 have b1:=eg 1 δ
 exact bK (ed N hN ω hb) (bF (λ_=>b1) λ_=>bK (xS N h) (bF (λ_=>b1) λhk=>ax (λ_=>b1) λq1=>ax (λ_=>b1) λ_=>ax (λ_=>b1) λ_=>ax (λ_=>b1) λ_=>ax (λ_=>eg _ δ) λq2=>ax (λ_=>b1) λ_=>ax (λ_=>b1) λ_=>ag (BX N hN h2 hm hc hb ho) λe _=>bG (λh=>eg _ h) λ_=>ok_eq (λ_=>hj (bt hk) q1 (nU.2 q2) _) λ_=>hj (bt hk) q1 (nU.2 q2) _))
theorem Qf(hN:5000000≤N){c:ae}{b:an}{m:Nat}(h2:200≤m)(hm:m≤40000)(hc:G m aA c)(hb:G m aK b)(hR:RB c b){a:Int}(ha:aF a){q:Int}(hq:aF q):Ok (JH c b) (WB N c b a q):=by
 have b1: ∀e:Int,e≠0→Ok (JH c b) (some ((cc,(cT,(bq,(bq,(db,(dq,())))))),e)):=λe h=>JH.bad h
 unfold WB
 refine bK (ed N hN ω hb) (bF (λ_=>b1 _ δ) λ_=>ax (λ_=>b1 _ δ) λ_=>ag (Ib N ω ω hb.2.1 _) λx ⟨_,hxf⟩=>bF (λ_=>b1 _ δ) λhf=>ag (pe N ω ω hb.1 _) λ_ _=>bG (λ_=>b1 _ δ) λ_=>ag (ni N ω ω hb.2.2.1 _ _) λg hg=>ag (bD N ω hg) λx hx=>ag (bD N ω hq) λy hy=>ag (yN N ω ω hx hy) λz hz=>ag (Ia N ω h2 hm hc hb (bz _) _) λw hw=>ag (qu N ω ω ω hz hw) λ_ _=>ax (λ_=>b1 _ δ) λ_=>bK (dP N ω hq.1 hq.2) ?_)
 rw[hxf]at hf
 exact ag (tO N ω (pB hq) (uU hR ((qb hR.a a).1 hf)) (Dp δ)) λp ⟨hp,Cw⟩=>ag (tN N ω ω hb hR SB.nil hp (bz _) ω) λr hr=>aq hr
def EA(i d:Int)(l:au):au:=(l.filter λx=>decide (dD x.2.1 i∧ ¬dD d 0)).map λx=>sr x.1 (dT x*d)
theorem S6{l:au}{i d:Int}{k:Nat}(hk:k<l.length):EA i d (l.take (k+1))=EA i d (l.take k)++if dD (l.getD k bc).2.1 i∧ ¬dD d 0 then [sr (l.getD k bc).1 (dT (l.getD k bc)*d)]else []:=by
 have e2:l.take (k+1)=l.take k++[l[k]]:=(td hk).symm
 unfold EA
 rw[e2,Aw,dn,jk hk]
 congr 1
 by_cases h:dD l[k].2.1 i∧ ¬dD d 0
 ·rw[aj h,pG,aj (aU h)];rfl
 ·rw[ah h,pG,ah (by rw[bx h];exact pF)];rfl
theorem Lg{i d:Int}: ∀l:au,((EA i d l).map dT).sum=(df i l).sum*d
 |[]=>(Gi d).symm
 |x::t=>by
  have ih:=Lg (i:=i) (d:=d) t
  unfold EA at ih ⊢
  rw[dx]
  by_cases h:x.2.1=i
  ·rw[aj h]
   by_cases h0:d=0
   ·rw[pG,ah (by rw[bx (λh=>h.2 h0)];exact pF),ih,h0,AH,AH]
   ·rw[pG,aj (aU ⟨h,h0⟩),bQ,bQ,cE,cE,ih,pK,ia]
  ·rw[ah h,pG,ah (by rw[bx (λk=>h k.1)];exact pF),ih]
theorem adJ{q d:Int}(hq:aF q)(hd: -1000000000000≤d∧d≤1000000000000):cR (q*d):=by
 have h1:(q*d).natAbs≤9223372036854775808*1000000000000:=by
  rw[Gc]
  unfold aF at hq
  exact ui ω ω
 unfold cR;omega
theorem aay(hN:4000000≤N){c:ae}{b:an}{m:Nat}(hm:m≤50000)(hb:G m aK b)(hR:RB c b){i:Int}(hi0:0≤i∧i<6)(x y:Int):Ok (λr=>PB b.1 b.2.1 r.1∧r.1.length≤50000) (oB N b.2.2.2.1 i x y):=by
 have h:=hb.2.2.2.1
 have hl:=h.1
 have hs:=(eS (oh.2 hR)).2
 have fl:(df i b.2.2.2.1).sum=0:=by
  have:=hR.s
  unfold od at this
  have:=bt (da.1 this).1 i.toNat (by unfold kp;omega)
  unfold sl dD qR at this
  rw[aj hs,wS hi0.1]at this
  exact this
 have hp:=(dW hs).2
 unfold oB oB.b
 have nil: ∀e:Int,Ok (λr:bO×Int=>PB b.1 b.2.1 r.1∧r.1.length≤50000) (some ([],e)):=λe=>aq ⟨PB.nil,bz _⟩
 refine bK (nv N ω ω) (bF (λ_=>nil _) λ_=>bK (jz N _) (bF (λ_=>nil _) λha=>bK (jz N _) (bF (λ_=>nil _) λfa=> ?_)))
 have ha:=bt ha
 have fa:=bt fa
 refine bK (dP N ω ω ω) (bK (dP N ω ω ω) (bK (vv N hN ((Fit.i64 ω ω).mono ω) ((Fit.i64 ω ω).mono ω)) ?_))
 have d64: -1000000000000≤y-x∧y-x≤1000000000000:=ω
 generalize y-x=d at*
 have fin:PB b.1 b.2.1 ((EA i d b.2.2.2.1).map jB):=by
  refine⟨_,rfl,λz hz=> ?_,λz hz=> ?_,?_⟩
  ·obtain⟨u,hu,rfl⟩:=cW.1 hz
   rw[ia];exact adJ (h.2 u (rG.1 hu).1).2.2.1 d64
  ·obtain⟨u,hu,rfl⟩:=cW.1 hz
   have hu:=(rG.1 hu).1
   exact MU (hR.sk u hu).1 ⟨(hp u hu).1.1,(hp u hu).1.2.1⟩ _
  ·rw[Lg,fl,Gi]
 refine br (len:=b.2.2.2.1.length) (F:=λn j s=>oB.l6 N n b.2.2.2.1 i s (dA d) j) (λj s=>s=(EA i d (b.2.2.2.1.take j)).map jB∧s.length≤j) ⟨rfl,bz _⟩ ω (λn j s hj hI hr=> ?_) (λn s hI=> ?_)
 all_goals unfold oB.l6 oB.vu
 ·obtain⟨i1,i2⟩:=hI
  have st:=S6 (i:=i) (d:=d) hj
  have hx:G m jZ (b.2.2.2.1.getD j bc):=h.2 _ (pV hj)
  rw[aw (x:=(j:Int)+1) ω ω,af j,aI]
  have skip: ¬(dD (b.2.2.2.1.getD j bc).2.1 i∧ ¬dD d 0)→s=(EA i d (b.2.2.2.1.take (j+1))).map jB∧s.length≤j+1:=λh=>⟨by rw[st,ah h,cw];exact i1,ω⟩
  refine ax (λ_=>aB ⟨ω,ω⟩ (bG (λe=>hr s (skip λk=>e k.1)) λe1=>bK (qO N d) (ok_eq (λe=>hr s (skip λk=>k.2 (lq.1 e))) λe2=>aB ⟨ω,ω⟩ (bK (C1 _ (dT (b.2.2.2.1.getD j bc)*d) N) (aB ⟨ω,ω⟩ (bK (dP N ω hx.2.2.1.1 hx.2.2.1.2) (bK (Br N hN ((Fit.i64 hx.2.2.1.1 hx.2.2.1.2).mono ω) ((Fit.i64 ω ω).mono ω)) (aD (by rw[aJ];omega) (hr _ ⟨?_,by rw[aS,aJ];omega⟩))))))))) λ_=>ω
  rw[st,aj ⟨e1,λk=>e2 (lq.2 k)⟩,dn,i1]
  congr 1
  unfold jB
  rw[bQ,ik,ia];rfl
 ·have i2:=hI.2
  refine ax (λ_=>ω) λ_=>aq ⟨?_,by dsimp only;omega⟩
  have:=hI.1
  rw[gN]at this
  rw[this];exact fin
theorem S7{l:List Int}(h:fi l=true){p:Int}(hp:1≤p∧p≤1000000000000)(k:Nat):fi (l.set k p)=true:=by
 unfold fi at*
 have h:=bt h
 refine aU λj hj=> ?_
 rw[bP]at hj
 have Xn:=h j hj
 unfold qS at*
 rw[aV,List.getElem?_set]
 split
 ·rw[aj ω];exact hp
 ·rw[←aV];exact Xn
theorem Qg(hN:5000000≤N){c:ae}{b:an}{m:Nat}(hm:m≤50000)(hb:G m aK b)(hR:RB c b)(i p:Int):Ok (λr=>r.2.2=0→RB c r.1) (F52 N c b i p):=by
 have eg: ∀e:Int,e≠0→Ok (λr:an×bO×Int=>r.2.2=0→RB c r.1) (some ((cc,(cT,(bq,(bq,(db,(dq,())))))),([],e))):=λe h=>aq λh'=>absurd h' h
 have Cw:=hb.2.2.2.2.1.1
 have hci:c.1.length≤6:=by
  have:=hR.c
  unfold eR at this
  exact(bt (da.1 this).1).2
 unfold F52
 refine bK (ed N hN hm hb) (bF (λ_=>eg _ δ) λhB=>bK (jz N _) (bF (λ_=>eg _ δ) λhp=>ax (λ_=>eg _ δ) λh0=>eO (λ_=>eg _ δ) λh1=> ?_))
 obtain⟨Jr,_⟩:=fD hB
 have hp:=bt hp
 dsimp only
 rw[cN]
 refine aB ⟨h0,by rw[Jr];exact h1⟩ (ag (aay N ω hm hb hR ⟨h0,ω⟩ _ _) λf ⟨hf,I5⟩=>ag (tN N ω hm hb hR SB.nil hf (bz _) I5) λr hr=>bG (λh=>eg _ h) λhz=>aD (by rw[cr];omega) (aB ⟨h0,by rw[Jr];exact h1⟩ (aq λ_=> ?_)))
 have q:=(hr hz).1
 exact⟨q.c,q.m,q.a,q.ma,q.r,q.t,q.s,q.o,by rw[bP];exact hR.n,q.rk,q.sk,q.ok,S7 hR.p hp _⟩
theorem IB{l s:aY}(h:dm l=true)(hs:s.Sublist l):dm s=true:=by
 obtain⟨h1,h2,h3⟩:=lC.1 h
 exact lC.2 ⟨λx hx=>h1 x (hs.subset hx),h2.sublist hs,ct hs.length_le h3⟩
theorem IC{α:Type}{l s:List α}{d:α}{i:Nat}(hi:i<l.length)(h:s.Sublist (l.take i)):s.Sublist (l.take (i+1))∧(s++[l.getD i d]).Sublist (l.take (i+1)):=by
 have e2:l.take (i+1)=l.take i++[l[i]]:=(td hi).symm
 rw[e2,jk hi]
 exact⟨h.trans (List.sublist_append_left ..),h.append (List.Sublist.refl _)⟩
theorem W1(hN:200000≤N){l:aY}(hl:l.length≤50000)(a id:Int):Ok (λr=>r.2=0→dm r.1=true∧ ∀x∈r.1,x∈l) (oz N l a id):=by
 have bad: ∀e:Int,e≠0→Ok (λr:aY×Int=>r.2=0→dm r.1=true∧ ∀x∈r.1,x∈l) (some ([],e)):=λe h=>aq λh'=>absurd h' h
 unfold oz oz.b
 refine bK (iS N ω hN) (bF (λ_=>bad _ δ) λhO=>br (len:=l.length) (F:=λn i s=>oz.l5 N n l a id s i) (λi s=>s.Sublist (l.take i)) (F3 _) ω (λn i s hi hI hr=> ?_) (λn s hI=> ?_))
 all_goals have hs:=hI.length_le
 all_goals rw[bV]at hs
 all_goals unfold oz.l5 oz.eo
 ·rw[aw (x:=(i:Int)+1) ω ω,af i]
  obtain⟨q1,q2⟩:=IC (d:=eC) hi hI
  have h1:=hr s q1
  have h2:=hr _ q2
  repeat' first|exact h1|exact h2|refine aD (by rw[aJ];omega) ?_|refine aB ⟨ω,ω⟩ ?_|refine ax (λ_=> ?_) (λ_=> ?_)|refine bG (λ_=> ?_) (λ_=> ?_)|(exfalso;omega)
 ·rw[gN]at hI
  exact ax (λ_=>ω) λ_=>ok_eq (λ_=>bad _ δ) λ_=>aq λ_=>⟨IB hO hI,λx hx=>hI.subset hx⟩
theorem aaz(hN:200000≤N){l:aY}{a:List Int}{m:Nat}(hm:m≤50000)(hl:l.length≤m)(ha:a.length≤m):Ok (λr=>dm l=true→r.Sublist l) (gC N l a):=by
 unfold gC gC.b
 refine bK (iS N ω hN) (bF (λh=>aq λh'=>by rw[h]at h';exact nomatch h') λ_=>br (len:=l.length) (F:=λn i s=>gC.l5 N n l a s i) (λi s=>s.Sublist (l.take i)) (F3 _) ω (λn i s hi hI hr=> ?_) (λn s hI=> ?_))
 all_goals have hs:=hI.length_le
 all_goals rw[bV]at hs
 all_goals unfold gC.l5 gC.eo
 ·obtain⟨q1,q2⟩:=IC (d:=eC) hi hI
  refine ax (λ_=> ?_) λ_=>ω
  refine br (len:=a.length) (F:=λn' j b=>gC.l9 N (gC.l5 N n) n' l a s (i:Int) b j) (λ_ _=>True) trivial ω (λn' j b hj _ eQ=> ?_) (λn' b _=> ?_)
  all_goals unfold gC.l9 gC.vz
  ·rw[aw (x:=(j:Int)+1) ω ω,af j]
   exact ax (λ_=>pd (λ_=>eQ _ trivial) λ_=>aB ⟨ω,ω⟩ (aB ⟨ω,ω⟩ (eQ _ trivial))) λ_=>ω
  ·rw[aw (x:=(i:Int)+1) ω ω,af i]
   exact ax (λ_=>ω) λ_=>bF (λ_=>aB ⟨ω,ω⟩ (aD (by rw[aJ];omega) (hr _ q2))) λ_=>hr s q1
 ·rw[gN]at hI
  exact ax (λ_=>ω) λ_=>aq λ_=>hI
theorem Qh(hN:5000000≤N){c:ae}{b:an}{m:Nat}(hm:m≤50000)(hb:G m aK b)(hR:RB c b)(id:Int)(bg:jX b.1 id):Ok (λr=>RB c r.1) (F54 N c b id):=by
 have xh:gJ b.1 id≠0:=(vX hR.m id).2 bg
 unfold F54
 refine bK (ed N hN hm hb) (bF (λh=>by rw[oh.2 hR]at h;exact nomatch h) λ_=>bK (sf N (ct hb.1.1 ω) ω _) (ok_eq (λh=>absurd h xh) λ_=>ag (PL N ω hm hb.2.1 _) λa ha=>ag (aaz N ω hm hb.2.2.2.2.2.1.1 ha) λr hr=>aq ?_))
 have hs:=hr hR.o
 exact hR.MN (IB hR.o hs) λx hx=>hR.ok x (hs.subset hx)
theorem adK(hN:200000≤N){l:aY}(hl:l.length≤50000)(a d:Int):Ok (λr=>r.length≤l.length∧ ∀x∈r,x∈l) (eh N l a d):=by
 unfold eh eh.b
 refine bK (iS N ω hN) (bF (λ_=>aq ⟨bz _,λx hx=>nomatch hx⟩) λ_=>br (len:=l.length) (F:=λn i s=>eh.l5 N n l a d s i) (λi s=>s.length≤i∧ ∀x∈s,x∈l) ⟨aH 0,λx hx=>nomatch hx⟩ ω (λn i s hi hI hr=> ?_) (λn s hI=> ?_))
 all_goals unfold eh.l5 eh.eo
 ·obtain⟨hs,TI⟩:=hI
  have hx:l.getD (i:Int).toNat eC∈l:=pV hi
  have fin: ∀k:Nat,k≤s.length→Ok (λr=>r.length≤l.length∧ ∀x∈r,x∈l) (eh.E5 N (eh.l5 N n) l a d s (i:Int) (k:Int)):=λk hk=>by
   unfold eh.E5 eh.xV
   rw[aw (x:=(i:Int)+1) ω ω,af i]
   dsimp only
   have t: ∀a b:Nat,(List.drop a (List.take b s)).length≤s.length:=λa b=>by rw[dY,bV];omega
   have t1:=t (0:Int).toNat (k:Int).toNat
   have t2:=t (k:Int).toNat (s.length:Int).toNat
   refine zT ⟨ω,ω,ω,ω⟩ (aD ω (aB ⟨ω,ω⟩ (aD (by rw[aJ];omega) (zT ⟨ω,ω,ω,ω⟩ (aD (by rw[aS,aJ];omega) (hr _ ⟨?_,λy hy=> ?_⟩))))))
   ·simp only[cN,aS,dY,bV,aJ,aI,dK];omega
   ·rcases bk.1 hy with hy|hy
    ·rcases bk.1 hy with hy|hy
     ·exact TI y (lK (mP hy))
     ·rw[cn.1 hy];exact hx
    ·exact TI y (lK (mP hy))
  have h1:=hr s ⟨ω,TI⟩
  have hw:Ok (λr=>r.length≤l.length∧ ∀x∈r,x∈l) (eh.l9 N (eh.l5 N n) N l a d s (i:Int) 0):=by
   refine mY (len:=s.length) (F:=λn' j=>eh.l9 N (eh.l5 N n) n' l a d s (i:Int) j) ω (λn' j hj eQ=> ?_) (λn'=> ?_)
   all_goals unfold eh.l9 eh.vz
   ·rw[aw (x:=(j:Int)+1) ω ω,af j]
    have hah: ∀x y:fZ,Ok (λ_=>True) (WA N x y):=λx y=>by unfold WA;exact bG (λ_=>fN) λ_=>fN
    exact ax (λ_=>aB ⟨ω,ω⟩ (aB ⟨ω,ω⟩ (ag (hah _ _) λ_ _=>pd (λ_=>eQ) λ_=>fin j ω))) λ_=>ω
   ·exact ax (λ_=>ω) λ_=>fin _ (aH _)
  rw[aw (x:=(i:Int)+1) ω ω,af i]
  repeat' first|exact h1|exact hw|refine aB ⟨ω,ω⟩ ?_|refine ax (λ_=> ?_) (λ_=> ?_)|refine bG (λ_=> ?_) (λ_=> ?_)|(exfalso;omega)
 ·exact ax (λ_=>ω) λ_=>aq hI
def ali(x:fZ)(q:Int):fZ:=(x.1,(x.2.1,(x.2.2.1,(x.2.2.2.1,(q,x.2.2.2.2.2)))))
def leftOf(l:aY)(n:Int)(k:Nat)(x:fZ):Prop:= ∃q:Int,x=ali (l.getD k eC) q∧n≤q∧q≤1000000000
theorem leftOf.mono{l:aY}{n n':Int}(h:n'≤n){k:Nat}{x:fZ}(hx:leftOf l n k x):leftOf l n' k x:=by
 obtain⟨q,e,h1,h2⟩:=hx
 exact⟨q,e,gO h h1,h2⟩
abbrev US(l:aY)(o:fZ)(r:aY×bf×Int×Int):Prop:=dm r.1=true∧(∀x∈r.1,∃y∈l,x.1=y.1∧x.2.1=y.2.1∧x.2.2.1=y.2.2.1)∧r.2.2.1≤o.2.2.2.2.1
theorem adL{l s:aY}{n:Int}(hs:s.length=l.length)(h: ∀k,k<l.length→leftOf l n k (s.getD k eC))(hp:l.Pairwise Lb):s.Pairwise Lb:=by
 rw[u5]at hp ⊢
 intro i j hi hj qh
 have g: ∀k (hk:k<s.length),s[k].1=(l[k]' ω).1:=λk hk=>by
  obtain⟨q,e,_⟩:=h k ω
  rw[jk hk,jk (show k<l.length by omega)]at e
  rw[e];rfl
 unfold Lb
 rw[g i hi,g j hj]
 exact hp i j ω ω qh
theorem aaA(N:Nat)(hN:200000≤N){l:aY}{o:fZ}(hl:l.length≤50000)(hO:dm l=true)(ho:qE o):Ok (US l o) (cv N l o):=by
 unfold cv cv.b
 refine bK (iS N ω hN) (bF (λh=>by rw[hO]at h;exact nomatch h) λ_=>bK (Bv N o) (bF (λh=>absurd ho (of_decide_eq_false h)) λ_=>aD (by rw[cr];omega) (ag (adK N hN hl _ _) λw ⟨hwl,hwm⟩=> ?_)))
 obtain⟨h1,h2,h3⟩:=lC.1 hO
 rw[cN]
 have fin: ∀(n:Int) (s:aY) (q:Int) (t:bf),s.length=l.length→(∀k,k<l.length→leftOf l n k (s.getD k eC))→q≤o.2.2.2.2.1→Ok (US l o) (cv.j22 N s q t):=λn s q t hs N9 hq=>by
  unfold cv.j22 cv.adj
  refine br (len:=s.length) (F:=λn i u=>cv.Nl N n s q t u i) (λi u=>u.Sublist (s.take i)∧ ∀x∈u,lI 0 x.2.2.2.2.1) ⟨F3 _,λx hx=>nomatch hx⟩ ω (λn i u hi hI hr=> ?_) (λn u hI=> ?_)
  all_goals obtain⟨i1,i2⟩:=hI
  all_goals have Jb:=i1.length_le
  all_goals rw[bV]at Jb
  all_goals unfold cv.Nl cv.PN
  ·rw[aw (x:=(i:Int)+1) ω ω,af i,aI]
   obtain⟨q1,q2⟩:=IC (d:=eC) hi i1
   exact ax (λ_=>aB ⟨ω,ω⟩ (ax (λhq=>aB ⟨ω,ω⟩ (aD (by rw[aJ];omega) (hr _ ⟨q2,λx hx=>by
    rcases bk.1 hx with hx|hx
    ·exact i2 x hx
    ·rw[cn.1 hx];exact hq⟩))) λ_=>hr u ⟨q1,i2⟩)) λ_=>ω
  ·rw[gN]at i1
   have at': ∀x∈s,∃y∈l,∃q:Int,x=ali y q∧q≤1000000000:=λx hx=>by
    obtain⟨k,hk,e⟩:=gE hx
    obtain⟨q,e',_,h⟩:=N9 k ω
    rw[jk hk,e]at e'
    exact⟨_,pV (d:=eC) (show k<l.length by omega),q,e',h⟩
   refine ax (λ_=>ω) λ_=>aq ⟨lC.2 ⟨λx hx=> ?_,(adL hs N9 h2).sublist i1,by have:=i1.length_le;dsimp only at*;omega⟩,λx hx=> ?_,hq⟩
   ·obtain⟨y,hy,q,e,hq⟩:=at' x (i1.subset hx)
    have h0:=i2 x hx
    have ok:=h1 y hy
    subst e
    exact⟨ok.1,ok.2.1,ok.2.2.1,ok.2.2.2.1,⟨show(1:Int)≤q from h0,hq⟩,ok.2.2.2.2.2⟩
   ·obtain⟨y,hy,q,e,_⟩:=at' x (i1.subset hx)
    exact⟨y,hy,by rw[e];rfl,by rw[e];rfl,by rw[e];rfl⟩
 refine br (len:=w.length) (F:=λn i (s:aY×Int×bf)=>cv.l7 N n o s.1 s.2.1 s.2.2 w i) (s:=(_,(_,_))) (λi s=>(s.1.length=l.length∧ ∀k,k<l.length→leftOf l (-1000000000*(i:Int)) k (s.1.getD k eC))∧(0≤s.2.1∧s.2.1≤o.2.2.2.2.1)∧s.2.2.length≤i) ⟨⟨rfl,λk hk=>⟨(l.getD k eC).2.2.2.2.1,rfl,?_,?_⟩⟩,⟨?_,fW _⟩,bz _⟩ ω (λn i s hi hI hr=> ?_) (λn s hI=> ?_)
 ·have:=(h1 _ (pV (d:=eC) hk)).2.2.2.2.1.1
  exact gO δ this
 ·exact(h1 _ (pV (d:=eC) hk)).2.2.2.2.1.2
 ·exact gO δ ho.2.2.2.2.1.1
 all_goals unfold cv.l7 cv.oJ
 ·obtain⟨⟨hs,N9⟩,hq,ht⟩:=hI
  have hoq:o.2.2.2.2.1≤1000000000:=ho.2.2.2.2.1.2
  have f1:=fin _ s.1 s.2.1 s.2.2 hs N9 hq.2
  have hx:=h1 _ (hwm _ (pV (d:=eC) hi))
  have ak5: ∀(v:Int) (t:ir),0≤v→v≤s.2.1→v≤1000000000→Ok (US l o) (cv.Da N (cv.l7 N n) o s.1 s.2.1 s.2.2 w (i:Int) v t):=λv t v0 v1 v2=>by
   unfold cv.Da cv.wI
   have VL:s.2.1≤1000000000:=gO hq.2 hoq
   rw[aw (x:=s.2.1-v) ω ω]
   refine aD (by rw[aJ];omega) (br (len:=s.1.length) (F:=λn' j u=>cv.Ja N (cv.l7 N n) n' o u (s.2.1-v) (s.2.2++[t]) w (i:Int) v j) (λj u=>u.length=l.length∧ ∀k,k<l.length→leftOf l (if k<j then-1000000000*((i:Int)+1)else-1000000000*(i:Int)) k (u.getD k eC)) ⟨hs,λk hk=>by rw[ah ω];exact N9 k hk⟩ ω (λn' j u hj hJ eQ=> ?_) (λn' u hJ=> ?_))
   all_goals obtain⟨Jb,hum⟩:=hJ
   all_goals unfold cv.Ja cv.E6
   ·rw[aw (x:=(j:Int)+1) ω ω,af j,aI,aI]
    have same: ∀k,k<l.length→k≠j→leftOf l (if k<j+1 then-1000000000*((i:Int)+1)else-1000000000*(i:Int)) k (u.getD k eC):=λk hk e=>by
     have:=hum k hk
     by_cases h:k<j
     ·rw[aj h]at this;rw[aj ω];exact this
     ·rw[ah h]at this;rw[ah ω];exact this
    have h0:=hum j ω
    rw[ah ω]at h0
    refine ax (λ_=>aB ⟨ω,ω⟩ (aB ⟨ω,ω⟩ (ok_eq (λ_=>aB ⟨ω,ω⟩ (aB ⟨ω,ω⟩ (eQ _ ⟨by rw[bP];exact Jb,λk hk=> ?_⟩))) λ_=>eQ u ⟨Jb,λk hk=> ?_⟩))) λ_=>ω
    ·by_cases e:k=j
     ·subst e
      rw[aj ω]
      obtain⟨q,e,q1,q2⟩:=h0
      have es: ∀y:fZ,(u.set k y).getD k eC=y:=λy=>by
       rw[aV,NF ω];rfl
      rw[es,e]
      unfold ali
      dsimp only
      rw[aw (x:=q-v) ω ω]
      exact⟨q-v,rfl,ω,ω⟩
     ·have es: ∀y:fZ,(u.set j y).getD k eC=u.getD k eC:=λy=>by
       rw[aV,aV,List.getElem?_set_ne ω]
      rw[es];exact same k hk e
    ·by_cases e:k=j
     ·subst e
      rw[aj ω]
      exact h0.mono ω
     ·exact same k hk e
   ·rw[aw (x:=(i:Int)+1) ω ω,af i]
    exact ax (λ_=>ω) λ_=>hr (_,(_,_)) ⟨⟨Jb,λk hk=>by
     have:=hum k hk
     rw[aj ω]at this
     rw[Int.natCast_add];exact this⟩,⟨by dsimp only;omega,by dsimp only;omega⟩,by dsimp only;rw[List.length_append,List.length_singleton];omega⟩
  have E7:0<s.2.1→Ok (US l o) (cv.JQ N (cv.l7 N n) o s.1 s.2.1 s.2.2 w (i:Int)):=λN8=>by
   unfold cv.JQ cv.Db
   rw[aw (x:=(i:Int)+1) ω ω,af i,aI]
   dsimp only
   have h1:=hr s ⟨⟨hs,λk hk=>(N9 k hk).mono ω⟩,hq,ω⟩
   have VL:s.2.1≤1000000000:=gO hq.2 hoq
   have hm:0≤mn s.2.1 (w.getD i eC).2.2.2.2.1∧mn s.2.1 (w.getD i eC).2.2.2.2.1≤s.2.1:=by
    have h1:=hx.2.2.2.2.1.1
    generalize (w.getD i eC).2.2.2.2.1=q at*
    rw[Xz];split<;>omega
   repeat' first|exact h1|exact ak5 _ _ hm.1 hm.2 (gO hm.2 VL)|refine aB ⟨ω,ω⟩ ?_|refine ok_eq (λ_=> ?_) (λ_=> ?_)
  repeat' first|exact f1|exact E7 (by assumption)|refine aB ⟨ω,ω⟩ ?_|refine ax (λ_=> ?_) (λ_=> ?_)|refine ok_eq (λ_=> ?_) (λ_=> ?_)|(exfalso;omega)
 ·obtain⟨⟨hs,N9⟩,hq,ht⟩:=hI
  exact ax (λ_=>ω) λ_=>fin _ _ _ _ hs N9 hq.2
theorem aaB(hN:5000000≤N){c:ae}{b:an}{o:fZ}{m:Nat}(h2:200≤m)(hm:m≤40000)(hc:G m aA c)(hb:G m aK b)(hR:RB c b)(ho:G 0 nh o):Ok (λr=>r.2.2.2=0→RB c r.1) (jV N c b o):=by
 have Cg:=hb.2.2.2.2.2.1.1
 have eg: ∀(t:bf) (e:Int),e≠0→Ok (λr:an×bf×Int×Int=>r.2.2.2=0→RB c r.1) (some ((cc,(cT,(bq,(bq,(db,(dq,())))))),(t,((0:Int),e)))):=λt e h=>aq λh'=>absurd h' h
 obtain⟨g1,g2,g3⟩:=lC.1 hR.o
 unfold jV jV.b
 refine ag (BX N hN h2 hm hc hb (G.mono (bz m) ho)) λe he=>bG (λh=>eg _ _ h) λe0=> ?_
 obtain⟨o1,o2,o3⟩:=he e0
 have oA:=(qb hR.a _).1 o2
 have E7: ∀(r:aY) (t:bf) (q:Int),dm r=true→(∀x∈r,∃y∈b.2.2.2.2.2.1,x.1=y.1∧x.2.1=y.2.1∧x.2.2.1=y.2.2.1)→q≤o.2.2.2.2.1→(0<q→r.length≤31)→(∀y∈b.2.2.2.2.2.1,lI y.1 o.1)→Ok (λr=>r.2.2.2=0→RB c r.1) (jV.JQ N c b o (cc,(cT,(bq,(bq,(db,(dq,())))))) r t q):=λr t q hr hrm hq J6 eT=>by
  obtain⟨r1,r2,r3⟩:=lC.1 hr
  unfold jV.JQ jV.Db
  refine ag (CU N hN ω hb hR) λz hz=>bG (λh=>eg _ _ h) λz0=> ?_
  obtain⟨zR,_,za,_⟩:=hz z0
  have hk: ∀x∈r,Is c z.1.2.1 x:=λx hx=>by
   obtain⟨y,hy,_,e1,e2⟩:=hrm x hx
   have:=hR.ok y hy
   unfold Is at this ⊢
   rw[za,e1,e2];exact this
  refine ax (λh0=>aD (by rw[aJ];omega) (aq λ_=>zR.MN (lC.2 ⟨λx hx=> ?_,?_,?_⟩) λx hx=> ?_)) λ_=>aq λ_=>zR.MN hr hk
  ·rcases bk.1 hx with hx|hx
   ·exact r1 x hx
   ·rw[cn.1 hx]
    exact⟨o1.1,o1.2.1,o1.2.2.1,o1.2.2.2.1,⟨h0,gO hq o1.2.2.2.2.1.2⟩,o1.2.2.2.2.2⟩
  ·rw[wR]
   refine⟨r2,FT ..,λx hx y hy=> ?_⟩
   rw[cn.1 hy]
   obtain⟨u,hu,e,_⟩:=hrm x hx
   unfold Lb
   rw[e];exact eT u hu
  ·rw[aS,aJ];have:=J6 h0;omega
  ·rcases bk.1 hx with hx|hx
   ·exact hk x hx
   ·rw[cn.1 hx]
    unfold Is
    rw[za];exact⟨oA,o3⟩
 have hj7:(∀y∈b.2.2.2.2.2.1,lI y.1 o.1)→Ok (λr=>r.2.2.2=0→RB c r.1) (jV.j7 N c b o (cc,(cT,(bq,(bq,(db,(dq,()))))))):=λeT=>by
  unfold jV.j7 jV.Xp
  refine ag (aaA N ω ω hR.o o1) λz ⟨z1,z2,z3⟩=> ?_
  have zl:=(lC.1 z1).2.2
  exact ax (λh0=>ok_eq (λ_=>eg _ _ δ) λko=>E7 _ _ _ z1 z2 z3 (λ_=>ω) eT) λh0=>E7 _ _ _ z1 z2 z3 (λh=>ω) eT
 refine ax (λh0=> ?_) λh0=>hj7 λy hy=> ?_
 ·dsimp only
  refine aB (by rw[aw ω ω];omega) (eO (λ_=>eg _ _ δ) λaaC=>hj7 λy hy=> ?_)
  have e1:(W .i64 ((b.2.2.2.2.2.1.length:Int)-1)).toNat=b.2.2.2.2.2.1.length-1:=by rw[aw ω ω];omega
  rw[e1,jk ω]at aaC
  obtain⟨k,hk,e⟩:=gE hy
  by_cases h:k=b.2.2.2.2.2.1.length-1
  ·subst h;rw[←e];exact aaC
  ·have:=u5.1 g2 k (b.2.2.2.2.2.1.length-1) hk ω ω
   rw[e]at this
   exact Dh this aaC
 ·have:=List.length_pos_of_mem hy
  omega
end VM
end
