/- A part of the proof of BookTwo of layer 18: what the functions compute, in plain words. -/
import Derived.Test.YtecmobijochjkaaGreatPlain7
import Derived.Test.YtecmobijochjkaaGreatPlain5
set_option linter.all false
open List renaming getD→γ
noncomputable section
section
namespace VM
open Go VM.F
def uv(m:Int):aO→List Int
 |[]=>[]
 |x::t=>if x.2.1=m then x.1::uv m t else uv m t
theorem It(m:Int): ∀l:aO,(uv m l).length≤l.length
 |[]=>aH _
 |x::t=>by
  have:=It m t
  show(if x.2.1=m then x.1::uv m t else uv m t).length≤t.length+1
  split
  ·rw[aT];omega
  ·omega
def Ce(a:aO)(m:Int):List Int:=if gP a then uv m a else []
theorem aaL(N:Nat){a:aO}(hl:a.length≤100000)(hN:200000≤N)(m:Int):qu N a m=some (Ce a m):=by
 unfold qu qu.b Ce
 rw[L4 N hl hN,ar,cond_not]
 have:=nH a bb (λn i s=>qu.l5 N n m s a (a.length:Int) i) (λt s=>some (s++uv m t)) (λi (s:List Int)=>s.length≤i) (λn i s hi hI hr=> ?_) (λn s hI=> ?_) a.length N 0 [] ω ω ω (aH _)
 ·rw[cQ,cM]at this
  have e:qu.l5 N N m [] a (a.length:Int) 0=some (uv m a):=this
  rw[e];cases gP a<;>rfl
 ·unfold qu.l5 qu.eA
  rw[aR ω,ak,aW ω ω,ak,aI,aw (x:=(i:Int)+1) ω ω,af i,aL,bS (by rw[aK];omega),ak]
  show _=some (s++(if(a.getD i bb).2.1=m then(a.getD i bb).1::uv m (a.drop (i+1))else uv m (a.drop (i+1))))
  by_cases hx:(a.getD i bb).2.1=m
  ·rw[aj hx,aj hx]
   refine Eq.trans (hr (s++[(a.getD i bb).1]) (by rw[aS,aK];omega)) ?_
   rw[bE];rfl
  ·rw[ah hx,ah hx]
   exact hr s ω
 ·unfold qu.l5 qu.eA
  rw[aP ω,av]
  show some s=some (s++[])
  rw[cw]
theorem zh{α:Type}{l:List α}{i:Nat}(h:i<l.length)(d:α):l.take (i+1)=l.take i++[l.getD i d]:=by
 rw[List.take_add_one,aV,bo h];rfl
def aaM(l:List Int)(x:Int):Bool:=l.any λa=>decide (a=x)
theorem Qd(N:Nat){l:List Int}(hl:l.length≤100000)(x:Int): ∀(m n i:Nat),l.length-i≤m→m<n→i≤l.length→ ∃r,s0.l2 N n l x (l.length:Int) (i:Int)=some r∧du 0 r=aaM (l.drop i) x
 |m,0,i,_,hn,_=>ω
 |m,n+1,i,hm,hn,hi=>by
  unfold s0.l2 s0.fG
  by_cases h:i<l.length
  ·rw[aR ω,ak,aW ω ω,ak,aI,aL,aw (x:=(i:Int)+1) ω ω,af i,drop_cons h 0]
   by_cases hx:x=l.getD i 0
   ·rw[aj hx]
    refine⟨_,rfl,?_⟩
    unfold aaM
    rw[Gg,aU hx.symm,m0,aU ω];rfl
   ·rw[ah hx]
    obtain⟨r,h1,h2⟩:=Qd N hl x (m-1) n (i+1) ω ω ω
    refine⟨r,h1,h2.trans ?_⟩
    unfold aaM
    rw[Gg,bu (λe=>hx e.symm),rW]
  ·rw[aP ω,av,jL ω]
   exact⟨_,rfl,by rw[m0];rfl⟩
theorem Qe(N:Nat){l:List Int}(hl:l.length≤100000)(hN:200000≤N)(x:Int):adZ N l x=some (aaM l x):=by
 unfold adZ s0 s0.b
 obtain⟨r,h1,h2⟩:=Qd N hl x l.length N 0 ω ω ω
 rw[cQ]at h2
 rw[show s0.l2 N N l x (l.length:Int) 0=some r from h1,ar,h2]
def zO(accs:List Int)(o:fV):Bool:=aaM accs o.2.1
theorem Qf(N:Nat){accs:List Int}(hl:accs.length≤100000)(hN:200000≤N)(o:fV):aaN N o accs=some (zO accs o):=by
 unfold aaN zO
 rw[Qe N hl hN,ar]
theorem EC(N:Nat){accs:List Int}(ha:accs.length≤100000)(hN:200000≤N){l:aY}(hl:l.length≤100000): ∀(m n i:Nat),l.length-i≤m→m<n→i≤l.length→(∀x∈l.take i,zO accs x=false)→
  (qN.l2 N n l ((accs,()),()) (l.length:Int) (i:Int)=some (-1)∧ ∀x∈l,zO accs x=false)∨
  ∃k:Nat,qN.l2 N n l ((accs,()),()) (l.length:Int) (i:Int)=some (k:Int)∧k<l.length∧(∀x∈l.take k,zO accs x=false)∧zO accs (l.getD k eF)=true
 |m,0,i,_,hn,_,_=>ω
 |m,n+1,i,hm,hn,hi,hp=>by
  unfold qN.l2 qN.fG
  by_cases h:i<l.length
  ·rw[aR ω,ak,aW ω ω,ak,aI,Qf N ha hN,ar,aw (x:=(i:Int)+1) ω ω,af i]
   cases hx:zO accs (l.getD i eF)
   ·refine EC N ha hN hl (m-1) n (i+1) ω ω ω (λx oW=> ?_)
    rw[zh h eF,bl,cr]at oW
    rcases oW with oW|oW
    ·exact hp x oW
    ·rw[oW];exact hx
   ·exact .inr ⟨i,rfl,h,hp,hx⟩
  ·rw[aP ω,av]
   refine .inl ⟨rfl,λx hx=>hp x ?_⟩
   rw[iy ω];exact hx
def vg(accs:List Int)(l:aY):aY:=l.filter λo=> !zO accs o
theorem Qg{accs:List Int}{l:aY}(h: ∀x∈l,zO accs x=false):vg accs l=l:=by
 unfold vg
 rw[List.filter_eq_self]
 intro x hx;rw[h x hx];rfl
theorem aaO(accs:List Int)(l:aY):(vg accs l).length≤l.length:=NH _ _
theorem Iu(N:Nat){accs:List Int}(ha:accs.length≤100000)(hN:200000≤N){l:aY}(hl:l.length≤100000): ∀(m n i j:Nat) (x:aY),l.length-j≤m→m<n→j≤l.length→i≤j→x.length=l.length→x.take i=vg accs (l.take j)→x.drop j=l.drop j→
  s4.l5 N n x ((accs,()),()) (i:Int) (j:Int)=some (vg accs l)
 |m,0,i,j,x,_,hn,_,_,_,_,_=>ω
 |m,n+1,i,j,x,hm,hn,hj,qy,hxl,ht,hd=>by
  unfold s4.l5 s4.eA
  by_cases h:j<l.length
  ·have hg:x.getD j eF=l.getD j eF:=by
    have h1:=fj (λt=>t.getD 0 eF) hd
    simpa [aV]using h1
   have htk:l.take (j+1)=l.take j++[l.getD j eF]:=zh h eF
   rw[aR ω,ak,aW ω ω,ak,aI,hg,Qf N ha hN,ar,aw (x:=(j:Int)+1) ω ω,af j,aW ω ω,ak,aI,aw (x:=(i:Int)+1) ω ω,af i]
   have hd2:x.drop (j+1)=l.drop (j+1):=by rw[←iB,←iB,hd]
   cases hx:zO accs (l.getD j eF)
   ·refine Iu N ha hN hl (m-1) n (i+1) (j+1) _ ω ω ω ω (by rw[bN];exact hxl) ?_ ?_
    ·have e1:vg accs (l.take (j+1))=vg accs (l.take j)++[l.getD j eF]:=by
      rw[htk];unfold vg;rw[AL];congr 1
      rw[pQ,hx];rfl
     rw[e1,←ht,zh (by rw[bN];omega) eF]
     congr 1
     ·rw[List.take_set_of_le (aH _)]
     ·rw[aV,F1 ω];rfl
    ·rw[List.drop_set_of_lt ω];exact hd2
   ·refine Iu N ha hN hl (m-1) n i (j+1) x ω ω ω ω hxl ?_ hd2
    rw[htk,ht];unfold vg;rw[AL,pQ,hx];simp
  ·have hje:j=l.length:=ω
   subst hje
   rw[ij]at ht
   have qP:=aaO accs l
   rw[aP ω,av,sb,aU ω,ak,aI]
   dsimp only
   have hxt:(x.take i).length=i:=by rw[bZ];omega
   rw[sb,aU (by rw[aS,c4,hxt];omega),ak,yH ω,iy ω,ht]
   rfl
theorem Xq(N:Nat){accs:List Int}(ha:accs.length≤100000)(hN:200000≤N){l:aY}(hl:l.length≤100000):s4 N l ((accs,()),())=some (vg accs l):=by
 unfold s4 s4.b qN qN.b
 rcases EC N ha hN hl l.length N 0 ω ω ω (λx hx=>by rw[my]at hx;exact nomatch hx)with⟨h1,h2⟩|⟨k,h1,h2,h3,h4⟩
 ·rw[show qN.l2 N N l ((accs,()),()) (l.length:Int) 0=some (-1)from h1,ar,dZ rfl,Qg h2];rfl
 ·rw[show qN.l2 N N l ((accs,()),()) (l.length:Int) 0=some (k:Int)from h1,ar,eR ω,av,aw (x:=(k:Int)+1) ω ω,af k]
  refine Iu N ha hN hl l.length N k (k+1) l ω ω ω ω rfl ?_ rfl
  rw[zh h2 eF]
  unfold vg
  rw[AL,pQ,h4]
  have:=Qg h3
  unfold vg at this
  rw[this];simp
def aaP(l:aY)(accs:List Int):aY:=if dn l then vg accs l else []
theorem ad0(N:Nat){l:aY}{accs:List Int}(ha:accs.length≤100000)(hN:200000≤N)(hl:l.length≤100000):ad1 N l accs=some (aaP l accs):=by
 unfold ad1 aaP
 rw[CU N hl hN,ar,cond_not,vV N ω,ar,Xq N ha hN hl,ar]
 cases dn l<;>rfl
def Ds(c:ae)(b:an)(m:Int):an×Int:=
 if df c b then(if gJ b.1 m=0 then((cf,(cS,(bn,(bn,(dd,(dm,())))))),3)else((b.1,(b.2.1,(b.2.2.1,(b.2.2.2.1,(b.2.2.2.2.1,(aaP b.2.2.2.2.2.1 (Ce b.2.1 m),b.2.2.2.2.2.2)))))),0))else((cf,(cS,(bn,(bn,(dd,(dm,())))))),1)
theorem Xr(a:aO)(m:Int):(Ce a m).length≤a.length:=by
 unfold Ce
 split
 ·exact It m a
 ·exact bz _
theorem aaQ(N:Nat)(hN:4000000≤N)(c:ae){b:an}(w:om b)(m:Int):aaR N c b m=some (Ds c b m):=by
 unfold aaR Ds
 have h1:=Xr b.2.1 m
 have h2:=w.a
 rw[tQ N hN w,ar,CW N w.m ω,ar,cond_not,aL,Pf N w,ar,aaL N w.a ω,ar,ad0 N ω ω w.o,ar]
 cases df c b
 ·rfl
 ·show(if gJ b.1 m=0 then _ else _)=some (if gJ b.1 m=0 then _ else _)
  split<;>rfl
end VM
end
section
namespace VM
open Go VM.F Go.RowKit
theorem U9{a k:Int}: ∀{l:aY} {z:Int×Int},(∀o∈l,¬o.2.2.1=k)→bsL a k l z=z
 |[],z,_=>rfl
 |x::t,z,h=>by
  rw[HV,ah (λe=>h x (bq ..) e.2)]
  exact U9 λo ho=>h o (aZ _ ho)
theorem Iv{f:Int→Int×Int}{x:de}: ∀m (k:Nat),x∈UR f m k→ ∃j:Nat,x=nz (j:Int) (f (j:Int))∧0<(f (j:Int)).1+(f (j:Int)).2
 |0,_,hx=>nomatch hx
 |m+1,k,hx=>by
  rw[yk]at hx
  split at hx
  ·rename_i h0
   rcases a8.1 hx with rfl|hx
   ·exact⟨k,rfl,h0⟩
   ·exact Iv m (k+1) hx
  ·exact Iv m (k+1) hx
theorem Dt(f:Int→Int×Int): ∀m k,(UR f m k).Pairwise (λx y:de=>lF x.1 y.1)
 |0,_=>List.Pairwise.nil
 |m+1,k=>by
  rw[yk]
  split
  ·refine eP.2 ⟨λy hy=> ?_,Dt f m (k+1)⟩
   have:=ZY f m (k+1) y hy
   show(k:Int)<y.1
   omega
  ·exact Dt f m (k+1)
theorem To{c:ae}{b:an}(hR:RB c b)(a:Int):kL c (rl b.2.2.2.2.2.1 a)=true:=by
 obtain⟨hq,hl⟩:=PE hR.o
 have hc:=(px (R:=λx y:de=>lF x.1 y.1) (d:=ba) (λ_ _ _=>Dp) _).2 (Dt (XX b.2.2.2.2.2.1 a) 6 0)
 unfold kL
 refine c5.2 ⟨aU λj hj=> ?_,hR.c⟩
 obtain⟨i,e,h0⟩:=Iv 6 0 (qM (d:=ba) hj)
 have hp:=hc j hj
 have hz:=UW hq a (i:Int)
 have hn:((i:Int))<(c.1.length:Int):=by
  rcases Int.lt_or_le (i:Int) (c.1.length:Int)with h|h
  ·exact h
  ·exfalso
   have:XX b.2.2.2.2.2.1 a (i:Int)=(0,0):=U9 λo ho he=>by
    have h3:o.2.2.1<(c.1.length:Int):=(hR.ok o ho).2
    rw[he]at h3
    exact absurd h3 (nY.2 h)
   rw[this]at h0
   exact absurd h0 δ
 unfold yl
 rw[show(rl b.2.2.2.2.2.1 a).getD j ba=(UR (XX b.2.2.2.2.2.1 a) 6 0).getD j ba from rfl,show(rl b.2.2.2.2.2.1 a).getD (j-1) ba=(UR (XX b.2.2.2.2.2.1 a) 6 0).getD (j-1) ba from rfl]
 rw[e]at hp ⊢
 unfold HW at hz
 have g: ∀u v:Int,(0≤u∧u≤1000000000*(b.2.2.2.2.2.1.length:Int)∧0≤v∧v≤1000000000*(b.2.2.2.2.2.1.length:Int))→0<u+v→(0≤u∧u≤33000000000∧0≤v∧v≤33000000000∧(u=0→v≠0)):=λu v _ _=>ω
 obtain⟨g1,g2,g3,g4,g5⟩:=g _ _ hz h0
 exact⟨Int.natCast_nonneg i,hn,g1,g2,g3,g4,g5,λh=>hp h⟩
def yt(c:ae)(b:an)(a:Int):Int×Int:=
 if df c b then(if(eS b.2.1 a).2 then((y8 c (posOf b.2.2.2.1 a) (rl b.2.2.2.2.2.1 a)).1,0)else(0,3))else(0,1)
theorem Tp{c:ae}{b:an}(h:df c b=true)(a:Int):(y8 c (posOf b.2.2.2.1 a) (rl b.2.2.2.2.2.1 a)).2=0:=by
 have hR:=ot.1 h
 unfold y8
 rw[aaD hR a,To hR a];rfl
theorem Va(N:Nat)(hN:4000000≤N)(c:ae){b:an}(w:om b)(a:Int):F99 N c b a=some (cN (yt c b a).1,(yt c b a).2):=by
 unfold F99 yt
 rw[tQ N hN w,ar,cond_not,CZ N b w.a ω,ar,cond_not]
 by_cases hB:df c b=true
 rotate_left
 ·rw[ah hB];rw[mU]at hB;rw[hB];rfl
 rw[aj hB,hB,ak]
 have Bl:=Kz a b.2.2.2.1
 have Cs:=WU b.2.2.2.2.2.1 a
 have hs:=w.s
 have hoo:(if dn b.2.2.2.2.2.1 then rl b.2.2.2.2.2.1 a else [])=rl b.2.2.2.2.2.1 a:=by rw[aj (JF hB)]
 rw[aqq N w.s ω,ar,Z1 N ω w.o,ar,hoo,Z4 N ω c ω (ZI w.qs a) ω,ar,Tp hB]
 cases(eS b.2.1 a).2<;>rfl
def MS(c:ae):au:=if c.2.1=0 then []else [((1:Int),((0:Int),((W .i64 (0-c.2.1)),()))),((3:Int),((0:Int),(c.2.1,())))]
def Vb(c:ae):an×Int:=
 if eJ c then((([]:aE),(([]:aO),(MS c,(([]:au),(c.1.map (λx:cG=>(x.2.1:Int)),(([]:aY),())))))),0)else((cf,(cS,(bn,(bn,(dd,(dm,())))))),1)
theorem Qh(N:Nat){l:aO}(hl:l.length≤100000)(hN:200000≤N)(x2:an)(r:au):
  w1.l7 N N x2 (([]:aE),(([]:aO),(r,(([]:au),(dd,(([]:aY),())))))) [] l (l.length:Int) 0=some ((([]:aE),(([]:aO),(r,(([]:au),(l.map (λx:cG=>(x.2.1:Int)),(([]:aY),())))))),(0:Int)):=by
 have:=nH l bb (λn i s=>w1.l7 N n x2 (([]:aE),(([]:aO),(r,(([]:au),(dd,(([]:aY),())))))) s l (l.length:Int) i)
  (λt s=>some ((([]:aE),(([]:aO),(r,(([]:au),(s++t.map (λx:cG=>(x.2.1:Int)),(([]:aY),())))))),(0:Int))) (λi (s:List Int)=>s.length≤i) (λn i s hi hI hr=> ?_) (λn s hI=> ?_) l.length N 0 [] ω ω ω (aH _)
 ·rw[cQ,cM]at this
  exact this
 ·unfold w1.l7 w1.oP
  rw[aR ω,ak,aW ω ω,ak,aI,bS (by rw[aK];omega),ak,aw (x:=(i:Int)+1) ω ω,af i]
  refine Eq.trans (hr (s++[(l.getD i bb).2.1]) (by rw[aS,aK];omega)) ?_
  rw[bE];rfl
 ·unfold w1.l7 w1.oP
  rw[aP ω,av,gM,cw]
theorem alw(N:Nat)(hN:200000≤N)(c:ae)(hl:c.1.length≤100000):w1 N c=some (Vb c):=by
 unfold w1 w1.b Vb w1.j6 w1.ON
 rw[FF N ω,ar,cond_not,cond_not,aL]
 cases eJ c with
 |false=>rfl
 |true=>
  rw[ak,aj rfl]
  unfold MS
  by_cases h0:c.2.1=0
  ·rw[aj h0,aj h0];exact Qh N hl hN _ _
  ·rw[ah h0,ah h0];exact Qh N hl hN _ _
theorem Tq{c:ae}{b:an}(w:om b)(i p:Int):ZG (ec c b i p).1:=by
 unfold ec
 repeat' split
 all_goals first|exact C9|skip
 have h:=Pl w [] (dA i (p-b.2.2.2.2.1.getD i.toNat 0) b.2.2.2.1)
 refine⟨h.m,h.a,h.r,h.s,?_,h.o⟩
 show(List.set b.2.2.2.2.1 i.toNat p).length≤100000
 rw[bN];exact w.p
def bC:ae:=([((0:Int),((100:Int),((2:Int),((0:Int),()))))],((5:Int),((0:Int),((0:Int),((0:Int),((1:Int),((0:Int),())))))))
def bR:au:=[((1:Int),((0:Int),((-5:Int),()))),((3:Int),((0:Int),((5:Int),())))]
def bB:an:=([((1:Int),((1:Int),()))],([((1:Int),((1:Int),((1:Int),((0:Int),())))),((2:Int),((1:Int),((2:Int),((0:Int),()))))],(bR,(([]:au),([(100:Int)],([((1:Int),((2:Int),((0:Int),((1:Int),((4:Int),((1:Int),()))))))],()))))))
def bT:bf:=[((1:Int),((2:Int),((0:Int),((5:Int),((90:Int),())))))]
theorem bW:pI bB:=⟨⟨δ,δ,δ,δ,δ,δ,B0 (l:=bR) δ,λx hx=>(nomatch hx)⟩,δ,δ⟩
def bX:an:=([((1:Int),((1:Int),()))],([((1:Int),((1:Int),((1:Int),((0:Int),())))),((2:Int),((1:Int),((2:Int),((0:Int),()))))],([((1:Int),((0:Int),((-5:Int),()))),((3:Int),((0:Int),((5:Int),()))),((5:Int),((1:Int),((50:Int),()))),((5:Int),((2:Int),((-50:Int),())))],([((1:Int),((0:Int),((5:Int),()))),((2:Int),((0:Int),((-5:Int),())))],([(100:Int)],([((1:Int),((2:Int),((0:Int),((1:Int),((4:Int),((1:Int),()))))))],()))))))
theorem bTr:ll bC bB bT=(bX,0):=κ
theorem bXW:pI bX:=⟨⟨δ,δ,δ,δ,δ,δ,B0 (l:=bX.2.2.1) δ,B0 (l:=bX.2.2.2.1) δ⟩,δ,δ⟩
theorem awy:Vb bC=((([]:aE),(([]:aO),(bR,(([]:au),([(100:Int)],(([]:aY),())))))),0):=by
 unfold Vb MS
 rw[aj κ,ah δ,aw δ δ];rfl
theorem awz:(ec bC bX 0 110).2.2=0:=κ
theorem awA:(ec bC bX 0 110).2.1.length=2:=κ
theorem awB:tT (ec bC bX 0 110).1.2.2.1 5 1=100:=κ
theorem awC:(ec bC bX 0 110).1.2.2.2.2.1=[110]:=κ
theorem bNd:yt bC bX 2=(10,0):=κ
theorem awD:(yt bC bB 9).2=3:=κ
theorem awE:(Ds bC bB 1).2=0:=κ
theorem bDr:(Ds bC bB 1).1.2.2.2.2.2.1=[]:=κ
theorem bHd:gb bX.2.2.2.1 1 0=5:=κ
theorem bGt:tT bX.2.2.1 5 1=50:=κ
theorem bOk:df bC bB=true:=κ
theorem bWn:(cN 10).2.1=10:=κ
theorem Wv(N:Nat)(hN:5000000≤N):F36 N=some true:=by
 unfold F36 F97
 rw[ar]
 show(w1 N bC).bind _=_
 rw[alw N ω bC δ,ar,awy]
 show(uu N bC bB bT).bind _=_
 rw[Kj N ω bC bW δ,ar,bTr]
 show(F42 N bC bX 0 110).bind _=_
 have sh:=Tq (c:=bC) bXW.w 0 110
 rw[Mc N ω bC bXW δ,ar]
 show(F99 N bC bX 2).bind _=_
 rw[Va N ω bC bXW.w,ar]
 show(aaR N bC bB 1).bind _=_
 rw[aaQ N ω bC bW.w,ar]
 show(F99 N bC bB 9).bind _=_
 rw[Va N ω bC bW.w,ar]
 dsimp only
 show cond (aN 0 0) ((C6 N bR bR).bind λr8=>cond r8 ((C8 N [100] [100]).bind λr9=>cond r9 (cond (aN 0 0) ((Cv N bX.2.2.2.1 1 0).bind λke=>cond (aN ke 5) ((vm N bX.2.2.1 5 1).bind λnF=>cond (aN nF 50) (cond (aN (ec bC bX 0 110).2.2 0) (cond (aN (((ec bC bX 0 110).2.1.map iJ).length:Int) 2) ((vm N (ec bC bX 0 110).1.2.2.1 5 1).bind λoR=>cond (aN oR 100) (cond (aN ((ec bC bX 0 110).1.2.2.2.2.1.length:Int) 1) (cond (bc 0 (ec bC bX 0 110).1.2.2.2.2.1.length) (cond (aN (γ (ec bC bX 0 110).1.2.2.2.2.1 (0:Int).toNat 0) 110) (cond (aN (yt bC bX 2).2 0) (cond (aN (cN (yt bC bX 2).1).2.1 10) (cond (aN (Ds bC bB 1).2 0) (cond (aN ((Ds bC bB 1).1.2.2.2.2.2.1.length:Int) 0) (cond (aN (yt bC bB 9).2 3) ((kQ N bC bB).bind λpq=>some pq) (some false)) (some false)) (some false)) (some false)) (some false)) (some false)) none) (some false)) (some false)) (some false)) (some false)) (some false)) (some false)) (some false)) (some false)) (some false)) (some false)=some true
 have l1:(1:Int)=(([(110:Int)]:List Int).length:Int):=rfl
 rw[ei,ak,Pj N δ ω,ar,ak,Pk N δ ω,ar,ak,ak,FK N bXW.w.s ω,ar,bHd,ei,ak,Mj N bXW.w.r ω,ar,bGt,ei,ak,awz,ei,ak,cD,awA,dZ (x:=((2:Nat):Int)) (y:=2) rfl,ak,Mj N sh.r ω,ar,awB,ei,ak,awC,
  dZ (x:=(([(110:Int)]:List Int).length:Int)) (y:=1) rfl,ak,aW (i:=0) (n:=([(110:Int)]:List Int).length) ω δ,ak,show γ [(110:Int)] (0:Int).toNat 0=110 from rfl,ei,ak,bNd,ei,ak,bWn,ei,ak,awE,ei,ak,bDr,dZ (x:=((([]:aY).length:Nat):Int)) (y:=0) rfl,ak,awD,ei,ak,tQ N ω bW.w,ar,bOk]
end VM
end
section
namespace VM
open Go VM.F
theorem Ok.and{α:Type}{P Q:α→Prop}{o:Option α}(h1:Ok P o)(h2:Ok Q o):Ok (λr=>P r∧Q r) o:=by
 obtain⟨r,e,hr⟩:=h1
 obtain⟨q,e',hq⟩:=h2
 rw[e]at e'
 exact⟨r,e,hr,(mw e')▸hq⟩
theorem Cg{α:Type}{l:List α}{x y:α}(k:Nat):y∈l.take k++x::l.drop k↔y=x∨y∈l:=by
 have e:y∈l↔y∈l.take k∨y∈l.drop k:=by rw[←bl,gL]
 rw[e,bl,a8]
 constructor
 ·rintro(h|h|h)
  ·exact .inr (.inl h)
  ·exact .inl h
  ·exact .inr (.inr h)
 ·rintro(h|h|h)
  ·exact .inr (.inl h)
  ·exact .inl h
  ·exact .inr (.inr h)
theorem Iw{α:Type}{R:α→α→Prop}{l:List α}{x:α}{k:Nat}(hp:l.Pairwise R)(h1: ∀y∈l.take k,R y x)(h2: ∀y∈l.drop k,R x y):(l.take k++x::l.drop k).Pairwise R:=by
 rw[←gL k l,xc]at hp
 rw[xc,eP]
 exact⟨hp.1,⟨h2,hp.2.1⟩,λa ha b hb=>by
  rcases a8.1 hb with rfl|hb
  ·exact h1 a ha
  ·exact hp.2.2 a ha b hb⟩
theorem Vc{α:Type}{l:List α}{d:α}{f:α→Int}(hp:l.Pairwise λa b=>lF (f a) (f b)){v:Int}{k:Nat}(h1: ∀j,j<k→lF (f (l.getD j d)) v)(h2:k<l.length→ ¬lF (f (l.getD k d)) v)(hn: ∀y∈l,¬dG (f y) v):
  (∀y∈l.take k,lF (f y) v)∧ ∀y∈l.drop k,lF v (f y):=by
 refine⟨λy hy=> ?_,λy hy=> ?_⟩
 ·obtain⟨j,hj,e⟩:=gE hy
  rw[bZ]at hj
  rw[AP]at e
  have:=h1 j ω
  rw[ji ω,e]at this
  exact this
 ·obtain⟨j,hj,e⟩:=gE hy
  rw[eg]at hj
  rw[F8]at e
  have h3:=h2 ω
  rw[ji ω]at h3
  have h4:=hn y (mQ hy)
  have g: ∀a b c:Int,¬lF a c→(lF a b∨a=b)→ ¬dG b c→lF c b:=λa b c h h' LD=>by
   unfold lF dG at*
   rcases h' with h'|h'<;>omega
  refine g _ _ _ h3 ?_ h4
  by_cases h0:j=0
  ·subst h0;right;rw[←e];rfl
  ·left
   have:=vq.1 hp k (k+j) ω ω ω
   rw[e]at this;exact this
theorem Du{α:Type}{l:List α}{d:α}(g:α→α){i:Nat}(hi:i<l.length):
  ((l.take i).map g++l.drop i).getD i d=l.getD i d∧((l.take i).map g++l.drop i).set i (g (l.getD i d))=(l.take (i+1)).map g++l.drop (i+1)∧(g (l.getD i d)=l.getD i d→(l.take i).map g++l.drop i=(l.take (i+1)).map g++l.drop (i+1)):=by
 have hlen:((l.take i).map g).length=i:=by rw[cD,bZ];omega
 have e1:l.drop i=l[i]::l.drop (i+1):=qU hi
 have e2:l.take (i+1)=l.take i++[l[i]]:=(tB hi).symm
 rw[ji hi]
 refine⟨?_,?_,λh=> ?_⟩
 ·rw[aV,pz ω,hlen,uH,e1];rfl
 ·rw[NL _ _ ω,hlen,uH,e1,e2,List.set_cons_zero,dj,bE];rfl
 ·rw[e1,e2,dj,bE,bQ,h];rfl
theorem zi{α:Type}(l:List α)(g:α→α)(i:Nat):((l.take i).map g++l.drop i).length=l.length:=by
 rw[aS,cD,bZ,eg];omega
theorem aaS(N:Nat)(hN:200000≤N){a:aE}(hl:a.length≤50000)(id:Int):Ok (λr=>r.2=0→dN r.1=true∧ ∀n,jV a n→jV r.1 n) (iZ N a id):=by
 have bad: ∀e:Int,e≠0→Ok (λr:aE×Int=>r.2=0→dN r.1=true∧ ∀n,jV a n→jV r.1 n) (some ([],e)):=λe h=>aq λh'=>absurd h' h
 have b1:=bad 1 δ
 unfold iZ iZ.b
 refine bH (nA N ω hN) (bF (λ_=>b1) λhM=>ax (λ_=>b1) λh1=>ax (λ_=>b1) λh2=>bH (iV N ω hN id) (bG (λ_=>bad _ δ) λh0=> ?_))
 obtain⟨hm,hp⟩:=gV.1 hM
 have hn: ∀y∈a,¬dG y.1 id:=λy hy e=>(gW hm).2 ⟨y,hy,e⟩ h0
 have fin: ∀k:Nat,k≤a.length→(∀j,j<k→lF (a.getD j da).1 id)→(k<a.length→ ¬lF (a.getD k da).1 id)→Ok (λr=>r.2=0→dN r.1=true∧ ∀n,jV a n→jV r.1 n) (iZ.j9 N a id [] (k:Int)):=λk hk g1 g2=>by
  unfold iZ.j9 iZ.Js
  refine MB hk ω λ_=> ?_
  simp only[cM,aI,dP,cQ,ij,bE,mV]
  obtain⟨q1,q2⟩:=Vc (f:=λx:BK=>x.1) hp g1 g2 hn
  refine⟨gV.2 ⟨λx hx=> ?_,Iw hp q1 q2⟩,λn ⟨y,hy,e⟩=>⟨y,(Cg k).2 (.inr hy),e⟩⟩
  rcases(Cg k).1 hx with rfl|hx
  ·exact⟨h1,h2,(show(1:Int)≤1 by decide),(show(1:Int)≤4 by decide)⟩
  ·exact hm x hx
 refine bs (σ:=Unit) (len:=a.length) (F:=λn i _=>iZ.l7 N n a id [] i) (s:=()) (λi _=> ∀j,j<i→lF (a.getD j da).1 id) (λj hj=>absurd hj ω) ω (λn i _ hi hI hr=> ?_) (λn _ hI=> ?_)
 all_goals unfold iZ.l7 iZ.oP
 ·rw[aw (x:=(i:Int)+1) ω ω,af i]
  refine ax (λ_=>aB ⟨ω,ω⟩ (ax (λh=>hr () λj hj=> ?_) λh=>fin i ω hI λ_ h'=> ?_)) λ_=>ω
  ·by_cases e:j=i
   ·subst e;exact h
   ·exact hI j ω
  ·have g: ∀x y:Int,lF x y→y≤x→False:=λx y h h'=>by unfold lF at h;omega
   exact g _ _ h' h
 ·exact ax (λ_=>ω) λ_=>fin _ (aH _) hI λh=>absurd h ω
theorem aaT(N:Nat)(a b:Int):Ok (λr=>r.2=true→1≤r.1∧r.1≤4) (W1 N a b):=by
 have h: ∀(x:Int) (t:Bool),(t=true→1≤x∧x≤4)→Ok (λr:Int×Bool=>r.2=true→1≤r.1∧r.1≤4) (some (x,t)):=λx t hx=>aq hx
 unfold W1
 repeat' first|refine ok_eq (λ_=> ?_) (λ_=> ?_)|exact h _ _ δ
def MT(id v:Int)(x:BK):BK:=if x.1=id then(x.1,(v,x.2.2))else x
theorem Ts(id v:Int)(x:BK):(MT id v x).1=x.1:=by unfold MT;split<;>rfl
theorem yu{α:Type}{R:α→α→Prop}{g:α→α}{l:List α}(hp:l.Pairwise R)(h: ∀x∈l,∀y∈l,R x y→R (g x) (g y)):(l.map g).Pairwise R:=by
 rw[uA]
 exact hp.imp_of_mem λhx hy h'=>h _ hx _ hy h'
theorem Vd(N:Nat)(hN:200000≤N){l:aE}(hl:l.length≤50000)(id k:Int):Ok (λr=>r.2=0→dN r.1=true∧(∀n,jV l n→jV r.1 n)∧jV l id) (mN N l id k):=by
 have bad: ∀e:Int,e≠0→Ok (λr:aE×Int=>r.2=0→dN r.1=true∧(∀n,jV l n→jV r.1 n)∧jV l id) (some ([],e)):=λe h=>aq λh'=>absurd h' h
 unfold mN mN.b
 refine bH (nA N ω hN) (bF (λ_=>bad _ δ) λhM=>bH (iV N ω hN _) (ok_eq (λ_=>bad _ δ) λvl=>ag (aaT N _ _) λz hz=>bF (λ_=>bad _ δ) λFA=>aD (by rw[cj];omega) ?_))
 obtain⟨hm,hp⟩:=gV.1 hM
 have hz:=hz FA
 rw[cM]
 refine bs (len:=l.length) (F:=λn i s=>mN.Al N n id z.1 s i) (λi s=>s=(l.take i).map (MT id z.1)++l.drop i) rfl ω (λn i s hi hI hr=> ?_) (λn s hI=> ?_)
 all_goals unfold mN.Al mN.yf
 ·rw[aw (x:=(i:Int)+1) ω ω,af i]
  obtain⟨s1,s2,s3⟩:=Du (d:=da) (MT id z.1) hi
  have hs:s.length=l.length:=by rw[hI];exact zi l _ i
  rw[←hI]at s1 s2 s3
  refine ax (λ_=>aB ⟨ω,ω⟩ (ok_eq (λe=>aB ⟨ω,ω⟩ (hr _ ?_)) λe=>hr s (s3 ?_))) λ_=>ω
  ·rw[aI,s1]at e ⊢
   rw[←s2]
   unfold MT;rw[aj e]
  ·rw[aI,s1]at e
   unfold MT;rw[ah e]
 ·have hs:s.length=l.length:=by rw[hI];exact zi l _ _
  have e:s=l.map (MT id z.1):=by rw[hI,ij,mW,cw]
  refine ax (λ_=>ω) λ_=>aq λ_=> ?_
  dsimp only
  rw[e]
  refine⟨gV.2 ⟨λx hx=> ?_,yu hp λx _ y _ h=> ?_⟩,λn ⟨y,hy,e⟩=>⟨MT id z.1 y,fh hy,?_⟩,(gW hm).1 vl⟩
  ·obtain⟨y,hy,rfl⟩:=cV.1 hx
   have h:=hm y hy
   unfold MT
   split
   ·exact⟨h.1,h.2.1,hz.1,hz.2⟩
   ·exact h
  ·unfold aaB;rw[Ts,Ts];exact h
  ·rw[Ts];exact e
def JM(id v:Int)(x:cG):cG:=if x.1=id then(x.1,(x.2.1,(x.2.2.1,(v,x.2.2.2.2))))else x
def Fc(id v:Int)(x:cG):cG:=if x.1=id then(x.1,(v,x.2.2))else x
theorem yv(id v:Int)(x:cG):(JM id v x).1=x.1∧(JM id v x).2.1=x.2.1∧(JM id v x).2.2.1=x.2.2.1:=by unfold JM;split<;>exact⟨rfl,rfl,rfl⟩
theorem Ix(id v:Int)(x:cG):(Fc id v x).1=x.1∧(Fc id v x).2.2=x.2.2:=by unfold Fc;split<;>exact⟨rfl,rfl⟩
theorem Qi{a:aO}{g:cG→cG}(hg: ∀x,(g x).1=x.1)(n:Int)(h:ru a n):ru (a.map g) n:=by
 obtain⟨y,hy,e⟩:=h
 exact⟨g y,fh hy,by rw[hg];exact e⟩
abbrev tp(m:aE)(a:aO)(r:aO×Int):Prop:=r.2=0→gP r.1=true∧(∀n,ru a n→ru r.1 n)∧ ∀x∈r.1,jV m x.2.1
theorem tp.bad{m:aE}{a:aO}{e:Int}(h:e≠0):Ok (tp m a) (some ([],e)):=aq λh'=>absurd h' h
theorem aaU(N:Nat)(hN:200000≤N){m:aE}{l:aO}(hl:l.length≤50000)(hm: ∀x∈l,jV m x.2.1)(id q:Int):Ok (tp m l) (oE N l id q):=by
 unfold oE oE.b
 refine bH (uZ N ω hN) (bF (λ_=>tp.bad δ) λhA=>ax (λ_=>tp.bad δ) λq0=>ax (λ_=>tp.bad δ) λq1=>bH (sy N ω hN _) (bF (λ_=>tp.bad δ) λ_=>aD (by rw[cj];omega) ?_))
 obtain⟨ha,hp,ht⟩:=qp.1 hA
 rw[cM]
 refine bs (len:=l.length) (F:=λn i s=>oE.l8 N n id q s i) (λi s=>s=(l.take i).map (JM id q)++l.drop i) rfl ω (λn i s hi hI hr=> ?_) (λn s hI=> ?_)
 all_goals unfold oE.l8 oE.Ec
 ·rw[aw (x:=(i:Int)+1) ω ω,af i]
  obtain⟨s1,s2,s3⟩:=Du (d:=bb) (JM id q) hi
  have hs:s.length=l.length:=by rw[hI];exact zi l _ i
  rw[←hI]at s1 s2 s3
  refine ax (λ_=>aB ⟨ω,ω⟩ (ok_eq (λe=>aB ⟨ω,ω⟩ (hr _ ?_)) λe=>hr s (s3 ?_))) λ_=>ω
  ·rw[aI,s1]at e ⊢
   rw[←s2]
   unfold JM;rw[aj e]
  ·rw[aI,s1]at e
   unfold JM;rw[ah e]
 ·have hs:s.length=l.length:=by rw[hI];exact zi l _ _
  have e:s=l.map (JM id q):=by rw[hI,ij,mW,cw]
  refine ax (λ_=>ω) λ_=>aq λ_=> ?_
  dsimp only
  rw[e]
  refine⟨qp.2 ⟨λx hx=> ?_,yu hp λx _ y _ h=> ?_,yu ht λx _ y _ h=> ?_⟩,Qi λx=>(yv id q x).1,λx hx=> ?_⟩
  ·obtain⟨y,hy,rfl⟩:=cV.1 hx
   have h:=ha y hy
   unfold JM
   split
   ·exact⟨h.1,h.2.1,h.2.2.1,q0,q1⟩
   ·exact h
  ·unfold P9;rw[(yv id q x).1,(yv id q y).1];exact h
  ·unfold ntw aqG;rw[(yv id q x).2.1,(yv id q y).2.1,(yv id q x).2.2,(yv id q y).2.2];exact h
  ·obtain⟨y,hy,rfl⟩:=cV.1 hx
   rw[(yv id q y).2.1];exact hm y hy
theorem Lb{n:Int}: ∀{l:aO},l.Pairwise P9→ ∀x∈l,dG x.1 n→(uY n l).1=x
 |[],_,x,hx,_=>nomatch hx
 |y::t,hp,x,hx,e=>by
  rw[pa]
  rcases a8.1 hx with rfl|hx
  ·rw[aj (show x.1=n from e)]
  ·have h:lF y.1 x.1:=(eP.1 hp).1 x hx
   have g: ∀a b:Int,lF a b→dG b n→ ¬a=n:=λa b h1 h2=>by unfold lF dG at*;omega
   rw[ah (g _ _ h e)]
   exact Lb (eP.1 hp).2 x hx e
theorem Tt(N:Nat)(hN:200000≤N){m:aE}{l:aO}(Fs:m.length≤50000)(hl:l.length≤50000)(id to:Int):Ok (tp m l) (oF N m l id to):=by
 unfold oF oF.b
 refine bH (ya N ω ω hN) (bF (λ_=>tp.bad δ) λhR=>bH (sy N ω hN _) (bH (iV N ω hN _) (bF (λ_=>tp.bad δ) λ_=>ok_eq (λ_=>tp.bad δ) λhs=>bG (λ_=>tp.bad δ) λhk=>bG (λ_=>tp.bad δ) λ_=>aD (by rw[cj];omega) ?_)))
 unfold sA at hR
 simp only[bM,fA,fP]at hR
 obtain⟨hM,hA,hma⟩:=hR
 obtain⟨ha,hp,ht⟩:=qp.1 hA
 have hmm:=(gV.1 hM).1
 obtain⟨mx,Nj,emx⟩:=(gW hmm).1 hs
 have hm: ∀x∈l,jV m x.2.1:=(gS (d:=bb) (Q:=λx=>jV m x.2.1)).1 λj hj=>(gW hmm).1 (hma j hj)
 rw[cM]
 refine bs (len:=l.length) (F:=λn i s=>oF.mq N n id to s i) (λi s=>s=(l.take i).map (Fc id to)++l.drop i) rfl ω (λn i s hi hI hr=> ?_) (λn s hI=> ?_)
 all_goals unfold oF.mq oF.lq
 ·rw[aw (x:=(i:Int)+1) ω ω,af i]
  obtain⟨s1,s2,s3⟩:=Du (d:=bb) (Fc id to) hi
  have hs:s.length=l.length:=by rw[hI];exact zi l _ i
  rw[←hI]at s1 s2 s3
  refine ax (λ_=>aB ⟨ω,ω⟩ (ok_eq (λe=>aB ⟨ω,ω⟩ (hr _ ?_)) λe=>hr s (s3 ?_))) λ_=>ω
  ·rw[aI,s1]at e ⊢
   rw[←s2]
   unfold Fc;rw[aj e]
  ·rw[aI,s1]at e
   unfold Fc;rw[ah e]
 ·have hs:s.length=l.length:=by rw[hI];exact zi l _ _
  have e:s=l.map (Fc id to):=by rw[hI,ij,mW,cw]
  refine ax (λ_=>ω) λ_=>aq λ_=> ?_
  dsimp only
  rw[e]
  have cl: ∀x∈l,x.1=id→x.2.2.1=2:=λx hx e=>by rw[←Lb hp x hx e];exact hk
  have mo:aaC mx.1 mx.2.1:=hmm mx Nj
  have aqO:mx.1=to:=emx
  refine⟨qp.2 ⟨λx hx=> ?_,yu hp λx _ y _ h=> ?_,yu ht λx hx y hy h=> ?_⟩,Qi λx=>(Ix id to x).1,λx hx=> ?_⟩
  ·obtain⟨y,hy,rfl⟩:=cV.1 hx
   have h:=ha y hy
   unfold Fc
   split
   ·exact⟨h.1,⟨aqO▸mo.1,aqO▸mo.2.1⟩,h.2.2⟩
   ·exact h
  ·unfold P9;rw[(Ix id to x).1,(Ix id to y).1];exact h
  ·intro ⟨t1,t2,t3⟩
   rw[(Ix id to x).2]at t1
   rw[(Ix id to y).2]at t2
   have nx: ∀x∈l,dG x.2.2.1 1→Fc id to x=x:=λx hx e=>by
    unfold Fc
    rw[ah]
    intro h'
    have:=cl x hx h'
    have e':x.2.2.1=1:=e
    rw[e']at this;exact absurd this δ
   rw[nx x hx t1,nx y hy t2]at t3
   exact h ⟨t1,t2,t3⟩
  ·obtain⟨y,hy,rfl⟩:=cV.1 hx
   unfold Fc
   split
   ·exact⟨mx,Nj,emx⟩
   ·exact hm y hy
theorem ED{n:Int}: ∀{l:aO},(∀x∈l,Tm x)→oh n l=0→ ∀x∈l,dG x.2.2.1 1→ ¬dG x.2.1 n
 |[],_,_,x,hx,_=>nomatch hx
 |y::t,ha,h,x,hx,e=>by
  rw[tP]at h
  have ih:=ED (n:=n) λz hz=>ha z (aZ _ hz)
  have hy:Tm y:=ha y (bq ..)
  have g: ∀v:Int,1≤v→ ¬v=0:=λv h1 h2=>ω
  by_cases e1:y.2.1=n
  ·rw[aj e1]at h
   by_cases e2:y.2.2.1=1
   ·rw[aj e2]at h;exact absurd h (g _ hy.1.1)
   ·rw[ah e2]at h
    rcases a8.1 hx with rfl|hx
    ·exact absurd e e2
    ·exact ih h x hx e
  ·rw[ah e1]at h
   rcases a8.1 hx with rfl|hx
   ·exact e1
   ·exact ih h x hx e
theorem ad2(N:Nat)(hN:200000≤N){m:aE}{l:aO}(Fs:m.length≤50000)(hl:l.length≤50000)(x:cG):Ok (tp m l) (fO N m l x):=by
 unfold fO fO.b
 refine bH (ya N ω ω hN) (bF (λ_=>tp.bad δ) λhR=>bH (uZ N (l:=[x]) (by rw[aK];omega) hN) (bF (λ_=>tp.bad δ) λhX=>bH (iV N ω hN _) (ok_eq (λ_=>tp.bad δ) λhs=>bG (λ_=>tp.bad δ) λ_=>bH (sy N ω hN _) (nL (λ_=>tp.bad δ) λhf=> ?_))))
 unfold sA at hR
 simp only[bM,fA,fP]at hR
 obtain⟨hM,hA,hma⟩:=hR
 obtain⟨ha,hp,ht⟩:=qp.1 hA
 have hmm:=(gV.1 hM).1
 have hx:=(qp.1 hX).1 x (cr.2 rfl)
 have hxm:=(gW hmm).1 hs
 have hm: ∀x∈l,jV m x.2.1:=(gS (d:=bb) (Q:=λx=>jV m x.2.1)).1 λj hj=>(gW hmm).1 (hma j hj)
 have hn: ∀y∈l,¬dG y.1 x.1:=λy hy e=>by
  have:=Dq.2 ⟨y,hy,e⟩
  rw[hf]at this;exact nomatch this
 have fin:(∀y∈l,ntw y x)→ ∀k:Nat,k≤l.length→(∀j,j<k→lF (l.getD j bb).1 x.1)→(k<l.length→ ¬lF (l.getD k bb).1 x.1)→Ok (tp m l) (fO.Dg N l x [] (k:Int)):=λhw k hk g1 g2=>by
  unfold fO.Dg fO.wZ
  refine MB hk ω λ_=> ?_
  simp only[cM,aI,dP,cQ,ij,bE,mV]
  obtain⟨q1,q2⟩:=Vc (f:=λx:cG=>x.1) hp g1 g2 hn
  have tw: ∀y∈l,ntw x y:=λy hy ⟨t1,t2,t3⟩=>hw y hy ⟨t2,t1,Eq.symm t3⟩
  refine⟨qp.2 ⟨λy hy=> ?_,Iw hp q1 q2,Iw ht (λy hy=>hw y (lH hy)) λy hy=>tw y (mQ hy)⟩,λn ⟨y,hy,e⟩=>⟨y,(Cg k).2 (.inr hy),e⟩,λy hy=> ?_⟩
  ·rcases(Cg k).1 hy with rfl|hy
   ·exact hx
   ·exact ha y hy
  ·rcases(Cg k).1 hy with rfl|hy
   ·exact hxm
   ·exact hm y hy
 have hj:(∀y∈l,ntw y x)→Ok (tp m l) (fO.E9 N l x):=λhw=>by
  unfold fO.E9 fO.yr
  refine bs (σ:=Unit) (len:=l.length) (F:=λn i _=>fO.mq N n l x [] i) (s:=()) (λi _=> ∀j,j<i→lF (l.getD j bb).1 x.1) (λj hj=>absurd hj ω) ω (λn i _ hi hI hr=> ?_) (λn _ hI=> ?_)
  all_goals unfold fO.mq fO.lq
  ·rw[aw (x:=(i:Int)+1) ω ω,af i]
   refine ax (λ_=>aB ⟨ω,ω⟩ (ax (λh=>hr () λj hj=> ?_) λh=>fin hw i ω hI λ_ h'=> ?_)) λ_=>ω
   ·by_cases e:j=i
    ·subst e;exact h
    ·exact hI j ω
   ·have g: ∀x y:Int,lF x y→y≤x→False:=λx y h h'=>by unfold lF at h;omega
    exact g _ _ h' h
  ·exact ax (λ_=>ω) λ_=>fin hw _ (aH _) hI λh=>absurd h ω
 refine ok_eq (λe=>bH (rJ N ω hN _) (bG (λ_=>tp.bad δ) λh0=>hj λy hy ⟨t1,_,t3⟩=> ?_)) λe=>hj λy hy ⟨_,t2,_⟩=>e t2
 unfold oi at h0
 rw[aj hA]at h0
 exact ED ha h0 y hy t1 t3
def PB(m:aE)(a:aO)(p:bP):Prop:=
 ∃e:au,p=e.map gG∧Hw e∧(∀x∈e,db x.1 x.2.1∧ki m a x.1 x.2.1)∧(e.map dJ).sum=0
def SB(c:ae)(a:aO)(s:au):Prop:=dV s∧(∀x∈s,bY x.1 x.2.1∧zM c a x.1 x.2.1)∧ ∀i:Int,(dg i s).sum=0
theorem PB.nil{m:aE}{a:aO}:PB m a []:=⟨[],rfl,λx hx=>(nomatch hx),λx hx=>(nomatch hx),rfl⟩
theorem PB.app{m:aE}{a:aO}{p q:bP}(hp:PB m a p)(hq:PB m a q):PB m a (p++q):=by
 obtain⟨e,rfl,e1,e2,e3⟩:=hp
 obtain⟨f,rfl,f1,f2,f3⟩:=hq
 refine⟨e++f,dj.symm,λx hx=>(bl.1 hx).elim (e1 x) (f1 x),λx hx=>(bl.1 hx).elim (e2 x) (f2 x),?_⟩
 rw[dj,nS,e3,f3];rfl
theorem Iy(i:Int): ∀s t:au,dg i (s++t)=dg i s++dg i t
 |[],t=>rfl
 |x::s,t=>by
  rw[mV,dx,dx,Iy i s t]
  split<;>rfl
theorem SB.nil{c:ae}{a:aO}:SB c a []:=⟨λx hx=>(nomatch hx),λx hx=>(nomatch hx),λ_=>rfl⟩
theorem SB.app{c:ae}{a:aO}{s t:au}(hs:SB c a s)(ht:SB c a t):SB c a (s++t):=
 ⟨λx hx=>(bl.1 hx).elim (hs.1 x) (ht.1 x),λx hx=>(bl.1 hx).elim (hs.2.1 x) (ht.2.1 x),λi=>by rw[Iy,nS,hs.2.2,ht.2.2];rfl⟩
theorem SB.two{c:ae}{a:aO}{x y i q r:Int}(hq:aF q)(hr:aF r)(e:q+r=0)(hx:bY x i∧zM c a x i)(hy:bY y i∧zM c a y i):SB c a [(x,(i,(q,()))),(y,(i,(r,())))]:=by
 refine⟨λz hz=> ?_,λz hz=> ?_,λj=> ?_⟩
 ·rcases a8.1 hz with rfl|hz
  ·exact hq
  ·rw[cr.1 hz];exact hr
 ·rcases a8.1 hz with rfl|hz
  ·exact hx
  ·rw[cr.1 hz];exact hy
 ·rw[dx,dx]
  by_cases h:i=j
  ·rw[aj h,aj h]
   show q+(r+0)=0
   omega
  ·rw[ah h,ah h];rfl
theorem PB.two{m:aE}{a:aO}{k n k' n' v w:Int}(hv:cT v)(hw:cT w)(e:v+w=0)(h1:db k n∧ki m a k n)(h2:db k' n'∧ki m a k' n'):PB m a [(k,(n,(dz v,()))),(k',(n',(dz w,())))]:=by
 refine⟨[(k,(n,(v,()))),(k',(n',(w,())))],rfl,λz hz=> ?_,λz hz=> ?_,?_⟩
 ·rcases a8.1 hz with rfl|hz
  ·exact hv
  ·rw[cr.1 hz];exact hw
 ·rcases a8.1 hz with rfl|hz
  ·exact h1
  ·rw[cr.1 hz];exact h2
 ·show v+(w+0)=0
  omega
abbrev JA(c:ae)(b:an)(r:an×Int):Prop:=r.2=0→RBs c b r.1
theorem JA.bad{c:ae}{b b':an}{e:Int}(h:e≠0):Ok (JA c b) (some (b',e)):=aq λh'=>absurd h' h
theorem aaV(N:Nat)(hN:4000000≤N){b:an}{s e:au}(w:om b)(hr:eK b.2.2.1=true)(hs:c6 b.2.2.2.1=true)(lr:b.2.2.1.length≤90000)(ls:b.2.2.2.1.length≤90000)(qs:dV s)(lns:s.length≤100000)(qe:Hw e)(lne:e.length≤100000):
  zt N b s (e.map gG)=some (cc b s e):=by
 unfold zt cc
 rw[Hv N hN hs ls w.qs qs lns,UF N hN hr lr w.qr qe lne]
 unfold wX
 rw[ar,ar]
 cases dL Fq (fS b.2.2.2.1 s) iW with
 |none=>rfl
 |some s'=>
  cases dL aF (fS b.2.2.1 e) lY with
  |none=>rfl
  |some r'=>rfl
theorem uc(N:Nat)(hN:4000000≤N){c:ae}{b:an}{s:au}{p:bP}{m:Nat}(hm:m≤50000)(hb:G m aJ b)(h:RB c b)(hs:SB c b.2.1 s)(hp:PB b.1 b.2.1 p)(ls:s.length≤50000)(lp:p.length≤50000):Ok (JA c b) (zt N b s p):=by
 obtain⟨e,rfl,e1,e2,e3⟩:=hp
 obtain⟨hr,vl⟩:=dE (ot.2 h)
 have w:=G.wf hm hb
 rw[cD]at lp
 exact oB (aaV N hN w.w hr vl w.r w.s hs.1 ω e1 ω) λh0=>h.cc hs.2.1 hs.2.2 e2 e3 h0
theorem pM{v:Int}(h:aF v):cT v∧cT (-v):=by unfold aF at h;unfold cT;omega
theorem ud(N:Nat)(hN:4000000≤N){m:aE}{a:aO}{k n k' n' v:Int}(hv:cT v∧cT (-v))(h1:db k n∧ki m a k n)(h2:db k' n'∧ki m a k' n'):Ok (λr=>PB m a r∧r.length=2) (Dj N k n k' n' (dz v)):=by
 unfold Dj
 exact bH (o9 N hN (FI hv.1)) (aq ⟨PB.two hv.2 hv.1 ω h1 h2,rfl⟩)
theorem vh{c:ae}{b:an}(h:RB c b){k:Int}(hk:ru b.2.1 k):db 5 k∧ki b.1 b.2.1 5 k:=by
 obtain⟨y,hy,e⟩:=hk
 have hk:=(qp.1 h.a).1 y hy
 have e':y.1=k:=e
 exact⟨.inr (.inl ⟨rfl,e'▸hk.1⟩),λ_=>⟨y,hy,e⟩,λh=>absurd h δ⟩
theorem Dv{m:aE}{a:aO}{k:Int}(h:1≤k∧k≤4):db k 0∧ki m a k 0:=
 ⟨.inl ⟨h.1,h.2,rfl⟩,λe=>by unfold dG at e;omega,λe=>by unfold dG at e;omega⟩
theorem Ch{c:ae}{b:an}(h:RB c b){k n:Int}(hk:6≤k∧k≤7)(hn:jV b.1 n):db k n∧ki b.1 b.2.1 k n:=by
 obtain⟨y,hy,e⟩:=hn
 have hm:=(gV.1 h.m).1 y hy
 have e':y.1=n:=e
 exact⟨.inr (.inr ⟨hk.1,hk.2,e'▸hm.1,e'▸hm.2.1⟩),λe=>by unfold dG at e;omega,λ_=>⟨y,hy,e⟩⟩
theorem MU{m:aE}{a:aO}{k:Int}(h:dG k 0∨ru a k)(hk:0≤k∧k≤24)(x:Int):db (mK k x).1 (mK k x).2.1∧ki m a (mK k x).1 (mK k x).2.1:=by
 unfold mK
 by_cases e:k=0
 ·rw[aj e]
  exact⟨show db 2 0 by decide,λh=>absurd h (show ¬dG 2 5 by decide),λh=>absurd h (show ¬(dG 2 6∨dG 2 7)by decide)⟩
 ·rw[ah e]
  refine⟨show db 5 k by unfold db;omega,λ_=>h.elim (λh=>absurd h e) id,λh=>absurd h (show ¬(dG 5 6∨dG 5 7)by decide)⟩
theorem Qj{c:ae}{b:an}(h:RB c b){k:Int}(ht:((eS b.2.1 k).2||decide (dG k 0))=true):dG k 0∨ru b.2.1 k:=by
 rcases Bool.or_eq_true_iff.1 ht with ht|ht
 ·exact .inr ((qq h.a k).1 ht)
 ·exact .inl (bt ht)
theorem JN(N:Nat)(hN:4000000≤N){m:aE}{a:aO}{t:iu}{p:Int}(ht:dq t)(hp:cF p)(h1:dG t.1 0∨ru a t.1)(h2:dG t.2.1 0∨ru a t.2.1):Ok (λr=>PB m a r.1∧r.1.length≤2) (Pm N t p):=by
 refine oB (zJ N hN ht hp) ?_
 have ht':=ht
 unfold dq kd at ht'
 have hk:cT ((p-t.2.2.2.2.1)*t.2.2.2.1)∧cT (-((p-t.2.2.2.2.1)*t.2.2.2.1)):=by
  have hq:=ht'.2.2.2.2.1
  have he:=ht'.2.2.2.2.2
  generalize t.2.2.2.2.1=e at*
  generalize t.2.2.2.1=q at*
  unfold cF at hp he
  have:=Da (d:=p-e) ω hq
  unfold cT;omega
 unfold mh
 dsimp only
 split
 ·exact⟨PB.nil,bz _⟩
 ·refine⟨⟨_,rfl,λx hx=> ?_,λx hx=> ?_,?_⟩,aH 2⟩
  ·rcases a8.1 hx with rfl|hx
   ·rw[fX];exact hk.1
   ·rw[cr.1 hx,fX];exact hk.2
  ·rcases a8.1 hx with rfl|hx
   ·exact MU h1 ht'.1 _
   ·rw[cr.1 hx];exact MU h2 ht'.2.1 _
  ·rw[bQ,bQ,gM,fX,fX,cE,cE,jm];omega
theorem C1(N:Nat)(hN:5000000≤N){c:ae}{b:an}{l:bf}{m:Nat}(hm:m≤50000)(hb:G m aJ b)(h:RB c b):Ok (JA c b) (fm N c b l):=by
 unfold fm fm.b
 refine bH (ej N hN hm hb) (bF (λ_=>JA.bad δ) λhB=>ax (λ_=>JA.bad δ) λhl=> ?_)
 obtain⟨hp,EM⟩:=dY hB
 refine bs (len:=l.length) (F:=λn i (_:Unit)=>fm.l4 N n l c b (cf,(cS,(bn,(bn,(dd,(dm,())))))) i) (s:=()) (λi _=> ∀j,j<i→dq (l.getD j gl)) (λj hj=>ω) ω (λn i _ hi hI hr=> ?_) (λn _ hI=> ?_)
 all_goals unfold fm.l4 fm.dU
 ·rw[aw (x:=(i:Int)+1) ω ω,af i]
  refine ax (λ_=>aB ⟨ω,ω⟩ (bH (u7 N _) (bF (λ_=>JA.bad δ) λht=>hr () λj hj=> ?_))) λ_=>ω
  by_cases e:j=i
  ·rw[e];exact bt ht
  ·exact hI j ω
 ·refine ax (λ_=>ω) λ_=> ?_
  have wf:=G.wf hm hb
  refine bs (len:=l.length) (F:=λn i (s:au×bP)=>fm.Al N n l c b (cf,(cS,(bn,(bn,(dd,(dm,())))))) s.1 s.2 i) (s:=(_,_)) (λi s=>(SB c b.2.1 s.1∧s.1.length≤2*i)∧PB b.1 b.2.1 s.2∧s.2.length≤2*i) ⟨⟨SB.nil,bz _⟩,PB.nil,bz _⟩ ω (λn i s hi hJ hr=> ?_) (λn s hJ=> ?_)
  all_goals unfold fm.Al fm.yf
  all_goals obtain⟨⟨j1,j2⟩,j3,j4⟩:=hJ
  ·have ht0:=hI i hi
   have ht:=ht0
   unfold dq kd at ht
   dsimp only
   rw[aw (x:=(i:Int)+1) ω ω,af i,aI]
   generalize l.getD i gl=t at*
   refine ax (λ_=>aB ⟨ω,ω⟩ (bH (p9 N b wf.w.a ω _) (bF (λ_=>JA.bad δ) λt1=>bH (p9 N b wf.w.a ω _) (bF (λ_=>JA.bad δ) λt2=>eN (λ_=>JA.bad δ) λeU=>aD ?_ (aB ⟨ht.2.2.2.1.1,by rw[hp];exact eU⟩ ?_))))) λ_=>ω
   ·rw[aT,aK];omega
   have i1:=Qj h t1
   have i2:=Qj h t2
   have pr:cF (b.2.2.2.2.1.getD t.2.2.1.toNat 0):=by
    unfold fe at EM
    have hk:t.2.2.1.toNat<b.2.2.2.2.1.length:=by
     rw[hp]
     have g: ∀x:Int,0≤x→x<(c.1.length:Int)→x.toNat<c.1.length:=λx h1 h2=>ω
     exact g _ ht.2.2.2.1.1 eU
    exact(bt EM) _ hk
   refine ag (JN N ω ht0 pr i1 i2) λr ⟨BC,zV⟩=>aD ω (hr (_,_) ⟨⟨?_,?_⟩,PB.app j3 BC,?_⟩)
   ·refine SB.app j1 ?_
    have hq:aF t.2.2.2.1∧aF (0-t.2.2.2.1)∧W .i64 (0-t.2.2.2.1)=0-t.2.2.2.1:=by
     have hq:=ht.2.2.2.2.1
     generalize t.2.2.2.1=q at*
     exact⟨by unfold aF;omega,by unfold aF;omega,aw ω ω⟩
    rw[hq.2.2]
    have pl: ∀x:Int,0≤x∧x≤24→bY x t.2.2.1:=λx hx=>⟨hx.1,hx.2,ht.2.2.2.1.1,ht.2.2.2.1.2⟩
    exact SB.two hq.1 hq.2.1 ω ⟨pl _ ht.1,i1,eU⟩ ⟨pl _ ht.2.1,i2,eU⟩
   ·dsimp only;rw[List.length_append,List.length_cons,List.length_singleton];omega
   ·dsimp only;rw[List.length_append];omega
  ·exact ax (λ_=>ω) λ_=>ag (uc N ω hm hb h j1 j3 ω ω) λr h=>aq h
theorem ad3(N:Nat)(hN:5000000≤N){c:ae}{b:an}{h:cG}{a q p:Int}{m:Nat}(h2:200≤m)(hm:m≤40000)(hc:G m aA c)(hb:G m aJ b)(hR:RB c b)(hh:G m e7 h)(ha:aF a)(hq:aF q)(hp:aF p):Ok (λr=>r.2.2=0→RB c r.1∧r.2.1.2.1=h.2.1∧ZA r.2.1.2.2.2.1 1000000000) (qI N c b h a q p):=by
 have ho:G m nn (h.1,(a,(h.2.1,(W .i64 (3-h.2.2.1),(q,(p,())))))):=⟨hh.1,ha,hh.2.1,gB _,hq,hp,trivial⟩
 have eo: ∀e:Int,e≠0→Ok (λr:an×cG×Int=>r.2.2=0→RB c r.1∧r.2.1.2.1=h.2.1∧ZA r.2.1.2.2.2.1 1000000000) (some ((cf,(cS,(bn,(bn,(dd,(dm,())))))),(bb,e))):=λe h=>aq λh'=>absurd h' h
 unfold qI qI.b
 have hj:B8 h→1≤q→ ¬lF h.2.2.2.1 q→ ∀t:iu,Ok (λr=>r.2.2=0→RB c r.1∧r.2.1.2.1=h.2.1∧ZA r.2.1.2.2.2.1 1000000000) (qI.j14 N q c b h (cf,(cS,(bn,(bn,(dd,(dm,())))))) bb t):=λhk q1 q2 t=>by
  have g: ∀x:Int,qIn x→ ¬lF x q→ZA (W .i64 (x-q)) 1000000000:=λx h1 h2=>by unfold qIn at h1;unfold lF at h2;unfold ZA;rw[aw ω ω];omega
  unfold qI.j14 qI.adz
  exact ag (C1 N hN ω hb hR) λr hr=>bG (λh=>eo _ h) λh0=>aq λ_=>⟨(hr h0).1,rfl,g _ hk.2.2.2 q2⟩
 have b1:=eo 1 δ
 exact bH (ej N hN ω hb) (bF (λ_=>b1) λ_=>bH (ym N h) (bF (λ_=>b1) λhk=>ax (λ_=>b1) λq1=>ax (λ_=>b1) λ_=>ax (λ_=>b1) λ_=>ax (λ_=>b1) λ_=>ax (λ_=>eo _ δ) λq2=>ax (λ_=>b1) λ_=>ax (λ_=>b1) λ_=>ag (Ca N hN h2 hm hc hb ho) λe _=>bG (λh=>eo _ h) λ_=>ok_eq (λ_=>hj (bt hk) q1 (nY.2 q2) _) λ_=>hj (bt hk) q1 (nY.2 q2) _))
theorem Qk(N:Nat)(hN:5000000≤N){c:ae}{b:an}{m:Nat}(h2:200≤m)(hm:m≤40000)(hc:G m aA c)(hb:G m aJ b)(hR:RB c b){a:Int}(ha:aF a){q:Int}(hq:aF q):Ok (JA c b) (W4 N c b a q):=by
 have b1: ∀e:Int,e≠0→Ok (JA c b) (some ((cf,(cS,(bn,(bn,(dd,(dm,())))))),e)):=λe h=>JA.bad h
 unfold W4
 refine bH (ej N hN ω hb) (bF (λ_=>b1 _ δ) λ_=>ax (λ_=>b1 _ δ) λ_=>ag (H7 N ω ω hb.2.1 _) λx ⟨_,hxf⟩=>bF (λ_=>b1 _ δ) λhf=>ag (pt N ω ω hb.1 _) λ_ _=>bG (λ_=>b1 _ δ) λ_=>ag (np N ω ω hb.2.2.1 _ _) λg hg=>ag (bD N ω hg) λx hx=>ag (bD N ω hq) λy hy=>ag (y9 N ω ω hx hy) λz hz=>ag (H6 N ω h2 hm hc hb (bz _) _) λw hw=>ag (qH N ω ω ω hz hw) λ_ _=>ax (λ_=>b1 _ δ) λ_=>bH (dC N ω hq.1 hq.2) ?_)
 rw[hxf]at hf
 exact ag (ud N ω (pM hq) (vh hR ((qq hR.a a).1 hf)) (Dv δ)) λp ⟨hp,Bl⟩=>ag (uc N ω ω hb hR SB.nil hp (bz _) ω) λr hr=>aq hr
def EE(i d:Int)(l:au):au:=(l.filter λx=>decide (dG x.2.1 i∧ ¬dG d 0)).map λx=>mK x.1 (dJ x*d)
theorem Tu{l:au}{i d:Int}{k:Nat}(hk:k<l.length):EE i d (l.take (k+1))=EE i d (l.take k)++if dG (l.getD k ba).2.1 i∧ ¬dG d 0 then [mK (l.getD k ba).1 (dJ (l.getD k ba)*d)]else []:=by
 have e2:l.take (k+1)=l.take k++[l[k]]:=(tB hk).symm
 unfold EE
 rw[e2,AL,dj,ji hk]
 congr 1
 by_cases h:dG l[k].2.1 i∧ ¬dG d 0
 ·rw[aj h,pQ,aj (aU h)];rfl
 ·rw[ah h,pQ,ah (by rw[bu h];exact rP)];rfl
theorem Lc{i d:Int}: ∀l:au,((EE i d l).map dJ).sum=(dg i l).sum*d
 |[]=>(xk d).symm
 |x::t=>by
  have ih:=Lc (i:=i) (d:=d) t
  unfold EE at ih ⊢
  rw[dx]
  by_cases h:x.2.1=i
  ·rw[aj h]
   by_cases h0:d=0
   ·rw[pQ,ah (by rw[bu (λh=>h.2 h0)];exact rP),ih,h0,AX,AX]
   ·rw[pQ,aj (aU ⟨h,h0⟩),bQ,bQ,cE,cE,ih,nX,fX]
  ·rw[ah h,pQ,ah (by rw[bu (λk=>h k.1)];exact rP),ih]
theorem ad4{q d:Int}(hq:aF q)(hd: -1000000000000≤d∧d≤1000000000000):cT (q*d):=by
 have h1:(q*d).natAbs≤9223372036854775808*1000000000000:=by
  rw[Gd]
  unfold aF at hq
  exact uD ω ω
 unfold cT;omega
theorem aaW(N:Nat)(hN:4000000≤N){c:ae}{b:an}{m:Nat}(hm:m≤50000)(hb:G m aJ b)(hR:RB c b){i:Int}(hi0:0≤i∧i<6)(x y:Int):Ok (λr=>PB b.1 b.2.1 r.1∧r.1.length≤50000) (kf N b.2.2.2.1 i x y):=by
 have h:=hb.2.2.2.1
 have hl:=h.1
 have hs:=(dE (ot.2 hR)).2
 have fl:(dg i b.2.2.2.1).sum=0:=by
  have:=hR.s
  unfold oj at this
  have:=bt (c5.1 this).1 i.toNat (by unfold kt;omega)
  unfold sB dG ra at this
  rw[aj hs,xd hi0.1]at this
  exact this
 have hp:=(dM hs).2
 unfold kf kf.b
 have nil: ∀e:Int,Ok (λr:bP×Int=>PB b.1 b.2.1 r.1∧r.1.length≤50000) (some ([],e)):=λe=>aq ⟨PB.nil,bz _⟩
 refine bH (lR N ω ω) (bF (λ_=>nil _) λ_=>bH (jx N _) (bF (λ_=>nil _) λha=>bH (jx N _) (bF (λ_=>nil _) λeX=> ?_)))
 have ha:=bt ha
 have eX:=bt eX
 refine bH (dC N ω ω ω) (bH (dC N ω ω ω) (bH (tM N hN ((Fit.i64 ω ω).mono ω) ((Fit.i64 ω ω).mono ω)) ?_))
 have d64: -1000000000000≤y-x∧y-x≤1000000000000:=ω
 generalize y-x=d at*
 have fin:PB b.1 b.2.1 ((EE i d b.2.2.2.1).map gG):=by
  refine⟨_,rfl,λz hz=> ?_,λz hz=> ?_,?_⟩
  ·obtain⟨u,hu,rfl⟩:=cV.1 hz
   rw[fX];exact ad4 (h.2 u (rS.1 hu).1).2.2.1 d64
  ·obtain⟨u,hu,rfl⟩:=cV.1 hz
   have hu:=(rS.1 hu).1
   exact MU (hR.sk u hu).1 ⟨(hp u hu).1.1,(hp u hu).1.2.1⟩ _
  ·rw[Lc,fl,xk]
 refine bs (len:=b.2.2.2.1.length) (F:=λn j s=>kf.l6 N n b.2.2.2.1 i s (dz d) j) (λj s=>s=(EE i d (b.2.2.2.1.take j)).map gG∧s.length≤j) ⟨rfl,bz _⟩ ω (λn j s hj hI hr=> ?_) (λn s hI=> ?_)
 all_goals unfold kf.l6 kf.uU
 ·obtain⟨i1,i2⟩:=hI
  have st:=Tu (i:=i) (d:=d) hj
  have hx:G m jZ (b.2.2.2.1.getD j ba):=h.2 _ (qM hj)
  rw[aw (x:=(j:Int)+1) ω ω,af j,aI]
  have skip: ¬(dG (b.2.2.2.1.getD j ba).2.1 i∧ ¬dG d 0)→s=(EE i d (b.2.2.2.1.take (j+1))).map gG∧s.length≤j+1:=λh=>⟨by rw[st,ah h,cw];exact i1,ω⟩
  refine ax (λ_=>aB ⟨ω,ω⟩ (bG (λe=>hr s (skip λk=>e k.1)) λe1=>bH (ob N d) (ok_eq (λe=>hr s (skip λk=>k.2 (jz.1 e))) λe2=>aB ⟨ω,ω⟩ (bH (y6 _ (dJ (b.2.2.2.1.getD j ba)*d) N) (aB ⟨ω,ω⟩ (bH (dC N ω hx.2.2.1.1 hx.2.2.1.2) (bH (xW N hN ((Fit.i64 hx.2.2.1.1 hx.2.2.1.2).mono ω) ((Fit.i64 ω ω).mono ω)) (aD (by rw[aK];omega) (hr _ ⟨?_,by rw[aS,aK];omega⟩))))))))) λ_=>ω
  rw[st,aj ⟨e1,λk=>e2 (jz.2 k)⟩,dj,i1]
  congr 1
  unfold gG
  rw[bQ,gM,fX];rfl
 ·have i2:=hI.2
  refine ax (λ_=>ω) λ_=>aq ⟨?_,by dsimp only;omega⟩
  have:=hI.1
  rw[ij]at this
  rw[this];exact fin
theorem Tv{l:List Int}(h:fe l=true){p:Int}(hp:1≤p∧p≤1000000000000)(k:Nat):fe (l.set k p)=true:=by
 unfold fe at*
 have h:=bt h
 refine aU λj hj=> ?_
 rw[bN]at hj
 have XS:=h j hj
 unfold rf at*
 rw[aV,List.getElem?_set]
 split
 ·rw[aj ω];exact hp
 ·rw[←aV];exact XS
theorem Eg(N:Nat)(hN:5000000≤N){c:ae}{b:an}{m:Nat}(hm:m≤50000)(hb:G m aJ b)(hR:RB c b)(i p:Int):Ok (λr=>r.2.2=0→RB c r.1) (PV N c b i p):=by
 have eo: ∀e:Int,e≠0→Ok (λr:an×bP×Int=>r.2.2=0→RB c r.1) (some ((cf,(cS,(bn,(bn,(dd,(dm,())))))),([],e))):=λe h=>aq λh'=>absurd h' h
 have Bl:=hb.2.2.2.2.1.1
 have hci:c.1.length≤6:=by
  have:=hR.c
  unfold eJ at this
  exact(bt (c5.1 this).1).2
 unfold PV
 refine bH (ej N hN hm hb) (bF (λ_=>eo _ δ) λhB=>bH (jx N _) (bF (λ_=>eo _ δ) λhp=>ax (λ_=>eo _ δ) λh0=>eN (λ_=>eo _ δ) λh1=> ?_))
 obtain⟨Bo,_⟩:=dY hB
 have hp:=bt hp
 dsimp only
 rw[cM]
 refine aB ⟨h0,by rw[Bo];exact h1⟩ (ag (aaW N ω hm hb hR ⟨h0,ω⟩ _ _) λf ⟨hf,Fu⟩=>ag (uc N ω hm hb hR SB.nil hf (bz _) Fu) λr hr=>bG (λh=>eo _ h) λhz=>aD (by rw[cj];omega) (aB ⟨h0,by rw[Bo];exact h1⟩ (aq λ_=> ?_)))
 have q:=(hr hz).1
 exact⟨q.c,q.m,q.a,q.ma,q.r,q.t,q.s,q.o,by rw[bN];exact hR.n,q.rk,q.sk,q.ok,Tv hR.p hp _⟩
theorem Iz{l s:aY}(h:dn l=true)(hs:s.Sublist l):dn s=true:=by
 obtain⟨h1,h2,h3⟩:=lz.1 h
 exact lz.2 ⟨λx hx=>h1 x (hs.subset hx),h2.sublist hs,cv hs.length_le h3⟩
theorem IA{α:Type}{l s:List α}{d:α}{i:Nat}(hi:i<l.length)(h:s.Sublist (l.take i)):s.Sublist (l.take (i+1))∧(s++[l.getD i d]).Sublist (l.take (i+1)):=by
 have e2:l.take (i+1)=l.take i++[l[i]]:=(tB hi).symm
 rw[e2,ji hi]
 exact⟨h.trans (List.sublist_append_left ..),h.append (List.Sublist.refl _)⟩
theorem Xs(N:Nat)(hN:200000≤N){l:aY}(hl:l.length≤50000)(a id:Int):Ok (λr=>r.2=0→dn r.1=true∧ ∀x∈r.1,x∈l) (oG N l a id):=by
 have bad: ∀e:Int,e≠0→Ok (λr:aY×Int=>r.2=0→dn r.1=true∧ ∀x∈r.1,x∈l) (some ([],e)):=λe h=>aq λh'=>absurd h' h
 unfold oG oG.b
 refine bH (iU N ω hN) (bF (λ_=>bad _ δ) λhO=>bs (len:=l.length) (F:=λn i s=>oG.l5 N n l a id s i) (λi s=>s.Sublist (l.take i)) (Ga _) ω (λn i s hi hI hr=> ?_) (λn s hI=> ?_))
 all_goals have hs:=hI.length_le
 all_goals rw[bZ]at hs
 all_goals unfold oG.l5 oG.eA
 ·rw[aw (x:=(i:Int)+1) ω ω,af i]
  obtain⟨q1,q2⟩:=IA (d:=eF) hi hI
  have h1:=hr s q1
  have h2:=hr _ q2
  repeat' first|exact h1|exact h2|refine aD (by rw[aK];omega) ?_|refine aB ⟨ω,ω⟩ ?_|refine ax (λ_=> ?_) (λ_=> ?_)|refine bG (λ_=> ?_) (λ_=> ?_)|(exfalso;omega)
 ·rw[ij]at hI
  exact ax (λ_=>ω) λ_=>ok_eq (λ_=>bad _ δ) λ_=>aq λ_=>⟨Iz hO hI,λx hx=>hI.subset hx⟩
theorem aaX(N:Nat)(hN:200000≤N){l:aY}{a:List Int}{m:Nat}(hm:m≤50000)(hl:l.length≤m)(ha:a.length≤m):Ok (λr=>dn l=true→r.Sublist l) (gC N l a):=by
 unfold gC gC.b
 refine bH (iU N ω hN) (bF (λh=>aq λh'=>by rw[h]at h';exact nomatch h') λ_=>bs (len:=l.length) (F:=λn i s=>gC.l5 N n l a s i) (λi s=>s.Sublist (l.take i)) (Ga _) ω (λn i s hi hI hr=> ?_) (λn s hI=> ?_))
 all_goals have hs:=hI.length_le
 all_goals rw[bZ]at hs
 all_goals unfold gC.l5 gC.eA
 ·obtain⟨q1,q2⟩:=IA (d:=eF) hi hI
  refine ax (λ_=> ?_) λ_=>ω
  refine bs (len:=a.length) (F:=λn' j b=>gC.l9 N (gC.l5 N n) n' l a s (i:Int) b j) (λ_ _=>True) trivial ω (λn' j b hj _ eQ=> ?_) (λn' b _=> ?_)
  all_goals unfold gC.l9 gC.vN
  ·rw[aw (x:=(j:Int)+1) ω ω,af j]
   exact ax (λ_=>nL (λ_=>eQ _ trivial) λ_=>aB ⟨ω,ω⟩ (aB ⟨ω,ω⟩ (eQ _ trivial))) λ_=>ω
  ·rw[aw (x:=(i:Int)+1) ω ω,af i]
   exact ax (λ_=>ω) λ_=>bF (λ_=>aB ⟨ω,ω⟩ (aD (by rw[aK];omega) (hr _ q2))) λ_=>hr s q1
 ·rw[ij]at hI
  exact ax (λ_=>ω) λ_=>aq λ_=>hI
theorem Ql(N:Nat)(hN:5000000≤N){c:ae}{b:an}{m:Nat}(hm:m≤50000)(hb:G m aJ b)(hR:RB c b)(id:Int)(bg:jV b.1 id):Ok (λr=>RB c r.1) (ME N c b id):=by
 have vl:gJ b.1 id≠0:=(wy hR.m id).2 bg
 unfold ME
 refine bH (ej N hN hm hb) (bF (λh=>by rw[ot.2 hR]at h;exact nomatch h) λ_=>bH (sx N (cv hb.1.1 ω) ω _) (ok_eq (λh=>absurd h vl) λ_=>ag (PQ N ω hm hb.2.1 _) λa ha=>ag (aaX N ω hm hb.2.2.2.2.2.1.1 ha) λr hr=>aq ?_))
 have hs:=hr hR.o
 exact hR.MN (Iz hR.o hs) λx hx=>hR.ok x (hs.subset hx)
theorem ad5(N:Nat)(hN:200000≤N){l:aY}(hl:l.length≤50000)(a d:Int):Ok (λr=>r.length≤l.length∧ ∀x∈r,x∈l) (et N l a d):=by
 unfold et et.b
 refine bH (iU N ω hN) (bF (λ_=>aq ⟨bz _,λx hx=>nomatch hx⟩) λ_=>bs (len:=l.length) (F:=λn i s=>et.l5 N n l a d s i) (λi s=>s.length≤i∧ ∀x∈s,x∈l) ⟨aH 0,λx hx=>nomatch hx⟩ ω (λn i s hi hI hr=> ?_) (λn s hI=> ?_))
 all_goals unfold et.l5 et.eA
 ·obtain⟨hs,T4⟩:=hI
  have hx:l.getD (i:Int).toNat eF∈l:=qM hi
  have fin: ∀k:Nat,k≤s.length→Ok (λr=>r.length≤l.length∧ ∀x∈r,x∈l) (et.E9 N (et.l5 N n) l a d s (i:Int) (k:Int)):=λk hk=>by
   unfold et.E9 et.yr
   rw[aw (x:=(i:Int)+1) ω ω,af i]
   dsimp only
   have t: ∀a b:Nat,(List.drop a (List.take b s)).length≤s.length:=λa b=>by rw[eg,bZ];omega
   have t1:=t (0:Int).toNat (k:Int).toNat
   have t2:=t (k:Int).toNat (s.length:Int).toNat
   refine Df ⟨ω,ω,ω,ω⟩ (aD ω (aB ⟨ω,ω⟩ (aD (by rw[aK];omega) (Df ⟨ω,ω,ω,ω⟩ (aD (by rw[aS,aK];omega) (hr _ ⟨?_,λy hy=> ?_⟩))))))
   ·simp only[cM,aS,eg,bZ,aK,aI,dP];omega
   ·rcases bl.1 hy with hy|hy
    ·rcases bl.1 hy with hy|hy
     ·exact T4 y (lH (mQ hy))
     ·rw[cr.1 hy];exact hx
    ·exact T4 y (lH (mQ hy))
  have h1:=hr s ⟨ω,T4⟩
  have hw:Ok (λr=>r.length≤l.length∧ ∀x∈r,x∈l) (et.l9 N (et.l5 N n) N l a d s (i:Int) 0):=by
   refine mZ (len:=s.length) (F:=λn' j=>et.l9 N (et.l5 N n) n' l a d s (i:Int) j) ω (λn' j hj eQ=> ?_) (λn'=> ?_)
   all_goals unfold et.l9 et.vN
   ·rw[aw (x:=(j:Int)+1) ω ω,af j]
    have hah: ∀x y:fV,Ok (λ_=>True) (W3 N x y):=λx y=>by unfold W3;exact bG (λ_=>fH) λ_=>fH
    exact ax (λ_=>aB ⟨ω,ω⟩ (aB ⟨ω,ω⟩ (ag (hah _ _) λ_ _=>nL (λ_=>eQ) λ_=>fin j ω))) λ_=>ω
   ·exact ax (λ_=>ω) λ_=>fin _ (aH _)
  rw[aw (x:=(i:Int)+1) ω ω,af i]
  repeat' first|exact h1|exact hw|refine aB ⟨ω,ω⟩ ?_|refine ax (λ_=> ?_) (λ_=> ?_)|refine bG (λ_=> ?_) (λ_=> ?_)|(exfalso;omega)
 ·exact ax (λ_=>ω) λ_=>aq hI
def alx(x:fV)(q:Int):fV:=(x.1,(x.2.1,(x.2.2.1,(x.2.2.2.1,(q,x.2.2.2.2.2)))))
def leftOf(l:aY)(n:Int)(k:Nat)(x:fV):Prop:= ∃q:Int,x=alx (l.getD k eF) q∧n≤q∧q≤1000000000
theorem leftOf.mono{l:aY}{n n':Int}(h:n'≤n){k:Nat}{x:fV}(hx:leftOf l n k x):leftOf l n' k x:=by
 obtain⟨q,e,h1,h2⟩:=hx
 exact⟨q,e,gN h h1,h2⟩
abbrev Ve(l:aY)(o:fV)(r:aY×bf×Int×Int):Prop:=dn r.1=true∧(∀x∈r.1,∃y∈l,x.1=y.1∧x.2.1=y.2.1∧x.2.2.1=y.2.2.1)∧r.2.2.1≤o.2.2.2.2.1
theorem ad6{l s:aY}{n:Int}(hs:s.length=l.length)(h: ∀k,k<l.length→leftOf l n k (s.getD k eF))(hp:l.Pairwise K6):s.Pairwise K6:=by
 rw[vq]at hp ⊢
 intro i j hi hj qy
 have g: ∀k (hk:k<s.length),s[k].1=(l[k]' ω).1:=λk hk=>by
  obtain⟨q,e,_⟩:=h k ω
  rw[ji hk,ji (show k<l.length by omega)]at e
  rw[e];rfl
 unfold K6
 rw[g i hi,g j hj]
 exact hp i j ω ω qy
theorem aaY(N:Nat)(hN:200000≤N){l:aY}{o:fV}(hl:l.length≤50000)(hO:dn l=true)(ho:qT o):Ok (Ve l o) (cA N l o):=by
 unfold cA cA.b
 refine bH (iU N ω hN) (bF (λh=>by rw[hO]at h;exact nomatch h) λ_=>bH (BJ N o) (bF (λh=>absurd ho (of_decide_eq_false h)) λ_=>aD (by rw[cj];omega) (ag (ad5 N hN hl _ _) λw ⟨hwl,hwm⟩=> ?_)))
 obtain⟨h1,h2,h3⟩:=lz.1 hO
 rw[cM]
 have fin: ∀(n:Int) (s:aY) (q:Int) (t:bf),s.length=l.length→(∀k,k<l.length→leftOf l n k (s.getD k eF))→q≤o.2.2.2.2.1→Ok (Ve l o) (cA.j22 N s q t):=λn s q t hs Oa hq=>by
  unfold cA.j22 cA.adG
  refine bs (len:=s.length) (F:=λn i u=>cA.Nm N n s q t u i) (λi u=>u.Sublist (s.take i)∧ ∀x∈u,lF 0 x.2.2.2.2.1) ⟨Ga _,λx hx=>nomatch hx⟩ ω (λn i u hi hI hr=> ?_) (λn u hI=> ?_)
  all_goals obtain⟨i1,i2⟩:=hI
  all_goals have I6:=i1.length_le
  all_goals rw[bZ]at I6
  all_goals unfold cA.Nm cA.PU
  ·rw[aw (x:=(i:Int)+1) ω ω,af i,aI]
   obtain⟨q1,q2⟩:=IA (d:=eF) hi i1
   exact ax (λ_=>aB ⟨ω,ω⟩ (ax (λhq=>aB ⟨ω,ω⟩ (aD (by rw[aK];omega) (hr _ ⟨q2,λx hx=>by
    rcases bl.1 hx with hx|hx
    ·exact i2 x hx
    ·rw[cr.1 hx];exact hq⟩))) λ_=>hr u ⟨q1,i2⟩)) λ_=>ω
  ·rw[ij]at i1
   have at': ∀x∈s,∃y∈l,∃q:Int,x=alx y q∧q≤1000000000:=λx hx=>by
    obtain⟨k,hk,e⟩:=gE hx
    obtain⟨q,e',_,h⟩:=Oa k ω
    rw[ji hk,e]at e'
    exact⟨_,qM (d:=eF) (show k<l.length by omega),q,e',h⟩
   refine ax (λ_=>ω) λ_=>aq ⟨lz.2 ⟨λx hx=> ?_,(ad6 hs Oa h2).sublist i1,by have:=i1.length_le;dsimp only at*;omega⟩,λx hx=> ?_,hq⟩
   ·obtain⟨y,hy,q,e,hq⟩:=at' x (i1.subset hx)
    have h0:=i2 x hx
    have ok:=h1 y hy
    subst e
    exact⟨ok.1,ok.2.1,ok.2.2.1,ok.2.2.2.1,⟨show(1:Int)≤q from h0,hq⟩,ok.2.2.2.2.2⟩
   ·obtain⟨y,hy,q,e,_⟩:=at' x (i1.subset hx)
    exact⟨y,hy,by rw[e];rfl,by rw[e];rfl,by rw[e];rfl⟩
 refine bs (len:=w.length) (F:=λn i (s:aY×Int×bf)=>cA.l7 N n o s.1 s.2.1 s.2.2 w i) (s:=(_,(_,_))) (λi s=>(s.1.length=l.length∧ ∀k,k<l.length→leftOf l (-1000000000*(i:Int)) k (s.1.getD k eF))∧(0≤s.2.1∧s.2.1≤o.2.2.2.2.1)∧s.2.2.length≤i) ⟨⟨rfl,λk hk=>⟨(l.getD k eF).2.2.2.2.1,rfl,?_,?_⟩⟩,⟨?_,fR _⟩,bz _⟩ ω (λn i s hi hI hr=> ?_) (λn s hI=> ?_)
 ·have:=(h1 _ (qM (d:=eF) hk)).2.2.2.2.1.1
  exact gN δ this
 ·exact(h1 _ (qM (d:=eF) hk)).2.2.2.2.1.2
 ·exact gN δ ho.2.2.2.2.1.1
 all_goals unfold cA.l7 cA.oP
 ·obtain⟨⟨hs,Oa⟩,hq,ht⟩:=hI
  have hoq:o.2.2.2.2.1≤1000000000:=ho.2.2.2.2.1.2
  have f1:=fin _ s.1 s.2.1 s.2.2 hs Oa hq.2
  have hx:=h1 _ (hwm _ (qM (d:=eF) hi))
  have ali: ∀(v:Int) (t:iu),0≤v→v≤s.2.1→v≤1000000000→Ok (Ve l o) (cA.Dg N (cA.l7 N n) o s.1 s.2.1 s.2.2 w (i:Int) v t):=λv t v0 v1 v2=>by
   unfold cA.Dg cA.wZ
   have Wb:s.2.1≤1000000000:=gN hq.2 hoq
   rw[aw (x:=s.2.1-v) ω ω]
   refine aD (by rw[aK];omega) (bs (len:=s.1.length) (F:=λn' j u=>cA.I5 N (cA.l7 N n) n' o u (s.2.1-v) (s.2.2++[t]) w (i:Int) v j) (λj u=>u.length=l.length∧ ∀k,k<l.length→leftOf l (if k<j then-1000000000*((i:Int)+1)else-1000000000*(i:Int)) k (u.getD k eF)) ⟨hs,λk hk=>by rw[ah ω];exact Oa k hk⟩ ω (λn' j u hj hJ eQ=> ?_) (λn' u hJ=> ?_))
   all_goals obtain⟨I6,hum⟩:=hJ
   all_goals unfold cA.I5 cA.Fa
   ·rw[aw (x:=(j:Int)+1) ω ω,af j,aI,aI]
    have same: ∀k,k<l.length→k≠j→leftOf l (if k<j+1 then-1000000000*((i:Int)+1)else-1000000000*(i:Int)) k (u.getD k eF):=λk hk e=>by
     have:=hum k hk
     by_cases h:k<j
     ·rw[aj h]at this;rw[aj ω];exact this
     ·rw[ah h]at this;rw[ah ω];exact this
    have h0:=hum j ω
    rw[ah ω]at h0
    refine ax (λ_=>aB ⟨ω,ω⟩ (aB ⟨ω,ω⟩ (ok_eq (λ_=>aB ⟨ω,ω⟩ (aB ⟨ω,ω⟩ (eQ _ ⟨by rw[bN];exact I6,λk hk=> ?_⟩))) λ_=>eQ u ⟨I6,λk hk=> ?_⟩))) λ_=>ω
    ·by_cases e:k=j
     ·subst e
      rw[aj ω]
      obtain⟨q,e,q1,q2⟩:=h0
      have es: ∀y:fV,(u.set k y).getD k eF=y:=λy=>by
       rw[aV,F1 ω];rfl
      rw[es,e]
      unfold alx
      dsimp only
      rw[aw (x:=q-v) ω ω]
      exact⟨q-v,rfl,ω,ω⟩
     ·have es: ∀y:fV,(u.set j y).getD k eF=u.getD k eF:=λy=>by
       rw[aV,aV,List.getElem?_set_ne ω]
      rw[es];exact same k hk e
    ·by_cases e:k=j
     ·subst e
      rw[aj ω]
      exact h0.mono ω
     ·exact same k hk e
   ·rw[aw (x:=(i:Int)+1) ω ω,af i]
    exact ax (λ_=>ω) λ_=>hr (_,(_,_)) ⟨⟨I6,λk hk=>by
     have:=hum k hk
     rw[aj ω]at this
     rw[Int.natCast_add];exact this⟩,⟨by dsimp only;omega,by dsimp only;omega⟩,by dsimp only;rw[List.length_append,List.length_singleton];omega⟩
  have Fb:0<s.2.1→Ok (Ve l o) (cA.JJ N (cA.l7 N n) o s.1 s.2.1 s.2.2 w (i:Int)):=λN9=>by
   unfold cA.JJ cA.Dh
   rw[aw (x:=(i:Int)+1) ω ω,af i,aI]
   dsimp only
   have h1:=hr s ⟨⟨hs,λk hk=>(Oa k hk).mono ω⟩,hq,ω⟩
   have Wb:s.2.1≤1000000000:=gN hq.2 hoq
   have hm:0≤mn s.2.1 (w.getD i eF).2.2.2.2.1∧mn s.2.1 (w.getD i eF).2.2.2.2.1≤s.2.1:=by
    have h1:=hx.2.2.2.2.1.1
    generalize (w.getD i eF).2.2.2.2.1=q at*
    rw[X3];split<;>omega
   repeat' first|exact h1|exact ali _ _ hm.1 hm.2 (gN hm.2 Wb)|refine aB ⟨ω,ω⟩ ?_|refine ok_eq (λ_=> ?_) (λ_=> ?_)
  repeat' first|exact f1|exact Fb (by assumption)|refine aB ⟨ω,ω⟩ ?_|refine ax (λ_=> ?_) (λ_=> ?_)|refine ok_eq (λ_=> ?_) (λ_=> ?_)|(exfalso;omega)
 ·obtain⟨⟨hs,Oa⟩,hq,ht⟩:=hI
  exact ax (λ_=>ω) λ_=>fin _ _ _ _ hs Oa hq.2
theorem aaZ(N:Nat)(hN:5000000≤N){c:ae}{b:an}{o:fV}{m:Nat}(h2:200≤m)(hm:m≤40000)(hc:G m aA c)(hb:G m aJ b)(hR:RB c b)(ho:G 0 nn o):Ok (λr=>r.2.2.2=0→RB c r.1) (jT N c b o):=by
 have Cs:=hb.2.2.2.2.2.1.1
 have eo: ∀(t:bf) (e:Int),e≠0→Ok (λr:an×bf×Int×Int=>r.2.2.2=0→RB c r.1) (some ((cf,(cS,(bn,(bn,(dd,(dm,())))))),(t,((0:Int),e)))):=λt e h=>aq λh'=>absurd h' h
 obtain⟨g1,g2,g3⟩:=lz.1 hR.o
 unfold jT jT.b
 refine ag (Ca N hN h2 hm hc hb (G.mono (bz m) ho)) λe he=>bG (λh=>eo _ _ h) λe0=> ?_
 obtain⟨o1,o2,o3⟩:=he e0
 have oA:=(qq hR.a _).1 o2
 have Fb: ∀(r:aY) (t:bf) (q:Int),dn r=true→(∀x∈r,∃y∈b.2.2.2.2.2.1,x.1=y.1∧x.2.1=y.2.1∧x.2.2.1=y.2.2.1)→q≤o.2.2.2.2.1→(0<q→r.length≤31)→(∀y∈b.2.2.2.2.2.1,lF y.1 o.1)→Ok (λr=>r.2.2.2=0→RB c r.1) (jT.JJ N c b o (cf,(cS,(bn,(bn,(dd,(dm,())))))) r t q):=λr t q hr hrm hq JX eU=>by
  obtain⟨r1,r2,r3⟩:=lz.1 hr
  unfold jT.JJ jT.Dh
  refine ag (C1 N hN ω hb hR) λz hz=>bG (λh=>eo _ _ h) λz0=> ?_
  obtain⟨zR,_,za,_⟩:=hz z0
  have hk: ∀x∈r,Io c z.1.2.1 x:=λx hx=>by
   obtain⟨y,hy,_,e1,e2⟩:=hrm x hx
   have:=hR.ok y hy
   unfold Io at this ⊢
   rw[za,e1,e2];exact this
  refine ax (λh0=>aD (by rw[aK];omega) (aq λ_=>zR.MN (lz.2 ⟨λx hx=> ?_,?_,?_⟩) λx hx=> ?_)) λ_=>aq λ_=>zR.MN hr hk
  ·rcases bl.1 hx with hx|hx
   ·exact r1 x hx
   ·rw[cr.1 hx]
    exact⟨o1.1,o1.2.1,o1.2.2.1,o1.2.2.2.1,⟨h0,gN hq o1.2.2.2.2.1.2⟩,o1.2.2.2.2.2⟩
  ·rw[xc]
   refine⟨r2,FZ ..,λx hx y hy=> ?_⟩
   rw[cr.1 hy]
   obtain⟨u,hu,e,_⟩:=hrm x hx
   unfold K6
   rw[e];exact eU u hu
  ·rw[aS,aK];have:=JX h0;omega
  ·rcases bl.1 hx with hx|hx
   ·exact hk x hx
   ·rw[cr.1 hx]
    unfold Io
    rw[za];exact⟨oA,o3⟩
 have hj7:(∀y∈b.2.2.2.2.2.1,lF y.1 o.1)→Ok (λr=>r.2.2.2=0→RB c r.1) (jT.j7 N c b o (cf,(cS,(bn,(bn,(dd,(dm,()))))))):=λeU=>by
  unfold jT.j7 jT.XV
  refine ag (aaY N ω ω hR.o o1) λz ⟨z1,z2,z3⟩=> ?_
  have zl:=(lz.1 z1).2.2
  exact ax (λh0=>ok_eq (λ_=>eo _ _ δ) λkq=>Fb _ _ _ z1 z2 z3 (λ_=>ω) eU) λh0=>Fb _ _ _ z1 z2 z3 (λh=>ω) eU
 refine ax (λh0=> ?_) λh0=>hj7 λy hy=> ?_
 ·dsimp only
  refine aB (by rw[aw ω ω];omega) (eN (λ_=>eo _ _ δ) λaa0=>hj7 λy hy=> ?_)
  have e1:(W .i64 ((b.2.2.2.2.2.1.length:Int)-1)).toNat=b.2.2.2.2.2.1.length-1:=by rw[aw ω ω];omega
  rw[e1,ji ω]at aa0
  obtain⟨k,hk,e⟩:=gE hy
  by_cases h:k=b.2.2.2.2.2.1.length-1
  ·subst h;rw[←e];exact aa0
  ·have:=vq.1 g2 k (b.2.2.2.2.2.1.length-1) hk ω ω
   rw[e]at this
   exact Dp this aa0
 ·have:=List.length_pos_of_mem hy
  omega
end VM
end
