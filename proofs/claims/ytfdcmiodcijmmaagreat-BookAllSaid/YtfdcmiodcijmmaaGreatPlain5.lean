/- A part of the proof of BookAll of layer 18: what the functions compute, in plain words. -/
import Derived.Test.YtfdcmiodcijmmaaGreatPlain4
set_option linter.all false
open List renaming getD→γ
noncomputable section
section
namespace VM
open Go VM.F Go.RowKit
def rD(c:aj):ak:=if c.2.1=0 then []else [((1:Int),((0:Int),((W .i64 (0-c.2.1)),()))),((3:Int),((0:Int),(c.2.1,())))]
def wy(c:aj):ar×Int:=
 if eF c then((([]:aW),(([]:bl),(rD c,(([]:ak),(c.1.map (λx:jH=>(x.2.1:Int)),(([]:bx),())))))),0)else((fP,(fQ,(cj,(cj,(eH,(fv,())))))),1)
theorem E7(N:Nat){l:bl}(hl:l.length≤100000)(hN:200000≤N)(x2:ar)(r:ak):
  pC.l7 N N x2 (([]:aW),(([]:bl),(r,(([]:ak),(eH,(([]:bx),())))))) [] l (l.length:Int) 0=some ((([]:aW),(([]:bl),(r,(([]:ak),(l.map (λx:jH=>(x.2.1:Int)),(([]:bx),())))))),(0:Int)):=by
 have:=hZ l bQ (λn i s=>pC.l7 N n x2 (([]:aW),(([]:bl),(r,(([]:ak),(eH,(([]:bx),())))))) s l (l.length:Int) i)
  (λt s=>some ((([]:aW),(([]:bl),(r,(([]:ak),(s++t.map (λx:jH=>(x.2.1:Int)),(([]:bx),())))))),(0:Int))) (λi (s:List Int)=>s.length≤i) (λn i s hi hI hr=> ?_) (λn s hI=> ?_) l.length N 0 [] ω ω ω (aB _)
 ·rw[bY,c7]at this
  exact this
 ·unfold pC.l7 pC.pA
  rw[az ω,aa,aE ω ω,aa,aw,bo (by rw[aQ];omega),aa,ay (x:=(i:Int)+1) ω ω,ah i]
  refine Eq.trans (hr (s++[(l.getD i bQ).2.1]) (by rw[aC,aQ];omega)) ?_
  rw[aT];rfl
 ·unfold pC.l7 pC.pA
  rw[av ω,an,eL,bF]
theorem MC(N:Nat)(hN:200000≤N)(c:aj)(hl:c.1.length≤100000):pC N c=some (wy c):=by
 unfold pC pC.b wy pC.j6 pC.LC
 rw[xc N ω,ag,cond_not,cond_not,au]
 cases eF c with
 |false=>rfl
 |true=>
  rw[aa,ae rfl]
  unfold rD
  by_cases h0:c.2.1=0
  ·rw[ae h0,ae h0];exact E7 N hl hN _ _
  ·rw[af h0,af h0];exact E7 N hl hN _ _
theorem Bu(N:Nat){c:aj}(hl:c.1.length≤100000)(hN:200000≤N)(x2:ar)(r:ak):
  pL.l7 N N c x2 (([]:aW),(([]:bl),(r,(([]:ak),(eH,(([]:bx),())))))) [] 0=some ((([]:aW),(([]:bl),(r,(([]:ak),(c.1.map (λx:jH=>(x.2.1:Int)),(([]:bx),())))))),(0:Int)):=by
 have:=hZ c.1 bQ (λn i s=>pL.l7 N n c x2 (([]:aW),(([]:bl),(r,(([]:ak),(eH,(([]:bx),())))))) s i)
  (λt s=>some ((([]:aW),(([]:bl),(r,(([]:ak),(s++t.map (λx:jH=>(x.2.1:Int)),(([]:bx),())))))),(0:Int))) (λi (s:List Int)=>s.length≤i) (λn i s hi hI hr=> ?_) (λn s hI=> ?_) c.1.length N 0 [] ω ω ω (aB _)
 ·rw[bY,c7]at this
  exact this
 ·unfold pL.l7 pL.pA
  rw[az ω,aa,aE ω ω,aa,aw,bo (by rw[aQ];omega),aa,ay (x:=(i:Int)+1) ω ω,ah i]
  refine Eq.trans (hr (s++[(c.1.getD i bQ).2.1]) (by rw[aC,aQ];omega)) ?_
  rw[aT];rfl
 ·unfold pL.l7 pL.pA
  rw[av ω,an,eL,bF]
theorem Pj(N:Nat)(hN:200000≤N)(c:aj)(hl:c.1.length≤100000):pL N c=some (wy c):=by
 unfold pL pL.b wy pL.j6 pL.LC
 rw[tV N ω,ag,cond_not,cond_not,au]
 cases eF c with
 |false=>rfl
 |true=>
  rw[aa,ae rfl]
  unfold rD
  by_cases h0:c.2.1=0
  ·rw[ae h0,ae h0];exact Bu N hl hN _ _
  ·rw[af h0,af h0];exact Bu N hl hN _ _
theorem J7(c:aj)(hl:c.1.length≤100000):Bd (wy c).1:=by
 unfold wy
 split
 ·refine⟨c8 _,c8 _,?_,c8 _,?_,c8 _⟩
  ·show(rD c).length≤100000
   unfold rD
   split
   ·exact c8 _
   ·show 2≤100000;decide
  ·show(c.1.map _).length≤100000
   rw[bI];exact hl
 ·exact mg
theorem E8(N:Nat){E:ak}(hq:wP E)(hl:E.length≤100000)(hN:4000000≤N):lx N (E.map eu) (E.map ew)=some true:=by
 unfold lx lx.b
 rw[bI,bI,bP,aN,an]
 refine jd (F:=λn i=>lx.l4 N n (E.map eu) (E.map ew) i) (len:=E.length) (λn i hi hr=> ?_) (λn=> ?_) E.length N 0 ω ω ω
 ·unfold lx.l4 lx.de
  rw[bI,bI,az ω,aa,aE ω ω,aa,aa,aw,xg,ED hi]
  have JM:=xh hq i
  unfold eu ew
  dsimp only
  rw[bP,bP,aN,an,aa,aa,an,aa,aa,EU N hN JM,ag,aN,an,ay (x:=(i:Int)+1) ω ω,ah i]
  exact hr
 ·unfold lx.l4 lx.de
  rw[bI,av ω,an]
theorem zF{c:aj}{b:ar}(w:ib b)(i p:Int):Bd (ey c b i p).1:=by
 unfold ey
 repeat' split
 all_goals first|exact mg|skip
 have h:=wc w [] (dL i (p-b.2.2.2.2.1.getD i.toNat 0) b.2.2.2.1)
 refine⟨h.m,h.a,h.r,h.s,?_,h.o⟩
 show(List.set b.2.2.2.2.1 i.toNat p).length≤100000
 rw[cz];exact w.p
theorem Hi{c:aj}{b:ar}(w:ib b)(m:Int):Bd (nU c b m).1:=by
 unfold nU
 repeat' split
 all_goals first|exact mg|skip
 refine⟨w.m,w.a,w.r,w.s,w.p,?_⟩
 show(zD b.2.2.2.2.2.1 (nH b.2.1 m)).length≤100000
 unfold zD
 split
 ·exact iC (E5 _ _) w.o
 ·exact c8 _
theorem Tf{c:aj}{b:ar}(w:ib b)(hl:b.2.2.2.1.length≤400)(i p:Int):wP (ey c b i p).2.1∧(ey c b i p).2.1.length≤400:=by
 have hn:wP ([]:ak)∧([]:ak).length≤400:=⟨λx hx=>(nomatch hx),δ⟩
 unfold ey
 split
 ·rename_i hB
  split
  ·rename_i hp
   split
   ·rename_i hi
    have BQ:=iy hB
    have tz:i.toNat<b.2.2.2.2.1.length:=by rw[BQ.1];omega
    have HS:=sF hB w.qs hl (i:=i) hi (sG BQ.2 tz hp)
    split
    ·exact⟨HS.q,HS.len⟩
    ·exact hn
   ·exact hn
  ·exact hn
 ·exact hn
theorem MD(N:Nat)(hN:5000000≤N)(c:aj){b:ar}(w:lU b)(hs:b.2.2.2.1.length≤400){l:e8}(hl:l.length≤100000)(inst acc m p:Int):Xw N c b l inst acc m p=some true:=by
 unfold Xw
 have s1:=Co (c:=c) w.w l
 have s2:=zF (c:=c) w.w inst p
 have s3:=Hi (c:=c) w.w m
 have q:=Tf (c:=c) w.w hs inst p
 rw[Bl N ω c w hl,ag,G2 N hN c w hl,ag,Iw N ω c w hs,ag,Mw N hN c w hs,ag,Cw N ω c w.w,ag,MB N hN c w.w,ag,E6 N ω c w.w,ag,J6 N hN c w.w,ag]
 dsimp only
 rw[bP,bP,bP,bP,aa,aa,aa,aa,uj N ω s1.m s1.a s1.r s1.s s1.p s1.o,ag,aa,uj N ω s2.m s2.a s2.r s2.s s2.p s2.o,ag,aa,E8 N q.1 ω ω,ag,aa,EU N ω (Ph w.w acc),ag,aa,uj N ω s3.m s3.a s3.r s3.s s3.p s3.o,ag,aa,rq N ω w.w,ag,qH N hN w.w,ag,kF,s4]
def bC:aj:=([((0:Int),((100:Int),((2:Int),((0:Int),()))))],((5:Int),((0:Int),((0:Int),((0:Int),((1:Int),((0:Int),())))))))
def bR:ak:=[((1:Int),((0:Int),((-5:Int),()))),((3:Int),((0:Int),((5:Int),())))]
def bB:ar:=([((1:Int),((1:Int),()))],([((1:Int),((1:Int),((1:Int),((0:Int),())))),((2:Int),((1:Int),((2:Int),((0:Int),()))))],(bR,(([]:ak),([(100:Int)],([((1:Int),((2:Int),((0:Int),((1:Int),((4:Int),((1:Int),()))))))],()))))))
def bT:e8:=[((1:Int),((2:Int),((0:Int),((5:Int),((90:Int),())))))]
theorem bW:lU bB:=⟨⟨δ,δ,δ,δ,δ,δ,Ci (l:=bR) δ,λx hx=>(nomatch hx)⟩,δ,δ⟩
def bX:ar:=([((1:Int),((1:Int),()))],([((1:Int),((1:Int),((1:Int),((0:Int),())))),((2:Int),((1:Int),((2:Int),((0:Int),()))))],([((1:Int),((0:Int),((-5:Int),()))),((3:Int),((0:Int),((5:Int),()))),((5:Int),((1:Int),((50:Int),()))),((5:Int),((2:Int),((-50:Int),())))],([((1:Int),((0:Int),((5:Int),()))),((2:Int),((0:Int),((-5:Int),())))],([(100:Int)],([((1:Int),((2:Int),((0:Int),((1:Int),((4:Int),((1:Int),()))))))],()))))))
theorem bTr:mS bC bB bT=(bX,0):=κ
theorem Xx:lU bX:=⟨⟨δ,δ,δ,δ,δ,δ,Ci (l:=bX.2.2.1) δ,Ci (l:=bX.2.2.2.1) δ⟩,δ,δ⟩
theorem abF:wy bC=((([]:aW),(([]:bl),(bR,(([]:ak),([(100:Int)],(([]:bx),())))))),0):=by
 unfold wy rD
 rw[ae κ,af δ,ay δ δ];rfl
theorem abG:(ey bC bX 0 110).2.2=0:=κ
theorem abH:(ey bC bX 0 110).2.1.length=2:=κ
theorem abI:rX (ey bC bX 0 110).1.2.2.1 5 1=100:=κ
theorem abJ:(ey bC bX 0 110).1.2.2.2.2.1=[110]:=κ
theorem bNd:j2 bC bX 2=(10,0):=κ
theorem abK:(j2 bC bB 9).2=3:=κ
theorem abL:(nU bC bB 1).2=0:=κ
theorem bDr:(nU bC bB 1).1.2.2.2.2.2.1=[]:=κ
theorem bHd:pc bX.2.2.2.1 1 0=5:=κ
theorem bGt:rX bX.2.2.1 5 1=50:=κ
theorem bOk:cD bC bB=true:=κ
theorem bWn:(bp 10).2.1=10:=κ
theorem J8(N:Nat)(hN:5000000≤N):Xy N=some true:=by
 unfold Xy F92
 rw[ag]
 show(pC N bC).bind _=_
 rw[MC N ω bC δ,ag,abF]
 show(nT N bC bB bT).bind _=_
 rw[Bl N ω bC bW δ,ag,bTr]
 show(VF N bC bX 0 110).bind _=_
 have sh:=zF (c:=bC) Xx.w 0 110
 rw[Iw N ω bC Xx δ,ag]
 show(Rr N bC bX 2).bind _=_
 rw[Cw N ω bC Xx.w,ag]
 show(VG N bC bB 1).bind _=_
 rw[E6 N ω bC bW.w,ag]
 show(Rr N bC bB 9).bind _=_
 rw[Cw N ω bC bW.w,ag]
 dsimp only
 show cond (bf 0 0) ((vf N bR bR).bind λr8=>cond r8 ((vg N [100] [100]).bind λr9=>cond r9 (cond (bf 0 0) ((we N bX.2.2.2.1 1 0).bind λzX=>cond (bf zX 5) ((uC N bX.2.2.1 5 1).bind λBn=>cond (bf Bn 50) (cond (bf (ey bC bX 0 110).2.2 0) (cond (bf (((ey bC bX 0 110).2.1.map eu).length:Int) 2) ((uC N (ey bC bX 0 110).1.2.2.1 5 1).bind λAx=>cond (bf Ax 100) (cond (bf ((ey bC bX 0 110).1.2.2.2.2.1.length:Int) 1) (cond (bJ 0 (ey bC bX 0 110).1.2.2.2.2.1.length) (cond (bf (γ (ey bC bX 0 110).1.2.2.2.2.1 (0:Int).toNat 0) 110) (cond (bf (j2 bC bX 2).2 0) (cond (bf (bp (j2 bC bX 2).1).2.1 10) (cond (bf (nU bC bB 1).2 0) (cond (bf ((nU bC bB 1).1.2.2.2.2.2.1.length:Int) 0) (cond (bf (j2 bC bB 9).2 3) ((gL N bC bB).bind λsN=>some sN) (some false)) (some false)) (some false)) (some false)) (some false)) (some false)) none) (some false)) (some false)) (some false)) (some false)) (some false)) (some false)) (some false)) (some false)) (some false)) (some false)=some true
 have l1:(1:Int)=(([(110:Int)]:List Int).length:Int):=rfl
 rw[bP,aa,EJ N δ ω,ag,aa,EK N δ ω,ag,aa,aa,OS N Xx.w.s ω,ag,bHd,bP,aa,Ma N Xx.w.r ω,ag,bGt,bP,aa,abG,bP,aa,bI,abH,dS (x:=((2:Nat):Int)) (y:=2) rfl,aa,Ma N sh.r ω,ag,abI,bP,aa,abJ,
  dS (x:=(([(110:Int)]:List Int).length:Int)) (y:=1) rfl,aa,aE (i:=0) (n:=([(110:Int)]:List Int).length) ω δ,aa,show γ [(110:Int)] (0:Int).toNat 0=110 from rfl,bP,aa,bNd,bP,aa,bWn,bP,aa,abL,bP,aa,bDr,dS (x:=((([]:bx).length:Nat):Int)) (y:=0) rfl,aa,abK,bP,aa,rq N ω bW.w,ag,bOk]
def vm(c:aj)(b:ar):Prop:=c.1.length≤10∧b.1.length≤16∧b.2.1.length≤30∧b.2.2.1.length≤60∧b.2.2.2.1.length≤60∧b.2.2.2.2.1.length≤10∧b.2.2.2.2.2.1.length≤40
instance(c:aj)(b:ar):Decidable (vm c b):=by unfold vm;infer_instance
theorem ME(N:Nat)(c:aj)(b:ar):Xz N c b=some (decide (vm c b)):=by
 unfold Xz
 rw[aX,aX,aX,aX,aX,aX,jl]
 unfold vm
 repeat' split
 ·refine cN some (lK.2 (Iff.intro (λh=> ?_) (λh=> ?_)))
  ·refine⟨?_,?_,?_,?_,?_,?_,?_⟩<;>omega
  ·have:=h.2.2.2.2.2.2
   omega
 all_goals exact cN some (aP ω).symm
namespace Pure
theorem Pk(c:aj)(b:ar)(l:e8)(inst acc m p:Int)(hw:WV [aY,bE,.slice J9,.int .i64,.int .i64,.int .i64,.int .i64] (c,b,l,inst,acc,m,p)): ∃N,F7 N c b l inst acc m p=some true:=by
 refine⟨6000000,?_⟩
 obtain⟨h1,h2,_⟩:=hw
 have h2:WF bE b:=h2
 have hr:c3 b.2.2.1:=Mb h2.2.2.1
 have hs:c3 b.2.2.2.1:=Mb h2.2.2.2.1
 unfold F7
 rw[J8 6000000 ω,ag,aN,an,ME,ag,bb]
 by_cases hl:vm c b
 ·rw[aD hl,aN,an]
  unfold vm at hl
  by_cases hn:(30:Int)<(l.length:Int)
  ·rw[ae hn]
  ·have sh:=J7 c ω
   rw[af hn,MC _ ω c ω,ag,Pj _ ω c ω,ag,bP,aa,uj _ ω sh.m sh.a sh.r sh.s sh.p sh.o,ag,aa,
    MD 6000000 ω c ⟨⟨ω,ω,ω,ω,ω,ω,hr,hs⟩,ω,ω⟩ ω ω,ag]
 ·rw[aP hl];rfl
end Pure
end VM
end
