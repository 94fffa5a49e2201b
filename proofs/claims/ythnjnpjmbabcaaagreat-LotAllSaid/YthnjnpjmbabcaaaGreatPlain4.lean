/- A part of the proof of LotAll of layer 23: what the functions compute, in plain words. -/
import Derived.Test.YthnjnpjmbabcaaaGreatPlain3
import Derived.Test.YthnjnpjmbabcaaaGreatPlain2
set_option linter.all false
section
namespace VM
open Go VM.F Go.RowKit
variable(N:Nat)
theorem EL(hN:5000000≤N)(K8:cw.eM)(FQ:cw.qP)(next:Int)(c:ak)(all:aw)(out:aA)(b:Int){own:aw}(hl:own.length≤1000)(hq: ∀y∈own,LQ y){n:Nat}(hn:n≤3){k:Nat}(hk:k<n)(Gi: -1000≤next∧next≤1099511628000)(ho:out.length≤1000):
  cw.AB N K8 FQ N next c all out b own (n:Int) (k:Int) (next,(c5,((0:Int),((1:Int),bE)))) c5 0=
   if cC own n k=[]then FQ next c all out b own (n:Int) (W .i64 ((k:Int)+1))else if(q7 (-(dA c (cC own n k)))).2=true then
    FQ (next+1) c all (out++[(next,(cC own n k,((q7 (-(dA c (cC own n k)))).1,(1,(0,(0,()))))))]) b own (n:Int) (W .i64 ((k:Int)+1))else some ([],2):=by
 have Hy:=FM hq hn k
 have Gh:=nw own n k
 have:=n0 own bE (λm i s=>cw.AB N K8 FQ m next c all out b own (n:Int) (k:Int) (next,(c5,((0:Int),((1:Int),bE)))) s i) (λ_ _=>if cC own n k=[]then FQ next c all out b own (n:Int) (W .i64 ((k:Int)+1))else if(q7 (-(dA c (cC own n k)))).2=true then
    FQ (next+1) c all (out++[(next,(cC own n k,((q7 (-(dA c (cC own n k)))).1,(1,(0,(0,()))))))]) b own (n:Int) (W .i64 ((k:Int)+1))else some ([],2)) (λi s=>s=cC (own.take i) n k) (λm i s hi hI hr=> ?_) (λm s hI=> ?_) own.length N 0 c5 ω ω ω rfl
 ·exact this
 ·have hx:own.getD i bE∈own:=by rw[aY,ba hi];exact dB hi
  have hy:=hq _ hx
  have uP:=hy.2.1
  have Iv:=hy.2.2
  unfold cA at uP
  have FP:=yp (l:=own) hi n k
  have Xr:s.length≤1000:=by
   have h1:=nw (own.take i) n k
   rw[a7]at h1
   rw[hI];omega
  obtain⟨e1,e2,e3⟩:=EI hy.2.1 Iv hn
  have ha:=AX hy.2.1 Iv hn k
  have Hh:ze (own.getD i bE).2.1 n k=if(own.getD i bE).2.1<0 then-((dX ((own.getD i bE).2.1.natAbs:Int) n).1.getD k 0)else(dX ((own.getD i bE).2.1.natAbs:Int) n).1.getD k 0:=rfl
  have Uo: ∀(cut:List Int),cut.length=n→cut.getD k 0=ze (own.getD i bE).2.1 n k→cw.WX N K8 FQ (cw.AB N K8 FQ m) next c all out b own (n:Int) (k:Int) (next,(c5,((0:Int),((1:Int),bE)))) s (i:Int) cut=if cC own n k=[]then FQ next c all out b own (n:Int) (W .i64 ((k:Int)+1))else if(q7 (-(dA c (cC own n k)))).2=true then
    FQ (next+1) c all (out++[(next,(cC own n k,((q7 (-(dA c (cC own n k)))).1,(1,(0,(0,()))))))]) b own (n:Int) (W .i64 ((k:Int)+1))else some ([],2):=λcut rq Lb=>by
   unfold cw.WX cw.P8
   rw[aB ω ω,aa,ar,Lb,cond_not,ax (x:=(i:Int)+1) ω ω,an i]
   by_cases h0:ze (own.getD i bE).2.1 n k=0
   ·have e:gZ n k (own.getD i bE)=none:=by unfold gZ;rw[ae h0]
    rw[e]at FP
    rw[bD h0,aa]
    exact hr s (by rw[FP,hI];simp)
   ·have e:gZ n k (own.getD i bE)=some ((own.getD i bE).1,(ze (own.getD i bE).2.1 n k,())):=by unfold gZ;rw[af h0]
    rw[e]at FP
    rw[bI h0,ah,aB ω ω,aa,aa,bp (by rw[a6];omega),aa,ar]
    exact hr _ (by rw[FP,hI];rfl)
  have GR: ∀q:Int,q=((own.getD i bE).2.1.natAbs:Int)→cw.J0 N K8 FQ (cw.AB N K8 FQ m) next c all out b own (n:Int) (k:Int) (next,(c5,((0:Int),((1:Int),bE)))) s (i:Int) q=if cC own n k=[]then FQ next c all out b own (n:Int) (W .i64 ((k:Int)+1))else if(q7 (-(dA c (cC own n k)))).2=true then
    FQ (next+1) c all (out++[(next,(cC own n k,((q7 (-(dA c (cC own n k)))).1,(1,(0,(0,()))))))]) b own (n:Int) (W .i64 ((k:Int)+1))else some ([],2):=λq uz=>by
   have hb:((own.getD i bE).2.1.natAbs:Int)<9223372036854775808:=by
    have g: ∀x:Int,-9223372036854775808≤x→x<9223372036854775808→q9 x→(x.natAbs:Int)<9223372036854775808:=λx h1 h2 h3=>by unfold q9 at h3;omega
    exact g _ uP.1 uP.2 Iv
   unfold cw.J0 cw.EJ
   rw[uz,JW N hN hb,al,aB ω ω,aa,ar]
   by_cases h:(own.getD i bE).2.1<0
   ·rw[ae h]at Hh
    rw[au h,aa,aB ω ω,aa,aa,ar,ax (x:=0-(dX ((own.getD i bE).2.1.natAbs:Int) n).1.getD k 0) ω ω]
    refine Uo _ (by rw[aT];exact e1) ?_
    rw[Hh,aY,List.getElem?_set_self ω,oV];exact Int.zero_sub _
   ·rw[af h]at Hh
    rw[aq (Int.not_lt.1 h),ah]
    exact Uo _ e1 Hh.symm
  unfold cw.AB cw.CB
  rw[au ω,aa,aB ω ω,aa,ar]
  by_cases h:(own.getD i bE).2.1<0
  ·have g: ∀x:Int,-9223372036854775808≤x→x<0→q9 x→W .i64 (0-x)=(x.natAbs:Int):=λx h1 h2 h3=>by unfold q9 at h3;rw[ax ω ω];omega
   rw[au h,aa]
   exact GR _ (g _ uP.1 h Iv)
  ·have g: ∀x:Int,¬x<0→x=(x.natAbs:Int):=λx h=>ω
   rw[aq (Int.not_lt.1 h),ah]
   exact GR _ (g _ h)
 ·rw[fR]at hI
  subst hI
  unfold cw.AB cw.CB
  rw[aq ω,ah,ax (x:=(k:Int)+1) ω ω]
  by_cases qx:cC own n k=[]
  ·rw[ae qx,bD (by rw[qx];rfl),aa]
  ·have Yp:((cC own n k).length:Int)≠0:=λh=>qx (ij ω)
   obtain⟨g1,g2,g3⟩:=Dh (rj (c:=c) Hy)
   rw[af qx,bI Yp,ah,JQ N ω c ω Hy,al,qd N ω (s3 g1),al,xK,al,cond_not]
   by_cases hi:(q7 (-(dA c (cC own n k)))).2=true
   ·rw[ae hi,hi,aa,bp (by rw[a6];omega),aa,ax (x:=next+1) ω ω]
   ·rw[af hi,fQ _ |>.mp hi,ah]
theorem Dj(hN:5000000≤N)(K8:cw.eM){next:Int}(WB:1≤next∧next≤1099511627764)(c:ak)(all:aw)(b:Int){own:aw}(hl:own.length≤1000)(hq: ∀y∈own,LQ y){n:Nat}(hn:n≤3){out:aA}(ho:out.length≤100):
  cw.HI N K8 N (next+(out.length:Int)) c all out b own (n:Int) 0=match lI c next ((List.range n).map (cC own n)) out with
   |some o=>K8 (next+(o.length:Int)) c all o (W .i64 (b+1))
   |none=>some ([],2):=by
 have hlen:((List.range n).map (cC own n)).length=n:=by simp
 have:=n0 ((List.range n).map (cC own n)) c5 (λm j s=>cw.HI N K8 m (next+(s.length:Int)) c all s b own (n:Int) j) (λt s=>match lI c next t s with
   |some o=>K8 (next+(o.length:Int)) c all o (W .i64 (b+1))
   |none=>some ([],2)) (λj s=>s.length≤100+j) (λm j s hj hI hr=> ?_) (λm s hI=> ?_) n N 0 out ω ω ω ω
 ·exact this
 ·rw[hlen]at hj
  rw[ym _ _ hj,oj]
  unfold cw.HI cw.MC
  rw[au ω,aa]
  refine(EL N hN K8 (cw.HI N K8 m) (next+(s.length:Int)) c all s b hl hq hn hj ω ω).trans ?_
  rw[ax (x:=(j:Int)+1) ω ω,an j]
  by_cases qx:cC own n j=[]
  ·rw[ae qx,ae qx]
   exact hr s ω
  ·rw[af qx,af qx]
   by_cases hi:(q7 (-(dA c (cC own n j)))).2=true
   ·rw[ae hi,ae hi]
    have:=hr (s++[(next+(s.length:Int),(cC own n j,((q7 (-(dA c (cC own n j)))).1,(1,(0,(0,()))))))]) (by rw[aO,a6];omega)
    rw[aO,a6,oY,←Int.add_assoc]at this
    exact this
   ·rw[af hi,af hi]
 ·rw[hlen]
  unfold cw.HI cw.MC
  rw[aq ω,ah]
  rfl
theorem AZ(hN:5000000≤N)(K8:cw.eM)(x2:Int){c:ak}(hc:cA c.2.2.2.2.2.1){all:aw}(hl:all.length≤1000)(hq: ∀y∈all,LQ y∧0≤(y.1:Int)∧(y.1:Int)<(c.1.length:Int))(out:aA)(k:Nat):
  cw.wi N K8 N x2 c all out (k:Int) c5 (bz 0) 0=cw.HI N K8 N x2 c all out (k:Int) (aL c all k) (iL (c9 (aL c all k)) c.2.2.2.2.2.1) 0:=by
 have:=n0 all bE (λm i (s:aw×ay)=>cw.wi N K8 m x2 c all out (k:Int) s.1 s.2 i) (λ_ _=>cw.HI N K8 N x2 c all out (k:Int) (aL c all k) (iL (c9 (aL c all k)) c.2.2.2.2.2.1) 0)
  (λi s=>s=(aL c (all.take i) k,bz (c9 (aL c (all.take i) k)))) (λm i s hi hI hr=> ?_) (λm s hI=> ?_) all.length N 0 (c5,bz 0) ω ω ω rfl
 ·exact this
 ·have hx:all.getD i bE∈all:=by rw[aY,ba hi];exact dB hi
  obtain⟨hy,qx,WW⟩:=hq _ hx
  have uP:=hy.2.1
  unfold cA at uP
  have hb:((all.getD i bE).2.1.natAbs:Int)<9223372036854775808:=by
   have g: ∀x:Int,-9223372036854775808≤x→x<9223372036854775808→q9 x→(x.natAbs:Int)<9223372036854775808:=λx h1 h2 h3=>by unfold q9 at h3;omega
   exact g _ uP.1 uP.2 hy.2.2
  have hlen:=ga c (all.take i) k
  rw[a7]at hlen
  have hg:=qj (l:=aL c (all.take i) k) λy hy=>(hq y (il (iM hy))).1
  have FP:=qO (c:=c) hi k
  subst hI
  generalize aL c (all.take i) k=own at*
  have BS:=Fit.i64 uP.1 uP.2
  unfold cw.wi cw.tY
  dsimp only
  rw[au ω,aa,aB ω ω,aa,ar,aB qx WW,aa,ax (x:=(i:Int)+1) ω ω,an i]
  change cond (bq (nv c (all.getD i bE)) (k:Int)) _ _=_
  by_cases h:nv c (all.getD i bE)=(k:Int)
  ·rw[ae h]at FP
   rw[bD h,aa,aa,bp (by rw[a6];omega),aa,aa,eJ N ω uP.1 uP.2,al,CL N ω (BS.mono ω),al,iE N ω (s3 (by unfold cB;omega)) (s3 (by unfold cB;omega)),al]
   refine hr (own++[all.getD i bE],bz (c9 own+((all.getD i bE).2.1.natAbs:Int))) ?_
   rw[FP,yr]
  ·rw[af h,cy]at FP
   rw[bI h,ah]
   refine hr (own,bz (c9 own)) ?_
   rw[FP]
 ·have hlen:=ga c all k
  have hg:=qj (l:=aL c all k) λy hy=>(hq y (iM hy)).1
  rw[fR]at hI
  subst hI
  unfold cw.wi cw.tY
  dsimp only
  rw[aq ω,ah,EH N ω (s3 (by unfold cB;omega)) hc,al]
theorem Hm(hN:5000000≤N){next:Int}(hn:1≤next∧next≤1099511627764){c:ak}(hc:cA c.2.2.2.2.2.1){all:aw}(hl:all.length≤1000)(hq: ∀y∈all,LQ y∧0≤(y.1:Int)∧(y.1:Int)<(c.1.length:Int)):
  cw.l8 N N next c all [] 0=some (zW c all next):=by
 have:=n0 (List.range 4) 0 (λm i (s:aA)=>cw.l8 N m (next+(s.length:Int)) c all s i) (λt s=>match qN c next all t s with
   |some o=>some (o,(0:Int))
   |none=>some ([],2)) (λi s=>s.length≤3*i) (λm i s hi hI hr=> ?_) (λm s hI=> ?_) 4 N 0 [] (by rw[ji];omega) ω ω (by rw[bM];omega)
 ·rw[show((0:Nat):Int)=0 from rfl,bX,bM,show next+((0:Nat):Int)=next from o7 _]at this
  rw[this]
  unfold zW
  cases qN c next all (List.range 4) []<;>rfl
 ·have Xs:i<4:=by rw[ji]at hi;exact hi
  have e:(List.range 4).getD i 0=i:=by rw[aY,ba hi];simp
  have MB: ∀y∈aL c all i,LQ y:=λy hy=>(hq y (iM hy)).1
  have oB:=ga c all i
  have hS:=mE (c9 (aL c all i)) c.2.2.2.2.2.1
  have hp:gl c (aL c all i)≤3:=by unfold gl;omega
  have WE:iL (c9 (aL c all i)) c.2.2.2.2.2.1=((gl c (aL c all i):Nat):Int):=by unfold gl;omega
  rw[e,rl]
  unfold cw.l8 cw.G2
  rw[au ω,aa]
  have hz:(((false,(([]:List Int),())):ay))=bz 0:=eP.symm
  rw[hz]
  refine(AZ N hN (cw.l8 N m) (next+(s.length:Int)) hc hl hq s i).trans ?_
  have e2:(List.range (gl c (aL c all i))).map (cC (aL c all i) (gl c (aL c all i)))=ew c (aL c all i):=rfl
  rw[WE,Dj N hN _ hn c all _ ω MB hp ω,e2,ax (x:=(i:Int)+1) ω ω,an i]
  have e3:(ew c (aL c all i)).length≤3:=by unfold ew;simp;exact hp
  cases hL:lI c next (ew c (aL c all i)) s with
  |none=>rfl
  |some o=>
   have:=nx hL
   exact hr o ω
 ·unfold cw.l8 cw.G2
  rw[aq (by rw[ji];omega),ah]
  rfl
def kG(c:ak)(b:bf)(next:Int):aA×Int:=
 if iZ c b=true then if next<1∨1099511627764<next then([],1)else if posOf b.2.2.2.1 0=[]then([],3)else zW c (posOf b.2.2.2.1 0) next else([],1)
theorem A0{c:ak}{b:bf}(w:oe b)(hB:iZ c b=true):(posOf b.2.2.2.1 0).length≤6∧ ∀y∈posOf b.2.2.2.1 0,LQ y∧0≤(y.1:Int)∧(y.1:Int)<(c.1.length:Int):=by
 have hL:=J7 (J6.1 hB) 0
 have sZ:=JP w.qs 0
 have hg:=tW hL sZ
 refine⟨hg.len,λy hy=> ?_⟩
 have hp:=(wb hL sZ y hy).place
 have h1:=hg.inst y hy
 unfold FE at h1
 unfold s6 at hp
 exact⟨⟨by unfold cA;omega,hg.q y hy⟩,hp⟩
theorem rm(hN:5000000≤N){c:ak}{b:bf}(w:oe b)(hc:cA c.2.2.2.2.2.1)(next:Int):ck N c b next=some (kG c b next):=by
 unfold ck ck.b kG
 rw[Me N ω w,al,cond_not]
 by_cases hB:iZ c b=true
 ·obtain⟨h6,hq⟩:=A0 w hB
  rw[ae hB,hB,aa]
  by_cases h1:next<1
  ·rw[au h1,aa,ae (.inl h1)]
  rw[aq ω,ah]
  by_cases h2:1099511627764<next
  ·rw[au h2,aa,ae (.inr h2)]
  rw[aq ω,ah,af ω,Uk N w.s ω,al]
  by_cases h3:posOf b.2.2.2.1 0=[]
  ·rw[bD (by rw[h3];rfl),aa,ae h3]
  ·have hz:((posOf b.2.2.2.1 0).length:Int)≠0:=λh=>h3 (ij ω)
   rw[bI hz,ah,af h3,J8 N hN ω hc ω hq]
 ·rw[af hB,fQ _ |>.mp hB,ah]
theorem Dl(hN:5000000≤N){c:ak}{b:bf}(w:oe b)(hc:cA c.2.2.2.2.2.1)(next:Int):cw N c b next=some (kG c b next):=by
 unfold cw cw.b kG
 rw[JG N ω w,al,cond_not]
 by_cases hB:iZ c b=true
 ·obtain⟨h6,hq⟩:=A0 w hB
  rw[ae hB,hB,aa]
  by_cases h1:next<1
  ·rw[au h1,aa,ae (.inl h1)]
  rw[aq ω,ah]
  by_cases h2:1099511627764<next
  ·rw[au h2,aa,ae (.inr h2)]
  rw[aq ω,ah,af ω,PW N w.s ω,al]
  by_cases h3:posOf b.2.2.2.1 0=[]
  ·rw[bD (by rw[h3];rfl),aa,ae h3]
  ·have hz:((posOf b.2.2.2.1 0).length:Int)≠0:=λh=>h3 (ij ω)
   rw[bI hz,ah,af h3,Hm N hN ω hc ω hq]
 ·rw[af hB,fQ _ |>.mp hB,ah]
theorem yt{c:ak}{next:Int}: ∀{t:List aw} {out o:aA},(∀p∈t,p.length≤100000)→mB out→lI c next t out=some o→mB o
 |[],out,o,_,h,e=>by cases e;exact h
 |p::t,out,o,hp,h,e=>by
  rw[oj]at e
  split at e
  ·exact yt (λq hq=>hp q (aR _ hq)) h e
  ·split at e
   ·refine yt (λq hq=>hp q (aR _ hq)) (λx hx=> ?_) e
    rcases bt.1 hx with hx|hx
    ·exact h x hx
    ·rw[dK.1 hx];exact hp p bl
   ·cases e
theorem A2(c:ak)(l:aw):(ew c l).length≤3:=by
 have hS:=mE (c9 l) c.2.2.2.2.2.1
 unfold ew
 simp
 unfold gl
 omega
theorem A3{c:ak}{l p:aw}(h:p∈ew c l):p.length≤l.length:=by
 obtain⟨j,_,rfl⟩:=cN.1 h
 exact nw l _ j
theorem Dm{c:ak}{next:Int}{all:aw}(hl:all.length≤100000): ∀{t:List Nat} {out o:aA},mB out→qN c next all t out=some o→mB o∧o.length≤out.length+3*t.length
 |[],out,o,h,e=>by cases e;exact⟨h,aH _⟩
 |k::t,out,o,h,e=>by
  rw[rl]at e
  obtain⟨u,hu,e⟩:=lY.1 e
  have h1:=yt (λp hp=>ea (A3 hp) (ea (ga c all k) hl)) h hu
  have h2:=nx hu
  have h3:=A2 c (aL c all k)
  obtain⟨h4,h5⟩:=Dm hl h1 e
  exact⟨h4,by rw[aG];omega⟩
theorem EM{c:ak}{b:bf}(w:oe b)(next:Int):mB (kG c b next).1∧(kG c b next).1.length≤12:=by
 have h0:mB []∧([]:aA).length≤12:=⟨(λx hx=>nomatch hx),fk _⟩
 unfold kG
 split
 ·rename_i hB
  obtain⟨h6,_⟩:=A0 w hB
  split
  ·exact h0
  ·split
   ·exact h0
   ·unfold zW
    cases hL:qN c next (posOf b.2.2.2.1 0) (List.range 4) []with
    |none=>exact h0
    |some o=>
     obtain⟨h1,h2⟩:=Dm ω h0.1 hL
     rw[ji,bM]at h2
     exact⟨h1,ω⟩
 ·exact h0
def kH(id:Int):aA→dt×Bool
 |[]=>(((0:Int),(c5,aZ)),false)
 |x::t=>if x.1=id then(x,true)else kH id t
theorem om(id:Int)(x:dt)(t:aA):kH id (x::t)=if x.1=id then(x,true)else kH id t:=rfl
theorem Dn(hN:200000≤N){l:aA}(hl:l.length≤100000)(hw:mB l)(id:Int):ub N l id=some (kH id l):=by
 unfold ub ub.b
 refine zK l ((0:Int),(c5,aZ)) (λn i=>ub.l2 N n id ((0:Int),(c5,aZ)) l (l.length:Int) i) (λt=>some (kH id t)) (λn i hi hr=> ?_) (λn=> ?_) N ω
 ·have hlx:=oh hw i
  unfold ub.l2 ub.dV
  rw[au ω,aa,aB ω ω,aa,ar,om,ax (x:=(i:Int)+1) ω ω,an i]
  by_cases h:(l.getD i ((0:Int),(c5,aZ))).1=id
  ·rw[bD h,aa,ae h,bp ω,aa]
  ·rw[bI h,ah,af h];exact hr
 ·unfold ub.l2 ub.dV
  rw[aq ω,ah];rfl
theorem Hn(hN:200000≤N){l:aA}(hl:l.length≤100000)(id:Int):vJ N l id=some (kH id l):=by
 unfold vJ vJ.b
 refine zK l ((0:Int),(c5,aZ)) (λn i=>vJ.l2 N n l id ((0:Int),(c5,aZ)) i) (λt=>some (kH id t)) (λn i hi hr=> ?_) (λn=> ?_) N ω
 ·unfold vJ.l2 vJ.dV
  rw[au ω,aa,aB ω ω,aa,ar,om,ax (x:=(i:Int)+1) ω ω,an i]
  by_cases h:(l.getD i ((0:Int),(c5,aZ))).1=id
  ·rw[bD h,aa,ae h,aa]
  ·rw[bI h,ah,af h];exact hr
 ·unfold vJ.l2 vJ.dV
  rw[aq ω,ah];rfl
theorem yu{id:Int}: ∀{l:aA},mB l→(kH id l).1.2.1.length≤100000
 |[],_=>fk _
 |x::t,h=>by
  rw[om]
  split
  ·exact h x bl
  ·exact yu λy hy=>h y (aR _ hy)
def lC:ak:=([((0:Int),((100:Int),((0:Int),((2:Int),())))),((1:Int),((7:Int),bE))],((0:Int),((0:Int),((0:Int),((0:Int),((3:Int),((0:Int),())))))))
def lS:bo:=[((0:Int),((0:Int),((7:Int),()))),((0:Int),((1:Int),((-2:Int),()))),((1:Int),((0:Int),((-7:Int),()))),((1:Int),((1:Int),((2:Int),())))]
def lB(s:bo):bf:=([((1:Int),((1:Int),()))],([((1:Int),((1:Int),((1:Int),((0:Int),()))))],(W6,(s,([(100:Int),(7:Int)],(W7,()))))))
def lL:aA:=[((5:Int),([((0:Int),((3:Int),()))],((-6:Int),((1:Int),bE)))),((6:Int),([((0:Int),((2:Int),()))],((-4:Int),((1:Int),bE)))),((7:Int),([((0:Int),((2:Int),()))],((-4:Int),((1:Int),bE)))),((8:Int),([((1:Int),((-2:Int),()))],((0:Int),((1:Int),bE))))]
theorem lK1:kG lC (lB lS) 5=(lL,0):=κ
theorem lK2:kG lC (lB []) 5=([],3):=κ
theorem lK3:kH 7 lL=(((7:Int),([((0:Int),((2:Int),()))],((-4:Int),((1:Int),bE)))),true):=κ
theorem lK4:xZ lC lL=true:=by decide+kernel
theorem lW1:oe (lB lS):=⟨δ,δ,δ,δ,δ,δ,λx hx=>(nomatch hx),Mk (l:=lS) δ⟩
theorem lW2:oe (lB []):=⟨δ,δ,δ,δ,δ,δ,λx hx=>(nomatch hx),λx hx=>(nomatch hx)⟩
theorem lW3:mB lL:=λx hx=>by
 have:x.2.1.length=1:=by
  simp only[lL,bu,wI,or_false]at hx
  rcases hx with rfl|rfl|rfl|rfl<;>rfl
 omega
theorem Ho(hN:5000000≤N):F7 N=some true:=by
 unfold F7 WY
 rw[al]
 show(ck N lC (lB lS) 5).bind _=_
 rw[rm N hN lW1 δ,al,lK1]
 show(ub N lL 7).bind _=_
 rw[Dn N ω δ lW3,al,lK3]
 show(ck N lC (lB []) 5).bind _=_
 rw[rm N hN lW2 δ,al,lK2]
 have h1:ru N (lL.getD (0:Int).toNat ((0:Int),(c5,aZ))).2.1 [((0:Int),((3:Int),()))]=some true:=yq N δ ω
 have h2:ru N [((0:Int),((2:Int),()))] [((0:Int),((2:Int),()))]=some true:=yq N δ ω
 have h3:ru N (lL.getD (3:Int).toNat ((0:Int),(c5,aZ))).2.1 [((1:Int),((-2:Int),()))]=some true:=yq N δ ω
 have h4:ns N lC lL=some true:=by rw[FD N ω lC δ lW3,lK4]
 have e2:bq (lL.length:Int) 4=true:=bD rfl
 have e3:bB 0 lL.length=true:=aB δ δ
 have e4:bB 3 lL.length=true:=aB δ δ
 have e5:bq (lL.getD (0:Int).toNat ((0:Int),(c5,aZ))).1 5=true:=bD rfl
 have e6:bq (lL.getD (0:Int).toNat ((0:Int),(c5,aZ))).2.2.1 (-6)=true:=bD rfl
 have e7:bq (lL.getD (0:Int).toNat ((0:Int),(c5,aZ))).2.2.2.1 1=true:=bD rfl
 have h5:rr N (bA 7) 3=some 3:=by rw[tZ N ω δ];rfl
 have h6:rr N (bA 6) 3=some 2:=by rw[tZ N ω δ];rfl
 simp only[h1,h2,h3,h4,e2,e3,e4,e5,e6,e7,eK,aa,al,xN N (x:=7) ω ω,xN N (x:=6) ω ω,h5,h6]
 show(ns N lC lL).bind _=_
 rw[h4];rfl
theorem J9(hN:5000000≤N){c:ak}{b:bf}(w:oe b)(hc:cA c.2.2.2.2.2.1){l:aA}(hl:l.length≤100000)(hw:mB l)(next id:Int):F8 N c b l next id=some true:=by
 obtain⟨h1,h2⟩:=EM (c:=c) w next
 have h3:=yu (id:=id) hw
 unfold F8
 rw[rm N hN w hc,al,Dl N hN w hc,al,Dn N ω hl hw,al,Hn N ω hl,al,eK,aa,u7 N ω h1 ω,al,aa,FD N ω c hl hw,al,JK N ω c hl hw,al]
 have e: ∀x:Bool,mg .bool x x=true:=λx=>by cases x<;>rfl
 rw[e,aa,e,aa,u7 N (by simp) (λx hx=>by rw[dK.1 hx];exact h3) ω,al]
namespace Pure
theorem P9(c:ak)(b:bf)(yv:aA)(next id:Int)(h:TN [aU,fc,.slice gH,.int .i64,.int .i64] (c,b,yv,next,id)): ∃N,F3 N c b yv next id=some true:=by
 refine⟨6000000,?_⟩
 obtain⟨h1,h2,_⟩:=h
 have h1:WF aU c:=h1
 have h2:WF fc b:=h2
 have hr:iS b.2.2.1:=JN h2.2.2.1
 have hs:iS b.2.2.2.1:=JN h2.2.2.2.1
 have hc:cA c.2.2.2.2.2.1:=FF h1.2.2.2.2.2.1
 unfold F3 F3.b
 rw[Ho 6000000 ω,al,aS,ah]
 simp only[bZ]
 repeat' (split;rfl)
 have key:(∀i,i<yv.length→(yv.getD i ((0:Int),(c5,aZ))).2.1.length≤12)→F8 6000000 c b yv next id=some true:=λhw=>
  J9 6000000 ω ⟨ω,ω,ω,ω,ω,ω,hr,hs⟩ hc ω (λx hx=>by
   obtain⟨i,hi,rfl⟩:=mc hx
   have:=hw i hi
   rw[aY,ba hi]at this
   exact ea this ω) next id
 have loop: ∀(m n i:Nat),yv.length-i≤m→m<n→i≤yv.length→(∀j,j<i→(yv.getD j ((0:Int),(c5,aZ))).2.1.length≤12)→F3.l6 6000000 n yv next id c b (i:Int)=some true:=by
  intro m n
  induction n generalizing m with
  |zero=>intro i _ hn;omega
  |succ n ih=>
   intro i hm hn hi hw
   unfold F3.l6 F3.y7
   by_cases h:i<yv.length
   ·rw[au ω,aa,aB ω ω,aa,ar,bZ,ax (x:=(i:Int)+1) ω ω,an i]
    split
    ·rfl
    ·rename_i K1
     exact ih (m-1) (i+1) ω ω ω λj hj=>by
      by_cases e:j=i
      ·rw[e];omega
      ·exact hw j ω
   ·rw[aq ω,ah,key (λj hj=>hw j ω)];rfl
 exact loop yv.length 6000000 0 ω ω ω (λj hj=>absurd hj ω)
end Pure
end VM
end
