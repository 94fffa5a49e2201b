/- A part of the proof of TearFlat of layer 29: what the functions compute, in plain words. -/
import Derived.Test.YtocmlaipoebfeaaGreatPlain1
set_option linter.all false
section
namespace VM
open Go VM.F
theorem Wt(a b:cN):oR (.pair (.int .i64) (.pair (.int .u64) .unit)) a b=(aM a.1 b.1&&(aM a.2.1 b.2.1&&true)):=rfl
theorem aab(N:Nat){u v:Int}:aac N (dM u) (dM v)=some (xD (u-v)):=by
 unfold aac
 rw[Wt]
 unfold dM
 dsimp only
 unfold xD
 rw[cU,aN,cU,gn,jB,jB]
 have hu:u=u/18446744073709551616*18446744073709551616+u%18446744073709551616:=ω
 have hv:v=v/18446744073709551616*18446744073709551616+v%18446744073709551616:=ω
 by_cases h1:u/18446744073709551616<v/18446744073709551616
 ·rw[aj h1];congr 1;split<;>(try split)<;>omega
 ·rw[ah h1]
  by_cases h2:u/18446744073709551616=v/18446744073709551616
  ·rw[aj h2,bs h2,np]
   by_cases h3:u%18446744073709551616<v%18446744073709551616
   ·rw[aj h3];congr 1;split<;>(try split)<;>omega
   ·rw[ah h3]
    by_cases h4:u%18446744073709551616=v%18446744073709551616
    ·rw[bs h4,ak];congr 1;split<;>(try split)<;>omega
    ·rw[cg h4,ar];congr 1;split<;>(try split)<;>omega
  ·rw[ah h2,cg h2,wm,ar];congr 1;split<;>(try split)<;>omega
theorem Ql:dM 0=df:=rfl
theorem AA(N:Nat){u:Int}:F78 N (dM u)=some (xD u):=by
 unfold F78
 rw[←Ql,aab,av,wq]
end VM
end
section
namespace VM
open Go VM.F
def dW(r:dd):Int:=r.2.2.1
def aH(x:Int):Prop:= -9223372036854775808≤x∧x<9223372036854775808
def eJ(l:au):Prop:= ∀x∈l,aH (dW x)
theorem yY{l:au}(h:eJ l)(i:Nat):aH (dW (l.getD i bf)):=by
 by_cases hi:i<l.length
 ·rw[aR,bl hi];exact h _ (eL hi)
 ·rw[aR,gP ω];exact⟨δ,δ⟩
theorem Nc{ws:List Int}(h: ∀x∈ws,aH x): -(9223372036854775808*(ws.length:Int))≤ws.sum∧ws.sum≤9223372036854775808*(ws.length:Int):=Ke ws h
theorem IF{ws:List Int}(h: ∀x∈ws,aH x)(hl:ws.length≤1000000):eB ws.sum:=by
 have:=Nc h
 unfold eB;omega
theorem TG{ws:List Int}(h: ∀x∈ws,aH x): ∀x∈ws,eB x:=λx hx=>by
 have:=h x hx
 unfold aH at this;unfold eB;omega
theorem Kk(N:Nat){ws:List Int}(h: ∀x∈ws,aH x)(hl:ws.length≤1000000)(hN:1000000<N):nE N (ws.map dM)=some (dM ws.sum,true):=by
 rw[Ki N (TG h) hl hN]
 unfold Qd
 rw[aj (IF h hl)]
def gS(l:au):Int:=if eE l then(l.map dW).sum else 0
theorem Qm(N:Nat){l:au}(hq:eJ l)(hl:l.length≤100000)(hN:2000000≤N):CR.l5 N N df [] l (l.length:Int) 0=some (dM (l.map dW).sum):=by
 have:=sm l bf (λn i ws=>CR.l5 N n df (ws.map dM) l (l.length:Int) i) (λt ws=>some (dM (ws++t.map dW).sum)) (λi (ws:List Int)=>ws.length=i∧ ∀x∈ws,aH x)
  (λn i ws hi hI hr=> ?_) (λn ws hI=> ?_) l.length N 0 [] ω ω ω ⟨rfl,λx hx=>nomatch hx⟩
 ·simpa using this
 ·unfold CR.l5 CR.fi
  have vU:=yY hq i
  have iO:=vU
  unfold aH dW at iO
  rw[aP ω,ak,aQ ω ω,ak,aE,BA N iO.1 iO.2,av,bQ (by rw[cO,aK];omega),ak,aw ω ω,ae]
  have:=hr (ws++[dW (l.getD i bf)]) ⟨by rw[aT,hI.1];rfl,λx hx=>by
   rcases bo.1 hx with hx|hx
   ·exact hI.2 x hx
   ·rw[cm.1 hx];exact vU⟩
  rw[dn]at this
  refine this.trans ?_
  rw[bR,bM];rfl
 ·unfold CR.l5 CR.fi
  rw[aL ω,ar,Kk N hI.2 ω ω,av,iE,cK]
theorem Wu(N:Nat){l:au}(hq:eJ l)(hl:l.length≤100000)(hN:2000000≤N):CR N l=some (dM (gS l)):=by
 unfold CR CR.b gS
 rw[Kj N hl ω,av,cond_not,Qm N hq hl hN]
 cases eE l<;>rfl
theorem Nd(N:Nat){l:au}(hq:eJ l)(hl:l.length≤100000)(hN:4000000≤N):pg.l5 N N l (di 0) (di 0) 0=some (di (l.map dW).sum):=by
 have:=sm l bf (λn i ws=>pg.l5 N n l (di 0) (di ws.sum) i) (λt ws=>some (di (ws++t.map dW).sum)) (λi (ws:List Int)=>ws.length=i∧ ∀x∈ws,aH x)
  (λn i ws hi hI hr=> ?_) (λn ws hI=> ?_) l.length N 0 [] ω ω ω ⟨rfl,λx hx=>nomatch hx⟩
 ·simpa using this
 ·unfold pg.l5 pg.fi
  have vU:=yY hq i
  have iO:=vU
  unfold aH dW at iO
  have hb:=Nc hI.2
  rw[hI.1]at hb
  rw[aP ω,ak,aQ ω ω,ak,aE,dC N ω iO.1 iO.2,av,jN N ω ((An (n:=i) ω hb.1 hb.2).mono ω) ((Fit.i64 iO.1 iO.2).mono ω),av,aw ω ω,ae]
  have:=hr (ws++[dW (l.getD i bf)]) ⟨by rw[aT,hI.1];rfl,λx hx=>by
   rcases bo.1 hx with hx|hx
   ·exact hI.2 x hx
   ·rw[cm.1 hx];exact vU⟩
  rw[nn,cH,jK,gr]at this
  refine this.trans ?_
  rw[bR,bM];rfl
 ·unfold pg.l5 pg.fi
  rw[aL ω,ar,iE,cK]
theorem TH(N:Nat){l:au}(hq:eJ l)(hl:l.length≤100000)(hN:4000000≤N):pg N l=some (di (gS l)):=by
 unfold pg pg.b gS
 rw[FC N hl ω,av,cond_not]
 have:=Nd N hq hl hN
 rw[kU]at this
 rw[this]
 cases eE l
 ·rw[ar];exact eA some kU.symm
 ·rfl
end VM
end
section
namespace VM
open Go VM.F
def c9(inst:Int):au→List Int
 |[]=>[]
 |x::t=>if x.2.1=inst then dW x::c9 inst t else c9 inst t
theorem dF(inst:Int)(x:dd)(t:au):c9 inst (x::t)=if x.2.1=inst then dW x::c9 inst t else c9 inst t:=rfl
theorem TI(N:Nat){l:au}(hq:eJ l)(hl:l.length≤100000)(hN:2000000≤N)(inst:Int):ph.l5 N N inst df [] l (l.length:Int) 0=some (dM (c9 inst l).sum):=by
 have:=sm l bf (λn i ws=>ph.l5 N n inst df (ws.map dM) l (l.length:Int) i) (λt ws=>some (dM (ws++c9 inst t).sum)) (λi (ws:List Int)=>ws.length≤i∧ ∀x∈ws,aH x)
  (λn i ws hi hI hr=> ?_) (λn ws hI=> ?_) l.length N 0 [] ω ω ω ⟨aI _,λx hx=>nomatch hx⟩
 ·simpa using this
 ·unfold ph.l5 ph.fi
  have vU:=yY hq i
  have iO:=vU
  unfold aH dW at iO
  rw[aP ω,ak,aQ ω ω,ak,aE,BA N iO.1 iO.2,av,bQ (by rw[cO,aK];omega),ak,aw ω ω,ae,aN,dF]
  split
  ·have:=hr (ws++[dW (l.getD i bf)]) ⟨by rw[aT,aK];omega,λx hx=>by
    rcases bo.1 hx with hx|hx
    ·exact hI.2 x hx
    ·rw[cm.1 hx];exact vU⟩
   rw[dn]at this
   refine this.trans ?_
   rw[bM];rfl
  ·exact hr ws ⟨ω,hI.2⟩
 ·unfold ph.l5 ph.fi
  rw[aL ω,ar,Kk N hI.2 ω ω,av]
  show _=some (dM (ws++[]).sum)
  rw[cK]
def qb(l:au)(inst:Int):Int:=if da l then(c9 inst l).sum else 0
theorem aad(N:Nat){l:au}(hq:eJ l)(hl:l.length≤100000)(hN:2000000≤N)(inst:Int):ph N l inst=some (dM (qb l inst)):=by
 unfold ph ph.b qb
 rw[Av N hl ω,av,cond_not,TI N hq hl hN]
 cases da l<;>rfl
theorem Qn(N:Nat){l:au}(hq:eJ l)(hl:l.length≤100000)(hN:4000000≤N)(inst:Int):pj.l5 N N l inst (di 0) (di 0) 0=some (di (c9 inst l).sum):=by
 have:=sm l bf (λn i ws=>pj.l5 N n l inst (di 0) (di ws.sum) i) (λt ws=>some (di (ws++c9 inst t).sum)) (λi (ws:List Int)=>ws.length≤i∧ ∀x∈ws,aH x)
  (λn i ws hi hI hr=> ?_) (λn ws hI=> ?_) l.length N 0 [] ω ω ω ⟨aI _,λx hx=>nomatch hx⟩
 ·simpa using this
 ·unfold pj.l5 pj.fi
  have vU:=yY hq i
  have iO:=vU
  unfold aH dW at iO
  have hb:=Nc hI.2
  rw[aP ω,ak,aQ ω ω,ak,ak,aE,dC N ω iO.1 iO.2,av,jN N ω ((An (n:=ws.length) ω hb.1 hb.2).mono ω) ((Fit.i64 iO.1 iO.2).mono ω),av,aw ω ω,ae,aN,dF]
  split
  ·have:=hr (ws++[dW (l.getD i bf)]) ⟨by rw[aT,aK];omega,λx hx=>by
    rcases bo.1 hx with hx|hx
    ·exact hI.2 x hx
    ·rw[cm.1 hx];exact vU⟩
   rw[nn,cH,jK,gr]at this
   refine this.trans ?_
   rw[bM];rfl
  ·exact hr ws ⟨ω,hI.2⟩
 ·unfold pj.l5 pj.fi
  rw[aL ω,ar]
  show _=some (di (ws++[]).sum)
  rw[cK]
theorem Nf(N:Nat){l:au}(hq:eJ l)(hl:l.length≤100000)(hN:4000000≤N)(inst:Int):pj N l inst=some (di (qb l inst)):=by
 unfold pj pj.b qb
 rw[mM N hl ω,av,cond_not]
 have:=Qn N hq hl hN inst
 rw[kU]at this
 rw[this]
 cases da l
 ·rw[ar];exact eA some kU.symm
 ·rfl
def rC(l:au)(i:Nat):Prop:=dy (qb l (i:Int)) 0
instance(l:au):DecidablePred (rC l):=λi=>by unfold rC;infer_instance
def jC:Nat:=6
def nJ(l:au):Bool:=decide (∀j,j<jC→rC l j)&&da l
theorem ky{x:Int}:xD x=0↔x=0:=by unfold xD;split<;>(try split)<;>omega
theorem aae(N:Nat){l:au}(hq:eJ l)(hl:l.length≤100000)(hN:2000000≤N):DF N l=some (nJ l):=by
 unfold DF DF.b
 refine iK (len:=jC) (F:=λn i=>DF.l2 N n l i) (rC l) (λn i r hi hp hr=> ?_) (λn=> ?_) N (by unfold jC;omega)
 ·unfold DF.l2 DF.gV
  unfold jC at hi
  rw[aP ω,ak,aad N hq hl hN,av,AA,av,cond_not,aN,aw ω ω,ae,hr]
  by_cases hP:rC l i
  ·rw[aj hP,aj (ky.2 hP)]
  ·rw[ah hP,ah (λh=>hP (ky.1 h))]
 ·unfold DF.l2 DF.gV
  rw[aL (by unfold jC;omega),ar,Av N hl ω,av]
theorem Wv(N:Nat){l:au}(hq:eJ l)(hl:l.length≤100000)(hN:4000000≤N):pQ N l=some (nJ l):=by
 unfold pQ pQ.b
 refine iK (len:=jC) (F:=λn i=>pQ.l2 N n l i) (rC l) (λn i r hi hp hr=> ?_) (λn=> ?_) N (by unfold jC;omega)
 ·unfold pQ.l2 pQ.gV
  unfold jC at hi
  rw[aP ω,ak,Nf N hq hl hN,av,p9,av,cond_not,aN,aw ω ω,ae,hr]
  by_cases hP:rC l i
  ·rw[aj hP,aj (ky.2 hP)]
  ·rw[ah hP,ah (λh=>hP (ky.1 h))]
 ·unfold pQ.l2 pQ.gV
  rw[aL (by unfold jC;omega),ar,mM N hl ω,av]
end VM
end
section
namespace VM
open Go VM.F
def jP(m:aG)(a:aO)(l:au)(i:Nat):Prop:=
 (dy (l.getD i bf).1 5→(gd a (l.getD i bf).2.1).2=true)∧(dy (l.getD i bf).1 6∨dy (l.getD i bf).1 7→ ¬dy (iN m (l.getD i bf).2.1) 0)
instance(m:aG)(a:aO)(l:au):DecidablePred (jP m a l):=λi=>by unfold jP;infer_instance
theorem Qo(N:Nat)(b:aq)(hl:b.2.1.length≤100000)(hN:200000≤N)(id:Int):F82 N b id=some (gd b.2.1 id).2:=by
 unfold F82
 rw[Z9 N hl hN,av]
theorem TJ{k:Int}{f:Bool}{z:Int}{r:Option Bool}:cond (aM k 5) (cond (!f) (some false) r) (cond (aM k 6) (cond (aM z 0) (some false) r) (cond (aM k 7) (cond (aM z 0) (some false) r) r))=
  if(dy k 5→f=true)∧(dy k 6∨dy k 7→ ¬dy z 0)then r else some false:=by
 unfold dy
 rw[aN,aN,aN,aN,cond_not]
 by_cases h5:k=5
 ·have h6: ¬(k=6):=ω
  have h7: ¬(k=7):=ω
  cases f<;>simp[h5,h6,h7]
 ·by_cases h6:k=6
  ·by_cases hz:z=0<;>simp[h5,h6,hz]
  ·by_cases h7:k=7
   ·by_cases hz:z=0<;>simp[h5,h6,h7,hz]
   ·simp[h5,h6,h7]
theorem HK(N:Nat)(hN:200000≤N)(c:ag)(b:aq)(hm:b.1.length≤100000)(ha:b.2.1.length≤100000)(hl:b.2.2.1.length≤100000){e:Bool}
  (he:lC.sQ N N c b b.2.2.2.1 (b.2.2.2.1.length:Int) 0=some e):lC.l4 N N c b b.2.2.1 (b.2.2.1.length:Int) 0=some (decide (∀j,j<b.2.2.1.length→jP b.1 b.2.1 b.2.2.1 j)&&e):=by
 refine iK (F:=λn i=>lC.l4 N n c b b.2.2.1 (b.2.2.1.length:Int) i) (jP b.1 b.2.1 b.2.2.1) (λn i r hi hp hr=> ?_) (λn=> ?_) N ω
 ·unfold lC.l4 lC.dH
  rw[aP ω,ak,aQ ω ω,ak,aE,aw (x:=(i:Int)+1) ω ω,ae,hr]
  simp only[Qo N b ha hN,IE N hm hN,av]
  rw[TJ]
  rfl
 ·unfold lC.l4 lC.dH
  rw[aL ω,ar];exact he
def oY(a b:Int):Prop:=a<b
instance(a b:Int):Decidable (oY a b):=by unfold oY;infer_instance
def jh(c:ag)(a:aO)(l:au)(i:Nat):Prop:=
 (dy (l.getD i bf).1 0∨(gd a (l.getD i bf).1).2=true)∧oY (l.getD i bf).2.1 c.1.length
instance(c:ag)(a:aO)(l:au):DecidablePred (jh c a l):=λi=>by unfold jh;infer_instance
theorem Ww{k x n:Int}{f:Bool}{r:Option Bool}:cond (!aM k 0) (cond (!f) (some false) (cond (c0 n x) (some false) r)) (cond (c0 n x) (some false) r)=if(dy k 0∨f=true)∧oY x n then r else some false:=by
 unfold dy oY
 rw[cond_not,aN,cP,cond_not]
 by_cases h0:k=0
 ·by_cases hx:n≤x
  ·have: ¬x<n:=ω
   simp[h0,hx,this]
  ·have:x<n:=ω
   simp[h0,hx,this]
 ·by_cases hx:n≤x
  ·have: ¬x<n:=ω
   cases f<;>simp[h0,hx,this]
  ·have:x<n:=ω
   cases f<;>simp[h0,hx,this]
theorem Kl(N:Nat)(hN:200000≤N)(c:ag)(b:aq)(ha:b.2.1.length≤100000)(hl:b.2.2.2.1.length≤100000){e:Bool}
  (he:lC.w4 N N c b b.2.2.2.2.2.1 (b.2.2.2.2.2.1.length:Int) 0=some e):lC.sQ N N c b b.2.2.2.1 (b.2.2.2.1.length:Int) 0=some (decide (∀j,j<b.2.2.2.1.length→jh c b.2.1 b.2.2.2.1 j)&&e):=by
 refine iK (F:=λn i=>lC.sQ N n c b b.2.2.2.1 (b.2.2.2.1.length:Int) i) (jh c b.2.1 b.2.2.2.1) (λn i r hi hp hr=> ?_) (λn=> ?_) N ω
 ·unfold lC.sQ lC.so
  rw[aP ω,ak,aQ ω ω,ak,aE,aw (x:=(i:Int)+1) ω ω,ae,hr]
  simp only[Qo N b ha hN,av]
  rw[Ww]
  rfl
 ·unfold lC.sQ lC.so
  rw[aL ω,ar];exact he
end VM
end
section
namespace VM
open Go VM.F
def qc(l:List Int)(i:Nat):Prop:=1≤l.getD i 0∧l.getD i 0≤1000000000000
instance(l:List Int):DecidablePred (qc l):=λi=>by unfold qc;infer_instance
def fe(l:List Int):Bool:=decide (∀j,j<l.length→qc l j)
theorem ahN(N:Nat)(p:Int):F84 N p=some (!decide (1≤p∧p≤1000000000000)):=by
 unfold F84
 rw[ID,av]
theorem FG(N:Nat){l:List Int}(hl:l.length≤100000): ∀(m n i:Nat),l.length-i≤m→m<n→i≤l.length→(∀j,j<i→qc l j)→
  ∃r,sq.l2 N n l () (l.length:Int) (i:Int)=some r∧(c0 0 r= !fe l)
 |m,0,i,_,hn,_,_=>ω
 |m,n+1,i,hm,hn,hi,hp=>by
  unfold sq.l2 sq.gV
  by_cases h:i<l.length
  ·rw[aP ω,ak,aQ ω ω,ak,aE,ahN,av,cond_not,gL]
   by_cases hP:qc l i
   ·have hP':=hP
    unfold qc at hP'
    rw[aj hP',aw ω ω]
    exact FG N hl (m-1) n (i+1) ω ω ω (λj hj=>by
     by_cases yP:j=i
     ·subst yP;exact hP
     ·exact hp j ω)
   ·have hP':=hP
    unfold qc at hP'
    rw[ah hP']
    refine⟨_,rfl,?_⟩
    rw[dL ω]
    unfold fe
    rw[cg (λh'=>hP (h' i h))];rfl
  ·rw[aL ω,ar]
   refine⟨_,rfl,?_⟩
   rw[dB ω]
   unfold fe
   rw[bs (λj hj=>hp j ω)];rfl
theorem TK(N:Nat){l:List Int}(hl:l.length≤100000)(hN:200000≤N):F83 N l ()=some (!fe l):=by
 unfold F83 sq sq.b
 obtain⟨r,e,h⟩:=FG N hl l.length N 0 ω ω ω (λj hj=>absurd hj ω)
 rw[show((0:Nat):Int)=0 from rfl]at e
 rw[e,av,h]
def qd(c:ag)(a:aO)(l:br)(i:Nat):Prop:=
 (gd a (l.getD i fy).2.1).2=true∧oY (l.getD i fy).2.2.1 c.1.length
instance(c:ag)(a:aO)(l:br):DecidablePred (qd c a l):=λi=>by unfold qd;infer_instance
theorem FH{x n:Int}{f:Bool}{r:Option Bool}:cond (!f) (some false) (cond (c0 n x) (some false) r)=if f=true∧oY x n then r else some false:=by
 unfold oY
 rw[cP,cond_not]
 by_cases hx:n≤x
 ·have: ¬x<n:=ω
  cases f<;>simp[hx,this]
 ·have:x<n:=ω
  cases f<;>simp[hx,this]
theorem Km(N:Nat)(hN:200000≤N)(c:ag)(b:aq)(ha:b.2.1.length≤100000)(hl:b.2.2.2.2.2.1.length≤100000)(hp:b.2.2.2.2.1.length≤100000):
  lC.w4 N N c b b.2.2.2.2.2.1 (b.2.2.2.2.2.1.length:Int) 0=some (decide (∀j,j<b.2.2.2.2.2.1.length→qd c b.2.1 b.2.2.2.2.2.1 j)&&fe b.2.2.2.2.1):=by
 refine iK (F:=λn i=>lC.w4 N n c b b.2.2.2.2.2.1 (b.2.2.2.2.2.1.length:Int) i) (qd c b.2.1 b.2.2.2.2.2.1) (λn i r hi H6 hr=> ?_) (λn=> ?_) N ω
 ·unfold lC.w4 lC.vV
  rw[aP ω,ak,aQ ω ω,ak,aE,aw (x:=(i:Int)+1) ω ω,ae,hr]
  simp only[Qo N b ha hN,av]
  rw[FH]
  rfl
 ·unfold lC.w4 lC.vV
  rw[aL ω,ar,TK N hp hN,av,Bool.not_not]
def eu(c:ag)(b:aq):Bool:=
 fG c&&(rB b.1 b.2.1&&(eE b.2.2.1&&(decide (dy (gS b.2.2.1) 0)&&(nJ b.2.2.2.1&&(eC b.2.2.2.2.2.1&&(decide (dy b.2.2.2.2.1.length c.1.length)&&
  (decide (∀j,j<b.2.2.1.length→jP b.1 b.2.1 b.2.2.1 j)&&(decide (∀j,j<b.2.2.2.1.length→jh c b.2.1 b.2.2.2.1 j)&&(decide (∀j,j<b.2.2.2.2.2.1.length→qd c b.2.1 b.2.2.2.2.2.1 j)&&fe b.2.2.2.2.1)))))))))
structure kz(b:aq):Prop where
 m:b.1.length≤100000
 a:b.2.1.length≤100000
 r:b.2.2.1.length≤100000
 s:b.2.2.2.1.length≤100000
 p:b.2.2.2.2.1.length≤100000
 o:b.2.2.2.2.2.1.length≤100000
 qr:eJ b.2.2.1
 qs:eJ b.2.2.2.1
theorem pk{x:Bool}{r:Option Bool}{y:Bool}(h:r=some y):cond (!x) (some false) r=some (x&&y):=by subst h;cases x<;>rfl
theorem Ko(N:Nat)(hN:4000000≤N){c:ag}{b:aq}(w:kz b):lC N c b=some (eu c b):=by
 unfold lC lC.b eu
 rw[Z6 N ω,av]
 refine pk ?_
 rw[aaa N w.m w.a ω,av]
 refine pk ?_
 rw[Kj N w.r ω,av]
 refine pk ?_
 rw[Wu N w.qr w.r ω,av,AA,av]
 have e0:aM (xD (gS b.2.2.1)) 0=decide (dy (gS b.2.2.1) 0):=by rw[jB,nh];exact ky
 rw[e0]
 refine pk ?_
 rw[aae N w.qs w.s ω,av]
 refine pk ?_
 rw[TD N w.o ω,av]
 refine pk ?_
 rw[jB]
 refine pk ?_
 exact HK N ω c b w.m w.a w.r (Kl N ω c b w.a w.s (Km N ω c b w.a w.o w.p))
end VM
end
section
namespace VM
open Go VM.F
theorem uk(N:Nat)(b:aq)(hl:b.2.1.length≤100000)(hN:200000≤N)(id:Int):Kp N b id=some ((gd b.2.1 id).2||decide (dy id 0)):=by
 unfold Kp
 rw[Az N hl hN,av,jB]
 cases(gd b.2.1 id).2<;>rfl
theorem Qp{k:Int}{f:Bool}{z:Int}{r:Option Bool}:cond (aM k 5) (cond (!f) (some false) (cond (aM k 6) (cond (aM z 0) (some false) r) (cond (aM k 7) (cond (aM z 0) (some false) r) r))) (cond (aM k 6) (cond (aM z 0) (some false) r) (cond (aM k 7) (cond (aM z 0) (some false) r) r))=
  if(dy k 5→f=true)∧(dy k 6∨dy k 7→ ¬dy z 0)then r else some false:=by
 unfold dy
 rw[aN,aN,aN,aN,cond_not]
 by_cases h5:k=5
 ·have h6: ¬(k=6):=ω
  have h7: ¬(k=7):=ω
  cases f<;>simp[h5,h6,h7]
 ·by_cases h6:k=6
  ·by_cases hz:z=0<;>simp[h5,h6,hz]
  ·by_cases h7:k=7
   ·by_cases hz:z=0<;>simp[h5,h6,h7,hz]
   ·simp[h5,h6,h7]
theorem HL(N:Nat)(hN:200000≤N)(c:ag)(b:aq)(ha:b.2.1.length≤100000)(hl:b.2.2.2.2.2.1.length≤100000)(ho:eC b.2.2.2.2.2.1=true):
  cE.w4 N N c b 0=some (decide (∀j,j<b.2.2.2.2.2.1.length→qd c b.2.1 b.2.2.2.2.2.1 j)&&true):=by
 refine iK (F:=λn i=>cE.w4 N n c b i) (qd c b.2.1 b.2.2.2.2.2.1) (λn i r hi H6 hr=> ?_) (λn=> ?_) N ω
 ·unfold cE.w4 cE.vV
  unfold eC at ho
  rw[bP,fp]at ho
  have h1:=(ho.1 i hi).1
  unfold ry yW at h1
  have h2:decide (dy (b.2.2.2.2.2.1.getD i fy).2.1 0)=false:=cg (by unfold dy;omega)
  rw[aP ω,ak,aQ ω ω,ak,aE,aw (x:=(i:Int)+1) ω ω,ae,hr]
  simp only[uk N b ha hN,av,ak]
  rw[h2,tJ,FH]
  rfl
 ·unfold cE.w4 cE.vV
  rw[aL ω,ar]
theorem DG(N:Nat)(hN:200000≤N)(c:ag)(b:aq)(hl:b.2.2.2.2.1.length≤100000){e:Bool}(he:cE.w4 N N c b 0=some e):
  cE.MS N N c b 0=some (fe b.2.2.2.2.1&&e):=by
 refine iK (F:=λn i=>cE.MS N n c b i) (qc b.2.2.2.2.1) (λn i r hi H6 hr=> ?_) (λn=> ?_) N ω
 ·unfold cE.MS cE.MT
  rw[aP ω,ak,aQ ω ω,ak,aE,aw (x:=(i:Int)+1) ω ω,ae,hr,iM,av,cond_not,gL]
  rfl
 ·unfold cE.MS cE.MT
  rw[aL ω,ar];exact he
theorem HM(N:Nat)(hN:200000≤N)(c:ag)(b:aq)(ha:b.2.1.length≤100000)(hl:b.2.2.2.1.length≤100000){e:Bool}(he:cE.MS N N c b 0=some e):
  cE.m5 N N c b 0=some (decide (∀j,j<b.2.2.2.1.length→jh c b.2.1 b.2.2.2.1 j)&&e):=by
 refine iK (F:=λn i=>cE.m5 N n c b i) (jh c b.2.1 b.2.2.2.1) (λn i r hi H6 hr=> ?_) (λn=> ?_) N ω
 ·unfold cE.m5 cE.nK
  rw[aP ω,ak,aQ ω ω,ak,aE,aw (x:=(i:Int)+1) ω ω,ae,hr]
  simp only[uk N b ha hN,av,ak]
  rw[FH]
  have Wx:((((gd b.2.1 (b.2.2.2.1.getD i bf).1).2||decide (dy (b.2.2.2.1.getD i bf).1 0))=true)∧oY (b.2.2.2.1.getD i bf).2.1 c.1.length)↔jh c b.2.1 b.2.2.2.1 i:=by
   unfold jh
   rw[nk,fp]
   exact⟨λh=>⟨h.1.symm,h.2⟩,λh=>⟨h.1.symm,h.2⟩⟩
  by_cases hP:jh c b.2.1 b.2.2.2.1 i
  ·rw[aj hP,aj (Wx.2 hP)]
  ·rw[ah hP,ah (λh=>hP (Wx.1 h))]
 ·unfold cE.m5 cE.nK
  rw[aL ω,ar];exact he
theorem FI(N:Nat)(hN:200000≤N)(c:ag)(b:aq)(hm:b.1.length≤100000)(ha:b.2.1.length≤100000)(hl:b.2.2.1.length≤100000)(hk:eE b.2.2.1=true){e:Bool}
  (he:cE.m5 N N c b 0=some e):cE.l6 N N c b 0=some (decide (∀j,j<b.2.2.1.length→jP b.1 b.2.1 b.2.2.1 j)&&e):=by
 refine iK (F:=λn i=>cE.l6 N n c b i) (jP b.1 b.2.1 b.2.2.1) (λn i r hi H6 hr=> ?_) (λn=> ?_) N ω
 ·unfold cE.l6 cE.tb
  unfold eE at hk
  rw[gn,fp]at hk
  have h1:=(hk i hi).1
  rw[aP ω,ak,aQ ω ω,ak,aE,aw (x:=(i:Int)+1) ω ω,ae,hr]
  simp only[uk N b ha hN,rz N hm hN,av]
  rw[Qp]
  have Wx:((dy (b.2.2.1.getD i bf).1 5→((gd b.2.1 (b.2.2.1.getD i bf).2.1).2||decide (dy (b.2.2.1.getD i bf).2.1 0))=true)∧(dy (b.2.2.1.getD i bf).1 6∨dy (b.2.2.1.getD i bf).1 7→ ¬dy (iN b.1 (b.2.2.1.getD i bf).2.1) 0))↔jP b.1 b.2.1 b.2.2.1 i:=by
   unfold jP
   refine and_congr_left λ_=>imp_congr_right λh5=> ?_
   rw[nk,fp]
   refine⟨λh=>h.elim id λh0=> ?_,.inl⟩
   unfold cW at h1;unfold dy at h5 h0;omega
  by_cases hP:jP b.1 b.2.1 b.2.2.1 i
  ·rw[aj hP,aj (Wx.2 hP)]
  ·rw[ah hP,ah (λh=>hP (Wx.1 h))]
 ·unfold cE.l6 cE.tb
  rw[aL ω,ar];exact he
end VM
end
section
namespace VM
open Go VM.F
theorem oE{x:Bool}{r:Option Bool}{y:Bool}(h:x=true→r=some y):cond (!x) (some false) r=some (x&&y):=by
 cases x
 ·rfl
 ·exact h rfl
theorem Ng(N:Nat)(hN:5000000≤N){c:ag}{b:aq}(w:kz b):cE N c b=some (eu c b):=by
 unfold cE cE.b
 rw[nG N ω,av]
 have e0:aM (xD (gS b.2.2.1)) 0=decide (dy (gS b.2.2.1) 0):=by rw[jB,nh];exact ky
 refine(oE λ_=> ?_).trans (eA some (?_:(fG c&&(rB b.1 b.2.1&&(eE b.2.2.1&&(nJ b.2.2.2.1&&(eC b.2.2.2.2.2.1&&(decide (dy b.2.2.2.2.1.length c.1.length)&&(decide (dy (gS b.2.2.1) 0)&&
  (decide (∀j,j<b.2.2.1.length→jP b.1 b.2.1 b.2.2.1 j)&&(decide (∀j,j<b.2.2.2.1.length→jh c b.2.1 b.2.2.2.1 j)&&(fe b.2.2.2.2.1&&(decide (∀j,j<b.2.2.2.2.2.1.length→qd c b.2.1 b.2.2.2.2.2.1 j)&&true)))))))))))=eu c b))
 ·rw[w3 N w.m w.a ω,av]
  refine oE λ_=> ?_
  rw[FC N w.r ω,av]
  refine oE λhk=> ?_
  rw[Wv N w.qs w.s ω,av]
  refine oE λ_=> ?_
  rw[il N w.o ω,av]
  refine oE λho=> ?_
  rw[jB]
  refine oE λ_=> ?_
  rw[TH N w.qr w.r ω,av,p9,av,e0]
  refine oE λ_=> ?_
  exact FI N ω c b w.m w.a w.r hk (HM N ω c b w.a w.s (DG N ω c b w.p (HL N ω c b w.a w.o ho)))
 ·unfold eu
  generalize fG c=x1,rB b.1 b.2.1=x2,eE b.2.2.1=x3,nJ b.2.2.2.1=x4,eC b.2.2.2.2.2.1=x5,decide (dy b.2.2.2.2.1.length c.1.length)=x6,decide (dy (gS b.2.2.1) 0)=x7,decide (∀j,j<b.2.2.1.length→jP b.1 b.2.1 b.2.2.1 j)=x8,decide (∀j,j<b.2.2.2.1.length→jh c b.2.1 b.2.2.2.1 j)=x9,fe b.2.2.2.2.1=bg,decide (∀j,j<b.2.2.2.2.2.1.length→qd c b.2.1 b.2.2.2.2.2.1 j)=aV
  rw[gn]
  cases x1<;>cases x2<;>cases x3<;>cases x4<;>cases x5<;>cases x6<;>cases x7<;>try rfl
  cases x8<;>cases x9<;>cases bg<;>cases aV<;>rfl
end VM
end
section
namespace VM
open Go VM.F
def w5(a q n:Int)(i:Nat)(p:Int):Prop:=0≤a∧a<n∧q≠0∧se q∧(0<i→p<a)
instance(a q n:Int)(i:Nat)(p:Int):Decidable (w5 a q n i p):=by unfold w5;infer_instance
def w6(c:ag)(l:aG)(i:Nat):Prop:=w5 (l.getD i df).1 (l.getD i df).2.1 c.1.length i (l.getD (i-1) df).1
instance(c:ag)(l:aG):DecidablePred (w6 c l):=λi=>by unfold w6;infer_instance
def FJ(c:ag)(l:aG):Bool:=decide (∀j,j<l.length→w6 c l j)&&fG c
end VM
end
section
namespace VM
open Go VM.F
theorem AB(N:Nat)(hN:200000≤N)(c:ag){l:aG}(hl:l.length≤100000):nL N c l=some (FJ c l):=by
 unfold nL nL.b
 rw[nG N ω,av]
 have hsc:=iK (F:=λn i=>nL.l4 N n l c i) (e:=true) (w6 c l) (λn i r hi hp hr=> ?_) (λn=> ?_) N (show l.length<N by omega)
 ·rw[pk hsc];unfold FJ
  rw[gn,Bool.and_comm]
 ·unfold nL.l4 nL.dH
  rw[aP ω,ak,aQ ω ω,ak,aE,aw (x:=(i:Int)+1) ω ω,ae,hr]
  by_cases h0:0<i
  ·have e:W .i64 ((i:Int)-1)=((i-1:Nat):Int):=by rw[aw ω ω];omega
   dsimp only
   rw[aP (x:=0) (y:=(i:Int)) ω,e,aE,aQ (i:=((i-1:Nat):Int)) ω ω]
   simp only[cU,cP,aN,ak]
   by_cases hP:w6 c l i
   ·rw[aj hP];unfold w6 w5 at hP
    rw[ah ω,ah ω,ah hP.2.2.1,ah (show ¬((l.getD i df).2.1:Int)= -9223372036854775808 from hP.2.2.2.1),ah ω]
   ·rw[ah hP];unfold w6 w5 at hP
    have h2:=λh1 h2 h3 h4 h5=>hP ⟨h1,h2,h3,h4,h5⟩
    repeat' split
    all_goals first|rfl|(exfalso;exact h2 ω ω (by assumption) (by assumption) ω)
  ·rw[aL (x:=0) (y:=(i:Int)) ω]
   simp only[cU,cP,aN,ak,ar]
   by_cases hP:w6 c l i
   ·rw[aj hP];unfold w6 w5 at hP
    rw[ah ω,ah ω,ah hP.2.2.1,ah (show ¬((l.getD i df).2.1:Int)= -9223372036854775808 from hP.2.2.2.1)]
   ·rw[ah hP];unfold w6 w5 at hP
    have h2:=λh1 h2 h3 h4 h5=>hP ⟨h1,h2,h3,h4,h5⟩
    repeat' split
    all_goals first|rfl|(exfalso;exact h2 ω ω (by assumption) (by assumption) ω)
 ·unfold nL.l4 nL.dH
  rw[aL ω,ar]
end VM
end
section
namespace VM
open Go VM.F
def Kq(a b c d:Int):Prop:=(1≤a∧a≤1099511627776)∧(1≤b∧b≤1099511627776)∧(1≤c∧c≤12)∧(-1152921504606846976≤d∧d≤1152921504606846976)
instance(a b c d:Int):Decidable (Kq a b c d):=by unfold Kq;infer_instance
def IG(x:cy):Prop:=Kq x.1 x.2.1 x.2.2.1 x.2.2.2.1
instance(x:cy):Decidable (IG x):=by unfold IG;infer_instance
theorem R9(N:Nat)(x:cy):Wy N x=some (decide (IG x)):=by
 unfold Wy
 rw[oq x.2.2.2.1]
 repeat rw[gM]
 congr 1
 rw[o4,fp]
 unfold IG Kq
 simp only[bP,we]
 omega
end VM
end
section
namespace VM
open Go VM.F
def rD(m lot:Int)(x:cy):Bool:=decide (dy x.2.2.1 m)&&decide (dy x.2.1 lot)
end VM
end
section
namespace VM
open Go VM.F
def AD(l:aO)(i:Nat):Prop:=IG (l.getD i a7)∧uh i (l.getD (i-1) a7).1 (l.getD i a7).1∧(l.take i).any (rD (l.getD i a7).2.2.1 (l.getD i a7).2.1)=false
instance(l:aO):DecidablePred (AD l):=λi=>by unfold AD;infer_instance
def Wz(l:aO):Bool:=decide (∀j,j<l.length→AD l j)&&decide (l.length≤40)
end VM
end
section
namespace VM
open Go VM.F
def dj(a b:Int):au→List Int
 |[]=>[]
 |x::t=>if x.1=a∧x.2.1=b then dW x::dj a b t else dj a b t
theorem eV(a b:Int)(x:dd)(t:au):dj a b (x::t)=if x.1=a∧x.2.1=b then dW x::dj a b t else dj a b t:=rfl
def bX(a b:Int)(l:au):Int:=(dj a b l).sum
theorem BG(a b:Int):bX a b []=0:=rfl
theorem gg(a b:Int)(x:dd)(t:au):bX a b (x::t)=(if x.1=a∧x.2.1=b then dW x else 0)+bX a b t:=by
 unfold bX
 rw[eV]
 split
 ·rw[cH]
 ·omega
theorem kA{a b:Int}: ∀{l:au},(∀x∈l,¬(x.1=a∧x.2.1=b))→bX a b l=0
 |[],_=>rfl
 |x::t,h=>by
  rw[gg,ah (h x (bp ..)),kA (λy hy=>h y (a8 _ hy))];rfl
abbrev cR:=Int×Int
def td(x y:cR):Prop:=lj x.1 x.2 y.1 y.2
instance(x y:cR):Decidable (td x y):=by unfold td;infer_instance
def keyOf(x:dd):cR:=(x.1,x.2.1)
def sR(K:List cR):Prop:=K.Pairwise td
theorem mi{x:cR}(h:td x x):False:=by unfold td lj at h;omega
theorem IH{x y:cR}(h:td x y)(k:td y x):False:=by unfold td lj at*;omega
theorem xE{x y z:cR}(h:td x y)(k:td y z):td x z:=by unfold td lj at*;omega
theorem Sa(x y:cR):td x y∨x=y∨td y x:=by
 have:(x.1=y.1∧x.2=y.2)→x=y:=λh=>gG h.1 h.2
 unfold td lj
 by_cases h1:x.1=y.1
 ·by_cases h2:x.2=y.2
  ·exact Or.inr (Or.inl (this ⟨h1,h2⟩))
  ·omega
 ·omega
theorem Sb: ∀{a b:List cR},sR a→sR b→(∀x,x∈a↔x∈b)→a=b
 |[],[],_,_,_=>rfl
 |[],y::t,_,_,h=>nomatch (h y).2 (bp ..)
 |x::s,[],_,_,h=>nomatch (h x).1 (bp ..)
 |x::s,y::t,ha,hb,h=>by
  obtain⟨ZO,ha2⟩:=eK.1 ha
  obtain⟨mG,tU⟩:=eK.1 hb
  have YL:x=y:=by
   rcases aX.1 ((h x).1 (bp ..))with e|e
   ·exact e
   ·rcases aX.1 ((h y).2 (bp ..))with f|f
    ·exact f.symm
    ·exact(IH (ZO y f) (mG x e)).elim
  subst YL
  rw[Sb ha2 tU λz=>⟨λhz=> ?_,λhz=> ?_⟩]
  ·rcases aX.1 ((h z).1 (a8 _ hz))with e|e
   ·subst e;exact(mi (ZO z hz)).elim
   ·exact e
  ·rcases aX.1 ((h z).2 (a8 _ hz))with e|e
   ·subst e;exact(mi (mG z hz)).elim
   ·exact e
def ej(P:Int→Prop) [DecidablePred P](f:Int→Int→Int):List cR→Option au
 |[]=>some []
 |k::t=>if P (f k.1 k.2)then(ej P f t).map (λo=>if f k.1 k.2=0 then o else(k.1,(k.2,(f k.1 k.2,())))::o)else none
theorem jy(P:Int→Prop) [DecidablePred P](f:Int→Int→Int)(k:cR)(t:List cR):ej P f (k::t)=if P (f k.1 k.2)then(ej P f t).map (λo=>if f k.1 k.2=0 then o else(k.1,(k.2,(f k.1 k.2,())))::o)else none:=rfl
theorem CS{P:Int→Prop} [DecidablePred P](h0:P 0){f:Int→Int→Int}(p:cR→Bool): ∀{K:List cR},(∀k∈K,p k=false→f k.1 k.2=0)→ej P f (K.filter p)=ej P f K
 |[],_=>rfl
 |k::t,h=>by
  have ih:=CS h0 p (K:=t) (λx hx=>h x (a8 _ hx))
  cases hp:p k
  ·rw[List.filter_cons_of_neg (by rw[hp];decide),ih,jy,h k (bp ..) hp,aj h0]
   simp
  ·rw[List.filter_cons_of_pos hp,jy,jy,ih]
theorem Nh{P:Int→Prop} [DecidablePred P](h0:P 0){f:Int→Int→Int}{K G:List cR}(hK:sR K)(hG:sR G)(hs: ∀k∈K,k∈G)(hz: ∀k∈G,k∉K→f k.1 k.2=0):ej P f K=ej P f G:=by
 have e:K=G.filter (λk=>decide (k∈K)):=by
  refine Sb hK (tE List.filter_sublist hG) λx=> ?_
  rw[wj]
  exact⟨λh=>⟨hs x h,bs h⟩,λh=>bF h.2⟩
 rw[e]
 exact CS h0 _ λk hk hp=>hz k hk (of_decide_eq_false hp)
def w7(k:cR):List cR→List cR
 |[]=>[k]
 |x::t=>if td x k then x::w7 k t else if x=k then x::t else k::x::t
theorem rE{k x:cR}: ∀{K:List cR},x∈w7 k K↔x=k∨x∈K
 |[]=>by show x∈[k]↔_;simp
 |y::t=>by
  show x∈(if td y k then y::w7 k t else if y=k then y::t else k::y::t)↔_
  split
  ·rw[aX,rE,aX]
   exact⟨λh=>h.elim (λe=>Or.inr (Or.inl e)) (λh=>h.elim Or.inl (λh=>Or.inr (Or.inr h))),λh=>h.elim (λe=>Or.inr (Or.inl e)) (λh=>h.elim Or.inl (λh=>Or.inr (Or.inr h)))⟩
  ·split
   ·rename_i e
    rw[←e]
    exact⟨Or.inr,λh=>h.elim (λe=>e▸bp ..) id⟩
   ·rw[aX]
theorem AE{k:cR}: ∀{K:List cR},sR K→sR (w7 k K)
 |[],_=>eK.2 ⟨λ_ h=>(nomatch h),List.Pairwise.nil⟩
 |y::t,h=>by
  obtain⟨h1,h2⟩:=eK.1 h
  show sR (if td y k then y::w7 k t else if y=k then y::t else k::y::t)
  split
  ·rename_i hy
   exact eK.2 ⟨λz hz=>(rE.1 hz).elim (λe=>e▸hy) (h1 z),AE h2⟩
  ·rename_i hy
   split
   ·exact h
   ·rename_i he
    have hk:td k y:=(Sa y k).elim (λh=>absurd h hy) (λh=>h.elim (λh=>absurd h he) id)
    exact eK.2 ⟨λz hz=>(aX.1 hz).elim (λe=>e▸hk) (λhz=>xE hk (h1 z hz)),h⟩
def nM(K:List cR)(E:au):List cR:=E.foldl (λK x=>w7 (keyOf x) K) K
theorem sS(K:List cR)(x:dd)(E:au):nM K (x::E)=nM (w7 (keyOf x) K) E:=rfl
theorem yZ: ∀{E:au} {K:List cR},sR K→sR (nM K E)
 |[],_,h=>h
 |x::E,K,h=>by rw[sS];exact yZ (AE h)
theorem mC{k:cR}: ∀{E:au} {K:List cR},k∈nM K E↔(k∈K∨ ∃x∈E,keyOf x=k)
 |[],K=>by
  show k∈K↔_
  simp
 |x::E,K=>by
  rw[sS,mC,rE]
  constructor
  ·rintro((rfl|h)|⟨y,hy,e⟩)
   ·exact Or.inr ⟨x,bp ..,rfl⟩
   ·exact Or.inl h
   ·exact Or.inr ⟨y,a8 _ hy,e⟩
  ·rintro(h|⟨y,hy,e⟩)
   ·exact Or.inl (Or.inr h)
   ·rcases aX.1 hy with rfl|hy
    ·exact Or.inl (Or.inl e.symm)
    ·exact Or.inr ⟨y,hy,e⟩
theorem FK(k:cR): ∀K:List cR,(w7 k K).length≤K.length+1
 |[]=>aI _
 |y::t=>by
  show(if td y k then y::w7 k t else if y=k then y::t else k::y::t).length≤_
  have:=FK k t
  split
  ·rw[aW,aW];omega
  ·split<;>rw[aW]<;>(try rw[aW])<;>omega
def rowsOf(l:au)(K:List cR):au:=K.map λk=>(k.1,(k.2,(bX k.1 k.2 l,())))
theorem mN{l:au}(h:sR (l.map keyOf)):rowsOf l (l.map keyOf)=l:=by
 have key: ∀(m:au),sR (m.map keyOf)→(∀x∈m,bX x.1 x.2.1 l=dW x)→rowsOf l (m.map keyOf)=m:=by
  intro m
  induction m with
  |nil=>intro _ _;rfl
  |cons x t ih=>
   intro hm hx
   have:=ih (eK.1 hm).2 (λy hy=>hx y (a8 _ hy))
   unfold rowsOf at*
   rw[bR,bR,this]
   congr 1
   show(x.1,(x.2.1,(bX x.1 x.2.1 l,())))=x
   rw[hx x (bp ..)];rfl
 refine key l h ?_
 clear key
 induction l with
 |nil=>intro x hx;nomatch hx
 |cons y t ih=>
  intro x hx
  obtain⟨h1,h2⟩:=eK.1 h
  have iI: ∀z∈t,¬(z.1=y.1∧z.2.1=y.2.1):=λz hz e=>by
   have hk:=h1 (keyOf z) (eX hz)
   have he:keyOf z=keyOf y:=gG e.1 e.2
   rw[he]at hk
   exact mi hk
  rw[gg]
  rcases aX.1 hx with rfl|hx
  ·rw[aj ⟨rfl,rfl⟩,kA iI];omega
  ·rw[ah (λe=>iI x hx ⟨e.1.symm,e.2.symm⟩),ih h2 x hx];omega
end VM
end
section
namespace VM
open Go VM.F
instance(x:Int):Decidable (aH x):=by unfold aH;infer_instance
def Fq(x:Int):Prop:=aH x∧se x
instance:DecidablePred Fq:=λx=>by unfold Fq;infer_instance
def vi(r:Option au):Option (au×Int):=some (match r with|some o=>(o,0)|none=>([],2))
def fS(l E:au)(a b:Int):Int:=bX a b l+bX a b E
theorem D8{α:Type}(N:Nat){l:List α}{i:Nat}{x:α}(hi:i≤l.length)(hl:l.length<1000000):kM N l (i:Int) [x]=some (l.take i++x::l.drop i):=by
 unfold kM
 rw[aj ⟨ω,ω,rfl,by unfold yE;omega⟩]
 rfl
theorem w8{α:Type}(N:Nat){l:List α}(hl:l.length≤1000000):ou N l=some l:=by
 unfold ou
 rw[aj (by unfold yE;omega)]
theorem FL(N:Nat){v:Int}(h:eB v):Kh N (dM v)=some (Ap v):=Kg N h.1 h.2
theorem xF{v:Int}(h:aH v):Ap v=(v,true):=by unfold Ap;exact aj h
theorem AF{v:Int}(h: ¬aH v):Ap v=(0,false):=by unfold Ap;exact ah h
theorem BH{ws:List Int}{x:Int}(h: ∀y∈ws,aH y)(hx:aH x): ∀y∈ws++[x],aH y:=λy hy=>by
 rcases bo.1 hy with hy|hy
 ·exact h y hy
 ·rw[cm.1 hy];exact hx
theorem Ni(N:Nat){l:au}:aaf N l=some l:=by
 unfold aaf
 rw[dq ω ω ω ω,ak]
 simp
theorem WA(N:Nat)(hN:2000000≤N)(K:cn.II){E out R:au}(hq:eJ E)(hl:E.length≤100000)(ho:out.length≤1000000)(r:dd)(hr:aH (dW r))(i:Nat)(hi:i≤1000000):
  cn.l27 N K N E out r [dM (dW r)] R (R.length:Int) (i:Int) E (E.length:Int) 0=
   if Fq (dW r+bX r.1 r.2.1 E)then K E (if dW r+bX r.1 r.2.1 E=0 then out else out++[(r.1,(r.2.1,(dW r+bX r.1 r.2.1 E,())))]) R (R.length:Int) ((i+1:Nat):Int)else some (bK,(2:Int)):=by
 have:=sm E bf (λn j ws=>cn.l27 N K n E out r (ws.map dM) R (R.length:Int) (i:Int) E (E.length:Int) j)
  (λt ws=>if Fq (ws++dj r.1 r.2.1 t).sum then K E (if(ws++dj r.1 r.2.1 t).sum=0 then out else out++[(r.1,(r.2.1,((ws++dj r.1 r.2.1 t).sum,())))]) R (R.length:Int) ((i+1:Nat):Int)else some (bK,(2:Int)))
  (λj (ws:List Int)=>ws.length≤j+1∧ ∀x∈ws,aH x)
  (λn j ws hj hI eZ=> ?_) (λn ws hI=> ?_) E.length N 0 [dW r] ω ω ω ⟨aI _,λx hx=>by rw[cm.1 hx];exact hr⟩
 ·rw[show((0:Nat):Int)=0 from rfl,cM]at this
  refine this.trans ?_
  have e:([dW r]++dj r.1 r.2.1 E).sum=dW r+bX r.1 r.2.1 E:=by rw[zs,cH];rfl
  rw[e]
 ·unfold cn.l27 cn.aag
  have vU:=yY hq j
  have iO:=vU
  unfold aH dW at iO
  rw[aP ω,ak,aQ ω ω,ak,aE,BA N iO.1 iO.2,av,bQ (by rw[cO,aK];omega),ak,aw (x:=(j:Int)+1) ω ω,ae,aN,aN]
  by_cases h1:(E.getD j bf).1=r.1
  ·by_cases h2:(E.getD j bf).2.1=r.2.1
   ·have hc:dj r.1 r.2.1 (E.getD j bf::E.drop (j+1))=dW (E.getD j bf)::dj r.1 r.2.1 (E.drop (j+1)):=by rw[eV,aj ⟨h1,h2⟩]
    rw[aj h1,aj h2,hc]
    have:=eZ (ws++[dW (E.getD j bf)]) ⟨by rw[aT,aK];omega,BH hI.2 vU⟩
    rw[dn]at this
    refine this.trans ?_
    rw[bM];rfl
   ·have hc:dj r.1 r.2.1 (E.getD j bf::E.drop (j+1))=dj r.1 r.2.1 (E.drop (j+1)):=by rw[eV,ah (λh=>h2 h.2)]
    rw[aj h1,ah h2,hc]
    exact eZ ws ⟨ω,hI.2⟩
  ·have hc:dj r.1 r.2.1 (E.getD j bf::E.drop (j+1))=dj r.1 r.2.1 (E.drop (j+1)):=by rw[eV,ah (λh=>h1 h.1)]
   rw[ah h1,hc]
   exact eZ ws ⟨ω,hI.2⟩
 ·unfold cn.l27 cn.aag
  have hs:=IF hI.2 ω
  rw[aL ω,ar,Kk N hI.2 ω ω,av]
  show _=if Fq (ws++[]).sum then K E (if(ws++[]).sum=0 then out else out++[(r.1,(r.2.1,((ws++[]).sum,())))]) R (R.length:Int) ((i+1:Nat):Int)else some (bK,(2:Int))
  rw[cK,FL N hs,av]
  by_cases h1:aH ws.sum
  ·rw[xF h1]
   dsimp only
   rw[aY,ar,wZ,av,cond_not,gL,cond_not,aN,bQ (by rw[aK];omega),ak,aw (x:=(i:Int)+1) ω ω,ae]
   by_cases h2:se ws.sum
   ·rw[aj h2,aj (show Fq ws.sum from⟨h1,h2⟩)]
    split<;>rfl
   ·rw[ah h2,ah (λh=>h2 h.2)]
  ·rw[AF h1,ah (λh=>h1 h.1)]
   rfl
theorem TL(N:Nat)(hN:2000000≤N){l E R:au}(hq:eJ E)(hl:E.length≤100000)(hR:R.length≤200000)(hv: ∀r∈R,aH (dW r)∧dW r=bX r.1 r.2.1 l):
  cn.l23 N N E [] R (R.length:Int) 0=vi (ej Fq (fS l E) (R.map keyOf)):=by
 have:=sm R bf (λn i out=>cn.l23 N n E out R (R.length:Int) i) (λt out=>vi ((ej Fq (fS l E) (t.map keyOf)).map (λo=>out++o))) (λi (out:au)=>out.length≤i)
  (λn i out hi hI hr=> ?_) (λn out hI=> ?_) R.length N 0 [] ω ω ω (aI _)
 ·rw[show((0:Nat):Int)=0 from rfl,cM]at this
  refine this.trans ?_
  simp
 ·unfold cn.l23 cn.aai
  have hm:R.getD i bf∈R:=by
   rw[aR,bl hi];exact eL hi
  have Vn:=hv _ hm
  have vU:=Vn.1
  have iO:=vU
  unfold aH dW at iO
  rw[aP ω,ak,aQ ω ω,ak,aE,BA N iO.1 iO.2,av]
  refine(WA N hN _ hq hl ω _ vU i ω).trans ?_
  rw[bR,jy]
  have ef:fS l E (keyOf (R.getD i bf)).1 (keyOf (R.getD i bf)).2=dW (R.getD i bf)+bX (R.getD i bf).1 (R.getD i bf).2.1 E:=by
   show bX _ _ l+bX _ _ E=_
   rw[Vn.2];rfl
  rw[ef]
  generalize hS:dW (R.getD i bf)+bX (R.getD i bf).1 (R.getD i bf).2.1 E=v
  by_cases hF:Fq v
  ·rw[aj hF,aj hF,hr _ (by
    split
    ·omega
    ·rw[aT,aK];omega)]
   cases ej Fq (fS l E) ((R.drop (i+1)).map keyOf)with
   |none=>rfl
   |some o=>
    show vi (some _)=vi (some _)
    congr 2
    split
    ·rfl
    ·exact bM _ _ _
  ·rw[ah hF,ah hF];rfl
 ·unfold cn.l23 cn.aai
  rw[aL ω,ar,Ni,av]
  show _=vi (some (out++[]))
  rw[cK];rfl
def DH(l:au)(k:cR):dd:=(k.1,(k.2,(bX k.1 k.2 l,())))
theorem eF(l:au)(K:List cR):(rowsOf l K).length=K.length:=cO ..
theorem IJ(l:au){K:List cR}{p:Nat}(h:p<K.length):(rowsOf l K).getD p bf=DH l (K.getD p (0,0)):=by
 unfold rowsOf
 rw[aR,nf,bl h,aR,bl h];rfl
theorem vj(l:au)(K:List cR)(p:Nat)(k:cR):(rowsOf l K).take p++DH l k::(rowsOf l K).drop p=rowsOf l (K.take p++k::K.drop p):=by
 unfold rowsOf
 rw[dn,bR,List.map_take,List.map_drop];rfl
theorem CT(l:au)(K:List cR):(rowsOf l K).map keyOf=K:=by
 unfold rowsOf
 rw[List.map_map]
 induction K with
 |nil=>rfl
 |cons k t ih=>rw[bR,ih];rfl
theorem AG{k x:cR}:0<BB k.1 k.2 x.1 x.2↔td x k:=by
 unfold BB td lj;split<;>omega
theorem xG{k x:cR}:BB k.1 k.2 x.1 x.2=0↔x=k:=by
 have:x=k↔x.1=k.1∧x.2=k.2:=⟨λh=>h▸⟨rfl,rfl⟩,λh=>gG h.1 h.2⟩
 rw[this]
 unfold BB;split<;>omega
def AH(k:cR):Prop:=HJ k.1∧HJ k.2
theorem Sc{k:cR}{K:List cR}{p:Nat}(h:p<K.length):w7 k (K.drop p)=if td (K.getD p (0,0)) k then K.getD p (0,0)::w7 k (K.drop (p+1))else if K.getD p (0,0)=k then K.drop p else k::K.drop p:=by
 rw[drop_cons h (0,0)];rfl
theorem AI{K:List cR}{p:Nat}(h:p<K.length)(t:List cR):K.take p++K.getD p (0,0)::t=K.take (p+1)++t:=by
 rw[←sD h,bM,aR,bl h];rfl
def zeroAt(l:au)(K:List cR)(k:cR):Prop:=k∉K→bX k.1 k.2 l=0
theorem xH{l:au}{k:cR}(h:bX k.1 k.2 l=0):((k.1,(k.2,((0:Int),()))):dd)=DH l k:=by
 unfold DH;rw[h]
theorem vk{k:cR}{K:List cR}{p:Nat}(hs:sR K)(hp: ∀x∈K.take p,td x k)(h: ∀x∈K.drop p,td k x):k∉K:=λhk=>by
 rw[←fW p K]at hk
 rcases bo.1 hk with hk|hk
 ·exact mi (hp k hk)
 ·exact mi (h k hk)
theorem Sd{k:cR}{K:List cR}{p:Nat}(hs:sR K)(h:p<K.length)(h1: ¬td (K.getD p (0,0)) k)(h2:K.getD p (0,0)≠k): ∀x∈K.drop p,td k x:=by
 have hk:td k (K.getD p (0,0)):=(Sa (K.getD p (0,0)) k).elim (λh=>absurd h h1) (λh=>h.elim (λh=>absurd h h2) id)
 have hd:sR (K.drop p):=tE (List.drop_sublist ..) hs
 rw[drop_cons h (0,0)]at hd ⊢
 intro x hx
 rcases aX.1 hx with rfl|hx
 ·exact hk
 ·exact xE hk ((eK.1 hd).1 x hx)
theorem afU(N:Nat)(C:cn.gz){l E S:au}{K:List cR}(hs:sR K)(hl:K.length≤100000)(hf: ∀k∈K,AH k)(x:dd)(hx:AH (keyOf x))(hz:zeroAt l K (keyOf x))(len:Int)(i:Nat)(hi:i≤1000000):
  ∀(m n p:Nat),K.length-p≤m→m<n→p≤K.length→(∀y∈K.take p,td y (keyOf x))→
   cn.sQ N C n E (rowsOf l K) x (p:Int) S len (i:Int)=C E (rowsOf l (K.take p++w7 (keyOf x) (K.drop p))) S len ((i+1:Nat):Int)
 |m,0,p,_,hn,_,_=>ω
 |m,n+1,p,hm,hn,hp,hb=>by
  unfold cn.sQ cn.so cn.j18 cn.ahO
  rw[eF,aw (x:=(i:Int)+1) ω ω,ae i]
  by_cases h:p<K.length
  ·have hfk:=hf (K.getD p (0,0)) (by rw[aR,bl h];exact eL h)
   have ho:TB N x.1 x.2.1 ((rowsOf l K).getD p bf)=some (BB (keyOf x).1 (keyOf x).2 (K.getD p (0,0)).1 (K.getD p (0,0)).2):=by
    rw[IJ l h]
    exact IC N hx.1 hx.2 hfk.1 hfk.2
   rw[aP ω,ak,aQ ω ω,ak,aE,ho,av,du (x:=(p:Int)) ω,ar,ak,av,cU,cond_not,aN,Sc h]
   by_cases h1:td (K.getD p (0,0)) (keyOf x)
   ·rw[aj (AG.2 h1),aj h1,aw (x:=(p:Int)+1) ω ω,ae p,AI h]
    refine afU N C hs hl hf x hx hz len i hi (m-1) n (p+1) ω ω ω λy hy=> ?_
    rw[←sD h]at hy
    rcases bo.1 hy with hy|hy
    ·exact hb y hy
    ·rw[aR,bl h]at h1
     rw[cm.1 hy];exact h1
   ·rw[ah (λh=>h1 (AG.1 h)),ah h1]
    by_cases h2:K.getD p (0,0)=keyOf x
    ·rw[aj (xG.2 h2),aj h2,fW]
    ·rw[ah (λh=>h2 (xG.1 h)),ah h2,D8 N (by rw[eF];omega) (by rw[eF];omega),av]
     have Dm:=hz (vk hs hb (Sd hs h h1 h2))
     have e:=vj l K p (keyOf x)
     rw[←xH Dm]at e
     exact eA (λR=>C E R S len ((i+1:Nat):Int)) e
  ·have hd:K.drop p=[]:=qH ω
   rw[aL ω,ar,dt ω,ak,D8 N (by rw[eF];omega) (by rw[eF];omega),av]
   have Dm:=hz (vk hs hb (by rw[hd];exact λx hx=>nomatch hx))
   have e:=vj l K p (keyOf x)
   rw[←xH Dm]at e
   have e2:w7 (keyOf x) (K.drop p)=keyOf x::K.drop p:=by rw[hd];rfl
   rw[e2]
   exact eA (λR=>C E R S len ((i+1:Nat):Int)) e
end VM
end
section
namespace VM
open Go VM.F
def IK(E:au)(i:Nat):Prop:=dy (c9 (i:Int) E).sum 0
instance(E:au):DecidablePred (IK E):=λi=>by unfold IK;infer_instance
theorem aaj(N:Nat)(hN:2000000≤N)(K:gD.de){E:au}(hq:eJ E)(hl:E.length≤100000)(a:Nat)(ha:a<6):
  gD.l6 N K N E (a:Int) [] (a:Int) E (E.length:Int) 0=if(c9 (a:Int) E).sum=0 then K E ((a+1:Nat):Int)else some false:=by
 have:=sm E bf (λn j ws=>gD.l6 N K n E (a:Int) (ws.map dM) (a:Int) E (E.length:Int) j)
  (λt ws=>if(ws++c9 (a:Int) t).sum=0 then K E ((a+1:Nat):Int)else some false)
  (λj (ws:List Int)=>ws.length≤j∧ ∀x∈ws,aH x)
  (λn j ws hj hI hr=> ?_) (λn ws hI=> ?_) E.length N 0 [] ω ω ω ⟨aI _,λx hx=>nomatch hx⟩
 ·rw[show((0:Nat):Int)=0 from rfl,cM]at this
  exact this
 ·unfold gD.l6 gD.tb
  have vU:=yY hq j
  have iO:=vU
  unfold aH dW at iO
  rw[aP ω,ak,aQ ω ω,ak,aE,BA N iO.1 iO.2,av,bQ (by rw[cO,aK];omega),ak,aw (x:=(j:Int)+1) ω ω,ae j,aN]
  by_cases h1:(E.getD j bf).2.1=(a:Int)
  ·have hc:c9 (a:Int) (E.getD j bf::E.drop (j+1))=dW (E.getD j bf)::c9 (a:Int) (E.drop (j+1)):=by rw[dF,aj h1]
   rw[aj h1,hc]
   have:=hr (ws++[dW (E.getD j bf)]) ⟨by rw[aT,aK];omega,BH hI.2 vU⟩
   rw[dn]at this
   refine this.trans ?_
   rw[bM];rfl
  ·have hc:c9 (a:Int) (E.getD j bf::E.drop (j+1))=c9 (a:Int) (E.drop (j+1)):=by rw[dF,ah h1]
   rw[ah h1,hc]
   exact hr ws ⟨ω,hI.2⟩
 ·unfold gD.l6 gD.tb
  rw[aL ω,ar,Kk N hI.2 ω ω,av]
  show _=if(ws++[]).sum=0 then K E ((a+1:Nat):Int)else some false
  rw[cK,aY,ar,AA,av,cond_not,aN,aw (x:=(a:Int)+1) ω ω,ae a]
  by_cases h:ws.sum=0
  ·rw[aj h,aj (ky.2 h)]
  ·rw[ah h,ah (λk=>h (ky.1 k))]
theorem WB(N:Nat)(hN:2000000≤N){E:au}(hq:eJ E)(hl:E.length≤100000):gD N E=some (decide (∀j,j<jC→IK E j)&&true):=by
 unfold gD gD.b
 refine iK (len:=jC) (F:=λn i=>gD.l2 N n E i) (IK E) (λn i r hi hp hr=> ?_) (λn=> ?_) N (by unfold jC;omega)
 ·unfold gD.l2 gD.gV
  unfold jC at hi
  rw[aP ω,ak,aaj N hN _ hq hl i hi,hr]
  unfold IK dy
  rfl
 ·unfold gD.l2 gD.gV
  rw[aL (by unfold jC;omega),ar]
structure WC(E:au):Prop where
 place: ∀x∈E,bU x.1 x.2.1
 q: ∀x∈E,aH (dW x)∧se (dW x)
 len:E.length≤400
 flat: ∀i:Int,(c9 i E).sum=0
theorem IL{x:dd}(h:bU x.1 x.2.1):AH (keyOf x):=by
 have h':bU (keyOf x).1 (keyOf x).2:=h
 unfold bU at h'
 unfold AH HJ
 omega
theorem gA{l:au}{k:cR}(h:k∉l.map keyOf):bX k.1 k.2 l=0:=kA λx hx e=>h (by
 have:keyOf x=k:=gG e.1 e.2
 rw[←this];exact eX hx)
theorem TM(N:Nat)(hN:2000000≤N){l E:au}(hq:eJ E)(hE:E.length≤400)(hp: ∀x∈E,AH (keyOf x))(hs:sR (l.map keyOf))(hl:l.length≤90000)(WD:eJ l)(Lm: ∀x∈l,AH (keyOf x)):
  cn.oF N N E l E (E.length:Int) 0=vi (ej Fq (fS l E) (nM (l.map keyOf) E)):=by
 have:=sm E bf (λn i K=>cn.oF N n E (rowsOf l K) E (E.length:Int) i) (λt K=>vi (ej Fq (fS l E) (nM K t)))
  (λi (K:List cR)=>K.length≤l.length+i∧sR K∧(∀k∈K,AH k)∧ ∀x∈l,keyOf x∈K)
  (λn i K hi hI hr=> ?_) (λn K hI=> ?_) E.length N 0 (l.map keyOf) ω ω ω ⟨by rw[cO];omega,hs,λk hk=>by
   obtain⟨x,hx,rfl⟩:=cD.1 hk
   exact Lm x hx,λx hx=>eX hx⟩
 ·rw[show((0:Nat):Int)=0 from rfl,cM]at this
  simp only[mN hs]at this
  exact this
 ·unfold cn.oF cn.mX
  obtain⟨h1,h2,h3,h4⟩:=hI
  have hm:E.getD i bf∈E:=by
   rw[aR,bl hi];exact eL hi
  rw[aP ω,ak,aQ ω ω,ak,aE]
  refine(afU N _ h2 ω h3 (E.getD i bf) (hp _ hm) (λhk=>gA λhx=>hk (by
   obtain⟨x,hx,e⟩:=cD.1 hx
   rw[←e];exact h4 x hx)) (E.length:Int) i ω K.length N 0 ω ω ω (λy hy=>nomatch hy)).trans ?_
  rw[kd,cL,cM,sS]
  refine hr (w7 (keyOf (E.getD i bf)) K) ⟨cA (FK _ K) ω,AE h2,λk hk=>(rE.1 hk).elim (λe=>e▸hp _ hm) (h3 k),λx hx=>rE.2 (Or.inr (h4 x hx))⟩
 ·unfold cn.oF cn.mX
  obtain⟨h1,h2,h3,h4⟩:=hI
  rw[aL ω,ar,eF,cj ω ω ω,ak]
  have:=TL N hN (l:=l) (R:=rowsOf l K) hq ω (by rw[eF];omega) (λr hr=>by
   unfold rowsOf at hr
   obtain⟨k,hk,rfl⟩:=cD.1 hr
   refine⟨?_,rfl⟩
   show aH (bX k.1 k.2 l)
   by_cases hkl:k∈l.map keyOf
   ·have e:rowsOf l (l.map keyOf)=l:=mN hs
    have hm:DH l k∈rowsOf l (l.map keyOf):=eX hkl
    rw[e]at hm
    exact WD (DH l k) hm
   ·rw[gA hkl];exact⟨δ,δ⟩)
  rw[CT,eF]at this
  exact this
theorem dw{l:au}(h:da l=true):sR (l.map keyOf)∧(∀x∈l,bU x.1 x.2.1∧se (dW x)):=by
 unfold da at h
 rw[gn]at h
 have h':=bF h
 have get: ∀(i:Nat) (hi:i<l.length),l.getD i bf=l[i]:=λi hi=>by rw[aR,bl hi];rfl
 have WE: ∀i,i+1<l.length→td (keyOf (l.getD i bf)) (keyOf (l.getD (i+1) bf)):=λi hi=>(h' (i+1) hi).2.2.2 ω
 have fA: ∀j,j<l.length→ ∀i,i<j→td (keyOf (l.getD i bf)) (keyOf (l.getD j bf)):=by
  intro j
  induction j with
  |zero=>intro _ i hi;omega
  |succ j ih=>
   intro hj i hi
   by_cases e:i=j
   ·rw[e];exact WE j hj
   ·exact xE (ih ω i ω) (WE j hj)
 refine⟨?_,λx hx=> ?_⟩
 ·refine tF.2 (p4.2 λi j hi hj pF=> ?_)
  have:=fA j hj i pF
  rw[get i hi,get j hj]at this
  exact this
 ·obtain⟨i,hi,e⟩:=fX hx
  have:=h' i hi
  unfold lR mA at this
  rw[get i hi,e]at this
  exact⟨this.1,this.2.2.1⟩
theorem aak(N:Nat)(hN:2000000≤N){l E:au}(hk:da l=true)(hl:l.length≤90000)(WD:eJ l)(g:WC E):cn N l E=vi (ej Fq (fS l E) (nM (l.map keyOf) E)):=by
 obtain⟨hs,Lm⟩:=dw hk
 have hE:=g.len
 unfold cn cn.b
 rw[Av N ω ω,hk,av,aY,ar,aL ω,ar]
 refine Au E bf (λn i=>cn.l4 N n l E E (E.length:Int) i) (λ_=>vi (ej Fq (fS l E) (nM (l.map keyOf) E))) (λn i hi hr=> ?_) (λn=> ?_) N ω
 ·unfold cn.l4 cn.dH
  have hm:E.getD i bf∈E:=by
   rw[aR,bl hi];exact eL hi
  rw[aP ω,ak,aQ ω ω,ak,aE,R6,bs (g.place _ hm),av,aY,ar,wZ,av,
   bs (show se ((E.getD i bf).2.2.1)from(g.q _ hm).2),aY,ar,aw (x:=(i:Int)+1) ω ω,ae i]
  exact hr
 ·unfold cn.l4 cn.dH
  have hf:gD N E=some true:=by
   rw[WB N hN (λx hx=>(g.q x hx).1) ω,bs (p:= ∀j,j<jC→IK E j) (λj _=>g.flat (j:Int))];rfl
  rw[aL ω,ar,hf,av,aY,ar,w8 N ω,av]
  exact TM N hN (λx hx=>(g.q x hx).1) hE (λx hx=>IL (g.place x hx)) hs hl WD (λx hx=>IL (Lm x hx).1)
end VM
end
section
namespace VM
open Go VM.F
def AJ(a b:Nat):Nat→List cR
 |0=>[]
 |m+1=>((a:Int),(b:Int))::AJ a (b+1) m
def yB(w a:Nat):Nat→List cR
 |0=>[]
 |m+1=>AJ a 0 w++yB w (a+1) m
theorem AK{k:cR}{a:Nat}: ∀{m b:Nat},k∈AJ a b m↔k.1=a∧(b:Int)≤k.2∧k.2<(b+m:Nat)
 |0,b=>⟨λh=>(nomatch h),λh=>ω⟩
 |m+1,b=>by
  show k∈((a:Int),(b:Int))::AJ a (b+1) m↔_
  rw[aX,AK]
  have:k=((a:Int),(b:Int))↔k.1=a∧k.2=b:=⟨λh=>h▸⟨rfl,rfl⟩,λh=>gG h.1 h.2⟩
  rw[this]
  omega
theorem oG{k:cR}{w:Nat}: ∀{m a:Nat},k∈yB w a m↔(a:Int)≤k.1∧k.1<(a+m:Nat)∧0≤k.2∧k.2<w
 |0,a=>⟨λh=>(nomatch h),λh=>ω⟩
 |m+1,a=>by
  show k∈AJ a 0 w++yB w (a+1) m↔_
  rw[bo,AK,oG]
  omega
theorem Nj(a:Nat): ∀(m b:Nat),sR (AJ a b m)
 |0,b=>List.Pairwise.nil
 |m+1,b=>eK.2 ⟨λk hk=>by
  have:=AK.1 hk
  show(a:Int)<k.1∨((a:Int)=k.1∧(b:Int)<k.2)
  omega,Nj a m (b+1)⟩
theorem oH(w:Nat): ∀(m a:Nat),sR (yB w a m)
 |0,a=>List.Pairwise.nil
 |m+1,a=>wa.2 ⟨Nj a w 0,oH w m (a+1),λx hx y hy=>by
  have h1:=AK.1 hx
  have h2:=oG.1 hy
  show x.1<y.1∨(x.1=y.1∧x.2<y.2)
  omega⟩
structure Mark(l:au)(a b p:Nat):Prop where
 le:p≤l.length
 lo: ∀x∈l.take p,td (keyOf x) ((a:Int),(b:Int))
 hi: ∀x∈l.drop p,¬td (keyOf x) ((a:Int),(b:Int))
theorem um{k:cR}{a b:Nat}:td k ((a:Int),((b+1:Nat):Int))↔td k ((a:Int),(b:Int))∨k=((a:Int),(b:Int)):=by
 have:k=((a:Int),(b:Int))↔k.1=a∧k.2=b:=⟨λh=>h▸⟨rfl,rfl⟩,λh=>gG h.1 h.2⟩
 rw[this]
 show(k.1<(a:Int)∨(k.1=(a:Int)∧k.2<((b+1:Nat):Int)))↔(k.1<(a:Int)∨(k.1=(a:Int)∧k.2<(b:Int)))∨_
 omega
theorem Mark.row{l:au}{a w p:Nat}(h:Mark l a w p)(hw: ∀x∈l,0≤(keyOf x).2∧(keyOf x).2<w):Mark l (a+1) 0 p:=by
 have key: ∀x∈l,(td (keyOf x) ((a:Int),(w:Int))↔td (keyOf x) (((a+1:Nat):Int),((0:Nat):Int))):=λx hx=>by
  have:=hw x hx
  show((keyOf x).1<(a:Int)∨((keyOf x).1=(a:Int)∧(keyOf x).2<(w:Int)))↔((keyOf x).1<((a+1:Nat):Int)∨((keyOf x).1=((a+1:Nat):Int)∧(keyOf x).2<((0:Nat):Int)))
  omega
 exact⟨h.le,λx hx=>(key x (jI hx)).1 (h.lo x hx),λx hx k=>h.hi x hx ((key x (m8 hx)).2 k)⟩
theorem qf(a b:Int)(l m:au):bX a b (l++m)=bX a b l+bX a b m:=by
 induction l with
 |nil=>rw[cL,BG];omega
 |cons x t ih=>rw[kL,gg,gg,ih];omega
theorem Mark.step{l:au}(hs:sR (l.map keyOf)){a b p:Nat}(h:Mark l a b p):
  (p<l.length∧(l.getD p bf).1=(a:Int)∧(l.getD p bf).2.1=(b:Int)∧bX (a:Int) (b:Int) l=dW (l.getD p bf)∧Mark l a (b+1) (p+1))∨
  ((p<l.length→(l.getD p bf).1=(a:Int)→(l.getD p bf).2.1=(b:Int)→False)∧bX (a:Int) (b:Int) l=0∧Mark l a (b+1) p):=by
 have no: ∀{x:dd} {k:cR},¬keyOf x=k→ ¬(x.1=k.1∧x.2.1=k.2):=λh e=>h (gG e.1 e.2)
 have hz:bX (a:Int) (b:Int) (l.take p)=0:=kA λx hx e=>by
  have e':keyOf x=((a:Int),(b:Int)):=gG e.1 e.2
  have:=h.lo x hx
  rw[e']at this
  exact mi this
 have yj:bX (a:Int) (b:Int) l=bX (a:Int) (b:Int) (l.drop p):=by
  conv=>lhs;rw[←fW p l]
  rw[qf,hz];omega
 by_cases hp:p<l.length
 ·have hd:=drop_cons hp bf
  have hsd:sR ((l.drop p).map keyOf):=by
   rw[List.map_drop];exact tE (List.drop_sublist ..) hs
  have Lh:=h.hi
  rw[hd]at hsd Lh yj
  have hgt:=(eK.1 hsd).1
  have Lk:=Lh _ (bp ..)
  have ana:l.take (p+1)=l.take p++[l.getD p bf]:=by
   rw[←sD hp,aR,bl hp];rfl
  by_cases he:keyOf (l.getD p bf)=((a:Int),(b:Int))
  ·refine Or.inl ⟨hp,eA Prod.fst he,eA Prod.snd he,?_,ω,λx hx=> ?_,λx hx hk=> ?_⟩
   ·rw[yj,gg,aj ⟨eA Prod.fst he,eA Prod.snd he⟩,kA λx hx e=> ?_]
    ·omega
    ·have hg:=hgt (keyOf x) (eX hx)
     have e':keyOf x=((a:Int),(b:Int)):=gG e.1 e.2
     rw[he,e']at hg
     exact mi hg
   ·rw[ana]at hx
    rcases bo.1 hx with hx|hx
    ·exact um.2 (Or.inl (h.lo x hx))
    ·rw[cm.1 hx];exact um.2 (Or.inr he)
   ·have hg:=hgt (keyOf x) (eX hx)
    rw[he]at hg
    rcases um.1 hk with hk|hk
    ·exact IH hg hk
    ·rw[hk]at hg;exact mi hg
  ·have lM: ∀x∈l.getD p bf::l.drop (p+1),keyOf x≠((a:Int),(b:Int)):=λx hx e=>by
    rcases aX.1 hx with rfl|hx
    ·exact he e
    ·have hg:=hgt (keyOf x) (eX hx)
     rw[e]at hg
     exact Lk hg
   refine Or.inr ⟨λ_ e1 e2=>he (gG e1 e2),?_,h.le,λx hx=>um.2 (Or.inl (h.lo x hx)),λx hx hk=> ?_⟩
   ·rw[yj]
    exact kA λx hx=>no (lM x hx)
   ·rw[hd]at hx
    rcases um.1 hk with hk|hk
    ·exact Lh x hx hk
    ·exact lM x hx hk
 ·have hd:l.drop p=[]:=qH ω
  refine Or.inr ⟨λh=>absurd h hp,by rw[yj,hd];rfl,h.le,λx hx=>um.2 (Or.inl (h.lo x hx)),λx hx=> ?_⟩
  rw[hd]at hx;nomatch hx
def w9(out:au)(r:Option au):Option (au×Bool):=some (match r with|some o=>(out++o,true)|none=>([],false))
theorem Kr(N:Nat)(v:Int):Qq N (di v)=some (if Fq v then(v,true)else(0,false)):=by
 unfold Qq
 rw[tc,av]
 by_cases h:aH v
 ·rw[xF h]
  dsimp only
  rw[aY,ar,aN]
  by_cases h2:se v
  ·rw[ah (show ¬v= -9223372036854775808 from h2),aj (show Fq v from⟨h,h2⟩)]
  ·rw[aj (show v= -9223372036854775808 by unfold se at h2;omega),ah (λh=>h2 h.2)]
 ·rw[AF h,ah (λk=>h k.1)]
  rfl
theorem WG(N:Nat)(hN:4000000≤N)(C4:cr.bI)(C7:cr.eN){l E out:au}(hq:eJ E)(hl:E.length≤100000)(ho:out.length≤1000000)(p:Int)(a b:Nat)(hb:b≤1000000)(q:Int)(hF:Fq q):
  cr.IM N C4 C7 N l E out p (a:Int) (b:Int) q false (false,(([]:List Int),())) 0=
   if Fq (q+bX (a:Int) (b:Int) E)then C7 l E (if q+bX (a:Int) (b:Int) E=0 then out else out++[((a:Int),((b:Int),(q+bX (a:Int) (b:Int) E,())))]) p (a:Int) ((b+1:Nat):Int)else some ([],false):=by
 have:=sm E bf (λn j ws=>cr.IM N C4 C7 n l E out p (a:Int) (b:Int) q (!ws.isEmpty) (di ws.sum) j)
  (λt ws=>if Fq (q+(ws++dj (a:Int) (b:Int) t).sum)then C7 l E (if q+(ws++dj (a:Int) (b:Int) t).sum=0 then out else out++[((a:Int),((b:Int),(q+(ws++dj (a:Int) (b:Int) t).sum,())))]) p (a:Int) ((b+1:Nat):Int)else some ([],false))
  (λj (ws:List Int)=>ws.length≤j∧ ∀x∈ws,aH x)
  (λn j ws hj hI eZ=> ?_) (λn ws hI=> ?_) E.length N 0 [] ω ω ω ⟨aI _,λx hx=>nomatch hx⟩
 ·rw[show((0:Nat):Int)=0 from rfl,cM,jK,kU]at this
  exact this
 ·unfold cr.IM cr.HN
  have vU:=yY hq j
  have iO:=vU
  unfold aH dW at iO
  have hb:=Nc hI.2
  rw[aP ω,ak,aQ ω ω,ak,ak,ak,aE,dC N ω iO.1 iO.2,av,jN N ω ((An (n:=ws.length) ω hb.1 hb.2).mono ω) ((Fit.i64 iO.1 iO.2).mono ω),av,aw (x:=(j:Int)+1) ω ω,ae j,aN,aN]
  by_cases h1:(E.getD j bf).1=(a:Int)
  ·by_cases h2:(E.getD j bf).2.1=(b:Int)
   ·have hc:dj (a:Int) (b:Int) (E.getD j bf::E.drop (j+1))=dW (E.getD j bf)::dj (a:Int) (b:Int) (E.drop (j+1)):=by rw[eV,aj ⟨h1,h2⟩]
    rw[aj h1,aj h2,hc]
    have:=eZ (ws++[dW (E.getD j bf)]) ⟨by rw[aT,aK];omega,BH hI.2 vU⟩
    rw[nn,cH,jK,gr,bM]at this
    refine Eq.trans ?_ this
    rw[show(!(ws++[dW (E.getD j bf)]).isEmpty)=true by cases ws<;>rfl]
    rfl
   ·have hc:dj (a:Int) (b:Int) (E.getD j bf::E.drop (j+1))=dj (a:Int) (b:Int) (E.drop (j+1)):=by rw[eV,ah (λh=>h2 h.2)]
    rw[aj h1,ah h2,hc]
    exact eZ ws ⟨ω,hI.2⟩
  ·have hc:dj (a:Int) (b:Int) (E.getD j bf::E.drop (j+1))=dj (a:Int) (b:Int) (E.drop (j+1)):=by rw[eV,ah (λh=>h1 h.1)]
   rw[ah h1,hc]
   exact eZ ws ⟨ω,hI.2⟩
 ·unfold cr.IM cr.HN
  have hs:=Nc hI.2
  have R8:=hF.1
  unfold aH at R8
  rw[aL ω,ar,dC N ω R8.1 R8.2,av,jN N ω ((An (n:=ws.length) ω hs.1 hs.2).mono ω) ((Fit.i64 R8.1 R8.2).mono ω),av,Kr,av,aw (x:=(b:Int)+1) ω ω,ae b,bQ (by rw[aK];omega),ak,bQ (by rw[aK];omega),ak,cond_not]
  show _=if Fq (q+(ws++[]).sum)then C7 l E (if q+(ws++[]).sum=0 then out else out++[((a:Int),((b:Int),(q+(ws++[]).sum,())))]) p (a:Int) ((b+1:Nat):Int)else some ([],false)
  rw[cK,Int.add_comm ws.sum q]
  cases ws with
  |nil=>
   show cond (!aM q 0) _ _=_
   rw[cond_not,aN,jK,gr,aj hF]
   by_cases h:q=0
   ·rw[aj h,aj h]
   ·rw[ah h,ah h]
  |cons w ws=>
   show cond (!(if Fq (q+(w::ws).sum)then(q+(w::ws).sum,true)else(0,false)).2) _ _=_
   by_cases h2:Fq (q+(w::ws).sum)
   ·rw[aj h2,aj h2]
    dsimp only
    rw[aY,ar,cond_not,aN]
    by_cases h:q+(w::ws).sum=0
    ·rw[aj h,aj h]
    ·rw[ah h,ah h]
   ·rw[ah h2,ah h2];rfl
end VM
end
section
namespace VM
open Go VM.F
theorem IN{P:Int→Prop} [DecidablePred P]{f:Int→Int→Int}{k:cR}{K:List cR}{out:au}{v:Int}(hv:f k.1 k.2=v):
  (if P v then w9 (if v=0 then out else out++[(k.1,(k.2,(v,())))]) (ej P f K)else some ([],false))=w9 out (ej P f (k::K)):=by
 rw[jy,hv]
 by_cases h:P v
 ·rw[aj h,aj h]
  cases ej P f K with
  |none=>rfl
  |some o=>
   show some ((if v=0 then out else out++[(k.1,(k.2,(v,())))])++o,true)=some (out++(if v=0 then o else(k.1,(k.2,(v,())))::o),true)
   by_cases h0:v=0
   ·rw[aj h0,aj h0]
   ·rw[ah h0,ah h0,bM];rfl
 ·rw[ah h,ah h];rfl
theorem anb{l:au}(hs:sR (l.map keyOf))(hl: ∀x∈l,Fq (dW x))(k:cR):Fq (bX k.1 k.2 l):=by
 by_cases hk:k∈l.map keyOf
 ·have hm:DH l k∈rowsOf l (l.map keyOf):=eX hk
  rw[mN hs]at hm
  exact hl (DH l k) hm
 ·rw[gA hk];exact⟨⟨δ,δ⟩,δ⟩
theorem IP(N:Nat)(hN:4000000≤N)(C:cr.bI){l E:au}(hq:eJ E)(hl:E.length≤100000)(hs:sR (l.map keyOf))(JT:l.length≤100000)(hf: ∀x∈l,Fq (dW x))(hw: ∀x∈l,0≤(keyOf x).2∧(keyOf x).2<(6:Nat))(a:Nat)(ha:a≤24)(G:List cR)
  (hc: ∀(p:Nat) (out:au),Mark l (a+1) 0 p→out.length≤6*(a+1)→C l E out (p:Int) ((a+1:Nat):Int)=w9 out (ej Fq (fS l E) G)):
  ∀(m n b p:Nat) (out:au),b+m=6→m<n→Mark l a b p→out.length≤6*a+b→cr.l7 N C n l E out (p:Int) (a:Int) (b:Int)=w9 out (ej Fq (fS l E) (AJ a b m++G))
 |m,0,b,p,out,_,hn,_,_=>ω
 |0,n+1,b,p,out,hb,_,hM,ho=>by
  have e:b=6:=ω
  subst e
  unfold cr.l7 cr.pN
  rw[aL ω,ar,aw (x:=(a:Int)+1) ω ω,ae a]
  exact hc p out (hM.row hw) ω
 |m+1,n+1,b,p,out,hb,hn,hM,ho=>by
  have hp:=hM.le
  have ahP: ∀(p:Nat) (v:Int),Mark l a (b+1) p→cr.l7 N C n l E (if v=0 then out else out++[((a:Int),((b:Int),(v,())))]) (p:Int) (a:Int) ((b+1:Nat):Int)=w9 (if v=0 then out else out++[((a:Int),((b:Int),(v,())))]) (ej Fq (fS l E) (AJ a (b+1) m++G)):=λp v h=>
   IP N hN C hq hl hs JT hf hw a ha G hc m n (b+1) p _ ω ω h (by
    split
    ·omega
    ·rw[aT,aK];omega)
  have yh:=anb hs hf ((a:Int),(b:Int))
  unfold cr.l7 cr.pN cr.Kf cr.As
  show _=w9 out (ej Fq (fS l E) (((a:Int),(b:Int))::(AJ a (b+1) m++G)))
  rw[aP (x:=(b:Int)) ω,ak,cU,aN,aN,aE]
  have fin: ∀(p:Nat) (q:Int),q=bX (a:Int) (b:Int) l→Mark l a (b+1) p→cr.IM N C (cr.l7 N C n) N l E out (p:Int) (a:Int) (b:Int) q false (false,(([]:List Int),())) 0=w9 out (ej Fq (fS l E) (((a:Int),(b:Int))::(AJ a (b+1) m++G))):=λp q e h=>by
   subst e
   rw[WG N hN C _ hq hl ω (p:Int) a b ω _ yh,ahP p _ h]
   exact IN (k:=((a:Int),(b:Int))) rfl
  rcases hM.step hs with⟨h1,h2,h3,h4,h5⟩|⟨h1,h2,h3⟩
  ·rw[aj (show(p:Int)<(l.length:Int)by omega),aQ ω ω,ak,ak,aj h2,aj h3,aw (x:=(p:Int)+1) ω ω,ae p,ak]
   exact fin (p+1) _ h4.symm h5
  ·by_cases g1:p<l.length
   ·rw[aj (show(p:Int)<(l.length:Int)by omega),aQ ω ω,ak,ak]
    by_cases g2:(l.getD p bf).1=(a:Int)
    ·rw[aj g2,ah (λg3=>h1 g1 g2 g3)]
     exact fin p _ h2.symm h3
    ·rw[ah g2]
     exact fin p _ h2.symm h3
   ·rw[ah (show ¬(p:Int)<(l.length:Int)by omega)]
    exact fin p _ h2.symm h3
theorem IQ(N:Nat)(hN:4000000≤N){l E:au}(hq:eJ E)(hl:E.length≤100000)(hs:sR (l.map keyOf))(JT:l.length≤100000)(hf: ∀x∈l,Fq (dW x))(hw: ∀x∈l,0≤(keyOf x).2∧(keyOf x).2<(6:Nat)):
  ∀(m n a p:Nat) (out:au),a+m=25→m<n→Mark l a 0 p→out.length≤6*a→cr.l4 N n l E out (p:Int) (a:Int)=w9 out (ej Fq (fS l E) (yB 6 a m))
 |m,0,a,p,out,_,hn,_,_=>ω
 |0,n+1,a,p,out,ha,_,hM,ho=>by
  unfold cr.l4 cr.dH
  rw[dB ω,ar]
  show some (out,true)=some (out++[],true)
  rw[cK]
 |m+1,n+1,a,p,out,ha,hn,hM,ho=>by
  unfold cr.l4 cr.dH
  rw[dL ω,ak]
  exact IP N hN _ hq hl hs JT hf hw a ω (yB 6 (a+1) m) (λp out h ho=>IQ N hN hq hl hs JT hf hw m n (a+1) p out ω ω h ho) 6 N 0 p out ω ω hM ω
def kB:List cR:=yB 6 0 25
theorem Qr(N:Nat)(hN:4000000≤N){l E:au}(hk:da l=true)(hl:l.length≤90000)(WD:eJ l)(hq:eJ E)(hE:E.length≤100000):cr N l E=w9 [] (ej Fq (fS l E) kB):=by
 obtain⟨hs,Lm⟩:=dw hk
 unfold cr cr.b
 refine IQ N hN hq hE hs ω (λx hx=>⟨WD x hx,(Lm x hx).2⟩) (λx hx=> ?_) 25 N 0 0 [] ω ω ⟨ω,λx hx=>(nomatch hx),λx hx fA=> ?_⟩ (by simp)
 ·have h:bU (keyOf x).1 (keyOf x).2:=(Lm x hx).1
  unfold bU at h;omega
 ·have h:bU (keyOf x).1 (keyOf x).2:=(Lm x (m8 hx)).1
  unfold bU at h
  have wL:(keyOf x).1<((0:Nat):Int)∨((keyOf x).1=((0:Nat):Int)∧(keyOf x).2<((0:Nat):Int)):=fA
  omega
theorem TN{l E:au}(hk:da l=true)(hp: ∀x∈E,bU x.1 x.2.1):ej Fq (fS l E) (nM (l.map keyOf) E)=ej Fq (fS l E) kB:=by
 obtain⟨hs,Lm⟩:=dw hk
 refine Nh ⟨⟨δ,δ⟩,δ⟩ (yZ hs) (oH 6 25 0) (λk hk=> ?_) (λk hk hn=> ?_)
 ·have:bU k.1 k.2:=by
   rcases mC.1 hk with h|⟨x,hx,rfl⟩
   ·obtain⟨x,hx,rfl⟩:=cD.1 h
    exact(Lm x hx).1
   ·exact hp x hx
  unfold bU at this
  exact oG.2 ω
 ·have h1:k∉l.map keyOf:=λh=>hn (mC.2 (Or.inl h))
  have h2:k∉E.map keyOf:=λh=>by
   obtain⟨x,hx,e⟩:=cD.1 h
   exact hn (mC.2 (Or.inr ⟨x,hx,e⟩))
  unfold fS
  rw[gA h1,gA h2];rfl
end VM
end
