/- A part of the proof of TearShares of layer 29: what the functions compute, in plain words. -/
import Derived.Test.YtocmlaipoebfeaaGreatPlain1
set_option linter.all false
section
namespace VM
open Go VM.F
theorem Oi(a b:bH):lR (.pair (.int .i64) (.pair (.int .u64) .unit)) a b=(ay a.1 b.1&&(ay a.2.1 b.2.1&&true)):=rfl
theorem RW(N:Nat){u v:Int}:RX N (cy u) (cy v)=some (qU (u-v)):=by
 unfold RX
 rw[Oi]
 unfold cy
 dsimp only
 unfold qU
 rw[ck,aG,ck,awg,fK,fK]
 have hu:u=u/18446744073709551616*18446744073709551616+u%18446744073709551616:=by omega
 have hv:v=v/18446744073709551616*18446744073709551616+v%18446744073709551616:=by omega
 by_cases h1:u/18446744073709551616<v/18446744073709551616
 ·rw[auh h1];congr 1;split<;>(try split)<;>omega
 ·rw[aui h1]
  by_cases h2:u/18446744073709551616=v/18446744073709551616
  ·rw[auh h2,auv h2,av3]
   by_cases h3:u%18446744073709551616<v%18446744073709551616
   ·rw[auh h3];congr 1;split<;>(try split)<;>omega
   ·rw[aui h3]
    by_cases h4:u%18446744073709551616=v%18446744073709551616
    ·rw[auv h4,aua];congr 1;split<;>(try split)<;>omega
    ·rw[auB h4,auc];congr 1;split<;>(try split)<;>omega
  ·rw[aui h2,auB h2,awX,auc];congr 1;split<;>(try split)<;>omega
theorem Iu:cy 0=ch:=rfl
theorem uw(N:Nat){u:Int}:ZA N (cy u)=some (qU u):=by
 unfold ZA
 rw[←Iu,RW,at7,axe]
end VM
end
section
namespace VM
open Go VM.F
def dt(r:cm):Int:=r.2.2.1
def aB(x:Int):Prop:= -9223372036854775808≤x∧x<9223372036854775808
def eR(l:aj):Prop:= ∀x∈l,aB (dt x)
theorem vF{l:aj}(h:eR l)(i:Nat):aB (dt (l.getD i aW)):=by
 by_cases hi:i<l.length
 ·rw[aub,auf hi];exact h _ (auT hi)
 ·rw[aub,auQ (by omega)];exact⟨by decide,by decide⟩
theorem Oj{ws:List Int}(h: ∀x∈ws,aB x): -(9223372036854775808*(ws.length:Int))≤ws.sum∧ws.sum≤9223372036854775808*(ws.length:Int):=CZ ws h
theorem BM{ws:List Int}(h: ∀x∈ws,aB x)(hl:ws.length≤1000000):eE ws.sum:=by
 have:=Oj h
 unfold eE;omega
theorem LA{ws:List Int}(h: ∀x∈ws,aB x): ∀x∈ws,eE x:=fun x hx=>by
 have:=h x hx
 unfold aB at this;unfold eE;omega
theorem C5(N:Nat){ws:List Int}(h: ∀x∈ws,aB x)(hl:ws.length≤1000000)(hN:1000000<N):jt N (ws.map cy)=some (cy ws.sum,true):=by
 rw[C3 N (LA h) hl hN]
 unfold Il
 rw[auh (BM h hl)]
def jx(l:aj):Int:=if fO l then(l.map dt).sum else 0
theorem Iv(N:Nat){l:aj}(hq:eR l)(hl:l.length≤100000)(hN:2000000≤N):wS.l5 N N ch [] l (l.length:Int) 0=some (cy (l.map dt).sum):=by
 have:=qo l aW (fun n i ws=>wS.l5 N n ch (ws.map cy) l (l.length:Int) i) (fun t ws=>some (cy (ws++t.map dt).sum)) (fun i (ws:List Int)=>ws.length=i∧ ∀x∈ws,aB x)
  (fun n i ws hi hI hr=> ?_) (fun n ws hI=> ?_) l.length N 0 [] (by omega) (by omega) (by omega) ⟨rfl,fun x hx=>nomatch hx⟩
 ·simpa using this
 ·unfold wS.l5 wS.du
  have ux:=vF hq i
  have gq:=ux
  unfold aB dt at gq
  rw[aC (by omega),aua,aI (by omega) (by omega),aua,aue,vy N gq.1 gq.2,at7,bs (by rw[auH,aud];omega),aua,an (by omega) (by omega),aa]
  have:=hr (ws++[dt (l.getD i aW)]) ⟨by rw[aug,hI.1];rfl,fun x hx=>by
   rcases aut.1 hx with hx|hx
   ·exact hI.2 x hx
   ·rw[auE.1 hx];exact ux⟩
  rw[auV]at this
  refine this.trans ?_
  rw[auI,aur];rfl
 ·unfold wS.l5 wS.du
  rw[az (by omega),auc,C5 N hI.2 (by omega) (by omega),at7,avS,auJ]
theorem Ol(N:Nat){l:aj}(hq:eR l)(hl:l.length≤100000)(hN:2000000≤N):wS N l=some (cy (jx l)):=by
 unfold wS wS.b jx
 rw[C4 N hl (by omega),at7,cond_not,Iv N hq hl hN]
 cases fO l<;>rfl
theorem Fe(N:Nat){l:aj}(hq:eR l)(hl:l.length≤100000)(hN:4000000≤N):kL.l5 N N l (bX 0) (bX 0) 0=some (bX (l.map dt).sum):=by
 have:=qo l aW (fun n i ws=>kL.l5 N n l (bX 0) (bX ws.sum) i) (fun t ws=>some (bX (ws++t.map dt).sum)) (fun i (ws:List Int)=>ws.length=i∧ ∀x∈ws,aB x)
  (fun n i ws hi hI hr=> ?_) (fun n ws hI=> ?_) l.length N 0 [] (by omega) (by omega) (by omega) ⟨rfl,fun x hx=>nomatch hx⟩
 ·simpa using this
 ·unfold kL.l5 kL.du
  have ux:=vF hq i
  have gq:=ux
  unfold aB dt at gq
  have hb:=Oj hI.2
  rw[hI.1]at hb
  rw[aC (by omega),aua,aI (by omega) (by omega),aua,aue,eX N (by omega) gq.1 gq.2,at7,js N (by omega) ((C0 (n:=i) (by omega) hb.1 hb.2).mono (by omega)) ((Fit.i64 gq.1 gq.2).mono (by omega)),at7,an (by omega) (by omega),aa]
  have:=hr (ws++[dt (l.getD i aW)]) ⟨by rw[aug,hI.1];rfl,fun x hx=>by
   rcases aut.1 hx with hx|hx
   ·exact hI.2 x hx
   ·rw[auE.1 hx];exact ux⟩
  rw[awL,auO,awr,axd]at this
  refine this.trans ?_
  rw[auI,aur];rfl
 ·unfold kL.l5 kL.du
  rw[az (by omega),auc,avS,auJ]
theorem LB(N:Nat){l:aj}(hq:eR l)(hl:l.length≤100000)(hN:4000000≤N):kL N l=some (bX (jx l)):=by
 unfold kL kL.b jx
 rw[zg N hl (by omega),at7,cond_not]
 have:=Fe N hq hl hN
 rw[iQ]at this
 rw[this]
 cases fO l
 ·rw[auc];exact avH some iQ.symm
 ·rfl
end VM
end
section
namespace VM
open Go VM.F
def cO(inst:Int):aj→List Int
 |[]=>[]
 |x::t=>if x.2.1=inst then dt x::cO inst t else cO inst t
theorem dU(inst:Int)(x:cm)(t:aj):cO inst (x::t)=if x.2.1=inst then dt x::cO inst t else cO inst t:=rfl
theorem LC(N:Nat){l:aj}(hq:eR l)(hl:l.length≤100000)(hN:2000000≤N)(inst:Int):kM.l5 N N inst ch [] l (l.length:Int) 0=some (cy (cO inst l).sum):=by
 have:=qo l aW (fun n i ws=>kM.l5 N n inst ch (ws.map cy) l (l.length:Int) i) (fun t ws=>some (cy (ws++cO inst t).sum)) (fun i (ws:List Int)=>ws.length≤i∧ ∀x∈ws,aB x)
  (fun n i ws hi hI hr=> ?_) (fun n ws hI=> ?_) l.length N 0 [] (by omega) (by omega) (by omega) ⟨aul _,fun x hx=>nomatch hx⟩
 ·simpa using this
 ·unfold kM.l5 kM.du
  have ux:=vF hq i
  have gq:=ux
  unfold aB dt at gq
  rw[aC (by omega),aua,aI (by omega) (by omega),aua,aue,vy N gq.1 gq.2,at7,bs (by rw[auH,aud];omega),aua,an (by omega) (by omega),aa,aG,dU]
  split
  ·have:=hr (ws++[dt (l.getD i aW)]) ⟨by rw[aug,aud];omega,fun x hx=>by
    rcases aut.1 hx with hx|hx
    ·exact hI.2 x hx
    ·rw[auE.1 hx];exact ux⟩
   rw[auV]at this
   refine this.trans ?_
   rw[aur];rfl
  ·exact hr ws ⟨by omega,hI.2⟩
 ·unfold kM.l5 kM.du
  rw[az (by omega),auc,C5 N hI.2 (by omega) (by omega),at7]
  show _=some (cy (ws++[]).sum)
  rw[auJ]
def pD(l:aj)(inst:Int):Int:=if cG l then(cO inst l).sum else 0
theorem RY(N:Nat){l:aj}(hq:eR l)(hl:l.length≤100000)(hN:2000000≤N)(inst:Int):kM N l inst=some (cy (pD l inst)):=by
 unfold kM kM.b pD
 rw[uj N hl (by omega),at7,cond_not,LC N hq hl hN]
 cases cG l<;>rfl
theorem Iw(N:Nat){l:aj}(hq:eR l)(hl:l.length≤100000)(hN:4000000≤N)(inst:Int):kN.l5 N N l inst (bX 0) (bX 0) 0=some (bX (cO inst l).sum):=by
 have:=qo l aW (fun n i ws=>kN.l5 N n l inst (bX 0) (bX ws.sum) i) (fun t ws=>some (bX (ws++cO inst t).sum)) (fun i (ws:List Int)=>ws.length≤i∧ ∀x∈ws,aB x)
  (fun n i ws hi hI hr=> ?_) (fun n ws hI=> ?_) l.length N 0 [] (by omega) (by omega) (by omega) ⟨aul _,fun x hx=>nomatch hx⟩
 ·simpa using this
 ·unfold kN.l5 kN.du
  have ux:=vF hq i
  have gq:=ux
  unfold aB dt at gq
  have hb:=Oj hI.2
  rw[aC (by omega),aua,aI (by omega) (by omega),aua,aua,aue,eX N (by omega) gq.1 gq.2,at7,js N (by omega) ((C0 (n:=ws.length) (by omega) hb.1 hb.2).mono (by omega)) ((Fit.i64 gq.1 gq.2).mono (by omega)),at7,an (by omega) (by omega),aa,aG,dU]
  split
  ·have:=hr (ws++[dt (l.getD i aW)]) ⟨by rw[aug,aud];omega,fun x hx=>by
    rcases aut.1 hx with hx|hx
    ·exact hI.2 x hx
    ·rw[auE.1 hx];exact ux⟩
   rw[awL,auO,awr,axd]at this
   refine this.trans ?_
   rw[aur];rfl
  ·exact hr ws ⟨by omega,hI.2⟩
 ·unfold kN.l5 kN.du
  rw[az (by omega),auc]
  show _=some (bX (ws++[]).sum)
  rw[auJ]
theorem Ff(N:Nat){l:aj}(hq:eR l)(hl:l.length≤100000)(hN:4000000≤N)(inst:Int):kN N l inst=some (bX (pD l inst)):=by
 unfold kN kN.b pD
 rw[lX N hl (by omega),at7,cond_not]
 have:=Iw N hq hl hN inst
 rw[iQ]at this
 rw[this]
 cases cG l
 ·rw[auc];exact avH some iQ.symm
 ·rfl
def pE(l:aj)(i:Nat):Prop:=eo (pD l (i:Int)) 0
instance(l:aj):DecidablePred (pE l):=fun i=>by unfold pE;infer_instance
def gr:Nat:=6
def pF(l:aj):Bool:=decide (∀j,j<gr→pE l j)&&cG l
theorem kO{x:Int}:qU x=0↔x=0:=by unfold qU;split<;>(try split)<;>omega
theorem RZ(N:Nat){l:aj}(hq:eR l)(hl:l.length≤100000)(hN:2000000≤N):xA N l=some (pF l):=by
 unfold xA xA.b
 refine eY (len:=gr) (F:=fun n i=>xA.l2 N n l i) (pE l) (fun n i r hi hp hr=> ?_) (fun n=> ?_) N (by unfold gr;omega)
 ·unfold xA.l2 xA.ei
  unfold gr at hi
  rw[aC (by omega),aua,RY N hq hl hN,at7,uw,at7,cond_not,aG,an (by omega) (by omega),aa,hr]
  by_cases hP:pE l i
  ·rw[auh hP,auh (kO.2 hP)]
  ·rw[aui hP,aui (fun h=>hP (kO.1 h))]
 ·unfold xA.l2 xA.ei
  rw[az (by unfold gr;omega),auc,uj N hl (by omega),at7]
theorem Om(N:Nat){l:aj}(hq:eR l)(hl:l.length≤100000)(hN:4000000≤N):lh N l=some (pF l):=by
 unfold lh lh.b
 refine eY (len:=gr) (F:=fun n i=>lh.l2 N n l i) (pE l) (fun n i r hi hp hr=> ?_) (fun n=> ?_) N (by unfold gr;omega)
 ·unfold lh.l2 lh.ei
  unfold gr at hi
  rw[aC (by omega),aua,Ff N hq hl hN,at7,pk,at7,cond_not,aG,an (by omega) (by omega),aa,hr]
  by_cases hP:pE l i
  ·rw[auh hP,auh (kO.2 hP)]
  ·rw[aui hP,aui (fun h=>hP (kO.1 h))]
 ·unfold lh.l2 lh.ei
  rw[az (by unfold gr;omega),auc,lX N hl (by omega),at7]
end VM
end
section
namespace VM
open Go VM.F
def iA(m:ax)(a:aF)(l:aj)(i:Nat):Prop:=
 (eo (l.getD i aW).1 5→(jw a (l.getD i aW).2.1).2=true)∧(eo (l.getD i aW).1 6∨eo (l.getD i aW).1 7→ ¬eo (mG m (l.getD i aW).2.1) 0)
instance(m:ax)(a:aF)(l:aj):DecidablePred (iA m a l):=fun i=>by unfold iA;infer_instance
theorem Ix(N:Nat)(b:ah)(hl:b.2.1.length≤100000)(hN:200000≤N)(id:Int):F82 N b id=some (jw b.2.1 id).2:=by
 unfold F82
 rw[RU N hl hN,at7]
theorem LD{k:Int}{f:Bool}{z:Int}{r:Option Bool}:cond (ay k 5) (cond (!f) (some false) r) (cond (ay k 6) (cond (ay z 0) (some false) r) (cond (ay k 7) (cond (ay z 0) (some false) r) r))=
  if(eo k 5→f=true)∧(eo k 6∨eo k 7→ ¬eo z 0)then r else some false:=by
 unfold eo
 rw[aG,aG,aG,aG,cond_not]
 by_cases h5:k=5
 ·have h6: ¬(k=6):=by omega
  have h7: ¬(k=7):=by omega
  cases f<;>simp[h5,h6,h7]
 ·by_cases h6:k=6
  ·by_cases hz:z=0<;>simp[h5,h6,hz]
  ·by_cases h7:k=7
   ·by_cases hz:z=0<;>simp[h5,h6,h7,hz]
   ·simp[h5,h6,h7]
theorem A6(N:Nat)(hN:200000≤N)(c:ae)(b:ah)(hm:b.1.length≤100000)(ha:b.2.1.length≤100000)(hl:b.2.2.1.length≤100000){e:Bool}
  (he:ik.sx N N c b b.2.2.2.1 (b.2.2.2.1.length:Int) 0=some e):ik.l4 N N c b b.2.2.1 (b.2.2.1.length:Int) 0=some (decide (∀j,j<b.2.2.1.length→iA b.1 b.2.1 b.2.2.1 j)&&e):=by
 refine eY (F:=fun n i=>ik.l4 N n c b b.2.2.1 (b.2.2.1.length:Int) i) (iA b.1 b.2.1 b.2.2.1) (fun n i r hi hp hr=> ?_) (fun n=> ?_) N (by omega)
 ·unfold ik.l4 ik.cT
  rw[aC (by omega),aua,aI (by omega) (by omega),aua,aue,an (x:=(i:Int)+1) (by omega) (by omega),aa,hr]
  simp only[Ix N b ha hN,BL N hm hN,at7]
  rw[LD]
  rfl
 ·unfold ik.l4 ik.cT
  rw[az (by omega),auc];exact he
def On(a b:Int):Prop:=a<b
instance(a b:Int):Decidable (On a b):=by unfold On;infer_instance
def gL(c:ae)(a:aF)(l:aj)(i:Nat):Prop:=
 (eo (l.getD i aW).1 0∨(jw a (l.getD i aW).1).2=true)∧On (l.getD i aW).2.1 c.1.length
instance(c:ae)(a:aF)(l:aj):DecidablePred (gL c a l):=fun i=>by unfold gL;infer_instance
theorem Oo{k x n:Int}{f:Bool}{r:Option Bool}:cond (!ay k 0) (cond (!f) (some false) (cond (bR n x) (some false) r)) (cond (bR n x) (some false) r)=if(eo k 0∨f=true)∧On x n then r else some false:=by
 unfold eo On
 rw[cond_not,aG,bO,cond_not]
 by_cases h0:k=0
 ·by_cases hx:n≤x
  ·have: ¬x<n:=by omega
   simp[h0,hx,this]
  ·have:x<n:=by omega
   simp[h0,hx,this]
 ·by_cases hx:n≤x
  ·have: ¬x<n:=by omega
   cases f<;>simp[h0,hx,this]
  ·have:x<n:=by omega
   cases f<;>simp[h0,hx,this]
theorem C6(N:Nat)(hN:200000≤N)(c:ae)(b:ah)(ha:b.2.1.length≤100000)(hl:b.2.2.2.1.length≤100000){e:Bool}
  (he:ik.oa N N c b b.2.2.2.2.2.1 (b.2.2.2.2.2.1.length:Int) 0=some e):ik.sx N N c b b.2.2.2.1 (b.2.2.2.1.length:Int) 0=some (decide (∀j,j<b.2.2.2.1.length→gL c b.2.1 b.2.2.2.1 j)&&e):=by
 refine eY (F:=fun n i=>ik.sx N n c b b.2.2.2.1 (b.2.2.2.1.length:Int) i) (gL c b.2.1 b.2.2.2.1) (fun n i r hi hp hr=> ?_) (fun n=> ?_) N (by omega)
 ·unfold ik.sx ik.q5
  rw[aC (by omega),aua,aI (by omega) (by omega),aua,aue,an (x:=(i:Int)+1) (by omega) (by omega),aa,hr]
  simp only[Ix N b ha hN,at7]
  rw[Oo]
  rfl
 ·unfold ik.sx ik.q5
  rw[az (by omega),auc];exact he
end VM
end
section
namespace VM
open Go VM.F
def nR(l:List Int)(i:Nat):Prop:=1≤l.getD i 0∧l.getD i 0≤1000000000000
instance(l:List Int):DecidablePred (nR l):=fun i=>by unfold nR;infer_instance
def gu(l:List Int):Bool:=decide (∀j,j<l.length→nR l j)
theorem ZB(N:Nat)(p:Int):F84 N p=some (!decide (1≤p∧p≤1000000000000)):=by
 unfold F84
 rw[BK,at7]
theorem zm(N:Nat){l:List Int}(hl:l.length≤100000): ∀(m n i:Nat),l.length-i≤m→m<n→i≤l.length→(∀j,j<i→nR l j)→
  ∃r,ny.l2 N n l () (l.length:Int) (i:Int)=some r∧(bR 0 r= !gu l)
 |m,0,i,_,hn,_,_=>by omega
 |m,n+1,i,hm,hn,hi,hp=>by
  unfold ny.l2 ny.ei
  by_cases h:i<l.length
  ·rw[aC (by omega),aua,aI (by omega) (by omega),aua,aue,ZB,at7,cond_not,ea]
   by_cases hP:nR l i
   ·have hP':=hP
    unfold nR at hP'
    rw[auh hP',an (by omega) (by omega)]
    exact zm N hl (m-1) n (i+1) (by omega) (by omega) (by omega) (fun j hj=>by
     by_cases sY:j=i
     ·subst sY;exact hP
     ·exact hp j (by omega))
   ·have hP':=hP
    unfold nR at hP'
    rw[aui hP']
    refine⟨_,rfl,?_⟩
    rw[cK (by omega)]
    unfold gu
    rw[auB (fun h'=>hP (h' i h))];rfl
  ·rw[az (by omega),auc]
   refine⟨_,rfl,?_⟩
   rw[cE (by omega)]
   unfold gu
   rw[auv (fun j hj=>hp j (by omega))];rfl
theorem LF(N:Nat){l:List Int}(hl:l.length≤100000)(hN:200000≤N):F83 N l ()=some (!gu l):=by
 unfold F83 ny ny.b
 obtain⟨r,e,h⟩:=zm N hl l.length N 0 (by omega) (by omega) (by omega) (fun j hj=>absurd hj (by omega))
 rw[show((0:Nat):Int)=0 from rfl]at e
 rw[e,at7,h]
def lG(c:ae)(a:aF)(l:ba)(i:Nat):Prop:=
 (jw a (l.getD i eK).2.1).2=true∧On (l.getD i eK).2.2.1 c.1.length
instance(c:ae)(a:aF)(l:ba):DecidablePred (lG c a l):=fun i=>by unfold lG;infer_instance
theorem zn{x n:Int}{f:Bool}{r:Option Bool}:cond (!f) (some false) (cond (bR n x) (some false) r)=if f=true∧On x n then r else some false:=by
 unfold On
 rw[bO,cond_not]
 by_cases hx:n≤x
 ·have: ¬x<n:=by omega
  cases f<;>simp[hx,this]
 ·have:x<n:=by omega
  cases f<;>simp[hx,this]
theorem C7(N:Nat)(hN:200000≤N)(c:ae)(b:ah)(ha:b.2.1.length≤100000)(hl:b.2.2.2.2.2.1.length≤100000)(hp:b.2.2.2.2.1.length≤100000):
  ik.oa N N c b b.2.2.2.2.2.1 (b.2.2.2.2.2.1.length:Int) 0=some (decide (∀j,j<b.2.2.2.2.2.1.length→lG c b.2.1 b.2.2.2.2.2.1 j)&&gu b.2.2.2.2.1):=by
 refine eY (F:=fun n i=>ik.oa N n c b b.2.2.2.2.2.1 (b.2.2.2.2.2.1.length:Int) i) (lG c b.2.1 b.2.2.2.2.2.1) (fun n i r hi so hr=> ?_) (fun n=> ?_) N (by omega)
 ·unfold ik.oa ik.ob
  rw[aC (by omega),aua,aI (by omega) (by omega),aua,aue,an (x:=(i:Int)+1) (by omega) (by omega),aa,hr]
  simp only[Ix N b ha hN,at7]
  rw[zn]
  rfl
 ·unfold ik.oa ik.ob
  rw[az (by omega),auc,LF N hp hN,at7,Bool.not_not]
def dn(c:ae)(b:ah):Bool:=
 fm c&&(q4 b.1 b.2.1&&(fO b.2.2.1&&(decide (eo (jx b.2.2.1) 0)&&(pF b.2.2.2.1&&(ju b.2.2.2.2.2.1&&(decide (eo b.2.2.2.2.1.length c.1.length)&&
  (decide (∀j,j<b.2.2.1.length→iA b.1 b.2.1 b.2.2.1 j)&&(decide (∀j,j<b.2.2.2.1.length→gL c b.2.1 b.2.2.2.1 j)&&(decide (∀j,j<b.2.2.2.2.2.1.length→lG c b.2.1 b.2.2.2.2.2.1 j)&&gu b.2.2.2.2.1)))))))))
structure q6(b:ah):Prop where
 m:b.1.length≤100000
 a:b.2.1.length≤100000
 r:b.2.2.1.length≤100000
 s:b.2.2.2.1.length≤100000
 p:b.2.2.2.2.1.length≤100000
 o:b.2.2.2.2.2.1.length≤100000
 qr:eR b.2.2.1
 qs:eR b.2.2.2.1
theorem kP{x:Bool}{r:Option Bool}{y:Bool}(h:r=some y):cond (!x) (some false) r=some (x&&y):=by subst h;cases x<;>rfl
theorem Kc(N:Nat)(hN:4000000≤N){c:ae}{b:ah}(w:q6 b):ik N c b=some (dn c b):=by
 unfold ik ik.b dn
 rw[RQ N (by omega),at7]
 refine kP ?_
 rw[RV N w.m w.a (by omega),at7]
 refine kP ?_
 rw[C4 N w.r (by omega),at7]
 refine kP ?_
 rw[Ol N w.qr w.r (by omega),at7,uw,at7]
 have e0:ay (qU (jx b.2.2.1)) 0=decide (eo (jx b.2.2.1) 0):=by rw[fK,avR];exact kO
 rw[e0]
 refine kP ?_
 rw[RZ N w.qs w.s (by omega),at7]
 refine kP ?_
 rw[Lw N w.o (by omega),at7]
 refine kP ?_
 rw[fK]
 refine kP ?_
 exact A6 N (by omega) c b w.m w.a w.r (C6 N (by omega) c b w.a w.s (C7 N (by omega) c b w.a w.o w.p))
end VM
end
section
namespace VM
open Go VM.F
theorem uy(N:Nat)(b:ah)(hl:b.2.1.length≤100000)(hN:200000≤N)(id:Int):C8 N b id=some ((jw b.2.1 id).2||decide (eo id 0)):=by
 unfold C8
 rw[Fc N hl hN,at7,fK]
 cases(jw b.2.1 id).2<;>rfl
theorem Iy{k:Int}{f:Bool}{z:Int}{r:Option Bool}:cond (ay k 5) (cond (!f) (some false) (cond (ay k 6) (cond (ay z 0) (some false) r) (cond (ay k 7) (cond (ay z 0) (some false) r) r))) (cond (ay k 6) (cond (ay z 0) (some false) r) (cond (ay k 7) (cond (ay z 0) (some false) r) r))=
  if(eo k 5→f=true)∧(eo k 6∨eo k 7→ ¬eo z 0)then r else some false:=by
 unfold eo
 rw[aG,aG,aG,aG,cond_not]
 by_cases h5:k=5
 ·have h6: ¬(k=6):=by omega
  have h7: ¬(k=7):=by omega
  cases f<;>simp[h5,h6,h7]
 ·by_cases h6:k=6
  ·by_cases hz:z=0<;>simp[h5,h6,hz]
  ·by_cases h7:k=7
   ·by_cases hz:z=0<;>simp[h5,h6,h7,hz]
   ·simp[h5,h6,h7]
theorem A7(N:Nat)(hN:200000≤N)(c:ae)(b:ah)(ha:b.2.1.length≤100000)(hl:b.2.2.2.2.2.1.length≤100000)(ho:ju b.2.2.2.2.2.1=true):
  bE.oa N N c b 0=some (decide (∀j,j<b.2.2.2.2.2.1.length→lG c b.2.1 b.2.2.2.2.2.1 j)&&true):=by
 refine eY (F:=fun n i=>bE.oa N n c b i) (lG c b.2.1 b.2.2.2.2.2.1) (fun n i r hi so hr=> ?_) (fun n=> ?_) N (by omega)
 ·unfold bE.oa bE.ob
  unfold ju at ho
  rw[aus,avf]at ho
  have h1:=(ho.1 i hi).1
  unfold q3 ta at h1
  have h2:decide (eo (b.2.2.2.2.2.1.getD i eK).2.1 0)=false:=auB (by unfold eo;omega)
  rw[aC (by omega),aua,aI (by omega) (by omega),aua,aue,an (x:=(i:Int)+1) (by omega) (by omega),aa,hr]
  simp only[uy N b ha hN,at7,aua]
  rw[h2,awI,zn]
  rfl
 ·unfold bE.oa bE.ob
  rw[az (by omega),auc]
theorem xB(N:Nat)(hN:200000≤N)(c:ae)(b:ah)(hl:b.2.2.2.2.1.length≤100000){e:Bool}(he:bE.oa N N c b 0=some e):
  bE.EW N N c b 0=some (gu b.2.2.2.2.1&&e):=by
 refine eY (F:=fun n i=>bE.EW N n c b i) (nR b.2.2.2.2.1) (fun n i r hi so hr=> ?_) (fun n=> ?_) N (by omega)
 ·unfold bE.EW bE.EX
  rw[aC (by omega),aua,aI (by omega) (by omega),aua,aue,an (x:=(i:Int)+1) (by omega) (by omega),aa,hr,iS,at7,cond_not,ea]
  rfl
 ·unfold bE.EW bE.EX
  rw[az (by omega),auc];exact he
theorem A8(N:Nat)(hN:200000≤N)(c:ae)(b:ah)(ha:b.2.1.length≤100000)(hl:b.2.2.2.1.length≤100000){e:Bool}(he:bE.EW N N c b 0=some e):
  bE.nq N N c b 0=some (decide (∀j,j<b.2.2.2.1.length→gL c b.2.1 b.2.2.2.1 j)&&e):=by
 refine eY (F:=fun n i=>bE.nq N n c b i) (gL c b.2.1 b.2.2.2.1) (fun n i r hi so hr=> ?_) (fun n=> ?_) N (by omega)
 ·unfold bE.nq bE.lH
  rw[aC (by omega),aua,aI (by omega) (by omega),aua,aue,an (x:=(i:Int)+1) (by omega) (by omega),aa,hr]
  simp only[uy N b ha hN,at7,aua]
  rw[zn]
  have Oq:((((jw b.2.1 (b.2.2.2.1.getD i aW).1).2||decide (eo (b.2.2.2.1.getD i aW).1 0))=true)∧On (b.2.2.2.1.getD i aW).2.1 c.1.length)↔gL c b.2.1 b.2.2.2.1 i:=by
   unfold gL
   rw[avM,avf]
   exact⟨fun h=>⟨h.1.symm,h.2⟩,fun h=>⟨h.1.symm,h.2⟩⟩
  by_cases hP:gL c b.2.1 b.2.2.2.1 i
  ·rw[auh hP,auh (Oq.2 hP)]
  ·rw[aui hP,aui (fun h=>hP (Oq.1 h))]
 ·unfold bE.nq bE.lH
  rw[az (by omega),auc];exact he
theorem zo(N:Nat)(hN:200000≤N)(c:ae)(b:ah)(hm:b.1.length≤100000)(ha:b.2.1.length≤100000)(hl:b.2.2.1.length≤100000)(hk:fO b.2.2.1=true){e:Bool}
  (he:bE.nq N N c b 0=some e):bE.l6 N N c b 0=some (decide (∀j,j<b.2.2.1.length→iA b.1 b.2.1 b.2.2.1 j)&&e):=by
 refine eY (F:=fun n i=>bE.l6 N n c b i) (iA b.1 b.2.1 b.2.2.1) (fun n i r hi so hr=> ?_) (fun n=> ?_) N (by omega)
 ·unfold bE.l6 bE.ov
  unfold fO at hk
  rw[awg,avf]at hk
  have h1:=(hk i hi).1
  rw[aC (by omega),aua,aI (by omega) (by omega),aua,aue,an (x:=(i:Int)+1) (by omega) (by omega),aa,hr]
  simp only[uy N b ha hN,zj N hm hN,at7]
  rw[Iy]
  have Oq:((eo (b.2.2.1.getD i aW).1 5→((jw b.2.1 (b.2.2.1.getD i aW).2.1).2||decide (eo (b.2.2.1.getD i aW).2.1 0))=true)∧(eo (b.2.2.1.getD i aW).1 6∨eo (b.2.2.1.getD i aW).1 7→ ¬eo (mG b.1 (b.2.2.1.getD i aW).2.1) 0))↔iA b.1 b.2.1 b.2.2.1 i:=by
   unfold iA
   refine and_congr_left fun _=>imp_congr_right fun h5=> ?_
   rw[avM,avf]
   refine⟨fun h=>h.elim id fun h0=> ?_,.inl⟩
   unfold fV at h1;unfold eo at h5 h0;omega
  by_cases hP:iA b.1 b.2.1 b.2.2.1 i
  ·rw[auh hP,auh (Oq.2 hP)]
  ·rw[aui hP,aui (fun h=>hP (Oq.1 h))]
 ·unfold bE.l6 bE.ov
  rw[az (by omega),auc];exact he
end VM
end
section
namespace VM
open Go VM.F
theorem kk{x:Bool}{r:Option Bool}{y:Bool}(h:x=true→r=some y):cond (!x) (some false) r=some (x&&y):=by
 cases x
 ·rfl
 ·exact h rfl
theorem Ot(N:Nat)(hN:5000000≤N){c:ae}{b:ah}(w:q6 b):bE N c b=some (dn c b):=by
 unfold bE bE.b
 rw[mF N (by omega),at7]
 have e0:ay (qU (jx b.2.2.1)) 0=decide (eo (jx b.2.2.1) 0):=by rw[fK,avR];exact kO
 refine(kk fun _=> ?_).trans (avH some (?_:(fm c&&(q4 b.1 b.2.1&&(fO b.2.2.1&&(pF b.2.2.2.1&&(ju b.2.2.2.2.2.1&&(decide (eo b.2.2.2.2.1.length c.1.length)&&(decide (eo (jx b.2.2.1) 0)&&
  (decide (∀j,j<b.2.2.1.length→iA b.1 b.2.1 b.2.2.1 j)&&(decide (∀j,j<b.2.2.2.1.length→gL c b.2.1 b.2.2.2.1 j)&&(gu b.2.2.2.2.1&&(decide (∀j,j<b.2.2.2.2.2.1.length→lG c b.2.1 b.2.2.2.2.2.1 j)&&true)))))))))))=dn c b))
 ·rw[zl N w.m w.a (by omega),at7]
  refine kk fun _=> ?_
  rw[zg N w.r (by omega),at7]
  refine kk fun hk=> ?_
  rw[Om N w.qs w.s (by omega),at7]
  refine kk fun _=> ?_
  rw[kg N w.o (by omega),at7]
  refine kk fun ho=> ?_
  rw[fK]
  refine kk fun _=> ?_
  rw[LB N w.qr w.r (by omega),at7,pk,at7,e0]
  refine kk fun _=> ?_
  exact zo N (by omega) c b w.m w.a w.r hk (A8 N (by omega) c b w.a w.s (xB N (by omega) c b w.p (A7 N (by omega) c b w.a w.o ho)))
 ·unfold dn
  generalize fm c=x1,q4 b.1 b.2.1=x2,fO b.2.2.1=x3,pF b.2.2.2.1=x4,ju b.2.2.2.2.2.1=x5,decide (eo b.2.2.2.2.1.length c.1.length)=x6,decide (eo (jx b.2.2.1) 0)=x7,decide (∀j,j<b.2.2.1.length→iA b.1 b.2.1 b.2.2.1 j)=x8,decide (∀j,j<b.2.2.2.1.length→gL c b.2.1 b.2.2.2.1 j)=x9,gu b.2.2.2.2.1=aR,decide (∀j,j<b.2.2.2.2.2.1.length→lG c b.2.1 b.2.2.2.2.2.1 j)=aE
  rw[awg]
  cases x1<;>cases x2<;>cases x3<;>cases x4<;>cases x5<;>cases x6<;>cases x7<;>try rfl
  cases x8<;>cases x9<;>cases aR<;>cases aE<;>rfl
end VM
end
section
namespace VM
open Go VM.F
def q7(a q n:Int)(i:Nat)(p:Int):Prop:=0≤a∧a<n∧q≠0∧nQ q∧(0<i→p<a)
instance(a q n:Int)(i:Nat)(p:Int):Decidable (q7 a q n i p):=by unfold q7;infer_instance
def q8(c:ae)(l:ax)(i:Nat):Prop:=q7 (l.getD i ch).1 (l.getD i ch).2.1 c.1.length i (l.getD (i-1) ch).1
instance(c:ae)(l:ax):DecidablePred (q8 c l):=fun i=>by unfold q8;infer_instance
def C9(c:ae)(l:ax):Bool:=decide (∀j,j<l.length→q8 c l j)&&fm c
end VM
end
section
namespace VM
open Go VM.F
theorem uz(N:Nat)(hN:200000≤N)(c:ae){l:ax}(hl:l.length≤100000):jy N c l=some (C9 c l):=by
 unfold jy jy.b
 rw[mF N (by omega),at7]
 have hsc:=eY (F:=fun n i=>jy.l4 N n l c i) (e:=true) (q8 c l) (fun n i r hi hp hr=> ?_) (fun n=> ?_) N (show l.length<N by omega)
 ·rw[kP hsc];unfold C9
  rw[awg,Bool.and_comm]
 ·unfold jy.l4 jy.cT
  rw[aC (by omega),aua,aI (by omega) (by omega),aua,aue,an (x:=(i:Int)+1) (by omega) (by omega),aa,hr]
  by_cases h0:0<i
  ·have e:W .i64 ((i:Int)-1)=((i-1:Nat):Int):=by rw[an (by omega) (by omega)];omega
   dsimp only
   rw[aC (x:=0) (y:=(i:Int)) (by omega),e,aue,aI (i:=((i-1:Nat):Int)) (by omega) (by omega)]
   simp only[ck,bO,aG,aua]
   by_cases hP:q8 c l i
   ·rw[auh hP];unfold q8 q7 at hP
    rw[aui (by omega),aui (by omega),aui hP.2.2.1,aui (show ¬((l.getD i ch).2.1:Int)= -9223372036854775808 from hP.2.2.2.1),aui (by omega)]
   ·rw[aui hP];unfold q8 q7 at hP
    have h2:=fun h1 h2 h3 h4 h5=>hP ⟨h1,h2,h3,h4,h5⟩
    repeat' split
    all_goals first|rfl|(exfalso;exact h2 (by omega) (by omega) (by assumption) (by assumption) (by omega))
  ·rw[az (x:=0) (y:=(i:Int)) (by omega)]
   simp only[ck,bO,aG,aua,auc]
   by_cases hP:q8 c l i
   ·rw[auh hP];unfold q8 q7 at hP
    rw[aui (by omega),aui (by omega),aui hP.2.2.1,aui (show ¬((l.getD i ch).2.1:Int)= -9223372036854775808 from hP.2.2.2.1)]
   ·rw[aui hP];unfold q8 q7 at hP
    have h2:=fun h1 h2 h3 h4 h5=>hP ⟨h1,h2,h3,h4,h5⟩
    repeat' split
    all_goals first|rfl|(exfalso;exact h2 (by omega) (by omega) (by assumption) (by assumption) (by omega))
 ·unfold jy.l4 jy.cT
  rw[az (by omega),auc]
end VM
end
section
namespace VM
open Go VM.F
def Da(a b c d:Int):Prop:=(1≤a∧a≤1099511627776)∧(1≤b∧b≤1099511627776)∧(1≤c∧c≤12)∧(-1152921504606846976≤d∧d≤1152921504606846976)
instance(a b c d:Int):Decidable (Da a b c d):=by unfold Da;infer_instance
def BN(x:bQ):Prop:=Da x.1 x.2.1 x.2.2.1 x.2.2.2.1
instance(x:bQ):Decidable (BN x):=by unfold BN;infer_instance
theorem Kd(N:Nat)(x:bQ):Ou N x=some (decide (BN x)):=by
 unfold Ou
 rw[jY x.2.2.2.1]
 repeat rw[ec]
 congr 1
 rw[avY,avf]
 unfold BN Da
 simp only[aus,aww]
 omega
end VM
end
section
namespace VM
open Go VM.F
def mH(m lot:Int)(x:bQ):Bool:=decide (eo x.2.2.1 m)&&decide (eo x.2.1 lot)
end VM
end
section
namespace VM
open Go VM.F
def uA(l:aF)(i:Nat):Prop:=BN (l.getD i aO)∧oO i (l.getD (i-1) aO).1 (l.getD i aO).1∧(l.take i).any (mH (l.getD i aO).2.2.1 (l.getD i aO).2.1)=false
instance(l:aF):DecidablePred (uA l):=fun i=>by unfold uA;infer_instance
def Ov(l:aF):Bool:=decide (∀j,j<l.length→uA l j)&&decide (l.length≤40)
end VM
end
section
namespace VM
open Go VM.F
def dB(a b:Int):aj→List Int
 |[]=>[]
 |x::t=>if x.1=a∧x.2.1=b then dt x::dB a b t else dB a b t
theorem gv(a b:Int)(x:cm)(t:aj):dB a b (x::t)=if x.1=a∧x.2.1=b then dt x::dB a b t else dB a b t:=rfl
def cV(a b:Int)(l:aj):Int:=(dB a b l).sum
theorem mI(a b:Int)(x:cm)(t:aj):cV a b (x::t)=(if x.1=a∧x.2.1=b then dt x else 0)+cV a b t:=by
 unfold cV
 rw[gv]
 split
 ·rw[auO]
 ·omega
theorem mJ{a b:Int}: ∀{l:aj},(∀x∈l,¬(x.1=a∧x.2.1=b))→cV a b l=0
 |[],_=>rfl
 |x::t,h=>by
  rw[mI,aui (h x (auo ..)),mJ (fun y hy=>h y (auk _ hy))];rfl
abbrev cX:=Int×Int
def qu(x y:cX):Prop:=gW x.1 x.2 y.1 y.2
instance(x y:cX):Decidable (qu x y):=by unfold qu;infer_instance
def keyOf(x:cm):cX:=(x.1,x.2.1)
def vG(K:List cX):Prop:=K.Pairwise qu
theorem pG{x:cX}(h:qu x x):False:=by unfold qu gW at h;omega
theorem LG{x y:cX}(h:qu x y)(k:qu y x):False:=by unfold qu gW at*;omega
theorem rP{x y z:cX}(h:qu x y)(k:qu y z):qu x z:=by unfold qu gW at*;omega
theorem Ke(x y:cX):qu x y∨x=y∨qu y x:=by
 have:(x.1=y.1∧x.2=y.2)→x=y:=fun h=>axx h.1 h.2
 unfold qu gW
 by_cases h1:x.1=y.1
 ·by_cases h2:x.2=y.2
  ·exact Or.inr (Or.inl (this ⟨h1,h2⟩))
  ·omega
 ·omega
theorem Kf: ∀{a b:List cX},vG a→vG b→(∀x,x∈a↔x∈b)→a=b
 |[],[],_,_,_=>rfl
 |[],y::t,_,_,h=>nomatch (h y).2 (auo ..)
 |x::s,[],_,_,h=>nomatch (h x).1 (auo ..)
 |x::s,y::t,ha,hb,h=>by
  obtain⟨Ry,ha2⟩:=au1.1 ha
  obtain⟨jN,sr⟩:=au1.1 hb
  have hxy:x=y:=by
   rcases auy.1 ((h x).1 (auo ..))with e|e
   ·exact e
   ·rcases auy.1 ((h y).2 (auo ..))with f|f
    ·exact f.symm
    ·exact(LG (Ry y f) (jN x e)).elim
  subst hxy
  rw[Kf ha2 sr fun z=>⟨fun hz=> ?_,fun hz=> ?_⟩]
  ·rcases auy.1 ((h z).1 (auk _ hz))with e|e
   ·subst e;exact(pG (Ry z hz)).elim
   ·exact e
  ·rcases auy.1 ((h z).2 (auk _ hz))with e|e
   ·subst e;exact(pG (jN z hz)).elim
   ·exact e
def jz(P:Int→Prop) [DecidablePred P](f:Int→Int→Int):List cX→Option aj
 |[]=>some []
 |k::t=>if P (f k.1 k.2)then(jz P f t).map (fun o=>if f k.1 k.2=0 then o else(k.1,(k.2,(f k.1 k.2,())))::o)else none
theorem oP(P:Int→Prop) [DecidablePred P](f:Int→Int→Int)(k:cX)(t:List cX):jz P f (k::t)=if P (f k.1 k.2)then(jz P f t).map (fun o=>if f k.1 k.2=0 then o else(k.1,(k.2,(f k.1 k.2,())))::o)else none:=rfl
theorem wT{P:Int→Prop} [DecidablePred P](h0:P 0){f:Int→Int→Int}(p:cX→Bool): ∀{K:List cX},(∀k∈K,p k=false→f k.1 k.2=0)→jz P f (K.filter p)=jz P f K
 |[],_=>rfl
 |k::t,h=>by
  have ih:=wT h0 p (K:=t) (fun x hx=>h x (auk _ hx))
  cases hp:p k
  ·rw[List.filter_cons_of_neg (by rw[hp];decide),ih,oP,h k (auo ..) hp,auh h0]
   simp
  ·rw[List.filter_cons_of_pos hp,oP,oP,ih]
theorem Fg{P:Int→Prop} [DecidablePred P](h0:P 0){f:Int→Int→Int}{K G:List cX}(hK:vG K)(hG:vG G)(hs: ∀k∈K,k∈G)(hz: ∀k∈G,k∉K→f k.1 k.2=0):jz P f K=jz P f G:=by
 have e:K=G.filter (fun k=>decide (k∈K)):=by
  refine Kf hK (aw1 List.filter_sublist hG) fun x=> ?_
  rw[axI]
  exact⟨fun h=>⟨hs x h,auv h⟩,fun h=>auw h.2⟩
 rw[e]
 exact wT h0 _ fun k hk hp=>hz k hk (of_decide_eq_false hp)
def q9(k:cX):List cX→List cX
 |[]=>[k]
 |x::t=>if qu x k then x::q9 k t else if x=k then x::t else k::x::t
theorem mK{k x:cX}: ∀{K:List cX},x∈q9 k K↔x=k∨x∈K
 |[]=>by show x∈[k]↔_;simp
 |y::t=>by
  show x∈(if qu y k then y::q9 k t else if y=k then y::t else k::y::t)↔_
  split
  ·rw[auy,mK,auy]
   exact⟨fun h=>h.elim (fun e=>Or.inr (Or.inl e)) (fun h=>h.elim Or.inl (fun h=>Or.inr (Or.inr h))),fun h=>h.elim (fun e=>Or.inr (Or.inl e)) (fun h=>h.elim Or.inl (fun h=>Or.inr (Or.inr h)))⟩
  ·split
   ·rename_i e
    rw[←e]
    exact⟨Or.inr,fun h=>h.elim (fun e=>e▸auo ..) id⟩
   ·rw[auy]
theorem uB{k:cX}: ∀{K:List cX},vG K→vG (q9 k K)
 |[],_=>au1.2 ⟨fun _ h=>(nomatch h),List.Pairwise.nil⟩
 |y::t,h=>by
  obtain⟨h1,h2⟩:=au1.1 h
  show vG (if qu y k then y::q9 k t else if y=k then y::t else k::y::t)
  split
  ·rename_i hy
   exact au1.2 ⟨fun z hz=>(mK.1 hz).elim (fun e=>e▸hy) (h1 z),uB h2⟩
  ·rename_i hy
   split
   ·exact h
   ·rename_i he
    have hk:qu k y:=(Ke y k).elim (fun h=>absurd h hy) (fun h=>h.elim (fun h=>absurd h he) id)
    exact au1.2 ⟨fun z hz=>(auy.1 hz).elim (fun e=>e▸hk) (fun hz=>rP hk (h1 z hz)),h⟩
def jA(K:List cX)(E:aj):List cX:=E.foldl (fun K x=>q9 (keyOf x) K) K
theorem nS(K:List cX)(x:cm)(E:aj):jA K (x::E)=jA (q9 (keyOf x) K) E:=rfl
theorem td: ∀{E:aj} {K:List cX},vG K→vG (jA K E)
 |[],_,h=>h
 |x::E,K,h=>by rw[nS];exact td (uB h)
theorem iJ{k:cX}: ∀{E:aj} {K:List cX},k∈jA K E↔(k∈K∨ ∃x∈E,keyOf x=k)
 |[],K=>by
  show k∈K↔_
  simp
 |x::E,K=>by
  rw[nS,iJ,mK]
  constructor
  ·rintro((rfl|h)|⟨y,hy,e⟩)
   ·exact Or.inr ⟨x,auo ..,rfl⟩
   ·exact Or.inl h
   ·exact Or.inr ⟨y,auk _ hy,e⟩
  ·rintro(h|⟨y,hy,e⟩)
   ·exact Or.inl (Or.inr h)
   ·rcases auy.1 hy with rfl|hy
    ·exact Or.inl (Or.inl e.symm)
    ·exact Or.inr ⟨y,hy,e⟩
theorem zp(k:cX): ∀K:List cX,(q9 k K).length≤K.length+1
 |[]=>aul _
 |y::t=>by
  show(if qu y k then y::q9 k t else if y=k then y::t else k::y::t).length≤_
  have:=zp k t
  split
  ·rw[auj,auj];omega
  ·split<;>rw[auj]<;>(try rw[auj])<;>omega
def rowsOf(l:aj)(K:List cX):aj:=K.map fun k=>(k.1,(k.2,(cV k.1 k.2 l,())))
theorem nT{l:aj}(h:vG (l.map keyOf)):rowsOf l (l.map keyOf)=l:=by
 have key: ∀(m:aj),vG (m.map keyOf)→(∀x∈m,cV x.1 x.2.1 l=dt x)→rowsOf l (m.map keyOf)=m:=by
  intro m
  induction m with
  |nil=>intro _ _;rfl
  |cons x t ih=>
   intro hm hx
   have:=ih (au1.1 hm).2 (fun y hy=>hx y (auk _ hy))
   unfold rowsOf at*
   rw[auI,auI,this]
   congr 1
   show(x.1,(x.2.1,(cV x.1 x.2.1 l,())))=x
   rw[hx x (auo ..)];rfl
 refine key l h ?_
 clear key
 induction l with
 |nil=>intro x hx;nomatch hx
 |cons y t ih=>
  intro x hx
  obtain⟨h1,h2⟩:=au1.1 h
  have fL: ∀z∈t,¬(z.1=y.1∧z.2.1=y.2.1):=fun z hz e=>by
   have hk:=h1 (keyOf z) (au8 hz)
   have he:keyOf z=keyOf y:=axx e.1 e.2
   rw[he]at hk
   exact pG hk
  rw[mI]
  rcases auy.1 hx with rfl|hx
  ·rw[auh ⟨rfl,rfl⟩,mJ fL];omega
  ·rw[aui (fun e=>fL x hx ⟨e.1.symm,e.2.symm⟩),ih h2 x hx];omega
end VM
end
section
namespace VM
open Go VM.F
instance(x:Int):Decidable (aB x):=by unfold aB;infer_instance
def Fq(x:Int):Prop:=aB x∧nQ x
instance:DecidablePred Fq:=fun x=>by unfold Fq;infer_instance
def pH(r:Option aj):Option (aj×Int):=some (match r with|some o=>(o,0)|none=>([],2))
def fS(l E:aj)(a b:Int):Int:=cV a b l+cV a b E
theorem yd{α:Type}(N:Nat){l:List α}{i:Nat}{x:α}(hi:i≤l.length)(hl:l.length<1000000):gB N l (i:Int) [x]=some (l.take i++x::l.drop i):=by
 unfold gB
 rw[auh ⟨by omega,by omega,rfl,by unfold si;omega⟩]
 rfl
theorem ra{α:Type}(N:Nat){l:List α}(hl:l.length≤1000000):j1 N l=some l:=by
 unfold j1
 rw[auh (by unfold si;omega)]
theorem zq(N:Nat){v:Int}(h:eE v):C2 N (cy v)=some (xt v):=C1 N h.1 h.2
theorem Db{v:Int}(h:aB v):xt v=(v,true):=by unfold xt;exact auh h
theorem Dc{v:Int}(h: ¬aB v):xt v=(0,false):=by unfold xt;exact aui h
theorem BO{ws:List Int}{x:Int}(h: ∀y∈ws,aB y)(hx:aB x): ∀y∈ws++[x],aB y:=fun y hy=>by
 rcases aut.1 hy with hy|hy
 ·exact h y hy
 ·rw[auE.1 hy];exact hx
theorem Fh(N:Nat){l:aj}:R1 N l=some l:=by
 unfold R1
 rw[b9 (by omega) (by omega) (by omega) (by omega),aua]
 simp
theorem Ow(N:Nat)(hN:2000000≤N)(K:bu.BP){E out R:aj}(hq:eR E)(hl:E.length≤100000)(ho:out.length≤1000000)(r:cm)(hr:aB (dt r))(i:Nat)(hi:i≤1000000):
  bu.XJ N K N E out r [cy (dt r)] R (R.length:Int) (i:Int) E (E.length:Int) 0=
   if Fq (dt r+cV r.1 r.2.1 E)then K E (if dt r+cV r.1 r.2.1 E=0 then out else out++[(r.1,(r.2.1,(dt r+cV r.1 r.2.1 E,())))]) R (R.length:Int) ((i+1:Nat):Int)else some (br,(2:Int)):=by
 have:=qo E aW (fun n j ws=>bu.XJ N K n E out r (ws.map cy) R (R.length:Int) (i:Int) E (E.length:Int) j)
  (fun t ws=>if Fq (ws++dB r.1 r.2.1 t).sum then K E (if(ws++dB r.1 r.2.1 t).sum=0 then out else out++[(r.1,(r.2.1,((ws++dB r.1 r.2.1 t).sum,())))]) R (R.length:Int) ((i+1:Nat):Int)else some (br,(2:Int)))
  (fun j (ws:List Int)=>ws.length≤j+1∧ ∀x∈ws,aB x)
  (fun n j ws hj hI dT=> ?_) (fun n ws hI=> ?_) E.length N 0 [dt r] (by omega) (by omega) (by omega) ⟨aul _,fun x hx=>by rw[auE.1 hx];exact hr⟩
 ·rw[show((0:Nat):Int)=0 from rfl,auG]at this
  refine this.trans ?_
  have e:([dt r]++dB r.1 r.2.1 E).sum=dt r+cV r.1 r.2.1 E:=by rw[aw2,auO];rfl
  rw[e]
 ·unfold bu.XJ bu.R2
  have ux:=vF hq j
  have gq:=ux
  unfold aB dt at gq
  rw[aC (by omega),aua,aI (by omega) (by omega),aua,aue,vy N gq.1 gq.2,at7,bs (by rw[auH,aud];omega),aua,an (x:=(j:Int)+1) (by omega) (by omega),aa,aG,aG]
  by_cases h1:(E.getD j aW).1=r.1
  ·by_cases h2:(E.getD j aW).2.1=r.2.1
   ·have hc:dB r.1 r.2.1 (E.getD j aW::E.drop (j+1))=dt (E.getD j aW)::dB r.1 r.2.1 (E.drop (j+1)):=by rw[gv,auh ⟨h1,h2⟩]
    rw[auh h1,auh h2,hc]
    have:=dT (ws++[dt (E.getD j aW)]) ⟨by rw[aug,aud];omega,BO hI.2 ux⟩
    rw[auV]at this
    refine this.trans ?_
    rw[aur];rfl
   ·have hc:dB r.1 r.2.1 (E.getD j aW::E.drop (j+1))=dB r.1 r.2.1 (E.drop (j+1)):=by rw[gv,aui (fun h=>h2 h.2)]
    rw[auh h1,aui h2,hc]
    exact dT ws ⟨by omega,hI.2⟩
  ·have hc:dB r.1 r.2.1 (E.getD j aW::E.drop (j+1))=dB r.1 r.2.1 (E.drop (j+1)):=by rw[gv,aui (fun h=>h1 h.1)]
   rw[aui h1,hc]
   exact dT ws ⟨by omega,hI.2⟩
 ·unfold bu.XJ bu.R2
  have hs:=BM hI.2 (by omega)
  rw[az (by omega),auc,C5 N hI.2 (by omega) (by omega),at7]
  show _=if Fq (ws++[]).sum then K E (if(ws++[]).sum=0 then out else out++[(r.1,(r.2.1,((ws++[]).sum,())))]) R (R.length:Int) ((i+1:Nat):Int)else some (br,(2:Int))
  rw[auJ,zq N hs,at7]
  by_cases h1:aB ws.sum
  ·rw[Db h1]
   dsimp only
   rw[auq,auc,qZ,at7,cond_not,ea,cond_not,aG,bs (by rw[aud];omega),aua,an (x:=(i:Int)+1) (by omega) (by omega),aa]
   by_cases h2:nQ ws.sum
   ·rw[auh h2,auh (show Fq ws.sum from⟨h1,h2⟩)]
    split<;>rfl
   ·rw[aui h2,aui (fun h=>h2 h.2)]
  ·rw[Dc h1,aui (fun h=>h1 h.1)]
   rfl
theorem LH(N:Nat)(hN:2000000≤N){l E R:aj}(hq:eR E)(hl:E.length≤100000)(hR:R.length≤200000)(hv: ∀r∈R,aB (dt r)∧dt r=cV r.1 r.2.1 l):
  bu.R3 N N E [] R (R.length:Int) 0=pH (jz Fq (fS l E) (R.map keyOf)):=by
 have:=qo R aW (fun n i out=>bu.R3 N n E out R (R.length:Int) i) (fun t out=>pH ((jz Fq (fS l E) (t.map keyOf)).map (fun o=>out++o))) (fun i (out:aj)=>out.length≤i)
  (fun n i out hi hI hr=> ?_) (fun n out hI=> ?_) R.length N 0 [] (by omega) (by omega) (by omega) (aul _)
 ·rw[show((0:Nat):Int)=0 from rfl,auG]at this
  refine this.trans ?_
  simp
 ·unfold bu.R3 bu.R4
  have hm:R.getD i aW∈R:=by
   rw[aub,auf hi];exact auT hi
  have Nh:=hv _ hm
  have ux:=Nh.1
  have gq:=ux
  unfold aB dt at gq
  rw[aC (by omega),aua,aI (by omega) (by omega),aua,aue,vy N gq.1 gq.2,at7]
  refine(Ow N hN _ hq hl (by omega) _ ux i (by omega)).trans ?_
  rw[auI,oP]
  have ef:fS l E (keyOf (R.getD i aW)).1 (keyOf (R.getD i aW)).2=dt (R.getD i aW)+cV (R.getD i aW).1 (R.getD i aW).2.1 E:=by
   show cV _ _ l+cV _ _ E=_
   rw[Nh.2];rfl
  rw[ef]
  generalize hS:dt (R.getD i aW)+cV (R.getD i aW).1 (R.getD i aW).2.1 E=v
  by_cases hF:Fq v
  ·rw[auh hF,auh hF,hr _ (by
    split
    ·omega
    ·rw[aug,aud];omega)]
   cases jz Fq (fS l E) ((R.drop (i+1)).map keyOf)with
   |none=>rfl
   |some o=>
    show pH (some _)=pH (some _)
    congr 2
    split
    ·rfl
    ·exact aur _ _ _
  ·rw[aui hF,aui hF];rfl
 ·unfold bu.R3 bu.R4
  rw[az (by omega),auc,Fh,at7]
  show _=pH (some (out++[]))
  rw[auJ];rfl
def Fi(l:aj)(k:cX):cm:=(k.1,(k.2,(cV k.1 k.2 l,())))
theorem cP(l:aj)(K:List cX):(rowsOf l K).length=K.length:=auH ..
theorem BQ(l:aj){K:List cX}{p:Nat}(h:p<K.length):(rowsOf l K).getD p aW=Fi l (K.getD p (0,0)):=by
 unfold rowsOf
 rw[aub,avw,auf h,aub,auf h];rfl
theorem pI(l:aj)(K:List cX)(p:Nat)(k:cX):(rowsOf l K).take p++Fi l k::(rowsOf l K).drop p=rowsOf l (K.take p++k::K.drop p):=by
 unfold rowsOf
 rw[auV,auI,List.map_take,List.map_drop];rfl
theorem wU(l:aj)(K:List cX):(rowsOf l K).map keyOf=K:=by
 unfold rowsOf
 rw[List.map_map]
 induction K with
 |nil=>rfl
 |cons k t ih=>rw[auI,ih];rfl
theorem uC{k x:cX}:0<vz k.1 k.2 x.1 x.2↔qu x k:=by
 unfold vz qu gW;split<;>omega
theorem rQ{k x:cX}:vz k.1 k.2 x.1 x.2=0↔x=k:=by
 have:x=k↔x.1=k.1∧x.2=k.2:=⟨fun h=>h▸⟨rfl,rfl⟩,fun h=>axx h.1 h.2⟩
 rw[this]
 unfold vz;split<;>omega
def uD(k:cX):Prop:=A5 k.1∧A5 k.2
theorem Kg{k:cX}{K:List cX}{p:Nat}(h:p<K.length):q9 k (K.drop p)=if qu (K.getD p (0,0)) k then K.getD p (0,0)::q9 k (K.drop (p+1))else if K.getD p (0,0)=k then K.drop p else k::K.drop p:=by
 rw[drop_cons h (0,0)];rfl
theorem uE{K:List cX}{p:Nat}(h:p<K.length)(t:List cX):K.take p++K.getD p (0,0)::t=K.take (p+1)++t:=by
 rw[←awh h,aur,aub,auf h];rfl
def zeroAt(l:aj)(K:List cX)(k:cX):Prop:=k∉K→cV k.1 k.2 l=0
theorem rR{l:aj}{k:cX}(h:cV k.1 k.2 l=0):((k.1,(k.2,((0:Int),()))):cm)=Fi l k:=by
 unfold Fi;rw[h]
theorem pJ{k:cX}{K:List cX}{p:Nat}(hs:vG K)(hp: ∀x∈K.take p,qu x k)(h: ∀x∈K.drop p,qu k x):k∉K:=fun hk=>by
 rw[←auR p K]at hk
 rcases aut.1 hk with hk|hk
 ·exact pG (hp k hk)
 ·exact pG (h k hk)
theorem Kh{k:cX}{K:List cX}{p:Nat}(hs:vG K)(h:p<K.length)(h1: ¬qu (K.getD p (0,0)) k)(h2:K.getD p (0,0)≠k): ∀x∈K.drop p,qu k x:=by
 have hk:qu k (K.getD p (0,0)):=(Ke (K.getD p (0,0)) k).elim (fun h=>absurd h h1) (fun h=>h.elim (fun h=>absurd h h2) id)
 have hd:vG (K.drop p):=aw1 (List.drop_sublist ..) hs
 rw[drop_cons h (0,0)]at hd ⊢
 intro x hx
 rcases auy.1 hx with rfl|hx
 ·exact hk
 ·exact rP hk ((au1.1 hd).1 x hx)
theorem XK(N:Nat)(C:bu.dv){l E S:aj}{K:List cX}(hs:vG K)(hl:K.length≤100000)(hf: ∀k∈K,uD k)(x:cm)(hx:uD (keyOf x))(hz:zeroAt l K (keyOf x))(len:Int)(i:Nat)(hi:i≤1000000):
  ∀(m n p:Nat),K.length-p≤m→m<n→p≤K.length→(∀y∈K.take p,qu y (keyOf x))→
   bu.sx N C n E (rowsOf l K) x (p:Int) S len (i:Int)=C E (rowsOf l (K.take p++q9 (keyOf x) (K.drop p))) S len ((i+1:Nat):Int)
 |m,0,p,_,hn,_,_=>by omega
 |m,n+1,p,hm,hn,hp,hb=>by
  unfold bu.sx bu.q5 bu.j18 bu.ZC
  rw[cP,an (x:=(i:Int)+1) (by omega) (by omega),aa i]
  by_cases h:p<K.length
  ·have hfk:=hf (K.getD p (0,0)) (by rw[aub,auf h];exact auT h)
   have ho:Lu N x.1 x.2.1 ((rowsOf l K).getD p aW)=some (vz (keyOf x).1 (keyOf x).2 (K.getD p (0,0)).1 (K.getD p (0,0)).2):=by
    rw[BQ l h]
    exact BJ N hx.1 hx.2 hfk.1 hfk.2
   rw[aC (by omega),aua,aI (by omega) (by omega),aua,aue,ho,at7,cf (x:=(p:Int)) (by omega),auc,aua,at7,ck,cond_not,aG,Kg h]
   by_cases h1:qu (K.getD p (0,0)) (keyOf x)
   ·rw[auh (uC.2 h1),auh h1,an (x:=(p:Int)+1) (by omega) (by omega),aa p,uE h]
    refine XK N C hs hl hf x hx hz len i hi (m-1) n (p+1) (by omega) (by omega) (by omega) fun y hy=> ?_
    rw[←awh h]at hy
    rcases aut.1 hy with hy|hy
    ·exact hb y hy
    ·rw[aub,auf h]at h1
     rw[auE.1 hy];exact h1
   ·rw[aui (fun h=>h1 (uC.1 h)),aui h1]
    by_cases h2:K.getD p (0,0)=keyOf x
    ·rw[auh (rQ.2 h2),auh h2,auR]
    ·rw[aui (fun h=>h2 (rQ.1 h)),aui h2,yd N (by rw[cP];omega) (by rw[cP];omega),at7]
     have Ay:=hz (pJ hs hb (Kh hs h h1 h2))
     have e:=pI l K p (keyOf x)
     rw[←rR Ay]at e
     exact avH (fun R=>C E R S len ((i+1:Nat):Int)) e
  ·have hd:K.drop p=[]:=avI (by omega)
   rw[az (by omega),auc,bW (by omega),aua,yd N (by rw[cP];omega) (by rw[cP];omega),at7]
   have Ay:=hz (pJ hs hb (by rw[hd];exact fun x hx=>nomatch hx))
   have e:=pI l K p (keyOf x)
   rw[←rR Ay]at e
   have e2:q9 (keyOf x) (K.drop p)=keyOf x::K.drop p:=by rw[hd];rfl
   rw[e2]
   exact avH (fun R=>C E R S len ((i+1:Nat):Int)) e
end VM
end
section
namespace VM
open Go VM.F
def BR(E:aj)(i:Nat):Prop:=eo (cO (i:Int) E).sum 0
instance(E:aj):DecidablePred (BR E):=fun i=>by unfold BR;infer_instance
theorem R5(N:Nat)(hN:2000000≤N)(K:dW.bY){E:aj}(hq:eR E)(hl:E.length≤100000)(a:Nat)(ha:a<6):
  dW.l6 N K N E (a:Int) [] (a:Int) E (E.length:Int) 0=if(cO (a:Int) E).sum=0 then K E ((a+1:Nat):Int)else some false:=by
 have:=qo E aW (fun n j ws=>dW.l6 N K n E (a:Int) (ws.map cy) (a:Int) E (E.length:Int) j)
  (fun t ws=>if(ws++cO (a:Int) t).sum=0 then K E ((a+1:Nat):Int)else some false)
  (fun j (ws:List Int)=>ws.length≤j∧ ∀x∈ws,aB x)
  (fun n j ws hj hI hr=> ?_) (fun n ws hI=> ?_) E.length N 0 [] (by omega) (by omega) (by omega) ⟨aul _,fun x hx=>nomatch hx⟩
 ·rw[show((0:Nat):Int)=0 from rfl,auG]at this
  exact this
 ·unfold dW.l6 dW.ov
  have ux:=vF hq j
  have gq:=ux
  unfold aB dt at gq
  rw[aC (by omega),aua,aI (by omega) (by omega),aua,aue,vy N gq.1 gq.2,at7,bs (by rw[auH,aud];omega),aua,an (x:=(j:Int)+1) (by omega) (by omega),aa j,aG]
  by_cases h1:(E.getD j aW).2.1=(a:Int)
  ·have hc:cO (a:Int) (E.getD j aW::E.drop (j+1))=dt (E.getD j aW)::cO (a:Int) (E.drop (j+1)):=by rw[dU,auh h1]
   rw[auh h1,hc]
   have:=hr (ws++[dt (E.getD j aW)]) ⟨by rw[aug,aud];omega,BO hI.2 ux⟩
   rw[auV]at this
   refine this.trans ?_
   rw[aur];rfl
  ·have hc:cO (a:Int) (E.getD j aW::E.drop (j+1))=cO (a:Int) (E.drop (j+1)):=by rw[dU,aui h1]
   rw[aui h1,hc]
   exact hr ws ⟨by omega,hI.2⟩
 ·unfold dW.l6 dW.ov
  rw[az (by omega),auc,C5 N hI.2 (by omega) (by omega),at7]
  show _=if(ws++[]).sum=0 then K E ((a+1:Nat):Int)else some false
  rw[auJ,auq,auc,uw,at7,cond_not,aG,an (x:=(a:Int)+1) (by omega) (by omega),aa a]
  by_cases h:ws.sum=0
  ·rw[auh h,auh (kO.2 h)]
  ·rw[aui h,aui (fun k=>h (kO.1 k))]
theorem Ox(N:Nat)(hN:2000000≤N){E:aj}(hq:eR E)(hl:E.length≤100000):dW N E=some (decide (∀j,j<gr→BR E j)&&true):=by
 unfold dW dW.b
 refine eY (len:=gr) (F:=fun n i=>dW.l2 N n E i) (BR E) (fun n i r hi hp hr=> ?_) (fun n=> ?_) N (by unfold gr;omega)
 ·unfold dW.l2 dW.ei
  unfold gr at hi
  rw[aC (by omega),aua,R5 N hN _ hq hl i hi,hr]
  unfold BR eo
  rfl
 ·unfold dW.l2 dW.ei
  rw[az (by unfold gr;omega),auc]
structure Oy(E:aj):Prop where
 place: ∀x∈E,bT x.1 x.2.1
 q: ∀x∈E,aB (dt x)∧nQ (dt x)
 len:E.length≤400
 flat: ∀i:Int,(cO i E).sum=0
theorem BS{x:cm}(h:bT x.1 x.2.1):uD (keyOf x):=by
 have h':bT (keyOf x).1 (keyOf x).2:=h
 unfold bT at h'
 unfold uD A5
 omega
theorem fi{l:aj}{k:cX}(h:k∉l.map keyOf):cV k.1 k.2 l=0:=mJ fun x hx e=>h (by
 have:keyOf x=k:=axx e.1 e.2
 rw[←this];exact au8 hx)
theorem LJ(N:Nat)(hN:2000000≤N){l E:aj}(hq:eR E)(hE:E.length≤400)(hp: ∀x∈E,uD (keyOf x))(hs:vG (l.map keyOf))(hl:l.length≤90000)(ZD:eR l)(Oz: ∀x∈l,uD (keyOf x)):
  bu.jB N N E l E (E.length:Int) 0=pH (jz Fq (fS l E) (jA (l.map keyOf) E)):=by
 have:=qo E aW (fun n i K=>bu.jB N n E (rowsOf l K) E (E.length:Int) i) (fun t K=>pH (jz Fq (fS l E) (jA K t)))
  (fun i (K:List cX)=>K.length≤l.length+i∧vG K∧(∀k∈K,uD k)∧ ∀x∈l,keyOf x∈K)
  (fun n i K hi hI hr=> ?_) (fun n K hI=> ?_) E.length N 0 (l.map keyOf) (by omega) (by omega) (by omega) ⟨by rw[auH];omega,hs,fun k hk=>by
   obtain⟨x,hx,rfl⟩:=auW.1 hk
   exact Oz x hx,fun x hx=>au8 hx⟩
 ·rw[show((0:Nat):Int)=0 from rfl,auG]at this
  simp only[nT hs]at this
  exact this
 ·unfold bu.jB bu.il
  obtain⟨h1,h2,h3,h4⟩:=hI
  have hm:E.getD i aW∈E:=by
   rw[aub,auf hi];exact auT hi
  rw[aC (by omega),aua,aI (by omega) (by omega),aua,aue]
  refine(XK N _ h2 (by omega) h3 (E.getD i aW) (hp _ hm) (fun hk=>fi fun hx=>hk (by
   obtain⟨x,hx,e⟩:=auW.1 hx
   rw[←e];exact h4 x hx)) (E.length:Int) i (by omega) K.length N 0 (by omega) (by omega) (by omega) (fun y hy=>nomatch hy)).trans ?_
  rw[avD,auK,auG,nS]
  refine hr (q9 (keyOf (E.getD i aW)) K) ⟨auX (zp _ K) (by omega),uB h2,fun k hk=>(mK.1 hk).elim (fun e=>e▸hp _ hm) (h3 k),fun x hx=>mK.2 (Or.inr (h4 x hx))⟩
 ·unfold bu.jB bu.il
  obtain⟨h1,h2,h3,h4⟩:=hI
  rw[az (by omega),auc,cP,bq (by omega) (by omega) (by omega),aua]
  have:=LH N hN (l:=l) (R:=rowsOf l K) hq (by omega) (by rw[cP];omega) (fun r hr=>by
   unfold rowsOf at hr
   obtain⟨k,hk,rfl⟩:=auW.1 hr
   refine⟨?_,rfl⟩
   show aB (cV k.1 k.2 l)
   by_cases XL:k∈l.map keyOf
   ·have e:rowsOf l (l.map keyOf)=l:=nT hs
    have hm:Fi l k∈rowsOf l (l.map keyOf):=au8 XL
    rw[e]at hm
    exact ZD (Fi l k) hm
   ·rw[fi XL];exact⟨by decide,by decide⟩)
  rw[wU,cP]at this
  exact this
theorem dV{l:aj}(h:cG l=true):vG (l.map keyOf)∧(∀x∈l,bT x.1 x.2.1∧nQ (dt x)):=by
 unfold cG at h
 rw[awg]at h
 have h':=auw h
 have get: ∀(i:Nat) (hi:i<l.length),l.getD i aW=l[i]:=fun i hi=>by rw[aub,auf hi];rfl
 have OA: ∀i,i+1<l.length→qu (keyOf (l.getD i aW)) (keyOf (l.getD (i+1) aW)):=fun i hi=>(h' (i+1) hi).2.2.2 (by omega)
 have dz: ∀j,j<l.length→ ∀i,i<j→qu (keyOf (l.getD i aW)) (keyOf (l.getD j aW)):=by
  intro j
  induction j with
  |zero=>intro _ i hi;omega
  |succ j ih=>
   intro hj i hi
   by_cases e:i=j
   ·rw[e];exact OA j hj
   ·exact rP (ih (by omega) i (by omega)) (OA j hj)
 refine⟨?_,fun x hx=> ?_⟩
 ·refine awY.2 (awb.2 fun i j hi hj np=> ?_)
  have:=dz j hj i np
  rw[get i hi,get j hj]at this
  exact this
 ·obtain⟨i,hi,e⟩:=avq hx
  have:=h' i hi
  unfold ij iI at this
  rw[get i hi,e]at this
  exact⟨this.1,this.2.2.1⟩
theorem R6(N:Nat)(hN:2000000≤N){l E:aj}(hk:cG l=true)(hl:l.length≤90000)(ZD:eR l)(g:Oy E):bu N l E=pH (jz Fq (fS l E) (jA (l.map keyOf) E)):=by
 obtain⟨hs,Oz⟩:=dV hk
 have hE:=g.len
 unfold bu bu.b
 rw[uj N (by omega) (by omega),hk,at7,auq,auc,az (by omega),auc]
 refine ui E aW (fun n i=>bu.l4 N n l E E (E.length:Int) i) (fun _=>pH (jz Fq (fS l E) (jA (l.map keyOf) E))) (fun n i hi hr=> ?_) (fun n=> ?_) N (by omega)
 ·unfold bu.l4 bu.cT
  have hm:E.getD i aW∈E:=by
   rw[aub,auf hi];exact auT hi
  rw[aC (by omega),aua,aI (by omega) (by omega),aua,aue,Ka,auv (g.place _ hm),at7,auq,auc,qZ,at7,
   auv (show nQ ((E.getD i aW).2.2.1)from(g.q _ hm).2),auq,auc,an (x:=(i:Int)+1) (by omega) (by omega),aa i]
  exact hr
 ·unfold bu.l4 bu.cT
  have hf:dW N E=some true:=by
   rw[Ox N hN (fun x hx=>(g.q x hx).1) (by omega),auv (p:= ∀j,j<gr→BR E j) (fun j _=>g.flat (j:Int))];rfl
  rw[az (by omega),auc,hf,at7,auq,auc,ra N (by omega),at7]
  exact LJ N hN (fun x hx=>(g.q x hx).1) hE (fun x hx=>BS (g.place x hx)) hs hl ZD (fun x hx=>BS (Oz x hx).1)
end VM
end
section
namespace VM
open Go VM.F
def LK(a b:Nat):Nat→List cX
 |0=>[]
 |m+1=>((a:Int),(b:Int))::LK a (b+1) m
def BT(w a:Nat):Nat→List cX
 |0=>[]
 |m+1=>LK a 0 w++BT w (a+1) m
theorem uF{k:cX}{a:Nat}: ∀{m b:Nat},k∈LK a b m↔k.1=a∧(b:Int)≤k.2∧k.2<(b+m:Nat)
 |0,b=>⟨fun h=>(nomatch h),fun h=>by omega⟩
 |m+1,b=>by
  show k∈((a:Int),(b:Int))::LK a (b+1) m↔_
  rw[auy,uF]
  have:k=((a:Int),(b:Int))↔k.1=a∧k.2=b:=⟨fun h=>h▸⟨rfl,rfl⟩,fun h=>axx h.1 h.2⟩
  rw[this]
  omega
theorem rS{k:cX}{w:Nat}: ∀{m a:Nat},k∈BT w a m↔(a:Int)≤k.1∧k.1<(a+m:Nat)∧0≤k.2∧k.2<w
 |0,a=>⟨fun h=>(nomatch h),fun h=>by omega⟩
 |m+1,a=>by
  show k∈LK a 0 w++BT w (a+1) m↔_
  rw[aut,uF,rS]
  omega
theorem Fj(a:Nat): ∀(m b:Nat),vG (LK a b m)
 |0,b=>List.Pairwise.nil
 |m+1,b=>au1.2 ⟨fun k hk=>by
  have:=uF.1 hk
  show(a:Int)<k.1∨((a:Int)=k.1∧(b:Int)<k.2)
  omega,Fj a m (b+1)⟩
theorem vH(w:Nat): ∀(m a:Nat),vG (BT w a m)
 |0,a=>List.Pairwise.nil
 |m+1,a=>List.pairwise_append.2 ⟨Fj a w 0,vH w m (a+1),fun x hx y hy=>by
  have h1:=uF.1 hx
  have h2:=rS.1 hy
  show x.1<y.1∨(x.1=y.1∧x.2<y.2)
  omega⟩
end VM
end
section
namespace VM
open Go VM.F
def Iz:List cX:=BT 6 0 25
theorem LM{l E:aj}(hk:cG l=true)(hp: ∀x∈E,bT x.1 x.2.1):jz Fq (fS l E) (jA (l.map keyOf) E)=jz Fq (fS l E) Iz:=by
 obtain⟨hs,Oz⟩:=dV hk
 refine Fg ⟨⟨by decide,by decide⟩,by decide⟩ (td hs) (vH 6 25 0) (fun k hk=> ?_) (fun k hk hn=> ?_)
 ·have:bT k.1 k.2:=by
   rcases iJ.1 hk with h|⟨x,hx,rfl⟩
   ·obtain⟨x,hx,rfl⟩:=auW.1 h
    exact(Oz x hx).1
   ·exact hp x hx
  unfold bT at this
  exact rS.2 (by omega)
 ·have h1:k∉l.map keyOf:=fun h=>hn (iJ.2 (Or.inl h))
  have h2:k∉E.map keyOf:=fun h=>by
   obtain⟨x,hx,e⟩:=auW.1 h
   exact hn (iJ.2 (Or.inr ⟨x,hx,e⟩))
  unfold fS
  rw[fi h1,fi h2];rfl
end VM
end
