/- A part of the proof of LotEven of layer 23: what the functions compute, in plain words. -/
import Derived.Test.YthnjnpjmbabcaaaGreatPlain1
set_option linter.all false
section
namespace VM
open Go VM.F
variable(N:Nat)
theorem W6(a b:bI):ti (.pair (.int .i64) (.pair (.int .u64) .unit)) a b=(aM a.1 b.1&&(aM a.2.1 b.2.1&&true)):=rfl
theorem Sq{u v:Int}:F62 N (cO u) (cO v)=some (wk (u-v)):=by
 unfold F62
 rw[W6]
 unfold cO
 dsimp only
 unfold wk
 rw[c4,aR,c4,gk,jj,jj]
 have hu:u=u/18446744073709551616*18446744073709551616+u%18446744073709551616:=ω
 have hv:v=v/18446744073709551616*18446744073709551616+v%18446744073709551616:=ω
 by_cases h1:u/18446744073709551616<v/18446744073709551616
 ·rw[ak h1];congr 1;split<;>(try split)<;>omega
 ·rw[ah h1]
  by_cases h2:u/18446744073709551616=v/18446744073709551616
  ·rw[ak h2,bq h2,ke]
   by_cases h3:u%18446744073709551616<v%18446744073709551616
   ·rw[ak h3];congr 1;split<;>(try split)<;>omega
   ·rw[ah h3]
    by_cases h4:u%18446744073709551616=v%18446744073709551616
    ·rw[bq h4,aj];congr 1;split<;>(try split)<;>omega
    ·rw[bK h4,au];congr 1;split<;>(try split)<;>omega
  ·rw[ah h2,bK h2,tP,au];congr 1;split<;>(try split)<;>omega
theorem QJ:cO 0=ct:=rfl
theorem Gy{u:Int}:F61 N (cO u)=some (wk u):=by
 unfold F61
 rw[←QJ,Sq,aw,Af]
def gJ(r:eP):Int:=r.2.2.1
def aG(x:Int):Prop:= -9223372036854775808≤x∧x<9223372036854775808
def gF(l:aC):Prop:= ∀x∈l,aG (gJ x)
theorem Gz{l:aC}(h:gF l)(i:Nat):aG (gJ (l.getD i bW)):=by
 by_cases hi:i<l.length
 ·rw[aZ,bo hi];exact h _ (fg hi)
 ·rw[aZ,gV ω];exact⟨δ,δ⟩
theorem NS{ws:List Int}(h: ∀x∈ws,aG x): -(9223372036854775808*(ws.length:Int))≤ws.sum∧ws.sum≤9223372036854775808*(ws.length:Int):=KP ws h
theorem Ue{ws:List Int}(h: ∀x∈ws,aG x)(hl:ws.length≤1000000):c7 ws.sum:=by
 have:=NS h
 unfold c7;omega
theorem Uf{ws:List Int}(h: ∀x∈ws,aG x): ∀x∈ws,c7 x:=λx hx=>by
 have:=h x hx
 unfold aG at this;unfold c7;omega
theorem W7{ws:List Int}(h: ∀x∈ws,aG x)(hl:ws.length≤1000000)(hN:1000000<N):pk N (ws.map cO)=some (cO ws.sum,true):=by
 rw[Sl N (Uf h) hl hN]
 unfold NN
 rw[ak (Ue h hl)]
def gK(l:aC):Int:=if fx l then(l.map gJ).sum else 0
theorem QK{l:aC}(hq:gF l)(hl:l.length≤100000)(hN:2000000≤N):Dt.l5 N N ct [] l (l.length:Int) 0=some (cO (l.map gJ).sum):=by
 have:=vr l bW (λn i ws=>Dt.l5 N n ct (ws.map cO) l (l.length:Int) i) (λt ws=>some (cO (ws++t.map gJ).sum)) (λi (ws:List Int)=>ws.length=i∧ ∀x∈ws,aG x)
  (λn i ws hi hI hr=> ?_) (λn ws hI=> ?_) l.length N 0 [] ω ω ω ⟨rfl,λx hx=>nomatch hx⟩
 ·simpa using this
 ·unfold Dt.l5 Dt.e8
  have sE:=Gz hq i
  have pY:=sE
  unfold aG gJ at pY
  rw[aP ω,aj,aY ω ω,aj,aF,Gs N pY.1 pY.2,aw,ch (by rw[fE,aJ];omega),aj,ay ω ω,ag]
  have:=hr (ws++[gJ (l.getD i bW)]) ⟨by rw[aX,hI.1];rfl,λx hx=>by
   rcases bf.1 hx with hx|hx
   ·exact hI.2 x hx
   ·rw[cg.1 hx];exact sE⟩
  rw[dL]at this
  refine this.trans ?_
  rw[bZ,bU];rfl
 ·unfold Dt.l5 Dt.e8
  rw[aK ω,au,W7 N hI.2 ω ω,aw,gY,cN]
theorem W8{l:aC}(hq:gF l)(hl:l.length≤100000)(hN:2000000≤N):Dt N l=some (cO (gK l)):=by
 unfold Dt Dt.b gK
 rw[Sm N hl ω,aw,cond_not,QK N hq hl hN]
 cases fx l<;>rfl
theorem NT{l:aC}(hq:gF l)(hl:l.length≤100000)(hN:4000000≤N):Du.l5 N N l (c5 0) (c5 0) 0=some (c5 (l.map gJ).sum):=by
 have:=vr l bW (λn i ws=>Du.l5 N n l (c5 0) (c5 ws.sum) i) (λt ws=>some (c5 (ws++t.map gJ).sum)) (λi (ws:List Int)=>ws.length=i∧ ∀x∈ws,aG x)
  (λn i ws hi hI hr=> ?_) (λn ws hI=> ?_) l.length N 0 [] ω ω ω ⟨rfl,λx hx=>nomatch hx⟩
 ·simpa using this
 ·unfold Du.l5 Du.e8
  have sE:=Gz hq i
  have pY:=sE
  unfold aG gJ at pY
  have hb:=NS hI.2
  rw[hI.1]at hb
  rw[aP ω,aj,aY ω ω,aj,aF,dp N ω pY.1 pY.2,aw,jR N ω ((A0 (n:=i) ω hb.1 hb.2).mono ω) ((Fit.i64 pY.1 pY.2).mono ω),aw,ay ω ω,ag]
  have:=hr (ws++[gJ (l.getD i bW)]) ⟨by rw[aX,hI.1];rfl,λx hx=>by
   rcases bf.1 hx with hx|hx
   ·exact hI.2 x hx
   ·rw[cg.1 hx];exact sE⟩
  rw[lI,cD,iM,jy]at this
  refine this.trans ?_
  rw[bZ,bU];rfl
 ·unfold Du.l5 Du.e8
  rw[aK ω,au,gY,cN]
theorem Ug{l:aC}(hq:gF l)(hl:l.length≤100000)(hN:4000000≤N):Du N l=some (c5 (gK l)):=by
 unfold Du Du.b gK
 rw[Gu N hl ω,aw,cond_not]
 have:=NT N hq hl hN
 rw[kX]at this
 rw[this]
 cases fx l
 ·rw[au];exact gz some kX.symm
 ·rfl
def dS(inst:Int):aC→List Int
 |[]=>[]
 |x::t=>if x.2.1=inst then gJ x::dS inst t else dS inst t
theorem ef(inst:Int)(x:eP)(t:aC):dS inst (x::t)=if x.2.1=inst then gJ x::dS inst t else dS inst t:=rfl
theorem Uh{l:aC}(hq:gF l)(hl:l.length≤100000)(hN:2000000≤N)(inst:Int):pt.l5 N N inst ct [] l (l.length:Int) 0=some (cO (dS inst l).sum):=by
 have:=vr l bW (λn i ws=>pt.l5 N n inst ct (ws.map cO) l (l.length:Int) i) (λt ws=>some (cO (ws++dS inst t).sum)) (λi (ws:List Int)=>ws.length≤i∧ ∀x∈ws,aG x)
  (λn i ws hi hI hr=> ?_) (λn ws hI=> ?_) l.length N 0 [] ω ω ω ⟨aI _,λx hx=>nomatch hx⟩
 ·simpa using this
 ·unfold pt.l5 pt.e8
  have sE:=Gz hq i
  have pY:=sE
  unfold aG gJ at pY
  rw[aP ω,aj,aY ω ω,aj,aF,Gs N pY.1 pY.2,aw,ch (by rw[fE,aJ];omega),aj,ay ω ω,ag,aR,ef]
  split
  ·have:=hr (ws++[gJ (l.getD i bW)]) ⟨by rw[aX,aJ];omega,λx hx=>by
    rcases bf.1 hx with hx|hx
    ·exact hI.2 x hx
    ·rw[cg.1 hx];exact sE⟩
   rw[dL]at this
   refine this.trans ?_
   rw[bU];rfl
  ·exact hr ws ⟨ω,hI.2⟩
 ·unfold pt.l5 pt.e8
  rw[aK ω,au,W7 N hI.2 ω ω,aw]
  show _=some (cO (ws++[]).sum)
  rw[cN]
def s4(l:aC)(inst:Int):Int:=if dq l then(dS inst l).sum else 0
theorem aax{l:aC}(hq:gF l)(hl:l.length≤100000)(hN:2000000≤N)(inst:Int):pt N l inst=some (cO (s4 l inst)):=by
 unfold pt pt.b s4
 rw[Gv N hl ω,aw,cond_not,Uh N hq hl hN]
 cases dq l<;>rfl
theorem QL{l:aC}(hq:gF l)(hl:l.length≤100000)(hN:4000000≤N)(inst:Int):pv.l5 N N l inst (c5 0) (c5 0) 0=some (c5 (dS inst l).sum):=by
 have:=vr l bW (λn i ws=>pv.l5 N n l inst (c5 0) (c5 ws.sum) i) (λt ws=>some (c5 (ws++dS inst t).sum)) (λi (ws:List Int)=>ws.length≤i∧ ∀x∈ws,aG x)
  (λn i ws hi hI hr=> ?_) (λn ws hI=> ?_) l.length N 0 [] ω ω ω ⟨aI _,λx hx=>nomatch hx⟩
 ·simpa using this
 ·unfold pv.l5 pv.e8
  have sE:=Gz hq i
  have pY:=sE
  unfold aG gJ at pY
  have hb:=NS hI.2
  rw[aP ω,aj,aY ω ω,aj,aj,aF,dp N ω pY.1 pY.2,aw,jR N ω ((A0 (n:=ws.length) ω hb.1 hb.2).mono ω) ((Fit.i64 pY.1 pY.2).mono ω),aw,ay ω ω,ag,aR,ef]
  split
  ·have:=hr (ws++[gJ (l.getD i bW)]) ⟨by rw[aX,aJ];omega,λx hx=>by
    rcases bf.1 hx with hx|hx
    ·exact hI.2 x hx
    ·rw[cg.1 hx];exact sE⟩
   rw[lI,cD,iM,jy]at this
   refine this.trans ?_
   rw[bU];rfl
  ·exact hr ws ⟨ω,hI.2⟩
 ·unfold pv.l5 pv.e8
  rw[aK ω,au]
  show _=some (c5 (ws++[]).sum)
  rw[cN]
theorem NU{l:aC}(hq:gF l)(hl:l.length≤100000)(hN:4000000≤N)(inst:Int):pv N l inst=some (c5 (s4 l inst)):=by
 unfold pv pv.b s4
 rw[mR N hl ω,aw,cond_not]
 have:=QL N hq hl hN inst
 rw[kX]at this
 rw[this]
 cases dq l
 ·rw[au];exact gz some kX.symm
 ·rfl
def tz(l:aC)(i:Nat):Prop:=du (s4 l (i:Int)) 0
instance(l:aC):DecidablePred (tz l):=λi=>by unfold tz;infer_instance
def rT:Nat:=6
def ov(l:aC):Bool:=decide (∀j,j<rT→tz l j)&&dq l
theorem nE{x:Int}:wk x=0↔x=0:=by unfold wk;split<;>(try split)<;>omega
theorem aay{l:aC}(hq:gF l)(hl:l.length≤100000)(hN:2000000≤N):Eg N l=some (ov l):=by
 unfold Eg Eg.b
 refine iA (len:=rT) (F:=λn i=>Eg.l2 N n l i) (tz l) (λn i r hi hp hr=> ?_) (λn=> ?_) N (by unfold rT;omega)
 ·unfold Eg.l2 Eg.gm
  unfold rT at hi
  rw[aP ω,aj,aax N hq hl hN,aw,Gy,aw,cond_not,aR,ay ω ω,ag,hr]
  by_cases hP:tz l i
  ·rw[ak hP,ak (nE.2 hP)]
  ·rw[ah hP,ah (λh=>hP (nE.1 h))]
 ·unfold Eg.l2 Eg.gm
  rw[aK (by unfold rT;omega),au,Gv N hl ω,aw]
theorem W9{l:aC}(hq:gF l)(hl:l.length≤100000)(hN:4000000≤N):Eh N l=some (ov l):=by
 unfold Eh Eh.b
 refine iA (len:=rT) (F:=λn i=>Eh.l2 N n l i) (tz l) (λn i r hi hp hr=> ?_) (λn=> ?_) N (by unfold rT;omega)
 ·unfold Eh.l2 Eh.gm
  unfold rT at hi
  rw[aP ω,aj,NU N hq hl hN,aw,qx,aw,cond_not,aR,ay ω ω,ag,hr]
  by_cases hP:tz l i
  ·rw[ak hP,ak (nE.2 hP)]
  ·rw[ah hP,ah (λh=>hP (nE.1 h))]
 ·unfold Eh.l2 Eh.gm
  rw[aK (by unfold rT;omega),au,mR N hl ω,aw]
def jT(m:aB)(a:aO)(l:aC)(i:Nat):Prop:=
 (du (l.getD i bW).1 5→(fX a (l.getD i bW).2.1).2=true)∧(du (l.getD i bW).1 6∨du (l.getD i bW).1 7→ ¬du (iX m (l.getD i bW).2.1) 0)
instance(m:aB)(a:aO)(l:aC):DecidablePred (jT m a l):=λi=>by unfold jT;infer_instance
theorem QM(b:aq)(hl:b.2.1.length≤100000)(hN:200000≤N)(id:Int):F88 N b id=some (fX b.2.1 id).2:=by
 unfold F88
 rw[aav N hl hN,aw]
theorem Ui{k:Int}{f:Bool}{z:Int}{r:Option Bool}:cond (aM k 5) (cond (!f) (some false) r) (cond (aM k 6) (cond (aM z 0) (some false) r) (cond (aM k 7) (cond (aM z 0) (some false) r) r))=
  if(du k 5→f=true)∧(du k 6∨du k 7→ ¬du z 0)then r else some false:=by
 unfold du
 rw[aR,aR,aR,aR,cond_not]
 by_cases h5:k=5
 ·have h6: ¬(k=6):=ω
  have h7: ¬(k=7):=ω
  cases f<;>simp[h5,h6,h7]
 ·by_cases h6:k=6
  ·by_cases hz:z=0<;>simp[h5,h6,hz]
  ·by_cases h7:k=7
   ·by_cases hz:z=0<;>simp[h5,h6,h7,hz]
   ·simp[h5,h6,h7]
theorem IH(hN:200000≤N)(c:ae)(b:aq)(hm:b.1.length≤100000)(ha:b.2.1.length≤100000)(hl:b.2.2.1.length≤100000){e:Bool}
  (he:mv.LZ N N c b b.2.2.2.1 (b.2.2.2.1.length:Int) 0=some e):mv.l4 N N c b b.2.2.1 (b.2.2.1.length:Int) 0=some (decide (∀j,j<b.2.2.1.length→jT b.1 b.2.1 b.2.2.1 j)&&e):=by
 refine iA (F:=λn i=>mv.l4 N n c b b.2.2.1 (b.2.2.1.length:Int) i) (jT b.1 b.2.1 b.2.2.1) (λn i r hi hp hr=> ?_) (λn=> ?_) N ω
 ·unfold mv.l4 mv.ew
  rw[aP ω,aj,aY ω ω,aj,aF,ay (x:=(i:Int)+1) ω ω,ag,hr]
  simp only[QM N b ha hN,Jw N hm hN,aw]
  rw[Ui]
  rfl
 ·unfold mv.l4 mv.ew
  rw[aK ω,au];exact he
def n0(a b:Int):Prop:=a<b
instance(a b:Int):Decidable (n0 a b):=by unfold n0;infer_instance
def jm(c:ae)(a:aO)(l:aC)(i:Nat):Prop:=
 (du (l.getD i bW).1 0∨(fX a (l.getD i bW).1).2=true)∧n0 (l.getD i bW).2.1 c.1.length
instance(c:ae)(a:aO)(l:aC):DecidablePred (jm c a l):=λi=>by unfold jm;infer_instance
theorem Xa{k x n:Int}{f:Bool}{r:Option Bool}:cond (!aM k 0) (cond (!f) (some false) (cond (cY n x) (some false) r)) (cond (cY n x) (some false) r)=if(du k 0∨f=true)∧n0 x n then r else some false:=by
 unfold du n0
 rw[cond_not,aR,cK,cond_not]
 by_cases h0:k=0
 ·by_cases hx:n≤x
  ·have: ¬x<n:=ω
   simp[h0,hx,this]
  ·have:x<n:=ω
   simp[h0,hx,this]
 ·by_cases hx:n≤x
  ·have: ¬x<n:=ω
   cases f<;>simp[h0,hx,this]
  ·have:x<n:=ω
   cases f<;>simp[h0,hx,this]
theorem KV(hN:200000≤N)(c:ae)(b:aq)(ha:b.2.1.length≤100000)(hl:b.2.2.2.1.length≤100000){e:Bool}
  (he:mv.xq N N c b b.2.2.2.2.2.1 (b.2.2.2.2.2.1.length:Int) 0=some e):mv.LZ N N c b b.2.2.2.1 (b.2.2.2.1.length:Int) 0=some (decide (∀j,j<b.2.2.2.1.length→jm c b.2.1 b.2.2.2.1 j)&&e):=by
 refine iA (F:=λn i=>mv.LZ N n c b b.2.2.2.1 (b.2.2.2.1.length:Int) i) (jm c b.2.1 b.2.2.2.1) (λn i r hi hp hr=> ?_) (λn=> ?_) N ω
 ·unfold mv.LZ mv.KW
  rw[aP ω,aj,aY ω ω,aj,aF,ay (x:=(i:Int)+1) ω ω,ag,hr]
  simp only[QM N b ha hN,aw]
  rw[Xa]
  rfl
 ·unfold mv.LZ mv.KW
  rw[aK ω,au];exact he
def qy(l:List Int)(i:Nat):Prop:=1≤l.getD i 0∧l.getD i 0≤1000000000000
instance(l:List Int):DecidablePred (qy l):=λi=>by unfold qy;infer_instance
def eY(l:List Int):Bool:=decide (∀j,j<l.length→qy l j)
theorem ahQ(p:Int):F91 N p=some (!decide (1≤p∧p≤1000000000000)):=by
 unfold F91
 rw[Jv,aw]
theorem GA(N:Nat){l:List Int}(hl:l.length≤100000): ∀(m n i:Nat),l.length-i≤m→m<n→i≤l.length→(∀j,j<i→qy l j)→
  ∃r,sF.l2 N n l () (l.length:Int) (i:Int)=some r∧(cY 0 r= !eY l)
 |m,0,i,_,hn,_,_=>ω
 |m,n+1,i,hm,hn,hi,hp=>by
  unfold sF.l2 sF.gm
  by_cases h:i<l.length
  ·rw[aP ω,aj,aY ω ω,aj,aF,ahQ,aw,cond_not,gD]
   by_cases hP:qy l i
   ·have hP':=hP
    unfold qy at hP'
    rw[ak hP',ay ω ω]
    exact GA N hl (m-1) n (i+1) ω ω ω (λj hj=>by
     by_cases zf:j=i
     ·subst zf;exact hP
     ·exact hp j ω)
   ·have hP':=hP
    unfold qy at hP'
    rw[ah hP']
    refine⟨_,rfl,?_⟩
    rw[dC ω]
    unfold eY
    rw[bK (λh'=>hP (h' i h))];rfl
  ·rw[aK ω,au]
   refine⟨_,rfl,?_⟩
   rw[dn ω]
   unfold eY
   rw[bq (λj hj=>hp j ω)];rfl
theorem Uj{l:List Int}(hl:l.length≤100000)(hN:200000≤N):F90 N l ()=some (!eY l):=by
 unfold F90 sF sF.b
 obtain⟨r,e,h⟩:=GA N hl l.length N 0 ω ω ω (λj hj=>absurd hj ω)
 rw[show((0:Nat):Int)=0 from rfl]at e
 rw[e,aw,h]
def qz(c:ae)(a:aO)(l:bC)(i:Nat):Prop:=
 (fX a (l.getD i fu).2.1).2=true∧n0 (l.getD i fu).2.2.1 c.1.length
instance(c:ae)(a:aO)(l:bC):DecidablePred (qz c a l):=λi=>by unfold qz;infer_instance
theorem GB{x n:Int}{f:Bool}{r:Option Bool}:cond (!f) (some false) (cond (cY n x) (some false) r)=if f=true∧n0 x n then r else some false:=by
 unfold n0
 rw[cK,cond_not]
 by_cases hx:n≤x
 ·have: ¬x<n:=ω
  cases f<;>simp[hx,this]
 ·have:x<n:=ω
  cases f<;>simp[hx,this]
theorem KX(hN:200000≤N)(c:ae)(b:aq)(ha:b.2.1.length≤100000)(hl:b.2.2.2.2.2.1.length≤100000)(hp:b.2.2.2.2.1.length≤100000):
  mv.xq N N c b b.2.2.2.2.2.1 (b.2.2.2.2.2.1.length:Int) 0=some (decide (∀j,j<b.2.2.2.2.2.1.length→qz c b.2.1 b.2.2.2.2.2.1 j)&&eY b.2.2.2.2.1):=by
 refine iA (F:=λn i=>mv.xq N n c b b.2.2.2.2.2.1 (b.2.2.2.2.2.1.length:Int) i) (qz c b.2.1 b.2.2.2.2.2.1) (λn i r hi H4 hr=> ?_) (λn=> ?_) N ω
 ·unfold mv.xq mv.wm
  rw[aP ω,aj,aY ω ω,aj,aF,ay (x:=(i:Int)+1) ω ω,ag,hr]
  simp only[QM N b ha hN,aw]
  rw[GB]
  rfl
 ·unfold mv.xq mv.wm
  rw[aK ω,au,Uj N hp hN,aw,Bool.not_not]
def dT(c:ae)(b:aq):Bool:=
 eO c&&(rS b.1 b.2.1&&(fx b.2.2.1&&(decide (du (gK b.2.2.1) 0)&&(ov b.2.2.2.1&&(dV b.2.2.2.2.2.1&&(decide (du b.2.2.2.2.1.length c.1.length)&&
  (decide (∀j,j<b.2.2.1.length→jT b.1 b.2.1 b.2.2.1 j)&&(decide (∀j,j<b.2.2.2.1.length→jm c b.2.1 b.2.2.2.1 j)&&(decide (∀j,j<b.2.2.2.2.2.1.length→qz c b.2.1 b.2.2.2.2.2.1 j)&&eY b.2.2.2.2.1)))))))))
structure ow(b:aq):Prop where
 m:b.1.length≤100000
 a:b.2.1.length≤100000
 r:b.2.2.1.length≤100000
 s:b.2.2.2.1.length≤100000
 p:b.2.2.2.2.1.length≤100000
 o:b.2.2.2.2.2.1.length≤100000
 qr:gF b.2.2.1
 qs:gF b.2.2.2.1
theorem px{x:Bool}{r:Option Bool}{y:Bool}(h:r=some y):cond (!x) (some false) r=some (x&&y):=by subst h;cases x<;>rfl
theorem aaz(hN:4000000≤N){c:ae}{b:aq}(w:ow b):mv N c b=some (dT c b):=by
 unfold mv mv.b dT
 rw[KT N ω,aw]
 refine px ?_
 rw[aaw N w.m w.a ω,aw]
 refine px ?_
 rw[Sm N w.r ω,aw]
 refine px ?_
 rw[W8 N w.qr w.r ω,aw,Gy,aw]
 have e0:aM (wk (gK b.2.2.1)) 0=decide (du (gK b.2.2.1) 0):=by rw[jj,oY];exact nE
 rw[e0]
 refine px ?_
 rw[aay N w.qs w.s ω,aw]
 refine px ?_
 rw[Ub N w.o ω,aw]
 refine px ?_
 rw[jj]
 refine px ?_
 exact IH N ω c b w.m w.a w.r (KV N ω c b w.a w.s (KX N ω c b w.a w.o w.p))
theorem uv(b:aq)(hl:b.2.1.length≤100000)(hN:200000≤N)(id:Int):F78 N b id=some ((fX b.2.1 id).2||decide (du id 0)):=by
 unfold F78
 rw[A8 N hl hN,aw,jj]
 cases(fX b.2.1 id).2<;>rfl
theorem QN{k:Int}{f:Bool}{z:Int}{r:Option Bool}:cond (aM k 5) (cond (!f) (some false) (cond (aM k 6) (cond (aM z 0) (some false) r) (cond (aM k 7) (cond (aM z 0) (some false) r) r))) (cond (aM k 6) (cond (aM z 0) (some false) r) (cond (aM k 7) (cond (aM z 0) (some false) r) r))=
  if(du k 5→f=true)∧(du k 6∨du k 7→ ¬du z 0)then r else some false:=by
 unfold du
 rw[aR,aR,aR,aR,cond_not]
 by_cases h5:k=5
 ·have h6: ¬(k=6):=ω
  have h7: ¬(k=7):=ω
  cases f<;>simp[h5,h6,h7]
 ·by_cases h6:k=6
  ·by_cases hz:z=0<;>simp[h5,h6,hz]
  ·by_cases h7:k=7
   ·by_cases hz:z=0<;>simp[h5,h6,h7,hz]
   ·simp[h5,h6,h7]
theorem II(hN:200000≤N)(c:ae)(b:aq)(ha:b.2.1.length≤100000)(hl:b.2.2.2.2.2.1.length≤100000)(ho:dV b.2.2.2.2.2.1=true):
  fY.xq N N c b 0=some (decide (∀j,j<b.2.2.2.2.2.1.length→qz c b.2.1 b.2.2.2.2.2.1 j)&&true):=by
 refine iA (F:=λn i=>fY.xq N n c b i) (qz c b.2.1 b.2.2.2.2.2.1) (λn i r hi H4 hr=> ?_) (λn=> ?_) N ω
 ·unfold fY.xq fY.wm
  unfold dV at ho
  rw[bQ,ff]at ho
  have h1:=(ho.1 i hi).1
  unfold rP zn at h1
  have h2:decide (du (b.2.2.2.2.2.1.getD i fu).2.1 0)=false:=bK (by unfold du;omega)
  rw[aP ω,aj,aY ω ω,aj,aF,ay (x:=(i:Int)+1) ω ω,ag,hr]
  simp only[uv N b ha hN,aw,aj]
  rw[h2,tS,GB]
  rfl
 ·unfold fY.xq fY.wm
  rw[aK ω,au]
theorem Ei(hN:200000≤N)(c:ae)(b:aq)(hl:b.2.2.2.2.1.length≤100000){e:Bool}(he:fY.xq N N c b 0=some e):
  fY.Nx N N c b 0=some (eY b.2.2.2.2.1&&e):=by
 refine iA (F:=λn i=>fY.Nx N n c b i) (qy b.2.2.2.2.1) (λn i r hi H4 hr=> ?_) (λn=> ?_) N ω
 ·unfold fY.Nx fY.Ny
  rw[aP ω,aj,aY ω ω,aj,aF,ay (x:=(i:Int)+1) ω ω,ag,hr,iW,aw,cond_not,gD]
  rfl
 ·unfold fY.Nx fY.Ny
  rw[aK ω,au];exact he
theorem IJ(hN:200000≤N)(c:ae)(b:aq)(ha:b.2.1.length≤100000)(hl:b.2.2.2.1.length≤100000){e:Bool}(he:fY.Nx N N c b 0=some e):
  fY.qA N N c b 0=some (decide (∀j,j<b.2.2.2.1.length→jm c b.2.1 b.2.2.2.1 j)&&e):=by
 refine iA (F:=λn i=>fY.qA N n c b i) (jm c b.2.1 b.2.2.2.1) (λn i r hi H4 hr=> ?_) (λn=> ?_) N ω
 ·unfold fY.qA fY.pZ
  rw[aP ω,aj,aY ω ω,aj,aF,ay (x:=(i:Int)+1) ω ω,ag,hr]
  simp only[uv N b ha hN,aw,aj]
  rw[GB]
  have Xb:((((fX b.2.1 (b.2.2.2.1.getD i bW).1).2||decide (du (b.2.2.2.1.getD i bW).1 0))=true)∧n0 (b.2.2.2.1.getD i bW).2.1 c.1.length)↔jm c b.2.1 b.2.2.2.1 i:=by
   unfold jm
   rw[ni,ff]
   exact⟨λh=>⟨h.1.symm,h.2⟩,λh=>⟨h.1.symm,h.2⟩⟩
  by_cases hP:jm c b.2.1 b.2.2.2.1 i
  ·rw[ak hP,ak (Xb.2 hP)]
  ·rw[ah hP,ah (λh=>hP (Xb.1 h))]
 ·unfold fY.qA fY.pZ
  rw[aK ω,au];exact he
theorem GC(hN:200000≤N)(c:ae)(b:aq)(hm:b.1.length≤100000)(ha:b.2.1.length≤100000)(hl:b.2.2.1.length≤100000)(hk:fx b.2.2.1=true){e:Bool}
  (he:fY.qA N N c b 0=some e):fY.l6 N N c b 0=some (decide (∀j,j<b.2.2.1.length→jT b.1 b.2.1 b.2.2.1 j)&&e):=by
 refine iA (F:=λn i=>fY.l6 N n c b i) (jT b.1 b.2.1 b.2.2.1) (λn i r hi H4 hr=> ?_) (λn=> ?_) N ω
 ·unfold fY.l6 fY.vX
  unfold fx at hk
  rw[gk,ff]at hk
  have h1:=(hk i hi).1
  rw[aP ω,aj,aY ω ω,aj,aF,ay (x:=(i:Int)+1) ω ω,ag,hr]
  simp only[uv N b ha hN,rQ N hm hN,aw]
  rw[QN]
  have Xb:((du (b.2.2.1.getD i bW).1 5→((fX b.2.1 (b.2.2.1.getD i bW).2.1).2||decide (du (b.2.2.1.getD i bW).2.1 0))=true)∧(du (b.2.2.1.getD i bW).1 6∨du (b.2.2.1.getD i bW).1 7→ ¬du (iX b.1 (b.2.2.1.getD i bW).2.1) 0))↔jT b.1 b.2.1 b.2.2.1 i:=by
   unfold jT
   refine and_congr_left λ_=>imp_congr_right λh5=> ?_
   rw[ni,ff]
   refine⟨λh=>h.elim id λh0=> ?_,.inl⟩
   unfold df at h1;unfold du at h5 h0;omega
  by_cases hP:jT b.1 b.2.1 b.2.2.1 i
  ·rw[ak hP,ak (Xb.2 hP)]
  ·rw[ah hP,ah (λh=>hP (Xb.1 h))]
 ·unfold fY.l6 fY.vX
  rw[aK ω,au];exact he
theorem ox{x:Bool}{r:Option Bool}{y:Bool}(h:x=true→r=some y):cond (!x) (some false) r=some (x&&y):=by
 cases x
 ·rfl
 ·exact h rfl
theorem NV(hN:5000000≤N){c:ae}{b:aq}(w:ow b):fY N c b=some (dT c b):=by
 unfold fY fY.b
 rw[nB N ω,aw]
 have e0:aM (wk (gK b.2.2.1)) 0=decide (du (gK b.2.2.1) 0):=by rw[jj,oY];exact nE
 refine(ox λ_=> ?_).trans (gz some (?_:(eO c&&(rS b.1 b.2.1&&(fx b.2.2.1&&(ov b.2.2.2.1&&(dV b.2.2.2.2.2.1&&(decide (du b.2.2.2.2.1.length c.1.length)&&(decide (du (gK b.2.2.1) 0)&&
  (decide (∀j,j<b.2.2.1.length→jT b.1 b.2.1 b.2.2.1 j)&&(decide (∀j,j<b.2.2.2.1.length→jm c b.2.1 b.2.2.2.1 j)&&(eY b.2.2.2.2.1&&(decide (∀j,j<b.2.2.2.2.2.1.length→qz c b.2.1 b.2.2.2.2.2.1 j)&&true)))))))))))=dT c b))
 ·rw[xp N w.m w.a ω,aw]
  refine ox λ_=> ?_
  rw[Gu N w.r ω,aw]
  refine ox λhk=> ?_
  rw[W9 N w.qs w.s ω,aw]
  refine ox λ_=> ?_
  rw[iq N w.o ω,aw]
  refine ox λho=> ?_
  rw[jj]
  refine ox λ_=> ?_
  rw[Ug N w.qr w.r ω,aw,qx,aw,e0]
  refine ox λ_=> ?_
  exact GC N ω c b w.m w.a w.r hk (IJ N ω c b w.a w.s (Ei N ω c b w.p (II N ω c b w.a w.o ho)))
 ·unfold dT
  generalize eO c=x1,rS b.1 b.2.1=x2,fx b.2.2.1=x3,ov b.2.2.2.1=x4,dV b.2.2.2.2.2.1=x5,decide (du b.2.2.2.2.1.length c.1.length)=x6,decide (du (gK b.2.2.1) 0)=x7,decide (∀j,j<b.2.2.1.length→jT b.1 b.2.1 b.2.2.1 j)=x8,decide (∀j,j<b.2.2.2.1.length→jm c b.2.1 b.2.2.2.1 j)=x9,eY b.2.2.2.2.1=bn,decide (∀j,j<b.2.2.2.2.2.1.length→qz c b.2.1 b.2.2.2.2.2.1 j)=a8
  rw[gk]
  cases x1<;>cases x2<;>cases x3<;>cases x4<;>cases x5<;>cases x6<;>cases x7<;>try rfl
  cases x8<;>cases x9<;>cases bn<;>cases a8<;>rfl
def nF(a q n:Int)(i:Nat)(p:Int):Prop:=0≤a∧a<n∧q≠0∧mZ q∧(0<i→p<a)
instance(a q n:Int)(i:Nat)(p:Int):Decidable (nF a q n i p):=by unfold nF;infer_instance
def mS(c:ae)(l:aB)(i:Nat):Prop:=nF (l.getD i ct).1 (l.getD i ct).2.1 c.1.length i (l.getD (i-1) ct).1
instance(c:ae)(l:aB):DecidablePred (mS c l):=λi=>by unfold mS;infer_instance
def lz(c:ae)(l:aB):Bool:=decide (∀j,j<l.length→mS c l j)&&eO c
theorem Sr(hN:200000≤N)(c:ae){l:aB}(hl:l.length≤100000):Ce N c l=some (lz c l):=by
 unfold Ce Ce.b
 refine iA (F:=λn i=>Ce.l2 N n l c l (l.length:Int) i) (mS c l) (λn i r hi hp hr=> ?_) (λn=> ?_) N ω
 ·unfold Ce.l2 Ce.gm
  rw[aP ω,aj,aY ω ω,aj,aF,ay (x:=(i:Int)+1) ω ω,ag,hr,Ds,aw,cond_not,gD]
  by_cases h0:0<i
  ·have e:W .i64 ((i:Int)-1)=((i-1:Nat):Int):=by rw[ay ω ω];omega
   dsimp only
   rw[aP (x:=0) (y:=(i:Int)) ω,aj,e,aF,aY ω ω,aj]
   simp only[c4,cK,aR]
   by_cases hP:mS c l i
   ·rw[ak hP];unfold mS nF at hP
    rw[ah ω,ah ω,ah hP.2.2.1,ak hP.2.2.2.1,ah ω]
   ·rw[ah hP];unfold mS nF at hP
    have h2:=λh1 h2 h3 h4 h5=>hP ⟨h1,h2,h3,h4,h5⟩
    repeat' split
    all_goals first|rfl|(exfalso;exact h2 ω ω (by assumption) (by assumption) ω)
  ·rw[aK (x:=0) (y:=(i:Int)) ω,au]
   simp only[c4,cK,aR]
   by_cases hP:mS c l i
   ·rw[ak hP];unfold mS nF at hP
    rw[ah ω,ah ω,ah hP.2.2.1,ak hP.2.2.2.1]
   ·rw[ah hP];unfold mS nF at hP
    have h2:=λh1 h2 h3 h4 h5=>hP ⟨h1,h2,h3,h4,h5⟩
    repeat' split
    all_goals first|rfl|(exfalso;exact h2 ω ω (by assumption) (by assumption) ω)
 ·unfold Ce.l2 Ce.gm
  rw[aK ω,au,KT N ω,aw]
theorem A9(hN:200000≤N)(c:ae){l:aB}(hl:l.length≤100000):Ba N c l=some (lz c l):=by
 unfold Ba Ba.b
 rw[nB N ω,aw]
 have hsc:=iA (F:=λn i=>Ba.l4 N n l c i) (e:=true) (mS c l) (λn i r hi hp hr=> ?_) (λn=> ?_) N (show l.length<N by omega)
 ·rw[px hsc];unfold lz
  rw[gk,Bool.and_comm]
 ·unfold Ba.l4 Ba.ew
  rw[aP ω,aj,aY ω ω,aj,aF,ay (x:=(i:Int)+1) ω ω,ag,hr]
  by_cases h0:0<i
  ·have e:W .i64 ((i:Int)-1)=((i-1:Nat):Int):=by rw[ay ω ω];omega
   dsimp only
   rw[aP (x:=0) (y:=(i:Int)) ω,e,aF,aY (i:=((i-1:Nat):Int)) ω ω]
   simp only[c4,cK,aR,aj]
   by_cases hP:mS c l i
   ·rw[ak hP];unfold mS nF at hP
    rw[ah ω,ah ω,ah hP.2.2.1,ah (show ¬((l.getD i ct).2.1:Int)= -9223372036854775808 from hP.2.2.2.1),ah ω]
   ·rw[ah hP];unfold mS nF at hP
    have h2:=λh1 h2 h3 h4 h5=>hP ⟨h1,h2,h3,h4,h5⟩
    repeat' split
    all_goals first|rfl|(exfalso;exact h2 ω ω (by assumption) (by assumption) ω)
  ·rw[aK (x:=0) (y:=(i:Int)) ω]
   simp only[c4,cK,aR,aj,au]
   by_cases hP:mS c l i
   ·rw[ak hP];unfold mS nF at hP
    rw[ah ω,ah ω,ah hP.2.2.1,ah (show ¬((l.getD i ct).2.1:Int)= -9223372036854775808 from hP.2.2.2.1)]
   ·rw[ah hP];unfold mS nF at hP
    have h2:=λh1 h2 h3 h4 h5=>hP ⟨h1,h2,h3,h4,h5⟩
    repeat' split
    all_goals first|rfl|(exfalso;exact h2 ω ω (by assumption) (by assumption) ω)
 ·unfold Ba.l4 Ba.ew
  rw[aK ω,au]
def KY(a b c d:Int):Prop:=(1≤a∧a≤1099511627776)∧(1≤b∧b≤1099511627776)∧(1≤c∧c≤12)∧(-1152921504606846976≤d∧d≤1152921504606846976)
instance(a b c d:Int):Decidable (KY a b c d):=by unfold KY;infer_instance
def Jx(x:cv):Prop:=KY x.1 x.2.1 x.2.2.1 x.2.2.2.1
instance(x:cv):Decidable (Jx x):=by unfold Jx;infer_instance
theorem Ss(x:cv):Xc N x=some (decide (Jx x)):=by
 unfold Xc
 rw[oe x.2.2.2.1]
 repeat rw[gE]
 congr 1
 rw[oZ,ff]
 unfold Jx KY
 simp only[bQ,q4]
 omega
def rU(m lot:Int)(x:cv):Bool:=decide (du x.2.2.1 m)&&decide (du x.2.1 lot)
def Bb(l:aO)(i:Nat):Prop:=Jx (l.getD i aQ)∧tJ i (l.getD (i-1) aQ).1 (l.getD i aQ).1∧(l.take i).any (rU (l.getD i aQ).2.2.1 (l.getD i aQ).2.1)=false
instance(l:aO):DecidablePred (Bb l):=λi=>by unfold Bb;infer_instance
def Xd(l:aO):Bool:=decide (∀j,j<l.length→Bb l j)&&decide (l.length≤40)
def gS(a b:Int):aC→List Int
 |[]=>[]
 |x::t=>if x.1=a∧x.2.1=b then gJ x::gS a b t else gS a b t
theorem kI(a b:Int)(x:eP)(t:aC):gS a b (x::t)=if x.1=a∧x.2.1=b then gJ x::gS a b t else gS a b t:=rfl
def dK(a b:Int)(l:aC):Int:=(gS a b l).sum
theorem Uk(a b:Int):dK a b []=0:=rfl
theorem jn(a b:Int)(x:eP)(t:aC):dK a b (x::t)=(if x.1=a∧x.2.1=b then gJ x else 0)+dK a b t:=by
 unfold dK
 rw[kI]
 split
 ·rw[cD]
 ·omega
theorem kJ{a b:Int}: ∀{l:aC},(∀x∈l,¬(x.1=a∧x.2.1=b))→dK a b l=0
 |[],_=>rfl
 |x::t,h=>by
  rw[jn,ah (h x (bu ..)),kJ (λy hy=>h y (a6 _ hy))];rfl
abbrev gv:=Int×Int
def GD(x y:gv):Prop:=mQ x.1 x.2 y.1 y.2
instance(x y:gv):Decidable (GD x y):=by unfold GD;infer_instance
def keyOf(x:eP):gv:=(x.1,x.2.1)
def Ej(K:List gv):Prop:=K.Pairwise GD
theorem yb{x:gv}(h:GD x x):False:=by unfold GD mQ at h;omega
theorem Ul{x y:gv}(h:GD x y)(k:GD y x):False:=by unfold GD mQ at*;omega
theorem Jy{x y z:gv}(h:GD x y)(k:GD y z):GD x z:=by unfold GD mQ at*;omega
def jo(P:Int→Prop) [DecidablePred P](f:Int→Int→Int):List gv→Option aC
 |[]=>some []
 |k::t=>if P (f k.1 k.2)then(jo P f t).map (λo=>if f k.1 k.2=0 then o else(k.1,(k.2,(f k.1 k.2,())))::o)else none
theorem Cg(P:Int→Prop) [DecidablePred P](f:Int→Int→Int)(k:gv)(t:List gv):jo P f (k::t)=if P (f k.1 k.2)then(jo P f t).map (λo=>if f k.1 k.2=0 then o else(k.1,(k.2,(f k.1 k.2,())))::o)else none:=rfl
def rowsOf(l:aC)(K:List gv):aC:=K.map λk=>(k.1,(k.2,(dK k.1 k.2 l,())))
theorem Dv{l:aC}(h:Ej (l.map keyOf)):rowsOf l (l.map keyOf)=l:=by
 have key: ∀(m:aC),Ej (m.map keyOf)→(∀x∈m,dK x.1 x.2.1 l=gJ x)→rowsOf l (m.map keyOf)=m:=by
  intro m
  induction m with
  |nil=>intro _ _;rfl
  |cons x t ih=>
   intro hm hx
   have:=ih (gX.1 hm).2 (λy hy=>hx y (a6 _ hy))
   unfold rowsOf at*
   rw[bZ,bZ,this]
   congr 1
   show(x.1,(x.2.1,(dK x.1 x.2.1 l,())))=x
   rw[hx x (bu ..)];rfl
 refine key l h ?_
 clear key
 induction l with
 |nil=>intro x hx;nomatch hx
 |cons y t ih=>
  intro x hx
  obtain⟨h1,h2⟩:=gX.1 h
  have ij: ∀z∈t,¬(z.1=y.1∧z.2.1=y.2.1):=λz hz e=>by
   have hk:=h1 (keyOf z) (gi hz)
   have he:keyOf z=keyOf y:=ki e.1 e.2
   rw[he]at hk
   exact yb hk
  rw[jn]
  rcases bm.1 hx with rfl|hx
  ·rw[ak ⟨rfl,rfl⟩,kJ ij];omega
  ·rw[ah (λe=>ij x hx ⟨e.1.symm,e.2.symm⟩),ih h2 x hx];omega
instance(x:Int):Decidable (aG x):=by unfold aG;infer_instance
def Fq(x:Int):Prop:=aG x∧mZ x
instance:DecidablePred Fq:=λx=>by unfold Fq;infer_instance
def fS(l E:aC)(a b:Int):Int:=dK a b l+dK a b E
theorem Xe{v:Int}(h:c7 v):F49 N (cO v)=some (ya v):=KS N h.1 h.2
theorem Bc{v:Int}(h:aG v):ya v=(v,true):=by unfold ya;exact ak h
theorem ES{v:Int}(h: ¬aG v):ya v=(0,false):=by unfold ya;exact ah h
theorem Um{ws:List Int}{x:Int}(h: ∀y∈ws,aG y)(hx:aG x): ∀y∈ws++[x],aG y:=λy hy=>by
 rcases bf.1 hy with hy|hy
 ·exact h y hy
 ·rw[cg.1 hy];exact hx
def aaB(l:aC)(k:gv):eP:=(k.1,(k.2,(dK k.1 k.2 l,())))
theorem Dw{l:aC}{k:gv}(h:k∉l.map keyOf):dK k.1 k.2 l=0:=kJ λx hx e=>h (by
 have:keyOf x=k:=ki e.1 e.2
 rw[←this];exact gi hx)
theorem fK{l:aC}(h:dq l=true):Ej (l.map keyOf)∧(∀x∈l,cE x.1 x.2.1∧mZ (gJ x)):=by
 unfold dq at h
 rw[gk]at h
 have h':=bl h
 have get: ∀(i:Nat) (hi:i<l.length),l.getD i bW=l[i]:=λi hi=>by rw[aZ,bo hi];rfl
 have Xf: ∀i,i+1<l.length→GD (keyOf (l.getD i bW)) (keyOf (l.getD (i+1) bW)):=λi hi=>(h' (i+1) hi).2.2.2 ω
 have dU: ∀j,j<l.length→ ∀i,i<j→GD (keyOf (l.getD i bW)) (keyOf (l.getD j bW)):=by
  intro j
  induction j with
  |zero=>intro _ i hi;omega
  |succ j ih=>
   intro hj i hi
   by_cases e:i=j
   ·rw[e];exact Xf j hj
   ·exact Jy (ih ω i ω) (Xf j hj)
 refine⟨?_,λx hx=> ?_⟩
 ·refine wH.2 (qk.2 λi j hi hj mj=> ?_)
  have:=dU j hj i mj
  rw[get i hi,get j hj]at this
  exact this
 ·obtain⟨i,hi,e⟩:=fC hx
  have:=h' i hi
  unfold lR mF at this
  rw[get i hi,e]at this
  exact⟨this.1,this.2.2.1⟩
def Bd(a b:Nat):Nat→List gv
 |0=>[]
 |m+1=>((a:Int),(b:Int))::Bd a (b+1) m
def yV(w a:Nat):Nat→List gv
 |0=>[]
 |m+1=>Bd a 0 w++yV w (a+1) m
theorem Be{k:gv}{a:Nat}: ∀{m b:Nat},k∈Bd a b m↔k.1=a∧(b:Int)≤k.2∧k.2<(b+m:Nat)
 |0,b=>⟨λh=>(nomatch h),λh=>ω⟩
 |m+1,b=>by
  show k∈((a:Int),(b:Int))::Bd a (b+1) m↔_
  rw[bm,Be]
  have:k=((a:Int),(b:Int))↔k.1=a∧k.2=b:=⟨λh=>h▸⟨rfl,rfl⟩,λh=>ki h.1 h.2⟩
  rw[this]
  omega
theorem uw{k:gv}{w:Nat}: ∀{m a:Nat},k∈yV w a m↔(a:Int)≤k.1∧k.1<(a+m:Nat)∧0≤k.2∧k.2<w
 |0,a=>⟨λh=>(nomatch h),λh=>ω⟩
 |m+1,a=>by
  show k∈Bd a 0 w++yV w (a+1) m↔_
  rw[bf,Be,uw]
  omega
theorem NW(a:Nat): ∀(m b:Nat),Ej (Bd a b m)
 |0,b=>List.Pairwise.nil
 |m+1,b=>gX.2 ⟨λk hk=>by
  have:=Be.1 hk
  show(a:Int)<k.1∨((a:Int)=k.1∧(b:Int)<k.2)
  omega,NW a m (b+1)⟩
theorem ux(w:Nat): ∀(m a:Nat),Ej (yV w a m)
 |0,a=>List.Pairwise.nil
 |m+1,a=>wE.2 ⟨NW a w 0,ux w m (a+1),λx hx y hy=>by
  have h1:=Be.1 hx
  have h2:=uw.1 hy
  show x.1<y.1∨(x.1=y.1∧x.2<y.2)
  omega⟩
structure Mark(l:aC)(a b p:Nat):Prop where
 le:p≤l.length
 lo: ∀x∈l.take p,GD (keyOf x) ((a:Int),(b:Int))
 hi: ∀x∈l.drop p,¬GD (keyOf x) ((a:Int),(b:Int))
theorem uy{k:gv}{a b:Nat}:GD k ((a:Int),((b+1:Nat):Int))↔GD k ((a:Int),(b:Int))∨k=((a:Int),(b:Int)):=by
 have:k=((a:Int),(b:Int))↔k.1=a∧k.2=b:=⟨λh=>h▸⟨rfl,rfl⟩,λh=>ki h.1 h.2⟩
 rw[this]
 show(k.1<(a:Int)∨(k.1=(a:Int)∧k.2<((b+1:Nat):Int)))↔(k.1<(a:Int)∨(k.1=(a:Int)∧k.2<(b:Int)))∨_
 omega
theorem Mark.row{l:aC}{a w p:Nat}(h:Mark l a w p)(hw: ∀x∈l,0≤(keyOf x).2∧(keyOf x).2<w):Mark l (a+1) 0 p:=by
 have key: ∀x∈l,(GD (keyOf x) ((a:Int),(w:Int))↔GD (keyOf x) (((a+1:Nat):Int),((0:Nat):Int))):=λx hx=>by
  have:=hw x hx
  show((keyOf x).1<(a:Int)∨((keyOf x).1=(a:Int)∧(keyOf x).2<(w:Int)))↔((keyOf x).1<((a+1:Nat):Int)∨((keyOf x).1=((a+1:Nat):Int)∧(keyOf x).2<((0:Nat):Int)))
  omega
 exact⟨h.le,λx hx=>(key x (iH hx)).1 (h.lo x hx),λx hx k=>h.hi x hx ((key x (lZ hx)).2 k)⟩
theorem KZ(a b:Int)(l m:aC):dK a b (l++m)=dK a b l+dK a b m:=by
 induction l with
 |nil=>rw[cM,Uk];omega
 |cons x t ih=>rw[mh,jn,jn,ih];omega
theorem Mark.step{l:aC}(hs:Ej (l.map keyOf)){a b p:Nat}(h:Mark l a b p):
  (p<l.length∧(l.getD p bW).1=(a:Int)∧(l.getD p bW).2.1=(b:Int)∧dK (a:Int) (b:Int) l=gJ (l.getD p bW)∧Mark l a (b+1) (p+1))∨
  ((p<l.length→(l.getD p bW).1=(a:Int)→(l.getD p bW).2.1=(b:Int)→False)∧dK (a:Int) (b:Int) l=0∧Mark l a (b+1) p):=by
 have no: ∀{x:eP} {k:gv},¬keyOf x=k→ ¬(x.1=k.1∧x.2.1=k.2):=λh e=>h (ki e.1 e.2)
 have hz:dK (a:Int) (b:Int) (l.take p)=0:=kJ λx hx e=>by
  have e':keyOf x=((a:Int),(b:Int)):=ki e.1 e.2
  have:=h.lo x hx
  rw[e']at this
  exact yb this
 have IK:dK (a:Int) (b:Int) l=dK (a:Int) (b:Int) (l.drop p):=by
  conv=>lhs;rw[←iG p l]
  rw[KZ,hz];omega
 by_cases hp:p<l.length
 ·have hd:=drop_cons hp bW
  have hsd:Ej ((l.drop p).map keyOf):=by
   rw[List.map_drop];exact Fg (List.drop_sublist ..) hs
  have Ja:=h.hi
  rw[hd]at hsd Ja IK
  have hgt:=(gX.1 hsd).1
  have M4:=Ja _ (bu ..)
  have ann:l.take (p+1)=l.take p++[l.getD p bW]:=by
   rw[←wA hp,aZ,bo hp];rfl
  by_cases he:keyOf (l.getD p bW)=((a:Int),(b:Int))
  ·refine Or.inl ⟨hp,gz Prod.fst he,gz Prod.snd he,?_,ω,λx hx=> ?_,λx hx hk=> ?_⟩
   ·rw[IK,jn,ak ⟨gz Prod.fst he,gz Prod.snd he⟩,kJ λx hx e=> ?_]
    ·omega
    ·have hg:=hgt (keyOf x) (gi hx)
     have e':keyOf x=((a:Int),(b:Int)):=ki e.1 e.2
     rw[he,e']at hg
     exact yb hg
   ·rw[ann]at hx
    rcases bf.1 hx with hx|hx
    ·exact uy.2 (Or.inl (h.lo x hx))
    ·rw[cg.1 hx];exact uy.2 (Or.inr he)
   ·have hg:=hgt (keyOf x) (gi hx)
    rw[he]at hg
    rcases uy.1 hk with hk|hk
    ·exact Ul hg hk
    ·rw[hk]at hg;exact yb hg
  ·have iT: ∀x∈l.getD p bW::l.drop (p+1),keyOf x≠((a:Int),(b:Int)):=λx hx e=>by
    rcases bm.1 hx with rfl|hx
    ·exact he e
    ·have hg:=hgt (keyOf x) (gi hx)
     rw[e]at hg
     exact M4 hg
   refine Or.inr ⟨λ_ e1 e2=>he (ki e1 e2),?_,h.le,λx hx=>uy.2 (Or.inl (h.lo x hx)),λx hx hk=> ?_⟩
   ·rw[IK]
    exact kJ λx hx=>no (iT x hx)
   ·rw[hd]at hx
    rcases uy.1 hk with hk|hk
    ·exact Ja x hx hk
    ·exact iT x hx hk
 ·have hd:l.drop p=[]:=wB ω
  refine Or.inr ⟨λh=>absurd h hp,by rw[IK,hd];rfl,h.le,λx hx=>uy.2 (Or.inl (h.lo x hx)),λx hx=> ?_⟩
  rw[hd]at hx;nomatch hx
def xr(out:aC)(r:Option aC):Option (aC×Bool):=some (match r with|some o=>(out++o,true)|none=>([],false))
theorem K0(v:Int):QO N (c5 v)=some (if Fq v then(v,true)else(0,false)):=by
 unfold QO
 rw[tx,aw]
 by_cases h:aG v
 ·rw[Bc h]
  dsimp only
  rw[bR,au,aR]
  by_cases h2:mZ v
  ·rw[ah (show ¬v= -9223372036854775808 from h2),ak (show Fq v from⟨h,h2⟩)]
  ·rw[ak (show v= -9223372036854775808 by unfold mZ at h2;omega),ah (λh=>h2 h.2)]
 ·rw[ES h,ah (λk=>h k.1)]
  rfl
theorem Xg(hN:4000000≤N)(C4:cw.bT)(C7:cw.fk){l E out:aC}(hq:gF E)(hl:E.length≤100000)(ho:out.length≤1000000)(p:Int)(a b:Nat)(hb:b≤1000000)(q:Int)(hF:Fq q):
  cw.yc N C4 C7 N l E out p (a:Int) (b:Int) q false (false,(([]:List Int),())) 0=
   if Fq (q+dK (a:Int) (b:Int) E)then C7 l E (if q+dK (a:Int) (b:Int) E=0 then out else out++[((a:Int),((b:Int),(q+dK (a:Int) (b:Int) E,())))]) p (a:Int) ((b+1:Nat):Int)else some ([],false):=by
 have:=vr E bW (λn j ws=>cw.yc N C4 C7 n l E out p (a:Int) (b:Int) q (!ws.isEmpty) (c5 ws.sum) j)
  (λt ws=>if Fq (q+(ws++gS (a:Int) (b:Int) t).sum)then C7 l E (if q+(ws++gS (a:Int) (b:Int) t).sum=0 then out else out++[((a:Int),((b:Int),(q+(ws++gS (a:Int) (b:Int) t).sum,())))]) p (a:Int) ((b+1:Nat):Int)else some ([],false))
  (λj (ws:List Int)=>ws.length≤j∧ ∀x∈ws,aG x)
  (λn j ws hj hI eV=> ?_) (λn ws hI=> ?_) E.length N 0 [] ω ω ω ⟨aI _,λx hx=>nomatch hx⟩
 ·rw[show((0:Nat):Int)=0 from rfl,c9,iM,kX]at this
  exact this
 ·unfold cw.yc cw.Bf
  have sE:=Gz hq j
  have pY:=sE
  unfold aG gJ at pY
  have hb:=NS hI.2
  rw[aP ω,aj,aY ω ω,aj,aj,aj,aF,dp N ω pY.1 pY.2,aw,jR N ω ((A0 (n:=ws.length) ω hb.1 hb.2).mono ω) ((Fit.i64 pY.1 pY.2).mono ω),aw,ay (x:=(j:Int)+1) ω ω,ag j,aR,aR]
  by_cases h1:(E.getD j bW).1=(a:Int)
  ·by_cases h2:(E.getD j bW).2.1=(b:Int)
   ·have hc:gS (a:Int) (b:Int) (E.getD j bW::E.drop (j+1))=gJ (E.getD j bW)::gS (a:Int) (b:Int) (E.drop (j+1)):=by rw[kI,ak ⟨h1,h2⟩]
    rw[ak h1,ak h2,hc]
    have:=eV (ws++[gJ (E.getD j bW)]) ⟨by rw[aX,aJ];omega,Um hI.2 sE⟩
    rw[lI,cD,iM,jy,bU]at this
    refine Eq.trans ?_ this
    rw[show(!(ws++[gJ (E.getD j bW)]).isEmpty)=true by cases ws<;>rfl]
    rfl
   ·have hc:gS (a:Int) (b:Int) (E.getD j bW::E.drop (j+1))=gS (a:Int) (b:Int) (E.drop (j+1)):=by rw[kI,ah (λh=>h2 h.2)]
    rw[ak h1,ah h2,hc]
    exact eV ws ⟨ω,hI.2⟩
  ·have hc:gS (a:Int) (b:Int) (E.getD j bW::E.drop (j+1))=gS (a:Int) (b:Int) (E.drop (j+1)):=by rw[kI,ah (λh=>h1 h.1)]
   rw[ah h1,hc]
   exact eV ws ⟨ω,hI.2⟩
 ·unfold cw.yc cw.Bf
  have hs:=NS hI.2
  have Sp:=hF.1
  unfold aG at Sp
  rw[aK ω,au,dp N ω Sp.1 Sp.2,aw,jR N ω ((A0 (n:=ws.length) ω hs.1 hs.2).mono ω) ((Fit.i64 Sp.1 Sp.2).mono ω),aw,K0,aw,ay (x:=(b:Int)+1) ω ω,ag b,ch (by rw[aJ];omega),aj,ch (by rw[aJ];omega),aj,cond_not]
  show _=if Fq (q+(ws++[]).sum)then C7 l E (if q+(ws++[]).sum=0 then out else out++[((a:Int),((b:Int),(q+(ws++[]).sum,())))]) p (a:Int) ((b+1:Nat):Int)else some ([],false)
  rw[cN,Int.add_comm ws.sum q]
  cases ws with
  |nil=>
   show cond (!aM q 0) _ _=_
   rw[cond_not,aR,iM,jy,ak hF]
   by_cases h:q=0
   ·rw[ak h,ak h]
   ·rw[ah h,ah h]
  |cons w ws=>
   show cond (!(if Fq (q+(w::ws).sum)then(q+(w::ws).sum,true)else(0,false)).2) _ _=_
   by_cases h2:Fq (q+(w::ws).sum)
   ·rw[ak h2,ak h2]
    dsimp only
    rw[bR,au,cond_not,aR]
    by_cases h:q+(w::ws).sum=0
    ·rw[ak h,ak h]
    ·rw[ah h,ah h]
   ·rw[ah h2,ah h2];rfl
theorem Jz{P:Int→Prop} [DecidablePred P]{f:Int→Int→Int}{k:gv}{K:List gv}{out:aC}{v:Int}(hv:f k.1 k.2=v):
  (if P v then xr (if v=0 then out else out++[(k.1,(k.2,(v,())))]) (jo P f K)else some ([],false))=xr out (jo P f (k::K)):=by
 rw[Cg,hv]
 by_cases h:P v
 ·rw[ak h,ak h]
  cases jo P f K with
  |none=>rfl
  |some o=>
   show some ((if v=0 then out else out++[(k.1,(k.2,(v,())))])++o,true)=some (out++(if v=0 then o else(k.1,(k.2,(v,())))::o),true)
   by_cases h0:v=0
   ·rw[ak h0,ak h0]
   ·rw[ah h0,ah h0,bU];rfl
 ·rw[ah h,ah h];rfl
theorem ano{l:aC}(hs:Ej (l.map keyOf))(hl: ∀x∈l,Fq (gJ x))(k:gv):Fq (dK k.1 k.2 l):=by
 by_cases hk:k∈l.map keyOf
 ·have hm:aaB l k∈rowsOf l (l.map keyOf):=gi hk
  rw[Dv hs]at hm
  exact hl (aaB l k) hm
 ·rw[Dw hk];exact⟨⟨δ,δ⟩,δ⟩
theorem JA(N:Nat)(hN:4000000≤N)(C:cw.bT){l E:aC}(hq:gF E)(hl:E.length≤100000)(hs:Ej (l.map keyOf))(Ky:l.length≤100000)(hf: ∀x∈l,Fq (gJ x))(hw: ∀x∈l,0≤(keyOf x).2∧(keyOf x).2<(6:Nat))(a:Nat)(ha:a≤24)(G:List gv)
  (hc: ∀(p:Nat) (out:aC),Mark l (a+1) 0 p→out.length≤6*(a+1)→C l E out (p:Int) ((a+1:Nat):Int)=xr out (jo Fq (fS l E) G)):
  ∀(m n b p:Nat) (out:aC),b+m=6→m<n→Mark l a b p→out.length≤6*a+b→cw.l7 N C n l E out (p:Int) (a:Int) (b:Int)=xr out (jo Fq (fS l E) (Bd a b m++G))
 |m,0,b,p,out,_,hn,_,_=>ω
 |0,n+1,b,p,out,hb,_,hM,ho=>by
  have e:b=6:=ω
  subst e
  unfold cw.l7 cw.rL
  rw[aK ω,au,ay (x:=(a:Int)+1) ω ω,ag a]
  exact hc p out (hM.row hw) ω
 |m+1,n+1,b,p,out,hb,hn,hM,ho=>by
  have hp:=hM.le
  have ahR: ∀(p:Nat) (v:Int),Mark l a (b+1) p→cw.l7 N C n l E (if v=0 then out else out++[((a:Int),((b:Int),(v,())))]) (p:Int) (a:Int) ((b+1:Nat):Int)=xr (if v=0 then out else out++[((a:Int),((b:Int),(v,())))]) (jo Fq (fS l E) (Bd a (b+1) m++G)):=λp v h=>
   JA N hN C hq hl hs Ky hf hw a ha G hc m n (b+1) p _ ω ω h (by
    split
    ·omega
    ·rw[aX,aJ];omega)
  have uQ:=ano hs hf ((a:Int),(b:Int))
  unfold cw.l7 cw.rL cw.KR cw.A5
  show _=xr out (jo Fq (fS l E) (((a:Int),(b:Int))::(Bd a (b+1) m++G)))
  rw[aP (x:=(b:Int)) ω,aj,c4,aR,aR,aF]
  have fin: ∀(p:Nat) (q:Int),q=dK (a:Int) (b:Int) l→Mark l a (b+1) p→cw.yc N C (cw.l7 N C n) N l E out (p:Int) (a:Int) (b:Int) q false (false,(([]:List Int),())) 0=xr out (jo Fq (fS l E) (((a:Int),(b:Int))::(Bd a (b+1) m++G))):=λp q e h=>by
   subst e
   rw[Xg N hN C _ hq hl ω (p:Int) a b ω _ uQ,ahR p _ h]
   exact Jz (k:=((a:Int),(b:Int))) rfl
  rcases hM.step hs with⟨h1,h2,h3,h4,h5⟩|⟨h1,h2,h3⟩
  ·rw[ak (show(p:Int)<(l.length:Int)by omega),aY ω ω,aj,aj,ak h2,ak h3,ay (x:=(p:Int)+1) ω ω,ag p,aj]
   exact fin (p+1) _ h4.symm h5
  ·by_cases g1:p<l.length
   ·rw[ak (show(p:Int)<(l.length:Int)by omega),aY ω ω,aj,aj]
    by_cases g2:(l.getD p bW).1=(a:Int)
    ·rw[ak g2,ah (λg3=>h1 g1 g2 g3)]
     exact fin p _ h2.symm h3
    ·rw[ah g2]
     exact fin p _ h2.symm h3
   ·rw[ah (show ¬(p:Int)<(l.length:Int)by omega)]
    exact fin p _ h2.symm h3
theorem JB(N:Nat)(hN:4000000≤N){l E:aC}(hq:gF E)(hl:E.length≤100000)(hs:Ej (l.map keyOf))(Ky:l.length≤100000)(hf: ∀x∈l,Fq (gJ x))(hw: ∀x∈l,0≤(keyOf x).2∧(keyOf x).2<(6:Nat)):
  ∀(m n a p:Nat) (out:aC),a+m=25→m<n→Mark l a 0 p→out.length≤6*a→cw.l4 N n l E out (p:Int) (a:Int)=xr out (jo Fq (fS l E) (yV 6 a m))
 |m,0,a,p,out,_,hn,_,_=>ω
 |0,n+1,a,p,out,ha,_,hM,ho=>by
  unfold cw.l4 cw.ew
  rw[dn ω,au]
  show some (out,true)=some (out++[],true)
  rw[cN]
 |m+1,n+1,a,p,out,ha,hn,hM,ho=>by
  unfold cw.l4 cw.ew
  rw[dC ω,aj]
  exact JA N hN _ hq hl hs Ky hf hw a ω (yV 6 (a+1) m) (λp out h ho=>JB N hN hq hl hs Ky hf hw m n (a+1) p out ω ω h ho) 6 N 0 p out ω ω hM ω
def oy:List gv:=yV 6 0 25
theorem QP(hN:4000000≤N){l E:aC}(hk:dq l=true)(hl:l.length≤90000)(hlq:gF l)(hq:gF E)(hE:E.length≤100000):cw N l E=xr [] (jo Fq (fS l E) oy):=by
 obtain⟨hs,hlp⟩:=fK hk
 unfold cw cw.b
 refine JB N hN hq hE hs ω (λx hx=>⟨hlq x hx,(hlp x hx).2⟩) (λx hx=> ?_) 25 N 0 0 [] ω ω ⟨ω,λx hx=>(nomatch hx),λx hx dU=> ?_⟩ (by simp)
 ·have h:cE (keyOf x).1 (keyOf x).2:=(hlp x hx).1
  unfold cE at h;omega
 ·have h:cE (keyOf x).1 (keyOf x).2:=(hlp x (lZ hx)).1
  unfold cE at h
  have xb:(keyOf x).1<((0:Nat):Int)∨((keyOf x).1=((0:Nat):Int)∧(keyOf x).2<((0:Nat):Int)):=dU
  omega
def QQ(E:aC):Prop:= ∀x∈E,c7 (gJ x)
theorem aaC{l:aC}(h:QQ l)(i:Nat):c7 (gJ (l.getD i bW)):=by
 by_cases hi:i<l.length
 ·rw[aZ,bo hi];exact h _ (fg hi)
 ·rw[aZ,gV ω];exact⟨δ,δ⟩
theorem GF{ws:List Int}{x:Int}(h: ∀y∈ws,c7 y)(hx:c7 x): ∀y∈ws++[x],c7 y:=λy hy=>by
 rcases bf.1 hy with hy|hy
 ·exact h y hy
 ·rw[cg.1 hy];exact hx
theorem vy{l:aC}(h:fx l=true):Ej (l.map keyOf)∧(∀x∈l,df x.1 x.2.1):=by
 unfold fx at h
 rw[gk]at h
 have h':=bl h
 have get: ∀(i:Nat) (hi:i<l.length),l.getD i bW=l[i]:=λi hi=>by rw[aZ,bo hi];rfl
 have Xf: ∀i,i+1<l.length→GD (keyOf (l.getD i bW)) (keyOf (l.getD (i+1) bW)):=λi hi=>(h' (i+1) hi).2.2 ω
 have dU: ∀j,j<l.length→ ∀i,i<j→GD (keyOf (l.getD i bW)) (keyOf (l.getD j bW)):=by
  intro j
  induction j with
  |zero=>intro _ i hi;omega
  |succ j ih=>
   intro hj i hi
   by_cases e:i=j
   ·rw[e];exact Xf j hj
   ·exact Jy (ih ω i ω) (Xf j hj)
 refine⟨?_,λx hx=> ?_⟩
 ·refine wH.2 (qk.2 λi j hi hj mj=> ?_)
  have:=dU j hj i mj
  rw[get i hi,get j hj]at this
  exact this
 ·obtain⟨i,hi,e⟩:=fC hx
  have:=h' i hi
  unfold lQ mE at this
  rw[get i hi,e]at this
  exact this.1
def jU(r:eP):ahS:=(r.1,(r.2.1,(c5 (gJ r),())))
theorem Xh{E:aC}{i:Nat}(h:i<E.length):(E.map jU).getD i ((0:Int),((0:Int),((false,pQ),())))=jU (E.getD i bW):=by
 rw[aZ,q3,bo h,aZ,bo h];rfl
theorem QR{v:Int}{n:Nat}(hn:n≤1000000)(h0: -(170141183460469231731687303715884105728*(n:Int))≤v)(h1:v≤170141183460469231731687303715884105728*(n:Int)):Fit v 900000:=by
 have h5:Fit v 5:=by
  unfold Fit
  rw[show(4294967296:Nat)^5=1461501637330902918203684832716283019655932542976 from rfl]
  omega
 exact h5.mono ω
theorem ET{v:Int}(h:c7 v):Fit v 900000:=QR (n:=1) ω (by have:=h.1;omega) (by have:=h.2;omega)
theorem Un(hN:4000000≤N){E:aC}(hq:QQ E)(hl:E.length≤100000)(q a b:Int)(hF:aG q):nG N q a b (E.map jU)=some (ya (q+dK a b E)):=by
 unfold nG nG.b
 have:=vr E bW (λn j ws=>nG.l3 N n q a b (E.map jU) (c5 ws.sum) (!ws.isEmpty) j)
  (λt ws=>some (ya (q+(ws++gS a b t).sum)))
  (λj (ws:List Int)=>ws.length≤j∧ ∀x∈ws,c7 x)
  (λn j ws hj hI eV=> ?_) (λn ws hI=> ?_) E.length N 0 [] ω ω ω ⟨aI _,λx hx=>nomatch hx⟩
 ·rw[show((0:Nat):Int)=0 from rfl,c9,iM,kX]at this
  exact this
 ·unfold nG.l3 nG.lD
  have Uo:=aaC hq j
  have hb:=QD hI.2
  have C2:AZ N (c5 ws.sum) (jU (E.getD j bW)).2.2.1=some (c5 (ws.sum+gJ (E.getD j bW))):=jR N ω (QR (n:=ws.length) ω hb.1 hb.2) (ET Uo)
  rw[aP (by rw[fE];omega),aj,aY ω (by rw[fE];omega),aj,aj,aj,aF,Xh hj,C2,aw,ay (x:=(j:Int)+1) ω ω,ag j,aR,aR]
  by_cases h1:(E.getD j bW).1=a
  ·by_cases h2:(E.getD j bW).2.1=b
   ·have hc:gS a b (E.getD j bW::E.drop (j+1))=gJ (E.getD j bW)::gS a b (E.drop (j+1)):=by rw[kI,ak ⟨h1,h2⟩]
    rw[ak (show(jU (E.getD j bW)).1=a from h1),ak (show(jU (E.getD j bW)).2.1=b from h2),hc]
    have:=eV (ws++[gJ (E.getD j bW)]) ⟨by rw[aX,aJ];omega,GF hI.2 Uo⟩
    rw[lI,cD,iM,jy,bU]at this
    refine Eq.trans ?_ this
    rw[show(!(ws++[gJ (E.getD j bW)]).isEmpty)=true by cases ws<;>rfl]
   ·have hc:gS a b (E.getD j bW::E.drop (j+1))=gS a b (E.drop (j+1)):=by rw[kI,ah (λh=>h2 h.2)]
    rw[ak (show(jU (E.getD j bW)).1=a from h1),ah (show ¬(jU (E.getD j bW)).2.1=b from h2),hc]
    exact eV ws ⟨ω,hI.2⟩
  ·have hc:gS a b (E.getD j bW::E.drop (j+1))=gS a b (E.drop (j+1)):=by rw[kI,ah (λh=>h1 h.1)]
   rw[ah (show ¬(jU (E.getD j bW)).1=a from h1),hc]
   exact eV ws ⟨ω,hI.2⟩
 ·unfold nG.l3 nG.lD
  have hs:=QD hI.2
  have Sp:=hF
  unfold aG at Sp
  rw[aK (by rw[fE];omega),au,dp N ω Sp.1 Sp.2,aw,jR N ω (QR (n:=ws.length) ω hs.1 hs.2) ((Fit.i64 Sp.1 Sp.2).mono ω),aw,tx,aw,cond_not]
  show _=some (ya (q+(ws++[]).sum))
  rw[cN,Int.add_comm ws.sum q]
  cases ws with
  |nil=>
   show some (q,true)=some (ya (q+0))
   rw[jy,Bc hF]
  |cons w ws=>rfl
theorem aaD{l:aC}(hs:Ej (l.map keyOf))(hl:gF l)(k:gv):aG (dK k.1 k.2 l):=by
 by_cases hk:k∈l.map keyOf
 ·have hm:aaB l k∈rowsOf l (l.map keyOf):=gi hk
  rw[Dv hs]at hm
  exact hl (aaB l k) hm
 ·rw[Dw hk];exact⟨δ,δ⟩
theorem NX(N:Nat)(hN:4000000≤N)(C:dk.bT){l E:aC}(hq:QQ E)(hl:E.length≤100000)(hs:Ej (l.map keyOf))(Ky:l.length≤100000)(hf:gF l)(hw: ∀x∈l,0≤(keyOf x).2∧(keyOf x).2<(25:Nat))(a:Nat)(ha:a≤24)(G:List gv)
  (hc: ∀(p:Nat) (out:aC),Mark l (a+1) 0 p→out.length≤25*(a+1)→C l (E.map jU) out (p:Int) ((a+1:Nat):Int)=xr out (jo aG (fS l E) G)):
  ∀(m n b p:Nat) (out:aC),b+m=25→m<n→Mark l a b p→out.length≤25*a+b→dk.l7 N C n l (E.map jU) out (p:Int) (a:Int) (b:Int)=xr out (jo aG (fS l E) (Bd a b m++G))
 |m,0,b,p,out,_,hn,_,_=>ω
 |0,n+1,b,p,out,hb,_,hM,ho=>by
  have e:b=25:=ω
  subst e
  unfold dk.l7 dk.rL
  rw[dn ω,au,ay (x:=(a:Int)+1) ω ω,ag a]
  exact hc p out (hM.row hw) ω
 |m+1,n+1,b,p,out,hb,hn,hM,ho=>by
  have hp:=hM.le
  have ahR: ∀(p:Nat) (v:Int),Mark l a (b+1) p→dk.l7 N C n l (E.map jU) (if v=0 then out else out++[((a:Int),((b:Int),(v,())))]) (p:Int) (a:Int) ((b+1:Nat):Int)=xr (if v=0 then out else out++[((a:Int),((b:Int),(v,())))]) (jo aG (fS l E) (Bd a (b+1) m++G)):=λp v h=>
   NX N hN C hq hl hs Ky hf hw a ha G hc m n (b+1) p _ ω ω h (by
    split
    ·omega
    ·rw[aX,aJ];omega)
  have uQ:=aaD hs hf ((a:Int),(b:Int))
  unfold dk.l7 dk.rL
  show _=xr out (jo aG (fS l E) (((a:Int),(b:Int))::(Bd a (b+1) m++G)))
  rw[dC (x:=(b:Int)) ω,aj,c4,aR,aR,aF]
  have fin: ∀(p:Nat) (q:Int),q=dK (a:Int) (b:Int) l→Mark l a (b+1) p→dk.KR N C (dk.l7 N C n) l (E.map jU) out (p:Int) (a:Int) (b:Int) q=xr out (jo aG (fS l E) (((a:Int),(b:Int))::(Bd a (b+1) m++G))):=λp q e h=>by
   subst e
   unfold dk.KR dk.A5
   rw[Un N hN hq hl _ _ _ uQ,aw]
   refine Eq.trans ?_ (Jz (k:=((a:Int),(b:Int))) (v:=dK (a:Int) (b:Int) l+dK (a:Int) (b:Int) E) rfl)
   generalize dK (a:Int) (b:Int) l+dK (a:Int) (b:Int) E=v
   have hr:=ahR p v h
   by_cases hv:aG v
   ·rw[Bc hv,ak hv]
    dsimp only
    rw[bR,au,cond_not,aR,ch (by rw[aJ];omega),aj,ay (x:=(b:Int)+1) ω ω,ag b,←hr]
    split<;>rfl
   ·rw[ES hv,ah hv];rfl
  rcases hM.step hs with⟨h1,h2,h3,h4,h5⟩|⟨h1,h2,h3⟩
  ·rw[ak (show(p:Int)<(l.length:Int)by omega),aY ω ω,aj,aj,ak h2,ak h3,ay (x:=(p:Int)+1) ω ω,ag p,aj]
   exact fin (p+1) _ h4.symm h5
  ·by_cases g1:p<l.length
   ·rw[ak (show(p:Int)<(l.length:Int)by omega),aY ω ω,aj,aj]
    by_cases g2:(l.getD p bW).1=(a:Int)
    ·rw[ak g2,ah (λg3=>h1 g1 g2 g3)]
     exact fin p _ h2.symm h3
    ·rw[ah g2]
     exact fin p _ h2.symm h3
   ·rw[ah (show ¬(p:Int)<(l.length:Int)by omega)]
    exact fin p _ h2.symm h3
theorem NY(N:Nat)(hN:4000000≤N){l E:aC}(hq:QQ E)(hl:E.length≤100000)(hs:Ej (l.map keyOf))(Ky:l.length≤100000)(hf:gF l)(hw: ∀x∈l,0≤(keyOf x).2∧(keyOf x).2<(25:Nat)):
  ∀(m n a p:Nat) (out:aC),a+m=8→m<n→Mark l a 0 p→out.length≤25*a→dk.l4 N n l (E.map jU) out (p:Int) (a:Int)=xr out (jo aG (fS l E) (yV 25 a m))
 |m,0,a,p,out,_,hn,_,_=>ω
 |0,n+1,a,p,out,ha,_,hM,ho=>by
  unfold dk.l4 dk.ew
  rw[dn ω,au]
  show some (out,true)=some (out++[],true)
  rw[cN]
 |m+1,n+1,a,p,out,ha,hn,hM,ho=>by
  unfold dk.l4 dk.ew
  rw[dC ω,aj]
  exact NX N hN _ hq hl hs Ky hf hw a ω (yV 25 (a+1) m) (λp out h ho=>NY N hN hq hl hs Ky hf hw m n (a+1) p out ω ω h ho) 25 N 0 p out ω ω hM ω
def s6:List gv:=yV 25 1 7
theorem aaE(hN:4000000≤N){l E:aC}(hk:fx l=true)(hl:l.length≤90000)(hlq:gF l)(hq:QQ E)(hE:E.length≤100000):dk N l (E.map jU)=xr [] (jo aG (fS l E) s6):=by
 obtain⟨hs,hlp⟩:=vy hk
 unfold dk dk.b
 refine NY N hN hq hE hs ω hlq (λx hx=> ?_) 7 N 1 0 [] ω ω ⟨ω,λx hx=>(nomatch hx),λx hx dU=> ?_⟩ (by simp)
 ·have h:df (keyOf x).1 (keyOf x).2:=hlp x hx
  unfold df at h;omega
 ·have h:df (keyOf x).1 (keyOf x).2:=hlp x (lZ hx)
  unfold df at h
  have xb:(keyOf x).1<((1:Nat):Int)∨((keyOf x).1=((1:Nat):Int)∧(keyOf x).2<((0:Nat):Int)):=dU
  omega
def oT(b:aq)(s e:aC):aq×Int:=
 match jo Fq (fS b.2.2.2.1 s) oy with
 |none=>((bM,(dh,(cf,(cf,(dW,(eu,())))))),2)
 |some s'=>match jo aG (fS b.2.2.1 e) s6 with
  |none=>((bM,(dh,(cf,(cf,(dW,(eu,())))))),2)
  |some r'=>((b.1,(b.2.1,(r',(s',b.2.2.2.2)))),0)
theorem Su(N:Nat)(C:eF.bT){l:aO}(hl:l.length≤100000)(i:Nat)(hi:i<l.length): ∀(m n k:Nat),i-k≤m→m<n→k≤i→(l.take k).any (rU (l.getD i aQ).2.2.1 (l.getD i aQ).2.1)=false→
  eF.l9 N C n l (i:Int) (k:Int)=cond ((l.take i).any (rU (l.getD i aQ).2.2.1 (l.getD i aQ).2.1)) (some false) (C l ((i+1:Nat):Int))
 |m,0,k,_,hn,_,_=>ω
 |m,n+1,k,hm,hn,hk,hb=>by
  unfold eF.l9 eF.zA
  by_cases h:k<i
  ·have zk:=Su N C hl i hi (m-1) n (k+1) ω ω ω
   have ht:(l.take (k+1)).any (rU (l.getD i aQ).2.2.1 (l.getD i aQ).2.1)=rU (l.getD i aQ).2.2.1 (l.getD i aQ).2.1 (l.getD k aQ):=by
    have ek:l.getD k aQ=l[k]' ω:=by rw[aZ,bo (show k<l.length by omega)];rfl
    rw[←wA (show k<l.length by omega),List.any_append,hb,ek,List.any_cons,List.any_nil,tS,tR]
   have mi:rU (l.getD i aQ).2.2.1 (l.getD i aQ).2.1 (l.getD k aQ)=true→(l.take i).any (rU (l.getD i aQ).2.2.1 (l.getD i aQ).2.1)=true:=λhh=>by
    refine zZ.2 ⟨l.getD k aQ,?_,hh⟩
    rw[aZ,bo (show k<l.length by omega)]
    exact List.mem_take_iff_getElem.2 ⟨k,ω,rfl⟩
   rw[aP ω,aj,aY ω ω,aj,aY ω ω,aj,aj,aj,aF,aF,aR,aR,ay (x:=(k:Int)+1) ω ω,ag k]
   by_cases h1:(l.getD k aQ).2.2.1=(l.getD i aQ).2.2.1
   ·by_cases h2:(l.getD k aQ).2.1=(l.getD i aQ).2.1
    ·rw[ak h1,ak h2,mi (by unfold rU du;rw[bq h1,bq h2];rfl)];rfl
    ·rw[ak h1,ah h2]
     exact zk (by rw[ht];unfold rU du;rw[bK h2,FA])
   ·rw[ah h1]
    exact zk (by rw[ht];unfold rU du;rw[bK h1,tP])
  ·have:k=i:=ω
   subst this
   rw[aK ω,au,hb,au,ay (x:=(k:Int)+1) ω ω,ag k]
theorem uz{l:aO}(hl:l.length≤100000)(hN:200000≤N):eF N l=some (Xd l):=by
 unfold eF eF.b Xd
 by_cases h40:l.length≤40
 ·rw[aK ω,au,bq h40]
  refine iA (F:=λn i=>eF.l4 N n l i) (Bb l) (λn i r hi hp hr=> ?_) (λn=> ?_) N ω
  ·unfold eF.l4 eF.ew eF.j8 eF.JC
   have mi:eF.l9 N (eF.l4 N n) N l (i:Int) 0=_:=Su N (eF.l4 N n) hl i hi i N 0 ω ω ω rfl
   rw[aP ω,aj,aY ω ω,aj,aj,aF,Ss,aw,cond_not,gD,mi,hr]
   have hT:cond ((l.take i).any (rU (l.getD i aQ).2.2.1 (l.getD i aQ).2.1)) (some false) r=if(l.take i).any (rU (l.getD i aQ).2.2.1 (l.getD i aQ).2.1)=false then r else some false:=by
    cases(l.take i).any (rU (l.getD i aQ).2.2.1 (l.getD i aQ).2.1)<;>rfl
   rw[hT]
   by_cases hK:Jx (l.getD i aQ)
   ·rw[ak hK]
    have hD:(if Bb l i then r else some false)=if tJ i (l.getD (i-1) aQ).1 (l.getD i aQ).1 then(if(l.take i).any (rU (l.getD i aQ).2.2.1 (l.getD i aQ).2.1)=false then r else some false)else some false:=by
     by_cases h1:tJ i (l.getD (i-1) aQ).1 (l.getD i aQ).1<;>by_cases h2:(l.take i).any (rU (l.getD i aQ).2.2.1 (l.getD i aQ).2.1)=false
     ·rw[ak h1,ak h2,ak ⟨hK,h1,h2⟩]
     ·rw[ak h1,ah h2,ah (λh=>h2 h.2.2)]
     ·rw[ah h1,ah (λh=>h1 h.2.1)]
     ·rw[ah h1,ah (λh=>h1 h.2.1)]
    rw[hD]
    by_cases h0:0<i
    ·have e:W .i64 ((i:Int)-1)=((i-1:Nat):Int):=by rw[ay ω ω];omega
     rw[aP (x:=0) (y:=(i:Int)) ω,aj,e]
     dsimp only
     rw[aF,aY ω ω,aj,cK]
     by_cases h1:tJ i (l.getD (i-1) aQ).1 (l.getD i aQ).1
     ·rw[ak h1,ah (by unfold tJ at h1;omega)]
     ·rw[ah h1,ak (by unfold tJ at h1;omega)]
    ·rw[aK (x:=0) (y:=(i:Int)) ω,au,ak (show tJ i (l.getD (i-1) aQ).1 (l.getD i aQ).1 from λh=>absurd h h0)]
   ·rw[ah hK,ah (λh=>hK h.1)]
  ·unfold eF.l4 eF.ew
   rw[aK ω,au]
 ·rw[aP ω,aj,bK h40,FA]
def vz(s w p:Int):Prop:=((s=1∨s=3)∧w=0∧p=0)∨(s=2∧1≤w∧w≤12∧ -1152921504606846976≤p∧p≤1152921504606846976)
instance(s w p:Int):Decidable (vz s w p):=by unfold vz;infer_instance
def GG(a:Int):Prop:=1≤a∧a≤1099511627776
instance(a:Int):Decidable (GG a):=by unfold GG;infer_instance
def Xi(a b:Int):Prop:=a≤b
instance(a b:Int):Decidable (Xi a b):=by unfold Xi;infer_instance
def Bh(c:ae)(l:aN)(i:Nat):Prop:=
 GG (l.getD i ((0:Int),(bM,aQ))).1∧tJ i (l.getD (i-1) ((0:Int),(bM,aQ))).1 (l.getD i ((0:Int),(bM,aQ))).1∧ ¬du ((l.getD i ((0:Int),(bM,aQ))).2.1.length:Int) 0∧lz c (l.getD i ((0:Int),(bM,aQ))).2.1=true∧Xi (l.getD i ((0:Int),(bM,aQ))).2.2.1 0∧vz (l.getD i ((0:Int),(bM,aQ))).2.2.2.1 (l.getD i ((0:Int),(bM,aQ))).2.2.2.2.1 (l.getD i ((0:Int),(bM,aQ))).2.2.2.2.2.1
instance(c:ae)(l:aN):DecidablePred (Bh c l):=λi=>by unfold Bh;infer_instance
def vA(c:ae)(l:aN):Bool:=eO c&&(decide (l.length≤12)&&(decide (∀j,j<l.length→Bh c l j)&&true))
def rV(l:aN):Prop:= ∀x∈l,x.2.1.length≤100000
theorem zp{l:aN}(h:rV l)(i:Nat):(l.getD i ((0:Int),(bM,aQ))).2.1.length≤100000:=by
 by_cases hi:i<l.length
 ·rw[aZ,bo hi];exact h _ (fg hi)
 ·rw[aZ,gV ω];exact bA _
theorem Sv(s w p:Int)(r:Option Bool):
  cond (aM s 1) (cond (!aM w 0) (some false) (cond (!aM p 0) (some false) r)) (cond (aM s 3) (cond (!aM w 0) (some false) (cond (!aM p 0) (some false) r)) (cond (aM s 2) (cond (aT w 1) (some false) (cond (aT 12 w) (some false) (cond (aT p (-1152921504606846976)) (some false) (cond (aT 1152921504606846976 p) (some false) r)))) (some false)))=
   if vz s w p then r else some false:=by
 simp only[cond_not,aR,c4]
 by_cases h:vz s w p
 ·rw[ak h];unfold vz at h
  repeat' split
  all_goals first|rfl|omega
 ·rw[ah h];unfold vz at h
  repeat' split
  all_goals first|rfl|omega
theorem Up{A B C D E F:Prop} [Decidable A] [Decidable B] [Decidable C] [Decidable D] [Decidable E] [Decidable F](r:Option Bool):
  (if A then(if B then(if C then(if D then(if E then(if F then r else some false)else some false)else some false)else some false)else some false)else some false)=if A∧B∧C∧D∧E∧F then r else some false:=by
 by_cases hA:A<;>by_cases hB:B<;>by_cases hC:C<;>by_cases hD:D<;>by_cases hE:E<;>by_cases hF:F<;>simp only[hA,hB,hC,hD,hE,hF,gA,eo,and_self,eA,and_false,false_and,true_and]
theorem NZ{a b n f s w p:Int}{i:Nat}{o:Bool}{r:Option Bool}:
  cond (aT a 1) (some false) (cond (aT 1099511627776 a) (some false) (if tJ i b a then(cond (aM n 0) (some false) (cond (!o) (some false) (cond (aT 0 f) (some false) (if vz s w p then r else some false))))else some false))=
   if GG a∧tJ i b a∧ ¬du n 0∧o=true∧Xi f 0∧vz s w p then r else some false:=by
 rw[←Up]
 simp only[cond_not,aR,c4]
 by_cases h1:GG a
 ·have pV:=h1
  unfold GG at pV
  rw[ak h1,ah ω,ah ω]
  by_cases h2:tJ i b a
  ·rw[ak h2,ak h2]
   by_cases h3:n=0
   ·rw[ak h3,ah (show ¬ ¬du n 0 from λh=>h h3)]
   ·rw[ah h3,ak (show ¬du n 0 from h3)]
    cases o
    ·rfl
    ·rw[aj,ak rfl]
     by_cases h4:f≤0
     ·rw[ak (show Xi f 0 from h4),ah ω]
     ·rw[ah (show ¬Xi f 0 from h4),ak ω]
  ·rw[ah h2,ah h2]
 ·have pV:=h1
  unfold GG at pV
  rw[ah h1]
  by_cases h2:a<1
  ·rw[ak h2]
  ·rw[ah h2,ak ω]
theorem N0{i:Nat}{a b:Int}{r:Option Bool}(h0:0<i):cond (cY a b) (some false) r=if tJ i b a then r else some false:=by
 rw[cK]
 by_cases h1:tJ i b a
 ·rw[ak h1,ah (by unfold tJ at h1;omega)]
 ·rw[ah h1,ak (by unfold tJ at h1;omega)]
theorem aaF(hN:200000≤N)(c:ae){l:aN}(hl:l.length≤100000)(hw:rV l):uR N c l=some (vA c l):=by
 unfold uR uR.b vA
 rw[KT N ω,aw]
 cases eO c
 ·rfl
 rw[bR,au,ke]
 by_cases Y3:l.length≤12
 ·rw[aK ω,au,bq Y3,ke]
  refine iA (F:=λn i=>uR.l4 N n l c l (l.length:Int) i) (Bh c l) (λn i r hi hp hr=> ?_) (λn=> ?_) N ω
  ·unfold uR.l4 uR.ew uR.j8 uR.JC
   rw[aP ω,aj,aY ω ω,aj,aF,Sr N hN c (zp hw i),aw,ay (x:=(i:Int)+1) ω ω,ag i,hr,Sv]
   refine Eq.trans ?_ NZ
   by_cases h0:0<i
   ·have e:W .i64 ((i:Int)-1)=((i-1:Nat):Int):=by rw[ay ω ω];omega
    rw[aP (x:=0) (y:=(i:Int)) ω,aj,e]
    dsimp only
    rw[aF,aY ω ω,aj,N0 h0]
   ·rw[aK (x:=0) (y:=(i:Int)) ω,au,ak (show tJ i (l.getD (i-1) ((0:Int),(bM,aQ))).1 (l.getD i ((0:Int),(bM,aQ))).1 from λh=>absurd h h0)]
  ·unfold uR.l4 uR.ew
   rw[aK ω,au]
 ·rw[aP ω,aj,bK Y3,tP]
theorem Bi(hN:200000≤N)(c:ae){l:aN}(hl:l.length≤100000)(hw:rV l):uS N c l=some (vA c l):=by
 unfold uS uS.b vA
 rw[nB N ω,aw]
 cases eO c
 ·rfl
 rw[bR,au,ke]
 by_cases Y3:l.length≤12
 ·rw[aK ω,au,bq Y3,ke]
  refine iA (F:=λn i=>uS.l4 N n l c i) (Bh c l) (λn i r hi hp hr=> ?_) (λn=> ?_) N ω
  ·unfold uS.l4 uS.ew uS.j9 uS.NL
   rw[aP ω,aj,aY ω ω,aj,aF,A9 N hN c (zp hw i),aw,ay (x:=(i:Int)+1) ω ω,ag i,hr,Sv]
   refine Eq.trans ?_ NZ
   by_cases h0:0<i
   ·have e:W .i64 ((i:Int)-1)=((i-1:Nat):Int):=by rw[ay ω ω];omega
    rw[aP (x:=0) (y:=(i:Int)) ω,aj,e]
    dsimp only
    rw[aF,aY ω ω,aj,N0 h0]
   ·rw[aK (x:=0) (y:=(i:Int)) ω,au,ak (show tJ i (l.getD (i-1) ((0:Int),(bM,aQ))).1 (l.getD i ((0:Int),(bM,aQ))).1 from λh=>absurd h h0)]
  ·unfold uS.l4 uS.ew
   rw[aK ω,au]
 ·rw[aP ω,aj,bK Y3,tP]
end VM
end
