/- A part of the proof of LotAll of layer 23: what the functions compute, in plain words. -/
import Derived.Test.YthnjnpjmbabcaaaGreatPlain1
import Derived.Test.YthnjnpjmbabcaaaGreatVm8
import Derived.Test.YthnjnpjmbabcaaaGreatPlain0
set_option linter.all false
section
namespace VM
open Go VM.F
variable(N:Nat)
def vE(r:CT):Int:=r.2.2.1
def cA(x:Int):Prop:= -9223372036854775808≤x∧x<9223372036854775808
def iS(l:bo):Prop:= ∀x∈l,cA (vE x)
theorem AL{l:bo}(h:iS l)(i:Nat):cA (vE (l.getD i cH)):=by
 by_cases hi:i<l.length
 ·rw[aY,ba hi];exact h _ (dB hi)
 ·rw[aY,eU ω];exact⟨δ,δ⟩
theorem JA{ws:List Int}(h: ∀x∈ws,cA x): -(9223372036854775808*(ws.length:Int))≤ws.sum∧ws.sum≤9223372036854775808*(ws.length:Int):=AG ws h
theorem G3{ws:List Int}(h: ∀x∈ws,cA x)(hl:ws.length≤1000000):cB ws.sum:=by
 have:=JA h
 unfold cB;omega
theorem G4{ws:List Int}(h: ∀x∈ws,cA x): ∀x∈ws,cB x:=λx hx=>by
 have:=h x hx
 unfold cA at this;unfold cB;omega
theorem JB{ws:List Int}(h: ∀x∈ws,cA x)(hl:ws.length≤1000000)(hN:1000000<N):jK N (ws.map bA)=some (bA ws.sum,true):=by
 rw[Fv N (G4 h) hl hN]
 unfold CQ
 rw[ae (G3 h hl)]
def gO(l:bo):Int:=if j1 l then(l.map vE).sum else 0
theorem Ey{l:bo}(hq:iS l)(hl:l.length≤100000)(hN:2000000≤N):uY.l5 N N bE [] l (l.length:Int) 0=some (bA (l.map vE).sum):=by
 have:=n0 l cH (λn i ws=>uY.l5 N n bE (ws.map bA) l (l.length:Int) i) (λt ws=>some (bA (ws++t.map vE).sum)) (λi (ws:List Int)=>ws.length=i∧ ∀x∈ws,cA x)
  (λn i ws hi hI hr=> ?_) (λn ws hI=> ?_) l.length N 0 [] ω ω ω ⟨rfl,λx hx=>nomatch hx⟩
 ·simpa using this
 ·unfold uY.l5 uY.mP
  have sZ:=AL hq i
  have oc:=sZ
  unfold cA vE at oc
  rw[au ω,aa,aB ω ω,aa,ar,xN N oc.1 oc.2,al,bp (by rw[iq,a6];omega),aa,ax ω ω,an]
  have:=hr (ws++[vE (l.getD i cH)]) ⟨by rw[aO,hI.1];rfl,λx hx=>by
   rcases bt.1 hx with hx|hx
   ·exact hI.2 x hx
   ·rw[dK.1 hx];exact sZ⟩
  rw[dv]at this
  refine this.trans ?_
  rw[bQ,bs];rfl
 ·unfold uY.l5 uY.mP
  rw[aq ω,ah,JB N hI.2 ω ω,al,fh,cy]
theorem JC{l:bo}(hq:iS l)(hl:l.length≤100000)(hN:2000000≤N):uY N l=some (bA (gO l)):=by
 unfold uY uY.b gO
 rw[Fw N hl ω,al,cond_not,Ey N hq hl hN]
 cases j1 l<;>rfl
theorem C1{l:bo}(hq:iS l)(hl:l.length≤100000)(hN:4000000≤N):uZ.l5 N N l (bz 0) (bz 0) 0=some (bz (l.map vE).sum):=by
 have:=n0 l cH (λn i ws=>uZ.l5 N n l (bz 0) (bz ws.sum) i) (λt ws=>some (bz (ws++t.map vE).sum)) (λi (ws:List Int)=>ws.length=i∧ ∀x∈ws,cA x)
  (λn i ws hi hI hr=> ?_) (λn ws hI=> ?_) l.length N 0 [] ω ω ω ⟨rfl,λx hx=>nomatch hx⟩
 ·simpa using this
 ·unfold uZ.l5 uZ.mP
  have sZ:=AL hq i
  have oc:=sZ
  unfold cA vE at oc
  have hb:=JA hI.2
  rw[hI.1]at hb
  rw[au ω,aa,aB ω ω,aa,ar,eJ N ω oc.1 oc.2,al,iE N ω ((AH (n:=i) ω hb.1 hb.2).mono ω) ((Fit.i64 oc.1 oc.2).mono ω),al,ax ω ω,an]
  have:=hr (ws++[vE (l.getD i cH)]) ⟨by rw[aO,hI.1];rfl,λx hx=>by
   rcases bt.1 hx with hx|hx
   ·exact hI.2 x hx
   ·rw[dK.1 hx];exact sZ⟩
  rw[oZ,eV,jy,o7]at this
  refine this.trans ?_
  rw[bQ,bs];rfl
 ·unfold uZ.l5 uZ.mP
  rw[aq ω,ah,fh,cy]
theorem G5{l:bo}(hq:iS l)(hl:l.length≤100000)(hN:4000000≤N):uZ N l=some (bz (gO l)):=by
 unfold uZ uZ.b gO
 rw[CU N hl ω,al,cond_not]
 have:=C1 N hq hl hN
 rw[eP]at this
 rw[this]
 cases j1 l
 ·rw[ah];exact gv some eP.symm
 ·rfl
def lE(inst:Int):bo→List Int
 |[]=>[]
 |x::t=>if x.2.1=inst then vE x::lE inst t else lE inst t
theorem u5(inst:Int)(x:CT)(t:bo):lE inst (x::t)=if x.2.1=inst then vE x::lE inst t else lE inst t:=rfl
theorem G6{l:bo}(hq:iS l)(hl:l.length≤100000)(hN:2000000≤N)(inst:Int):jP.l5 N N inst bE [] l (l.length:Int) 0=some (bA (lE inst l).sum):=by
 have:=n0 l cH (λn i ws=>jP.l5 N n inst bE (ws.map bA) l (l.length:Int) i) (λt ws=>some (bA (ws++lE inst t).sum)) (λi (ws:List Int)=>ws.length≤i∧ ∀x∈ws,cA x)
  (λn i ws hi hI hr=> ?_) (λn ws hI=> ?_) l.length N 0 [] ω ω ω ⟨aH _,λx hx=>nomatch hx⟩
 ·simpa using this
 ·unfold jP.l5 jP.mP
  have sZ:=AL hq i
  have oc:=sZ
  unfold cA vE at oc
  rw[au ω,aa,aB ω ω,aa,ar,xN N oc.1 oc.2,al,bp (by rw[iq,a6];omega),aa,ax ω ω,an,aQ,u5]
  split
  ·have:=hr (ws++[vE (l.getD i cH)]) ⟨by rw[aO,a6];omega,λx hx=>by
    rcases bt.1 hx with hx|hx
    ·exact hI.2 x hx
    ·rw[dK.1 hx];exact sZ⟩
   rw[dv]at this
   refine this.trans ?_
   rw[bs];rfl
  ·exact hr ws ⟨ω,hI.2⟩
 ·unfold jP.l5 jP.mP
  rw[aq ω,ah,JB N hI.2 ω ω,al]
  show _=some (bA (ws++[]).sum)
  rw[cy]
def s0(l:bo)(inst:Int):Int:=if e8 l then(lE inst l).sum else 0
theorem Ma{l:bo}(hq:iS l)(hl:l.length≤100000)(hN:2000000≤N)(inst:Int):jP N l inst=some (bA (s0 l inst)):=by
 unfold jP jP.b s0
 rw[xQ N hl ω,al,cond_not,G6 N hq hl hN]
 cases e8 l<;>rfl
theorem Ez{l:bo}(hq:iS l)(hl:l.length≤100000)(hN:4000000≤N)(inst:Int):jQ.l5 N N l inst (bz 0) (bz 0) 0=some (bz (lE inst l).sum):=by
 have:=n0 l cH (λn i ws=>jQ.l5 N n l inst (bz 0) (bz ws.sum) i) (λt ws=>some (bz (ws++lE inst t).sum)) (λi (ws:List Int)=>ws.length≤i∧ ∀x∈ws,cA x)
  (λn i ws hi hI hr=> ?_) (λn ws hI=> ?_) l.length N 0 [] ω ω ω ⟨aH _,λx hx=>nomatch hx⟩
 ·simpa using this
 ·unfold jQ.l5 jQ.mP
  have sZ:=AL hq i
  have oc:=sZ
  unfold cA vE at oc
  have hb:=JA hI.2
  rw[au ω,aa,aB ω ω,aa,aa,ar,eJ N ω oc.1 oc.2,al,iE N ω ((AH (n:=ws.length) ω hb.1 hb.2).mono ω) ((Fit.i64 oc.1 oc.2).mono ω),al,ax ω ω,an,aQ,u5]
  split
  ·have:=hr (ws++[vE (l.getD i cH)]) ⟨by rw[aO,a6];omega,λx hx=>by
    rcases bt.1 hx with hx|hx
    ·exact hI.2 x hx
    ·rw[dK.1 hx];exact sZ⟩
   rw[oZ,eV,jy,o7]at this
   refine this.trans ?_
   rw[bs];rfl
  ·exact hr ws ⟨ω,hI.2⟩
 ·unfold jQ.l5 jQ.mP
  rw[aq ω,ah]
  show _=some (bz (ws++[]).sum)
  rw[cy]
theorem C2{l:bo}(hq:iS l)(hl:l.length≤100000)(hN:4000000≤N)(inst:Int):jQ N l inst=some (bz (s0 l inst)):=by
 unfold jQ jQ.b s0
 rw[tP N hl ω,al,cond_not]
 have:=Ez N hq hl hN inst
 rw[eP]at this
 rw[this]
 cases e8 l
 ·rw[ah];exact gv some eP.symm
 ·rfl
def rf(l:bo)(i:Nat):Prop:=eR (s0 l (i:Int)) 0
instance(l:bo):DecidablePred (rf l):=λi=>by unfold rf;infer_instance
def od:Nat:=6
def ri(l:bo):Bool:=decide (∀j,j<od→rf l j)&&e8 l
theorem nr{x:Int}:nW x=0↔x=0:=by unfold nW;split<;>(try split)<;>omega
theorem Mb{l:bo}(hq:iS l)(hl:l.length≤100000)(hN:2000000≤N):vF N l=some (ri l):=by
 unfold vF vF.b
 refine eo (len:=od) (F:=λn i=>vF.l2 N n l i) (rf l) (λn i r hi hp hr=> ?_) (λn=> ?_) N (by unfold od;omega)
 ·unfold vF.l2 vF.dV
  unfold od at hi
  rw[au ω,aa,Ma N hq hl hN,al,xS,al,cond_not,aQ,ax ω ω,an,hr]
  by_cases hP:rf l i
  ·rw[ae hP,ae (nr.2 hP)]
  ·rw[af hP,af (λh=>hP (nr.1 h))]
 ·unfold vF.l2 vF.dV
  rw[aq (by unfold od;omega),ah,xQ N hl ω,al]
theorem JD{l:bo}(hq:iS l)(hl:l.length≤100000)(hN:4000000≤N):vG N l=some (ri l):=by
 unfold vG vG.b
 refine eo (len:=od) (F:=λn i=>vG.l2 N n l i) (rf l) (λn i r hi hp hr=> ?_) (λn=> ?_) N (by unfold od;omega)
 ·unfold vG.l2 vG.dV
  unfold od at hi
  rw[au ω,aa,C2 N hq hl hN,al,nX,al,cond_not,aQ,ax ω ω,an,hr]
  by_cases hP:rf l i
  ·rw[ae hP,ae (nr.2 hP)]
  ·rw[af hP,af (λh=>hP (nr.1 h))]
 ·unfold vG.l2 vG.dV
  rw[aq (by unfold od;omega),ah,tP N hl ω,al]
def gP(m:aw)(a:bN)(l:bo)(i:Nat):Prop:=
 (eR (l.getD i cH).1 5→(gk a (l.getD i cH).2.1).2=true)∧(eR (l.getD i cH).1 6∨eR (l.getD i cH).1 7→ ¬eR (gE m (l.getD i cH).2.1) 0)
instance(m:aw)(a:bN)(l:bo):DecidablePred (gP m a l):=λi=>by unfold gP;infer_instance
theorem EA(b:bf)(hl:b.2.1.length≤100000)(hN:200000≤N)(id:Int):SE N b id=some (gk b.2.1 id).2:=by
 unfold SE
 rw[L7 N hl hN,al]
theorem G7{k:Int}{f:Bool}{z:Int}{r:Option Bool}:cond (bq k 5) (cond (!f) (some false) r) (cond (bq k 6) (cond (bq z 0) (some false) r) (cond (bq k 7) (cond (bq z 0) (some false) r) r))=
  if(eR k 5→f=true)∧(eR k 6∨eR k 7→ ¬eR z 0)then r else some false:=by
 unfold eR
 rw[aQ,aQ,aQ,aQ,cond_not]
 by_cases h5:k=5
 ·have h6: ¬(k=6):=ω
  have h7: ¬(k=7):=ω
  cases f<;>simp[h5,h6,h7]
 ·by_cases h6:k=6
  ·by_cases hz:z=0<;>simp[h5,h6,hz]
  ·by_cases h7:k=7
   ·by_cases hz:z=0<;>simp[h5,h6,h7,hz]
   ·simp[h5,h6,h7]
theorem zb(hN:200000≤N)(c:ak)(b:bf)(hm:b.1.length≤100000)(ha:b.2.1.length≤100000)(hl:b.2.2.1.length≤100000){e:Bool}
  (he:gQ.Mc N N c b b.2.2.2.1 (b.2.2.2.1.length:Int) 0=some e):gQ.l4 N N c b b.2.2.1 (b.2.2.1.length:Int) 0=some (decide (∀j,j<b.2.2.1.length→gP b.1 b.2.1 b.2.2.1 j)&&e):=by
 refine eo (F:=λn i=>gQ.l4 N n c b b.2.2.1 (b.2.2.1.length:Int) i) (gP b.1 b.2.1 b.2.2.1) (λn i r hi hp hr=> ?_) (λn=> ?_) N ω
 ·unfold gQ.l4 gQ.dF
  rw[au ω,aa,aB ω ω,aa,ar,ax (x:=(i:Int)+1) ω ω,an,hr]
  simp only[EA N b ha hN,zQ N hm hN,al]
  rw[G7]
  rfl
 ·unfold gQ.l4 gQ.dF
  rw[aq ω,ah];exact he
def Bi(a b:Int):Prop:=a<b
instance(a b:Int):Decidable (Bi a b):=by unfold Bi;infer_instance
def gR(c:ak)(a:bN)(l:bo)(i:Nat):Prop:=
 (eR (l.getD i cH).1 0∨(gk a (l.getD i cH).1).2=true)∧Bi (l.getD i cH).2.1 c.1.length
instance(c:ak)(a:bN)(l:bo):DecidablePred (gR c a l):=λi=>by unfold gR;infer_instance
theorem JE{k x n:Int}{f:Bool}{r:Option Bool}:cond (!bq k 0) (cond (!f) (some false) (cond (c4 n x) (some false) r)) (cond (c4 n x) (some false) r)=if(eR k 0∨f=true)∧Bi x n then r else some false:=by
 unfold eR Bi
 rw[cond_not,aQ,bJ,cond_not]
 by_cases h0:k=0
 ·by_cases hx:n≤x
  ·have: ¬x<n:=ω
   simp[h0,hx,this]
  ·have:x<n:=ω
   simp[h0,hx,this]
 ·by_cases hx:n≤x
  ·have: ¬x<n:=ω
   cases f<;>simp[h0,hx,this]
  ·have:x<n:=ω
   cases f<;>simp[h0,hx,this]
theorem AN(hN:200000≤N)(c:ak)(b:bf)(ha:b.2.1.length≤100000)(hl:b.2.2.2.1.length≤100000){e:Bool}
  (he:gQ.u6 N N c b b.2.2.2.2.2.1 (b.2.2.2.2.2.1.length:Int) 0=some e):gQ.Mc N N c b b.2.2.2.1 (b.2.2.2.1.length:Int) 0=some (decide (∀j,j<b.2.2.2.1.length→gR c b.2.1 b.2.2.2.1 j)&&e):=by
 refine eo (F:=λn i=>gQ.Mc N n c b b.2.2.2.1 (b.2.2.2.1.length:Int) i) (gR c b.2.1 b.2.2.2.1) (λn i r hi hp hr=> ?_) (λn=> ?_) N ω
 ·unfold gQ.Mc gQ.Md
  rw[au ω,aa,aB ω ω,aa,ar,ax (x:=(i:Int)+1) ω ω,an,hr]
  simp only[EA N b ha hN,al]
  rw[JE]
  rfl
 ·unfold gQ.Mc gQ.Md
  rw[aq ω,ah];exact he
def mA(l:List Int)(i:Nat):Prop:=1≤l.getD i 0∧l.getD i 0≤1000000000000
instance(l:List Int):DecidablePred (mA l):=λi=>by unfold mA;infer_instance
def gF(l:List Int):Bool:=decide (∀j,j<l.length→mA l j)
theorem PV(p:Int):WL N p=some (!decide (1≤p∧p≤1000000000000)):=by
 unfold WL
 rw[zO,al]
theorem xT(N:Nat){l:List Int}(hl:l.length≤100000): ∀(m n i:Nat),l.length-i≤m→m<n→i≤l.length→(∀j,j<i→mA l j)→
  ∃r,lR.l2 N n l () (l.length:Int) (i:Int)=some r∧(c4 0 r= !gF l)
 |m,0,i,_,hn,_,_=>ω
 |m,n+1,i,hm,hn,hi,hp=>by
  unfold lR.l2 lR.dV
  by_cases h:i<l.length
  ·rw[au ω,aa,aB ω ω,aa,ar,PV,al,cond_not,dO]
   by_cases hP:mA l i
   ·have Ui:=hP
    unfold mA at Ui
    rw[ae Ui,ax ω ω]
    exact xT N hl (m-1) n (i+1) ω ω ω (λj hj=>by
     by_cases xy:j=i
     ·subst xy;exact hP
     ·exact hp j ω)
   ·have Ui:=hP
    unfold mA at Ui
    rw[af Ui]
    refine⟨_,rfl,?_⟩
    rw[cq ω]
    unfold gF
    rw[bm (λh'=>hP (h' i h))];rfl
  ·rw[aq ω,ah]
   refine⟨_,rfl,?_⟩
   rw[cf ω]
   unfold gF
   rw[bn (λj hj=>hp j ω)];rfl
theorem G8{l:List Int}(hl:l.length≤100000)(hN:200000≤N):WM N l ()=some (!gF l):=by
 unfold WM lR lR.b
 obtain⟨r,e,h⟩:=xT N hl l.length N 0 ω ω ω (λj hj=>absurd hj ω)
 rw[show((0:Nat):Int)=0 from rfl]at e
 rw[e,al,h]
def kE(c:ak)(a:bN)(l:n9)(i:Nat):Prop:=
 (gk a (l.getD i vP).2.1).2=true∧Bi (l.getD i vP).2.2.1 c.1.length
instance(c:ak)(a:bN)(l:n9):DecidablePred (kE c a l):=λi=>by unfold kE;infer_instance
theorem xU{x n:Int}{f:Bool}{r:Option Bool}:cond (!f) (some false) (cond (c4 n x) (some false) r)=if f=true∧Bi x n then r else some false:=by
 unfold Bi
 rw[bJ,cond_not]
 by_cases hx:n≤x
 ·have: ¬x<n:=ω
  cases f<;>simp[hx,this]
 ·have:x<n:=ω
  cases f<;>simp[hx,this]
theorem AO(hN:200000≤N)(c:ak)(b:bf)(ha:b.2.1.length≤100000)(hl:b.2.2.2.2.2.1.length≤100000)(hp:b.2.2.2.2.1.length≤100000):
  gQ.u6 N N c b b.2.2.2.2.2.1 (b.2.2.2.2.2.1.length:Int) 0=some (decide (∀j,j<b.2.2.2.2.2.1.length→kE c b.2.1 b.2.2.2.2.2.1 j)&&gF b.2.2.2.2.1):=by
 refine eo (F:=λn i=>gQ.u6 N n c b b.2.2.2.2.2.1 (b.2.2.2.2.2.1.length:Int) i) (kE c b.2.1 b.2.2.2.2.2.1) (λn i r hi yF hr=> ?_) (λn=> ?_) N ω
 ·unfold gQ.u6 gQ.tT
  rw[au ω,aa,aB ω ω,aa,ar,ax (x:=(i:Int)+1) ω ω,an,hr]
  simp only[EA N b ha hN,al]
  rw[xU]
  rfl
 ·unfold gQ.u6 gQ.tT
  rw[aq ω,ah,G8 N hp hN,al,Bool.not_not]
def iZ(c:ak)(b:bf):Bool:=
 iF c&&(pL b.1 b.2.1&&(j1 b.2.2.1&&(decide (eR (gO b.2.2.1) 0)&&(ri b.2.2.2.1&&(gD b.2.2.2.2.2.1&&(decide (eR b.2.2.2.2.1.length c.1.length)&&
  (decide (∀j,j<b.2.2.1.length→gP b.1 b.2.1 b.2.2.1 j)&&(decide (∀j,j<b.2.2.2.1.length→gR c b.2.1 b.2.2.2.1 j)&&(decide (∀j,j<b.2.2.2.2.2.1.length→kE c b.2.1 b.2.2.2.2.2.1 j)&&gF b.2.2.2.2.1)))))))))
structure oe(b:bf):Prop where
 m:b.1.length≤100000
 a:b.2.1.length≤100000
 r:b.2.2.1.length≤100000
 s:b.2.2.2.1.length≤100000
 p:b.2.2.2.2.1.length≤100000
 o:b.2.2.2.2.2.1.length≤100000
 qr:iS b.2.2.1
 qs:iS b.2.2.2.1
theorem jR{x:Bool}{r:Option Bool}{y:Bool}(h:r=some y):cond (!x) (some false) r=some (x&&y):=by subst h;cases x<;>rfl
theorem Me(hN:4000000≤N){c:ak}{b:bf}(w:oe b):gQ N c b=some (iZ c b):=by
 unfold gQ gQ.b iZ
 rw[AK N ω,al]
 refine jR ?_
 rw[L9 N w.m w.a ω,al]
 refine jR ?_
 rw[Fw N w.r ω,al]
 refine jR ?_
 rw[JC N w.qr w.r ω,al,xS,al]
 have e0:bq (nW (gO b.2.2.1)) 0=decide (eR (gO b.2.2.1) 0):=by rw[eD,mV];exact nr
 rw[e0]
 refine jR ?_
 rw[Mb N w.qs w.s ω,al]
 refine jR ?_
 rw[GZ N w.o ω,al]
 refine jR ?_
 rw[eD]
 refine jR ?_
 exact zb N ω c b w.m w.a w.r (AN N ω c b w.a w.s (AO N ω c b w.a w.o w.p))
theorem xV(b:bf)(hl:b.2.1.length≤100000)(hN:200000≤N)(id:Int):SF N b id=some ((gk b.2.1 id).2||decide (eR id 0)):=by
 unfold SF
 rw[Jx N hl hN,al,eD]
 cases(gk b.2.1 id).2<;>rfl
theorem EB{k:Int}{f:Bool}{z:Int}{r:Option Bool}:cond (bq k 5) (cond (!f) (some false) (cond (bq k 6) (cond (bq z 0) (some false) r) (cond (bq k 7) (cond (bq z 0) (some false) r) r))) (cond (bq k 6) (cond (bq z 0) (some false) r) (cond (bq k 7) (cond (bq z 0) (some false) r) r))=
  if(eR k 5→f=true)∧(eR k 6∨eR k 7→ ¬eR z 0)then r else some false:=by
 unfold eR
 rw[aQ,aQ,aQ,aQ,cond_not]
 by_cases h5:k=5
 ·have h6: ¬(k=6):=ω
  have h7: ¬(k=7):=ω
  cases f<;>simp[h5,h6,h7]
 ·by_cases h6:k=6
  ·by_cases hz:z=0<;>simp[h5,h6,hz]
  ·by_cases h7:k=7
   ·by_cases hz:z=0<;>simp[h5,h6,h7,hz]
   ·simp[h5,h6,h7]
theorem zc(hN:200000≤N)(c:ak)(b:bf)(ha:b.2.1.length≤100000)(hl:b.2.2.2.2.2.1.length≤100000)(ho:gD b.2.2.2.2.2.1=true):
  et.u6 N N c b 0=some (decide (∀j,j<b.2.2.2.2.2.1.length→kE c b.2.1 b.2.2.2.2.2.1 j)&&true):=by
 refine eo (F:=λn i=>et.u6 N n c b i) (kE c b.2.1 b.2.2.2.2.2.1) (λn i r hi yF hr=> ?_) (λn=> ?_) N ω
 ·unfold et.u6 et.tT
  unfold gD at ho
  rw[bg,im]at ho
  have h1:=(ho.1 i hi).1
  unfold qK tR at h1
  have h2:decide (eR (b.2.2.2.2.2.1.getD i vP).2.1 0)=false:=bm (by unfold eR;omega)
  rw[au ω,aa,aB ω ω,aa,ar,ax (x:=(i:Int)+1) ω ω,an,hr]
  simp only[xV N b ha hN,al,aa]
  rw[h2,o5,xU]
  rfl
 ·unfold et.u6 et.tT
  rw[aq ω,ah]
theorem vH(hN:200000≤N)(c:ak)(b:bf)(hl:b.2.2.2.2.1.length≤100000){e:Bool}(he:et.u6 N N c b 0=some e):
  et.Cz N N c b 0=some (gF b.2.2.2.2.1&&e):=by
 refine eo (F:=λn i=>et.Cz N n c b i) (mA b.2.2.2.2.1) (λn i r hi yF hr=> ?_) (λn=> ?_) N ω
 ·unfold et.Cz et.CA
  rw[au ω,aa,aB ω ω,aa,ar,ax (x:=(i:Int)+1) ω ω,an,hr,zP,al,cond_not,dO]
  rfl
 ·unfold et.Cz et.CA
  rw[aq ω,ah];exact he
theorem zd(hN:200000≤N)(c:ak)(b:bf)(ha:b.2.1.length≤100000)(hl:b.2.2.2.1.length≤100000){e:Bool}(he:et.Cz N N c b 0=some e):
  et.Mf N N c b 0=some (decide (∀j,j<b.2.2.2.1.length→gR c b.2.1 b.2.2.2.1 j)&&e):=by
 refine eo (F:=λn i=>et.Mf N n c b i) (gR c b.2.1 b.2.2.2.1) (λn i r hi yF hr=> ?_) (λn=> ?_) N ω
 ·unfold et.Mf et.Mg
  rw[au ω,aa,aB ω ω,aa,ar,ax (x:=(i:Int)+1) ω ω,an,hr]
  simp only[xV N b ha hN,al,aa]
  rw[xU]
  have JF:((((gk b.2.1 (b.2.2.2.1.getD i cH).1).2||decide (eR (b.2.2.2.1.getD i cH).1 0))=true)∧Bi (b.2.2.2.1.getD i cH).2.1 c.1.length)↔gR c b.2.1 b.2.2.2.1 i:=by
   unfold gR
   rw[js,im]
   exact⟨λh=>⟨h.1.symm,h.2⟩,λh=>⟨h.1.symm,h.2⟩⟩
  by_cases hP:gR c b.2.1 b.2.2.2.1 i
  ·rw[ae hP,ae (JF.2 hP)]
  ·rw[af hP,af (λh=>hP (JF.1 h))]
 ·unfold et.Mf et.Mg
  rw[aq ω,ah];exact he
theorem xW(hN:200000≤N)(c:ak)(b:bf)(hm:b.1.length≤100000)(ha:b.2.1.length≤100000)(hl:b.2.2.1.length≤100000)(hk:j1 b.2.2.1=true){e:Bool}
  (he:et.Mf N N c b 0=some e):et.l6 N N c b 0=some (decide (∀j,j<b.2.2.1.length→gP b.1 b.2.1 b.2.2.1 j)&&e):=by
 refine eo (F:=λn i=>et.l6 N n c b i) (gP b.1 b.2.1 b.2.2.1) (λn i r hi yF hr=> ?_) (λn=> ?_) N ω
 ·unfold et.l6 et.y7
  unfold j1 at hk
  rw[jv,im]at hk
  have h1:=(hk i hi).1
  rw[au ω,aa,aB ω ω,aa,ar,ax (x:=(i:Int)+1) ω ω,an,hr]
  simp only[xV N b ha hN,Ev N hm hN,al]
  rw[EB]
  have JF:((eR (b.2.2.1.getD i cH).1 5→((gk b.2.1 (b.2.2.1.getD i cH).2.1).2||decide (eR (b.2.2.1.getD i cH).2.1 0))=true)∧(eR (b.2.2.1.getD i cH).1 6∨eR (b.2.2.1.getD i cH).1 7→ ¬eR (gE b.1 (b.2.2.1.getD i cH).2.1) 0))↔gP b.1 b.2.1 b.2.2.1 i:=by
   unfold gP
   refine and_congr_left λ_=>imp_congr_right λh5=> ?_
   rw[js,im]
   refine⟨λh=>h.elim id λh0=> ?_,.inl⟩
   unfold kj at h1;unfold eR at h5 h0;omega
  by_cases hP:gP b.1 b.2.1 b.2.2.1 i
  ·rw[ae hP,ae (JF.2 hP)]
  ·rw[af hP,af (λh=>hP (JF.1 h))]
 ·unfold et.l6 et.y7
  rw[aq ω,ah];exact he
theorem ja{x:Bool}{r:Option Bool}{y:Bool}(h:x=true→r=some y):cond (!x) (some false) r=some (x&&y):=by
 cases x
 ·rfl
 ·exact h rfl
theorem JG(hN:5000000≤N){c:ak}{b:bf}(w:oe b):et N c b=some (iZ c b):=by
 unfold et et.b
 rw[xO N ω,al]
 have e0:bq (nW (gO b.2.2.1)) 0=decide (eR (gO b.2.2.1) 0):=by rw[eD,mV];exact nr
 refine(ja λ_=> ?_).trans (gv some (?_:(iF c&&(pL b.1 b.2.1&&(j1 b.2.2.1&&(ri b.2.2.2.1&&(gD b.2.2.2.2.2.1&&(decide (eR b.2.2.2.2.1.length c.1.length)&&(decide (eR (gO b.2.2.1) 0)&&
  (decide (∀j,j<b.2.2.1.length→gP b.1 b.2.1 b.2.2.1 j)&&(decide (∀j,j<b.2.2.2.1.length→gR c b.2.1 b.2.2.2.1 j)&&(gF b.2.2.2.2.1&&(decide (∀j,j<b.2.2.2.2.2.1.length→kE c b.2.1 b.2.2.2.2.2.1 j)&&true)))))))))))=iZ c b))
 ·rw[Jy N w.m w.a ω,al]
  refine ja λ_=> ?_
  rw[CU N w.r ω,al]
  refine ja λhk=> ?_
  rw[JD N w.qs w.s ω,al]
  refine ja λ_=> ?_
  rw[Eu N w.o ω,al]
  refine ja λho=> ?_
  rw[eD]
  refine ja λ_=> ?_
  rw[G5 N w.qr w.r ω,al,nX,al,e0]
  refine ja λ_=> ?_
  exact xW N ω c b w.m w.a w.r hk (zd N ω c b w.a w.s (vH N ω c b w.p (zc N ω c b w.a w.o ho)))
 ·unfold iZ
  generalize iF c=x1,pL b.1 b.2.1=x2,j1 b.2.2.1=x3,ri b.2.2.2.1=x4,gD b.2.2.2.2.2.1=x5,decide (eR b.2.2.2.2.1.length c.1.length)=x6,decide (eR (gO b.2.2.1) 0)=x7,decide (∀j,j<b.2.2.1.length→gP b.1 b.2.1 b.2.2.1 j)=x8,decide (∀j,j<b.2.2.2.1.length→gR c b.2.1 b.2.2.2.1 j)=x9,gF b.2.2.2.2.1=cG,decide (∀j,j<b.2.2.2.2.2.1.length→kE c b.2.1 b.2.2.2.2.2.1 j)=ct
  rw[jv]
  cases x1<;>cases x2<;>cases x3<;>cases x4<;>cases x5<;>cases x6<;>cases x7<;>try rfl
  cases x8<;>cases x9<;>cases cG<;>cases ct<;>rfl
def jb(a q n:Int)(i:Nat)(p:Int):Prop:=0≤a∧a<n∧q≠0∧q9 q∧(0<i→p<a)
instance(a q n:Int)(i:Nat)(p:Int):Decidable (jb a q n i p):=by unfold jb;infer_instance
def iJ(c:ak)(l:aw)(i:Nat):Prop:=jb (l.getD i bE).1 (l.getD i bE).2.1 c.1.length i (l.getD (i-1) bE).1
instance(c:ak)(l:aw):DecidablePred (iJ c l):=λi=>by unfold iJ;infer_instance
def gY(c:ak)(l:aw):Bool:=decide (∀j,j<l.length→iJ c l j)&&iF c
theorem FB(hN:200000≤N)(c:ak){l:aw}(hl:l.length≤100000):tU N c l=some (gY c l):=by
 unfold tU tU.b
 refine eo (F:=λn i=>tU.l2 N n l c l (l.length:Int) i) (iJ c l) (λn i r hi hp hr=> ?_) (λn=> ?_) N ω
 ·unfold tU.l2 tU.dV
  rw[au ω,aa,aB ω ω,aa,ar,ax (x:=(i:Int)+1) ω ω,an,hr,uX,al,cond_not,dO]
  by_cases h0:0<i
  ·have e:W .i64 ((i:Int)-1)=((i-1:Nat):Int):=by rw[ax ω ω];omega
   dsimp only
   rw[au (x:=0) (y:=(i:Int)) ω,aa,e,ar,aB ω ω,aa]
   simp only[bZ,bJ,aQ]
   by_cases hP:iJ c l i
   ·rw[ae hP];unfold iJ jb at hP
    rw[af ω,af ω,af hP.2.2.1,ae hP.2.2.2.1,af ω]
   ·rw[af hP];unfold iJ jb at hP
    have h2:=λh1 h2 h3 h4 h5=>hP ⟨h1,h2,h3,h4,h5⟩
    repeat' split
    all_goals first|rfl|(exfalso;exact h2 ω ω (by assumption) (by assumption) ω)
  ·rw[aq (x:=0) (y:=(i:Int)) ω,ah]
   simp only[bZ,bJ,aQ]
   by_cases hP:iJ c l i
   ·rw[ae hP];unfold iJ jb at hP
    rw[af ω,af ω,af hP.2.2.1,ae hP.2.2.2.1]
   ·rw[af hP];unfold iJ jb at hP
    have h2:=λh1 h2 h3 h4 h5=>hP ⟨h1,h2,h3,h4,h5⟩
    repeat' split
    all_goals first|rfl|(exfalso;exact h2 ω ω (by assumption) (by assumption) ω)
 ·unfold tU.l2 tU.dV
  rw[aq ω,ah,AK N ω,al]
theorem C3(hN:200000≤N)(c:ak){l:aw}(hl:l.length≤100000):tV N c l=some (gY c l):=by
 unfold tV tV.b
 rw[xO N ω,al]
 have hsc:=eo (F:=λn i=>tV.l4 N n l c i) (e:=true) (iJ c l) (λn i r hi hp hr=> ?_) (λn=> ?_) N (show l.length<N by omega)
 ·rw[jR hsc];unfold gY
  rw[jv,Bool.and_comm]
 ·unfold tV.l4 tV.dF
  rw[au ω,aa,aB ω ω,aa,ar,ax (x:=(i:Int)+1) ω ω,an,hr]
  by_cases h0:0<i
  ·have e:W .i64 ((i:Int)-1)=((i-1:Nat):Int):=by rw[ax ω ω];omega
   dsimp only
   rw[au (x:=0) (y:=(i:Int)) ω,e,ar,aB (i:=((i-1:Nat):Int)) ω ω]
   simp only[bZ,bJ,aQ,aa]
   by_cases hP:iJ c l i
   ·rw[ae hP];unfold iJ jb at hP
    rw[af ω,af ω,af hP.2.2.1,af (show ¬((l.getD i bE).2.1:Int)= -9223372036854775808 from hP.2.2.2.1),af ω]
   ·rw[af hP];unfold iJ jb at hP
    have h2:=λh1 h2 h3 h4 h5=>hP ⟨h1,h2,h3,h4,h5⟩
    repeat' split
    all_goals first|rfl|(exfalso;exact h2 ω ω (by assumption) (by assumption) ω)
  ·rw[aq (x:=0) (y:=(i:Int)) ω]
   simp only[bZ,bJ,aQ,aa,ah]
   by_cases hP:iJ c l i
   ·rw[ae hP];unfold iJ jb at hP
    rw[af ω,af ω,af hP.2.2.1,af (show ¬((l.getD i bE).2.1:Int)= -9223372036854775808 from hP.2.2.2.1)]
   ·rw[af hP];unfold iJ jb at hP
    have h2:=λh1 h2 h3 h4 h5=>hP ⟨h1,h2,h3,h4,h5⟩
    repeat' split
    all_goals first|rfl|(exfalso;exact h2 ω ω (by assumption) (by assumption) ω)
 ·unfold tV.l4 tV.dF
  rw[aq ω,ah]
end VM
end
section
namespace VM
open Go VM.F
variable(N:Nat)
end VM
end
section
namespace VM
open Go VM.F
variable(N:Nat)
end VM
end
section
namespace VM
open Go VM.F
variable(N:Nat)
abbrev JH:=Int×Int
def Mh(x y:JH):Prop:=iR x.1 x.2 y.1 y.2
instance(x y:JH):Decidable (Mh x y):=by unfold Mh;infer_instance
def keyOf(x:CT):JH:=(x.1,x.2.1)
def Srt(K:List JH):Prop:=K.Pairwise Mh
theorem G9{x y z:JH}(h:Mh x y)(k:Mh y z):Mh x z:=by unfold Mh iR at*;omega
end VM
end
section
namespace VM
open Go VM.F
variable(N:Nat)
instance(x:Int):Decidable (cA x):=by unfold cA;infer_instance
theorem JI{v:Int}(h:cB v):PQ N (bA v)=some (q7 v):=AJ N h.1 h.2
theorem C4{l:bo}(h:e8 l=true):Srt (l.map keyOf)∧(∀x∈l,dD x.1 x.2.1∧q9 (vE x)):=by
 unfold e8 at h
 rw[jv]at h
 have h':=bO h
 have get: ∀(i:Nat) (hi:i<l.length),l.getD i cH=l[i]:=λi hi=>by rw[aY,ba hi];rfl
 have Uj: ∀i,i+1<l.length→Mh (keyOf (l.getD i cH)) (keyOf (l.getD (i+1) cH)):=λi hi=>(h' (i+1) hi).2.2.2 ω
 have c6: ∀j,j<l.length→ ∀i,i<j→Mh (keyOf (l.getD i cH)) (keyOf (l.getD j cH)):=by
  intro j
  induction j with
  |zero=>intro _ i hi;omega
  |succ j ih=>
   intro hj i hi
   by_cases e:i=j
   ·rw[e];exact Uj j hj
   ·exact G9 (ih ω i ω) (Uj j hj)
 refine⟨?_,λx hx=> ?_⟩
 ·refine List.pairwise_map.2 (Br.2 λi j hi hj jC=> ?_)
  have:=c6 j hj i jC
  rw[get i hi,get j hj]at this
  exact this
 ·obtain⟨i,hi,e⟩:=mc hx
  have:=h' i hi
  unfold hJ iH at this
  rw[get i hi,e]at this
  exact⟨this.1,this.2.2.1⟩
end VM
end
section
namespace VM
open Go VM.F
variable(N:Nat)
end VM
end
section
namespace VM
open Go VM.F
variable(N:Nat)
theorem xX{ws:List Int}{x:Int}(h: ∀y∈ws,cB y)(hx:cB x): ∀y∈ws++[x],cB y:=λy hy=>by
 rcases bt.1 hy with hy|hy
 ·exact h y hy
 ·rw[dK.1 hy];exact hx
theorem JJ{v:Int}{n:Nat}(hn:n≤1000000)(h0: -(170141183460469231731687303715884105728*(n:Int))≤v)(h1:v≤170141183460469231731687303715884105728*(n:Int)):Fit v 900000:=by
 have h5:Fit v 5:=by
  unfold Fit
  rw[show(4294967296:Nat)^5=1461501637330902918203684832716283019655932542976 from rfl]
  omega
 exact h5.mono ω
theorem s3{v:Int}(h:cB v):Fit v 900000:=JJ (n:=1) ω (by have:=h.1;omega) (by have:=h.2;omega)
end VM
end
section
namespace VM
open Go VM.F
variable(N:Nat)
def og(s w p:Int):Prop:=((s=1∨s=3)∧w=0∧p=0)∨(s=2∧1≤w∧w≤12∧ -1152921504606846976≤p∧p≤1152921504606846976)
instance(s w p:Int):Decidable (og s w p):=by unfold og;infer_instance
def xY(a:Int):Prop:=1≤a∧a≤1099511627776
instance(a:Int):Decidable (xY a):=by unfold xY;infer_instance
def SG(a b:Int):Prop:=a≤b
instance(a b:Int):Decidable (SG a b):=by unfold SG;infer_instance
def s4(c:ak)(l:aA)(i:Nat):Prop:=
 xY (l.getD i ((0:Int),(c5,aZ))).1∧pK i (l.getD (i-1) ((0:Int),(c5,aZ))).1 (l.getD i ((0:Int),(c5,aZ))).1∧ ¬eR ((l.getD i ((0:Int),(c5,aZ))).2.1.length:Int) 0∧gY c (l.getD i ((0:Int),(c5,aZ))).2.1=true∧SG (l.getD i ((0:Int),(c5,aZ))).2.2.1 0∧og (l.getD i ((0:Int),(c5,aZ))).2.2.2.1 (l.getD i ((0:Int),(c5,aZ))).2.2.2.2.1 (l.getD i ((0:Int),(c5,aZ))).2.2.2.2.2.1
instance(c:ak)(l:aA):DecidablePred (s4 c l):=λi=>by unfold s4;infer_instance
def xZ(c:ak)(l:aA):Bool:=iF c&&(decide (l.length≤12)&&(decide (∀j,j<l.length→s4 c l j)&&true))
def mB(l:aA):Prop:= ∀x∈l,x.2.1.length≤100000
theorem oh{l:aA}(h:mB l)(i:Nat):(l.getD i ((0:Int),(c5,aZ))).2.1.length≤100000:=by
 by_cases hi:i<l.length
 ·rw[aY,ba hi];exact h _ (dB hi)
 ·rw[aY,eU ω];exact fk _
theorem FC(s w p:Int)(r:Option Bool):
  cond (bq s 1) (cond (!bq w 0) (some false) (cond (!bq p 0) (some false) r)) (cond (bq s 3) (cond (!bq w 0) (some false) (cond (!bq p 0) (some false) r)) (cond (bq s 2) (cond (aX w 1) (some false) (cond (aX 12 w) (some false) (cond (aX p (-1152921504606846976)) (some false) (cond (aX 1152921504606846976 p) (some false) r)))) (some false)))=
   if og s w p then r else some false:=by
 simp only[cond_not,aQ,bZ]
 by_cases h:og s w p
 ·rw[ae h];unfold og at h
  repeat' split
  all_goals first|rfl|omega
 ·rw[af h];unfold og at h
  repeat' split
  all_goals first|rfl|omega
theorem Ha{A B C D E F:Prop} [Decidable A] [Decidable B] [Decidable C] [Decidable D] [Decidable E] [Decidable F](r:Option Bool):
  (if A then(if B then(if C then(if D then(if E then(if F then r else some false)else some false)else some false)else some false)else some false)else some false)=if A∧B∧C∧D∧E∧F then r else some false:=by
 by_cases hA:A<;>by_cases hB:B<;>by_cases hC:C<;>by_cases hD:D<;>by_cases hE:E<;>by_cases hF:F<;>simp only[hA,hB,hC,hD,hE,hF,ed,cU,and_self,cT,and_false,false_and,true_and]
theorem C5{a b n f s w p:Int}{i:Nat}{o:Bool}{r:Option Bool}:
  cond (aX a 1) (some false) (cond (aX 1099511627776 a) (some false) (if pK i b a then(cond (bq n 0) (some false) (cond (!o) (some false) (cond (aX 0 f) (some false) (if og s w p then r else some false))))else some false))=
   if xY a∧pK i b a∧ ¬eR n 0∧o=true∧SG f 0∧og s w p then r else some false:=by
 rw[←Ha]
 simp only[cond_not,aQ,bZ]
 by_cases h1:xY a
 ·have jY:=h1
  unfold xY at jY
  rw[ae h1,af ω,af ω]
  by_cases h2:pK i b a
  ·rw[ae h2,ae h2]
   by_cases h3:n=0
   ·rw[ae h3,af (show ¬ ¬eR n 0 from λh=>h h3)]
   ·rw[af h3,ae (show ¬eR n 0 from h3)]
    cases o
    ·rfl
    ·rw[aa,ae rfl]
     by_cases h4:f≤0
     ·rw[ae (show SG f 0 from h4),af ω]
     ·rw[af (show ¬SG f 0 from h4),ae ω]
  ·rw[af h2,af h2]
 ·have jY:=h1
  unfold xY at jY
  rw[af h1]
  by_cases h2:a<1
  ·rw[ae h2]
  ·rw[af h2,ae ω]
theorem C6{i:Nat}{a b:Int}{r:Option Bool}(h0:0<i):cond (c4 a b) (some false) r=if pK i b a then r else some false:=by
 rw[bJ]
 by_cases h1:pK i b a
 ·rw[ae h1,af (by unfold pK at h1;omega)]
 ·rw[af h1,ae (by unfold pK at h1;omega)]
theorem FD(hN:200000≤N)(c:ak){l:aA}(hl:l.length≤100000)(hw:mB l):ns N c l=some (xZ c l):=by
 unfold ns ns.b xZ
 rw[AK N ω,al]
 cases iF c
 ·rfl
 rw[aS,ah,ir]
 by_cases K1:l.length≤12
 ·rw[aq ω,ah,bn K1,ir]
  refine eo (F:=λn i=>ns.l4 N n l c l (l.length:Int) i) (s4 c l) (λn i r hi hp hr=> ?_) (λn=> ?_) N ω
  ·unfold ns.l4 ns.dF ns.j8 ns.HH
   rw[au ω,aa,aB ω ω,aa,ar,FB N hN c (oh hw i),al,ax (x:=(i:Int)+1) ω ω,an i,hr,FC]
   refine Eq.trans ?_ C5
   by_cases h0:0<i
   ·have e:W .i64 ((i:Int)-1)=((i-1:Nat):Int):=by rw[ax ω ω];omega
    rw[au (x:=0) (y:=(i:Int)) ω,aa,e]
    dsimp only
    rw[ar,aB ω ω,aa,C6 h0]
   ·rw[aq (x:=0) (y:=(i:Int)) ω,ah,ae (show pK i (l.getD (i-1) ((0:Int),(c5,aZ))).1 (l.getD i ((0:Int),(c5,aZ))).1 from λh=>absurd h h0)]
  ·unfold ns.l4 ns.dF
   rw[aq ω,ah]
 ·rw[au ω,aa,bm K1,o4]
theorem JK(hN:200000≤N)(c:ak){l:aA}(hl:l.length≤100000)(hw:mB l):oG N c l=some (xZ c l):=by
 unfold oG oG.b xZ
 rw[xO N ω,al]
 cases iF c
 ·rfl
 rw[aS,ah,ir]
 by_cases K1:l.length≤12
 ·rw[aq ω,ah,bn K1,ir]
  refine eo (F:=λn i=>oG.l4 N n l c i) (s4 c l) (λn i r hi hp hr=> ?_) (λn=> ?_) N ω
  ·unfold oG.l4 oG.dF oG.j9 oG.PO
   rw[au ω,aa,aB ω ω,aa,ar,C3 N hN c (oh hw i),al,ax (x:=(i:Int)+1) ω ω,an i,hr,FC]
   refine Eq.trans ?_ C5
   by_cases h0:0<i
   ·have e:W .i64 ((i:Int)-1)=((i-1:Nat):Int):=by rw[ax ω ω];omega
    rw[au (x:=0) (y:=(i:Int)) ω,aa,e]
    dsimp only
    rw[ar,aB ω ω,aa,C6 h0]
   ·rw[aq (x:=0) (y:=(i:Int)) ω,ah,ae (show pK i (l.getD (i-1) ((0:Int),(c5,aZ))).1 (l.getD i ((0:Int),(c5,aZ))).1 from λh=>absurd h h0)]
  ·unfold oG.l4 oG.dF
   rw[aq ω,ah]
 ·rw[au ω,aa,bm K1,o4]
end VM
end
section
namespace VM
open Go VM.F
variable(N:Nat)
abbrev AwS:=bo×bo×aA
def FE(a:Int):Prop:=0≤a∧a<6
structure JL(t:aw):Prop where
 len:t.length≤6
 inst: ∀y∈t,FE y.1
 q: ∀y∈t,cA y.2.1∧q9 y.2.1
theorem tW{c:ak}{t:aw}(h:gY c t=true)(sZ: ∀y∈t,cA y.2.1):JL t:=by
 unfold gY at h
 obtain⟨h1,h2⟩:=gI.1 h
 have jY:=bO h1
 have h6:c.1.length≤6:=by
  unfold iF at h2
  exact(bO (gI.1 h2).1).2
 have get: ∀(i:Nat) (hi:i<t.length),t.getD i bE=t[i]:=λi hi=>by rw[aY,ba hi];rfl
 have GL: ∀i,i<t.length→jb (t.getD i bE).1 (t.getD i bE).2.1 c.1.length i (t.getD (i-1) bE).1:=jY
 have inc: ∀i,i<t.length→(i:Int)≤(t.getD i bE).1:=by
  intro i
  induction i with
  |zero=>intro hi;exact(GL 0 hi).1
  |succ i ih=>
   intro hi
   have a:=ih ω
   have b:=(GL (i+1) hi).2.2.2.2 ω
   rw[Nat.add_sub_cancel]at b
   have g: ∀x y:Int,(i:Int)≤x→x<y→((i+1:Nat):Int)≤y:=λx y _ _=>ω
   exact g _ _ a b
 refine⟨?_,λy hy=> ?_,λy hy=> ?_⟩
 ·by_cases h0:t.length=0
  ·omega
  ·have a:=inc (t.length-1) ω
   have b:=(GL (t.length-1) ω).2.1
   have g: ∀x:Int,((t.length-1:Nat):Int)≤x→x<(c.1.length:Int)→t.length≤6:=λx _ _=>ω
   exact g _ a b
 ·obtain⟨i,hi,e⟩:=mc hy
  have:=GL i hi
  rw[get i hi,e]at this
  have g: ∀x:Int,0≤x→x<(c.1.length:Int)→FE x:=λx _ _=>by unfold FE;omega
  exact g _ this.1 this.2.1
 ·obtain⟨i,hi,e⟩:=mc hy
  have:=GL i hi
  rw[get i hi,e]at this
  exact⟨sZ y hy,this.2.2.2.1⟩
structure NY(z:AwS)(i:Nat):Prop where
 place: ∀x∈z.1,dD x.1 x.2.1
 q: ∀x∈z.1,cA (vE x)∧q9 (vE x)
 len:z.1.length≤12*i
 flat: ∀a:Int,(lE a z.1).sum=0
 key: ∀x∈z.2.1,kj x.1 x.2.1
 qe: ∀x∈z.2.1,cA (vE x)
 adB:z.2.1.length≤2*i
 zero:(z.2.1.map vE).sum=0
 out:z.2.2.length=i
theorem NY.nil:NY ([],[],[]) 0:=⟨λx hx=>(nomatch hx),λx hx=>(nomatch hx),aH _,λa=>rfl,λx hx=>(nomatch hx),λx hx=>(nomatch hx),aH _,rfl,rfl⟩
theorem AP{c:ak}{b:bf}(h:iZ c b=true):j1 b.2.2.1=true∧e8 b.2.2.2.1=true:=by
 unfold iZ at h
 have h1:=(gI.1 (gI.1 h).2).2
 have h2:=gI.1 h1
 have h3:=(gI.1 (gI.1 h2.2).2).1
 refine⟨h2.1,?_⟩
 unfold ri at h3
 exact(gI.1 h3).2
end VM
end
section
namespace VM
open Go VM.F
variable(N:Nat)
theorem eK(x:Int):bq x x=true:=bD rfl
theorem JM(x:mO):mg (.pair (.int .i64) (.pair (.int .i64) .unit)) x x=true:=by
 show(bq x.1 x.1&&(bq x.2.1 x.2.1&&true))=true
 rw[eK,eK];rfl
theorem qf{F:Nat→Int→Option Bool}{len:Nat}(hs: ∀n (i:Nat),i<len→F n ((i+1:Nat):Int)=some true→F (n+1) (i:Int)=some true)(he: ∀n,F (n+1) (len:Int)=some true): ∀(m n i:Nat),len-i≤m→m<n→i≤len→F n (i:Int)=some true
 |m,0,i,_,hn,_=>ω
 |m,n+1,i,hm,hn,hi=>by
  by_cases h:i<len
  ·exact hs n i h (qf hs he (m-1) n (i+1) ω ω ω)
  ·have:i=len:=ω
   subst this;exact he n
theorem Mi(K:kM.bK)(l:aA)(i:Nat)(hi:i≤100000)(x:dt)(hx:x.2.1.length≤100000)(hN:200000≤N)(hK:K l l ((i+1:Nat):Int)=some true):kM.NZ N K N l l (i:Int) x x 0=some true:=by
 refine qf (F:=λn j=>kM.NZ N K n l l (i:Int) x x j) (len:=x.2.1.length) (λn j hj hr=> ?_) (λn=> ?_) x.2.1.length N 0 ω ω ω
 ·unfold kM.NZ kM.Mj
  rw[au ω,aa,aB ω ω,aa,aa,JM,aS,ah,ax (x:=(j:Int)+1) ω ω,an j]
  exact hr
 ·unfold kM.NZ kM.Mj
  rw[aq ω,ah,ax (x:=(i:Int)+1) ω ω,an i,hK]
theorem u7{l:aA}(hl:l.length≤100000)(hw:mB l)(hN:200000≤N):kM N l l=some true:=by
 unfold kM kM.b
 rw[eK,aS,ah]
 refine qf (F:=λn i=>kM.l4 N n l l i) (len:=l.length) (λn i hi hr=> ?_) (λn=> ?_) l.length N 0 ω ω ω
 ·unfold kM.l4 kM.dF
  rw[au ω,aa,aB ω ω,aa,aa,eK,aS,ah,eK,aS,ah,eK,aS,ah,eK,aS,ah,eK,aS,ah,eK,aS,ah]
  exact Mi N _ l i ω _ (oh hw i) hN hr
 ·unfold kM.l4 kM.dF
  rw[aq ω,ah]
end VM
end
section
namespace VM
open Go VM.F Go.RowKit
variable(N:Nat)
theorem Mk{l:bo}(h: ∀i,i<l.length→cA (vE (l.getD i cH))):iS l:=λx hx=>by
 obtain⟨i,hi,e⟩:=mc hx
 have:=h i hi
 rw[aY,ba hi]at this
 rw[←e];exact this
theorem FF{x:Int}(h:(Lit.int .i64 x).wf=true):cA x:=by
 have:=wf_i64.1 h
 unfold cA;omega
theorem JN{l:bo}(h:WF (.slice JO) l):iS l:=λx hx=>by
 obtain⟨i,hi,rfl⟩:=mc hx
 have h3:=h.2 i hi
 exact FF h3.2.2.1
namespace Pure
end Pure
end VM
end
section
namespace VM
open Go VM.F
variable(N:Nat)
def iK(a:Int):bo→aw
 |[]=>[]
 |x::t=>if x.1=a then(x.2.1,(x.2.2.1,()))::iK a t else iK a t
theorem mC(a:Int)(x:CT)(t:bo):iK a (x::t)=if x.1=a then(x.2.1,(x.2.2.1,()))::iK a t else iK a t:=rfl
def posOf(l:bo)(a:Int):aw:=if e8 l then iK a l else []
theorem lF{a:Int}{y:mO}: ∀{l:bo},y∈iK a l→ ∃x∈l,x.1=a∧y=(x.2.1,(x.2.2.1,()))
 |[],h=>nomatch h
 |x::t,h=>by
  rw[mC]at h
  by_cases e:x.1=a
  ·rw[ae e]at h
   rcases bu.1 h with h|h
   ·exact⟨x,bl ..,e,h⟩
   ·obtain⟨x',hx,h'⟩:=lF h
    exact⟨x',aR _ hx,h'⟩
  ·rw[af e]at h
   obtain⟨x',hx,h'⟩:=lF h
   exact⟨x',aR _ hx,h'⟩
theorem JP{l:bo}(h:iS l)(a:Int): ∀y∈posOf l a,cA y.2.1:=λy hy=>by
 unfold posOf at hy
 split at hy
 ·obtain⟨x,hx,_,rfl⟩:=lF hy
  exact h x hx
 ·nomatch hy
theorem Uk{l:bo}(hl:l.length≤100000)(hN:200000≤N)(a:Int):u9 N l a=some (posOf l a):=by
 unfold u9 u9.b posOf
 rw[xQ N hl hN,al,cond_not]
 have:=n0 l cH (λn i s=>u9.l5 N n a s l (l.length:Int) i) (λt s=>some (s++iK a t)) (λi (s:aw)=>s.length≤i) (λn i s hi hI hr=> ?_) (λn s hI=> ?_) l.length N 0 [] ω ω ω (aH _)
 ·have e:u9.l5 N N a [] l (l.length:Int) 0=some (iK a l):=this
  rw[e];cases e8 l<;>rfl
 ·unfold u9.l5 u9.mP
  rw[au ω,aa,aB ω ω,aa,ar,ax (x:=(i:Int)+1) ω ω,an i,aQ,bp (by rw[a6];omega),aa,mC]
  split
  ·rw[hr _ (by rw[aO,a6];omega),bs];rfl
  ·exact hr s ω
 ·unfold u9.l5 u9.mP
  rw[aq ω,ah]
  show some s=some (s++[])
  rw[cy]
theorem PW{l:bo}(hl:l.length≤100000)(hN:200000≤N)(a:Int):vb N l a=some (posOf l a):=by
 unfold vb vb.b posOf
 rw[tP N hl hN,al,cond_not]
 have:=n0 l cH (λn i s=>vb.l5 N n l a s i) (λt s=>some (s++iK a t)) (λi (s:aw)=>s.length≤i) (λn i s hi hI hr=> ?_) (λn s hI=> ?_) l.length N 0 [] ω ω ω (aH _)
 ·have e:vb.l5 N N l a [] 0=some (iK a l):=this
  rw[e];cases e8 l<;>rfl
 ·unfold vb.l5 vb.mP
  rw[au ω,aa,aB ω ω,aa,aa,aa,ar,ax (x:=(i:Int)+1) ω ω,an i,aQ,bp (by rw[a6];omega),aa,mC]
  split
  ·rw[hr _ (by rw[aO,a6];omega),bs];rfl
  ·exact hr s ω
 ·unfold vb.l5 vb.mP
  rw[aq ω,ah]
  show some s=some (s++[])
  rw[cy]
def jc(c:ak)(y:mO):Int:=(c.1.getD y.1.toNat aZ).2.2.2.1
def zR(c:ak)(l:aw):List Int:=l.map λy=>(y.2.1.natAbs:Int)*jc c y
def dA(c:ak)(l:aw):Int:=if gY c l then(zR c l).sum else 0
def s5(c:ak)(l:aw):Int:=if gY c l then 0 else 1
def s6(a n:Int):Prop:=0≤a∧a<n
structure PX(c:ak)(y:mO):Prop where
 place:s6 y.1 c.1.length
 size:(y.2.1.natAbs:Int)≤9223372036854775807
 q:cA y.2.1
 Ml:0≤jc c y∧jc c y≤1000000000
theorem wb{c:ak}{t:aw}(h:gY c t=true)(sZ: ∀y∈t,cA y.2.1): ∀y∈t,PX c y:=λy hy=>by
 unfold gY at h
 obtain⟨h1,h2⟩:=gI.1 h
 obtain⟨i,hi,e⟩:=mc hy
 have a:=bO h1 i hi
 unfold iJ jb at a
 rw[aY,ba hi]at a
 simp only[oV,e]at a
 have hp:s6 y.1 c.1.length:=⟨a.1,a.2.1⟩
 have c6:y.1.toNat<c.1.length:=by
  have g: ∀x:Int,s6 x c.1.length→x.toNat<c.1.length:=λx hx=>by unfold s6 at hx;omega
  exact g _ hp
 have hq:=sZ y hy
 refine⟨hp,?_,hq,?_⟩
 ·have g: ∀x:Int,cA x→q9 x→(x.natAbs:Int)≤9223372036854775807:=λx h1 h2=>by unfold cA at h1;unfold q9 at h2;omega
  exact g _ hq a.2.2.2.1
 ·unfold iF at h2
  have b:=bO (gI.1 (gI.1 h2).2).1 _ c6
  exact b.2.2.2
theorem ya{c:ak}{y:mO}(h:PX c y):0≤(y.2.1.natAbs:Int)*jc c y∧(y.2.1.natAbs:Int)*jc c y≤9223372036854775807000000000:=by
 have:=mul_lt (a:=(y.2.1.natAbs:Int)) (b:=jc c y) (m:=9223372036854775807) (n:=1000000000) ω h.Ml.1 h.size h.Ml.2
 exact⟨this.1,by have:=this.2;omega⟩
theorem FG{B:Int}(hB:0≤B): ∀{ws:List Int},(∀x∈ws,0≤x∧x≤B)→0≤ws.sum∧ws.sum≤B*(ws.length:Int)
 |[],_=>by simp
 |x::t,h=>by
  have h0:=h x (bl ..)
  have ih:=FG hB (ws:=t) (λy hy=>h y (aR _ hy))
  rw[eV,aG]
  have e:B*((t.length+1:Nat):Int)=B*(t.length:Int)+B:=by rw[oY,eG];simp
  rw[e]
  omega
theorem Hb{c:ak}{t:aw}(h: ∀y∈t,PX c y): ∀x∈zR c t,0≤x∧x≤9223372036854775807000000000:=λx hx=>by
 obtain⟨y,hy,rfl⟩:=cN.1 hx
 exact ya (h y hy)
theorem rj{c:ak}{t:aw}(sZ: ∀y∈t,cA y.2.1):0≤dA c t∧dA c t≤92233720368547758070000000000:=by
 unfold dA
 by_cases h:gY c t=true
 ·rw[ae h]
  have hg:=(tW h sZ).len
  have:=FG ω (Hb (wb h sZ))
  have hl:(zR c t).length=t.length:=iq ..
  rw[hl]at this
  omega
 ·rw[af h];omega
theorem EC{x:Int}(h:0≤x∧x≤92233720368547758070000000000):cB x:=by unfold cB;omega
theorem Mm(hN:2000000≤N)(c:ak){t:aw}(hl:t.length≤100000)(sZ: ∀y∈t,cA y.2.1):WN N c t=some (bA (dA c t),s5 c t):=by
 have E4:=rj (c:=c) sZ
 unfold WN vI vI.b
 rw[FB N ω c hl,al,cond_not]
 unfold dA s5 at*
 by_cases h:gY c t=true
 ·have hC:=wb h sZ
  rw[h,ae rfl]at E4
  rw[h,aa,ae rfl,ae rfl]
  have:=n0 t bE (λn i ws=>vI.l5 N n () c bE (ws.map bA) t (t.length:Int) i) (λu ws=>some ((CQ (ws++zR c u).sum).1,(0:Int))) (λi (ws:List Int)=>ws.length≤i∧ ∀x∈ws,cB x)
   (λn i ws hi hI hr=> ?_) (λn ws hI=> ?_) t.length N 0 [] ω ω ω ⟨aH _,λx hx=>nomatch hx⟩
  ·have e:vI.l5 N N () c bE [] t (t.length:Int) 0=some ((CQ (zR c t).sum).1,(0:Int)):=this
   rw[e]
   unfold CQ
   rw[ae (EC E4)];rfl
  ·unfold vI.l5 vI.mP Yw
   have hm:t.getD i bE∈t:=by
    rw[aY,ba hi];exact dB hi
   have hy:=hC _ hm
   have h1:=ya hy
   have hq:=hy.q
   unfold cA at hq
   have hp:=hy.place
   have hs:=hy.size
   have Mn:=hy.Ml
   unfold jc at Mn
   rw[au ω,aa,aB ω ω,aa,ar,sS N hq.1 hq.2,al,aB hp.1 hp.2,aa,al,ax (x:=((t.getD i bE).2.1.natAbs:Int)) ω ω,AI N ω ω (o6 δ Mn.1) (wD Mn.2 δ),al,bp (by rw[iq,a6];omega),aa,ax (x:=(i:Int)+1) ω ω,an i]
   have:=hr (ws++[((t.getD i bE).2.1.natAbs:Int)*jc c (t.getD i bE)]) ⟨by rw[aO,a6];omega,xX hI.2 (EC ⟨h1.1,ω⟩)⟩
   rw[dv]at this
   refine this.trans ?_
   rw[bs];rfl
  ·unfold vI.l5 vI.mP
   rw[aq ω,ah,Fv N hI.2 ω ω,al]
   show _=some ((CQ (ws++[]).sum).1,(0:Int))
   rw[cy]
 ·rw[fQ]at h
  rw[h,ah];rfl
theorem JQ(hN:4000000≤N)(c:ak){t:aw}(hl:t.length≤100000)(sZ: ∀y∈t,cA y.2.1):WO N c t=some (bz (dA c t),s5 c t):=by
 unfold WO wc wc.b
 rw[C3 N ω c hl,al,cond_not]
 unfold dA s5
 by_cases h:gY c t=true
 ·have hC:=wb h sZ
  have hg:=(tW h sZ).len
  rw[h,ae rfl,aa,ae rfl]
  have:=n0 t bE (λn i ws=>wc.l5 N n t true c (bz 0) (bz ws.sum) i) (λu ws=>some (bz (ws++zR c u).sum,(0:Int))) (λi (ws:List Int)=>ws.length≤i∧ ∀x∈ws,cB x)
   (λn i ws hi hI hr=> ?_) (λn ws hI=> ?_) t.length N 0 [] ω ω ω ⟨aH _,λx hx=>nomatch hx⟩
  ·rw[show((0:Nat):Int)=0 from rfl,bX,jy,eP]at this
   rw[this];rfl
  ·unfold wc.l5 wc.mP
   have hm:t.getD i bE∈t:=by
    rw[aY,ba hi];exact dB hi
   have hy:=hC _ hm
   have h1:=ya hy
   have hq:=hy.q
   unfold cA at hq
   have hp:=hy.place
   have hs:=hy.size
   have Mn:=hy.Ml
   have hb:=Jr hI.2
   have BS:=Fit.i64 hq.1 hq.2
   have O5:Fit ((t.getD i bE).2.1.natAbs:Int) 2:=Fit.i64 ω ω
   have Ix:Fit (jc c (t.getD i bE)) 2:=Fit.i64 (o6 δ Mn.1) (wD Mn.2 δ)
   unfold jc at Mn Ix
   have Mo:cB (((t.getD i bE).2.1.natAbs:Int)*jc c (t.getD i bE)):=EC ⟨h1.1,ω⟩
   rw[au ω,aa,aB ω ω,aa,ar,aB hp.1 hp.2,aa,aa,aa,aa,aa,eJ N ω hq.1 hq.2,al,CL N ω (BS.mono ω),al,eJ N ω (o6 δ Mn.1) (wD Mn.2 δ),al,xL N ω (O5.mono ω) (Ix.mono ω),al]
   have Gh:DZ N (bz ws.sum) (bz (((t.getD i bE).2.1.natAbs:Int)*(c.1.getD (t.getD i bE).1.toNat aZ).2.2.2.1))=some (bz (ws.sum+((t.getD i bE).2.1.natAbs:Int)*jc c (t.getD i bE))):=iE N ω (JJ (n:=ws.length) ω hb.1 hb.2) (s3 Mo)
   rw[Gh,al,ax (x:=(i:Int)+1) ω ω,an i]
   have:=hr (ws++[((t.getD i bE).2.1.natAbs:Int)*jc c (t.getD i bE)]) ⟨by rw[aO,a6];omega,xX hI.2 Mo⟩
   rw[oZ,eV,jy,o7,bs]at this
   exact this
  ·unfold wc.l5 wc.mP
   rw[aq ω,ah]
   show _=some (bz (ws++[]).sum,(0:Int))
   rw[cy]
 ·rw[fQ]at h
  rw[h,ah,←eP];rfl
theorem vd{a:Int}: ∀{l:bo},Srt (l.map keyOf)→((iK a l).map (λy=>(y.1:Int))).Pairwise (· < ·)
 |[],_=>List.Pairwise.nil
 |x::t,h=>by
  obtain⟨h1,h2⟩:=mf.1 h
  have ih:=vd (a:=a) h2
  rw[mC]
  by_cases e:x.1=a
  ·rw[ae e,bQ]
   refine mf.2 ⟨λz hz=> ?_,ih⟩
   obtain⟨y,hy,rfl⟩:=cN.1 hz
   obtain⟨x',hx,e',rfl⟩:=lF hy
   have hk:=h1 (keyOf x') (mb hx)
   have g: ∀p q r s:Int,p=a→r=a→iR p q r s→q<s:=λp q r s h1 h2 h=>by unfold iR at h;omega
   exact g _ _ _ _ e e' hk
  ·rw[af e];exact ih
end VM
end
section
namespace VM
open Go VM.F
variable(N:Nat)
end VM
end
section
namespace VM
open Go VM.F
variable(N:Nat)
end VM
end
section
namespace VM
open Go VM.F
variable(N:Nat)
theorem Mp{u v:Int}(hu:cB u)(hv:cB v)(hs:cB (u+v)):WQ N (bA u) (bA v)=some (bA (u+v),true):=by
 unfold WQ bA
 unfold cB at*
 dsimp only
 have hp:0≤u%18446744073709551616∧u%18446744073709551616<18446744073709551616:=ω
 have hq:0≤v%18446744073709551616∧v%18446744073709551616<18446744073709551616:=ω
 rw[iD,iD,nn N ω ω ω ω,al]
 dsimp only
 have hc:0≤(u%18446744073709551616+v%18446744073709551616+0)/18446744073709551616∧(u%18446744073709551616+v%18446744073709551616+0)/18446744073709551616≤1:=ω
 have e1:(u%18446744073709551616+v%18446744073709551616+0)%18446744073709551616=(u+v)%18446744073709551616:=ω
 have e2:u/18446744073709551616+v/18446744073709551616+(u%18446744073709551616+v%18446744073709551616+0)/18446744073709551616=(u+v)/18446744073709551616:=ω
 have h3: -9223372036854775808≤(u+v)/18446744073709551616∧(u+v)/18446744073709551616<9223372036854775808:=ω
 rw[nn N ω ω hc.1 hc.2,al]
 dsimp only
 have e3:W .i64 ((u/18446744073709551616%18446744073709551616+v/18446744073709551616%18446744073709551616+(u%18446744073709551616+v%18446744073709551616+0)/18446744073709551616)%18446744073709551616)=(u+v)/18446744073709551616:=by
  rw[ej];split<;>omega
 rw[e3,e1]
 have key: ∀A B C:Int,A=u/18446744073709551616→B=v/18446744073709551616→C=(u+v)/18446744073709551616→(A<0∧B<0→C<0)∧(¬A<0∧ ¬B<0→ ¬C<0):=λA B C _ _ _=>ω
 have k:=key _ _ _ rfl rfl rfl
 simp only[pI,nA]
 by_cases a:u/18446744073709551616<0<;>by_cases b:v/18446744073709551616<0
 ·have c:=k.1 ⟨a,b⟩
  rw[bn a,bn b,bn c];rfl
 ·rw[bn a,bm b];rfl
 ·rw[bm a,bn b];rfl
 ·have c:=k.2 ⟨a,b⟩
  rw[bm a,bm b,bm c];rfl
end VM
end
section
namespace VM
open Go VM.F
variable(N:Nat)
end VM
end
section
namespace VM
open Go VM.F
variable(N:Nat)
def we(l:List Int)(k:Int):Int:=l.getD k.toNat 0
def ins(l:List Int):List Int→Int→List Int
 |[],i=>[i]
 |k::t,i=>if we l i≤we l k then k::ins l t i else i::k::t
def cj(l:List Int):Nat→List Int
 |0=>[]
 |n+1=>ins l (cj l n) n
def kb(l:List Int):List Int:=cj l l.length
def qM(l:List Int)(a b:Int):Prop:=we l b<we l a∨(we l b=we l a∧a<b)
theorem FH(l:List Int): ∀(o:List Int) (i:Int),(ins l o i).length=o.length+1
 |[],i=>rfl
 |k::t,i=>by unfold ins;split<;>simp[FH l t i]
theorem hO(l:List Int): ∀n,(cj l n).length=n
 |0=>rfl
 |n+1=>by unfold cj;rw[FH,hO l n]
theorem oi(l:List Int):(kb l).length=l.length:=hO l _
theorem AQ(l:List Int){x:Int}: ∀{o:List Int} {i:Int},x∈ins l o i↔x=i∨x∈o
 |[],i=>by simp[ins]
 |k::t,i=>by
  unfold ins;split
  ·rw[bu,AQ l,bu]
   exact⟨λh=>h.elim (λh=> .inr (.inl h)) (λh=>h.elim .inl (λh=> .inr (.inr h))),λh=>h.elim (λh=> .inr (.inl h)) (λh=>h.elim .inl (λh=> .inr (.inr h)))⟩
  ·rw[bu]
theorem mD(l:List Int){x:Int}: ∀{n:Nat},x∈cj l n↔0≤x∧x<n
 |0=>⟨(λh=>nomatch h),λh=>absurd h.1 ω⟩
 |n+1=>by unfold cj;rw[AQ,mD l];omega
theorem s7(l:List Int): ∀{o:List Int} {i:Int},o.Pairwise (qM l)→(∀x∈o,x<i)→(ins l o i).Pairwise (qM l)
 |[],i,_,_=>Bv _ _
 |k::t,i,h,hi=>by
  rw[mf]at h
  have hk:k<i:=hi k (bl ..)
  unfold ins;split
  ·rename_i hle
   rw[mf]
   refine⟨λx hx=> ?_,s7 l h.2 (λx hx=>hi x (aR _ hx))⟩
   rcases(AQ l).1 hx with rfl|hx
   ·unfold qM;omega
   ·exact h.1 x hx
  ·rename_i hle
   rw[mf,mf]
   refine⟨λx hx=> ?_,h.1,h.2⟩
   rcases bu.1 hx with rfl|hx
   ·unfold qM;omega
   ·have:=h.1 x hx;unfold qM at*;omega
theorem jd(l:List Int): ∀n,(cj l n).Pairwise (qM l)
 |0=>List.Pairwise.nil
 |n+1=>by unfold cj;exact s7 l (jd l n) (λx hx=>((mD l).1 hx).2)
theorem ED(l:List Int): ∀(o:List Int) (i:Int) (p:Nat),p≤o.length→(∀j,j<p→we l i≤we l (o.getD j 0))→(p<o.length→we l (o.getD p 0)<we l i)→ins l o i=o.take p++i::o.drop p
 |[],i,p,hp,_,_=>by simp at hp;subst hp;rfl
 |k::t,i,0,hp,_,h=>by
  unfold ins;rw[af (by have:=h (by simp);simp at this;omega)];rfl
 |k::t,i,p+1,hp,h0,h=>by
  unfold ins
  have h1:we l i≤we l k:=h0 0 ω
  rw[ae h1,ED l t i p (by simpa using hp) (λj hj=>by have:=h0 (j+1) ω;simpa using this) (λyF=>by have:=h (by simpa using yF);simpa using this)]
  rfl
theorem s8{o:List Int}{j:Nat}(h:j<o.length):o.getD j 0∈o:=by
 rw[aY,ba h];exact dB h
theorem JR{l o:List Int}(h:o.Pairwise (qM l)){j k:Nat}(Yn:j<k)(hk:k<o.length):qM l (o.getD j 0) (o.getD k 0):=by
 rw[Br]at h
 rw[aY,ba ω,aY,ba hk]
 exact h j k ω hk Yn
theorem yb{l:List Int}{n j:Nat}(h:j<n):0≤(cj l n).getD j 0∧(cj l n).getD j 0<n:=by
 exact(mD l).1 (s8 (by rw[hO];exact h))
theorem yc{α:Type}(N:Nat){l:List α}{i:Nat}{x:α}(hi:i≤l.length)(hl:l.length<1000000):nF N l (i:Int) [x]=some (l.take i++x::l.drop i):=by
 unfold nF
 rw[ae ⟨ω,ω,rfl,by unfold sh;omega⟩]
 rfl
theorem C7(N:Nat)(K:List Int→List Int→Int→Int→Option (List Int)){l:List Int}(hl:l.length≤100000)(i:Nat)(hi:i<l.length): ∀(p n:Nat),p≤i→p<n→(∀j,p≤j→j<i→we l ((cj l i).getD j 0)<we l i)→
  eu.l6 N K n l (cj l i) (i:Int) (p:Int) (l.length:Int) (i:Int)=K l (cj l (i+1)) (l.length:Int) ((i+1:Nat):Int)
 |p,0,_,hn,_=>ω
 |p,n+1,hp,hn,h=>by
  have hlen:=hO l i
  have fin: ∀h2:(∀j,j<p→we l i≤we l ((cj l i).getD j 0)),ins l (cj l i) i=(cj l i).take p++(i:Int)::(cj l i).drop p:=λh2=>ED l _ _ p ω h2 (λh3=>h p ω ω)
  unfold eu.l6 eu.y7
  match p,hp,hn,h,fin with
  |0,hp,hn,h,fin=>
   have e:=fin (λj hj=>ω)
   rw[aq ω,ah,yc N ω ω,al,←e,ax ω ω]
   rfl
  |p+1,hp,hn,h,fin=>
   have hr:=yb (l:=l) (n:=i) (j:=p) ω
   have e1:W .i64 (((p+1:Nat):Int)-1)=(p:Int):=by rw[ax ω ω];omega
   have vy:=C7 N K hl i hi p n ω ω
   dsimp only
   rw[e1,ar]
   unfold we at*
   rw[ar]at*
   rw[au ω,aa,aB ω ω,aa,aB ω ω,aa,aB ω ω,aa]
   by_cases h3:l.getD ((cj l i).getD p 0).toNat 0<l.getD i 0
   ·rw[au h3,aa]
    exact vy (λj h4 h5=>by
     by_cases Ul:j=p
     ·rw[Ul];exact h3
     ·exact h j ω h5)
   ·rw[aq ω,ah,yc N ω ω,al,ax ω ω]
    rw[←fin (λj hj=>by
     by_cases Ul:j=p
     ·rw[Ul];omega
     ·have:=JR (jd l i) (j:=j) (k:=p) ω ω
      unfold qM we at this;omega)]
    rfl
theorem zS(N:Nat){l:List Int}(hl:l.length≤100000)(hN:l.length<N): ∀(m n i:Nat),l.length-i≤m→m<n→i≤l.length→
  eu.l3 N n l (cj l i) (l.length:Int) (i:Int)=some (kb l)
 |m,0,i,_,hn,_=>ω
 |m,n+1,i,hm,hn,hi=>by
  unfold eu.l3 eu.qJ
  by_cases h:i<l.length
  ·rw[au ω,aa,hO,C7 N _ hl i h i N ω ω (λj _ _=>ω)]
   exact zS N hl hN (m-1) n (i+1) ω ω ω
  ·rw[aq ω,ah]
   unfold PY
   rw[bS ω ω ω ω,aa,al]
   simp only[bP,bX,ar,fR]
   rw[show i=l.length by omega];rfl
theorem JS{l:List Int}(hl:l.length≤100000)(hN:l.length<N):eu N l=some (kb l):=by
 unfold eu eu.b
 rw[bw ω ω ω,aa]
 exact zS N hl hN l.length N 0 ω ω ω
theorem zT(N:Nat)(K:List Int→List Int→Int→Option (List Int)){l:List Int}(hl:l.length≤100000)(i:Nat)(hi:i<l.length): ∀(m n p:Nat),i-p≤m→m<n→p≤i→(∀j,j<p→we l i≤we l ((cj l i).getD j 0))→
  dd.l6 N K n l (cj l i) (i:Int) (p:Int)=K l (cj l (i+1)) ((i+1:Nat):Int)
 |m,0,p,_,hn,_,_=>ω
 |m,n+1,p,hm,hn,hp,h=>by
  have hlen:=hO l i
  have fin: ∀h2:(p<i→we l ((cj l i).getD p 0)<we l i),dd.j8 N K l (cj l i) (i:Int) (p:Int)=K l (cj l (i+1)) ((i+1:Nat):Int):=λh2=>by
   have e:=ED l (cj l i) i p ω h (λh3=>h2 ω)
   unfold dd.j8 dd.HH
   dsimp only
   rw[bS ω ω ω ω,aa,ar,ar,bP,bX]
   rw[bp (by rw[a7];omega),aa,bp (by rw[a7];simp only[a6];omega),aa,bS ω ω ω ω,aa,bp (by simp only[aO,a7,dn,a6];omega),aa,ax ω ω,fR,bs,List.singleton_append,←e]
   rfl
  unfold dd.l6 dd.y7
  by_cases Sp:p<i
  ·have hr:=yb (l:=l) (n:=i) (j:=p) Sp
   rw[au ω,aa,aB ω ω,aa,ar,ar,aB ω ω,aa,aB ω ω,aa]
   by_cases h3:l.getD i 0≤l.getD ((cj l i).getD p 0).toNat 0
   ·rw[cq h3,aa,ax ω ω]
    refine zT N K hl i hi (m-1) n (p+1) ω ω ω (λj hj=> ?_)
    by_cases Ul:j=p
    ·rw[Ul];unfold we;rw[ar];exact h3
    ·exact h j ω
   ·rw[cf ω,ah]
    exact fin (λ_=>by unfold we;rw[ar];omega)
  ·rw[aq ω,ah]
   exact fin (λh=>absurd h Sp)
theorem yd(N:Nat){l:List Int}(hl:l.length≤100000)(hN:l.length<N): ∀(m n i:Nat),l.length-i≤m→m<n→i≤l.length→
  dd.l3 N n l (cj l i) (i:Int)=some (kb l)
 |m,0,i,_,hn,_=>ω
 |m,n+1,i,hm,hn,hi=>by
  unfold dd.l3 dd.qJ
  by_cases h:i<l.length
  ·have:=zT N (dd.l3 N n) hl i h i N 0 ω ω ω (λj hj=>ω)
   rw[au ω,aa]
   refine Eq.trans this ?_
   exact yd N hl hN (m-1) n (i+1) ω ω ω
  ·rw[aq ω,ah,show i=l.length by omega];rfl
theorem Hc{l:List Int}(hl:l.length≤100000)(hN:l.length<N):dd N l=some (kb l):=by
 unfold dd dd.b
 exact yd N hl hN l.length N 0 ω ω ω
end VM
end
