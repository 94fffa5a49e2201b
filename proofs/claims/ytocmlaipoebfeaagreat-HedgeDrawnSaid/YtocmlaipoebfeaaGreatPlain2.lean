/- A part of the proof of HedgeDrawn of layer 22: what the functions compute, in plain words. -/
import Derived.Test.YtocmlaipoebfeaaGreatPlain1
set_option linter.all false
section
namespace VM
open Go VM.F
def eC(r:bY):Int:=r.2.2.1
def aB(x:Int):Prop:= -9223372036854775808≤x∧x<9223372036854775808
def dC(l:aj):Prop:= ∀x∈l,aB (eC x)
theorem uK{l:aj}(h:dC l)(i:Nat):aB (eC (l.getD i aM)):=by
 by_cases hi:i<l.length
 ·rw[ayC,ayG hi];exact h _ (ay5 hi)
 ·rw[ayC,azc (by omega)];exact⟨by decide,by decide⟩
theorem HY{ws:List Int}(h: ∀x∈ws,aB x): -(9223372036854775808*(ws.length:Int))≤ws.sum∧ws.sum≤9223372036854775808*(ws.length:Int):=Nm ws h
theorem DI{ws:List Int}(h: ∀x∈ws,aB x)(hl:ws.length≤1000000):bB ws.sum:=by
 have:=HY h
 unfold bB;omega
theorem OY{ws:List Int}(h: ∀x∈ws,aB x): ∀x∈ws,bB x:=fun x hx=>by
 have:=h x hx
 unfold aB at this;unfold bB;omega
theorem Fl(N:Nat){ws:List Int}(h: ∀x∈ws,aB x)(hl:ws.length≤1000000)(hN:1000000<N):jK N (ws.map bl)=some (bl ws.sum,true):=by
 rw[zI N (OY h) hl hN]
 unfold HT
 rw[ayF (DI h hl)]
def kg(l:aj):Int:=if fb l then(l.map eC).sum else 0
theorem Ln(N:Nat){l:aj}(hq:dC l)(hl:l.length≤100000)(hN:2000000≤N):yq.l5 N N bL [] l (l.length:Int) 0=some (bl (l.map eC).sum):=by
 have:=kK l aM (fun n i ws=>yq.l5 N n bL (ws.map bl) l (l.length:Int) i) (fun t ws=>some (bl (ws++t.map eC).sum)) (fun i (ws:List Int)=>ws.length=i∧ ∀x∈ws,aB x)
  (fun n i ws hi hI hr=> ?_) (fun n ws hI=> ?_) l.length N 0 [] (by omega) (by omega) (by omega) ⟨rfl,fun x hx=>nomatch hx⟩
 ·simpa using this
 ·unfold yq.l5 yq.c7
  have jy:=uK hq i
  have fy:=jy
  unfold aB eC at fy
  rw[aE (by omega),ayz,aF (by omega) (by omega),ayz,ayD,mL N fy.1 fy.2,ayy,a8 (by rw[ay1,ayA];omega),ayz,ak (by omega) (by omega),ae]
  have:=hr (ws++[eC (l.getD i aM)]) ⟨by rw[ayH,hI.1];rfl,fun x hx=>by
   rcases ayU.1 hx with hx|hx
   ·exact hI.2 x hx
   ·rw[ay0.1 hx];exact jy⟩
  rw[aze]at this
  refine this.trans ?_
  rw[ay6,ayP];rfl
 ·unfold yq.l5 yq.c7
  rw[az (by omega),ayB,Fl N hI.2 (by omega) (by omega),ayy,az2,ay2]
theorem RG(N:Nat){l:aj}(hq:dC l)(hl:l.length≤100000)(hN:2000000≤N):yq N l=some (bl (kg l)):=by
 unfold yq yq.b kg
 rw[zK N hl (by omega),ayy,cond_not,Ln N hq hl hN]
 cases fb l<;>rfl
theorem HZ(N:Nat){l:aj}(hq:dC l)(hl:l.length≤100000)(hN:4000000≤N):me.l5 N N l (br 0) (br 0) 0=some (br (l.map eC).sum):=by
 have:=kK l aM (fun n i ws=>me.l5 N n l (br 0) (br ws.sum) i) (fun t ws=>some (br (ws++t.map eC).sum)) (fun i (ws:List Int)=>ws.length=i∧ ∀x∈ws,aB x)
  (fun n i ws hi hI hr=> ?_) (fun n ws hI=> ?_) l.length N 0 [] (by omega) (by omega) (by omega) ⟨rfl,fun x hx=>nomatch hx⟩
 ·simpa using this
 ·unfold me.l5 me.c7
  have jy:=uK hq i
  have fy:=jy
  unfold aB eC at fy
  have hb:=HY hI.2
  rw[hI.1]at hb
  rw[aE (by omega),ayz,aF (by omega) (by omega),ayz,ayD,cn N (by omega) fy.1 fy.2,ayy,eM N (by omega) ((vI (n:=i) (by omega) hb.1 hb.2).mono (by omega)) ((Fit.i64 fy.1 fy.2).mono (by omega)),ayy,ak (by omega) (by omega),ae]
  have:=hr (ws++[eC (l.getD i aM)]) ⟨by rw[ayH,hI.1];rfl,fun x hx=>by
   rcases ayU.1 hx with hx|hx
   ·exact hI.2 x hx
   ·rw[ay0.1 hx];exact jy⟩
  rw[aAs,azd,aAe,aAF]at this
  refine this.trans ?_
  rw[ay6,ayP];rfl
 ·unfold me.l5 me.c7
  rw[az (by omega),ayB,az2,ay2]
theorem OZ(N:Nat){l:aj}(hq:dC l)(hl:l.length≤100000)(hN:4000000≤N):me N l=some (br (kg l)):=by
 unfold me me.b kg
 rw[AW N hl (by omega),ayy,cond_not]
 have:=HZ N hq hl hN
 rw[ez]at this
 rw[this]
 cases fb l
 ·rw[ayB];exact azS some ez.symm
 ·rfl
end VM
end
section
namespace VM
open Go VM.F
def ed(inst:Int):aj→List Int
 |[]=>[]
 |x::t=>if x.2.1=inst then eC x::ed inst t else ed inst t
theorem fL(inst:Int)(x:bY)(t:aj):ed inst (x::t)=if x.2.1=inst then eC x::ed inst t else ed inst t:=rfl
theorem O0(N:Nat){l:aj}(hq:dC l)(hl:l.length≤100000)(hN:2000000≤N)(inst:Int):mf.l5 N N inst bL [] l (l.length:Int) 0=some (bl (ed inst l).sum):=by
 have:=kK l aM (fun n i ws=>mf.l5 N n inst bL (ws.map bl) l (l.length:Int) i) (fun t ws=>some (bl (ws++ed inst t).sum)) (fun i (ws:List Int)=>ws.length≤i∧ ∀x∈ws,aB x)
  (fun n i ws hi hI hr=> ?_) (fun n ws hI=> ?_) l.length N 0 [] (by omega) (by omega) (by omega) ⟨ayJ _,fun x hx=>nomatch hx⟩
 ·simpa using this
 ·unfold mf.l5 mf.c7
  have jy:=uK hq i
  have fy:=jy
  unfold aB eC at fy
  rw[aE (by omega),ayz,aF (by omega) (by omega),ayz,ayD,mL N fy.1 fy.2,ayy,a8 (by rw[ay1,ayA];omega),ayz,ak (by omega) (by omega),ae,au,fL]
  split
  ·have:=hr (ws++[eC (l.getD i aM)]) ⟨by rw[ayH,ayA];omega,fun x hx=>by
    rcases ayU.1 hx with hx|hx
    ·exact hI.2 x hx
    ·rw[ay0.1 hx];exact jy⟩
   rw[aze]at this
   refine this.trans ?_
   rw[ayP];rfl
  ·exact hr ws ⟨by omega,hI.2⟩
 ·unfold mf.l5 mf.c7
  rw[az (by omega),ayB,Fl N hI.2 (by omega) (by omega),ayy]
  show _=some (bl (ws++[]).sum)
  rw[ay2]
def vX(l:aj)(inst:Int):Int:=if dn l then(ed inst l).sum else 0
theorem Vr(N:Nat){l:aj}(hq:dC l)(hl:l.length≤100000)(hN:2000000≤N)(inst:Int):mf N l inst=some (bl (vX l inst)):=by
 unfold mf mf.b vX
 rw[vP N hl (by omega),ayy,cond_not,O0 N hq hl hN]
 cases dn l<;>rfl
theorem Lo(N:Nat){l:aj}(hq:dC l)(hl:l.length≤100000)(hN:4000000≤N)(inst:Int):mg.l5 N N l inst (br 0) (br 0) 0=some (br (ed inst l).sum):=by
 have:=kK l aM (fun n i ws=>mg.l5 N n l inst (br 0) (br ws.sum) i) (fun t ws=>some (br (ws++ed inst t).sum)) (fun i (ws:List Int)=>ws.length≤i∧ ∀x∈ws,aB x)
  (fun n i ws hi hI hr=> ?_) (fun n ws hI=> ?_) l.length N 0 [] (by omega) (by omega) (by omega) ⟨ayJ _,fun x hx=>nomatch hx⟩
 ·simpa using this
 ·unfold mg.l5 mg.c7
  have jy:=uK hq i
  have fy:=jy
  unfold aB eC at fy
  have hb:=HY hI.2
  rw[aE (by omega),ayz,aF (by omega) (by omega),ayz,ayz,ayD,cn N (by omega) fy.1 fy.2,ayy,eM N (by omega) ((vI (n:=ws.length) (by omega) hb.1 hb.2).mono (by omega)) ((Fit.i64 fy.1 fy.2).mono (by omega)),ayy,ak (by omega) (by omega),ae,au,fL]
  split
  ·have:=hr (ws++[eC (l.getD i aM)]) ⟨by rw[ayH,ayA];omega,fun x hx=>by
    rcases ayU.1 hx with hx|hx
    ·exact hI.2 x hx
    ·rw[ay0.1 hx];exact jy⟩
   rw[aAs,azd,aAe,aAF]at this
   refine this.trans ?_
   rw[ayP];rfl
  ·exact hr ws ⟨by omega,hI.2⟩
 ·unfold mg.l5 mg.c7
  rw[az (by omega),ayB]
  show _=some (br (ws++[]).sum)
  rw[ay2]
theorem H4(N:Nat){l:aj}(hq:dC l)(hl:l.length≤100000)(hN:4000000≤N)(inst:Int):mg N l inst=some (br (vX l inst)):=by
 unfold mg mg.b vX
 rw[nG N hl (by omega),ayy,cond_not]
 have:=Lo N hq hl hN inst
 rw[ez]at this
 rw[this]
 cases dn l
 ·rw[ayB];exact azS some ez.symm
 ·rfl
def uM(l:aj)(i:Nat):Prop:=gj (vX l (i:Int)) 0
instance(l:aj):DecidablePred (uM l):=fun i=>by unfold uM;infer_instance
def jg:Nat:=6
def xi(l:aj):Bool:=decide (∀j,j<jg→uM l j)&&dn l
theorem ki{x:Int}:lW x=0↔x=0:=by unfold lW;split<;>(try split)<;>omega
theorem Vs(N:Nat){l:aj}(hq:dC l)(hl:l.length≤100000)(hN:2000000≤N):zg N l=some (xi l):=by
 unfold zg zg.b
 refine eR (len:=jg) (F:=fun n i=>zg.l2 N n l i) (uM l) (fun n i r hi hp hr=> ?_) (fun n=> ?_) N (by unfold jg;omega)
 ·unfold zg.l2 zg.dA
  unfold jg at hi
  rw[aE (by omega),ayz,Vr N hq hl hN,ayy,n0,ayy,cond_not,au,ak (by omega) (by omega),ae,hr]
  by_cases hP:uM l i
  ·rw[ayF hP,ayF (ki.2 hP)]
  ·rw[ayE hP,ayE (fun h=>hP (ki.1 h))]
 ·unfold zg.l2 zg.dA
  rw[az (by unfold jg;omega),ayB,vP N hl (by omega),ayy]
theorem RH(N:Nat){l:aj}(hq:dC l)(hl:l.length≤100000)(hN:4000000≤N):mN N l=some (xi l):=by
 unfold mN mN.b
 refine eR (len:=jg) (F:=fun n i=>mN.l2 N n l i) (uM l) (fun n i r hi hp hr=> ?_) (fun n=> ?_) N (by unfold jg;omega)
 ·unfold mN.l2 mN.dA
  unfold jg at hi
  rw[aE (by omega),ayz,H4 N hq hl hN,ayy,nf,ayy,cond_not,au,ak (by omega) (by omega),ae,hr]
  by_cases hP:uM l i
  ·rw[ayF hP,ayF (ki.2 hP)]
  ·rw[ayE hP,ayE (fun h=>hP (ki.1 h))]
 ·unfold mN.l2 mN.dA
  rw[az (by unfold jg;omega),ayB,nG N hl (by omega),ayy]
end VM
end
section
namespace VM
open Go VM.F
def iV(m:av)(a:aD)(l:aj)(i:Nat):Prop:=
 (gj (l.getD i aM).1 5→(dP a (l.getD i aM).2.1).2=true)∧(gj (l.getD i aM).1 6∨gj (l.getD i aM).1 7→ ¬gj (mc m (l.getD i aM).2.1) 0)
instance(m:av)(a:aD)(l:aj):DecidablePred (iV m a l):=fun i=>by unfold iV;infer_instance
theorem A3(N:Nat)(b:ag)(hl:b.2.1.length≤100000)(hN:200000≤N)(id:Int):Vt N b id=some (dP b.2.1 id).2:=by
 unfold Vt
 rw[Nq N hl hN,ayy]
theorem O1{k:Int}{f:Bool}{z:Int}{r:Option Bool}:cond (aA k 5) (cond (!f) (some false) r) (cond (aA k 6) (cond (aA z 0) (some false) r) (cond (aA k 7) (cond (aA z 0) (some false) r) r))=
  if(gj k 5→f=true)∧(gj k 6∨gj k 7→ ¬gj z 0)then r else some false:=by
 unfold gj
 rw[au,au,au,au,cond_not]
 by_cases h5:k=5
 ·have h6: ¬(k=6):=by omega
  have h7: ¬(k=7):=by omega
  cases f<;>simp[h5,h6,h7]
 ·by_cases h6:k=6
  ·by_cases hz:z=0<;>simp[h5,h6,hz]
  ·by_cases h7:k=7
   ·by_cases hz:z=0<;>simp[h5,h6,h7,hz]
   ·simp[h5,h6,h7]
theorem CZ(N:Nat)(hN:200000≤N)(c:aa)(b:ag)(hm:b.1.length≤100000)(ha:b.2.1.length≤100000)(hl:b.2.2.1.length≤100000){e:Bool}
  (he:iz.tK N N c b b.2.2.2.1 (b.2.2.2.1.length:Int) 0=some e):iz.l4 N N c b b.2.2.1 (b.2.2.1.length:Int) 0=some (decide (∀j,j<b.2.2.1.length→iV b.1 b.2.1 b.2.2.1 j)&&e):=by
 refine eR (F:=fun n i=>iz.l4 N n c b b.2.2.1 (b.2.2.1.length:Int) i) (iV b.1 b.2.1 b.2.2.1) (fun n i r hi hp hr=> ?_) (fun n=> ?_) N (by omega)
 ·unfold iz.l4 iz.cD
  rw[aE (by omega),ayz,aF (by omega) (by omega),ayz,ayD,ak (x:=(i:Int)+1) (by omega) (by omega),ae,hr]
  simp only[A3 N b ha hN,xf N hm hN,ayy]
  rw[O1]
  rfl
 ·unfold iz.l4 iz.cD
  rw[az (by omega),ayB];exact he
def Cs(a b:Int):Prop:=a<b
instance(a b:Int):Decidable (Cs a b):=by unfold Cs;infer_instance
def ig(c:aa)(a:aD)(l:aj)(i:Nat):Prop:=
 (gj (l.getD i aM).1 0∨(dP a (l.getD i aM).1).2=true)∧Cs (l.getD i aM).2.1 c.1.length
instance(c:aa)(a:aD)(l:aj):DecidablePred (ig c a l):=fun i=>by unfold ig;infer_instance
theorem RI{k x n:Int}{f:Bool}{r:Option Bool}:cond (!aA k 0) (cond (!f) (some false) (cond (bX n x) (some false) r)) (cond (bX n x) (some false) r)=if(gj k 0∨f=true)∧Cs x n then r else some false:=by
 unfold gj Cs
 rw[cond_not,au,bm,cond_not]
 by_cases h0:k=0
 ·by_cases hx:n≤x
  ·have: ¬x<n:=by omega
   simp[h0,hx,this]
  ·have:x<n:=by omega
   simp[h0,hx,this]
 ·by_cases hx:n≤x
  ·have: ¬x<n:=by omega
   cases f<;>simp[h0,hx,this]
  ·have:x<n:=by omega
   cases f<;>simp[h0,hx,this]
theorem Fm(N:Nat)(hN:200000≤N)(c:aa)(b:ag)(ha:b.2.1.length≤100000)(hl:b.2.2.2.1.length≤100000){e:Bool}
  (he:iz.tL N N c b b.2.2.2.2.2.1 (b.2.2.2.2.2.1.length:Int) 0=some e):iz.tK N N c b b.2.2.2.1 (b.2.2.2.1.length:Int) 0=some (decide (∀j,j<b.2.2.2.1.length→ig c b.2.1 b.2.2.2.1 j)&&e):=by
 refine eR (F:=fun n i=>iz.tK N n c b b.2.2.2.1 (b.2.2.2.1.length:Int) i) (ig c b.2.1 b.2.2.2.1) (fun n i r hi hp hr=> ?_) (fun n=> ?_) N (by omega)
 ·unfold iz.tK iz.sC
  rw[aE (by omega),ayz,aF (by omega) (by omega),ayz,ayD,ak (x:=(i:Int)+1) (by omega) (by omega),ae,hr]
  simp only[A3 N b ha hN,ayy]
  rw[RI]
  rfl
 ·unfold iz.tK iz.sC
  rw[az (by omega),ayB];exact he
end VM
end
section
namespace VM
open Go VM.F
def pd(l:List Int)(i:Nat):Prop:=1≤l.getD i 0∧l.getD i 0≤1000000000000
instance(l:List Int):DecidablePred (pd l):=fun i=>by unfold pd;infer_instance
def fZ(l:List Int):Bool:=decide (∀j,j<l.length→pd l j)
theorem adg(N:Nat)(p:Int):F84 N p=some (!decide (1≤p∧p≤1000000000000)):=by
 unfold F84
 rw[xe,ayy]
theorem A4(N:Nat){l:List Int}(hl:l.length≤100000): ∀(m n i:Nat),l.length-i≤m→m<n→i≤l.length→(∀j,j<i→pd l j)→
  ∃r,oL.l2 N n l () (l.length:Int) (i:Int)=some r∧(bX 0 r= !fZ l)
 |m,0,i,_,hn,_,_=>by omega
 |m,n+1,i,hm,hn,hi,hp=>by
  unfold oL.l2 oL.dA
  by_cases h:i<l.length
  ·rw[aE (by omega),ayz,aF (by omega) (by omega),ayz,ayD,adg,ayy,cond_not,cq]
   by_cases hP:pd l i
   ·have hP':=hP
    unfold pd at hP'
    rw[ayF hP',ak (by omega) (by omega)]
    exact A4 N hl (m-1) n (i+1) (by omega) (by omega) (by omega) (fun j hj=>by
     by_cases uA:j=i
     ·subst uA;exact hP
     ·exact hp j (by omega))
   ·have hP':=hP
    unfold pd at hP'
    rw[ayE hP']
    refine⟨_,rfl,?_⟩
    rw[cX (by omega)]
    unfold fZ
    rw[ayR (fun h'=>hP (h' i h))];rfl
  ·rw[az (by omega),ayB]
   refine⟨_,rfl,?_⟩
   rw[cP (by omega)]
   unfold fZ
   rw[ayO (fun j hj=>hp j (by omega))];rfl
theorem O2(N:Nat){l:List Int}(hl:l.length≤100000)(hN:200000≤N):F83 N l ()=some (!fZ l):=by
 unfold F83 oL oL.b
 obtain⟨r,e,h⟩:=A4 N hl l.length N 0 (by omega) (by omega) (by omega) (fun j hj=>absurd hj (by omega))
 rw[show((0:Nat):Int)=0 from rfl]at e
 rw[e,ayy,h]
def ng(c:aa)(a:aD)(l:aU)(i:Nat):Prop:=
 (dP a (l.getD i dT).2.1).2=true∧Cs (l.getD i dT).2.2.1 c.1.length
instance(c:aa)(a:aD)(l:aU):DecidablePred (ng c a l):=fun i=>by unfold ng;infer_instance
theorem A5{x n:Int}{f:Bool}{r:Option Bool}:cond (!f) (some false) (cond (bX n x) (some false) r)=if f=true∧Cs x n then r else some false:=by
 unfold Cs
 rw[bm,cond_not]
 by_cases hx:n≤x
 ·have: ¬x<n:=by omega
  cases f<;>simp[hx,this]
 ·have:x<n:=by omega
  cases f<;>simp[hx,this]
theorem Fo(N:Nat)(hN:200000≤N)(c:aa)(b:ag)(ha:b.2.1.length≤100000)(hl:b.2.2.2.2.2.1.length≤100000)(hp:b.2.2.2.2.1.length≤100000):
  iz.tL N N c b b.2.2.2.2.2.1 (b.2.2.2.2.2.1.length:Int) 0=some (decide (∀j,j<b.2.2.2.2.2.1.length→ng c b.2.1 b.2.2.2.2.2.1 j)&&fZ b.2.2.2.2.1):=by
 refine eR (F:=fun n i=>iz.tL N n c b b.2.2.2.2.2.1 (b.2.2.2.2.2.1.length:Int) i) (ng c b.2.1 b.2.2.2.2.2.1) (fun n i r hi wN hr=> ?_) (fun n=> ?_) N (by omega)
 ·unfold iz.tL iz.sD
  rw[aE (by omega),ayz,aF (by omega) (by omega),ayz,ayD,ak (x:=(i:Int)+1) (by omega) (by omega),ae,hr]
  simp only[A3 N b ha hN,ayy]
  rw[A5]
  rfl
 ·unfold iz.tL iz.sD
  rw[az (by omega),ayB,O2 N hp hN,ayy,Bool.not_not]
def bW(c:aa)(b:ag):Bool:=
 ec c&&(sB b.1 b.2.1&&(fb b.2.2.1&&(decide (gj (kg b.2.2.1) 0)&&(xi b.2.2.2.1&&(eF b.2.2.2.2.2.1&&(decide (gj b.2.2.2.2.1.length c.1.length)&&
  (decide (∀j,j<b.2.2.1.length→iV b.1 b.2.1 b.2.2.1 j)&&(decide (∀j,j<b.2.2.2.1.length→ig c b.2.1 b.2.2.2.1 j)&&(decide (∀j,j<b.2.2.2.2.2.1.length→ng c b.2.1 b.2.2.2.2.2.1 j)&&fZ b.2.2.2.2.1)))))))))
structure eS(b:ag):Prop where
 m:b.1.length≤100000
 a:b.2.1.length≤100000
 r:b.2.2.1.length≤100000
 s:b.2.2.2.1.length≤100000
 p:b.2.2.2.2.1.length≤100000
 o:b.2.2.2.2.2.1.length≤100000
 qr:dC b.2.2.1
 qs:dC b.2.2.2.1
theorem kj{x:Bool}{r:Option Bool}{y:Bool}(h:r=some y):cond (!x) (some false) r=some (x&&y):=by subst h;cases x<;>rfl
theorem zN(N:Nat)(hN:4000000≤N){c:aa}{b:ag}(w:eS b):iz N c b=some (bW c b):=by
 unfold iz iz.b bW
 rw[zJ N (by omega),ayy]
 refine kj ?_
 rw[Vq N w.m w.a (by omega),ayy]
 refine kj ?_
 rw[zK N w.r (by omega),ayy]
 refine kj ?_
 rw[RG N w.qr w.r (by omega),ayy,n0,ayy]
 have e0:aA (lW (kg b.2.2.1)) 0=decide (gj (kg b.2.2.1) 0):=by rw[gh,aAm];exact ki
 rw[e0]
 refine kj ?_
 rw[Vs N w.qs w.s (by omega),ayy]
 refine kj ?_
 rw[DH N w.o (by omega),ayy]
 refine kj ?_
 rw[gh]
 refine kj ?_
 exact CZ N (by omega) c b w.m w.a w.r (Fm N (by omega) c b w.a w.s (Fo N (by omega) c b w.a w.o w.p))
end VM
end
section
namespace VM
open Go VM.F
theorem qa(N:Nat)(b:ag)(hl:b.2.1.length≤100000)(hN:200000≤N)(id:Int):Fp N b id=some ((dP b.2.1 id).2||decide (gj id 0)):=by
 unfold Fp
 rw[AZ N hl hN,ayy,gh]
 cases(dP b.2.1 id).2<;>rfl
theorem Lp{k:Int}{f:Bool}{z:Int}{r:Option Bool}:cond (aA k 5) (cond (!f) (some false) (cond (aA k 6) (cond (aA z 0) (some false) r) (cond (aA k 7) (cond (aA z 0) (some false) r) r))) (cond (aA k 6) (cond (aA z 0) (some false) r) (cond (aA k 7) (cond (aA z 0) (some false) r) r))=
  if(gj k 5→f=true)∧(gj k 6∨gj k 7→ ¬gj z 0)then r else some false:=by
 unfold gj
 rw[au,au,au,au,cond_not]
 by_cases h5:k=5
 ·have h6: ¬(k=6):=by omega
  have h7: ¬(k=7):=by omega
  cases f<;>simp[h5,h6,h7]
 ·by_cases h6:k=6
  ·by_cases hz:z=0<;>simp[h5,h6,hz]
  ·by_cases h7:k=7
   ·by_cases hz:z=0<;>simp[h5,h6,h7,hz]
   ·simp[h5,h6,h7]
theorem C0(N:Nat)(hN:200000≤N)(c:aa)(b:ag)(ha:b.2.1.length≤100000)(hl:b.2.2.2.2.2.1.length≤100000)(ho:eF b.2.2.2.2.2.1=true):
  bS.tL N N c b 0=some (decide (∀j,j<b.2.2.2.2.2.1.length→ng c b.2.1 b.2.2.2.2.2.1 j)&&true):=by
 refine eR (F:=fun n i=>bS.tL N n c b i) (ng c b.2.1 b.2.2.2.2.2.1) (fun n i r hi wN hr=> ?_) (fun n=> ?_) N (by omega)
 ·unfold bS.tL bS.sD
  unfold eF at ho
  rw[ayQ,azB]at ho
  have h1:=(ho.1 i hi).1
  unfold fj ld at h1
  have h2:decide (gj (b.2.2.2.2.2.1.getD i dT).2.1 0)=false:=ayR (by unfold gj;omega)
  rw[aE (by omega),ayz,aF (by omega) (by omega),ayz,ayD,ak (x:=(i:Int)+1) (by omega) (by omega),ae,hr]
  simp only[qa N b ha hN,ayy,ayz]
  rw[h2,aAV,A5]
  rfl
 ·unfold bS.tL bS.sD
  rw[az (by omega),ayB]
theorem zh(N:Nat)(hN:200000≤N)(c:aa)(b:ag)(hl:b.2.2.2.2.1.length≤100000){e:Bool}(he:bS.tL N N c b 0=some e):
  bS.HE N N c b 0=some (fZ b.2.2.2.2.1&&e):=by
 refine eR (F:=fun n i=>bS.HE N n c b i) (pd b.2.2.2.2.1) (fun n i r hi wN hr=> ?_) (fun n=> ?_) N (by omega)
 ·unfold bS.HE bS.HF
  rw[aE (by omega),ayz,aF (by omega) (by omega),ayz,ayD,ak (x:=(i:Int)+1) (by omega) (by omega),ae,hr,ia,ayy,cond_not,cq]
  rfl
 ·unfold bS.HE bS.HF
  rw[az (by omega),ayB];exact he
theorem C1(N:Nat)(hN:200000≤N)(c:aa)(b:ag)(ha:b.2.1.length≤100000)(hl:b.2.2.2.1.length≤100000){e:Bool}(he:bS.HE N N c b 0=some e):
  bS.kk N N c b 0=some (decide (∀j,j<b.2.2.2.1.length→ig c b.2.1 b.2.2.2.1 j)&&e):=by
 refine eR (F:=fun n i=>bS.kk N n c b i) (ig c b.2.1 b.2.2.2.1) (fun n i r hi wN hr=> ?_) (fun n=> ?_) N (by omega)
 ·unfold bS.kk bS.jh
  rw[aE (by omega),ayz,aF (by omega) (by omega),ayz,ayD,ak (x:=(i:Int)+1) (by omega) (by omega),ae,hr]
  simp only[qa N b ha hN,ayy,ayz]
  rw[A5]
  have RJ:((((dP b.2.1 (b.2.2.2.1.getD i aM).1).2||decide (gj (b.2.2.2.1.getD i aM).1 0))=true)∧Cs (b.2.2.2.1.getD i aM).2.1 c.1.length)↔ig c b.2.1 b.2.2.2.1 i:=by
   unfold ig
   rw[aAj,azB]
   exact⟨fun h=>⟨h.1.symm,h.2⟩,fun h=>⟨h.1.symm,h.2⟩⟩
  by_cases hP:ig c b.2.1 b.2.2.2.1 i
  ·rw[ayF hP,ayF (RJ.2 hP)]
  ·rw[ayE hP,ayE (fun h=>hP (RJ.1 h))]
 ·unfold bS.kk bS.jh
  rw[az (by omega),ayB];exact he
theorem A6(N:Nat)(hN:200000≤N)(c:aa)(b:ag)(hm:b.1.length≤100000)(ha:b.2.1.length≤100000)(hl:b.2.2.1.length≤100000)(hk:fb b.2.2.1=true){e:Bool}
  (he:bS.kk N N c b 0=some e):bS.l6 N N c b 0=some (decide (∀j,j<b.2.2.1.length→iV b.1 b.2.1 b.2.2.1 j)&&e):=by
 refine eR (F:=fun n i=>bS.l6 N n c b i) (iV b.1 b.2.1 b.2.2.1) (fun n i r hi wN hr=> ?_) (fun n=> ?_) N (by omega)
 ·unfold bS.l6 bS.pE
  unfold fb at hk
  rw[azW,azB]at hk
  have h1:=(hk i hi).1
  rw[aE (by omega),ayz,aF (by omega) (by omega),ayz,ayD,ak (x:=(i:Int)+1) (by omega) (by omega),ae,hr]
  simp only[qa N b ha hN,uH N hm hN,ayy]
  rw[Lp]
  have RJ:((gj (b.2.2.1.getD i aM).1 5→((dP b.2.1 (b.2.2.1.getD i aM).2.1).2||decide (gj (b.2.2.1.getD i aM).2.1 0))=true)∧(gj (b.2.2.1.getD i aM).1 6∨gj (b.2.2.1.getD i aM).1 7→ ¬gj (mc b.1 (b.2.2.1.getD i aM).2.1) 0))↔iV b.1 b.2.1 b.2.2.1 i:=by
   unfold iV
   refine and_congr_left fun _=>imp_congr_right fun h5=> ?_
   rw[aAj,azB]
   refine⟨fun h=>h.elim id fun h0=> ?_,.inl⟩
   unfold ea at h1;unfold gj at h5 h0;omega
  by_cases hP:iV b.1 b.2.1 b.2.2.1 i
  ·rw[ayF hP,ayF (RJ.2 hP)]
  ·rw[ayE hP,ayE (fun h=>hP (RJ.1 h))]
 ·unfold bS.l6 bS.pE
  rw[az (by omega),ayB];exact he
end VM
end
section
namespace VM
open Go VM.F
theorem ln{x:Bool}{r:Option Bool}{y:Bool}(h:x=true→r=some y):cond (!x) (some false) r=some (x&&y):=by
 cases x
 ·rfl
 ·exact h rfl
theorem sE(N:Nat)(hN:5000000≤N){c:aa}{b:ag}(w:eS b):bS N c b=some (bW c b):=by
 unfold bS bS.b
 rw[lZ N (by omega),ayy]
 have e0:aA (lW (kg b.2.2.1)) 0=decide (gj (kg b.2.2.1) 0):=by rw[gh,aAm];exact ki
 refine(ln fun _=> ?_).trans (azS some (?_:(ec c&&(sB b.1 b.2.1&&(fb b.2.2.1&&(xi b.2.2.2.1&&(eF b.2.2.2.2.2.1&&(decide (gj b.2.2.2.2.1.length c.1.length)&&(decide (gj (kg b.2.2.1) 0)&&
  (decide (∀j,j<b.2.2.1.length→iV b.1 b.2.1 b.2.2.1 j)&&(decide (∀j,j<b.2.2.2.1.length→ig c b.2.1 b.2.2.2.1 j)&&(fZ b.2.2.2.2.1&&(decide (∀j,j<b.2.2.2.2.2.1.length→ng c b.2.1 b.2.2.2.2.2.1 j)&&true)))))))))))=bW c b))
 ·rw[A2 N w.m w.a (by omega),ayy]
  refine ln fun _=> ?_
  rw[AW N w.r (by omega),ayy]
  refine ln fun hk=> ?_
  rw[RH N w.qs w.s (by omega),ayy]
  refine ln fun _=> ?_
  rw[lf N w.o (by omega),ayy]
  refine ln fun ho=> ?_
  rw[gh]
  refine ln fun _=> ?_
  rw[OZ N w.qr w.r (by omega),ayy,nf,ayy,e0]
  refine ln fun _=> ?_
  exact A6 N (by omega) c b w.m w.a w.r hk (C1 N (by omega) c b w.a w.s (zh N (by omega) c b w.p (C0 N (by omega) c b w.a w.o ho)))
 ·unfold bW
  generalize ec c=x1,sB b.1 b.2.1=x2,fb b.2.2.1=x3,xi b.2.2.2.1=x4,eF b.2.2.2.2.2.1=x5,decide (gj b.2.2.2.2.1.length c.1.length)=x6,decide (gj (kg b.2.2.1) 0)=x7,decide (∀j,j<b.2.2.1.length→iV b.1 b.2.1 b.2.2.1 j)=x8,decide (∀j,j<b.2.2.2.1.length→ig c b.2.1 b.2.2.2.1 j)=x9,fZ b.2.2.2.2.1=aQ,decide (∀j,j<b.2.2.2.2.2.1.length→ng c b.2.1 b.2.2.2.2.2.1 j)=aK
  rw[azW]
  cases x1<;>cases x2<;>cases x3<;>cases x4<;>cases x5<;>cases x6<;>cases x7<;>try rfl
  cases x8<;>cases x9<;>cases aQ<;>cases aK<;>rfl
end VM
end
section
namespace VM
open Go VM.F
def mO(a q n:Int)(i:Nat)(p:Int):Prop:=0≤a∧a<n∧q≠0∧ym q∧(0<i→p<a)
instance(a q n:Int)(i:Nat)(p:Int):Decidable (mO a q n i p):=by unfold mO;infer_instance
def kQ(c:aa)(l:av)(i:Nat):Prop:=mO (l.getD i bL).1 (l.getD i bL).2.1 c.1.length i (l.getD (i-1) bL).1
instance(c:aa)(l:av):DecidablePred (kQ c l):=fun i=>by unfold kQ;infer_instance
def ko(c:aa)(l:av):Bool:=decide (∀j,j<l.length→kQ c l j)&&ec c
theorem Nr(N:Nat)(hN:200000≤N)(c:aa){l:av}(hl:l.length≤100000):mh N c l=some (ko c l):=by
 unfold mh mh.b
 refine eR (F:=fun n i=>mh.l2 N n l c l (l.length:Int) i) (kQ c l) (fun n i r hi hp hr=> ?_) (fun n=> ?_) N (by omega)
 ·unfold mh.l2 mh.dA
  rw[aE (by omega),ayz,aF (by omega) (by omega),ayz,ayD,ak (x:=(i:Int)+1) (by omega) (by omega),ae,hr,pa,ayy,cond_not,cq]
  by_cases h0:0<i
  ·have e:W .i64 ((i:Int)-1)=((i-1:Nat):Int):=by rw[ak (by omega) (by omega)];omega
   dsimp only
   rw[aE (x:=0) (y:=(i:Int)) (by omega),ayz,e,ayD,aF (by omega) (by omega),ayz]
   simp only[aL,bm,au]
   by_cases hP:kQ c l i
   ·rw[ayF hP];unfold kQ mO at hP
    rw[ayE (by omega),ayE (by omega),ayE hP.2.2.1,ayF hP.2.2.2.1,ayE (by omega)]
   ·rw[ayE hP];unfold kQ mO at hP
    have h2:=fun h1 h2 h3 h4 h5=>hP ⟨h1,h2,h3,h4,h5⟩
    repeat' split
    all_goals first|rfl|(exfalso;exact h2 (by omega) (by omega) (by assumption) (by assumption) (by omega))
  ·rw[az (x:=0) (y:=(i:Int)) (by omega),ayB]
   simp only[aL,bm,au]
   by_cases hP:kQ c l i
   ·rw[ayF hP];unfold kQ mO at hP
    rw[ayE (by omega),ayE (by omega),ayE hP.2.2.1,ayF hP.2.2.2.1]
   ·rw[ayE hP];unfold kQ mO at hP
    have h2:=fun h1 h2 h3 h4 h5=>hP ⟨h1,h2,h3,h4,h5⟩
    repeat' split
    all_goals first|rfl|(exfalso;exact h2 (by omega) (by omega) (by assumption) (by assumption) (by omega))
 ·unfold mh.l2 mh.dA
  rw[az (by omega),ayB,zJ N (by omega),ayy]
end VM
end
section
namespace VM
open Go VM.F
theorem qb(N:Nat)(hN:200000≤N)(c:aa){l:av}(hl:l.length≤100000):kp N c l=some (ko c l):=by
 unfold kp kp.b
 rw[lZ N (by omega),ayy]
 have hsc:=eR (F:=fun n i=>kp.l4 N n l c i) (e:=true) (kQ c l) (fun n i r hi hp hr=> ?_) (fun n=> ?_) N (show l.length<N by omega)
 ·rw[kj hsc];unfold ko
  rw[azW,Bool.and_comm]
 ·unfold kp.l4 kp.cD
  rw[aE (by omega),ayz,aF (by omega) (by omega),ayz,ayD,ak (x:=(i:Int)+1) (by omega) (by omega),ae,hr]
  by_cases h0:0<i
  ·have e:W .i64 ((i:Int)-1)=((i-1:Nat):Int):=by rw[ak (by omega) (by omega)];omega
   dsimp only
   rw[aE (x:=0) (y:=(i:Int)) (by omega),e,ayD,aF (i:=((i-1:Nat):Int)) (by omega) (by omega)]
   simp only[aL,bm,au,ayz]
   by_cases hP:kQ c l i
   ·rw[ayF hP];unfold kQ mO at hP
    rw[ayE (by omega),ayE (by omega),ayE hP.2.2.1,ayE (show ¬((l.getD i bL).2.1:Int)= -9223372036854775808 from hP.2.2.2.1),ayE (by omega)]
   ·rw[ayE hP];unfold kQ mO at hP
    have h2:=fun h1 h2 h3 h4 h5=>hP ⟨h1,h2,h3,h4,h5⟩
    repeat' split
    all_goals first|rfl|(exfalso;exact h2 (by omega) (by omega) (by assumption) (by assumption) (by omega))
  ·rw[az (x:=0) (y:=(i:Int)) (by omega)]
   simp only[aL,bm,au,ayz,ayB]
   by_cases hP:kQ c l i
   ·rw[ayF hP];unfold kQ mO at hP
    rw[ayE (by omega),ayE (by omega),ayE hP.2.2.1,ayE (show ¬((l.getD i bL).2.1:Int)= -9223372036854775808 from hP.2.2.2.1)]
   ·rw[ayE hP];unfold kQ mO at hP
    have h2:=fun h1 h2 h3 h4 h5=>hP ⟨h1,h2,h3,h4,h5⟩
    repeat' split
    all_goals first|rfl|(exfalso;exact h2 (by omega) (by omega) (by assumption) (by assumption) (by omega))
 ·unfold kp.l4 kp.cD
  rw[az (by omega),ayB]
end VM
end
section
namespace VM
open Go VM.F
def Fs(a b c d:Int):Prop:=(1≤a∧a≤1099511627776)∧(1≤b∧b≤1099511627776)∧(1≤c∧c≤12)∧(-1152921504606846976≤d∧d≤1152921504606846976)
instance(a b c d:Int):Decidable (Fs a b c d):=by unfold Fs;infer_instance
def DJ(x:bp):Prop:=Fs x.1 x.2.1 x.2.2.1 x.2.2.2.1
instance(x:bp):Decidable (DJ x):=by unfold DJ;infer_instance
theorem Ns(N:Nat)(x:bp):RK N x=some (decide (DJ x)):=by
 unfold RK
 rw[jW x.2.2.2.1]
 repeat rw[ei]
 congr 1
 rw[aAi,azB]
 unfold DJ Fs
 simp only[ayQ,aAG]
 omega
end VM
end
section
namespace VM
open Go VM.F
def n4(m lot:Int)(x:bp):Bool:=decide (gj x.2.2.1 m)&&decide (gj x.2.1 lot)
end VM
end
section
namespace VM
open Go VM.F
def vY(l:aD)(i:Nat):Prop:=DJ (l.getD i aJ)∧p9 i (l.getD (i-1) aJ).1 (l.getD i aJ).1∧(l.take i).any (n4 (l.getD i aJ).2.2.1 (l.getD i aJ).2.1)=false
instance(l:aD):DecidablePred (vY l):=fun i=>by unfold vY;infer_instance
def RL(l:aD):Bool:=decide (∀j,j<l.length→vY l j)&&decide (l.length≤40)
end VM
end
section
namespace VM
open Go VM.F
def ct(a b:Int):aj→List Int
 |[]=>[]
 |x::t=>if x.1=a∧x.2.1=b then eC x::ct a b t else ct a b t
theorem dk(a b:Int)(x:bY)(t:aj):ct a b (x::t)=if x.1=a∧x.2.1=b then eC x::ct a b t else ct a b t:=rfl
def cj(a b:Int)(l:aj):Int:=(ct a b l).sum
theorem DK(a b:Int):cj a b []=0:=rfl
theorem ji(a b:Int)(x:bY)(t:aj):cj a b (x::t)=(if x.1=a∧x.2.1=b then eC x else 0)+cj a b t:=by
 unfold cj
 rw[dk]
 split
 ·rw[azd]
 ·omega
theorem jj{a b:Int}: ∀{l:aj},(∀x∈l,¬(x.1=a∧x.2.1=b))→cj a b l=0
 |[],_=>rfl
 |x::t,h=>by
  rw[ji,ayE (h x (ayN ..)),jj (fun y hy=>h y (ayK _ hy))];rfl
abbrev cY:=Int×Int
def pM(x y:cY):Prop:=iv x.1 x.2 y.1 y.2
instance(x y:cY):Decidable (pM x y):=by unfold pM;infer_instance
def keyOf(x:bY):cY:=(x.1,x.2.1)
def td(K:List cY):Prop:=K.Pairwise pM
theorem nh{x:cY}(h:pM x x):False:=by unfold pM iv at h;omega
theorem DL{x y:cY}(h:pM x y)(k:pM y x):False:=by unfold pM iv at*;omega
theorem tf{x y z:cY}(h:pM x y)(k:pM y z):pM x z:=by unfold pM iv at*;omega
theorem Nt(x y:cY):pM x y∨x=y∨pM y x:=by
 have:(x.1=y.1∧x.2=y.2)→x=y:=fun h=>aA4 h.1 h.2
 unfold pM iv
 by_cases h1:x.1=y.1
 ·by_cases h2:x.2=y.2
  ·exact Or.inr (Or.inl (this ⟨h1,h2⟩))
  ·omega
 ·omega
theorem Nu: ∀{a b:List cY},td a→td b→(∀x,x∈a↔x∈b)→a=b
 |[],[],_,_,_=>rfl
 |[],y::t,_,_,h=>nomatch (h y).2 (ayN ..)
 |x::s,[],_,_,h=>nomatch (h x).1 (ayN ..)
 |x::s,y::t,ha,hb,h=>by
  obtain⟨U9,ha2⟩:=azk.1 ha
  obtain⟨kI,tF⟩:=azk.1 hb
  have hxy:x=y:=by
   rcases ayY.1 ((h x).1 (ayN ..))with e|e
   ·exact e
   ·rcases ayY.1 ((h y).2 (ayN ..))with f|f
    ·exact f.symm
    ·exact(DL (U9 y f) (kI x e)).elim
  subst hxy
  rw[Nu ha2 tF fun z=>⟨fun hz=> ?_,fun hz=> ?_⟩]
  ·rcases ayY.1 ((h z).1 (ayK _ hz))with e|e
   ·subst e;exact(nh (U9 z hz)).elim
   ·exact e
  ·rcases ayY.1 ((h z).2 (ayK _ hz))with e|e
   ·subst e;exact(nh (kI z hz)).elim
   ·exact e
def dV(P:Int→Prop) [DecidablePred P](f:Int→Int→Int):List cY→Option aj
 |[]=>some []
 |k::t=>if P (f k.1 k.2)then(dV P f t).map (fun o=>if f k.1 k.2=0 then o else(k.1,(k.2,(f k.1 k.2,())))::o)else none
theorem lq(P:Int→Prop) [DecidablePred P](f:Int→Int→Int)(k:cY)(t:List cY):dV P f (k::t)=if P (f k.1 k.2)then(dV P f t).map (fun o=>if f k.1 k.2=0 then o else(k.1,(k.2,(f k.1 k.2,())))::o)else none:=rfl
theorem yr{P:Int→Prop} [DecidablePred P](h0:P 0){f:Int→Int→Int}(p:cY→Bool): ∀{K:List cY},(∀k∈K,p k=false→f k.1 k.2=0)→dV P f (K.filter p)=dV P f K
 |[],_=>rfl
 |k::t,h=>by
  have ih:=yr h0 p (K:=t) (fun x hx=>h x (ayK _ hx))
  cases hp:p k
  ·rw[List.filter_cons_of_neg (by rw[hp];decide),ih,lq,h k (ayN ..) hp,ayF h0]
   simp
  ·rw[List.filter_cons_of_pos hp,lq,lq,ih]
theorem H5{P:Int→Prop} [DecidablePred P](h0:P 0){f:Int→Int→Int}{K G:List cY}(hK:td K)(hG:td G)(hs: ∀k∈K,k∈G)(hz: ∀k∈G,k∉K→f k.1 k.2=0):dV P f K=dV P f G:=by
 have e:K=G.filter (fun k=>decide (k∈K)):=by
  refine Nu hK (aBo List.filter_sublist hG) fun x=> ?_
  rw[aB2]
  exact⟨fun h=>⟨hs x h,ayO h⟩,fun h=>ayV h.2⟩
 rw[e]
 exact yr h0 _ fun k hk hp=>hz k hk (of_decide_eq_false hp)
def sF(k:cY):List cY→List cY
 |[]=>[k]
 |x::t=>if pM x k then x::sF k t else if x=k then x::t else k::x::t
theorem n5{k x:cY}: ∀{K:List cY},x∈sF k K↔x=k∨x∈K
 |[]=>by show x∈[k]↔_;simp
 |y::t=>by
  show x∈(if pM y k then y::sF k t else if y=k then y::t else k::y::t)↔_
  split
  ·rw[ayY,n5,ayY]
   exact⟨fun h=>h.elim (fun e=>Or.inr (Or.inl e)) (fun h=>h.elim Or.inl (fun h=>Or.inr (Or.inr h))),fun h=>h.elim (fun e=>Or.inr (Or.inl e)) (fun h=>h.elim Or.inl (fun h=>Or.inr (Or.inr h)))⟩
  ·split
   ·rename_i e
    rw[←e]
    exact⟨Or.inr,fun h=>h.elim (fun e=>e▸ayN ..) id⟩
   ·rw[ayY]
theorem vZ{k:cY}: ∀{K:List cY},td K→td (sF k K)
 |[],_=>azk.2 ⟨fun _ h=>(nomatch h),List.Pairwise.nil⟩
 |y::t,h=>by
  obtain⟨h1,h2⟩:=azk.1 h
  show td (if pM y k then y::sF k t else if y=k then y::t else k::y::t)
  split
  ·rename_i hy
   exact azk.2 ⟨fun z hz=>(n5.1 hz).elim (fun e=>e▸hy) (h1 z),vZ h2⟩
  ·rename_i hy
   split
   ·exact h
   ·rename_i he
    have hk:pM k y:=(Nt y k).elim (fun h=>absurd h hy) (fun h=>h.elim (fun h=>absurd h he) id)
    exact azk.2 ⟨fun z hz=>(ayY.1 hz).elim (fun e=>e▸hk) (fun hz=>tf hk (h1 z hz)),h⟩
def kq(K:List cY)(E:aj):List cY:=E.foldl (fun K x=>sF (keyOf x) K) K
theorem pe(K:List cY)(x:bY)(E:aj):kq K (x::E)=kq (sF (keyOf x) K) E:=rfl
theorem uN: ∀{E:aj} {K:List cY},td K→td (kq K E)
 |[],_,h=>h
 |x::E,K,h=>by rw[pe];exact uN (vZ h)
theorem jk{k:cY}: ∀{E:aj} {K:List cY},k∈kq K E↔(k∈K∨ ∃x∈E,keyOf x=k)
 |[],K=>by
  show k∈K↔_
  simp
 |x::E,K=>by
  rw[pe,jk,n5]
  constructor
  ·rintro((rfl|h)|⟨y,hy,e⟩)
   ·exact Or.inr ⟨x,ayN ..,rfl⟩
   ·exact Or.inl h
   ·exact Or.inr ⟨y,ayK _ hy,e⟩
  ·rintro(h|⟨y,hy,e⟩)
   ·exact Or.inl (Or.inr h)
   ·rcases ayY.1 hy with rfl|hy
    ·exact Or.inl (Or.inl e.symm)
    ·exact Or.inr ⟨y,hy,e⟩
theorem A7(k:cY): ∀K:List cY,(sF k K).length≤K.length+1
 |[]=>ayJ _
 |y::t=>by
  show(if pM y k then y::sF k t else if y=k then y::t else k::y::t).length≤_
  have:=A7 k t
  split
  ·rw[ayI,ayI];omega
  ·split<;>rw[ayI]<;>(try rw[ayI])<;>omega
def rowsOf(l:aj)(K:List cY):aj:=K.map fun k=>(k.1,(k.2,(cj k.1 k.2 l,())))
theorem jz{l:aj}(h:td (l.map keyOf)):rowsOf l (l.map keyOf)=l:=by
 have key: ∀(m:aj),td (m.map keyOf)→(∀x∈m,cj x.1 x.2.1 l=eC x)→rowsOf l (m.map keyOf)=m:=by
  intro m
  induction m with
  |nil=>intro _ _;rfl
  |cons x t ih=>
   intro hm hx
   have:=ih (azk.1 hm).2 (fun y hy=>hx y (ayK _ hy))
   unfold rowsOf at*
   rw[ay6,ay6,this]
   congr 1
   show(x.1,(x.2.1,(cj x.1 x.2.1 l,())))=x
   rw[hx x (ayN ..)];rfl
 refine key l h ?_
 clear key
 induction l with
 |nil=>intro x hx;nomatch hx
 |cons y t ih=>
  intro x hx
  obtain⟨h1,h2⟩:=azk.1 h
  have gq: ∀z∈t,¬(z.1=y.1∧z.2.1=y.2.1):=fun z hz e=>by
   have hk:=h1 (keyOf z) (azi hz)
   have he:keyOf z=keyOf y:=aA4 e.1 e.2
   rw[he]at hk
   exact nh hk
  rw[ji]
  rcases ayY.1 hx with rfl|hx
  ·rw[ayF ⟨rfl,rfl⟩,jj gq];omega
  ·rw[ayE (fun e=>gq x hx ⟨e.1.symm,e.2.symm⟩),ih h2 x hx];omega
end VM
end
section
namespace VM
open Go VM.F
instance(x:Int):Decidable (aB x):=by unfold aB;infer_instance
def Fq(x:Int):Prop:=aB x∧ym x
instance:DecidablePred Fq:=fun x=>by unfold Fq;infer_instance
def qT(r:Option aj):Option (aj×Int):=some (match r with|some o=>(o,0)|none=>([],2))
def fS(l E:aj)(a b:Int):Int:=cj a b l+cj a b E
theorem zO{α:Type}(N:Nat){l:List α}{i:Nat}{x:α}(hi:i≤l.length)(hl:l.length<1000000):gZ N l (i:Int) [x]=some (l.take i++x::l.drop i):=by
 unfold gZ
 rw[ayF ⟨by omega,by omega,rfl,by unfold u7;omega⟩]
 rfl
theorem sG{α:Type}(N:Nat){l:List α}(hl:l.length≤1000000):kU N l=some l:=by
 unfold kU
 rw[ayF (by unfold u7;omega)]
theorem wa(N:Nat){v:Int}(h:bB v):HS N (bl v)=some (zc v):=Vm N h.1 h.2
theorem pf{v:Int}(h:aB v):zc v=(v,true):=by unfold zc;exact ayF h
theorem qU{v:Int}(h: ¬aB v):zc v=(0,false):=by unfold zc;exact ayE h
theorem xj{ws:List Int}{x:Int}(h: ∀y∈ws,aB y)(hx:aB x): ∀y∈ws++[x],aB y:=fun y hy=>by
 rcases ayU.1 hy with hy|hy
 ·exact h y hy
 ·rw[ay0.1 hy];exact hx
theorem H6(N:Nat){l:aj}:Vu N l=some l:=by
 unfold Vu
 rw[cH (by omega) (by omega) (by omega) (by omega),ayz]
 simp
theorem RM(N:Nat)(hN:2000000≤N)(K:bH.DM){E out R:aj}(hq:dC E)(hl:E.length≤100000)(ho:out.length≤1000000)(r:bY)(hr:aB (eC r))(i:Nat)(hi:i≤1000000):
  bH.l27 N K N E out r [bl (eC r)] R (R.length:Int) (i:Int) E (E.length:Int) 0=
   if Fq (eC r+cj r.1 r.2.1 E)then K E (if eC r+cj r.1 r.2.1 E=0 then out else out++[(r.1,(r.2.1,(eC r+cj r.1 r.2.1 E,())))]) R (R.length:Int) ((i+1:Nat):Int)else some (aX,(2:Int)):=by
 have:=kK E aM (fun n j ws=>bH.l27 N K n E out r (ws.map bl) R (R.length:Int) (i:Int) E (E.length:Int) j)
  (fun t ws=>if Fq (ws++ct r.1 r.2.1 t).sum then K E (if(ws++ct r.1 r.2.1 t).sum=0 then out else out++[(r.1,(r.2.1,((ws++ct r.1 r.2.1 t).sum,())))]) R (R.length:Int) ((i+1:Nat):Int)else some (aX,(2:Int)))
  (fun j (ws:List Int)=>ws.length≤j+1∧ ∀x∈ws,aB x)
  (fun n j ws hj hI dg=> ?_) (fun n ws hI=> ?_) E.length N 0 [eC r] (by omega) (by omega) (by omega) ⟨ayJ _,fun x hx=>by rw[ay0.1 hx];exact hr⟩
 ·rw[show((0:Nat):Int)=0 from rfl,ay7]at this
  refine this.trans ?_
  have e:([eC r]++ct r.1 r.2.1 E).sum=eC r+cj r.1 r.2.1 E:=by rw[aBp,azd];rfl
  rw[e]
 ·unfold bH.l27 bH.Vv
  have jy:=uK hq j
  have fy:=jy
  unfold aB eC at fy
  rw[aE (by omega),ayz,aF (by omega) (by omega),ayz,ayD,mL N fy.1 fy.2,ayy,a8 (by rw[ay1,ayA];omega),ayz,ak (x:=(j:Int)+1) (by omega) (by omega),ae,au,au]
  by_cases h1:(E.getD j aM).1=r.1
  ·by_cases h2:(E.getD j aM).2.1=r.2.1
   ·have hc:ct r.1 r.2.1 (E.getD j aM::E.drop (j+1))=eC (E.getD j aM)::ct r.1 r.2.1 (E.drop (j+1)):=by rw[dk,ayF ⟨h1,h2⟩]
    rw[ayF h1,ayF h2,hc]
    have:=dg (ws++[eC (E.getD j aM)]) ⟨by rw[ayH,ayA];omega,xj hI.2 jy⟩
    rw[aze]at this
    refine this.trans ?_
    rw[ayP];rfl
   ·have hc:ct r.1 r.2.1 (E.getD j aM::E.drop (j+1))=ct r.1 r.2.1 (E.drop (j+1)):=by rw[dk,ayE (fun h=>h2 h.2)]
    rw[ayF h1,ayE h2,hc]
    exact dg ws ⟨by omega,hI.2⟩
  ·have hc:ct r.1 r.2.1 (E.getD j aM::E.drop (j+1))=ct r.1 r.2.1 (E.drop (j+1)):=by rw[dk,ayE (fun h=>h1 h.1)]
   rw[ayE h1,hc]
   exact dg ws ⟨by omega,hI.2⟩
 ·unfold bH.l27 bH.Vv
  have hs:=DI hI.2 (by omega)
  rw[az (by omega),ayB,Fl N hI.2 (by omega) (by omega),ayy]
  show _=if Fq (ws++[]).sum then K E (if(ws++[]).sum=0 then out else out++[(r.1,(r.2.1,((ws++[]).sum,())))]) R (R.length:Int) ((i+1:Nat):Int)else some (aX,(2:Int))
  rw[ay2,wa N hs,ayy]
  by_cases h1:aB ws.sum
  ·rw[pf h1]
   dsimp only
   rw[ayL,ayB,pa,ayy,cond_not,cq,cond_not,au,a8 (by rw[ayA];omega),ayz,ak (x:=(i:Int)+1) (by omega) (by omega),ae]
   by_cases h2:ym ws.sum
   ·rw[ayF h2,ayF (show Fq ws.sum from⟨h1,h2⟩)]
    split<;>rfl
   ·rw[ayE h2,ayE (fun h=>h2 h.2)]
  ·rw[qU h1,ayE (fun h=>h1 h.1)]
   rfl
theorem O3(N:Nat)(hN:2000000≤N){l E R:aj}(hq:dC E)(hl:E.length≤100000)(hR:R.length≤200000)(hv: ∀r∈R,aB (eC r)∧eC r=cj r.1 r.2.1 l):
  bH.Vw N N E [] R (R.length:Int) 0=qT (dV Fq (fS l E) (R.map keyOf)):=by
 have:=kK R aM (fun n i out=>bH.Vw N n E out R (R.length:Int) i) (fun t out=>qT ((dV Fq (fS l E) (t.map keyOf)).map (fun o=>out++o))) (fun i (out:aj)=>out.length≤i)
  (fun n i out hi hI hr=> ?_) (fun n out hI=> ?_) R.length N 0 [] (by omega) (by omega) (by omega) (ayJ _)
 ·rw[show((0:Nat):Int)=0 from rfl,ay7]at this
  refine this.trans ?_
  simp
 ·unfold bH.Vw bH.Vx
  have hm:R.getD i aM∈R:=by
   rw[ayC,ayG hi];exact ay5 hi
  have QE:=hv _ hm
  have jy:=QE.1
  have fy:=jy
  unfold aB eC at fy
  rw[aE (by omega),ayz,aF (by omega) (by omega),ayz,ayD,mL N fy.1 fy.2,ayy]
  refine(RM N hN _ hq hl (by omega) _ jy i (by omega)).trans ?_
  rw[ay6,lq]
  have ef:fS l E (keyOf (R.getD i aM)).1 (keyOf (R.getD i aM)).2=eC (R.getD i aM)+cj (R.getD i aM).1 (R.getD i aM).2.1 E:=by
   show cj _ _ l+cj _ _ E=_
   rw[QE.2];rfl
  rw[ef]
  generalize hS:eC (R.getD i aM)+cj (R.getD i aM).1 (R.getD i aM).2.1 E=v
  by_cases hF:Fq v
  ·rw[ayF hF,ayF hF,hr _ (by
    split
    ·omega
    ·rw[ayH,ayA];omega)]
   cases dV Fq (fS l E) ((R.drop (i+1)).map keyOf)with
   |none=>rfl
   |some o=>
    show qT (some _)=qT (some _)
    congr 2
    split
    ·rfl
    ·exact ayP _ _ _
  ·rw[ayE hF,ayE hF];rfl
 ·unfold bH.Vw bH.Vx
  rw[az (by omega),ayB,H6,ayy]
  show _=qT (some (out++[]))
  rw[ay2];rfl
def zi(l:aj)(k:cY):bY:=(k.1,(k.2,(cj k.1 k.2 l,())))
theorem c5(l:aj)(K:List cY):(rowsOf l K).length=K.length:=ay1 ..
theorem DN(l:aj){K:List cY}{p:Nat}(h:p<K.length):(rowsOf l K).getD p aM=zi l (K.getD p (0,0)):=by
 unfold rowsOf
 rw[ayC,az0,ayG h,ayC,ayG h];rfl
theorem qV(l:aj)(K:List cY)(p:Nat)(k:cY):(rowsOf l K).take p++zi l k::(rowsOf l K).drop p=rowsOf l (K.take p++k::K.drop p):=by
 unfold rowsOf
 rw[aze,ay6,List.map_take,List.map_drop];rfl
theorem yt(l:aj)(K:List cY):(rowsOf l K).map keyOf=K:=by
 unfold rowsOf
 rw[List.map_map]
 induction K with
 |nil=>rfl
 |cons k t ih=>rw[ay6,ih];rfl
theorem wb{k x:cY}:0<xb k.1 k.2 x.1 x.2↔pM x k:=by
 unfold xb pM iv;split<;>omega
theorem tg{k x:cY}:xb k.1 k.2 x.1 x.2=0↔x=k:=by
 have:x=k↔x.1=k.1∧x.2=k.2:=⟨fun h=>h▸⟨rfl,rfl⟩,fun h=>aA4 h.1 h.2⟩
 rw[this]
 unfold xb;split<;>omega
def wc(k:cY):Prop:=CX k.1∧CX k.2
theorem Nv{k:cY}{K:List cY}{p:Nat}(h:p<K.length):sF k (K.drop p)=if pM (K.getD p (0,0)) k then K.getD p (0,0)::sF k (K.drop (p+1))else if K.getD p (0,0)=k then K.drop p else k::K.drop p:=by
 rw[drop_cons h (0,0)];rfl
theorem we{K:List cY}{p:Nat}(h:p<K.length)(t:List cY):K.take p++K.getD p (0,0)::t=K.take (p+1)++t:=by
 rw[←aAo h,ayP,ayC,ayG h];rfl
def zeroAt(l:aj)(K:List cY)(k:cY):Prop:=k∉K→cj k.1 k.2 l=0
theorem th{l:aj}{k:cY}(h:cj k.1 k.2 l=0):((k.1,(k.2,((0:Int),()))):bY)=zi l k:=by
 unfold zi;rw[h]
theorem qW{k:cY}{K:List cY}{p:Nat}(hs:td K)(hp: ∀x∈K.take p,pM x k)(h: ∀x∈K.drop p,pM k x):k∉K:=fun hk=>by
 rw[←azg p K]at hk
 rcases ayU.1 hk with hk|hk
 ·exact nh (hp k hk)
 ·exact nh (h k hk)
theorem Nw{k:cY}{K:List cY}{p:Nat}(hs:td K)(h:p<K.length)(h1: ¬pM (K.getD p (0,0)) k)(h2:K.getD p (0,0)≠k): ∀x∈K.drop p,pM k x:=by
 have hk:pM k (K.getD p (0,0)):=(Nt (K.getD p (0,0)) k).elim (fun h=>absurd h h1) (fun h=>h.elim (fun h=>absurd h h2) id)
 have hd:td (K.drop p):=aBo (List.drop_sublist ..) hs
 rw[drop_cons h (0,0)]at hd ⊢
 intro x hx
 rcases ayY.1 hx with rfl|hx
 ·exact hk
 ·exact tf hk ((azk.1 hd).1 x hx)
theorem abj(N:Nat)(C:bH.ew){l E S:aj}{K:List cY}(hs:td K)(hl:K.length≤100000)(hf: ∀k∈K,wc k)(x:bY)(hx:wc (keyOf x))(hz:zeroAt l K (keyOf x))(len:Int)(i:Nat)(hi:i≤1000000):
  ∀(m n p:Nat),K.length-p≤m→m<n→p≤K.length→(∀y∈K.take p,pM y (keyOf x))→
   bH.tK N C n E (rowsOf l K) x (p:Int) S len (i:Int)=C E (rowsOf l (K.take p++sF (keyOf x) (K.drop p))) S len ((i+1:Nat):Int)
 |m,0,p,_,hn,_,_=>by omega
 |m,n+1,p,hm,hn,hp,hb=>by
  unfold bH.tK bH.sC bH.j18 bH.adh
  rw[c5,ak (x:=(i:Int)+1) (by omega) (by omega),ae i]
  by_cases h:p<K.length
  ·have hfk:=hf (K.getD p (0,0)) (by rw[ayC,ayG h];exact ay5 h)
   have ho:OU N x.1 x.2.1 ((rowsOf l K).getD p aM)=some (xb (keyOf x).1 (keyOf x).2 (K.getD p (0,0)).1 (K.getD p (0,0)).2):=by
    rw[DN l h]
    exact DG N hx.1 hx.2 hfk.1 hfk.2
   rw[aE (by omega),ayz,aF (by omega) (by omega),ayz,ayD,ho,ayy,cJ (x:=(p:Int)) (by omega),ayB,ayz,ayy,aL,cond_not,au,Nv h]
   by_cases h1:pM (K.getD p (0,0)) (keyOf x)
   ·rw[ayF (wb.2 h1),ayF h1,ak (x:=(p:Int)+1) (by omega) (by omega),ae p,we h]
    refine abj N C hs hl hf x hx hz len i hi (m-1) n (p+1) (by omega) (by omega) (by omega) fun y hy=> ?_
    rw[←aAo h]at hy
    rcases ayU.1 hy with hy|hy
    ·exact hb y hy
    ·rw[ayC,ayG h]at h1
     rw[ay0.1 hy];exact h1
   ·rw[ayE (fun h=>h1 (wb.1 h)),ayE h1]
    by_cases h2:K.getD p (0,0)=keyOf x
    ·rw[ayF (tg.2 h2),ayF h2,azg]
    ·rw[ayE (fun h=>h2 (tg.1 h)),ayE h2,zO N (by rw[c5];omega) (by rw[c5];omega),ayy]
     have Cp:=hz (qW hs hb (Nw hs h h1 h2))
     have e:=qV l K p (keyOf x)
     rw[←th Cp]at e
     exact azS (fun R=>C E R S len ((i+1:Nat):Int)) e
  ·have hd:K.drop p=[]:=aAv (by omega)
   rw[az (by omega),ayB,cQ (by omega),ayz,zO N (by rw[c5];omega) (by rw[c5];omega),ayy]
   have Cp:=hz (qW hs hb (by rw[hd];exact fun x hx=>nomatch hx))
   have e:=qV l K p (keyOf x)
   rw[←th Cp]at e
   have e2:sF (keyOf x) (K.drop p)=keyOf x::K.drop p:=by rw[hd];rfl
   rw[e2]
   exact azS (fun R=>C E R S len ((i+1:Nat):Int)) e
end VM
end
section
namespace VM
open Go VM.F
def DO(E:aj)(i:Nat):Prop:=gj (ed (i:Int) E).sum 0
instance(E:aj):DecidablePred (DO E):=fun i=>by unfold DO;infer_instance
theorem Vy(N:Nat)(hN:2000000≤N)(K:eA.bT){E:aj}(hq:dC E)(hl:E.length≤100000)(a:Nat)(ha:a<6):
  eA.l6 N K N E (a:Int) [] (a:Int) E (E.length:Int) 0=if(ed (a:Int) E).sum=0 then K E ((a+1:Nat):Int)else some false:=by
 have:=kK E aM (fun n j ws=>eA.l6 N K n E (a:Int) (ws.map bl) (a:Int) E (E.length:Int) j)
  (fun t ws=>if(ws++ed (a:Int) t).sum=0 then K E ((a+1:Nat):Int)else some false)
  (fun j (ws:List Int)=>ws.length≤j∧ ∀x∈ws,aB x)
  (fun n j ws hj hI hr=> ?_) (fun n ws hI=> ?_) E.length N 0 [] (by omega) (by omega) (by omega) ⟨ayJ _,fun x hx=>nomatch hx⟩
 ·rw[show((0:Nat):Int)=0 from rfl,ay7]at this
  exact this
 ·unfold eA.l6 eA.pE
  have jy:=uK hq j
  have fy:=jy
  unfold aB eC at fy
  rw[aE (by omega),ayz,aF (by omega) (by omega),ayz,ayD,mL N fy.1 fy.2,ayy,a8 (by rw[ay1,ayA];omega),ayz,ak (x:=(j:Int)+1) (by omega) (by omega),ae j,au]
  by_cases h1:(E.getD j aM).2.1=(a:Int)
  ·have hc:ed (a:Int) (E.getD j aM::E.drop (j+1))=eC (E.getD j aM)::ed (a:Int) (E.drop (j+1)):=by rw[fL,ayF h1]
   rw[ayF h1,hc]
   have:=hr (ws++[eC (E.getD j aM)]) ⟨by rw[ayH,ayA];omega,xj hI.2 jy⟩
   rw[aze]at this
   refine this.trans ?_
   rw[ayP];rfl
  ·have hc:ed (a:Int) (E.getD j aM::E.drop (j+1))=ed (a:Int) (E.drop (j+1)):=by rw[fL,ayE h1]
   rw[ayE h1,hc]
   exact hr ws ⟨by omega,hI.2⟩
 ·unfold eA.l6 eA.pE
  rw[az (by omega),ayB,Fl N hI.2 (by omega) (by omega),ayy]
  show _=if(ws++[]).sum=0 then K E ((a+1:Nat):Int)else some false
  rw[ay2,ayL,ayB,n0,ayy,cond_not,au,ak (x:=(a:Int)+1) (by omega) (by omega),ae a]
  by_cases h:ws.sum=0
  ·rw[ayF h,ayF (ki.2 h)]
  ·rw[ayE h,ayE (fun k=>h (ki.1 k))]
theorem RN(N:Nat)(hN:2000000≤N){E:aj}(hq:dC E)(hl:E.length≤100000):eA N E=some (decide (∀j,j<jg→DO E j)&&true):=by
 unfold eA eA.b
 refine eR (len:=jg) (F:=fun n i=>eA.l2 N n E i) (DO E) (fun n i r hi hp hr=> ?_) (fun n=> ?_) N (by unfold jg;omega)
 ·unfold eA.l2 eA.dA
  unfold jg at hi
  rw[aE (by omega),ayz,Vy N hN _ hq hl i hi,hr]
  unfold DO gj
  rfl
 ·unfold eA.l2 eA.dA
  rw[az (by unfold jg;omega),ayB]
structure Nx(E:aj):Prop where
 place: ∀x∈E,ca x.1 x.2.1
 q: ∀x∈E,aB (eC x)∧ym (eC x)
 len:E.length≤400
 flat: ∀i:Int,(ed i E).sum=0
theorem DP{x:bY}(h:ca x.1 x.2.1):wc (keyOf x):=by
 have h':ca (keyOf x).1 (keyOf x).2:=h
 unfold ca at h'
 unfold wc CX
 omega
theorem ey{l:aj}{k:cY}(h:k∉l.map keyOf):cj k.1 k.2 l=0:=jj fun x hx e=>h (by
 have:keyOf x=k:=aA4 e.1 e.2
 rw[←this];exact azi hx)
theorem O4(N:Nat)(hN:2000000≤N){l E:aj}(hq:dC E)(hE:E.length≤400)(hp: ∀x∈E,wc (keyOf x))(hs:td (l.map keyOf))(hl:l.length≤90000)(RO:dC l)(C2: ∀x∈l,wc (keyOf x)):
  bH.mi N N E l E (E.length:Int) 0=qT (dV Fq (fS l E) (kq (l.map keyOf) E)):=by
 have:=kK E aM (fun n i K=>bH.mi N n E (rowsOf l K) E (E.length:Int) i) (fun t K=>qT (dV Fq (fS l E) (kq K t)))
  (fun i (K:List cY)=>K.length≤l.length+i∧td K∧(∀k∈K,wc k)∧ ∀x∈l,keyOf x∈K)
  (fun n i K hi hI hr=> ?_) (fun n K hI=> ?_) E.length N 0 (l.map keyOf) (by omega) (by omega) (by omega) ⟨by rw[ay1];omega,hs,fun k hk=>by
   obtain⟨x,hx,rfl⟩:=azp.1 hk
   exact C2 x hx,fun x hx=>azi hx⟩
 ·rw[show((0:Nat):Int)=0 from rfl,ay7]at this
  simp only[jz hs]at this
  exact this
 ·unfold bH.mi bH.kt
  obtain⟨h1,h2,h3,h4⟩:=hI
  have hm:E.getD i aM∈E:=by
   rw[ayC,ayG hi];exact ay5 hi
  rw[aE (by omega),ayz,aF (by omega) (by omega),ayz,ayD]
  refine(abj N _ h2 (by omega) h3 (E.getD i aM) (hp _ hm) (fun hk=>ey fun hx=>hk (by
   obtain⟨x,hx,e⟩:=azp.1 hx
   rw[←e];exact h4 x hx)) (E.length:Int) i (by omega) K.length N 0 (by omega) (by omega) (by omega) (fun y hy=>nomatch hy)).trans ?_
  rw[aAz,ay8,ay7,pe]
  refine hr (sF (keyOf (E.getD i aM)) K) ⟨azl (A7 _ K) (by omega),vZ h2,fun k hk=>(n5.1 hk).elim (fun e=>e▸hp _ hm) (h3 k),fun x hx=>n5.2 (Or.inr (h4 x hx))⟩
 ·unfold bH.mi bH.kt
  obtain⟨h1,h2,h3,h4⟩:=hI
  rw[az (by omega),ayB,c5,bJ (by omega) (by omega) (by omega),ayz]
  have:=O3 N hN (l:=l) (R:=rowsOf l K) hq (by omega) (by rw[c5];omega) (fun r hr=>by
   unfold rowsOf at hr
   obtain⟨k,hk,rfl⟩:=azp.1 hr
   refine⟨?_,rfl⟩
   show aB (cj k.1 k.2 l)
   by_cases hkl:k∈l.map keyOf
   ·have e:rowsOf l (l.map keyOf)=l:=jz hs
    have hm:zi l k∈rowsOf l (l.map keyOf):=azi hkl
    rw[e]at hm
    exact RO (zi l k) hm
   ·rw[ey hkl];exact⟨by decide,by decide⟩)
  rw[yt,c5]at this
  exact this
theorem gQ{l:aj}(h:dn l=true):td (l.map keyOf)∧(∀x∈l,ca x.1 x.2.1∧ym (eC x)):=by
 unfold dn at h
 rw[azW]at h
 have h':=ayV h
 have get: ∀(i:Nat) (hi:i<l.length),l.getD i aM=l[i]:=fun i hi=>by rw[ayC,ayG hi];rfl
 have RP: ∀i,i+1<l.length→pM (keyOf (l.getD i aM)) (keyOf (l.getD (i+1) aM)):=fun i hi=>(h' (i+1) hi).2.2.2 (by omega)
 have dH: ∀j,j<l.length→ ∀i,i<j→pM (keyOf (l.getD i aM)) (keyOf (l.getD j aM)):=by
  intro j
  induction j with
  |zero=>intro _ i hi;omega
  |succ j ih=>
   intro hj i hi
   by_cases e:i=j
   ·rw[e];exact RP j hj
   ·exact tf (ih (by omega) i (by omega)) (RP j hj)
 refine⟨?_,fun x hx=> ?_⟩
 ·refine List.pairwise_map.2 (aBK.2 fun i j hi hj oY=> ?_)
  have:=dH j hj i oY
  rw[get i hi,get j hj]at this
  exact this
 ·obtain⟨i,hi,e⟩:=azG hx
  have:=h' i hi
  unfold jx ke at this
  rw[get i hi,e]at this
  exact⟨this.1,this.2.2.1⟩
theorem Vz(N:Nat)(hN:2000000≤N){l E:aj}(hk:dn l=true)(hl:l.length≤90000)(RO:dC l)(g:Nx E):bH N l E=qT (dV Fq (fS l E) (kq (l.map keyOf) E)):=by
 obtain⟨hs,C2⟩:=gQ hk
 have hE:=g.len
 unfold bH bH.b
 rw[vP N (by omega) (by omega),hk,ayy,ayL,ayB,az (by omega),ayB]
 refine vN E aM (fun n i=>bH.l4 N n l E E (E.length:Int) i) (fun _=>qT (dV Fq (fS l E) (kq (l.map keyOf) E))) (fun n i hi hr=> ?_) (fun n=> ?_) N (by omega)
 ·unfold bH.l4 bH.cD
  have hm:E.getD i aM∈E:=by
   rw[ayC,ayG hi];exact ay5 hi
  rw[aE (by omega),ayz,aF (by omega) (by omega),ayz,ayD,Nn,ayO (g.place _ hm),ayy,ayL,ayB,pa,ayy,
   ayO (show ym ((E.getD i aM).2.2.1)from(g.q _ hm).2),ayL,ayB,ak (x:=(i:Int)+1) (by omega) (by omega),ae i]
  exact hr
 ·unfold bH.l4 bH.cD
  have hf:eA N E=some true:=by
   rw[RN N hN (fun x hx=>(g.q x hx).1) (by omega),ayO (p:= ∀j,j<jg→DO E j) (fun j _=>g.flat (j:Int))];rfl
  rw[az (by omega),ayB,hf,ayy,ayL,ayB,sG N (by omega),ayy]
  exact O4 N hN (fun x hx=>(g.q x hx).1) hE (fun x hx=>DP (g.place x hx)) hs hl RO (fun x hx=>DP (C2 x hx).1)
end VM
end
section
namespace VM
open Go VM.F
def wg(a b:Nat):Nat→List cY
 |0=>[]
 |m+1=>((a:Int),(b:Int))::wg a (b+1) m
def ue(w a:Nat):Nat→List cY
 |0=>[]
 |m+1=>wg a 0 w++ue w (a+1) m
theorem wh{k:cY}{a:Nat}: ∀{m b:Nat},k∈wg a b m↔k.1=a∧(b:Int)≤k.2∧k.2<(b+m:Nat)
 |0,b=>⟨fun h=>(nomatch h),fun h=>by omega⟩
 |m+1,b=>by
  show k∈((a:Int),(b:Int))::wg a (b+1) m↔_
  rw[ayY,wh]
  have:k=((a:Int),(b:Int))↔k.1=a∧k.2=b:=⟨fun h=>h▸⟨rfl,rfl⟩,fun h=>aA4 h.1 h.2⟩
  rw[this]
  omega
theorem ti{k:cY}{w:Nat}: ∀{m a:Nat},k∈ue w a m↔(a:Int)≤k.1∧k.1<(a+m:Nat)∧0≤k.2∧k.2<w
 |0,a=>⟨fun h=>(nomatch h),fun h=>by omega⟩
 |m+1,a=>by
  show k∈wg a 0 w++ue w (a+1) m↔_
  rw[ayU,wh,ti]
  omega
theorem H7(a:Nat): ∀(m b:Nat),td (wg a b m)
 |0,b=>List.Pairwise.nil
 |m+1,b=>azk.2 ⟨fun k hk=>by
  have:=wh.1 hk
  show(a:Int)<k.1∨((a:Int)=k.1∧(b:Int)<k.2)
  omega,H7 a m (b+1)⟩
theorem xk(w:Nat): ∀(m a:Nat),td (ue w a m)
 |0,a=>List.Pairwise.nil
 |m+1,a=>List.pairwise_append.2 ⟨H7 a w 0,xk w m (a+1),fun x hx y hy=>by
  have h1:=wh.1 hx
  have h2:=ti.1 hy
  show x.1<y.1∨(x.1=y.1∧x.2<y.2)
  omega⟩
structure Mark(l:aj)(a b p:Nat):Prop where
 le:p≤l.length
 lo: ∀x∈l.take p,pM (keyOf x) ((a:Int),(b:Int))
 hi: ∀x∈l.drop p,¬pM (keyOf x) ((a:Int),(b:Int))
theorem qc{k:cY}{a b:Nat}:pM k ((a:Int),((b+1:Nat):Int))↔pM k ((a:Int),(b:Int))∨k=((a:Int),(b:Int)):=by
 have:k=((a:Int),(b:Int))↔k.1=a∧k.2=b:=⟨fun h=>h▸⟨rfl,rfl⟩,fun h=>aA4 h.1 h.2⟩
 rw[this]
 show(k.1<(a:Int)∨(k.1=(a:Int)∧k.2<((b+1:Nat):Int)))↔(k.1<(a:Int)∨(k.1=(a:Int)∧k.2<(b:Int)))∨_
 omega
theorem Mark.row{l:aj}{a w p:Nat}(h:Mark l a w p)(hw: ∀x∈l,0≤(keyOf x).2∧(keyOf x).2<w):Mark l (a+1) 0 p:=by
 have key: ∀x∈l,(pM (keyOf x) ((a:Int),(w:Int))↔pM (keyOf x) (((a+1:Nat):Int),((0:Nat):Int))):=fun x hx=>by
  have:=hw x hx
  show((keyOf x).1<(a:Int)∨((keyOf x).1=(a:Int)∧(keyOf x).2<(w:Int)))↔((keyOf x).1<((a+1:Nat):Int)∨((keyOf x).1=((a+1:Nat):Int)∧(keyOf x).2<((0:Nat):Int)))
  omega
 exact⟨h.le,fun x hx=>(key x (azT hx)).1 (h.lo x hx),fun x hx k=>h.hi x hx ((key x (az8 hx)).2 k)⟩
theorem Ft(a b:Int)(l m:aj):cj a b (l++m)=cj a b l+cj a b m:=by
 induction l with
 |nil=>rw[ay8,DK];omega
 |cons x t ih=>rw[azY,ji,ji,ih];omega
theorem Mark.step{l:aj}(hs:td (l.map keyOf)){a b p:Nat}(h:Mark l a b p):
  (p<l.length∧(l.getD p aM).1=(a:Int)∧(l.getD p aM).2.1=(b:Int)∧cj (a:Int) (b:Int) l=eC (l.getD p aM)∧Mark l a (b+1) (p+1))∨
  ((p<l.length→(l.getD p aM).1=(a:Int)→(l.getD p aM).2.1=(b:Int)→False)∧cj (a:Int) (b:Int) l=0∧Mark l a (b+1) p):=by
 have no: ∀{x:bY} {k:cY},¬keyOf x=k→ ¬(x.1=k.1∧x.2.1=k.2):=fun h e=>h (aA4 e.1 e.2)
 have hz:cj (a:Int) (b:Int) (l.take p)=0:=jj fun x hx e=>by
  have e':keyOf x=((a:Int),(b:Int)):=aA4 e.1 e.2
  have:=h.lo x hx
  rw[e']at this
  exact nh this
 have Lq:cj (a:Int) (b:Int) l=cj (a:Int) (b:Int) (l.drop p):=by
  conv=>lhs;rw[←azg p l]
  rw[Ft,hz];omega
 by_cases hp:p<l.length
 ·have hd:=drop_cons hp aM
  have hsd:td ((l.drop p).map keyOf):=by
   rw[List.map_drop];exact aBo (List.drop_sublist ..) hs
  have Gs:=h.hi
  rw[hd]at hsd Gs Lq
  have hgt:=(azk.1 hsd).1
  have Q2:=Gs _ (ayN ..)
  have aiS:l.take (p+1)=l.take p++[l.getD p aM]:=by
   rw[←aAo hp,ayC,ayG hp];rfl
  by_cases he:keyOf (l.getD p aM)=((a:Int),(b:Int))
  ·refine Or.inl ⟨hp,azS Prod.fst he,azS Prod.snd he,?_,by omega,fun x hx=> ?_,fun x hx hk=> ?_⟩
   ·rw[Lq,ji,ayF ⟨azS Prod.fst he,azS Prod.snd he⟩,jj fun x hx e=> ?_]
    ·omega
    ·have hg:=hgt (keyOf x) (azi hx)
     have e':keyOf x=((a:Int),(b:Int)):=aA4 e.1 e.2
     rw[he,e']at hg
     exact nh hg
   ·rw[aiS]at hx
    rcases ayU.1 hx with hx|hx
    ·exact qc.2 (Or.inl (h.lo x hx))
    ·rw[ay0.1 hx];exact qc.2 (Or.inr he)
   ·have hg:=hgt (keyOf x) (azi hx)
    rw[he]at hg
    rcases qc.1 hk with hk|hk
    ·exact DL hg hk
    ·rw[hk]at hg;exact nh hg
  ·have g9: ∀x∈l.getD p aM::l.drop (p+1),keyOf x≠((a:Int),(b:Int)):=fun x hx e=>by
    rcases ayY.1 hx with rfl|hx
    ·exact he e
    ·have hg:=hgt (keyOf x) (azi hx)
     rw[e]at hg
     exact Q2 hg
   refine Or.inr ⟨fun _ e1 e2=>he (aA4 e1 e2),?_,h.le,fun x hx=>qc.2 (Or.inl (h.lo x hx)),fun x hx hk=> ?_⟩
   ·rw[Lq]
    exact jj fun x hx=>no (g9 x hx)
   ·rw[hd]at hx
    rcases qc.1 hk with hk|hk
    ·exact Gs x hx hk
    ·exact g9 x hx hk
 ·have hd:l.drop p=[]:=aAv (by omega)
  refine Or.inr ⟨fun h=>absurd h hp,by rw[Lq,hd];rfl,h.le,fun x hx=>qc.2 (Or.inl (h.lo x hx)),fun x hx=> ?_⟩
  rw[hd]at hx;nomatch hx
def sH(out:aj)(r:Option aj):Option (aj×Bool):=some (match r with|some o=>(out++o,true)|none=>([],false))
theorem Fu(N:Nat)(v:Int):Lr N (br v)=some (if Fq v then(v,true)else(0,false)):=by
 unfold Lr
 rw[nZ,ayy]
 by_cases h:aB v
 ·rw[pf h]
  dsimp only
  rw[ayL,ayB,au]
  by_cases h2:ym v
  ·rw[ayE (show ¬v= -9223372036854775808 from h2),ayF (show Fq v from⟨h,h2⟩)]
  ·rw[ayF (show v= -9223372036854775808 by unfold ym at h2;omega),ayE (fun h=>h2 h.2)]
 ·rw[qU h,ayE (fun k=>h k.1)]
  rfl
theorem RQ(N:Nat)(hN:4000000≤N)(C4:bM.aY)(C7:bM.dq){l E out:aj}(hq:dC E)(hl:E.length≤100000)(ho:out.length≤1000000)(p:Int)(a b:Nat)(hb:b≤1000000)(q:Int)(hF:Fq q):
  bM.Gw N C4 C7 N l E out p (a:Int) (b:Int) q false (false,(([]:List Int),())) 0=
   if Fq (q+cj (a:Int) (b:Int) E)then C7 l E (if q+cj (a:Int) (b:Int) E=0 then out else out++[((a:Int),((b:Int),(q+cj (a:Int) (b:Int) E,())))]) p (a:Int) ((b+1:Nat):Int)else some ([],false):=by
 have:=kK E aM (fun n j ws=>bM.Gw N C4 C7 n l E out p (a:Int) (b:Int) q (!ws.isEmpty) (br ws.sum) j)
  (fun t ws=>if Fq (q+(ws++ct (a:Int) (b:Int) t).sum)then C7 l E (if q+(ws++ct (a:Int) (b:Int) t).sum=0 then out else out++[((a:Int),((b:Int),(q+(ws++ct (a:Int) (b:Int) t).sum,())))]) p (a:Int) ((b+1:Nat):Int)else some ([],false))
  (fun j (ws:List Int)=>ws.length≤j∧ ∀x∈ws,aB x)
  (fun n j ws hj hI dg=> ?_) (fun n ws hI=> ?_) E.length N 0 [] (by omega) (by omega) (by omega) ⟨ayJ _,fun x hx=>nomatch hx⟩
 ·rw[show((0:Nat):Int)=0 from rfl,ay7,aAe,ez]at this
  exact this
 ·unfold bM.Gw bM.Fv
  have jy:=uK hq j
  have fy:=jy
  unfold aB eC at fy
  have hb:=HY hI.2
  rw[aE (by omega),ayz,aF (by omega) (by omega),ayz,ayz,ayz,ayD,cn N (by omega) fy.1 fy.2,ayy,eM N (by omega) ((vI (n:=ws.length) (by omega) hb.1 hb.2).mono (by omega)) ((Fit.i64 fy.1 fy.2).mono (by omega)),ayy,ak (x:=(j:Int)+1) (by omega) (by omega),ae j,au,au]
  by_cases h1:(E.getD j aM).1=(a:Int)
  ·by_cases h2:(E.getD j aM).2.1=(b:Int)
   ·have hc:ct (a:Int) (b:Int) (E.getD j aM::E.drop (j+1))=eC (E.getD j aM)::ct (a:Int) (b:Int) (E.drop (j+1)):=by rw[dk,ayF ⟨h1,h2⟩]
    rw[ayF h1,ayF h2,hc]
    have:=dg (ws++[eC (E.getD j aM)]) ⟨by rw[ayH,ayA];omega,xj hI.2 jy⟩
    rw[aAs,azd,aAe,aAF,ayP]at this
    refine Eq.trans ?_ this
    rw[show(!(ws++[eC (E.getD j aM)]).isEmpty)=true by cases ws<;>rfl]
    rfl
   ·have hc:ct (a:Int) (b:Int) (E.getD j aM::E.drop (j+1))=ct (a:Int) (b:Int) (E.drop (j+1)):=by rw[dk,ayE (fun h=>h2 h.2)]
    rw[ayF h1,ayE h2,hc]
    exact dg ws ⟨by omega,hI.2⟩
  ·have hc:ct (a:Int) (b:Int) (E.getD j aM::E.drop (j+1))=ct (a:Int) (b:Int) (E.drop (j+1)):=by rw[dk,ayE (fun h=>h1 h.1)]
   rw[ayE h1,hc]
   exact dg ws ⟨by omega,hI.2⟩
 ·unfold bM.Gw bM.Fv
  have hs:=HY hI.2
  have Np:=hF.1
  unfold aB at Np
  rw[az (by omega),ayB,cn N (by omega) Np.1 Np.2,ayy,eM N (by omega) ((vI (n:=ws.length) (by omega) hs.1 hs.2).mono (by omega)) ((Fit.i64 Np.1 Np.2).mono (by omega)),ayy,Fu,ayy,ak (x:=(b:Int)+1) (by omega) (by omega),ae b,a8 (by rw[ayA];omega),ayz,a8 (by rw[ayA];omega),ayz,cond_not]
  show _=if Fq (q+(ws++[]).sum)then C7 l E (if q+(ws++[]).sum=0 then out else out++[((a:Int),((b:Int),(q+(ws++[]).sum,())))]) p (a:Int) ((b+1:Nat):Int)else some ([],false)
  rw[ay2,Int.add_comm ws.sum q]
  cases ws with
  |nil=>
   show cond (!aA q 0) _ _=_
   rw[cond_not,au,aAe,aAF,ayF hF]
   by_cases h:q=0
   ·rw[ayF h,ayF h]
   ·rw[ayE h,ayE h]
  |cons w ws=>
   show cond (!(if Fq (q+(w::ws).sum)then(q+(w::ws).sum,true)else(0,false)).2) _ _=_
   by_cases h2:Fq (q+(w::ws).sum)
   ·rw[ayF h2,ayF h2]
    dsimp only
    rw[ayL,ayB,cond_not,au]
    by_cases h:q+(w::ws).sum=0
    ·rw[ayF h,ayF h]
    ·rw[ayE h,ayE h]
   ·rw[ayE h2,ayE h2];rfl
end VM
end
section
namespace VM
open Go VM.F
theorem DQ{P:Int→Prop} [DecidablePred P]{f:Int→Int→Int}{k:cY}{K:List cY}{out:aj}{v:Int}(hv:f k.1 k.2=v):
  (if P v then sH (if v=0 then out else out++[(k.1,(k.2,(v,())))]) (dV P f K)else some ([],false))=sH out (dV P f (k::K)):=by
 rw[lq,hv]
 by_cases h:P v
 ·rw[ayF h,ayF h]
  cases dV P f K with
  |none=>rfl
  |some o=>
   show some ((if v=0 then out else out++[(k.1,(k.2,(v,())))])++o,true)=some (out++(if v=0 then o else(k.1,(k.2,(v,())))::o),true)
   by_cases h0:v=0
   ·rw[ayF h0,ayF h0]
   ·rw[ayE h0,ayE h0,ayP];rfl
 ·rw[ayE h,ayE h];rfl
theorem aiT{l:aj}(hs:td (l.map keyOf))(hl: ∀x∈l,Fq (eC x))(k:cY):Fq (cj k.1 k.2 l):=by
 by_cases hk:k∈l.map keyOf
 ·have hm:zi l k∈rowsOf l (l.map keyOf):=azi hk
  rw[jz hs]at hm
  exact hl (zi l k) hm
 ·rw[ey hk];exact⟨⟨by decide,by decide⟩,by decide⟩
theorem DR(N:Nat)(hN:4000000≤N)(C:bM.aY){l E:aj}(hq:dC E)(hl:E.length≤100000)(hs:td (l.map keyOf))(Dn:l.length≤100000)(hf: ∀x∈l,Fq (eC x))(hw: ∀x∈l,0≤(keyOf x).2∧(keyOf x).2<(6:Nat))(a:Nat)(ha:a≤24)(G:List cY)
  (hc: ∀(p:Nat) (out:aj),Mark l (a+1) 0 p→out.length≤6*(a+1)→C l E out (p:Int) ((a+1:Nat):Int)=sH out (dV Fq (fS l E) G)):
  ∀(m n b p:Nat) (out:aj),b+m=6→m<n→Mark l a b p→out.length≤6*a+b→bM.l7 N C n l E out (p:Int) (a:Int) (b:Int)=sH out (dV Fq (fS l E) (wg a b m++G))
 |m,0,b,p,out,_,hn,_,_=>by omega
 |0,n+1,b,p,out,hb,_,hM,ho=>by
  have e:b=6:=by omega
  subst e
  unfold bM.l7 bM.mE
  rw[az (by omega),ayB,ak (x:=(a:Int)+1) (by omega) (by omega),ae a]
  exact hc p out (hM.row hw) (by omega)
 |m+1,n+1,b,p,out,hb,hn,hM,ho=>by
  have hp:=hM.le
  have adi: ∀(p:Nat) (v:Int),Mark l a (b+1) p→bM.l7 N C n l E (if v=0 then out else out++[((a:Int),((b:Int),(v,())))]) (p:Int) (a:Int) ((b+1:Nat):Int)=sH (if v=0 then out else out++[((a:Int),((b:Int),(v,())))]) (dV Fq (fS l E) (wg a (b+1) m++G)):=fun p v h=>
   DR N hN C hq hl hs Dn hf hw a ha G hc m n (b+1) p _ (by omega) (by omega) h (by
    split
    ·omega
    ·rw[ayH,ayA];omega)
  have Oj:=aiT hs hf ((a:Int),(b:Int))
  unfold bM.l7 bM.mE bM.Fk bM.vM
  show _=sH out (dV Fq (fS l E) (((a:Int),(b:Int))::(wg a (b+1) m++G)))
  rw[aE (x:=(b:Int)) (by omega),ayz,aL,au,au,ayD]
  have fin: ∀(p:Nat) (q:Int),q=cj (a:Int) (b:Int) l→Mark l a (b+1) p→bM.Gw N C (bM.l7 N C n) N l E out (p:Int) (a:Int) (b:Int) q false (false,(([]:List Int),())) 0=sH out (dV Fq (fS l E) (((a:Int),(b:Int))::(wg a (b+1) m++G))):=fun p q e h=>by
   subst e
   rw[RQ N hN C _ hq hl (by omega) (p:Int) a b (by omega) _ Oj,adi p _ h]
   exact DQ (k:=((a:Int),(b:Int))) rfl
  rcases hM.step hs with⟨h1,h2,h3,h4,h5⟩|⟨h1,h2,h3⟩
  ·rw[ayF (show(p:Int)<(l.length:Int)by omega),aF (by omega) (by omega),ayz,ayz,ayF h2,ayF h3,ak (x:=(p:Int)+1) (by omega) (by omega),ae p,ayz]
   exact fin (p+1) _ h4.symm h5
  ·by_cases g1:p<l.length
   ·rw[ayF (show(p:Int)<(l.length:Int)by omega),aF (by omega) (by omega),ayz,ayz]
    by_cases g2:(l.getD p aM).1=(a:Int)
    ·rw[ayF g2,ayE (fun g3=>h1 g1 g2 g3)]
     exact fin p _ h2.symm h3
    ·rw[ayE g2]
     exact fin p _ h2.symm h3
   ·rw[ayE (show ¬(p:Int)<(l.length:Int)by omega)]
    exact fin p _ h2.symm h3
theorem DS(N:Nat)(hN:4000000≤N){l E:aj}(hq:dC E)(hl:E.length≤100000)(hs:td (l.map keyOf))(Dn:l.length≤100000)(hf: ∀x∈l,Fq (eC x))(hw: ∀x∈l,0≤(keyOf x).2∧(keyOf x).2<(6:Nat)):
  ∀(m n a p:Nat) (out:aj),a+m=25→m<n→Mark l a 0 p→out.length≤6*a→bM.l4 N n l E out (p:Int) (a:Int)=sH out (dV Fq (fS l E) (ue 6 a m))
 |m,0,a,p,out,_,hn,_,_=>by omega
 |0,n+1,a,p,out,ha,_,hM,ho=>by
  unfold bM.l4 bM.cD
  rw[cP (by omega),ayB]
  show some (out,true)=some (out++[],true)
  rw[ay2]
 |m+1,n+1,a,p,out,ha,hn,hM,ho=>by
  unfold bM.l4 bM.cD
  rw[cX (by omega),ayz]
  exact DR N hN _ hq hl hs Dn hf hw a (by omega) (ue 6 (a+1) m) (fun p out h ho=>DS N hN hq hl hs Dn hf hw m n (a+1) p out (by omega) (by omega) h ho) 6 N 0 p out (by omega) (by omega) hM (by omega)
def uO:List cY:=ue 6 0 25
theorem Ls(N:Nat)(hN:4000000≤N){l E:aj}(hk:dn l=true)(hl:l.length≤90000)(RO:dC l)(hq:dC E)(hE:E.length≤100000):bM N l E=sH [] (dV Fq (fS l E) uO):=by
 obtain⟨hs,C2⟩:=gQ hk
 unfold bM bM.b
 refine DS N hN hq hE hs (by omega) (fun x hx=>⟨RO x hx,(C2 x hx).2⟩) (fun x hx=> ?_) 25 N 0 0 [] (by omega) (by omega) ⟨by omega,fun x hx=>(nomatch hx),fun x hx dH=> ?_⟩ (by simp)
 ·have h:ca (keyOf x).1 (keyOf x).2:=(C2 x hx).1
  unfold ca at h;omega
 ·have h:ca (keyOf x).1 (keyOf x).2:=(C2 x (az8 hx)).1
  unfold ca at h
  have sg:(keyOf x).1<((0:Nat):Int)∨((keyOf x).1=((0:Nat):Int)∧(keyOf x).2<((0:Nat):Int)):=dH
  omega
theorem O5{l E:aj}(hk:dn l=true)(hp: ∀x∈E,ca x.1 x.2.1):dV Fq (fS l E) (kq (l.map keyOf) E)=dV Fq (fS l E) uO:=by
 obtain⟨hs,C2⟩:=gQ hk
 refine H5 ⟨⟨by decide,by decide⟩,by decide⟩ (uN hs) (xk 6 25 0) (fun k hk=> ?_) (fun k hk hn=> ?_)
 ·have:ca k.1 k.2:=by
   rcases jk.1 hk with h|⟨x,hx,rfl⟩
   ·obtain⟨x,hx,rfl⟩:=azp.1 h
    exact(C2 x hx).1
   ·exact hp x hx
  unfold ca at this
  exact ti.2 (by omega)
 ·have h1:k∉l.map keyOf:=fun h=>hn (jk.2 (Or.inl h))
  have h2:k∉E.map keyOf:=fun h=>by
   obtain⟨x,hx,e⟩:=azp.1 h
   exact hn (jk.2 (Or.inr ⟨x,hx,e⟩))
  unfold fS
  rw[ey h1,ey h2];rfl
end VM
end
