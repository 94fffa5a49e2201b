/- A part of the proof of TearDrawn of layer 29: what the functions compute, in plain words. -/
import Derived.Test.YtocmlaipoebfeaaGreatPlain1
set_option linter.all false
section
namespace VM
open Go VM.F
theorem NM(a b:bG):kV (.pair (.int .i64) (.pair (.int .u64) .unit)) a b=(ay a.1 b.1&&(ay a.2.1 b.2.1&&true)):=rfl
theorem Rb(N:Nat){u v:Int}:Rc N (cw u) (cw v)=some (rn (u-v)):=by
 unfold Rc
 rw[NM]
 unfold cw
 dsimp only
 unfold rn
 rw[bL,az,bL,Bool.and_true,fI,fI]
 have hu:u=u/18446744073709551616*18446744073709551616+u%18446744073709551616:=by omega
 have hv:v=v/18446744073709551616*18446744073709551616+v%18446744073709551616:=by omega
 by_cases h1:u/18446744073709551616<v/18446744073709551616
 ·rw[if_pos h1];congr 1;split<;>(try split)<;>omega
 ·rw[if_neg h1]
  by_cases h2:u/18446744073709551616=v/18446744073709551616
  ·rw[if_pos h2,decide_eq_true h2,Bool.true_and]
   by_cases h3:u%18446744073709551616<v%18446744073709551616
   ·rw[if_pos h3];congr 1;split<;>(try split)<;>omega
   ·rw[if_neg h3]
    by_cases h4:u%18446744073709551616=v%18446744073709551616
    ·rw[decide_eq_true h4,cond_true];congr 1;split<;>(try split)<;>omega
    ·rw[decide_eq_false h4,cond_false];congr 1;split<;>(try split)<;>omega
  ·rw[if_neg h2,decide_eq_false h2,Bool.false_and,cond_false];congr 1;split<;>(try split)<;>omega
theorem Ij:cw 0=ca:=rfl
theorem ug(N:Nat){u:Int}:YI N (cw u)=some (rn u):=by
 unfold YI
 rw[←Ij,Rb,Option.bind_some,Int.sub_zero]
end VM
end
section
namespace VM
open Go VM.F
def da(r:cE):Int:=r.2.2.1
def aC(x:Int):Prop:= -9223372036854775808≤x∧x<9223372036854775808
def di(l:ah):Prop:= ∀x∈l,aC (da x)
theorem sR{l:ah}(h:di l)(i:Nat):aC (da (l.getD i aR)):=by
 by_cases hi:i<l.length
 ·rw[List.getD_eq_getElem?_getD,List.getElem?_eq_getElem hi];exact h _ (List.getElem_mem hi)
 ·rw[List.getD_eq_getElem?_getD,List.getElem?_eq_none (by omega)];exact⟨by decide,by decide⟩
theorem E7{ws:List Int}(h: ∀x∈ws,aC x): -(9223372036854775808*(ws.length:Int))≤ws.sum∧ws.sum≤9223372036854775808*(ws.length:Int):=CG ws h
theorem Bq{ws:List Int}(h: ∀x∈ws,aC x)(hl:ws.length≤1000000):dV ws.sum:=by
 have:=E7 h
 unfold dV;omega
theorem Lh{ws:List Int}(h: ∀x∈ws,aC x): ∀x∈ws,dV x:=fun x hx=>by
 have:=h x hx
 unfold aC at this;unfold dV;omega
theorem CO(N:Nat){ws:List Int}(h: ∀x∈ws,aC x)(hl:ws.length≤1000000)(hN:1000000<N):jn N (ws.map cw)=some (cw ws.sum,true):=by
 rw[CK N (Lh h) hl hN]
 unfold H9
 rw[if_pos (Bq h hl)]
def js(l:ah):Int:=if eX l then(l.map da).sum else 0
theorem Ik(N:Nat){l:ah}(hq:di l)(hl:l.length≤100000)(hN:2000000≤N):wC.l5 N N ca [] l (l.length:Int) 0=some (cw (l.map da).sum):=by
 have:=nq l aR (fun n i ws=>wC.l5 N n ca (ws.map cw) l (l.length:Int) i) (fun t ws=>some (cw (ws++t.map da).sum)) (fun i (ws:List Int)=>ws.length=i∧ ∀x∈ws,aC x)
  (fun n i ws hi hI hr=> ?_) (fun n ws hI=> ?_) l.length N 0 [] (by omega) (by omega) (by omega) ⟨rfl,fun x hx=>nomatch hx⟩
 ·simpa using this
 ·unfold wC.l5 wC.dp
  have sl:=sR hq i
  have eY:=sl
  unfold aC da at eY
  rw[aD (by omega),cond_true,aF (by omega) (by omega),cond_true,Int.toNat_natCast,vm N eY.1 eY.2,Option.bind_some,a6 (by rw[List.length_map,List.length_singleton];omega),cond_true,an (by omega) (by omega),aa]
  have:=hr (ws++[da (l.getD i aR)]) ⟨by rw[List.length_append,hI.1];rfl,fun x hx=>by
   rcases List.mem_append.1 hx with hx|hx
   ·exact hI.2 x hx
   ·rw[List.mem_singleton.1 hx];exact sl⟩
  rw[List.map_append]at this
  refine this.trans ?_
  rw[List.map_cons,List.append_assoc];rfl
 ·unfold wC.l5 wC.dp
  rw[ax (by omega),cond_false,CO N hI.2 (by omega) (by omega),Option.bind_some,List.map_nil,List.append_nil]
theorem NN(N:Nat){l:ah}(hq:di l)(hl:l.length≤100000)(hN:2000000≤N):wC N l=some (cw (js l)):=by
 unfold wC wC.b js
 rw[CL N hl (by omega),Option.bind_some,cond_not,Ik N hq hl hN]
 cases eX l<;>rfl
theorem E8(N:Nat){l:ah}(hq:di l)(hl:l.length≤100000)(hN:4000000≤N):kF.l5 N N l (cc 0) (cc 0) 0=some (cc (l.map da).sum):=by
 have:=nq l aR (fun n i ws=>kF.l5 N n l (cc 0) (cc ws.sum) i) (fun t ws=>some (cc (ws++t.map da).sum)) (fun i (ws:List Int)=>ws.length=i∧ ∀x∈ws,aC x)
  (fun n i ws hi hI hr=> ?_) (fun n ws hI=> ?_) l.length N 0 [] (by omega) (by omega) (by omega) ⟨rfl,fun x hx=>nomatch hx⟩
 ·simpa using this
 ·unfold kF.l5 kF.dp
  have sl:=sR hq i
  have eY:=sl
  unfold aC da at eY
  have hb:=E7 hI.2
  rw[hI.1]at hb
  rw[aD (by omega),cond_true,aF (by omega) (by omega),cond_true,Int.toNat_natCast,fE N (by omega) eY.1 eY.2,Option.bind_some,fO N (by omega) ((tQ (n:=i) (by omega) hb.1 hb.2).mono (by omega)) ((Fit.i64 eY.1 eY.2).mono (by omega)),Option.bind_some,an (by omega) (by omega),aa]
  have:=hr (ws++[da (l.getD i aR)]) ⟨by rw[List.length_append,hI.1];rfl,fun x hx=>by
   rcases List.mem_append.1 hx with hx|hx
   ·exact hI.2 x hx
   ·rw[List.mem_singleton.1 hx];exact sl⟩
  rw[List.sum_append,List.sum_cons,List.sum_nil,Int.add_zero]at this
  refine this.trans ?_
  rw[List.map_cons,List.append_assoc];rfl
 ·unfold kF.l5 kF.dp
  rw[ax (by omega),cond_false,List.map_nil,List.append_nil]
theorem Li(N:Nat){l:ah}(hq:di l)(hl:l.length≤100000)(hN:4000000≤N):kF N l=some (cc (js l)):=by
 unfold kF kF.b js
 rw[yW N hl (by omega),Option.bind_some,cond_not]
 have:=E8 N hq hl hN
 rw[gB]at this
 rw[this]
 cases eX l
 ·rw[cond_false];exact congrArg some gB.symm
 ·rfl
end VM
end
section
namespace VM
open Go VM.F
def cQ(inst:Int):ah→List Int
 |[]=>[]
 |x::t=>if x.2.1=inst then da x::cQ inst t else cQ inst t
theorem dO(inst:Int)(x:cE)(t:ah):cQ inst (x::t)=if x.2.1=inst then da x::cQ inst t else cQ inst t:=rfl
theorem Lj(N:Nat){l:ah}(hq:di l)(hl:l.length≤100000)(hN:2000000≤N)(inst:Int):kG.l5 N N inst ca [] l (l.length:Int) 0=some (cw (cQ inst l).sum):=by
 have:=nq l aR (fun n i ws=>kG.l5 N n inst ca (ws.map cw) l (l.length:Int) i) (fun t ws=>some (cw (ws++cQ inst t).sum)) (fun i (ws:List Int)=>ws.length≤i∧ ∀x∈ws,aC x)
  (fun n i ws hi hI hr=> ?_) (fun n ws hI=> ?_) l.length N 0 [] (by omega) (by omega) (by omega) ⟨Nat.le_refl _,fun x hx=>nomatch hx⟩
 ·simpa using this
 ·unfold kG.l5 kG.dp
  have sl:=sR hq i
  have eY:=sl
  unfold aC da at eY
  rw[aD (by omega),cond_true,aF (by omega) (by omega),cond_true,Int.toNat_natCast,vm N eY.1 eY.2,Option.bind_some,a6 (by rw[List.length_map,List.length_singleton];omega),cond_true,an (by omega) (by omega),aa,az,dO]
  split
  ·have:=hr (ws++[da (l.getD i aR)]) ⟨by rw[List.length_append,List.length_singleton];omega,fun x hx=>by
    rcases List.mem_append.1 hx with hx|hx
    ·exact hI.2 x hx
    ·rw[List.mem_singleton.1 hx];exact sl⟩
   rw[List.map_append]at this
   refine this.trans ?_
   rw[List.append_assoc];rfl
  ·exact hr ws ⟨by omega,hI.2⟩
 ·unfold kG.l5 kG.dp
  rw[ax (by omega),cond_false,CO N hI.2 (by omega) (by omega),Option.bind_some]
  show _=some (cw (ws++[]).sum)
  rw[List.append_nil]
def rr(l:ah)(inst:Int):Int:=if cN l then(cQ inst l).sum else 0
theorem Re(N:Nat){l:ah}(hq:di l)(hl:l.length≤100000)(hN:2000000≤N)(inst:Int):kG N l inst=some (cw (rr l inst)):=by
 unfold kG kG.b rr
 rw[tY N hl (by omega),Option.bind_some,cond_not,Lj N hq hl hN]
 cases cN l<;>rfl
theorem Il(N:Nat){l:ah}(hq:di l)(hl:l.length≤100000)(hN:4000000≤N)(inst:Int):kH.l5 N N l inst (cc 0) (cc 0) 0=some (cc (cQ inst l).sum):=by
 have:=nq l aR (fun n i ws=>kH.l5 N n l inst (cc 0) (cc ws.sum) i) (fun t ws=>some (cc (ws++cQ inst t).sum)) (fun i (ws:List Int)=>ws.length≤i∧ ∀x∈ws,aC x)
  (fun n i ws hi hI hr=> ?_) (fun n ws hI=> ?_) l.length N 0 [] (by omega) (by omega) (by omega) ⟨Nat.le_refl _,fun x hx=>nomatch hx⟩
 ·simpa using this
 ·unfold kH.l5 kH.dp
  have sl:=sR hq i
  have eY:=sl
  unfold aC da at eY
  have hb:=E7 hI.2
  rw[aD (by omega),cond_true,aF (by omega) (by omega),cond_true,cond_true,Int.toNat_natCast,fE N (by omega) eY.1 eY.2,Option.bind_some,fO N (by omega) ((tQ (n:=ws.length) (by omega) hb.1 hb.2).mono (by omega)) ((Fit.i64 eY.1 eY.2).mono (by omega)),Option.bind_some,an (by omega) (by omega),aa,az,dO]
  split
  ·have:=hr (ws++[da (l.getD i aR)]) ⟨by rw[List.length_append,List.length_singleton];omega,fun x hx=>by
    rcases List.mem_append.1 hx with hx|hx
    ·exact hI.2 x hx
    ·rw[List.mem_singleton.1 hx];exact sl⟩
   rw[List.sum_append,List.sum_cons,List.sum_nil,Int.add_zero]at this
   refine this.trans ?_
   rw[List.append_assoc];rfl
  ·exact hr ws ⟨by omega,hI.2⟩
 ·unfold kH.l5 kH.dp
  rw[ax (by omega),cond_false]
  show _=some (cc (ws++[]).sum)
  rw[List.append_nil]
theorem E9(N:Nat){l:ah}(hq:di l)(hl:l.length≤100000)(hN:4000000≤N)(inst:Int):kH N l inst=some (cc (rr l inst)):=by
 unfold kH kH.b rr
 rw[lY N hl (by omega),Option.bind_some,cond_not]
 have:=Il N hq hl hN inst
 rw[gB]at this
 rw[this]
 cases cN l
 ·rw[cond_false];exact congrArg some gB.symm
 ·rfl
def qF(l:ah)(i:Nat):Prop:=eB (rr l (i:Int)) 0
instance(l:ah):DecidablePred (qF l):=fun i=>by unfold qF;infer_instance
def gT:Nat:=6
def qG(l:ah):Bool:=decide (∀j,j<gT→qF l j)&&cN l
theorem kI{x:Int}:rn x=0↔x=0:=by unfold rn;split<;>(try split)<;>omega
theorem Rf(N:Nat){l:ah}(hq:di l)(hl:l.length≤100000)(hN:2000000≤N):xk N l=some (qG l):=by
 unfold xk xk.b
 refine fg (len:=gT) (F:=fun n i=>xk.l2 N n l i) (qF l) (fun n i r hi hp hr=> ?_) (fun n=> ?_) N (by unfold gT;omega)
 ·unfold xk.l2 xk.ec
  unfold gT at hi
  rw[aD (by omega),cond_true,Re N hq hl hN,Option.bind_some,ug,Option.bind_some,cond_not,az,an (by omega) (by omega),aa,hr]
  by_cases hP:qF l i
  ·rw[if_pos hP,if_pos (kI.2 hP)]
  ·rw[if_neg hP,if_neg (fun h=>hP (kI.1 h))]
 ·unfold xk.l2 xk.ec
  rw[ax (by unfold gT;omega),cond_false,tY N hl (by omega),Option.bind_some]
theorem NO(N:Nat){l:ah}(hq:di l)(hl:l.length≤100000)(hN:4000000≤N):k5 N l=some (qG l):=by
 unfold k5 k5.b
 refine fg (len:=gT) (F:=fun n i=>k5.l2 N n l i) (qF l) (fun n i r hi hp hr=> ?_) (fun n=> ?_) N (by unfold gT;omega)
 ·unfold k5.l2 k5.ec
  unfold gT at hi
  rw[aD (by omega),cond_true,E9 N hq hl hN,Option.bind_some,oX,Option.bind_some,cond_not,az,an (by omega) (by omega),aa,hr]
  by_cases hP:qF l i
  ·rw[if_pos hP,if_pos (kI.2 hP)]
  ·rw[if_neg hP,if_neg (fun h=>hP (kI.1 h))]
 ·unfold k5.l2 k5.ec
  rw[ax (by unfold gT;omega),cond_false,lY N hl (by omega),Option.bind_some]
end VM
end
section
namespace VM
open Go VM.F
def iv(m:av)(a:aE)(l:ah)(i:Nat):Prop:=
 (eB (l.getD i aR).1 5→(jr a (l.getD i aR).2.1).2=true)∧(eB (l.getD i aR).1 6∨eB (l.getD i aR).1 7→ ¬eB (mH m (l.getD i aR).2.1) 0)
instance(m:av)(a:aE)(l:ah):DecidablePred (iv m a l):=fun i=>by unfold iv;infer_instance
theorem Im(N:Nat)(b:ag)(hl:b.2.1.length≤100000)(hN:200000≤N)(id:Int):F82 N b id=some (jr b.2.1 id).2:=by
 unfold F82
 rw[Q9 N hl hN,Option.bind_some]
theorem Lk{k:Int}{f:Bool}{z:Int}{r:Option Bool}:cond (ay k 5) (cond (!f) (some false) r) (cond (ay k 6) (cond (ay z 0) (some false) r) (cond (ay k 7) (cond (ay z 0) (some false) r) r))=
  if(eB k 5→f=true)∧(eB k 6∨eB k 7→ ¬eB z 0)then r else some false:=by
 unfold eB
 rw[az,az,az,az,cond_not]
 by_cases h5:k=5
 ·have h6: ¬(k=6):=by omega
  have h7: ¬(k=7):=by omega
  cases f<;>simp[h5,h6,h7]
 ·by_cases h6:k=6
  ·by_cases hz:z=0<;>simp[h5,h6,hz]
  ·by_cases h7:k=7
   ·by_cases hz:z=0<;>simp[h5,h6,h7,hz]
   ·simp[h5,h6,h7]
theorem AE(N:Nat)(hN:200000≤N)(c:ae)(b:ag)(hm:b.1.length≤100000)(ha:b.2.1.length≤100000)(hl:b.2.2.1.length≤100000){e:Bool}
  (he:ic.rU N N c b b.2.2.2.1 (b.2.2.2.1.length:Int) 0=some e):ic.l4 N N c b b.2.2.1 (b.2.2.1.length:Int) 0=some (decide (∀j,j<b.2.2.1.length→iv b.1 b.2.1 b.2.2.1 j)&&e):=by
 refine fg (F:=fun n i=>ic.l4 N n c b b.2.2.1 (b.2.2.1.length:Int) i) (iv b.1 b.2.1 b.2.2.1) (fun n i r hi hp hr=> ?_) (fun n=> ?_) N (by omega)
 ·unfold ic.l4 ic.cj
  rw[aD (by omega),cond_true,aF (by omega) (by omega),cond_true,Int.toNat_natCast,an (x:=(i:Int)+1) (by omega) (by omega),aa,hr]
  simp only[Im N b ha hN,Bo N hm hN,Option.bind_some]
  rw[Lk]
  rfl
 ·unfold ic.l4 ic.cj
  rw[ax (by omega),cond_false];exact he
def NP(a b:Int):Prop:=a<b
instance(a b:Int):Decidable (NP a b):=by unfold NP;infer_instance
def gE(c:ae)(a:aE)(l:ah)(i:Nat):Prop:=
 (eB (l.getD i aR).1 0∨(jr a (l.getD i aR).1).2=true)∧NP (l.getD i aR).2.1 c.1.length
instance(c:ae)(a:aE)(l:ah):DecidablePred (gE c a l):=fun i=>by unfold gE;infer_instance
theorem NQ{k x n:Int}{f:Bool}{r:Option Bool}:cond (!ay k 0) (cond (!f) (some false) (cond (bR n x) (some false) r)) (cond (bR n x) (some false) r)=if(eB k 0∨f=true)∧NP x n then r else some false:=by
 unfold eB NP
 rw[cond_not,az,bM,cond_not]
 by_cases h0:k=0
 ·by_cases hx:n≤x
  ·have: ¬x<n:=by omega
   simp[h0,hx,this]
  ·have:x<n:=by omega
   simp[h0,hx,this]
 ·by_cases hx:n≤x
  ·have: ¬x<n:=by omega
   cases f<;>simp[h0,hx,this]
  ·have:x<n:=by omega
   cases f<;>simp[h0,hx,this]
theorem CP(N:Nat)(hN:200000≤N)(c:ae)(b:ag)(ha:b.2.1.length≤100000)(hl:b.2.2.2.1.length≤100000){e:Bool}
  (he:ic.sS N N c b b.2.2.2.2.2.1 (b.2.2.2.2.2.1.length:Int) 0=some e):ic.rU N N c b b.2.2.2.1 (b.2.2.2.1.length:Int) 0=some (decide (∀j,j<b.2.2.2.1.length→gE c b.2.1 b.2.2.2.1 j)&&e):=by
 refine fg (F:=fun n i=>ic.rU N n c b b.2.2.2.1 (b.2.2.2.1.length:Int) i) (gE c b.2.1 b.2.2.2.1) (fun n i r hi hp hr=> ?_) (fun n=> ?_) N (by omega)
 ·unfold ic.rU ic.qH
  rw[aD (by omega),cond_true,aF (by omega) (by omega),cond_true,Int.toNat_natCast,an (x:=(i:Int)+1) (by omega) (by omega),aa,hr]
  simp only[Im N b ha hN,Option.bind_some]
  rw[NQ]
  rfl
 ·unfold ic.rU ic.qH
  rw[ax (by omega),cond_false];exact he
end VM
end
section
namespace VM
open Go VM.F
def nM(l:List Int)(i:Nat):Prop:=1≤l.getD i 0∧l.getD i 0≤1000000000000
instance(l:List Int):DecidablePred (nM l):=fun i=>by unfold nM;infer_instance
def gi(l:List Int):Bool:=decide (∀j,j<l.length→nM l j)
theorem YJ(N:Nat)(p:Int):F84 N p=some (!decide (1≤p∧p≤1000000000000)):=by
 unfold F84
 rw[Bn,Option.bind_some]
theorem y5(N:Nat){l:List Int}(hl:l.length≤100000): ∀(m n i:Nat),l.length-i≤m→m<n→i≤l.length→(∀j,j<i→nM l j)→
  ∃r,nr.l2 N n l () (l.length:Int) (i:Int)=some r∧(bR 0 r= !gi l)
 |m,0,i,_,hn,_,_=>by omega
 |m,n+1,i,hm,hn,hi,hp=>by
  unfold nr.l2 nr.ec
  by_cases h:i<l.length
  ·rw[aD (by omega),cond_true,aF (by omega) (by omega),cond_true,Int.toNat_natCast,YJ,Option.bind_some,cond_not,ew]
   by_cases hP:nM l i
   ·have hP':=hP
    unfold nM at hP'
    rw[if_pos hP',an (by omega) (by omega)]
    exact y5 N hl (m-1) n (i+1) (by omega) (by omega) (by omega) (fun j hj=>by
     by_cases sG:j=i
     ·subst sG;exact hP
     ·exact hp j (by omega))
   ·have hP':=hP
    unfold nM at hP'
    rw[if_neg hP']
    refine⟨_,rfl,?_⟩
    rw[cv (by omega)]
    unfold gi
    rw[decide_eq_false (fun h'=>hP (h' i h))];rfl
  ·rw[ax (by omega),cond_false]
   refine⟨_,rfl,?_⟩
   rw[cn (by omega)]
   unfold gi
   rw[decide_eq_true (fun j hj=>hp j (by omega))];rfl
theorem Ll(N:Nat){l:List Int}(hl:l.length≤100000)(hN:200000≤N):F83 N l ()=some (!gi l):=by
 unfold F83 nr nr.b
 obtain⟨r,e,h⟩:=y5 N hl l.length N 0 (by omega) (by omega) (by omega) (fun j hj=>absurd hj (by omega))
 rw[show((0:Nat):Int)=0 from rfl]at e
 rw[e,Option.bind_some,h]
def lE(c:ae)(a:aE)(l:aW)(i:Nat):Prop:=
 (jr a (l.getD i eG).2.1).2=true∧NP (l.getD i eG).2.2.1 c.1.length
instance(c:ae)(a:aE)(l:aW):DecidablePred (lE c a l):=fun i=>by unfold lE;infer_instance
theorem y6{x n:Int}{f:Bool}{r:Option Bool}:cond (!f) (some false) (cond (bR n x) (some false) r)=if f=true∧NP x n then r else some false:=by
 unfold NP
 rw[bM,cond_not]
 by_cases hx:n≤x
 ·have: ¬x<n:=by omega
  cases f<;>simp[hx,this]
 ·have:x<n:=by omega
  cases f<;>simp[hx,this]
theorem CQ(N:Nat)(hN:200000≤N)(c:ae)(b:ag)(ha:b.2.1.length≤100000)(hl:b.2.2.2.2.2.1.length≤100000)(hp:b.2.2.2.2.1.length≤100000):
  ic.sS N N c b b.2.2.2.2.2.1 (b.2.2.2.2.2.1.length:Int) 0=some (decide (∀j,j<b.2.2.2.2.2.1.length→lE c b.2.1 b.2.2.2.2.2.1 j)&&gi b.2.2.2.2.1):=by
 refine fg (F:=fun n i=>ic.sS N n c b b.2.2.2.2.2.1 (b.2.2.2.2.2.1.length:Int) i) (lE c b.2.1 b.2.2.2.2.2.1) (fun n i r hi AV hr=> ?_) (fun n=> ?_) N (by omega)
 ·unfold ic.sS ic.rV
  rw[aD (by omega),cond_true,aF (by omega) (by omega),cond_true,Int.toNat_natCast,an (x:=(i:Int)+1) (by omega) (by omega),aa,hr]
  simp only[Im N b ha hN,Option.bind_some]
  rw[y6]
  rfl
 ·unfold ic.sS ic.rV
  rw[ax (by omega),cond_false,Ll N hp hN,Option.bind_some,Bool.not_not]
def c8(c:ae)(b:ag):Bool:=
 fm c&&(qE b.1 b.2.1&&(eX b.2.2.1&&(decide (eB (js b.2.2.1) 0)&&(qG b.2.2.2.1&&(jo b.2.2.2.2.2.1&&(decide (eB b.2.2.2.2.1.length c.1.length)&&
  (decide (∀j,j<b.2.2.1.length→iv b.1 b.2.1 b.2.2.1 j)&&(decide (∀j,j<b.2.2.2.1.length→gE c b.2.1 b.2.2.2.1 j)&&(decide (∀j,j<b.2.2.2.2.2.1.length→lE c b.2.1 b.2.2.2.2.2.1 j)&&gi b.2.2.2.2.1)))))))))
structure k7(b:ag):Prop where
 m:b.1.length≤100000
 a:b.2.1.length≤100000
 r:b.2.2.1.length≤100000
 s:b.2.2.2.1.length≤100000
 p:b.2.2.2.2.1.length≤100000
 o:b.2.2.2.2.2.1.length≤100000
 qr:di b.2.2.1
 qs:di b.2.2.2.1
theorem kJ{x:Bool}{r:Option Bool}{y:Bool}(h:r=some y):cond (!x) (some false) r=some (x&&y):=by subst h;cases x<;>rfl
theorem JX(N:Nat)(hN:4000000≤N){c:ae}{b:ag}(w:k7 b):ic N c b=some (c8 c b):=by
 unfold ic ic.b c8
 rw[Q6 N (by omega),Option.bind_some]
 refine kJ ?_
 rw[Ra N w.m w.a (by omega),Option.bind_some]
 refine kJ ?_
 rw[CL N w.r (by omega),Option.bind_some]
 refine kJ ?_
 rw[NN N w.qr w.r (by omega),Option.bind_some,ug,Option.bind_some]
 have e0:ay (rn (js b.2.2.1)) 0=decide (eB (js b.2.2.1) 0):=by rw[fI,decide_eq_decide];exact kI
 rw[e0]
 refine kJ ?_
 rw[Rf N w.qs w.s (by omega),Option.bind_some]
 refine kJ ?_
 rw[Le N w.o (by omega),Option.bind_some]
 refine kJ ?_
 rw[fI]
 refine kJ ?_
 exact AE N (by omega) c b w.m w.a w.r (CP N (by omega) c b w.a w.s (CQ N (by omega) c b w.a w.o w.p))
end VM
end
section
namespace VM
open Go VM.F
theorem uh(N:Nat)(b:ag)(hl:b.2.1.length≤100000)(hN:200000≤N)(id:Int):CR N b id=some ((jr b.2.1 id).2||decide (eB id 0)):=by
 unfold CR
 rw[E6 N hl hN,Option.bind_some,fI]
 cases(jr b.2.1 id).2<;>rfl
theorem Io{k:Int}{f:Bool}{z:Int}{r:Option Bool}:cond (ay k 5) (cond (!f) (some false) (cond (ay k 6) (cond (ay z 0) (some false) r) (cond (ay k 7) (cond (ay z 0) (some false) r) r))) (cond (ay k 6) (cond (ay z 0) (some false) r) (cond (ay k 7) (cond (ay z 0) (some false) r) r))=
  if(eB k 5→f=true)∧(eB k 6∨eB k 7→ ¬eB z 0)then r else some false:=by
 unfold eB
 rw[az,az,az,az,cond_not]
 by_cases h5:k=5
 ·have h6: ¬(k=6):=by omega
  have h7: ¬(k=7):=by omega
  cases f<;>simp[h5,h6,h7]
 ·by_cases h6:k=6
  ·by_cases hz:z=0<;>simp[h5,h6,hz]
  ·by_cases h7:k=7
   ·by_cases hz:z=0<;>simp[h5,h6,h7,hz]
   ·simp[h5,h6,h7]
theorem AF(N:Nat)(hN:200000≤N)(c:ae)(b:ag)(ha:b.2.1.length≤100000)(hl:b.2.2.2.2.2.1.length≤100000)(ho:jo b.2.2.2.2.2.1=true):
  bC.sS N N c b 0=some (decide (∀j,j<b.2.2.2.2.2.1.length→lE c b.2.1 b.2.2.2.2.2.1 j)&&true):=by
 refine fg (F:=fun n i=>bC.sS N n c b i) (lE c b.2.1 b.2.2.2.2.2.1) (fun n i r hi AV hr=> ?_) (fun n=> ?_) N (by omega)
 ·unfold bC.sS bC.rV
  unfold jo at ho
  rw[Bool.and_eq_true,decide_eq_true_iff]at ho
  have h1:=(ho.1 i hi).1
  unfold qC sO at h1
  have h2:decide (eB (b.2.2.2.2.2.1.getD i eG).2.1 0)=false:=decide_eq_false (by unfold eB;omega)
  rw[aD (by omega),cond_true,aF (by omega) (by omega),cond_true,Int.toNat_natCast,an (x:=(i:Int)+1) (by omega) (by omega),aa,hr]
  simp only[uh N b ha hN,Option.bind_some,cond_true]
  rw[h2,Bool.or_false,y6]
  rfl
 ·unfold bC.sS bC.rV
  rw[ax (by omega),cond_false]
theorem xl(N:Nat)(hN:200000≤N)(c:ae)(b:ag)(hl:b.2.2.2.2.1.length≤100000){e:Bool}(he:bC.sS N N c b 0=some e):
  bC.EN N N c b 0=some (gi b.2.2.2.2.1&&e):=by
 refine fg (F:=fun n i=>bC.EN N n c b i) (nM b.2.2.2.2.1) (fun n i r hi AV hr=> ?_) (fun n=> ?_) N (by omega)
 ·unfold bC.EN bC.EO
  rw[aD (by omega),cond_true,aF (by omega) (by omega),cond_true,Int.toNat_natCast,an (x:=(i:Int)+1) (by omega) (by omega),aa,hr,iO,Option.bind_some,cond_not,ew]
  rfl
 ·unfold bC.EN bC.EO
  rw[ax (by omega),cond_false];exact he
theorem AG(N:Nat)(hN:200000≤N)(c:ae)(b:ag)(ha:b.2.1.length≤100000)(hl:b.2.2.2.1.length≤100000){e:Bool}(he:bC.EN N N c b 0=some e):
  bC.nh N N c b 0=some (decide (∀j,j<b.2.2.2.1.length→gE c b.2.1 b.2.2.2.1 j)&&e):=by
 refine fg (F:=fun n i=>bC.nh N n c b i) (gE c b.2.1 b.2.2.2.1) (fun n i r hi AV hr=> ?_) (fun n=> ?_) N (by omega)
 ·unfold bC.nh bC.lF
  rw[aD (by omega),cond_true,aF (by omega) (by omega),cond_true,Int.toNat_natCast,an (x:=(i:Int)+1) (by omega) (by omega),aa,hr]
  simp only[uh N b ha hN,Option.bind_some,cond_true]
  rw[y6]
  have NR:((((jr b.2.1 (b.2.2.2.1.getD i aR).1).2||decide (eB (b.2.2.2.1.getD i aR).1 0))=true)∧NP (b.2.2.2.1.getD i aR).2.1 c.1.length)↔gE c b.2.1 b.2.2.2.1 i:=by
   unfold gE
   rw[Bool.or_eq_true,decide_eq_true_iff]
   exact⟨fun h=>⟨h.1.symm,h.2⟩,fun h=>⟨h.1.symm,h.2⟩⟩
  by_cases hP:gE c b.2.1 b.2.2.2.1 i
  ·rw[if_pos hP,if_pos (NR.2 hP)]
  ·rw[if_neg hP,if_neg (fun h=>hP (NR.1 h))]
 ·unfold bC.nh bC.lF
  rw[ax (by omega),cond_false];exact he
theorem y7(N:Nat)(hN:200000≤N)(c:ae)(b:ag)(hm:b.1.length≤100000)(ha:b.2.1.length≤100000)(hl:b.2.2.1.length≤100000)(hk:eX b.2.2.1=true){e:Bool}
  (he:bC.nh N N c b 0=some e):bC.l6 N N c b 0=some (decide (∀j,j<b.2.2.1.length→iv b.1 b.2.1 b.2.2.1 j)&&e):=by
 refine fg (F:=fun n i=>bC.l6 N n c b i) (iv b.1 b.2.1 b.2.2.1) (fun n i r hi AV hr=> ?_) (fun n=> ?_) N (by omega)
 ·unfold bC.l6 bC.oI
  unfold eX at hk
  rw[Bool.and_true,decide_eq_true_iff]at hk
  have h1:=(hk i hi).1
  rw[aD (by omega),cond_true,aF (by omega) (by omega),cond_true,Int.toNat_natCast,an (x:=(i:Int)+1) (by omega) (by omega),aa,hr]
  simp only[uh N b ha hN,yZ N hm hN,Option.bind_some]
  rw[Io]
  have NR:((eB (b.2.2.1.getD i aR).1 5→((jr b.2.1 (b.2.2.1.getD i aR).2.1).2||decide (eB (b.2.2.1.getD i aR).2.1 0))=true)∧(eB (b.2.2.1.getD i aR).1 6∨eB (b.2.2.1.getD i aR).1 7→ ¬eB (mH b.1 (b.2.2.1.getD i aR).2.1) 0))↔iv b.1 b.2.1 b.2.2.1 i:=by
   unfold iv
   refine and_congr_left fun _=>imp_congr_right fun h5=> ?_
   rw[Bool.or_eq_true,decide_eq_true_iff]
   refine⟨fun h=>h.elim id fun h0=> ?_,.inl⟩
   unfold eO at h1;unfold eB at h5 h0;omega
  by_cases hP:iv b.1 b.2.1 b.2.2.1 i
  ·rw[if_pos hP,if_pos (NR.2 hP)]
  ·rw[if_neg hP,if_neg (fun h=>hP (NR.1 h))]
 ·unfold bC.l6 bC.oI
  rw[ax (by omega),cond_false];exact he
end VM
end
section
namespace VM
open Go VM.F
theorem jZ{x:Bool}{r:Option Bool}{y:Bool}(h:x=true→r=some y):cond (!x) (some false) r=some (x&&y):=by
 cases x
 ·rfl
 ·exact h rfl
theorem y8(N:Nat)(hN:5000000≤N){c:ae}{b:ag}(w:k7 b):bC N c b=some (c8 c b):=by
 unfold bC bC.b
 rw[ow N (by omega),Option.bind_some]
 have e0:ay (rn (js b.2.2.1)) 0=decide (eB (js b.2.2.1) 0):=by rw[fI,decide_eq_decide];exact kI
 refine(jZ fun _=> ?_).trans (congrArg some (?_:(fm c&&(qE b.1 b.2.1&&(eX b.2.2.1&&(qG b.2.2.2.1&&(jo b.2.2.2.2.2.1&&(decide (eB b.2.2.2.2.1.length c.1.length)&&(decide (eB (js b.2.2.1) 0)&&
  (decide (∀j,j<b.2.2.1.length→iv b.1 b.2.1 b.2.2.1 j)&&(decide (∀j,j<b.2.2.2.1.length→gE c b.2.1 b.2.2.2.1 j)&&(gi b.2.2.2.2.1&&(decide (∀j,j<b.2.2.2.2.2.1.length→lE c b.2.1 b.2.2.2.2.2.1 j)&&true)))))))))))=c8 c b))
 ·rw[y4 N w.m w.a (by omega),Option.bind_some]
  refine jZ fun _=> ?_
  rw[yW N w.r (by omega),Option.bind_some]
  refine jZ fun hk=> ?_
  rw[NO N w.qs w.s (by omega),Option.bind_some]
  refine jZ fun _=> ?_
  rw[mG N w.o (by omega),Option.bind_some]
  refine jZ fun ho=> ?_
  rw[fI]
  refine jZ fun _=> ?_
  rw[Li N w.qr w.r (by omega),Option.bind_some,oX,Option.bind_some,e0]
  refine jZ fun _=> ?_
  exact y7 N (by omega) c b w.m w.a w.r hk (AG N (by omega) c b w.a w.s (xl N (by omega) c b w.p (AF N (by omega) c b w.a w.o ho)))
 ·unfold c8
  generalize fm c=x1,qE b.1 b.2.1=x2,eX b.2.2.1=x3,qG b.2.2.2.1=x4,jo b.2.2.2.2.2.1=x5,decide (eB b.2.2.2.2.1.length c.1.length)=x6,decide (eB (js b.2.2.1) 0)=x7,decide (∀j,j<b.2.2.1.length→iv b.1 b.2.1 b.2.2.1 j)=x8,decide (∀j,j<b.2.2.2.1.length→gE c b.2.1 b.2.2.2.1 j)=x9,gi b.2.2.2.2.1=aO,decide (∀j,j<b.2.2.2.2.2.1.length→lE c b.2.1 b.2.2.2.2.2.1 j)=aH
  rw[Bool.and_true]
  cases x1<;>cases x2<;>cases x3<;>cases x4<;>cases x5<;>cases x6<;>cases x7<;>try rfl
  cases x8<;>cases x9<;>cases aO<;>cases aH<;>rfl
end VM
end
section
namespace VM
open Go VM.F
def qI(a q n:Int)(i:Nat)(p:Int):Prop:=0≤a∧a<n∧q≠0∧n5 q∧(0<i→p<a)
instance(a q n:Int)(i:Nat)(p:Int):Decidable (qI a q n i p):=by unfold qI;infer_instance
def qJ(c:ae)(l:av)(i:Nat):Prop:=qI (l.getD i ca).1 (l.getD i ca).2.1 c.1.length i (l.getD (i-1) ca).1
instance(c:ae)(l:av):DecidablePred (qJ c l):=fun i=>by unfold qJ;infer_instance
def CS(c:ae)(l:av):Bool:=decide (∀j,j<l.length→qJ c l j)&&fm c
end VM
end
section
namespace VM
open Go VM.F
theorem ui(N:Nat)(hN:200000≤N)(c:ae){l:av}(hl:l.length≤100000):jt N c l=some (CS c l):=by
 unfold jt jt.b
 rw[ow N (by omega),Option.bind_some]
 have hsc:=fg (F:=fun n i=>jt.l4 N n l c i) (e:=true) (qJ c l) (fun n i r hi hp hr=> ?_) (fun n=> ?_) N (show l.length<N by omega)
 ·rw[kJ hsc];unfold CS
  rw[Bool.and_true,Bool.and_comm]
 ·unfold jt.l4 jt.cj
  rw[aD (by omega),cond_true,aF (by omega) (by omega),cond_true,Int.toNat_natCast,an (x:=(i:Int)+1) (by omega) (by omega),aa,hr]
  by_cases h0:0<i
  ·have e:W .i64 ((i:Int)-1)=((i-1:Nat):Int):=by rw[an (by omega) (by omega)];omega
   dsimp only
   rw[aD (x:=0) (y:=(i:Int)) (by omega),e,Int.toNat_natCast,aF (i:=((i-1:Nat):Int)) (by omega) (by omega)]
   simp only[bL,bM,az,cond_true]
   by_cases hP:qJ c l i
   ·rw[if_pos hP];unfold qJ qI at hP
    rw[if_neg (by omega),if_neg (by omega),if_neg hP.2.2.1,if_neg (show ¬((l.getD i ca).2.1:Int)= -9223372036854775808 from hP.2.2.2.1),if_neg (by omega)]
   ·rw[if_neg hP];unfold qJ qI at hP
    have h2:=fun h1 h2 h3 h4 h5=>hP ⟨h1,h2,h3,h4,h5⟩
    repeat' split
    all_goals first|rfl|(exfalso;exact h2 (by omega) (by omega) (by assumption) (by assumption) (by omega))
  ·rw[ax (x:=0) (y:=(i:Int)) (by omega)]
   simp only[bL,bM,az,cond_true,cond_false]
   by_cases hP:qJ c l i
   ·rw[if_pos hP];unfold qJ qI at hP
    rw[if_neg (by omega),if_neg (by omega),if_neg hP.2.2.1,if_neg (show ¬((l.getD i ca).2.1:Int)= -9223372036854775808 from hP.2.2.2.1)]
   ·rw[if_neg hP];unfold qJ qI at hP
    have h2:=fun h1 h2 h3 h4 h5=>hP ⟨h1,h2,h3,h4,h5⟩
    repeat' split
    all_goals first|rfl|(exfalso;exact h2 (by omega) (by omega) (by assumption) (by assumption) (by omega))
 ·unfold jt.l4 jt.cj
  rw[ax (by omega),cond_false]
end VM
end
section
namespace VM
open Go VM.F
def Ip(a b c d:Int):Prop:=(1≤a∧a≤1099511627776)∧(1≤b∧b≤1099511627776)∧(1≤c∧c≤12)∧(-1152921504606846976≤d∧d≤1152921504606846976)
instance(a b c d:Int):Decidable (Ip a b c d):=by unfold Ip;infer_instance
def NS(x:bS):Prop:=Ip x.1 x.2.1 x.2.2.1 x.2.2.2.1
instance(x:bS):Decidable (NS x):=by unfold NS;infer_instance
end VM
end
section
namespace VM
open Go VM.F
def sm(m lot:Int)(x:bS):Bool:=decide (eB x.2.2.1 m)&&decide (eB x.2.1 lot)
end VM
end
section
namespace VM
open Go VM.F
def CT(l:aE)(i:Nat):Prop:=NS (l.getD i aS)∧qD i (l.getD (i-1) aS).1 (l.getD i aS).1∧(l.take i).any (sm (l.getD i aS).2.2.1 (l.getD i aS).2.1)=false
instance(l:aE):DecidablePred (CT l):=fun i=>by unfold CT;infer_instance
def aj8(l:aE):Bool:=decide (∀j,j<l.length→CT l j)&&decide (l.length≤40)
end VM
end
section
namespace VM
open Go VM.F
def bV(a b:Int):ah→List Int
 |[]=>[]
 |x::t=>if x.1=a∧x.2.1=b then da x::bV a b t else bV a b t
theorem cZ(a b:Int)(x:cE)(t:ah):bV a b (x::t)=if x.1=a∧x.2.1=b then da x::bV a b t else bV a b t:=rfl
def bJ(a b:Int)(l:ah):Int:=(bV a b l).sum
theorem Lm(a b:Int):bJ a b []=0:=rfl
theorem gj(a b:Int)(x:cE)(t:ah):bJ a b (x::t)=(if x.1=a∧x.2.1=b then da x else 0)+bJ a b t:=by
 unfold bJ
 rw[cZ]
 split
 ·rw[List.sum_cons]
 ·omega
theorem iF{a b:Int}: ∀{l:ah},(∀x∈l,¬(x.1=a∧x.2.1=b))→bJ a b l=0
 |[],_=>rfl
 |x::t,h=>by
  rw[gj,if_neg (h x (List.mem_cons_self ..)),iF (fun y hy=>h y (List.mem_cons_of_mem _ hy))];rfl
abbrev cB:=Int×Int
def n6(x y:cB):Prop:=iN x.1 x.2 y.1 y.2
instance(x y:cB):Decidable (n6 x y):=by unfold n6;infer_instance
def keyOf(x:cE):cB:=(x.1,x.2.1)
def ru(K:List cB):Prop:=K.Pairwise n6
theorem lG{x:cB}(h:n6 x x):False:=by unfold n6 iN at h;omega
theorem Br{x y:cB}(h:n6 x y)(k:n6 y x):False:=by unfold n6 iN at*;omega
theorem ry{x y z:cB}(h:n6 x y)(k:n6 y z):n6 x z:=by unfold n6 iN at*;omega
theorem JY(x y:cB):n6 x y∨x=y∨n6 y x:=by
 have:(x.1=y.1∧x.2=y.2)→x=y:=fun h=>Prod.ext h.1 h.2
 unfold n6 iN
 by_cases h1:x.1=y.1
 ·by_cases h2:x.2=y.2
  ·exact Or.inr (Or.inl (this ⟨h1,h2⟩))
  ·omega
 ·omega
theorem JZ: ∀{a b:List cB},ru a→ru b→(∀x,x∈a↔x∈b)→a=b
 |[],[],_,_,_=>rfl
 |[],y::t,_,_,h=>nomatch (h y).2 (List.mem_cons_self ..)
 |x::s,[],_,_,h=>nomatch (h x).1 (List.mem_cons_self ..)
 |x::s,y::t,ha,hb,h=>by
  obtain⟨WL,ha2⟩:=List.pairwise_cons.1 ha
  obtain⟨jD,rQ⟩:=List.pairwise_cons.1 hb
  have hxy:x=y:=by
   rcases List.mem_cons.1 ((h x).1 (List.mem_cons_self ..))with e|e
   ·exact e
   ·rcases List.mem_cons.1 ((h y).2 (List.mem_cons_self ..))with f|f
    ·exact f.symm
    ·exact(Br (WL y f) (jD x e)).elim
  subst hxy
  rw[JZ ha2 rQ fun z=>⟨fun hz=> ?_,fun hz=> ?_⟩]
  ·rcases List.mem_cons.1 ((h z).1 (List.mem_cons_of_mem _ hz))with e|e
   ·subst e;exact(lG (WL z hz)).elim
   ·exact e
  ·rcases List.mem_cons.1 ((h z).2 (List.mem_cons_of_mem _ hz))with e|e
   ·subst e;exact(lG (jD z hz)).elim
   ·exact e
def dx(P:Int→Prop) [DecidablePred P](f:Int→Int→Int):List cB→Option ah
 |[]=>some []
 |k::t=>if P (f k.1 k.2)then(dx P f t).map (fun o=>if f k.1 k.2=0 then o else(k.1,(k.2,(f k.1 k.2,())))::o)else none
theorem j1(P:Int→Prop) [DecidablePred P](f:Int→Int→Int)(k:cB)(t:List cB):dx P f (k::t)=if P (f k.1 k.2)then(dx P f t).map (fun o=>if f k.1 k.2=0 then o else(k.1,(k.2,(f k.1 k.2,())))::o)else none:=rfl
theorem wD{P:Int→Prop} [DecidablePred P](h0:P 0){f:Int→Int→Int}(p:cB→Bool): ∀{K:List cB},(∀k∈K,p k=false→f k.1 k.2=0)→dx P f (K.filter p)=dx P f K
 |[],_=>rfl
 |k::t,h=>by
  have ih:=wD h0 p (K:=t) (fun x hx=>h x (List.mem_cons_of_mem _ hx))
  cases hp:p k
  ·rw[List.filter_cons_of_neg (by rw[hp];decide),ih,j1,h k (List.mem_cons_self ..) hp,if_pos h0]
   simp
  ·rw[List.filter_cons_of_pos hp,j1,j1,ih]
theorem Fa{P:Int→Prop} [DecidablePred P](h0:P 0){f:Int→Int→Int}{K G:List cB}(hK:ru K)(hG:ru G)(hs: ∀k∈K,k∈G)(hz: ∀k∈G,k∉K→f k.1 k.2=0):dx P f K=dx P f G:=by
 have e:K=G.filter (fun k=>decide (k∈K)):=by
  refine JZ hK (List.Pairwise.sublist List.filter_sublist hG) fun x=> ?_
  rw[List.mem_filter]
  exact⟨fun h=>⟨hs x h,decide_eq_true h⟩,fun h=>of_decide_eq_true h.2⟩
 rw[e]
 exact wD h0 _ fun k hk hp=>hz k hk (of_decide_eq_false hp)
def qK(k:cB):List cB→List cB
 |[]=>[k]
 |x::t=>if n6 x k then x::qK k t else if x=k then x::t else k::x::t
theorem mI{k x:cB}: ∀{K:List cB},x∈qK k K↔x=k∨x∈K
 |[]=>by show x∈[k]↔_;simp
 |y::t=>by
  show x∈(if n6 y k then y::qK k t else if y=k then y::t else k::y::t)↔_
  split
  ·rw[List.mem_cons,mI,List.mem_cons]
   exact⟨fun h=>h.elim (fun e=>Or.inr (Or.inl e)) (fun h=>h.elim Or.inl (fun h=>Or.inr (Or.inr h))),fun h=>h.elim (fun e=>Or.inr (Or.inl e)) (fun h=>h.elim Or.inl (fun h=>Or.inr (Or.inr h)))⟩
  ·split
   ·rename_i e
    rw[←e]
    exact⟨Or.inr,fun h=>h.elim (fun e=>e▸List.mem_cons_self ..) id⟩
   ·rw[List.mem_cons]
theorem uj{k:cB}: ∀{K:List cB},ru K→ru (qK k K)
 |[],_=>List.pairwise_cons.2 ⟨fun _ h=>(nomatch h),List.Pairwise.nil⟩
 |y::t,h=>by
  obtain⟨h1,h2⟩:=List.pairwise_cons.1 h
  show ru (if n6 y k then y::qK k t else if y=k then y::t else k::y::t)
  split
  ·rename_i hy
   exact List.pairwise_cons.2 ⟨fun z hz=>(mI.1 hz).elim (fun e=>e▸hy) (h1 z),uj h2⟩
  ·rename_i hy
   split
   ·exact h
   ·rename_i he
    have hk:n6 k y:=(JY y k).elim (fun h=>absurd h hy) (fun h=>h.elim (fun h=>absurd h he) id)
    exact List.pairwise_cons.2 ⟨fun z hz=>(List.mem_cons.1 hz).elim (fun e=>e▸hk) (fun hz=>ry hk (h1 z hz)),h⟩
def ju(K:List cB)(E:ah):List cB:=E.foldl (fun K x=>qK (keyOf x) K) K
theorem nN(K:List cB)(x:cE)(E:ah):ju K (x::E)=ju (qK (keyOf x) K) E:=rfl
theorem sT: ∀{E:ah} {K:List cB},ru K→ru (ju K E)
 |[],_,h=>h
 |x::E,K,h=>by rw[nN];exact sT (uj h)
theorem iG{k:cB}: ∀{E:ah} {K:List cB},k∈ju K E↔(k∈K∨ ∃x∈E,keyOf x=k)
 |[],K=>by
  show k∈K↔_
  simp
 |x::E,K=>by
  rw[nN,iG,mI]
  constructor
  ·rintro((rfl|h)|⟨y,hy,e⟩)
   ·exact Or.inr ⟨x,List.mem_cons_self ..,rfl⟩
   ·exact Or.inl h
   ·exact Or.inr ⟨y,List.mem_cons_of_mem _ hy,e⟩
  ·rintro(h|⟨y,hy,e⟩)
   ·exact Or.inl (Or.inr h)
   ·rcases List.mem_cons.1 hy with rfl|hy
    ·exact Or.inl (Or.inl e.symm)
    ·exact Or.inr ⟨y,hy,e⟩
theorem y9(k:cB): ∀K:List cB,(qK k K).length≤K.length+1
 |[]=>Nat.le_refl _
 |y::t=>by
  show(if n6 y k then y::qK k t else if y=k then y::t else k::y::t).length≤_
  have:=y9 k t
  split
  ·rw[List.length_cons,List.length_cons];omega
  ·split<;>rw[List.length_cons]<;>(try rw[List.length_cons])<;>omega
def rowsOf(l:ah)(K:List cB):ah:=K.map fun k=>(k.1,(k.2,(bJ k.1 k.2 l,())))
theorem iP{l:ah}(h:ru (l.map keyOf)):rowsOf l (l.map keyOf)=l:=by
 have key: ∀(m:ah),ru (m.map keyOf)→(∀x∈m,bJ x.1 x.2.1 l=da x)→rowsOf l (m.map keyOf)=m:=by
  intro m
  induction m with
  |nil=>intro _ _;rfl
  |cons x t ih=>
   intro hm hx
   have:=ih (List.pairwise_cons.1 hm).2 (fun y hy=>hx y (List.mem_cons_of_mem _ hy))
   unfold rowsOf at*
   rw[List.map_cons,List.map_cons,this]
   congr 1
   show(x.1,(x.2.1,(bJ x.1 x.2.1 l,())))=x
   rw[hx x (List.mem_cons_self ..)];rfl
 refine key l h ?_
 clear key
 induction l with
 |nil=>intro x hx;nomatch hx
 |cons y t ih=>
  intro x hx
  obtain⟨h1,h2⟩:=List.pairwise_cons.1 h
  have g7: ∀z∈t,¬(z.1=y.1∧z.2.1=y.2.1):=fun z hz e=>by
   have hk:=h1 (keyOf z) (List.mem_map_of_mem hz)
   have he:keyOf z=keyOf y:=Prod.ext e.1 e.2
   rw[he]at hk
   exact lG hk
  rw[gj]
  rcases List.mem_cons.1 hx with rfl|hx
  ·rw[if_pos ⟨rfl,rfl⟩,iF g7];omega
  ·rw[if_neg (fun e=>g7 x hx ⟨e.1.symm,e.2.symm⟩),ih h2 x hx];omega
end VM
end
section
namespace VM
open Go VM.F
instance(x:Int):Decidable (aC x):=by unfold aC;infer_instance
def Fq(x:Int):Prop:=aC x∧n5 x
instance:DecidablePred Fq:=fun x=>by unfold Fq;infer_instance
def o9(r:Option ah):Option (ah×Int):=some (match r with|some o=>(o,0)|none=>([],2))
def fS(l E:ah)(a b:Int):Int:=bJ a b l+bJ a b E
theorem xS{α:Type}(N:Nat){l:List α}{i:Nat}{x:α}(hi:i≤l.length)(hl:l.length<1000000):gq N l (i:Int) [x]=some (l.take i++x::l.drop i):=by
 unfold gq
 rw[if_pos ⟨by omega,by omega,rfl,by unfold s8;omega⟩]
 rfl
theorem qL{α:Type}(N:Nat){l:List α}(hl:l.length≤1000000):jQ N l=some l:=by
 unfold jQ
 rw[if_pos (by unfold s8;omega)]
theorem za(N:Nat){v:Int}(h:dV v):CJ N (cw v)=some (tT v):=CI N h.1 h.2
theorem rz{v:Int}(h:aC v):tT v=(v,true):=by unfold tT;exact if_pos h
theorem uk{v:Int}(h: ¬aC v):tT v=(0,false):=by unfold tT;exact if_neg h
theorem vt{ws:List Int}{x:Int}(h: ∀y∈ws,aC y)(hx:aC x): ∀y∈ws++[x],aC y:=fun y hy=>by
 rcases List.mem_append.1 hy with hy|hy
 ·exact h y hy
 ·rw[List.mem_singleton.1 hy];exact hx
theorem Fb(N:Nat){l:ah}:Rg N l=some l:=by
 unfold Rg
 rw[bY (by omega) (by omega) (by omega) (by omega),cond_true]
 simp
theorem NT(N:Nat)(hN:2000000≤N)(K:bs.Bs){E out R:ah}(hq:di E)(hl:E.length≤100000)(ho:out.length≤1000000)(r:cE)(hr:aC (da r))(i:Nat)(hi:i≤1000000):
  bs.WR N K N E out r [cw (da r)] R (R.length:Int) (i:Int) E (E.length:Int) 0=
   if Fq (da r+bJ r.1 r.2.1 E)then K E (if da r+bJ r.1 r.2.1 E=0 then out else out++[(r.1,(r.2.1,(da r+bJ r.1 r.2.1 E,())))]) R (R.length:Int) ((i+1:Nat):Int)else some (bq,(2:Int)):=by
 have:=nq E aR (fun n j ws=>bs.WR N K n E out r (ws.map cw) R (R.length:Int) (i:Int) E (E.length:Int) j)
  (fun t ws=>if Fq (ws++bV r.1 r.2.1 t).sum then K E (if(ws++bV r.1 r.2.1 t).sum=0 then out else out++[(r.1,(r.2.1,((ws++bV r.1 r.2.1 t).sum,())))]) R (R.length:Int) ((i+1:Nat):Int)else some (bq,(2:Int)))
  (fun j (ws:List Int)=>ws.length≤j+1∧ ∀x∈ws,aC x)
  (fun n j ws hj hI eg=> ?_) (fun n ws hI=> ?_) E.length N 0 [da r] (by omega) (by omega) (by omega) ⟨Nat.le_refl _,fun x hx=>by rw[List.mem_singleton.1 hx];exact hr⟩
 ·rw[show((0:Nat):Int)=0 from rfl,List.drop_zero]at this
  refine this.trans ?_
  have e:([da r]++bV r.1 r.2.1 E).sum=da r+bJ r.1 r.2.1 E:=by rw[List.singleton_append,List.sum_cons];rfl
  rw[e]
 ·unfold bs.WR bs.Rh
  have sl:=sR hq j
  have eY:=sl
  unfold aC da at eY
  rw[aD (by omega),cond_true,aF (by omega) (by omega),cond_true,Int.toNat_natCast,vm N eY.1 eY.2,Option.bind_some,a6 (by rw[List.length_map,List.length_singleton];omega),cond_true,an (x:=(j:Int)+1) (by omega) (by omega),aa,az,az]
  by_cases h1:(E.getD j aR).1=r.1
  ·by_cases h2:(E.getD j aR).2.1=r.2.1
   ·have hc:bV r.1 r.2.1 (E.getD j aR::E.drop (j+1))=da (E.getD j aR)::bV r.1 r.2.1 (E.drop (j+1)):=by rw[cZ,if_pos ⟨h1,h2⟩]
    rw[if_pos h1,if_pos h2,hc]
    have:=eg (ws++[da (E.getD j aR)]) ⟨by rw[List.length_append,List.length_singleton];omega,vt hI.2 sl⟩
    rw[List.map_append]at this
    refine this.trans ?_
    rw[List.append_assoc];rfl
   ·have hc:bV r.1 r.2.1 (E.getD j aR::E.drop (j+1))=bV r.1 r.2.1 (E.drop (j+1)):=by rw[cZ,if_neg (fun h=>h2 h.2)]
    rw[if_pos h1,if_neg h2,hc]
    exact eg ws ⟨by omega,hI.2⟩
  ·have hc:bV r.1 r.2.1 (E.getD j aR::E.drop (j+1))=bV r.1 r.2.1 (E.drop (j+1)):=by rw[cZ,if_neg (fun h=>h1 h.1)]
   rw[if_neg h1,hc]
   exact eg ws ⟨by omega,hI.2⟩
 ·unfold bs.WR bs.Rh
  have hs:=Bq hI.2 (by omega)
  rw[ax (by omega),cond_false,CO N hI.2 (by omega) (by omega),Option.bind_some]
  show _=if Fq (ws++[]).sum then K E (if(ws++[]).sum=0 then out else out++[(r.1,(r.2.1,((ws++[]).sum,())))]) R (R.length:Int) ((i+1:Nat):Int)else some (bq,(2:Int))
  rw[List.append_nil,za N hs,Option.bind_some]
  by_cases h1:aC ws.sum
  ·rw[rz h1]
   dsimp only
   rw[Bool.not_true,cond_false,qB,Option.bind_some,cond_not,ew,cond_not,az,a6 (by rw[List.length_singleton];omega),cond_true,an (x:=(i:Int)+1) (by omega) (by omega),aa]
   by_cases h2:n5 ws.sum
   ·rw[if_pos h2,if_pos (show Fq ws.sum from⟨h1,h2⟩)]
    split<;>rfl
   ·rw[if_neg h2,if_neg (fun h=>h2 h.2)]
  ·rw[uk h1,if_neg (fun h=>h1 h.1)]
   rfl
theorem Ln(N:Nat)(hN:2000000≤N){l E R:ah}(hq:di E)(hl:E.length≤100000)(hR:R.length≤200000)(hv: ∀r∈R,aC (da r)∧da r=bJ r.1 r.2.1 l):
  bs.Ri N N E [] R (R.length:Int) 0=o9 (dx Fq (fS l E) (R.map keyOf)):=by
 have:=nq R aR (fun n i out=>bs.Ri N n E out R (R.length:Int) i) (fun t out=>o9 ((dx Fq (fS l E) (t.map keyOf)).map (fun o=>out++o))) (fun i (out:ah)=>out.length≤i)
  (fun n i out hi hI hr=> ?_) (fun n out hI=> ?_) R.length N 0 [] (by omega) (by omega) (by omega) (Nat.le_refl _)
 ·rw[show((0:Nat):Int)=0 from rfl,List.drop_zero]at this
  refine this.trans ?_
  simp
 ·unfold bs.Ri bs.Rj
  have hm:R.getD i aR∈R:=by
   rw[List.getD_eq_getElem?_getD,List.getElem?_eq_getElem hi];exact List.getElem_mem hi
  have MF:=hv _ hm
  have sl:=MF.1
  have eY:=sl
  unfold aC da at eY
  rw[aD (by omega),cond_true,aF (by omega) (by omega),cond_true,Int.toNat_natCast,vm N eY.1 eY.2,Option.bind_some]
  refine(NT N hN _ hq hl (by omega) _ sl i (by omega)).trans ?_
  rw[List.map_cons,j1]
  have ef:fS l E (keyOf (R.getD i aR)).1 (keyOf (R.getD i aR)).2=da (R.getD i aR)+bJ (R.getD i aR).1 (R.getD i aR).2.1 E:=by
   show bJ _ _ l+bJ _ _ E=_
   rw[MF.2];rfl
  rw[ef]
  generalize hS:da (R.getD i aR)+bJ (R.getD i aR).1 (R.getD i aR).2.1 E=v
  by_cases hF:Fq v
  ·rw[if_pos hF,if_pos hF,hr _ (by
    split
    ·omega
    ·rw[List.length_append,List.length_singleton];omega)]
   cases dx Fq (fS l E) ((R.drop (i+1)).map keyOf)with
   |none=>rfl
   |some o=>
    show o9 (some _)=o9 (some _)
    congr 2
    split
    ·rfl
    ·exact List.append_assoc _ _ _
  ·rw[if_neg hF,if_neg hF];rfl
 ·unfold bs.Ri bs.Rj
  rw[ax (by omega),cond_false,Fb,Option.bind_some]
  show _=o9 (some (out++[]))
  rw[List.append_nil];rfl
def xm(l:ah)(k:cB):cE:=(k.1,(k.2,(bJ k.1 k.2 l,())))
theorem cM(l:ah)(K:List cB):(rowsOf l K).length=K.length:=List.length_map ..
theorem Bt(l:ah){K:List cB}{p:Nat}(h:p<K.length):(rowsOf l K).getD p aR=xm l (K.getD p (0,0)):=by
 unfold rowsOf
 rw[List.getD_eq_getElem?_getD,List.getElem?_map,List.getElem?_eq_getElem h,List.getD_eq_getElem?_getD,List.getElem?_eq_getElem h];rfl
theorem pa(l:ah)(K:List cB)(p:Nat)(k:cB):(rowsOf l K).take p++xm l k::(rowsOf l K).drop p=rowsOf l (K.take p++k::K.drop p):=by
 unfold rowsOf
 rw[List.map_append,List.map_cons,List.map_take,List.map_drop];rfl
theorem wE(l:ah)(K:List cB):(rowsOf l K).map keyOf=K:=by
 unfold rowsOf
 rw[List.map_map]
 induction K with
 |nil=>rfl
 |cons k t ih=>rw[List.map_cons,ih];rfl
theorem um{k x:cB}:0<vn k.1 k.2 x.1 x.2↔n6 x k:=by
 unfold vn n6 iN;split<;>omega
theorem rA{k x:cB}:vn k.1 k.2 x.1 x.2=0↔x=k:=by
 have:x=k↔x.1=k.1∧x.2=k.2:=⟨fun h=>h▸⟨rfl,rfl⟩,fun h=>Prod.ext h.1 h.2⟩
 rw[this]
 unfold vn;split<;>omega
def uq(k:cB):Prop:=AD k.1∧AD k.2
theorem J0{k:cB}{K:List cB}{p:Nat}(h:p<K.length):qK k (K.drop p)=if n6 (K.getD p (0,0)) k then K.getD p (0,0)::qK k (K.drop (p+1))else if K.getD p (0,0)=k then K.drop p else k::K.drop p:=by
 rw[drop_cons h (0,0)];rfl
theorem ur{K:List cB}{p:Nat}(h:p<K.length)(t:List cB):K.take p++K.getD p (0,0)::t=K.take (p+1)++t:=by
 rw[←List.take_append_getElem h,List.append_assoc,List.getD_eq_getElem?_getD,List.getElem?_eq_getElem h];rfl
def zeroAt(l:ah)(K:List cB)(k:cB):Prop:=k∉K→bJ k.1 k.2 l=0
theorem rB{l:ah}{k:cB}(h:bJ k.1 k.2 l=0):((k.1,(k.2,((0:Int),()))):cE)=xm l k:=by
 unfold xm;rw[h]
theorem pb{k:cB}{K:List cB}{p:Nat}(hs:ru K)(hp: ∀x∈K.take p,n6 x k)(h: ∀x∈K.drop p,n6 k x):k∉K:=fun hk=>by
 rw[←List.take_append_drop p K]at hk
 rcases List.mem_append.1 hk with hk|hk
 ·exact lG (hp k hk)
 ·exact lG (h k hk)
theorem J1{k:cB}{K:List cB}{p:Nat}(hs:ru K)(h:p<K.length)(h1: ¬n6 (K.getD p (0,0)) k)(h2:K.getD p (0,0)≠k): ∀x∈K.drop p,n6 k x:=by
 have hk:n6 k (K.getD p (0,0)):=(JY (K.getD p (0,0)) k).elim (fun h=>absurd h h1) (fun h=>h.elim (fun h=>absurd h h2) id)
 have hd:ru (K.drop p):=List.Pairwise.sublist (List.drop_sublist ..) hs
 rw[drop_cons h (0,0)]at hd ⊢
 intro x hx
 rcases List.mem_cons.1 hx with rfl|hx
 ·exact hk
 ·exact ry hk ((List.pairwise_cons.1 hd).1 x hx)
theorem WS(N:Nat)(C:bs.dP){l E S:ah}{K:List cB}(hs:ru K)(hl:K.length≤100000)(hf: ∀k∈K,uq k)(x:cE)(hx:uq (keyOf x))(hz:zeroAt l K (keyOf x))(len:Int)(i:Nat)(hi:i≤1000000):
  ∀(m n p:Nat),K.length-p≤m→m<n→p≤K.length→(∀y∈K.take p,n6 y (keyOf x))→
   bs.rU N C n E (rowsOf l K) x (p:Int) S len (i:Int)=C E (rowsOf l (K.take p++qK (keyOf x) (K.drop p))) S len ((i+1:Nat):Int)
 |m,0,p,_,hn,_,_=>by omega
 |m,n+1,p,hm,hn,hp,hb=>by
  unfold bs.rU bs.qH bs.j18 bs.YK
  rw[cM,an (x:=(i:Int)+1) (by omega) (by omega),aa i]
  by_cases h:p<K.length
  ·have hfk:=hf (K.getD p (0,0)) (by rw[List.getD_eq_getElem?_getD,List.getElem?_eq_getElem h];exact List.getElem_mem h)
   have ho:Lc N x.1 x.2.1 ((rowsOf l K).getD p aR)=some (vn (keyOf x).1 (keyOf x).2 (K.getD p (0,0)).1 (K.getD p (0,0)).2):=by
    rw[Bt l h]
    exact Bm N hx.1 hx.2 hfk.1 hfk.2
   rw[aD (by omega),cond_true,aF (by omega) (by omega),cond_true,Int.toNat_natCast,ho,Option.bind_some,b9 (x:=(p:Int)) (by omega),cond_false,cond_true,Option.bind_some,bL,cond_not,az,J0 h]
   by_cases h1:n6 (K.getD p (0,0)) (keyOf x)
   ·rw[if_pos (um.2 h1),if_pos h1,an (x:=(p:Int)+1) (by omega) (by omega),aa p,ur h]
    refine WS N C hs hl hf x hx hz len i hi (m-1) n (p+1) (by omega) (by omega) (by omega) fun y hy=> ?_
    rw[←List.take_append_getElem h]at hy
    rcases List.mem_append.1 hy with hy|hy
    ·exact hb y hy
    ·rw[List.getD_eq_getElem?_getD,List.getElem?_eq_getElem h]at h1
     rw[List.mem_singleton.1 hy];exact h1
   ·rw[if_neg (fun h=>h1 (um.1 h)),if_neg h1]
    by_cases h2:K.getD p (0,0)=keyOf x
    ·rw[if_pos (rA.2 h2),if_pos h2,List.take_append_drop]
    ·rw[if_neg (fun h=>h2 (rA.1 h)),if_neg h2,xS N (by rw[cM];omega) (by rw[cM];omega),Option.bind_some]
     have z6:=hz (pb hs hb (J1 hs h h1 h2))
     have e:=pa l K p (keyOf x)
     rw[←rB z6]at e
     exact congrArg (fun R=>C E R S len ((i+1:Nat):Int)) e
  ·have hd:K.drop p=[]:=List.drop_eq_nil_of_le (by omega)
   rw[ax (by omega),cond_false,ch (by omega),cond_true,xS N (by rw[cM];omega) (by rw[cM];omega),Option.bind_some]
   have z6:=hz (pb hs hb (by rw[hd];exact fun x hx=>nomatch hx))
   have e:=pa l K p (keyOf x)
   rw[←rB z6]at e
   have e2:qK (keyOf x) (K.drop p)=keyOf x::K.drop p:=by rw[hd];rfl
   rw[e2]
   exact congrArg (fun R=>C E R S len ((i+1:Nat):Int)) e
end VM
end
section
namespace VM
open Go VM.F
def Bu(E:ah)(i:Nat):Prop:=eB (cQ (i:Int) E).sum 0
instance(E:ah):DecidablePred (Bu E):=fun i=>by unfold Bu;infer_instance
theorem Rk(N:Nat)(hN:2000000≤N)(K:dR.bT){E:ah}(hq:di E)(hl:E.length≤100000)(a:Nat)(ha:a<6):
  dR.l6 N K N E (a:Int) [] (a:Int) E (E.length:Int) 0=if(cQ (a:Int) E).sum=0 then K E ((a+1:Nat):Int)else some false:=by
 have:=nq E aR (fun n j ws=>dR.l6 N K n E (a:Int) (ws.map cw) (a:Int) E (E.length:Int) j)
  (fun t ws=>if(ws++cQ (a:Int) t).sum=0 then K E ((a+1:Nat):Int)else some false)
  (fun j (ws:List Int)=>ws.length≤j∧ ∀x∈ws,aC x)
  (fun n j ws hj hI hr=> ?_) (fun n ws hI=> ?_) E.length N 0 [] (by omega) (by omega) (by omega) ⟨Nat.le_refl _,fun x hx=>nomatch hx⟩
 ·rw[show((0:Nat):Int)=0 from rfl,List.drop_zero]at this
  exact this
 ·unfold dR.l6 dR.oI
  have sl:=sR hq j
  have eY:=sl
  unfold aC da at eY
  rw[aD (by omega),cond_true,aF (by omega) (by omega),cond_true,Int.toNat_natCast,vm N eY.1 eY.2,Option.bind_some,a6 (by rw[List.length_map,List.length_singleton];omega),cond_true,an (x:=(j:Int)+1) (by omega) (by omega),aa j,az]
  by_cases h1:(E.getD j aR).2.1=(a:Int)
  ·have hc:cQ (a:Int) (E.getD j aR::E.drop (j+1))=da (E.getD j aR)::cQ (a:Int) (E.drop (j+1)):=by rw[dO,if_pos h1]
   rw[if_pos h1,hc]
   have:=hr (ws++[da (E.getD j aR)]) ⟨by rw[List.length_append,List.length_singleton];omega,vt hI.2 sl⟩
   rw[List.map_append]at this
   refine this.trans ?_
   rw[List.append_assoc];rfl
  ·have hc:cQ (a:Int) (E.getD j aR::E.drop (j+1))=cQ (a:Int) (E.drop (j+1)):=by rw[dO,if_neg h1]
   rw[if_neg h1,hc]
   exact hr ws ⟨by omega,hI.2⟩
 ·unfold dR.l6 dR.oI
  rw[ax (by omega),cond_false,CO N hI.2 (by omega) (by omega),Option.bind_some]
  show _=if(ws++[]).sum=0 then K E ((a+1:Nat):Int)else some false
  rw[List.append_nil,Bool.not_true,cond_false,ug,Option.bind_some,cond_not,az,an (x:=(a:Int)+1) (by omega) (by omega),aa a]
  by_cases h:ws.sum=0
  ·rw[if_pos h,if_pos (kI.2 h)]
  ·rw[if_neg h,if_neg (fun k=>h (kI.1 k))]
theorem NU(N:Nat)(hN:2000000≤N){E:ah}(hq:di E)(hl:E.length≤100000):dR N E=some (decide (∀j,j<gT→Bu E j)&&true):=by
 unfold dR dR.b
 refine fg (len:=gT) (F:=fun n i=>dR.l2 N n E i) (Bu E) (fun n i r hi hp hr=> ?_) (fun n=> ?_) N (by unfold gT;omega)
 ·unfold dR.l2 dR.ec
  unfold gT at hi
  rw[aD (by omega),cond_true,Rk N hN _ hq hl i hi,hr]
  unfold Bu eB
  rfl
 ·unfold dR.l2 dR.ec
  rw[ax (by unfold gT;omega),cond_false]
structure J2(E:ah):Prop where
 place: ∀x∈E,bI x.1 x.2.1
 q: ∀x∈E,aC (da x)∧n5 (da x)
 len:E.length≤400
 flat: ∀i:Int,(cQ i E).sum=0
theorem Bv{x:cE}(h:bI x.1 x.2.1):uq (keyOf x):=by
 have h':bI (keyOf x).1 (keyOf x).2:=h
 unfold bI at h'
 unfold uq AD
 omega
theorem dQ{l:ah}{k:cB}(h:k∉l.map keyOf):bJ k.1 k.2 l=0:=iF fun x hx e=>h (by
 have:keyOf x=k:=Prod.ext e.1 e.2
 rw[←this];exact List.mem_map_of_mem hx)
theorem Lo(N:Nat)(hN:2000000≤N){l E:ah}(hq:di E)(hE:E.length≤400)(hp: ∀x∈E,uq (keyOf x))(hs:ru (l.map keyOf))(hl:l.length≤90000)(NV:di l)(DH: ∀x∈l,uq (keyOf x)):
  bs.lH N N E l E (E.length:Int) 0=o9 (dx Fq (fS l E) (ju (l.map keyOf) E)):=by
 have:=nq E aR (fun n i K=>bs.lH N n E (rowsOf l K) E (E.length:Int) i) (fun t K=>o9 (dx Fq (fS l E) (ju K t)))
  (fun i (K:List cB)=>K.length≤l.length+i∧ru K∧(∀k∈K,uq k)∧ ∀x∈l,keyOf x∈K)
  (fun n i K hi hI hr=> ?_) (fun n K hI=> ?_) E.length N 0 (l.map keyOf) (by omega) (by omega) (by omega) ⟨by rw[List.length_map];omega,hs,fun k hk=>by
   obtain⟨x,hx,rfl⟩:=List.mem_map.1 hk
   exact DH x hx,fun x hx=>List.mem_map_of_mem hx⟩
 ·rw[show((0:Nat):Int)=0 from rfl,List.drop_zero]at this
  simp only[iP hs]at this
  exact this
 ·unfold bs.lH bs.j2
  obtain⟨h1,h2,h3,h4⟩:=hI
  have hm:E.getD i aR∈E:=by
   rw[List.getD_eq_getElem?_getD,List.getElem?_eq_getElem hi];exact List.getElem_mem hi
  rw[aD (by omega),cond_true,aF (by omega) (by omega),cond_true,Int.toNat_natCast]
  refine(WS N _ h2 (by omega) h3 (E.getD i aR) (hp _ hm) (fun hk=>dQ fun hx=>hk (by
   obtain⟨x,hx,e⟩:=List.mem_map.1 hx
   rw[←e];exact h4 x hx)) (E.length:Int) i (by omega) K.length N 0 (by omega) (by omega) (by omega) (fun y hy=>nomatch hy)).trans ?_
  rw[List.take_zero,List.nil_append,List.drop_zero,nN]
  refine hr (qK (keyOf (E.getD i aR)) K) ⟨Nat.le_trans (y9 _ K) (by omega),uj h2,fun k hk=>(mI.1 hk).elim (fun e=>e▸hp _ hm) (h3 k),fun x hx=>mI.2 (Or.inr (h4 x hx))⟩
 ·unfold bs.lH bs.j2
  obtain⟨h1,h2,h3,h4⟩:=hI
  rw[ax (by omega),cond_false,cM,bp (by omega) (by omega) (by omega),cond_true]
  have:=Ln N hN (l:=l) (R:=rowsOf l K) hq (by omega) (by rw[cM];omega) (fun r hr=>by
   unfold rowsOf at hr
   obtain⟨k,hk,rfl⟩:=List.mem_map.1 hr
   refine⟨?_,rfl⟩
   show aC (bJ k.1 k.2 l)
   by_cases hkl:k∈l.map keyOf
   ·have e:rowsOf l (l.map keyOf)=l:=iP hs
    have hm:xm l k∈rowsOf l (l.map keyOf):=List.mem_map_of_mem hkl
    rw[e]at hm
    exact NV (xm l k) hm
   ·rw[dQ hkl];exact⟨by decide,by decide⟩)
  rw[wE,cM]at this
  exact this
theorem gk{l:ah}(h:cN l=true):ru (l.map keyOf)∧(∀x∈l,bI x.1 x.2.1∧n5 (da x)):=by
 unfold cN at h
 rw[Bool.and_true]at h
 have h':=of_decide_eq_true h
 have get: ∀(i:Nat) (hi:i<l.length),l.getD i aR=l[i]:=fun i hi=>by rw[List.getD_eq_getElem?_getD,List.getElem?_eq_getElem hi];rfl
 have NW: ∀i,i+1<l.length→n6 (keyOf (l.getD i aR)) (keyOf (l.getD (i+1) aR)):=fun i hi=>(h' (i+1) hi).2.2.2 (by omega)
 have dz: ∀j,j<l.length→ ∀i,i<j→n6 (keyOf (l.getD i aR)) (keyOf (l.getD j aR)):=by
  intro j
  induction j with
  |zero=>intro _ i hi;omega
  |succ j ih=>
   intro hj i hi
   by_cases e:i=j
   ·rw[e];exact NW j hj
   ·exact ry (ih (by omega) i (by omega)) (NW j hj)
 refine⟨?_,fun x hx=> ?_⟩
 ·refine List.pairwise_map.2 (List.pairwise_iff_getElem.2 fun i j hi hj nB=> ?_)
  have:=dz j hj i nB
  rw[get i hi,get j hj]at this
  exact this
 ·obtain⟨i,hi,e⟩:=List.getElem_of_mem hx
  have:=h' i hi
  unfold ib iE at this
  rw[get i hi,e]at this
  exact⟨this.1,this.2.2.1⟩
theorem Rl(N:Nat)(hN:2000000≤N){l E:ah}(hk:cN l=true)(hl:l.length≤90000)(NV:di l)(g:J2 E):bs N l E=o9 (dx Fq (fS l E) (ju (l.map keyOf) E)):=by
 obtain⟨hs,DH⟩:=gk hk
 have hE:=g.len
 unfold bs bs.b
 rw[tY N (by omega) (by omega),hk,Option.bind_some,Bool.not_true,cond_false,ax (by omega),cond_false]
 refine tX E aR (fun n i=>bs.l4 N n l E E (E.length:Int) i) (fun _=>o9 (dx Fq (fS l E) (ju (l.map keyOf) E))) (fun n i hi hr=> ?_) (fun n=> ?_) N (by omega)
 ·unfold bs.l4 bs.cj
  have hm:E.getD i aR∈E:=by
   rw[List.getD_eq_getElem?_getD,List.getElem?_eq_getElem hi];exact List.getElem_mem hi
  rw[aD (by omega),cond_true,aF (by omega) (by omega),cond_true,Int.toNat_natCast,JU,decide_eq_true (g.place _ hm),Option.bind_some,Bool.not_true,cond_false,qB,Option.bind_some,
   decide_eq_true (show n5 ((E.getD i aR).2.2.1)from(g.q _ hm).2),Bool.not_true,cond_false,an (x:=(i:Int)+1) (by omega) (by omega),aa i]
  exact hr
 ·unfold bs.l4 bs.cj
  have hf:dR N E=some true:=by
   rw[NU N hN (fun x hx=>(g.q x hx).1) (by omega),decide_eq_true (p:= ∀j,j<gT→Bu E j) (fun j _=>g.flat (j:Int))];rfl
  rw[ax (by omega),cond_false,hf,Option.bind_some,Bool.not_true,cond_false,qL N (by omega),Option.bind_some]
  exact Lo N hN (fun x hx=>(g.q x hx).1) hE (fun x hx=>Bv (g.place x hx)) hs hl NV (fun x hx=>Bv (DH x hx).1)
end VM
end
section
namespace VM
open Go VM.F
def uu(a b:Nat):Nat→List cB
 |0=>[]
 |m+1=>((a:Int),(b:Int))::uu a (b+1) m
def so(w a:Nat):Nat→List cB
 |0=>[]
 |m+1=>uu a 0 w++so w (a+1) m
theorem uv{k:cB}{a:Nat}: ∀{m b:Nat},k∈uu a b m↔k.1=a∧(b:Int)≤k.2∧k.2<(b+m:Nat)
 |0,b=>⟨fun h=>(nomatch h),fun h=>by omega⟩
 |m+1,b=>by
  show k∈((a:Int),(b:Int))::uu a (b+1) m↔_
  rw[List.mem_cons,uv]
  have:k=((a:Int),(b:Int))↔k.1=a∧k.2=b:=⟨fun h=>h▸⟨rfl,rfl⟩,fun h=>Prod.ext h.1 h.2⟩
  rw[this]
  omega
theorem rC{k:cB}{w:Nat}: ∀{m a:Nat},k∈so w a m↔(a:Int)≤k.1∧k.1<(a+m:Nat)∧0≤k.2∧k.2<w
 |0,a=>⟨fun h=>(nomatch h),fun h=>by omega⟩
 |m+1,a=>by
  show k∈uu a 0 w++so w (a+1) m↔_
  rw[List.mem_append,uv,rC]
  omega
theorem Fc(a:Nat): ∀(m b:Nat),ru (uu a b m)
 |0,b=>List.Pairwise.nil
 |m+1,b=>List.pairwise_cons.2 ⟨fun k hk=>by
  have:=uv.1 hk
  show(a:Int)<k.1∨((a:Int)=k.1∧(b:Int)<k.2)
  omega,Fc a m (b+1)⟩
theorem vu(w:Nat): ∀(m a:Nat),ru (so w a m)
 |0,a=>List.Pairwise.nil
 |m+1,a=>List.pairwise_append.2 ⟨Fc a w 0,vu w m (a+1),fun x hx y hy=>by
  have h1:=uv.1 hx
  have h2:=rC.1 hy
  show x.1<y.1∨(x.1=y.1∧x.2<y.2)
  omega⟩
structure Mark(l:ah)(a b p:Nat):Prop where
 le:p≤l.length
 lo: ∀x∈l.take p,n6 (keyOf x) ((a:Int),(b:Int))
 hi: ∀x∈l.drop p,¬n6 (keyOf x) ((a:Int),(b:Int))
theorem ox{k:cB}{a b:Nat}:n6 k ((a:Int),((b+1:Nat):Int))↔n6 k ((a:Int),(b:Int))∨k=((a:Int),(b:Int)):=by
 have:k=((a:Int),(b:Int))↔k.1=a∧k.2=b:=⟨fun h=>h▸⟨rfl,rfl⟩,fun h=>Prod.ext h.1 h.2⟩
 rw[this]
 show(k.1<(a:Int)∨(k.1=(a:Int)∧k.2<((b+1:Nat):Int)))↔(k.1<(a:Int)∨(k.1=(a:Int)∧k.2<(b:Int)))∨_
 omega
theorem Mark.row{l:ah}{a w p:Nat}(h:Mark l a w p)(hw: ∀x∈l,0≤(keyOf x).2∧(keyOf x).2<w):Mark l (a+1) 0 p:=by
 have key: ∀x∈l,(n6 (keyOf x) ((a:Int),(w:Int))↔n6 (keyOf x) (((a+1:Nat):Int),((0:Nat):Int))):=fun x hx=>by
  have:=hw x hx
  show((keyOf x).1<(a:Int)∨((keyOf x).1=(a:Int)∧(keyOf x).2<(w:Int)))↔((keyOf x).1<((a+1:Nat):Int)∨((keyOf x).1=((a+1:Nat):Int)∧(keyOf x).2<((0:Nat):Int)))
  omega
 exact⟨h.le,fun x hx=>(key x (List.mem_of_mem_take hx)).1 (h.lo x hx),fun x hx k=>h.hi x hx ((key x (List.mem_of_mem_drop hx)).2 k)⟩
theorem CU(a b:Int)(l m:ah):bJ a b (l++m)=bJ a b l+bJ a b m:=by
 induction l with
 |nil=>rw[List.nil_append,Lm];omega
 |cons x t ih=>rw[List.cons_append,gj,gj,ih];omega
theorem Mark.step{l:ah}(hs:ru (l.map keyOf)){a b p:Nat}(h:Mark l a b p):
  (p<l.length∧(l.getD p aR).1=(a:Int)∧(l.getD p aR).2.1=(b:Int)∧bJ (a:Int) (b:Int) l=da (l.getD p aR)∧Mark l a (b+1) (p+1))∨
  ((p<l.length→(l.getD p aR).1=(a:Int)→(l.getD p aR).2.1=(b:Int)→False)∧bJ (a:Int) (b:Int) l=0∧Mark l a (b+1) p):=by
 have no: ∀{x:cE} {k:cB},¬keyOf x=k→ ¬(x.1=k.1∧x.2.1=k.2):=fun h e=>h (Prod.ext e.1 e.2)
 have hz:bJ (a:Int) (b:Int) (l.take p)=0:=iF fun x hx e=>by
  have e':keyOf x=((a:Int),(b:Int)):=Prod.ext e.1 e.2
  have:=h.lo x hx
  rw[e']at this
  exact lG this
 have AH:bJ (a:Int) (b:Int) l=bJ (a:Int) (b:Int) (l.drop p):=by
  conv=>lhs;rw[←List.take_append_drop p l]
  rw[CU,hz];omega
 by_cases hp:p<l.length
 ·have hd:=drop_cons hp aR
  have hsd:ru ((l.drop p).map keyOf):=by
   rw[List.map_drop];exact List.Pairwise.sublist (List.drop_sublist ..) hs
  have DE:=h.hi
  rw[hd]at hsd DE AH
  have hgt:=(List.pairwise_cons.1 hsd).1
  have JA:=DE _ (List.mem_cons_self ..)
  have aeg:l.take (p+1)=l.take p++[l.getD p aR]:=by
   rw[←List.take_append_getElem hp,List.getD_eq_getElem?_getD,List.getElem?_eq_getElem hp];rfl
  by_cases he:keyOf (l.getD p aR)=((a:Int),(b:Int))
  ·refine Or.inl ⟨hp,congrArg Prod.fst he,congrArg Prod.snd he,?_,by omega,fun x hx=> ?_,fun x hx hk=> ?_⟩
   ·rw[AH,gj,if_pos ⟨congrArg Prod.fst he,congrArg Prod.snd he⟩,iF fun x hx e=> ?_]
    ·omega
    ·have hg:=hgt (keyOf x) (List.mem_map_of_mem hx)
     have e':keyOf x=((a:Int),(b:Int)):=Prod.ext e.1 e.2
     rw[he,e']at hg
     exact lG hg
   ·rw[aeg]at hx
    rcases List.mem_append.1 hx with hx|hx
    ·exact ox.2 (Or.inl (h.lo x hx))
    ·rw[List.mem_singleton.1 hx];exact ox.2 (Or.inr he)
   ·have hg:=hgt (keyOf x) (List.mem_map_of_mem hx)
    rw[he]at hg
    rcases ox.1 hk with hk|hk
    ·exact Br hg hk
    ·rw[hk]at hg;exact lG hg
  ·have jj: ∀x∈l.getD p aR::l.drop (p+1),keyOf x≠((a:Int),(b:Int)):=fun x hx e=>by
    rcases List.mem_cons.1 hx with rfl|hx
    ·exact he e
    ·have hg:=hgt (keyOf x) (List.mem_map_of_mem hx)
     rw[e]at hg
     exact JA hg
   refine Or.inr ⟨fun _ e1 e2=>he (Prod.ext e1 e2),?_,h.le,fun x hx=>ox.2 (Or.inl (h.lo x hx)),fun x hx hk=> ?_⟩
   ·rw[AH]
    exact iF fun x hx=>no (jj x hx)
   ·rw[hd]at hx
    rcases ox.1 hk with hk|hk
    ·exact DE x hx hk
    ·exact jj x hx hk
 ·have hd:l.drop p=[]:=List.drop_eq_nil_of_le (by omega)
  refine Or.inr ⟨fun h=>absurd h hp,by rw[AH,hd];rfl,h.le,fun x hx=>ox.2 (Or.inl (h.lo x hx)),fun x hx=> ?_⟩
  rw[hd]at hx;nomatch hx
def qM(out:ah)(r:Option ah):Option (ah×Bool):=some (match r with|some o=>(out++o,true)|none=>([],false))
theorem CV(N:Nat)(v:Int):Iq N (cc v)=some (if Fq v then(v,true)else(0,false)):=by
 unfold Iq
 rw[nV,Option.bind_some]
 by_cases h:aC v
 ·rw[rz h]
  dsimp only
  rw[Bool.not_true,cond_false,az]
  by_cases h2:n5 v
  ·rw[if_neg (show ¬v= -9223372036854775808 from h2),if_pos (show Fq v from⟨h,h2⟩)]
  ·rw[if_pos (show v= -9223372036854775808 by unfold n5 at h2;omega),if_neg (fun h=>h2 h.2)]
 ·rw[uk h,if_neg (fun k=>h k.1)]
  rfl
theorem NX(N:Nat)(hN:4000000≤N)(C4:bu.aU)(C7:bu.cJ){l E out:ah}(hq:di E)(hl:E.length≤100000)(ho:out.length≤1000000)(p:Int)(a b:Nat)(hb:b≤1000000)(q:Int)(hF:Fq q):
  bu.DI N C4 C7 N l E out p (a:Int) (b:Int) q false (false,(([]:List Int),())) 0=
   if Fq (q+bJ (a:Int) (b:Int) E)then C7 l E (if q+bJ (a:Int) (b:Int) E=0 then out else out++[((a:Int),((b:Int),(q+bJ (a:Int) (b:Int) E,())))]) p (a:Int) ((b+1:Nat):Int)else some ([],false):=by
 have:=nq E aR (fun n j ws=>bu.DI N C4 C7 n l E out p (a:Int) (b:Int) q (!ws.isEmpty) (cc ws.sum) j)
  (fun t ws=>if Fq (q+(ws++bV (a:Int) (b:Int) t).sum)then C7 l E (if q+(ws++bV (a:Int) (b:Int) t).sum=0 then out else out++[((a:Int),((b:Int),(q+(ws++bV (a:Int) (b:Int) t).sum,())))]) p (a:Int) ((b+1:Nat):Int)else some ([],false))
  (fun j (ws:List Int)=>ws.length≤j∧ ∀x∈ws,aC x)
  (fun n j ws hj hI eg=> ?_) (fun n ws hI=> ?_) E.length N 0 [] (by omega) (by omega) (by omega) ⟨Nat.le_refl _,fun x hx=>nomatch hx⟩
 ·rw[show((0:Nat):Int)=0 from rfl,List.drop_zero,List.sum_nil,gB]at this
  exact this
 ·unfold bu.DI bu.CW
  have sl:=sR hq j
  have eY:=sl
  unfold aC da at eY
  have hb:=E7 hI.2
  rw[aD (by omega),cond_true,aF (by omega) (by omega),cond_true,cond_true,cond_true,Int.toNat_natCast,fE N (by omega) eY.1 eY.2,Option.bind_some,fO N (by omega) ((tQ (n:=ws.length) (by omega) hb.1 hb.2).mono (by omega)) ((Fit.i64 eY.1 eY.2).mono (by omega)),Option.bind_some,an (x:=(j:Int)+1) (by omega) (by omega),aa j,az,az]
  by_cases h1:(E.getD j aR).1=(a:Int)
  ·by_cases h2:(E.getD j aR).2.1=(b:Int)
   ·have hc:bV (a:Int) (b:Int) (E.getD j aR::E.drop (j+1))=da (E.getD j aR)::bV (a:Int) (b:Int) (E.drop (j+1)):=by rw[cZ,if_pos ⟨h1,h2⟩]
    rw[if_pos h1,if_pos h2,hc]
    have:=eg (ws++[da (E.getD j aR)]) ⟨by rw[List.length_append,List.length_singleton];omega,vt hI.2 sl⟩
    rw[List.sum_append,List.sum_cons,List.sum_nil,Int.add_zero,List.append_assoc]at this
    refine Eq.trans ?_ this
    rw[show(!(ws++[da (E.getD j aR)]).isEmpty)=true by cases ws<;>rfl]
    rfl
   ·have hc:bV (a:Int) (b:Int) (E.getD j aR::E.drop (j+1))=bV (a:Int) (b:Int) (E.drop (j+1)):=by rw[cZ,if_neg (fun h=>h2 h.2)]
    rw[if_pos h1,if_neg h2,hc]
    exact eg ws ⟨by omega,hI.2⟩
  ·have hc:bV (a:Int) (b:Int) (E.getD j aR::E.drop (j+1))=bV (a:Int) (b:Int) (E.drop (j+1)):=by rw[cZ,if_neg (fun h=>h1 h.1)]
   rw[if_neg h1,hc]
   exact eg ws ⟨by omega,hI.2⟩
 ·unfold bu.DI bu.CW
  have hs:=E7 hI.2
  have JW:=hF.1
  unfold aC at JW
  rw[ax (by omega),cond_false,fE N (by omega) JW.1 JW.2,Option.bind_some,fO N (by omega) ((tQ (n:=ws.length) (by omega) hs.1 hs.2).mono (by omega)) ((Fit.i64 JW.1 JW.2).mono (by omega)),Option.bind_some,CV,Option.bind_some,an (x:=(b:Int)+1) (by omega) (by omega),aa b,a6 (by rw[List.length_singleton];omega),cond_true,a6 (by rw[List.length_singleton];omega),cond_true,cond_not]
  show _=if Fq (q+(ws++[]).sum)then C7 l E (if q+(ws++[]).sum=0 then out else out++[((a:Int),((b:Int),(q+(ws++[]).sum,())))]) p (a:Int) ((b+1:Nat):Int)else some ([],false)
  rw[List.append_nil,Int.add_comm ws.sum q]
  cases ws with
  |nil=>
   show cond (!ay q 0) _ _=_
   rw[cond_not,az,List.sum_nil,Int.add_zero,if_pos hF]
   by_cases h:q=0
   ·rw[if_pos h,if_pos h]
   ·rw[if_neg h,if_neg h]
  |cons w ws=>
   show cond (!(if Fq (q+(w::ws).sum)then(q+(w::ws).sum,true)else(0,false)).2) _ _=_
   by_cases h2:Fq (q+(w::ws).sum)
   ·rw[if_pos h2,if_pos h2]
    dsimp only
    rw[Bool.not_true,cond_false,cond_not,az]
    by_cases h:q+(w::ws).sum=0
    ·rw[if_pos h,if_pos h]
    ·rw[if_neg h,if_neg h]
   ·rw[if_neg h2,if_neg h2];rfl
end VM
end
section
namespace VM
open Go VM.F
theorem Bx{P:Int→Prop} [DecidablePred P]{f:Int→Int→Int}{k:cB}{K:List cB}{out:ah}{v:Int}(hv:f k.1 k.2=v):
  (if P v then qM (if v=0 then out else out++[(k.1,(k.2,(v,())))]) (dx P f K)else some ([],false))=qM out (dx P f (k::K)):=by
 rw[j1,hv]
 by_cases h:P v
 ·rw[if_pos h,if_pos h]
  cases dx P f K with
  |none=>rfl
  |some o=>
   show some ((if v=0 then out else out++[(k.1,(k.2,(v,())))])++o,true)=some (out++(if v=0 then o else(k.1,(k.2,(v,())))::o),true)
   by_cases h0:v=0
   ·rw[if_pos h0,if_pos h0]
   ·rw[if_neg h0,if_neg h0,List.append_assoc];rfl
 ·rw[if_neg h,if_neg h];rfl
theorem aeh{l:ah}(hs:ru (l.map keyOf))(hl: ∀x∈l,Fq (da x))(k:cB):Fq (bJ k.1 k.2 l):=by
 by_cases hk:k∈l.map keyOf
 ·have hm:xm l k∈rowsOf l (l.map keyOf):=List.mem_map_of_mem hk
  rw[iP hs]at hm
  exact hl (xm l k) hm
 ·rw[dQ hk];exact⟨⟨by decide,by decide⟩,by decide⟩
theorem By(N:Nat)(hN:4000000≤N)(C:bu.aU){l E:ah}(hq:di E)(hl:E.length≤100000)(hs:ru (l.map keyOf))(HQ:l.length≤100000)(hf: ∀x∈l,Fq (da x))(hw: ∀x∈l,0≤(keyOf x).2∧(keyOf x).2<(6:Nat))(a:Nat)(ha:a≤24)(G:List cB)
  (hc: ∀(p:Nat) (out:ah),Mark l (a+1) 0 p→out.length≤6*(a+1)→C l E out (p:Int) ((a+1:Nat):Int)=qM out (dx Fq (fS l E) G)):
  ∀(m n b p:Nat) (out:ah),b+m=6→m<n→Mark l a b p→out.length≤6*a+b→bu.l7 N C n l E out (p:Int) (a:Int) (b:Int)=qM out (dx Fq (fS l E) (uu a b m++G))
 |m,0,b,p,out,_,hn,_,_=>by omega
 |0,n+1,b,p,out,hb,_,hM,ho=>by
  have e:b=6:=by omega
  subst e
  unfold bu.l7 bu.lC
  rw[ax (by omega),cond_false,an (x:=(a:Int)+1) (by omega) (by omega),aa a]
  exact hc p out (hM.row hw) (by omega)
 |m+1,n+1,b,p,out,hb,hn,hM,ho=>by
  have hp:=hM.le
  have YL: ∀(p:Nat) (v:Int),Mark l a (b+1) p→bu.l7 N C n l E (if v=0 then out else out++[((a:Int),((b:Int),(v,())))]) (p:Int) (a:Int) ((b+1:Nat):Int)=qM (if v=0 then out else out++[((a:Int),((b:Int),(v,())))]) (dx Fq (fS l E) (uu a (b+1) m++G)):=fun p v h=>
   By N hN C hq hl hs HQ hf hw a ha G hc m n (b+1) p _ (by omega) (by omega) h (by
    split
    ·omega
    ·rw[List.length_append,List.length_singleton];omega)
  have KJ:=aeh hs hf ((a:Int),(b:Int))
  unfold bu.l7 bu.lC bu.CH bu.tV
  show _=qM out (dx Fq (fS l E) (((a:Int),(b:Int))::(uu a (b+1) m++G)))
  rw[aD (x:=(b:Int)) (by omega),cond_true,bL,az,az,Int.toNat_natCast]
  have fin: ∀(p:Nat) (q:Int),q=bJ (a:Int) (b:Int) l→Mark l a (b+1) p→bu.DI N C (bu.l7 N C n) N l E out (p:Int) (a:Int) (b:Int) q false (false,(([]:List Int),())) 0=qM out (dx Fq (fS l E) (((a:Int),(b:Int))::(uu a (b+1) m++G))):=fun p q e h=>by
   subst e
   rw[NX N hN C _ hq hl (by omega) (p:Int) a b (by omega) _ KJ,YL p _ h]
   exact Bx (k:=((a:Int),(b:Int))) rfl
  rcases hM.step hs with⟨h1,h2,h3,h4,h5⟩|⟨h1,h2,h3⟩
  ·rw[if_pos (show(p:Int)<(l.length:Int)by omega),aF (by omega) (by omega),cond_true,cond_true,if_pos h2,if_pos h3,an (x:=(p:Int)+1) (by omega) (by omega),aa p,cond_true]
   exact fin (p+1) _ h4.symm h5
  ·by_cases g1:p<l.length
   ·rw[if_pos (show(p:Int)<(l.length:Int)by omega),aF (by omega) (by omega),cond_true,cond_true]
    by_cases g2:(l.getD p aR).1=(a:Int)
    ·rw[if_pos g2,if_neg (fun g3=>h1 g1 g2 g3)]
     exact fin p _ h2.symm h3
    ·rw[if_neg g2]
     exact fin p _ h2.symm h3
   ·rw[if_neg (show ¬(p:Int)<(l.length:Int)by omega)]
    exact fin p _ h2.symm h3
theorem Bz(N:Nat)(hN:4000000≤N){l E:ah}(hq:di E)(hl:E.length≤100000)(hs:ru (l.map keyOf))(HQ:l.length≤100000)(hf: ∀x∈l,Fq (da x))(hw: ∀x∈l,0≤(keyOf x).2∧(keyOf x).2<(6:Nat)):
  ∀(m n a p:Nat) (out:ah),a+m=25→m<n→Mark l a 0 p→out.length≤6*a→bu.l4 N n l E out (p:Int) (a:Int)=qM out (dx Fq (fS l E) (so 6 a m))
 |m,0,a,p,out,_,hn,_,_=>by omega
 |0,n+1,a,p,out,ha,_,hM,ho=>by
  unfold bu.l4 bu.cj
  rw[cn (by omega),cond_false]
  show some (out,true)=some (out++[],true)
  rw[List.append_nil]
 |m+1,n+1,a,p,out,ha,hn,hM,ho=>by
  unfold bu.l4 bu.cj
  rw[cv (by omega),cond_true]
  exact By N hN _ hq hl hs HQ hf hw a (by omega) (so 6 (a+1) m) (fun p out h ho=>Bz N hN hq hl hs HQ hf hw m n (a+1) p out (by omega) (by omega) h ho) 6 N 0 p out (by omega) (by omega) hM (by omega)
def sU:List cB:=so 6 0 25
theorem Ir(N:Nat)(hN:4000000≤N){l E:ah}(hk:cN l=true)(hl:l.length≤90000)(NV:di l)(hq:di E)(hE:E.length≤100000):bu N l E=qM [] (dx Fq (fS l E) sU):=by
 obtain⟨hs,DH⟩:=gk hk
 unfold bu bu.b
 refine Bz N hN hq hE hs (by omega) (fun x hx=>⟨NV x hx,(DH x hx).2⟩) (fun x hx=> ?_) 25 N 0 0 [] (by omega) (by omega) ⟨by omega,fun x hx=>(nomatch hx),fun x hx dz=> ?_⟩ (by simp)
 ·have h:bI (keyOf x).1 (keyOf x).2:=(DH x hx).1
  unfold bI at h;omega
 ·have h:bI (keyOf x).1 (keyOf x).2:=(DH x (List.mem_of_mem_drop hx)).1
  unfold bI at h
  have qk:(keyOf x).1<((0:Nat):Int)∨((keyOf x).1=((0:Nat):Int)∧(keyOf x).2<((0:Nat):Int)):=dz
  omega
theorem Lp{l E:ah}(hk:cN l=true)(hp: ∀x∈E,bI x.1 x.2.1):dx Fq (fS l E) (ju (l.map keyOf) E)=dx Fq (fS l E) sU:=by
 obtain⟨hs,DH⟩:=gk hk
 refine Fa ⟨⟨by decide,by decide⟩,by decide⟩ (sT hs) (vu 6 25 0) (fun k hk=> ?_) (fun k hk hn=> ?_)
 ·have:bI k.1 k.2:=by
   rcases iG.1 hk with h|⟨x,hx,rfl⟩
   ·obtain⟨x,hx,rfl⟩:=List.mem_map.1 h
    exact(DH x hx).1
   ·exact hp x hx
  unfold bI at this
  exact rC.2 (by omega)
 ·have h1:k∉l.map keyOf:=fun h=>hn (iG.2 (Or.inl h))
  have h2:k∉E.map keyOf:=fun h=>by
   obtain⟨x,hx,e⟩:=List.mem_map.1 h
   exact hn (iG.2 (Or.inr ⟨x,hx,e⟩))
  unfold fS
  rw[dQ h1,dQ h2];rfl
end VM
end
