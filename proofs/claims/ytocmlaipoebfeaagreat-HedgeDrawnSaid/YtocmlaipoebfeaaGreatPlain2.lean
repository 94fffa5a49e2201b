/- A part of the proof of HedgeDrawn of layer 22: what the functions compute, in plain words. -/
import Derived.Test.YtocmlaipoebfeaaGreatPlain1
set_option linter.all false
section
namespace VM
open Go VM.F
def et(r:ca):Int:=r.2.2.1
def aA(x:Int):Prop:= -9223372036854775808≤x∧x<9223372036854775808
def dz(l:ah):Prop:= ∀x∈l,aA (et x)
theorem uj{l:ah}(h:dz l)(i:Nat):aA (et (l.getD i aL)):=by
 by_cases hi:i<l.length
 ·rw[List.getD_eq_getElem?_getD,List.getElem?_eq_getElem hi];exact h _ (List.getElem_mem hi)
 ·rw[List.getD_eq_getElem?_getD,List.getElem?_eq_none (by omega)];exact⟨by decide,by decide⟩
theorem Hu{ws:List Int}(h: ∀x∈ws,aA x): -(9223372036854775808*(ws.length:Int))≤ws.sum∧ws.sum≤9223372036854775808*(ws.length:Int):=MG ws h
theorem Dd{ws:List Int}(h: ∀x∈ws,aA x)(hl:ws.length≤1000000):bA ws.sum:=by
 have:=Hu h
 unfold bA;omega
theorem Oh{ws:List Int}(h: ∀x∈ws,aA x): ∀x∈ws,bA x:=fun x hx=>by
 have:=h x hx
 unfold aA at this;unfold bA;omega
theorem EP(N:Nat){ws:List Int}(h: ∀x∈ws,aA x)(hl:ws.length≤1000000)(hN:1000000<N):jF N (ws.map bg)=some (bg ws.sum,true):=by
 rw[zq N (Oh h) hl hN]
 unfold Ho
 rw[if_pos (Dd h hl)]
def j2(l:ah):Int:=if e7 l then(l.map et).sum else 0
theorem KO(N:Nat){l:ah}(hq:dz l)(hl:l.length≤100000)(hN:2000000≤N):xX.l5 N N bI [] l (l.length:Int) 0=some (bg (l.map et).sum):=by
 have:=kD l aL (fun n i ws=>xX.l5 N n bI (ws.map bg) l (l.length:Int) i) (fun t ws=>some (bg (ws++t.map et).sum)) (fun i (ws:List Int)=>ws.length=i∧ ∀x∈ws,aA x)
  (fun n i ws hi hI hr=> ?_) (fun n ws hI=> ?_) l.length N 0 [] (by omega) (by omega) (by omega) ⟨rfl,fun x hx=>nomatch hx⟩
 ·simpa using this
 ·unfold xX.l5 xX.c5
  have js:=uj hq i
  have fp:=js
  unfold aA et at fp
  rw[aD (by omega),cond_true,aF (by omega) (by omega),cond_true,Int.toNat_natCast,mw N fp.1 fp.2,Option.bind_some,aZ (by rw[List.length_map,List.length_singleton];omega),cond_true,al (by omega) (by omega),ae]
  have:=hr (ws++[et (l.getD i aL)]) ⟨by rw[List.length_append,hI.1];rfl,fun x hx=>by
   rcases List.mem_append.1 hx with hx|hx
   ·exact hI.2 x hx
   ·rw[List.mem_singleton.1 hx];exact js⟩
  rw[List.map_append]at this
  refine this.trans ?_
  rw[List.map_cons,List.append_assoc];rfl
 ·unfold xX.l5 xX.c5
  rw[ax (by omega),cond_false,EP N hI.2 (by omega) (by omega),Option.bind_some,List.map_nil,List.append_nil]
theorem QR(N:Nat){l:ah}(hq:dz l)(hl:l.length≤100000)(hN:2000000≤N):xX N l=some (bg (j2 l)):=by
 unfold xX xX.b j2
 rw[zs N hl (by omega),Option.bind_some,cond_not,KO N hq hl hN]
 cases e7 l<;>rfl
theorem Hv(N:Nat){l:ah}(hq:dz l)(hl:l.length≤100000)(hN:4000000≤N):lQ.l5 N N l (bn 0) (bn 0) 0=some (bn (l.map et).sum):=by
 have:=kD l aL (fun n i ws=>lQ.l5 N n l (bn 0) (bn ws.sum) i) (fun t ws=>some (bn (ws++t.map et).sum)) (fun i (ws:List Int)=>ws.length=i∧ ∀x∈ws,aA x)
  (fun n i ws hi hI hr=> ?_) (fun n ws hI=> ?_) l.length N 0 [] (by omega) (by omega) (by omega) ⟨rfl,fun x hx=>nomatch hx⟩
 ·simpa using this
 ·unfold lQ.l5 lQ.c5
  have js:=uj hq i
  have fp:=js
  unfold aA et at fp
  have hb:=Hu hI.2
  rw[hI.1]at hb
  rw[aD (by omega),cond_true,aF (by omega) (by omega),cond_true,Int.toNat_natCast,cj N (by omega) fp.1 fp.2,Option.bind_some,eG N (by omega) ((vq (n:=i) (by omega) hb.1 hb.2).mono (by omega)) ((Fit.i64 fp.1 fp.2).mono (by omega)),Option.bind_some,al (by omega) (by omega),ae]
  have:=hr (ws++[et (l.getD i aL)]) ⟨by rw[List.length_append,hI.1];rfl,fun x hx=>by
   rcases List.mem_append.1 hx with hx|hx
   ·exact hI.2 x hx
   ·rw[List.mem_singleton.1 hx];exact js⟩
  rw[List.sum_append,List.sum_cons,List.sum_nil,Int.add_zero]at this
  refine this.trans ?_
  rw[List.map_cons,List.append_assoc];rfl
 ·unfold lQ.l5 lQ.c5
  rw[ax (by omega),cond_false,List.map_nil,List.append_nil]
theorem Oi(N:Nat){l:ah}(hq:dz l)(hl:l.length≤100000)(hN:4000000≤N):lQ N l=some (bn (j2 l)):=by
 unfold lQ lQ.b j2
 rw[AB N hl (by omega),Option.bind_some,cond_not]
 have:=Hv N hq hl hN
 rw[ej]at this
 rw[this]
 cases e7 l
 ·rw[cond_false];exact congrArg some ej.symm
 ·rfl
end VM
end
section
namespace VM
open Go VM.F
def dZ(inst:Int):ah→List Int
 |[]=>[]
 |x::t=>if x.2.1=inst then et x::dZ inst t else dZ inst t
theorem fH(inst:Int)(x:ca)(t:ah):dZ inst (x::t)=if x.2.1=inst then et x::dZ inst t else dZ inst t:=rfl
theorem Oj(N:Nat){l:ah}(hq:dz l)(hl:l.length≤100000)(hN:2000000≤N)(inst:Int):lR.l5 N N inst bI [] l (l.length:Int) 0=some (bg (dZ inst l).sum):=by
 have:=kD l aL (fun n i ws=>lR.l5 N n inst bI (ws.map bg) l (l.length:Int) i) (fun t ws=>some (bg (ws++dZ inst t).sum)) (fun i (ws:List Int)=>ws.length≤i∧ ∀x∈ws,aA x)
  (fun n i ws hi hI hr=> ?_) (fun n ws hI=> ?_) l.length N 0 [] (by omega) (by omega) (by omega) ⟨Nat.le_refl _,fun x hx=>nomatch hx⟩
 ·simpa using this
 ·unfold lR.l5 lR.c5
  have js:=uj hq i
  have fp:=js
  unfold aA et at fp
  rw[aD (by omega),cond_true,aF (by omega) (by omega),cond_true,Int.toNat_natCast,mw N fp.1 fp.2,Option.bind_some,aZ (by rw[List.length_map,List.length_singleton];omega),cond_true,al (by omega) (by omega),ae,au,fH]
  split
  ·have:=hr (ws++[et (l.getD i aL)]) ⟨by rw[List.length_append,List.length_singleton];omega,fun x hx=>by
    rcases List.mem_append.1 hx with hx|hx
    ·exact hI.2 x hx
    ·rw[List.mem_singleton.1 hx];exact js⟩
   rw[List.map_append]at this
   refine this.trans ?_
   rw[List.append_assoc];rfl
  ·exact hr ws ⟨by omega,hI.2⟩
 ·unfold lR.l5 lR.c5
  rw[ax (by omega),cond_false,EP N hI.2 (by omega) (by omega),Option.bind_some]
  show _=some (bg (ws++[]).sum)
  rw[List.append_nil]
def vG(l:ah)(inst:Int):Int:=if dh l then(dZ inst l).sum else 0
theorem Us(N:Nat){l:ah}(hq:dz l)(hl:l.length≤100000)(hN:2000000≤N)(inst:Int):lR N l inst=some (bg (vG l inst)):=by
 unfold lR lR.b vG
 rw[vy N hl (by omega),Option.bind_some,cond_not,Oj N hq hl hN]
 cases dh l<;>rfl
theorem KP(N:Nat){l:ah}(hq:dz l)(hl:l.length≤100000)(hN:4000000≤N)(inst:Int):lS.l5 N N l inst (bn 0) (bn 0) 0=some (bn (dZ inst l).sum):=by
 have:=kD l aL (fun n i ws=>lS.l5 N n l inst (bn 0) (bn ws.sum) i) (fun t ws=>some (bn (ws++dZ inst t).sum)) (fun i (ws:List Int)=>ws.length≤i∧ ∀x∈ws,aA x)
  (fun n i ws hi hI hr=> ?_) (fun n ws hI=> ?_) l.length N 0 [] (by omega) (by omega) (by omega) ⟨Nat.le_refl _,fun x hx=>nomatch hx⟩
 ·simpa using this
 ·unfold lS.l5 lS.c5
  have js:=uj hq i
  have fp:=js
  unfold aA et at fp
  have hb:=Hu hI.2
  rw[aD (by omega),cond_true,aF (by omega) (by omega),cond_true,cond_true,Int.toNat_natCast,cj N (by omega) fp.1 fp.2,Option.bind_some,eG N (by omega) ((vq (n:=ws.length) (by omega) hb.1 hb.2).mono (by omega)) ((Fit.i64 fp.1 fp.2).mono (by omega)),Option.bind_some,al (by omega) (by omega),ae,au,fH]
  split
  ·have:=hr (ws++[et (l.getD i aL)]) ⟨by rw[List.length_append,List.length_singleton];omega,fun x hx=>by
    rcases List.mem_append.1 hx with hx|hx
    ·exact hI.2 x hx
    ·rw[List.mem_singleton.1 hx];exact js⟩
   rw[List.sum_append,List.sum_cons,List.sum_nil,Int.add_zero]at this
   refine this.trans ?_
   rw[List.append_assoc];rfl
  ·exact hr ws ⟨by omega,hI.2⟩
 ·unfold lS.l5 lS.c5
  rw[ax (by omega),cond_false]
  show _=some (bn (ws++[]).sum)
  rw[List.append_nil]
theorem Hw(N:Nat){l:ah}(hq:dz l)(hl:l.length≤100000)(hN:4000000≤N)(inst:Int):lS N l inst=some (bn (vG l inst)):=by
 unfold lS lS.b vG
 rw[ns N hl (by omega),Option.bind_some,cond_not]
 have:=KP N hq hl hN inst
 rw[ej]at this
 rw[this]
 cases dh l
 ·rw[cond_false];exact congrArg some ej.symm
 ·rfl
def uk(l:ah)(i:Nat):Prop:=gf (vG l (i:Int)) 0
instance(l:ah):DecidablePred (uk l):=fun i=>by unfold uk;infer_instance
def ja:Nat:=6
def wW(l:ah):Bool:=decide (∀j,j<ja→uk l j)&&dh l
theorem ka{x:Int}:lL x=0↔x=0:=by unfold lL;split<;>(try split)<;>omega
theorem Ut(N:Nat){l:ah}(hq:dz l)(hl:l.length≤100000)(hN:2000000≤N):yV N l=some (wW l):=by
 unfold yV yV.b
 refine eU (len:=ja) (F:=fun n i=>yV.l2 N n l i) (uk l) (fun n i r hi hp hr=> ?_) (fun n=> ?_) N (by unfold ja;omega)
 ·unfold yV.l2 yV.dx
  unfold ja at hi
  rw[aD (by omega),cond_true,Us N hq hl hN,Option.bind_some,nP,Option.bind_some,cond_not,au,al (by omega) (by omega),ae,hr]
  by_cases hP:uk l i
  ·rw[if_pos hP,if_pos (ka.2 hP)]
  ·rw[if_neg hP,if_neg (fun h=>hP (ka.1 h))]
 ·unfold yV.l2 yV.dx
  rw[ax (by unfold ja;omega),cond_false,vy N hl (by omega),Option.bind_some]
theorem QS(N:Nat){l:ah}(hq:dz l)(hl:l.length≤100000)(hN:4000000≤N):mz N l=some (wW l):=by
 unfold mz mz.b
 refine eU (len:=ja) (F:=fun n i=>mz.l2 N n l i) (uk l) (fun n i r hi hp hr=> ?_) (fun n=> ?_) N (by unfold ja;omega)
 ·unfold mz.l2 mz.dx
  unfold ja at hi
  rw[aD (by omega),cond_true,Hw N hq hl hN,Option.bind_some,mW,Option.bind_some,cond_not,au,al (by omega) (by omega),ae,hr]
  by_cases hP:uk l i
  ·rw[if_pos hP,if_pos (ka.2 hP)]
  ·rw[if_neg hP,if_neg (fun h=>hP (ka.1 h))]
 ·unfold mz.l2 mz.dx
  rw[ax (by unfold ja;omega),cond_false,ns N hl (by omega),Option.bind_some]
end VM
end
section
namespace VM
open Go VM.F
def iR(m:av)(a:aE)(l:ah)(i:Nat):Prop:=
 (gf (l.getD i aL).1 5→(dL a (l.getD i aL).2.1).2=true)∧(gf (l.getD i aL).1 6∨gf (l.getD i aL).1 7→ ¬gf (lP m (l.getD i aL).2.1) 0)
instance(m:av)(a:aE)(l:ah):DecidablePred (iR m a l):=fun i=>by unfold iR;infer_instance
theorem AI(N:Nat)(b:af)(hl:b.2.1.length≤100000)(hN:200000≤N)(id:Int):Uu N b id=some (dL b.2.1 id).2:=by
 unfold Uu
 rw[MK N hl hN,Option.bind_some]
theorem Ol{k:Int}{f:Bool}{z:Int}{r:Option Bool}:cond (ay k 5) (cond (!f) (some false) r) (cond (ay k 6) (cond (ay z 0) (some false) r) (cond (ay k 7) (cond (ay z 0) (some false) r) r))=
  if(gf k 5→f=true)∧(gf k 6∨gf k 7→ ¬gf z 0)then r else some false:=by
 unfold gf
 rw[au,au,au,au,cond_not]
 by_cases h5:k=5
 ·have h6: ¬(k=6):=by omega
  have h7: ¬(k=7):=by omega
  cases f<;>simp[h5,h6,h7]
 ·by_cases h6:k=6
  ·by_cases hz:z=0<;>simp[h5,h6,hz]
  ·by_cases h7:k=7
   ·by_cases hz:z=0<;>simp[h5,h6,h7,hz]
   ·simp[h5,h6,h7]
theorem Ct(N:Nat)(hN:200000≤N)(c:aa)(b:af)(hm:b.1.length≤100000)(ha:b.2.1.length≤100000)(hl:b.2.2.1.length≤100000){e:Bool}
  (he:iq.tg N N c b b.2.2.2.1 (b.2.2.2.1.length:Int) 0=some e):iq.l4 N N c b b.2.2.1 (b.2.2.1.length:Int) 0=some (decide (∀j,j<b.2.2.1.length→iR b.1 b.2.1 b.2.2.1 j)&&e):=by
 refine eU (F:=fun n i=>iq.l4 N n c b b.2.2.1 (b.2.2.1.length:Int) i) (iR b.1 b.2.1 b.2.2.1) (fun n i r hi hp hr=> ?_) (fun n=> ?_) N (by omega)
 ·unfold iq.l4 iq.cA
  rw[aD (by omega),cond_true,aF (by omega) (by omega),cond_true,Int.toNat_natCast,al (x:=(i:Int)+1) (by omega) (by omega),ae,hr]
  simp only[AI N b ha hN,wU N hm hN,Option.bind_some]
  rw[Ol]
  rfl
 ·unfold iq.l4 iq.cA
  rw[ax (by omega),cond_false];exact he
def BY(a b:Int):Prop:=a<b
instance(a b:Int):Decidable (BY a b):=by unfold BY;infer_instance
def g6(c:aa)(a:aE)(l:ah)(i:Nat):Prop:=
 (gf (l.getD i aL).1 0∨(dL a (l.getD i aL).1).2=true)∧BY (l.getD i aL).2.1 c.1.length
instance(c:aa)(a:aE)(l:ah):DecidablePred (g6 c a l):=fun i=>by unfold g6;infer_instance
theorem QT{k x n:Int}{f:Bool}{r:Option Bool}:cond (!ay k 0) (cond (!f) (some false) (cond (bW n x) (some false) r)) (cond (bW n x) (some false) r)=if(gf k 0∨f=true)∧BY x n then r else some false:=by
 unfold gf BY
 rw[cond_not,au,bk,cond_not]
 by_cases h0:k=0
 ·by_cases hx:n≤x
  ·have: ¬x<n:=by omega
   simp[h0,hx,this]
  ·have:x<n:=by omega
   simp[h0,hx,this]
 ·by_cases hx:n≤x
  ·have: ¬x<n:=by omega
   cases f<;>simp[h0,hx,this]
  ·have:x<n:=by omega
   cases f<;>simp[h0,hx,this]
theorem ES(N:Nat)(hN:200000≤N)(c:aa)(b:af)(ha:b.2.1.length≤100000)(hl:b.2.2.2.1.length≤100000){e:Bool}
  (he:iq.um N N c b b.2.2.2.2.2.1 (b.2.2.2.2.2.1.length:Int) 0=some e):iq.tg N N c b b.2.2.2.1 (b.2.2.2.1.length:Int) 0=some (decide (∀j,j<b.2.2.2.1.length→g6 c b.2.1 b.2.2.2.1 j)&&e):=by
 refine eU (F:=fun n i=>iq.tg N n c b b.2.2.2.1 (b.2.2.2.1.length:Int) i) (g6 c b.2.1 b.2.2.2.1) (fun n i r hi hp hr=> ?_) (fun n=> ?_) N (by omega)
 ·unfold iq.tg iq.sg
  rw[aD (by omega),cond_true,aF (by omega) (by omega),cond_true,Int.toNat_natCast,al (x:=(i:Int)+1) (by omega) (by omega),ae,hr]
  simp only[AI N b ha hN,Option.bind_some]
  rw[QT]
  rfl
 ·unfold iq.tg iq.sg
  rw[ax (by omega),cond_false];exact he
end VM
end
section
namespace VM
open Go VM.F
def oX(l:List Int)(i:Nat):Prop:=1≤l.getD i 0∧l.getD i 0≤1000000000000
instance(l:List Int):DecidablePred (oX l):=fun i=>by unfold oX;infer_instance
def fV(l:List Int):Bool:=decide (∀j,j<l.length→oX l j)
theorem ab6(N:Nat)(p:Int):F84 N p=some (!decide (1≤p∧p≤1000000000000)):=by
 unfold F84
 rw[wT,Option.bind_some]
theorem AJ(N:Nat){l:List Int}(hl:l.length≤100000): ∀(m n i:Nat),l.length-i≤m→m<n→i≤l.length→(∀j,j<i→oX l j)→
  ∃r,ov.l2 N n l () (l.length:Int) (i:Int)=some r∧(bW 0 r= !fV l)
 |m,0,i,_,hn,_,_=>by omega
 |m,n+1,i,hm,hn,hi,hp=>by
  unfold ov.l2 ov.dx
  by_cases h:i<l.length
  ·rw[aD (by omega),cond_true,aF (by omega) (by omega),cond_true,Int.toNat_natCast,ab6,Option.bind_some,cond_not,ct]
   by_cases hP:oX l i
   ·have hP':=hP
    unfold oX at hP'
    rw[if_pos hP',al (by omega) (by omega)]
    exact AJ N hl (m-1) n (i+1) (by omega) (by omega) (by omega) (fun j hj=>by
     by_cases tZ:j=i
     ·subst tZ;exact hP
     ·exact hp j (by omega))
   ·have hP':=hP
    unfold oX at hP'
    rw[if_neg hP']
    refine⟨_,rfl,?_⟩
    rw[cS (by omega)]
    unfold fV
    rw[decide_eq_false (fun h'=>hP (h' i h))];rfl
  ·rw[ax (by omega),cond_false]
   refine⟨_,rfl,?_⟩
   rw[cL (by omega)]
   unfold fV
   rw[decide_eq_true (fun j hj=>hp j (by omega))];rfl
theorem Om(N:Nat){l:List Int}(hl:l.length≤100000)(hN:200000≤N):F83 N l ()=some (!fV l):=by
 unfold F83 ov ov.b
 obtain⟨r,e,h⟩:=AJ N hl l.length N 0 (by omega) (by omega) (by omega) (fun j hj=>absurd hj (by omega))
 rw[show((0:Nat):Int)=0 from rfl]at e
 rw[e,Option.bind_some,h]
def mX(c:aa)(a:aE)(l:aT)(i:Nat):Prop:=
 (dL a (l.getD i dP).2.1).2=true∧BY (l.getD i dP).2.2.1 c.1.length
instance(c:aa)(a:aE)(l:aT):DecidablePred (mX c a l):=fun i=>by unfold mX;infer_instance
theorem AK{x n:Int}{f:Bool}{r:Option Bool}:cond (!f) (some false) (cond (bW n x) (some false) r)=if f=true∧BY x n then r else some false:=by
 unfold BY
 rw[bk,cond_not]
 by_cases hx:n≤x
 ·have: ¬x<n:=by omega
  cases f<;>simp[hx,this]
 ·have:x<n:=by omega
  cases f<;>simp[hx,this]
theorem ET(N:Nat)(hN:200000≤N)(c:aa)(b:af)(ha:b.2.1.length≤100000)(hl:b.2.2.2.2.2.1.length≤100000)(hp:b.2.2.2.2.1.length≤100000):
  iq.um N N c b b.2.2.2.2.2.1 (b.2.2.2.2.2.1.length:Int) 0=some (decide (∀j,j<b.2.2.2.2.2.1.length→mX c b.2.1 b.2.2.2.2.2.1 j)&&fV b.2.2.2.2.1):=by
 refine eU (F:=fun n i=>iq.um N n c b b.2.2.2.2.2.1 (b.2.2.2.2.2.1.length:Int) i) (mX c b.2.1 b.2.2.2.2.2.1) (fun n i r hi wq hr=> ?_) (fun n=> ?_) N (by omega)
 ·unfold iq.um iq.th
  rw[aD (by omega),cond_true,aF (by omega) (by omega),cond_true,Int.toNat_natCast,al (x:=(i:Int)+1) (by omega) (by omega),ae,hr]
  simp only[AI N b ha hN,Option.bind_some]
  rw[AK]
  rfl
 ·unfold iq.um iq.th
  rw[ax (by omega),cond_false,Om N hp hN,Option.bind_some,Bool.not_not]
def bV(c:aa)(b:af):Bool:=
 dY c&&(sf b.1 b.2.1&&(e7 b.2.2.1&&(decide (gf (j2 b.2.2.1) 0)&&(wW b.2.2.2.1&&(ez b.2.2.2.2.2.1&&(decide (gf b.2.2.2.2.1.length c.1.length)&&
  (decide (∀j,j<b.2.2.1.length→iR b.1 b.2.1 b.2.2.1 j)&&(decide (∀j,j<b.2.2.2.1.length→g6 c b.2.1 b.2.2.2.1 j)&&(decide (∀j,j<b.2.2.2.2.2.1.length→mX c b.2.1 b.2.2.2.2.2.1 j)&&fV b.2.2.2.2.1)))))))))
structure eM(b:af):Prop where
 m:b.1.length≤100000
 a:b.2.1.length≤100000
 r:b.2.2.1.length≤100000
 s:b.2.2.2.1.length≤100000
 p:b.2.2.2.2.1.length≤100000
 o:b.2.2.2.2.2.1.length≤100000
 qr:dz b.2.2.1
 qs:dz b.2.2.2.1
theorem kb{x:Bool}{r:Option Bool}{y:Bool}(h:r=some y):cond (!x) (some false) r=some (x&&y):=by subst h;cases x<;>rfl
theorem zu(N:Nat)(hN:4000000≤N){c:aa}{b:af}(w:eM b):iq N c b=some (bV c b):=by
 unfold iq iq.b bV
 rw[zr N (by omega),Option.bind_some]
 refine kb ?_
 rw[Ur N w.m w.a (by omega),Option.bind_some]
 refine kb ?_
 rw[zs N w.r (by omega),Option.bind_some]
 refine kb ?_
 rw[QR N w.qr w.r (by omega),Option.bind_some,nP,Option.bind_some]
 have e0:ay (lL (j2 b.2.2.1)) 0=decide (gf (j2 b.2.2.1) 0):=by rw[gb,decide_eq_decide];exact ka
 rw[e0]
 refine kb ?_
 rw[Ut N w.qs w.s (by omega),Option.bind_some]
 refine kb ?_
 rw[Db N w.o (by omega),Option.bind_some]
 refine kb ?_
 rw[gb]
 refine kb ?_
 exact Ct N (by omega) c b w.m w.a w.r (ES N (by omega) c b w.a w.s (ET N (by omega) c b w.a w.o w.p))
end VM
end
section
namespace VM
open Go VM.F
theorem pO(N:Nat)(b:af)(hl:b.2.1.length≤100000)(hN:200000≤N)(id:Int):EU N b id=some ((dL b.2.1 id).2||decide (gf id 0)):=by
 unfold EU
 rw[AF N hl hN,Option.bind_some,gb]
 cases(dL b.2.1 id).2<;>rfl
theorem KQ{k:Int}{f:Bool}{z:Int}{r:Option Bool}:cond (ay k 5) (cond (!f) (some false) (cond (ay k 6) (cond (ay z 0) (some false) r) (cond (ay k 7) (cond (ay z 0) (some false) r) r))) (cond (ay k 6) (cond (ay z 0) (some false) r) (cond (ay k 7) (cond (ay z 0) (some false) r) r))=
  if(gf k 5→f=true)∧(gf k 6∨gf k 7→ ¬gf z 0)then r else some false:=by
 unfold gf
 rw[au,au,au,au,cond_not]
 by_cases h5:k=5
 ·have h6: ¬(k=6):=by omega
  have h7: ¬(k=7):=by omega
  cases f<;>simp[h5,h6,h7]
 ·by_cases h6:k=6
  ·by_cases hz:z=0<;>simp[h5,h6,hz]
  ·by_cases h7:k=7
   ·by_cases hz:z=0<;>simp[h5,h6,h7,hz]
   ·simp[h5,h6,h7]
theorem Cu(N:Nat)(hN:200000≤N)(c:aa)(b:af)(ha:b.2.1.length≤100000)(hl:b.2.2.2.2.2.1.length≤100000)(ho:ez b.2.2.2.2.2.1=true):
  bR.um N N c b 0=some (decide (∀j,j<b.2.2.2.2.2.1.length→mX c b.2.1 b.2.2.2.2.2.1 j)&&true):=by
 refine eU (F:=fun n i=>bR.um N n c b i) (mX c b.2.1 b.2.2.2.2.2.1) (fun n i r hi wq hr=> ?_) (fun n=> ?_) N (by omega)
 ·unfold bR.um bR.th
  unfold ez at ho
  rw[Bool.and_eq_true,decide_eq_true_iff]at ho
  have h1:=(ho.1 i hi).1
  unfold ff kW at h1
  have h2:decide (gf (b.2.2.2.2.2.1.getD i dP).2.1 0)=false:=decide_eq_false (by unfold gf;omega)
  rw[aD (by omega),cond_true,aF (by omega) (by omega),cond_true,Int.toNat_natCast,al (x:=(i:Int)+1) (by omega) (by omega),ae,hr]
  simp only[pO N b ha hN,Option.bind_some,cond_true]
  rw[h2,Bool.or_false,AK]
  rfl
 ·unfold bR.um bR.th
  rw[ax (by omega),cond_false]
theorem yW(N:Nat)(hN:200000≤N)(c:aa)(b:af)(hl:b.2.2.2.2.1.length≤100000){e:Bool}(he:bR.um N N c b 0=some e):
  bR.Ha N N c b 0=some (fV b.2.2.2.2.1&&e):=by
 refine eU (F:=fun n i=>bR.Ha N n c b i) (oX b.2.2.2.2.1) (fun n i r hi wq hr=> ?_) (fun n=> ?_) N (by omega)
 ·unfold bR.Ha bR.Hb
  rw[aD (by omega),cond_true,aF (by omega) (by omega),cond_true,Int.toNat_natCast,al (x:=(i:Int)+1) (by omega) (by omega),ae,hr,gY,Option.bind_some,cond_not,ct]
  rfl
 ·unfold bR.Ha bR.Hb
  rw[ax (by omega),cond_false];exact he
theorem Cv(N:Nat)(hN:200000≤N)(c:aa)(b:af)(ha:b.2.1.length≤100000)(hl:b.2.2.2.1.length≤100000){e:Bool}(he:bR.Ha N N c b 0=some e):
  bR.kd N N c b 0=some (decide (∀j,j<b.2.2.2.1.length→g6 c b.2.1 b.2.2.2.1 j)&&e):=by
 refine eU (F:=fun n i=>bR.kd N n c b i) (g6 c b.2.1 b.2.2.2.1) (fun n i r hi wq hr=> ?_) (fun n=> ?_) N (by omega)
 ·unfold bR.kd bR.jb
  rw[aD (by omega),cond_true,aF (by omega) (by omega),cond_true,Int.toNat_natCast,al (x:=(i:Int)+1) (by omega) (by omega),ae,hr]
  simp only[pO N b ha hN,Option.bind_some,cond_true]
  rw[AK]
  have QU:((((dL b.2.1 (b.2.2.2.1.getD i aL).1).2||decide (gf (b.2.2.2.1.getD i aL).1 0))=true)∧BY (b.2.2.2.1.getD i aL).2.1 c.1.length)↔g6 c b.2.1 b.2.2.2.1 i:=by
   unfold g6
   rw[Bool.or_eq_true,decide_eq_true_iff]
   exact⟨fun h=>⟨h.1.symm,h.2⟩,fun h=>⟨h.1.symm,h.2⟩⟩
  by_cases hP:g6 c b.2.1 b.2.2.2.1 i
  ·rw[if_pos hP,if_pos (QU.2 hP)]
  ·rw[if_neg hP,if_neg (fun h=>hP (QU.1 h))]
 ·unfold bR.kd bR.jb
  rw[ax (by omega),cond_false];exact he
theorem AL(N:Nat)(hN:200000≤N)(c:aa)(b:af)(hm:b.1.length≤100000)(ha:b.2.1.length≤100000)(hl:b.2.2.1.length≤100000)(hk:e7 b.2.2.1=true){e:Bool}
  (he:bR.kd N N c b 0=some e):bR.l6 N N c b 0=some (decide (∀j,j<b.2.2.1.length→iR b.1 b.2.1 b.2.2.1 j)&&e):=by
 refine eU (F:=fun n i=>bR.l6 N n c b i) (iR b.1 b.2.1 b.2.2.1) (fun n i r hi wq hr=> ?_) (fun n=> ?_) N (by omega)
 ·unfold bR.l6 bR.pJ
  unfold e7 at hk
  rw[Bool.and_true,decide_eq_true_iff]at hk
  have h1:=(hk i hi).1
  rw[aD (by omega),cond_true,aF (by omega) (by omega),cond_true,Int.toNat_natCast,al (x:=(i:Int)+1) (by omega) (by omega),ae,hr]
  simp only[pO N b ha hN,uh N hm hN,Option.bind_some]
  rw[KQ]
  have QU:((gf (b.2.2.1.getD i aL).1 5→((dL b.2.1 (b.2.2.1.getD i aL).2.1).2||decide (gf (b.2.2.1.getD i aL).2.1 0))=true)∧(gf (b.2.2.1.getD i aL).1 6∨gf (b.2.2.1.getD i aL).1 7→ ¬gf (lP b.1 (b.2.2.1.getD i aL).2.1) 0))↔iR b.1 b.2.1 b.2.2.1 i:=by
   unfold iR
   refine and_congr_left fun _=>imp_congr_right fun h5=> ?_
   rw[Bool.or_eq_true,decide_eq_true_iff]
   refine⟨fun h=>h.elim id fun h0=> ?_,.inl⟩
   unfold dW at h1;unfold gf at h5 h0;omega
  by_cases hP:iR b.1 b.2.1 b.2.2.1 i
  ·rw[if_pos hP,if_pos (QU.2 hP)]
  ·rw[if_neg hP,if_neg (fun h=>hP (QU.1 h))]
 ·unfold bR.l6 bR.pJ
  rw[ax (by omega),cond_false];exact he
end VM
end
section
namespace VM
open Go VM.F
theorem k1{x:Bool}{r:Option Bool}{y:Bool}(h:x=true→r=some y):cond (!x) (some false) r=some (x&&y):=by
 cases x
 ·rfl
 ·exact h rfl
theorem si(N:Nat)(hN:5000000≤N){c:aa}{b:af}(w:eM b):bR N c b=some (bV c b):=by
 unfold bR bR.b
 rw[nN N (by omega),Option.bind_some]
 have e0:ay (lL (j2 b.2.2.1)) 0=decide (gf (j2 b.2.2.1) 0):=by rw[gb,decide_eq_decide];exact ka
 refine(k1 fun _=> ?_).trans (congrArg some (?_:(dY c&&(sf b.1 b.2.1&&(e7 b.2.2.1&&(wW b.2.2.2.1&&(ez b.2.2.2.2.2.1&&(decide (gf b.2.2.2.2.1.length c.1.length)&&(decide (gf (j2 b.2.2.1) 0)&&
  (decide (∀j,j<b.2.2.1.length→iR b.1 b.2.1 b.2.2.1 j)&&(decide (∀j,j<b.2.2.2.1.length→g6 c b.2.1 b.2.2.2.1 j)&&(fV b.2.2.2.2.1&&(decide (∀j,j<b.2.2.2.2.2.1.length→mX c b.2.1 b.2.2.2.2.2.1 j)&&true)))))))))))=bV c b))
 ·rw[AH N w.m w.a (by omega),Option.bind_some]
  refine k1 fun _=> ?_
  rw[AB N w.r (by omega),Option.bind_some]
  refine k1 fun hk=> ?_
  rw[QS N w.qs w.s (by omega),Option.bind_some]
  refine k1 fun _=> ?_
  rw[nO N w.o (by omega),Option.bind_some]
  refine k1 fun ho=> ?_
  rw[gb]
  refine k1 fun _=> ?_
  rw[Oi N w.qr w.r (by omega),Option.bind_some,mW,Option.bind_some,e0]
  refine k1 fun _=> ?_
  exact AL N (by omega) c b w.m w.a w.r hk (Cv N (by omega) c b w.a w.s (yW N (by omega) c b w.p (Cu N (by omega) c b w.a w.o ho)))
 ·unfold bV
  generalize dY c=x1,sf b.1 b.2.1=x2,e7 b.2.2.1=x3,wW b.2.2.2.1=x4,ez b.2.2.2.2.2.1=x5,decide (gf b.2.2.2.2.1.length c.1.length)=x6,decide (gf (j2 b.2.2.1) 0)=x7,decide (∀j,j<b.2.2.1.length→iR b.1 b.2.1 b.2.2.1 j)=x8,decide (∀j,j<b.2.2.2.1.length→g6 c b.2.1 b.2.2.2.1 j)=x9,fV b.2.2.2.2.1=aQ,decide (∀j,j<b.2.2.2.2.2.1.length→mX c b.2.1 b.2.2.2.2.2.1 j)=aI
  rw[Bool.and_true]
  cases x1<;>cases x2<;>cases x3<;>cases x4<;>cases x5<;>cases x6<;>cases x7<;>try rfl
  cases x8<;>cases x9<;>cases aQ<;>cases aI<;>rfl
end VM
end
section
namespace VM
open Go VM.F
def mA(a q n:Int)(i:Nat)(p:Int):Prop:=0≤a∧a<n∧q≠0∧xU q∧(0<i→p<a)
instance(a q n:Int)(i:Nat)(p:Int):Decidable (mA a q n i p):=by unfold mA;infer_instance
def kK(c:aa)(l:av)(i:Nat):Prop:=mA (l.getD i bI).1 (l.getD i bI).2.1 c.1.length i (l.getD (i-1) bI).1
instance(c:aa)(l:av):DecidablePred (kK c l):=fun i=>by unfold kK;infer_instance
def ke(c:aa)(l:av):Bool:=decide (∀j,j<l.length→kK c l j)&&dY c
theorem ML(N:Nat)(hN:200000≤N)(c:aa){l:av}(hl:l.length≤100000):lT N c l=some (ke c l):=by
 unfold lT lT.b
 refine eU (F:=fun n i=>lT.l2 N n l c l (l.length:Int) i) (kK c l) (fun n i r hi hp hr=> ?_) (fun n=> ?_) N (by omega)
 ·unfold lT.l2 lT.dx
  rw[aD (by omega),cond_true,aF (by omega) (by omega),cond_true,Int.toNat_natCast,al (x:=(i:Int)+1) (by omega) (by omega),ae,hr,oV,Option.bind_some,cond_not,ct]
  by_cases h0:0<i
  ·have e:W .i64 ((i:Int)-1)=((i-1:Nat):Int):=by rw[al (by omega) (by omega)];omega
   dsimp only
   rw[aD (x:=0) (y:=(i:Int)) (by omega),cond_true,e,Int.toNat_natCast,aF (by omega) (by omega),cond_true]
   simp only[aJ,bk,au]
   by_cases hP:kK c l i
   ·rw[if_pos hP];unfold kK mA at hP
    rw[if_neg (by omega),if_neg (by omega),if_neg hP.2.2.1,if_pos hP.2.2.2.1,if_neg (by omega)]
   ·rw[if_neg hP];unfold kK mA at hP
    have h2:=fun h1 h2 h3 h4 h5=>hP ⟨h1,h2,h3,h4,h5⟩
    repeat' split
    all_goals first|rfl|(exfalso;exact h2 (by omega) (by omega) (by assumption) (by assumption) (by omega))
  ·rw[ax (x:=0) (y:=(i:Int)) (by omega),cond_false]
   simp only[aJ,bk,au]
   by_cases hP:kK c l i
   ·rw[if_pos hP];unfold kK mA at hP
    rw[if_neg (by omega),if_neg (by omega),if_neg hP.2.2.1,if_pos hP.2.2.2.1]
   ·rw[if_neg hP];unfold kK mA at hP
    have h2:=fun h1 h2 h3 h4 h5=>hP ⟨h1,h2,h3,h4,h5⟩
    repeat' split
    all_goals first|rfl|(exfalso;exact h2 (by omega) (by omega) (by assumption) (by assumption) (by omega))
 ·unfold lT.l2 lT.dx
  rw[ax (by omega),cond_false,zr N (by omega),Option.bind_some]
end VM
end
section
namespace VM
open Go VM.F
theorem pP(N:Nat)(hN:200000≤N)(c:aa){l:av}(hl:l.length≤100000):kf N c l=some (ke c l):=by
 unfold kf kf.b
 rw[nN N (by omega),Option.bind_some]
 have hsc:=eU (F:=fun n i=>kf.l4 N n l c i) (e:=true) (kK c l) (fun n i r hi hp hr=> ?_) (fun n=> ?_) N (show l.length<N by omega)
 ·rw[kb hsc];unfold ke
  rw[Bool.and_true,Bool.and_comm]
 ·unfold kf.l4 kf.cA
  rw[aD (by omega),cond_true,aF (by omega) (by omega),cond_true,Int.toNat_natCast,al (x:=(i:Int)+1) (by omega) (by omega),ae,hr]
  by_cases h0:0<i
  ·have e:W .i64 ((i:Int)-1)=((i-1:Nat):Int):=by rw[al (by omega) (by omega)];omega
   dsimp only
   rw[aD (x:=0) (y:=(i:Int)) (by omega),e,Int.toNat_natCast,aF (i:=((i-1:Nat):Int)) (by omega) (by omega)]
   simp only[aJ,bk,au,cond_true]
   by_cases hP:kK c l i
   ·rw[if_pos hP];unfold kK mA at hP
    rw[if_neg (by omega),if_neg (by omega),if_neg hP.2.2.1,if_neg (show ¬((l.getD i bI).2.1:Int)= -9223372036854775808 from hP.2.2.2.1),if_neg (by omega)]
   ·rw[if_neg hP];unfold kK mA at hP
    have h2:=fun h1 h2 h3 h4 h5=>hP ⟨h1,h2,h3,h4,h5⟩
    repeat' split
    all_goals first|rfl|(exfalso;exact h2 (by omega) (by omega) (by assumption) (by assumption) (by omega))
  ·rw[ax (x:=0) (y:=(i:Int)) (by omega)]
   simp only[aJ,bk,au,cond_true,cond_false]
   by_cases hP:kK c l i
   ·rw[if_pos hP];unfold kK mA at hP
    rw[if_neg (by omega),if_neg (by omega),if_neg hP.2.2.1,if_neg (show ¬((l.getD i bI).2.1:Int)= -9223372036854775808 from hP.2.2.2.1)]
   ·rw[if_neg hP];unfold kK mA at hP
    have h2:=fun h1 h2 h3 h4 h5=>hP ⟨h1,h2,h3,h4,h5⟩
    repeat' split
    all_goals first|rfl|(exfalso;exact h2 (by omega) (by omega) (by assumption) (by assumption) (by omega))
 ·unfold kf.l4 kf.cA
  rw[ax (by omega),cond_false]
end VM
end
section
namespace VM
open Go VM.F
def KR(a b c d:Int):Prop:=(1≤a∧a≤1099511627776)∧(1≤b∧b≤1099511627776)∧(1≤c∧c≤12)∧(-1152921504606846976≤d∧d≤1152921504606846976)
instance(a b c d:Int):Decidable (KR a b c d):=by unfold KR;infer_instance
def QV(x:br):Prop:=KR x.1 x.2.1 x.2.2.1 x.2.2.2.1
instance(x:br):Decidable (QV x):=by unfold QV;infer_instance
end VM
end
section
namespace VM
open Go VM.F
def tI(m lot:Int)(x:br):Bool:=decide (gf x.2.2.1 m)&&decide (gf x.2.1 lot)
end VM
end
section
namespace VM
open Go VM.F
def EV(l:aE)(i:Nat):Prop:=QV (l.getD i aK)∧sd i (l.getD (i-1) aK).1 (l.getD i aK).1∧(l.take i).any (tI (l.getD i aK).2.2.1 (l.getD i aK).2.1)=false
instance(l:aE):DecidablePred (EV l):=fun i=>by unfold EV;infer_instance
def anU(l:aE):Bool:=decide (∀j,j<l.length→EV l j)&&decide (l.length≤40)
end VM
end
section
namespace VM
open Go VM.F
def cm(a b:Int):ah→List Int
 |[]=>[]
 |x::t=>if x.1=a∧x.2.1=b then et x::cm a b t else cm a b t
theorem df(a b:Int)(x:ca)(t:ah):cm a b (x::t)=if x.1=a∧x.2.1=b then et x::cm a b t else cm a b t:=rfl
def cf(a b:Int)(l:ah):Int:=(cm a b l).sum
theorem De(a b:Int):cf a b []=0:=rfl
theorem jc(a b:Int)(x:ca)(t:ah):cf a b (x::t)=(if x.1=a∧x.2.1=b then et x else 0)+cf a b t:=by
 unfold cf
 rw[df]
 split
 ·rw[List.sum_cons]
 ·omega
theorem jd{a b:Int}: ∀{l:ah},(∀x∈l,¬(x.1=a∧x.2.1=b))→cf a b l=0
 |[],_=>rfl
 |x::t,h=>by
  rw[jc,if_neg (h x (List.mem_cons_self ..)),jd (fun y hy=>h y (List.mem_cons_of_mem _ hy))];rfl
abbrev cT:=Int×Int
def pn(x y:cT):Prop:=ig x.1 x.2 y.1 y.2
instance(x y:cT):Decidable (pn x y):=by unfold pn;infer_instance
def keyOf(x:ca):cT:=(x.1,x.2.1)
def sT(K:List cT):Prop:=K.Pairwise pn
theorem mY{x:cT}(h:pn x x):False:=by unfold pn ig at h;omega
theorem Df{x y:cT}(h:pn x y)(k:pn y x):False:=by unfold pn ig at*;omega
theorem sU{x y z:cT}(h:pn x y)(k:pn y z):pn x z:=by unfold pn ig at*;omega
theorem MM(x y:cT):pn x y∨x=y∨pn y x:=by
 have:(x.1=y.1∧x.2=y.2)→x=y:=fun h=>Prod.ext h.1 h.2
 unfold pn ig
 by_cases h1:x.1=y.1
 ·by_cases h2:x.2=y.2
  ·exact Or.inr (Or.inl (this ⟨h1,h2⟩))
  ·omega
 ·omega
theorem MN: ∀{a b:List cT},sT a→sT b→(∀x,x∈a↔x∈b)→a=b
 |[],[],_,_,_=>rfl
 |[],y::t,_,_,h=>nomatch (h y).2 (List.mem_cons_self ..)
 |x::s,[],_,_,h=>nomatch (h x).1 (List.mem_cons_self ..)
 |x::s,y::t,ha,hb,h=>by
  obtain⟨Ua,ha2⟩:=List.pairwise_cons.1 ha
  obtain⟨kB,tb⟩:=List.pairwise_cons.1 hb
  have hxy:x=y:=by
   rcases List.mem_cons.1 ((h x).1 (List.mem_cons_self ..))with e|e
   ·exact e
   ·rcases List.mem_cons.1 ((h y).2 (List.mem_cons_self ..))with f|f
    ·exact f.symm
    ·exact(Df (Ua y f) (kB x e)).elim
  subst hxy
  rw[MN ha2 tb fun z=>⟨fun hz=> ?_,fun hz=> ?_⟩]
  ·rcases List.mem_cons.1 ((h z).1 (List.mem_cons_of_mem _ hz))with e|e
   ·subst e;exact(mY (Ua z hz)).elim
   ·exact e
  ·rcases List.mem_cons.1 ((h z).2 (List.mem_cons_of_mem _ hz))with e|e
   ·subst e;exact(mY (kB z hz)).elim
   ·exact e
def dR(P:Int→Prop) [DecidablePred P](f:Int→Int→Int):List cT→Option ah
 |[]=>some []
 |k::t=>if P (f k.1 k.2)then(dR P f t).map (fun o=>if f k.1 k.2=0 then o else(k.1,(k.2,(f k.1 k.2,())))::o)else none
theorem k4(P:Int→Prop) [DecidablePred P](f:Int→Int→Int)(k:cT)(t:List cT):dR P f (k::t)=if P (f k.1 k.2)then(dR P f t).map (fun o=>if f k.1 k.2=0 then o else(k.1,(k.2,(f k.1 k.2,())))::o)else none:=rfl
theorem xY{P:Int→Prop} [DecidablePred P](h0:P 0){f:Int→Int→Int}(p:cT→Bool): ∀{K:List cT},(∀k∈K,p k=false→f k.1 k.2=0)→dR P f (K.filter p)=dR P f K
 |[],_=>rfl
 |k::t,h=>by
  have ih:=xY h0 p (K:=t) (fun x hx=>h x (List.mem_cons_of_mem _ hx))
  cases hp:p k
  ·rw[List.filter_cons_of_neg (by rw[hp];decide),ih,k4,h k (List.mem_cons_self ..) hp,if_pos h0]
   simp
  ·rw[List.filter_cons_of_pos hp,k4,k4,ih]
theorem Hy{P:Int→Prop} [DecidablePred P](h0:P 0){f:Int→Int→Int}{K G:List cT}(hK:sT K)(hG:sT G)(hs: ∀k∈K,k∈G)(hz: ∀k∈G,k∉K→f k.1 k.2=0):dR P f K=dR P f G:=by
 have e:K=G.filter (fun k=>decide (k∈K)):=by
  refine MN hK (List.Pairwise.sublist List.filter_sublist hG) fun x=> ?_
  rw[List.mem_filter]
  exact⟨fun h=>⟨hs x h,decide_eq_true h⟩,fun h=>of_decide_eq_true h.2⟩
 rw[e]
 exact xY h0 _ fun k hk hp=>hz k hk (of_decide_eq_false hp)
def sj(k:cT):List cT→List cT
 |[]=>[k]
 |x::t=>if pn x k then x::sj k t else if x=k then x::t else k::x::t
theorem nQ{k x:cT}: ∀{K:List cT},x∈sj k K↔x=k∨x∈K
 |[]=>by show x∈[k]↔_;simp
 |y::t=>by
  show x∈(if pn y k then y::sj k t else if y=k then y::t else k::y::t)↔_
  split
  ·rw[List.mem_cons,nQ,List.mem_cons]
   exact⟨fun h=>h.elim (fun e=>Or.inr (Or.inl e)) (fun h=>h.elim Or.inl (fun h=>Or.inr (Or.inr h))),fun h=>h.elim (fun e=>Or.inr (Or.inl e)) (fun h=>h.elim Or.inl (fun h=>Or.inr (Or.inr h)))⟩
  ·split
   ·rename_i e
    rw[←e]
    exact⟨Or.inr,fun h=>h.elim (fun e=>e▸List.mem_cons_self ..) id⟩
   ·rw[List.mem_cons]
theorem vH{k:cT}: ∀{K:List cT},sT K→sT (sj k K)
 |[],_=>List.pairwise_cons.2 ⟨fun _ h=>(nomatch h),List.Pairwise.nil⟩
 |y::t,h=>by
  obtain⟨h1,h2⟩:=List.pairwise_cons.1 h
  show sT (if pn y k then y::sj k t else if y=k then y::t else k::y::t)
  split
  ·rename_i hy
   exact List.pairwise_cons.2 ⟨fun z hz=>(nQ.1 hz).elim (fun e=>e▸hy) (h1 z),vH h2⟩
  ·rename_i hy
   split
   ·exact h
   ·rename_i he
    have hk:pn k y:=(MM y k).elim (fun h=>absurd h hy) (fun h=>h.elim (fun h=>absurd h he) id)
    exact List.pairwise_cons.2 ⟨fun z hz=>(List.mem_cons.1 hz).elim (fun e=>e▸hk) (fun hz=>sU hk (h1 z hz)),h⟩
def kg(K:List cT)(E:ah):List cT:=E.foldl (fun K x=>sj (keyOf x) K) K
theorem oY(K:List cT)(x:ca)(E:ah):kg K (x::E)=kg (sj (keyOf x) K) E:=rfl
theorem uq: ∀{E:ah} {K:List cT},sT K→sT (kg K E)
 |[],_,h=>h
 |x::E,K,h=>by rw[oY];exact uq (vH h)
theorem je{k:cT}: ∀{E:ah} {K:List cT},k∈kg K E↔(k∈K∨ ∃x∈E,keyOf x=k)
 |[],K=>by
  show k∈K↔_
  simp
 |x::E,K=>by
  rw[oY,je,nQ]
  constructor
  ·rintro((rfl|h)|⟨y,hy,e⟩)
   ·exact Or.inr ⟨x,List.mem_cons_self ..,rfl⟩
   ·exact Or.inl h
   ·exact Or.inr ⟨y,List.mem_cons_of_mem _ hy,e⟩
  ·rintro(h|⟨y,hy,e⟩)
   ·exact Or.inl (Or.inr h)
   ·rcases List.mem_cons.1 hy with rfl|hy
    ·exact Or.inl (Or.inl e.symm)
    ·exact Or.inr ⟨y,hy,e⟩
theorem AN(k:cT): ∀K:List cT,(sj k K).length≤K.length+1
 |[]=>Nat.le_refl _
 |y::t=>by
  show(if pn y k then y::sj k t else if y=k then y::t else k::y::t).length≤_
  have:=AN k t
  split
  ·rw[List.length_cons,List.length_cons];omega
  ·split<;>rw[List.length_cons]<;>(try rw[List.length_cons])<;>omega
def rowsOf(l:ah)(K:List cT):ah:=K.map fun k=>(k.1,(k.2,(cf k.1 k.2 l,())))
theorem jt{l:ah}(h:sT (l.map keyOf)):rowsOf l (l.map keyOf)=l:=by
 have key: ∀(m:ah),sT (m.map keyOf)→(∀x∈m,cf x.1 x.2.1 l=et x)→rowsOf l (m.map keyOf)=m:=by
  intro m
  induction m with
  |nil=>intro _ _;rfl
  |cons x t ih=>
   intro hm hx
   have:=ih (List.pairwise_cons.1 hm).2 (fun y hy=>hx y (List.mem_cons_of_mem _ hy))
   unfold rowsOf at*
   rw[List.map_cons,List.map_cons,this]
   congr 1
   show(x.1,(x.2.1,(cf x.1 x.2.1 l,())))=x
   rw[hx x (List.mem_cons_self ..)];rfl
 refine key l h ?_
 clear key
 induction l with
 |nil=>intro x hx;nomatch hx
 |cons y t ih=>
  intro x hx
  obtain⟨h1,h2⟩:=List.pairwise_cons.1 h
  have gk: ∀z∈t,¬(z.1=y.1∧z.2.1=y.2.1):=fun z hz e=>by
   have hk:=h1 (keyOf z) (List.mem_map_of_mem hz)
   have he:keyOf z=keyOf y:=Prod.ext e.1 e.2
   rw[he]at hk
   exact mY hk
  rw[jc]
  rcases List.mem_cons.1 hx with rfl|hx
  ·rw[if_pos ⟨rfl,rfl⟩,jd gk];omega
  ·rw[if_neg (fun e=>gk x hx ⟨e.1.symm,e.2.symm⟩),ih h2 x hx];omega
end VM
end
section
namespace VM
open Go VM.F
instance(x:Int):Decidable (aA x):=by unfold aA;infer_instance
def Fq(x:Int):Prop:=aA x∧xU x
instance:DecidablePred Fq:=fun x=>by unfold Fq;infer_instance
def qy(r:Option ah):Option (ah×Int):=some (match r with|some o=>(o,0)|none=>([],2))
def fS(l E:ah)(a b:Int):Int:=cf a b l+cf a b E
theorem zv{α:Type}(N:Nat){l:List α}{i:Nat}{x:α}(hi:i≤l.length)(hl:l.length<1000000):gR N l (i:Int) [x]=some (l.take i++x::l.drop i):=by
 unfold gR
 rw[if_pos ⟨by omega,by omega,rfl,by unfold uM;omega⟩]
 rfl
theorem sk{α:Type}(N:Nat){l:List α}(hl:l.length≤1000000):kP N l=some l:=by
 unfold kP
 rw[if_pos (by unfold uM;omega)]
theorem vI(N:Nat){v:Int}(h:bA v):Hn N (bg v)=some (yR v):=Un N h.1 h.2
theorem oZ{v:Int}(h:aA v):yR v=(v,true):=by unfold yR;exact if_pos h
theorem qz{v:Int}(h: ¬aA v):yR v=(0,false):=by unfold yR;exact if_neg h
theorem wX{ws:List Int}{x:Int}(h: ∀y∈ws,aA y)(hx:aA x): ∀y∈ws++[x],aA y:=fun y hy=>by
 rcases List.mem_append.1 hy with hy|hy
 ·exact h y hy
 ·rw[List.mem_singleton.1 hy];exact hx
theorem Hz(N:Nat){l:ah}:Uv N l=some l:=by
 unfold Uv
 rw[cE (by omega) (by omega) (by omega) (by omega),cond_true]
 simp
theorem QW(N:Nat)(hN:2000000≤N)(K:bE.Dg){E out R:ah}(hq:dz E)(hl:E.length≤100000)(ho:out.length≤1000000)(r:ca)(hr:aA (et r))(i:Nat)(hi:i≤1000000):
  bE.l27 N K N E out r [bg (et r)] R (R.length:Int) (i:Int) E (E.length:Int) 0=
   if Fq (et r+cf r.1 r.2.1 E)then K E (if et r+cf r.1 r.2.1 E=0 then out else out++[(r.1,(r.2.1,(et r+cf r.1 r.2.1 E,())))]) R (R.length:Int) ((i+1:Nat):Int)else some (aY,(2:Int)):=by
 have:=kD E aL (fun n j ws=>bE.l27 N K n E out r (ws.map bg) R (R.length:Int) (i:Int) E (E.length:Int) j)
  (fun t ws=>if Fq (ws++cm r.1 r.2.1 t).sum then K E (if(ws++cm r.1 r.2.1 t).sum=0 then out else out++[(r.1,(r.2.1,((ws++cm r.1 r.2.1 t).sum,())))]) R (R.length:Int) ((i+1:Nat):Int)else some (aY,(2:Int)))
  (fun j (ws:List Int)=>ws.length≤j+1∧ ∀x∈ws,aA x)
  (fun n j ws hj hI dw=> ?_) (fun n ws hI=> ?_) E.length N 0 [et r] (by omega) (by omega) (by omega) ⟨Nat.le_refl _,fun x hx=>by rw[List.mem_singleton.1 hx];exact hr⟩
 ·rw[show((0:Nat):Int)=0 from rfl,List.drop_zero]at this
  refine this.trans ?_
  have e:([et r]++cm r.1 r.2.1 E).sum=et r+cf r.1 r.2.1 E:=by rw[List.singleton_append,List.sum_cons];rfl
  rw[e]
 ·unfold bE.l27 bE.Uw
  have js:=uj hq j
  have fp:=js
  unfold aA et at fp
  rw[aD (by omega),cond_true,aF (by omega) (by omega),cond_true,Int.toNat_natCast,mw N fp.1 fp.2,Option.bind_some,aZ (by rw[List.length_map,List.length_singleton];omega),cond_true,al (x:=(j:Int)+1) (by omega) (by omega),ae,au,au]
  by_cases h1:(E.getD j aL).1=r.1
  ·by_cases h2:(E.getD j aL).2.1=r.2.1
   ·have hc:cm r.1 r.2.1 (E.getD j aL::E.drop (j+1))=et (E.getD j aL)::cm r.1 r.2.1 (E.drop (j+1)):=by rw[df,if_pos ⟨h1,h2⟩]
    rw[if_pos h1,if_pos h2,hc]
    have:=dw (ws++[et (E.getD j aL)]) ⟨by rw[List.length_append,List.length_singleton];omega,wX hI.2 js⟩
    rw[List.map_append]at this
    refine this.trans ?_
    rw[List.append_assoc];rfl
   ·have hc:cm r.1 r.2.1 (E.getD j aL::E.drop (j+1))=cm r.1 r.2.1 (E.drop (j+1)):=by rw[df,if_neg (fun h=>h2 h.2)]
    rw[if_pos h1,if_neg h2,hc]
    exact dw ws ⟨by omega,hI.2⟩
  ·have hc:cm r.1 r.2.1 (E.getD j aL::E.drop (j+1))=cm r.1 r.2.1 (E.drop (j+1)):=by rw[df,if_neg (fun h=>h1 h.1)]
   rw[if_neg h1,hc]
   exact dw ws ⟨by omega,hI.2⟩
 ·unfold bE.l27 bE.Uw
  have hs:=Dd hI.2 (by omega)
  rw[ax (by omega),cond_false,EP N hI.2 (by omega) (by omega),Option.bind_some]
  show _=if Fq (ws++[]).sum then K E (if(ws++[]).sum=0 then out else out++[(r.1,(r.2.1,((ws++[]).sum,())))]) R (R.length:Int) ((i+1:Nat):Int)else some (aY,(2:Int))
  rw[List.append_nil,vI N hs,Option.bind_some]
  by_cases h1:aA ws.sum
  ·rw[oZ h1]
   dsimp only
   rw[Bool.not_true,cond_false,oV,Option.bind_some,cond_not,ct,cond_not,au,aZ (by rw[List.length_singleton];omega),cond_true,al (x:=(i:Int)+1) (by omega) (by omega),ae]
   by_cases h2:xU ws.sum
   ·rw[if_pos h2,if_pos (show Fq ws.sum from⟨h1,h2⟩)]
    split<;>rfl
   ·rw[if_neg h2,if_neg (fun h=>h2 h.2)]
  ·rw[qz h1,if_neg (fun h=>h1 h.1)]
   rfl
theorem On(N:Nat)(hN:2000000≤N){l E R:ah}(hq:dz E)(hl:E.length≤100000)(hR:R.length≤200000)(hv: ∀r∈R,aA (et r)∧et r=cf r.1 r.2.1 l):
  bE.Ux N N E [] R (R.length:Int) 0=qy (dR Fq (fS l E) (R.map keyOf)):=by
 have:=kD R aL (fun n i out=>bE.Ux N n E out R (R.length:Int) i) (fun t out=>qy ((dR Fq (fS l E) (t.map keyOf)).map (fun o=>out++o))) (fun i (out:ah)=>out.length≤i)
  (fun n i out hi hI hr=> ?_) (fun n out hI=> ?_) R.length N 0 [] (by omega) (by omega) (by omega) (Nat.le_refl _)
 ·rw[show((0:Nat):Int)=0 from rfl,List.drop_zero]at this
  refine this.trans ?_
  simp
 ·unfold bE.Ux bE.Uy
  have hm:R.getD i aL∈R:=by
   rw[List.getD_eq_getElem?_getD,List.getElem?_eq_getElem hi];exact List.getElem_mem hi
  have PN:=hv _ hm
  have js:=PN.1
  have fp:=js
  unfold aA et at fp
  rw[aD (by omega),cond_true,aF (by omega) (by omega),cond_true,Int.toNat_natCast,mw N fp.1 fp.2,Option.bind_some]
  refine(QW N hN _ hq hl (by omega) _ js i (by omega)).trans ?_
  rw[List.map_cons,k4]
  have ef:fS l E (keyOf (R.getD i aL)).1 (keyOf (R.getD i aL)).2=et (R.getD i aL)+cf (R.getD i aL).1 (R.getD i aL).2.1 E:=by
   show cf _ _ l+cf _ _ E=_
   rw[PN.2];rfl
  rw[ef]
  generalize hS:et (R.getD i aL)+cf (R.getD i aL).1 (R.getD i aL).2.1 E=v
  by_cases hF:Fq v
  ·rw[if_pos hF,if_pos hF,hr _ (by
    split
    ·omega
    ·rw[List.length_append,List.length_singleton];omega)]
   cases dR Fq (fS l E) ((R.drop (i+1)).map keyOf)with
   |none=>rfl
   |some o=>
    show qy (some _)=qy (some _)
    congr 2
    split
    ·rfl
    ·exact List.append_assoc _ _ _
  ·rw[if_neg hF,if_neg hF];rfl
 ·unfold bE.Ux bE.Uy
  rw[ax (by omega),cond_false,Hz,Option.bind_some]
  show _=qy (some (out++[]))
  rw[List.append_nil];rfl
def yX(l:ah)(k:cT):ca:=(k.1,(k.2,(cf k.1 k.2 l,())))
theorem cZ(l:ah)(K:List cT):(rowsOf l K).length=K.length:=List.length_map ..
theorem Dh(l:ah){K:List cT}{p:Nat}(h:p<K.length):(rowsOf l K).getD p aL=yX l (K.getD p (0,0)):=by
 unfold rowsOf
 rw[List.getD_eq_getElem?_getD,List.getElem?_map,List.getElem?_eq_getElem h,List.getD_eq_getElem?_getD,List.getElem?_eq_getElem h];rfl
theorem qA(l:ah)(K:List cT)(p:Nat)(k:cT):(rowsOf l K).take p++yX l k::(rowsOf l K).drop p=rowsOf l (K.take p++k::K.drop p):=by
 unfold rowsOf
 rw[List.map_append,List.map_cons,List.map_take,List.map_drop];rfl
theorem xZ(l:ah)(K:List cT):(rowsOf l K).map keyOf=K:=by
 unfold rowsOf
 rw[List.map_map]
 induction K with
 |nil=>rfl
 |cons k t ih=>rw[List.map_cons,ih];rfl
theorem vJ{k x:cT}:0<wQ k.1 k.2 x.1 x.2↔pn x k:=by
 unfold wQ pn ig;split<;>omega
theorem sV{k x:cT}:wQ k.1 k.2 x.1 x.2=0↔x=k:=by
 have:x=k↔x.1=k.1∧x.2=k.2:=⟨fun h=>h▸⟨rfl,rfl⟩,fun h=>Prod.ext h.1 h.2⟩
 rw[this]
 unfold wQ;split<;>omega
def vK(k:cT):Prop:=Cr k.1∧Cr k.2
theorem MO{k:cT}{K:List cT}{p:Nat}(h:p<K.length):sj k (K.drop p)=if pn (K.getD p (0,0)) k then K.getD p (0,0)::sj k (K.drop (p+1))else if K.getD p (0,0)=k then K.drop p else k::K.drop p:=by
 rw[drop_cons h (0,0)];rfl
theorem vL{K:List cT}{p:Nat}(h:p<K.length)(t:List cT):K.take p++K.getD p (0,0)::t=K.take (p+1)++t:=by
 rw[←List.take_append_getElem h,List.append_assoc,List.getD_eq_getElem?_getD,List.getElem?_eq_getElem h];rfl
def zeroAt(l:ah)(K:List cT)(k:cT):Prop:=k∉K→cf k.1 k.2 l=0
theorem sW{l:ah}{k:cT}(h:cf k.1 k.2 l=0):((k.1,(k.2,((0:Int),()))):ca)=yX l k:=by
 unfold yX;rw[h]
theorem qB{k:cT}{K:List cT}{p:Nat}(hs:sT K)(hp: ∀x∈K.take p,pn x k)(h: ∀x∈K.drop p,pn k x):k∉K:=fun hk=>by
 rw[←List.take_append_drop p K]at hk
 rcases List.mem_append.1 hk with hk|hk
 ·exact mY (hp k hk)
 ·exact mY (h k hk)
theorem MP{k:cT}{K:List cT}{p:Nat}(hs:sT K)(h:p<K.length)(h1: ¬pn (K.getD p (0,0)) k)(h2:K.getD p (0,0)≠k): ∀x∈K.drop p,pn k x:=by
 have hk:pn k (K.getD p (0,0)):=(MM (K.getD p (0,0)) k).elim (fun h=>absurd h h1) (fun h=>h.elim (fun h=>absurd h h2) id)
 have hd:sT (K.drop p):=List.Pairwise.sublist (List.drop_sublist ..) hs
 rw[drop_cons h (0,0)]at hd ⊢
 intro x hx
 rcases List.mem_cons.1 hx with rfl|hx
 ·exact hk
 ·exact sU hk ((List.pairwise_cons.1 hd).1 x hx)
theorem aab(N:Nat)(C:bE.eh){l E S:ah}{K:List cT}(hs:sT K)(hl:K.length≤100000)(hf: ∀k∈K,vK k)(x:ca)(hx:vK (keyOf x))(hz:zeroAt l K (keyOf x))(len:Int)(i:Nat)(hi:i≤1000000):
  ∀(m n p:Nat),K.length-p≤m→m<n→p≤K.length→(∀y∈K.take p,pn y (keyOf x))→
   bE.tg N C n E (rowsOf l K) x (p:Int) S len (i:Int)=C E (rowsOf l (K.take p++sj (keyOf x) (K.drop p))) S len ((i+1:Nat):Int)
 |m,0,p,_,hn,_,_=>by omega
 |m,n+1,p,hm,hn,hp,hb=>by
  unfold bE.tg bE.sg bE.j18 bE.ab7
  rw[cZ,al (x:=(i:Int)+1) (by omega) (by omega),ae i]
  by_cases h:p<K.length
  ·have hfk:=hf (K.getD p (0,0)) (by rw[List.getD_eq_getElem?_getD,List.getElem?_eq_getElem h];exact List.getElem_mem h)
   have ho:Od N x.1 x.2.1 ((rowsOf l K).getD p aL)=some (wQ (keyOf x).1 (keyOf x).2 (K.getD p (0,0)).1 (K.getD p (0,0)).2):=by
    rw[Dh l h]
    exact Da N hx.1 hx.2 hfk.1 hfk.2
   rw[aD (by omega),cond_true,aF (by omega) (by omega),cond_true,Int.toNat_natCast,ho,Option.bind_some,cG (x:=(p:Int)) (by omega),cond_false,cond_true,Option.bind_some,aJ,cond_not,au,MO h]
   by_cases h1:pn (K.getD p (0,0)) (keyOf x)
   ·rw[if_pos (vJ.2 h1),if_pos h1,al (x:=(p:Int)+1) (by omega) (by omega),ae p,vL h]
    refine aab N C hs hl hf x hx hz len i hi (m-1) n (p+1) (by omega) (by omega) (by omega) fun y hy=> ?_
    rw[←List.take_append_getElem h]at hy
    rcases List.mem_append.1 hy with hy|hy
    ·exact hb y hy
    ·rw[List.getD_eq_getElem?_getD,List.getElem?_eq_getElem h]at h1
     rw[List.mem_singleton.1 hy];exact h1
   ·rw[if_neg (fun h=>h1 (vJ.1 h)),if_neg h1]
    by_cases h2:K.getD p (0,0)=keyOf x
    ·rw[if_pos (sV.2 h2),if_pos h2,List.take_append_drop]
    ·rw[if_neg (fun h=>h2 (sV.1 h)),if_neg h2,zv N (by rw[cZ];omega) (by rw[cZ];omega),Option.bind_some]
     have BV:=hz (qB hs hb (MP hs h h1 h2))
     have e:=qA l K p (keyOf x)
     rw[←sW BV]at e
     exact congrArg (fun R=>C E R S len ((i+1:Nat):Int)) e
  ·have hd:K.drop p=[]:=List.drop_eq_nil_of_le (by omega)
   rw[ax (by omega),cond_false,cM (by omega),cond_true,zv N (by rw[cZ];omega) (by rw[cZ];omega),Option.bind_some]
   have BV:=hz (qB hs hb (by rw[hd];exact fun x hx=>nomatch hx))
   have e:=qA l K p (keyOf x)
   rw[←sW BV]at e
   have e2:sj (keyOf x) (K.drop p)=keyOf x::K.drop p:=by rw[hd];rfl
   rw[e2]
   exact congrArg (fun R=>C E R S len ((i+1:Nat):Int)) e
end VM
end
section
namespace VM
open Go VM.F
def Di(E:ah)(i:Nat):Prop:=gf (dZ (i:Int) E).sum 0
instance(E:ah):DecidablePred (Di E):=fun i=>by unfold Di;infer_instance
theorem Uz(N:Nat)(hN:2000000≤N)(K:eo.bS){E:ah}(hq:dz E)(hl:E.length≤100000)(a:Nat)(ha:a<6):
  eo.l6 N K N E (a:Int) [] (a:Int) E (E.length:Int) 0=if(dZ (a:Int) E).sum=0 then K E ((a+1:Nat):Int)else some false:=by
 have:=kD E aL (fun n j ws=>eo.l6 N K n E (a:Int) (ws.map bg) (a:Int) E (E.length:Int) j)
  (fun t ws=>if(ws++dZ (a:Int) t).sum=0 then K E ((a+1:Nat):Int)else some false)
  (fun j (ws:List Int)=>ws.length≤j∧ ∀x∈ws,aA x)
  (fun n j ws hj hI hr=> ?_) (fun n ws hI=> ?_) E.length N 0 [] (by omega) (by omega) (by omega) ⟨Nat.le_refl _,fun x hx=>nomatch hx⟩
 ·rw[show((0:Nat):Int)=0 from rfl,List.drop_zero]at this
  exact this
 ·unfold eo.l6 eo.pJ
  have js:=uj hq j
  have fp:=js
  unfold aA et at fp
  rw[aD (by omega),cond_true,aF (by omega) (by omega),cond_true,Int.toNat_natCast,mw N fp.1 fp.2,Option.bind_some,aZ (by rw[List.length_map,List.length_singleton];omega),cond_true,al (x:=(j:Int)+1) (by omega) (by omega),ae j,au]
  by_cases h1:(E.getD j aL).2.1=(a:Int)
  ·have hc:dZ (a:Int) (E.getD j aL::E.drop (j+1))=et (E.getD j aL)::dZ (a:Int) (E.drop (j+1)):=by rw[fH,if_pos h1]
   rw[if_pos h1,hc]
   have:=hr (ws++[et (E.getD j aL)]) ⟨by rw[List.length_append,List.length_singleton];omega,wX hI.2 js⟩
   rw[List.map_append]at this
   refine this.trans ?_
   rw[List.append_assoc];rfl
  ·have hc:dZ (a:Int) (E.getD j aL::E.drop (j+1))=dZ (a:Int) (E.drop (j+1)):=by rw[fH,if_neg h1]
   rw[if_neg h1,hc]
   exact hr ws ⟨by omega,hI.2⟩
 ·unfold eo.l6 eo.pJ
  rw[ax (by omega),cond_false,EP N hI.2 (by omega) (by omega),Option.bind_some]
  show _=if(ws++[]).sum=0 then K E ((a+1:Nat):Int)else some false
  rw[List.append_nil,Bool.not_true,cond_false,nP,Option.bind_some,cond_not,au,al (x:=(a:Int)+1) (by omega) (by omega),ae a]
  by_cases h:ws.sum=0
  ·rw[if_pos h,if_pos (ka.2 h)]
  ·rw[if_neg h,if_neg (fun k=>h (ka.1 k))]
theorem QX(N:Nat)(hN:2000000≤N){E:ah}(hq:dz E)(hl:E.length≤100000):eo N E=some (decide (∀j,j<ja→Di E j)&&true):=by
 unfold eo eo.b
 refine eU (len:=ja) (F:=fun n i=>eo.l2 N n E i) (Di E) (fun n i r hi hp hr=> ?_) (fun n=> ?_) N (by unfold ja;omega)
 ·unfold eo.l2 eo.dx
  unfold ja at hi
  rw[aD (by omega),cond_true,Uz N hN _ hq hl i hi,hr]
  unfold Di gf
  rfl
 ·unfold eo.l2 eo.dx
  rw[ax (by unfold ja;omega),cond_false]
structure MQ(E:ah):Prop where
 place: ∀x∈E,b7 x.1 x.2.1
 q: ∀x∈E,aA (et x)∧xU (et x)
 len:E.length≤400
 flat: ∀i:Int,(dZ i E).sum=0
theorem Dj{x:ca}(h:b7 x.1 x.2.1):vK (keyOf x):=by
 have h':b7 (keyOf x).1 (keyOf x).2:=h
 unfold b7 at h'
 unfold vK Cr
 omega
theorem ei{l:ah}{k:cT}(h:k∉l.map keyOf):cf k.1 k.2 l=0:=jd fun x hx e=>h (by
 have:keyOf x=k:=Prod.ext e.1 e.2
 rw[←this];exact List.mem_map_of_mem hx)
theorem Oo(N:Nat)(hN:2000000≤N){l E:ah}(hq:dz E)(hE:E.length≤400)(hp: ∀x∈E,vK (keyOf x))(hs:sT (l.map keyOf))(hl:l.length≤90000)(QY:dz l)(Cw: ∀x∈l,vK (keyOf x)):
  bE.mB N N E l E (E.length:Int) 0=qy (dR Fq (fS l E) (kg (l.map keyOf) E)):=by
 have:=kD E aL (fun n i K=>bE.mB N n E (rowsOf l K) E (E.length:Int) i) (fun t K=>qy (dR Fq (fS l E) (kg K t)))
  (fun i (K:List cT)=>K.length≤l.length+i∧sT K∧(∀k∈K,vK k)∧ ∀x∈l,keyOf x∈K)
  (fun n i K hi hI hr=> ?_) (fun n K hI=> ?_) E.length N 0 (l.map keyOf) (by omega) (by omega) (by omega) ⟨by rw[List.length_map];omega,hs,fun k hk=>by
   obtain⟨x,hx,rfl⟩:=List.mem_map.1 hk
   exact Cw x hx,fun x hx=>List.mem_map_of_mem hx⟩
 ·rw[show((0:Nat):Int)=0 from rfl,List.drop_zero]at this
  simp only[jt hs]at this
  exact this
 ·unfold bE.mB bE.kH
  obtain⟨h1,h2,h3,h4⟩:=hI
  have hm:E.getD i aL∈E:=by
   rw[List.getD_eq_getElem?_getD,List.getElem?_eq_getElem hi];exact List.getElem_mem hi
  rw[aD (by omega),cond_true,aF (by omega) (by omega),cond_true,Int.toNat_natCast]
  refine(aab N _ h2 (by omega) h3 (E.getD i aL) (hp _ hm) (fun hk=>ei fun hx=>hk (by
   obtain⟨x,hx,e⟩:=List.mem_map.1 hx
   rw[←e];exact h4 x hx)) (E.length:Int) i (by omega) K.length N 0 (by omega) (by omega) (by omega) (fun y hy=>nomatch hy)).trans ?_
  rw[List.take_zero,List.nil_append,List.drop_zero,oY]
  refine hr (sj (keyOf (E.getD i aL)) K) ⟨Nat.le_trans (AN _ K) (by omega),vH h2,fun k hk=>(nQ.1 hk).elim (fun e=>e▸hp _ hm) (h3 k),fun x hx=>nQ.2 (Or.inr (h4 x hx))⟩
 ·unfold bE.mB bE.kH
  obtain⟨h1,h2,h3,h4⟩:=hI
  rw[ax (by omega),cond_false,cZ,bG (by omega) (by omega) (by omega),cond_true]
  have:=On N hN (l:=l) (R:=rowsOf l K) hq (by omega) (by rw[cZ];omega) (fun r hr=>by
   unfold rowsOf at hr
   obtain⟨k,hk,rfl⟩:=List.mem_map.1 hr
   refine⟨?_,rfl⟩
   show aA (cf k.1 k.2 l)
   by_cases hkl:k∈l.map keyOf
   ·have e:rowsOf l (l.map keyOf)=l:=jt hs
    have hm:yX l k∈rowsOf l (l.map keyOf):=List.mem_map_of_mem hkl
    rw[e]at hm
    exact QY (yX l k) hm
   ·rw[ei hkl];exact⟨by decide,by decide⟩)
  rw[xZ,cZ]at this
  exact this
theorem gI{l:ah}(h:dh l=true):sT (l.map keyOf)∧(∀x∈l,b7 x.1 x.2.1∧xU (et x)):=by
 unfold dh at h
 rw[Bool.and_true]at h
 have h':=of_decide_eq_true h
 have get: ∀(i:Nat) (hi:i<l.length),l.getD i aL=l[i]:=fun i hi=>by rw[List.getD_eq_getElem?_getD,List.getElem?_eq_getElem hi];rfl
 have QZ: ∀i,i+1<l.length→pn (keyOf (l.getD i aL)) (keyOf (l.getD (i+1) aL)):=fun i hi=>(h' (i+1) hi).2.2.2 (by omega)
 have dD: ∀j,j<l.length→ ∀i,i<j→pn (keyOf (l.getD i aL)) (keyOf (l.getD j aL)):=by
  intro j
  induction j with
  |zero=>intro _ i hi;omega
  |succ j ih=>
   intro hj i hi
   by_cases e:i=j
   ·rw[e];exact QZ j hj
   ·exact sU (ih (by omega) i (by omega)) (QZ j hj)
 refine⟨?_,fun x hx=> ?_⟩
 ·refine List.pairwise_map.2 (List.pairwise_iff_getElem.2 fun i j hi hj oH=> ?_)
  have:=dD j hj i oH
  rw[get i hi,get j hj]at this
  exact this
 ·obtain⟨i,hi,e⟩:=List.getElem_of_mem hx
  have:=h' i hi
  unfold jr jZ at this
  rw[get i hi,e]at this
  exact⟨this.1,this.2.2.1⟩
theorem UA(N:Nat)(hN:2000000≤N){l E:ah}(hk:dh l=true)(hl:l.length≤90000)(QY:dz l)(g:MQ E):bE N l E=qy (dR Fq (fS l E) (kg (l.map keyOf) E)):=by
 obtain⟨hs,Cw⟩:=gI hk
 have hE:=g.len
 unfold bE bE.b
 rw[vy N (by omega) (by omega),hk,Option.bind_some,Bool.not_true,cond_false,ax (by omega),cond_false]
 refine vw E aL (fun n i=>bE.l4 N n l E E (E.length:Int) i) (fun _=>qy (dR Fq (fS l E) (kg (l.map keyOf) E))) (fun n i hi hr=> ?_) (fun n=> ?_) N (by omega)
 ·unfold bE.l4 bE.cA
  have hm:E.getD i aL∈E:=by
   rw[List.getD_eq_getElem?_getD,List.getElem?_eq_getElem hi];exact List.getElem_mem hi
  rw[aD (by omega),cond_true,aF (by omega) (by omega),cond_true,Int.toNat_natCast,MH,decide_eq_true (g.place _ hm),Option.bind_some,Bool.not_true,cond_false,oV,Option.bind_some,
   decide_eq_true (show xU ((E.getD i aL).2.2.1)from(g.q _ hm).2),Bool.not_true,cond_false,al (x:=(i:Int)+1) (by omega) (by omega),ae i]
  exact hr
 ·unfold bE.l4 bE.cA
  have hf:eo N E=some true:=by
   rw[QX N hN (fun x hx=>(g.q x hx).1) (by omega),decide_eq_true (p:= ∀j,j<ja→Di E j) (fun j _=>g.flat (j:Int))];rfl
  rw[ax (by omega),cond_false,hf,Option.bind_some,Bool.not_true,cond_false,sk N (by omega),Option.bind_some]
  exact Oo N hN (fun x hx=>(g.q x hx).1) hE (fun x hx=>Dj (g.place x hx)) hs hl QY (fun x hx=>Dj (Cw x hx).1)
end VM
end
section
namespace VM
open Go VM.F
def vM(a b:Nat):Nat→List cT
 |0=>[]
 |m+1=>((a:Int),(b:Int))::vM a (b+1) m
def tJ(w a:Nat):Nat→List cT
 |0=>[]
 |m+1=>vM a 0 w++tJ w (a+1) m
theorem vN{k:cT}{a:Nat}: ∀{m b:Nat},k∈vM a b m↔k.1=a∧(b:Int)≤k.2∧k.2<(b+m:Nat)
 |0,b=>⟨fun h=>(nomatch h),fun h=>by omega⟩
 |m+1,b=>by
  show k∈((a:Int),(b:Int))::vM a (b+1) m↔_
  rw[List.mem_cons,vN]
  have:k=((a:Int),(b:Int))↔k.1=a∧k.2=b:=⟨fun h=>h▸⟨rfl,rfl⟩,fun h=>Prod.ext h.1 h.2⟩
  rw[this]
  omega
theorem sX{k:cT}{w:Nat}: ∀{m a:Nat},k∈tJ w a m↔(a:Int)≤k.1∧k.1<(a+m:Nat)∧0≤k.2∧k.2<w
 |0,a=>⟨fun h=>(nomatch h),fun h=>by omega⟩
 |m+1,a=>by
  show k∈vM a 0 w++tJ w (a+1) m↔_
  rw[List.mem_append,vN,sX]
  omega
theorem HA(a:Nat): ∀(m b:Nat),sT (vM a b m)
 |0,b=>List.Pairwise.nil
 |m+1,b=>List.pairwise_cons.2 ⟨fun k hk=>by
  have:=vN.1 hk
  show(a:Int)<k.1∨((a:Int)=k.1∧(b:Int)<k.2)
  omega,HA a m (b+1)⟩
theorem wY(w:Nat): ∀(m a:Nat),sT (tJ w a m)
 |0,a=>List.Pairwise.nil
 |m+1,a=>List.pairwise_append.2 ⟨HA a w 0,wY w m (a+1),fun x hx y hy=>by
  have h1:=vN.1 hx
  have h2:=sX.1 hy
  show x.1<y.1∨(x.1=y.1∧x.2<y.2)
  omega⟩
structure Mark(l:ah)(a b p:Nat):Prop where
 le:p≤l.length
 lo: ∀x∈l.take p,pn (keyOf x) ((a:Int),(b:Int))
 hi: ∀x∈l.drop p,¬pn (keyOf x) ((a:Int),(b:Int))
theorem pQ{k:cT}{a b:Nat}:pn k ((a:Int),((b+1:Nat):Int))↔pn k ((a:Int),(b:Int))∨k=((a:Int),(b:Int)):=by
 have:k=((a:Int),(b:Int))↔k.1=a∧k.2=b:=⟨fun h=>h▸⟨rfl,rfl⟩,fun h=>Prod.ext h.1 h.2⟩
 rw[this]
 show(k.1<(a:Int)∨(k.1=(a:Int)∧k.2<((b+1:Nat):Int)))↔(k.1<(a:Int)∨(k.1=(a:Int)∧k.2<(b:Int)))∨_
 omega
theorem Mark.row{l:ah}{a w p:Nat}(h:Mark l a w p)(hw: ∀x∈l,0≤(keyOf x).2∧(keyOf x).2<w):Mark l (a+1) 0 p:=by
 have key: ∀x∈l,(pn (keyOf x) ((a:Int),(w:Int))↔pn (keyOf x) (((a+1:Nat):Int),((0:Nat):Int))):=fun x hx=>by
  have:=hw x hx
  show((keyOf x).1<(a:Int)∨((keyOf x).1=(a:Int)∧(keyOf x).2<(w:Int)))↔((keyOf x).1<((a+1:Nat):Int)∨((keyOf x).1=((a+1:Nat):Int)∧(keyOf x).2<((0:Nat):Int)))
  omega
 exact⟨h.le,fun x hx=>(key x (List.mem_of_mem_take hx)).1 (h.lo x hx),fun x hx k=>h.hi x hx ((key x (List.mem_of_mem_drop hx)).2 k)⟩
theorem EW(a b:Int)(l m:ah):cf a b (l++m)=cf a b l+cf a b m:=by
 induction l with
 |nil=>rw[List.nil_append,De];omega
 |cons x t ih=>rw[List.cons_append,jc,jc,ih];omega
theorem Mark.step{l:ah}(hs:sT (l.map keyOf)){a b p:Nat}(h:Mark l a b p):
  (p<l.length∧(l.getD p aL).1=(a:Int)∧(l.getD p aL).2.1=(b:Int)∧cf (a:Int) (b:Int) l=et (l.getD p aL)∧Mark l a (b+1) (p+1))∨
  ((p<l.length→(l.getD p aL).1=(a:Int)→(l.getD p aL).2.1=(b:Int)→False)∧cf (a:Int) (b:Int) l=0∧Mark l a (b+1) p):=by
 have no: ∀{x:ca} {k:cT},¬keyOf x=k→ ¬(x.1=k.1∧x.2.1=k.2):=fun h e=>h (Prod.ext e.1 e.2)
 have hz:cf (a:Int) (b:Int) (l.take p)=0:=jd fun x hx e=>by
  have e':keyOf x=((a:Int),(b:Int)):=Prod.ext e.1 e.2
  have:=h.lo x hx
  rw[e']at this
  exact mY this
 have KS:cf (a:Int) (b:Int) l=cf (a:Int) (b:Int) (l.drop p):=by
  conv=>lhs;rw[←List.take_append_drop p l]
  rw[EW,hz];omega
 by_cases hp:p<l.length
 ·have hd:=drop_cons hp aL
  have hsd:sT ((l.drop p).map keyOf):=by
   rw[List.map_drop];exact List.Pairwise.sublist (List.drop_sublist ..) hs
  have FX:=h.hi
  rw[hd]at hsd FX KS
  have hgt:=(List.pairwise_cons.1 hsd).1
  have Qd:=FX _ (List.mem_cons_self ..)
  have ahT:l.take (p+1)=l.take p++[l.getD p aL]:=by
   rw[←List.take_append_getElem hp,List.getD_eq_getElem?_getD,List.getElem?_eq_getElem hp];rfl
  by_cases he:keyOf (l.getD p aL)=((a:Int),(b:Int))
  ·refine Or.inl ⟨hp,congrArg Prod.fst he,congrArg Prod.snd he,?_,by omega,fun x hx=> ?_,fun x hx hk=> ?_⟩
   ·rw[KS,jc,if_pos ⟨congrArg Prod.fst he,congrArg Prod.snd he⟩,jd fun x hx e=> ?_]
    ·omega
    ·have hg:=hgt (keyOf x) (List.mem_map_of_mem hx)
     have e':keyOf x=((a:Int),(b:Int)):=Prod.ext e.1 e.2
     rw[he,e']at hg
     exact mY hg
   ·rw[ahT]at hx
    rcases List.mem_append.1 hx with hx|hx
    ·exact pQ.2 (Or.inl (h.lo x hx))
    ·rw[List.mem_singleton.1 hx];exact pQ.2 (Or.inr he)
   ·have hg:=hgt (keyOf x) (List.mem_map_of_mem hx)
    rw[he]at hg
    rcases pQ.1 hk with hk|hk
    ·exact Df hg hk
    ·rw[hk]at hg;exact mY hg
  ·have gW: ∀x∈l.getD p aL::l.drop (p+1),keyOf x≠((a:Int),(b:Int)):=fun x hx e=>by
    rcases List.mem_cons.1 hx with rfl|hx
    ·exact he e
    ·have hg:=hgt (keyOf x) (List.mem_map_of_mem hx)
     rw[e]at hg
     exact Qd hg
   refine Or.inr ⟨fun _ e1 e2=>he (Prod.ext e1 e2),?_,h.le,fun x hx=>pQ.2 (Or.inl (h.lo x hx)),fun x hx hk=> ?_⟩
   ·rw[KS]
    exact jd fun x hx=>no (gW x hx)
   ·rw[hd]at hx
    rcases pQ.1 hk with hk|hk
    ·exact FX x hx hk
    ·exact gW x hx hk
 ·have hd:l.drop p=[]:=List.drop_eq_nil_of_le (by omega)
  refine Or.inr ⟨fun h=>absurd h hp,by rw[KS,hd];rfl,h.le,fun x hx=>pQ.2 (Or.inl (h.lo x hx)),fun x hx=> ?_⟩
  rw[hd]at hx;nomatch hx
def sl(out:ah)(r:Option ah):Option (ah×Bool):=some (match r with|some o=>(out++o,true)|none=>([],false))
theorem EX(N:Nat)(v:Int):KT N (bn v)=some (if Fq v then(v,true)else(0,false)):=by
 unfold KT
 rw[nM,Option.bind_some]
 by_cases h:aA v
 ·rw[oZ h]
  dsimp only
  rw[Bool.not_true,cond_false,au]
  by_cases h2:xU v
  ·rw[if_neg (show ¬v= -9223372036854775808 from h2),if_pos (show Fq v from⟨h,h2⟩)]
  ·rw[if_pos (show v= -9223372036854775808 by unfold xU at h2;omega),if_neg (fun h=>h2 h.2)]
 ·rw[qz h,if_neg (fun k=>h k.1)]
  rfl
theorem Q0(N:Nat)(hN:4000000≤N)(C4:bJ.aW)(C7:bJ.dj){l E out:ah}(hq:dz E)(hl:E.length≤100000)(ho:out.length≤1000000)(p:Int)(a b:Nat)(hb:b≤1000000)(q:Int)(hF:Fq q):
  bJ.F1 N C4 C7 N l E out p (a:Int) (b:Int) q false (false,(([]:List Int),())) 0=
   if Fq (q+cf (a:Int) (b:Int) E)then C7 l E (if q+cf (a:Int) (b:Int) E=0 then out else out++[((a:Int),((b:Int),(q+cf (a:Int) (b:Int) E,())))]) p (a:Int) ((b+1:Nat):Int)else some ([],false):=by
 have:=kD E aL (fun n j ws=>bJ.F1 N C4 C7 n l E out p (a:Int) (b:Int) q (!ws.isEmpty) (bn ws.sum) j)
  (fun t ws=>if Fq (q+(ws++cm (a:Int) (b:Int) t).sum)then C7 l E (if q+(ws++cm (a:Int) (b:Int) t).sum=0 then out else out++[((a:Int),((b:Int),(q+(ws++cm (a:Int) (b:Int) t).sum,())))]) p (a:Int) ((b+1:Nat):Int)else some ([],false))
  (fun j (ws:List Int)=>ws.length≤j∧ ∀x∈ws,aA x)
  (fun n j ws hj hI dw=> ?_) (fun n ws hI=> ?_) E.length N 0 [] (by omega) (by omega) (by omega) ⟨Nat.le_refl _,fun x hx=>nomatch hx⟩
 ·rw[show((0:Nat):Int)=0 from rfl,List.drop_zero,List.sum_nil,ej]at this
  exact this
 ·unfold bJ.F1 bJ.EY
  have js:=uj hq j
  have fp:=js
  unfold aA et at fp
  have hb:=Hu hI.2
  rw[aD (by omega),cond_true,aF (by omega) (by omega),cond_true,cond_true,cond_true,Int.toNat_natCast,cj N (by omega) fp.1 fp.2,Option.bind_some,eG N (by omega) ((vq (n:=ws.length) (by omega) hb.1 hb.2).mono (by omega)) ((Fit.i64 fp.1 fp.2).mono (by omega)),Option.bind_some,al (x:=(j:Int)+1) (by omega) (by omega),ae j,au,au]
  by_cases h1:(E.getD j aL).1=(a:Int)
  ·by_cases h2:(E.getD j aL).2.1=(b:Int)
   ·have hc:cm (a:Int) (b:Int) (E.getD j aL::E.drop (j+1))=et (E.getD j aL)::cm (a:Int) (b:Int) (E.drop (j+1)):=by rw[df,if_pos ⟨h1,h2⟩]
    rw[if_pos h1,if_pos h2,hc]
    have:=dw (ws++[et (E.getD j aL)]) ⟨by rw[List.length_append,List.length_singleton];omega,wX hI.2 js⟩
    rw[List.sum_append,List.sum_cons,List.sum_nil,Int.add_zero,List.append_assoc]at this
    refine Eq.trans ?_ this
    rw[show(!(ws++[et (E.getD j aL)]).isEmpty)=true by cases ws<;>rfl]
    rfl
   ·have hc:cm (a:Int) (b:Int) (E.getD j aL::E.drop (j+1))=cm (a:Int) (b:Int) (E.drop (j+1)):=by rw[df,if_neg (fun h=>h2 h.2)]
    rw[if_pos h1,if_neg h2,hc]
    exact dw ws ⟨by omega,hI.2⟩
  ·have hc:cm (a:Int) (b:Int) (E.getD j aL::E.drop (j+1))=cm (a:Int) (b:Int) (E.drop (j+1)):=by rw[df,if_neg (fun h=>h1 h.1)]
   rw[if_neg h1,hc]
   exact dw ws ⟨by omega,hI.2⟩
 ·unfold bJ.F1 bJ.EY
  have hs:=Hu hI.2
  have MJ:=hF.1
  unfold aA at MJ
  rw[ax (by omega),cond_false,cj N (by omega) MJ.1 MJ.2,Option.bind_some,eG N (by omega) ((vq (n:=ws.length) (by omega) hs.1 hs.2).mono (by omega)) ((Fit.i64 MJ.1 MJ.2).mono (by omega)),Option.bind_some,EX,Option.bind_some,al (x:=(b:Int)+1) (by omega) (by omega),ae b,aZ (by rw[List.length_singleton];omega),cond_true,aZ (by rw[List.length_singleton];omega),cond_true,cond_not]
  show _=if Fq (q+(ws++[]).sum)then C7 l E (if q+(ws++[]).sum=0 then out else out++[((a:Int),((b:Int),(q+(ws++[]).sum,())))]) p (a:Int) ((b+1:Nat):Int)else some ([],false)
  rw[List.append_nil,Int.add_comm ws.sum q]
  cases ws with
  |nil=>
   show cond (!ay q 0) _ _=_
   rw[cond_not,au,List.sum_nil,Int.add_zero,if_pos hF]
   by_cases h:q=0
   ·rw[if_pos h,if_pos h]
   ·rw[if_neg h,if_neg h]
  |cons w ws=>
   show cond (!(if Fq (q+(w::ws).sum)then(q+(w::ws).sum,true)else(0,false)).2) _ _=_
   by_cases h2:Fq (q+(w::ws).sum)
   ·rw[if_pos h2,if_pos h2]
    dsimp only
    rw[Bool.not_true,cond_false,cond_not,au]
    by_cases h:q+(w::ws).sum=0
    ·rw[if_pos h,if_pos h]
    ·rw[if_neg h,if_neg h]
   ·rw[if_neg h2,if_neg h2];rfl
end VM
end
section
namespace VM
open Go VM.F
theorem Dl{P:Int→Prop} [DecidablePred P]{f:Int→Int→Int}{k:cT}{K:List cT}{out:ah}{v:Int}(hv:f k.1 k.2=v):
  (if P v then sl (if v=0 then out else out++[(k.1,(k.2,(v,())))]) (dR P f K)else some ([],false))=sl out (dR P f (k::K)):=by
 rw[k4,hv]
 by_cases h:P v
 ·rw[if_pos h,if_pos h]
  cases dR P f K with
  |none=>rfl
  |some o=>
   show some ((if v=0 then out else out++[(k.1,(k.2,(v,())))])++o,true)=some (out++(if v=0 then o else(k.1,(k.2,(v,())))::o),true)
   by_cases h0:v=0
   ·rw[if_pos h0,if_pos h0]
   ·rw[if_neg h0,if_neg h0,List.append_assoc];rfl
 ·rw[if_neg h,if_neg h];rfl
theorem ahU{l:ah}(hs:sT (l.map keyOf))(hl: ∀x∈l,Fq (et x))(k:cT):Fq (cf k.1 k.2 l):=by
 by_cases hk:k∈l.map keyOf
 ·have hm:yX l k∈rowsOf l (l.map keyOf):=List.mem_map_of_mem hk
  rw[jt hs]at hm
  exact hl (yX l k) hm
 ·rw[ei hk];exact⟨⟨by decide,by decide⟩,by decide⟩
theorem Dm(N:Nat)(hN:4000000≤N)(C:bJ.aW){l E:ah}(hq:dz E)(hl:E.length≤100000)(hs:sT (l.map keyOf))(Kp:l.length≤100000)(hf: ∀x∈l,Fq (et x))(hw: ∀x∈l,0≤(keyOf x).2∧(keyOf x).2<(6:Nat))(a:Nat)(ha:a≤24)(G:List cT)
  (hc: ∀(p:Nat) (out:ah),Mark l (a+1) 0 p→out.length≤6*(a+1)→C l E out (p:Int) ((a+1:Nat):Int)=sl out (dR Fq (fS l E) G)):
  ∀(m n b p:Nat) (out:ah),b+m=6→m<n→Mark l a b p→out.length≤6*a+b→bJ.l7 N C n l E out (p:Int) (a:Int) (b:Int)=sl out (dR Fq (fS l E) (vM a b m++G))
 |m,0,b,p,out,_,hn,_,_=>by omega
 |0,n+1,b,p,out,hb,_,hM,ho=>by
  have e:b=6:=by omega
  subst e
  unfold bJ.l7 bJ.mq
  rw[ax (by omega),cond_false,al (x:=(a:Int)+1) (by omega) (by omega),ae a]
  exact hc p out (hM.row hw) (by omega)
 |m+1,n+1,b,p,out,hb,hn,hM,ho=>by
  have hp:=hM.le
  have ab8: ∀(p:Nat) (v:Int),Mark l a (b+1) p→bJ.l7 N C n l E (if v=0 then out else out++[((a:Int),((b:Int),(v,())))]) (p:Int) (a:Int) ((b+1:Nat):Int)=sl (if v=0 then out else out++[((a:Int),((b:Int),(v,())))]) (dR Fq (fS l E) (vM a (b+1) m++G)):=fun p v h=>
   Dm N hN C hq hl hs Kp hf hw a ha G hc m n (b+1) p _ (by omega) (by omega) h (by
    split
    ·omega
    ·rw[List.length_append,List.length_singleton];omega)
  have NG:=ahU hs hf ((a:Int),(b:Int))
  unfold bJ.l7 bJ.mq bJ.EN bJ.vv
  show _=sl out (dR Fq (fS l E) (((a:Int),(b:Int))::(vM a (b+1) m++G)))
  rw[aD (x:=(b:Int)) (by omega),cond_true,aJ,au,au,Int.toNat_natCast]
  have fin: ∀(p:Nat) (q:Int),q=cf (a:Int) (b:Int) l→Mark l a (b+1) p→bJ.F1 N C (bJ.l7 N C n) N l E out (p:Int) (a:Int) (b:Int) q false (false,(([]:List Int),())) 0=sl out (dR Fq (fS l E) (((a:Int),(b:Int))::(vM a (b+1) m++G))):=fun p q e h=>by
   subst e
   rw[Q0 N hN C _ hq hl (by omega) (p:Int) a b (by omega) _ NG,ab8 p _ h]
   exact Dl (k:=((a:Int),(b:Int))) rfl
  rcases hM.step hs with⟨h1,h2,h3,h4,h5⟩|⟨h1,h2,h3⟩
  ·rw[if_pos (show(p:Int)<(l.length:Int)by omega),aF (by omega) (by omega),cond_true,cond_true,if_pos h2,if_pos h3,al (x:=(p:Int)+1) (by omega) (by omega),ae p,cond_true]
   exact fin (p+1) _ h4.symm h5
  ·by_cases g1:p<l.length
   ·rw[if_pos (show(p:Int)<(l.length:Int)by omega),aF (by omega) (by omega),cond_true,cond_true]
    by_cases g2:(l.getD p aL).1=(a:Int)
    ·rw[if_pos g2,if_neg (fun g3=>h1 g1 g2 g3)]
     exact fin p _ h2.symm h3
    ·rw[if_neg g2]
     exact fin p _ h2.symm h3
   ·rw[if_neg (show ¬(p:Int)<(l.length:Int)by omega)]
    exact fin p _ h2.symm h3
theorem Dn(N:Nat)(hN:4000000≤N){l E:ah}(hq:dz E)(hl:E.length≤100000)(hs:sT (l.map keyOf))(Kp:l.length≤100000)(hf: ∀x∈l,Fq (et x))(hw: ∀x∈l,0≤(keyOf x).2∧(keyOf x).2<(6:Nat)):
  ∀(m n a p:Nat) (out:ah),a+m=25→m<n→Mark l a 0 p→out.length≤6*a→bJ.l4 N n l E out (p:Int) (a:Int)=sl out (dR Fq (fS l E) (tJ 6 a m))
 |m,0,a,p,out,_,hn,_,_=>by omega
 |0,n+1,a,p,out,ha,_,hM,ho=>by
  unfold bJ.l4 bJ.cA
  rw[cL (by omega),cond_false]
  show some (out,true)=some (out++[],true)
  rw[List.append_nil]
 |m+1,n+1,a,p,out,ha,hn,hM,ho=>by
  unfold bJ.l4 bJ.cA
  rw[cS (by omega),cond_true]
  exact Dm N hN _ hq hl hs Kp hf hw a (by omega) (tJ 6 (a+1) m) (fun p out h ho=>Dn N hN hq hl hs Kp hf hw m n (a+1) p out (by omega) (by omega) h ho) 6 N 0 p out (by omega) (by omega) hM (by omega)
def ur:List cT:=tJ 6 0 25
theorem KU(N:Nat)(hN:4000000≤N){l E:ah}(hk:dh l=true)(hl:l.length≤90000)(QY:dz l)(hq:dz E)(hE:E.length≤100000):bJ N l E=sl [] (dR Fq (fS l E) ur):=by
 obtain⟨hs,Cw⟩:=gI hk
 unfold bJ bJ.b
 refine Dn N hN hq hE hs (by omega) (fun x hx=>⟨QY x hx,(Cw x hx).2⟩) (fun x hx=> ?_) 25 N 0 0 [] (by omega) (by omega) ⟨by omega,fun x hx=>(nomatch hx),fun x hx dD=> ?_⟩ (by simp)
 ·have h:b7 (keyOf x).1 (keyOf x).2:=(Cw x hx).1
  unfold b7 at h;omega
 ·have h:b7 (keyOf x).1 (keyOf x).2:=(Cw x (List.mem_of_mem_drop hx)).1
  unfold b7 at h
  have rO:(keyOf x).1<((0:Nat):Int)∨((keyOf x).1=((0:Nat):Int)∧(keyOf x).2<((0:Nat):Int)):=dD
  omega
theorem Oq{l E:ah}(hk:dh l=true)(hp: ∀x∈E,b7 x.1 x.2.1):dR Fq (fS l E) (kg (l.map keyOf) E)=dR Fq (fS l E) ur:=by
 obtain⟨hs,Cw⟩:=gI hk
 refine Hy ⟨⟨by decide,by decide⟩,by decide⟩ (uq hs) (wY 6 25 0) (fun k hk=> ?_) (fun k hk hn=> ?_)
 ·have:b7 k.1 k.2:=by
   rcases je.1 hk with h|⟨x,hx,rfl⟩
   ·obtain⟨x,hx,rfl⟩:=List.mem_map.1 h
    exact(Cw x hx).1
   ·exact hp x hx
  unfold b7 at this
  exact sX.2 (by omega)
 ·have h1:k∉l.map keyOf:=fun h=>hn (je.2 (Or.inl h))
  have h2:k∉E.map keyOf:=fun h=>by
   obtain⟨x,hx,e⟩:=List.mem_map.1 h
   exact hn (je.2 (Or.inr ⟨x,hx,e⟩))
  unfold fS
  rw[ei h1,ei h2];rfl
end VM
end
