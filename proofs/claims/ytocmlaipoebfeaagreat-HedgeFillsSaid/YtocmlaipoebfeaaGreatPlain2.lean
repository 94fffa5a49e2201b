/- A part of the proof of HedgeFills of layer 22: what the functions compute, in plain words. -/
import Derived.Test.YtocmlaipoebfeaaGreatPlain1
set_option linter.all false
section
namespace VM
open Go VM.F
def eP(r:bW):Int:=r.2.2.1
def aC(x:Int):Prop:= -9223372036854775808≤x∧x<9223372036854775808
def e9(l:aj):Prop:= ∀x∈l,aC (eP x)
theorem wR{l:aj}(h:e9 l)(i:Nat):aC (eP (l.getD i aQ)):=by
 by_cases hi:i<l.length
 ·rw[List.getD_eq_getElem?_getD,List.getElem?_eq_getElem hi];exact h _ (List.getElem_mem hi)
 ·rw[List.getD_eq_getElem?_getD,List.getElem?_eq_none (by omega)];exact⟨by decide,by decide⟩
theorem QS{ws:List Int}(h: ∀x∈ws,aC x): -(9223372036854775808*(ws.length:Int))≤ws.sum∧ws.sum≤9223372036854775808*(ws.length:Int):=Mr ws h
theorem CO{ws:List Int}(h: ∀x∈ws,aC x)(hl:ws.length≤1000000):bL ws.sum:=by
 have:=QS h
 unfold bL;omega
theorem N2{ws:List Int}(h: ∀x∈ws,aC x): ∀x∈ws,bL x:=fun x hx=>by
 have:=h x hx
 unfold aC at this;unfold bL;omega
theorem Eo(N:Nat){ws:List Int}(h: ∀x∈ws,aC x)(hl:ws.length≤1000000)(hN:1000000<N):jA N (ws.map bm)=some (bm ws.sum,true):=by
 rw[y8 N (N2 h) hl hN]
 unfold GP
 rw[if_pos (CO h hl)]
def jU(l:aj):Int:=if fI l then(l.map eP).sum else 0
theorem Kv(N:Nat){l:aj}(hq:e9 l)(hl:l.length≤100000)(hN:2000000≤N):xO.l5 N N bI [] l (l.length:Int) 0=some (bm (l.map eP).sum):=by
 have:=nG l aQ (fun n i ws=>xO.l5 N n bI (ws.map bm) l (l.length:Int) i) (fun t ws=>some (bm (ws++t.map eP).sum)) (fun i (ws:List Int)=>ws.length=i∧ ∀x∈ws,aC x)
  (fun n i ws hi hI hr=> ?_) (fun n ws hI=> ?_) l.length N 0 [] (by omega) (by omega) (by omega) ⟨rfl,fun x hx=>nomatch hx⟩
 ·simpa using this
 ·unfold xO.l5 xO.c0
  have mK:=wR hq i
  have gP:=mK
  unfold aC eP at gP
  rw[aE (by omega),cond_true,aG (by omega) (by omega),cond_true,Int.toNat_natCast,mh N gP.1 gP.2,Option.bind_some,bo (by rw[List.length_map,List.length_singleton];omega),cond_true,al (by omega) (by omega),ae]
  have:=hr (ws++[eP (l.getD i aQ)]) ⟨by rw[List.length_append,hI.1];rfl,fun x hx=>by
   rcases List.mem_append.1 hx with hx|hx
   ·exact hI.2 x hx
   ·rw[List.mem_singleton.1 hx];exact mK⟩
  rw[List.map_append]at this
  refine this.trans ?_
  rw[List.map_cons,List.append_assoc];rfl
 ·unfold xO.l5 xO.c0
  rw[aA (by omega),cond_false,Eo N hI.2 (by omega) (by omega),Option.bind_some,List.map_nil,List.append_nil]
theorem QT(N:Nat){l:aj}(hq:e9 l)(hl:l.length≤100000)(hN:2000000≤N):xO N l=some (bm (jU l)):=by
 unfold xO xO.b jU
 rw[za N hl (by omega),Option.bind_some,cond_not,Kv N hq hl hN]
 cases fI l<;>rfl
theorem GX(N:Nat){l:aj}(hq:e9 l)(hl:l.length≤100000)(hN:4000000≤N):lH.l5 N N l (b9 0) (b9 0) 0=some (b9 (l.map eP).sum):=by
 have:=nG l aQ (fun n i ws=>lH.l5 N n l (b9 0) (b9 ws.sum) i) (fun t ws=>some (b9 (ws++t.map eP).sum)) (fun i (ws:List Int)=>ws.length=i∧ ∀x∈ws,aC x)
  (fun n i ws hi hI hr=> ?_) (fun n ws hI=> ?_) l.length N 0 [] (by omega) (by omega) (by omega) ⟨rfl,fun x hx=>nomatch hx⟩
 ·simpa using this
 ·unfold lH.l5 lH.c0
  have mK:=wR hq i
  have gP:=mK
  unfold aC eP at gP
  have hb:=QS hI.2
  rw[hI.1]at hb
  rw[aE (by omega),cond_true,aG (by omega) (by omega),cond_true,Int.toNat_natCast,fg N (by omega) gP.1 gP.2,Option.bind_some,jR N (by omega) ((Em (n:=i) (by omega) hb.1 hb.2).mono (by omega)) ((Fit.i64 gP.1 gP.2).mono (by omega)),Option.bind_some,al (by omega) (by omega),ae]
  have:=hr (ws++[eP (l.getD i aQ)]) ⟨by rw[List.length_append,hI.1];rfl,fun x hx=>by
   rcases List.mem_append.1 hx with hx|hx
   ·exact hI.2 x hx
   ·rw[List.mem_singleton.1 hx];exact mK⟩
  rw[List.sum_append,List.sum_cons,List.sum_nil,Int.add_zero]at this
  refine this.trans ?_
  rw[List.map_cons,List.append_assoc];rfl
 ·unfold lH.l5 lH.c0
  rw[aA (by omega),cond_false,List.map_nil,List.append_nil]
theorem N3(N:Nat){l:aj}(hq:e9 l)(hl:l.length≤100000)(hN:4000000≤N):lH N l=some (b9 (jU l)):=by
 unfold lH lH.b jU
 rw[Ad N hl (by omega),Option.bind_some,cond_not]
 have:=GX N hq hl hN
 rw[jn]at this
 rw[this]
 cases fI l
 ·rw[cond_false];exact congrArg some jn.symm
 ·rfl
end VM
end
section
namespace VM
open Go VM.F
def dS(inst:Int):aj→List Int
 |[]=>[]
 |x::t=>if x.2.1=inst then eP x::dS inst t else dS inst t
theorem fD(inst:Int)(x:bW)(t:aj):dS inst (x::t)=if x.2.1=inst then eP x::dS inst t else dS inst t:=rfl
theorem N4(N:Nat){l:aj}(hq:e9 l)(hl:l.length≤100000)(hN:2000000≤N)(inst:Int):lI.l5 N N inst bI [] l (l.length:Int) 0=some (bm (dS inst l).sum):=by
 have:=nG l aQ (fun n i ws=>lI.l5 N n inst bI (ws.map bm) l (l.length:Int) i) (fun t ws=>some (bm (ws++dS inst t).sum)) (fun i (ws:List Int)=>ws.length≤i∧ ∀x∈ws,aC x)
  (fun n i ws hi hI hr=> ?_) (fun n ws hI=> ?_) l.length N 0 [] (by omega) (by omega) (by omega) ⟨Nat.le_refl _,fun x hx=>nomatch hx⟩
 ·simpa using this
 ·unfold lI.l5 lI.c0
  have mK:=wR hq i
  have gP:=mK
  unfold aC eP at gP
  rw[aE (by omega),cond_true,aG (by omega) (by omega),cond_true,Int.toNat_natCast,mh N gP.1 gP.2,Option.bind_some,bo (by rw[List.length_map,List.length_singleton];omega),cond_true,al (by omega) (by omega),ae,aB,fD]
  split
  ·have:=hr (ws++[eP (l.getD i aQ)]) ⟨by rw[List.length_append,List.length_singleton];omega,fun x hx=>by
    rcases List.mem_append.1 hx with hx|hx
    ·exact hI.2 x hx
    ·rw[List.mem_singleton.1 hx];exact mK⟩
   rw[List.map_append]at this
   refine this.trans ?_
   rw[List.append_assoc];rfl
  ·exact hr ws ⟨by omega,hI.2⟩
 ·unfold lI.l5 lI.c0
  rw[aA (by omega),cond_false,Eo N hI.2 (by omega) (by omega),Option.bind_some]
  show _=some (bm (ws++[]).sum)
  rw[List.append_nil]
def vy(l:aj)(inst:Int):Int:=if cR l then(dS inst l).sum else 0
theorem Uz(N:Nat){l:aj}(hq:e9 l)(hl:l.length≤100000)(hN:2000000≤N)(inst:Int):lI N l inst=some (bm (vy l inst)):=by
 unfold lI lI.b vy
 rw[vp N hl (by omega),Option.bind_some,cond_not,N4 N hq hl hN]
 cases cR l<;>rfl
theorem Kw(N:Nat){l:aj}(hq:e9 l)(hl:l.length≤100000)(hN:4000000≤N)(inst:Int):lJ.l5 N N l inst (b9 0) (b9 0) 0=some (b9 (dS inst l).sum):=by
 have:=nG l aQ (fun n i ws=>lJ.l5 N n l inst (b9 0) (b9 ws.sum) i) (fun t ws=>some (b9 (ws++dS inst t).sum)) (fun i (ws:List Int)=>ws.length≤i∧ ∀x∈ws,aC x)
  (fun n i ws hi hI hr=> ?_) (fun n ws hI=> ?_) l.length N 0 [] (by omega) (by omega) (by omega) ⟨Nat.le_refl _,fun x hx=>nomatch hx⟩
 ·simpa using this
 ·unfold lJ.l5 lJ.c0
  have mK:=wR hq i
  have gP:=mK
  unfold aC eP at gP
  have hb:=QS hI.2
  rw[aE (by omega),cond_true,aG (by omega) (by omega),cond_true,cond_true,Int.toNat_natCast,fg N (by omega) gP.1 gP.2,Option.bind_some,jR N (by omega) ((Em (n:=ws.length) (by omega) hb.1 hb.2).mono (by omega)) ((Fit.i64 gP.1 gP.2).mono (by omega)),Option.bind_some,al (by omega) (by omega),ae,aB,fD]
  split
  ·have:=hr (ws++[eP (l.getD i aQ)]) ⟨by rw[List.length_append,List.length_singleton];omega,fun x hx=>by
    rcases List.mem_append.1 hx with hx|hx
    ·exact hI.2 x hx
    ·rw[List.mem_singleton.1 hx];exact mK⟩
   rw[List.sum_append,List.sum_cons,List.sum_nil,Int.add_zero]at this
   refine this.trans ?_
   rw[List.append_assoc];rfl
  ·exact hr ws ⟨by omega,hI.2⟩
 ·unfold lJ.l5 lJ.c0
  rw[aA (by omega),cond_false]
  show _=some (b9 (ws++[]).sum)
  rw[List.append_nil]
theorem GY(N:Nat){l:aj}(hq:e9 l)(hl:l.length≤100000)(hN:4000000≤N)(inst:Int):lJ N l inst=some (b9 (vy l inst)):=by
 unfold lJ lJ.b vy
 rw[ng N hl (by omega),Option.bind_some,cond_not]
 have:=Kw N hq hl hN inst
 rw[jn]at this
 rw[this]
 cases cR l
 ·rw[cond_false];exact congrArg some jn.symm
 ·rfl
def ug(l:aj)(i:Nat):Prop:=gl (vy l (i:Int)) 0
instance(l:aj):DecidablePred (ug l):=fun i=>by unfold ug;infer_instance
def jd:Nat:=6
def wS(l:aj):Bool:=decide (∀j,j<jd→ug l j)&&cR l
theorem lK{x:Int}:mC x=0↔x=0:=by unfold mC;split<;>(try split)<;>omega
theorem UA(N:Nat){l:aj}(hq:e9 l)(hl:l.length≤100000)(hN:2000000≤N):yJ N l=some (wS l):=by
 unfold yJ yJ.b
 refine eN (len:=jd) (F:=fun n i=>yJ.l2 N n l i) (ug l) (fun n i r hi hp hr=> ?_) (fun n=> ?_) N (by unfold jd;omega)
 ·unfold yJ.l2 yJ.dr
  unfold jd at hi
  rw[aE (by omega),cond_true,Uz N hq hl hN,Option.bind_some,nI,Option.bind_some,cond_not,aB,al (by omega) (by omega),ae,hr]
  by_cases hP:ug l i
  ·rw[if_pos hP,if_pos (lK.2 hP)]
  ·rw[if_neg hP,if_neg (fun h=>hP (lK.1 h))]
 ·unfold yJ.l2 yJ.dr
  rw[aA (by unfold jd;omega),cond_false,vp N hl (by omega),Option.bind_some]
theorem QU(N:Nat){l:aj}(hq:e9 l)(hl:l.length≤100000)(hN:4000000≤N):mj N l=some (wS l):=by
 unfold mj mj.b
 refine eN (len:=jd) (F:=fun n i=>mj.l2 N n l i) (ug l) (fun n i r hi hp hr=> ?_) (fun n=> ?_) N (by unfold jd;omega)
 ·unfold mj.l2 mj.dr
  unfold jd at hi
  rw[aE (by omega),cond_true,GY N hq hl hN,Option.bind_some,oS,Option.bind_some,cond_not,aB,al (by omega) (by omega),ae,hr]
  by_cases hP:ug l i
  ·rw[if_pos hP,if_pos (lK.2 hP)]
  ·rw[if_neg hP,if_neg (fun h=>hP (lK.1 h))]
 ·unfold mj.l2 mj.dr
  rw[aA (by unfold jd;omega),cond_false,ng N hl (by omega),Option.bind_some]
end VM
end
section
namespace VM
open Go VM.F
def iR(m:au)(a:aD)(l:aj)(i:Nat):Prop:=
 (gl (l.getD i aQ).1 5→(dx a (l.getD i aQ).2.1).2=true)∧(gl (l.getD i aQ).1 6∨gl (l.getD i aQ).1 7→ ¬gl (lG m (l.getD i aQ).2.1) 0)
instance(m:au)(a:aD)(l:aj):DecidablePred (iR m a l):=fun i=>by unfold iR;infer_instance
theorem Ak(N:Nat)(b:ag)(hl:b.2.1.length≤100000)(hN:200000≤N)(id:Int):UB N b id=some (dx b.2.1 id).2:=by
 unfold UB
 rw[Mu N hl hN,Option.bind_some]
theorem N5{k:Int}{f:Bool}{z:Int}{r:Option Bool}:cond (ay k 5) (cond (!f) (some false) r) (cond (ay k 6) (cond (ay z 0) (some false) r) (cond (ay k 7) (cond (ay z 0) (some false) r) r))=
  if(gl k 5→f=true)∧(gl k 6∨gl k 7→ ¬gl z 0)then r else some false:=by
 unfold gl
 rw[aB,aB,aB,aB,cond_not]
 by_cases h5:k=5
 ·have h6: ¬(k=6):=by omega
  have h7: ¬(k=7):=by omega
  cases f<;>simp[h5,h6,h7]
 ·by_cases h6:k=6
  ·by_cases hz:z=0<;>simp[h5,h6,hz]
  ·by_cases h7:k=7
   ·by_cases hz:z=0<;>simp[h5,h6,h7,hz]
   ·simp[h5,h6,h7]
theorem Cc(N:Nat)(hN:200000≤N)(c:aa)(b:ag)(hm:b.1.length≤100000)(ha:b.2.1.length≤100000)(hl:b.2.2.1.length≤100000){e:Bool}
  (he:ix.tp N N c b b.2.2.2.1 (b.2.2.2.1.length:Int) 0=some e):ix.l4 N N c b b.2.2.1 (b.2.2.1.length:Int) 0=some (decide (∀j,j<b.2.2.1.length→iR b.1 b.2.1 b.2.2.1 j)&&e):=by
 refine eN (F:=fun n i=>ix.l4 N n c b b.2.2.1 (b.2.2.1.length:Int) i) (iR b.1 b.2.1 b.2.2.1) (fun n i r hi hp hr=> ?_) (fun n=> ?_) N (by omega)
 ·unfold ix.l4 ix.c5
  rw[aE (by omega),cond_true,aG (by omega) (by omega),cond_true,Int.toNat_natCast,al (x:=(i:Int)+1) (by omega) (by omega),ae,hr]
  simp only[Ak N b ha hN,wO N hm hN,Option.bind_some]
  rw[N5]
  rfl
 ·unfold ix.l4 ix.c5
  rw[aA (by omega),cond_false];exact he
def Fw(a b:Int):Prop:=a<b
instance(a b:Int):Decidable (Fw a b):=by unfold Fw;infer_instance
def ia(c:aa)(a:aD)(l:aj)(i:Nat):Prop:=
 (gl (l.getD i aQ).1 0∨(dx a (l.getD i aQ).1).2=true)∧Fw (l.getD i aQ).2.1 c.1.length
instance(c:aa)(a:aD)(l:aj):DecidablePred (ia c a l):=fun i=>by unfold ia;infer_instance
theorem QV{k x n:Int}{f:Bool}{r:Option Bool}:cond (!ay k 0) (cond (!f) (some false) (cond (bU n x) (some false) r)) (cond (bU n x) (some false) r)=if(gl k 0∨f=true)∧Fw x n then r else some false:=by
 unfold gl Fw
 rw[cond_not,aB,bt,cond_not]
 by_cases h0:k=0
 ·by_cases hx:n≤x
  ·have: ¬x<n:=by omega
   simp[h0,hx,this]
  ·have:x<n:=by omega
   simp[h0,hx,this]
 ·by_cases hx:n≤x
  ·have: ¬x<n:=by omega
   cases f<;>simp[h0,hx,this]
  ·have:x<n:=by omega
   cases f<;>simp[h0,hx,this]
theorem Ep(N:Nat)(hN:200000≤N)(c:aa)(b:ag)(ha:b.2.1.length≤100000)(hl:b.2.2.2.1.length≤100000){e:Bool}
  (he:ix.tq N N c b b.2.2.2.2.2.1 (b.2.2.2.2.2.1.length:Int) 0=some e):ix.tp N N c b b.2.2.2.1 (b.2.2.2.1.length:Int) 0=some (decide (∀j,j<b.2.2.2.1.length→ia c b.2.1 b.2.2.2.1 j)&&e):=by
 refine eN (F:=fun n i=>ix.tp N n c b b.2.2.2.1 (b.2.2.2.1.length:Int) i) (ia c b.2.1 b.2.2.2.1) (fun n i r hi hp hr=> ?_) (fun n=> ?_) N (by omega)
 ·unfold ix.tp ix.se
  rw[aE (by omega),cond_true,aG (by omega) (by omega),cond_true,Int.toNat_natCast,al (x:=(i:Int)+1) (by omega) (by omega),ae,hr]
  simp only[Ak N b ha hN,Option.bind_some]
  rw[QV]
  rfl
 ·unfold ix.tp ix.se
  rw[aA (by omega),cond_false];exact he
end VM
end
section
namespace VM
open Go VM.F
def oY(l:List Int)(i:Nat):Prop:=1≤l.getD i 0∧l.getD i 0≤1000000000000
instance(l:List Int):DecidablePred (oY l):=fun i=>by unfold oY;infer_instance
def fT(l:List Int):Bool:=decide (∀j,j<l.length→oY l j)
theorem ace(N:Nat)(p:Int):F84 N p=some (!decide (1≤p∧p≤1000000000000)):=by
 unfold F84
 rw[wN,Option.bind_some]
theorem Al(N:Nat){l:List Int}(hl:l.length≤100000): ∀(m n i:Nat),l.length-i≤m→m<n→i≤l.length→(∀j,j<i→oY l j)→
  ∃r,ot.l2 N n l () (l.length:Int) (i:Int)=some r∧(bU 0 r= !fT l)
 |m,0,i,_,hn,_,_=>by omega
 |m,n+1,i,hm,hn,hi,hp=>by
  unfold ot.l2 ot.dr
  by_cases h:i<l.length
  ·rw[aE (by omega),cond_true,aG (by omega) (by omega),cond_true,Int.toNat_natCast,ace,Option.bind_some,cond_not,cN]
   by_cases hP:oY l i
   ·have hP':=hP
    unfold oY at hP'
    rw[if_pos hP',al (by omega) (by omega)]
    exact Al N hl (m-1) n (i+1) (by omega) (by omega) (by omega) (fun j hj=>by
     by_cases tX:j=i
     ·subst tX;exact hP
     ·exact hp j (by omega))
   ·have hP':=hP
    unfold oY at hP'
    rw[if_neg hP']
    refine⟨_,rfl,?_⟩
    rw[cS (by omega)]
    unfold fT
    rw[decide_eq_false (fun h'=>hP (h' i h))];rfl
  ·rw[aA (by omega),cond_false]
   refine⟨_,rfl,?_⟩
   rw[cM (by omega)]
   unfold fT
   rw[decide_eq_true (fun j hj=>hp j (by omega))];rfl
theorem N6(N:Nat){l:List Int}(hl:l.length≤100000)(hN:200000≤N):F83 N l ()=some (!fT l):=by
 unfold F83 ot ot.b
 obtain⟨r,e,h⟩:=Al N hl l.length N 0 (by omega) (by omega) (by omega) (fun j hj=>absurd hj (by omega))
 rw[show((0:Nat):Int)=0 from rfl]at e
 rw[e,Option.bind_some,h]
def mL(c:aa)(a:aD)(l:aT)(i:Nat):Prop:=
 (dx a (l.getD i dQ).2.1).2=true∧Fw (l.getD i dQ).2.2.1 c.1.length
instance(c:aa)(a:aD)(l:aT):DecidablePred (mL c a l):=fun i=>by unfold mL;infer_instance
theorem Am{x n:Int}{f:Bool}{r:Option Bool}:cond (!f) (some false) (cond (bU n x) (some false) r)=if f=true∧Fw x n then r else some false:=by
 unfold Fw
 rw[bt,cond_not]
 by_cases hx:n≤x
 ·have: ¬x<n:=by omega
  cases f<;>simp[hx,this]
 ·have:x<n:=by omega
  cases f<;>simp[hx,this]
theorem Er(N:Nat)(hN:200000≤N)(c:aa)(b:ag)(ha:b.2.1.length≤100000)(hl:b.2.2.2.2.2.1.length≤100000)(hp:b.2.2.2.2.1.length≤100000):
  ix.tq N N c b b.2.2.2.2.2.1 (b.2.2.2.2.2.1.length:Int) 0=some (decide (∀j,j<b.2.2.2.2.2.1.length→mL c b.2.1 b.2.2.2.2.2.1 j)&&fT b.2.2.2.2.1):=by
 refine eN (F:=fun n i=>ix.tq N n c b b.2.2.2.2.2.1 (b.2.2.2.2.2.1.length:Int) i) (mL c b.2.1 b.2.2.2.2.2.1) (fun n i r hi xl hr=> ?_) (fun n=> ?_) N (by omega)
 ·unfold ix.tq ix.sf
  rw[aE (by omega),cond_true,aG (by omega) (by omega),cond_true,Int.toNat_natCast,al (x:=(i:Int)+1) (by omega) (by omega),ae,hr]
  simp only[Ak N b ha hN,Option.bind_some]
  rw[Am]
  rfl
 ·unfold ix.tq ix.sf
  rw[aA (by omega),cond_false,N6 N hp hN,Option.bind_some,Bool.not_not]
def bV(c:aa)(b:ag):Bool:=
 dR c&&(sd b.1 b.2.1&&(fI b.2.2.1&&(decide (gl (jU b.2.2.1) 0)&&(wS b.2.2.2.1&&(eO b.2.2.2.2.2.1&&(decide (gl b.2.2.2.2.1.length c.1.length)&&
  (decide (∀j,j<b.2.2.1.length→iR b.1 b.2.1 b.2.2.1 j)&&(decide (∀j,j<b.2.2.2.1.length→ia c b.2.1 b.2.2.2.1 j)&&(decide (∀j,j<b.2.2.2.2.2.1.length→mL c b.2.1 b.2.2.2.2.2.1 j)&&fT b.2.2.2.2.1)))))))))
structure fi(b:ag):Prop where
 m:b.1.length≤100000
 a:b.2.1.length≤100000
 r:b.2.2.1.length≤100000
 s:b.2.2.2.1.length≤100000
 p:b.2.2.2.2.1.length≤100000
 o:b.2.2.2.2.2.1.length≤100000
 qr:e9 b.2.2.1
 qs:e9 b.2.2.2.1
theorem lL{x:Bool}{r:Option Bool}{y:Bool}(h:r=some y):cond (!x) (some false) r=some (x&&y):=by subst h;cases x<;>rfl
theorem zd(N:Nat)(hN:4000000≤N){c:aa}{b:ag}(w:fi b):ix N c b=some (bV c b):=by
 unfold ix ix.b bV
 rw[y9 N (by omega),Option.bind_some]
 refine lL ?_
 rw[Uy N w.m w.a (by omega),Option.bind_some]
 refine lL ?_
 rw[za N w.r (by omega),Option.bind_some]
 refine lL ?_
 rw[QT N w.qr w.r (by omega),Option.bind_some,nI,Option.bind_some]
 have e0:ay (mC (jU b.2.2.1)) 0=decide (gl (jU b.2.2.1) 0):=by rw[fY,decide_eq_decide];exact lK
 rw[e0]
 refine lL ?_
 rw[UA N w.qs w.s (by omega),Option.bind_some]
 refine lL ?_
 rw[CN N w.o (by omega),Option.bind_some]
 refine lL ?_
 rw[fY]
 refine lL ?_
 exact Cc N (by omega) c b w.m w.a w.r (Ep N (by omega) c b w.a w.s (Er N (by omega) c b w.a w.o w.p))
end VM
end
section
namespace VM
open Go VM.F
theorem vz(N:Nat)(b:ag)(hl:b.2.1.length≤100000)(hN:200000≤N)(id:Int):Es N b id=some ((dx b.2.1 id).2||decide (gl id 0)):=by
 unfold Es
 rw[GW N hl hN,Option.bind_some,fY]
 cases(dx b.2.1 id).2<;>rfl
theorem Kx{k:Int}{f:Bool}{z:Int}{r:Option Bool}:cond (ay k 5) (cond (!f) (some false) (cond (ay k 6) (cond (ay z 0) (some false) r) (cond (ay k 7) (cond (ay z 0) (some false) r) r))) (cond (ay k 6) (cond (ay z 0) (some false) r) (cond (ay k 7) (cond (ay z 0) (some false) r) r))=
  if(gl k 5→f=true)∧(gl k 6∨gl k 7→ ¬gl z 0)then r else some false:=by
 unfold gl
 rw[aB,aB,aB,aB,cond_not]
 by_cases h5:k=5
 ·have h6: ¬(k=6):=by omega
  have h7: ¬(k=7):=by omega
  cases f<;>simp[h5,h6,h7]
 ·by_cases h6:k=6
  ·by_cases hz:z=0<;>simp[h5,h6,hz]
  ·by_cases h7:k=7
   ·by_cases hz:z=0<;>simp[h5,h6,h7,hz]
   ·simp[h5,h6,h7]
theorem Cd(N:Nat)(hN:200000≤N)(c:aa)(b:ag)(ha:b.2.1.length≤100000)(hl:b.2.2.2.2.2.1.length≤100000)(ho:eO b.2.2.2.2.2.1=true):
  bO.tq N N c b 0=some (decide (∀j,j<b.2.2.2.2.2.1.length→mL c b.2.1 b.2.2.2.2.2.1 j)&&true):=by
 refine eN (F:=fun n i=>bO.tq N n c b i) (mL c b.2.1 b.2.2.2.2.2.1) (fun n i r hi xl hr=> ?_) (fun n=> ?_) N (by omega)
 ·unfold bO.tq bO.sf
  unfold eO at ho
  rw[Bool.and_eq_true,decide_eq_true_iff]at ho
  have h1:=(ho.1 i hi).1
  unfold gk jb at h1
  have h2:decide (gl (b.2.2.2.2.2.1.getD i dQ).2.1 0)=false:=decide_eq_false (by unfold gl;omega)
  rw[aE (by omega),cond_true,aG (by omega) (by omega),cond_true,Int.toNat_natCast,al (x:=(i:Int)+1) (by omega) (by omega),ae,hr]
  simp only[vz N b ha hN,Option.bind_some,cond_true]
  rw[h2,Bool.or_false,Am]
  rfl
 ·unfold bO.tq bO.sf
  rw[aA (by omega),cond_false]
theorem yK(N:Nat)(hN:200000≤N)(c:aa)(b:ag)(hl:b.2.2.2.2.1.length≤100000){e:Bool}(he:bO.tq N N c b 0=some e):
  bO.Gx N N c b 0=some (fT b.2.2.2.2.1&&e):=by
 refine eN (F:=fun n i=>bO.Gx N n c b i) (oY b.2.2.2.2.1) (fun n i r hi xl hr=> ?_) (fun n=> ?_) N (by omega)
 ·unfold bO.Gx bO.Gz
  rw[aE (by omega),cond_true,aG (by omega) (by omega),cond_true,Int.toNat_natCast,al (x:=(i:Int)+1) (by omega) (by omega),ae,hr,js,Option.bind_some,cond_not,cN]
  rfl
 ·unfold bO.Gx bO.Gz
  rw[aA (by omega),cond_false];exact he
theorem Ce(N:Nat)(hN:200000≤N)(c:aa)(b:ag)(ha:b.2.1.length≤100000)(hl:b.2.2.2.1.length≤100000){e:Bool}(he:bO.Gx N N c b 0=some e):
  bO.kL N N c b 0=some (decide (∀j,j<b.2.2.2.1.length→ia c b.2.1 b.2.2.2.1 j)&&e):=by
 refine eN (F:=fun n i=>bO.kL N n c b i) (ia c b.2.1 b.2.2.2.1) (fun n i r hi xl hr=> ?_) (fun n=> ?_) N (by omega)
 ·unfold bO.kL bO.jV
  rw[aE (by omega),cond_true,aG (by omega) (by omega),cond_true,Int.toNat_natCast,al (x:=(i:Int)+1) (by omega) (by omega),ae,hr]
  simp only[vz N b ha hN,Option.bind_some,cond_true]
  rw[Am]
  have QW:((((dx b.2.1 (b.2.2.2.1.getD i aQ).1).2||decide (gl (b.2.2.2.1.getD i aQ).1 0))=true)∧Fw (b.2.2.2.1.getD i aQ).2.1 c.1.length)↔ia c b.2.1 b.2.2.2.1 i:=by
   unfold ia
   rw[Bool.or_eq_true,decide_eq_true_iff]
   exact⟨fun h=>⟨h.1.symm,h.2⟩,fun h=>⟨h.1.symm,h.2⟩⟩
  by_cases hP:ia c b.2.1 b.2.2.2.1 i
  ·rw[if_pos hP,if_pos (QW.2 hP)]
  ·rw[if_neg hP,if_neg (fun h=>hP (QW.1 h))]
 ·unfold bO.kL bO.jV
  rw[aA (by omega),cond_false];exact he
theorem An(N:Nat)(hN:200000≤N)(c:aa)(b:ag)(hm:b.1.length≤100000)(ha:b.2.1.length≤100000)(hl:b.2.2.1.length≤100000)(hk:fI b.2.2.1=true){e:Bool}
  (he:bO.kL N N c b 0=some e):bO.l6 N N c b 0=some (decide (∀j,j<b.2.2.1.length→iR b.1 b.2.1 b.2.2.1 j)&&e):=by
 refine eN (F:=fun n i=>bO.l6 N n c b i) (iR b.1 b.2.1 b.2.2.1) (fun n i r hi xl hr=> ?_) (fun n=> ?_) N (by omega)
 ·unfold bO.l6 bO.pn
  unfold fI at hk
  rw[Bool.and_true,decide_eq_true_iff]at hk
  have h1:=(hk i hi).1
  rw[aE (by omega),cond_true,aG (by omega) (by omega),cond_true,Int.toNat_natCast,al (x:=(i:Int)+1) (by omega) (by omega),ae,hr]
  simp only[vz N b ha hN,Ah N hm hN,Option.bind_some]
  rw[Kx]
  have QW:((gl (b.2.2.1.getD i aQ).1 5→((dx b.2.1 (b.2.2.1.getD i aQ).2.1).2||decide (gl (b.2.2.1.getD i aQ).2.1 0))=true)∧(gl (b.2.2.1.getD i aQ).1 6∨gl (b.2.2.1.getD i aQ).1 7→ ¬gl (lG b.1 (b.2.2.1.getD i aQ).2.1) 0))↔iR b.1 b.2.1 b.2.2.1 i:=by
   unfold iR
   refine and_congr_left fun _=>imp_congr_right fun h5=> ?_
   rw[Bool.or_eq_true,decide_eq_true_iff]
   refine⟨fun h=>h.elim id fun h0=> ?_,.inl⟩
   unfold eF at h1;unfold gl at h5 h0;omega
  by_cases hP:iR b.1 b.2.1 b.2.2.1 i
  ·rw[if_pos hP,if_pos (QW.2 hP)]
  ·rw[if_neg hP,if_neg (fun h=>hP (QW.1 h))]
 ·unfold bO.l6 bO.pn
  rw[aA (by omega),cond_false];exact he
end VM
end
section
namespace VM
open Go VM.F
theorem kM{x:Bool}{r:Option Bool}{y:Bool}(h:x=true→r=some y):cond (!x) (some false) r=some (x&&y):=by
 cases x
 ·rfl
 ·exact h rfl
theorem GZ(N:Nat)(hN:5000000≤N){c:aa}{b:ag}(w:fi b):bO N c b=some (bV c b):=by
 unfold bO bO.b
 rw[nH N (by omega),Option.bind_some]
 have e0:ay (mC (jU b.2.2.1)) 0=decide (gl (jU b.2.2.1) 0):=by rw[fY,decide_eq_decide];exact lK
 refine(kM fun _=> ?_).trans (congrArg some (?_:(dR c&&(sd b.1 b.2.1&&(fI b.2.2.1&&(wS b.2.2.2.1&&(eO b.2.2.2.2.2.1&&(decide (gl b.2.2.2.2.1.length c.1.length)&&(decide (gl (jU b.2.2.1) 0)&&
  (decide (∀j,j<b.2.2.1.length→iR b.1 b.2.1 b.2.2.1 j)&&(decide (∀j,j<b.2.2.2.1.length→ia c b.2.1 b.2.2.2.1 j)&&(fT b.2.2.2.2.1&&(decide (∀j,j<b.2.2.2.2.2.1.length→mL c b.2.1 b.2.2.2.2.2.1 j)&&true)))))))))))=bV c b))
 ·rw[Aj N w.m w.a (by omega),Option.bind_some]
  refine kM fun _=> ?_
  rw[Ad N w.r (by omega),Option.bind_some]
  refine kM fun hk=> ?_
  rw[QU N w.qs w.s (by omega),Option.bind_some]
  refine kM fun _=> ?_
  rw[kH N w.o (by omega),Option.bind_some]
  refine kM fun ho=> ?_
  rw[fY]
  refine kM fun _=> ?_
  rw[N3 N w.qr w.r (by omega),Option.bind_some,oS,Option.bind_some,e0]
  refine kM fun _=> ?_
  exact An N (by omega) c b w.m w.a w.r hk (Ce N (by omega) c b w.a w.s (yK N (by omega) c b w.p (Cd N (by omega) c b w.a w.o ho)))
 ·unfold bV
  generalize dR c=x1,sd b.1 b.2.1=x2,fI b.2.2.1=x3,wS b.2.2.2.1=x4,eO b.2.2.2.2.2.1=x5,decide (gl b.2.2.2.2.1.length c.1.length)=x6,decide (gl (jU b.2.2.1) 0)=x7,decide (∀j,j<b.2.2.1.length→iR b.1 b.2.1 b.2.2.1 j)=x8,decide (∀j,j<b.2.2.2.1.length→ia c b.2.1 b.2.2.2.1 j)=x9,fT b.2.2.2.2.1=aP,decide (∀j,j<b.2.2.2.2.2.1.length→mL c b.2.1 b.2.2.2.2.2.1 j)=aI
  rw[Bool.and_true]
  cases x1<;>cases x2<;>cases x3<;>cases x4<;>cases x5<;>cases x6<;>cases x7<;>try rfl
  cases x8<;>cases x9<;>cases aP<;>cases aI<;>rfl
end VM
end
section
namespace VM
open Go VM.F
def mm(a q n:Int)(i:Nat)(p:Int):Prop:=0≤a∧a<n∧q≠0∧yG q∧(0<i→p<a)
instance(a q n:Int)(i:Nat)(p:Int):Decidable (mm a q n i p):=by unfold mm;infer_instance
def kt(c:aa)(l:au)(i:Nat):Prop:=mm (l.getD i bI).1 (l.getD i bI).2.1 c.1.length i (l.getD (i-1) bI).1
instance(c:aa)(l:au):DecidablePred (kt c l):=fun i=>by unfold kt;infer_instance
def mo(c:aa)(l:au):Bool:=decide (∀j,j<l.length→kt c l j)&&dR c
theorem Mv(N:Nat)(hN:200000≤N)(c:aa){l:au}(hl:l.length≤100000):lM N c l=some (mo c l):=by
 unfold lM lM.b
 refine eN (F:=fun n i=>lM.l2 N n l c l (l.length:Int) i) (kt c l) (fun n i r hi hp hr=> ?_) (fun n=> ?_) N (by omega)
 ·unfold lM.l2 lM.dr
  rw[aE (by omega),cond_true,aG (by omega) (by omega),cond_true,Int.toNat_natCast,al (x:=(i:Int)+1) (by omega) (by omega),ae,hr,oW,Option.bind_some,cond_not,cN]
  by_cases h0:0<i
  ·have e:W .i64 ((i:Int)-1)=((i-1:Nat):Int):=by rw[al (by omega) (by omega)];omega
   dsimp only
   rw[aE (x:=0) (y:=(i:Int)) (by omega),cond_true,e,Int.toNat_natCast,aG (by omega) (by omega),cond_true]
   simp only[a8,bt,aB]
   by_cases hP:kt c l i
   ·rw[if_pos hP];unfold kt mm at hP
    rw[if_neg (by omega),if_neg (by omega),if_neg hP.2.2.1,if_pos hP.2.2.2.1,if_neg (by omega)]
   ·rw[if_neg hP];unfold kt mm at hP
    have h2:=fun h1 h2 h3 h4 h5=>hP ⟨h1,h2,h3,h4,h5⟩
    repeat' split
    all_goals first|rfl|(exfalso;exact h2 (by omega) (by omega) (by assumption) (by assumption) (by omega))
  ·rw[aA (x:=0) (y:=(i:Int)) (by omega),cond_false]
   simp only[a8,bt,aB]
   by_cases hP:kt c l i
   ·rw[if_pos hP];unfold kt mm at hP
    rw[if_neg (by omega),if_neg (by omega),if_neg hP.2.2.1,if_pos hP.2.2.2.1]
   ·rw[if_neg hP];unfold kt mm at hP
    have h2:=fun h1 h2 h3 h4 h5=>hP ⟨h1,h2,h3,h4,h5⟩
    repeat' split
    all_goals first|rfl|(exfalso;exact h2 (by omega) (by omega) (by assumption) (by assumption) (by omega))
 ·unfold lM.l2 lM.dr
  rw[aA (by omega),cond_false,y9 N (by omega),Option.bind_some]
end VM
end
section
namespace VM
open Go VM.F
theorem vA(N:Nat)(hN:200000≤N)(c:aa){l:au}(hl:l.length≤100000):jW N c l=some (mo c l):=by
 unfold jW jW.b
 rw[nH N (by omega),Option.bind_some]
 have hsc:=eN (F:=fun n i=>jW.l4 N n l c i) (e:=true) (kt c l) (fun n i r hi hp hr=> ?_) (fun n=> ?_) N (show l.length<N by omega)
 ·rw[lL hsc];unfold mo
  rw[Bool.and_true,Bool.and_comm]
 ·unfold jW.l4 jW.c5
  rw[aE (by omega),cond_true,aG (by omega) (by omega),cond_true,Int.toNat_natCast,al (x:=(i:Int)+1) (by omega) (by omega),ae,hr]
  by_cases h0:0<i
  ·have e:W .i64 ((i:Int)-1)=((i-1:Nat):Int):=by rw[al (by omega) (by omega)];omega
   dsimp only
   rw[aE (x:=0) (y:=(i:Int)) (by omega),e,Int.toNat_natCast,aG (i:=((i-1:Nat):Int)) (by omega) (by omega)]
   simp only[a8,bt,aB,cond_true]
   by_cases hP:kt c l i
   ·rw[if_pos hP];unfold kt mm at hP
    rw[if_neg (by omega),if_neg (by omega),if_neg hP.2.2.1,if_neg (show ¬((l.getD i bI).2.1:Int)= -9223372036854775808 from hP.2.2.2.1),if_neg (by omega)]
   ·rw[if_neg hP];unfold kt mm at hP
    have h2:=fun h1 h2 h3 h4 h5=>hP ⟨h1,h2,h3,h4,h5⟩
    repeat' split
    all_goals first|rfl|(exfalso;exact h2 (by omega) (by omega) (by assumption) (by assumption) (by omega))
  ·rw[aA (x:=0) (y:=(i:Int)) (by omega)]
   simp only[a8,bt,aB,cond_true,cond_false]
   by_cases hP:kt c l i
   ·rw[if_pos hP];unfold kt mm at hP
    rw[if_neg (by omega),if_neg (by omega),if_neg hP.2.2.1,if_neg (show ¬((l.getD i bI).2.1:Int)= -9223372036854775808 from hP.2.2.2.1)]
   ·rw[if_neg hP];unfold kt mm at hP
    have h2:=fun h1 h2 h3 h4 h5=>hP ⟨h1,h2,h3,h4,h5⟩
    repeat' split
    all_goals first|rfl|(exfalso;exact h2 (by omega) (by omega) (by assumption) (by assumption) (by omega))
 ·unfold jW.l4 jW.c5
  rw[aA (by omega),cond_false]
end VM
end
section
namespace VM
open Go VM.F
def Et(a b c d:Int):Prop:=(1≤a∧a≤1099511627776)∧(1≤b∧b≤1099511627776)∧(1≤c∧c≤12)∧(-1152921504606846976≤d∧d≤1152921504606846976)
instance(a b c d:Int):Decidable (Et a b c d):=by unfold Et;infer_instance
def CP(x:bh):Prop:=Et x.1 x.2.1 x.2.2.1 x.2.2.2.1
instance(x:bh):Decidable (CP x):=by unfold CP;infer_instance
theorem Mw(N:Nat)(x:bh):QX N x=some (decide (CP x)):=by
 unfold QX
 rw[jI x.2.2.2.1]
 repeat rw[dV]
 congr 1
 rw[Bool.eq_iff_iff,decide_eq_true_iff]
 unfold CP Et
 simp only[Bool.and_eq_true,decide_eq_true_eq]
 omega
end VM
end
section
namespace VM
open Go VM.F
def nJ(m lot:Int)(x:bh):Bool:=decide (gl x.2.2.1 m)&&decide (gl x.2.1 lot)
end VM
end
section
namespace VM
open Go VM.F
def vB(l:aD)(i:Nat):Prop:=CP (l.getD i aJ)∧pU i (l.getD (i-1) aJ).1 (l.getD i aJ).1∧(l.take i).any (nJ (l.getD i aJ).2.2.1 (l.getD i aJ).2.1)=false
instance(l:aD):DecidablePred (vB l):=fun i=>by unfold vB;infer_instance
def QY(l:aD):Bool:=decide (∀j,j<l.length→vB l j)&&decide (l.length≤40)
end VM
end
section
namespace VM
open Go VM.F
def dH(a b:Int):aj→List Int
 |[]=>[]
 |x::t=>if x.1=a∧x.2.1=b then eP x::dH a b t else dH a b t
theorem gQ(a b:Int)(x:bW)(t:aj):dH a b (x::t)=if x.1=a∧x.2.1=b then eP x::dH a b t else dH a b t:=rfl
def cE(a b:Int)(l:aj):Int:=(dH a b l).sum
theorem CQ(a b:Int):cE a b []=0:=rfl
theorem fJ(a b:Int)(x:bW)(t:aj):cE a b (x::t)=(if x.1=a∧x.2.1=b then eP x else 0)+cE a b t:=by
 unfold cE
 rw[gQ]
 split
 ·rw[List.sum_cons]
 ·omega
theorem je{a b:Int}: ∀{l:aj},(∀x∈l,¬(x.1=a∧x.2.1=b))→cE a b l=0
 |[],_=>rfl
 |x::t,h=>by
  rw[fJ,if_neg (h x (List.mem_cons_self ..)),je (fun y hy=>h y (List.mem_cons_of_mem _ hy))];rfl
abbrev cW:=Int×Int
def pV(x y:cW):Prop:=iu x.1 x.2 y.1 y.2
instance(x y:cW):Decidable (pV x y):=by unfold pV;infer_instance
def keyOf(x:bW):cW:=(x.1,x.2.1)
def uh(K:List cW):Prop:=K.Pairwise pV
theorem mM{x:cW}(h:pV x x):False:=by unfold pV iu at h;omega
theorem CR{x y:cW}(h:pV x y)(k:pV y x):False:=by unfold pV iu at*;omega
theorem sU{x y z:cW}(h:pV x y)(k:pV y z):pV x z:=by unfold pV iu at*;omega
theorem My(x y:cW):pV x y∨x=y∨pV y x:=by
 have:(x.1=y.1∧x.2=y.2)→x=y:=fun h=>Prod.ext h.1 h.2
 unfold pV iu
 by_cases h1:x.1=y.1
 ·by_cases h2:x.2=y.2
  ·exact Or.inr (Or.inl (this ⟨h1,h2⟩))
  ·omega
 ·omega
theorem Mz: ∀{a b:List cW},uh a→uh b→(∀x,x∈a↔x∈b)→a=b
 |[],[],_,_,_=>rfl
 |[],y::t,_,_,h=>nomatch (h y).2 (List.mem_cons_self ..)
 |x::s,[],_,_,h=>nomatch (h x).1 (List.mem_cons_self ..)
 |x::s,y::t,ha,hb,h=>by
  obtain⟨ha1,ha2⟩:=List.pairwise_cons.1 ha
  obtain⟨ke,tg⟩:=List.pairwise_cons.1 hb
  have hxy:x=y:=by
   rcases List.mem_cons.1 ((h x).1 (List.mem_cons_self ..))with e|e
   ·exact e
   ·rcases List.mem_cons.1 ((h y).2 (List.mem_cons_self ..))with f|f
    ·exact f.symm
    ·exact(CR (ha1 y f) (ke x e)).elim
  subst hxy
  rw[Mz ha2 tg fun z=>⟨fun hz=> ?_,fun hz=> ?_⟩]
  ·rcases List.mem_cons.1 ((h z).1 (List.mem_cons_of_mem _ hz))with e|e
   ·subst e;exact(mM (ha1 z hz)).elim
   ·exact e
  ·rcases List.mem_cons.1 ((h z).2 (List.mem_cons_of_mem _ hz))with e|e
   ·subst e;exact(mM (ke z hz)).elim
   ·exact e
def fx(P:Int→Prop) [DecidablePred P](f:Int→Int→Int):List cW→Option aj
 |[]=>some []
 |k::t=>if P (f k.1 k.2)then(fx P f t).map (fun o=>if f k.1 k.2=0 then o else(k.1,(k.2,(f k.1 k.2,())))::o)else none
theorem kN(P:Int→Prop) [DecidablePred P](f:Int→Int→Int)(k:cW)(t:List cW):fx P f (k::t)=if P (f k.1 k.2)then(fx P f t).map (fun o=>if f k.1 k.2=0 then o else(k.1,(k.2,(f k.1 k.2,())))::o)else none:=rfl
theorem xP{P:Int→Prop} [DecidablePred P](h0:P 0){f:Int→Int→Int}(p:cW→Bool): ∀{K:List cW},(∀k∈K,p k=false→f k.1 k.2=0)→fx P f (K.filter p)=fx P f K
 |[],_=>rfl
 |k::t,h=>by
  have ih:=xP h0 p (K:=t) (fun x hx=>h x (List.mem_cons_of_mem _ hx))
  cases hp:p k
  ·rw[List.filter_cons_of_neg (by rw[hp];decide),ih,kN,h k (List.mem_cons_self ..) hp,if_pos h0]
   simp
  ·rw[List.filter_cons_of_pos hp,kN,kN,ih]
theorem G0{P:Int→Prop} [DecidablePred P](h0:P 0){f:Int→Int→Int}{K G:List cW}(hK:uh K)(hG:uh G)(hs: ∀k∈K,k∈G)(hz: ∀k∈G,k∉K→f k.1 k.2=0):fx P f K=fx P f G:=by
 have e:K=G.filter (fun k=>decide (k∈K)):=by
  refine Mz hK (List.Pairwise.sublist List.filter_sublist hG) fun x=> ?_
  rw[List.mem_filter]
  exact⟨fun h=>⟨hs x h,decide_eq_true h⟩,fun h=>of_decide_eq_true h.2⟩
 rw[e]
 exact xP h0 _ fun k hk hp=>hz k hk (of_decide_eq_false hp)
def sg(k:cW):List cW→List cW
 |[]=>[k]
 |x::t=>if pV x k then x::sg k t else if x=k then x::t else k::x::t
theorem nK{k x:cW}: ∀{K:List cW},x∈sg k K↔x=k∨x∈K
 |[]=>by show x∈[k]↔_;simp
 |y::t=>by
  show x∈(if pV y k then y::sg k t else if y=k then y::t else k::y::t)↔_
  split
  ·rw[List.mem_cons,nK,List.mem_cons]
   exact⟨fun h=>h.elim (fun e=>Or.inr (Or.inl e)) (fun h=>h.elim Or.inl (fun h=>Or.inr (Or.inr h))),fun h=>h.elim (fun e=>Or.inr (Or.inl e)) (fun h=>h.elim Or.inl (fun h=>Or.inr (Or.inr h)))⟩
  ·split
   ·rename_i e
    rw[←e]
    exact⟨Or.inr,fun h=>h.elim (fun e=>e▸List.mem_cons_self ..) id⟩
   ·rw[List.mem_cons]
theorem vC{k:cW}: ∀{K:List cW},uh K→uh (sg k K)
 |[],_=>List.pairwise_cons.2 ⟨fun _ h=>(nomatch h),List.Pairwise.nil⟩
 |y::t,h=>by
  obtain⟨h1,h2⟩:=List.pairwise_cons.1 h
  show uh (if pV y k then y::sg k t else if y=k then y::t else k::y::t)
  split
  ·rename_i hy
   exact List.pairwise_cons.2 ⟨fun z hz=>(nK.1 hz).elim (fun e=>e▸hy) (h1 z),vC h2⟩
  ·rename_i hy
   split
   ·exact h
   ·rename_i he
    have hk:pV k y:=(My y k).elim (fun h=>absurd h hy) (fun h=>h.elim (fun h=>absurd h he) id)
    exact List.pairwise_cons.2 ⟨fun z hz=>(List.mem_cons.1 hz).elim (fun e=>e▸hk) (fun hz=>sU hk (h1 z hz)),h⟩
def jX(K:List cW)(E:aj):List cW:=E.foldl (fun K x=>sg (keyOf x) K) K
theorem oZ(K:List cW)(x:bW)(E:aj):jX K (x::E)=jX (sg (keyOf x) K) E:=rfl
theorem ui: ∀{E:aj} {K:List cW},uh K→uh (jX K E)
 |[],_,h=>h
 |x::E,K,h=>by rw[oZ];exact ui (vC h)
theorem jf{k:cW}: ∀{E:aj} {K:List cW},k∈jX K E↔(k∈K∨ ∃x∈E,keyOf x=k)
 |[],K=>by
  show k∈K↔_
  simp
 |x::E,K=>by
  rw[oZ,jf,nK]
  constructor
  ·rintro((rfl|h)|⟨y,hy,e⟩)
   ·exact Or.inr ⟨x,List.mem_cons_self ..,rfl⟩
   ·exact Or.inl h
   ·exact Or.inr ⟨y,List.mem_cons_of_mem _ hy,e⟩
  ·rintro(h|⟨y,hy,e⟩)
   ·exact Or.inl (Or.inr h)
   ·rcases List.mem_cons.1 hy with rfl|hy
    ·exact Or.inl (Or.inl e.symm)
    ·exact Or.inr ⟨y,hy,e⟩
theorem Ao(k:cW): ∀K:List cW,(sg k K).length≤K.length+1
 |[]=>Nat.le_refl _
 |y::t=>by
  show(if pV y k then y::sg k t else if y=k then y::t else k::y::t).length≤_
  have:=Ao k t
  split
  ·rw[List.length_cons,List.length_cons];omega
  ·split<;>rw[List.length_cons]<;>(try rw[List.length_cons])<;>omega
def rowsOf(l:aj)(K:List cW):aj:=K.map fun k=>(k.1,(k.2,(cE k.1 k.2 l,())))
theorem o0{l:aj}(h:uh (l.map keyOf)):rowsOf l (l.map keyOf)=l:=by
 have key: ∀(m:aj),uh (m.map keyOf)→(∀x∈m,cE x.1 x.2.1 l=eP x)→rowsOf l (m.map keyOf)=m:=by
  intro m
  induction m with
  |nil=>intro _ _;rfl
  |cons x t ih=>
   intro hm hx
   have:=ih (List.pairwise_cons.1 hm).2 (fun y hy=>hx y (List.mem_cons_of_mem _ hy))
   unfold rowsOf at*
   rw[List.map_cons,List.map_cons,this]
   congr 1
   show(x.1,(x.2.1,(cE x.1 x.2.1 l,())))=x
   rw[hx x (List.mem_cons_self ..)];rfl
 refine key l h ?_
 clear key
 induction l with
 |nil=>intro x hx;nomatch hx
 |cons y t ih=>
  intro x hx
  obtain⟨h1,h2⟩:=List.pairwise_cons.1 h
  have gi: ∀z∈t,¬(z.1=y.1∧z.2.1=y.2.1):=fun z hz e=>by
   have hk:=h1 (keyOf z) (List.mem_map_of_mem hz)
   have he:keyOf z=keyOf y:=Prod.ext e.1 e.2
   rw[he]at hk
   exact mM hk
  rw[fJ]
  rcases List.mem_cons.1 hx with rfl|hx
  ·rw[if_pos ⟨rfl,rfl⟩,je gi];omega
  ·rw[if_neg (fun e=>gi x hx ⟨e.1.symm,e.2.symm⟩),ih h2 x hx];omega
end VM
end
section
namespace VM
open Go VM.F
instance(x:Int):Decidable (aC x):=by unfold aC;infer_instance
def Fq(x:Int):Prop:=aC x∧yG x
instance:DecidablePred Fq:=fun x=>by unfold Fq;infer_instance
def qF(r:Option aj):Option (aj×Int):=some (match r with|some o=>(o,0)|none=>([],2))
def fS(l E:aj)(a b:Int):Int:=cE a b l+cE a b E
theorem ze{α:Type}(N:Nat){l:List α}{i:Nat}{x:α}(hi:i≤l.length)(hl:l.length<1000000):gY N l (i:Int) [x]=some (l.take i++x::l.drop i):=by
 unfold gY
 rw[if_pos ⟨by omega,by omega,rfl,by unfold uD;omega⟩]
 rfl
theorem si{α:Type}(N:Nat){l:List α}(hl:l.length≤1000000):kB N l=some l:=by
 unfold kB
 rw[if_pos (by unfold uD;omega)]
theorem vD(N:Nat){v:Int}(h:bL v):GO N (bm v)=some (B4 v):=Uu N h.1 h.2
theorem vE{v:Int}(h:aC v):B4 v=(v,true):=by unfold B4;exact if_pos h
theorem vF{v:Int}(h: ¬aC v):B4 v=(0,false):=by unfold B4;exact if_neg h
theorem CS{ws:List Int}{x:Int}(h: ∀y∈ws,aC y)(hx:aC x): ∀y∈ws++[x],aC y:=fun y hy=>by
 rcases List.mem_append.1 hy with hy|hy
 ·exact h y hy
 ·rw[List.mem_singleton.1 hy];exact hx
theorem G1(N:Nat){l:aj}:UC N l=some l:=by
 unfold UC
 rw[cw (by omega) (by omega) (by omega) (by omega),cond_true]
 simp
theorem QZ(N:Nat)(hN:2000000≤N)(K:bA.CT){E out R:aj}(hq:e9 E)(hl:E.length≤100000)(ho:out.length≤1000000)(r:bW)(hr:aC (eP r))(i:Nat)(hi:i≤1000000):
  bA.l27 N K N E out r [bm (eP r)] R (R.length:Int) (i:Int) E (E.length:Int) 0=
   if Fq (eP r+cE r.1 r.2.1 E)then K E (if eP r+cE r.1 r.2.1 E=0 then out else out++[(r.1,(r.2.1,(eP r+cE r.1 r.2.1 E,())))]) R (R.length:Int) ((i+1:Nat):Int)else some (aY,(2:Int)):=by
 have:=nG E aQ (fun n j ws=>bA.l27 N K n E out r (ws.map bm) R (R.length:Int) (i:Int) E (E.length:Int) j)
  (fun t ws=>if Fq (ws++dH r.1 r.2.1 t).sum then K E (if(ws++dH r.1 r.2.1 t).sum=0 then out else out++[(r.1,(r.2.1,((ws++dH r.1 r.2.1 t).sum,())))]) R (R.length:Int) ((i+1:Nat):Int)else some (aY,(2:Int)))
  (fun j (ws:List Int)=>ws.length≤j+1∧ ∀x∈ws,aC x)
  (fun n j ws hj hI dD=> ?_) (fun n ws hI=> ?_) E.length N 0 [eP r] (by omega) (by omega) (by omega) ⟨Nat.le_refl _,fun x hx=>by rw[List.mem_singleton.1 hx];exact hr⟩
 ·rw[show((0:Nat):Int)=0 from rfl,List.drop_zero]at this
  refine this.trans ?_
  have e:([eP r]++dH r.1 r.2.1 E).sum=eP r+cE r.1 r.2.1 E:=by rw[List.singleton_append,List.sum_cons];rfl
  rw[e]
 ·unfold bA.l27 bA.UD
  have mK:=wR hq j
  have gP:=mK
  unfold aC eP at gP
  rw[aE (by omega),cond_true,aG (by omega) (by omega),cond_true,Int.toNat_natCast,mh N gP.1 gP.2,Option.bind_some,bo (by rw[List.length_map,List.length_singleton];omega),cond_true,al (x:=(j:Int)+1) (by omega) (by omega),ae,aB,aB]
  by_cases h1:(E.getD j aQ).1=r.1
  ·by_cases h2:(E.getD j aQ).2.1=r.2.1
   ·have hc:dH r.1 r.2.1 (E.getD j aQ::E.drop (j+1))=eP (E.getD j aQ)::dH r.1 r.2.1 (E.drop (j+1)):=by rw[gQ,if_pos ⟨h1,h2⟩]
    rw[if_pos h1,if_pos h2,hc]
    have:=dD (ws++[eP (E.getD j aQ)]) ⟨by rw[List.length_append,List.length_singleton];omega,CS hI.2 mK⟩
    rw[List.map_append]at this
    refine this.trans ?_
    rw[List.append_assoc];rfl
   ·have hc:dH r.1 r.2.1 (E.getD j aQ::E.drop (j+1))=dH r.1 r.2.1 (E.drop (j+1)):=by rw[gQ,if_neg (fun h=>h2 h.2)]
    rw[if_pos h1,if_neg h2,hc]
    exact dD ws ⟨by omega,hI.2⟩
  ·have hc:dH r.1 r.2.1 (E.getD j aQ::E.drop (j+1))=dH r.1 r.2.1 (E.drop (j+1)):=by rw[gQ,if_neg (fun h=>h1 h.1)]
   rw[if_neg h1,hc]
   exact dD ws ⟨by omega,hI.2⟩
 ·unfold bA.l27 bA.UD
  have hs:=CO hI.2 (by omega)
  rw[aA (by omega),cond_false,Eo N hI.2 (by omega) (by omega),Option.bind_some]
  show _=if Fq (ws++[]).sum then K E (if(ws++[]).sum=0 then out else out++[(r.1,(r.2.1,((ws++[]).sum,())))]) R (R.length:Int) ((i+1:Nat):Int)else some (aY,(2:Int))
  rw[List.append_nil,vD N hs,Option.bind_some]
  by_cases h1:aC ws.sum
  ·rw[vE h1]
   dsimp only
   rw[Bool.not_true,cond_false,oW,Option.bind_some,cond_not,cN,cond_not,aB,bo (by rw[List.length_singleton];omega),cond_true,al (x:=(i:Int)+1) (by omega) (by omega),ae]
   by_cases h2:yG ws.sum
   ·rw[if_pos h2,if_pos (show Fq ws.sum from⟨h1,h2⟩)]
    split<;>rfl
   ·rw[if_neg h2,if_neg (fun h=>h2 h.2)]
  ·rw[vF h1,if_neg (fun h=>h1 h.1)]
   rfl
theorem N7(N:Nat)(hN:2000000≤N){l E R:aj}(hq:e9 E)(hl:E.length≤100000)(hR:R.length≤200000)(hv: ∀r∈R,aC (eP r)∧eP r=cE r.1 r.2.1 l):
  bA.UE N N E [] R (R.length:Int) 0=qF (fx Fq (fS l E) (R.map keyOf)):=by
 have:=nG R aQ (fun n i out=>bA.UE N n E out R (R.length:Int) i) (fun t out=>qF ((fx Fq (fS l E) (t.map keyOf)).map (fun o=>out++o))) (fun i (out:aj)=>out.length≤i)
  (fun n i out hi hI hr=> ?_) (fun n out hI=> ?_) R.length N 0 [] (by omega) (by omega) (by omega) (Nat.le_refl _)
 ·rw[show((0:Nat):Int)=0 from rfl,List.drop_zero]at this
  refine this.trans ?_
  simp
 ·unfold bA.UE bA.UF
  have hm:R.getD i aQ∈R:=by
   rw[List.getD_eq_getElem?_getD,List.getElem?_eq_getElem hi];exact List.getElem_mem hi
  have PO:=hv _ hm
  have mK:=PO.1
  have gP:=mK
  unfold aC eP at gP
  rw[aE (by omega),cond_true,aG (by omega) (by omega),cond_true,Int.toNat_natCast,mh N gP.1 gP.2,Option.bind_some]
  refine(QZ N hN _ hq hl (by omega) _ mK i (by omega)).trans ?_
  rw[List.map_cons,kN]
  have ef:fS l E (keyOf (R.getD i aQ)).1 (keyOf (R.getD i aQ)).2=eP (R.getD i aQ)+cE (R.getD i aQ).1 (R.getD i aQ).2.1 E:=by
   show cE _ _ l+cE _ _ E=_
   rw[PO.2];rfl
  rw[ef]
  generalize hS:eP (R.getD i aQ)+cE (R.getD i aQ).1 (R.getD i aQ).2.1 E=v
  by_cases hF:Fq v
  ·rw[if_pos hF,if_pos hF,hr _ (by
    split
    ·omega
    ·rw[List.length_append,List.length_singleton];omega)]
   cases fx Fq (fS l E) ((R.drop (i+1)).map keyOf)with
   |none=>rfl
   |some o=>
    show qF (some _)=qF (some _)
    congr 2
    split
    ·rfl
    ·exact List.append_assoc _ _ _
  ·rw[if_neg hF,if_neg hF];rfl
 ·unfold bA.UE bA.UF
  rw[aA (by omega),cond_false,G1,Option.bind_some]
  show _=qF (some (out++[]))
  rw[List.append_nil];rfl
def G4(l:aj)(k:cW):bW:=(k.1,(k.2,(cE k.1 k.2 l,())))
theorem cX(l:aj)(K:List cW):(rowsOf l K).length=K.length:=List.length_map ..
theorem CU(l:aj){K:List cW}{p:Nat}(h:p<K.length):(rowsOf l K).getD p aQ=G4 l (K.getD p (0,0)):=by
 unfold rowsOf
 rw[List.getD_eq_getElem?_getD,List.getElem?_map,List.getElem?_eq_getElem h,List.getD_eq_getElem?_getD,List.getElem?_eq_getElem h];rfl
theorem qG(l:aj)(K:List cW)(p:Nat)(k:cW):(rowsOf l K).take p++G4 l k::(rowsOf l K).drop p=rowsOf l (K.take p++k::K.drop p):=by
 unfold rowsOf
 rw[List.map_append,List.map_cons,List.map_take,List.map_drop];rfl
theorem xQ(l:aj)(K:List cW):(rowsOf l K).map keyOf=K:=by
 unfold rowsOf
 rw[List.map_map]
 induction K with
 |nil=>rfl
 |cons k t ih=>rw[List.map_cons,ih];rfl
theorem vG{k x:cW}:0<wK k.1 k.2 x.1 x.2↔pV x k:=by
 unfold wK pV iu;split<;>omega
theorem sV{k x:cW}:wK k.1 k.2 x.1 x.2=0↔x=k:=by
 have:x=k↔x.1=k.1∧x.2=k.2:=⟨fun h=>h▸⟨rfl,rfl⟩,fun h=>Prod.ext h.1 h.2⟩
 rw[this]
 unfold wK;split<;>omega
def vH(k:cW):Prop:=Ca k.1∧Ca k.2
theorem MA{k:cW}{K:List cW}{p:Nat}(h:p<K.length):sg k (K.drop p)=if pV (K.getD p (0,0)) k then K.getD p (0,0)::sg k (K.drop (p+1))else if K.getD p (0,0)=k then K.drop p else k::K.drop p:=by
 rw[drop_cons h (0,0)];rfl
theorem vI{K:List cW}{p:Nat}(h:p<K.length)(t:List cW):K.take p++K.getD p (0,0)::t=K.take (p+1)++t:=by
 rw[←List.take_append_getElem h,List.append_assoc,List.getD_eq_getElem?_getD,List.getElem?_eq_getElem h];rfl
def zeroAt(l:aj)(K:List cW)(k:cW):Prop:=k∉K→cE k.1 k.2 l=0
theorem sW{l:aj}{k:cW}(h:cE k.1 k.2 l=0):((k.1,(k.2,((0:Int),()))):bW)=G4 l k:=by
 unfold G4;rw[h]
theorem qH{k:cW}{K:List cW}{p:Nat}(hs:uh K)(hp: ∀x∈K.take p,pV x k)(h: ∀x∈K.drop p,pV k x):k∉K:=fun hk=>by
 rw[←List.take_append_drop p K]at hk
 rcases List.mem_append.1 hk with hk|hk
 ·exact mM (hp k hk)
 ·exact mM (h k hk)
theorem MB{k:cW}{K:List cW}{p:Nat}(hs:uh K)(h:p<K.length)(h1: ¬pV (K.getD p (0,0)) k)(h2:K.getD p (0,0)≠k): ∀x∈K.drop p,pV k x:=by
 have hk:pV k (K.getD p (0,0)):=(My (K.getD p (0,0)) k).elim (fun h=>absurd h h1) (fun h=>h.elim (fun h=>absurd h h2) id)
 have hd:uh (K.drop p):=List.Pairwise.sublist (List.drop_sublist ..) hs
 rw[drop_cons h (0,0)]at hd ⊢
 intro x hx
 rcases List.mem_cons.1 hx with rfl|hx
 ·exact hk
 ·exact sU hk ((List.pairwise_cons.1 hd).1 x hx)
theorem aat(N:Nat)(C:bA.ec){l E S:aj}{K:List cW}(hs:uh K)(hl:K.length≤100000)(hf: ∀k∈K,vH k)(x:bW)(hx:vH (keyOf x))(hz:zeroAt l K (keyOf x))(len:Int)(i:Nat)(hi:i≤1000000):
  ∀(m n p:Nat),K.length-p≤m→m<n→p≤K.length→(∀y∈K.take p,pV y (keyOf x))→
   bA.tp N C n E (rowsOf l K) x (p:Int) S len (i:Int)=C E (rowsOf l (K.take p++sg (keyOf x) (K.drop p))) S len ((i+1:Nat):Int)
 |m,0,p,_,hn,_,_=>by omega
 |m,n+1,p,hm,hn,hp,hb=>by
  unfold bA.tp bA.se bA.j18 bA.acf
  rw[cX,al (x:=(i:Int)+1) (by omega) (by omega),ae i]
  by_cases h:p<K.length
  ·have hfk:=hf (K.getD p (0,0)) (by rw[List.getD_eq_getElem?_getD,List.getElem?_eq_getElem h];exact List.getElem_mem h)
   have ho:NY N x.1 x.2.1 ((rowsOf l K).getD p aQ)=some (wK (keyOf x).1 (keyOf x).2 (K.getD p (0,0)).1 (K.getD p (0,0)).2):=by
    rw[CU l h]
    exact CL N hx.1 hx.2 hfk.1 hfk.2
   rw[aE (by omega),cond_true,aG (by omega) (by omega),cond_true,Int.toNat_natCast,ho,Option.bind_some,cA (x:=(p:Int)) (by omega),cond_false,cond_true,Option.bind_some,a8,cond_not,aB,MA h]
   by_cases h1:pV (K.getD p (0,0)) (keyOf x)
   ·rw[if_pos (vG.2 h1),if_pos h1,al (x:=(p:Int)+1) (by omega) (by omega),ae p,vI h]
    refine aat N C hs hl hf x hx hz len i hi (m-1) n (p+1) (by omega) (by omega) (by omega) fun y hy=> ?_
    rw[←List.take_append_getElem h]at hy
    rcases List.mem_append.1 hy with hy|hy
    ·exact hb y hy
    ·rw[List.getD_eq_getElem?_getD,List.getElem?_eq_getElem h]at h1
     rw[List.mem_singleton.1 hy];exact h1
   ·rw[if_neg (fun h=>h1 (vG.1 h)),if_neg h1]
    by_cases h2:K.getD p (0,0)=keyOf x
    ·rw[if_pos (sV.2 h2),if_pos h2,List.take_append_drop]
    ·rw[if_neg (fun h=>h2 (sV.1 h)),if_neg h2,ze N (by rw[cX];omega) (by rw[cX];omega),Option.bind_some]
     have BC:=hz (qH hs hb (MB hs h h1 h2))
     have e:=qG l K p (keyOf x)
     rw[←sW BC]at e
     exact congrArg (fun R=>C E R S len ((i+1:Nat):Int)) e
  ·have hd:K.drop p=[]:=List.drop_eq_nil_of_le (by omega)
   rw[aA (by omega),cond_false,cG (by omega),cond_true,ze N (by rw[cX];omega) (by rw[cX];omega),Option.bind_some]
   have BC:=hz (qH hs hb (by rw[hd];exact fun x hx=>nomatch hx))
   have e:=qG l K p (keyOf x)
   rw[←sW BC]at e
   have e2:sg (keyOf x) (K.drop p)=keyOf x::K.drop p:=by rw[hd];rfl
   rw[e2]
   exact congrArg (fun R=>C E R S len ((i+1:Nat):Int)) e
end VM
end
section
namespace VM
open Go VM.F
def CV(E:aj)(i:Nat):Prop:=gl (dS (i:Int) E).sum 0
instance(E:aj):DecidablePred (CV E):=fun i=>by unfold CV;infer_instance
theorem UG(N:Nat)(hN:2000000≤N)(K:ed.bP){E:aj}(hq:e9 E)(hl:E.length≤100000)(a:Nat)(ha:a<6):
  ed.l6 N K N E (a:Int) [] (a:Int) E (E.length:Int) 0=if(dS (a:Int) E).sum=0 then K E ((a+1:Nat):Int)else some false:=by
 have:=nG E aQ (fun n j ws=>ed.l6 N K n E (a:Int) (ws.map bm) (a:Int) E (E.length:Int) j)
  (fun t ws=>if(ws++dS (a:Int) t).sum=0 then K E ((a+1:Nat):Int)else some false)
  (fun j (ws:List Int)=>ws.length≤j∧ ∀x∈ws,aC x)
  (fun n j ws hj hI hr=> ?_) (fun n ws hI=> ?_) E.length N 0 [] (by omega) (by omega) (by omega) ⟨Nat.le_refl _,fun x hx=>nomatch hx⟩
 ·rw[show((0:Nat):Int)=0 from rfl,List.drop_zero]at this
  exact this
 ·unfold ed.l6 ed.pn
  have mK:=wR hq j
  have gP:=mK
  unfold aC eP at gP
  rw[aE (by omega),cond_true,aG (by omega) (by omega),cond_true,Int.toNat_natCast,mh N gP.1 gP.2,Option.bind_some,bo (by rw[List.length_map,List.length_singleton];omega),cond_true,al (x:=(j:Int)+1) (by omega) (by omega),ae j,aB]
  by_cases h1:(E.getD j aQ).2.1=(a:Int)
  ·have hc:dS (a:Int) (E.getD j aQ::E.drop (j+1))=eP (E.getD j aQ)::dS (a:Int) (E.drop (j+1)):=by rw[fD,if_pos h1]
   rw[if_pos h1,hc]
   have:=hr (ws++[eP (E.getD j aQ)]) ⟨by rw[List.length_append,List.length_singleton];omega,CS hI.2 mK⟩
   rw[List.map_append]at this
   refine this.trans ?_
   rw[List.append_assoc];rfl
  ·have hc:dS (a:Int) (E.getD j aQ::E.drop (j+1))=dS (a:Int) (E.drop (j+1)):=by rw[fD,if_neg h1]
   rw[if_neg h1,hc]
   exact hr ws ⟨by omega,hI.2⟩
 ·unfold ed.l6 ed.pn
  rw[aA (by omega),cond_false,Eo N hI.2 (by omega) (by omega),Option.bind_some]
  show _=if(ws++[]).sum=0 then K E ((a+1:Nat):Int)else some false
  rw[List.append_nil,Bool.not_true,cond_false,nI,Option.bind_some,cond_not,aB,al (x:=(a:Int)+1) (by omega) (by omega),ae a]
  by_cases h:ws.sum=0
  ·rw[if_pos h,if_pos (lK.2 h)]
  ·rw[if_neg h,if_neg (fun k=>h (lK.1 k))]
theorem Q0(N:Nat)(hN:2000000≤N){E:aj}(hq:e9 E)(hl:E.length≤100000):ed N E=some (decide (∀j,j<jd→CV E j)&&true):=by
 unfold ed ed.b
 refine eN (len:=jd) (F:=fun n i=>ed.l2 N n E i) (CV E) (fun n i r hi hp hr=> ?_) (fun n=> ?_) N (by unfold jd;omega)
 ·unfold ed.l2 ed.dr
  unfold jd at hi
  rw[aE (by omega),cond_true,UG N hN _ hq hl i hi,hr]
  unfold CV gl
  rfl
 ·unfold ed.l2 ed.dr
  rw[aA (by unfold jd;omega),cond_false]
structure Q1(E:aj):Prop where
 place: ∀x∈E,bR x.1 x.2.1
 q: ∀x∈E,aC (eP x)∧yG (eP x)
 len:E.length≤400
 flat: ∀i:Int,(dS i E).sum=0
theorem CW{x:bW}(h:bR x.1 x.2.1):vH (keyOf x):=by
 have h':bR (keyOf x).1 (keyOf x).2:=h
 unfold bR at h'
 unfold vH Ca
 omega
theorem fE{l:aj}{k:cW}(h:k∉l.map keyOf):cE k.1 k.2 l=0:=je fun x hx e=>h (by
 have:keyOf x=k:=Prod.ext e.1 e.2
 rw[←this];exact List.mem_map_of_mem hx)
theorem N8(N:Nat)(hN:2000000≤N){l E:aj}(hq:e9 E)(hE:E.length≤400)(hp: ∀x∈E,vH (keyOf x))(hs:uh (l.map keyOf))(hl:l.length≤90000)(hlq:e9 l)(MC: ∀x∈l,vH (keyOf x)):
  bA.lN N N E l E (E.length:Int) 0=qF (fx Fq (fS l E) (jX (l.map keyOf) E)):=by
 have:=nG E aQ (fun n i K=>bA.lN N n E (rowsOf l K) E (E.length:Int) i) (fun t K=>qF (fx Fq (fS l E) (jX K t)))
  (fun i (K:List cW)=>K.length≤l.length+i∧uh K∧(∀k∈K,vH k)∧ ∀x∈l,keyOf x∈K)
  (fun n i K hi hI hr=> ?_) (fun n K hI=> ?_) E.length N 0 (l.map keyOf) (by omega) (by omega) (by omega) ⟨by rw[List.length_map];omega,hs,fun k hk=>by
   obtain⟨x,hx,rfl⟩:=List.mem_map.1 hk
   exact MC x hx,fun x hx=>List.mem_map_of_mem hx⟩
 ·rw[show((0:Nat):Int)=0 from rfl,List.drop_zero]at this
  simp only[o0 hs]at this
  exact this
 ·unfold bA.lN bA.jY
  obtain⟨h1,h2,h3,h4⟩:=hI
  have hm:E.getD i aQ∈E:=by
   rw[List.getD_eq_getElem?_getD,List.getElem?_eq_getElem hi];exact List.getElem_mem hi
  rw[aE (by omega),cond_true,aG (by omega) (by omega),cond_true,Int.toNat_natCast]
  refine(aat N _ h2 (by omega) h3 (E.getD i aQ) (hp _ hm) (fun hk=>fE fun hx=>hk (by
   obtain⟨x,hx,e⟩:=List.mem_map.1 hx
   rw[←e];exact h4 x hx)) (E.length:Int) i (by omega) K.length N 0 (by omega) (by omega) (by omega) (fun y hy=>nomatch hy)).trans ?_
  rw[List.take_zero,List.nil_append,List.drop_zero,oZ]
  refine hr (sg (keyOf (E.getD i aQ)) K) ⟨Nat.le_trans (Ao _ K) (by omega),vC h2,fun k hk=>(nK.1 hk).elim (fun e=>e▸hp _ hm) (h3 k),fun x hx=>nK.2 (Or.inr (h4 x hx))⟩
 ·unfold bA.lN bA.jY
  obtain⟨h1,h2,h3,h4⟩:=hI
  rw[aA (by omega),cond_false,cX,bC (by omega) (by omega) (by omega),cond_true]
  have:=N7 N hN (l:=l) (R:=rowsOf l K) hq (by omega) (by rw[cX];omega) (fun r hr=>by
   unfold rowsOf at hr
   obtain⟨k,hk,rfl⟩:=List.mem_map.1 hr
   refine⟨?_,rfl⟩
   show aC (cE k.1 k.2 l)
   by_cases hkl:k∈l.map keyOf
   ·have e:rowsOf l (l.map keyOf)=l:=o0 hs
    have hm:G4 l k∈rowsOf l (l.map keyOf):=List.mem_map_of_mem hkl
    rw[e]at hm
    exact hlq (G4 l k) hm
   ·rw[fE hkl];exact⟨by decide,by decide⟩)
  rw[xQ,cX]at this
  exact this
theorem gR{l:aj}(h:cR l=true):uh (l.map keyOf)∧(∀x∈l,bR x.1 x.2.1∧yG (eP x)):=by
 unfold cR at h
 rw[Bool.and_true]at h
 have h':=of_decide_eq_true h
 have get: ∀(i:Nat) (hi:i<l.length),l.getD i aQ=l[i]:=fun i hi=>by rw[List.getD_eq_getElem?_getD,List.getElem?_eq_getElem hi];rfl
 have Q2: ∀i,i+1<l.length→pV (keyOf (l.getD i aQ)) (keyOf (l.getD (i+1) aQ)):=fun i hi=>(h' (i+1) hi).2.2.2 (by omega)
 have dT: ∀j,j<l.length→ ∀i,i<j→pV (keyOf (l.getD i aQ)) (keyOf (l.getD j aQ)):=by
  intro j
  induction j with
  |zero=>intro _ i hi;omega
  |succ j ih=>
   intro hj i hi
   by_cases e:i=j
   ·rw[e];exact Q2 j hj
   ·exact sU (ih (by omega) i (by omega)) (Q2 j hj)
 refine⟨?_,fun x hx=> ?_⟩
 ·refine List.pairwise_map.2 (List.pairwise_iff_getElem.2 fun i j hi hj oH=> ?_)
  have:=dT j hj i oH
  rw[get i hi,get j hj]at this
  exact this
 ·obtain⟨i,hi,e⟩:=List.getElem_of_mem hx
  have:=h' i hi
  unfold jr jS at this
  rw[get i hi,e]at this
  exact⟨this.1,this.2.2.1⟩
theorem UH(N:Nat)(hN:2000000≤N){l E:aj}(hk:cR l=true)(hl:l.length≤90000)(hlq:e9 l)(g:Q1 E):bA N l E=qF (fx Fq (fS l E) (jX (l.map keyOf) E)):=by
 obtain⟨hs,MC⟩:=gR hk
 have hE:=g.len
 unfold bA bA.b
 rw[vp N (by omega) (by omega),hk,Option.bind_some,Bool.not_true,cond_false,aA (by omega),cond_false]
 refine vo E aQ (fun n i=>bA.l4 N n l E E (E.length:Int) i) (fun _=>qF (fx Fq (fS l E) (jX (l.map keyOf) E))) (fun n i hi hr=> ?_) (fun n=> ?_) N (by omega)
 ·unfold bA.l4 bA.c5
  have hm:E.getD i aQ∈E:=by
   rw[List.getD_eq_getElem?_getD,List.getElem?_eq_getElem hi];exact List.getElem_mem hi
  rw[aE (by omega),cond_true,aG (by omega) (by omega),cond_true,Int.toNat_natCast,Ms,decide_eq_true (g.place _ hm),Option.bind_some,Bool.not_true,cond_false,oW,Option.bind_some,
   decide_eq_true (show yG ((E.getD i aQ).2.2.1)from(g.q _ hm).2),Bool.not_true,cond_false,al (x:=(i:Int)+1) (by omega) (by omega),ae i]
  exact hr
 ·unfold bA.l4 bA.c5
  have hf:ed N E=some true:=by
   rw[Q0 N hN (fun x hx=>(g.q x hx).1) (by omega),decide_eq_true (p:= ∀j,j<jd→CV E j) (fun j _=>g.flat (j:Int))];rfl
  rw[aA (by omega),cond_false,hf,Option.bind_some,Bool.not_true,cond_false,si N (by omega),Option.bind_some]
  exact N8 N hN (fun x hx=>(g.q x hx).1) hE (fun x hx=>CW (g.place x hx)) hs hl hlq (fun x hx=>CW (MC x hx).1)
end VM
end
section
namespace VM
open Go VM.F
def N9(a b:Nat):Nat→List cW
 |0=>[]
 |m+1=>((a:Int),(b:Int))::N9 a (b+1) m
def CX(w a:Nat):Nat→List cW
 |0=>[]
 |m+1=>N9 a 0 w++CX w (a+1) m
theorem vJ{k:cW}{a:Nat}: ∀{m b:Nat},k∈N9 a b m↔k.1=a∧(b:Int)≤k.2∧k.2<(b+m:Nat)
 |0,b=>⟨fun h=>(nomatch h),fun h=>by omega⟩
 |m+1,b=>by
  show k∈((a:Int),(b:Int))::N9 a (b+1) m↔_
  rw[List.mem_cons,vJ]
  have:k=((a:Int),(b:Int))↔k.1=a∧k.2=b:=⟨fun h=>h▸⟨rfl,rfl⟩,fun h=>Prod.ext h.1 h.2⟩
  rw[this]
  omega
theorem pW{k:cW}{w:Nat}: ∀{m a:Nat},k∈CX w a m↔(a:Int)≤k.1∧k.1<(a+m:Nat)∧0≤k.2∧k.2<w
 |0,a=>⟨fun h=>(nomatch h),fun h=>by omega⟩
 |m+1,a=>by
  show k∈N9 a 0 w++CX w (a+1) m↔_
  rw[List.mem_append,vJ,pW]
  omega
theorem G6(a:Nat): ∀(m b:Nat),uh (N9 a b m)
 |0,b=>List.Pairwise.nil
 |m+1,b=>List.pairwise_cons.2 ⟨fun k hk=>by
  have:=vJ.1 hk
  show(a:Int)<k.1∨((a:Int)=k.1∧(b:Int)<k.2)
  omega,G6 a m (b+1)⟩
theorem sX(w:Nat): ∀(m a:Nat),uh (CX w a m)
 |0,a=>List.Pairwise.nil
 |m+1,a=>List.pairwise_append.2 ⟨G6 a w 0,sX w m (a+1),fun x hx y hy=>by
  have h1:=vJ.1 hx
  have h2:=pW.1 hy
  show x.1<y.1∨(x.1=y.1∧x.2<y.2)
  omega⟩
structure Mark(l:aj)(a b p:Nat):Prop where
 le:p≤l.length
 lo: ∀x∈l.take p,pV (keyOf x) ((a:Int),(b:Int))
 hi: ∀x∈l.drop p,¬pV (keyOf x) ((a:Int),(b:Int))
theorem pX{k:cW}{a b:Nat}:pV k ((a:Int),((b+1:Nat):Int))↔pV k ((a:Int),(b:Int))∨k=((a:Int),(b:Int)):=by
 have:k=((a:Int),(b:Int))↔k.1=a∧k.2=b:=⟨fun h=>h▸⟨rfl,rfl⟩,fun h=>Prod.ext h.1 h.2⟩
 rw[this]
 show(k.1<(a:Int)∨(k.1=(a:Int)∧k.2<((b+1:Nat):Int)))↔(k.1<(a:Int)∨(k.1=(a:Int)∧k.2<(b:Int)))∨_
 omega
theorem Eu(a b:Int)(l m:aj):cE a b (l++m)=cE a b l+cE a b m:=by
 induction l with
 |nil=>rw[List.nil_append,CQ];omega
 |cons x t ih=>rw[List.cons_append,fJ,fJ,ih];omega
theorem Mark.step{l:aj}(hs:uh (l.map keyOf)){a b p:Nat}(h:Mark l a b p):
  (p<l.length∧(l.getD p aQ).1=(a:Int)∧(l.getD p aQ).2.1=(b:Int)∧cE (a:Int) (b:Int) l=eP (l.getD p aQ)∧Mark l a (b+1) (p+1))∨
  ((p<l.length→(l.getD p aQ).1=(a:Int)→(l.getD p aQ).2.1=(b:Int)→False)∧cE (a:Int) (b:Int) l=0∧Mark l a (b+1) p):=by
 have no: ∀{x:bW} {k:cW},¬keyOf x=k→ ¬(x.1=k.1∧x.2.1=k.2):=fun h e=>h (Prod.ext e.1 e.2)
 have hz:cE (a:Int) (b:Int) (l.take p)=0:=je fun x hx e=>by
  have e':keyOf x=((a:Int),(b:Int)):=Prod.ext e.1 e.2
  have:=h.lo x hx
  rw[e']at this
  exact mM this
 have Ky:cE (a:Int) (b:Int) l=cE (a:Int) (b:Int) (l.drop p):=by
  conv=>lhs;rw[←List.take_append_drop p l]
  rw[Eu,hz];omega
 by_cases hp:p<l.length
 ·have hd:=drop_cons hp aQ
  have hsd:uh ((l.drop p).map keyOf):=by
   rw[List.map_drop];exact List.Pairwise.sublist (List.drop_sublist ..) hs
  have Fs:=h.hi
  rw[hd]at hsd Fs Ky
  have hgt:=(List.pairwise_cons.1 hsd).1
  have Qd:=Fs _ (List.mem_cons_self ..)
  have ahX:l.take (p+1)=l.take p++[l.getD p aQ]:=by
   rw[←List.take_append_getElem hp,List.getD_eq_getElem?_getD,List.getElem?_eq_getElem hp];rfl
  by_cases he:keyOf (l.getD p aQ)=((a:Int),(b:Int))
  ·refine Or.inl ⟨hp,congrArg Prod.fst he,congrArg Prod.snd he,?_,by omega,fun x hx=> ?_,fun x hx hk=> ?_⟩
   ·rw[Ky,fJ,if_pos ⟨congrArg Prod.fst he,congrArg Prod.snd he⟩,je fun x hx e=> ?_]
    ·omega
    ·have hg:=hgt (keyOf x) (List.mem_map_of_mem hx)
     have e':keyOf x=((a:Int),(b:Int)):=Prod.ext e.1 e.2
     rw[he,e']at hg
     exact mM hg
   ·rw[ahX]at hx
    rcases List.mem_append.1 hx with hx|hx
    ·exact pX.2 (Or.inl (h.lo x hx))
    ·rw[List.mem_singleton.1 hx];exact pX.2 (Or.inr he)
   ·have hg:=hgt (keyOf x) (List.mem_map_of_mem hx)
    rw[he]at hg
    rcases pX.1 hk with hk|hk
    ·exact CR hg hk
    ·rw[hk]at hg;exact mM hg
  ·have gH: ∀x∈l.getD p aQ::l.drop (p+1),keyOf x≠((a:Int),(b:Int)):=fun x hx e=>by
    rcases List.mem_cons.1 hx with rfl|hx
    ·exact he e
    ·have hg:=hgt (keyOf x) (List.mem_map_of_mem hx)
     rw[e]at hg
     exact Qd hg
   refine Or.inr ⟨fun _ e1 e2=>he (Prod.ext e1 e2),?_,h.le,fun x hx=>pX.2 (Or.inl (h.lo x hx)),fun x hx hk=> ?_⟩
   ·rw[Ky]
    exact je fun x hx=>no (gH x hx)
   ·rw[hd]at hx
    rcases pX.1 hk with hk|hk
    ·exact Fs x hx hk
    ·exact gH x hx hk
 ·have hd:l.drop p=[]:=List.drop_eq_nil_of_le (by omega)
  refine Or.inr ⟨fun h=>absurd h hp,by rw[Ky,hd];rfl,h.le,fun x hx=>pX.2 (Or.inl (h.lo x hx)),fun x hx=> ?_⟩
  rw[hd]at hx;nomatch hx
end VM
end
section
namespace VM
open Go VM.F
def nL:List cW:=CX 6 0 25
theorem Oa{l E:aj}(hk:cR l=true)(hp: ∀x∈E,bR x.1 x.2.1):fx Fq (fS l E) (jX (l.map keyOf) E)=fx Fq (fS l E) nL:=by
 obtain⟨hs,MC⟩:=gR hk
 refine G0 ⟨⟨by decide,by decide⟩,by decide⟩ (ui hs) (sX 6 25 0) (fun k hk=> ?_) (fun k hk hn=> ?_)
 ·have:bR k.1 k.2:=by
   rcases jf.1 hk with h|⟨x,hx,rfl⟩
   ·obtain⟨x,hx,rfl⟩:=List.mem_map.1 h
    exact(MC x hx).1
   ·exact hp x hx
  unfold bR at this
  exact pW.2 (by omega)
 ·have h1:k∉l.map keyOf:=fun h=>hn (jf.2 (Or.inl h))
  have h2:k∉E.map keyOf:=fun h=>by
   obtain⟨x,hx,e⟩:=List.mem_map.1 h
   exact hn (jf.2 (Or.inr ⟨x,hx,e⟩))
  unfold fS
  rw[fE h1,fE h2];rfl
end VM
end
