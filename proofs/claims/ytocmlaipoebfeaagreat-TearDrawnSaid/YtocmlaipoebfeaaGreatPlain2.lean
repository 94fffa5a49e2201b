/- A part of the proof of TearDrawn of layer 29: what the functions compute, in plain words. -/
import Derived.Test.YtocmlaipoebfeaaGreatPlain1
set_option linter.all false
section
namespace VM
open Go VM.F
theorem OD(a b:bH):la (.pair (.int .i64) (.pair (.int .u64) .unit)) a b=(az a.1 b.1&&(az a.2.1 b.2.1&&true)):=rfl
theorem Sc(N:Nat){u v:Int}:Sd N (cC u) (cC v)=some (rJ (u-v)):=by
 unfold Sd
 rw[OD]
 unfold cC
 dsimp only
 unfold rJ
 rw[bP,aA,bP,Bool.and_true,fL,fL]
 have hu:u=u/18446744073709551616*18446744073709551616+u%18446744073709551616:=by omega
 have hv:v=v/18446744073709551616*18446744073709551616+v%18446744073709551616:=by omega
 by_cases h1:u/18446744073709551616<v/18446744073709551616
 ·rw[if_pos h1];congr 1;split<;>(try split)<;>omega
 ·rw[if_neg h1]
  by_cases h2:u/18446744073709551616=v/18446744073709551616
  ·rw[if_pos h2,decide_eq_true h2,Bool.true_and]
   by_cases h3:u%18446744073709551616<v%18446744073709551616
   ·rw[if_pos h3];congr 1;split<;>(try split)<;>omega
   ·rw[if_neg h3]
    by_cases h4:u%18446744073709551616=v%18446744073709551616
    ·rw[decide_eq_true h4,cond_true];congr 1;split<;>(try split)<;>omega
    ·rw[decide_eq_false h4,cond_false];congr 1;split<;>(try split)<;>omega
  ·rw[if_neg h2,decide_eq_false h2,Bool.false_and,cond_false];congr 1;split<;>(try split)<;>omega
theorem IP:cC 0=cc:=rfl
theorem uE(N:Nat){u:Int}:ZO N (cC u)=some (rJ u):=by
 unfold ZO
 rw[←IP,Sc,Option.bind_some,Int.sub_zero]
end VM
end
section
namespace VM
open Go VM.F
def dg(r:cy):Int:=r.2.2.1
def aC(x:Int):Prop:= -9223372036854775808≤x∧x<9223372036854775808
def dn(l:aj):Prop:= ∀x∈l,aC (dg x)
theorem tc{l:aj}(h:dn l)(i:Nat):aC (dg (l.getD i aS)):=by
 by_cases hi:i<l.length
 ·rw[List.getD_eq_getElem?_getD,List.getElem?_eq_getElem hi];exact h _ (List.getElem_mem hi)
 ·rw[List.getD_eq_getElem?_getD,List.getElem?_eq_none (by omega)];exact⟨by decide,by decide⟩
theorem FB{ws:List Int}(h: ∀x∈ws,aC x): -(9223372036854775808*(ws.length:Int))≤ws.sum∧ws.sum≤9223372036854775808*(ws.length:Int):=C9 ws h
theorem BP{ws:List Int}(h: ∀x∈ws,aC x)(hl:ws.length≤1000000):eg ws.sum:=by
 have:=FB h
 unfold eg;omega
theorem LZ{ws:List Int}(h: ∀x∈ws,aC x): ∀x∈ws,eg x:=fun x hx=>by
 have:=h x hx
 unfold aC at this;unfold eg;omega
theorem Df(N:Nat){ws:List Int}(h: ∀x∈ws,aC x)(hl:ws.length≤1000000)(hN:1000000<N):jt N (ws.map cC)=some (cC ws.sum,true):=by
 rw[Dd N (LZ h) hl hN]
 unfold IG
 rw[if_pos (BP h hl)]
def jx(l:aj):Int:=if e9 l then(l.map dg).sum else 0
theorem IQ(N:Nat){l:aj}(hq:dn l)(hl:l.length≤100000)(hN:2000000≤N):wV.l5 N N cc [] l (l.length:Int) 0=some (cC (l.map dg).sum):=by
 have:=nH l aS (fun n i ws=>wV.l5 N n cc (ws.map cC) l (l.length:Int) i) (fun t ws=>some (cC (ws++t.map dg).sum)) (fun i (ws:List Int)=>ws.length=i∧ ∀x∈ws,aC x)
  (fun n i ws hi hI hr=> ?_) (fun n ws hI=> ?_) l.length N 0 [] (by omega) (by omega) (by omega) ⟨rfl,fun x hx=>nomatch hx⟩
 ·simpa using this
 ·unfold wV.l5 wV.dq
  have sJ:=tc hq i
  have fa:=sJ
  unfold aC dg at fa
  rw[aD (by omega),cond_true,aG (by omega) (by omega),cond_true,Int.toNat_natCast,vG N fa.1 fa.2,Option.bind_some,ba (by rw[List.length_map,List.length_singleton];omega),cond_true,al (by omega) (by omega),aa]
  have:=hr (ws++[dg (l.getD i aS)]) ⟨by rw[List.length_append,hI.1];rfl,fun x hx=>by
   rcases List.mem_append.1 hx with hx|hx
   ·exact hI.2 x hx
   ·rw[List.mem_singleton.1 hx];exact sJ⟩
  rw[List.map_append]at this
  refine this.trans ?_
  rw[List.map_cons,List.append_assoc];rfl
 ·unfold wV.l5 wV.dq
  rw[ay (by omega),cond_false,Df N hI.2 (by omega) (by omega),Option.bind_some,List.map_nil,List.append_nil]
theorem OE(N:Nat){l:aj}(hq:dn l)(hl:l.length≤100000)(hN:2000000≤N):wV N l=some (cC (jx l)):=by
 unfold wV wV.b jx
 rw[De N hl (by omega),Option.bind_some,cond_not,IQ N hq hl hN]
 cases e9 l<;>rfl
theorem FC(N:Nat){l:aj}(hq:dn l)(hl:l.length≤100000)(hN:4000000≤N):kL.l5 N N l (cg 0) (cg 0) 0=some (cg (l.map dg).sum):=by
 have:=nH l aS (fun n i ws=>kL.l5 N n l (cg 0) (cg ws.sum) i) (fun t ws=>some (cg (ws++t.map dg).sum)) (fun i (ws:List Int)=>ws.length=i∧ ∀x∈ws,aC x)
  (fun n i ws hi hI hr=> ?_) (fun n ws hI=> ?_) l.length N 0 [] (by omega) (by omega) (by omega) ⟨rfl,fun x hx=>nomatch hx⟩
 ·simpa using this
 ·unfold kL.l5 kL.dq
  have sJ:=tc hq i
  have fa:=sJ
  unfold aC dg at fa
  have hb:=FB hI.2
  rw[hI.1]at hb
  rw[aD (by omega),cond_true,aG (by omega) (by omega),cond_true,Int.toNat_natCast,fH N (by omega) fa.1 fa.2,Option.bind_some,fT N (by omega) ((um (n:=i) (by omega) hb.1 hb.2).mono (by omega)) ((Fit.i64 fa.1 fa.2).mono (by omega)),Option.bind_some,al (by omega) (by omega),aa]
  have:=hr (ws++[dg (l.getD i aS)]) ⟨by rw[List.length_append,hI.1];rfl,fun x hx=>by
   rcases List.mem_append.1 hx with hx|hx
   ·exact hI.2 x hx
   ·rw[List.mem_singleton.1 hx];exact sJ⟩
  rw[List.sum_append,List.sum_cons,List.sum_nil,Int.add_zero]at this
  refine this.trans ?_
  rw[List.map_cons,List.append_assoc];rfl
 ·unfold kL.l5 kL.dq
  rw[ay (by omega),cond_false,List.map_nil,List.append_nil]
theorem L0(N:Nat){l:aj}(hq:dn l)(hl:l.length≤100000)(hN:4000000≤N):kL N l=some (cg (jx l)):=by
 unfold kL kL.b jx
 rw[zi N hl (by omega),Option.bind_some,cond_not]
 have:=FC N hq hl hN
 rw[gG]at this
 rw[this]
 cases e9 l
 ·rw[cond_false];exact congrArg some gG.symm
 ·rfl
end VM
end
section
namespace VM
open Go VM.F
def cU(inst:Int):aj→List Int
 |[]=>[]
 |x::t=>if x.2.1=inst then dg x::cU inst t else cU inst t
theorem dV(inst:Int)(x:cy)(t:aj):cU inst (x::t)=if x.2.1=inst then dg x::cU inst t else cU inst t:=rfl
theorem L1(N:Nat){l:aj}(hq:dn l)(hl:l.length≤100000)(hN:2000000≤N)(inst:Int):kM.l5 N N inst cc [] l (l.length:Int) 0=some (cC (cU inst l).sum):=by
 have:=nH l aS (fun n i ws=>kM.l5 N n inst cc (ws.map cC) l (l.length:Int) i) (fun t ws=>some (cC (ws++cU inst t).sum)) (fun i (ws:List Int)=>ws.length≤i∧ ∀x∈ws,aC x)
  (fun n i ws hi hI hr=> ?_) (fun n ws hI=> ?_) l.length N 0 [] (by omega) (by omega) (by omega) ⟨Nat.le_refl _,fun x hx=>nomatch hx⟩
 ·simpa using this
 ·unfold kM.l5 kM.dq
  have sJ:=tc hq i
  have fa:=sJ
  unfold aC dg at fa
  rw[aD (by omega),cond_true,aG (by omega) (by omega),cond_true,Int.toNat_natCast,vG N fa.1 fa.2,Option.bind_some,ba (by rw[List.length_map,List.length_singleton];omega),cond_true,al (by omega) (by omega),aa,aA,dV]
  split
  ·have:=hr (ws++[dg (l.getD i aS)]) ⟨by rw[List.length_append,List.length_singleton];omega,fun x hx=>by
    rcases List.mem_append.1 hx with hx|hx
    ·exact hI.2 x hx
    ·rw[List.mem_singleton.1 hx];exact sJ⟩
   rw[List.map_append]at this
   refine this.trans ?_
   rw[List.append_assoc];rfl
  ·exact hr ws ⟨by omega,hI.2⟩
 ·unfold kM.l5 kM.dq
  rw[ay (by omega),cond_false,Df N hI.2 (by omega) (by omega),Option.bind_some]
  show _=some (cC (ws++[]).sum)
  rw[List.append_nil]
def rM(l:aj)(inst:Int):Int:=if cR l then(cU inst l).sum else 0
theorem Se(N:Nat){l:aj}(hq:dn l)(hl:l.length≤100000)(hN:2000000≤N)(inst:Int):kM N l inst=some (cC (rM l inst)):=by
 unfold kM kM.b rM
 rw[ux N hl (by omega),Option.bind_some,cond_not,L1 N hq hl hN]
 cases cR l<;>rfl
theorem IS(N:Nat){l:aj}(hq:dn l)(hl:l.length≤100000)(hN:4000000≤N)(inst:Int):kN.l5 N N l inst (cg 0) (cg 0) 0=some (cg (cU inst l).sum):=by
 have:=nH l aS (fun n i ws=>kN.l5 N n l inst (cg 0) (cg ws.sum) i) (fun t ws=>some (cg (ws++cU inst t).sum)) (fun i (ws:List Int)=>ws.length≤i∧ ∀x∈ws,aC x)
  (fun n i ws hi hI hr=> ?_) (fun n ws hI=> ?_) l.length N 0 [] (by omega) (by omega) (by omega) ⟨Nat.le_refl _,fun x hx=>nomatch hx⟩
 ·simpa using this
 ·unfold kN.l5 kN.dq
  have sJ:=tc hq i
  have fa:=sJ
  unfold aC dg at fa
  have hb:=FB hI.2
  rw[aD (by omega),cond_true,aG (by omega) (by omega),cond_true,cond_true,Int.toNat_natCast,fH N (by omega) fa.1 fa.2,Option.bind_some,fT N (by omega) ((um (n:=ws.length) (by omega) hb.1 hb.2).mono (by omega)) ((Fit.i64 fa.1 fa.2).mono (by omega)),Option.bind_some,al (by omega) (by omega),aa,aA,dV]
  split
  ·have:=hr (ws++[dg (l.getD i aS)]) ⟨by rw[List.length_append,List.length_singleton];omega,fun x hx=>by
    rcases List.mem_append.1 hx with hx|hx
    ·exact hI.2 x hx
    ·rw[List.mem_singleton.1 hx];exact sJ⟩
   rw[List.sum_append,List.sum_cons,List.sum_nil,Int.add_zero]at this
   refine this.trans ?_
   rw[List.append_assoc];rfl
  ·exact hr ws ⟨by omega,hI.2⟩
 ·unfold kN.l5 kN.dq
  rw[ay (by omega),cond_false]
  show _=some (cg (ws++[]).sum)
  rw[List.append_nil]
theorem FD(N:Nat){l:aj}(hq:dn l)(hl:l.length≤100000)(hN:4000000≤N)(inst:Int):kN N l inst=some (cg (rM l inst)):=by
 unfold kN kN.b rM
 rw[mo N hl (by omega),Option.bind_some,cond_not]
 have:=IS N hq hl hN inst
 rw[gG]at this
 rw[this]
 cases cR l
 ·rw[cond_false];exact congrArg some gG.symm
 ·rfl
def qV(l:aj)(i:Nat):Prop:=eG (rM l (i:Int)) 0
instance(l:aj):DecidablePred (qV l):=fun i=>by unfold qV;infer_instance
def gZ:Nat:=6
def qW(l:aj):Bool:=decide (∀j,j<gZ→qV l j)&&cR l
theorem kO{x:Int}:rJ x=0↔x=0:=by unfold rJ;split<;>(try split)<;>omega
theorem Sf(N:Nat){l:aj}(hq:dn l)(hl:l.length≤100000)(hN:2000000≤N):xF N l=some (qW l):=by
 unfold xF xF.b
 refine e7 (len:=gZ) (F:=fun n i=>xF.l2 N n l i) (qV l) (fun n i r hi hp hr=> ?_) (fun n=> ?_) N (by unfold gZ;omega)
 ·unfold xF.l2 xF.eu
  unfold gZ at hi
  rw[aD (by omega),cond_true,Se N hq hl hN,Option.bind_some,uE,Option.bind_some,cond_not,aA,al (by omega) (by omega),aa,hr]
  by_cases hP:qV l i
  ·rw[if_pos hP,if_pos (kO.2 hP)]
  ·rw[if_neg hP,if_neg (fun h=>hP (kO.1 h))]
 ·unfold xF.l2 xF.eu
  rw[ay (by unfold gZ;omega),cond_false,ux N hl (by omega),Option.bind_some]
theorem OF(N:Nat){l:aj}(hq:dn l)(hl:l.length≤100000)(hN:4000000≤N):lx N l=some (qW l):=by
 unfold lx lx.b
 refine e7 (len:=gZ) (F:=fun n i=>lx.l2 N n l i) (qV l) (fun n i r hi hp hr=> ?_) (fun n=> ?_) N (by unfold gZ;omega)
 ·unfold lx.l2 lx.eu
  unfold gZ at hi
  rw[aD (by omega),cond_true,FD N hq hl hN,Option.bind_some,ph,Option.bind_some,cond_not,aA,al (by omega) (by omega),aa,hr]
  by_cases hP:qV l i
  ·rw[if_pos hP,if_pos (kO.2 hP)]
  ·rw[if_neg hP,if_neg (fun h=>hP (kO.1 h))]
 ·unfold lx.l2 lx.eu
  rw[ay (by unfold gZ;omega),cond_false,mo N hl (by omega),Option.bind_some]
end VM
end
section
namespace VM
open Go VM.F
def iy(m:ax)(a:aE)(l:aj)(i:Nat):Prop:=
 (eG (l.getD i aS).1 5→(jw a (l.getD i aS).2.1).2=true)∧(eG (l.getD i aS).1 6∨eG (l.getD i aS).1 7→ ¬eG (mT m (l.getD i aS).2.1) 0)
instance(m:ax)(a:aE)(l:aj):DecidablePred (iy m a l):=fun i=>by unfold iy;infer_instance
theorem IT(N:Nat)(b:ah)(hl:b.2.1.length≤100000)(hN:200000≤N)(id:Int):F82 N b id=some (jw b.2.1 id).2:=by
 unfold F82
 rw[Sa N hl hN,Option.bind_some]
theorem L4{k:Int}{f:Bool}{z:Int}{r:Option Bool}:cond (az k 5) (cond (!f) (some false) r) (cond (az k 6) (cond (az z 0) (some false) r) (cond (az k 7) (cond (az z 0) (some false) r) r))=
  if(eG k 5→f=true)∧(eG k 6∨eG k 7→ ¬eG z 0)then r else some false:=by
 unfold eG
 rw[aA,aA,aA,aA,cond_not]
 by_cases h5:k=5
 ·have h6: ¬(k=6):=by omega
  have h7: ¬(k=7):=by omega
  cases f<;>simp[h5,h6,h7]
 ·by_cases h6:k=6
  ·by_cases hz:z=0<;>simp[h5,h6,hz]
  ·by_cases h7:k=7
   ·by_cases hz:z=0<;>simp[h5,h6,h7,hz]
   ·simp[h5,h6,h7]
theorem A8(N:Nat)(hN:200000≤N)(c:ae)(b:ah)(hm:b.1.length≤100000)(ha:b.2.1.length≤100000)(hl:b.2.2.1.length≤100000){e:Bool}
  (he:ik.su N N c b b.2.2.2.1 (b.2.2.2.1.length:Int) 0=some e):ik.l4 N N c b b.2.2.1 (b.2.2.1.length:Int) 0=some (decide (∀j,j<b.2.2.1.length→iy b.1 b.2.1 b.2.2.1 j)&&e):=by
 refine e7 (F:=fun n i=>ik.l4 N n c b b.2.2.1 (b.2.2.1.length:Int) i) (iy b.1 b.2.1 b.2.2.1) (fun n i r hi hp hr=> ?_) (fun n=> ?_) N (by omega)
 ·unfold ik.l4 ik.cn
  rw[aD (by omega),cond_true,aG (by omega) (by omega),cond_true,Int.toNat_natCast,al (x:=(i:Int)+1) (by omega) (by omega),aa,hr]
  simp only[IT N b ha hN,BO N hm hN,Option.bind_some]
  rw[L4]
  rfl
 ·unfold ik.l4 ik.cn
  rw[ay (by omega),cond_false];exact he
def OG(a b:Int):Prop:=a<b
instance(a b:Int):Decidable (OG a b):=by unfold OG;infer_instance
def gJ(c:ae)(a:aE)(l:aj)(i:Nat):Prop:=
 (eG (l.getD i aS).1 0∨(jw a (l.getD i aS).1).2=true)∧OG (l.getD i aS).2.1 c.1.length
instance(c:ae)(a:aE)(l:aj):DecidablePred (gJ c a l):=fun i=>by unfold gJ;infer_instance
theorem OH{k x n:Int}{f:Bool}{r:Option Bool}:cond (!az k 0) (cond (!f) (some false) (cond (bV n x) (some false) r)) (cond (bV n x) (some false) r)=if(eG k 0∨f=true)∧OG x n then r else some false:=by
 unfold eG OG
 rw[cond_not,aA,bL,cond_not]
 by_cases h0:k=0
 ·by_cases hx:n≤x
  ·have: ¬x<n:=by omega
   simp[h0,hx,this]
  ·have:x<n:=by omega
   simp[h0,hx,this]
 ·by_cases hx:n≤x
  ·have: ¬x<n:=by omega
   cases f<;>simp[h0,hx,this]
  ·have:x<n:=by omega
   cases f<;>simp[h0,hx,this]
theorem Dg(N:Nat)(hN:200000≤N)(c:ae)(b:ah)(ha:b.2.1.length≤100000)(hl:b.2.2.2.1.length≤100000){e:Bool}
  (he:ik.sv N N c b b.2.2.2.2.2.1 (b.2.2.2.2.2.1.length:Int) 0=some e):ik.su N N c b b.2.2.2.1 (b.2.2.2.1.length:Int) 0=some (decide (∀j,j<b.2.2.2.1.length→gJ c b.2.1 b.2.2.2.1 j)&&e):=by
 refine e7 (F:=fun n i=>ik.su N n c b b.2.2.2.1 (b.2.2.2.1.length:Int) i) (gJ c b.2.1 b.2.2.2.1) (fun n i r hi hp hr=> ?_) (fun n=> ?_) N (by omega)
 ·unfold ik.su ik.qX
  rw[aD (by omega),cond_true,aG (by omega) (by omega),cond_true,Int.toNat_natCast,al (x:=(i:Int)+1) (by omega) (by omega),aa,hr]
  simp only[IT N b ha hN,Option.bind_some]
  rw[OH]
  rfl
 ·unfold ik.su ik.qX
  rw[ay (by omega),cond_false];exact he
end VM
end
section
namespace VM
open Go VM.F
def n5(l:List Int)(i:Nat):Prop:=1≤l.getD i 0∧l.getD i 0≤1000000000000
instance(l:List Int):DecidablePred (n5 l):=fun i=>by unfold n5;infer_instance
def gp(l:List Int):Bool:=decide (∀j,j<l.length→n5 l j)
theorem ZP(N:Nat)(p:Int):F84 N p=some (!decide (1≤p∧p≤1000000000000)):=by
 unfold F84
 rw[BN,Option.bind_some]
theorem zo(N:Nat){l:List Int}(hl:l.length≤100000): ∀(m n i:Nat),l.length-i≤m→m<n→i≤l.length→(∀j,j<i→n5 l j)→
  ∃r,nI.l2 N n l () (l.length:Int) (i:Int)=some r∧(bV 0 r= !gp l)
 |m,0,i,_,hn,_,_=>by omega
 |m,n+1,i,hm,hn,hi,hp=>by
  unfold nI.l2 nI.eu
  by_cases h:i<l.length
  ·rw[aD (by omega),cond_true,aG (by omega) (by omega),cond_true,Int.toNat_natCast,ZP,Option.bind_some,cond_not,ed]
   by_cases hP:n5 l i
   ·have hP':=hP
    unfold n5 at hP'
    rw[if_pos hP',al (by omega) (by omega)]
    exact zo N hl (m-1) n (i+1) (by omega) (by omega) (by omega) (fun j hj=>by
     by_cases sX:j=i
     ·subst sX;exact hP
     ·exact hp j (by omega))
   ·have hP':=hP
    unfold n5 at hP'
    rw[if_neg hP']
    refine⟨_,rfl,?_⟩
    rw[cB (by omega)]
    unfold gp
    rw[decide_eq_false (fun h'=>hP (h' i h))];rfl
  ·rw[ay (by omega),cond_false]
   refine⟨_,rfl,?_⟩
   rw[cv (by omega)]
   unfold gp
   rw[decide_eq_true (fun j hj=>hp j (by omega))];rfl
theorem L7(N:Nat){l:List Int}(hl:l.length≤100000)(hN:200000≤N):F83 N l ()=some (!gp l):=by
 unfold F83 nI nI.b
 obtain⟨r,e,h⟩:=zo N hl l.length N 0 (by omega) (by omega) (by omega) (fun j hj=>absurd hj (by omega))
 rw[show((0:Nat):Int)=0 from rfl]at e
 rw[e,Option.bind_some,h]
def lQ(c:ae)(a:aE)(l:a6)(i:Nat):Prop:=
 (jw a (l.getD i eB).2.1).2=true∧OG (l.getD i eB).2.2.1 c.1.length
instance(c:ae)(a:aE)(l:a6):DecidablePred (lQ c a l):=fun i=>by unfold lQ;infer_instance
theorem zp{x n:Int}{f:Bool}{r:Option Bool}:cond (!f) (some false) (cond (bV n x) (some false) r)=if f=true∧OG x n then r else some false:=by
 unfold OG
 rw[bL,cond_not]
 by_cases hx:n≤x
 ·have: ¬x<n:=by omega
  cases f<;>simp[hx,this]
 ·have:x<n:=by omega
  cases f<;>simp[hx,this]
theorem Dh(N:Nat)(hN:200000≤N)(c:ae)(b:ah)(ha:b.2.1.length≤100000)(hl:b.2.2.2.2.2.1.length≤100000)(hp:b.2.2.2.2.1.length≤100000):
  ik.sv N N c b b.2.2.2.2.2.1 (b.2.2.2.2.2.1.length:Int) 0=some (decide (∀j,j<b.2.2.2.2.2.1.length→lQ c b.2.1 b.2.2.2.2.2.1 j)&&gp b.2.2.2.2.1):=by
 refine e7 (F:=fun n i=>ik.sv N n c b b.2.2.2.2.2.1 (b.2.2.2.2.2.1.length:Int) i) (lQ c b.2.1 b.2.2.2.2.2.1) (fun n i r hi Bm hr=> ?_) (fun n=> ?_) N (by omega)
 ·unfold ik.sv ik.qY
  rw[aD (by omega),cond_true,aG (by omega) (by omega),cond_true,Int.toNat_natCast,al (x:=(i:Int)+1) (by omega) (by omega),aa,hr]
  simp only[IT N b ha hN,Option.bind_some]
  rw[zp]
  rfl
 ·unfold ik.sv ik.qY
  rw[ay (by omega),cond_false,L7 N hp hN,Option.bind_some,Bool.not_not]
def db(c:ae)(b:ah):Bool:=
 fu c&&(qU b.1 b.2.1&&(e9 b.2.2.1&&(decide (eG (jx b.2.2.1) 0)&&(qW b.2.2.2.1&&(ju b.2.2.2.2.2.1&&(decide (eG b.2.2.2.2.1.length c.1.length)&&
  (decide (∀j,j<b.2.2.1.length→iy b.1 b.2.1 b.2.2.1 j)&&(decide (∀j,j<b.2.2.2.1.length→gJ c b.2.1 b.2.2.2.1 j)&&(decide (∀j,j<b.2.2.2.2.2.1.length→lQ c b.2.1 b.2.2.2.2.2.1 j)&&gp b.2.2.2.2.1)))))))))
structure ly(b:ah):Prop where
 m:b.1.length≤100000
 a:b.2.1.length≤100000
 r:b.2.2.1.length≤100000
 s:b.2.2.2.1.length≤100000
 p:b.2.2.2.2.1.length≤100000
 o:b.2.2.2.2.2.1.length≤100000
 qr:dn b.2.2.1
 qs:dn b.2.2.2.1
theorem kP{x:Bool}{r:Option Bool}{y:Bool}(h:r=some y):cond (!x) (some false) r=some (x&&y):=by subst h;cases x<;>rfl
theorem Kv(N:Nat)(hN:4000000≤N){c:ae}{b:ah}(w:ly b):ik N c b=some (db c b):=by
 unfold ik ik.b db
 rw[R7 N (by omega),Option.bind_some]
 refine kP ?_
 rw[Sb N w.m w.a (by omega),Option.bind_some]
 refine kP ?_
 rw[De N w.r (by omega),Option.bind_some]
 refine kP ?_
 rw[OE N w.qr w.r (by omega),Option.bind_some,uE,Option.bind_some]
 have e0:az (rJ (jx b.2.2.1)) 0=decide (eG (jx b.2.2.1) 0):=by rw[fL,decide_eq_decide];exact kO
 rw[e0]
 refine kP ?_
 rw[Sf N w.qs w.s (by omega),Option.bind_some]
 refine kP ?_
 rw[LW N w.o (by omega),Option.bind_some]
 refine kP ?_
 rw[fL]
 refine kP ?_
 exact A8 N (by omega) c b w.m w.a w.r (Dg N (by omega) c b w.a w.s (Dh N (by omega) c b w.a w.o w.p))
end VM
end
section
namespace VM
open Go VM.F
theorem uF(N:Nat)(b:ah)(hl:b.2.1.length≤100000)(hN:200000≤N)(id:Int):Di N b id=some ((jw b.2.1 id).2||decide (eG id 0)):=by
 unfold Di
 rw[FA N hl hN,Option.bind_some,fL]
 cases(jw b.2.1 id).2<;>rfl
theorem IU{k:Int}{f:Bool}{z:Int}{r:Option Bool}:cond (az k 5) (cond (!f) (some false) (cond (az k 6) (cond (az z 0) (some false) r) (cond (az k 7) (cond (az z 0) (some false) r) r))) (cond (az k 6) (cond (az z 0) (some false) r) (cond (az k 7) (cond (az z 0) (some false) r) r))=
  if(eG k 5→f=true)∧(eG k 6∨eG k 7→ ¬eG z 0)then r else some false:=by
 unfold eG
 rw[aA,aA,aA,aA,cond_not]
 by_cases h5:k=5
 ·have h6: ¬(k=6):=by omega
  have h7: ¬(k=7):=by omega
  cases f<;>simp[h5,h6,h7]
 ·by_cases h6:k=6
  ·by_cases hz:z=0<;>simp[h5,h6,hz]
  ·by_cases h7:k=7
   ·by_cases hz:z=0<;>simp[h5,h6,h7,hz]
   ·simp[h5,h6,h7]
theorem A9(N:Nat)(hN:200000≤N)(c:ae)(b:ah)(ha:b.2.1.length≤100000)(hl:b.2.2.2.2.2.1.length≤100000)(ho:ju b.2.2.2.2.2.1=true):
  bD.sv N N c b 0=some (decide (∀j,j<b.2.2.2.2.2.1.length→lQ c b.2.1 b.2.2.2.2.2.1 j)&&true):=by
 refine e7 (F:=fun n i=>bD.sv N n c b i) (lQ c b.2.1 b.2.2.2.2.2.1) (fun n i r hi Bm hr=> ?_) (fun n=> ?_) N (by omega)
 ·unfold bD.sv bD.qY
  unfold ju at ho
  rw[Bool.and_eq_true,decide_eq_true_iff]at ho
  have h1:=(ho.1 i hi).1
  unfold qT s9 at h1
  have h2:decide (eG (b.2.2.2.2.2.1.getD i eB).2.1 0)=false:=decide_eq_false (by unfold eG;omega)
  rw[aD (by omega),cond_true,aG (by omega) (by omega),cond_true,Int.toNat_natCast,al (x:=(i:Int)+1) (by omega) (by omega),aa,hr]
  simp only[uF N b ha hN,Option.bind_some,cond_true]
  rw[h2,Bool.or_false,zp]
  rfl
 ·unfold bD.sv bD.qY
  rw[ay (by omega),cond_false]
theorem xG(N:Nat)(hN:200000≤N)(c:ae)(b:ah)(hl:b.2.2.2.2.1.length≤100000){e:Bool}(he:bD.sv N N c b 0=some e):
  bD.Fe N N c b 0=some (gp b.2.2.2.2.1&&e):=by
 refine e7 (F:=fun n i=>bD.Fe N n c b i) (n5 b.2.2.2.2.1) (fun n i r hi Bm hr=> ?_) (fun n=> ?_) N (by omega)
 ·unfold bD.Fe bD.Ff
  rw[aD (by omega),cond_true,aG (by omega) (by omega),cond_true,Int.toNat_natCast,al (x:=(i:Int)+1) (by omega) (by omega),aa,hr,iT,Option.bind_some,cond_not,ed]
  rfl
 ·unfold bD.Fe bD.Ff
  rw[ay (by omega),cond_false];exact he
theorem Ba(N:Nat)(hN:200000≤N)(c:ae)(b:ah)(ha:b.2.1.length≤100000)(hl:b.2.2.2.1.length≤100000){e:Bool}(he:bD.Fe N N c b 0=some e):
  bD.nA N N c b 0=some (decide (∀j,j<b.2.2.2.1.length→gJ c b.2.1 b.2.2.2.1 j)&&e):=by
 refine e7 (F:=fun n i=>bD.nA N n c b i) (gJ c b.2.1 b.2.2.2.1) (fun n i r hi Bm hr=> ?_) (fun n=> ?_) N (by omega)
 ·unfold bD.nA bD.lR
  rw[aD (by omega),cond_true,aG (by omega) (by omega),cond_true,Int.toNat_natCast,al (x:=(i:Int)+1) (by omega) (by omega),aa,hr]
  simp only[uF N b ha hN,Option.bind_some,cond_true]
  rw[zp]
  have OI:((((jw b.2.1 (b.2.2.2.1.getD i aS).1).2||decide (eG (b.2.2.2.1.getD i aS).1 0))=true)∧OG (b.2.2.2.1.getD i aS).2.1 c.1.length)↔gJ c b.2.1 b.2.2.2.1 i:=by
   unfold gJ
   rw[Bool.or_eq_true,decide_eq_true_iff]
   exact⟨fun h=>⟨h.1.symm,h.2⟩,fun h=>⟨h.1.symm,h.2⟩⟩
  by_cases hP:gJ c b.2.1 b.2.2.2.1 i
  ·rw[if_pos hP,if_pos (OI.2 hP)]
  ·rw[if_neg hP,if_neg (fun h=>hP (OI.1 h))]
 ·unfold bD.nA bD.lR
  rw[ay (by omega),cond_false];exact he
theorem zq(N:Nat)(hN:200000≤N)(c:ae)(b:ah)(hm:b.1.length≤100000)(ha:b.2.1.length≤100000)(hl:b.2.2.1.length≤100000)(hk:e9 b.2.2.1=true){e:Bool}
  (he:bD.nA N N c b 0=some e):bD.l6 N N c b 0=some (decide (∀j,j<b.2.2.1.length→iy b.1 b.2.1 b.2.2.1 j)&&e):=by
 refine e7 (F:=fun n i=>bD.l6 N n c b i) (iy b.1 b.2.1 b.2.2.1) (fun n i r hi Bm hr=> ?_) (fun n=> ?_) N (by omega)
 ·unfold bD.l6 bD.ow
  unfold e9 at hk
  rw[Bool.and_true,decide_eq_true_iff]at hk
  have h1:=(hk i hi).1
  rw[aD (by omega),cond_true,aG (by omega) (by omega),cond_true,Int.toNat_natCast,al (x:=(i:Int)+1) (by omega) (by omega),aa,hr]
  simp only[uF N b ha hN,zl N hm hN,Option.bind_some]
  rw[IU]
  have OI:((eG (b.2.2.1.getD i aS).1 5→((jw b.2.1 (b.2.2.1.getD i aS).2.1).2||decide (eG (b.2.2.1.getD i aS).2.1 0))=true)∧(eG (b.2.2.1.getD i aS).1 6∨eG (b.2.2.1.getD i aS).1 7→ ¬eG (mT b.1 (b.2.2.1.getD i aS).2.1) 0))↔iy b.1 b.2.1 b.2.2.1 i:=by
   unfold iy
   refine and_congr_left fun _=>imp_congr_right fun h5=> ?_
   rw[Bool.or_eq_true,decide_eq_true_iff]
   refine⟨fun h=>h.elim id fun h0=> ?_,.inl⟩
   unfold eS at h1;unfold eG at h5 h0;omega
  by_cases hP:iy b.1 b.2.1 b.2.2.1 i
  ·rw[if_pos hP,if_pos (OI.2 hP)]
  ·rw[if_neg hP,if_neg (fun h=>hP (OI.1 h))]
 ·unfold bD.l6 bD.ow
  rw[ay (by omega),cond_false];exact he
end VM
end
section
namespace VM
open Go VM.F
theorem ki{x:Bool}{r:Option Bool}{y:Bool}(h:x=true→r=some y):cond (!x) (some false) r=some (x&&y):=by
 cases x
 ·rfl
 ·exact h rfl
theorem zr(N:Nat)(hN:5000000≤N){c:ae}{b:ah}(w:ly b):bD N c b=some (db c b):=by
 unfold bD bD.b
 rw[mS N (by omega),Option.bind_some]
 have e0:az (rJ (jx b.2.2.1)) 0=decide (eG (jx b.2.2.1) 0):=by rw[fL,decide_eq_decide];exact kO
 refine(ki fun _=> ?_).trans (congrArg some (?_:(fu c&&(qU b.1 b.2.1&&(e9 b.2.2.1&&(qW b.2.2.2.1&&(ju b.2.2.2.2.2.1&&(decide (eG b.2.2.2.2.1.length c.1.length)&&(decide (eG (jx b.2.2.1) 0)&&
  (decide (∀j,j<b.2.2.1.length→iy b.1 b.2.1 b.2.2.1 j)&&(decide (∀j,j<b.2.2.2.1.length→gJ c b.2.1 b.2.2.2.1 j)&&(gp b.2.2.2.2.1&&(decide (∀j,j<b.2.2.2.2.2.1.length→lQ c b.2.1 b.2.2.2.2.2.1 j)&&true)))))))))))=db c b))
 ·rw[zn N w.m w.a (by omega),Option.bind_some]
  refine ki fun _=> ?_
  rw[zi N w.r (by omega),Option.bind_some]
  refine ki fun hk=> ?_
  rw[OF N w.qs w.s (by omega),Option.bind_some]
  refine ki fun _=> ?_
  rw[ke N w.o (by omega),Option.bind_some]
  refine ki fun ho=> ?_
  rw[fL]
  refine ki fun _=> ?_
  rw[L0 N w.qr w.r (by omega),Option.bind_some,ph,Option.bind_some,e0]
  refine ki fun _=> ?_
  exact zq N (by omega) c b w.m w.a w.r hk (Ba N (by omega) c b w.a w.s (xG N (by omega) c b w.p (A9 N (by omega) c b w.a w.o ho)))
 ·unfold db
  generalize fu c=x1,qU b.1 b.2.1=x2,e9 b.2.2.1=x3,qW b.2.2.2.1=x4,ju b.2.2.2.2.2.1=x5,decide (eG b.2.2.2.2.1.length c.1.length)=x6,decide (eG (jx b.2.2.1) 0)=x7,decide (∀j,j<b.2.2.1.length→iy b.1 b.2.1 b.2.2.1 j)=x8,decide (∀j,j<b.2.2.2.1.length→gJ c b.2.1 b.2.2.2.1 j)=x9,gp b.2.2.2.2.1=aQ,decide (∀j,j<b.2.2.2.2.2.1.length→lQ c b.2.1 b.2.2.2.2.2.1 j)=aI
  rw[Bool.and_true]
  cases x1<;>cases x2<;>cases x3<;>cases x4<;>cases x5<;>cases x6<;>cases x7<;>try rfl
  cases x8<;>cases x9<;>cases aQ<;>cases aI<;>rfl
end VM
end
section
namespace VM
open Go VM.F
def qZ(a q n:Int)(i:Nat)(p:Int):Prop:=0≤a∧a<n∧q≠0∧ox q∧(0<i→p<a)
instance(a q n:Int)(i:Nat)(p:Int):Decidable (qZ a q n i p):=by unfold qZ;infer_instance
def q3(c:ae)(l:ax)(i:Nat):Prop:=qZ (l.getD i cc).1 (l.getD i cc).2.1 c.1.length i (l.getD (i-1) cc).1
instance(c:ae)(l:ax):DecidablePred (q3 c l):=fun i=>by unfold q3;infer_instance
def Dj(c:ae)(l:ax):Bool:=decide (∀j,j<l.length→q3 c l j)&&fu c
end VM
end
section
namespace VM
open Go VM.F
theorem uG(N:Nat)(hN:200000≤N)(c:ae){l:ax}(hl:l.length≤100000):jy N c l=some (Dj c l):=by
 unfold jy jy.b
 rw[mS N (by omega),Option.bind_some]
 have hsc:=e7 (F:=fun n i=>jy.l4 N n l c i) (e:=true) (q3 c l) (fun n i r hi hp hr=> ?_) (fun n=> ?_) N (show l.length<N by omega)
 ·rw[kP hsc];unfold Dj
  rw[Bool.and_true,Bool.and_comm]
 ·unfold jy.l4 jy.cn
  rw[aD (by omega),cond_true,aG (by omega) (by omega),cond_true,Int.toNat_natCast,al (x:=(i:Int)+1) (by omega) (by omega),aa,hr]
  by_cases h0:0<i
  ·have e:W .i64 ((i:Int)-1)=((i-1:Nat):Int):=by rw[al (by omega) (by omega)];omega
   dsimp only
   rw[aD (x:=0) (y:=(i:Int)) (by omega),e,Int.toNat_natCast,aG (i:=((i-1:Nat):Int)) (by omega) (by omega)]
   simp only[bP,bL,aA,cond_true]
   by_cases hP:q3 c l i
   ·rw[if_pos hP];unfold q3 qZ at hP
    rw[if_neg (by omega),if_neg (by omega),if_neg hP.2.2.1,if_neg (show ¬((l.getD i cc).2.1:Int)= -9223372036854775808 from hP.2.2.2.1),if_neg (by omega)]
   ·rw[if_neg hP];unfold q3 qZ at hP
    have h2:=fun h1 h2 h3 h4 h5=>hP ⟨h1,h2,h3,h4,h5⟩
    repeat' split
    all_goals first|rfl|(exfalso;exact h2 (by omega) (by omega) (by assumption) (by assumption) (by omega))
  ·rw[ay (x:=0) (y:=(i:Int)) (by omega)]
   simp only[bP,bL,aA,cond_true,cond_false]
   by_cases hP:q3 c l i
   ·rw[if_pos hP];unfold q3 qZ at hP
    rw[if_neg (by omega),if_neg (by omega),if_neg hP.2.2.1,if_neg (show ¬((l.getD i cc).2.1:Int)= -9223372036854775808 from hP.2.2.2.1)]
   ·rw[if_neg hP];unfold q3 qZ at hP
    have h2:=fun h1 h2 h3 h4 h5=>hP ⟨h1,h2,h3,h4,h5⟩
    repeat' split
    all_goals first|rfl|(exfalso;exact h2 (by omega) (by omega) (by assumption) (by assumption) (by omega))
 ·unfold jy.l4 jy.cn
  rw[ay (by omega),cond_false]
end VM
end
section
namespace VM
open Go VM.F
def Dl(a b c d:Int):Prop:=(1≤a∧a≤1099511627776)∧(1≤b∧b≤1099511627776)∧(1≤c∧c≤12)∧(-1152921504606846976≤d∧d≤1152921504606846976)
instance(a b c d:Int):Decidable (Dl a b c d):=by unfold Dl;infer_instance
def BQ(x:bR):Prop:=Dl x.1 x.2.1 x.2.2.1 x.2.2.2.1
instance(x:bR):Decidable (BQ x):=by unfold BQ;infer_instance
theorem Kw(N:Nat)(x:bR):OJ N x=some (decide (BQ x)):=by
 unfold OJ
 rw[jV x.2.2.2.1]
 repeat rw[eh]
 congr 1
 rw[Bool.eq_iff_iff,decide_eq_true_iff]
 unfold BQ Dl
 simp only[Bool.and_eq_true,decide_eq_true_eq]
 omega
end VM
end
section
namespace VM
open Go VM.F
def mU(m lot:Int)(x:bR):Bool:=decide (eG x.2.2.1 m)&&decide (eG x.2.1 lot)
end VM
end
section
namespace VM
open Go VM.F
def uH(l:aE)(i:Nat):Prop:=BQ (l.getD i aN)∧oP i (l.getD (i-1) aN).1 (l.getD i aN).1∧(l.take i).any (mU (l.getD i aN).2.2.1 (l.getD i aN).2.1)=false
instance(l:aE):DecidablePred (uH l):=fun i=>by unfold uH;infer_instance
def OK(l:aE):Bool:=decide (∀j,j<l.length→uH l j)&&decide (l.length≤40)
end VM
end
section
namespace VM
open Go VM.F
def bY(a b:Int):aj→List Int
 |[]=>[]
 |x::t=>if x.1=a∧x.2.1=b then dg x::bY a b t else bY a b t
theorem c5(a b:Int)(x:cy)(t:aj):bY a b (x::t)=if x.1=a∧x.2.1=b then dg x::bY a b t else bY a b t:=rfl
def bN(a b:Int)(l:aj):Int:=(bY a b l).sum
theorem L8(a b:Int):bN a b []=0:=rfl
theorem gq(a b:Int)(x:cy)(t:aj):bN a b (x::t)=(if x.1=a∧x.2.1=b then dg x else 0)+bN a b t:=by
 unfold bN
 rw[c5]
 split
 ·rw[List.sum_cons]
 ·omega
theorem iK{a b:Int}: ∀{l:aj},(∀x∈l,¬(x.1=a∧x.2.1=b))→bN a b l=0
 |[],_=>rfl
 |x::t,h=>by
  rw[gq,if_neg (h x (List.mem_cons_self ..)),iK (fun y hy=>h y (List.mem_cons_of_mem _ hy))];rfl
abbrev cH:=Int×Int
def oy(x y:cH):Prop:=iS x.1 x.2 y.1 y.2
instance(x y:cH):Decidable (oy x y):=by unfold oy;infer_instance
def keyOf(x:cy):cH:=(x.1,x.2.1)
def rN(K:List cH):Prop:=K.Pairwise oy
theorem lS{x:cH}(h:oy x x):False:=by unfold oy iS at h;omega
theorem BR{x y:cH}(h:oy x y)(k:oy y x):False:=by unfold oy iS at*;omega
theorem rO{x y z:cH}(h:oy x y)(k:oy y z):oy x z:=by unfold oy iS at*;omega
theorem Kx(x y:cH):oy x y∨x=y∨oy y x:=by
 have:(x.1=y.1∧x.2=y.2)→x=y:=fun h=>Prod.ext h.1 h.2
 unfold oy iS
 by_cases h1:x.1=y.1
 ·by_cases h2:x.2=y.2
  ·exact Or.inr (Or.inl (this ⟨h1,h2⟩))
  ·omega
 ·omega
theorem Ky: ∀{a b:List cH},rN a→rN b→(∀x,x∈a↔x∈b)→a=b
 |[],[],_,_,_=>rfl
 |[],y::t,_,_,h=>nomatch (h y).2 (List.mem_cons_self ..)
 |x::s,[],_,_,h=>nomatch (h x).1 (List.mem_cons_self ..)
 |x::s,y::t,ha,hb,h=>by
  obtain⟨XV,ha2⟩:=List.pairwise_cons.1 ha
  obtain⟨jI,so⟩:=List.pairwise_cons.1 hb
  have hxy:x=y:=by
   rcases List.mem_cons.1 ((h x).1 (List.mem_cons_self ..))with e|e
   ·exact e
   ·rcases List.mem_cons.1 ((h y).2 (List.mem_cons_self ..))with f|f
    ·exact f.symm
    ·exact(BR (XV y f) (jI x e)).elim
  subst hxy
  rw[Ky ha2 so fun z=>⟨fun hz=> ?_,fun hz=> ?_⟩]
  ·rcases List.mem_cons.1 ((h z).1 (List.mem_cons_of_mem _ hz))with e|e
   ·subst e;exact(lS (XV z hz)).elim
   ·exact e
  ·rcases List.mem_cons.1 ((h z).2 (List.mem_cons_of_mem _ hz))with e|e
   ·subst e;exact(lS (jI z hz)).elim
   ·exact e
def dD(P:Int→Prop) [DecidablePred P](f:Int→Int→Int):List cH→Option aj
 |[]=>some []
 |k::t=>if P (f k.1 k.2)then(dD P f t).map (fun o=>if f k.1 k.2=0 then o else(k.1,(k.2,(f k.1 k.2,())))::o)else none
theorem kj(P:Int→Prop) [DecidablePred P](f:Int→Int→Int)(k:cH)(t:List cH):dD P f (k::t)=if P (f k.1 k.2)then(dD P f t).map (fun o=>if f k.1 k.2=0 then o else(k.1,(k.2,(f k.1 k.2,())))::o)else none:=rfl
theorem wW{P:Int→Prop} [DecidablePred P](h0:P 0){f:Int→Int→Int}(p:cH→Bool): ∀{K:List cH},(∀k∈K,p k=false→f k.1 k.2=0)→dD P f (K.filter p)=dD P f K
 |[],_=>rfl
 |k::t,h=>by
  have ih:=wW h0 p (K:=t) (fun x hx=>h x (List.mem_cons_of_mem _ hx))
  cases hp:p k
  ·rw[List.filter_cons_of_neg (by rw[hp];decide),ih,kj,h k (List.mem_cons_self ..) hp,if_pos h0]
   simp
  ·rw[List.filter_cons_of_pos hp,kj,kj,ih]
theorem FE{P:Int→Prop} [DecidablePred P](h0:P 0){f:Int→Int→Int}{K G:List cH}(hK:rN K)(hG:rN G)(hs: ∀k∈K,k∈G)(hz: ∀k∈G,k∉K→f k.1 k.2=0):dD P f K=dD P f G:=by
 have e:K=G.filter (fun k=>decide (k∈K)):=by
  refine Ky hK (List.Pairwise.sublist List.filter_sublist hG) fun x=> ?_
  rw[List.mem_filter]
  exact⟨fun h=>⟨hs x h,decide_eq_true h⟩,fun h=>of_decide_eq_true h.2⟩
 rw[e]
 exact wW h0 _ fun k hk hp=>hz k hk (of_decide_eq_false hp)
def q4(k:cH):List cH→List cH
 |[]=>[k]
 |x::t=>if oy x k then x::q4 k t else if x=k then x::t else k::x::t
theorem mV{k x:cH}: ∀{K:List cH},x∈q4 k K↔x=k∨x∈K
 |[]=>by show x∈[k]↔_;simp
 |y::t=>by
  show x∈(if oy y k then y::q4 k t else if y=k then y::t else k::y::t)↔_
  split
  ·rw[List.mem_cons,mV,List.mem_cons]
   exact⟨fun h=>h.elim (fun e=>Or.inr (Or.inl e)) (fun h=>h.elim Or.inl (fun h=>Or.inr (Or.inr h))),fun h=>h.elim (fun e=>Or.inr (Or.inl e)) (fun h=>h.elim Or.inl (fun h=>Or.inr (Or.inr h)))⟩
  ·split
   ·rename_i e
    rw[←e]
    exact⟨Or.inr,fun h=>h.elim (fun e=>e▸List.mem_cons_self ..) id⟩
   ·rw[List.mem_cons]
theorem uI{k:cH}: ∀{K:List cH},rN K→rN (q4 k K)
 |[],_=>List.pairwise_cons.2 ⟨fun _ h=>(nomatch h),List.Pairwise.nil⟩
 |y::t,h=>by
  obtain⟨h1,h2⟩:=List.pairwise_cons.1 h
  show rN (if oy y k then y::q4 k t else if y=k then y::t else k::y::t)
  split
  ·rename_i hy
   exact List.pairwise_cons.2 ⟨fun z hz=>(mV.1 hz).elim (fun e=>e▸hy) (h1 z),uI h2⟩
  ·rename_i hy
   split
   ·exact h
   ·rename_i he
    have hk:oy k y:=(Kx y k).elim (fun h=>absurd h hy) (fun h=>h.elim (fun h=>absurd h he) id)
    exact List.pairwise_cons.2 ⟨fun z hz=>(List.mem_cons.1 hz).elim (fun e=>e▸hk) (fun hz=>rO hk (h1 z hz)),h⟩
def jz(K:List cH)(E:aj):List cH:=E.foldl (fun K x=>q4 (keyOf x) K) K
theorem n6(K:List cH)(x:cy)(E:aj):jz K (x::E)=jz (q4 (keyOf x) K) E:=rfl
theorem td: ∀{E:aj} {K:List cH},rN K→rN (jz K E)
 |[],_,h=>h
 |x::E,K,h=>by rw[n6];exact td (uI h)
theorem iL{k:cH}: ∀{E:aj} {K:List cH},k∈jz K E↔(k∈K∨ ∃x∈E,keyOf x=k)
 |[],K=>by
  show k∈K↔_
  simp
 |x::E,K=>by
  rw[n6,iL,mV]
  constructor
  ·rintro((rfl|h)|⟨y,hy,e⟩)
   ·exact Or.inr ⟨x,List.mem_cons_self ..,rfl⟩
   ·exact Or.inl h
   ·exact Or.inr ⟨y,List.mem_cons_of_mem _ hy,e⟩
  ·rintro(h|⟨y,hy,e⟩)
   ·exact Or.inl (Or.inr h)
   ·rcases List.mem_cons.1 hy with rfl|hy
    ·exact Or.inl (Or.inl e.symm)
    ·exact Or.inr ⟨y,hy,e⟩
theorem zs(k:cH): ∀K:List cH,(q4 k K).length≤K.length+1
 |[]=>Nat.le_refl _
 |y::t=>by
  show(if oy y k then y::q4 k t else if y=k then y::t else k::y::t).length≤_
  have:=zs k t
  split
  ·rw[List.length_cons,List.length_cons];omega
  ·split<;>rw[List.length_cons]<;>(try rw[List.length_cons])<;>omega
def rowsOf(l:aj)(K:List cH):aj:=K.map fun k=>(k.1,(k.2,(bN k.1 k.2 l,())))
theorem iU{l:aj}(h:rN (l.map keyOf)):rowsOf l (l.map keyOf)=l:=by
 have key: ∀(m:aj),rN (m.map keyOf)→(∀x∈m,bN x.1 x.2.1 l=dg x)→rowsOf l (m.map keyOf)=m:=by
  intro m
  induction m with
  |nil=>intro _ _;rfl
  |cons x t ih=>
   intro hm hx
   have:=ih (List.pairwise_cons.1 hm).2 (fun y hy=>hx y (List.mem_cons_of_mem _ hy))
   unfold rowsOf at*
   rw[List.map_cons,List.map_cons,this]
   congr 1
   show(x.1,(x.2.1,(bN x.1 x.2.1 l,())))=x
   rw[hx x (List.mem_cons_self ..)];rfl
 refine key l h ?_
 clear key
 induction l with
 |nil=>intro x hx;nomatch hx
 |cons y t ih=>
  intro x hx
  obtain⟨h1,h2⟩:=List.pairwise_cons.1 h
  have g9: ∀z∈t,¬(z.1=y.1∧z.2.1=y.2.1):=fun z hz e=>by
   have hk:=h1 (keyOf z) (List.mem_map_of_mem hz)
   have he:keyOf z=keyOf y:=Prod.ext e.1 e.2
   rw[he]at hk
   exact lS hk
  rw[gq]
  rcases List.mem_cons.1 hx with rfl|hx
  ·rw[if_pos ⟨rfl,rfl⟩,iK g9];omega
  ·rw[if_neg (fun e=>g9 x hx ⟨e.1.symm,e.2.symm⟩),ih h2 x hx];omega
end VM
end
section
namespace VM
open Go VM.F
instance(x:Int):Decidable (aC x):=by unfold aC;infer_instance
def Fq(x:Int):Prop:=aC x∧ox x
instance:DecidablePred Fq:=fun x=>by unfold Fq;infer_instance
def pB(r:Option aj):Option (aj×Int):=some (match r with|some o=>(o,0)|none=>([],2))
def fS(l E:aj)(a b:Int):Int:=bN a b l+bN a b E
theorem yl{α:Type}(N:Nat){l:List α}{i:Nat}{x:α}(hi:i≤l.length)(hl:l.length<1000000):gy N l (i:Int) [x]=some (l.take i++x::l.drop i):=by
 unfold gy
 rw[if_pos ⟨by omega,by omega,rfl,by unfold tx;omega⟩]
 rfl
theorem q5{α:Type}(N:Nat){l:List α}(hl:l.length≤1000000):jX N l=some l:=by
 unfold jX
 rw[if_pos (by unfold tx;omega)]
theorem zt(N:Nat){v:Int}(h:eg v):Dc N (cC v)=some (ur v):=Db N h.1 h.2
theorem rP{v:Int}(h:aC v):ur v=(v,true):=by unfold ur;exact if_pos h
theorem uK{v:Int}(h: ¬aC v):ur v=(0,false):=by unfold ur;exact if_neg h
theorem vN{ws:List Int}{x:Int}(h: ∀y∈ws,aC y)(hx:aC x): ∀y∈ws++[x],aC y:=fun y hy=>by
 rcases List.mem_append.1 hy with hy|hy
 ·exact h y hy
 ·rw[List.mem_singleton.1 hy];exact hx
theorem FF(N:Nat){l:aj}:Sg N l=some l:=by
 unfold Sg
 rw[b8 (by omega) (by omega) (by omega) (by omega),cond_true]
 simp
theorem OL(N:Nat)(hN:2000000≤N)(K:bu.BS){E out R:aj}(hq:dn E)(hl:E.length≤100000)(ho:out.length≤1000000)(r:cy)(hr:aC (dg r))(i:Nat)(hi:i≤1000000):
  bu.X0 N K N E out r [cC (dg r)] R (R.length:Int) (i:Int) E (E.length:Int) 0=
   if Fq (dg r+bN r.1 r.2.1 E)then K E (if dg r+bN r.1 r.2.1 E=0 then out else out++[(r.1,(r.2.1,(dg r+bN r.1 r.2.1 E,())))]) R (R.length:Int) ((i+1:Nat):Int)else some (bp,(2:Int)):=by
 have:=nH E aS (fun n j ws=>bu.X0 N K n E out r (ws.map cC) R (R.length:Int) (i:Int) E (E.length:Int) j)
  (fun t ws=>if Fq (ws++bY r.1 r.2.1 t).sum then K E (if(ws++bY r.1 r.2.1 t).sum=0 then out else out++[(r.1,(r.2.1,((ws++bY r.1 r.2.1 t).sum,())))]) R (R.length:Int) ((i+1:Nat):Int)else some (bp,(2:Int)))
  (fun j (ws:List Int)=>ws.length≤j+1∧ ∀x∈ws,aC x)
  (fun n j ws hj hI dx=> ?_) (fun n ws hI=> ?_) E.length N 0 [dg r] (by omega) (by omega) (by omega) ⟨Nat.le_refl _,fun x hx=>by rw[List.mem_singleton.1 hx];exact hr⟩
 ·rw[show((0:Nat):Int)=0 from rfl,List.drop_zero]at this
  refine this.trans ?_
  have e:([dg r]++bY r.1 r.2.1 E).sum=dg r+bN r.1 r.2.1 E:=by rw[List.singleton_append,List.sum_cons];rfl
  rw[e]
 ·unfold bu.X0 bu.Sh
  have sJ:=tc hq j
  have fa:=sJ
  unfold aC dg at fa
  rw[aD (by omega),cond_true,aG (by omega) (by omega),cond_true,Int.toNat_natCast,vG N fa.1 fa.2,Option.bind_some,ba (by rw[List.length_map,List.length_singleton];omega),cond_true,al (x:=(j:Int)+1) (by omega) (by omega),aa,aA,aA]
  by_cases h1:(E.getD j aS).1=r.1
  ·by_cases h2:(E.getD j aS).2.1=r.2.1
   ·have hc:bY r.1 r.2.1 (E.getD j aS::E.drop (j+1))=dg (E.getD j aS)::bY r.1 r.2.1 (E.drop (j+1)):=by rw[c5,if_pos ⟨h1,h2⟩]
    rw[if_pos h1,if_pos h2,hc]
    have:=dx (ws++[dg (E.getD j aS)]) ⟨by rw[List.length_append,List.length_singleton];omega,vN hI.2 sJ⟩
    rw[List.map_append]at this
    refine this.trans ?_
    rw[List.append_assoc];rfl
   ·have hc:bY r.1 r.2.1 (E.getD j aS::E.drop (j+1))=bY r.1 r.2.1 (E.drop (j+1)):=by rw[c5,if_neg (fun h=>h2 h.2)]
    rw[if_pos h1,if_neg h2,hc]
    exact dx ws ⟨by omega,hI.2⟩
  ·have hc:bY r.1 r.2.1 (E.getD j aS::E.drop (j+1))=bY r.1 r.2.1 (E.drop (j+1)):=by rw[c5,if_neg (fun h=>h1 h.1)]
   rw[if_neg h1,hc]
   exact dx ws ⟨by omega,hI.2⟩
 ·unfold bu.X0 bu.Sh
  have hs:=BP hI.2 (by omega)
  rw[ay (by omega),cond_false,Df N hI.2 (by omega) (by omega),Option.bind_some]
  show _=if Fq (ws++[]).sum then K E (if(ws++[]).sum=0 then out else out++[(r.1,(r.2.1,((ws++[]).sum,())))]) R (R.length:Int) ((i+1:Nat):Int)else some (bp,(2:Int))
  rw[List.append_nil,zt N hs,Option.bind_some]
  by_cases h1:aC ws.sum
  ·rw[rP h1]
   dsimp only
   rw[Bool.not_true,cond_false,qS,Option.bind_some,cond_not,ed,cond_not,aA,ba (by rw[List.length_singleton];omega),cond_true,al (x:=(i:Int)+1) (by omega) (by omega),aa]
   by_cases h2:ox ws.sum
   ·rw[if_pos h2,if_pos (show Fq ws.sum from⟨h1,h2⟩)]
    split<;>rfl
   ·rw[if_neg h2,if_neg (fun h=>h2 h.2)]
  ·rw[uK h1,if_neg (fun h=>h1 h.1)]
   rfl
theorem L9(N:Nat)(hN:2000000≤N){l E R:aj}(hq:dn E)(hl:E.length≤100000)(hR:R.length≤200000)(hv: ∀r∈R,aC (dg r)∧dg r=bN r.1 r.2.1 l):
  bu.Si N N E [] R (R.length:Int) 0=pB (dD Fq (fS l E) (R.map keyOf)):=by
 have:=nH R aS (fun n i out=>bu.Si N n E out R (R.length:Int) i) (fun t out=>pB ((dD Fq (fS l E) (t.map keyOf)).map (fun o=>out++o))) (fun i (out:aj)=>out.length≤i)
  (fun n i out hi hI hr=> ?_) (fun n out hI=> ?_) R.length N 0 [] (by omega) (by omega) (by omega) (Nat.le_refl _)
 ·rw[show((0:Nat):Int)=0 from rfl,List.drop_zero]at this
  refine this.trans ?_
  simp
 ·unfold bu.Si bu.Sj
  have hm:R.getD i aS∈R:=by
   rw[List.getD_eq_getElem?_getD,List.getElem?_eq_getElem hi];exact List.getElem_mem hi
  have Ny:=hv _ hm
  have sJ:=Ny.1
  have fa:=sJ
  unfold aC dg at fa
  rw[aD (by omega),cond_true,aG (by omega) (by omega),cond_true,Int.toNat_natCast,vG N fa.1 fa.2,Option.bind_some]
  refine(OL N hN _ hq hl (by omega) _ sJ i (by omega)).trans ?_
  rw[List.map_cons,kj]
  have ef:fS l E (keyOf (R.getD i aS)).1 (keyOf (R.getD i aS)).2=dg (R.getD i aS)+bN (R.getD i aS).1 (R.getD i aS).2.1 E:=by
   show bN _ _ l+bN _ _ E=_
   rw[Ny.2];rfl
  rw[ef]
  generalize hS:dg (R.getD i aS)+bN (R.getD i aS).1 (R.getD i aS).2.1 E=v
  by_cases hF:Fq v
  ·rw[if_pos hF,if_pos hF,hr _ (by
    split
    ·omega
    ·rw[List.length_append,List.length_singleton];omega)]
   cases dD Fq (fS l E) ((R.drop (i+1)).map keyOf)with
   |none=>rfl
   |some o=>
    show pB (some _)=pB (some _)
    congr 2
    split
    ·rfl
    ·exact List.append_assoc _ _ _
  ·rw[if_neg hF,if_neg hF];rfl
 ·unfold bu.Si bu.Sj
  rw[ay (by omega),cond_false,FF,Option.bind_some]
  show _=pB (some (out++[]))
  rw[List.append_nil];rfl
def xH(l:aj)(k:cH):cy:=(k.1,(k.2,(bN k.1 k.2 l,())))
theorem cQ(l:aj)(K:List cH):(rowsOf l K).length=K.length:=List.length_map ..
theorem BT(l:aj){K:List cH}{p:Nat}(h:p<K.length):(rowsOf l K).getD p aS=xH l (K.getD p (0,0)):=by
 unfold rowsOf
 rw[List.getD_eq_getElem?_getD,List.getElem?_map,List.getElem?_eq_getElem h,List.getD_eq_getElem?_getD,List.getElem?_eq_getElem h];rfl
theorem pC(l:aj)(K:List cH)(p:Nat)(k:cH):(rowsOf l K).take p++xH l k::(rowsOf l K).drop p=rowsOf l (K.take p++k::K.drop p):=by
 unfold rowsOf
 rw[List.map_append,List.map_cons,List.map_take,List.map_drop];rfl
theorem wX(l:aj)(K:List cH):(rowsOf l K).map keyOf=K:=by
 unfold rowsOf
 rw[List.map_map]
 induction K with
 |nil=>rfl
 |cons k t ih=>rw[List.map_cons,ih];rfl
theorem uM{k x:cH}:0<vH k.1 k.2 x.1 x.2↔oy x k:=by
 unfold vH oy iS;split<;>omega
theorem rQ{k x:cH}:vH k.1 k.2 x.1 x.2=0↔x=k:=by
 have:x=k↔x.1=k.1∧x.2=k.2:=⟨fun h=>h▸⟨rfl,rfl⟩,fun h=>Prod.ext h.1 h.2⟩
 rw[this]
 unfold vH;split<;>omega
def uN(k:cH):Prop:=A7 k.1∧A7 k.2
theorem Kz{k:cH}{K:List cH}{p:Nat}(h:p<K.length):q4 k (K.drop p)=if oy (K.getD p (0,0)) k then K.getD p (0,0)::q4 k (K.drop (p+1))else if K.getD p (0,0)=k then K.drop p else k::K.drop p:=by
 rw[drop_cons h (0,0)];rfl
theorem uO{K:List cH}{p:Nat}(h:p<K.length)(t:List cH):K.take p++K.getD p (0,0)::t=K.take (p+1)++t:=by
 rw[←List.take_append_getElem h,List.append_assoc,List.getD_eq_getElem?_getD,List.getElem?_eq_getElem h];rfl
def zeroAt(l:aj)(K:List cH)(k:cH):Prop:=k∉K→bN k.1 k.2 l=0
theorem rR{l:aj}{k:cH}(h:bN k.1 k.2 l=0):((k.1,(k.2,((0:Int),()))):cy)=xH l k:=by
 unfold xH;rw[h]
theorem pD{k:cH}{K:List cH}{p:Nat}(hs:rN K)(hp: ∀x∈K.take p,oy x k)(h: ∀x∈K.drop p,oy k x):k∉K:=fun hk=>by
 rw[←List.take_append_drop p K]at hk
 rcases List.mem_append.1 hk with hk|hk
 ·exact lS (hp k hk)
 ·exact lS (h k hk)
theorem KA{k:cH}{K:List cH}{p:Nat}(hs:rN K)(h:p<K.length)(h1: ¬oy (K.getD p (0,0)) k)(h2:K.getD p (0,0)≠k): ∀x∈K.drop p,oy k x:=by
 have hk:oy k (K.getD p (0,0)):=(Kx (K.getD p (0,0)) k).elim (fun h=>absurd h h1) (fun h=>h.elim (fun h=>absurd h h2) id)
 have hd:rN (K.drop p):=List.Pairwise.sublist (List.drop_sublist ..) hs
 rw[drop_cons h (0,0)]at hd ⊢
 intro x hx
 rcases List.mem_cons.1 hx with rfl|hx
 ·exact hk
 ·exact rO hk ((List.pairwise_cons.1 hd).1 x hx)
theorem X1(N:Nat)(C:bu.dW){l E S:aj}{K:List cH}(hs:rN K)(hl:K.length≤100000)(hf: ∀k∈K,uN k)(x:cy)(hx:uN (keyOf x))(hz:zeroAt l K (keyOf x))(len:Int)(i:Nat)(hi:i≤1000000):
  ∀(m n p:Nat),K.length-p≤m→m<n→p≤K.length→(∀y∈K.take p,oy y (keyOf x))→
   bu.su N C n E (rowsOf l K) x (p:Int) S len (i:Int)=C E (rowsOf l (K.take p++q4 (keyOf x) (K.drop p))) S len ((i+1:Nat):Int)
 |m,0,p,_,hn,_,_=>by omega
 |m,n+1,p,hm,hn,hp,hb=>by
  unfold bu.su bu.qX bu.j18 bu.ZQ
  rw[cQ,al (x:=(i:Int)+1) (by omega) (by omega),aa i]
  by_cases h:p<K.length
  ·have hfk:=hf (K.getD p (0,0)) (by rw[List.getD_eq_getElem?_getD,List.getElem?_eq_getElem h];exact List.getElem_mem h)
   have ho:LS N x.1 x.2.1 ((rowsOf l K).getD p aS)=some (vH (keyOf x).1 (keyOf x).2 (K.getD p (0,0)).1 (K.getD p (0,0)).2):=by
    rw[BT l h]
    exact BM N hx.1 hx.2 hfk.1 hfk.2
   rw[aD (by omega),cond_true,aG (by omega) (by omega),cond_true,Int.toNat_natCast,ho,Option.bind_some,cf (x:=(p:Int)) (by omega),cond_false,cond_true,Option.bind_some,bP,cond_not,aA,Kz h]
   by_cases h1:oy (K.getD p (0,0)) (keyOf x)
   ·rw[if_pos (uM.2 h1),if_pos h1,al (x:=(p:Int)+1) (by omega) (by omega),aa p,uO h]
    refine X1 N C hs hl hf x hx hz len i hi (m-1) n (p+1) (by omega) (by omega) (by omega) fun y hy=> ?_
    rw[←List.take_append_getElem h]at hy
    rcases List.mem_append.1 hy with hy|hy
    ·exact hb y hy
    ·rw[List.getD_eq_getElem?_getD,List.getElem?_eq_getElem h]at h1
     rw[List.mem_singleton.1 hy];exact h1
   ·rw[if_neg (fun h=>h1 (uM.1 h)),if_neg h1]
    by_cases h2:K.getD p (0,0)=keyOf x
    ·rw[if_pos (rQ.2 h2),if_pos h2,List.take_append_drop]
    ·rw[if_neg (fun h=>h2 (rQ.1 h)),if_neg h2,yl N (by rw[cQ];omega) (by rw[cQ];omega),Option.bind_some]
     have Az:=hz (pD hs hb (KA hs h h1 h2))
     have e:=pC l K p (keyOf x)
     rw[←rR Az]at e
     exact congrArg (fun R=>C E R S len ((i+1:Nat):Int)) e
  ·have hd:K.drop p=[]:=List.drop_eq_nil_of_le (by omega)
   rw[ay (by omega),cond_false,ck (by omega),cond_true,yl N (by rw[cQ];omega) (by rw[cQ];omega),Option.bind_some]
   have Az:=hz (pD hs hb (by rw[hd];exact fun x hx=>nomatch hx))
   have e:=pC l K p (keyOf x)
   rw[←rR Az]at e
   have e2:q4 (keyOf x) (K.drop p)=keyOf x::K.drop p:=by rw[hd];rfl
   rw[e2]
   exact congrArg (fun R=>C E R S len ((i+1:Nat):Int)) e
end VM
end
section
namespace VM
open Go VM.F
def BU(E:aj)(i:Nat):Prop:=eG (cU (i:Int) E).sum 0
instance(E:aj):DecidablePred (BU E):=fun i=>by unfold BU;infer_instance
theorem Sk(N:Nat)(hN:2000000≤N)(K:dY.bW){E:aj}(hq:dn E)(hl:E.length≤100000)(a:Nat)(ha:a<6):
  dY.l6 N K N E (a:Int) [] (a:Int) E (E.length:Int) 0=if(cU (a:Int) E).sum=0 then K E ((a+1:Nat):Int)else some false:=by
 have:=nH E aS (fun n j ws=>dY.l6 N K n E (a:Int) (ws.map cC) (a:Int) E (E.length:Int) j)
  (fun t ws=>if(ws++cU (a:Int) t).sum=0 then K E ((a+1:Nat):Int)else some false)
  (fun j (ws:List Int)=>ws.length≤j∧ ∀x∈ws,aC x)
  (fun n j ws hj hI hr=> ?_) (fun n ws hI=> ?_) E.length N 0 [] (by omega) (by omega) (by omega) ⟨Nat.le_refl _,fun x hx=>nomatch hx⟩
 ·rw[show((0:Nat):Int)=0 from rfl,List.drop_zero]at this
  exact this
 ·unfold dY.l6 dY.ow
  have sJ:=tc hq j
  have fa:=sJ
  unfold aC dg at fa
  rw[aD (by omega),cond_true,aG (by omega) (by omega),cond_true,Int.toNat_natCast,vG N fa.1 fa.2,Option.bind_some,ba (by rw[List.length_map,List.length_singleton];omega),cond_true,al (x:=(j:Int)+1) (by omega) (by omega),aa j,aA]
  by_cases h1:(E.getD j aS).2.1=(a:Int)
  ·have hc:cU (a:Int) (E.getD j aS::E.drop (j+1))=dg (E.getD j aS)::cU (a:Int) (E.drop (j+1)):=by rw[dV,if_pos h1]
   rw[if_pos h1,hc]
   have:=hr (ws++[dg (E.getD j aS)]) ⟨by rw[List.length_append,List.length_singleton];omega,vN hI.2 sJ⟩
   rw[List.map_append]at this
   refine this.trans ?_
   rw[List.append_assoc];rfl
  ·have hc:cU (a:Int) (E.getD j aS::E.drop (j+1))=cU (a:Int) (E.drop (j+1)):=by rw[dV,if_neg h1]
   rw[if_neg h1,hc]
   exact hr ws ⟨by omega,hI.2⟩
 ·unfold dY.l6 dY.ow
  rw[ay (by omega),cond_false,Df N hI.2 (by omega) (by omega),Option.bind_some]
  show _=if(ws++[]).sum=0 then K E ((a+1:Nat):Int)else some false
  rw[List.append_nil,Bool.not_true,cond_false,uE,Option.bind_some,cond_not,aA,al (x:=(a:Int)+1) (by omega) (by omega),aa a]
  by_cases h:ws.sum=0
  ·rw[if_pos h,if_pos (kO.2 h)]
  ·rw[if_neg h,if_neg (fun k=>h (kO.1 k))]
theorem OM(N:Nat)(hN:2000000≤N){E:aj}(hq:dn E)(hl:E.length≤100000):dY N E=some (decide (∀j,j<gZ→BU E j)&&true):=by
 unfold dY dY.b
 refine e7 (len:=gZ) (F:=fun n i=>dY.l2 N n E i) (BU E) (fun n i r hi hp hr=> ?_) (fun n=> ?_) N (by unfold gZ;omega)
 ·unfold dY.l2 dY.eu
  unfold gZ at hi
  rw[aD (by omega),cond_true,Sk N hN _ hq hl i hi,hr]
  unfold BU eG
  rfl
 ·unfold dY.l2 dY.eu
  rw[ay (by unfold gZ;omega),cond_false]
structure KB(E:aj):Prop where
 place: ∀x∈E,bM x.1 x.2.1
 q: ∀x∈E,aC (dg x)∧ox (dg x)
 len:E.length≤400
 flat: ∀i:Int,(cU i E).sum=0
theorem BV{x:cy}(h:bM x.1 x.2.1):uN (keyOf x):=by
 have h':bM (keyOf x).1 (keyOf x).2:=h
 unfold bM at h'
 unfold uN A7
 omega
theorem dX{l:aj}{k:cH}(h:k∉l.map keyOf):bN k.1 k.2 l=0:=iK fun x hx e=>h (by
 have:keyOf x=k:=Prod.ext e.1 e.2
 rw[←this];exact List.mem_map_of_mem hx)
theorem Ma(N:Nat)(hN:2000000≤N){l E:aj}(hq:dn E)(hE:E.length≤400)(hp: ∀x∈E,uN (keyOf x))(hs:rN (l.map keyOf))(hl:l.length≤90000)(ON:dn l)(D8: ∀x∈l,uN (keyOf x)):
  bu.lz N N E l E (E.length:Int) 0=pB (dD Fq (fS l E) (jz (l.map keyOf) E)):=by
 have:=nH E aS (fun n i K=>bu.lz N n E (rowsOf l K) E (E.length:Int) i) (fun t K=>pB (dD Fq (fS l E) (jz K t)))
  (fun i (K:List cH)=>K.length≤l.length+i∧rN K∧(∀k∈K,uN k)∧ ∀x∈l,keyOf x∈K)
  (fun n i K hi hI hr=> ?_) (fun n K hI=> ?_) E.length N 0 (l.map keyOf) (by omega) (by omega) (by omega) ⟨by rw[List.length_map];omega,hs,fun k hk=>by
   obtain⟨x,hx,rfl⟩:=List.mem_map.1 hk
   exact D8 x hx,fun x hx=>List.mem_map_of_mem hx⟩
 ·rw[show((0:Nat):Int)=0 from rfl,List.drop_zero]at this
  simp only[iU hs]at this
  exact this
 ·unfold bu.lz bu.jO
  obtain⟨h1,h2,h3,h4⟩:=hI
  have hm:E.getD i aS∈E:=by
   rw[List.getD_eq_getElem?_getD,List.getElem?_eq_getElem hi];exact List.getElem_mem hi
  rw[aD (by omega),cond_true,aG (by omega) (by omega),cond_true,Int.toNat_natCast]
  refine(X1 N _ h2 (by omega) h3 (E.getD i aS) (hp _ hm) (fun hk=>dX fun hx=>hk (by
   obtain⟨x,hx,e⟩:=List.mem_map.1 hx
   rw[←e];exact h4 x hx)) (E.length:Int) i (by omega) K.length N 0 (by omega) (by omega) (by omega) (fun y hy=>nomatch hy)).trans ?_
  rw[List.take_zero,List.nil_append,List.drop_zero,n6]
  refine hr (q4 (keyOf (E.getD i aS)) K) ⟨Nat.le_trans (zs _ K) (by omega),uI h2,fun k hk=>(mV.1 hk).elim (fun e=>e▸hp _ hm) (h3 k),fun x hx=>mV.2 (Or.inr (h4 x hx))⟩
 ·unfold bu.lz bu.jO
  obtain⟨h1,h2,h3,h4⟩:=hI
  rw[ay (by omega),cond_false,cQ,br (by omega) (by omega) (by omega),cond_true]
  have:=L9 N hN (l:=l) (R:=rowsOf l K) hq (by omega) (by rw[cQ];omega) (fun r hr=>by
   unfold rowsOf at hr
   obtain⟨k,hk,rfl⟩:=List.mem_map.1 hr
   refine⟨?_,rfl⟩
   show aC (bN k.1 k.2 l)
   by_cases hkl:k∈l.map keyOf
   ·have e:rowsOf l (l.map keyOf)=l:=iU hs
    have hm:xH l k∈rowsOf l (l.map keyOf):=List.mem_map_of_mem hkl
    rw[e]at hm
    exact ON (xH l k) hm
   ·rw[dX hkl];exact⟨by decide,by decide⟩)
  rw[wX,cQ]at this
  exact this
theorem gr{l:aj}(h:cR l=true):rN (l.map keyOf)∧(∀x∈l,bM x.1 x.2.1∧ox (dg x)):=by
 unfold cR at h
 rw[Bool.and_true]at h
 have h':=of_decide_eq_true h
 have get: ∀(i:Nat) (hi:i<l.length),l.getD i aS=l[i]:=fun i hi=>by rw[List.getD_eq_getElem?_getD,List.getElem?_eq_getElem hi];rfl
 have OO: ∀i,i+1<l.length→oy (keyOf (l.getD i aS)) (keyOf (l.getD (i+1) aS)):=fun i hi=>(h' (i+1) hi).2.2.2 (by omega)
 have dF: ∀j,j<l.length→ ∀i,i<j→oy (keyOf (l.getD i aS)) (keyOf (l.getD j aS)):=by
  intro j
  induction j with
  |zero=>intro _ i hi;omega
  |succ j ih=>
   intro hj i hi
   by_cases e:i=j
   ·rw[e];exact OO j hj
   ·exact rO (ih (by omega) i (by omega)) (OO j hj)
 refine⟨?_,fun x hx=> ?_⟩
 ·refine List.pairwise_map.2 (List.pairwise_iff_getElem.2 fun i j hi hj nR=> ?_)
  have:=dF j hj i nR
  rw[get i hi,get j hj]at this
  exact this
 ·obtain⟨i,hi,e⟩:=List.getElem_of_mem hx
  have:=h' i hi
  unfold ij iJ at this
  rw[get i hi,e]at this
  exact⟨this.1,this.2.2.1⟩
theorem Sl(N:Nat)(hN:2000000≤N){l E:aj}(hk:cR l=true)(hl:l.length≤90000)(ON:dn l)(g:KB E):bu N l E=pB (dD Fq (fS l E) (jz (l.map keyOf) E)):=by
 obtain⟨hs,D8⟩:=gr hk
 have hE:=g.len
 unfold bu bu.b
 rw[ux N (by omega) (by omega),hk,Option.bind_some,Bool.not_true,cond_false,ay (by omega),cond_false]
 refine uw E aS (fun n i=>bu.l4 N n l E E (E.length:Int) i) (fun _=>pB (dD Fq (fS l E) (jz (l.map keyOf) E))) (fun n i hi hr=> ?_) (fun n=> ?_) N (by omega)
 ·unfold bu.l4 bu.cn
  have hm:E.getD i aS∈E:=by
   rw[List.getD_eq_getElem?_getD,List.getElem?_eq_getElem hi];exact List.getElem_mem hi
  rw[aD (by omega),cond_true,aG (by omega) (by omega),cond_true,Int.toNat_natCast,Ks,decide_eq_true (g.place _ hm),Option.bind_some,Bool.not_true,cond_false,qS,Option.bind_some,
   decide_eq_true (show ox ((E.getD i aS).2.2.1)from(g.q _ hm).2),Bool.not_true,cond_false,al (x:=(i:Int)+1) (by omega) (by omega),aa i]
  exact hr
 ·unfold bu.l4 bu.cn
  have hf:dY N E=some true:=by
   rw[OM N hN (fun x hx=>(g.q x hx).1) (by omega),decide_eq_true (p:= ∀j,j<gZ→BU E j) (fun j _=>g.flat (j:Int))];rfl
  rw[ay (by omega),cond_false,hf,Option.bind_some,Bool.not_true,cond_false,q5 N (by omega),Option.bind_some]
  exact Ma N hN (fun x hx=>(g.q x hx).1) hE (fun x hx=>BV (g.place x hx)) hs hl ON (fun x hx=>BV (D8 x hx).1)
end VM
end
section
namespace VM
open Go VM.F
def uP(a b:Nat):Nat→List cH
 |0=>[]
 |m+1=>((a:Int),(b:Int))::uP a (b+1) m
def sK(w a:Nat):Nat→List cH
 |0=>[]
 |m+1=>uP a 0 w++sK w (a+1) m
theorem uQ{k:cH}{a:Nat}: ∀{m b:Nat},k∈uP a b m↔k.1=a∧(b:Int)≤k.2∧k.2<(b+m:Nat)
 |0,b=>⟨fun h=>(nomatch h),fun h=>by omega⟩
 |m+1,b=>by
  show k∈((a:Int),(b:Int))::uP a (b+1) m↔_
  rw[List.mem_cons,uQ]
  have:k=((a:Int),(b:Int))↔k.1=a∧k.2=b:=⟨fun h=>h▸⟨rfl,rfl⟩,fun h=>Prod.ext h.1 h.2⟩
  rw[this]
  omega
theorem rS{k:cH}{w:Nat}: ∀{m a:Nat},k∈sK w a m↔(a:Int)≤k.1∧k.1<(a+m:Nat)∧0≤k.2∧k.2<w
 |0,a=>⟨fun h=>(nomatch h),fun h=>by omega⟩
 |m+1,a=>by
  show k∈uP a 0 w++sK w (a+1) m↔_
  rw[List.mem_append,uQ,rS]
  omega
theorem FG(a:Nat): ∀(m b:Nat),rN (uP a b m)
 |0,b=>List.Pairwise.nil
 |m+1,b=>List.pairwise_cons.2 ⟨fun k hk=>by
  have:=uQ.1 hk
  show(a:Int)<k.1∨((a:Int)=k.1∧(b:Int)<k.2)
  omega,FG a m (b+1)⟩
theorem vO(w:Nat): ∀(m a:Nat),rN (sK w a m)
 |0,a=>List.Pairwise.nil
 |m+1,a=>List.pairwise_append.2 ⟨FG a w 0,vO w m (a+1),fun x hx y hy=>by
  have h1:=uQ.1 hx
  have h2:=rS.1 hy
  show x.1<y.1∨(x.1=y.1∧x.2<y.2)
  omega⟩
structure Mark(l:aj)(a b p:Nat):Prop where
 le:p≤l.length
 lo: ∀x∈l.take p,oy (keyOf x) ((a:Int),(b:Int))
 hi: ∀x∈l.drop p,¬oy (keyOf x) ((a:Int),(b:Int))
theorem oQ{k:cH}{a b:Nat}:oy k ((a:Int),((b+1:Nat):Int))↔oy k ((a:Int),(b:Int))∨k=((a:Int),(b:Int)):=by
 have:k=((a:Int),(b:Int))↔k.1=a∧k.2=b:=⟨fun h=>h▸⟨rfl,rfl⟩,fun h=>Prod.ext h.1 h.2⟩
 rw[this]
 show(k.1<(a:Int)∨(k.1=(a:Int)∧k.2<((b+1:Nat):Int)))↔(k.1<(a:Int)∨(k.1=(a:Int)∧k.2<(b:Int)))∨_
 omega
theorem Mark.row{l:aj}{a w p:Nat}(h:Mark l a w p)(hw: ∀x∈l,0≤(keyOf x).2∧(keyOf x).2<w):Mark l (a+1) 0 p:=by
 have key: ∀x∈l,(oy (keyOf x) ((a:Int),(w:Int))↔oy (keyOf x) (((a+1:Nat):Int),((0:Nat):Int))):=fun x hx=>by
  have:=hw x hx
  show((keyOf x).1<(a:Int)∨((keyOf x).1=(a:Int)∧(keyOf x).2<(w:Int)))↔((keyOf x).1<((a+1:Nat):Int)∨((keyOf x).1=((a+1:Nat):Int)∧(keyOf x).2<((0:Nat):Int)))
  omega
 exact⟨h.le,fun x hx=>(key x (List.mem_of_mem_take hx)).1 (h.lo x hx),fun x hx k=>h.hi x hx ((key x (List.mem_of_mem_drop hx)).2 k)⟩
theorem Dm(a b:Int)(l m:aj):bN a b (l++m)=bN a b l+bN a b m:=by
 induction l with
 |nil=>rw[List.nil_append,L8];omega
 |cons x t ih=>rw[List.cons_append,gq,gq,ih];omega
theorem Mark.step{l:aj}(hs:rN (l.map keyOf)){a b p:Nat}(h:Mark l a b p):
  (p<l.length∧(l.getD p aS).1=(a:Int)∧(l.getD p aS).2.1=(b:Int)∧bN (a:Int) (b:Int) l=dg (l.getD p aS)∧Mark l a (b+1) (p+1))∨
  ((p<l.length→(l.getD p aS).1=(a:Int)→(l.getD p aS).2.1=(b:Int)→False)∧bN (a:Int) (b:Int) l=0∧Mark l a (b+1) p):=by
 have no: ∀{x:cy} {k:cH},¬keyOf x=k→ ¬(x.1=k.1∧x.2.1=k.2):=fun h e=>h (Prod.ext e.1 e.2)
 have hz:bN (a:Int) (b:Int) (l.take p)=0:=iK fun x hx e=>by
  have e':keyOf x=((a:Int),(b:Int)):=Prod.ext e.1 e.2
  have:=h.lo x hx
  rw[e']at this
  exact lS this
 have Bb:bN (a:Int) (b:Int) l=bN (a:Int) (b:Int) (l.drop p):=by
  conv=>lhs;rw[←List.take_append_drop p l]
  rw[Dm,hz];omega
 by_cases hp:p<l.length
 ·have hd:=drop_cons hp aS
  have hsd:rN ((l.drop p).map keyOf):=by
   rw[List.map_drop];exact List.Pairwise.sublist (List.drop_sublist ..) hs
  have D4:=h.hi
  rw[hd]at hsd D4 Bb
  have hgt:=(List.pairwise_cons.1 hsd).1
  have J7:=D4 _ (List.mem_cons_self ..)
  have afc:l.take (p+1)=l.take p++[l.getD p aS]:=by
   rw[←List.take_append_getElem hp,List.getD_eq_getElem?_getD,List.getElem?_eq_getElem hp];rfl
  by_cases he:keyOf (l.getD p aS)=((a:Int),(b:Int))
  ·refine Or.inl ⟨hp,congrArg Prod.fst he,congrArg Prod.snd he,?_,by omega,fun x hx=> ?_,fun x hx hk=> ?_⟩
   ·rw[Bb,gq,if_pos ⟨congrArg Prod.fst he,congrArg Prod.snd he⟩,iK fun x hx e=> ?_]
    ·omega
    ·have hg:=hgt (keyOf x) (List.mem_map_of_mem hx)
     have e':keyOf x=((a:Int),(b:Int)):=Prod.ext e.1 e.2
     rw[he,e']at hg
     exact lS hg
   ·rw[afc]at hx
    rcases List.mem_append.1 hx with hx|hx
    ·exact oQ.2 (Or.inl (h.lo x hx))
    ·rw[List.mem_singleton.1 hx];exact oQ.2 (Or.inr he)
   ·have hg:=hgt (keyOf x) (List.mem_map_of_mem hx)
    rw[he]at hg
    rcases oQ.1 hk with hk|hk
    ·exact BR hg hk
    ·rw[hk]at hg;exact lS hg
  ·have jo: ∀x∈l.getD p aS::l.drop (p+1),keyOf x≠((a:Int),(b:Int)):=fun x hx e=>by
    rcases List.mem_cons.1 hx with rfl|hx
    ·exact he e
    ·have hg:=hgt (keyOf x) (List.mem_map_of_mem hx)
     rw[e]at hg
     exact J7 hg
   refine Or.inr ⟨fun _ e1 e2=>he (Prod.ext e1 e2),?_,h.le,fun x hx=>oQ.2 (Or.inl (h.lo x hx)),fun x hx hk=> ?_⟩
   ·rw[Bb]
    exact iK fun x hx=>no (jo x hx)
   ·rw[hd]at hx
    rcases oQ.1 hk with hk|hk
    ·exact D4 x hx hk
    ·exact jo x hx hk
 ·have hd:l.drop p=[]:=List.drop_eq_nil_of_le (by omega)
  refine Or.inr ⟨fun h=>absurd h hp,by rw[Bb,hd];rfl,h.le,fun x hx=>oQ.2 (Or.inl (h.lo x hx)),fun x hx=> ?_⟩
  rw[hd]at hx;nomatch hx
def q6(out:aj)(r:Option aj):Option (aj×Bool):=some (match r with|some o=>(out++o,true)|none=>([],false))
theorem Dn(N:Nat)(v:Int):IV N (cg v)=some (if Fq v then(v,true)else(0,false)):=by
 unfold IV
 rw[oh,Option.bind_some]
 by_cases h:aC v
 ·rw[rP h]
  dsimp only
  rw[Bool.not_true,cond_false,aA]
  by_cases h2:ox v
  ·rw[if_neg (show ¬v= -9223372036854775808 from h2),if_pos (show Fq v from⟨h,h2⟩)]
  ·rw[if_pos (show v= -9223372036854775808 by unfold ox at h2;omega),if_neg (fun h=>h2 h.2)]
 ·rw[uK h,if_neg (fun k=>h k.1)]
  rfl
theorem OP(N:Nat)(hN:4000000≤N)(C4:bx.aW)(C7:bx.cN){l E out:aj}(hq:dn E)(hl:E.length≤100000)(ho:out.length≤1000000)(p:Int)(a b:Nat)(hb:b≤1000000)(q:Int)(hF:Fq q):
  bx.D9 N C4 C7 N l E out p (a:Int) (b:Int) q false (false,(([]:List Int),())) 0=
   if Fq (q+bN (a:Int) (b:Int) E)then C7 l E (if q+bN (a:Int) (b:Int) E=0 then out else out++[((a:Int),((b:Int),(q+bN (a:Int) (b:Int) E,())))]) p (a:Int) ((b+1:Nat):Int)else some ([],false):=by
 have:=nH E aS (fun n j ws=>bx.D9 N C4 C7 n l E out p (a:Int) (b:Int) q (!ws.isEmpty) (cg ws.sum) j)
  (fun t ws=>if Fq (q+(ws++bY (a:Int) (b:Int) t).sum)then C7 l E (if q+(ws++bY (a:Int) (b:Int) t).sum=0 then out else out++[((a:Int),((b:Int),(q+(ws++bY (a:Int) (b:Int) t).sum,())))]) p (a:Int) ((b+1:Nat):Int)else some ([],false))
  (fun j (ws:List Int)=>ws.length≤j∧ ∀x∈ws,aC x)
  (fun n j ws hj hI dx=> ?_) (fun n ws hI=> ?_) E.length N 0 [] (by omega) (by omega) (by omega) ⟨Nat.le_refl _,fun x hx=>nomatch hx⟩
 ·rw[show((0:Nat):Int)=0 from rfl,List.drop_zero,List.sum_nil,gG]at this
  exact this
 ·unfold bx.D9 bx.Dp
  have sJ:=tc hq j
  have fa:=sJ
  unfold aC dg at fa
  have hb:=FB hI.2
  rw[aD (by omega),cond_true,aG (by omega) (by omega),cond_true,cond_true,cond_true,Int.toNat_natCast,fH N (by omega) fa.1 fa.2,Option.bind_some,fT N (by omega) ((um (n:=ws.length) (by omega) hb.1 hb.2).mono (by omega)) ((Fit.i64 fa.1 fa.2).mono (by omega)),Option.bind_some,al (x:=(j:Int)+1) (by omega) (by omega),aa j,aA,aA]
  by_cases h1:(E.getD j aS).1=(a:Int)
  ·by_cases h2:(E.getD j aS).2.1=(b:Int)
   ·have hc:bY (a:Int) (b:Int) (E.getD j aS::E.drop (j+1))=dg (E.getD j aS)::bY (a:Int) (b:Int) (E.drop (j+1)):=by rw[c5,if_pos ⟨h1,h2⟩]
    rw[if_pos h1,if_pos h2,hc]
    have:=dx (ws++[dg (E.getD j aS)]) ⟨by rw[List.length_append,List.length_singleton];omega,vN hI.2 sJ⟩
    rw[List.sum_append,List.sum_cons,List.sum_nil,Int.add_zero,List.append_assoc]at this
    refine Eq.trans ?_ this
    rw[show(!(ws++[dg (E.getD j aS)]).isEmpty)=true by cases ws<;>rfl]
    rfl
   ·have hc:bY (a:Int) (b:Int) (E.getD j aS::E.drop (j+1))=bY (a:Int) (b:Int) (E.drop (j+1)):=by rw[c5,if_neg (fun h=>h2 h.2)]
    rw[if_pos h1,if_neg h2,hc]
    exact dx ws ⟨by omega,hI.2⟩
  ·have hc:bY (a:Int) (b:Int) (E.getD j aS::E.drop (j+1))=bY (a:Int) (b:Int) (E.drop (j+1)):=by rw[c5,if_neg (fun h=>h1 h.1)]
   rw[if_neg h1,hc]
   exact dx ws ⟨by omega,hI.2⟩
 ·unfold bx.D9 bx.Dp
  have hs:=FB hI.2
  have Ku:=hF.1
  unfold aC at Ku
  rw[ay (by omega),cond_false,fH N (by omega) Ku.1 Ku.2,Option.bind_some,fT N (by omega) ((um (n:=ws.length) (by omega) hs.1 hs.2).mono (by omega)) ((Fit.i64 Ku.1 Ku.2).mono (by omega)),Option.bind_some,Dn,Option.bind_some,al (x:=(b:Int)+1) (by omega) (by omega),aa b,ba (by rw[List.length_singleton];omega),cond_true,ba (by rw[List.length_singleton];omega),cond_true,cond_not]
  show _=if Fq (q+(ws++[]).sum)then C7 l E (if q+(ws++[]).sum=0 then out else out++[((a:Int),((b:Int),(q+(ws++[]).sum,())))]) p (a:Int) ((b+1:Nat):Int)else some ([],false)
  rw[List.append_nil,Int.add_comm ws.sum q]
  cases ws with
  |nil=>
   show cond (!az q 0) _ _=_
   rw[cond_not,aA,List.sum_nil,Int.add_zero,if_pos hF]
   by_cases h:q=0
   ·rw[if_pos h,if_pos h]
   ·rw[if_neg h,if_neg h]
  |cons w ws=>
   show cond (!(if Fq (q+(w::ws).sum)then(q+(w::ws).sum,true)else(0,false)).2) _ _=_
   by_cases h2:Fq (q+(w::ws).sum)
   ·rw[if_pos h2,if_pos h2]
    dsimp only
    rw[Bool.not_true,cond_false,cond_not,aA]
    by_cases h:q+(w::ws).sum=0
    ·rw[if_pos h,if_pos h]
    ·rw[if_neg h,if_neg h]
   ·rw[if_neg h2,if_neg h2];rfl
end VM
end
section
namespace VM
open Go VM.F
theorem BW{P:Int→Prop} [DecidablePred P]{f:Int→Int→Int}{k:cH}{K:List cH}{out:aj}{v:Int}(hv:f k.1 k.2=v):
  (if P v then q6 (if v=0 then out else out++[(k.1,(k.2,(v,())))]) (dD P f K)else some ([],false))=q6 out (dD P f (k::K)):=by
 rw[kj,hv]
 by_cases h:P v
 ·rw[if_pos h,if_pos h]
  cases dD P f K with
  |none=>rfl
  |some o=>
   show some ((if v=0 then out else out++[(k.1,(k.2,(v,())))])++o,true)=some (out++(if v=0 then o else(k.1,(k.2,(v,())))::o),true)
   by_cases h0:v=0
   ·rw[if_pos h0,if_pos h0]
   ·rw[if_neg h0,if_neg h0,List.append_assoc];rfl
 ·rw[if_neg h,if_neg h];rfl
theorem afd{l:aj}(hs:rN (l.map keyOf))(hl: ∀x∈l,Fq (dg x))(k:cH):Fq (bN k.1 k.2 l):=by
 by_cases hk:k∈l.map keyOf
 ·have hm:xH l k∈rowsOf l (l.map keyOf):=List.mem_map_of_mem hk
  rw[iU hs]at hm
  exact hl (xH l k) hm
 ·rw[dX hk];exact⟨⟨by decide,by decide⟩,by decide⟩
theorem BX(N:Nat)(hN:4000000≤N)(C:bx.aW){l E:aj}(hq:dn E)(hl:E.length≤100000)(hs:rN (l.map keyOf))(CO:l.length≤100000)(hf: ∀x∈l,Fq (dg x))(hw: ∀x∈l,0≤(keyOf x).2∧(keyOf x).2<(6:Nat))(a:Nat)(ha:a≤24)(G:List cH)
  (hc: ∀(p:Nat) (out:aj),Mark l (a+1) 0 p→out.length≤6*(a+1)→C l E out (p:Int) ((a+1:Nat):Int)=q6 out (dD Fq (fS l E) G)):
  ∀(m n b p:Nat) (out:aj),b+m=6→m<n→Mark l a b p→out.length≤6*a+b→bx.l7 N C n l E out (p:Int) (a:Int) (b:Int)=q6 out (dD Fq (fS l E) (uP a b m++G))
 |m,0,b,p,out,_,hn,_,_=>by omega
 |0,n+1,b,p,out,hb,_,hM,ho=>by
  have e:b=6:=by omega
  subst e
  unfold bx.l7 bx.ll
  rw[ay (by omega),cond_false,al (x:=(a:Int)+1) (by omega) (by omega),aa a]
  exact hc p out (hM.row hw) (by omega)
 |m+1,n+1,b,p,out,hb,hn,hM,ho=>by
  have hp:=hM.le
  have ZR: ∀(p:Nat) (v:Int),Mark l a (b+1) p→bx.l7 N C n l E (if v=0 then out else out++[((a:Int),((b:Int),(v,())))]) (p:Int) (a:Int) ((b+1:Nat):Int)=q6 (if v=0 then out else out++[((a:Int),((b:Int),(v,())))]) (dD Fq (fS l E) (uP a (b+1) m++G)):=fun p v h=>
   BX N hN C hq hl hs CO hf hw a ha G hc m n (b+1) p _ (by omega) (by omega) h (by
    split
    ·omega
    ·rw[List.length_append,List.length_singleton];omega)
  have Lk:=afd hs hf ((a:Int),(b:Int))
  unfold bx.l7 bx.ll bx.Da bx.uv
  show _=q6 out (dD Fq (fS l E) (((a:Int),(b:Int))::(uP a (b+1) m++G)))
  rw[aD (x:=(b:Int)) (by omega),cond_true,bP,aA,aA,Int.toNat_natCast]
  have fin: ∀(p:Nat) (q:Int),q=bN (a:Int) (b:Int) l→Mark l a (b+1) p→bx.D9 N C (bx.l7 N C n) N l E out (p:Int) (a:Int) (b:Int) q false (false,(([]:List Int),())) 0=q6 out (dD Fq (fS l E) (((a:Int),(b:Int))::(uP a (b+1) m++G))):=fun p q e h=>by
   subst e
   rw[OP N hN C _ hq hl (by omega) (p:Int) a b (by omega) _ Lk,ZR p _ h]
   exact BW (k:=((a:Int),(b:Int))) rfl
  rcases hM.step hs with⟨h1,h2,h3,h4,h5⟩|⟨h1,h2,h3⟩
  ·rw[if_pos (show(p:Int)<(l.length:Int)by omega),aG (by omega) (by omega),cond_true,cond_true,if_pos h2,if_pos h3,al (x:=(p:Int)+1) (by omega) (by omega),aa p,cond_true]
   exact fin (p+1) _ h4.symm h5
  ·by_cases g1:p<l.length
   ·rw[if_pos (show(p:Int)<(l.length:Int)by omega),aG (by omega) (by omega),cond_true,cond_true]
    by_cases g2:(l.getD p aS).1=(a:Int)
    ·rw[if_pos g2,if_neg (fun g3=>h1 g1 g2 g3)]
     exact fin p _ h2.symm h3
    ·rw[if_neg g2]
     exact fin p _ h2.symm h3
   ·rw[if_neg (show ¬(p:Int)<(l.length:Int)by omega)]
    exact fin p _ h2.symm h3
theorem BY(N:Nat)(hN:4000000≤N){l E:aj}(hq:dn E)(hl:E.length≤100000)(hs:rN (l.map keyOf))(CO:l.length≤100000)(hf: ∀x∈l,Fq (dg x))(hw: ∀x∈l,0≤(keyOf x).2∧(keyOf x).2<(6:Nat)):
  ∀(m n a p:Nat) (out:aj),a+m=25→m<n→Mark l a 0 p→out.length≤6*a→bx.l4 N n l E out (p:Int) (a:Int)=q6 out (dD Fq (fS l E) (sK 6 a m))
 |m,0,a,p,out,_,hn,_,_=>by omega
 |0,n+1,a,p,out,ha,_,hM,ho=>by
  unfold bx.l4 bx.cn
  rw[cv (by omega),cond_false]
  show some (out,true)=some (out++[],true)
  rw[List.append_nil]
 |m+1,n+1,a,p,out,ha,hn,hM,ho=>by
  unfold bx.l4 bx.cn
  rw[cB (by omega),cond_true]
  exact BX N hN _ hq hl hs CO hf hw a (by omega) (sK 6 (a+1) m) (fun p out h ho=>BY N hN hq hl hs CO hf hw m n (a+1) p out (by omega) (by omega) h ho) 6 N 0 p out (by omega) (by omega) hM (by omega)
def tf:List cH:=sK 6 0 25
theorem IW(N:Nat)(hN:4000000≤N){l E:aj}(hk:cR l=true)(hl:l.length≤90000)(ON:dn l)(hq:dn E)(hE:E.length≤100000):bx N l E=q6 [] (dD Fq (fS l E) tf):=by
 obtain⟨hs,D8⟩:=gr hk
 unfold bx bx.b
 refine BY N hN hq hE hs (by omega) (fun x hx=>⟨ON x hx,(D8 x hx).2⟩) (fun x hx=> ?_) 25 N 0 0 [] (by omega) (by omega) ⟨by omega,fun x hx=>(nomatch hx),fun x hx dF=> ?_⟩ (by simp)
 ·have h:bM (keyOf x).1 (keyOf x).2:=(D8 x hx).1
  unfold bM at h;omega
 ·have h:bM (keyOf x).1 (keyOf x).2:=(D8 x (List.mem_of_mem_drop hx)).1
  unfold bM at h
  have qE:(keyOf x).1<((0:Nat):Int)∨((keyOf x).1=((0:Nat):Int)∧(keyOf x).2<((0:Nat):Int)):=dF
  omega
theorem Mb{l E:aj}(hk:cR l=true)(hp: ∀x∈E,bM x.1 x.2.1):dD Fq (fS l E) (jz (l.map keyOf) E)=dD Fq (fS l E) tf:=by
 obtain⟨hs,D8⟩:=gr hk
 refine FE ⟨⟨by decide,by decide⟩,by decide⟩ (td hs) (vO 6 25 0) (fun k hk=> ?_) (fun k hk hn=> ?_)
 ·have:bM k.1 k.2:=by
   rcases iL.1 hk with h|⟨x,hx,rfl⟩
   ·obtain⟨x,hx,rfl⟩:=List.mem_map.1 h
    exact(D8 x hx).1
   ·exact hp x hx
  unfold bM at this
  exact rS.2 (by omega)
 ·have h1:k∉l.map keyOf:=fun h=>hn (iL.2 (Or.inl h))
  have h2:k∉E.map keyOf:=fun h=>by
   obtain⟨x,hx,e⟩:=List.mem_map.1 h
   exact hn (iL.2 (Or.inr ⟨x,hx,e⟩))
  unfold fS
  rw[dX h1,dX h2];rfl
end VM
end
