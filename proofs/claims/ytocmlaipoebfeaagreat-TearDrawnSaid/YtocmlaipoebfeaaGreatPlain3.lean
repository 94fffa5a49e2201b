/- A part of the proof of TearDrawn of layer 29: what the functions compute, in plain words. -/
import Derived.Test.YtocmlaipoebfeaaGreatPlain2
import Derived.Test.YtocmlaipoebfeaaGreatVm6
import Derived.Test.YtocmlaipoebfeaaGreatPlain1
import Derived.Test.YtocmlaipoebfeaaGreatPlain0
set_option linter.all false
section
namespace VM
open Go VM.F
def Dq(E:aj):Prop:= ∀x∈E,eg (dg x)
def gK(r:cy):pE:=(r.1,(r.2.1,(cC (dg r),())))
theorem Dr(E:aj)(i:Nat):(E.map gK).getD i ((0:Int),((0:Int),(cc,())))=gK (E.getD i aS):=by
 by_cases h:i<E.length
 ·rw[List.getD_eq_getElem?_getD,List.getElem?_map,List.getElem?_eq_getElem h,List.getD_eq_getElem?_getD,List.getElem?_eq_getElem h];rfl
 ·rw[List.getD_eq_getElem?_getD,List.getElem?_eq_none (by rw[List.length_map];omega),List.getD_eq_getElem?_getD,List.getElem?_eq_none (by omega)];rfl
theorem Ds{l:aj}(h:Dq l)(i:Nat):eg (dg (l.getD i aS)):=by
 by_cases hi:i<l.length
 ·rw[List.getD_eq_getElem?_getD,List.getElem?_eq_getElem hi];exact h _ (List.getElem_mem hi)
 ·rw[List.getD_eq_getElem?_getD,List.getElem?_eq_none (by omega)];exact⟨by decide,by decide⟩
theorem zu{x:Int}(h:aC x):eg x:=by unfold aC at h;unfold eg;omega
theorem tg{ws:List Int}{x:Int}(h: ∀y∈ws,eg y)(hx:eg x): ∀y∈ws++[x],eg y:=fun y hy=>by
 rcases List.mem_append.1 hy with hy|hy
 ·exact h y hy
 ·rw[List.mem_singleton.1 hy];exact hx
theorem OQ(N:Nat){l:aj}:ZS N l=some l:=FF N
theorem OR(N:Nat)(hN:2000000≤N)(K:bw.BZ){E out R:aj}(hq:Dq E)(hl:E.length≤100000)(ho:out.length≤1000000)(r:cy)(hr:aC (dg r))(i:Nat)(hi:i≤1000000):
  bw.IX N K N (E.map gK) out r [cC (dg r)] R (R.length:Int) (i:Int) (E.map gK) ((E.map gK).length:Int) 0=
   if aC (dg r+bN r.1 r.2.1 E)then K (E.map gK) (if dg r+bN r.1 r.2.1 E=0 then out else out++[(r.1,(r.2.1,(dg r+bN r.1 r.2.1 E,())))]) R (R.length:Int) ((i+1:Nat):Int)else some (bp,(2:Int)):=by
 have:=nH E aS (fun n j ws=>bw.IX N K n (E.map gK) out r (ws.map cC) R (R.length:Int) (i:Int) (E.map gK) ((E.map gK).length:Int) j)
  (fun t ws=>if aC (ws++bY r.1 r.2.1 t).sum then K (E.map gK) (if(ws++bY r.1 r.2.1 t).sum=0 then out else out++[(r.1,(r.2.1,((ws++bY r.1 r.2.1 t).sum,())))]) R (R.length:Int) ((i+1:Nat):Int)else some (bp,(2:Int)))
  (fun j (ws:List Int)=>ws.length≤j+1∧ ∀x∈ws,eg x)
  (fun n j ws hj hI dx=> ?_) (fun n ws hI=> ?_) E.length N 0 [dg r] (by omega) (by omega) (by omega) ⟨Nat.le_refl _,fun x hx=>by rw[List.mem_singleton.1 hx];exact zu hr⟩
 ·rw[show((0:Nat):Int)=0 from rfl,List.drop_zero]at this
  refine this.trans ?_
  have e:([dg r]++bY r.1 r.2.1 E).sum=dg r+bN r.1 r.2.1 E:=by rw[List.singleton_append,List.sum_cons];rfl
  rw[e]
 ·unfold bw.IX bw.FH
  rw[aD (by rw[List.length_map];omega),cond_true,aG (by omega) (by rw[List.length_map];omega),cond_true,Int.toNat_natCast,Dr,ba (by rw[List.length_map,List.length_singleton];omega),cond_true,al (x:=(j:Int)+1) (by omega) (by omega),aa j,aA,aA]
  by_cases h1:(E.getD j aS).1=r.1
  ·by_cases h2:(E.getD j aS).2.1=r.2.1
   ·have hc:bY r.1 r.2.1 (E.getD j aS::E.drop (j+1))=dg (E.getD j aS)::bY r.1 r.2.1 (E.drop (j+1)):=by rw[c5,if_pos ⟨h1,h2⟩]
    rw[if_pos (show(gK (E.getD j aS)).1=r.1 from h1),if_pos (show(gK (E.getD j aS)).2.1=r.2.1 from h2),hc]
    have:=dx (ws++[dg (E.getD j aS)]) ⟨by rw[List.length_append,List.length_singleton];omega,tg hI.2 (Ds hq j)⟩
    rw[List.map_append]at this
    refine this.trans ?_
    rw[List.append_assoc];rfl
   ·have hc:bY r.1 r.2.1 (E.getD j aS::E.drop (j+1))=bY r.1 r.2.1 (E.drop (j+1)):=by rw[c5,if_neg (fun h=>h2 h.2)]
    rw[if_pos (show(gK (E.getD j aS)).1=r.1 from h1),if_neg (show ¬(gK (E.getD j aS)).2.1=r.2.1 from h2),hc]
    exact dx ws ⟨by omega,hI.2⟩
  ·have hc:bY r.1 r.2.1 (E.getD j aS::E.drop (j+1))=bY r.1 r.2.1 (E.drop (j+1)):=by rw[c5,if_neg (fun h=>h1 h.1)]
   rw[if_neg (show ¬(gK (E.getD j aS)).1=r.1 from h1),hc]
   exact dx ws ⟨by omega,hI.2⟩
 ·unfold bw.IX bw.FH
  rw[ay (by rw[List.length_map];omega),cond_false,Dd N hI.2 (by omega) (by omega),Option.bind_some]
  show _=if aC (ws++[]).sum then K (E.map gK) (if(ws++[]).sum=0 then out else out++[(r.1,(r.2.1,((ws++[]).sum,())))]) R (R.length:Int) ((i+1:Nat):Int)else some (bp,(2:Int))
  rw[List.append_nil]
  unfold IG
  by_cases h0:eg ws.sum
  ·rw[if_pos h0]
   dsimp only
   rw[zt N h0,Option.bind_some,Bool.not_true,cond_false]
   by_cases h1:aC ws.sum
   ·rw[rP h1]
    dsimp only
    rw[Bool.not_true,cond_false,cond_not,aA,ba (by rw[List.length_singleton];omega),cond_true,al (x:=(i:Int)+1) (by omega) (by omega),aa i,if_pos h1]
    split<;>rfl
   ·rw[uK h1,if_neg h1]
    rfl
  ·rw[if_neg h0,if_neg (fun h=>h0 (zu h))]
   have e:Dc N cc=some (ur 0):=zt N (v:=0) ⟨by decide,by decide⟩
   dsimp only
   rw[e,Option.bind_some]
   rfl
theorem Mc(N:Nat)(hN:2000000≤N){l E R:aj}(hq:Dq E)(hl:E.length≤100000)(hR:R.length≤200000)(hv: ∀r∈R,aC (dg r)∧dg r=bN r.1 r.2.1 l):
  bw.Sm N N (E.map gK) [] R (R.length:Int) 0=pB (dD aC (fS l E) (R.map keyOf)):=by
 have:=nH R aS (fun n i out=>bw.Sm N n (E.map gK) out R (R.length:Int) i) (fun t out=>pB ((dD aC (fS l E) (t.map keyOf)).map (fun o=>out++o))) (fun i (out:aj)=>out.length≤i)
  (fun n i out hi hI hr=> ?_) (fun n out hI=> ?_) R.length N 0 [] (by omega) (by omega) (by omega) (Nat.le_refl _)
 ·rw[show((0:Nat):Int)=0 from rfl,List.drop_zero]at this
  refine this.trans ?_
  simp
 ·unfold bw.Sm bw.Sn
  have hm:R.getD i aS∈R:=by
   rw[List.getD_eq_getElem?_getD,List.getElem?_eq_getElem hi];exact List.getElem_mem hi
  have Ny:=hv _ hm
  have sJ:=Ny.1
  have fa:=sJ
  unfold aC dg at fa
  rw[aD (by omega),cond_true,aG (by omega) (by omega),cond_true,Int.toNat_natCast,vG N fa.1 fa.2,Option.bind_some]
  refine(OR N hN _ hq hl (by omega) _ sJ i (by omega)).trans ?_
  rw[List.map_cons,kj]
  have ef:fS l E (keyOf (R.getD i aS)).1 (keyOf (R.getD i aS)).2=dg (R.getD i aS)+bN (R.getD i aS).1 (R.getD i aS).2.1 E:=by
   show bN _ _ l+bN _ _ E=_
   rw[Ny.2];rfl
  rw[ef]
  generalize hS:dg (R.getD i aS)+bN (R.getD i aS).1 (R.getD i aS).2.1 E=v
  by_cases hF:aC v
  ·rw[if_pos hF,if_pos hF,hr _ (by
    split
    ·omega
    ·rw[List.length_append,List.length_singleton];omega)]
   cases dD aC (fS l E) ((R.drop (i+1)).map keyOf)with
   |none=>rfl
   |some o=>
    show pB (some _)=pB (some _)
    congr 2
    split
    ·rfl
    ·exact List.append_assoc _ _ _
  ·rw[if_neg hF,if_neg hF];rfl
 ·unfold bw.Sm bw.Sn
  rw[ay (by omega),cond_false,OQ,Option.bind_some]
  show _=pB (some (out++[]))
  rw[List.append_nil];rfl
theorem X2(N:Nat)(C:bw.iV){l:aj}{E S:cI}{K:List cH}(hs:rN K)(hl:K.length≤100000)(hf: ∀k∈K,uN k)(x:pE)(k:cH)(hxk:(x.1,x.2.1)=k)(hx:uN k)(hz:zeroAt l K k)(len:Int)(i:Nat)(hi:i≤1000000):
  ∀(m n p:Nat),K.length-p≤m→m<n→p≤K.length→(∀y∈K.take p,oy y k)→
   bw.Md N C n E (rowsOf l K) x (p:Int) S len (i:Int)=C E (rowsOf l (K.take p++q4 k (K.drop p))) S len ((i+1:Nat):Int)
 |m,0,p,_,hn,_,_=>by omega
 |m,n+1,p,hm,hn,hp,hb=>by
  unfold bw.Md bw.IY bw.Nb bw.IC
  rw[cQ,al (x:=(i:Int)+1) (by omega) (by omega),aa i]
  have ex:((x.1,(x.2.1,((0:Int),()))):cy)=(k.1,(k.2,((0:Int),()))):=by rw[←hxk]
  by_cases h:p<K.length
  ·have hfk:=hf (K.getD p (0,0)) (by rw[List.getD_eq_getElem?_getD,List.getElem?_eq_getElem h];exact List.getElem_mem h)
   have ho:IK N x.1 x.2.1 ((rowsOf l K).getD p aS)=some (vH k.1 k.2 (K.getD p (0,0)).1 (K.getD p (0,0)).2):=by
    rw[BT l h]
    rw[←hxk]at hx ⊢
    exact zh N hx.1 hx.2 hfk.1 hfk.2
   rw[aD (by omega),cond_true,aG (by omega) (by omega),cond_true,Int.toNat_natCast,ho,Option.bind_some,cf (x:=(p:Int)) (by omega),cond_false,cond_true,Option.bind_some,bP,cond_not,aA,Kz h]
   by_cases h1:oy (K.getD p (0,0)) k
   ·rw[if_pos (uM.2 h1),if_pos h1,al (x:=(p:Int)+1) (by omega) (by omega),aa p,uO h]
    refine X2 N C hs hl hf x k hxk hx hz len i hi (m-1) n (p+1) (by omega) (by omega) (by omega) fun y hy=> ?_
    rw[←List.take_append_getElem h]at hy
    rcases List.mem_append.1 hy with hy|hy
    ·exact hb y hy
    ·rw[List.getD_eq_getElem?_getD,List.getElem?_eq_getElem h]at h1
     rw[List.mem_singleton.1 hy];exact h1
   ·rw[if_neg (fun h=>h1 (uM.1 h)),if_neg h1]
    by_cases h2:K.getD p (0,0)=k
    ·rw[if_pos (rQ.2 h2),if_pos h2,List.take_append_drop]
    ·rw[if_neg (fun h=>h2 (rQ.1 h)),if_neg h2,yl N (by rw[cQ];omega) (by rw[cQ];omega),Option.bind_some]
     have Az:=hz (pD hs hb (KA hs h h1 h2))
     have e:=pC l K p k
     rw[←rR Az]at e
     refine Eq.trans ?_ (congrArg (fun R=>C E R S len ((i+1:Nat):Int)) e)
     exact congrArg (fun z:cy=>C E ((rowsOf l K).take p++z::(rowsOf l K).drop p) S len ((i+1:Nat):Int)) ex
  ·have hd:K.drop p=[]:=List.drop_eq_nil_of_le (by omega)
   rw[ay (by omega),cond_false,ck (by omega),cond_true,yl N (by rw[cQ];omega) (by rw[cQ];omega),Option.bind_some]
   have Az:=hz (pD hs hb (by rw[hd];exact fun x hx=>nomatch hx))
   have e:=pC l K p k
   rw[←rR Az]at e
   have e2:q4 k (K.drop p)=k::K.drop p:=by rw[hd];rfl
   rw[e2]
   refine Eq.trans ?_ (congrArg (fun R=>C E R S len ((i+1:Nat):Int)) e)
   exact congrArg (fun z:cy=>C E ((rowsOf l K).take p++z::(rowsOf l K).drop p) S len ((i+1:Nat):Int)) ex
theorem Me(N:Nat)(hN:2000000≤N){l E:aj}(hq:Dq E)(hE:E.length≤400)(hp: ∀x∈E,uN (keyOf x))(hs:rN (l.map keyOf))(hl:l.length≤90000)(ON:dn l)(D8: ∀x∈l,uN (keyOf x)):
  bw.su N N (E.map gK) l (E.map gK) ((E.map gK).length:Int) 0=pB (dD aC (fS l E) (jz (l.map keyOf) E)):=by
 have:=nH E aS (fun n i K=>bw.su N n (E.map gK) (rowsOf l K) (E.map gK) ((E.map gK).length:Int) i) (fun t K=>pB (dD aC (fS l E) (jz K t)))
  (fun i (K:List cH)=>K.length≤l.length+i∧rN K∧(∀k∈K,uN k)∧ ∀x∈l,keyOf x∈K)
  (fun n i K hi hI hr=> ?_) (fun n K hI=> ?_) E.length N 0 (l.map keyOf) (by omega) (by omega) (by omega) ⟨by rw[List.length_map];omega,hs,fun k hk=>by
   obtain⟨x,hx,rfl⟩:=List.mem_map.1 hk
   exact D8 x hx,fun x hx=>List.mem_map_of_mem hx⟩
 ·rw[show((0:Nat):Int)=0 from rfl,List.drop_zero]at this
  simp only[iU hs]at this
  exact this
 ·unfold bw.su bw.qX
  obtain⟨h1,h2,h3,h4⟩:=hI
  have hm:E.getD i aS∈E:=by
   rw[List.getD_eq_getElem?_getD,List.getElem?_eq_getElem hi];exact List.getElem_mem hi
  rw[aD (by rw[List.length_map];omega),cond_true,aG (by omega) (by rw[List.length_map];omega),cond_true,Int.toNat_natCast,Dr]
  refine(X2 N _ h2 (by omega) h3 (gK (E.getD i aS)) (keyOf (E.getD i aS)) rfl (hp _ hm) (fun hk=>dX fun hx=>hk (by
   obtain⟨x,hx,e⟩:=List.mem_map.1 hx
   rw[←e];exact h4 x hx)) ((E.map gK).length:Int) i (by omega) K.length N 0 (by omega) (by omega) (by omega) (fun y hy=>nomatch hy)).trans ?_
  rw[List.take_zero,List.nil_append,List.drop_zero,n6]
  refine hr (q4 (keyOf (E.getD i aS)) K) ⟨Nat.le_trans (zs _ K) (by omega),uI h2,fun k hk=>(mV.1 hk).elim (fun e=>e▸hp _ hm) (h3 k),fun x hx=>mV.2 (Or.inr (h4 x hx))⟩
 ·unfold bw.su bw.qX
  obtain⟨h1,h2,h3,h4⟩:=hI
  rw[ay (by rw[List.length_map];omega),cond_false,cQ,br (by omega) (by omega) (by omega),cond_true]
  have:=Mc N hN (l:=l) (R:=rowsOf l K) hq (by omega) (by rw[cQ];omega) (fun r hr=>by
   unfold rowsOf at hr
   obtain⟨k,hk,rfl⟩:=List.mem_map.1 hr
   refine⟨?_,rfl⟩
   show aC (bN k.1 k.2 l)
   by_cases hkl:k∈l.map keyOf
   ·have e:rowsOf l (l.map keyOf)=l:=iU hs
    have hm:xH l k∈rowsOf l (l.map keyOf):=List.mem_map_of_mem hkl
    rw[e]at hm
    exact ON (xH l k) hm
   ·rw[dX hkl];exact⟨by decide,by decide⟩)
  rw[wX,cQ]at this
  exact this
theorem th{l:aj}(h:e9 l=true):rN (l.map keyOf)∧(∀x∈l,eS x.1 x.2.1):=by
 unfold e9 at h
 rw[Bool.and_true]at h
 have h':=of_decide_eq_true h
 have get: ∀(i:Nat) (hi:i<l.length),l.getD i aS=l[i]:=fun i hi=>by rw[List.getD_eq_getElem?_getD,List.getElem?_eq_getElem hi];rfl
 have OO: ∀i,i+1<l.length→oy (keyOf (l.getD i aS)) (keyOf (l.getD (i+1) aS)):=fun i hi=>(h' (i+1) hi).2.2 (by omega)
 have dF: ∀j,j<l.length→ ∀i,i<j→oy (keyOf (l.getD i aS)) (keyOf (l.getD j aS)):=by
  intro j
  induction j with
  |zero=>intro _ i hi;omega
  |succ j ih=>
   intro hj i hi
   by_cases e:i=j
   ·rw[e];exact OO j hj
   ·exact rO (ih (by omega) i (by omega)) (OO j hj)
 refine⟨?_,fun x hx=> ?_⟩
 ·refine List.pairwise_map.2 (List.pairwise_iff_getElem.2 fun i j hi hj nR=> ?_)
  have:=dF j hj i nR
  rw[get i hi,get j hj]at this
  exact this
 ·obtain⟨i,hi,e⟩:=List.getElem_of_mem hx
  have:=h' i hi
  unfold ig iI at this
  rw[get i hi,e]at this
  exact this.1
structure KC(E:aj):Prop where
 key: ∀x∈E,eS x.1 x.2.1
 q:Dq E
 len:E.length≤400
 zero:(E.map dg).sum=0
theorem KD{x:cy}(h:eS x.1 x.2.1):uN (keyOf x):=by
 have h':eS (keyOf x).1 (keyOf x).2:=h
 unfold eS at h'
 unfold uN A7
 omega
theorem OS(N:Nat)(hN:2000000≤N){l E:aj}(hk:e9 l=true)(hl:l.length≤90000)(ON:dn l)(g:KC E):bw N l (E.map gK)=pB (dD aC (fS l E) (jz (l.map keyOf) E)):=by
 obtain⟨hs,D8⟩:=th hk
 have hE:=g.len
 unfold bw bw.b
 rw[De N (by omega) (by omega),hk,Option.bind_some,Bool.not_true,cond_false,ay (by rw[List.length_map];omega),cond_false,br (by omega) (by omega) (by rw[List.length_map];omega),cond_true]
 have:=nH E aS (fun n i (ws:List Int)=>bw.l5 N n l (E.map gK) (ws.map cC) (E.map gK) ((E.map gK).length:Int) i)
  (fun t ws=>if(ws++t.map dg).sum=0 then pB (dD aC (fS l E) (jz (l.map keyOf) E))else none)
  (fun j (ws:List Int)=>ws.length≤j∧(ws++(E.drop j).map dg).sum=0∧ ∀x∈ws,eg x)
  (fun n i ws hi hI hr=> ?_) (fun n ws hI=> ?_) E.length N 0 [] (by omega) (by omega) (by omega) ⟨Nat.le_refl _,g.zero,fun x hx=>nomatch hx⟩
 ·rw[show((0:Nat):Int)=0 from rfl,List.drop_zero]at this
  refine Eq.trans this ?_
  rw[List.nil_append,if_pos g.zero]
 ·unfold bw.l5 bw.dq
  have hm:E.getD i aS∈E:=by
   rw[List.getD_eq_getElem?_getD,List.getElem?_eq_getElem hi];exact List.getElem_mem hi
  have RB:II N (gK (E.getD i aS)).1 (gK (E.getD i aS)).2.1=some true:=by
   rw[IH]
   exact congrArg some (decide_eq_true (g.key _ hm))
  rw[aD (by rw[List.length_map];omega),cond_true,aG (by omega) (by rw[List.length_map];omega),cond_true,Int.toNat_natCast,Dr,RB,Option.bind_some,Bool.not_true,cond_false,ba (by rw[List.length_map,List.length_singleton];omega),cond_true,al (x:=(i:Int)+1) (by omega) (by omega),aa i]
  have h0:=hI.2.1
  rw[drop_cons hi aS,List.map_cons]at h0
  have:=hr (ws++[dg (E.getD i aS)]) ⟨by rw[List.length_append,List.length_singleton];omega,by rw[List.append_assoc];exact h0,tg hI.2.2 (Ds g.q i)⟩
  rw[List.map_append]at this
  refine this.trans ?_
  rw[List.append_assoc];rfl
 ·unfold bw.l5 bw.dq
  have h0:=hI.2.1
  rw[List.drop_length,List.map_nil,List.append_nil]at h0
  rw[ay (by rw[List.length_map];omega),cond_false,Dd N hI.2.2 (by omega) (by omega),Option.bind_some,h0]
  have e0:IG 0=(cC 0,true):=by unfold IG;exact if_pos ⟨by decide,by decide⟩
  rw[e0]
  dsimp only
  rw[Bool.not_true,cond_false,uE,Option.bind_some,show rJ 0=0 from rfl,ck rfl,Bool.not_true,cond_false,q5 N (by omega),Option.bind_some]
  rw[List.map_nil,List.append_nil,if_pos h0]
  exact Me N hN g.q hE (fun x hx=>KD (g.key x hx)) hs hl ON (fun x hx=>KD (D8 x hx))
end VM
end
section
namespace VM
open Go VM.F
def jS(r:cy):ZT:=(r.1,(r.2.1,(cg (dg r),())))
theorem OT{E:aj}{i:Nat}(h:i<E.length):(E.map jS).getD i ((0:Int),((0:Int),((false,ld),())))=jS (E.getD i aS):=by
 rw[List.getD_eq_getElem?_getD,List.getElem?_map,List.getElem?_eq_getElem h,List.getD_eq_getElem?_getD,List.getElem?_eq_getElem h];rfl
theorem IZ{v:Int}{n:Nat}(hn:n≤1000000)(h0: -(170141183460469231731687303715884105728*(n:Int))≤v)(h1:v≤170141183460469231731687303715884105728*(n:Int)):Fit v 900000:=by
 have h5:Fit v 5:=by
  unfold Fit
  rw[show(4294967296:Nat)^5=1461501637330902918203684832716283019655932542976 from rfl]
  omega
 exact h5.mono (by omega)
theorem So{v:Int}(h:eg v):Fit v 900000:=IZ (n:=1) (by omega) (by have:=h.1;omega) (by have:=h.2;omega)
theorem Mf(N:Nat)(hN:4000000≤N){E:aj}(hq:Dq E)(hl:E.length≤100000)(q a b:Int)(hF:aC q):jA N q a b (E.map jS)=some (ur (q+bN a b E)):=by
 unfold jA jA.b
 have:=nH E aS (fun n j ws=>jA.l3 N n q a b (E.map jS) (cg ws.sum) (!ws.isEmpty) j)
  (fun t ws=>some (ur (q+(ws++bY a b t).sum)))
  (fun j (ws:List Int)=>ws.length≤j∧ ∀x∈ws,eg x)
  (fun n j ws hj hI dx=> ?_) (fun n ws hI=> ?_) E.length N 0 [] (by omega) (by omega) (by omega) ⟨Nat.le_refl _,fun x hx=>nomatch hx⟩
 ·rw[show((0:Nat):Int)=0 from rfl,List.drop_zero,List.sum_nil,gG]at this
  exact this
 ·unfold jA.l3 jA.g7
  have Sp:=Ds hq j
  have hb:=IF hI.2
  have CL:uk N (cg ws.sum) (jS (E.getD j aS)).2.2.1=some (cg (ws.sum+dg (E.getD j aS))):=fT N (by omega) (IZ (n:=ws.length) (by omega) hb.1 hb.2) (So Sp)
  rw[aD (by rw[List.length_map];omega),cond_true,aG (by omega) (by rw[List.length_map];omega),cond_true,cond_true,cond_true,Int.toNat_natCast,OT hj,CL,Option.bind_some,al (x:=(j:Int)+1) (by omega) (by omega),aa j,aA,aA]
  by_cases h1:(E.getD j aS).1=a
  ·by_cases h2:(E.getD j aS).2.1=b
   ·have hc:bY a b (E.getD j aS::E.drop (j+1))=dg (E.getD j aS)::bY a b (E.drop (j+1)):=by rw[c5,if_pos ⟨h1,h2⟩]
    rw[if_pos (show(jS (E.getD j aS)).1=a from h1),if_pos (show(jS (E.getD j aS)).2.1=b from h2),hc]
    have:=dx (ws++[dg (E.getD j aS)]) ⟨by rw[List.length_append,List.length_singleton];omega,tg hI.2 Sp⟩
    rw[List.sum_append,List.sum_cons,List.sum_nil,Int.add_zero,List.append_assoc]at this
    refine Eq.trans ?_ this
    rw[show(!(ws++[dg (E.getD j aS)]).isEmpty)=true by cases ws<;>rfl]
   ·have hc:bY a b (E.getD j aS::E.drop (j+1))=bY a b (E.drop (j+1)):=by rw[c5,if_neg (fun h=>h2 h.2)]
    rw[if_pos (show(jS (E.getD j aS)).1=a from h1),if_neg (show ¬(jS (E.getD j aS)).2.1=b from h2),hc]
    exact dx ws ⟨by omega,hI.2⟩
  ·have hc:bY a b (E.getD j aS::E.drop (j+1))=bY a b (E.drop (j+1)):=by rw[c5,if_neg (fun h=>h1 h.1)]
   rw[if_neg (show ¬(jS (E.getD j aS)).1=a from h1),hc]
   exact dx ws ⟨by omega,hI.2⟩
 ·unfold jA.l3 jA.g7
  have hs:=IF hI.2
  have Ku:=hF
  unfold aC at Ku
  rw[ay (by rw[List.length_map];omega),cond_false,fH N (by omega) Ku.1 Ku.2,Option.bind_some,fT N (by omega) (IZ (n:=ws.length) (by omega) hs.1 hs.2) ((Fit.i64 Ku.1 Ku.2).mono (by omega)),Option.bind_some,oh,Option.bind_some,cond_not]
  show _=some (ur (q+(ws++[]).sum))
  rw[List.append_nil,Int.add_comm ws.sum q]
  cases ws with
  |nil=>
   show some (q,true)=some (ur (q+0))
   rw[Int.add_zero,rP hF]
  |cons w ws=>rfl
theorem Sq{l:aj}(hs:rN (l.map keyOf))(hl:dn l)(k:cH):aC (bN k.1 k.2 l):=by
 by_cases hk:k∈l.map keyOf
 ·have hm:xH l k∈rowsOf l (l.map keyOf):=List.mem_map_of_mem hk
  rw[iU hs]at hm
  exact hl (xH l k) hm
 ·rw[dX hk];exact⟨by decide,by decide⟩
theorem FI(N:Nat)(hN:4000000≤N)(C:cq.aW){l E:aj}(hq:Dq E)(hl:E.length≤100000)(hs:rN (l.map keyOf))(CO:l.length≤100000)(hf:dn l)(hw: ∀x∈l,0≤(keyOf x).2∧(keyOf x).2<(25:Nat))(a:Nat)(ha:a≤24)(G:List cH)
  (hc: ∀(p:Nat) (out:aj),Mark l (a+1) 0 p→out.length≤25*(a+1)→C l (E.map jS) out (p:Int) ((a+1:Nat):Int)=q6 out (dD aC (fS l E) G)):
  ∀(m n b p:Nat) (out:aj),b+m=25→m<n→Mark l a b p→out.length≤25*a+b→cq.l7 N C n l (E.map jS) out (p:Int) (a:Int) (b:Int)=q6 out (dD aC (fS l E) (uP a b m++G))
 |m,0,b,p,out,_,hn,_,_=>by omega
 |0,n+1,b,p,out,hb,_,hM,ho=>by
  have e:b=25:=by omega
  subst e
  unfold cq.l7 cq.ll
  rw[cv (by omega),cond_false,al (x:=(a:Int)+1) (by omega) (by omega),aa a]
  exact hc p out (hM.row hw) (by omega)
 |m+1,n+1,b,p,out,hb,hn,hM,ho=>by
  have hp:=hM.le
  have ZR: ∀(p:Nat) (v:Int),Mark l a (b+1) p→cq.l7 N C n l (E.map jS) (if v=0 then out else out++[((a:Int),((b:Int),(v,())))]) (p:Int) (a:Int) ((b+1:Nat):Int)=q6 (if v=0 then out else out++[((a:Int),((b:Int),(v,())))]) (dD aC (fS l E) (uP a (b+1) m++G)):=fun p v h=>
   FI N hN C hq hl hs CO hf hw a ha G hc m n (b+1) p _ (by omega) (by omega) h (by
    split
    ·omega
    ·rw[List.length_append,List.length_singleton];omega)
  have Lk:=Sq hs hf ((a:Int),(b:Int))
  unfold cq.l7 cq.ll
  show _=q6 out (dD aC (fS l E) (((a:Int),(b:Int))::(uP a (b+1) m++G)))
  rw[cB (x:=(b:Int)) (by omega),cond_true,bP,aA,aA,Int.toNat_natCast]
  have fin: ∀(p:Nat) (q:Int),q=bN (a:Int) (b:Int) l→Mark l a (b+1) p→cq.Da N C (cq.l7 N C n) l (E.map jS) out (p:Int) (a:Int) (b:Int) q=q6 out (dD aC (fS l E) (((a:Int),(b:Int))::(uP a (b+1) m++G))):=fun p q e h=>by
   subst e
   unfold cq.Da cq.uv
   rw[Mf N hN hq hl _ _ _ Lk,Option.bind_some]
   refine Eq.trans ?_ (BW (k:=((a:Int),(b:Int))) (v:=bN (a:Int) (b:Int) l+bN (a:Int) (b:Int) E) rfl)
   generalize bN (a:Int) (b:Int) l+bN (a:Int) (b:Int) E=v
   have hr:=ZR p v h
   by_cases hv:aC v
   ·rw[rP hv,if_pos hv]
    dsimp only
    rw[Bool.not_true,cond_false,cond_not,aA,ba (by rw[List.length_singleton];omega),cond_true,al (x:=(b:Int)+1) (by omega) (by omega),aa b,←hr]
    split<;>rfl
   ·rw[uK hv,if_neg hv];rfl
  rcases hM.step hs with⟨h1,h2,h3,h4,h5⟩|⟨h1,h2,h3⟩
  ·rw[if_pos (show(p:Int)<(l.length:Int)by omega),aG (by omega) (by omega),cond_true,cond_true,if_pos h2,if_pos h3,al (x:=(p:Int)+1) (by omega) (by omega),aa p,cond_true]
   exact fin (p+1) _ h4.symm h5
  ·by_cases g1:p<l.length
   ·rw[if_pos (show(p:Int)<(l.length:Int)by omega),aG (by omega) (by omega),cond_true,cond_true]
    by_cases g2:(l.getD p aS).1=(a:Int)
    ·rw[if_pos g2,if_neg (fun g3=>h1 g1 g2 g3)]
     exact fin p _ h2.symm h3
    ·rw[if_neg g2]
     exact fin p _ h2.symm h3
   ·rw[if_neg (show ¬(p:Int)<(l.length:Int)by omega)]
    exact fin p _ h2.symm h3
theorem FJ(N:Nat)(hN:4000000≤N){l E:aj}(hq:Dq E)(hl:E.length≤100000)(hs:rN (l.map keyOf))(CO:l.length≤100000)(hf:dn l)(hw: ∀x∈l,0≤(keyOf x).2∧(keyOf x).2<(25:Nat)):
  ∀(m n a p:Nat) (out:aj),a+m=8→m<n→Mark l a 0 p→out.length≤25*a→cq.l4 N n l (E.map jS) out (p:Int) (a:Int)=q6 out (dD aC (fS l E) (sK 25 a m))
 |m,0,a,p,out,_,hn,_,_=>by omega
 |0,n+1,a,p,out,ha,_,hM,ho=>by
  unfold cq.l4 cq.cn
  rw[cv (by omega),cond_false]
  show some (out,true)=some (out++[],true)
  rw[List.append_nil]
 |m+1,n+1,a,p,out,ha,hn,hM,ho=>by
  unfold cq.l4 cq.cn
  rw[cB (by omega),cond_true]
  exact FI N hN _ hq hl hs CO hf hw a (by omega) (sK 25 (a+1) m) (fun p out h ho=>FJ N hN hq hl hs CO hf hw m n (a+1) p out (by omega) (by omega) h ho) 25 N 0 p out (by omega) (by omega) hM (by omega)
def zv:List cH:=sK 25 1 7
theorem Sr(N:Nat)(hN:4000000≤N){l E:aj}(hk:e9 l=true)(hl:l.length≤90000)(ON:dn l)(hq:Dq E)(hE:E.length≤100000):cq N l (E.map jS)=q6 [] (dD aC (fS l E) zv):=by
 obtain⟨hs,D8⟩:=th hk
 unfold cq cq.b
 refine FJ N hN hq hE hs (by omega) ON (fun x hx=> ?_) 7 N 1 0 [] (by omega) (by omega) ⟨by omega,fun x hx=>(nomatch hx),fun x hx dF=> ?_⟩ (by simp)
 ·have h:eS (keyOf x).1 (keyOf x).2:=D8 x hx
  unfold eS at h;omega
 ·have h:eS (keyOf x).1 (keyOf x).2:=D8 x (List.mem_of_mem_drop hx)
  unfold eS at h
  have qE:(keyOf x).1<((1:Nat):Int)∨((keyOf x).1=((1:Nat):Int)∧(keyOf x).2<((0:Nat):Int)):=dF
  omega
theorem OU{l E:aj}(hk:e9 l=true)(hp: ∀x∈E,eS x.1 x.2.1):dD aC (fS l E) (jz (l.map keyOf) E)=dD aC (fS l E) zv:=by
 obtain⟨hs,D8⟩:=th hk
 refine FE ⟨by decide,by decide⟩ (td hs) (vO 25 7 1) (fun k hk=> ?_) (fun k hk hn=> ?_)
 ·have:eS k.1 k.2:=by
   rcases iL.1 hk with h|⟨x,hx,rfl⟩
   ·obtain⟨x,hx,rfl⟩:=List.mem_map.1 h
    exact D8 x hx
   ·exact hp x hx
  unfold eS at this
  exact rS.2 (by omega)
 ·have h1:k∉l.map keyOf:=fun h=>hn (iL.2 (Or.inl h))
  have h2:k∉E.map keyOf:=fun h=>by
   obtain⟨x,hx,e⟩:=List.mem_map.1 h
   exact hn (iL.2 (Or.inr ⟨x,hx,e⟩))
  unfold fS
  rw[dX h1,dX h2];rfl
def lT(b:ah)(s e:aj):ah×Int:=
 match dD Fq (fS b.2.2.2.1 s) tf with
 |none=>((bK,(cL,(bp,(bp,(c4,(c9,())))))),2)
 |some s'=>match dD aC (fS b.2.2.1 e) zv with
  |none=>((bK,(cL,(bp,(bp,(c4,(c9,())))))),2)
  |some r'=>((b.1,(b.2.1,(r',(s',b.2.2.2.2)))),0)
theorem OV(N:Nat){b:ah}(w:ly b):Ss N b=some b:=by
 unfold Ss
 have h1:=w.m;have h2:=w.a;have h3:=w.r;have h4:=w.s;have h5:=w.p;have h6:=w.o
 rw[q5 N (by omega),Option.bind_some,q5 N (by omega),Option.bind_some,q5 N (by omega),Option.bind_some,q5 N (by omega),Option.bind_some,q5 N (by omega),Option.bind_some,q5 N (by omega),Option.bind_some]
end VM
end
section
namespace VM
open Go VM.F
theorem OW(N:Nat)(hN:2000000≤N){b:ah}{s e:aj}(w:ly b)(hr:e9 b.2.2.1=true)(hs:cR b.2.2.2.1=true)(lr:b.2.2.1.length≤90000)(ls:b.2.2.2.1.length≤90000)(gs:KB s)(ge:KC e):
  F65 N b s (e.map gK)=some (lT b s e):=by
 unfold F65 lT
 rw[OV N w,Option.bind_some,Sl N hN hs ls w.qs gs,OS N hN hr lr w.qr ge,Mb hs gs.place,OU hr ge.key]
 unfold pB
 rw[Option.bind_some,Option.bind_some]
 have e1:az 2 0=false:=cf (by omega)
 have e2:az 0 0=true:=ck rfl
 cases dD Fq (fS b.2.2.2.1 s) tf with
 |none=>dsimp only;rw[e1];rfl
 |some s'=>
  cases dD aC (fS b.2.2.1 e) zv with
  |none=>dsimp only;rw[e1,e2];rfl
  |some r'=>dsimp only;rw[e2];rfl
theorem Su(N:Nat)(hN:4000000≤N){b:ah}{s e:aj}(w:ly b)(hr:e9 b.2.2.1=true)(hs:cR b.2.2.2.1=true)(lr:b.2.2.1.length≤90000)(ls:b.2.2.2.1.length≤90000)(gs:KB s)(ge:KC e):
  uR N b s (e.map jS)=some (lT b s e):=by
 have h1:=gs.len
 have h2:=ge.len
 unfold uR lT
 rw[IW N hN hs ls w.qs (fun x hx=>(gs.q x hx).1) (by omega),Sr N hN hr lr w.qr ge.q (by omega)]
 unfold q6
 rw[Option.bind_some,Option.bind_some]
 cases dD Fq (fS b.2.2.2.1 s) tf with
 |none=>rfl
 |some s'=>
  cases dD aC (fS b.2.2.1 e) zv with
  |none=>rfl
  |some r'=>rfl
theorem KE(N:Nat)(C:cZ.aW){l:aE}(hl:l.length≤100000)(i:Nat)(hi:i<l.length): ∀(m n k:Nat),i-k≤m→m<n→k≤i→(l.take k).any (mU (l.getD i aN).2.2.1 (l.getD i aN).2.1)=false→
  cZ.l9 N C n l (i:Int) (k:Int)=cond ((l.take i).any (mU (l.getD i aN).2.2.1 (l.getD i aN).2.1)) (some false) (C l ((i+1:Nat):Int))
 |m,0,k,_,hn,_,_=>by omega
 |m,n+1,k,hm,hn,hk,hb=>by
  unfold cZ.l9 cZ.vk
  by_cases h:k<i
  ·have s8:=KE N C hl i hi (m-1) n (k+1) (by omega) (by omega) (by omega)
   have ht:(l.take (k+1)).any (mU (l.getD i aN).2.2.1 (l.getD i aN).2.1)=mU (l.getD i aN).2.2.1 (l.getD i aN).2.1 (l.getD k aN):=by
    have ek:l.getD k aN=l[k]'(by omega):=by rw[List.getD_eq_getElem?_getD,List.getElem?_eq_getElem (show k<l.length by omega)];rfl
    rw[←List.take_append_getElem (show k<l.length by omega),List.any_append,hb,ek,List.any_cons,List.any_nil,Bool.or_false,Bool.false_or]
   have jZ:mU (l.getD i aN).2.2.1 (l.getD i aN).2.1 (l.getD k aN)=true→(l.take i).any (mU (l.getD i aN).2.2.1 (l.getD i aN).2.1)=true:=fun hh=>by
    refine List.any_eq_true.2 ⟨l.getD k aN,?_,hh⟩
    rw[List.getD_eq_getElem?_getD,List.getElem?_eq_getElem (show k<l.length by omega)]
    exact List.mem_take_iff_getElem.2 ⟨k,by omega,rfl⟩
   rw[aD (by omega),cond_true,aG (by omega) (by omega),cond_true,aG (by omega) (by omega),cond_true,cond_true,cond_true,Int.toNat_natCast,Int.toNat_natCast,aA,aA,al (x:=(k:Int)+1) (by omega) (by omega),aa k]
   by_cases h1:(l.getD k aN).2.2.1=(l.getD i aN).2.2.1
   ·by_cases h2:(l.getD k aN).2.1=(l.getD i aN).2.1
    ·rw[if_pos h1,if_pos h2,jZ (by unfold mU eG;rw[decide_eq_true h1,decide_eq_true h2];rfl)];rfl
    ·rw[if_pos h1,if_neg h2]
     exact s8 (by rw[ht];unfold mU eG;rw[decide_eq_false h2,Bool.and_false])
   ·rw[if_neg h1]
    exact s8 (by rw[ht];unfold mU eG;rw[decide_eq_false h1,Bool.false_and])
  ·have:k=i:=by omega
   subst this
   rw[ay (by omega),cond_false,hb,cond_false,al (x:=(k:Int)+1) (by omega) (by omega),aa k]
theorem q7(N:Nat){l:aE}(hl:l.length≤100000)(hN:200000≤N):cZ N l=some (OK l):=by
 unfold cZ cZ.b OK
 by_cases h40:l.length≤40
 ·rw[ay (by omega),cond_false,decide_eq_true h40]
  refine e7 (F:=fun n i=>cZ.l4 N n l i) (uH l) (fun n i r hi hp hr=> ?_) (fun n=> ?_) N (by omega)
  ·unfold cZ.l4 cZ.cn cZ.j8 cZ.H6
   have jZ:cZ.l9 N (cZ.l4 N n) N l (i:Int) 0=_:=KE N (cZ.l4 N n) hl i hi i N 0 (by omega) (by omega) (by omega) rfl
   rw[aD (by omega),cond_true,aG (by omega) (by omega),cond_true,cond_true,Int.toNat_natCast,Kw,Option.bind_some,cond_not,ed,jZ,hr]
   have hT:cond ((l.take i).any (mU (l.getD i aN).2.2.1 (l.getD i aN).2.1)) (some false) r=if(l.take i).any (mU (l.getD i aN).2.2.1 (l.getD i aN).2.1)=false then r else some false:=by
    cases(l.take i).any (mU (l.getD i aN).2.2.1 (l.getD i aN).2.1)<;>rfl
   rw[hT]
   by_cases hK:BQ (l.getD i aN)
   ·rw[if_pos hK]
    have hD:(if uH l i then r else some false)=if oP i (l.getD (i-1) aN).1 (l.getD i aN).1 then(if(l.take i).any (mU (l.getD i aN).2.2.1 (l.getD i aN).2.1)=false then r else some false)else some false:=by
     by_cases h1:oP i (l.getD (i-1) aN).1 (l.getD i aN).1<;>by_cases h2:(l.take i).any (mU (l.getD i aN).2.2.1 (l.getD i aN).2.1)=false
     ·rw[if_pos h1,if_pos h2,if_pos ⟨hK,h1,h2⟩]
     ·rw[if_pos h1,if_neg h2,if_neg (fun h=>h2 h.2.2)]
     ·rw[if_neg h1,if_neg (fun h=>h1 h.2.1)]
     ·rw[if_neg h1,if_neg (fun h=>h1 h.2.1)]
    rw[hD]
    by_cases h0:0<i
    ·have e:W .i64 ((i:Int)-1)=((i-1:Nat):Int):=by rw[al (by omega) (by omega)];omega
     rw[aD (x:=0) (y:=(i:Int)) (by omega),cond_true,e]
     dsimp only
     rw[Int.toNat_natCast,aG (by omega) (by omega),cond_true,bL]
     by_cases h1:oP i (l.getD (i-1) aN).1 (l.getD i aN).1
     ·rw[if_pos h1,if_neg (by unfold oP at h1;omega)]
     ·rw[if_neg h1,if_pos (by unfold oP at h1;omega)]
    ·rw[ay (x:=0) (y:=(i:Int)) (by omega),cond_false,if_pos (show oP i (l.getD (i-1) aN).1 (l.getD i aN).1 from fun h=>absurd h h0)]
   ·rw[if_neg hK,if_neg (fun h=>hK h.1)]
  ·unfold cZ.l4 cZ.cn
   rw[ay (by omega),cond_false]
 ·rw[aD (by omega),cond_true,decide_eq_false h40,Bool.and_false]
end VM
end
section
namespace VM
open Go VM.F
def pF(s w p:Int):Prop:=((s=1∨s=3)∧w=0∧p=0)∨(s=2∧1≤w∧w≤12∧ -1152921504606846976≤p∧p≤1152921504606846976)
instance(s w p:Int):Decidable (pF s w p):=by unfold pF;infer_instance
def zw(a:Int):Prop:=1≤a∧a≤1099511627776
instance(a:Int):Decidable (zw a):=by unfold zw;infer_instance
def leI(a b:Int):Prop:=a≤b
instance(a b:Int):Decidable (leI a b):=by unfold leI;infer_instance
def ym(c:ae)(l:aX)(i:Nat):Prop:=
 zw (l.getD i ((0:Int),(bK,aN))).1∧oP i (l.getD (i-1) ((0:Int),(bK,aN))).1 (l.getD i ((0:Int),(bK,aN))).1∧ ¬eG ((l.getD i ((0:Int),(bK,aN))).2.1.length:Int) 0∧Dj c (l.getD i ((0:Int),(bK,aN))).2.1=true∧leI (l.getD i ((0:Int),(bK,aN))).2.2.1 0∧pF (l.getD i ((0:Int),(bK,aN))).2.2.2.1 (l.getD i ((0:Int),(bK,aN))).2.2.2.2.1 (l.getD i ((0:Int),(bK,aN))).2.2.2.2.2.1
instance(c:ae)(l:aX):DecidablePred (ym c l):=fun i=>by unfold ym;infer_instance
def I0(c:ae)(l:aX):Bool:=fu c&&(decide (l.length≤12)&&(decide (∀j,j<l.length→ym c l j)&&true))
def FK(l:aX):Prop:= ∀x∈l,x.2.1.length≤100000
theorem I1{l:aX}(h:FK l)(i:Nat):(l.getD i ((0:Int),(bK,aN))).2.1.length≤100000:=by
 by_cases hi:i<l.length
 ·rw[List.getD_eq_getElem?_getD,List.getElem?_eq_getElem hi];exact h _ (List.getElem_mem hi)
 ·rw[List.getD_eq_getElem?_getD,List.getElem?_eq_none (by omega)];exact Nat.zero_le _
theorem Sv(s w p:Int)(r:Option Bool):
  cond (az s 1) (cond (!az w 0) (some false) (cond (!az p 0) (some false) r)) (cond (az s 3) (cond (!az w 0) (some false) (cond (!az p 0) (some false) r)) (cond (az s 2) (cond (aH w 1) (some false) (cond (aH 12 w) (some false) (cond (aH p (-1152921504606846976)) (some false) (cond (aH 1152921504606846976 p) (some false) r)))) (some false)))=
   if pF s w p then r else some false:=by
 simp only[cond_not,aA,bP]
 by_cases h:pF s w p
 ·rw[if_pos h];unfold pF at h
  repeat' split
  all_goals first|rfl|omega
 ·rw[if_neg h];unfold pF at h
  repeat' split
  all_goals first|rfl|omega
theorem Mg{A B C D E F:Prop} [Decidable A] [Decidable B] [Decidable C] [Decidable D] [Decidable E] [Decidable F](r:Option Bool):
  (if A then(if B then(if C then(if D then(if E then(if F then r else some false)else some false)else some false)else some false)else some false)else some false)=if A∧B∧C∧D∧E∧F then r else some false:=by
 by_cases hA:A<;>by_cases hB:B<;>by_cases hC:C<;>by_cases hD:D<;>by_cases hE:E<;>by_cases hF:F<;>simp only[hA,hB,hC,hD,hE,hF,if_true,if_false,and_self,and_true,and_false,false_and,true_and]
theorem OX{a b n f s w p:Int}{i:Nat}{o:Bool}{r:Option Bool}:
  cond (aH a 1) (some false) (cond (aH 1099511627776 a) (some false) (if oP i b a then(cond (az n 0) (some false) (cond (!o) (some false) (cond (aH 0 f) (some false) (if pF s w p then r else some false))))else some false))=
   if zw a∧oP i b a∧ ¬eG n 0∧o=true∧leI f 0∧pF s w p then r else some false:=by
 rw[←Mg]
 simp only[cond_not,aA,bP]
 by_cases h1:zw a
 ·have lO:=h1
  unfold zw at lO
  rw[if_pos h1,if_neg (by omega),if_neg (by omega)]
  by_cases h2:oP i b a
  ·rw[if_pos h2,if_pos h2]
   by_cases h3:n=0
   ·rw[if_pos h3,if_neg (show ¬ ¬eG n 0 from fun h=>h h3)]
   ·rw[if_neg h3,if_pos (show ¬eG n 0 from h3)]
    cases o
    ·rfl
    ·rw[cond_true,if_pos rfl]
     by_cases h4:f≤0
     ·rw[if_pos (show leI f 0 from h4),if_neg (by omega)]
     ·rw[if_neg (show ¬leI f 0 from h4),if_pos (by omega)]
  ·rw[if_neg h2,if_neg h2]
 ·have lO:=h1
  unfold zw at lO
  rw[if_neg h1]
  by_cases h2:a<1
  ·rw[if_pos h2]
  ·rw[if_neg h2,if_pos (by omega)]
theorem OY{i:Nat}{a b:Int}{r:Option Bool}(h0:0<i):cond (bV a b) (some false) r=if oP i b a then r else some false:=by
 rw[bL]
 by_cases h1:oP i b a
 ·rw[if_pos h1,if_neg (by unfold oP at h1;omega)]
 ·rw[if_neg h1,if_pos (by unfold oP at h1;omega)]
theorem zx(N:Nat)(hN:200000≤N)(c:ae){l:aX}(hl:l.length≤100000)(hw:FK l):fh N c l=some (I0 c l):=by
 unfold fh fh.b I0
 rw[mS N (by omega),Option.bind_some]
 cases fu c
 ·rfl
 rw[Bool.not_true,cond_false,Bool.true_and]
 by_cases h12:l.length≤12
 ·rw[ay (by omega),cond_false,decide_eq_true h12,Bool.true_and]
  refine e7 (F:=fun n i=>fh.l4 N n l c i) (ym c l) (fun n i r hi hp hr=> ?_) (fun n=> ?_) N (by omega)
  ·unfold fh.l4 fh.cn fh.j9 fh.IE
   rw[aD (by omega),cond_true,aG (by omega) (by omega),cond_true,Int.toNat_natCast,uG N hN c (I1 hw i),Option.bind_some,al (x:=(i:Int)+1) (by omega) (by omega),aa i,hr,Sv]
   refine Eq.trans ?_ OX
   by_cases h0:0<i
   ·have e:W .i64 ((i:Int)-1)=((i-1:Nat):Int):=by rw[al (by omega) (by omega)];omega
    rw[aD (x:=0) (y:=(i:Int)) (by omega),cond_true,e]
    dsimp only
    rw[Int.toNat_natCast,aG (by omega) (by omega),cond_true,OY h0]
   ·rw[ay (x:=0) (y:=(i:Int)) (by omega),cond_false,if_pos (show oP i (l.getD (i-1) ((0:Int),(bK,aN))).1 (l.getD i ((0:Int),(bK,aN))).1 from fun h=>absurd h h0)]
  ·unfold fh.l4 fh.cn
   rw[ay (by omega),cond_false]
 ·rw[aD (by omega),cond_true,decide_eq_false h12,Bool.false_and]
end VM
end
section
namespace VM
open Go VM.F
abbrev AwS:=aj×aj×aX
structure X3(z:AwS)(i:Nat):Prop where
 place: ∀x∈z.1,bM x.1 x.2.1
 q: ∀x∈z.1,aC (dg x)∧ox (dg x)
 len:z.1.length≤12*i
 flat: ∀a:Int,(cU a z.1).sum=0
 key: ∀x∈z.2.1,eS x.1 x.2.1
 qe: ∀x∈z.2.1,aC (dg x)
 ar5:z.2.1.length≤2*i
 zero:(z.2.1.map dg).sum=0
 out:z.2.2.length=i
theorem Bc(a:Int)(l m:aj):cU a (l++m)=cU a l++cU a m:=by
 induction l with
 |nil=>rfl
 |cons x t ih=>
  rw[List.cons_append,dV,dV,ih]
  split<;>rfl
theorem akF{v:Int}(h:aC v∧ox v):aC (0-v)∧ox (0-v):=by
 unfold aC ox at*;omega
theorem X3.nil:X3 ([],[],[]) 0:=⟨fun x hx=>(nomatch hx),fun x hx=>(nomatch hx),Nat.le_refl _,fun a=>rfl,fun x hx=>(nomatch hx),fun x hx=>(nomatch hx),Nat.le_refl _,rfl,rfl⟩
end VM
end
section
namespace VM
open Go VM.F
theorem gL{c:ae}{b:ah}(h:db c b=true):e9 b.2.2.1=true∧cR b.2.2.2.1=true:=by
 unfold db at h
 have h1:=(Bool.and_eq_true_iff.1 (Bool.and_eq_true_iff.1 h).2).2
 have h2:=Bool.and_eq_true_iff.1 h1
 have h3:=(Bool.and_eq_true_iff.1 (Bool.and_eq_true_iff.1 h2.2).2).1
 refine⟨h2.1,?_⟩
 unfold qW at h3
 exact(Bool.and_eq_true_iff.1 h3).2
structure uS(b:ah):Prop where
 w:ly b
 r:b.2.2.1.length≤90000
 s:b.2.2.2.1.length≤90000
end VM
end
section
namespace VM
open Go VM.F
end VM
end
section
namespace VM
open Go VM.F
theorem dz(x:Int):az x x=true:=ck rfl
theorem OZ(x:OC):la (.pair (.int .i64) (.pair (.int .i64) .unit)) x x=true:=by
 show(az x.1 x.1&&(az x.2.1 x.2.1&&true))=true
 rw[dz,dz];rfl
theorem Dt(x:cy):la (.pair (.int .i64) (.pair (.int .i64) (.pair (.int .i64) .unit))) x x=true:=by
 show(az x.1 x.1&&la (.pair (.int .i64) (.pair (.int .i64) .unit)) x.2 x.2)=true
 rw[dz,OZ];rfl
theorem O0(x:bR):la (.pair (.int .i64) (.pair (.int .i64) (.pair (.int .i64) (.pair (.int .i64) .unit)))) x x=true:=by
 show(az x.1 x.1&&la (.pair (.int .i64) (.pair (.int .i64) (.pair (.int .i64) .unit))) x.2 x.2)=true
 rw[dz,Dt];rfl
theorem ZU(x:fM):la (.pair (.int .i64) (.pair (.int .i64) (.pair (.int .i64) (.pair (.int .i64) (.pair (.int .i64) (.pair (.int .i64) .unit)))))) x x=true:=by
 show(az x.1 x.1&&(az x.2.1 x.2.1&&la (.pair (.int .i64) (.pair (.int .i64) (.pair (.int .i64) (.pair (.int .i64) .unit)))) x.2.2 x.2.2))=true
 rw[dz,dz,O0];rfl
theorem iW{F:Nat→Int→Option Bool}{len:Nat}(hs: ∀n (i:Nat),i<len→F n ((i+1:Nat):Int)=some true→F (n+1) (i:Int)=some true)(he: ∀n,F (n+1) (len:Int)=some true): ∀(m n i:Nat),len-i≤m→m<n→i≤len→F n (i:Int)=some true
 |m,0,i,_,hn,_=>by omega
 |m,n+1,i,hm,hn,hi=>by
  by_cases h:i<len
  ·exact hs n i h (iW hs he (m-1) n (i+1) (by omega) (by omega) (by omega))
  ·have:i=len:=by omega
   subst this;exact he n
theorem FL(N:Nat){l:ax}(hl:l.length≤100000)(hN:200000≤N):lA N l l=some true:=by
 unfold lA lA.b
 rw[dz,Bool.not_true,cond_false]
 refine iW (F:=fun n i=>lA.l4 N n l l i) (len:=l.length) (fun n i hi hr=> ?_) (fun n=> ?_) l.length N 0 (by omega) (by omega) (by omega)
 ·unfold lA.l4 lA.cn
  rw[aD (by omega),cond_true,aG (by omega) (by omega),cond_true,cond_true,OZ,Bool.not_true,cond_false,al (x:=(i:Int)+1) (by omega) (by omega),aa i]
  exact hr
 ·unfold lA.l4 lA.cn
  rw[ay (by omega),cond_false]
theorem O1(N:Nat){l:aE}(hl:l.length≤100000)(hN:200000≤N):lB N l l=some true:=by
 unfold lB lB.b
 rw[dz,Bool.not_true,cond_false]
 refine iW (F:=fun n i=>lB.l4 N n l l i) (len:=l.length) (fun n i hi hr=> ?_) (fun n=> ?_) l.length N 0 (by omega) (by omega) (by omega)
 ·unfold lB.l4 lB.cn
  rw[aD (by omega),cond_true,aG (by omega) (by omega),cond_true,cond_true,O0,Bool.not_true,cond_false,al (x:=(i:Int)+1) (by omega) (by omega),aa i]
  exact hr
 ·unfold lB.l4 lB.cn
  rw[ay (by omega),cond_false]
theorem O2(N:Nat){l:aj}(hl:l.length≤100000)(hN:200000≤N):xI N l l=some true:=by
 unfold xI xI.b
 rw[dz,Bool.not_true,cond_false]
 refine iW (F:=fun n i=>xI.l4 N n l l i) (len:=l.length) (fun n i hi hr=> ?_) (fun n=> ?_) l.length N 0 (by omega) (by omega) (by omega)
 ·unfold xI.l4 xI.cn
  rw[aD (by omega),cond_true,aG (by omega) (by omega),cond_true,cond_true,Dt,Bool.not_true,cond_false,al (x:=(i:Int)+1) (by omega) (by omega),aa i]
  exact hr
 ·unfold xI.l4 xI.cn
  rw[ay (by omega),cond_false]
theorem B0(N:Nat){l:aj}(hl:l.length≤100000)(hN:200000≤N):vm N l l=some true:=by
 unfold vm vm.b
 rw[dz,Bool.not_true,cond_false]
 refine iW (F:=fun n i=>vm.l4 N n l l i) (len:=l.length) (fun n i hi hr=> ?_) (fun n=> ?_) l.length N 0 (by omega) (by omega) (by omega)
 ·unfold vm.l4 vm.cn
  rw[aD (by omega),cond_true,aG (by omega) (by omega),cond_true,cond_true,Dt,Bool.not_true,cond_false,al (x:=(i:Int)+1) (by omega) (by omega),aa i]
  exact hr
 ·unfold vm.l4 vm.cn
  rw[ay (by omega),cond_false]
theorem I2(N:Nat){l:a6}(hl:l.length≤100000)(hN:200000≤N):xJ N l l=some true:=by
 unfold xJ xJ.b
 rw[dz,Bool.not_true,cond_false]
 refine iW (F:=fun n i=>xJ.l4 N n l l i) (len:=l.length) (fun n i hi hr=> ?_) (fun n=> ?_) l.length N 0 (by omega) (by omega) (by omega)
 ·unfold xJ.l4 xJ.cn
  rw[aD (by omega),cond_true,aG (by omega) (by omega),cond_true,cond_true,ZU,Bool.not_true,cond_false,al (x:=(i:Int)+1) (by omega) (by omega),aa i]
  exact hr
 ·unfold xJ.l4 xJ.cn
  rw[ay (by omega),cond_false]
theorem O3(N:Nat){l:List (Int)}(hl:l.length≤100000)(hN:200000≤N):xK N l l=some true:=by
 unfold xK xK.b
 rw[dz,Bool.not_true,cond_false]
 refine iW (F:=fun n i=>xK.l4 N n l l i) (len:=l.length) (fun n i hi hr=> ?_) (fun n=> ?_) l.length N 0 (by omega) (by omega) (by omega)
 ·unfold xK.l4 xK.cn
  rw[aD (by omega),cond_true,aG (by omega) (by omega),cond_true,cond_true,dz,Bool.not_true,cond_false,al (x:=(i:Int)+1) (by omega) (by omega),aa i]
  exact hr
 ·unfold xK.l4 xK.cn
  rw[ay (by omega),cond_false]
theorem O4(N:Nat)(hN:200000≤N){b:ah}(h1:b.1.length≤100000)(h2:b.2.1.length≤100000)(h3:b.2.2.1.length≤100000)(h4:b.2.2.2.1.length≤100000)(h5:b.2.2.2.2.1.length≤100000)(h6:b.2.2.2.2.2.1.length≤100000):F57 N b b=some true:=by
 unfold F57
 rw[FL N h1 hN,Option.bind_some,cond_true,O1 N h2 hN,Option.bind_some,cond_true,O2 N h3 hN,Option.bind_some,cond_true,B0 N h4 hN,Option.bind_some,cond_true,O3 N h5 hN,Option.bind_some,cond_true,I2 N h6 hN,Option.bind_some]
theorem zy{P:Int→Prop} [DecidablePred P]{f:Int→Int→Int}: ∀{K:List cH} {o:aj},dD P f K=some o→o.length≤K.length
 |[],o,h=>by
  have:some []=some o:=h
  rw[←Option.some.inj this];exact Nat.le_refl _
 |k::t,o,h=>by
  rw[kj]at h
  by_cases hP:P (f k.1 k.2)
  ·rw[if_pos hP]at h
   cases hc:dD P f t with
   |none=>rw[hc]at h;exact absurd h (by simp)
   |some r=>
    have ih:=zy hc
    rw[hc]at h
    have h':=Option.some.inj h
    rw[←h',List.length_cons]
    dsimp only
    split
    ·omega
    ·rw[List.length_cons];omega
  ·rw[if_neg hP]at h;exact absurd h (by simp)
theorem I3:tf.length=150:=by decide+kernel
theorem Mh:zv.length=175:=by decide+kernel
structure FM(b:ah):Prop where
 m:b.1.length≤100000
 a:b.2.1.length≤100000
 r:b.2.2.1.length≤100000
 s:b.2.2.2.1.length≤100000
 p:b.2.2.2.2.1.length≤100000
 o:b.2.2.2.2.2.1.length≤100000
theorem rT:FM (([]:ax),(([]:aE),(([]:aj),(([]:aj),(([]:List Int),(([]:a6),())))))):=⟨Nat.zero_le _,Nat.zero_le _,Nat.zero_le _,Nat.zero_le _,Nat.zero_le _,Nat.zero_le _⟩
theorem FN{b:ah}(w:ly b)(s e:aj):FM (lT b s e).1:=by
 unfold lT
 cases h1:dD Fq (fS b.2.2.2.1 s) tf with
 |none=>exact rT
 |some s'=>
  cases h2:dD aC (fS b.2.2.1 e) zv with
  |none=>exact rT
  |some r'=>
   have g1:=zy h1
   have g2:=zy h2
   rw[I3]at g1
   rw[Mh]at g2
   exact⟨w.m,w.a,by show r'.length≤_;omega,by show s'.length≤_;omega,w.p,w.o⟩
end VM
end
section
namespace VM
open Go VM.F Go.RowKit
def eY(a b:Int):aj→Int
 |[]=>0
 |x::t=>if x.1=a then(if x.2.1=b then x.2.2.1 else eY a b t)else eY a b t
theorem gM(a b:Int)(x:cy)(t:aj):eY a b (x::t)=if x.1=a then(if x.2.1=b then x.2.2.1 else eY a b t)else eY a b t:=rfl
def ei(l:aj)(a b:Int):Int:=if cR l then eY a b l else 0
def KF(l:aj)(a b:Int):Int:=if e9 l then eY a b l else 0
theorem Du(N:Nat){l:aj}(hl:l.length≤100000)(hN:200000≤N)(a b:Int):wY N l a b=some (ei l a b):=by
 unfold wY wY.b ei
 rw[mo N hl hN,Option.bind_some,cond_not]
 have:=uw l aS (fun n i=>wY.l4 N n l a b i) (fun t=>some (eY a b t)) (fun n i hi hr=> ?_) (fun n=> ?_) N (by omega)
 ·rw[this];cases cR l<;>rfl
 ·unfold wY.l4 wY.cn
  rw[aD (by omega),cond_true,aG (by omega) (by omega),cond_true,cond_true,cond_true,Int.toNat_natCast,al (x:=(i:Int)+1) (by omega) (by omega),aa i,hr,aA,aA,gM]
  split
  ·split<;>rfl
  ·rfl
 ·unfold wY.l4 wY.cn
  rw[ay (by omega),cond_false];rfl
theorem ZV(N:Nat){l:aj}(hl:l.length≤100000)(hN:200000≤N)(a b:Int):qo N l a b=some (KF l a b):=by
 unfold qo qo.b KF
 rw[zi N hl hN,Option.bind_some,cond_not]
 have:=uw l aS (fun n i=>qo.l4 N n l a b i) (fun t=>some (eY a b t)) (fun n i hi hr=> ?_) (fun n=> ?_) N (by omega)
 ·rw[this];cases e9 l<;>rfl
 ·unfold qo.l4 qo.cn
  rw[aD (by omega),cond_true,aG (by omega) (by omega),cond_true,cond_true,cond_true,Int.toNat_natCast,al (x:=(i:Int)+1) (by omega) (by omega),aa i,hr,aA,aA,gM]
  split
  ·split<;>rfl
  ·rfl
 ·unfold qo.l4 qo.cn
  rw[ay (by omega),cond_false];rfl
theorem Sw{l:aj}(h: ∀i,i<l.length→aC (dg (l.getD i aS))):dn l:=fun x hx=>by
 obtain⟨i,hi,e⟩:=List.getElem_of_mem hx
 have:=h i hi
 rw[List.getD_eq_getElem?_getD,List.getElem?_eq_getElem hi]at this
 rw[←e];exact this
namespace Pure
end Pure
end VM
end
section
namespace VM
open Go VM.F
theorem zz{l:aj}(h:dn l)(a b:Int):aC (eY a b l):=by
 induction l with
 |nil=>show aC 0;decide
 |cons x t ih=>
  have ih:=ih (fun y hy=>h y (List.mem_cons_of_mem _ hy))
  rw[gM]
  split
  ·split
   ·exact h x (List.mem_cons_self ..)
   ·exact ih
  ·exact ih
theorem O5{l:aj}(h:dn l)(a b:Int):aC (KF l a b):=by
 unfold KF
 split
 ·exact zz h a b
 ·exact⟨by decide,by decide⟩
def oi(a:Int):aj→ax
 |[]=>[]
 |x::t=>if x.1=a then(x.2.1,(x.2.2.1,()))::oi a t else oi a t
theorem q8(a:Int)(x:cy)(t:aj):oi a (x::t)=if x.1=a then(x.2.1,(x.2.2.1,()))::oi a t else oi a t:=rfl
def posOf(l:aj)(a:Int):ax:=if cR l then oi a l else []
theorem zA(a:Int): ∀l:aj,(oi a l).length≤l.length
 |[]=>Nat.le_refl _
 |x::t=>by
  have:=zA a t
  rw[q8,List.length_cons]
  split
  ·rw[List.length_cons];omega
  ·omega
theorem Mi(a:Int)(l:aj):(posOf l a).length≤l.length:=by
 unfold posOf
 split
 ·exact zA a l
 ·exact Nat.zero_le _
theorem pG{a:Int}{y:OC}: ∀{l:aj},y∈oi a l→ ∃x∈l,x.1=a∧y=(x.2.1,(x.2.2.1,()))
 |[],h=>nomatch h
 |x::t,h=>by
  rw[q8]at h
  by_cases e:x.1=a
  ·rw[if_pos e]at h
   rcases List.mem_cons.1 h with h|h
   ·exact⟨x,List.mem_cons_self ..,e,h⟩
   ·obtain⟨x',hx,h'⟩:=pG h
    exact⟨x',List.mem_cons_of_mem _ hx,h'⟩
  ·rw[if_neg e]at h
   obtain⟨x',hx,h'⟩:=pG h
   exact⟨x',List.mem_cons_of_mem _ hx,h'⟩
theorem O6(N:Nat){l:aj}(hl:l.length≤100000)(hN:200000≤N)(a:Int):sL N l a=some (posOf l a):=by
 unfold sL sL.b posOf
 rw[mo N hl hN,Option.bind_some,cond_not]
 have:=nH l aS (fun n i s=>sL.l5 N n l a s i) (fun t s=>some (s++oi a t)) (fun i (s:ax)=>s.length≤i) (fun n i s hi hI hr=> ?_) (fun n s hI=> ?_) l.length N 0 [] (by omega) (by omega) (by omega) (Nat.le_refl _)
 ·have e:sL.l5 N N l a [] 0=some (oi a l):=this
  rw[e];cases cR l<;>rfl
 ·unfold sL.l5 sL.dq
  rw[aD (by omega),cond_true,aG (by omega) (by omega),cond_true,cond_true,cond_true,Int.toNat_natCast,al (x:=(i:Int)+1) (by omega) (by omega),aa i,aA,ba (by rw[List.length_singleton];omega),cond_true,q8]
  split
  ·rw[hr _ (by rw[List.length_append,List.length_singleton];omega),List.append_assoc];rfl
  ·exact hr s (by omega)
 ·unfold sL.l5 sL.dq
  rw[ay (by omega),cond_false]
  show some s=some (s++[])
  rw[List.append_nil]
def Dv(a n:Int):Prop:=0≤a∧a<n
end VM
end
section
namespace VM
open Go VM.F
end VM
end
section
namespace VM
open Go VM.F
def kB(p:Int):Prop:=1≤p∧p≤1000000000000
instance(p:Int):Decidable (kB p):=by unfold kB;infer_instance
theorem I4(N:Nat)(p:Int):xC N p=some (decide (kB p)):=(iT N p).trans (congrArg some (decide_eq_decide.2 Iff.rfl))
def jB(a b c d e:Int):Prop:=(0≤a∧a≤24)∧(0≤b∧b≤24)∧a≠b∧(0≤c∧c<6)∧(1≤d∧d≤1000000000)∧kB e
instance(a b c d e:Int):Decidable (jB a b c d e):=by unfold jB;infer_instance
def rU(t:uT):Prop:=jB t.1 t.2.1 t.2.2.1 t.2.2.2.1 t.2.2.2.2.1
instance:DecidablePred rU:=fun t=>by unfold rU;infer_instance
theorem FO(a b c d e:Int):cond (bV 0 a) (cond (bV a 24) (cond (bV 0 b) (cond (bV b 24) (cond (!az a b) (cond (bV 0 c) (cond (aH c 6) (cond (bV 1 d) (cond (bV d 1000000000) (some (decide (kB e))) (some false)) (some false)) (some false)) (some false)) (some false)) (some false)) (some false)) (some false)) (some false)=some (decide (jB a b c d e)):=by
 simp only[bL,cond_not,aA,bP]
 by_cases hP:jB a b c d e
 ·have hp:=hP.2.2.2.2.2
  rw[decide_eq_true hP,decide_eq_true hp]
  unfold jB at hP
  repeat' split
  all_goals first|rfl|omega
 ·rw[decide_eq_false hP]
  by_cases hp:kB e
  ·unfold jB at hP
   repeat' split
   all_goals first|rfl|(exact absurd ⟨by omega,by omega,by omega,by omega,by omega,hp⟩ hP)
  ·rw[decide_eq_false hp]
   repeat' split
   all_goals rfl
theorem B1(N:Nat)(t:uT):O7 N t=some (decide (rU t)):=by
 unfold O7
 rw[I4,Option.bind_some]
 exact FO _ _ _ _ _
theorem il{c:ae}{b:ah}(h:db c b=true):b.2.2.2.2.1.length=c.1.length∧gp b.2.2.2.2.1=true:=by
 unfold db at h
 simp only[Bool.and_eq_true]at h
 have h1:=of_decide_eq_true h.2.2.2.2.2.2.1
 unfold eG at h1
 exact⟨by omega,h.2.2.2.2.2.2.2.2.2.2⟩
end VM
end
section
namespace VM
open Go VM.F
theorem FP{l:List Int}(h:gp l=true){i:Nat}(hi:i<l.length):kB (l.getD i 0):=of_decide_eq_true h i hi
end VM
end
section
namespace VM
open Go VM.F
theorem pH{c:ae}{b:ah}(h:db c b=true):fu c=true:=by
 unfold db at h
 exact(Bool.and_eq_true_iff.1 h).1
def jC(k:Int):Nat→aE→List Int
 |_,[]=>[]
 |i,x::t=>if x.1=k then(i:Int)::jC k (i+1) t else jC k (i+1) t
theorem uU(k:Int)(i:Nat)(x:bR)(t:aE):jC k i (x::t)=if x.1=k then(i:Int)::jC k (i+1) t else jC k (i+1) t:=rfl
def fb(c:ae)(k:Int):List Int:=if fu c then jC k 0 c.1 else []
theorem I5(N:Nat)(hN:200000≤N)(c:ae)(hl:c.1.length≤100000)(k:Int):wZ N c k=some (fb c k):=by
 unfold wZ wZ.b fb
 rw[mS N (by omega),Option.bind_some,cond_not]
 have:=nH c.1 aN (fun n i s=>wZ.l5 N n k c s i) (fun t s=>some (s++jC k (c.1.length-t.length) t)) (fun i (s:List Int)=>s.length≤i) (fun n i s hi hI hr=> ?_) (fun n s hI=> ?_) c.1.length N 0 [] (by omega) (by omega) (by omega) (Nat.le_refl _)
 ·have e:wZ.l5 N N k c [] 0=some (jC k 0 c.1):=by
   refine this.trans ?_
   rw[List.drop_zero,Nat.sub_self];rfl
  rw[e];cases fu c<;>rfl
 ·unfold wZ.l5 wZ.dq
  have e1:c.1.length-(c.1.getD i aN::c.1.drop (i+1)).length=i:=by rw[List.length_cons,List.length_drop];omega
  have e2:c.1.length-(c.1.drop (i+1)).length=i+1:=by rw[List.length_drop];omega
  rw[e2]at hr
  rw[aD (by omega),cond_true,aG (by omega) (by omega),cond_true,Int.toNat_natCast,al (x:=(i:Int)+1) (by omega) (by omega),aa i,aA,ba (by rw[List.length_singleton];omega),cond_true,e1,uU]
  split
  ·rw[hr _ (by rw[List.length_append,List.length_singleton];omega),List.append_assoc];rfl
  ·exact hr s (by omega)
 ·unfold wZ.l5 wZ.dq
  rw[ay (by omega),cond_false]
  show some s=some (s++[])
  rw[List.append_nil]
theorem w1{c:ae}(h:fu c=true):c.1.length≤6∧ ∀i,i<c.1.length→0≤(c.1.getD i aN).1∧(c.1.getD i aN).1≤3:=by
 unfold fu at h
 simp only[Bool.and_eq_true]at h
 have h1:=of_decide_eq_true h.1
 have h2:=of_decide_eq_true h.2.1
 exact⟨h1.2,fun i hi=>(h2 i hi).1⟩
theorem O8{l:aj}(h:dn l)(a b:Int):aC (ei l a b):=by
 unfold ei
 cases cR l
 ·show aC 0;decide
 ·exact zz h a b
end VM
end
section
namespace VM
open Go VM.F
end VM
end
section
namespace VM
open Go VM.F
end VM
end
section
namespace VM
open Go VM.F
def q9(l:List Int)(k:Int):Int:=l.getD k.toNat 0
def ins(l:List Int):List Int→Int→List Int
 |[],i=>[i]
 |k::t,i=>if q9 l i≤q9 l k then k::ins l t i else i::k::t
def cw(l:List Int):Nat→List Int
 |0=>[]
 |n+1=>ins l (cw l n) n
def eN(l:List Int):List Int:=cw l l.length
def oR(l:List Int)(a b:Int):Prop:=q9 l b<q9 l a∨(q9 l b=q9 l a∧a<b)
theorem KG(l:List Int): ∀(o:List Int) (i:Int),(ins l o i).length=o.length+1
 |[],i=>rfl
 |k::t,i=>by unfold ins;split<;>simp[KG l t i]
theorem iX(l:List Int): ∀n,(cw l n).length=n
 |0=>rfl
 |n+1=>by unfold cw;rw[KG,iX l n]
theorem mW(l:List Int):(eN l).length=l.length:=iX l _
theorem Dw(l:List Int){x:Int}: ∀{o:List Int} {i:Int},x∈ins l o i↔x=i∨x∈o
 |[],i=>by simp[ins]
 |k::t,i=>by
  unfold ins;split
  ·rw[List.mem_cons,Dw l,List.mem_cons]
   exact⟨fun h=>h.elim (fun h=> .inr (.inl h)) (fun h=>h.elim .inl (fun h=> .inr (.inr h))),fun h=>h.elim (fun h=> .inr (.inl h)) (fun h=>h.elim .inl (fun h=> .inr (.inr h)))⟩
  ·rw[List.mem_cons]
theorem n7(l:List Int){x:Int}: ∀{n:Nat},x∈cw l n↔0≤x∧x<n
 |0=>⟨(fun h=>nomatch h),fun h=>absurd h.1 (by omega)⟩
 |n+1=>by unfold cw;rw[Dw,n7 l];omega
theorem uV(l:List Int): ∀{o:List Int} {i:Int},o.Pairwise (oR l)→(∀x∈o,x<i)→(ins l o i).Pairwise (oR l)
 |[],i,_,_=>List.pairwise_singleton _ _
 |k::t,i,h,hi=>by
  rw[List.pairwise_cons]at h
  have hk:k<i:=hi k (List.mem_cons_self ..)
  unfold ins;split
  ·rename_i hle
   rw[List.pairwise_cons]
   refine⟨fun x hx=> ?_,uV l h.2 (fun x hx=>hi x (List.mem_cons_of_mem _ hx))⟩
   rcases(Dw l).1 hx with rfl|hx
   ·unfold oR;omega
   ·exact h.1 x hx
  ·rename_i hle
   rw[List.pairwise_cons,List.pairwise_cons]
   refine⟨fun x hx=> ?_,h.1,h.2⟩
   rcases List.mem_cons.1 hx with rfl|hx
   ·unfold oR;omega
   ·have:=h.1 x hx;unfold oR at*;omega
theorem gN(l:List Int): ∀n,(cw l n).Pairwise (oR l)
 |0=>List.Pairwise.nil
 |n+1=>by unfold cw;exact uV l (gN l n) (fun x hx=>((n7 l).1 hx).2)
theorem I6(l:List Int): ∀(o:List Int) (i:Int) (p:Nat),p≤o.length→(∀j,j<p→q9 l i≤q9 l (o.getD j 0))→(p<o.length→q9 l (o.getD p 0)<q9 l i)→ins l o i=o.take p++i::o.drop p
 |[],i,p,hp,_,_=>by simp at hp;subst hp;rfl
 |k::t,i,0,hp,_,h=>by
  unfold ins;rw[if_neg (by have:=h (by simp);simp at this;omega)];rfl
 |k::t,i,p+1,hp,h0,h=>by
  unfold ins
  have h1:q9 l i≤q9 l k:=h0 0 (by omega)
  rw[if_pos h1,I6 l t i p (by simpa using hp) (fun j hj=>by have:=h0 (j+1) (by omega);simpa using this) (fun Bm=>by have:=h (by simpa using Bm);simpa using this)]
  rfl
theorem KH(l:List Int)(f:Int→Int): ∀(o:List Int) (i:Int),((ins l o i).map f).sum=(o.map f).sum+f i
 |[],i=>by simp[ins]
 |k::t,i=>by
  unfold ins;split
  ·rw[List.map_cons,List.sum_cons,KH l f t i,List.map_cons,List.sum_cons];omega
  ·simp only[List.map_cons,List.sum_cons];omega
theorem w3(l r:List Int): ∀n,n≤r.length→((cw l n).map (q9 r)).sum=(r.take n).sum
 |0,_=>rfl
 |n+1,h=>by
  unfold cw;rw[KH,w3 l r n (by omega),dU r (by omega)]
  unfold q9;rw[Int.toNat_natCast]
theorem I7(l r:List Int)(h:l.length=r.length):((eN l).map (q9 r)).sum=r.sum:=by
 unfold eN;rw[w3 l r _ (by omega),List.take_of_length_le (by omega)]
theorem uW{o:List Int}{j:Nat}(h:j<o.length):o.getD j 0∈o:=by
 rw[List.getD_eq_getElem?_getD,List.getElem?_eq_getElem h];exact List.getElem_mem h
theorem O9{l o:List Int}(h:o.Pairwise (oR l)){j k:Nat}(hjk:j<k)(hk:k<o.length):oR l (o.getD j 0) (o.getD k 0):=by
 rw[List.pairwise_iff_getElem]at h
 rw[List.getD_eq_getElem?_getD,List.getElem?_eq_getElem (by omega),List.getD_eq_getElem?_getD,List.getElem?_eq_getElem hk]
 exact h j k (by omega) hk hjk
theorem zB{l:List Int}{n j:Nat}(h:j<n):0≤(cw l n).getD j 0∧(cw l n).getD j 0<n:=by
 exact(n7 l).1 (uW (by rw[iX];exact h))
theorem zC{α:Type}(N:Nat){l:List α}{i:Nat}{x:α}(hi:i≤l.length)(hl:l.length<1000000):gy N l (i:Int) [x]=some (l.take i++x::l.drop i):=by
 unfold gy
 rw[if_pos ⟨by omega,by omega,rfl,by unfold tx;omega⟩]
 rfl
theorem FQ(N:Nat)(K:List Int→List Int→Int→Int→Option (List Int)){l:List Int}(hl:l.length≤100000)(i:Nat)(hi:i<l.length): ∀(p n:Nat),p≤i→p<n→(∀j,p≤j→j<i→q9 l ((cw l i).getD j 0)<q9 l i)→
  fc.l6 N K n l (cw l i) (i:Int) (p:Int) (l.length:Int) (i:Int)=K l (cw l (i+1)) (l.length:Int) ((i+1:Nat):Int)
 |p,0,_,hn,_=>by omega
 |p,n+1,hp,hn,h=>by
  have hlen:=iX l i
  have fin: ∀h2:(∀j,j<p→q9 l i≤q9 l ((cw l i).getD j 0)),ins l (cw l i) i=(cw l i).take p++(i:Int)::(cw l i).drop p:=fun h2=>I6 l _ _ p (by omega) h2 (fun h3=>h p (by omega) (by omega))
  unfold fc.l6 fc.ow
  match p,hp,hn,h,fin with
  |0,hp,hn,h,fin=>
   have e:=fin (fun j hj=>by omega)
   rw[ay (by omega),cond_false,zC N (by omega) (by omega),Option.bind_some,←e,al (by omega) (by omega)]
   rfl
  |p+1,hp,hn,h,fin=>
   have hr:=zB (l:=l) (n:=i) (j:=p) (by omega)
   have e1:W .i64 (((p+1:Nat):Int)-1)=(p:Int):=by rw[al (by omega) (by omega)];omega
   have s8:=FQ N K hl i hi p n (by omega) (by omega)
   dsimp only
   rw[e1,Int.toNat_natCast]
   unfold q9 at*
   rw[Int.toNat_natCast]at*
   rw[aD (by omega),cond_true,aG (by omega) (by omega),cond_true,aG (by omega) (by omega),cond_true,aG (by omega) (by omega),cond_true]
   by_cases h3:l.getD ((cw l i).getD p 0).toNat 0<l.getD i 0
   ·rw[aD h3,cond_true]
    exact s8 (fun j h4 h5=>by
     by_cases hjp:j=p
     ·rw[hjp];exact h3
     ·exact h j (by omega) h5)
   ·rw[ay (by omega),cond_false,zC N (by omega) (by omega),Option.bind_some,al (by omega) (by omega)]
    rw[←fin (fun j hj=>by
     by_cases hjp:j=p
     ·rw[hjp];omega
     ·have:=O9 (gN l i) (j:=j) (k:=p) (by omega) (by omega)
      unfold oR q9 at this;omega)]
    rfl
theorem B2(N:Nat){l:List Int}(hl:l.length≤100000)(hN:l.length<N): ∀(m n i:Nat),l.length-i≤m→m<n→i≤l.length→
  fc.l3 N n l (cw l i) (l.length:Int) (i:Int)=some (eN l)
 |m,0,i,_,hn,_=>by omega
 |m,n+1,i,hm,hn,hi=>by
  unfold fc.l3 fc.g7
  by_cases h:i<l.length
  ·rw[aD (by omega),cond_true,iX,FQ N _ hl i h i N (by omega) (by omega) (fun j _ _=>by omega)]
   exact B2 N hl hN (m-1) n (i+1) (by omega) (by omega) (by omega)
  ·rw[ay (by omega),cond_false]
   unfold ZW
   rw[b8 (by omega) (by omega) (by omega) (by omega),cond_true,Option.bind_some]
   simp only[Int.toNat_zero,List.drop_zero,Int.toNat_natCast,List.take_length]
   rw[show i=l.length by omega];rfl
theorem Pb(N:Nat){l:List Int}(hl:l.length≤100000)(hN:l.length<N):fc N l=some (eN l):=by
 unfold fc fc.b
 rw[br (by omega) (by omega) (by omega),cond_true]
 exact B2 N hl hN l.length N 0 (by omega) (by omega) (by omega)
theorem B3(N:Nat)(K:List Int→List Int→Int→Option (List Int)){l:List Int}(hl:l.length≤100000)(i:Nat)(hi:i<l.length): ∀(m n p:Nat),i-p≤m→m<n→p≤i→(∀j,j<p→q9 l i≤q9 l ((cw l i).getD j 0))→
  dr.l6 N K n l (cw l i) (i:Int) (p:Int)=K l (cw l (i+1)) ((i+1:Nat):Int)
 |m,0,p,_,hn,_,_=>by omega
 |m,n+1,p,hm,hn,hp,h=>by
  have hlen:=iX l i
  have fin: ∀h2:(p<i→q9 l ((cw l i).getD p 0)<q9 l i),dr.j8 N K l (cw l i) (i:Int) (p:Int)=K l (cw l (i+1)) ((i+1:Nat):Int):=fun h2=>by
   have e:=I6 l (cw l i) i p (by omega) h (fun h3=>h2 (by omega))
   unfold dr.j8 dr.H6
   dsimp only
   rw[b8 (by omega) (by omega) (by omega) (by omega),cond_true,Int.toNat_natCast,Int.toNat_natCast,Int.toNat_zero,List.drop_zero]
   rw[ba (by rw[List.length_take];omega),cond_true,ba (by rw[List.length_take];simp only[List.length_singleton];omega),cond_true,b8 (by omega) (by omega) (by omega) (by omega),cond_true,ba (by simp only[List.length_append,List.length_take,List.length_drop,List.length_singleton];omega),cond_true,al (by omega) (by omega),List.take_length,List.append_assoc,List.singleton_append,←e]
   rfl
  unfold dr.l6 dr.ow
  by_cases hpi:p<i
  ·have hr:=zB (l:=l) (n:=i) (j:=p) hpi
   rw[aD (by omega),cond_true,aG (by omega) (by omega),cond_true,Int.toNat_natCast,Int.toNat_natCast,aG (by omega) (by omega),cond_true,aG (by omega) (by omega),cond_true]
   by_cases h3:l.getD i 0≤l.getD ((cw l i).getD p 0).toNat 0
   ·rw[cB h3,cond_true,al (by omega) (by omega)]
    refine B3 N K hl i hi (m-1) n (p+1) (by omega) (by omega) (by omega) (fun j hj=> ?_)
    by_cases hjp:j=p
    ·rw[hjp];unfold q9;rw[Int.toNat_natCast];exact h3
    ·exact h j (by omega)
   ·rw[cv (by omega),cond_false]
    exact fin (fun _=>by unfold q9;rw[Int.toNat_natCast];omega)
  ·rw[ay (by omega),cond_false]
   exact fin (fun h=>absurd h hpi)
theorem zD(N:Nat){l:List Int}(hl:l.length≤100000)(hN:l.length<N): ∀(m n i:Nat),l.length-i≤m→m<n→i≤l.length→
  dr.l3 N n l (cw l i) (i:Int)=some (eN l)
 |m,0,i,_,hn,_=>by omega
 |m,n+1,i,hm,hn,hi=>by
  unfold dr.l3 dr.g7
  by_cases h:i<l.length
  ·have:=B3 N (dr.l3 N n) hl i h i N 0 (by omega) (by omega) (by omega) (fun j hj=>by omega)
   rw[aD (by omega),cond_true]
   refine Eq.trans this ?_
   exact zD N hl hN (m-1) n (i+1) (by omega) (by omega) (by omega)
  ·rw[ay (by omega),cond_false,show i=l.length by omega];rfl
theorem Mj(N:Nat){l:List Int}(hl:l.length≤100000)(hN:l.length<N):dr N l=some (eN l):=by
 unfold dr dr.b
 exact zD N hl hN l.length N 0 (by omega) (by omega) (by omega)
end VM
end
