/- A part of the proof of HedgeFills of layer 22: what the functions compute, in plain words. -/
import Derived.Test.YtocmlaipoebfeaaGreatPlain2
import Derived.Test.YtocmlaipoebfeaaGreatVm6
set_option linter.all false
section
namespace VM
open Go VM.F
def Q3(E:aj):Prop:= ∀x∈E,bL (eP x)
def fU(r:bW):o1:=(r.1,(r.2.1,(bm (eP r),())))
theorem Ev(E:aj)(i:Nat):(E.map fU).getD i ((0:Int),((0:Int),(bI,())))=fU (E.getD i aQ):=by
 by_cases h:i<E.length
 ·rw[List.getD_eq_getElem?_getD,List.getElem?_map,List.getElem?_eq_getElem h,List.getD_eq_getElem?_getD,List.getElem?_eq_getElem h];rfl
 ·rw[List.getD_eq_getElem?_getD,List.getElem?_eq_none (by rw[List.length_map];omega),List.getD_eq_getElem?_getD,List.getElem?_eq_none (by omega)];rfl
theorem MD{l:aj}(h:Q3 l)(i:Nat):bL (eP (l.getD i aQ)):=by
 by_cases hi:i<l.length
 ·rw[List.getD_eq_getElem?_getD,List.getElem?_eq_getElem hi];exact h _ (List.getElem_mem hi)
 ·rw[List.getD_eq_getElem?_getD,List.getElem?_eq_none (by omega)];exact⟨by decide,by decide⟩
theorem Ap{x:Int}(h:aC x):bL x:=by unfold aC at h;unfold bL;omega
theorem uj{ws:List Int}{x:Int}(h: ∀y∈ws,bL y)(hx:bL x): ∀y∈ws++[x],bL y:=fun y hy=>by
 rcases List.mem_append.1 hy with hy|hy
 ·exact h y hy
 ·rw[List.mem_singleton.1 hy];exact hx
theorem Q4(N:Nat){l:aj}:ach N l=some l:=G1 N
theorem Q5(N:Nat)(hN:2000000≤N)(K:bB.CY){E out R:aj}(hq:Q3 E)(hl:E.length≤100000)(ho:out.length≤1000000)(r:bW)(hr:aC (eP r))(i:Nat)(hi:i≤1000000):
  bB.Kz N K N (E.map fU) out r [bm (eP r)] R (R.length:Int) (i:Int) (E.map fU) ((E.map fU).length:Int) 0=
   if aC (eP r+cE r.1 r.2.1 E)then K (E.map fU) (if eP r+cE r.1 r.2.1 E=0 then out else out++[(r.1,(r.2.1,(eP r+cE r.1 r.2.1 E,())))]) R (R.length:Int) ((i+1:Nat):Int)else some (aY,(2:Int)):=by
 have:=nG E aQ (fun n j ws=>bB.Kz N K n (E.map fU) out r (ws.map bm) R (R.length:Int) (i:Int) (E.map fU) ((E.map fU).length:Int) j)
  (fun t ws=>if aC (ws++dH r.1 r.2.1 t).sum then K (E.map fU) (if(ws++dH r.1 r.2.1 t).sum=0 then out else out++[(r.1,(r.2.1,((ws++dH r.1 r.2.1 t).sum,())))]) R (R.length:Int) ((i+1:Nat):Int)else some (aY,(2:Int)))
  (fun j (ws:List Int)=>ws.length≤j+1∧ ∀x∈ws,bL x)
  (fun n j ws hj hI dD=> ?_) (fun n ws hI=> ?_) E.length N 0 [eP r] (by omega) (by omega) (by omega) ⟨Nat.le_refl _,fun x hx=>by rw[List.mem_singleton.1 hx];exact Ap hr⟩
 ·rw[show((0:Nat):Int)=0 from rfl,List.drop_zero]at this
  refine this.trans ?_
  have e:([eP r]++dH r.1 r.2.1 E).sum=eP r+cE r.1 r.2.1 E:=by rw[List.singleton_append,List.sum_cons];rfl
  rw[e]
 ·unfold bB.Kz bB.G7
  rw[aE (by rw[List.length_map];omega),cond_true,aG (by omega) (by rw[List.length_map];omega),cond_true,Int.toNat_natCast,Ev,bo (by rw[List.length_map,List.length_singleton];omega),cond_true,al (x:=(j:Int)+1) (by omega) (by omega),ae j,aB,aB]
  by_cases h1:(E.getD j aQ).1=r.1
  ·by_cases h2:(E.getD j aQ).2.1=r.2.1
   ·have hc:dH r.1 r.2.1 (E.getD j aQ::E.drop (j+1))=eP (E.getD j aQ)::dH r.1 r.2.1 (E.drop (j+1)):=by rw[gQ,if_pos ⟨h1,h2⟩]
    rw[if_pos (show(fU (E.getD j aQ)).1=r.1 from h1),if_pos (show(fU (E.getD j aQ)).2.1=r.2.1 from h2),hc]
    have:=dD (ws++[eP (E.getD j aQ)]) ⟨by rw[List.length_append,List.length_singleton];omega,uj hI.2 (MD hq j)⟩
    rw[List.map_append]at this
    refine this.trans ?_
    rw[List.append_assoc];rfl
   ·have hc:dH r.1 r.2.1 (E.getD j aQ::E.drop (j+1))=dH r.1 r.2.1 (E.drop (j+1)):=by rw[gQ,if_neg (fun h=>h2 h.2)]
    rw[if_pos (show(fU (E.getD j aQ)).1=r.1 from h1),if_neg (show ¬(fU (E.getD j aQ)).2.1=r.2.1 from h2),hc]
    exact dD ws ⟨by omega,hI.2⟩
  ·have hc:dH r.1 r.2.1 (E.getD j aQ::E.drop (j+1))=dH r.1 r.2.1 (E.drop (j+1)):=by rw[gQ,if_neg (fun h=>h1 h.1)]
   rw[if_neg (show ¬(fU (E.getD j aQ)).1=r.1 from h1),hc]
   exact dD ws ⟨by omega,hI.2⟩
 ·unfold bB.Kz bB.G7
  rw[aA (by rw[List.length_map];omega),cond_false,y8 N hI.2 (by omega) (by omega),Option.bind_some]
  show _=if aC (ws++[]).sum then K (E.map fU) (if(ws++[]).sum=0 then out else out++[(r.1,(r.2.1,((ws++[]).sum,())))]) R (R.length:Int) ((i+1:Nat):Int)else some (aY,(2:Int))
  rw[List.append_nil]
  unfold GP
  by_cases h0:bL ws.sum
  ·rw[if_pos h0]
   dsimp only
   rw[vD N h0,Option.bind_some,Bool.not_true,cond_false]
   by_cases h1:aC ws.sum
   ·rw[vE h1]
    dsimp only
    rw[Bool.not_true,cond_false,cond_not,aB,bo (by rw[List.length_singleton];omega),cond_true,al (x:=(i:Int)+1) (by omega) (by omega),ae i,if_pos h1]
    split<;>rfl
   ·rw[vF h1,if_neg h1]
    rfl
  ·rw[if_neg h0,if_neg (fun h=>h0 (Ap h))]
   have e:GO N bI=some (B4 0):=vD N (v:=0) ⟨by decide,by decide⟩
   dsimp only
   rw[e,Option.bind_some]
   rfl
theorem Ob(N:Nat)(hN:2000000≤N){l E R:aj}(hq:Q3 E)(hl:E.length≤100000)(hR:R.length≤200000)(hv: ∀r∈R,aC (eP r)∧eP r=cE r.1 r.2.1 l):
  bB.UI N N (E.map fU) [] R (R.length:Int) 0=qF (fx aC (fS l E) (R.map keyOf)):=by
 have:=nG R aQ (fun n i out=>bB.UI N n (E.map fU) out R (R.length:Int) i) (fun t out=>qF ((fx aC (fS l E) (t.map keyOf)).map (fun o=>out++o))) (fun i (out:aj)=>out.length≤i)
  (fun n i out hi hI hr=> ?_) (fun n out hI=> ?_) R.length N 0 [] (by omega) (by omega) (by omega) (Nat.le_refl _)
 ·rw[show((0:Nat):Int)=0 from rfl,List.drop_zero]at this
  refine this.trans ?_
  simp
 ·unfold bB.UI bB.UJ
  have hm:R.getD i aQ∈R:=by
   rw[List.getD_eq_getElem?_getD,List.getElem?_eq_getElem hi];exact List.getElem_mem hi
  have PO:=hv _ hm
  have mK:=PO.1
  have gP:=mK
  unfold aC eP at gP
  rw[aE (by omega),cond_true,aG (by omega) (by omega),cond_true,Int.toNat_natCast,mh N gP.1 gP.2,Option.bind_some]
  refine(Q5 N hN _ hq hl (by omega) _ mK i (by omega)).trans ?_
  rw[List.map_cons,kN]
  have ef:fS l E (keyOf (R.getD i aQ)).1 (keyOf (R.getD i aQ)).2=eP (R.getD i aQ)+cE (R.getD i aQ).1 (R.getD i aQ).2.1 E:=by
   show cE _ _ l+cE _ _ E=_
   rw[PO.2];rfl
  rw[ef]
  generalize hS:eP (R.getD i aQ)+cE (R.getD i aQ).1 (R.getD i aQ).2.1 E=v
  by_cases hF:aC v
  ·rw[if_pos hF,if_pos hF,hr _ (by
    split
    ·omega
    ·rw[List.length_append,List.length_singleton];omega)]
   cases fx aC (fS l E) ((R.drop (i+1)).map keyOf)with
   |none=>rfl
   |some o=>
    show qF (some _)=qF (some _)
    congr 2
    split
    ·rfl
    ·exact List.append_assoc _ _ _
  ·rw[if_neg hF,if_neg hF];rfl
 ·unfold bB.UI bB.UJ
  rw[aA (by omega),cond_false,Q4,Option.bind_some]
  show _=qF (some (out++[]))
  rw[List.append_nil];rfl
theorem aau(N:Nat)(C:bB.jt){l:aj}{E S:cy}{K:List cW}(hs:uh K)(hl:K.length≤100000)(hf: ∀k∈K,vH k)(x:o1)(k:cW)(hxk:(x.1,x.2.1)=k)(hx:vH k)(hz:zeroAt l K k)(len:Int)(i:Nat)(hi:i≤1000000):
  ∀(m n p:Nat),K.length-p≤m→m<n→p≤K.length→(∀y∈K.take p,pV y k)→
   bB.Oc N C n E (rowsOf l K) x (p:Int) S len (i:Int)=C E (rowsOf l (K.take p++sg k (K.drop p))) S len ((i+1:Nat):Int)
 |m,0,p,_,hn,_,_=>by omega
 |m,n+1,p,hm,hn,hp,hb=>by
  unfold bB.Oc bB.KA bB.Gy bB.z6
  rw[cX,al (x:=(i:Int)+1) (by omega) (by omega),ae i]
  have ex:((x.1,(x.2.1,((0:Int),()))):bW)=(k.1,(k.2,((0:Int),()))):=by rw[←hxk]
  by_cases h:p<K.length
  ·have hfk:=hf (K.getD p (0,0)) (by rw[List.getD_eq_getElem?_getD,List.getElem?_eq_getElem h];exact List.getElem_mem h)
   have ho:Km N x.1 x.2.1 ((rowsOf l K).getD p aQ)=some (wK k.1 k.2 (K.getD p (0,0)).1 (K.getD p (0,0)).2):=by
    rw[CU l h]
    rw[←hxk]at hx ⊢
    exact Ac N hx.1 hx.2 hfk.1 hfk.2
   rw[aE (by omega),cond_true,aG (by omega) (by omega),cond_true,Int.toNat_natCast,ho,Option.bind_some,cA (x:=(p:Int)) (by omega),cond_false,cond_true,Option.bind_some,a8,cond_not,aB,MA h]
   by_cases h1:pV (K.getD p (0,0)) k
   ·rw[if_pos (vG.2 h1),if_pos h1,al (x:=(p:Int)+1) (by omega) (by omega),ae p,vI h]
    refine aau N C hs hl hf x k hxk hx hz len i hi (m-1) n (p+1) (by omega) (by omega) (by omega) fun y hy=> ?_
    rw[←List.take_append_getElem h]at hy
    rcases List.mem_append.1 hy with hy|hy
    ·exact hb y hy
    ·rw[List.getD_eq_getElem?_getD,List.getElem?_eq_getElem h]at h1
     rw[List.mem_singleton.1 hy];exact h1
   ·rw[if_neg (fun h=>h1 (vG.1 h)),if_neg h1]
    by_cases h2:K.getD p (0,0)=k
    ·rw[if_pos (sV.2 h2),if_pos h2,List.take_append_drop]
    ·rw[if_neg (fun h=>h2 (sV.1 h)),if_neg h2,ze N (by rw[cX];omega) (by rw[cX];omega),Option.bind_some]
     have BC:=hz (qH hs hb (MB hs h h1 h2))
     have e:=qG l K p k
     rw[←sW BC]at e
     refine Eq.trans ?_ (congrArg (fun R=>C E R S len ((i+1:Nat):Int)) e)
     exact congrArg (fun z:bW=>C E ((rowsOf l K).take p++z::(rowsOf l K).drop p) S len ((i+1:Nat):Int)) ex
  ·have hd:K.drop p=[]:=List.drop_eq_nil_of_le (by omega)
   rw[aA (by omega),cond_false,cG (by omega),cond_true,ze N (by rw[cX];omega) (by rw[cX];omega),Option.bind_some]
   have BC:=hz (qH hs hb (by rw[hd];exact fun x hx=>nomatch hx))
   have e:=qG l K p k
   rw[←sW BC]at e
   have e2:sg k (K.drop p)=k::K.drop p:=by rw[hd];rfl
   rw[e2]
   refine Eq.trans ?_ (congrArg (fun R=>C E R S len ((i+1:Nat):Int)) e)
   exact congrArg (fun z:bW=>C E ((rowsOf l K).take p++z::(rowsOf l K).drop p) S len ((i+1:Nat):Int)) ex
theorem Od(N:Nat)(hN:2000000≤N){l E:aj}(hq:Q3 E)(hE:E.length≤400)(hp: ∀x∈E,vH (keyOf x))(hs:uh (l.map keyOf))(hl:l.length≤90000)(hlq:e9 l)(MC: ∀x∈l,vH (keyOf x)):
  bB.tp N N (E.map fU) l (E.map fU) ((E.map fU).length:Int) 0=qF (fx aC (fS l E) (jX (l.map keyOf) E)):=by
 have:=nG E aQ (fun n i K=>bB.tp N n (E.map fU) (rowsOf l K) (E.map fU) ((E.map fU).length:Int) i) (fun t K=>qF (fx aC (fS l E) (jX K t)))
  (fun i (K:List cW)=>K.length≤l.length+i∧uh K∧(∀k∈K,vH k)∧ ∀x∈l,keyOf x∈K)
  (fun n i K hi hI hr=> ?_) (fun n K hI=> ?_) E.length N 0 (l.map keyOf) (by omega) (by omega) (by omega) ⟨by rw[List.length_map];omega,hs,fun k hk=>by
   obtain⟨x,hx,rfl⟩:=List.mem_map.1 hk
   exact MC x hx,fun x hx=>List.mem_map_of_mem hx⟩
 ·rw[show((0:Nat):Int)=0 from rfl,List.drop_zero]at this
  simp only[o0 hs]at this
  exact this
 ·unfold bB.tp bB.se
  obtain⟨h1,h2,h3,h4⟩:=hI
  have hm:E.getD i aQ∈E:=by
   rw[List.getD_eq_getElem?_getD,List.getElem?_eq_getElem hi];exact List.getElem_mem hi
  rw[aE (by rw[List.length_map];omega),cond_true,aG (by omega) (by rw[List.length_map];omega),cond_true,Int.toNat_natCast,Ev]
  refine(aau N _ h2 (by omega) h3 (fU (E.getD i aQ)) (keyOf (E.getD i aQ)) rfl (hp _ hm) (fun hk=>fE fun hx=>hk (by
   obtain⟨x,hx,e⟩:=List.mem_map.1 hx
   rw[←e];exact h4 x hx)) ((E.map fU).length:Int) i (by omega) K.length N 0 (by omega) (by omega) (by omega) (fun y hy=>nomatch hy)).trans ?_
  rw[List.take_zero,List.nil_append,List.drop_zero,oZ]
  refine hr (sg (keyOf (E.getD i aQ)) K) ⟨Nat.le_trans (Ao _ K) (by omega),vC h2,fun k hk=>(nK.1 hk).elim (fun e=>e▸hp _ hm) (h3 k),fun x hx=>nK.2 (Or.inr (h4 x hx))⟩
 ·unfold bB.tp bB.se
  obtain⟨h1,h2,h3,h4⟩:=hI
  rw[aA (by rw[List.length_map];omega),cond_false,cX,bC (by omega) (by omega) (by omega),cond_true]
  have:=Ob N hN (l:=l) (R:=rowsOf l K) hq (by omega) (by rw[cX];omega) (fun r hr=>by
   unfold rowsOf at hr
   obtain⟨k,hk,rfl⟩:=List.mem_map.1 hr
   refine⟨?_,rfl⟩
   show aC (cE k.1 k.2 l)
   by_cases hkl:k∈l.map keyOf
   ·have e:rowsOf l (l.map keyOf)=l:=o0 hs
    have hm:G4 l k∈rowsOf l (l.map keyOf):=List.mem_map_of_mem hkl
    rw[e]at hm
    exact hlq (G4 l k) hm
   ·rw[fE hkl];exact⟨by decide,by decide⟩)
  rw[xQ,cX]at this
  exact this
theorem Aq{l:aj}(h:fI l=true):uh (l.map keyOf)∧(∀x∈l,eF x.1 x.2.1):=by
 unfold fI at h
 rw[Bool.and_true]at h
 have h':=of_decide_eq_true h
 have get: ∀(i:Nat) (hi:i<l.length),l.getD i aQ=l[i]:=fun i hi=>by rw[List.getD_eq_getElem?_getD,List.getElem?_eq_getElem hi];rfl
 have Q2: ∀i,i+1<l.length→pV (keyOf (l.getD i aQ)) (keyOf (l.getD (i+1) aQ)):=fun i hi=>(h' (i+1) hi).2.2 (by omega)
 have dT: ∀j,j<l.length→ ∀i,i<j→pV (keyOf (l.getD i aQ)) (keyOf (l.getD j aQ)):=by
  intro j
  induction j with
  |zero=>intro _ i hi;omega
  |succ j ih=>
   intro hj i hi
   by_cases e:i=j
   ·rw[e];exact Q2 j hj
   ·exact sU (ih (by omega) i (by omega)) (Q2 j hj)
 refine⟨?_,fun x hx=> ?_⟩
 ·refine List.pairwise_map.2 (List.pairwise_iff_getElem.2 fun i j hi hj oH=> ?_)
  have:=dT j hj i oH
  rw[get i hi,get j hj]at this
  exact this
 ·obtain⟨i,hi,e⟩:=List.getElem_of_mem hx
  have:=h' i hi
  unfold iK ja at this
  rw[get i hi,e]at this
  exact this.1
structure Q6(E:aj):Prop where
 key: ∀x∈E,eF x.1 x.2.1
 q:Q3 E
 len:E.length≤400
 zero:(E.map eP).sum=0
theorem ME{x:bW}(h:eF x.1 x.2.1):vH (keyOf x):=by
 have h':eF (keyOf x).1 (keyOf x).2:=h
 unfold eF at h'
 unfold vH Ca
 omega
theorem Q7(N:Nat)(hN:2000000≤N){l E:aj}(hk:fI l=true)(hl:l.length≤90000)(hlq:e9 l)(g:Q6 E):bB N l (E.map fU)=qF (fx aC (fS l E) (jX (l.map keyOf) E)):=by
 obtain⟨hs,MC⟩:=Aq hk
 have hE:=g.len
 unfold bB bB.b
 rw[za N (by omega) (by omega),hk,Option.bind_some,Bool.not_true,cond_false,aA (by rw[List.length_map];omega),cond_false,bC (by omega) (by omega) (by rw[List.length_map];omega),cond_true]
 have:=nG E aQ (fun n i (ws:List Int)=>bB.l5 N n l (E.map fU) (ws.map bm) (E.map fU) ((E.map fU).length:Int) i)
  (fun t ws=>if(ws++t.map eP).sum=0 then qF (fx aC (fS l E) (jX (l.map keyOf) E))else none)
  (fun j (ws:List Int)=>ws.length≤j∧(ws++(E.drop j).map eP).sum=0∧ ∀x∈ws,bL x)
  (fun n i ws hi hI hr=> ?_) (fun n ws hI=> ?_) E.length N 0 [] (by omega) (by omega) (by omega) ⟨Nat.le_refl _,g.zero,fun x hx=>nomatch hx⟩
 ·rw[show((0:Nat):Int)=0 from rfl,List.drop_zero]at this
  refine Eq.trans this ?_
  rw[List.nil_append,if_pos g.zero]
 ·unfold bB.l5 bB.c0
  have hm:E.getD i aQ∈E:=by
   rw[List.getD_eq_getElem?_getD,List.getElem?_eq_getElem hi];exact List.getElem_mem hi
  have T7:Kk N (fU (E.getD i aQ)).1 (fU (E.getD i aQ)).2.1=some true:=by
   rw[Kj]
   exact congrArg some (decide_eq_true (g.key _ hm))
  rw[aE (by rw[List.length_map];omega),cond_true,aG (by omega) (by rw[List.length_map];omega),cond_true,Int.toNat_natCast,Ev,T7,Option.bind_some,Bool.not_true,cond_false,bo (by rw[List.length_map,List.length_singleton];omega),cond_true,al (x:=(i:Int)+1) (by omega) (by omega),ae i]
  have h0:=hI.2.1
  rw[drop_cons hi aQ,List.map_cons]at h0
  have:=hr (ws++[eP (E.getD i aQ)]) ⟨by rw[List.length_append,List.length_singleton];omega,by rw[List.append_assoc];exact h0,uj hI.2.2 (MD g.q i)⟩
  rw[List.map_append]at this
  refine this.trans ?_
  rw[List.append_assoc];rfl
 ·unfold bB.l5 bB.c0
  have h0:=hI.2.1
  rw[List.drop_length,List.map_nil,List.append_nil]at h0
  rw[aA (by rw[List.length_map];omega),cond_false,y8 N hI.2.2 (by omega) (by omega),Option.bind_some,h0]
  have e0:GP 0=(bm 0,true):=by unfold GP;exact if_pos ⟨by decide,by decide⟩
  rw[e0]
  dsimp only
  rw[Bool.not_true,cond_false,nI,Option.bind_some,show mC 0=0 from rfl,cG rfl,Bool.not_true,cond_false,si N (by omega),Option.bind_some]
  rw[List.map_nil,List.append_nil,if_pos h0]
  exact Od N hN g.q hE (fun x hx=>ME (g.key x hx)) hs hl hlq (fun x hx=>ME (MC x hx))
end VM
end
section
namespace VM
open Go VM.F
theorem aci{v:Int}{n:Nat}(hn:n≤1000000)(h0: -(170141183460469231731687303715884105728*(n:Int))≤v)(h1:v≤170141183460469231731687303715884105728*(n:Int)):Fit v 900000:=by
 have h5:Fit v 5:=by
  unfold Fit
  rw[show(4294967296:Nat)^5=1461501637330902918203684832716283019655932542976 from rfl]
  omega
 exact h5.mono (by omega)
theorem zf{v:Int}(h:bL v):Fit v 900000:=aci (n:=1) (by omega) (by have:=h.1;omega) (by have:=h.2;omega)
def Ar:List cW:=CX 25 1 7
theorem Q8{l E:aj}(hk:fI l=true)(hp: ∀x∈E,eF x.1 x.2.1):fx aC (fS l E) (jX (l.map keyOf) E)=fx aC (fS l E) Ar:=by
 obtain⟨hs,MC⟩:=Aq hk
 refine G0 ⟨by decide,by decide⟩ (ui hs) (sX 25 7 1) (fun k hk=> ?_) (fun k hk hn=> ?_)
 ·have:eF k.1 k.2:=by
   rcases jf.1 hk with h|⟨x,hx,rfl⟩
   ·obtain⟨x,hx,rfl⟩:=List.mem_map.1 h
    exact MC x hx
   ·exact hp x hx
  unfold eF at this
  exact pW.2 (by omega)
 ·have h1:k∉l.map keyOf:=fun h=>hn (jf.2 (Or.inl h))
  have h2:k∉E.map keyOf:=fun h=>by
   obtain⟨x,hx,e⟩:=List.mem_map.1 h
   exact hn (jf.2 (Or.inr ⟨x,hx,e⟩))
  unfold fS
  rw[fE h1,fE h2];rfl
def fK(b:ag)(s e:aj):ag×Int:=
 match fx Fq (fS b.2.2.2.1 s) nL with
 |none=>((bF,(cc,(aY,(aY,(cv,(cF,())))))),2)
 |some s'=>match fx aC (fS b.2.2.1 e) Ar with
  |none=>((bF,(cc,(aY,(aY,(cv,(cF,())))))),2)
  |some r'=>((b.1,(b.2.1,(r',(s',b.2.2.2.2)))),0)
theorem Q9(N:Nat){b:ag}(w:fi b):UK N b=some b:=by
 unfold UK
 have h1:=w.m;have h2:=w.a;have h3:=w.r;have h4:=w.s;have h5:=w.p;have h6:=w.o
 rw[si N (by omega),Option.bind_some,si N (by omega),Option.bind_some,si N (by omega),Option.bind_some,si N (by omega),Option.bind_some,si N (by omega),Option.bind_some,si N (by omega),Option.bind_some]
end VM
end
section
namespace VM
open Go VM.F
theorem Ra(N:Nat)(hN:2000000≤N){b:ag}{s e:aj}(w:fi b)(hr:fI b.2.2.1=true)(hs:cR b.2.2.2.1=true)(lr:b.2.2.1.length≤90000)(ls:b.2.2.2.1.length≤90000)(gs:Q1 s)(ge:Q6 e):
  F65 N b s (e.map fU)=some (fK b s e):=by
 unfold F65 fK
 rw[Q9 N w,Option.bind_some,UH N hN hs ls w.qs gs,Q7 N hN hr lr w.qr ge,Oa hs gs.place,Q8 hr ge.key]
 unfold qF
 rw[Option.bind_some,Option.bind_some]
 have e1:ay 2 0=false:=cA (by omega)
 have e2:ay 0 0=true:=cG rfl
 cases fx Fq (fS b.2.2.2.1 s) nL with
 |none=>dsimp only;rw[e1];rfl
 |some s'=>
  cases fx aC (fS b.2.2.1 e) Ar with
  |none=>dsimp only;rw[e1,e2];rfl
  |some r'=>dsimp only;rw[e2];rfl
theorem MF(N:Nat)(C:c9.bn){l:aD}(hl:l.length≤100000)(i:Nat)(hi:i<l.length): ∀(m n k:Nat),i-k≤m→m<n→k≤i→(l.take k).any (nJ (l.getD i aJ).2.2.1 (l.getD i aJ).2.1)=false→
  c9.l9 N C n l (i:Int) (k:Int)=cond ((l.take i).any (nJ (l.getD i aJ).2.2.1 (l.getD i aJ).2.1)) (some false) (C l ((i+1:Nat):Int))
 |m,0,k,_,hn,_,_=>by omega
 |m,n+1,k,hm,hn,hk,hb=>by
  unfold c9.l9 c9.tk
  by_cases h:k<i
  ·have yE:=MF N C hl i hi (m-1) n (k+1) (by omega) (by omega) (by omega)
   have ht:(l.take (k+1)).any (nJ (l.getD i aJ).2.2.1 (l.getD i aJ).2.1)=nJ (l.getD i aJ).2.2.1 (l.getD i aJ).2.1 (l.getD k aJ):=by
    have ek:l.getD k aJ=l[k]'(by omega):=by rw[List.getD_eq_getElem?_getD,List.getElem?_eq_getElem (show k<l.length by omega)];rfl
    rw[←List.take_append_getElem (show k<l.length by omega),List.any_append,hb,ek,List.any_cons,List.any_nil,Bool.or_false,Bool.false_or]
   have ir:nJ (l.getD i aJ).2.2.1 (l.getD i aJ).2.1 (l.getD k aJ)=true→(l.take i).any (nJ (l.getD i aJ).2.2.1 (l.getD i aJ).2.1)=true:=fun hh=>by
    refine List.any_eq_true.2 ⟨l.getD k aJ,?_,hh⟩
    rw[List.getD_eq_getElem?_getD,List.getElem?_eq_getElem (show k<l.length by omega)]
    exact List.mem_take_iff_getElem.2 ⟨k,by omega,rfl⟩
   rw[aE (by omega),cond_true,aG (by omega) (by omega),cond_true,aG (by omega) (by omega),cond_true,cond_true,cond_true,Int.toNat_natCast,Int.toNat_natCast,aB,aB,al (x:=(k:Int)+1) (by omega) (by omega),ae k]
   by_cases h1:(l.getD k aJ).2.2.1=(l.getD i aJ).2.2.1
   ·by_cases h2:(l.getD k aJ).2.1=(l.getD i aJ).2.1
    ·rw[if_pos h1,if_pos h2,ir (by unfold nJ gl;rw[decide_eq_true h1,decide_eq_true h2];rfl)];rfl
    ·rw[if_pos h1,if_neg h2]
     exact yE (by rw[ht];unfold nJ gl;rw[decide_eq_false h2,Bool.and_false])
   ·rw[if_neg h1]
    exact yE (by rw[ht];unfold nJ gl;rw[decide_eq_false h1,Bool.false_and])
  ·have:k=i:=by omega
   subst this
   rw[aA (by omega),cond_false,hb,cond_false,al (x:=(k:Int)+1) (by omega) (by omega),ae k]
theorem sj(N:Nat){l:aD}(hl:l.length≤100000)(hN:200000≤N):c9 N l=some (QY l):=by
 unfold c9 c9.b QY
 by_cases h40:l.length≤40
 ·rw[aA (by omega),cond_false,decide_eq_true h40]
  refine eN (F:=fun n i=>c9.l4 N n l i) (vB l) (fun n i r hi hp hr=> ?_) (fun n=> ?_) N (by omega)
  ·unfold c9.l4 c9.c5 c9.j8 c9.Rb
   have ir:c9.l9 N (c9.l4 N n) N l (i:Int) 0=_:=MF N (c9.l4 N n) hl i hi i N 0 (by omega) (by omega) (by omega) rfl
   rw[aE (by omega),cond_true,aG (by omega) (by omega),cond_true,cond_true,Int.toNat_natCast,Mw,Option.bind_some,cond_not,cN,ir,hr]
   have hT:cond ((l.take i).any (nJ (l.getD i aJ).2.2.1 (l.getD i aJ).2.1)) (some false) r=if(l.take i).any (nJ (l.getD i aJ).2.2.1 (l.getD i aJ).2.1)=false then r else some false:=by
    cases(l.take i).any (nJ (l.getD i aJ).2.2.1 (l.getD i aJ).2.1)<;>rfl
   rw[hT]
   by_cases hK:CP (l.getD i aJ)
   ·rw[if_pos hK]
    have hD:(if vB l i then r else some false)=if pU i (l.getD (i-1) aJ).1 (l.getD i aJ).1 then(if(l.take i).any (nJ (l.getD i aJ).2.2.1 (l.getD i aJ).2.1)=false then r else some false)else some false:=by
     by_cases h1:pU i (l.getD (i-1) aJ).1 (l.getD i aJ).1<;>by_cases h2:(l.take i).any (nJ (l.getD i aJ).2.2.1 (l.getD i aJ).2.1)=false
     ·rw[if_pos h1,if_pos h2,if_pos ⟨hK,h1,h2⟩]
     ·rw[if_pos h1,if_neg h2,if_neg (fun h=>h2 h.2.2)]
     ·rw[if_neg h1,if_neg (fun h=>h1 h.2.1)]
     ·rw[if_neg h1,if_neg (fun h=>h1 h.2.1)]
    rw[hD]
    by_cases h0:0<i
    ·have e:W .i64 ((i:Int)-1)=((i-1:Nat):Int):=by rw[al (by omega) (by omega)];omega
     rw[aE (x:=0) (y:=(i:Int)) (by omega),cond_true,e]
     dsimp only
     rw[Int.toNat_natCast,aG (by omega) (by omega),cond_true,bt]
     by_cases h1:pU i (l.getD (i-1) aJ).1 (l.getD i aJ).1
     ·rw[if_pos h1,if_neg (by unfold pU at h1;omega)]
     ·rw[if_neg h1,if_pos (by unfold pU at h1;omega)]
    ·rw[aA (x:=0) (y:=(i:Int)) (by omega),cond_false,if_pos (show pU i (l.getD (i-1) aJ).1 (l.getD i aJ).1 from fun h=>absurd h h0)]
   ·rw[if_neg hK,if_neg (fun h=>hK h.1)]
  ·unfold c9.l4 c9.c5
   rw[aA (by omega),cond_false]
 ·rw[aE (by omega),cond_true,decide_eq_false h40,Bool.and_false]
end VM
end
section
namespace VM
open Go VM.F
def qI(s w p:Int):Prop:=((s=1∨s=3)∧w=0∧p=0)∨(s=2∧1≤w∧w≤12∧ -1152921504606846976≤p∧p≤1152921504606846976)
instance(s w p:Int):Decidable (qI s w p):=by unfold qI;infer_instance
def As(a:Int):Prop:=1≤a∧a≤1099511627776
instance(a:Int):Decidable (As a):=by unfold As;infer_instance
def leI(a b:Int):Prop:=a≤b
instance(a b:Int):Decidable (leI a b):=by unfold leI;infer_instance
def zg(c:aa)(l:aZ)(i:Nat):Prop:=
 As (l.getD i ((0:Int),(bF,aJ))).1∧pU i (l.getD (i-1) ((0:Int),(bF,aJ))).1 (l.getD i ((0:Int),(bF,aJ))).1∧ ¬gl ((l.getD i ((0:Int),(bF,aJ))).2.1.length:Int) 0∧mo c (l.getD i ((0:Int),(bF,aJ))).2.1=true∧leI (l.getD i ((0:Int),(bF,aJ))).2.2.1 0∧qI (l.getD i ((0:Int),(bF,aJ))).2.2.2.1 (l.getD i ((0:Int),(bF,aJ))).2.2.2.2.1 (l.getD i ((0:Int),(bF,aJ))).2.2.2.2.2.1
instance(c:aa)(l:aZ):DecidablePred (zg c l):=fun i=>by unfold zg;infer_instance
def KB(c:aa)(l:aZ):Bool:=dR c&&(decide (l.length≤12)&&(decide (∀j,j<l.length→zg c l j)&&true))
def G8(l:aZ):Prop:= ∀x∈l,x.2.1.length≤100000
theorem KC{l:aZ}(h:G8 l)(i:Nat):(l.getD i ((0:Int),(bF,aJ))).2.1.length≤100000:=by
 by_cases hi:i<l.length
 ·rw[List.getD_eq_getElem?_getD,List.getElem?_eq_getElem hi];exact h _ (List.getElem_mem hi)
 ·rw[List.getD_eq_getElem?_getD,List.getElem?_eq_none (by omega)];exact Nat.zero_le _
theorem UL(s w p:Int)(r:Option Bool):
  cond (ay s 1) (cond (!ay w 0) (some false) (cond (!ay p 0) (some false) r)) (cond (ay s 3) (cond (!ay w 0) (some false) (cond (!ay p 0) (some false) r)) (cond (ay s 2) (cond (aH w 1) (some false) (cond (aH 12 w) (some false) (cond (aH p (-1152921504606846976)) (some false) (cond (aH 1152921504606846976 p) (some false) r)))) (some false)))=
   if qI s w p then r else some false:=by
 simp only[cond_not,aB,a8]
 by_cases h:qI s w p
 ·rw[if_pos h];unfold qI at h
  repeat' split
  all_goals first|rfl|omega
 ·rw[if_neg h];unfold qI at h
  repeat' split
  all_goals first|rfl|omega
theorem Oe{A B C D E F:Prop} [Decidable A] [Decidable B] [Decidable C] [Decidable D] [Decidable E] [Decidable F](r:Option Bool):
  (if A then(if B then(if C then(if D then(if E then(if F then r else some false)else some false)else some false)else some false)else some false)else some false)=if A∧B∧C∧D∧E∧F then r else some false:=by
 by_cases hA:A<;>by_cases hB:B<;>by_cases hC:C<;>by_cases hD:D<;>by_cases hE:E<;>by_cases hF:F<;>simp only[hA,hB,hC,hD,hE,hF,if_true,if_false,and_self,and_true,and_false,false_and,true_and]
theorem Rc{a b n f s w p:Int}{i:Nat}{o:Bool}{r:Option Bool}:
  cond (aH a 1) (some false) (cond (aH 1099511627776 a) (some false) (if pU i b a then(cond (ay n 0) (some false) (cond (!o) (some false) (cond (aH 0 f) (some false) (if qI s w p then r else some false))))else some false))=
   if As a∧pU i b a∧ ¬gl n 0∧o=true∧leI f 0∧qI s w p then r else some false:=by
 rw[←Oe]
 simp only[cond_not,aB,a8]
 by_cases h1:As a
 ·have mJ:=h1
  unfold As at mJ
  rw[if_pos h1,if_neg (by omega),if_neg (by omega)]
  by_cases h2:pU i b a
  ·rw[if_pos h2,if_pos h2]
   by_cases h3:n=0
   ·rw[if_pos h3,if_neg (show ¬ ¬gl n 0 from fun h=>h h3)]
   ·rw[if_neg h3,if_pos (show ¬gl n 0 from h3)]
    cases o
    ·rfl
    ·rw[cond_true,if_pos rfl]
     by_cases h4:f≤0
     ·rw[if_pos (show leI f 0 from h4),if_neg (by omega)]
     ·rw[if_neg (show ¬leI f 0 from h4),if_pos (by omega)]
  ·rw[if_neg h2,if_neg h2]
 ·have mJ:=h1
  unfold As at mJ
  rw[if_neg h1]
  by_cases h2:a<1
  ·rw[if_pos h2]
  ·rw[if_neg h2,if_pos (by omega)]
theorem Re{i:Nat}{a b:Int}{r:Option Bool}(h0:0<i):cond (bU a b) (some false) r=if pU i b a then r else some false:=by
 rw[bt]
 by_cases h1:pU i b a
 ·rw[if_pos h1,if_neg (by unfold pU at h1;omega)]
 ·rw[if_neg h1,if_pos (by unfold pU at h1;omega)]
theorem Au(N:Nat)(hN:200000≤N)(c:aa){l:aZ}(hl:l.length≤100000)(hw:G8 l):fy N c l=some (KB c l):=by
 unfold fy fy.b KB
 rw[nH N (by omega),Option.bind_some]
 cases dR c
 ·rfl
 rw[Bool.not_true,cond_false,Bool.true_and]
 by_cases h12:l.length≤12
 ·rw[aA (by omega),cond_false,decide_eq_true h12,Bool.true_and]
  refine eN (F:=fun n i=>fy.l4 N n l c i) (zg c l) (fun n i r hi hp hr=> ?_) (fun n=> ?_) N (by omega)
  ·unfold fy.l4 fy.c5 fy.j9 fy.Ki
   rw[aE (by omega),cond_true,aG (by omega) (by omega),cond_true,Int.toNat_natCast,vA N hN c (KC hw i),Option.bind_some,al (x:=(i:Int)+1) (by omega) (by omega),ae i,hr,UL]
   refine Eq.trans ?_ Rc
   by_cases h0:0<i
   ·have e:W .i64 ((i:Int)-1)=((i-1:Nat):Int):=by rw[al (by omega) (by omega)];omega
    rw[aE (x:=0) (y:=(i:Int)) (by omega),cond_true,e]
    dsimp only
    rw[Int.toNat_natCast,aG (by omega) (by omega),cond_true,Re h0]
   ·rw[aA (x:=0) (y:=(i:Int)) (by omega),cond_false,if_pos (show pU i (l.getD (i-1) ((0:Int),(bF,aJ))).1 (l.getD i ((0:Int),(bF,aJ))).1 from fun h=>absurd h h0)]
  ·unfold fy.l4 fy.c5
   rw[aA (by omega),cond_false]
 ·rw[aE (by omega),cond_true,decide_eq_false h12,Bool.false_and]
end VM
end
section
namespace VM
open Go VM.F
abbrev AwS:=aj×aj×aZ
def MG(a:Int):Prop:=0≤a∧a<6
structure Rf(t:au):Prop where
 len:t.length≤6
 inst: ∀y∈t,MG y.1
 q: ∀y∈t,aC y.2.1∧yG y.2.1
structure aav(z:AwS)(i:Nat):Prop where
 place: ∀x∈z.1,bR x.1 x.2.1
 q: ∀x∈z.1,aC (eP x)∧yG (eP x)
 len:z.1.length≤12*i
 flat: ∀a:Int,(dS a z.1).sum=0
 key: ∀x∈z.2.1,eF x.1 x.2.1
 qe: ∀x∈z.2.1,aC (eP x)
 ava:z.2.1.length≤2*i
 zero:(z.2.1.map eP).sum=0
 out:z.2.2.length=i
theorem Ti(a:Int)(l m:aj):dS a (l++m)=dS a l++dS a m:=by
 induction l with
 |nil=>rfl
 |cons x t ih=>
  rw[List.cons_append,fD,fD,ih]
  split<;>rfl
theorem aav.nil:aav ([],[],[]) 0:=⟨fun x hx=>(nomatch hx),fun x hx=>(nomatch hx),Nat.le_refl _,fun a=>rfl,fun x hx=>(nomatch hx),fun x hx=>(nomatch hx),Nat.le_refl _,rfl,rfl⟩
end VM
end
section
namespace VM
open Go VM.F
theorem jZ{c:aa}{b:ag}(h:bV c b=true):fI b.2.2.1=true∧cR b.2.2.2.1=true:=by
 unfold bV at h
 have h1:=(Bool.and_eq_true_iff.1 (Bool.and_eq_true_iff.1 h).2).2
 have h2:=Bool.and_eq_true_iff.1 h1
 have h3:=(Bool.and_eq_true_iff.1 (Bool.and_eq_true_iff.1 h2.2).2).1
 refine⟨h2.1,?_⟩
 unfold wS at h3
 exact(Bool.and_eq_true_iff.1 h3).2
structure sY(b:ag):Prop where
 w:fi b
 r:b.2.2.1.length≤90000
 s:b.2.2.2.1.length≤90000
end VM
end
section
namespace VM
open Go VM.F
end VM
end
section
namespace VM
open Go VM.F
theorem dI(x:Int):ay x x=true:=cG rfl
theorem acj(x:Ks):kZ (.pair (.int .i64) (.pair (.int .i64) .unit)) x x=true:=by
 show(ay x.1 x.1&&(ay x.2.1 x.2.1&&true))=true
 rw[dI,dI];rfl
theorem ack(x:bW):kZ (.pair (.int .i64) (.pair (.int .i64) (.pair (.int .i64) .unit))) x x=true:=by
 show(ay x.1 x.1&&kZ (.pair (.int .i64) (.pair (.int .i64) .unit)) x.2 x.2)=true
 rw[dI,acj];rfl
theorem KD(x:bh):kZ (.pair (.int .i64) (.pair (.int .i64) (.pair (.int .i64) (.pair (.int .i64) .unit)))) x x=true:=by
 show(ay x.1 x.1&&kZ (.pair (.int .i64) (.pair (.int .i64) (.pair (.int .i64) .unit))) x.2 x.2)=true
 rw[dI,ack];rfl
theorem acm(x:cq):kZ (.pair (.int .i64) (.pair (.int .i64) (.pair (.int .i64) (.pair (.int .i64) (.pair (.int .i64) (.pair (.int .i64) .unit)))))) x x=true:=by
 show(ay x.1 x.1&&(ay x.2.1 x.2.1&&kZ (.pair (.int .i64) (.pair (.int .i64) (.pair (.int .i64) (.pair (.int .i64) .unit)))) x.2.2 x.2.2))=true
 rw[dI,dI,KD];rfl
theorem CZ{F:Nat→Int→Option Bool}{len:Nat}(hs: ∀n (i:Nat),i<len→F n ((i+1:Nat):Int)=some true→F (n+1) (i:Int)=some true)(he: ∀n,F (n+1) (len:Int)=some true): ∀(m n i:Nat),len-i≤m→m<n→i≤len→F n (i:Int)=some true
 |m,0,i,_,hn,_=>by omega
 |m,n+1,i,hm,hn,hi=>by
  by_cases h:i<len
  ·exact hs n i h (CZ hs he (m-1) n (i+1) (by omega) (by omega) (by omega))
  ·have:i=len:=by omega
   subst this;exact he n
theorem KE(N:Nat){l:aT}(hl:l.length≤100000)(hN:200000≤N):yL N l l=some true:=by
 unfold yL yL.b
 rw[dI,Bool.not_true,cond_false]
 refine CZ (F:=fun n i=>yL.l4 N n l l i) (len:=l.length) (fun n i hi hr=> ?_) (fun n=> ?_) l.length N 0 (by omega) (by omega) (by omega)
 ·unfold yL.l4 yL.c5
  rw[aE (by omega),cond_true,aG (by omega) (by omega),cond_true,cond_true,acm,Bool.not_true,cond_false,al (x:=(i:Int)+1) (by omega) (by omega),ae i]
  exact hr
 ·unfold yL.l4 yL.c5
  rw[aA (by omega),cond_false]
theorem Av{P:Int→Prop} [DecidablePred P]{f:Int→Int→Int}: ∀{K:List cW} {o:aj},fx P f K=some o→o.length≤K.length
 |[],o,h=>by
  have:some []=some o:=h
  rw[←Option.some.inj this];exact Nat.le_refl _
 |k::t,o,h=>by
  rw[kN]at h
  by_cases hP:P (f k.1 k.2)
  ·rw[if_pos hP]at h
   cases hc:fx P f t with
   |none=>rw[hc]at h;exact absurd h (by simp)
   |some r=>
    have ih:=Av hc
    rw[hc]at h
    have h':=Option.some.inj h
    rw[←h',List.length_cons]
    dsimp only
    split
    ·omega
    ·rw[List.length_cons];omega
  ·rw[if_neg hP]at h;exact absurd h (by simp)
theorem KF:nL.length=150:=by decide+kernel
theorem Of:Ar.length=175:=by decide+kernel
structure Aw(b:ag):Prop where
 m:b.1.length≤100000
 a:b.2.1.length≤100000
 r:b.2.2.1.length≤100000
 s:b.2.2.2.1.length≤100000
 p:b.2.2.2.2.1.length≤100000
 o:b.2.2.2.2.2.1.length≤100000
theorem nh:Aw (([]:au),(([]:aD),(([]:aj),(([]:aj),(([]:List Int),(([]:aT),())))))):=⟨Nat.zero_le _,Nat.zero_le _,Nat.zero_le _,Nat.zero_le _,Nat.zero_le _,Nat.zero_le _⟩
theorem G9{b:ag}(w:fi b)(s e:aj):Aw (fK b s e).1:=by
 unfold fK
 cases h1:fx Fq (fS b.2.2.2.1 s) nL with
 |none=>exact nh
 |some s'=>
  cases h2:fx aC (fS b.2.2.1 e) Ar with
  |none=>exact nh
  |some r'=>
   have g1:=Av h1
   have g2:=Av h2
   rw[KF]at g1
   rw[Of]at g2
   exact⟨w.m,w.a,by show r'.length≤_;omega,by show s'.length≤_;omega,w.p,w.o⟩
end VM
end
section
namespace VM
open Go VM.F Go.RowKit
def ib(a b:Int):aj→Int
 |[]=>0
 |x::t=>if x.1=a then(if x.2.1=b then x.2.2.1 else ib a b t)else ib a b t
theorem ic(a b:Int)(x:bW)(t:aj):ib a b (x::t)=if x.1=a then(if x.2.1=b then x.2.2.1 else ib a b t)else ib a b t:=rfl
def dX(l:aj)(a b:Int):Int:=if cR l then ib a b l else 0
def tI(l:aj)(a b:Int):Int:=if fI l then ib a b l else 0
theorem o3(N:Nat){l:aj}(hl:l.length≤100000)(hN:200000≤N)(a b:Int):tJ N l a b=some (dX l a b):=by
 unfold tJ tJ.b dX
 rw[ng N hl hN,Option.bind_some,cond_not]
 have:=vo l aQ (fun n i=>tJ.l4 N n l a b i) (fun t=>some (ib a b t)) (fun n i hi hr=> ?_) (fun n=> ?_) N (by omega)
 ·rw[this];cases cR l<;>rfl
 ·unfold tJ.l4 tJ.c5
  rw[aE (by omega),cond_true,aG (by omega) (by omega),cond_true,cond_true,cond_true,Int.toNat_natCast,al (x:=(i:Int)+1) (by omega) (by omega),ae i,hr,aB,aB,ic]
  split
  ·split<;>rfl
  ·rfl
 ·unfold tJ.l4 tJ.c5
  rw[aA (by omega),cond_false];rfl
theorem Rg(N:Nat){l:aj}(hl:l.length≤100000)(hN:200000≤N)(a b:Int):ri N l a b=some (tI l a b):=by
 unfold ri ri.b tI
 rw[Ad N hl hN,Option.bind_some,cond_not]
 have:=vo l aQ (fun n i=>ri.l4 N n l a b i) (fun t=>some (ib a b t)) (fun n i hi hr=> ?_) (fun n=> ?_) N (by omega)
 ·rw[this];cases fI l<;>rfl
 ·unfold ri.l4 ri.c5
  rw[aE (by omega),cond_true,aG (by omega) (by omega),cond_true,cond_true,cond_true,Int.toNat_natCast,al (x:=(i:Int)+1) (by omega) (by omega),ae i,hr,aB,aB,ic]
  split
  ·split<;>rfl
  ·rfl
 ·unfold ri.l4 ri.c5
  rw[aA (by omega),cond_false];rfl
theorem MH{l:aj}(h: ∀i,i<l.length→aC (eP (l.getD i aQ))):e9 l:=fun x hx=>by
 obtain⟨i,hi,e⟩:=List.getElem_of_mem hx
 have:=h i hi
 rw[List.getD_eq_getElem?_getD,List.getElem?_eq_getElem hi]at this
 rw[←e];exact this
namespace Pure
end Pure
end VM
end
section
namespace VM
open Go VM.F
theorem UM(N:Nat){l:aj}(hl:l.length≤100000)(hN:200000≤N)(a b:Int):lO N l a b=some (tI l a b):=by
 unfold lO lO.b tI
 rw[za N hl hN,Option.bind_some,cond_not]
 have:=vo l aQ (fun n i=>lO.l4 N n a b l (l.length:Int) i) (fun t=>some (ib a b t)) (fun n i hi hr=> ?_) (fun n=> ?_) N (by omega)
 ·rw[this];cases fI l<;>rfl
 ·unfold lO.l4 lO.c5
  rw[aE (by omega),cond_true,aG (by omega) (by omega),cond_true,Int.toNat_natCast,al (x:=(i:Int)+1) (by omega) (by omega),ae i,hr,aB,aB,ic]
  split
  ·split<;>rfl
  ·rfl
 ·unfold lO.l4 lO.c5
  rw[aA (by omega),cond_false];rfl
theorem Ax{l:aj}(h:e9 l)(a b:Int):aC (ib a b l):=by
 induction l with
 |nil=>show aC 0;decide
 |cons x t ih=>
  have ih:=ih (fun y hy=>h y (List.mem_cons_of_mem _ hy))
  rw[ic]
  split
  ·split
   ·exact h x (List.mem_cons_self ..)
   ·exact ih
  ·exact ih
theorem Ha{l:aj}(h:e9 l)(a b:Int):aC (tI l a b):=by
 unfold tI
 split
 ·exact Ax h a b
 ·exact⟨by decide,by decide⟩
def gS(a:Int):aj→au
 |[]=>[]
 |x::t=>if x.1=a then(x.2.1,(x.2.2.1,()))::gS a t else gS a t
theorem ju(a:Int)(x:bW)(t:aj):gS a (x::t)=if x.1=a then(x.2.1,(x.2.2.1,()))::gS a t else gS a t:=rfl
def posOf(l:aj)(a:Int):au:=if cR l then gS a l else []
theorem Ay(a:Int): ∀l:aj,(gS a l).length≤l.length
 |[]=>Nat.le_refl _
 |x::t=>by
  have:=Ay a t
  rw[ju,List.length_cons]
  split
  ·rw[List.length_cons];omega
  ·omega
theorem C0(a:Int)(l:aj):(posOf l a).length≤l.length:=by
 unfold posOf
 split
 ·exact Ay a l
 ·exact Nat.zero_le _
theorem fL{a:Int}{y:Ks}: ∀{l:aj},y∈gS a l→ ∃x∈l,x.1=a∧y=(x.2.1,(x.2.2.1,()))
 |[],h=>nomatch h
 |x::t,h=>by
  rw[ju]at h
  by_cases e:x.1=a
  ·rw[if_pos e]at h
   rcases List.mem_cons.1 h with h|h
   ·exact⟨x,List.mem_cons_self ..,e,h⟩
   ·obtain⟨x',hx,h'⟩:=fL h
    exact⟨x',List.mem_cons_of_mem _ hx,h'⟩
  ·rw[if_neg e]at h
   obtain⟨x',hx,h'⟩:=fL h
   exact⟨x',List.mem_cons_of_mem _ hx,h'⟩
theorem Hb{l:aj}(h:e9 l)(a:Int): ∀y∈posOf l a,aC y.2.1:=fun y hy=>by
 unfold posOf at hy
 split at hy
 ·obtain⟨x,hx,_,rfl⟩:=fL hy
  exact h x hx
 ·nomatch hy
theorem aaw(N:Nat){l:aj}(hl:l.length≤100000)(hN:200000≤N)(a:Int):kO N l a=some (posOf l a):=by
 unfold kO kO.b posOf
 rw[vp N hl hN,Option.bind_some,cond_not]
 have:=nG l aQ (fun n i s=>kO.l5 N n a s l (l.length:Int) i) (fun t s=>some (s++gS a t)) (fun i (s:au)=>s.length≤i) (fun n i s hi hI hr=> ?_) (fun n s hI=> ?_) l.length N 0 [] (by omega) (by omega) (by omega) (Nat.le_refl _)
 ·have e:kO.l5 N N a [] l (l.length:Int) 0=some (gS a l):=this
  rw[e];cases cR l<;>rfl
 ·unfold kO.l5 kO.c0
  rw[aE (by omega),cond_true,aG (by omega) (by omega),cond_true,Int.toNat_natCast,al (x:=(i:Int)+1) (by omega) (by omega),ae i,aB,bo (by rw[List.length_singleton];omega),cond_true,ju]
  split
  ·rw[hr _ (by rw[List.length_append,List.length_singleton];omega),List.append_assoc];rfl
  ·exact hr s (by omega)
 ·unfold kO.l5 kO.c0
  rw[aA (by omega),cond_false]
  show some s=some (s++[])
  rw[List.append_nil]
theorem Rh(N:Nat){l:aj}(hl:l.length≤100000)(hN:200000≤N)(a:Int):tK N l a=some (posOf l a):=by
 unfold tK tK.b posOf
 rw[ng N hl hN,Option.bind_some,cond_not]
 have:=nG l aQ (fun n i s=>tK.l5 N n l a s i) (fun t s=>some (s++gS a t)) (fun i (s:au)=>s.length≤i) (fun n i s hi hI hr=> ?_) (fun n s hI=> ?_) l.length N 0 [] (by omega) (by omega) (by omega) (Nat.le_refl _)
 ·have e:tK.l5 N N l a [] 0=some (gS a l):=this
  rw[e];cases cR l<;>rfl
 ·unfold tK.l5 tK.c0
  rw[aE (by omega),cond_true,aG (by omega) (by omega),cond_true,cond_true,cond_true,Int.toNat_natCast,al (x:=(i:Int)+1) (by omega) (by omega),ae i,aB,bo (by rw[List.length_singleton];omega),cond_true,ju]
  split
  ·rw[hr _ (by rw[List.length_append,List.length_singleton];omega),List.append_assoc];rfl
  ·exact hr s (by omega)
 ·unfold tK.l5 tK.c0
  rw[aA (by omega),cond_false]
  show some s=some (s++[])
  rw[List.append_nil]
def mN(a n:Int):Prop:=0≤a∧a<n
end VM
end
section
namespace VM
open Go VM.F
theorem Ri{hi:Int}: ∀{l:List Int} {lo:Int},l.Pairwise (· < ·)→(∀x∈l,lo≤x∧x<hi)→lo≤hi→(l.length:Int)≤hi-lo
 |[],lo,_,_,h=>by rw[List.length_nil];omega
 |x::t,lo,hp,hm,h=>by
  obtain⟨h1,h2⟩:=List.pairwise_cons.1 hp
  have hx:=hm x (List.mem_cons_self ..)
  have ih:=Ri (lo:=x+1) h2 (fun y hy=>⟨h1 y hy,(hm y (List.mem_cons_of_mem _ hy)).2⟩) (by omega)
  rw[List.length_cons];omega
theorem xR{a:Int}: ∀{l:aj},uh (l.map keyOf)→((gS a l).map (fun y=>(y.1:Int))).Pairwise (· < ·)
 |[],_=>List.Pairwise.nil
 |x::t,h=>by
  obtain⟨h1,h2⟩:=List.pairwise_cons.1 h
  have ih:=xR (a:=a) h2
  rw[ju]
  by_cases e:x.1=a
  ·rw[if_pos e,List.map_cons]
   refine List.pairwise_cons.2 ⟨fun z hz=> ?_,ih⟩
   obtain⟨y,hy,rfl⟩:=List.mem_map.1 hz
   obtain⟨x',hx,e',rfl⟩:=fL hy
   have hk:=h1 (keyOf x') (List.mem_map_of_mem hx)
   have g: ∀p q r s:Int,p=a→r=a→iu p q r s→q<s:=fun p q r s h1 h2 h=>by unfold iu at h;omega
   exact g _ _ _ _ e e' hk
  ·rw[if_neg e];exact ih
theorem Rj{l:aj}(hk:cR l=true)(hq:e9 l)(a:Int):Rf (posOf l a):=by
 obtain⟨hs,hp⟩:=gR hk
 have e:posOf l a=gS a l:=by unfold posOf;rw[hk];rfl
 rw[e]
 have ir: ∀y∈gS a l,MG y.1:=fun y hy=>by
  obtain⟨x,hx,_,rfl⟩:=fL hy
  have g: ∀p q:Int,bR p q→MG q:=fun p q h=>by unfold bR at h;unfold MG;omega
  exact g _ _ (hp x hx).1
 refine⟨?_,ir,fun y hy=> ?_⟩
 ·have:=Ri (lo:=0) (hi:=6) (xR (a:=a) hs) (fun z hz=>by
   obtain⟨y,hy,rfl⟩:=List.mem_map.1 hz
   exact ir y hy) (by omega)
  rw[List.length_map]at this;omega
 ·obtain⟨x,hx,_,rfl⟩:=fL hy
  exact⟨hq x hx,(hp x hx).2⟩
end VM
end
section
namespace VM
open Go VM.F
def bw(p:Int):Prop:=1≤p∧p≤1000000000000
instance(p:Int):Decidable (bw p):=by unfold bw;infer_instance
theorem KG(N:Nat)(p:Int):yH N p=some (decide (bw p)):=(js N p).trans (congrArg some (decide_eq_decide.2 Iff.rfl))
def fj(a b c d e:Int):Prop:=(0≤a∧a≤24)∧(0≤b∧b≤24)∧a≠b∧(0≤c∧c<6)∧(1≤d∧d≤1000000000)∧bw e
instance(a b c d e:Int):Decidable (fj a b c d e):=by unfold fj;infer_instance
def c6(t:fZ):Prop:=fj t.1 t.2.1 t.2.2.1 t.2.2.2.1 t.2.2.2.2.1
instance:DecidablePred c6:=fun t=>by unfold c6;infer_instance
theorem xS(a b c d e:Int):cond (bU 0 a) (cond (bU a 24) (cond (bU 0 b) (cond (bU b 24) (cond (!ay a b) (cond (bU 0 c) (cond (aH c 6) (cond (bU 1 d) (cond (bU d 1000000000) (some (decide (bw e))) (some false)) (some false)) (some false)) (some false)) (some false)) (some false)) (some false)) (some false)) (some false)=some (decide (fj a b c d e)):=by
 simp only[bt,cond_not,aB,a8]
 by_cases hP:fj a b c d e
 ·have hp:=hP.2.2.2.2.2
  rw[decide_eq_true hP,decide_eq_true hp]
  unfold fj at hP
  repeat' split
  all_goals first|rfl|omega
 ·rw[decide_eq_false hP]
  by_cases hp:bw e
  ·unfold fj at hP
   repeat' split
   all_goals first|rfl|(exact absurd ⟨by omega,by omega,by omega,by omega,by omega,hp⟩ hP)
  ·rw[decide_eq_false hp]
   repeat' split
   all_goals rfl
theorem C1(N:Nat)(t:fZ):Rk N t=some (decide (c6 t)):=by
 unfold Rk
 rw[KG,Option.bind_some]
 exact xS _ _ _ _ _
def Ew(a x:Int):bW:=if a=0 then((2:Int),((0:Int),(x,())))else((5:Int),(a,(x,())))
def nM(t:fZ)(p:Int):aj:=if p-t.2.2.2.2.1=0 then []else [Ew t.1 ((p-t.2.2.2.2.1)*t.2.2.2.1),Ew t.2.1 (-((p-t.2.2.2.2.1)*t.2.2.2.1))]
def mO(b:ag)(t:fZ):Int:=b.2.2.2.2.1.getD t.2.2.1.toNat 0
def eG:aX→aj
 |[]=>[]
 |t::r=>(t.1,(t.2.2.1,(t.2.2.2.1,())))::(t.2.1,(t.2.2.1,((0-t.2.2.2.1:Int),())))::eG r
def ga(b:ag):aX→aj
 |[]=>[]
 |t::r=>nM t (mO b t)++ga b r
theorem lP(t:fZ)(r:aX):eG (t::r)=(t.1,(t.2.2.1,(t.2.2.2.1,())))::(t.2.1,(t.2.2.1,((0-t.2.2.2.1:Int),())))::eG r:=rfl
theorem sk(b:ag)(t:fZ)(r:aX):ga b (t::r)=nM t (mO b t)++ga b r:=rfl
theorem vK(a x:Int):eP (Ew a x)=x:=by unfold Ew;split<;>rfl
theorem Og{d q:Int}(h1: -1000000000000≤d∧d≤1000000000000)(h2:1≤q∧q≤1000000000): -1000000000000000000000≤d*q∧d*q≤1000000000000000000000∧(d*q=0↔d=0):=by
 refine⟨?_,?_,?_⟩
 ·have:=Int.mul_le_mul_of_nonneg_right h1.1 (show 0≤q by omega)
  have h3: -1000000000000*1000000000≤ -1000000000000*q:=by omega
  omega
 ·have:=Int.mul_le_mul_of_nonneg_right h1.2 (show 0≤q by omega)
  have h3:1000000000000*q≤1000000000000*1000000000:=by omega
  omega
 ·rw[Int.mul_eq_zero];omega
def iy(c:aa)(b:ag)(t:fZ):Bool:=
 ((dx b.2.1 t.1).2||decide (gl t.1 0))&&(((dx b.2.1 t.2.1).2||decide (gl t.2.1 0))&&decide (Fw t.2.2.1 c.1.length))
def j1(c:aa)(b:ag)(l:aX):ag×Int:=
 if bV c b then(if l.length≤200 then(if l.all (fun t=>decide (c6 t))then(if l.all (iy c b)then fK b (eG l) (ga b l)else((bF,(cc,(aY,(aY,(cv,(cF,())))))),3))else((bF,(cc,(aY,(aY,(cv,(cF,())))))),1))else((bF,(cc,(aY,(aY,(cv,(cF,())))))),1))else((bF,(cc,(aY,(aY,(cv,(cF,())))))),1)
theorem cP{c:aa}{b:ag}(h:bV c b=true):b.2.2.2.2.1.length=c.1.length∧fT b.2.2.2.2.1=true:=by
 unfold bV at h
 simp only[Bool.and_eq_true]at h
 have h1:=of_decide_eq_true h.2.2.2.2.2.2.1
 unfold gl at h1
 exact⟨by omega,h.2.2.2.2.2.2.2.2.2.2⟩
theorem uk: ∀l:aX,(eG l).length=2*l.length
 |[]=>rfl
 |t::r=>by rw[lP,List.length_cons,List.length_cons,List.length_cons,uk r];omega
theorem Az(t:fZ)(p:Int):(nM t p).length≤2:=by
 unfold nM
 split
 ·exact Nat.zero_le _
 ·exact Nat.le_refl 2
theorem um(b:ag): ∀l:aX,(ga b l).length≤2*l.length
 |[]=>Nat.le_refl _
 |t::r=>by
  have:=Az t (mO b t)
  have:=um b r
  rw[sk,List.length_append,List.length_cons];omega
end VM
end
section
namespace VM
open Go VM.F
theorem nN{l:List Int}(h:fT l=true){i:Nat}(hi:i<l.length):bw (l.getD i 0):=of_decide_eq_true h i hi
theorem KH(i:Int)(a b:bW)(l:aj)(h:a.2.1=b.2.1)(hs:eP a+eP b=0):(dS i (a::b::l)).sum=(dS i l).sum:=by
 rw[fD,fD]
 by_cases e:a.2.1=i
 ·rw[if_pos e,if_pos (h.symm.trans e),List.sum_cons,List.sum_cons];omega
 ·rw[if_neg e,if_neg (fun k=>e (h.trans k))]
theorem xT: ∀{l:aX},(∀t∈l,c6 t)→(∀x∈eG l,bR x.1 x.2.1∧aC (eP x)∧yG (eP x))∧ ∀i:Int,(dS i (eG l)).sum=0
 |[],_=>⟨fun x hx=>(nomatch hx),fun i=>rfl⟩
 |t::r,h=>by
  obtain⟨h1,h2⟩:=xT (l:=r) (fun y hy=>h y (List.mem_cons_of_mem _ hy))
  have ht:=h t (List.mem_cons_self ..)
  unfold c6 fj at ht
  have g: ∀a b c d:Int,(0≤a∧a≤24)→(0≤b∧b≤24)→(0≤c∧c<6)→(1≤d∧d≤1000000000)→(bR a c∧aC d∧yG d)∧(bR b c∧aC (0-d)∧yG (0-d)):=fun a b c d _ _ _ _=>by unfold bR aC yG;omega
  have hg:=g _ _ _ _ ht.1 ht.2.1 ht.2.2.2.1 ht.2.2.2.2.1
  refine⟨fun x hx=> ?_,fun i=> ?_⟩
  ·rw[lP]at hx
   rcases List.mem_cons.1 hx with e|hx
   ·rw[e];exact hg.1
   ·rcases List.mem_cons.1 hx with e|hx
    ·rw[e];exact hg.2
    ·exact h1 x hx
  ·rw[lP]
   have hz: ∀d:Int,d+(0-d)=0:=fun d=>by omega
   exact(KH i (t.1,(t.2.2.1,(t.2.2.2.1,()))) (t.2.1,(t.2.2.1,((0-t.2.2.2.1:Int),()))) (eG r) rfl (hz t.2.2.2.1)).trans (h2 i)
theorem KI{t:fZ}{p:Int}(ht:c6 t)(hp:bw p):bL ((p-t.2.2.2.2.1)*t.2.2.2.1)∧bL (-((p-t.2.2.2.2.1)*t.2.2.2.1)):=by
 have hq:=ht.2.2.2.2.1
 have he:=ht.2.2.2.2.2
 unfold bw at hp he
 generalize t.2.2.2.2.1=e at*
 generalize t.2.2.2.1=q at*
 have hn:=Og (d:=p-e) (by omega) hq
 unfold bL
 omega
theorem Hc{a x:Int}(h:0≤a∧a≤24):eF (Ew a x).1 (Ew a x).2.1:=by
 unfold Ew
 by_cases e:a=0
 ·rw[if_pos e];show eF 2 0;decide
 ·rw[if_neg e];show eF 5 a;unfold eF;omega
theorem Hd{t:fZ}{p:Int}(ht:c6 t)(hp:bw p):(∀x∈nM t p,eF x.1 x.2.1∧bL (eP x))∧((nM t p).map eP).sum=0:=by
 have hn:=KI ht hp
 unfold nM
 split
 ·exact⟨fun x hx=>(nomatch hx),rfl⟩
 ·refine⟨fun x hx=> ?_,?_⟩
  ·rcases List.mem_cons.1 hx with e|hx
   ·rw[e,vK];exact⟨Hc ht.1,hn.1⟩
   ·rw[List.mem_singleton.1 hx,vK];exact⟨Hc ht.2.1,hn.2⟩
  ·rw[List.map_cons,List.map_cons,List.map_nil,List.sum_cons,List.sum_cons,List.sum_nil,vK,vK];omega
theorem xU{b:ag}: ∀{l:aX},(∀t∈l,c6 t∧bw (mO b t))→(∀x∈ga b l,eF x.1 x.2.1∧bL (eP x))∧((ga b l).map eP).sum=0
 |[],_=>⟨fun x hx=>(nomatch hx),rfl⟩
 |t::r,h=>by
  obtain⟨h1,h2⟩:=xU (b:=b) (l:=r) (fun y hy=>h y (List.mem_cons_of_mem _ hy))
  have ht:=h t (List.mem_cons_self ..)
  have hc:=Hd ht.1 ht.2
  rw[sk]
  refine⟨fun x hx=>(List.mem_append.1 hx).elim (hc.1 x) (h1 x),?_⟩
  rw[List.map_append,List.sum_append,hc.2,h2];rfl
theorem Oh{l:aX}(h: ∀t∈l,c6 t)(hl:l.length≤200):Q1 (eG l):=by
 obtain⟨h1,h2⟩:=xT h
 exact⟨fun x hx=>(h1 x hx).1,fun x hx=>(h1 x hx).2,by rw[uk];omega,h2⟩
theorem Oi{b:ag}{l:aX}(h: ∀t∈l,c6 t∧bw (mO b t))(hl:l.length≤200):Q6 (ga b l):=by
 obtain⟨h1,h2⟩:=xU h
 have:=um b l
 exact⟨fun x hx=>(h1 x hx).1,fun x hx=>(h1 x hx).2,by omega,h2⟩
end VM
end
section
namespace VM
open Go VM.F
theorem c7{c:aa}{b:ag}(h:bV c b=true):dR c=true:=by
 unfold bV at h
 exact(Bool.and_eq_true_iff.1 h).1
def gm(k:Int):Nat→aD→List Int
 |_,[]=>[]
 |i,x::t=>if x.1=k then(i:Int)::gm k (i+1) t else gm k (i+1) t
theorem mP(k:Int)(i:Nat)(x:bh)(t:aD):gm k i (x::t)=if x.1=k then(i:Int)::gm k (i+1) t else gm k (i+1) t:=rfl
def bD(c:aa)(k:Int):List Int:=if dR c then gm k 0 c.1 else []
theorem AA(N:Nat)(hN:200000≤N)(c:aa)(hl:c.1.length≤100000)(k:Int):xV N c k=some (bD c k):=by
 unfold xV xV.b bD
 rw[nH N (by omega),Option.bind_some,cond_not]
 have:=nG c.1 aJ (fun n i s=>xV.l5 N n k c s i) (fun t s=>some (s++gm k (c.1.length-t.length) t)) (fun i (s:List Int)=>s.length≤i) (fun n i s hi hI hr=> ?_) (fun n s hI=> ?_) c.1.length N 0 [] (by omega) (by omega) (by omega) (Nat.le_refl _)
 ·have e:xV.l5 N N k c [] 0=some (gm k 0 c.1):=by
   refine this.trans ?_
   rw[List.drop_zero,Nat.sub_self];rfl
  rw[e];cases dR c<;>rfl
 ·unfold xV.l5 xV.c0
  have e1:c.1.length-(c.1.getD i aJ::c.1.drop (i+1)).length=i:=by rw[List.length_cons,List.length_drop];omega
  have e2:c.1.length-(c.1.drop (i+1)).length=i+1:=by rw[List.length_drop];omega
  rw[e2]at hr
  rw[aE (by omega),cond_true,aG (by omega) (by omega),cond_true,Int.toNat_natCast,al (x:=(i:Int)+1) (by omega) (by omega),ae i,aB,bo (by rw[List.length_singleton];omega),cond_true,e1,mP]
  split
  ·rw[hr _ (by rw[List.length_append,List.length_singleton];omega),List.append_assoc];rfl
  ·exact hr s (by omega)
 ·unfold xV.l5 xV.c0
  rw[aA (by omega),cond_false]
  show some s=some (s++[])
  rw[List.append_nil]
def AB(c:aa)(b:ag)(i:Nat):Int:=dX b.2.2.2.1 0 (i:Int)*b.2.2.2.2.1.getD i 0
def nO(c:aa)(b:ag)(k:Int):Nat→Int
 |0=>0
 |n+1=>nO c b k n+if(c.1.getD n aJ).1=k then AB c b n else 0
theorem uq(c:aa)(b:ag)(k:Int)(n:Nat):nO c b k (n+1)=nO c b k n+if(c.1.getD n aJ).1=k then AB c b n else 0:=rfl
def pY(f:Int→Int):ku:=[b9 (f 0),b9 (f 1),b9 (f 2),b9 (f 3)]
theorem He(f:Int→Int){k:Int}(h:0≤k∧k≤3):(pY f).getD k.toNat (false,lz)=b9 (f k):=by
 have:k=0∨k=1∨k=2∨k=3:=by omega
 rcases this with rfl|rfl|rfl|rfl<;>rfl
theorem Oj(f:Int→Int){k:Int}(h:0≤k∧k≤3)(v:Int):(pY f).set k.toNat (b9 (f k+v))=pY (fun j=>f j+if k=j then v else 0):=by
 have:k=0∨k=1∨k=2∨k=3:=by omega
 unfold pY
 rcases this with rfl|rfl|rfl|rfl<;>simp
theorem MI{a b:Int}(ha:aC a)(hb:bw b): -9223372036854775808000000000000≤a*b∧a*b≤9223372036854775808000000000000:=by
 unfold aC at ha;unfold bw at hb
 have h1:=Int.mul_le_mul_of_nonneg_right ha.1 (show 0≤b by omega)
 have h2:=Int.mul_le_mul_of_nonneg_right (Int.le_of_lt ha.2) (show 0≤b by omega)
 omega
theorem eQ{c:aa}(h:dR c=true):c.1.length≤6∧ ∀i,i<c.1.length→0≤(c.1.getD i aJ).1∧(c.1.getD i aJ).1≤3:=by
 unfold dR at h
 simp only[Bool.and_eq_true]at h
 have h1:=of_decide_eq_true h.1
 have h2:=of_decide_eq_true h.2.1
 exact⟨h1.2,fun i hi=>(h2 i hi).1⟩
theorem Ex{l:aj}(h:e9 l)(a b:Int):aC (dX l a b):=by
 unfold dX
 cases cR l
 ·show aC 0;decide
 ·exact Ax h a b
theorem C2{c:aa}{b:ag}(w:fi b)(hB:bV c b=true){i:Nat}(hi:i<c.1.length): -9223372036854775808000000000000≤AB c b i∧AB c b i≤9223372036854775808000000000000:=by
 obtain⟨BF,B3⟩:=cP hB
 obtain⟨_,hk⟩:=jZ hB
 have h1:aC (dX b.2.2.2.1 0 (i:Int)):=Ex w.qs _ _
 exact MI h1 (nN B3 (by omega))
theorem wT{c:aa}{b:ag}(w:fi b)(hB:bV c b=true)(k:Int): ∀n,n≤c.1.length→ -(9223372036854775808000000000000*(n:Int))≤nO c b k n∧nO c b k n≤9223372036854775808000000000000*(n:Int)
 |0,_=>⟨Int.le_refl _,Int.le_refl _⟩
 |n+1,h=>by
  have ih:=wT w hB k n (by omega)
  have ht:=C2 w hB (i:=n) (by omega)
  rw[uq]
  split<;>omega
theorem Ol{c:aa}{b:ag}(w:fi b)(hB:bV c b=true)(k:Int){n:Nat}(h:n≤c.1.length):bL (nO c b k n):=by
 have h6:=(eQ (c7 hB)).1
 have:=wT w hB k n h
 unfold bL;omega
def bG(c:aa)(b:ag)(k:Int):Int:=nO c b k c.1.length
theorem Rl(N:Nat)(hN:5000000≤N)(c:aa){b:ag}(w:fi b):j2 N c b=some (if bV c b then(pY (bG c b),0)else([],1)):=by
 unfold j2 j2.b
 rw[GZ N hN w,Option.bind_some,cond_not]
 by_cases hB:bV c b=false
 ·rw[hB];rfl
 rw[Bool.not_eq_false]at hB
 rw[hB,cond_true,if_pos rfl,bC (by omega) (by omega) (by omega),cond_true]
 obtain⟨BF,B3⟩:=cP hB
 obtain⟨h6,Tj⟩:=eQ (c7 hB)
 have key: ∀(m n i:Nat),c.1.length-i≤m→m<n→i≤c.1.length→j2.l5 N n c b (pY (fun k=>nO c b k i)) (i:Int)=some (pY (bG c b),0):=by
  intro m n
  induction n generalizing m with
  |zero=>intro i _ hn;omega
  |succ n ih=>
   intro i hm hn hi
   unfold j2.l5 j2.c0
   by_cases h:i<c.1.length
   ·have hk:=Tj i h
    have ir:aL (c.1.getD i aJ).1 (pY (fun k=>nO c b k i)).length=true:=aG hk.1 (by
     have g: ∀x:Int,x≤3→x<((4:Nat):Int):=fun x _=>by omega
     exact g _ hk.2)
    have hh:aC (dX b.2.2.2.1 0 (i:Int)):=Ex w.qs _ _
    have S8:=hh
    unfold aC at S8
    have hp:=nN B3 (i:=i) (by omega)
    have xl:=hp
    unfold bw at xl
    have ht:=C2 w hB h
    have acn:bL (AB c b i):=by unfold bL;omega
    rw[aE (by omega),cond_true,aG (by omega) (by omega),cond_true,Int.toNat_natCast,ir,cond_true,o3 N w.s (by omega),Option.bind_some,fg N (by omega) S8.1 S8.2,Option.bind_some,aG (by omega) (by omega),cond_true,fg N (by omega) (by omega) (by omega),Option.bind_some,Aa N (by omega) ((Fit.i64 S8.1 S8.2).mono (by omega)) ((Fit.i64 (by omega) (by omega)).mono (by omega)),Option.bind_some,He _ hk]
    have ans:vk N (b9 (nO c b (c.1.getD i aJ).1 i)) (b9 (dX b.2.2.2.1 0 (i:Int)*b.2.2.2.2.1.getD i 0))=some (b9 (nO c b (c.1.getD i aJ).1 i+AB c b i)):=jR N (by omega) (zf (Ol w hB _ (by omega))) (zf acn)
    rw[ans,Option.bind_some,cond_true,Oj (fun k=>nO c b k i) hk,al (x:=(i:Int)+1) (by omega) (by omega),ae i]
    exact ih (m-1) (i+1) (by omega) (by omega) (by omega)
   ·have e:i=c.1.length:=by omega
    subst e
    rw[aA (by omega),cond_false];rfl
 have:=key c.1.length N 0 (by omega) (by omega) (by omega)
 have e0:pY (fun k=>nO c b k 0)=List.replicate (4:Int).toNat (false,lz):=by
  show [b9 0,b9 0,b9 0,b9 0]=_
  rw[jn];rfl
 rw[e0]at this
 exact this
end VM
end
section
namespace VM
open Go VM.F
theorem qJ(N:Nat)(p:Int):Ux N p=some (decide (bw p)):=(wN N p).trans (congrArg some (decide_eq_decide.2 Iff.rfl))
theorem C3(N:Nat)(hN:10≤N)(t:fZ):kP N t=some (decide (c6 t)):=by
 obtain⟨n,rfl⟩: ∃n,N=n+3:=⟨N-3,by omega⟩
 refine Eq.trans ?_ (xS t.1 t.2.1 t.2.2.1 t.2.2.2.1 t.2.2.2.2.1)
 unfold kP kP.b
 have el:List.set (List.set (List.replicate 2 (0:Int)) 0 t.1) 1 t.2.1=[t.1,t.2.1]:=rfl
 rw[el]
 generalize hl:[t.1,t.2.1]=l
 have g0:l.getD (0:Int).toNat 0=t.1:=by rw[←hl];rfl
 have g1:l.getD (1:Int).toNat 0=t.2.1:=by rw[←hl];rfl
 unfold kP.l2 kP.dr
 unfold kP.l2 kP.dr
 unfold kP.l2 kP.dr
 rw[aE (x:=0) (by omega),cond_true,aG (i:=0) (by omega) (by omega),cond_true,al (x:=0+1) (by omega) (by omega),show(0:Int)+1=1 from rfl,aE (x:=1) (y:=2) (by omega),cond_true,aG (i:=1) (by omega) (by omega),cond_true,al (x:=1+1) (by omega) (by omega),show(1:Int)+1=2 from rfl,aA (x:=2) (y:=2) (by omega),cond_false,g0,g1,qJ,Option.bind_some]
 simp only[bt,cond_not,aB,a8]
 by_cases a1:t.1<0
 ·rw[if_pos a1,if_neg (Int.not_le.2 a1)]
 rw[if_neg a1,if_pos (Int.not_lt.1 a1)]
 by_cases a2:24<t.1
 ·rw[if_pos a2,if_neg (Int.not_le.2 a2)]
 rw[if_neg a2,if_pos (Int.not_lt.1 a2)]
 by_cases a3:t.2.1<0
 ·rw[if_pos a3,if_neg (Int.not_le.2 a3)]
 rw[if_neg a3,if_pos (Int.not_lt.1 a3)]
 by_cases a4:24<t.2.1
 ·rw[if_pos a4,if_neg (Int.not_le.2 a4)]
 rw[if_neg a4,if_pos (Int.not_lt.1 a4)]
theorem C4(N:Nat)(a x:Int):Rm N a (bm x)=some (fU (Ew a x)):=by
 unfold Rm Ew fU
 rw[aB]
 by_cases h:a=0
 ·rw[if_pos h,if_pos h];rfl
 ·rw[if_neg h,if_neg h];rfl
theorem KJ(N:Nat)(hN:100≤N){t:fZ}{p:Int}(ht:c6 t)(hp:bw p):Rn N t p=some ((nM t p).map fU,0):=by
 unfold Rn nM
 have hq:=ht.2.2.2.2.1
 have he:=ht.2.2.2.2.2
 rw[C3 N (by omega),Option.bind_some,decide_eq_true ht,Bool.not_true,cond_false,qJ,Option.bind_some,decide_eq_true hp,Bool.not_true,cond_false,aB]
 unfold bw at hp he
 generalize t.2.2.2.2.1=e at*
 generalize t.2.2.2.1=q at*
 by_cases h:p=e
 ·rw[if_pos h,if_pos (by omega)];rfl
 ·rw[if_neg h,if_neg (by omega),al (x:=p-e) (by omega) (by omega),al (x:=e-p) (by omega) (by omega),vn N (by omega) (by omega) (by omega) (by omega),Option.bind_some,C4,Option.bind_some,vn N (by omega) (by omega) (by omega) (by omega),Option.bind_some,C4,Option.bind_some,List.map_cons,List.map_cons,List.map_nil,Int.mul_comm q (p-e)]
  have e2:q*(e-p)= -((p-e)*q):=by rw[Int.mul_comm,←Int.neg_mul];congr 1;omega
  rw[e2]
theorem Ey(N:Nat){u v:Int}(hu:bL u)(hv:bL v)(hs:bL (u+v)):Hf N (bm u) (bm v)=some (bm (u+v),true):=by
 unfold Hf bm
 unfold bL at*
 dsimp only
 have hp:0≤u%18446744073709551616∧u%18446744073709551616<18446744073709551616:=by omega
 have hq:0≤v%18446744073709551616∧v%18446744073709551616<18446744073709551616:=by omega
 rw[jm,jm,pQ N (by omega) (by omega) (by omega) (by omega),Option.bind_some]
 dsimp only
 have hc:0≤(u%18446744073709551616+v%18446744073709551616+0)/18446744073709551616∧(u%18446744073709551616+v%18446744073709551616+0)/18446744073709551616≤1:=by omega
 have e1:(u%18446744073709551616+v%18446744073709551616+0)%18446744073709551616=(u+v)%18446744073709551616:=by omega
 have e2:u/18446744073709551616+v/18446744073709551616+(u%18446744073709551616+v%18446744073709551616+0)/18446744073709551616=(u+v)/18446744073709551616:=by omega
 have h3: -9223372036854775808≤(u+v)/18446744073709551616∧(u+v)/18446744073709551616<9223372036854775808:=by omega
 rw[pQ N (by omega) (by omega) hc.1 hc.2,Option.bind_some]
 dsimp only
 have e3:W .i64 ((u/18446744073709551616%18446744073709551616+v/18446744073709551616%18446744073709551616+(u%18446744073709551616+v%18446744073709551616+0)/18446744073709551616)%18446744073709551616)=(u+v)/18446744073709551616:=by
  rw[dO];split<;>omega
 rw[e3,e1]
 have key: ∀A B C:Int,A=u/18446744073709551616→B=v/18446744073709551616→C=(u+v)/18446744073709551616→(A<0∧B<0→C<0)∧(¬A<0∧ ¬B<0→ ¬C<0):=fun A B C _ _ _=>by omega
 have k:=key _ _ _ rfl rfl rfl
 simp only[nF,pe]
 by_cases a:u/18446744073709551616<0<;>by_cases b:v/18446744073709551616<0
 ·have c:=k.1 ⟨a,b⟩
  rw[decide_eq_true a,decide_eq_true b,decide_eq_true c];rfl
 ·rw[decide_eq_true a,decide_eq_false b];rfl
 ·rw[decide_eq_false a,decide_eq_true b];rfl
 ·have c:=k.2 ⟨a,b⟩
  rw[decide_eq_false a,decide_eq_false b,decide_eq_false c];rfl
theorem Om(N:Nat)(hN:200000≤N)(c:aa)(hl:c.1.length≤100000)(k:Int):lQ N c k=some (bD c k):=by
 unfold lQ lQ.b bD
 rw[y9 N (by omega),Option.bind_some,cond_not]
 have:=nG c.1 aJ (fun n i s=>lQ.l5 N n k s c.1 (c.1.length:Int) i) (fun t s=>some (s++gm k (c.1.length-t.length) t)) (fun i (s:List Int)=>s.length≤i) (fun n i s hi hI hr=> ?_) (fun n s hI=> ?_) c.1.length N 0 [] (by omega) (by omega) (by omega) (Nat.le_refl _)
 ·have e:lQ.l5 N N k [] c.1 (c.1.length:Int) 0=some (gm k 0 c.1):=by
   refine this.trans ?_
   rw[List.drop_zero,Nat.sub_self];rfl
  rw[e];cases dR c<;>rfl
 ·unfold lQ.l5 lQ.c0
  have e1:c.1.length-(c.1.getD i aJ::c.1.drop (i+1)).length=i:=by rw[List.length_cons,List.length_drop];omega
  have e2:c.1.length-(c.1.drop (i+1)).length=i+1:=by rw[List.length_drop];omega
  rw[e2]at hr
  rw[aE (by omega),cond_true,aG (by omega) (by omega),cond_true,Int.toNat_natCast,al (x:=(i:Int)+1) (by omega) (by omega),ae i,aB,bo (by rw[List.length_singleton];omega),cond_true,e1,mP]
  split
  ·rw[hr _ (by rw[List.length_append,List.length_singleton];omega),List.append_assoc];rfl
  ·exact hr s (by omega)
 ·unfold lQ.l5 lQ.c0
  rw[aA (by omega),cond_false]
  show some s=some (s++[])
  rw[List.append_nil]
end VM
end
section
namespace VM
open Go VM.F
theorem xW(N:Nat)(hN:10≤N){l:aX}(hl:l.length≤100000): ∀(m n i:Nat),l.length-i≤m→m<n→i≤l.length→
  ∃r,ou.l2 N n l () (l.length:Int) (i:Int)=some r∧(bU 0 r= !(l.drop i).all (fun t=>decide (c6 t)))
 |m,0,i,_,hn,_=>by omega
 |m,n+1,i,hm,hn,hi=>by
  unfold ou.l2 ou.dr aco
  by_cases h:i<l.length
  ·rw[aE (by omega),cond_true,aG (by omega) (by omega),cond_true,Int.toNat_natCast,C3 N hN,Option.bind_some,Option.bind_some,cond_not,cN,drop_cons h eC,List.all_cons]
   by_cases hP:c6 (l.getD i eC)
   ·rw[if_pos hP,al (by omega) (by omega),decide_eq_true hP,Bool.true_and]
    exact xW N hN hl (m-1) n (i+1) (by omega) (by omega) (by omega)
   ·rw[if_neg hP,decide_eq_false hP,Bool.false_and]
    exact⟨_,rfl,by rw[cS (by omega)];rfl⟩
  ·have e:i=l.length:=by omega
   subst e
   rw[aA (by omega),cond_false,List.drop_length]
   exact⟨_,rfl,by rw[cM (by omega)];rfl⟩
theorem KK(N:Nat){l:aX}(hl:l.length≤100000)(hN:200000≤N):UN N l ()=some (!l.all (fun t=>decide (c6 t))):=by
 unfold UN ou ou.b
 obtain⟨r,e,h⟩:=xW N (by omega) hl l.length N 0 (by omega) (by omega) (by omega)
 rw[show((0:Nat):Int)=0 from rfl]at e
 rw[e,Option.bind_some,h,List.drop_zero]
theorem Hg(N:Nat)(hN:4000000≤N)(c:aa){b:ag}(w:sY b)(hB:bV c b=true){l:aX}(hk: ∀t∈l,c6 t)(hth: ∀t∈l,iy c b t=true)(hl:l.length≤200):
  fk.kL N N b (bF,(cc,(aY,(aY,(cv,(cF,())))))) [] [] l (l.length:Int) 0=some (fK b (eG l) (ga b l)):=by
 obtain⟨hr,hs⟩:=jZ hB
 obtain⟨BF,B3⟩:=cP hB
 have gs:=Oh hk hl
 have ahY: ∀t∈l,t.2.2.1.toNat<b.2.2.2.2.1.length∧aL t.2.2.1 b.2.2.2.2.1.length=true:=fun t ht=>by
  have h:=hth t ht
  unfold iy at h
  have dT:=of_decide_eq_true (Bool.and_eq_true_iff.1 (Bool.and_eq_true_iff.1 h).2).2
  have ir:=(hk t ht).2.2.2.1
  have g: ∀x:Int,(0≤x∧x<6)→Fw x c.1.length→x.toNat<b.2.2.2.2.1.length∧aL x b.2.2.2.2.1.length=true:=fun x _ h=>by unfold Fw at h;exact⟨by omega,aG (by omega) (by omega)⟩
  exact g _ ir dT
 have gH: ∀t∈l,c6 t∧bw (mO b t):=fun t ht=>⟨hk t ht,nN B3 (ahY t ht).1⟩
 have:=nG l eC (fun n i (z:aj×aj)=>fk.kL N n b (bF,(cc,(aY,(aY,(cv,(cF,())))))) z.1 (z.2.map fU) l (l.length:Int) i)
  (fun u z=>some (fK b (eG l) (ga b l)))
  (fun i z=>z.1++eG (l.drop i)=eG l∧z.2++ga b (l.drop i)=ga b l)
  (fun n i z hi hI yE=> ?_) (fun n z hI=> ?_) l.length N 0 ([],[]) (by omega) (by omega) (by omega) ⟨rfl,rfl⟩
 ·exact this
 ·unfold fk.kL fk.jV
  obtain⟨i1,i2⟩:=hI
  have hls:=uk l
  have hle:=um b l
  have z1:z.1.length≤400:=by rw[←i1,List.length_append]at hls;omega
  have z2:z.2.length≤400:=by rw[←i2,List.length_append]at hle;omega
  have hm:l.getD i eC∈l:=by
   rw[List.getD_eq_getElem?_getD,List.getElem?_eq_getElem hi];exact List.getElem_mem hi
  have ht:=hk _ hm
  have hn:=ahY _ hm
  have hp:=(gH _ hm).2
  rw[drop_cons hi eC,lP]at i1
  rw[drop_cons hi eC,sk]at i2
  rw[aE (by omega),cond_true,aG (by omega) (by omega),cond_true,Int.toNat_natCast,al (x:=(i:Int)+1) (by omega) (by omega),ae i]
  generalize l.getD i eC=t at*
  have hq:=ht.2.2.2.2.1
  have e0:W .i64 (0-t.2.2.2.1)=0-t.2.2.2.1:=by
   have g: ∀d:Int,1≤d∧d≤1000000000→W .i64 (0-d)=0-d:=fun d _=>al (by omega) (by omega)
   exact g _ hq
  rw[e0]
  dsimp only
  have htp:Rn N t (b.2.2.2.2.1.getD t.2.2.1.toNat 0)=some ((nM t (mO b t)).map fU,0):=KJ N (by omega) ht hp
  have Fp:=Az t (mO b t)
  rw[bo (by rw[List.length_cons,List.length_singleton];omega),cond_true,hn.2,cond_true,htp,Option.bind_some,bo (by rw[List.length_map,List.length_map];omega),cond_true]
  have:=yE (z.1++[(t.1,(t.2.2.1,(t.2.2.2.1,()))),(t.2.1,(t.2.2.1,((0-t.2.2.2.1:Int),())))],z.2++nM t (mO b t)) ⟨by rw[←i1,List.append_assoc];rfl,by rw[←i2,List.append_assoc]⟩
  rw[List.map_append]at this
  exact this
 ·unfold fk.kL fk.jV
  obtain⟨i1,i2⟩:=hI
  rw[List.drop_length]at i1 i2
  have e1:z.1=eG l:=by rw[←i1];exact(List.append_nil _).symm
  have e2:z.2=ga b l:=by rw[←i2];exact(List.append_nil _).symm
  rw[aA (by omega),cond_false,e1,e2,Ra N (by omega) w.w hr hs w.r w.s gs (Oi gH hl),Option.bind_some]
theorem vL{f:Bool}{a:Int}{r:Option (ag×Int)}:cond (!ay a 0) (cond (!f) (some ((bF,(cc,(aY,(aY,(cv,(cF,())))))),(3:Int))) r) r=if(f||decide (gl a 0))=true then r else some ((bF,(cc,(aY,(aY,(cv,(cF,())))))),(3:Int)):=by
 rw[cond_not,aB,cond_not]
 by_cases h:a=0
 ·rw[if_pos h,decide_eq_true (show gl a 0 from h),Bool.or_true,if_pos rfl]
 ·rw[if_neg h,decide_eq_false (show ¬gl a 0 from h),Bool.or_false]
  cases f<;>rfl
theorem On(N:Nat)(hN:4000000≤N)(c:aa){b:ag}(w:sY b){l:aX}(hl:l.length≤100000):fk N c b l=some (j1 c b l):=by
 unfold fk fk.b j1
 rw[zd N hN w.w,Option.bind_some,cond_not,a8,KK N hl (by omega),Option.bind_some,cond_not]
 by_cases hB:bV c b=false
 ·rw[hB];rfl
 rw[Bool.not_eq_false]at hB
 rw[hB,cond_true,if_pos rfl]
 by_cases acp:l.length≤200
 ·rw[if_neg (by omega),if_pos acp]
  by_cases hk:l.all (fun t=>decide (c6 t))=false
  ·rw[hk];rfl
  rw[Bool.not_eq_false]at hk
  rw[hk,cond_true,if_pos rfl]
  have zB: ∀t∈l,c6 t:=fun t ht=>of_decide_eq_true (List.all_eq_true.1 hk t ht)
  have key: ∀(m n i:Nat),l.length-i≤m→m<n→i≤l.length→(∀j,j<i→iy c b (l.getD j eC)=true)→fk.l4 N n l c b (bF,(cc,(aY,(aY,(cv,(cF,())))))) l (l.length:Int) (i:Int)=some (if l.all (iy c b)then fK b (eG l) (ga b l)else((bF,(cc,(aY,(aY,(cv,(cF,())))))),3)):=by
   intro m n
   induction n generalizing m with
   |zero=>intro i _ hn;omega
   |succ n ih=>
    intro i hm hn hi hj
    unfold fk.l4 fk.c5
    by_cases h:i<l.length
    ·have pI:iy c b (l.getD i eC)=false→some ((bF,(cc,(aY,(aY,(cv,(cF,())))))),(3:Int))=some (if l.all (iy c b)then fK b (eG l) (ga b l)else((bF,(cc,(aY,(aY,(cv,(cF,())))))),3)):=fun hf=>by
      have:l.all (iy c b)=false:=by
       rw[List.all_eq_false]
       refine⟨l.getD i eC,?_,by rw[hf];decide⟩
       rw[List.getD_eq_getElem?_getD,List.getElem?_eq_getElem h];exact List.getElem_mem h
      rw[this];rfl
     have ahZ:iy c b (l.getD i eC)=true→ ∀j,j<i+1→iy c b (l.getD j eC)=true:=fun h j TY=>by
      by_cases e:j=i
      ·rw[e];exact h
      ·exact hj j (by omega)
     rw[aE (by omega),cond_true,aG (by omega) (by omega),cond_true,Int.toNat_natCast,Ak N b w.w.a (by omega),Ak N b w.w.a (by omega),al (x:=(i:Int)+1) (by omega) (by omega),ae i]
     simp only[Option.bind_some]
     rw[vL,vL,bt]
     generalize l.getD i eC=t at*
     unfold iy at pI ahZ
     by_cases h1:((dx b.2.1 t.1).2||decide (gl t.1 0))=true
     ·rw[if_pos h1]
      by_cases h2:((dx b.2.1 t.2.1).2||decide (gl t.2.1 0))=true
      ·rw[if_pos h2]
       by_cases h3:(c.1.length:Int)≤t.2.2.1
       ·rw[if_pos h3]
        exact pI (by rw[h1,h2,decide_eq_false (show ¬Fw t.2.2.1 c.1.length from fun h=>by unfold Fw at h;exact absurd h (Int.not_lt.2 h3))];rfl)
       ·rw[if_neg h3]
        exact ih (m-1) (i+1) (by omega) (by omega) (by omega) (ahZ (by rw[h1,h2,decide_eq_true (show Fw t.2.2.1 c.1.length from Int.not_le.1 h3)];rfl))
      ·rw[if_neg h2]
       exact pI (by rw[Bool.not_eq_true]at h2;rw[h1,h2];rfl)
     ·rw[if_neg h1]
      exact pI (by rw[Bool.not_eq_true]at h1;rw[h1];rfl)
    ·have hth: ∀t∈l,iy c b t=true:=fun t ht=>by
      obtain⟨k,hk,e⟩:=List.getElem_of_mem ht
      have:=hj k (by omega)
      rw[List.getD_eq_getElem?_getD,List.getElem?_eq_getElem hk]at this
      rw[←e];exact this
     rw[aA (by omega),cond_false,List.all_eq_true.2 hth,if_pos rfl]
     exact Hg N hN c w hB zB hth acp
  exact key l.length N 0 (by omega) (by omega) (by omega) (fun j hj=>absurd hj (by omega))
 ·rw[if_pos (by omega),if_neg acp]
end VM
end
