/- A part of the proof of TearDrawn of layer 29: what the functions compute, in plain words. -/
import Derived.Test.YtocmlaipoebfeaaGreatPlain2
import Derived.Test.YtocmlaipoebfeaaGreatVm6
import Derived.Test.YtocmlaipoebfeaaGreatPlain1
import Derived.Test.YtocmlaipoebfeaaGreatPlain0
set_option linter.all false
section
namespace VM
open Go VM.F
def CX(E:ah):Prop:= ∀x∈E,dV (da x)
def gF(r:cE):pd:=(r.1,(r.2.1,(cw (da r),())))
theorem CY(E:ah)(i:Nat):(E.map gF).getD i ((0:Int),((0:Int),(ca,())))=gF (E.getD i aR):=by
 by_cases h:i<E.length
 ·rw[List.getD_eq_getElem?_getD,List.getElem?_map,List.getElem?_eq_getElem h,List.getD_eq_getElem?_getD,List.getElem?_eq_getElem h];rfl
 ·rw[List.getD_eq_getElem?_getD,List.getElem?_eq_none (by rw[List.length_map];omega),List.getD_eq_getElem?_getD,List.getElem?_eq_none (by omega)];rfl
theorem CZ{l:ah}(h:CX l)(i:Nat):dV (da (l.getD i aR)):=by
 by_cases hi:i<l.length
 ·rw[List.getD_eq_getElem?_getD,List.getElem?_eq_getElem hi];exact h _ (List.getElem_mem hi)
 ·rw[List.getD_eq_getElem?_getD,List.getElem?_eq_none (by omega)];exact⟨by decide,by decide⟩
theorem zb{x:Int}(h:aC x):dV x:=by unfold aC at h;unfold dV;omega
theorem sV{ws:List Int}{x:Int}(h: ∀y∈ws,dV y)(hx:dV x): ∀y∈ws++[x],dV y:=fun y hy=>by
 rcases List.mem_append.1 hy with hy|hy
 ·exact h y hy
 ·rw[List.mem_singleton.1 hy];exact hx
theorem NY(N:Nat){l:ah}:YM N l=some l:=Fb N
theorem NZ(N:Nat)(hN:2000000≤N)(K:bt.BA){E out R:ah}(hq:CX E)(hl:E.length≤100000)(ho:out.length≤1000000)(r:cE)(hr:aC (da r))(i:Nat)(hi:i≤1000000):
  bt.Is N K N (E.map gF) out r [cw (da r)] R (R.length:Int) (i:Int) (E.map gF) ((E.map gF).length:Int) 0=
   if aC (da r+bJ r.1 r.2.1 E)then K (E.map gF) (if da r+bJ r.1 r.2.1 E=0 then out else out++[(r.1,(r.2.1,(da r+bJ r.1 r.2.1 E,())))]) R (R.length:Int) ((i+1:Nat):Int)else some (bq,(2:Int)):=by
 have:=nq E aR (fun n j ws=>bt.Is N K n (E.map gF) out r (ws.map cw) R (R.length:Int) (i:Int) (E.map gF) ((E.map gF).length:Int) j)
  (fun t ws=>if aC (ws++bV r.1 r.2.1 t).sum then K (E.map gF) (if(ws++bV r.1 r.2.1 t).sum=0 then out else out++[(r.1,(r.2.1,((ws++bV r.1 r.2.1 t).sum,())))]) R (R.length:Int) ((i+1:Nat):Int)else some (bq,(2:Int)))
  (fun j (ws:List Int)=>ws.length≤j+1∧ ∀x∈ws,dV x)
  (fun n j ws hj hI eg=> ?_) (fun n ws hI=> ?_) E.length N 0 [da r] (by omega) (by omega) (by omega) ⟨Nat.le_refl _,fun x hx=>by rw[List.mem_singleton.1 hx];exact zb hr⟩
 ·rw[show((0:Nat):Int)=0 from rfl,List.drop_zero]at this
  refine this.trans ?_
  have e:([da r]++bV r.1 r.2.1 E).sum=da r+bJ r.1 r.2.1 E:=by rw[List.singleton_append,List.sum_cons];rfl
  rw[e]
 ·unfold bt.Is bt.Fe
  rw[aD (by rw[List.length_map];omega),cond_true,aF (by omega) (by rw[List.length_map];omega),cond_true,Int.toNat_natCast,CY,a6 (by rw[List.length_map,List.length_singleton];omega),cond_true,an (x:=(j:Int)+1) (by omega) (by omega),aa j,az,az]
  by_cases h1:(E.getD j aR).1=r.1
  ·by_cases h2:(E.getD j aR).2.1=r.2.1
   ·have hc:bV r.1 r.2.1 (E.getD j aR::E.drop (j+1))=da (E.getD j aR)::bV r.1 r.2.1 (E.drop (j+1)):=by rw[cZ,if_pos ⟨h1,h2⟩]
    rw[if_pos (show(gF (E.getD j aR)).1=r.1 from h1),if_pos (show(gF (E.getD j aR)).2.1=r.2.1 from h2),hc]
    have:=eg (ws++[da (E.getD j aR)]) ⟨by rw[List.length_append,List.length_singleton];omega,sV hI.2 (CZ hq j)⟩
    rw[List.map_append]at this
    refine this.trans ?_
    rw[List.append_assoc];rfl
   ·have hc:bV r.1 r.2.1 (E.getD j aR::E.drop (j+1))=bV r.1 r.2.1 (E.drop (j+1)):=by rw[cZ,if_neg (fun h=>h2 h.2)]
    rw[if_pos (show(gF (E.getD j aR)).1=r.1 from h1),if_neg (show ¬(gF (E.getD j aR)).2.1=r.2.1 from h2),hc]
    exact eg ws ⟨by omega,hI.2⟩
  ·have hc:bV r.1 r.2.1 (E.getD j aR::E.drop (j+1))=bV r.1 r.2.1 (E.drop (j+1)):=by rw[cZ,if_neg (fun h=>h1 h.1)]
   rw[if_neg (show ¬(gF (E.getD j aR)).1=r.1 from h1),hc]
   exact eg ws ⟨by omega,hI.2⟩
 ·unfold bt.Is bt.Fe
  rw[ax (by rw[List.length_map];omega),cond_false,CK N hI.2 (by omega) (by omega),Option.bind_some]
  show _=if aC (ws++[]).sum then K (E.map gF) (if(ws++[]).sum=0 then out else out++[(r.1,(r.2.1,((ws++[]).sum,())))]) R (R.length:Int) ((i+1:Nat):Int)else some (bq,(2:Int))
  rw[List.append_nil]
  unfold H9
  by_cases h0:dV ws.sum
  ·rw[if_pos h0]
   dsimp only
   rw[za N h0,Option.bind_some,Bool.not_true,cond_false]
   by_cases h1:aC ws.sum
   ·rw[rz h1]
    dsimp only
    rw[Bool.not_true,cond_false,cond_not,az,a6 (by rw[List.length_singleton];omega),cond_true,an (x:=(i:Int)+1) (by omega) (by omega),aa i,if_pos h1]
    split<;>rfl
   ·rw[uk h1,if_neg h1]
    rfl
  ·rw[if_neg h0,if_neg (fun h=>h0 (zb h))]
   have e:CJ N ca=some (tT 0):=za N (v:=0) ⟨by decide,by decide⟩
   dsimp only
   rw[e,Option.bind_some]
   rfl
theorem Lq(N:Nat)(hN:2000000≤N){l E R:ah}(hq:CX E)(hl:E.length≤100000)(hR:R.length≤200000)(hv: ∀r∈R,aC (da r)∧da r=bJ r.1 r.2.1 l):
  bt.Rm N N (E.map gF) [] R (R.length:Int) 0=o9 (dx aC (fS l E) (R.map keyOf)):=by
 have:=nq R aR (fun n i out=>bt.Rm N n (E.map gF) out R (R.length:Int) i) (fun t out=>o9 ((dx aC (fS l E) (t.map keyOf)).map (fun o=>out++o))) (fun i (out:ah)=>out.length≤i)
  (fun n i out hi hI hr=> ?_) (fun n out hI=> ?_) R.length N 0 [] (by omega) (by omega) (by omega) (Nat.le_refl _)
 ·rw[show((0:Nat):Int)=0 from rfl,List.drop_zero]at this
  refine this.trans ?_
  simp
 ·unfold bt.Rm bt.Rn
  have hm:R.getD i aR∈R:=by
   rw[List.getD_eq_getElem?_getD,List.getElem?_eq_getElem hi];exact List.getElem_mem hi
  have MF:=hv _ hm
  have sl:=MF.1
  have eY:=sl
  unfold aC da at eY
  rw[aD (by omega),cond_true,aF (by omega) (by omega),cond_true,Int.toNat_natCast,vm N eY.1 eY.2,Option.bind_some]
  refine(NZ N hN _ hq hl (by omega) _ sl i (by omega)).trans ?_
  rw[List.map_cons,j1]
  have ef:fS l E (keyOf (R.getD i aR)).1 (keyOf (R.getD i aR)).2=da (R.getD i aR)+bJ (R.getD i aR).1 (R.getD i aR).2.1 E:=by
   show bJ _ _ l+bJ _ _ E=_
   rw[MF.2];rfl
  rw[ef]
  generalize hS:da (R.getD i aR)+bJ (R.getD i aR).1 (R.getD i aR).2.1 E=v
  by_cases hF:aC v
  ·rw[if_pos hF,if_pos hF,hr _ (by
    split
    ·omega
    ·rw[List.length_append,List.length_singleton];omega)]
   cases dx aC (fS l E) ((R.drop (i+1)).map keyOf)with
   |none=>rfl
   |some o=>
    show o9 (some _)=o9 (some _)
    congr 2
    split
    ·rfl
    ·exact List.append_assoc _ _ _
  ·rw[if_neg hF,if_neg hF];rfl
 ·unfold bt.Rm bt.Rn
  rw[ax (by omega),cond_false,NY,Option.bind_some]
  show _=o9 (some (out++[]))
  rw[List.append_nil];rfl
theorem WT(N:Nat)(C:bt.iQ){l:ah}{E S:cC}{K:List cB}(hs:ru K)(hl:K.length≤100000)(hf: ∀k∈K,uq k)(x:pd)(k:cB)(hxk:(x.1,x.2.1)=k)(hx:uq k)(hz:zeroAt l K k)(len:Int)(i:Nat)(hi:i≤1000000):
  ∀(m n p:Nat),K.length-p≤m→m<n→p≤K.length→(∀y∈K.take p,n6 y k)→
   bt.Lr N C n E (rowsOf l K) x (p:Int) S len (i:Int)=C E (rowsOf l (K.take p++qK k (K.drop p))) S len ((i+1:Nat):Int)
 |m,0,p,_,hn,_,_=>by omega
 |m,n+1,p,hm,hn,hp,hb=>by
  unfold bt.Lr bt.It bt.Mj bt.H5
  rw[cM,an (x:=(i:Int)+1) (by omega) (by omega),aa i]
  have ex:((x.1,(x.2.1,((0:Int),()))):cE)=(k.1,(k.2,((0:Int),()))):=by rw[←hxk]
  by_cases h:p<K.length
  ·have hfk:=hf (K.getD p (0,0)) (by rw[List.getD_eq_getElem?_getD,List.getElem?_eq_getElem h];exact List.getElem_mem h)
   have ho:Ie N x.1 x.2.1 ((rowsOf l K).getD p aR)=some (vn k.1 k.2 (K.getD p (0,0)).1 (K.getD p (0,0)).2):=by
    rw[Bt l h]
    rw[←hxk]at hx ⊢
    exact yV N hx.1 hx.2 hfk.1 hfk.2
   rw[aD (by omega),cond_true,aF (by omega) (by omega),cond_true,Int.toNat_natCast,ho,Option.bind_some,b9 (x:=(p:Int)) (by omega),cond_false,cond_true,Option.bind_some,bL,cond_not,az,J0 h]
   by_cases h1:n6 (K.getD p (0,0)) k
   ·rw[if_pos (um.2 h1),if_pos h1,an (x:=(p:Int)+1) (by omega) (by omega),aa p,ur h]
    refine WT N C hs hl hf x k hxk hx hz len i hi (m-1) n (p+1) (by omega) (by omega) (by omega) fun y hy=> ?_
    rw[←List.take_append_getElem h]at hy
    rcases List.mem_append.1 hy with hy|hy
    ·exact hb y hy
    ·rw[List.getD_eq_getElem?_getD,List.getElem?_eq_getElem h]at h1
     rw[List.mem_singleton.1 hy];exact h1
   ·rw[if_neg (fun h=>h1 (um.1 h)),if_neg h1]
    by_cases h2:K.getD p (0,0)=k
    ·rw[if_pos (rA.2 h2),if_pos h2,List.take_append_drop]
    ·rw[if_neg (fun h=>h2 (rA.1 h)),if_neg h2,xS N (by rw[cM];omega) (by rw[cM];omega),Option.bind_some]
     have z6:=hz (pb hs hb (J1 hs h h1 h2))
     have e:=pa l K p k
     rw[←rB z6]at e
     refine Eq.trans ?_ (congrArg (fun R=>C E R S len ((i+1:Nat):Int)) e)
     exact congrArg (fun z:cE=>C E ((rowsOf l K).take p++z::(rowsOf l K).drop p) S len ((i+1:Nat):Int)) ex
  ·have hd:K.drop p=[]:=List.drop_eq_nil_of_le (by omega)
   rw[ax (by omega),cond_false,ch (by omega),cond_true,xS N (by rw[cM];omega) (by rw[cM];omega),Option.bind_some]
   have z6:=hz (pb hs hb (by rw[hd];exact fun x hx=>nomatch hx))
   have e:=pa l K p k
   rw[←rB z6]at e
   have e2:qK k (K.drop p)=k::K.drop p:=by rw[hd];rfl
   rw[e2]
   refine Eq.trans ?_ (congrArg (fun R=>C E R S len ((i+1:Nat):Int)) e)
   exact congrArg (fun z:cE=>C E ((rowsOf l K).take p++z::(rowsOf l K).drop p) S len ((i+1:Nat):Int)) ex
theorem Ls(N:Nat)(hN:2000000≤N){l E:ah}(hq:CX E)(hE:E.length≤400)(hp: ∀x∈E,uq (keyOf x))(hs:ru (l.map keyOf))(hl:l.length≤90000)(NV:di l)(DH: ∀x∈l,uq (keyOf x)):
  bt.rU N N (E.map gF) l (E.map gF) ((E.map gF).length:Int) 0=o9 (dx aC (fS l E) (ju (l.map keyOf) E)):=by
 have:=nq E aR (fun n i K=>bt.rU N n (E.map gF) (rowsOf l K) (E.map gF) ((E.map gF).length:Int) i) (fun t K=>o9 (dx aC (fS l E) (ju K t)))
  (fun i (K:List cB)=>K.length≤l.length+i∧ru K∧(∀k∈K,uq k)∧ ∀x∈l,keyOf x∈K)
  (fun n i K hi hI hr=> ?_) (fun n K hI=> ?_) E.length N 0 (l.map keyOf) (by omega) (by omega) (by omega) ⟨by rw[List.length_map];omega,hs,fun k hk=>by
   obtain⟨x,hx,rfl⟩:=List.mem_map.1 hk
   exact DH x hx,fun x hx=>List.mem_map_of_mem hx⟩
 ·rw[show((0:Nat):Int)=0 from rfl,List.drop_zero]at this
  simp only[iP hs]at this
  exact this
 ·unfold bt.rU bt.qH
  obtain⟨h1,h2,h3,h4⟩:=hI
  have hm:E.getD i aR∈E:=by
   rw[List.getD_eq_getElem?_getD,List.getElem?_eq_getElem hi];exact List.getElem_mem hi
  rw[aD (by rw[List.length_map];omega),cond_true,aF (by omega) (by rw[List.length_map];omega),cond_true,Int.toNat_natCast,CY]
  refine(WT N _ h2 (by omega) h3 (gF (E.getD i aR)) (keyOf (E.getD i aR)) rfl (hp _ hm) (fun hk=>dQ fun hx=>hk (by
   obtain⟨x,hx,e⟩:=List.mem_map.1 hx
   rw[←e];exact h4 x hx)) ((E.map gF).length:Int) i (by omega) K.length N 0 (by omega) (by omega) (by omega) (fun y hy=>nomatch hy)).trans ?_
  rw[List.take_zero,List.nil_append,List.drop_zero,nN]
  refine hr (qK (keyOf (E.getD i aR)) K) ⟨Nat.le_trans (y9 _ K) (by omega),uj h2,fun k hk=>(mI.1 hk).elim (fun e=>e▸hp _ hm) (h3 k),fun x hx=>mI.2 (Or.inr (h4 x hx))⟩
 ·unfold bt.rU bt.qH
  obtain⟨h1,h2,h3,h4⟩:=hI
  rw[ax (by rw[List.length_map];omega),cond_false,cM,bp (by omega) (by omega) (by omega),cond_true]
  have:=Lq N hN (l:=l) (R:=rowsOf l K) hq (by omega) (by rw[cM];omega) (fun r hr=>by
   unfold rowsOf at hr
   obtain⟨k,hk,rfl⟩:=List.mem_map.1 hr
   refine⟨?_,rfl⟩
   show aC (bJ k.1 k.2 l)
   by_cases hkl:k∈l.map keyOf
   ·have e:rowsOf l (l.map keyOf)=l:=iP hs
    have hm:xm l k∈rowsOf l (l.map keyOf):=List.mem_map_of_mem hkl
    rw[e]at hm
    exact NV (xm l k) hm
   ·rw[dQ hkl];exact⟨by decide,by decide⟩)
  rw[wE,cM]at this
  exact this
theorem sW{l:ah}(h:eX l=true):ru (l.map keyOf)∧(∀x∈l,eO x.1 x.2.1):=by
 unfold eX at h
 rw[Bool.and_true]at h
 have h':=of_decide_eq_true h
 have get: ∀(i:Nat) (hi:i<l.length),l.getD i aR=l[i]:=fun i hi=>by rw[List.getD_eq_getElem?_getD,List.getElem?_eq_getElem hi];rfl
 have NW: ∀i,i+1<l.length→n6 (keyOf (l.getD i aR)) (keyOf (l.getD (i+1) aR)):=fun i hi=>(h' (i+1) hi).2.2 (by omega)
 have dz: ∀j,j<l.length→ ∀i,i<j→n6 (keyOf (l.getD i aR)) (keyOf (l.getD j aR)):=by
  intro j
  induction j with
  |zero=>intro _ i hi;omega
  |succ j ih=>
   intro hj i hi
   by_cases e:i=j
   ·rw[e];exact NW j hj
   ·exact ry (ih (by omega) i (by omega)) (NW j hj)
 refine⟨?_,fun x hx=> ?_⟩
 ·refine List.pairwise_map.2 (List.pairwise_iff_getElem.2 fun i j hi hj nB=> ?_)
  have:=dz j hj i nB
  rw[get i hi,get j hj]at this
  exact this
 ·obtain⟨i,hi,e⟩:=List.getElem_of_mem hx
  have:=h' i hi
  unfold ia iD at this
  rw[get i hi,e]at this
  exact this.1
structure J3(E:ah):Prop where
 key: ∀x∈E,eO x.1 x.2.1
 q:CX E
 len:E.length≤400
 zero:(E.map da).sum=0
theorem J4{x:cE}(h:eO x.1 x.2.1):uq (keyOf x):=by
 have h':eO (keyOf x).1 (keyOf x).2:=h
 unfold eO at h'
 unfold uq AD
 omega
theorem N0(N:Nat)(hN:2000000≤N){l E:ah}(hk:eX l=true)(hl:l.length≤90000)(NV:di l)(g:J3 E):bt N l (E.map gF)=o9 (dx aC (fS l E) (ju (l.map keyOf) E)):=by
 obtain⟨hs,DH⟩:=sW hk
 have hE:=g.len
 unfold bt bt.b
 rw[CL N (by omega) (by omega),hk,Option.bind_some,Bool.not_true,cond_false,ax (by rw[List.length_map];omega),cond_false,bp (by omega) (by omega) (by rw[List.length_map];omega),cond_true]
 have:=nq E aR (fun n i (ws:List Int)=>bt.l5 N n l (E.map gF) (ws.map cw) (E.map gF) ((E.map gF).length:Int) i)
  (fun t ws=>if(ws++t.map da).sum=0 then o9 (dx aC (fS l E) (ju (l.map keyOf) E))else none)
  (fun j (ws:List Int)=>ws.length≤j∧(ws++(E.drop j).map da).sum=0∧ ∀x∈ws,dV x)
  (fun n i ws hi hI hr=> ?_) (fun n ws hI=> ?_) E.length N 0 [] (by omega) (by omega) (by omega) ⟨Nat.le_refl _,g.zero,fun x hx=>nomatch hx⟩
 ·rw[show((0:Nat):Int)=0 from rfl,List.drop_zero]at this
  refine Eq.trans this ?_
  rw[List.nil_append,if_pos g.zero]
 ·unfold bt.l5 bt.dp
  have hm:E.getD i aR∈E:=by
   rw[List.getD_eq_getElem?_getD,List.getElem?_eq_getElem hi];exact List.getElem_mem hi
  have QC:Ib N (gF (E.getD i aR)).1 (gF (E.getD i aR)).2.1=some true:=by
   rw[Ia]
   exact congrArg some (decide_eq_true (g.key _ hm))
  rw[aD (by rw[List.length_map];omega),cond_true,aF (by omega) (by rw[List.length_map];omega),cond_true,Int.toNat_natCast,CY,QC,Option.bind_some,Bool.not_true,cond_false,a6 (by rw[List.length_map,List.length_singleton];omega),cond_true,an (x:=(i:Int)+1) (by omega) (by omega),aa i]
  have h0:=hI.2.1
  rw[drop_cons hi aR,List.map_cons]at h0
  have:=hr (ws++[da (E.getD i aR)]) ⟨by rw[List.length_append,List.length_singleton];omega,by rw[List.append_assoc];exact h0,sV hI.2.2 (CZ g.q i)⟩
  rw[List.map_append]at this
  refine this.trans ?_
  rw[List.append_assoc];rfl
 ·unfold bt.l5 bt.dp
  have h0:=hI.2.1
  rw[List.drop_length,List.map_nil,List.append_nil]at h0
  rw[ax (by rw[List.length_map];omega),cond_false,CK N hI.2.2 (by omega) (by omega),Option.bind_some,h0]
  have e0:H9 0=(cw 0,true):=by unfold H9;exact if_pos ⟨by decide,by decide⟩
  rw[e0]
  dsimp only
  rw[Bool.not_true,cond_false,ug,Option.bind_some,show rn 0=0 from rfl,ch rfl,Bool.not_true,cond_false,qL N (by omega),Option.bind_some]
  rw[List.map_nil,List.append_nil,if_pos h0]
  exact Ls N hN g.q hE (fun x hx=>J4 (g.key x hx)) hs hl NV (fun x hx=>J4 (DH x hx))
end VM
end
section
namespace VM
open Go VM.F
def jL(r:cE):YN:=(r.1,(r.2.1,(cc (da r),())))
theorem N1{E:ah}{i:Nat}(h:i<E.length):(E.map jL).getD i ((0:Int),((0:Int),((false,kW),())))=jL (E.getD i aR):=by
 rw[List.getD_eq_getElem?_getD,List.getElem?_map,List.getElem?_eq_getElem h,List.getD_eq_getElem?_getD,List.getElem?_eq_getElem h];rfl
theorem Iu{v:Int}{n:Nat}(hn:n≤1000000)(h0: -(170141183460469231731687303715884105728*(n:Int))≤v)(h1:v≤170141183460469231731687303715884105728*(n:Int)):Fit v 900000:=by
 have h5:Fit v 5:=by
  unfold Fit
  rw[show(4294967296:Nat)^5=1461501637330902918203684832716283019655932542976 from rfl]
  omega
 exact h5.mono (by omega)
theorem Ro{v:Int}(h:dV v):Fit v 900000:=Iu (n:=1) (by omega) (by have:=h.1;omega) (by have:=h.2;omega)
theorem Lt(N:Nat)(hN:4000000≤N){E:ah}(hq:CX E)(hl:E.length≤100000)(q a b:Int)(hF:aC q):jv N q a b (E.map jL)=some (tT (q+bJ a b E)):=by
 unfold jv jv.b
 have:=nq E aR (fun n j ws=>jv.l3 N n q a b (E.map jL) (cc ws.sum) (!ws.isEmpty) j)
  (fun t ws=>some (tT (q+(ws++bV a b t).sum)))
  (fun j (ws:List Int)=>ws.length≤j∧ ∀x∈ws,dV x)
  (fun n j ws hj hI eg=> ?_) (fun n ws hI=> ?_) E.length N 0 [] (by omega) (by omega) (by omega) ⟨Nat.le_refl _,fun x hx=>nomatch hx⟩
 ·rw[show((0:Nat):Int)=0 from rfl,List.drop_zero,List.sum_nil,gB]at this
  exact this
 ·unfold jv.l3 jv.gZ
  have Rp:=CZ hq j
  have hb:=H8 hI.2
  have Cm:tP N (cc ws.sum) (jL (E.getD j aR)).2.2.1=some (cc (ws.sum+da (E.getD j aR))):=fO N (by omega) (Iu (n:=ws.length) (by omega) hb.1 hb.2) (Ro Rp)
  rw[aD (by rw[List.length_map];omega),cond_true,aF (by omega) (by rw[List.length_map];omega),cond_true,cond_true,cond_true,Int.toNat_natCast,N1 hj,Cm,Option.bind_some,an (x:=(j:Int)+1) (by omega) (by omega),aa j,az,az]
  by_cases h1:(E.getD j aR).1=a
  ·by_cases h2:(E.getD j aR).2.1=b
   ·have hc:bV a b (E.getD j aR::E.drop (j+1))=da (E.getD j aR)::bV a b (E.drop (j+1)):=by rw[cZ,if_pos ⟨h1,h2⟩]
    rw[if_pos (show(jL (E.getD j aR)).1=a from h1),if_pos (show(jL (E.getD j aR)).2.1=b from h2),hc]
    have:=eg (ws++[da (E.getD j aR)]) ⟨by rw[List.length_append,List.length_singleton];omega,sV hI.2 Rp⟩
    rw[List.sum_append,List.sum_cons,List.sum_nil,Int.add_zero,List.append_assoc]at this
    refine Eq.trans ?_ this
    rw[show(!(ws++[da (E.getD j aR)]).isEmpty)=true by cases ws<;>rfl]
   ·have hc:bV a b (E.getD j aR::E.drop (j+1))=bV a b (E.drop (j+1)):=by rw[cZ,if_neg (fun h=>h2 h.2)]
    rw[if_pos (show(jL (E.getD j aR)).1=a from h1),if_neg (show ¬(jL (E.getD j aR)).2.1=b from h2),hc]
    exact eg ws ⟨by omega,hI.2⟩
  ·have hc:bV a b (E.getD j aR::E.drop (j+1))=bV a b (E.drop (j+1)):=by rw[cZ,if_neg (fun h=>h1 h.1)]
   rw[if_neg (show ¬(jL (E.getD j aR)).1=a from h1),hc]
   exact eg ws ⟨by omega,hI.2⟩
 ·unfold jv.l3 jv.gZ
  have hs:=H8 hI.2
  have JW:=hF
  unfold aC at JW
  rw[ax (by rw[List.length_map];omega),cond_false,fE N (by omega) JW.1 JW.2,Option.bind_some,fO N (by omega) (Iu (n:=ws.length) (by omega) hs.1 hs.2) ((Fit.i64 JW.1 JW.2).mono (by omega)),Option.bind_some,nV,Option.bind_some,cond_not]
  show _=some (tT (q+(ws++[]).sum))
  rw[List.append_nil,Int.add_comm ws.sum q]
  cases ws with
  |nil=>
   show some (q,true)=some (tT (q+0))
   rw[Int.add_zero,rz hF]
  |cons w ws=>rfl
theorem Rq{l:ah}(hs:ru (l.map keyOf))(hl:di l)(k:cB):aC (bJ k.1 k.2 l):=by
 by_cases hk:k∈l.map keyOf
 ·have hm:xm l k∈rowsOf l (l.map keyOf):=List.mem_map_of_mem hk
  rw[iP hs]at hm
  exact hl (xm l k) hm
 ·rw[dQ hk];exact⟨by decide,by decide⟩
theorem Ff(N:Nat)(hN:4000000≤N)(C:ck.aU){l E:ah}(hq:CX E)(hl:E.length≤100000)(hs:ru (l.map keyOf))(HQ:l.length≤100000)(hf:di l)(hw: ∀x∈l,0≤(keyOf x).2∧(keyOf x).2<(25:Nat))(a:Nat)(ha:a≤24)(G:List cB)
  (hc: ∀(p:Nat) (out:ah),Mark l (a+1) 0 p→out.length≤25*(a+1)→C l (E.map jL) out (p:Int) ((a+1:Nat):Int)=qM out (dx aC (fS l E) G)):
  ∀(m n b p:Nat) (out:ah),b+m=25→m<n→Mark l a b p→out.length≤25*a+b→ck.l7 N C n l (E.map jL) out (p:Int) (a:Int) (b:Int)=qM out (dx aC (fS l E) (uu a b m++G))
 |m,0,b,p,out,_,hn,_,_=>by omega
 |0,n+1,b,p,out,hb,_,hM,ho=>by
  have e:b=25:=by omega
  subst e
  unfold ck.l7 ck.lC
  rw[cn (by omega),cond_false,an (x:=(a:Int)+1) (by omega) (by omega),aa a]
  exact hc p out (hM.row hw) (by omega)
 |m+1,n+1,b,p,out,hb,hn,hM,ho=>by
  have hp:=hM.le
  have YL: ∀(p:Nat) (v:Int),Mark l a (b+1) p→ck.l7 N C n l (E.map jL) (if v=0 then out else out++[((a:Int),((b:Int),(v,())))]) (p:Int) (a:Int) ((b+1:Nat):Int)=qM (if v=0 then out else out++[((a:Int),((b:Int),(v,())))]) (dx aC (fS l E) (uu a (b+1) m++G)):=fun p v h=>
   Ff N hN C hq hl hs HQ hf hw a ha G hc m n (b+1) p _ (by omega) (by omega) h (by
    split
    ·omega
    ·rw[List.length_append,List.length_singleton];omega)
  have KJ:=Rq hs hf ((a:Int),(b:Int))
  unfold ck.l7 ck.lC
  show _=qM out (dx aC (fS l E) (((a:Int),(b:Int))::(uu a (b+1) m++G)))
  rw[cv (x:=(b:Int)) (by omega),cond_true,bL,az,az,Int.toNat_natCast]
  have fin: ∀(p:Nat) (q:Int),q=bJ (a:Int) (b:Int) l→Mark l a (b+1) p→ck.CH N C (ck.l7 N C n) l (E.map jL) out (p:Int) (a:Int) (b:Int) q=qM out (dx aC (fS l E) (((a:Int),(b:Int))::(uu a (b+1) m++G))):=fun p q e h=>by
   subst e
   unfold ck.CH ck.tV
   rw[Lt N hN hq hl _ _ _ KJ,Option.bind_some]
   refine Eq.trans ?_ (Bx (k:=((a:Int),(b:Int))) (v:=bJ (a:Int) (b:Int) l+bJ (a:Int) (b:Int) E) rfl)
   generalize bJ (a:Int) (b:Int) l+bJ (a:Int) (b:Int) E=v
   have hr:=YL p v h
   by_cases hv:aC v
   ·rw[rz hv,if_pos hv]
    dsimp only
    rw[Bool.not_true,cond_false,cond_not,az,a6 (by rw[List.length_singleton];omega),cond_true,an (x:=(b:Int)+1) (by omega) (by omega),aa b,←hr]
    split<;>rfl
   ·rw[uk hv,if_neg hv];rfl
  rcases hM.step hs with⟨h1,h2,h3,h4,h5⟩|⟨h1,h2,h3⟩
  ·rw[if_pos (show(p:Int)<(l.length:Int)by omega),aF (by omega) (by omega),cond_true,cond_true,if_pos h2,if_pos h3,an (x:=(p:Int)+1) (by omega) (by omega),aa p,cond_true]
   exact fin (p+1) _ h4.symm h5
  ·by_cases g1:p<l.length
   ·rw[if_pos (show(p:Int)<(l.length:Int)by omega),aF (by omega) (by omega),cond_true,cond_true]
    by_cases g2:(l.getD p aR).1=(a:Int)
    ·rw[if_pos g2,if_neg (fun g3=>h1 g1 g2 g3)]
     exact fin p _ h2.symm h3
    ·rw[if_neg g2]
     exact fin p _ h2.symm h3
   ·rw[if_neg (show ¬(p:Int)<(l.length:Int)by omega)]
    exact fin p _ h2.symm h3
theorem Fg(N:Nat)(hN:4000000≤N){l E:ah}(hq:CX E)(hl:E.length≤100000)(hs:ru (l.map keyOf))(HQ:l.length≤100000)(hf:di l)(hw: ∀x∈l,0≤(keyOf x).2∧(keyOf x).2<(25:Nat)):
  ∀(m n a p:Nat) (out:ah),a+m=8→m<n→Mark l a 0 p→out.length≤25*a→ck.l4 N n l (E.map jL) out (p:Int) (a:Int)=qM out (dx aC (fS l E) (so 25 a m))
 |m,0,a,p,out,_,hn,_,_=>by omega
 |0,n+1,a,p,out,ha,_,hM,ho=>by
  unfold ck.l4 ck.cj
  rw[cn (by omega),cond_false]
  show some (out,true)=some (out++[],true)
  rw[List.append_nil]
 |m+1,n+1,a,p,out,ha,hn,hM,ho=>by
  unfold ck.l4 ck.cj
  rw[cv (by omega),cond_true]
  exact Ff N hN _ hq hl hs HQ hf hw a (by omega) (so 25 (a+1) m) (fun p out h ho=>Fg N hN hq hl hs HQ hf hw m n (a+1) p out (by omega) (by omega) h ho) 25 N 0 p out (by omega) (by omega) hM (by omega)
def zd:List cB:=so 25 1 7
theorem Rr(N:Nat)(hN:4000000≤N){l E:ah}(hk:eX l=true)(hl:l.length≤90000)(NV:di l)(hq:CX E)(hE:E.length≤100000):ck N l (E.map jL)=qM [] (dx aC (fS l E) zd):=by
 obtain⟨hs,DH⟩:=sW hk
 unfold ck ck.b
 refine Fg N hN hq hE hs (by omega) NV (fun x hx=> ?_) 7 N 1 0 [] (by omega) (by omega) ⟨by omega,fun x hx=>(nomatch hx),fun x hx dz=> ?_⟩ (by simp)
 ·have h:eO (keyOf x).1 (keyOf x).2:=DH x hx
  unfold eO at h;omega
 ·have h:eO (keyOf x).1 (keyOf x).2:=DH x (List.mem_of_mem_drop hx)
  unfold eO at h
  have qk:(keyOf x).1<((1:Nat):Int)∨((keyOf x).1=((1:Nat):Int)∧(keyOf x).2<((0:Nat):Int)):=dz
  omega
theorem N2{l E:ah}(hk:eX l=true)(hp: ∀x∈E,eO x.1 x.2.1):dx aC (fS l E) (ju (l.map keyOf) E)=dx aC (fS l E) zd:=by
 obtain⟨hs,DH⟩:=sW hk
 refine Fa ⟨by decide,by decide⟩ (sT hs) (vu 25 7 1) (fun k hk=> ?_) (fun k hk hn=> ?_)
 ·have:eO k.1 k.2:=by
   rcases iG.1 hk with h|⟨x,hx,rfl⟩
   ·obtain⟨x,hx,rfl⟩:=List.mem_map.1 h
    exact DH x hx
   ·exact hp x hx
  unfold eO at this
  exact rC.2 (by omega)
 ·have h1:k∉l.map keyOf:=fun h=>hn (iG.2 (Or.inl h))
  have h2:k∉E.map keyOf:=fun h=>by
   obtain⟨x,hx,e⟩:=List.mem_map.1 h
   exact hn (iG.2 (Or.inr ⟨x,hx,e⟩))
  unfold fS
  rw[dQ h1,dQ h2];rfl
def lI(b:ag)(s e:ah):ag×Int:=
 match dx Fq (fS b.2.2.2.1 s) sU with
 |none=>((bN,(cI,(bq,(bq,(c3,(de,())))))),2)
 |some s'=>match dx aC (fS b.2.2.1 e) zd with
  |none=>((bN,(cI,(bq,(bq,(c3,(de,())))))),2)
  |some r'=>((b.1,(b.2.1,(r',(s',b.2.2.2.2)))),0)
theorem N3(N:Nat){b:ag}(w:k7 b):Rs N b=some b:=by
 unfold Rs
 have h1:=w.m;have h2:=w.a;have h3:=w.r;have h4:=w.s;have h5:=w.p;have h6:=w.o
 rw[qL N (by omega),Option.bind_some,qL N (by omega),Option.bind_some,qL N (by omega),Option.bind_some,qL N (by omega),Option.bind_some,qL N (by omega),Option.bind_some,qL N (by omega),Option.bind_some]
end VM
end
section
namespace VM
open Go VM.F
theorem N4(N:Nat)(hN:2000000≤N){b:ag}{s e:ah}(w:k7 b)(hr:eX b.2.2.1=true)(hs:cN b.2.2.2.1=true)(lr:b.2.2.1.length≤90000)(ls:b.2.2.2.1.length≤90000)(gs:J2 s)(ge:J3 e):
  F65 N b s (e.map gF)=some (lI b s e):=by
 unfold F65 lI
 rw[N3 N w,Option.bind_some,Rl N hN hs ls w.qs gs,N0 N hN hr lr w.qr ge,Lp hs gs.place,N2 hr ge.key]
 unfold o9
 rw[Option.bind_some,Option.bind_some]
 have e1:ay 2 0=false:=b9 (by omega)
 have e2:ay 0 0=true:=ch rfl
 cases dx Fq (fS b.2.2.2.1 s) sU with
 |none=>dsimp only;rw[e1];rfl
 |some s'=>
  cases dx aC (fS b.2.2.1 e) zd with
  |none=>dsimp only;rw[e1,e2];rfl
  |some r'=>dsimp only;rw[e2];rfl
theorem Rt(N:Nat)(hN:4000000≤N){b:ag}{s e:ah}(w:k7 b)(hr:eX b.2.2.1=true)(hs:cN b.2.2.2.1=true)(lr:b.2.2.1.length≤90000)(ls:b.2.2.2.1.length≤90000)(gs:J2 s)(ge:J3 e):
  uw N b s (e.map jL)=some (lI b s e):=by
 have h1:=gs.len
 have h2:=ge.len
 unfold uw lI
 rw[Ir N hN hs ls w.qs (fun x hx=>(gs.q x hx).1) (by omega),Rr N hN hr lr w.qr ge.q (by omega)]
 unfold qM
 rw[Option.bind_some,Option.bind_some]
 cases dx Fq (fS b.2.2.2.1 s) sU with
 |none=>rfl
 |some s'=>
  cases dx aC (fS b.2.2.1 e) zd with
  |none=>rfl
  |some r'=>rfl
theorem Ru(N:Nat)(C:dH.aU){l:aE}(hl:l.length≤100000)(i:Nat)(hi:i<l.length): ∀(m n k:Nat),i-k≤m→m<n→k≤i→(l.take k).any (sm (l.getD i aS).2.2.1 (l.getD i aS).2.1)=false→
  dH.l9 N C n l (i:Int) (k:Int)=cond ((l.take i).any (sm (l.getD i aS).2.2.1 (l.getD i aS).2.1)) (some false) (C l ((i+1:Nat):Int))
 |m,0,k,_,hn,_,_=>by omega
 |m,n+1,k,hm,hn,hk,hb=>by
  unfold dH.l9 dH.vl
  by_cases h:k<i
  ·have sN:=Ru N C hl i hi (m-1) n (k+1) (by omega) (by omega) (by omega)
   have ht:(l.take (k+1)).any (sm (l.getD i aS).2.2.1 (l.getD i aS).2.1)=sm (l.getD i aS).2.2.1 (l.getD i aS).2.1 (l.getD k aS):=by
    have ek:l.getD k aS=l[k]'(by omega):=by rw[List.getD_eq_getElem?_getD,List.getElem?_eq_getElem (show k<l.length by omega)];rfl
    rw[←List.take_append_getElem (show k<l.length by omega),List.any_append,hb,ek,List.any_cons,List.any_nil,Bool.or_false,Bool.false_or]
   have ky:sm (l.getD i aS).2.2.1 (l.getD i aS).2.1 (l.getD k aS)=true→(l.take i).any (sm (l.getD i aS).2.2.1 (l.getD i aS).2.1)=true:=fun hh=>by
    refine List.any_eq_true.2 ⟨l.getD k aS,?_,hh⟩
    rw[List.getD_eq_getElem?_getD,List.getElem?_eq_getElem (show k<l.length by omega)]
    exact List.mem_take_iff_getElem.2 ⟨k,by omega,rfl⟩
   rw[aD (by omega),cond_true,aF (by omega) (by omega),cond_true,aF (by omega) (by omega),cond_true,cond_true,cond_true,Int.toNat_natCast,Int.toNat_natCast,az,az,an (x:=(k:Int)+1) (by omega) (by omega),aa k]
   by_cases h1:(l.getD k aS).2.2.1=(l.getD i aS).2.2.1
   ·by_cases h2:(l.getD k aS).2.1=(l.getD i aS).2.1
    ·rw[if_pos h1,if_pos h2,ky (by unfold sm eB;rw[decide_eq_true h1,decide_eq_true h2];rfl)];rfl
    ·rw[if_pos h1,if_neg h2]
     exact sN (by rw[ht];unfold sm eB;rw[decide_eq_false h2,Bool.and_false])
   ·rw[if_neg h1]
    exact sN (by rw[ht];unfold sm eB;rw[decide_eq_false h1,Bool.false_and])
  ·have:k=i:=by omega
   subst this
   rw[ax (by omega),cond_false,hb,cond_false,an (x:=(k:Int)+1) (by omega) (by omega),aa k]
end VM
end
section
namespace VM
open Go VM.F
def pe(s w p:Int):Prop:=((s=1∨s=3)∧w=0∧p=0)∨(s=2∧1≤w∧w≤12∧ -1152921504606846976≤p∧p≤1152921504606846976)
instance(s w p:Int):Decidable (pe s w p):=by unfold pe;infer_instance
def ze(a:Int):Prop:=1≤a∧a≤1099511627776
instance(a:Int):Decidable (ze a):=by unfold ze;infer_instance
def leI(a b:Int):Prop:=a≤b
instance(a b:Int):Decidable (leI a b):=by unfold leI;infer_instance
def xT(c:ae)(l:aY)(i:Nat):Prop:=
 ze (l.getD i ((0:Int),(bN,aS))).1∧qD i (l.getD (i-1) ((0:Int),(bN,aS))).1 (l.getD i ((0:Int),(bN,aS))).1∧ ¬eB ((l.getD i ((0:Int),(bN,aS))).2.1.length:Int) 0∧CS c (l.getD i ((0:Int),(bN,aS))).2.1=true∧leI (l.getD i ((0:Int),(bN,aS))).2.2.1 0∧pe (l.getD i ((0:Int),(bN,aS))).2.2.2.1 (l.getD i ((0:Int),(bN,aS))).2.2.2.2.1 (l.getD i ((0:Int),(bN,aS))).2.2.2.2.2.1
instance(c:ae)(l:aY):DecidablePred (xT c l):=fun i=>by unfold xT;infer_instance
def N5(c:ae)(l:aY):Bool:=fm c&&(decide (l.length≤12)&&(decide (∀j,j<l.length→xT c l j)&&true))
def WU(l:aY):Prop:= ∀x∈l,x.2.1.length≤100000
theorem Iv{l:aY}(h:WU l)(i:Nat):(l.getD i ((0:Int),(bN,aS))).2.1.length≤100000:=by
 by_cases hi:i<l.length
 ·rw[List.getD_eq_getElem?_getD,List.getElem?_eq_getElem hi];exact h _ (List.getElem_mem hi)
 ·rw[List.getD_eq_getElem?_getD,List.getElem?_eq_none (by omega)];exact Nat.zero_le _
theorem Rv(s w p:Int)(r:Option Bool):
  cond (ay s 1) (cond (!ay w 0) (some false) (cond (!ay p 0) (some false) r)) (cond (ay s 3) (cond (!ay w 0) (some false) (cond (!ay p 0) (some false) r)) (cond (ay s 2) (cond (aG w 1) (some false) (cond (aG 12 w) (some false) (cond (aG p (-1152921504606846976)) (some false) (cond (aG 1152921504606846976 p) (some false) r)))) (some false)))=
   if pe s w p then r else some false:=by
 simp only[cond_not,az,bL]
 by_cases h:pe s w p
 ·rw[if_pos h];unfold pe at h
  repeat' split
  all_goals first|rfl|omega
 ·rw[if_neg h];unfold pe at h
  repeat' split
  all_goals first|rfl|omega
theorem Lu{A B C D E F:Prop} [Decidable A] [Decidable B] [Decidable C] [Decidable D] [Decidable E] [Decidable F](r:Option Bool):
  (if A then(if B then(if C then(if D then(if E then(if F then r else some false)else some false)else some false)else some false)else some false)else some false)=if A∧B∧C∧D∧E∧F then r else some false:=by
 by_cases hA:A<;>by_cases hB:B<;>by_cases hC:C<;>by_cases hD:D<;>by_cases hE:E<;>by_cases hF:F<;>simp only[hA,hB,hC,hD,hE,hF,if_true,if_false,and_self,and_true,and_false,false_and,true_and]
theorem N6{a b n f s w p:Int}{i:Nat}{o:Bool}{r:Option Bool}:
  cond (aG a 1) (some false) (cond (aG 1099511627776 a) (some false) (if qD i b a then(cond (ay n 0) (some false) (cond (!o) (some false) (cond (aG 0 f) (some false) (if pe s w p then r else some false))))else some false))=
   if ze a∧qD i b a∧ ¬eB n 0∧o=true∧leI f 0∧pe s w p then r else some false:=by
 rw[←Lu]
 simp only[cond_not,az,bL]
 by_cases h1:ze a
 ·have lB:=h1
  unfold ze at lB
  rw[if_pos h1,if_neg (by omega),if_neg (by omega)]
  by_cases h2:qD i b a
  ·rw[if_pos h2,if_pos h2]
   by_cases h3:n=0
   ·rw[if_pos h3,if_neg (show ¬ ¬eB n 0 from fun h=>h h3)]
   ·rw[if_neg h3,if_pos (show ¬eB n 0 from h3)]
    cases o
    ·rfl
    ·rw[cond_true,if_pos rfl]
     by_cases h4:f≤0
     ·rw[if_pos (show leI f 0 from h4),if_neg (by omega)]
     ·rw[if_neg (show ¬leI f 0 from h4),if_pos (by omega)]
  ·rw[if_neg h2,if_neg h2]
 ·have lB:=h1
  unfold ze at lB
  rw[if_neg h1]
  by_cases h2:a<1
  ·rw[if_pos h2]
  ·rw[if_neg h2,if_pos (by omega)]
theorem N7{i:Nat}{a b:Int}{r:Option Bool}(h0:0<i):cond (bR a b) (some false) r=if qD i b a then r else some false:=by
 rw[bM]
 by_cases h1:qD i b a
 ·rw[if_pos h1,if_neg (by unfold qD at h1;omega)]
 ·rw[if_neg h1,if_pos (by unfold qD at h1;omega)]
theorem aej(N:Nat)(hN:200000≤N)(c:ae){l:aY}(hl:l.length≤100000)(hw:WU l):fb N c l=some (N5 c l):=by
 unfold fb fb.b N5
 rw[ow N (by omega),Option.bind_some]
 cases fm c
 ·rfl
 rw[Bool.not_true,cond_false,Bool.true_and]
 by_cases h12:l.length≤12
 ·rw[ax (by omega),cond_false,decide_eq_true h12,Bool.true_and]
  refine fg (F:=fun n i=>fb.l4 N n l c i) (xT c l) (fun n i r hi hp hr=> ?_) (fun n=> ?_) N (by omega)
  ·unfold fb.l4 fb.cj fb.j9 fb.H7
   rw[aD (by omega),cond_true,aF (by omega) (by omega),cond_true,Int.toNat_natCast,ui N hN c (Iv hw i),Option.bind_some,an (x:=(i:Int)+1) (by omega) (by omega),aa i,hr,Rv]
   refine Eq.trans ?_ N6
   by_cases h0:0<i
   ·have e:W .i64 ((i:Int)-1)=((i-1:Nat):Int):=by rw[an (by omega) (by omega)];omega
    rw[aD (x:=0) (y:=(i:Int)) (by omega),cond_true,e]
    dsimp only
    rw[Int.toNat_natCast,aF (by omega) (by omega),cond_true,N7 h0]
   ·rw[ax (x:=0) (y:=(i:Int)) (by omega),cond_false,if_pos (show qD i (l.getD (i-1) ((0:Int),(bN,aS))).1 (l.getD i ((0:Int),(bN,aS))).1 from fun h=>absurd h h0)]
  ·unfold fb.l4 fb.cj
   rw[ax (by omega),cond_false]
 ·rw[aD (by omega),cond_true,decide_eq_false h12,Bool.false_and]
end VM
end
section
namespace VM
open Go VM.F
abbrev AwS:=ah×ah×aY
structure WV(z:AwS)(i:Nat):Prop where
 place: ∀x∈z.1,bI x.1 x.2.1
 q: ∀x∈z.1,aC (da x)∧n5 (da x)
 len:z.1.length≤12*i
 flat: ∀a:Int,(cQ a z.1).sum=0
 key: ∀x∈z.2.1,eO x.1 x.2.1
 qe: ∀x∈z.2.1,aC (da x)
 arA:z.2.1.length≤2*i
 zero:(z.2.1.map da).sum=0
 out:z.2.2.length=i
theorem AI(a:Int)(l m:ah):cQ a (l++m)=cQ a l++cQ a m:=by
 induction l with
 |nil=>rfl
 |cons x t ih=>
  rw[List.cons_append,dO,dO,ih]
  split<;>rfl
theorem akb{v:Int}(h:aC v∧n5 v):aC (0-v)∧n5 (0-v):=by
 unfold aC n5 at*;omega
theorem WV.nil:WV ([],[],[]) 0:=⟨fun x hx=>(nomatch hx),fun x hx=>(nomatch hx),Nat.le_refl _,fun a=>rfl,fun x hx=>(nomatch hx),fun x hx=>(nomatch hx),Nat.le_refl _,rfl,rfl⟩
end VM
end
section
namespace VM
open Go VM.F
theorem gG{c:ae}{b:ag}(h:c8 c b=true):eX b.2.2.1=true∧cN b.2.2.2.1=true:=by
 unfold c8 at h
 have h1:=(Bool.and_eq_true_iff.1 (Bool.and_eq_true_iff.1 h).2).2
 have h2:=Bool.and_eq_true_iff.1 h1
 have h3:=(Bool.and_eq_true_iff.1 (Bool.and_eq_true_iff.1 h2.2).2).1
 refine⟨h2.1,?_⟩
 unfold qG at h3
 exact(Bool.and_eq_true_iff.1 h3).2
structure ux(b:ag):Prop where
 w:k7 b
 r:b.2.2.1.length≤90000
 s:b.2.2.2.1.length≤90000
end VM
end
section
namespace VM
open Go VM.F
end VM
end
section
namespace VM
open Go VM.F
theorem dt(x:Int):ay x x=true:=ch rfl
theorem N8(x:NL):kV (.pair (.int .i64) (.pair (.int .i64) .unit)) x x=true:=by
 show(ay x.1 x.1&&(ay x.2.1 x.2.1&&true))=true
 rw[dt,dt];rfl
theorem C0(x:cE):kV (.pair (.int .i64) (.pair (.int .i64) (.pair (.int .i64) .unit))) x x=true:=by
 show(ay x.1 x.1&&kV (.pair (.int .i64) (.pair (.int .i64) .unit)) x.2 x.2)=true
 rw[dt,N8];rfl
theorem N9(x:bS):kV (.pair (.int .i64) (.pair (.int .i64) (.pair (.int .i64) (.pair (.int .i64) .unit)))) x x=true:=by
 show(ay x.1 x.1&&kV (.pair (.int .i64) (.pair (.int .i64) (.pair (.int .i64) .unit))) x.2 x.2)=true
 rw[dt,C0];rfl
theorem YO(x:fJ):kV (.pair (.int .i64) (.pair (.int .i64) (.pair (.int .i64) (.pair (.int .i64) (.pair (.int .i64) (.pair (.int .i64) .unit)))))) x x=true:=by
 show(ay x.1 x.1&&(ay x.2.1 x.2.1&&kV (.pair (.int .i64) (.pair (.int .i64) (.pair (.int .i64) (.pair (.int .i64) .unit)))) x.2.2 x.2.2))=true
 rw[dt,dt,N9];rfl
theorem iR{F:Nat→Int→Option Bool}{len:Nat}(hs: ∀n (i:Nat),i<len→F n ((i+1:Nat):Int)=some true→F (n+1) (i:Int)=some true)(he: ∀n,F (n+1) (len:Int)=some true): ∀(m n i:Nat),len-i≤m→m<n→i≤len→F n (i:Int)=some true
 |m,0,i,_,hn,_=>by omega
 |m,n+1,i,hm,hn,hi=>by
  by_cases h:i<len
  ·exact hs n i h (iR hs he (m-1) n (i+1) (by omega) (by omega) (by omega))
  ·have:i=len:=by omega
   subst this;exact he n
theorem Fh(N:Nat){l:av}(hl:l.length≤100000)(hN:200000≤N):k8 N l l=some true:=by
 unfold k8 k8.b
 rw[dt,Bool.not_true,cond_false]
 refine iR (F:=fun n i=>k8.l4 N n l l i) (len:=l.length) (fun n i hi hr=> ?_) (fun n=> ?_) l.length N 0 (by omega) (by omega) (by omega)
 ·unfold k8.l4 k8.cj
  rw[aD (by omega),cond_true,aF (by omega) (by omega),cond_true,cond_true,N8,Bool.not_true,cond_false,an (x:=(i:Int)+1) (by omega) (by omega),aa i]
  exact hr
 ·unfold k8.l4 k8.cj
  rw[ax (by omega),cond_false]
theorem Oa(N:Nat){l:aE}(hl:l.length≤100000)(hN:200000≤N):k9 N l l=some true:=by
 unfold k9 k9.b
 rw[dt,Bool.not_true,cond_false]
 refine iR (F:=fun n i=>k9.l4 N n l l i) (len:=l.length) (fun n i hi hr=> ?_) (fun n=> ?_) l.length N 0 (by omega) (by omega) (by omega)
 ·unfold k9.l4 k9.cj
  rw[aD (by omega),cond_true,aF (by omega) (by omega),cond_true,cond_true,N9,Bool.not_true,cond_false,an (x:=(i:Int)+1) (by omega) (by omega),aa i]
  exact hr
 ·unfold k9.l4 k9.cj
  rw[ax (by omega),cond_false]
theorem Ob(N:Nat){l:ah}(hl:l.length≤100000)(hN:200000≤N):xn N l l=some true:=by
 unfold xn xn.b
 rw[dt,Bool.not_true,cond_false]
 refine iR (F:=fun n i=>xn.l4 N n l l i) (len:=l.length) (fun n i hi hr=> ?_) (fun n=> ?_) l.length N 0 (by omega) (by omega) (by omega)
 ·unfold xn.l4 xn.cj
  rw[aD (by omega),cond_true,aF (by omega) (by omega),cond_true,cond_true,C0,Bool.not_true,cond_false,an (x:=(i:Int)+1) (by omega) (by omega),aa i]
  exact hr
 ·unfold xn.l4 xn.cj
  rw[ax (by omega),cond_false]
theorem BB(N:Nat){l:ah}(hl:l.length≤100000)(hN:200000≤N):uV N l l=some true:=by
 unfold uV uV.b
 rw[dt,Bool.not_true,cond_false]
 refine iR (F:=fun n i=>uV.l4 N n l l i) (len:=l.length) (fun n i hi hr=> ?_) (fun n=> ?_) l.length N 0 (by omega) (by omega) (by omega)
 ·unfold uV.l4 uV.cj
  rw[aD (by omega),cond_true,aF (by omega) (by omega),cond_true,cond_true,C0,Bool.not_true,cond_false,an (x:=(i:Int)+1) (by omega) (by omega),aa i]
  exact hr
 ·unfold uV.l4 uV.cj
  rw[ax (by omega),cond_false]
theorem Iw(N:Nat){l:aW}(hl:l.length≤100000)(hN:200000≤N):xp N l l=some true:=by
 unfold xp xp.b
 rw[dt,Bool.not_true,cond_false]
 refine iR (F:=fun n i=>xp.l4 N n l l i) (len:=l.length) (fun n i hi hr=> ?_) (fun n=> ?_) l.length N 0 (by omega) (by omega) (by omega)
 ·unfold xp.l4 xp.cj
  rw[aD (by omega),cond_true,aF (by omega) (by omega),cond_true,cond_true,YO,Bool.not_true,cond_false,an (x:=(i:Int)+1) (by omega) (by omega),aa i]
  exact hr
 ·unfold xp.l4 xp.cj
  rw[ax (by omega),cond_false]
theorem Oc(N:Nat){l:List (Int)}(hl:l.length≤100000)(hN:200000≤N):xq N l l=some true:=by
 unfold xq xq.b
 rw[dt,Bool.not_true,cond_false]
 refine iR (F:=fun n i=>xq.l4 N n l l i) (len:=l.length) (fun n i hi hr=> ?_) (fun n=> ?_) l.length N 0 (by omega) (by omega) (by omega)
 ·unfold xq.l4 xq.cj
  rw[aD (by omega),cond_true,aF (by omega) (by omega),cond_true,cond_true,dt,Bool.not_true,cond_false,an (x:=(i:Int)+1) (by omega) (by omega),aa i]
  exact hr
 ·unfold xq.l4 xq.cj
  rw[ax (by omega),cond_false]
theorem Od(N:Nat)(hN:200000≤N){b:ag}(h1:b.1.length≤100000)(h2:b.2.1.length≤100000)(h3:b.2.2.1.length≤100000)(h4:b.2.2.2.1.length≤100000)(h5:b.2.2.2.2.1.length≤100000)(h6:b.2.2.2.2.2.1.length≤100000):F57 N b b=some true:=by
 unfold F57
 rw[Fh N h1 hN,Option.bind_some,cond_true,Oa N h2 hN,Option.bind_some,cond_true,Ob N h3 hN,Option.bind_some,cond_true,BB N h4 hN,Option.bind_some,cond_true,Oc N h5 hN,Option.bind_some,cond_true,Iw N h6 hN,Option.bind_some]
theorem zf{P:Int→Prop} [DecidablePred P]{f:Int→Int→Int}: ∀{K:List cB} {o:ah},dx P f K=some o→o.length≤K.length
 |[],o,h=>by
  have:some []=some o:=h
  rw[←Option.some.inj this];exact Nat.le_refl _
 |k::t,o,h=>by
  rw[j1]at h
  by_cases hP:P (f k.1 k.2)
  ·rw[if_pos hP]at h
   cases hc:dx P f t with
   |none=>rw[hc]at h;exact absurd h (by simp)
   |some r=>
    have ih:=zf hc
    rw[hc]at h
    have h':=Option.some.inj h
    rw[←h',List.length_cons]
    dsimp only
    split
    ·omega
    ·rw[List.length_cons];omega
  ·rw[if_neg hP]at h;exact absurd h (by simp)
theorem Ix:sU.length=150:=by decide+kernel
theorem Lv:zd.length=175:=by decide+kernel
structure Fi(b:ag):Prop where
 m:b.1.length≤100000
 a:b.2.1.length≤100000
 r:b.2.2.1.length≤100000
 s:b.2.2.2.1.length≤100000
 p:b.2.2.2.2.1.length≤100000
 o:b.2.2.2.2.2.1.length≤100000
theorem rD:Fi (([]:av),(([]:aE),(([]:ah),(([]:ah),(([]:List Int),(([]:aW),())))))):=⟨Nat.zero_le _,Nat.zero_le _,Nat.zero_le _,Nat.zero_le _,Nat.zero_le _,Nat.zero_le _⟩
theorem Fj{b:ag}(w:k7 b)(s e:ah):Fi (lI b s e).1:=by
 unfold lI
 cases h1:dx Fq (fS b.2.2.2.1 s) sU with
 |none=>exact rD
 |some s'=>
  cases h2:dx aC (fS b.2.2.1 e) zd with
  |none=>exact rD
  |some r'=>
   have g1:=zf h1
   have g2:=zf h2
   rw[Ix]at g1
   rw[Lv]at g2
   exact⟨w.m,w.a,by show r'.length≤_;omega,by show s'.length≤_;omega,w.p,w.o⟩
end VM
end
section
namespace VM
open Go VM.F Go.RowKit
def eU(a b:Int):ah→Int
 |[]=>0
 |x::t=>if x.1=a then(if x.2.1=b then x.2.2.1 else eU a b t)else eU a b t
theorem gH(a b:Int)(x:cE)(t:ah):eU a b (x::t)=if x.1=a then(if x.2.1=b then x.2.2.1 else eU a b t)else eU a b t:=rfl
def dW(l:ah)(a b:Int):Int:=if cN l then eU a b l else 0
def J5(l:ah)(a b:Int):Int:=if eX l then eU a b l else 0
theorem C1(N:Nat){l:ah}(hl:l.length≤100000)(hN:200000≤N)(a b:Int):wF N l a b=some (dW l a b):=by
 unfold wF wF.b dW
 rw[lY N hl hN,Option.bind_some,cond_not]
 have:=tX l aR (fun n i=>wF.l4 N n l a b i) (fun t=>some (eU a b t)) (fun n i hi hr=> ?_) (fun n=> ?_) N (by omega)
 ·rw[this];cases cN l<;>rfl
 ·unfold wF.l4 wF.cj
  rw[aD (by omega),cond_true,aF (by omega) (by omega),cond_true,cond_true,cond_true,Int.toNat_natCast,an (x:=(i:Int)+1) (by omega) (by omega),aa i,hr,az,az,gH]
  split
  ·split<;>rfl
  ·rfl
 ·unfold wF.l4 wF.cj
  rw[ax (by omega),cond_false];rfl
theorem YP(N:Nat){l:ah}(hl:l.length≤100000)(hN:200000≤N)(a b:Int):p4 N l a b=some (J5 l a b):=by
 unfold p4 p4.b J5
 rw[yW N hl hN,Option.bind_some,cond_not]
 have:=tX l aR (fun n i=>p4.l4 N n l a b i) (fun t=>some (eU a b t)) (fun n i hi hr=> ?_) (fun n=> ?_) N (by omega)
 ·rw[this];cases eX l<;>rfl
 ·unfold p4.l4 p4.cj
  rw[aD (by omega),cond_true,aF (by omega) (by omega),cond_true,cond_true,cond_true,Int.toNat_natCast,an (x:=(i:Int)+1) (by omega) (by omega),aa i,hr,az,az,gH]
  split
  ·split<;>rfl
  ·rfl
 ·unfold p4.l4 p4.cj
  rw[ax (by omega),cond_false];rfl
theorem Rw{l:ah}(h: ∀i,i<l.length→aC (da (l.getD i aR))):di l:=fun x hx=>by
 obtain⟨i,hi,e⟩:=List.getElem_of_mem hx
 have:=h i hi
 rw[List.getD_eq_getElem?_getD,List.getElem?_eq_getElem hi]at this
 rw[←e];exact this
namespace Pure
end Pure
end VM
end
section
namespace VM
open Go VM.F
theorem zg{l:ah}(h:di l)(a b:Int):aC (eU a b l):=by
 induction l with
 |nil=>show aC 0;decide
 |cons x t ih=>
  have ih:=ih (fun y hy=>h y (List.mem_cons_of_mem _ hy))
  rw[gH]
  split
  ·split
   ·exact h x (List.mem_cons_self ..)
   ·exact ih
  ·exact ih
theorem Oe{l:ah}(h:di l)(a b:Int):aC (J5 l a b):=by
 unfold J5
 split
 ·exact zg h a b
 ·exact⟨by decide,by decide⟩
def nW(a:Int):ah→av
 |[]=>[]
 |x::t=>if x.1=a then(x.2.1,(x.2.2.1,()))::nW a t else nW a t
theorem qN(a:Int)(x:cE)(t:ah):nW a (x::t)=if x.1=a then(x.2.1,(x.2.2.1,()))::nW a t else nW a t:=rfl
def posOf(l:ah)(a:Int):av:=if cN l then nW a l else []
theorem zh(a:Int): ∀l:ah,(nW a l).length≤l.length
 |[]=>Nat.le_refl _
 |x::t=>by
  have:=zh a t
  rw[qN,List.length_cons]
  split
  ·rw[List.length_cons];omega
  ·omega
theorem Lw(a:Int)(l:ah):(posOf l a).length≤l.length:=by
 unfold posOf
 split
 ·exact zh a l
 ·exact Nat.zero_le _
theorem pf{a:Int}{y:NL}: ∀{l:ah},y∈nW a l→ ∃x∈l,x.1=a∧y=(x.2.1,(x.2.2.1,()))
 |[],h=>nomatch h
 |x::t,h=>by
  rw[qN]at h
  by_cases e:x.1=a
  ·rw[if_pos e]at h
   rcases List.mem_cons.1 h with h|h
   ·exact⟨x,List.mem_cons_self ..,e,h⟩
   ·obtain⟨x',hx,h'⟩:=pf h
    exact⟨x',List.mem_cons_of_mem _ hx,h'⟩
  ·rw[if_neg e]at h
   obtain⟨x',hx,h'⟩:=pf h
   exact⟨x',List.mem_cons_of_mem _ hx,h'⟩
theorem Of(N:Nat){l:ah}(hl:l.length≤100000)(hN:200000≤N)(a:Int):sq N l a=some (posOf l a):=by
 unfold sq sq.b posOf
 rw[lY N hl hN,Option.bind_some,cond_not]
 have:=nq l aR (fun n i s=>sq.l5 N n l a s i) (fun t s=>some (s++nW a t)) (fun i (s:av)=>s.length≤i) (fun n i s hi hI hr=> ?_) (fun n s hI=> ?_) l.length N 0 [] (by omega) (by omega) (by omega) (Nat.le_refl _)
 ·have e:sq.l5 N N l a [] 0=some (nW a l):=this
  rw[e];cases cN l<;>rfl
 ·unfold sq.l5 sq.dp
  rw[aD (by omega),cond_true,aF (by omega) (by omega),cond_true,cond_true,cond_true,Int.toNat_natCast,an (x:=(i:Int)+1) (by omega) (by omega),aa i,az,a6 (by rw[List.length_singleton];omega),cond_true,qN]
  split
  ·rw[hr _ (by rw[List.length_append,List.length_singleton];omega),List.append_assoc];rfl
  ·exact hr s (by omega)
 ·unfold sq.l5 sq.dp
  rw[ax (by omega),cond_false]
  show some s=some (s++[])
  rw[List.append_nil]
def C2(a n:Int):Prop:=0≤a∧a<n
end VM
end
section
namespace VM
open Go VM.F
end VM
end
section
namespace VM
open Go VM.F
def kp(p:Int):Prop:=1≤p∧p≤1000000000000
instance(p:Int):Decidable (kp p):=by unfold kp;infer_instance
theorem Iy(N:Nat)(p:Int):xh N p=some (decide (kp p)):=(iO N p).trans (congrArg some (decide_eq_decide.2 Iff.rfl))
def jw(a b c d e:Int):Prop:=(0≤a∧a≤24)∧(0≤b∧b≤24)∧a≠b∧(0≤c∧c<6)∧(1≤d∧d≤1000000000)∧kp e
instance(a b c d e:Int):Decidable (jw a b c d e):=by unfold jw;infer_instance
def rE(t:uy):Prop:=jw t.1 t.2.1 t.2.2.1 t.2.2.2.1 t.2.2.2.2.1
instance:DecidablePred rE:=fun t=>by unfold rE;infer_instance
theorem Fk(a b c d e:Int):cond (bR 0 a) (cond (bR a 24) (cond (bR 0 b) (cond (bR b 24) (cond (!ay a b) (cond (bR 0 c) (cond (aG c 6) (cond (bR 1 d) (cond (bR d 1000000000) (some (decide (kp e))) (some false)) (some false)) (some false)) (some false)) (some false)) (some false)) (some false)) (some false)) (some false)=some (decide (jw a b c d e)):=by
 simp only[bM,cond_not,az,bL]
 by_cases hP:jw a b c d e
 ·have hp:=hP.2.2.2.2.2
  rw[decide_eq_true hP,decide_eq_true hp]
  unfold jw at hP
  repeat' split
  all_goals first|rfl|omega
 ·rw[decide_eq_false hP]
  by_cases hp:kp e
  ·unfold jw at hP
   repeat' split
   all_goals first|rfl|(exact absurd ⟨by omega,by omega,by omega,by omega,by omega,hp⟩ hP)
  ·rw[decide_eq_false hp]
   repeat' split
   all_goals rfl
theorem BC(N:Nat)(t:uy):Og N t=some (decide (rE t)):=by
 unfold Og
 rw[Iy,Option.bind_some]
 exact Fk _ _ _ _ _
theorem ig{c:ae}{b:ag}(h:c8 c b=true):b.2.2.2.2.1.length=c.1.length∧gi b.2.2.2.2.1=true:=by
 unfold c8 at h
 simp only[Bool.and_eq_true]at h
 have h1:=of_decide_eq_true h.2.2.2.2.2.2.1
 unfold eB at h1
 exact⟨by omega,h.2.2.2.2.2.2.2.2.2.2⟩
end VM
end
section
namespace VM
open Go VM.F
theorem Fl{l:List Int}(h:gi l=true){i:Nat}(hi:i<l.length):kp (l.getD i 0):=of_decide_eq_true h i hi
end VM
end
section
namespace VM
open Go VM.F
theorem pg{c:ae}{b:ag}(h:c8 c b=true):fm c=true:=by
 unfold c8 at h
 exact(Bool.and_eq_true_iff.1 h).1
def jx(k:Int):Nat→aE→List Int
 |_,[]=>[]
 |i,x::t=>if x.1=k then(i:Int)::jx k (i+1) t else jx k (i+1) t
theorem uz(k:Int)(i:Nat)(x:bS)(t:aE):jx k i (x::t)=if x.1=k then(i:Int)::jx k (i+1) t else jx k (i+1) t:=rfl
def eZ(c:ae)(k:Int):List Int:=if fm c then jx k 0 c.1 else []
theorem Iz(N:Nat)(hN:200000≤N)(c:ae)(hl:c.1.length≤100000)(k:Int):wG N c k=some (eZ c k):=by
 unfold wG wG.b eZ
 rw[ow N (by omega),Option.bind_some,cond_not]
 have:=nq c.1 aS (fun n i s=>wG.l5 N n k c s i) (fun t s=>some (s++jx k (c.1.length-t.length) t)) (fun i (s:List Int)=>s.length≤i) (fun n i s hi hI hr=> ?_) (fun n s hI=> ?_) c.1.length N 0 [] (by omega) (by omega) (by omega) (Nat.le_refl _)
 ·have e:wG.l5 N N k c [] 0=some (jx k 0 c.1):=by
   refine this.trans ?_
   rw[List.drop_zero,Nat.sub_self];rfl
  rw[e];cases fm c<;>rfl
 ·unfold wG.l5 wG.dp
  have e1:c.1.length-(c.1.getD i aS::c.1.drop (i+1)).length=i:=by rw[List.length_cons,List.length_drop];omega
  have e2:c.1.length-(c.1.drop (i+1)).length=i+1:=by rw[List.length_drop];omega
  rw[e2]at hr
  rw[aD (by omega),cond_true,aF (by omega) (by omega),cond_true,Int.toNat_natCast,an (x:=(i:Int)+1) (by omega) (by omega),aa i,az,a6 (by rw[List.length_singleton];omega),cond_true,e1,uz]
  split
  ·rw[hr _ (by rw[List.length_append,List.length_singleton];omega),List.append_assoc];rfl
  ·exact hr s (by omega)
 ·unfold wG.l5 wG.dp
  rw[ax (by omega),cond_false]
  show some s=some (s++[])
  rw[List.append_nil]
theorem wH{c:ae}(h:fm c=true):c.1.length≤6∧ ∀i,i<c.1.length→0≤(c.1.getD i aS).1∧(c.1.getD i aS).1≤3:=by
 unfold fm at h
 simp only[Bool.and_eq_true]at h
 have h1:=of_decide_eq_true h.1
 have h2:=of_decide_eq_true h.2.1
 exact⟨h1.2,fun i hi=>(h2 i hi).1⟩
theorem Oh{l:ah}(h:di l)(a b:Int):aC (dW l a b):=by
 unfold dW
 cases cN l
 ·show aC 0;decide
 ·exact zg h a b
end VM
end
section
namespace VM
open Go VM.F
end VM
end
section
namespace VM
open Go VM.F
end VM
end
section
namespace VM
open Go VM.F
def qO(l:List Int)(k:Int):Int:=l.getD k.toNat 0
def ins(l:List Int):List Int→Int→List Int
 |[],i=>[i]
 |k::t,i=>if qO l i≤qO l k then k::ins l t i else i::k::t
def cq(l:List Int):Nat→List Int
 |0=>[]
 |n+1=>ins l (cq l n) n
def eJ(l:List Int):List Int:=cq l l.length
def oy(l:List Int)(a b:Int):Prop:=qO l b<qO l a∨(qO l b=qO l a∧a<b)
theorem J6(l:List Int): ∀(o:List Int) (i:Int),(ins l o i).length=o.length+1
 |[],i=>rfl
 |k::t,i=>by unfold ins;split<;>simp[J6 l t i]
theorem iS(l:List Int): ∀n,(cq l n).length=n
 |0=>rfl
 |n+1=>by unfold cq;rw[J6,iS l n]
theorem mJ(l:List Int):(eJ l).length=l.length:=iS l _
theorem C3(l:List Int){x:Int}: ∀{o:List Int} {i:Int},x∈ins l o i↔x=i∨x∈o
 |[],i=>by simp[ins]
 |k::t,i=>by
  unfold ins;split
  ·rw[List.mem_cons,C3 l,List.mem_cons]
   exact⟨fun h=>h.elim (fun h=> .inr (.inl h)) (fun h=>h.elim .inl (fun h=> .inr (.inr h))),fun h=>h.elim (fun h=> .inr (.inl h)) (fun h=>h.elim .inl (fun h=> .inr (.inr h)))⟩
  ·rw[List.mem_cons]
theorem nO(l:List Int){x:Int}: ∀{n:Nat},x∈cq l n↔0≤x∧x<n
 |0=>⟨(fun h=>nomatch h),fun h=>absurd h.1 (by omega)⟩
 |n+1=>by unfold cq;rw[C3,nO l];omega
theorem uA(l:List Int): ∀{o:List Int} {i:Int},o.Pairwise (oy l)→(∀x∈o,x<i)→(ins l o i).Pairwise (oy l)
 |[],i,_,_=>List.pairwise_singleton _ _
 |k::t,i,h,hi=>by
  rw[List.pairwise_cons]at h
  have hk:k<i:=hi k (List.mem_cons_self ..)
  unfold ins;split
  ·rename_i hle
   rw[List.pairwise_cons]
   refine⟨fun x hx=> ?_,uA l h.2 (fun x hx=>hi x (List.mem_cons_of_mem _ hx))⟩
   rcases(C3 l).1 hx with rfl|hx
   ·unfold oy;omega
   ·exact h.1 x hx
  ·rename_i hle
   rw[List.pairwise_cons,List.pairwise_cons]
   refine⟨fun x hx=> ?_,h.1,h.2⟩
   rcases List.mem_cons.1 hx with rfl|hx
   ·unfold oy;omega
   ·have:=h.1 x hx;unfold oy at*;omega
theorem gI(l:List Int): ∀n,(cq l n).Pairwise (oy l)
 |0=>List.Pairwise.nil
 |n+1=>by unfold cq;exact uA l (gI l n) (fun x hx=>((nO l).1 hx).2)
theorem IA(l:List Int): ∀(o:List Int) (i:Int) (p:Nat),p≤o.length→(∀j,j<p→qO l i≤qO l (o.getD j 0))→(p<o.length→qO l (o.getD p 0)<qO l i)→ins l o i=o.take p++i::o.drop p
 |[],i,p,hp,_,_=>by simp at hp;subst hp;rfl
 |k::t,i,0,hp,_,h=>by
  unfold ins;rw[if_neg (by have:=h (by simp);simp at this;omega)];rfl
 |k::t,i,p+1,hp,h0,h=>by
  unfold ins
  have h1:qO l i≤qO l k:=h0 0 (by omega)
  rw[if_pos h1,IA l t i p (by simpa using hp) (fun j hj=>by have:=h0 (j+1) (by omega);simpa using this) (fun AV=>by have:=h (by simpa using AV);simpa using this)]
  rfl
theorem J7(l:List Int)(f:Int→Int): ∀(o:List Int) (i:Int),((ins l o i).map f).sum=(o.map f).sum+f i
 |[],i=>by simp[ins]
 |k::t,i=>by
  unfold ins;split
  ·rw[List.map_cons,List.sum_cons,J7 l f t i,List.map_cons,List.sum_cons];omega
  ·simp only[List.map_cons,List.sum_cons];omega
theorem wI(l r:List Int): ∀n,n≤r.length→((cq l n).map (qO r)).sum=(r.take n).sum
 |0,_=>rfl
 |n+1,h=>by
  unfold cq;rw[J7,wI l r n (by omega),dN r (by omega)]
  unfold qO;rw[Int.toNat_natCast]
theorem IB(l r:List Int)(h:l.length=r.length):((eJ l).map (qO r)).sum=r.sum:=by
 unfold eJ;rw[wI l r _ (by omega),List.take_of_length_le (by omega)]
theorem uB{o:List Int}{j:Nat}(h:j<o.length):o.getD j 0∈o:=by
 rw[List.getD_eq_getElem?_getD,List.getElem?_eq_getElem h];exact List.getElem_mem h
theorem Oi{l o:List Int}(h:o.Pairwise (oy l)){j k:Nat}(hjk:j<k)(hk:k<o.length):oy l (o.getD j 0) (o.getD k 0):=by
 rw[List.pairwise_iff_getElem]at h
 rw[List.getD_eq_getElem?_getD,List.getElem?_eq_getElem (by omega),List.getD_eq_getElem?_getD,List.getElem?_eq_getElem hk]
 exact h j k (by omega) hk hjk
theorem zi{l:List Int}{n j:Nat}(h:j<n):0≤(cq l n).getD j 0∧(cq l n).getD j 0<n:=by
 exact(nO l).1 (uB (by rw[iS];exact h))
theorem zj{α:Type}(N:Nat){l:List α}{i:Nat}{x:α}(hi:i≤l.length)(hl:l.length<1000000):gq N l (i:Int) [x]=some (l.take i++x::l.drop i):=by
 unfold gq
 rw[if_pos ⟨by omega,by omega,rfl,by unfold s8;omega⟩]
 rfl
theorem Fm(N:Nat)(K:List Int→List Int→Int→Int→Option (List Int)){l:List Int}(hl:l.length≤100000)(i:Nat)(hi:i<l.length): ∀(p n:Nat),p≤i→p<n→(∀j,p≤j→j<i→qO l ((cq l i).getD j 0)<qO l i)→
  e7.l6 N K n l (cq l i) (i:Int) (p:Int) (l.length:Int) (i:Int)=K l (cq l (i+1)) (l.length:Int) ((i+1:Nat):Int)
 |p,0,_,hn,_=>by omega
 |p,n+1,hp,hn,h=>by
  have hlen:=iS l i
  have fin: ∀h2:(∀j,j<p→qO l i≤qO l ((cq l i).getD j 0)),ins l (cq l i) i=(cq l i).take p++(i:Int)::(cq l i).drop p:=fun h2=>IA l _ _ p (by omega) h2 (fun h3=>h p (by omega) (by omega))
  unfold e7.l6 e7.oI
  match p,hp,hn,h,fin with
  |0,hp,hn,h,fin=>
   have e:=fin (fun j hj=>by omega)
   rw[ax (by omega),cond_false,zj N (by omega) (by omega),Option.bind_some,←e,an (by omega) (by omega)]
   rfl
  |p+1,hp,hn,h,fin=>
   have hr:=zi (l:=l) (n:=i) (j:=p) (by omega)
   have e1:W .i64 (((p+1:Nat):Int)-1)=(p:Int):=by rw[an (by omega) (by omega)];omega
   have sN:=Fm N K hl i hi p n (by omega) (by omega)
   dsimp only
   rw[e1,Int.toNat_natCast]
   unfold qO at*
   rw[Int.toNat_natCast]at*
   rw[aD (by omega),cond_true,aF (by omega) (by omega),cond_true,aF (by omega) (by omega),cond_true,aF (by omega) (by omega),cond_true]
   by_cases h3:l.getD ((cq l i).getD p 0).toNat 0<l.getD i 0
   ·rw[aD h3,cond_true]
    exact sN (fun j h4 h5=>by
     by_cases hjp:j=p
     ·rw[hjp];exact h3
     ·exact h j (by omega) h5)
   ·rw[ax (by omega),cond_false,zj N (by omega) (by omega),Option.bind_some,an (by omega) (by omega)]
    rw[←fin (fun j hj=>by
     by_cases hjp:j=p
     ·rw[hjp];omega
     ·have:=Oi (gI l i) (j:=j) (k:=p) (by omega) (by omega)
      unfold oy qO at this;omega)]
    rfl
theorem BD(N:Nat){l:List Int}(hl:l.length≤100000)(hN:l.length<N): ∀(m n i:Nat),l.length-i≤m→m<n→i≤l.length→
  e7.l3 N n l (cq l i) (l.length:Int) (i:Int)=some (eJ l)
 |m,0,i,_,hn,_=>by omega
 |m,n+1,i,hm,hn,hi=>by
  unfold e7.l3 e7.gZ
  by_cases h:i<l.length
  ·rw[aD (by omega),cond_true,iS,Fm N _ hl i h i N (by omega) (by omega) (fun j _ _=>by omega)]
   exact BD N hl hN (m-1) n (i+1) (by omega) (by omega) (by omega)
  ·rw[ax (by omega),cond_false]
   unfold YQ
   rw[bY (by omega) (by omega) (by omega) (by omega),cond_true,Option.bind_some]
   simp only[Int.toNat_zero,List.drop_zero,Int.toNat_natCast,List.take_length]
   rw[show i=l.length by omega];rfl
theorem Oj(N:Nat){l:List Int}(hl:l.length≤100000)(hN:l.length<N):e7 N l=some (eJ l):=by
 unfold e7 e7.b
 rw[bp (by omega) (by omega) (by omega),cond_true]
 exact BD N hl hN l.length N 0 (by omega) (by omega) (by omega)
theorem BE(N:Nat)(K:List Int→List Int→Int→Option (List Int)){l:List Int}(hl:l.length≤100000)(i:Nat)(hi:i<l.length): ∀(m n p:Nat),i-p≤m→m<n→p≤i→(∀j,j<p→qO l i≤qO l ((cq l i).getD j 0))→
  dj.l6 N K n l (cq l i) (i:Int) (p:Int)=K l (cq l (i+1)) ((i+1:Nat):Int)
 |m,0,p,_,hn,_,_=>by omega
 |m,n+1,p,hm,hn,hp,h=>by
  have hlen:=iS l i
  have fin: ∀h2:(p<i→qO l ((cq l i).getD p 0)<qO l i),dj.j8 N K l (cq l i) (i:Int) (p:Int)=K l (cq l (i+1)) ((i+1:Nat):Int):=fun h2=>by
   have e:=IA l (cq l i) i p (by omega) h (fun h3=>h2 (by omega))
   unfold dj.j8 dj.IC
   dsimp only
   rw[bY (by omega) (by omega) (by omega) (by omega),cond_true,Int.toNat_natCast,Int.toNat_natCast,Int.toNat_zero,List.drop_zero]
   rw[a6 (by rw[List.length_take];omega),cond_true,a6 (by rw[List.length_take];simp only[List.length_singleton];omega),cond_true,bY (by omega) (by omega) (by omega) (by omega),cond_true,a6 (by simp only[List.length_append,List.length_take,List.length_drop,List.length_singleton];omega),cond_true,an (by omega) (by omega),List.take_length,List.append_assoc,List.singleton_append,←e]
   rfl
  unfold dj.l6 dj.oI
  by_cases hpi:p<i
  ·have hr:=zi (l:=l) (n:=i) (j:=p) hpi
   rw[aD (by omega),cond_true,aF (by omega) (by omega),cond_true,Int.toNat_natCast,Int.toNat_natCast,aF (by omega) (by omega),cond_true,aF (by omega) (by omega),cond_true]
   by_cases h3:l.getD i 0≤l.getD ((cq l i).getD p 0).toNat 0
   ·rw[cv h3,cond_true,an (by omega) (by omega)]
    refine BE N K hl i hi (m-1) n (p+1) (by omega) (by omega) (by omega) (fun j hj=> ?_)
    by_cases hjp:j=p
    ·rw[hjp];unfold qO;rw[Int.toNat_natCast];exact h3
    ·exact h j (by omega)
   ·rw[cn (by omega),cond_false]
    exact fin (fun _=>by unfold qO;rw[Int.toNat_natCast];omega)
  ·rw[ax (by omega),cond_false]
   exact fin (fun h=>absurd h hpi)
theorem zk(N:Nat){l:List Int}(hl:l.length≤100000)(hN:l.length<N): ∀(m n i:Nat),l.length-i≤m→m<n→i≤l.length→
  dj.l3 N n l (cq l i) (i:Int)=some (eJ l)
 |m,0,i,_,hn,_=>by omega
 |m,n+1,i,hm,hn,hi=>by
  unfold dj.l3 dj.gZ
  by_cases h:i<l.length
  ·have:=BE N (dj.l3 N n) hl i h i N 0 (by omega) (by omega) (by omega) (fun j hj=>by omega)
   rw[aD (by omega),cond_true]
   refine Eq.trans this ?_
   exact zk N hl hN (m-1) n (i+1) (by omega) (by omega) (by omega)
  ·rw[ax (by omega),cond_false,show i=l.length by omega];rfl
theorem Lx(N:Nat){l:List Int}(hl:l.length≤100000)(hN:l.length<N):dj N l=some (eJ l):=by
 unfold dj dj.b
 exact zk N hl hN l.length N 0 (by omega) (by omega) (by omega)
end VM
end
