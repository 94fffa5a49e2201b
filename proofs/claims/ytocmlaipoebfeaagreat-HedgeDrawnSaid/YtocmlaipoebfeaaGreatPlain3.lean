/- A part of the proof of HedgeDrawn of layer 22: what the functions compute, in plain words. -/
import Derived.Test.YtocmlaipoebfeaaGreatPlain2
import Derived.Test.YtocmlaipoebfeaaGreatVm6
set_option linter.all false
section
namespace VM
open Go VM.F
def EZ(E:ah):Prop:= ∀x∈E,bA (et x)
def fW(r:ca):o0:=(r.1,(r.2.1,(bg (et r),())))
theorem E0(E:ah)(i:Nat):(E.map fW).getD i ((0:Int),((0:Int),(bI,())))=fW (E.getD i aL):=by
 by_cases h:i<E.length
 ·rw[List.getD_eq_getElem?_getD,List.getElem?_map,List.getElem?_eq_getElem h,List.getD_eq_getElem?_getD,List.getElem?_eq_getElem h];rfl
 ·rw[List.getD_eq_getElem?_getD,List.getElem?_eq_none (by rw[List.length_map];omega),List.getD_eq_getElem?_getD,List.getElem?_eq_none (by omega)];rfl
theorem E1{l:ah}(h:EZ l)(i:Nat):bA (et (l.getD i aL)):=by
 by_cases hi:i<l.length
 ·rw[List.getD_eq_getElem?_getD,List.getElem?_eq_getElem hi];exact h _ (List.getElem_mem hi)
 ·rw[List.getD_eq_getElem?_getD,List.getElem?_eq_none (by omega)];exact⟨by decide,by decide⟩
theorem AO{x:Int}(h:aA x):bA x:=by unfold aA at h;unfold bA;omega
theorem qC{ws:List Int}{x:Int}(h: ∀y∈ws,bA y)(hx:bA x): ∀y∈ws++[x],bA y:=fun y hy=>by
 rcases List.mem_append.1 hy with hy|hy
 ·exact h y hy
 ·rw[List.mem_singleton.1 hy];exact hx
theorem Q1(N:Nat){l:ah}:ab9 N l=some l:=Hz N
theorem Q2(N:Nat)(hN:2000000≤N)(K:bF.Dp){E out R:ah}(hq:EZ E)(hl:E.length≤100000)(ho:out.length≤1000000)(r:ca)(hr:aA (et r))(i:Nat)(hi:i≤1000000):
  bF.KV N K N (E.map fW) out r [bg (et r)] R (R.length:Int) (i:Int) (E.map fW) ((E.map fW).length:Int) 0=
   if aA (et r+cf r.1 r.2.1 E)then K (E.map fW) (if et r+cf r.1 r.2.1 E=0 then out else out++[(r.1,(r.2.1,(et r+cf r.1 r.2.1 E,())))]) R (R.length:Int) ((i+1:Nat):Int)else some (aY,(2:Int)):=by
 have:=kD E aL (fun n j ws=>bF.KV N K n (E.map fW) out r (ws.map bg) R (R.length:Int) (i:Int) (E.map fW) ((E.map fW).length:Int) j)
  (fun t ws=>if aA (ws++cm r.1 r.2.1 t).sum then K (E.map fW) (if(ws++cm r.1 r.2.1 t).sum=0 then out else out++[(r.1,(r.2.1,((ws++cm r.1 r.2.1 t).sum,())))]) R (R.length:Int) ((i+1:Nat):Int)else some (aY,(2:Int)))
  (fun j (ws:List Int)=>ws.length≤j+1∧ ∀x∈ws,bA x)
  (fun n j ws hj hI dw=> ?_) (fun n ws hI=> ?_) E.length N 0 [et r] (by omega) (by omega) (by omega) ⟨Nat.le_refl _,fun x hx=>by rw[List.mem_singleton.1 hx];exact AO hr⟩
 ·rw[show((0:Nat):Int)=0 from rfl,List.drop_zero]at this
  refine this.trans ?_
  have e:([et r]++cm r.1 r.2.1 E).sum=et r+cf r.1 r.2.1 E:=by rw[List.singleton_append,List.sum_cons];rfl
  rw[e]
 ·unfold bF.KV bF.HB
  rw[aD (by rw[List.length_map];omega),cond_true,aF (by omega) (by rw[List.length_map];omega),cond_true,Int.toNat_natCast,E0,aZ (by rw[List.length_map,List.length_singleton];omega),cond_true,al (x:=(j:Int)+1) (by omega) (by omega),ae j,au,au]
  by_cases h1:(E.getD j aL).1=r.1
  ·by_cases h2:(E.getD j aL).2.1=r.2.1
   ·have hc:cm r.1 r.2.1 (E.getD j aL::E.drop (j+1))=et (E.getD j aL)::cm r.1 r.2.1 (E.drop (j+1)):=by rw[df,if_pos ⟨h1,h2⟩]
    rw[if_pos (show(fW (E.getD j aL)).1=r.1 from h1),if_pos (show(fW (E.getD j aL)).2.1=r.2.1 from h2),hc]
    have:=dw (ws++[et (E.getD j aL)]) ⟨by rw[List.length_append,List.length_singleton];omega,qC hI.2 (E1 hq j)⟩
    rw[List.map_append]at this
    refine this.trans ?_
    rw[List.append_assoc];rfl
   ·have hc:cm r.1 r.2.1 (E.getD j aL::E.drop (j+1))=cm r.1 r.2.1 (E.drop (j+1)):=by rw[df,if_neg (fun h=>h2 h.2)]
    rw[if_pos (show(fW (E.getD j aL)).1=r.1 from h1),if_neg (show ¬(fW (E.getD j aL)).2.1=r.2.1 from h2),hc]
    exact dw ws ⟨by omega,hI.2⟩
  ·have hc:cm r.1 r.2.1 (E.getD j aL::E.drop (j+1))=cm r.1 r.2.1 (E.drop (j+1)):=by rw[df,if_neg (fun h=>h1 h.1)]
   rw[if_neg (show ¬(fW (E.getD j aL)).1=r.1 from h1),hc]
   exact dw ws ⟨by omega,hI.2⟩
 ·unfold bF.KV bF.HB
  rw[ax (by rw[List.length_map];omega),cond_false,zq N hI.2 (by omega) (by omega),Option.bind_some]
  show _=if aA (ws++[]).sum then K (E.map fW) (if(ws++[]).sum=0 then out else out++[(r.1,(r.2.1,((ws++[]).sum,())))]) R (R.length:Int) ((i+1:Nat):Int)else some (aY,(2:Int))
  rw[List.append_nil]
  unfold Ho
  by_cases h0:bA ws.sum
  ·rw[if_pos h0]
   dsimp only
   rw[vI N h0,Option.bind_some,Bool.not_true,cond_false]
   by_cases h1:aA ws.sum
   ·rw[oZ h1]
    dsimp only
    rw[Bool.not_true,cond_false,cond_not,au,aZ (by rw[List.length_singleton];omega),cond_true,al (x:=(i:Int)+1) (by omega) (by omega),ae i,if_pos h1]
    split<;>rfl
   ·rw[qz h1,if_neg h1]
    rfl
  ·rw[if_neg h0,if_neg (fun h=>h0 (AO h))]
   have e:Hn N bI=some (yR 0):=vI N (v:=0) ⟨by decide,by decide⟩
   dsimp only
   rw[e,Option.bind_some]
   rfl
theorem Ot(N:Nat)(hN:2000000≤N){l E R:ah}(hq:EZ E)(hl:E.length≤100000)(hR:R.length≤200000)(hv: ∀r∈R,aA (et r)∧et r=cf r.1 r.2.1 l):
  bF.UB N N (E.map fW) [] R (R.length:Int) 0=qy (dR aA (fS l E) (R.map keyOf)):=by
 have:=kD R aL (fun n i out=>bF.UB N n (E.map fW) out R (R.length:Int) i) (fun t out=>qy ((dR aA (fS l E) (t.map keyOf)).map (fun o=>out++o))) (fun i (out:ah)=>out.length≤i)
  (fun n i out hi hI hr=> ?_) (fun n out hI=> ?_) R.length N 0 [] (by omega) (by omega) (by omega) (Nat.le_refl _)
 ·rw[show((0:Nat):Int)=0 from rfl,List.drop_zero]at this
  refine this.trans ?_
  simp
 ·unfold bF.UB bF.UC
  have hm:R.getD i aL∈R:=by
   rw[List.getD_eq_getElem?_getD,List.getElem?_eq_getElem hi];exact List.getElem_mem hi
  have PN:=hv _ hm
  have js:=PN.1
  have fp:=js
  unfold aA et at fp
  rw[aD (by omega),cond_true,aF (by omega) (by omega),cond_true,Int.toNat_natCast,mw N fp.1 fp.2,Option.bind_some]
  refine(Q2 N hN _ hq hl (by omega) _ js i (by omega)).trans ?_
  rw[List.map_cons,k4]
  have ef:fS l E (keyOf (R.getD i aL)).1 (keyOf (R.getD i aL)).2=et (R.getD i aL)+cf (R.getD i aL).1 (R.getD i aL).2.1 E:=by
   show cf _ _ l+cf _ _ E=_
   rw[PN.2];rfl
  rw[ef]
  generalize hS:et (R.getD i aL)+cf (R.getD i aL).1 (R.getD i aL).2.1 E=v
  by_cases hF:aA v
  ·rw[if_pos hF,if_pos hF,hr _ (by
    split
    ·omega
    ·rw[List.length_append,List.length_singleton];omega)]
   cases dR aA (fS l E) ((R.drop (i+1)).map keyOf)with
   |none=>rfl
   |some o=>
    show qy (some _)=qy (some _)
    congr 2
    split
    ·rfl
    ·exact List.append_assoc _ _ _
  ·rw[if_neg hF,if_neg hF];rfl
 ·unfold bF.UB bF.UC
  rw[ax (by omega),cond_false,Q1,Option.bind_some]
  show _=qy (some (out++[]))
  rw[List.append_nil];rfl
theorem aac(N:Nat)(C:bF.ju){l:ah}{E S:cF}{K:List cT}(hs:sT K)(hl:K.length≤100000)(hf: ∀k∈K,vK k)(x:o0)(k:cT)(hxk:(x.1,x.2.1)=k)(hx:vK k)(hz:zeroAt l K k)(len:Int)(i:Nat)(hi:i≤1000000):
  ∀(m n p:Nat),K.length-p≤m→m<n→p≤K.length→(∀y∈K.take p,pn y k)→
   bF.Ou N C n E (rowsOf l K) x (p:Int) S len (i:Int)=C E (rowsOf l (K.take p++sj k (K.drop p))) S len ((i+1:Nat):Int)
 |m,0,p,_,hn,_,_=>by omega
 |m,n+1,p,hm,hn,hp,hb=>by
  unfold bF.Ou bF.KW bF.Pw bF.KA
  rw[cZ,al (x:=(i:Int)+1) (by omega) (by omega),ae i]
  have ex:((x.1,(x.2.1,((0:Int),()))):ca)=(k.1,(k.2,((0:Int),()))):=by rw[←hxk]
  by_cases h:p<K.length
  ·have hfk:=hf (K.getD p (0,0)) (by rw[List.getD_eq_getElem?_getD,List.getElem?_eq_getElem h];exact List.getElem_mem h)
   have ho:KG N x.1 x.2.1 ((rowsOf l K).getD p aL)=some (wQ k.1 k.2 (K.getD p (0,0)).1 (K.getD p (0,0)).2):=by
    rw[Dh l h]
    rw[←hxk]at hx ⊢
    exact AA N hx.1 hx.2 hfk.1 hfk.2
   rw[aD (by omega),cond_true,aF (by omega) (by omega),cond_true,Int.toNat_natCast,ho,Option.bind_some,cG (x:=(p:Int)) (by omega),cond_false,cond_true,Option.bind_some,aJ,cond_not,au,MO h]
   by_cases h1:pn (K.getD p (0,0)) k
   ·rw[if_pos (vJ.2 h1),if_pos h1,al (x:=(p:Int)+1) (by omega) (by omega),ae p,vL h]
    refine aac N C hs hl hf x k hxk hx hz len i hi (m-1) n (p+1) (by omega) (by omega) (by omega) fun y hy=> ?_
    rw[←List.take_append_getElem h]at hy
    rcases List.mem_append.1 hy with hy|hy
    ·exact hb y hy
    ·rw[List.getD_eq_getElem?_getD,List.getElem?_eq_getElem h]at h1
     rw[List.mem_singleton.1 hy];exact h1
   ·rw[if_neg (fun h=>h1 (vJ.1 h)),if_neg h1]
    by_cases h2:K.getD p (0,0)=k
    ·rw[if_pos (sV.2 h2),if_pos h2,List.take_append_drop]
    ·rw[if_neg (fun h=>h2 (sV.1 h)),if_neg h2,zv N (by rw[cZ];omega) (by rw[cZ];omega),Option.bind_some]
     have BV:=hz (qB hs hb (MP hs h h1 h2))
     have e:=qA l K p k
     rw[←sW BV]at e
     refine Eq.trans ?_ (congrArg (fun R=>C E R S len ((i+1:Nat):Int)) e)
     exact congrArg (fun z:ca=>C E ((rowsOf l K).take p++z::(rowsOf l K).drop p) S len ((i+1:Nat):Int)) ex
  ·have hd:K.drop p=[]:=List.drop_eq_nil_of_le (by omega)
   rw[ax (by omega),cond_false,cM (by omega),cond_true,zv N (by rw[cZ];omega) (by rw[cZ];omega),Option.bind_some]
   have BV:=hz (qB hs hb (by rw[hd];exact fun x hx=>nomatch hx))
   have e:=qA l K p k
   rw[←sW BV]at e
   have e2:sj k (K.drop p)=k::K.drop p:=by rw[hd];rfl
   rw[e2]
   refine Eq.trans ?_ (congrArg (fun R=>C E R S len ((i+1:Nat):Int)) e)
   exact congrArg (fun z:ca=>C E ((rowsOf l K).take p++z::(rowsOf l K).drop p) S len ((i+1:Nat):Int)) ex
theorem Ov(N:Nat)(hN:2000000≤N){l E:ah}(hq:EZ E)(hE:E.length≤400)(hp: ∀x∈E,vK (keyOf x))(hs:sT (l.map keyOf))(hl:l.length≤90000)(QY:dz l)(Cw: ∀x∈l,vK (keyOf x)):
  bF.tg N N (E.map fW) l (E.map fW) ((E.map fW).length:Int) 0=qy (dR aA (fS l E) (kg (l.map keyOf) E)):=by
 have:=kD E aL (fun n i K=>bF.tg N n (E.map fW) (rowsOf l K) (E.map fW) ((E.map fW).length:Int) i) (fun t K=>qy (dR aA (fS l E) (kg K t)))
  (fun i (K:List cT)=>K.length≤l.length+i∧sT K∧(∀k∈K,vK k)∧ ∀x∈l,keyOf x∈K)
  (fun n i K hi hI hr=> ?_) (fun n K hI=> ?_) E.length N 0 (l.map keyOf) (by omega) (by omega) (by omega) ⟨by rw[List.length_map];omega,hs,fun k hk=>by
   obtain⟨x,hx,rfl⟩:=List.mem_map.1 hk
   exact Cw x hx,fun x hx=>List.mem_map_of_mem hx⟩
 ·rw[show((0:Nat):Int)=0 from rfl,List.drop_zero]at this
  simp only[jt hs]at this
  exact this
 ·unfold bF.tg bF.sg
  obtain⟨h1,h2,h3,h4⟩:=hI
  have hm:E.getD i aL∈E:=by
   rw[List.getD_eq_getElem?_getD,List.getElem?_eq_getElem hi];exact List.getElem_mem hi
  rw[aD (by rw[List.length_map];omega),cond_true,aF (by omega) (by rw[List.length_map];omega),cond_true,Int.toNat_natCast,E0]
  refine(aac N _ h2 (by omega) h3 (fW (E.getD i aL)) (keyOf (E.getD i aL)) rfl (hp _ hm) (fun hk=>ei fun hx=>hk (by
   obtain⟨x,hx,e⟩:=List.mem_map.1 hx
   rw[←e];exact h4 x hx)) ((E.map fW).length:Int) i (by omega) K.length N 0 (by omega) (by omega) (by omega) (fun y hy=>nomatch hy)).trans ?_
  rw[List.take_zero,List.nil_append,List.drop_zero,oY]
  refine hr (sj (keyOf (E.getD i aL)) K) ⟨Nat.le_trans (AN _ K) (by omega),vH h2,fun k hk=>(nQ.1 hk).elim (fun e=>e▸hp _ hm) (h3 k),fun x hx=>nQ.2 (Or.inr (h4 x hx))⟩
 ·unfold bF.tg bF.sg
  obtain⟨h1,h2,h3,h4⟩:=hI
  rw[ax (by rw[List.length_map];omega),cond_false,cZ,bG (by omega) (by omega) (by omega),cond_true]
  have:=Ot N hN (l:=l) (R:=rowsOf l K) hq (by omega) (by rw[cZ];omega) (fun r hr=>by
   unfold rowsOf at hr
   obtain⟨k,hk,rfl⟩:=List.mem_map.1 hr
   refine⟨?_,rfl⟩
   show aA (cf k.1 k.2 l)
   by_cases hkl:k∈l.map keyOf
   ·have e:rowsOf l (l.map keyOf)=l:=jt hs
    have hm:yX l k∈rowsOf l (l.map keyOf):=List.mem_map_of_mem hkl
    rw[e]at hm
    exact QY (yX l k) hm
   ·rw[ei hkl];exact⟨by decide,by decide⟩)
  rw[xZ,cZ]at this
  exact this
theorem uu{l:ah}(h:e7 l=true):sT (l.map keyOf)∧(∀x∈l,dW x.1 x.2.1):=by
 unfold e7 at h
 rw[Bool.and_true]at h
 have h':=of_decide_eq_true h
 have get: ∀(i:Nat) (hi:i<l.length),l.getD i aL=l[i]:=fun i hi=>by rw[List.getD_eq_getElem?_getD,List.getElem?_eq_getElem hi];rfl
 have QZ: ∀i,i+1<l.length→pn (keyOf (l.getD i aL)) (keyOf (l.getD (i+1) aL)):=fun i hi=>(h' (i+1) hi).2.2 (by omega)
 have dD: ∀j,j<l.length→ ∀i,i<j→pn (keyOf (l.getD i aL)) (keyOf (l.getD j aL)):=by
  intro j
  induction j with
  |zero=>intro _ i hi;omega
  |succ j ih=>
   intro hj i hi
   by_cases e:i=j
   ·rw[e];exact QZ j hj
   ·exact sU (ih (by omega) i (by omega)) (QZ j hj)
 refine⟨?_,fun x hx=> ?_⟩
 ·refine List.pairwise_map.2 (List.pairwise_iff_getElem.2 fun i j hi hj oH=> ?_)
  have:=dD j hj i oH
  rw[get i hi,get j hj]at this
  exact this
 ·obtain⟨i,hi,e⟩:=List.getElem_of_mem hx
  have:=h' i hi
  unfold iG iY at this
  rw[get i hi,e]at this
  exact this.1
structure MR(E:ah):Prop where
 key: ∀x∈E,dW x.1 x.2.1
 q:EZ E
 len:E.length≤400
 zero:(E.map et).sum=0
theorem MS{x:ca}(h:dW x.1 x.2.1):vK (keyOf x):=by
 have h':dW (keyOf x).1 (keyOf x).2:=h
 unfold dW at h'
 unfold vK Cr
 omega
theorem Q3(N:Nat)(hN:2000000≤N){l E:ah}(hk:e7 l=true)(hl:l.length≤90000)(QY:dz l)(g:MR E):bF N l (E.map fW)=qy (dR aA (fS l E) (kg (l.map keyOf) E)):=by
 obtain⟨hs,Cw⟩:=uu hk
 have hE:=g.len
 unfold bF bF.b
 rw[zs N (by omega) (by omega),hk,Option.bind_some,Bool.not_true,cond_false,ax (by rw[List.length_map];omega),cond_false,bG (by omega) (by omega) (by rw[List.length_map];omega),cond_true]
 have:=kD E aL (fun n i (ws:List Int)=>bF.l5 N n l (E.map fW) (ws.map bg) (E.map fW) ((E.map fW).length:Int) i)
  (fun t ws=>if(ws++t.map et).sum=0 then qy (dR aA (fS l E) (kg (l.map keyOf) E))else none)
  (fun j (ws:List Int)=>ws.length≤j∧(ws++(E.drop j).map et).sum=0∧ ∀x∈ws,bA x)
  (fun n i ws hi hI hr=> ?_) (fun n ws hI=> ?_) E.length N 0 [] (by omega) (by omega) (by omega) ⟨Nat.le_refl _,g.zero,fun x hx=>nomatch hx⟩
 ·rw[show((0:Nat):Int)=0 from rfl,List.drop_zero]at this
  refine Eq.trans this ?_
  rw[List.nil_append,if_pos g.zero]
 ·unfold bF.l5 bF.c5
  have hm:E.getD i aL∈E:=by
   rw[List.getD_eq_getElem?_getD,List.getElem?_eq_getElem hi];exact List.getElem_mem hi
  have TY:KE N (fW (E.getD i aL)).1 (fW (E.getD i aL)).2.1=some true:=by
   rw[KD]
   exact congrArg some (decide_eq_true (g.key _ hm))
  rw[aD (by rw[List.length_map];omega),cond_true,aF (by omega) (by rw[List.length_map];omega),cond_true,Int.toNat_natCast,E0,TY,Option.bind_some,Bool.not_true,cond_false,aZ (by rw[List.length_map,List.length_singleton];omega),cond_true,al (x:=(i:Int)+1) (by omega) (by omega),ae i]
  have h0:=hI.2.1
  rw[drop_cons hi aL,List.map_cons]at h0
  have:=hr (ws++[et (E.getD i aL)]) ⟨by rw[List.length_append,List.length_singleton];omega,by rw[List.append_assoc];exact h0,qC hI.2.2 (E1 g.q i)⟩
  rw[List.map_append]at this
  refine this.trans ?_
  rw[List.append_assoc];rfl
 ·unfold bF.l5 bF.c5
  have h0:=hI.2.1
  rw[List.drop_length,List.map_nil,List.append_nil]at h0
  rw[ax (by rw[List.length_map];omega),cond_false,zq N hI.2.2 (by omega) (by omega),Option.bind_some,h0]
  have e0:Ho 0=(bg 0,true):=by unfold Ho;exact if_pos ⟨by decide,by decide⟩
  rw[e0]
  dsimp only
  rw[Bool.not_true,cond_false,nP,Option.bind_some,show lL 0=0 from rfl,cM rfl,Bool.not_true,cond_false,sk N (by omega),Option.bind_some]
  rw[List.map_nil,List.append_nil,if_pos h0]
  exact Ov N hN g.q hE (fun x hx=>MS (g.key x hx)) hs hl QY (fun x hx=>MS (Cw x hx))
end VM
end
section
namespace VM
open Go VM.F
def iH(r:ca):aca:=(r.1,(r.2.1,(bn (et r),())))
theorem Q4{E:ah}{i:Nat}(h:i<E.length):(E.map iH).getD i ((0:Int),((0:Int),((false,kQ),())))=iH (E.getD i aL):=by
 rw[List.getD_eq_getElem?_getD,List.getElem?_map,List.getElem?_eq_getElem h,List.getD_eq_getElem?_getD,List.getElem?_eq_getElem h];rfl
theorem KX{v:Int}{n:Nat}(hn:n≤1000000)(h0: -(170141183460469231731687303715884105728*(n:Int))≤v)(h1:v≤170141183460469231731687303715884105728*(n:Int)):Fit v 900000:=by
 have h5:Fit v 5:=by
  unfold Fit
  rw[show(4294967296:Nat)^5=1461501637330902918203684832716283019655932542976 from rfl]
  omega
 exact h5.mono (by omega)
theorem g7{v:Int}(h:bA v):Fit v 900000:=KX (n:=1) (by omega) (by have:=h.1;omega) (by have:=h.2;omega)
theorem Ow(N:Nat)(hN:4000000≤N){E:ah}(hq:EZ E)(hl:E.length≤100000)(q a b:Int)(hF:aA q):ki N q a b (E.map iH)=some (yR (q+cf a b E)):=by
 unfold ki ki.b
 have:=kD E aL (fun n j ws=>ki.l3 N n q a b (E.map iH) (bn ws.sum) (!ws.isEmpty) j)
  (fun t ws=>some (yR (q+(ws++cm a b t).sum)))
  (fun j (ws:List Int)=>ws.length≤j∧ ∀x∈ws,bA x)
  (fun n j ws hj hI dw=> ?_) (fun n ws hI=> ?_) E.length N 0 [] (by omega) (by omega) (by omega) ⟨Nat.le_refl _,fun x hx=>nomatch hx⟩
 ·rw[show((0:Nat):Int)=0 from rfl,List.drop_zero,List.sum_nil,ej]at this
  exact this
 ·unfold ki.l3 ki.jP
  have HC:=E1 hq j
  have hb:=KC hI.2
  have z5:tF N (bn ws.sum) (iH (E.getD j aL)).2.2.1=some (bn (ws.sum+et (E.getD j aL))):=eG N (by omega) (KX (n:=ws.length) (by omega) hb.1 hb.2) (g7 HC)
  rw[aD (by rw[List.length_map];omega),cond_true,aF (by omega) (by rw[List.length_map];omega),cond_true,cond_true,cond_true,Int.toNat_natCast,Q4 hj,z5,Option.bind_some,al (x:=(j:Int)+1) (by omega) (by omega),ae j,au,au]
  by_cases h1:(E.getD j aL).1=a
  ·by_cases h2:(E.getD j aL).2.1=b
   ·have hc:cm a b (E.getD j aL::E.drop (j+1))=et (E.getD j aL)::cm a b (E.drop (j+1)):=by rw[df,if_pos ⟨h1,h2⟩]
    rw[if_pos (show(iH (E.getD j aL)).1=a from h1),if_pos (show(iH (E.getD j aL)).2.1=b from h2),hc]
    have:=dw (ws++[et (E.getD j aL)]) ⟨by rw[List.length_append,List.length_singleton];omega,qC hI.2 HC⟩
    rw[List.sum_append,List.sum_cons,List.sum_nil,Int.add_zero,List.append_assoc]at this
    refine Eq.trans ?_ this
    rw[show(!(ws++[et (E.getD j aL)]).isEmpty)=true by cases ws<;>rfl]
   ·have hc:cm a b (E.getD j aL::E.drop (j+1))=cm a b (E.drop (j+1)):=by rw[df,if_neg (fun h=>h2 h.2)]
    rw[if_pos (show(iH (E.getD j aL)).1=a from h1),if_neg (show ¬(iH (E.getD j aL)).2.1=b from h2),hc]
    exact dw ws ⟨by omega,hI.2⟩
  ·have hc:cm a b (E.getD j aL::E.drop (j+1))=cm a b (E.drop (j+1)):=by rw[df,if_neg (fun h=>h1 h.1)]
   rw[if_neg (show ¬(iH (E.getD j aL)).1=a from h1),hc]
   exact dw ws ⟨by omega,hI.2⟩
 ·unfold ki.l3 ki.jP
  have hs:=KC hI.2
  have MJ:=hF
  unfold aA at MJ
  rw[ax (by rw[List.length_map];omega),cond_false,cj N (by omega) MJ.1 MJ.2,Option.bind_some,eG N (by omega) (KX (n:=ws.length) (by omega) hs.1 hs.2) ((Fit.i64 MJ.1 MJ.2).mono (by omega)),Option.bind_some,nM,Option.bind_some,cond_not]
  show _=some (yR (q+(ws++[]).sum))
  rw[List.append_nil,Int.add_comm ws.sum q]
  cases ws with
  |nil=>
   show some (q,true)=some (yR (q+0))
   rw[Int.add_zero,oZ hF]
  |cons w ws=>rfl
theorem UD{l:ah}(hs:sT (l.map keyOf))(hl:dz l)(k:cT):aA (cf k.1 k.2 l):=by
 by_cases hk:k∈l.map keyOf
 ·have hm:yX l k∈rowsOf l (l.map keyOf):=List.mem_map_of_mem hk
  rw[jt hs]at hm
  exact hl (yX l k) hm
 ·rw[ei hk];exact⟨by decide,by decide⟩
theorem HD(N:Nat)(hN:4000000≤N)(C:cH.aW){l E:ah}(hq:EZ E)(hl:E.length≤100000)(hs:sT (l.map keyOf))(Kp:l.length≤100000)(hf:dz l)(hw: ∀x∈l,0≤(keyOf x).2∧(keyOf x).2<(25:Nat))(a:Nat)(ha:a≤24)(G:List cT)
  (hc: ∀(p:Nat) (out:ah),Mark l (a+1) 0 p→out.length≤25*(a+1)→C l (E.map iH) out (p:Int) ((a+1:Nat):Int)=sl out (dR aA (fS l E) G)):
  ∀(m n b p:Nat) (out:ah),b+m=25→m<n→Mark l a b p→out.length≤25*a+b→cH.l7 N C n l (E.map iH) out (p:Int) (a:Int) (b:Int)=sl out (dR aA (fS l E) (vM a b m++G))
 |m,0,b,p,out,_,hn,_,_=>by omega
 |0,n+1,b,p,out,hb,_,hM,ho=>by
  have e:b=25:=by omega
  subst e
  unfold cH.l7 cH.mq
  rw[cL (by omega),cond_false,al (x:=(a:Int)+1) (by omega) (by omega),ae a]
  exact hc p out (hM.row hw) (by omega)
 |m+1,n+1,b,p,out,hb,hn,hM,ho=>by
  have hp:=hM.le
  have ab8: ∀(p:Nat) (v:Int),Mark l a (b+1) p→cH.l7 N C n l (E.map iH) (if v=0 then out else out++[((a:Int),((b:Int),(v,())))]) (p:Int) (a:Int) ((b+1:Nat):Int)=sl (if v=0 then out else out++[((a:Int),((b:Int),(v,())))]) (dR aA (fS l E) (vM a (b+1) m++G)):=fun p v h=>
   HD N hN C hq hl hs Kp hf hw a ha G hc m n (b+1) p _ (by omega) (by omega) h (by
    split
    ·omega
    ·rw[List.length_append,List.length_singleton];omega)
  have NG:=UD hs hf ((a:Int),(b:Int))
  unfold cH.l7 cH.mq
  show _=sl out (dR aA (fS l E) (((a:Int),(b:Int))::(vM a (b+1) m++G)))
  rw[cS (x:=(b:Int)) (by omega),cond_true,aJ,au,au,Int.toNat_natCast]
  have fin: ∀(p:Nat) (q:Int),q=cf (a:Int) (b:Int) l→Mark l a (b+1) p→cH.EN N C (cH.l7 N C n) l (E.map iH) out (p:Int) (a:Int) (b:Int) q=sl out (dR aA (fS l E) (((a:Int),(b:Int))::(vM a (b+1) m++G))):=fun p q e h=>by
   subst e
   unfold cH.EN cH.vv
   rw[Ow N hN hq hl _ _ _ NG,Option.bind_some]
   refine Eq.trans ?_ (Dl (k:=((a:Int),(b:Int))) (v:=cf (a:Int) (b:Int) l+cf (a:Int) (b:Int) E) rfl)
   generalize cf (a:Int) (b:Int) l+cf (a:Int) (b:Int) E=v
   have hr:=ab8 p v h
   by_cases hv:aA v
   ·rw[oZ hv,if_pos hv]
    dsimp only
    rw[Bool.not_true,cond_false,cond_not,au,aZ (by rw[List.length_singleton];omega),cond_true,al (x:=(b:Int)+1) (by omega) (by omega),ae b,←hr]
    split<;>rfl
   ·rw[qz hv,if_neg hv];rfl
  rcases hM.step hs with⟨h1,h2,h3,h4,h5⟩|⟨h1,h2,h3⟩
  ·rw[if_pos (show(p:Int)<(l.length:Int)by omega),aF (by omega) (by omega),cond_true,cond_true,if_pos h2,if_pos h3,al (x:=(p:Int)+1) (by omega) (by omega),ae p,cond_true]
   exact fin (p+1) _ h4.symm h5
  ·by_cases g1:p<l.length
   ·rw[if_pos (show(p:Int)<(l.length:Int)by omega),aF (by omega) (by omega),cond_true,cond_true]
    by_cases g2:(l.getD p aL).1=(a:Int)
    ·rw[if_pos g2,if_neg (fun g3=>h1 g1 g2 g3)]
     exact fin p _ h2.symm h3
    ·rw[if_neg g2]
     exact fin p _ h2.symm h3
   ·rw[if_neg (show ¬(p:Int)<(l.length:Int)by omega)]
    exact fin p _ h2.symm h3
theorem HE(N:Nat)(hN:4000000≤N){l E:ah}(hq:EZ E)(hl:E.length≤100000)(hs:sT (l.map keyOf))(Kp:l.length≤100000)(hf:dz l)(hw: ∀x∈l,0≤(keyOf x).2∧(keyOf x).2<(25:Nat)):
  ∀(m n a p:Nat) (out:ah),a+m=8→m<n→Mark l a 0 p→out.length≤25*a→cH.l4 N n l (E.map iH) out (p:Int) (a:Int)=sl out (dR aA (fS l E) (tJ 25 a m))
 |m,0,a,p,out,_,hn,_,_=>by omega
 |0,n+1,a,p,out,ha,_,hM,ho=>by
  unfold cH.l4 cH.cA
  rw[cL (by omega),cond_false]
  show some (out,true)=some (out++[],true)
  rw[List.append_nil]
 |m+1,n+1,a,p,out,ha,hn,hM,ho=>by
  unfold cH.l4 cH.cA
  rw[cS (by omega),cond_true]
  exact HD N hN _ hq hl hs Kp hf hw a (by omega) (tJ 25 (a+1) m) (fun p out h ho=>HE N hN hq hl hs Kp hf hw m n (a+1) p out (by omega) (by omega) h ho) 25 N 0 p out (by omega) (by omega) hM (by omega)
def AP:List cT:=tJ 25 1 7
theorem UE(N:Nat)(hN:4000000≤N){l E:ah}(hk:e7 l=true)(hl:l.length≤90000)(QY:dz l)(hq:EZ E)(hE:E.length≤100000):cH N l (E.map iH)=sl [] (dR aA (fS l E) AP):=by
 obtain⟨hs,Cw⟩:=uu hk
 unfold cH cH.b
 refine HE N hN hq hE hs (by omega) QY (fun x hx=> ?_) 7 N 1 0 [] (by omega) (by omega) ⟨by omega,fun x hx=>(nomatch hx),fun x hx dD=> ?_⟩ (by simp)
 ·have h:dW (keyOf x).1 (keyOf x).2:=Cw x hx
  unfold dW at h;omega
 ·have h:dW (keyOf x).1 (keyOf x).2:=Cw x (List.mem_of_mem_drop hx)
  unfold dW at h
  have rO:(keyOf x).1<((1:Nat):Int)∨((keyOf x).1=((1:Nat):Int)∧(keyOf x).2<((0:Nat):Int)):=dD
  omega
theorem Q5{l E:ah}(hk:e7 l=true)(hp: ∀x∈E,dW x.1 x.2.1):dR aA (fS l E) (kg (l.map keyOf) E)=dR aA (fS l E) AP:=by
 obtain⟨hs,Cw⟩:=uu hk
 refine Hy ⟨by decide,by decide⟩ (uq hs) (wY 25 7 1) (fun k hk=> ?_) (fun k hk hn=> ?_)
 ·have:dW k.1 k.2:=by
   rcases je.1 hk with h|⟨x,hx,rfl⟩
   ·obtain⟨x,hx,rfl⟩:=List.mem_map.1 h
    exact Cw x hx
   ·exact hp x hx
  unfold dW at this
  exact sX.2 (by omega)
 ·have h1:k∉l.map keyOf:=fun h=>hn (je.2 (Or.inl h))
  have h2:k∉E.map keyOf:=fun h=>by
   obtain⟨x,hx,e⟩:=List.mem_map.1 h
   exact hn (je.2 (Or.inr ⟨x,hx,e⟩))
  unfold fS
  rw[ei h1,ei h2];rfl
def gm(b:af)(s e:ah):af×Int:=
 match dR Fq (fS b.2.2.2.1 s) ur with
 |none=>((bK,(cg,(aY,(aY,(cD,(cJ,())))))),2)
 |some s'=>match dR aA (fS b.2.2.1 e) AP with
  |none=>((bK,(cg,(aY,(aY,(cD,(cJ,())))))),2)
  |some r'=>((b.1,(b.2.1,(r',(s',b.2.2.2.2)))),0)
theorem Q6(N:Nat){b:af}(w:eM b):UF N b=some b:=by
 unfold UF
 have h1:=w.m;have h2:=w.a;have h3:=w.r;have h4:=w.s;have h5:=w.p;have h6:=w.o
 rw[sk N (by omega),Option.bind_some,sk N (by omega),Option.bind_some,sk N (by omega),Option.bind_some,sk N (by omega),Option.bind_some,sk N (by omega),Option.bind_some,sk N (by omega),Option.bind_some]
end VM
end
section
namespace VM
open Go VM.F
theorem Q7(N:Nat)(hN:2000000≤N){b:af}{s e:ah}(w:eM b)(hr:e7 b.2.2.1=true)(hs:dh b.2.2.2.1=true)(lr:b.2.2.1.length≤90000)(ls:b.2.2.2.1.length≤90000)(gs:MQ s)(ge:MR e):
  F65 N b s (e.map fW)=some (gm b s e):=by
 unfold F65 gm
 rw[Q6 N w,Option.bind_some,UA N hN hs ls w.qs gs,Q3 N hN hr lr w.qr ge,Oq hs gs.place,Q5 hr ge.key]
 unfold qy
 rw[Option.bind_some,Option.bind_some]
 have e1:ay 2 0=false:=cG (by omega)
 have e2:ay 0 0=true:=cM rfl
 cases dR Fq (fS b.2.2.2.1 s) ur with
 |none=>dsimp only;rw[e1];rfl
 |some s'=>
  cases dR aA (fS b.2.2.1 e) AP with
  |none=>dsimp only;rw[e1,e2];rfl
  |some r'=>dsimp only;rw[e2];rfl
theorem UG(N:Nat)(hN:4000000≤N){b:af}{s e:ah}(w:eM b)(hr:e7 b.2.2.1=true)(hs:dh b.2.2.2.1=true)(lr:b.2.2.1.length≤90000)(ls:b.2.2.2.1.length≤90000)(gs:MQ s)(ge:MR e):
  wZ N b s (e.map iH)=some (gm b s e):=by
 have h1:=gs.len
 have h2:=ge.len
 unfold wZ gm
 rw[KU N hN hs ls w.qs (fun x hx=>(gs.q x hx).1) (by omega),UE N hN hr lr w.qr ge.q (by omega)]
 unfold sl
 rw[Option.bind_some,Option.bind_some]
 cases dR Fq (fS b.2.2.2.1 s) ur with
 |none=>rfl
 |some s'=>
  cases dR aA (fS b.2.2.1 e) AP with
  |none=>rfl
  |some r'=>rfl
theorem UH(N:Nat)(C:ec.aW){l:aE}(hl:l.length≤100000)(i:Nat)(hi:i<l.length): ∀(m n k:Nat),i-k≤m→m<n→k≤i→(l.take k).any (tI (l.getD i aK).2.2.1 (l.getD i aK).2.1)=false→
  ec.l9 N C n l (i:Int) (k:Int)=cond ((l.take i).any (tI (l.getD i aK).2.2.1 (l.getD i aK).2.1)) (some false) (C l ((i+1:Nat):Int))
 |m,0,k,_,hn,_,_=>by omega
 |m,n+1,k,hm,hn,hk,hb=>by
  unfold ec.l9 ec.tG
  by_cases h:k<i
  ·have vx:=UH N C hl i hi (m-1) n (k+1) (by omega) (by omega) (by omega)
   have ht:(l.take (k+1)).any (tI (l.getD i aK).2.2.1 (l.getD i aK).2.1)=tI (l.getD i aK).2.2.1 (l.getD i aK).2.1 (l.getD k aK):=by
    have ek:l.getD k aK=l[k]'(by omega):=by rw[List.getD_eq_getElem?_getD,List.getElem?_eq_getElem (show k<l.length by omega)];rfl
    rw[←List.take_append_getElem (show k<l.length by omega),List.any_append,hb,ek,List.any_cons,List.any_nil,Bool.or_false,Bool.false_or]
   have gC:tI (l.getD i aK).2.2.1 (l.getD i aK).2.1 (l.getD k aK)=true→(l.take i).any (tI (l.getD i aK).2.2.1 (l.getD i aK).2.1)=true:=fun hh=>by
    refine List.any_eq_true.2 ⟨l.getD k aK,?_,hh⟩
    rw[List.getD_eq_getElem?_getD,List.getElem?_eq_getElem (show k<l.length by omega)]
    exact List.mem_take_iff_getElem.2 ⟨k,by omega,rfl⟩
   rw[aD (by omega),cond_true,aF (by omega) (by omega),cond_true,aF (by omega) (by omega),cond_true,cond_true,cond_true,Int.toNat_natCast,Int.toNat_natCast,au,au,al (x:=(k:Int)+1) (by omega) (by omega),ae k]
   by_cases h1:(l.getD k aK).2.2.1=(l.getD i aK).2.2.1
   ·by_cases h2:(l.getD k aK).2.1=(l.getD i aK).2.1
    ·rw[if_pos h1,if_pos h2,gC (by unfold tI gf;rw[decide_eq_true h1,decide_eq_true h2];rfl)];rfl
    ·rw[if_pos h1,if_neg h2]
     exact vx (by rw[ht];unfold tI gf;rw[decide_eq_false h2,Bool.and_false])
   ·rw[if_neg h1]
    exact vx (by rw[ht];unfold tI gf;rw[decide_eq_false h1,Bool.false_and])
  ·have:k=i:=by omega
   subst this
   rw[ax (by omega),cond_false,hb,cond_false,al (x:=(k:Int)+1) (by omega) (by omega),ae k]
end VM
end
section
namespace VM
open Go VM.F
def qD(s w p:Int):Prop:=((s=1∨s=3)∧w=0∧p=0)∨(s=2∧1≤w∧w≤12∧ -1152921504606846976≤p∧p≤1152921504606846976)
instance(s w p:Int):Decidable (qD s w p):=by unfold qD;infer_instance
def AQ(a:Int):Prop:=1≤a∧a≤1099511627776
instance(a:Int):Decidable (AQ a):=by unfold AQ;infer_instance
def leI(a b:Int):Prop:=a≤b
instance(a b:Int):Decidable (leI a b):=by unfold leI;infer_instance
def zw(c:aa)(l:bb)(i:Nat):Prop:=
 AQ (l.getD i ((0:Int),(bK,aK))).1∧sd i (l.getD (i-1) ((0:Int),(bK,aK))).1 (l.getD i ((0:Int),(bK,aK))).1∧ ¬gf ((l.getD i ((0:Int),(bK,aK))).2.1.length:Int) 0∧ke c (l.getD i ((0:Int),(bK,aK))).2.1=true∧leI (l.getD i ((0:Int),(bK,aK))).2.2.1 0∧qD (l.getD i ((0:Int),(bK,aK))).2.2.2.1 (l.getD i ((0:Int),(bK,aK))).2.2.2.2.1 (l.getD i ((0:Int),(bK,aK))).2.2.2.2.2.1
instance(c:aa)(l:bb):DecidablePred (zw c l):=fun i=>by unfold zw;infer_instance
def Q8(c:aa)(l:bb):Bool:=dY c&&(decide (l.length≤12)&&(decide (∀j,j<l.length→zw c l j)&&true))
def aad(l:bb):Prop:= ∀x∈l,x.2.1.length≤100000
theorem KY{l:bb}(h:aad l)(i:Nat):(l.getD i ((0:Int),(bK,aK))).2.1.length≤100000:=by
 by_cases hi:i<l.length
 ·rw[List.getD_eq_getElem?_getD,List.getElem?_eq_getElem hi];exact h _ (List.getElem_mem hi)
 ·rw[List.getD_eq_getElem?_getD,List.getElem?_eq_none (by omega)];exact Nat.zero_le _
theorem UI(s w p:Int)(r:Option Bool):
  cond (ay s 1) (cond (!ay w 0) (some false) (cond (!ay p 0) (some false) r)) (cond (ay s 3) (cond (!ay w 0) (some false) (cond (!ay p 0) (some false) r)) (cond (ay s 2) (cond (aG w 1) (some false) (cond (aG 12 w) (some false) (cond (aG p (-1152921504606846976)) (some false) (cond (aG 1152921504606846976 p) (some false) r)))) (some false)))=
   if qD s w p then r else some false:=by
 simp only[cond_not,au,aJ]
 by_cases h:qD s w p
 ·rw[if_pos h];unfold qD at h
  repeat' split
  all_goals first|rfl|omega
 ·rw[if_neg h];unfold qD at h
  repeat' split
  all_goals first|rfl|omega
theorem Ox{A B C D E F:Prop} [Decidable A] [Decidable B] [Decidable C] [Decidable D] [Decidable E] [Decidable F](r:Option Bool):
  (if A then(if B then(if C then(if D then(if E then(if F then r else some false)else some false)else some false)else some false)else some false)else some false)=if A∧B∧C∧D∧E∧F then r else some false:=by
 by_cases hA:A<;>by_cases hB:B<;>by_cases hC:C<;>by_cases hD:D<;>by_cases hE:E<;>by_cases hF:F<;>simp only[hA,hB,hC,hD,hE,hF,if_true,if_false,and_self,and_true,and_false,false_and,true_and]
theorem Q9{a b n f s w p:Int}{i:Nat}{o:Bool}{r:Option Bool}:
  cond (aG a 1) (some false) (cond (aG 1099511627776 a) (some false) (if sd i b a then(cond (ay n 0) (some false) (cond (!o) (some false) (cond (aG 0 f) (some false) (if qD s w p then r else some false))))else some false))=
   if AQ a∧sd i b a∧ ¬gf n 0∧o=true∧leI f 0∧qD s w p then r else some false:=by
 rw[←Ox]
 simp only[cond_not,au,aJ]
 by_cases h1:AQ a
 ·have mU:=h1
  unfold AQ at mU
  rw[if_pos h1,if_neg (by omega),if_neg (by omega)]
  by_cases h2:sd i b a
  ·rw[if_pos h2,if_pos h2]
   by_cases h3:n=0
   ·rw[if_pos h3,if_neg (show ¬ ¬gf n 0 from fun h=>h h3)]
   ·rw[if_neg h3,if_pos (show ¬gf n 0 from h3)]
    cases o
    ·rfl
    ·rw[cond_true,if_pos rfl]
     by_cases h4:f≤0
     ·rw[if_pos (show leI f 0 from h4),if_neg (by omega)]
     ·rw[if_neg (show ¬leI f 0 from h4),if_pos (by omega)]
  ·rw[if_neg h2,if_neg h2]
 ·have mU:=h1
  unfold AQ at mU
  rw[if_neg h1]
  by_cases h2:a<1
  ·rw[if_pos h2]
  ·rw[if_neg h2,if_pos (by omega)]
theorem Ra{i:Nat}{a b:Int}{r:Option Bool}(h0:0<i):cond (bW a b) (some false) r=if sd i b a then r else some false:=by
 rw[bk]
 by_cases h1:sd i b a
 ·rw[if_pos h1,if_neg (by unfold sd at h1;omega)]
 ·rw[if_neg h1,if_pos (by unfold sd at h1;omega)]
theorem ahV(N:Nat)(hN:200000≤N)(c:aa){l:bb}(hl:l.length≤100000)(hw:aad l):fC N c l=some (Q8 c l):=by
 unfold fC fC.b Q8
 rw[nN N (by omega),Option.bind_some]
 cases dY c
 ·rfl
 rw[Bool.not_true,cond_false,Bool.true_and]
 by_cases h12:l.length≤12
 ·rw[ax (by omega),cond_false,decide_eq_true h12,Bool.true_and]
  refine eU (F:=fun n i=>fC.l4 N n l c i) (zw c l) (fun n i r hi hp hr=> ?_) (fun n=> ?_) N (by omega)
  ·unfold fC.l4 fC.cA fC.j9 fC.KB
   rw[aD (by omega),cond_true,aF (by omega) (by omega),cond_true,Int.toNat_natCast,pP N hN c (KY hw i),Option.bind_some,al (x:=(i:Int)+1) (by omega) (by omega),ae i,hr,UI]
   refine Eq.trans ?_ Q9
   by_cases h0:0<i
   ·have e:W .i64 ((i:Int)-1)=((i-1:Nat):Int):=by rw[al (by omega) (by omega)];omega
    rw[aD (x:=0) (y:=(i:Int)) (by omega),cond_true,e]
    dsimp only
    rw[Int.toNat_natCast,aF (by omega) (by omega),cond_true,Ra h0]
   ·rw[ax (x:=0) (y:=(i:Int)) (by omega),cond_false,if_pos (show sd i (l.getD (i-1) ((0:Int),(bK,aK))).1 (l.getD i ((0:Int),(bK,aK))).1 from fun h=>absurd h h0)]
  ·unfold fC.l4 fC.cA
   rw[ax (by omega),cond_false]
 ·rw[aD (by omega),cond_true,decide_eq_false h12,Bool.false_and]
end VM
end
section
namespace VM
open Go VM.F
abbrev AwS:=ah×ah×bb
def MT(a:Int):Prop:=0≤a∧a<6
structure Rb(t:av):Prop where
 len:t.length≤6
 inst: ∀y∈t,MT y.1
 q: ∀y∈t,aA y.2.1∧xU y.2.1
structure aae(z:AwS)(i:Nat):Prop where
 place: ∀x∈z.1,b7 x.1 x.2.1
 q: ∀x∈z.1,aA (et x)∧xU (et x)
 len:z.1.length≤12*i
 flat: ∀a:Int,(dZ a z.1).sum=0
 key: ∀x∈z.2.1,dW x.1 x.2.1
 qe: ∀x∈z.2.1,aA (et x)
 avK:z.2.1.length≤2*i
 zero:(z.2.1.map et).sum=0
 out:z.2.2.length=i
theorem Tc(a:Int)(l m:ah):dZ a (l++m)=dZ a l++dZ a m:=by
 induction l with
 |nil=>rfl
 |cons x t ih=>
  rw[List.cons_append,fH,fH,ih]
  split<;>rfl
theorem aae.nil:aae ([],[],[]) 0:=⟨fun x hx=>(nomatch hx),fun x hx=>(nomatch hx),Nat.le_refl _,fun a=>rfl,fun x hx=>(nomatch hx),fun x hx=>(nomatch hx),Nat.le_refl _,rfl,rfl⟩
end VM
end
section
namespace VM
open Go VM.F
theorem kj{c:aa}{b:af}(h:bV c b=true):e7 b.2.2.1=true∧dh b.2.2.2.1=true:=by
 unfold bV at h
 have h1:=(Bool.and_eq_true_iff.1 (Bool.and_eq_true_iff.1 h).2).2
 have h2:=Bool.and_eq_true_iff.1 h1
 have h3:=(Bool.and_eq_true_iff.1 (Bool.and_eq_true_iff.1 h2.2).2).1
 refine⟨h2.1,?_⟩
 unfold wW at h3
 exact(Bool.and_eq_true_iff.1 h3).2
structure mZ(b:af):Prop where
 w:eM b
 r:b.2.2.1.length≤90000
 s:b.2.2.2.1.length≤90000
end VM
end
section
namespace VM
open Go VM.F
end VM
end
section
namespace VM
open Go VM.F
theorem bZ(x:Int):ay x x=true:=cM rfl
theorem Rc(x:KL):jO (.pair (.int .i64) (.pair (.int .i64) .unit)) x x=true:=by
 show(ay x.1 x.1&&(ay x.2.1 x.2.1&&true))=true
 rw[bZ,bZ];rfl
theorem KZ(x:ca):jO (.pair (.int .i64) (.pair (.int .i64) (.pair (.int .i64) .unit))) x x=true:=by
 show(ay x.1 x.1&&jO (.pair (.int .i64) (.pair (.int .i64) .unit)) x.2 x.2)=true
 rw[bZ,Rc];rfl
theorem AS(x:br):jO (.pair (.int .i64) (.pair (.int .i64) (.pair (.int .i64) (.pair (.int .i64) .unit)))) x x=true:=by
 show(ay x.1 x.1&&jO (.pair (.int .i64) (.pair (.int .i64) (.pair (.int .i64) .unit))) x.2 x.2)=true
 rw[bZ,KZ];rfl
theorem acb(x:ck):jO (.pair (.int .i64) (.pair (.int .i64) (.pair (.int .i64) (.pair (.int .i64) (.pair (.int .i64) (.pair (.int .i64) .unit)))))) x x=true:=by
 show(ay x.1 x.1&&(ay x.2.1 x.2.1&&jO (.pair (.int .i64) (.pair (.int .i64) (.pair (.int .i64) (.pair (.int .i64) .unit)))) x.2.2 x.2.2))=true
 rw[bZ,bZ,AS];rfl
theorem jv{F:Nat→Int→Option Bool}{len:Nat}(hs: ∀n (i:Nat),i<len→F n ((i+1:Nat):Int)=some true→F (n+1) (i:Int)=some true)(he: ∀n,F (n+1) (len:Int)=some true): ∀(m n i:Nat),len-i≤m→m<n→i≤len→F n (i:Int)=some true
 |m,0,i,_,hn,_=>by omega
 |m,n+1,i,hm,hn,hi=>by
  by_cases h:i<len
  ·exact hs n i h (jv hs he (m-1) n (i+1) (by omega) (by omega) (by omega))
  ·have:i=len:=by omega
   subst this;exact he n
theorem HF(N:Nat){l:av}(hl:l.length≤100000)(hN:200000≤N):mC N l l=some true:=by
 unfold mC mC.b
 rw[bZ,Bool.not_true,cond_false]
 refine jv (F:=fun n i=>mC.l4 N n l l i) (len:=l.length) (fun n i hi hr=> ?_) (fun n=> ?_) l.length N 0 (by omega) (by omega) (by omega)
 ·unfold mC.l4 mC.cA
  rw[aD (by omega),cond_true,aF (by omega) (by omega),cond_true,cond_true,Rc,Bool.not_true,cond_false,al (x:=(i:Int)+1) (by omega) (by omega),ae i]
  exact hr
 ·unfold mC.l4 mC.cA
  rw[ax (by omega),cond_false]
theorem Re(N:Nat){l:aE}(hl:l.length≤100000)(hN:200000≤N):mD N l l=some true:=by
 unfold mD mD.b
 rw[bZ,Bool.not_true,cond_false]
 refine jv (F:=fun n i=>mD.l4 N n l l i) (len:=l.length) (fun n i hi hr=> ?_) (fun n=> ?_) l.length N 0 (by omega) (by omega) (by omega)
 ·unfold mD.l4 mD.cA
  rw[aD (by omega),cond_true,aF (by omega) (by omega),cond_true,cond_true,AS,Bool.not_true,cond_false,al (x:=(i:Int)+1) (by omega) (by omega),ae i]
  exact hr
 ·unfold mD.l4 mD.cA
  rw[ax (by omega),cond_false]
theorem Rf(N:Nat){l:ah}(hl:l.length≤100000)(hN:200000≤N):yY N l l=some true:=by
 unfold yY yY.b
 rw[bZ,Bool.not_true,cond_false]
 refine jv (F:=fun n i=>yY.l4 N n l l i) (len:=l.length) (fun n i hi hr=> ?_) (fun n=> ?_) l.length N 0 (by omega) (by omega) (by omega)
 ·unfold yY.l4 yY.cA
  rw[aD (by omega),cond_true,aF (by omega) (by omega),cond_true,cond_true,KZ,Bool.not_true,cond_false,al (x:=(i:Int)+1) (by omega) (by omega),ae i]
  exact hr
 ·unfold yY.l4 yY.cA
  rw[ax (by omega),cond_false]
theorem Oy(N:Nat){l:ah}(hl:l.length≤100000)(hN:200000≤N):yZ N l l=some true:=by
 unfold yZ yZ.b
 rw[bZ,Bool.not_true,cond_false]
 refine jv (F:=fun n i=>yZ.l4 N n l l i) (len:=l.length) (fun n i hi hr=> ?_) (fun n=> ?_) l.length N 0 (by omega) (by omega) (by omega)
 ·unfold yZ.l4 yZ.cA
  rw[aD (by omega),cond_true,aF (by omega) (by omega),cond_true,cond_true,KZ,Bool.not_true,cond_false,al (x:=(i:Int)+1) (by omega) (by omega),ae i]
  exact hr
 ·unfold yZ.l4 yZ.cA
  rw[ax (by omega),cond_false]
theorem K0(N:Nat){l:aT}(hl:l.length≤100000)(hN:200000≤N):y3 N l l=some true:=by
 unfold y3 y3.b
 rw[bZ,Bool.not_true,cond_false]
 refine jv (F:=fun n i=>y3.l4 N n l l i) (len:=l.length) (fun n i hi hr=> ?_) (fun n=> ?_) l.length N 0 (by omega) (by omega) (by omega)
 ·unfold y3.l4 y3.cA
  rw[aD (by omega),cond_true,aF (by omega) (by omega),cond_true,cond_true,acb,Bool.not_true,cond_false,al (x:=(i:Int)+1) (by omega) (by omega),ae i]
  exact hr
 ·unfold y3.l4 y3.cA
  rw[ax (by omega),cond_false]
theorem Rg(N:Nat){l:List (Int)}(hl:l.length≤100000)(hN:200000≤N):y4 N l l=some true:=by
 unfold y4 y4.b
 rw[bZ,Bool.not_true,cond_false]
 refine jv (F:=fun n i=>y4.l4 N n l l i) (len:=l.length) (fun n i hi hr=> ?_) (fun n=> ?_) l.length N 0 (by omega) (by omega) (by omega)
 ·unfold y4.l4 y4.cA
  rw[aD (by omega),cond_true,aF (by omega) (by omega),cond_true,cond_true,bZ,Bool.not_true,cond_false,al (x:=(i:Int)+1) (by omega) (by omega),ae i]
  exact hr
 ·unfold y4.l4 y4.cA
  rw[ax (by omega),cond_false]
theorem Rh(N:Nat)(hN:200000≤N){b:af}(h1:b.1.length≤100000)(h2:b.2.1.length≤100000)(h3:b.2.2.1.length≤100000)(h4:b.2.2.2.1.length≤100000)(h5:b.2.2.2.2.1.length≤100000)(h6:b.2.2.2.2.2.1.length≤100000):F57 N b b=some true:=by
 unfold F57
 rw[HF N h1 hN,Option.bind_some,cond_true,Re N h2 hN,Option.bind_some,cond_true,Rf N h3 hN,Option.bind_some,cond_true,Oy N h4 hN,Option.bind_some,cond_true,Rg N h5 hN,Option.bind_some,cond_true,K0 N h6 hN,Option.bind_some]
theorem AT{P:Int→Prop} [DecidablePred P]{f:Int→Int→Int}: ∀{K:List cT} {o:ah},dR P f K=some o→o.length≤K.length
 |[],o,h=>by
  have:some []=some o:=h
  rw[←Option.some.inj this];exact Nat.le_refl _
 |k::t,o,h=>by
  rw[k4]at h
  by_cases hP:P (f k.1 k.2)
  ·rw[if_pos hP]at h
   cases hc:dR P f t with
   |none=>rw[hc]at h;exact absurd h (by simp)
   |some r=>
    have ih:=AT hc
    rw[hc]at h
    have h':=Option.some.inj h
    rw[←h',List.length_cons]
    dsimp only
    split
    ·omega
    ·rw[List.length_cons];omega
  ·rw[if_neg hP]at h;exact absurd h (by simp)
theorem K1:ur.length=150:=by decide+kernel
theorem Oz:AP.length=175:=by decide+kernel
structure AU(b:af):Prop where
 m:b.1.length≤100000
 a:b.2.1.length≤100000
 r:b.2.2.1.length≤100000
 s:b.2.2.2.1.length≤100000
 p:b.2.2.2.2.1.length≤100000
 o:b.2.2.2.2.2.1.length≤100000
theorem nu:AU (([]:av),(([]:aE),(([]:ah),(([]:ah),(([]:List Int),(([]:aT),())))))):=⟨Nat.zero_le _,Nat.zero_le _,Nat.zero_le _,Nat.zero_le _,Nat.zero_le _,Nat.zero_le _⟩
theorem HG{b:af}(w:eM b)(s e:ah):AU (gm b s e).1:=by
 unfold gm
 cases h1:dR Fq (fS b.2.2.2.1 s) ur with
 |none=>exact nu
 |some s'=>
  cases h2:dR aA (fS b.2.2.1 e) AP with
  |none=>exact nu
  |some r'=>
   have g1:=AT h1
   have g2:=AT h2
   rw[K1]at g1
   rw[Oz]at g2
   exact⟨w.m,w.a,by show r'.length≤_;omega,by show s'.length≤_;omega,w.p,w.o⟩
end VM
end
section
namespace VM
open Go VM.F Go.RowKit
def iS(a b:Int):ah→Int
 |[]=>0
 |x::t=>if x.1=a then(if x.2.1=b then x.2.2.1 else iS a b t)else iS a b t
theorem kk(a b:Int)(x:ca)(t:ah):iS a b (x::t)=if x.1=a then(if x.2.1=b then x.2.2.1 else iS a b t)else iS a b t:=rfl
def mE(l:ah)(a b:Int):Int:=if dh l then iS a b l else 0
def q9(l:ah)(a b:Int):Int:=if e7 l then iS a b l else 0
theorem zx(N:Nat){l:ah}(hl:l.length≤100000)(hN:200000≤N)(a b:Int):wz N l a b=some (mE l a b):=by
 unfold wz wz.b mE
 rw[ns N hl hN,Option.bind_some,cond_not]
 have:=vw l aL (fun n i=>wz.l4 N n l a b i) (fun t=>some (iS a b t)) (fun n i hi hr=> ?_) (fun n=> ?_) N (by omega)
 ·rw[this];cases dh l<;>rfl
 ·unfold wz.l4 wz.cA
  rw[aD (by omega),cond_true,aF (by omega) (by omega),cond_true,cond_true,cond_true,Int.toNat_natCast,al (x:=(i:Int)+1) (by omega) (by omega),ae i,hr,au,au,kk]
  split
  ·split<;>rfl
  ·rfl
 ·unfold wz.l4 wz.cA
  rw[ax (by omega),cond_false];rfl
theorem K2(N:Nat){l:ah}(hl:l.length≤100000)(hN:200000≤N)(a b:Int):qE N l a b=some (q9 l a b):=by
 unfold qE qE.b q9
 rw[AB N hl hN,Option.bind_some,cond_not]
 have:=vw l aL (fun n i=>qE.l4 N n l a b i) (fun t=>some (iS a b t)) (fun n i hi hr=> ?_) (fun n=> ?_) N (by omega)
 ·rw[this];cases e7 l<;>rfl
 ·unfold qE.l4 qE.cA
  rw[aD (by omega),cond_true,aF (by omega) (by omega),cond_true,cond_true,cond_true,Int.toNat_natCast,al (x:=(i:Int)+1) (by omega) (by omega),ae i,hr,au,au,kk]
  split
  ·split<;>rfl
  ·rfl
 ·unfold qE.l4 qE.cA
  rw[ax (by omega),cond_false];rfl
theorem MU{l:ah}(h: ∀i,i<l.length→aA (et (l.getD i aL))):dz l:=fun x hx=>by
 obtain⟨i,hi,e⟩:=List.getElem_of_mem hx
 have:=h i hi
 rw[List.getD_eq_getElem?_getD,List.getElem?_eq_getElem hi]at this
 rw[←e];exact this
namespace Pure
end Pure
end VM
end
section
namespace VM
open Go VM.F
theorem UJ(N:Nat){l:ah}(hl:l.length≤100000)(hN:200000≤N)(a b:Int):lU N l a b=some (q9 l a b):=by
 unfold lU lU.b q9
 rw[zs N hl hN,Option.bind_some,cond_not]
 have:=vw l aL (fun n i=>lU.l4 N n a b l (l.length:Int) i) (fun t=>some (iS a b t)) (fun n i hi hr=> ?_) (fun n=> ?_) N (by omega)
 ·rw[this];cases e7 l<;>rfl
 ·unfold lU.l4 lU.cA
  rw[aD (by omega),cond_true,aF (by omega) (by omega),cond_true,Int.toNat_natCast,al (x:=(i:Int)+1) (by omega) (by omega),ae i,hr,au,au,kk]
  split
  ·split<;>rfl
  ·rfl
 ·unfold lU.l4 lU.cA
  rw[ax (by omega),cond_false];rfl
theorem AV{l:ah}(h:dz l)(a b:Int):aA (iS a b l):=by
 induction l with
 |nil=>show aA 0;decide
 |cons x t ih=>
  have ih:=ih (fun y hy=>h y (List.mem_cons_of_mem _ hy))
  rw[kk]
  split
  ·split
   ·exact h x (List.mem_cons_self ..)
   ·exact ih
  ·exact ih
theorem AW{l:ah}(h:dz l)(a b:Int):aA (q9 l a b):=by
 unfold q9
 split
 ·exact AV h a b
 ·exact⟨by decide,by decide⟩
def gJ(a:Int):ah→av
 |[]=>[]
 |x::t=>if x.1=a then(x.2.1,(x.2.2.1,()))::gJ a t else gJ a t
theorem jw(a:Int)(x:ca)(t:ah):gJ a (x::t)=if x.1=a then(x.2.1,(x.2.2.1,()))::gJ a t else gJ a t:=rfl
def posOf(l:ah)(a:Int):av:=if dh l then gJ a l else []
theorem AX(a:Int): ∀l:ah,(gJ a l).length≤l.length
 |[]=>Nat.le_refl _
 |x::t=>by
  have:=AX a t
  rw[jw,List.length_cons]
  split
  ·rw[List.length_cons];omega
  ·omega
theorem sY(a:Int)(l:ah):(posOf l a).length≤l.length:=by
 unfold posOf
 split
 ·exact AX a l
 ·exact Nat.zero_le _
theorem fO{a:Int}{y:KL}: ∀{l:ah},y∈gJ a l→ ∃x∈l,x.1=a∧y=(x.2.1,(x.2.2.1,()))
 |[],h=>nomatch h
 |x::t,h=>by
  rw[jw]at h
  by_cases e:x.1=a
  ·rw[if_pos e]at h
   rcases List.mem_cons.1 h with h|h
   ·exact⟨x,List.mem_cons_self ..,e,h⟩
   ·obtain⟨x',hx,h'⟩:=fO h
    exact⟨x',List.mem_cons_of_mem _ hx,h'⟩
  ·rw[if_neg e]at h
   obtain⟨x',hx,h'⟩:=fO h
   exact⟨x',List.mem_cons_of_mem _ hx,h'⟩
theorem vO{l:ah}(h:dz l)(a:Int): ∀y∈posOf l a,aA y.2.1:=fun y hy=>by
 unfold posOf at hy
 split at hy
 ·obtain⟨x,hx,_,rfl⟩:=fO hy
  exact h x hx
 ·nomatch hy
theorem aaf(N:Nat){l:ah}(hl:l.length≤100000)(hN:200000≤N)(a:Int):k5 N l a=some (posOf l a):=by
 unfold k5 k5.b posOf
 rw[vy N hl hN,Option.bind_some,cond_not]
 have:=kD l aL (fun n i s=>k5.l5 N n a s l (l.length:Int) i) (fun t s=>some (s++gJ a t)) (fun i (s:av)=>s.length≤i) (fun n i s hi hI hr=> ?_) (fun n s hI=> ?_) l.length N 0 [] (by omega) (by omega) (by omega) (Nat.le_refl _)
 ·have e:k5.l5 N N a [] l (l.length:Int) 0=some (gJ a l):=this
  rw[e];cases dh l<;>rfl
 ·unfold k5.l5 k5.c5
  rw[aD (by omega),cond_true,aF (by omega) (by omega),cond_true,Int.toNat_natCast,al (x:=(i:Int)+1) (by omega) (by omega),ae i,au,aZ (by rw[List.length_singleton];omega),cond_true,jw]
  split
  ·rw[hr _ (by rw[List.length_append,List.length_singleton];omega),List.append_assoc];rfl
  ·exact hr s (by omega)
 ·unfold k5.l5 k5.c5
  rw[ax (by omega),cond_false]
  show some s=some (s++[])
  rw[List.append_nil]
theorem E2(N:Nat){l:ah}(hl:l.length≤100000)(hN:200000≤N)(a:Int):tK N l a=some (posOf l a):=by
 unfold tK tK.b posOf
 rw[ns N hl hN,Option.bind_some,cond_not]
 have:=kD l aL (fun n i s=>tK.l5 N n l a s i) (fun t s=>some (s++gJ a t)) (fun i (s:av)=>s.length≤i) (fun n i s hi hI hr=> ?_) (fun n s hI=> ?_) l.length N 0 [] (by omega) (by omega) (by omega) (Nat.le_refl _)
 ·have e:tK.l5 N N l a [] 0=some (gJ a l):=this
  rw[e];cases dh l<;>rfl
 ·unfold tK.l5 tK.c5
  rw[aD (by omega),cond_true,aF (by omega) (by omega),cond_true,cond_true,cond_true,Int.toNat_natCast,al (x:=(i:Int)+1) (by omega) (by omega),ae i,au,aZ (by rw[List.length_singleton];omega),cond_true,jw]
  split
  ·rw[hr _ (by rw[List.length_append,List.length_singleton];omega),List.append_assoc];rfl
  ·exact hr s (by omega)
 ·unfold tK.l5 tK.c5
  rw[ax (by omega),cond_false]
  show some s=some (s++[])
  rw[List.append_nil]
def m0(a n:Int):Prop:=0≤a∧a<n
end VM
end
section
namespace VM
open Go VM.F
theorem Ri{hi:Int}: ∀{l:List Int} {lo:Int},l.Pairwise (· < ·)→(∀x∈l,lo≤x∧x<hi)→lo≤hi→(l.length:Int)≤hi-lo
 |[],lo,_,_,h=>by rw[List.length_nil];omega
 |x::t,lo,hp,hm,h=>by
  obtain⟨h1,h2⟩:=List.pairwise_cons.1 hp
  have hx:=hm x (List.mem_cons_self ..)
  have ih:=Ri (lo:=x+1) h2 (fun y hy=>⟨h1 y hy,(hm y (List.mem_cons_of_mem _ hy)).2⟩) (by omega)
  rw[List.length_cons];omega
theorem ya{a:Int}: ∀{l:ah},sT (l.map keyOf)→((gJ a l).map (fun y=>(y.1:Int))).Pairwise (· < ·)
 |[],_=>List.Pairwise.nil
 |x::t,h=>by
  obtain⟨h1,h2⟩:=List.pairwise_cons.1 h
  have ih:=ya (a:=a) h2
  rw[jw]
  by_cases e:x.1=a
  ·rw[if_pos e,List.map_cons]
   refine List.pairwise_cons.2 ⟨fun z hz=> ?_,ih⟩
   obtain⟨y,hy,rfl⟩:=List.mem_map.1 hz
   obtain⟨x',hx,e',rfl⟩:=fO hy
   have hk:=h1 (keyOf x') (List.mem_map_of_mem hx)
   have g: ∀p q r s:Int,p=a→r=a→ig p q r s→q<s:=fun p q r s h1 h2 h=>by unfold ig at h;omega
   exact g _ _ _ _ e e' hk
  ·rw[if_neg e];exact ih
theorem Rj{l:ah}(hk:dh l=true)(hq:dz l)(a:Int):Rb (posOf l a):=by
 obtain⟨hs,hp⟩:=gI hk
 have e:posOf l a=gJ a l:=by unfold posOf;rw[hk];rfl
 rw[e]
 have gC: ∀y∈gJ a l,MT y.1:=fun y hy=>by
  obtain⟨x,hx,_,rfl⟩:=fO hy
  have g: ∀p q:Int,b7 p q→MT q:=fun p q h=>by unfold b7 at h;unfold MT;omega
  exact g _ _ (hp x hx).1
 refine⟨?_,gC,fun y hy=> ?_⟩
 ·have:=Ri (lo:=0) (hi:=6) (ya (a:=a) hs) (fun z hz=>by
   obtain⟨y,hy,rfl⟩:=List.mem_map.1 hz
   exact gC y hy) (by omega)
  rw[List.length_map]at this;omega
 ·obtain⟨x,hx,_,rfl⟩:=fO hy
  exact⟨hq x hx,(hp x hx).2⟩
end VM
end
section
namespace VM
open Go VM.F
def bo(p:Int):Prop:=1≤p∧p≤1000000000000
instance(p:Int):Decidable (bo p):=by unfold bo;infer_instance
theorem AY(N:Nat)(p:Int):yT N p=some (decide (bo p)):=(gY N p).trans (congrArg some (decide_eq_decide.2 Iff.rfl))
def iI(a b c d e:Int):Prop:=(0≤a∧a≤24)∧(0≤b∧b≤24)∧a≠b∧(0≤c∧c<6)∧(1≤d∧d≤1000000000)∧bo e
instance(a b c d e:Int):Decidable (iI a b c d e):=by unfold iI;infer_instance
def cz(t:gg):Prop:=iI t.1 t.2.1 t.2.2.1 t.2.2.2.1 t.2.2.2.2.1
instance:DecidablePred cz:=fun t=>by unfold cz;infer_instance
theorem yb(a b c d e:Int):cond (bW 0 a) (cond (bW a 24) (cond (bW 0 b) (cond (bW b 24) (cond (!ay a b) (cond (bW 0 c) (cond (aG c 6) (cond (bW 1 d) (cond (bW d 1000000000) (some (decide (bo e))) (some false)) (some false)) (some false)) (some false)) (some false)) (some false)) (some false)) (some false)) (some false)=some (decide (iI a b c d e)):=by
 simp only[bk,cond_not,au,aJ]
 by_cases hP:iI a b c d e
 ·have hp:=hP.2.2.2.2.2
  rw[decide_eq_true hP,decide_eq_true hp]
  unfold iI at hP
  repeat' split
  all_goals first|rfl|omega
 ·rw[decide_eq_false hP]
  by_cases hp:bo e
  ·unfold iI at hP
   repeat' split
   all_goals first|rfl|(exact absurd ⟨by omega,by omega,by omega,by omega,by omega,hp⟩ hP)
  ·rw[decide_eq_false hp]
   repeat' split
   all_goals rfl
theorem sZ(N:Nat)(t:gg):Rk N t=some (decide (cz t)):=by
 unfold Rk
 rw[AY,Option.bind_some]
 exact yb _ _ _ _ _
def y5(a x:Int):ca:=if a=0 then((2:Int),((0:Int),(x,())))else((5:Int),(a,(x,())))
def jf(t:gg)(p:Int):ah:=if p-t.2.2.2.2.1=0 then []else [y5 t.1 ((p-t.2.2.2.2.1)*t.2.2.2.1),y5 t.2.1 (-((p-t.2.2.2.2.1)*t.2.2.2.1))]
def gn(b:af)(t:gg):Int:=b.2.2.2.2.1.getD t.2.2.1.toNat 0
def eN:aX→ah
 |[]=>[]
 |t::r=>(t.1,(t.2.2.1,(t.2.2.2.1,())))::(t.2.1,(t.2.2.1,((0-t.2.2.2.1:Int),())))::eN r
def e8(b:af):aX→ah
 |[]=>[]
 |t::r=>jf t (gn b t)++e8 b r
theorem lV(t:gg)(r:aX):eN (t::r)=(t.1,(t.2.2.1,(t.2.2.2.1,())))::(t.2.1,(t.2.2.1,((0-t.2.2.2.1:Int),())))::eN r:=rfl
theorem o1(b:af)(t:gg)(r:aX):e8 b (t::r)=jf t (gn b t)++e8 b r:=rfl
theorem Dq(a x:Int)(N:Nat):E3 N a=some ((y5 a x).1,(y5 a x).2.1):=by
 unfold E3 y5
 rw[au]
 by_cases h:a=0
 ·rw[if_pos h,if_pos h]
 ·rw[if_neg h,if_neg h]
theorem pR(a x:Int):et (y5 a x)=x:=by unfold y5;split<;>rfl
theorem Dr{d q:Int}(h1: -1000000000000≤d∧d≤1000000000000)(h2:1≤q∧q≤1000000000): -1000000000000000000000≤d*q∧d*q≤1000000000000000000000∧(d*q=0↔d=0):=by
 refine⟨?_,?_,?_⟩
 ·have:=Int.mul_le_mul_of_nonneg_right h1.1 (show 0≤q by omega)
  have h3: -1000000000000*1000000000≤ -1000000000000*q:=by omega
  omega
 ·have:=Int.mul_le_mul_of_nonneg_right h1.2 (show 0≤q by omega)
  have h3:1000000000000*q≤1000000000000*1000000000:=by omega
  omega
 ·rw[Int.mul_eq_zero];omega
theorem Cx(N:Nat)(hN:4000000≤N){t:gg}{p:Int}(ht:cz t)(hp:bo p):K3 N t p=some ((jf t p).map iH,0):=by
 unfold K3 jf
 have hq:=ht.2.2.2.2.1
 have he:=ht.2.2.2.2.2
 rw[sZ,Option.bind_some,decide_eq_true ht,Bool.not_true,cond_false,AY,Option.bind_some,decide_eq_true hp,Bool.not_true,cond_false]
 unfold bo at hp he
 generalize t.2.2.2.2.1=e at*
 generalize t.2.2.2.1=q at*
 have hd: -1000000000000≤p-e∧p-e≤1000000000000:=by omega
 have hn:=Dr hd hq
 have HC:bA ((p-e)*q):=by unfold bA;omega
 rw[al (x:=p-e) (by omega) (by omega),cj N (by omega) (by omega) (by omega),Option.bind_some,cj N (by omega) (by omega) (by omega),Option.bind_some,lN N hN ((Fit.i64 (by omega) (by omega)).mono (by omega)) ((Fit.i64 (by omega) (by omega)).mono (by omega)),Option.bind_some,mW,Option.bind_some,au]
 by_cases h:p-e=0
 ·rw[if_pos h,if_pos (by rw[hn.2.2.2 h];rfl)];rfl
 ·rw[if_neg h,if_neg (fun k=>h (hn.2.2.1 (ka.1 k))),Dq t.1 ((p-e)*q),Option.bind_some,Dq t.2.1 (-((p-e)*q)),Option.bind_some,pK N hN (g7 HC),Option.bind_some,List.map_cons,List.map_cons,List.map_nil]
  unfold iH
  rw[pR,pR]
def dE(c:aa)(b:af)(t:gg):Bool:=
 ((dL b.2.1 t.1).2||decide (gf t.1 0))&&(((dL b.2.1 t.2.1).2||decide (gf t.2.1 0))&&decide (BY t.2.2.1 c.1.length))
def ko(c:aa)(b:af)(l:aX):af×Int:=
 if bV c b then(if l.length≤200 then(if l.all (fun t=>decide (cz t))then(if l.all (dE c b)then gm b (eN l) (e8 b l)else((bK,(cg,(aY,(aY,(cD,(cJ,())))))),3))else((bK,(cg,(aY,(aY,(cD,(cJ,())))))),1))else((bK,(cg,(aY,(aY,(cD,(cJ,())))))),1))else((bK,(cg,(aY,(aY,(cD,(cJ,())))))),1)
theorem cK{c:aa}{b:af}(h:bV c b=true):b.2.2.2.2.1.length=c.1.length∧fV b.2.2.2.2.1=true:=by
 unfold bV at h
 simp only[Bool.and_eq_true]at h
 have h1:=of_decide_eq_true h.2.2.2.2.2.2.1
 unfold gf at h1
 exact⟨by omega,h.2.2.2.2.2.2.2.2.2.2⟩
theorem qF: ∀l:aX,(eN l).length=2*l.length
 |[]=>rfl
 |t::r=>by rw[lV,List.length_cons,List.length_cons,List.length_cons,qF r];omega
theorem uv(t:gg)(p:Int):(jf t p).length≤2:=by
 unfold jf
 split
 ·exact Nat.zero_le _
 ·exact Nat.le_refl 2
theorem qG(b:af): ∀l:aX,(e8 b l).length≤2*l.length
 |[]=>Nat.le_refl _
 |t::r=>by
  have:=uv t (gn b t)
  have:=qG b r
  rw[o1,List.length_append,List.length_cons];omega
end VM
end
section
namespace VM
open Go VM.F
theorem kp{l:List Int}(h:fV l=true){i:Nat}(hi:i<l.length):bo (l.getD i 0):=of_decide_eq_true h i hi
theorem K4(i:Int)(a b:ca)(l:ah)(h:a.2.1=b.2.1)(hs:et a+et b=0):(dZ i (a::b::l)).sum=(dZ i l).sum:=by
 rw[fH,fH]
 by_cases e:a.2.1=i
 ·rw[if_pos e,if_pos (h.symm.trans e),List.sum_cons,List.sum_cons];omega
 ·rw[if_neg e,if_neg (fun k=>e (h.trans k))]
theorem yc: ∀{l:aX},(∀t∈l,cz t)→(∀x∈eN l,b7 x.1 x.2.1∧aA (et x)∧xU (et x))∧ ∀i:Int,(dZ i (eN l)).sum=0
 |[],_=>⟨fun x hx=>(nomatch hx),fun i=>rfl⟩
 |t::r,h=>by
  obtain⟨h1,h2⟩:=yc (l:=r) (fun y hy=>h y (List.mem_cons_of_mem _ hy))
  have ht:=h t (List.mem_cons_self ..)
  unfold cz iI at ht
  have g: ∀a b c d:Int,(0≤a∧a≤24)→(0≤b∧b≤24)→(0≤c∧c<6)→(1≤d∧d≤1000000000)→(b7 a c∧aA d∧xU d)∧(b7 b c∧aA (0-d)∧xU (0-d)):=fun a b c d _ _ _ _=>by unfold b7 aA xU;omega
  have hg:=g _ _ _ _ ht.1 ht.2.1 ht.2.2.2.1 ht.2.2.2.2.1
  refine⟨fun x hx=> ?_,fun i=> ?_⟩
  ·rw[lV]at hx
   rcases List.mem_cons.1 hx with e|hx
   ·rw[e];exact hg.1
   ·rcases List.mem_cons.1 hx with e|hx
    ·rw[e];exact hg.2
    ·exact h1 x hx
  ·rw[lV]
   have hz: ∀d:Int,d+(0-d)=0:=fun d=>by omega
   exact(K4 i (t.1,(t.2.2.1,(t.2.2.2.1,()))) (t.2.1,(t.2.2.1,((0-t.2.2.2.1:Int),()))) (eN r) rfl (hz t.2.2.2.1)).trans (h2 i)
theorem K5{t:gg}{p:Int}(ht:cz t)(hp:bo p):bA ((p-t.2.2.2.2.1)*t.2.2.2.1)∧bA (-((p-t.2.2.2.2.1)*t.2.2.2.1)):=by
 have hq:=ht.2.2.2.2.1
 have he:=ht.2.2.2.2.2
 unfold bo at hp he
 generalize t.2.2.2.2.1=e at*
 generalize t.2.2.2.1=q at*
 have hn:=Dr (d:=p-e) (by omega) hq
 unfold bA
 omega
theorem HH{a x:Int}(h:0≤a∧a≤24):dW (y5 a x).1 (y5 a x).2.1:=by
 unfold y5
 by_cases e:a=0
 ·rw[if_pos e];show dW 2 0;decide
 ·rw[if_neg e];show dW 5 a;unfold dW;omega
theorem HI{t:gg}{p:Int}(ht:cz t)(hp:bo p):(∀x∈jf t p,dW x.1 x.2.1∧bA (et x))∧((jf t p).map et).sum=0:=by
 have hn:=K5 ht hp
 unfold jf
 split
 ·exact⟨fun x hx=>(nomatch hx),rfl⟩
 ·refine⟨fun x hx=> ?_,?_⟩
  ·rcases List.mem_cons.1 hx with e|hx
   ·rw[e,pR];exact⟨HH ht.1,hn.1⟩
   ·rw[List.mem_singleton.1 hx,pR];exact⟨HH ht.2.1,hn.2⟩
  ·rw[List.map_cons,List.map_cons,List.map_nil,List.sum_cons,List.sum_cons,List.sum_nil,pR,pR];omega
theorem yd{b:af}: ∀{l:aX},(∀t∈l,cz t∧bo (gn b t))→(∀x∈e8 b l,dW x.1 x.2.1∧bA (et x))∧((e8 b l).map et).sum=0
 |[],_=>⟨fun x hx=>(nomatch hx),rfl⟩
 |t::r,h=>by
  obtain⟨h1,h2⟩:=yd (b:=b) (l:=r) (fun y hy=>h y (List.mem_cons_of_mem _ hy))
  have ht:=h t (List.mem_cons_self ..)
  have hc:=HI ht.1 ht.2
  rw[o1]
  refine⟨fun x hx=>(List.mem_append.1 hx).elim (hc.1 x) (h1 x),?_⟩
  rw[List.map_append,List.sum_append,hc.2,h2];rfl
theorem Ds{l:aX}(h: ∀t∈l,cz t)(hl:l.length≤200):MQ (eN l):=by
 obtain⟨h1,h2⟩:=yc h
 exact⟨fun x hx=>(h1 x hx).1,fun x hx=>(h1 x hx).2,by rw[qF];omega,h2⟩
theorem Dt{b:af}{l:aX}(h: ∀t∈l,cz t∧bo (gn b t))(hl:l.length≤200):MR (e8 b l):=by
 obtain⟨h1,h2⟩:=yd h
 have:=qG b l
 exact⟨fun x hx=>(h1 x hx).1,fun x hx=>(h1 x hx).2,by omega,h2⟩
theorem E4(N:Nat)(hN:4000000≤N)(c:aa){b:af}(w:mZ b)(hB:bV c b=true){l:aX}(hk: ∀t∈l,cz t)(hl:l.length≤200):
  ea.zy N N l c b (bK,(cg,(aY,(aY,(cD,(cJ,())))))) [] [] 0=some (if l.all (dE c b)then gm b (eN l) (e8 b l)else((bK,(cg,(aY,(aY,(cD,(cJ,())))))),3)):=by
 obtain⟨hr,hs⟩:=kj hB
 obtain⟨z5,yP⟩:=cK hB
 have gs:=Ds hk hl
 have:=kD l dT (fun n i (z:ah×ah)=>ea.zy N n l c b (bK,(cg,(aY,(aY,(cD,(cJ,())))))) z.1 (z.2.map iH) i)
  (fun u z=>some (if u.all (dE c b)then gm b (eN l) (e8 b l)else((bK,(cg,(aY,(aY,(cD,(cJ,())))))),3)))
  (fun i z=>z.1++eN (l.drop i)=eN l∧z.2++e8 b (l.drop i)=e8 b l∧ ∀j,j<i→dE c b (l.getD j dT)=true)
  (fun n i z hi hI vx=> ?_) (fun n z hI=> ?_) l.length N 0 ([],[]) (by omega) (by omega) (by omega) ⟨rfl,rfl,fun j hj=>absurd hj (by omega)⟩
 ·exact this
 ·unfold ea.zy ea.w1
  obtain⟨i1,i2,i3⟩:=hI
  have hls:=qF l
  have hle:=qG b l
  have z1:z.1.length≤400:=by rw[←i1,List.length_append]at hls;omega
  have z2:z.2.length≤400:=by rw[←i2,List.length_append]at hle;omega
  have hm:l.getD i dT∈l:=by
   rw[List.getD_eq_getElem?_getD,List.getElem?_eq_getElem hi];exact List.getElem_mem hi
  have ht:=hk _ hm
  rw[drop_cons hi dT,lV]at i1
  rw[drop_cons hi dT,o1]at i2
  rw[aD (by omega),cond_true,aF (by omega) (by omega),cond_true,Int.toNat_natCast,al (x:=(i:Int)+1) (by omega) (by omega),ae i,List.all_cons]
  have i4:dE c b (l.getD i dT)=true→ ∀j,j<i+1→dE c b (l.getD j dT)=true:=fun h j hj=>by
   by_cases e:j=i
   ·rw[e];exact h
   ·exact i3 j (by omega)
  generalize l.getD i dT=t at*
  have hq:=ht.2.2.2.2.1
  have gC:=ht.2.2.2.1
  rw[pO N b w.w.a (by omega),Option.bind_some,pO N b w.w.a (by omega),Option.bind_some,cond_not,cond_not,bk]
  have e0:W .i64 (0-t.2.2.2.1)=0-t.2.2.2.1:=by
   have g: ∀d:Int,1≤d∧d≤1000000000→W .i64 (0-d)=0-d:=fun d _=>al (by omega) (by omega)
   exact g _ hq
  rw[e0]
  dsimp only
  by_cases h1:((dL b.2.1 t.1).2||decide (gf t.1 0))=false
  ·have:dE c b t=false:=by unfold dE;rw[h1];rfl
   rw[h1,this];rfl
  ·rw[Bool.not_eq_false]at h1
   rw[h1,cond_true]
   by_cases h2:((dL b.2.1 t.2.1).2||decide (gf t.2.1 0))=false
   ·have:dE c b t=false:=by unfold dE;rw[h1,h2];rfl
    rw[h2,this];rfl
   ·rw[Bool.not_eq_false]at h2
    rw[h2,cond_true]
    by_cases h3:(c.1.length:Int)≤t.2.2.1
    ·have:dE c b t=false:=by
      unfold dE
      rw[h1,h2,decide_eq_false (show ¬BY t.2.2.1 c.1.length from fun h=>by unfold BY at h;exact absurd h (Int.not_lt.2 h3))];rfl
     rw[if_pos h3,this];rfl
    ·have dD:t.2.2.1<(c.1.length:Int):=Int.not_le.1 h3
     have hth:dE c b t=true:=by
      unfold dE
      rw[h1,h2,decide_eq_true (show BY t.2.2.1 c.1.length from dD)];rfl
     have OA:t.2.2.1.toNat<b.2.2.2.2.1.length:=by
      have g: ∀x:Int,(0≤x∧x<6)→x<(c.1.length:Int)→x.toNat<b.2.2.2.2.1.length:=fun x _ _=>by omega
      exact g _ gC dD
     have Kg:aH t.2.2.1 b.2.2.2.2.1.length=true:=by
      have g: ∀x:Int,(0≤x∧x<6)→x<(c.1.length:Int)→aH x b.2.2.2.2.1.length=true:=fun x _ _=>aF (by omega) (by omega)
      exact g _ gC dD
     have hp:bo (gn b t):=kp yP OA
     have htp:K3 N t (b.2.2.2.2.1.getD t.2.2.1.toNat 0)=some ((jf t (gn b t)).map iH,0):=Cx N hN ht hp
     have El:=uv t (gn b t)
     rw[if_neg h3,aZ (by rw[List.length_cons,List.length_singleton];omega),cond_true,Kg,cond_true,htp,Option.bind_some,aZ (by rw[List.length_map,List.length_map];omega),cond_true,hth,Bool.true_and]
     have:=vx (z.1++[(t.1,(t.2.2.1,(t.2.2.2.1,()))),(t.2.1,(t.2.2.1,((0-t.2.2.2.1:Int),())))],z.2++jf t (gn b t)) ⟨by rw[←i1,List.append_assoc];rfl,by rw[←i2,List.append_assoc],i4 hth⟩
     rw[List.map_append]at this
     exact this
 ·unfold ea.zy ea.w1
  obtain⟨i1,i2,i3⟩:=hI
  rw[List.drop_length]at i1 i2
  have e1:z.1=eN l:=by rw[←i1];exact(List.append_nil _).symm
  have e2:z.2=e8 b l:=by rw[←i2];exact(List.append_nil _).symm
  have gW: ∀t∈l,cz t∧bo (gn b t):=fun t ht=>by
   obtain⟨i,hi,e⟩:=List.getElem_of_mem ht
   have h:=i3 i hi
   rw[List.getD_eq_getElem?_getD,List.getElem?_eq_getElem hi]at h
   simp only[Option.getD_some,e]at h
   unfold dE at h
   have dD:=of_decide_eq_true (Bool.and_eq_true_iff.1 (Bool.and_eq_true_iff.1 h).2).2
   have gC:=(hk t ht).2.2.2.1
   have OA:t.2.2.1.toNat<b.2.2.2.2.1.length:=by
    have g: ∀x:Int,(0≤x∧x<6)→BY x c.1.length→x.toNat<b.2.2.2.2.1.length:=fun x _ h=>by unfold BY at h;omega
    exact g _ gC dD
   exact⟨hk t ht,kp yP OA⟩
  rw[ax (by omega),cond_false,e1,e2,UG N hN w.w hr hs w.r w.s gs (Dt gW hl),Option.bind_some]
  rfl
theorem K6(N:Nat)(hN:5000000≤N)(c:aa){b:af}(w:mZ b){l:aX}(hl:l.length≤100000):ea N c b l=some (ko c b l):=by
 unfold ea ea.b ko
 rw[si N hN w.w,Option.bind_some,cond_not,aJ]
 by_cases hB:bV c b=false
 ·rw[hB];rfl
 rw[Bool.not_eq_false]at hB
 rw[hB,cond_true,if_pos rfl]
 by_cases K7:l.length≤200
 ·rw[if_neg (by omega),if_pos K7]
  have key: ∀(m n i:Nat),l.length-i≤m→m<n→i≤l.length→(∀j,j<i→cz (l.getD j dT))→ea.l4 N n l c b (bK,(cg,(aY,(aY,(cD,(cJ,())))))) (i:Int)=some (if l.all (fun t=>decide (cz t))then(if l.all (dE c b)then gm b (eN l) (e8 b l)else((bK,(cg,(aY,(aY,(cD,(cJ,())))))),3))else((bK,(cg,(aY,(aY,(cD,(cJ,())))))),1)):=by
   intro m n
   induction n generalizing m with
   |zero=>intro i _ hn;omega
   |succ n ih=>
    intro i hm hn hi hj
    unfold ea.l4 ea.cA
    by_cases h:i<l.length
    ·rw[aD (by omega),cond_true,aF (by omega) (by omega),cond_true,Int.toNat_natCast,sZ,Option.bind_some,cond_not,ct,al (x:=(i:Int)+1) (by omega) (by omega),ae i]
     by_cases hk:cz (l.getD i dT)
     ·rw[if_pos hk]
      exact ih (m-1) (i+1) (by omega) (by omega) (by omega) fun j S9=>by
       by_cases e:j=i
       ·rw[e];exact hk
       ·exact hj j (by omega)
     ·rw[if_neg hk]
      have hf:l.all (fun t=>decide (cz t))=false:=by
       rw[List.all_eq_false]
       refine⟨l.getD i dT,?_,by rw[decide_eq_false hk];decide⟩
       rw[List.getD_eq_getElem?_getD,List.getElem?_eq_getElem h];exact List.getElem_mem h
      rw[hf];rfl
    ·have hk: ∀t∈l,cz t:=fun t ht=>by
      obtain⟨k,hk,e⟩:=List.getElem_of_mem ht
      have:=hj k (by omega)
      rw[List.getD_eq_getElem?_getD,List.getElem?_eq_getElem hk]at this
      rw[←e];exact this
     have ha:l.all (fun t=>decide (cz t))=true:=List.all_eq_true.2 fun t ht=>decide_eq_true (hk t ht)
     rw[ax (by omega),cond_false,ha,if_pos rfl]
     exact E4 N (by omega) c w hB hk K7
  exact key l.length N 0 (by omega) (by omega) (by omega) (fun j hj=>absurd hj (by omega))
 ·rw[if_pos (by omega),if_neg K7]
end VM
end
section
namespace VM
open Go VM.F
theorem dq{c:aa}{b:af}(h:bV c b=true):dY c=true:=by
 unfold bV at h
 exact(Bool.and_eq_true_iff.1 h).1
def gp(k:Int):Nat→aE→List Int
 |_,[]=>[]
 |i,x::t=>if x.1=k then(i:Int)::gp k (i+1) t else gp k (i+1) t
theorem m4(k:Int)(i:Nat)(x:br)(t:aE):gp k i (x::t)=if x.1=k then(i:Int)::gp k (i+1) t else gp k (i+1) t:=rfl
def bH(c:aa)(k:Int):List Int:=if dY c then gp k 0 c.1 else []
theorem AZ(N:Nat)(hN:200000≤N)(c:aa)(hl:c.1.length≤100000)(k:Int):ye N c k=some (bH c k):=by
 unfold ye ye.b bH
 rw[nN N (by omega),Option.bind_some,cond_not]
 have:=kD c.1 aK (fun n i s=>ye.l5 N n k c s i) (fun t s=>some (s++gp k (c.1.length-t.length) t)) (fun i (s:List Int)=>s.length≤i) (fun n i s hi hI hr=> ?_) (fun n s hI=> ?_) c.1.length N 0 [] (by omega) (by omega) (by omega) (Nat.le_refl _)
 ·have e:ye.l5 N N k c [] 0=some (gp k 0 c.1):=by
   refine this.trans ?_
   rw[List.drop_zero,Nat.sub_self];rfl
  rw[e];cases dY c<;>rfl
 ·unfold ye.l5 ye.c5
  have e1:c.1.length-(c.1.getD i aK::c.1.drop (i+1)).length=i:=by rw[List.length_cons,List.length_drop];omega
  have e2:c.1.length-(c.1.drop (i+1)).length=i+1:=by rw[List.length_drop];omega
  rw[e2]at hr
  rw[aD (by omega),cond_true,aF (by omega) (by omega),cond_true,Int.toNat_natCast,al (x:=(i:Int)+1) (by omega) (by omega),ae i,au,aZ (by rw[List.length_singleton];omega),cond_true,e1,m4]
  split
  ·rw[hr _ (by rw[List.length_append,List.length_singleton];omega),List.append_assoc];rfl
  ·exact hr s (by omega)
 ·unfold ye.l5 ye.c5
  rw[ax (by omega),cond_false]
  show some s=some (s++[])
  rw[List.append_nil]
def A0(c:aa)(b:af)(i:Nat):Int:=mE b.2.2.2.1 0 (i:Int)*b.2.2.2.2.1.getD i 0
def nR(c:aa)(b:af)(k:Int):Nat→Int
 |0=>0
 |n+1=>nR c b k n+if(c.1.getD n aK).1=k then A0 c b n else 0
theorem uw(c:aa)(b:af)(k:Int)(n:Nat):nR c b k (n+1)=nR c b k n+if(c.1.getD n aK).1=k then A0 c b n else 0:=rfl
def kL(f:Int→Int):ij:=[bn (f 0),bn (f 1),bn (f 2),bn (f 3)]
theorem A2(f:Int→Int){k:Int}(h:0≤k∧k≤3):(kL f).getD k.toNat (false,kQ)=bn (f k):=by
 have:k=0∨k=1∨k=2∨k=3:=by omega
 rcases this with rfl|rfl|rfl|rfl<;>rfl
theorem OB(f:Int→Int){k:Int}(h:0≤k∧k≤3)(v:Int):(kL f).set k.toNat (bn (f k+v))=kL (fun j=>f j+if k=j then v else 0):=by
 have:k=0∨k=1∨k=2∨k=3:=by omega
 unfold kL
 rcases this with rfl|rfl|rfl|rfl<;>simp
theorem MV{a b:Int}(ha:aA a)(hb:bo b): -9223372036854775808000000000000≤a*b∧a*b≤9223372036854775808000000000000:=by
 unfold aA at ha;unfold bo at hb
 have h1:=Int.mul_le_mul_of_nonneg_right ha.1 (show 0≤b by omega)
 have h2:=Int.mul_le_mul_of_nonneg_right (Int.le_of_lt ha.2) (show 0≤b by omega)
 omega
theorem fI{c:aa}(h:dY c=true):c.1.length≤6∧ ∀i,i<c.1.length→0≤(c.1.getD i aK).1∧(c.1.getD i aK).1≤3:=by
 unfold dY at h
 simp only[Bool.and_eq_true]at h
 have h1:=of_decide_eq_true h.1
 have h2:=of_decide_eq_true h.2.1
 exact⟨h1.2,fun i hi=>(h2 i hi).1⟩
theorem E5{l:ah}(h:dz l)(a b:Int):aA (mE l a b):=by
 unfold mE
 cases dh l
 ·show aA 0;decide
 ·exact AV h a b
theorem Du{c:aa}{b:af}(w:eM b)(hB:bV c b=true){i:Nat}(hi:i<c.1.length): -9223372036854775808000000000000≤A0 c b i∧A0 c b i≤9223372036854775808000000000000:=by
 obtain⟨z5,yP⟩:=cK hB
 obtain⟨_,hk⟩:=kj hB
 have h1:aA (mE b.2.2.2.1 0 (i:Int)):=E5 w.qs _ _
 exact MV h1 (kp yP (by omega))
theorem w3{c:aa}{b:af}(w:eM b)(hB:bV c b=true)(k:Int): ∀n,n≤c.1.length→ -(9223372036854775808000000000000*(n:Int))≤nR c b k n∧nR c b k n≤9223372036854775808000000000000*(n:Int)
 |0,_=>⟨Int.le_refl _,Int.le_refl _⟩
 |n+1,h=>by
  have ih:=w3 w hB k n (by omega)
  have ht:=Du w hB (i:=n) (by omega)
  rw[uw]
  split<;>omega
theorem OC{c:aa}{b:af}(w:eM b)(hB:bV c b=true)(k:Int){n:Nat}(h:n≤c.1.length):bA (nR c b k n):=by
 have h6:=(fI (dq hB)).1
 have:=w3 w hB k n h
 unfold bA;omega
def bC(c:aa)(b:af)(k:Int):Int:=nR c b k c.1.length
theorem HJ(N:Nat)(hN:5000000≤N)(c:aa){b:af}(w:eM b):jJ N c b=some (if bV c b then(kL (bC c b),0)else([],1)):=by
 unfold jJ jJ.b
 rw[si N hN w,Option.bind_some,cond_not]
 by_cases hB:bV c b=false
 ·rw[hB];rfl
 rw[Bool.not_eq_false]at hB
 rw[hB,cond_true,if_pos rfl,bG (by omega) (by omega) (by omega),cond_true]
 obtain⟨z5,yP⟩:=cK hB
 obtain⟨h6,Td⟩:=fI (dq hB)
 have key: ∀(m n i:Nat),c.1.length-i≤m→m<n→i≤c.1.length→jJ.l5 N n c b (kL (fun k=>nR c b k i)) (i:Int)=some (kL (bC c b),0):=by
  intro m n
  induction n generalizing m with
  |zero=>intro i _ hn;omega
  |succ n ih=>
   intro i hm hn hi
   unfold jJ.l5 jJ.c5
   by_cases h:i<c.1.length
   ·have hk:=Td i h
    have gC:aH (c.1.getD i aK).1 (kL (fun k=>nR c b k i)).length=true:=aF hk.1 (by
     have g: ∀x:Int,x≤3→x<((4:Nat):Int):=fun x _=>by omega
     exact g _ hk.2)
    have hh:aA (mE b.2.2.2.1 0 (i:Int)):=E5 w.qs _ _
    have JT:=hh
    unfold aA at JT
    have hp:=kp yP (i:=i) (by omega)
    have wq:=hp
    unfold bo at wq
    have ht:=Du w hB h
    have HC:bA (A0 c b i):=by unfold bA;omega
    rw[aD (by omega),cond_true,aF (by omega) (by omega),cond_true,Int.toNat_natCast,gC,cond_true,zx N w.s (by omega),Option.bind_some,cj N (by omega) JT.1 JT.2,Option.bind_some,aF (by omega) (by omega),cond_true,cj N (by omega) (by omega) (by omega),Option.bind_some,lN N (by omega) ((Fit.i64 JT.1 JT.2).mono (by omega)) ((Fit.i64 (by omega) (by omega)).mono (by omega)),Option.bind_some,A2 _ hk]
    have anY:tF N (bn (nR c b (c.1.getD i aK).1 i)) (bn (mE b.2.2.2.1 0 (i:Int)*b.2.2.2.2.1.getD i 0))=some (bn (nR c b (c.1.getD i aK).1 i+A0 c b i)):=eG N (by omega) (g7 (OC w hB _ (by omega))) (g7 HC)
    rw[anY,Option.bind_some,cond_true,OB (fun k=>nR c b k i) hk,al (x:=(i:Int)+1) (by omega) (by omega),ae i]
    exact ih (m-1) (i+1) (by omega) (by omega) (by omega)
   ·have e:i=c.1.length:=by omega
    subst e
    rw[ax (by omega),cond_false];rfl
 have:=key c.1.length N 0 (by omega) (by omega) (by omega)
 have e0:kL (fun k=>nR c b k 0)=List.replicate (4:Int).toNat (false,kQ):=by
  show [bn 0,bn 0,bn 0,bn 0]=_
  rw[ej];rfl
 rw[e0]at this
 exact this
end VM
end
