/- A part of the proof of HedgeDrawn of layer 22: what the functions compute, in plain words. -/
import Derived.Test.YtocmlaipoebfeaaGreatPlain2
import Derived.Test.YtocmlaipoebfeaaGreatVm6
set_option linter.all false
section
namespace VM
open Go VM.F
def Fw(E:aj):Prop:= ∀x∈E,bB (eC x)
def ga(r:bY):pg:=(r.1,(r.2.1,(bl (eC r),())))
theorem Fy(E:aj)(i:Nat):(E.map ga).getD i ((0:Int),((0:Int),(bL,())))=ga (E.getD i aM):=by
 by_cases h:i<E.length
 ·rw[ayC,az0,ayG h,ayC,ayG h];rfl
 ·rw[ayC,azc (by rw[ay1];omega),ayC,azc (by omega)];rfl
theorem FA{l:aj}(h:Fw l)(i:Nat):bB (eC (l.getD i aM)):=by
 by_cases hi:i<l.length
 ·rw[ayC,ayG hi];exact h _ (ay5 hi)
 ·rw[ayC,azc (by omega)];exact⟨by decide,by decide⟩
theorem A8{x:Int}(h:aB x):bB x:=by unfold aB at h;unfold bB;omega
theorem qX{ws:List Int}{x:Int}(h: ∀y∈ws,bB y)(hx:bB x): ∀y∈ws++[x],bB y:=fun y hy=>by
 rcases ayU.1 hy with hy|hy
 ·exact h y hy
 ·rw[ay0.1 hy];exact hx
theorem RS(N:Nat){l:aj}:adj N l=some l:=H6 N
theorem RT(N:Nat)(hN:2000000≤N)(K:bI.DT){E out R:aj}(hq:Fw E)(hl:E.length≤100000)(ho:out.length≤1000000)(r:bY)(hr:aB (eC r))(i:Nat)(hi:i≤1000000):
  bI.Lt N K N (E.map ga) out r [bl (eC r)] R (R.length:Int) (i:Int) (E.map ga) ((E.map ga).length:Int) 0=
   if aB (eC r+cj r.1 r.2.1 E)then K (E.map ga) (if eC r+cj r.1 r.2.1 E=0 then out else out++[(r.1,(r.2.1,(eC r+cj r.1 r.2.1 E,())))]) R (R.length:Int) ((i+1:Nat):Int)else some (aX,(2:Int)):=by
 have:=kK E aM (fun n j ws=>bI.Lt N K n (E.map ga) out r (ws.map bl) R (R.length:Int) (i:Int) (E.map ga) ((E.map ga).length:Int) j)
  (fun t ws=>if aB (ws++ct r.1 r.2.1 t).sum then K (E.map ga) (if(ws++ct r.1 r.2.1 t).sum=0 then out else out++[(r.1,(r.2.1,((ws++ct r.1 r.2.1 t).sum,())))]) R (R.length:Int) ((i+1:Nat):Int)else some (aX,(2:Int)))
  (fun j (ws:List Int)=>ws.length≤j+1∧ ∀x∈ws,bB x)
  (fun n j ws hj hI dg=> ?_) (fun n ws hI=> ?_) E.length N 0 [eC r] (by omega) (by omega) (by omega) ⟨ayJ _,fun x hx=>by rw[ay0.1 hx];exact A8 hr⟩
 ·rw[show((0:Nat):Int)=0 from rfl,ay7]at this
  refine this.trans ?_
  have e:([eC r]++ct r.1 r.2.1 E).sum=eC r+cj r.1 r.2.1 E:=by rw[aBp,azd];rfl
  rw[e]
 ·unfold bI.Lt bI.H8
  rw[aE (by rw[ay1];omega),ayz,aF (by omega) (by rw[ay1];omega),ayz,ayD,Fy,a8 (by rw[ay1,ayA];omega),ayz,ak (x:=(j:Int)+1) (by omega) (by omega),ae j,au,au]
  by_cases h1:(E.getD j aM).1=r.1
  ·by_cases h2:(E.getD j aM).2.1=r.2.1
   ·have hc:ct r.1 r.2.1 (E.getD j aM::E.drop (j+1))=eC (E.getD j aM)::ct r.1 r.2.1 (E.drop (j+1)):=by rw[dk,ayF ⟨h1,h2⟩]
    rw[ayF (show(ga (E.getD j aM)).1=r.1 from h1),ayF (show(ga (E.getD j aM)).2.1=r.2.1 from h2),hc]
    have:=dg (ws++[eC (E.getD j aM)]) ⟨by rw[ayH,ayA];omega,qX hI.2 (FA hq j)⟩
    rw[aze]at this
    refine this.trans ?_
    rw[ayP];rfl
   ·have hc:ct r.1 r.2.1 (E.getD j aM::E.drop (j+1))=ct r.1 r.2.1 (E.drop (j+1)):=by rw[dk,ayE (fun h=>h2 h.2)]
    rw[ayF (show(ga (E.getD j aM)).1=r.1 from h1),ayE (show ¬(ga (E.getD j aM)).2.1=r.2.1 from h2),hc]
    exact dg ws ⟨by omega,hI.2⟩
  ·have hc:ct r.1 r.2.1 (E.getD j aM::E.drop (j+1))=ct r.1 r.2.1 (E.drop (j+1)):=by rw[dk,ayE (fun h=>h1 h.1)]
   rw[ayE (show ¬(ga (E.getD j aM)).1=r.1 from h1),hc]
   exact dg ws ⟨by omega,hI.2⟩
 ·unfold bI.Lt bI.H8
  rw[az (by rw[ay1];omega),ayB,zI N hI.2 (by omega) (by omega),ayy]
  show _=if aB (ws++[]).sum then K (E.map ga) (if(ws++[]).sum=0 then out else out++[(r.1,(r.2.1,((ws++[]).sum,())))]) R (R.length:Int) ((i+1:Nat):Int)else some (aX,(2:Int))
  rw[ay2]
  unfold HT
  by_cases h0:bB ws.sum
  ·rw[ayF h0]
   dsimp only
   rw[wa N h0,ayy,ayL,ayB]
   by_cases h1:aB ws.sum
   ·rw[pf h1]
    dsimp only
    rw[ayL,ayB,cond_not,au,a8 (by rw[ayA];omega),ayz,ak (x:=(i:Int)+1) (by omega) (by omega),ae i,ayF h1]
    split<;>rfl
   ·rw[qU h1,ayE h1]
    rfl
  ·rw[ayE h0,ayE (fun h=>h0 (A8 h))]
   have e:HS N bL=some (zc 0):=wa N (v:=0) ⟨by decide,by decide⟩
   dsimp only
   rw[e,ayy]
   rfl
theorem O6(N:Nat)(hN:2000000≤N){l E R:aj}(hq:Fw E)(hl:E.length≤100000)(hR:R.length≤200000)(hv: ∀r∈R,aB (eC r)∧eC r=cj r.1 r.2.1 l):
  bI.VA N N (E.map ga) [] R (R.length:Int) 0=qT (dV aB (fS l E) (R.map keyOf)):=by
 have:=kK R aM (fun n i out=>bI.VA N n (E.map ga) out R (R.length:Int) i) (fun t out=>qT ((dV aB (fS l E) (t.map keyOf)).map (fun o=>out++o))) (fun i (out:aj)=>out.length≤i)
  (fun n i out hi hI hr=> ?_) (fun n out hI=> ?_) R.length N 0 [] (by omega) (by omega) (by omega) (ayJ _)
 ·rw[show((0:Nat):Int)=0 from rfl,ay7]at this
  refine this.trans ?_
  simp
 ·unfold bI.VA bI.VB
  have hm:R.getD i aM∈R:=by
   rw[ayC,ayG hi];exact ay5 hi
  have QE:=hv _ hm
  have jy:=QE.1
  have fy:=jy
  unfold aB eC at fy
  rw[aE (by omega),ayz,aF (by omega) (by omega),ayz,ayD,mL N fy.1 fy.2,ayy]
  refine(RT N hN _ hq hl (by omega) _ jy i (by omega)).trans ?_
  rw[ay6,lq]
  have ef:fS l E (keyOf (R.getD i aM)).1 (keyOf (R.getD i aM)).2=eC (R.getD i aM)+cj (R.getD i aM).1 (R.getD i aM).2.1 E:=by
   show cj _ _ l+cj _ _ E=_
   rw[QE.2];rfl
  rw[ef]
  generalize hS:eC (R.getD i aM)+cj (R.getD i aM).1 (R.getD i aM).2.1 E=v
  by_cases hF:aB v
  ·rw[ayF hF,ayF hF,hr _ (by
    split
    ·omega
    ·rw[ayH,ayA];omega)]
   cases dV aB (fS l E) ((R.drop (i+1)).map keyOf)with
   |none=>rfl
   |some o=>
    show qT (some _)=qT (some _)
    congr 2
    split
    ·rfl
    ·exact ayP _ _ _
  ·rw[ayE hF,ayE hF];rfl
 ·unfold bI.VA bI.VB
  rw[az (by omega),ayB,RS,ayy]
  show _=qT (some (out++[]))
  rw[ay2];rfl
theorem abk(N:Nat)(C:bI.jA){l:aj}{E S:cI}{K:List cY}(hs:td K)(hl:K.length≤100000)(hf: ∀k∈K,wc k)(x:pg)(k:cY)(hxk:(x.1,x.2.1)=k)(hx:wc k)(hz:zeroAt l K k)(len:Int)(i:Nat)(hi:i≤1000000):
  ∀(m n p:Nat),K.length-p≤m→m<n→p≤K.length→(∀y∈K.take p,pM y k)→
   bI.O7 N C n E (rowsOf l K) x (p:Int) S len (i:Int)=C E (rowsOf l (K.take p++sF k (K.drop p))) S len ((i+1:Nat):Int)
 |m,0,p,_,hn,_,_=>by omega
 |m,n+1,p,hm,hn,hp,hb=>by
  unfold bI.O7 bI.Lu bI.Qm bI.K9
  rw[c5,ak (x:=(i:Int)+1) (by omega) (by omega),ae i]
  have ex:((x.1,(x.2.1,((0:Int),()))):bY)=(k.1,(k.2,((0:Int),()))):=by rw[←hxk]
  by_cases h:p<K.length
  ·have hfk:=hf (K.getD p (0,0)) (by rw[ayC,ayG h];exact ay5 h)
   have ho:Lf N x.1 x.2.1 ((rowsOf l K).getD p aM)=some (xb k.1 k.2 (K.getD p (0,0)).1 (K.getD p (0,0)).2):=by
    rw[DN l h]
    rw[←hxk]at hx ⊢
    exact AV N hx.1 hx.2 hfk.1 hfk.2
   rw[aE (by omega),ayz,aF (by omega) (by omega),ayz,ayD,ho,ayy,cJ (x:=(p:Int)) (by omega),ayB,ayz,ayy,aL,cond_not,au,Nv h]
   by_cases h1:pM (K.getD p (0,0)) k
   ·rw[ayF (wb.2 h1),ayF h1,ak (x:=(p:Int)+1) (by omega) (by omega),ae p,we h]
    refine abk N C hs hl hf x k hxk hx hz len i hi (m-1) n (p+1) (by omega) (by omega) (by omega) fun y hy=> ?_
    rw[←aAo h]at hy
    rcases ayU.1 hy with hy|hy
    ·exact hb y hy
    ·rw[ayC,ayG h]at h1
     rw[ay0.1 hy];exact h1
   ·rw[ayE (fun h=>h1 (wb.1 h)),ayE h1]
    by_cases h2:K.getD p (0,0)=k
    ·rw[ayF (tg.2 h2),ayF h2,azg]
    ·rw[ayE (fun h=>h2 (tg.1 h)),ayE h2,zO N (by rw[c5];omega) (by rw[c5];omega),ayy]
     have Cp:=hz (qW hs hb (Nw hs h h1 h2))
     have e:=qV l K p k
     rw[←th Cp]at e
     refine Eq.trans ?_ (azS (fun R=>C E R S len ((i+1:Nat):Int)) e)
     exact azS (fun z:bY=>C E ((rowsOf l K).take p++z::(rowsOf l K).drop p) S len ((i+1:Nat):Int)) ex
  ·have hd:K.drop p=[]:=aAv (by omega)
   rw[az (by omega),ayB,cQ (by omega),ayz,zO N (by rw[c5];omega) (by rw[c5];omega),ayy]
   have Cp:=hz (qW hs hb (by rw[hd];exact fun x hx=>nomatch hx))
   have e:=qV l K p k
   rw[←th Cp]at e
   have e2:sF k (K.drop p)=k::K.drop p:=by rw[hd];rfl
   rw[e2]
   refine Eq.trans ?_ (azS (fun R=>C E R S len ((i+1:Nat):Int)) e)
   exact azS (fun z:bY=>C E ((rowsOf l K).take p++z::(rowsOf l K).drop p) S len ((i+1:Nat):Int)) ex
theorem O8(N:Nat)(hN:2000000≤N){l E:aj}(hq:Fw E)(hE:E.length≤400)(hp: ∀x∈E,wc (keyOf x))(hs:td (l.map keyOf))(hl:l.length≤90000)(RO:dC l)(C2: ∀x∈l,wc (keyOf x)):
  bI.tK N N (E.map ga) l (E.map ga) ((E.map ga).length:Int) 0=qT (dV aB (fS l E) (kq (l.map keyOf) E)):=by
 have:=kK E aM (fun n i K=>bI.tK N n (E.map ga) (rowsOf l K) (E.map ga) ((E.map ga).length:Int) i) (fun t K=>qT (dV aB (fS l E) (kq K t)))
  (fun i (K:List cY)=>K.length≤l.length+i∧td K∧(∀k∈K,wc k)∧ ∀x∈l,keyOf x∈K)
  (fun n i K hi hI hr=> ?_) (fun n K hI=> ?_) E.length N 0 (l.map keyOf) (by omega) (by omega) (by omega) ⟨by rw[ay1];omega,hs,fun k hk=>by
   obtain⟨x,hx,rfl⟩:=azp.1 hk
   exact C2 x hx,fun x hx=>azi hx⟩
 ·rw[show((0:Nat):Int)=0 from rfl,ay7]at this
  simp only[jz hs]at this
  exact this
 ·unfold bI.tK bI.sC
  obtain⟨h1,h2,h3,h4⟩:=hI
  have hm:E.getD i aM∈E:=by
   rw[ayC,ayG hi];exact ay5 hi
  rw[aE (by rw[ay1];omega),ayz,aF (by omega) (by rw[ay1];omega),ayz,ayD,Fy]
  refine(abk N _ h2 (by omega) h3 (ga (E.getD i aM)) (keyOf (E.getD i aM)) rfl (hp _ hm) (fun hk=>ey fun hx=>hk (by
   obtain⟨x,hx,e⟩:=azp.1 hx
   rw[←e];exact h4 x hx)) ((E.map ga).length:Int) i (by omega) K.length N 0 (by omega) (by omega) (by omega) (fun y hy=>nomatch hy)).trans ?_
  rw[aAz,ay8,ay7,pe]
  refine hr (sF (keyOf (E.getD i aM)) K) ⟨azl (A7 _ K) (by omega),vZ h2,fun k hk=>(n5.1 hk).elim (fun e=>e▸hp _ hm) (h3 k),fun x hx=>n5.2 (Or.inr (h4 x hx))⟩
 ·unfold bI.tK bI.sC
  obtain⟨h1,h2,h3,h4⟩:=hI
  rw[az (by rw[ay1];omega),ayB,c5,bJ (by omega) (by omega) (by omega),ayz]
  have:=O6 N hN (l:=l) (R:=rowsOf l K) hq (by omega) (by rw[c5];omega) (fun r hr=>by
   unfold rowsOf at hr
   obtain⟨k,hk,rfl⟩:=azp.1 hr
   refine⟨?_,rfl⟩
   show aB (cj k.1 k.2 l)
   by_cases hkl:k∈l.map keyOf
   ·have e:rowsOf l (l.map keyOf)=l:=jz hs
    have hm:zi l k∈rowsOf l (l.map keyOf):=azi hkl
    rw[e]at hm
    exact RO (zi l k) hm
   ·rw[ey hkl];exact⟨by decide,by decide⟩)
  rw[yt,c5]at this
  exact this
theorem uP{l:aj}(h:fb l=true):td (l.map keyOf)∧(∀x∈l,ea x.1 x.2.1):=by
 unfold fb at h
 rw[azW]at h
 have h':=ayV h
 have get: ∀(i:Nat) (hi:i<l.length),l.getD i aM=l[i]:=fun i hi=>by rw[ayC,ayG hi];rfl
 have RP: ∀i,i+1<l.length→pM (keyOf (l.getD i aM)) (keyOf (l.getD (i+1) aM)):=fun i hi=>(h' (i+1) hi).2.2 (by omega)
 have dH: ∀j,j<l.length→ ∀i,i<j→pM (keyOf (l.getD i aM)) (keyOf (l.getD j aM)):=by
  intro j
  induction j with
  |zero=>intro _ i hi;omega
  |succ j ih=>
   intro hj i hi
   by_cases e:i=j
   ·rw[e];exact RP j hj
   ·exact tf (ih (by omega) i (by omega)) (RP j hj)
 refine⟨?_,fun x hx=> ?_⟩
 ·refine List.pairwise_map.2 (aBK.2 fun i j hi hj oY=> ?_)
  have:=dH j hj i oY
  rw[get i hi,get j hj]at this
  exact this
 ·obtain⟨i,hi,e⟩:=azG hx
  have:=h' i hi
  unfold iK je at this
  rw[get i hi,e]at this
  exact this.1
structure Ny(E:aj):Prop where
 key: ∀x∈E,ea x.1 x.2.1
 q:Fw E
 len:E.length≤400
 zero:(E.map eC).sum=0
theorem Nz{x:bY}(h:ea x.1 x.2.1):wc (keyOf x):=by
 have h':ea (keyOf x).1 (keyOf x).2:=h
 unfold ea at h'
 unfold wc CX
 omega
theorem RU(N:Nat)(hN:2000000≤N){l E:aj}(hk:fb l=true)(hl:l.length≤90000)(RO:dC l)(g:Ny E):bI N l (E.map ga)=qT (dV aB (fS l E) (kq (l.map keyOf) E)):=by
 obtain⟨hs,C2⟩:=uP hk
 have hE:=g.len
 unfold bI bI.b
 rw[zK N (by omega) (by omega),hk,ayy,ayL,ayB,az (by rw[ay1];omega),ayB,bJ (by omega) (by omega) (by rw[ay1];omega),ayz]
 have:=kK E aM (fun n i (ws:List Int)=>bI.l5 N n l (E.map ga) (ws.map bl) (E.map ga) ((E.map ga).length:Int) i)
  (fun t ws=>if(ws++t.map eC).sum=0 then qT (dV aB (fS l E) (kq (l.map keyOf) E))else none)
  (fun j (ws:List Int)=>ws.length≤j∧(ws++(E.drop j).map eC).sum=0∧ ∀x∈ws,bB x)
  (fun n i ws hi hI hr=> ?_) (fun n ws hI=> ?_) E.length N 0 [] (by omega) (by omega) (by omega) ⟨ayJ _,g.zero,fun x hx=>nomatch hx⟩
 ·rw[show((0:Nat):Int)=0 from rfl,ay7]at this
  refine Eq.trans this ?_
  rw[ay8,ayF g.zero]
 ·unfold bI.l5 bI.c7
  have hm:E.getD i aM∈E:=by
   rw[ayC,ayG hi];exact ay5 hi
  have UX:Ld N (ga (E.getD i aM)).1 (ga (E.getD i aM)).2.1=some true:=by
   rw[Lc]
   exact azS some (ayO (g.key _ hm))
  rw[aE (by rw[ay1];omega),ayz,aF (by omega) (by rw[ay1];omega),ayz,ayD,Fy,UX,ayy,ayL,ayB,a8 (by rw[ay1,ayA];omega),ayz,ak (x:=(i:Int)+1) (by omega) (by omega),ae i]
  have h0:=hI.2.1
  rw[drop_cons hi aM,ay6]at h0
  have:=hr (ws++[eC (E.getD i aM)]) ⟨by rw[ayH,ayA];omega,by rw[ayP];exact h0,qX hI.2.2 (FA g.q i)⟩
  rw[aze]at this
  refine this.trans ?_
  rw[ayP];rfl
 ·unfold bI.l5 bI.c7
  have h0:=hI.2.1
  rw[aAl,az2,ay2]at h0
  rw[az (by rw[ay1];omega),ayB,zI N hI.2.2 (by omega) (by omega),ayy,h0]
  have e0:HT 0=(bl 0,true):=by unfold HT;exact ayF ⟨by decide,by decide⟩
  rw[e0]
  dsimp only
  rw[ayL,ayB,n0,ayy,show lW 0=0 from rfl,cQ rfl,ayL,ayB,sG N (by omega),ayy]
  rw[az2,ay2,ayF h0]
  exact O8 N hN g.q hE (fun x hx=>Nz (g.key x hx)) hs hl RO (fun x hx=>Nz (C2 x hx))
end VM
end
section
namespace VM
open Go VM.F
def iL(r:bY):adk:=(r.1,(r.2.1,(br (eC r),())))
theorem RV{E:aj}{i:Nat}(h:i<E.length):(E.map iL).getD i ((0:Int),((0:Int),((false,kV),())))=iL (E.getD i aM):=by
 rw[ayC,az0,ayG h,ayC,ayG h];rfl
theorem Lv{v:Int}{n:Nat}(hn:n≤1000000)(h0: -(170141183460469231731687303715884105728*(n:Int))≤v)(h1:v≤170141183460469231731687303715884105728*(n:Int)):Fit v 900000:=by
 have h5:Fit v 5:=by
  unfold Fit
  rw[show(4294967296:Nat)^5=1461501637330902918203684832716283019655932542976 from rfl]
  omega
 exact h5.mono (by omega)
theorem ij{v:Int}(h:bB v):Fit v 900000:=Lv (n:=1) (by omega) (by have:=h.1;omega) (by have:=h.2;omega)
theorem O9(N:Nat)(hN:4000000≤N){E:aj}(hq:Fw E)(hl:E.length≤100000)(q a b:Int)(hF:aB q):ku N q a b (E.map iL)=some (zc (q+cj a b E)):=by
 unfold ku ku.b
 have:=kK E aM (fun n j ws=>ku.l3 N n q a b (E.map iL) (br ws.sum) (!ws.isEmpty) j)
  (fun t ws=>some (zc (q+(ws++ct a b t).sum)))
  (fun j (ws:List Int)=>ws.length≤j∧ ∀x∈ws,bB x)
  (fun n j ws hj hI dg=> ?_) (fun n ws hI=> ?_) E.length N 0 [] (by omega) (by omega) (by omega) ⟨ayJ _,fun x hx=>nomatch hx⟩
 ·rw[show((0:Nat):Int)=0 from rfl,ay7,aAe,ez]at this
  exact this
 ·unfold ku.l3 ku.jU
  have H9:=FA hq j
  have hb:=Lb hI.2
  have Ap:uc N (br ws.sum) (iL (E.getD j aM)).2.2.1=some (br (ws.sum+eC (E.getD j aM))):=eM N (by omega) (Lv (n:=ws.length) (by omega) hb.1 hb.2) (ij H9)
  rw[aE (by rw[ay1];omega),ayz,aF (by omega) (by rw[ay1];omega),ayz,ayz,ayz,ayD,RV hj,Ap,ayy,ak (x:=(j:Int)+1) (by omega) (by omega),ae j,au,au]
  by_cases h1:(E.getD j aM).1=a
  ·by_cases h2:(E.getD j aM).2.1=b
   ·have hc:ct a b (E.getD j aM::E.drop (j+1))=eC (E.getD j aM)::ct a b (E.drop (j+1)):=by rw[dk,ayF ⟨h1,h2⟩]
    rw[ayF (show(iL (E.getD j aM)).1=a from h1),ayF (show(iL (E.getD j aM)).2.1=b from h2),hc]
    have:=dg (ws++[eC (E.getD j aM)]) ⟨by rw[ayH,ayA];omega,qX hI.2 H9⟩
    rw[aAs,azd,aAe,aAF,ayP]at this
    refine Eq.trans ?_ this
    rw[show(!(ws++[eC (E.getD j aM)]).isEmpty)=true by cases ws<;>rfl]
   ·have hc:ct a b (E.getD j aM::E.drop (j+1))=ct a b (E.drop (j+1)):=by rw[dk,ayE (fun h=>h2 h.2)]
    rw[ayF (show(iL (E.getD j aM)).1=a from h1),ayE (show ¬(iL (E.getD j aM)).2.1=b from h2),hc]
    exact dg ws ⟨by omega,hI.2⟩
  ·have hc:ct a b (E.getD j aM::E.drop (j+1))=ct a b (E.drop (j+1)):=by rw[dk,ayE (fun h=>h1 h.1)]
   rw[ayE (show ¬(iL (E.getD j aM)).1=a from h1),hc]
   exact dg ws ⟨by omega,hI.2⟩
 ·unfold ku.l3 ku.jU
  have hs:=Lb hI.2
  have Np:=hF
  unfold aB at Np
  rw[az (by rw[ay1];omega),ayB,cn N (by omega) Np.1 Np.2,ayy,eM N (by omega) (Lv (n:=ws.length) (by omega) hs.1 hs.2) ((Fit.i64 Np.1 Np.2).mono (by omega)),ayy,nZ,ayy,cond_not]
  show _=some (zc (q+(ws++[]).sum))
  rw[ay2,Int.add_comm ws.sum q]
  cases ws with
  |nil=>
   show some (q,true)=some (zc (q+0))
   rw[aAF,pf hF]
  |cons w ws=>rfl
theorem VC{l:aj}(hs:td (l.map keyOf))(hl:dC l)(k:cY):aB (cj k.1 k.2 l):=by
 by_cases hk:k∈l.map keyOf
 ·have hm:zi l k∈rowsOf l (l.map keyOf):=azi hk
  rw[jz hs]at hm
  exact hl (zi l k) hm
 ·rw[ey hk];exact⟨by decide,by decide⟩
theorem Ia(N:Nat)(hN:4000000≤N)(C:cL.aY){l E:aj}(hq:Fw E)(hl:E.length≤100000)(hs:td (l.map keyOf))(Dn:l.length≤100000)(hf:dC l)(hw: ∀x∈l,0≤(keyOf x).2∧(keyOf x).2<(25:Nat))(a:Nat)(ha:a≤24)(G:List cY)
  (hc: ∀(p:Nat) (out:aj),Mark l (a+1) 0 p→out.length≤25*(a+1)→C l (E.map iL) out (p:Int) ((a+1:Nat):Int)=sH out (dV aB (fS l E) G)):
  ∀(m n b p:Nat) (out:aj),b+m=25→m<n→Mark l a b p→out.length≤25*a+b→cL.l7 N C n l (E.map iL) out (p:Int) (a:Int) (b:Int)=sH out (dV aB (fS l E) (wg a b m++G))
 |m,0,b,p,out,_,hn,_,_=>by omega
 |0,n+1,b,p,out,hb,_,hM,ho=>by
  have e:b=25:=by omega
  subst e
  unfold cL.l7 cL.mE
  rw[cP (by omega),ayB,ak (x:=(a:Int)+1) (by omega) (by omega),ae a]
  exact hc p out (hM.row hw) (by omega)
 |m+1,n+1,b,p,out,hb,hn,hM,ho=>by
  have hp:=hM.le
  have adi: ∀(p:Nat) (v:Int),Mark l a (b+1) p→cL.l7 N C n l (E.map iL) (if v=0 then out else out++[((a:Int),((b:Int),(v,())))]) (p:Int) (a:Int) ((b+1:Nat):Int)=sH (if v=0 then out else out++[((a:Int),((b:Int),(v,())))]) (dV aB (fS l E) (wg a (b+1) m++G)):=fun p v h=>
   Ia N hN C hq hl hs Dn hf hw a ha G hc m n (b+1) p _ (by omega) (by omega) h (by
    split
    ·omega
    ·rw[ayH,ayA];omega)
  have Oj:=VC hs hf ((a:Int),(b:Int))
  unfold cL.l7 cL.mE
  show _=sH out (dV aB (fS l E) (((a:Int),(b:Int))::(wg a (b+1) m++G)))
  rw[cX (x:=(b:Int)) (by omega),ayz,aL,au,au,ayD]
  have fin: ∀(p:Nat) (q:Int),q=cj (a:Int) (b:Int) l→Mark l a (b+1) p→cL.Fk N C (cL.l7 N C n) l (E.map iL) out (p:Int) (a:Int) (b:Int) q=sH out (dV aB (fS l E) (((a:Int),(b:Int))::(wg a (b+1) m++G))):=fun p q e h=>by
   subst e
   unfold cL.Fk cL.vM
   rw[O9 N hN hq hl _ _ _ Oj,ayy]
   refine Eq.trans ?_ (DQ (k:=((a:Int),(b:Int))) (v:=cj (a:Int) (b:Int) l+cj (a:Int) (b:Int) E) rfl)
   generalize cj (a:Int) (b:Int) l+cj (a:Int) (b:Int) E=v
   have hr:=adi p v h
   by_cases hv:aB v
   ·rw[pf hv,ayF hv]
    dsimp only
    rw[ayL,ayB,cond_not,au,a8 (by rw[ayA];omega),ayz,ak (x:=(b:Int)+1) (by omega) (by omega),ae b,←hr]
    split<;>rfl
   ·rw[qU hv,ayE hv];rfl
  rcases hM.step hs with⟨h1,h2,h3,h4,h5⟩|⟨h1,h2,h3⟩
  ·rw[ayF (show(p:Int)<(l.length:Int)by omega),aF (by omega) (by omega),ayz,ayz,ayF h2,ayF h3,ak (x:=(p:Int)+1) (by omega) (by omega),ae p,ayz]
   exact fin (p+1) _ h4.symm h5
  ·by_cases g1:p<l.length
   ·rw[ayF (show(p:Int)<(l.length:Int)by omega),aF (by omega) (by omega),ayz,ayz]
    by_cases g2:(l.getD p aM).1=(a:Int)
    ·rw[ayF g2,ayE (fun g3=>h1 g1 g2 g3)]
     exact fin p _ h2.symm h3
    ·rw[ayE g2]
     exact fin p _ h2.symm h3
   ·rw[ayE (show ¬(p:Int)<(l.length:Int)by omega)]
    exact fin p _ h2.symm h3
theorem Ib(N:Nat)(hN:4000000≤N){l E:aj}(hq:Fw E)(hl:E.length≤100000)(hs:td (l.map keyOf))(Dn:l.length≤100000)(hf:dC l)(hw: ∀x∈l,0≤(keyOf x).2∧(keyOf x).2<(25:Nat)):
  ∀(m n a p:Nat) (out:aj),a+m=8→m<n→Mark l a 0 p→out.length≤25*a→cL.l4 N n l (E.map iL) out (p:Int) (a:Int)=sH out (dV aB (fS l E) (ue 25 a m))
 |m,0,a,p,out,_,hn,_,_=>by omega
 |0,n+1,a,p,out,ha,_,hM,ho=>by
  unfold cL.l4 cL.cD
  rw[cP (by omega),ayB]
  show some (out,true)=some (out++[],true)
  rw[ay2]
 |m+1,n+1,a,p,out,ha,hn,hM,ho=>by
  unfold cL.l4 cL.cD
  rw[cX (by omega),ayz]
  exact Ia N hN _ hq hl hs Dn hf hw a (by omega) (ue 25 (a+1) m) (fun p out h ho=>Ib N hN hq hl hs Dn hf hw m n (a+1) p out (by omega) (by omega) h ho) 25 N 0 p out (by omega) (by omega) hM (by omega)
def A9:List cY:=ue 25 1 7
theorem VE(N:Nat)(hN:4000000≤N){l E:aj}(hk:fb l=true)(hl:l.length≤90000)(RO:dC l)(hq:Fw E)(hE:E.length≤100000):cL N l (E.map iL)=sH [] (dV aB (fS l E) A9):=by
 obtain⟨hs,C2⟩:=uP hk
 unfold cL cL.b
 refine Ib N hN hq hE hs (by omega) RO (fun x hx=> ?_) 7 N 1 0 [] (by omega) (by omega) ⟨by omega,fun x hx=>(nomatch hx),fun x hx dH=> ?_⟩ (by simp)
 ·have h:ea (keyOf x).1 (keyOf x).2:=C2 x hx
  unfold ea at h;omega
 ·have h:ea (keyOf x).1 (keyOf x).2:=C2 x (az8 hx)
  unfold ea at h
  have sg:(keyOf x).1<((1:Nat):Int)∨((keyOf x).1=((1:Nat):Int)∧(keyOf x).2<((0:Nat):Int)):=dH
  omega
theorem RW{l E:aj}(hk:fb l=true)(hp: ∀x∈E,ea x.1 x.2.1):dV aB (fS l E) (kq (l.map keyOf) E)=dV aB (fS l E) A9:=by
 obtain⟨hs,C2⟩:=uP hk
 refine H5 ⟨by decide,by decide⟩ (uN hs) (xk 25 7 1) (fun k hk=> ?_) (fun k hk hn=> ?_)
 ·have:ea k.1 k.2:=by
   rcases jk.1 hk with h|⟨x,hx,rfl⟩
   ·obtain⟨x,hx,rfl⟩:=azp.1 h
    exact C2 x hx
   ·exact hp x hx
  unfold ea at this
  exact ti.2 (by omega)
 ·have h1:k∉l.map keyOf:=fun h=>hn (jk.2 (Or.inl h))
  have h2:k∉E.map keyOf:=fun h=>by
   obtain⟨x,hx,e⟩:=azp.1 h
   exact hn (jk.2 (Or.inr ⟨x,hx,e⟩))
  unfold fS
  rw[ey h1,ey h2];rfl
def gu(b:ag)(s e:aj):ag×Int:=
 match dV Fq (fS b.2.2.2.1 s) uO with
 |none=>((bE,(cg,(aX,(aX,(cC,(cK,())))))),2)
 |some s'=>match dV aB (fS b.2.2.1 e) A9 with
  |none=>((bE,(cg,(aX,(aX,(cC,(cK,())))))),2)
  |some r'=>((b.1,(b.2.1,(r',(s',b.2.2.2.2)))),0)
theorem RX(N:Nat){b:ag}(w:eS b):VF N b=some b:=by
 unfold VF
 have h1:=w.m;have h2:=w.a;have h3:=w.r;have h4:=w.s;have h5:=w.p;have h6:=w.o
 rw[sG N (by omega),ayy,sG N (by omega),ayy,sG N (by omega),ayy,sG N (by omega),ayy,sG N (by omega),ayy,sG N (by omega),ayy]
end VM
end
section
namespace VM
open Go VM.F
theorem RY(N:Nat)(hN:2000000≤N){b:ag}{s e:aj}(w:eS b)(hr:fb b.2.2.1=true)(hs:dn b.2.2.2.1=true)(lr:b.2.2.1.length≤90000)(ls:b.2.2.2.1.length≤90000)(gs:Nx s)(ge:Ny e):
  F65 N b s (e.map ga)=some (gu b s e):=by
 unfold F65 gu
 rw[RX N w,ayy,Vz N hN hs ls w.qs gs,RU N hN hr lr w.qr ge,O5 hs gs.place,RW hr ge.key]
 unfold qT
 rw[ayy,ayy]
 have e1:aA 2 0=false:=cJ (by omega)
 have e2:aA 0 0=true:=cQ rfl
 cases dV Fq (fS b.2.2.2.1 s) uO with
 |none=>dsimp only;rw[e1];rfl
 |some s'=>
  cases dV aB (fS b.2.2.1 e) A9 with
  |none=>dsimp only;rw[e1,e2];rfl
  |some r'=>dsimp only;rw[e2];rfl
theorem VG(N:Nat)(hN:4000000≤N){b:ag}{s e:aj}(w:eS b)(hr:fb b.2.2.1=true)(hs:dn b.2.2.2.1=true)(lr:b.2.2.1.length≤90000)(ls:b.2.2.2.1.length≤90000)(gs:Nx s)(ge:Ny e):
  xl N b s (e.map iL)=some (gu b s e):=by
 have h1:=gs.len
 have h2:=ge.len
 unfold xl gu
 rw[Ls N hN hs ls w.qs (fun x hx=>(gs.q x hx).1) (by omega),VE N hN hr lr w.qr ge.q (by omega)]
 unfold sH
 rw[ayy,ayy]
 cases dV Fq (fS b.2.2.2.1 s) uO with
 |none=>rfl
 |some s'=>
  cases dV aB (fS b.2.2.1 e) A9 with
  |none=>rfl
  |some r'=>rfl
theorem NA(N:Nat)(C:dh.aY){l:aD}(hl:l.length≤100000)(i:Nat)(hi:i<l.length): ∀(m n k:Nat),i-k≤m→m<n→k≤i→(l.take k).any (n4 (l.getD i aJ).2.2.1 (l.getD i aJ).2.1)=false→
  dh.l9 N C n l (i:Int) (k:Int)=cond ((l.take i).any (n4 (l.getD i aJ).2.2.1 (l.getD i aJ).2.1)) (some false) (C l ((i+1:Nat):Int))
 |m,0,k,_,hn,_,_=>by omega
 |m,n+1,k,hm,hn,hk,hb=>by
  unfold dh.l9 dh.tJ
  by_cases h:k<i
  ·have vO:=NA N C hl i hi (m-1) n (k+1) (by omega) (by omega) (by omega)
   have ht:(l.take (k+1)).any (n4 (l.getD i aJ).2.2.1 (l.getD i aJ).2.1)=n4 (l.getD i aJ).2.2.1 (l.getD i aJ).2.1 (l.getD k aJ):=by
    have ek:l.getD k aJ=l[k]'(by omega):=by rw[ayC,ayG (show k<l.length by omega)];rfl
    rw[←aAo (show k<l.length by omega),List.any_append,hb,ek,List.any_cons,List.any_nil,aAV,aBa]
   have gD:n4 (l.getD i aJ).2.2.1 (l.getD i aJ).2.1 (l.getD k aJ)=true→(l.take i).any (n4 (l.getD i aJ).2.2.1 (l.getD i aJ).2.1)=true:=fun hh=>by
    refine aBq.2 ⟨l.getD k aJ,?_,hh⟩
    rw[ayC,ayG (show k<l.length by omega)]
    exact List.mem_take_iff_getElem.2 ⟨k,by omega,rfl⟩
   rw[aE (by omega),ayz,aF (by omega) (by omega),ayz,aF (by omega) (by omega),ayz,ayz,ayz,ayD,ayD,au,au,ak (x:=(k:Int)+1) (by omega) (by omega),ae k]
   by_cases h1:(l.getD k aJ).2.2.1=(l.getD i aJ).2.2.1
   ·by_cases h2:(l.getD k aJ).2.1=(l.getD i aJ).2.1
    ·rw[ayF h1,ayF h2,gD (by unfold n4 gj;rw[ayO h1,ayO h2];rfl)];rfl
    ·rw[ayF h1,ayE h2]
     exact vO (by rw[ht];unfold n4 gj;rw[ayR h2,aB9])
   ·rw[ayE h1]
    exact vO (by rw[ht];unfold n4 gj;rw[ayR h1,aA3])
  ·have:k=i:=by omega
   subst this
   rw[az (by omega),ayB,hb,ayB,ak (x:=(k:Int)+1) (by omega) (by omega),ae k]
theorem sI(N:Nat){l:aD}(hl:l.length≤100000)(hN:200000≤N):dh N l=some (RL l):=by
 unfold dh dh.b RL
 by_cases h40:l.length≤40
 ·rw[az (by omega),ayB,ayO h40]
  refine eR (F:=fun n i=>dh.l4 N n l i) (vY l) (fun n i r hi hp hr=> ?_) (fun n=> ?_) N (by omega)
  ·unfold dh.l4 dh.cD dh.j8 dh.RZ
   have gD:dh.l9 N (dh.l4 N n) N l (i:Int) 0=_:=NA N (dh.l4 N n) hl i hi i N 0 (by omega) (by omega) (by omega) rfl
   rw[aE (by omega),ayz,aF (by omega) (by omega),ayz,ayz,ayD,Ns,ayy,cond_not,cq,gD,hr]
   have hT:cond ((l.take i).any (n4 (l.getD i aJ).2.2.1 (l.getD i aJ).2.1)) (some false) r=if(l.take i).any (n4 (l.getD i aJ).2.2.1 (l.getD i aJ).2.1)=false then r else some false:=by
    cases(l.take i).any (n4 (l.getD i aJ).2.2.1 (l.getD i aJ).2.1)<;>rfl
   rw[hT]
   by_cases hK:DJ (l.getD i aJ)
   ·rw[ayF hK]
    have hD:(if vY l i then r else some false)=if p9 i (l.getD (i-1) aJ).1 (l.getD i aJ).1 then(if(l.take i).any (n4 (l.getD i aJ).2.2.1 (l.getD i aJ).2.1)=false then r else some false)else some false:=by
     by_cases h1:p9 i (l.getD (i-1) aJ).1 (l.getD i aJ).1<;>by_cases h2:(l.take i).any (n4 (l.getD i aJ).2.2.1 (l.getD i aJ).2.1)=false
     ·rw[ayF h1,ayF h2,ayF ⟨hK,h1,h2⟩]
     ·rw[ayF h1,ayE h2,ayE (fun h=>h2 h.2.2)]
     ·rw[ayE h1,ayE (fun h=>h1 h.2.1)]
     ·rw[ayE h1,ayE (fun h=>h1 h.2.1)]
    rw[hD]
    by_cases h0:0<i
    ·have e:W .i64 ((i:Int)-1)=((i-1:Nat):Int):=by rw[ak (by omega) (by omega)];omega
     rw[aE (x:=0) (y:=(i:Int)) (by omega),ayz,e]
     dsimp only
     rw[ayD,aF (by omega) (by omega),ayz,bm]
     by_cases h1:p9 i (l.getD (i-1) aJ).1 (l.getD i aJ).1
     ·rw[ayF h1,ayE (by unfold p9 at h1;omega)]
     ·rw[ayE h1,ayF (by unfold p9 at h1;omega)]
    ·rw[az (x:=0) (y:=(i:Int)) (by omega),ayB,ayF (show p9 i (l.getD (i-1) aJ).1 (l.getD i aJ).1 from fun h=>absurd h h0)]
   ·rw[ayE hK,ayE (fun h=>hK h.1)]
  ·unfold dh.l4 dh.cD
   rw[az (by omega),ayB]
 ·rw[aE (by omega),ayz,ayR h40,aB9]
end VM
end
section
namespace VM
open Go VM.F
def qY(s w p:Int):Prop:=((s=1∨s=3)∧w=0∧p=0)∨(s=2∧1≤w∧w≤12∧ -1152921504606846976≤p∧p≤1152921504606846976)
instance(s w p:Int):Decidable (qY s w p):=by unfold qY;infer_instance
def Ba(a:Int):Prop:=1≤a∧a≤1099511627776
instance(a:Int):Decidable (Ba a):=by unfold Ba;infer_instance
def leI(a b:Int):Prop:=a≤b
instance(a b:Int):Decidable (leI a b):=by unfold leI;infer_instance
def zP(c:aa)(l:ba)(i:Nat):Prop:=
 Ba (l.getD i ((0:Int),(bE,aJ))).1∧p9 i (l.getD (i-1) ((0:Int),(bE,aJ))).1 (l.getD i ((0:Int),(bE,aJ))).1∧ ¬gj ((l.getD i ((0:Int),(bE,aJ))).2.1.length:Int) 0∧ko c (l.getD i ((0:Int),(bE,aJ))).2.1=true∧leI (l.getD i ((0:Int),(bE,aJ))).2.2.1 0∧qY (l.getD i ((0:Int),(bE,aJ))).2.2.2.1 (l.getD i ((0:Int),(bE,aJ))).2.2.2.2.1 (l.getD i ((0:Int),(bE,aJ))).2.2.2.2.2.1
instance(c:aa)(l:ba):DecidablePred (zP c l):=fun i=>by unfold zP;infer_instance
def Lw(c:aa)(l:ba):Bool:=ec c&&(decide (l.length≤12)&&(decide (∀j,j<l.length→zP c l j)&&true))
def Ic(l:ba):Prop:= ∀x∈l,x.2.1.length≤100000
theorem Lx{l:ba}(h:Ic l)(i:Nat):(l.getD i ((0:Int),(bE,aJ))).2.1.length≤100000:=by
 by_cases hi:i<l.length
 ·rw[ayC,ayG hi];exact h _ (ay5 hi)
 ·rw[ayC,azc (by omega)];exact azn _
theorem VH(s w p:Int)(r:Option Bool):
  cond (aA s 1) (cond (!aA w 0) (some false) (cond (!aA p 0) (some false) r)) (cond (aA s 3) (cond (!aA w 0) (some false) (cond (!aA p 0) (some false) r)) (cond (aA s 2) (cond (aG w 1) (some false) (cond (aG 12 w) (some false) (cond (aG p (-1152921504606846976)) (some false) (cond (aG 1152921504606846976 p) (some false) r)))) (some false)))=
   if qY s w p then r else some false:=by
 simp only[cond_not,au,aL]
 by_cases h:qY s w p
 ·rw[ayF h];unfold qY at h
  repeat' split
  all_goals first|rfl|omega
 ·rw[ayE h];unfold qY at h
  repeat' split
  all_goals first|rfl|omega
theorem Pb{A B C D E F:Prop} [Decidable A] [Decidable B] [Decidable C] [Decidable D] [Decidable E] [Decidable F](r:Option Bool):
  (if A then(if B then(if C then(if D then(if E then(if F then r else some false)else some false)else some false)else some false)else some false)else some false)=if A∧B∧C∧D∧E∧F then r else some false:=by
 by_cases hA:A<;>by_cases hB:B<;>by_cases hC:C<;>by_cases hD:D<;>by_cases hE:E<;>by_cases hF:F<;>simp only[hA,hB,hC,hD,hE,hF,aBc,aAt,and_self,az4,and_false,false_and,true_and]
theorem R1{a b n f s w p:Int}{i:Nat}{o:Bool}{r:Option Bool}:
  cond (aG a 1) (some false) (cond (aG 1099511627776 a) (some false) (if p9 i b a then(cond (aA n 0) (some false) (cond (!o) (some false) (cond (aG 0 f) (some false) (if qY s w p then r else some false))))else some false))=
   if Ba a∧p9 i b a∧ ¬gj n 0∧o=true∧leI f 0∧qY s w p then r else some false:=by
 rw[←Pb]
 simp only[cond_not,au,aL]
 by_cases h1:Ba a
 ·have m9:=h1
  unfold Ba at m9
  rw[ayF h1,ayE (by omega),ayE (by omega)]
  by_cases h2:p9 i b a
  ·rw[ayF h2,ayF h2]
   by_cases h3:n=0
   ·rw[ayF h3,ayE (show ¬ ¬gj n 0 from fun h=>h h3)]
   ·rw[ayE h3,ayF (show ¬gj n 0 from h3)]
    cases o
    ·rfl
    ·rw[ayz,ayF rfl]
     by_cases h4:f≤0
     ·rw[ayF (show leI f 0 from h4),ayE (by omega)]
     ·rw[ayE (show ¬leI f 0 from h4),ayF (by omega)]
  ·rw[ayE h2,ayE h2]
 ·have m9:=h1
  unfold Ba at m9
  rw[ayE h1]
  by_cases h2:a<1
  ·rw[ayF h2]
  ·rw[ayE h2,ayF (by omega)]
theorem R2{i:Nat}{a b:Int}{r:Option Bool}(h0:0<i):cond (bX a b) (some false) r=if p9 i b a then r else some false:=by
 rw[bm]
 by_cases h1:p9 i b a
 ·rw[ayF h1,ayE (by unfold p9 at h1;omega)]
 ·rw[ayE h1,ayF (by unfold p9 at h1;omega)]
theorem Bb(N:Nat)(hN:200000≤N)(c:aa){l:ba}(hl:l.length≤100000)(hw:Ic l):fG N c l=some (Lw c l):=by
 unfold fG fG.b Lw
 rw[lZ N (by omega),ayy]
 cases ec c
 ·rfl
 rw[ayL,ayB,aAa]
 by_cases h12:l.length≤12
 ·rw[az (by omega),ayB,ayO h12,aAa]
  refine eR (F:=fun n i=>fG.l4 N n l c i) (zP c l) (fun n i r hi hp hr=> ?_) (fun n=> ?_) N (by omega)
  ·unfold fG.l4 fG.cD fG.j9 fG.La
   rw[aE (by omega),ayz,aF (by omega) (by omega),ayz,ayD,qb N hN c (Lx hw i),ayy,ak (x:=(i:Int)+1) (by omega) (by omega),ae i,hr,VH]
   refine Eq.trans ?_ R1
   by_cases h0:0<i
   ·have e:W .i64 ((i:Int)-1)=((i-1:Nat):Int):=by rw[ak (by omega) (by omega)];omega
    rw[aE (x:=0) (y:=(i:Int)) (by omega),ayz,e]
    dsimp only
    rw[ayD,aF (by omega) (by omega),ayz,R2 h0]
   ·rw[az (x:=0) (y:=(i:Int)) (by omega),ayB,ayF (show p9 i (l.getD (i-1) ((0:Int),(bE,aJ))).1 (l.getD i ((0:Int),(bE,aJ))).1 from fun h=>absurd h h0)]
  ·unfold fG.l4 fG.cD
   rw[az (by omega),ayB]
 ·rw[aE (by omega),ayz,ayR h12,aA3]
end VM
end
section
namespace VM
open Go VM.F
abbrev AwS:=aj×aj×ba
def NB(a:Int):Prop:=0≤a∧a<6
structure R3(t:av):Prop where
 len:t.length≤6
 inst: ∀y∈t,NB y.1
 q: ∀y∈t,aB y.2.1∧ym y.2.1
structure abl(z:AwS)(i:Nat):Prop where
 place: ∀x∈z.1,ca x.1 x.2.1
 q: ∀x∈z.1,aB (eC x)∧ym (eC x)
 len:z.1.length≤12*i
 flat: ∀a:Int,(ed a z.1).sum=0
 key: ∀x∈z.2.1,ea x.1 x.2.1
 qe: ∀x∈z.2.1,aB (eC x)
 awe:z.2.1.length≤2*i
 zero:(z.2.1.map eC).sum=0
 out:z.2.2.length=i
theorem Ud(a:Int)(l m:aj):ed a (l++m)=ed a l++ed a m:=by
 induction l with
 |nil=>rfl
 |cons x t ih=>
  rw[azY,fL,fL,ih]
  split<;>rfl
theorem abl.nil:abl ([],[],[]) 0:=⟨fun x hx=>(nomatch hx),fun x hx=>(nomatch hx),ayJ _,fun a=>rfl,fun x hx=>(nomatch hx),fun x hx=>(nomatch hx),ayJ _,rfl,rfl⟩
end VM
end
section
namespace VM
open Go VM.F
theorem kv{c:aa}{b:ag}(h:bW c b=true):fb b.2.2.1=true∧dn b.2.2.2.1=true:=by
 unfold bW at h
 have h1:=(azf.1 (azf.1 h).2).2
 have h2:=azf.1 h1
 have h3:=(azf.1 (azf.1 h2.2).2).1
 refine⟨h2.1,?_⟩
 unfold xi at h3
 exact(azf.1 h3).2
structure ni(b:ag):Prop where
 w:eS b
 r:b.2.2.1.length≤90000
 s:b.2.2.2.1.length≤90000
end VM
end
section
namespace VM
open Go VM.F
end VM
end
section
namespace VM
open Go VM.F
theorem b9(x:Int):aA x x=true:=cQ rfl
theorem R4(x:Lk):jT (.pair (.int .i64) (.pair (.int .i64) .unit)) x x=true:=by
 show(aA x.1 x.1&&(aA x.2.1 x.2.1&&true))=true
 rw[b9,b9];rfl
theorem Ly(x:bY):jT (.pair (.int .i64) (.pair (.int .i64) (.pair (.int .i64) .unit))) x x=true:=by
 show(aA x.1 x.1&&jT (.pair (.int .i64) (.pair (.int .i64) .unit)) x.2 x.2)=true
 rw[b9,R4];rfl
theorem Bc(x:bp):jT (.pair (.int .i64) (.pair (.int .i64) (.pair (.int .i64) (.pair (.int .i64) .unit)))) x x=true:=by
 show(aA x.1 x.1&&jT (.pair (.int .i64) (.pair (.int .i64) (.pair (.int .i64) .unit))) x.2 x.2)=true
 rw[b9,Ly];rfl
theorem adl(x:cr):jT (.pair (.int .i64) (.pair (.int .i64) (.pair (.int .i64) (.pair (.int .i64) (.pair (.int .i64) (.pair (.int .i64) .unit)))))) x x=true:=by
 show(aA x.1 x.1&&(aA x.2.1 x.2.1&&jT (.pair (.int .i64) (.pair (.int .i64) (.pair (.int .i64) (.pair (.int .i64) .unit)))) x.2.2 x.2.2))=true
 rw[b9,b9,Bc];rfl
theorem jB{F:Nat→Int→Option Bool}{len:Nat}(hs: ∀n (i:Nat),i<len→F n ((i+1:Nat):Int)=some true→F (n+1) (i:Int)=some true)(he: ∀n,F (n+1) (len:Int)=some true): ∀(m n i:Nat),len-i≤m→m<n→i≤len→F n (i:Int)=some true
 |m,0,i,_,hn,_=>by omega
 |m,n+1,i,hm,hn,hi=>by
  by_cases h:i<len
  ·exact hs n i h (jB hs he (m-1) n (i+1) (by omega) (by omega) (by omega))
  ·have:i=len:=by omega
   subst this;exact he n
theorem Ie(N:Nat){l:av}(hl:l.length≤100000)(hN:200000≤N):mP N l l=some true:=by
 unfold mP mP.b
 rw[b9,ayL,ayB]
 refine jB (F:=fun n i=>mP.l4 N n l l i) (len:=l.length) (fun n i hi hr=> ?_) (fun n=> ?_) l.length N 0 (by omega) (by omega) (by omega)
 ·unfold mP.l4 mP.cD
  rw[aE (by omega),ayz,aF (by omega) (by omega),ayz,ayz,R4,ayL,ayB,ak (x:=(i:Int)+1) (by omega) (by omega),ae i]
  exact hr
 ·unfold mP.l4 mP.cD
  rw[az (by omega),ayB]
theorem R5(N:Nat){l:aD}(hl:l.length≤100000)(hN:200000≤N):mQ N l l=some true:=by
 unfold mQ mQ.b
 rw[b9,ayL,ayB]
 refine jB (F:=fun n i=>mQ.l4 N n l l i) (len:=l.length) (fun n i hi hr=> ?_) (fun n=> ?_) l.length N 0 (by omega) (by omega) (by omega)
 ·unfold mQ.l4 mQ.cD
  rw[aE (by omega),ayz,aF (by omega) (by omega),ayz,ayz,Bc,ayL,ayB,ak (x:=(i:Int)+1) (by omega) (by omega),ae i]
  exact hr
 ·unfold mQ.l4 mQ.cD
  rw[az (by omega),ayB]
theorem R6(N:Nat){l:aj}(hl:l.length≤100000)(hN:200000≤N):zj N l l=some true:=by
 unfold zj zj.b
 rw[b9,ayL,ayB]
 refine jB (F:=fun n i=>zj.l4 N n l l i) (len:=l.length) (fun n i hi hr=> ?_) (fun n=> ?_) l.length N 0 (by omega) (by omega) (by omega)
 ·unfold zj.l4 zj.cD
  rw[aE (by omega),ayz,aF (by omega) (by omega),ayz,ayz,Ly,ayL,ayB,ak (x:=(i:Int)+1) (by omega) (by omega),ae i]
  exact hr
 ·unfold zj.l4 zj.cD
  rw[az (by omega),ayB]
theorem Pd(N:Nat){l:aj}(hl:l.length≤100000)(hN:200000≤N):zk N l l=some true:=by
 unfold zk zk.b
 rw[b9,ayL,ayB]
 refine jB (F:=fun n i=>zk.l4 N n l l i) (len:=l.length) (fun n i hi hr=> ?_) (fun n=> ?_) l.length N 0 (by omega) (by omega) (by omega)
 ·unfold zk.l4 zk.cD
  rw[aE (by omega),ayz,aF (by omega) (by omega),ayz,ayz,Ly,ayL,ayB,ak (x:=(i:Int)+1) (by omega) (by omega),ae i]
  exact hr
 ·unfold zk.l4 zk.cD
  rw[az (by omega),ayB]
theorem LA(N:Nat){l:aU}(hl:l.length≤100000)(hN:200000≤N):zl N l l=some true:=by
 unfold zl zl.b
 rw[b9,ayL,ayB]
 refine jB (F:=fun n i=>zl.l4 N n l l i) (len:=l.length) (fun n i hi hr=> ?_) (fun n=> ?_) l.length N 0 (by omega) (by omega) (by omega)
 ·unfold zl.l4 zl.cD
  rw[aE (by omega),ayz,aF (by omega) (by omega),ayz,ayz,adl,ayL,ayB,ak (x:=(i:Int)+1) (by omega) (by omega),ae i]
  exact hr
 ·unfold zl.l4 zl.cD
  rw[az (by omega),ayB]
theorem R7(N:Nat){l:List (Int)}(hl:l.length≤100000)(hN:200000≤N):zm N l l=some true:=by
 unfold zm zm.b
 rw[b9,ayL,ayB]
 refine jB (F:=fun n i=>zm.l4 N n l l i) (len:=l.length) (fun n i hi hr=> ?_) (fun n=> ?_) l.length N 0 (by omega) (by omega) (by omega)
 ·unfold zm.l4 zm.cD
  rw[aE (by omega),ayz,aF (by omega) (by omega),ayz,ayz,b9,ayL,ayB,ak (x:=(i:Int)+1) (by omega) (by omega),ae i]
  exact hr
 ·unfold zm.l4 zm.cD
  rw[az (by omega),ayB]
theorem R8(N:Nat)(hN:200000≤N){b:ag}(h1:b.1.length≤100000)(h2:b.2.1.length≤100000)(h3:b.2.2.1.length≤100000)(h4:b.2.2.2.1.length≤100000)(h5:b.2.2.2.2.1.length≤100000)(h6:b.2.2.2.2.2.1.length≤100000):F57 N b b=some true:=by
 unfold F57
 rw[Ie N h1 hN,ayy,ayz,R5 N h2 hN,ayy,ayz,R6 N h3 hN,ayy,ayz,Pd N h4 hN,ayy,ayz,R7 N h5 hN,ayy,ayz,LA N h6 hN,ayy]
theorem Bd{P:Int→Prop} [DecidablePred P]{f:Int→Int→Int}: ∀{K:List cY} {o:aj},dV P f K=some o→o.length≤K.length
 |[],o,h=>by
  have:some []=some o:=h
  rw[←aB0 this];exact ayJ _
 |k::t,o,h=>by
  rw[lq]at h
  by_cases hP:P (f k.1 k.2)
  ·rw[ayF hP]at h
   cases hc:dV P f t with
   |none=>rw[hc]at h;exact absurd h (by simp)
   |some r=>
    have ih:=Bd hc
    rw[hc]at h
    have h':=aB0 h
    rw[←h',ayI]
    dsimp only
    split
    ·omega
    ·rw[ayI];omega
  ·rw[ayE hP]at h;exact absurd h (by simp)
theorem LB:uO.length=150:=by decide+kernel
theorem Pe:A9.length=175:=by decide+kernel
structure Be(b:ag):Prop where
 m:b.1.length≤100000
 a:b.2.1.length≤100000
 r:b.2.2.1.length≤100000
 s:b.2.2.2.1.length≤100000
 p:b.2.2.2.2.1.length≤100000
 o:b.2.2.2.2.2.1.length≤100000
theorem nH:Be (([]:av),(([]:aD),(([]:aj),(([]:aj),(([]:List Int),(([]:aU),())))))):=⟨azn _,azn _,azn _,azn _,azn _,azn _⟩
theorem Ig{b:ag}(w:eS b)(s e:aj):Be (gu b s e).1:=by
 unfold gu
 cases h1:dV Fq (fS b.2.2.2.1 s) uO with
 |none=>exact nH
 |some s'=>
  cases h2:dV aB (fS b.2.2.1 e) A9 with
  |none=>exact nH
  |some r'=>
   have g1:=Bd h1
   have g2:=Bd h2
   rw[LB]at g1
   rw[Pe]at g2
   exact⟨w.m,w.a,by show r'.length≤_;omega,by show s'.length≤_;omega,w.p,w.o⟩
end VM
end
section
namespace VM
open Go VM.F Go.RowKit
def iW(a b:Int):aj→Int
 |[]=>0
 |x::t=>if x.1=a then(if x.2.1=b then x.2.2.1 else iW a b t)else iW a b t
theorem ky(a b:Int)(x:bY)(t:aj):iW a b (x::t)=if x.1=a then(if x.2.1=b then x.2.2.1 else iW a b t)else iW a b t:=rfl
def mR(l:aj)(a b:Int):Int:=if dn l then iW a b l else 0
def rE(l:aj)(a b:Int):Int:=if fb l then iW a b l else 0
theorem zQ(N:Nat){l:aj}(hl:l.length≤100000)(hN:200000≤N)(a b:Int):wS N l a b=some (mR l a b):=by
 unfold wS wS.b mR
 rw[nG N hl hN,ayy,cond_not]
 have:=vN l aM (fun n i=>wS.l4 N n l a b i) (fun t=>some (iW a b t)) (fun n i hi hr=> ?_) (fun n=> ?_) N (by omega)
 ·rw[this];cases dn l<;>rfl
 ·unfold wS.l4 wS.cD
  rw[aE (by omega),ayz,aF (by omega) (by omega),ayz,ayz,ayz,ayD,ak (x:=(i:Int)+1) (by omega) (by omega),ae i,hr,au,au,ky]
  split
  ·split<;>rfl
  ·rfl
 ·unfold wS.l4 wS.cD
  rw[az (by omega),ayB];rfl
theorem LC(N:Nat){l:aj}(hl:l.length≤100000)(hN:200000≤N)(a b:Int):qZ N l a b=some (rE l a b):=by
 unfold qZ qZ.b rE
 rw[AW N hl hN,ayy,cond_not]
 have:=vN l aM (fun n i=>qZ.l4 N n l a b i) (fun t=>some (iW a b t)) (fun n i hi hr=> ?_) (fun n=> ?_) N (by omega)
 ·rw[this];cases fb l<;>rfl
 ·unfold qZ.l4 qZ.cD
  rw[aE (by omega),ayz,aF (by omega) (by omega),ayz,ayz,ayz,ayD,ak (x:=(i:Int)+1) (by omega) (by omega),ae i,hr,au,au,ky]
  split
  ·split<;>rfl
  ·rfl
 ·unfold qZ.l4 qZ.cD
  rw[az (by omega),ayB];rfl
theorem NC{l:aj}(h: ∀i,i<l.length→aB (eC (l.getD i aM))):dC l:=fun x hx=>by
 obtain⟨i,hi,e⟩:=azG hx
 have:=h i hi
 rw[ayC,ayG hi]at this
 rw[←e];exact this
namespace Pure
end Pure
end VM
end
section
namespace VM
open Go VM.F
theorem VI(N:Nat){l:aj}(hl:l.length≤100000)(hN:200000≤N)(a b:Int):mj N l a b=some (rE l a b):=by
 unfold mj mj.b rE
 rw[zK N hl hN,ayy,cond_not]
 have:=vN l aM (fun n i=>mj.l4 N n a b l (l.length:Int) i) (fun t=>some (iW a b t)) (fun n i hi hr=> ?_) (fun n=> ?_) N (by omega)
 ·rw[this];cases fb l<;>rfl
 ·unfold mj.l4 mj.cD
  rw[aE (by omega),ayz,aF (by omega) (by omega),ayz,ayD,ak (x:=(i:Int)+1) (by omega) (by omega),ae i,hr,au,au,ky]
  split
  ·split<;>rfl
  ·rfl
 ·unfold mj.l4 mj.cD
  rw[az (by omega),ayB];rfl
theorem Bf{l:aj}(h:dC l)(a b:Int):aB (iW a b l):=by
 induction l with
 |nil=>show aB 0;decide
 |cons x t ih=>
  have ih:=ih (fun y hy=>h y (ayK _ hy))
  rw[ky]
  split
  ·split
   ·exact h x (ayN ..)
   ·exact ih
  ·exact ih
theorem Bh{l:aj}(h:dC l)(a b:Int):aB (rE l a b):=by
 unfold rE
 split
 ·exact Bf h a b
 ·exact⟨by decide,by decide⟩
def gR(a:Int):aj→av
 |[]=>[]
 |x::t=>if x.1=a then(x.2.1,(x.2.2.1,()))::gR a t else gR a t
theorem jC(a:Int)(x:bY)(t:aj):gR a (x::t)=if x.1=a then(x.2.1,(x.2.2.1,()))::gR a t else gR a t:=rfl
def posOf(l:aj)(a:Int):av:=if dn l then gR a l else []
theorem Bi(a:Int): ∀l:aj,(gR a l).length≤l.length
 |[]=>ayJ _
 |x::t=>by
  have:=Bi a t
  rw[jC,ayI]
  split
  ·rw[ayI];omega
  ·omega
theorem tj(a:Int)(l:aj):(posOf l a).length≤l.length:=by
 unfold posOf
 split
 ·exact Bi a l
 ·exact azn _
theorem fR{a:Int}{y:Lk}: ∀{l:aj},y∈gR a l→ ∃x∈l,x.1=a∧y=(x.2.1,(x.2.2.1,()))
 |[],h=>nomatch h
 |x::t,h=>by
  rw[jC]at h
  by_cases e:x.1=a
  ·rw[ayF e]at h
   rcases ayY.1 h with h|h
   ·exact⟨x,ayN ..,e,h⟩
   ·obtain⟨x',hx,h'⟩:=fR h
    exact⟨x',ayK _ hx,h'⟩
  ·rw[ayE e]at h
   obtain⟨x',hx,h'⟩:=fR h
   exact⟨x',ayK _ hx,h'⟩
theorem wi{l:aj}(h:dC l)(a:Int): ∀y∈posOf l a,aB y.2.1:=fun y hy=>by
 unfold posOf at hy
 split at hy
 ·obtain⟨x,hx,_,rfl⟩:=fR hy
  exact h x hx
 ·nomatch hy
theorem abm(N:Nat){l:aj}(hl:l.length≤100000)(hN:200000≤N)(a:Int):lx N l a=some (posOf l a):=by
 unfold lx lx.b posOf
 rw[vP N hl hN,ayy,cond_not]
 have:=kK l aM (fun n i s=>lx.l5 N n a s l (l.length:Int) i) (fun t s=>some (s++gR a t)) (fun i (s:av)=>s.length≤i) (fun n i s hi hI hr=> ?_) (fun n s hI=> ?_) l.length N 0 [] (by omega) (by omega) (by omega) (ayJ _)
 ·have e:lx.l5 N N a [] l (l.length:Int) 0=some (gR a l):=this
  rw[e];cases dn l<;>rfl
 ·unfold lx.l5 lx.c7
  rw[aE (by omega),ayz,aF (by omega) (by omega),ayz,ayD,ak (x:=(i:Int)+1) (by omega) (by omega),ae i,au,a8 (by rw[ayA];omega),ayz,jC]
  split
  ·rw[hr _ (by rw[ayH,ayA];omega),ayP];rfl
  ·exact hr s (by omega)
 ·unfold lx.l5 lx.c7
  rw[az (by omega),ayB]
  show some s=some (s++[])
  rw[ay2]
theorem FB(N:Nat){l:aj}(hl:l.length≤100000)(hN:200000≤N)(a:Int):ug N l a=some (posOf l a):=by
 unfold ug ug.b posOf
 rw[nG N hl hN,ayy,cond_not]
 have:=kK l aM (fun n i s=>ug.l5 N n l a s i) (fun t s=>some (s++gR a t)) (fun i (s:av)=>s.length≤i) (fun n i s hi hI hr=> ?_) (fun n s hI=> ?_) l.length N 0 [] (by omega) (by omega) (by omega) (ayJ _)
 ·have e:ug.l5 N N l a [] 0=some (gR a l):=this
  rw[e];cases dn l<;>rfl
 ·unfold ug.l5 ug.c7
  rw[aE (by omega),ayz,aF (by omega) (by omega),ayz,ayz,ayz,ayD,ak (x:=(i:Int)+1) (by omega) (by omega),ae i,au,a8 (by rw[ayA];omega),ayz,jC]
  split
  ·rw[hr _ (by rw[ayH,ayA];omega),ayP];rfl
  ·exact hr s (by omega)
 ·unfold ug.l5 ug.c7
  rw[az (by omega),ayB]
  show some s=some (s++[])
  rw[ay2]
def nj(a n:Int):Prop:=0≤a∧a<n
end VM
end
section
namespace VM
open Go VM.F
theorem R9{hi:Int}: ∀{l:List Int} {lo:Int},l.Pairwise (· < ·)→(∀x∈l,lo≤x∧x<hi)→lo≤hi→(l.length:Int)≤hi-lo
 |[],lo,_,_,h=>by rw[ayW];omega
 |x::t,lo,hp,hm,h=>by
  obtain⟨h1,h2⟩:=azk.1 hp
  have hx:=hm x (ayN ..)
  have ih:=R9 (lo:=x+1) h2 (fun y hy=>⟨h1 y hy,(hm y (ayK _ hy)).2⟩) (by omega)
  rw[ayI];omega
theorem yu{a:Int}: ∀{l:aj},td (l.map keyOf)→((gR a l).map (fun y=>(y.1:Int))).Pairwise (· < ·)
 |[],_=>List.Pairwise.nil
 |x::t,h=>by
  obtain⟨h1,h2⟩:=azk.1 h
  have ih:=yu (a:=a) h2
  rw[jC]
  by_cases e:x.1=a
  ·rw[ayF e,ay6]
   refine azk.2 ⟨fun z hz=> ?_,ih⟩
   obtain⟨y,hy,rfl⟩:=azp.1 hz
   obtain⟨x',hx,e',rfl⟩:=fR hy
   have hk:=h1 (keyOf x') (azi hx)
   have g: ∀p q r s:Int,p=a→r=a→iv p q r s→q<s:=fun p q r s h1 h2 h=>by unfold iv at h;omega
   exact g _ _ _ _ e e' hk
  ·rw[ayE e];exact ih
theorem Sa{l:aj}(hk:dn l=true)(hq:dC l)(a:Int):R3 (posOf l a):=by
 obtain⟨hs,hp⟩:=gQ hk
 have e:posOf l a=gR a l:=by unfold posOf;rw[hk];rfl
 rw[e]
 have gD: ∀y∈gR a l,NB y.1:=fun y hy=>by
  obtain⟨x,hx,_,rfl⟩:=fR hy
  have g: ∀p q:Int,ca p q→NB q:=fun p q h=>by unfold ca at h;unfold NB;omega
  exact g _ _ (hp x hx).1
 refine⟨?_,gD,fun y hy=> ?_⟩
 ·have:=R9 (lo:=0) (hi:=6) (yu (a:=a) hs) (fun z hz=>by
   obtain⟨y,hy,rfl⟩:=azp.1 hz
   exact gD y hy) (by omega)
  rw[ay1]at this;omega
 ·obtain⟨x,hx,_,rfl⟩:=fR hy
  exact⟨hq x hx,(hp x hx).2⟩
end VM
end
section
namespace VM
open Go VM.F
def bt(p:Int):Prop:=1≤p∧p≤1000000000000
instance(p:Int):Decidable (bt p):=by unfold bt;infer_instance
theorem Bj(N:Nat)(p:Int):ze N p=some (decide (bt p)):=(ia N p).trans (azS some (aAm.2 Iff.rfl))
def iM(a b c d e:Int):Prop:=(0≤a∧a≤24)∧(0≤b∧b≤24)∧a≠b∧(0≤c∧c<6)∧(1≤d∧d≤1000000000)∧bt e
instance(a b c d e:Int):Decidable (iM a b c d e):=by unfold iM;infer_instance
def cE(t:gk):Prop:=iM t.1 t.2.1 t.2.2.1 t.2.2.2.1 t.2.2.2.2.1
instance:DecidablePred cE:=fun t=>by unfold cE;infer_instance
theorem yv(a b c d e:Int):cond (bX 0 a) (cond (bX a 24) (cond (bX 0 b) (cond (bX b 24) (cond (!aA a b) (cond (bX 0 c) (cond (aG c 6) (cond (bX 1 d) (cond (bX d 1000000000) (some (decide (bt e))) (some false)) (some false)) (some false)) (some false)) (some false)) (some false)) (some false)) (some false)) (some false)=some (decide (iM a b c d e)):=by
 simp only[bm,cond_not,au,aL]
 by_cases hP:iM a b c d e
 ·have hp:=hP.2.2.2.2.2
  rw[ayO hP,ayO hp]
  unfold iM at hP
  repeat' split
  all_goals first|rfl|omega
 ·rw[ayR hP]
  by_cases hp:bt e
  ·unfold iM at hP
   repeat' split
   all_goals first|rfl|(exact absurd ⟨by omega,by omega,by omega,by omega,by omega,hp⟩ hP)
  ·rw[ayR hp]
   repeat' split
   all_goals rfl
theorem tk(N:Nat)(t:gk):Sb N t=some (decide (cE t)):=by
 unfold Sb
 rw[Bj,ayy]
 exact yv _ _ _ _ _
def zn(a x:Int):bY:=if a=0 then((2:Int),((0:Int),(x,())))else((5:Int),(a,(x,())))
def jl(t:gk)(p:Int):aj:=if p-t.2.2.2.2.1=0 then []else [zn t.1 ((p-t.2.2.2.2.1)*t.2.2.2.1),zn t.2.1 (-((p-t.2.2.2.2.1)*t.2.2.2.1))]
def gv(b:ag)(t:gk):Int:=b.2.2.2.2.1.getD t.2.2.1.toNat 0
def eT:aZ→aj
 |[]=>[]
 |t::r=>(t.1,(t.2.2.1,(t.2.2.2.1,())))::(t.2.1,(t.2.2.1,((0-t.2.2.2.1:Int),())))::eT r
def fc(b:ag):aZ→aj
 |[]=>[]
 |t::r=>jl t (gv b t)++fc b r
theorem mm(t:gk)(r:aZ):eT (t::r)=(t.1,(t.2.2.1,(t.2.2.2.1,())))::(t.2.1,(t.2.2.1,((0-t.2.2.2.1:Int),())))::eT r:=rfl
theorem ph(b:ag)(t:gk)(r:aZ):fc b (t::r)=jl t (gv b t)++fc b r:=rfl
theorem DU(a x:Int)(N:Nat):FC N a=some ((zn a x).1,(zn a x).2.1):=by
 unfold FC zn
 rw[au]
 by_cases h:a=0
 ·rw[ayF h,ayF h]
 ·rw[ayE h,ayE h]
theorem qd(a x:Int):eC (zn a x)=x:=by unfold zn;split<;>rfl
theorem DV{d q:Int}(h1: -1000000000000≤d∧d≤1000000000000)(h2:1≤q∧q≤1000000000): -1000000000000000000000≤d*q∧d*q≤1000000000000000000000∧(d*q=0↔d=0):=by
 refine⟨?_,?_,?_⟩
 ·have:=azs h1.1 (show 0≤q by omega)
  have h3: -1000000000000*1000000000≤ -1000000000000*q:=by omega
  omega
 ·have:=azs h1.2 (show 0≤q by omega)
  have h3:1000000000000*q≤1000000000000*1000000000:=by omega
  omega
 ·rw[Int.mul_eq_zero];omega
theorem C3(N:Nat)(hN:4000000≤N){t:gk}{p:Int}(ht:cE t)(hp:bt p):LD N t p=some ((jl t p).map iL,0):=by
 unfold LD jl
 have hq:=ht.2.2.2.2.1
 have he:=ht.2.2.2.2.2
 rw[tk,ayy,ayO ht,ayL,ayB,Bj,ayy,ayO hp,ayL,ayB]
 unfold bt at hp he
 generalize t.2.2.2.2.1=e at*
 generalize t.2.2.2.1=q at*
 have hd: -1000000000000≤p-e∧p-e≤1000000000000:=by omega
 have hn:=DV hd hq
 have H9:bB ((p-e)*q):=by unfold bB;omega
 rw[ak (x:=p-e) (by omega) (by omega),cn N (by omega) (by omega) (by omega),ayy,cn N (by omega) (by omega) (by omega),ayy,lY N hN ((Fit.i64 (by omega) (by omega)).mono (by omega)) ((Fit.i64 (by omega) (by omega)).mono (by omega)),ayy,nf,ayy,au]
 by_cases h:p-e=0
 ·rw[ayF h,ayF (by rw[hn.2.2.2 h];rfl)];rfl
 ·rw[ayE h,ayE (fun k=>h (hn.2.2.1 (ki.1 k))),DU t.1 ((p-e)*q),ayy,DU t.2.1 (-((p-e)*q)),ayy,p5 N hN (ij H9),ayy,ay6,ay6,az2]
  unfold iL
  rw[qd,qd]
def dI(c:aa)(b:ag)(t:gk):Bool:=
 ((dP b.2.1 t.1).2||decide (gj t.1 0))&&(((dP b.2.1 t.2.1).2||decide (gj t.2.1 0))&&decide (Cs t.2.2.1 c.1.length))
def kz(c:aa)(b:ag)(l:aZ):ag×Int:=
 if bW c b then(if l.length≤200 then(if l.all (fun t=>decide (cE t))then(if l.all (dI c b)then gu b (eT l) (fc b l)else((bE,(cg,(aX,(aX,(cC,(cK,())))))),3))else((bE,(cg,(aX,(aX,(cC,(cK,())))))),1))else((bE,(cg,(aX,(aX,(cC,(cK,())))))),1))else((bE,(cg,(aX,(aX,(cC,(cK,())))))),1)
theorem cO{c:aa}{b:ag}(h:bW c b=true):b.2.2.2.2.1.length=c.1.length∧fZ b.2.2.2.2.1=true:=by
 unfold bW at h
 simp only[ayQ]at h
 have h1:=ayV h.2.2.2.2.2.2.1
 unfold gj at h1
 exact⟨by omega,h.2.2.2.2.2.2.2.2.2.2⟩
theorem q3: ∀l:aZ,(eT l).length=2*l.length
 |[]=>rfl
 |t::r=>by rw[mm,ayI,ayI,ayI,q3 r];omega
theorem uQ(t:gk)(p:Int):(jl t p).length≤2:=by
 unfold jl
 split
 ·exact azn _
 ·exact ayJ 2
theorem q4(b:ag): ∀l:aZ,(fc b l).length≤2*l.length
 |[]=>ayJ _
 |t::r=>by
  have:=uQ t (gv b t)
  have:=q4 b r
  rw[ph,ayH,ayI];omega
end VM
end
section
namespace VM
open Go VM.F
theorem kA{l:List Int}(h:fZ l=true){i:Nat}(hi:i<l.length):bt (l.getD i 0):=ayV h i hi
theorem LF(i:Int)(a b:bY)(l:aj)(h:a.2.1=b.2.1)(hs:eC a+eC b=0):(ed i (a::b::l)).sum=(ed i l).sum:=by
 rw[fL,fL]
 by_cases e:a.2.1=i
 ·rw[ayF e,ayF (h.symm.trans e),azd,azd];omega
 ·rw[ayE e,ayE (fun k=>e (h.trans k))]
theorem yw: ∀{l:aZ},(∀t∈l,cE t)→(∀x∈eT l,ca x.1 x.2.1∧aB (eC x)∧ym (eC x))∧ ∀i:Int,(ed i (eT l)).sum=0
 |[],_=>⟨fun x hx=>(nomatch hx),fun i=>rfl⟩
 |t::r,h=>by
  obtain⟨h1,h2⟩:=yw (l:=r) (fun y hy=>h y (ayK _ hy))
  have ht:=h t (ayN ..)
  unfold cE iM at ht
  have g: ∀a b c d:Int,(0≤a∧a≤24)→(0≤b∧b≤24)→(0≤c∧c<6)→(1≤d∧d≤1000000000)→(ca a c∧aB d∧ym d)∧(ca b c∧aB (0-d)∧ym (0-d)):=fun a b c d _ _ _ _=>by unfold ca aB ym;omega
  have hg:=g _ _ _ _ ht.1 ht.2.1 ht.2.2.2.1 ht.2.2.2.2.1
  refine⟨fun x hx=> ?_,fun i=> ?_⟩
  ·rw[mm]at hx
   rcases ayY.1 hx with e|hx
   ·rw[e];exact hg.1
   ·rcases ayY.1 hx with e|hx
    ·rw[e];exact hg.2
    ·exact h1 x hx
  ·rw[mm]
   have hz: ∀d:Int,d+(0-d)=0:=fun d=>by omega
   exact(LF i (t.1,(t.2.2.1,(t.2.2.2.1,()))) (t.2.1,(t.2.2.1,((0-t.2.2.2.1:Int),()))) (eT r) rfl (hz t.2.2.2.1)).trans (h2 i)
theorem LG{t:gk}{p:Int}(ht:cE t)(hp:bt p):bB ((p-t.2.2.2.2.1)*t.2.2.2.1)∧bB (-((p-t.2.2.2.2.1)*t.2.2.2.1)):=by
 have hq:=ht.2.2.2.2.1
 have he:=ht.2.2.2.2.2
 unfold bt at hp he
 generalize t.2.2.2.2.1=e at*
 generalize t.2.2.2.1=q at*
 have hn:=DV (d:=p-e) (by omega) hq
 unfold bB
 omega
theorem Ih{a x:Int}(h:0≤a∧a≤24):ea (zn a x).1 (zn a x).2.1:=by
 unfold zn
 by_cases e:a=0
 ·rw[ayF e];show ea 2 0;decide
 ·rw[ayE e];show ea 5 a;unfold ea;omega
theorem Ii{t:gk}{p:Int}(ht:cE t)(hp:bt p):(∀x∈jl t p,ea x.1 x.2.1∧bB (eC x))∧((jl t p).map eC).sum=0:=by
 have hn:=LG ht hp
 unfold jl
 split
 ·exact⟨fun x hx=>(nomatch hx),rfl⟩
 ·refine⟨fun x hx=> ?_,?_⟩
  ·rcases ayY.1 hx with e|hx
   ·rw[e,qd];exact⟨Ih ht.1,hn.1⟩
   ·rw[ay0.1 hx,qd];exact⟨Ih ht.2.1,hn.2⟩
  ·rw[ay6,ay6,az2,azd,azd,aAe,qd,qd];omega
theorem yx{b:ag}: ∀{l:aZ},(∀t∈l,cE t∧bt (gv b t))→(∀x∈fc b l,ea x.1 x.2.1∧bB (eC x))∧((fc b l).map eC).sum=0
 |[],_=>⟨fun x hx=>(nomatch hx),rfl⟩
 |t::r,h=>by
  obtain⟨h1,h2⟩:=yx (b:=b) (l:=r) (fun y hy=>h y (ayK _ hy))
  have ht:=h t (ayN ..)
  have hc:=Ii ht.1 ht.2
  rw[ph]
  refine⟨fun x hx=>(ayU.1 hx).elim (hc.1 x) (h1 x),?_⟩
  rw[aze,aAs,hc.2,h2];rfl
theorem DW{l:aZ}(h: ∀t∈l,cE t)(hl:l.length≤200):Nx (eT l):=by
 obtain⟨h1,h2⟩:=yw h
 exact⟨fun x hx=>(h1 x hx).1,fun x hx=>(h1 x hx).2,by rw[q3];omega,h2⟩
theorem DX{b:ag}{l:aZ}(h: ∀t∈l,cE t∧bt (gv b t))(hl:l.length≤200):Ny (fc b l):=by
 obtain⟨h1,h2⟩:=yx h
 have:=q4 b l
 exact⟨fun x hx=>(h1 x hx).1,fun x hx=>(h1 x hx).2,by omega,h2⟩
theorem FD(N:Nat)(hN:4000000≤N)(c:aa){b:ag}(w:ni b)(hB:bW c b=true){l:aZ}(hk: ∀t∈l,cE t)(hl:l.length≤200):
  eg.zR N N l c b (bE,(cg,(aX,(aX,(cC,(cK,())))))) [] [] 0=some (if l.all (dI c b)then gu b (eT l) (fc b l)else((bE,(cg,(aX,(aX,(cC,(cK,())))))),3)):=by
 obtain⟨hr,hs⟩:=kv hB
 obtain⟨Ap,za⟩:=cO hB
 have gs:=DW hk hl
 have:=kK l dX (fun n i (z:aj×aj)=>eg.zR N n l c b (bE,(cg,(aX,(aX,(cC,(cK,())))))) z.1 (z.2.map iL) i)
  (fun u z=>some (if u.all (dI c b)then gu b (eT l) (fc b l)else((bE,(cg,(aX,(aX,(cC,(cK,())))))),3)))
  (fun i z=>z.1++eT (l.drop i)=eT l∧z.2++fc b (l.drop i)=fc b l∧ ∀j,j<i→dI c b (l.getD j dX)=true)
  (fun n i z hi hI vO=> ?_) (fun n z hI=> ?_) l.length N 0 ([],[]) (by omega) (by omega) (by omega) ⟨rfl,rfl,fun j hj=>absurd hj (by omega)⟩
 ·exact this
 ·unfold eg.zR eg.xm
  obtain⟨i1,i2,i3⟩:=hI
  have hls:=q3 l
  have hle:=q4 b l
  have z1:z.1.length≤400:=by rw[←i1,ayH]at hls;omega
  have z2:z.2.length≤400:=by rw[←i2,ayH]at hle;omega
  have hm:l.getD i dX∈l:=by
   rw[ayC,ayG hi];exact ay5 hi
  have ht:=hk _ hm
  rw[drop_cons hi dX,mm]at i1
  rw[drop_cons hi dX,ph]at i2
  rw[aE (by omega),ayz,aF (by omega) (by omega),ayz,ayD,ak (x:=(i:Int)+1) (by omega) (by omega),ae i,aBt]
  have i4:dI c b (l.getD i dX)=true→ ∀j,j<i+1→dI c b (l.getD j dX)=true:=fun h j hj=>by
   by_cases e:j=i
   ·rw[e];exact h
   ·exact i3 j (by omega)
  generalize l.getD i dX=t at*
  have hq:=ht.2.2.2.2.1
  have gD:=ht.2.2.2.1
  rw[qa N b w.w.a (by omega),ayy,qa N b w.w.a (by omega),ayy,cond_not,cond_not,bm]
  have e0:W .i64 (0-t.2.2.2.1)=0-t.2.2.2.1:=by
   have g: ∀d:Int,1≤d∧d≤1000000000→W .i64 (0-d)=0-d:=fun d _=>ak (by omega) (by omega)
   exact g _ hq
  rw[e0]
  dsimp only
  by_cases h1:((dP b.2.1 t.1).2||decide (gj t.1 0))=false
  ·have:dI c b t=false:=by unfold dI;rw[h1];rfl
   rw[h1,this];rfl
  ·rw[azD]at h1
   rw[h1,ayz]
   by_cases h2:((dP b.2.1 t.2.1).2||decide (gj t.2.1 0))=false
   ·have:dI c b t=false:=by unfold dI;rw[h1,h2];rfl
    rw[h2,this];rfl
   ·rw[azD]at h2
    rw[h2,ayz]
    by_cases h3:(c.1.length:Int)≤t.2.2.1
    ·have:dI c b t=false:=by
      unfold dI
      rw[h1,h2,ayR (show ¬Cs t.2.2.1 c.1.length from fun h=>by unfold Cs at h;exact absurd h (aBE.2 h3))];rfl
     rw[ayF h3,this];rfl
    ·have dH:t.2.2.1<(c.1.length:Int):=aBF.1 h3
     have hth:dI c b t=true:=by
      unfold dI
      rw[h1,h2,ayO (show Cs t.2.2.1 c.1.length from dH)];rfl
     have Pf:t.2.2.1.toNat<b.2.2.2.2.1.length:=by
      have g: ∀x:Int,(0≤x∧x<6)→x<(c.1.length:Int)→x.toNat<b.2.2.2.2.1.length:=fun x _ _=>by omega
      exact g _ gD dH
     have KR:aI t.2.2.1 b.2.2.2.2.1.length=true:=by
      have g: ∀x:Int,(0≤x∧x<6)→x<(c.1.length:Int)→aI x b.2.2.2.2.1.length=true:=fun x _ _=>aF (by omega) (by omega)
      exact g _ gD dH
     have hp:bt (gv b t):=kA za Pf
     have htp:LD N t (b.2.2.2.2.1.getD t.2.2.1.toNat 0)=some ((jl t (gv b t)).map iL,0):=C3 N hN ht hp
     have ES:=uQ t (gv b t)
     rw[ayE h3,a8 (by rw[ayI,ayA];omega),ayz,KR,ayz,htp,ayy,a8 (by rw[ay1,ay1];omega),ayz,hth,aAa]
     have:=vO (z.1++[(t.1,(t.2.2.1,(t.2.2.2.1,()))),(t.2.1,(t.2.2.1,((0-t.2.2.2.1:Int),())))],z.2++jl t (gv b t)) ⟨by rw[←i1,ayP];rfl,by rw[←i2,ayP],i4 hth⟩
     rw[aze]at this
     exact this
 ·unfold eg.zR eg.xm
  obtain⟨i1,i2,i3⟩:=hI
  rw[aAl]at i1 i2
  have e1:z.1=eT l:=by rw[←i1];exact(ay2 _).symm
  have e2:z.2=fc b l:=by rw[←i2];exact(ay2 _).symm
  have g9: ∀t∈l,cE t∧bt (gv b t):=fun t ht=>by
   obtain⟨i,hi,e⟩:=azG ht
   have h:=i3 i hi
   rw[ayC,ayG hi]at h
   simp only[az9,e]at h
   unfold dI at h
   have dH:=ayV (azf.1 (azf.1 h).2).2
   have gD:=(hk t ht).2.2.2.1
   have Pf:t.2.2.1.toNat<b.2.2.2.2.1.length:=by
    have g: ∀x:Int,(0≤x∧x<6)→Cs x c.1.length→x.toNat<b.2.2.2.2.1.length:=fun x _ h=>by unfold Cs at h;omega
    exact g _ gD dH
   exact⟨hk t ht,kA za Pf⟩
  rw[az (by omega),ayB,e1,e2,VG N hN w.w hr hs w.r w.s gs (DX g9 hl),ayy]
  rfl
theorem LH(N:Nat)(hN:5000000≤N)(c:aa){b:ag}(w:ni b){l:aZ}(hl:l.length≤100000):eg N c b l=some (kz c b l):=by
 unfold eg eg.b kz
 rw[sE N hN w.w,ayy,cond_not,aL]
 by_cases hB:bW c b=false
 ·rw[hB];rfl
 rw[azD]at hB
 rw[hB,ayz,ayF rfl]
 by_cases LJ:l.length≤200
 ·rw[ayE (by omega),ayF LJ]
  have key: ∀(m n i:Nat),l.length-i≤m→m<n→i≤l.length→(∀j,j<i→cE (l.getD j dX))→eg.l4 N n l c b (bE,(cg,(aX,(aX,(cC,(cK,())))))) (i:Int)=some (if l.all (fun t=>decide (cE t))then(if l.all (dI c b)then gu b (eT l) (fc b l)else((bE,(cg,(aX,(aX,(cC,(cK,())))))),3))else((bE,(cg,(aX,(aX,(cC,(cK,())))))),1)):=by
   intro m n
   induction n generalizing m with
   |zero=>intro i _ hn;omega
   |succ n ih=>
    intro i hm hn hi hj
    unfold eg.l4 eg.cD
    by_cases h:i<l.length
    ·rw[aE (by omega),ayz,aF (by omega) (by omega),ayz,ayD,tk,ayy,cond_not,cq,ak (x:=(i:Int)+1) (by omega) (by omega),ae i]
     by_cases hk:cE (l.getD i dX)
     ·rw[ayF hk]
      exact ih (m-1) (i+1) (by omega) (by omega) (by omega) fun j Ua=>by
       by_cases e:j=i
       ·rw[e];exact hk
       ·exact hj j (by omega)
     ·rw[ayE hk]
      have hf:l.all (fun t=>decide (cE t))=false:=by
       rw[List.all_eq_false]
       refine⟨l.getD i dX,?_,by rw[ayR hk];decide⟩
       rw[ayC,ayG h];exact ay5 h
      rw[hf];rfl
    ·have hk: ∀t∈l,cE t:=fun t ht=>by
      obtain⟨k,hk,e⟩:=azG ht
      have:=hj k (by omega)
      rw[ayC,ayG hk]at this
      rw[←e];exact this
     have ha:l.all (fun t=>decide (cE t))=true:=azZ.2 fun t ht=>ayO (hk t ht)
     rw[az (by omega),ayB,ha,ayF rfl]
     exact FD N (by omega) c w hB hk LJ
  exact key l.length N 0 (by omega) (by omega) (by omega) (fun j hj=>absurd hj (by omega))
 ·rw[ayF (by omega),ayE LJ]
end VM
end
