/- A part of the proof of TearFlat of layer 29: what the functions compute, in plain words. -/
import Derived.Test.YtocmlaipoebfeaaGreatPlain2
import Derived.Test.YtocmlaipoebfeaaGreatVm6
import Derived.Test.YtocmlaipoebfeaaGreatPlain1
import Derived.Test.YtocmlaipoebfeaaGreatPlain0
set_option linter.all false
section
namespace VM
open Go VM.F
def FM(E:au):Prop:= ∀x∈E,eB (dW x)
def kW(r:dd):vl:=(r.1,(r.2.1,(dM (dW r),())))
theorem Ks(E:au)(i:Nat):(E.map kW).getD i ((0:Int),((0:Int),(df,())))=kW (E.getD i bf):=by
 by_cases h:i<E.length
 ·rw[aR,nf,bl h,aR,bl h];rfl
 ·rw[aR,gP (by rw[cO];omega),aR,gP ω];rfl
theorem Kt{l:au}(h:FM l)(i:Nat):eB (dW (l.getD i bf)):=by
 by_cases hi:i<l.length
 ·rw[aR,bl hi];exact h _ (eL hi)
 ·rw[aR,gP ω];exact⟨δ,δ⟩
theorem FN{x:Int}(h:aH x):eB x:=by unfold aH at h;unfold eB;omega
theorem y4{ws:List Int}{x:Int}(h: ∀y∈ws,eB y)(hx:eB x): ∀y∈ws++[x],eB y:=λy hy=>by
 rcases bo.1 hy with hy|hy
 ·exact h y hy
 ·rw[cm.1 hy];exact hx
theorem WH(N:Nat){l:au}:ahQ N l=some l:=Ni N
theorem WI(N:Nat)(hN:2000000≤N)(K:cq.IS){E out R:au}(hq:FM E)(hl:E.length≤100000)(ho:out.length≤1000000)(r:dd)(hr:aH (dW r))(i:Nat)(hi:i≤1000000):
  cq.Nk N K N (E.map kW) out r [dM (dW r)] R (R.length:Int) (i:Int) (E.map kW) ((E.map kW).length:Int) 0=
   if aH (dW r+bX r.1 r.2.1 E)then K (E.map kW) (if dW r+bX r.1 r.2.1 E=0 then out else out++[(r.1,(r.2.1,(dW r+bX r.1 r.2.1 E,())))]) R (R.length:Int) ((i+1:Nat):Int)else some (bK,(2:Int)):=by
 have:=sm E bf (λn j ws=>cq.Nk N K n (E.map kW) out r (ws.map dM) R (R.length:Int) (i:Int) (E.map kW) ((E.map kW).length:Int) j)
  (λt ws=>if aH (ws++dj r.1 r.2.1 t).sum then K (E.map kW) (if(ws++dj r.1 r.2.1 t).sum=0 then out else out++[(r.1,(r.2.1,((ws++dj r.1 r.2.1 t).sum,())))]) R (R.length:Int) ((i+1:Nat):Int)else some (bK,(2:Int)))
  (λj (ws:List Int)=>ws.length≤j+1∧ ∀x∈ws,eB x)
  (λn j ws hj hI eZ=> ?_) (λn ws hI=> ?_) E.length N 0 [dW r] ω ω ω ⟨aI _,λx hx=>by rw[cm.1 hx];exact FN hr⟩
 ·rw[show((0:Nat):Int)=0 from rfl,cM]at this
  refine this.trans ?_
  have e:([dW r]++dj r.1 r.2.1 E).sum=dW r+bX r.1 r.2.1 E:=by rw[zs,cH];rfl
  rw[e]
 ·unfold cq.Nk cq.Ku
  rw[aP (by rw[cO];omega),ak,aQ ω (by rw[cO];omega),ak,aE,Ks,bQ (by rw[cO,aK];omega),ak,aw (x:=(j:Int)+1) ω ω,ae j,aN,aN]
  by_cases h1:(E.getD j bf).1=r.1
  ·by_cases h2:(E.getD j bf).2.1=r.2.1
   ·have hc:dj r.1 r.2.1 (E.getD j bf::E.drop (j+1))=dW (E.getD j bf)::dj r.1 r.2.1 (E.drop (j+1)):=by rw[eV,aj ⟨h1,h2⟩]
    rw[aj (show(kW (E.getD j bf)).1=r.1 from h1),aj (show(kW (E.getD j bf)).2.1=r.2.1 from h2),hc]
    have:=eZ (ws++[dW (E.getD j bf)]) ⟨by rw[aT,aK];omega,y4 hI.2 (Kt hq j)⟩
    rw[dn]at this
    refine this.trans ?_
    rw[bM];rfl
   ·have hc:dj r.1 r.2.1 (E.getD j bf::E.drop (j+1))=dj r.1 r.2.1 (E.drop (j+1)):=by rw[eV,ah (λh=>h2 h.2)]
    rw[aj (show(kW (E.getD j bf)).1=r.1 from h1),ah (show ¬(kW (E.getD j bf)).2.1=r.2.1 from h2),hc]
    exact eZ ws ⟨ω,hI.2⟩
  ·have hc:dj r.1 r.2.1 (E.getD j bf::E.drop (j+1))=dj r.1 r.2.1 (E.drop (j+1)):=by rw[eV,ah (λh=>h1 h.1)]
   rw[ah (show ¬(kW (E.getD j bf)).1=r.1 from h1),hc]
   exact eZ ws ⟨ω,hI.2⟩
 ·unfold cq.Nk cq.Ku
  rw[aL (by rw[cO];omega),ar,Ki N hI.2 ω ω,av]
  show _=if aH (ws++[]).sum then K (E.map kW) (if(ws++[]).sum=0 then out else out++[(r.1,(r.2.1,((ws++[]).sum,())))]) R (R.length:Int) ((i+1:Nat):Int)else some (bK,(2:Int))
  rw[cK]
  unfold Qd
  by_cases h0:eB ws.sum
  ·rw[aj h0]
   dsimp only
   rw[FL N h0,av,aY,ar]
   by_cases h1:aH ws.sum
   ·rw[xF h1]
    dsimp only
    rw[aY,ar,cond_not,aN,bQ (by rw[aK];omega),ak,aw (x:=(i:Int)+1) ω ω,ae i,aj h1]
    split<;>rfl
   ·rw[AF h1,ah h1]
    rfl
  ·rw[ah h0,ah (λh=>h0 (FN h))]
   have e:Kh N df=some (Ap 0):=FL N (v:=0) ⟨δ,δ⟩
   dsimp only
   rw[e,av]
   rfl
theorem TO(N:Nat)(hN:2000000≤N){l E R:au}(hq:FM E)(hl:E.length≤100000)(hR:R.length≤200000)(hv: ∀r∈R,aH (dW r)∧dW r=bX r.1 r.2.1 l):
  cq.l26 N N (E.map kW) [] R (R.length:Int) 0=vi (ej aH (fS l E) (R.map keyOf)):=by
 have:=sm R bf (λn i out=>cq.l26 N n (E.map kW) out R (R.length:Int) i) (λt out=>vi ((ej aH (fS l E) (t.map keyOf)).map (λo=>out++o))) (λi (out:au)=>out.length≤i)
  (λn i out hi hI hr=> ?_) (λn out hI=> ?_) R.length N 0 [] ω ω ω (aI _)
 ·rw[show((0:Nat):Int)=0 from rfl,cM]at this
  refine this.trans ?_
  simp
 ·unfold cq.l26 cq.aam
  have hm:R.getD i bf∈R:=by
   rw[aR,bl hi];exact eL hi
  have Vn:=hv _ hm
  have vU:=Vn.1
  have iO:=vU
  unfold aH dW at iO
  rw[aP ω,ak,aQ ω ω,ak,aE,BA N iO.1 iO.2,av]
  refine(WI N hN _ hq hl ω _ vU i ω).trans ?_
  rw[bR,jy]
  have ef:fS l E (keyOf (R.getD i bf)).1 (keyOf (R.getD i bf)).2=dW (R.getD i bf)+bX (R.getD i bf).1 (R.getD i bf).2.1 E:=by
   show bX _ _ l+bX _ _ E=_
   rw[Vn.2];rfl
  rw[ef]
  generalize hS:dW (R.getD i bf)+bX (R.getD i bf).1 (R.getD i bf).2.1 E=v
  by_cases hF:aH v
  ·rw[aj hF,aj hF,hr _ (by
    split
    ·omega
    ·rw[aT,aK];omega)]
   cases ej aH (fS l E) ((R.drop (i+1)).map keyOf)with
   |none=>rfl
   |some o=>
    show vi (some _)=vi (some _)
    congr 2
    split
    ·rfl
    ·exact bM _ _ _
  ·rw[ah hF,ah hF];rfl
 ·unfold cq.l26 cq.aam
  rw[aL ω,ar,WH,av]
  show _=vi (some (out++[]))
  rw[cK];rfl
theorem afV(N:Nat)(C:cq.jQ){l:au}{E S:dZ}{K:List cR}(hs:sR K)(hl:K.length≤100000)(hf: ∀k∈K,AH k)(x:vl)(k:cR)(hxk:(x.1,x.2.1)=k)(hx:AH k)(hz:zeroAt l K k)(len:Int)(i:Nat)(hi:i≤1000000):
  ∀(m n p:Nat),K.length-p≤m→m<n→p≤K.length→(∀y∈K.take p,td y k)→
   cq.TP N C n E (rowsOf l K) x (p:Int) S len (i:Int)=C E (rowsOf l (K.take p++w7 k (K.drop p))) S len ((i+1:Nat):Int)
 |m,0,p,_,hn,_,_=>ω
 |m,n+1,p,hm,hn,hp,hb=>by
  unfold cq.TP cq.Qs cq.U2 cq.Qa
  rw[eF,aw (x:=(i:Int)+1) ω ω,ae i]
  have ex:((x.1,(x.2.1,((0:Int),()))):dd)=(k.1,(k.2,((0:Int),()))):=by rw[←hxk]
  by_cases h:p<K.length
  ·have hfk:=hf (K.getD p (0,0)) (by rw[aR,bl h];exact eL h)
   have ho:Qh N x.1 x.2.1 ((rowsOf l K).getD p bf)=some (BB k.1 k.2 (K.getD p (0,0)).1 (K.getD p (0,0)).2):=by
    rw[IJ l h]
    rw[←hxk]at hx ⊢
    exact FB N hx.1 hx.2 hfk.1 hfk.2
   rw[aP ω,ak,aQ ω ω,ak,aE,ho,av,du (x:=(p:Int)) ω,ar,ak,av,cU,cond_not,aN,Sc h]
   by_cases h1:td (K.getD p (0,0)) k
   ·rw[aj (AG.2 h1),aj h1,aw (x:=(p:Int)+1) ω ω,ae p,AI h]
    refine afV N C hs hl hf x k hxk hx hz len i hi (m-1) n (p+1) ω ω ω λy hy=> ?_
    rw[←sD h]at hy
    rcases bo.1 hy with hy|hy
    ·exact hb y hy
    ·rw[aR,bl h]at h1
     rw[cm.1 hy];exact h1
   ·rw[ah (λh=>h1 (AG.1 h)),ah h1]
    by_cases h2:K.getD p (0,0)=k
    ·rw[aj (xG.2 h2),aj h2,fW]
    ·rw[ah (λh=>h2 (xG.1 h)),ah h2,D8 N (by rw[eF];omega) (by rw[eF];omega),av]
     have Dm:=hz (vk hs hb (Sd hs h h1 h2))
     have e:=vj l K p k
     rw[←xH Dm]at e
     refine Eq.trans ?_ (eA (λR=>C E R S len ((i+1:Nat):Int)) e)
     exact eA (λz:dd=>C E ((rowsOf l K).take p++z::(rowsOf l K).drop p) S len ((i+1:Nat):Int)) ex
  ·have hd:K.drop p=[]:=qH ω
   rw[aL ω,ar,dt ω,ak,D8 N (by rw[eF];omega) (by rw[eF];omega),av]
   have Dm:=hz (vk hs hb (by rw[hd];exact λx hx=>nomatch hx))
   have e:=vj l K p k
   rw[←xH Dm]at e
   have e2:w7 k (K.drop p)=k::K.drop p:=by rw[hd];rfl
   rw[e2]
   refine Eq.trans ?_ (eA (λR=>C E R S len ((i+1:Nat):Int)) e)
   exact eA (λz:dd=>C E ((rowsOf l K).take p++z::(rowsOf l K).drop p) S len ((i+1:Nat):Int)) ex
theorem TQ(N:Nat)(hN:2000000≤N){l E:au}(hq:FM E)(hE:E.length≤400)(hp: ∀x∈E,AH (keyOf x))(hs:sR (l.map keyOf))(hl:l.length≤90000)(WD:eJ l)(Lm: ∀x∈l,AH (keyOf x)):
  cq.sQ N N (E.map kW) l (E.map kW) ((E.map kW).length:Int) 0=vi (ej aH (fS l E) (nM (l.map keyOf) E)):=by
 have:=sm E bf (λn i K=>cq.sQ N n (E.map kW) (rowsOf l K) (E.map kW) ((E.map kW).length:Int) i) (λt K=>vi (ej aH (fS l E) (nM K t)))
  (λi (K:List cR)=>K.length≤l.length+i∧sR K∧(∀k∈K,AH k)∧ ∀x∈l,keyOf x∈K)
  (λn i K hi hI hr=> ?_) (λn K hI=> ?_) E.length N 0 (l.map keyOf) ω ω ω ⟨by rw[cO];omega,hs,λk hk=>by
   obtain⟨x,hx,rfl⟩:=cD.1 hk
   exact Lm x hx,λx hx=>eX hx⟩
 ·rw[show((0:Nat):Int)=0 from rfl,cM]at this
  simp only[mN hs]at this
  exact this
 ·unfold cq.sQ cq.so
  obtain⟨h1,h2,h3,h4⟩:=hI
  have hm:E.getD i bf∈E:=by
   rw[aR,bl hi];exact eL hi
  rw[aP (by rw[cO];omega),ak,aQ ω (by rw[cO];omega),ak,aE,Ks]
  refine(afV N _ h2 ω h3 (kW (E.getD i bf)) (keyOf (E.getD i bf)) rfl (hp _ hm) (λhk=>gA λhx=>hk (by
   obtain⟨x,hx,e⟩:=cD.1 hx
   rw[←e];exact h4 x hx)) ((E.map kW).length:Int) i ω K.length N 0 ω ω ω (λy hy=>nomatch hy)).trans ?_
  rw[kd,cL,cM,sS]
  refine hr (w7 (keyOf (E.getD i bf)) K) ⟨cA (FK _ K) ω,AE h2,λk hk=>(rE.1 hk).elim (λe=>e▸hp _ hm) (h3 k),λx hx=>rE.2 (Or.inr (h4 x hx))⟩
 ·unfold cq.sQ cq.so
  obtain⟨h1,h2,h3,h4⟩:=hI
  rw[aL (by rw[cO];omega),ar,eF,cj ω ω ω,ak]
  have:=TO N hN (l:=l) (R:=rowsOf l K) hq ω (by rw[eF];omega) (λr hr=>by
   unfold rowsOf at hr
   obtain⟨k,hk,rfl⟩:=cD.1 hr
   refine⟨?_,rfl⟩
   show aH (bX k.1 k.2 l)
   by_cases hkl:k∈l.map keyOf
   ·have e:rowsOf l (l.map keyOf)=l:=mN hs
    have hm:DH l k∈rowsOf l (l.map keyOf):=eX hkl
    rw[e]at hm
    exact WD (DH l k) hm
   ·rw[gA hkl];exact⟨δ,δ⟩)
  rw[CT,eF]at this
  exact this
theorem kC{l:au}(h:eE l=true):sR (l.map keyOf)∧(∀x∈l,cW x.1 x.2.1):=by
 unfold eE at h
 rw[gn]at h
 have h':=bF h
 have get: ∀(i:Nat) (hi:i<l.length),l.getD i bf=l[i]:=λi hi=>by rw[aR,bl hi];rfl
 have WE: ∀i,i+1<l.length→td (keyOf (l.getD i bf)) (keyOf (l.getD (i+1) bf)):=λi hi=>(h' (i+1) hi).2.2 ω
 have fA: ∀j,j<l.length→ ∀i,i<j→td (keyOf (l.getD i bf)) (keyOf (l.getD j bf)):=by
  intro j
  induction j with
  |zero=>intro _ i hi;omega
  |succ j ih=>
   intro hj i hi
   by_cases e:i=j
   ·rw[e];exact WE j hj
   ·exact xE (ih ω i ω) (WE j hj)
 refine⟨?_,λx hx=> ?_⟩
 ·refine tF.2 (p4.2 λi j hi hj pF=> ?_)
  have:=fA j hj i pF
  rw[get i hi,get j hj]at this
  exact this
 ·obtain⟨i,hi,e⟩:=fX hx
  have:=h' i hi
  unfold lQ mz at this
  rw[get i hi,e]at this
  exact this.1
structure WJ(E:au):Prop where
 key: ∀x∈E,cW x.1 x.2.1
 q:FM E
 len:E.length≤400
 zero:(E.map dW).sum=0
theorem Se{x:dd}(h:cW x.1 x.2.1):AH (keyOf x):=by
 have h':cW (keyOf x).1 (keyOf x).2:=h
 unfold cW at h'
 unfold AH HJ
 omega
theorem WK(N:Nat)(hN:2000000≤N){l E:au}(hk:eE l=true)(hl:l.length≤90000)(WD:eJ l)(g:WJ E):cq N l (E.map kW)=vi (ej aH (fS l E) (nM (l.map keyOf) E)):=by
 obtain⟨hs,Lm⟩:=kC hk
 have hE:=g.len
 unfold cq cq.b
 rw[Kj N ω ω,hk,av,aY,ar,aL (by rw[cO];omega),ar,cj ω ω (by rw[cO];omega),ak]
 have:=sm E bf (λn i (ws:List Int)=>cq.l5 N n l (E.map kW) (ws.map dM) (E.map kW) ((E.map kW).length:Int) i)
  (λt ws=>if(ws++t.map dW).sum=0 then vi (ej aH (fS l E) (nM (l.map keyOf) E))else none)
  (λj (ws:List Int)=>ws.length≤j∧(ws++(E.drop j).map dW).sum=0∧ ∀x∈ws,eB x)
  (λn i ws hi hI hr=> ?_) (λn ws hI=> ?_) E.length N 0 [] ω ω ω ⟨aI _,g.zero,λx hx=>nomatch hx⟩
 ·rw[show((0:Nat):Int)=0 from rfl,cM]at this
  refine Eq.trans this ?_
  rw[cL,aj g.zero]
 ·unfold cq.l5 cq.fi
  have hm:E.getD i bf∈E:=by
   rw[aR,bl hi];exact eL hi
  have ZC:Qf N (kW (E.getD i bf)).1 (kW (E.getD i bf)).2.1=some true:=by
   rw[Qe]
   exact eA some (bs (g.key _ hm))
  rw[aP (by rw[cO];omega),ak,aQ ω (by rw[cO];omega),ak,aE,Ks,ZC,av,aY,ar,bQ (by rw[cO,aK];omega),ak,aw (x:=(i:Int)+1) ω ω,ae i]
  have h0:=hI.2.1
  rw[drop_cons hi bf,bR]at h0
  have:=hr (ws++[dW (E.getD i bf)]) ⟨by rw[aT,aK];omega,by rw[bM];exact h0,y4 hI.2.2 (Kt g.q i)⟩
  rw[dn]at this
  refine this.trans ?_
  rw[bM];rfl
 ·unfold cq.l5 cq.fi
  have h0:=hI.2.1
  rw[lD,iE,cK]at h0
  rw[aL (by rw[cO];omega),ar,Ki N hI.2.2 ω ω,av,h0]
  have e0:Qd 0=(dM 0,true):=by unfold Qd;exact aj ⟨δ,δ⟩
  rw[e0]
  dsimp only
  rw[aY,ar,AA,av,show xD 0=0 from rfl,dt rfl,aY,ar,w8 N ω,av]
  rw[iE,cK,aj h0]
  exact TQ N hN g.q hE (λx hx=>Se (g.key x hx)) hs hl WD (λx hx=>Se (Lm x hx))
end VM
end
section
namespace VM
open Go VM.F
def jR(r:dd):ahR:=(r.1,(r.2.1,(di (dW r),())))
theorem WL{E:au}{i:Nat}(h:i<E.length):(E.map jR).getD i ((0:Int),((0:Int),((false,pH),())))=jR (E.getD i bf):=by
 rw[aR,nf,bl h,aR,bl h];rfl
theorem Qt{v:Int}{n:Nat}(hn:n≤1000000)(h0: -(170141183460469231731687303715884105728*(n:Int))≤v)(h1:v≤170141183460469231731687303715884105728*(n:Int)):Fit v 900000:=by
 have h5:Fit v 5:=by
  unfold Fit
  rw[show(4294967296:Nat)^5=1461501637330902918203684832716283019655932542976 from rfl]
  omega
 exact h5.mono ω
theorem D9{v:Int}(h:eB v):Fit v 900000:=Qt (n:=1) ω (by have:=h.1;omega) (by have:=h.2;omega)
theorem TR(N:Nat)(hN:4000000≤N){E:au}(hq:FM E)(hl:E.length≤100000)(q a b:Int)(hF:aH q):nN N q a b (E.map jR)=some (Ap (q+bX a b E)):=by
 unfold nN nN.b
 have:=sm E bf (λn j ws=>nN.l3 N n q a b (E.map jR) (di ws.sum) (!ws.isEmpty) j)
  (λt ws=>some (Ap (q+(ws++dj a b t).sum)))
  (λj (ws:List Int)=>ws.length≤j∧ ∀x∈ws,eB x)
  (λn j ws hj hI eZ=> ?_) (λn ws hI=> ?_) E.length N 0 [] ω ω ω ⟨aI _,λx hx=>nomatch hx⟩
 ·rw[show((0:Nat):Int)=0 from rfl,cM,jK,kU]at this
  exact this
 ·unfold nN.l3 nN.lB
  have TS:=Kt hq j
  have hb:=Qc hI.2
  have Dr:Am N (di ws.sum) (jR (E.getD j bf)).2.2.1=some (di (ws.sum+dW (E.getD j bf))):=jN N ω (Qt (n:=ws.length) ω hb.1 hb.2) (D9 TS)
  rw[aP (by rw[cO];omega),ak,aQ ω (by rw[cO];omega),ak,ak,ak,aE,WL hj,Dr,av,aw (x:=(j:Int)+1) ω ω,ae j,aN,aN]
  by_cases h1:(E.getD j bf).1=a
  ·by_cases h2:(E.getD j bf).2.1=b
   ·have hc:dj a b (E.getD j bf::E.drop (j+1))=dW (E.getD j bf)::dj a b (E.drop (j+1)):=by rw[eV,aj ⟨h1,h2⟩]
    rw[aj (show(jR (E.getD j bf)).1=a from h1),aj (show(jR (E.getD j bf)).2.1=b from h2),hc]
    have:=eZ (ws++[dW (E.getD j bf)]) ⟨by rw[aT,aK];omega,y4 hI.2 TS⟩
    rw[nn,cH,jK,gr,bM]at this
    refine Eq.trans ?_ this
    rw[show(!(ws++[dW (E.getD j bf)]).isEmpty)=true by cases ws<;>rfl]
   ·have hc:dj a b (E.getD j bf::E.drop (j+1))=dj a b (E.drop (j+1)):=by rw[eV,ah (λh=>h2 h.2)]
    rw[aj (show(jR (E.getD j bf)).1=a from h1),ah (show ¬(jR (E.getD j bf)).2.1=b from h2),hc]
    exact eZ ws ⟨ω,hI.2⟩
  ·have hc:dj a b (E.getD j bf::E.drop (j+1))=dj a b (E.drop (j+1)):=by rw[eV,ah (λh=>h1 h.1)]
   rw[ah (show ¬(jR (E.getD j bf)).1=a from h1),hc]
   exact eZ ws ⟨ω,hI.2⟩
 ·unfold nN.l3 nN.lB
  have hs:=Qc hI.2
  have R8:=hF
  unfold aH at R8
  rw[aL (by rw[cO];omega),ar,dC N ω R8.1 R8.2,av,jN N ω (Qt (n:=ws.length) ω hs.1 hs.2) ((Fit.i64 R8.1 R8.2).mono ω),av,tc,av,cond_not]
  show _=some (Ap (q+(ws++[]).sum))
  rw[cK,Int.add_comm ws.sum q]
  cases ws with
  |nil=>
   show some (q,true)=some (Ap (q+0))
   rw[gr,xF hF]
  |cons w ws=>rfl
theorem aan{l:au}(hs:sR (l.map keyOf))(hl:eJ l)(k:cR):aH (bX k.1 k.2 l):=by
 by_cases hk:k∈l.map keyOf
 ·have hm:DH l k∈rowsOf l (l.map keyOf):=eX hk
  rw[mN hs]at hm
  exact hl (DH l k) hm
 ·rw[gA hk];exact⟨δ,δ⟩
theorem Nl(N:Nat)(hN:4000000≤N)(C:dz.bI){l E:au}(hq:FM E)(hl:E.length≤100000)(hs:sR (l.map keyOf))(JT:l.length≤100000)(hf:eJ l)(hw: ∀x∈l,0≤(keyOf x).2∧(keyOf x).2<(25:Nat))(a:Nat)(ha:a≤24)(G:List cR)
  (hc: ∀(p:Nat) (out:au),Mark l (a+1) 0 p→out.length≤25*(a+1)→C l (E.map jR) out (p:Int) ((a+1:Nat):Int)=w9 out (ej aH (fS l E) G)):
  ∀(m n b p:Nat) (out:au),b+m=25→m<n→Mark l a b p→out.length≤25*a+b→dz.l7 N C n l (E.map jR) out (p:Int) (a:Int) (b:Int)=w9 out (ej aH (fS l E) (AJ a b m++G))
 |m,0,b,p,out,_,hn,_,_=>ω
 |0,n+1,b,p,out,hb,_,hM,ho=>by
  have e:b=25:=ω
  subst e
  unfold dz.l7 dz.pN
  rw[dB ω,ar,aw (x:=(a:Int)+1) ω ω,ae a]
  exact hc p out (hM.row hw) ω
 |m+1,n+1,b,p,out,hb,hn,hM,ho=>by
  have hp:=hM.le
  have ahP: ∀(p:Nat) (v:Int),Mark l a (b+1) p→dz.l7 N C n l (E.map jR) (if v=0 then out else out++[((a:Int),((b:Int),(v,())))]) (p:Int) (a:Int) ((b+1:Nat):Int)=w9 (if v=0 then out else out++[((a:Int),((b:Int),(v,())))]) (ej aH (fS l E) (AJ a (b+1) m++G)):=λp v h=>
   Nl N hN C hq hl hs JT hf hw a ha G hc m n (b+1) p _ ω ω h (by
    split
    ·omega
    ·rw[aT,aK];omega)
  have yh:=aan hs hf ((a:Int),(b:Int))
  unfold dz.l7 dz.pN
  show _=w9 out (ej aH (fS l E) (((a:Int),(b:Int))::(AJ a (b+1) m++G)))
  rw[dL (x:=(b:Int)) ω,ak,cU,aN,aN,aE]
  have fin: ∀(p:Nat) (q:Int),q=bX (a:Int) (b:Int) l→Mark l a (b+1) p→dz.Kf N C (dz.l7 N C n) l (E.map jR) out (p:Int) (a:Int) (b:Int) q=w9 out (ej aH (fS l E) (((a:Int),(b:Int))::(AJ a (b+1) m++G))):=λp q e h=>by
   subst e
   unfold dz.Kf dz.As
   rw[TR N hN hq hl _ _ _ yh,av]
   refine Eq.trans ?_ (IN (k:=((a:Int),(b:Int))) (v:=bX (a:Int) (b:Int) l+bX (a:Int) (b:Int) E) rfl)
   generalize bX (a:Int) (b:Int) l+bX (a:Int) (b:Int) E=v
   have hr:=ahP p v h
   by_cases hv:aH v
   ·rw[xF hv,aj hv]
    dsimp only
    rw[aY,ar,cond_not,aN,bQ (by rw[aK];omega),ak,aw (x:=(b:Int)+1) ω ω,ae b,←hr]
    split<;>rfl
   ·rw[AF hv,ah hv];rfl
  rcases hM.step hs with⟨h1,h2,h3,h4,h5⟩|⟨h1,h2,h3⟩
  ·rw[aj (show(p:Int)<(l.length:Int)by omega),aQ ω ω,ak,ak,aj h2,aj h3,aw (x:=(p:Int)+1) ω ω,ae p,ak]
   exact fin (p+1) _ h4.symm h5
  ·by_cases g1:p<l.length
   ·rw[aj (show(p:Int)<(l.length:Int)by omega),aQ ω ω,ak,ak]
    by_cases g2:(l.getD p bf).1=(a:Int)
    ·rw[aj g2,ah (λg3=>h1 g1 g2 g3)]
     exact fin p _ h2.symm h3
    ·rw[ah g2]
     exact fin p _ h2.symm h3
   ·rw[ah (show ¬(p:Int)<(l.length:Int)by omega)]
    exact fin p _ h2.symm h3
theorem Nm(N:Nat)(hN:4000000≤N){l E:au}(hq:FM E)(hl:E.length≤100000)(hs:sR (l.map keyOf))(JT:l.length≤100000)(hf:eJ l)(hw: ∀x∈l,0≤(keyOf x).2∧(keyOf x).2<(25:Nat)):
  ∀(m n a p:Nat) (out:au),a+m=8→m<n→Mark l a 0 p→out.length≤25*a→dz.l4 N n l (E.map jR) out (p:Int) (a:Int)=w9 out (ej aH (fS l E) (yB 25 a m))
 |m,0,a,p,out,_,hn,_,_=>ω
 |0,n+1,a,p,out,ha,_,hM,ho=>by
  unfold dz.l4 dz.dH
  rw[dB ω,ar]
  show some (out,true)=some (out++[],true)
  rw[cK]
 |m+1,n+1,a,p,out,ha,hn,hM,ho=>by
  unfold dz.l4 dz.dH
  rw[dL ω,ak]
  exact Nl N hN _ hq hl hs JT hf hw a ω (yB 25 (a+1) m) (λp out h ho=>Nm N hN hq hl hs JT hf hw m n (a+1) p out ω ω h ho) 25 N 0 p out ω ω hM ω
def nO:List cR:=yB 25 1 7
theorem aao(N:Nat)(hN:4000000≤N){l E:au}(hk:eE l=true)(hl:l.length≤90000)(WD:eJ l)(hq:FM E)(hE:E.length≤100000):dz N l (E.map jR)=w9 [] (ej aH (fS l E) nO):=by
 obtain⟨hs,Lm⟩:=kC hk
 unfold dz dz.b
 refine Nm N hN hq hE hs ω WD (λx hx=> ?_) 7 N 1 0 [] ω ω ⟨ω,λx hx=>(nomatch hx),λx hx fA=> ?_⟩ (by simp)
 ·have h:cW (keyOf x).1 (keyOf x).2:=Lm x hx
  unfold cW at h;omega
 ·have h:cW (keyOf x).1 (keyOf x).2:=Lm x (m8 hx)
  unfold cW at h
  have wL:(keyOf x).1<((1:Nat):Int)∨((keyOf x).1=((1:Nat):Int)∧(keyOf x).2<((0:Nat):Int)):=fA
  omega
theorem Nn{l E:au}(hk:eE l=true)(hp: ∀x∈E,cW x.1 x.2.1):ej aH (fS l E) (nM (l.map keyOf) E)=ej aH (fS l E) nO:=by
 obtain⟨hs,Lm⟩:=kC hk
 refine Nh ⟨δ,δ⟩ (yZ hs) (oH 25 7 1) (λk hk=> ?_) (λk hk hn=> ?_)
 ·have:cW k.1 k.2:=by
   rcases mC.1 hk with h|⟨x,hx,rfl⟩
   ·obtain⟨x,hx,rfl⟩:=cD.1 h
    exact Lm x hx
   ·exact hp x hx
  unfold cW at this
  exact oG.2 ω
 ·have h1:k∉l.map keyOf:=λh=>hn (mC.2 (Or.inl h))
  have h2:k∉E.map keyOf:=λh=>by
   obtain⟨x,hx,e⟩:=cD.1 h
   exact hn (mC.2 (Or.inr ⟨x,hx,e⟩))
  unfold fS
  rw[gA h1,gA h2];rfl
def eY(b:aq)(s e:au):aq×Int:=
 match ej Fq (fS b.2.2.2.1 s) kB with
 |none=>((cw,(dh,(bK,(bK,(dV,(eh,())))))),2)
 |some s'=>match ej aH (fS b.2.2.1 e) nO with
  |none=>((cw,(dh,(bK,(bK,(dV,(eh,())))))),2)
  |some r'=>((b.1,(b.2.1,(r',(s',b.2.2.2.2)))),0)
theorem WM(N:Nat){b:aq}(w:kz b):aap N b=some b:=by
 unfold aap
 have h1:=w.m;have h2:=w.a;have h3:=w.r;have h4:=w.s;have h5:=w.p;have h6:=w.o
 rw[w8 N ω,av,w8 N ω,av,w8 N ω,av,w8 N ω,av,w8 N ω,av,w8 N ω,av]
end VM
end
section
namespace VM
open Go VM.F
theorem WN(N:Nat)(hN:2000000≤N){b:aq}{s e:au}(w:kz b)(hr:eE b.2.2.1=true)(hs:da b.2.2.2.1=true)(lr:b.2.2.1.length≤90000)(ls:b.2.2.2.1.length≤90000)(gs:WC s)(ge:WJ e):
  F65 N b s (e.map kW)=some (eY b s e):=by
 unfold F65 eY
 rw[WM N w,av,aak N hN hs ls w.qs gs,WK N hN hr lr w.qr ge,TN hs gs.place,Nn hr ge.key]
 unfold vi
 rw[av,av]
 have e1:aM 2 0=false:=du ω
 have e2:aM 0 0=true:=dt rfl
 cases ej Fq (fS b.2.2.2.1 s) kB with
 |none=>dsimp only;rw[e1];rfl
 |some s'=>
  cases ej aH (fS b.2.2.1 e) nO with
  |none=>dsimp only;rw[e1,e2];rfl
  |some r'=>dsimp only;rw[e2];rfl
theorem Sf(N:Nat)(C:eP.bI){l:aO}(hl:l.length≤100000)(i:Nat)(hi:i<l.length): ∀(m n k:Nat),i-k≤m→m<n→k≤i→(l.take k).any (rD (l.getD i a7).2.2.1 (l.getD i a7).2.1)=false→
  eP.l9 N C n l (i:Int) (k:Int)=cond ((l.take i).any (rD (l.getD i a7).2.2.1 (l.getD i a7).2.1)) (some false) (C l ((i+1:Nat):Int))
 |m,0,k,_,hn,_,_=>ω
 |m,n+1,k,hm,hn,hk,hb=>by
  unfold eP.l9 eP.zg
  by_cases h:k<i
  ·have yV:=Sf N C hl i hi (m-1) n (k+1) ω ω ω
   have ht:(l.take (k+1)).any (rD (l.getD i a7).2.2.1 (l.getD i a7).2.1)=rD (l.getD i a7).2.2.1 (l.getD i a7).2.1 (l.getD k a7):=by
    have ek:l.getD k a7=l[k]' ω:=by rw[aR,bl (show k<l.length by omega)];rfl
    rw[←sD (show k<l.length by omega),List.any_append,hb,ek,List.any_cons,List.any_nil,tJ,tI]
   have m4:rD (l.getD i a7).2.2.1 (l.getD i a7).2.1 (l.getD k a7)=true→(l.take i).any (rD (l.getD i a7).2.2.1 (l.getD i a7).2.1)=true:=λhh=>by
    refine zA.2 ⟨l.getD k a7,?_,hh⟩
    rw[aR,bl (show k<l.length by omega)]
    exact List.mem_take_iff_getElem.2 ⟨k,ω,rfl⟩
   rw[aP ω,ak,aQ ω ω,ak,aQ ω ω,ak,ak,ak,aE,aE,aN,aN,aw (x:=(k:Int)+1) ω ω,ae k]
   by_cases h1:(l.getD k a7).2.2.1=(l.getD i a7).2.2.1
   ·by_cases h2:(l.getD k a7).2.1=(l.getD i a7).2.1
    ·rw[aj h1,aj h2,m4 (by unfold rD dy;rw[bs h1,bs h2];rfl)];rfl
    ·rw[aj h1,ah h2]
     exact yV (by rw[ht];unfold rD dy;rw[cg h2,EJ])
   ·rw[ah h1]
    exact yV (by rw[ht];unfold rD dy;rw[cg h1,wm])
  ·have:k=i:=ω
   subst this
   rw[aL ω,ar,hb,ar,aw (x:=(k:Int)+1) ω ω,ae k]
theorem uq(N:Nat){l:aO}(hl:l.length≤100000)(hN:200000≤N):eP N l=some (Wz l):=by
 unfold eP eP.b Wz
 by_cases h40:l.length≤40
 ·rw[aL ω,ar,bs h40]
  refine iK (F:=λn i=>eP.l4 N n l i) (AD l) (λn i r hi hp hr=> ?_) (λn=> ?_) N ω
  ·unfold eP.l4 eP.dH eP.j8 eP.PI
   have m4:eP.l9 N (eP.l4 N n) N l (i:Int) 0=_:=Sf N (eP.l4 N n) hl i hi i N 0 ω ω ω rfl
   rw[aP ω,ak,aQ ω ω,ak,ak,aE,R9,av,cond_not,gL,m4,hr]
   have hT:cond ((l.take i).any (rD (l.getD i a7).2.2.1 (l.getD i a7).2.1)) (some false) r=if(l.take i).any (rD (l.getD i a7).2.2.1 (l.getD i a7).2.1)=false then r else some false:=by
    cases(l.take i).any (rD (l.getD i a7).2.2.1 (l.getD i a7).2.1)<;>rfl
   rw[hT]
   by_cases hK:IG (l.getD i a7)
   ·rw[aj hK]
    have hD:(if AD l i then r else some false)=if uh i (l.getD (i-1) a7).1 (l.getD i a7).1 then(if(l.take i).any (rD (l.getD i a7).2.2.1 (l.getD i a7).2.1)=false then r else some false)else some false:=by
     by_cases h1:uh i (l.getD (i-1) a7).1 (l.getD i a7).1<;>by_cases h2:(l.take i).any (rD (l.getD i a7).2.2.1 (l.getD i a7).2.1)=false
     ·rw[aj h1,aj h2,aj ⟨hK,h1,h2⟩]
     ·rw[aj h1,ah h2,ah (λh=>h2 h.2.2)]
     ·rw[ah h1,ah (λh=>h1 h.2.1)]
     ·rw[ah h1,ah (λh=>h1 h.2.1)]
    rw[hD]
    by_cases h0:0<i
    ·have e:W .i64 ((i:Int)-1)=((i-1:Nat):Int):=by rw[aw ω ω];omega
     rw[aP (x:=0) (y:=(i:Int)) ω,ak,e]
     dsimp only
     rw[aE,aQ ω ω,ak,cP]
     by_cases h1:uh i (l.getD (i-1) a7).1 (l.getD i a7).1
     ·rw[aj h1,ah (by unfold uh at h1;omega)]
     ·rw[ah h1,aj (by unfold uh at h1;omega)]
    ·rw[aL (x:=0) (y:=(i:Int)) ω,ar,aj (show uh i (l.getD (i-1) a7).1 (l.getD i a7).1 from λh=>absurd h h0)]
   ·rw[ah hK,ah (λh=>hK h.1)]
  ·unfold eP.l4 eP.dH
   rw[aL ω,ar]
 ·rw[aP ω,ak,cg h40,EJ]
end VM
end
section
namespace VM
open Go VM.F
def vm(s w p:Int):Prop:=((s=1∨s=3)∧w=0∧p=0)∨(s=2∧1≤w∧w≤12∧ -1152921504606846976≤p∧p≤1152921504606846976)
instance(s w p:Int):Decidable (vm s w p):=by unfold vm;infer_instance
def FO(a:Int):Prop:=1≤a∧a≤1099511627776
instance(a:Int):Decidable (FO a):=by unfold FO;infer_instance
def leI(a b:Int):Prop:=a≤b
instance(a b:Int):Decidable (leI a b):=by unfold leI;infer_instance
def Ea(c:ag)(l:bz)(i:Nat):Prop:=
 FO (l.getD i ((0:Int),(cw,a7))).1∧uh i (l.getD (i-1) ((0:Int),(cw,a7))).1 (l.getD i ((0:Int),(cw,a7))).1∧ ¬dy ((l.getD i ((0:Int),(cw,a7))).2.1.length:Int) 0∧FJ c (l.getD i ((0:Int),(cw,a7))).2.1=true∧leI (l.getD i ((0:Int),(cw,a7))).2.2.1 0∧vm (l.getD i ((0:Int),(cw,a7))).2.2.2.1 (l.getD i ((0:Int),(cw,a7))).2.2.2.2.1 (l.getD i ((0:Int),(cw,a7))).2.2.2.2.2.1
instance(c:ag)(l:bz):DecidablePred (Ea c l):=λi=>by unfold Ea;infer_instance
def BI(c:ag)(l:bz):Bool:=fG c&&(decide (l.length≤12)&&(decide (∀j,j<l.length→Ea c l j)&&true))
def IT(l:bz):Prop:= ∀x∈l,x.2.1.length≤100000
theorem Qu{l:bz}(h:IT l)(i:Nat):(l.getD i ((0:Int),(cw,a7))).2.1.length≤100000:=by
 by_cases hi:i<l.length
 ·rw[aR,bl hi];exact h _ (eL hi)
 ·rw[aR,gP ω];exact bG _
theorem aaq(s w p:Int)(r:Option Bool):
  cond (aM s 1) (cond (!aM w 0) (some false) (cond (!aM p 0) (some false) r)) (cond (aM s 3) (cond (!aM w 0) (some false) (cond (!aM p 0) (some false) r)) (cond (aM s 2) (cond (aS w 1) (some false) (cond (aS 12 w) (some false) (cond (aS p (-1152921504606846976)) (some false) (cond (aS 1152921504606846976 p) (some false) r)))) (some false)))=
   if vm s w p then r else some false:=by
 simp only[cond_not,aN,cU]
 by_cases h:vm s w p
 ·rw[aj h];unfold vm at h
  repeat' split
  all_goals first|rfl|omega
 ·rw[ah h];unfold vm at h
  repeat' split
  all_goals first|rfl|omega
theorem TT{A B C D E F:Prop} [Decidable A] [Decidable B] [Decidable C] [Decidable D] [Decidable E] [Decidable F](r:Option Bool):
  (if A then(if B then(if C then(if D then(if E then(if F then r else some false)else some false)else some false)else some false)else some false)else some false)=if A∧B∧C∧D∧E∧F then r else some false:=by
 by_cases hA:A<;>by_cases hB:B<;>by_cases hC:C<;>by_cases hD:D<;>by_cases hE:E<;>by_cases hF:F<;>simp only[hA,hB,hC,hD,hE,hF,gH,fa,and_self,ec,and_false,false_and,true_and]
theorem WO{a b n f s w p:Int}{i:Nat}{o:Bool}{r:Option Bool}:
  cond (aS a 1) (some false) (cond (aS 1099511627776 a) (some false) (if uh i b a then(cond (aM n 0) (some false) (cond (!o) (some false) (cond (aS 0 f) (some false) (if vm s w p then r else some false))))else some false))=
   if FO a∧uh i b a∧ ¬dy n 0∧o=true∧leI f 0∧vm s w p then r else some false:=by
 rw[←TT]
 simp only[cond_not,aN,cU]
 by_cases h1:FO a
 ·have p8:=h1
  unfold FO at p8
  rw[aj h1,ah ω,ah ω]
  by_cases h2:uh i b a
  ·rw[aj h2,aj h2]
   by_cases h3:n=0
   ·rw[aj h3,ah (show ¬ ¬dy n 0 from λh=>h h3)]
   ·rw[ah h3,aj (show ¬dy n 0 from h3)]
    cases o
    ·rfl
    ·rw[ak,aj rfl]
     by_cases h4:f≤0
     ·rw[aj (show leI f 0 from h4),ah ω]
     ·rw[ah (show ¬leI f 0 from h4),aj ω]
  ·rw[ah h2,ah h2]
 ·have p8:=h1
  unfold FO at p8
  rw[ah h1]
  by_cases h2:a<1
  ·rw[aj h2]
  ·rw[ah h2,aj ω]
theorem WQ{i:Nat}{a b:Int}{r:Option Bool}(h0:0<i):cond (c0 a b) (some false) r=if uh i b a then r else some false:=by
 rw[cP]
 by_cases h1:uh i b a
 ·rw[aj h1,ah (by unfold uh at h1;omega)]
 ·rw[ah h1,aj (by unfold uh at h1;omega)]
theorem AL(N:Nat)(hN:200000≤N)(c:ag){l:bz}(hl:l.length≤100000)(hw:IT l):iX N c l=some (BI c l):=by
 unfold iX iX.b BI
 rw[nG N ω,av]
 cases fG c
 ·rfl
 rw[aY,ar,np]
 by_cases h12:l.length≤12
 ·rw[aL ω,ar,bs h12,np]
  refine iK (F:=λn i=>iX.l4 N n l c i) (Ea c l) (λn i r hi hp hr=> ?_) (λn=> ?_) N ω
  ·unfold iX.l4 iX.dH iX.j9 iX.M7
   rw[aP ω,ak,aQ ω ω,ak,aE,AB N hN c (Qu hw i),av,aw (x:=(i:Int)+1) ω ω,ae i,hr,aaq]
   refine Eq.trans ?_ WO
   by_cases h0:0<i
   ·have e:W .i64 ((i:Int)-1)=((i-1:Nat):Int):=by rw[aw ω ω];omega
    rw[aP (x:=0) (y:=(i:Int)) ω,ak,e]
    dsimp only
    rw[aE,aQ ω ω,ak,WQ h0]
   ·rw[aL (x:=0) (y:=(i:Int)) ω,ar,aj (show uh i (l.getD (i-1) ((0:Int),(cw,a7))).1 (l.getD i ((0:Int),(cw,a7))).1 from λh=>absurd h h0)]
  ·unfold iX.l4 iX.dH
   rw[aL ω,ar]
 ·rw[aP ω,ak,cg h12,wm]
end VM
end
section
namespace VM
open Go VM.F
abbrev AwS:=au×au×bz
structure afW(z:AwS)(i:Nat):Prop where
 place: ∀x∈z.1,bU x.1 x.2.1
 q: ∀x∈z.1,aH (dW x)∧se (dW x)
 len:z.1.length≤12*i
 flat: ∀a:Int,(c9 a z.1).sum=0
 key: ∀x∈z.2.1,cW x.1 x.2.1
 qe: ∀x∈z.2.1,aH (dW x)
 az4:z.2.1.length≤2*i
 zero:(z.2.1.map dW).sum=0
 out:z.2.2.length=i
theorem HO(a:Int)(l m:au):c9 a (l++m)=c9 a l++c9 a m:=by
 induction l with
 |nil=>rfl
 |cons x t ih=>
  rw[kL,dF,dF,ih]
  split<;>rfl
theorem ahS{v:Int}(h:aH v∧se v):aH (0-v)∧se (0-v):=by
 unfold aH se at*;omega
theorem afW.nil:afW ([],[],[]) 0:=⟨λx hx=>(nomatch hx),λx hx=>(nomatch hx),aI _,λa=>rfl,λx hx=>(nomatch hx),λx hx=>(nomatch hx),aI _,rfl,rfl⟩
end VM
end
section
namespace VM
open Go VM.F
theorem dN{c:ag}{b:aq}(h:eu c b=true):eE b.2.2.1=true∧da b.2.2.2.1=true:=by
 unfold eu at h
 have h1:=(dm.1 (dm.1 h).2).2
 have h2:=dm.1 h1
 have h3:=(dm.1 (dm.1 h2.2).2).1
 refine⟨h2.1,?_⟩
 unfold nJ at h3
 exact(dm.1 h3).2
structure Eb(b:aq):Prop where
 w:kz b
 r:b.2.2.1.length≤90000
 s:b.2.2.2.1.length≤90000
end VM
end
section
namespace VM
open Go VM.F
end VM
end
section
namespace VM
open Go VM.F
theorem iP(x:Int):aM x x=true:=dt rfl
theorem ahT(x:FF):oR (.pair (.int .i64) (.pair (.int .i64) .unit)) x x=true:=by
 show(aM x.1 x.1&&(aM x.2.1 x.2.1&&true))=true
 rw[iP,iP];rfl
theorem Kv(x:dd):oR (.pair (.int .i64) (.pair (.int .i64) (.pair (.int .i64) .unit))) x x=true:=by
 show(aM x.1 x.1&&oR (.pair (.int .i64) (.pair (.int .i64) .unit)) x.2 x.2)=true
 rw[iP,ahT];rfl
theorem ahU(x:cy):oR (.pair (.int .i64) (.pair (.int .i64) (.pair (.int .i64) (.pair (.int .i64) .unit)))) x x=true:=by
 show(aM x.1 x.1&&oR (.pair (.int .i64) (.pair (.int .i64) (.pair (.int .i64) .unit))) x.2 x.2)=true
 rw[iP,Kv];rfl
theorem ahV(x:gu):oR (.pair (.int .i64) (.pair (.int .i64) (.pair (.int .i64) (.pair (.int .i64) (.pair (.int .i64) (.pair (.int .i64) .unit)))))) x x=true:=by
 show(aM x.1 x.1&&(aM x.2.1 x.2.1&&oR (.pair (.int .i64) (.pair (.int .i64) (.pair (.int .i64) (.pair (.int .i64) .unit)))) x.2.2 x.2.2))=true
 rw[iP,iP,ahU];rfl
theorem qC{F:Nat→Int→Option Bool}{len:Nat}(hs: ∀n (i:Nat),i<len→F n ((i+1:Nat):Int)=some true→F (n+1) (i:Int)=some true)(he: ∀n,F (n+1) (len:Int)=some true): ∀(m n i:Nat),len-i≤m→m<n→i≤len→F n (i:Int)=some true
 |m,0,i,_,hn,_=>ω
 |m,n+1,i,hm,hn,hi=>by
  by_cases h:i<len
  ·exact hs n i h (qC hs he (m-1) n (i+1) ω ω ω)
  ·have:i=len:=ω
   subst this;exact he n
theorem WR(N:Nat){l:au}(hl:l.length≤100000)(hN:200000≤N):DI N l l=some true:=by
 unfold DI DI.b
 rw[iP,aY,ar]
 refine qC (F:=λn i=>DI.l4 N n l l i) (len:=l.length) (λn i hi hr=> ?_) (λn=> ?_) l.length N 0 ω ω ω
 ·unfold DI.l4 DI.dH
  rw[aP ω,ak,aQ ω ω,ak,ak,Kv,aY,ar,aw (x:=(i:Int)+1) ω ω,ae i]
  exact hr
 ·unfold DI.l4 DI.dH
  rw[aL ω,ar]
theorem TU(N:Nat){l:au}(hl:l.length≤100000)(hN:200000≤N):BJ N l l=some true:=by
 unfold BJ BJ.b
 rw[iP,aY,ar]
 refine qC (F:=λn i=>BJ.l4 N n l l i) (len:=l.length) (λn i hi hr=> ?_) (λn=> ?_) l.length N 0 ω ω ω
 ·unfold BJ.l4 BJ.dH
  rw[aP ω,ak,aQ ω ω,ak,ak,Kv,aY,ar,aw (x:=(i:Int)+1) ω ω,ae i]
  exact hr
 ·unfold BJ.l4 BJ.dH
  rw[aL ω,ar]
theorem Qv(N:Nat){l:br}(hl:l.length≤100000)(hN:200000≤N):DJ N l l=some true:=by
 unfold DJ DJ.b
 rw[iP,aY,ar]
 refine qC (F:=λn i=>DJ.l4 N n l l i) (len:=l.length) (λn i hi hr=> ?_) (λn=> ?_) l.length N 0 ω ω ω
 ·unfold DJ.l4 DJ.dH
  rw[aP ω,ak,aQ ω ω,ak,ak,ahV,aY,ar,aw (x:=(i:Int)+1) ω ω,ae i]
  exact hr
 ·unfold DJ.l4 DJ.dH
  rw[aL ω,ar]
theorem WS(N:Nat){l:List (Int)}(hl:l.length≤100000)(hN:200000≤N):DK N l l=some true:=by
 unfold DK DK.b
 rw[iP,aY,ar]
 refine qC (F:=λn i=>DK.l4 N n l l i) (len:=l.length) (λn i hi hr=> ?_) (λn=> ?_) l.length N 0 ω ω ω
 ·unfold DK.l4 DK.dH
  rw[aP ω,ak,aQ ω ω,ak,ak,iP,aY,ar,aw (x:=(i:Int)+1) ω ω,ae i]
  exact hr
 ·unfold DK.l4 DK.dH
  rw[aL ω,ar]
theorem FP{P:Int→Prop} [DecidablePred P]{f:Int→Int→Int}: ∀{K:List cR} {o:au},ej P f K=some o→o.length≤K.length
 |[],o,h=>by
  have:some []=some o:=h
  rw[←lE this];exact aI _
 |k::t,o,h=>by
  rw[jy]at h
  by_cases hP:P (f k.1 k.2)
  ·rw[aj hP]at h
   cases hc:ej P f t with
   |none=>rw[hc]at h;exact absurd h (by simp)
   |some r=>
    have ih:=FP hc
    rw[hc]at h
    have h':=lE h
    rw[←h',aW]
    dsimp only
    split
    ·omega
    ·rw[aW];omega
  ·rw[ah hP]at h;exact absurd h (by simp)
theorem Qw:kB.length=150:=by decide+kernel
theorem TV:nO.length=175:=by decide+kernel
structure No(b:aq):Prop where
 m:b.1.length≤100000
 a:b.2.1.length≤100000
 r:b.2.2.1.length≤100000
 s:b.2.2.2.1.length≤100000
 p:b.2.2.2.2.1.length≤100000
 o:b.2.2.2.2.2.1.length≤100000
theorem xI:No (([]:aG),(([]:aO),(([]:au),(([]:au),(([]:List Int),(([]:br),())))))):=⟨bG _,bG _,bG _,bG _,bG _,bG _⟩
theorem Np{b:aq}(w:kz b)(s e:au):No (eY b s e).1:=by
 unfold eY
 cases h1:ej Fq (fS b.2.2.2.1 s) kB with
 |none=>exact xI
 |some s'=>
  cases h2:ej aH (fS b.2.2.1 e) nO with
  |none=>exact xI
  |some r'=>
   have g1:=FP h1
   have g2:=FP h2
   rw[Qw]at g1
   rw[TV]at g2
   exact⟨w.m,w.a,by show r'.length≤_;omega,by show s'.length≤_;omega,w.p,w.o⟩
end VM
end
section
namespace VM
open Go VM.F Go.RowKit
def fB(a b:Int):au→Int
 |[]=>0
 |x::t=>if x.1=a then(if x.2.1=b then x.2.2.1 else fB a b t)else fB a b t
theorem fJ(a b:Int)(x:dd)(t:au):fB a b (x::t)=if x.1=a then(if x.2.1=b then x.2.2.1 else fB a b t)else fB a b t:=rfl
def bn(l:au)(a b:Int):Int:=if da l then fB a b l else 0
def vL(l:au)(a b:Int):Int:=if eE l then fB a b l else 0
theorem xJ(N:Nat){l:au}(hl:l.length≤100000)(hN:200000≤N)(a b:Int):AN N l a b=some (bn l a b):=by
 unfold AN AN.b bn
 rw[mM N hl hN,av,cond_not]
 have:=Au l bf (λn i=>AN.l4 N n l a b i) (λt=>some (fB a b t)) (λn i hi hr=> ?_) (λn=> ?_) N ω
 ·rw[this];cases da l<;>rfl
 ·unfold AN.l4 AN.dH
  rw[aP ω,ak,aQ ω ω,ak,ak,ak,aE,aw (x:=(i:Int)+1) ω ω,ae i,hr,aN,aN,fJ]
  split
  ·split<;>rfl
  ·rfl
 ·unfold AN.l4 AN.dH
  rw[aL ω,ar];rfl
theorem WT(N:Nat){l:au}(hl:l.length≤100000)(hN:200000≤N)(a b:Int):vY N l a b=some (vL l a b):=by
 unfold vY vY.b vL
 rw[FC N hl hN,av,cond_not]
 have:=Au l bf (λn i=>vY.l4 N n l a b i) (λt=>some (fB a b t)) (λn i hi hr=> ?_) (λn=> ?_) N ω
 ·rw[this];cases eE l<;>rfl
 ·unfold vY.l4 vY.dH
  rw[aP ω,ak,aQ ω ω,ak,ak,ak,aE,aw (x:=(i:Int)+1) ω ω,ae i,hr,aN,aN,fJ]
  split
  ·split<;>rfl
  ·rfl
 ·unfold vY.l4 vY.dH
  rw[aL ω,ar];rfl
theorem Kw{l:au}(h: ∀i,i<l.length→aH (dW (l.getD i bf))):eJ l:=λx hx=>by
 obtain⟨i,hi,e⟩:=fX hx
 have:=h i hi
 rw[aR,bl hi]at this
 rw[←e];exact this
namespace Pure
end Pure
end VM
end
section
namespace VM
open Go VM.F
theorem FQ{l:au}(h:eJ l)(a b:Int):aH (fB a b l):=by
 induction l with
 |nil=>show aH 0;decide
 |cons x t ih=>
  have ih:=ih (λy hy=>h y (a8 _ hy))
  rw[fJ]
  split
  ·split
   ·exact h x (bp ..)
   ·exact ih
  ·exact ih
theorem WU{l:au}(h:eJ l)(a b:Int):aH (vL l a b):=by
 unfold vL
 split
 ·exact FQ h a b
 ·exact⟨δ,δ⟩
def tf(a:Int):au→aG
 |[]=>[]
 |x::t=>if x.1=a then(x.2.1,(x.2.2.1,()))::tf a t else tf a t
theorem xa(a:Int)(x:dd)(t:au):tf a (x::t)=if x.1=a then(x.2.1,(x.2.2.1,()))::tf a t else tf a t:=rfl
def posOf(l:au)(a:Int):aG:=if da l then tf a l else []
theorem FR(a:Int): ∀l:au,(tf a l).length≤l.length
 |[]=>aI _
 |x::t=>by
  have:=FR a t
  rw[xa,aW]
  split
  ·rw[aW];omega
  ·omega
theorem TW(a:Int)(l:au):(posOf l a).length≤l.length:=by
 unfold posOf
 split
 ·exact FR a l
 ·exact bG _
theorem rF{a:Int}{y:FF}: ∀{l:au},y∈tf a l→ ∃x∈l,x.1=a∧y=(x.2.1,(x.2.2.1,()))
 |[],h=>nomatch h
 |x::t,h=>by
  rw[xa]at h
  by_cases e:x.1=a
  ·rw[aj e]at h
   rcases aX.1 h with h|h
   ·exact⟨x,bp ..,e,h⟩
   ·obtain⟨x',hx,h'⟩:=rF h
    exact⟨x',a8 _ hx,h'⟩
  ·rw[ah e]at h
   obtain⟨x',hx,h'⟩:=rF h
   exact⟨x',a8 _ hx,h'⟩
theorem Qx(N:Nat){l:au}(hl:l.length≤100000)(hN:200000≤N)(a:Int):yk N l a=some (posOf l a):=by
 unfold yk yk.b posOf
 rw[mM N hl hN,av,cond_not]
 have:=sm l bf (λn i s=>yk.l5 N n l a s i) (λt s=>some (s++tf a t)) (λi (s:aG)=>s.length≤i) (λn i s hi hI hr=> ?_) (λn s hI=> ?_) l.length N 0 [] ω ω ω (aI _)
 ·have e:yk.l5 N N l a [] 0=some (tf a l):=this
  rw[e];cases da l<;>rfl
 ·unfold yk.l5 yk.fi
  rw[aP ω,ak,aQ ω ω,ak,ak,ak,aE,aw (x:=(i:Int)+1) ω ω,ae i,aN,bQ (by rw[aK];omega),ak,xa]
  split
  ·rw[hr _ (by rw[aT,aK];omega),bM];rfl
  ·exact hr s ω
 ·unfold yk.l5 yk.fi
  rw[aL ω,ar]
  show some s=some (s++[])
  rw[cK]
def Kx(a n:Int):Prop:=0≤a∧a<n
end VM
end
section
namespace VM
open Go VM.F
theorem WV{hi:Int}: ∀{l:List Int} {lo:Int},l.Pairwise (· < ·)→(∀x∈l,lo≤x∧x<hi)→lo≤hi→(l.length:Int)≤hi-lo
 |[],lo,_,_,h=>by rw[bZ];omega
 |x::t,lo,hp,hm,h=>by
  obtain⟨h1,h2⟩:=eK.1 hp
  have hx:=hm x (bp ..)
  have ih:=WV (lo:=x+1) h2 (λy hy=>⟨h1 y hy,(hm y (a8 _ hy)).2⟩) ω
  rw[aW];omega
end VM
end
section
namespace VM
open Go VM.F
def ji(p:Int):Prop:=1≤p∧p≤1000000000000
instance(p:Int):Decidable (ji p):=by unfold ji;infer_instance
theorem FT(N:Nat)(p:Int):DB N p=some (decide (ji p)):=(iM N p).trans (eA some (nh.2 Iff.rfl))
def kD(a b c d e:Int):Prop:=(0≤a∧a≤24)∧(0≤b∧b≤24)∧a≠b∧(0≤c∧c<6)∧(1≤d∧d≤1000000000)∧ji e
instance(a b c d e:Int):Decidable (kD a b c d e):=by unfold kD;infer_instance
def nP(t:tg):Prop:=kD t.1 t.2.1 t.2.2.1 t.2.2.2.1 t.2.2.2.2.1
instance:DecidablePred nP:=λt=>by unfold nP;infer_instance
theorem Nq(a b c d e:Int):cond (c0 0 a) (cond (c0 a 24) (cond (c0 0 b) (cond (c0 b 24) (cond (!aM a b) (cond (c0 0 c) (cond (aS c 6) (cond (c0 1 d) (cond (c0 d 1000000000) (some (decide (ji e))) (some false)) (some false)) (some false)) (some false)) (some false)) (some false)) (some false)) (some false)) (some false)=some (decide (kD a b c d e)):=by
 simp only[cP,cond_not,aN,cU]
 by_cases hP:kD a b c d e
 ·have hp:=hP.2.2.2.2.2
  rw[bs hP,bs hp]
  unfold kD at hP
  repeat' split
  all_goals first|rfl|omega
 ·rw[cg hP]
  by_cases hp:ji e
  ·unfold kD at hP
   repeat' split
   all_goals first|rfl|(exact absurd ⟨ω,ω,ω,ω,ω,hp⟩ hP)
  ·rw[cg hp]
   repeat' split
   all_goals rfl
theorem xK(N:Nat)(t:tg):WW N t=some (decide (nP t)):=by
 unfold WW
 rw[FT,av]
 exact Nq _ _ _ _ _
def AO(a x:Int):dd:=if a=0 then((2:Int),((0:Int),(x,())))else((5:Int),(a,(x,())))
def Qy(t:tg)(p:Int):au:=if p-t.2.2.2.2.1=0 then []else [AO t.1 ((p-t.2.2.2.2.1)*t.2.2.2.1),AO t.2.1 (-((p-t.2.2.2.2.1)*t.2.2.2.1))]
theorem BK(a x:Int)(N:Nat):Ky N a=some ((AO a x).1,(AO a x).2.1):=by
 unfold Ky AO
 rw[aN]
 by_cases h:a=0
 ·rw[aj h,aj h]
 ·rw[ah h,ah h]
theorem nQ(a x:Int):dW (AO a x)=x:=by unfold AO;split<;>rfl
theorem IU{d q:Int}(h1: -1000000000000≤d∧d≤1000000000000)(h2:1≤q∧q≤1000000000): -1000000000000000000000≤d*q∧d*q≤1000000000000000000000∧(d*q=0↔d=0):=by
 refine⟨?_,?_,?_⟩
 ·have:=uH h1.1 (show 0≤q by omega)
  have h3: -1000000000000*1000000000≤ -1000000000000*q:=ω
  omega
 ·have:=uH h1.2 (show 0≤q by omega)
  have h3:1000000000000*q≤1000000000000*1000000000:=ω
  omega
 ·rw[Int.mul_eq_zero];omega
theorem HQ(N:Nat)(hN:4000000≤N){t:tg}{p:Int}(ht:nP t)(hp:ji p):Qz N t p=some ((Qy t p).map jR,0):=by
 unfold Qz Qy
 have hq:=ht.2.2.2.2.1
 have he:=ht.2.2.2.2.2
 rw[xK,av,bs ht,aY,ar,FT,av,bs hp,aY,ar]
 unfold ji at hp he
 generalize t.2.2.2.2.1=e at*
 generalize t.2.2.2.1=q at*
 have hd: -1000000000000≤p-e∧p-e≤1000000000000:=ω
 have hn:=IU hd hq
 have TS:eB ((p-e)*q):=by unfold eB;omega
 rw[aw (x:=p-e) ω ω,dC N ω ω ω,av,dC N ω ω ω,av,Aq N hN ((Fit.i64 ω ω).mono ω) ((Fit.i64 ω ω).mono ω),av,p9,av,aN]
 by_cases h:p-e=0
 ·rw[aj h,aj (by rw[hn.2.2.2 h];rfl)];rfl
 ·rw[ah h,ah (λk=>h (hn.2.2.1 (ky.1 k))),BK t.1 ((p-e)*q),av,BK t.2.1 (-((p-e)*q)),av,oB N hN (D9 TS),av,bR,bR,iE]
  unfold jR
  rw[nQ,nQ]
theorem iq{c:ag}{b:aq}(h:eu c b=true):b.2.2.2.2.1.length=c.1.length∧fe b.2.2.2.2.1=true:=by
 unfold eu at h
 simp only[bP]at h
 have h1:=bF h.2.2.2.2.2.2.1
 unfold dy at h1
 exact⟨ω,h.2.2.2.2.2.2.2.2.2.2⟩
end VM
end
section
namespace VM
open Go VM.F
theorem Nr{l:List Int}(h:fe l=true){i:Nat}(hi:i<l.length):ji (l.getD i 0):=bF h i hi
end VM
end
section
namespace VM
open Go VM.F
theorem vn{c:ag}{b:aq}(h:eu c b=true):fG c=true:=by
 unfold eu at h
 exact(dm.1 h).1
def nR(k:Int):Nat→aO→List Int
 |_,[]=>[]
 |i,x::t=>if x.1=k then(i:Int)::nR k (i+1) t else nR k (i+1) t
theorem AP(k:Int)(i:Nat)(x:cy)(t:aO):nR k i (x::t)=if x.1=k then(i:Int)::nR k (i+1) t else nR k (i+1) t:=rfl
def iQ(c:ag)(k:Int):List Int:=if fG c then nR k 0 c.1 else []
theorem QA(N:Nat)(hN:200000≤N)(c:ag)(hl:c.1.length≤100000)(k:Int):CU N c k=some (iQ c k):=by
 unfold CU CU.b iQ
 rw[nG N ω,av,cond_not]
 have:=sm c.1 a7 (λn i s=>CU.l5 N n k c s i) (λt s=>some (s++nR k (c.1.length-t.length) t)) (λi (s:List Int)=>s.length≤i) (λn i s hi hI hr=> ?_) (λn s hI=> ?_) c.1.length N 0 [] ω ω ω (aI _)
 ·have e:CU.l5 N N k c [] 0=some (nR k 0 c.1):=by
   refine this.trans ?_
   rw[cM,tL];rfl
  rw[e];cases fG c<;>rfl
 ·unfold CU.l5 CU.fi
  have e1:c.1.length-(c.1.getD i a7::c.1.drop (i+1)).length=i:=by rw[aW,dI];omega
  have e2:c.1.length-(c.1.drop (i+1)).length=i+1:=by rw[dI];omega
  rw[e2]at hr
  rw[aP ω,ak,aQ ω ω,ak,aE,aw (x:=(i:Int)+1) ω ω,ae i,aN,bQ (by rw[aK];omega),ak,e1,AP]
  split
  ·rw[hr _ (by rw[aT,aK];omega),bM];rfl
  ·exact hr s ω
 ·unfold CU.l5 CU.fi
  rw[aL ω,ar]
  show some s=some (s++[])
  rw[cK]
theorem CV{c:ag}(h:fG c=true):c.1.length≤6∧ ∀i,i<c.1.length→0≤(c.1.getD i a7).1∧(c.1.getD i a7).1≤3:=by
 unfold fG at h
 simp only[bP]at h
 have h1:=bF h.1
 have h2:=bF h.2.1
 exact⟨h1.2,λi hi=>(h2 i hi).1⟩
theorem WX{l:au}(h:eJ l)(a b:Int):aH (bn l a b):=by
 unfold bn
 cases da l
 ·show aH 0;decide
 ·exact FQ h a b
end VM
end
section
namespace VM
open Go VM.F
end VM
end
section
namespace VM
open Go VM.F
end VM
end
section
namespace VM
open Go VM.F
def xb(l:List Int)(k:Int):Int:=l.getD k.toNat 0
def ins(l:List Int):List Int→Int→List Int
 |[],i=>[i]
 |k::t,i=>if xb l i≤xb l k then k::ins l t i else i::k::t
def dE(l:List Int):Nat→List Int
 |0=>[]
 |n+1=>ins l (dE l n) n
def ir(l:List Int):List Int:=dE l l.length
def ur(l:List Int)(a b:Int):Prop:=xb l b<xb l a∨(xb l b=xb l a∧a<b)
theorem Sg(l:List Int): ∀(o:List Int) (i:Int),(ins l o i).length=o.length+1
 |[],i=>rfl
 |k::t,i=>by unfold ins;split<;>simp[Sg l t i]
theorem mO(l:List Int): ∀n,(dE l n).length=n
 |0=>rfl
 |n+1=>by unfold dE;rw[Sg,mO l n]
theorem rG(l:List Int):(ir l).length=l.length:=mO l _
theorem Kz(l:List Int){x:Int}: ∀{o:List Int} {i:Int},x∈ins l o i↔x=i∨x∈o
 |[],i=>by simp[ins]
 |k::t,i=>by
  unfold ins;split
  ·rw[aX,Kz l,aX]
   exact⟨λh=>h.elim (λh=> .inr (.inl h)) (λh=>h.elim .inl (λh=> .inr (.inr h))),λh=>h.elim (λh=> .inr (.inl h)) (λh=>h.elim .inl (λh=> .inr (.inr h)))⟩
  ·rw[aX]
theorem sT(l:List Int){x:Int}: ∀{n:Nat},x∈dE l n↔0≤x∧x<n
 |0=>⟨(λh=>nomatch h),λh=>absurd h.1 ω⟩
 |n+1=>by unfold dE;rw[Kz,sT l];omega
theorem AQ(l:List Int): ∀{o:List Int} {i:Int},o.Pairwise (ur l)→(∀x∈o,x<i)→(ins l o i).Pairwise (ur l)
 |[],i,_,_=>Ex _ _
 |k::t,i,h,hi=>by
  rw[eK]at h
  have hk:k<i:=hi k (bp ..)
  unfold ins;split
  ·rename_i hle
   rw[eK]
   refine⟨λx hx=> ?_,AQ l h.2 (λx hx=>hi x (a8 _ hx))⟩
   rcases(Kz l).1 hx with rfl|hx
   ·unfold ur;omega
   ·exact h.1 x hx
  ·rename_i hle
   rw[eK,eK]
   refine⟨λx hx=> ?_,h.1,h.2⟩
   rcases aX.1 hx with rfl|hx
   ·unfold ur;omega
   ·have:=h.1 x hx;unfold ur at*;omega
theorem kX(l:List Int): ∀n,(dE l n).Pairwise (ur l)
 |0=>List.Pairwise.nil
 |n+1=>by unfold dE;exact AQ l (kX l n) (λx hx=>((sT l).1 hx).2)
theorem QB(l:List Int): ∀(o:List Int) (i:Int) (p:Nat),p≤o.length→(∀j,j<p→xb l i≤xb l (o.getD j 0))→(p<o.length→xb l (o.getD p 0)<xb l i)→ins l o i=o.take p++i::o.drop p
 |[],i,p,hp,_,_=>by simp at hp;subst hp;rfl
 |k::t,i,0,hp,_,h=>by
  unfold ins;rw[ah (by have:=h (by simp);simp at this;omega)];rfl
 |k::t,i,p+1,hp,h0,h=>by
  unfold ins
  have h1:xb l i≤xb l k:=h0 0 ω
  rw[aj h1,QB l t i p (by simpa using hp) (λj hj=>by have:=h0 (j+1) ω;simpa using this) (λH6=>by have:=h (by simpa using H6);simpa using this)]
  rfl
theorem Sh(l:List Int)(f:Int→Int): ∀(o:List Int) (i:Int),((ins l o i).map f).sum=(o.map f).sum+f i
 |[],i=>by simp[ins]
 |k::t,i=>by
  unfold ins;split
  ·rw[bR,cH,Sh l f t i,bR,cH];omega
  ·simp only[bR,cH];omega
theorem CW(l r:List Int): ∀n,n≤r.length→((dE l n).map (xb r)).sum=(r.take n).sum
 |0,_=>rfl
 |n+1,h=>by
  unfold dE;rw[Sh,CW l r n ω,gy r ω]
  unfold xb;rw[aE]
theorem QC(l r:List Int)(h:l.length=r.length):((ir l).map (xb r)).sum=r.sum:=by
 unfold ir;rw[CW l r _ ω,gl ω]
theorem AS{o:List Int}{j:Nat}(h:j<o.length):o.getD j 0∈o:=by
 rw[aR,bl h];exact eL h
theorem WY{l o:List Int}(h:o.Pairwise (ur l)){j k:Nat}(hjk:j<k)(hk:k<o.length):ur l (o.getD j 0) (o.getD k 0):=by
 rw[p4]at h
 rw[aR,bl ω,aR,bl hk]
 exact h j k ω hk hjk
theorem FU{l:List Int}{n j:Nat}(h:j<n):0≤(dE l n).getD j 0∧(dE l n).getD j 0<n:=by
 exact(sT l).1 (AS (by rw[mO];exact h))
theorem FV{α:Type}(N:Nat){l:List α}{i:Nat}{x:α}(hi:i≤l.length)(hl:l.length<1000000):kM N l (i:Int) [x]=some (l.take i++x::l.drop i):=by
 unfold kM
 rw[aj ⟨ω,ω,rfl,by unfold yE;omega⟩]
 rfl
theorem Ns(N:Nat)(K:List Int→List Int→Int→Int→Option (List Int)){l:List Int}(hl:l.length≤100000)(i:Nat)(hi:i<l.length): ∀(p n:Nat),p≤i→p<n→(∀j,p≤j→j<i→xb l ((dE l i).getD j 0)<xb l i)→
  iR.l6 N K n l (dE l i) (i:Int) (p:Int) (l.length:Int) (i:Int)=K l (dE l (i+1)) (l.length:Int) ((i+1:Nat):Int)
 |p,0,_,hn,_=>ω
 |p,n+1,hp,hn,h=>by
  have hlen:=mO l i
  have fin: ∀h2:(∀j,j<p→xb l i≤xb l ((dE l i).getD j 0)),ins l (dE l i) i=(dE l i).take p++(i:Int)::(dE l i).drop p:=λh2=>QB l _ _ p ω h2 (λh3=>h p ω ω)
  unfold iR.l6 iR.tb
  match p,hp,hn,h,fin with
  |0,hp,hn,h,fin=>
   have e:=fin (λj hj=>ω)
   rw[aL ω,ar,FV N ω ω,av,←e,aw ω ω]
   rfl
  |p+1,hp,hn,h,fin=>
   have hr:=FU (l:=l) (n:=i) (j:=p) ω
   have e1:W .i64 (((p+1:Nat):Int)-1)=(p:Int):=by rw[aw ω ω];omega
   have yV:=Ns N K hl i hi p n ω ω
   dsimp only
   rw[e1,aE]
   unfold xb at*
   rw[aE]at*
   rw[aP ω,ak,aQ ω ω,ak,aQ ω ω,ak,aQ ω ω,ak]
   by_cases h3:l.getD ((dE l i).getD p 0).toNat 0<l.getD i 0
   ·rw[aP h3,ak]
    exact yV (λj h4 h5=>by
     by_cases hjp:j=p
     ·rw[hjp];exact h3
     ·exact h j ω h5)
   ·rw[aL ω,ar,FV N ω ω,av,aw ω ω]
    rw[←fin (λj hj=>by
     by_cases hjp:j=p
     ·rw[hjp];omega
     ·have:=WY (kX l i) (j:=j) (k:=p) ω ω
      unfold ur xb at this;omega)]
    rfl
theorem IV(N:Nat){l:List Int}(hl:l.length≤100000)(hN:l.length<N): ∀(m n i:Nat),l.length-i≤m→m<n→i≤l.length→
  iR.l3 N n l (dE l i) (l.length:Int) (i:Int)=some (ir l)
 |m,0,i,_,hn,_=>ω
 |m,n+1,i,hm,hn,hi=>by
  unfold iR.l3 iR.lB
  by_cases h:i<l.length
  ·rw[aP ω,ak,mO,Ns N _ hl i h i N ω ω (λj _ _=>ω)]
   exact IV N hl hN (m-1) n (i+1) ω ω ω
  ·rw[aL ω,ar]
   unfold ahW
   rw[dq ω ω ω ω,ak,av]
   simp only[cZ,cM,aE,iD]
   rw[show i=l.length by omega];rfl
theorem WZ(N:Nat){l:List Int}(hl:l.length≤100000)(hN:l.length<N):iR N l=some (ir l):=by
 unfold iR iR.b
 rw[cj ω ω ω,ak]
 exact IV N hl hN l.length N 0 ω ω ω
theorem IW(N:Nat)(K:List Int→List Int→Int→Option (List Int)){l:List Int}(hl:l.length≤100000)(i:Nat)(hi:i<l.length): ∀(m n p:Nat),i-p≤m→m<n→p≤i→(∀j,j<p→xb l i≤xb l ((dE l i).getD j 0))→
  fH.l6 N K n l (dE l i) (i:Int) (p:Int)=K l (dE l (i+1)) ((i+1:Nat):Int)
 |m,0,p,_,hn,_,_=>ω
 |m,n+1,p,hm,hn,hp,h=>by
  have hlen:=mO l i
  have fin: ∀h2:(p<i→xb l ((dE l i).getD p 0)<xb l i),fH.j8 N K l (dE l i) (i:Int) (p:Int)=K l (dE l (i+1)) ((i+1:Nat):Int):=λh2=>by
   have e:=QB l (dE l i) i p ω h (λh3=>h2 ω)
   unfold fH.j8 fH.PI
   dsimp only
   rw[dq ω ω ω ω,ak,aE,aE,cZ,cM]
   rw[bQ (by rw[bO];omega),ak,bQ (by rw[bO];simp only[aK];omega),ak,dq ω ω ω ω,ak,bQ (by simp only[aT,bO,dI,aK];omega),ak,aw ω ω,iD,bM,zs,←e]
   rfl
  unfold fH.l6 fH.tb
  by_cases hpi:p<i
  ·have hr:=FU (l:=l) (n:=i) (j:=p) hpi
   rw[aP ω,ak,aQ ω ω,ak,aE,aE,aQ ω ω,ak,aQ ω ω,ak]
   by_cases h3:l.getD i 0≤l.getD ((dE l i).getD p 0).toNat 0
   ·rw[dL h3,ak,aw ω ω]
    refine IW N K hl i hi (m-1) n (p+1) ω ω ω (λj hj=> ?_)
    by_cases hjp:j=p
    ·rw[hjp];unfold xb;rw[aE];exact h3
    ·exact h j ω
   ·rw[dB ω,ar]
    exact fin (λ_=>by unfold xb;rw[aE];omega)
  ·rw[aL ω,ar]
   exact fin (λh=>absurd h hpi)
theorem FW(N:Nat){l:List Int}(hl:l.length≤100000)(hN:l.length<N): ∀(m n i:Nat),l.length-i≤m→m<n→i≤l.length→
  fH.l3 N n l (dE l i) (i:Int)=some (ir l)
 |m,0,i,_,hn,_=>ω
 |m,n+1,i,hm,hn,hi=>by
  unfold fH.l3 fH.lB
  by_cases h:i<l.length
  ·have:=IW N (fH.l3 N n) hl i h i N 0 ω ω ω (λj hj=>ω)
   rw[aP ω,ak]
   refine Eq.trans this ?_
   exact FW N hl hN (m-1) n (i+1) ω ω ω
  ·rw[aL ω,ar,show i=l.length by omega];rfl
theorem TX(N:Nat){l:List Int}(hl:l.length≤100000)(hN:l.length<N):fH N l=some (ir l):=by
 unfold fH fH.b
 exact FW N hl hN l.length N 0 ω ω ω
end VM
end
