/- A part of the proof of HedgeLess of layer 22: what the functions compute, in plain words. -/
import Derived.Test.YtocmlaipoebfeaaGreatPlain2
import Derived.Test.YtocmlaipoebfeaaGreatVm6
set_option linter.all false
section
namespace VM
open Go VM.F
def GG(E:au):Prop:= ∀x∈E,cf (dZ x)
def jx(r:cK):tG:=(r.1,(r.2.1,(bS (dZ r),())))
theorem LA(E:au)(i:Nat):(E.map jx).getD i ((0:Int),((0:Int),(cv,())))=jx (E.getD i a6):=by
 by_cases h:i<E.length
 ·rw[aU,nj,bg h,aU,bg h];rfl
 ·rw[aU,gH (by rw[cI];omega),aU,gH ω];rfl
theorem LB{l:au}(h:GG l)(i:Nat):cf (dZ (l.getD i a6)):=by
 by_cases hi:i<l.length
 ·rw[aU,bg hi];exact h _ (dx hi)
 ·rw[aU,gH ω];exact⟨δ,δ⟩
theorem GH{x:Int}(h:aE x):cf x:=by unfold aE at h;unfold cf;omega
theorem vV{ws:List Int}{x:Int}(h: ∀y∈ws,cf y)(hx:cf x): ∀y∈ws++[x],cf y:=λy hy=>by
 rcases bk.1 hy with hy|hy
 ·exact h y hy
 ·rw[cr.1 hy];exact hx
theorem YV(N:Nat){l:au}:aks N l=some l:=OG N
theorem YW(N:Nat)(hN:2000000≤N)(K:cy.JK){E out R:au}(hq:GG E)(hl:E.length≤100000)(ho:out.length≤1000000)(r:cK)(hr:aE (dZ r))(i:Nat)(hi:i≤1000000):
  cy.OI N K N (E.map jx) out r [bS (dZ r)] R (R.length:Int) (i:Int) (E.map jx) ((E.map jx).length:Int) 0=
   if aE (dZ r+cE r.1 r.2.1 E)then K (E.map jx) (if dZ r+cE r.1 r.2.1 E=0 then out else out++[(r.1,(r.2.1,(dZ r+cE r.1 r.2.1 E,())))]) R (R.length:Int) ((i+1:Nat):Int)else some (bq,(2:Int)):=by
 have:=oF E a6 (λn j ws=>cy.OI N K n (E.map jx) out r (ws.map bS) R (R.length:Int) (i:Int) (E.map jx) ((E.map jx).length:Int) j)
  (λt ws=>if aE (ws++dm r.1 r.2.1 t).sum then K (E.map jx) (if(ws++dm r.1 r.2.1 t).sum=0 then out else out++[(r.1,(r.2.1,((ws++dm r.1 r.2.1 t).sum,())))]) R (R.length:Int) ((i+1:Nat):Int)else some (bq,(2:Int)))
  (λj (ws:List Int)=>ws.length≤j+1∧ ∀x∈ws,cf x)
  (λn j ws hj hI eF=> ?_) (λn ws hI=> ?_) E.length N 0 [dZ r] ω ω ω ⟨aH _,λx hx=>by rw[cr.1 hx];exact GH hr⟩
 ·rw[show((0:Nat):Int)=0 from rfl,c0]at this
  refine this.trans ?_
  have e:([dZ r]++dm r.1 r.2.1 E).sum=dZ r+cE r.1 r.2.1 E:=by rw[Fi,cB];rfl
  rw[e]
 ·unfold cy.OI cy.LC
  rw[aQ (by rw[cI];omega),ak,aS ω (by rw[cI];omega),ak,aG,LA,bP (by rw[cI,aK];omega),ak,aw (x:=(j:Int)+1) ω ω,af j,aI,aI]
  by_cases h1:(E.getD j a6).1=r.1
  ·by_cases h2:(E.getD j a6).2.1=r.2.1
   ·have hc:dm r.1 r.2.1 (E.getD j a6::E.drop (j+1))=dZ (E.getD j a6)::dm r.1 r.2.1 (E.drop (j+1)):=by rw[eX,ah ⟨h1,h2⟩]
    rw[ah (show(jx (E.getD j a6)).1=r.1 from h1),ah (show(jx (E.getD j a6)).2.1=r.2.1 from h2),hc]
    have:=eF (ws++[dZ (E.getD j a6)]) ⟨by rw[aM,aK];omega,vV hI.2 (LB hq j)⟩
    rw[dg]at this
    refine this.trans ?_
    rw[bH];rfl
   ·have hc:dm r.1 r.2.1 (E.getD j a6::E.drop (j+1))=dm r.1 r.2.1 (E.drop (j+1)):=by rw[eX,aj (λh=>h2 h.2)]
    rw[ah (show(jx (E.getD j a6)).1=r.1 from h1),aj (show ¬(jx (E.getD j a6)).2.1=r.2.1 from h2),hc]
    exact eF ws ⟨ω,hI.2⟩
  ·have hc:dm r.1 r.2.1 (E.getD j a6::E.drop (j+1))=dm r.1 r.2.1 (E.drop (j+1)):=by rw[eX,aj (λh=>h1 h.1)]
   rw[aj (show ¬(jx (E.getD j a6)).1=r.1 from h1),hc]
   exact eF ws ⟨ω,hI.2⟩
 ·unfold cy.OI cy.LC
  rw[aP (by rw[cI];omega),av,EN N hI.2 ω ω,ar]
  show _=if aE (ws++[]).sum then K (E.map jx) (if(ws++[]).sum=0 then out else out++[(r.1,(r.2.1,((ws++[]).sum,())))]) R (R.length:Int) ((i+1:Nat):Int)else some (bq,(2:Int))
  rw[cH]
  unfold Ou
  by_cases h0:cf ws.sum
  ·rw[ah h0]
   dsimp only
   rw[Bm N h0,ar,bp,av]
   by_cases h1:aE ws.sum
   ·rw[vS h1]
    dsimp only
    rw[bp,av,cond_not,aI,bP (by rw[aK];omega),ak,aw (x:=(i:Int)+1) ω ω,af i,ah h1]
    split<;>rfl
   ·rw[yt h1,aj h1]
    rfl
  ·rw[aj h0,aj (λh=>h0 (GH h))]
   have e:Ot N cv=some (Eh 0):=Bm N (v:=0) ⟨δ,δ⟩
   dsimp only
   rw[e,ar]
   rfl
theorem V0(N:Nat)(hN:2000000≤N){l E R:au}(hq:GG E)(hl:E.length≤100000)(hR:R.length≤200000)(hv: ∀r∈R,aE (dZ r)∧dZ r=cE r.1 r.2.1 l):
  cy.l26 N N (E.map jx) [] R (R.length:Int) 0=vR (eC aE (fS l E) (R.map keyOf)):=by
 have:=oF R a6 (λn i out=>cy.l26 N n (E.map jx) out R (R.length:Int) i) (λt out=>vR ((eC aE (fS l E) (t.map keyOf)).map (λo=>out++o))) (λi (out:au)=>out.length≤i)
  (λn i out hi hI hr=> ?_) (λn out hI=> ?_) R.length N 0 [] ω ω ω (aH _)
 ·rw[show((0:Nat):Int)=0 from rfl,c0]at this
  refine this.trans ?_
  simp
 ·unfold cy.l26 cy.acO
  have hm:R.getD i a6∈R:=by
   rw[aU,bg hi];exact dx hi
  have XH:=hv _ hm
  have nP:=XH.1
  have iN:=nP
  unfold aE dZ at iN
  rw[aQ ω,ak,aS ω ω,ak,aG,qm N iN.1 iN.2,ar]
  refine(YW N hN _ hq hl ω _ nP i ω).trans ?_
  rw[bR,kW]
  have ef:fS l E (keyOf (R.getD i a6)).1 (keyOf (R.getD i a6)).2=dZ (R.getD i a6)+cE (R.getD i a6).1 (R.getD i a6).2.1 E:=by
   show cE _ _ l+cE _ _ E=_
   rw[XH.2];rfl
  rw[ef]
  generalize hS:dZ (R.getD i a6)+cE (R.getD i a6).1 (R.getD i a6).2.1 E=v
  by_cases hF:aE v
  ·rw[ah hF,ah hF,hr _ (by
    split
    ·omega
    ·rw[aM,aK];omega)]
   cases eC aE (fS l E) ((R.drop (i+1)).map keyOf)with
   |none=>rfl
   |some o=>
    show vR (some _)=vR (some _)
    congr 2
    split
    ·rfl
    ·exact bH _ _ _
  ·rw[aj hF,aj hF];rfl
 ·unfold cy.l26 cy.acO
  rw[aP ω,av,YV,ar]
  show _=vR (some (out++[]))
  rw[cH];rfl
theorem aiC(N:Nat)(C:cy.mS){l:au}{E S:dE}{K:List c5}(hs:ug K)(hl:K.length≤100000)(hf: ∀k∈K,Bo k)(x:tG)(k:c5)(hxk:(x.1,x.2.1)=k)(hx:Bo k)(hz:zeroAt l K k)(len:Int)(i:Nat)(hi:i≤1000000):
  ∀(m n p:Nat),K.length-p≤m→m<n→p≤K.length→(∀y∈K.take p,ue y k)→
   cy.V1 N C n E (rowsOf l K) x (p:Int) S len (i:Int)=C E (rowsOf l (K.take p++xM k (K.drop p))) S len ((i+1:Nat):Int)
 |m,0,p,_,hn,_,_=>ω
 |m,n+1,p,hm,hn,hp,hb=>by
  unfold cy.V1 cy.Sg cy.Xl cy.RT
  rw[eD,aw (x:=(i:Int)+1) ω ω,af i]
  have ex:((x.1,(x.2.1,((0:Int),()))):cK)=(k.1,(k.2,((0:Int),()))):=by rw[←hxk]
  by_cases h:p<K.length
  ·have hfk:=hf (K.getD p (0,0)) (by rw[aU,bg h];exact dx h)
   have ho:RZ N x.1 x.2.1 ((rowsOf l K).getD p a6)=some (Ci k.1 k.2 (K.getD p (0,0)).1 (K.getD p (0,0)).2):=by
    rw[JD l h]
    rw[←hxk]at hx ⊢
    exact Gs N hx.1 hx.2 hfk.1 hfk.2
   rw[aQ ω,ak,aS ω ω,ak,aG,ho,ar,dG (x:=(p:Int)) ω,av,ak,ar,bN,cond_not,aI,Ud h]
   by_cases h1:ue (K.getD p (0,0)) k
   ·rw[ah (Bn.2 h1),ah h1,aw (x:=(p:Int)+1) ω ω,af p,Bp h]
    refine aiC N C hs hl hf x k hxk hx hz len i hi (m-1) n (p+1) ω ω ω λy hy=> ?_
    rw[←td h]at hy
    rcases bk.1 hy with hy|hy
    ·exact hb y hy
    ·rw[aU,bg h]at h1
     rw[cr.1 hy];exact h1
   ·rw[aj (λh=>h1 (Bn.1 h)),aj h1]
    by_cases h2:K.getD p (0,0)=k
    ·rw[ah (yu.2 h2),ah h2,gb]
    ·rw[aj (λh=>h2 (yu.1 h)),aj h2,EW N (by rw[eD];omega) (by rw[eD];omega),ar]
     have D6:=hz (vU hs hb (Ue hs h h1 h2))
     have e:=vT l K p k
     rw[←yv D6]at e
     refine Eq.trans ?_ (ej (λR=>C E R S len ((i+1:Nat):Int)) e)
     exact ej (λz:cK=>C E ((rowsOf l K).take p++z::(rowsOf l K).drop p) S len ((i+1:Nat):Int)) ex
  ·have hd:K.drop p=[]:=wV ω
   rw[aP ω,av,dF ω,ak,EW N (by rw[eD];omega) (by rw[eD];omega),ar]
   have D6:=hz (vU hs hb (by rw[hd];exact λx hx=>nomatch hx))
   have e:=vT l K p k
   rw[←yv D6]at e
   have e2:xM k (K.drop p)=k::K.drop p:=by rw[hd];rfl
   rw[e2]
   refine Eq.trans ?_ (ej (λR=>C E R S len ((i+1:Nat):Int)) e)
   exact ej (λz:cK=>C E ((rowsOf l K).take p++z::(rowsOf l K).drop p) S len ((i+1:Nat):Int)) ex
theorem V2(N:Nat)(hN:2000000≤N){l E:au}(hq:GG E)(hE:E.length≤400)(hp: ∀x∈E,Bo (keyOf x))(hs:ug (l.map keyOf))(hl:l.length≤90000)(YS:eW l)(IK: ∀x∈l,Bo (keyOf x)):
  cy.xK N N (E.map jx) l (E.map jx) ((E.map jx).length:Int) 0=vR (eC aE (fS l E) (nR (l.map keyOf) E)):=by
 have:=oF E a6 (λn i K=>cy.xK N n (E.map jx) (rowsOf l K) (E.map jx) ((E.map jx).length:Int) i) (λt K=>vR (eC aE (fS l E) (nR K t)))
  (λi (K:List c5)=>K.length≤l.length+i∧ug K∧(∀k∈K,Bo k)∧ ∀x∈l,keyOf x∈K)
  (λn i K hi hI hr=> ?_) (λn K hI=> ?_) E.length N 0 (l.map keyOf) ω ω ω ⟨by rw[cI];omega,hs,λk hk=>by
   obtain⟨x,hx,rfl⟩:=cL.1 hk
   exact IK x hx,λx hx=>fa hx⟩
 ·rw[show((0:Nat):Int)=0 from rfl,c0]at this
  simp only[mR hs]at this
  exact this
 ·unfold cy.xK cy.wP
  obtain⟨h1,h2,h3,h4⟩:=hI
  have hm:E.getD i a6∈E:=by
   rw[aU,bg hi];exact dx hi
  rw[aQ (by rw[cI];omega),ak,aS ω (by rw[cI];omega),ak,aG,LA]
  refine(aiC N _ h2 ω h3 (jx (E.getD i a6)) (keyOf (E.getD i a6)) rfl (hp _ hm) (λhk=>gn λhx=>hk (by
   obtain⟨x,hx,e⟩:=cL.1 hx
   rw[←e];exact h4 x hx)) ((E.map jx).length:Int) i ω K.length N 0 ω ω ω (λy hy=>nomatch hy)).trans ?_
  rw[px,cW,c0,tF]
  refine hr (xM (keyOf (E.getD i a6)) K) ⟨ct (GF _ K) ω,Bl h2,λk hk=>(sv.1 hk).elim (λe=>e▸hp _ hm) (h3 k),λx hx=>sv.2 (Or.inr (h4 x hx))⟩
 ·unfold cy.xK cy.wP
  obtain⟨h1,h2,h3,h4⟩:=hI
  rw[aP (by rw[cI];omega),av,eD,cD ω ω ω,ak]
  have:=V0 N hN (l:=l) (R:=rowsOf l K) hq ω (by rw[eD];omega) (λr hr=>by
   unfold rowsOf at hr
   obtain⟨k,hk,rfl⟩:=cL.1 hr
   refine⟨?_,rfl⟩
   show aE (cE k.1 k.2 l)
   by_cases hkl:k∈l.map keyOf
   ·have e:rowsOf l (l.map keyOf)=l:=mR hs
    have hm:Er l k∈rowsOf l (l.map keyOf):=fa hkl
    rw[e]at hm
    exact YS (Er l k) hm
   ·rw[gn hkl];exact⟨δ,δ⟩)
  rw[DB,eD]at this
  exact this
theorem oP{l:au}(h:eP l=true):ug (l.map keyOf)∧(∀x∈l,cV x.1 x.2.1):=by
 unfold eP at h
 rw[fv]at h
 have h':=bA h
 have get: ∀(i:Nat) (hi:i<l.length),l.getD i a6=l[i]:=λi hi=>by rw[aU,bg hi];rfl
 have YT: ∀i,i+1<l.length→ue (keyOf (l.getD i a6)) (keyOf (l.getD (i+1) a6)):=λi hi=>(h' (i+1) hi).2.2 ω
 have fj: ∀j,j<l.length→ ∀i,i<j→ue (keyOf (l.getD i a6)) (keyOf (l.getD j a6)):=by
  intro j
  induction j with
  |zero=>intro _ i hi;omega
  |succ j ih=>
   intro hj i hi
   by_cases e:i=j
   ·rw[e];exact YT j hj
   ·exact yr (ih ω i ω) (YT j hj)
 refine⟨?_,λx hx=> ?_⟩
 ·refine Ai.2 (vp.2 λi j hi hj qB=> ?_)
  have:=fj j hj i qB
  rw[get i hi,get j hj]at this
  exact this
 ·obtain⟨i,hi,e⟩:=gd hx
  have:=h' i hi
  unfold lQ mB at this
  rw[get i hi,e]at this
  exact this.1
structure YX(E:au):Prop where
 key: ∀x∈E,cV x.1 x.2.1
 q:GG E
 len:E.length≤400
 zero:(E.map dZ).sum=0
theorem Uf{x:cK}(h:cV x.1 x.2.1):Bo (keyOf x):=by
 have h':cV (keyOf x).1 (keyOf x).2:=h
 unfold cV at h'
 unfold Bo IF
 omega
theorem YY(N:Nat)(hN:2000000≤N){l E:au}(hk:eP l=true)(hl:l.length≤90000)(YS:eW l)(g:YX E):cy N l (E.map jx)=vR (eC aE (fS l E) (nR (l.map keyOf) E)):=by
 obtain⟨hs,IK⟩:=oP hk
 have hE:=g.len
 unfold cy cy.b
 rw[EP N ω ω,hk,ar,bp,av,aP (by rw[cI];omega),av,cD ω ω (by rw[cI];omega),ak]
 have:=oF E a6 (λn i (ws:List Int)=>cy.l5 N n l (E.map jx) (ws.map bS) (E.map jx) ((E.map jx).length:Int) i)
  (λt ws=>if(ws++t.map dZ).sum=0 then vR (eC aE (fS l E) (nR (l.map keyOf) E))else none)
  (λj (ws:List Int)=>ws.length≤j∧(ws++(E.drop j).map dZ).sum=0∧ ∀x∈ws,cf x)
  (λn i ws hi hI hr=> ?_) (λn ws hI=> ?_) E.length N 0 [] ω ω ω ⟨aH _,g.zero,λx hx=>nomatch hx⟩
 ·rw[show((0:Nat):Int)=0 from rfl,c0]at this
  refine Eq.trans this ?_
  rw[cW,ah g.zero]
 ·unfold cy.l5 cy.eA
  have hm:E.getD i a6∈E:=by
   rw[aU,bg hi];exact dx hi
  have ab5:RX N (jx (E.getD i a6)).1 (jx (E.getD i a6)).2.1=some true:=by
   rw[RW]
   exact ej some (a8 (g.key _ hm))
  rw[aQ (by rw[cI];omega),ak,aS ω (by rw[cI];omega),ak,aG,LA,ab5,ar,bp,av,bP (by rw[cI,aK];omega),ak,aw (x:=(i:Int)+1) ω ω,af i]
  have h0:=hI.2.1
  rw[drop_cons hi a6,bR]at h0
  have:=hr (ws++[dZ (E.getD i a6)]) ⟨by rw[aM,aK];omega,by rw[bH];exact h0,vV hI.2.2 (LB g.q i)⟩
  rw[dg]at this
  refine this.trans ?_
  rw[bH];rfl
 ·unfold cy.l5 cy.eA
  have h0:=hI.2.1
  rw[nf,gQ,cH]at h0
  rw[aP (by rw[cI];omega),av,EN N hI.2.2 ω ω,ar,h0]
  have e0:Ou 0=(bS 0,true):=by unfold Ou;exact ah ⟨δ,δ⟩
  rw[e0]
  dsimp only
  rw[bp,av,so,ar,show p5 0=0 from rfl,dF rfl,bp,av,xN N ω,ar]
  rw[gQ,cH,ah h0]
  exact V2 N hN g.q hE (λx hx=>Uf (g.key x hx)) hs hl YS (λx hx=>Uf (IK x hx))
end VM
end
section
namespace VM
open Go VM.F
def jQ(r:cK):akt:=(r.1,(r.2.1,(di (dZ r),())))
theorem YZ{E:au}{i:Nat}(h:i<E.length):(E.map jQ).getD i ((0:Int),((0:Int),((false,p9),())))=jQ (E.getD i a6):=by
 rw[aU,nj,bg h,aU,bg h];rfl
theorem Sh{v:Int}{n:Nat}(hn:n≤1000000)(h0: -(170141183460469231731687303715884105728*(n:Int))≤v)(h1:v≤170141183460469231731687303715884105728*(n:Int)):Fit v 900000:=by
 have h5:Fit v 5:=by
  unfold Fit
  rw[show(4294967296:Nat)^5=1461501637330902918203684832716283019655932542976 from rfl]
  omega
 exact h5.mono ω
theorem vQ{v:Int}(h:cf v):Fit v 900000:=Sh (n:=1) ω (by have:=h.1;omega) (by have:=h.2;omega)
theorem V3(N:Nat)(hN:4000000≤N){E:au}(hq:GG E)(hl:E.length≤100000)(q a b:Int)(hF:aE q):nS N q a b (E.map jQ)=some (Eh (q+cE a b E)):=by
 unfold nS nS.b
 have:=oF E a6 (λn j ws=>nS.l3 N n q a b (E.map jQ) (di ws.sum) (!ws.isEmpty) j)
  (λt ws=>some (Eh (q+(ws++dm a b t).sum)))
  (λj (ws:List Int)=>ws.length≤j∧ ∀x∈ws,cf x)
  (λn j ws hj hI eF=> ?_) (λn ws hI=> ?_) E.length N 0 [] ω ω ω ⟨aH _,λx hx=>nomatch hx⟩
 ·rw[show((0:Nat):Int)=0 from rfl,c0,iF,kT]at this
  exact this
 ·unfold nS.l3 nS.ob
  have V4:=LB hq j
  have hb:=RV hI.2
  have AN:zT N (di ws.sum) (jQ (E.getD j a6)).2.2.1=some (di (ws.sum+dZ (E.getD j a6))):=ji N ω (Sh (n:=ws.length) ω hb.1 hb.2) (vQ V4)
  rw[aQ (by rw[cI];omega),ak,aS ω (by rw[cI];omega),ak,ak,ak,aG,YZ hj,AN,ar,aw (x:=(j:Int)+1) ω ω,af j,aI,aI]
  by_cases h1:(E.getD j a6).1=a
  ·by_cases h2:(E.getD j a6).2.1=b
   ·have hc:dm a b (E.getD j a6::E.drop (j+1))=dZ (E.getD j a6)::dm a b (E.drop (j+1)):=by rw[eX,ah ⟨h1,h2⟩]
    rw[ah (show(jQ (E.getD j a6)).1=a from h1),ah (show(jQ (E.getD j a6)).2.1=b from h2),hc]
    have:=eF (ws++[dZ (E.getD j a6)]) ⟨by rw[aM,aK];omega,vV hI.2 V4⟩
    rw[nh,cB,iF,iG,bH]at this
    refine Eq.trans ?_ this
    rw[show(!(ws++[dZ (E.getD j a6)]).isEmpty)=true by cases ws<;>rfl]
   ·have hc:dm a b (E.getD j a6::E.drop (j+1))=dm a b (E.drop (j+1)):=by rw[eX,aj (λh=>h2 h.2)]
    rw[ah (show(jQ (E.getD j a6)).1=a from h1),aj (show ¬(jQ (E.getD j a6)).2.1=b from h2),hc]
    exact eF ws ⟨ω,hI.2⟩
  ·have hc:dm a b (E.getD j a6::E.drop (j+1))=dm a b (E.drop (j+1)):=by rw[eX,aj (λh=>h1 h.1)]
   rw[aj (show ¬(jQ (E.getD j a6)).1=a from h1),hc]
   exact eF ws ⟨ω,hI.2⟩
 ·unfold nS.l3 nS.ob
  have hs:=RV hI.2
  have T1:=hF
  unfold aE at T1
  rw[aP (by rw[cI];omega),av,da N ω T1.1 T1.2,ar,ji N ω (Sh (n:=ws.length) ω hs.1 hs.2) ((Fit.i64 T1.1 T1.2).mono ω),ar,tY,ar,cond_not]
  show _=some (Eh (q+(ws++[]).sum))
  rw[cH,Int.add_comm ws.sum q]
  cases ws with
  |nil=>
   show some (q,true)=some (Eh (q+0))
   rw[iG,vS hF]
  |cons w ws=>rfl
theorem acP{l:au}(hs:ug (l.map keyOf))(hl:eW l)(k:c5):aE (cE k.1 k.2 l):=by
 by_cases hk:k∈l.map keyOf
 ·have hm:Er l k∈rowsOf l (l.map keyOf):=fa hk
  rw[mR hs]at hm
  exact hl (Er l k) hm
 ·rw[gn hk];exact⟨δ,δ⟩
theorem OJ(N:Nat)(hN:4000000≤N)(C:dH.bX){l E:au}(hq:GG E)(hl:E.length≤100000)(hs:ug (l.map keyOf))(H8:l.length≤100000)(hf:eW l)(hw: ∀x∈l,0≤(keyOf x).2∧(keyOf x).2<(25:Nat))(a:Nat)(ha:a≤24)(G:List c5)
  (hc: ∀(p:Nat) (out:au),Mark l (a+1) 0 p→out.length≤25*(a+1)→C l (E.map jQ) out (p:Int) ((a+1:Nat):Int)=xO out (eC aE (fS l E) G)):
  ∀(m n b p:Nat) (out:au),b+m=25→m<n→Mark l a b p→out.length≤25*a+b→dH.l7 N C n l (E.map jQ) out (p:Int) (a:Int) (b:Int)=xO out (eC aE (fS l E) (Bq a b m++G))
 |m,0,b,p,out,_,hn,_,_=>ω
 |0,n+1,b,p,out,hb,_,hM,ho=>by
  have e:b=25:=ω
  subst e
  unfold dH.l7 dH.p6
  rw[dL ω,av,aw (x:=(a:Int)+1) ω ω,af a]
  exact hc p out (hM.row hw) ω
 |m+1,n+1,b,p,out,hb,hn,hM,ho=>by
  have hp:=hM.le
  have akr: ∀(p:Nat) (v:Int),Mark l a (b+1) p→dH.l7 N C n l (E.map jQ) (if v=0 then out else out++[((a:Int),((b:Int),(v,())))]) (p:Int) (a:Int) ((b+1:Nat):Int)=xO (if v=0 then out else out++[((a:Int),((b:Int),(v,())))]) (eC aE (fS l E) (Bq a (b+1) m++G)):=λp v h=>
   OJ N hN C hq hl hs H8 hf hw a ha G hc m n (b+1) p _ ω ω h (by
    split
    ·omega
    ·rw[aM,aK];omega)
  have wT:=acP hs hf ((a:Int),(b:Int))
  unfold dH.l7 dH.p6
  show _=xO out (eC aE (fS l E) (((a:Int),(b:Int))::(Bq a (b+1) m++G)))
  rw[dY (x:=(b:Int)) ω,ak,bN,aI,aI,aG]
  have fin: ∀(p:Nat) (q:Int),q=cE (a:Int) (b:Int) l→Mark l a (b+1) p→dH.Lp N C (dH.l7 N C n) l (E.map jQ) out (p:Int) (a:Int) (b:Int) q=xO out (eC aE (fS l E) (((a:Int),(b:Int))::(Bq a (b+1) m++G))):=λp q e h=>by
   subst e
   unfold dH.Lp dH.A7
   rw[V3 N hN hq hl _ _ _ wT,ar]
   refine Eq.trans ?_ (JH (k:=((a:Int),(b:Int))) (v:=cE (a:Int) (b:Int) l+cE (a:Int) (b:Int) E) rfl)
   generalize cE (a:Int) (b:Int) l+cE (a:Int) (b:Int) E=v
   have hr:=akr p v h
   by_cases hv:aE v
   ·rw[vS hv,ah hv]
    dsimp only
    rw[bp,av,cond_not,aI,bP (by rw[aK];omega),ak,aw (x:=(b:Int)+1) ω ω,af b,←hr]
    split<;>rfl
   ·rw[yt hv,aj hv];rfl
  rcases hM.step hs with⟨h1,h2,h3,h4,h5⟩|⟨h1,h2,h3⟩
  ·rw[ah (show(p:Int)<(l.length:Int)by omega),aS ω ω,ak,ak,ah h2,ah h3,aw (x:=(p:Int)+1) ω ω,af p,ak]
   exact fin (p+1) _ h4.symm h5
  ·by_cases g1:p<l.length
   ·rw[ah (show(p:Int)<(l.length:Int)by omega),aS ω ω,ak,ak]
    by_cases g2:(l.getD p a6).1=(a:Int)
    ·rw[ah g2,aj (λg3=>h1 g1 g2 g3)]
     exact fin p _ h2.symm h3
    ·rw[aj g2]
     exact fin p _ h2.symm h3
   ·rw[aj (show ¬(p:Int)<(l.length:Int)by omega)]
    exact fin p _ h2.symm h3
theorem OK(N:Nat)(hN:4000000≤N){l E:au}(hq:GG E)(hl:E.length≤100000)(hs:ug (l.map keyOf))(H8:l.length≤100000)(hf:eW l)(hw: ∀x∈l,0≤(keyOf x).2∧(keyOf x).2<(25:Nat)):
  ∀(m n a p:Nat) (out:au),a+m=8→m<n→Mark l a 0 p→out.length≤25*a→dH.l4 N n l (E.map jQ) out (p:Int) (a:Int)=xO out (eC aE (fS l E) (y8 25 a m))
 |m,0,a,p,out,_,hn,_,_=>ω
 |0,n+1,a,p,out,ha,_,hM,ho=>by
  unfold dH.l4 dH.eN
  rw[dL ω,av]
  show some (out,true)=some (out++[],true)
  rw[cH]
 |m+1,n+1,a,p,out,ha,hn,hM,ho=>by
  unfold dH.l4 dH.eN
  rw[dY ω,ak]
  exact OJ N hN _ hq hl hs H8 hf hw a ω (y8 25 (a+1) m) (λp out h ho=>OK N hN hq hl hs H8 hf hw m n (a+1) p out ω ω h ho) 25 N 0 p out ω ω hM ω
def ot:List c5:=y8 25 1 7
theorem acQ(N:Nat)(hN:4000000≤N){l E:au}(hk:eP l=true)(hl:l.length≤90000)(YS:eW l)(hq:GG E)(hE:E.length≤100000):dH N l (E.map jQ)=xO [] (eC aE (fS l E) ot):=by
 obtain⟨hs,IK⟩:=oP hk
 unfold dH dH.b
 refine OK N hN hq hE hs ω YS (λx hx=> ?_) 7 N 1 0 [] ω ω ⟨ω,λx hx=>(nomatch hx),λx hx fj=> ?_⟩ (by simp)
 ·have h:cV (keyOf x).1 (keyOf x).2:=IK x hx
  unfold cV at h;omega
 ·have h:cV (keyOf x).1 (keyOf x).2:=IK x (m9 hx)
  unfold cV at h
  have xq:(keyOf x).1<((1:Nat):Int)∨((keyOf x).1=((1:Nat):Int)∧(keyOf x).2<((0:Nat):Int)):=fj
  omega
theorem Y0{l E:au}(hk:eP l=true)(hp: ∀x∈E,cV x.1 x.2.1):eC aE (fS l E) (nR (l.map keyOf) E)=eC aE (fS l E) ot:=by
 obtain⟨hs,IK⟩:=oP hk
 refine OF ⟨δ,δ⟩ (zC hs) (oO 25 7 1) (λk hk=> ?_) (λk hk hn=> ?_)
 ·have:cV k.1 k.2:=by
   rcases mE.1 hk with h|⟨x,hx,rfl⟩
   ·obtain⟨x,hx,rfl⟩:=cL.1 h
    exact IK x hx
   ·exact hp x hx
  unfold cV at this
  exact oN.2 ω
 ·have h1:k∉l.map keyOf:=λh=>hn (mE.2 (Or.inl h))
  have h2:k∉E.map keyOf:=λh=>by
   obtain⟨x,hx,e⟩:=cL.1 h
   exact hn (mE.2 (Or.inr ⟨x,hx,e⟩))
  unfold fS
  rw[gn h1,gn h2];rfl
def gj(b:an)(s e:au):an×Int:=
 match eC Fq (fS b.2.2.2.1 s) kz with
 |none=>((cg,(cT,(bq,(bq,(de,(dk,())))))),2)
 |some s'=>match eC aE (fS b.2.2.1 e) ot with
  |none=>((cg,(cT,(bq,(bq,(de,(dk,())))))),2)
  |some r'=>((b.1,(b.2.1,(r',(s',b.2.2.2.2)))),0)
theorem Y1(N:Nat){b:an}(w:iM b):acR N b=some b:=by
 unfold acR
 have h1:=w.m;have h2:=w.a;have h3:=w.r;have h4:=w.s;have h5:=w.p;have h6:=w.o
 rw[xN N ω,ar,xN N ω,ar,xN N ω,ar,xN N ω,ar,xN N ω,ar,xN N ω,ar]
end VM
end
section
namespace VM
open Go VM.F
theorem Y2(N:Nat)(hN:2000000≤N){b:an}{s e:au}(w:iM b)(hr:eP b.2.2.1=true)(hs:dt b.2.2.2.1=true)(lr:b.2.2.1.length≤90000)(ls:b.2.2.2.1.length≤90000)(gs:YR s)(ge:YX e):
  F65 N b s (e.map jx)=some (gj b s e):=by
 unfold F65 gj
 rw[Y1 N w,ar,acM N hN hs ls w.qs gs,YY N hN hr lr w.qr ge,VZ hs gs.place,Y0 hr ge.key]
 unfold vR
 rw[ar,ar]
 have e1:aN 2 0=false:=dG ω
 have e2:aN 0 0=true:=dF rfl
 cases eC Fq (fS b.2.2.2.1 s) kz with
 |none=>dsimp only;rw[e1];rfl
 |some s'=>
  cases eC aE (fS b.2.2.1 e) ot with
  |none=>dsimp only;rw[e1,e2];rfl
  |some r'=>dsimp only;rw[e2];rfl
theorem Ug(N:Nat)(C:eQ.bX){l:aO}(hl:l.length≤100000)(i:Nat)(hi:i<l.length): ∀(m n k:Nat),i-k≤m→m<n→k≤i→(l.take k).any (su (l.getD i aW).2.2.1 (l.getD i aW).2.1)=false→
  eQ.l9 N C n l (i:Int) (k:Int)=cond ((l.take i).any (su (l.getD i aW).2.2.1 (l.getD i aW).2.1)) (some false) (C l ((i+1:Nat):Int))
 |m,0,k,_,hn,_,_=>ω
 |m,n+1,k,hm,hn,hk,hb=>by
  unfold eQ.l9 eQ.xG
  by_cases h:k<i
  ·have Ei:=Ug N C hl i hi (m-1) n (k+1) ω ω ω
   have ht:(l.take (k+1)).any (su (l.getD i aW).2.2.1 (l.getD i aW).2.1)=su (l.getD i aW).2.2.1 (l.getD i aW).2.1 (l.getD k aW):=by
    have ek:l.getD k aW=l[k]' ω:=by rw[aU,bg (show k<l.length by omega)];rfl
    rw[←td (show k<l.length by omega),List.any_append,hb,ek,List.any_cons,List.any_nil,rI,uB]
   have lj:su (l.getD i aW).2.2.1 (l.getD i aW).2.1 (l.getD k aW)=true→(l.take i).any (su (l.getD i aW).2.2.1 (l.getD i aW).2.1)=true:=λhh=>by
    refine Aj.2 ⟨l.getD k aW,?_,hh⟩
    rw[aU,bg (show k<l.length by omega)]
    exact List.mem_take_iff_getElem.2 ⟨k,ω,rfl⟩
   rw[aQ ω,ak,aS ω ω,ak,aS ω ω,ak,ak,ak,aG,aG,aI,aI,aw (x:=(k:Int)+1) ω ω,af k]
   by_cases h1:(l.getD k aW).2.2.1=(l.getD i aW).2.2.1
   ·by_cases h2:(l.getD k aW).2.1=(l.getD i aW).2.1
    ·rw[ah h1,ah h2,lj (by unfold su dz;rw[a8 h1,a8 h2];rfl)];rfl
    ·rw[ah h1,aj h2]
     exact Ei (by rw[ht];unfold su dz;rw[bC h2,FD])
   ·rw[aj h1]
    exact Ei (by rw[ht];unfold su dz;rw[bC h1,uA])
  ·have:k=i:=ω
   subst this
   rw[aP ω,av,hb,av,aw (x:=(k:Int)+1) ω ω,af k]
theorem vb(N:Nat){l:aO}(hl:l.length≤100000)(hN:200000≤N):eQ N l=some (YO l):=by
 unfold eQ eQ.b YO
 by_cases h40:l.length≤40
 ·rw[aP ω,av,a8 h40]
  refine gV (F:=λn i=>eQ.l4 N n l i) (Bk l) (λn i r hi hp hr=> ?_) (λn=> ?_) N ω
  ·unfold eQ.l4 eQ.eN eQ.j8 eQ.YG
   have lj:eQ.l9 N (eQ.l4 N n) N l (i:Int) 0=_:=Ug N (eQ.l4 N n) hl i hi i N 0 ω ω ω rfl
   rw[aQ ω,ak,aS ω ω,ak,ak,aG,Ua,ar,cond_not,ed,lj,hr]
   have hT:cond ((l.take i).any (su (l.getD i aW).2.2.1 (l.getD i aW).2.1)) (some false) r=if(l.take i).any (su (l.getD i aW).2.2.1 (l.getD i aW).2.1)=false then r else some false:=by
    cases(l.take i).any (su (l.getD i aW).2.2.1 (l.getD i aW).2.1)<;>rfl
   rw[hT]
   by_cases hK:Jz (l.getD i aW)
   ·rw[ah hK]
    have hD:(if Bk l i then r else some false)=if u2 i (l.getD (i-1) aW).1 (l.getD i aW).1 then(if(l.take i).any (su (l.getD i aW).2.2.1 (l.getD i aW).2.1)=false then r else some false)else some false:=by
     by_cases h1:u2 i (l.getD (i-1) aW).1 (l.getD i aW).1<;>by_cases h2:(l.take i).any (su (l.getD i aW).2.2.1 (l.getD i aW).2.1)=false
     ·rw[ah h1,ah h2,ah ⟨hK,h1,h2⟩]
     ·rw[ah h1,aj h2,aj (λh=>h2 h.2.2)]
     ·rw[aj h1,aj (λh=>h1 h.2.1)]
     ·rw[aj h1,aj (λh=>h1 h.2.1)]
    rw[hD]
    by_cases h0:0<i
    ·have e:W .i64 ((i:Int)-1)=((i-1:Nat):Int):=by rw[aw ω ω];omega
     rw[aQ (x:=0) (y:=(i:Int)) ω,ak,e]
     dsimp only
     rw[aG,aS ω ω,ak,cn]
     by_cases h1:u2 i (l.getD (i-1) aW).1 (l.getD i aW).1
     ·rw[ah h1,aj (by unfold u2 at h1;omega)]
     ·rw[aj h1,ah (by unfold u2 at h1;omega)]
    ·rw[aP (x:=0) (y:=(i:Int)) ω,av,ah (show u2 i (l.getD (i-1) aW).1 (l.getD i aW).1 from λh=>absurd h h0)]
   ·rw[aj hK,aj (λh=>hK h.1)]
  ·unfold eQ.l4 eQ.eN
   rw[aP ω,av]
 ·rw[aQ ω,ak,bC h40,FD]
end VM
end
section
namespace VM
open Go VM.F
def vW(s w p:Int):Prop:=((s=1∨s=3)∧w=0∧p=0)∨(s=2∧1≤w∧w≤12∧ -1152921504606846976≤p∧p≤1152921504606846976)
instance(s w p:Int):Decidable (vW s w p):=by unfold vW;infer_instance
def GI(a:Int):Prop:=1≤a∧a≤1099511627776
instance(a:Int):Decidable (GI a):=by unfold GI;infer_instance
def leI(a b:Int):Prop:=a≤b
instance(a b:Int):Decidable (leI a b):=by unfold leI;infer_instance
def EX(c:ae)(l:bE)(i:Nat):Prop:=
 GI (l.getD i ((0:Int),(cg,aW))).1∧u2 i (l.getD (i-1) ((0:Int),(cg,aW))).1 (l.getD i ((0:Int),(cg,aW))).1∧ ¬dz ((l.getD i ((0:Int),(cg,aW))).2.1.length:Int) 0∧oM c (l.getD i ((0:Int),(cg,aW))).2.1=true∧leI (l.getD i ((0:Int),(cg,aW))).2.2.1 0∧vW (l.getD i ((0:Int),(cg,aW))).2.2.2.1 (l.getD i ((0:Int),(cg,aW))).2.2.2.2.1 (l.getD i ((0:Int),(cg,aW))).2.2.2.2.2.1
instance(c:ae)(l:bE):DecidablePred (EX c l):=λi=>by unfold EX;infer_instance
def Ct(c:ae)(l:bE):Bool:=eo c&&(decide (l.length≤12)&&(decide (∀j,j<l.length→EX c l j)&&true))
def JL(l:bE):Prop:= ∀x∈l,x.2.1.length≤100000
theorem Si{l:bE}(h:JL l)(i:Nat):(l.getD i ((0:Int),(cg,aW))).2.1.length≤100000:=by
 by_cases hi:i<l.length
 ·rw[aU,bg hi];exact h _ (dx hi)
 ·rw[aU,gH ω];exact bF _
theorem acS(s w p:Int)(r:Option Bool):
  cond (aN s 1) (cond (!aN w 0) (some false) (cond (!aN p 0) (some false) r)) (cond (aN s 3) (cond (!aN w 0) (some false) (cond (!aN p 0) (some false) r)) (cond (aN s 2) (cond (aT w 1) (some false) (cond (aT 12 w) (some false) (cond (aT p (-1152921504606846976)) (some false) (cond (aT 1152921504606846976 p) (some false) r)))) (some false)))=
   if vW s w p then r else some false:=by
 simp only[cond_not,aI,bN]
 by_cases h:vW s w p
 ·rw[ah h];unfold vW at h
  repeat' split
  all_goals first|rfl|omega
 ·rw[aj h];unfold vW at h
  repeat' split
  all_goals first|rfl|omega
theorem V5{A B C D E F:Prop} [Decidable A] [Decidable B] [Decidable C] [Decidable D] [Decidable E] [Decidable F](r:Option Bool):
  (if A then(if B then(if C then(if D then(if E then(if F then r else some false)else some false)else some false)else some false)else some false)else some false)=if A∧B∧C∧D∧E∧F then r else some false:=by
 by_cases hA:A<;>by_cases hB:B<;>by_cases hC:C<;>by_cases hD:D<;>by_cases hE:E<;>by_cases hF:F<;>simp only[hA,hB,hC,hD,hE,hF,gB,fc,and_self,ec,and_false,false_and,true_and]
theorem Y3{a b n f s w p:Int}{i:Nat}{o:Bool}{r:Option Bool}:
  cond (aT a 1) (some false) (cond (aT 1099511627776 a) (some false) (if u2 i b a then(cond (aN n 0) (some false) (cond (!o) (some false) (cond (aT 0 f) (some false) (if vW s w p then r else some false))))else some false))=
   if GI a∧u2 i b a∧ ¬dz n 0∧o=true∧leI f 0∧vW s w p then r else some false:=by
 rw[←V5]
 simp only[cond_not,aI,bN]
 by_cases h1:GI a
 ·have qM:=h1
  unfold GI at qM
  rw[ah h1,aj ω,aj ω]
  by_cases h2:u2 i b a
  ·rw[ah h2,ah h2]
   by_cases h3:n=0
   ·rw[ah h3,aj (show ¬ ¬dz n 0 from λh=>h h3)]
   ·rw[aj h3,ah (show ¬dz n 0 from h3)]
    cases o
    ·rfl
    ·rw[ak,ah rfl]
     by_cases h4:f≤0
     ·rw[ah (show leI f 0 from h4),aj ω]
     ·rw[aj (show ¬leI f 0 from h4),ah ω]
  ·rw[aj h2,aj h2]
 ·have qM:=h1
  unfold GI at qM
  rw[aj h1]
  by_cases h2:a<1
  ·rw[ah h2]
  ·rw[aj h2,ah ω]
theorem Y4{i:Nat}{a b:Int}{r:Option Bool}(h0:0<i):cond (cZ a b) (some false) r=if u2 i b a then r else some false:=by
 rw[cn]
 by_cases h1:u2 i b a
 ·rw[ah h1,aj (by unfold u2 at h1;omega)]
 ·rw[aj h1,ah (by unfold u2 at h1;omega)]
theorem Bs(N:Nat)(hN:200000≤N)(c:ae){l:bE}(hl:l.length≤100000)(hw:JL l):iX N c l=some (Ct c l):=by
 unfold iX iX.b Ct
 rw[nM N ω,ar]
 cases eo c
 ·rfl
 rw[bp,av,lF]
 by_cases h12:l.length≤12
 ·rw[aP ω,av,a8 h12,lF]
  refine gV (F:=λn i=>iX.l4 N n l c i) (EX c l) (λn i r hi hp hr=> ?_) (λn=> ?_) N ω
  ·unfold iX.l4 iX.eN iX.j9 iX.On
   rw[aQ ω,ak,aS ω ω,ak,aG,Bj N hN c (Si hw i),ar,aw (x:=(i:Int)+1) ω ω,af i,hr,acS]
   refine Eq.trans ?_ Y3
   by_cases h0:0<i
   ·have e:W .i64 ((i:Int)-1)=((i-1:Nat):Int):=by rw[aw ω ω];omega
    rw[aQ (x:=0) (y:=(i:Int)) ω,ak,e]
    dsimp only
    rw[aG,aS ω ω,ak,Y4 h0]
   ·rw[aP (x:=0) (y:=(i:Int)) ω,av,ah (show u2 i (l.getD (i-1) ((0:Int),(cg,aW))).1 (l.getD i ((0:Int),(cg,aW))).1 from λh=>absurd h h0)]
  ·unfold iX.l4 iX.eN
   rw[aP ω,av]
 ·rw[aQ ω,ak,bC h12,uA]
end VM
end
section
namespace VM
open Go VM.F
abbrev AwS:=au×au×bE
def Uh(a:Int):Prop:=0≤a∧a<6
structure Y5(t:aD):Prop where
 len:t.length≤6
 inst: ∀y∈t,Uh y.1
 q: ∀y∈t,aE y.2.1∧qE y.2.1
structure aiD(z:AwS)(i:Nat):Prop where
 place: ∀x∈z.1,bV x.1 x.2.1
 q: ∀x∈z.1,aE (dZ x)∧qE (dZ x)
 len:z.1.length≤12*i
 flat: ∀a:Int,(c8 a z.1).sum=0
 key: ∀x∈z.2.1,cV x.1 x.2.1
 qe: ∀x∈z.2.1,aE (dZ x)
 aDo:z.2.1.length≤2*i
 zero:(z.2.1.map dZ).sum=0
 out:z.2.2.length=i
theorem IN(a:Int)(l m:au):c8 a (l++m)=c8 a l++c8 a m:=by
 induction l with
 |nil=>rfl
 |cons x t ih=>
  rw[kK,dp,dp,ih]
  split<;>rfl
theorem aku{v:Int}(h:aE v∧qE v):aE (0-v)∧qE (0-v):=by
 unfold aE qE at*;omega
theorem aiD.nil:aiD ([],[],[]) 0:=⟨λx hx=>(nomatch hx),λx hx=>(nomatch hx),aH _,λa=>rfl,λx hx=>(nomatch hx),λx hx=>(nomatch hx),aH _,rfl,rfl⟩
end VM
end
section
namespace VM
open Go VM.F
theorem fG{c:ae}{b:an}(h:cY c b=true):eP b.2.2.1=true∧dt b.2.2.2.1=true:=by
 unfold cY at h
 have h1:=(dw.1 (dw.1 h).2).2
 have h2:=dw.1 h1
 have h3:=(dw.1 (dw.1 h2.2).2).1
 refine⟨h2.1,?_⟩
 unfold oJ at h3
 exact(dw.1 h3).2
structure Bt(b:an):Prop where
 w:iM b
 r:b.2.2.1.length≤90000
 s:b.2.2.2.1.length≤90000
end VM
end
section
namespace VM
open Go VM.F
end VM
end
section
namespace VM
open Go VM.F
theorem iO(x:Int):aN x x=true:=dF rfl
theorem akv(x:Cm):p8 (.pair (.int .i64) (.pair (.int .i64) .unit)) x x=true:=by
 show(aN x.1 x.1&&(aN x.2.1 x.2.1&&true))=true
 rw[iO,iO];rfl
theorem akw(x:cK):p8 (.pair (.int .i64) (.pair (.int .i64) (.pair (.int .i64) .unit))) x x=true:=by
 show(aN x.1 x.1&&p8 (.pair (.int .i64) (.pair (.int .i64) .unit)) x.2 x.2)=true
 rw[iO,akv];rfl
theorem akx(x:bT):p8 (.pair (.int .i64) (.pair (.int .i64) (.pair (.int .i64) (.pair (.int .i64) .unit)))) x x=true:=by
 show(aN x.1 x.1&&p8 (.pair (.int .i64) (.pair (.int .i64) (.pair (.int .i64) .unit))) x.2 x.2)=true
 rw[iO,akw];rfl
theorem GJ{P:Int→Prop} [DecidablePred P]{f:Int→Int→Int}: ∀{K:List c5} {o:au},eC P f K=some o→o.length≤K.length
 |[],o,h=>by
  have:some []=some o:=h
  rw[←nr this];exact aH _
 |k::t,o,h=>by
  rw[kW]at h
  by_cases hP:P (f k.1 k.2)
  ·rw[ah hP]at h
   cases hc:eC P f t with
   |none=>rw[hc]at h;exact absurd h (by simp)
   |some r=>
    have ih:=GJ hc
    rw[hc]at h
    have h':=nr h
    rw[←h',aR]
    dsimp only
    split
    ·omega
    ·rw[aR];omega
  ·rw[aj hP]at h;exact absurd h (by simp)
theorem Sj:kz.length=150:=by decide+kernel
theorem V6:ot.length=175:=by decide+kernel
structure GK(b:an):Prop where
 m:b.1.length≤100000
 a:b.2.1.length≤100000
 r:b.2.2.1.length≤100000
 s:b.2.2.2.1.length≤100000
 p:b.2.2.2.2.1.length≤100000
 o:b.2.2.2.2.2.1.length≤100000
theorem rp:GK (([]:aD),(([]:aO),(([]:au),(([]:au),(([]:List Int),(([]:bm),())))))):=⟨bF _,bF _,bF _,bF _,bF _,bF _⟩
theorem OL{b:an}(w:iM b)(s e:au):GK (gj b s e).1:=by
 unfold gj
 cases h1:eC Fq (fS b.2.2.2.1 s) kz with
 |none=>exact rp
 |some s'=>
  cases h2:eC aE (fS b.2.2.1 e) ot with
  |none=>exact rp
  |some r'=>
   have g1:=GJ h1
   have g2:=GJ h2
   rw[Sj]at g1
   rw[V6]at g2
   exact⟨w.m,w.a,by show r'.length≤_;omega,by show s'.length≤_;omega,w.p,w.o⟩
end VM
end
section
namespace VM
open Go VM.F Go.RowKit
def gk(a b:Int):au→Int
 |[]=>0
 |x::t=>if x.1=a then(if x.2.1=b then x.2.2.1 else gk a b t)else gk a b t
theorem gZ(a b:Int)(x:cK)(t:au):gk a b (x::t)=if x.1=a then(if x.2.1=b then x.2.2.1 else gk a b t)else gk a b t:=rfl
def eR(l:au)(a b:Int):Int:=if dt l then gk a b l else 0
def ou(l:au)(a b:Int):Int:=if eP l then gk a b l else 0
theorem EY(N:Nat){l:au}(hl:l.length≤100000)(hN:200000≤N)(a b:Int):BV N l a b=some (eR l a b):=by
 unfold BV BV.b eR
 rw[mQ N hl hN,ar,cond_not]
 have:=A8 l a6 (λn i=>BV.l4 N n l a b i) (λt=>some (gk a b t)) (λn i hi hr=> ?_) (λn=> ?_) N ω
 ·rw[this];cases dt l<;>rfl
 ·unfold BV.l4 BV.eN
  rw[aQ ω,ak,aS ω ω,ak,ak,ak,aG,aw (x:=(i:Int)+1) ω ω,af i,hr,aI,aI,gZ]
  split
  ·split<;>rfl
  ·rfl
 ·unfold BV.l4 BV.eN
  rw[aP ω,av];rfl
theorem Sk(N:Nat){l:au}(hl:l.length≤100000)(hN:200000≤N)(a b:Int):wF N l a b=some (ou l a b):=by
 unfold wF wF.b ou
 rw[Gt N hl hN,ar,cond_not]
 have:=A8 l a6 (λn i=>wF.l4 N n l a b i) (λt=>some (gk a b t)) (λn i hi hr=> ?_) (λn=> ?_) N ω
 ·rw[this];cases eP l<;>rfl
 ·unfold wF.l4 wF.eN
  rw[aQ ω,ak,aS ω ω,ak,ak,ak,aG,aw (x:=(i:Int)+1) ω ω,af i,hr,aI,aI,gZ]
  split
  ·split<;>rfl
  ·rfl
 ·unfold wF.l4 wF.eN
  rw[aP ω,av];rfl
theorem Ui{l:au}(h: ∀i,i<l.length→aE (dZ (l.getD i a6))):eW l:=λx hx=>by
 obtain⟨i,hi,e⟩:=gd hx
 have:=h i hi
 rw[aU,bg hi]at this
 rw[←e];exact this
namespace Pure
end Pure
end VM
end
section
namespace VM
open Go VM.F
theorem acT(N:Nat){l:au}(hl:l.length≤100000)(hN:200000≤N)(a b:Int):pO N l a b=some (ou l a b):=by
 unfold pO pO.b ou
 rw[EP N hl hN,ar,cond_not]
 have:=A8 l a6 (λn i=>pO.l4 N n a b l (l.length:Int) i) (λt=>some (gk a b t)) (λn i hi hr=> ?_) (λn=> ?_) N ω
 ·rw[this];cases eP l<;>rfl
 ·unfold pO.l4 pO.eN
  rw[aQ ω,ak,aS ω ω,ak,aG,aw (x:=(i:Int)+1) ω ω,af i,hr,aI,aI,gZ]
  split
  ·split<;>rfl
  ·rfl
 ·unfold pO.l4 pO.eN
  rw[aP ω,av];rfl
theorem GM{l:au}(h:eW l)(a b:Int):aE (gk a b l):=by
 induction l with
 |nil=>show aE 0;decide
 |cons x t ih=>
  have ih:=ih (λy hy=>h y (a7 _ hy))
  rw[gZ]
  split
  ·split
   ·exact h x (bh ..)
   ·exact ih
  ·exact ih
theorem OM{l:au}(h:eW l)(a b:Int):aE (ou l a b):=by
 unfold ou
 split
 ·exact GM h a b
 ·exact⟨δ,δ⟩
def kA(a:Int):au→aD
 |[]=>[]
 |x::t=>if x.1=a then(x.2.1,(x.2.2.1,()))::kA a t else kA a t
theorem mT(a:Int)(x:cK)(t:au):kA a (x::t)=if x.1=a then(x.2.1,(x.2.2.1,()))::kA a t else kA a t:=rfl
def posOf(l:au)(a:Int):aD:=if dt l then kA a l else []
theorem GN(a:Int): ∀l:au,(kA a l).length≤l.length
 |[]=>aH _
 |x::t=>by
  have:=GN a t
  rw[mT,aR]
  split
  ·rw[aR];omega
  ·omega
theorem JM(a:Int)(l:au):(posOf l a).length≤l.length:=by
 unfold posOf
 split
 ·exact GN a l
 ·exact bF _
theorem jk{a:Int}{y:Cm}: ∀{l:au},y∈kA a l→ ∃x∈l,x.1=a∧y=(x.2.1,(x.2.2.1,()))
 |[],h=>nomatch h
 |x::t,h=>by
  rw[mT]at h
  by_cases e:x.1=a
  ·rw[ah e]at h
   rcases aZ.1 h with h|h
   ·exact⟨x,bh ..,e,h⟩
   ·obtain⟨x',hx,h'⟩:=jk h
    exact⟨x',a7 _ hx,h'⟩
  ·rw[aj e]at h
   obtain⟨x',hx,h'⟩:=jk h
   exact⟨x',a7 _ hx,h'⟩
theorem ON{l:au}(h:eW l)(a:Int): ∀y∈posOf l a,aE y.2.1:=λy hy=>by
 unfold posOf at hy
 split at hy
 ·obtain⟨x,hx,_,rfl⟩:=jk hy
  exact h x hx
 ·nomatch hy
theorem aiE(N:Nat){l:au}(hl:l.length≤100000)(hN:200000≤N)(a:Int):oR N l a=some (posOf l a):=by
 unfold oR oR.b posOf
 rw[A9 N hl hN,ar,cond_not]
 have:=oF l a6 (λn i s=>oR.l5 N n a s l (l.length:Int) i) (λt s=>some (s++kA a t)) (λi (s:aD)=>s.length≤i) (λn i s hi hI hr=> ?_) (λn s hI=> ?_) l.length N 0 [] ω ω ω (aH _)
 ·have e:oR.l5 N N a [] l (l.length:Int) 0=some (kA a l):=this
  rw[e];cases dt l<;>rfl
 ·unfold oR.l5 oR.eA
  rw[aQ ω,ak,aS ω ω,ak,aG,aw (x:=(i:Int)+1) ω ω,af i,aI,bP (by rw[aK];omega),ak,mT]
  split
  ·rw[hr _ (by rw[aM,aK];omega),bH];rfl
  ·exact hr s ω
 ·unfold oR.l5 oR.eA
  rw[aP ω,av]
  show some s=some (s++[])
  rw[cH]
theorem Y6(N:Nat){l:au}(hl:l.length≤100000)(hN:200000≤N)(a:Int):y9 N l a=some (posOf l a):=by
 unfold y9 y9.b posOf
 rw[mQ N hl hN,ar,cond_not]
 have:=oF l a6 (λn i s=>y9.l5 N n l a s i) (λt s=>some (s++kA a t)) (λi (s:aD)=>s.length≤i) (λn i s hi hI hr=> ?_) (λn s hI=> ?_) l.length N 0 [] ω ω ω (aH _)
 ·have e:y9.l5 N N l a [] 0=some (kA a l):=this
  rw[e];cases dt l<;>rfl
 ·unfold y9.l5 y9.eA
  rw[aQ ω,ak,aS ω ω,ak,ak,ak,aG,aw (x:=(i:Int)+1) ω ω,af i,aI,bP (by rw[aK];omega),ak,mT]
  split
  ·rw[hr _ (by rw[aM,aK];omega),bH];rfl
  ·exact hr s ω
 ·unfold y9.l5 y9.eA
  rw[aP ω,av]
  show some s=some (s++[])
  rw[cH]
def qQ(a n:Int):Prop:=0≤a∧a<n
end VM
end
section
namespace VM
open Go VM.F
theorem Y7{hi:Int}: ∀{l:List Int} {lo:Int},l.Pairwise (· < ·)→(∀x∈l,lo≤x∧x<hi)→lo≤hi→(l.length:Int)≤hi-lo
 |[],lo,_,_,h=>by rw[ck];omega
 |x::t,lo,hp,hm,h=>by
  obtain⟨h1,h2⟩:=eK.1 hp
  have hx:=hm x (bh ..)
  have ih:=Y7 (lo:=x+1) h2 (λy hy=>⟨h1 y hy,(hm y (a7 _ hy)).2⟩) ω
  rw[aR];omega
theorem DC{a:Int}: ∀{l:au},ug (l.map keyOf)→((kA a l).map (λy=>(y.1:Int))).Pairwise (· < ·)
 |[],_=>List.Pairwise.nil
 |x::t,h=>by
  obtain⟨h1,h2⟩:=eK.1 h
  have ih:=DC (a:=a) h2
  rw[mT]
  by_cases e:x.1=a
  ·rw[ah e,bR]
   refine eK.2 ⟨λz hz=> ?_,ih⟩
   obtain⟨y,hy,rfl⟩:=cL.1 hz
   obtain⟨x',hx,e',rfl⟩:=jk hy
   have hk:=h1 (keyOf x') (fa hx)
   have g: ∀p q r s:Int,p=a→r=a→lh p q r s→q<s:=λp q r s h1 h2 h=>by unfold lh at h;omega
   exact g _ _ _ _ e e' hk
  ·rw[aj e];exact ih
theorem Y8{l:au}(hk:dt l=true)(hq:eW l)(a:Int):Y5 (posOf l a):=by
 obtain⟨hs,hp⟩:=eY hk
 have e:posOf l a=kA a l:=by unfold posOf;rw[hk];rfl
 rw[e]
 have lj: ∀y∈kA a l,Uh y.1:=λy hy=>by
  obtain⟨x,hx,_,rfl⟩:=jk hy
  have g: ∀p q:Int,bV p q→Uh q:=λp q h=>by unfold bV at h;unfold Uh;omega
  exact g _ _ (hp x hx).1
 refine⟨?_,lj,λy hy=> ?_⟩
 ·have:=Y7 (lo:=0) (hi:=6) (DC (a:=a) hs) (λz hz=>by
   obtain⟨y,hy,rfl⟩:=cL.1 hz
   exact lj y hy) ω
  rw[cI]at this;omega
 ·obtain⟨x,hx,_,rfl⟩:=jk hy
  exact⟨hq x hx,(hp x hx).2⟩
end VM
end
section
namespace VM
open Go VM.F
def cC(p:Int):Prop:=1≤p∧p≤1000000000000
instance(p:Int):Decidable (cC p):=by unfold cC;infer_instance
theorem GO(N:Nat)(p:Int):Ek N p=some (decide (cC p)):=(iL N p).trans (ej some (np.2 Iff.rfl))
def jy(a b c d e:Int):Prop:=(0≤a∧a≤24)∧(0≤b∧b≤24)∧a≠b∧(0≤c∧c<6)∧(1≤d∧d≤1000000000)∧cC e
instance(a b c d e:Int):Decidable (jy a b c d e):=by unfold jy;infer_instance
def ea(t:iP):Prop:=jy t.1 t.2.1 t.2.2.1 t.2.2.2.1 t.2.2.2.2.1
instance:DecidablePred ea:=λt=>by unfold ea;infer_instance
theorem DD(a b c d e:Int):cond (cZ 0 a) (cond (cZ a 24) (cond (cZ 0 b) (cond (cZ b 24) (cond (!aN a b) (cond (cZ 0 c) (cond (aT c 6) (cond (cZ 1 d) (cond (cZ d 1000000000) (some (decide (cC e))) (some false)) (some false)) (some false)) (some false)) (some false)) (some false)) (some false)) (some false)) (some false)=some (decide (jy a b c d e)):=by
 simp only[cn,cond_not,aI,bN]
 by_cases hP:jy a b c d e
 ·have hp:=hP.2.2.2.2.2
  rw[a8 hP,a8 hp]
  unfold jy at hP
  repeat' split
  all_goals first|rfl|omega
 ·rw[bC hP]
  by_cases hp:cC e
  ·unfold jy at hP
   repeat' split
   all_goals first|rfl|(exact absurd ⟨ω,ω,ω,ω,ω,hp⟩ hP)
  ·rw[bC hp]
   repeat' split
   all_goals rfl
theorem yw(N:Nat)(t:iP):Y9 N t=some (decide (ea t)):=by
 unfold Y9
 rw[GO,ar]
 exact DD _ _ _ _ _
def vX(a x:Int):cK:=if a=0 then((2:Int),((0:Int),(x,())))else((5:Int),(a,(x,())))
def nT(t:iP)(p:Int):au:=if p-t.2.2.2.2.1=0 then []else [vX t.1 ((p-t.2.2.2.2.1)*t.2.2.2.1),vX t.2.1 (-((p-t.2.2.2.2.1)*t.2.2.2.1))]
def qR(b:an)(t:iP):Int:=b.2.2.2.2.1.getD t.2.2.1.toNat 0
def lz:bs→au
 |[]=>[]
 |t::r=>(t.1,(t.2.2.1,(t.2.2.2.1,())))::(t.2.1,(t.2.2.1,((0-t.2.2.2.1:Int),())))::lz r
def mG(b:an):bs→au
 |[]=>[]
 |t::r=>nT t (qR b t)++mG b r
theorem tH(t:iP)(r:bs):lz (t::r)=(t.1,(t.2.2.1,(t.2.2.2.1,())))::(t.2.1,(t.2.2.1,((0-t.2.2.2.1:Int),())))::lz r:=rfl
theorem xP(b:an)(t:iP)(r:bs):mG b (t::r)=nT t (qR b t)++mG b r:=rfl
theorem Cu(a x:Int)(N:Nat):LD N a=some ((vX a x).1,(vX a x).2.1):=by
 unfold LD vX
 rw[aI]
 by_cases h:a=0
 ·rw[ah h,ah h]
 ·rw[aj h,aj h]
theorem iQ(a x:Int):dZ (vX a x)=x:=by unfold vX;split<;>rfl
theorem Cv{d q:Int}(h1: -1000000000000≤d∧d≤1000000000000)(h2:1≤q∧q≤1000000000): -1000000000000000000000≤d*q∧d*q≤1000000000000000000000∧(d*q=0↔d=0):=by
 refine⟨?_,?_,?_⟩
 ·have:=qH h1.1 (show 0≤q by omega)
  have h3: -1000000000000*1000000000≤ -1000000000000*q:=ω
  omega
 ·have:=qH h1.2 (show 0≤q by omega)
  have h3:1000000000000*q≤1000000000000*1000000000:=ω
  omega
 ·rw[Int.mul_eq_zero];omega
theorem IP(N:Nat)(hN:4000000≤N){t:iP}{p:Int}(ht:ea t)(hp:cC p):Sl N t p=some ((nT t p).map jQ,0):=by
 unfold Sl nT
 have hq:=ht.2.2.2.2.1
 have he:=ht.2.2.2.2.2
 rw[yw,ar,a8 ht,bp,av,GO,ar,a8 hp,bp,av]
 unfold cC at hp he
 generalize t.2.2.2.2.1=e at*
 generalize t.2.2.2.1=q at*
 have hd: -1000000000000≤p-e∧p-e≤1000000000000:=ω
 have hn:=Cv hd hq
 have V4:cf ((p-e)*q):=by unfold cf;omega
 rw[aw (x:=p-e) ω ω,da N ω ω ω,ar,da N ω ω ω,ar,uX N hN ((Fit.i64 ω ω).mono ω) ((Fit.i64 ω ω).mono ω),ar,mj,ar,aI]
 by_cases h:p-e=0
 ·rw[ah h,ah (by rw[hn.2.2.2 h];rfl)];rfl
 ·rw[aj h,aj (λk=>h (hn.2.2.1 (kv.1 k))),Cu t.1 ((p-e)*q),ar,Cu t.2.1 (-((p-e)*q)),ar,oE N hN (vQ V4),ar,bR,bR,gQ]
  unfold jQ
  rw[iQ,iQ]
def qt(c:ae)(b:an)(t:iP):Bool:=
 ((et b.2.1 t.1).2||decide (dz t.1 0))&&(((et b.2.1 t.2.1).2||decide (dz t.2.1 0))&&decide (oc t.2.2.1 c.1.length))
def vd(c:ae)(b:an)(l:bs):an×Int:=
 if cY c b then(if l.length≤200 then(if l.all (λt=>decide (ea t))then(if l.all (qt c b)then gj b (lz l) (mG b l)else((cg,(cT,(bq,(bq,(de,(dk,())))))),3))else((cg,(cT,(bq,(bq,(de,(dk,())))))),1))else((cg,(cT,(bq,(bq,(de,(dk,())))))),1))else((cg,(cT,(bq,(bq,(de,(dk,())))))),1)
theorem dy{c:ae}{b:an}(h:cY c b=true):b.2.2.2.2.1.length=c.1.length∧eV b.2.2.2.2.1=true:=by
 unfold cY at h
 simp only[bB]at h
 have h1:=bA h.2.2.2.2.2.2.1
 unfold dz at h1
 exact⟨ω,h.2.2.2.2.2.2.2.2.2.2⟩
theorem zD: ∀l:bs,(lz l).length=2*l.length
 |[]=>rfl
 |t::r=>by rw[tH,aR,aR,aR,zD r];omega
theorem GP(t:iP)(p:Int):(nT t p).length≤2:=by
 unfold nT
 split
 ·exact bF _
 ·exact aH 2
theorem zE(b:an): ∀l:bs,(mG b l).length≤2*l.length
 |[]=>aH _
 |t::r=>by
  have:=GP t (qR b t)
  have:=zE b r
  rw[xP,aM,aR];omega
end VM
end
section
namespace VM
open Go VM.F
theorem sr{l:List Int}(h:eV l=true){i:Nat}(hi:i<l.length):cC (l.getD i 0):=bA h i hi
theorem Sm(i:Int)(a b:cK)(l:au)(h:a.2.1=b.2.1)(hs:dZ a+dZ b=0):(c8 i (a::b::l)).sum=(c8 i l).sum:=by
 rw[dp,dp]
 by_cases e:a.2.1=i
 ·rw[ah e,ah (h.symm.trans e),cB,cB];omega
 ·rw[aj e,aj (λk=>e (h.trans k))]
theorem DE: ∀{l:bs},(∀t∈l,ea t)→(∀x∈lz l,bV x.1 x.2.1∧aE (dZ x)∧qE (dZ x))∧ ∀i:Int,(c8 i (lz l)).sum=0
 |[],_=>⟨λx hx=>(nomatch hx),λi=>rfl⟩
 |t::r,h=>by
  obtain⟨h1,h2⟩:=DE (l:=r) (λy hy=>h y (a7 _ hy))
  have ht:=h t (bh ..)
  unfold ea jy at ht
  have g: ∀a b c d:Int,(0≤a∧a≤24)→(0≤b∧b≤24)→(0≤c∧c<6)→(1≤d∧d≤1000000000)→(bV a c∧aE d∧qE d)∧(bV b c∧aE (0-d)∧qE (0-d)):=λa b c d _ _ _ _=>by unfold bV aE qE;omega
  have hg:=g _ _ _ _ ht.1 ht.2.1 ht.2.2.2.1 ht.2.2.2.2.1
  refine⟨λx hx=> ?_,λi=> ?_⟩
  ·rw[tH]at hx
   rcases aZ.1 hx with e|hx
   ·rw[e];exact hg.1
   ·rcases aZ.1 hx with e|hx
    ·rw[e];exact hg.2
    ·exact h1 x hx
  ·rw[tH]
   have hz: ∀d:Int,d+(0-d)=0:=λd=>ω
   exact(Sm i (t.1,(t.2.2.1,(t.2.2.2.1,()))) (t.2.1,(t.2.2.1,((0-t.2.2.2.1:Int),()))) (lz r) rfl (hz t.2.2.2.1)).trans (h2 i)
theorem Sn{t:iP}{p:Int}(ht:ea t)(hp:cC p):cf ((p-t.2.2.2.2.1)*t.2.2.2.1)∧cf (-((p-t.2.2.2.2.1)*t.2.2.2.1)):=by
 have hq:=ht.2.2.2.2.1
 have he:=ht.2.2.2.2.2
 unfold cC at hp he
 generalize t.2.2.2.2.1=e at*
 generalize t.2.2.2.1=q at*
 have hn:=Cv (d:=p-e) ω hq
 unfold cf
 omega
theorem OO{a x:Int}(h:0≤a∧a≤24):cV (vX a x).1 (vX a x).2.1:=by
 unfold vX
 by_cases e:a=0
 ·rw[ah e];show cV 2 0;decide
 ·rw[aj e];show cV 5 a;unfold cV;omega
theorem OP{t:iP}{p:Int}(ht:ea t)(hp:cC p):(∀x∈nT t p,cV x.1 x.2.1∧cf (dZ x))∧((nT t p).map dZ).sum=0:=by
 have hn:=Sn ht hp
 unfold nT
 split
 ·exact⟨λx hx=>(nomatch hx),rfl⟩
 ·refine⟨λx hx=> ?_,?_⟩
  ·rcases aZ.1 hx with e|hx
   ·rw[e,iQ];exact⟨OO ht.1,hn.1⟩
   ·rw[cr.1 hx,iQ];exact⟨OO ht.2.1,hn.2⟩
  ·rw[bR,bR,gQ,cB,cB,iF,iQ,iQ];omega
theorem DF{b:an}: ∀{l:bs},(∀t∈l,ea t∧cC (qR b t))→(∀x∈mG b l,cV x.1 x.2.1∧cf (dZ x))∧((mG b l).map dZ).sum=0
 |[],_=>⟨λx hx=>(nomatch hx),rfl⟩
 |t::r,h=>by
  obtain⟨h1,h2⟩:=DF (b:=b) (l:=r) (λy hy=>h y (a7 _ hy))
  have ht:=h t (bh ..)
  have hc:=OP ht.1 ht.2
  rw[xP]
  refine⟨λx hx=>(bk.1 hx).elim (hc.1 x) (h1 x),?_⟩
  rw[dg,nh,hc.2,h2];rfl
theorem V7{l:bs}(h: ∀t∈l,ea t)(hl:l.length≤200):YR (lz l):=by
 obtain⟨h1,h2⟩:=DE h
 exact⟨λx hx=>(h1 x hx).1,λx hx=>(h1 x hx).2,by rw[zD];omega,h2⟩
theorem V8{b:an}{l:bs}(h: ∀t∈l,ea t∧cC (qR b t))(hl:l.length≤200):YX (mG b l):=by
 obtain⟨h1,h2⟩:=DF h
 have:=zE b l
 exact⟨λx hx=>(h1 x hx).1,λx hx=>(h1 x hx).2,ω,h2⟩
end VM
end
section
namespace VM
open Go VM.F
theorem g5{c:ae}{b:an}(h:cY c b=true):eo c=true:=by
 unfold cY at h
 exact(dw.1 h).1
def jR(k:Int):Nat→aO→List Int
 |_,[]=>[]
 |i,x::t=>if x.1=k then(i:Int)::jR k (i+1) t else jR k (i+1) t
theorem qS(k:Int)(i:Nat)(x:bT)(t:aO):jR k i (x::t)=if x.1=k then(i:Int)::jR k (i+1) t else jR k (i+1) t:=rfl
def cj(c:ae)(k:Int):List Int:=if eo c then jR k 0 c.1 else []
theorem Gx(N:Nat)(hN:200000≤N)(c:ae)(hl:c.1.length≤100000)(k:Int):Cw N c k=some (cj c k):=by
 unfold Cw Cw.b cj
 rw[nM N ω,ar,cond_not]
 have:=oF c.1 aW (λn i s=>Cw.l5 N n k c s i) (λt s=>some (s++jR k (c.1.length-t.length) t)) (λi (s:List Int)=>s.length≤i) (λn i s hi hI hr=> ?_) (λn s hI=> ?_) c.1.length N 0 [] ω ω ω (aH _)
 ·have e:Cw.l5 N N k c [] 0=some (jR k 0 c.1):=by
   refine this.trans ?_
   rw[c0,lG];rfl
  rw[e];cases eo c<;>rfl
 ·unfold Cw.l5 Cw.eA
  have e1:c.1.length-(c.1.getD i aW::c.1.drop (i+1)).length=i:=by rw[aR,dC];omega
  have e2:c.1.length-(c.1.drop (i+1)).length=i+1:=by rw[dC];omega
  rw[e2]at hr
  rw[aQ ω,ak,aS ω ω,ak,aG,aw (x:=(i:Int)+1) ω ω,af i,aI,bP (by rw[aK];omega),ak,e1,qS]
  split
  ·rw[hr _ (by rw[aM,aK];omega),bH];rfl
  ·exact hr s ω
 ·unfold Cw.l5 Cw.eA
  rw[aP ω,av]
  show some s=some (s++[])
  rw[cH]
def OQ(c:ae)(b:an)(i:Nat):Int:=eR b.2.2.2.1 0 (i:Int)*b.2.2.2.2.1.getD i 0
def DG(c:ae)(b:an)(k:Int):Nat→Int
 |0=>0
 |n+1=>DG c b k n+if(c.1.getD n aW).1=k then OQ c b n else 0
theorem zF(c:ae)(b:an)(k:Int)(n:Nat):DG c b k (n+1)=DG c b k n+if(c.1.getD n aW).1=k then OQ c b n else 0:=rfl
theorem Uj{a b:Int}(ha:aE a)(hb:cC b): -9223372036854775808000000000000≤a*b∧a*b≤9223372036854775808000000000000:=by
 unfold aE at ha;unfold cC at hb
 have h1:=qH ha.1 (show 0≤b by omega)
 have h2:=qH (pA ha.2) (show 0≤b by omega)
 omega
theorem pP{c:ae}(h:eo c=true):c.1.length≤6∧ ∀i,i<c.1.length→0≤(c.1.getD i aW).1∧(c.1.getD i aW).1≤3:=by
 unfold eo at h
 simp only[bB]at h
 have h1:=bA h.1
 have h2:=bA h.2.1
 exact⟨h1.2,λi hi=>(h2 i hi).1⟩
theorem So{l:au}(h:eW l)(a b:Int):aE (eR l a b):=by
 unfold eR
 cases dt l
 ·show aE 0;decide
 ·exact GM h a b
theorem V9{c:ae}{b:an}(w:iM b)(hB:cY c b=true){i:Nat}(hi:i<c.1.length): -9223372036854775808000000000000≤OQ c b i∧OQ c b i≤9223372036854775808000000000000:=by
 obtain⟨AN,EK⟩:=dy hB
 obtain⟨_,hk⟩:=fG hB
 have h1:aE (eR b.2.2.2.1 0 (i:Int)):=So w.qs _ _
 exact Uj h1 (sr EK ω)
theorem JN{c:ae}{b:an}(w:iM b)(hB:cY c b=true)(k:Int): ∀n,n≤c.1.length→ -(9223372036854775808000000000000*(n:Int))≤DG c b k n∧DG c b k n≤9223372036854775808000000000000*(n:Int)
 |0,_=>⟨dP _,dP _⟩
 |n+1,h=>by
  have ih:=JN w hB k n ω
  have ht:=V9 w hB (i:=n) ω
  rw[zF]
  split<;>omega
def dM(c:ae)(b:an)(k:Int):Int:=DG c b k c.1.length
end VM
end
section
namespace VM
open Go VM.F
theorem vY(N:Nat)(p:Int):F85 N p=some (decide (cC p)):=(Cl N p).trans (ej some (np.2 Iff.rfl))
theorem JO(N:Nat)(hN:10≤N)(t:iP):oS N t=some (decide (ea t)):=by
 obtain⟨n,rfl⟩: ∃n,N=n+3:=⟨N-3,ω⟩
 refine Eq.trans ?_ (DD t.1 t.2.1 t.2.2.1 t.2.2.2.1 t.2.2.2.2.1)
 unfold oS oS.b
 have el:List.set (List.set (List.replicate 2 (0:Int)) 0 t.1) 1 t.2.1=[t.1,t.2.1]:=rfl
 rw[el]
 generalize hl:[t.1,t.2.1]=l
 have g0:l.getD (0:Int).toNat 0=t.1:=by rw[←hl];rfl
 have g1:l.getD (1:Int).toNat 0=t.2.1:=by rw[←hl];rfl
 unfold oS.l2 oS.fy
 unfold oS.l2 oS.fy
 unfold oS.l2 oS.fy
 rw[aQ (x:=0) ω,ak,aS (i:=0) ω ω,ak,aw (x:=0+1) ω ω,show(0:Int)+1=1 from rfl,aQ (x:=1) (y:=2) ω,ak,aS (i:=1) ω ω,ak,aw (x:=1+1) ω ω,show(1:Int)+1=2 from rfl,aP (x:=2) (y:=2) ω,av,g0,g1,vY,ar]
 simp only[cn,cond_not,aI,bN]
 by_cases a1:t.1<0
 ·rw[ah a1,aj (w9.2 a1)]
 rw[aj a1,ah (rO.1 a1)]
 by_cases a2:24<t.1
 ·rw[ah a2,aj (w9.2 a2)]
 rw[aj a2,ah (rO.1 a2)]
 by_cases a3:t.2.1<0
 ·rw[ah a3,aj (w9.2 a3)]
 rw[aj a3,ah (rO.1 a3)]
 by_cases a4:24<t.2.1
 ·rw[ah a4,aj (w9.2 a4)]
 rw[aj a4,ah (rO.1 a4)]
theorem JP(N:Nat)(a x:Int):Za N a (bS x)=some (jx (vX a x)):=by
 unfold Za vX jx
 rw[aI]
 by_cases h:a=0
 ·rw[ah h,ah h];rfl
 ·rw[aj h,aj h];rfl
theorem Sp(N:Nat)(hN:100≤N){t:iP}{p:Int}(ht:ea t)(hp:cC p):Zb N t p=some ((nT t p).map jx,0):=by
 unfold Zb nT
 have hq:=ht.2.2.2.2.1
 have he:=ht.2.2.2.2.2
 rw[JO N ω,ar,a8 ht,bp,av,vY,ar,a8 hp,bp,av,aI]
 unfold cC at hp he
 generalize t.2.2.2.2.1=e at*
 generalize t.2.2.2.1=q at*
 by_cases h:p=e
 ·rw[ah h,ah ω];rfl
 ·rw[aj h,aj ω,aw (x:=p-e) ω ω,aw (x:=e-p) ω ω,A6 N ω ω ω ω,ar,JP,ar,A6 N ω ω ω ω,ar,JP,ar,bR,bR,gQ,eL q (p-e)]
  have e2:q*(e-p)= -((p-e)*q):=by rw[eL,←Int.neg_mul];congr 1;omega
  rw[e2]
theorem LF(N:Nat){u v:Int}(hu:cf u)(hv:cf v)(hs:cf (u+v)):OR N (bS u) (bS v)=some (bS (u+v),true):=by
 unfold OR bS
 unfold cf at*
 dsimp only
 have hp:0≤u%18446744073709551616∧u%18446744073709551616<18446744073709551616:=ω
 have hq:0≤v%18446744073709551616∧v%18446744073709551616<18446744073709551616:=ω
 rw[mN,mN,uV N ω ω ω ω,ar]
 dsimp only
 have hc:0≤(u%18446744073709551616+v%18446744073709551616+0)/18446744073709551616∧(u%18446744073709551616+v%18446744073709551616+0)/18446744073709551616≤1:=ω
 have e1:(u%18446744073709551616+v%18446744073709551616+0)%18446744073709551616=(u+v)%18446744073709551616:=ω
 have e2:u/18446744073709551616+v/18446744073709551616+(u%18446744073709551616+v%18446744073709551616+0)/18446744073709551616=(u+v)/18446744073709551616:=ω
 have h3: -9223372036854775808≤(u+v)/18446744073709551616∧(u+v)/18446744073709551616<9223372036854775808:=ω
 rw[uV N ω ω hc.1 hc.2,ar]
 dsimp only
 have e3:W .i64 ((u/18446744073709551616%18446744073709551616+v/18446744073709551616%18446744073709551616+(u%18446744073709551616+v%18446744073709551616+0)/18446744073709551616)%18446744073709551616)=(u+v)/18446744073709551616:=by
  rw[fW];split<;>omega
 rw[e3,e1]
 have key: ∀A B C:Int,A=u/18446744073709551616→B=v/18446744073709551616→C=(u+v)/18446744073709551616→(A<0∧B<0→C<0)∧(¬A<0∧ ¬B<0→ ¬C<0):=λA B C _ _ _=>ω
 have k:=key _ _ _ rfl rfl rfl
 simp only[nJ,p7]
 by_cases a:u/18446744073709551616<0<;>by_cases b:v/18446744073709551616<0
 ·have c:=k.1 ⟨a,b⟩
  rw[a8 a,a8 b,a8 c];rfl
 ·rw[a8 a,bC b];rfl
 ·rw[bC a,a8 b];rfl
 ·have c:=k.2 ⟨a,b⟩
  rw[bC a,bC b,bC c];rfl
theorem Wa(N:Nat)(hN:200000≤N)(c:ae)(hl:c.1.length≤100000)(k:Int):pQ N c k=some (cj c k):=by
 unfold pQ pQ.b cj
 rw[EO N ω,ar,cond_not]
 have:=oF c.1 aW (λn i s=>pQ.l5 N n k s c.1 (c.1.length:Int) i) (λt s=>some (s++jR k (c.1.length-t.length) t)) (λi (s:List Int)=>s.length≤i) (λn i s hi hI hr=> ?_) (λn s hI=> ?_) c.1.length N 0 [] ω ω ω (aH _)
 ·have e:pQ.l5 N N k [] c.1 (c.1.length:Int) 0=some (jR k 0 c.1):=by
   refine this.trans ?_
   rw[c0,lG];rfl
  rw[e];cases eo c<;>rfl
 ·unfold pQ.l5 pQ.eA
  have e1:c.1.length-(c.1.getD i aW::c.1.drop (i+1)).length=i:=by rw[aR,dC];omega
  have e2:c.1.length-(c.1.drop (i+1)).length=i+1:=by rw[dC];omega
  rw[e2]at hr
  rw[aQ ω,ak,aS ω ω,ak,aG,aw (x:=(i:Int)+1) ω ω,af i,aI,bP (by rw[aK];omega),ak,e1,qS]
  split
  ·rw[hr _ (by rw[aM,aK];omega),bH];rfl
  ·exact hr s ω
 ·unfold pQ.l5 pQ.eA
  rw[aP ω,av]
  show some s=some (s++[])
  rw[cH]
end VM
end
section
namespace VM
open Go VM.F
theorem DH(N:Nat)(hN:10≤N){l:bs}(hl:l.length≤100000): ∀(m n i:Nat),l.length-i≤m→m<n→i≤l.length→
  ∃r,sY.l2 N n l () (l.length:Int) (i:Int)=some r∧(cZ 0 r= !(l.drop i).all (λt=>decide (ea t)))
 |m,0,i,_,hn,_=>ω
 |m,n+1,i,hm,hn,hi=>by
  unfold sY.l2 sY.fy aky
  by_cases h:i<l.length
  ·rw[aQ ω,ak,aS ω ω,ak,aG,JO N hN,ar,ar,cond_not,ed,drop_cons h gu,Ao]
   by_cases hP:ea (l.getD i gu)
   ·rw[ah hP,aw ω ω,a8 hP,lF]
    exact DH N hN hl (m-1) n (i+1) ω ω ω
   ·rw[aj hP,bC hP,uA]
    exact⟨_,rfl,by rw[dY ω];rfl⟩
  ·have e:i=l.length:=ω
   subst e
   rw[aP ω,av,nf]
   exact⟨_,rfl,by rw[dL ω];rfl⟩
theorem Sq(N:Nat){l:bs}(hl:l.length≤100000)(hN:200000≤N):acU N l ()=some (!l.all (λt=>decide (ea t))):=by
 unfold acU sY sY.b
 obtain⟨r,e,h⟩:=DH N ω hl l.length N 0 ω ω ω
 rw[show((0:Nat):Int)=0 from rfl]at e
 rw[e,ar,h,c0]
theorem OS(N:Nat)(hN:4000000≤N)(c:ae){b:an}(w:Bt b)(hB:cY c b=true){l:bs}(hk: ∀t∈l,ea t)(hth: ∀t∈l,qt c b t=true)(hl:l.length≤200):
  iR.lx N N b (cg,(cT,(bq,(bq,(de,(dk,())))))) [] [] l (l.length:Int) 0=some (gj b (lz l) (mG b l)):=by
 obtain⟨hr,hs⟩:=fG hB
 obtain⟨AN,EK⟩:=dy hB
 have gs:=V7 hk hl
 have ap7: ∀t∈l,t.2.2.1.toNat<b.2.2.2.2.1.length∧aY t.2.2.1 b.2.2.2.2.1.length=true:=λt ht=>by
  have h:=hth t ht
  unfold qt at h
  have fj:=bA (dw.1 (dw.1 h).2).2
  have lj:=(hk t ht).2.2.2.1
  have g: ∀x:Int,(0≤x∧x<6)→oc x c.1.length→x.toNat<b.2.2.2.2.1.length∧aY x b.2.2.2.2.1.length=true:=λx _ h=>by unfold oc at h;exact⟨ω,aS ω ω⟩
  exact g _ lj fj
 have ki: ∀t∈l,ea t∧cC (qR b t):=λt ht=>⟨hk t ht,sr EK (ap7 t ht).1⟩
 have:=oF l gu (λn i (z:au×au)=>iR.lx N n b (cg,(cT,(bq,(bq,(de,(dk,())))))) z.1 (z.2.map jx) l (l.length:Int) i)
  (λu z=>some (gj b (lz l) (mG b l)))
  (λi z=>z.1++lz (l.drop i)=lz l∧z.2++mG b (l.drop i)=mG b l)
  (λn i z hi hI Ei=> ?_) (λn z hI=> ?_) l.length N 0 ([],[]) ω ω ω ⟨rfl,rfl⟩
 ·exact this
 ·unfold iR.lx iR.kt
  obtain⟨i1,i2⟩:=hI
  have hls:=zD l
  have hle:=zE b l
  have z1:z.1.length≤400:=by rw[←i1,aM]at hls;omega
  have z2:z.2.length≤400:=by rw[←i2,aM]at hle;omega
  have hm:l.getD i gu∈l:=by
   rw[aU,bg hi];exact dx hi
  have ht:=hk _ hm
  have hn:=ap7 _ hm
  have hp:=(ki _ hm).2
  rw[drop_cons hi gu,tH]at i1
  rw[drop_cons hi gu,xP]at i2
  rw[aQ ω,ak,aS ω ω,ak,aG,aw (x:=(i:Int)+1) ω ω,af i]
  generalize l.getD i gu=t at*
  have hq:=ht.2.2.2.2.1
  have e0:W .i64 (0-t.2.2.2.1)=0-t.2.2.2.1:=by
   have g: ∀d:Int,1≤d∧d≤1000000000→W .i64 (0-d)=0-d:=λd _=>aw ω ω
   exact g _ hq
  rw[e0]
  dsimp only
  have htp:Zb N t (b.2.2.2.2.1.getD t.2.2.1.toNat 0)=some ((nT t (qR b t)).map jx,0):=Sp N ω ht hp
  have Ja:=GP t (qR b t)
  rw[bP (by rw[aR,aK];omega),ak,hn.2,ak,htp,ar,bP (by rw[cI,cI];omega),ak]
  have:=Ei (z.1++[(t.1,(t.2.2.1,(t.2.2.2.1,()))),(t.2.1,(t.2.2.1,((0-t.2.2.2.1:Int),())))],z.2++nT t (qR b t)) ⟨by rw[←i1,bH];rfl,by rw[←i2,bH]⟩
  rw[dg]at this
  exact this
 ·unfold iR.lx iR.kt
  obtain⟨i1,i2⟩:=hI
  rw[nf]at i1 i2
  have e1:z.1=lz l:=by rw[←i1];exact(cH _).symm
  have e2:z.2=mG b l:=by rw[←i2];exact(cH _).symm
  rw[aP ω,av,e1,e2,Y2 N ω w.w hr hs w.r w.s gs (V8 ki hl),ar]
theorem Bu{f:Bool}{a:Int}{r:Option (an×Int)}:cond (!aN a 0) (cond (!f) (some ((cg,(cT,(bq,(bq,(de,(dk,())))))),(3:Int))) r) r=if(f||decide (dz a 0))=true then r else some ((cg,(cT,(bq,(bq,(de,(dk,())))))),(3:Int)):=by
 rw[cond_not,aI,cond_not]
 by_cases h:a=0
 ·rw[ah h,a8 (show dz a 0 from h),Bool.or_true,ah rfl]
 ·rw[aj h,bC (show ¬dz a 0 from h),rI]
  cases f<;>rfl
theorem Wb(N:Nat)(hN:4000000≤N)(c:ae){b:an}(w:Bt b){l:bs}(hl:l.length≤100000):iR N c b l=some (vd c b l):=by
 unfold iR iR.b vd
 rw[EV N hN w.w,ar,cond_not,bN,Sq N hl ω,ar,cond_not]
 by_cases hB:cY c b=false
 ·rw[hB];rfl
 rw[pv]at hB
 rw[hB,ak,ah rfl]
 by_cases akz:l.length≤200
 ·rw[aj ω,ah akz]
  by_cases hk:l.all (λt=>decide (ea t))=false
  ·rw[hk];rfl
  rw[pv]at hk
  rw[hk,ak,ah rfl]
  have FV: ∀t∈l,ea t:=λt ht=>bA (nn.1 hk t ht)
  have key: ∀(m n i:Nat),l.length-i≤m→m<n→i≤l.length→(∀j,j<i→qt c b (l.getD j gu)=true)→iR.l4 N n l c b (cg,(cT,(bq,(bq,(de,(dk,())))))) l (l.length:Int) (i:Int)=some (if l.all (qt c b)then gj b (lz l) (mG b l)else((cg,(cT,(bq,(bq,(de,(dk,())))))),3)):=by
   intro m n
   induction n generalizing m with
   |zero=>intro i _ hn;omega
   |succ n ih=>
    intro i hm hn hi hj
    unfold iR.l4 iR.eN
    by_cases h:i<l.length
    ·have uN:qt c b (l.getD i gu)=false→some ((cg,(cT,(bq,(bq,(de,(dk,())))))),(3:Int))=some (if l.all (qt c b)then gj b (lz l) (mG b l)else((cg,(cT,(bq,(bq,(de,(dk,())))))),3)):=λhf=>by
      have:l.all (qt c b)=false:=by
       rw[List.all_eq_false]
       refine⟨l.getD i gu,?_,by rw[hf];decide⟩
       rw[aU,bg h];exact dx h
      rw[this];rfl
     have ap8:qt c b (l.getD i gu)=true→ ∀j,j<i+1→qt c b (l.getD j gu)=true:=λh j XU=>by
      by_cases e:j=i
      ·rw[e];exact h
      ·exact hj j ω
     rw[aQ ω,ak,aS ω ω,ak,aG,GA N b w.w.a ω,GA N b w.w.a ω,aw (x:=(i:Int)+1) ω ω,af i]
     simp only[ar]
     rw[Bu,Bu,cn]
     generalize l.getD i gu=t at*
     unfold qt at uN ap8
     by_cases h1:((et b.2.1 t.1).2||decide (dz t.1 0))=true
     ·rw[ah h1]
      by_cases h2:((et b.2.1 t.2.1).2||decide (dz t.2.1 0))=true
      ·rw[ah h2]
       by_cases h3:(c.1.length:Int)≤t.2.2.1
       ·rw[ah h3]
        exact uN (by rw[h1,h2,bC (show ¬oc t.2.2.1 c.1.length from λh=>by unfold oc at h;exact absurd h (rO.2 h3))];rfl)
       ·rw[aj h3]
        exact ih (m-1) (i+1) ω ω ω (ap8 (by rw[h1,h2,a8 (show oc t.2.2.1 c.1.length from w9.1 h3)];rfl))
      ·rw[aj h2]
       exact uN (by rw[nk]at h2;rw[h1,h2];rfl)
     ·rw[aj h1]
      exact uN (by rw[nk]at h1;rw[h1];rfl)
    ·have hth: ∀t∈l,qt c b t=true:=λt ht=>by
      obtain⟨k,hk,e⟩:=gd ht
      have:=hj k ω
      rw[aU,bg hk]at this
      rw[←e];exact this
     rw[aP ω,av,nn.2 hth,ah rfl]
     exact OS N hN c w hB FV hth akz
  exact key l.length N 0 ω ω ω (λj hj=>absurd hj ω)
 ·rw[ah ω,aj akz]
end VM
end
