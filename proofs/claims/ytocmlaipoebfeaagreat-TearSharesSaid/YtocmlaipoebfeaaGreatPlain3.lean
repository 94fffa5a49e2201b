/- A part of the proof of TearShares of layer 29: what the functions compute, in plain words. -/
import Derived.Test.YtocmlaipoebfeaaGreatPlain2
import Derived.Test.YtocmlaipoebfeaaGreatVm6
import Derived.Test.YtocmlaipoebfeaaGreatPlain1
import Derived.Test.YtocmlaipoebfeaaGreatPlain0
set_option linter.all false
section
namespace VM
open Go VM.F
def OB(E:aj):Prop:= ∀x∈E,eE (dt x)
def gM(r:cm):pK:=(r.1,(r.2.1,(cy (dt r),())))
theorem Dd(E:aj)(i:Nat):(E.map gM).getD i ((0:Int),((0:Int),(ch,())))=gM (E.getD i aW):=by
 by_cases h:i<E.length
 ·rw[aub,avw,auf h,aub,auf h];rfl
 ·rw[aub,auQ (by rw[auH];omega),aub,auQ (by omega)];rfl
theorem Ki{l:aj}(h:OB l)(i:Nat):eE (dt (l.getD i aW)):=by
 by_cases hi:i<l.length
 ·rw[aub,auf hi];exact h _ (auT hi)
 ·rw[aub,auQ (by omega)];exact⟨by decide,by decide⟩
theorem zr{x:Int}(h:aB x):eE x:=by unfold aB at h;unfold eE;omega
theorem zs{ws:List Int}{x:Int}(h: ∀y∈ws,eE y)(hx:eE x): ∀y∈ws++[x],eE y:=fun y hy=>by
 rcases aut.1 hy with hy|hy
 ·exact h y hy
 ·rw[auE.1 hy];exact hx
theorem OC(N:Nat){l:aj}:ZE N l=some l:=Fh N
theorem OD(N:Nat)(hN:2000000≤N)(K:bw.BU){E out R:aj}(hq:OB E)(hl:E.length≤100000)(ho:out.length≤1000000)(r:cm)(hr:aB (dt r))(i:Nat)(hi:i≤1000000):
  bw.IA N K N (E.map gM) out r [cy (dt r)] R (R.length:Int) (i:Int) (E.map gM) ((E.map gM).length:Int) 0=
   if aB (dt r+cV r.1 r.2.1 E)then K (E.map gM) (if dt r+cV r.1 r.2.1 E=0 then out else out++[(r.1,(r.2.1,(dt r+cV r.1 r.2.1 E,())))]) R (R.length:Int) ((i+1:Nat):Int)else some (br,(2:Int)):=by
 have:=qo E aW (fun n j ws=>bw.IA N K n (E.map gM) out r (ws.map cy) R (R.length:Int) (i:Int) (E.map gM) ((E.map gM).length:Int) j)
  (fun t ws=>if aB (ws++dB r.1 r.2.1 t).sum then K (E.map gM) (if(ws++dB r.1 r.2.1 t).sum=0 then out else out++[(r.1,(r.2.1,((ws++dB r.1 r.2.1 t).sum,())))]) R (R.length:Int) ((i+1:Nat):Int)else some (br,(2:Int)))
  (fun j (ws:List Int)=>ws.length≤j+1∧ ∀x∈ws,eE x)
  (fun n j ws hj hI dT=> ?_) (fun n ws hI=> ?_) E.length N 0 [dt r] (by omega) (by omega) (by omega) ⟨aul _,fun x hx=>by rw[auE.1 hx];exact zr hr⟩
 ·rw[show((0:Nat):Int)=0 from rfl,auG]at this
  refine this.trans ?_
  have e:([dt r]++dB r.1 r.2.1 E).sum=dt r+cV r.1 r.2.1 E:=by rw[aw2,auO];rfl
  rw[e]
 ·unfold bw.IA bw.Fk
  rw[aC (by rw[auH];omega),aua,aI (by omega) (by rw[auH];omega),aua,aue,Dd,bs (by rw[auH,aud];omega),aua,an (x:=(j:Int)+1) (by omega) (by omega),aa j,aG,aG]
  by_cases h1:(E.getD j aW).1=r.1
  ·by_cases h2:(E.getD j aW).2.1=r.2.1
   ·have hc:dB r.1 r.2.1 (E.getD j aW::E.drop (j+1))=dt (E.getD j aW)::dB r.1 r.2.1 (E.drop (j+1)):=by rw[gv,auh ⟨h1,h2⟩]
    rw[auh (show(gM (E.getD j aW)).1=r.1 from h1),auh (show(gM (E.getD j aW)).2.1=r.2.1 from h2),hc]
    have:=dT (ws++[dt (E.getD j aW)]) ⟨by rw[aug,aud];omega,zs hI.2 (Ki hq j)⟩
    rw[auV]at this
    refine this.trans ?_
    rw[aur];rfl
   ·have hc:dB r.1 r.2.1 (E.getD j aW::E.drop (j+1))=dB r.1 r.2.1 (E.drop (j+1)):=by rw[gv,aui (fun h=>h2 h.2)]
    rw[auh (show(gM (E.getD j aW)).1=r.1 from h1),aui (show ¬(gM (E.getD j aW)).2.1=r.2.1 from h2),hc]
    exact dT ws ⟨by omega,hI.2⟩
  ·have hc:dB r.1 r.2.1 (E.getD j aW::E.drop (j+1))=dB r.1 r.2.1 (E.drop (j+1)):=by rw[gv,aui (fun h=>h1 h.1)]
   rw[aui (show ¬(gM (E.getD j aW)).1=r.1 from h1),hc]
   exact dT ws ⟨by omega,hI.2⟩
 ·unfold bw.IA bw.Fk
  rw[az (by rw[auH];omega),auc,C3 N hI.2 (by omega) (by omega),at7]
  show _=if aB (ws++[]).sum then K (E.map gM) (if(ws++[]).sum=0 then out else out++[(r.1,(r.2.1,((ws++[]).sum,())))]) R (R.length:Int) ((i+1:Nat):Int)else some (br,(2:Int))
  rw[auJ]
  unfold Il
  by_cases h0:eE ws.sum
  ·rw[auh h0]
   dsimp only
   rw[zq N h0,at7,auq,auc]
   by_cases h1:aB ws.sum
   ·rw[Db h1]
    dsimp only
    rw[auq,auc,cond_not,aG,bs (by rw[aud];omega),aua,an (x:=(i:Int)+1) (by omega) (by omega),aa i,auh h1]
    split<;>rfl
   ·rw[Dc h1,aui h1]
    rfl
  ·rw[aui h0,aui (fun h=>h0 (zr h))]
   have e:C2 N ch=some (xt 0):=zq N (v:=0) ⟨by decide,by decide⟩
   dsimp only
   rw[e,at7]
   rfl
theorem LN(N:Nat)(hN:2000000≤N){l E R:aj}(hq:OB E)(hl:E.length≤100000)(hR:R.length≤200000)(hv: ∀r∈R,aB (dt r)∧dt r=cV r.1 r.2.1 l):
  bw.R7 N N (E.map gM) [] R (R.length:Int) 0=pH (jz aB (fS l E) (R.map keyOf)):=by
 have:=qo R aW (fun n i out=>bw.R7 N n (E.map gM) out R (R.length:Int) i) (fun t out=>pH ((jz aB (fS l E) (t.map keyOf)).map (fun o=>out++o))) (fun i (out:aj)=>out.length≤i)
  (fun n i out hi hI hr=> ?_) (fun n out hI=> ?_) R.length N 0 [] (by omega) (by omega) (by omega) (aul _)
 ·rw[show((0:Nat):Int)=0 from rfl,auG]at this
  refine this.trans ?_
  simp
 ·unfold bw.R7 bw.R8
  have hm:R.getD i aW∈R:=by
   rw[aub,auf hi];exact auT hi
  have Nh:=hv _ hm
  have ux:=Nh.1
  have gq:=ux
  unfold aB dt at gq
  rw[aC (by omega),aua,aI (by omega) (by omega),aua,aue,vy N gq.1 gq.2,at7]
  refine(OD N hN _ hq hl (by omega) _ ux i (by omega)).trans ?_
  rw[auI,oP]
  have ef:fS l E (keyOf (R.getD i aW)).1 (keyOf (R.getD i aW)).2=dt (R.getD i aW)+cV (R.getD i aW).1 (R.getD i aW).2.1 E:=by
   show cV _ _ l+cV _ _ E=_
   rw[Nh.2];rfl
  rw[ef]
  generalize hS:dt (R.getD i aW)+cV (R.getD i aW).1 (R.getD i aW).2.1 E=v
  by_cases hF:aB v
  ·rw[auh hF,auh hF,hr _ (by
    split
    ·omega
    ·rw[aug,aud];omega)]
   cases jz aB (fS l E) ((R.drop (i+1)).map keyOf)with
   |none=>rfl
   |some o=>
    show pH (some _)=pH (some _)
    congr 2
    split
    ·rfl
    ·exact aur _ _ _
  ·rw[aui hF,aui hF];rfl
 ·unfold bw.R7 bw.R8
  rw[az (by omega),auc,OC,at7]
  show _=pH (some (out++[]))
  rw[auJ];rfl
theorem XM(N:Nat)(C:bw.iT){l:aj}{E S:cH}{K:List cX}(hs:vG K)(hl:K.length≤100000)(hf: ∀k∈K,uD k)(x:pK)(k:cX)(hxk:(x.1,x.2.1)=k)(hx:uD k)(hz:zeroAt l K k)(len:Int)(i:Nat)(hi:i≤1000000):
  ∀(m n p:Nat),K.length-p≤m→m<n→p≤K.length→(∀y∈K.take p,qu y k)→
   bw.LO N C n E (rowsOf l K) x (p:Int) S len (i:Int)=C E (rowsOf l (K.take p++q9 k (K.drop p))) S len ((i+1:Nat):Int)
 |m,0,p,_,hn,_,_=>by omega
 |m,n+1,p,hm,hn,hp,hb=>by
  unfold bw.LO bw.IB bw.MQ bw.Ih
  rw[cP,an (x:=(i:Int)+1) (by omega) (by omega),aa i]
  have ex:((x.1,(x.2.1,((0:Int),()))):cm)=(k.1,(k.2,((0:Int),()))):=by rw[←hxk]
  by_cases h:p<K.length
  ·have hfk:=hf (K.getD p (0,0)) (by rw[aub,auf h];exact auT h)
   have ho:Iq N x.1 x.2.1 ((rowsOf l K).getD p aW)=some (vz k.1 k.2 (K.getD p (0,0)).1 (K.getD p (0,0)).2):=by
    rw[BQ l h]
    rw[←hxk]at hx ⊢
    exact zf N hx.1 hx.2 hfk.1 hfk.2
   rw[aC (by omega),aua,aI (by omega) (by omega),aua,aue,ho,at7,cf (x:=(p:Int)) (by omega),auc,aua,at7,ck,cond_not,aG,Kg h]
   by_cases h1:qu (K.getD p (0,0)) k
   ·rw[auh (uC.2 h1),auh h1,an (x:=(p:Int)+1) (by omega) (by omega),aa p,uE h]
    refine XM N C hs hl hf x k hxk hx hz len i hi (m-1) n (p+1) (by omega) (by omega) (by omega) fun y hy=> ?_
    rw[←awh h]at hy
    rcases aut.1 hy with hy|hy
    ·exact hb y hy
    ·rw[aub,auf h]at h1
     rw[auE.1 hy];exact h1
   ·rw[aui (fun h=>h1 (uC.1 h)),aui h1]
    by_cases h2:K.getD p (0,0)=k
    ·rw[auh (rQ.2 h2),auh h2,auR]
    ·rw[aui (fun h=>h2 (rQ.1 h)),aui h2,yd N (by rw[cP];omega) (by rw[cP];omega),at7]
     have Ay:=hz (pJ hs hb (Kh hs h h1 h2))
     have e:=pI l K p k
     rw[←rR Ay]at e
     refine Eq.trans ?_ (avH (fun R=>C E R S len ((i+1:Nat):Int)) e)
     exact avH (fun z:cm=>C E ((rowsOf l K).take p++z::(rowsOf l K).drop p) S len ((i+1:Nat):Int)) ex
  ·have hd:K.drop p=[]:=avI (by omega)
   rw[az (by omega),auc,bW (by omega),aua,yd N (by rw[cP];omega) (by rw[cP];omega),at7]
   have Ay:=hz (pJ hs hb (by rw[hd];exact fun x hx=>nomatch hx))
   have e:=pI l K p k
   rw[←rR Ay]at e
   have e2:q9 k (K.drop p)=k::K.drop p:=by rw[hd];rfl
   rw[e2]
   refine Eq.trans ?_ (avH (fun R=>C E R S len ((i+1:Nat):Int)) e)
   exact avH (fun z:cm=>C E ((rowsOf l K).take p++z::(rowsOf l K).drop p) S len ((i+1:Nat):Int)) ex
theorem LP(N:Nat)(hN:2000000≤N){l E:aj}(hq:OB E)(hE:E.length≤400)(hp: ∀x∈E,uD (keyOf x))(hs:vG (l.map keyOf))(hl:l.length≤90000)(ZD:eR l)(Oz: ∀x∈l,uD (keyOf x)):
  bw.sx N N (E.map gM) l (E.map gM) ((E.map gM).length:Int) 0=pH (jz aB (fS l E) (jA (l.map keyOf) E)):=by
 have:=qo E aW (fun n i K=>bw.sx N n (E.map gM) (rowsOf l K) (E.map gM) ((E.map gM).length:Int) i) (fun t K=>pH (jz aB (fS l E) (jA K t)))
  (fun i (K:List cX)=>K.length≤l.length+i∧vG K∧(∀k∈K,uD k)∧ ∀x∈l,keyOf x∈K)
  (fun n i K hi hI hr=> ?_) (fun n K hI=> ?_) E.length N 0 (l.map keyOf) (by omega) (by omega) (by omega) ⟨by rw[auH];omega,hs,fun k hk=>by
   obtain⟨x,hx,rfl⟩:=auW.1 hk
   exact Oz x hx,fun x hx=>au8 hx⟩
 ·rw[show((0:Nat):Int)=0 from rfl,auG]at this
  simp only[nT hs]at this
  exact this
 ·unfold bw.sx bw.q5
  obtain⟨h1,h2,h3,h4⟩:=hI
  have hm:E.getD i aW∈E:=by
   rw[aub,auf hi];exact auT hi
  rw[aC (by rw[auH];omega),aua,aI (by omega) (by rw[auH];omega),aua,aue,Dd]
  refine(XM N _ h2 (by omega) h3 (gM (E.getD i aW)) (keyOf (E.getD i aW)) rfl (hp _ hm) (fun hk=>fi fun hx=>hk (by
   obtain⟨x,hx,e⟩:=auW.1 hx
   rw[←e];exact h4 x hx)) ((E.map gM).length:Int) i (by omega) K.length N 0 (by omega) (by omega) (by omega) (fun y hy=>nomatch hy)).trans ?_
  rw[avD,auK,auG,nS]
  refine hr (q9 (keyOf (E.getD i aW)) K) ⟨auX (zp _ K) (by omega),uB h2,fun k hk=>(mK.1 hk).elim (fun e=>e▸hp _ hm) (h3 k),fun x hx=>mK.2 (Or.inr (h4 x hx))⟩
 ·unfold bw.sx bw.q5
  obtain⟨h1,h2,h3,h4⟩:=hI
  rw[az (by rw[auH];omega),auc,cP,bq (by omega) (by omega) (by omega),aua]
  have:=LN N hN (l:=l) (R:=rowsOf l K) hq (by omega) (by rw[cP];omega) (fun r hr=>by
   unfold rowsOf at hr
   obtain⟨k,hk,rfl⟩:=auW.1 hr
   refine⟨?_,rfl⟩
   show aB (cV k.1 k.2 l)
   by_cases XL:k∈l.map keyOf
   ·have e:rowsOf l (l.map keyOf)=l:=nT hs
    have hm:Fi l k∈rowsOf l (l.map keyOf):=au8 XL
    rw[e]at hm
    exact ZD (Fi l k) hm
   ·rw[fi XL];exact⟨by decide,by decide⟩)
  rw[wU,cP]at this
  exact this
theorem zt{l:aj}(h:fO l=true):vG (l.map keyOf)∧(∀x∈l,fV x.1 x.2.1):=by
 unfold fO at h
 rw[awg]at h
 have h':=auw h
 have get: ∀(i:Nat) (hi:i<l.length),l.getD i aW=l[i]:=fun i hi=>by rw[aub,auf hi];rfl
 have OA: ∀i,i+1<l.length→qu (keyOf (l.getD i aW)) (keyOf (l.getD (i+1) aW)):=fun i hi=>(h' (i+1) hi).2.2 (by omega)
 have dz: ∀j,j<l.length→ ∀i,i<j→qu (keyOf (l.getD i aW)) (keyOf (l.getD j aW)):=by
  intro j
  induction j with
  |zero=>intro _ i hi;omega
  |succ j ih=>
   intro hj i hi
   by_cases e:i=j
   ·rw[e];exact OA j hj
   ·exact rP (ih (by omega) i (by omega)) (OA j hj)
 refine⟨?_,fun x hx=> ?_⟩
 ·refine awY.2 (awb.2 fun i j hi hj np=> ?_)
  have:=dz j hj i np
  rw[get i hi,get j hj]at this
  exact this
 ·obtain⟨i,hi,e⟩:=avq hx
  have:=h' i hi
  unfold ig iH at this
  rw[get i hi,e]at this
  exact this.1
structure OE(E:aj):Prop where
 key: ∀x∈E,fV x.1 x.2.1
 q:OB E
 len:E.length≤400
 zero:(E.map dt).sum=0
theorem Kj{x:cm}(h:fV x.1 x.2.1):uD (keyOf x):=by
 have h':fV (keyOf x).1 (keyOf x).2:=h
 unfold fV at h'
 unfold uD A5
 omega
theorem OF(N:Nat)(hN:2000000≤N){l E:aj}(hk:fO l=true)(hl:l.length≤90000)(ZD:eR l)(g:OE E):bw N l (E.map gM)=pH (jz aB (fS l E) (jA (l.map keyOf) E)):=by
 obtain⟨hs,Oz⟩:=zt hk
 have hE:=g.len
 unfold bw bw.b
 rw[C4 N (by omega) (by omega),hk,at7,auq,auc,az (by rw[auH];omega),auc,bq (by omega) (by omega) (by rw[auH];omega),aua]
 have:=qo E aW (fun n i (ws:List Int)=>bw.l5 N n l (E.map gM) (ws.map cy) (E.map gM) ((E.map gM).length:Int) i)
  (fun t ws=>if(ws++t.map dt).sum=0 then pH (jz aB (fS l E) (jA (l.map keyOf) E))else none)
  (fun j (ws:List Int)=>ws.length≤j∧(ws++(E.drop j).map dt).sum=0∧ ∀x∈ws,eE x)
  (fun n i ws hi hI hr=> ?_) (fun n ws hI=> ?_) E.length N 0 [] (by omega) (by omega) (by omega) ⟨aul _,g.zero,fun x hx=>nomatch hx⟩
 ·rw[show((0:Nat):Int)=0 from rfl,auG]at this
  refine Eq.trans this ?_
  rw[auK,auh g.zero]
 ·unfold bw.l5 bw.du
  have hm:E.getD i aW∈E:=by
   rw[aub,auf hi];exact auT hi
  have Rm:Io N (gM (E.getD i aW)).1 (gM (E.getD i aW)).2.1=some true:=by
   rw[Im]
   exact avH some (auv (g.key _ hm))
  rw[aC (by rw[auH];omega),aua,aI (by omega) (by rw[auH];omega),aua,aue,Dd,Rm,at7,auq,auc,bs (by rw[auH,aud];omega),aua,an (x:=(i:Int)+1) (by omega) (by omega),aa i]
  have h0:=hI.2.1
  rw[drop_cons hi aW,auI]at h0
  have:=hr (ws++[dt (E.getD i aW)]) ⟨by rw[aug,aud];omega,by rw[aur];exact h0,zs hI.2.2 (Ki g.q i)⟩
  rw[auV]at this
  refine this.trans ?_
  rw[aur];rfl
 ·unfold bw.l5 bw.du
  have h0:=hI.2.1
  rw[awm,avS,auJ]at h0
  rw[az (by rw[auH];omega),auc,C3 N hI.2.2 (by omega) (by omega),at7,h0]
  have e0:Il 0=(cy 0,true):=by unfold Il;exact auh ⟨by decide,by decide⟩
  rw[e0]
  dsimp only
  rw[auq,auc,uw,at7,show qU 0=0 from rfl,bW rfl,auq,auc,ra N (by omega),at7]
  rw[avS,auJ,auh h0]
  exact LP N hN g.q hE (fun x hx=>Kj (g.key x hx)) hs hl ZD (fun x hx=>Kj (Oz x hx))
end VM
end
section
namespace VM
open Go VM.F
def OG:List cX:=BT 25 1 7
theorem OH{l E:aj}(hk:fO l=true)(hp: ∀x∈E,fV x.1 x.2.1):jz aB (fS l E) (jA (l.map keyOf) E)=jz aB (fS l E) OG:=by
 obtain⟨hs,Oz⟩:=zt hk
 refine Fg ⟨by decide,by decide⟩ (td hs) (vH 25 7 1) (fun k hk=> ?_) (fun k hk hn=> ?_)
 ·have:fV k.1 k.2:=by
   rcases iJ.1 hk with h|⟨x,hx,rfl⟩
   ·obtain⟨x,hx,rfl⟩:=auW.1 h
    exact Oz x hx
   ·exact hp x hx
  unfold fV at this
  exact rS.2 (by omega)
 ·have h1:k∉l.map keyOf:=fun h=>hn (iJ.2 (Or.inl h))
  have h2:k∉E.map keyOf:=fun h=>by
   obtain⟨x,hx,e⟩:=auW.1 h
   exact hn (iJ.2 (Or.inr ⟨x,hx,e⟩))
  unfold fS
  rw[fi h1,fi h2];rfl
def ye(b:ah)(s e:aj):ah×Int:=
 match jz Fq (fS b.2.2.2.1 s) Iz with
 |none=>((bN,(cL,(br,(br,(c5,(de,())))))),2)
 |some s'=>match jz aB (fS b.2.2.1 e) OG with
  |none=>((bN,(cL,(br,(br,(c5,(de,())))))),2)
  |some r'=>((b.1,(b.2.1,(r',(s',b.2.2.2.2)))),0)
theorem OI(N:Nat){b:ah}(w:q6 b):R9 N b=some b:=by
 unfold R9
 have h1:=w.m;have h2:=w.a;have h3:=w.r;have h4:=w.s;have h5:=w.p;have h6:=w.o
 rw[ra N (by omega),at7,ra N (by omega),at7,ra N (by omega),at7,ra N (by omega),at7,ra N (by omega),at7,ra N (by omega),at7]
end VM
end
section
namespace VM
open Go VM.F
theorem OJ(N:Nat)(hN:2000000≤N){b:ah}{s e:aj}(w:q6 b)(hr:fO b.2.2.1=true)(hs:cG b.2.2.2.1=true)(lr:b.2.2.1.length≤90000)(ls:b.2.2.2.1.length≤90000)(gs:Oy s)(ge:OE e):
  F65 N b s (e.map gM)=some (ye b s e):=by
 unfold F65 ye
 rw[OI N w,at7,R6 N hN hs ls w.qs gs,OF N hN hr lr w.qr ge,LM hs gs.place,OH hr ge.key]
 unfold pH
 rw[at7,at7]
 have e1:ay 2 0=false:=cf (by omega)
 have e2:ay 0 0=true:=bW rfl
 cases jz Fq (fS b.2.2.2.1 s) Iz with
 |none=>dsimp only;rw[e1];rfl
 |some s'=>
  cases jz aB (fS b.2.2.1 e) OG with
  |none=>dsimp only;rw[e1,e2];rfl
  |some r'=>dsimp only;rw[e2];rfl
theorem Kk(N:Nat)(C:cY.bb){l:aF}(hl:l.length≤100000)(i:Nat)(hi:i<l.length): ∀(m n k:Nat),i-k≤m→m<n→k≤i→(l.take k).any (mH (l.getD i aO).2.2.1 (l.getD i aO).2.1)=false→
  cY.l9 N C n l (i:Int) (k:Int)=cond ((l.take i).any (mH (l.getD i aO).2.2.1 (l.getD i aO).2.1)) (some false) (C l ((i+1:Nat):Int))
 |m,0,k,_,hn,_,_=>by omega
 |m,n+1,k,hm,hn,hk,hb=>by
  unfold cY.l9 cY.vb
  by_cases h:k<i
  ·have s9:=Kk N C hl i hi (m-1) n (k+1) (by omega) (by omega) (by omega)
   have ht:(l.take (k+1)).any (mH (l.getD i aO).2.2.1 (l.getD i aO).2.1)=mH (l.getD i aO).2.2.1 (l.getD i aO).2.1 (l.getD k aO):=by
    have ek:l.getD k aO=l[k]'(by omega):=by rw[aub,auf (show k<l.length by omega)];rfl
    rw[←awh (show k<l.length by omega),List.any_append,hb,ek,List.any_cons,List.any_nil,awI,awH]
   have jP:mH (l.getD i aO).2.2.1 (l.getD i aO).2.1 (l.getD k aO)=true→(l.take i).any (mH (l.getD i aO).2.2.1 (l.getD i aO).2.1)=true:=fun hh=>by
    refine aw3.2 ⟨l.getD k aO,?_,hh⟩
    rw[aub,auf (show k<l.length by omega)]
    exact List.mem_take_iff_getElem.2 ⟨k,by omega,rfl⟩
   rw[aC (by omega),aua,aI (by omega) (by omega),aua,aI (by omega) (by omega),aua,aua,aua,aue,aue,aG,aG,an (x:=(k:Int)+1) (by omega) (by omega),aa k]
   by_cases h1:(l.getD k aO).2.2.1=(l.getD i aO).2.2.1
   ·by_cases h2:(l.getD k aO).2.1=(l.getD i aO).2.1
    ·rw[auh h1,auh h2,jP (by unfold mH eo;rw[auv h1,auv h2];rfl)];rfl
    ·rw[auh h1,aui h2]
     exact s9 (by rw[ht];unfold mH eo;rw[auB h2,axM])
   ·rw[aui h1]
    exact s9 (by rw[ht];unfold mH eo;rw[auB h1,awX])
  ·have:k=i:=by omega
   subst this
   rw[az (by omega),auc,hb,auc,an (x:=(k:Int)+1) (by omega) (by omega),aa k]
theorem rf(N:Nat){l:aF}(hl:l.length≤100000)(hN:200000≤N):cY N l=some (Ov l):=by
 unfold cY cY.b Ov
 by_cases h40:l.length≤40
 ·rw[az (by omega),auc,auv h40]
  refine eY (F:=fun n i=>cY.l4 N n l i) (uA l) (fun n i r hi hp hr=> ?_) (fun n=> ?_) N (by omega)
  ·unfold cY.l4 cY.cT cY.j8 cY.HH
   have jP:cY.l9 N (cY.l4 N n) N l (i:Int) 0=_:=Kk N (cY.l4 N n) hl i hi i N 0 (by omega) (by omega) (by omega) rfl
   rw[aC (by omega),aua,aI (by omega) (by omega),aua,aua,aue,Kd,at7,cond_not,ea,jP,hr]
   have hT:cond ((l.take i).any (mH (l.getD i aO).2.2.1 (l.getD i aO).2.1)) (some false) r=if(l.take i).any (mH (l.getD i aO).2.2.1 (l.getD i aO).2.1)=false then r else some false:=by
    cases(l.take i).any (mH (l.getD i aO).2.2.1 (l.getD i aO).2.1)<;>rfl
   rw[hT]
   by_cases hK:BN (l.getD i aO)
   ·rw[auh hK]
    have hD:(if uA l i then r else some false)=if oO i (l.getD (i-1) aO).1 (l.getD i aO).1 then(if(l.take i).any (mH (l.getD i aO).2.2.1 (l.getD i aO).2.1)=false then r else some false)else some false:=by
     by_cases h1:oO i (l.getD (i-1) aO).1 (l.getD i aO).1<;>by_cases h2:(l.take i).any (mH (l.getD i aO).2.2.1 (l.getD i aO).2.1)=false
     ·rw[auh h1,auh h2,auh ⟨hK,h1,h2⟩]
     ·rw[auh h1,aui h2,aui (fun h=>h2 h.2.2)]
     ·rw[aui h1,aui (fun h=>h1 h.2.1)]
     ·rw[aui h1,aui (fun h=>h1 h.2.1)]
    rw[hD]
    by_cases h0:0<i
    ·have e:W .i64 ((i:Int)-1)=((i-1:Nat):Int):=by rw[an (by omega) (by omega)];omega
     rw[aC (x:=0) (y:=(i:Int)) (by omega),aua,e]
     dsimp only
     rw[aue,aI (by omega) (by omega),aua,bO]
     by_cases h1:oO i (l.getD (i-1) aO).1 (l.getD i aO).1
     ·rw[auh h1,aui (by unfold oO at h1;omega)]
     ·rw[aui h1,auh (by unfold oO at h1;omega)]
    ·rw[az (x:=0) (y:=(i:Int)) (by omega),auc,auh (show oO i (l.getD (i-1) aO).1 (l.getD i aO).1 from fun h=>absurd h h0)]
   ·rw[aui hK,aui (fun h=>hK h.1)]
  ·unfold cY.l4 cY.cT
   rw[az (by omega),auc]
 ·rw[aC (by omega),aua,auB h40,axM]
end VM
end
section
namespace VM
open Go VM.F
def pL(s w p:Int):Prop:=((s=1∨s=3)∧w=0∧p=0)∨(s=2∧1≤w∧w≤12∧ -1152921504606846976≤p∧p≤1152921504606846976)
instance(s w p:Int):Decidable (pL s w p):=by unfold pL;infer_instance
def zu(a:Int):Prop:=1≤a∧a≤1099511627776
instance(a:Int):Decidable (zu a):=by unfold zu;infer_instance
def leI(a b:Int):Prop:=a≤b
instance(a b:Int):Decidable (leI a b):=by unfold leI;infer_instance
def yf(c:ae)(l:aX)(i:Nat):Prop:=
 zu (l.getD i ((0:Int),(bN,aO))).1∧oO i (l.getD (i-1) ((0:Int),(bN,aO))).1 (l.getD i ((0:Int),(bN,aO))).1∧ ¬eo ((l.getD i ((0:Int),(bN,aO))).2.1.length:Int) 0∧C9 c (l.getD i ((0:Int),(bN,aO))).2.1=true∧leI (l.getD i ((0:Int),(bN,aO))).2.2.1 0∧pL (l.getD i ((0:Int),(bN,aO))).2.2.2.1 (l.getD i ((0:Int),(bN,aO))).2.2.2.2.1 (l.getD i ((0:Int),(bN,aO))).2.2.2.2.2.1
instance(c:ae)(l:aX):DecidablePred (yf c l):=fun i=>by unfold yf;infer_instance
def IC(c:ae)(l:aX):Bool:=fm c&&(decide (l.length≤12)&&(decide (∀j,j<l.length→yf c l j)&&true))
def Fl(l:aX):Prop:= ∀x∈l,x.2.1.length≤100000
theorem ID{l:aX}(h:Fl l)(i:Nat):(l.getD i ((0:Int),(bN,aO))).2.1.length≤100000:=by
 by_cases hi:i<l.length
 ·rw[aub,auf hi];exact h _ (auT hi)
 ·rw[aub,auQ (by omega)];exact au3 _
theorem Sa(s w p:Int)(r:Option Bool):
  cond (ay s 1) (cond (!ay w 0) (some false) (cond (!ay p 0) (some false) r)) (cond (ay s 3) (cond (!ay w 0) (some false) (cond (!ay p 0) (some false) r)) (cond (ay s 2) (cond (aH w 1) (some false) (cond (aH 12 w) (some false) (cond (aH p (-1152921504606846976)) (some false) (cond (aH 1152921504606846976 p) (some false) r)))) (some false)))=
   if pL s w p then r else some false:=by
 simp only[cond_not,aG,ck]
 by_cases h:pL s w p
 ·rw[auh h];unfold pL at h
  repeat' split
  all_goals first|rfl|omega
 ·rw[aui h];unfold pL at h
  repeat' split
  all_goals first|rfl|omega
theorem LR{A B C D E F:Prop} [Decidable A] [Decidable B] [Decidable C] [Decidable D] [Decidable E] [Decidable F](r:Option Bool):
  (if A then(if B then(if C then(if D then(if E then(if F then r else some false)else some false)else some false)else some false)else some false)else some false)=if A∧B∧C∧D∧E∧F then r else some false:=by
 by_cases hA:A<;>by_cases hB:B<;>by_cases hC:C<;>by_cases hD:D<;>by_cases hE:E<;>by_cases hF:F<;>simp only[hA,hB,hC,hD,hE,hF,awt,avQ,and_self,avB,and_false,false_and,true_and]
theorem OK{a b n f s w p:Int}{i:Nat}{o:Bool}{r:Option Bool}:
  cond (aH a 1) (some false) (cond (aH 1099511627776 a) (some false) (if oO i b a then(cond (ay n 0) (some false) (cond (!o) (some false) (cond (aH 0 f) (some false) (if pL s w p then r else some false))))else some false))=
   if zu a∧oO i b a∧ ¬eo n 0∧o=true∧leI f 0∧pL s w p then r else some false:=by
 rw[←LR]
 simp only[cond_not,aG,ck]
 by_cases h1:zu a
 ·have lE:=h1
  unfold zu at lE
  rw[auh h1,aui (by omega),aui (by omega)]
  by_cases h2:oO i b a
  ·rw[auh h2,auh h2]
   by_cases h3:n=0
   ·rw[auh h3,aui (show ¬ ¬eo n 0 from fun h=>h h3)]
   ·rw[aui h3,auh (show ¬eo n 0 from h3)]
    cases o
    ·rfl
    ·rw[aua,auh rfl]
     by_cases h4:f≤0
     ·rw[auh (show leI f 0 from h4),aui (by omega)]
     ·rw[aui (show ¬leI f 0 from h4),auh (by omega)]
  ·rw[aui h2,aui h2]
 ·have lE:=h1
  unfold zu at lE
  rw[aui h1]
  by_cases h2:a<1
  ·rw[auh h2]
  ·rw[aui h2,auh (by omega)]
theorem OL{i:Nat}{a b:Int}{r:Option Bool}(h0:0<i):cond (bR a b) (some false) r=if oO i b a then r else some false:=by
 rw[bO]
 by_cases h1:oO i b a
 ·rw[auh h1,aui (by unfold oO at h1;omega)]
 ·rw[aui h1,auh (by unfold oO at h1;omega)]
theorem zv(N:Nat)(hN:200000≤N)(c:ae){l:aX}(hl:l.length≤100000)(hw:Fl l):ff N c l=some (IC c l):=by
 unfold ff ff.b IC
 rw[mF N (by omega),at7]
 cases fm c
 ·rfl
 rw[auq,auc,av3]
 by_cases h12:l.length≤12
 ·rw[az (by omega),auc,auv h12,av3]
  refine eY (F:=fun n i=>ff.l4 N n l c i) (yf c l) (fun n i r hi hp hr=> ?_) (fun n=> ?_) N (by omega)
  ·unfold ff.l4 ff.cT ff.j9 ff.Ik
   rw[aC (by omega),aua,aI (by omega) (by omega),aua,aue,uz N hN c (ID hw i),at7,an (x:=(i:Int)+1) (by omega) (by omega),aa i,hr,Sa]
   refine Eq.trans ?_ OK
   by_cases h0:0<i
   ·have e:W .i64 ((i:Int)-1)=((i-1:Nat):Int):=by rw[an (by omega) (by omega)];omega
    rw[aC (x:=0) (y:=(i:Int)) (by omega),aua,e]
    dsimp only
    rw[aue,aI (by omega) (by omega),aua,OL h0]
   ·rw[az (x:=0) (y:=(i:Int)) (by omega),auc,auh (show oO i (l.getD (i-1) ((0:Int),(bN,aO))).1 (l.getD i ((0:Int),(bN,aO))).1 from fun h=>absurd h h0)]
  ·unfold ff.l4 ff.cT
   rw[az (by omega),auc]
 ·rw[aC (by omega),aua,auB h12,awX]
end VM
end
section
namespace VM
open Go VM.F
abbrev AwS:=aj×aj×aX
structure XN(z:AwS)(i:Nat):Prop where
 place: ∀x∈z.1,bT x.1 x.2.1
 q: ∀x∈z.1,aB (dt x)∧nQ (dt x)
 len:z.1.length≤12*i
 flat: ∀a:Int,(cO a z.1).sum=0
 key: ∀x∈z.2.1,fV x.1 x.2.1
 qe: ∀x∈z.2.1,aB (dt x)
 arD:z.2.1.length≤2*i
 zero:(z.2.1.map dt).sum=0
 out:z.2.2.length=i
theorem A9(a:Int)(l m:aj):cO a (l++m)=cO a l++cO a m:=by
 induction l with
 |nil=>rfl
 |cons x t ih=>
  rw[avz,dU,dU,ih]
  split<;>rfl
theorem akq{v:Int}(h:aB v∧nQ v):aB (0-v)∧nQ (0-v):=by
 unfold aB nQ at*;omega
theorem XN.nil:XN ([],[],[]) 0:=⟨fun x hx=>(nomatch hx),fun x hx=>(nomatch hx),aul _,fun a=>rfl,fun x hx=>(nomatch hx),fun x hx=>(nomatch hx),aul _,rfl,rfl⟩
end VM
end
section
namespace VM
open Go VM.F
theorem jC{c:ae}{b:ah}(h:dn c b=true):fO b.2.2.1=true∧cG b.2.2.2.1=true:=by
 unfold dn at h
 have h1:=(auF.1 (auF.1 h).2).2
 have h2:=auF.1 h1
 have h3:=(auF.1 (auF.1 h2.2).2).1
 refine⟨h2.1,?_⟩
 unfold pF at h3
 exact(auF.1 h3).2
structure De(b:ah):Prop where
 w:q6 b
 r:b.2.2.1.length≤90000
 s:b.2.2.2.1.length≤90000
end VM
end
section
namespace VM
open Go VM.F
end VM
end
section
namespace VM
open Go VM.F
theorem oQ(x:Int):ay x x=true:=bW rfl
theorem ZF(x:Oh):lR (.pair (.int .i64) (.pair (.int .i64) .unit)) x x=true:=by
 show(ay x.1 x.1&&(ay x.2.1 x.2.1&&true))=true
 rw[oQ,oQ];rfl
theorem IE(x:cm):lR (.pair (.int .i64) (.pair (.int .i64) (.pair (.int .i64) .unit))) x x=true:=by
 show(ay x.1 x.1&&lR (.pair (.int .i64) (.pair (.int .i64) .unit)) x.2 x.2)=true
 rw[oQ,ZF];rfl
theorem vI{F:Nat→Int→Option Bool}{len:Nat}(hs: ∀n (i:Nat),i<len→F n ((i+1:Nat):Int)=some true→F (n+1) (i:Int)=some true)(he: ∀n,F (n+1) (len:Int)=some true): ∀(m n i:Nat),len-i≤m→m<n→i≤len→F n (i:Int)=some true
 |m,0,i,_,hn,_=>by omega
 |m,n+1,i,hm,hn,hi=>by
  by_cases h:i<len
  ·exact hs n i h (vI hs he (m-1) n (i+1) (by omega) (by omega) (by omega))
  ·have:i=len:=by omega
   subst this;exact he n
theorem LS(N:Nat){l:aj}(hl:l.length≤100000)(hN:200000≤N):vJ N l l=some true:=by
 unfold vJ vJ.b
 rw[oQ,auq,auc]
 refine vI (F:=fun n i=>vJ.l4 N n l l i) (len:=l.length) (fun n i hi hr=> ?_) (fun n=> ?_) l.length N 0 (by omega) (by omega) (by omega)
 ·unfold vJ.l4 vJ.cT
  rw[aC (by omega),aua,aI (by omega) (by omega),aua,aua,IE,auq,auc,an (x:=(i:Int)+1) (by omega) (by omega),aa i]
  exact hr
 ·unfold vJ.l4 vJ.cT
  rw[az (by omega),auc]
end VM
end
section
namespace VM
open Go VM.F Go.RowKit
def eh(a b:Int):aj→Int
 |[]=>0
 |x::t=>if x.1=a then(if x.2.1=b then x.2.2.1 else eh a b t)else eh a b t
theorem fp(a b:Int)(x:cm)(t:aj):eh a b (x::t)=if x.1=a then(if x.2.1=b then x.2.2.1 else eh a b t)else eh a b t:=rfl
def aT(l:aj)(a b:Int):Int:=if cG l then eh a b l else 0
def Kl(l:aj)(a b:Int):Int:=if fO l then eh a b l else 0
theorem uG(N:Nat){l:aj}(hl:l.length≤100000)(hN:200000≤N)(a b:Int):uH N l a b=some (aT l a b):=by
 unfold uH uH.b aT
 rw[lX N hl hN,at7,cond_not]
 have:=ui l aW (fun n i=>uH.l4 N n l a b i) (fun t=>some (eh a b t)) (fun n i hi hr=> ?_) (fun n=> ?_) N (by omega)
 ·rw[this];cases cG l<;>rfl
 ·unfold uH.l4 uH.cT
  rw[aC (by omega),aua,aI (by omega) (by omega),aua,aua,aua,aue,an (x:=(i:Int)+1) (by omega) (by omega),aa i,hr,aG,aG,fp]
  split
  ·split<;>rfl
  ·rfl
 ·unfold uH.l4 uH.cT
  rw[az (by omega),auc];rfl
theorem ZG(N:Nat){l:aj}(hl:l.length≤100000)(hN:200000≤N)(a b:Int):qv N l a b=some (Kl l a b):=by
 unfold qv qv.b Kl
 rw[zg N hl hN,at7,cond_not]
 have:=ui l aW (fun n i=>qv.l4 N n l a b i) (fun t=>some (eh a b t)) (fun n i hi hr=> ?_) (fun n=> ?_) N (by omega)
 ·rw[this];cases fO l<;>rfl
 ·unfold qv.l4 qv.cT
  rw[aC (by omega),aua,aI (by omega) (by omega),aua,aua,aua,aue,an (x:=(i:Int)+1) (by omega) (by omega),aa i,hr,aG,aG,fp]
  split
  ·split<;>rfl
  ·rfl
 ·unfold qv.l4 qv.cT
  rw[az (by omega),auc];rfl
theorem Sb{l:aj}(h: ∀i,i<l.length→aB (dt (l.getD i aW))):eR l:=fun x hx=>by
 obtain⟨i,hi,e⟩:=avq hx
 have:=h i hi
 rw[aub,auf hi]at this
 rw[←e];exact this
namespace Pure
end Pure
end VM
end
section
namespace VM
open Go VM.F
theorem zw{l:aj}(h:eR l)(a b:Int):aB (eh a b l):=by
 induction l with
 |nil=>show aB 0;decide
 |cons x t ih=>
  have ih:=ih (fun y hy=>h y (auk _ hy))
  rw[fp]
  split
  ·split
   ·exact h x (auo ..)
   ·exact ih
  ·exact ih
theorem OM{l:aj}(h:eR l)(a b:Int):aB (Kl l a b):=by
 unfold Kl
 split
 ·exact zw h a b
 ·exact⟨by decide,by decide⟩
def oc(a:Int):aj→ax
 |[]=>[]
 |x::t=>if x.1=a then(x.2.1,(x.2.2.1,()))::oc a t else oc a t
theorem ri(a:Int)(x:cm)(t:aj):oc a (x::t)=if x.1=a then(x.2.1,(x.2.2.1,()))::oc a t else oc a t:=rfl
def posOf(l:aj)(a:Int):ax:=if cG l then oc a l else []
theorem zx(a:Int): ∀l:aj,(oc a l).length≤l.length
 |[]=>aul _
 |x::t=>by
  have:=zx a t
  rw[ri,auj]
  split
  ·rw[auj];omega
  ·omega
theorem LV(a:Int)(l:aj):(posOf l a).length≤l.length:=by
 unfold posOf
 split
 ·exact zx a l
 ·exact au3 _
theorem pM{a:Int}{y:Oh}: ∀{l:aj},y∈oc a l→ ∃x∈l,x.1=a∧y=(x.2.1,(x.2.2.1,()))
 |[],h=>nomatch h
 |x::t,h=>by
  rw[ri]at h
  by_cases e:x.1=a
  ·rw[auh e]at h
   rcases auy.1 h with h|h
   ·exact⟨x,auo ..,e,h⟩
   ·obtain⟨x',hx,h'⟩:=pM h
    exact⟨x',auk _ hx,h'⟩
  ·rw[aui e]at h
   obtain⟨x',hx,h'⟩:=pM h
   exact⟨x',auk _ hx,h'⟩
theorem ON(N:Nat){l:aj}(hl:l.length≤100000)(hN:200000≤N)(a:Int):sL N l a=some (posOf l a):=by
 unfold sL sL.b posOf
 rw[lX N hl hN,at7,cond_not]
 have:=qo l aW (fun n i s=>sL.l5 N n l a s i) (fun t s=>some (s++oc a t)) (fun i (s:ax)=>s.length≤i) (fun n i s hi hI hr=> ?_) (fun n s hI=> ?_) l.length N 0 [] (by omega) (by omega) (by omega) (aul _)
 ·have e:sL.l5 N N l a [] 0=some (oc a l):=this
  rw[e];cases cG l<;>rfl
 ·unfold sL.l5 sL.du
  rw[aC (by omega),aua,aI (by omega) (by omega),aua,aua,aua,aue,an (x:=(i:Int)+1) (by omega) (by omega),aa i,aG,bs (by rw[aud];omega),aua,ri]
  split
  ·rw[hr _ (by rw[aug,aud];omega),aur];rfl
  ·exact hr s (by omega)
 ·unfold sL.l5 sL.du
  rw[az (by omega),auc]
  show some s=some (s++[])
  rw[auJ]
def Df(a n:Int):Prop:=0≤a∧a<n
end VM
end
section
namespace VM
open Go VM.F
end VM
end
section
namespace VM
open Go VM.F
def kA(p:Int):Prop:=1≤p∧p≤1000000000000
instance(p:Int):Decidable (kA p):=by unfold kA;infer_instance
theorem IF(N:Nat)(p:Int):xx N p=some (decide (kA p)):=(iS N p).trans (avH some (avR.2 Iff.rfl))
def jD(a b c d e:Int):Prop:=(0≤a∧a≤24)∧(0≤b∧b≤24)∧a≠b∧(0≤c∧c<6)∧(1≤d∧d≤1000000000)∧kA e
instance(a b c d e:Int):Decidable (jD a b c d e):=by unfold jD;infer_instance
def rT(t:uI):Prop:=jD t.1 t.2.1 t.2.2.1 t.2.2.2.1 t.2.2.2.2.1
instance:DecidablePred rT:=fun t=>by unfold rT;infer_instance
theorem Fm(a b c d e:Int):cond (bR 0 a) (cond (bR a 24) (cond (bR 0 b) (cond (bR b 24) (cond (!ay a b) (cond (bR 0 c) (cond (aH c 6) (cond (bR 1 d) (cond (bR d 1000000000) (some (decide (kA e))) (some false)) (some false)) (some false)) (some false)) (some false)) (some false)) (some false)) (some false)) (some false)=some (decide (jD a b c d e)):=by
 simp only[bO,cond_not,aG,ck]
 by_cases hP:jD a b c d e
 ·have hp:=hP.2.2.2.2.2
  rw[auv hP,auv hp]
  unfold jD at hP
  repeat' split
  all_goals first|rfl|omega
 ·rw[auB hP]
  by_cases hp:kA e
  ·unfold jD at hP
   repeat' split
   all_goals first|rfl|(exact absurd ⟨by omega,by omega,by omega,by omega,by omega,hp⟩ hP)
  ·rw[auB hp]
   repeat' split
   all_goals rfl
theorem BV(N:Nat)(t:uI):OO N t=some (decide (rT t)):=by
 unfold OO
 rw[IF,at7]
 exact Fm _ _ _ _ _
theorem im{c:ae}{b:ah}(h:dn c b=true):b.2.2.2.2.1.length=c.1.length∧gu b.2.2.2.2.1=true:=by
 unfold dn at h
 simp only[aus]at h
 have h1:=auw h.2.2.2.2.2.2.1
 unfold eo at h1
 exact⟨by omega,h.2.2.2.2.2.2.2.2.2.2⟩
end VM
end
section
namespace VM
open Go VM.F
theorem Fo{l:List Int}(h:gu l=true){i:Nat}(hi:i<l.length):kA (l.getD i 0):=auw h i hi
end VM
end
section
namespace VM
open Go VM.F
theorem pN{c:ae}{b:ah}(h:dn c b=true):fm c=true:=by
 unfold dn at h
 exact(auF.1 h).1
def jE(k:Int):Nat→aF→List Int
 |_,[]=>[]
 |i,x::t=>if x.1=k then(i:Int)::jE k (i+1) t else jE k (i+1) t
theorem uK(k:Int)(i:Nat)(x:bQ)(t:aF):jE k i (x::t)=if x.1=k then(i:Int)::jE k (i+1) t else jE k (i+1) t:=rfl
def e7(c:ae)(k:Int):List Int:=if fm c then jE k 0 c.1 else []
theorem IG(N:Nat)(hN:200000≤N)(c:ae)(hl:c.1.length≤100000)(k:Int):wV N c k=some (e7 c k):=by
 unfold wV wV.b e7
 rw[mF N (by omega),at7,cond_not]
 have:=qo c.1 aO (fun n i s=>wV.l5 N n k c s i) (fun t s=>some (s++jE k (c.1.length-t.length) t)) (fun i (s:List Int)=>s.length≤i) (fun n i s hi hI hr=> ?_) (fun n s hI=> ?_) c.1.length N 0 [] (by omega) (by omega) (by omega) (aul _)
 ·have e:wV.l5 N N k c [] 0=some (jE k 0 c.1):=by
   refine this.trans ?_
   rw[auG,axb];rfl
  rw[e];cases fm c<;>rfl
 ·unfold wV.l5 wV.du
  have e1:c.1.length-(c.1.getD i aO::c.1.drop (i+1)).length=i:=by rw[auj,auP];omega
  have e2:c.1.length-(c.1.drop (i+1)).length=i+1:=by rw[auP];omega
  rw[e2]at hr
  rw[aC (by omega),aua,aI (by omega) (by omega),aua,aue,an (x:=(i:Int)+1) (by omega) (by omega),aa i,aG,bs (by rw[aud];omega),aua,e1,uK]
  split
  ·rw[hr _ (by rw[aug,aud];omega),aur];rfl
  ·exact hr s (by omega)
 ·unfold wV.l5 wV.du
  rw[az (by omega),auc]
  show some s=some (s++[])
  rw[auJ]
theorem wW{c:ae}(h:fm c=true):c.1.length≤6∧ ∀i,i<c.1.length→0≤(c.1.getD i aO).1∧(c.1.getD i aO).1≤3:=by
 unfold fm at h
 simp only[aus]at h
 have h1:=auw h.1
 have h2:=auw h.2.1
 exact⟨h1.2,fun i hi=>(h2 i hi).1⟩
theorem OP{l:aj}(h:eR l)(a b:Int):aB (aT l a b):=by
 unfold aT
 cases cG l
 ·show aB 0;decide
 ·exact zw h a b
end VM
end
section
namespace VM
open Go VM.F
end VM
end
section
namespace VM
open Go VM.F
end VM
end
section
namespace VM
open Go VM.F
def rj(l:List Int)(k:Int):Int:=l.getD k.toNat 0
def ins(l:List Int):List Int→Int→List Int
 |[],i=>[i]
 |k::t,i=>if rj l i≤rj l k then k::ins l t i else i::k::t
def cv(l:List Int):Nat→List Int
 |0=>[]
 |n+1=>ins l (cv l n) n
def eM(l:List Int):List Int:=cv l l.length
def oR(l:List Int)(a b:Int):Prop:=rj l b<rj l a∨(rj l b=rj l a∧a<b)
theorem Km(l:List Int): ∀(o:List Int) (i:Int),(ins l o i).length=o.length+1
 |[],i=>rfl
 |k::t,i=>by unfold ins;split<;>simp[Km l t i]
theorem iU(l:List Int): ∀n,(cv l n).length=n
 |0=>rfl
 |n+1=>by unfold cv;rw[Km,iU l n]
theorem mL(l:List Int):(eM l).length=l.length:=iU l _
theorem Dg(l:List Int){x:Int}: ∀{o:List Int} {i:Int},x∈ins l o i↔x=i∨x∈o
 |[],i=>by simp[ins]
 |k::t,i=>by
  unfold ins;split
  ·rw[auy,Dg l,auy]
   exact⟨fun h=>h.elim (fun h=> .inr (.inl h)) (fun h=>h.elim .inl (fun h=> .inr (.inr h))),fun h=>h.elim (fun h=> .inr (.inl h)) (fun h=>h.elim .inl (fun h=> .inr (.inr h)))⟩
  ·rw[auy]
theorem nU(l:List Int){x:Int}: ∀{n:Nat},x∈cv l n↔0≤x∧x<n
 |0=>⟨(fun h=>nomatch h),fun h=>absurd h.1 (by omega)⟩
 |n+1=>by unfold cv;rw[Dg,nU l];omega
theorem uM(l:List Int): ∀{o:List Int} {i:Int},o.Pairwise (oR l)→(∀x∈o,x<i)→(ins l o i).Pairwise (oR l)
 |[],i,_,_=>List.pairwise_singleton _ _
 |k::t,i,h,hi=>by
  rw[au1]at h
  have hk:k<i:=hi k (auo ..)
  unfold ins;split
  ·rename_i hle
   rw[au1]
   refine⟨fun x hx=> ?_,uM l h.2 (fun x hx=>hi x (auk _ hx))⟩
   rcases(Dg l).1 hx with rfl|hx
   ·unfold oR;omega
   ·exact h.1 x hx
  ·rename_i hle
   rw[au1,au1]
   refine⟨fun x hx=> ?_,h.1,h.2⟩
   rcases auy.1 hx with rfl|hx
   ·unfold oR;omega
   ·have:=h.1 x hx;unfold oR at*;omega
theorem gN(l:List Int): ∀n,(cv l n).Pairwise (oR l)
 |0=>List.Pairwise.nil
 |n+1=>by unfold cv;exact uM l (gN l n) (fun x hx=>((nU l).1 hx).2)
theorem IH(l:List Int): ∀(o:List Int) (i:Int) (p:Nat),p≤o.length→(∀j,j<p→rj l i≤rj l (o.getD j 0))→(p<o.length→rj l (o.getD p 0)<rj l i)→ins l o i=o.take p++i::o.drop p
 |[],i,p,hp,_,_=>by simp at hp;subst hp;rfl
 |k::t,i,0,hp,_,h=>by
  unfold ins;rw[aui (by have:=h (by simp);simp at this;omega)];rfl
 |k::t,i,p+1,hp,h0,h=>by
  unfold ins
  have h1:rj l i≤rj l k:=h0 0 (by omega)
  rw[auh h1,IH l t i p (by simpa using hp) (fun j hj=>by have:=h0 (j+1) (by omega);simpa using this) (fun so=>by have:=h (by simpa using so);simpa using this)]
  rfl
theorem Ko(l:List Int)(f:Int→Int): ∀(o:List Int) (i:Int),((ins l o i).map f).sum=(o.map f).sum+f i
 |[],i=>by simp[ins]
 |k::t,i=>by
  unfold ins;split
  ·rw[auI,auO,Ko l f t i,auI,auO];omega
  ·simp only[auI,auO];omega
theorem wX(l r:List Int): ∀n,n≤r.length→((cv l n).map (rj r)).sum=(r.take n).sum
 |0,_=>rfl
 |n+1,h=>by
  unfold cv;rw[Ko,wX l r n (by omega),dx r (by omega)]
  unfold rj;rw[aue]
theorem II(l r:List Int)(h:l.length=r.length):((eM l).map (rj r)).sum=r.sum:=by
 unfold eM;rw[wX l r _ (by omega),auM (by omega)]
theorem uN{o:List Int}{j:Nat}(h:j<o.length):o.getD j 0∈o:=by
 rw[aub,auf h];exact auT h
theorem OQ{l o:List Int}(h:o.Pairwise (oR l)){j k:Nat}(hjk:j<k)(hk:k<o.length):oR l (o.getD j 0) (o.getD k 0):=by
 rw[awb]at h
 rw[aub,auf (by omega),aub,auf hk]
 exact h j k (by omega) hk hjk
theorem zy{l:List Int}{n j:Nat}(h:j<n):0≤(cv l n).getD j 0∧(cv l n).getD j 0<n:=by
 exact(nU l).1 (uN (by rw[iU];exact h))
theorem zz{α:Type}(N:Nat){l:List α}{i:Nat}{x:α}(hi:i≤l.length)(hl:l.length<1000000):gB N l (i:Int) [x]=some (l.take i++x::l.drop i):=by
 unfold gB
 rw[auh ⟨by omega,by omega,rfl,by unfold si;omega⟩]
 rfl
theorem Fp(N:Nat)(K:List Int→List Int→Int→Int→Option (List Int)){l:List Int}(hl:l.length≤100000)(i:Nat)(hi:i<l.length): ∀(p n:Nat),p≤i→p<n→(∀j,p≤j→j<i→rj l ((cv l i).getD j 0)<rj l i)→
  e8.l6 N K n l (cv l i) (i:Int) (p:Int) (l.length:Int) (i:Int)=K l (cv l (i+1)) (l.length:Int) ((i+1:Nat):Int)
 |p,0,_,hn,_=>by omega
 |p,n+1,hp,hn,h=>by
  have hlen:=iU l i
  have fin: ∀h2:(∀j,j<p→rj l i≤rj l ((cv l i).getD j 0)),ins l (cv l i) i=(cv l i).take p++(i:Int)::(cv l i).drop p:=fun h2=>IH l _ _ p (by omega) h2 (fun h3=>h p (by omega) (by omega))
  unfold e8.l6 e8.ov
  match p,hp,hn,h,fin with
  |0,hp,hn,h,fin=>
   have e:=fin (fun j hj=>by omega)
   rw[az (by omega),auc,zz N (by omega) (by omega),at7,←e,an (by omega) (by omega)]
   rfl
  |p+1,hp,hn,h,fin=>
   have hr:=zy (l:=l) (n:=i) (j:=p) (by omega)
   have e1:W .i64 (((p+1:Nat):Int)-1)=(p:Int):=by rw[an (by omega) (by omega)];omega
   have s9:=Fp N K hl i hi p n (by omega) (by omega)
   dsimp only
   rw[e1,aue]
   unfold rj at*
   rw[aue]at*
   rw[aC (by omega),aua,aI (by omega) (by omega),aua,aI (by omega) (by omega),aua,aI (by omega) (by omega),aua]
   by_cases h3:l.getD ((cv l i).getD p 0).toNat 0<l.getD i 0
   ·rw[aC h3,aua]
    exact s9 (fun j h4 h5=>by
     by_cases hjp:j=p
     ·rw[hjp];exact h3
     ·exact h j (by omega) h5)
   ·rw[az (by omega),auc,zz N (by omega) (by omega),at7,an (by omega) (by omega)]
    rw[←fin (fun j hj=>by
     by_cases hjp:j=p
     ·rw[hjp];omega
     ·have:=OQ (gN l i) (j:=j) (k:=p) (by omega) (by omega)
      unfold oR rj at this;omega)]
    rfl
theorem BW(N:Nat){l:List Int}(hl:l.length≤100000)(hN:l.length<N): ∀(m n i:Nat),l.length-i≤m→m<n→i≤l.length→
  e8.l3 N n l (cv l i) (l.length:Int) (i:Int)=some (eM l)
 |m,0,i,_,hn,_=>by omega
 |m,n+1,i,hm,hn,hi=>by
  unfold e8.l3 e8.ix
  by_cases h:i<l.length
  ·rw[aC (by omega),aua,iU,Fp N _ hl i h i N (by omega) (by omega) (fun j _ _=>by omega)]
   exact BW N hl hN (m-1) n (i+1) (by omega) (by omega) (by omega)
  ·rw[az (by omega),auc]
   unfold ZH
   rw[b9 (by omega) (by omega) (by omega) (by omega),aua,at7]
   simp only[auL,auG,aue,avF]
   rw[show i=l.length by omega];rfl
theorem OR(N:Nat){l:List Int}(hl:l.length≤100000)(hN:l.length<N):e8 N l=some (eM l):=by
 unfold e8 e8.b
 rw[bq (by omega) (by omega) (by omega),aua]
 exact BW N hl hN l.length N 0 (by omega) (by omega) (by omega)
theorem BX(N:Nat)(K:List Int→List Int→Int→Option (List Int)){l:List Int}(hl:l.length≤100000)(i:Nat)(hi:i<l.length): ∀(m n p:Nat),i-p≤m→m<n→p≤i→(∀j,j<p→rj l i≤rj l ((cv l i).getD j 0))→
  dp.l6 N K n l (cv l i) (i:Int) (p:Int)=K l (cv l (i+1)) ((i+1:Nat):Int)
 |m,0,p,_,hn,_,_=>by omega
 |m,n+1,p,hm,hn,hp,h=>by
  have hlen:=iU l i
  have fin: ∀h2:(p<i→rj l ((cv l i).getD p 0)<rj l i),dp.j8 N K l (cv l i) (i:Int) (p:Int)=K l (cv l (i+1)) ((i+1:Nat):Int):=fun h2=>by
   have e:=IH l (cv l i) i p (by omega) h (fun h3=>h2 (by omega))
   unfold dp.j8 dp.HH
   dsimp only
   rw[b9 (by omega) (by omega) (by omega) (by omega),aua,aue,aue,auL,auG]
   rw[bs (by rw[auu];omega),aua,bs (by rw[auu];simp only[aud];omega),aua,b9 (by omega) (by omega) (by omega) (by omega),aua,bs (by simp only[aug,auu,auP,aud];omega),aua,an (by omega) (by omega),avF,aur,aw2,←e]
   rfl
  unfold dp.l6 dp.ov
  by_cases hpi:p<i
  ·have hr:=zy (l:=l) (n:=i) (j:=p) hpi
   rw[aC (by omega),aua,aI (by omega) (by omega),aua,aue,aue,aI (by omega) (by omega),aua,aI (by omega) (by omega),aua]
   by_cases h3:l.getD i 0≤l.getD ((cv l i).getD p 0).toNat 0
   ·rw[cK h3,aua,an (by omega) (by omega)]
    refine BX N K hl i hi (m-1) n (p+1) (by omega) (by omega) (by omega) (fun j hj=> ?_)
    by_cases hjp:j=p
    ·rw[hjp];unfold rj;rw[aue];exact h3
    ·exact h j (by omega)
   ·rw[cE (by omega),auc]
    exact fin (fun _=>by unfold rj;rw[aue];omega)
  ·rw[az (by omega),auc]
   exact fin (fun h=>absurd h hpi)
theorem zA(N:Nat){l:List Int}(hl:l.length≤100000)(hN:l.length<N): ∀(m n i:Nat),l.length-i≤m→m<n→i≤l.length→
  dp.l3 N n l (cv l i) (i:Int)=some (eM l)
 |m,0,i,_,hn,_=>by omega
 |m,n+1,i,hm,hn,hi=>by
  unfold dp.l3 dp.ix
  by_cases h:i<l.length
  ·have:=BX N (dp.l3 N n) hl i h i N 0 (by omega) (by omega) (by omega) (fun j hj=>by omega)
   rw[aC (by omega),aua]
   refine Eq.trans this ?_
   exact zA N hl hN (m-1) n (i+1) (by omega) (by omega) (by omega)
  ·rw[az (by omega),auc,show i=l.length by omega];rfl
theorem LW(N:Nat){l:List Int}(hl:l.length≤100000)(hN:l.length<N):dp N l=some (eM l):=by
 unfold dp dp.b
 exact zA N hl hN l.length N 0 (by omega) (by omega) (by omega)
end VM
end
section
namespace VM
open Go VM.F
def zB(l:List Int):Prop:= ∀x∈l,-9223372036854775808≤x∧x<9223372036854775808
def Pos(l:List Int):Prop:= ∀x∈l,0≤x
def may(w:List Int):Bool:=decide (w.length≤64)&&w.all (fun x=>decide (0≤x))
theorem eF{w:List Int}:may w=true↔w.length≤64∧Pos w:=by
 unfold may Pos;rw[aus,avf,av5]
 simp only[avf]
theorem zC(N:Nat){l:List Int}(hl:l.length≤1000000): ∀(m n i:Nat),l.length-i≤m→m<n→i≤l.length→ ∃r,gX.l2 N n l () (l.length:Int) (i:Int)=some r∧(0≤r↔ ∃x∈l.drop i,x<0)
 |m,0,i,_,hn,_=>by omega
 |m,n+1,i,hm,hn,hi=>by
  unfold gX.l2 gX.ei ZI
  by_cases h:i<l.length
  ·have hd:l.drop i=l.getD i 0::l.drop (i+1):=by
    rw[au2 h,aub,auf h];rfl
   rw[aC (by omega),aua,aI (by omega) (by omega),aua,at7,aue,hd]
   by_cases hx:l.getD i 0<0
   ·rw[aC hx,aua]
    exact⟨_,rfl,fun _=>⟨_,auo ..,hx⟩,fun _=>by omega⟩
   ·rw[az (by omega),auc,an (by omega) (by omega)]
    obtain⟨r,e,h1⟩:=zC N hl (m-1) n (i+1) (by omega) (by omega) (by omega)
    refine⟨r,e,h1.trans ⟨fun⟨x,ET,Sc⟩=>⟨x,auk _ ET,Sc⟩,fun⟨x,ET,Sc⟩=> ?_⟩⟩
    rcases auy.1 ET with rfl|ET
    ·exact absurd Sc hx
    ·exact⟨x,ET,Sc⟩
  ·rw[az (by omega),auc,avI (by omega)]
   exact⟨_,rfl,fun h=>absurd h (by decide),fun⟨x,hx,_⟩=>nomatch hx⟩
theorem IJ(N:Nat){w:List Int}(hN:100≤N):LX N w=some (may w):=by
 unfold LX
 by_cases h:w.length≤64
 ·rw[cK (by omega),aua]
  unfold ZJ gX gX.b
  obtain⟨r,e,hr⟩:=zC N (l:=w) (by omega) w.length N 0 (by omega) (by omega) (by omega)
  rw[auG]at hr
  rw[show((0:Nat):Int)=0 from rfl]at e
  rw[e,at7,at7]
  by_cases h0:0≤r
  ·rw[cK h0]
   obtain⟨x,hx,JQ⟩:=hr.1 h0
   have:may w=false:=by
    rw[avX];intro hm
    have:=(eF.1 hm).2 x hx;omega
   rw[this];rfl
  ·rw[cE (by omega)]
   have:may w=true:=eF.2 ⟨h,fun x hx=>by
    by_cases JQ:x<0
    ·exact absurd (hr.2 ⟨x,hx,JQ⟩) h0
    ·omega⟩
   rw[this];rfl
 ·rw[cE (by omega),auc]
  have:may w=false:=by
   rw[avX];intro hm;exact h (eF.1 hm).1
  rw[this]
theorem zD(N:Nat){l:List Int}(hl:l.length≤1000000): ∀(m n i:Nat),l.length-i≤m→m<n→i≤l.length→ ∃r,lj.l4 N n l (i:Int)=some r∧(r=true↔ ∃x∈l.drop i,x<0)
 |m,0,i,_,hn,_=>by omega
 |m,n+1,i,hm,hn,hi=>by
  unfold lj.l4 lj.cT
  by_cases h:i<l.length
  ·have hd:l.drop i=l.getD i 0::l.drop (i+1):=by
    rw[au2 h,aub,auf h];rfl
   rw[aC (by omega),aua,aI (by omega) (by omega),aua,aue,hd]
   by_cases hx:l.getD i 0<0
   ·rw[aC hx,aua]
    exact⟨_,rfl,fun _=>⟨_,auo ..,hx⟩,fun _=>rfl⟩
   ·rw[az (by omega),auc,an (by omega) (by omega)]
    obtain⟨r,e,h1⟩:=zD N hl (m-1) n (i+1) (by omega) (by omega) (by omega)
    refine⟨r,e,h1.trans ⟨fun⟨x,ET,Sc⟩=>⟨x,auk _ ET,Sc⟩,fun⟨x,ET,Sc⟩=> ?_⟩⟩
    rcases auy.1 ET with rfl|ET
    ·exact absurd Sc hx
    ·exact⟨x,ET,Sc⟩
  ·rw[az (by omega),auc,avI (by omega)]
   exact⟨_,rfl,(fun h=>nomatch h),fun⟨x,hx,_⟩=>nomatch hx⟩
theorem zE(N:Nat){w:List Int}(hN:100≤N)(t:Int):lj N t w=some (decide (t<0)|| !may w):=by
 unfold lj lj.b
 by_cases ht:t<0
 ·rw[aC ht,aua,auv ht];rfl
 rw[az (by omega),auc,auB ht,awH]
 by_cases h:w.length≤64
 ·rw[az (by omega),auc]
  obtain⟨r,e,hr⟩:=zD N (l:=w) (by omega) w.length N 0 (by omega) (by omega) (by omega)
  rw[auG]at hr
  rw[show((0:Nat):Int)=0 from rfl]at e
  rw[e]
  congr 1
  rw[avY,hr,avW,avX,Ne,eF]
  constructor
  ·rintro⟨x,hx,JQ⟩ h;have:=h.2 x hx;omega
  ·intro h1
   by_cases h2: ∃x∈w,x<0
   ·exact h2
   ·exact absurd ⟨h,fun x hx=>by
     by_cases JQ:x<0
     ·exact absurd ⟨x,hx,JQ⟩ h2
     ·omega⟩ h1
 ·rw[aC (by omega),aua]
  have:may w=false:=by
   rw[avX];intro hm;exact h (eF.1 hm).1
  rw[this];rfl
def bump(q:List Int):List Int→List Int
 |[]=>q
 |k::t=>bump (q.set k.toNat (q.getD k.toNat 0+1)) t
def iq(t S:Int)(w:List Int):List Int:=w.map fun x=>t*x/S
def eT(t S:Int)(w:List Int):List Int:=w.map fun x=>t*x%S
def aM(t:Int)(w:List Int):List Int:=
 bump (iq t w.sum w) ((eM (eT t w.sum w)).take (t-(iq t w.sum w).sum).toNat)
def jF(t:Int)(w:List Int):List Int×Int:=
 if t<0∨may w=false then([],1)else if 9223372036854775808≤w.sum then([],2)
 else if w.sum=0 then(if t=0 then(List.replicate w.length 0,0)else([],1))else(aM t w,0)
theorem Fs: ∀(ks q:List Int),(bump q ks).length=q.length
 |[],q=>rfl
 |k::t,q=>by unfold bump;rw[Fs t];simp
theorem yg: ∀(q:List Int) (k:Nat) (x:Int),k<q.length→(q.set k x).sum=q.sum-q.getD k 0+x
 |[],k,x,h=>absurd h (by simp)
 |a::q,0,x,h=>by simp;omega
 |a::q,k+1,x,h=>by
  have:=yg q k x (by simpa using h)
  simp[this];omega
theorem c9: ∀{q:List Int},Pos q→0≤q.sum
 |[],_=>by simp
 |a::q,h=>by
  have:=c9 (q:=q) (fun x hx=>h x (auk _ hx))
  have:=h a (auo ..)
  rw[auO];omega
theorem od: ∀{q:List Int},Pos q→ ∀i,q.getD i 0≤q.sum
 |[],_,i=>by simp
 |a::q,h,0=>by
  have:=c9 (q:=q) (fun x hx=>h x (auk _ hx))
  rw[auO];simp;omega
 |a::q,h,i+1=>by
  have:=od (q:=q) (fun x hx=>h x (auk _ hx)) i
  have:=h a (auo ..)
  rw[auO];simp;simp at*;omega
theorem dk{q:List Int}(h:Pos q)(i:Nat):0≤q.getD i 0:=by
 by_cases hi:i<q.length
 ·exact h _ (uN hi)
 ·rw[pn q (by omega)];omega
theorem Kp{q:List Int}(h:Pos q){x:Int}(hx:0≤x)(k:Nat):Pos (q.set k x):=fun y hy=>by
 rcases avO hy with hy|rfl
 ·exact h y hy
 ·exact hx
theorem zF{q:List Int}(h:Pos q)(n:Nat):Pos (q.take n):=fun x hx=>h x (avh hx)
theorem Ft: ∀(ks q:List Int),(∀k∈ks,0≤k∧k<q.length)→(bump q ks).sum=q.sum+ks.length
 |[],q,_=>by simp[bump]
 |k::t,q,h=>by
  have hk:=h k (auo ..)
  unfold bump
  rw[Ft t _ (fun x hx=>by rw[aup];exact h x (auk _ hx)),yg q _ _ (by omega),auj];omega
theorem mM(t S:Int)(w:List Int):(iq t S w).length=w.length:=by unfold iq;rw[auH]
theorem e9(t S:Int)(w:List Int):(eT t S w).length=w.length:=by unfold eT;rw[auH]
theorem Dh{t S:Int}{w:List Int}(i:Nat):(iq t S w).getD i 0=t*w.getD i 0/S:=by
 unfold iq
 by_cases h:i<w.length
 ·rw[aub,avw,auf h,aub,auf h];rfl
 ·rw[pn _ (by rw[auH];omega),pn w (by omega)];simp
theorem Kq{t S:Int}{w:List Int}(i:Nat):(eT t S w).getD i 0=t*w.getD i 0%S:=by
 unfold eT
 by_cases h:i<w.length
 ·rw[aub,avw,auf h,aub,auf h];rfl
 ·rw[pn _ (by rw[auH];omega),pn w (by omega)];simp
theorem oS{t S:Int}{w:List Int}(ht:0≤t)(hS:0≤S)(hw:Pos w):Pos (iq t S w):=fun x hx=>by
 obtain⟨y,hy,rfl⟩:=auW.1 hx
 exact avu (av8 ht (hw y hy)) hS
theorem Fu{t S:Int}{w:List Int}(hS:0<S):Pos (eT t S w):=fun x hx=>by
 obtain⟨y,hy,rfl⟩:=auW.1 hx
 exact avZ _ (by omega)
theorem yh(t S:Int): ∀w:List Int,S*(iq t S w).sum+(eT t S w).sum=t*w.sum
 |[]=>by simp[iq,eT]
 |x::w=>by
  have h:=yh t S w
  have e:=avv (t*x) S
  unfold iq eT at*
  simp only[auI,auO,awd]
  omega
theorem Di{t S:Int}{w:List Int}(ht:0≤t)(hS:0<S)(h:w.sum≤S):(iq t S w).sum≤t:=by
 have e:=yh t S w
 have h1:=c9 (Fu (t:=t) (w:=w) hS)
 have h2:=au4 h ht
 have h3:S*(iq t S w).sum≤S*t:=by rw[auY S t];omega
 exact awE h3 hS
theorem nV{w:List Int}(h:Pos w)(i:Nat):(w.take i).sum≤w.sum:=by
 have e:w.take i++w.drop i=w:=auR i w
 have h1:(w.take i).sum+(w.drop i).sum=w.sum:=by rw[←awL,e]
 have:=c9 (q:=w.drop i) (fun x hx=>h x (awB hx))
 omega
theorem rU(t S:Int)(w:List Int)(i:Nat):(iq t S w).take i=iq t S (w.take i):=by unfold iq;rw[List.map_take]
theorem BY(N:Nat){ks:List Int}(hl:ks.length≤1000000)(L:Nat)(hk: ∀k∈ks,0≤k∧k<L): ∀(m n i:Nat) (q:List Int),ks.length-i≤m→m<n→i≤ks.length→q.length=L→Pos q→q.sum+(ks.length-i:Nat)≤9223372036854775807→
  dN.xC N n q ks (ks.length:Int) (i:Int)=some (bump q (ks.drop i),0)
 |m,0,i,q,_,hn,_,_,_,_=>by omega
 |m,n+1,i,q,hm,hn,hi,hq,hp,hs=>by
  unfold dN.xC dN.xD
  by_cases h:i<ks.length
  ·have hd:ks.drop i=ks.getD i 0::ks.drop (i+1):=by
    rw[au2 h,aub,auf h];rfl
   have xU:=hk _ (uN h)
   rw[aC (by omega),aua,aI (by omega) (by omega),aua,aue,aI (by omega) (by omega),aua,aua,hd]
   have h1:=od hp (ks.getD i 0).toNat
   have h2:=dk hp (ks.getD i 0).toNat
   rw[an (x:=q.getD _ 0+1) (by omega) (by omega),an (by omega) (by omega)]
   refine(BY N hl L hk (m-1) n (i+1) _ (by omega) (by omega) (by omega) (by rw[aup];exact hq) (Kp hp (by omega) _) ?_).trans rfl
   rw[yg q _ _ (by omega)];omega
  ·rw[az (by omega),auc,avI (by omega)];rfl
theorem zG(N:Nat){ks:List Int}(hl:ks.length≤1000000)(L:Nat)(hk: ∀k∈ks,0≤k∧k<L): ∀(m n i left:Nat) (q:List Int),ks.length-i≤m→m<n→i≤ks.length→q.length=L→Pos q→left≤9223372036854775807→q.sum+left≤9223372036854775807→
  dC.oa N n q (left:Int) ks (i:Int)=some (bump q ((ks.drop i).take left),0)
 |m,0,i,left,q,_,hn,_,_,_,_,_=>by omega
 |m,n+1,i,left,q,hm,hn,hi,hq,hp,hle,hs=>by
  unfold dC.oa dC.ob
  by_cases h:i<ks.length
  ·have hd:ks.drop i=ks.getD i 0::ks.drop (i+1):=by
    rw[au2 h,aub,auf h];rfl
   have xU:=hk _ (uN h)
   rw[aC (by omega),aua]
   match left,hle,hs with
   |0,hle,hs=>rw[az (by omega),auc,avD];rfl
   |left+1,hle,hs=>
    rw[aC (by omega),aua,aI (by omega) (by omega),aua,aue,aI (by omega) (by omega),aua,aua,hd]
    have h1:=od hp (ks.getD i 0).toNat
    have h2:=dk hp (ks.getD i 0).toNat
    rw[an (x:=q.getD _ 0+1) (by omega) (by omega),an (x:=(i:Int)+1) (by omega) (by omega),an (by omega) (by omega),show((left+1:Nat):Int)-1=(left:Int)by omega]
    refine(zG N hl L hk (m-1) n (i+1) left _ (by omega) (by omega) (by omega) (by rw[aup];exact hq) (Kp hp (by omega) _) (by omega) ?_).trans rfl
    rw[yg q _ _ (by omega)];omega
  ·rw[az (by omega),auc,avI (by omega),List.take_nil];rfl
theorem uO(l:List Int): ∀k∈eM l,0≤k∧k<l.length:=fun k hk=>(nU l).1 hk
theorem take_set(l:List Int){i:Nat}(x:Int)(h:i<l.length):(l.set i x).take (i+1)=l.take i++[x]:=by
 rw[dK (l.set i x) (by rw[aup];exact h),gn l x h,List.take_set_of_le (by omega)]
theorem tf{v:Int}(h0: -9223372036854775808≤v)(h1:v<9223372036854775808):xt v=(v,true):=by unfold xt;rw[auh ⟨h0,h1⟩]
theorem zH(N:Nat)(hN:1000000≤N){t:Int}{w:List Int}(ht:0≤t)(nv:t<9223372036854775808)(hw:w.length≤64)(hp:Pos w)(hS:0<w.sum)(hS1:w.sum<9223372036854775808):
  ∀(m n i:Nat) (q r:List Int),w.length-i≤m→m<n→i≤w.length→q.length=w.length→r.length=w.length→q.take i=iq t w.sum (w.take i)→r.take i=eT t w.sum (w.take i)→
  dN.jB N n t w.sum q r (t-(iq t w.sum (w.take i)).sum) w (w.length:Int) (i:Int)=some (aM t w,0)
 |m,0,i,q,r,_,hn,_,_,_,_,_=>by omega
 |m,n+1,i,q,r,hm,hn,hi,hq,hr,eq,er=>by
  unfold dN.jB dN.il
  by_cases h:i<w.length
  ·have hwi:=dk hp i
   have ZK:=od hp i
   have hb:=mul_lt ht hwi (show t≤9223372036854775807 by omega) (show w.getD i 0≤9223372036854775807 by omega)
   have hqi:t*w.getD i 0/w.sum≤t:=axL hS (au4 ZK ht)
   have aks:0≤t*w.getD i 0/w.sum:=avu hb.1 (by omega)
   have hs0:=Di ht hS (nV hp i)
   have Ht:=c9 (oS ht (by omega:0≤w.sum) (zF hp i))
   rw[aC (by omega),aua,aI (by omega) (by omega),aua,aue,RJ N (by omega) (by omega) (by omega) (by omega),at7,
    RN N (by omega) (by omega) (by omega) hS hS1,at7]
   dsimp only
   rw[C1 N (by omega) (by omega),at7,tf (by omega) (by omega)]
   dsimp only
   rw[aI (by omega) (by omega),aua,aI (by omega) (by omega),aua,aup,aI (by omega) (by omega),aua,gn q _ (by omega),an (x:=(i:Int)+1) (by omega) (by omega),an (by omega) (by omega)]
   have s9:=zH N hN ht nv hw hp hS hS1 (m-1) n (i+1) (q.set i (t*w.getD i 0/w.sum)) (r.set i (t*w.getD i 0%w.sum)) (by omega) (by omega) (by omega) (by rw[aup];exact hq) (by rw[aup];exact hr)
    (by rw[take_set q _ (by omega),eq,dK w h];unfold iq;simp)
    (by rw[take_set r _ (by omega),er,dK w h];unfold eT;simp)
   rw[←rU,dx _ (by rw[mM];exact h),Dh,rU]at s9
   rw[axN]
   exact s9
  ·have ji:i=w.length:=by omega
   subst ji
   rw[auM (by omega),auM (by omega)]at eq er
   subst eq er
   rw[auM (by omega)]
   have hs0:=Di ht hS (avo _)
   have Ht:=c9 (oS ht (by omega:0≤w.sum) hp)
   have XO:(t-(iq t w.sum w).sum).toNat≤(eM (eT t w.sum w)).length:=by
    rw[mL,e9]
    have e:=yh t w.sum w
    have:(eT t w.sum w).sum≤w.length*w.sum:=by
     have: ∀u:List Int,(eT t w.sum u).sum≤u.length*w.sum:=by
      intro u
      induction u with
      |nil=>simp[eT]
      |cons x u ih=>
       have:=avt (t*x) hS
       unfold eT at*
       rw[auI,auO,auj,aw9,avV];simp;omega
     exact this w
    have h4:w.sum*(t-(iq t w.sum w).sum)≤w.sum*w.length:=by
     rw[axs,auY w.sum t,auY w.sum (w.length:Int)];omega
    have:=awE h4 hS
    omega
   rw[az (by omega),auc,OR N (by rw[e9];omega) (by rw[e9];omega),at7]
   rw[b9 (by omega) (by omega) (by omega) (by omega),aua]
   dsimp only
   rw[auL,auG]
   have hlen:=mL (eT t w.sum w)
   rw[e9]at hlen
   have sq:=BY N (ks:=(eM (eT t w.sum w)).take (t-(iq t w.sum w).sum).toNat) (by rw[auu];omega) w.length (fun k hk=>by have:=uO _ k (avh hk);rwa [e9]at this) 1000 N 0 (iq t w.sum w) (by rw[auu];omega) (by omega) (by omega) (mM ..) (oS ht (by omega) hp) (by rw[auu];omega)
   rw[auG]at sq
   exact sq
theorem OS(N:Nat)(hN:2000000≤N){t:Int}{w:List Int}(nv:t<9223372036854775808)(hw:zB w)(hl:w.length≤1000000):dN N t w=some (jF t w):=by
 unfold dN dN.b jF
 by_cases h1:t<0
 ·rw[aC h1,aua,auh (.inl h1)]
 rw[az (by omega),auc,IJ N (by omega),at7]
 cases h2:may w
 ·rw[auC,aua,auh (.inr rfl)]
 rw[auq,auc,aui (by simp[h1]),J9 N hw hl (by omega),at7]
 obtain⟨Dj,hp⟩:=eF.1 h2
 have hS0:=c9 hp
 by_cases h3:9223372036854775808≤w.sum
 ·rw[auh h3];unfold xt;rw[aui (by omega)];rfl
 rw[aui h3,tf (by omega) (by omega)]
 dsimp only
 rw[auq,auc]
 have hm:dX (w.length:Int) (w.length:Int)=true:=bq (by omega) (by omega) (by omega)
 have hz: ∀i:Nat,(List.replicate w.length (0:Int)).take i=(List.replicate w.length (0:Int)).take i:=fun _=>rfl
 by_cases h4:w.sum=0
 ·rw[auh h4,bW h4,aua]
  by_cases h5:t=0
  ·rw[auh h5,az (by omega),auc]
   unfold dN.j8 dN.HH
   rw[hm,aua,aua,bW h5,aua,aue]
  ·rw[aui h5,aC (by omega),aua]
 ·rw[aui h4,cf h4,auc]
  unfold dN.j8 dN.HH
  rw[hm,aua,aua]
  rw[aue]
  by_cases h5:t=0
  ·rw[bW h5,aua]
   subst h5
   have:iq 0 w.sum w=List.replicate w.length 0:=by
    unfold iq;simp only[axT,Int.zero_ediv];exact List.map_const'
   unfold aM
   rw[this];simp[bump]
  ·rw[cf h5,auc]
   have:=zH N (by omega) (by omega) nv Dj hp (by omega) (by omega) w.length N 0 (List.replicate w.length 0) (List.replicate w.length 0) (by omega) (by omega) (by omega) (aun ..) (aun ..) rfl rfl
   rw[avD]at this
   simp only[iq,avS,awr,axe]at this
   exact this
end VM
end
section
namespace VM
open Go VM.F
theorem gw{a b:List Int}(hl:a.length=b.length)(h: ∀i,i<a.length→a.getD i 0=b.getD i 0):a=b:=by
 refine List.ext_getElem hl (fun i h1 h2=> ?_)
 have:=h i h1
 rwa [aub,auf h1,aub,auf h2]at this
theorem Kr: ∀(ks q:List Int) (i:Nat),ks.Nodup→(∀k∈ks,0≤k∧k<q.length)→(bump q ks).getD i 0=q.getD i 0+(if(i:Int)∈ks then 1 else 0)
 |[],q,i,_,_=>by simp[bump]
 |k::t,q,i,hn,h=>by
  have hk:=h k (auo ..)
  rw[axH]at hn
  unfold bump
  rw[Kr t _ i hn.2 (fun x hx=>by rw[aup];exact h x (auk _ hx))]
  by_cases hik:(i:Int)=k
  ·rw[aui (by rw[hik];exact hn.1),auh (by rw[hik];exact auo ..),←hik,aue,gn q _ (by omega)];omega
  ·rw[getD_set_ne q _ (by omega)]
   by_cases ht:(i:Int)∈t
   ·rw[auh ht,auh (auk _ ht)]
   ·rw[aui ht,aui (fun hc=>by rcases auy.1 hc with hc|hc;exact hik hc;exact ht hc)]
theorem Fv(l:List Int):(eM l).Nodup:=(gN l l.length).imp (fun{a b} h he=>by unfold oR at h;rw[he]at h;omega)
theorem Ks(t S:Int)(hS:0<S): ∀u:List Int,(eT t S u).sum≤u.length*S
 |[]=>by simp[eT]
 |x::u=>by
  have ih:=Ks t S hS u
  have:=avt (t*x) hS
  unfold eT at*
  rw[auI,auO,auj,aw9,avV];simp;omega
def iV(t:Int)(w:List Int):Int:=t-(iq t w.sum w).sum
theorem left_eq(t:Int)(w:List Int):w.sum*iV t w=(eT t w.sum w).sum:=by
 have:=yh t w.sum w
 unfold iV;rw[axs,auY w.sum t];omega
theorem zI{t:Int}{w:List Int}(ht:0≤t)(hS:0<w.sum):0≤iV t w:=by
 have:=Di ht hS (avo _);unfold iV;omega
theorem Kt{t:Int}{w:List Int}(hS:0<w.sum):iV t w≤w.length:=by
 have h1:=left_eq t w
 have h2:=Ks t w.sum hS w
 rw[←h1,auY (w.length:Int)]at h2
 exact awE h2 hS
theorem eN(t:Int)(w:List Int):(aM t w).length=w.length:=by unfold aM;rw[Fs,mM]
theorem mN{t:Int}{w:List Int}(ht:0≤t)(hS:0<w.sum):(aM t w).sum=t:=by
 unfold aM
 have h1:=zI ht hS
 have h2:=Kt (t:=t) hS
 unfold iV at*
 rw[Ft _ _ (fun k hk=>by have:=uO _ k (avh hk);rw[e9]at this;rwa [mM]),auu,mL,e9]
 omega
theorem tg{f:Int→Int}{c:Int}: ∀{o:List Int},(∀x∈o,f x≤c)→(o.map f).sum≤o.length*c
 |[],_=>by simp
 |x::o,h=>by
  have ih:=tg (f:=f) (c:=c) (o:=o) (fun y hy=>h y (auk _ hy))
  have:=h x (auo ..)
  rw[auI,auO,auj,aw9,avV];simp;omega
theorem IK{l o:List Int}(h:o.Pairwise (oR l)){m:Nat}{x y:Int}(hx:x∈o.take m)(hy:y∈o.drop m):oR l x y:=by
 rw[←auR m o,List.pairwise_append]at h
 exact h.2.2 x hx y hy
theorem LY{t:Int}{w:List Int}(ht:0≤t)(hS:0<w.sum){i:Int}(hi:i∈(eM (eT t w.sum w)).take (iV t w).toNat):0<rj (eT t w.sum w) i:=by
 have yL: ∀k:Int,0≤rj (eT t w.sum w) k:=fun k=>dk (Fu hS) _
 have dz: ∀k:Int,rj (eT t w.sum w) k≤w.sum-1:=fun k=>by
  unfold rj;rw[Kq]
  have:=avt (t*w.getD k.toNat 0) hS;omega
 have h0:=yL i
 rcases Int.lt_or_le 0 (rj (eT t w.sum w) i)with h|h
 ·exact h
 exfalso
 have IL:=II (eT t w.sum w) (eT t w.sum w) rfl
 rw[←left_eq]at IL
 have akt:=auR (iV t w).toNat (eM (eT t w.sum w))
 rw[←akt,auV,awL]at IL
 have hd:(((eM (eT t w.sum w)).drop (iV t w).toNat).map (rj (eT t w.sum w))).sum≤((eM (eT t w.sum w)).drop (iV t w).toNat).length*0:=tg (fun y hy=>by
  have:=IK (gN _ _) hi hy
  unfold oR at this;omega)
 have Sd:(((eM (eT t w.sum w)).take (iV t w).toNat).map (rj (eT t w.sum w))).sum≤((eM (eT t w.sum w)).take (iV t w).toNat).length*(w.sum-1):=tg (fun y _=>dz y)
 have h1:=zI ht hS
 have h2:=Kt (t:=t) hS
 rw[auu,mL,e9,avd (by omega),axs]at Sd
 rw[Int.mul_zero]at hd
 have h3:(((iV t w).toNat:Nat):Int)=iV t w:=by omega
 have h4:0<(iV t w).toNat:=by
  rcases Nat.eq_zero_or_pos (iV t w).toNat with h|h
  ·rw[h,avD]at hi;nomatch hi
  ·exact h
 rw[h3,auY (iV t w)]at Sd
 omega
def extra(t:Int)(w:List Int)(i:Nat):Int:=if(i:Int)∈(eM (eT t w.sum w)).take (iV t w).toNat then 1 else 0
theorem rV(t:Int)(w:List Int)(i:Nat):(aM t w).getD i 0=t*w.getD i 0/w.sum+extra t w i:=by
 unfold aM
 rw[Kr _ _ i ((Fv _).sublist (List.take_sublist ..)) (fun k hk=>by have:=uO _ k (avh hk);rw[e9]at this;rwa [mM]),Dh]
 rfl
theorem rW(t:Int)(w:List Int)(i:Nat):extra t w i=0∨extra t w i=1:=by unfold extra;split<;>omega
theorem vK{t:Int}{w:List Int}(ht:0≤t)(hS:0<w.sum){i:Nat}(h:extra t w i=1):0<t*w.getD i 0%w.sum:=by
 unfold extra at h
 by_cases hi:(i:Int)∈(eM (eT t w.sum w)).take (iV t w).toNat
 ·have:=LY ht hS hi
  unfold rj at this;rwa [Kq,aue]at this
 ·rw[aui hi]at h;omega
theorem pO{t:Int}{w:List Int}(ht:0≤t)(hS:0<w.sum)(hw:Pos w):Pos (aM t w):=fun x hx=>by
 obtain⟨i,hi,rfl⟩:=avE.1 hx
 have:=rV t w i
 rw[aub,auf hi]at this
 have h1:=rW t w i
 have h2:0≤t*w.getD i 0/w.sum:=avu (av8 ht (dk hw i)) (by omega)
 simp only[av6]at this
 omega
theorem rk{t:Int}{w:List Int}(ht:0≤t)(hS:0<w.sum){i:Nat}(h:w.getD i 0=0):(aM t w).getD i 0=0:=by
 rw[rV,h]
 rcases rW t w i with h1|h1
 ·rw[h1];simp
 ·have:=vK ht hS h1
  rw[h]at this;simp at this
theorem IM{t:Int}{w:List Int}(ht:0≤t)(hS:0<w.sum)(i:Nat):((aM t w).getD i 0*w.sum-t*w.getD i 0).natAbs<w.sum:=by
 have e:=avv (t*w.getD i 0) w.sum
 have h1:=avt (t*w.getD i 0) hS
 have h2:=avZ (t*w.getD i 0) (show w.sum≠0 by omega)
 rw[rV,avV,auY _ w.sum]
 rcases rW t w i with h|h
 ·rw[h,axT];omega
 ·have:=vK ht hS h
  rw[h,awP];omega
end VM
end
