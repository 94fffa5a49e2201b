/- A part of the proof of BookAll of layer 18: what the functions compute, in plain words. -/
import Derived.Test.YtfdcmiodcijmmaaGreatPlain1
import Derived.Test.YtfdcmiodcijmmaaGreatVm7
set_option linter.all false
section
namespace VM
open Go VM.F
instance(x:Int):Decidable (bk x):=by unfold bk;infer_instance
def Fq(x:Int):Prop:=bk x∧xd x
instance:DecidablePred Fq:=λx=>by unfold Fq;infer_instance
def o7(r:Option ak):Option (ak×Int):=some (match r with|some o=>(o,0)|none=>([],2))
def fS(l E:ak)(a b:Int):Int:=bS a b l+bS a b E
theorem xe{α:Type}(N:Nat){l:List α}{i:Nat}{x:α}(hi:i≤l.length)(hl:l.length<1000000):lM N l (i:Int) [x]=some (l.take i++x::l.drop i):=by
 unfold lM
 rw[ae ⟨ω,ω,rfl,by unfold th;omega⟩]
 rfl
theorem o8{α:Type}(N:Nat){l:List α}(hl:l.length≤1000000):fh N l=some l:=by
 unfold fh
 rw[ae (by unfold th;omega)]
theorem zc(N:Nat){v:Int}(h:bO v):SW N (bp v)=some (CR v):=Ol N h.1 h.2
theorem uc{v:Int}(h:bk v):CR v=(v,true):=by unfold CR;exact ae h
theorem xf{v:Int}(h: ¬bk v):CR v=(0,false):=by unfold CR;exact af h
theorem ve{ws:List Int}{x:Int}(h: ∀y∈ws,bk y)(hx:bk x): ∀y∈ws++[x],bk y:=λy hy=>by
 rcases br.1 hy with hy|hy
 ·exact h y hy
 ·rw[dw.1 hy];exact hx
theorem Ez(N:Nat){l:ak}:OD N l=some l:=by
 unfold OD
 rw[eC ω ω ω ω,aa]
 simp
theorem LW(N:Nat)(hN:2000000≤N)(K:bt.A5){E out R:ak}(hq:c3 E)(hl:E.length≤100000)(ho:out.length≤1000000)(r:dJ)(hr:bk (da r))(i:Nat)(hi:i≤1000000):
  bt.Rf N K N E out r [bp (da r)] R (R.length:Int) (i:Int) E (E.length:Int) 0=
   if Fq (da r+bS r.1 r.2.1 E)then K E (if da r+bS r.1 r.2.1 E=0 then out else out++[(r.1,(r.2.1,(da r+bS r.1 r.2.1 E,())))]) R (R.length:Int) ((i+1:Nat):Int)else some (cj,(2:Int)):=by
 have:=hZ E aH (λn j ws=>bt.Rf N K n E out r (ws.map bp) R (R.length:Int) (i:Int) E (E.length:Int) j)
  (λt ws=>if Fq (ws++cq r.1 r.2.1 t).sum then K E (if(ws++cq r.1 r.2.1 t).sum=0 then out else out++[(r.1,(r.2.1,((ws++cq r.1 r.2.1 t).sum,())))]) R (R.length:Int) ((i+1:Nat):Int)else some (cj,(2:Int)))
  (λj (ws:List Int)=>ws.length≤j+1∧ ∀x∈ws,bk x)
  (λn j ws hj hI fN=> ?_) (λn ws hI=> ?_) E.length N 0 [da r] ω ω ω ⟨aB _,λx hx=>by rw[dw.1 hx];exact hr⟩
 ·rw[show((0:Nat):Int)=0 from rfl,bY]at this
  refine this.trans ?_
  have e:([da r]++cq r.1 r.2.1 E).sum=da r+bS r.1 r.2.1 E:=by rw[Dg,eA];rfl
  rw[e]
 ·unfold bt.Rf bt.OE
  have jV:=o4 hq j
  have fp:=jV
  unfold bk da at fp
  rw[az ω,aa,aE ω ω,aa,aw,oV N fp.1 fp.2,ag,bo (by rw[bI,aQ];omega),aa,ay (x:=(j:Int)+1) ω ω,ah,au,au]
  by_cases h1:(E.getD j aH).1=r.1
  ·by_cases h2:(E.getD j aH).2.1=r.2.1
   ·have hc:cq r.1 r.2.1 (E.getD j aH::E.drop (j+1))=da (E.getD j aH)::cq r.1 r.2.1 (E.drop (j+1)):=by rw[c4,ae ⟨h1,h2⟩]
    rw[ae h1,ae h2,hc]
    have:=fN (ws++[da (E.getD j aH)]) ⟨by rw[aC,aQ];omega,ve hI.2 jV⟩
    rw[cH]at this
    refine this.trans ?_
    rw[aT];rfl
   ·have hc:cq r.1 r.2.1 (E.getD j aH::E.drop (j+1))=cq r.1 r.2.1 (E.drop (j+1)):=by rw[c4,af (λh=>h2 h.2)]
    rw[ae h1,af h2,hc]
    exact fN ws ⟨ω,hI.2⟩
  ·have hc:cq r.1 r.2.1 (E.getD j aH::E.drop (j+1))=cq r.1 r.2.1 (E.drop (j+1)):=by rw[c4,af (λh=>h1 h.1)]
   rw[af h1,hc]
   exact fN ws ⟨ω,hI.2⟩
 ·unfold bt.Rf bt.OE
  have hs:=A3 hI.2 ω
  rw[av ω,an,B9 N hI.2 ω ω,ag]
  show _=if Fq (ws++[]).sum then K E (if(ws++[]).sum=0 then out else out++[(r.1,(r.2.1,((ws++[]).sum,())))]) R (R.length:Int) ((i+1:Nat):Int)else some (cj,(2:Int))
  rw[bF,zc N hs,ag]
  by_cases h1:bk ws.sum
  ·rw[uc h1]
   dsimp only
   rw[aN,an,ny,ag,cond_not,dH,cond_not,au,bo (by rw[aQ];omega),aa,ay (x:=(i:Int)+1) ω ω,ah]
   by_cases h2:xd ws.sum
   ·rw[ae h2,ae (show Fq ws.sum from⟨h1,h2⟩)]
    split<;>rfl
   ·rw[af h2,af (λh=>h2 h.2)]
  ·rw[xf h1,af (λh=>h1 h.1)]
   rfl
theorem JG(N:Nat)(hN:2000000≤N){l E R:ak}(hq:c3 E)(hl:E.length≤100000)(hR:R.length≤200000)(hv: ∀r∈R,bk (da r)∧da r=bS r.1 r.2.1 l):
  bt.OF N N E [] R (R.length:Int) 0=o7 (cO Fq (fS l E) (R.map keyOf)):=by
 have:=hZ R aH (λn i out=>bt.OF N n E out R (R.length:Int) i) (λt out=>o7 ((cO Fq (fS l E) (t.map keyOf)).map (λo=>out++o))) (λi (out:ak)=>out.length≤i)
  (λn i out hi hI hr=> ?_) (λn out hI=> ?_) R.length N 0 [] ω ω ω (aB _)
 ·rw[show((0:Nat):Int)=0 from rfl,bY]at this
  refine this.trans ?_
  simp
 ·unfold bt.OF bt.OG
  have hm:R.getD i aH∈R:=by
   rw[aR,bc hi];exact c6 hi
  have Gd:=hv _ hm
  have jV:=Gd.1
  have fp:=jV
  unfold bk da at fp
  rw[az ω,aa,aE ω ω,aa,aw,oV N fp.1 fp.2,ag]
  refine(LW N hN _ hq hl ω _ jV i ω).trans ?_
  rw[bA,gV]
  have ef:fS l E (keyOf (R.getD i aH)).1 (keyOf (R.getD i aH)).2=da (R.getD i aH)+bS (R.getD i aH).1 (R.getD i aH).2.1 E:=by
   show bS _ _ l+bS _ _ E=_
   rw[Gd.2];rfl
  rw[ef]
  generalize hS:da (R.getD i aH)+bS (R.getD i aH).1 (R.getD i aH).2.1 E=v
  by_cases hF:Fq v
  ·rw[ae hF,ae hF,hr _ (by
    split
    ·omega
    ·rw[aC,aQ];omega)]
   cases cO Fq (fS l E) ((R.drop (i+1)).map keyOf)with
   |none=>rfl
   |some o=>
    show o7 (some _)=o7 (some _)
    congr 2
    split
    ·rfl
    ·exact aT _ _ _
  ·rw[af hF,af hF];rfl
 ·unfold bt.OF bt.OG
  rw[av ω,an,Ez,ag]
  show _=o7 (some (out++[]))
  rw[bF];rfl
def wO(l:ak)(k:bZ):dJ:=(k.1,(k.2,(bS k.1 k.2 l,())))
theorem cR(l:ak)(K:List bZ):(rowsOf l K).length=K.length:=bI ..
theorem A6(l:ak){K:List bZ}{p:Nat}(h:p<K.length):(rowsOf l K).getD p aH=wO l (K.getD p (0,0)):=by
 unfold rowsOf
 rw[aR,nX,bc h,aR,bc h];rfl
theorem o9(l:ak)(K:List bZ)(p:Nat)(k:bZ):(rowsOf l K).take p++wO l k::(rowsOf l K).drop p=rowsOf l (K.take p++k::K.drop p):=by
 unfold rowsOf
 rw[cH,bA,List.map_take,List.map_drop];rfl
theorem wb(l:ak)(K:List bZ):(rowsOf l K).map keyOf=K:=by
 unfold rowsOf
 rw[List.map_map]
 induction K with
 |nil=>rfl
 |cons k t ih=>rw[bA,ih];rfl
theorem ud{k x:bZ}:0<uX k.1 k.2 x.1 x.2↔nR x k:=by
 unfold uX nR gZ;split<;>omega
theorem ru{k x:bZ}:uX k.1 k.2 x.1 x.2=0↔x=k:=by
 have:x=k↔x.1=k.1∧x.2=k.2:=⟨λh=>h▸⟨rfl,rfl⟩,λh=>ff h.1 h.2⟩
 rw[this]
 unfold uX;split<;>omega
def ue(k:bZ):Prop:=Ap k.1∧Ap k.2
theorem Im{k:bZ}{K:List bZ}{p:Nat}(h:p<K.length):qI k (K.drop p)=if nR (K.getD p (0,0)) k then K.getD p (0,0)::qI k (K.drop (p+1))else if K.getD p (0,0)=k then K.drop p else k::K.drop p:=by
 rw[drop_cons h (0,0)];rfl
theorem ug{K:List bZ}{p:Nat}(h:p<K.length)(t:List bZ):K.take p++K.getD p (0,0)::t=K.take (p+1)++t:=by
 rw[←sT h,aT,aR,bc h];rfl
def zeroAt(l:ak)(K:List bZ)(k:bZ):Prop:=k∉K→bS k.1 k.2 l=0
theorem ry{l:ak}{k:bZ}(h:bS k.1 k.2 l=0):((k.1,(k.2,((0:Int),()))):dJ)=wO l k:=by
 unfold wO;rw[h]
theorem pa{k:bZ}{K:List bZ}{p:Nat}(hs:nW K)(hp: ∀x∈K.take p,nR x k)(h: ∀x∈K.drop p,nR k x):k∉K:=λhk=>by
 rw[←gg p K]at hk
 rcases br.1 hk with hk|hk
 ·exact ko (hp k hk)
 ·exact ko (h k hk)
theorem Io{k:bZ}{K:List bZ}{p:Nat}(hs:nW K)(h:p<K.length)(h1: ¬nR (K.getD p (0,0)) k)(h2:K.getD p (0,0)≠k): ∀x∈K.drop p,nR k x:=by
 have hk:nR k (K.getD p (0,0)):=(Ik (K.getD p (0,0)) k).elim (λh=>absurd h h1) (λh=>h.elim (λh=>absurd h h2) id)
 have hd:nW (K.drop p):=pN (List.drop_sublist ..) hs
 rw[drop_cons h (0,0)]at hd ⊢
 intro x hx
 rcases aV.1 hx with rfl|hx
 ·exact hk
 ·exact rr hk ((ez.1 hd).1 x hx)
theorem Rg(N:Nat)(C:bt.pB){l E S:ak}{K:List bZ}(hs:nW K)(hl:K.length≤100000)(hf: ∀k∈K,ue k)(x:dJ)(hx:ue (keyOf x))(hz:zeroAt l K (keyOf x))(len:Int)(i:Nat)(hi:i≤1000000):
  ∀(m n p:Nat),K.length-p≤m→m<n→p≤K.length→(∀y∈K.take p,nR y (keyOf x))→
   bt.vY N C n E (rowsOf l K) x (p:Int) S len (i:Int)=C E (rowsOf l (K.take p++qI (keyOf x) (K.drop p))) S len ((i+1:Nat):Int)
 |m,0,p,_,hn,_,_=>ω
 |m,n+1,p,hm,hn,hp,hb=>by
  unfold bt.vY bt.vb bt.Xj bt.SZ
  rw[cR,ay (x:=(i:Int)+1) ω ω,ah i]
  by_cases h:p<K.length
  ·have Xk:=hf (K.getD p (0,0)) (by rw[aR,bc h];exact c6 h)
   have ho:Jw N x.1 x.2.1 ((rowsOf l K).getD p aH)=some (uX (keyOf x).1 (keyOf x).2 (K.getD p (0,0)).1 (K.getD p (0,0)).2):=by
    rw[A6 l h]
    exact A0 N hx.1 hx.2 Xk.1 Xk.2
   rw[az ω,aa,aE ω ω,aa,aw,ho,ag,eP (x:=(p:Int)) ω,an,aa,ag,bb,cond_not,au,Im h]
   by_cases h1:nR (K.getD p (0,0)) (keyOf x)
   ·rw[ae (ud.2 h1),ae h1,ay (x:=(p:Int)+1) ω ω,ah p,ug h]
    refine Rg N C hs hl hf x hx hz len i hi (m-1) n (p+1) ω ω ω λy hy=> ?_
    rw[←sT h]at hy
    rcases br.1 hy with hy|hy
    ·exact hb y hy
    ·rw[aR,bc h]at h1
     rw[dw.1 hy];exact h1
   ·rw[af (λh=>h1 (ud.1 h)),af h1]
    by_cases h2:K.getD p (0,0)=keyOf x
    ·rw[ae (ru.2 h2),ae h2,gg]
    ·rw[af (λh=>h2 (ru.1 h)),af h2,xe N (by rw[cR];omega) (by rw[cR];omega),ag]
     have w3:=hz (pa hs hb (Io hs h h1 h2))
     have e:=o9 l K p (keyOf x)
     rw[←ry w3]at e
     exact cN (λR=>C E R S len ((i+1:Nat):Int)) e
  ·have hd:K.drop p=[]:=xw ω
   rw[av ω,an,dS ω,aa,xe N (by rw[cR];omega) (by rw[cR];omega),ag]
   have w3:=hz (pa hs hb (by rw[hd];exact λx hx=>nomatch hx))
   have e:=o9 l K p (keyOf x)
   rw[←ry w3]at e
   have e2:qI (keyOf x) (K.drop p)=keyOf x::K.drop p:=by rw[hd];rfl
   rw[e2]
   exact cN (λR=>C E R S len ((i+1:Nat):Int)) e
def A7(E:ak)(i:Nat):Prop:=eR (dm (i:Int) E).sum 0
instance(E:ak):DecidablePred (A7 E):=λi=>by unfold A7;infer_instance
theorem OH(N:Nat)(hN:2000000≤N)(K:ei.ca){E:ak}(hq:c3 E)(hl:E.length≤100000)(a:Nat)(ha:a<6):
  ei.l6 N K N E (a:Int) [] (a:Int) E (E.length:Int) 0=if(dm (a:Int) E).sum=0 then K E ((a+1:Nat):Int)else some false:=by
 have:=hZ E aH (λn j ws=>ei.l6 N K n E (a:Int) (ws.map bp) (a:Int) E (E.length:Int) j)
  (λt ws=>if(ws++dm (a:Int) t).sum=0 then K E ((a+1:Nat):Int)else some false)
  (λj (ws:List Int)=>ws.length≤j∧ ∀x∈ws,bk x)
  (λn j ws hj hI hr=> ?_) (λn ws hI=> ?_) E.length N 0 [] ω ω ω ⟨aB _,λx hx=>nomatch hx⟩
 ·rw[show((0:Nat):Int)=0 from rfl,bY]at this
  exact this
 ·unfold ei.l6 ei.B4
  have jV:=o4 hq j
  have fp:=jV
  unfold bk da at fp
  rw[az ω,aa,aE ω ω,aa,aw,oV N fp.1 fp.2,ag,bo (by rw[bI,aQ];omega),aa,ay (x:=(j:Int)+1) ω ω,ah j,au]
  by_cases h1:(E.getD j aH).2.1=(a:Int)
  ·have hc:dm (a:Int) (E.getD j aH::E.drop (j+1))=da (E.getD j aH)::dm (a:Int) (E.drop (j+1)):=by rw[fB,ae h1]
   rw[ae h1,hc]
   have:=hr (ws++[da (E.getD j aH)]) ⟨by rw[aC,aQ];omega,ve hI.2 jV⟩
   rw[cH]at this
   refine this.trans ?_
   rw[aT];rfl
  ·have hc:dm (a:Int) (E.getD j aH::E.drop (j+1))=dm (a:Int) (E.drop (j+1)):=by rw[fB,af h1]
   rw[af h1,hc]
   exact hr ws ⟨ω,hI.2⟩
 ·unfold ei.l6 ei.B4
  rw[av ω,an,B9 N hI.2 ω ω,ag]
  show _=if(ws++[]).sum=0 then K E ((a+1:Nat):Int)else some false
  rw[bF,aN,an,tZ,ag,cond_not,au,ay (x:=(a:Int)+1) ω ω,ah a]
  by_cases h:ws.sum=0
  ·rw[ae h,ae (gG.2 h)]
  ·rw[af h,af (λk=>h (gG.1 k))]
theorem LX(N:Nat)(hN:2000000≤N){E:ak}(hq:c3 E)(hl:E.length≤100000):ei N E=some (decide (∀j,j<ia→A7 E j)&&true):=by
 unfold ei ei.b
 refine e7 (len:=ia) (F:=λn i=>ei.l2 N n E i) (A7 E) (λn i r hi hp hr=> ?_) (λn=> ?_) N (by unfold ia;omega)
 ·unfold ei.l2 ei.dY
  unfold ia at hi
  rw[az ω,aa,OH N hN _ hq hl i hi,hr]
  unfold A7 eR
  rfl
 ·unfold ei.l2 ei.dY
  rw[av (by unfold ia;omega),an]
structure EA(E:ak):Prop where
 place: ∀x∈E,bK x.1 x.2.1
 q: ∀x∈E,bk (da x)∧xd (da x)
 len:E.length≤400
 flat: ∀i:Int,(dm i E).sum=0
theorem A8{x:dJ}(h:bK x.1 x.2.1):ue (keyOf x):=by
 have h':bK (keyOf x).1 (keyOf x).2:=h
 unfold bK at h'
 unfold ue Ap
 omega
theorem ee{l:ak}{k:bZ}(h:k∉l.map keyOf):bS k.1 k.2 l=0:=gH λx hx e=>h (by
 have:keyOf x=k:=ff e.1 e.2
 rw[←this];exact dF hx)
theorem JH(N:Nat)(hN:2000000≤N){l E:ak}(hq:c3 E)(hE:E.length≤400)(hp: ∀x∈E,ue (keyOf x))(hs:nW (l.map keyOf))(hl:l.length≤90000)(HQ:c3 l)(CS: ∀x∈l,ue (keyOf x)):
  bt.CT N N E l E (E.length:Int) 0=o7 (cO Fq (fS l E) (jw (l.map keyOf) E)):=by
 have:=hZ E aH (λn i K=>bt.CT N n E (rowsOf l K) E (E.length:Int) i) (λt K=>o7 (cO Fq (fS l E) (jw K t)))
  (λi (K:List bZ)=>K.length≤l.length+i∧nW K∧(∀k∈K,ue k)∧ ∀x∈l,keyOf x∈K)
  (λn i K hi hI hr=> ?_) (λn K hI=> ?_) E.length N 0 (l.map keyOf) ω ω ω ⟨by rw[bI];omega,hs,λk hk=>by
   obtain⟨x,hx,rfl⟩:=cA.1 hk
   exact CS x hx,λx hx=>dF hx⟩
 ·rw[show((0:Nat):Int)=0 from rfl,bY]at this
  simp only[jc hs]at this
  exact this
 ·unfold bt.CT bt.Ce
  obtain⟨h1,h2,h3,h4⟩:=hI
  have hm:E.getD i aH∈E:=by
   rw[aR,bc hi];exact c6 hi
  rw[az ω,aa,aE ω ω,aa,aw]
  refine(Rg N _ h2 ω h3 (E.getD i aH) (hp _ hm) (λhk=>ee λhx=>hk (by
   obtain⟨x,hx,e⟩:=cA.1 hx
   rw[←e];exact h4 x hx)) (E.length:Int) i ω K.length N 0 ω ω ω (λy hy=>nomatch hy)).trans ?_
  rw[pV,c7,bY,nC]
  refine hr (qI (keyOf (E.getD i aH)) K) ⟨iC (zb _ K) ω,ub h2,λk hk=>(mO.1 hk).elim (λe=>e▸hp _ hm) (h3 k),λx hx=>mO.2 (Or.inr (h4 x hx))⟩
 ·unfold bt.CT bt.Ce
  obtain⟨h1,h2,h3,h4⟩:=hI
  rw[av ω,an,cR,c0 ω ω ω,aa]
  have:=JG N hN (l:=l) (R:=rowsOf l K) hq ω (by rw[cR];omega) (λr hr=>by
   unfold rowsOf at hr
   obtain⟨k,hk,rfl⟩:=cA.1 hr
   refine⟨?_,rfl⟩
   show bk (bS k.1 k.2 l)
   by_cases Xl:k∈l.map keyOf
   ·have e:rowsOf l (l.map keyOf)=l:=jc hs
    have hm:wO l k∈rowsOf l (l.map keyOf):=dF Xl
    rw[e]at hm
    exact HQ (wO l k) hm
   ·rw[ee Xl];exact⟨δ,δ⟩)
  rw[wb,cR]at this
  exact this
theorem gI{l:ak}(h:cB l=true):nW (l.map keyOf)∧(∀x∈l,bK x.1 x.2.1∧xd (da x)):=by
 unfold cB at h
 rw[eB]at h
 have h':=bH h
 have get: ∀(i:Nat) (hi:i<l.length),l.getD i aH=l[i]:=λi hi=>by rw[aR,bc hi];rfl
 have LY: ∀i,i+1<l.length→nR (keyOf (l.getD i aH)) (keyOf (l.getD (i+1) aH)):=λi hi=>(h' (i+1) hi).2.2.2 ω
 have dv: ∀j,j<l.length→ ∀i,i<j→nR (keyOf (l.getD i aH)) (keyOf (l.getD j aH)):=by
  intro j
  induction j with
  |zero=>intro _ i hi;omega
  |succ j ih=>
   intro hj i hi
   by_cases e:i=j
   ·rw[e];exact LY j hj
   ·exact rr (ih ω i ω) (LY j hj)
 refine⟨?_,λx hx=> ?_⟩
 ·refine s0.2 (xu.2 λi j hi hj ns=> ?_)
  have:=dv j hj i ns
  rw[get i hi,get j hj]at this
  exact this
 ·obtain⟨i,hi,e⟩:=iz hx
  have:=h' i hi
  unfold jb jr at this
  rw[get i hi,e]at this
  exact⟨this.1,this.2.2.1⟩
theorem OI(N:Nat)(hN:2000000≤N){l E:ak}(hk:cB l=true)(hl:l.length≤90000)(HQ:c3 l)(g:EA E):bt N l E=o7 (cO Fq (fS l E) (jw (l.map keyOf) E)):=by
 obtain⟨hs,CS⟩:=gI hk
 have hE:=g.len
 unfold bt bt.b
 rw[qD N ω ω,hk,ag,aN,an,av ω,an]
 refine yW E aH (λn i=>bt.l4 N n l E E (E.length:Int) i) (λ_=>o7 (cO Fq (fS l E) (jw (l.map keyOf) E))) (λn i hi hr=> ?_) (λn=> ?_) N ω
 ·unfold bt.l4 bt.de
  have hm:E.getD i aH∈E:=by
   rw[aR,bc hi];exact c6 hi
  rw[az ω,aa,aE ω ω,aa,aw,Ig,aD (g.place _ hm),ag,aN,an,ny,ag,
   aD (show xd ((E.getD i aH).2.2.1)from(g.q _ hm).2),aN,an,ay (x:=(i:Int)+1) ω ω,ah i]
  exact hr
 ·unfold bt.l4 bt.de
  have hf:ei N E=some true:=by
   rw[LX N hN (λx hx=>(g.q x hx).1) ω,aD (p:= ∀j,j<ia→A7 E j) (λj _=>g.flat (j:Int))];rfl
  rw[av ω,an,hf,ag,aN,an,o8 N ω,ag]
  exact JH N hN (λx hx=>(g.q x hx).1) hE (λx hx=>A8 (g.place x hx)) hs hl HQ (λx hx=>A8 (CS x hx).1)
def uh(a b:Nat):Nat→List bZ
 |0=>[]
 |m+1=>((a:Int),(b:Int))::uh a (b+1) m
def rW(w a:Nat):Nat→List bZ
 |0=>[]
 |m+1=>uh a 0 w++rW w (a+1) m
theorem ui{k:bZ}{a:Nat}: ∀{m b:Nat},k∈uh a b m↔k.1=a∧(b:Int)≤k.2∧k.2<(b+m:Nat)
 |0,b=>⟨λh=>(nomatch h),λh=>ω⟩
 |m+1,b=>by
  show k∈((a:Int),(b:Int))::uh a (b+1) m↔_
  rw[aV,ui]
  have:k=((a:Int),(b:Int))↔k.1=a∧k.2=b:=⟨λh=>h▸⟨rfl,rfl⟩,λh=>ff h.1 h.2⟩
  rw[this]
  omega
theorem jY{k:bZ}{w:Nat}: ∀{m a:Nat},k∈rW w a m↔(a:Int)≤k.1∧k.1<(a+m:Nat)∧0≤k.2∧k.2<w
 |0,a=>⟨λh=>(nomatch h),λh=>ω⟩
 |m+1,a=>by
  show k∈uh a 0 w++rW w (a+1) m↔_
  rw[br,ui,jY]
  omega
theorem EB(a:Nat): ∀(m b:Nat),nW (uh a b m)
 |0,b=>List.Pairwise.nil
 |m+1,b=>ez.2 ⟨λk hk=>by
  have:=ui.1 hk
  show(a:Int)<k.1∨((a:Int)=k.1∧(b:Int)<k.2)
  omega,EB a m (b+1)⟩
theorem jZ(w:Nat): ∀(m a:Nat),nW (rW w a m)
 |0,a=>List.Pairwise.nil
 |m+1,a=>List.pairwise_append.2 ⟨EB a w 0,jZ w m (a+1),λx hx y hy=>by
  have h1:=ui.1 hx
  have h2:=jY.1 hy
  show x.1<y.1∨(x.1=y.1∧x.2<y.2)
  omega⟩
structure Mark(l:ak)(a b p:Nat):Prop where
 le:p≤l.length
 lo: ∀x∈l.take p,nR (keyOf x) ((a:Int),(b:Int))
 hi: ∀x∈l.drop p,¬nR (keyOf x) ((a:Int),(b:Int))
theorem oq{k:bZ}{a b:Nat}:nR k ((a:Int),((b+1:Nat):Int))↔nR k ((a:Int),(b:Int))∨k=((a:Int),(b:Int)):=by
 have:k=((a:Int),(b:Int))↔k.1=a∧k.2=b:=⟨λh=>h▸⟨rfl,rfl⟩,λh=>ff h.1 h.2⟩
 rw[this]
 show(k.1<(a:Int)∨(k.1=(a:Int)∧k.2<((b+1:Nat):Int)))↔(k.1<(a:Int)∨(k.1=(a:Int)∧k.2<(b:Int)))∨_
 omega
theorem Mark.row{l:ak}{a w p:Nat}(h:Mark l a w p)(hw: ∀x∈l,0≤(keyOf x).2∧(keyOf x).2<w):Mark l (a+1) 0 p:=by
 have key: ∀x∈l,(nR (keyOf x) ((a:Int),(w:Int))↔nR (keyOf x) (((a+1:Nat):Int),((0:Nat):Int))):=λx hx=>by
  have:=hw x hx
  show((keyOf x).1<(a:Int)∨((keyOf x).1=(a:Int)∧(keyOf x).2<(w:Int)))↔((keyOf x).1<((a+1:Nat):Int)∨((keyOf x).1=((a+1:Nat):Int)∧(keyOf x).2<((0:Nat):Int)))
  omega
 exact⟨h.le,λx hx=>(key x (sW hx)).1 (h.lo x hx),λx hx k=>h.hi x hx ((key x (pO hx)).2 k)⟩
theorem Cg(a b:Int)(l m:ak):bS a b (l++m)=bS a b l+bS a b m:=by
 induction l with
 |nil=>rw[c7,JF];omega
 |cons x t ih=>rw[nj,iR,iR,ih];omega
theorem Mark.step{l:ak}(hs:nW (l.map keyOf)){a b p:Nat}(h:Mark l a b p):
  (p<l.length∧(l.getD p aH).1=(a:Int)∧(l.getD p aH).2.1=(b:Int)∧bS (a:Int) (b:Int) l=da (l.getD p aH)∧Mark l a (b+1) (p+1))∨
  ((p<l.length→(l.getD p aH).1=(a:Int)→(l.getD p aH).2.1=(b:Int)→False)∧bS (a:Int) (b:Int) l=0∧Mark l a (b+1) p):=by
 have no: ∀{x:dJ} {k:bZ},¬keyOf x=k→ ¬(x.1=k.1∧x.2.1=k.2):=λh e=>h (ff e.1 e.2)
 have hz:bS (a:Int) (b:Int) (l.take p)=0:=gH λx hx e=>by
  have e':keyOf x=((a:Int),(b:Int)):=ff e.1 e.2
  have:=h.lo x hx
  rw[e']at this
  exact ko this
 have OJ:bS (a:Int) (b:Int) l=bS (a:Int) (b:Int) (l.drop p):=by
  conv=>lhs;rw[←gg p l]
  rw[Cg,hz];omega
 by_cases hp:p<l.length
 ·have hd:=drop_cons hp aH
  have hsd:nW ((l.drop p).map keyOf):=by
   rw[List.map_drop];exact pN (List.drop_sublist ..) hs
  have AI:=h.hi
  rw[hd]at hsd AI OJ
  have hgt:=(ez.1 hsd).1
  have Q7:=AI _ (bg ..)
  have Xm:l.take (p+1)=l.take p++[l.getD p aH]:=by
   rw[←sT hp,aR,bc hp];rfl
  by_cases he:keyOf (l.getD p aH)=((a:Int),(b:Int))
  ·refine Or.inl ⟨hp,cN Prod.fst he,cN Prod.snd he,?_,ω,λx hx=> ?_,λx hx hk=> ?_⟩
   ·rw[OJ,iR,ae ⟨cN Prod.fst he,cN Prod.snd he⟩,gH λx hx e=> ?_]
    ·omega
    ·have hg:=hgt (keyOf x) (dF hx)
     have e':keyOf x=((a:Int),(b:Int)):=ff e.1 e.2
     rw[he,e']at hg
     exact ko hg
   ·rw[Xm]at hx
    rcases br.1 hx with hx|hx
    ·exact oq.2 (Or.inl (h.lo x hx))
    ·rw[dw.1 hx];exact oq.2 (Or.inr he)
   ·have hg:=hgt (keyOf x) (dF hx)
    rw[he]at hg
    rcases oq.1 hk with hk|hk
    ·exact A4 hg hk
    ·rw[hk]at hg;exact ko hg
  ·have fi: ∀x∈l.getD p aH::l.drop (p+1),keyOf x≠((a:Int),(b:Int)):=λx hx e=>by
    rcases aV.1 hx with rfl|hx
    ·exact he e
    ·have hg:=hgt (keyOf x) (dF hx)
     rw[e]at hg
     exact Q7 hg
   refine Or.inr ⟨λ_ e1 e2=>he (ff e1 e2),?_,h.le,λx hx=>oq.2 (Or.inl (h.lo x hx)),λx hx hk=> ?_⟩
   ·rw[OJ]
    exact gH λx hx=>no (fi x hx)
   ·rw[hd]at hx
    rcases oq.1 hk with hk|hk
    ·exact AI x hx hk
    ·exact fi x hx hk
 ·have hd:l.drop p=[]:=xw ω
  refine Or.inr ⟨λh=>absurd h hp,by rw[OJ,hd];rfl,h.le,λx hx=>oq.2 (Or.inl (h.lo x hx)),λx hx=> ?_⟩
  rw[hd]at hx;nomatch hx
def qJ(out:ak)(r:Option ak):Option (ak×Bool):=some (match r with|some o=>(out++o,true)|none=>([],false))
theorem Ch(N:Nat)(v:Int):OK N (bU v)=some (if Fq v then(v,true)else(0,false)):=by
 unfold OK
 rw[LG,ag]
 by_cases h:bk v
 ·rw[uc h]
  dsimp only
  rw[aN,an,au]
  by_cases h2:xd v
  ·rw[af (show ¬v= -9223372036854775808 from h2),ae (show Fq v from⟨h,h2⟩)]
  ·rw[ae (show v= -9223372036854775808 by unfold xd at h2;omega),af (λh=>h2 h.2)]
 ·rw[xf h,af (λk=>h k.1)]
  rfl
theorem LZ(N:Nat)(hN:4000000≤N)(C4:ch.bz)(C7:ch.fw){l E out:ak}(hq:c3 E)(hl:E.length≤100000)(ho:out.length≤1000000)(p:Int)(a b:Nat)(hb:b≤1000000)(q:Int)(hF:Fq q):
  ch.OL N C4 C7 N l E out p (a:Int) (b:Int) q false (false,(([]:List Int),())) 0=
   if Fq (q+bS (a:Int) (b:Int) E)then C7 l E (if q+bS (a:Int) (b:Int) E=0 then out else out++[((a:Int),((b:Int),(q+bS (a:Int) (b:Int) E,())))]) p (a:Int) ((b+1:Nat):Int)else some ([],false):=by
 have:=hZ E aH (λn j ws=>ch.OL N C4 C7 n l E out p (a:Int) (b:Int) q (!ws.isEmpty) (bU ws.sum) j)
  (λt ws=>if Fq (q+(ws++cq (a:Int) (b:Int) t).sum)then C7 l E (if q+(ws++cq (a:Int) (b:Int) t).sum=0 then out else out++[((a:Int),((b:Int),(q+(ws++cq (a:Int) (b:Int) t).sum,())))]) p (a:Int) ((b+1:Nat):Int)else some ([],false))
  (λj (ws:List Int)=>ws.length≤j∧ ∀x∈ws,bk x)
  (λn j ws hj hI fN=> ?_) (λn ws hI=> ?_) E.length N 0 [] ω ω ω ⟨aB _,λx hx=>nomatch hx⟩
 ·rw[show((0:Nat):Int)=0 from rfl,bY,jj,fl]at this
  exact this
 ·unfold ch.OL ch.OM
  have jV:=o4 hq j
  have fp:=jV
  unfold bk da at fp
  have hb:=Et hI.2
  rw[az ω,aa,aE ω ω,aa,aa,aa,aw,er N ω fp.1 fp.2,ag,kk N ω ((xa (n:=ws.length) ω hb.1 hb.2).mono ω) ((Fit.i64 fp.1 fp.2).mono ω),ag,ay (x:=(j:Int)+1) ω ω,ah j,au,au]
  by_cases h1:(E.getD j aH).1=(a:Int)
  ·by_cases h2:(E.getD j aH).2.1=(b:Int)
   ·have hc:cq (a:Int) (b:Int) (E.getD j aH::E.drop (j+1))=da (E.getD j aH)::cq (a:Int) (b:Int) (E.drop (j+1)):=by rw[c4,ae ⟨h1,h2⟩]
    rw[ae h1,ae h2,hc]
    have:=fN (ws++[da (E.getD j aH)]) ⟨by rw[aC,aQ];omega,ve hI.2 jV⟩
    rw[n0,eA,jj,iD,aT]at this
    refine Eq.trans ?_ this
    rw[show(!(ws++[da (E.getD j aH)]).isEmpty)=true by cases ws<;>rfl]
    rfl
   ·have hc:cq (a:Int) (b:Int) (E.getD j aH::E.drop (j+1))=cq (a:Int) (b:Int) (E.drop (j+1)):=by rw[c4,af (λh=>h2 h.2)]
    rw[ae h1,af h2,hc]
    exact fN ws ⟨ω,hI.2⟩
  ·have hc:cq (a:Int) (b:Int) (E.getD j aH::E.drop (j+1))=cq (a:Int) (b:Int) (E.drop (j+1)):=by rw[c4,af (λh=>h1 h.1)]
   rw[af h1,hc]
   exact fN ws ⟨ω,hI.2⟩
 ·unfold ch.OL ch.OM
  have hs:=Et hI.2
  have Ih:=hF.1
  unfold bk at Ih
  rw[av ω,an,er N ω Ih.1 Ih.2,ag,kk N ω ((xa (n:=ws.length) ω hs.1 hs.2).mono ω) ((Fit.i64 Ih.1 Ih.2).mono ω),ag,Ch,ag,ay (x:=(b:Int)+1) ω ω,ah b,bo (by rw[aQ];omega),aa,bo (by rw[aQ];omega),aa,cond_not]
  show _=if Fq (q+(ws++[]).sum)then C7 l E (if q+(ws++[]).sum=0 then out else out++[((a:Int),((b:Int),(q+(ws++[]).sum,())))]) p (a:Int) ((b+1:Nat):Int)else some ([],false)
  rw[bF,Int.add_comm ws.sum q]
  cases ws with
  |nil=>
   show cond (!bf q 0) _ _=_
   rw[cond_not,au,jj,iD,ae hF]
   by_cases h:q=0
   ·rw[ae h,ae h]
   ·rw[af h,af h]
  |cons w ws=>
   show cond (!(if Fq (q+(w::ws).sum)then(q+(w::ws).sum,true)else(0,false)).2) _ _=_
   by_cases h2:Fq (q+(w::ws).sum)
   ·rw[ae h2,ae h2]
    dsimp only
    rw[aN,an,cond_not,au]
    by_cases h:q+(w::ws).sum=0
    ·rw[ae h,ae h]
    ·rw[af h,af h]
   ·rw[af h2,af h2];rfl
theorem A9{P:Int→Prop} [DecidablePred P]{f:Int→Int→Int}{k:bZ}{K:List bZ}{out:ak}{v:Int}(hv:f k.1 k.2=v):
  (if P v then qJ (if v=0 then out else out++[(k.1,(k.2,(v,())))]) (cO P f K)else some ([],false))=qJ out (cO P f (k::K)):=by
 rw[gV,hv]
 by_cases h:P v
 ·rw[ae h,ae h]
  cases cO P f K with
  |none=>rfl
  |some o=>
   show some ((if v=0 then out else out++[(k.1,(k.2,(v,())))])++o,true)=some (out++(if v=0 then o else(k.1,(k.2,(v,())))::o),true)
   by_cases h0:v=0
   ·rw[ae h0,ae h0]
   ·rw[af h0,af h0,aT];rfl
 ·rw[af h,af h];rfl
theorem Xn{l:ak}(hs:nW (l.map keyOf))(hl: ∀x∈l,Fq (da x))(k:bZ):Fq (bS k.1 k.2 l):=by
 by_cases hk:k∈l.map keyOf
 ·have hm:wO l k∈rowsOf l (l.map keyOf):=dF hk
  rw[jc hs]at hm
  exact hl (wO l k) hm
 ·rw[ee hk];exact⟨⟨δ,δ⟩,δ⟩
theorem Ba(N:Nat)(hN:4000000≤N)(C:ch.bz){l E:ak}(hq:c3 E)(hl:E.length≤100000)(hs:nW (l.map keyOf))(IV:l.length≤100000)(hf: ∀x∈l,Fq (da x))(hw: ∀x∈l,0≤(keyOf x).2∧(keyOf x).2<(6:Nat))(a:Nat)(ha:a≤24)(G:List bZ)
  (hc: ∀(p:Nat) (out:ak),Mark l (a+1) 0 p→out.length≤6*(a+1)→C l E out (p:Int) ((a+1:Nat):Int)=qJ out (cO Fq (fS l E) G)):
  ∀(m n b p:Nat) (out:ak),b+m=6→m<n→Mark l a b p→out.length≤6*a+b→ch.l7 N C n l E out (p:Int) (a:Int) (b:Int)=qJ out (cO Fq (fS l E) (uh a b m++G))
 |m,0,b,p,out,_,hn,_,_=>ω
 |0,n+1,b,p,out,hb,_,hM,ho=>by
  have e:b=6:=ω
  subst e
  unfold ch.l7 ch.pA
  rw[av ω,an,ay (x:=(a:Int)+1) ω ω,ah a]
  exact hc p out (hM.row hw) ω
 |m+1,n+1,b,p,out,hb,hn,hM,ho=>by
  have hp:=hM.le
  have S1: ∀(p:Nat) (v:Int),Mark l a (b+1) p→ch.l7 N C n l E (if v=0 then out else out++[((a:Int),((b:Int),(v,())))]) (p:Int) (a:Int) ((b+1:Nat):Int)=qJ (if v=0 then out else out++[((a:Int),((b:Int),(v,())))]) (cO Fq (fS l E) (uh a (b+1) m++G)):=λp v h=>
   Ba N hN C hq hl hs IV hf hw a ha G hc m n (b+1) p _ ω ω h (by
    split
    ·omega
    ·rw[aC,aQ];omega)
  have rL:=Xn hs hf ((a:Int),(b:Int))
  unfold ch.l7 ch.pA ch.Nn ch.GU
  show _=qJ out (cO Fq (fS l E) (((a:Int),(b:Int))::(uh a (b+1) m++G)))
  rw[az (x:=(b:Int)) ω,aa,bb,au,au,aw]
  have fin: ∀(p:Nat) (q:Int),q=bS (a:Int) (b:Int) l→Mark l a (b+1) p→ch.OL N C (ch.l7 N C n) N l E out (p:Int) (a:Int) (b:Int) q false (false,(([]:List Int),())) 0=qJ out (cO Fq (fS l E) (((a:Int),(b:Int))::(uh a (b+1) m++G))):=λp q e h=>by
   subst e
   rw[LZ N hN C _ hq hl ω (p:Int) a b ω _ rL,S1 p _ h]
   exact A9 (k:=((a:Int),(b:Int))) rfl
  rcases hM.step hs with⟨h1,h2,h3,h4,h5⟩|⟨h1,h2,h3⟩
  ·rw[ae (show(p:Int)<(l.length:Int)by omega),aE ω ω,aa,aa,ae h2,ae h3,ay (x:=(p:Int)+1) ω ω,ah p,aa]
   exact fin (p+1) _ h4.symm h5
  ·by_cases g1:p<l.length
   ·rw[ae (show(p:Int)<(l.length:Int)by omega),aE ω ω,aa,aa]
    by_cases g2:(l.getD p aH).1=(a:Int)
    ·rw[ae g2,af (λg3=>h1 g1 g2 g3)]
     exact fin p _ h2.symm h3
    ·rw[af g2]
     exact fin p _ h2.symm h3
   ·rw[af (show ¬(p:Int)<(l.length:Int)by omega)]
    exact fin p _ h2.symm h3
theorem Bb(N:Nat)(hN:4000000≤N){l E:ak}(hq:c3 E)(hl:E.length≤100000)(hs:nW (l.map keyOf))(IV:l.length≤100000)(hf: ∀x∈l,Fq (da x))(hw: ∀x∈l,0≤(keyOf x).2∧(keyOf x).2<(6:Nat)):
  ∀(m n a p:Nat) (out:ak),a+m=25→m<n→Mark l a 0 p→out.length≤6*a→ch.l4 N n l E out (p:Int) (a:Int)=qJ out (cO Fq (fS l E) (rW 6 a m))
 |m,0,a,p,out,_,hn,_,_=>ω
 |0,n+1,a,p,out,ha,_,hM,ho=>by
  unfold ch.l4 ch.de
  rw[fA ω,an]
  show some (out,true)=some (out++[],true)
  rw[bF]
 |m+1,n+1,a,p,out,ha,hn,hM,ho=>by
  unfold ch.l4 ch.de
  rw[fT ω,aa]
  exact Ba N hN _ hq hl hs IV hf hw a ω (rW 6 (a+1) m) (λp out h ho=>Bb N hN hq hl hs IV hf hw m n (a+1) p out ω ω h ho) 6 N 0 p out ω ω hM ω
def ga:List bZ:=rW 6 0 25
theorem GV(N:Nat)(hN:4000000≤N){l E:ak}(hk:cB l=true)(hl:l.length≤90000)(HQ:c3 l)(hq:c3 E)(hE:E.length≤100000):ch N l E=qJ [] (cO Fq (fS l E) ga):=by
 obtain⟨hs,CS⟩:=gI hk
 unfold ch ch.b
 refine Bb N hN hq hE hs ω (λx hx=>⟨HQ x hx,(CS x hx).2⟩) (λx hx=> ?_) 25 N 0 0 [] ω ω ⟨ω,λx hx=>(nomatch hx),λx hx dv=> ?_⟩ (by simp)
 ·have h:bK (keyOf x).1 (keyOf x).2:=(CS x hx).1
  unfold bK at h;omega
 ·have h:bK (keyOf x).1 (keyOf x).2:=(CS x (pO hx)).1
  unfold bK at h
  have qq:(keyOf x).1<((0:Nat):Int)∨((keyOf x).1=((0:Nat):Int)∧(keyOf x).2<((0:Nat):Int)):=dv
  omega
theorem JI{l E:ak}(hk:cB l=true)(hp: ∀x∈E,bK x.1 x.2.1):cO Fq (fS l E) (jw (l.map keyOf) E)=cO Fq (fS l E) ga:=by
 obtain⟨hs,CS⟩:=gI hk
 refine Ey ⟨⟨δ,δ⟩,δ⟩ (sA hs) (jZ 6 25 0) (λk hk=> ?_) (λk hk hn=> ?_)
 ·have:bK k.1 k.2:=by
   rcases iS.1 hk with h|⟨x,hx,rfl⟩
   ·obtain⟨x,hx,rfl⟩:=cA.1 h
    exact(CS x hx).1
   ·exact hp x hx
  unfold bK at this
  exact jY.2 ω
 ·have h1:k∉l.map keyOf:=λh=>hn (iS.2 (Or.inl h))
  have h2:k∉E.map keyOf:=λh=>by
   obtain⟨x,hx,e⟩:=cA.1 h
   exact hn (iS.2 (Or.inr ⟨x,hx,e⟩))
  unfold fS
  rw[ee h1,ee h2];rfl
def wP(E:ak):Prop:= ∀x∈E,bO (da x)
def eu(r:dJ):nD:=(r.1,(r.2.1,(bp (da r),())))
theorem xg(E:ak)(i:Nat):(E.map eu).getD i ((0:Int),((0:Int),(dC,())))=eu (E.getD i aH):=by
 by_cases h:i<E.length
 ·rw[aR,nX,bc h,aR,bc h];rfl
 ·rw[aR,fC (by rw[bI];omega),aR,fC ω];rfl
theorem xh{l:ak}(h:wP l)(i:Nat):bO (da (l.getD i aH)):=by
 by_cases hi:i<l.length
 ·rw[aR,bc hi];exact h _ (c6 hi)
 ·rw[aR,fC ω];exact⟨δ,δ⟩
theorem zd{x:Int}(h:bk x):bO x:=by unfold bk at h;unfold bO;omega
theorem pb{ws:List Int}{x:Int}(h: ∀y∈ws,bO y)(hx:bO x): ∀y∈ws++[x],bO y:=λy hy=>by
 rcases br.1 hy with hy|hy
 ·exact h y hy
 ·rw[dw.1 hy];exact hx
theorem L0(N:Nat){l:ak}:S2 N l=some l:=Ez N
theorem L1(N:Nat)(hN:2000000≤N)(K:bu.Bc){E out R:ak}(hq:wP E)(hl:E.length≤100000)(ho:out.length≤1000000)(r:dJ)(hr:bk (da r))(i:Nat)(hi:i≤1000000):
  bu.Rh N K N (E.map eu) out r [bp (da r)] R (R.length:Int) (i:Int) (E.map eu) ((E.map eu).length:Int) 0=
   if bk (da r+bS r.1 r.2.1 E)then K (E.map eu) (if da r+bS r.1 r.2.1 E=0 then out else out++[(r.1,(r.2.1,(da r+bS r.1 r.2.1 E,())))]) R (R.length:Int) ((i+1:Nat):Int)else some (cj,(2:Int)):=by
 have:=hZ E aH (λn j ws=>bu.Rh N K n (E.map eu) out r (ws.map bp) R (R.length:Int) (i:Int) (E.map eu) ((E.map eu).length:Int) j)
  (λt ws=>if bk (ws++cq r.1 r.2.1 t).sum then K (E.map eu) (if(ws++cq r.1 r.2.1 t).sum=0 then out else out++[(r.1,(r.2.1,((ws++cq r.1 r.2.1 t).sum,())))]) R (R.length:Int) ((i+1:Nat):Int)else some (cj,(2:Int)))
  (λj (ws:List Int)=>ws.length≤j+1∧ ∀x∈ws,bO x)
  (λn j ws hj hI fN=> ?_) (λn ws hI=> ?_) E.length N 0 [da r] ω ω ω ⟨aB _,λx hx=>by rw[dw.1 hx];exact zd hr⟩
 ·rw[show((0:Nat):Int)=0 from rfl,bY]at this
  refine this.trans ?_
  have e:([da r]++cq r.1 r.2.1 E).sum=da r+bS r.1 r.2.1 E:=by rw[Dg,eA];rfl
  rw[e]
 ·unfold bu.Rh bu.ON
  rw[az (by rw[bI];omega),aa,aE ω (by rw[bI];omega),aa,aw,xg,bo (by rw[bI,aQ];omega),aa,ay (x:=(j:Int)+1) ω ω,ah j,au,au]
  by_cases h1:(E.getD j aH).1=r.1
  ·by_cases h2:(E.getD j aH).2.1=r.2.1
   ·have hc:cq r.1 r.2.1 (E.getD j aH::E.drop (j+1))=da (E.getD j aH)::cq r.1 r.2.1 (E.drop (j+1)):=by rw[c4,ae ⟨h1,h2⟩]
    rw[ae (show(eu (E.getD j aH)).1=r.1 from h1),ae (show(eu (E.getD j aH)).2.1=r.2.1 from h2),hc]
    have:=fN (ws++[da (E.getD j aH)]) ⟨by rw[aC,aQ];omega,pb hI.2 (xh hq j)⟩
    rw[cH]at this
    refine this.trans ?_
    rw[aT];rfl
   ·have hc:cq r.1 r.2.1 (E.getD j aH::E.drop (j+1))=cq r.1 r.2.1 (E.drop (j+1)):=by rw[c4,af (λh=>h2 h.2)]
    rw[ae (show(eu (E.getD j aH)).1=r.1 from h1),af (show ¬(eu (E.getD j aH)).2.1=r.2.1 from h2),hc]
    exact fN ws ⟨ω,hI.2⟩
  ·have hc:cq r.1 r.2.1 (E.getD j aH::E.drop (j+1))=cq r.1 r.2.1 (E.drop (j+1)):=by rw[c4,af (λh=>h1 h.1)]
   rw[af (show ¬(eu (E.getD j aH)).1=r.1 from h1),hc]
   exact fN ws ⟨ω,hI.2⟩
 ·unfold bu.Rh bu.ON
  rw[av (by rw[bI];omega),an,xb N hI.2 ω ω,ag]
  show _=if bk (ws++[]).sum then K (E.map eu) (if(ws++[]).sum=0 then out else out++[(r.1,(r.2.1,((ws++[]).sum,())))]) R (R.length:Int) ((i+1:Nat):Int)else some (cj,(2:Int))
  rw[bF]
  unfold Ej
  by_cases h0:bO ws.sum
  ·rw[ae h0]
   dsimp only
   rw[zc N h0,ag,aN,an]
   by_cases h1:bk ws.sum
   ·rw[uc h1]
    dsimp only
    rw[aN,an,cond_not,au,bo (by rw[aQ];omega),aa,ay (x:=(i:Int)+1) ω ω,ah i,ae h1]
    split<;>rfl
   ·rw[xf h1,af h1]
    rfl
  ·rw[af h0,af (λh=>h0 (zd h))]
   have e:SW N dC=some (CR 0):=zc N (v:=0) ⟨δ,δ⟩
   dsimp only
   rw[e,ag]
   rfl
theorem JJ(N:Nat)(hN:2000000≤N){l E R:ak}(hq:wP E)(hl:E.length≤100000)(hR:R.length≤200000)(hv: ∀r∈R,bk (da r)∧da r=bS r.1 r.2.1 l):
  bu.OO N N (E.map eu) [] R (R.length:Int) 0=o7 (cO bk (fS l E) (R.map keyOf)):=by
 have:=hZ R aH (λn i out=>bu.OO N n (E.map eu) out R (R.length:Int) i) (λt out=>o7 ((cO bk (fS l E) (t.map keyOf)).map (λo=>out++o))) (λi (out:ak)=>out.length≤i)
  (λn i out hi hI hr=> ?_) (λn out hI=> ?_) R.length N 0 [] ω ω ω (aB _)
 ·rw[show((0:Nat):Int)=0 from rfl,bY]at this
  refine this.trans ?_
  simp
 ·unfold bu.OO bu.OP
  have hm:R.getD i aH∈R:=by
   rw[aR,bc hi];exact c6 hi
  have Gd:=hv _ hm
  have jV:=Gd.1
  have fp:=jV
  unfold bk da at fp
  rw[az ω,aa,aE ω ω,aa,aw,oV N fp.1 fp.2,ag]
  refine(L1 N hN _ hq hl ω _ jV i ω).trans ?_
  rw[bA,gV]
  have ef:fS l E (keyOf (R.getD i aH)).1 (keyOf (R.getD i aH)).2=da (R.getD i aH)+bS (R.getD i aH).1 (R.getD i aH).2.1 E:=by
   show bS _ _ l+bS _ _ E=_
   rw[Gd.2];rfl
  rw[ef]
  generalize hS:da (R.getD i aH)+bS (R.getD i aH).1 (R.getD i aH).2.1 E=v
  by_cases hF:bk v
  ·rw[ae hF,ae hF,hr _ (by
    split
    ·omega
    ·rw[aC,aQ];omega)]
   cases cO bk (fS l E) ((R.drop (i+1)).map keyOf)with
   |none=>rfl
   |some o=>
    show o7 (some _)=o7 (some _)
    congr 2
    split
    ·rfl
    ·exact aT _ _ _
  ·rw[af hF,af hF];rfl
 ·unfold bu.OO bu.OP
  rw[av ω,an,L0,ag]
  show _=o7 (some (out++[]))
  rw[bF];rfl
theorem Ri(N:Nat)(C:bu.lE){l:ak}{E S:bD}{K:List bZ}(hs:nW K)(hl:K.length≤100000)(hf: ∀k∈K,ue k)(x:nD)(k:bZ)(hxk:(x.1,x.2.1)=k)(hx:ue k)(hz:zeroAt l K k)(len:Int)(i:Nat)(hi:i≤1000000):
  ∀(m n p:Nat),K.length-p≤m→m<n→p≤K.length→(∀y∈K.take p,nR y k)→
   bu.VC N C n E (rowsOf l K) x (p:Int) S len (i:Int)=C E (rowsOf l (K.take p++qI k (K.drop p))) S len ((i+1:Nat):Int)
 |m,0,p,_,hn,_,_=>ω
 |m,n+1,p,hm,hn,hp,hb=>by
  unfold bu.VC bu.S3 bu.Xo bu.S4
  rw[cR,ay (x:=(i:Int)+1) ω ω,ah i]
  have ex:((x.1,(x.2.1,((0:Int),()))):dJ)=(k.1,(k.2,((0:Int),()))):=by rw[←hxk]
  by_cases h:p<K.length
  ·have Xk:=hf (K.getD p (0,0)) (by rw[aR,bc h];exact c6 h)
   have ho:GI N x.1 x.2.1 ((rowsOf l K).getD p aH)=some (uX k.1 k.2 (K.getD p (0,0)).1 (K.getD p (0,0)).2):=by
    rw[A6 l h]
    rw[←hxk]at hx ⊢
    exact yY N hx.1 hx.2 Xk.1 Xk.2
   rw[az ω,aa,aE ω ω,aa,aw,ho,ag,eP (x:=(p:Int)) ω,an,aa,ag,bb,cond_not,au,Im h]
   by_cases h1:nR (K.getD p (0,0)) k
   ·rw[ae (ud.2 h1),ae h1,ay (x:=(p:Int)+1) ω ω,ah p,ug h]
    refine Ri N C hs hl hf x k hxk hx hz len i hi (m-1) n (p+1) ω ω ω λy hy=> ?_
    rw[←sT h]at hy
    rcases br.1 hy with hy|hy
    ·exact hb y hy
    ·rw[aR,bc h]at h1
     rw[dw.1 hy];exact h1
   ·rw[af (λh=>h1 (ud.1 h)),af h1]
    by_cases h2:K.getD p (0,0)=k
    ·rw[ae (ru.2 h2),ae h2,gg]
    ·rw[af (λh=>h2 (ru.1 h)),af h2,xe N (by rw[cR];omega) (by rw[cR];omega),ag]
     have w3:=hz (pa hs hb (Io hs h h1 h2))
     have e:=o9 l K p k
     rw[←ry w3]at e
     refine Eq.trans ?_ (cN (λR=>C E R S len ((i+1:Nat):Int)) e)
     exact cN (λz:dJ=>C E ((rowsOf l K).take p++z::(rowsOf l K).drop p) S len ((i+1:Nat):Int)) ex
  ·have hd:K.drop p=[]:=xw ω
   rw[av ω,an,dS ω,aa,xe N (by rw[cR];omega) (by rw[cR];omega),ag]
   have w3:=hz (pa hs hb (by rw[hd];exact λx hx=>nomatch hx))
   have e:=o9 l K p k
   rw[←ry w3]at e
   have e2:qI k (K.drop p)=k::K.drop p:=by rw[hd];rfl
   rw[e2]
   refine Eq.trans ?_ (cN (λR=>C E R S len ((i+1:Nat):Int)) e)
   exact cN (λz:dJ=>C E ((rowsOf l K).take p++z::(rowsOf l K).drop p) S len ((i+1:Nat):Int)) ex
theorem JK(N:Nat)(hN:2000000≤N){l E:ak}(hq:wP E)(hE:E.length≤400)(hp: ∀x∈E,ue (keyOf x))(hs:nW (l.map keyOf))(hl:l.length≤90000)(HQ:c3 l)(CS: ∀x∈l,ue (keyOf x)):
  bu.vY N N (E.map eu) l (E.map eu) ((E.map eu).length:Int) 0=o7 (cO bk (fS l E) (jw (l.map keyOf) E)):=by
 have:=hZ E aH (λn i K=>bu.vY N n (E.map eu) (rowsOf l K) (E.map eu) ((E.map eu).length:Int) i) (λt K=>o7 (cO bk (fS l E) (jw K t)))
  (λi (K:List bZ)=>K.length≤l.length+i∧nW K∧(∀k∈K,ue k)∧ ∀x∈l,keyOf x∈K)
  (λn i K hi hI hr=> ?_) (λn K hI=> ?_) E.length N 0 (l.map keyOf) ω ω ω ⟨by rw[bI];omega,hs,λk hk=>by
   obtain⟨x,hx,rfl⟩:=cA.1 hk
   exact CS x hx,λx hx=>dF hx⟩
 ·rw[show((0:Nat):Int)=0 from rfl,bY]at this
  simp only[jc hs]at this
  exact this
 ·unfold bu.vY bu.vb
  obtain⟨h1,h2,h3,h4⟩:=hI
  have hm:E.getD i aH∈E:=by
   rw[aR,bc hi];exact c6 hi
  rw[az (by rw[bI];omega),aa,aE ω (by rw[bI];omega),aa,aw,xg]
  refine(Ri N _ h2 ω h3 (eu (E.getD i aH)) (keyOf (E.getD i aH)) rfl (hp _ hm) (λhk=>ee λhx=>hk (by
   obtain⟨x,hx,e⟩:=cA.1 hx
   rw[←e];exact h4 x hx)) ((E.map eu).length:Int) i ω K.length N 0 ω ω ω (λy hy=>nomatch hy)).trans ?_
  rw[pV,c7,bY,nC]
  refine hr (qI (keyOf (E.getD i aH)) K) ⟨iC (zb _ K) ω,ub h2,λk hk=>(mO.1 hk).elim (λe=>e▸hp _ hm) (h3 k),λx hx=>mO.2 (Or.inr (h4 x hx))⟩
 ·unfold bu.vY bu.vb
  obtain⟨h1,h2,h3,h4⟩:=hI
  rw[av (by rw[bI];omega),an,cR,c0 ω ω ω,aa]
  have:=JJ N hN (l:=l) (R:=rowsOf l K) hq ω (by rw[cR];omega) (λr hr=>by
   unfold rowsOf at hr
   obtain⟨k,hk,rfl⟩:=cA.1 hr
   refine⟨?_,rfl⟩
   show bk (bS k.1 k.2 l)
   by_cases Xl:k∈l.map keyOf
   ·have e:rowsOf l (l.map keyOf)=l:=jc hs
    have hm:wO l k∈rowsOf l (l.map keyOf):=dF Xl
    rw[e]at hm
    exact HQ (wO l k) hm
   ·rw[ee Xl];exact⟨δ,δ⟩)
  rw[wb,cR]at this
  exact this
theorem mP{l:ak}(h:dK l=true):nW (l.map keyOf)∧(∀x∈l,cT x.1 x.2.1):=by
 unfold dK at h
 rw[eB]at h
 have h':=bH h
 have get: ∀(i:Nat) (hi:i<l.length),l.getD i aH=l[i]:=λi hi=>by rw[aR,bc hi];rfl
 have LY: ∀i,i+1<l.length→nR (keyOf (l.getD i aH)) (keyOf (l.getD (i+1) aH)):=λi hi=>(h' (i+1) hi).2.2 ω
 have dv: ∀j,j<l.length→ ∀i,i<j→nR (keyOf (l.getD i aH)) (keyOf (l.getD j aH)):=by
  intro j
  induction j with
  |zero=>intro _ i hi;omega
  |succ j ih=>
   intro hj i hi
   by_cases e:i=j
   ·rw[e];exact LY j hj
   ·exact rr (ih ω i ω) (LY j hj)
 refine⟨?_,λx hx=> ?_⟩
 ·refine s0.2 (xu.2 λi j hi hj ns=> ?_)
  have:=dv j hj i ns
  rw[get i hi,get j hj]at this
  exact this
 ·obtain⟨i,hi,e⟩:=iz hx
  have:=h' i hi
  unfold iw iO at this
  rw[get i hi,e]at this
  exact this.1
structure EC(E:ak):Prop where
 key: ∀x∈E,cT x.1 x.2.1
 q:wP E
 len:E.length≤400
 zero:(E.map da).sum=0
theorem Ip{x:dJ}(h:cT x.1 x.2.1):ue (keyOf x):=by
 have h':cT (keyOf x).1 (keyOf x).2:=h
 unfold cT at h'
 unfold ue Ap
 omega
theorem L2(N:Nat)(hN:2000000≤N){l E:ak}(hk:dK l=true)(hl:l.length≤90000)(HQ:c3 l)(g:EC E):bu N l (E.map eu)=o7 (cO bk (fS l E) (jw (l.map keyOf) E)):=by
 obtain⟨hs,CS⟩:=mP hk
 have hE:=g.len
 unfold bu bu.b
 rw[B7 N ω ω,hk,ag,aN,an,av (by rw[bI];omega),an,c0 ω ω (by rw[bI];omega),aa]
 have:=hZ E aH (λn i (ws:List Int)=>bu.l5 N n l (E.map eu) (ws.map bp) (E.map eu) ((E.map eu).length:Int) i)
  (λt ws=>if(ws++t.map da).sum=0 then o7 (cO bk (fS l E) (jw (l.map keyOf) E))else none)
  (λj (ws:List Int)=>ws.length≤j∧(ws++(E.drop j).map da).sum=0∧ ∀x∈ws,bO x)
  (λn i ws hi hI hr=> ?_) (λn ws hI=> ?_) E.length N 0 [] ω ω ω ⟨aB _,g.zero,λx hx=>nomatch hx⟩
 ·rw[show((0:Nat):Int)=0 from rfl,bY]at this
  refine Eq.trans this ?_
  rw[c7,ae g.zero]
 ·unfold bu.l5 bu.fX
  have hm:E.getD i aH∈E:=by
   rw[aR,bc hi];exact c6 hi
  have N5:GH N (eu (E.getD i aH)).1 (eu (E.getD i aH)).2.1=some true:=by
   rw[GG]
   exact cN some (aD (g.key _ hm))
  rw[az (by rw[bI];omega),aa,aE ω (by rw[bI];omega),aa,aw,xg,N5,ag,aN,an,bo (by rw[bI,aQ];omega),aa,ay (x:=(i:Int)+1) ω ω,ah i]
  have h0:=hI.2.1
  rw[drop_cons hi aH,bA]at h0
  have:=hr (ws++[da (E.getD i aH)]) ⟨by rw[aC,aQ];omega,by rw[aT];exact h0,pb hI.2.2 (xh g.q i)⟩
  rw[cH]at this
  refine this.trans ?_
  rw[aT];rfl
 ·unfold bu.l5 bu.fX
  have h0:=hI.2.1
  rw[pQ,eL,bF]at h0
  rw[av (by rw[bI];omega),an,xb N hI.2.2 ω ω,ag,h0]
  have e0:Ej 0=(bp 0,true):=by unfold Ej;exact ae ⟨δ,δ⟩
  rw[e0]
  dsimp only
  rw[aN,an,tZ,ag,show uz 0=0 from rfl,dS rfl,aN,an,o8 N ω,ag]
  rw[eL,bF,ae h0]
  exact JK N hN g.q hE (λx hx=>Ip (g.key x hx)) hs hl HQ (λx hx=>Ip (CS x hx))
def ew(r:dJ):S5:=(r.1,(r.2.1,(bU (da r),())))
theorem ED{E:ak}{i:Nat}(h:i<E.length):(E.map ew).getD i ((0:Int),((0:Int),((false,rS),())))=ew (E.getD i aH):=by
 rw[aR,nX,bc h,aR,bc h];rfl
theorem GW{v:Int}{n:Nat}(hn:n≤1000000)(h0: -(170141183460469231731687303715884105728*(n:Int))≤v)(h1:v≤170141183460469231731687303715884105728*(n:Int)):Fit v 900000:=by
 have h5:Fit v 5:=by
  unfold Fit
  rw[show(4294967296:Nat)^5=1461501637330902918203684832716283019655932542976 from rfl]
  omega
 exact h5.mono ω
theorem nE{v:Int}(h:bO v):Fit v 900000:=GW (n:=1) ω (by have:=h.1;omega) (by have:=h.2;omega)
theorem JL(N:Nat)(hN:4000000≤N){E:ak}(hq:wP E)(hl:E.length≤100000)(q a b:Int)(hF:bk q):ln N q a b (E.map ew)=some (CR (q+bS a b E)):=by
 unfold ln ln.b
 have:=hZ E aH (λn j ws=>ln.l3 N n q a b (E.map ew) (bU ws.sum) (!ws.isEmpty) j)
  (λt ws=>some (CR (q+(ws++cq a b t).sum)))
  (λj (ws:List Int)=>ws.length≤j∧ ∀x∈ws,bO x)
  (λn j ws hj hI fN=> ?_) (λn ws hI=> ?_) E.length N 0 [] ω ω ω ⟨aB _,λx hx=>nomatch hx⟩
 ·rw[show((0:Nat):Int)=0 from rfl,bY,jj,fl]at this
  exact this
 ·unfold ln.l3 ln.zW
  have JM:=xh hq j
  have hb:=GF hI.2
  have HN:GD N (bU ws.sum) (ew (E.getD j aH)).2.2.1=some (bU (ws.sum+da (E.getD j aH))):=kk N ω (GW (n:=ws.length) ω hb.1 hb.2) (nE JM)
  rw[az (by rw[bI];omega),aa,aE ω (by rw[bI];omega),aa,aa,aa,aw,ED hj,HN,ag,ay (x:=(j:Int)+1) ω ω,ah j,au,au]
  by_cases h1:(E.getD j aH).1=a
  ·by_cases h2:(E.getD j aH).2.1=b
   ·have hc:cq a b (E.getD j aH::E.drop (j+1))=da (E.getD j aH)::cq a b (E.drop (j+1)):=by rw[c4,ae ⟨h1,h2⟩]
    rw[ae (show(ew (E.getD j aH)).1=a from h1),ae (show(ew (E.getD j aH)).2.1=b from h2),hc]
    have:=fN (ws++[da (E.getD j aH)]) ⟨by rw[aC,aQ];omega,pb hI.2 JM⟩
    rw[n0,eA,jj,iD,aT]at this
    refine Eq.trans ?_ this
    rw[show(!(ws++[da (E.getD j aH)]).isEmpty)=true by cases ws<;>rfl]
   ·have hc:cq a b (E.getD j aH::E.drop (j+1))=cq a b (E.drop (j+1)):=by rw[c4,af (λh=>h2 h.2)]
    rw[ae (show(ew (E.getD j aH)).1=a from h1),af (show ¬(ew (E.getD j aH)).2.1=b from h2),hc]
    exact fN ws ⟨ω,hI.2⟩
  ·have hc:cq a b (E.getD j aH::E.drop (j+1))=cq a b (E.drop (j+1)):=by rw[c4,af (λh=>h1 h.1)]
   rw[af (show ¬(ew (E.getD j aH)).1=a from h1),hc]
   exact fN ws ⟨ω,hI.2⟩
 ·unfold ln.l3 ln.zW
  have hs:=GF hI.2
  have Ih:=hF
  unfold bk at Ih
  rw[av (by rw[bI];omega),an,er N ω Ih.1 Ih.2,ag,kk N ω (GW (n:=ws.length) ω hs.1 hs.2) ((Fit.i64 Ih.1 Ih.2).mono ω),ag,LG,ag,cond_not]
  show _=some (CR (q+(ws++[]).sum))
  rw[bF,Int.add_comm ws.sum q]
  cases ws with
  |nil=>
   show some (q,true)=some (CR (q+0))
   rw[iD,uc hF]
  |cons w ws=>rfl
theorem OQ{l:ak}(hs:nW (l.map keyOf))(hl:c3 l)(k:bZ):bk (bS k.1 k.2 l):=by
 by_cases hk:k∈l.map keyOf
 ·have hm:wO l k∈rowsOf l (l.map keyOf):=dF hk
  rw[jc hs]at hm
  exact hl (wO l k) hm
 ·rw[ee hk];exact⟨δ,δ⟩
theorem EE(N:Nat)(hN:4000000≤N)(C:cU.bz){l E:ak}(hq:wP E)(hl:E.length≤100000)(hs:nW (l.map keyOf))(IV:l.length≤100000)(hf:c3 l)(hw: ∀x∈l,0≤(keyOf x).2∧(keyOf x).2<(25:Nat))(a:Nat)(ha:a≤24)(G:List bZ)
  (hc: ∀(p:Nat) (out:ak),Mark l (a+1) 0 p→out.length≤25*(a+1)→C l (E.map ew) out (p:Int) ((a+1:Nat):Int)=qJ out (cO bk (fS l E) G)):
  ∀(m n b p:Nat) (out:ak),b+m=25→m<n→Mark l a b p→out.length≤25*a+b→cU.l7 N C n l (E.map ew) out (p:Int) (a:Int) (b:Int)=qJ out (cO bk (fS l E) (uh a b m++G))
 |m,0,b,p,out,_,hn,_,_=>ω
 |0,n+1,b,p,out,hb,_,hM,ho=>by
  have e:b=25:=ω
  subst e
  unfold cU.l7 cU.pA
  rw[fA ω,an,ay (x:=(a:Int)+1) ω ω,ah a]
  exact hc p out (hM.row hw) ω
 |m+1,n+1,b,p,out,hb,hn,hM,ho=>by
  have hp:=hM.le
  have S1: ∀(p:Nat) (v:Int),Mark l a (b+1) p→cU.l7 N C n l (E.map ew) (if v=0 then out else out++[((a:Int),((b:Int),(v,())))]) (p:Int) (a:Int) ((b+1:Nat):Int)=qJ (if v=0 then out else out++[((a:Int),((b:Int),(v,())))]) (cO bk (fS l E) (uh a (b+1) m++G)):=λp v h=>
   EE N hN C hq hl hs IV hf hw a ha G hc m n (b+1) p _ ω ω h (by
    split
    ·omega
    ·rw[aC,aQ];omega)
  have rL:=OQ hs hf ((a:Int),(b:Int))
  unfold cU.l7 cU.pA
  show _=qJ out (cO bk (fS l E) (((a:Int),(b:Int))::(uh a (b+1) m++G)))
  rw[fT (x:=(b:Int)) ω,aa,bb,au,au,aw]
  have fin: ∀(p:Nat) (q:Int),q=bS (a:Int) (b:Int) l→Mark l a (b+1) p→cU.Nn N C (cU.l7 N C n) l (E.map ew) out (p:Int) (a:Int) (b:Int) q=qJ out (cO bk (fS l E) (((a:Int),(b:Int))::(uh a (b+1) m++G))):=λp q e h=>by
   subst e
   unfold cU.Nn cU.GU
   rw[JL N hN hq hl _ _ _ rL,ag]
   refine Eq.trans ?_ (A9 (k:=((a:Int),(b:Int))) (v:=bS (a:Int) (b:Int) l+bS (a:Int) (b:Int) E) rfl)
   generalize bS (a:Int) (b:Int) l+bS (a:Int) (b:Int) E=v
   have hr:=S1 p v h
   by_cases hv:bk v
   ·rw[uc hv,ae hv]
    dsimp only
    rw[aN,an,cond_not,au,bo (by rw[aQ];omega),aa,ay (x:=(b:Int)+1) ω ω,ah b,←hr]
    split<;>rfl
   ·rw[xf hv,af hv];rfl
  rcases hM.step hs with⟨h1,h2,h3,h4,h5⟩|⟨h1,h2,h3⟩
  ·rw[ae (show(p:Int)<(l.length:Int)by omega),aE ω ω,aa,aa,ae h2,ae h3,ay (x:=(p:Int)+1) ω ω,ah p,aa]
   exact fin (p+1) _ h4.symm h5
  ·by_cases g1:p<l.length
   ·rw[ae (show(p:Int)<(l.length:Int)by omega),aE ω ω,aa,aa]
    by_cases g2:(l.getD p aH).1=(a:Int)
    ·rw[ae g2,af (λg3=>h1 g1 g2 g3)]
     exact fin p _ h2.symm h3
    ·rw[af g2]
     exact fin p _ h2.symm h3
   ·rw[af (show ¬(p:Int)<(l.length:Int)by omega)]
    exact fin p _ h2.symm h3
theorem EF(N:Nat)(hN:4000000≤N){l E:ak}(hq:wP E)(hl:E.length≤100000)(hs:nW (l.map keyOf))(IV:l.length≤100000)(hf:c3 l)(hw: ∀x∈l,0≤(keyOf x).2∧(keyOf x).2<(25:Nat)):
  ∀(m n a p:Nat) (out:ak),a+m=8→m<n→Mark l a 0 p→out.length≤25*a→cU.l4 N n l (E.map ew) out (p:Int) (a:Int)=qJ out (cO bk (fS l E) (rW 25 a m))
 |m,0,a,p,out,_,hn,_,_=>ω
 |0,n+1,a,p,out,ha,_,hM,ho=>by
  unfold cU.l4 cU.de
  rw[fA ω,an]
  show some (out,true)=some (out++[],true)
  rw[bF]
 |m+1,n+1,a,p,out,ha,hn,hM,ho=>by
  unfold cU.l4 cU.de
  rw[fT ω,aa]
  exact EE N hN _ hq hl hs IV hf hw a ω (rW 25 (a+1) m) (λp out h ho=>EF N hN hq hl hs IV hf hw m n (a+1) p out ω ω h ho) 25 N 0 p out ω ω hM ω
def jx:List bZ:=rW 25 1 7
theorem OR(N:Nat)(hN:4000000≤N){l E:ak}(hk:dK l=true)(hl:l.length≤90000)(HQ:c3 l)(hq:wP E)(hE:E.length≤100000):cU N l (E.map ew)=qJ [] (cO bk (fS l E) jx):=by
 obtain⟨hs,CS⟩:=mP hk
 unfold cU cU.b
 refine EF N hN hq hE hs ω HQ (λx hx=> ?_) 7 N 1 0 [] ω ω ⟨ω,λx hx=>(nomatch hx),λx hx dv=> ?_⟩ (by simp)
 ·have h:cT (keyOf x).1 (keyOf x).2:=CS x hx
  unfold cT at h;omega
 ·have h:cT (keyOf x).1 (keyOf x).2:=CS x (pO hx)
  unfold cT at h
  have qq:(keyOf x).1<((1:Nat):Int)∨((keyOf x).1=((1:Nat):Int)∧(keyOf x).2<((0:Nat):Int)):=dv
  omega
theorem L3{l E:ak}(hk:dK l=true)(hp: ∀x∈E,cT x.1 x.2.1):cO bk (fS l E) (jw (l.map keyOf) E)=cO bk (fS l E) jx:=by
 obtain⟨hs,CS⟩:=mP hk
 refine Ey ⟨δ,δ⟩ (sA hs) (jZ 25 7 1) (λk hk=> ?_) (λk hk hn=> ?_)
 ·have:cT k.1 k.2:=by
   rcases iS.1 hk with h|⟨x,hx,rfl⟩
   ·obtain⟨x,hx,rfl⟩:=cA.1 h
    exact CS x hx
   ·exact hp x hx
  unfold cT at this
  exact jY.2 ω
 ·have h1:k∉l.map keyOf:=λh=>hn (iS.2 (Or.inl h))
  have h2:k∉E.map keyOf:=λh=>by
   obtain⟨x,hx,e⟩:=cA.1 h
   exact hn (iS.2 (Or.inr ⟨x,hx,e⟩))
  unfold fS
  rw[ee h1,ee h2];rfl
def cv(b:ar)(s e:ak):ar×Int:=
 match cO Fq (fS b.2.2.2.1 s) ga with
 |none=>((fP,(fQ,(cj,(cj,(eH,(fv,())))))),2)
 |some s'=>match cO bk (fS b.2.2.1 e) jx with
  |none=>((fP,(fQ,(cj,(cj,(eH,(fv,())))))),2)
  |some r'=>((b.1,(b.2.1,(r',(s',b.2.2.2.2)))),0)
theorem EG(N:Nat){b:ar}(w:ib b):L4 N b=some b:=by
 unfold L4
 have h1:=w.m;have h2:=w.a;have h3:=w.r;have h4:=w.s;have h5:=w.p;have h6:=w.o
 rw[o8 N ω,ag,o8 N ω,ag,o8 N ω,ag,o8 N ω,ag,o8 N ω,ag,o8 N ω,ag]
theorem EH(N:Nat)(hN:2000000≤N){b:ar}{s e:ak}(w:ib b)(hr:dK b.2.2.1=true)(hs:cB b.2.2.2.1=true)(lr:b.2.2.1.length≤90000)(ls:b.2.2.2.1.length≤90000)(gs:EA s)(ge:EC e):
  L5 N b s (e.map eu)=some (cv b s e):=by
 unfold L5 cv
 rw[EG N w,ag,OI N hN hs ls w.qs gs,L2 N hN hr lr w.qr ge,JI hs gs.place,L3 hr ge.key]
 unfold o7
 rw[ag,ag]
 have e1:bf 2 0=false:=eP ω
 have e2:bf 0 0=true:=dS rfl
 cases cO Fq (fS b.2.2.2.1 s) ga with
 |none=>dsimp only;rw[e1];rfl
 |some s'=>
  cases cO bk (fS b.2.2.1 e) jx with
  |none=>dsimp only;rw[e1,e2];rfl
  |some r'=>dsimp only;rw[e2];rfl
theorem Iq(N:Nat)(hN:4000000≤N){b:ar}{s e:ak}(w:ib b)(hr:dK b.2.2.1=true)(hs:cB b.2.2.2.1=true)(lr:b.2.2.1.length≤90000)(ls:b.2.2.2.1.length≤90000)(gs:EA s)(ge:EC e):
  L6 N b s (e.map ew)=some (cv b s e):=by
 have h1:=gs.len
 have h2:=ge.len
 unfold L6 cv
 rw[GV N hN hs ls w.qs (λx hx=>(gs.q x hx).1) ω,OR N hN hr lr w.qr ge.q ω]
 unfold qJ
 rw[ag,ag]
 cases cO Fq (fS b.2.2.2.1 s) ga with
 |none=>rfl
 |some s'=>
  cases cO bk (fS b.2.2.1 e) jx with
  |none=>rfl
  |some r'=>rfl
end VM
end
section
namespace VM
open Go VM.F
abbrev AwS:=ak×ak×Xp
structure Rj(z:AwS)(i:Nat):Prop where
 place: ∀x∈z.1,bK x.1 x.2.1
 q: ∀x∈z.1,bk (da x)∧xd (da x)
 len:z.1.length≤12*i
 flat: ∀a:Int,(dm a z.1).sum=0
 key: ∀x∈z.2.1,cT x.1 x.2.1
 qe: ∀x∈z.2.1,bk (da x)
 agN:z.2.1.length≤2*i
 zero:(z.2.1.map da).sum=0
 out:z.2.2.length=i
theorem Rj.nil:Rj ([],[],[]) 0:=⟨λx hx=>(nomatch hx),λx hx=>(nomatch hx),aB _,λa=>rfl,λx hx=>(nomatch hx),λx hx=>(nomatch hx),aB _,rfl,rfl⟩
end VM
end
section
namespace VM
open Go VM.F
theorem fK{c:aj}{b:ar}(h:cD c b=true):dK b.2.2.1=true∧cB b.2.2.2.1=true:=by
 unfold cD at h
 have h1:=(dQ.1 (dQ.1 h).2).2
 have h2:=dQ.1 h1
 have h3:=(dQ.1 (dQ.1 h2.2).2).1
 refine⟨h2.1,?_⟩
 unfold mM at h3
 exact(dQ.1 h3).2
structure lU(b:ar):Prop where
 w:ib b
 r:b.2.2.1.length≤90000
 s:b.2.2.2.1.length≤90000
end VM
end
section
namespace VM
open Go VM.F
theorem bP(x:Int):bf x x=true:=dS rfl
theorem L7(x:GL):k5 (.pair (.int .i64) (.pair (.int .i64) .unit)) x x=true:=by
 show(bf x.1 x.1&&(bf x.2.1 x.2.1&&true))=true
 rw[bP,bP];rfl
theorem GX(x:dJ):k5 (.pair (.int .i64) (.pair (.int .i64) (.pair (.int .i64) .unit))) x x=true:=by
 show(bf x.1 x.1&&k5 (.pair (.int .i64) (.pair (.int .i64) .unit)) x.2 x.2)=true
 rw[bP,L7];rfl
theorem L8(x:jH):k5 (.pair (.int .i64) (.pair (.int .i64) (.pair (.int .i64) (.pair (.int .i64) .unit)))) x x=true:=by
 show(bf x.1 x.1&&k5 (.pair (.int .i64) (.pair (.int .i64) (.pair (.int .i64) .unit))) x.2 x.2)=true
 rw[bP,GX];rfl
theorem S6(x:sw):k5 (.pair (.int .i64) (.pair (.int .i64) (.pair (.int .i64) (.pair (.int .i64) (.pair (.int .i64) (.pair (.int .i64) .unit)))))) x x=true:=by
 show(bf x.1 x.1&&(bf x.2.1 x.2.1&&k5 (.pair (.int .i64) (.pair (.int .i64) (.pair (.int .i64) (.pair (.int .i64) .unit)))) x.2.2 x.2.2))=true
 rw[bP,bP,L8];rfl
theorem jd{F:Nat→Int→Option Bool}{len:Nat}(hs: ∀n (i:Nat),i<len→F n ((i+1:Nat):Int)=some true→F (n+1) (i:Int)=some true)(he: ∀n,F (n+1) (len:Int)=some true): ∀(m n i:Nat),len-i≤m→m<n→i≤len→F n (i:Int)=some true
 |m,0,i,_,hn,_=>ω
 |m,n+1,i,hm,hn,hi=>by
  by_cases h:i<len
  ·exact hs n i h (jd hs he (m-1) n (i+1) ω ω ω)
  ·have:i=len:=ω
   subst this;exact he n
theorem EI(N:Nat){l:aW}(hl:l.length≤100000)(hN:200000≤N):wQ N l l=some true:=by
 unfold wQ wQ.b
 rw[bP,aN,an]
 refine jd (F:=λn i=>wQ.l4 N n l l i) (len:=l.length) (λn i hi hr=> ?_) (λn=> ?_) l.length N 0 ω ω ω
 ·unfold wQ.l4 wQ.de
  rw[az ω,aa,aE ω ω,aa,aa,L7,aN,an,ay (x:=(i:Int)+1) ω ω,ah i]
  exact hr
 ·unfold wQ.l4 wQ.de
  rw[av ω,an]
theorem L9(N:Nat){l:bl}(hl:l.length≤100000)(hN:200000≤N):wR N l l=some true:=by
 unfold wR wR.b
 rw[bP,aN,an]
 refine jd (F:=λn i=>wR.l4 N n l l i) (len:=l.length) (λn i hi hr=> ?_) (λn=> ?_) l.length N 0 ω ω ω
 ·unfold wR.l4 wR.de
  rw[az ω,aa,aE ω ω,aa,aa,L8,aN,an,ay (x:=(i:Int)+1) ω ω,ah i]
  exact hr
 ·unfold wR.l4 wR.de
  rw[av ω,an]
theorem EJ(N:Nat){l:ak}(hl:l.length≤100000)(hN:200000≤N):vf N l l=some true:=by
 unfold vf vf.b
 rw[bP,aN,an]
 refine jd (F:=λn i=>vf.l4 N n l l i) (len:=l.length) (λn i hi hr=> ?_) (λn=> ?_) l.length N 0 ω ω ω
 ·unfold vf.l4 vf.de
  rw[az ω,aa,aE ω ω,aa,aa,GX,aN,an,ay (x:=(i:Int)+1) ω ω,ah i]
  exact hr
 ·unfold vf.l4 vf.de
  rw[av ω,an]
theorem JN(N:Nat){l:ak}(hl:l.length≤100000)(hN:200000≤N):wS N l l=some true:=by
 unfold wS wS.b
 rw[bP,aN,an]
 refine jd (F:=λn i=>wS.l4 N n l l i) (len:=l.length) (λn i hi hr=> ?_) (λn=> ?_) l.length N 0 ω ω ω
 ·unfold wS.l4 wS.de
  rw[az ω,aa,aE ω ω,aa,aa,GX,aN,an,ay (x:=(i:Int)+1) ω ω,ah i]
  exact hr
 ·unfold wS.l4 wS.de
  rw[av ω,an]
theorem GY(N:Nat){l:bx}(hl:l.length≤100000)(hN:200000≤N):wT N l l=some true:=by
 unfold wT wT.b
 rw[bP,aN,an]
 refine jd (F:=λn i=>wT.l4 N n l l i) (len:=l.length) (λn i hi hr=> ?_) (λn=> ?_) l.length N 0 ω ω ω
 ·unfold wT.l4 wT.de
  rw[az ω,aa,aE ω ω,aa,aa,S6,aN,an,ay (x:=(i:Int)+1) ω ω,ah i]
  exact hr
 ·unfold wT.l4 wT.de
  rw[av ω,an]
theorem EK(N:Nat){l:List (Int)}(hl:l.length≤100000)(hN:200000≤N):vg N l l=some true:=by
 unfold vg vg.b
 rw[bP,aN,an]
 refine jd (F:=λn i=>vg.l4 N n l l i) (len:=l.length) (λn i hi hr=> ?_) (λn=> ?_) l.length N 0 ω ω ω
 ·unfold vg.l4 vg.de
  rw[az ω,aa,aE ω ω,aa,aa,bP,aN,an,ay (x:=(i:Int)+1) ω ω,ah i]
  exact hr
 ·unfold vg.l4 vg.de
  rw[av ω,an]
theorem uj(N:Nat)(hN:200000≤N){b:ar}(h1:b.1.length≤100000)(h2:b.2.1.length≤100000)(h3:b.2.2.1.length≤100000)(h4:b.2.2.2.1.length≤100000)(h5:b.2.2.2.2.1.length≤100000)(h6:b.2.2.2.2.2.1.length≤100000):S7 N b b=some true:=by
 unfold S7
 rw[EI N h1 hN,ag,aa,L9 N h2 hN,ag,aa,EJ N h3 hN,ag,aa,JN N h4 hN,ag,aa,EK N h5 hN,ag,aa,GY N h6 hN,ag]
theorem ze{P:Int→Prop} [DecidablePred P]{f:Int→Int→Int}: ∀{K:List bZ} {o:ak},cO P f K=some o→o.length≤K.length
 |[],o,h=>by
  have:some []=some o:=h
  rw[←mi this];exact aB _
 |k::t,o,h=>by
  rw[gV]at h
  by_cases hP:P (f k.1 k.2)
  ·rw[ae hP]at h
   cases hc:cO P f t with
   |none=>rw[hc]at h;exact absurd h (by simp)
   |some r=>
    have ih:=ze hc
    rw[hc]at h
    have h':=mi h
    rw[←h',aL]
    dsimp only
    split
    ·omega
    ·rw[aL];omega
  ·rw[af hP]at h;exact absurd h (by simp)
theorem GZ:ga.length=150:=by decide+kernel
theorem JO:jx.length=175:=by decide+kernel
structure Bd(b:ar):Prop where
 m:b.1.length≤100000
 a:b.2.1.length≤100000
 r:b.2.2.1.length≤100000
 s:b.2.2.2.1.length≤100000
 p:b.2.2.2.2.1.length≤100000
 o:b.2.2.2.2.2.1.length≤100000
theorem mg:Bd (([]:aW),(([]:bl),(([]:ak),(([]:ak),(([]:List Int),(([]:bx),())))))):=⟨c8 _,c8 _,c8 _,c8 _,c8 _,c8 _⟩
theorem wc{b:ar}(w:ib b)(s e:ak):Bd (cv b s e).1:=by
 unfold cv
 cases h1:cO Fq (fS b.2.2.2.1 s) ga with
 |none=>exact mg
 |some s'=>
  cases h2:cO bk (fS b.2.2.1 e) jx with
  |none=>exact mg
  |some r'=>
   have g1:=ze h1
   have g2:=ze h2
   rw[GZ]at g1
   rw[JO]at g2
   exact⟨w.m,w.a,by show r'.length≤_;omega,by show s'.length≤_;omega,w.p,w.o⟩
end VM
end
section
namespace VM
open Go VM.F Go.RowKit
def jy(a b:Int):ak→Int
 |[]=>0
 |x::t=>if x.1=a then(if x.2.1=b then x.2.2.1 else jy a b t)else jy a b t
theorem lV(a b:Int)(x:dJ)(t:ak):jy a b (x::t)=if x.1=a then(if x.2.1=b then x.2.2.1 else jy a b t)else jy a b t:=rfl
def pc(l:ak)(a b:Int):Int:=if cB l then jy a b l else 0
def rX(l:ak)(a b:Int):Int:=if dK l then jy a b l else 0
theorem OS(N:Nat){l:ak}(hl:l.length≤100000)(hN:200000≤N)(a b:Int):we N l a b=some (pc l a b):=by
 unfold we we.b pc
 rw[om N hl hN,ag,cond_not]
 have:=yW l aH (λn i=>we.l4 N n l a b i) (λt=>some (jy a b t)) (λn i hi hr=> ?_) (λn=> ?_) N ω
 ·rw[this];cases cB l<;>rfl
 ·unfold we.l4 we.de
  rw[az ω,aa,aE ω ω,aa,aa,aa,aw,ay (x:=(i:Int)+1) ω ω,ah i,hr,au,au,lV]
  split
  ·split<;>rfl
  ·rfl
 ·unfold we.l4 we.de
  rw[av ω,an];rfl
theorem Ma(N:Nat){l:ak}(hl:l.length≤100000)(hN:200000≤N)(a b:Int):uC N l a b=some (rX l a b):=by
 unfold uC uC.b rX
 rw[yZ N hl hN,ag,cond_not]
 have:=yW l aH (λn i=>uC.l4 N n l a b i) (λt=>some (jy a b t)) (λn i hi hr=> ?_) (λn=> ?_) N ω
 ·rw[this];cases dK l<;>rfl
 ·unfold uC.l4 uC.de
  rw[az ω,aa,aE ω ω,aa,aa,aa,aw,ay (x:=(i:Int)+1) ω ω,ah i,hr,au,au,lV]
  split
  ·split<;>rfl
  ·rfl
 ·unfold uC.l4 uC.de
  rw[av ω,an];rfl
theorem Ci{l:ak}(h: ∀i,i<l.length→bk (da (l.getD i aH))):c3 l:=λx hx=>by
 obtain⟨i,hi,e⟩:=iz hx
 have:=h i hi
 rw[aR,bc hi]at this
 rw[←e];exact this
theorem OT{x:Int}(h:(Lit.int .i64 x).wf=true):bk x:=by
 have:=wf_i64.1 h
 unfold bk;omega
theorem Mb{l:ak}(h:WF (.slice lF) l):c3 l:=λx hx=>by
 obtain⟨i,hi,rfl⟩:=iz hx
 have h3:=h.2 i hi
 exact OT h3.2.2.1
namespace Pure
end Pure
end VM
end
