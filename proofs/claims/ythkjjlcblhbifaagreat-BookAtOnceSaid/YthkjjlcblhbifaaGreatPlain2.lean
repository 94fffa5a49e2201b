/- A part of the proof of BookAtOnce of layer 18: what the functions compute, in plain words. -/
import Derived.Test.YthkjjlcblhbifaaGreatPlain1
set_option linter.all false
section
namespace VM
open Go VM.F
variable(N:Nat)
theorem BD(hN:200000≤N)(c:ae){l:aE}(hl:l.length≤100000):oi N c l=some (o6 c l):=by
 unfold oi oi.b
 rw[oa N ω,ar]
 have hsc:=iH (F:=λn i=>oi.l4 N n l c i) (e:=true) (og c l) (λn i r hi hp hr=> ?_) (λn=> ?_) N (show l.length<N by omega)
 ·rw[pS hsc];unfold o6
  rw[fu,Bool.and_comm]
 ·unfold oi.l4 oi.dQ
  rw[aR ω,ak,aW ω ω,ak,aI,aw (x:=(i:Int)+1) ω ω,af,hr]
  by_cases h0:0<i
  ·have e:W .i64 ((i:Int)-1)=((i-1:Nat):Int):=by rw[aw ω ω];omega
   dsimp only
   rw[aR (x:=0) (y:=(i:Int)) ω,e,aI,aW (i:=((i-1:Nat):Int)) ω ω]
   simp only[cA,cB,aM,ak]
   by_cases hP:og c l i
   ·rw[aj hP];unfold og qq at hP
    rw[ah ω,ah ω,ah hP.2.2.1,ah (show ¬((l.getD i c8).2.1:Int)= -9223372036854775808 from hP.2.2.2.1),ah ω]
   ·rw[ah hP];unfold og qq at hP
    have h2:=λh1 h2 h3 h4 h5=>hP ⟨h1,h2,h3,h4,h5⟩
    repeat' split
    all_goals first|rfl|(exfalso;exact h2 ω ω (by assumption) (by assumption) ω)
  ·rw[aP (x:=0) (y:=(i:Int)) ω]
   simp only[cA,cB,aM,ak,av]
   by_cases hP:og c l i
   ·rw[aj hP];unfold og qq at hP
    rw[ah ω,ah ω,ah hP.2.2.1,ah (show ¬((l.getD i c8).2.1:Int)= -9223372036854775808 from hP.2.2.2.1)]
   ·rw[ah hP];unfold og qq at hP
    have h2:=λh1 h2 h3 h4 h5=>hP ⟨h1,h2,h3,h4,h5⟩
    repeat' split
    all_goals first|rfl|(exfalso;exact h2 ω ω (by assumption) (by assumption) ω)
 ·unfold oi.l4 oi.dQ
  rw[aP ω,av]
def Me(a b c d:Int):Prop:=(1≤a∧a≤1099511627776)∧(1≤b∧b≤1099511627776)∧(1≤c∧c≤12)∧(-1152921504606846976≤d∧d≤1152921504606846976)
instance(a b c d:Int):Decidable (Me a b c d):=by unfold Me;infer_instance
def Kr(x:cF):Prop:=Me x.1 x.2.1 x.2.2.1 x.2.2.2.1
instance(x:cF):Decidable (Kr x):=by unfold Kr;infer_instance
theorem Uf(x:cF):Y3 N x=some (decide (Kr x)):=by
 unfold Y3
 rw[mZ x.2.2.2.1]
 repeat rw[hZ]
 congr 1
 rw[pH,fU]
 unfold Kr Me
 simp only[bM,wU]
 omega
def sm(m lot:Int)(x:cF):Bool:=decide (dD x.2.2.1 m)&&decide (dD x.2.1 lot)
def BE(l:aO)(i:Nat):Prop:=Kr (l.getD i ba)∧uF i (l.getD (i-1) ba).1 (l.getD i ba).1∧(l.take i).any (sm (l.getD i ba).2.2.1 (l.getD i ba).2.1)=false
instance(l:aO):DecidablePred (BE l):=λi=>by unfold BE;infer_instance
def Y4(l:aO):Bool:=decide (∀j,j<l.length→BE l j)&&decide (l.length≤40)
def dB(a b:Int):au→List Int
 |[]=>[]
 |x::t=>if x.1=a∧x.2.1=b then dT x::dB a b t else dB a b t
theorem fj(a b:Int)(x:dd)(t:au):dB a b (x::t)=if x.1=a∧x.2.1=b then dT x::dB a b t else dB a b t:=rfl
def cS(a b:Int)(l:au):Int:=(dB a b l).sum
theorem uI(a b:Int):cS a b []=0:=rfl
theorem jS(a b:Int)(x:dd)(t:au):cS a b (x::t)=(if x.1=a∧x.2.1=b then dT x else 0)+cS a b t:=by
 unfold cS
 rw[fj]
 split
 ·rw[cE]
 ·omega
theorem ly{a b:Int}: ∀{l:au},(∀x∈l,¬(x.1=a∧x.2.1=b))→cS a b l=0
 |[],_=>rfl
 |x::t,h=>by
  rw[jS,ah (h x (bs ..)),ly (λy hy=>h y (aZ _ hy))];rfl
abbrev dh:=Int×Int
def tY(x y:dh):Prop:=lZ x.1 x.2 y.1 y.2
instance(x y:dh):Decidable (tY x y):=by unfold tY;infer_instance
def keyOf(x:dd):dh:=(x.1,x.2.1)
def so(K:List dh):Prop:=K.Pairwise tY
theorem oj{x:dh}(h:tY x x):False:=by unfold tY lZ at h;omega
theorem Ks{x y:dh}(h:tY x y)(k:tY y x):False:=by unfold tY lZ at*;omega
theorem yH{x y z:dh}(h:tY x y)(k:tY y z):tY x z:=by unfold tY lZ at*;omega
theorem Ug(x y:dh):tY x y∨x=y∨tY y x:=by
 have:(x.1=y.1∧x.2=y.2)→x=y:=λh=>g7 h.1 h.2
 unfold tY lZ
 by_cases h1:x.1=y.1
 ·by_cases h2:x.2=y.2
  ·exact Or.inr (Or.inl (this ⟨h1,h2⟩))
  ·omega
 ·omega
theorem Uh: ∀{a b:List dh},so a→so b→(∀x,x∈a↔x∈b)→a=b
 |[],[],_,_,_=>rfl
 |[],y::t,_,_,h=>nomatch (h y).2 (bs ..)
 |x::s,[],_,_,h=>nomatch (h x).1 (bs ..)
 |x::s,y::t,ha,hb,h=>by
  obtain⟨ha1,ha2⟩:=eX.1 ha
  obtain⟨nk,uX⟩:=eX.1 hb
  have hxy:x=y:=by
   rcases a8.1 ((h x).1 (bs ..))with e|e
   ·exact e
   ·rcases a8.1 ((h y).2 (bs ..))with f|f
    ·exact f.symm
    ·exact(Ks (ha1 y f) (nk x e)).elim
  subst hxy
  rw[Uh ha2 uX λz=>⟨λhz=> ?_,λhz=> ?_⟩]
  ·rcases a8.1 ((h z).1 (aZ _ hz))with e|e
   ·subst e;exact(oj (ha1 z hz)).elim
   ·exact e
  ·rcases a8.1 ((h z).2 (aZ _ hz))with e|e
   ·subst e;exact(oj (nk z hz)).elim
   ·exact e
def dH(P:Int→Prop) [DecidablePred P](f:Int→Int→Int):List dh→Option au
 |[]=>some []
 |k::t=>if P (f k.1 k.2)then(dH P f t).map (λo=>if f k.1 k.2=0 then o else(k.1,(k.2,(f k.1 k.2,())))::o)else none
theorem iy(P:Int→Prop) [DecidablePred P](f:Int→Int→Int)(k:dh)(t:List dh):dH P f (k::t)=if P (f k.1 k.2)then(dH P f t).map (λo=>if f k.1 k.2=0 then o else(k.1,(k.2,(f k.1 k.2,())))::o)else none:=rfl
theorem Ea{P:Int→Prop} [DecidablePred P](h0:P 0){f:Int→Int→Int}(p:dh→Bool): ∀{K:List dh},(∀k∈K,p k=false→f k.1 k.2=0)→dH P f (K.filter p)=dH P f K
 |[],_=>rfl
 |k::t,h=>by
  have ih:=Ea h0 p (K:=t) (λx hx=>h x (aZ _ hx))
  cases hp:p k
  ·rw[List.filter_cons_of_neg (by rw[hp];decide),ih,iy,h k (bs ..) hp,aj h0]
   simp
  ·rw[List.filter_cons_of_pos hp,iy,iy,ih]
theorem O0{P:Int→Prop} [DecidablePred P](h0:P 0){f:Int→Int→Int}{K G:List dh}(hK:so K)(hG:so G)(hs: ∀k∈K,k∈G)(hz: ∀k∈G,k∉K→f k.1 k.2=0):dH P f K=dH P f G:=by
 have e:K=G.filter (λk=>decide (k∈K)):=by
  refine Uh hK (ue List.filter_sublist hG) λx=> ?_
  rw[rG]
  exact⟨λh=>⟨hs x h,aU h⟩,λh=>bt h.2⟩
 rw[e]
 exact Ea h0 _ λk hk hp=>hz k hk (of_decide_eq_false hp)
def xJ(k:dh):List dh→List dh
 |[]=>[k]
 |x::t=>if tY x k then x::xJ k t else if x=k then x::t else k::x::t
theorem sq{k x:dh}: ∀{K:List dh},x∈xJ k K↔x=k∨x∈K
 |[]=>by show x∈[k]↔_;simp
 |y::t=>by
  show x∈(if tY y k then y::xJ k t else if y=k then y::t else k::y::t)↔_
  split
  ·rw[a8,sq,a8]
   exact⟨λh=>h.elim (λe=>Or.inr (Or.inl e)) (λh=>h.elim Or.inl (λh=>Or.inr (Or.inr h))),λh=>h.elim (λe=>Or.inr (Or.inl e)) (λh=>h.elim Or.inl (λh=>Or.inr (Or.inr h)))⟩
  ·split
   ·rename_i e
    rw[←e]
    exact⟨Or.inr,λh=>h.elim (λe=>e▸bs ..) id⟩
   ·rw[a8]
theorem BF{k:dh}: ∀{K:List dh},so K→so (xJ k K)
 |[],_=>eX.2 ⟨λ_ h=>(nomatch h),List.Pairwise.nil⟩
 |y::t,h=>by
  obtain⟨h1,h2⟩:=eX.1 h
  show so (if tY y k then y::xJ k t else if y=k then y::t else k::y::t)
  split
  ·rename_i hy
   exact eX.2 ⟨λz hz=>(sq.1 hz).elim (λe=>e▸hy) (h1 z),BF h2⟩
  ·rename_i hy
   split
   ·exact h
   ·rename_i he
    have hk:tY k y:=(Ug y k).elim (λh=>absurd h hy) (λh=>h.elim (λh=>absurd h he) id)
    exact eX.2 ⟨λz hz=>(a8.1 hz).elim (λe=>e▸hk) (λhz=>yH hk (h1 z hz)),h⟩
def om(K:List dh)(E:au):List dh:=E.foldl (λK x=>xJ (keyOf x) K) K
theorem tA(K:List dh)(x:dd)(E:au):om K (x::E)=om (xJ (keyOf x) K) E:=rfl
theorem zU: ∀{E:au} {K:List dh},so K→so (om K E)
 |[],_,h=>h
 |x::E,K,h=>by rw[tA];exact zU (BF h)
theorem nc{k:dh}: ∀{E:au} {K:List dh},k∈om K E↔(k∈K∨ ∃x∈E,keyOf x=k)
 |[],K=>by
  show k∈K↔_
  simp
 |x::E,K=>by
  rw[tA,nc,sq]
  constructor
  ·rintro((rfl|h)|⟨y,hy,e⟩)
   ·exact Or.inr ⟨x,bs ..,rfl⟩
   ·exact Or.inl h
   ·exact Or.inr ⟨y,aZ _ hy,e⟩
  ·rintro(h|⟨y,hy,e⟩)
   ·exact Or.inl (Or.inr h)
   ·rcases a8.1 hy with rfl|hy
    ·exact Or.inl (Or.inl e.symm)
    ·exact Or.inr ⟨y,hy,e⟩
theorem Hv(k:dh): ∀K:List dh,(xJ k K).length≤K.length+1
 |[]=>aH _
 |y::t=>by
  show(if tY y k then y::xJ k t else if y=k then y::t else k::y::t).length≤_
  have:=Hv k t
  split
  ·rw[aT,aT];omega
  ·split<;>rw[aT]<;>(try rw[aT])<;>omega
def rowsOf(l:au)(K:List dh):au:=K.map λk=>(k.1,(k.2,(cS k.1 k.2 l,())))
theorem nw{l:au}(h:so (l.map keyOf)):rowsOf l (l.map keyOf)=l:=by
 have key: ∀(m:au),so (m.map keyOf)→(∀x∈m,cS x.1 x.2.1 l=dT x)→rowsOf l (m.map keyOf)=m:=by
  intro m
  induction m with
  |nil=>intro _ _;rfl
  |cons x t ih=>
   intro hm hx
   have:=ih (eX.1 hm).2 (λy hy=>hx y (aZ _ hy))
   unfold rowsOf at*
   rw[bQ,bQ,this]
   congr 1
   show(x.1,(x.2.1,(cS x.1 x.2.1 l,())))=x
   rw[hx x (bs ..)];rfl
 refine key l h ?_
 clear key
 induction l with
 |nil=>intro x hx;nomatch hx
 |cons y t ih=>
  intro x hx
  obtain⟨h1,h2⟩:=eX.1 h
  have ko: ∀z∈t,¬(z.1=y.1∧z.2.1=y.2.1):=λz hz e=>by
   have hk:=h1 (keyOf z) (fm hz)
   have he:keyOf z=keyOf y:=g7 e.1 e.2
   rw[he]at hk
   exact oj hk
  rw[jS]
  rcases a8.1 hx with rfl|hx
  ·rw[aj ⟨rfl,rfl⟩,ly ko];omega
  ·rw[ah (λe=>ko x hx ⟨e.1.symm,e.2.symm⟩),ih h2 x hx];omega
instance(x:Int):Decidable (aF x):=by unfold aF;infer_instance
def Fq(x:Int):Prop:=aF x∧qQ x
instance:DecidablePred Fq:=λx=>by unfold Fq;infer_instance
def vE(r:Option au):Option (au×Int):=some (match r with|some o=>(o,0)|none=>([],2))
def fS(l E:au)(a b:Int):Int:=cS a b l+cS a b E
theorem FC{α:Type}(N:Nat){l:List α}{i:Nat}{x:α}(hi:i≤l.length)(hl:l.length<1000000):qH N l (i:Int) [x]=some (l.take i++x::l.drop i):=by
 unfold qH
 rw[aj ⟨ω,ω,rfl,by unfold AN;omega⟩]
 rfl
theorem vF{α:Type}(N:Nat){l:List α}(hl:l.length≤1000000):ju N l=some l:=by
 unfold ju
 rw[aj (by unfold AN;omega)]
theorem Hw{v:Int}(h:cR v):R7 N (cL v)=some (CG v):=acs N h.1 h.2
theorem vG{v:Int}(h:aF v):CG v=(v,true):=by unfold CG;exact aj h
theorem yI{v:Int}(h: ¬aF v):CG v=(0,false):=by unfold CG;exact ah h
theorem CW{ws:List Int}{x:Int}(h: ∀y∈ws,aF y)(hx:aF x): ∀y∈ws++[x],aF y:=λy hy=>by
 rcases bk.1 hy with hy|hy
 ·exact h y hy
 ·rw[cn.1 hy];exact hx
theorem O1{l:au}:acE N l=some l:=by
 unfold acE
 rw[dZ ω ω ω ω,ak]
 simp
theorem Y5(hN:2000000≤N)(K:cH.Kt){E out R:au}(hq:eK E)(hl:E.length≤100000)(ho:out.length≤1000000)(r:dd)(hr:aF (dT r))(i:Nat)(hi:i≤1000000):
  cH.l27 N K N E out r [cL (dT r)] R (R.length:Int) (i:Int) E (E.length:Int) 0=
   if Fq (dT r+cS r.1 r.2.1 E)then K E (if dT r+cS r.1 r.2.1 E=0 then out else out++[(r.1,(r.2.1,(dT r+cS r.1 r.2.1 E,())))]) R (R.length:Int) ((i+1:Nat):Int)else some (bq,(2:Int)):=by
 have:=n0 E bc (λn j ws=>cH.l27 N K n E out r (ws.map cL) R (R.length:Int) (i:Int) E (E.length:Int) j)
  (λt ws=>if Fq (ws++dB r.1 r.2.1 t).sum then K E (if(ws++dB r.1 r.2.1 t).sum=0 then out else out++[(r.1,(r.2.1,((ws++dB r.1 r.2.1 t).sum,())))]) R (R.length:Int) ((i+1:Nat):Int)else some (bq,(2:Int)))
  (λj (ws:List Int)=>ws.length≤j+1∧ ∀x∈ws,aF x)
  (λn j ws hj hI eQ=> ?_) (λn ws hI=> ?_) E.length N 0 [dT r] ω ω ω ⟨aH _,λx hx=>by rw[cn.1 hx];exact hr⟩
 ·rw[show((0:Nat):Int)=0 from rfl,cV]at this
  refine this.trans ?_
  have e:([dT r]++dB r.1 r.2.1 E).sum=dT r+cS r.1 r.2.1 E:=by rw[FX,cE];rfl
  rw[e]
 ·unfold cH.l27 cH.acF
  have nJ:=xG hq j
  have jA:=nJ
  unfold aF dT at jA
  rw[aR ω,ak,aW ω ω,ak,aI,vA N jA.1 jA.2,ar,bY (by rw[cK,aJ];omega),ak,aw (x:=(j:Int)+1) ω ω,af,aM,aM]
  by_cases h1:(E.getD j bc).1=r.1
  ·by_cases h2:(E.getD j bc).2.1=r.2.1
   ·have hc:dB r.1 r.2.1 (E.getD j bc::E.drop (j+1))=dT (E.getD j bc)::dB r.1 r.2.1 (E.drop (j+1)):=by rw[fj,aj ⟨h1,h2⟩]
    rw[aj h1,aj h2,hc]
    have:=eQ (ws++[dT (E.getD j bc)]) ⟨by rw[aS,aJ];omega,CW hI.2 nJ⟩
    rw[dn]at this
    refine this.trans ?_
    rw[bE];rfl
   ·have hc:dB r.1 r.2.1 (E.getD j bc::E.drop (j+1))=dB r.1 r.2.1 (E.drop (j+1)):=by rw[fj,ah (λh=>h2 h.2)]
    rw[aj h1,ah h2,hc]
    exact eQ ws ⟨ω,hI.2⟩
  ·have hc:dB r.1 r.2.1 (E.getD j bc::E.drop (j+1))=dB r.1 r.2.1 (E.drop (j+1)):=by rw[fj,ah (λh=>h1 h.1)]
   rw[ah h1,hc]
   exact eQ ws ⟨ω,hI.2⟩
 ·unfold cH.l27 cH.acF
  have hs:=Kq hI.2 ω
  rw[aP ω,av,Mb N hI.2 ω ω,ar]
  show _=if Fq (ws++[]).sum then K E (if(ws++[]).sum=0 then out else out++[(r.1,(r.2.1,((ws++[]).sum,())))]) R (R.length:Int) ((i+1:Nat):Int)else some (bq,(2:Int))
  rw[cw,Hw N hs,ar]
  by_cases h1:aF ws.sum
  ·rw[vG h1]
   dsimp only
   rw[bl,av,tv,ar,cond_not,fY,cond_not,aM,bY (by rw[aJ];omega),ak,aw (x:=(i:Int)+1) ω ω,af]
   by_cases h2:qQ ws.sum
   ·rw[aj h2,aj (show Fq ws.sum from⟨h1,h2⟩)]
    split<;>rfl
   ·rw[ah h2,ah (λh=>h2 h.2)]
  ·rw[yI h1,ah (λh=>h1 h.1)]
   rfl
theorem V8(hN:2000000≤N){l E R:au}(hq:eK E)(hl:E.length≤100000)(hR:R.length≤200000)(hv: ∀r∈R,aF (dT r)∧dT r=cS r.1 r.2.1 l):
  cH.l23 N N E [] R (R.length:Int) 0=vE (dH Fq (fS l E) (R.map keyOf)):=by
 have:=n0 R bc (λn i out=>cH.l23 N n E out R (R.length:Int) i) (λt out=>vE ((dH Fq (fS l E) (t.map keyOf)).map (λo=>out++o))) (λi (out:au)=>out.length≤i)
  (λn i out hi hI hr=> ?_) (λn out hI=> ?_) R.length N 0 [] ω ω ω (aH _)
 ·rw[show((0:Nat):Int)=0 from rfl,cV]at this
  refine this.trans ?_
  simp
 ·unfold cH.l23 cH.acH
  have hm:R.getD i bc∈R:=by
   rw[aV,bm hi];exact dJ hi
  have Rz:=hv _ hm
  have nJ:=Rz.1
  have jA:=nJ
  unfold aF dT at jA
  rw[aR ω,ak,aW ω ω,ak,aI,vA N jA.1 jA.2,ar]
  refine(Y5 N hN _ hq hl ω _ nJ i ω).trans ?_
  rw[bQ,iy]
  have ef:fS l E (keyOf (R.getD i bc)).1 (keyOf (R.getD i bc)).2=dT (R.getD i bc)+cS (R.getD i bc).1 (R.getD i bc).2.1 E:=by
   show cS _ _ l+cS _ _ E=_
   rw[Rz.2];rfl
  rw[ef]
  generalize hS:dT (R.getD i bc)+cS (R.getD i bc).1 (R.getD i bc).2.1 E=v
  by_cases hF:Fq v
  ·rw[aj hF,aj hF,hr _ (by
    split
    ·omega
    ·rw[aS,aJ];omega)]
   cases dH Fq (fS l E) ((R.drop (i+1)).map keyOf)with
   |none=>rfl
   |some o=>
    show vE (some _)=vE (some _)
    congr 2
    split
    ·rfl
    ·exact bE _ _ _
  ·rw[ah hF,ah hF];rfl
 ·unfold cH.l23 cH.acH
  rw[aP ω,av,O1,ar]
  show _=vE (some (out++[]))
  rw[cw];rfl
def EZ(l:au)(k:dh):dd:=(k.1,(k.2,(cS k.1 k.2 l,())))
theorem eW(l:au)(K:List dh):(rowsOf l K).length=K.length:=cK ..
theorem Ku(l:au){K:List dh}{p:Nat}(h:p<K.length):(rowsOf l K).getD p bc=EZ l (K.getD p (0,0)):=by
 unfold rowsOf
 rw[aV,nP,bm h,aV,bm h];rfl
theorem vH(l:au)(K:List dh)(p:Nat)(k:dh):(rowsOf l K).take p++EZ l k::(rowsOf l K).drop p=rowsOf l (K.take p++k::K.drop p):=by
 unfold rowsOf
 rw[dn,bQ,List.map_take,List.map_drop];rfl
theorem Eb(l:au)(K:List dh):(rowsOf l K).map keyOf=K:=by
 unfold rowsOf
 rw[List.map_map]
 induction K with
 |nil=>rfl
 |cons k t ih=>rw[bQ,ih];rfl
theorem BG{k x:dh}:0<CH k.1 k.2 x.1 x.2↔tY x k:=by
 unfold CH tY lZ;split<;>omega
theorem yJ{k x:dh}:CH k.1 k.2 x.1 x.2=0↔x=k:=by
 have:x=k↔x.1=k.1∧x.2=k.2:=⟨λh=>h▸⟨rfl,rfl⟩,λh=>g7 h.1 h.2⟩
 rw[this]
 unfold CH;split<;>omega
def BH(k:dh):Prop:=JD k.1∧JD k.2
theorem Ui{k:dh}{K:List dh}{p:Nat}(h:p<K.length):xJ k (K.drop p)=if tY (K.getD p (0,0)) k then K.getD p (0,0)::xJ k (K.drop (p+1))else if K.getD p (0,0)=k then K.drop p else k::K.drop p:=by
 rw[drop_cons h (0,0)];rfl
theorem BI{K:List dh}{p:Nat}(h:p<K.length)(t:List dh):K.take p++K.getD p (0,0)::t=K.take (p+1)++t:=by
 rw[←td h,bE,aV,bm h];rfl
def zeroAt(l:au)(K:List dh)(k:dh):Prop:=k∉K→cS k.1 k.2 l=0
theorem yK{l:au}{k:dh}(h:cS k.1 k.2 l=0):((k.1,(k.2,((0:Int),()))):dd)=EZ l k:=by
 unfold EZ;rw[h]
theorem vI{k:dh}{K:List dh}{p:Nat}(hs:so K)(hp: ∀x∈K.take p,tY x k)(h: ∀x∈K.drop p,tY k x):k∉K:=λhk=>by
 rw[←gM p K]at hk
 rcases bk.1 hk with hk|hk
 ·exact oj (hp k hk)
 ·exact oj (h k hk)
theorem Uj{k:dh}{K:List dh}{p:Nat}(hs:so K)(h:p<K.length)(h1: ¬tY (K.getD p (0,0)) k)(h2:K.getD p (0,0)≠k): ∀x∈K.drop p,tY k x:=by
 have hk:tY k (K.getD p (0,0)):=(Ug (K.getD p (0,0)) k).elim (λh=>absurd h h1) (λh=>h.elim (λh=>absurd h h2) id)
 have hd:so (K.drop p):=ue (List.drop_sublist ..) hs
 rw[drop_cons h (0,0)]at hd ⊢
 intro x hx
 rcases a8.1 hx with rfl|hx
 ·exact hk
 ·exact yH hk ((eX.1 hd).1 x hx)
theorem aiC(N:Nat)(C:cH.fR){l E S:au}{K:List dh}(hs:so K)(hl:K.length≤100000)(hf: ∀k∈K,BH k)(x:dd)(hx:BH (keyOf x))(hz:zeroAt l K (keyOf x))(len:Int)(i:Nat)(hi:i≤1000000):
  ∀(m n p:Nat),K.length-p≤m→m<n→p≤K.length→(∀y∈K.take p,tY y (keyOf x))→
   cH.xH N C n E (rowsOf l K) x (p:Int) S len (i:Int)=C E (rowsOf l (K.take p++xJ (keyOf x) (K.drop p))) S len ((i+1:Nat):Int)
 |m,0,p,_,hn,_,_=>ω
 |m,n+1,p,hm,hn,hp,hb=>by
  unfold cH.xH cH.wE cH.j18 cH.akN
  rw[eW,aw (x:=(i:Int)+1) ω ω,af i]
  by_cases h:p<K.length
  ·have hfk:=hf (K.getD p (0,0)) (by rw[aV,bm h];exact dJ h)
   have ho:VW N x.1 x.2.1 ((rowsOf l K).getD p bc)=some (CH (keyOf x).1 (keyOf x).2 (K.getD p (0,0)).1 (K.getD p (0,0)).2):=by
    rw[Ku l h]
    exact Kp N hx.1 hx.2 hfk.1 hfk.2
   rw[aR ω,ak,aW ω ω,ak,aI,ho,ar,eU (x:=(p:Int)) ω,av,ak,ar,cA,cond_not,aM,Ui h]
   by_cases h1:tY (K.getD p (0,0)) (keyOf x)
   ·rw[aj (BG.2 h1),aj h1,aw (x:=(p:Int)+1) ω ω,af p,BI h]
    refine aiC N C hs hl hf x hx hz len i hi (m-1) n (p+1) ω ω ω λy hy=> ?_
    rw[←td h]at hy
    rcases bk.1 hy with hy|hy
    ·exact hb y hy
    ·rw[aV,bm h]at h1
     rw[cn.1 hy];exact h1
   ·rw[ah (λh=>h1 (BG.1 h)),ah h1]
    by_cases h2:K.getD p (0,0)=keyOf x
    ·rw[aj (yJ.2 h2),aj h2,gM]
    ·rw[ah (λh=>h2 (yJ.1 h)),ah h2,FC N (by rw[eW];omega) (by rw[eW];omega),ar]
     have Ad:=hz (vI hs hb (Uj hs h h1 h2))
     have e:=vH l K p (keyOf x)
     rw[←yK Ad]at e
     exact fv (λR=>C E R S len ((i+1:Nat):Int)) e
  ·have hd:K.drop p=[]:=wQ ω
   rw[aP ω,av,dV ω,ak,FC N (by rw[eW];omega) (by rw[eW];omega),ar]
   have Ad:=hz (vI hs hb (by rw[hd];exact λx hx=>nomatch hx))
   have e:=vH l K p (keyOf x)
   rw[←yK Ad]at e
   have e2:xJ (keyOf x) (K.drop p)=keyOf x::K.drop p:=by rw[hd];rfl
   rw[e2]
   exact fv (λR=>C E R S len ((i+1:Nat):Int)) e
def Kv(E:au)(i:Nat):Prop:=dD (df (i:Int) E).sum 0
instance(E:au):DecidablePred (Kv E):=λi=>by unfold Kv;infer_instance
theorem acI(hN:2000000≤N)(K:gX.cY){E:au}(hq:eK E)(hl:E.length≤100000)(a:Nat)(ha:a<6):
  gX.l6 N K N E (a:Int) [] (a:Int) E (E.length:Int) 0=if(df (a:Int) E).sum=0 then K E ((a+1:Nat):Int)else some false:=by
 have:=n0 E bc (λn j ws=>gX.l6 N K n E (a:Int) (ws.map cL) (a:Int) E (E.length:Int) j)
  (λt ws=>if(ws++df (a:Int) t).sum=0 then K E ((a+1:Nat):Int)else some false)
  (λj (ws:List Int)=>ws.length≤j∧ ∀x∈ws,aF x)
  (λn j ws hj hI hr=> ?_) (λn ws hI=> ?_) E.length N 0 [] ω ω ω ⟨aH _,λx hx=>nomatch hx⟩
 ·rw[show((0:Nat):Int)=0 from rfl,cV]at this
  exact this
 ·unfold gX.l6 gX.vu
  have nJ:=xG hq j
  have jA:=nJ
  unfold aF dT at jA
  rw[aR ω,ak,aW ω ω,ak,aI,vA N jA.1 jA.2,ar,bY (by rw[cK,aJ];omega),ak,aw (x:=(j:Int)+1) ω ω,af j,aM]
  by_cases h1:(E.getD j bc).2.1=(a:Int)
  ·have hc:df (a:Int) (E.getD j bc::E.drop (j+1))=dT (E.getD j bc)::df (a:Int) (E.drop (j+1)):=by rw[dx,aj h1]
   rw[aj h1,hc]
   have:=hr (ws++[dT (E.getD j bc)]) ⟨by rw[aS,aJ];omega,CW hI.2 nJ⟩
   rw[dn]at this
   refine this.trans ?_
   rw[bE];rfl
  ·have hc:df (a:Int) (E.getD j bc::E.drop (j+1))=df (a:Int) (E.drop (j+1)):=by rw[dx,ah h1]
   rw[ah h1,hc]
   exact hr ws ⟨ω,hI.2⟩
 ·unfold gX.l6 gX.vu
  rw[aP ω,av,Mb N hI.2 ω ω,ar]
  show _=if(ws++[]).sum=0 then K E ((a+1:Nat):Int)else some false
  rw[cw,bl,av,BB,ar,cond_not,aM,aw (x:=(a:Int)+1) ω ω,af a]
  by_cases h:ws.sum=0
  ·rw[aj h,aj (lq.2 h)]
  ·rw[ah h,ah (λk=>h (lq.1 k))]
theorem Y6(hN:2000000≤N){E:au}(hq:eK E)(hl:E.length≤100000):gX N E=some (decide (∀j,j<kp→Kv E j)&&true):=by
 unfold gX gX.b
 refine iH (len:=kp) (F:=λn i=>gX.l2 N n E i) (Kv E) (λn i r hi hp hr=> ?_) (λn=> ?_) N (by unfold kp;omega)
 ·unfold gX.l2 gX.fM
  unfold kp at hi
  rw[aR ω,ak,acI N hN _ hq hl i hi,hr]
  unfold Kv dD
  rfl
 ·unfold gX.l2 gX.fM
  rw[aP (by unfold kp;omega),av]
structure O2(E:au):Prop where
 place: ∀x∈E,cj x.1 x.2.1
 q: ∀x∈E,aF (dT x)∧qQ (dT x)
 len:E.length≤400
 flat: ∀i:Int,(df i E).sum=0
theorem Kw{x:dd}(h:cj x.1 x.2.1):BH (keyOf x):=by
 have h':cj (keyOf x).1 (keyOf x).2:=h
 unfold cj at h'
 unfold BH JD
 omega
theorem gU{l:au}{k:dh}(h:k∉l.map keyOf):cS k.1 k.2 l=0:=ly λx hx e=>h (by
 have:keyOf x=k:=g7 e.1 e.2
 rw[←this];exact fm hx)
theorem V9(hN:2000000≤N){l E:au}(hq:eK E)(hE:E.length≤400)(hp: ∀x∈E,BH (keyOf x))(hs:so (l.map keyOf))(hl:l.length≤90000)(TH:eK l)(Nk: ∀x∈l,BH (keyOf x)):
  cH.mw N N E l E (E.length:Int) 0=vE (dH Fq (fS l E) (om (l.map keyOf) E)):=by
 have:=n0 E bc (λn i K=>cH.mw N n E (rowsOf l K) E (E.length:Int) i) (λt K=>vE (dH Fq (fS l E) (om K t)))
  (λi (K:List dh)=>K.length≤l.length+i∧so K∧(∀k∈K,BH k)∧ ∀x∈l,keyOf x∈K)
  (λn i K hi hI hr=> ?_) (λn K hI=> ?_) E.length N 0 (l.map keyOf) ω ω ω ⟨by rw[cK];omega,hs,λk hk=>by
   obtain⟨x,hx,rfl⟩:=cW.1 hk
   exact Nk x hx,λx hx=>fm hx⟩
 ·rw[show((0:Nat):Int)=0 from rfl,cV]at this
  simp only[nw hs]at this
  exact this
 ·unfold cH.mw cH.lz
  obtain⟨h1,h2,h3,h4⟩:=hI
  have hm:E.getD i bc∈E:=by
   rw[aV,bm hi];exact dJ hi
  rw[aR ω,ak,aW ω ω,ak,aI]
  refine(aiC N _ h2 ω h3 (E.getD i bc) (hp _ hm) (λhk=>gU λhx=>hk (by
   obtain⟨x,hx,e⟩:=cW.1 hx
   rw[←e];exact h4 x hx)) (E.length:Int) i ω K.length N 0 ω ω ω (λy hy=>nomatch hy)).trans ?_
  rw[mU,cN,cV,tA]
  refine hr (xJ (keyOf (E.getD i bc)) K) ⟨ct (Hv _ K) ω,BF h2,λk hk=>(sq.1 hk).elim (λe=>e▸hp _ hm) (h3 k),λx hx=>sq.2 (Or.inr (h4 x hx))⟩
 ·unfold cH.mw cH.lz
  obtain⟨h1,h2,h3,h4⟩:=hI
  rw[aP ω,av,eW,c7 ω ω ω,ak]
  have:=V8 N hN (l:=l) (R:=rowsOf l K) hq ω (by rw[eW];omega) (λr hr=>by
   unfold rowsOf at hr
   obtain⟨k,hk,rfl⟩:=cW.1 hr
   refine⟨?_,rfl⟩
   show aF (cS k.1 k.2 l)
   by_cases hkl:k∈l.map keyOf
   ·have e:rowsOf l (l.map keyOf)=l:=nw hs
    have hm:EZ l k∈rowsOf l (l.map keyOf):=fm hkl
    rw[e]at hm
    exact TH (EZ l k) hm
   ·rw[gU hkl];exact⟨δ,δ⟩)
  rw[Eb,eW]at this
  exact this
theorem dW{l:au}(h:de l=true):so (l.map keyOf)∧(∀x∈l,cj x.1 x.2.1∧qQ (dT x)):=by
 unfold de at h
 rw[fu]at h
 have h':=bt h
 have get: ∀(i:Nat) (hi:i<l.length),l.getD i bc=l[i]:=λi hi=>by rw[aV,bm hi];rfl
 have Y7: ∀i,i+1<l.length→tY (keyOf (l.getD i bc)) (keyOf (l.getD (i+1) bc)):=λi hi=>(h' (i+1) hi).2.2.2 ω
 have eT: ∀j,j<l.length→ ∀i,i<j→tY (keyOf (l.getD i bc)) (keyOf (l.getD j bc)):=by
  intro j
  induction j with
  |zero=>intro _ i hi;omega
  |succ j ih=>
   intro hj i hi
   by_cases e:i=j
   ·rw[e];exact Y7 j hj
   ·exact yH (ih ω i ω) (Y7 j hj)
 refine⟨?_,λx hx=> ?_⟩
 ·refine wW.2 (u5.2 λi j hi hj qh=> ?_)
  have:=eT j hj i qh
  rw[get i hi,get j hj]at this
  exact this
 ·obtain⟨i,hi,e⟩:=gE hx
  have:=h' i hi
  unfold mJ m7 at this
  rw[get i hi,e]at this
  exact⟨this.1,this.2.2.1⟩
theorem acJ(hN:2000000≤N){l E:au}(hk:de l=true)(hl:l.length≤90000)(TH:eK l)(g:O2 E):cH N l E=vE (dH Fq (fS l E) (om (l.map keyOf) E)):=by
 obtain⟨hs,Nk⟩:=dW hk
 have hE:=g.len
 unfold cH cH.b
 rw[xD N ω ω,hk,ar,bl,av,aP ω,av]
 refine D1 E bc (λn i=>cH.l4 N n l E E (E.length:Int) i) (λ_=>vE (dH Fq (fS l E) (om (l.map keyOf) E))) (λn i hi hr=> ?_) (λn=> ?_) N ω
 ·unfold cH.l4 cH.dQ
  have hm:E.getD i bc∈E:=by
   rw[aV,bm hi];exact dJ hi
  rw[aR ω,ak,aW ω ω,ak,aI,Ua,aU (g.place _ hm),ar,bl,av,tv,ar,
   aU (show qQ ((E.getD i bc).2.2.1)from(g.q _ hm).2),bl,av,aw (x:=(i:Int)+1) ω ω,af i]
  exact hr
 ·unfold cH.l4 cH.dQ
  have hf:gX N E=some true:=by
   rw[Y6 N hN (λx hx=>(g.q x hx).1) ω,aU (p:= ∀j,j<kp→Kv E j) (λj _=>g.flat (j:Int))];rfl
  rw[aP ω,av,hf,ar,bl,av,vF N ω,ar]
  exact V9 N hN (λx hx=>(g.q x hx).1) hE (λx hx=>Kw (g.place x hx)) hs hl TH (λx hx=>Kw (Nk x hx).1)
def BJ(a b:Nat):Nat→List dh
 |0=>[]
 |m+1=>((a:Int),(b:Int))::BJ a (b+1) m
def zo(w a:Nat):Nat→List dh
 |0=>[]
 |m+1=>BJ a 0 w++zo w (a+1) m
theorem BK{k:dh}{a:Nat}: ∀{m b:Nat},k∈BJ a b m↔k.1=a∧(b:Int)≤k.2∧k.2<(b+m:Nat)
 |0,b=>⟨λh=>(nomatch h),λh=>ω⟩
 |m+1,b=>by
  show k∈((a:Int),(b:Int))::BJ a (b+1) m↔_
  rw[a8,BK]
  have:k=((a:Int),(b:Int))↔k.1=a∧k.2=b:=⟨λh=>h▸⟨rfl,rfl⟩,λh=>g7 h.1 h.2⟩
  rw[this]
  omega
theorem o7{k:dh}{w:Nat}: ∀{m a:Nat},k∈zo w a m↔(a:Int)≤k.1∧k.1<(a+m:Nat)∧0≤k.2∧k.2<w
 |0,a=>⟨λh=>(nomatch h),λh=>ω⟩
 |m+1,a=>by
  show k∈BJ a 0 w++zo w (a+1) m↔_
  rw[bk,BK,o7]
  omega
theorem O3(a:Nat): ∀(m b:Nat),so (BJ a b m)
 |0,b=>List.Pairwise.nil
 |m+1,b=>eX.2 ⟨λk hk=>by
  have:=BK.1 hk
  show(a:Int)<k.1∨((a:Int)=k.1∧(b:Int)<k.2)
  omega,O3 a m (b+1)⟩
theorem lV(w:Nat): ∀(m a:Nat),so (zo w a m)
 |0,a=>List.Pairwise.nil
 |m+1,a=>wR.2 ⟨O3 a w 0,lV w m (a+1),λx hx y hy=>by
  have h1:=BK.1 hx
  have h2:=o7.1 hy
  show x.1<y.1∨(x.1=y.1∧x.2<y.2)
  omega⟩
structure Mark(l:au)(a b p:Nat):Prop where
 le:p≤l.length
 lo: ∀x∈l.take p,tY (keyOf x) ((a:Int),(b:Int))
 hi: ∀x∈l.drop p,¬tY (keyOf x) ((a:Int),(b:Int))
theorem uK{k:dh}{a b:Nat}:tY k ((a:Int),((b+1:Nat):Int))↔tY k ((a:Int),(b:Int))∨k=((a:Int),(b:Int)):=by
 have:k=((a:Int),(b:Int))↔k.1=a∧k.2=b:=⟨λh=>h▸⟨rfl,rfl⟩,λh=>g7 h.1 h.2⟩
 rw[this]
 show(k.1<(a:Int)∨(k.1=(a:Int)∧k.2<((b+1:Nat):Int)))↔(k.1<(a:Int)∨(k.1=(a:Int)∧k.2<(b:Int)))∨_
 omega
theorem Mark.row{l:au}{a w p:Nat}(h:Mark l a w p)(hw: ∀x∈l,0≤(keyOf x).2∧(keyOf x).2<w):Mark l (a+1) 0 p:=by
 have key: ∀x∈l,(tY (keyOf x) ((a:Int),(w:Int))↔tY (keyOf x) (((a+1:Nat):Int),((0:Nat):Int))):=λx hx=>by
  have:=hw x hx
  show((keyOf x).1<(a:Int)∨((keyOf x).1=(a:Int)∧(keyOf x).2<(w:Int)))↔((keyOf x).1<((a+1:Nat):Int)∨((keyOf x).1=((a+1:Nat):Int)∧(keyOf x).2<((0:Nat):Int)))
  omega
 exact⟨h.le,λx hx=>(key x (lK hx)).1 (h.lo x hx),λx hx k=>h.hi x hx ((key x (mP hx)).2 k)⟩
theorem BL(a b:Int)(l m:au):cS a b (l++m)=cS a b l+cS a b m:=by
 induction l with
 |nil=>rw[cN,uI];omega
 |cons x t ih=>rw[ky,jS,jS,ih];omega
theorem Mark.step{l:au}(hs:so (l.map keyOf)){a b p:Nat}(h:Mark l a b p):
  (p<l.length∧(l.getD p bc).1=(a:Int)∧(l.getD p bc).2.1=(b:Int)∧cS (a:Int) (b:Int) l=dT (l.getD p bc)∧Mark l a (b+1) (p+1))∨
  ((p<l.length→(l.getD p bc).1=(a:Int)→(l.getD p bc).2.1=(b:Int)→False)∧cS (a:Int) (b:Int) l=0∧Mark l a (b+1) p):=by
 have no: ∀{x:dd} {k:dh},¬keyOf x=k→ ¬(x.1=k.1∧x.2.1=k.2):=λh e=>h (g7 e.1 e.2)
 have hz:cS (a:Int) (b:Int) (l.take p)=0:=ly λx hx e=>by
  have e':keyOf x=((a:Int),(b:Int)):=g7 e.1 e.2
  have:=h.lo x hx
  rw[e']at this
  exact oj this
 have JI:cS (a:Int) (b:Int) l=cS (a:Int) (b:Int) (l.drop p):=by
  conv=>lhs;rw[←gM p l]
  rw[BL,hz];omega
 by_cases hp:p<l.length
 ·have hd:=drop_cons hp bc
  have hsd:so ((l.drop p).map keyOf):=by
   rw[List.map_drop];exact ue (List.drop_sublist ..) hs
  have J8:=h.hi
  rw[hd]at hsd J8 JI
  have hgt:=(eX.1 hsd).1
  have Yk:=J8 _ (bs ..)
  have apV:l.take (p+1)=l.take p++[l.getD p bc]:=by
   rw[←td hp,aV,bm hp];rfl
  by_cases he:keyOf (l.getD p bc)=((a:Int),(b:Int))
  ·refine Or.inl ⟨hp,fv Prod.fst he,fv Prod.snd he,?_,ω,λx hx=> ?_,λx hx hk=> ?_⟩
   ·rw[JI,jS,aj ⟨fv Prod.fst he,fv Prod.snd he⟩,ly λx hx e=> ?_]
    ·omega
    ·have hg:=hgt (keyOf x) (fm hx)
     have e':keyOf x=((a:Int),(b:Int)):=g7 e.1 e.2
     rw[he,e']at hg
     exact oj hg
   ·rw[apV]at hx
    rcases bk.1 hx with hx|hx
    ·exact uK.2 (Or.inl (h.lo x hx))
    ·rw[cn.1 hx];exact uK.2 (Or.inr he)
   ·have hg:=hgt (keyOf x) (fm hx)
    rw[he]at hg
    rcases uK.1 hk with hk|hk
    ·exact Ks hg hk
    ·rw[hk]at hg;exact oj hg
  ·have iv: ∀x∈l.getD p bc::l.drop (p+1),keyOf x≠((a:Int),(b:Int)):=λx hx e=>by
    rcases a8.1 hx with rfl|hx
    ·exact he e
    ·have hg:=hgt (keyOf x) (fm hx)
     rw[e]at hg
     exact Yk hg
   refine Or.inr ⟨λ_ e1 e2=>he (g7 e1 e2),?_,h.le,λx hx=>uK.2 (Or.inl (h.lo x hx)),λx hx hk=> ?_⟩
   ·rw[JI]
    exact ly λx hx=>no (iv x hx)
   ·rw[hd]at hx
    rcases uK.1 hk with hk|hk
    ·exact J8 x hx hk
    ·exact iv x hx hk
 ·have hd:l.drop p=[]:=wQ ω
  refine Or.inr ⟨λh=>absurd h hp,by rw[JI,hd];rfl,h.le,λx hx=>uK.2 (Or.inl (h.lo x hx)),λx hx=> ?_⟩
  rw[hd]at hx;nomatch hx
def wG(out:au)(r:Option au):Option (au×Bool):=some (match r with|some o=>(out++o,true)|none=>([],false))
theorem Mf(v:Int):Sl N (dA v)=some (if Fq v then(v,true)else(0,false)):=by
 unfold Sl
 rw[tX,ar]
 by_cases h:aF v
 ·rw[vG h]
  dsimp only
  rw[bl,av,aM]
  by_cases h2:qQ v
  ·rw[ah (show ¬v= -9223372036854775808 from h2),aj (show Fq v from⟨h,h2⟩)]
  ·rw[aj (show v= -9223372036854775808 by unfold qQ at h2;omega),ah (λh=>h2 h.2)]
 ·rw[yI h,ah (λk=>h k.1)]
  rfl
theorem Y8(hN:4000000≤N)(C4:cM.bN)(C7:cM.fb){l E out:au}(hq:eK E)(hl:E.length≤100000)(ho:out.length≤1000000)(p:Int)(a b:Nat)(hb:b≤1000000)(q:Int)(hF:Fq q):
  cM.Kx N C4 C7 N l E out p (a:Int) (b:Int) q false (false,(([]:List Int),())) 0=
   if Fq (q+cS (a:Int) (b:Int) E)then C7 l E (if q+cS (a:Int) (b:Int) E=0 then out else out++[((a:Int),((b:Int),(q+cS (a:Int) (b:Int) E,())))]) p (a:Int) ((b+1:Nat):Int)else some ([],false):=by
 have:=n0 E bc (λn j ws=>cM.Kx N C4 C7 n l E out p (a:Int) (b:Int) q (!ws.isEmpty) (dA ws.sum) j)
  (λt ws=>if Fq (q+(ws++dB (a:Int) (b:Int) t).sum)then C7 l E (if q+(ws++dB (a:Int) (b:Int) t).sum=0 then out else out++[((a:Int),((b:Int),(q+(ws++dB (a:Int) (b:Int) t).sum,())))]) p (a:Int) ((b+1:Nat):Int)else some ([],false))
  (λj (ws:List Int)=>ws.length≤j∧ ∀x∈ws,aF x)
  (λn j ws hj hI eQ=> ?_) (λn ws hI=> ?_) E.length N 0 [] ω ω ω ⟨aH _,λx hx=>nomatch hx⟩
 ·rw[show((0:Nat):Int)=0 from rfl,cV,jo,lT]at this
  exact this
 ·unfold cM.Kx cM.JJ
  have nJ:=xG hq j
  have jA:=nJ
  unfold aF dT at jA
  have hb:=OX hI.2
  rw[aR ω,ak,aW ω ω,ak,ak,ak,aI,dP N ω jA.1 jA.2,ar,kG N ω ((Bp (n:=ws.length) ω hb.1 hb.2).mono ω) ((Fit.i64 jA.1 jA.2).mono ω),ar,aw (x:=(j:Int)+1) ω ω,af j,aM,aM]
  by_cases h1:(E.getD j bc).1=(a:Int)
  ·by_cases h2:(E.getD j bc).2.1=(b:Int)
   ·have hc:dB (a:Int) (b:Int) (E.getD j bc::E.drop (j+1))=dT (E.getD j bc)::dB (a:Int) (b:Int) (E.drop (j+1)):=by rw[fj,aj ⟨h1,h2⟩]
    rw[aj h1,aj h2,hc]
    have:=eQ (ws++[dT (E.getD j bc)]) ⟨by rw[aS,aJ];omega,CW hI.2 nJ⟩
    rw[kQ,cE,jo,jM,bE]at this
    refine Eq.trans ?_ this
    rw[show(!(ws++[dT (E.getD j bc)]).isEmpty)=true by cases ws<;>rfl]
    rfl
   ·have hc:dB (a:Int) (b:Int) (E.getD j bc::E.drop (j+1))=dB (a:Int) (b:Int) (E.drop (j+1)):=by rw[fj,ah (λh=>h2 h.2)]
    rw[aj h1,ah h2,hc]
    exact eQ ws ⟨ω,hI.2⟩
  ·have hc:dB (a:Int) (b:Int) (E.getD j bc::E.drop (j+1))=dB (a:Int) (b:Int) (E.drop (j+1)):=by rw[fj,ah (λh=>h1 h.1)]
   rw[ah h1,hc]
   exact eQ ws ⟨ω,hI.2⟩
 ·unfold cM.Kx cM.JJ
  have hs:=OX hI.2
  have Uc:=hF.1
  unfold aF at Uc
  rw[aP ω,av,dP N ω Uc.1 Uc.2,ar,kG N ω ((Bp (n:=ws.length) ω hs.1 hs.2).mono ω) ((Fit.i64 Uc.1 Uc.2).mono ω),ar,Mf,ar,aw (x:=(b:Int)+1) ω ω,af b,bY (by rw[aJ];omega),ak,bY (by rw[aJ];omega),ak,cond_not]
  show _=if Fq (q+(ws++[]).sum)then C7 l E (if q+(ws++[]).sum=0 then out else out++[((a:Int),((b:Int),(q+(ws++[]).sum,())))]) p (a:Int) ((b+1:Nat):Int)else some ([],false)
  rw[cw,Int.add_comm ws.sum q]
  cases ws with
  |nil=>
   show cond (!aN q 0) _ _=_
   rw[cond_not,aM,jo,jM,aj hF]
   by_cases h:q=0
   ·rw[aj h,aj h]
   ·rw[ah h,ah h]
  |cons w ws=>
   show cond (!(if Fq (q+(w::ws).sum)then(q+(w::ws).sum,true)else(0,false)).2) _ _=_
   by_cases h2:Fq (q+(w::ws).sum)
   ·rw[aj h2,aj h2]
    dsimp only
    rw[bl,av,cond_not,aM]
    by_cases h:q+(w::ws).sum=0
    ·rw[aj h,aj h]
    ·rw[ah h,ah h]
   ·rw[ah h2,ah h2];rfl
theorem Ky{P:Int→Prop} [DecidablePred P]{f:Int→Int→Int}{k:dh}{K:List dh}{out:au}{v:Int}(hv:f k.1 k.2=v):
  (if P v then wG (if v=0 then out else out++[(k.1,(k.2,(v,())))]) (dH P f K)else some ([],false))=wG out (dH P f (k::K)):=by
 rw[iy,hv]
 by_cases h:P v
 ·rw[aj h,aj h]
  cases dH P f K with
  |none=>rfl
  |some o=>
   show some ((if v=0 then out else out++[(k.1,(k.2,(v,())))])++o,true)=some (out++(if v=0 then o else(k.1,(k.2,(v,())))::o),true)
   by_cases h0:v=0
   ·rw[aj h0,aj h0]
   ·rw[ah h0,ah h0,bE];rfl
 ·rw[ah h,ah h];rfl
theorem apW{l:au}(hs:so (l.map keyOf))(hl: ∀x∈l,Fq (dT x))(k:dh):Fq (cS k.1 k.2 l):=by
 by_cases hk:k∈l.map keyOf
 ·have hm:EZ l k∈rowsOf l (l.map keyOf):=fm hk
  rw[nw hs]at hm
  exact hl (EZ l k) hm
 ·rw[gU hk];exact⟨⟨δ,δ⟩,δ⟩
theorem Kz(N:Nat)(hN:4000000≤N)(C:cM.bN){l E:au}(hq:eK E)(hl:E.length≤100000)(hs:so (l.map keyOf))(I7:l.length≤100000)(hf: ∀x∈l,Fq (dT x))(hw: ∀x∈l,0≤(keyOf x).2∧(keyOf x).2<(6:Nat))(a:Nat)(ha:a≤24)(G:List dh)
  (hc: ∀(p:Nat) (out:au),Mark l (a+1) 0 p→out.length≤6*(a+1)→C l E out (p:Int) ((a+1:Nat):Int)=wG out (dH Fq (fS l E) G)):
  ∀(m n b p:Nat) (out:au),b+m=6→m<n→Mark l a b p→out.length≤6*a+b→cM.l7 N C n l E out (p:Int) (a:Int) (b:Int)=wG out (dH Fq (fS l E) (BJ a b m++G))
 |m,0,b,p,out,_,hn,_,_=>ω
 |0,n+1,b,p,out,hb,_,hM,ho=>by
  have e:b=6:=ω
  subst e
  unfold cM.l7 cM.oJ
  rw[aP ω,av,aw (x:=(a:Int)+1) ω ω,af a]
  exact hc p out (hM.row hw) ω
 |m+1,n+1,b,p,out,hb,hn,hM,ho=>by
  have hp:=hM.le
  have akO: ∀(p:Nat) (v:Int),Mark l a (b+1) p→cM.l7 N C n l E (if v=0 then out else out++[((a:Int),((b:Int),(v,())))]) (p:Int) (a:Int) ((b+1:Nat):Int)=wG (if v=0 then out else out++[((a:Int),((b:Int),(v,())))]) (dH Fq (fS l E) (BJ a (b+1) m++G)):=λp v h=>
   Kz N hN C hq hl hs I7 hf hw a ha G hc m n (b+1) p _ ω ω h (by
    split
    ·omega
    ·rw[aS,aJ];omega)
  have wC:=apW hs hf ((a:Int),(b:Int))
  unfold cM.l7 cM.oJ cM.Uk cM.Mg
  show _=wG out (dH Fq (fS l E) (((a:Int),(b:Int))::(BJ a (b+1) m++G)))
  rw[aR (x:=(b:Int)) ω,ak,cA,aM,aM,aI]
  have fin: ∀(p:Nat) (q:Int),q=cS (a:Int) (b:Int) l→Mark l a (b+1) p→cM.Kx N C (cM.l7 N C n) N l E out (p:Int) (a:Int) (b:Int) q false (false,(([]:List Int),())) 0=wG out (dH Fq (fS l E) (((a:Int),(b:Int))::(BJ a (b+1) m++G))):=λp q e h=>by
   subst e
   rw[Y8 N hN C _ hq hl ω (p:Int) a b ω _ wC,akO p _ h]
   exact Ky (k:=((a:Int),(b:Int))) rfl
  rcases hM.step hs with⟨h1,h2,h3,h4,h5⟩|⟨h1,h2,h3⟩
  ·rw[aj (show(p:Int)<(l.length:Int)by omega),aW ω ω,ak,ak,aj h2,aj h3,aw (x:=(p:Int)+1) ω ω,af p,ak]
   exact fin (p+1) _ h4.symm h5
  ·by_cases g1:p<l.length
   ·rw[aj (show(p:Int)<(l.length:Int)by omega),aW ω ω,ak,ak]
    by_cases g2:(l.getD p bc).1=(a:Int)
    ·rw[aj g2,ah (λg3=>h1 g1 g2 g3)]
     exact fin p _ h2.symm h3
    ·rw[ah g2]
     exact fin p _ h2.symm h3
   ·rw[ah (show ¬(p:Int)<(l.length:Int)by omega)]
    exact fin p _ h2.symm h3
theorem KA(N:Nat)(hN:4000000≤N){l E:au}(hq:eK E)(hl:E.length≤100000)(hs:so (l.map keyOf))(I7:l.length≤100000)(hf: ∀x∈l,Fq (dT x))(hw: ∀x∈l,0≤(keyOf x).2∧(keyOf x).2<(6:Nat)):
  ∀(m n a p:Nat) (out:au),a+m=25→m<n→Mark l a 0 p→out.length≤6*a→cM.l4 N n l E out (p:Int) (a:Int)=wG out (dH Fq (fS l E) (zo 6 a m))
 |m,0,a,p,out,_,hn,_,_=>ω
 |0,n+1,a,p,out,ha,_,hM,ho=>by
  unfold cM.l4 cM.dQ
  rw[fK ω,av]
  show some (out,true)=some (out++[],true)
  rw[cw]
 |m+1,n+1,a,p,out,ha,hn,hM,ho=>by
  unfold cM.l4 cM.dQ
  rw[fQ ω,ak]
  exact Kz N hN _ hq hl hs I7 hf hw a ω (zo 6 (a+1) m) (λp out h ho=>KA N hN hq hl hs I7 hf hw m n (a+1) p out ω ω h ho) 6 N 0 p out ω ω hM ω
def iU:List dh:=zo 6 0 25
theorem Hy(hN:4000000≤N){l E:au}(hk:de l=true)(hl:l.length≤90000)(TH:eK l)(hq:eK E)(hE:E.length≤100000):cM N l E=wG [] (dH Fq (fS l E) iU):=by
 obtain⟨hs,Nk⟩:=dW hk
 unfold cM cM.b
 refine KA N hN hq hE hs ω (λx hx=>⟨TH x hx,(Nk x hx).2⟩) (λx hx=> ?_) 25 N 0 0 [] ω ω ⟨ω,λx hx=>(nomatch hx),λx hx eT=> ?_⟩ (by simp)
 ·have h:cj (keyOf x).1 (keyOf x).2:=(Nk x hx).1
  unfold cj at h;omega
 ·have h:cj (keyOf x).1 (keyOf x).2:=(Nk x (mP hx)).1
  unfold cj at h
  have xn:(keyOf x).1<((0:Nat):Int)∨((keyOf x).1=((0:Nat):Int)∧(keyOf x).2<((0:Nat):Int)):=eT
  omega
theorem KB{l E:au}(hk:de l=true)(hp: ∀x∈E,cj x.1 x.2.1):dH Fq (fS l E) (om (l.map keyOf) E)=dH Fq (fS l E) iU:=by
 obtain⟨hs,Nk⟩:=dW hk
 refine O0 ⟨⟨δ,δ⟩,δ⟩ (zU hs) (lV 6 25 0) (λk hk=> ?_) (λk hk hn=> ?_)
 ·have:cj k.1 k.2:=by
   rcases nc.1 hk with h|⟨x,hx,rfl⟩
   ·obtain⟨x,hx,rfl⟩:=cW.1 h
    exact(Nk x hx).1
   ·exact hp x hx
  unfold cj at this
  exact o7.2 ω
 ·have h1:k∉l.map keyOf:=λh=>hn (nc.2 (Or.inl h))
  have h2:k∉E.map keyOf:=λh=>by
   obtain⟨x,hx,e⟩:=cW.1 h
   exact hn (nc.2 (Or.inr ⟨x,hx,e⟩))
  unfold fS
  rw[gU h1,gU h2];rfl
def Hz(E:au):Prop:= ∀x∈E,cR (dT x)
def iI(r:dd):tB:=(r.1,(r.2.1,(cL (dT r),())))
theorem Mh(E:au)(i:Nat):(E.map iI).getD i ((0:Int),((0:Int),(c8,())))=iI (E.getD i bc):=by
 by_cases h:i<E.length
 ·rw[aV,nP,bm h,aV,bm h];rfl
 ·rw[aV,ig (by rw[cK];omega),aV,ig ω];rfl
theorem Mi{l:au}(h:Hz l)(i:Nat):cR (dT (l.getD i bc)):=by
 by_cases hi:i<l.length
 ·rw[aV,bm hi];exact h _ (dJ hi)
 ·rw[aV,ig ω];exact⟨δ,δ⟩
theorem HA{x:Int}(h:aF x):cR x:=by unfold aF at h;unfold cR;omega
theorem vJ{ws:List Int}{x:Int}(h: ∀y∈ws,cR y)(hx:cR x): ∀y∈ws++[x],cR y:=λy hy=>by
 rcases bk.1 hy with hy|hy
 ·exact h y hy
 ·rw[cn.1 hy];exact hx
theorem Y9{l:au}:akP N l=some l:=O1 N
theorem Za(hN:2000000≤N)(K:cI.KC){E out R:au}(hq:Hz E)(hl:E.length≤100000)(ho:out.length≤1000000)(r:dd)(hr:aF (dT r))(i:Nat)(hi:i≤1000000):
  cI.O4 N K N (E.map iI) out r [cL (dT r)] R (R.length:Int) (i:Int) (E.map iI) ((E.map iI).length:Int) 0=
   if aF (dT r+cS r.1 r.2.1 E)then K (E.map iI) (if dT r+cS r.1 r.2.1 E=0 then out else out++[(r.1,(r.2.1,(dT r+cS r.1 r.2.1 E,())))]) R (R.length:Int) ((i+1:Nat):Int)else some (bq,(2:Int)):=by
 have:=n0 E bc (λn j ws=>cI.O4 N K n (E.map iI) out r (ws.map cL) R (R.length:Int) (i:Int) (E.map iI) ((E.map iI).length:Int) j)
  (λt ws=>if aF (ws++dB r.1 r.2.1 t).sum then K (E.map iI) (if(ws++dB r.1 r.2.1 t).sum=0 then out else out++[(r.1,(r.2.1,((ws++dB r.1 r.2.1 t).sum,())))]) R (R.length:Int) ((i+1:Nat):Int)else some (bq,(2:Int)))
  (λj (ws:List Int)=>ws.length≤j+1∧ ∀x∈ws,cR x)
  (λn j ws hj hI eQ=> ?_) (λn ws hI=> ?_) E.length N 0 [dT r] ω ω ω ⟨aH _,λx hx=>by rw[cn.1 hx];exact HA hr⟩
 ·rw[show((0:Nat):Int)=0 from rfl,cV]at this
  refine this.trans ?_
  have e:([dT r]++dB r.1 r.2.1 E).sum=dT r+cS r.1 r.2.1 E:=by rw[FX,cE];rfl
  rw[e]
 ·unfold cI.O4 cI.Mj
  rw[aR (by rw[cK];omega),ak,aW ω (by rw[cK];omega),ak,aI,Mh,bY (by rw[cK,aJ];omega),ak,aw (x:=(j:Int)+1) ω ω,af j,aM,aM]
  by_cases h1:(E.getD j bc).1=r.1
  ·by_cases h2:(E.getD j bc).2.1=r.2.1
   ·have hc:dB r.1 r.2.1 (E.getD j bc::E.drop (j+1))=dT (E.getD j bc)::dB r.1 r.2.1 (E.drop (j+1)):=by rw[fj,aj ⟨h1,h2⟩]
    rw[aj (show(iI (E.getD j bc)).1=r.1 from h1),aj (show(iI (E.getD j bc)).2.1=r.2.1 from h2),hc]
    have:=eQ (ws++[dT (E.getD j bc)]) ⟨by rw[aS,aJ];omega,vJ hI.2 (Mi hq j)⟩
    rw[dn]at this
    refine this.trans ?_
    rw[bE];rfl
   ·have hc:dB r.1 r.2.1 (E.getD j bc::E.drop (j+1))=dB r.1 r.2.1 (E.drop (j+1)):=by rw[fj,ah (λh=>h2 h.2)]
    rw[aj (show(iI (E.getD j bc)).1=r.1 from h1),ah (show ¬(iI (E.getD j bc)).2.1=r.2.1 from h2),hc]
    exact eQ ws ⟨ω,hI.2⟩
  ·have hc:dB r.1 r.2.1 (E.getD j bc::E.drop (j+1))=dB r.1 r.2.1 (E.drop (j+1)):=by rw[fj,ah (λh=>h1 h.1)]
   rw[ah (show ¬(iI (E.getD j bc)).1=r.1 from h1),hc]
   exact eQ ws ⟨ω,hI.2⟩
 ·unfold cI.O4 cI.Mj
  rw[aP (by rw[cK];omega),av,Fy N hI.2 ω ω,ar]
  show _=if aF (ws++[]).sum then K (E.map iI) (if(ws++[]).sum=0 then out else out++[(r.1,(r.2.1,((ws++[]).sum,())))]) R (R.length:Int) ((i+1:Nat):Int)else some (bq,(2:Int))
  rw[cw]
  unfold OT
  by_cases h0:cR ws.sum
  ·rw[aj h0]
   dsimp only
   rw[Hw N h0,ar,bl,av]
   by_cases h1:aF ws.sum
   ·rw[vG h1]
    dsimp only
    rw[bl,av,cond_not,aM,bY (by rw[aJ];omega),ak,aw (x:=(i:Int)+1) ω ω,af i,aj h1]
    split<;>rfl
   ·rw[yI h1,ah h1]
    rfl
  ·rw[ah h0,ah (λh=>h0 (HA h))]
   have e:R7 N c8=some (CG 0):=Hw N (v:=0) ⟨δ,δ⟩
   dsimp only
   rw[e,ar]
   rfl
theorem Wa(hN:2000000≤N){l E R:au}(hq:Hz E)(hl:E.length≤100000)(hR:R.length≤200000)(hv: ∀r∈R,aF (dT r)∧dT r=cS r.1 r.2.1 l):
  cI.l26 N N (E.map iI) [] R (R.length:Int) 0=vE (dH aF (fS l E) (R.map keyOf)):=by
 have:=n0 R bc (λn i out=>cI.l26 N n (E.map iI) out R (R.length:Int) i) (λt out=>vE ((dH aF (fS l E) (t.map keyOf)).map (λo=>out++o))) (λi (out:au)=>out.length≤i)
  (λn i out hi hI hr=> ?_) (λn out hI=> ?_) R.length N 0 [] ω ω ω (aH _)
 ·rw[show((0:Nat):Int)=0 from rfl,cV]at this
  refine this.trans ?_
  simp
 ·unfold cI.l26 cI.acL
  have hm:R.getD i bc∈R:=by
   rw[aV,bm hi];exact dJ hi
  have Rz:=hv _ hm
  have nJ:=Rz.1
  have jA:=nJ
  unfold aF dT at jA
  rw[aR ω,ak,aW ω ω,ak,aI,vA N jA.1 jA.2,ar]
  refine(Za N hN _ hq hl ω _ nJ i ω).trans ?_
  rw[bQ,iy]
  have ef:fS l E (keyOf (R.getD i bc)).1 (keyOf (R.getD i bc)).2=dT (R.getD i bc)+cS (R.getD i bc).1 (R.getD i bc).2.1 E:=by
   show cS _ _ l+cS _ _ E=_
   rw[Rz.2];rfl
  rw[ef]
  generalize hS:dT (R.getD i bc)+cS (R.getD i bc).1 (R.getD i bc).2.1 E=v
  by_cases hF:aF v
  ·rw[aj hF,aj hF,hr _ (by
    split
    ·omega
    ·rw[aS,aJ];omega)]
   cases dH aF (fS l E) ((R.drop (i+1)).map keyOf)with
   |none=>rfl
   |some o=>
    show vE (some _)=vE (some _)
    congr 2
    split
    ·rfl
    ·exact bE _ _ _
  ·rw[ah hF,ah hF];rfl
 ·unfold cI.l26 cI.acL
  rw[aP ω,av,Y9,ar]
  show _=vE (some (out++[]))
  rw[cw];rfl
theorem aiD(N:Nat)(C:cI.ny){l:au}{E S:c5}{K:List dh}(hs:so K)(hl:K.length≤100000)(hf: ∀k∈K,BH k)(x:tB)(k:dh)(hxk:(x.1,x.2.1)=k)(hx:BH k)(hz:zeroAt l K k)(len:Int)(i:Nat)(hi:i≤1000000):
  ∀(m n p:Nat),K.length-p≤m→m<n→p≤K.length→(∀y∈K.take p,tY y k)→
   cI.Wb N C n E (rowsOf l K) x (p:Int) S len (i:Int)=C E (rowsOf l (K.take p++xJ k (K.drop p))) S len ((i+1:Nat):Int)
 |m,0,p,_,hn,_,_=>ω
 |m,n+1,p,hm,hn,hp,hb=>by
  unfold cI.Wb cI.Sm cI.j21 cI.akQ
  rw[eW,aw (x:=(i:Int)+1) ω ω,af i]
  have ex:((x.1,(x.2.1,((0:Int),()))):dd)=(k.1,(k.2,((0:Int),()))):=by rw[←hxk]
  by_cases h:p<K.length
  ·have hfk:=hf (K.getD p (0,0)) (by rw[aV,bm h];exact dJ h)
   have ho:F84 N x.1 x.2.1 ((rowsOf l K).getD p bc)=some (CH k.1 k.2 (K.getD p (0,0)).1 (K.getD p (0,0)).2):=by
    rw[Ku l h]
    rw[←hxk]at hx ⊢
    exact Hj N hx.1 hx.2 hfk.1 hfk.2
   rw[aR ω,ak,aW ω ω,ak,aI,ho,ar,eU (x:=(p:Int)) ω,av,ak,ar,cA,cond_not,aM,Ui h]
   by_cases h1:tY (K.getD p (0,0)) k
   ·rw[aj (BG.2 h1),aj h1,aw (x:=(p:Int)+1) ω ω,af p,BI h]
    refine aiD N C hs hl hf x k hxk hx hz len i hi (m-1) n (p+1) ω ω ω λy hy=> ?_
    rw[←td h]at hy
    rcases bk.1 hy with hy|hy
    ·exact hb y hy
    ·rw[aV,bm h]at h1
     rw[cn.1 hy];exact h1
   ·rw[ah (λh=>h1 (BG.1 h)),ah h1]
    by_cases h2:K.getD p (0,0)=k
    ·rw[aj (yJ.2 h2),aj h2,gM]
    ·rw[ah (λh=>h2 (yJ.1 h)),ah h2,FC N (by rw[eW];omega) (by rw[eW];omega),ar]
     have Ad:=hz (vI hs hb (Uj hs h h1 h2))
     have e:=vH l K p k
     rw[←yK Ad]at e
     refine Eq.trans ?_ (fv (λR=>C E R S len ((i+1:Nat):Int)) e)
     exact fv (λz:dd=>C E ((rowsOf l K).take p++z::(rowsOf l K).drop p) S len ((i+1:Nat):Int)) ex
  ·have hd:K.drop p=[]:=wQ ω
   rw[aP ω,av,dV ω,ak,FC N (by rw[eW];omega) (by rw[eW];omega),ar]
   have Ad:=hz (vI hs hb (by rw[hd];exact λx hx=>nomatch hx))
   have e:=vH l K p k
   rw[←yK Ad]at e
   have e2:xJ k (K.drop p)=k::K.drop p:=by rw[hd];rfl
   rw[e2]
   refine Eq.trans ?_ (fv (λR=>C E R S len ((i+1:Nat):Int)) e)
   exact fv (λz:dd=>C E ((rowsOf l K).take p++z::(rowsOf l K).drop p) S len ((i+1:Nat):Int)) ex
theorem Wc(hN:2000000≤N){l E:au}(hq:Hz E)(hE:E.length≤400)(hp: ∀x∈E,BH (keyOf x))(hs:so (l.map keyOf))(hl:l.length≤90000)(TH:eK l)(Nk: ∀x∈l,BH (keyOf x)):
  cI.xH N N (E.map iI) l (E.map iI) ((E.map iI).length:Int) 0=vE (dH aF (fS l E) (om (l.map keyOf) E)):=by
 have:=n0 E bc (λn i K=>cI.xH N n (E.map iI) (rowsOf l K) (E.map iI) ((E.map iI).length:Int) i) (λt K=>vE (dH aF (fS l E) (om K t)))
  (λi (K:List dh)=>K.length≤l.length+i∧so K∧(∀k∈K,BH k)∧ ∀x∈l,keyOf x∈K)
  (λn i K hi hI hr=> ?_) (λn K hI=> ?_) E.length N 0 (l.map keyOf) ω ω ω ⟨by rw[cK];omega,hs,λk hk=>by
   obtain⟨x,hx,rfl⟩:=cW.1 hk
   exact Nk x hx,λx hx=>fm hx⟩
 ·rw[show((0:Nat):Int)=0 from rfl,cV]at this
  simp only[nw hs]at this
  exact this
 ·unfold cI.xH cI.wE
  obtain⟨h1,h2,h3,h4⟩:=hI
  have hm:E.getD i bc∈E:=by
   rw[aV,bm hi];exact dJ hi
  rw[aR (by rw[cK];omega),ak,aW ω (by rw[cK];omega),ak,aI,Mh]
  refine(aiD N _ h2 ω h3 (iI (E.getD i bc)) (keyOf (E.getD i bc)) rfl (hp _ hm) (λhk=>gU λhx=>hk (by
   obtain⟨x,hx,e⟩:=cW.1 hx
   rw[←e];exact h4 x hx)) ((E.map iI).length:Int) i ω K.length N 0 ω ω ω (λy hy=>nomatch hy)).trans ?_
  rw[mU,cN,cV,tA]
  refine hr (xJ (keyOf (E.getD i bc)) K) ⟨ct (Hv _ K) ω,BF h2,λk hk=>(sq.1 hk).elim (λe=>e▸hp _ hm) (h3 k),λx hx=>sq.2 (Or.inr (h4 x hx))⟩
 ·unfold cI.xH cI.wE
  obtain⟨h1,h2,h3,h4⟩:=hI
  rw[aP (by rw[cK];omega),av,eW,c7 ω ω ω,ak]
  have:=Wa N hN (l:=l) (R:=rowsOf l K) hq ω (by rw[eW];omega) (λr hr=>by
   unfold rowsOf at hr
   obtain⟨k,hk,rfl⟩:=cW.1 hr
   refine⟨?_,rfl⟩
   show aF (cS k.1 k.2 l)
   by_cases hkl:k∈l.map keyOf
   ·have e:rowsOf l (l.map keyOf)=l:=nw hs
    have hm:EZ l k∈rowsOf l (l.map keyOf):=fm hkl
    rw[e]at hm
    exact TH (EZ l k) hm
   ·rw[gU hkl];exact⟨δ,δ⟩)
  rw[Eb,eW]at this
  exact this
theorem lA{l:au}(h:eJ l=true):so (l.map keyOf)∧(∀x∈l,c9 x.1 x.2.1):=by
 unfold eJ at h
 rw[fu]at h
 have h':=bt h
 have get: ∀(i:Nat) (hi:i<l.length),l.getD i bc=l[i]:=λi hi=>by rw[aV,bm hi];rfl
 have Y7: ∀i,i+1<l.length→tY (keyOf (l.getD i bc)) (keyOf (l.getD (i+1) bc)):=λi hi=>(h' (i+1) hi).2.2 ω
 have eT: ∀j,j<l.length→ ∀i,i<j→tY (keyOf (l.getD i bc)) (keyOf (l.getD j bc)):=by
  intro j
  induction j with
  |zero=>intro _ i hi;omega
  |succ j ih=>
   intro hj i hi
   by_cases e:i=j
   ·rw[e];exact Y7 j hj
   ·exact yH (ih ω i ω) (Y7 j hj)
 refine⟨?_,λx hx=> ?_⟩
 ·refine wW.2 (u5.2 λi j hi hj qh=> ?_)
  have:=eT j hj i qh
  rw[get i hi,get j hj]at this
  exact this
 ·obtain⟨i,hi,e⟩:=gE hx
  have:=h' i hi
  unfold mI m6 at this
  rw[get i hi,e]at this
  exact this.1
structure O5(E:au):Prop where
 key: ∀x∈E,c9 x.1 x.2.1
 q:Hz E
 len:E.length≤400
 zero:(E.map dT).sum=0
theorem Ul{x:dd}(h:c9 x.1 x.2.1):BH (keyOf x):=by
 have h':c9 (keyOf x).1 (keyOf x).2:=h
 unfold c9 at h'
 unfold BH JD
 omega
theorem Zb(hN:2000000≤N){l E:au}(hk:eJ l=true)(hl:l.length≤90000)(TH:eK l)(g:O5 E):cI N l (E.map iI)=vE (dH aF (fS l E) (om (l.map keyOf) E)):=by
 obtain⟨hs,Nk⟩:=lA hk
 have hE:=g.len
 unfold cI cI.b
 rw[L9 N ω ω,hk,ar,bl,av,aP (by rw[cK];omega),av,c7 ω ω (by rw[cK];omega),ak]
 have:=n0 E bc (λn i (ws:List Int)=>cI.l5 N n l (E.map iI) (ws.map cL) (E.map iI) ((E.map iI).length:Int) i)
  (λt ws=>if(ws++t.map dT).sum=0 then vE (dH aF (fS l E) (om (l.map keyOf) E))else none)
  (λj (ws:List Int)=>ws.length≤j∧(ws++(E.drop j).map dT).sum=0∧ ∀x∈ws,cR x)
  (λn i ws hi hI hr=> ?_) (λn ws hI=> ?_) E.length N 0 [] ω ω ω ⟨aH _,g.zero,λx hx=>nomatch hx⟩
 ·rw[show((0:Nat):Int)=0 from rfl,cV]at this
  refine Eq.trans this ?_
  rw[cN,aj g.zero]
 ·unfold cI.l5 cI.eo
  have hm:E.getD i bc∈E:=by
   rw[aV,bm hi];exact dJ hi
  have ab9:F83 N (iI (E.getD i bc)).1 (iI (E.getD i bc)).2.1=some true:=by
   rw[R9]
   exact fv some (aU (g.key _ hm))
  rw[aR (by rw[cK];omega),ak,aW ω (by rw[cK];omega),ak,aI,Mh,ab9,ar,bl,av,bY (by rw[cK,aJ];omega),ak,aw (x:=(i:Int)+1) ω ω,af i]
  have h0:=hI.2.1
  rw[drop_cons hi bc,bQ]at h0
  have:=hr (ws++[dT (E.getD i bc)]) ⟨by rw[aS,aJ];omega,by rw[bE];exact h0,vJ hI.2.2 (Mi g.q i)⟩
  rw[dn]at this
  refine this.trans ?_
  rw[bE];rfl
 ·unfold cI.l5 cI.eo
  have h0:=hI.2.1
  rw[mT,ik,cw]at h0
  rw[aP (by rw[cK];omega),av,Fy N hI.2.2 ω ω,ar,h0]
  have e0:OT 0=(cL 0,true):=by unfold OT;exact aj ⟨δ,δ⟩
  rw[e0]
  dsimp only
  rw[bl,av,BB,ar,show wN 0=0 from rfl,dV rfl,bl,av,vF N ω,ar]
  rw[ik,cw,aj h0]
  exact Wc N hN g.q hE (λx hx=>Ul (g.key x hx)) hs hl TH (λx hx=>Ul (Nk x hx))
def jB(r:dd):akR:=(r.1,(r.2.1,(dA (dT r),())))
theorem Zc{E:au}{i:Nat}(h:i<E.length):(E.map jB).getD i ((0:Int),((0:Int),((false,qg),())))=jB (E.getD i bc):=by
 rw[aV,nP,bm h,aV,bm h];rfl
theorem Sn{v:Int}{n:Nat}(hn:n≤1000000)(h0: -(170141183460469231731687303715884105728*(n:Int))≤v)(h1:v≤170141183460469231731687303715884105728*(n:Int)):Fit v 900000:=by
 have h5:Fit v 5:=by
  unfold Fit
  rw[show(4294967296:Nat)^5=1461501637330902918203684832716283019655932542976 from rfl]
  omega
 exact h5.mono ω
theorem FD{v:Int}(h:cR v):Fit v 900000:=Sn (n:=1) ω (by have:=h.1;omega) (by have:=h.2;omega)
theorem Wd(hN:4000000≤N){E:au}(hq:Hz E)(hl:E.length≤100000)(q a b:Int)(hF:aF q):oq N q a b (E.map jB)=some (CG (q+cS a b E)):=by
 unfold oq oq.b
 have:=n0 E bc (λn j ws=>oq.l3 N n q a b (E.map jB) (dA ws.sum) (!ws.isEmpty) j)
  (λt ws=>some (CG (q+(ws++dB a b t).sum)))
  (λj (ws:List Int)=>ws.length≤j∧ ∀x∈ws,cR x)
  (λn j ws hj hI eQ=> ?_) (λn ws hI=> ?_) E.length N 0 [] ω ω ω ⟨aH _,λx hx=>nomatch hx⟩
 ·rw[show((0:Nat):Int)=0 from rfl,cV,jo,lT]at this
  exact this
 ·unfold oq.l3 oq.nr
  have acM:=Mi hq j
  have hb:=R8 hI.2
  have Cw:nZ N (dA ws.sum) (jB (E.getD j bc)).2.2.1=some (dA (ws.sum+dT (E.getD j bc))):=kG N ω (Sn (n:=ws.length) ω hb.1 hb.2) (FD acM)
  rw[aR (by rw[cK];omega),ak,aW ω (by rw[cK];omega),ak,ak,ak,aI,Zc hj,Cw,ar,aw (x:=(j:Int)+1) ω ω,af j,aM,aM]
  by_cases h1:(E.getD j bc).1=a
  ·by_cases h2:(E.getD j bc).2.1=b
   ·have hc:dB a b (E.getD j bc::E.drop (j+1))=dT (E.getD j bc)::dB a b (E.drop (j+1)):=by rw[fj,aj ⟨h1,h2⟩]
    rw[aj (show(jB (E.getD j bc)).1=a from h1),aj (show(jB (E.getD j bc)).2.1=b from h2),hc]
    have:=eQ (ws++[dT (E.getD j bc)]) ⟨by rw[aS,aJ];omega,vJ hI.2 acM⟩
    rw[kQ,cE,jo,jM,bE]at this
    refine Eq.trans ?_ this
    rw[show(!(ws++[dT (E.getD j bc)]).isEmpty)=true by cases ws<;>rfl]
   ·have hc:dB a b (E.getD j bc::E.drop (j+1))=dB a b (E.drop (j+1)):=by rw[fj,ah (λh=>h2 h.2)]
    rw[aj (show(jB (E.getD j bc)).1=a from h1),ah (show ¬(jB (E.getD j bc)).2.1=b from h2),hc]
    exact eQ ws ⟨ω,hI.2⟩
  ·have hc:dB a b (E.getD j bc::E.drop (j+1))=dB a b (E.drop (j+1)):=by rw[fj,ah (λh=>h1 h.1)]
   rw[ah (show ¬(jB (E.getD j bc)).1=a from h1),hc]
   exact eQ ws ⟨ω,hI.2⟩
 ·unfold oq.l3 oq.nr
  have hs:=R8 hI.2
  have Uc:=hF
  unfold aF at Uc
  rw[aP (by rw[cK];omega),av,dP N ω Uc.1 Uc.2,ar,kG N ω (Sn (n:=ws.length) ω hs.1 hs.2) ((Fit.i64 Uc.1 Uc.2).mono ω),ar,tX,ar,cond_not]
  show _=some (CG (q+(ws++[]).sum))
  rw[cw,Int.add_comm ws.sum q]
  cases ws with
  |nil=>
   show some (q,true)=some (CG (q+0))
   rw[jM,vG hF]
  |cons w ws=>rfl
theorem acN{l:au}(hs:so (l.map keyOf))(hl:eK l)(k:dh):aF (cS k.1 k.2 l):=by
 by_cases hk:k∈l.map keyOf
 ·have hm:EZ l k∈rowsOf l (l.map keyOf):=fm hk
  rw[nw hs]at hm
  exact hl (EZ l k) hm
 ·rw[gU hk];exact⟨δ,δ⟩
theorem O6(N:Nat)(hN:4000000≤N)(C:dN.bN){l E:au}(hq:Hz E)(hl:E.length≤100000)(hs:so (l.map keyOf))(I7:l.length≤100000)(hf:eK l)(hw: ∀x∈l,0≤(keyOf x).2∧(keyOf x).2<(25:Nat))(a:Nat)(ha:a≤24)(G:List dh)
  (hc: ∀(p:Nat) (out:au),Mark l (a+1) 0 p→out.length≤25*(a+1)→C l (E.map jB) out (p:Int) ((a+1:Nat):Int)=wG out (dH aF (fS l E) G)):
  ∀(m n b p:Nat) (out:au),b+m=25→m<n→Mark l a b p→out.length≤25*a+b→dN.l7 N C n l (E.map jB) out (p:Int) (a:Int) (b:Int)=wG out (dH aF (fS l E) (BJ a b m++G))
 |m,0,b,p,out,_,hn,_,_=>ω
 |0,n+1,b,p,out,hb,_,hM,ho=>by
  have e:b=25:=ω
  subst e
  unfold dN.l7 dN.oJ
  rw[fK ω,av,aw (x:=(a:Int)+1) ω ω,af a]
  exact hc p out (hM.row hw) ω
 |m+1,n+1,b,p,out,hb,hn,hM,ho=>by
  have hp:=hM.le
  have akO: ∀(p:Nat) (v:Int),Mark l a (b+1) p→dN.l7 N C n l (E.map jB) (if v=0 then out else out++[((a:Int),((b:Int),(v,())))]) (p:Int) (a:Int) ((b+1:Nat):Int)=wG (if v=0 then out else out++[((a:Int),((b:Int),(v,())))]) (dH aF (fS l E) (BJ a (b+1) m++G)):=λp v h=>
   O6 N hN C hq hl hs I7 hf hw a ha G hc m n (b+1) p _ ω ω h (by
    split
    ·omega
    ·rw[aS,aJ];omega)
  have wC:=acN hs hf ((a:Int),(b:Int))
  unfold dN.l7 dN.oJ
  show _=wG out (dH aF (fS l E) (((a:Int),(b:Int))::(BJ a (b+1) m++G)))
  rw[fQ (x:=(b:Int)) ω,ak,cA,aM,aM,aI]
  have fin: ∀(p:Nat) (q:Int),q=cS (a:Int) (b:Int) l→Mark l a (b+1) p→dN.Uk N C (dN.l7 N C n) l (E.map jB) out (p:Int) (a:Int) (b:Int) q=wG out (dH aF (fS l E) (((a:Int),(b:Int))::(BJ a (b+1) m++G))):=λp q e h=>by
   subst e
   unfold dN.Uk dN.Mg
   rw[Wd N hN hq hl _ _ _ wC,ar]
   refine Eq.trans ?_ (Ky (k:=((a:Int),(b:Int))) (v:=cS (a:Int) (b:Int) l+cS (a:Int) (b:Int) E) rfl)
   generalize cS (a:Int) (b:Int) l+cS (a:Int) (b:Int) E=v
   have hr:=akO p v h
   by_cases hv:aF v
   ·rw[vG hv,aj hv]
    dsimp only
    rw[bl,av,cond_not,aM,bY (by rw[aJ];omega),ak,aw (x:=(b:Int)+1) ω ω,af b,←hr]
    split<;>rfl
   ·rw[yI hv,ah hv];rfl
  rcases hM.step hs with⟨h1,h2,h3,h4,h5⟩|⟨h1,h2,h3⟩
  ·rw[aj (show(p:Int)<(l.length:Int)by omega),aW ω ω,ak,ak,aj h2,aj h3,aw (x:=(p:Int)+1) ω ω,af p,ak]
   exact fin (p+1) _ h4.symm h5
  ·by_cases g1:p<l.length
   ·rw[aj (show(p:Int)<(l.length:Int)by omega),aW ω ω,ak,ak]
    by_cases g2:(l.getD p bc).1=(a:Int)
    ·rw[aj g2,ah (λg3=>h1 g1 g2 g3)]
     exact fin p _ h2.symm h3
    ·rw[ah g2]
     exact fin p _ h2.symm h3
   ·rw[ah (show ¬(p:Int)<(l.length:Int)by omega)]
    exact fin p _ h2.symm h3
theorem O7(N:Nat)(hN:4000000≤N){l E:au}(hq:Hz E)(hl:E.length≤100000)(hs:so (l.map keyOf))(I7:l.length≤100000)(hf:eK l)(hw: ∀x∈l,0≤(keyOf x).2∧(keyOf x).2<(25:Nat)):
  ∀(m n a p:Nat) (out:au),a+m=8→m<n→Mark l a 0 p→out.length≤25*a→dN.l4 N n l (E.map jB) out (p:Int) (a:Int)=wG out (dH aF (fS l E) (zo 25 a m))
 |m,0,a,p,out,_,hn,_,_=>ω
 |0,n+1,a,p,out,ha,_,hM,ho=>by
  unfold dN.l4 dN.dQ
  rw[fK ω,av]
  show some (out,true)=some (out++[],true)
  rw[cw]
 |m+1,n+1,a,p,out,ha,hn,hM,ho=>by
  unfold dN.l4 dN.dQ
  rw[fQ ω,ak]
  exact O6 N hN _ hq hl hs I7 hf hw a ω (zo 25 (a+1) m) (λp out h ho=>O7 N hN hq hl hs I7 hf hw m n (a+1) p out ω ω h ho) 25 N 0 p out ω ω hM ω
def mc:List dh:=zo 25 1 7
theorem Um(hN:4000000≤N){l E:au}(hk:eJ l=true)(hl:l.length≤90000)(TH:eK l)(hq:Hz E)(hE:E.length≤100000):dN N l (E.map jB)=wG [] (dH aF (fS l E) mc):=by
 obtain⟨hs,Nk⟩:=lA hk
 unfold dN dN.b
 refine O7 N hN hq hE hs ω TH (λx hx=> ?_) 7 N 1 0 [] ω ω ⟨ω,λx hx=>(nomatch hx),λx hx eT=> ?_⟩ (by simp)
 ·have h:c9 (keyOf x).1 (keyOf x).2:=Nk x hx
  unfold c9 at h;omega
 ·have h:c9 (keyOf x).1 (keyOf x).2:=Nk x (mP hx)
  unfold c9 at h
  have xn:(keyOf x).1<((1:Nat):Int)∨((keyOf x).1=((1:Nat):Int)∧(keyOf x).2<((0:Nat):Int)):=eT
  omega
theorem O8{l E:au}(hk:eJ l=true)(hp: ∀x∈E,c9 x.1 x.2.1):dH aF (fS l E) (om (l.map keyOf) E)=dH aF (fS l E) mc:=by
 obtain⟨hs,Nk⟩:=lA hk
 refine O0 ⟨δ,δ⟩ (zU hs) (lV 25 7 1) (λk hk=> ?_) (λk hk hn=> ?_)
 ·have:c9 k.1 k.2:=by
   rcases nc.1 hk with h|⟨x,hx,rfl⟩
   ·obtain⟨x,hx,rfl⟩:=cW.1 h
    exact Nk x hx
   ·exact hp x hx
  unfold c9 at this
  exact o7.2 ω
 ·have h1:k∉l.map keyOf:=λh=>hn (nc.2 (Or.inl h))
  have h2:k∉E.map keyOf:=λh=>by
   obtain⟨x,hx,e⟩:=cW.1 h
   exact hn (nc.2 (Or.inr ⟨x,hx,e⟩))
  unfold fS
  rw[gU h1,gU h2];rfl
def cC(b:an)(s e:au):an×Int:=
 match dH Fq (fS b.2.2.2.1 s) iU with
 |none=>((cc,(cT,(bq,(bq,(db,(dq,())))))),2)
 |some s'=>match dH aF (fS b.2.2.1 e) mc with
  |none=>((cc,(cT,(bq,(bq,(db,(dq,())))))),2)
  |some r'=>((b.1,(b.2.1,(r',(s',b.2.2.2.2)))),0)
theorem O9{b:an}(w:oe b):F70 N b=some b:=by
 unfold F70
 have h1:=w.m;have h2:=w.a;have h3:=w.r;have h4:=w.s;have h5:=w.p;have h6:=w.o
 rw[vF N ω,ar,vF N ω,ar,vF N ω,ar,vF N ω,ar,vF N ω,ar,vF N ω,ar]
end VM
end
