/- A part of the proof of BookTurned of layer 18: what the functions compute, in plain words. -/
import Derived.Test.YthkjjlcblhbifaaGreatPlain1
set_option linter.all false
section
namespace VM
open Go VM.F
variable(N:Nat)
theorem u5(hN:200000≤N)(c:ae){l:aE}(hl:l.length≤100000):oC N c l=some (mi c l):=by
 unfold oC oC.b
 rw[mK N ω,ar]
 have hsc:=iC (F:=λn i=>oC.l4 N n l c i) (e:=true) (oB c l) (λn i r hi hp hr=> ?_) (λn=> ?_) N (show l.length<N by omega)
 ·rw[oz hsc];unfold mi
  rw[fc,Bool.and_comm]
 ·unfold oC.l4 oC.dM
  rw[aQ ω,aj,aU ω ω,aj,aG,aw (x:=(i:Int)+1) ω ω,af,hr]
  by_cases h0:0<i
  ·have e:W .i64 ((i:Int)-1)=((i-1:Nat):Int):=by rw[aw ω ω];omega
   dsimp only
   rw[aQ (x:=0) (y:=(i:Int)) ω,e,aG,aU (i:=((i-1:Nat):Int)) ω ω]
   simp only[cf,cz,aI,aj]
   by_cases hP:oB c l i
   ·rw[ak hP];unfold oB qF at hP
    rw[ag ω,ag ω,ag hP.2.2.1,ag (show ¬((l.getD i c7).2.1:Int)= -9223372036854775808 from hP.2.2.2.1),ag ω]
   ·rw[ag hP];unfold oB qF at hP
    have h2:=λh1 h2 h3 h4 h5=>hP ⟨h1,h2,h3,h4,h5⟩
    repeat' split
    all_goals first|rfl|(exfalso;exact h2 ω ω (by assumption) (by assumption) ω)
  ·rw[aO (x:=0) (y:=(i:Int)) ω]
   simp only[cf,cz,aI,aj,av]
   by_cases hP:oB c l i
   ·rw[ak hP];unfold oB qF at hP
    rw[ag ω,ag ω,ag hP.2.2.1,ag (show ¬((l.getD i c7).2.1:Int)= -9223372036854775808 from hP.2.2.2.1)]
   ·rw[ag hP];unfold oB qF at hP
    have h2:=λh1 h2 h3 h4 h5=>hP ⟨h1,h2,h3,h4,h5⟩
    repeat' split
    all_goals first|rfl|(exfalso;exact h2 ω ω (by assumption) (by assumption) ω)
 ·unfold oC.l4 oC.dM
  rw[aO ω,av]
def Mv(a b c d:Int):Prop:=(1≤a∧a≤1099511627776)∧(1≤b∧b≤1099511627776)∧(1≤c∧c≤12)∧(-1152921504606846976≤d∧d≤1152921504606846976)
instance(a b c d:Int):Decidable (Mv a b c d):=by unfold Mv;infer_instance
def KE(x:cO):Prop:=Mv x.1 x.2.1 x.2.2.1 x.2.2.2.1
instance(x:cO):Decidable (KE x):=by unfold KE;infer_instance
theorem UK(x:cO):ZB N x=some (decide (KE x)):=by
 unfold ZB
 rw[m9 x.2.2.2.1]
 repeat rw[ig]
 congr 1
 rw[pV,fV]
 unfold KE Mv
 simp only[bQ,xi]
 omega
def sD(m lot:Int)(x:cO):Bool:=decide (dI x.2.2.1 m)&&decide (dI x.2.1 lot)
def B0(l:aN)(i:Nat):Prop:=KE (l.getD i bb)∧uY i (l.getD (i-1) bb).1 (l.getD i bb).1∧(l.take i).any (sD (l.getD i bb).2.2.1 (l.getD i bb).2.1)=false
instance(l:aN):DecidablePred (B0 l):=λi=>by unfold B0;infer_instance
def ZC(l:aN):Bool:=decide (∀j,j<l.length→B0 l j)&&decide (l.length≤40)
def dF(a b:Int):au→List Int
 |[]=>[]
 |x::t=>if x.1=a∧x.2.1=b then dQ x::dF a b t else dF a b t
theorem fp(a b:Int)(x:dg)(t:au):dF a b (x::t)=if x.1=a∧x.2.1=b then dQ x::dF a b t else dF a b t:=rfl
def c3(a b:Int)(l:au):Int:=(dF a b l).sum
theorem WB(a b:Int):c3 a b []=0:=rfl
theorem jU(a b:Int)(x:dg)(t:au):c3 a b (x::t)=(if x.1=a∧x.2.1=b then dQ x else 0)+c3 a b t:=by
 unfold c3
 rw[fp]
 split
 ·rw[cN]
 ·omega
theorem ly{a b:Int}: ∀{l:au},(∀x∈l,¬(x.1=a∧x.2.1=b))→c3 a b l=0
 |[],_=>rfl
 |x::t,h=>by
  rw[jU,ag (h x (bu ..)),ly (λy hy=>h y (ba _ hy))];rfl
abbrev dt:=Int×Int
def um(x y:dt):Prop:=lZ x.1 x.2 y.1 y.2
instance(x y:dt):Decidable (um x y):=by unfold um;infer_instance
def keyOf(x:dg):dt:=(x.1,x.2.1)
def uq(K:List dt):Prop:=K.Pairwise um
theorem pN{x:dt}(h:um x x):False:=by unfold um lZ at h;omega
theorem KF{x y:dt}(h:um x y)(k:um y x):False:=by unfold um lZ at*;omega
theorem yZ{x y z:dt}(h:um x y)(k:um y z):um x z:=by unfold um lZ at*;omega
theorem UL(x y:dt):um x y∨x=y∨um y x:=by
 have:(x.1=y.1∧x.2=y.2)→x=y:=λh=>jq h.1 h.2
 unfold um lZ
 by_cases h1:x.1=y.1
 ·by_cases h2:x.2=y.2
  ·exact Or.inr (Or.inl (this ⟨h1,h2⟩))
  ·omega
 ·omega
theorem UM: ∀{a b:List dt},uq a→uq b→(∀x,x∈a↔x∈b)→a=b
 |[],[],_,_,_=>rfl
 |[],y::t,_,_,h=>nomatch (h y).2 (bu ..)
 |x::s,[],_,_,h=>nomatch (h x).1 (bu ..)
 |x::s,y::t,ha,hb,h=>by
  obtain⟨ha1,ha2⟩:=eX.1 ha
  obtain⟨nD,vm⟩:=eX.1 hb
  have XS:x=y:=by
   rcases bh.1 ((h x).1 (bu ..))with e|e
   ·exact e
   ·rcases bh.1 ((h y).2 (bu ..))with f|f
    ·exact f.symm
    ·exact(KF (ha1 y f) (nD x e)).elim
  subst XS
  rw[UM ha2 vm λz=>⟨λhz=> ?_,λhz=> ?_⟩]
  ·rcases bh.1 ((h z).1 (ba _ hz))with e|e
   ·subst e;exact(pN (ha1 z hz)).elim
   ·exact e
  ·rcases bh.1 ((h z).2 (ba _ hz))with e|e
   ·subst e;exact(pN (nD z hz)).elim
   ·exact e
def eN(P:Int→Prop) [DecidablePred P](f:Int→Int→Int):List dt→Option au
 |[]=>some []
 |k::t=>if P (f k.1 k.2)then(eN P f t).map (λo=>if f k.1 k.2=0 then o else(k.1,(k.2,(f k.1 k.2,())))::o)else none
theorem lU(P:Int→Prop) [DecidablePred P](f:Int→Int→Int)(k:dt)(t:List dt):eN P f (k::t)=if P (f k.1 k.2)then(eN P f t).map (λo=>if f k.1 k.2=0 then o else(k.1,(k.2,(f k.1 k.2,())))::o)else none:=rfl
theorem Eo{P:Int→Prop} [DecidablePred P](h0:P 0){f:Int→Int→Int}(p:dt→Bool): ∀{K:List dt},(∀k∈K,p k=false→f k.1 k.2=0)→eN P f (K.filter p)=eN P f K
 |[],_=>rfl
 |k::t,h=>by
  have ih:=Eo h0 p (K:=t) (λx hx=>h x (ba _ hx))
  cases hp:p k
  ·rw[List.filter_cons_of_neg (by rw[hp];decide),ih,lU,h k (bu ..) hp,ak h0]
   simp
  ·rw[List.filter_cons_of_pos hp,lU,lU,ih]
theorem Pq{P:Int→Prop} [DecidablePred P](h0:P 0){f:Int→Int→Int}{K G:List dt}(hK:uq K)(hG:uq G)(hs: ∀k∈K,k∈G)(hz: ∀k∈G,k∉K→f k.1 k.2=0):eN P f K=eN P f G:=by
 have e:K=G.filter (λk=>decide (k∈K)):=by
  refine UM hK (xf List.filter_sublist hG) λx=> ?_
  rw[rS]
  exact⟨λh=>⟨hs x h,aV h⟩,λh=>bD h.2⟩
 rw[e]
 exact Eo h0 _ λk hk hp=>hz k hk (of_decide_eq_false hp)
def yf(k:dt):List dt→List dt
 |[]=>[k]
 |x::t=>if um x k then x::yf k t else if x=k then x::t else k::x::t
theorem sE{k x:dt}: ∀{K:List dt},x∈yf k K↔x=k∨x∈K
 |[]=>by show x∈[k]↔_;simp
 |y::t=>by
  show x∈(if um y k then y::yf k t else if y=k then y::t else k::y::t)↔_
  split
  ·rw[bh,sE,bh]
   exact⟨λh=>h.elim (λe=>Or.inr (Or.inl e)) (λh=>h.elim Or.inl (λh=>Or.inr (Or.inr h))),λh=>h.elim (λe=>Or.inr (Or.inl e)) (λh=>h.elim Or.inl (λh=>Or.inr (Or.inr h)))⟩
  ·split
   ·rename_i e
    rw[←e]
    exact⟨Or.inr,λh=>h.elim (λe=>e▸bu ..) id⟩
   ·rw[bh]
theorem B1{k:dt}: ∀{K:List dt},uq K→uq (yf k K)
 |[],_=>eX.2 ⟨λ_ h=>(nomatch h),List.Pairwise.nil⟩
 |y::t,h=>by
  obtain⟨h1,h2⟩:=eX.1 h
  show uq (if um y k then y::yf k t else if y=k then y::t else k::y::t)
  split
  ·rename_i hy
   exact eX.2 ⟨λz hz=>(sE.1 hz).elim (λe=>e▸hy) (h1 z),B1 h2⟩
  ·rename_i hy
   split
   ·exact h
   ·rename_i he
    have hk:um k y:=(UL y k).elim (λh=>absurd h hy) (λh=>h.elim (λh=>absurd h he) id)
    exact eX.2 ⟨λz hz=>(bh.1 hz).elim (λe=>e▸hk) (λhz=>yZ hk (h1 z hz)),h⟩
def oD(K:List dt)(E:au):List dt:=E.foldl (λK x=>yf (keyOf x) K) K
theorem tM(K:List dt)(x:dg)(E:au):oD K (x::E)=oD (yf (keyOf x) K) E:=rfl
theorem Al: ∀{E:au} {K:List dt},uq K→uq (oD K E)
 |[],_,h=>h
 |x::E,K,h=>by rw[tM];exact Al (B1 h)
theorem ns{k:dt}: ∀{E:au} {K:List dt},k∈oD K E↔(k∈K∨ ∃x∈E,keyOf x=k)
 |[],K=>by
  show k∈K↔_
  simp
 |x::E,K=>by
  rw[tM,ns,sE]
  constructor
  ·rintro((rfl|h)|⟨y,hy,e⟩)
   ·exact Or.inr ⟨x,bu ..,rfl⟩
   ·exact Or.inl h
   ·exact Or.inr ⟨y,ba _ hy,e⟩
  ·rintro(h|⟨y,hy,e⟩)
   ·exact Or.inl (Or.inr h)
   ·rcases bh.1 hy with rfl|hy
    ·exact Or.inl (Or.inl e.symm)
    ·exact Or.inr ⟨y,hy,e⟩
theorem HN(k:dt): ∀K:List dt,(yf k K).length≤K.length+1
 |[]=>aH _
 |y::t=>by
  show(if um y k then y::yf k t else if y=k then y::t else k::y::t).length≤_
  have:=HN k t
  split
  ·rw[aT,aT];omega
  ·split<;>rw[aT]<;>(try rw[aT])<;>omega
def rowsOf(l:au)(K:List dt):au:=K.map λk=>(k.1,(k.2,(c3 k.1 k.2 l,())))
theorem nL{l:au}(h:uq (l.map keyOf)):rowsOf l (l.map keyOf)=l:=by
 have key: ∀(m:au),uq (m.map keyOf)→(∀x∈m,c3 x.1 x.2.1 l=dQ x)→rowsOf l (m.map keyOf)=m:=by
  intro m
  induction m with
  |nil=>intro _ _;rfl
  |cons x t ih=>
   intro hm hx
   have:=ih (eX.1 hm).2 (λy hy=>hx y (ba _ hy))
   unfold rowsOf at*
   rw[ca,ca,this]
   congr 1
   show(x.1,(x.2.1,(c3 x.1 x.2.1 l,())))=x
   rw[hx x (bu ..)];rfl
 refine key l h ?_
 clear key
 induction l with
 |nil=>intro x hx;nomatch hx
 |cons y t ih=>
  intro x hx
  obtain⟨h1,h2⟩:=eX.1 h
  have kN: ∀z∈t,¬(z.1=y.1∧z.2.1=y.2.1):=λz hz e=>by
   have hk:=h1 (keyOf z) (fG hz)
   have he:keyOf z=keyOf y:=jq e.1 e.2
   rw[he]at hk
   exact pN hk
  rw[jU]
  rcases bh.1 hx with rfl|hx
  ·rw[ak ⟨rfl,rfl⟩,ly kN];omega
  ·rw[ag (λe=>kN x hx ⟨e.1.symm,e.2.symm⟩),ih h2 x hx];omega
instance(x:Int):Decidable (aF x):=by unfold aF;infer_instance
def Fq(x:Int):Prop:=aF x∧ri x
instance:DecidablePred Fq:=λx=>by unfold Fq;infer_instance
def vZ(r:Option au):Option (au×Int):=some (match r with|some o=>(o,0)|none=>([],2))
def fS(l E:au)(a b:Int):Int:=c3 a b l+c3 a b E
theorem FU{α:Type}(N:Nat){l:List α}{i:Nat}{x:α}(hi:i≤l.length)(hl:l.length<1000000):qY N l (i:Int) [x]=some (l.take i++x::l.drop i):=by
 unfold qY
 rw[ak ⟨ω,ω,rfl,by unfold Ba;omega⟩]
 rfl
theorem wa{α:Type}(N:Nat){l:List α}(hl:l.length≤1000000):jv N l=some l:=by
 unfold jv
 rw[ak (by unfold Ba;omega)]
theorem HO{v:Int}(h:cH v):Sz N (cK v)=some (C0 v):=acT N h.1 h.2
theorem wb{v:Int}(h:aF v):C0 v=(v,true):=by unfold C0;exact ak h
theorem y4{v:Int}(h: ¬aF v):C0 v=(0,false):=by unfold C0;exact ag h
theorem Dg{ws:List Int}{x:Int}(h: ∀y∈ws,aF y)(hx:aF x): ∀y∈ws++[x],aF y:=λy hy=>by
 rcases bn.1 hy with hy|hy
 ·exact h y hy
 ·rw[cy.1 hy];exact hx
theorem Pr{l:au}:ac5 N l=some l:=by
 unfold ac5
 rw[eh ω ω ω ω,aj]
 simp
theorem ZD(hN:2000000≤N)(K:cP.KG){E out R:au}(hq:dU E)(hl:E.length≤100000)(ho:out.length≤1000000)(r:dg)(hr:aF (dQ r))(i:Nat)(hi:i≤1000000):
  cP.l27 N K N E out r [cK (dQ r)] R (R.length:Int) (i:Int) E (E.length:Int) 0=
   if Fq (dQ r+c3 r.1 r.2.1 E)then K E (if dQ r+c3 r.1 r.2.1 E=0 then out else out++[(r.1,(r.2.1,(dQ r+c3 r.1 r.2.1 E,())))]) R (R.length:Int) ((i+1:Nat):Int)else some (bo,(2:Int)):=by
 have:=ll E aZ (λn j ws=>cP.l27 N K n E out r (ws.map cK) R (R.length:Int) (i:Int) E (E.length:Int) j)
  (λt ws=>if Fq (ws++dF r.1 r.2.1 t).sum then K E (if(ws++dF r.1 r.2.1 t).sum=0 then out else out++[(r.1,(r.2.1,((ws++dF r.1 r.2.1 t).sum,())))]) R (R.length:Int) ((i+1:Nat):Int)else some (bo,(2:Int)))
  (λj (ws:List Int)=>ws.length≤j+1∧ ∀x∈ws,aF x)
  (λn j ws hj hI ed=> ?_) (λn ws hI=> ?_) E.length N 0 [dQ r] ω ω ω ⟨aH _,λx hx=>by rw[cy.1 hx];exact hr⟩
 ·rw[show((0:Nat):Int)=0 from rfl,cM]at this
  refine this.trans ?_
  have e:([dQ r]++dF r.1 r.2.1 E).sum=dQ r+c3 r.1 r.2.1 E:=by rw[Gp,cN];rfl
  rw[e]
 ·unfold cP.l27 cP.ac6
  have kP:=vW hq j
  have jA:=kP
  unfold aF dQ at jA
  rw[aQ ω,aj,aU ω ω,aj,aG,vS N jA.1 jA.2,ar,bJ (by rw[cB,aJ];omega),aj,aw (x:=(j:Int)+1) ω ω,af,aI,aI]
  by_cases h1:(E.getD j aZ).1=r.1
  ·by_cases h2:(E.getD j aZ).2.1=r.2.1
   ·have hc:dF r.1 r.2.1 (E.getD j aZ::E.drop (j+1))=dQ (E.getD j aZ)::dF r.1 r.2.1 (E.drop (j+1)):=by rw[fp,ak ⟨h1,h2⟩]
    rw[ak h1,ak h2,hc]
    have:=ed (ws++[dQ (E.getD j aZ)]) ⟨by rw[aS,aJ];omega,Dg hI.2 kP⟩
    rw[dr]at this
    refine this.trans ?_
    rw[bF];rfl
   ·have hc:dF r.1 r.2.1 (E.getD j aZ::E.drop (j+1))=dF r.1 r.2.1 (E.drop (j+1)):=by rw[fp,ag (λh=>h2 h.2)]
    rw[ak h1,ag h2,hc]
    exact ed ws ⟨ω,hI.2⟩
  ·have hc:dF r.1 r.2.1 (E.getD j aZ::E.drop (j+1))=dF r.1 r.2.1 (E.drop (j+1)):=by rw[fp,ag (λh=>h1 h.1)]
   rw[ag h1,hc]
   exact ed ws ⟨ω,hI.2⟩
 ·unfold cP.l27 cP.ac6
  have hs:=KC hI.2 ω
  rw[aO ω,av,Mq N hI.2 ω ω,ar]
  show _=if Fq (ws++[]).sum then K E (if(ws++[]).sum=0 then out else out++[(r.1,(r.2.1,((ws++[]).sum,())))]) R (R.length:Int) ((i+1:Nat):Int)else some (bo,(2:Int))
  rw[cA,HO N hs,ar]
  by_cases h1:aF ws.sum
  ·rw[wb h1]
   dsimp only
   rw[bk,av,tI,ar,cond_not,ga,cond_not,aI,bJ (by rw[aJ];omega),aj,aw (x:=(i:Int)+1) ω ω,af]
   by_cases h2:ri ws.sum
   ·rw[ak h2,ak (show Fq ws.sum from⟨h1,h2⟩)]
    split<;>rfl
   ·rw[ag h2,ag (λh=>h2 h.2)]
  ·rw[y4 h1,ag (λh=>h1 h.1)]
   rfl
theorem WC(hN:2000000≤N){l E R:au}(hq:dU E)(hl:E.length≤100000)(hR:R.length≤200000)(hv: ∀r∈R,aF (dQ r)∧dQ r=c3 r.1 r.2.1 l):
  cP.l23 N N E [] R (R.length:Int) 0=vZ (eN Fq (fS l E) (R.map keyOf)):=by
 have:=ll R aZ (λn i out=>cP.l23 N n E out R (R.length:Int) i) (λt out=>vZ ((eN Fq (fS l E) (t.map keyOf)).map (λo=>out++o))) (λi (out:au)=>out.length≤i)
  (λn i out hi hI hr=> ?_) (λn out hI=> ?_) R.length N 0 [] ω ω ω (aH _)
 ·rw[show((0:Nat):Int)=0 from rfl,cM]at this
  refine this.trans ?_
  simp
 ·unfold cP.l23 cP.ac8
  have hm:R.getD i aZ∈R:=by
   rw[aW,bm hi];exact dG hi
  have R3:=hv _ hm
  have kP:=R3.1
  have jA:=kP
  unfold aF dQ at jA
  rw[aQ ω,aj,aU ω ω,aj,aG,vS N jA.1 jA.2,ar]
  refine(ZD N hN _ hq hl ω _ kP i ω).trans ?_
  rw[ca,lU]
  have ef:fS l E (keyOf (R.getD i aZ)).1 (keyOf (R.getD i aZ)).2=dQ (R.getD i aZ)+c3 (R.getD i aZ).1 (R.getD i aZ).2.1 E:=by
   show c3 _ _ l+c3 _ _ E=_
   rw[R3.2];rfl
  rw[ef]
  generalize hS:dQ (R.getD i aZ)+c3 (R.getD i aZ).1 (R.getD i aZ).2.1 E=v
  by_cases hF:Fq v
  ·rw[ak hF,ak hF,hr _ (by
    split
    ·omega
    ·rw[aS,aJ];omega)]
   cases eN Fq (fS l E) ((R.drop (i+1)).map keyOf)with
   |none=>rfl
   |some o=>
    show vZ (some _)=vZ (some _)
    congr 2
    split
    ·rfl
    ·exact bF _ _ _
  ·rw[ag hF,ag hF];rfl
 ·unfold cP.l23 cP.ac8
  rw[aO ω,av,Pr,ar]
  show _=vZ (some (out++[]))
  rw[cA];rfl
def Fg(l:au)(k:dt):dg:=(k.1,(k.2,(c3 k.1 k.2 l,())))
theorem eW(l:au)(K:List dt):(rowsOf l K).length=K.length:=cB ..
theorem KH(l:au){K:List dt}{p:Nat}(h:p<K.length):(rowsOf l K).getD p aZ=Fg l (K.getD p (0,0)):=by
 unfold rowsOf
 rw[aW,ob,bm h,aW,bm h];rfl
theorem wc(l:au)(K:List dt)(p:Nat)(k:dt):(rowsOf l K).take p++Fg l k::(rowsOf l K).drop p=rowsOf l (K.take p++k::K.drop p):=by
 unfold rowsOf
 rw[dr,ca,List.map_take,List.map_drop];rfl
theorem Ep(l:au)(K:List dt):(rowsOf l K).map keyOf=K:=by
 unfold rowsOf
 rw[List.map_map]
 induction K with
 |nil=>rfl
 |cons k t ih=>rw[ca,ih];rfl
theorem B2{k x:dt}:0<C1 k.1 k.2 x.1 x.2↔um x k:=by
 unfold C1 um lZ;split<;>omega
theorem y5{k x:dt}:C1 k.1 k.2 x.1 x.2=0↔x=k:=by
 have:x=k↔x.1=k.1∧x.2=k.2:=⟨λh=>h▸⟨rfl,rfl⟩,λh=>jq h.1 h.2⟩
 rw[this]
 unfold C1;split<;>omega
def B3(k:dt):Prop:=JS k.1∧JS k.2
theorem UN{k:dt}{K:List dt}{p:Nat}(h:p<K.length):yf k (K.drop p)=if um (K.getD p (0,0)) k then K.getD p (0,0)::yf k (K.drop (p+1))else if K.getD p (0,0)=k then K.drop p else k::K.drop p:=by
 rw[drop_cons h (0,0)];rfl
theorem B4{K:List dt}{p:Nat}(h:p<K.length)(t:List dt):K.take p++K.getD p (0,0)::t=K.take (p+1)++t:=by
 rw[←tx h,bF,aW,bm h];rfl
def zeroAt(l:au)(K:List dt)(k:dt):Prop:=k∉K→c3 k.1 k.2 l=0
theorem y6{l:au}{k:dt}(h:c3 k.1 k.2 l=0):((k.1,(k.2,((0:Int),()))):dg)=Fg l k:=by
 unfold Fg;rw[h]
theorem we{k:dt}{K:List dt}{p:Nat}(hs:uq K)(hp: ∀x∈K.take p,um x k)(h: ∀x∈K.drop p,um k x):k∉K:=λhk=>by
 rw[←gT p K]at hk
 rcases bn.1 hk with hk|hk
 ·exact pN (hp k hk)
 ·exact pN (h k hk)
theorem UO{k:dt}{K:List dt}{p:Nat}(hs:uq K)(h:p<K.length)(h1: ¬um (K.getD p (0,0)) k)(h2:K.getD p (0,0)≠k): ∀x∈K.drop p,um k x:=by
 have hk:um k (K.getD p (0,0)):=(UL (K.getD p (0,0)) k).elim (λh=>absurd h h1) (λh=>h.elim (λh=>absurd h h2) id)
 have hd:uq (K.drop p):=xf (List.drop_sublist ..) hs
 rw[drop_cons h (0,0)]at hd ⊢
 intro x hx
 rcases bh.1 hx with rfl|hx
 ·exact hk
 ·exact yZ hk ((eX.1 hd).1 x hx)
theorem ai1(N:Nat)(C:cP.fT){l E S:au}{K:List dt}(hs:uq K)(hl:K.length≤100000)(hf: ∀k∈K,B3 k)(x:dg)(hx:B3 (keyOf x))(hz:zeroAt l K (keyOf x))(len:Int)(i:Nat)(hi:i≤1000000):
  ∀(m n p:Nat),K.length-p≤m→m<n→p≤K.length→(∀y∈K.take p,um y (keyOf x))→
   cP.yc N C n E (rowsOf l K) x (p:Int) S len (i:Int)=C E (rowsOf l (K.take p++yf (keyOf x) (K.drop p))) S len ((i+1:Nat):Int)
 |m,0,p,_,hn,_,_=>ω
 |m,n+1,p,hm,hn,hp,hb=>by
  unfold cP.yc cP.wX cP.j18 cP.ald
  rw[eW,aw (x:=(i:Int)+1) ω ω,af i]
  by_cases h:p<K.length
  ·have hfk:=hf (K.getD p (0,0)) (by rw[aW,bm h];exact dG h)
   have ho:Wm N x.1 x.2.1 ((rowsOf l K).getD p aZ)=some (C1 (keyOf x).1 (keyOf x).2 (K.getD p (0,0)).1 (K.getD p (0,0)).2):=by
    rw[KH l h]
    exact KB N hx.1 hx.2 hfk.1 hfk.2
   rw[aQ ω,aj,aU ω ω,aj,aG,ho,ar,eH (x:=(p:Int)) ω,av,aj,ar,cf,cond_not,aI,UN h]
   by_cases h1:um (K.getD p (0,0)) (keyOf x)
   ·rw[ak (B2.2 h1),ak h1,aw (x:=(p:Int)+1) ω ω,af p,B4 h]
    refine ai1 N C hs hl hf x hx hz len i hi (m-1) n (p+1) ω ω ω λy hy=> ?_
    rw[←tx h]at hy
    rcases bn.1 hy with hy|hy
    ·exact hb y hy
    ·rw[aW,bm h]at h1
     rw[cy.1 hy];exact h1
   ·rw[ag (λh=>h1 (B2.1 h)),ag h1]
    by_cases h2:K.getD p (0,0)=keyOf x
    ·rw[ak (y5.2 h2),ak h2,gT]
    ·rw[ag (λh=>h2 (y5.1 h)),ag h2,FU N (by rw[eW];omega) (by rw[eW];omega),ar]
     have AA:=hz (we hs hb (UO hs h h1 h2))
     have e:=wc l K p (keyOf x)
     rw[←y6 AA]at e
     exact fe (λR=>C E R S len ((i+1:Nat):Int)) e
  ·have hd:K.drop p=[]:=xe ω
   rw[aO ω,av,eg ω,aj,FU N (by rw[eW];omega) (by rw[eW];omega),ar]
   have AA:=hz (we hs hb (by rw[hd];exact λx hx=>nomatch hx))
   have e:=wc l K p (keyOf x)
   rw[←y6 AA]at e
   have e2:yf (keyOf x) (K.drop p)=keyOf x::K.drop p:=by rw[hd];rfl
   rw[e2]
   exact fe (λR=>C E R S len ((i+1:Nat):Int)) e
def KI(E:au)(i:Nat):Prop:=dI (dp (i:Int) E).sum 0
instance(E:au):DecidablePred (KI E):=λi=>by unfold KI;infer_instance
theorem ac9(hN:2000000≤N)(K:g9.c0){E:au}(hq:dU E)(hl:E.length≤100000)(a:Nat)(ha:a<6):
  g9.l6 N K N E (a:Int) [] (a:Int) E (E.length:Int) 0=if(dp (a:Int) E).sum=0 then K E ((a+1:Nat):Int)else some false:=by
 have:=ll E aZ (λn j ws=>g9.l6 N K n E (a:Int) (ws.map cK) (a:Int) E (E.length:Int) j)
  (λt ws=>if(ws++dp (a:Int) t).sum=0 then K E ((a+1:Nat):Int)else some false)
  (λj (ws:List Int)=>ws.length≤j∧ ∀x∈ws,aF x)
  (λn j ws hj hI hr=> ?_) (λn ws hI=> ?_) E.length N 0 [] ω ω ω ⟨aH _,λx hx=>nomatch hx⟩
 ·rw[show((0:Nat):Int)=0 from rfl,cM]at this
  exact this
 ·unfold g9.l6 g9.uU
  have kP:=vW hq j
  have jA:=kP
  unfold aF dQ at jA
  rw[aQ ω,aj,aU ω ω,aj,aG,vS N jA.1 jA.2,ar,bJ (by rw[cB,aJ];omega),aj,aw (x:=(j:Int)+1) ω ω,af j,aI]
  by_cases h1:(E.getD j aZ).2.1=(a:Int)
  ·have hc:dp (a:Int) (E.getD j aZ::E.drop (j+1))=dQ (E.getD j aZ)::dp (a:Int) (E.drop (j+1)):=by rw[dB,ak h1]
   rw[ak h1,hc]
   have:=hr (ws++[dQ (E.getD j aZ)]) ⟨by rw[aS,aJ];omega,Dg hI.2 kP⟩
   rw[dr]at this
   refine this.trans ?_
   rw[bF];rfl
  ·have hc:dp (a:Int) (E.getD j aZ::E.drop (j+1))=dp (a:Int) (E.drop (j+1)):=by rw[dB,ag h1]
   rw[ag h1,hc]
   exact hr ws ⟨ω,hI.2⟩
 ·unfold g9.l6 g9.uU
  rw[aO ω,av,Mq N hI.2 ω ω,ar]
  show _=if(ws++[]).sum=0 then K E ((a+1:Nat):Int)else some false
  rw[cA,bk,av,BW,ar,cond_not,aI,aw (x:=(a:Int)+1) ω ω,af a]
  by_cases h:ws.sum=0
  ·rw[ak h,ak (jB.2 h)]
  ·rw[ag h,ag (λk=>h (jB.1 k))]
theorem ZE(hN:2000000≤N){E:au}(hq:dU E)(hl:E.length≤100000):g9 N E=some (decide (∀j,j<kv→KI E j)&&true):=by
 unfold g9 g9.b
 refine iC (len:=kv) (F:=λn i=>g9.l2 N n E i) (KI E) (λn i r hi hp hr=> ?_) (λn=> ?_) N (by unfold kv;omega)
 ·unfold g9.l2 g9.fN
  unfold kv at hi
  rw[aQ ω,aj,ac9 N hN _ hq hl i hi,hr]
  unfold KI dI
  rfl
 ·unfold g9.l2 g9.fN
  rw[aO (by unfold kv;omega),av]
structure Ps(E:au):Prop where
 place: ∀x∈E,cg x.1 x.2.1
 q: ∀x∈E,aF (dQ x)∧ri (dQ x)
 len:E.length≤400
 flat: ∀i:Int,(dp i E).sum=0
theorem KJ{x:dg}(h:cg x.1 x.2.1):B3 (keyOf x):=by
 have h':cg (keyOf x).1 (keyOf x).2:=h
 unfold cg at h'
 unfold B3 JS
 omega
theorem gY{l:au}{k:dt}(h:k∉l.map keyOf):c3 k.1 k.2 l=0:=ly λx hx e=>h (by
 have:keyOf x=k:=jq e.1 e.2
 rw[←this];exact fG hx)
theorem WD(hN:2000000≤N){l E:au}(hq:dU E)(hE:E.length≤400)(hp: ∀x∈E,B3 (keyOf x))(hs:uq (l.map keyOf))(hl:l.length≤90000)(Ua:dU l)(ND: ∀x∈l,B3 (keyOf x)):
  cP.mw N N E l E (E.length:Int) 0=vZ (eN Fq (fS l E) (oD (l.map keyOf) E)):=by
 have:=ll E aZ (λn i K=>cP.mw N n E (rowsOf l K) E (E.length:Int) i) (λt K=>vZ (eN Fq (fS l E) (oD K t)))
  (λi (K:List dt)=>K.length≤l.length+i∧uq K∧(∀k∈K,B3 k)∧ ∀x∈l,keyOf x∈K)
  (λn i K hi hI hr=> ?_) (λn K hI=> ?_) E.length N 0 (l.map keyOf) ω ω ω ⟨by rw[cB];omega,hs,λk hk=>by
   obtain⟨x,hx,rfl⟩:=cY.1 hk
   exact ND x hx,λx hx=>fG hx⟩
 ·rw[show((0:Nat):Int)=0 from rfl,cM]at this
  simp only[nL hs]at this
  exact this
 ·unfold cP.mw cP.lq
  obtain⟨h1,h2,h3,h4⟩:=hI
  have hm:E.getD i aZ∈E:=by
   rw[aW,bm hi];exact dG hi
  rw[aQ ω,aj,aU ω ω,aj,aG]
  refine(ai1 N _ h2 ω h3 (E.getD i aZ) (hp _ hm) (λhk=>gY λhx=>hk (by
   obtain⟨x,hx,e⟩:=cY.1 hx
   rw[←e];exact h4 x hx)) (E.length:Int) i ω K.length N 0 ω ω ω (λy hy=>nomatch hy)).trans ?_
  rw[mA,cD,cM,tM]
  refine hr (yf (keyOf (E.getD i aZ)) K) ⟨ck (HN _ K) ω,B1 h2,λk hk=>(sE.1 hk).elim (λe=>e▸hp _ hm) (h3 k),λx hx=>sE.2 (Or.inr (h4 x hx))⟩
 ·unfold cP.mw cP.lq
  obtain⟨h1,h2,h3,h4⟩:=hI
  rw[aO ω,av,eW,db ω ω ω,aj]
  have:=WC N hN (l:=l) (R:=rowsOf l K) hq ω (by rw[eW];omega) (λr hr=>by
   unfold rowsOf at hr
   obtain⟨k,hk,rfl⟩:=cY.1 hr
   refine⟨?_,rfl⟩
   show aF (c3 k.1 k.2 l)
   by_cases hkl:k∈l.map keyOf
   ·have e:rowsOf l (l.map keyOf)=l:=nL hs
    have hm:Fg l k∈rowsOf l (l.map keyOf):=fG hkl
    rw[e]at hm
    exact Ua (Fg l k) hm
   ·rw[gY hkl];exact⟨δ,δ⟩)
  rw[Ep,eW]at this
  exact this
theorem eZ{l:au}(h:dk l=true):uq (l.map keyOf)∧(∀x∈l,cg x.1 x.2.1∧ri (dQ x)):=by
 unfold dk at h
 rw[fc]at h
 have h':=bD h
 have get: ∀(i:Nat) (hi:i<l.length),l.getD i aZ=l[i]:=λi hi=>by rw[aW,bm hi];rfl
 have ZF: ∀i,i+1<l.length→um (keyOf (l.getD i aZ)) (keyOf (l.getD (i+1) aZ)):=λi hi=>(h' (i+1) hi).2.2.2 ω
 have eU: ∀j,j<l.length→ ∀i,i<j→um (keyOf (l.getD i aZ)) (keyOf (l.getD j aZ)):=by
  intro j
  induction j with
  |zero=>intro _ i hi;omega
  |succ j ih=>
   intro hj i hi
   by_cases e:i=j
   ·rw[e];exact ZF j hj
   ·exact yZ (ih ω i ω) (ZF j hj)
 refine⟨?_,λx hx=> ?_⟩
 ·refine uz.2 (vr.2 λi j hi hj qw=> ?_)
  have:=eU j hj i qw
  rw[get i hi,get j hj]at this
  exact this
 ·obtain⟨i,hi,e⟩:=gL hx
  have:=h' i hi
  unfold mM np at this
  rw[get i hi,e]at this
  exact⟨this.1,this.2.2.1⟩
theorem ada(hN:2000000≤N){l E:au}(hk:dk l=true)(hl:l.length≤90000)(Ua:dU l)(g:Ps E):cP N l E=vZ (eN Fq (fS l E) (oD (l.map keyOf) E)):=by
 obtain⟨hs,ND⟩:=eZ hk
 have hE:=g.len
 unfold cP cP.b
 rw[xY N ω ω,hk,ar,bk,av,aO ω,av]
 refine Eg E aZ (λn i=>cP.l4 N n l E E (E.length:Int) i) (λ_=>vZ (eN Fq (fS l E) (oD (l.map keyOf) E))) (λn i hi hr=> ?_) (λn=> ?_) N ω
 ·unfold cP.l4 cP.dM
  have hm:E.getD i aZ∈E:=by
   rw[aW,bm hi];exact dG hi
  rw[aQ ω,aj,aU ω ω,aj,aG,UB,aV (g.place _ hm),ar,bk,av,tI,ar,
   aV (show ri ((E.getD i aZ).2.2.1)from(g.q _ hm).2),bk,av,aw (x:=(i:Int)+1) ω ω,af i]
  exact hr
 ·unfold cP.l4 cP.dM
  have hf:g9 N E=some true:=by
   rw[ZE N hN (λx hx=>(g.q x hx).1) ω,aV (p:= ∀j,j<kv→KI E j) (λj _=>g.flat (j:Int))];rfl
  rw[aO ω,av,hf,ar,bk,av,wa N ω,ar]
  exact WD N hN (λx hx=>(g.q x hx).1) hE (λx hx=>KJ (g.place x hx)) hs hl Ua (λx hx=>KJ (ND x hx).1)
def B5(a b:Nat):Nat→List dt
 |0=>[]
 |m+1=>((a:Int),(b:Int))::B5 a (b+1) m
def zH(w a:Nat):Nat→List dt
 |0=>[]
 |m+1=>B5 a 0 w++zH w (a+1) m
theorem B6{k:dt}{a:Nat}: ∀{m b:Nat},k∈B5 a b m↔k.1=a∧(b:Int)≤k.2∧k.2<(b+m:Nat)
 |0,b=>⟨λh=>(nomatch h),λh=>ω⟩
 |m+1,b=>by
  show k∈((a:Int),(b:Int))::B5 a (b+1) m↔_
  rw[bh,B6]
  have:k=((a:Int),(b:Int))↔k.1=a∧k.2=b:=⟨λh=>h▸⟨rfl,rfl⟩,λh=>jq h.1 h.2⟩
  rw[this]
  omega
theorem pj{k:dt}{w:Nat}: ∀{m a:Nat},k∈zH w a m↔(a:Int)≤k.1∧k.1<(a+m:Nat)∧0≤k.2∧k.2<w
 |0,a=>⟨λh=>(nomatch h),λh=>ω⟩
 |m+1,a=>by
  show k∈B5 a 0 w++zH w (a+1) m↔_
  rw[bn,B6,pj]
  omega
theorem Pu(a:Nat): ∀(m b:Nat),uq (B5 a b m)
 |0,b=>List.Pairwise.nil
 |m+1,b=>eX.2 ⟨λk hk=>by
  have:=B6.1 hk
  show(a:Int)<k.1∨((a:Int)=k.1∧(b:Int)<k.2)
  omega,Pu a m (b+1)⟩
theorem pk(w:Nat): ∀(m a:Nat),uq (zH w a m)
 |0,a=>List.Pairwise.nil
 |m+1,a=>xg.2 ⟨Pu a w 0,pk w m (a+1),λx hx y hy=>by
  have h1:=B6.1 hx
  have h2:=pj.1 hy
  show x.1<y.1∨(x.1=y.1∧x.2<y.2)
  omega⟩
structure Mark(l:au)(a b p:Nat):Prop where
 le:p≤l.length
 lo: ∀x∈l.take p,um (keyOf x) ((a:Int),(b:Int))
 hi: ∀x∈l.drop p,¬um (keyOf x) ((a:Int),(b:Int))
theorem u6{k:dt}{a b:Nat}:um k ((a:Int),((b+1:Nat):Int))↔um k ((a:Int),(b:Int))∨k=((a:Int),(b:Int)):=by
 have:k=((a:Int),(b:Int))↔k.1=a∧k.2=b:=⟨λh=>h▸⟨rfl,rfl⟩,λh=>jq h.1 h.2⟩
 rw[this]
 show(k.1<(a:Int)∨(k.1=(a:Int)∧k.2<((b+1:Nat):Int)))↔(k.1<(a:Int)∨(k.1=(a:Int)∧k.2<(b:Int)))∨_
 omega
theorem Mark.row{l:au}{a w p:Nat}(h:Mark l a w p)(hw: ∀x∈l,0≤(keyOf x).2∧(keyOf x).2<w):Mark l (a+1) 0 p:=by
 have key: ∀x∈l,(um (keyOf x) ((a:Int),(w:Int))↔um (keyOf x) (((a+1:Nat):Int),((0:Nat):Int))):=λx hx=>by
  have:=hw x hx
  show((keyOf x).1<(a:Int)∨((keyOf x).1=(a:Int)∧(keyOf x).2<(w:Int)))↔((keyOf x).1<((a+1:Nat):Int)∨((keyOf x).1=((a+1:Nat):Int)∧(keyOf x).2<((0:Nat):Int)))
  omega
 exact⟨h.le,λx hx=>(key x (lI hx)).1 (h.lo x hx),λx hx k=>h.hi x hx ((key x (mV hx)).2 k)⟩
theorem Mw(a b:Int)(l m:au):c3 a b (l++m)=c3 a b l+c3 a b m:=by
 induction l with
 |nil=>rw[cD,WB];omega
 |cons x t ih=>rw[mZ,jU,jU,ih];omega
theorem Mark.step{l:au}(hs:uq (l.map keyOf)){a b p:Nat}(h:Mark l a b p):
  (p<l.length∧(l.getD p aZ).1=(a:Int)∧(l.getD p aZ).2.1=(b:Int)∧c3 (a:Int) (b:Int) l=dQ (l.getD p aZ)∧Mark l a (b+1) (p+1))∨
  ((p<l.length→(l.getD p aZ).1=(a:Int)→(l.getD p aZ).2.1=(b:Int)→False)∧c3 (a:Int) (b:Int) l=0∧Mark l a (b+1) p):=by
 have no: ∀{x:dg} {k:dt},¬keyOf x=k→ ¬(x.1=k.1∧x.2.1=k.2):=λh e=>h (jq e.1 e.2)
 have hz:c3 (a:Int) (b:Int) (l.take p)=0:=ly λx hx e=>by
  have e':keyOf x=((a:Int),(b:Int)):=jq e.1 e.2
  have:=h.lo x hx
  rw[e']at this
  exact pN this
 have JX:c3 (a:Int) (b:Int) l=c3 (a:Int) (b:Int) (l.drop p):=by
  conv=>lhs;rw[←gT p l]
  rw[Mw,hz];omega
 by_cases hp:p<l.length
 ·have hd:=drop_cons hp aZ
  have hsd:uq ((l.drop p).map keyOf):=by
   rw[List.map_drop];exact xf (List.drop_sublist ..) hs
  have Kk:=h.hi
  rw[hd]at hsd Kk JX
  have hgt:=(eX.1 hsd).1
  have YS:=Kk _ (bu ..)
  have aqf:l.take (p+1)=l.take p++[l.getD p aZ]:=by
   rw[←tx hp,aW,bm hp];rfl
  by_cases he:keyOf (l.getD p aZ)=((a:Int),(b:Int))
  ·refine Or.inl ⟨hp,fe Prod.fst he,fe Prod.snd he,?_,ω,λx hx=> ?_,λx hx hk=> ?_⟩
   ·rw[JX,jU,ak ⟨fe Prod.fst he,fe Prod.snd he⟩,ly λx hx e=> ?_]
    ·omega
    ·have hg:=hgt (keyOf x) (fG hx)
     have e':keyOf x=((a:Int),(b:Int)):=jq e.1 e.2
     rw[he,e']at hg
     exact pN hg
   ·rw[aqf]at hx
    rcases bn.1 hx with hx|hx
    ·exact u6.2 (Or.inl (h.lo x hx))
    ·rw[cy.1 hx];exact u6.2 (Or.inr he)
   ·have hg:=hgt (keyOf x) (fG hx)
    rw[he]at hg
    rcases u6.1 hk with hk|hk
    ·exact KF hg hk
    ·rw[hk]at hg;exact pN hg
  ·have iS: ∀x∈l.getD p aZ::l.drop (p+1),keyOf x≠((a:Int),(b:Int)):=λx hx e=>by
    rcases bh.1 hx with rfl|hx
    ·exact he e
    ·have hg:=hgt (keyOf x) (fG hx)
     rw[e]at hg
     exact YS hg
   refine Or.inr ⟨λ_ e1 e2=>he (jq e1 e2),?_,h.le,λx hx=>u6.2 (Or.inl (h.lo x hx)),λx hx hk=> ?_⟩
   ·rw[JX]
    exact ly λx hx=>no (iS x hx)
   ·rw[hd]at hx
    rcases u6.1 hk with hk|hk
    ·exact Kk x hx hk
    ·exact iS x hx hk
 ·have hd:l.drop p=[]:=xe ω
  refine Or.inr ⟨λh=>absurd h hp,by rw[JX,hd];rfl,h.le,λx hx=>u6.2 (Or.inl (h.lo x hx)),λx hx=> ?_⟩
  rw[hd]at hx;nomatch hx
def wZ(out:au)(r:Option au):Option (au×Bool):=some (match r with|some o=>(out++o,true)|none=>([],false))
theorem My(v:Int):SO N (cI v)=some (if Fq v then(v,true)else(0,false)):=by
 unfold SO
 rw[uk,ar]
 by_cases h:aF v
 ·rw[wb h]
  dsimp only
  rw[bk,av,aI]
  by_cases h2:ri v
  ·rw[ag (show ¬v= -9223372036854775808 from h2),ak (show Fq v from⟨h,h2⟩)]
  ·rw[ak (show v= -9223372036854775808 by unfold ri at h2;omega),ag (λh=>h2 h.2)]
 ·rw[y4 h,ag (λk=>h k.1)]
  rfl
theorem ZG(hN:4000000≤N)(C4:cS.bP)(C7:cS.fg){l E out:au}(hq:dU E)(hl:E.length≤100000)(ho:out.length≤1000000)(p:Int)(a b:Nat)(hb:b≤1000000)(q:Int)(hF:Fq q):
  cS.KK N C4 C7 N l E out p (a:Int) (b:Int) q false (false,(([]:List Int),())) 0=
   if Fq (q+c3 (a:Int) (b:Int) E)then C7 l E (if q+c3 (a:Int) (b:Int) E=0 then out else out++[((a:Int),((b:Int),(q+c3 (a:Int) (b:Int) E,())))]) p (a:Int) ((b+1:Nat):Int)else some ([],false):=by
 have:=ll E aZ (λn j ws=>cS.KK N C4 C7 n l E out p (a:Int) (b:Int) q (!ws.isEmpty) (cI ws.sum) j)
  (λt ws=>if Fq (q+(ws++dF (a:Int) (b:Int) t).sum)then C7 l E (if q+(ws++dF (a:Int) (b:Int) t).sum=0 then out else out++[((a:Int),((b:Int),(q+(ws++dF (a:Int) (b:Int) t).sum,())))]) p (a:Int) ((b+1:Nat):Int)else some ([],false))
  (λj (ws:List Int)=>ws.length≤j∧ ∀x∈ws,aF x)
  (λn j ws hj hI ed=> ?_) (λn ws hI=> ?_) E.length N 0 [] ω ω ω ⟨aH _,λx hx=>nomatch hx⟩
 ·rw[show((0:Nat):Int)=0 from rfl,cM,jn,g8]at this
  exact this
 ·unfold cS.KK cS.JY
  have kP:=vW hq j
  have jA:=kP
  unfold aF dQ at jA
  have hb:=Pl hI.2
  rw[aQ ω,aj,aU ω ω,aj,aj,aj,aG,dd N ω jA.1 jA.2,ar,iN N ω ((BN (n:=ws.length) ω hb.1 hb.2).mono ω) ((Fit.i64 jA.1 jA.2).mono ω),ar,aw (x:=(j:Int)+1) ω ω,af j,aI,aI]
  by_cases h1:(E.getD j aZ).1=(a:Int)
  ·by_cases h2:(E.getD j aZ).2.1=(b:Int)
   ·have hc:dF (a:Int) (b:Int) (E.getD j aZ::E.drop (j+1))=dQ (E.getD j aZ)::dF (a:Int) (b:Int) (E.drop (j+1)):=by rw[fp,ak ⟨h1,h2⟩]
    rw[ak h1,ak h2,hc]
    have:=ed (ws++[dQ (E.getD j aZ)]) ⟨by rw[aS,aJ];omega,Dg hI.2 kP⟩
    rw[oa,cN,jn,jo,bF]at this
    refine Eq.trans ?_ this
    rw[show(!(ws++[dQ (E.getD j aZ)]).isEmpty)=true by cases ws<;>rfl]
    rfl
   ·have hc:dF (a:Int) (b:Int) (E.getD j aZ::E.drop (j+1))=dF (a:Int) (b:Int) (E.drop (j+1)):=by rw[fp,ag (λh=>h2 h.2)]
    rw[ak h1,ag h2,hc]
    exact ed ws ⟨ω,hI.2⟩
  ·have hc:dF (a:Int) (b:Int) (E.getD j aZ::E.drop (j+1))=dF (a:Int) (b:Int) (E.drop (j+1)):=by rw[fp,ag (λh=>h1 h.1)]
   rw[ag h1,hc]
   exact ed ws ⟨ω,hI.2⟩
 ·unfold cS.KK cS.JY
  have hs:=Pl hI.2
  have UD:=hF.1
  unfold aF at UD
  rw[aO ω,av,dd N ω UD.1 UD.2,ar,iN N ω ((BN (n:=ws.length) ω hs.1 hs.2).mono ω) ((Fit.i64 UD.1 UD.2).mono ω),ar,My,ar,aw (x:=(b:Int)+1) ω ω,af b,bJ (by rw[aJ];omega),aj,bJ (by rw[aJ];omega),aj,cond_not]
  show _=if Fq (q+(ws++[]).sum)then C7 l E (if q+(ws++[]).sum=0 then out else out++[((a:Int),((b:Int),(q+(ws++[]).sum,())))]) p (a:Int) ((b+1:Nat):Int)else some ([],false)
  rw[cA,Int.add_comm ws.sum q]
  cases ws with
  |nil=>
   show cond (!aM q 0) _ _=_
   rw[cond_not,aI,jn,jo,ak hF]
   by_cases h:q=0
   ·rw[ak h,ak h]
   ·rw[ag h,ag h]
  |cons w ws=>
   show cond (!(if Fq (q+(w::ws).sum)then(q+(w::ws).sum,true)else(0,false)).2) _ _=_
   by_cases h2:Fq (q+(w::ws).sum)
   ·rw[ak h2,ak h2]
    dsimp only
    rw[bk,av,cond_not,aI]
    by_cases h:q+(w::ws).sum=0
    ·rw[ak h,ak h]
    ·rw[ag h,ag h]
   ·rw[ag h2,ag h2];rfl
theorem KL{P:Int→Prop} [DecidablePred P]{f:Int→Int→Int}{k:dt}{K:List dt}{out:au}{v:Int}(hv:f k.1 k.2=v):
  (if P v then wZ (if v=0 then out else out++[(k.1,(k.2,(v,())))]) (eN P f K)else some ([],false))=wZ out (eN P f (k::K)):=by
 rw[lU,hv]
 by_cases h:P v
 ·rw[ak h,ak h]
  cases eN P f K with
  |none=>rfl
  |some o=>
   show some ((if v=0 then out else out++[(k.1,(k.2,(v,())))])++o,true)=some (out++(if v=0 then o else(k.1,(k.2,(v,())))::o),true)
   by_cases h0:v=0
   ·rw[ak h0,ak h0]
   ·rw[ag h0,ag h0,bF];rfl
 ·rw[ag h,ag h];rfl
theorem aqg{l:au}(hs:uq (l.map keyOf))(hl: ∀x∈l,Fq (dQ x))(k:dt):Fq (c3 k.1 k.2 l):=by
 by_cases hk:k∈l.map keyOf
 ·have hm:Fg l k∈rowsOf l (l.map keyOf):=fG hk
  rw[nL hs]at hm
  exact hl (Fg l k) hm
 ·rw[gY hk];exact⟨⟨δ,δ⟩,δ⟩
theorem KM(N:Nat)(hN:4000000≤N)(C:cS.bP){l E:au}(hq:dU E)(hl:E.length≤100000)(hs:uq (l.map keyOf))(Jo:l.length≤100000)(hf: ∀x∈l,Fq (dQ x))(hw: ∀x∈l,0≤(keyOf x).2∧(keyOf x).2<(6:Nat))(a:Nat)(ha:a≤24)(G:List dt)
  (hc: ∀(p:Nat) (out:au),Mark l (a+1) 0 p→out.length≤6*(a+1)→C l E out (p:Int) ((a+1:Nat):Int)=wZ out (eN Fq (fS l E) G)):
  ∀(m n b p:Nat) (out:au),b+m=6→m<n→Mark l a b p→out.length≤6*a+b→cS.l7 N C n l E out (p:Int) (a:Int) (b:Int)=wZ out (eN Fq (fS l E) (B5 a b m++G))
 |m,0,b,p,out,_,hn,_,_=>ω
 |0,n+1,b,p,out,hb,_,hM,ho=>by
  have e:b=6:=ω
  subst e
  unfold cS.l7 cS.nR
  rw[aO ω,av,aw (x:=(a:Int)+1) ω ω,af a]
  exact hc p out (hM.row hw) ω
 |m+1,n+1,b,p,out,hb,hn,hM,ho=>by
  have hp:=hM.le
  have ale: ∀(p:Nat) (v:Int),Mark l a (b+1) p→cS.l7 N C n l E (if v=0 then out else out++[((a:Int),((b:Int),(v,())))]) (p:Int) (a:Int) ((b+1:Nat):Int)=wZ (if v=0 then out else out++[((a:Int),((b:Int),(v,())))]) (eN Fq (fS l E) (B5 a (b+1) m++G)):=λp v h=>
   KM N hN C hq hl hs Jo hf hw a ha G hc m n (b+1) p _ ω ω h (by
    split
    ·omega
    ·rw[aS,aJ];omega)
  have wU:=aqg hs hf ((a:Int),(b:Int))
  unfold cS.l7 cS.nR cS.UP cS.Mz
  show _=wZ out (eN Fq (fS l E) (((a:Int),(b:Int))::(B5 a (b+1) m++G)))
  rw[aQ (x:=(b:Int)) ω,aj,cf,aI,aI,aG]
  have fin: ∀(p:Nat) (q:Int),q=c3 (a:Int) (b:Int) l→Mark l a (b+1) p→cS.KK N C (cS.l7 N C n) N l E out (p:Int) (a:Int) (b:Int) q false (false,(([]:List Int),())) 0=wZ out (eN Fq (fS l E) (((a:Int),(b:Int))::(B5 a (b+1) m++G))):=λp q e h=>by
   subst e
   rw[ZG N hN C _ hq hl ω (p:Int) a b ω _ wU,ale p _ h]
   exact KL (k:=((a:Int),(b:Int))) rfl
  rcases hM.step hs with⟨h1,h2,h3,h4,h5⟩|⟨h1,h2,h3⟩
  ·rw[ak (show(p:Int)<(l.length:Int)by omega),aU ω ω,aj,aj,ak h2,ak h3,aw (x:=(p:Int)+1) ω ω,af p,aj]
   exact fin (p+1) _ h4.symm h5
  ·by_cases g1:p<l.length
   ·rw[ak (show(p:Int)<(l.length:Int)by omega),aU ω ω,aj,aj]
    by_cases g2:(l.getD p aZ).1=(a:Int)
    ·rw[ak g2,ag (λg3=>h1 g1 g2 g3)]
     exact fin p _ h2.symm h3
    ·rw[ag g2]
     exact fin p _ h2.symm h3
   ·rw[ag (show ¬(p:Int)<(l.length:Int)by omega)]
    exact fin p _ h2.symm h3
theorem KN(N:Nat)(hN:4000000≤N){l E:au}(hq:dU E)(hl:E.length≤100000)(hs:uq (l.map keyOf))(Jo:l.length≤100000)(hf: ∀x∈l,Fq (dQ x))(hw: ∀x∈l,0≤(keyOf x).2∧(keyOf x).2<(6:Nat)):
  ∀(m n a p:Nat) (out:au),a+m=25→m<n→Mark l a 0 p→out.length≤6*a→cS.l4 N n l E out (p:Int) (a:Int)=wZ out (eN Fq (fS l E) (zH 6 a m))
 |m,0,a,p,out,_,hn,_,_=>ω
 |0,n+1,a,p,out,ha,_,hM,ho=>by
  unfold cS.l4 cS.dM
  rw[fM ω,av]
  show some (out,true)=some (out++[],true)
  rw[cA]
 |m+1,n+1,a,p,out,ha,hn,hM,ho=>by
  unfold cS.l4 cS.dM
  rw[fR ω,aj]
  exact KM N hN _ hq hl hs Jo hf hw a ω (zH 6 (a+1) m) (λp out h ho=>KN N hN hq hl hs Jo hf hw m n (a+1) p out ω ω h ho) 6 N 0 p out ω ω hM ω
def jV:List dt:=zH 6 0 25
theorem HQ(hN:4000000≤N){l E:au}(hk:dk l=true)(hl:l.length≤90000)(Ua:dU l)(hq:dU E)(hE:E.length≤100000):cS N l E=wZ [] (eN Fq (fS l E) jV):=by
 obtain⟨hs,ND⟩:=eZ hk
 unfold cS cS.b
 refine KN N hN hq hE hs ω (λx hx=>⟨Ua x hx,(ND x hx).2⟩) (λx hx=> ?_) 25 N 0 0 [] ω ω ⟨ω,λx hx=>(nomatch hx),λx hx eU=> ?_⟩ (by simp)
 ·have h:cg (keyOf x).1 (keyOf x).2:=(ND x hx).1
  unfold cg at h;omega
 ·have h:cg (keyOf x).1 (keyOf x).2:=(ND x (mV hx)).1
  unfold cg at h
  have xK:(keyOf x).1<((0:Nat):Int)∨((keyOf x).1=((0:Nat):Int)∧(keyOf x).2<((0:Nat):Int)):=eU
  omega
theorem WE{l E:au}(hk:dk l=true)(hp: ∀x∈E,cg x.1 x.2.1):eN Fq (fS l E) (oD (l.map keyOf) E)=eN Fq (fS l E) jV:=by
 obtain⟨hs,ND⟩:=eZ hk
 refine Pq ⟨⟨δ,δ⟩,δ⟩ (Al hs) (pk 6 25 0) (λk hk=> ?_) (λk hk hn=> ?_)
 ·have:cg k.1 k.2:=by
   rcases ns.1 hk with h|⟨x,hx,rfl⟩
   ·obtain⟨x,hx,rfl⟩:=cY.1 h
    exact(ND x hx).1
   ·exact hp x hx
  unfold cg at this
  exact pj.2 ω
 ·have h1:k∉l.map keyOf:=λh=>hn (ns.2 (Or.inl h))
  have h2:k∉E.map keyOf:=λh=>by
   obtain⟨x,hx,e⟩:=cY.1 h
   exact hn (ns.2 (Or.inr ⟨x,hx,e⟩))
  unfold fS
  rw[gY h1,gY h2];rfl
def B7(E:au):Prop:= ∀x∈E,cH (dQ x)
def ik(r:dg):tN:=(r.1,(r.2.1,(cK (dQ r),())))
theorem FV(E:au)(i:Nat):(E.map ik).getD i ((0:Int),((0:Int),(c7,())))=ik (E.getD i aZ):=by
 by_cases h:i<E.length
 ·rw[aW,ob,bm h,aW,bm h];rfl
 ·rw[aW,iq (by rw[cB];omega),aW,iq ω];rfl
theorem FW{l:au}(h:B7 l)(i:Nat):cH (dQ (l.getD i aZ)):=by
 by_cases hi:i<l.length
 ·rw[aW,bm hi];exact h _ (dG hi)
 ·rw[aW,iq ω];exact⟨δ,δ⟩
theorem HR{x:Int}(h:aF x):cH x:=by unfold aF at h;unfold cH;omega
theorem wg{ws:List Int}{x:Int}(h: ∀y∈ws,cH y)(hx:cH x): ∀y∈ws++[x],cH y:=λy hy=>by
 rcases bn.1 hy with hy|hy
 ·exact h y hy
 ·rw[cy.1 hy];exact hx
theorem ZH{l:au}:alf N l=some l:=Pr N
theorem ZI(hN:2000000≤N)(K:cQ.KO){E out R:au}(hq:B7 E)(hl:E.length≤100000)(ho:out.length≤1000000)(r:dg)(hr:aF (dQ r))(i:Nat)(hi:i≤1000000):
  cQ.Pv N K N (E.map ik) out r [cK (dQ r)] R (R.length:Int) (i:Int) (E.map ik) ((E.map ik).length:Int) 0=
   if aF (dQ r+c3 r.1 r.2.1 E)then K (E.map ik) (if dQ r+c3 r.1 r.2.1 E=0 then out else out++[(r.1,(r.2.1,(dQ r+c3 r.1 r.2.1 E,())))]) R (R.length:Int) ((i+1:Nat):Int)else some (bo,(2:Int)):=by
 have:=ll E aZ (λn j ws=>cQ.Pv N K n (E.map ik) out r (ws.map cK) R (R.length:Int) (i:Int) (E.map ik) ((E.map ik).length:Int) j)
  (λt ws=>if aF (ws++dF r.1 r.2.1 t).sum then K (E.map ik) (if(ws++dF r.1 r.2.1 t).sum=0 then out else out++[(r.1,(r.2.1,((ws++dF r.1 r.2.1 t).sum,())))]) R (R.length:Int) ((i+1:Nat):Int)else some (bo,(2:Int)))
  (λj (ws:List Int)=>ws.length≤j+1∧ ∀x∈ws,cH x)
  (λn j ws hj hI ed=> ?_) (λn ws hI=> ?_) E.length N 0 [dQ r] ω ω ω ⟨aH _,λx hx=>by rw[cy.1 hx];exact HR hr⟩
 ·rw[show((0:Nat):Int)=0 from rfl,cM]at this
  refine this.trans ?_
  have e:([dQ r]++dF r.1 r.2.1 E).sum=dQ r+c3 r.1 r.2.1 E:=by rw[Gp,cN];rfl
  rw[e]
 ·unfold cQ.Pv cQ.MA
  rw[aQ (by rw[cB];omega),aj,aU ω (by rw[cB];omega),aj,aG,FV,bJ (by rw[cB,aJ];omega),aj,aw (x:=(j:Int)+1) ω ω,af j,aI,aI]
  by_cases h1:(E.getD j aZ).1=r.1
  ·by_cases h2:(E.getD j aZ).2.1=r.2.1
   ·have hc:dF r.1 r.2.1 (E.getD j aZ::E.drop (j+1))=dQ (E.getD j aZ)::dF r.1 r.2.1 (E.drop (j+1)):=by rw[fp,ak ⟨h1,h2⟩]
    rw[ak (show(ik (E.getD j aZ)).1=r.1 from h1),ak (show(ik (E.getD j aZ)).2.1=r.2.1 from h2),hc]
    have:=ed (ws++[dQ (E.getD j aZ)]) ⟨by rw[aS,aJ];omega,wg hI.2 (FW hq j)⟩
    rw[dr]at this
    refine this.trans ?_
    rw[bF];rfl
   ·have hc:dF r.1 r.2.1 (E.getD j aZ::E.drop (j+1))=dF r.1 r.2.1 (E.drop (j+1)):=by rw[fp,ag (λh=>h2 h.2)]
    rw[ak (show(ik (E.getD j aZ)).1=r.1 from h1),ag (show ¬(ik (E.getD j aZ)).2.1=r.2.1 from h2),hc]
    exact ed ws ⟨ω,hI.2⟩
  ·have hc:dF r.1 r.2.1 (E.getD j aZ::E.drop (j+1))=dF r.1 r.2.1 (E.drop (j+1)):=by rw[fp,ag (λh=>h1 h.1)]
   rw[ag (show ¬(ik (E.getD j aZ)).1=r.1 from h1),hc]
   exact ed ws ⟨ω,hI.2⟩
 ·unfold cQ.Pv cQ.MA
  rw[aO (by rw[cB];omega),av,FP N hI.2 ω ω,ar]
  show _=if aF (ws++[]).sum then K (E.map ik) (if(ws++[]).sum=0 then out else out++[(r.1,(r.2.1,((ws++[]).sum,())))]) R (R.length:Int) ((i+1:Nat):Int)else some (bo,(2:Int))
  rw[cA]
  unfold Pg
  by_cases h0:cH ws.sum
  ·rw[ak h0]
   dsimp only
   rw[HO N h0,ar,bk,av]
   by_cases h1:aF ws.sum
   ·rw[wb h1]
    dsimp only
    rw[bk,av,cond_not,aI,bJ (by rw[aJ];omega),aj,aw (x:=(i:Int)+1) ω ω,af i,ak h1]
    split<;>rfl
   ·rw[y4 h1,ag h1]
    rfl
  ·rw[ag h0,ag (λh=>h0 (HR h))]
   have e:Sz N c7=some (C0 0):=HO N (v:=0) ⟨δ,δ⟩
   dsimp only
   rw[e,ar]
   rfl
theorem WG(hN:2000000≤N){l E R:au}(hq:B7 E)(hl:E.length≤100000)(hR:R.length≤200000)(hv: ∀r∈R,aF (dQ r)∧dQ r=c3 r.1 r.2.1 l):
  cQ.l26 N N (E.map ik) [] R (R.length:Int) 0=vZ (eN aF (fS l E) (R.map keyOf)):=by
 have:=ll R aZ (λn i out=>cQ.l26 N n (E.map ik) out R (R.length:Int) i) (λt out=>vZ ((eN aF (fS l E) (t.map keyOf)).map (λo=>out++o))) (λi (out:au)=>out.length≤i)
  (λn i out hi hI hr=> ?_) (λn out hI=> ?_) R.length N 0 [] ω ω ω (aH _)
 ·rw[show((0:Nat):Int)=0 from rfl,cM]at this
  refine this.trans ?_
  simp
 ·unfold cQ.l26 cQ.ade
  have hm:R.getD i aZ∈R:=by
   rw[aW,bm hi];exact dG hi
  have R3:=hv _ hm
  have kP:=R3.1
  have jA:=kP
  unfold aF dQ at jA
  rw[aQ ω,aj,aU ω ω,aj,aG,vS N jA.1 jA.2,ar]
  refine(ZI N hN _ hq hl ω _ kP i ω).trans ?_
  rw[ca,lU]
  have ef:fS l E (keyOf (R.getD i aZ)).1 (keyOf (R.getD i aZ)).2=dQ (R.getD i aZ)+c3 (R.getD i aZ).1 (R.getD i aZ).2.1 E:=by
   show c3 _ _ l+c3 _ _ E=_
   rw[R3.2];rfl
  rw[ef]
  generalize hS:dQ (R.getD i aZ)+c3 (R.getD i aZ).1 (R.getD i aZ).2.1 E=v
  by_cases hF:aF v
  ·rw[ak hF,ak hF,hr _ (by
    split
    ·omega
    ·rw[aS,aJ];omega)]
   cases eN aF (fS l E) ((R.drop (i+1)).map keyOf)with
   |none=>rfl
   |some o=>
    show vZ (some _)=vZ (some _)
    congr 2
    split
    ·rfl
    ·exact bF _ _ _
  ·rw[ag hF,ag hF];rfl
 ·unfold cQ.l26 cQ.ade
  rw[aO ω,av,ZH,ar]
  show _=vZ (some (out++[]))
  rw[cA];rfl
theorem ai2(N:Nat)(C:cQ.nM){l:au}{E S:cT}{K:List dt}(hs:uq K)(hl:K.length≤100000)(hf: ∀k∈K,B3 k)(x:tN)(k:dt)(hxk:(x.1,x.2.1)=k)(hx:B3 k)(hz:zeroAt l K k)(len:Int)(i:Nat)(hi:i≤1000000):
  ∀(m n p:Nat),K.length-p≤m→m<n→p≤K.length→(∀y∈K.take p,um y k)→
   cQ.WH N C n E (rowsOf l K) x (p:Int) S len (i:Int)=C E (rowsOf l (K.take p++yf k (K.drop p))) S len ((i+1:Nat):Int)
 |m,0,p,_,hn,_,_=>ω
 |m,n+1,p,hm,hn,hp,hb=>by
  unfold cQ.WH cQ.SP cQ.j21 cQ.alg
  rw[eW,aw (x:=(i:Int)+1) ω ω,af i]
  have ex:((x.1,(x.2.1,((0:Int),()))):dg)=(k.1,(k.2,((0:Int),()))):=by rw[←hxk]
  by_cases h:p<K.length
  ·have hfk:=hf (K.getD p (0,0)) (by rw[aW,bm h];exact dG h)
   have ho:F84 N x.1 x.2.1 ((rowsOf l K).getD p aZ)=some (C1 k.1 k.2 (K.getD p (0,0)).1 (K.getD p (0,0)).2):=by
    rw[KH l h]
    rw[←hxk]at hx ⊢
    exact HE N hx.1 hx.2 hfk.1 hfk.2
   rw[aQ ω,aj,aU ω ω,aj,aG,ho,ar,eH (x:=(p:Int)) ω,av,aj,ar,cf,cond_not,aI,UN h]
   by_cases h1:um (K.getD p (0,0)) k
   ·rw[ak (B2.2 h1),ak h1,aw (x:=(p:Int)+1) ω ω,af p,B4 h]
    refine ai2 N C hs hl hf x k hxk hx hz len i hi (m-1) n (p+1) ω ω ω λy hy=> ?_
    rw[←tx h]at hy
    rcases bn.1 hy with hy|hy
    ·exact hb y hy
    ·rw[aW,bm h]at h1
     rw[cy.1 hy];exact h1
   ·rw[ag (λh=>h1 (B2.1 h)),ag h1]
    by_cases h2:K.getD p (0,0)=k
    ·rw[ak (y5.2 h2),ak h2,gT]
    ·rw[ag (λh=>h2 (y5.1 h)),ag h2,FU N (by rw[eW];omega) (by rw[eW];omega),ar]
     have AA:=hz (we hs hb (UO hs h h1 h2))
     have e:=wc l K p k
     rw[←y6 AA]at e
     refine Eq.trans ?_ (fe (λR=>C E R S len ((i+1:Nat):Int)) e)
     exact fe (λz:dg=>C E ((rowsOf l K).take p++z::(rowsOf l K).drop p) S len ((i+1:Nat):Int)) ex
  ·have hd:K.drop p=[]:=xe ω
   rw[aO ω,av,eg ω,aj,FU N (by rw[eW];omega) (by rw[eW];omega),ar]
   have AA:=hz (we hs hb (by rw[hd];exact λx hx=>nomatch hx))
   have e:=wc l K p k
   rw[←y6 AA]at e
   have e2:yf k (K.drop p)=k::K.drop p:=by rw[hd];rfl
   rw[e2]
   refine Eq.trans ?_ (fe (λR=>C E R S len ((i+1:Nat):Int)) e)
   exact fe (λz:dg=>C E ((rowsOf l K).take p++z::(rowsOf l K).drop p) S len ((i+1:Nat):Int)) ex
theorem WI(hN:2000000≤N){l E:au}(hq:B7 E)(hE:E.length≤400)(hp: ∀x∈E,B3 (keyOf x))(hs:uq (l.map keyOf))(hl:l.length≤90000)(Ua:dU l)(ND: ∀x∈l,B3 (keyOf x)):
  cQ.yc N N (E.map ik) l (E.map ik) ((E.map ik).length:Int) 0=vZ (eN aF (fS l E) (oD (l.map keyOf) E)):=by
 have:=ll E aZ (λn i K=>cQ.yc N n (E.map ik) (rowsOf l K) (E.map ik) ((E.map ik).length:Int) i) (λt K=>vZ (eN aF (fS l E) (oD K t)))
  (λi (K:List dt)=>K.length≤l.length+i∧uq K∧(∀k∈K,B3 k)∧ ∀x∈l,keyOf x∈K)
  (λn i K hi hI hr=> ?_) (λn K hI=> ?_) E.length N 0 (l.map keyOf) ω ω ω ⟨by rw[cB];omega,hs,λk hk=>by
   obtain⟨x,hx,rfl⟩:=cY.1 hk
   exact ND x hx,λx hx=>fG hx⟩
 ·rw[show((0:Nat):Int)=0 from rfl,cM]at this
  simp only[nL hs]at this
  exact this
 ·unfold cQ.yc cQ.wX
  obtain⟨h1,h2,h3,h4⟩:=hI
  have hm:E.getD i aZ∈E:=by
   rw[aW,bm hi];exact dG hi
  rw[aQ (by rw[cB];omega),aj,aU ω (by rw[cB];omega),aj,aG,FV]
  refine(ai2 N _ h2 ω h3 (ik (E.getD i aZ)) (keyOf (E.getD i aZ)) rfl (hp _ hm) (λhk=>gY λhx=>hk (by
   obtain⟨x,hx,e⟩:=cY.1 hx
   rw[←e];exact h4 x hx)) ((E.map ik).length:Int) i ω K.length N 0 ω ω ω (λy hy=>nomatch hy)).trans ?_
  rw[mA,cD,cM,tM]
  refine hr (yf (keyOf (E.getD i aZ)) K) ⟨ck (HN _ K) ω,B1 h2,λk hk=>(sE.1 hk).elim (λe=>e▸hp _ hm) (h3 k),λx hx=>sE.2 (Or.inr (h4 x hx))⟩
 ·unfold cQ.yc cQ.wX
  obtain⟨h1,h2,h3,h4⟩:=hI
  rw[aO (by rw[cB];omega),av,eW,db ω ω ω,aj]
  have:=WG N hN (l:=l) (R:=rowsOf l K) hq ω (by rw[eW];omega) (λr hr=>by
   unfold rowsOf at hr
   obtain⟨k,hk,rfl⟩:=cY.1 hr
   refine⟨?_,rfl⟩
   show aF (c3 k.1 k.2 l)
   by_cases hkl:k∈l.map keyOf
   ·have e:rowsOf l (l.map keyOf)=l:=nL hs
    have hm:Fg l k∈rowsOf l (l.map keyOf):=fG hkl
    rw[e]at hm
    exact Ua (Fg l k) hm
   ·rw[gY hkl];exact⟨δ,δ⟩)
  rw[Ep,eW]at this
  exact this
theorem pn{l:au}(h:fh l=true):uq (l.map keyOf)∧(∀x∈l,de x.1 x.2.1):=by
 unfold fh at h
 rw[fc]at h
 have h':=bD h
 have get: ∀(i:Nat) (hi:i<l.length),l.getD i aZ=l[i]:=λi hi=>by rw[aW,bm hi];rfl
 have ZF: ∀i,i+1<l.length→um (keyOf (l.getD i aZ)) (keyOf (l.getD (i+1) aZ)):=λi hi=>(h' (i+1) hi).2.2 ω
 have eU: ∀j,j<l.length→ ∀i,i<j→um (keyOf (l.getD i aZ)) (keyOf (l.getD j aZ)):=by
  intro j
  induction j with
  |zero=>intro _ i hi;omega
  |succ j ih=>
   intro hj i hi
   by_cases e:i=j
   ·rw[e];exact ZF j hj
   ·exact yZ (ih ω i ω) (ZF j hj)
 refine⟨?_,λx hx=> ?_⟩
 ·refine uz.2 (vr.2 λi j hi hj qw=> ?_)
  have:=eU j hj i qw
  rw[get i hi,get j hj]at this
  exact this
 ·obtain⟨i,hi,e⟩:=gL hx
  have:=h' i hi
  unfold mL nn at this
  rw[get i hi,e]at this
  exact this.1
structure Pw(E:au):Prop where
 key: ∀x∈E,de x.1 x.2.1
 q:B7 E
 len:E.length≤400
 zero:(E.map dQ).sum=0
theorem UQ{x:dg}(h:de x.1 x.2.1):B3 (keyOf x):=by
 have h':de (keyOf x).1 (keyOf x).2:=h
 unfold de at h'
 unfold B3 JS
 omega
theorem ZJ(hN:2000000≤N){l E:au}(hk:fh l=true)(hl:l.length≤90000)(Ua:dU l)(g:Pw E):cQ N l (E.map ik)=vZ (eN aF (fS l E) (oD (l.map keyOf) E)):=by
 obtain⟨hs,ND⟩:=pn hk
 have hE:=g.len
 unfold cQ cQ.b
 rw[Mo N ω ω,hk,ar,bk,av,aO (by rw[cB];omega),av,db ω ω (by rw[cB];omega),aj]
 have:=ll E aZ (λn i (ws:List Int)=>cQ.l5 N n l (E.map ik) (ws.map cK) (E.map ik) ((E.map ik).length:Int) i)
  (λt ws=>if(ws++t.map dQ).sum=0 then vZ (eN aF (fS l E) (oD (l.map keyOf) E))else none)
  (λj (ws:List Int)=>ws.length≤j∧(ws++(E.drop j).map dQ).sum=0∧ ∀x∈ws,cH x)
  (λn i ws hi hI hr=> ?_) (λn ws hI=> ?_) E.length N 0 [] ω ω ω ⟨aH _,g.zero,λx hx=>nomatch hx⟩
 ·rw[show((0:Nat):Int)=0 from rfl,cM]at this
  refine Eq.trans this ?_
  rw[cD,ak g.zero]
 ·unfold cQ.l5 cQ.dV
  have hm:E.getD i aZ∈E:=by
   rw[aW,bm hi];exact dG hi
  have acB:F83 N (ik (E.getD i aZ)).1 (ik (E.getD i aZ)).2.1=some true:=by
   rw[SC]
   exact fe some (aV (g.key _ hm))
  rw[aQ (by rw[cB];omega),aj,aU ω (by rw[cB];omega),aj,aG,FV,acB,ar,bk,av,bJ (by rw[cB,aJ];omega),aj,aw (x:=(i:Int)+1) ω ω,af i]
  have h0:=hI.2.1
  rw[drop_cons hi aZ,ca]at h0
  have:=hr (ws++[dQ (E.getD i aZ)]) ⟨by rw[aS,aJ];omega,by rw[bF];exact h0,wg hI.2.2 (FW g.q i)⟩
  rw[dr]at this
  refine this.trans ?_
  rw[bF];rfl
 ·unfold cQ.l5 cQ.dV
  have h0:=hI.2.1
  rw[m0,gU,cA]at h0
  rw[aO (by rw[cB];omega),av,FP N hI.2.2 ω ω,ar,h0]
  have e0:Pg 0=(cK 0,true):=by unfold Pg;exact ak ⟨δ,δ⟩
  rw[e0]
  dsimp only
  rw[bk,av,BW,ar,show vP 0=0 from rfl,eg rfl,bk,av,wa N ω,ar]
  rw[gU,cA,ak h0]
  exact WI N hN g.q hE (λx hx=>UQ (g.key x hx)) hs hl Ua (λx hx=>UQ (ND x hx))
def gh(r:dg):alh:=(r.1,(r.2.1,(cI (dQ r),())))
theorem Px{E:au}{i:Nat}(h:i<E.length):(E.map gh).getD i ((0:Int),((0:Int),((false,oZ),())))=gh (E.getD i aZ):=by
 rw[aW,ob,bm h,aW,bm h];rfl
theorem SQ{v:Int}{n:Nat}(hn:n≤1000000)(h0: -(170141183460469231731687303715884105728*(n:Int))≤v)(h1:v≤170141183460469231731687303715884105728*(n:Int)):Fit v 900000:=by
 have h5:Fit v 5:=by
  unfold Fit
  rw[show(4294967296:Nat)^5=1461501637330902918203684832716283019655932542976 from rfl]
  omega
 exact h5.mono ω
theorem pO{v:Int}(h:cH v):Fit v 900000:=SQ (n:=1) ω (by have:=h.1;omega) (by have:=h.2;omega)
theorem WJ(hN:4000000≤N){E:au}(hq:B7 E)(hl:E.length≤100000)(q a b:Int)(hF:aF q):oE N q a b (E.map gh)=some (C0 (q+c3 a b E)):=by
 unfold oE oE.b
 have:=ll E aZ (λn j ws=>oE.l3 N n q a b (E.map gh) (cI ws.sum) (!ws.isEmpty) j)
  (λt ws=>some (C0 (q+(ws++dF a b t).sum)))
  (λj (ws:List Int)=>ws.length≤j∧ ∀x∈ws,cH x)
  (λn j ws hj hI ed=> ?_) (λn ws hI=> ?_) E.length N 0 [] ω ω ω ⟨aH _,λx hx=>nomatch hx⟩
 ·rw[show((0:Nat):Int)=0 from rfl,cM,jn,g8]at this
  exact this
 ·unfold oE.l3 oE.nY
  have WK:=FW hq j
  have hb:=SA hI.2
  have zC:nk N (cI ws.sum) (gh (E.getD j aZ)).2.2.1=some (cI (ws.sum+dQ (E.getD j aZ))):=iN N ω (SQ (n:=ws.length) ω hb.1 hb.2) (pO WK)
  rw[aQ (by rw[cB];omega),aj,aU ω (by rw[cB];omega),aj,aj,aj,aG,Px hj,zC,ar,aw (x:=(j:Int)+1) ω ω,af j,aI,aI]
  by_cases h1:(E.getD j aZ).1=a
  ·by_cases h2:(E.getD j aZ).2.1=b
   ·have hc:dF a b (E.getD j aZ::E.drop (j+1))=dQ (E.getD j aZ)::dF a b (E.drop (j+1)):=by rw[fp,ak ⟨h1,h2⟩]
    rw[ak (show(gh (E.getD j aZ)).1=a from h1),ak (show(gh (E.getD j aZ)).2.1=b from h2),hc]
    have:=ed (ws++[dQ (E.getD j aZ)]) ⟨by rw[aS,aJ];omega,wg hI.2 WK⟩
    rw[oa,cN,jn,jo,bF]at this
    refine Eq.trans ?_ this
    rw[show(!(ws++[dQ (E.getD j aZ)]).isEmpty)=true by cases ws<;>rfl]
   ·have hc:dF a b (E.getD j aZ::E.drop (j+1))=dF a b (E.drop (j+1)):=by rw[fp,ag (λh=>h2 h.2)]
    rw[ak (show(gh (E.getD j aZ)).1=a from h1),ag (show ¬(gh (E.getD j aZ)).2.1=b from h2),hc]
    exact ed ws ⟨ω,hI.2⟩
  ·have hc:dF a b (E.getD j aZ::E.drop (j+1))=dF a b (E.drop (j+1)):=by rw[fp,ag (λh=>h1 h.1)]
   rw[ag (show ¬(gh (E.getD j aZ)).1=a from h1),hc]
   exact ed ws ⟨ω,hI.2⟩
 ·unfold oE.l3 oE.nY
  have hs:=SA hI.2
  have UD:=hF
  unfold aF at UD
  rw[aO (by rw[cB];omega),av,dd N ω UD.1 UD.2,ar,iN N ω (SQ (n:=ws.length) ω hs.1 hs.2) ((Fit.i64 UD.1 UD.2).mono ω),ar,uk,ar,cond_not]
  show _=some (C0 (q+(ws++[]).sum))
  rw[cA,Int.add_comm ws.sum q]
  cases ws with
  |nil=>
   show some (q,true)=some (C0 (q+0))
   rw[jo,wb hF]
  |cons w ws=>rfl
theorem adf{l:au}(hs:uq (l.map keyOf))(hl:dU l)(k:dt):aF (c3 k.1 k.2 l):=by
 by_cases hk:k∈l.map keyOf
 ·have hm:Fg l k∈rowsOf l (l.map keyOf):=fG hk
  rw[nL hs]at hm
  exact hl (Fg l k) hm
 ·rw[gY hk];exact⟨δ,δ⟩
theorem Py(N:Nat)(hN:4000000≤N)(C:dR.bP){l E:au}(hq:B7 E)(hl:E.length≤100000)(hs:uq (l.map keyOf))(Jo:l.length≤100000)(hf:dU l)(hw: ∀x∈l,0≤(keyOf x).2∧(keyOf x).2<(25:Nat))(a:Nat)(ha:a≤24)(G:List dt)
  (hc: ∀(p:Nat) (out:au),Mark l (a+1) 0 p→out.length≤25*(a+1)→C l (E.map gh) out (p:Int) ((a+1:Nat):Int)=wZ out (eN aF (fS l E) G)):
  ∀(m n b p:Nat) (out:au),b+m=25→m<n→Mark l a b p→out.length≤25*a+b→dR.l7 N C n l (E.map gh) out (p:Int) (a:Int) (b:Int)=wZ out (eN aF (fS l E) (B5 a b m++G))
 |m,0,b,p,out,_,hn,_,_=>ω
 |0,n+1,b,p,out,hb,_,hM,ho=>by
  have e:b=25:=ω
  subst e
  unfold dR.l7 dR.nR
  rw[fM ω,av,aw (x:=(a:Int)+1) ω ω,af a]
  exact hc p out (hM.row hw) ω
 |m+1,n+1,b,p,out,hb,hn,hM,ho=>by
  have hp:=hM.le
  have ale: ∀(p:Nat) (v:Int),Mark l a (b+1) p→dR.l7 N C n l (E.map gh) (if v=0 then out else out++[((a:Int),((b:Int),(v,())))]) (p:Int) (a:Int) ((b+1:Nat):Int)=wZ (if v=0 then out else out++[((a:Int),((b:Int),(v,())))]) (eN aF (fS l E) (B5 a (b+1) m++G)):=λp v h=>
   Py N hN C hq hl hs Jo hf hw a ha G hc m n (b+1) p _ ω ω h (by
    split
    ·omega
    ·rw[aS,aJ];omega)
  have wU:=adf hs hf ((a:Int),(b:Int))
  unfold dR.l7 dR.nR
  show _=wZ out (eN aF (fS l E) (((a:Int),(b:Int))::(B5 a (b+1) m++G)))
  rw[fR (x:=(b:Int)) ω,aj,cf,aI,aI,aG]
  have fin: ∀(p:Nat) (q:Int),q=c3 (a:Int) (b:Int) l→Mark l a (b+1) p→dR.UP N C (dR.l7 N C n) l (E.map gh) out (p:Int) (a:Int) (b:Int) q=wZ out (eN aF (fS l E) (((a:Int),(b:Int))::(B5 a (b+1) m++G))):=λp q e h=>by
   subst e
   unfold dR.UP dR.Mz
   rw[WJ N hN hq hl _ _ _ wU,ar]
   refine Eq.trans ?_ (KL (k:=((a:Int),(b:Int))) (v:=c3 (a:Int) (b:Int) l+c3 (a:Int) (b:Int) E) rfl)
   generalize c3 (a:Int) (b:Int) l+c3 (a:Int) (b:Int) E=v
   have hr:=ale p v h
   by_cases hv:aF v
   ·rw[wb hv,ak hv]
    dsimp only
    rw[bk,av,cond_not,aI,bJ (by rw[aJ];omega),aj,aw (x:=(b:Int)+1) ω ω,af b,←hr]
    split<;>rfl
   ·rw[y4 hv,ag hv];rfl
  rcases hM.step hs with⟨h1,h2,h3,h4,h5⟩|⟨h1,h2,h3⟩
  ·rw[ak (show(p:Int)<(l.length:Int)by omega),aU ω ω,aj,aj,ak h2,ak h3,aw (x:=(p:Int)+1) ω ω,af p,aj]
   exact fin (p+1) _ h4.symm h5
  ·by_cases g1:p<l.length
   ·rw[ak (show(p:Int)<(l.length:Int)by omega),aU ω ω,aj,aj]
    by_cases g2:(l.getD p aZ).1=(a:Int)
    ·rw[ak g2,ag (λg3=>h1 g1 g2 g3)]
     exact fin p _ h2.symm h3
    ·rw[ag g2]
     exact fin p _ h2.symm h3
   ·rw[ag (show ¬(p:Int)<(l.length:Int)by omega)]
    exact fin p _ h2.symm h3
theorem Pz(N:Nat)(hN:4000000≤N){l E:au}(hq:B7 E)(hl:E.length≤100000)(hs:uq (l.map keyOf))(Jo:l.length≤100000)(hf:dU l)(hw: ∀x∈l,0≤(keyOf x).2∧(keyOf x).2<(25:Nat)):
  ∀(m n a p:Nat) (out:au),a+m=8→m<n→Mark l a 0 p→out.length≤25*a→dR.l4 N n l (E.map gh) out (p:Int) (a:Int)=wZ out (eN aF (fS l E) (zH 25 a m))
 |m,0,a,p,out,_,hn,_,_=>ω
 |0,n+1,a,p,out,ha,_,hM,ho=>by
  unfold dR.l4 dR.dM
  rw[fM ω,av]
  show some (out,true)=some (out++[],true)
  rw[cA]
 |m+1,n+1,a,p,out,ha,hn,hM,ho=>by
  unfold dR.l4 dR.dM
  rw[fR ω,aj]
  exact Py N hN _ hq hl hs Jo hf hw a ω (zH 25 (a+1) m) (λp out h ho=>Pz N hN hq hl hs Jo hf hw m n (a+1) p out ω ω h ho) 25 N 0 p out ω ω hM ω
def nN:List dt:=zH 25 1 7
theorem UR(hN:4000000≤N){l E:au}(hk:fh l=true)(hl:l.length≤90000)(Ua:dU l)(hq:B7 E)(hE:E.length≤100000):dR N l (E.map gh)=wZ [] (eN aF (fS l E) nN):=by
 obtain⟨hs,ND⟩:=pn hk
 unfold dR dR.b
 refine Pz N hN hq hE hs ω Ua (λx hx=> ?_) 7 N 1 0 [] ω ω ⟨ω,λx hx=>(nomatch hx),λx hx eU=> ?_⟩ (by simp)
 ·have h:de (keyOf x).1 (keyOf x).2:=ND x hx
  unfold de at h;omega
 ·have h:de (keyOf x).1 (keyOf x).2:=ND x (mV hx)
  unfold de at h
  have xK:(keyOf x).1<((1:Nat):Int)∨((keyOf x).1=((1:Nat):Int)∧(keyOf x).2<((0:Nat):Int)):=eU
  omega
theorem ZK{l E:au}(hk:fh l=true)(hp: ∀x∈E,de x.1 x.2.1):eN aF (fS l E) (oD (l.map keyOf) E)=eN aF (fS l E) nN:=by
 obtain⟨hs,ND⟩:=pn hk
 refine Pq ⟨δ,δ⟩ (Al hs) (pk 25 7 1) (λk hk=> ?_) (λk hk hn=> ?_)
 ·have:de k.1 k.2:=by
   rcases ns.1 hk with h|⟨x,hx,rfl⟩
   ·obtain⟨x,hx,rfl⟩:=cY.1 h
    exact ND x hx
   ·exact hp x hx
  unfold de at this
  exact pj.2 ω
 ·have h1:k∉l.map keyOf:=λh=>hn (ns.2 (Or.inl h))
  have h2:k∉E.map keyOf:=λh=>by
   obtain⟨x,hx,e⟩:=cY.1 h
   exact hn (ns.2 (Or.inr ⟨x,hx,e⟩))
  unfold fS
  rw[gY h1,gY h2];rfl
def dE(b:an)(s e:au):an×Int:=
 match eN Fq (fS b.2.2.2.1 s) jV with
 |none=>((cn,(cW,(bo,(bo,(di,(du,())))))),2)
 |some s'=>match eN aF (fS b.2.2.1 e) nN with
  |none=>((cn,(cW,(bo,(bo,(di,(du,())))))),2)
  |some r'=>((b.1,(b.2.1,(r',(s',b.2.2.2.2)))),0)
theorem PA{b:an}(w:jC b):F70 N b=some b:=by
 unfold F70
 have h1:=w.m;have h2:=w.a;have h3:=w.r;have h4:=w.s;have h5:=w.p;have h6:=w.o
 rw[wa N ω,ar,wa N ω,ar,wa N ω,ar,wa N ω,ar,wa N ω,ar,wa N ω,ar]
end VM
end
