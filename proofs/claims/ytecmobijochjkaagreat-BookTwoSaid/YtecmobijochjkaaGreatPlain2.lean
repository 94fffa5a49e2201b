/- A part of the proof of BookTwo of layer 18: what the functions compute, in plain words. -/
import Derived.Test.YtecmobijochjkaaGreatPlain1
set_option linter.all false
section
namespace VM
open Go VM.F
theorem BR(N:Nat)(hN:200000≤N)(c:ae){l:aE}(hl:l.length≤100000):ov N c l=some (pe c l):=by
 unfold ov ov.b
 rw[oe N ω,ar]
 have hsc:=iI (F:=λn i=>ov.l4 N n l c i) (e:=true) (oq c l) (λn i r hi hp hr=> ?_) (λn=> ?_) N (show l.length<N by omega)
 ·rw[p8 hsc];unfold pe
  rw[fA,Bool.and_comm]
 ·unfold ov.l4 ov.dU
  rw[aR ω,ak,aW ω ω,ak,aI,aw (x:=(i:Int)+1) ω ω,af,hr]
  by_cases h0:0<i
  ·have e:W .i64 ((i:Int)-1)=((i-1:Nat):Int):=by rw[aw ω ω];omega
   dsimp only
   rw[aR (x:=0) (y:=(i:Int)) ω,e,aI,aW (i:=((i-1:Nat):Int)) ω ω]
   simp only[cy,cz,aL,ak]
   by_cases hP:oq c l i
   ·rw[aj hP];unfold oq qF at hP
    rw[ah ω,ah ω,ah hP.2.2.1,ah (show ¬((l.getD i da).2.1:Int)= -9223372036854775808 from hP.2.2.2.1),ah ω]
   ·rw[ah hP];unfold oq qF at hP
    have h2:=λh1 h2 h3 h4 h5=>hP ⟨h1,h2,h3,h4,h5⟩
    repeat' split
    all_goals first|rfl|(exfalso;exact h2 ω ω (by assumption) (by assumption) ω)
  ·rw[aP (x:=0) (y:=(i:Int)) ω]
   simp only[cy,cz,aL,ak,av]
   by_cases hP:oq c l i
   ·rw[aj hP];unfold oq qF at hP
    rw[ah ω,ah ω,ah hP.2.2.1,ah (show ¬((l.getD i da).2.1:Int)= -9223372036854775808 from hP.2.2.2.1)]
   ·rw[ah hP];unfold oq qF at hP
    have h2:=λh1 h2 h3 h4 h5=>hP ⟨h1,h2,h3,h4,h5⟩
    repeat' split
    all_goals first|rfl|(exfalso;exact h2 ω ω (by assumption) (by assumption) ω)
 ·unfold ov.l4 ov.dU
  rw[aP ω,av]
def Md(a b c d:Int):Prop:=(1≤a∧a≤1099511627776)∧(1≤b∧b≤1099511627776)∧(1≤c∧c≤12)∧(-1152921504606846976≤d∧d≤1152921504606846976)
instance(a b c d:Int):Decidable (Md a b c d):=by unfold Md;infer_instance
def Kl(x:cG):Prop:=Md x.1 x.2.1 x.2.2.1 x.2.2.2.1
instance(x:cG):Decidable (Kl x):=by unfold Kl;infer_instance
theorem Uy(N:Nat)(x:cG):Zo N x=some (decide (Kl x)):=by
 unfold Zo
 rw[m0 x.2.2.2.1]
 repeat rw[ia]
 congr 1
 rw[pR,fP]
 unfold Kl Md
 simp only[bM,xf]
 omega
def sD(m lot:Int)(x:cG):Bool:=decide (dG x.2.2.1 m)&&decide (dG x.2.1 lot)
def BS(l:aO)(i:Nat):Prop:=Kl (l.getD i bb)∧uX i (l.getD (i-1) bb).1 (l.getD i bb).1∧(l.take i).any (sD (l.getD i bb).2.2.1 (l.getD i bb).2.1)=false
instance(l:aO):DecidablePred (BS l):=λi=>by unfold BS;infer_instance
def Zp(l:aO):Bool:=decide (∀j,j<l.length→BS l j)&&decide (l.length≤40)
def dD(a b:Int):au→List Int
 |[]=>[]
 |x::t=>if x.1=a∧x.2.1=b then dJ x::dD a b t else dD a b t
theorem ff(a b:Int)(x:de)(t:au):dD a b (x::t)=if x.1=a∧x.2.1=b then dJ x::dD a b t else dD a b t:=rfl
def cO(a b:Int)(l:au):Int:=(dD a b l).sum
theorem u2(a b:Int):cO a b []=0:=rfl
theorem ib(a b:Int)(x:de)(t:au):cO a b (x::t)=(if x.1=a∧x.2.1=b then dJ x else 0)+cO a b t:=by
 unfold cO
 rw[ff]
 split
 ·rw[cE]
 ·omega
theorem ln{a b:Int}: ∀{l:au},(∀x∈l,¬(x.1=a∧x.2.1=b))→cO a b l=0
 |[],_=>rfl
 |x::t,h=>by
  rw[ib,ah (h x (bq ..)),ln (λy hy=>h y (aZ _ hy))];rfl
abbrev dh:=Int×Int
def ur(x y:dh):Prop:=lX x.1 x.2 y.1 y.2
instance(x y:dh):Decidable (ur x y):=by unfold ur;infer_instance
def keyOf(x:de):dh:=(x.1,x.2.1)
def sE(K:List dh):Prop:=K.Pairwise ur
theorem ow{x:dh}(h:ur x x):False:=by unfold ur lX at h;omega
theorem Km{x y:dh}(h:ur x y)(k:ur y x):False:=by unfold ur lX at*;omega
theorem yY{x y z:dh}(h:ur x y)(k:ur y z):ur x z:=by unfold ur lX at*;omega
theorem Uz(x y:dh):ur x y∨x=y∨ur y x:=by
 have:(x.1=y.1∧x.2=y.2)→x=y:=λh=>iC h.1 h.2
 unfold ur lX
 by_cases h1:x.1=y.1
 ·by_cases h2:x.2=y.2
  ·exact Or.inr (Or.inl (this ⟨h1,h2⟩))
  ·omega
 ·omega
theorem UA: ∀{a b:List dh},sE a→sE b→(∀x,x∈a↔x∈b)→a=b
 |[],[],_,_,_=>rfl
 |[],y::t,_,_,h=>nomatch (h y).2 (bq ..)
 |x::s,[],_,_,h=>nomatch (h x).1 (bq ..)
 |x::s,y::t,ha,hb,h=>by
  obtain⟨ha1,ha2⟩:=eP.1 ha
  obtain⟨nr,vk⟩:=eP.1 hb
  have XP:x=y:=by
   rcases a8.1 ((h x).1 (bq ..))with e|e
   ·exact e
   ·rcases a8.1 ((h y).2 (bq ..))with f|f
    ·exact f.symm
    ·exact(Km (ha1 y f) (nr x e)).elim
  subst XP
  rw[UA ha2 vk λz=>⟨λhz=> ?_,λhz=> ?_⟩]
  ·rcases a8.1 ((h z).1 (aZ _ hz))with e|e
   ·subst e;exact(ow (ha1 z hz)).elim
   ·exact e
  ·rcases a8.1 ((h z).2 (aZ _ hz))with e|e
   ·subst e;exact(ow (nr z hz)).elim
   ·exact e
def dL(P:Int→Prop) [DecidablePred P](f:Int→Int→Int):List dh→Option au
 |[]=>some []
 |k::t=>if P (f k.1 k.2)then(dL P f t).map (λo=>if f k.1 k.2=0 then o else(k.1,(k.2,(f k.1 k.2,())))::o)else none
theorem ix(P:Int→Prop) [DecidablePred P](f:Int→Int→Int)(k:dh)(t:List dh):dL P f (k::t)=if P (f k.1 k.2)then(dL P f t).map (λo=>if f k.1 k.2=0 then o else(k.1,(k.2,(f k.1 k.2,())))::o)else none:=rfl
theorem Eh{P:Int→Prop} [DecidablePred P](h0:P 0){f:Int→Int→Int}(p:dh→Bool): ∀{K:List dh},(∀k∈K,p k=false→f k.1 k.2=0)→dL P f (K.filter p)=dL P f K
 |[],_=>rfl
 |k::t,h=>by
  have ih:=Eh h0 p (K:=t) (λx hx=>h x (aZ _ hx))
  cases hp:p k
  ·rw[List.filter_cons_of_neg (by rw[hp];decide),ih,ix,h k (bq ..) hp,aj h0]
   simp
  ·rw[List.filter_cons_of_pos hp,ix,ix,ih]
theorem O4{P:Int→Prop} [DecidablePred P](h0:P 0){f:Int→Int→Int}{K G:List dh}(hK:sE K)(hG:sE G)(hs: ∀k∈K,k∈G)(hz: ∀k∈G,k∉K→f k.1 k.2=0):dL P f K=dL P f G:=by
 have e:K=G.filter (λk=>decide (k∈K)):=by
  refine UA hK (uz List.filter_sublist hG) λx=> ?_
  rw[rS]
  exact⟨λh=>⟨hs x h,aU h⟩,λh=>bt h.2⟩
 rw[e]
 exact Eh h0 _ λk hk hp=>hz k hk (of_decide_eq_false hp)
def ye(k:dh):List dh→List dh
 |[]=>[k]
 |x::t=>if ur x k then x::ye k t else if x=k then x::t else k::x::t
theorem sF{k x:dh}: ∀{K:List dh},x∈ye k K↔x=k∨x∈K
 |[]=>by show x∈[k]↔_;simp
 |y::t=>by
  show x∈(if ur y k then y::ye k t else if y=k then y::t else k::y::t)↔_
  split
  ·rw[a8,sF,a8]
   exact⟨λh=>h.elim (λe=>Or.inr (Or.inl e)) (λh=>h.elim Or.inl (λh=>Or.inr (Or.inr h))),λh=>h.elim (λe=>Or.inr (Or.inl e)) (λh=>h.elim Or.inl (λh=>Or.inr (Or.inr h)))⟩
  ·split
   ·rename_i e
    rw[←e]
    exact⟨Or.inr,λh=>h.elim (λe=>e▸bq ..) id⟩
   ·rw[a8]
theorem BT{k:dh}: ∀{K:List dh},sE K→sE (ye k K)
 |[],_=>eP.2 ⟨λ_ h=>(nomatch h),List.Pairwise.nil⟩
 |y::t,h=>by
  obtain⟨h1,h2⟩:=eP.1 h
  show sE (if ur y k then y::ye k t else if y=k then y::t else k::y::t)
  split
  ·rename_i hy
   exact eP.2 ⟨λz hz=>(sF.1 hz).elim (λe=>e▸hy) (h1 z),BT h2⟩
  ·rename_i hy
   split
   ·exact h
   ·rename_i he
    have hk:ur k y:=(Uz y k).elim (λh=>absurd h hy) (λh=>h.elim (λh=>absurd h he) id)
    exact eP.2 ⟨λz hz=>(a8.1 hz).elim (λe=>e▸hk) (λhz=>yY hk (h1 z hz)),h⟩
def ox(K:List dh)(E:au):List dh:=E.foldl (λK x=>ye (keyOf x) K) K
theorem tR(K:List dh)(x:de)(E:au):ox K (x::E)=ox (ye (keyOf x) K) E:=rfl
theorem Aj: ∀{E:au} {K:List dh},sE K→sE (ox K E)
 |[],_,h=>h
 |x::E,K,h=>by rw[tR];exact Aj (BT h)
theorem ni{k:dh}: ∀{E:au} {K:List dh},k∈ox K E↔(k∈K∨ ∃x∈E,keyOf x=k)
 |[],K=>by
  show k∈K↔_
  simp
 |x::E,K=>by
  rw[tR,ni,sF]
  constructor
  ·rintro((rfl|h)|⟨y,hy,e⟩)
   ·exact Or.inr ⟨x,bq ..,rfl⟩
   ·exact Or.inl h
   ·exact Or.inr ⟨y,aZ _ hy,e⟩
  ·rintro(h|⟨y,hy,e⟩)
   ·exact Or.inl (Or.inr h)
   ·rcases a8.1 hy with rfl|hy
    ·exact Or.inl (Or.inl e.symm)
    ·exact Or.inr ⟨y,hy,e⟩
theorem Ht(k:dh): ∀K:List dh,(ye k K).length≤K.length+1
 |[]=>aH _
 |y::t=>by
  show(if ur y k then y::ye k t else if y=k then y::t else k::y::t).length≤_
  have:=Ht k t
  split
  ·rw[aT,aT];omega
  ·split<;>rw[aT]<;>(try rw[aT])<;>omega
def rowsOf(l:au)(K:List dh):au:=K.map λk=>(k.1,(k.2,(cO k.1 k.2 l,())))
theorem nB{l:au}(h:sE (l.map keyOf)):rowsOf l (l.map keyOf)=l:=by
 have key: ∀(m:au),sE (m.map keyOf)→(∀x∈m,cO x.1 x.2.1 l=dJ x)→rowsOf l (m.map keyOf)=m:=by
  intro m
  induction m with
  |nil=>intro _ _;rfl
  |cons x t ih=>
   intro hm hx
   have:=ih (eP.1 hm).2 (λy hy=>hx y (aZ _ hy))
   unfold rowsOf at*
   rw[bQ,bQ,this]
   congr 1
   show(x.1,(x.2.1,(cO x.1 x.2.1 l,())))=x
   rw[hx x (bq ..)];rfl
 refine key l h ?_
 clear key
 induction l with
 |nil=>intro x hx;nomatch hx
 |cons y t ih=>
  intro x hx
  obtain⟨h1,h2⟩:=eP.1 h
  have kq: ∀z∈t,¬(z.1=y.1∧z.2.1=y.2.1):=λz hz e=>by
   have hk:=h1 (keyOf z) (fh hz)
   have he:keyOf z=keyOf y:=iC e.1 e.2
   rw[he]at hk
   exact ow hk
  rw[ib]
  rcases a8.1 hx with rfl|hx
  ·rw[aj ⟨rfl,rfl⟩,ln kq];omega
  ·rw[ah (λe=>kq x hx ⟨e.1.symm,e.2.symm⟩),ih h2 x hx];omega
instance(x:Int):Decidable (aF x):=by unfold aF;infer_instance
def Fq(x:Int):Prop:=aF x∧q7 x
instance:DecidablePred Fq:=λx=>by unfold Fq;infer_instance
def vU(r:Option au):Option (au×Int):=some (match r with|some o=>(o,0)|none=>([],2))
def fS(l E:au)(a b:Int):Int:=cO a b l+cO a b E
theorem FH{α:Type}(N:Nat){l:List α}{i:Nat}{x:α}(hi:i≤l.length)(hl:l.length<1000000):qW N l (i:Int) [x]=some (l.take i++x::l.drop i):=by
 unfold qW
 rw[aj ⟨ω,ω,rfl,by unfold A2;omega⟩]
 rfl
theorem vV{α:Type}(N:Nat){l:List α}(hl:l.length≤1000000):js N l=some l:=by
 unfold js
 rw[aj (by unfold A2;omega)]
theorem Hu(N:Nat){v:Int}(h:cT v):F92 N (cN v)=some (CO v):=acS N h.1 h.2
theorem vW{v:Int}(h:aF v):CO v=(v,true):=by unfold CO;exact aj h
theorem yZ{v:Int}(h: ¬aF v):CO v=(0,false):=by unfold CO;exact ah h
theorem C3{ws:List Int}{x:Int}(h: ∀y∈ws,aF y)(hx:aF x): ∀y∈ws++[x],aF y:=λy hy=>by
 rcases bl.1 hy with hy|hy
 ·exact h y hy
 ·rw[cr.1 hy];exact hx
theorem O5(N:Nat){l:au}:ac2 N l=some l:=by
 unfold ac2
 rw[eh ω ω ω ω,ak]
 simp
theorem Zq(N:Nat)(hN:2000000≤N)(K:cJ.Ko){E out R:au}(hq:dV E)(hl:E.length≤100000)(ho:out.length≤1000000)(r:de)(hr:aF (dJ r))(i:Nat)(hi:i≤1000000):
  cJ.l27 N K N E out r [cN (dJ r)] R (R.length:Int) (i:Int) E (E.length:Int) 0=
   if Fq (dJ r+cO r.1 r.2.1 E)then K E (if dJ r+cO r.1 r.2.1 E=0 then out else out++[(r.1,(r.2.1,(dJ r+cO r.1 r.2.1 E,())))]) R (R.length:Int) ((i+1:Nat):Int)else some (bn,(2:Int)):=by
 have:=nH E ba (λn j ws=>cJ.l27 N K n E out r (ws.map cN) R (R.length:Int) (i:Int) E (E.length:Int) j)
  (λt ws=>if Fq (ws++dD r.1 r.2.1 t).sum then K E (if(ws++dD r.1 r.2.1 t).sum=0 then out else out++[(r.1,(r.2.1,((ws++dD r.1 r.2.1 t).sum,())))]) R (R.length:Int) ((i+1:Nat):Int)else some (bn,(2:Int)))
  (λj (ws:List Int)=>ws.length≤j+1∧ ∀x∈ws,aF x)
  (λn j ws hj hI eQ=> ?_) (λn ws hI=> ?_) E.length N 0 [dJ r] ω ω ω ⟨aH _,λx hx=>by rw[cr.1 hx];exact hr⟩
 ·rw[show((0:Nat):Int)=0 from rfl,cQ]at this
  refine this.trans ?_
  have e:([dJ r]++dD r.1 r.2.1 E).sum=dJ r+cO r.1 r.2.1 E:=by rw[F4,cE];rfl
  rw[e]
 ·unfold cJ.l27 cJ.ac3
  have nh:=vS hq j
  have jy:=nh
  unfold aF dJ at jy
  rw[aR ω,ak,aW ω ω,ak,aI,vO N jy.1 jy.2,ar,bS (by rw[cD,aK];omega),ak,aw (x:=(j:Int)+1) ω ω,af,aL,aL]
  by_cases h1:(E.getD j ba).1=r.1
  ·by_cases h2:(E.getD j ba).2.1=r.2.1
   ·have hc:dD r.1 r.2.1 (E.getD j ba::E.drop (j+1))=dJ (E.getD j ba)::dD r.1 r.2.1 (E.drop (j+1)):=by rw[ff,aj ⟨h1,h2⟩]
    rw[aj h1,aj h2,hc]
    have:=eQ (ws++[dJ (E.getD j ba)]) ⟨by rw[aS,aK];omega,C3 hI.2 nh⟩
    rw[dj]at this
    refine this.trans ?_
    rw[bE];rfl
   ·have hc:dD r.1 r.2.1 (E.getD j ba::E.drop (j+1))=dD r.1 r.2.1 (E.drop (j+1)):=by rw[ff,ah (λh=>h2 h.2)]
    rw[aj h1,ah h2,hc]
    exact eQ ws ⟨ω,hI.2⟩
  ·have hc:dD r.1 r.2.1 (E.getD j ba::E.drop (j+1))=dD r.1 r.2.1 (E.drop (j+1)):=by rw[ff,ah (λh=>h1 h.1)]
   rw[ah h1,hc]
   exact eQ ws ⟨ω,hI.2⟩
 ·unfold cJ.l27 cJ.ac3
  have hs:=Kg hI.2 ω
  rw[aP ω,av,L7 N hI.2 ω ω,ar]
  show _=if Fq (ws++[]).sum then K E (if(ws++[]).sum=0 then out else out++[(r.1,(r.2.1,((ws++[]).sum,())))]) R (R.length:Int) ((i+1:Nat):Int)else some (bn,(2:Int))
  rw[cw,Hu N hs,ar]
  by_cases h1:aF ws.sum
  ·rw[vW h1]
   dsimp only
   rw[bh,av,tN,ar,cond_not,fU,cond_not,aL,bS (by rw[aK];omega),ak,aw (x:=(i:Int)+1) ω ω,af]
   by_cases h2:q7 ws.sum
   ·rw[aj h2,aj (show Fq ws.sum from⟨h1,h2⟩)]
    split<;>rfl
   ·rw[ah h2,ah (λh=>h2 h.2)]
  ·rw[yZ h1,ah (λh=>h1 h.1)]
   rfl
theorem Wy(N:Nat)(hN:2000000≤N){l E R:au}(hq:dV E)(hl:E.length≤100000)(hR:R.length≤200000)(hv: ∀r∈R,aF (dJ r)∧dJ r=cO r.1 r.2.1 l):
  cJ.l23 N N E [] R (R.length:Int) 0=vU (dL Fq (fS l E) (R.map keyOf)):=by
 have:=nH R ba (λn i out=>cJ.l23 N n E out R (R.length:Int) i) (λt out=>vU ((dL Fq (fS l E) (t.map keyOf)).map (λo=>out++o))) (λi (out:au)=>out.length≤i)
  (λn i out hi hI hr=> ?_) (λn out hI=> ?_) R.length N 0 [] ω ω ω (aH _)
 ·rw[show((0:Nat):Int)=0 from rfl,cQ]at this
  refine this.trans ?_
  simp
 ·unfold cJ.l23 cJ.ac5
  have hm:R.getD i ba∈R:=by
   rw[aV,bo hi];exact dO hi
  have RU:=hv _ hm
  have nh:=RU.1
  have jy:=nh
  unfold aF dJ at jy
  rw[aR ω,ak,aW ω ω,ak,aI,vO N jy.1 jy.2,ar]
  refine(Zq N hN _ hq hl ω _ nh i ω).trans ?_
  rw[bQ,ix]
  have ef:fS l E (keyOf (R.getD i ba)).1 (keyOf (R.getD i ba)).2=dJ (R.getD i ba)+cO (R.getD i ba).1 (R.getD i ba).2.1 E:=by
   show cO _ _ l+cO _ _ E=_
   rw[RU.2];rfl
  rw[ef]
  generalize hS:dJ (R.getD i ba)+cO (R.getD i ba).1 (R.getD i ba).2.1 E=v
  by_cases hF:Fq v
  ·rw[aj hF,aj hF,hr _ (by
    split
    ·omega
    ·rw[aS,aK];omega)]
   cases dL Fq (fS l E) ((R.drop (i+1)).map keyOf)with
   |none=>rfl
   |some o=>
    show vU (some _)=vU (some _)
    congr 2
    split
    ·rfl
    ·exact bE _ _ _
  ·rw[ah hF,ah hF];rfl
 ·unfold cJ.l23 cJ.ac5
  rw[aP ω,av,O5,ar]
  show _=vU (some (out++[]))
  rw[cw];rfl
def E4(l:au)(k:dh):de:=(k.1,(k.2,(cO k.1 k.2 l,())))
theorem eT(l:au)(K:List dh):(rowsOf l K).length=K.length:=cD ..
theorem Kp(l:au){K:List dh}{p:Nat}(h:p<K.length):(rowsOf l K).getD p ba=E4 l (K.getD p (0,0)):=by
 unfold rowsOf
 rw[aV,nT,bo h,aV,bo h];rfl
theorem vX(l:au)(K:List dh)(p:Nat)(k:dh):(rowsOf l K).take p++E4 l k::(rowsOf l K).drop p=rowsOf l (K.take p++k::K.drop p):=by
 unfold rowsOf
 rw[dj,bQ,List.map_take,List.map_drop];rfl
theorem Ei(l:au)(K:List dh):(rowsOf l K).map keyOf=K:=by
 unfold rowsOf
 rw[List.map_map]
 induction K with
 |nil=>rfl
 |cons k t ih=>rw[bQ,ih];rfl
theorem BU{k x:dh}:0<CP k.1 k.2 x.1 x.2↔ur x k:=by
 unfold CP ur lX;split<;>omega
theorem y4{k x:dh}:CP k.1 k.2 x.1 x.2=0↔x=k:=by
 have:x=k↔x.1=k.1∧x.2=k.2:=⟨λh=>h▸⟨rfl,rfl⟩,λh=>iC h.1 h.2⟩
 rw[this]
 unfold CP;split<;>omega
def BV(k:dh):Prop:=Jw k.1∧Jw k.2
theorem UB{k:dh}{K:List dh}{p:Nat}(h:p<K.length):ye k (K.drop p)=if ur (K.getD p (0,0)) k then K.getD p (0,0)::ye k (K.drop (p+1))else if K.getD p (0,0)=k then K.drop p else k::K.drop p:=by
 rw[drop_cons h (0,0)];rfl
theorem BW{K:List dh}{p:Nat}(h:p<K.length)(t:List dh):K.take p++K.getD p (0,0)::t=K.take (p+1)++t:=by
 rw[←tB h,bE,aV,bo h];rfl
def zeroAt(l:au)(K:List dh)(k:dh):Prop:=k∉K→cO k.1 k.2 l=0
theorem y5{l:au}{k:dh}(h:cO k.1 k.2 l=0):((k.1,(k.2,((0:Int),()))):de)=E4 l k:=by
 unfold E4;rw[h]
theorem vY{k:dh}{K:List dh}{p:Nat}(hs:sE K)(hp: ∀x∈K.take p,ur x k)(h: ∀x∈K.drop p,ur k x):k∉K:=λhk=>by
 rw[←gL p K]at hk
 rcases bl.1 hk with hk|hk
 ·exact ow (hp k hk)
 ·exact ow (h k hk)
theorem UC{k:dh}{K:List dh}{p:Nat}(hs:sE K)(h:p<K.length)(h1: ¬ur (K.getD p (0,0)) k)(h2:K.getD p (0,0)≠k): ∀x∈K.drop p,ur k x:=by
 have hk:ur k (K.getD p (0,0)):=(Uz (K.getD p (0,0)) k).elim (λh=>absurd h h1) (λh=>h.elim (λh=>absurd h h2) id)
 have hd:sE (K.drop p):=uz (List.drop_sublist ..) hs
 rw[drop_cons h (0,0)]at hd ⊢
 intro x hx
 rcases a8.1 hx with rfl|hx
 ·exact hk
 ·exact yY hk ((eP.1 hd).1 x hx)
theorem ai8(N:Nat)(C:cJ.fN){l E S:au}{K:List dh}(hs:sE K)(hl:K.length≤100000)(hf: ∀k∈K,BV k)(x:de)(hx:BV (keyOf x))(hz:zeroAt l K (keyOf x))(len:Int)(i:Nat)(hi:i≤1000000):
  ∀(m n p:Nat),K.length-p≤m→m<n→p≤K.length→(∀y∈K.take p,ur y (keyOf x))→
   cJ.yb N C n E (rowsOf l K) x (p:Int) S len (i:Int)=C E (rowsOf l (K.take p++ye (keyOf x) (K.drop p))) S len ((i+1:Nat):Int)
 |m,0,p,_,hn,_,_=>ω
 |m,n+1,p,hm,hn,hp,hb=>by
  unfold cJ.yb cJ.wV cJ.j18 cJ.akZ
  rw[eT,aw (x:=(i:Int)+1) ω ω,af i]
  by_cases h:p<K.length
  ·have hfk:=hf (K.getD p (0,0)) (by rw[aV,bo h];exact dO h)
   have ho:Wj N x.1 x.2.1 ((rowsOf l K).getD p ba)=some (CP (keyOf x).1 (keyOf x).2 (K.getD p (0,0)).1 (K.getD p (0,0)).2):=by
    rw[Kp l h]
    exact Kf N hx.1 hx.2 hfk.1 hfk.2
   rw[aR ω,ak,aW ω ω,ak,aI,ho,ar,eR (x:=(p:Int)) ω,av,ak,ar,cy,cond_not,aL,UB h]
   by_cases h1:ur (K.getD p (0,0)) (keyOf x)
   ·rw[aj (BU.2 h1),aj h1,aw (x:=(p:Int)+1) ω ω,af p,BW h]
    refine ai8 N C hs hl hf x hx hz len i hi (m-1) n (p+1) ω ω ω λy hy=> ?_
    rw[←tB h]at hy
    rcases bl.1 hy with hy|hy
    ·exact hb y hy
    ·rw[aV,bo h]at h1
     rw[cr.1 hy];exact h1
   ·rw[ah (λh=>h1 (BU.1 h)),ah h1]
    by_cases h2:K.getD p (0,0)=keyOf x
    ·rw[aj (y4.2 h2),aj h2,gL]
    ·rw[ah (λh=>h2 (y4.1 h)),ah h2,FH N (by rw[eT];omega) (by rw[eT];omega),ar]
     have Au:=hz (vY hs hb (UC hs h h1 h2))
     have e:=vX l K p (keyOf x)
     rw[←y5 Au]at e
     exact fj (λR=>C E R S len ((i+1:Nat):Int)) e
  ·have hd:K.drop p=[]:=xb ω
   rw[aP ω,av,dZ ω,ak,FH N (by rw[eT];omega) (by rw[eT];omega),ar]
   have Au:=hz (vY hs hb (by rw[hd];exact λx hx=>nomatch hx))
   have e:=vX l K p (keyOf x)
   rw[←y5 Au]at e
   have e2:ye (keyOf x) (K.drop p)=keyOf x::K.drop p:=by rw[hd];rfl
   rw[e2]
   exact fj (λR=>C E R S len ((i+1:Nat):Int)) e
def Kq(E:au)(i:Nat):Prop:=dG (dg (i:Int) E).sum 0
instance(E:au):DecidablePred (Kq E):=λi=>by unfold Kq;infer_instance
theorem ac6(N:Nat)(hN:2000000≤N)(K:gY.cX){E:au}(hq:dV E)(hl:E.length≤100000)(a:Nat)(ha:a<6):
  gY.l6 N K N E (a:Int) [] (a:Int) E (E.length:Int) 0=if(dg (a:Int) E).sum=0 then K E ((a+1:Nat):Int)else some false:=by
 have:=nH E ba (λn j ws=>gY.l6 N K n E (a:Int) (ws.map cN) (a:Int) E (E.length:Int) j)
  (λt ws=>if(ws++dg (a:Int) t).sum=0 then K E ((a+1:Nat):Int)else some false)
  (λj (ws:List Int)=>ws.length≤j∧ ∀x∈ws,aF x)
  (λn j ws hj hI hr=> ?_) (λn ws hI=> ?_) E.length N 0 [] ω ω ω ⟨aH _,λx hx=>nomatch hx⟩
 ·rw[show((0:Nat):Int)=0 from rfl,cQ]at this
  exact this
 ·unfold gY.l6 gY.uU
  have nh:=vS hq j
  have jy:=nh
  unfold aF dJ at jy
  rw[aR ω,ak,aW ω ω,ak,aI,vO N jy.1 jy.2,ar,bS (by rw[cD,aK];omega),ak,aw (x:=(j:Int)+1) ω ω,af j,aL]
  by_cases h1:(E.getD j ba).2.1=(a:Int)
  ·have hc:dg (a:Int) (E.getD j ba::E.drop (j+1))=dJ (E.getD j ba)::dg (a:Int) (E.drop (j+1)):=by rw[dx,aj h1]
   rw[aj h1,hc]
   have:=hr (ws++[dJ (E.getD j ba)]) ⟨by rw[aS,aK];omega,C3 hI.2 nh⟩
   rw[dj]at this
   refine this.trans ?_
   rw[bE];rfl
  ·have hc:dg (a:Int) (E.getD j ba::E.drop (j+1))=dg (a:Int) (E.drop (j+1)):=by rw[dx,ah h1]
   rw[ah h1,hc]
   exact hr ws ⟨ω,hI.2⟩
 ·unfold gY.l6 gY.uU
  rw[aP ω,av,L7 N hI.2 ω ω,ar]
  show _=if(ws++[]).sum=0 then K E ((a+1:Nat):Int)else some false
  rw[cw,bh,av,BO,ar,cond_not,aL,aw (x:=(a:Int)+1) ω ω,af a]
  by_cases h:ws.sum=0
  ·rw[aj h,aj (jz.2 h)]
  ·rw[ah h,ah (λk=>h (jz.1 k))]
theorem Zr(N:Nat)(hN:2000000≤N){E:au}(hq:dV E)(hl:E.length≤100000):gY N E=some (decide (∀j,j<kt→Kq E j)&&true):=by
 unfold gY gY.b
 refine iI (len:=kt) (F:=λn i=>gY.l2 N n E i) (Kq E) (λn i r hi hp hr=> ?_) (λn=> ?_) N (by unfold kt;omega)
 ·unfold gY.l2 gY.fG
  unfold kt at hi
  rw[aR ω,ak,ac6 N hN _ hq hl i hi,hr]
  unfold Kq dG
  rfl
 ·unfold gY.l2 gY.fG
  rw[aP (by unfold kt;omega),av]
structure O6(E:au):Prop where
 place: ∀x∈E,bY x.1 x.2.1
 q: ∀x∈E,aF (dJ x)∧q7 (dJ x)
 len:E.length≤400
 flat: ∀i:Int,(dg i E).sum=0
theorem Kr{x:de}(h:bY x.1 x.2.1):BV (keyOf x):=by
 have h':bY (keyOf x).1 (keyOf x).2:=h
 unfold bY at h'
 unfold BV Jw
 omega
theorem gU{l:au}{k:dh}(h:k∉l.map keyOf):cO k.1 k.2 l=0:=ln λx hx e=>h (by
 have:keyOf x=k:=iC e.1 e.2
 rw[←this];exact fh hx)
theorem Wz(N:Nat)(hN:2000000≤N){l E:au}(hq:dV E)(hE:E.length≤400)(hp: ∀x∈E,BV (keyOf x))(hs:sE (l.map keyOf))(hl:l.length≤90000)(T3:dV l)(Nl: ∀x∈l,BV (keyOf x)):
  cJ.mq N N E l E (E.length:Int) 0=vU (dL Fq (fS l E) (ox (l.map keyOf) E)):=by
 have:=nH E ba (λn i K=>cJ.mq N n E (rowsOf l K) E (E.length:Int) i) (λt K=>vU (dL Fq (fS l E) (ox K t)))
  (λi (K:List dh)=>K.length≤l.length+i∧sE K∧(∀k∈K,BV k)∧ ∀x∈l,keyOf x∈K)
  (λn i K hi hI hr=> ?_) (λn K hI=> ?_) E.length N 0 (l.map keyOf) ω ω ω ⟨by rw[cD];omega,hs,λk hk=>by
   obtain⟨x,hx,rfl⟩:=cV.1 hk
   exact Nl x hx,λx hx=>fh hx⟩
 ·rw[show((0:Nat):Int)=0 from rfl,cQ]at this
  simp only[nB hs]at this
  exact this
 ·unfold cJ.mq cJ.lq
  obtain⟨h1,h2,h3,h4⟩:=hI
  have hm:E.getD i ba∈E:=by
   rw[aV,bo hi];exact dO hi
  rw[aR ω,ak,aW ω ω,ak,aI]
  refine(ai8 N _ h2 ω h3 (E.getD i ba) (hp _ hm) (λhk=>gU λhx=>hk (by
   obtain⟨x,hx,e⟩:=cV.1 hx
   rw[←e];exact h4 x hx)) (E.length:Int) i ω K.length N 0 ω ω ω (λy hy=>nomatch hy)).trans ?_
  rw[my,cM,cQ,tR]
  refine hr (ye (keyOf (E.getD i ba)) K) ⟨cv (Ht _ K) ω,BT h2,λk hk=>(sF.1 hk).elim (λe=>e▸hp _ hm) (h3 k),λx hx=>sF.2 (Or.inr (h4 x hx))⟩
 ·unfold cJ.mq cJ.lq
  obtain⟨h1,h2,h3,h4⟩:=hI
  rw[aP ω,av,eT,c9 ω ω ω,ak]
  have:=Wy N hN (l:=l) (R:=rowsOf l K) hq ω (by rw[eT];omega) (λr hr=>by
   unfold rowsOf at hr
   obtain⟨k,hk,rfl⟩:=cV.1 hr
   refine⟨?_,rfl⟩
   show aF (cO k.1 k.2 l)
   by_cases hkl:k∈l.map keyOf
   ·have e:rowsOf l (l.map keyOf)=l:=nB hs
    have hm:E4 l k∈rowsOf l (l.map keyOf):=fh hkl
    rw[e]at hm
    exact T3 (E4 l k) hm
   ·rw[gU hkl];exact⟨δ,δ⟩)
  rw[Ei,eT]at this
  exact this
theorem dM{l:au}(h:c6 l=true):sE (l.map keyOf)∧(∀x∈l,bY x.1 x.2.1∧q7 (dJ x)):=by
 unfold c6 at h
 rw[fA]at h
 have h':=bt h
 have get: ∀(i:Nat) (hi:i<l.length),l.getD i ba=l[i]:=λi hi=>by rw[aV,bo hi];rfl
 have Zs: ∀i,i+1<l.length→ur (keyOf (l.getD i ba)) (keyOf (l.getD (i+1) ba)):=λi hi=>(h' (i+1) hi).2.2.2 ω
 have eU: ∀j,j<l.length→ ∀i,i<j→ur (keyOf (l.getD i ba)) (keyOf (l.getD j ba)):=by
  intro j
  induction j with
  |zero=>intro _ i hi;omega
  |succ j ih=>
   intro hj i hi
   by_cases e:i=j
   ·rw[e];exact Zs j hj
   ·exact yY (ih ω i ω) (Zs j hj)
 refine⟨?_,λx hx=> ?_⟩
 ·refine uA.2 (vq.2 λi j hi hj qy=> ?_)
  have:=eU j hj i qy
  rw[get i hi,get j hj]at this
  exact this
 ·obtain⟨i,hi,e⟩:=gE hx
  have:=h' i hi
  unfold mJ m9 at this
  rw[get i hi,e]at this
  exact⟨this.1,this.2.2.1⟩
theorem ac7(N:Nat)(hN:2000000≤N){l E:au}(hk:c6 l=true)(hl:l.length≤90000)(T3:dV l)(g:O6 E):cJ N l E=vU (dL Fq (fS l E) (ox (l.map keyOf) E)):=by
 obtain⟨hs,Nl⟩:=dM hk
 have hE:=g.len
 unfold cJ cJ.b
 rw[xY N ω ω,hk,ar,bh,av,aP ω,av]
 refine Eb E ba (λn i=>cJ.l4 N n l E E (E.length:Int) i) (λ_=>vU (dL Fq (fS l E) (ox (l.map keyOf) E))) (λn i hi hr=> ?_) (λn=> ?_) N ω
 ·unfold cJ.l4 cJ.dU
  have hm:E.getD i ba∈E:=by
   rw[aV,bo hi];exact dO hi
  rw[aR ω,ak,aW ω ω,ak,aI,Ut,aU (g.place _ hm),ar,bh,av,tN,ar,
   aU (show q7 ((E.getD i ba).2.2.1)from(g.q _ hm).2),bh,av,aw (x:=(i:Int)+1) ω ω,af i]
  exact hr
 ·unfold cJ.l4 cJ.dU
  have hf:gY N E=some true:=by
   rw[Zr N hN (λx hx=>(g.q x hx).1) ω,aU (p:= ∀j,j<kt→Kq E j) (λj _=>g.flat (j:Int))];rfl
  rw[aP ω,av,hf,ar,bh,av,vV N ω,ar]
  exact Wz N hN (λx hx=>(g.q x hx).1) hE (λx hx=>Kr (g.place x hx)) hs hl T3 (λx hx=>Kr (Nl x hx).1)
def BX(a b:Nat):Nat→List dh
 |0=>[]
 |m+1=>((a:Int),(b:Int))::BX a (b+1) m
def zI(w a:Nat):Nat→List dh
 |0=>[]
 |m+1=>BX a 0 w++zI w (a+1) m
theorem BY{k:dh}{a:Nat}: ∀{m b:Nat},k∈BX a b m↔k.1=a∧(b:Int)≤k.2∧k.2<(b+m:Nat)
 |0,b=>⟨λh=>(nomatch h),λh=>ω⟩
 |m+1,b=>by
  show k∈((a:Int),(b:Int))::BX a (b+1) m↔_
  rw[a8,BY]
  have:k=((a:Int),(b:Int))↔k.1=a∧k.2=b:=⟨λh=>h▸⟨rfl,rfl⟩,λh=>iC h.1 h.2⟩
  rw[this]
  omega
theorem pf{k:dh}{w:Nat}: ∀{m a:Nat},k∈zI w a m↔(a:Int)≤k.1∧k.1<(a+m:Nat)∧0≤k.2∧k.2<w
 |0,a=>⟨λh=>(nomatch h),λh=>ω⟩
 |m+1,a=>by
  show k∈BX a 0 w++zI w (a+1) m↔_
  rw[bl,BY,pf]
  omega
theorem O7(a:Nat): ∀(m b:Nat),sE (BX a b m)
 |0,b=>List.Pairwise.nil
 |m+1,b=>eP.2 ⟨λk hk=>by
  have:=BY.1 hk
  show(a:Int)<k.1∨((a:Int)=k.1∧(b:Int)<k.2)
  omega,O7 a m (b+1)⟩
theorem lT(w:Nat): ∀(m a:Nat),sE (zI w a m)
 |0,a=>List.Pairwise.nil
 |m+1,a=>xc.2 ⟨O7 a w 0,lT w m (a+1),λx hx y hy=>by
  have h1:=BY.1 hx
  have h2:=pf.1 hy
  show x.1<y.1∨(x.1=y.1∧x.2<y.2)
  omega⟩
structure Mark(l:au)(a b p:Nat):Prop where
 le:p≤l.length
 lo: ∀x∈l.take p,ur (keyOf x) ((a:Int),(b:Int))
 hi: ∀x∈l.drop p,¬ur (keyOf x) ((a:Int),(b:Int))
theorem u5{k:dh}{a b:Nat}:ur k ((a:Int),((b+1:Nat):Int))↔ur k ((a:Int),(b:Int))∨k=((a:Int),(b:Int)):=by
 have:k=((a:Int),(b:Int))↔k.1=a∧k.2=b:=⟨λh=>h▸⟨rfl,rfl⟩,λh=>iC h.1 h.2⟩
 rw[this]
 show(k.1<(a:Int)∨(k.1=(a:Int)∧k.2<((b+1:Nat):Int)))↔(k.1<(a:Int)∨(k.1=(a:Int)∧k.2<(b:Int)))∨_
 omega
theorem Mark.row{l:au}{a w p:Nat}(h:Mark l a w p)(hw: ∀x∈l,0≤(keyOf x).2∧(keyOf x).2<w):Mark l (a+1) 0 p:=by
 have key: ∀x∈l,(ur (keyOf x) ((a:Int),(w:Int))↔ur (keyOf x) (((a+1:Nat):Int),((0:Nat):Int))):=λx hx=>by
  have:=hw x hx
  show((keyOf x).1<(a:Int)∨((keyOf x).1=(a:Int)∧(keyOf x).2<(w:Int)))↔((keyOf x).1<((a+1:Nat):Int)∨((keyOf x).1=((a+1:Nat):Int)∧(keyOf x).2<((0:Nat):Int)))
  omega
 exact⟨h.le,λx hx=>(key x (lH hx)).1 (h.lo x hx),λx hx k=>h.hi x hx ((key x (mQ hx)).2 k)⟩
theorem vT(a b:Int)(l m:au):cO a b (l++m)=cO a b l+cO a b m:=by
 induction l with
 |nil=>rw[cM,u2];omega
 |cons x t ih=>rw[mV,ib,ib,ih];omega
theorem Mark.step{l:au}(hs:sE (l.map keyOf)){a b p:Nat}(h:Mark l a b p):
  (p<l.length∧(l.getD p ba).1=(a:Int)∧(l.getD p ba).2.1=(b:Int)∧cO (a:Int) (b:Int) l=dJ (l.getD p ba)∧Mark l a (b+1) (p+1))∨
  ((p<l.length→(l.getD p ba).1=(a:Int)→(l.getD p ba).2.1=(b:Int)→False)∧cO (a:Int) (b:Int) l=0∧Mark l a (b+1) p):=by
 have no: ∀{x:de} {k:dh},¬keyOf x=k→ ¬(x.1=k.1∧x.2.1=k.2):=λh e=>h (iC e.1 e.2)
 have hz:cO (a:Int) (b:Int) (l.take p)=0:=ln λx hx e=>by
  have e':keyOf x=((a:Int),(b:Int)):=iC e.1 e.2
  have:=h.lo x hx
  rw[e']at this
  exact ow this
 have JB:cO (a:Int) (b:Int) l=cO (a:Int) (b:Int) (l.drop p):=by
  conv=>lhs;rw[←gL p l]
  rw[vT,hz];omega
 by_cases hp:p<l.length
 ·have hd:=drop_cons hp ba
  have hsd:sE ((l.drop p).map keyOf):=by
   rw[List.map_drop];exact uz (List.drop_sublist ..) hs
  have JZ:=h.hi
  rw[hd]at hsd JZ JB
  have hgt:=(eP.1 hsd).1
  have YI:=JZ _ (bq ..)
  have aqm:l.take (p+1)=l.take p++[l.getD p ba]:=by
   rw[←tB hp,aV,bo hp];rfl
  by_cases he:keyOf (l.getD p ba)=((a:Int),(b:Int))
  ·refine Or.inl ⟨hp,fj Prod.fst he,fj Prod.snd he,?_,ω,λx hx=> ?_,λx hx hk=> ?_⟩
   ·rw[JB,ib,aj ⟨fj Prod.fst he,fj Prod.snd he⟩,ln λx hx e=> ?_]
    ·omega
    ·have hg:=hgt (keyOf x) (fh hx)
     have e':keyOf x=((a:Int),(b:Int)):=iC e.1 e.2
     rw[he,e']at hg
     exact ow hg
   ·rw[aqm]at hx
    rcases bl.1 hx with hx|hx
    ·exact u5.2 (Or.inl (h.lo x hx))
    ·rw[cr.1 hx];exact u5.2 (Or.inr he)
   ·have hg:=hgt (keyOf x) (fh hx)
    rw[he]at hg
    rcases u5.1 hk with hk|hk
    ·exact Km hg hk
    ·rw[hk]at hg;exact ow hg
  ·have iQ: ∀x∈l.getD p ba::l.drop (p+1),keyOf x≠((a:Int),(b:Int)):=λx hx e=>by
    rcases a8.1 hx with rfl|hx
    ·exact he e
    ·have hg:=hgt (keyOf x) (fh hx)
     rw[e]at hg
     exact YI hg
   refine Or.inr ⟨λ_ e1 e2=>he (iC e1 e2),?_,h.le,λx hx=>u5.2 (Or.inl (h.lo x hx)),λx hx hk=> ?_⟩
   ·rw[JB]
    exact ln λx hx=>no (iQ x hx)
   ·rw[hd]at hx
    rcases u5.1 hk with hk|hk
    ·exact JZ x hx hk
    ·exact iQ x hx hk
 ·have hd:l.drop p=[]:=xb ω
  refine Or.inr ⟨λh=>absurd h hp,by rw[JB,hd];rfl,h.le,λx hx=>u5.2 (Or.inl (h.lo x hx)),λx hx=> ?_⟩
  rw[hd]at hx;nomatch hx
def wX(out:au)(r:Option au):Option (au×Bool):=some (match r with|some o=>(out++o,true)|none=>([],false))
theorem Me(N:Nat)(v:Int):SN N (dz v)=some (if Fq v then(v,true)else(0,false)):=by
 unfold SN
 rw[uq,ar]
 by_cases h:aF v
 ·rw[vW h]
  dsimp only
  rw[bh,av,aL]
  by_cases h2:q7 v
  ·rw[ah (show ¬v= -9223372036854775808 from h2),aj (show Fq v from⟨h,h2⟩)]
  ·rw[aj (show v= -9223372036854775808 by unfold q7 at h2;omega),ah (λh=>h2 h.2)]
 ·rw[yZ h,ah (λk=>h k.1)]
  rfl
theorem Zt(N:Nat)(hN:4000000≤N)(C4:cP.bO)(C7:cP.eZ){l E out:au}(hq:dV E)(hl:E.length≤100000)(ho:out.length≤1000000)(p:Int)(a b:Nat)(hb:b≤1000000)(q:Int)(hF:Fq q):
  cP.Ks N C4 C7 N l E out p (a:Int) (b:Int) q false (false,(([]:List Int),())) 0=
   if Fq (q+cO (a:Int) (b:Int) E)then C7 l E (if q+cO (a:Int) (b:Int) E=0 then out else out++[((a:Int),((b:Int),(q+cO (a:Int) (b:Int) E,())))]) p (a:Int) ((b+1:Nat):Int)else some ([],false):=by
 have:=nH E ba (λn j ws=>cP.Ks N C4 C7 n l E out p (a:Int) (b:Int) q (!ws.isEmpty) (dz ws.sum) j)
  (λt ws=>if Fq (q+(ws++dD (a:Int) (b:Int) t).sum)then C7 l E (if q+(ws++dD (a:Int) (b:Int) t).sum=0 then out else out++[((a:Int),((b:Int),(q+(ws++dD (a:Int) (b:Int) t).sum,())))]) p (a:Int) ((b+1:Nat):Int)else some ([],false))
  (λj (ws:List Int)=>ws.length≤j∧ ∀x∈ws,aF x)
  (λn j ws hj hI eQ=> ?_) (λn ws hI=> ?_) E.length N 0 [] ω ω ω ⟨aH _,λx hx=>nomatch hx⟩
 ·rw[show((0:Nat):Int)=0 from rfl,cQ,jm,lQ]at this
  exact this
 ·unfold cP.Ks cP.JC
  have nh:=vS hq j
  have jy:=nh
  unfold aF dJ at jy
  have hb:=OZ hI.2
  rw[aR ω,ak,aW ω ω,ak,ak,ak,aI,dC N ω jy.1 jy.2,ar,kF N ω ((BF (n:=ws.length) ω hb.1 hb.2).mono ω) ((Fit.i64 jy.1 jy.2).mono ω),ar,aw (x:=(j:Int)+1) ω ω,af j,aL,aL]
  by_cases h1:(E.getD j ba).1=(a:Int)
  ·by_cases h2:(E.getD j ba).2.1=(b:Int)
   ·have hc:dD (a:Int) (b:Int) (E.getD j ba::E.drop (j+1))=dJ (E.getD j ba)::dD (a:Int) (b:Int) (E.drop (j+1)):=by rw[ff,aj ⟨h1,h2⟩]
    rw[aj h1,aj h2,hc]
    have:=eQ (ws++[dJ (E.getD j ba)]) ⟨by rw[aS,aK];omega,C3 hI.2 nh⟩
    rw[nS,cE,jm,jN,bE]at this
    refine Eq.trans ?_ this
    rw[show(!(ws++[dJ (E.getD j ba)]).isEmpty)=true by cases ws<;>rfl]
    rfl
   ·have hc:dD (a:Int) (b:Int) (E.getD j ba::E.drop (j+1))=dD (a:Int) (b:Int) (E.drop (j+1)):=by rw[ff,ah (λh=>h2 h.2)]
    rw[aj h1,ah h2,hc]
    exact eQ ws ⟨ω,hI.2⟩
  ·have hc:dD (a:Int) (b:Int) (E.getD j ba::E.drop (j+1))=dD (a:Int) (b:Int) (E.drop (j+1)):=by rw[ff,ah (λh=>h1 h.1)]
   rw[ah h1,hc]
   exact eQ ws ⟨ω,hI.2⟩
 ·unfold cP.Ks cP.JC
  have hs:=OZ hI.2
  have Uv:=hF.1
  unfold aF at Uv
  rw[aP ω,av,dC N ω Uv.1 Uv.2,ar,kF N ω ((BF (n:=ws.length) ω hs.1 hs.2).mono ω) ((Fit.i64 Uv.1 Uv.2).mono ω),ar,Me,ar,aw (x:=(b:Int)+1) ω ω,af b,bS (by rw[aK];omega),ak,bS (by rw[aK];omega),ak,cond_not]
  show _=if Fq (q+(ws++[]).sum)then C7 l E (if q+(ws++[]).sum=0 then out else out++[((a:Int),((b:Int),(q+(ws++[]).sum,())))]) p (a:Int) ((b+1:Nat):Int)else some ([],false)
  rw[cw,Int.add_comm ws.sum q]
  cases ws with
  |nil=>
   show cond (!aN q 0) _ _=_
   rw[cond_not,aL,jm,jN,aj hF]
   by_cases h:q=0
   ·rw[aj h,aj h]
   ·rw[ah h,ah h]
  |cons w ws=>
   show cond (!(if Fq (q+(w::ws).sum)then(q+(w::ws).sum,true)else(0,false)).2) _ _=_
   by_cases h2:Fq (q+(w::ws).sum)
   ·rw[aj h2,aj h2]
    dsimp only
    rw[bh,av,cond_not,aL]
    by_cases h:q+(w::ws).sum=0
    ·rw[aj h,aj h]
    ·rw[ah h,ah h]
   ·rw[ah h2,ah h2];rfl
theorem Kt{P:Int→Prop} [DecidablePred P]{f:Int→Int→Int}{k:dh}{K:List dh}{out:au}{v:Int}(hv:f k.1 k.2=v):
  (if P v then wX (if v=0 then out else out++[(k.1,(k.2,(v,())))]) (dL P f K)else some ([],false))=wX out (dL P f (k::K)):=by
 rw[ix,hv]
 by_cases h:P v
 ·rw[aj h,aj h]
  cases dL P f K with
  |none=>rfl
  |some o=>
   show some ((if v=0 then out else out++[(k.1,(k.2,(v,())))])++o,true)=some (out++(if v=0 then o else(k.1,(k.2,(v,())))::o),true)
   by_cases h0:v=0
   ·rw[aj h0,aj h0]
   ·rw[ah h0,ah h0,bE];rfl
 ·rw[ah h,ah h];rfl
theorem aqn{l:au}(hs:sE (l.map keyOf))(hl: ∀x∈l,Fq (dJ x))(k:dh):Fq (cO k.1 k.2 l):=by
 by_cases hk:k∈l.map keyOf
 ·have hm:E4 l k∈rowsOf l (l.map keyOf):=fh hk
  rw[nB hs]at hm
  exact hl (E4 l k) hm
 ·rw[gU hk];exact⟨⟨δ,δ⟩,δ⟩
theorem Ku(N:Nat)(hN:4000000≤N)(C:cP.bO){l E:au}(hq:dV E)(hl:E.length≤100000)(hs:sE (l.map keyOf))(I3:l.length≤100000)(hf: ∀x∈l,Fq (dJ x))(hw: ∀x∈l,0≤(keyOf x).2∧(keyOf x).2<(6:Nat))(a:Nat)(ha:a≤24)(G:List dh)
  (hc: ∀(p:Nat) (out:au),Mark l (a+1) 0 p→out.length≤6*(a+1)→C l E out (p:Int) ((a+1:Nat):Int)=wX out (dL Fq (fS l E) G)):
  ∀(m n b p:Nat) (out:au),b+m=6→m<n→Mark l a b p→out.length≤6*a+b→cP.l7 N C n l E out (p:Int) (a:Int) (b:Int)=wX out (dL Fq (fS l E) (BX a b m++G))
 |m,0,b,p,out,_,hn,_,_=>ω
 |0,n+1,b,p,out,hb,_,hM,ho=>by
  have e:b=6:=ω
  subst e
  unfold cP.l7 cP.oP
  rw[aP ω,av,aw (x:=(a:Int)+1) ω ω,af a]
  exact hc p out (hM.row hw) ω
 |m+1,n+1,b,p,out,hb,hn,hM,ho=>by
  have hp:=hM.le
  have ak0: ∀(p:Nat) (v:Int),Mark l a (b+1) p→cP.l7 N C n l E (if v=0 then out else out++[((a:Int),((b:Int),(v,())))]) (p:Int) (a:Int) ((b+1:Nat):Int)=wX (if v=0 then out else out++[((a:Int),((b:Int),(v,())))]) (dL Fq (fS l E) (BX a (b+1) m++G)):=λp v h=>
   Ku N hN C hq hl hs I3 hf hw a ha G hc m n (b+1) p _ ω ω h (by
    split
    ·omega
    ·rw[aS,aK];omega)
  have wT:=aqn hs hf ((a:Int),(b:Int))
  unfold cP.l7 cP.oP cP.UD cP.Mf
  show _=wX out (dL Fq (fS l E) (((a:Int),(b:Int))::(BX a (b+1) m++G)))
  rw[aR (x:=(b:Int)) ω,ak,cy,aL,aL,aI]
  have fin: ∀(p:Nat) (q:Int),q=cO (a:Int) (b:Int) l→Mark l a (b+1) p→cP.Ks N C (cP.l7 N C n) N l E out (p:Int) (a:Int) (b:Int) q false (false,(([]:List Int),())) 0=wX out (dL Fq (fS l E) (((a:Int),(b:Int))::(BX a (b+1) m++G))):=λp q e h=>by
   subst e
   rw[Zt N hN C _ hq hl ω (p:Int) a b ω _ wT,ak0 p _ h]
   exact Kt (k:=((a:Int),(b:Int))) rfl
  rcases hM.step hs with⟨h1,h2,h3,h4,h5⟩|⟨h1,h2,h3⟩
  ·rw[aj (show(p:Int)<(l.length:Int)by omega),aW ω ω,ak,ak,aj h2,aj h3,aw (x:=(p:Int)+1) ω ω,af p,ak]
   exact fin (p+1) _ h4.symm h5
  ·by_cases g1:p<l.length
   ·rw[aj (show(p:Int)<(l.length:Int)by omega),aW ω ω,ak,ak]
    by_cases g2:(l.getD p ba).1=(a:Int)
    ·rw[aj g2,ah (λg3=>h1 g1 g2 g3)]
     exact fin p _ h2.symm h3
    ·rw[ah g2]
     exact fin p _ h2.symm h3
   ·rw[ah (show ¬(p:Int)<(l.length:Int)by omega)]
    exact fin p _ h2.symm h3
theorem Kv(N:Nat)(hN:4000000≤N){l E:au}(hq:dV E)(hl:E.length≤100000)(hs:sE (l.map keyOf))(I3:l.length≤100000)(hf: ∀x∈l,Fq (dJ x))(hw: ∀x∈l,0≤(keyOf x).2∧(keyOf x).2<(6:Nat)):
  ∀(m n a p:Nat) (out:au),a+m=25→m<n→Mark l a 0 p→out.length≤6*a→cP.l4 N n l E out (p:Int) (a:Int)=wX out (dL Fq (fS l E) (zI 6 a m))
 |m,0,a,p,out,_,hn,_,_=>ω
 |0,n+1,a,p,out,ha,_,hM,ho=>by
  unfold cP.l4 cP.dU
  rw[fF ω,av]
  show some (out,true)=some (out++[],true)
  rw[cw]
 |m+1,n+1,a,p,out,ha,hn,hM,ho=>by
  unfold cP.l4 cP.dU
  rw[fM ω,ak]
  exact Ku N hN _ hq hl hs I3 hf hw a ω (zI 6 (a+1) m) (λp out h ho=>Kv N hN hq hl hs I3 hf hw m n (a+1) p out ω ω h ho) 6 N 0 p out ω ω hM ω
def iW:List dh:=zI 6 0 25
theorem Hv(N:Nat)(hN:4000000≤N){l E:au}(hk:c6 l=true)(hl:l.length≤90000)(T3:dV l)(hq:dV E)(hE:E.length≤100000):cP N l E=wX [] (dL Fq (fS l E) iW):=by
 obtain⟨hs,Nl⟩:=dM hk
 unfold cP cP.b
 refine Kv N hN hq hE hs ω (λx hx=>⟨T3 x hx,(Nl x hx).2⟩) (λx hx=> ?_) 25 N 0 0 [] ω ω ⟨ω,λx hx=>(nomatch hx),λx hx eU=> ?_⟩ (by simp)
 ·have h:bY (keyOf x).1 (keyOf x).2:=(Nl x hx).1
  unfold bY at h;omega
 ·have h:bY (keyOf x).1 (keyOf x).2:=(Nl x (mQ hx)).1
  unfold bY at h
  have xJ:(keyOf x).1<((0:Nat):Int)∨((keyOf x).1=((0:Nat):Int)∧(keyOf x).2<((0:Nat):Int)):=eU
  omega
theorem Kw{l E:au}(hk:c6 l=true)(hp: ∀x∈E,bY x.1 x.2.1):dL Fq (fS l E) (ox (l.map keyOf) E)=dL Fq (fS l E) iW:=by
 obtain⟨hs,Nl⟩:=dM hk
 refine O4 ⟨⟨δ,δ⟩,δ⟩ (Aj hs) (lT 6 25 0) (λk hk=> ?_) (λk hk hn=> ?_)
 ·have:bY k.1 k.2:=by
   rcases ni.1 hk with h|⟨x,hx,rfl⟩
   ·obtain⟨x,hx,rfl⟩:=cV.1 h
    exact(Nl x hx).1
   ·exact hp x hx
  unfold bY at this
  exact pf.2 ω
 ·have h1:k∉l.map keyOf:=λh=>hn (ni.2 (Or.inl h))
  have h2:k∉E.map keyOf:=λh=>by
   obtain⟨x,hx,e⟩:=cV.1 h
   exact hn (ni.2 (Or.inr ⟨x,hx,e⟩))
  unfold fS
  rw[gU h1,gU h2];rfl
def Hw(E:au):Prop:= ∀x∈E,cT (dJ x)
def iJ(r:de):tS:=(r.1,(r.2.1,(cN (dJ r),())))
theorem Mg(E:au)(i:Nat):(E.map iJ).getD i ((0:Int),((0:Int),(da,())))=iJ (E.getD i ba):=by
 by_cases h:i<E.length
 ·rw[aV,nT,bo h,aV,bo h];rfl
 ·rw[aV,ig (by rw[cD];omega),aV,ig ω];rfl
theorem Mh{l:au}(h:Hw l)(i:Nat):cT (dJ (l.getD i ba)):=by
 by_cases hi:i<l.length
 ·rw[aV,bo hi];exact h _ (dO hi)
 ·rw[aV,ig ω];exact⟨δ,δ⟩
theorem Hy{x:Int}(h:aF x):cT x:=by unfold aF at h;unfold cT;omega
theorem vZ{ws:List Int}{x:Int}(h: ∀y∈ws,cT y)(hx:cT x): ∀y∈ws++[x],cT y:=λy hy=>by
 rcases bl.1 hy with hy|hy
 ·exact h y hy
 ·rw[cr.1 hy];exact hx
theorem Zu(N:Nat){l:au}:ak1 N l=some l:=O5 N
theorem Zv(N:Nat)(hN:2000000≤N)(K:cK.Kx){E out R:au}(hq:Hw E)(hl:E.length≤100000)(ho:out.length≤1000000)(r:de)(hr:aF (dJ r))(i:Nat)(hi:i≤1000000):
  cK.O8 N K N (E.map iJ) out r [cN (dJ r)] R (R.length:Int) (i:Int) (E.map iJ) ((E.map iJ).length:Int) 0=
   if aF (dJ r+cO r.1 r.2.1 E)then K (E.map iJ) (if dJ r+cO r.1 r.2.1 E=0 then out else out++[(r.1,(r.2.1,(dJ r+cO r.1 r.2.1 E,())))]) R (R.length:Int) ((i+1:Nat):Int)else some (bn,(2:Int)):=by
 have:=nH E ba (λn j ws=>cK.O8 N K n (E.map iJ) out r (ws.map cN) R (R.length:Int) (i:Int) (E.map iJ) ((E.map iJ).length:Int) j)
  (λt ws=>if aF (ws++dD r.1 r.2.1 t).sum then K (E.map iJ) (if(ws++dD r.1 r.2.1 t).sum=0 then out else out++[(r.1,(r.2.1,((ws++dD r.1 r.2.1 t).sum,())))]) R (R.length:Int) ((i+1:Nat):Int)else some (bn,(2:Int)))
  (λj (ws:List Int)=>ws.length≤j+1∧ ∀x∈ws,cT x)
  (λn j ws hj hI eQ=> ?_) (λn ws hI=> ?_) E.length N 0 [dJ r] ω ω ω ⟨aH _,λx hx=>by rw[cr.1 hx];exact Hy hr⟩
 ·rw[show((0:Nat):Int)=0 from rfl,cQ]at this
  refine this.trans ?_
  have e:([dJ r]++dD r.1 r.2.1 E).sum=dJ r+cO r.1 r.2.1 E:=by rw[F4,cE];rfl
  rw[e]
 ·unfold cK.O8 cK.Mi
  rw[aR (by rw[cD];omega),ak,aW ω (by rw[cD];omega),ak,aI,Mg,bS (by rw[cD,aK];omega),ak,aw (x:=(j:Int)+1) ω ω,af j,aL,aL]
  by_cases h1:(E.getD j ba).1=r.1
  ·by_cases h2:(E.getD j ba).2.1=r.2.1
   ·have hc:dD r.1 r.2.1 (E.getD j ba::E.drop (j+1))=dJ (E.getD j ba)::dD r.1 r.2.1 (E.drop (j+1)):=by rw[ff,aj ⟨h1,h2⟩]
    rw[aj (show(iJ (E.getD j ba)).1=r.1 from h1),aj (show(iJ (E.getD j ba)).2.1=r.2.1 from h2),hc]
    have:=eQ (ws++[dJ (E.getD j ba)]) ⟨by rw[aS,aK];omega,vZ hI.2 (Mh hq j)⟩
    rw[dj]at this
    refine this.trans ?_
    rw[bE];rfl
   ·have hc:dD r.1 r.2.1 (E.getD j ba::E.drop (j+1))=dD r.1 r.2.1 (E.drop (j+1)):=by rw[ff,ah (λh=>h2 h.2)]
    rw[aj (show(iJ (E.getD j ba)).1=r.1 from h1),ah (show ¬(iJ (E.getD j ba)).2.1=r.2.1 from h2),hc]
    exact eQ ws ⟨ω,hI.2⟩
  ·have hc:dD r.1 r.2.1 (E.getD j ba::E.drop (j+1))=dD r.1 r.2.1 (E.drop (j+1)):=by rw[ff,ah (λh=>h1 h.1)]
   rw[ah (show ¬(iJ (E.getD j ba)).1=r.1 from h1),hc]
   exact eQ ws ⟨ω,hI.2⟩
 ·unfold cK.O8 cK.Mi
  rw[aP (by rw[cD];omega),av,FE N hI.2 ω ω,ar]
  show _=if aF (ws++[]).sum then K (E.map iJ) (if(ws++[]).sum=0 then out else out++[(r.1,(r.2.1,((ws++[]).sum,())))]) R (R.length:Int) ((i+1:Nat):Int)else some (bn,(2:Int))
  rw[cw]
  unfold OV
  by_cases h0:cT ws.sum
  ·rw[aj h0]
   dsimp only
   rw[Hu N h0,ar,bh,av]
   by_cases h1:aF ws.sum
   ·rw[vW h1]
    dsimp only
    rw[bh,av,cond_not,aL,bS (by rw[aK];omega),ak,aw (x:=(i:Int)+1) ω ω,af i,aj h1]
    split<;>rfl
   ·rw[yZ h1,ah h1]
    rfl
  ·rw[ah h0,ah (λh=>h0 (Hy h))]
   have e:F92 N da=some (CO 0):=Hu N (v:=0) ⟨δ,δ⟩
   dsimp only
   rw[e,ar]
   rfl
theorem WA(N:Nat)(hN:2000000≤N){l E R:au}(hq:Hw E)(hl:E.length≤100000)(hR:R.length≤200000)(hv: ∀r∈R,aF (dJ r)∧dJ r=cO r.1 r.2.1 l):
  cK.l26 N N (E.map iJ) [] R (R.length:Int) 0=vU (dL aF (fS l E) (R.map keyOf)):=by
 have:=nH R ba (λn i out=>cK.l26 N n (E.map iJ) out R (R.length:Int) i) (λt out=>vU ((dL aF (fS l E) (t.map keyOf)).map (λo=>out++o))) (λi (out:au)=>out.length≤i)
  (λn i out hi hI hr=> ?_) (λn out hI=> ?_) R.length N 0 [] ω ω ω (aH _)
 ·rw[show((0:Nat):Int)=0 from rfl,cQ]at this
  refine this.trans ?_
  simp
 ·unfold cK.l26 cK.ac9
  have hm:R.getD i ba∈R:=by
   rw[aV,bo hi];exact dO hi
  have RU:=hv _ hm
  have nh:=RU.1
  have jy:=nh
  unfold aF dJ at jy
  rw[aR ω,ak,aW ω ω,ak,aI,vO N jy.1 jy.2,ar]
  refine(Zv N hN _ hq hl ω _ nh i ω).trans ?_
  rw[bQ,ix]
  have ef:fS l E (keyOf (R.getD i ba)).1 (keyOf (R.getD i ba)).2=dJ (R.getD i ba)+cO (R.getD i ba).1 (R.getD i ba).2.1 E:=by
   show cO _ _ l+cO _ _ E=_
   rw[RU.2];rfl
  rw[ef]
  generalize hS:dJ (R.getD i ba)+cO (R.getD i ba).1 (R.getD i ba).2.1 E=v
  by_cases hF:aF v
  ·rw[aj hF,aj hF,hr _ (by
    split
    ·omega
    ·rw[aS,aK];omega)]
   cases dL aF (fS l E) ((R.drop (i+1)).map keyOf)with
   |none=>rfl
   |some o=>
    show vU (some _)=vU (some _)
    congr 2
    split
    ·rfl
    ·exact bE _ _ _
  ·rw[ah hF,ah hF];rfl
 ·unfold cK.l26 cK.ac9
  rw[aP ω,av,Zu,ar]
  show _=vU (some (out++[]))
  rw[cw];rfl
theorem ai9(N:Nat)(C:cK.nC){l:au}{E S:c7}{K:List dh}(hs:sE K)(hl:K.length≤100000)(hf: ∀k∈K,BV k)(x:tS)(k:dh)(hxk:(x.1,x.2.1)=k)(hx:BV k)(hz:zeroAt l K k)(len:Int)(i:Nat)(hi:i≤1000000):
  ∀(m n p:Nat),K.length-p≤m→m<n→p≤K.length→(∀y∈K.take p,ur y k)→
   cK.WB N C n E (rowsOf l K) x (p:Int) S len (i:Int)=C E (rowsOf l (K.take p++ye k (K.drop p))) S len ((i+1:Nat):Int)
 |m,0,p,_,hn,_,_=>ω
 |m,n+1,p,hm,hn,hp,hb=>by
  unfold cK.WB cK.SO cK.j21 cK.ak2
  rw[eT,aw (x:=(i:Int)+1) ω ω,af i]
  have ex:((x.1,(x.2.1,((0:Int),()))):de)=(k.1,(k.2,((0:Int),()))):=by rw[←hxk]
  by_cases h:p<K.length
  ·have hfk:=hf (K.getD p (0,0)) (by rw[aV,bo h];exact dO h)
   have ho:Sy N x.1 x.2.1 ((rowsOf l K).getD p ba)=some (CP k.1 k.2 (K.getD p (0,0)).1 (K.getD p (0,0)).2):=by
    rw[Kp l h]
    rw[←hxk]at hx ⊢
    exact Hj N hx.1 hx.2 hfk.1 hfk.2
   rw[aR ω,ak,aW ω ω,ak,aI,ho,ar,eR (x:=(p:Int)) ω,av,ak,ar,cy,cond_not,aL,UB h]
   by_cases h1:ur (K.getD p (0,0)) k
   ·rw[aj (BU.2 h1),aj h1,aw (x:=(p:Int)+1) ω ω,af p,BW h]
    refine ai9 N C hs hl hf x k hxk hx hz len i hi (m-1) n (p+1) ω ω ω λy hy=> ?_
    rw[←tB h]at hy
    rcases bl.1 hy with hy|hy
    ·exact hb y hy
    ·rw[aV,bo h]at h1
     rw[cr.1 hy];exact h1
   ·rw[ah (λh=>h1 (BU.1 h)),ah h1]
    by_cases h2:K.getD p (0,0)=k
    ·rw[aj (y4.2 h2),aj h2,gL]
    ·rw[ah (λh=>h2 (y4.1 h)),ah h2,FH N (by rw[eT];omega) (by rw[eT];omega),ar]
     have Au:=hz (vY hs hb (UC hs h h1 h2))
     have e:=vX l K p k
     rw[←y5 Au]at e
     refine Eq.trans ?_ (fj (λR=>C E R S len ((i+1:Nat):Int)) e)
     exact fj (λz:de=>C E ((rowsOf l K).take p++z::(rowsOf l K).drop p) S len ((i+1:Nat):Int)) ex
  ·have hd:K.drop p=[]:=xb ω
   rw[aP ω,av,dZ ω,ak,FH N (by rw[eT];omega) (by rw[eT];omega),ar]
   have Au:=hz (vY hs hb (by rw[hd];exact λx hx=>nomatch hx))
   have e:=vX l K p k
   rw[←y5 Au]at e
   have e2:ye k (K.drop p)=k::K.drop p:=by rw[hd];rfl
   rw[e2]
   refine Eq.trans ?_ (fj (λR=>C E R S len ((i+1:Nat):Int)) e)
   exact fj (λz:de=>C E ((rowsOf l K).take p++z::(rowsOf l K).drop p) S len ((i+1:Nat):Int)) ex
theorem WC(N:Nat)(hN:2000000≤N){l E:au}(hq:Hw E)(hE:E.length≤400)(hp: ∀x∈E,BV (keyOf x))(hs:sE (l.map keyOf))(hl:l.length≤90000)(T3:dV l)(Nl: ∀x∈l,BV (keyOf x)):
  cK.yb N N (E.map iJ) l (E.map iJ) ((E.map iJ).length:Int) 0=vU (dL aF (fS l E) (ox (l.map keyOf) E)):=by
 have:=nH E ba (λn i K=>cK.yb N n (E.map iJ) (rowsOf l K) (E.map iJ) ((E.map iJ).length:Int) i) (λt K=>vU (dL aF (fS l E) (ox K t)))
  (λi (K:List dh)=>K.length≤l.length+i∧sE K∧(∀k∈K,BV k)∧ ∀x∈l,keyOf x∈K)
  (λn i K hi hI hr=> ?_) (λn K hI=> ?_) E.length N 0 (l.map keyOf) ω ω ω ⟨by rw[cD];omega,hs,λk hk=>by
   obtain⟨x,hx,rfl⟩:=cV.1 hk
   exact Nl x hx,λx hx=>fh hx⟩
 ·rw[show((0:Nat):Int)=0 from rfl,cQ]at this
  simp only[nB hs]at this
  exact this
 ·unfold cK.yb cK.wV
  obtain⟨h1,h2,h3,h4⟩:=hI
  have hm:E.getD i ba∈E:=by
   rw[aV,bo hi];exact dO hi
  rw[aR (by rw[cD];omega),ak,aW ω (by rw[cD];omega),ak,aI,Mg]
  refine(ai9 N _ h2 ω h3 (iJ (E.getD i ba)) (keyOf (E.getD i ba)) rfl (hp _ hm) (λhk=>gU λhx=>hk (by
   obtain⟨x,hx,e⟩:=cV.1 hx
   rw[←e];exact h4 x hx)) ((E.map iJ).length:Int) i ω K.length N 0 ω ω ω (λy hy=>nomatch hy)).trans ?_
  rw[my,cM,cQ,tR]
  refine hr (ye (keyOf (E.getD i ba)) K) ⟨cv (Ht _ K) ω,BT h2,λk hk=>(sF.1 hk).elim (λe=>e▸hp _ hm) (h3 k),λx hx=>sF.2 (Or.inr (h4 x hx))⟩
 ·unfold cK.yb cK.wV
  obtain⟨h1,h2,h3,h4⟩:=hI
  rw[aP (by rw[cD];omega),av,eT,c9 ω ω ω,ak]
  have:=WA N hN (l:=l) (R:=rowsOf l K) hq ω (by rw[eT];omega) (λr hr=>by
   unfold rowsOf at hr
   obtain⟨k,hk,rfl⟩:=cV.1 hr
   refine⟨?_,rfl⟩
   show aF (cO k.1 k.2 l)
   by_cases hkl:k∈l.map keyOf
   ·have e:rowsOf l (l.map keyOf)=l:=nB hs
    have hm:E4 l k∈rowsOf l (l.map keyOf):=fh hkl
    rw[e]at hm
    exact T3 (E4 l k) hm
   ·rw[gU hkl];exact⟨δ,δ⟩)
  rw[Ei,eT]at this
  exact this
theorem lx{l:au}(h:eK l=true):sE (l.map keyOf)∧(∀x∈l,db x.1 x.2.1):=by
 unfold eK at h
 rw[fA]at h
 have h':=bt h
 have get: ∀(i:Nat) (hi:i<l.length),l.getD i ba=l[i]:=λi hi=>by rw[aV,bo hi];rfl
 have Zs: ∀i,i+1<l.length→ur (keyOf (l.getD i ba)) (keyOf (l.getD (i+1) ba)):=λi hi=>(h' (i+1) hi).2.2 ω
 have eU: ∀j,j<l.length→ ∀i,i<j→ur (keyOf (l.getD i ba)) (keyOf (l.getD j ba)):=by
  intro j
  induction j with
  |zero=>intro _ i hi;omega
  |succ j ih=>
   intro hj i hi
   by_cases e:i=j
   ·rw[e];exact Zs j hj
   ·exact yY (ih ω i ω) (Zs j hj)
 refine⟨?_,λx hx=> ?_⟩
 ·refine uA.2 (vq.2 λi j hi hj qy=> ?_)
  have:=eU j hj i qy
  rw[get i hi,get j hj]at this
  exact this
 ·obtain⟨i,hi,e⟩:=gE hx
  have:=h' i hi
  unfold mI m8 at this
  rw[get i hi,e]at this
  exact this.1
structure O9(E:au):Prop where
 key: ∀x∈E,db x.1 x.2.1
 q:Hw E
 len:E.length≤400
 zero:(E.map dJ).sum=0
theorem UE{x:de}(h:db x.1 x.2.1):BV (keyOf x):=by
 have h':db (keyOf x).1 (keyOf x).2:=h
 unfold db at h'
 unfold BV Jw
 omega
theorem Zw(N:Nat)(hN:2000000≤N){l E:au}(hk:eK l=true)(hl:l.length≤90000)(T3:dV l)(g:O9 E):cK N l (E.map iJ)=vU (dL aF (fS l E) (ox (l.map keyOf) E)):=by
 obtain⟨hs,Nl⟩:=lx hk
 have hE:=g.len
 unfold cK cK.b
 rw[L1 N ω ω,hk,ar,bh,av,aP (by rw[cD];omega),av,c9 ω ω (by rw[cD];omega),ak]
 have:=nH E ba (λn i (ws:List Int)=>cK.l5 N n l (E.map iJ) (ws.map cN) (E.map iJ) ((E.map iJ).length:Int) i)
  (λt ws=>if(ws++t.map dJ).sum=0 then vU (dL aF (fS l E) (ox (l.map keyOf) E))else none)
  (λj (ws:List Int)=>ws.length≤j∧(ws++(E.drop j).map dJ).sum=0∧ ∀x∈ws,cT x)
  (λn i ws hi hI hr=> ?_) (λn ws hI=> ?_) E.length N 0 [] ω ω ω ⟨aH _,g.zero,λx hx=>nomatch hx⟩
 ·rw[show((0:Nat):Int)=0 from rfl,cQ]at this
  refine Eq.trans this ?_
  rw[cM,aj g.zero]
 ·unfold cK.l5 cK.eA
  have hm:E.getD i ba∈E:=by
   rw[aV,bo hi];exact dO hi
  have acz:Sw N (iJ (E.getD i ba)).1 (iJ (E.getD i ba)).2.1=some true:=by
   rw[Sv]
   exact fj some (aU (g.key _ hm))
  rw[aR (by rw[cD];omega),ak,aW ω (by rw[cD];omega),ak,aI,Mg,acz,ar,bh,av,bS (by rw[cD,aK];omega),ak,aw (x:=(i:Int)+1) ω ω,af i]
  have h0:=hI.2.1
  rw[drop_cons hi ba,bQ]at h0
  have:=hr (ws++[dJ (E.getD i ba)]) ⟨by rw[aS,aK];omega,by rw[bE];exact h0,vZ hI.2.2 (Mh g.q i)⟩
  rw[dj]at this
  refine this.trans ?_
  rw[bE];rfl
 ·unfold cK.l5 cK.eA
  have h0:=hI.2.1
  rw[mW,gM,cw]at h0
  rw[aP (by rw[cD];omega),av,FE N hI.2.2 ω ω,ar,h0]
  have e0:OV 0=(cN 0,true):=by unfold OV;exact aj ⟨δ,δ⟩
  rw[e0]
  dsimp only
  rw[bh,av,BO,ar,show w7 0=0 from rfl,dZ rfl,bh,av,vV N ω,ar]
  rw[gM,cw,aj h0]
  exact WC N hN g.q hE (λx hx=>UE (g.key x hx)) hs hl T3 (λx hx=>UE (Nl x hx))
def gG(r:de):ak3:=(r.1,(r.2.1,(dz (dJ r),())))
theorem Zx{E:au}{i:Nat}(h:i<E.length):(E.map gG).getD i ((0:Int),((0:Int),((false,qx),())))=gG (E.getD i ba):=by
 rw[aV,nT,bo h,aV,bo h];rfl
theorem SP{v:Int}{n:Nat}(hn:n≤1000000)(h0: -(170141183460469231731687303715884105728*(n:Int))≤v)(h1:v≤170141183460469231731687303715884105728*(n:Int)):Fit v 900000:=by
 have h5:Fit v 5:=by
  unfold Fit
  rw[show(4294967296:Nat)^5=1461501637330902918203684832716283019655932542976 from rfl]
  omega
 exact h5.mono ω
theorem FI{v:Int}(h:cT v):Fit v 900000:=SP (n:=1) ω (by have:=h.1;omega) (by have:=h.2;omega)
theorem WD(N:Nat)(hN:4000000≤N){E:au}(hq:Hw E)(hl:E.length≤100000)(q a b:Int)(hF:aF q):oy N q a b (E.map gG)=some (CO (q+cO a b E)):=by
 unfold oy oy.b
 have:=nH E ba (λn j ws=>oy.l3 N n q a b (E.map gG) (dz ws.sum) (!ws.isEmpty) j)
  (λt ws=>some (CO (q+(ws++dD a b t).sum)))
  (λj (ws:List Int)=>ws.length≤j∧ ∀x∈ws,cT x)
  (λn j ws hj hI eQ=> ?_) (λn ws hI=> ?_) E.length N 0 [] ω ω ω ⟨aH _,λx hx=>nomatch hx⟩
 ·rw[show((0:Nat):Int)=0 from rfl,cQ,jm,lQ]at this
  exact this
 ·unfold oy.l3 oy.nw
  have ada:=Mh hq j
  have hb:=Su hI.2
  have Bl:BE N (dz ws.sum) (gG (E.getD j ba)).2.2.1=some (dz (ws.sum+dJ (E.getD j ba))):=kF N ω (SP (n:=ws.length) ω hb.1 hb.2) (FI ada)
  rw[aR (by rw[cD];omega),ak,aW ω (by rw[cD];omega),ak,ak,ak,aI,Zx hj,Bl,ar,aw (x:=(j:Int)+1) ω ω,af j,aL,aL]
  by_cases h1:(E.getD j ba).1=a
  ·by_cases h2:(E.getD j ba).2.1=b
   ·have hc:dD a b (E.getD j ba::E.drop (j+1))=dJ (E.getD j ba)::dD a b (E.drop (j+1)):=by rw[ff,aj ⟨h1,h2⟩]
    rw[aj (show(gG (E.getD j ba)).1=a from h1),aj (show(gG (E.getD j ba)).2.1=b from h2),hc]
    have:=eQ (ws++[dJ (E.getD j ba)]) ⟨by rw[aS,aK];omega,vZ hI.2 ada⟩
    rw[nS,cE,jm,jN,bE]at this
    refine Eq.trans ?_ this
    rw[show(!(ws++[dJ (E.getD j ba)]).isEmpty)=true by cases ws<;>rfl]
   ·have hc:dD a b (E.getD j ba::E.drop (j+1))=dD a b (E.drop (j+1)):=by rw[ff,ah (λh=>h2 h.2)]
    rw[aj (show(gG (E.getD j ba)).1=a from h1),ah (show ¬(gG (E.getD j ba)).2.1=b from h2),hc]
    exact eQ ws ⟨ω,hI.2⟩
  ·have hc:dD a b (E.getD j ba::E.drop (j+1))=dD a b (E.drop (j+1)):=by rw[ff,ah (λh=>h1 h.1)]
   rw[ah (show ¬(gG (E.getD j ba)).1=a from h1),hc]
   exact eQ ws ⟨ω,hI.2⟩
 ·unfold oy.l3 oy.nw
  have hs:=Su hI.2
  have Uv:=hF
  unfold aF at Uv
  rw[aP (by rw[cD];omega),av,dC N ω Uv.1 Uv.2,ar,kF N ω (SP (n:=ws.length) ω hs.1 hs.2) ((Fit.i64 Uv.1 Uv.2).mono ω),ar,uq,ar,cond_not]
  show _=some (CO (q+(ws++[]).sum))
  rw[cw,Int.add_comm ws.sum q]
  cases ws with
  |nil=>
   show some (q,true)=some (CO (q+0))
   rw[jN,vW hF]
  |cons w ws=>rfl
theorem adb{l:au}(hs:sE (l.map keyOf))(hl:dV l)(k:dh):aF (cO k.1 k.2 l):=by
 by_cases hk:k∈l.map keyOf
 ·have hm:E4 l k∈rowsOf l (l.map keyOf):=fh hk
  rw[nB hs]at hm
  exact hl (E4 l k) hm
 ·rw[gU hk];exact⟨δ,δ⟩
theorem Pb(N:Nat)(hN:4000000≤N)(C:dS.bO){l E:au}(hq:Hw E)(hl:E.length≤100000)(hs:sE (l.map keyOf))(I3:l.length≤100000)(hf:dV l)(hw: ∀x∈l,0≤(keyOf x).2∧(keyOf x).2<(25:Nat))(a:Nat)(ha:a≤24)(G:List dh)
  (hc: ∀(p:Nat) (out:au),Mark l (a+1) 0 p→out.length≤25*(a+1)→C l (E.map gG) out (p:Int) ((a+1:Nat):Int)=wX out (dL aF (fS l E) G)):
  ∀(m n b p:Nat) (out:au),b+m=25→m<n→Mark l a b p→out.length≤25*a+b→dS.l7 N C n l (E.map gG) out (p:Int) (a:Int) (b:Int)=wX out (dL aF (fS l E) (BX a b m++G))
 |m,0,b,p,out,_,hn,_,_=>ω
 |0,n+1,b,p,out,hb,_,hM,ho=>by
  have e:b=25:=ω
  subst e
  unfold dS.l7 dS.oP
  rw[fF ω,av,aw (x:=(a:Int)+1) ω ω,af a]
  exact hc p out (hM.row hw) ω
 |m+1,n+1,b,p,out,hb,hn,hM,ho=>by
  have hp:=hM.le
  have ak0: ∀(p:Nat) (v:Int),Mark l a (b+1) p→dS.l7 N C n l (E.map gG) (if v=0 then out else out++[((a:Int),((b:Int),(v,())))]) (p:Int) (a:Int) ((b+1:Nat):Int)=wX (if v=0 then out else out++[((a:Int),((b:Int),(v,())))]) (dL aF (fS l E) (BX a (b+1) m++G)):=λp v h=>
   Pb N hN C hq hl hs I3 hf hw a ha G hc m n (b+1) p _ ω ω h (by
    split
    ·omega
    ·rw[aS,aK];omega)
  have wT:=adb hs hf ((a:Int),(b:Int))
  unfold dS.l7 dS.oP
  show _=wX out (dL aF (fS l E) (((a:Int),(b:Int))::(BX a (b+1) m++G)))
  rw[fM (x:=(b:Int)) ω,ak,cy,aL,aL,aI]
  have fin: ∀(p:Nat) (q:Int),q=cO (a:Int) (b:Int) l→Mark l a (b+1) p→dS.UD N C (dS.l7 N C n) l (E.map gG) out (p:Int) (a:Int) (b:Int) q=wX out (dL aF (fS l E) (((a:Int),(b:Int))::(BX a (b+1) m++G))):=λp q e h=>by
   subst e
   unfold dS.UD dS.Mf
   rw[WD N hN hq hl _ _ _ wT,ar]
   refine Eq.trans ?_ (Kt (k:=((a:Int),(b:Int))) (v:=cO (a:Int) (b:Int) l+cO (a:Int) (b:Int) E) rfl)
   generalize cO (a:Int) (b:Int) l+cO (a:Int) (b:Int) E=v
   have hr:=ak0 p v h
   by_cases hv:aF v
   ·rw[vW hv,aj hv]
    dsimp only
    rw[bh,av,cond_not,aL,bS (by rw[aK];omega),ak,aw (x:=(b:Int)+1) ω ω,af b,←hr]
    split<;>rfl
   ·rw[yZ hv,ah hv];rfl
  rcases hM.step hs with⟨h1,h2,h3,h4,h5⟩|⟨h1,h2,h3⟩
  ·rw[aj (show(p:Int)<(l.length:Int)by omega),aW ω ω,ak,ak,aj h2,aj h3,aw (x:=(p:Int)+1) ω ω,af p,ak]
   exact fin (p+1) _ h4.symm h5
  ·by_cases g1:p<l.length
   ·rw[aj (show(p:Int)<(l.length:Int)by omega),aW ω ω,ak,ak]
    by_cases g2:(l.getD p ba).1=(a:Int)
    ·rw[aj g2,ah (λg3=>h1 g1 g2 g3)]
     exact fin p _ h2.symm h3
    ·rw[ah g2]
     exact fin p _ h2.symm h3
   ·rw[ah (show ¬(p:Int)<(l.length:Int)by omega)]
    exact fin p _ h2.symm h3
theorem Pd(N:Nat)(hN:4000000≤N){l E:au}(hq:Hw E)(hl:E.length≤100000)(hs:sE (l.map keyOf))(I3:l.length≤100000)(hf:dV l)(hw: ∀x∈l,0≤(keyOf x).2∧(keyOf x).2<(25:Nat)):
  ∀(m n a p:Nat) (out:au),a+m=8→m<n→Mark l a 0 p→out.length≤25*a→dS.l4 N n l (E.map gG) out (p:Int) (a:Int)=wX out (dL aF (fS l E) (zI 25 a m))
 |m,0,a,p,out,_,hn,_,_=>ω
 |0,n+1,a,p,out,ha,_,hM,ho=>by
  unfold dS.l4 dS.dU
  rw[fF ω,av]
  show some (out,true)=some (out++[],true)
  rw[cw]
 |m+1,n+1,a,p,out,ha,hn,hM,ho=>by
  unfold dS.l4 dS.dU
  rw[fM ω,ak]
  exact Pb N hN _ hq hl hs I3 hf hw a ω (zI 25 (a+1) m) (λp out h ho=>Pd N hN hq hl hs I3 hf hw m n (a+1) p out ω ω h ho) 25 N 0 p out ω ω hM ω
def lY:List dh:=zI 25 1 7
theorem UF(N:Nat)(hN:4000000≤N){l E:au}(hk:eK l=true)(hl:l.length≤90000)(T3:dV l)(hq:Hw E)(hE:E.length≤100000):dS N l (E.map gG)=wX [] (dL aF (fS l E) lY):=by
 obtain⟨hs,Nl⟩:=lx hk
 unfold dS dS.b
 refine Pd N hN hq hE hs ω T3 (λx hx=> ?_) 7 N 1 0 [] ω ω ⟨ω,λx hx=>(nomatch hx),λx hx eU=> ?_⟩ (by simp)
 ·have h:db (keyOf x).1 (keyOf x).2:=Nl x hx
  unfold db at h;omega
 ·have h:db (keyOf x).1 (keyOf x).2:=Nl x (mQ hx)
  unfold db at h
  have xJ:(keyOf x).1<((1:Nat):Int)∨((keyOf x).1=((1:Nat):Int)∧(keyOf x).2<((0:Nat):Int)):=eU
  omega
theorem Pe{l E:au}(hk:eK l=true)(hp: ∀x∈E,db x.1 x.2.1):dL aF (fS l E) (ox (l.map keyOf) E)=dL aF (fS l E) lY:=by
 obtain⟨hs,Nl⟩:=lx hk
 refine O4 ⟨δ,δ⟩ (Aj hs) (lT 25 7 1) (λk hk=> ?_) (λk hk hn=> ?_)
 ·have:db k.1 k.2:=by
   rcases ni.1 hk with h|⟨x,hx,rfl⟩
   ·obtain⟨x,hx,rfl⟩:=cV.1 h
    exact Nl x hx
   ·exact hp x hx
  unfold db at this
  exact pf.2 ω
 ·have h1:k∉l.map keyOf:=λh=>hn (ni.2 (Or.inl h))
  have h2:k∉E.map keyOf:=λh=>by
   obtain⟨x,hx,e⟩:=cV.1 h
   exact hn (ni.2 (Or.inr ⟨x,hx,e⟩))
  unfold fS
  rw[gU h1,gU h2];rfl
def cc(b:an)(s e:au):an×Int:=
 match dL Fq (fS b.2.2.2.1 s) iW with
 |none=>((cf,(cS,(bn,(bn,(dd,(dm,())))))),2)
 |some s'=>match dL aF (fS b.2.2.1 e) lY with
  |none=>((cf,(cS,(bn,(bn,(dd,(dm,())))))),2)
  |some r'=>((b.1,(b.2.1,(r',(s',b.2.2.2.2)))),0)
theorem Pf(N:Nat){b:an}(w:om b):Zy N b=some b:=by
 unfold Zy
 have h1:=w.m;have h2:=w.a;have h3:=w.r;have h4:=w.s;have h5:=w.p;have h6:=w.o
 rw[vV N ω,ar,vV N ω,ar,vV N ω,ar,vV N ω,ar,vV N ω,ar,vV N ω,ar]
end VM
end
