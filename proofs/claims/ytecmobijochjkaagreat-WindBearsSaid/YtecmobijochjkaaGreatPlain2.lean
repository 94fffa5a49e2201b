/- A part of the proof of WindBears of layer 21: what the functions compute, in plain words. -/
import Derived.Test.YtecmobijochjkaaGreatPlain1
set_option linter.all false
section
namespace VM
open Go VM.F
theorem w6(N:Nat)(hN:200000≤N)(c:ae){l:aE}(hl:l.length≤100000):nv N c l=some (kq c l):=by
 unfold nv nv.b
 rw[nn N ω,ar]
 have hsc:=iz (F:=λn i=>nv.l4 N n l c i) (e:=true) (mG c l) (λn i r hi hp hr=> ?_) (λn=> ?_) N (show l.length<N by omega)
 ·rw[pb hsc];unfold kq
  rw[fX,Bool.and_comm]
 ·unfold nv.l4 nv.eK
  rw[aT ω,aq,a6 ω ω,aq,aJ,ay (x:=(i:Int)+1) ω ω,ag,hr]
  by_cases h0:0<i
  ·have e:W .i64 ((i:Int)-1)=((i-1:Nat):Int):=by rw[ay ω ω];omega
   dsimp only
   rw[aT (x:=0) (y:=(i:Int)) ω,e,aJ,a6 (i:=((i-1:Nat):Int)) ω ω]
   simp only[cR,cG,aN,aq]
   by_cases hP:mG c l i
   ·rw[aj hP];unfold mG nu at hP
    rw[ah ω,ah ω,ah hP.2.2.1,ah (show ¬((l.getD i cA).2.1:Int)= -9223372036854775808 from hP.2.2.2.1),ah ω]
   ·rw[ah hP];unfold mG nu at hP
    have h2:=λh1 h2 h3 h4 h5=>hP ⟨h1,h2,h3,h4,h5⟩
    repeat' split
    all_goals first|rfl|(exfalso;exact h2 ω ω (by assumption) (by assumption) ω)
  ·rw[aP (x:=0) (y:=(i:Int)) ω]
   simp only[cR,cG,aN,aq,av]
   by_cases hP:mG c l i
   ·rw[aj hP];unfold mG nu at hP
    rw[ah ω,ah ω,ah hP.2.2.1,ah (show ¬((l.getD i cA).2.1:Int)= -9223372036854775808 from hP.2.2.2.1)]
   ·rw[ah hP];unfold mG nu at hP
    have h2:=λh1 h2 h3 h4 h5=>hP ⟨h1,h2,h3,h4,h5⟩
    repeat' split
    all_goals first|rfl|(exfalso;exact h2 ω ω (by assumption) (by assumption) ω)
 ·unfold nv.l4 nv.eK
  rw[aP ω,av]
end VM
end
section
namespace VM
open Go VM.F
def KA(a b c d:Int):Prop:=(1≤a∧a≤1099511627776)∧(1≤b∧b≤1099511627776)∧(1≤c∧c≤12)∧(-1152921504606846976≤d∧d≤1152921504606846976)
instance(a b c d:Int):Decidable (KA a b c d):=by unfold KA;infer_instance
def IH(x:bM):Prop:=KA x.1 x.2.1 x.2.2.1 x.2.2.2.1
instance(x:bM):Decidable (IH x):=by unfold IH;infer_instance
theorem Se(N:Nat)(x:bM):WK N x=some (decide (IH x)):=by
 unfold WK
 rw[oa x.2.2.2.1]
 repeat rw[gG]
 congr 1
 rw[oV,fg]
 unfold IH KA
 simp only[bQ,vV]
 omega
end VM
end
section
namespace VM
open Go VM.F
def rp(m lot:Int)(x:bM):Bool:=decide (dw x.2.2.1 m)&&decide (dw x.2.1 lot)
end VM
end
section
namespace VM
open Go VM.F
def AB(l:aL)(i:Nat):Prop:=IH (l.getD i aV)∧tQ i (l.getD (i-1) aV).1 (l.getD i aV).1∧(l.take i).any (rp (l.getD i aV).2.2.1 (l.getD i aV).2.1)=false
instance(l:aL):DecidablePred (AB l):=λi=>by unfold AB;infer_instance
def WL(l:aL):Bool:=decide (∀j,j<l.length→AB l j)&&decide (l.length≤40)
end VM
end
section
namespace VM
open Go VM.F
def dd(a b:Int):au→List Int
 |[]=>[]
 |x::t=>if x.1=a∧x.2.1=b then ed x::dd a b t else dd a b t
theorem eM(a b:Int)(x:dh)(t:au):dd a b (x::t)=if x.1=a∧x.2.1=b then ed x::dd a b t else dd a b t:=rfl
def bZ(a b:Int)(l:au):Int:=(dd a b l).sum
theorem tU(a b:Int):bZ a b []=0:=rfl
theorem eX(a b:Int)(x:dh)(t:au):bZ a b (x::t)=(if x.1=a∧x.2.1=b then ed x else 0)+bZ a b t:=by
 unfold bZ
 rw[eM]
 split
 ·rw[cz]
 ·omega
theorem kt{a b:Int}: ∀{l:au},(∀x∈l,¬(x.1=a∧x.2.1=b))→bZ a b l=0
 |[],_=>rfl
 |x::t,h=>by
  rw[eX,ah (h x (bg ..)),kt (λy hy=>h y (aY _ hy))];rfl
abbrev cX:=Int×Int
def s6(x y:cX):Prop:=kY x.1 x.2 y.1 y.2
instance(x y:cX):Decidable (s6 x y):=by unfold s6;infer_instance
def keyOf(x:dh):cX:=(x.1,x.2.1)
def s7(K:List cX):Prop:=K.Pairwise s6
theorem oQ{x:cX}(h:s6 x x):False:=by unfold s6 kY at h;omega
theorem II{x y:cX}(h:s6 x y)(k:s6 y x):False:=by unfold s6 kY at*;omega
theorem xL{x y z:cX}(h:s6 x y)(k:s6 y z):s6 x z:=by unfold s6 kY at*;omega
theorem Sf(x y:cX):s6 x y∨x=y∨s6 y x:=by
 have:(x.1=y.1∧x.2=y.2)→x=y:=λh=>iJ h.1 h.2
 unfold s6 kY
 by_cases h1:x.1=y.1
 ·by_cases h2:x.2=y.2
  ·exact Or.inr (Or.inl (this ⟨h1,h2⟩))
  ·omega
 ·omega
theorem Sg: ∀{a b:List cX},s7 a→s7 b→(∀x,x∈a↔x∈b)→a=b
 |[],[],_,_,_=>rfl
 |[],y::t,_,_,h=>nomatch (h y).2 (bg ..)
 |x::s,[],_,_,h=>nomatch (h x).1 (bg ..)
 |x::s,y::t,ha,hb,h=>by
  obtain⟨ZY,ha2⟩:=dZ.1 ha
  obtain⟨mA,ui⟩:=dZ.1 hb
  have Y4:x=y:=by
   rcases aX.1 ((h x).1 (bg ..))with e|e
   ·exact e
   ·rcases aX.1 ((h y).2 (bg ..))with f|f
    ·exact f.symm
    ·exact(II (ZY y f) (mA x e)).elim
  subst Y4
  rw[Sg ha2 ui λz=>⟨λhz=> ?_,λhz=> ?_⟩]
  ·rcases aX.1 ((h z).1 (aY _ hz))with e|e
   ·subst e;exact(oQ (ZY z hz)).elim
   ·exact e
  ·rcases aX.1 ((h z).2 (aY _ hz))with e|e
   ·subst e;exact(oQ (mA z hz)).elim
   ·exact e
def eh(P:Int→Prop) [DecidablePred P](f:Int→Int→Int):List cX→Option au
 |[]=>some []
 |k::t=>if P (f k.1 k.2)then(eh P f t).map (λo=>if f k.1 k.2=0 then o else(k.1,(k.2,(f k.1 k.2,())))::o)else none
theorem kS(P:Int→Prop) [DecidablePred P](f:Int→Int→Int)(k:cX)(t:List cX):eh P f (k::t)=if P (f k.1 k.2)then(eh P f t).map (λo=>if f k.1 k.2=0 then o else(k.1,(k.2,(f k.1 k.2,())))::o)else none:=rfl
theorem CR{P:Int→Prop} [DecidablePred P](h0:P 0){f:Int→Int→Int}(p:cX→Bool): ∀{K:List cX},(∀k∈K,p k=false→f k.1 k.2=0)→eh P f (K.filter p)=eh P f K
 |[],_=>rfl
 |k::t,h=>by
  have ih:=CR h0 p (K:=t) (λx hx=>h x (aY _ hx))
  cases hp:p k
  ·rw[List.filter_cons_of_neg (by rw[hp];decide),ih,kS,h k (bg ..) hp,aj h0]
   simp
  ·rw[List.filter_cons_of_pos hp,kS,kS,ih]
theorem Ns{P:Int→Prop} [DecidablePred P](h0:P 0){f:Int→Int→Int}{K G:List cX}(hK:s7 K)(hG:s7 G)(hs: ∀k∈K,k∈G)(hz: ∀k∈G,k∉K→f k.1 k.2=0):eh P f K=eh P f G:=by
 have e:K=G.filter (λk=>decide (k∈K)):=by
  refine Sg hK (vS List.filter_sublist hG) λx=> ?_
  rw[vZ]
  exact⟨λh=>⟨hs x h,bs h⟩,λh=>bz h.2⟩
 rw[e]
 exact CR h0 _ λk hk hp=>hz k hk (of_decide_eq_false hp)
def w7(k:cX):List cX→List cX
 |[]=>[k]
 |x::t=>if s6 x k then x::w7 k t else if x=k then x::t else k::x::t
theorem rq{k x:cX}: ∀{K:List cX},x∈w7 k K↔x=k∨x∈K
 |[]=>by show x∈[k]↔_;simp
 |y::t=>by
  show x∈(if s6 y k then y::w7 k t else if y=k then y::t else k::y::t)↔_
  split
  ·rw[aX,rq,aX]
   exact⟨λh=>h.elim (λe=>Or.inr (Or.inl e)) (λh=>h.elim Or.inl (λh=>Or.inr (Or.inr h))),λh=>h.elim (λe=>Or.inr (Or.inl e)) (λh=>h.elim Or.inl (λh=>Or.inr (Or.inr h)))⟩
  ·split
   ·rename_i e
    rw[←e]
    exact⟨Or.inr,λh=>h.elim (λe=>e▸bg ..) id⟩
   ·rw[aX]
theorem AD{k:cX}: ∀{K:List cX},s7 K→s7 (w7 k K)
 |[],_=>dZ.2 ⟨λ_ h=>(nomatch h),List.Pairwise.nil⟩
 |y::t,h=>by
  obtain⟨h1,h2⟩:=dZ.1 h
  show s7 (if s6 y k then y::w7 k t else if y=k then y::t else k::y::t)
  split
  ·rename_i hy
   exact dZ.2 ⟨λz hz=>(rq.1 hz).elim (λe=>e▸hy) (h1 z),AD h2⟩
  ·rename_i hy
   split
   ·exact h
   ·rename_i he
    have hk:s6 k y:=(Sf y k).elim (λh=>absurd h hy) (λh=>h.elim (λh=>absurd h he) id)
    exact dZ.2 ⟨λz hz=>(aX.1 hz).elim (λe=>e▸hk) (λhz=>xL hk (h1 z hz)),h⟩
def ny(K:List cX)(E:au):List cX:=E.foldl (λK x=>w7 (keyOf x) K) K
theorem sL(K:List cX)(x:dh)(E:au):ny K (x::E)=ny (w7 (keyOf x) K) E:=rfl
theorem zb: ∀{E:au} {K:List cX},s7 K→s7 (ny K E)
 |[],_,h=>h
 |x::E,K,h=>by rw[sL];exact zb (AD h)
theorem mv{k:cX}: ∀{E:au} {K:List cX},k∈ny K E↔(k∈K∨ ∃x∈E,keyOf x=k)
 |[],K=>by
  show k∈K↔_
  simp
 |x::E,K=>by
  rw[sL,mv,rq]
  constructor
  ·rintro((rfl|h)|⟨y,hy,e⟩)
   ·exact Or.inr ⟨x,bg ..,rfl⟩
   ·exact Or.inl h
   ·exact Or.inr ⟨y,aY _ hy,e⟩
  ·rintro(h|⟨y,hy,e⟩)
   ·exact Or.inl (Or.inr h)
   ·rcases aX.1 hy with rfl|hy
    ·exact Or.inl (Or.inl e.symm)
    ·exact Or.inr ⟨y,hy,e⟩
theorem FM(k:cX): ∀K:List cX,(w7 k K).length≤K.length+1
 |[]=>aG _
 |y::t=>by
  show(if s6 y k then y::w7 k t else if y=k then y::t else k::y::t).length≤_
  have:=FM k t
  split
  ·rw[aR,aR];omega
  ·split<;>rw[aR]<;>(try rw[aR])<;>omega
def rowsOf(l:au)(K:List cX):au:=K.map λk=>(k.1,(k.2,(bZ k.1 k.2 l,())))
theorem mH{l:au}(h:s7 (l.map keyOf)):rowsOf l (l.map keyOf)=l:=by
 have key: ∀(m:au),s7 (m.map keyOf)→(∀x∈m,bZ x.1 x.2.1 l=ed x)→rowsOf l (m.map keyOf)=m:=by
  intro m
  induction m with
  |nil=>intro _ _;rfl
  |cons x t ih=>
   intro hm hx
   have:=ih (dZ.1 hm).2 (λy hy=>hx y (aY _ hy))
   unfold rowsOf at*
   rw[bW,bW,this]
   congr 1
   show(x.1,(x.2.1,(bZ x.1 x.2.1 l,())))=x
   rw[hx x (bg ..)];rfl
 refine key l h ?_
 clear key
 induction l with
 |nil=>intro x hx;nomatch hx
 |cons y t ih=>
  intro x hx
  obtain⟨h1,h2⟩:=dZ.1 h
  have jB: ∀z∈t,¬(z.1=y.1∧z.2.1=y.2.1):=λz hz e=>by
   have hk:=h1 (keyOf z) (eS hz)
   have he:keyOf z=keyOf y:=iJ e.1 e.2
   rw[he]at hk
   exact oQ hk
  rw[eX]
  rcases aX.1 hx with rfl|hx
  ·rw[aj ⟨rfl,rfl⟩,kt jB];omega
  ·rw[ah (λe=>jB x hx ⟨e.1.symm,e.2.symm⟩),ih h2 x hx];omega
end VM
end
section
namespace VM
open Go VM.F
instance(x:Int):Decidable (aD x):=by unfold aD;infer_instance
def Fq(x:Int):Prop:=aD x∧p8 x
instance:DecidablePred Fq:=λx=>by unfold Fq;infer_instance
def uU(r:Option au):Option (au×Int):=some (match r with|some o=>(o,0)|none=>([],2))
def fS(l E:au)(a b:Int):Int:=bZ a b l+bZ a b E
theorem D6{α:Type}(N:Nat){l:List α}{i:Nat}{x:α}(hi:i≤l.length)(hl:l.length<1000000):p4 N l (i:Int) [x]=some (l.take i++x::l.drop i):=by
 unfold p4
 rw[aj ⟨ω,ω,rfl,by unfold zQ;omega⟩]
 rfl
theorem w8{α:Type}(N:Nat){l:List α}(hl:l.length≤1000000):oc N l=some l:=by
 unfold oc
 rw[aj (by unfold zQ;omega)]
theorem AE(N:Nat){v:Int}(h:dm v):F92 N (dQ v)=some (BG v):=Z9 N h.1 h.2
theorem nz{v:Int}(h:aD v):BG v=(v,true):=by unfold BG;exact aj h
theorem uV{v:Int}(h: ¬aD v):BG v=(0,false):=by unfold BG;exact ah h
theorem BM{ws:List Int}{x:Int}(h: ∀y∈ws,aD y)(hx:aD x): ∀y∈ws++[x],aD y:=λy hy=>by
 rcases ba.1 hy with hy|hy
 ·exact h y hy
 ·rw[bV.1 hy];exact hx
theorem Nt(N:Nat){l:au}:aai N l=some l:=by
 unfold aai
 rw[dG ω ω ω ω,aq]
 simp
theorem WM(N:Nat)(hN:2000000≤N)(K:cr.IJ){E out R:au}(hq:dT E)(hl:E.length≤100000)(ho:out.length≤1000000)(r:dh)(hr:aD (ed r))(i:Nat)(hi:i≤1000000):
  cr.l27 N K N E out r [dQ (ed r)] R (R.length:Int) (i:Int) E (E.length:Int) 0=
   if Fq (ed r+bZ r.1 r.2.1 E)then K E (if ed r+bZ r.1 r.2.1 E=0 then out else out++[(r.1,(r.2.1,(ed r+bZ r.1 r.2.1 E,())))]) R (R.length:Int) ((i+1:Nat):Int)else some (bH,(2:Int)):=by
 have:=om E bm (λn j ws=>cr.l27 N K n E out r (ws.map dQ) R (R.length:Int) (i:Int) E (E.length:Int) j)
  (λt ws=>if Fq (ws++dd r.1 r.2.1 t).sum then K E (if(ws++dd r.1 r.2.1 t).sum=0 then out else out++[(r.1,(r.2.1,((ws++dd r.1 r.2.1 t).sum,())))]) R (R.length:Int) ((i+1:Nat):Int)else some (bH,(2:Int)))
  (λj (ws:List Int)=>ws.length≤j+1∧ ∀x∈ws,aD x)
  (λn j ws hj hI eO=> ?_) (λn ws hI=> ?_) E.length N 0 [ed r] ω ω ω ⟨aG _,λx hx=>by rw[bV.1 hx];exact hr⟩
 ·rw[show((0:Nat):Int)=0 from rfl,c0]at this
  refine this.trans ?_
  have e:([ed r]++dd r.1 r.2.1 E).sum=ed r+bZ r.1 r.2.1 E:=by rw[Er,cz];rfl
  rw[e]
 ·unfold cr.l27 cr.aaj
  have nV:=y9 hq j
  have iQ:=nV
  unfold aD ed at iQ
  rw[aT ω,aq,a6 ω ω,aq,aJ,wV N iQ.1 iQ.2,ar,bL (by rw[cy,aI];omega),aq,ay (x:=(j:Int)+1) ω ω,ag,aN,aN]
  by_cases h1:(E.getD j bm).1=r.1
  ·by_cases h2:(E.getD j bm).2.1=r.2.1
   ·have hc:dd r.1 r.2.1 (E.getD j bm::E.drop (j+1))=ed (E.getD j bm)::dd r.1 r.2.1 (E.drop (j+1)):=by rw[eM,aj ⟨h1,h2⟩]
    rw[aj h1,aj h2,hc]
    have:=eO (ws++[ed (E.getD j bm)]) ⟨by rw[aS,aI];omega,BM hI.2 nV⟩
    rw[cZ]at this
    refine this.trans ?_
    rw[bu];rfl
   ·have hc:dd r.1 r.2.1 (E.getD j bm::E.drop (j+1))=dd r.1 r.2.1 (E.drop (j+1)):=by rw[eM,ah (λh=>h2 h.2)]
    rw[aj h1,ah h2,hc]
    exact eO ws ⟨ω,hI.2⟩
  ·have hc:dd r.1 r.2.1 (E.getD j bm::E.drop (j+1))=dd r.1 r.2.1 (E.drop (j+1)):=by rw[eM,ah (λh=>h1 h.1)]
   rw[ah h1,hc]
   exact eO ws ⟨ω,hI.2⟩
 ·unfold cr.l27 cr.aaj
  have hs:=IG hI.2 ω
  rw[aP ω,av,Kv N hI.2 ω ω,ar]
  show _=if Fq (ws++[]).sum then K E (if(ws++[]).sum=0 then out else out++[(r.1,(r.2.1,((ws++[]).sum,())))]) R (R.length:Int) ((i+1:Nat):Int)else some (bH,(2:Int))
  rw[ck,AE N hs,ar]
  by_cases h1:aD ws.sum
  ·rw[nz h1]
   dsimp only
   rw[bt,av,sI,ar,cond_not,gh,cond_not,aN,bL (by rw[aI];omega),aq,ay (x:=(i:Int)+1) ω ω,ag]
   by_cases h2:p8 ws.sum
   ·rw[aj h2,aj (show Fq ws.sum from⟨h1,h2⟩)]
    split<;>rfl
   ·rw[ah h2,ah (λh=>h2 h.2)]
  ·rw[uV h1,ah (λh=>h1 h.1)]
   rfl
theorem T1(N:Nat)(hN:2000000≤N){l E R:au}(hq:dT E)(hl:E.length≤100000)(hR:R.length≤200000)(hv: ∀r∈R,aD (ed r)∧ed r=bZ r.1 r.2.1 l):
  cr.l23 N N E [] R (R.length:Int) 0=uU (eh Fq (fS l E) (R.map keyOf)):=by
 have:=om R bm (λn i out=>cr.l23 N n E out R (R.length:Int) i) (λt out=>uU ((eh Fq (fS l E) (t.map keyOf)).map (λo=>out++o))) (λi (out:au)=>out.length≤i)
  (λn i out hi hI hr=> ?_) (λn out hI=> ?_) R.length N 0 [] ω ω ω (aG _)
 ·rw[show((0:Nat):Int)=0 from rfl,c0]at this
  refine this.trans ?_
  simp
 ·unfold cr.l23 cr.aal
  have hm:R.getD i bm∈R:=by
   rw[aU,bl hi];exact dA hi
  have VF:=hv _ hm
  have nV:=VF.1
  have iQ:=nV
  unfold aD ed at iQ
  rw[aT ω,aq,a6 ω ω,aq,aJ,wV N iQ.1 iQ.2,ar]
  refine(WM N hN _ hq hl ω _ nV i ω).trans ?_
  rw[bW,kS]
  have ef:fS l E (keyOf (R.getD i bm)).1 (keyOf (R.getD i bm)).2=ed (R.getD i bm)+bZ (R.getD i bm).1 (R.getD i bm).2.1 E:=by
   show bZ _ _ l+bZ _ _ E=_
   rw[VF.2];rfl
  rw[ef]
  generalize hS:ed (R.getD i bm)+bZ (R.getD i bm).1 (R.getD i bm).2.1 E=v
  by_cases hF:Fq v
  ·rw[aj hF,aj hF,hr _ (by
    split
    ·omega
    ·rw[aS,aI];omega)]
   cases eh Fq (fS l E) ((R.drop (i+1)).map keyOf)with
   |none=>rfl
   |some o=>
    show uU (some _)=uU (some _)
    congr 2
    split
    ·rfl
    ·exact bu _ _ _
  ·rw[ah hF,ah hF];rfl
 ·unfold cr.l23 cr.aal
  rw[aP ω,av,Nt,ar]
  show _=uU (some (out++[]))
  rw[ck];rfl
def DI(l:au)(k:cX):dh:=(k.1,(k.2,(bZ k.1 k.2 l,())))
theorem eo(l:au)(K:List cX):(rowsOf l K).length=K.length:=cy ..
theorem IK(l:au){K:List cX}{p:Nat}(h:p<K.length):(rowsOf l K).getD p bm=DI l (K.getD p (0,0)):=by
 unfold rowsOf
 rw[aU,pZ,bl h,aU,bl h];rfl
theorem uW(l:au)(K:List cX)(p:Nat)(k:cX):(rowsOf l K).take p++DI l k::(rowsOf l K).drop p=rowsOf l (K.take p++k::K.drop p):=by
 unfold rowsOf
 rw[cZ,bW,List.map_take,List.map_drop];rfl
theorem CS(l:au)(K:List cX):(rowsOf l K).map keyOf=K:=by
 unfold rowsOf
 rw[List.map_map]
 induction K with
 |nil=>rfl
 |cons k t ih=>rw[bW,ih];rfl
theorem AF{k x:cX}:0<BH k.1 k.2 x.1 x.2↔s6 x k:=by
 unfold BH s6 kY;split<;>omega
theorem xM{k x:cX}:BH k.1 k.2 x.1 x.2=0↔x=k:=by
 have:x=k↔x.1=k.1∧x.2=k.2:=⟨λh=>h▸⟨rfl,rfl⟩,λh=>iJ h.1 h.2⟩
 rw[this]
 unfold BH;split<;>omega
def AG(k:cX):Prop:=HJ k.1∧HJ k.2
theorem Sh{k:cX}{K:List cX}{p:Nat}(h:p<K.length):w7 k (K.drop p)=if s6 (K.getD p (0,0)) k then K.getD p (0,0)::w7 k (K.drop (p+1))else if K.getD p (0,0)=k then K.drop p else k::K.drop p:=by
 rw[drop_cons h (0,0)];rfl
theorem AH{K:List cX}{p:Nat}(h:p<K.length)(t:List cX):K.take p++K.getD p (0,0)::t=K.take (p+1)++t:=by
 rw[←pX h,bu,aU,bl h];rfl
def zeroAt(l:au)(K:List cX)(k:cX):Prop:=k∉K→bZ k.1 k.2 l=0
theorem xN{l:au}{k:cX}(h:bZ k.1 k.2 l=0):((k.1,(k.2,((0:Int),()))):dh)=DI l k:=by
 unfold DI;rw[h]
theorem uX{k:cX}{K:List cX}{p:Nat}(hs:s7 K)(hp: ∀x∈K.take p,s6 x k)(h: ∀x∈K.drop p,s6 k x):k∉K:=λhk=>by
 rw[←gl p K]at hk
 rcases ba.1 hk with hk|hk
 ·exact oQ (hp k hk)
 ·exact oQ (h k hk)
theorem Si{k:cX}{K:List cX}{p:Nat}(hs:s7 K)(h:p<K.length)(h1: ¬s6 (K.getD p (0,0)) k)(h2:K.getD p (0,0)≠k): ∀x∈K.drop p,s6 k x:=by
 have hk:s6 k (K.getD p (0,0)):=(Sf (K.getD p (0,0)) k).elim (λh=>absurd h h1) (λh=>h.elim (λh=>absurd h h2) id)
 have hd:s7 (K.drop p):=vS (List.drop_sublist ..) hs
 rw[drop_cons h (0,0)]at hd ⊢
 intro x hx
 rcases aX.1 hx with rfl|hx
 ·exact hk
 ·exact xL hk ((dZ.1 hd).1 x hx)
theorem af2(N:Nat)(C:cr.ga){l E S:au}{K:List cX}(hs:s7 K)(hl:K.length≤100000)(hf: ∀k∈K,AG k)(x:dh)(hx:AG (keyOf x))(hz:zeroAt l K (keyOf x))(len:Int)(i:Nat)(hi:i≤1000000):
  ∀(m n p:Nat),K.length-p≤m→m<n→p≤K.length→(∀y∈K.take p,s6 y (keyOf x))→
   cr.w4 N C n E (rowsOf l K) x (p:Int) S len (i:Int)=C E (rowsOf l (K.take p++w7 (keyOf x) (K.drop p))) S len ((i+1:Nat):Int)
 |m,0,p,_,hn,_,_=>ω
 |m,n+1,p,hm,hn,hp,hb=>by
  unfold cr.w4 cr.vH cr.j18 cr.ahO
  rw[eo,ay (x:=(i:Int)+1) ω ω,ag i]
  by_cases h:p<K.length
  ·have hfk:=hf (K.getD p (0,0)) (by rw[aU,bl h];exact dA h)
   have ho:TS N x.1 x.2.1 ((rowsOf l K).getD p bm)=some (BH (keyOf x).1 (keyOf x).2 (K.getD p (0,0)).1 (K.getD p (0,0)).2):=by
    rw[IK l h]
    exact IE N hx.1 hx.2 hfk.1 hfk.2
   rw[aT ω,aq,a6 ω ω,aq,aJ,ho,ar,dX (x:=(p:Int)) ω,av,aq,ar,cR,cond_not,aN,Sh h]
   by_cases h1:s6 (K.getD p (0,0)) (keyOf x)
   ·rw[aj (AF.2 h1),aj h1,ay (x:=(p:Int)+1) ω ω,ag p,AH h]
    refine af2 N C hs hl hf x hx hz len i hi (m-1) n (p+1) ω ω ω λy hy=> ?_
    rw[←pX h]at hy
    rcases ba.1 hy with hy|hy
    ·exact hb y hy
    ·rw[aU,bl h]at h1
     rw[bV.1 hy];exact h1
   ·rw[ah (λh=>h1 (AF.1 h)),ah h1]
    by_cases h2:K.getD p (0,0)=keyOf x
    ·rw[aj (xM.2 h2),aj h2,gl]
    ·rw[ah (λh=>h2 (xM.1 h)),ah h2,D6 N (by rw[eo];omega) (by rw[eo];omega),ar]
     have Dq:=hz (uX hs hb (Si hs h h1 h2))
     have e:=uW l K p (keyOf x)
     rw[←xN Dq]at e
     exact fj (λR=>C E R S len ((i+1:Nat):Int)) e
  ·have hd:K.drop p=[]:=vR ω
   rw[aP ω,av,dP ω,aq,D6 N (by rw[eo];omega) (by rw[eo];omega),ar]
   have Dq:=hz (uX hs hb (by rw[hd];exact λx hx=>nomatch hx))
   have e:=uW l K p (keyOf x)
   rw[←xN Dq]at e
   have e2:w7 (keyOf x) (K.drop p)=keyOf x::K.drop p:=by rw[hd];rfl
   rw[e2]
   exact fj (λR=>C E R S len ((i+1:Nat):Int)) e
end VM
end
section
namespace VM
open Go VM.F
def IL(E:au)(i:Nat):Prop:=dw (c6 (i:Int) E).sum 0
instance(E:au):DecidablePred (IL E):=λi=>by unfold IL;infer_instance
theorem aam(N:Nat)(hN:2000000≤N)(K:gB.db){E:au}(hq:dT E)(hl:E.length≤100000)(a:Nat)(ha:a<6):
  gB.l6 N K N E (a:Int) [] (a:Int) E (E.length:Int) 0=if(c6 (a:Int) E).sum=0 then K E ((a+1:Nat):Int)else some false:=by
 have:=om E bm (λn j ws=>gB.l6 N K n E (a:Int) (ws.map dQ) (a:Int) E (E.length:Int) j)
  (λt ws=>if(ws++c6 (a:Int) t).sum=0 then K E ((a+1:Nat):Int)else some false)
  (λj (ws:List Int)=>ws.length≤j∧ ∀x∈ws,aD x)
  (λn j ws hj hI hr=> ?_) (λn ws hI=> ?_) E.length N 0 [] ω ω ω ⟨aG _,λx hx=>nomatch hx⟩
 ·rw[show((0:Nat):Int)=0 from rfl,c0]at this
  exact this
 ·unfold gB.l6 gB.uN
  have nV:=y9 hq j
  have iQ:=nV
  unfold aD ed at iQ
  rw[aT ω,aq,a6 ω ω,aq,aJ,wV N iQ.1 iQ.2,ar,bL (by rw[cy,aI];omega),aq,ay (x:=(j:Int)+1) ω ω,ag j,aN]
  by_cases h1:(E.getD j bm).2.1=(a:Int)
  ·have hc:c6 (a:Int) (E.getD j bm::E.drop (j+1))=ed (E.getD j bm)::c6 (a:Int) (E.drop (j+1)):=by rw[df,aj h1]
   rw[aj h1,hc]
   have:=hr (ws++[ed (E.getD j bm)]) ⟨by rw[aS,aI];omega,BM hI.2 nV⟩
   rw[cZ]at this
   refine this.trans ?_
   rw[bu];rfl
  ·have hc:c6 (a:Int) (E.getD j bm::E.drop (j+1))=c6 (a:Int) (E.drop (j+1)):=by rw[df,ah h1]
   rw[ah h1,hc]
   exact hr ws ⟨ω,hI.2⟩
 ·unfold gB.l6 gB.uN
  rw[aP ω,av,Kv N hI.2 ω ω,ar]
  show _=if(ws++[]).sum=0 then K E ((a+1:Nat):Int)else some false
  rw[ck,bt,av,Az,ar,cond_not,aN,ay (x:=(a:Int)+1) ω ω,ag a]
  by_cases h:ws.sum=0
  ·rw[aj h,aj (kp.2 h)]
  ·rw[ah h,ah (λk=>h (kp.1 k))]
theorem WN(N:Nat)(hN:2000000≤N){E:au}(hq:dT E)(hl:E.length≤100000):gB N E=some (decide (∀j,j<ko→IL E j)&&true):=by
 unfold gB gB.b
 refine iz (len:=ko) (F:=λn i=>gB.l2 N n E i) (IL E) (λn i r hi hp hr=> ?_) (λn=> ?_) N (by unfold ko;omega)
 ·unfold gB.l2 gB.gJ
  unfold ko at hi
  rw[aT ω,aq,aam N hN _ hq hl i hi,hr]
  unfold IL dw
  rfl
 ·unfold gB.l2 gB.gJ
  rw[aP (by unfold ko;omega),av]
structure WO(E:au):Prop where
 place: ∀x∈E,bG x.1 x.2.1
 q: ∀x∈E,aD (ed x)∧p8 (ed x)
 len:E.length≤400
 flat: ∀i:Int,(c6 i E).sum=0
theorem IM{x:dh}(h:bG x.1 x.2.1):AG (keyOf x):=by
 have h':bG (keyOf x).1 (keyOf x).2:=h
 unfold bG at h'
 unfold AG HJ
 omega
theorem gw{l:au}{k:cX}(h:k∉l.map keyOf):bZ k.1 k.2 l=0:=kt λx hx e=>h (by
 have:keyOf x=k:=iJ e.1 e.2
 rw[←this];exact eS hx)
theorem T2(N:Nat)(hN:2000000≤N){l E:au}(hq:dT E)(hE:E.length≤400)(hp: ∀x∈E,AG (keyOf x))(hs:s7 (l.map keyOf))(hl:l.length≤90000)(WQ:dT l)(IN: ∀x∈l,AG (keyOf x)):
  cr.nW N N E l E (E.length:Int) 0=uU (eh Fq (fS l E) (ny (l.map keyOf) E)):=by
 have:=om E bm (λn i K=>cr.nW N n E (rowsOf l K) E (E.length:Int) i) (λt K=>uU (eh Fq (fS l E) (ny K t)))
  (λi (K:List cX)=>K.length≤l.length+i∧s7 K∧(∀k∈K,AG k)∧ ∀x∈l,keyOf x∈K)
  (λn i K hi hI hr=> ?_) (λn K hI=> ?_) E.length N 0 (l.map keyOf) ω ω ω ⟨by rw[cy];omega,hs,λk hk=>by
   obtain⟨x,hx,rfl⟩:=cD.1 hk
   exact IN x hx,λx hx=>eS hx⟩
 ·rw[show((0:Nat):Int)=0 from rfl,c0]at this
  simp only[mH hs]at this
  exact this
 ·unfold cr.nW cr.mR
  obtain⟨h1,h2,h3,h4⟩:=hI
  have hm:E.getD i bm∈E:=by
   rw[aU,bl hi];exact dA hi
  rw[aT ω,aq,a6 ω ω,aq,aJ]
  refine(af2 N _ h2 ω h3 (E.getD i bm) (hp _ hm) (λhk=>gw λhx=>hk (by
   obtain⟨x,hx,e⟩:=cD.1 hx
   rw[←e];exact h4 x hx)) (E.length:Int) i ω K.length N 0 ω ω ω (λy hy=>nomatch hy)).trans ?_
  rw[oW,cL,c0,sL]
  refine hr (w7 (keyOf (E.getD i bm)) K) ⟨cq (FM _ K) ω,AD h2,λk hk=>(rq.1 hk).elim (λe=>e▸hp _ hm) (h3 k),λx hx=>rq.2 (Or.inr (h4 x hx))⟩
 ·unfold cr.nW cr.mR
  obtain⟨h1,h2,h3,h4⟩:=hI
  rw[aP ω,av,eo,cO ω ω ω,aq]
  have:=T1 N hN (l:=l) (R:=rowsOf l K) hq ω (by rw[eo];omega) (λr hr=>by
   unfold rowsOf at hr
   obtain⟨k,hk,rfl⟩:=cD.1 hr
   refine⟨?_,rfl⟩
   show aD (bZ k.1 k.2 l)
   by_cases hkl:k∈l.map keyOf
   ·have e:rowsOf l (l.map keyOf)=l:=mH hs
    have hm:DI l k∈rowsOf l (l.map keyOf):=eS hkl
    rw[e]at hm
    exact WQ (DI l k) hm
   ·rw[gw hkl];exact⟨δ,δ⟩)
  rw[CS,eo]at this
  exact this
theorem dC{l:au}(h:cQ l=true):s7 (l.map keyOf)∧(∀x∈l,bG x.1 x.2.1∧p8 (ed x)):=by
 unfold cQ at h
 rw[fX]at h
 have h':=bz h
 have get: ∀(i:Nat) (hi:i<l.length),l.getD i bm=l[i]:=λi hi=>by rw[aU,bl hi];rfl
 have WR: ∀i,i+1<l.length→s6 (keyOf (l.getD i bm)) (keyOf (l.getD (i+1) bm)):=λi hi=>(h' (i+1) hi).2.2.2 ω
 have fb: ∀j,j<l.length→ ∀i,i<j→s6 (keyOf (l.getD i bm)) (keyOf (l.getD j bm)):=by
  intro j
  induction j with
  |zero=>intro _ i hi;omega
  |succ j ih=>
   intro hj i hi
   by_cases e:i=j
   ·rw[e];exact WR j hj
   ·exact xL (ih ω i ω) (WR j hj)
 refine⟨?_,λx hx=> ?_⟩
 ·refine tj.2 (uq.2 λi j hi hj pQ=> ?_)
  have:=fb j hj i pQ
  rw[get i hi,get j hj]at this
  exact this
 ·obtain⟨i,hi,e⟩:=gm hx
  have:=h' i hi
  unfold lF mj at this
  rw[get i hi,e]at this
  exact⟨this.1,this.2.2.1⟩
theorem aan(N:Nat)(hN:2000000≤N){l E:au}(hk:cQ l=true)(hl:l.length≤90000)(WQ:dT l)(g:WO E):cr N l E=uU (eh Fq (fS l E) (ny (l.map keyOf) E)):=by
 obtain⟨hs,IN⟩:=dC hk
 have hE:=g.len
 unfold cr cr.b
 rw[wY N ω ω,hk,ar,bt,av,aP ω,av]
 refine Av E bm (λn i=>cr.l4 N n l E E (E.length:Int) i) (λ_=>uU (eh Fq (fS l E) (ny (l.map keyOf) E))) (λn i hi hr=> ?_) (λn=> ?_) N ω
 ·unfold cr.l4 cr.eK
  have hm:E.getD i bm∈E:=by
   rw[aU,bl hi];exact dA hi
  rw[aT ω,aq,a6 ω ω,aq,aJ,D4,bs (g.place _ hm),ar,bt,av,sI,ar,
   bs (show p8 ((E.getD i bm).2.2.1)from(g.q _ hm).2),bt,av,ay (x:=(i:Int)+1) ω ω,ag i]
  exact hr
 ·unfold cr.l4 cr.eK
  have hf:gB N E=some true:=by
   rw[WN N hN (λx hx=>(g.q x hx).1) ω,bs (p:= ∀j,j<ko→IL E j) (λj _=>g.flat (j:Int))];rfl
  rw[aP ω,av,hf,ar,bt,av,w8 N ω,ar]
  exact T2 N hN (λx hx=>(g.q x hx).1) hE (λx hx=>IM (g.place x hx)) hs hl WQ (λx hx=>IM (IN x hx).1)
end VM
end
section
namespace VM
open Go VM.F
def AI(a b:Nat):Nat→List cX
 |0=>[]
 |m+1=>((a:Int),(b:Int))::AI a (b+1) m
def yH(w a:Nat):Nat→List cX
 |0=>[]
 |m+1=>AI a 0 w++yH w (a+1) m
theorem AJ{k:cX}{a:Nat}: ∀{m b:Nat},k∈AI a b m↔k.1=a∧(b:Int)≤k.2∧k.2<(b+m:Nat)
 |0,b=>⟨λh=>(nomatch h),λh=>ω⟩
 |m+1,b=>by
  show k∈((a:Int),(b:Int))::AI a (b+1) m↔_
  rw[aX,AJ]
  have:k=((a:Int),(b:Int))↔k.1=a∧k.2=b:=⟨λh=>h▸⟨rfl,rfl⟩,λh=>iJ h.1 h.2⟩
  rw[this]
  omega
theorem ox{k:cX}{w:Nat}: ∀{m a:Nat},k∈yH w a m↔(a:Int)≤k.1∧k.1<(a+m:Nat)∧0≤k.2∧k.2<w
 |0,a=>⟨λh=>(nomatch h),λh=>ω⟩
 |m+1,a=>by
  show k∈AI a 0 w++yH w (a+1) m↔_
  rw[ba,AJ,ox]
  omega
theorem Nu(a:Nat): ∀(m b:Nat),s7 (AI a b m)
 |0,b=>List.Pairwise.nil
 |m+1,b=>dZ.2 ⟨λk hk=>by
  have:=AJ.1 hk
  show(a:Int)<k.1∨((a:Int)=k.1∧(b:Int)<k.2)
  omega,Nu a m (b+1)⟩
theorem oy(w:Nat): ∀(m a:Nat),s7 (yH w a m)
 |0,a=>List.Pairwise.nil
 |m+1,a=>vT.2 ⟨Nu a w 0,oy w m (a+1),λx hx y hy=>by
  have h1:=AJ.1 hx
  have h2:=ox.1 hy
  show x.1<y.1∨(x.1=y.1∧x.2<y.2)
  omega⟩
structure Mark(l:au)(a b p:Nat):Prop where
 le:p≤l.length
 lo: ∀x∈l.take p,s6 (keyOf x) ((a:Int),(b:Int))
 hi: ∀x∈l.drop p,¬s6 (keyOf x) ((a:Int),(b:Int))
theorem tV{k:cX}{a b:Nat}:s6 k ((a:Int),((b+1:Nat):Int))↔s6 k ((a:Int),(b:Int))∨k=((a:Int),(b:Int)):=by
 have:k=((a:Int),(b:Int))↔k.1=a∧k.2=b:=⟨λh=>h▸⟨rfl,rfl⟩,λh=>iJ h.1 h.2⟩
 rw[this]
 show(k.1<(a:Int)∨(k.1=(a:Int)∧k.2<((b+1:Nat):Int)))↔(k.1<(a:Int)∨(k.1=(a:Int)∧k.2<(b:Int)))∨_
 omega
theorem Mark.row{l:au}{a w p:Nat}(h:Mark l a w p)(hw: ∀x∈l,0≤(keyOf x).2∧(keyOf x).2<w):Mark l (a+1) 0 p:=by
 have key: ∀x∈l,(s6 (keyOf x) ((a:Int),(w:Int))↔s6 (keyOf x) (((a+1:Nat):Int),((0:Nat):Int))):=λx hx=>by
  have:=hw x hx
  show((keyOf x).1<(a:Int)∨((keyOf x).1=(a:Int)∧(keyOf x).2<(w:Int)))↔((keyOf x).1<((a+1:Nat):Int)∨((keyOf x).1=((a+1:Nat):Int)∧(keyOf x).2<((0:Nat):Int)))
  omega
 exact⟨h.le,λx hx=>(key x (lP hx)).1 (h.lo x hx),λx hx k=>h.hi x hx ((key x (mX hx)).2 k)⟩
theorem nA(a b:Int)(l m:au):bZ a b (l++m)=bZ a b l+bZ a b m:=by
 induction l with
 |nil=>rw[cL,tU];omega
 |cons x t ih=>rw[kJ,eX,eX,ih];omega
theorem Mark.step{l:au}(hs:s7 (l.map keyOf)){a b p:Nat}(h:Mark l a b p):
  (p<l.length∧(l.getD p bm).1=(a:Int)∧(l.getD p bm).2.1=(b:Int)∧bZ (a:Int) (b:Int) l=ed (l.getD p bm)∧Mark l a (b+1) (p+1))∨
  ((p<l.length→(l.getD p bm).1=(a:Int)→(l.getD p bm).2.1=(b:Int)→False)∧bZ (a:Int) (b:Int) l=0∧Mark l a (b+1) p):=by
 have no: ∀{x:dh} {k:cX},¬keyOf x=k→ ¬(x.1=k.1∧x.2.1=k.2):=λh e=>h (iJ e.1 e.2)
 have hz:bZ (a:Int) (b:Int) (l.take p)=0:=kt λx hx e=>by
  have e':keyOf x=((a:Int),(b:Int)):=iJ e.1 e.2
  have:=h.lo x hx
  rw[e']at this
  exact oQ this
 have HN:bZ (a:Int) (b:Int) l=bZ (a:Int) (b:Int) (l.drop p):=by
  conv=>lhs;rw[←gl p l]
  rw[nA,hz];omega
 by_cases hp:p<l.length
 ·have hd:=drop_cons hp bm
  have hsd:s7 ((l.drop p).map keyOf):=by
   rw[List.map_drop];exact vS (List.drop_sublist ..) hs
  have LB:=h.hi
  rw[hd]at hsd LB HN
  have hgt:=(dZ.1 hsd).1
  have V5:=LB _ (bg ..)
  have amK:l.take (p+1)=l.take p++[l.getD p bm]:=by
   rw[←pX hp,aU,bl hp];rfl
  by_cases he:keyOf (l.getD p bm)=((a:Int),(b:Int))
  ·refine Or.inl ⟨hp,fj Prod.fst he,fj Prod.snd he,?_,ω,λx hx=> ?_,λx hx hk=> ?_⟩
   ·rw[HN,eX,aj ⟨fj Prod.fst he,fj Prod.snd he⟩,kt λx hx e=> ?_]
    ·omega
    ·have hg:=hgt (keyOf x) (eS hx)
     have e':keyOf x=((a:Int),(b:Int)):=iJ e.1 e.2
     rw[he,e']at hg
     exact oQ hg
   ·rw[amK]at hx
    rcases ba.1 hx with hx|hx
    ·exact tV.2 (Or.inl (h.lo x hx))
    ·rw[bV.1 hx];exact tV.2 (Or.inr he)
   ·have hg:=hgt (keyOf x) (eS hx)
    rw[he]at hg
    rcases tV.1 hk with hk|hk
    ·exact II hg hk
    ·rw[hk]at hg;exact oQ hg
  ·have lz: ∀x∈l.getD p bm::l.drop (p+1),keyOf x≠((a:Int),(b:Int)):=λx hx e=>by
    rcases aX.1 hx with rfl|hx
    ·exact he e
    ·have hg:=hgt (keyOf x) (eS hx)
     rw[e]at hg
     exact V5 hg
   refine Or.inr ⟨λ_ e1 e2=>he (iJ e1 e2),?_,h.le,λx hx=>tV.2 (Or.inl (h.lo x hx)),λx hx hk=> ?_⟩
   ·rw[HN]
    exact kt λx hx=>no (lz x hx)
   ·rw[hd]at hx
    rcases tV.1 hk with hk|hk
    ·exact LB x hx hk
    ·exact lz x hx hk
 ·have hd:l.drop p=[]:=vR ω
  refine Or.inr ⟨λh=>absurd h hp,by rw[HN,hd];rfl,h.le,λx hx=>tV.2 (Or.inl (h.lo x hx)),λx hx=> ?_⟩
  rw[hd]at hx;nomatch hx
def vJ(out:au)(r:Option au):Option (au×Bool):=some (match r with|some o=>(out++o,true)|none=>([],false))
theorem KB(N:Nat)(v:Int):Qz N (cP v)=some (if Fq v then(v,true)else(0,false)):=by
 unfold Qz
 rw[ri,ar]
 by_cases h:aD v
 ·rw[nz h]
  dsimp only
  rw[bt,av,aN]
  by_cases h2:p8 v
  ·rw[ah (show ¬v= -9223372036854775808 from h2),aj (show Fq v from⟨h,h2⟩)]
  ·rw[aj (show v= -9223372036854775808 by unfold p8 at h2;omega),ah (λh=>h2 h.2)]
 ·rw[uV h,ah (λk=>h k.1)]
  rfl
theorem WS(N:Nat)(hN:4000000≤N)(C4:cw.ca)(C7:cw.fx){l E out:au}(hq:dT E)(hl:E.length≤100000)(ho:out.length≤1000000)(p:Int)(a b:Nat)(hb:b≤1000000)(q:Int)(hF:Fq q):
  cw.IP N C4 C7 N l E out p (a:Int) (b:Int) q false (false,(([]:List Int),())) 0=
   if Fq (q+bZ (a:Int) (b:Int) E)then C7 l E (if q+bZ (a:Int) (b:Int) E=0 then out else out++[((a:Int),((b:Int),(q+bZ (a:Int) (b:Int) E,())))]) p (a:Int) ((b+1:Nat):Int)else some ([],false):=by
 have:=om E bm (λn j ws=>cw.IP N C4 C7 n l E out p (a:Int) (b:Int) q (!ws.isEmpty) (cP ws.sum) j)
  (λt ws=>if Fq (q+(ws++dd (a:Int) (b:Int) t).sum)then C7 l E (if q+(ws++dd (a:Int) (b:Int) t).sum=0 then out else out++[((a:Int),((b:Int),(q+(ws++dd (a:Int) (b:Int) t).sum,())))]) p (a:Int) ((b+1:Nat):Int)else some ([],false))
  (λj (ws:List Int)=>ws.length≤j∧ ∀x∈ws,aD x)
  (λn j ws hj hI eO=> ?_) (λn ws hI=> ?_) E.length N 0 [] ω ω ω ⟨aG _,λx hx=>nomatch hx⟩
 ·rw[show((0:Nat):Int)=0 from rfl,c0,iI,gU]at this
  exact this
 ·unfold cw.IP cw.HO
  have nV:=y9 hq j
  have iQ:=nV
  unfold aD ed at iQ
  have hb:=Np hI.2
  rw[aT ω,aq,a6 ω ω,aq,aq,aq,aJ,cv N ω iQ.1 iQ.2,ar,g5 N ω ((Ar (n:=ws.length) ω hb.1 hb.2).mono ω) ((Fit.i64 iQ.1 iQ.2).mono ω),ar,ay (x:=(j:Int)+1) ω ω,ag j,aN,aN]
  by_cases h1:(E.getD j bm).1=(a:Int)
  ·by_cases h2:(E.getD j bm).2.1=(b:Int)
   ·have hc:dd (a:Int) (b:Int) (E.getD j bm::E.drop (j+1))=ed (E.getD j bm)::dd (a:Int) (b:Int) (E.drop (j+1)):=by rw[eM,aj ⟨h1,h2⟩]
    rw[aj h1,aj h2,hc]
    have:=eO (ws++[ed (E.getD j bm)]) ⟨by rw[aS,aI];omega,BM hI.2 nV⟩
    rw[lT,cz,iI,fY,bu]at this
    refine Eq.trans ?_ this
    rw[show(!(ws++[ed (E.getD j bm)]).isEmpty)=true by cases ws<;>rfl]
    rfl
   ·have hc:dd (a:Int) (b:Int) (E.getD j bm::E.drop (j+1))=dd (a:Int) (b:Int) (E.drop (j+1)):=by rw[eM,ah (λh=>h2 h.2)]
    rw[aj h1,ah h2,hc]
    exact eO ws ⟨ω,hI.2⟩
  ·have hc:dd (a:Int) (b:Int) (E.getD j bm::E.drop (j+1))=dd (a:Int) (b:Int) (E.drop (j+1)):=by rw[eM,ah (λh=>h1 h.1)]
   rw[ah h1,hc]
   exact eO ws ⟨ω,hI.2⟩
 ·unfold cw.IP cw.HO
  have hs:=Np hI.2
  have Sb:=hF.1
  unfold aD at Sb
  rw[aP ω,av,cv N ω Sb.1 Sb.2,ar,g5 N ω ((Ar (n:=ws.length) ω hs.1 hs.2).mono ω) ((Fit.i64 Sb.1 Sb.2).mono ω),ar,KB,ar,ay (x:=(b:Int)+1) ω ω,ag b,bL (by rw[aI];omega),aq,bL (by rw[aI];omega),aq,cond_not]
  show _=if Fq (q+(ws++[]).sum)then C7 l E (if q+(ws++[]).sum=0 then out else out++[((a:Int),((b:Int),(q+(ws++[]).sum,())))]) p (a:Int) ((b+1:Nat):Int)else some ([],false)
  rw[ck,EJ ws.sum q]
  cases ws with
  |nil=>
   show cond (!aO q 0) _ _=_
   rw[cond_not,aN,iI,fY,aj hF]
   by_cases h:q=0
   ·rw[aj h,aj h]
   ·rw[ah h,ah h]
  |cons w ws=>
   show cond (!(if Fq (q+(w::ws).sum)then(q+(w::ws).sum,true)else(0,false)).2) _ _=_
   by_cases h2:Fq (q+(w::ws).sum)
   ·rw[aj h2,aj h2]
    dsimp only
    rw[bt,av,cond_not,aN]
    by_cases h:q+(w::ws).sum=0
    ·rw[aj h,aj h]
    ·rw[ah h,ah h]
   ·rw[ah h2,ah h2];rfl
end VM
end
section
namespace VM
open Go VM.F
theorem IQ{P:Int→Prop} [DecidablePred P]{f:Int→Int→Int}{k:cX}{K:List cX}{out:au}{v:Int}(hv:f k.1 k.2=v):
  (if P v then vJ (if v=0 then out else out++[(k.1,(k.2,(v,())))]) (eh P f K)else some ([],false))=vJ out (eh P f (k::K)):=by
 rw[kS,hv]
 by_cases h:P v
 ·rw[aj h,aj h]
  cases eh P f K with
  |none=>rfl
  |some o=>
   show some ((if v=0 then out else out++[(k.1,(k.2,(v,())))])++o,true)=some (out++(if v=0 then o else(k.1,(k.2,(v,())))::o),true)
   by_cases h0:v=0
   ·rw[aj h0,aj h0]
   ·rw[ah h0,ah h0,bu];rfl
 ·rw[ah h,ah h];rfl
theorem amL{l:au}(hs:s7 (l.map keyOf))(hl: ∀x∈l,Fq (ed x))(k:cX):Fq (bZ k.1 k.2 l):=by
 by_cases hk:k∈l.map keyOf
 ·have hm:DI l k∈rowsOf l (l.map keyOf):=eS hk
  rw[mH hs]at hm
  exact hl (DI l k) hm
 ·rw[gw hk];exact⟨⟨δ,δ⟩,δ⟩
theorem IS(N:Nat)(hN:4000000≤N)(C:cw.ca){l E:au}(hq:dT E)(hl:E.length≤100000)(hs:s7 (l.map keyOf))(He:l.length≤100000)(hf: ∀x∈l,Fq (ed x))(hw: ∀x∈l,0≤(keyOf x).2∧(keyOf x).2<(6:Nat))(a:Nat)(ha:a≤24)(G:List cX)
  (hc: ∀(p:Nat) (out:au),Mark l (a+1) 0 p→out.length≤6*(a+1)→C l E out (p:Int) ((a+1:Nat):Int)=vJ out (eh Fq (fS l E) G)):
  ∀(m n b p:Nat) (out:au),b+m=6→m<n→Mark l a b p→out.length≤6*a+b→cw.l7 N C n l E out (p:Int) (a:Int) (b:Int)=vJ out (eh Fq (fS l E) (AI a b m++G))
 |m,0,b,p,out,_,hn,_,_=>ω
 |0,n+1,b,p,out,hb,_,hM,ho=>by
  have e:b=6:=ω
  subst e
  unfold cw.l7 cw.rj
  rw[aP ω,av,ay (x:=(a:Int)+1) ω ω,ag a]
  exact hc p out (hM.row hw) ω
 |m+1,n+1,b,p,out,hb,hn,hM,ho=>by
  have hp:=hM.le
  have ahP: ∀(p:Nat) (v:Int),Mark l a (b+1) p→cw.l7 N C n l E (if v=0 then out else out++[((a:Int),((b:Int),(v,())))]) (p:Int) (a:Int) ((b+1:Nat):Int)=vJ (if v=0 then out else out++[((a:Int),((b:Int),(v,())))]) (eh Fq (fS l E) (AI a (b+1) m++G)):=λp v h=>
   IS N hN C hq hl hs He hf hw a ha G hc m n (b+1) p _ ω ω h (by
    split
    ·omega
    ·rw[aS,aI];omega)
  have xD:=amL hs hf ((a:Int),(b:Int))
  unfold cw.l7 cw.rj cw.Sj cw.KC
  show _=vJ out (eh Fq (fS l E) (((a:Int),(b:Int))::(AI a (b+1) m++G)))
  rw[aT (x:=(b:Int)) ω,aq,cR,aN,aN,aJ]
  have fin: ∀(p:Nat) (q:Int),q=bZ (a:Int) (b:Int) l→Mark l a (b+1) p→cw.IP N C (cw.l7 N C n) N l E out (p:Int) (a:Int) (b:Int) q false (false,(([]:List Int),())) 0=vJ out (eh Fq (fS l E) (((a:Int),(b:Int))::(AI a (b+1) m++G))):=λp q e h=>by
   subst e
   rw[WS N hN C _ hq hl ω (p:Int) a b ω _ xD,ahP p _ h]
   exact IQ (k:=((a:Int),(b:Int))) rfl
  rcases hM.step hs with⟨h1,h2,h3,h4,h5⟩|⟨h1,h2,h3⟩
  ·rw[aj (show(p:Int)<(l.length:Int)by omega),a6 ω ω,aq,aq,aj h2,aj h3,ay (x:=(p:Int)+1) ω ω,ag p,aq]
   exact fin (p+1) _ h4.symm h5
  ·by_cases g1:p<l.length
   ·rw[aj (show(p:Int)<(l.length:Int)by omega),a6 ω ω,aq,aq]
    by_cases g2:(l.getD p bm).1=(a:Int)
    ·rw[aj g2,ah (λg3=>h1 g1 g2 g3)]
     exact fin p _ h2.symm h3
    ·rw[ah g2]
     exact fin p _ h2.symm h3
   ·rw[ah (show ¬(p:Int)<(l.length:Int)by omega)]
    exact fin p _ h2.symm h3
theorem IT(N:Nat)(hN:4000000≤N){l E:au}(hq:dT E)(hl:E.length≤100000)(hs:s7 (l.map keyOf))(He:l.length≤100000)(hf: ∀x∈l,Fq (ed x))(hw: ∀x∈l,0≤(keyOf x).2∧(keyOf x).2<(6:Nat)):
  ∀(m n a p:Nat) (out:au),a+m=25→m<n→Mark l a 0 p→out.length≤6*a→cw.l4 N n l E out (p:Int) (a:Int)=vJ out (eh Fq (fS l E) (yH 6 a m))
 |m,0,a,p,out,_,hn,_,_=>ω
 |0,n+1,a,p,out,ha,_,hM,ho=>by
  unfold cw.l4 cw.eK
  rw[fu ω,av]
  show some (out,true)=some (out++[],true)
  rw[ck]
 |m+1,n+1,a,p,out,ha,hn,hM,ho=>by
  unfold cw.l4 cw.eK
  rw[fH ω,aq]
  exact IS N hN _ hq hl hs He hf hw a ω (yH 6 (a+1) m) (λp out h ho=>IT N hN hq hl hs He hf hw m n (a+1) p out ω ω h ho) 6 N 0 p out ω ω hM ω
def jC:List cX:=yH 6 0 25
theorem FN(N:Nat)(hN:4000000≤N){l E:au}(hk:cQ l=true)(hl:l.length≤90000)(WQ:dT l)(hq:dT E)(hE:E.length≤100000):cw N l E=vJ [] (eh Fq (fS l E) jC):=by
 obtain⟨hs,IN⟩:=dC hk
 unfold cw cw.b
 refine IT N hN hq hE hs ω (λx hx=>⟨WQ x hx,(IN x hx).2⟩) (λx hx=> ?_) 25 N 0 0 [] ω ω ⟨ω,λx hx=>(nomatch hx),λx hx fb=> ?_⟩ (by simp)
 ·have h:bG (keyOf x).1 (keyOf x).2:=(IN x hx).1
  unfold bG at h;omega
 ·have h:bG (keyOf x).1 (keyOf x).2:=(IN x (mX hx)).1
  unfold bG at h
  have wE:(keyOf x).1<((0:Nat):Int)∨((keyOf x).1=((0:Nat):Int)∧(keyOf x).2<((0:Nat):Int)):=fb
  omega
theorem T3{l E:au}(hk:cQ l=true)(hp: ∀x∈E,bG x.1 x.2.1):eh Fq (fS l E) (ny (l.map keyOf) E)=eh Fq (fS l E) jC:=by
 obtain⟨hs,IN⟩:=dC hk
 refine Ns ⟨⟨δ,δ⟩,δ⟩ (zb hs) (oy 6 25 0) (λk hk=> ?_) (λk hk hn=> ?_)
 ·have:bG k.1 k.2:=by
   rcases mv.1 hk with h|⟨x,hx,rfl⟩
   ·obtain⟨x,hx,rfl⟩:=cD.1 h
    exact(IN x hx).1
   ·exact hp x hx
  unfold bG at this
  exact ox.2 ω
 ·have h1:k∉l.map keyOf:=λh=>hn (mv.2 (Or.inl h))
  have h2:k∉E.map keyOf:=λh=>by
   obtain⟨x,hx,e⟩:=cD.1 h
   exact hn (mv.2 (Or.inr ⟨x,hx,e⟩))
  unfold fS
  rw[gw h1,gw h2];rfl
end VM
end
section
namespace VM
open Go VM.F
def BN(E:au):Prop:= ∀x∈E,dm (ed x)
def jU(r:dh):uY:=(r.1,(r.2.1,(dQ (ed r),())))
theorem KD(E:au)(i:Nat):(E.map jU).getD i ((0:Int),((0:Int),(cA,())))=jU (E.getD i bm):=by
 by_cases h:i<E.length
 ·rw[aU,pZ,bl h,aU,bl h];rfl
 ·rw[aU,gI (by rw[cy];omega),aU,gI ω];rfl
theorem KE{l:au}(h:BN l)(i:Nat):dm (ed (l.getD i bm)):=by
 by_cases hi:i<l.length
 ·rw[aU,bl hi];exact h _ (dA hi)
 ·rw[aU,gI ω];exact⟨δ,δ⟩
theorem rr{x:Int}(h:aD x):dm x:=by unfold aD at h;unfold dm;omega
theorem ru{ws:List Int}{x:Int}(h: ∀y∈ws,dm y)(hx:dm x): ∀y∈ws++[x],dm y:=λy hy=>by
 rcases ba.1 hy with hy|hy
 ·exact h y hy
 ·rw[bV.1 hy];exact hx
theorem WT(N:Nat){l:au}:ahQ N l=some l:=Nt N
theorem WU(N:Nat)(hN:2000000≤N)(K:ct.IU){E out R:au}(hq:BN E)(hl:E.length≤100000)(ho:out.length≤1000000)(r:dh)(hr:aD (ed r))(i:Nat)(hi:i≤1000000):
  ct.Nv N K N (E.map jU) out r [dQ (ed r)] R (R.length:Int) (i:Int) (E.map jU) ((E.map jU).length:Int) 0=
   if aD (ed r+bZ r.1 r.2.1 E)then K (E.map jU) (if ed r+bZ r.1 r.2.1 E=0 then out else out++[(r.1,(r.2.1,(ed r+bZ r.1 r.2.1 E,())))]) R (R.length:Int) ((i+1:Nat):Int)else some (bH,(2:Int)):=by
 have:=om E bm (λn j ws=>ct.Nv N K n (E.map jU) out r (ws.map dQ) R (R.length:Int) (i:Int) (E.map jU) ((E.map jU).length:Int) j)
  (λt ws=>if aD (ws++dd r.1 r.2.1 t).sum then K (E.map jU) (if(ws++dd r.1 r.2.1 t).sum=0 then out else out++[(r.1,(r.2.1,((ws++dd r.1 r.2.1 t).sum,())))]) R (R.length:Int) ((i+1:Nat):Int)else some (bH,(2:Int)))
  (λj (ws:List Int)=>ws.length≤j+1∧ ∀x∈ws,dm x)
  (λn j ws hj hI eO=> ?_) (λn ws hI=> ?_) E.length N 0 [ed r] ω ω ω ⟨aG _,λx hx=>by rw[bV.1 hx];exact rr hr⟩
 ·rw[show((0:Nat):Int)=0 from rfl,c0]at this
  refine this.trans ?_
  have e:([ed r]++dd r.1 r.2.1 E).sum=ed r+bZ r.1 r.2.1 E:=by rw[Er,cz];rfl
  rw[e]
 ·unfold ct.Nv ct.KF
  rw[aT (by rw[cy];omega),aq,a6 ω (by rw[cy];omega),aq,aJ,KD,bL (by rw[cy,aI];omega),aq,ay (x:=(j:Int)+1) ω ω,ag j,aN,aN]
  by_cases h1:(E.getD j bm).1=r.1
  ·by_cases h2:(E.getD j bm).2.1=r.2.1
   ·have hc:dd r.1 r.2.1 (E.getD j bm::E.drop (j+1))=ed (E.getD j bm)::dd r.1 r.2.1 (E.drop (j+1)):=by rw[eM,aj ⟨h1,h2⟩]
    rw[aj (show(jU (E.getD j bm)).1=r.1 from h1),aj (show(jU (E.getD j bm)).2.1=r.2.1 from h2),hc]
    have:=eO (ws++[ed (E.getD j bm)]) ⟨by rw[aS,aI];omega,ru hI.2 (KE hq j)⟩
    rw[cZ]at this
    refine this.trans ?_
    rw[bu];rfl
   ·have hc:dd r.1 r.2.1 (E.getD j bm::E.drop (j+1))=dd r.1 r.2.1 (E.drop (j+1)):=by rw[eM,ah (λh=>h2 h.2)]
    rw[aj (show(jU (E.getD j bm)).1=r.1 from h1),ah (show ¬(jU (E.getD j bm)).2.1=r.2.1 from h2),hc]
    exact eO ws ⟨ω,hI.2⟩
  ·have hc:dd r.1 r.2.1 (E.getD j bm::E.drop (j+1))=dd r.1 r.2.1 (E.drop (j+1)):=by rw[eM,ah (λh=>h1 h.1)]
   rw[ah (show ¬(jU (E.getD j bm)).1=r.1 from h1),hc]
   exact eO ws ⟨ω,hI.2⟩
 ·unfold ct.Nv ct.KF
  rw[aP (by rw[cy];omega),av,D2 N hI.2 ω ω,ar]
  show _=if aD (ws++[]).sum then K (E.map jU) (if(ws++[]).sum=0 then out else out++[(r.1,(r.2.1,((ws++[]).sum,())))]) R (R.length:Int) ((i+1:Nat):Int)else some (bH,(2:Int))
  rw[ck]
  unfold FD
  by_cases h0:dm ws.sum
  ·rw[aj h0]
   dsimp only
   rw[AE N h0,ar,bt,av]
   by_cases h1:aD ws.sum
   ·rw[nz h1]
    dsimp only
    rw[bt,av,cond_not,aN,bL (by rw[aI];omega),aq,ay (x:=(i:Int)+1) ω ω,ag i,aj h1]
    split<;>rfl
   ·rw[uV h1,ah h1]
    rfl
  ·rw[ah h0,ah (λh=>h0 (rr h))]
   have e:F92 N cA=some (BG 0):=AE N (v:=0) ⟨δ,δ⟩
   dsimp only
   rw[e,ar]
   rfl
theorem T4(N:Nat)(hN:2000000≤N){l E R:au}(hq:BN E)(hl:E.length≤100000)(hR:R.length≤200000)(hv: ∀r∈R,aD (ed r)∧ed r=bZ r.1 r.2.1 l):
  ct.l26 N N (E.map jU) [] R (R.length:Int) 0=uU (eh aD (fS l E) (R.map keyOf)):=by
 have:=om R bm (λn i out=>ct.l26 N n (E.map jU) out R (R.length:Int) i) (λt out=>uU ((eh aD (fS l E) (t.map keyOf)).map (λo=>out++o))) (λi (out:au)=>out.length≤i)
  (λn i out hi hI hr=> ?_) (λn out hI=> ?_) R.length N 0 [] ω ω ω (aG _)
 ·rw[show((0:Nat):Int)=0 from rfl,c0]at this
  refine this.trans ?_
  simp
 ·unfold ct.l26 ct.aap
  have hm:R.getD i bm∈R:=by
   rw[aU,bl hi];exact dA hi
  have VF:=hv _ hm
  have nV:=VF.1
  have iQ:=nV
  unfold aD ed at iQ
  rw[aT ω,aq,a6 ω ω,aq,aJ,wV N iQ.1 iQ.2,ar]
  refine(WU N hN _ hq hl ω _ nV i ω).trans ?_
  rw[bW,kS]
  have ef:fS l E (keyOf (R.getD i bm)).1 (keyOf (R.getD i bm)).2=ed (R.getD i bm)+bZ (R.getD i bm).1 (R.getD i bm).2.1 E:=by
   show bZ _ _ l+bZ _ _ E=_
   rw[VF.2];rfl
  rw[ef]
  generalize hS:ed (R.getD i bm)+bZ (R.getD i bm).1 (R.getD i bm).2.1 E=v
  by_cases hF:aD v
  ·rw[aj hF,aj hF,hr _ (by
    split
    ·omega
    ·rw[aS,aI];omega)]
   cases eh aD (fS l E) ((R.drop (i+1)).map keyOf)with
   |none=>rfl
   |some o=>
    show uU (some _)=uU (some _)
    congr 2
    split
    ·rfl
    ·exact bu _ _ _
  ·rw[ah hF,ah hF];rfl
 ·unfold ct.l26 ct.aap
  rw[aP ω,av,WT,ar]
  show _=uU (some (out++[]))
  rw[ck];rfl
theorem af3(N:Nat)(C:ct.mI){l:au}{E S:di}{K:List cX}(hs:s7 K)(hl:K.length≤100000)(hf: ∀k∈K,AG k)(x:uY)(k:cX)(hxk:(x.1,x.2.1)=k)(hx:AG k)(hz:zeroAt l K k)(len:Int)(i:Nat)(hi:i≤1000000):
  ∀(m n p:Nat),K.length-p≤m→m<n→p≤K.length→(∀y∈K.take p,s6 y k)→
   ct.IV N C n E (rowsOf l K) x (p:Int) S len (i:Int)=C E (rowsOf l (K.take p++w7 k (K.drop p))) S len ((i+1:Nat):Int)
 |m,0,p,_,hn,_,_=>ω
 |m,n+1,p,hm,hn,hp,hb=>by
  unfold ct.IV ct.FO ct.j21 ct.ahR
  rw[eo,ay (x:=(i:Int)+1) ω ω,ag i]
  have ex:((x.1,(x.2.1,((0:Int),()))):dh)=(k.1,(k.2,((0:Int),()))):=by rw[←hxk]
  by_cases h:p<K.length
  ·have hfk:=hf (K.getD p (0,0)) (by rw[aU,bl h];exact dA h)
   have ho:Qp N x.1 x.2.1 ((rowsOf l K).getD p bm)=some (BH k.1 k.2 (K.getD p (0,0)).1 (K.getD p (0,0)).2):=by
    rw[IK l h]
    rw[←hxk]at hx ⊢
    exact FF N hx.1 hx.2 hfk.1 hfk.2
   rw[aT ω,aq,a6 ω ω,aq,aJ,ho,ar,dX (x:=(p:Int)) ω,av,aq,ar,cR,cond_not,aN,Sh h]
   by_cases h1:s6 (K.getD p (0,0)) k
   ·rw[aj (AF.2 h1),aj h1,ay (x:=(p:Int)+1) ω ω,ag p,AH h]
    refine af3 N C hs hl hf x k hxk hx hz len i hi (m-1) n (p+1) ω ω ω λy hy=> ?_
    rw[←pX h]at hy
    rcases ba.1 hy with hy|hy
    ·exact hb y hy
    ·rw[aU,bl h]at h1
     rw[bV.1 hy];exact h1
   ·rw[ah (λh=>h1 (AF.1 h)),ah h1]
    by_cases h2:K.getD p (0,0)=k
    ·rw[aj (xM.2 h2),aj h2,gl]
    ·rw[ah (λh=>h2 (xM.1 h)),ah h2,D6 N (by rw[eo];omega) (by rw[eo];omega),ar]
     have Dq:=hz (uX hs hb (Si hs h h1 h2))
     have e:=uW l K p k
     rw[←xN Dq]at e
     refine Eq.trans ?_ (fj (λR=>C E R S len ((i+1:Nat):Int)) e)
     exact fj (λz:dh=>C E ((rowsOf l K).take p++z::(rowsOf l K).drop p) S len ((i+1:Nat):Int)) ex
  ·have hd:K.drop p=[]:=vR ω
   rw[aP ω,av,dP ω,aq,D6 N (by rw[eo];omega) (by rw[eo];omega),ar]
   have Dq:=hz (uX hs hb (by rw[hd];exact λx hx=>nomatch hx))
   have e:=uW l K p k
   rw[←xN Dq]at e
   have e2:w7 k (K.drop p)=k::K.drop p:=by rw[hd];rfl
   rw[e2]
   refine Eq.trans ?_ (fj (λR=>C E R S len ((i+1:Nat):Int)) e)
   exact fj (λz:dh=>C E ((rowsOf l K).take p++z::(rowsOf l K).drop p) S len ((i+1:Nat):Int)) ex
theorem T6(N:Nat)(hN:2000000≤N){l E:au}(hq:BN E)(hE:E.length≤400)(hp: ∀x∈E,AG (keyOf x))(hs:s7 (l.map keyOf))(hl:l.length≤90000)(WQ:dT l)(IN: ∀x∈l,AG (keyOf x)):
  ct.w4 N N (E.map jU) l (E.map jU) ((E.map jU).length:Int) 0=uU (eh aD (fS l E) (ny (l.map keyOf) E)):=by
 have:=om E bm (λn i K=>ct.w4 N n (E.map jU) (rowsOf l K) (E.map jU) ((E.map jU).length:Int) i) (λt K=>uU (eh aD (fS l E) (ny K t)))
  (λi (K:List cX)=>K.length≤l.length+i∧s7 K∧(∀k∈K,AG k)∧ ∀x∈l,keyOf x∈K)
  (λn i K hi hI hr=> ?_) (λn K hI=> ?_) E.length N 0 (l.map keyOf) ω ω ω ⟨by rw[cy];omega,hs,λk hk=>by
   obtain⟨x,hx,rfl⟩:=cD.1 hk
   exact IN x hx,λx hx=>eS hx⟩
 ·rw[show((0:Nat):Int)=0 from rfl,c0]at this
  simp only[mH hs]at this
  exact this
 ·unfold ct.w4 ct.vH
  obtain⟨h1,h2,h3,h4⟩:=hI
  have hm:E.getD i bm∈E:=by
   rw[aU,bl hi];exact dA hi
  rw[aT (by rw[cy];omega),aq,a6 ω (by rw[cy];omega),aq,aJ,KD]
  refine(af3 N _ h2 ω h3 (jU (E.getD i bm)) (keyOf (E.getD i bm)) rfl (hp _ hm) (λhk=>gw λhx=>hk (by
   obtain⟨x,hx,e⟩:=cD.1 hx
   rw[←e];exact h4 x hx)) ((E.map jU).length:Int) i ω K.length N 0 ω ω ω (λy hy=>nomatch hy)).trans ?_
  rw[oW,cL,c0,sL]
  refine hr (w7 (keyOf (E.getD i bm)) K) ⟨cq (FM _ K) ω,AD h2,λk hk=>(rq.1 hk).elim (λe=>e▸hp _ hm) (h3 k),λx hx=>rq.2 (Or.inr (h4 x hx))⟩
 ·unfold ct.w4 ct.vH
  obtain⟨h1,h2,h3,h4⟩:=hI
  rw[aP (by rw[cy];omega),av,eo,cO ω ω ω,aq]
  have:=T4 N hN (l:=l) (R:=rowsOf l K) hq ω (by rw[eo];omega) (λr hr=>by
   unfold rowsOf at hr
   obtain⟨k,hk,rfl⟩:=cD.1 hr
   refine⟨?_,rfl⟩
   show aD (bZ k.1 k.2 l)
   by_cases hkl:k∈l.map keyOf
   ·have e:rowsOf l (l.map keyOf)=l:=mH hs
    have hm:DI l k∈rowsOf l (l.map keyOf):=eS hkl
    rw[e]at hm
    exact WQ (DI l k) hm
   ·rw[gw hkl];exact⟨δ,δ⟩)
  rw[CS,eo]at this
  exact this
theorem oz{l:au}(h:eC l=true):s7 (l.map keyOf)∧(∀x∈l,cS x.1 x.2.1):=by
 unfold eC at h
 rw[fX]at h
 have h':=bz h
 have get: ∀(i:Nat) (hi:i<l.length),l.getD i bm=l[i]:=λi hi=>by rw[aU,bl hi];rfl
 have WR: ∀i,i+1<l.length→s6 (keyOf (l.getD i bm)) (keyOf (l.getD (i+1) bm)):=λi hi=>(h' (i+1) hi).2.2 ω
 have fb: ∀j,j<l.length→ ∀i,i<j→s6 (keyOf (l.getD i bm)) (keyOf (l.getD j bm)):=by
  intro j
  induction j with
  |zero=>intro _ i hi;omega
  |succ j ih=>
   intro hj i hi
   by_cases e:i=j
   ·rw[e];exact WR j hj
   ·exact xL (ih ω i ω) (WR j hj)
 refine⟨?_,λx hx=> ?_⟩
 ·refine tj.2 (uq.2 λi j hi hj pQ=> ?_)
  have:=fb j hj i pQ
  rw[get i hi,get j hj]at this
  exact this
 ·obtain⟨i,hi,e⟩:=gm hx
  have:=h' i hi
  unfold lE mi at this
  rw[get i hi,e]at this
  exact this.1
structure WV(E:au):Prop where
 key: ∀x∈E,cS x.1 x.2.1
 q:BN E
 len:E.length≤400
 zero:(E.map ed).sum=0
theorem Sk{x:dh}(h:cS x.1 x.2.1):AG (keyOf x):=by
 have h':cS (keyOf x).1 (keyOf x).2:=h
 unfold cS at h'
 unfold AG HJ
 omega
theorem WW(N:Nat)(hN:2000000≤N){l E:au}(hk:eC l=true)(hl:l.length≤90000)(WQ:dT l)(g:WV E):ct N l (E.map jU)=uU (eh aD (fS l E) (ny (l.map keyOf) E)):=by
 obtain⟨hs,IN⟩:=oz hk
 have hE:=g.len
 unfold ct ct.b
 rw[D3 N ω ω,hk,ar,bt,av,aP (by rw[cy];omega),av,cO ω ω (by rw[cy];omega),aq]
 have:=om E bm (λn i (ws:List Int)=>ct.l5 N n l (E.map jU) (ws.map dQ) (E.map jU) ((E.map jU).length:Int) i)
  (λt ws=>if(ws++t.map ed).sum=0 then uU (eh aD (fS l E) (ny (l.map keyOf) E))else none)
  (λj (ws:List Int)=>ws.length≤j∧(ws++(E.drop j).map ed).sum=0∧ ∀x∈ws,dm x)
  (λn i ws hi hI hr=> ?_) (λn ws hI=> ?_) E.length N 0 [] ω ω ω ⟨aG _,g.zero,λx hx=>nomatch hx⟩
 ·rw[show((0:Nat):Int)=0 from rfl,c0]at this
  refine Eq.trans this ?_
  rw[cL,aj g.zero]
 ·unfold ct.l5 ct.eg
  have hm:E.getD i bm∈E:=by
   rw[aU,bl hi];exact dA hi
  have Tw:Qn N (jU (E.getD i bm)).1 (jU (E.getD i bm)).2.1=some true:=by
   rw[Qm]
   exact fj some (bs (g.key _ hm))
  rw[aT (by rw[cy];omega),aq,a6 ω (by rw[cy];omega),aq,aJ,KD,Tw,ar,bt,av,bL (by rw[cy,aI];omega),aq,ay (x:=(i:Int)+1) ω ω,ag i]
  have h0:=hI.2.1
  rw[drop_cons hi bm,bW]at h0
  have:=hr (ws++[ed (E.getD i bm)]) ⟨by rw[aS,aI];omega,by rw[bu];exact h0,ru hI.2.2 (KE g.q i)⟩
  rw[cZ]at this
  refine this.trans ?_
  rw[bu];rfl
 ·unfold ct.l5 ct.eg
  have h0:=hI.2.1
  rw[mZ,je,ck]at h0
  rw[aP (by rw[cy];omega),av,D2 N hI.2.2 ω ω,ar,h0]
  have e0:FD 0=(dQ 0,true):=by unfold FD;exact aj ⟨δ,δ⟩
  rw[e0]
  dsimp only
  rw[bt,av,Az,ar,show vw 0=0 from rfl,dP rfl,bt,av,w8 N ω,ar]
  rw[je,ck,aj h0]
  exact T6 N hN g.q hE (λx hx=>Sk (g.key x hx)) hs hl WQ (λx hx=>Sk (IN x hx))
end VM
end
section
namespace VM
open Go VM.F
def g7(r:dh):ahS:=(r.1,(r.2.1,(cP (ed r),())))
theorem WX{E:au}{i:Nat}(h:i<E.length):(E.map g7).getD i ((0:Int),((0:Int),((false,py),())))=g7 (E.getD i bm):=by
 rw[aU,pZ,bl h,aU,bl h];rfl
theorem KG{v:Int}{n:Nat}(hn:n≤1000000)(h0: -(170141183460469231731687303715884105728*(n:Int))≤v)(h1:v≤170141183460469231731687303715884105728*(n:Int)):Fit v 900000:=by
 have h5:Fit v 5:=by
  unfold Fit
  rw[show(4294967296:Nat)^5=1461501637330902918203684832716283019655932542976 from rfl]
  omega
 exact h5.mono ω
theorem AK{v:Int}(h:dm v):Fit v 900000:=KG (n:=1) ω (by have:=h.1;omega) (by have:=h.2;omega)
theorem T7(N:Nat)(hN:4000000≤N){E:au}(hq:BN E)(hl:E.length≤100000)(q a b:Int)(hF:aD q):nB N q a b (E.map g7)=some (BG (q+bZ a b E)):=by
 unfold nB nB.b
 have:=om E bm (λn j ws=>nB.l3 N n q a b (E.map g7) (cP ws.sum) (!ws.isEmpty) j)
  (λt ws=>some (BG (q+(ws++dd a b t).sum)))
  (λj (ws:List Int)=>ws.length≤j∧ ∀x∈ws,dm x)
  (λn j ws hj hI eO=> ?_) (λn ws hI=> ?_) E.length N 0 [] ω ω ω ⟨aG _,λx hx=>nomatch hx⟩
 ·rw[show((0:Nat):Int)=0 from rfl,c0,iI,gU]at this
  exact this
 ·unfold nB.l3 nB.nT
  have QA:=KE hq j
  have hb:=Ku hI.2
  have Hu:xJ N (cP ws.sum) (g7 (E.getD j bm)).2.2.1=some (cP (ws.sum+ed (E.getD j bm))):=g5 N ω (KG (n:=ws.length) ω hb.1 hb.2) (AK QA)
  rw[aT (by rw[cy];omega),aq,a6 ω (by rw[cy];omega),aq,aq,aq,aJ,WX hj,Hu,ar,ay (x:=(j:Int)+1) ω ω,ag j,aN,aN]
  by_cases h1:(E.getD j bm).1=a
  ·by_cases h2:(E.getD j bm).2.1=b
   ·have hc:dd a b (E.getD j bm::E.drop (j+1))=ed (E.getD j bm)::dd a b (E.drop (j+1)):=by rw[eM,aj ⟨h1,h2⟩]
    rw[aj (show(g7 (E.getD j bm)).1=a from h1),aj (show(g7 (E.getD j bm)).2.1=b from h2),hc]
    have:=eO (ws++[ed (E.getD j bm)]) ⟨by rw[aS,aI];omega,ru hI.2 QA⟩
    rw[lT,cz,iI,fY,bu]at this
    refine Eq.trans ?_ this
    rw[show(!(ws++[ed (E.getD j bm)]).isEmpty)=true by cases ws<;>rfl]
   ·have hc:dd a b (E.getD j bm::E.drop (j+1))=dd a b (E.drop (j+1)):=by rw[eM,ah (λh=>h2 h.2)]
    rw[aj (show(g7 (E.getD j bm)).1=a from h1),ah (show ¬(g7 (E.getD j bm)).2.1=b from h2),hc]
    exact eO ws ⟨ω,hI.2⟩
  ·have hc:dd a b (E.getD j bm::E.drop (j+1))=dd a b (E.drop (j+1)):=by rw[eM,ah (λh=>h1 h.1)]
   rw[ah (show ¬(g7 (E.getD j bm)).1=a from h1),hc]
   exact eO ws ⟨ω,hI.2⟩
 ·unfold nB.l3 nB.nT
  have hs:=Ku hI.2
  have Sb:=hF
  unfold aD at Sb
  rw[aP (by rw[cy];omega),av,cv N ω Sb.1 Sb.2,ar,g5 N ω (KG (n:=ws.length) ω hs.1 hs.2) ((Fit.i64 Sb.1 Sb.2).mono ω),ar,ri,ar,cond_not]
  show _=some (BG (q+(ws++[]).sum))
  rw[ck,EJ ws.sum q]
  cases ws with
  |nil=>
   show some (q,true)=some (BG (q+0))
   rw[fY,nz hF]
  |cons w ws=>rfl
theorem aaq{l:au}(hs:s7 (l.map keyOf))(hl:dT l)(k:cX):aD (bZ k.1 k.2 l):=by
 by_cases hk:k∈l.map keyOf
 ·have hm:DI l k∈rowsOf l (l.map keyOf):=eS hk
  rw[mH hs]at hm
  exact hl (DI l k) hm
 ·rw[gw hk];exact⟨δ,δ⟩
theorem Nw(N:Nat)(hN:4000000≤N)(C:du.ca){l E:au}(hq:BN E)(hl:E.length≤100000)(hs:s7 (l.map keyOf))(He:l.length≤100000)(hf:dT l)(hw: ∀x∈l,0≤(keyOf x).2∧(keyOf x).2<(25:Nat))(a:Nat)(ha:a≤24)(G:List cX)
  (hc: ∀(p:Nat) (out:au),Mark l (a+1) 0 p→out.length≤25*(a+1)→C l (E.map g7) out (p:Int) ((a+1:Nat):Int)=vJ out (eh aD (fS l E) G)):
  ∀(m n b p:Nat) (out:au),b+m=25→m<n→Mark l a b p→out.length≤25*a+b→du.l7 N C n l (E.map g7) out (p:Int) (a:Int) (b:Int)=vJ out (eh aD (fS l E) (AI a b m++G))
 |m,0,b,p,out,_,hn,_,_=>ω
 |0,n+1,b,p,out,hb,_,hM,ho=>by
  have e:b=25:=ω
  subst e
  unfold du.l7 du.rj
  rw[fu ω,av,ay (x:=(a:Int)+1) ω ω,ag a]
  exact hc p out (hM.row hw) ω
 |m+1,n+1,b,p,out,hb,hn,hM,ho=>by
  have hp:=hM.le
  have ahP: ∀(p:Nat) (v:Int),Mark l a (b+1) p→du.l7 N C n l (E.map g7) (if v=0 then out else out++[((a:Int),((b:Int),(v,())))]) (p:Int) (a:Int) ((b+1:Nat):Int)=vJ (if v=0 then out else out++[((a:Int),((b:Int),(v,())))]) (eh aD (fS l E) (AI a (b+1) m++G)):=λp v h=>
   Nw N hN C hq hl hs He hf hw a ha G hc m n (b+1) p _ ω ω h (by
    split
    ·omega
    ·rw[aS,aI];omega)
  have xD:=aaq hs hf ((a:Int),(b:Int))
  unfold du.l7 du.rj
  show _=vJ out (eh aD (fS l E) (((a:Int),(b:Int))::(AI a (b+1) m++G)))
  rw[fH (x:=(b:Int)) ω,aq,cR,aN,aN,aJ]
  have fin: ∀(p:Nat) (q:Int),q=bZ (a:Int) (b:Int) l→Mark l a (b+1) p→du.Sj N C (du.l7 N C n) l (E.map g7) out (p:Int) (a:Int) (b:Int) q=vJ out (eh aD (fS l E) (((a:Int),(b:Int))::(AI a (b+1) m++G))):=λp q e h=>by
   subst e
   unfold du.Sj du.KC
   rw[T7 N hN hq hl _ _ _ xD,ar]
   refine Eq.trans ?_ (IQ (k:=((a:Int),(b:Int))) (v:=bZ (a:Int) (b:Int) l+bZ (a:Int) (b:Int) E) rfl)
   generalize bZ (a:Int) (b:Int) l+bZ (a:Int) (b:Int) E=v
   have hr:=ahP p v h
   by_cases hv:aD v
   ·rw[nz hv,aj hv]
    dsimp only
    rw[bt,av,cond_not,aN,bL (by rw[aI];omega),aq,ay (x:=(b:Int)+1) ω ω,ag b,←hr]
    split<;>rfl
   ·rw[uV hv,ah hv];rfl
  rcases hM.step hs with⟨h1,h2,h3,h4,h5⟩|⟨h1,h2,h3⟩
  ·rw[aj (show(p:Int)<(l.length:Int)by omega),a6 ω ω,aq,aq,aj h2,aj h3,ay (x:=(p:Int)+1) ω ω,ag p,aq]
   exact fin (p+1) _ h4.symm h5
  ·by_cases g1:p<l.length
   ·rw[aj (show(p:Int)<(l.length:Int)by omega),a6 ω ω,aq,aq]
    by_cases g2:(l.getD p bm).1=(a:Int)
    ·rw[aj g2,ah (λg3=>h1 g1 g2 g3)]
     exact fin p _ h2.symm h3
    ·rw[ah g2]
     exact fin p _ h2.symm h3
   ·rw[ah (show ¬(p:Int)<(l.length:Int)by omega)]
    exact fin p _ h2.symm h3
theorem Nx(N:Nat)(hN:4000000≤N){l E:au}(hq:BN E)(hl:E.length≤100000)(hs:s7 (l.map keyOf))(He:l.length≤100000)(hf:dT l)(hw: ∀x∈l,0≤(keyOf x).2∧(keyOf x).2<(25:Nat)):
  ∀(m n a p:Nat) (out:au),a+m=8→m<n→Mark l a 0 p→out.length≤25*a→du.l4 N n l (E.map g7) out (p:Int) (a:Int)=vJ out (eh aD (fS l E) (yH 25 a m))
 |m,0,a,p,out,_,hn,_,_=>ω
 |0,n+1,a,p,out,ha,_,hM,ho=>by
  unfold du.l4 du.eK
  rw[fu ω,av]
  show some (out,true)=some (out++[],true)
  rw[ck]
 |m+1,n+1,a,p,out,ha,hn,hM,ho=>by
  unfold du.l4 du.eK
  rw[fH ω,aq]
  exact Nw N hN _ hq hl hs He hf hw a ω (yH 25 (a+1) m) (λp out h ho=>Nx N hN hq hl hs He hf hw m n (a+1) p out ω ω h ho) 25 N 0 p out ω ω hM ω
def nC:List cX:=yH 25 1 7
theorem Sl(N:Nat)(hN:4000000≤N){l E:au}(hk:eC l=true)(hl:l.length≤90000)(WQ:dT l)(hq:BN E)(hE:E.length≤100000):du N l (E.map g7)=vJ [] (eh aD (fS l E) nC):=by
 obtain⟨hs,IN⟩:=oz hk
 unfold du du.b
 refine Nx N hN hq hE hs ω WQ (λx hx=> ?_) 7 N 1 0 [] ω ω ⟨ω,λx hx=>(nomatch hx),λx hx fb=> ?_⟩ (by simp)
 ·have h:cS (keyOf x).1 (keyOf x).2:=IN x hx
  unfold cS at h;omega
 ·have h:cS (keyOf x).1 (keyOf x).2:=IN x (mX hx)
  unfold cS at h
  have wE:(keyOf x).1<((1:Nat):Int)∨((keyOf x).1=((1:Nat):Int)∧(keyOf x).2<((0:Nat):Int)):=fb
  omega
theorem WY{l E:au}(hk:eC l=true)(hp: ∀x∈E,cS x.1 x.2.1):eh aD (fS l E) (ny (l.map keyOf) E)=eh aD (fS l E) nC:=by
 obtain⟨hs,IN⟩:=oz hk
 refine Ns ⟨δ,δ⟩ (zb hs) (oy 25 7 1) (λk hk=> ?_) (λk hk hn=> ?_)
 ·have:cS k.1 k.2:=by
   rcases mv.1 hk with h|⟨x,hx,rfl⟩
   ·obtain⟨x,hx,rfl⟩:=cD.1 h
    exact IN x hx
   ·exact hp x hx
  unfold cS at this
  exact ox.2 ω
 ·have h1:k∉l.map keyOf:=λh=>hn (mv.2 (Or.inl h))
  have h2:k∉E.map keyOf:=λh=>by
   obtain⟨x,hx,e⟩:=cD.1 h
   exact hn (mv.2 (Or.inr ⟨x,hx,e⟩))
  unfold fS
  rw[gw h1,gw h2];rfl
def ew(b:an)(s e:au):an×Int:=
 match eh Fq (fS b.2.2.2.1 s) jC with
 |none=>((cn,(c9,(bH,(bH,(dB,(dR,())))))),2)
 |some s'=>match eh aD (fS b.2.2.1 e) nC with
  |none=>((cn,(c9,(bH,(bH,(dB,(dR,())))))),2)
  |some r'=>((b.1,(b.2.1,(r',(s',b.2.2.2.2)))),0)
theorem WZ(N:Nat){b:an}(w:im b):aar N b=some b:=by
 unfold aar
 have h1:=w.m;have h2:=w.a;have h3:=w.r;have h4:=w.s;have h5:=w.p;have h6:=w.o
 rw[w8 N ω,ar,w8 N ω,ar,w8 N ω,ar,w8 N ω,ar,w8 N ω,ar,w8 N ω,ar]
end VM
end
