/- A part of the proof of BookDrawn of layer 18: what the functions compute, in plain words. -/
import Derived.Test.YtecmobijochjkaaGreatPlain1
set_option linter.all false
section
namespace VM
open Go VM.F
theorem vh(N:Nat)(hN:200000≤N)(c:ae){l:aE}(hl:l.length≤100000):oC N c l=some (mj c l):=by
 unfold oC oC.b
 rw[mL N ω,ar]
 have hsc:=iB (F:=λn i=>oC.l4 N n l c i) (e:=true) (oz c l) (λn i r hi hp hr=> ?_) (λn=> ?_) N (show l.length<N by omega)
 ·rw[oy hsc];unfold mj
  rw[eZ,Bool.and_comm]
 ·unfold oC.l4 oC.dL
  rw[aQ ω,aj,aU ω ω,aj,aG,aw (x:=(i:Int)+1) ω ω,af,hr]
  by_cases h0:0<i
  ·have e:W .i64 ((i:Int)-1)=((i-1:Nat):Int):=by rw[aw ω ω];omega
   dsimp only
   rw[aQ (x:=0) (y:=(i:Int)) ω,e,aG,aU (i:=((i-1:Nat):Int)) ω ω]
   simp only[bZ,ct,aI,aj]
   by_cases hP:oz c l i
   ·rw[ak hP];unfold oz qP at hP
    rw[ah ω,ah ω,ah hP.2.2.1,ah (show ¬((l.getD i c5).2.1:Int)= -9223372036854775808 from hP.2.2.2.1),ah ω]
   ·rw[ah hP];unfold oz qP at hP
    have h2:=λh1 h2 h3 h4 h5=>hP ⟨h1,h2,h3,h4,h5⟩
    repeat' split
    all_goals first|rfl|(exfalso;exact h2 ω ω (by assumption) (by assumption) ω)
  ·rw[aP (x:=0) (y:=(i:Int)) ω]
   simp only[bZ,ct,aI,aj,av]
   by_cases hP:oz c l i
   ·rw[ak hP];unfold oz qP at hP
    rw[ah ω,ah ω,ah hP.2.2.1,ah (show ¬((l.getD i c5).2.1:Int)= -9223372036854775808 from hP.2.2.2.1)]
   ·rw[ah hP];unfold oz qP at hP
    have h2:=λh1 h2 h3 h4 h5=>hP ⟨h1,h2,h3,h4,h5⟩
    repeat' split
    all_goals first|rfl|(exfalso;exact h2 ω ω (by assumption) (by assumption) ω)
 ·unfold oC.l4 oC.dL
  rw[aP ω,av]
def Mk(a b c d:Int):Prop:=(1≤a∧a≤1099511627776)∧(1≤b∧b≤1099511627776)∧(1≤c∧c≤12)∧(-1152921504606846976≤d∧d≤1152921504606846976)
instance(a b c d:Int):Decidable (Mk a b c d):=by unfold Mk;infer_instance
def Kw(x:cL):Prop:=Mk x.1 x.2.1 x.2.2.1 x.2.2.2.1
instance(x:cL):Decidable (Kw x):=by unfold Kw;infer_instance
theorem UI(N:Nat)(x:cL):ZD N x=some (decide (Kw x)):=by
 unfold ZD
 rw[m8 x.2.2.2.1]
 repeat rw[ia]
 congr 1
 rw[p5,fR]
 unfold Kw Mk
 simp only[bP,xp]
 omega
def sP(m lot:Int)(x:cL):Bool:=decide (dI x.2.2.1 m)&&decide (dI x.2.1 lot)
def B2(l:aO)(i:Nat):Prop:=Kw (l.getD i ba)∧ve i (l.getD (i-1) ba).1 (l.getD i ba).1∧(l.take i).any (sP (l.getD i ba).2.2.1 (l.getD i ba).2.1)=false
instance(l:aO):DecidablePred (B2 l):=λi=>by unfold B2;infer_instance
def ZE(l:aO):Bool:=decide (∀j,j<l.length→B2 l j)&&decide (l.length≤40)
def dE(a b:Int):au→List Int
 |[]=>[]
 |x::t=>if x.1=a∧x.2.1=b then dT x::dE a b t else dE a b t
theorem fh(a b:Int)(x:dh)(t:au):dE a b (x::t)=if x.1=a∧x.2.1=b then dT x::dE a b t else dE a b t:=rfl
def cY(a b:Int)(l:au):Int:=(dE a b l).sum
theorem WJ(a b:Int):cY a b []=0:=rfl
theorem jV(a b:Int)(x:dh)(t:au):cY a b (x::t)=(if x.1=a∧x.2.1=b then dT x else 0)+cY a b t:=by
 unfold cY
 rw[fh]
 split
 ·rw[cK]
 ·omega
theorem lz{a b:Int}: ∀{l:au},(∀x∈l,¬(x.1=a∧x.2.1=b))→cY a b l=0
 |[],_=>rfl
 |x::t,h=>by
  rw[jV,ah (h x (bt ..)),lz (λy hy=>h y (a8 _ hy))];rfl
abbrev dq:=Int×Int
def uA(x y:dq):Prop:=mc x.1 x.2 y.1 y.2
instance(x y:dq):Decidable (uA x y):=by unfold uA;infer_instance
def keyOf(x:dh):dq:=(x.1,x.2.1)
def uB(K:List dq):Prop:=K.Pairwise uA
theorem pU{x:dq}(h:uA x x):False:=by unfold uA mc at h;omega
theorem Kx{x y:dq}(h:uA x y)(k:uA y x):False:=by unfold uA mc at*;omega
theorem ze{x y z:dq}(h:uA x y)(k:uA y z):uA x z:=by unfold uA mc at*;omega
theorem UJ(x y:dq):uA x y∨x=y∨uA y x:=by
 have:(x.1=y.1∧x.2=y.2)→x=y:=λh=>jr h.1 h.2
 unfold uA mc
 by_cases h1:x.1=y.1
 ·by_cases h2:x.2=y.2
  ·exact Or.inr (Or.inl (this ⟨h1,h2⟩))
  ·omega
 ·omega
theorem UK: ∀{a b:List dq},uB a→uB b→(∀x,x∈a↔x∈b)→a=b
 |[],[],_,_,_=>rfl
 |[],y::t,_,_,h=>nomatch (h y).2 (bt ..)
 |x::s,[],_,_,h=>nomatch (h x).1 (bt ..)
 |x::s,y::t,ha,hb,h=>by
  obtain⟨ha1,ha2⟩:=eT.1 ha
  obtain⟨nC,vx⟩:=eT.1 hb
  have X2:x=y:=by
   rcases bc.1 ((h x).1 (bt ..))with e|e
   ·exact e
   ·rcases bc.1 ((h y).2 (bt ..))with f|f
    ·exact f.symm
    ·exact(Kx (ha1 y f) (nC x e)).elim
  subst X2
  rw[UK ha2 vx λz=>⟨λhz=> ?_,λhz=> ?_⟩]
  ·rcases bc.1 ((h z).1 (a8 _ hz))with e|e
   ·subst e;exact(pU (ha1 z hz)).elim
   ·exact e
  ·rcases bc.1 ((h z).2 (a8 _ hz))with e|e
   ·subst e;exact(pU (nC z hz)).elim
   ·exact e
def eG(P:Int→Prop) [DecidablePred P](f:Int→Int→Int):List dq→Option au
 |[]=>some []
 |k::t=>if P (f k.1 k.2)then(eG P f t).map (λo=>if f k.1 k.2=0 then o else(k.1,(k.2,(f k.1 k.2,())))::o)else none
theorem lV(P:Int→Prop) [DecidablePred P](f:Int→Int→Int)(k:dq)(t:List dq):eG P f (k::t)=if P (f k.1 k.2)then(eG P f t).map (λo=>if f k.1 k.2=0 then o else(k.1,(k.2,(f k.1 k.2,())))::o)else none:=rfl
theorem Ei{P:Int→Prop} [DecidablePred P](h0:P 0){f:Int→Int→Int}(p:dq→Bool): ∀{K:List dq},(∀k∈K,p k=false→f k.1 k.2=0)→eG P f (K.filter p)=eG P f K
 |[],_=>rfl
 |k::t,h=>by
  have ih:=Ei h0 p (K:=t) (λx hx=>h x (a8 _ hx))
  cases hp:p k
  ·rw[List.filter_cons_of_neg (by rw[hp];decide),ih,lV,h k (bt ..) hp,ak h0]
   simp
  ·rw[List.filter_cons_of_pos hp,lV,lV,ih]
theorem Ph{P:Int→Prop} [DecidablePred P](h0:P 0){f:Int→Int→Int}{K G:List dq}(hK:uB K)(hG:uB G)(hs: ∀k∈K,k∈G)(hz: ∀k∈G,k∉K→f k.1 k.2=0):eG P f K=eG P f G:=by
 have e:K=G.filter (λk=>decide (k∈K)):=by
  refine UK hK (xl List.filter_sublist hG) λx=> ?_
  rw[se]
  exact⟨λh=>⟨hs x h,aV h⟩,λh=>bA h.2⟩
 rw[e]
 exact Ei h0 _ λk hk hp=>hz k hk (of_decide_eq_false hp)
def yp(k:dq):List dq→List dq
 |[]=>[k]
 |x::t=>if uA x k then x::yp k t else if x=k then x::t else k::x::t
theorem sQ{k x:dq}: ∀{K:List dq},x∈yp k K↔x=k∨x∈K
 |[]=>by show x∈[k]↔_;simp
 |y::t=>by
  show x∈(if uA y k then y::yp k t else if y=k then y::t else k::y::t)↔_
  split
  ·rw[bc,sQ,bc]
   exact⟨λh=>h.elim (λe=>Or.inr (Or.inl e)) (λh=>h.elim Or.inl (λh=>Or.inr (Or.inr h))),λh=>h.elim (λe=>Or.inr (Or.inl e)) (λh=>h.elim Or.inl (λh=>Or.inr (Or.inr h)))⟩
  ·split
   ·rename_i e
    rw[←e]
    exact⟨Or.inr,λh=>h.elim (λe=>e▸bt ..) id⟩
   ·rw[bc]
theorem B3{k:dq}: ∀{K:List dq},uB K→uB (yp k K)
 |[],_=>eT.2 ⟨λ_ h=>(nomatch h),List.Pairwise.nil⟩
 |y::t,h=>by
  obtain⟨h1,h2⟩:=eT.1 h
  show uB (if uA y k then y::yp k t else if y=k then y::t else k::y::t)
  split
  ·rename_i hy
   exact eT.2 ⟨λz hz=>(sQ.1 hz).elim (λe=>e▸hy) (h1 z),B3 h2⟩
  ·rename_i hy
   split
   ·exact h
   ·rename_i he
    have hk:uA k y:=(UJ y k).elim (λh=>absurd h hy) (λh=>h.elim (λh=>absurd h he) id)
    exact eT.2 ⟨λz hz=>(bc.1 hz).elim (λe=>e▸hk) (λhz=>ze hk (h1 z hz)),h⟩
def oD(K:List dq)(E:au):List dq:=E.foldl (λK x=>yp (keyOf x) K) K
theorem tX(K:List dq)(x:dh)(E:au):oD K (x::E)=oD (yp (keyOf x) K) E:=rfl
theorem Ap: ∀{E:au} {K:List dq},uB K→uB (oD K E)
 |[],_,h=>h
 |x::E,K,h=>by rw[tX];exact Ap (B3 h)
theorem ns{k:dq}: ∀{E:au} {K:List dq},k∈oD K E↔(k∈K∨ ∃x∈E,keyOf x=k)
 |[],K=>by
  show k∈K↔_
  simp
 |x::E,K=>by
  rw[tX,ns,sQ]
  constructor
  ·rintro((rfl|h)|⟨y,hy,e⟩)
   ·exact Or.inr ⟨x,bt ..,rfl⟩
   ·exact Or.inl h
   ·exact Or.inr ⟨y,a8 _ hy,e⟩
  ·rintro(h|⟨y,hy,e⟩)
   ·exact Or.inl (Or.inr h)
   ·rcases bc.1 hy with rfl|hy
    ·exact Or.inl (Or.inl e.symm)
    ·exact Or.inr ⟨y,hy,e⟩
theorem HH(k:dq): ∀K:List dq,(yp k K).length≤K.length+1
 |[]=>aH _
 |y::t=>by
  show(if uA y k then y::yp k t else if y=k then y::t else k::y::t).length≤_
  have:=HH k t
  split
  ·rw[aT,aT];omega
  ·split<;>rw[aT]<;>(try rw[aT])<;>omega
def rowsOf(l:au)(K:List dq):au:=K.map λk=>(k.1,(k.2,(cY k.1 k.2 l,())))
theorem nJ{l:au}(h:uB (l.map keyOf)):rowsOf l (l.map keyOf)=l:=by
 have key: ∀(m:au),uB (m.map keyOf)→(∀x∈m,cY x.1 x.2.1 l=dT x)→rowsOf l (m.map keyOf)=m:=by
  intro m
  induction m with
  |nil=>intro _ _;rfl
  |cons x t ih=>
   intro hm hx
   have:=ih (eT.1 hm).2 (λy hy=>hx y (a8 _ hy))
   unfold rowsOf at*
   rw[bV,bV,this]
   congr 1
   show(x.1,(x.2.1,(cY x.1 x.2.1 l,())))=x
   rw[hx x (bt ..)];rfl
 refine key l h ?_
 clear key
 induction l with
 |nil=>intro x hx;nomatch hx
 |cons y t ih=>
  intro x hx
  obtain⟨h1,h2⟩:=eT.1 h
  have kQ: ∀z∈t,¬(z.1=y.1∧z.2.1=y.2.1):=λz hz e=>by
   have hk:=h1 (keyOf z) (fB hz)
   have he:keyOf z=keyOf y:=jr e.1 e.2
   rw[he]at hk
   exact pU hk
  rw[jV]
  rcases bc.1 hx with rfl|hx
  ·rw[ak ⟨rfl,rfl⟩,lz kQ];omega
  ·rw[ah (λe=>kQ x hx ⟨e.1.symm,e.2.symm⟩),ih h2 x hx];omega
instance(x:Int):Decidable (aF x):=by unfold aF;infer_instance
def Fq(x:Int):Prop:=aF x∧rA x
instance:DecidablePred Fq:=λx=>by unfold Fq;infer_instance
def wi(r:Option au):Option (au×Int):=some (match r with|some o=>(o,0)|none=>([],2))
def fS(l E:au)(a b:Int):Int:=cY a b l+cY a b E
theorem FN{α:Type}(N:Nat){l:List α}{i:Nat}{x:α}(hi:i≤l.length)(hl:l.length<1000000):rl N l (i:Int) [x]=some (l.take i++x::l.drop i):=by
 unfold rl
 rw[ak ⟨ω,ω,rfl,by unfold Bd;omega⟩]
 rfl
theorem wj{α:Type}(N:Nat){l:List α}(hl:l.length≤1000000):jv N l=some l:=by
 unfold jv
 rw[ak (by unfold Bd;omega)]
theorem HI(N:Nat){v:Int}(h:cE v):F92 N (cH v)=some (CX v):=ac1 N h.1 h.2
theorem wk{v:Int}(h:aF v):CX v=(v,true):=by unfold CX;exact ak h
theorem zf{v:Int}(h: ¬aF v):CX v=(0,false):=by unfold CX;exact ah h
theorem Db{ws:List Int}{x:Int}(h: ∀y∈ws,aF y)(hx:aF x): ∀y∈ws++[x],aF y:=λy hy=>by
 rcases bn.1 hy with hy|hy
 ·exact h y hy
 ·rw[cw.1 hy];exact hx
theorem Pj(N:Nat){l:au}:adb N l=some l:=by
 unfold adb
 rw[ed ω ω ω ω,aj]
 simp
theorem ZF(N:Nat)(hN:2000000≤N)(K:cN.Ky){E out R:au}(hq:eO E)(hl:E.length≤100000)(ho:out.length≤1000000)(r:dh)(hr:aF (dT r))(i:Nat)(hi:i≤1000000):
  cN.l27 N K N E out r [cH (dT r)] R (R.length:Int) (i:Int) E (E.length:Int) 0=
   if Fq (dT r+cY r.1 r.2.1 E)then K E (if dT r+cY r.1 r.2.1 E=0 then out else out++[(r.1,(r.2.1,(dT r+cY r.1 r.2.1 E,())))]) R (R.length:Int) ((i+1:Nat):Int)else some (bq,(2:Int)):=by
 have:=ll E bb (λn j ws=>cN.l27 N K n E out r (ws.map cH) R (R.length:Int) (i:Int) E (E.length:Int) j)
  (λt ws=>if Fq (ws++dE r.1 r.2.1 t).sum then K E (if(ws++dE r.1 r.2.1 t).sum=0 then out else out++[(r.1,(r.2.1,((ws++dE r.1 r.2.1 t).sum,())))]) R (R.length:Int) ((i+1:Nat):Int)else some (bq,(2:Int)))
  (λj (ws:List Int)=>ws.length≤j+1∧ ∀x∈ws,aF x)
  (λn j ws hj hI dZ=> ?_) (λn ws hI=> ?_) E.length N 0 [dT r] ω ω ω ⟨aH _,λx hx=>by rw[cw.1 hx];exact hr⟩
 ·rw[show((0:Nat):Int)=0 from rfl,cJ]at this
  refine this.trans ?_
  have e:([dT r]++dE r.1 r.2.1 E).sum=dT r+cY r.1 r.2.1 E:=by rw[Gd,cK];rfl
  rw[e]
 ·unfold cN.l27 cN.ade
  have lq:=wc hq j
  have jA:=lq
  unfold aF dT at jA
  rw[aQ ω,aj,aU ω ω,aj,aG,vY N jA.1 jA.2,ar,bH (by rw[cz,aK];omega),aj,aw (x:=(j:Int)+1) ω ω,af,aI,aI]
  by_cases h1:(E.getD j bb).1=r.1
  ·by_cases h2:(E.getD j bb).2.1=r.2.1
   ·have hc:dE r.1 r.2.1 (E.getD j bb::E.drop (j+1))=dT (E.getD j bb)::dE r.1 r.2.1 (E.drop (j+1)):=by rw[fh,ak ⟨h1,h2⟩]
    rw[ak h1,ak h2,hc]
    have:=dZ (ws++[dT (E.getD j bb)]) ⟨by rw[aS,aK];omega,Db hI.2 lq⟩
    rw[dp]at this
    refine this.trans ?_
    rw[bD];rfl
   ·have hc:dE r.1 r.2.1 (E.getD j bb::E.drop (j+1))=dE r.1 r.2.1 (E.drop (j+1)):=by rw[fh,ah (λh=>h2 h.2)]
    rw[ak h1,ah h2,hc]
    exact dZ ws ⟨ω,hI.2⟩
  ·have hc:dE r.1 r.2.1 (E.getD j bb::E.drop (j+1))=dE r.1 r.2.1 (E.drop (j+1)):=by rw[fh,ah (λh=>h1 h.1)]
   rw[ah h1,hc]
   exact dZ ws ⟨ω,hI.2⟩
 ·unfold cN.l27 cN.ade
  have hs:=Ku hI.2 ω
  rw[aP ω,av,Mf N hI.2 ω ω,ar]
  show _=if Fq (ws++[]).sum then K E (if(ws++[]).sum=0 then out else out++[(r.1,(r.2.1,((ws++[]).sum,())))]) R (R.length:Int) ((i+1:Nat):Int)else some (bq,(2:Int))
  rw[cy,HI N hs,ar]
  by_cases h1:aF ws.sum
  ·rw[wk h1]
   dsimp only
   rw[bg,av,tT,ar,cond_not,fW,cond_not,aI,bH (by rw[aK];omega),aj,aw (x:=(i:Int)+1) ω ω,af]
   by_cases h2:rA ws.sum
   ·rw[ak h2,ak (show Fq ws.sum from⟨h1,h2⟩)]
    split<;>rfl
   ·rw[ah h2,ah (λh=>h2 h.2)]
  ·rw[zf h1,ah (λh=>h1 h.1)]
   rfl
theorem WK(N:Nat)(hN:2000000≤N){l E R:au}(hq:eO E)(hl:E.length≤100000)(hR:R.length≤200000)(hv: ∀r∈R,aF (dT r)∧dT r=cY r.1 r.2.1 l):
  cN.l23 N N E [] R (R.length:Int) 0=wi (eG Fq (fS l E) (R.map keyOf)):=by
 have:=ll R bb (λn i out=>cN.l23 N n E out R (R.length:Int) i) (λt out=>wi ((eG Fq (fS l E) (t.map keyOf)).map (λo=>out++o))) (λi (out:au)=>out.length≤i)
  (λn i out hi hI hr=> ?_) (λn out hI=> ?_) R.length N 0 [] ω ω ω (aH _)
 ·rw[show((0:Nat):Int)=0 from rfl,cJ]at this
  refine this.trans ?_
  simp
 ·unfold cN.l23 cN.adg
  have hm:R.getD i bb∈R:=by
   rw[aW,bl hi];exact dF hi
  have R7:=hv _ hm
  have lq:=R7.1
  have jA:=lq
  unfold aF dT at jA
  rw[aQ ω,aj,aU ω ω,aj,aG,vY N jA.1 jA.2,ar]
  refine(ZF N hN _ hq hl ω _ lq i ω).trans ?_
  rw[bV,lV]
  have ef:fS l E (keyOf (R.getD i bb)).1 (keyOf (R.getD i bb)).2=dT (R.getD i bb)+cY (R.getD i bb).1 (R.getD i bb).2.1 E:=by
   show cY _ _ l+cY _ _ E=_
   rw[R7.2];rfl
  rw[ef]
  generalize hS:dT (R.getD i bb)+cY (R.getD i bb).1 (R.getD i bb).2.1 E=v
  by_cases hF:Fq v
  ·rw[ak hF,ak hF,hr _ (by
    split
    ·omega
    ·rw[aS,aK];omega)]
   cases eG Fq (fS l E) ((R.drop (i+1)).map keyOf)with
   |none=>rfl
   |some o=>
    show wi (some _)=wi (some _)
    congr 2
    split
    ·rfl
    ·exact bD _ _ _
  ·rw[ah hF,ah hF];rfl
 ·unfold cN.l23 cN.adg
  rw[aP ω,av,Pj,ar]
  show _=wi (some (out++[]))
  rw[cy];rfl
def Fa(l:au)(k:dq):dh:=(k.1,(k.2,(cY k.1 k.2 l,())))
theorem eS(l:au)(K:List dq):(rowsOf l K).length=K.length:=cz ..
theorem Kz(l:au){K:List dq}{p:Nat}(h:p<K.length):(rowsOf l K).getD p bb=Fa l (K.getD p (0,0)):=by
 unfold rowsOf
 rw[aW,n0,bl h,aW,bl h];rfl
theorem wm(l:au)(K:List dq)(p:Nat)(k:dq):(rowsOf l K).take p++Fa l k::(rowsOf l K).drop p=rowsOf l (K.take p++k::K.drop p):=by
 unfold rowsOf
 rw[dp,bV,List.map_take,List.map_drop];rfl
theorem Ej(l:au)(K:List dq):(rowsOf l K).map keyOf=K:=by
 unfold rowsOf
 rw[List.map_map]
 induction K with
 |nil=>rfl
 |cons k t ih=>rw[bV,ih];rfl
theorem B4{k x:dq}:0<CY k.1 k.2 x.1 x.2↔uA x k:=by
 unfold CY uA mc;split<;>omega
theorem zg{k x:dq}:CY k.1 k.2 x.1 x.2=0↔x=k:=by
 have:x=k↔x.1=k.1∧x.2=k.2:=⟨λh=>h▸⟨rfl,rfl⟩,λh=>jr h.1 h.2⟩
 rw[this]
 unfold CY;split<;>omega
def B5(k:dq):Prop:=JJ k.1∧JJ k.2
theorem UL{k:dq}{K:List dq}{p:Nat}(h:p<K.length):yp k (K.drop p)=if uA (K.getD p (0,0)) k then K.getD p (0,0)::yp k (K.drop (p+1))else if K.getD p (0,0)=k then K.drop p else k::K.drop p:=by
 rw[drop_cons h (0,0)];rfl
theorem B6{K:List dq}{p:Nat}(h:p<K.length)(t:List dq):K.take p++K.getD p (0,0)::t=K.take (p+1)++t:=by
 rw[←tK h,bD,aW,bl h];rfl
def zeroAt(l:au)(K:List dq)(k:dq):Prop:=k∉K→cY k.1 k.2 l=0
theorem zh{l:au}{k:dq}(h:cY k.1 k.2 l=0):((k.1,(k.2,((0:Int),()))):dh)=Fa l k:=by
 unfold Fa;rw[h]
theorem wo{k:dq}{K:List dq}{p:Nat}(hs:uB K)(hp: ∀x∈K.take p,uA x k)(h: ∀x∈K.drop p,uA k x):k∉K:=λhk=>by
 rw[←gP p K]at hk
 rcases bn.1 hk with hk|hk
 ·exact pU (hp k hk)
 ·exact pU (h k hk)
theorem UM{k:dq}{K:List dq}{p:Nat}(hs:uB K)(h:p<K.length)(h1: ¬uA (K.getD p (0,0)) k)(h2:K.getD p (0,0)≠k): ∀x∈K.drop p,uA k x:=by
 have hk:uA k (K.getD p (0,0)):=(UJ (K.getD p (0,0)) k).elim (λh=>absurd h h1) (λh=>h.elim (λh=>absurd h h2) id)
 have hd:uB (K.drop p):=xl (List.drop_sublist ..) hs
 rw[drop_cons h (0,0)]at hd ⊢
 intro x hx
 rcases bc.1 hx with rfl|hx
 ·exact hk
 ·exact ze hk ((eT.1 hd).1 x hx)
theorem aji(N:Nat)(C:cN.fP){l E S:au}{K:List dq}(hs:uB K)(hl:K.length≤100000)(hf: ∀k∈K,B5 k)(x:dh)(hx:B5 (keyOf x))(hz:zeroAt l K (keyOf x))(len:Int)(i:Nat)(hi:i≤1000000):
  ∀(m n p:Nat),K.length-p≤m→m<n→p≤K.length→(∀y∈K.take p,uA y (keyOf x))→
   cN.yj N C n E (rowsOf l K) x (p:Int) S len (i:Int)=C E (rowsOf l (K.take p++yp (keyOf x) (K.drop p))) S len ((i+1:Nat):Int)
 |m,0,p,_,hn,_,_=>ω
 |m,n+1,p,hm,hn,hp,hb=>by
  unfold cN.yj cN.w7 cN.j18 cN.alf
  rw[eS,aw (x:=(i:Int)+1) ω ω,af i]
  by_cases h:p<K.length
  ·have hfk:=hf (K.getD p (0,0)) (by rw[aW,bl h];exact dF h)
   have ho:Wp N x.1 x.2.1 ((rowsOf l K).getD p bb)=some (CY (keyOf x).1 (keyOf x).2 (K.getD p (0,0)).1 (K.getD p (0,0)).2):=by
    rw[Kz l h]
    exact Kt N hx.1 hx.2 hfk.1 hfk.2
   rw[aQ ω,aj,aU ω ω,aj,aG,ho,ar,eN (x:=(p:Int)) ω,av,aj,ar,bZ,cond_not,aI,UL h]
   by_cases h1:uA (K.getD p (0,0)) (keyOf x)
   ·rw[ak (B4.2 h1),ak h1,aw (x:=(p:Int)+1) ω ω,af p,B6 h]
    refine aji N C hs hl hf x hx hz len i hi (m-1) n (p+1) ω ω ω λy hy=> ?_
    rw[←tK h]at hy
    rcases bn.1 hy with hy|hy
    ·exact hb y hy
    ·rw[aW,bl h]at h1
     rw[cw.1 hy];exact h1
   ·rw[ah (λh=>h1 (B4.1 h)),ah h1]
    by_cases h2:K.getD p (0,0)=keyOf x
    ·rw[ak (zg.2 h2),ak h2,gP]
    ·rw[ah (λh=>h2 (zg.1 h)),ah h2,FN N (by rw[eS];omega) (by rw[eS];omega),ar]
     have AG:=hz (wo hs hb (UM hs h h1 h2))
     have e:=wm l K p (keyOf x)
     rw[←zh AG]at e
     exact e7 (λR=>C E R S len ((i+1:Nat):Int)) e
  ·have hd:K.drop p=[]:=xk ω
   rw[aP ω,av,ec ω,aj,FN N (by rw[eS];omega) (by rw[eS];omega),ar]
   have AG:=hz (wo hs hb (by rw[hd];exact λx hx=>nomatch hx))
   have e:=wm l K p (keyOf x)
   rw[←zh AG]at e
   have e2:yp (keyOf x) (K.drop p)=keyOf x::K.drop p:=by rw[hd];rfl
   rw[e2]
   exact e7 (λR=>C E R S len ((i+1:Nat):Int)) e
def KA(E:au)(i:Nat):Prop:=dI (dm (i:Int) E).sum 0
instance(E:au):DecidablePred (KA E):=λi=>by unfold KA;infer_instance
theorem adh(N:Nat)(hN:2000000≤N)(K:gY.cX){E:au}(hq:eO E)(hl:E.length≤100000)(a:Nat)(ha:a<6):
  gY.l6 N K N E (a:Int) [] (a:Int) E (E.length:Int) 0=if(dm (a:Int) E).sum=0 then K E ((a+1:Nat):Int)else some false:=by
 have:=ll E bb (λn j ws=>gY.l6 N K n E (a:Int) (ws.map cH) (a:Int) E (E.length:Int) j)
  (λt ws=>if(ws++dm (a:Int) t).sum=0 then K E ((a+1:Nat):Int)else some false)
  (λj (ws:List Int)=>ws.length≤j∧ ∀x∈ws,aF x)
  (λn j ws hj hI hr=> ?_) (λn ws hI=> ?_) E.length N 0 [] ω ω ω ⟨aH _,λx hx=>nomatch hx⟩
 ·rw[show((0:Nat):Int)=0 from rfl,cJ]at this
  exact this
 ·unfold gY.l6 gY.u7
  have lq:=wc hq j
  have jA:=lq
  unfold aF dT at jA
  rw[aQ ω,aj,aU ω ω,aj,aG,vY N jA.1 jA.2,ar,bH (by rw[cz,aK];omega),aj,aw (x:=(j:Int)+1) ω ω,af j,aI]
  by_cases h1:(E.getD j bb).2.1=(a:Int)
  ·have hc:dm (a:Int) (E.getD j bb::E.drop (j+1))=dT (E.getD j bb)::dm (a:Int) (E.drop (j+1)):=by rw[dA,ak h1]
   rw[ak h1,hc]
   have:=hr (ws++[dT (E.getD j bb)]) ⟨by rw[aS,aK];omega,Db hI.2 lq⟩
   rw[dp]at this
   refine this.trans ?_
   rw[bD];rfl
  ·have hc:dm (a:Int) (E.getD j bb::E.drop (j+1))=dm (a:Int) (E.drop (j+1)):=by rw[dA,ah h1]
   rw[ah h1,hc]
   exact hr ws ⟨ω,hI.2⟩
 ·unfold gY.l6 gY.u7
  rw[aP ω,av,Mf N hI.2 ω ω,ar]
  show _=if(ws++[]).sum=0 then K E ((a+1:Nat):Int)else some false
  rw[cy,bg,av,BY,ar,cond_not,aI,aw (x:=(a:Int)+1) ω ω,af a]
  by_cases h:ws.sum=0
  ·rw[ak h,ak (jB.2 h)]
  ·rw[ah h,ah (λk=>h (jB.1 k))]
theorem ZG(N:Nat)(hN:2000000≤N){E:au}(hq:eO E)(hl:E.length≤100000):gY N E=some (decide (∀j,j<ky→KA E j)&&true):=by
 unfold gY gY.b
 refine iB (len:=ky) (F:=λn i=>gY.l2 N n E i) (KA E) (λn i r hi hp hr=> ?_) (λn=> ?_) N (by unfold ky;omega)
 ·unfold gY.l2 gY.fI
  unfold ky at hi
  rw[aQ ω,aj,adh N hN _ hq hl i hi,hr]
  unfold KA dI
  rfl
 ·unfold gY.l2 gY.fI
  rw[aP (by unfold ky;omega),av]
structure Pk(E:au):Prop where
 place: ∀x∈E,cc x.1 x.2.1
 q: ∀x∈E,aF (dT x)∧rA (dT x)
 len:E.length≤400
 flat: ∀i:Int,(dm i E).sum=0
theorem KB{x:dh}(h:cc x.1 x.2.1):B5 (keyOf x):=by
 have h':cc (keyOf x).1 (keyOf x).2:=h
 unfold cc at h'
 unfold B5 JJ
 omega
theorem gU{l:au}{k:dq}(h:k∉l.map keyOf):cY k.1 k.2 l=0:=lz λx hx e=>h (by
 have:keyOf x=k:=jr e.1 e.2
 rw[←this];exact fB hx)
theorem WL(N:Nat)(hN:2000000≤N){l E:au}(hq:eO E)(hE:E.length≤400)(hp: ∀x∈E,B5 (keyOf x))(hs:uB (l.map keyOf))(hl:l.length≤90000)(Uc:eO l)(Nv: ∀x∈l,B5 (keyOf x)):
  cN.my N N E l E (E.length:Int) 0=wi (eG Fq (fS l E) (oD (l.map keyOf) E)):=by
 have:=ll E bb (λn i K=>cN.my N n E (rowsOf l K) E (E.length:Int) i) (λt K=>wi (eG Fq (fS l E) (oD K t)))
  (λi (K:List dq)=>K.length≤l.length+i∧uB K∧(∀k∈K,B5 k)∧ ∀x∈l,keyOf x∈K)
  (λn i K hi hI hr=> ?_) (λn K hI=> ?_) E.length N 0 (l.map keyOf) ω ω ω ⟨by rw[cz];omega,hs,λk hk=>by
   obtain⟨x,hx,rfl⟩:=cV.1 hk
   exact Nv x hx,λx hx=>fB hx⟩
 ·rw[show((0:Nat):Int)=0 from rfl,cJ]at this
  simp only[nJ hs]at this
  exact this
 ·unfold cN.my cN.ly
  obtain⟨h1,h2,h3,h4⟩:=hI
  have hm:E.getD i bb∈E:=by
   rw[aW,bl hi];exact dF hi
  rw[aQ ω,aj,aU ω ω,aj,aG]
  refine(aji N _ h2 ω h3 (E.getD i bb) (hp _ hm) (λhk=>gU λhx=>hk (by
   obtain⟨x,hx,e⟩:=cV.1 hx
   rw[←e];exact h4 x hx)) (E.length:Int) i ω K.length N 0 ω ω ω (λy hy=>nomatch hy)).trans ?_
  rw[mB,cB,cJ,tX]
  refine hr (yp (keyOf (E.getD i bb)) K) ⟨cA (HH _ K) ω,B3 h2,λk hk=>(sQ.1 hk).elim (λe=>e▸hp _ hm) (h3 k),λx hx=>sQ.2 (Or.inr (h4 x hx))⟩
 ·unfold cN.my cN.ly
  obtain⟨h1,h2,h3,h4⟩:=hI
  rw[aP ω,av,eS,c9 ω ω ω,aj]
  have:=WK N hN (l:=l) (R:=rowsOf l K) hq ω (by rw[eS];omega) (λr hr=>by
   unfold rowsOf at hr
   obtain⟨k,hk,rfl⟩:=cV.1 hr
   refine⟨?_,rfl⟩
   show aF (cY k.1 k.2 l)
   by_cases hkl:k∈l.map keyOf
   ·have e:rowsOf l (l.map keyOf)=l:=nJ hs
    have hm:Fa l k∈rowsOf l (l.map keyOf):=fB hkl
    rw[e]at hm
    exact Uc (Fa l k) hm
   ·rw[gU hkl];exact⟨δ,δ⟩)
  rw[Ej,eS]at this
  exact this
theorem eU{l:au}(h:di l=true):uB (l.map keyOf)∧(∀x∈l,cc x.1 x.2.1∧rA (dT x)):=by
 unfold di at h
 rw[eZ]at h
 have h':=bA h
 have get: ∀(i:Nat) (hi:i<l.length),l.getD i bb=l[i]:=λi hi=>by rw[aW,bl hi];rfl
 have ZH: ∀i,i+1<l.length→uA (keyOf (l.getD i bb)) (keyOf (l.getD (i+1) bb)):=λi hi=>(h' (i+1) hi).2.2.2 ω
 have eV: ∀j,j<l.length→ ∀i,i<j→uA (keyOf (l.getD i bb)) (keyOf (l.getD j bb)):=by
  intro j
  induction j with
  |zero=>intro _ i hi;omega
  |succ j ih=>
   intro hj i hi
   by_cases e:i=j
   ·rw[e];exact ZH j hj
   ·exact ze (ih ω i ω) (ZH j hj)
 refine⟨?_,λx hx=> ?_⟩
 ·refine uK.2 (vB.2 λi j hi hj qI=> ?_)
  have:=eV j hj i qI
  rw[get i hi,get j hj]at this
  exact this
 ·obtain⟨i,hi,e⟩:=gJ hx
  have:=h' i hi
  unfold mN nn at this
  rw[get i hi,e]at this
  exact⟨this.1,this.2.2.1⟩
theorem adi(N:Nat)(hN:2000000≤N){l E:au}(hk:di l=true)(hl:l.length≤90000)(Uc:eO l)(g:Pk E):cN N l E=wi (eG Fq (fS l E) (oD (l.map keyOf) E)):=by
 obtain⟨hs,Nv⟩:=eU hk
 have hE:=g.len
 unfold cN cN.b
 rw[yf N ω ω,hk,ar,bg,av,aP ω,av]
 refine Ee E bb (λn i=>cN.l4 N n l E E (E.length:Int) i) (λ_=>wi (eG Fq (fS l E) (oD (l.map keyOf) E))) (λn i hi hr=> ?_) (λn=> ?_) N ω
 ·unfold cN.l4 cN.dL
  have hm:E.getD i bb∈E:=by
   rw[aW,bl hi];exact dF hi
  rw[aQ ω,aj,aU ω ω,aj,aG,UB,aV (g.place _ hm),ar,bg,av,tT,ar,
   aV (show rA ((E.getD i bb).2.2.1)from(g.q _ hm).2),bg,av,aw (x:=(i:Int)+1) ω ω,af i]
  exact hr
 ·unfold cN.l4 cN.dL
  have hf:gY N E=some true:=by
   rw[ZG N hN (λx hx=>(g.q x hx).1) ω,aV (p:= ∀j,j<ky→KA E j) (λj _=>g.flat (j:Int))];rfl
  rw[aP ω,av,hf,ar,bg,av,wj N ω,ar]
  exact WL N hN (λx hx=>(g.q x hx).1) hE (λx hx=>KB (g.place x hx)) hs hl Uc (λx hx=>KB (Nv x hx).1)
def B7(a b:Nat):Nat→List dq
 |0=>[]
 |m+1=>((a:Int),(b:Int))::B7 a (b+1) m
def zN(w a:Nat):Nat→List dq
 |0=>[]
 |m+1=>B7 a 0 w++zN w (a+1) m
theorem B8{k:dq}{a:Nat}: ∀{m b:Nat},k∈B7 a b m↔k.1=a∧(b:Int)≤k.2∧k.2<(b+m:Nat)
 |0,b=>⟨λh=>(nomatch h),λh=>ω⟩
 |m+1,b=>by
  show k∈((a:Int),(b:Int))::B7 a (b+1) m↔_
  rw[bc,B8]
  have:k=((a:Int),(b:Int))↔k.1=a∧k.2=b:=⟨λh=>h▸⟨rfl,rfl⟩,λh=>jr h.1 h.2⟩
  rw[this]
  omega
theorem px{k:dq}{w:Nat}: ∀{m a:Nat},k∈zN w a m↔(a:Int)≤k.1∧k.1<(a+m:Nat)∧0≤k.2∧k.2<w
 |0,a=>⟨λh=>(nomatch h),λh=>ω⟩
 |m+1,a=>by
  show k∈B7 a 0 w++zN w (a+1) m↔_
  rw[bn,B8,px]
  omega
theorem Pl(a:Nat): ∀(m b:Nat),uB (B7 a b m)
 |0,b=>List.Pairwise.nil
 |m+1,b=>eT.2 ⟨λk hk=>by
  have:=B8.1 hk
  show(a:Int)<k.1∨((a:Int)=k.1∧(b:Int)<k.2)
  omega,Pl a m (b+1)⟩
theorem py(w:Nat): ∀(m a:Nat),uB (zN w a m)
 |0,a=>List.Pairwise.nil
 |m+1,a=>xm.2 ⟨Pl a w 0,py w m (a+1),λx hx y hy=>by
  have h1:=B8.1 hx
  have h2:=px.1 hy
  show x.1<y.1∨(x.1=y.1∧x.2<y.2)
  omega⟩
structure Mark(l:au)(a b p:Nat):Prop where
 le:p≤l.length
 lo: ∀x∈l.take p,uA (keyOf x) ((a:Int),(b:Int))
 hi: ∀x∈l.drop p,¬uA (keyOf x) ((a:Int),(b:Int))
theorem vi{k:dq}{a b:Nat}:uA k ((a:Int),((b+1:Nat):Int))↔uA k ((a:Int),(b:Int))∨k=((a:Int),(b:Int)):=by
 have:k=((a:Int),(b:Int))↔k.1=a∧k.2=b:=⟨λh=>h▸⟨rfl,rfl⟩,λh=>jr h.1 h.2⟩
 rw[this]
 show(k.1<(a:Int)∨(k.1=(a:Int)∧k.2<((b+1:Nat):Int)))↔(k.1<(a:Int)∨(k.1=(a:Int)∧k.2<(b:Int)))∨_
 omega
theorem Mark.row{l:au}{a w p:Nat}(h:Mark l a w p)(hw: ∀x∈l,0≤(keyOf x).2∧(keyOf x).2<w):Mark l (a+1) 0 p:=by
 have key: ∀x∈l,(uA (keyOf x) ((a:Int),(w:Int))↔uA (keyOf x) (((a+1:Nat):Int),((0:Nat):Int))):=λx hx=>by
  have:=hw x hx
  show((keyOf x).1<(a:Int)∨((keyOf x).1=(a:Int)∧(keyOf x).2<(w:Int)))↔((keyOf x).1<((a+1:Nat):Int)∨((keyOf x).1=((a+1:Nat):Int)∧(keyOf x).2<((0:Nat):Int)))
  omega
 exact⟨h.le,λx hx=>(key x (lJ hx)).1 (h.lo x hx),λx hx k=>h.hi x hx ((key x (mW hx)).2 k)⟩
theorem Ml(a b:Int)(l m:au):cY a b (l++m)=cY a b l+cY a b m:=by
 induction l with
 |nil=>rw[cB,WJ];omega
 |cons x t ih=>rw[m0,jV,jV,ih];omega
theorem Mark.step{l:au}(hs:uB (l.map keyOf)){a b p:Nat}(h:Mark l a b p):
  (p<l.length∧(l.getD p bb).1=(a:Int)∧(l.getD p bb).2.1=(b:Int)∧cY (a:Int) (b:Int) l=dT (l.getD p bb)∧Mark l a (b+1) (p+1))∨
  ((p<l.length→(l.getD p bb).1=(a:Int)→(l.getD p bb).2.1=(b:Int)→False)∧cY (a:Int) (b:Int) l=0∧Mark l a (b+1) p):=by
 have no: ∀{x:dh} {k:dq},¬keyOf x=k→ ¬(x.1=k.1∧x.2.1=k.2):=λh e=>h (jr e.1 e.2)
 have hz:cY (a:Int) (b:Int) (l.take p)=0:=lz λx hx e=>by
  have e':keyOf x=((a:Int),(b:Int)):=jr e.1 e.2
  have:=h.lo x hx
  rw[e']at this
  exact pU this
 have JO:cY (a:Int) (b:Int) l=cY (a:Int) (b:Int) (l.drop p):=by
  conv=>lhs;rw[←gP p l]
  rw[Ml,hz];omega
 by_cases hp:p<l.length
 ·have hd:=drop_cons hp bb
  have hsd:uB ((l.drop p).map keyOf):=by
   rw[List.map_drop];exact xl (List.drop_sublist ..) hs
  have Kb:=h.hi
  rw[hd]at hsd Kb JO
  have hgt:=(eT.1 hsd).1
  have YV:=Kb _ (bt ..)
  have aqB:l.take (p+1)=l.take p++[l.getD p bb]:=by
   rw[←tK hp,aW,bl hp];rfl
  by_cases he:keyOf (l.getD p bb)=((a:Int),(b:Int))
  ·refine Or.inl ⟨hp,e7 Prod.fst he,e7 Prod.snd he,?_,ω,λx hx=> ?_,λx hx hk=> ?_⟩
   ·rw[JO,jV,ak ⟨e7 Prod.fst he,e7 Prod.snd he⟩,lz λx hx e=> ?_]
    ·omega
    ·have hg:=hgt (keyOf x) (fB hx)
     have e':keyOf x=((a:Int),(b:Int)):=jr e.1 e.2
     rw[he,e']at hg
     exact pU hg
   ·rw[aqB]at hx
    rcases bn.1 hx with hx|hx
    ·exact vi.2 (Or.inl (h.lo x hx))
    ·rw[cw.1 hx];exact vi.2 (Or.inr he)
   ·have hg:=hgt (keyOf x) (fB hx)
    rw[he]at hg
    rcases vi.1 hk with hk|hk
    ·exact Kx hg hk
    ·rw[hk]at hg;exact pU hg
  ·have iT: ∀x∈l.getD p bb::l.drop (p+1),keyOf x≠((a:Int),(b:Int)):=λx hx e=>by
    rcases bc.1 hx with rfl|hx
    ·exact he e
    ·have hg:=hgt (keyOf x) (fB hx)
     rw[e]at hg
     exact YV hg
   refine Or.inr ⟨λ_ e1 e2=>he (jr e1 e2),?_,h.le,λx hx=>vi.2 (Or.inl (h.lo x hx)),λx hx hk=> ?_⟩
   ·rw[JO]
    exact lz λx hx=>no (iT x hx)
   ·rw[hd]at hx
    rcases vi.1 hk with hk|hk
    ·exact Kb x hx hk
    ·exact iT x hx hk
 ·have hd:l.drop p=[]:=xk ω
  refine Or.inr ⟨λh=>absurd h hp,by rw[JO,hd];rfl,h.le,λx hx=>vi.2 (Or.inl (h.lo x hx)),λx hx=> ?_⟩
  rw[hd]at hx;nomatch hx
def w9(out:au)(r:Option au):Option (au×Bool):=some (match r with|some o=>(out++o,true)|none=>([],false))
theorem Mm(N:Nat)(v:Int):SU N (cF v)=some (if Fq v then(v,true)else(0,false)):=by
 unfold SU
 rw[uz,ar]
 by_cases h:aF v
 ·rw[wk h]
  dsimp only
  rw[bg,av,aI]
  by_cases h2:rA v
  ·rw[ah (show ¬v= -9223372036854775808 from h2),ak (show Fq v from⟨h,h2⟩)]
  ·rw[ak (show v= -9223372036854775808 by unfold rA at h2;omega),ah (λh=>h2 h.2)]
 ·rw[zf h,ah (λk=>h k.1)]
  rfl
theorem ZI(N:Nat)(hN:4000000≤N)(C4:cQ.bN)(C7:cQ.eP){l E out:au}(hq:eO E)(hl:E.length≤100000)(ho:out.length≤1000000)(p:Int)(a b:Nat)(hb:b≤1000000)(q:Int)(hF:Fq q):
  cQ.KC N C4 C7 N l E out p (a:Int) (b:Int) q false (false,(([]:List Int),())) 0=
   if Fq (q+cY (a:Int) (b:Int) E)then C7 l E (if q+cY (a:Int) (b:Int) E=0 then out else out++[((a:Int),((b:Int),(q+cY (a:Int) (b:Int) E,())))]) p (a:Int) ((b+1:Nat):Int)else some ([],false):=by
 have:=ll E bb (λn j ws=>cQ.KC N C4 C7 n l E out p (a:Int) (b:Int) q (!ws.isEmpty) (cF ws.sum) j)
  (λt ws=>if Fq (q+(ws++dE (a:Int) (b:Int) t).sum)then C7 l E (if q+(ws++dE (a:Int) (b:Int) t).sum=0 then out else out++[((a:Int),((b:Int),(q+(ws++dE (a:Int) (b:Int) t).sum,())))]) p (a:Int) ((b+1:Nat):Int)else some ([],false))
  (λj (ws:List Int)=>ws.length≤j∧ ∀x∈ws,aF x)
  (λn j ws hj hI dZ=> ?_) (λn ws hI=> ?_) E.length N 0 [] ω ω ω ⟨aH _,λx hx=>nomatch hx⟩
 ·rw[show((0:Nat):Int)=0 from rfl,cJ,jo,gX]at this
  exact this
 ·unfold cQ.KC cQ.JP
  have lq:=wc hq j
  have jA:=lq
  unfold aF dT at jA
  have hb:=O9 hI.2
  rw[aQ ω,aj,aU ω ω,aj,aj,aj,aG,da N ω jA.1 jA.2,ar,iO N ω ((BQ (n:=ws.length) ω hb.1 hb.2).mono ω) ((Fit.i64 jA.1 jA.2).mono ω),ar,aw (x:=(j:Int)+1) ω ω,af j,aI,aI]
  by_cases h1:(E.getD j bb).1=(a:Int)
  ·by_cases h2:(E.getD j bb).2.1=(b:Int)
   ·have hc:dE (a:Int) (b:Int) (E.getD j bb::E.drop (j+1))=dT (E.getD j bb)::dE (a:Int) (b:Int) (E.drop (j+1)):=by rw[fh,ak ⟨h1,h2⟩]
    rw[ak h1,ak h2,hc]
    have:=dZ (ws++[dT (E.getD j bb)]) ⟨by rw[aS,aK];omega,Db hI.2 lq⟩
    rw[nZ,cK,jo,jq,bD]at this
    refine Eq.trans ?_ this
    rw[show(!(ws++[dT (E.getD j bb)]).isEmpty)=true by cases ws<;>rfl]
    rfl
   ·have hc:dE (a:Int) (b:Int) (E.getD j bb::E.drop (j+1))=dE (a:Int) (b:Int) (E.drop (j+1)):=by rw[fh,ah (λh=>h2 h.2)]
    rw[ak h1,ah h2,hc]
    exact dZ ws ⟨ω,hI.2⟩
  ·have hc:dE (a:Int) (b:Int) (E.getD j bb::E.drop (j+1))=dE (a:Int) (b:Int) (E.drop (j+1)):=by rw[fh,ah (λh=>h1 h.1)]
   rw[ah h1,hc]
   exact dZ ws ⟨ω,hI.2⟩
 ·unfold cQ.KC cQ.JP
  have hs:=O9 hI.2
  have UD:=hF.1
  unfold aF at UD
  rw[aP ω,av,da N ω UD.1 UD.2,ar,iO N ω ((BQ (n:=ws.length) ω hs.1 hs.2).mono ω) ((Fit.i64 UD.1 UD.2).mono ω),ar,Mm,ar,aw (x:=(b:Int)+1) ω ω,af b,bH (by rw[aK];omega),aj,bH (by rw[aK];omega),aj,cond_not]
  show _=if Fq (q+(ws++[]).sum)then C7 l E (if q+(ws++[]).sum=0 then out else out++[((a:Int),((b:Int),(q+(ws++[]).sum,())))]) p (a:Int) ((b+1:Nat):Int)else some ([],false)
  rw[cy,Int.add_comm ws.sum q]
  cases ws with
  |nil=>
   show cond (!aN q 0) _ _=_
   rw[cond_not,aI,jo,jq,ak hF]
   by_cases h:q=0
   ·rw[ak h,ak h]
   ·rw[ah h,ah h]
  |cons w ws=>
   show cond (!(if Fq (q+(w::ws).sum)then(q+(w::ws).sum,true)else(0,false)).2) _ _=_
   by_cases h2:Fq (q+(w::ws).sum)
   ·rw[ak h2,ak h2]
    dsimp only
    rw[bg,av,cond_not,aI]
    by_cases h:q+(w::ws).sum=0
    ·rw[ak h,ak h]
    ·rw[ah h,ah h]
   ·rw[ah h2,ah h2];rfl
theorem KD{P:Int→Prop} [DecidablePred P]{f:Int→Int→Int}{k:dq}{K:List dq}{out:au}{v:Int}(hv:f k.1 k.2=v):
  (if P v then w9 (if v=0 then out else out++[(k.1,(k.2,(v,())))]) (eG P f K)else some ([],false))=w9 out (eG P f (k::K)):=by
 rw[lV,hv]
 by_cases h:P v
 ·rw[ak h,ak h]
  cases eG P f K with
  |none=>rfl
  |some o=>
   show some ((if v=0 then out else out++[(k.1,(k.2,(v,())))])++o,true)=some (out++(if v=0 then o else(k.1,(k.2,(v,())))::o),true)
   by_cases h0:v=0
   ·rw[ak h0,ak h0]
   ·rw[ah h0,ah h0,bD];rfl
 ·rw[ah h,ah h];rfl
theorem aqC{l:au}(hs:uB (l.map keyOf))(hl: ∀x∈l,Fq (dT x))(k:dq):Fq (cY k.1 k.2 l):=by
 by_cases hk:k∈l.map keyOf
 ·have hm:Fa l k∈rowsOf l (l.map keyOf):=fB hk
  rw[nJ hs]at hm
  exact hl (Fa l k) hm
 ·rw[gU hk];exact⟨⟨δ,δ⟩,δ⟩
theorem KE(N:Nat)(hN:4000000≤N)(C:cQ.bN){l E:au}(hq:eO E)(hl:E.length≤100000)(hs:uB (l.map keyOf))(Jg:l.length≤100000)(hf: ∀x∈l,Fq (dT x))(hw: ∀x∈l,0≤(keyOf x).2∧(keyOf x).2<(6:Nat))(a:Nat)(ha:a≤24)(G:List dq)
  (hc: ∀(p:Nat) (out:au),Mark l (a+1) 0 p→out.length≤6*(a+1)→C l E out (p:Int) ((a+1:Nat):Int)=w9 out (eG Fq (fS l E) G)):
  ∀(m n b p:Nat) (out:au),b+m=6→m<n→Mark l a b p→out.length≤6*a+b→cQ.l7 N C n l E out (p:Int) (a:Int) (b:Int)=w9 out (eG Fq (fS l E) (B7 a b m++G))
 |m,0,b,p,out,_,hn,_,_=>ω
 |0,n+1,b,p,out,hb,_,hM,ho=>by
  have e:b=6:=ω
  subst e
  unfold cQ.l7 cQ.mK
  rw[aP ω,av,aw (x:=(a:Int)+1) ω ω,af a]
  exact hc p out (hM.row hw) ω
 |m+1,n+1,b,p,out,hb,hn,hM,ho=>by
  have hp:=hM.le
  have alg: ∀(p:Nat) (v:Int),Mark l a (b+1) p→cQ.l7 N C n l E (if v=0 then out else out++[((a:Int),((b:Int),(v,())))]) (p:Int) (a:Int) ((b+1:Nat):Int)=w9 (if v=0 then out else out++[((a:Int),((b:Int),(v,())))]) (eG Fq (fS l E) (B7 a (b+1) m++G)):=λp v h=>
   KE N hN C hq hl hs Jg hf hw a ha G hc m n (b+1) p _ ω ω h (by
    split
    ·omega
    ·rw[aS,aK];omega)
  have w5:=aqC hs hf ((a:Int),(b:Int))
  unfold cQ.l7 cQ.mK cQ.UN cQ.Mn
  show _=w9 out (eG Fq (fS l E) (((a:Int),(b:Int))::(B7 a (b+1) m++G)))
  rw[aQ (x:=(b:Int)) ω,aj,bZ,aI,aI,aG]
  have fin: ∀(p:Nat) (q:Int),q=cY (a:Int) (b:Int) l→Mark l a (b+1) p→cQ.KC N C (cQ.l7 N C n) N l E out (p:Int) (a:Int) (b:Int) q false (false,(([]:List Int),())) 0=w9 out (eG Fq (fS l E) (((a:Int),(b:Int))::(B7 a (b+1) m++G))):=λp q e h=>by
   subst e
   rw[ZI N hN C _ hq hl ω (p:Int) a b ω _ w5,alg p _ h]
   exact KD (k:=((a:Int),(b:Int))) rfl
  rcases hM.step hs with⟨h1,h2,h3,h4,h5⟩|⟨h1,h2,h3⟩
  ·rw[ak (show(p:Int)<(l.length:Int)by omega),aU ω ω,aj,aj,ak h2,ak h3,aw (x:=(p:Int)+1) ω ω,af p,aj]
   exact fin (p+1) _ h4.symm h5
  ·by_cases g1:p<l.length
   ·rw[ak (show(p:Int)<(l.length:Int)by omega),aU ω ω,aj,aj]
    by_cases g2:(l.getD p bb).1=(a:Int)
    ·rw[ak g2,ah (λg3=>h1 g1 g2 g3)]
     exact fin p _ h2.symm h3
    ·rw[ah g2]
     exact fin p _ h2.symm h3
   ·rw[ah (show ¬(p:Int)<(l.length:Int)by omega)]
    exact fin p _ h2.symm h3
theorem KF(N:Nat)(hN:4000000≤N){l E:au}(hq:eO E)(hl:E.length≤100000)(hs:uB (l.map keyOf))(Jg:l.length≤100000)(hf: ∀x∈l,Fq (dT x))(hw: ∀x∈l,0≤(keyOf x).2∧(keyOf x).2<(6:Nat)):
  ∀(m n a p:Nat) (out:au),a+m=25→m<n→Mark l a 0 p→out.length≤6*a→cQ.l4 N n l E out (p:Int) (a:Int)=w9 out (eG Fq (fS l E) (zN 6 a m))
 |m,0,a,p,out,_,hn,_,_=>ω
 |0,n+1,a,p,out,ha,_,hM,ho=>by
  unfold cQ.l4 cQ.dL
  rw[fH ω,av]
  show some (out,true)=some (out++[],true)
  rw[cy]
 |m+1,n+1,a,p,out,ha,hn,hM,ho=>by
  unfold cQ.l4 cQ.dL
  rw[fO ω,aj]
  exact KE N hN _ hq hl hs Jg hf hw a ω (zN 6 (a+1) m) (λp out h ho=>KF N hN hq hl hs Jg hf hw m n (a+1) p out ω ω h ho) 6 N 0 p out ω ω hM ω
def jW:List dq:=zN 6 0 25
theorem HJ(N:Nat)(hN:4000000≤N){l E:au}(hk:di l=true)(hl:l.length≤90000)(Uc:eO l)(hq:eO E)(hE:E.length≤100000):cQ N l E=w9 [] (eG Fq (fS l E) jW):=by
 obtain⟨hs,Nv⟩:=eU hk
 unfold cQ cQ.b
 refine KF N hN hq hE hs ω (λx hx=>⟨Uc x hx,(Nv x hx).2⟩) (λx hx=> ?_) 25 N 0 0 [] ω ω ⟨ω,λx hx=>(nomatch hx),λx hx eV=> ?_⟩ (by simp)
 ·have h:cc (keyOf x).1 (keyOf x).2:=(Nv x hx).1
  unfold cc at h;omega
 ·have h:cc (keyOf x).1 (keyOf x).2:=(Nv x (mW hx)).1
  unfold cc at h
  have xR:(keyOf x).1<((0:Nat):Int)∨((keyOf x).1=((0:Nat):Int)∧(keyOf x).2<((0:Nat):Int)):=eV
  omega
theorem WM{l E:au}(hk:di l=true)(hp: ∀x∈E,cc x.1 x.2.1):eG Fq (fS l E) (oD (l.map keyOf) E)=eG Fq (fS l E) jW:=by
 obtain⟨hs,Nv⟩:=eU hk
 refine Ph ⟨⟨δ,δ⟩,δ⟩ (Ap hs) (py 6 25 0) (λk hk=> ?_) (λk hk hn=> ?_)
 ·have:cc k.1 k.2:=by
   rcases ns.1 hk with h|⟨x,hx,rfl⟩
   ·obtain⟨x,hx,rfl⟩:=cV.1 h
    exact(Nv x hx).1
   ·exact hp x hx
  unfold cc at this
  exact px.2 ω
 ·have h1:k∉l.map keyOf:=λh=>hn (ns.2 (Or.inl h))
  have h2:k∉E.map keyOf:=λh=>by
   obtain⟨x,hx,e⟩:=cV.1 h
   exact hn (ns.2 (Or.inr ⟨x,hx,e⟩))
  unfold fS
  rw[gU h1,gU h2];rfl
def B9(E:au):Prop:= ∀x∈E,cE (dT x)
def ig(r:dh):tY:=(r.1,(r.2.1,(cH (dT r),())))
theorem FO(E:au)(i:Nat):(E.map ig).getD i ((0:Int),((0:Int),(c5,())))=ig (E.getD i bb):=by
 by_cases h:i<E.length
 ·rw[aW,n0,bl h,aW,bl h];rfl
 ·rw[aW,il (by rw[cz];omega),aW,il ω];rfl
theorem FP{l:au}(h:B9 l)(i:Nat):cE (dT (l.getD i bb)):=by
 by_cases hi:i<l.length
 ·rw[aW,bl hi];exact h _ (dF hi)
 ·rw[aW,il ω];exact⟨δ,δ⟩
theorem HK{x:Int}(h:aF x):cE x:=by unfold aF at h;unfold cE;omega
theorem wq{ws:List Int}{x:Int}(h: ∀y∈ws,cE y)(hx:cE x): ∀y∈ws++[x],cE y:=λy hy=>by
 rcases bn.1 hy with hy|hy
 ·exact h y hy
 ·rw[cw.1 hy];exact hx
theorem ZJ(N:Nat){l:au}:alh N l=some l:=Pj N
theorem ZK(N:Nat)(hN:2000000≤N)(K:cO.KG){E out R:au}(hq:B9 E)(hl:E.length≤100000)(ho:out.length≤1000000)(r:dh)(hr:aF (dT r))(i:Nat)(hi:i≤1000000):
  cO.Pm N K N (E.map ig) out r [cH (dT r)] R (R.length:Int) (i:Int) (E.map ig) ((E.map ig).length:Int) 0=
   if aF (dT r+cY r.1 r.2.1 E)then K (E.map ig) (if dT r+cY r.1 r.2.1 E=0 then out else out++[(r.1,(r.2.1,(dT r+cY r.1 r.2.1 E,())))]) R (R.length:Int) ((i+1:Nat):Int)else some (bq,(2:Int)):=by
 have:=ll E bb (λn j ws=>cO.Pm N K n (E.map ig) out r (ws.map cH) R (R.length:Int) (i:Int) (E.map ig) ((E.map ig).length:Int) j)
  (λt ws=>if aF (ws++dE r.1 r.2.1 t).sum then K (E.map ig) (if(ws++dE r.1 r.2.1 t).sum=0 then out else out++[(r.1,(r.2.1,((ws++dE r.1 r.2.1 t).sum,())))]) R (R.length:Int) ((i+1:Nat):Int)else some (bq,(2:Int)))
  (λj (ws:List Int)=>ws.length≤j+1∧ ∀x∈ws,cE x)
  (λn j ws hj hI dZ=> ?_) (λn ws hI=> ?_) E.length N 0 [dT r] ω ω ω ⟨aH _,λx hx=>by rw[cw.1 hx];exact HK hr⟩
 ·rw[show((0:Nat):Int)=0 from rfl,cJ]at this
  refine this.trans ?_
  have e:([dT r]++dE r.1 r.2.1 E).sum=dT r+cY r.1 r.2.1 E:=by rw[Gd,cK];rfl
  rw[e]
 ·unfold cO.Pm cO.Mo
  rw[aQ (by rw[cz];omega),aj,aU ω (by rw[cz];omega),aj,aG,FO,bH (by rw[cz,aK];omega),aj,aw (x:=(j:Int)+1) ω ω,af j,aI,aI]
  by_cases h1:(E.getD j bb).1=r.1
  ·by_cases h2:(E.getD j bb).2.1=r.2.1
   ·have hc:dE r.1 r.2.1 (E.getD j bb::E.drop (j+1))=dT (E.getD j bb)::dE r.1 r.2.1 (E.drop (j+1)):=by rw[fh,ak ⟨h1,h2⟩]
    rw[ak (show(ig (E.getD j bb)).1=r.1 from h1),ak (show(ig (E.getD j bb)).2.1=r.2.1 from h2),hc]
    have:=dZ (ws++[dT (E.getD j bb)]) ⟨by rw[aS,aK];omega,wq hI.2 (FP hq j)⟩
    rw[dp]at this
    refine this.trans ?_
    rw[bD];rfl
   ·have hc:dE r.1 r.2.1 (E.getD j bb::E.drop (j+1))=dE r.1 r.2.1 (E.drop (j+1)):=by rw[fh,ah (λh=>h2 h.2)]
    rw[ak (show(ig (E.getD j bb)).1=r.1 from h1),ah (show ¬(ig (E.getD j bb)).2.1=r.2.1 from h2),hc]
    exact dZ ws ⟨ω,hI.2⟩
  ·have hc:dE r.1 r.2.1 (E.getD j bb::E.drop (j+1))=dE r.1 r.2.1 (E.drop (j+1)):=by rw[fh,ah (λh=>h1 h.1)]
   rw[ah (show ¬(ig (E.getD j bb)).1=r.1 from h1),hc]
   exact dZ ws ⟨ω,hI.2⟩
 ·unfold cO.Pm cO.Mo
  rw[aP (by rw[cz];omega),av,FJ N hI.2 ω ω,ar]
  show _=if aF (ws++[]).sum then K (E.map ig) (if(ws++[]).sum=0 then out else out++[(r.1,(r.2.1,((ws++[]).sum,())))]) R (R.length:Int) ((i+1:Nat):Int)else some (bq,(2:Int))
  rw[cy]
  unfold O5
  by_cases h0:cE ws.sum
  ·rw[ak h0]
   dsimp only
   rw[HI N h0,ar,bg,av]
   by_cases h1:aF ws.sum
   ·rw[wk h1]
    dsimp only
    rw[bg,av,cond_not,aI,bH (by rw[aK];omega),aj,aw (x:=(i:Int)+1) ω ω,af i,ak h1]
    split<;>rfl
   ·rw[zf h1,ah h1]
    rfl
  ·rw[ah h0,ah (λh=>h0 (HK h))]
   have e:F92 N c5=some (CX 0):=HI N (v:=0) ⟨δ,δ⟩
   dsimp only
   rw[e,ar]
   rfl
theorem WN(N:Nat)(hN:2000000≤N){l E R:au}(hq:B9 E)(hl:E.length≤100000)(hR:R.length≤200000)(hv: ∀r∈R,aF (dT r)∧dT r=cY r.1 r.2.1 l):
  cO.l26 N N (E.map ig) [] R (R.length:Int) 0=wi (eG aF (fS l E) (R.map keyOf)):=by
 have:=ll R bb (λn i out=>cO.l26 N n (E.map ig) out R (R.length:Int) i) (λt out=>wi ((eG aF (fS l E) (t.map keyOf)).map (λo=>out++o))) (λi (out:au)=>out.length≤i)
  (λn i out hi hI hr=> ?_) (λn out hI=> ?_) R.length N 0 [] ω ω ω (aH _)
 ·rw[show((0:Nat):Int)=0 from rfl,cJ]at this
  refine this.trans ?_
  simp
 ·unfold cO.l26 cO.adk
  have hm:R.getD i bb∈R:=by
   rw[aW,bl hi];exact dF hi
  have R7:=hv _ hm
  have lq:=R7.1
  have jA:=lq
  unfold aF dT at jA
  rw[aQ ω,aj,aU ω ω,aj,aG,vY N jA.1 jA.2,ar]
  refine(ZK N hN _ hq hl ω _ lq i ω).trans ?_
  rw[bV,lV]
  have ef:fS l E (keyOf (R.getD i bb)).1 (keyOf (R.getD i bb)).2=dT (R.getD i bb)+cY (R.getD i bb).1 (R.getD i bb).2.1 E:=by
   show cY _ _ l+cY _ _ E=_
   rw[R7.2];rfl
  rw[ef]
  generalize hS:dT (R.getD i bb)+cY (R.getD i bb).1 (R.getD i bb).2.1 E=v
  by_cases hF:aF v
  ·rw[ak hF,ak hF,hr _ (by
    split
    ·omega
    ·rw[aS,aK];omega)]
   cases eG aF (fS l E) ((R.drop (i+1)).map keyOf)with
   |none=>rfl
   |some o=>
    show wi (some _)=wi (some _)
    congr 2
    split
    ·rfl
    ·exact bD _ _ _
  ·rw[ah hF,ah hF];rfl
 ·unfold cO.l26 cO.adk
  rw[aP ω,av,ZJ,ar]
  show _=wi (some (out++[]))
  rw[cy];rfl
theorem ajj(N:Nat)(C:cO.nK){l:au}{E S:cR}{K:List dq}(hs:uB K)(hl:K.length≤100000)(hf: ∀k∈K,B5 k)(x:tY)(k:dq)(hxk:(x.1,x.2.1)=k)(hx:B5 k)(hz:zeroAt l K k)(len:Int)(i:Nat)(hi:i≤1000000):
  ∀(m n p:Nat),K.length-p≤m→m<n→p≤K.length→(∀y∈K.take p,uA y k)→
   cO.WO N C n E (rowsOf l K) x (p:Int) S len (i:Int)=C E (rowsOf l (K.take p++yp k (K.drop p))) S len ((i+1:Nat):Int)
 |m,0,p,_,hn,_,_=>ω
 |m,n+1,p,hm,hn,hp,hb=>by
  unfold cO.WO cO.SV cO.j21 cO.ali
  rw[eS,aw (x:=(i:Int)+1) ω ω,af i]
  have ex:((x.1,(x.2.1,((0:Int),()))):dh)=(k.1,(k.2,((0:Int),()))):=by rw[←hxk]
  by_cases h:p<K.length
  ·have hfk:=hf (K.getD p (0,0)) (by rw[aW,bl h];exact dF h)
   have ho:SJ N x.1 x.2.1 ((rowsOf l K).getD p bb)=some (CY k.1 k.2 (K.getD p (0,0)).1 (K.getD p (0,0)).2):=by
    rw[Kz l h]
    rw[←hxk]at hx ⊢
    exact Hw N hx.1 hx.2 hfk.1 hfk.2
   rw[aQ ω,aj,aU ω ω,aj,aG,ho,ar,eN (x:=(p:Int)) ω,av,aj,ar,bZ,cond_not,aI,UL h]
   by_cases h1:uA (K.getD p (0,0)) k
   ·rw[ak (B4.2 h1),ak h1,aw (x:=(p:Int)+1) ω ω,af p,B6 h]
    refine ajj N C hs hl hf x k hxk hx hz len i hi (m-1) n (p+1) ω ω ω λy hy=> ?_
    rw[←tK h]at hy
    rcases bn.1 hy with hy|hy
    ·exact hb y hy
    ·rw[aW,bl h]at h1
     rw[cw.1 hy];exact h1
   ·rw[ah (λh=>h1 (B4.1 h)),ah h1]
    by_cases h2:K.getD p (0,0)=k
    ·rw[ak (zg.2 h2),ak h2,gP]
    ·rw[ah (λh=>h2 (zg.1 h)),ah h2,FN N (by rw[eS];omega) (by rw[eS];omega),ar]
     have AG:=hz (wo hs hb (UM hs h h1 h2))
     have e:=wm l K p k
     rw[←zh AG]at e
     refine Eq.trans ?_ (e7 (λR=>C E R S len ((i+1:Nat):Int)) e)
     exact e7 (λz:dh=>C E ((rowsOf l K).take p++z::(rowsOf l K).drop p) S len ((i+1:Nat):Int)) ex
  ·have hd:K.drop p=[]:=xk ω
   rw[aP ω,av,ec ω,aj,FN N (by rw[eS];omega) (by rw[eS];omega),ar]
   have AG:=hz (wo hs hb (by rw[hd];exact λx hx=>nomatch hx))
   have e:=wm l K p k
   rw[←zh AG]at e
   have e2:yp k (K.drop p)=k::K.drop p:=by rw[hd];rfl
   rw[e2]
   refine Eq.trans ?_ (e7 (λR=>C E R S len ((i+1:Nat):Int)) e)
   exact e7 (λz:dh=>C E ((rowsOf l K).take p++z::(rowsOf l K).drop p) S len ((i+1:Nat):Int)) ex
theorem WQ(N:Nat)(hN:2000000≤N){l E:au}(hq:B9 E)(hE:E.length≤400)(hp: ∀x∈E,B5 (keyOf x))(hs:uB (l.map keyOf))(hl:l.length≤90000)(Uc:eO l)(Nv: ∀x∈l,B5 (keyOf x)):
  cO.yj N N (E.map ig) l (E.map ig) ((E.map ig).length:Int) 0=wi (eG aF (fS l E) (oD (l.map keyOf) E)):=by
 have:=ll E bb (λn i K=>cO.yj N n (E.map ig) (rowsOf l K) (E.map ig) ((E.map ig).length:Int) i) (λt K=>wi (eG aF (fS l E) (oD K t)))
  (λi (K:List dq)=>K.length≤l.length+i∧uB K∧(∀k∈K,B5 k)∧ ∀x∈l,keyOf x∈K)
  (λn i K hi hI hr=> ?_) (λn K hI=> ?_) E.length N 0 (l.map keyOf) ω ω ω ⟨by rw[cz];omega,hs,λk hk=>by
   obtain⟨x,hx,rfl⟩:=cV.1 hk
   exact Nv x hx,λx hx=>fB hx⟩
 ·rw[show((0:Nat):Int)=0 from rfl,cJ]at this
  simp only[nJ hs]at this
  exact this
 ·unfold cO.yj cO.w7
  obtain⟨h1,h2,h3,h4⟩:=hI
  have hm:E.getD i bb∈E:=by
   rw[aW,bl hi];exact dF hi
  rw[aQ (by rw[cz];omega),aj,aU ω (by rw[cz];omega),aj,aG,FO]
  refine(ajj N _ h2 ω h3 (ig (E.getD i bb)) (keyOf (E.getD i bb)) rfl (hp _ hm) (λhk=>gU λhx=>hk (by
   obtain⟨x,hx,e⟩:=cV.1 hx
   rw[←e];exact h4 x hx)) ((E.map ig).length:Int) i ω K.length N 0 ω ω ω (λy hy=>nomatch hy)).trans ?_
  rw[mB,cB,cJ,tX]
  refine hr (yp (keyOf (E.getD i bb)) K) ⟨cA (HH _ K) ω,B3 h2,λk hk=>(sQ.1 hk).elim (λe=>e▸hp _ hm) (h3 k),λx hx=>sQ.2 (Or.inr (h4 x hx))⟩
 ·unfold cO.yj cO.w7
  obtain⟨h1,h2,h3,h4⟩:=hI
  rw[aP (by rw[cz];omega),av,eS,c9 ω ω ω,aj]
  have:=WN N hN (l:=l) (R:=rowsOf l K) hq ω (by rw[eS];omega) (λr hr=>by
   unfold rowsOf at hr
   obtain⟨k,hk,rfl⟩:=cV.1 hr
   refine⟨?_,rfl⟩
   show aF (cY k.1 k.2 l)
   by_cases hkl:k∈l.map keyOf
   ·have e:rowsOf l (l.map keyOf)=l:=nJ hs
    have hm:Fa l k∈rowsOf l (l.map keyOf):=fB hkl
    rw[e]at hm
    exact Uc (Fa l k) hm
   ·rw[gU hkl];exact⟨δ,δ⟩)
  rw[Ej,eS]at this
  exact this
theorem pz{l:au}(h:fb l=true):uB (l.map keyOf)∧(∀x∈l,db x.1 x.2.1):=by
 unfold fb at h
 rw[eZ]at h
 have h':=bA h
 have get: ∀(i:Nat) (hi:i<l.length),l.getD i bb=l[i]:=λi hi=>by rw[aW,bl hi];rfl
 have ZH: ∀i,i+1<l.length→uA (keyOf (l.getD i bb)) (keyOf (l.getD (i+1) bb)):=λi hi=>(h' (i+1) hi).2.2 ω
 have eV: ∀j,j<l.length→ ∀i,i<j→uA (keyOf (l.getD i bb)) (keyOf (l.getD j bb)):=by
  intro j
  induction j with
  |zero=>intro _ i hi;omega
  |succ j ih=>
   intro hj i hi
   by_cases e:i=j
   ·rw[e];exact ZH j hj
   ·exact ze (ih ω i ω) (ZH j hj)
 refine⟨?_,λx hx=> ?_⟩
 ·refine uK.2 (vB.2 λi j hi hj qI=> ?_)
  have:=eV j hj i qI
  rw[get i hi,get j hj]at this
  exact this
 ·obtain⟨i,hi,e⟩:=gJ hx
  have:=h' i hi
  unfold mM nk at this
  rw[get i hi,e]at this
  exact this.1
structure Pn(E:au):Prop where
 key: ∀x∈E,db x.1 x.2.1
 q:B9 E
 len:E.length≤400
 zero:(E.map dT).sum=0
theorem UO{x:dh}(h:db x.1 x.2.1):B5 (keyOf x):=by
 have h':db (keyOf x).1 (keyOf x).2:=h
 unfold db at h'
 unfold B5 JJ
 omega
theorem ZL(N:Nat)(hN:2000000≤N){l E:au}(hk:fb l=true)(hl:l.length≤90000)(Uc:eO l)(g:Pn E):cO N l (E.map ig)=wi (eG aF (fS l E) (oD (l.map keyOf) E)):=by
 obtain⟨hs,Nv⟩:=pz hk
 have hE:=g.len
 unfold cO cO.b
 rw[Md N ω ω,hk,ar,bg,av,aP (by rw[cz];omega),av,c9 ω ω (by rw[cz];omega),aj]
 have:=ll E bb (λn i (ws:List Int)=>cO.l5 N n l (E.map ig) (ws.map cH) (E.map ig) ((E.map ig).length:Int) i)
  (λt ws=>if(ws++t.map dT).sum=0 then wi (eG aF (fS l E) (oD (l.map keyOf) E))else none)
  (λj (ws:List Int)=>ws.length≤j∧(ws++(E.drop j).map dT).sum=0∧ ∀x∈ws,cE x)
  (λn i ws hi hI hr=> ?_) (λn ws hI=> ?_) E.length N 0 [] ω ω ω ⟨aH _,g.zero,λx hx=>nomatch hx⟩
 ·rw[show((0:Nat):Int)=0 from rfl,cJ]at this
  refine Eq.trans this ?_
  rw[cB,ak g.zero]
 ·unfold cO.l5 cO.dU
  have hm:E.getD i bb∈E:=by
   rw[aW,bl hi];exact dF hi
  have acI:SG N (ig (E.getD i bb)).1 (ig (E.getD i bb)).2.1=some true:=by
   rw[SF]
   exact e7 some (aV (g.key _ hm))
  rw[aQ (by rw[cz];omega),aj,aU ω (by rw[cz];omega),aj,aG,FO,acI,ar,bg,av,bH (by rw[cz,aK];omega),aj,aw (x:=(i:Int)+1) ω ω,af i]
  have h0:=hI.2.1
  rw[drop_cons hi bb,bV]at h0
  have:=hr (ws++[dT (E.getD i bb)]) ⟨by rw[aS,aK];omega,by rw[bD];exact h0,wq hI.2.2 (FP g.q i)⟩
  rw[dp]at this
  refine this.trans ?_
  rw[bD];rfl
 ·unfold cO.l5 cO.dU
  have h0:=hI.2.1
  rw[m1,gQ,cy]at h0
  rw[aP (by rw[cz];omega),av,FJ N hI.2.2 ω ω,ar,h0]
  have e0:O5 0=(cH 0,true):=by unfold O5;exact ak ⟨δ,δ⟩
  rw[e0]
  dsimp only
  rw[bg,av,BY,ar,show vV 0=0 from rfl,ec rfl,bg,av,wj N ω,ar]
  rw[gQ,cy,ak h0]
  exact WQ N hN g.q hE (λx hx=>UO (g.key x hx)) hs hl Uc (λx hx=>UO (Nv x hx))
def ga(r:dh):alj:=(r.1,(r.2.1,(cF (dT r),())))
theorem Po{E:au}{i:Nat}(h:i<E.length):(E.map ga).getD i ((0:Int),((0:Int),((false,o6),())))=ga (E.getD i bb):=by
 rw[aW,n0,bl h,aW,bl h];rfl
theorem SW{v:Int}{n:Nat}(hn:n≤1000000)(h0: -(170141183460469231731687303715884105728*(n:Int))≤v)(h1:v≤170141183460469231731687303715884105728*(n:Int)):Fit v 900000:=by
 have h5:Fit v 5:=by
  unfold Fit
  rw[show(4294967296:Nat)^5=1461501637330902918203684832716283019655932542976 from rfl]
  omega
 exact h5.mono ω
theorem pV{v:Int}(h:cE v):Fit v 900000:=SW (n:=1) ω (by have:=h.1;omega) (by have:=h.2;omega)
theorem WR(N:Nat)(hN:4000000≤N){E:au}(hq:B9 E)(hl:E.length≤100000)(q a b:Int)(hF:aF q):oE N q a b (E.map ga)=some (CX (q+cY a b E)):=by
 unfold oE oE.b
 have:=ll E bb (λn j ws=>oE.l3 N n q a b (E.map ga) (cF ws.sum) (!ws.isEmpty) j)
  (λt ws=>some (CX (q+(ws++dE a b t).sum)))
  (λj (ws:List Int)=>ws.length≤j∧ ∀x∈ws,cE x)
  (λn j ws hj hI dZ=> ?_) (λn ws hI=> ?_) E.length N 0 [] ω ω ω ⟨aH _,λx hx=>nomatch hx⟩
 ·rw[show((0:Nat):Int)=0 from rfl,cJ,jo,gX]at this
  exact this
 ·unfold oE.l3 oE.m3
  have WS:=FP hq j
  have hb:=SE hI.2
  have CB:Ak N (cF ws.sum) (ga (E.getD j bb)).2.2.1=some (cF (ws.sum+dT (E.getD j bb))):=iO N ω (SW (n:=ws.length) ω hb.1 hb.2) (pV WS)
  rw[aQ (by rw[cz];omega),aj,aU ω (by rw[cz];omega),aj,aj,aj,aG,Po hj,CB,ar,aw (x:=(j:Int)+1) ω ω,af j,aI,aI]
  by_cases h1:(E.getD j bb).1=a
  ·by_cases h2:(E.getD j bb).2.1=b
   ·have hc:dE a b (E.getD j bb::E.drop (j+1))=dT (E.getD j bb)::dE a b (E.drop (j+1)):=by rw[fh,ak ⟨h1,h2⟩]
    rw[ak (show(ga (E.getD j bb)).1=a from h1),ak (show(ga (E.getD j bb)).2.1=b from h2),hc]
    have:=dZ (ws++[dT (E.getD j bb)]) ⟨by rw[aS,aK];omega,wq hI.2 WS⟩
    rw[nZ,cK,jo,jq,bD]at this
    refine Eq.trans ?_ this
    rw[show(!(ws++[dT (E.getD j bb)]).isEmpty)=true by cases ws<;>rfl]
   ·have hc:dE a b (E.getD j bb::E.drop (j+1))=dE a b (E.drop (j+1)):=by rw[fh,ah (λh=>h2 h.2)]
    rw[ak (show(ga (E.getD j bb)).1=a from h1),ah (show ¬(ga (E.getD j bb)).2.1=b from h2),hc]
    exact dZ ws ⟨ω,hI.2⟩
  ·have hc:dE a b (E.getD j bb::E.drop (j+1))=dE a b (E.drop (j+1)):=by rw[fh,ah (λh=>h1 h.1)]
   rw[ah (show ¬(ga (E.getD j bb)).1=a from h1),hc]
   exact dZ ws ⟨ω,hI.2⟩
 ·unfold oE.l3 oE.m3
  have hs:=SE hI.2
  have UD:=hF
  unfold aF at UD
  rw[aP (by rw[cz];omega),av,da N ω UD.1 UD.2,ar,iO N ω (SW (n:=ws.length) ω hs.1 hs.2) ((Fit.i64 UD.1 UD.2).mono ω),ar,uz,ar,cond_not]
  show _=some (CX (q+(ws++[]).sum))
  rw[cy,Int.add_comm ws.sum q]
  cases ws with
  |nil=>
   show some (q,true)=some (CX (q+0))
   rw[jq,wk hF]
  |cons w ws=>rfl
theorem adl{l:au}(hs:uB (l.map keyOf))(hl:eO l)(k:dq):aF (cY k.1 k.2 l):=by
 by_cases hk:k∈l.map keyOf
 ·have hm:Fa l k∈rowsOf l (l.map keyOf):=fB hk
  rw[nJ hs]at hm
  exact hl (Fa l k) hm
 ·rw[gU hk];exact⟨δ,δ⟩
theorem Pp(N:Nat)(hN:4000000≤N)(C:dQ.bN){l E:au}(hq:B9 E)(hl:E.length≤100000)(hs:uB (l.map keyOf))(Jg:l.length≤100000)(hf:eO l)(hw: ∀x∈l,0≤(keyOf x).2∧(keyOf x).2<(25:Nat))(a:Nat)(ha:a≤24)(G:List dq)
  (hc: ∀(p:Nat) (out:au),Mark l (a+1) 0 p→out.length≤25*(a+1)→C l (E.map ga) out (p:Int) ((a+1:Nat):Int)=w9 out (eG aF (fS l E) G)):
  ∀(m n b p:Nat) (out:au),b+m=25→m<n→Mark l a b p→out.length≤25*a+b→dQ.l7 N C n l (E.map ga) out (p:Int) (a:Int) (b:Int)=w9 out (eG aF (fS l E) (B7 a b m++G))
 |m,0,b,p,out,_,hn,_,_=>ω
 |0,n+1,b,p,out,hb,_,hM,ho=>by
  have e:b=25:=ω
  subst e
  unfold dQ.l7 dQ.mK
  rw[fH ω,av,aw (x:=(a:Int)+1) ω ω,af a]
  exact hc p out (hM.row hw) ω
 |m+1,n+1,b,p,out,hb,hn,hM,ho=>by
  have hp:=hM.le
  have alg: ∀(p:Nat) (v:Int),Mark l a (b+1) p→dQ.l7 N C n l (E.map ga) (if v=0 then out else out++[((a:Int),((b:Int),(v,())))]) (p:Int) (a:Int) ((b+1:Nat):Int)=w9 (if v=0 then out else out++[((a:Int),((b:Int),(v,())))]) (eG aF (fS l E) (B7 a (b+1) m++G)):=λp v h=>
   Pp N hN C hq hl hs Jg hf hw a ha G hc m n (b+1) p _ ω ω h (by
    split
    ·omega
    ·rw[aS,aK];omega)
  have w5:=adl hs hf ((a:Int),(b:Int))
  unfold dQ.l7 dQ.mK
  show _=w9 out (eG aF (fS l E) (((a:Int),(b:Int))::(B7 a (b+1) m++G)))
  rw[fO (x:=(b:Int)) ω,aj,bZ,aI,aI,aG]
  have fin: ∀(p:Nat) (q:Int),q=cY (a:Int) (b:Int) l→Mark l a (b+1) p→dQ.UN N C (dQ.l7 N C n) l (E.map ga) out (p:Int) (a:Int) (b:Int) q=w9 out (eG aF (fS l E) (((a:Int),(b:Int))::(B7 a (b+1) m++G))):=λp q e h=>by
   subst e
   unfold dQ.UN dQ.Mn
   rw[WR N hN hq hl _ _ _ w5,ar]
   refine Eq.trans ?_ (KD (k:=((a:Int),(b:Int))) (v:=cY (a:Int) (b:Int) l+cY (a:Int) (b:Int) E) rfl)
   generalize cY (a:Int) (b:Int) l+cY (a:Int) (b:Int) E=v
   have hr:=alg p v h
   by_cases hv:aF v
   ·rw[wk hv,ak hv]
    dsimp only
    rw[bg,av,cond_not,aI,bH (by rw[aK];omega),aj,aw (x:=(b:Int)+1) ω ω,af b,←hr]
    split<;>rfl
   ·rw[zf hv,ah hv];rfl
  rcases hM.step hs with⟨h1,h2,h3,h4,h5⟩|⟨h1,h2,h3⟩
  ·rw[ak (show(p:Int)<(l.length:Int)by omega),aU ω ω,aj,aj,ak h2,ak h3,aw (x:=(p:Int)+1) ω ω,af p,aj]
   exact fin (p+1) _ h4.symm h5
  ·by_cases g1:p<l.length
   ·rw[ak (show(p:Int)<(l.length:Int)by omega),aU ω ω,aj,aj]
    by_cases g2:(l.getD p bb).1=(a:Int)
    ·rw[ak g2,ah (λg3=>h1 g1 g2 g3)]
     exact fin p _ h2.symm h3
    ·rw[ah g2]
     exact fin p _ h2.symm h3
   ·rw[ah (show ¬(p:Int)<(l.length:Int)by omega)]
    exact fin p _ h2.symm h3
theorem Pq(N:Nat)(hN:4000000≤N){l E:au}(hq:B9 E)(hl:E.length≤100000)(hs:uB (l.map keyOf))(Jg:l.length≤100000)(hf:eO l)(hw: ∀x∈l,0≤(keyOf x).2∧(keyOf x).2<(25:Nat)):
  ∀(m n a p:Nat) (out:au),a+m=8→m<n→Mark l a 0 p→out.length≤25*a→dQ.l4 N n l (E.map ga) out (p:Int) (a:Int)=w9 out (eG aF (fS l E) (zN 25 a m))
 |m,0,a,p,out,_,hn,_,_=>ω
 |0,n+1,a,p,out,ha,_,hM,ho=>by
  unfold dQ.l4 dQ.dL
  rw[fH ω,av]
  show some (out,true)=some (out++[],true)
  rw[cy]
 |m+1,n+1,a,p,out,ha,hn,hM,ho=>by
  unfold dQ.l4 dQ.dL
  rw[fO ω,aj]
  exact Pp N hN _ hq hl hs Jg hf hw a ω (zN 25 (a+1) m) (λp out h ho=>Pq N hN hq hl hs Jg hf hw m n (a+1) p out ω ω h ho) 25 N 0 p out ω ω hM ω
def nL:List dq:=zN 25 1 7
theorem UP(N:Nat)(hN:4000000≤N){l E:au}(hk:fb l=true)(hl:l.length≤90000)(Uc:eO l)(hq:B9 E)(hE:E.length≤100000):dQ N l (E.map ga)=w9 [] (eG aF (fS l E) nL):=by
 obtain⟨hs,Nv⟩:=pz hk
 unfold dQ dQ.b
 refine Pq N hN hq hE hs ω Uc (λx hx=> ?_) 7 N 1 0 [] ω ω ⟨ω,λx hx=>(nomatch hx),λx hx eV=> ?_⟩ (by simp)
 ·have h:db (keyOf x).1 (keyOf x).2:=Nv x hx
  unfold db at h;omega
 ·have h:db (keyOf x).1 (keyOf x).2:=Nv x (mW hx)
  unfold db at h
  have xR:(keyOf x).1<((1:Nat):Int)∨((keyOf x).1=((1:Nat):Int)∧(keyOf x).2<((0:Nat):Int)):=eV
  omega
theorem ZM{l E:au}(hk:fb l=true)(hp: ∀x∈E,db x.1 x.2.1):eG aF (fS l E) (oD (l.map keyOf) E)=eG aF (fS l E) nL:=by
 obtain⟨hs,Nv⟩:=pz hk
 refine Ph ⟨δ,δ⟩ (Ap hs) (py 25 7 1) (λk hk=> ?_) (λk hk hn=> ?_)
 ·have:db k.1 k.2:=by
   rcases ns.1 hk with h|⟨x,hx,rfl⟩
   ·obtain⟨x,hx,rfl⟩:=cV.1 h
    exact Nv x hx
   ·exact hp x hx
  unfold db at this
  exact px.2 ω
 ·have h1:k∉l.map keyOf:=λh=>hn (ns.2 (Or.inl h))
  have h2:k∉E.map keyOf:=λh=>by
   obtain⟨x,hx,e⟩:=cV.1 h
   exact hn (ns.2 (Or.inr ⟨x,hx,e⟩))
  unfold fS
  rw[gU h1,gU h2];rfl
def dD(b:an)(s e:au):an×Int:=
 match eG Fq (fS b.2.2.2.1 s) jW with
 |none=>((ch,(cT,(bq,(bq,(dg,(du,())))))),2)
 |some s'=>match eG aF (fS b.2.2.1 e) nL with
  |none=>((ch,(cT,(bq,(bq,(dg,(du,())))))),2)
  |some r'=>((b.1,(b.2.1,(r',(s',b.2.2.2.2)))),0)
theorem Pr(N:Nat){b:an}(w:jC b):ZN N b=some b:=by
 unfold ZN
 have h1:=w.m;have h2:=w.a;have h3:=w.r;have h4:=w.s;have h5:=w.p;have h6:=w.o
 rw[wj N ω,ar,wj N ω,ar,wj N ω,ar,wj N ω,ar,wj N ω,ar,wj N ω,ar]
end VM
end
