/- A part of the proof of WindDrawn of layer 21: what the functions compute, in plain words. -/
import Derived.Test.YtecmobijochjkaaGreatPlain1
set_option linter.all false
section
namespace VM
open Go VM.F
theorem wG(N:Nat)(hN:200000≤N)(c:ae){l:aD}(hl:l.length≤100000):nc N c l=some (lW c l):=by
 unfold nc nc.b
 rw[m4 N ω,ar]
 have hsc:=ij (F:=λn i=>nc.l4 N n l c i) (e:=true) (m9 c l) (λn i r hi hp hr=> ?_) (λn=> ?_) N (show l.length<N by omega)
 ·rw[oT hsc];unfold lW
  rw[gg,Bool.and_comm]
 ·unfold nc.l4 nc.dv
  rw[aT ω,ak,aW ω ω,ak,aJ,ax (x:=(i:Int)+1) ω ω,ag,hr]
  by_cases h0:0<i
  ·have e:W .i64 ((i:Int)-1)=((i-1:Nat):Int):=by rw[ax ω ω];omega
   dsimp only
   rw[aT (x:=0) (y:=(i:Int)) ω,e,aJ,aW (i:=((i-1:Nat):Int)) ω ω]
   simp only[cO,cF,aN,ak]
   by_cases hP:m9 c l i
   ·rw[aj hP];unfold m9 m8 at hP
    rw[ah ω,ah ω,ah hP.2.2.1,ah (show ¬((l.getD i cz).2.1:Int)= -9223372036854775808 from hP.2.2.2.1),ah ω]
   ·rw[ah hP];unfold m9 m8 at hP
    have h2:=λh1 h2 h3 h4 h5=>hP ⟨h1,h2,h3,h4,h5⟩
    repeat' split
    all_goals first|rfl|(exfalso;exact h2 ω ω (by assumption) (by assumption) ω)
  ·rw[aP (x:=0) (y:=(i:Int)) ω]
   simp only[cO,cF,aN,ak,av]
   by_cases hP:m9 c l i
   ·rw[aj hP];unfold m9 m8 at hP
    rw[ah ω,ah ω,ah hP.2.2.1,ah (show ¬((l.getD i cz).2.1:Int)= -9223372036854775808 from hP.2.2.2.1)]
   ·rw[ah hP];unfold m9 m8 at hP
    have h2:=λh1 h2 h3 h4 h5=>hP ⟨h1,h2,h3,h4,h5⟩
    repeat' split
    all_goals first|rfl|(exfalso;exact h2 ω ω (by assumption) (by assumption) ω)
 ·unfold nc.l4 nc.dv
  rw[aP ω,av]
end VM
end
section
namespace VM
open Go VM.F
def J9(a b c d:Int):Prop:=(1≤a∧a≤1099511627776)∧(1≤b∧b≤1099511627776)∧(1≤c∧c≤12)∧(-1152921504606846976≤d∧d≤1152921504606846976)
instance(a b c d:Int):Decidable (J9 a b c d):=by unfold J9;infer_instance
def Ij(x:bX):Prop:=J9 x.1 x.2.1 x.2.2.1 x.2.2.2.1
instance(x:bX):Decidable (Ij x):=by unfold Ij;infer_instance
theorem RM(N:Nat)(x:bX):We N x=some (decide (Ij x)):=by
 unfold We
 rw[nM x.2.2.2.1]
 repeat rw[gA]
 congr 1
 rw[oG,fb]
 unfold Ij J9
 simp only[bP,vx]
 omega
end VM
end
section
namespace VM
open Go VM.F
def qV(m lot:Int)(x:bX):Bool:=decide (dw x.2.2.1 m)&&decide (dw x.2.1 lot)
end VM
end
section
namespace VM
open Go VM.F
def Af(l:aM)(i:Nat):Prop:=Ij (l.getD i aV)∧ti i (l.getD (i-1) aV).1 (l.getD i aV).1∧(l.take i).any (qV (l.getD i aV).2.2.1 (l.getD i aV).2.1)=false
instance(l:aM):DecidablePred (Af l):=λi=>by unfold Af;infer_instance
def Wf(l:aM):Bool:=decide (∀j,j<l.length→Af l j)&&decide (l.length≤40)
end VM
end
section
namespace VM
open Go VM.F
def dd(a b:Int):au→List Int
 |[]=>[]
 |x::t=>if x.1=a∧x.2.1=b then dZ x::dd a b t else dd a b t
theorem eF(a b:Int)(x:db)(t:au):dd a b (x::t)=if x.1=a∧x.2.1=b then dZ x::dd a b t else dd a b t:=rfl
def cg(a b:Int)(l:au):Int:=(dd a b l).sum
theorem tq(a b:Int):cg a b []=0:=rfl
theorem fv(a b:Int)(x:db)(t:au):cg a b (x::t)=(if x.1=a∧x.2.1=b then dZ x else 0)+cg a b t:=by
 unfold cg
 rw[eF]
 split
 ·rw[cy]
 ·omega
theorem ke{a b:Int}: ∀{l:au},(∀x∈l,¬(x.1=a∧x.2.1=b))→cg a b l=0
 |[],_=>rfl
 |x::t,h=>by
  rw[fv,ah (h x (bn ..)),ke (λy hy=>h y (a6 _ hy))];rfl
abbrev cU:=Int×Int
def sI(x y:cU):Prop:=kN x.1 x.2 y.1 y.2
instance(x y:cU):Decidable (sI x y):=by unfold sI;infer_instance
def keyOf(x:db):cU:=(x.1,x.2.1)
def sJ(K:List cU):Prop:=K.Pairwise sI
theorem oz{x:cU}(h:sI x x):False:=by unfold sI kN at h;omega
theorem Ik{x y:cU}(h:sI x y)(k:sI y x):False:=by unfold sI kN at*;omega
theorem xq{x y z:cU}(h:sI x y)(k:sI y z):sI x z:=by unfold sI kN at*;omega
theorem RN(x y:cU):sI x y∨x=y∨sI y x:=by
 have:(x.1=y.1∧x.2=y.2)→x=y:=λh=>ix h.1 h.2
 unfold sI kN
 by_cases h1:x.1=y.1
 ·by_cases h2:x.2=y.2
  ·exact Or.inr (Or.inl (this ⟨h1,h2⟩))
  ·omega
 ·omega
theorem RO: ∀{a b:List cU},sJ a→sJ b→(∀x,x∈a↔x∈b)→a=b
 |[],[],_,_,_=>rfl
 |[],y::t,_,_,h=>nomatch (h y).2 (bn ..)
 |x::s,[],_,_,h=>nomatch (h x).1 (bn ..)
 |x::s,y::t,ha,hb,h=>by
  obtain⟨ha1,ha2⟩:=eo.1 ha
  obtain⟨me,tI⟩:=eo.1 hb
  have YE:x=y:=by
   rcases aX.1 ((h x).1 (bn ..))with e|e
   ·exact e
   ·rcases aX.1 ((h y).2 (bn ..))with f|f
    ·exact f.symm
    ·exact(Ik (ha1 y f) (me x e)).elim
  subst YE
  rw[RO ha2 tI λz=>⟨λhz=> ?_,λhz=> ?_⟩]
  ·rcases aX.1 ((h z).1 (a6 _ hz))with e|e
   ·subst e;exact(oz (ha1 z hz)).elim
   ·exact e
  ·rcases aX.1 ((h z).2 (a6 _ hz))with e|e
   ·subst e;exact(oz (me z hz)).elim
   ·exact e
def dW(P:Int→Prop) [DecidablePred P](f:Int→Int→Int):List cU→Option au
 |[]=>some []
 |k::t=>if P (f k.1 k.2)then(dW P f t).map (λo=>if f k.1 k.2=0 then o else(k.1,(k.2,(f k.1 k.2,())))::o)else none
theorem kH(P:Int→Prop) [DecidablePred P](f:Int→Int→Int)(k:cU)(t:List cU):dW P f (k::t)=if P (f k.1 k.2)then(dW P f t).map (λo=>if f k.1 k.2=0 then o else(k.1,(k.2,(f k.1 k.2,())))::o)else none:=rfl
theorem Cs{P:Int→Prop} [DecidablePred P](h0:P 0){f:Int→Int→Int}(p:cU→Bool): ∀{K:List cU},(∀k∈K,p k=false→f k.1 k.2=0)→dW P f (K.filter p)=dW P f K
 |[],_=>rfl
 |k::t,h=>by
  have ih:=Cs h0 p (K:=t) (λx hx=>h x (a6 _ hx))
  cases hp:p k
  ·rw[List.filter_cons_of_neg (by rw[hp];decide),ih,kH,h k (bn ..) hp,aj h0]
   simp
  ·rw[List.filter_cons_of_pos hp,kH,kH,ih]
theorem MW{P:Int→Prop} [DecidablePred P](h0:P 0){f:Int→Int→Int}{K G:List cU}(hK:sJ K)(hG:sJ G)(hs: ∀k∈K,k∈G)(hz: ∀k∈G,k∉K→f k.1 k.2=0):dW P f K=dW P f G:=by
 have e:K=G.filter (λk=>decide (k∈K)):=by
  refine RO hK (vt List.filter_sublist hG) λx=> ?_
  rw[vB]
  exact⟨λh=>⟨hs x h,bs h⟩,λh=>bz h.2⟩
 rw[e]
 exact Cs h0 _ λk hk hp=>hz k hk (of_decide_eq_false hp)
def wH(k:cU):List cU→List cU
 |[]=>[k]
 |x::t=>if sI x k then x::wH k t else if x=k then x::t else k::x::t
theorem qW{k x:cU}: ∀{K:List cU},x∈wH k K↔x=k∨x∈K
 |[]=>by show x∈[k]↔_;simp
 |y::t=>by
  show x∈(if sI y k then y::wH k t else if y=k then y::t else k::y::t)↔_
  split
  ·rw[aX,qW,aX]
   exact⟨λh=>h.elim (λe=>Or.inr (Or.inl e)) (λh=>h.elim Or.inl (λh=>Or.inr (Or.inr h))),λh=>h.elim (λe=>Or.inr (Or.inl e)) (λh=>h.elim Or.inl (λh=>Or.inr (Or.inr h)))⟩
  ·split
   ·rename_i e
    rw[←e]
    exact⟨Or.inr,λh=>h.elim (λe=>e▸bn ..) id⟩
   ·rw[aX]
theorem Ah{k:cU}: ∀{K:List cU},sJ K→sJ (wH k K)
 |[],_=>eo.2 ⟨λ_ h=>(nomatch h),List.Pairwise.nil⟩
 |y::t,h=>by
  obtain⟨h1,h2⟩:=eo.1 h
  show sJ (if sI y k then y::wH k t else if y=k then y::t else k::y::t)
  split
  ·rename_i hy
   exact eo.2 ⟨λz hz=>(qW.1 hz).elim (λe=>e▸hy) (h1 z),Ah h2⟩
  ·rename_i hy
   split
   ·exact h
   ·rename_i he
    have hk:sI k y:=(RN y k).elim (λh=>absurd h hy) (λh=>h.elim (λh=>absurd h he) id)
    exact eo.2 ⟨λz hz=>(aX.1 hz).elim (λe=>e▸hk) (λhz=>xq hk (h1 z hz)),h⟩
def nf(K:List cU)(E:au):List cU:=E.foldl (λK x=>wH (keyOf x) K) K
theorem so(K:List cU)(x:db)(E:au):nf K (x::E)=nf (wH (keyOf x) K) E:=rfl
theorem yK: ∀{E:au} {K:List cU},sJ K→sJ (nf K E)
 |[],_,h=>h
 |x::E,K,h=>by rw[so];exact yK (Ah h)
theorem lX{k:cU}: ∀{E:au} {K:List cU},k∈nf K E↔(k∈K∨ ∃x∈E,keyOf x=k)
 |[],K=>by
  show k∈K↔_
  simp
 |x::E,K=>by
  rw[so,lX,qW]
  constructor
  ·rintro((rfl|h)|⟨y,hy,e⟩)
   ·exact Or.inr ⟨x,bn ..,rfl⟩
   ·exact Or.inl h
   ·exact Or.inr ⟨y,a6 _ hy,e⟩
  ·rintro(h|⟨y,hy,e⟩)
   ·exact Or.inl (Or.inr h)
   ·rcases aX.1 hy with rfl|hy
    ·exact Or.inl (Or.inl e.symm)
    ·exact Or.inr ⟨y,hy,e⟩
theorem Fo(k:cU): ∀K:List cU,(wH k K).length≤K.length+1
 |[]=>aG _
 |y::t=>by
  show(if sI y k then y::wH k t else if y=k then y::t else k::y::t).length≤_
  have:=Fo k t
  split
  ·rw[aR,aR];omega
  ·split<;>rw[aR]<;>(try rw[aR])<;>omega
def rowsOf(l:au)(K:List cU):au:=K.map λk=>(k.1,(k.2,(cg k.1 k.2 l,())))
theorem mq{l:au}(h:sJ (l.map keyOf)):rowsOf l (l.map keyOf)=l:=by
 have key: ∀(m:au),sJ (m.map keyOf)→(∀x∈m,cg x.1 x.2.1 l=dZ x)→rowsOf l (m.map keyOf)=m:=by
  intro m
  induction m with
  |nil=>intro _ _;rfl
  |cons x t ih=>
   intro hm hx
   have:=ih (eo.1 hm).2 (λy hy=>hx y (a6 _ hy))
   unfold rowsOf at*
   rw[bU,bU,this]
   congr 1
   show(x.1,(x.2.1,(cg x.1 x.2.1 l,())))=x
   rw[hx x (bn ..)];rfl
 refine key l h ?_
 clear key
 induction l with
 |nil=>intro x hx;nomatch hx
 |cons y t ih=>
  intro x hx
  obtain⟨h1,h2⟩:=eo.1 h
  have jH: ∀z∈t,¬(z.1=y.1∧z.2.1=y.2.1):=λz hz e=>by
   have hk:=h1 (keyOf z) (eO hz)
   have he:keyOf z=keyOf y:=ix e.1 e.2
   rw[he]at hk
   exact oz hk
  rw[fv]
  rcases aX.1 hx with rfl|hx
  ·rw[aj ⟨rfl,rfl⟩,ke jH];omega
  ·rw[ah (λe=>jH x hx ⟨e.1.symm,e.2.symm⟩),ih h2 x hx];omega
end VM
end
section
namespace VM
open Go VM.F
instance(x:Int):Decidable (aE x):=by unfold aE;infer_instance
def Fq(x:Int):Prop:=aE x∧pU x
instance:DecidablePred Fq:=λx=>by unfold Fq;infer_instance
def uq(r:Option au):Option (au×Int):=some (match r with|some o=>(o,0)|none=>([],2))
def fS(l E:au)(a b:Int):Int:=cg a b l+cg a b E
theorem DO{α:Type}(N:Nat){l:List α}{i:Nat}{x:α}(hi:i≤l.length)(hl:l.length<1000000):pQ N l (i:Int) [x]=some (l.take i++x::l.drop i):=by
 unfold pQ
 rw[aj ⟨ω,ω,rfl,by unfold zw;omega⟩]
 rfl
theorem wI{α:Type}(N:Nat){l:List α}(hl:l.length≤1000000):nO N l=some l:=by
 unfold nO
 rw[aj (by unfold zw;omega)]
theorem Ai(N:Nat){v:Int}(h:dm v):F92 N (dN v)=some (Be v):=ZK N h.1 h.2
theorem ng{v:Int}(h:aE v):Be v=(v,true):=by unfold Be;exact aj h
theorem ur{v:Int}(h: ¬aE v):Be v=(0,false):=by unfold Be;exact ah h
theorem Bl{ws:List Int}{x:Int}(h: ∀y∈ws,aE y)(hx:aE x): ∀y∈ws++[x],aE y:=λy hy=>by
 rcases bb.1 hy with hy|hy
 ·exact h y hy
 ·rw[bT.1 hy];exact hx
theorem MX(N:Nat){l:au}:ZT N l=some l:=by
 unfold ZT
 rw[dF ω ω ω ω,ak]
 simp
theorem Wg(N:Nat)(hN:2000000≤N)(K:cn.Il){E out R:au}(hq:ec E)(hl:E.length≤100000)(ho:out.length≤1000000)(r:db)(hr:aE (dZ r))(i:Nat)(hi:i≤1000000):
  cn.l27 N K N E out r [dN (dZ r)] R (R.length:Int) (i:Int) E (E.length:Int) 0=
   if Fq (dZ r+cg r.1 r.2.1 E)then K E (if dZ r+cg r.1 r.2.1 E=0 then out else out++[(r.1,(r.2.1,(dZ r+cg r.1 r.2.1 E,())))]) R (R.length:Int) ((i+1:Nat):Int)else some (bH,(2:Int)):=by
 have:=nV E bl (λn j ws=>cn.l27 N K n E out r (ws.map dN) R (R.length:Int) (i:Int) E (E.length:Int) j)
  (λt ws=>if Fq (ws++dd r.1 r.2.1 t).sum then K E (if(ws++dd r.1 r.2.1 t).sum=0 then out else out++[(r.1,(r.2.1,((ws++dd r.1 r.2.1 t).sum,())))]) R (R.length:Int) ((i+1:Nat):Int)else some (bH,(2:Int)))
  (λj (ws:List Int)=>ws.length≤j+1∧ ∀x∈ws,aE x)
  (λn j ws hj hI eJ=> ?_) (λn ws hI=> ?_) E.length N 0 [dZ r] ω ω ω ⟨aG _,λx hx=>by rw[bT.1 hx];exact hr⟩
 ·rw[show((0:Nat):Int)=0 from rfl,cX]at this
  refine this.trans ?_
  have e:([dZ r]++dd r.1 r.2.1 E).sum=dZ r+cg r.1 r.2.1 E:=by rw[D8,cy];rfl
  rw[e]
 ·unfold cn.l27 cn.ZU
  have nF:=yJ hq j
  have iF:=nF
  unfold aE dZ at iF
  rw[aT ω,ak,aW ω ω,ak,aJ,wv N iF.1 iF.2,ar,bL (by rw[cv,aI];omega),ak,ax (x:=(j:Int)+1) ω ω,ag,aN,aN]
  by_cases h1:(E.getD j bl).1=r.1
  ·by_cases h2:(E.getD j bl).2.1=r.2.1
   ·have hc:dd r.1 r.2.1 (E.getD j bl::E.drop (j+1))=dZ (E.getD j bl)::dd r.1 r.2.1 (E.drop (j+1)):=by rw[eF,aj ⟨h1,h2⟩]
    rw[aj h1,aj h2,hc]
    have:=eJ (ws++[dZ (E.getD j bl)]) ⟨by rw[aS,aI];omega,Bl hI.2 nF⟩
    rw[cW]at this
    refine this.trans ?_
    rw[br];rfl
   ·have hc:dd r.1 r.2.1 (E.getD j bl::E.drop (j+1))=dd r.1 r.2.1 (E.drop (j+1)):=by rw[eF,ah (λh=>h2 h.2)]
    rw[aj h1,ah h2,hc]
    exact eJ ws ⟨ω,hI.2⟩
  ·have hc:dd r.1 r.2.1 (E.getD j bl::E.drop (j+1))=dd r.1 r.2.1 (E.drop (j+1)):=by rw[eF,ah (λh=>h1 h.1)]
   rw[ah h1,hc]
   exact eJ ws ⟨ω,hI.2⟩
 ·unfold cn.l27 cn.ZU
  have hs:=Ii hI.2 ω
  rw[aP ω,av,J4 N hI.2 ω ω,ar]
  show _=if Fq (ws++[]).sum then K E (if(ws++[]).sum=0 then out else out++[(r.1,(r.2.1,((ws++[]).sum,())))]) R (R.length:Int) ((i+1:Nat):Int)else some (bH,(2:Int))
  rw[ch,Ai N hs,ar]
  by_cases h1:aE ws.sum
  ·rw[ng h1]
   dsimp only
   rw[a7,av,sj,ar,cond_not,fY,cond_not,aN,bL (by rw[aI];omega),ak,ax (x:=(i:Int)+1) ω ω,ag]
   by_cases h2:pU ws.sum
   ·rw[aj h2,aj (show Fq ws.sum from⟨h1,h2⟩)]
    split<;>rfl
   ·rw[ah h2,ah (λh=>h2 h.2)]
  ·rw[ur h1,ah (λh=>h1 h.1)]
   rfl
theorem Tz(N:Nat)(hN:2000000≤N){l E R:au}(hq:ec E)(hl:E.length≤100000)(hR:R.length≤200000)(hv: ∀r∈R,aE (dZ r)∧dZ r=cg r.1 r.2.1 l):
  cn.ZV N N E [] R (R.length:Int) 0=uq (dW Fq (fS l E) (R.map keyOf)):=by
 have:=nV R bl (λn i out=>cn.ZV N n E out R (R.length:Int) i) (λt out=>uq ((dW Fq (fS l E) (t.map keyOf)).map (λo=>out++o))) (λi (out:au)=>out.length≤i)
  (λn i out hi hI hr=> ?_) (λn out hI=> ?_) R.length N 0 [] ω ω ω (aG _)
 ·rw[show((0:Nat):Int)=0 from rfl,cX]at this
  refine this.trans ?_
  simp
 ·unfold cn.ZV cn.ZW
  have hm:R.getD i bl∈R:=by
   rw[aU,bm hi];exact dz hi
  have U9:=hv _ hm
  have nF:=U9.1
  have iF:=nF
  unfold aE dZ at iF
  rw[aT ω,ak,aW ω ω,ak,aJ,wv N iF.1 iF.2,ar]
  refine(Wg N hN _ hq hl ω _ nF i ω).trans ?_
  rw[bU,kH]
  have ef:fS l E (keyOf (R.getD i bl)).1 (keyOf (R.getD i bl)).2=dZ (R.getD i bl)+cg (R.getD i bl).1 (R.getD i bl).2.1 E:=by
   show cg _ _ l+cg _ _ E=_
   rw[U9.2];rfl
  rw[ef]
  generalize hS:dZ (R.getD i bl)+cg (R.getD i bl).1 (R.getD i bl).2.1 E=v
  by_cases hF:Fq v
  ·rw[aj hF,aj hF,hr _ (by
    split
    ·omega
    ·rw[aS,aI];omega)]
   cases dW Fq (fS l E) ((R.drop (i+1)).map keyOf)with
   |none=>rfl
   |some o=>
    show uq (some _)=uq (some _)
    congr 2
    split
    ·rfl
    ·exact br _ _ _
  ·rw[ah hF,ah hF];rfl
 ·unfold cn.ZV cn.ZW
  rw[aP ω,av,MX,ar]
  show _=uq (some (out++[]))
  rw[ch];rfl
def Di(l:au)(k:cU):db:=(k.1,(k.2,(cg k.1 k.2 l,())))
theorem ed(l:au)(K:List cU):(rowsOf l K).length=K.length:=cv ..
theorem Im(l:au){K:List cU}{p:Nat}(h:p<K.length):(rowsOf l K).getD p bl=Di l (K.getD p (0,0)):=by
 unfold rowsOf
 rw[aU,pO,bm h,aU,bm h];rfl
theorem uu(l:au)(K:List cU)(p:Nat)(k:cU):(rowsOf l K).take p++Di l k::(rowsOf l K).drop p=rowsOf l (K.take p++k::K.drop p):=by
 unfold rowsOf
 rw[cW,bU,List.map_take,List.map_drop];rfl
theorem Ct(l:au)(K:List cU):(rowsOf l K).map keyOf=K:=by
 unfold rowsOf
 rw[List.map_map]
 induction K with
 |nil=>rfl
 |cons k t ih=>rw[bU,ih];rfl
theorem Aj{k x:cU}:0<Bf k.1 k.2 x.1 x.2↔sI x k:=by
 unfold Bf sI kN;split<;>omega
theorem xr{k x:cU}:Bf k.1 k.2 x.1 x.2=0↔x=k:=by
 have:x=k↔x.1=k.1∧x.2=k.2:=⟨λh=>h▸⟨rfl,rfl⟩,λh=>ix h.1 h.2⟩
 rw[this]
 unfold Bf;split<;>omega
def Ak(k:cU):Prop:=Hk k.1∧Hk k.2
theorem RP{k:cU}{K:List cU}{p:Nat}(h:p<K.length):wH k (K.drop p)=if sI (K.getD p (0,0)) k then K.getD p (0,0)::wH k (K.drop (p+1))else if K.getD p (0,0)=k then K.drop p else k::K.drop p:=by
 rw[drop_cons h (0,0)];rfl
theorem Al{K:List cU}{p:Nat}(h:p<K.length)(t:List cU):K.take p++K.getD p (0,0)::t=K.take (p+1)++t:=by
 rw[←rT h,br,aU,bm h];rfl
def zeroAt(l:au)(K:List cU)(k:cU):Prop:=k∉K→cg k.1 k.2 l=0
theorem xt{l:au}{k:cU}(h:cg k.1 k.2 l=0):((k.1,(k.2,((0:Int),()))):db)=Di l k:=by
 unfold Di;rw[h]
theorem uv{k:cU}{K:List cU}{p:Nat}(hs:sJ K)(hp: ∀x∈K.take p,sI x k)(h: ∀x∈K.drop p,sI k x):k∉K:=λhk=>by
 rw[←gb p K]at hk
 rcases bb.1 hk with hk|hk
 ·exact oz (hp k hk)
 ·exact oz (h k hk)
theorem RQ{k:cU}{K:List cU}{p:Nat}(hs:sJ K)(h:p<K.length)(h1: ¬sI (K.getD p (0,0)) k)(h2:K.getD p (0,0)≠k): ∀x∈K.drop p,sI k x:=by
 have hk:sI k (K.getD p (0,0)):=(RN (K.getD p (0,0)) k).elim (λh=>absurd h h1) (λh=>h.elim (λh=>absurd h h2) id)
 have hd:sJ (K.drop p):=vt (List.drop_sublist ..) hs
 rw[drop_cons h (0,0)]at hd ⊢
 intro x hx
 rcases aX.1 hx with rfl|hx
 ·exact hk
 ·exact xq hk ((eo.1 hd).1 x hx)
theorem afI(N:Nat)(C:cn.fV){l E S:au}{K:List cU}(hs:sJ K)(hl:K.length≤100000)(hf: ∀k∈K,Ak k)(x:db)(hx:Ak (keyOf x))(hz:zeroAt l K (keyOf x))(len:Int)(i:Nat)(hi:i≤1000000):
  ∀(m n p:Nat),K.length-p≤m→m<n→p≤K.length→(∀y∈K.take p,sI y (keyOf x))→
   cn.wE N C n E (rowsOf l K) x (p:Int) S len (i:Int)=C E (rowsOf l (K.take p++wH (keyOf x) (K.drop p))) S len ((i+1:Nat):Int)
 |m,0,p,_,hn,_,_=>ω
 |m,n+1,p,hm,hn,hp,hb=>by
  unfold cn.wE cn.vk cn.j18 cn.ahw
  rw[ed,ax (x:=(i:Int)+1) ω ω,ag i]
  by_cases h:p<K.length
  ·have hfk:=hf (K.getD p (0,0)) (by rw[aU,bm h];exact dz h)
   have ho:To N x.1 x.2.1 ((rowsOf l K).getD p bl)=some (Bf (keyOf x).1 (keyOf x).2 (K.getD p (0,0)).1 (K.getD p (0,0)).2):=by
    rw[Im l h]
    exact Ig N hx.1 hx.2 hfk.1 hfk.2
   rw[aT ω,ak,aW ω ω,ak,aJ,ho,ar,dT (x:=(p:Int)) ω,av,ak,ar,cO,cond_not,aN,RP h]
   by_cases h1:sI (K.getD p (0,0)) (keyOf x)
   ·rw[aj (Aj.2 h1),aj h1,ax (x:=(p:Int)+1) ω ω,ag p,Al h]
    refine afI N C hs hl hf x hx hz len i hi (m-1) n (p+1) ω ω ω λy hy=> ?_
    rw[←rT h]at hy
    rcases bb.1 hy with hy|hy
    ·exact hb y hy
    ·rw[aU,bm h]at h1
     rw[bT.1 hy];exact h1
   ·rw[ah (λh=>h1 (Aj.1 h)),ah h1]
    by_cases h2:K.getD p (0,0)=keyOf x
    ·rw[aj (xr.2 h2),aj h2,gb]
    ·rw[ah (λh=>h2 (xr.1 h)),ah h2,DO N (by rw[ed];omega) (by rw[ed];omega),ar]
     have CY:=hz (uv hs hb (RQ hs h h1 h2))
     have e:=uu l K p (keyOf x)
     rw[←xt CY]at e
     exact ff (λR=>C E R S len ((i+1:Nat):Int)) e
  ·have hd:K.drop p=[]:=vr ω
   rw[aP ω,av,dX ω,ak,DO N (by rw[ed];omega) (by rw[ed];omega),ar]
   have CY:=hz (uv hs hb (by rw[hd];exact λx hx=>nomatch hx))
   have e:=uu l K p (keyOf x)
   rw[←xt CY]at e
   have e2:wH (keyOf x) (K.drop p)=keyOf x::K.drop p:=by rw[hd];rfl
   rw[e2]
   exact ff (λR=>C E R S len ((i+1:Nat):Int)) e
end VM
end
section
namespace VM
open Go VM.F
def Io(E:au)(i:Nat):Prop:=dw (c5 (i:Int) E).sum 0
instance(E:au):DecidablePred (Io E):=λi=>by unfold Io;infer_instance
theorem ZX(N:Nat)(hN:2000000≤N)(K:gu.da){E:au}(hq:ec E)(hl:E.length≤100000)(a:Nat)(ha:a<6):
  gu.l6 N K N E (a:Int) [] (a:Int) E (E.length:Int) 0=if(c5 (a:Int) E).sum=0 then K E ((a+1:Nat):Int)else some false:=by
 have:=nV E bl (λn j ws=>gu.l6 N K n E (a:Int) (ws.map dN) (a:Int) E (E.length:Int) j)
  (λt ws=>if(ws++c5 (a:Int) t).sum=0 then K E ((a+1:Nat):Int)else some false)
  (λj (ws:List Int)=>ws.length≤j∧ ∀x∈ws,aE x)
  (λn j ws hj hI hr=> ?_) (λn ws hI=> ?_) E.length N 0 [] ω ω ω ⟨aG _,λx hx=>nomatch hx⟩
 ·rw[show((0:Nat):Int)=0 from rfl,cX]at this
  exact this
 ·unfold gu.l6 gu.ud
  have nF:=yJ hq j
  have iF:=nF
  unfold aE dZ at iF
  rw[aT ω,ak,aW ω ω,ak,aJ,wv N iF.1 iF.2,ar,bL (by rw[cv,aI];omega),ak,ax (x:=(j:Int)+1) ω ω,ag j,aN]
  by_cases h1:(E.getD j bl).2.1=(a:Int)
  ·have hc:c5 (a:Int) (E.getD j bl::E.drop (j+1))=dZ (E.getD j bl)::c5 (a:Int) (E.drop (j+1)):=by rw[df,aj h1]
   rw[aj h1,hc]
   have:=hr (ws++[dZ (E.getD j bl)]) ⟨by rw[aS,aI];omega,Bl hI.2 nF⟩
   rw[cW]at this
   refine this.trans ?_
   rw[br];rfl
  ·have hc:c5 (a:Int) (E.getD j bl::E.drop (j+1))=c5 (a:Int) (E.drop (j+1)):=by rw[df,ah h1]
   rw[ah h1,hc]
   exact hr ws ⟨ω,hI.2⟩
 ·unfold gu.l6 gu.ud
  rw[aP ω,av,J4 N hI.2 ω ω,ar]
  show _=if(ws++[]).sum=0 then K E ((a+1:Nat):Int)else some false
  rw[ch,a7,av,Ad,ar,cond_not,aN,ax (x:=(a:Int)+1) ω ω,ag a]
  by_cases h:ws.sum=0
  ·rw[aj h,aj (kd.2 h)]
  ·rw[ah h,ah (λk=>h (kd.1 k))]
theorem Wh(N:Nat)(hN:2000000≤N){E:au}(hq:ec E)(hl:E.length≤100000):gu N E=some (decide (∀j,j<kb→Io E j)&&true):=by
 unfold gu gu.b
 refine ij (len:=kb) (F:=λn i=>gu.l2 N n E i) (Io E) (λn i r hi hp hr=> ?_) (λn=> ?_) N (by unfold kb;omega)
 ·unfold gu.l2 gu.gD
  unfold kb at hi
  rw[aT ω,ak,ZX N hN _ hq hl i hi,hr]
  unfold Io dw
  rfl
 ·unfold gu.l2 gu.gD
  rw[aP (by unfold kb;omega),av]
structure Wi(E:au):Prop where
 place: ∀x∈E,bI x.1 x.2.1
 q: ∀x∈E,aE (dZ x)∧pU (dZ x)
 len:E.length≤400
 flat: ∀i:Int,(c5 i E).sum=0
theorem Ip{x:db}(h:bI x.1 x.2.1):Ak (keyOf x):=by
 have h':bI (keyOf x).1 (keyOf x).2:=h
 unfold bI at h'
 unfold Ak Hk
 omega
theorem gn{l:au}{k:cU}(h:k∉l.map keyOf):cg k.1 k.2 l=0:=ke λx hx e=>h (by
 have:keyOf x=k:=ix e.1 e.2
 rw[←this];exact eO hx)
theorem TA(N:Nat)(hN:2000000≤N){l E:au}(hq:ec E)(hE:E.length≤400)(hp: ∀x∈E,Ak (keyOf x))(hs:sJ (l.map keyOf))(hl:l.length≤90000)(Wj:ec l)(Iq: ∀x∈l,Ak (keyOf x)):
  cn.nG N N E l E (E.length:Int) 0=uq (dW Fq (fS l E) (nf (l.map keyOf) E)):=by
 have:=nV E bl (λn i K=>cn.nG N n E (rowsOf l K) E (E.length:Int) i) (λt K=>uq (dW Fq (fS l E) (nf K t)))
  (λi (K:List cU)=>K.length≤l.length+i∧sJ K∧(∀k∈K,Ak k)∧ ∀x∈l,keyOf x∈K)
  (λn i K hi hI hr=> ?_) (λn K hI=> ?_) E.length N 0 (l.map keyOf) ω ω ω ⟨by rw[cv];omega,hs,λk hk=>by
   obtain⟨x,hx,rfl⟩:=cC.1 hk
   exact Iq x hx,λx hx=>eO hx⟩
 ·rw[show((0:Nat):Int)=0 from rfl,cX]at this
  simp only[mq hs]at this
  exact this
 ·unfold cn.nG cn.mE
  obtain⟨h1,h2,h3,h4⟩:=hI
  have hm:E.getD i bl∈E:=by
   rw[aU,bm hi];exact dz hi
  rw[aT ω,ak,aW ω ω,ak,aJ]
  refine(afI N _ h2 ω h3 (E.getD i bl) (hp _ hm) (λhk=>gn λhx=>hk (by
   obtain⟨x,hx,e⟩:=cC.1 hx
   rw[←e];exact h4 x hx)) (E.length:Int) i ω K.length N 0 ω ω ω (λy hy=>nomatch hy)).trans ?_
  rw[oH,cI,cX,so]
  refine hr (wH (keyOf (E.getD i bl)) K) ⟨ck (Fo _ K) ω,Ah h2,λk hk=>(qW.1 hk).elim (λe=>e▸hp _ hm) (h3 k),λx hx=>qW.2 (Or.inr (h4 x hx))⟩
 ·unfold cn.nG cn.mE
  obtain⟨h1,h2,h3,h4⟩:=hI
  rw[aP ω,av,ed,cL ω ω ω,ak]
  have:=Tz N hN (l:=l) (R:=rowsOf l K) hq ω (by rw[ed];omega) (λr hr=>by
   unfold rowsOf at hr
   obtain⟨k,hk,rfl⟩:=cC.1 hr
   refine⟨?_,rfl⟩
   show aE (cg k.1 k.2 l)
   by_cases hkl:k∈l.map keyOf
   ·have e:rowsOf l (l.map keyOf)=l:=mq hs
    have hm:Di l k∈rowsOf l (l.map keyOf):=eO hkl
    rw[e]at hm
    exact Wj (Di l k) hm
   ·rw[gn hkl];exact⟨δ,δ⟩)
  rw[Ct,ed]at this
  exact this
theorem eG{l:au}(h:cZ l=true):sJ (l.map keyOf)∧(∀x∈l,bI x.1 x.2.1∧pU (dZ x)):=by
 unfold cZ at h
 rw[gg]at h
 have h':=bz h
 have get: ∀(i:Nat) (hi:i<l.length),l.getD i bl=l[i]:=λi hi=>by rw[aU,bm hi];rfl
 have Wk: ∀i,i+1<l.length→sI (keyOf (l.getD i bl)) (keyOf (l.getD (i+1) bl)):=λi hi=>(h' (i+1) hi).2.2.2 ω
 have eZ: ∀j,j<l.length→ ∀i,i<j→sI (keyOf (l.getD i bl)) (keyOf (l.getD j bl)):=by
  intro j
  induction j with
  |zero=>intro _ i hi;omega
  |succ j ih=>
   intro hj i hi
   by_cases e:i=j
   ·rw[e];exact Wk j hj
   ·exact xq (ih ω i ω) (Wk j hj)
 refine⟨?_,λx hx=> ?_⟩
 ·refine zj.2 (tL.2 λi j hi hj pH=> ?_)
  have:=eZ j hj i pH
  rw[get i hi,get j hj]at this
  exact this
 ·obtain⟨i,hi,e⟩:=gd hx
  have:=h' i hi
  unfold lf lT at this
  rw[get i hi,e]at this
  exact⟨this.1,this.2.2.1⟩
theorem ZY(N:Nat)(hN:2000000≤N){l E:au}(hk:cZ l=true)(hl:l.length≤90000)(Wj:ec l)(g:Wi E):cn N l E=uq (dW Fq (fS l E) (nf (l.map keyOf) E)):=by
 obtain⟨hs,Iq⟩:=eG hk
 have hE:=g.len
 unfold cn cn.b
 rw[wy N ω ω,hk,ar,a7,av,aP ω,av]
 refine z8 E bl (λn i=>cn.l4 N n l E E (E.length:Int) i) (λ_=>uq (dW Fq (fS l E) (nf (l.map keyOf) E))) (λn i hi hr=> ?_) (λn=> ?_) N ω
 ·unfold cn.l4 cn.dv
  have hm:E.getD i bl∈E:=by
   rw[aU,bm hi];exact dz hi
  rw[aT ω,ak,aW ω ω,ak,aJ,DM,bs (g.place _ hm),ar,a7,av,sj,ar,
   bs (show pU ((E.getD i bl).2.2.1)from(g.q _ hm).2),a7,av,ax (x:=(i:Int)+1) ω ω,ag i]
  exact hr
 ·unfold cn.l4 cn.dv
  have hf:gu N E=some true:=by
   rw[Wh N hN (λx hx=>(g.q x hx).1) ω,bs (p:= ∀j,j<kb→Io E j) (λj _=>g.flat (j:Int))];rfl
  rw[aP ω,av,hf,ar,a7,av,wI N ω,ar]
  exact TA N hN (λx hx=>(g.q x hx).1) hE (λx hx=>Ip (g.place x hx)) hs hl Wj (λx hx=>Ip (Iq x hx).1)
end VM
end
section
namespace VM
open Go VM.F
def Am(a b:Nat):Nat→List cU
 |0=>[]
 |m+1=>((a:Int),(b:Int))::Am a (b+1) m
def yi(w a:Nat):Nat→List cU
 |0=>[]
 |m+1=>Am a 0 w++yi w (a+1) m
theorem An{k:cU}{a:Nat}: ∀{m b:Nat},k∈Am a b m↔k.1=a∧(b:Int)≤k.2∧k.2<(b+m:Nat)
 |0,b=>⟨λh=>(nomatch h),λh=>ω⟩
 |m+1,b=>by
  show k∈((a:Int),(b:Int))::Am a (b+1) m↔_
  rw[aX,An]
  have:k=((a:Int),(b:Int))↔k.1=a∧k.2=b:=⟨λh=>h▸⟨rfl,rfl⟩,λh=>ix h.1 h.2⟩
  rw[this]
  omega
theorem n7{k:cU}{w:Nat}: ∀{m a:Nat},k∈yi w a m↔(a:Int)≤k.1∧k.1<(a+m:Nat)∧0≤k.2∧k.2<w
 |0,a=>⟨λh=>(nomatch h),λh=>ω⟩
 |m+1,a=>by
  show k∈Am a 0 w++yi w (a+1) m↔_
  rw[bb,An,n7]
  omega
theorem MY(a:Nat): ∀(m b:Nat),sJ (Am a b m)
 |0,b=>List.Pairwise.nil
 |m+1,b=>eo.2 ⟨λk hk=>by
  have:=An.1 hk
  show(a:Int)<k.1∨((a:Int)=k.1∧(b:Int)<k.2)
  omega,MY a m (b+1)⟩
theorem oa(w:Nat): ∀(m a:Nat),sJ (yi w a m)
 |0,a=>List.Pairwise.nil
 |m+1,a=>vu.2 ⟨MY a w 0,oa w m (a+1),λx hx y hy=>by
  have h1:=An.1 hx
  have h2:=n7.1 hy
  show x.1<y.1∨(x.1=y.1∧x.2<y.2)
  omega⟩
structure Mark(l:au)(a b p:Nat):Prop where
 le:p≤l.length
 lo: ∀x∈l.take p,sI (keyOf x) ((a:Int),(b:Int))
 hi: ∀x∈l.drop p,¬sI (keyOf x) ((a:Int),(b:Int))
theorem tt{k:cU}{a b:Nat}:sI k ((a:Int),((b+1:Nat):Int))↔sI k ((a:Int),(b:Int))∨k=((a:Int),(b:Int)):=by
 have:k=((a:Int),(b:Int))↔k.1=a∧k.2=b:=⟨λh=>h▸⟨rfl,rfl⟩,λh=>ix h.1 h.2⟩
 rw[this]
 show(k.1<(a:Int)∨(k.1=(a:Int)∧k.2<((b+1:Nat):Int)))↔(k.1<(a:Int)∨(k.1=(a:Int)∧k.2<(b:Int)))∨_
 omega
theorem Mark.row{l:au}{a w p:Nat}(h:Mark l a w p)(hw: ∀x∈l,0≤(keyOf x).2∧(keyOf x).2<w):Mark l (a+1) 0 p:=by
 have key: ∀x∈l,(sI (keyOf x) ((a:Int),(w:Int))↔sI (keyOf x) (((a+1:Nat):Int),((0:Nat):Int))):=λx hx=>by
  have:=hw x hx
  show((keyOf x).1<(a:Int)∨((keyOf x).1=(a:Int)∧(keyOf x).2<(w:Int)))↔((keyOf x).1<((a+1:Nat):Int)∨((keyOf x).1=((a+1:Nat):Int)∧(keyOf x).2<((0:Nat):Int)))
  omega
 exact⟨h.le,λx hx=>(key x (lC hx)).1 (h.lo x hx),λx hx k=>h.hi x hx ((key x (mK hx)).2 k)⟩
theorem pY(a b:Int)(l m:au):cg a b (l++m)=cg a b l+cg a b m:=by
 induction l with
 |nil=>rw[cI,tq];omega
 |cons x t ih=>rw[lG,fv,fv,ih];omega
theorem Mark.step{l:au}(hs:sJ (l.map keyOf)){a b p:Nat}(h:Mark l a b p):
  (p<l.length∧(l.getD p bl).1=(a:Int)∧(l.getD p bl).2.1=(b:Int)∧cg (a:Int) (b:Int) l=dZ (l.getD p bl)∧Mark l a (b+1) (p+1))∨
  ((p<l.length→(l.getD p bl).1=(a:Int)→(l.getD p bl).2.1=(b:Int)→False)∧cg (a:Int) (b:Int) l=0∧Mark l a (b+1) p):=by
 have no: ∀{x:db} {k:cU},¬keyOf x=k→ ¬(x.1=k.1∧x.2.1=k.2):=λh e=>h (ix e.1 e.2)
 have hz:cg (a:Int) (b:Int) (l.take p)=0:=ke λx hx e=>by
  have e':keyOf x=((a:Int),(b:Int)):=ix e.1 e.2
  have:=h.lo x hx
  rw[e']at this
  exact oz this
 have Ho:cg (a:Int) (b:Int) l=cg (a:Int) (b:Int) (l.drop p):=by
  conv=>lhs;rw[←gb p l]
  rw[pY,hz];omega
 by_cases hp:p<l.length
 ·have hd:=drop_cons hp bl
  have hsd:sJ ((l.drop p).map keyOf):=by
   rw[List.map_drop];exact vt (List.drop_sublist ..) hs
  have K6:=h.hi
  rw[hd]at hsd K6 Ho
  have hgt:=(eo.1 hsd).1
  have Vw:=K6 _ (bn ..)
  have ams:l.take (p+1)=l.take p++[l.getD p bl]:=by
   rw[←rT hp,aU,bm hp];rfl
  by_cases he:keyOf (l.getD p bl)=((a:Int),(b:Int))
  ·refine Or.inl ⟨hp,ff Prod.fst he,ff Prod.snd he,?_,ω,λx hx=> ?_,λx hx hk=> ?_⟩
   ·rw[Ho,fv,aj ⟨ff Prod.fst he,ff Prod.snd he⟩,ke λx hx e=> ?_]
    ·omega
    ·have hg:=hgt (keyOf x) (eO hx)
     have e':keyOf x=((a:Int),(b:Int)):=ix e.1 e.2
     rw[he,e']at hg
     exact oz hg
   ·rw[ams]at hx
    rcases bb.1 hx with hx|hx
    ·exact tt.2 (Or.inl (h.lo x hx))
    ·rw[bT.1 hx];exact tt.2 (Or.inr he)
   ·have hg:=hgt (keyOf x) (eO hx)
    rw[he]at hg
    rcases tt.1 hk with hk|hk
    ·exact Ik hg hk
    ·rw[hk]at hg;exact oz hg
  ·have kW: ∀x∈l.getD p bl::l.drop (p+1),keyOf x≠((a:Int),(b:Int)):=λx hx e=>by
    rcases aX.1 hx with rfl|hx
    ·exact he e
    ·have hg:=hgt (keyOf x) (eO hx)
     rw[e]at hg
     exact Vw hg
   refine Or.inr ⟨λ_ e1 e2=>he (ix e1 e2),?_,h.le,λx hx=>tt.2 (Or.inl (h.lo x hx)),λx hx hk=> ?_⟩
   ·rw[Ho]
    exact ke λx hx=>no (kW x hx)
   ·rw[hd]at hx
    rcases tt.1 hk with hk|hk
    ·exact K6 x hx hk
    ·exact kW x hx hk
 ·have hd:l.drop p=[]:=vr ω
  refine Or.inr ⟨λh=>absurd h hp,by rw[Ho,hd];rfl,h.le,λx hx=>tt.2 (Or.inl (h.lo x hx)),λx hx=> ?_⟩
  rw[hd]at hx;nomatch hx
def vm(out:au)(r:Option au):Option (au×Bool):=some (match r with|some o=>(out++o,true)|none=>([],false))
theorem Ka(N:Nat)(v:Int):Qa N (cT v)=some (if Fq v then(v,true)else(0,false)):=by
 unfold Qa
 rw[qR,ar]
 by_cases h:aE v
 ·rw[ng h]
  dsimp only
  rw[a7,av,aN]
  by_cases h2:pU v
  ·rw[ah (show ¬v= -9223372036854775808 from h2),aj (show Fq v from⟨h,h2⟩)]
  ·rw[aj (show v= -9223372036854775808 by unfold pU at h2;omega),ah (λh=>h2 h.2)]
 ·rw[ur h,ah (λk=>h k.1)]
  rfl
theorem Wl(N:Nat)(hN:4000000≤N)(C4:ct.bD)(C7:ct.eK){l E out:au}(hq:ec E)(hl:E.length≤100000)(ho:out.length≤1000000)(p:Int)(a b:Nat)(hb:b≤1000000)(q:Int)(hF:Fq q):
  ct.Ir N C4 C7 N l E out p (a:Int) (b:Int) q false (false,(([]:List Int),())) 0=
   if Fq (q+cg (a:Int) (b:Int) E)then C7 l E (if q+cg (a:Int) (b:Int) E=0 then out else out++[((a:Int),((b:Int),(q+cg (a:Int) (b:Int) E,())))]) p (a:Int) ((b+1:Nat):Int)else some ([],false):=by
 have:=nV E bl (λn j ws=>ct.Ir N C4 C7 n l E out p (a:Int) (b:Int) q (!ws.isEmpty) (cT ws.sum) j)
  (λt ws=>if Fq (q+(ws++dd (a:Int) (b:Int) t).sum)then C7 l E (if q+(ws++dd (a:Int) (b:Int) t).sum=0 then out else out++[((a:Int),((b:Int),(q+(ws++dd (a:Int) (b:Int) t).sum,())))]) p (a:Int) ((b+1:Nat):Int)else some ([],false))
  (λj (ws:List Int)=>ws.length≤j∧ ∀x∈ws,aE x)
  (λn j ws hj hI eJ=> ?_) (λn ws hI=> ?_) E.length N 0 [] ω ω ω ⟨aG _,λx hx=>nomatch hx⟩
 ·rw[show((0:Nat):Int)=0 from rfl,cX,ky,iC]at this
  exact this
 ·unfold ct.Ir ct.Hp
  have nF:=yJ hq j
  have iF:=nF
  unfold aE dZ at iF
  have hb:=MT hI.2
  rw[aT ω,ak,aW ω ω,ak,ak,ak,aJ,c4 N ω iF.1 iF.2,ar,iW N ω ((zZ (n:=ws.length) ω hb.1 hb.2).mono ω) ((Fit.i64 iF.1 iF.2).mono ω),ar,ax (x:=(j:Int)+1) ω ω,ag j,aN,aN]
  by_cases h1:(E.getD j bl).1=(a:Int)
  ·by_cases h2:(E.getD j bl).2.1=(b:Int)
   ·have hc:dd (a:Int) (b:Int) (E.getD j bl::E.drop (j+1))=dZ (E.getD j bl)::dd (a:Int) (b:Int) (E.drop (j+1)):=by rw[eF,aj ⟨h1,h2⟩]
    rw[aj h1,aj h2,hc]
    have:=eJ (ws++[dZ (E.getD j bl)]) ⟨by rw[aS,aI];omega,Bl hI.2 nF⟩
    rw[lH,cy,ky,kz,br]at this
    refine Eq.trans ?_ this
    rw[show(!(ws++[dZ (E.getD j bl)]).isEmpty)=true by cases ws<;>rfl]
    rfl
   ·have hc:dd (a:Int) (b:Int) (E.getD j bl::E.drop (j+1))=dd (a:Int) (b:Int) (E.drop (j+1)):=by rw[eF,ah (λh=>h2 h.2)]
    rw[aj h1,ah h2,hc]
    exact eJ ws ⟨ω,hI.2⟩
  ·have hc:dd (a:Int) (b:Int) (E.getD j bl::E.drop (j+1))=dd (a:Int) (b:Int) (E.drop (j+1)):=by rw[eF,ah (λh=>h1 h.1)]
   rw[ah h1,hc]
   exact eJ ws ⟨ω,hI.2⟩
 ·unfold ct.Ir ct.Hp
  have hs:=MT hI.2
  have RJ:=hF.1
  unfold aE at RJ
  rw[aP ω,av,c4 N ω RJ.1 RJ.2,ar,iW N ω ((zZ (n:=ws.length) ω hs.1 hs.2).mono ω) ((Fit.i64 RJ.1 RJ.2).mono ω),ar,Ka,ar,ax (x:=(b:Int)+1) ω ω,ag b,bL (by rw[aI];omega),ak,bL (by rw[aI];omega),ak,cond_not]
  show _=if Fq (q+(ws++[]).sum)then C7 l E (if q+(ws++[]).sum=0 then out else out++[((a:Int),((b:Int),(q+(ws++[]).sum,())))]) p (a:Int) ((b+1:Nat):Int)else some ([],false)
  rw[ch,Ep ws.sum q]
  cases ws with
  |nil=>
   show cond (!aO q 0) _ _=_
   rw[cond_not,aN,ky,kz,aj hF]
   by_cases h:q=0
   ·rw[aj h,aj h]
   ·rw[ah h,ah h]
  |cons w ws=>
   show cond (!(if Fq (q+(w::ws).sum)then(q+(w::ws).sum,true)else(0,false)).2) _ _=_
   by_cases h2:Fq (q+(w::ws).sum)
   ·rw[aj h2,aj h2]
    dsimp only
    rw[a7,av,cond_not,aN]
    by_cases h:q+(w::ws).sum=0
    ·rw[aj h,aj h]
    ·rw[ah h,ah h]
   ·rw[ah h2,ah h2];rfl
end VM
end
section
namespace VM
open Go VM.F
theorem Is{P:Int→Prop} [DecidablePred P]{f:Int→Int→Int}{k:cU}{K:List cU}{out:au}{v:Int}(hv:f k.1 k.2=v):
  (if P v then vm (if v=0 then out else out++[(k.1,(k.2,(v,())))]) (dW P f K)else some ([],false))=vm out (dW P f (k::K)):=by
 rw[kH,hv]
 by_cases h:P v
 ·rw[aj h,aj h]
  cases dW P f K with
  |none=>rfl
  |some o=>
   show some ((if v=0 then out else out++[(k.1,(k.2,(v,())))])++o,true)=some (out++(if v=0 then o else(k.1,(k.2,(v,())))::o),true)
   by_cases h0:v=0
   ·rw[aj h0,aj h0]
   ·rw[ah h0,ah h0,br];rfl
 ·rw[ah h,ah h];rfl
theorem amt{l:au}(hs:sJ (l.map keyOf))(hl: ∀x∈l,Fq (dZ x))(k:cU):Fq (cg k.1 k.2 l):=by
 by_cases hk:k∈l.map keyOf
 ·have hm:Di l k∈rowsOf l (l.map keyOf):=eO hk
  rw[mq hs]at hm
  exact hl (Di l k) hm
 ·rw[gn hk];exact⟨⟨δ,δ⟩,δ⟩
theorem It(N:Nat)(hN:4000000≤N)(C:ct.bD){l E:au}(hq:ec E)(hl:E.length≤100000)(hs:sJ (l.map keyOf))(GJ:l.length≤100000)(hf: ∀x∈l,Fq (dZ x))(hw: ∀x∈l,0≤(keyOf x).2∧(keyOf x).2<(6:Nat))(a:Nat)(ha:a≤24)(G:List cU)
  (hc: ∀(p:Nat) (out:au),Mark l (a+1) 0 p→out.length≤6*(a+1)→C l E out (p:Int) ((a+1:Nat):Int)=vm out (dW Fq (fS l E) G)):
  ∀(m n b p:Nat) (out:au),b+m=6→m<n→Mark l a b p→out.length≤6*a+b→ct.l7 N C n l E out (p:Int) (a:Int) (b:Int)=vm out (dW Fq (fS l E) (Am a b m++G))
 |m,0,b,p,out,_,hn,_,_=>ω
 |0,n+1,b,p,out,hb,_,hM,ho=>by
  have e:b=6:=ω
  subst e
  unfold ct.l7 ct.pj
  rw[aP ω,av,ax (x:=(a:Int)+1) ω ω,ag a]
  exact hc p out (hM.row hw) ω
 |m+1,n+1,b,p,out,hb,hn,hM,ho=>by
  have hp:=hM.le
  have ahx: ∀(p:Nat) (v:Int),Mark l a (b+1) p→ct.l7 N C n l E (if v=0 then out else out++[((a:Int),((b:Int),(v,())))]) (p:Int) (a:Int) ((b+1:Nat):Int)=vm (if v=0 then out else out++[((a:Int),((b:Int),(v,())))]) (dW Fq (fS l E) (Am a (b+1) m++G)):=λp v h=>
   It N hN C hq hl hs GJ hf hw a ha G hc m n (b+1) p _ ω ω h (by
    split
    ·omega
    ·rw[aS,aI];omega)
  have xi:=amt hs hf ((a:Int),(b:Int))
  unfold ct.l7 ct.pj ct.RS ct.Kb
  show _=vm out (dW Fq (fS l E) (((a:Int),(b:Int))::(Am a (b+1) m++G)))
  rw[aT (x:=(b:Int)) ω,ak,cO,aN,aN,aJ]
  have fin: ∀(p:Nat) (q:Int),q=cg (a:Int) (b:Int) l→Mark l a (b+1) p→ct.Ir N C (ct.l7 N C n) N l E out (p:Int) (a:Int) (b:Int) q false (false,(([]:List Int),())) 0=vm out (dW Fq (fS l E) (((a:Int),(b:Int))::(Am a (b+1) m++G))):=λp q e h=>by
   subst e
   rw[Wl N hN C _ hq hl ω (p:Int) a b ω _ xi,ahx p _ h]
   exact Is (k:=((a:Int),(b:Int))) rfl
  rcases hM.step hs with⟨h1,h2,h3,h4,h5⟩|⟨h1,h2,h3⟩
  ·rw[aj (show(p:Int)<(l.length:Int)by omega),aW ω ω,ak,ak,aj h2,aj h3,ax (x:=(p:Int)+1) ω ω,ag p,ak]
   exact fin (p+1) _ h4.symm h5
  ·by_cases g1:p<l.length
   ·rw[aj (show(p:Int)<(l.length:Int)by omega),aW ω ω,ak,ak]
    by_cases g2:(l.getD p bl).1=(a:Int)
    ·rw[aj g2,ah (λg3=>h1 g1 g2 g3)]
     exact fin p _ h2.symm h3
    ·rw[ah g2]
     exact fin p _ h2.symm h3
   ·rw[ah (show ¬(p:Int)<(l.length:Int)by omega)]
    exact fin p _ h2.symm h3
theorem Iu(N:Nat)(hN:4000000≤N){l E:au}(hq:ec E)(hl:E.length≤100000)(hs:sJ (l.map keyOf))(GJ:l.length≤100000)(hf: ∀x∈l,Fq (dZ x))(hw: ∀x∈l,0≤(keyOf x).2∧(keyOf x).2<(6:Nat)):
  ∀(m n a p:Nat) (out:au),a+m=25→m<n→Mark l a 0 p→out.length≤6*a→ct.l4 N n l E out (p:Int) (a:Int)=vm out (dW Fq (fS l E) (yi 6 a m))
 |m,0,a,p,out,_,hn,_,_=>ω
 |0,n+1,a,p,out,ha,_,hM,ho=>by
  unfold ct.l4 ct.dv
  rw[fh ω,av]
  show some (out,true)=some (out++[],true)
  rw[ch]
 |m+1,n+1,a,p,out,ha,hn,hM,ho=>by
  unfold ct.l4 ct.dv
  rw[fC ω,ak]
  exact It N hN _ hq hl hs GJ hf hw a ω (yi 6 (a+1) m) (λp out h ho=>Iu N hN hq hl hs GJ hf hw m n (a+1) p out ω ω h ho) 6 N 0 p out ω ω hM ω
def jr:List cU:=yi 6 0 25
theorem Fp(N:Nat)(hN:4000000≤N){l E:au}(hk:cZ l=true)(hl:l.length≤90000)(Wj:ec l)(hq:ec E)(hE:E.length≤100000):ct N l E=vm [] (dW Fq (fS l E) jr):=by
 obtain⟨hs,Iq⟩:=eG hk
 unfold ct ct.b
 refine Iu N hN hq hE hs ω (λx hx=>⟨Wj x hx,(Iq x hx).2⟩) (λx hx=> ?_) 25 N 0 0 [] ω ω ⟨ω,λx hx=>(nomatch hx),λx hx eZ=> ?_⟩ (by simp)
 ·have h:bI (keyOf x).1 (keyOf x).2:=(Iq x hx).1
  unfold bI at h;omega
 ·have h:bI (keyOf x).1 (keyOf x).2:=(Iq x (mK hx)).1
  unfold bI at h
  have vX:(keyOf x).1<((0:Nat):Int)∨((keyOf x).1=((0:Nat):Int)∧(keyOf x).2<((0:Nat):Int)):=eZ
  omega
theorem TB{l E:au}(hk:cZ l=true)(hp: ∀x∈E,bI x.1 x.2.1):dW Fq (fS l E) (nf (l.map keyOf) E)=dW Fq (fS l E) jr:=by
 obtain⟨hs,Iq⟩:=eG hk
 refine MW ⟨⟨δ,δ⟩,δ⟩ (yK hs) (oa 6 25 0) (λk hk=> ?_) (λk hk hn=> ?_)
 ·have:bI k.1 k.2:=by
   rcases lX.1 hk with h|⟨x,hx,rfl⟩
   ·obtain⟨x,hx,rfl⟩:=cC.1 h
    exact(Iq x hx).1
   ·exact hp x hx
  unfold bI at this
  exact n7.2 ω
 ·have h1:k∉l.map keyOf:=λh=>hn (lX.2 (Or.inl h))
  have h2:k∉E.map keyOf:=λh=>by
   obtain⟨x,hx,e⟩:=cC.1 h
   exact hn (lX.2 (Or.inr ⟨x,hx,e⟩))
  unfold fS
  rw[gn h1,gn h2];rfl
end VM
end
section
namespace VM
open Go VM.F
def Bm(E:au):Prop:= ∀x∈E,dm (dZ x)
def jK(r:db):uw:=(r.1,(r.2.1,(dN (dZ r),())))
theorem Kc(E:au)(i:Nat):(E.map jK).getD i ((0:Int),((0:Int),(cz,())))=jK (E.getD i bl):=by
 by_cases h:i<E.length
 ·rw[aU,pO,bm h,aU,bm h];rfl
 ·rw[aU,gC (by rw[cv];omega),aU,gC ω];rfl
theorem Kd{l:au}(h:Bm l)(i:Nat):dm (dZ (l.getD i bl)):=by
 by_cases hi:i<l.length
 ·rw[aU,bm hi];exact h _ (dz hi)
 ·rw[aU,gC ω];exact⟨δ,δ⟩
theorem qX{x:Int}(h:aE x):dm x:=by unfold aE at h;unfold dm;omega
theorem qY{ws:List Int}{x:Int}(h: ∀y∈ws,dm y)(hx:dm x): ∀y∈ws++[x],dm y:=λy hy=>by
 rcases bb.1 hy with hy|hy
 ·exact h y hy
 ·rw[bT.1 hy];exact hx
theorem Wm(N:Nat){l:au}:ahy N l=some l:=MX N
theorem Wn(N:Nat)(hN:2000000≤N)(K:cq.Iv){E out R:au}(hq:Bm E)(hl:E.length≤100000)(ho:out.length≤1000000)(r:db)(hr:aE (dZ r))(i:Nat)(hi:i≤1000000):
  cq.MZ N K N (E.map jK) out r [dN (dZ r)] R (R.length:Int) (i:Int) (E.map jK) ((E.map jK).length:Int) 0=
   if aE (dZ r+cg r.1 r.2.1 E)then K (E.map jK) (if dZ r+cg r.1 r.2.1 E=0 then out else out++[(r.1,(r.2.1,(dZ r+cg r.1 r.2.1 E,())))]) R (R.length:Int) ((i+1:Nat):Int)else some (bH,(2:Int)):=by
 have:=nV E bl (λn j ws=>cq.MZ N K n (E.map jK) out r (ws.map dN) R (R.length:Int) (i:Int) (E.map jK) ((E.map jK).length:Int) j)
  (λt ws=>if aE (ws++dd r.1 r.2.1 t).sum then K (E.map jK) (if(ws++dd r.1 r.2.1 t).sum=0 then out else out++[(r.1,(r.2.1,((ws++dd r.1 r.2.1 t).sum,())))]) R (R.length:Int) ((i+1:Nat):Int)else some (bH,(2:Int)))
  (λj (ws:List Int)=>ws.length≤j+1∧ ∀x∈ws,dm x)
  (λn j ws hj hI eJ=> ?_) (λn ws hI=> ?_) E.length N 0 [dZ r] ω ω ω ⟨aG _,λx hx=>by rw[bT.1 hx];exact qX hr⟩
 ·rw[show((0:Nat):Int)=0 from rfl,cX]at this
  refine this.trans ?_
  have e:([dZ r]++dd r.1 r.2.1 E).sum=dZ r+cg r.1 r.2.1 E:=by rw[D8,cy];rfl
  rw[e]
 ·unfold cq.MZ cq.Ke
  rw[aT (by rw[cv];omega),ak,aW ω (by rw[cv];omega),ak,aJ,Kc,bL (by rw[cv,aI];omega),ak,ax (x:=(j:Int)+1) ω ω,ag j,aN,aN]
  by_cases h1:(E.getD j bl).1=r.1
  ·by_cases h2:(E.getD j bl).2.1=r.2.1
   ·have hc:dd r.1 r.2.1 (E.getD j bl::E.drop (j+1))=dZ (E.getD j bl)::dd r.1 r.2.1 (E.drop (j+1)):=by rw[eF,aj ⟨h1,h2⟩]
    rw[aj (show(jK (E.getD j bl)).1=r.1 from h1),aj (show(jK (E.getD j bl)).2.1=r.2.1 from h2),hc]
    have:=eJ (ws++[dZ (E.getD j bl)]) ⟨by rw[aS,aI];omega,qY hI.2 (Kd hq j)⟩
    rw[cW]at this
    refine this.trans ?_
    rw[br];rfl
   ·have hc:dd r.1 r.2.1 (E.getD j bl::E.drop (j+1))=dd r.1 r.2.1 (E.drop (j+1)):=by rw[eF,ah (λh=>h2 h.2)]
    rw[aj (show(jK (E.getD j bl)).1=r.1 from h1),ah (show ¬(jK (E.getD j bl)).2.1=r.2.1 from h2),hc]
    exact eJ ws ⟨ω,hI.2⟩
  ·have hc:dd r.1 r.2.1 (E.getD j bl::E.drop (j+1))=dd r.1 r.2.1 (E.drop (j+1)):=by rw[eF,ah (λh=>h1 h.1)]
   rw[ah (show ¬(jK (E.getD j bl)).1=r.1 from h1),hc]
   exact eJ ws ⟨ω,hI.2⟩
 ·unfold cq.MZ cq.Ke
  rw[aP (by rw[cv];omega),av,DK N hI.2 ω ω,ar]
  show _=if aE (ws++[]).sum then K (E.map jK) (if(ws++[]).sum=0 then out else out++[(r.1,(r.2.1,((ws++[]).sum,())))]) R (R.length:Int) ((i+1:Nat):Int)else some (bH,(2:Int))
  rw[ch]
  unfold Fe
  by_cases h0:dm ws.sum
  ·rw[aj h0]
   dsimp only
   rw[Ai N h0,ar,a7,av]
   by_cases h1:aE ws.sum
   ·rw[ng h1]
    dsimp only
    rw[a7,av,cond_not,aN,bL (by rw[aI];omega),ak,ax (x:=(i:Int)+1) ω ω,ag i,aj h1]
    split<;>rfl
   ·rw[ur h1,ah h1]
    rfl
  ·rw[ah h0,ah (λh=>h0 (qX h))]
   have e:F92 N cz=some (Be 0):=Ai N (v:=0) ⟨δ,δ⟩
   dsimp only
   rw[e,ar]
   rfl
theorem TC(N:Nat)(hN:2000000≤N){l E R:au}(hq:Bm E)(hl:E.length≤100000)(hR:R.length≤200000)(hv: ∀r∈R,aE (dZ r)∧dZ r=cg r.1 r.2.1 l):
  cq.ZZ N N (E.map jK) [] R (R.length:Int) 0=uq (dW aE (fS l E) (R.map keyOf)):=by
 have:=nV R bl (λn i out=>cq.ZZ N n (E.map jK) out R (R.length:Int) i) (λt out=>uq ((dW aE (fS l E) (t.map keyOf)).map (λo=>out++o))) (λi (out:au)=>out.length≤i)
  (λn i out hi hI hr=> ?_) (λn out hI=> ?_) R.length N 0 [] ω ω ω (aG _)
 ·rw[show((0:Nat):Int)=0 from rfl,cX]at this
  refine this.trans ?_
  simp
 ·unfold cq.ZZ cq.Z0
  have hm:R.getD i bl∈R:=by
   rw[aU,bm hi];exact dz hi
  have U9:=hv _ hm
  have nF:=U9.1
  have iF:=nF
  unfold aE dZ at iF
  rw[aT ω,ak,aW ω ω,ak,aJ,wv N iF.1 iF.2,ar]
  refine(Wn N hN _ hq hl ω _ nF i ω).trans ?_
  rw[bU,kH]
  have ef:fS l E (keyOf (R.getD i bl)).1 (keyOf (R.getD i bl)).2=dZ (R.getD i bl)+cg (R.getD i bl).1 (R.getD i bl).2.1 E:=by
   show cg _ _ l+cg _ _ E=_
   rw[U9.2];rfl
  rw[ef]
  generalize hS:dZ (R.getD i bl)+cg (R.getD i bl).1 (R.getD i bl).2.1 E=v
  by_cases hF:aE v
  ·rw[aj hF,aj hF,hr _ (by
    split
    ·omega
    ·rw[aS,aI];omega)]
   cases dW aE (fS l E) ((R.drop (i+1)).map keyOf)with
   |none=>rfl
   |some o=>
    show uq (some _)=uq (some _)
    congr 2
    split
    ·rfl
    ·exact br _ _ _
  ·rw[ah hF,ah hF];rfl
 ·unfold cq.ZZ cq.Z0
  rw[aP ω,av,Wm,ar]
  show _=uq (some (out++[]))
  rw[ch];rfl
theorem afJ(N:Nat)(C:cq.mu){l:au}{E S:dh}{K:List cU}(hs:sJ K)(hl:K.length≤100000)(hf: ∀k∈K,Ak k)(x:uw)(k:cU)(hxk:(x.1,x.2.1)=k)(hx:Ak k)(hz:zeroAt l K k)(len:Int)(i:Nat)(hi:i≤1000000):
  ∀(m n p:Nat),K.length-p≤m→m<n→p≤K.length→(∀y∈K.take p,sI y k)→
   cq.TD N C n E (rowsOf l K) x (p:Int) S len (i:Int)=C E (rowsOf l (K.take p++wH k (K.drop p))) S len ((i+1:Nat):Int)
 |m,0,p,_,hn,_,_=>ω
 |m,n+1,p,hm,hn,hp,hb=>by
  unfold cq.TD cq.Qb cq.j21 cq.ahz
  rw[ed,ax (x:=(i:Int)+1) ω ω,ag i]
  have ex:((x.1,(x.2.1,((0:Int),()))):db)=(k.1,(k.2,((0:Int),()))):=by rw[←hxk]
  by_cases h:p<K.length
  ·have hfk:=hf (K.getD p (0,0)) (by rw[aU,bm h];exact dz h)
   have ho:P0 N x.1 x.2.1 ((rowsOf l K).getD p bl)=some (Bf k.1 k.2 (K.getD p (0,0)).1 (K.getD p (0,0)).2):=by
    rw[Im l h]
    rw[←hxk]at hx ⊢
    exact Fg N hx.1 hx.2 hfk.1 hfk.2
   rw[aT ω,ak,aW ω ω,ak,aJ,ho,ar,dT (x:=(p:Int)) ω,av,ak,ar,cO,cond_not,aN,RP h]
   by_cases h1:sI (K.getD p (0,0)) k
   ·rw[aj (Aj.2 h1),aj h1,ax (x:=(p:Int)+1) ω ω,ag p,Al h]
    refine afJ N C hs hl hf x k hxk hx hz len i hi (m-1) n (p+1) ω ω ω λy hy=> ?_
    rw[←rT h]at hy
    rcases bb.1 hy with hy|hy
    ·exact hb y hy
    ·rw[aU,bm h]at h1
     rw[bT.1 hy];exact h1
   ·rw[ah (λh=>h1 (Aj.1 h)),ah h1]
    by_cases h2:K.getD p (0,0)=k
    ·rw[aj (xr.2 h2),aj h2,gb]
    ·rw[ah (λh=>h2 (xr.1 h)),ah h2,DO N (by rw[ed];omega) (by rw[ed];omega),ar]
     have CY:=hz (uv hs hb (RQ hs h h1 h2))
     have e:=uu l K p k
     rw[←xt CY]at e
     refine Eq.trans ?_ (ff (λR=>C E R S len ((i+1:Nat):Int)) e)
     exact ff (λz:db=>C E ((rowsOf l K).take p++z::(rowsOf l K).drop p) S len ((i+1:Nat):Int)) ex
  ·have hd:K.drop p=[]:=vr ω
   rw[aP ω,av,dX ω,ak,DO N (by rw[ed];omega) (by rw[ed];omega),ar]
   have CY:=hz (uv hs hb (by rw[hd];exact λx hx=>nomatch hx))
   have e:=uu l K p k
   rw[←xt CY]at e
   have e2:wH k (K.drop p)=k::K.drop p:=by rw[hd];rfl
   rw[e2]
   refine Eq.trans ?_ (ff (λR=>C E R S len ((i+1:Nat):Int)) e)
   exact ff (λz:db=>C E ((rowsOf l K).take p++z::(rowsOf l K).drop p) S len ((i+1:Nat):Int)) ex
theorem TE(N:Nat)(hN:2000000≤N){l E:au}(hq:Bm E)(hE:E.length≤400)(hp: ∀x∈E,Ak (keyOf x))(hs:sJ (l.map keyOf))(hl:l.length≤90000)(Wj:ec l)(Iq: ∀x∈l,Ak (keyOf x)):
  cq.wE N N (E.map jK) l (E.map jK) ((E.map jK).length:Int) 0=uq (dW aE (fS l E) (nf (l.map keyOf) E)):=by
 have:=nV E bl (λn i K=>cq.wE N n (E.map jK) (rowsOf l K) (E.map jK) ((E.map jK).length:Int) i) (λt K=>uq (dW aE (fS l E) (nf K t)))
  (λi (K:List cU)=>K.length≤l.length+i∧sJ K∧(∀k∈K,Ak k)∧ ∀x∈l,keyOf x∈K)
  (λn i K hi hI hr=> ?_) (λn K hI=> ?_) E.length N 0 (l.map keyOf) ω ω ω ⟨by rw[cv];omega,hs,λk hk=>by
   obtain⟨x,hx,rfl⟩:=cC.1 hk
   exact Iq x hx,λx hx=>eO hx⟩
 ·rw[show((0:Nat):Int)=0 from rfl,cX]at this
  simp only[mq hs]at this
  exact this
 ·unfold cq.wE cq.vk
  obtain⟨h1,h2,h3,h4⟩:=hI
  have hm:E.getD i bl∈E:=by
   rw[aU,bm hi];exact dz hi
  rw[aT (by rw[cv];omega),ak,aW ω (by rw[cv];omega),ak,aJ,Kc]
  refine(afJ N _ h2 ω h3 (jK (E.getD i bl)) (keyOf (E.getD i bl)) rfl (hp _ hm) (λhk=>gn λhx=>hk (by
   obtain⟨x,hx,e⟩:=cC.1 hx
   rw[←e];exact h4 x hx)) ((E.map jK).length:Int) i ω K.length N 0 ω ω ω (λy hy=>nomatch hy)).trans ?_
  rw[oH,cI,cX,so]
  refine hr (wH (keyOf (E.getD i bl)) K) ⟨ck (Fo _ K) ω,Ah h2,λk hk=>(qW.1 hk).elim (λe=>e▸hp _ hm) (h3 k),λx hx=>qW.2 (Or.inr (h4 x hx))⟩
 ·unfold cq.wE cq.vk
  obtain⟨h1,h2,h3,h4⟩:=hI
  rw[aP (by rw[cv];omega),av,ed,cL ω ω ω,ak]
  have:=TC N hN (l:=l) (R:=rowsOf l K) hq ω (by rw[ed];omega) (λr hr=>by
   unfold rowsOf at hr
   obtain⟨k,hk,rfl⟩:=cC.1 hr
   refine⟨?_,rfl⟩
   show aE (cg k.1 k.2 l)
   by_cases hkl:k∈l.map keyOf
   ·have e:rowsOf l (l.map keyOf)=l:=mq hs
    have hm:Di l k∈rowsOf l (l.map keyOf):=eO hkl
    rw[e]at hm
    exact Wj (Di l k) hm
   ·rw[gn hkl];exact⟨δ,δ⟩)
  rw[Ct,ed]at this
  exact this
theorem ob{l:au}(h:ei l=true):sJ (l.map keyOf)∧(∀x∈l,cQ x.1 x.2.1):=by
 unfold ei at h
 rw[gg]at h
 have h':=bz h
 have get: ∀(i:Nat) (hi:i<l.length),l.getD i bl=l[i]:=λi hi=>by rw[aU,bm hi];rfl
 have Wk: ∀i,i+1<l.length→sI (keyOf (l.getD i bl)) (keyOf (l.getD (i+1) bl)):=λi hi=>(h' (i+1) hi).2.2 ω
 have eZ: ∀j,j<l.length→ ∀i,i<j→sI (keyOf (l.getD i bl)) (keyOf (l.getD j bl)):=by
  intro j
  induction j with
  |zero=>intro _ i hi;omega
  |succ j ih=>
   intro hj i hi
   by_cases e:i=j
   ·rw[e];exact Wk j hj
   ·exact xq (ih ω i ω) (Wk j hj)
 refine⟨?_,λx hx=> ?_⟩
 ·refine zj.2 (tL.2 λi j hi hj pH=> ?_)
  have:=eZ j hj i pH
  rw[get i hi,get j hj]at this
  exact this
 ·obtain⟨i,hi,e⟩:=gd hx
  have:=h' i hi
  unfold ld lS at this
  rw[get i hi,e]at this
  exact this.1
structure Wo(E:au):Prop where
 key: ∀x∈E,cQ x.1 x.2.1
 q:Bm E
 len:E.length≤400
 zero:(E.map dZ).sum=0
theorem RT{x:db}(h:cQ x.1 x.2.1):Ak (keyOf x):=by
 have h':cQ (keyOf x).1 (keyOf x).2:=h
 unfold cQ at h'
 unfold Ak Hk
 omega
theorem Wp(N:Nat)(hN:2000000≤N){l E:au}(hk:ei l=true)(hl:l.length≤90000)(Wj:ec l)(g:Wo E):cq N l (E.map jK)=uq (dW aE (fS l E) (nf (l.map keyOf) E)):=by
 obtain⟨hs,Iq⟩:=ob hk
 have hE:=g.len
 unfold cq cq.b
 rw[DL N ω ω,hk,ar,a7,av,aP (by rw[cv];omega),av,cL ω ω (by rw[cv];omega),ak]
 have:=nV E bl (λn i (ws:List Int)=>cq.l5 N n l (E.map jK) (ws.map dN) (E.map jK) ((E.map jK).length:Int) i)
  (λt ws=>if(ws++t.map dZ).sum=0 then uq (dW aE (fS l E) (nf (l.map keyOf) E))else none)
  (λj (ws:List Int)=>ws.length≤j∧(ws++(E.drop j).map dZ).sum=0∧ ∀x∈ws,dm x)
  (λn i ws hi hI hr=> ?_) (λn ws hI=> ?_) E.length N 0 [] ω ω ω ⟨aG _,g.zero,λx hx=>nomatch hx⟩
 ·rw[show((0:Nat):Int)=0 from rfl,cX]at this
  refine Eq.trans this ?_
  rw[cI,aj g.zero]
 ·unfold cq.l5 cq.dV
  have hm:E.getD i bl∈E:=by
   rw[aU,bm hi];exact dz hi
  have S3:PY N (jK (E.getD i bl)).1 (jK (E.getD i bl)).2.1=some true:=by
   rw[PX]
   exact ff some (bs (g.key _ hm))
  rw[aT (by rw[cv];omega),ak,aW ω (by rw[cv];omega),ak,aJ,Kc,S3,ar,a7,av,bL (by rw[cv,aI];omega),ak,ax (x:=(i:Int)+1) ω ω,ag i]
  have h0:=hI.2.1
  rw[drop_cons hi bl,bU]at h0
  have:=hr (ws++[dZ (E.getD i bl)]) ⟨by rw[aS,aI];omega,by rw[br];exact h0,qY hI.2.2 (Kd g.q i)⟩
  rw[cW]at this
  refine this.trans ?_
  rw[br];rfl
 ·unfold cq.l5 cq.dV
  have h0:=hI.2.1
  rw[mM,iT,ch]at h0
  rw[aP (by rw[cv];omega),av,DK N hI.2.2 ω ω,ar,h0]
  have e0:Fe 0=(dN 0,true):=by unfold Fe;exact aj ⟨δ,δ⟩
  rw[e0]
  dsimp only
  rw[a7,av,Ad,ar,show vj 0=0 from rfl,dX rfl,a7,av,wI N ω,ar]
  rw[iT,ch,aj h0]
  exact TE N hN g.q hE (λx hx=>RT (g.key x hx)) hs hl Wj (λx hx=>RT (Iq x hx))
end VM
end
section
namespace VM
open Go VM.F
def gR(r:db):ahA:=(r.1,(r.2.1,(cT (dZ r),())))
theorem Wq{E:au}{i:Nat}(h:i<E.length):(E.map gR).getD i ((0:Int),((0:Int),((false,pb),())))=gR (E.getD i bl):=by
 rw[aU,pO,bm h,aU,bm h];rfl
theorem Kf{v:Int}{n:Nat}(hn:n≤1000000)(h0: -(170141183460469231731687303715884105728*(n:Int))≤v)(h1:v≤170141183460469231731687303715884105728*(n:Int)):Fit v 900000:=by
 have h5:Fit v 5:=by
  unfold Fit
  rw[show(4294967296:Nat)^5=1461501637330902918203684832716283019655932542976 from rfl]
  omega
 exact h5.mono ω
theorem Ao{v:Int}(h:dm v):Fit v 900000:=Kf (n:=1) ω (by have:=h.1;omega) (by have:=h.2;omega)
theorem TF(N:Nat)(hN:4000000≤N){E:au}(hq:Bm E)(hl:E.length≤100000)(q a b:Int)(hF:aE q):nh N q a b (E.map gR)=some (Be (q+cg a b E)):=by
 unfold nh nh.b
 have:=nV E bl (λn j ws=>nh.l3 N n q a b (E.map gR) (cT ws.sum) (!ws.isEmpty) j)
  (λt ws=>some (Be (q+(ws++dd a b t).sum)))
  (λj (ws:List Int)=>ws.length≤j∧ ∀x∈ws,dm x)
  (λn j ws hj hI eJ=> ?_) (λn ws hI=> ?_) E.length N 0 [] ω ω ω ⟨aG _,λx hx=>nomatch hx⟩
 ·rw[show((0:Nat):Int)=0 from rfl,cX,ky,iC]at this
  exact this
 ·unfold nh.l3 nh.nC
  have Qc:=Kd hq j
  have hb:=J3 hI.2
  have G4:yX N (cT ws.sum) (gR (E.getD j bl)).2.2.1=some (cT (ws.sum+dZ (E.getD j bl))):=iW N ω (Kf (n:=ws.length) ω hb.1 hb.2) (Ao Qc)
  rw[aT (by rw[cv];omega),ak,aW ω (by rw[cv];omega),ak,ak,ak,aJ,Wq hj,G4,ar,ax (x:=(j:Int)+1) ω ω,ag j,aN,aN]
  by_cases h1:(E.getD j bl).1=a
  ·by_cases h2:(E.getD j bl).2.1=b
   ·have hc:dd a b (E.getD j bl::E.drop (j+1))=dZ (E.getD j bl)::dd a b (E.drop (j+1)):=by rw[eF,aj ⟨h1,h2⟩]
    rw[aj (show(gR (E.getD j bl)).1=a from h1),aj (show(gR (E.getD j bl)).2.1=b from h2),hc]
    have:=eJ (ws++[dZ (E.getD j bl)]) ⟨by rw[aS,aI];omega,qY hI.2 Qc⟩
    rw[lH,cy,ky,kz,br]at this
    refine Eq.trans ?_ this
    rw[show(!(ws++[dZ (E.getD j bl)]).isEmpty)=true by cases ws<;>rfl]
   ·have hc:dd a b (E.getD j bl::E.drop (j+1))=dd a b (E.drop (j+1)):=by rw[eF,ah (λh=>h2 h.2)]
    rw[aj (show(gR (E.getD j bl)).1=a from h1),ah (show ¬(gR (E.getD j bl)).2.1=b from h2),hc]
    exact eJ ws ⟨ω,hI.2⟩
  ·have hc:dd a b (E.getD j bl::E.drop (j+1))=dd a b (E.drop (j+1)):=by rw[eF,ah (λh=>h1 h.1)]
   rw[ah (show ¬(gR (E.getD j bl)).1=a from h1),hc]
   exact eJ ws ⟨ω,hI.2⟩
 ·unfold nh.l3 nh.nC
  have hs:=J3 hI.2
  have RJ:=hF
  unfold aE at RJ
  rw[aP (by rw[cv];omega),av,c4 N ω RJ.1 RJ.2,ar,iW N ω (Kf (n:=ws.length) ω hs.1 hs.2) ((Fit.i64 RJ.1 RJ.2).mono ω),ar,qR,ar,cond_not]
  show _=some (Be (q+(ws++[]).sum))
  rw[ch,Ep ws.sum q]
  cases ws with
  |nil=>
   show some (q,true)=some (Be (q+0))
   rw[kz,ng hF]
  |cons w ws=>rfl
theorem Z1{l:au}(hs:sJ (l.map keyOf))(hl:ec l)(k:cU):aE (cg k.1 k.2 l):=by
 by_cases hk:k∈l.map keyOf
 ·have hm:Di l k∈rowsOf l (l.map keyOf):=eO hk
  rw[mq hs]at hm
  exact hl (Di l k) hm
 ·rw[gn hk];exact⟨δ,δ⟩
theorem M4(N:Nat)(hN:4000000≤N)(C:dt.bD){l E:au}(hq:Bm E)(hl:E.length≤100000)(hs:sJ (l.map keyOf))(GJ:l.length≤100000)(hf:ec l)(hw: ∀x∈l,0≤(keyOf x).2∧(keyOf x).2<(25:Nat))(a:Nat)(ha:a≤24)(G:List cU)
  (hc: ∀(p:Nat) (out:au),Mark l (a+1) 0 p→out.length≤25*(a+1)→C l (E.map gR) out (p:Int) ((a+1:Nat):Int)=vm out (dW aE (fS l E) G)):
  ∀(m n b p:Nat) (out:au),b+m=25→m<n→Mark l a b p→out.length≤25*a+b→dt.l7 N C n l (E.map gR) out (p:Int) (a:Int) (b:Int)=vm out (dW aE (fS l E) (Am a b m++G))
 |m,0,b,p,out,_,hn,_,_=>ω
 |0,n+1,b,p,out,hb,_,hM,ho=>by
  have e:b=25:=ω
  subst e
  unfold dt.l7 dt.pj
  rw[fh ω,av,ax (x:=(a:Int)+1) ω ω,ag a]
  exact hc p out (hM.row hw) ω
 |m+1,n+1,b,p,out,hb,hn,hM,ho=>by
  have hp:=hM.le
  have ahx: ∀(p:Nat) (v:Int),Mark l a (b+1) p→dt.l7 N C n l (E.map gR) (if v=0 then out else out++[((a:Int),((b:Int),(v,())))]) (p:Int) (a:Int) ((b+1:Nat):Int)=vm (if v=0 then out else out++[((a:Int),((b:Int),(v,())))]) (dW aE (fS l E) (Am a (b+1) m++G)):=λp v h=>
   M4 N hN C hq hl hs GJ hf hw a ha G hc m n (b+1) p _ ω ω h (by
    split
    ·omega
    ·rw[aS,aI];omega)
  have xi:=Z1 hs hf ((a:Int),(b:Int))
  unfold dt.l7 dt.pj
  show _=vm out (dW aE (fS l E) (((a:Int),(b:Int))::(Am a (b+1) m++G)))
  rw[fC (x:=(b:Int)) ω,ak,cO,aN,aN,aJ]
  have fin: ∀(p:Nat) (q:Int),q=cg (a:Int) (b:Int) l→Mark l a (b+1) p→dt.RS N C (dt.l7 N C n) l (E.map gR) out (p:Int) (a:Int) (b:Int) q=vm out (dW aE (fS l E) (((a:Int),(b:Int))::(Am a (b+1) m++G))):=λp q e h=>by
   subst e
   unfold dt.RS dt.Kb
   rw[TF N hN hq hl _ _ _ xi,ar]
   refine Eq.trans ?_ (Is (k:=((a:Int),(b:Int))) (v:=cg (a:Int) (b:Int) l+cg (a:Int) (b:Int) E) rfl)
   generalize cg (a:Int) (b:Int) l+cg (a:Int) (b:Int) E=v
   have hr:=ahx p v h
   by_cases hv:aE v
   ·rw[ng hv,aj hv]
    dsimp only
    rw[a7,av,cond_not,aN,bL (by rw[aI];omega),ak,ax (x:=(b:Int)+1) ω ω,ag b,←hr]
    split<;>rfl
   ·rw[ur hv,ah hv];rfl
  rcases hM.step hs with⟨h1,h2,h3,h4,h5⟩|⟨h1,h2,h3⟩
  ·rw[aj (show(p:Int)<(l.length:Int)by omega),aW ω ω,ak,ak,aj h2,aj h3,ax (x:=(p:Int)+1) ω ω,ag p,ak]
   exact fin (p+1) _ h4.symm h5
  ·by_cases g1:p<l.length
   ·rw[aj (show(p:Int)<(l.length:Int)by omega),aW ω ω,ak,ak]
    by_cases g2:(l.getD p bl).1=(a:Int)
    ·rw[aj g2,ah (λg3=>h1 g1 g2 g3)]
     exact fin p _ h2.symm h3
    ·rw[ah g2]
     exact fin p _ h2.symm h3
   ·rw[ah (show ¬(p:Int)<(l.length:Int)by omega)]
    exact fin p _ h2.symm h3
theorem M5(N:Nat)(hN:4000000≤N){l E:au}(hq:Bm E)(hl:E.length≤100000)(hs:sJ (l.map keyOf))(GJ:l.length≤100000)(hf:ec l)(hw: ∀x∈l,0≤(keyOf x).2∧(keyOf x).2<(25:Nat)):
  ∀(m n a p:Nat) (out:au),a+m=8→m<n→Mark l a 0 p→out.length≤25*a→dt.l4 N n l (E.map gR) out (p:Int) (a:Int)=vm out (dW aE (fS l E) (yi 25 a m))
 |m,0,a,p,out,_,hn,_,_=>ω
 |0,n+1,a,p,out,ha,_,hM,ho=>by
  unfold dt.l4 dt.dv
  rw[fh ω,av]
  show some (out,true)=some (out++[],true)
  rw[ch]
 |m+1,n+1,a,p,out,ha,hn,hM,ho=>by
  unfold dt.l4 dt.dv
  rw[fC ω,ak]
  exact M4 N hN _ hq hl hs GJ hf hw a ω (yi 25 (a+1) m) (λp out h ho=>M5 N hN hq hl hs GJ hf hw m n (a+1) p out ω ω h ho) 25 N 0 p out ω ω hM ω
def ni:List cU:=yi 25 1 7
theorem RU(N:Nat)(hN:4000000≤N){l E:au}(hk:ei l=true)(hl:l.length≤90000)(Wj:ec l)(hq:Bm E)(hE:E.length≤100000):dt N l (E.map gR)=vm [] (dW aE (fS l E) ni):=by
 obtain⟨hs,Iq⟩:=ob hk
 unfold dt dt.b
 refine M5 N hN hq hE hs ω Wj (λx hx=> ?_) 7 N 1 0 [] ω ω ⟨ω,λx hx=>(nomatch hx),λx hx eZ=> ?_⟩ (by simp)
 ·have h:cQ (keyOf x).1 (keyOf x).2:=Iq x hx
  unfold cQ at h;omega
 ·have h:cQ (keyOf x).1 (keyOf x).2:=Iq x (mK hx)
  unfold cQ at h
  have vX:(keyOf x).1<((1:Nat):Int)∨((keyOf x).1=((1:Nat):Int)∧(keyOf x).2<((0:Nat):Int)):=eZ
  omega
theorem Wr{l E:au}(hk:ei l=true)(hp: ∀x∈E,cQ x.1 x.2.1):dW aE (fS l E) (nf (l.map keyOf) E)=dW aE (fS l E) ni:=by
 obtain⟨hs,Iq⟩:=ob hk
 refine MW ⟨δ,δ⟩ (yK hs) (oa 25 7 1) (λk hk=> ?_) (λk hk hn=> ?_)
 ·have:cQ k.1 k.2:=by
   rcases lX.1 hk with h|⟨x,hx,rfl⟩
   ·obtain⟨x,hx,rfl⟩:=cC.1 h
    exact Iq x hx
   ·exact hp x hx
  unfold cQ at this
  exact n7.2 ω
 ·have h1:k∉l.map keyOf:=λh=>hn (lX.2 (Or.inl h))
  have h2:k∉E.map keyOf:=λh=>by
   obtain⟨x,hx,e⟩:=cC.1 h
   exact hn (lX.2 (Or.inr ⟨x,hx,e⟩))
  unfold fS
  rw[gn h1,gn h2];rfl
def eI(b:aq)(s e:au):aq×Int:=
 match dW Fq (fS b.2.2.2.1 s) jr with
 |none=>((cm,(c8,(bH,(bH,(dC,(dP,())))))),2)
 |some s'=>match dW aE (fS b.2.2.1 e) ni with
  |none=>((cm,(c8,(bH,(bH,(dC,(dP,())))))),2)
  |some r'=>((b.1,(b.2.1,(r',(s',b.2.2.2.2)))),0)
theorem Ws(N:Nat){b:aq}(w:g8 b):Z2 N b=some b:=by
 unfold Z2
 have h1:=w.m;have h2:=w.a;have h3:=w.r;have h4:=w.s;have h5:=w.p;have h6:=w.o
 rw[wI N ω,ar,wI N ω,ar,wI N ω,ar,wI N ω,ar,wI N ω,ar,wI N ω,ar]
end VM
end
