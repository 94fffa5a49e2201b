/- A part of the proof of WindEmpty of layer 21: what the functions compute, in plain words. -/
import Derived.Test.YtecmobijochjkaaGreatPlain1
set_option linter.all false
section
namespace VM
open Go VM.F
theorem wU(N:Nat)(hN:200000≤N)(c:ae){l:aE}(hl:l.length≤100000):nn N c l=some (mi c l):=by
 unfold nn nn.b
 rw[nf N ω,ar]
 have hsc:=iq (F:=λn i=>nn.l4 N n l c i) (e:=true) (nk c l) (λn i r hi hp hr=> ?_) (λn=> ?_) N (show l.length<N by omega)
 ·rw[o8 hsc];unfold mi
  rw[fX,Bool.and_comm]
 ·unfold nn.l4 nn.ei
  rw[aT ω,aq,a6 ω ω,aq,aJ,ay (x:=(i:Int)+1) ω ω,ag,hr]
  by_cases h0:0<i
  ·have e:W .i64 ((i:Int)-1)=((i-1:Nat):Int):=by rw[ay ω ω];omega
   dsimp only
   rw[aT (x:=0) (y:=(i:Int)) ω,e,aJ,a6 (i:=((i-1:Nat):Int)) ω ω]
   simp only[cQ,cG,aN,aq]
   by_cases hP:nk c l i
   ·rw[aj hP];unfold nk nj at hP
    rw[ah ω,ah ω,ah hP.2.2.1,ah (show ¬((l.getD i cD).2.1:Int)= -9223372036854775808 from hP.2.2.2.1),ah ω]
   ·rw[ah hP];unfold nk nj at hP
    have h2:=λh1 h2 h3 h4 h5=>hP ⟨h1,h2,h3,h4,h5⟩
    repeat' split
    all_goals first|rfl|(exfalso;exact h2 ω ω (by assumption) (by assumption) ω)
  ·rw[aP (x:=0) (y:=(i:Int)) ω]
   simp only[cQ,cG,aN,aq,av]
   by_cases hP:nk c l i
   ·rw[aj hP];unfold nk nj at hP
    rw[ah ω,ah ω,ah hP.2.2.1,ah (show ¬((l.getD i cD).2.1:Int)= -9223372036854775808 from hP.2.2.2.1)]
   ·rw[ah hP];unfold nk nj at hP
    have h2:=λh1 h2 h3 h4 h5=>hP ⟨h1,h2,h3,h4,h5⟩
    repeat' split
    all_goals first|rfl|(exfalso;exact h2 ω ω (by assumption) (by assumption) ω)
 ·unfold nn.l4 nn.ei
  rw[aP ω,av]
end VM
end
section
namespace VM
open Go VM.F
def Ky(a b c d:Int):Prop:=(1≤a∧a≤1099511627776)∧(1≤b∧b≤1099511627776)∧(1≤c∧c≤12)∧(-1152921504606846976≤d∧d≤1152921504606846976)
instance(a b c d:Int):Decidable (Ky a b c d):=by unfold Ky;infer_instance
def IC(x:bI):Prop:=Ky x.1 x.2.1 x.2.2.1 x.2.2.2.1
instance(x:bI):Decidable (IC x):=by unfold IC;infer_instance
theorem R6(N:Nat)(x:bI):WG N x=some (decide (IC x)):=by
 unfold WG
 rw[nY x.2.2.2.1]
 repeat rw[gE]
 congr 1
 rw[oR,ff]
 unfold IC Ky
 simp only[bQ,vK]
 omega
end VM
end
section
namespace VM
open Go VM.F
def ra(m lot:Int)(x:bI):Bool:=decide (dx x.2.2.1 m)&&decide (dx x.2.1 lot)
end VM
end
section
namespace VM
open Go VM.F
def Av(l:aK)(i:Nat):Prop:=IC (l.getD i aV)∧tD i (l.getD (i-1) aV).1 (l.getD i aV).1∧(l.take i).any (ra (l.getD i aV).2.2.1 (l.getD i aV).2.1)=false
instance(l:aK):DecidablePred (Av l):=λi=>by unfold Av;infer_instance
def WH(l:aK):Bool:=decide (∀j,j<l.length→Av l j)&&decide (l.length≤40)
end VM
end
section
namespace VM
open Go VM.F
def dd(a b:Int):au→List Int
 |[]=>[]
 |x::t=>if x.1=a∧x.2.1=b then dY x::dd a b t else dd a b t
theorem eJ(a b:Int)(x:da)(t:au):dd a b (x::t)=if x.1=a∧x.2.1=b then dY x::dd a b t else dd a b t:=rfl
def bP(a b:Int)(l:au):Int:=(dd a b l).sum
theorem tH(a b:Int):bP a b []=0:=rfl
theorem ej(a b:Int)(x:da)(t:au):bP a b (x::t)=(if x.1=a∧x.2.1=b then dY x else 0)+bP a b t:=by
 unfold bP
 rw[eJ]
 split
 ·rw[cw]
 ·omega
theorem ko{a b:Int}: ∀{l:au},(∀x∈l,¬(x.1=a∧x.2.1=b))→bP a b l=0
 |[],_=>rfl
 |x::t,h=>by
  rw[ej,ah (h x (bm ..)),ko (λy hy=>h y (aZ _ hy))];rfl
abbrev cW:=Int×Int
def sV(x y:cW):Prop:=kW x.1 x.2 y.1 y.2
instance(x y:cW):Decidable (sV x y):=by unfold sV;infer_instance
def keyOf(x:da):cW:=(x.1,x.2.1)
def sC(K:List cW):Prop:=K.Pairwise sV
theorem np{x:cW}(h:sV x x):False:=by unfold sV kW at h;omega
theorem ID{x y:cW}(h:sV x y)(k:sV y x):False:=by unfold sV kW at*;omega
theorem xB{x y z:cW}(h:sV x y)(k:sV y z):sV x z:=by unfold sV kW at*;omega
theorem R7(x y:cW):sV x y∨x=y∨sV y x:=by
 have:(x.1=y.1∧x.2=y.2)→x=y:=λh=>gS h.1 h.2
 unfold sV kW
 by_cases h1:x.1=y.1
 ·by_cases h2:x.2=y.2
  ·exact Or.inr (Or.inl (this ⟨h1,h2⟩))
  ·omega
 ·omega
theorem R8: ∀{a b:List cW},sC a→sC b→(∀x,x∈a↔x∈b)→a=b
 |[],[],_,_,_=>rfl
 |[],y::t,_,_,h=>nomatch (h y).2 (bm ..)
 |x::s,[],_,_,h=>nomatch (h x).1 (bm ..)
 |x::s,y::t,ha,hb,h=>by
  obtain⟨Y5,ha2⟩:=ec.1 ha
  obtain⟨mw,tU⟩:=ec.1 hb
  have YZ:x=y:=by
   rcases aW.1 ((h x).1 (bm ..))with e|e
   ·exact e
   ·rcases aW.1 ((h y).2 (bm ..))with f|f
    ·exact f.symm
    ·exact(ID (Y5 y f) (mw x e)).elim
  subst YZ
  rw[R8 ha2 tU λz=>⟨λhz=> ?_,λhz=> ?_⟩]
  ·rcases aW.1 ((h z).1 (aZ _ hz))with e|e
   ·subst e;exact(np (Y5 z hz)).elim
   ·exact e
  ·rcases aW.1 ((h z).2 (aZ _ hz))with e|e
   ·subst e;exact(np (mw z hz)).elim
   ·exact e
def eg(P:Int→Prop) [DecidablePred P](f:Int→Int→Int):List cW→Option au
 |[]=>some []
 |k::t=>if P (f k.1 k.2)then(eg P f t).map (λo=>if f k.1 k.2=0 then o else(k.1,(k.2,(f k.1 k.2,())))::o)else none
theorem kO(P:Int→Prop) [DecidablePred P](f:Int→Int→Int)(k:cW)(t:List cW):eg P f (k::t)=if P (f k.1 k.2)then(eg P f t).map (λo=>if f k.1 k.2=0 then o else(k.1,(k.2,(f k.1 k.2,())))::o)else none:=rfl
theorem CN{P:Int→Prop} [DecidablePred P](h0:P 0){f:Int→Int→Int}(p:cW→Bool): ∀{K:List cW},(∀k∈K,p k=false→f k.1 k.2=0)→eg P f (K.filter p)=eg P f K
 |[],_=>rfl
 |k::t,h=>by
  have ih:=CN h0 p (K:=t) (λx hx=>h x (aZ _ hx))
  cases hp:p k
  ·rw[List.filter_cons_of_neg (by rw[hp];decide),ih,kO,h k (bm ..) hp,aj h0]
   simp
  ·rw[List.filter_cons_of_pos hp,kO,kO,ih]
theorem Ns{P:Int→Prop} [DecidablePred P](h0:P 0){f:Int→Int→Int}{K G:List cW}(hK:sC K)(hG:sC G)(hs: ∀k∈K,k∈G)(hz: ∀k∈G,k∉K→f k.1 k.2=0):eg P f K=eg P f G:=by
 have e:K=G.filter (λk=>decide (k∈K)):=by
  refine R8 hK (vG List.filter_sublist hG) λx=> ?_
  rw[vO]
  exact⟨λh=>⟨hs x h,bu h⟩,λh=>bz h.2⟩
 rw[e]
 exact CN h0 _ λk hk hp=>hz k hk (of_decide_eq_false hp)
def wV(k:cW):List cW→List cW
 |[]=>[k]
 |x::t=>if sV x k then x::wV k t else if x=k then x::t else k::x::t
theorem rf{k x:cW}: ∀{K:List cW},x∈wV k K↔x=k∨x∈K
 |[]=>by show x∈[k]↔_;simp
 |y::t=>by
  show x∈(if sV y k then y::wV k t else if y=k then y::t else k::y::t)↔_
  split
  ·rw[aW,rf,aW]
   exact⟨λh=>h.elim (λe=>Or.inr (Or.inl e)) (λh=>h.elim Or.inl (λh=>Or.inr (Or.inr h))),λh=>h.elim (λe=>Or.inr (Or.inl e)) (λh=>h.elim Or.inl (λh=>Or.inr (Or.inr h)))⟩
  ·split
   ·rename_i e
    rw[←e]
    exact⟨Or.inr,λh=>h.elim (λe=>e▸bm ..) id⟩
   ·rw[aW]
theorem Aw{k:cW}: ∀{K:List cW},sC K→sC (wV k K)
 |[],_=>ec.2 ⟨λ_ h=>(nomatch h),List.Pairwise.nil⟩
 |y::t,h=>by
  obtain⟨h1,h2⟩:=ec.1 h
  show sC (if sV y k then y::wV k t else if y=k then y::t else k::y::t)
  split
  ·rename_i hy
   exact ec.2 ⟨λz hz=>(rf.1 hz).elim (λe=>e▸hy) (h1 z),Aw h2⟩
  ·rename_i hy
   split
   ·exact h
   ·rename_i he
    have hk:sV k y:=(R7 y k).elim (λh=>absurd h hy) (λh=>h.elim (λh=>absurd h he) id)
    exact ec.2 ⟨λz hz=>(aW.1 hz).elim (λe=>e▸hk) (λhz=>xB hk (h1 z hz)),h⟩
def nq(K:List cW)(E:au):List cW:=E.foldl (λK x=>wV (keyOf x) K) K
theorem sD(K:List cW)(x:da)(E:au):nq K (x::E)=nq (wV (keyOf x) K) E:=rfl
theorem yY: ∀{E:au} {K:List cW},sC K→sC (nq K E)
 |[],_,h=>h
 |x::E,K,h=>by rw[sD];exact yY (Aw h)
theorem mj{k:cW}: ∀{E:au} {K:List cW},k∈nq K E↔(k∈K∨ ∃x∈E,keyOf x=k)
 |[],K=>by
  show k∈K↔_
  simp
 |x::E,K=>by
  rw[sD,mj,rf]
  constructor
  ·rintro((rfl|h)|⟨y,hy,e⟩)
   ·exact Or.inr ⟨x,bm ..,rfl⟩
   ·exact Or.inl h
   ·exact Or.inr ⟨y,aZ _ hy,e⟩
  ·rintro(h|⟨y,hy,e⟩)
   ·exact Or.inl (Or.inr h)
   ·rcases aW.1 hy with rfl|hy
    ·exact Or.inl (Or.inl e.symm)
    ·exact Or.inr ⟨y,hy,e⟩
theorem FF(k:cW): ∀K:List cW,(wV k K).length≤K.length+1
 |[]=>aG _
 |y::t=>by
  show(if sV y k then y::wV k t else if y=k then y::t else k::y::t).length≤_
  have:=FF k t
  split
  ·rw[aR,aR];omega
  ·split<;>rw[aR]<;>(try rw[aR])<;>omega
def rowsOf(l:au)(K:List cW):au:=K.map λk=>(k.1,(k.2,(bP k.1 k.2 l,())))
theorem mD{l:au}(h:sC (l.map keyOf)):rowsOf l (l.map keyOf)=l:=by
 have key: ∀(m:au),sC (m.map keyOf)→(∀x∈m,bP x.1 x.2.1 l=dY x)→rowsOf l (m.map keyOf)=m:=by
  intro m
  induction m with
  |nil=>intro _ _;rfl
  |cons x t ih=>
   intro hm hx
   have:=ih (ec.1 hm).2 (λy hy=>hx y (aZ _ hy))
   unfold rowsOf at*
   rw[bX,bX,this]
   congr 1
   show(x.1,(x.2.1,(bP x.1 x.2.1 l,())))=x
   rw[hx x (bm ..)];rfl
 refine key l h ?_
 clear key
 induction l with
 |nil=>intro x hx;nomatch hx
 |cons y t ih=>
  intro x hx
  obtain⟨h1,h2⟩:=ec.1 h
  have jy: ∀z∈t,¬(z.1=y.1∧z.2.1=y.2.1):=λz hz e=>by
   have hk:=h1 (keyOf z) (eL hz)
   have he:keyOf z=keyOf y:=gS e.1 e.2
   rw[he]at hk
   exact np hk
  rw[ej]
  rcases aW.1 hx with rfl|hx
  ·rw[aj ⟨rfl,rfl⟩,ko jy];omega
  ·rw[ah (λe=>jy x hx ⟨e.1.symm,e.2.symm⟩),ih h2 x hx];omega
end VM
end
section
namespace VM
open Go VM.F
instance(x:Int):Decidable (aD x):=by unfold aD;infer_instance
def Fq(x:Int):Prop:=aD x∧p4 x
instance:DecidablePred Fq:=λx=>by unfold Fq;infer_instance
def uE(r:Option au):Option (au×Int):=some (match r with|some o=>(o,0)|none=>([],2))
def fS(l E:au)(a b:Int):Int:=bP a b l+bP a b E
theorem D1{α:Type}(N:Nat){l:List α}{i:Nat}{x:α}(hi:i≤l.length)(hl:l.length<1000000):pX N l (i:Int) [x]=some (l.take i++x::l.drop i):=by
 unfold pX
 rw[aj ⟨ω,ω,rfl,by unfold zK;omega⟩]
 rfl
theorem wX{α:Type}(N:Nat){l:List α}(hl:l.length≤1000000):n0 N l=some l:=by
 unfold n0
 rw[aj (by unfold zK;omega)]
theorem Ax(N:Nat){v:Int}(h:dm v):F92 N (dP v)=some (BA v):=Z6 N h.1 h.2
theorem nr{v:Int}(h:aD v):BA v=(v,true):=by unfold BA;exact aj h
theorem uF{v:Int}(h: ¬aD v):BA v=(0,false):=by unfold BA;exact ah h
theorem BG{ws:List Int}{x:Int}(h: ∀y∈ws,aD y)(hx:aD x): ∀y∈ws++[x],aD y:=λy hy=>by
 rcases a8.1 hy with hy|hy
 ·exact h y hy
 ·rw[bW.1 hy];exact hx
theorem Nt(N:Nat){l:au}:aaf N l=some l:=by
 unfold aaf
 rw[dG ω ω ω ω,aq]
 simp
theorem WI(N:Nat)(hN:2000000≤N)(K:cn.IE){E out R:au}(hq:dS E)(hl:E.length≤100000)(ho:out.length≤1000000)(r:da)(hr:aD (dY r))(i:Nat)(hi:i≤1000000):
  cn.l27 N K N E out r [dP (dY r)] R (R.length:Int) (i:Int) E (E.length:Int) 0=
   if Fq (dY r+bP r.1 r.2.1 E)then K E (if dY r+bP r.1 r.2.1 E=0 then out else out++[(r.1,(r.2.1,(dY r+bP r.1 r.2.1 E,())))]) R (R.length:Int) ((i+1:Nat):Int)else some (bG,(2:Int)):=by
 have:=oe E bl (λn j ws=>cn.l27 N K n E out r (ws.map dP) R (R.length:Int) (i:Int) E (E.length:Int) j)
  (λt ws=>if Fq (ws++dd r.1 r.2.1 t).sum then K E (if(ws++dd r.1 r.2.1 t).sum=0 then out else out++[(r.1,(r.2.1,((ws++dd r.1 r.2.1 t).sum,())))]) R (R.length:Int) ((i+1:Nat):Int)else some (bG,(2:Int)))
  (λj (ws:List Int)=>ws.length≤j+1∧ ∀x∈ws,aD x)
  (λn j ws hj hI eM=> ?_) (λn ws hI=> ?_) E.length N 0 [dY r] ω ω ω ⟨aG _,λx hx=>by rw[bW.1 hx];exact hr⟩
 ·rw[show((0:Nat):Int)=0 from rfl,cZ]at this
  refine this.trans ?_
  have e:([dY r]++dd r.1 r.2.1 E).sum=dY r+bP r.1 r.2.1 E:=by rw[Ek,cw];rfl
  rw[e]
 ·unfold cn.l27 cn.aag
  have nR:=yW hq j
  have iK:=nR
  unfold aD dY at iK
  rw[aT ω,aq,a6 ω ω,aq,aJ,wK N iK.1 iK.2,ar,bL (by rw[ct,aI];omega),aq,ay (x:=(j:Int)+1) ω ω,ag,aN,aN]
  by_cases h1:(E.getD j bl).1=r.1
  ·by_cases h2:(E.getD j bl).2.1=r.2.1
   ·have hc:dd r.1 r.2.1 (E.getD j bl::E.drop (j+1))=dY (E.getD j bl)::dd r.1 r.2.1 (E.drop (j+1)):=by rw[eJ,aj ⟨h1,h2⟩]
    rw[aj h1,aj h2,hc]
    have:=eM (ws++[dY (E.getD j bl)]) ⟨by rw[aS,aI];omega,BG hI.2 nR⟩
    rw[cY]at this
    refine this.trans ?_
    rw[bt];rfl
   ·have hc:dd r.1 r.2.1 (E.getD j bl::E.drop (j+1))=dd r.1 r.2.1 (E.drop (j+1)):=by rw[eJ,ah (λh=>h2 h.2)]
    rw[aj h1,ah h2,hc]
    exact eM ws ⟨ω,hI.2⟩
  ·have hc:dd r.1 r.2.1 (E.getD j bl::E.drop (j+1))=dd r.1 r.2.1 (E.drop (j+1)):=by rw[eJ,ah (λh=>h1 h.1)]
   rw[ah h1,hc]
   exact eM ws ⟨ω,hI.2⟩
 ·unfold cn.l27 cn.aag
  have hs:=IB hI.2 ω
  rw[aP ω,av,Ks N hI.2 ω ω,ar]
  show _=if Fq (ws++[]).sum then K E (if(ws++[]).sum=0 then out else out++[(r.1,(r.2.1,((ws++[]).sum,())))]) R (R.length:Int) ((i+1:Nat):Int)else some (bG,(2:Int))
  rw[ch,Ax N hs,ar]
  by_cases h1:aD ws.sum
  ·rw[nr h1]
   dsimp only
   rw[bn,av,sy,ar,cond_not,gg,cond_not,aN,bL (by rw[aI];omega),aq,ay (x:=(i:Int)+1) ω ω,ag]
   by_cases h2:p4 ws.sum
   ·rw[aj h2,aj (show Fq ws.sum from⟨h1,h2⟩)]
    split<;>rfl
   ·rw[ah h2,ah (λh=>h2 h.2)]
  ·rw[uF h1,ah (λh=>h1 h.1)]
   rfl
theorem TX(N:Nat)(hN:2000000≤N){l E R:au}(hq:dS E)(hl:E.length≤100000)(hR:R.length≤200000)(hv: ∀r∈R,aD (dY r)∧dY r=bP r.1 r.2.1 l):
  cn.l23 N N E [] R (R.length:Int) 0=uE (eg Fq (fS l E) (R.map keyOf)):=by
 have:=oe R bl (λn i out=>cn.l23 N n E out R (R.length:Int) i) (λt out=>uE ((eg Fq (fS l E) (t.map keyOf)).map (λo=>out++o))) (λi (out:au)=>out.length≤i)
  (λn i out hi hI hr=> ?_) (λn out hI=> ?_) R.length N 0 [] ω ω ω (aG _)
 ·rw[show((0:Nat):Int)=0 from rfl,cZ]at this
  refine this.trans ?_
  simp
 ·unfold cn.l23 cn.aai
  have hm:R.getD i bl∈R:=by
   rw[aU,bk hi];exact dB hi
  have VA:=hv _ hm
  have nR:=VA.1
  have iK:=nR
  unfold aD dY at iK
  rw[aT ω,aq,a6 ω ω,aq,aJ,wK N iK.1 iK.2,ar]
  refine(WI N hN _ hq hl ω _ nR i ω).trans ?_
  rw[bX,kO]
  have ef:fS l E (keyOf (R.getD i bl)).1 (keyOf (R.getD i bl)).2=dY (R.getD i bl)+bP (R.getD i bl).1 (R.getD i bl).2.1 E:=by
   show bP _ _ l+bP _ _ E=_
   rw[VA.2];rfl
  rw[ef]
  generalize hS:dY (R.getD i bl)+bP (R.getD i bl).1 (R.getD i bl).2.1 E=v
  by_cases hF:Fq v
  ·rw[aj hF,aj hF,hr _ (by
    split
    ·omega
    ·rw[aS,aI];omega)]
   cases eg Fq (fS l E) ((R.drop (i+1)).map keyOf)with
   |none=>rfl
   |some o=>
    show uE (some _)=uE (some _)
    congr 2
    split
    ·rfl
    ·exact bt _ _ _
  ·rw[ah hF,ah hF];rfl
 ·unfold cn.l23 cn.aai
  rw[aP ω,av,Nt,ar]
  show _=uE (some (out++[]))
  rw[ch];rfl
def DB(l:au)(k:cW):da:=(k.1,(k.2,(bP k.1 k.2 l,())))
theorem eo(l:au)(K:List cW):(rowsOf l K).length=K.length:=ct ..
theorem IF(l:au){K:List cW}{p:Nat}(h:p<K.length):(rowsOf l K).getD p bl=DB l (K.getD p (0,0)):=by
 unfold rowsOf
 rw[aU,pV,bk h,aU,bk h];rfl
theorem uG(l:au)(K:List cW)(p:Nat)(k:cW):(rowsOf l K).take p++DB l k::(rowsOf l K).drop p=rowsOf l (K.take p++k::K.drop p):=by
 unfold rowsOf
 rw[cY,bX,List.map_take,List.map_drop];rfl
theorem CO(l:au)(K:List cW):(rowsOf l K).map keyOf=K:=by
 unfold rowsOf
 rw[List.map_map]
 induction K with
 |nil=>rfl
 |cons k t ih=>rw[bX,ih];rfl
theorem Ay{k x:cW}:0<BB k.1 k.2 x.1 x.2↔sV x k:=by
 unfold BB sV kW;split<;>omega
theorem xC{k x:cW}:BB k.1 k.2 x.1 x.2=0↔x=k:=by
 have:x=k↔x.1=k.1∧x.2=k.2:=⟨λh=>h▸⟨rfl,rfl⟩,λh=>gS h.1 h.2⟩
 rw[this]
 unfold BB;split<;>omega
def Az(k:cW):Prop:=HE k.1∧HE k.2
theorem R9{k:cW}{K:List cW}{p:Nat}(h:p<K.length):wV k (K.drop p)=if sV (K.getD p (0,0)) k then K.getD p (0,0)::wV k (K.drop (p+1))else if K.getD p (0,0)=k then K.drop p else k::K.drop p:=by
 rw[drop_cons h (0,0)];rfl
theorem AA{K:List cW}{p:Nat}(h:p<K.length)(t:List cW):K.take p++K.getD p (0,0)::t=K.take (p+1)++t:=by
 rw[←pT h,bt,aU,bk h];rfl
def zeroAt(l:au)(K:List cW)(k:cW):Prop:=k∉K→bP k.1 k.2 l=0
theorem xD{l:au}{k:cW}(h:bP k.1 k.2 l=0):((k.1,(k.2,((0:Int),()))):da)=DB l k:=by
 unfold DB;rw[h]
theorem uH{k:cW}{K:List cW}{p:Nat}(hs:sC K)(hp: ∀x∈K.take p,sV x k)(h: ∀x∈K.drop p,sV k x):k∉K:=λhk=>by
 rw[←gi p K]at hk
 rcases a8.1 hk with hk|hk
 ·exact np (hp k hk)
 ·exact np (h k hk)
theorem Sa{k:cW}{K:List cW}{p:Nat}(hs:sC K)(h:p<K.length)(h1: ¬sV (K.getD p (0,0)) k)(h2:K.getD p (0,0)≠k): ∀x∈K.drop p,sV k x:=by
 have hk:sV k (K.getD p (0,0)):=(R7 (K.getD p (0,0)) k).elim (λh=>absurd h h1) (λh=>h.elim (λh=>absurd h h2) id)
 have hd:sC (K.drop p):=vG (List.drop_sublist ..) hs
 rw[drop_cons h (0,0)]at hd ⊢
 intro x hx
 rcases aW.1 hx with rfl|hx
 ·exact hk
 ·exact xB hk ((ec.1 hd).1 x hx)
theorem af0(N:Nat)(C:cn.eO){l E S:au}{K:List cW}(hs:sC K)(hl:K.length≤100000)(hf: ∀k∈K,Az k)(x:da)(hx:Az (keyOf x))(hz:zeroAt l K (keyOf x))(len:Int)(i:Nat)(hi:i≤1000000):
  ∀(m n p:Nat),K.length-p≤m→m<n→p≤K.length→(∀y∈K.take p,sV y (keyOf x))→
   cn.wQ N C n E (rowsOf l K) x (p:Int) S len (i:Int)=C E (rowsOf l (K.take p++wV (keyOf x) (K.drop p))) S len ((i+1:Nat):Int)
 |m,0,p,_,hn,_,_=>ω
 |m,n+1,p,hm,hn,hp,hb=>by
  unfold cn.wQ cn.vw cn.j18 cn.ahL
  rw[eo,ay (x:=(i:Int)+1) ω ω,ag i]
  by_cases h:p<K.length
  ·have hfk:=hf (K.getD p (0,0)) (by rw[aU,bk h];exact dB h)
   have ho:TO N x.1 x.2.1 ((rowsOf l K).getD p bl)=some (BB (keyOf x).1 (keyOf x).2 (K.getD p (0,0)).1 (K.getD p (0,0)).2):=by
    rw[IF l h]
    exact Iz N hx.1 hx.2 hfk.1 hfk.2
   rw[aT ω,aq,a6 ω ω,aq,aJ,ho,ar,dX (x:=(p:Int)) ω,av,aq,ar,cQ,cond_not,aN,R9 h]
   by_cases h1:sV (K.getD p (0,0)) (keyOf x)
   ·rw[aj (Ay.2 h1),aj h1,ay (x:=(p:Int)+1) ω ω,ag p,AA h]
    refine af0 N C hs hl hf x hx hz len i hi (m-1) n (p+1) ω ω ω λy hy=> ?_
    rw[←pT h]at hy
    rcases a8.1 hy with hy|hy
    ·exact hb y hy
    ·rw[aU,bk h]at h1
     rw[bW.1 hy];exact h1
   ·rw[ah (λh=>h1 (Ay.1 h)),ah h1]
    by_cases h2:K.getD p (0,0)=keyOf x
    ·rw[aj (xC.2 h2),aj h2,gi]
    ·rw[ah (λh=>h2 (xC.1 h)),ah h2,D1 N (by rw[eo];omega) (by rw[eo];omega),ar]
     have Bc:=hz (uH hs hb (Sa hs h h1 h2))
     have e:=uG l K p (keyOf x)
     rw[←xD Bc]at e
     exact fj (λR=>C E R S len ((i+1:Nat):Int)) e
  ·have hd:K.drop p=[]:=vF ω
   rw[aP ω,av,dW ω,aq,D1 N (by rw[eo];omega) (by rw[eo];omega),ar]
   have Bc:=hz (uH hs hb (by rw[hd];exact λx hx=>nomatch hx))
   have e:=uG l K p (keyOf x)
   rw[←xD Bc]at e
   have e2:wV (keyOf x) (K.drop p)=keyOf x::K.drop p:=by rw[hd];rfl
   rw[e2]
   exact fj (λR=>C E R S len ((i+1:Nat):Int)) e
end VM
end
section
namespace VM
open Go VM.F
def IG(E:au)(i:Nat):Prop:=dx (c5 (i:Int) E).sum 0
instance(E:au):DecidablePred (IG E):=λi=>by unfold IG;infer_instance
theorem aaj(N:Nat)(hN:2000000≤N)(K:gz.db){E:au}(hq:dS E)(hl:E.length≤100000)(a:Nat)(ha:a<6):
  gz.l6 N K N E (a:Int) [] (a:Int) E (E.length:Int) 0=if(c5 (a:Int) E).sum=0 then K E ((a+1:Nat):Int)else some false:=by
 have:=oe E bl (λn j ws=>gz.l6 N K n E (a:Int) (ws.map dP) (a:Int) E (E.length:Int) j)
  (λt ws=>if(ws++c5 (a:Int) t).sum=0 then K E ((a+1:Nat):Int)else some false)
  (λj (ws:List Int)=>ws.length≤j∧ ∀x∈ws,aD x)
  (λn j ws hj hI hr=> ?_) (λn ws hI=> ?_) E.length N 0 [] ω ω ω ⟨aG _,λx hx=>nomatch hx⟩
 ·rw[show((0:Nat):Int)=0 from rfl,cZ]at this
  exact this
 ·unfold gz.l6 gz.uw
  have nR:=yW hq j
  have iK:=nR
  unfold aD dY at iK
  rw[aT ω,aq,a6 ω ω,aq,aJ,wK N iK.1 iK.2,ar,bL (by rw[ct,aI];omega),aq,ay (x:=(j:Int)+1) ω ω,ag j,aN]
  by_cases h1:(E.getD j bl).2.1=(a:Int)
  ·have hc:c5 (a:Int) (E.getD j bl::E.drop (j+1))=dY (E.getD j bl)::c5 (a:Int) (E.drop (j+1)):=by rw[df,aj h1]
   rw[aj h1,hc]
   have:=hr (ws++[dY (E.getD j bl)]) ⟨by rw[aS,aI];omega,BG hI.2 nR⟩
   rw[cY]at this
   refine this.trans ?_
   rw[bt];rfl
  ·have hc:c5 (a:Int) (E.getD j bl::E.drop (j+1))=c5 (a:Int) (E.drop (j+1)):=by rw[df,ah h1]
   rw[ah h1,hc]
   exact hr ws ⟨ω,hI.2⟩
 ·unfold gz.l6 gz.uw
  rw[aP ω,av,Ks N hI.2 ω ω,ar]
  show _=if(ws++[]).sum=0 then K E ((a+1:Nat):Int)else some false
  rw[ch,bn,av,As,ar,cond_not,aN,ay (x:=(a:Int)+1) ω ω,ag a]
  by_cases h:ws.sum=0
  ·rw[aj h,aj (kk.2 h)]
  ·rw[ah h,ah (λk=>h (kk.1 k))]
theorem WJ(N:Nat)(hN:2000000≤N){E:au}(hq:dS E)(hl:E.length≤100000):gz N E=some (decide (∀j,j<kj→IG E j)&&true):=by
 unfold gz gz.b
 refine iq (len:=kj) (F:=λn i=>gz.l2 N n E i) (IG E) (λn i r hi hp hr=> ?_) (λn=> ?_) N (by unfold kj;omega)
 ·unfold gz.l2 gz.gH
  unfold kj at hi
  rw[aT ω,aq,aaj N hN _ hq hl i hi,hr]
  unfold IG dx
  rfl
 ·unfold gz.l2 gz.gH
  rw[aP (by unfold kj;omega),av]
structure WK(E:au):Prop where
 place: ∀x∈E,bB x.1 x.2.1
 q: ∀x∈E,aD (dY x)∧p4 (dY x)
 len:E.length≤400
 flat: ∀i:Int,(c5 i E).sum=0
theorem IH{x:da}(h:bB x.1 x.2.1):Az (keyOf x):=by
 have h':bB (keyOf x).1 (keyOf x).2:=h
 unfold bB at h'
 unfold Az HE
 omega
theorem gu{l:au}{k:cW}(h:k∉l.map keyOf):bP k.1 k.2 l=0:=ko λx hx e=>h (by
 have:keyOf x=k:=gS e.1 e.2
 rw[←this];exact eL hx)
theorem TY(N:Nat)(hN:2000000≤N){l E:au}(hq:dS E)(hE:E.length≤400)(hp: ∀x∈E,Az (keyOf x))(hs:sC (l.map keyOf))(hl:l.length≤90000)(WL:dS l)(II: ∀x∈l,Az (keyOf x)):
  cn.lj N N E l E (E.length:Int) 0=uE (eg Fq (fS l E) (nq (l.map keyOf) E)):=by
 have:=oe E bl (λn i K=>cn.lj N n E (rowsOf l K) E (E.length:Int) i) (λt K=>uE (eg Fq (fS l E) (nq K t)))
  (λi (K:List cW)=>K.length≤l.length+i∧sC K∧(∀k∈K,Az k)∧ ∀x∈l,keyOf x∈K)
  (λn i K hi hI hr=> ?_) (λn K hI=> ?_) E.length N 0 (l.map keyOf) ω ω ω ⟨by rw[ct];omega,hs,λk hk=>by
   obtain⟨x,hx,rfl⟩:=cA.1 hk
   exact II x hx,λx hx=>eL hx⟩
 ·rw[show((0:Nat):Int)=0 from rfl,cZ]at this
  simp only[mD hs]at this
  exact this
 ·unfold cn.lj cn.kP
  obtain⟨h1,h2,h3,h4⟩:=hI
  have hm:E.getD i bl∈E:=by
   rw[aU,bk hi];exact dB hi
  rw[aT ω,aq,a6 ω ω,aq,aJ]
  refine(af0 N _ h2 ω h3 (E.getD i bl) (hp _ hm) (λhk=>gu λhx=>hk (by
   obtain⟨x,hx,e⟩:=cA.1 hx
   rw[←e];exact h4 x hx)) (E.length:Int) i ω K.length N 0 ω ω ω (λy hy=>nomatch hy)).trans ?_
  rw[oS,cJ,cZ,sD]
  refine hr (wV (keyOf (E.getD i bl)) K) ⟨cm (FF _ K) ω,Aw h2,λk hk=>(rf.1 hk).elim (λe=>e▸hp _ hm) (h3 k),λx hx=>rf.2 (Or.inr (h4 x hx))⟩
 ·unfold cn.lj cn.kP
  obtain⟨h1,h2,h3,h4⟩:=hI
  rw[aP ω,av,eo,cM ω ω ω,aq]
  have:=TX N hN (l:=l) (R:=rowsOf l K) hq ω (by rw[eo];omega) (λr hr=>by
   unfold rowsOf at hr
   obtain⟨k,hk,rfl⟩:=cA.1 hr
   refine⟨?_,rfl⟩
   show aD (bP k.1 k.2 l)
   by_cases hkl:k∈l.map keyOf
   ·have e:rowsOf l (l.map keyOf)=l:=mD hs
    have hm:DB l k∈rowsOf l (l.map keyOf):=eL hkl
    rw[e]at hm
    exact WL (DB l k) hm
   ·rw[gu hkl];exact⟨δ,δ⟩)
  rw[CO,eo]at this
  exact this
theorem dn{l:au}(h:cB l=true):sC (l.map keyOf)∧(∀x∈l,bB x.1 x.2.1∧p4 (dY x)):=by
 unfold cB at h
 rw[fX]at h
 have h':=bz h
 have get: ∀(i:Nat) (hi:i<l.length),l.getD i bl=l[i]:=λi hi=>by rw[aU,bk hi];rfl
 have WM: ∀i,i+1<l.length→sV (keyOf (l.getD i bl)) (keyOf (l.getD (i+1) bl)):=λi hi=>(h' (i+1) hi).2.2.2 ω
 have e9: ∀j,j<l.length→ ∀i,i<j→sV (keyOf (l.getD i bl)) (keyOf (l.getD j bl)):=by
  intro j
  induction j with
  |zero=>intro _ i hi;omega
  |succ j ih=>
   intro hj i hi
   by_cases e:i=j
   ·rw[e];exact WM j hj
   ·exact xB (ih ω i ω) (WM j hj)
 refine⟨?_,λx hx=> ?_⟩
 ·refine zx.2 (tX.2 λi j hi hj pN=> ?_)
  have:=e9 j hj i pN
  rw[get i hi,get j hj]at this
  exact this
 ·obtain⟨i,hi,e⟩:=gj hx
  have:=h' i hi
  unfold lD me at this
  rw[get i hi,e]at this
  exact⟨this.1,this.2.2.1⟩
theorem aak(N:Nat)(hN:2000000≤N){l E:au}(hk:cB l=true)(hl:l.length≤90000)(WL:dS l)(g:WK E):cn N l E=uE (eg Fq (fS l E) (nq (l.map keyOf) E)):=by
 obtain⟨hs,II⟩:=dn hk
 have hE:=g.len
 unfold cn cn.b
 rw[wM N ω ω,hk,ar,bn,av,aP ω,av]
 refine Ao E bl (λn i=>cn.l4 N n l E E (E.length:Int) i) (λ_=>uE (eg Fq (fS l E) (nq (l.map keyOf) E))) (λn i hi hr=> ?_) (λn=> ?_) N ω
 ·unfold cn.l4 cn.ei
  have hm:E.getD i bl∈E:=by
   rw[aU,bk hi];exact dB hi
  rw[aT ω,aq,a6 ω ω,aq,aJ,D0,bu (g.place _ hm),ar,bn,av,sy,ar,
   bu (show p4 ((E.getD i bl).2.2.1)from(g.q _ hm).2),bn,av,ay (x:=(i:Int)+1) ω ω,ag i]
  exact hr
 ·unfold cn.l4 cn.ei
  have hf:gz N E=some true:=by
   rw[WJ N hN (λx hx=>(g.q x hx).1) ω,bu (p:= ∀j,j<kj→IG E j) (λj _=>g.flat (j:Int))];rfl
  rw[aP ω,av,hf,ar,bn,av,wX N ω,ar]
  exact TY N hN (λx hx=>(g.q x hx).1) hE (λx hx=>IH (g.place x hx)) hs hl WL (λx hx=>IH (II x hx).1)
end VM
end
section
namespace VM
open Go VM.F
def AB(a b:Nat):Nat→List cW
 |0=>[]
 |m+1=>((a:Int),(b:Int))::AB a (b+1) m
def yv(w a:Nat):Nat→List cW
 |0=>[]
 |m+1=>AB a 0 w++yv w (a+1) m
theorem AD{k:cW}{a:Nat}: ∀{m b:Nat},k∈AB a b m↔k.1=a∧(b:Int)≤k.2∧k.2<(b+m:Nat)
 |0,b=>⟨λh=>(nomatch h),λh=>ω⟩
 |m+1,b=>by
  show k∈((a:Int),(b:Int))::AB a (b+1) m↔_
  rw[aW,AD]
  have:k=((a:Int),(b:Int))↔k.1=a∧k.2=b:=⟨λh=>h▸⟨rfl,rfl⟩,λh=>gS h.1 h.2⟩
  rw[this]
  omega
theorem om{k:cW}{w:Nat}: ∀{m a:Nat},k∈yv w a m↔(a:Int)≤k.1∧k.1<(a+m:Nat)∧0≤k.2∧k.2<w
 |0,a=>⟨λh=>(nomatch h),λh=>ω⟩
 |m+1,a=>by
  show k∈AB a 0 w++yv w (a+1) m↔_
  rw[a8,AD,om]
  omega
theorem Nu(a:Nat): ∀(m b:Nat),sC (AB a b m)
 |0,b=>List.Pairwise.nil
 |m+1,b=>ec.2 ⟨λk hk=>by
  have:=AD.1 hk
  show(a:Int)<k.1∨((a:Int)=k.1∧(b:Int)<k.2)
  omega,Nu a m (b+1)⟩
theorem oq(w:Nat): ∀(m a:Nat),sC (yv w a m)
 |0,a=>List.Pairwise.nil
 |m+1,a=>vH.2 ⟨Nu a w 0,oq w m (a+1),λx hx y hy=>by
  have h1:=AD.1 hx
  have h2:=om.1 hy
  show x.1<y.1∨(x.1=y.1∧x.2<y.2)
  omega⟩
structure Mark(l:au)(a b p:Nat):Prop where
 le:p≤l.length
 lo: ∀x∈l.take p,sV (keyOf x) ((a:Int),(b:Int))
 hi: ∀x∈l.drop p,¬sV (keyOf x) ((a:Int),(b:Int))
theorem tI{k:cW}{a b:Nat}:sV k ((a:Int),((b+1:Nat):Int))↔sV k ((a:Int),(b:Int))∨k=((a:Int),(b:Int)):=by
 have:k=((a:Int),(b:Int))↔k.1=a∧k.2=b:=⟨λh=>h▸⟨rfl,rfl⟩,λh=>gS h.1 h.2⟩
 rw[this]
 show(k.1<(a:Int)∨(k.1=(a:Int)∧k.2<((b+1:Nat):Int)))↔(k.1<(a:Int)∨(k.1=(a:Int)∧k.2<(b:Int)))∨_
 omega
theorem Mark.row{l:au}{a w p:Nat}(h:Mark l a w p)(hw: ∀x∈l,0≤(keyOf x).2∧(keyOf x).2<w):Mark l (a+1) 0 p:=by
 have key: ∀x∈l,(sV (keyOf x) ((a:Int),(w:Int))↔sV (keyOf x) (((a+1:Nat):Int),((0:Nat):Int))):=λx hx=>by
  have:=hw x hx
  show((keyOf x).1<(a:Int)∨((keyOf x).1=(a:Int)∧(keyOf x).2<(w:Int)))↔((keyOf x).1<((a+1:Nat):Int)∨((keyOf x).1=((a+1:Nat):Int)∧(keyOf x).2<((0:Nat):Int)))
  omega
 exact⟨h.le,λx hx=>(key x (lM hx)).1 (h.lo x hx),λx hx k=>h.hi x hx ((key x (mS hx)).2 k)⟩
theorem kQ(a b:Int)(l m:au):bP a b (l++m)=bP a b l+bP a b m:=by
 induction l with
 |nil=>rw[cJ,tH];omega
 |cons x t ih=>rw[kF,ej,ej,ih];omega
theorem Mark.step{l:au}(hs:sC (l.map keyOf)){a b p:Nat}(h:Mark l a b p):
  (p<l.length∧(l.getD p bl).1=(a:Int)∧(l.getD p bl).2.1=(b:Int)∧bP (a:Int) (b:Int) l=dY (l.getD p bl)∧Mark l a (b+1) (p+1))∨
  ((p<l.length→(l.getD p bl).1=(a:Int)→(l.getD p bl).2.1=(b:Int)→False)∧bP (a:Int) (b:Int) l=0∧Mark l a (b+1) p):=by
 have no: ∀{x:da} {k:cW},¬keyOf x=k→ ¬(x.1=k.1∧x.2.1=k.2):=λh e=>h (gS e.1 e.2)
 have hz:bP (a:Int) (b:Int) (l.take p)=0:=ko λx hx e=>by
  have e':keyOf x=((a:Int),(b:Int)):=gS e.1 e.2
  have:=h.lo x hx
  rw[e']at this
  exact np this
 have HI:bP (a:Int) (b:Int) l=bP (a:Int) (b:Int) (l.drop p):=by
  conv=>lhs;rw[←gi p l]
  rw[kQ,hz];omega
 by_cases hp:p<l.length
 ·have hd:=drop_cons hp bl
  have hsd:sC ((l.drop p).map keyOf):=by
   rw[List.map_drop];exact vG (List.drop_sublist ..) hs
  have LA:=h.hi
  rw[hd]at hsd LA HI
  have hgt:=(ec.1 hsd).1
  have Tn:=LA _ (bm ..)
  have amJ:l.take (p+1)=l.take p++[l.getD p bl]:=by
   rw[←pT hp,aU,bk hp];rfl
  by_cases he:keyOf (l.getD p bl)=((a:Int),(b:Int))
  ·refine Or.inl ⟨hp,fj Prod.fst he,fj Prod.snd he,?_,ω,λx hx=> ?_,λx hx hk=> ?_⟩
   ·rw[HI,ej,aj ⟨fj Prod.fst he,fj Prod.snd he⟩,ko λx hx e=> ?_]
    ·omega
    ·have hg:=hgt (keyOf x) (eL hx)
     have e':keyOf x=((a:Int),(b:Int)):=gS e.1 e.2
     rw[he,e']at hg
     exact np hg
   ·rw[amJ]at hx
    rcases a8.1 hx with hx|hx
    ·exact tI.2 (Or.inl (h.lo x hx))
    ·rw[bW.1 hx];exact tI.2 (Or.inr he)
   ·have hg:=hgt (keyOf x) (eL hx)
    rw[he]at hg
    rcases tI.1 hk with hk|hk
    ·exact ID hg hk
    ·rw[hk]at hg;exact np hg
  ·have lx: ∀x∈l.getD p bl::l.drop (p+1),keyOf x≠((a:Int),(b:Int)):=λx hx e=>by
    rcases aW.1 hx with rfl|hx
    ·exact he e
    ·have hg:=hgt (keyOf x) (eL hx)
     rw[e]at hg
     exact Tn hg
   refine Or.inr ⟨λ_ e1 e2=>he (gS e1 e2),?_,h.le,λx hx=>tI.2 (Or.inl (h.lo x hx)),λx hx hk=> ?_⟩
   ·rw[HI]
    exact ko λx hx=>no (lx x hx)
   ·rw[hd]at hx
    rcases tI.1 hk with hk|hk
    ·exact LA x hx hk
    ·exact lx x hx hk
 ·have hd:l.drop p=[]:=vF ω
  refine Or.inr ⟨λh=>absurd h hp,by rw[HI,hd];rfl,h.le,λx hx=>tI.2 (Or.inl (h.lo x hx)),λx hx=> ?_⟩
  rw[hd]at hx;nomatch hx
def vy(out:au)(r:Option au):Option (au×Bool):=some (match r with|some o=>(out++o,true)|none=>([],false))
theorem Kz(N:Nat)(v:Int):Qw N (cS v)=some (if Fq v then(v,true)else(0,false)):=by
 unfold Qw
 rw[q3,ar]
 by_cases h:aD v
 ·rw[nr h]
  dsimp only
  rw[bn,av,aN]
  by_cases h2:p4 v
  ·rw[ah (show ¬v= -9223372036854775808 from h2),aj (show Fq v from⟨h,h2⟩)]
  ·rw[aj (show v= -9223372036854775808 by unfold p4 at h2;omega),ah (λh=>h2 h.2)]
 ·rw[uF h,ah (λk=>h k.1)]
  rfl
theorem WN(N:Nat)(hN:4000000≤N)(C4:cr.bS)(C7:cr.fv){l E out:au}(hq:dS E)(hl:E.length≤100000)(ho:out.length≤1000000)(p:Int)(a b:Nat)(hb:b≤1000000)(q:Int)(hF:Fq q):
  cr.IJ N C4 C7 N l E out p (a:Int) (b:Int) q false (false,(([]:List Int),())) 0=
   if Fq (q+bP (a:Int) (b:Int) E)then C7 l E (if q+bP (a:Int) (b:Int) E=0 then out else out++[((a:Int),((b:Int),(q+bP (a:Int) (b:Int) E,())))]) p (a:Int) ((b+1:Nat):Int)else some ([],false):=by
 have:=oe E bl (λn j ws=>cr.IJ N C4 C7 n l E out p (a:Int) (b:Int) q (!ws.isEmpty) (cS ws.sum) j)
  (λt ws=>if Fq (q+(ws++dd (a:Int) (b:Int) t).sum)then C7 l E (if q+(ws++dd (a:Int) (b:Int) t).sum=0 then out else out++[((a:Int),((b:Int),(q+(ws++dd (a:Int) (b:Int) t).sum,())))]) p (a:Int) ((b+1:Nat):Int)else some ([],false))
  (λj (ws:List Int)=>ws.length≤j∧ ∀x∈ws,aD x)
  (λn j ws hj hI eM=> ?_) (λn ws hI=> ?_) E.length N 0 [] ω ω ω ⟨aG _,λx hx=>nomatch hx⟩
 ·rw[show((0:Nat):Int)=0 from rfl,cZ,iC,iH]at this
  exact this
 ·unfold cr.IJ cr.HJ
  have nR:=yW hq j
  have iK:=nR
  unfold aD dY at iK
  have hb:=Np hI.2
  rw[aT ω,aq,a6 ω ω,aq,aq,aq,aJ,cP N ω iK.1 iK.2,ar,iA N ω ((Al (n:=ws.length) ω hb.1 hb.2).mono ω) ((Fit.i64 iK.1 iK.2).mono ω),ar,ay (x:=(j:Int)+1) ω ω,ag j,aN,aN]
  by_cases h1:(E.getD j bl).1=(a:Int)
  ·by_cases h2:(E.getD j bl).2.1=(b:Int)
   ·have hc:dd (a:Int) (b:Int) (E.getD j bl::E.drop (j+1))=dY (E.getD j bl)::dd (a:Int) (b:Int) (E.drop (j+1)):=by rw[eJ,aj ⟨h1,h2⟩]
    rw[aj h1,aj h2,hc]
    have:=eM (ws++[dY (E.getD j bl)]) ⟨by rw[aS,aI];omega,BG hI.2 nR⟩
    rw[lQ,cw,iC,fY,bt]at this
    refine Eq.trans ?_ this
    rw[show(!(ws++[dY (E.getD j bl)]).isEmpty)=true by cases ws<;>rfl]
    rfl
   ·have hc:dd (a:Int) (b:Int) (E.getD j bl::E.drop (j+1))=dd (a:Int) (b:Int) (E.drop (j+1)):=by rw[eJ,ah (λh=>h2 h.2)]
    rw[aj h1,ah h2,hc]
    exact eM ws ⟨ω,hI.2⟩
  ·have hc:dd (a:Int) (b:Int) (E.getD j bl::E.drop (j+1))=dd (a:Int) (b:Int) (E.drop (j+1)):=by rw[eJ,ah (λh=>h1 h.1)]
   rw[ah h1,hc]
   exact eM ws ⟨ω,hI.2⟩
 ·unfold cr.IJ cr.HJ
  have hs:=Np hI.2
  have R4:=hF.1
  unfold aD at R4
  rw[aP ω,av,cP N ω R4.1 R4.2,ar,iA N ω ((Al (n:=ws.length) ω hs.1 hs.2).mono ω) ((Fit.i64 R4.1 R4.2).mono ω),ar,Kz,ar,ay (x:=(b:Int)+1) ω ω,ag b,bL (by rw[aI];omega),aq,bL (by rw[aI];omega),aq,cond_not]
  show _=if Fq (q+(ws++[]).sum)then C7 l E (if q+(ws++[]).sum=0 then out else out++[((a:Int),((b:Int),(q+(ws++[]).sum,())))]) p (a:Int) ((b+1:Nat):Int)else some ([],false)
  rw[ch,EC ws.sum q]
  cases ws with
  |nil=>
   show cond (!aO q 0) _ _=_
   rw[cond_not,aN,iC,fY,aj hF]
   by_cases h:q=0
   ·rw[aj h,aj h]
   ·rw[ah h,ah h]
  |cons w ws=>
   show cond (!(if Fq (q+(w::ws).sum)then(q+(w::ws).sum,true)else(0,false)).2) _ _=_
   by_cases h2:Fq (q+(w::ws).sum)
   ·rw[aj h2,aj h2]
    dsimp only
    rw[bn,av,cond_not,aN]
    by_cases h:q+(w::ws).sum=0
    ·rw[aj h,aj h]
    ·rw[ah h,ah h]
   ·rw[ah h2,ah h2];rfl
end VM
end
section
namespace VM
open Go VM.F
theorem IK{P:Int→Prop} [DecidablePred P]{f:Int→Int→Int}{k:cW}{K:List cW}{out:au}{v:Int}(hv:f k.1 k.2=v):
  (if P v then vy (if v=0 then out else out++[(k.1,(k.2,(v,())))]) (eg P f K)else some ([],false))=vy out (eg P f (k::K)):=by
 rw[kO,hv]
 by_cases h:P v
 ·rw[aj h,aj h]
  cases eg P f K with
  |none=>rfl
  |some o=>
   show some ((if v=0 then out else out++[(k.1,(k.2,(v,())))])++o,true)=some (out++(if v=0 then o else(k.1,(k.2,(v,())))::o),true)
   by_cases h0:v=0
   ·rw[aj h0,aj h0]
   ·rw[ah h0,ah h0,bt];rfl
 ·rw[ah h,ah h];rfl
theorem amK{l:au}(hs:sC (l.map keyOf))(hl: ∀x∈l,Fq (dY x))(k:cW):Fq (bP k.1 k.2 l):=by
 by_cases hk:k∈l.map keyOf
 ·have hm:DB l k∈rowsOf l (l.map keyOf):=eL hk
  rw[mD hs]at hm
  exact hl (DB l k) hm
 ·rw[gu hk];exact⟨⟨δ,δ⟩,δ⟩
theorem IL(N:Nat)(hN:4000000≤N)(C:cr.bS){l E:au}(hq:dS E)(hl:E.length≤100000)(hs:sC (l.map keyOf))(G9:l.length≤100000)(hf: ∀x∈l,Fq (dY x))(hw: ∀x∈l,0≤(keyOf x).2∧(keyOf x).2<(6:Nat))(a:Nat)(ha:a≤24)(G:List cW)
  (hc: ∀(p:Nat) (out:au),Mark l (a+1) 0 p→out.length≤6*(a+1)→C l E out (p:Int) ((a+1:Nat):Int)=vy out (eg Fq (fS l E) G)):
  ∀(m n b p:Nat) (out:au),b+m=6→m<n→Mark l a b p→out.length≤6*a+b→cr.l7 N C n l E out (p:Int) (a:Int) (b:Int)=vy out (eg Fq (fS l E) (AB a b m++G))
 |m,0,b,p,out,_,hn,_,_=>ω
 |0,n+1,b,p,out,hb,_,hM,ho=>by
  have e:b=6:=ω
  subst e
  unfold cr.l7 cr.q4
  rw[aP ω,av,ay (x:=(a:Int)+1) ω ω,ag a]
  exact hc p out (hM.row hw) ω
 |m+1,n+1,b,p,out,hb,hn,hM,ho=>by
  have hp:=hM.le
  have ahM: ∀(p:Nat) (v:Int),Mark l a (b+1) p→cr.l7 N C n l E (if v=0 then out else out++[((a:Int),((b:Int),(v,())))]) (p:Int) (a:Int) ((b+1:Nat):Int)=vy (if v=0 then out else out++[((a:Int),((b:Int),(v,())))]) (eg Fq (fS l E) (AB a (b+1) m++G)):=λp v h=>
   IL N hN C hq hl hs G9 hf hw a ha G hc m n (b+1) p _ ω ω h (by
    split
    ·omega
    ·rw[aS,aI];omega)
  have xu:=amK hs hf ((a:Int),(b:Int))
  unfold cr.l7 cr.q4 cr.Sb cr.KA
  show _=vy out (eg Fq (fS l E) (((a:Int),(b:Int))::(AB a (b+1) m++G)))
  rw[aT (x:=(b:Int)) ω,aq,cQ,aN,aN,aJ]
  have fin: ∀(p:Nat) (q:Int),q=bP (a:Int) (b:Int) l→Mark l a (b+1) p→cr.IJ N C (cr.l7 N C n) N l E out (p:Int) (a:Int) (b:Int) q false (false,(([]:List Int),())) 0=vy out (eg Fq (fS l E) (((a:Int),(b:Int))::(AB a (b+1) m++G))):=λp q e h=>by
   subst e
   rw[WN N hN C _ hq hl ω (p:Int) a b ω _ xu,ahM p _ h]
   exact IK (k:=((a:Int),(b:Int))) rfl
  rcases hM.step hs with⟨h1,h2,h3,h4,h5⟩|⟨h1,h2,h3⟩
  ·rw[aj (show(p:Int)<(l.length:Int)by omega),a6 ω ω,aq,aq,aj h2,aj h3,ay (x:=(p:Int)+1) ω ω,ag p,aq]
   exact fin (p+1) _ h4.symm h5
  ·by_cases g1:p<l.length
   ·rw[aj (show(p:Int)<(l.length:Int)by omega),a6 ω ω,aq,aq]
    by_cases g2:(l.getD p bl).1=(a:Int)
    ·rw[aj g2,ah (λg3=>h1 g1 g2 g3)]
     exact fin p _ h2.symm h3
    ·rw[ah g2]
     exact fin p _ h2.symm h3
   ·rw[ah (show ¬(p:Int)<(l.length:Int)by omega)]
    exact fin p _ h2.symm h3
theorem IM(N:Nat)(hN:4000000≤N){l E:au}(hq:dS E)(hl:E.length≤100000)(hs:sC (l.map keyOf))(G9:l.length≤100000)(hf: ∀x∈l,Fq (dY x))(hw: ∀x∈l,0≤(keyOf x).2∧(keyOf x).2<(6:Nat)):
  ∀(m n a p:Nat) (out:au),a+m=25→m<n→Mark l a 0 p→out.length≤6*a→cr.l4 N n l E out (p:Int) (a:Int)=vy out (eg Fq (fS l E) (yv 6 a m))
 |m,0,a,p,out,_,hn,_,_=>ω
 |0,n+1,a,p,out,ha,_,hM,ho=>by
  unfold cr.l4 cr.ei
  rw[fp ω,av]
  show some (out,true)=some (out++[],true)
  rw[ch]
 |m+1,n+1,a,p,out,ha,hn,hM,ho=>by
  unfold cr.l4 cr.ei
  rw[fG ω,aq]
  exact IL N hN _ hq hl hs G9 hf hw a ω (yv 6 (a+1) m) (λp out h ho=>IM N hN hq hl hs G9 hf hw m n (a+1) p out ω ω h ho) 6 N 0 p out ω ω hM ω
def jA:List cW:=yv 6 0 25
theorem FG(N:Nat)(hN:4000000≤N){l E:au}(hk:cB l=true)(hl:l.length≤90000)(WL:dS l)(hq:dS E)(hE:E.length≤100000):cr N l E=vy [] (eg Fq (fS l E) jA):=by
 obtain⟨hs,II⟩:=dn hk
 unfold cr cr.b
 refine IM N hN hq hE hs ω (λx hx=>⟨WL x hx,(II x hx).2⟩) (λx hx=> ?_) 25 N 0 0 [] ω ω ⟨ω,λx hx=>(nomatch hx),λx hx e9=> ?_⟩ (by simp)
 ·have h:bB (keyOf x).1 (keyOf x).2:=(II x hx).1
  unfold bB at h;omega
 ·have h:bB (keyOf x).1 (keyOf x).2:=(II x (mS hx)).1
  unfold bB at h
  have wm:(keyOf x).1<((0:Nat):Int)∨((keyOf x).1=((0:Nat):Int)∧(keyOf x).2<((0:Nat):Int)):=e9
  omega
theorem TZ{l E:au}(hk:cB l=true)(hp: ∀x∈E,bB x.1 x.2.1):eg Fq (fS l E) (nq (l.map keyOf) E)=eg Fq (fS l E) jA:=by
 obtain⟨hs,II⟩:=dn hk
 refine Ns ⟨⟨δ,δ⟩,δ⟩ (yY hs) (oq 6 25 0) (λk hk=> ?_) (λk hk hn=> ?_)
 ·have:bB k.1 k.2:=by
   rcases mj.1 hk with h|⟨x,hx,rfl⟩
   ·obtain⟨x,hx,rfl⟩:=cA.1 h
    exact(II x hx).1
   ·exact hp x hx
  unfold bB at this
  exact om.2 ω
 ·have h1:k∉l.map keyOf:=λh=>hn (mj.2 (Or.inl h))
  have h2:k∉E.map keyOf:=λh=>by
   obtain⟨x,hx,e⟩:=cA.1 h
   exact hn (mj.2 (Or.inr ⟨x,hx,e⟩))
  unfold fS
  rw[gu h1,gu h2];rfl
end VM
end
section
namespace VM
open Go VM.F
def BH(E:au):Prop:= ∀x∈E,dm (dY x)
def jS(r:da):uI:=(r.1,(r.2.1,(dP (dY r),())))
theorem KB(E:au)(i:Nat):(E.map jS).getD i ((0:Int),((0:Int),(cD,())))=jS (E.getD i bl):=by
 by_cases h:i<E.length
 ·rw[aU,pV,bk h,aU,bk h];rfl
 ·rw[aU,gG (by rw[ct];omega),aU,gG ω];rfl
theorem KC{l:au}(h:BH l)(i:Nat):dm (dY (l.getD i bl)):=by
 by_cases hi:i<l.length
 ·rw[aU,bk hi];exact h _ (dB hi)
 ·rw[aU,gG ω];exact⟨δ,δ⟩
theorem ri{x:Int}(h:aD x):dm x:=by unfold aD at h;unfold dm;omega
theorem rj{ws:List Int}{x:Int}(h: ∀y∈ws,dm y)(hx:dm x): ∀y∈ws++[x],dm y:=λy hy=>by
 rcases a8.1 hy with hy|hy
 ·exact h y hy
 ·rw[bW.1 hy];exact hx
theorem WO(N:Nat){l:au}:ahN N l=some l:=Nt N
theorem WQ(N:Nat)(hN:2000000≤N)(K:cq.IN){E out R:au}(hq:BH E)(hl:E.length≤100000)(ho:out.length≤1000000)(r:da)(hr:aD (dY r))(i:Nat)(hi:i≤1000000):
  cq.Nv N K N (E.map jS) out r [dP (dY r)] R (R.length:Int) (i:Int) (E.map jS) ((E.map jS).length:Int) 0=
   if aD (dY r+bP r.1 r.2.1 E)then K (E.map jS) (if dY r+bP r.1 r.2.1 E=0 then out else out++[(r.1,(r.2.1,(dY r+bP r.1 r.2.1 E,())))]) R (R.length:Int) ((i+1:Nat):Int)else some (bG,(2:Int)):=by
 have:=oe E bl (λn j ws=>cq.Nv N K n (E.map jS) out r (ws.map dP) R (R.length:Int) (i:Int) (E.map jS) ((E.map jS).length:Int) j)
  (λt ws=>if aD (ws++dd r.1 r.2.1 t).sum then K (E.map jS) (if(ws++dd r.1 r.2.1 t).sum=0 then out else out++[(r.1,(r.2.1,((ws++dd r.1 r.2.1 t).sum,())))]) R (R.length:Int) ((i+1:Nat):Int)else some (bG,(2:Int)))
  (λj (ws:List Int)=>ws.length≤j+1∧ ∀x∈ws,dm x)
  (λn j ws hj hI eM=> ?_) (λn ws hI=> ?_) E.length N 0 [dY r] ω ω ω ⟨aG _,λx hx=>by rw[bW.1 hx];exact ri hr⟩
 ·rw[show((0:Nat):Int)=0 from rfl,cZ]at this
  refine this.trans ?_
  have e:([dY r]++dd r.1 r.2.1 E).sum=dY r+bP r.1 r.2.1 E:=by rw[Ek,cw];rfl
  rw[e]
 ·unfold cq.Nv cq.KD
  rw[aT (by rw[ct];omega),aq,a6 ω (by rw[ct];omega),aq,aJ,KB,bL (by rw[ct,aI];omega),aq,ay (x:=(j:Int)+1) ω ω,ag j,aN,aN]
  by_cases h1:(E.getD j bl).1=r.1
  ·by_cases h2:(E.getD j bl).2.1=r.2.1
   ·have hc:dd r.1 r.2.1 (E.getD j bl::E.drop (j+1))=dY (E.getD j bl)::dd r.1 r.2.1 (E.drop (j+1)):=by rw[eJ,aj ⟨h1,h2⟩]
    rw[aj (show(jS (E.getD j bl)).1=r.1 from h1),aj (show(jS (E.getD j bl)).2.1=r.2.1 from h2),hc]
    have:=eM (ws++[dY (E.getD j bl)]) ⟨by rw[aS,aI];omega,rj hI.2 (KC hq j)⟩
    rw[cY]at this
    refine this.trans ?_
    rw[bt];rfl
   ·have hc:dd r.1 r.2.1 (E.getD j bl::E.drop (j+1))=dd r.1 r.2.1 (E.drop (j+1)):=by rw[eJ,ah (λh=>h2 h.2)]
    rw[aj (show(jS (E.getD j bl)).1=r.1 from h1),ah (show ¬(jS (E.getD j bl)).2.1=r.2.1 from h2),hc]
    exact eM ws ⟨ω,hI.2⟩
  ·have hc:dd r.1 r.2.1 (E.getD j bl::E.drop (j+1))=dd r.1 r.2.1 (E.drop (j+1)):=by rw[eJ,ah (λh=>h1 h.1)]
   rw[ah (show ¬(jS (E.getD j bl)).1=r.1 from h1),hc]
   exact eM ws ⟨ω,hI.2⟩
 ·unfold cq.Nv cq.KD
  rw[aP (by rw[ct];omega),av,DY N hI.2 ω ω,ar]
  show _=if aD (ws++[]).sum then K (E.map jS) (if(ws++[]).sum=0 then out else out++[(r.1,(r.2.1,((ws++[]).sum,())))]) R (R.length:Int) ((i+1:Nat):Int)else some (bG,(2:Int))
  rw[ch]
  unfold Fu
  by_cases h0:dm ws.sum
  ·rw[aj h0]
   dsimp only
   rw[Ax N h0,ar,bn,av]
   by_cases h1:aD ws.sum
   ·rw[nr h1]
    dsimp only
    rw[bn,av,cond_not,aN,bL (by rw[aI];omega),aq,ay (x:=(i:Int)+1) ω ω,ag i,aj h1]
    split<;>rfl
   ·rw[uF h1,ah h1]
    rfl
  ·rw[ah h0,ah (λh=>h0 (ri h))]
   have e:F92 N cD=some (BA 0):=Ax N (v:=0) ⟨δ,δ⟩
   dsimp only
   rw[e,ar]
   rfl
theorem T0(N:Nat)(hN:2000000≤N){l E R:au}(hq:BH E)(hl:E.length≤100000)(hR:R.length≤200000)(hv: ∀r∈R,aD (dY r)∧dY r=bP r.1 r.2.1 l):
  cq.l26 N N (E.map jS) [] R (R.length:Int) 0=uE (eg aD (fS l E) (R.map keyOf)):=by
 have:=oe R bl (λn i out=>cq.l26 N n (E.map jS) out R (R.length:Int) i) (λt out=>uE ((eg aD (fS l E) (t.map keyOf)).map (λo=>out++o))) (λi (out:au)=>out.length≤i)
  (λn i out hi hI hr=> ?_) (λn out hI=> ?_) R.length N 0 [] ω ω ω (aG _)
 ·rw[show((0:Nat):Int)=0 from rfl,cZ]at this
  refine this.trans ?_
  simp
 ·unfold cq.l26 cq.aam
  have hm:R.getD i bl∈R:=by
   rw[aU,bk hi];exact dB hi
  have VA:=hv _ hm
  have nR:=VA.1
  have iK:=nR
  unfold aD dY at iK
  rw[aT ω,aq,a6 ω ω,aq,aJ,wK N iK.1 iK.2,ar]
  refine(WQ N hN _ hq hl ω _ nR i ω).trans ?_
  rw[bX,kO]
  have ef:fS l E (keyOf (R.getD i bl)).1 (keyOf (R.getD i bl)).2=dY (R.getD i bl)+bP (R.getD i bl).1 (R.getD i bl).2.1 E:=by
   show bP _ _ l+bP _ _ E=_
   rw[VA.2];rfl
  rw[ef]
  generalize hS:dY (R.getD i bl)+bP (R.getD i bl).1 (R.getD i bl).2.1 E=v
  by_cases hF:aD v
  ·rw[aj hF,aj hF,hr _ (by
    split
    ·omega
    ·rw[aS,aI];omega)]
   cases eg aD (fS l E) ((R.drop (i+1)).map keyOf)with
   |none=>rfl
   |some o=>
    show uE (some _)=uE (some _)
    congr 2
    split
    ·rfl
    ·exact bt _ _ _
  ·rw[ah hF,ah hF];rfl
 ·unfold cq.l26 cq.aam
  rw[aP ω,av,WO,ar]
  show _=uE (some (out++[]))
  rw[ch];rfl
theorem af1(N:Nat)(C:cq.mE){l:au}{E S:dh}{K:List cW}(hs:sC K)(hl:K.length≤100000)(hf: ∀k∈K,Az k)(x:uI)(k:cW)(hxk:(x.1,x.2.1)=k)(hx:Az k)(hz:zeroAt l K k)(len:Int)(i:Nat)(hi:i≤1000000):
  ∀(m n p:Nat),K.length-p≤m→m<n→p≤K.length→(∀y∈K.take p,sV y k)→
   cq.T1 N C n E (rowsOf l K) x (p:Int) S len (i:Int)=C E (rowsOf l (K.take p++wV k (K.drop p))) S len ((i+1:Nat):Int)
 |m,0,p,_,hn,_,_=>ω
 |m,n+1,p,hm,hn,hp,hb=>by
  unfold cq.T1 cq.Qx cq.j21 cq.ahO
  rw[eo,ay (x:=(i:Int)+1) ω ω,ag i]
  have ex:((x.1,(x.2.1,((0:Int),()))):da)=(k.1,(k.2,((0:Int),()))):=by rw[←hxk]
  by_cases h:p<K.length
  ·have hfk:=hf (K.getD p (0,0)) (by rw[aU,bk h];exact dB h)
   have ho:Ql N x.1 x.2.1 ((rowsOf l K).getD p bl)=some (BB k.1 k.2 (K.getD p (0,0)).1 (K.getD p (0,0)).2):=by
    rw[IF l h]
    rw[←hxk]at hx ⊢
    exact Fw N hx.1 hx.2 hfk.1 hfk.2
   rw[aT ω,aq,a6 ω ω,aq,aJ,ho,ar,dX (x:=(p:Int)) ω,av,aq,ar,cQ,cond_not,aN,R9 h]
   by_cases h1:sV (K.getD p (0,0)) k
   ·rw[aj (Ay.2 h1),aj h1,ay (x:=(p:Int)+1) ω ω,ag p,AA h]
    refine af1 N C hs hl hf x k hxk hx hz len i hi (m-1) n (p+1) ω ω ω λy hy=> ?_
    rw[←pT h]at hy
    rcases a8.1 hy with hy|hy
    ·exact hb y hy
    ·rw[aU,bk h]at h1
     rw[bW.1 hy];exact h1
   ·rw[ah (λh=>h1 (Ay.1 h)),ah h1]
    by_cases h2:K.getD p (0,0)=k
    ·rw[aj (xC.2 h2),aj h2,gi]
    ·rw[ah (λh=>h2 (xC.1 h)),ah h2,D1 N (by rw[eo];omega) (by rw[eo];omega),ar]
     have Bc:=hz (uH hs hb (Sa hs h h1 h2))
     have e:=uG l K p k
     rw[←xD Bc]at e
     refine Eq.trans ?_ (fj (λR=>C E R S len ((i+1:Nat):Int)) e)
     exact fj (λz:da=>C E ((rowsOf l K).take p++z::(rowsOf l K).drop p) S len ((i+1:Nat):Int)) ex
  ·have hd:K.drop p=[]:=vF ω
   rw[aP ω,av,dW ω,aq,D1 N (by rw[eo];omega) (by rw[eo];omega),ar]
   have Bc:=hz (uH hs hb (by rw[hd];exact λx hx=>nomatch hx))
   have e:=uG l K p k
   rw[←xD Bc]at e
   have e2:wV k (K.drop p)=k::K.drop p:=by rw[hd];rfl
   rw[e2]
   refine Eq.trans ?_ (fj (λR=>C E R S len ((i+1:Nat):Int)) e)
   exact fj (λz:da=>C E ((rowsOf l K).take p++z::(rowsOf l K).drop p) S len ((i+1:Nat):Int)) ex
theorem T2(N:Nat)(hN:2000000≤N){l E:au}(hq:BH E)(hE:E.length≤400)(hp: ∀x∈E,Az (keyOf x))(hs:sC (l.map keyOf))(hl:l.length≤90000)(WL:dS l)(II: ∀x∈l,Az (keyOf x)):
  cq.wQ N N (E.map jS) l (E.map jS) ((E.map jS).length:Int) 0=uE (eg aD (fS l E) (nq (l.map keyOf) E)):=by
 have:=oe E bl (λn i K=>cq.wQ N n (E.map jS) (rowsOf l K) (E.map jS) ((E.map jS).length:Int) i) (λt K=>uE (eg aD (fS l E) (nq K t)))
  (λi (K:List cW)=>K.length≤l.length+i∧sC K∧(∀k∈K,Az k)∧ ∀x∈l,keyOf x∈K)
  (λn i K hi hI hr=> ?_) (λn K hI=> ?_) E.length N 0 (l.map keyOf) ω ω ω ⟨by rw[ct];omega,hs,λk hk=>by
   obtain⟨x,hx,rfl⟩:=cA.1 hk
   exact II x hx,λx hx=>eL hx⟩
 ·rw[show((0:Nat):Int)=0 from rfl,cZ]at this
  simp only[mD hs]at this
  exact this
 ·unfold cq.wQ cq.vw
  obtain⟨h1,h2,h3,h4⟩:=hI
  have hm:E.getD i bl∈E:=by
   rw[aU,bk hi];exact dB hi
  rw[aT (by rw[ct];omega),aq,a6 ω (by rw[ct];omega),aq,aJ,KB]
  refine(af1 N _ h2 ω h3 (jS (E.getD i bl)) (keyOf (E.getD i bl)) rfl (hp _ hm) (λhk=>gu λhx=>hk (by
   obtain⟨x,hx,e⟩:=cA.1 hx
   rw[←e];exact h4 x hx)) ((E.map jS).length:Int) i ω K.length N 0 ω ω ω (λy hy=>nomatch hy)).trans ?_
  rw[oS,cJ,cZ,sD]
  refine hr (wV (keyOf (E.getD i bl)) K) ⟨cm (FF _ K) ω,Aw h2,λk hk=>(rf.1 hk).elim (λe=>e▸hp _ hm) (h3 k),λx hx=>rf.2 (Or.inr (h4 x hx))⟩
 ·unfold cq.wQ cq.vw
  obtain⟨h1,h2,h3,h4⟩:=hI
  rw[aP (by rw[ct];omega),av,eo,cM ω ω ω,aq]
  have:=T0 N hN (l:=l) (R:=rowsOf l K) hq ω (by rw[eo];omega) (λr hr=>by
   unfold rowsOf at hr
   obtain⟨k,hk,rfl⟩:=cA.1 hr
   refine⟨?_,rfl⟩
   show aD (bP k.1 k.2 l)
   by_cases hkl:k∈l.map keyOf
   ·have e:rowsOf l (l.map keyOf)=l:=mD hs
    have hm:DB l k∈rowsOf l (l.map keyOf):=eL hkl
    rw[e]at hm
    exact WL (DB l k) hm
   ·rw[gu hkl];exact⟨δ,δ⟩)
  rw[CO,eo]at this
  exact this
theorem ot{l:au}(h:eA l=true):sC (l.map keyOf)∧(∀x∈l,cN x.1 x.2.1):=by
 unfold eA at h
 rw[fX]at h
 have h':=bz h
 have get: ∀(i:Nat) (hi:i<l.length),l.getD i bl=l[i]:=λi hi=>by rw[aU,bk hi];rfl
 have WM: ∀i,i+1<l.length→sV (keyOf (l.getD i bl)) (keyOf (l.getD (i+1) bl)):=λi hi=>(h' (i+1) hi).2.2 ω
 have e9: ∀j,j<l.length→ ∀i,i<j→sV (keyOf (l.getD i bl)) (keyOf (l.getD j bl)):=by
  intro j
  induction j with
  |zero=>intro _ i hi;omega
  |succ j ih=>
   intro hj i hi
   by_cases e:i=j
   ·rw[e];exact WM j hj
   ·exact xB (ih ω i ω) (WM j hj)
 refine⟨?_,λx hx=> ?_⟩
 ·refine zx.2 (tX.2 λi j hi hj pN=> ?_)
  have:=e9 j hj i pN
  rw[get i hi,get j hj]at this
  exact this
 ·obtain⟨i,hi,e⟩:=gj hx
  have:=h' i hi
  unfold lC mc at this
  rw[get i hi,e]at this
  exact this.1
structure WR(E:au):Prop where
 key: ∀x∈E,cN x.1 x.2.1
 q:BH E
 len:E.length≤400
 zero:(E.map dY).sum=0
theorem Sc{x:da}(h:cN x.1 x.2.1):Az (keyOf x):=by
 have h':cN (keyOf x).1 (keyOf x).2:=h
 unfold cN at h'
 unfold Az HE
 omega
theorem WS(N:Nat)(hN:2000000≤N){l E:au}(hk:eA l=true)(hl:l.length≤90000)(WL:dS l)(g:WR E):cq N l (E.map jS)=uE (eg aD (fS l E) (nq (l.map keyOf) E)):=by
 obtain⟨hs,II⟩:=ot hk
 have hE:=g.len
 unfold cq cq.b
 rw[DZ N ω ω,hk,ar,bn,av,aP (by rw[ct];omega),av,cM ω ω (by rw[ct];omega),aq]
 have:=oe E bl (λn i (ws:List Int)=>cq.l5 N n l (E.map jS) (ws.map dP) (E.map jS) ((E.map jS).length:Int) i)
  (λt ws=>if(ws++t.map dY).sum=0 then uE (eg aD (fS l E) (nq (l.map keyOf) E))else none)
  (λj (ws:List Int)=>ws.length≤j∧(ws++(E.drop j).map dY).sum=0∧ ∀x∈ws,dm x)
  (λn i ws hi hI hr=> ?_) (λn ws hI=> ?_) E.length N 0 [] ω ω ω ⟨aG _,g.zero,λx hx=>nomatch hx⟩
 ·rw[show((0:Nat):Int)=0 from rfl,cZ]at this
  refine Eq.trans this ?_
  rw[cJ,aj g.zero]
 ·unfold cq.l5 cq.ed
  have hm:E.getD i bl∈E:=by
   rw[aU,bk hi];exact dB hi
  have Ts:Qj N (jS (E.getD i bl)).1 (jS (E.getD i bl)).2.1=some true:=by
   rw[Qi]
   exact fj some (bu (g.key _ hm))
  rw[aT (by rw[ct];omega),aq,a6 ω (by rw[ct];omega),aq,aJ,KB,Ts,ar,bn,av,bL (by rw[ct,aI];omega),aq,ay (x:=(i:Int)+1) ω ω,ag i]
  have h0:=hI.2.1
  rw[drop_cons hi bl,bX]at h0
  have:=hr (ws++[dY (E.getD i bl)]) ⟨by rw[aS,aI];omega,by rw[bt];exact h0,rj hI.2.2 (KC g.q i)⟩
  rw[cY]at this
  refine this.trans ?_
  rw[bt];rfl
 ·unfold cq.l5 cq.ed
  have h0:=hI.2.1
  rw[mU,ja,ch]at h0
  rw[aP (by rw[ct];omega),av,DY N hI.2.2 ω ω,ar,h0]
  have e0:Fu 0=(dP 0,true):=by unfold Fu;exact aj ⟨δ,δ⟩
  rw[e0]
  dsimp only
  rw[bn,av,As,ar,show vv 0=0 from rfl,dW rfl,bn,av,wX N ω,ar]
  rw[ja,ch,aj h0]
  exact T2 N hN g.q hE (λx hx=>Sc (g.key x hx)) hs hl WL (λx hx=>Sc (II x hx))
end VM
end
section
namespace VM
open Go VM.F
def gY(r:da):ahP:=(r.1,(r.2.1,(cS (dY r),())))
theorem WT{E:au}{i:Nat}(h:i<E.length):(E.map gY).getD i ((0:Int),((0:Int),((false,pq),())))=gY (E.getD i bl):=by
 rw[aU,pV,bk h,aU,bk h];rfl
theorem KE{v:Int}{n:Nat}(hn:n≤1000000)(h0: -(170141183460469231731687303715884105728*(n:Int))≤v)(h1:v≤170141183460469231731687303715884105728*(n:Int)):Fit v 900000:=by
 have h5:Fit v 5:=by
  unfold Fit
  rw[show(4294967296:Nat)^5=1461501637330902918203684832716283019655932542976 from rfl]
  omega
 exact h5.mono ω
theorem AE{v:Int}(h:dm v):Fit v 900000:=KE (n:=1) ω (by have:=h.1;omega) (by have:=h.2;omega)
theorem T3(N:Nat)(hN:4000000≤N){E:au}(hq:BH E)(hl:E.length≤100000)(q a b:Int)(hF:aD q):ns N q a b (E.map gY)=some (BA (q+bP a b E)):=by
 unfold ns ns.b
 have:=oe E bl (λn j ws=>ns.l3 N n q a b (E.map gY) (cS ws.sum) (!ws.isEmpty) j)
  (λt ws=>some (BA (q+(ws++dd a b t).sum)))
  (λj (ws:List Int)=>ws.length≤j∧ ∀x∈ws,dm x)
  (λn j ws hj hI eM=> ?_) (λn ws hI=> ?_) E.length N 0 [] ω ω ω ⟨aG _,λx hx=>nomatch hx⟩
 ·rw[show((0:Nat):Int)=0 from rfl,cZ,iC,iH]at this
  exact this
 ·unfold ns.l3 ns.nO
  have Qy:=KC hq j
  have hb:=Kr hI.2
  have Ho:yR N (cS ws.sum) (gY (E.getD j bl)).2.2.1=some (cS (ws.sum+dY (E.getD j bl))):=iA N ω (KE (n:=ws.length) ω hb.1 hb.2) (AE Qy)
  rw[aT (by rw[ct];omega),aq,a6 ω (by rw[ct];omega),aq,aq,aq,aJ,WT hj,Ho,ar,ay (x:=(j:Int)+1) ω ω,ag j,aN,aN]
  by_cases h1:(E.getD j bl).1=a
  ·by_cases h2:(E.getD j bl).2.1=b
   ·have hc:dd a b (E.getD j bl::E.drop (j+1))=dY (E.getD j bl)::dd a b (E.drop (j+1)):=by rw[eJ,aj ⟨h1,h2⟩]
    rw[aj (show(gY (E.getD j bl)).1=a from h1),aj (show(gY (E.getD j bl)).2.1=b from h2),hc]
    have:=eM (ws++[dY (E.getD j bl)]) ⟨by rw[aS,aI];omega,rj hI.2 Qy⟩
    rw[lQ,cw,iC,fY,bt]at this
    refine Eq.trans ?_ this
    rw[show(!(ws++[dY (E.getD j bl)]).isEmpty)=true by cases ws<;>rfl]
   ·have hc:dd a b (E.getD j bl::E.drop (j+1))=dd a b (E.drop (j+1)):=by rw[eJ,ah (λh=>h2 h.2)]
    rw[aj (show(gY (E.getD j bl)).1=a from h1),ah (show ¬(gY (E.getD j bl)).2.1=b from h2),hc]
    exact eM ws ⟨ω,hI.2⟩
  ·have hc:dd a b (E.getD j bl::E.drop (j+1))=dd a b (E.drop (j+1)):=by rw[eJ,ah (λh=>h1 h.1)]
   rw[ah (show ¬(gY (E.getD j bl)).1=a from h1),hc]
   exact eM ws ⟨ω,hI.2⟩
 ·unfold ns.l3 ns.nO
  have hs:=Kr hI.2
  have R4:=hF
  unfold aD at R4
  rw[aP (by rw[ct];omega),av,cP N ω R4.1 R4.2,ar,iA N ω (KE (n:=ws.length) ω hs.1 hs.2) ((Fit.i64 R4.1 R4.2).mono ω),ar,q3,ar,cond_not]
  show _=some (BA (q+(ws++[]).sum))
  rw[ch,EC ws.sum q]
  cases ws with
  |nil=>
   show some (q,true)=some (BA (q+0))
   rw[fY,nr hF]
  |cons w ws=>rfl
theorem aan{l:au}(hs:sC (l.map keyOf))(hl:dS l)(k:cW):aD (bP k.1 k.2 l):=by
 by_cases hk:k∈l.map keyOf
 ·have hm:DB l k∈rowsOf l (l.map keyOf):=eL hk
  rw[mD hs]at hm
  exact hl (DB l k) hm
 ·rw[gu hk];exact⟨δ,δ⟩
theorem Nw(N:Nat)(hN:4000000≤N)(C:dv.bS){l E:au}(hq:BH E)(hl:E.length≤100000)(hs:sC (l.map keyOf))(G9:l.length≤100000)(hf:dS l)(hw: ∀x∈l,0≤(keyOf x).2∧(keyOf x).2<(25:Nat))(a:Nat)(ha:a≤24)(G:List cW)
  (hc: ∀(p:Nat) (out:au),Mark l (a+1) 0 p→out.length≤25*(a+1)→C l (E.map gY) out (p:Int) ((a+1:Nat):Int)=vy out (eg aD (fS l E) G)):
  ∀(m n b p:Nat) (out:au),b+m=25→m<n→Mark l a b p→out.length≤25*a+b→dv.l7 N C n l (E.map gY) out (p:Int) (a:Int) (b:Int)=vy out (eg aD (fS l E) (AB a b m++G))
 |m,0,b,p,out,_,hn,_,_=>ω
 |0,n+1,b,p,out,hb,_,hM,ho=>by
  have e:b=25:=ω
  subst e
  unfold dv.l7 dv.q4
  rw[fp ω,av,ay (x:=(a:Int)+1) ω ω,ag a]
  exact hc p out (hM.row hw) ω
 |m+1,n+1,b,p,out,hb,hn,hM,ho=>by
  have hp:=hM.le
  have ahM: ∀(p:Nat) (v:Int),Mark l a (b+1) p→dv.l7 N C n l (E.map gY) (if v=0 then out else out++[((a:Int),((b:Int),(v,())))]) (p:Int) (a:Int) ((b+1:Nat):Int)=vy (if v=0 then out else out++[((a:Int),((b:Int),(v,())))]) (eg aD (fS l E) (AB a (b+1) m++G)):=λp v h=>
   Nw N hN C hq hl hs G9 hf hw a ha G hc m n (b+1) p _ ω ω h (by
    split
    ·omega
    ·rw[aS,aI];omega)
  have xu:=aan hs hf ((a:Int),(b:Int))
  unfold dv.l7 dv.q4
  show _=vy out (eg aD (fS l E) (((a:Int),(b:Int))::(AB a (b+1) m++G)))
  rw[fG (x:=(b:Int)) ω,aq,cQ,aN,aN,aJ]
  have fin: ∀(p:Nat) (q:Int),q=bP (a:Int) (b:Int) l→Mark l a (b+1) p→dv.Sb N C (dv.l7 N C n) l (E.map gY) out (p:Int) (a:Int) (b:Int) q=vy out (eg aD (fS l E) (((a:Int),(b:Int))::(AB a (b+1) m++G))):=λp q e h=>by
   subst e
   unfold dv.Sb dv.KA
   rw[T3 N hN hq hl _ _ _ xu,ar]
   refine Eq.trans ?_ (IK (k:=((a:Int),(b:Int))) (v:=bP (a:Int) (b:Int) l+bP (a:Int) (b:Int) E) rfl)
   generalize bP (a:Int) (b:Int) l+bP (a:Int) (b:Int) E=v
   have hr:=ahM p v h
   by_cases hv:aD v
   ·rw[nr hv,aj hv]
    dsimp only
    rw[bn,av,cond_not,aN,bL (by rw[aI];omega),aq,ay (x:=(b:Int)+1) ω ω,ag b,←hr]
    split<;>rfl
   ·rw[uF hv,ah hv];rfl
  rcases hM.step hs with⟨h1,h2,h3,h4,h5⟩|⟨h1,h2,h3⟩
  ·rw[aj (show(p:Int)<(l.length:Int)by omega),a6 ω ω,aq,aq,aj h2,aj h3,ay (x:=(p:Int)+1) ω ω,ag p,aq]
   exact fin (p+1) _ h4.symm h5
  ·by_cases g1:p<l.length
   ·rw[aj (show(p:Int)<(l.length:Int)by omega),a6 ω ω,aq,aq]
    by_cases g2:(l.getD p bl).1=(a:Int)
    ·rw[aj g2,ah (λg3=>h1 g1 g2 g3)]
     exact fin p _ h2.symm h3
    ·rw[ah g2]
     exact fin p _ h2.symm h3
   ·rw[ah (show ¬(p:Int)<(l.length:Int)by omega)]
    exact fin p _ h2.symm h3
theorem Nx(N:Nat)(hN:4000000≤N){l E:au}(hq:BH E)(hl:E.length≤100000)(hs:sC (l.map keyOf))(G9:l.length≤100000)(hf:dS l)(hw: ∀x∈l,0≤(keyOf x).2∧(keyOf x).2<(25:Nat)):
  ∀(m n a p:Nat) (out:au),a+m=8→m<n→Mark l a 0 p→out.length≤25*a→dv.l4 N n l (E.map gY) out (p:Int) (a:Int)=vy out (eg aD (fS l E) (yv 25 a m))
 |m,0,a,p,out,_,hn,_,_=>ω
 |0,n+1,a,p,out,ha,_,hM,ho=>by
  unfold dv.l4 dv.ei
  rw[fp ω,av]
  show some (out,true)=some (out++[],true)
  rw[ch]
 |m+1,n+1,a,p,out,ha,hn,hM,ho=>by
  unfold dv.l4 dv.ei
  rw[fG ω,aq]
  exact Nw N hN _ hq hl hs G9 hf hw a ω (yv 25 (a+1) m) (λp out h ho=>Nx N hN hq hl hs G9 hf hw m n (a+1) p out ω ω h ho) 25 N 0 p out ω ω hM ω
def nu:List cW:=yv 25 1 7
theorem Sd(N:Nat)(hN:4000000≤N){l E:au}(hk:eA l=true)(hl:l.length≤90000)(WL:dS l)(hq:BH E)(hE:E.length≤100000):dv N l (E.map gY)=vy [] (eg aD (fS l E) nu):=by
 obtain⟨hs,II⟩:=ot hk
 unfold dv dv.b
 refine Nx N hN hq hE hs ω WL (λx hx=> ?_) 7 N 1 0 [] ω ω ⟨ω,λx hx=>(nomatch hx),λx hx e9=> ?_⟩ (by simp)
 ·have h:cN (keyOf x).1 (keyOf x).2:=II x hx
  unfold cN at h;omega
 ·have h:cN (keyOf x).1 (keyOf x).2:=II x (mS hx)
  unfold cN at h
  have wm:(keyOf x).1<((1:Nat):Int)∨((keyOf x).1=((1:Nat):Int)∧(keyOf x).2<((0:Nat):Int)):=e9
  omega
theorem WU{l E:au}(hk:eA l=true)(hp: ∀x∈E,cN x.1 x.2.1):eg aD (fS l E) (nq (l.map keyOf) E)=eg aD (fS l E) nu:=by
 obtain⟨hs,II⟩:=ot hk
 refine Ns ⟨δ,δ⟩ (yY hs) (oq 25 7 1) (λk hk=> ?_) (λk hk hn=> ?_)
 ·have:cN k.1 k.2:=by
   rcases mj.1 hk with h|⟨x,hx,rfl⟩
   ·obtain⟨x,hx,rfl⟩:=cA.1 h
    exact II x hx
   ·exact hp x hx
  unfold cN at this
  exact om.2 ω
 ·have h1:k∉l.map keyOf:=λh=>hn (mj.2 (Or.inl h))
  have h2:k∉E.map keyOf:=λh=>by
   obtain⟨x,hx,e⟩:=cA.1 h
   exact hn (mj.2 (Or.inr ⟨x,hx,e⟩))
  unfold fS
  rw[gu h1,gu h2];rfl
def eu(b:an)(s e:au):an×Int:=
 match eg Fq (fS b.2.2.2.1 s) jA with
 |none=>((ck,(c8,(bG,(bG,(dC,(dQ,())))))),2)
 |some s'=>match eg aD (fS b.2.2.1 e) nu with
  |none=>((ck,(c8,(bG,(bG,(dC,(dQ,())))))),2)
  |some r'=>((b.1,(b.2.1,(r',(s',b.2.2.2.2)))),0)
theorem WV(N:Nat){b:an}(w:gN b):aao N b=some b:=by
 unfold aao
 have h1:=w.m;have h2:=w.a;have h3:=w.r;have h4:=w.s;have h5:=w.p;have h6:=w.o
 rw[wX N ω,ar,wX N ω,ar,wX N ω,ar,wX N ω,ar,wX N ω,ar,wX N ω,ar]
end VM
end
