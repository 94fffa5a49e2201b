/- A part of the proof of WindTwice of layer 21: what the functions compute, in plain words. -/
import Derived.Test.YtecmobijochjkaaGreatPlain1
set_option linter.all false
section
namespace VM
open Go VM.F
theorem wP(N:Nat)(hN:200000≤N)(c:ae){l:aD}(hl:l.length≤100000):nr N c l=some (mj c l):=by
 unfold nr nr.b
 rw[ni N ω,ar]
 have hsc:=iq (F:=λn i=>nr.l4 N n l c i) (e:=true) (nq c l) (λn i r hi hp hr=> ?_) (λn=> ?_) N (show l.length<N by omega)
 ·rw[o9 hsc];unfold mj
  rw[fF,Bool.and_comm]
 ·unfold nr.l4 nr.dw
  rw[aT ω,ak,aX ω ω,ak,aJ,ax (x:=(i:Int)+1) ω ω,ag,hr]
  by_cases h0:0<i
  ·have e:W .i64 ((i:Int)-1)=((i-1:Nat):Int):=by rw[ax ω ω];omega
   dsimp only
   rw[aT (x:=0) (y:=(i:Int)) ω,e,aJ,aX (i:=((i-1:Nat):Int)) ω ω]
   simp only[cP,cG,aN,ak]
   by_cases hP:nq c l i
   ·rw[aj hP];unfold nq np at hP
    rw[ah ω,ah ω,ah hP.2.2.1,ah (show ¬((l.getD i cA).2.1:Int)= -9223372036854775808 from hP.2.2.2.1),ah ω]
   ·rw[ah hP];unfold nq np at hP
    have h2:=λh1 h2 h3 h4 h5=>hP ⟨h1,h2,h3,h4,h5⟩
    repeat' split
    all_goals first|rfl|(exfalso;exact h2 ω ω (by assumption) (by assumption) ω)
  ·rw[aP (x:=0) (y:=(i:Int)) ω]
   simp only[cP,cG,aN,ak,av]
   by_cases hP:nq c l i
   ·rw[aj hP];unfold nq np at hP
    rw[ah ω,ah ω,ah hP.2.2.1,ah (show ¬((l.getD i cA).2.1:Int)= -9223372036854775808 from hP.2.2.2.1)]
   ·rw[ah hP];unfold nq np at hP
    have h2:=λh1 h2 h3 h4 h5=>hP ⟨h1,h2,h3,h4,h5⟩
    repeat' split
    all_goals first|rfl|(exfalso;exact h2 ω ω (by assumption) (by assumption) ω)
 ·unfold nr.l4 nr.dw
  rw[aP ω,av]
end VM
end
section
namespace VM
open Go VM.F
def Kt(a b c d:Int):Prop:=(1≤a∧a≤1099511627776)∧(1≤b∧b≤1099511627776)∧(1≤c∧c≤12)∧(-1152921504606846976≤d∧d≤1152921504606846976)
instance(a b c d:Int):Decidable (Kt a b c d):=by unfold Kt;infer_instance
def Iz(x:bO):Prop:=Kt x.1 x.2.1 x.2.2.1 x.2.2.2.1
instance(x:bO):Decidable (Iz x):=by unfold Iz;infer_instance
theorem Sd(N:Nat)(x:bO):WM N x=some (decide (Iz x)):=by
 unfold WM
 rw[nZ x.2.2.2.1]
 repeat rw[gD]
 congr 1
 rw[oT,ff]
 unfold Iz Kt
 simp only[bR,vH]
 omega
end VM
end
section
namespace VM
open Go VM.F
def ra(m lot:Int)(x:bO):Bool:=decide (dx x.2.2.1 m)&&decide (dx x.2.1 lot)
end VM
end
section
namespace VM
open Go VM.F
def Ap(l:aK)(i:Nat):Prop:=Iz (l.getD i aV)∧tC i (l.getD (i-1) aV).1 (l.getD i aV).1∧(l.take i).any (ra (l.getD i aV).2.2.1 (l.getD i aV).2.1)=false
instance(l:aK):DecidablePred (Ap l):=λi=>by unfold Ap;infer_instance
def WN(l:aK):Bool:=decide (∀j,j<l.length→Ap l j)&&decide (l.length≤40)
end VM
end
section
namespace VM
open Go VM.F
def de(a b:Int):au→List Int
 |[]=>[]
 |x::t=>if x.1=a∧x.2.1=b then dU x::de a b t else de a b t
theorem eK(a b:Int)(x:db)(t:au):de a b (x::t)=if x.1=a∧x.2.1=b then dU x::de a b t else de a b t:=rfl
def bP(a b:Int)(l:au):Int:=(de a b l).sum
theorem kP(a b:Int):bP a b []=0:=rfl
theorem eo(a b:Int)(x:db)(t:au):bP a b (x::t)=(if x.1=a∧x.2.1=b then dU x else 0)+bP a b t:=by
 unfold bP
 rw[eK]
 split
 ·rw[cy]
 ·omega
theorem kq{a b:Int}: ∀{l:au},(∀x∈l,¬(x.1=a∧x.2.1=b))→bP a b l=0
 |[],_=>rfl
 |x::t,h=>by
  rw[eo,ah (h x (bk ..)),kq (λy hy=>h y (aZ _ hy))];rfl
abbrev cW:=Int×Int
def sV(x y:cW):Prop:=kW x.1 x.2 y.1 y.2
instance(x y:cW):Decidable (sV x y):=by unfold sV;infer_instance
def keyOf(x:db):cW:=(x.1,x.2.1)
def sC(K:List cW):Prop:=K.Pairwise sV
theorem ns{x:cW}(h:sV x x):False:=by unfold sV kW at h;omega
theorem IA{x y:cW}(h:sV x y)(k:sV y x):False:=by unfold sV kW at*;omega
theorem xz{x y z:cW}(h:sV x y)(k:sV y z):sV x z:=by unfold sV kW at*;omega
theorem Se(x y:cW):sV x y∨x=y∨sV y x:=by
 have:(x.1=y.1∧x.2=y.2)→x=y:=λh=>gS h.1 h.2
 unfold sV kW
 by_cases h1:x.1=y.1
 ·by_cases h2:x.2=y.2
  ·exact Or.inr (Or.inl (this ⟨h1,h2⟩))
  ·omega
 ·omega
theorem Sf: ∀{a b:List cW},sC a→sC b→(∀x,x∈a↔x∈b)→a=b
 |[],[],_,_,_=>rfl
 |[],y::t,_,_,h=>nomatch (h y).2 (bk ..)
 |x::s,[],_,_,h=>nomatch (h x).1 (bk ..)
 |x::s,y::t,ha,hb,h=>by
  obtain⟨ha1,ha2⟩:=eh.1 ha
  obtain⟨my,tS⟩:=eh.1 hb
  have Za:x=y:=by
   rcases aW.1 ((h x).1 (bk ..))with e|e
   ·exact e
   ·rcases aW.1 ((h y).2 (bk ..))with f|f
    ·exact f.symm
    ·exact(IA (ha1 y f) (my x e)).elim
  subst Za
  rw[Sf ha2 tS λz=>⟨λhz=> ?_,λhz=> ?_⟩]
  ·rcases aW.1 ((h z).1 (aZ _ hz))with e|e
   ·subst e;exact(ns (ha1 z hz)).elim
   ·exact e
  ·rcases aW.1 ((h z).2 (aZ _ hz))with e|e
   ·subst e;exact(ns (my z hz)).elim
   ·exact e
def dP(P:Int→Prop) [DecidablePred P](f:Int→Int→Int):List cW→Option au
 |[]=>some []
 |k::t=>if P (f k.1 k.2)then(dP P f t).map (λo=>if f k.1 k.2=0 then o else(k.1,(k.2,(f k.1 k.2,())))::o)else none
theorem jz(P:Int→Prop) [DecidablePred P](f:Int→Int→Int)(k:cW)(t:List cW):dP P f (k::t)=if P (f k.1 k.2)then(dP P f t).map (λo=>if f k.1 k.2=0 then o else(k.1,(k.2,(f k.1 k.2,())))::o)else none:=rfl
theorem CF{P:Int→Prop} [DecidablePred P](h0:P 0){f:Int→Int→Int}(p:cW→Bool): ∀{K:List cW},(∀k∈K,p k=false→f k.1 k.2=0)→dP P f (K.filter p)=dP P f K
 |[],_=>rfl
 |k::t,h=>by
  have ih:=CF h0 p (K:=t) (λx hx=>h x (aZ _ hx))
  cases hp:p k
  ·rw[List.filter_cons_of_neg (by rw[hp];decide),ih,jz,h k (bk ..) hp,aj h0]
   simp
  ·rw[List.filter_cons_of_pos hp,jz,jz,ih]
theorem Nl{P:Int→Prop} [DecidablePred P](h0:P 0){f:Int→Int→Int}{K G:List cW}(hK:sC K)(hG:sC G)(hs: ∀k∈K,k∈G)(hz: ∀k∈G,k∉K→f k.1 k.2=0):dP P f K=dP P f G:=by
 have e:K=G.filter (λk=>decide (k∈K)):=by
  refine Sf hK (vD List.filter_sublist hG) λx=> ?_
  rw[vL]
  exact⟨λh=>⟨hs x h,bs h⟩,λh=>bx h.2⟩
 rw[e]
 exact CF h0 _ λk hk hp=>hz k hk (of_decide_eq_false hp)
def wQ(k:cW):List cW→List cW
 |[]=>[k]
 |x::t=>if sV x k then x::wQ k t else if x=k then x::t else k::x::t
theorem rf{k x:cW}: ∀{K:List cW},x∈wQ k K↔x=k∨x∈K
 |[]=>by show x∈[k]↔_;simp
 |y::t=>by
  show x∈(if sV y k then y::wQ k t else if y=k then y::t else k::y::t)↔_
  split
  ·rw[aW,rf,aW]
   exact⟨λh=>h.elim (λe=>Or.inr (Or.inl e)) (λh=>h.elim Or.inl (λh=>Or.inr (Or.inr h))),λh=>h.elim (λe=>Or.inr (Or.inl e)) (λh=>h.elim Or.inl (λh=>Or.inr (Or.inr h)))⟩
  ·split
   ·rename_i e
    rw[←e]
    exact⟨Or.inr,λh=>h.elim (λe=>e▸bk ..) id⟩
   ·rw[aW]
theorem Aq{k:cW}: ∀{K:List cW},sC K→sC (wQ k K)
 |[],_=>eh.2 ⟨λ_ h=>(nomatch h),List.Pairwise.nil⟩
 |y::t,h=>by
  obtain⟨h1,h2⟩:=eh.1 h
  show sC (if sV y k then y::wQ k t else if y=k then y::t else k::y::t)
  split
  ·rename_i hy
   exact eh.2 ⟨λz hz=>(rf.1 hz).elim (λe=>e▸hy) (h1 z),Aq h2⟩
  ·rename_i hy
   split
   ·exact h
   ·rename_i he
    have hk:sV k y:=(Se y k).elim (λh=>absurd h hy) (λh=>h.elim (λh=>absurd h he) id)
    exact eh.2 ⟨λz hz=>(aW.1 hz).elim (λe=>e▸hk) (λhz=>xz hk (h1 z hz)),h⟩
def nu(K:List cW)(E:au):List cW:=E.foldl (λK x=>wQ (keyOf x) K) K
theorem sD(K:List cW)(x:db)(E:au):nu K (x::E)=nu (wQ (keyOf x) K) E:=rfl
theorem yV: ∀{E:au} {K:List cW},sC K→sC (nu K E)
 |[],_,h=>h
 |x::E,K,h=>by rw[sD];exact yV (Aq h)
theorem mq{k:cW}: ∀{E:au} {K:List cW},k∈nu K E↔(k∈K∨ ∃x∈E,keyOf x=k)
 |[],K=>by
  show k∈K↔_
  simp
 |x::E,K=>by
  rw[sD,mq,rf]
  constructor
  ·rintro((rfl|h)|⟨y,hy,e⟩)
   ·exact Or.inr ⟨x,bk ..,rfl⟩
   ·exact Or.inl h
   ·exact Or.inr ⟨y,aZ _ hy,e⟩
  ·rintro(h|⟨y,hy,e⟩)
   ·exact Or.inl (Or.inr h)
   ·rcases aW.1 hy with rfl|hy
    ·exact Or.inl (Or.inl e.symm)
    ·exact Or.inr ⟨y,hy,e⟩
theorem FF(k:cW): ∀K:List cW,(wQ k K).length≤K.length+1
 |[]=>aG _
 |y::t=>by
  show(if sV y k then y::wQ k t else if y=k then y::t else k::y::t).length≤_
  have:=FF k t
  split
  ·rw[aR,aR];omega
  ·split<;>rw[aR]<;>(try rw[aR])<;>omega
def rowsOf(l:au)(K:List cW):au:=K.map λk=>(k.1,(k.2,(bP k.1 k.2 l,())))
theorem mE{l:au}(h:sC (l.map keyOf)):rowsOf l (l.map keyOf)=l:=by
 have key: ∀(m:au),sC (m.map keyOf)→(∀x∈m,bP x.1 x.2.1 l=dU x)→rowsOf l (m.map keyOf)=m:=by
  intro m
  induction m with
  |nil=>intro _ _;rfl
  |cons x t ih=>
   intro hm hx
   have:=ih (eh.1 hm).2 (λy hy=>hx y (aZ _ hy))
   unfold rowsOf at*
   rw[bV,bV,this]
   congr 1
   show(x.1,(x.2.1,(bP x.1 x.2.1 l,())))=x
   rw[hx x (bk ..)];rfl
 refine key l h ?_
 clear key
 induction l with
 |nil=>intro x hx;nomatch hx
 |cons y t ih=>
  intro x hx
  obtain⟨h1,h2⟩:=eh.1 h
  have jB: ∀z∈t,¬(z.1=y.1∧z.2.1=y.2.1):=λz hz e=>by
   have hk:=h1 (keyOf z) (eM hz)
   have he:keyOf z=keyOf y:=gS e.1 e.2
   rw[he]at hk
   exact ns hk
  rw[eo]
  rcases aW.1 hx with rfl|hx
  ·rw[aj ⟨rfl,rfl⟩,kq jB];omega
  ·rw[ah (λe=>jB x hx ⟨e.1.symm,e.2.symm⟩),ih h2 x hx];omega
end VM
end
section
namespace VM
open Go VM.F
instance(x:Int):Decidable (aE x):=by unfold aE;infer_instance
def Fq(x:Int):Prop:=aE x∧p5 x
instance:DecidablePred Fq:=λx=>by unfold Fq;infer_instance
def uC(r:Option au):Option (au×Int):=some (match r with|some o=>(o,0)|none=>([],2))
def fS(l E:au)(a b:Int):Int:=bP a b l+bP a b E
theorem D0{α:Type}(N:Nat){l:List α}{i:Nat}{x:α}(hi:i≤l.length)(hl:l.length<1000000):pY N l (i:Int) [x]=some (l.take i++x::l.drop i):=by
 unfold pY
 rw[aj ⟨ω,ω,rfl,by unfold zG;omega⟩]
 rfl
theorem wT{α:Type}(N:Nat){l:List α}(hl:l.length≤1000000):n6 N l=some l:=by
 unfold n6
 rw[aj (by unfold zG;omega)]
theorem Ar(N:Nat){v:Int}(h:dn v):F92 N (dS v)=some (Bs v):=aaf N h.1 h.2
theorem nv{v:Int}(h:aE v):Bs v=(v,true):=by unfold Bs;exact aj h
theorem uD{v:Int}(h: ¬aE v):Bs v=(0,false):=by unfold Bs;exact ah h
theorem Bz{ws:List Int}{x:Int}(h: ∀y∈ws,aE y)(hx:aE x): ∀y∈ws++[x],aE y:=λy hy=>by
 rcases bb.1 hy with hy|hy
 ·exact h y hy
 ·rw[bW.1 hy];exact hx
theorem Nm(N:Nat){l:au}:aao N l=some l:=by
 unfold aao
 rw[dG ω ω ω ω,ak]
 simp
theorem WO(N:Nat)(hN:2000000≤N)(K:cn.IB){E out R:au}(hq:dy E)(hl:E.length≤100000)(ho:out.length≤1000000)(r:db)(hr:aE (dU r))(i:Nat)(hi:i≤1000000):
  cn.l27 N K N E out r [dS (dU r)] R (R.length:Int) (i:Int) E (E.length:Int) 0=
   if Fq (dU r+bP r.1 r.2.1 E)then K E (if dU r+bP r.1 r.2.1 E=0 then out else out++[(r.1,(r.2.1,(dU r+bP r.1 r.2.1 E,())))]) R (R.length:Int) ((i+1:Nat):Int)else some (bH,(2:Int)):=by
 have:=og E bh (λn j ws=>cn.l27 N K n E out r (ws.map dS) R (R.length:Int) (i:Int) E (E.length:Int) j)
  (λt ws=>if Fq (ws++de r.1 r.2.1 t).sum then K E (if(ws++de r.1 r.2.1 t).sum=0 then out else out++[(r.1,(r.2.1,((ws++de r.1 r.2.1 t).sum,())))]) R (R.length:Int) ((i+1:Nat):Int)else some (bH,(2:Int)))
  (λj (ws:List Int)=>ws.length≤j+1∧ ∀x∈ws,aE x)
  (λn j ws hj hI eO=> ?_) (λn ws hI=> ?_) E.length N 0 [dU r] ω ω ω ⟨aG _,λx hx=>by rw[bW.1 hx];exact hr⟩
 ·rw[show((0:Nat):Int)=0 from rfl,cZ]at this
  refine this.trans ?_
  have e:([dU r]++de r.1 r.2.1 E).sum=dU r+bP r.1 r.2.1 E:=by rw[El,cy];rfl
  rw[e]
 ·unfold cn.l27 cn.aap
  have nR:=yU hq j
  have iI:=nR
  unfold aE dU at iI
  rw[aT ω,ak,aX ω ω,ak,aJ,wH N iI.1 iI.2,ar,bL (by rw[cv,aI];omega),ak,ax (x:=(j:Int)+1) ω ω,ag,aN,aN]
  by_cases h1:(E.getD j bh).1=r.1
  ·by_cases h2:(E.getD j bh).2.1=r.2.1
   ·have hc:de r.1 r.2.1 (E.getD j bh::E.drop (j+1))=dU (E.getD j bh)::de r.1 r.2.1 (E.drop (j+1)):=by rw[eK,aj ⟨h1,h2⟩]
    rw[aj h1,aj h2,hc]
    have:=eO (ws++[dU (E.getD j bh)]) ⟨by rw[aS,aI];omega,Bz hI.2 nR⟩
    rw[cY]at this
    refine this.trans ?_
    rw[br];rfl
   ·have hc:de r.1 r.2.1 (E.getD j bh::E.drop (j+1))=de r.1 r.2.1 (E.drop (j+1)):=by rw[eK,ah (λh=>h2 h.2)]
    rw[aj h1,ah h2,hc]
    exact eO ws ⟨ω,hI.2⟩
  ·have hc:de r.1 r.2.1 (E.getD j bh::E.drop (j+1))=de r.1 r.2.1 (E.drop (j+1)):=by rw[eK,ah (λh=>h1 h.1)]
   rw[ah h1,hc]
   exact eO ws ⟨ω,hI.2⟩
 ·unfold cn.l27 cn.aap
  have hs:=Iy hI.2 ω
  rw[aP ω,av,Ko N hI.2 ω ω,ar]
  show _=if Fq (ws++[]).sum then K E (if(ws++[]).sum=0 then out else out++[(r.1,(r.2.1,((ws++[]).sum,())))]) R (R.length:Int) ((i+1:Nat):Int)else some (bH,(2:Int))
  rw[ch,Ar N hs,ar]
  by_cases h1:aE ws.sum
  ·rw[nv h1]
   dsimp only
   rw[a7,av,sy,ar,cond_not,gb,cond_not,aN,bL (by rw[aI];omega),ak,ax (x:=(i:Int)+1) ω ω,ag]
   by_cases h2:p5 ws.sum
   ·rw[aj h2,aj (show Fq ws.sum from⟨h1,h2⟩)]
    split<;>rfl
   ·rw[ah h2,ah (λh=>h2 h.2)]
  ·rw[uD h1,ah (λh=>h1 h.1)]
   rfl
theorem T3(N:Nat)(hN:2000000≤N){l E R:au}(hq:dy E)(hl:E.length≤100000)(hR:R.length≤200000)(hv: ∀r∈R,aE (dU r)∧dU r=bP r.1 r.2.1 l):
  cn.l23 N N E [] R (R.length:Int) 0=uC (dP Fq (fS l E) (R.map keyOf)):=by
 have:=og R bh (λn i out=>cn.l23 N n E out R (R.length:Int) i) (λt out=>uC ((dP Fq (fS l E) (t.map keyOf)).map (λo=>out++o))) (λi (out:au)=>out.length≤i)
  (λn i out hi hI hr=> ?_) (λn out hI=> ?_) R.length N 0 [] ω ω ω (aG _)
 ·rw[show((0:Nat):Int)=0 from rfl,cZ]at this
  refine this.trans ?_
  simp
 ·unfold cn.l23 cn.aar
  have hm:R.getD i bh∈R:=by
   rw[aU,bn hi];exact dB hi
  have VG:=hv _ hm
  have nR:=VG.1
  have iI:=nR
  unfold aE dU at iI
  rw[aT ω,ak,aX ω ω,ak,aJ,wH N iI.1 iI.2,ar]
  refine(WO N hN _ hq hl ω _ nR i ω).trans ?_
  rw[bV,jz]
  have ef:fS l E (keyOf (R.getD i bh)).1 (keyOf (R.getD i bh)).2=dU (R.getD i bh)+bP (R.getD i bh).1 (R.getD i bh).2.1 E:=by
   show bP _ _ l+bP _ _ E=_
   rw[VG.2];rfl
  rw[ef]
  generalize hS:dU (R.getD i bh)+bP (R.getD i bh).1 (R.getD i bh).2.1 E=v
  by_cases hF:Fq v
  ·rw[aj hF,aj hF,hr _ (by
    split
    ·omega
    ·rw[aS,aI];omega)]
   cases dP Fq (fS l E) ((R.drop (i+1)).map keyOf)with
   |none=>rfl
   |some o=>
    show uC (some _)=uC (some _)
    congr 2
    split
    ·rfl
    ·exact br _ _ _
  ·rw[ah hF,ah hF];rfl
 ·unfold cn.l23 cn.aar
  rw[aP ω,av,Nm,ar]
  show _=uC (some (out++[]))
  rw[ch];rfl
def Dw(l:au)(k:cW):db:=(k.1,(k.2,(bP k.1 k.2 l,())))
theorem et(l:au)(K:List cW):(rowsOf l K).length=K.length:=cv ..
theorem IC(l:au){K:List cW}{p:Nat}(h:p<K.length):(rowsOf l K).getD p bh=Dw l (K.getD p (0,0)):=by
 unfold rowsOf
 rw[aU,pW,bn h,aU,bn h];rfl
theorem uE(l:au)(K:List cW)(p:Nat)(k:cW):(rowsOf l K).take p++Dw l k::(rowsOf l K).drop p=rowsOf l (K.take p++k::K.drop p):=by
 unfold rowsOf
 rw[cY,bV,List.map_take,List.map_drop];rfl
theorem CG(l:au)(K:List cW):(rowsOf l K).map keyOf=K:=by
 unfold rowsOf
 rw[List.map_map]
 induction K with
 |nil=>rfl
 |cons k t ih=>rw[bV,ih];rfl
theorem As{k x:cW}:0<Bt k.1 k.2 x.1 x.2↔sV x k:=by
 unfold Bt sV kW;split<;>omega
theorem xA{k x:cW}:Bt k.1 k.2 x.1 x.2=0↔x=k:=by
 have:x=k↔x.1=k.1∧x.2=k.2:=⟨λh=>h▸⟨rfl,rfl⟩,λh=>gS h.1 h.2⟩
 rw[this]
 unfold Bt;split<;>omega
def Au(k:cW):Prop:=HB k.1∧HB k.2
theorem Sg{k:cW}{K:List cW}{p:Nat}(h:p<K.length):wQ k (K.drop p)=if sV (K.getD p (0,0)) k then K.getD p (0,0)::wQ k (K.drop (p+1))else if K.getD p (0,0)=k then K.drop p else k::K.drop p:=by
 rw[drop_cons h (0,0)];rfl
theorem Av{K:List cW}{p:Nat}(h:p<K.length)(t:List cW):K.take p++K.getD p (0,0)::t=K.take (p+1)++t:=by
 rw[←sf h,br,aU,bn h];rfl
def zeroAt(l:au)(K:List cW)(k:cW):Prop:=k∉K→bP k.1 k.2 l=0
theorem xB{l:au}{k:cW}(h:bP k.1 k.2 l=0):((k.1,(k.2,((0:Int),()))):db)=Dw l k:=by
 unfold Dw;rw[h]
theorem uF{k:cW}{K:List cW}{p:Nat}(hs:sC K)(hp: ∀x∈K.take p,sV x k)(h: ∀x∈K.drop p,sV k x):k∉K:=λhk=>by
 rw[←gg p K]at hk
 rcases bb.1 hk with hk|hk
 ·exact ns (hp k hk)
 ·exact ns (h k hk)
theorem Sh{k:cW}{K:List cW}{p:Nat}(hs:sC K)(h:p<K.length)(h1: ¬sV (K.getD p (0,0)) k)(h2:K.getD p (0,0)≠k): ∀x∈K.drop p,sV k x:=by
 have hk:sV k (K.getD p (0,0)):=(Se (K.getD p (0,0)) k).elim (λh=>absurd h h1) (λh=>h.elim (λh=>absurd h h2) id)
 have hd:sC (K.drop p):=vD (List.drop_sublist ..) hs
 rw[drop_cons h (0,0)]at hd ⊢
 intro x hx
 rcases aW.1 hx with rfl|hx
 ·exact hk
 ·exact xz hk ((eh.1 hd).1 x hx)
theorem agb(N:Nat)(C:cn.fX){l E S:au}{K:List cW}(hs:sC K)(hl:K.length≤100000)(hf: ∀k∈K,Au k)(x:db)(hx:Au (keyOf x))(hz:zeroAt l K (keyOf x))(len:Int)(i:Nat)(hi:i≤1000000):
  ∀(m n p:Nat),K.length-p≤m→m<n→p≤K.length→(∀y∈K.take p,sV y (keyOf x))→
   cn.wN N C n E (rowsOf l K) x (p:Int) S len (i:Int)=C E (rowsOf l (K.take p++wQ (keyOf x) (K.drop p))) S len ((i+1:Nat):Int)
 |m,0,p,_,hn,_,_=>ω
 |m,n+1,p,hm,hn,hp,hb=>by
  unfold cn.wN cn.vv cn.j18 cn.ahZ
  rw[et,ax (x:=(i:Int)+1) ω ω,ag i]
  by_cases h:p<K.length
  ·have hfk:=hf (K.getD p (0,0)) (by rw[aU,bn h];exact dB h)
   have ho:TU N x.1 x.2.1 ((rowsOf l K).getD p bh)=some (Bt (keyOf x).1 (keyOf x).2 (K.getD p (0,0)).1 (K.getD p (0,0)).2):=by
    rw[IC l h]
    exact Iw N hx.1 hx.2 hfk.1 hfk.2
   rw[aT ω,ak,aX ω ω,ak,aJ,ho,ar,ed (x:=(p:Int)) ω,av,ak,ar,cP,cond_not,aN,Sg h]
   by_cases h1:sV (K.getD p (0,0)) (keyOf x)
   ·rw[aj (As.2 h1),aj h1,ax (x:=(p:Int)+1) ω ω,ag p,Av h]
    refine agb N C hs hl hf x hx hz len i hi (m-1) n (p+1) ω ω ω λy hy=> ?_
    rw[←sf h]at hy
    rcases bb.1 hy with hy|hy
    ·exact hb y hy
    ·rw[aU,bn h]at h1
     rw[bW.1 hy];exact h1
   ·rw[ah (λh=>h1 (As.1 h)),ah h1]
    by_cases h2:K.getD p (0,0)=keyOf x
    ·rw[aj (xA.2 h2),aj h2,gg]
    ·rw[ah (λh=>h2 (xA.1 h)),ah h2,D0 N (by rw[et];omega) (by rw[et];omega),ar]
     have A5:=hz (uF hs hb (Sh hs h h1 h2))
     have e:=uE l K p (keyOf x)
     rw[←xB A5]at e
     exact fi (λR=>C E R S len ((i+1:Nat):Int)) e
  ·have hd:K.drop p=[]:=vC ω
   rw[aP ω,av,dX ω,ak,D0 N (by rw[et];omega) (by rw[et];omega),ar]
   have A5:=hz (uF hs hb (by rw[hd];exact λx hx=>nomatch hx))
   have e:=uE l K p (keyOf x)
   rw[←xB A5]at e
   have e2:wQ (keyOf x) (K.drop p)=keyOf x::K.drop p:=by rw[hd];rfl
   rw[e2]
   exact fi (λR=>C E R S len ((i+1:Nat):Int)) e
end VM
end
section
namespace VM
open Go VM.F
def ID(E:au)(i:Nat):Prop:=dx (c6 (i:Int) E).sum 0
instance(E:au):DecidablePred (ID E):=λi=>by unfold ID;infer_instance
theorem aas(N:Nat)(hN:2000000≤N)(K:gy.dd){E:au}(hq:dy E)(hl:E.length≤100000)(a:Nat)(ha:a<6):
  gy.l6 N K N E (a:Int) [] (a:Int) E (E.length:Int) 0=if(c6 (a:Int) E).sum=0 then K E ((a+1:Nat):Int)else some false:=by
 have:=og E bh (λn j ws=>gy.l6 N K n E (a:Int) (ws.map dS) (a:Int) E (E.length:Int) j)
  (λt ws=>if(ws++c6 (a:Int) t).sum=0 then K E ((a+1:Nat):Int)else some false)
  (λj (ws:List Int)=>ws.length≤j∧ ∀x∈ws,aE x)
  (λn j ws hj hI hr=> ?_) (λn ws hI=> ?_) E.length N 0 [] ω ω ω ⟨aG _,λx hx=>nomatch hx⟩
 ·rw[show((0:Nat):Int)=0 from rfl,cZ]at this
  exact this
 ·unfold gy.l6 gy.uu
  have nR:=yU hq j
  have iI:=nR
  unfold aE dU at iI
  rw[aT ω,ak,aX ω ω,ak,aJ,wH N iI.1 iI.2,ar,bL (by rw[cv,aI];omega),ak,ax (x:=(j:Int)+1) ω ω,ag j,aN]
  by_cases h1:(E.getD j bh).2.1=(a:Int)
  ·have hc:c6 (a:Int) (E.getD j bh::E.drop (j+1))=dU (E.getD j bh)::c6 (a:Int) (E.drop (j+1)):=by rw[dg,aj h1]
   rw[aj h1,hc]
   have:=hr (ws++[dU (E.getD j bh)]) ⟨by rw[aS,aI];omega,Bz hI.2 nR⟩
   rw[cY]at this
   refine this.trans ?_
   rw[br];rfl
  ·have hc:c6 (a:Int) (E.getD j bh::E.drop (j+1))=c6 (a:Int) (E.drop (j+1)):=by rw[dg,ah h1]
   rw[ah h1,hc]
   exact hr ws ⟨ω,hI.2⟩
 ·unfold gy.l6 gy.uu
  rw[aP ω,av,Ko N hI.2 ω ω,ar]
  show _=if(ws++[]).sum=0 then K E ((a+1:Nat):Int)else some false
  rw[ch,a7,av,An,ar,cond_not,aN,ax (x:=(a:Int)+1) ω ω,ag a]
  by_cases h:ws.sum=0
  ·rw[aj h,aj (kp.2 h)]
  ·rw[ah h,ah (λk=>h (kp.1 k))]
theorem WQ(N:Nat)(hN:2000000≤N){E:au}(hq:dy E)(hl:E.length≤100000):gy N E=some (decide (∀j,j<ko→ID E j)&&true):=by
 unfold gy gy.b
 refine iq (len:=ko) (F:=λn i=>gy.l2 N n E i) (ID E) (λn i r hi hp hr=> ?_) (λn=> ?_) N (by unfold ko;omega)
 ·unfold gy.l2 gy.gJ
  unfold ko at hi
  rw[aT ω,ak,aas N hN _ hq hl i hi,hr]
  unfold ID dx
  rfl
 ·unfold gy.l2 gy.gJ
  rw[aP (by unfold ko;omega),av]
structure WR(E:au):Prop where
 place: ∀x∈E,bD x.1 x.2.1
 q: ∀x∈E,aE (dU x)∧p5 (dU x)
 len:E.length≤400
 flat: ∀i:Int,(c6 i E).sum=0
theorem IE{x:db}(h:bD x.1 x.2.1):Au (keyOf x):=by
 have h':bD (keyOf x).1 (keyOf x).2:=h
 unfold bD at h'
 unfold Au HB
 omega
theorem gu{l:au}{k:cW}(h:k∉l.map keyOf):bP k.1 k.2 l=0:=kq λx hx e=>h (by
 have:keyOf x=k:=gS e.1 e.2
 rw[←this];exact eM hx)
theorem T4(N:Nat)(hN:2000000≤N){l E:au}(hq:dy E)(hE:E.length≤400)(hp: ∀x∈E,Au (keyOf x))(hs:sC (l.map keyOf))(hl:l.length≤90000)(WS:dy l)(IF: ∀x∈l,Au (keyOf x)):
  cn.nT N N E l E (E.length:Int) 0=uC (dP Fq (fS l E) (nu (l.map keyOf) E)):=by
 have:=og E bh (λn i K=>cn.nT N n E (rowsOf l K) E (E.length:Int) i) (λt K=>uC (dP Fq (fS l E) (nu K t)))
  (λi (K:List cW)=>K.length≤l.length+i∧sC K∧(∀k∈K,Au k)∧ ∀x∈l,keyOf x∈K)
  (λn i K hi hI hr=> ?_) (λn K hI=> ?_) E.length N 0 (l.map keyOf) ω ω ω ⟨by rw[cv];omega,hs,λk hk=>by
   obtain⟨x,hx,rfl⟩:=cD.1 hk
   exact IF x hx,λx hx=>eM hx⟩
 ·rw[show((0:Nat):Int)=0 from rfl,cZ]at this
  simp only[mE hs]at this
  exact this
 ·unfold cn.nT cn.mP
  obtain⟨h1,h2,h3,h4⟩:=hI
  have hm:E.getD i bh∈E:=by
   rw[aU,bn hi];exact dB hi
  rw[aT ω,ak,aX ω ω,ak,aJ]
  refine(agb N _ h2 ω h3 (E.getD i bh) (hp _ hm) (λhk=>gu λhx=>hk (by
   obtain⟨x,hx,e⟩:=cD.1 hx
   rw[←e];exact h4 x hx)) (E.length:Int) i ω K.length N 0 ω ω ω (λy hy=>nomatch hy)).trans ?_
  rw[oU,cJ,cZ,sD]
  refine hr (wQ (keyOf (E.getD i bh)) K) ⟨cm (FF _ K) ω,Aq h2,λk hk=>(rf.1 hk).elim (λe=>e▸hp _ hm) (h3 k),λx hx=>rf.2 (Or.inr (h4 x hx))⟩
 ·unfold cn.nT cn.mP
  obtain⟨h1,h2,h3,h4⟩:=hI
  rw[aP ω,av,et,cM ω ω ω,ak]
  have:=T3 N hN (l:=l) (R:=rowsOf l K) hq ω (by rw[et];omega) (λr hr=>by
   unfold rowsOf at hr
   obtain⟨k,hk,rfl⟩:=cD.1 hr
   refine⟨?_,rfl⟩
   show aE (bP k.1 k.2 l)
   by_cases hkl:k∈l.map keyOf
   ·have e:rowsOf l (l.map keyOf)=l:=mE hs
    have hm:Dw l k∈rowsOf l (l.map keyOf):=eM hkl
    rw[e]at hm
    exact WS (Dw l k) hm
   ·rw[gu hkl];exact⟨δ,δ⟩)
  rw[CG,et]at this
  exact this
theorem cU{l:au}(h:cz l=true):sC (l.map keyOf)∧(∀x∈l,bD x.1 x.2.1∧p5 (dU x)):=by
 unfold cz at h
 rw[fF]at h
 have h':=bx h
 have get: ∀(i:Nat) (hi:i<l.length),l.getD i bh=l[i]:=λi hi=>by rw[aU,bn hi];rfl
 have WT: ∀i,i+1<l.length→sV (keyOf (l.getD i bh)) (keyOf (l.getD (i+1) bh)):=λi hi=>(h' (i+1) hi).2.2.2 ω
 have e9: ∀j,j<l.length→ ∀i,i<j→sV (keyOf (l.getD i bh)) (keyOf (l.getD j bh)):=by
  intro j
  induction j with
  |zero=>intro _ i hi;omega
  |succ j ih=>
   intro hj i hi
   by_cases e:i=j
   ·rw[e];exact WT j hj
   ·exact xz (ih ω i ω) (WT j hj)
 refine⟨?_,λx hx=> ?_⟩
 ·refine zu.2 (tV.2 λi j hi hj pP=> ?_)
  have:=e9 j hj i pP
  rw[get i hi,get j hj]at this
  exact this
 ·obtain⟨i,hi,e⟩:=gh hx
  have:=h' i hi
  unfold lC mg at this
  rw[get i hi,e]at this
  exact⟨this.1,this.2.2.1⟩
theorem aat(N:Nat)(hN:2000000≤N){l E:au}(hk:cz l=true)(hl:l.length≤90000)(WS:dy l)(g:WR E):cn N l E=uC (dP Fq (fS l E) (nu (l.map keyOf) E)):=by
 obtain⟨hs,IF⟩:=cU hk
 have hE:=g.len
 unfold cn cn.b
 rw[wJ N ω ω,hk,ar,a7,av,aP ω,av]
 refine Aj E bh (λn i=>cn.l4 N n l E E (E.length:Int) i) (λ_=>uC (dP Fq (fS l E) (nu (l.map keyOf) E))) (λn i hi hr=> ?_) (λn=> ?_) N ω
 ·unfold cn.l4 cn.dw
  have hm:E.getD i bh∈E:=by
   rw[aU,bn hi];exact dB hi
  rw[aT ω,ak,aX ω ω,ak,aJ,DY,bs (g.place _ hm),ar,a7,av,sy,ar,
   bs (show p5 ((E.getD i bh).2.2.1)from(g.q _ hm).2),a7,av,ax (x:=(i:Int)+1) ω ω,ag i]
  exact hr
 ·unfold cn.l4 cn.dw
  have hf:gy N E=some true:=by
   rw[WQ N hN (λx hx=>(g.q x hx).1) ω,bs (p:= ∀j,j<ko→ID E j) (λj _=>g.flat (j:Int))];rfl
  rw[aP ω,av,hf,ar,a7,av,wT N ω,ar]
  exact T4 N hN (λx hx=>(g.q x hx).1) hE (λx hx=>IE (g.place x hx)) hs hl WS (λx hx=>IE (IF x hx).1)
end VM
end
section
namespace VM
open Go VM.F
def Aw(a b:Nat):Nat→List cW
 |0=>[]
 |m+1=>((a:Int),(b:Int))::Aw a (b+1) m
def yu(w a:Nat):Nat→List cW
 |0=>[]
 |m+1=>Aw a 0 w++yu w (a+1) m
theorem Ax{k:cW}{a:Nat}: ∀{m b:Nat},k∈Aw a b m↔k.1=a∧(b:Int)≤k.2∧k.2<(b+m:Nat)
 |0,b=>⟨λh=>(nomatch h),λh=>ω⟩
 |m+1,b=>by
  show k∈((a:Int),(b:Int))::Aw a (b+1) m↔_
  rw[aW,Ax]
  have:k=((a:Int),(b:Int))↔k.1=a∧k.2=b:=⟨λh=>h▸⟨rfl,rfl⟩,λh=>gS h.1 h.2⟩
  rw[this]
  omega
theorem ot{k:cW}{w:Nat}: ∀{m a:Nat},k∈yu w a m↔(a:Int)≤k.1∧k.1<(a+m:Nat)∧0≤k.2∧k.2<w
 |0,a=>⟨λh=>(nomatch h),λh=>ω⟩
 |m+1,a=>by
  show k∈Aw a 0 w++yu w (a+1) m↔_
  rw[bb,Ax,ot]
  omega
theorem Nn(a:Nat): ∀(m b:Nat),sC (Aw a b m)
 |0,b=>List.Pairwise.nil
 |m+1,b=>eh.2 ⟨λk hk=>by
  have:=Ax.1 hk
  show(a:Int)<k.1∨((a:Int)=k.1∧(b:Int)<k.2)
  omega,Nn a m (b+1)⟩
theorem ou(w:Nat): ∀(m a:Nat),sC (yu w a m)
 |0,a=>List.Pairwise.nil
 |m+1,a=>vE.2 ⟨Nn a w 0,ou w m (a+1),λx hx y hy=>by
  have h1:=Ax.1 hx
  have h2:=ot.1 hy
  show x.1<y.1∨(x.1=y.1∧x.2<y.2)
  omega⟩
structure Mark(l:au)(a b p:Nat):Prop where
 le:p≤l.length
 lo: ∀x∈l.take p,sV (keyOf x) ((a:Int),(b:Int))
 hi: ∀x∈l.drop p,¬sV (keyOf x) ((a:Int),(b:Int))
theorem tG{k:cW}{a b:Nat}:sV k ((a:Int),((b+1:Nat):Int))↔sV k ((a:Int),(b:Int))∨k=((a:Int),(b:Int)):=by
 have:k=((a:Int),(b:Int))↔k.1=a∧k.2=b:=⟨λh=>h▸⟨rfl,rfl⟩,λh=>gS h.1 h.2⟩
 rw[this]
 show(k.1<(a:Int)∨(k.1=(a:Int)∧k.2<((b+1:Nat):Int)))↔(k.1<(a:Int)∨(k.1=(a:Int)∧k.2<(b:Int)))∨_
 omega
theorem Mark.row{l:au}{a w p:Nat}(h:Mark l a w p)(hw: ∀x∈l,0≤(keyOf x).2∧(keyOf x).2<w):Mark l (a+1) 0 p:=by
 have key: ∀x∈l,(sV (keyOf x) ((a:Int),(w:Int))↔sV (keyOf x) (((a+1:Nat):Int),((0:Nat):Int))):=λx hx=>by
  have:=hw x hx
  show((keyOf x).1<(a:Int)∨((keyOf x).1=(a:Int)∧(keyOf x).2<(w:Int)))↔((keyOf x).1<((a+1:Nat):Int)∨((keyOf x).1=((a+1:Nat):Int)∧(keyOf x).2<((0:Nat):Int)))
  omega
 exact⟨h.le,λx hx=>(key x (lM hx)).1 (h.lo x hx),λx hx k=>h.hi x hx ((key x (mV hx)).2 k)⟩
theorem kQ(a b:Int)(l m:au):bP a b (l++m)=bP a b l+bP a b m:=by
 induction l with
 |nil=>rw[cJ,kP];omega
 |cons x t ih=>rw[lQ,eo,eo,ih];omega
theorem Mark.step{l:au}(hs:sC (l.map keyOf)){a b p:Nat}(h:Mark l a b p):
  (p<l.length∧(l.getD p bh).1=(a:Int)∧(l.getD p bh).2.1=(b:Int)∧bP (a:Int) (b:Int) l=dU (l.getD p bh)∧Mark l a (b+1) (p+1))∨
  ((p<l.length→(l.getD p bh).1=(a:Int)→(l.getD p bh).2.1=(b:Int)→False)∧bP (a:Int) (b:Int) l=0∧Mark l a (b+1) p):=by
 have no: ∀{x:db} {k:cW},¬keyOf x=k→ ¬(x.1=k.1∧x.2.1=k.2):=λh e=>h (gS e.1 e.2)
 have hz:bP (a:Int) (b:Int) (l.take p)=0:=kq λx hx e=>by
  have e':keyOf x=((a:Int),(b:Int)):=gS e.1 e.2
  have:=h.lo x hx
  rw[e']at this
  exact ns this
 have HF:bP (a:Int) (b:Int) l=bP (a:Int) (b:Int) (l.drop p):=by
  conv=>lhs;rw[←gg p l]
  rw[kQ,hz];omega
 by_cases hp:p<l.length
 ·have hd:=drop_cons hp bh
  have hsd:sC ((l.drop p).map keyOf):=by
   rw[List.map_drop];exact vD (List.drop_sublist ..) hs
  have Lr:=h.hi
  rw[hd]at hsd Lr HF
  have hgt:=(eh.1 hsd).1
  have V6:=Lr _ (bk ..)
  have amU:l.take (p+1)=l.take p++[l.getD p bh]:=by
   rw[←sf hp,aU,bn hp];rfl
  by_cases he:keyOf (l.getD p bh)=((a:Int),(b:Int))
  ·refine Or.inl ⟨hp,fi Prod.fst he,fi Prod.snd he,?_,ω,λx hx=> ?_,λx hx hk=> ?_⟩
   ·rw[HF,eo,aj ⟨fi Prod.fst he,fi Prod.snd he⟩,kq λx hx e=> ?_]
    ·omega
    ·have hg:=hgt (keyOf x) (eM hx)
     have e':keyOf x=((a:Int),(b:Int)):=gS e.1 e.2
     rw[he,e']at hg
     exact ns hg
   ·rw[amU]at hx
    rcases bb.1 hx with hx|hx
    ·exact tG.2 (Or.inl (h.lo x hx))
    ·rw[bW.1 hx];exact tG.2 (Or.inr he)
   ·have hg:=hgt (keyOf x) (eM hx)
    rw[he]at hg
    rcases tG.1 hk with hk|hk
    ·exact IA hg hk
    ·rw[hk]at hg;exact ns hg
  ·have lq: ∀x∈l.getD p bh::l.drop (p+1),keyOf x≠((a:Int),(b:Int)):=λx hx e=>by
    rcases aW.1 hx with rfl|hx
    ·exact he e
    ·have hg:=hgt (keyOf x) (eM hx)
     rw[e]at hg
     exact V6 hg
   refine Or.inr ⟨λ_ e1 e2=>he (gS e1 e2),?_,h.le,λx hx=>tG.2 (Or.inl (h.lo x hx)),λx hx hk=> ?_⟩
   ·rw[HF]
    exact kq λx hx=>no (lq x hx)
   ·rw[hd]at hx
    rcases tG.1 hk with hk|hk
    ·exact Lr x hx hk
    ·exact lq x hx hk
 ·have hd:l.drop p=[]:=vC ω
  refine Or.inr ⟨λh=>absurd h hp,by rw[HF,hd];rfl,h.le,λx hx=>tG.2 (Or.inl (h.lo x hx)),λx hx=> ?_⟩
  rw[hd]at hx;nomatch hx
def vx(out:au)(r:Option au):Option (au×Bool):=some (match r with|some o=>(out++o,true)|none=>([],false))
theorem Ku(N:Nat)(v:Int):Qx N (cV v)=some (if Fq v then(v,true)else(0,false)):=by
 unfold Qx
 rw[q3,ar]
 by_cases h:aE v
 ·rw[nv h]
  dsimp only
  rw[a7,av,aN]
  by_cases h2:p5 v
  ·rw[ah (show ¬v= -9223372036854775808 from h2),aj (show Fq v from⟨h,h2⟩)]
  ·rw[aj (show v= -9223372036854775808 by unfold p5 at h2;omega),ah (λh=>h2 h.2)]
 ·rw[uD h,ah (λk=>h k.1)]
  rfl
theorem WU(N:Nat)(hN:4000000≤N)(C4:ct.bE)(C7:ct.fu){l E out:au}(hq:dy E)(hl:E.length≤100000)(ho:out.length≤1000000)(p:Int)(a b:Nat)(hb:b≤1000000)(q:Int)(hF:Fq q):
  ct.IG N C4 C7 N l E out p (a:Int) (b:Int) q false (false,(([]:List Int),())) 0=
   if Fq (q+bP (a:Int) (b:Int) E)then C7 l E (if q+bP (a:Int) (b:Int) E=0 then out else out++[((a:Int),((b:Int),(q+bP (a:Int) (b:Int) E,())))]) p (a:Int) ((b+1:Nat):Int)else some ([],false):=by
 have:=og E bh (λn j ws=>ct.IG N C4 C7 n l E out p (a:Int) (b:Int) q (!ws.isEmpty) (cV ws.sum) j)
  (λt ws=>if Fq (q+(ws++de (a:Int) (b:Int) t).sum)then C7 l E (if q+(ws++de (a:Int) (b:Int) t).sum=0 then out else out++[((a:Int),((b:Int),(q+(ws++de (a:Int) (b:Int) t).sum,())))]) p (a:Int) ((b+1:Nat):Int)else some ([],false))
  (λj (ws:List Int)=>ws.length≤j∧ ∀x∈ws,aE x)
  (λn j ws hj hI eO=> ?_) (λn ws hI=> ?_) E.length N 0 [] ω ω ω ⟨aG _,λx hx=>nomatch hx⟩
 ·rw[show((0:Nat):Int)=0 from rfl,cZ,iA,iF]at this
  exact this
 ·unfold ct.IG ct.HG
  have nR:=yU hq j
  have iI:=nR
  unfold aE dU at iI
  have hb:=Ni hI.2
  rw[aT ω,ak,aX ω ω,ak,ak,ak,aJ,c5 N ω iI.1 iI.2,ar,jc N ω ((Af (n:=ws.length) ω hb.1 hb.2).mono ω) ((Fit.i64 iI.1 iI.2).mono ω),ar,ax (x:=(j:Int)+1) ω ω,ag j,aN,aN]
  by_cases h1:(E.getD j bh).1=(a:Int)
  ·by_cases h2:(E.getD j bh).2.1=(b:Int)
   ·have hc:de (a:Int) (b:Int) (E.getD j bh::E.drop (j+1))=dU (E.getD j bh)::de (a:Int) (b:Int) (E.drop (j+1)):=by rw[eK,aj ⟨h1,h2⟩]
    rw[aj h1,aj h2,hc]
    have:=eO (ws++[dU (E.getD j bh)]) ⟨by rw[aS,aI];omega,Bz hI.2 nR⟩
    rw[lR,cy,iA,gI,br]at this
    refine Eq.trans ?_ this
    rw[show(!(ws++[dU (E.getD j bh)]).isEmpty)=true by cases ws<;>rfl]
    rfl
   ·have hc:de (a:Int) (b:Int) (E.getD j bh::E.drop (j+1))=de (a:Int) (b:Int) (E.drop (j+1)):=by rw[eK,ah (λh=>h2 h.2)]
    rw[aj h1,ah h2,hc]
    exact eO ws ⟨ω,hI.2⟩
  ·have hc:de (a:Int) (b:Int) (E.getD j bh::E.drop (j+1))=de (a:Int) (b:Int) (E.drop (j+1)):=by rw[eK,ah (λh=>h1 h.1)]
   rw[ah h1,hc]
   exact eO ws ⟨ω,hI.2⟩
 ·unfold ct.IG ct.HG
  have hs:=Ni hI.2
  have Sa:=hF.1
  unfold aE at Sa
  rw[aP ω,av,c5 N ω Sa.1 Sa.2,ar,jc N ω ((Af (n:=ws.length) ω hs.1 hs.2).mono ω) ((Fit.i64 Sa.1 Sa.2).mono ω),ar,Ku,ar,ax (x:=(b:Int)+1) ω ω,ag b,bL (by rw[aI];omega),ak,bL (by rw[aI];omega),ak,cond_not]
  show _=if Fq (q+(ws++[]).sum)then C7 l E (if q+(ws++[]).sum=0 then out else out++[((a:Int),((b:Int),(q+(ws++[]).sum,())))]) p (a:Int) ((b+1:Nat):Int)else some ([],false)
  rw[ch,ED ws.sum q]
  cases ws with
  |nil=>
   show cond (!aO q 0) _ _=_
   rw[cond_not,aN,iA,gI,aj hF]
   by_cases h:q=0
   ·rw[aj h,aj h]
   ·rw[ah h,ah h]
  |cons w ws=>
   show cond (!(if Fq (q+(w::ws).sum)then(q+(w::ws).sum,true)else(0,false)).2) _ _=_
   by_cases h2:Fq (q+(w::ws).sum)
   ·rw[aj h2,aj h2]
    dsimp only
    rw[a7,av,cond_not,aN]
    by_cases h:q+(w::ws).sum=0
    ·rw[aj h,aj h]
    ·rw[ah h,ah h]
   ·rw[ah h2,ah h2];rfl
end VM
end
section
namespace VM
open Go VM.F
theorem IH{P:Int→Prop} [DecidablePred P]{f:Int→Int→Int}{k:cW}{K:List cW}{out:au}{v:Int}(hv:f k.1 k.2=v):
  (if P v then vx (if v=0 then out else out++[(k.1,(k.2,(v,())))]) (dP P f K)else some ([],false))=vx out (dP P f (k::K)):=by
 rw[jz,hv]
 by_cases h:P v
 ·rw[aj h,aj h]
  cases dP P f K with
  |none=>rfl
  |some o=>
   show some ((if v=0 then out else out++[(k.1,(k.2,(v,())))])++o,true)=some (out++(if v=0 then o else(k.1,(k.2,(v,())))::o),true)
   by_cases h0:v=0
   ·rw[aj h0,aj h0]
   ·rw[ah h0,ah h0,br];rfl
 ·rw[ah h,ah h];rfl
theorem amV{l:au}(hs:sC (l.map keyOf))(hl: ∀x∈l,Fq (dU x))(k:cW):Fq (bP k.1 k.2 l):=by
 by_cases hk:k∈l.map keyOf
 ·have hm:Dw l k∈rowsOf l (l.map keyOf):=eM hk
  rw[mE hs]at hm
  exact hl (Dw l k) hm
 ·rw[gu hk];exact⟨⟨δ,δ⟩,δ⟩
theorem II(N:Nat)(hN:4000000≤N)(C:ct.bE){l E:au}(hq:dy E)(hl:E.length≤100000)(hs:sC (l.map keyOf))(G4:l.length≤100000)(hf: ∀x∈l,Fq (dU x))(hw: ∀x∈l,0≤(keyOf x).2∧(keyOf x).2<(6:Nat))(a:Nat)(ha:a≤24)(G:List cW)
  (hc: ∀(p:Nat) (out:au),Mark l (a+1) 0 p→out.length≤6*(a+1)→C l E out (p:Int) ((a+1:Nat):Int)=vx out (dP Fq (fS l E) G)):
  ∀(m n b p:Nat) (out:au),b+m=6→m<n→Mark l a b p→out.length≤6*a+b→ct.l7 N C n l E out (p:Int) (a:Int) (b:Int)=vx out (dP Fq (fS l E) (Aw a b m++G))
 |m,0,b,p,out,_,hn,_,_=>ω
 |0,n+1,b,p,out,hb,_,hM,ho=>by
  have e:b=6:=ω
  subst e
  unfold ct.l7 ct.q4
  rw[aP ω,av,ax (x:=(a:Int)+1) ω ω,ag a]
  exact hc p out (hM.row hw) ω
 |m+1,n+1,b,p,out,hb,hn,hM,ho=>by
  have hp:=hM.le
  have ah0: ∀(p:Nat) (v:Int),Mark l a (b+1) p→ct.l7 N C n l E (if v=0 then out else out++[((a:Int),((b:Int),(v,())))]) (p:Int) (a:Int) ((b+1:Nat):Int)=vx (if v=0 then out else out++[((a:Int),((b:Int),(v,())))]) (dP Fq (fS l E) (Aw a (b+1) m++G)):=λp v h=>
   II N hN C hq hl hs G4 hf hw a ha G hc m n (b+1) p _ ω ω h (by
    split
    ·omega
    ·rw[aS,aI];omega)
  have xr:=amV hs hf ((a:Int),(b:Int))
  unfold ct.l7 ct.q4 ct.Si ct.Kv
  show _=vx out (dP Fq (fS l E) (((a:Int),(b:Int))::(Aw a (b+1) m++G)))
  rw[aT (x:=(b:Int)) ω,ak,cP,aN,aN,aJ]
  have fin: ∀(p:Nat) (q:Int),q=bP (a:Int) (b:Int) l→Mark l a (b+1) p→ct.IG N C (ct.l7 N C n) N l E out (p:Int) (a:Int) (b:Int) q false (false,(([]:List Int),())) 0=vx out (dP Fq (fS l E) (((a:Int),(b:Int))::(Aw a (b+1) m++G))):=λp q e h=>by
   subst e
   rw[WU N hN C _ hq hl ω (p:Int) a b ω _ xr,ah0 p _ h]
   exact IH (k:=((a:Int),(b:Int))) rfl
  rcases hM.step hs with⟨h1,h2,h3,h4,h5⟩|⟨h1,h2,h3⟩
  ·rw[aj (show(p:Int)<(l.length:Int)by omega),aX ω ω,ak,ak,aj h2,aj h3,ax (x:=(p:Int)+1) ω ω,ag p,ak]
   exact fin (p+1) _ h4.symm h5
  ·by_cases g1:p<l.length
   ·rw[aj (show(p:Int)<(l.length:Int)by omega),aX ω ω,ak,ak]
    by_cases g2:(l.getD p bh).1=(a:Int)
    ·rw[aj g2,ah (λg3=>h1 g1 g2 g3)]
     exact fin p _ h2.symm h3
    ·rw[ah g2]
     exact fin p _ h2.symm h3
   ·rw[ah (show ¬(p:Int)<(l.length:Int)by omega)]
    exact fin p _ h2.symm h3
theorem IJ(N:Nat)(hN:4000000≤N){l E:au}(hq:dy E)(hl:E.length≤100000)(hs:sC (l.map keyOf))(G4:l.length≤100000)(hf: ∀x∈l,Fq (dU x))(hw: ∀x∈l,0≤(keyOf x).2∧(keyOf x).2<(6:Nat)):
  ∀(m n a p:Nat) (out:au),a+m=25→m<n→Mark l a 0 p→out.length≤6*a→ct.l4 N n l E out (p:Int) (a:Int)=vx out (dP Fq (fS l E) (yu 6 a m))
 |m,0,a,p,out,_,hn,_,_=>ω
 |0,n+1,a,p,out,ha,_,hM,ho=>by
  unfold ct.l4 ct.dw
  rw[fm ω,av]
  show some (out,true)=some (out++[],true)
  rw[ch]
 |m+1,n+1,a,p,out,ha,hn,hM,ho=>by
  unfold ct.l4 ct.dw
  rw[fE ω,ak]
  exact II N hN _ hq hl hs G4 hf hw a ω (yu 6 (a+1) m) (λp out h ho=>IJ N hN hq hl hs G4 hf hw m n (a+1) p out ω ω h ho) 6 N 0 p out ω ω hM ω
def je:List cW:=yu 6 0 25
theorem FG(N:Nat)(hN:4000000≤N){l E:au}(hk:cz l=true)(hl:l.length≤90000)(WS:dy l)(hq:dy E)(hE:E.length≤100000):ct N l E=vx [] (dP Fq (fS l E) je):=by
 obtain⟨hs,IF⟩:=cU hk
 unfold ct ct.b
 refine IJ N hN hq hE hs ω (λx hx=>⟨WS x hx,(IF x hx).2⟩) (λx hx=> ?_) 25 N 0 0 [] ω ω ⟨ω,λx hx=>(nomatch hx),λx hx e9=> ?_⟩ (by simp)
 ·have h:bD (keyOf x).1 (keyOf x).2:=(IF x hx).1
  unfold bD at h;omega
 ·have h:bD (keyOf x).1 (keyOf x).2:=(IF x (mV hx)).1
  unfold bD at h
  have wi:(keyOf x).1<((0:Nat):Int)∨((keyOf x).1=((0:Nat):Int)∧(keyOf x).2<((0:Nat):Int)):=e9
  omega
theorem IK{l E:au}(hk:cz l=true)(hp: ∀x∈E,bD x.1 x.2.1):dP Fq (fS l E) (nu (l.map keyOf) E)=dP Fq (fS l E) je:=by
 obtain⟨hs,IF⟩:=cU hk
 refine Nl ⟨⟨δ,δ⟩,δ⟩ (yV hs) (ou 6 25 0) (λk hk=> ?_) (λk hk hn=> ?_)
 ·have:bD k.1 k.2:=by
   rcases mq.1 hk with h|⟨x,hx,rfl⟩
   ·obtain⟨x,hx,rfl⟩:=cD.1 h
    exact(IF x hx).1
   ·exact hp x hx
  unfold bD at this
  exact ot.2 ω
 ·have h1:k∉l.map keyOf:=λh=>hn (mq.2 (Or.inl h))
  have h2:k∉E.map keyOf:=λh=>by
   obtain⟨x,hx,e⟩:=cD.1 h
   exact hn (mq.2 (Or.inr ⟨x,hx,e⟩))
  unfold fS
  rw[gu h1,gu h2];rfl
end VM
end
section
namespace VM
open Go VM.F
def BA(E:au):Prop:= ∀x∈E,dn (dU x)
def jT(r:db):uG:=(r.1,(r.2.1,(dS (dU r),())))
theorem Kw(E:au)(i:Nat):(E.map jT).getD i ((0:Int),((0:Int),(cA,())))=jT (E.getD i bh):=by
 by_cases h:i<E.length
 ·rw[aU,pW,bn h,aU,bn h];rfl
 ·rw[aU,gH (by rw[cv];omega),aU,gH ω];rfl
theorem Kx{l:au}(h:BA l)(i:Nat):dn (dU (l.getD i bh)):=by
 by_cases hi:i<l.length
 ·rw[aU,bn hi];exact h _ (dB hi)
 ·rw[aU,gH ω];exact⟨δ,δ⟩
theorem ri{x:Int}(h:aE x):dn x:=by unfold aE at h;unfold dn;omega
theorem rj{ws:List Int}{x:Int}(h: ∀y∈ws,dn y)(hx:dn x): ∀y∈ws++[x],dn y:=λy hy=>by
 rcases bb.1 hy with hy|hy
 ·exact h y hy
 ·rw[bW.1 hy];exact hx
theorem WV(N:Nat){l:au}:ah1 N l=some l:=Nm N
theorem WW(N:Nat)(hN:2000000≤N)(K:cq.IL){E out R:au}(hq:BA E)(hl:E.length≤100000)(ho:out.length≤1000000)(r:db)(hr:aE (dU r))(i:Nat)(hi:i≤1000000):
  cq.No N K N (E.map jT) out r [dS (dU r)] R (R.length:Int) (i:Int) (E.map jT) ((E.map jT).length:Int) 0=
   if aE (dU r+bP r.1 r.2.1 E)then K (E.map jT) (if dU r+bP r.1 r.2.1 E=0 then out else out++[(r.1,(r.2.1,(dU r+bP r.1 r.2.1 E,())))]) R (R.length:Int) ((i+1:Nat):Int)else some (bH,(2:Int)):=by
 have:=og E bh (λn j ws=>cq.No N K n (E.map jT) out r (ws.map dS) R (R.length:Int) (i:Int) (E.map jT) ((E.map jT).length:Int) j)
  (λt ws=>if aE (ws++de r.1 r.2.1 t).sum then K (E.map jT) (if(ws++de r.1 r.2.1 t).sum=0 then out else out++[(r.1,(r.2.1,((ws++de r.1 r.2.1 t).sum,())))]) R (R.length:Int) ((i+1:Nat):Int)else some (bH,(2:Int)))
  (λj (ws:List Int)=>ws.length≤j+1∧ ∀x∈ws,dn x)
  (λn j ws hj hI eO=> ?_) (λn ws hI=> ?_) E.length N 0 [dU r] ω ω ω ⟨aG _,λx hx=>by rw[bW.1 hx];exact ri hr⟩
 ·rw[show((0:Nat):Int)=0 from rfl,cZ]at this
  refine this.trans ?_
  have e:([dU r]++de r.1 r.2.1 E).sum=dU r+bP r.1 r.2.1 E:=by rw[El,cy];rfl
  rw[e]
 ·unfold cq.No cq.Ky
  rw[aT (by rw[cv];omega),ak,aX ω (by rw[cv];omega),ak,aJ,Kw,bL (by rw[cv,aI];omega),ak,ax (x:=(j:Int)+1) ω ω,ag j,aN,aN]
  by_cases h1:(E.getD j bh).1=r.1
  ·by_cases h2:(E.getD j bh).2.1=r.2.1
   ·have hc:de r.1 r.2.1 (E.getD j bh::E.drop (j+1))=dU (E.getD j bh)::de r.1 r.2.1 (E.drop (j+1)):=by rw[eK,aj ⟨h1,h2⟩]
    rw[aj (show(jT (E.getD j bh)).1=r.1 from h1),aj (show(jT (E.getD j bh)).2.1=r.2.1 from h2),hc]
    have:=eO (ws++[dU (E.getD j bh)]) ⟨by rw[aS,aI];omega,rj hI.2 (Kx hq j)⟩
    rw[cY]at this
    refine this.trans ?_
    rw[br];rfl
   ·have hc:de r.1 r.2.1 (E.getD j bh::E.drop (j+1))=de r.1 r.2.1 (E.drop (j+1)):=by rw[eK,ah (λh=>h2 h.2)]
    rw[aj (show(jT (E.getD j bh)).1=r.1 from h1),ah (show ¬(jT (E.getD j bh)).2.1=r.2.1 from h2),hc]
    exact eO ws ⟨ω,hI.2⟩
  ·have hc:de r.1 r.2.1 (E.getD j bh::E.drop (j+1))=de r.1 r.2.1 (E.drop (j+1)):=by rw[eK,ah (λh=>h1 h.1)]
   rw[ah (show ¬(jT (E.getD j bh)).1=r.1 from h1),hc]
   exact eO ws ⟨ω,hI.2⟩
 ·unfold cq.No cq.Ky
  rw[aP (by rw[cv];omega),av,DW N hI.2 ω ω,ar]
  show _=if aE (ws++[]).sum then K (E.map jT) (if(ws++[]).sum=0 then out else out++[(r.1,(r.2.1,((ws++[]).sum,())))]) R (R.length:Int) ((i+1:Nat):Int)else some (bH,(2:Int))
  rw[ch]
  unfold Fu
  by_cases h0:dn ws.sum
  ·rw[aj h0]
   dsimp only
   rw[Ar N h0,ar,a7,av]
   by_cases h1:aE ws.sum
   ·rw[nv h1]
    dsimp only
    rw[a7,av,cond_not,aN,bL (by rw[aI];omega),ak,ax (x:=(i:Int)+1) ω ω,ag i,aj h1]
    split<;>rfl
   ·rw[uD h1,ah h1]
    rfl
  ·rw[ah h0,ah (λh=>h0 (ri h))]
   have e:F92 N cA=some (Bs 0):=Ar N (v:=0) ⟨δ,δ⟩
   dsimp only
   rw[e,ar]
   rfl
theorem T6(N:Nat)(hN:2000000≤N){l E R:au}(hq:BA E)(hl:E.length≤100000)(hR:R.length≤200000)(hv: ∀r∈R,aE (dU r)∧dU r=bP r.1 r.2.1 l):
  cq.l26 N N (E.map jT) [] R (R.length:Int) 0=uC (dP aE (fS l E) (R.map keyOf)):=by
 have:=og R bh (λn i out=>cq.l26 N n (E.map jT) out R (R.length:Int) i) (λt out=>uC ((dP aE (fS l E) (t.map keyOf)).map (λo=>out++o))) (λi (out:au)=>out.length≤i)
  (λn i out hi hI hr=> ?_) (λn out hI=> ?_) R.length N 0 [] ω ω ω (aG _)
 ·rw[show((0:Nat):Int)=0 from rfl,cZ]at this
  refine this.trans ?_
  simp
 ·unfold cq.l26 cq.aav
  have hm:R.getD i bh∈R:=by
   rw[aU,bn hi];exact dB hi
  have VG:=hv _ hm
  have nR:=VG.1
  have iI:=nR
  unfold aE dU at iI
  rw[aT ω,ak,aX ω ω,ak,aJ,wH N iI.1 iI.2,ar]
  refine(WW N hN _ hq hl ω _ nR i ω).trans ?_
  rw[bV,jz]
  have ef:fS l E (keyOf (R.getD i bh)).1 (keyOf (R.getD i bh)).2=dU (R.getD i bh)+bP (R.getD i bh).1 (R.getD i bh).2.1 E:=by
   show bP _ _ l+bP _ _ E=_
   rw[VG.2];rfl
  rw[ef]
  generalize hS:dU (R.getD i bh)+bP (R.getD i bh).1 (R.getD i bh).2.1 E=v
  by_cases hF:aE v
  ·rw[aj hF,aj hF,hr _ (by
    split
    ·omega
    ·rw[aS,aI];omega)]
   cases dP aE (fS l E) ((R.drop (i+1)).map keyOf)with
   |none=>rfl
   |some o=>
    show uC (some _)=uC (some _)
    congr 2
    split
    ·rfl
    ·exact br _ _ _
  ·rw[ah hF,ah hF];rfl
 ·unfold cq.l26 cq.aav
  rw[aP ω,av,WV,ar]
  show _=uC (some (out++[]))
  rw[ch];rfl
theorem agc(N:Nat)(C:cq.mF){l:au}{E S:di}{K:List cW}(hs:sC K)(hl:K.length≤100000)(hf: ∀k∈K,Au k)(x:uG)(k:cW)(hxk:(x.1,x.2.1)=k)(hx:Au k)(hz:zeroAt l K k)(len:Int)(i:Nat)(hi:i≤1000000):
  ∀(m n p:Nat),K.length-p≤m→m<n→p≤K.length→(∀y∈K.take p,sV y k)→
   cq.T7 N C n E (rowsOf l K) x (p:Int) S len (i:Int)=C E (rowsOf l (K.take p++wQ k (K.drop p))) S len ((i+1:Nat):Int)
 |m,0,p,_,hn,_,_=>ω
 |m,n+1,p,hm,hn,hp,hb=>by
  unfold cq.T7 cq.Qy cq.j21 cq.ah2
  rw[et,ax (x:=(i:Int)+1) ω ω,ag i]
  have ex:((x.1,(x.2.1,((0:Int),()))):db)=(k.1,(k.2,((0:Int),()))):=by rw[←hxk]
  by_cases h:p<K.length
  ·have hfk:=hf (K.getD p (0,0)) (by rw[aU,bn h];exact dB h)
   have ho:Qn N x.1 x.2.1 ((rowsOf l K).getD p bh)=some (Bt k.1 k.2 (K.getD p (0,0)).1 (K.getD p (0,0)).2):=by
    rw[IC l h]
    rw[←hxk]at hx ⊢
    exact Fw N hx.1 hx.2 hfk.1 hfk.2
   rw[aT ω,ak,aX ω ω,ak,aJ,ho,ar,ed (x:=(p:Int)) ω,av,ak,ar,cP,cond_not,aN,Sg h]
   by_cases h1:sV (K.getD p (0,0)) k
   ·rw[aj (As.2 h1),aj h1,ax (x:=(p:Int)+1) ω ω,ag p,Av h]
    refine agc N C hs hl hf x k hxk hx hz len i hi (m-1) n (p+1) ω ω ω λy hy=> ?_
    rw[←sf h]at hy
    rcases bb.1 hy with hy|hy
    ·exact hb y hy
    ·rw[aU,bn h]at h1
     rw[bW.1 hy];exact h1
   ·rw[ah (λh=>h1 (As.1 h)),ah h1]
    by_cases h2:K.getD p (0,0)=k
    ·rw[aj (xA.2 h2),aj h2,gg]
    ·rw[ah (λh=>h2 (xA.1 h)),ah h2,D0 N (by rw[et];omega) (by rw[et];omega),ar]
     have A5:=hz (uF hs hb (Sh hs h h1 h2))
     have e:=uE l K p k
     rw[←xB A5]at e
     refine Eq.trans ?_ (fi (λR=>C E R S len ((i+1:Nat):Int)) e)
     exact fi (λz:db=>C E ((rowsOf l K).take p++z::(rowsOf l K).drop p) S len ((i+1:Nat):Int)) ex
  ·have hd:K.drop p=[]:=vC ω
   rw[aP ω,av,dX ω,ak,D0 N (by rw[et];omega) (by rw[et];omega),ar]
   have A5:=hz (uF hs hb (by rw[hd];exact λx hx=>nomatch hx))
   have e:=uE l K p k
   rw[←xB A5]at e
   have e2:wQ k (K.drop p)=k::K.drop p:=by rw[hd];rfl
   rw[e2]
   refine Eq.trans ?_ (fi (λR=>C E R S len ((i+1:Nat):Int)) e)
   exact fi (λz:db=>C E ((rowsOf l K).take p++z::(rowsOf l K).drop p) S len ((i+1:Nat):Int)) ex
theorem T8(N:Nat)(hN:2000000≤N){l E:au}(hq:BA E)(hE:E.length≤400)(hp: ∀x∈E,Au (keyOf x))(hs:sC (l.map keyOf))(hl:l.length≤90000)(WS:dy l)(IF: ∀x∈l,Au (keyOf x)):
  cq.wN N N (E.map jT) l (E.map jT) ((E.map jT).length:Int) 0=uC (dP aE (fS l E) (nu (l.map keyOf) E)):=by
 have:=og E bh (λn i K=>cq.wN N n (E.map jT) (rowsOf l K) (E.map jT) ((E.map jT).length:Int) i) (λt K=>uC (dP aE (fS l E) (nu K t)))
  (λi (K:List cW)=>K.length≤l.length+i∧sC K∧(∀k∈K,Au k)∧ ∀x∈l,keyOf x∈K)
  (λn i K hi hI hr=> ?_) (λn K hI=> ?_) E.length N 0 (l.map keyOf) ω ω ω ⟨by rw[cv];omega,hs,λk hk=>by
   obtain⟨x,hx,rfl⟩:=cD.1 hk
   exact IF x hx,λx hx=>eM hx⟩
 ·rw[show((0:Nat):Int)=0 from rfl,cZ]at this
  simp only[mE hs]at this
  exact this
 ·unfold cq.wN cq.vv
  obtain⟨h1,h2,h3,h4⟩:=hI
  have hm:E.getD i bh∈E:=by
   rw[aU,bn hi];exact dB hi
  rw[aT (by rw[cv];omega),ak,aX ω (by rw[cv];omega),ak,aJ,Kw]
  refine(agc N _ h2 ω h3 (jT (E.getD i bh)) (keyOf (E.getD i bh)) rfl (hp _ hm) (λhk=>gu λhx=>hk (by
   obtain⟨x,hx,e⟩:=cD.1 hx
   rw[←e];exact h4 x hx)) ((E.map jT).length:Int) i ω K.length N 0 ω ω ω (λy hy=>nomatch hy)).trans ?_
  rw[oU,cJ,cZ,sD]
  refine hr (wQ (keyOf (E.getD i bh)) K) ⟨cm (FF _ K) ω,Aq h2,λk hk=>(rf.1 hk).elim (λe=>e▸hp _ hm) (h3 k),λx hx=>rf.2 (Or.inr (h4 x hx))⟩
 ·unfold cq.wN cq.vv
  obtain⟨h1,h2,h3,h4⟩:=hI
  rw[aP (by rw[cv];omega),av,et,cM ω ω ω,ak]
  have:=T6 N hN (l:=l) (R:=rowsOf l K) hq ω (by rw[et];omega) (λr hr=>by
   unfold rowsOf at hr
   obtain⟨k,hk,rfl⟩:=cD.1 hr
   refine⟨?_,rfl⟩
   show aE (bP k.1 k.2 l)
   by_cases hkl:k∈l.map keyOf
   ·have e:rowsOf l (l.map keyOf)=l:=mE hs
    have hm:Dw l k∈rowsOf l (l.map keyOf):=eM hkl
    rw[e]at hm
    exact WS (Dw l k) hm
   ·rw[gu hkl];exact⟨δ,δ⟩)
  rw[CG,et]at this
  exact this
theorem kt{l:au}(h:dO l=true):sC (l.map keyOf)∧(∀x∈l,cQ x.1 x.2.1):=by
 unfold dO at h
 rw[fF]at h
 have h':=bx h
 have get: ∀(i:Nat) (hi:i<l.length),l.getD i bh=l[i]:=λi hi=>by rw[aU,bn hi];rfl
 have WT: ∀i,i+1<l.length→sV (keyOf (l.getD i bh)) (keyOf (l.getD (i+1) bh)):=λi hi=>(h' (i+1) hi).2.2 ω
 have e9: ∀j,j<l.length→ ∀i,i<j→sV (keyOf (l.getD i bh)) (keyOf (l.getD j bh)):=by
  intro j
  induction j with
  |zero=>intro _ i hi;omega
  |succ j ih=>
   intro hj i hi
   by_cases e:i=j
   ·rw[e];exact WT j hj
   ·exact xz (ih ω i ω) (WT j hj)
 refine⟨?_,λx hx=> ?_⟩
 ·refine zu.2 (tV.2 λi j hi hj pP=> ?_)
  have:=e9 j hj i pP
  rw[get i hi,get j hj]at this
  exact this
 ·obtain⟨i,hi,e⟩:=gh hx
  have:=h' i hi
  unfold lB mf at this
  rw[get i hi,e]at this
  exact this.1
structure WX(E:au):Prop where
 key: ∀x∈E,cQ x.1 x.2.1
 q:BA E
 len:E.length≤400
 zero:(E.map dU).sum=0
theorem Sj{x:db}(h:cQ x.1 x.2.1):Au (keyOf x):=by
 have h':cQ (keyOf x).1 (keyOf x).2:=h
 unfold cQ at h'
 unfold Au HB
 omega
theorem WY(N:Nat)(hN:2000000≤N){l E:au}(hk:dO l=true)(hl:l.length≤90000)(WS:dy l)(g:WX E):cq N l (E.map jT)=uC (dP aE (fS l E) (nu (l.map keyOf) E)):=by
 obtain⟨hs,IF⟩:=kt hk
 have hE:=g.len
 unfold cq cq.b
 rw[DX N ω ω,hk,ar,a7,av,aP (by rw[cv];omega),av,cM ω ω (by rw[cv];omega),ak]
 have:=og E bh (λn i (ws:List Int)=>cq.l5 N n l (E.map jT) (ws.map dS) (E.map jT) ((E.map jT).length:Int) i)
  (λt ws=>if(ws++t.map dU).sum=0 then uC (dP aE (fS l E) (nu (l.map keyOf) E))else none)
  (λj (ws:List Int)=>ws.length≤j∧(ws++(E.drop j).map dU).sum=0∧ ∀x∈ws,dn x)
  (λn i ws hi hI hr=> ?_) (λn ws hI=> ?_) E.length N 0 [] ω ω ω ⟨aG _,g.zero,λx hx=>nomatch hx⟩
 ·rw[show((0:Nat):Int)=0 from rfl,cZ]at this
  refine Eq.trans this ?_
  rw[cJ,aj g.zero]
 ·unfold cq.l5 cq.ei
  have hm:E.getD i bh∈E:=by
   rw[aU,bn hi];exact dB hi
  have Tz:Ql N (jT (E.getD i bh)).1 (jT (E.getD i bh)).2.1=some true:=by
   rw[Qk]
   exact fi some (bs (g.key _ hm))
  rw[aT (by rw[cv];omega),ak,aX ω (by rw[cv];omega),ak,aJ,Kw,Tz,ar,a7,av,bL (by rw[cv,aI];omega),ak,ax (x:=(i:Int)+1) ω ω,ag i]
  have h0:=hI.2.1
  rw[drop_cons hi bh,bV]at h0
  have:=hr (ws++[dU (E.getD i bh)]) ⟨by rw[aS,aI];omega,by rw[br];exact h0,rj hI.2.2 (Kx g.q i)⟩
  rw[cY]at this
  refine this.trans ?_
  rw[br];rfl
 ·unfold cq.l5 cq.ei
  have h0:=hI.2.1
  rw[mX,iZ,ch]at h0
  rw[aP (by rw[cv];omega),av,DW N hI.2.2 ω ω,ar,h0]
  have e0:Fu 0=(dS 0,true):=by unfold Fu;exact aj ⟨δ,δ⟩
  rw[e0]
  dsimp only
  rw[a7,av,An,ar,show vu 0=0 from rfl,dX rfl,a7,av,wT N ω,ar]
  rw[iZ,ch,aj h0]
  exact T8 N hN g.q hE (λx hx=>Sj (g.key x hx)) hs hl WS (λx hx=>Sj (IF x hx))
end VM
end
section
namespace VM
open Go VM.F
def gY(r:db):ah3:=(r.1,(r.2.1,(cV (dU r),())))
theorem WZ{E:au}{i:Nat}(h:i<E.length):(E.map gY).getD i ((0:Int),((0:Int),((false,pv),())))=gY (E.getD i bh):=by
 rw[aU,pW,bn h,aU,bn h];rfl
theorem Kz{v:Int}{n:Nat}(hn:n≤1000000)(h0: -(170141183460469231731687303715884105728*(n:Int))≤v)(h1:v≤170141183460469231731687303715884105728*(n:Int)):Fit v 900000:=by
 have h5:Fit v 5:=by
  unfold Fit
  rw[show(4294967296:Nat)^5=1461501637330902918203684832716283019655932542976 from rfl]
  omega
 exact h5.mono ω
theorem Ay{v:Int}(h:dn v):Fit v 900000:=Kz (n:=1) ω (by have:=h.1;omega) (by have:=h.2;omega)
theorem T9(N:Nat)(hN:4000000≤N){E:au}(hq:BA E)(hl:E.length≤100000)(q a b:Int)(hF:aE q):ny N q a b (E.map gY)=some (Bs (q+bP a b E)):=by
 unfold ny ny.b
 have:=og E bh (λn j ws=>ny.l3 N n q a b (E.map gY) (cV ws.sum) (!ws.isEmpty) j)
  (λt ws=>some (Bs (q+(ws++de a b t).sum)))
  (λj (ws:List Int)=>ws.length≤j∧ ∀x∈ws,dn x)
  (λn j ws hj hI eO=> ?_) (λn ws hI=> ?_) E.length N 0 [] ω ω ω ⟨aG _,λx hx=>nomatch hx⟩
 ·rw[show((0:Nat):Int)=0 from rfl,cZ,iA,iF]at this
  exact this
 ·unfold ny.l3 ny.nO
  have Qz:=Kx hq j
  have hb:=Km hI.2
  have Hl:zd N (cV ws.sum) (gY (E.getD j bh)).2.2.1=some (cV (ws.sum+dU (E.getD j bh))):=jc N ω (Kz (n:=ws.length) ω hb.1 hb.2) (Ay Qz)
  rw[aT (by rw[cv];omega),ak,aX ω (by rw[cv];omega),ak,ak,ak,aJ,WZ hj,Hl,ar,ax (x:=(j:Int)+1) ω ω,ag j,aN,aN]
  by_cases h1:(E.getD j bh).1=a
  ·by_cases h2:(E.getD j bh).2.1=b
   ·have hc:de a b (E.getD j bh::E.drop (j+1))=dU (E.getD j bh)::de a b (E.drop (j+1)):=by rw[eK,aj ⟨h1,h2⟩]
    rw[aj (show(gY (E.getD j bh)).1=a from h1),aj (show(gY (E.getD j bh)).2.1=b from h2),hc]
    have:=eO (ws++[dU (E.getD j bh)]) ⟨by rw[aS,aI];omega,rj hI.2 Qz⟩
    rw[lR,cy,iA,gI,br]at this
    refine Eq.trans ?_ this
    rw[show(!(ws++[dU (E.getD j bh)]).isEmpty)=true by cases ws<;>rfl]
   ·have hc:de a b (E.getD j bh::E.drop (j+1))=de a b (E.drop (j+1)):=by rw[eK,ah (λh=>h2 h.2)]
    rw[aj (show(gY (E.getD j bh)).1=a from h1),ah (show ¬(gY (E.getD j bh)).2.1=b from h2),hc]
    exact eO ws ⟨ω,hI.2⟩
  ·have hc:de a b (E.getD j bh::E.drop (j+1))=de a b (E.drop (j+1)):=by rw[eK,ah (λh=>h1 h.1)]
   rw[ah (show ¬(gY (E.getD j bh)).1=a from h1),hc]
   exact eO ws ⟨ω,hI.2⟩
 ·unfold ny.l3 ny.nO
  have hs:=Km hI.2
  have Sa:=hF
  unfold aE at Sa
  rw[aP (by rw[cv];omega),av,c5 N ω Sa.1 Sa.2,ar,jc N ω (Kz (n:=ws.length) ω hs.1 hs.2) ((Fit.i64 Sa.1 Sa.2).mono ω),ar,q3,ar,cond_not]
  show _=some (Bs (q+(ws++[]).sum))
  rw[ch,ED ws.sum q]
  cases ws with
  |nil=>
   show some (q,true)=some (Bs (q+0))
   rw[gI,nv hF]
  |cons w ws=>rfl
theorem aaw{l:au}(hs:sC (l.map keyOf))(hl:dy l)(k:cW):aE (bP k.1 k.2 l):=by
 by_cases hk:k∈l.map keyOf
 ·have hm:Dw l k∈rowsOf l (l.map keyOf):=eM hk
  rw[mE hs]at hm
  exact hl (Dw l k) hm
 ·rw[gu hk];exact⟨δ,δ⟩
theorem Np(N:Nat)(hN:4000000≤N)(C:du.bE){l E:au}(hq:BA E)(hl:E.length≤100000)(hs:sC (l.map keyOf))(G4:l.length≤100000)(hf:dy l)(hw: ∀x∈l,0≤(keyOf x).2∧(keyOf x).2<(25:Nat))(a:Nat)(ha:a≤24)(G:List cW)
  (hc: ∀(p:Nat) (out:au),Mark l (a+1) 0 p→out.length≤25*(a+1)→C l (E.map gY) out (p:Int) ((a+1:Nat):Int)=vx out (dP aE (fS l E) G)):
  ∀(m n b p:Nat) (out:au),b+m=25→m<n→Mark l a b p→out.length≤25*a+b→du.l7 N C n l (E.map gY) out (p:Int) (a:Int) (b:Int)=vx out (dP aE (fS l E) (Aw a b m++G))
 |m,0,b,p,out,_,hn,_,_=>ω
 |0,n+1,b,p,out,hb,_,hM,ho=>by
  have e:b=25:=ω
  subst e
  unfold du.l7 du.q4
  rw[fm ω,av,ax (x:=(a:Int)+1) ω ω,ag a]
  exact hc p out (hM.row hw) ω
 |m+1,n+1,b,p,out,hb,hn,hM,ho=>by
  have hp:=hM.le
  have ah0: ∀(p:Nat) (v:Int),Mark l a (b+1) p→du.l7 N C n l (E.map gY) (if v=0 then out else out++[((a:Int),((b:Int),(v,())))]) (p:Int) (a:Int) ((b+1:Nat):Int)=vx (if v=0 then out else out++[((a:Int),((b:Int),(v,())))]) (dP aE (fS l E) (Aw a (b+1) m++G)):=λp v h=>
   Np N hN C hq hl hs G4 hf hw a ha G hc m n (b+1) p _ ω ω h (by
    split
    ·omega
    ·rw[aS,aI];omega)
  have xr:=aaw hs hf ((a:Int),(b:Int))
  unfold du.l7 du.q4
  show _=vx out (dP aE (fS l E) (((a:Int),(b:Int))::(Aw a (b+1) m++G)))
  rw[fE (x:=(b:Int)) ω,ak,cP,aN,aN,aJ]
  have fin: ∀(p:Nat) (q:Int),q=bP (a:Int) (b:Int) l→Mark l a (b+1) p→du.Si N C (du.l7 N C n) l (E.map gY) out (p:Int) (a:Int) (b:Int) q=vx out (dP aE (fS l E) (((a:Int),(b:Int))::(Aw a (b+1) m++G))):=λp q e h=>by
   subst e
   unfold du.Si du.Kv
   rw[T9 N hN hq hl _ _ _ xr,ar]
   refine Eq.trans ?_ (IH (k:=((a:Int),(b:Int))) (v:=bP (a:Int) (b:Int) l+bP (a:Int) (b:Int) E) rfl)
   generalize bP (a:Int) (b:Int) l+bP (a:Int) (b:Int) E=v
   have hr:=ah0 p v h
   by_cases hv:aE v
   ·rw[nv hv,aj hv]
    dsimp only
    rw[a7,av,cond_not,aN,bL (by rw[aI];omega),ak,ax (x:=(b:Int)+1) ω ω,ag b,←hr]
    split<;>rfl
   ·rw[uD hv,ah hv];rfl
  rcases hM.step hs with⟨h1,h2,h3,h4,h5⟩|⟨h1,h2,h3⟩
  ·rw[aj (show(p:Int)<(l.length:Int)by omega),aX ω ω,ak,ak,aj h2,aj h3,ax (x:=(p:Int)+1) ω ω,ag p,ak]
   exact fin (p+1) _ h4.symm h5
  ·by_cases g1:p<l.length
   ·rw[aj (show(p:Int)<(l.length:Int)by omega),aX ω ω,ak,ak]
    by_cases g2:(l.getD p bh).1=(a:Int)
    ·rw[aj g2,ah (λg3=>h1 g1 g2 g3)]
     exact fin p _ h2.symm h3
    ·rw[ah g2]
     exact fin p _ h2.symm h3
   ·rw[ah (show ¬(p:Int)<(l.length:Int)by omega)]
    exact fin p _ h2.symm h3
theorem Nq(N:Nat)(hN:4000000≤N){l E:au}(hq:BA E)(hl:E.length≤100000)(hs:sC (l.map keyOf))(G4:l.length≤100000)(hf:dy l)(hw: ∀x∈l,0≤(keyOf x).2∧(keyOf x).2<(25:Nat)):
  ∀(m n a p:Nat) (out:au),a+m=8→m<n→Mark l a 0 p→out.length≤25*a→du.l4 N n l (E.map gY) out (p:Int) (a:Int)=vx out (dP aE (fS l E) (yu 25 a m))
 |m,0,a,p,out,_,hn,_,_=>ω
 |0,n+1,a,p,out,ha,_,hM,ho=>by
  unfold du.l4 du.dw
  rw[fm ω,av]
  show some (out,true)=some (out++[],true)
  rw[ch]
 |m+1,n+1,a,p,out,ha,hn,hM,ho=>by
  unfold du.l4 du.dw
  rw[fE ω,ak]
  exact Np N hN _ hq hl hs G4 hf hw a ω (yu 25 (a+1) m) (λp out h ho=>Nq N hN hq hl hs G4 hf hw m n (a+1) p out ω ω h ho) 25 N 0 p out ω ω hM ω
def mG:List cW:=yu 25 1 7
theorem Sk(N:Nat)(hN:4000000≤N){l E:au}(hk:dO l=true)(hl:l.length≤90000)(WS:dy l)(hq:BA E)(hE:E.length≤100000):du N l (E.map gY)=vx [] (dP aE (fS l E) mG):=by
 obtain⟨hs,IF⟩:=kt hk
 unfold du du.b
 refine Nq N hN hq hE hs ω WS (λx hx=> ?_) 7 N 1 0 [] ω ω ⟨ω,λx hx=>(nomatch hx),λx hx e9=> ?_⟩ (by simp)
 ·have h:cQ (keyOf x).1 (keyOf x).2:=IF x hx
  unfold cQ at h;omega
 ·have h:cQ (keyOf x).1 (keyOf x).2:=IF x (mV hx)
  unfold cQ at h
  have wi:(keyOf x).1<((1:Nat):Int)∨((keyOf x).1=((1:Nat):Int)∧(keyOf x).2<((0:Nat):Int)):=e9
  omega
theorem Nr{l E:au}(hk:dO l=true)(hp: ∀x∈E,cQ x.1 x.2.1):dP aE (fS l E) (nu (l.map keyOf) E)=dP aE (fS l E) mG:=by
 obtain⟨hs,IF⟩:=kt hk
 refine Nl ⟨δ,δ⟩ (yV hs) (ou 25 7 1) (λk hk=> ?_) (λk hk hn=> ?_)
 ·have:cQ k.1 k.2:=by
   rcases mq.1 hk with h|⟨x,hx,rfl⟩
   ·obtain⟨x,hx,rfl⟩:=cD.1 h
    exact IF x hx
   ·exact hp x hx
  unfold cQ at this
  exact ot.2 ω
 ·have h1:k∉l.map keyOf:=λh=>hn (mq.2 (Or.inl h))
  have h2:k∉E.map keyOf:=λh=>by
   obtain⟨x,hx,e⟩:=cD.1 h
   exact hn (mq.2 (Or.inr ⟨x,hx,e⟩))
  unfold fS
  rw[gu h1,gu h2];rfl
def dW(b:aq)(s e:au):aq×Int:=
 match dP Fq (fS b.2.2.2.1 s) je with
 |none=>((ck,(c9,(bH,(bH,(dC,(dT,())))))),2)
 |some s'=>match dP aE (fS b.2.2.1 e) mG with
  |none=>((ck,(c9,(bH,(bH,(dC,(dT,())))))),2)
  |some r'=>((b.1,(b.2.1,(r',(s',b.2.2.2.2)))),0)
theorem W0(N:Nat){b:aq}(w:gE b):aax N b=some b:=by
 unfold aax
 have h1:=w.m;have h2:=w.a;have h3:=w.r;have h4:=w.s;have h5:=w.p;have h6:=w.o
 rw[wT N ω,ar,wT N ω,ar,wT N ω,ar,wT N ω,ar,wT N ω,ar,wT N ω,ar]
end VM
end
