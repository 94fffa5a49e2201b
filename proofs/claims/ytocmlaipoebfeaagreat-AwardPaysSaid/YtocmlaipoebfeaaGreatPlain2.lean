/- A part of the proof of AwardPays of layer 25: what the functions compute, in plain words. -/
import Derived.Test.YtocmlaipoebfeaaGreatPlain1
set_option linter.all false
section
namespace VM
open Go VM.F
def pY(l:ay)(i:Nat):Prop:=qB (l.getD i aC)∧mG i (l.getD (i-1) aC).1 (l.getD i aC).1∧(l.take i).any (fB (l.getD i aC).2.2.1 (l.getD i aC).2.1)=false
instance(l:ay):DecidablePred (pY l):=fun i=>by unfold pY;infer_instance
def lN(l:ay):Bool:=decide (∀j,j<l.length→pY l j)&&decide (l.length≤40)
theorem Ke(N:Nat){l:ay}(hl:l.length≤100000)(hN:200000≤N):w1 N l=some (lN l):=by
 unfold w1 w1.b
 refine eE (F:=fun n i=>w1.l2 N n l l (l.length:Int) i) (pY l) (fun n i r hi hp hr=> ?_) (fun n=> ?_) N (by omega)
 ·unfold w1.l2 w1.dP
  rw[aK (by omega),atC,aP (by omega) (by omega),atC]
  simp only[atE,auk,aui]
  rw[ar (x:=(i:Int)+1) (by omega) (by omega),ae,hr,Zq,atB,cA (by omega) (by omega) (by omega) (by omega),atC,OF N (by rw[at4];omega) hN,atB,cond_not,dy]
  have hT:cond ((l.take i).any (fB (l.getD i aC).2.2.1 (l.getD i aC).2.1)) (some false) r=if(l.take i).any (fB (l.getD i aC).2.2.1 (l.getD i aC).2.1)=false then r else some false:=by
   cases(l.take i).any (fB (l.getD i aC).2.2.1 (l.getD i aC).2.1)<;>rfl
  rw[hT]
  by_cases hK:qB (l.getD i aC)
  ·rw[atK hK]
   have hD:(if pY l i then r else some false)=if mG i (l.getD (i-1) aC).1 (l.getD i aC).1 then(if(l.take i).any (fB (l.getD i aC).2.2.1 (l.getD i aC).2.1)=false then r else some false)else some false:=by
    by_cases h1:mG i (l.getD (i-1) aC).1 (l.getD i aC).1<;>by_cases h2:(l.take i).any (fB (l.getD i aC).2.2.1 (l.getD i aC).2.1)=false
    ·rw[atK h1,atK h2,atK ⟨hK,h1,h2⟩]
    ·rw[atK h1,atL h2,atL (fun h=>h2 h.2.2)]
    ·rw[atL h1,atL (fun h=>h1 h.2.1)]
    ·rw[atL h1,atL (fun h=>h1 h.2.1)]
   rw[hD]
   by_cases h0:0<i
   ·have e:W .i64 ((i:Int)-1)=((i-1:Nat):Int):=by rw[ar (by omega) (by omega)];omega
    rw[aK (x:=0) (y:=(i:Int)) (by omega),atC,e,atE,aP (by omega) (by omega),atC,bO]
    by_cases h1:mG i (l.getD (i-1) aC).1 (l.getD i aC).1
    ·rw[atK h1,atL (by unfold mG at h1;omega)]
    ·rw[atL h1,atK (by unfold mG at h1;omega)]
   ·rw[aH (x:=0) (y:=(i:Int)) (by omega),atH,atK (show mG i (l.getD (i-1) aC).1 (l.getD i aC).1 from fun h=>absurd h h0)]
  ·rw[atL hK,atL (fun h=>hK h.1)]
 ·unfold w1.l2 w1.dP
  rw[aH (by omega),atH,iE]
  congr 1;rw[avj];omega
end VM
end
section
namespace VM
open Go VM.F
def dC(a b:Int):aj→List Int
 |[]=>[]
 |x::t=>if x.1=a∧x.2.1=b then eO x::dC a b t else dC a b t
theorem gC(a b:Int)(x:cE)(t:aj):dC a b (x::t)=if x.1=a∧x.2.1=b then eO x::dC a b t else dC a b t:=rfl
def bT(a b:Int)(l:aj):Int:=(dC a b l).sum
theorem LW(a b:Int):bT a b []=0:=rfl
theorem dQ(a b:Int)(x:cE)(t:aj):bT a b (x::t)=(if x.1=a∧x.2.1=b then eO x else 0)+bT a b t:=by
 unfold bT
 rw[gC]
 split
 ·rw[aue]
 ·omega
theorem m1{a b:Int}: ∀{l:aj},(∀x∈l,¬(x.1=a∧x.2.1=b))→bT a b l=0
 |[],_=>rfl
 |x::t,h=>by
  rw[dQ,atL (h x (atS ..)),m1 (fun y hy=>h y (atM _ hy))];rfl
abbrev bY:=Int×Int
def qN(x y:bY):Prop:=iZ x.1 x.2 y.1 y.2
instance(x y:bY):Decidable (qN x y):=by unfold qN;infer_instance
def keyOf(x:cE):bY:=(x.1,x.2.1)
def sN(K:List bY):Prop:=K.Pairwise qN
theorem pZ{x:bY}(h:qN x x):False:=by unfold qN iZ at h;omega
theorem LX{x y:bY}(h:qN x y)(k:qN y x):False:=by unfold qN iZ at*;omega
theorem so{x y z:bY}(h:qN x y)(k:qN y z):qN x z:=by unfold qN iZ at*;omega
theorem Kf(x y:bY):qN x y∨x=y∨qN y x:=by
 have:(x.1=y.1∧x.2=y.2)→x=y:=fun h=>awC h.1 h.2
 unfold qN iZ
 by_cases h1:x.1=y.1
 ·by_cases h2:x.2=y.2
  ·exact Or.inr (Or.inl (this ⟨h1,h2⟩))
  ·omega
 ·omega
theorem Kg: ∀{a b:List bY},sN a→sN b→(∀x,x∈a↔x∈b)→a=b
 |[],[],_,_,_=>rfl
 |[],y::t,_,_,h=>nomatch (h y).2 (atS ..)
 |x::s,[],_,_,h=>nomatch (h x).1 (atS ..)
 |x::s,y::t,ha,hb,h=>by
  obtain⟨ha1,ha2⟩:=auz.1 ha
  obtain⟨jS,th⟩:=auz.1 hb
  have hxy:x=y:=by
   rcases atZ.1 ((h x).1 (atS ..))with e|e
   ·exact e
   ·rcases atZ.1 ((h y).2 (atS ..))with f|f
    ·exact f.symm
    ·exact(LX (ha1 y f) (jS x e)).elim
  subst hxy
  rw[Kg ha2 th fun z=>⟨fun hz=> ?_,fun hz=> ?_⟩]
  ·rcases atZ.1 ((h z).1 (atM _ hz))with e|e
   ·subst e;exact(pZ (ha1 z hz)).elim
   ·exact e
  ·rcases atZ.1 ((h z).2 (atM _ hz))with e|e
   ·subst e;exact(pZ (jS z hz)).elim
   ·exact e
def ew(P:Int→Prop) [DecidablePred P](f:Int→Int→Int):List bY→Option aj
 |[]=>some []
 |k::t=>if P (f k.1 k.2)then(ew P f t).map (fun o=>if f k.1 k.2=0 then o else(k.1,(k.2,(f k.1 k.2,())))::o)else none
theorem jc(P:Int→Prop) [DecidablePred P](f:Int→Int→Int)(k:bY)(t:List bY):ew P f (k::t)=if P (f k.1 k.2)then(ew P f t).map (fun o=>if f k.1 k.2=0 then o else(k.1,(k.2,(f k.1 k.2,())))::o)else none:=rfl
theorem w3{P:Int→Prop} [DecidablePred P](h0:P 0){f:Int→Int→Int}(p:bY→Bool): ∀{K:List bY},(∀k∈K,p k=false→f k.1 k.2=0)→ew P f (K.filter p)=ew P f K
 |[],_=>rfl
 |k::t,h=>by
  have ih:=w3 h0 p (K:=t) (fun x hx=>h x (atM _ hx))
  cases hp:p k
  ·rw[List.filter_cons_of_neg (by rw[hp];decide),ih,jc,h k (atS ..) hp,atK h0]
   simp
  ·rw[List.filter_cons_of_pos hp,jc,jc,ih]
theorem Fp{P:Int→Prop} [DecidablePred P](h0:P 0){f:Int→Int→Int}{K G:List bY}(hK:sN K)(hG:sN G)(hs: ∀k∈K,k∈G)(hz: ∀k∈G,k∉K→f k.1 k.2=0):ew P f K=ew P f G:=by
 have e:K=G.filter (fun k=>decide (k∈K)):=by
  refine Kg hK (avR List.filter_sublist hG) fun x=> ?_
  rw[awZ]
  exact⟨fun h=>⟨hs x h,at1 h⟩,fun h=>atY h.2⟩
 rw[e]
 exact w3 h0 _ fun k hk hp=>hz k hk (of_decide_eq_false hp)
def rH(k:bY):List bY→List bY
 |[]=>[k]
 |x::t=>if qN x k then x::rH k t else if x=k then x::t else k::x::t
theorem m2{k x:bY}: ∀{K:List bY},x∈rH k K↔x=k∨x∈K
 |[]=>by show x∈[k]↔_;simp
 |y::t=>by
  show x∈(if qN y k then y::rH k t else if y=k then y::t else k::y::t)↔_
  split
  ·rw[atZ,m2,atZ]
   exact⟨fun h=>h.elim (fun e=>Or.inr (Or.inl e)) (fun h=>h.elim Or.inl (fun h=>Or.inr (Or.inr h))),fun h=>h.elim (fun e=>Or.inr (Or.inl e)) (fun h=>h.elim Or.inl (fun h=>Or.inr (Or.inr h)))⟩
  ·split
   ·rename_i e
    rw[←e]
    exact⟨Or.inr,fun h=>h.elim (fun e=>e▸atS ..) id⟩
   ·rw[atZ]
theorem u9{k:bY}: ∀{K:List bY},sN K→sN (rH k K)
 |[],_=>auz.2 ⟨fun _ h=>(nomatch h),List.Pairwise.nil⟩
 |y::t,h=>by
  obtain⟨h1,h2⟩:=auz.1 h
  show sN (if qN y k then y::rH k t else if y=k then y::t else k::y::t)
  split
  ·rename_i hy
   exact auz.2 ⟨fun z hz=>(m2.1 hz).elim (fun e=>e▸hy) (h1 z),u9 h2⟩
  ·rename_i hy
   split
   ·exact h
   ·rename_i he
    have hk:qN k y:=(Kf y k).elim (fun h=>absurd h hy) (fun h=>h.elim (fun h=>absurd h he) id)
    exact auz.2 ⟨fun z hz=>(atZ.1 hz).elim (fun e=>e▸hk) (fun hz=>so hk (h1 z hz)),h⟩
def jF(K:List bY)(E:aj):List bY:=E.foldl (fun K x=>rH (keyOf x) K) K
theorem om(K:List bY)(x:cE)(E:aj):jF K (x::E)=jF (rH (keyOf x) K) E:=rfl
theorem tH: ∀{E:aj} {K:List bY},sN K→sN (jF K E)
 |[],_,h=>h
 |x::E,K,h=>by rw[om];exact tH (u9 h)
theorem iP{k:bY}: ∀{E:aj} {K:List bY},k∈jF K E↔(k∈K∨ ∃x∈E,keyOf x=k)
 |[],K=>by
  show k∈K↔_
  simp
 |x::E,K=>by
  rw[om,iP,m2]
  constructor
  ·rintro((rfl|h)|⟨y,hy,e⟩)
   ·exact Or.inr ⟨x,atS ..,rfl⟩
   ·exact Or.inl h
   ·exact Or.inr ⟨y,atM _ hy,e⟩
  ·rintro(h|⟨y,hy,e⟩)
   ·exact Or.inl (Or.inr h)
   ·rcases atZ.1 hy with rfl|hy
    ·exact Or.inl (Or.inl e.symm)
    ·exact Or.inr ⟨y,hy,e⟩
theorem zp(k:bY): ∀K:List bY,(rH k K).length≤K.length+1
 |[]=>atP _
 |y::t=>by
  show(if qN y k then y::rH k t else if y=k then y::t else k::y::t).length≤_
  have:=zp k t
  split
  ·rw[atN,atN];omega
  ·split<;>rw[atN]<;>(try rw[atN])<;>omega
def rowsOf(l:aj)(K:List bY):aj:=K.map fun k=>(k.1,(k.2,(bT k.1 k.2 l,())))
theorem oq{l:aj}(h:sN (l.map keyOf)):rowsOf l (l.map keyOf)=l:=by
 have key: ∀(m:aj),sN (m.map keyOf)→(∀x∈m,bT x.1 x.2.1 l=eO x)→rowsOf l (m.map keyOf)=m:=by
  intro m
  induction m with
  |nil=>intro _ _;rfl
  |cons x t ih=>
   intro hm hx
   have:=ih (auz.1 hm).2 (fun y hy=>hx y (atM _ hy))
   unfold rowsOf at*
   rw[at7,at7,this]
   congr 1
   show(x.1,(x.2.1,(bT x.1 x.2.1 l,())))=x
   rw[hx x (atS ..)];rfl
 refine key l h ?_
 clear key
 induction l with
 |nil=>intro x hx;nomatch hx
 |cons y t ih=>
  intro x hx
  obtain⟨h1,h2⟩:=auz.1 h
  have ib: ∀z∈t,¬(z.1=y.1∧z.2.1=y.2.1):=fun z hz e=>by
   have hk:=h1 (keyOf z) (auC hz)
   have he:keyOf z=keyOf y:=awC e.1 e.2
   rw[he]at hk
   exact pZ hk
  rw[dQ]
  rcases atZ.1 hx with rfl|hx
  ·rw[atK ⟨rfl,rfl⟩,m1 ib];omega
  ·rw[atL (fun e=>ib x hx ⟨e.1.symm,e.2.symm⟩),ih h2 x hx];omega
end VM
end
section
namespace VM
open Go VM.F
instance(x:Int):Decidable (aD x):=by unfold aD;infer_instance
def Fq(x:Int):Prop:=aD x∧uc x
instance:DecidablePred Fq:=fun x=>by unfold Fq;infer_instance
def p3(r:Option aj):Option (aj×Int):=some (match r with|some o=>(o,0)|none=>([],2))
def fS(l E:aj)(a b:Int):Int:=bT a b l+bT a b E
theorem yi{α:Type}(N:Nat){l:List α}{i:Nat}{x:α}(hi:i≤l.length)(hl:l.length<1000000):lZ N l (i:Int) [x]=some (l.take i++x::l.drop i):=by
 unfold lZ
 rw[atK ⟨by omega,by omega,rfl,by unfold uh;omega⟩]
 rfl
theorem oM{α:Type}(N:Nat){l:List α}(hl:l.length≤1000000):iI N l=some l:=by
 unfold iI
 rw[atK (by unfold uh;omega)]
theorem zq(N:Nat){v:Int}(h:eM v):It N (dk v)=some (A7 v):=RX N h.1 h.2
theorem C8{v:Int}(h:aD v):A7 v=(v,true):=by unfold A7;exact atK h
theorem C9{v:Int}(h: ¬aD v):A7 v=(0,false):=by unfold A7;exact atL h
theorem BR{ws:List Int}{x:Int}(h: ∀y∈ws,aD y)(hx:aD x): ∀y∈ws++[x],aD y:=fun y hy=>by
 rcases atU.1 hy with hy|hy
 ·exact h y hy
 ·rw[at2.1 hy];exact hx
theorem Fs(N:Nat){l:aj}:Sd N l=some l:=by
 unfold Sd
 rw[cA (by omega) (by omega) (by omega) (by omega),atC]
 simp
theorem OH(N:Nat)(hN:2000000≤N)(K:bu.qC){E out R:aj}(hq:eF E)(hl:E.length≤100000)(ho:out.length≤1000000)(r:cE)(hr:aD (eO r))(i:Nat)(hi:i≤1000000):
  bu.Xu N K N E out r [dk (eO r)] R (R.length:Int) (i:Int) E (E.length:Int) 0=
   if Fq (eO r+bT r.1 r.2.1 E)then K E (if eO r+bT r.1 r.2.1 E=0 then out else out++[(r.1,(r.2.1,(eO r+bT r.1 r.2.1 E,())))]) R (R.length:Int) ((i+1:Nat):Int)else some (ba,(2:Int)):=by
 have:=pQ E aZ (fun n j ws=>bu.Xu N K n E out r (ws.map dk) R (R.length:Int) (i:Int) E (E.length:Int) j)
  (fun t ws=>if Fq (ws++dC r.1 r.2.1 t).sum then K E (if(ws++dC r.1 r.2.1 t).sum=0 then out else out++[(r.1,(r.2.1,((ws++dC r.1 r.2.1 t).sum,())))]) R (R.length:Int) ((i+1:Nat):Int)else some (ba,(2:Int)))
  (fun j (ws:List Int)=>ws.length≤j+1∧ ∀x∈ws,aD x)
  (fun n j ws hj hI dU=> ?_) (fun n ws hI=> ?_) E.length N 0 [eO r] (by omega) (by omega) (by omega) ⟨atP _,fun x hx=>by rw[at2.1 hx];exact hr⟩
 ·rw[show((0:Nat):Int)=0 from rfl,aui]at this
  refine this.trans ?_
  have e:([eO r]++dC r.1 r.2.1 E).sum=eO r+bT r.1 r.2.1 E:=by rw[aws,aue];rfl
  rw[e]
 ·unfold bu.Xu bu.Se
  have qM:=vX hq j
  have gA:=qM
  unfold aD eO at gA
  rw[aK (by omega),atC,aP (by omega) (by omega),atC,atE,rB N gA.1 gA.2,atB,bF (by rw[aud,atG];omega),atC,ar (x:=(j:Int)+1) (by omega) (by omega),ae,aI,aI]
  by_cases h1:(E.getD j aZ).1=r.1
  ·by_cases h2:(E.getD j aZ).2.1=r.2.1
   ·have hc:dC r.1 r.2.1 (E.getD j aZ::E.drop (j+1))=eO (E.getD j aZ)::dC r.1 r.2.1 (E.drop (j+1)):=by rw[gC,atK ⟨h1,h2⟩]
    rw[atK h1,atK h2,hc]
    have:=dU (ws++[eO (E.getD j aZ)]) ⟨by rw[atJ,atG];omega,BR hI.2 qM⟩
    rw[aus]at this
    refine this.trans ?_
    rw[atV];rfl
   ·have hc:dC r.1 r.2.1 (E.getD j aZ::E.drop (j+1))=dC r.1 r.2.1 (E.drop (j+1)):=by rw[gC,atL (fun h=>h2 h.2)]
    rw[atK h1,atL h2,hc]
    exact dU ws ⟨by omega,hI.2⟩
  ·have hc:dC r.1 r.2.1 (E.getD j aZ::E.drop (j+1))=dC r.1 r.2.1 (E.drop (j+1)):=by rw[gC,atL (fun h=>h1 h.1)]
   rw[atL h1,hc]
   exact dU ws ⟨by omega,hI.2⟩
 ·unfold bu.Xu bu.Se
  have hs:=BQ hI.2 (by omega)
  rw[aH (by omega),atH,C4 N hI.2 (by omega) (by omega),atB]
  show _=if Fq (ws++[]).sum then K E (if(ws++[]).sum=0 then out else out++[(r.1,(r.2.1,((ws++[]).sum,())))]) R (R.length:Int) ((i+1:Nat):Int)else some (ba,(2:Int))
  rw[auh,zq N hs,atB]
  by_cases h1:aD ws.sum
  ·rw[C8 h1]
   dsimp only
   rw[at3,atH,oh,atB,cond_not,dy,cond_not,aI,bF (by rw[atG];omega),atC,ar (x:=(i:Int)+1) (by omega) (by omega),ae]
   by_cases h2:uc ws.sum
   ·rw[atK h2,atK (show Fq ws.sum from⟨h1,h2⟩)]
    split<;>rfl
   ·rw[atL h2,atL (fun h=>h2 h.2)]
  ·rw[C9 h1,atL (fun h=>h1 h.1)]
   rfl
theorem LY(N:Nat)(hN:2000000≤N){l E R:aj}(hq:eF E)(hl:E.length≤100000)(hR:R.length≤200000)(hv: ∀r∈R,aD (eO r)∧eO r=bT r.1 r.2.1 l):
  bu.BS N N E [] R (R.length:Int) 0=p3 (ew Fq (fS l E) (R.map keyOf)):=by
 have:=pQ R aZ (fun n i out=>bu.BS N n E out R (R.length:Int) i) (fun t out=>p3 ((ew Fq (fS l E) (t.map keyOf)).map (fun o=>out++o))) (fun i (out:aj)=>out.length≤i)
  (fun n i out hi hI hr=> ?_) (fun n out hI=> ?_) R.length N 0 [] (by omega) (by omega) (by omega) (atP _)
 ·rw[show((0:Nat):Int)=0 from rfl,aui]at this
  refine this.trans ?_
  simp
 ·unfold bu.BS bu.Ft
  have hm:R.getD i aZ∈R:=by
   rw[atD,atI hi];exact aun hi
  have Nt:=hv _ hm
  have qM:=Nt.1
  have gA:=qM
  unfold aD eO at gA
  rw[aK (by omega),atC,aP (by omega) (by omega),atC,atE,rB N gA.1 gA.2,atB]
  refine(OH N hN _ hq hl (by omega) _ qM i (by omega)).trans ?_
  rw[at7,jc]
  have ef:fS l E (keyOf (R.getD i aZ)).1 (keyOf (R.getD i aZ)).2=eO (R.getD i aZ)+bT (R.getD i aZ).1 (R.getD i aZ).2.1 E:=by
   show bT _ _ l+bT _ _ E=_
   rw[Nt.2];rfl
  rw[ef]
  generalize hS:eO (R.getD i aZ)+bT (R.getD i aZ).1 (R.getD i aZ).2.1 E=v
  by_cases hF:Fq v
  ·rw[atK hF,atK hF,hr _ (by
    split
    ·omega
    ·rw[atJ,atG];omega)]
   cases ew Fq (fS l E) ((R.drop (i+1)).map keyOf)with
   |none=>rfl
   |some o=>
    show p3 (some _)=p3 (some _)
    congr 2
    split
    ·rfl
    ·exact atV _ _ _
  ·rw[atL hF,atL hF];rfl
 ·unfold bu.BS bu.Ft
  rw[aH (by omega),atH,Fs,atB]
  show _=p3 (some (out++[]))
  rw[auh];rfl
def Fu(l:aj)(k:bY):cE:=(k.1,(k.2,(bT k.1 k.2 l,())))
theorem cM(l:aj)(K:List bY):(rowsOf l K).length=K.length:=aud ..
theorem BT(l:aj){K:List bY}{p:Nat}(h:p<K.length):(rowsOf l K).getD p aZ=Fu l (K.getD p (0,0)):=by
 unfold rowsOf
 rw[atD,auY,atI h,atD,atI h];rfl
theorem p4(l:aj)(K:List bY)(p:Nat)(k:bY):(rowsOf l K).take p++Fu l k::(rowsOf l K).drop p=rowsOf l (K.take p++k::K.drop p):=by
 unfold rowsOf
 rw[aus,at7,List.map_take,List.map_drop];rfl
theorem w4(l:aj)(K:List bY):(rowsOf l K).map keyOf=K:=by
 unfold rowsOf
 rw[List.map_map]
 induction K with
 |nil=>rfl
 |cons k t ih=>rw[at7,ih];rfl
theorem vb{k x:bY}:0<vR k.1 k.2 x.1 x.2↔qN x k:=by
 unfold vR qN iZ;split<;>omega
theorem sq{k x:bY}:vR k.1 k.2 x.1 x.2=0↔x=k:=by
 have:x=k↔x.1=k.1∧x.2=k.2:=⟨fun h=>h▸⟨rfl,rfl⟩,fun h=>awC h.1 h.2⟩
 rw[this]
 unfold vR;split<;>omega
def vd(k:bY):Prop:=wX k.1∧wX k.2
theorem Kh{k:bY}{K:List bY}{p:Nat}(h:p<K.length):rH k (K.drop p)=if qN (K.getD p (0,0)) k then K.getD p (0,0)::rH k (K.drop (p+1))else if K.getD p (0,0)=k then K.drop p else k::K.drop p:=by
 rw[drop_cons h (0,0)];rfl
theorem ve{K:List bY}{p:Nat}(h:p<K.length)(t:List bY):K.take p++K.getD p (0,0)::t=K.take (p+1)++t:=by
 rw[←avD h,atV,atD,atI h];rfl
def zeroAt(l:aj)(K:List bY)(k:bY):Prop:=k∉K→bT k.1 k.2 l=0
theorem sr{l:aj}{k:bY}(h:bT k.1 k.2 l=0):((k.1,(k.2,((0:Int),()))):cE)=Fu l k:=by
 unfold Fu;rw[h]
theorem p5{k:bY}{K:List bY}{p:Nat}(hs:sN K)(hp: ∀x∈K.take p,qN x k)(h: ∀x∈K.drop p,qN k x):k∉K:=fun hk=>by
 rw[←auq p K]at hk
 rcases atU.1 hk with hk|hk
 ·exact pZ (hp k hk)
 ·exact pZ (h k hk)
theorem Ki{k:bY}{K:List bY}{p:Nat}(hs:sN K)(h:p<K.length)(h1: ¬qN (K.getD p (0,0)) k)(h2:K.getD p (0,0)≠k): ∀x∈K.drop p,qN k x:=by
 have hk:qN k (K.getD p (0,0)):=(Kf (K.getD p (0,0)) k).elim (fun h=>absurd h h1) (fun h=>h.elim (fun h=>absurd h h2) id)
 have hd:sN (K.drop p):=avR (List.drop_sublist ..) hs
 rw[drop_cons h (0,0)]at hd ⊢
 intro x hx
 rcases atZ.1 hx with rfl|hx
 ·exact hk
 ·exact so hk ((auz.1 hd).1 x hx)
theorem Xv(N:Nat)(C:bu.fb){l E S:aj}{K:List bY}(hs:sN K)(hl:K.length≤100000)(hf: ∀k∈K,vd k)(x:cE)(hx:vd (keyOf x))(hz:zeroAt l K (keyOf x))(len:Int)(i:Nat)(hi:i≤1000000):
  ∀(m n p:Nat),K.length-p≤m→m<n→p≤K.length→(∀y∈K.take p,qN y (keyOf x))→
   bu.sL N C n E (rowsOf l K) x (p:Int) S len (i:Int)=C E (rowsOf l (K.take p++rH (keyOf x) (K.drop p))) S len ((i+1:Nat):Int)
 |m,0,p,_,hn,_,_=>by omega
 |m,n+1,p,hm,hn,hp,hb=>by
  unfold bu.sL bu.rF bu.j18 bu.Zs
  rw[cM,ar (x:=(i:Int)+1) (by omega) (by omega),ae i]
  by_cases h:p<K.length
  ·have hfk:=hf (K.getD p (0,0)) (by rw[atD,atI h];exact aun h)
   have ho:LF N x.1 x.2.1 ((rowsOf l K).getD p aZ)=some (vR (keyOf x).1 (keyOf x).2 (K.getD p (0,0)).1 (K.getD p (0,0)).2):=by
    rw[BT l h]
    exact BO N hx.1 hx.2 hfk.1 hfk.2
   rw[aK (by omega),atC,aP (by omega) (by omega),atC,atE,ho,atB,cS (x:=(p:Int)) (by omega),atH,atC,atB,cg,cond_not,aI,Kh h]
   by_cases h1:qN (K.getD p (0,0)) (keyOf x)
   ·rw[atK (vb.2 h1),atK h1,ar (x:=(p:Int)+1) (by omega) (by omega),ae p,ve h]
    refine Xv N C hs hl hf x hx hz len i hi (m-1) n (p+1) (by omega) (by omega) (by omega) fun y hy=> ?_
    rw[←avD h]at hy
    rcases atU.1 hy with hy|hy
    ·exact hb y hy
    ·rw[atD,atI h]at h1
     rw[at2.1 hy];exact h1
   ·rw[atL (fun h=>h1 (vb.1 h)),atL h1]
    by_cases h2:K.getD p (0,0)=keyOf x
    ·rw[atK (sq.2 h2),atK h2,auq]
    ·rw[atL (fun h=>h2 (sq.1 h)),atL h2,yi N (by rw[cM];omega) (by rw[cM];omega),atB]
     have AE:=hz (p5 hs hb (Ki hs h h1 h2))
     have e:=p4 l K p (keyOf x)
     rw[←sr AE]at e
     exact avh (fun R=>C E R S len ((i+1:Nat):Int)) e
  ·have hd:K.drop p=[]:=avO (by omega)
   rw[aH (by omega),atH,cz (by omega),atC,yi N (by rw[cM];omega) (by rw[cM];omega),atB]
   have AE:=hz (p5 hs hb (by rw[hd];exact fun x hx=>nomatch hx))
   have e:=p4 l K p (keyOf x)
   rw[←sr AE]at e
   have e2:rH (keyOf x) (K.drop p)=keyOf x::K.drop p:=by rw[hd];rfl
   rw[e2]
   exact avh (fun R=>C E R S len ((i+1:Nat):Int)) e
end VM
end
section
namespace VM
open Go VM.F
def BU(E:aj)(i:Nat):Prop:=fa (dB (i:Int) E).sum 0
instance(E:aj):DecidablePred (BU E):=fun i=>by unfold BU;infer_instance
theorem Sf(N:Nat)(hN:2000000≤N)(K:eo.bQ){E:aj}(hq:eF E)(hl:E.length≤100000)(a:Nat)(ha:a<6):
  eo.l6 N K N E (a:Int) [] (a:Int) E (E.length:Int) 0=if(dB (a:Int) E).sum=0 then K E ((a+1:Nat):Int)else some false:=by
 have:=pQ E aZ (fun n j ws=>eo.l6 N K n E (a:Int) (ws.map dk) (a:Int) E (E.length:Int) j)
  (fun t ws=>if(ws++dB (a:Int) t).sum=0 then K E ((a+1:Nat):Int)else some false)
  (fun j (ws:List Int)=>ws.length≤j∧ ∀x∈ws,aD x)
  (fun n j ws hj hI hr=> ?_) (fun n ws hI=> ?_) E.length N 0 [] (by omega) (by omega) (by omega) ⟨atP _,fun x hx=>nomatch hx⟩
 ·rw[show((0:Nat):Int)=0 from rfl,aui]at this
  exact this
 ·unfold eo.l6 eo.oX
  have qM:=vX hq j
  have gA:=qM
  unfold aD eO at gA
  rw[aK (by omega),atC,aP (by omega) (by omega),atC,atE,rB N gA.1 gA.2,atB,bF (by rw[aud,atG];omega),atC,ar (x:=(j:Int)+1) (by omega) (by omega),ae j,aI]
  by_cases h1:(E.getD j aZ).2.1=(a:Int)
  ·have hc:dB (a:Int) (E.getD j aZ::E.drop (j+1))=eO (E.getD j aZ)::dB (a:Int) (E.drop (j+1)):=by rw[eP,atK h1]
   rw[atK h1,hc]
   have:=hr (ws++[eO (E.getD j aZ)]) ⟨by rw[atJ,atG];omega,BR hI.2 qM⟩
   rw[aus]at this
   refine this.trans ?_
   rw[atV];rfl
  ·have hc:dB (a:Int) (E.getD j aZ::E.drop (j+1))=dB (a:Int) (E.drop (j+1)):=by rw[eP,atL h1]
   rw[atL h1,hc]
   exact hr ws ⟨by omega,hI.2⟩
 ·unfold eo.l6 eo.oX
  rw[aH (by omega),atH,C4 N hI.2 (by omega) (by omega),atB]
  show _=if(ws++[]).sum=0 then K E ((a+1:Nat):Int)else some false
  rw[auh,at3,atH,u5,atB,cond_not,aI,ar (x:=(a:Int)+1) (by omega) (by omega),ae a]
  by_cases h:ws.sum=0
  ·rw[atK h,atK (lf.2 h)]
  ·rw[atL h,atL (fun k=>h (lf.1 k))]
theorem OI(N:Nat)(hN:2000000≤N){E:aj}(hq:eF E)(hl:E.length≤100000):eo N E=some (decide (∀j,j<iO→BU E j)&&true):=by
 unfold eo eo.b
 refine eE (len:=iO) (F:=fun n i=>eo.l2 N n E i) (BU E) (fun n i r hi hp hr=> ?_) (fun n=> ?_) N (by unfold iO;omega)
 ·unfold eo.l2 eo.dP
  unfold iO at hi
  rw[aK (by omega),atC,Sf N hN _ hq hl i hi,hr]
  unfold BU fa
  rfl
 ·unfold eo.l2 eo.dP
  rw[aH (by unfold iO;omega),atH]
structure OJ(E:aj):Prop where
 place: ∀x∈E,bN x.1 x.2.1
 q: ∀x∈E,aD (eO x)∧uc (eO x)
 len:E.length≤400
 flat: ∀i:Int,(dB i E).sum=0
theorem BV{x:cE}(h:bN x.1 x.2.1):vd (keyOf x):=by
 have h':bN (keyOf x).1 (keyOf x).2:=h
 unfold bN at h'
 unfold vd wX
 omega
theorem fC{l:aj}{k:bY}(h:k∉l.map keyOf):bT k.1 k.2 l=0:=m1 fun x hx e=>h (by
 have:keyOf x=k:=awC e.1 e.2
 rw[←this];exact auC hx)
theorem LZ(N:Nat)(hN:2000000≤N){l E:aj}(hq:eF E)(hE:E.length≤400)(hp: ∀x∈E,vd (keyOf x))(hs:sN (l.map keyOf))(hl:l.length≤90000)(Zt:eF l)(OK: ∀x∈l,vd (keyOf x)):
  bu.ot N N E l E (E.length:Int) 0=p3 (ew Fq (fS l E) (jF (l.map keyOf) E)):=by
 have:=pQ E aZ (fun n i K=>bu.ot N n E (rowsOf l K) E (E.length:Int) i) (fun t K=>p3 (ew Fq (fS l E) (jF K t)))
  (fun i (K:List bY)=>K.length≤l.length+i∧sN K∧(∀k∈K,vd k)∧ ∀x∈l,keyOf x∈K)
  (fun n i K hi hI hr=> ?_) (fun n K hI=> ?_) E.length N 0 (l.map keyOf) (by omega) (by omega) (by omega) ⟨by rw[aud];omega,hs,fun k hk=>by
   obtain⟨x,hx,rfl⟩:=auy.1 hk
   exact OK x hx,fun x hx=>auC hx⟩
 ·rw[show((0:Nat):Int)=0 from rfl,aui]at this
  simp only[oq hs]at this
  exact this
 ·unfold bu.ot bu.mg
  obtain⟨h1,h2,h3,h4⟩:=hI
  have hm:E.getD i aZ∈E:=by
   rw[atD,atI hi];exact aun hi
  rw[aK (by omega),atC,aP (by omega) (by omega),atC,atE]
  refine(Xv N _ h2 (by omega) h3 (E.getD i aZ) (hp _ hm) (fun hk=>fC fun hx=>hk (by
   obtain⟨x,hx,e⟩:=auy.1 hx
   rw[←e];exact h4 x hx)) (E.length:Int) i (by omega) K.length N 0 (by omega) (by omega) (by omega) (fun y hy=>nomatch hy)).trans ?_
  rw[auT,aug,aui,om]
  refine hr (rH (keyOf (E.getD i aZ)) K) ⟨aut (zp _ K) (by omega),u9 h2,fun k hk=>(m2.1 hk).elim (fun e=>e▸hp _ hm) (h3 k),fun x hx=>m2.2 (Or.inr (h4 x hx))⟩
 ·unfold bu.ot bu.mg
  obtain⟨h1,h2,h3,h4⟩:=hI
  rw[aH (by omega),atH,cM,bM (by omega) (by omega) (by omega),atC]
  have:=LY N hN (l:=l) (R:=rowsOf l K) hq (by omega) (by rw[cM];omega) (fun r hr=>by
   unfold rowsOf at hr
   obtain⟨k,hk,rfl⟩:=auy.1 hr
   refine⟨?_,rfl⟩
   show aD (bT k.1 k.2 l)
   by_cases OL:k∈l.map keyOf
   ·have e:rowsOf l (l.map keyOf)=l:=oq hs
    have hm:Fu l k∈rowsOf l (l.map keyOf):=auC OL
    rw[e]at hm
    exact Zt (Fu l k) hm
   ·rw[fC OL];exact⟨by decide,by decide⟩)
  rw[w4,cM]at this
  exact this
theorem gD{l:aj}(h:cP l=true):sN (l.map keyOf)∧(∀x∈l,bN x.1 x.2.1∧uc (eO x)):=by
 unfold cP at h
 rw[au8]at h
 have h':=atY h
 have get: ∀(i:Nat) (hi:i<l.length),l.getD i aZ=l[i]:=fun i hi=>by rw[atD,atI hi];rfl
 have OM: ∀i,i+1<l.length→qN (keyOf (l.getD i aZ)) (keyOf (l.getD (i+1) aZ)):=fun i hi=>(h' (i+1) hi).2.2.2 (by omega)
 have dZ: ∀j,j<l.length→ ∀i,i<j→qN (keyOf (l.getD i aZ)) (keyOf (l.getD j aZ)):=by
  intro j
  induction j with
  |zero=>intro _ i hi;omega
  |succ j ih=>
   intro hj i hi
   by_cases e:i=j
   ·rw[e];exact OM j hj
   ·exact so (ih (by omega) i (by omega)) (OM j hj)
 refine⟨?_,fun x hx=> ?_⟩
 ·refine awK.2 (av1.2 fun i j hi hj nX=> ?_)
  have:=dZ j hj i nX
  rw[get i hi,get j hj]at this
  exact this
 ·obtain⟨i,hi,e⟩:=auD hx
  have:=h' i hi
  unfold ja jB at this
  rw[get i hi,e]at this
  exact⟨this.1,this.2.2.1⟩
theorem Sg(N:Nat)(hN:2000000≤N){l E:aj}(hk:cP l=true)(hl:l.length≤90000)(Zt:eF l)(g:OJ E):bu N l E=p3 (ew Fq (fS l E) (jF (l.map keyOf) E)):=by
 obtain⟨hs,OK⟩:=gD hk
 have hE:=g.len
 unfold bu bu.b
 rw[zg N (by omega) (by omega),hk,atB,at3,atH,aH (by omega),atH]
 refine s4 E aZ (fun n i=>bu.l4 N n l E E (E.length:Int) i) (fun _=>p3 (ew Fq (fS l E) (jF (l.map keyOf) E))) (fun n i hi hr=> ?_) (fun n=> ?_) N (by omega)
 ·unfold bu.l4 bu.cY
  have hm:E.getD i aZ∈E:=by
   rw[atD,atI hi];exact aun hi
  rw[aK (by omega),atC,aP (by omega) (by omega),atC,atE,Kb,at1 (g.place _ hm),atB,at3,atH,oh,atB,
   at1 (show uc ((E.getD i aZ).2.2.1)from(g.q _ hm).2),at3,atH,ar (x:=(i:Int)+1) (by omega) (by omega),ae i]
  exact hr
 ·unfold bu.l4 bu.cY
  have hf:eo N E=some true:=by
   rw[OI N hN (fun x hx=>(g.q x hx).1) (by omega),at1 (p:= ∀j,j<iO→BU E j) (fun j _=>g.flat (j:Int))];rfl
  rw[aH (by omega),atH,hf,atB,at3,atH,oM N (by omega),atB]
  exact LZ N hN (fun x hx=>(g.q x hx).1) hE (fun x hx=>BV (g.place x hx)) hs hl Zt (fun x hx=>BV (OK x hx).1)
end VM
end
section
namespace VM
open Go VM.F
def L0(a b:Nat):Nat→List bY
 |0=>[]
 |m+1=>((a:Int),(b:Int))::L0 a (b+1) m
def BW(w a:Nat):Nat→List bY
 |0=>[]
 |m+1=>L0 a 0 w++BW w (a+1) m
theorem vf{k:bY}{a:Nat}: ∀{m b:Nat},k∈L0 a b m↔k.1=a∧(b:Int)≤k.2∧k.2<(b+m:Nat)
 |0,b=>⟨fun h=>(nomatch h),fun h=>by omega⟩
 |m+1,b=>by
  show k∈((a:Int),(b:Int))::L0 a (b+1) m↔_
  rw[atZ,vf]
  have:k=((a:Int),(b:Int))↔k.1=a∧k.2=b:=⟨fun h=>h▸⟨rfl,rfl⟩,fun h=>awC h.1 h.2⟩
  rw[this]
  omega
theorem jd{k:bY}{w:Nat}: ∀{m a:Nat},k∈BW w a m↔(a:Int)≤k.1∧k.1<(a+m:Nat)∧0≤k.2∧k.2<w
 |0,a=>⟨fun h=>(nomatch h),fun h=>by omega⟩
 |m+1,a=>by
  show k∈L0 a 0 w++BW w (a+1) m↔_
  rw[atU,vf,jd]
  omega
theorem Fv(a:Nat): ∀(m b:Nat),sN (L0 a b m)
 |0,b=>List.Pairwise.nil
 |m+1,b=>auz.2 ⟨fun k hk=>by
  have:=vf.1 hk
  show(a:Int)<k.1∨((a:Int)=k.1∧(b:Int)<k.2)
  omega,Fv a m (b+1)⟩
theorem kt(w:Nat): ∀(m a:Nat),sN (BW w a m)
 |0,a=>List.Pairwise.nil
 |m+1,a=>List.pairwise_append.2 ⟨Fv a w 0,kt w m (a+1),fun x hx y hy=>by
  have h1:=vf.1 hx
  have h2:=jd.1 hy
  show x.1<y.1∨(x.1=y.1∧x.2<y.2)
  omega⟩
theorem p6(a b:Int)(l m:aj):bT a b (l++m)=bT a b l+bT a b m:=by
 induction l with
 |nil=>rw[aug,LW];omega
 |cons x t ih=>rw[au6,dQ,dQ,ih];omega
end VM
end
section
namespace VM
open Go VM.F
def jG:List bY:=BW 6 0 25
theorem L1{l E:aj}(hk:cP l=true)(hp: ∀x∈E,bN x.1 x.2.1):ew Fq (fS l E) (jF (l.map keyOf) E)=ew Fq (fS l E) jG:=by
 obtain⟨hs,OK⟩:=gD hk
 refine Fp ⟨⟨by decide,by decide⟩,by decide⟩ (tH hs) (kt 6 25 0) (fun k hk=> ?_) (fun k hk hn=> ?_)
 ·have:bN k.1 k.2:=by
   rcases iP.1 hk with h|⟨x,hx,rfl⟩
   ·obtain⟨x,hx,rfl⟩:=auy.1 h
    exact(OK x hx).1
   ·exact hp x hx
  unfold bN at this
  exact jd.2 (by omega)
 ·have h1:k∉l.map keyOf:=fun h=>hn (iP.2 (Or.inl h))
  have h2:k∉E.map keyOf:=fun h=>by
   obtain⟨x,hx,e⟩:=auy.1 h
   exact hn (iP.2 (Or.inr ⟨x,hx,e⟩))
  unfold fS
  rw[fC h1,fC h2];rfl
end VM
end
section
namespace VM
open Go VM.F
def ON(E:aj):Prop:= ∀x∈E,eM (eO x)
def fP(r:cE):p7:=(r.1,(r.2.1,(dk (eO r),())))
theorem Da(E:aj)(i:Nat):(E.map fP).getD i ((0:Int),((0:Int),(bR,())))=fP (E.getD i aZ):=by
 by_cases h:i<E.length
 ·rw[atD,auY,atI h,atD,atI h];rfl
 ·rw[atD,aul (by rw[aud];omega),atD,aul (by omega)];rfl
theorem Kj{l:aj}(h:ON l)(i:Nat):eM (eO (l.getD i aZ)):=by
 by_cases hi:i<l.length
 ·rw[atD,atI hi];exact h _ (aun hi)
 ·rw[atD,aul (by omega)];exact⟨by decide,by decide⟩
theorem tI{x:Int}(h:aD x):eM x:=by unfold aD at h;unfold eM;omega
theorem zr{ws:List Int}{x:Int}(h: ∀y∈ws,eM y)(hx:eM x): ∀y∈ws++[x],eM y:=fun y hy=>by
 rcases atU.1 hy with hy|hy
 ·exact h y hy
 ·rw[at2.1 hy];exact hx
theorem OO(N:Nat){l:aj}:Zu N l=some l:=Fs N
theorem OP(N:Nat)(hN:2000000≤N)(K:bw.BX){E out R:aj}(hq:ON E)(hl:E.length≤100000)(ho:out.length≤1000000)(r:cE)(hr:aD (eO r))(i:Nat)(hi:i≤1000000):
  bw.IJ N K N (E.map fP) out r [dk (eO r)] R (R.length:Int) (i:Int) (E.map fP) ((E.map fP).length:Int) 0=
   if aD (eO r+bT r.1 r.2.1 E)then K (E.map fP) (if eO r+bT r.1 r.2.1 E=0 then out else out++[(r.1,(r.2.1,(eO r+bT r.1 r.2.1 E,())))]) R (R.length:Int) ((i+1:Nat):Int)else some (ba,(2:Int)):=by
 have:=pQ E aZ (fun n j ws=>bw.IJ N K n (E.map fP) out r (ws.map dk) R (R.length:Int) (i:Int) (E.map fP) ((E.map fP).length:Int) j)
  (fun t ws=>if aD (ws++dC r.1 r.2.1 t).sum then K (E.map fP) (if(ws++dC r.1 r.2.1 t).sum=0 then out else out++[(r.1,(r.2.1,((ws++dC r.1 r.2.1 t).sum,())))]) R (R.length:Int) ((i+1:Nat):Int)else some (ba,(2:Int)))
  (fun j (ws:List Int)=>ws.length≤j+1∧ ∀x∈ws,eM x)
  (fun n j ws hj hI dU=> ?_) (fun n ws hI=> ?_) E.length N 0 [eO r] (by omega) (by omega) (by omega) ⟨atP _,fun x hx=>by rw[at2.1 hx];exact tI hr⟩
 ·rw[show((0:Nat):Int)=0 from rfl,aui]at this
  refine this.trans ?_
  have e:([eO r]++dC r.1 r.2.1 E).sum=eO r+bT r.1 r.2.1 E:=by rw[aws,aue];rfl
  rw[e]
 ·unfold bw.IJ bw.Fw
  rw[aK (by rw[aud];omega),atC,aP (by omega) (by rw[aud];omega),atC,atE,Da,bF (by rw[aud,atG];omega),atC,ar (x:=(j:Int)+1) (by omega) (by omega),ae j,aI,aI]
  by_cases h1:(E.getD j aZ).1=r.1
  ·by_cases h2:(E.getD j aZ).2.1=r.2.1
   ·have hc:dC r.1 r.2.1 (E.getD j aZ::E.drop (j+1))=eO (E.getD j aZ)::dC r.1 r.2.1 (E.drop (j+1)):=by rw[gC,atK ⟨h1,h2⟩]
    rw[atK (show(fP (E.getD j aZ)).1=r.1 from h1),atK (show(fP (E.getD j aZ)).2.1=r.2.1 from h2),hc]
    have:=dU (ws++[eO (E.getD j aZ)]) ⟨by rw[atJ,atG];omega,zr hI.2 (Kj hq j)⟩
    rw[aus]at this
    refine this.trans ?_
    rw[atV];rfl
   ·have hc:dC r.1 r.2.1 (E.getD j aZ::E.drop (j+1))=dC r.1 r.2.1 (E.drop (j+1)):=by rw[gC,atL (fun h=>h2 h.2)]
    rw[atK (show(fP (E.getD j aZ)).1=r.1 from h1),atL (show ¬(fP (E.getD j aZ)).2.1=r.2.1 from h2),hc]
    exact dU ws ⟨by omega,hI.2⟩
  ·have hc:dC r.1 r.2.1 (E.getD j aZ::E.drop (j+1))=dC r.1 r.2.1 (E.drop (j+1)):=by rw[gC,atL (fun h=>h1 h.1)]
   rw[atL (show ¬(fP (E.getD j aZ)).1=r.1 from h1),hc]
   exact dU ws ⟨by omega,hI.2⟩
 ·unfold bw.IJ bw.Fw
  rw[aH (by rw[aud];omega),atH,C0 N hI.2 (by omega) (by omega),atB]
  show _=if aD (ws++[]).sum then K (E.map fP) (if(ws++[]).sum=0 then out else out++[(r.1,(r.2.1,((ws++[]).sum,())))]) R (R.length:Int) ((i+1:Nat):Int)else some (ba,(2:Int))
  rw[auh]
  unfold Iu
  by_cases h0:eM ws.sum
  ·rw[atK h0]
   dsimp only
   rw[zq N h0,atB,at3,atH]
   by_cases h1:aD ws.sum
   ·rw[C8 h1]
    dsimp only
    rw[at3,atH,cond_not,aI,bF (by rw[atG];omega),atC,ar (x:=(i:Int)+1) (by omega) (by omega),ae i,atK h1]
    split<;>rfl
   ·rw[C9 h1,atL h1]
    rfl
  ·rw[atL h0,atL (fun h=>h0 (tI h))]
   have e:It N bR=some (A7 0):=zq N (v:=0) ⟨by decide,by decide⟩
   dsimp only
   rw[e,atB]
   rfl
theorem L4(N:Nat)(hN:2000000≤N){l E R:aj}(hq:ON E)(hl:E.length≤100000)(hR:R.length≤200000)(hv: ∀r∈R,aD (eO r)∧eO r=bT r.1 r.2.1 l):
  bw.Sh N N (E.map fP) [] R (R.length:Int) 0=p3 (ew aD (fS l E) (R.map keyOf)):=by
 have:=pQ R aZ (fun n i out=>bw.Sh N n (E.map fP) out R (R.length:Int) i) (fun t out=>p3 ((ew aD (fS l E) (t.map keyOf)).map (fun o=>out++o))) (fun i (out:aj)=>out.length≤i)
  (fun n i out hi hI hr=> ?_) (fun n out hI=> ?_) R.length N 0 [] (by omega) (by omega) (by omega) (atP _)
 ·rw[show((0:Nat):Int)=0 from rfl,aui]at this
  refine this.trans ?_
  simp
 ·unfold bw.Sh bw.Si
  have hm:R.getD i aZ∈R:=by
   rw[atD,atI hi];exact aun hi
  have Nt:=hv _ hm
  have qM:=Nt.1
  have gA:=qM
  unfold aD eO at gA
  rw[aK (by omega),atC,aP (by omega) (by omega),atC,atE,rB N gA.1 gA.2,atB]
  refine(OP N hN _ hq hl (by omega) _ qM i (by omega)).trans ?_
  rw[at7,jc]
  have ef:fS l E (keyOf (R.getD i aZ)).1 (keyOf (R.getD i aZ)).2=eO (R.getD i aZ)+bT (R.getD i aZ).1 (R.getD i aZ).2.1 E:=by
   show bT _ _ l+bT _ _ E=_
   rw[Nt.2];rfl
  rw[ef]
  generalize hS:eO (R.getD i aZ)+bT (R.getD i aZ).1 (R.getD i aZ).2.1 E=v
  by_cases hF:aD v
  ·rw[atK hF,atK hF,hr _ (by
    split
    ·omega
    ·rw[atJ,atG];omega)]
   cases ew aD (fS l E) ((R.drop (i+1)).map keyOf)with
   |none=>rfl
   |some o=>
    show p3 (some _)=p3 (some _)
    congr 2
    split
    ·rfl
    ·exact atV _ _ _
  ·rw[atL hF,atL hF];rfl
 ·unfold bw.Sh bw.Si
  rw[aH (by omega),atH,OO,atB]
  show _=p3 (some (out++[]))
  rw[auh];rfl
theorem Xw(N:Nat)(C:bw.je){l:aj}{E S:cm}{K:List bY}(hs:sN K)(hl:K.length≤100000)(hf: ∀k∈K,vd k)(x:p7)(k:bY)(hxk:(x.1,x.2.1)=k)(hx:vd k)(hz:zeroAt l K k)(len:Int)(i:Nat)(hi:i≤1000000):
  ∀(m n p:Nat),K.length-p≤m→m<n→p≤K.length→(∀y∈K.take p,qN y k)→
   bw.AG N C n E (rowsOf l K) x (p:Int) S len (i:Int)=C E (rowsOf l (K.take p++rH k (K.drop p))) S len ((i+1:Nat):Int)
 |m,0,p,_,hn,_,_=>by omega
 |m,n+1,p,hm,hn,hp,hb=>by
  unfold bw.AG bw.zs bw.j21 bw.Zv
  rw[cM,ar (x:=(i:Int)+1) (by omega) (by omega),ae i]
  have ex:((x.1,(x.2.1,((0:Int),()))):cE)=(k.1,(k.2,((0:Int),()))):=by rw[←hxk]
  by_cases h:p<K.length
  ·have hfk:=hf (K.getD p (0,0)) (by rw[atD,atI h];exact aun h)
   have ho:Iy N x.1 x.2.1 ((rowsOf l K).getD p aZ)=some (vR k.1 k.2 (K.getD p (0,0)).1 (K.getD p (0,0)).2):=by
    rw[BT l h]
    rw[←hxk]at hx ⊢
    exact ze N hx.1 hx.2 hfk.1 hfk.2
   rw[aK (by omega),atC,aP (by omega) (by omega),atC,atE,ho,atB,cS (x:=(p:Int)) (by omega),atH,atC,atB,cg,cond_not,aI,Kh h]
   by_cases h1:qN (K.getD p (0,0)) k
   ·rw[atK (vb.2 h1),atK h1,ar (x:=(p:Int)+1) (by omega) (by omega),ae p,ve h]
    refine Xw N C hs hl hf x k hxk hx hz len i hi (m-1) n (p+1) (by omega) (by omega) (by omega) fun y hy=> ?_
    rw[←avD h]at hy
    rcases atU.1 hy with hy|hy
    ·exact hb y hy
    ·rw[atD,atI h]at h1
     rw[at2.1 hy];exact h1
   ·rw[atL (fun h=>h1 (vb.1 h)),atL h1]
    by_cases h2:K.getD p (0,0)=k
    ·rw[atK (sq.2 h2),atK h2,auq]
    ·rw[atL (fun h=>h2 (sq.1 h)),atL h2,yi N (by rw[cM];omega) (by rw[cM];omega),atB]
     have AE:=hz (p5 hs hb (Ki hs h h1 h2))
     have e:=p4 l K p k
     rw[←sr AE]at e
     refine Eq.trans ?_ (avh (fun R=>C E R S len ((i+1:Nat):Int)) e)
     exact avh (fun z:cE=>C E ((rowsOf l K).take p++z::(rowsOf l K).drop p) S len ((i+1:Nat):Int)) ex
  ·have hd:K.drop p=[]:=avO (by omega)
   rw[aH (by omega),atH,cz (by omega),atC,yi N (by rw[cM];omega) (by rw[cM];omega),atB]
   have AE:=hz (p5 hs hb (by rw[hd];exact fun x hx=>nomatch hx))
   have e:=p4 l K p k
   rw[←sr AE]at e
   have e2:rH k (K.drop p)=k::K.drop p:=by rw[hd];rfl
   rw[e2]
   refine Eq.trans ?_ (avh (fun R=>C E R S len ((i+1:Nat):Int)) e)
   exact avh (fun z:cE=>C E ((rowsOf l K).take p++z::(rowsOf l K).drop p) S len ((i+1:Nat):Int)) ex
theorem L7(N:Nat)(hN:2000000≤N){l E:aj}(hq:ON E)(hE:E.length≤400)(hp: ∀x∈E,vd (keyOf x))(hs:sN (l.map keyOf))(hl:l.length≤90000)(Zt:eF l)(OK: ∀x∈l,vd (keyOf x)):
  bw.sL N N (E.map fP) l (E.map fP) ((E.map fP).length:Int) 0=p3 (ew aD (fS l E) (jF (l.map keyOf) E)):=by
 have:=pQ E aZ (fun n i K=>bw.sL N n (E.map fP) (rowsOf l K) (E.map fP) ((E.map fP).length:Int) i) (fun t K=>p3 (ew aD (fS l E) (jF K t)))
  (fun i (K:List bY)=>K.length≤l.length+i∧sN K∧(∀k∈K,vd k)∧ ∀x∈l,keyOf x∈K)
  (fun n i K hi hI hr=> ?_) (fun n K hI=> ?_) E.length N 0 (l.map keyOf) (by omega) (by omega) (by omega) ⟨by rw[aud];omega,hs,fun k hk=>by
   obtain⟨x,hx,rfl⟩:=auy.1 hk
   exact OK x hx,fun x hx=>auC hx⟩
 ·rw[show((0:Nat):Int)=0 from rfl,aui]at this
  simp only[oq hs]at this
  exact this
 ·unfold bw.sL bw.rF
  obtain⟨h1,h2,h3,h4⟩:=hI
  have hm:E.getD i aZ∈E:=by
   rw[atD,atI hi];exact aun hi
  rw[aK (by rw[aud];omega),atC,aP (by omega) (by rw[aud];omega),atC,atE,Da]
  refine(Xw N _ h2 (by omega) h3 (fP (E.getD i aZ)) (keyOf (E.getD i aZ)) rfl (hp _ hm) (fun hk=>fC fun hx=>hk (by
   obtain⟨x,hx,e⟩:=auy.1 hx
   rw[←e];exact h4 x hx)) ((E.map fP).length:Int) i (by omega) K.length N 0 (by omega) (by omega) (by omega) (fun y hy=>nomatch hy)).trans ?_
  rw[auT,aug,aui,om]
  refine hr (rH (keyOf (E.getD i aZ)) K) ⟨aut (zp _ K) (by omega),u9 h2,fun k hk=>(m2.1 hk).elim (fun e=>e▸hp _ hm) (h3 k),fun x hx=>m2.2 (Or.inr (h4 x hx))⟩
 ·unfold bw.sL bw.rF
  obtain⟨h1,h2,h3,h4⟩:=hI
  rw[aH (by rw[aud];omega),atH,cM,bM (by omega) (by omega) (by omega),atC]
  have:=L4 N hN (l:=l) (R:=rowsOf l K) hq (by omega) (by rw[cM];omega) (fun r hr=>by
   unfold rowsOf at hr
   obtain⟨k,hk,rfl⟩:=auy.1 hr
   refine⟨?_,rfl⟩
   show aD (bT k.1 k.2 l)
   by_cases OL:k∈l.map keyOf
   ·have e:rowsOf l (l.map keyOf)=l:=oq hs
    have hm:Fu l k∈rowsOf l (l.map keyOf):=auC OL
    rw[e]at hm
    exact Zt (Fu l k) hm
   ·rw[fC OL];exact⟨by decide,by decide⟩)
  rw[w4,cM]at this
  exact this
theorem m3{l:aj}(h:ed l=true):sN (l.map keyOf)∧(∀x∈l,dA x.1 x.2.1):=by
 unfold ed at h
 rw[au8]at h
 have h':=atY h
 have get: ∀(i:Nat) (hi:i<l.length),l.getD i aZ=l[i]:=fun i hi=>by rw[atD,atI hi];rfl
 have OM: ∀i,i+1<l.length→qN (keyOf (l.getD i aZ)) (keyOf (l.getD (i+1) aZ)):=fun i hi=>(h' (i+1) hi).2.2 (by omega)
 have dZ: ∀j,j<l.length→ ∀i,i<j→qN (keyOf (l.getD i aZ)) (keyOf (l.getD j aZ)):=by
  intro j
  induction j with
  |zero=>intro _ i hi;omega
  |succ j ih=>
   intro hj i hi
   by_cases e:i=j
   ·rw[e];exact OM j hj
   ·exact so (ih (by omega) i (by omega)) (OM j hj)
 refine⟨?_,fun x hx=> ?_⟩
 ·refine awK.2 (av1.2 fun i j hi hj nX=> ?_)
  have:=dZ j hj i nX
  rw[get i hi,get j hj]at this
  exact this
 ·obtain⟨i,hi,e⟩:=auD hx
  have:=h' i hi
  unfold im iL at this
  rw[get i hi,e]at this
  exact this.1
structure OQ(E:aj):Prop where
 key: ∀x∈E,dA x.1 x.2.1
 q:ON E
 len:E.length≤400
 zero:(E.map eO).sum=0
theorem Kk{x:cE}(h:dA x.1 x.2.1):vd (keyOf x):=by
 have h':dA (keyOf x).1 (keyOf x).2:=h
 unfold dA at h'
 unfold vd wX
 omega
theorem OR(N:Nat)(hN:2000000≤N){l E:aj}(hk:ed l=true)(hl:l.length≤90000)(Zt:eF l)(g:OQ E):bw N l (E.map fP)=p3 (ew aD (fS l E) (jF (l.map keyOf) E)):=by
 obtain⟨hs,OK⟩:=m3 hk
 have hE:=g.len
 unfold bw bw.b
 rw[C2 N (by omega) (by omega),hk,atB,at3,atH,aH (by rw[aud];omega),atH,bM (by omega) (by omega) (by rw[aud];omega),atC]
 have:=pQ E aZ (fun n i (ws:List Int)=>bw.l5 N n l (E.map fP) (ws.map dk) (E.map fP) ((E.map fP).length:Int) i)
  (fun t ws=>if(ws++t.map eO).sum=0 then p3 (ew aD (fS l E) (jF (l.map keyOf) E))else none)
  (fun j (ws:List Int)=>ws.length≤j∧(ws++(E.drop j).map eO).sum=0∧ ∀x∈ws,eM x)
  (fun n i ws hi hI hr=> ?_) (fun n ws hI=> ?_) E.length N 0 [] (by omega) (by omega) (by omega) ⟨atP _,g.zero,fun x hx=>nomatch hx⟩
 ·rw[show((0:Nat):Int)=0 from rfl,aui]at this
  refine Eq.trans this ?_
  rw[aug,atK g.zero]
 ·unfold bw.l5 bw.dr
  have hm:E.getD i aZ∈E:=by
   rw[atD,atI hi];exact aun hi
  have RD:Iw N (fP (E.getD i aZ)).1 (fP (E.getD i aZ)).2.1=some true:=by
   rw[Iv]
   exact avh some (at1 (g.key _ hm))
  rw[aK (by rw[aud];omega),atC,aP (by omega) (by rw[aud];omega),atC,atE,Da,RD,atB,at3,atH,bF (by rw[aud,atG];omega),atC,ar (x:=(i:Int)+1) (by omega) (by omega),ae i]
  have h0:=hI.2.1
  rw[drop_cons hi aZ,at7]at h0
  have:=hr (ws++[eO (E.getD i aZ)]) ⟨by rw[atJ,atG];omega,by rw[atV];exact h0,zr hI.2.2 (Kj g.q i)⟩
  rw[aus]at this
  refine this.trans ?_
  rw[atV];rfl
 ·unfold bw.l5 bw.dr
  have h0:=hI.2.1
  rw[avI,avl,auh]at h0
  rw[aH (by rw[aud];omega),atH,C0 N hI.2.2 (by omega) (by omega),atB,h0]
  have e0:Iu 0=(dk 0,true):=by unfold Iu;exact atK ⟨by decide,by decide⟩
  rw[e0]
  dsimp only
  rw[at3,atH,u5,atB,show sk 0=0 from rfl,cz rfl,at3,atH,oM N (by omega),atB]
  rw[avl,auh,atK h0]
  exact L7 N hN g.q hE (fun x hx=>Kk (g.key x hx)) hs hl Zt (fun x hx=>Kk (OK x hx))
end VM
end
section
namespace VM
open Go VM.F
def jW:List bY:=BW 25 1 7
theorem OS{l E:aj}(hk:ed l=true)(hp: ∀x∈E,dA x.1 x.2.1):ew aD (fS l E) (jF (l.map keyOf) E)=ew aD (fS l E) jW:=by
 obtain⟨hs,OK⟩:=m3 hk
 refine Fp ⟨by decide,by decide⟩ (tH hs) (kt 25 7 1) (fun k hk=> ?_) (fun k hk hn=> ?_)
 ·have:dA k.1 k.2:=by
   rcases iP.1 hk with h|⟨x,hx,rfl⟩
   ·obtain⟨x,hx,rfl⟩:=auy.1 h
    exact OK x hx
   ·exact hp x hx
  unfold dA at this
  exact jd.2 (by omega)
 ·have h1:k∉l.map keyOf:=fun h=>hn (iP.2 (Or.inl h))
  have h2:k∉E.map keyOf:=fun h=>by
   obtain⟨x,hx,e⟩:=auy.1 h
   exact hn (iP.2 (Or.inr ⟨x,hx,e⟩))
  unfold fS
  rw[fC h1,fC h2];rfl
def dM(b:ag)(s e:aj):ag×Int:=
 match ew Fq (fS b.2.2.2.1 s) jG with
 |none=>((aS,(cj,(ba,(ba,(cI,(cL,())))))),2)
 |some s'=>match ew aD (fS b.2.2.1 e) jW with
  |none=>((aS,(cj,(ba,(ba,(cI,(cL,())))))),2)
  |some r'=>((b.1,(b.2.1,(r',(s',b.2.2.2.2)))),0)
theorem OT(N:Nat){b:ag}(w:tG b):Sj N b=some b:=by
 unfold Sj
 have h1:=w.m;have h2:=w.a;have h3:=w.r;have h4:=w.s;have h5:=w.p;have h6:=w.o
 rw[oM N (by omega),atB,oM N (by omega),atB,oM N (by omega),atB,oM N (by omega),atB,oM N (by omega),atB,oM N (by omega),atB]
end VM
end
section
namespace VM
open Go VM.F
theorem OU(N:Nat)(hN:2000000≤N){b:ag}{s e:aj}(w:tG b)(hr:ed b.2.2.1=true)(hs:cP b.2.2.2.1=true)(lr:b.2.2.1.length≤90000)(ls:b.2.2.2.1.length≤90000)(gs:OJ s)(ge:OQ e):
  F65 N b s (e.map fP)=some (dM b s e):=by
 unfold F65 dM
 rw[OT N w,atB,Sg N hN hs ls w.qs gs,OR N hN hr lr w.qr ge,L1 hs gs.place,OS hr ge.key]
 unfold p3
 rw[atB,atB]
 have e1:aA 2 0=false:=cS (by omega)
 have e2:aA 0 0=true:=cz rfl
 cases ew Fq (fS b.2.2.2.1 s) jG with
 |none=>dsimp only;rw[e1];rfl
 |some s'=>
  cases ew aD (fS b.2.2.1 e) jW with
  |none=>dsimp only;rw[e1,e2];rfl
  |some r'=>dsimp only;rw[e2];rfl
theorem Kl(N:Nat)(C:cW.bk){l:ay}(hl:l.length≤100000)(i:Nat)(hi:i<l.length): ∀(m n k:Nat),i-k≤m→m<n→k≤i→(l.take k).any (fB (l.getD i aC).2.2.1 (l.getD i aC).2.1)=false→
  cW.l9 N C n l (i:Int) (k:Int)=cond ((l.take i).any (fB (l.getD i aC).2.2.1 (l.getD i aC).2.1)) (some false) (C l ((i+1:Nat):Int))
 |m,0,k,_,hn,_,_=>by omega
 |m,n+1,k,hm,hn,hk,hb=>by
  unfold cW.l9 cW.s0
  by_cases h:k<i
  ·have uS:=Kl N C hl i hi (m-1) n (k+1) (by omega) (by omega) (by omega)
   have ht:(l.take (k+1)).any (fB (l.getD i aC).2.2.1 (l.getD i aC).2.1)=fB (l.getD i aC).2.2.1 (l.getD i aC).2.1 (l.getD k aC):=by
    have ek:l.getD k aC=l[k]'(by omega):=by rw[atD,atI (show k<l.length by omega)];rfl
    rw[←avD (show k<l.length by omega),List.any_append,hb,ek,List.any_cons,List.any_nil,av6,av5]
   have jN:fB (l.getD i aC).2.2.1 (l.getD i aC).2.1 (l.getD k aC)=true→(l.take i).any (fB (l.getD i aC).2.2.1 (l.getD i aC).2.1)=true:=fun hh=>by
    refine avZ.2 ⟨l.getD k aC,?_,hh⟩
    rw[atD,atI (show k<l.length by omega)]
    exact List.mem_take_iff_getElem.2 ⟨k,by omega,rfl⟩
   rw[aK (by omega),atC,aP (by omega) (by omega),atC,aP (by omega) (by omega),atC,atC,atC,atE,atE,aI,aI,ar (x:=(k:Int)+1) (by omega) (by omega),ae k]
   by_cases h1:(l.getD k aC).2.2.1=(l.getD i aC).2.2.1
   ·by_cases h2:(l.getD k aC).2.1=(l.getD i aC).2.1
    ·rw[atK h1,atK h2,jN (by unfold fB fa;rw[at1 h1,at1 h2];rfl)];rfl
    ·rw[atK h1,atL h2]
     exact uS (by rw[ht];unfold fB fa;rw[at6 h2,aw6])
   ·rw[atL h1]
    exact uS (by rw[ht];unfold fB fa;rw[at6 h1,avY])
  ·have:k=i:=by omega
   subst this
   rw[aH (by omega),atH,hb,atH,ar (x:=(k:Int)+1) (by omega) (by omega),ae k]
theorem rI(N:Nat){l:ay}(hl:l.length≤100000)(hN:200000≤N):cW N l=some (lN l):=by
 unfold cW cW.b lN
 by_cases h40:l.length≤40
 ·rw[aH (by omega),atH,at1 h40]
  refine eE (F:=fun n i=>cW.l4 N n l i) (pY l) (fun n i r hi hp hr=> ?_) (fun n=> ?_) N (by omega)
  ·unfold cW.l4 cW.cY cW.j8 cW.IK
   have jN:cW.l9 N (cW.l4 N n) N l (i:Int) 0=_:=Kl N (cW.l4 N n) hl i hi i N 0 (by omega) (by omega) (by omega) rfl
   rw[aK (by omega),atC,aP (by omega) (by omega),atC,atC,atE,Kd,atB,cond_not,dy,jN,hr]
   have hT:cond ((l.take i).any (fB (l.getD i aC).2.2.1 (l.getD i aC).2.1)) (some false) r=if(l.take i).any (fB (l.getD i aC).2.2.1 (l.getD i aC).2.1)=false then r else some false:=by
    cases(l.take i).any (fB (l.getD i aC).2.2.1 (l.getD i aC).2.1)<;>rfl
   rw[hT]
   by_cases hK:qB (l.getD i aC)
   ·rw[atK hK]
    have hD:(if pY l i then r else some false)=if mG i (l.getD (i-1) aC).1 (l.getD i aC).1 then(if(l.take i).any (fB (l.getD i aC).2.2.1 (l.getD i aC).2.1)=false then r else some false)else some false:=by
     by_cases h1:mG i (l.getD (i-1) aC).1 (l.getD i aC).1<;>by_cases h2:(l.take i).any (fB (l.getD i aC).2.2.1 (l.getD i aC).2.1)=false
     ·rw[atK h1,atK h2,atK ⟨hK,h1,h2⟩]
     ·rw[atK h1,atL h2,atL (fun h=>h2 h.2.2)]
     ·rw[atL h1,atL (fun h=>h1 h.2.1)]
     ·rw[atL h1,atL (fun h=>h1 h.2.1)]
    rw[hD]
    by_cases h0:0<i
    ·have e:W .i64 ((i:Int)-1)=((i-1:Nat):Int):=by rw[ar (by omega) (by omega)];omega
     rw[aK (x:=0) (y:=(i:Int)) (by omega),atC,e]
     dsimp only
     rw[atE,aP (by omega) (by omega),atC,bO]
     by_cases h1:mG i (l.getD (i-1) aC).1 (l.getD i aC).1
     ·rw[atK h1,atL (by unfold mG at h1;omega)]
     ·rw[atL h1,atK (by unfold mG at h1;omega)]
    ·rw[aH (x:=0) (y:=(i:Int)) (by omega),atH,atK (show mG i (l.getD (i-1) aC).1 (l.getD i aC).1 from fun h=>absurd h h0)]
   ·rw[atL hK,atL (fun h=>hK h.1)]
  ·unfold cW.l4 cW.cY
   rw[aH (by omega),atH]
 ·rw[aK (by omega),atC,at6 h40,aw6]
def rJ(px:Int):ay→bn→bn
 |[],b=>b
 |x::t,b=>rJ px t (if x.2.1=px then(if b.1=0 then x else if b.2.2.2.1<x.2.2.2.1 then x else b)else b)
theorem zt(px:Int)(x:bn)(t:ay)(b:bn):rJ px (x::t) b=rJ px t (if x.2.1=px then(if b.1=0 then x else if b.2.2.2.1<x.2.2.2.1 then x else b)else b):=rfl
def Km(b:bn):Bool:= !decide (fa b.1 0)
def cr(l:ay)(px:Int):bn×Bool:=if lN l then(rJ px l aC,Km (rJ px l aC))else(aC,false)
theorem OV(b:bn):(!aA b.1 0)=Km b:=by unfold Km;rw[fh];rfl
theorem Db(N:Nat){l:ay}(hl:l.length≤100000)(hN:200000≤N)(px:Int):vg N l px=some (cr l px):=by
 unfold vg vg.b cr
 rw[Ke N hl hN,atB,cond_not]
 cases lN l
 ·rfl
 rw[atC,atK rfl]
 have:=pQ l aC (fun n i b=>vg.l5 N n px aC b l (l.length:Int) i) (fun t b=>some (rJ px t b,Km (rJ px t b))) (fun _ _=>True)
  (fun n i b hi hI hr=> ?_) (fun n b hI=> ?_) l.length N 0 aC (by omega) (by omega) (by omega) trivial
 ·exact this
 ·unfold vg.l5 vg.dr
  rw[aK (by omega),atC,aP (by omega) (by omega),atC,atE,ar (x:=(i:Int)+1) (by omega) (by omega),ae i,aI,aI,cg,zt,←hr _ trivial]
  split
  ·split
   ·rfl
   ·split<;>rfl
  ·rfl
 ·unfold vg.l5 vg.dr
  rw[aH (by omega),atH,OV];rfl
theorem L8{l:ay}(h:lN l=true): ∀i,i<l.length→qB (l.getD i aC):=fun i hi=>by
 unfold lN at h
 have h':=atY (auc.1 h).1
 exact(h' i hi).1
end VM
end
section
namespace VM
open Go VM.F
def p8(s w p:Int):Prop:=((s=1∨s=3)∧w=0∧p=0)∨(s=2∧1≤w∧w≤12∧ -1152921504606846976≤p∧p≤1152921504606846976)
instance(s w p:Int):Decidable (p8 s w p):=by unfold p8;infer_instance
def zu(a:Int):Prop:=1≤a∧a≤1099511627776
instance(a:Int):Decidable (zu a):=by unfold zu;infer_instance
def leI(a b:Int):Prop:=a≤b
instance(a b:Int):Decidable (leI a b):=by unfold leI;infer_instance
def vh(c:aa)(l:az)(i:Nat):Prop:=
 zu (l.getD i ((0:Int),(aS,aC))).1∧mG i (l.getD (i-1) ((0:Int),(aS,aC))).1 (l.getD i ((0:Int),(aS,aC))).1∧ ¬fa ((l.getD i ((0:Int),(aS,aC))).2.1.length:Int) 0∧lM c (l.getD i ((0:Int),(aS,aC))).2.1=true∧leI (l.getD i ((0:Int),(aS,aC))).2.2.1 0∧p8 (l.getD i ((0:Int),(aS,aC))).2.2.2.1 (l.getD i ((0:Int),(aS,aC))).2.2.2.2.1 (l.getD i ((0:Int),(aS,aC))).2.2.2.2.2.1
instance(c:aa)(l:az):DecidablePred (vh c l):=fun i=>by unfold vh;infer_instance
def iQ(c:aa)(l:az):Bool:=fV c&&(decide (l.length≤12)&&(decide (∀j,j<l.length→vh c l j)&&true))
def w5(l:az):Prop:= ∀x∈l,x.2.1.length≤100000
theorem tJ{l:az}(h:w5 l)(i:Nat):(l.getD i ((0:Int),(aS,aC))).2.1.length≤100000:=by
 by_cases hi:i<l.length
 ·rw[atD,atI hi];exact h _ (aun hi)
 ·rw[atD,aul (by omega)];exact auu _
theorem Ko(s w p:Int)(r:Option Bool):
  cond (aA s 1) (cond (!aA w 0) (some false) (cond (!aA p 0) (some false) r)) (cond (aA s 3) (cond (!aA w 0) (some false) (cond (!aA p 0) (some false) r)) (cond (aA s 2) (cond (aL w 1) (some false) (cond (aL 12 w) (some false) (cond (aL p (-1152921504606846976)) (some false) (cond (aL 1152921504606846976 p) (some false) r)))) (some false)))=
   if p8 s w p then r else some false:=by
 simp only[cond_not,aI,cg]
 by_cases h:p8 s w p
 ·rw[atK h];unfold p8 at h
  repeat' split
  all_goals first|rfl|omega
 ·rw[atL h];unfold p8 at h
  repeat' split
  all_goals first|rfl|omega
theorem L9{A B C D E F:Prop} [Decidable A] [Decidable B] [Decidable C] [Decidable D] [Decidable E] [Decidable F](r:Option Bool):
  (if A then(if B then(if C then(if D then(if E then(if F then r else some false)else some false)else some false)else some false)else some false)else some false)=if A∧B∧C∧D∧E∧F then r else some false:=by
 by_cases hA:A<;>by_cases hB:B<;>by_cases hC:C<;>by_cases hD:D<;>by_cases hE:E<;>by_cases hF:F<;>simp only[hA,hB,hC,hD,hE,hF,av8,avq,and_self,au3,and_false,false_and,true_and]
theorem Fy{a b n f s w p:Int}{i:Nat}{o:Bool}{r:Option Bool}:
  cond (aL a 1) (some false) (cond (aL 1099511627776 a) (some false) (if mG i b a then(cond (aA n 0) (some false) (cond (!o) (some false) (cond (aL 0 f) (some false) (if p8 s w p then r else some false))))else some false))=
   if zu a∧mG i b a∧ ¬fa n 0∧o=true∧leI f 0∧p8 s w p then r else some false:=by
 rw[←L9]
 simp only[cond_not,aI,cg]
 by_cases h1:zu a
 ·have lI:=h1
  unfold zu at lI
  rw[atK h1,atL (by omega),atL (by omega)]
  by_cases h2:mG i b a
  ·rw[atK h2,atK h2]
   by_cases h3:n=0
   ·rw[atK h3,atL (show ¬ ¬fa n 0 from fun h=>h h3)]
   ·rw[atL h3,atK (show ¬fa n 0 from h3)]
    cases o
    ·rfl
    ·rw[atC,atK rfl]
     by_cases h4:f≤0
     ·rw[atK (show leI f 0 from h4),atL (by omega)]
     ·rw[atL (show ¬leI f 0 from h4),atK (by omega)]
  ·rw[atL h2,atL h2]
 ·have lI:=h1
  unfold zu at lI
  rw[atL h1]
  by_cases h2:a<1
  ·rw[atK h2]
  ·rw[atL h2,atK (by omega)]
theorem FA{i:Nat}{a b:Int}{r:Option Bool}(h0:0<i):cond (bX a b) (some false) r=if mG i b a then r else some false:=by
 rw[bO]
 by_cases h1:mG i b a
 ·rw[atK h1,atL (by unfold mG at h1;omega)]
 ·rw[atL h1,atK (by unfold mG at h1;omega)]
theorem Sk(N:Nat)(hN:200000≤N)(c:aa){l:az}(hl:l.length≤100000)(hw:w5 l):qD N c l=some (iQ c l):=by
 unfold qD qD.b iQ
 rw[C1 N (by omega),atB]
 cases fV c
 ·rfl
 rw[at3,atH,au7]
 by_cases QJ:l.length≤12
 ·rw[aH (by omega),atH,at1 QJ,au7]
  refine eE (F:=fun n i=>qD.l4 N n l c l (l.length:Int) i) (vh c l) (fun n i r hi hp hr=> ?_) (fun n=> ?_) N (by omega)
  ·unfold qD.l4 qD.cY qD.j8 qD.IK
   rw[aK (by omega),atC,aP (by omega) (by omega),atC,atE,Sa N hN c (tJ hw i),atB,ar (x:=(i:Int)+1) (by omega) (by omega),ae i,hr,Ko]
   refine Eq.trans ?_ Fy
   by_cases h0:0<i
   ·have e:W .i64 ((i:Int)-1)=((i-1:Nat):Int):=by rw[ar (by omega) (by omega)];omega
    rw[aK (x:=0) (y:=(i:Int)) (by omega),atC,e]
    dsimp only
    rw[atE,aP (by omega) (by omega),atC,FA h0]
   ·rw[aH (x:=0) (y:=(i:Int)) (by omega),atH,atK (show mG i (l.getD (i-1) ((0:Int),(aS,aC))).1 (l.getD i ((0:Int),(aS,aC))).1 from fun h=>absurd h h0)]
  ·unfold qD.l4 qD.cY
   rw[aH (by omega),atH]
 ·rw[aK (by omega),atC,at6 QJ,avY]
theorem zv(N:Nat)(hN:200000≤N)(c:aa){l:az}(hl:l.length≤100000)(hw:w5 l):fv N c l=some (iQ c l):=by
 unfold fv fv.b iQ
 rw[m0 N (by omega),atB]
 cases fV c
 ·rfl
 rw[at3,atH,au7]
 by_cases QJ:l.length≤12
 ·rw[aH (by omega),atH,at1 QJ,au7]
  refine eE (F:=fun n i=>fv.l4 N n l c i) (vh c l) (fun n i r hi hp hr=> ?_) (fun n=> ?_) N (by omega)
  ·unfold fv.l4 fv.cY fv.j9 fv.Is
   rw[aK (by omega),atC,aP (by omega) (by omega),atC,atE,u7 N hN c (tJ hw i),atB,ar (x:=(i:Int)+1) (by omega) (by omega),ae i,hr,Ko]
   refine Eq.trans ?_ Fy
   by_cases h0:0<i
   ·have e:W .i64 ((i:Int)-1)=((i-1:Nat):Int):=by rw[ar (by omega) (by omega)];omega
    rw[aK (x:=0) (y:=(i:Int)) (by omega),atC,e]
    dsimp only
    rw[atE,aP (by omega) (by omega),atC,FA h0]
   ·rw[aH (x:=0) (y:=(i:Int)) (by omega),atH,atK (show mG i (l.getD (i-1) ((0:Int),(aS,aC))).1 (l.getD i ((0:Int),(aS,aC))).1 from fun h=>absurd h h0)]
  ·unfold fv.l4 fv.cY
   rw[aH (by omega),atH]
 ·rw[aK (by omega),atC,at6 QJ,avY]
theorem OW(l:az)(i:Nat)(h:i<l.length):l.set i (l.getD i ((0:Int),(aS,aC)))=l:=by
 rw[atD,atI h]
 exact List.set_getElem_self h
theorem OX(N:Nat){l:az}(hl:l.length≤100000)(hw:w5 l)(hN:200000≤N):xK N l=some l:=by
 unfold xK xK.b
 rw[oM N (by omega),atB]
 refine s4 l ((0:Int),(aS,aC)) (fun n i=>xK.l3 N n l (l.length:Int) i) (fun _=>some l) (fun n i hi hr=> ?_) (fun n=> ?_) N (by omega)
 ·unfold xK.l3 xK.ji
  have hlw:=tJ hw i
  rw[aK (by omega),atC,aP (by omega) (by omega),atC,atE,oM N (by omega),atB,atC,ar (x:=(i:Int)+1) (by omega) (by omega),ae i]
  have e:l.set i ((l.getD i ((0:Int),(aS,aC))).1,((l.getD i ((0:Int),(aS,aC))).2.1,(l.getD i ((0:Int),(aS,aC))).2.2))=l:=OW l i hi
  rw[e]
  exact hr
 ·unfold xK.l3 xK.ji
  rw[aH (by omega),atH]
end VM
end
section
namespace VM
open Go VM.F
def dN(h:Int):ax→aj
 |[]=>[]
 |y::t=>((0:Int),(y.1,((0-y.2.1:Int),())))::(h,(y.1,(y.2.1,())))::dN h t
theorem gE(h:Int)(y:LH)(t:ax):dN h (y::t)=((0:Int),(y.1,((0-y.2.1:Int),())))::(h,(y.1,(y.2.1,())))::dN h t:=rfl
def xL(h p:Int):aj:=[((5:Int),(h,((0-p:Int),()))),((2:Int),((0:Int),(p,())))]
abbrev Kp:=aj×aj×az
def BY(x:cq)(m p:Int):cq:=(x.1,(x.2.1,(x.2.2.1,((2:Int),(m,(p,x.2.2.2.2.2.2))))))
def OY(x:cq):cq:=(x.1,(x.2.1,(x.2.2.1,((3:Int),x.2.2.2.2))))
def IL(b:ag)(l:ay):az→Kp→Option Kp
 |[],z=>some z
 |x::t,z=>
  if x.2.2.2.1=1 then
   (if(cr l x.1).2=true then
     (if eN b.1 (cr l x.1).1.2.2.1=0∨c6 b.2.1 (cr l x.1).1.2.2.1=0 then none
      else IL b l t (z.1++dN (c6 b.2.1 (cr l x.1).1.2.2.1) x.2.1,z.2.1++xL (c6 b.2.1 (cr l x.1).1.2.2.1) (cr l x.1).1.2.2.2.1,z.2.2++[BY x (cr l x.1).1.2.2.1 (cr l x.1).1.2.2.2.1]))
    else IL b l t (z.1,z.2.1,z.2.2++[OY x]))
  else IL b l t (z.1,z.2.1,z.2.2++[x])
theorem zw(b:ag)(l:ay)(x:cq)(t:az)(z:Kp):IL b l (x::t) z=
 if x.2.2.2.1=1 then
  (if(cr l x.1).2=true then
    (if eN b.1 (cr l x.1).1.2.2.1=0∨c6 b.2.1 (cr l x.1).1.2.2.1=0 then none
     else IL b l t (z.1++dN (c6 b.2.1 (cr l x.1).1.2.2.1) x.2.1,z.2.1++xL (c6 b.2.1 (cr l x.1).1.2.2.1) (cr l x.1).1.2.2.2.1,z.2.2++[BY x (cr l x.1).1.2.2.1 (cr l x.1).1.2.2.2.1]))
   else IL b l t (z.1,z.2.1,z.2.2++[OY x]))
 else IL b l t (z.1,z.2.1,z.2.2++[x]):=rfl
def FB(b:ag):Option Kp→ag×az×Int
 |none=>((aS,(cj,(ba,(ba,(cI,(cL,())))))),([],3))
 |some z=>if fa (dM b z.1 z.2.1).2 0 then((dM b z.1 z.2.1).1,(z.2.2,0))else((aS,(cj,(ba,(ba,(cI,(cL,())))))),([],(dM b z.1 z.2.1).2))
def ou(c:aa)(b:ag)(a7:az)(l:ay):ag×az×Int:=
 if cV c b=true then(if iQ c a7=true then(if lN l=true then FB b (IL b l a7 ([],[],[]))else((aS,(cj,(ba,(ba,(cI,(cL,())))))),([],1)))else((aS,(cj,(ba,(ba,(cI,(cL,())))))),([],1)))else((aS,(cj,(ba,(ba,(cI,(cL,())))))),([],1))
theorem BZ(px:Int): ∀(l:ay) (b:bn),rJ px l b=b∨rJ px l b∈l
 |[],b=>Or.inl rfl
 |x::t,b=>by
  rw[zt]
  have key: ∀c,(c=x∨c=b)→(rJ px t c=b∨rJ px t c∈x::t):=fun c hc=>by
   rcases BZ px t c with h|h
   ·rcases hc with e|e
    ·exact Or.inr (by rw[h,e];exact atS ..)
    ·exact Or.inl (by rw[h,e])
   ·exact Or.inr (atM _ h)
  refine key _ ?_
  split
  ·split
   ·exact Or.inl rfl
   ·split
    ·exact Or.inl rfl
    ·exact Or.inr rfl
  ·exact Or.inr rfl
theorem Dc{l:ay}{px:Int}(h:(cr l px).2=true):qB (cr l px).1:=by
 unfold cr at h ⊢
 by_cases hB:lN l=true
 ·rw[atK hB]at h ⊢
  rcases BZ px l aC with e|e
  ·dsimp only at h
   rw[e]at h
   exact absurd h (by decide)
  ·obtain⟨i,hi,e'⟩:=auD e
   have:=L8 hB i hi
   rw[atD,atI hi]at this
   dsimp only
   rw[←e'];exact this
 ·rw[atL hB]at h
  exact absurd h (by decide)
theorem tK(id:Int): ∀(a:ay),iM id a=0∨ ∃x∈a,x.1=iM id a
 |[]=>Or.inl rfl
 |x::t=>by
  rw[oi]
  have ih:=tK id t
  have ih':iM id t=0∨ ∃y∈x::t,y.1=iM id t:=ih.imp (fun e=>e) fun⟨y,hy,e⟩=>⟨y,atM _ hy,e⟩
  split
  ·split
   ·exact Or.inr ⟨x,atS ..,rfl⟩
   ·exact ih'
  ·exact ih'
theorem zx{a:ay}{id:Int}(h:c6 a id≠0):1≤c6 a id∧c6 a id≤24:=by
 unfold c6 at h ⊢
 by_cases hA:g8 a=true
 ·rw[atK hA]at h ⊢
  rcases tK id a with e|⟨x,hx,e⟩
  ·exact absurd e h
  ·obtain⟨i,hi,e'⟩:=auD hx
   unfold g8 at hA
   rw[au8]at hA
   have:=(atY hA i hi).1
   rw[atD,atI hi]at this
   have h5:=this.1
   dsimp only[Option.getD_some]at h5
   rw[e',e]at h5
   exact h5
 ·rw[atL hA]at h;exact absurd rfl h
def FC(a:Int):Prop:=0≤a∧a<6
structure ir(t:ax):Prop where
 len:t.length≤6
 inst: ∀y∈t,FC y.1
 q: ∀y∈t,aD y.2.1∧uc y.2.1
theorem Ma{c:aa}{t:ax}(h:lM c t=true)(qM: ∀y∈t,aD y.2.1):ir t:=by
 unfold lM at h
 obtain⟨h1,h2⟩:=auc.1 h
 have lI:=atY h1
 have h6:c.1.length≤6:=by
  unfold fV at h2
  exact(atY (auc.1 h2).1).2
 have get: ∀(i:Nat) (hi:i<t.length),t.getD i bR=t[i]:=fun i hi=>by rw[atD,atI hi];rfl
 have Lt: ∀i,i<t.length→kq (t.getD i bR).1 (t.getD i bR).2.1 c.1.length i (t.getD (i-1) bR).1:=lI
 have inc: ∀i,i<t.length→(i:Int)≤(t.getD i bR).1:=by
  intro i
  induction i with
  |zero=>intro hi;exact(Lt 0 hi).1
  |succ i ih=>
   intro hi
   have a:=ih (by omega)
   have b:=(Lt (i+1) hi).2.2.2.2 (by omega)
   rw[Nat.add_sub_cancel]at b
   have g: ∀x y:Int,(i:Int)≤x→x<y→((i+1:Nat):Int)≤y:=fun x y _ _=>by omega
   exact g _ _ a b
 refine⟨?_,fun y hy=> ?_,fun y hy=> ?_⟩
 ·by_cases h0:t.length=0
  ·omega
  ·have a:=inc (t.length-1) (by omega)
   have b:=(Lt (t.length-1) (by omega)).2.1
   have g: ∀x:Int,((t.length-1:Nat):Int)≤x→x<(c.1.length:Int)→t.length≤6:=fun x _ _=>by omega
   exact g _ a b
 ·obtain⟨i,hi,e⟩:=auD hy
  have:=Lt i hi
  rw[get i hi,e]at this
  have g: ∀x:Int,0≤x→x<(c.1.length:Int)→FC x:=fun x _ _=>by unfold FC;omega
  exact g _ this.1 this.2.1
 ·obtain⟨i,hi,e⟩:=auD hy
  have:=Lt i hi
  rw[get i hi,e]at this
  exact⟨qM y hy,this.2.2.2.1⟩
structure ll(z:Kp)(i:Nat):Prop where
 place: ∀x∈z.1,bN x.1 x.2.1
 q: ∀x∈z.1,aD (eO x)∧uc (eO x)
 len:z.1.length≤12*i
 flat: ∀a:Int,(dB a z.1).sum=0
 key: ∀x∈z.2.1,dA x.1 x.2.1
 qe: ∀x∈z.2.1,aD (eO x)
 Sl:z.2.1.length≤2*i
 zero:(z.2.1.map eO).sum=0
 out:z.2.2.length=i
theorem Bd(a:Int)(l m:aj):dB a (l++m)=dB a l++dB a m:=by
 induction l with
 |nil=>rfl
 |cons x t ih=>
  rw[au6,eP,eP,ih]
  split<;>rfl
theorem yj{h:Int}{x:cE}: ∀{t:ax},x∈dN h t→ ∃y∈t,x=((0:Int),(y.1,((0-y.2.1:Int),())))∨x=(h,(y.1,(y.2.1,())))
 |[],hx=>nomatch hx
 |y::t,hx=>by
  rw[gE]at hx
  rcases atZ.1 hx with e|hx
  ·exact⟨y,atS ..,Or.inl e⟩
  ·rcases atZ.1 hx with e|hx
   ·exact⟨y,atS ..,Or.inr e⟩
   ·obtain⟨y',hy,e⟩:=yj hx
    exact⟨y',atM _ hy,e⟩
theorem Kq(h:Int): ∀t:ax,(dN h t).length=2*t.length
 |[]=>rfl
 |y::t=>by
  rw[gE,atN,atN,atN,Kq h t];omega
theorem FD(h a:Int): ∀t:ax,(dB a (dN h t)).sum=0
 |[]=>rfl
 |y::t=>by
  have ih:=FD h a t
  rw[gE,eP,eP]
  dsimp only
  by_cases e:y.1=a
  ·rw[atK e,atK e,aue,aue,ih]
   have g: ∀v:Int,0-v+(v+0)=0:=fun v=>by omega
   exact g y.2.1
  ·rw[atL e,atL e];exact ih
theorem aeO{v:Int}(h:aD v∧uc v):aD (0-v)∧uc (0-v):=by
 unfold aD uc at*;omega
theorem ll.aeP{z:Kp}{i:Nat}(I:ll z i){h p:Int}(h1:1≤h∧h≤24)(hp: -1152921504606846976≤p∧p≤1152921504606846976){t:ax}(g:ir t)(x:cq):ll (z.1++dN h t,z.2.1++xL h p,z.2.2++[x]) (i+1):=by
 have jN: ∀a:Int,FC a→bN 0 a∧bN h a:=fun a ha=>by unfold FC at ha;unfold bN;omega
 refine⟨fun x hx=> ?_,fun x hx=> ?_,?_,fun a=> ?_,fun x hx=> ?_,fun x hx=> ?_,?_,?_,?_⟩
 ·rcases atU.1 hx with hx|hx
  ·exact I.place x hx
  ·obtain⟨y,hy,e|e⟩:=yj hx
   ·rw[e];exact(jN _ (g.inst y hy)).1
   ·rw[e];exact(jN _ (g.inst y hy)).2
 ·rcases atU.1 hx with hx|hx
  ·exact I.q x hx
  ·obtain⟨y,hy,e|e⟩:=yj hx
   ·rw[e];exact aeO (g.q y hy)
   ·rw[e];exact g.q y hy
 ·rw[atJ,Kq]
  have:=I.len
  have:=g.len
  omega
 ·show(dB a (z.1++dN h t)).sum=0
  rw[Bd,avQ,I.flat a,FD];rfl
 ·rcases atU.1 hx with hx|hx
  ·exact I.key x hx
  ·rcases atZ.1 hx with e|hx
   ·rw[e];show dA 5 h;unfold dA;omega
   ·rw[at2.1 hx];show dA 2 0;decide
 ·rcases atU.1 hx with hx|hx
  ·exact I.qe x hx
  ·rcases atZ.1 hx with e|hx
   ·rw[e];show aD (0-p);unfold aD;omega
   ·rw[at2.1 hx];show aD p;unfold aD;omega
 ·show(z.2.1++xL h p).length≤_
  have:=I.Sl
  rw[atJ,show(xL h p).length=2 from rfl];omega
 ·show((z.2.1++xL h p).map eO).sum=0
  rw[aus,avQ,I.zero]
  show 0+((0-p)+(p+0))=0
  omega
 ·show(z.2.2++[x]).length=_
  rw[atJ,I.out];rfl
theorem ll.pass{z:Kp}{i:Nat}(I:ll z i)(x:cq):ll (z.1,z.2.1,z.2.2++[x]) (i+1):=
 ⟨I.place,I.q,by have:=I.len;show z.1.length≤_;omega,I.flat,I.key,I.qe,by have:=I.Sl;show z.2.1.length≤_;omega,I.zero,by rw[atJ,I.out];rfl⟩
theorem ll.nil:ll ([],[],[]) 0:=⟨fun x hx=>(nomatch hx),fun x hx=>(nomatch hx),atP _,fun a=>rfl,fun x hx=>(nomatch hx),fun x hx=>(nomatch hx),atP _,rfl,rfl⟩
theorem ll.aeQ{z:Kp}{i:Nat}(I:ll z i)(h:i≤12):OJ z.1:=⟨I.place,I.q,by have:=I.len;omega,I.flat⟩
theorem ll.aeR{z:Kp}{i:Nat}(I:ll z i)(h:i≤12):OQ z.2.1:=⟨I.key,fun x hx=>tI (I.qe x hx),by have:=I.Sl;omega,I.zero⟩
end VM
end
