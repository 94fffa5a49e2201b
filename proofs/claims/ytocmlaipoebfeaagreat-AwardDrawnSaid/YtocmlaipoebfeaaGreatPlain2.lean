/- A part of the proof of AwardDrawn of layer 25: what the functions compute, in plain words. -/
import Derived.Test.YtocmlaipoebfeaaGreatPlain1
set_option linter.all false
section
namespace VM
open Go VM.F
def pt(l:ay)(i:Nat):Prop:=oM (l.getD i aE)∧mi i (l.getD (i-1) aE).1 (l.getD i aE).1∧(l.take i).any (ff (l.getD i aE).2.2.1 (l.getD i aE).2.1)=false
instance(l:ay):DecidablePred (pt l):=fun i=>by unfold pt;infer_instance
def lj(l:ay):Bool:=decide (∀j,j<l.length→pt l j)&&decide (l.length≤40)
theorem Jw(N:Nat){l:ay}(hl:l.length≤100000)(hN:200000≤N):wo N l=some (lj l):=by
 unfold wo wo.b
 refine ep (F:=fun n i=>wo.l2 N n l l (l.length:Int) i) (pt l) (fun n i r hi hp hr=> ?_) (fun n=> ?_) N (by omega)
 ·unfold wo.l2 wo.dI
  rw[aH (by omega),cond_true,aJ (by omega) (by omega),cond_true]
  simp only[Int.toNat_natCast,Int.toNat_zero,List.drop_zero]
  rw[aq (x:=(i:Int)+1) (by omega) (by omega),aa,hr,NM,Option.bind_some,cr (by omega) (by omega) (by omega) (by omega),cond_true,NN N (by rw[List.length_take];omega) hN,Option.bind_some,cond_not,dw]
  have hT:cond ((l.take i).any (ff (l.getD i aE).2.2.1 (l.getD i aE).2.1)) (some false) r=if(l.take i).any (ff (l.getD i aE).2.2.1 (l.getD i aE).2.1)=false then r else some false:=by
   cases(l.take i).any (ff (l.getD i aE).2.2.1 (l.getD i aE).2.1)<;>rfl
  rw[hT]
  by_cases hK:oM (l.getD i aE)
  ·rw[if_pos hK]
   have hD:(if pt l i then r else some false)=if mi i (l.getD (i-1) aE).1 (l.getD i aE).1 then(if(l.take i).any (ff (l.getD i aE).2.2.1 (l.getD i aE).2.1)=false then r else some false)else some false:=by
    by_cases h1:mi i (l.getD (i-1) aE).1 (l.getD i aE).1<;>by_cases h2:(l.take i).any (ff (l.getD i aE).2.2.1 (l.getD i aE).2.1)=false
    ·rw[if_pos h1,if_pos h2,if_pos ⟨hK,h1,h2⟩]
    ·rw[if_pos h1,if_neg h2,if_neg (fun h=>h2 h.2.2)]
    ·rw[if_neg h1,if_neg (fun h=>h1 h.2.1)]
    ·rw[if_neg h1,if_neg (fun h=>h1 h.2.1)]
   rw[hD]
   by_cases h0:0<i
   ·have e:W .i64 ((i:Int)-1)=((i-1:Nat):Int):=by rw[aq (by omega) (by omega)];omega
    rw[aH (x:=0) (y:=(i:Int)) (by omega),cond_true,e,Int.toNat_natCast,aJ (by omega) (by omega),cond_true,bH]
    by_cases h1:mi i (l.getD (i-1) aE).1 (l.getD i aE).1
    ·rw[if_pos h1,if_neg (by unfold mi at h1;omega)]
    ·rw[if_neg h1,if_pos (by unfold mi at h1;omega)]
   ·rw[aF (x:=0) (y:=(i:Int)) (by omega),cond_false,if_pos (show mi i (l.getD (i-1) aE).1 (l.getD i aE).1 from fun h=>absurd h h0)]
  ·rw[if_neg hK,if_neg (fun h=>hK h.1)]
 ·unfold wo.l2 wo.dI
  rw[aF (by omega),cond_false,iR]
  congr 1;rw[decide_eq_decide];omega
end VM
end
section
namespace VM
open Go VM.F
def bW(a b:Int):aj→List Int
 |[]=>[]
 |x::t=>if x.1=a∧x.2.1=b then eO x::bW a b t else bW a b t
theorem cZ(a b:Int)(x:cy)(t:aj):bW a b (x::t)=if x.1=a∧x.2.1=b then eO x::bW a b t else bW a b t:=rfl
def cc(a b:Int)(l:aj):Int:=(bW a b l).sum
theorem K4(a b:Int):cc a b []=0:=rfl
theorem mM(a b:Int)(x:cy)(t:aj):cc a b (x::t)=(if x.1=a∧x.2.1=b then eO x else 0)+cc a b t:=by
 unfold cc
 rw[cZ]
 split
 ·rw[List.sum_cons]
 ·omega
theorem jP{a b:Int}: ∀{l:aj},(∀x∈l,¬(x.1=a∧x.2.1=b))→cc a b l=0
 |[],_=>rfl
 |x::t,h=>by
  rw[mM,if_neg (h x (List.mem_cons_self ..)),jP (fun y hy=>h y (List.mem_cons_of_mem _ hy))];rfl
abbrev cC:=Int×Int
def ou(x y:cC):Prop:=iD x.1 x.2 y.1 y.2
instance(x y:cC):Decidable (ou x y):=by unfold ou;infer_instance
def keyOf(x:cy):cC:=(x.1,x.2.1)
def sg(K:List cC):Prop:=K.Pairwise ou
theorem nT{x:cC}(h:ou x x):False:=by unfold ou iD at h;omega
theorem A4{x y:cC}(h:ou x y)(k:ou y x):False:=by unfold ou iD at*;omega
theorem rr{x y z:cC}(h:ou x y)(k:ou y z):ou x z:=by unfold ou iD at*;omega
theorem Jx(x y:cC):ou x y∨x=y∨ou y x:=by
 have:(x.1=y.1∧x.2=y.2)→x=y:=fun h=>Prod.ext h.1 h.2
 unfold ou iD
 by_cases h1:x.1=y.1
 ·by_cases h2:x.2=y.2
  ·exact Or.inr (Or.inl (this ⟨h1,h2⟩))
  ·omega
 ·omega
theorem Jy: ∀{a b:List cC},sg a→sg b→(∀x,x∈a↔x∈b)→a=b
 |[],[],_,_,_=>rfl
 |[],y::t,_,_,h=>nomatch (h y).2 (List.mem_cons_self ..)
 |x::s,[],_,_,h=>nomatch (h x).1 (List.mem_cons_self ..)
 |x::s,y::t,ha,hb,h=>by
  obtain⟨ha1,ha2⟩:=List.pairwise_cons.1 ha
  obtain⟨jw,sv⟩:=List.pairwise_cons.1 hb
  have hxy:x=y:=by
   rcases List.mem_cons.1 ((h x).1 (List.mem_cons_self ..))with e|e
   ·exact e
   ·rcases List.mem_cons.1 ((h y).2 (List.mem_cons_self ..))with f|f
    ·exact f.symm
    ·exact(A4 (ha1 y f) (jw x e)).elim
  subst hxy
  rw[Jy ha2 sv fun z=>⟨fun hz=> ?_,fun hz=> ?_⟩]
  ·rcases List.mem_cons.1 ((h z).1 (List.mem_cons_of_mem _ hz))with e|e
   ·subst e;exact(nT (ha1 z hz)).elim
   ·exact e
  ·rcases List.mem_cons.1 ((h z).2 (List.mem_cons_of_mem _ hz))with e|e
   ·subst e;exact(nT (jw z hz)).elim
   ·exact e
def dC(P:Int→Prop) [DecidablePred P](f:Int→Int→Int):List cC→Option aj
 |[]=>some []
 |k::t=>if P (f k.1 k.2)then(dC P f t).map (fun o=>if f k.1 k.2=0 then o else(k.1,(k.2,(f k.1 k.2,())))::o)else none
theorem jQ(P:Int→Prop) [DecidablePred P](f:Int→Int→Int)(k:cC)(t:List cC):dC P f (k::t)=if P (f k.1 k.2)then(dC P f t).map (fun o=>if f k.1 k.2=0 then o else(k.1,(k.2,(f k.1 k.2,())))::o)else none:=rfl
theorem wq{P:Int→Prop} [DecidablePred P](h0:P 0){f:Int→Int→Int}(p:cC→Bool): ∀{K:List cC},(∀k∈K,p k=false→f k.1 k.2=0)→dC P f (K.filter p)=dC P f K
 |[],_=>rfl
 |k::t,h=>by
  have ih:=wq h0 p (K:=t) (fun x hx=>h x (List.mem_cons_of_mem _ hx))
  cases hp:p k
  ·rw[List.filter_cons_of_neg (by rw[hp];decide),ih,jQ,h k (List.mem_cons_self ..) hp,if_pos h0]
   simp
  ·rw[List.filter_cons_of_pos hp,jQ,jQ,ih]
theorem Ey{P:Int→Prop} [DecidablePred P](h0:P 0){f:Int→Int→Int}{K G:List cC}(hK:sg K)(hG:sg G)(hs: ∀k∈K,k∈G)(hz: ∀k∈G,k∉K→f k.1 k.2=0):dC P f K=dC P f G:=by
 have e:K=G.filter (fun k=>decide (k∈K)):=by
  refine Jy hK (List.Pairwise.sublist List.filter_sublist hG) fun x=> ?_
  rw[List.mem_filter]
  exact⟨fun h=>⟨hs x h,decide_eq_true h⟩,fun h=>of_decide_eq_true h.2⟩
 rw[e]
 exact wq h0 _ fun k hk hp=>hz k hk (of_decide_eq_false hp)
def qP(k:cC):List cC→List cC
 |[]=>[k]
 |x::t=>if ou x k then x::qP k t else if x=k then x::t else k::x::t
theorem mN{k x:cC}: ∀{K:List cC},x∈qP k K↔x=k∨x∈K
 |[]=>by show x∈[k]↔_;simp
 |y::t=>by
  show x∈(if ou y k then y::qP k t else if y=k then y::t else k::y::t)↔_
  split
  ·rw[List.mem_cons,mN,List.mem_cons]
   exact⟨fun h=>h.elim (fun e=>Or.inr (Or.inl e)) (fun h=>h.elim Or.inl (fun h=>Or.inr (Or.inr h))),fun h=>h.elim (fun e=>Or.inr (Or.inl e)) (fun h=>h.elim Or.inl (fun h=>Or.inr (Or.inr h)))⟩
  ·split
   ·rename_i e
    rw[←e]
    exact⟨Or.inr,fun h=>h.elim (fun e=>e▸List.mem_cons_self ..) id⟩
   ·rw[List.mem_cons]
theorem um{k:cC}: ∀{K:List cC},sg K→sg (qP k K)
 |[],_=>List.pairwise_cons.2 ⟨fun _ h=>(nomatch h),List.Pairwise.nil⟩
 |y::t,h=>by
  obtain⟨h1,h2⟩:=List.pairwise_cons.1 h
  show sg (if ou y k then y::qP k t else if y=k then y::t else k::y::t)
  split
  ·rename_i hy
   exact List.pairwise_cons.2 ⟨fun z hz=>(mN.1 hz).elim (fun e=>e▸hy) (h1 z),um h2⟩
  ·rename_i hy
   split
   ·exact h
   ·rename_i he
    have hk:ou k y:=(Jx y k).elim (fun h=>absurd h hy) (fun h=>h.elim (fun h=>absurd h he) id)
    exact List.pairwise_cons.2 ⟨fun z hz=>(List.mem_cons.1 hz).elim (fun e=>e▸hk) (fun hz=>rr hk (h1 z hz)),h⟩
def ji(K:List cC)(E:aj):List cC:=E.foldl (fun K x=>qP (keyOf x) K) K
theorem nU(K:List cC)(x:cy)(E:aj):ji K (x::E)=ji (qP (keyOf x) K) E:=rfl
theorem sV: ∀{E:aj} {K:List cC},sg K→sg (ji K E)
 |[],_,h=>h
 |x::E,K,h=>by rw[nU];exact sV (um h)
theorem iu{k:cC}: ∀{E:aj} {K:List cC},k∈ji K E↔(k∈K∨ ∃x∈E,keyOf x=k)
 |[],K=>by
  show k∈K↔_
  simp
 |x::E,K=>by
  rw[nU,iu,mN]
  constructor
  ·rintro((rfl|h)|⟨y,hy,e⟩)
   ·exact Or.inr ⟨x,List.mem_cons_self ..,rfl⟩
   ·exact Or.inl h
   ·exact Or.inr ⟨y,List.mem_cons_of_mem _ hy,e⟩
  ·rintro(h|⟨y,hy,e⟩)
   ·exact Or.inl (Or.inr h)
   ·rcases List.mem_cons.1 hy with rfl|hy
    ·exact Or.inl (Or.inl e.symm)
    ·exact Or.inr ⟨y,hy,e⟩
theorem yQ(k:cC): ∀K:List cC,(qP k K).length≤K.length+1
 |[]=>Nat.le_refl _
 |y::t=>by
  show(if ou y k then y::qP k t else if y=k then y::t else k::y::t).length≤_
  have:=yQ k t
  split
  ·rw[List.length_cons,List.length_cons];omega
  ·split<;>rw[List.length_cons]<;>(try rw[List.length_cons])<;>omega
def rowsOf(l:aj)(K:List cC):aj:=K.map fun k=>(k.1,(k.2,(cc k.1 k.2 l,())))
theorem iG{l:aj}(h:sg (l.map keyOf)):rowsOf l (l.map keyOf)=l:=by
 have key: ∀(m:aj),sg (m.map keyOf)→(∀x∈m,cc x.1 x.2.1 l=eO x)→rowsOf l (m.map keyOf)=m:=by
  intro m
  induction m with
  |nil=>intro _ _;rfl
  |cons x t ih=>
   intro hm hx
   have:=ih (List.pairwise_cons.1 hm).2 (fun y hy=>hx y (List.mem_cons_of_mem _ hy))
   unfold rowsOf at*
   rw[List.map_cons,List.map_cons,this]
   congr 1
   show(x.1,(x.2.1,(cc x.1 x.2.1 l,())))=x
   rw[hx x (List.mem_cons_self ..)];rfl
 refine key l h ?_
 clear key
 induction l with
 |nil=>intro x hx;nomatch hx
 |cons y t ih=>
  intro x hx
  obtain⟨h1,h2⟩:=List.pairwise_cons.1 h
  have gH: ∀z∈t,¬(z.1=y.1∧z.2.1=y.2.1):=fun z hz e=>by
   have hk:=h1 (keyOf z) (List.mem_map_of_mem hz)
   have he:keyOf z=keyOf y:=Prod.ext e.1 e.2
   rw[he]at hk
   exact nT hk
  rw[mM]
  rcases List.mem_cons.1 hx with rfl|hx
  ·rw[if_pos ⟨rfl,rfl⟩,jP gH];omega
  ·rw[if_neg (fun e=>gH x hx ⟨e.1.symm,e.2.symm⟩),ih h2 x hx];omega
end VM
end
section
namespace VM
open Go VM.F
instance(x:Int):Decidable (aD x):=by unfold aD;infer_instance
def Fq(x:Int):Prop:=aD x∧w5 x
instance:DecidablePred Fq:=fun x=>by unfold Fq;infer_instance
def pv(r:Option aj):Option (aj×Int):=some (match r with|some o=>(o,0)|none=>([],2))
def fS(l E:aj)(a b:Int):Int:=cc a b l+cc a b E
theorem xD{α:Type}(N:Nat){l:List α}{i:Nat}{x:α}(hi:i≤l.length)(hl:l.length<1000000):lG N l (i:Int) [x]=some (l.take i++x::l.drop i):=by
 unfold lG
 rw[if_pos ⟨by omega,by omega,rfl,by unfold tp;omega⟩]
 rfl
theorem od{α:Type}(N:Nat){l:List α}(hl:l.length≤1000000):ib N l=some l:=by
 unfold ib
 rw[if_pos (by unfold tp;omega)]
theorem yR(N:Nat){v:Int}(h:dZ v):Hy N (dh v)=some (w3 v):=QV N h.1 h.2
theorem ru{v:Int}(h:aD v):w3 v=(v,true):=by unfold w3;exact if_pos h
theorem uq{v:Int}(h: ¬aD v):w3 v=(0,false):=by unfold w3;exact if_neg h
theorem vr{ws:List Int}{x:Int}(h: ∀y∈ws,aD y)(hx:aD x): ∀y∈ws++[x],aD y:=fun y hy=>by
 rcases List.mem_append.1 hy with hy|hy
 ·exact h y hy
 ·rw[List.mem_singleton.1 hy];exact hx
theorem Ez(N:Nat){l:aj}:Rc N l=some l:=by
 unfold Rc
 rw[cr (by omega) (by omega) (by omega) (by omega),cond_true]
 simp
theorem NP(N:Nat)(hN:2000000≤N)(K:bt.A5){E out R:aj}(hq:dy E)(hl:E.length≤100000)(ho:out.length≤1000000)(r:cy)(hr:aD (eO r))(i:Nat)(hi:i≤1000000):
  bt.Wv N K N E out r [dh (eO r)] R (R.length:Int) (i:Int) E (E.length:Int) 0=
   if Fq (eO r+cc r.1 r.2.1 E)then K E (if eO r+cc r.1 r.2.1 E=0 then out else out++[(r.1,(r.2.1,(eO r+cc r.1 r.2.1 E,())))]) R (R.length:Int) ((i+1:Nat):Int)else some (bc,(2:Int)):=by
 have:=lK E aW (fun n j ws=>bt.Wv N K n E out r (ws.map dh) R (R.length:Int) (i:Int) E (E.length:Int) j)
  (fun t ws=>if Fq (ws++bW r.1 r.2.1 t).sum then K E (if(ws++bW r.1 r.2.1 t).sum=0 then out else out++[(r.1,(r.2.1,((ws++bW r.1 r.2.1 t).sum,())))]) R (R.length:Int) ((i+1:Nat):Int)else some (bc,(2:Int)))
  (fun j (ws:List Int)=>ws.length≤j+1∧ ∀x∈ws,aD x)
  (fun n j ws hj hI dr=> ?_) (fun n ws hI=> ?_) E.length N 0 [eO r] (by omega) (by omega) (by omega) ⟨Nat.le_refl _,fun x hx=>by rw[List.mem_singleton.1 hx];exact hr⟩
 ·rw[show((0:Nat):Int)=0 from rfl,List.drop_zero]at this
  refine this.trans ?_
  have e:([eO r]++bW r.1 r.2.1 E).sum=eO r+cc r.1 r.2.1 E:=by rw[List.singleton_append,List.sum_cons];rfl
  rw[e]
 ·unfold bt.Wv bt.Re
  have sS:=sR hq j
  have eV:=sS
  unfold aD eO at eV
  rw[aH (by omega),cond_true,aJ (by omega) (by omega),cond_true,Int.toNat_natCast,qJ N eV.1 eV.2,Option.bind_some,bh (by rw[List.length_map,List.length_singleton];omega),cond_true,aq (x:=(j:Int)+1) (by omega) (by omega),aa,aB,aB]
  by_cases h1:(E.getD j aW).1=r.1
  ·by_cases h2:(E.getD j aW).2.1=r.2.1
   ·have hc:bW r.1 r.2.1 (E.getD j aW::E.drop (j+1))=eO (E.getD j aW)::bW r.1 r.2.1 (E.drop (j+1)):=by rw[cZ,if_pos ⟨h1,h2⟩]
    rw[if_pos h1,if_pos h2,hc]
    have:=dr (ws++[eO (E.getD j aW)]) ⟨by rw[List.length_append,List.length_singleton];omega,vr hI.2 sS⟩
    rw[List.map_append]at this
    refine this.trans ?_
    rw[List.append_assoc];rfl
   ·have hc:bW r.1 r.2.1 (E.getD j aW::E.drop (j+1))=bW r.1 r.2.1 (E.drop (j+1)):=by rw[cZ,if_neg (fun h=>h2 h.2)]
    rw[if_pos h1,if_neg h2,hc]
    exact dr ws ⟨by omega,hI.2⟩
  ·have hc:bW r.1 r.2.1 (E.getD j aW::E.drop (j+1))=bW r.1 r.2.1 (E.drop (j+1)):=by rw[cZ,if_neg (fun h=>h1 h.1)]
   rw[if_neg h1,hc]
   exact dr ws ⟨by omega,hI.2⟩
 ·unfold bt.Wv bt.Re
  have hs:=A3 hI.2 (by omega)
  rw[aF (by omega),cond_false,Ci N hI.2 (by omega) (by omega),Option.bind_some]
  show _=if Fq (ws++[]).sum then K E (if(ws++[]).sum=0 then out else out++[(r.1,(r.2.1,((ws++[]).sum,())))]) R (R.length:Int) ((i+1:Nat):Int)else some (bc,(2:Int))
  rw[List.append_nil,yR N hs,Option.bind_some]
  by_cases h1:aD ws.sum
  ·rw[ru h1]
   dsimp only
   rw[Bool.not_true,cond_false,nQ,Option.bind_some,cond_not,dw,cond_not,aB,bh (by rw[List.length_singleton];omega),cond_true,aq (x:=(i:Int)+1) (by omega) (by omega),aa]
   by_cases h2:w5 ws.sum
   ·rw[if_pos h2,if_pos (show Fq ws.sum from⟨h1,h2⟩)]
    split<;>rfl
   ·rw[if_neg h2,if_neg (fun h=>h2 h.2)]
  ·rw[uq h1,if_neg (fun h=>h1 h.1)]
   rfl
theorem K5(N:Nat)(hN:2000000≤N){l E R:aj}(hq:dy E)(hl:E.length≤100000)(hR:R.length≤200000)(hv: ∀r∈R,aD (eO r)∧eO r=cc r.1 r.2.1 l):
  bt.Rf N N E [] R (R.length:Int) 0=pv (dC Fq (fS l E) (R.map keyOf)):=by
 have:=lK R aW (fun n i out=>bt.Rf N n E out R (R.length:Int) i) (fun t out=>pv ((dC Fq (fS l E) (t.map keyOf)).map (fun o=>out++o))) (fun i (out:aj)=>out.length≤i)
  (fun n i out hi hI hr=> ?_) (fun n out hI=> ?_) R.length N 0 [] (by omega) (by omega) (by omega) (Nat.le_refl _)
 ·rw[show((0:Nat):Int)=0 from rfl,List.drop_zero]at this
  refine this.trans ?_
  simp
 ·unfold bt.Rf bt.Rg
  have hm:R.getD i aW∈R:=by
   rw[List.getD_eq_getElem?_getD,List.getElem?_eq_getElem hi];exact List.getElem_mem hi
  have MA:=hv _ hm
  have sS:=MA.1
  have eV:=sS
  unfold aD eO at eV
  rw[aH (by omega),cond_true,aJ (by omega) (by omega),cond_true,Int.toNat_natCast,qJ N eV.1 eV.2,Option.bind_some]
  refine(NP N hN _ hq hl (by omega) _ sS i (by omega)).trans ?_
  rw[List.map_cons,jQ]
  have ef:fS l E (keyOf (R.getD i aW)).1 (keyOf (R.getD i aW)).2=eO (R.getD i aW)+cc (R.getD i aW).1 (R.getD i aW).2.1 E:=by
   show cc _ _ l+cc _ _ E=_
   rw[MA.2];rfl
  rw[ef]
  generalize hS:eO (R.getD i aW)+cc (R.getD i aW).1 (R.getD i aW).2.1 E=v
  by_cases hF:Fq v
  ·rw[if_pos hF,if_pos hF,hr _ (by
    split
    ·omega
    ·rw[List.length_append,List.length_singleton];omega)]
   cases dC Fq (fS l E) ((R.drop (i+1)).map keyOf)with
   |none=>rfl
   |some o=>
    show pv (some _)=pv (some _)
    congr 2
    split
    ·rfl
    ·exact List.append_assoc _ _ _
  ·rw[if_neg hF,if_neg hF];rfl
 ·unfold bt.Rf bt.Rg
  rw[aF (by omega),cond_false,Ez,Option.bind_some]
  show _=pv (some (out++[]))
  rw[List.append_nil];rfl
def xb(l:aj)(k:cC):cy:=(k.1,(k.2,(cc k.1 k.2 l,())))
theorem cM(l:aj)(K:List cC):(rowsOf l K).length=K.length:=List.length_map ..
theorem A6(l:aj){K:List cC}{p:Nat}(h:p<K.length):(rowsOf l K).getD p aW=xb l (K.getD p (0,0)):=by
 unfold rowsOf
 rw[List.getD_eq_getElem?_getD,List.getElem?_map,List.getElem?_eq_getElem h,List.getD_eq_getElem?_getD,List.getElem?_eq_getElem h];rfl
theorem px(l:aj)(K:List cC)(p:Nat)(k:cC):(rowsOf l K).take p++xb l k::(rowsOf l K).drop p=rowsOf l (K.take p++k::K.drop p):=by
 unfold rowsOf
 rw[List.map_append,List.map_cons,List.map_take,List.map_drop];rfl
theorem wu(l:aj)(K:List cC):(rowsOf l K).map keyOf=K:=by
 unfold rowsOf
 rw[List.map_map]
 induction K with
 |nil=>rfl
 |cons k t ih=>rw[List.map_cons,ih];rfl
theorem ur{k x:cC}:0<vk k.1 k.2 x.1 x.2↔ou x k:=by
 unfold vk ou iD;split<;>omega
theorem ry{k x:cC}:vk k.1 k.2 x.1 x.2=0↔x=k:=by
 have:x=k↔x.1=k.1∧x.2=k.2:=⟨fun h=>h▸⟨rfl,rfl⟩,fun h=>Prod.ext h.1 h.2⟩
 rw[this]
 unfold vk;split<;>omega
def uu(k:cC):Prop:=Ai k.1∧Ai k.2
theorem Jz{k:cC}{K:List cC}{p:Nat}(h:p<K.length):qP k (K.drop p)=if ou (K.getD p (0,0)) k then K.getD p (0,0)::qP k (K.drop (p+1))else if K.getD p (0,0)=k then K.drop p else k::K.drop p:=by
 rw[drop_cons h (0,0)];rfl
theorem uv{K:List cC}{p:Nat}(h:p<K.length)(t:List cC):K.take p++K.getD p (0,0)::t=K.take (p+1)++t:=by
 rw[←List.take_append_getElem h,List.append_assoc,List.getD_eq_getElem?_getD,List.getElem?_eq_getElem h];rfl
def zeroAt(l:aj)(K:List cC)(k:cC):Prop:=k∉K→cc k.1 k.2 l=0
theorem rz{l:aj}{k:cC}(h:cc k.1 k.2 l=0):((k.1,(k.2,((0:Int),()))):cy)=xb l k:=by
 unfold xb;rw[h]
theorem py{k:cC}{K:List cC}{p:Nat}(hs:sg K)(hp: ∀x∈K.take p,ou x k)(h: ∀x∈K.drop p,ou k x):k∉K:=fun hk=>by
 rw[←List.take_append_drop p K]at hk
 rcases List.mem_append.1 hk with hk|hk
 ·exact nT (hp k hk)
 ·exact nT (h k hk)
theorem JA{k:cC}{K:List cC}{p:Nat}(hs:sg K)(h:p<K.length)(h1: ¬ou (K.getD p (0,0)) k)(h2:K.getD p (0,0)≠k): ∀x∈K.drop p,ou k x:=by
 have hk:ou k (K.getD p (0,0)):=(Jx (K.getD p (0,0)) k).elim (fun h=>absurd h h1) (fun h=>h.elim (fun h=>absurd h h2) id)
 have hd:sg (K.drop p):=List.Pairwise.sublist (List.drop_sublist ..) hs
 rw[drop_cons h (0,0)]at hd ⊢
 intro x hx
 rcases List.mem_cons.1 hx with rfl|hx
 ·exact hk
 ·exact rr hk ((List.pairwise_cons.1 hd).1 x hx)
theorem Ww(N:Nat)(C:bt.eK){l E S:aj}{K:List cC}(hs:sg K)(hl:K.length≤100000)(hf: ∀k∈K,uu k)(x:cy)(hx:uu (keyOf x))(hz:zeroAt l K (keyOf x))(len:Int)(i:Nat)(hi:i≤1000000):
  ∀(m n p:Nat),K.length-p≤m→m<n→p≤K.length→(∀y∈K.take p,ou y (keyOf x))→
   bt.rP N C n E (rowsOf l K) x (p:Int) S len (i:Int)=C E (rowsOf l (K.take p++qP (keyOf x) (K.drop p))) S len ((i+1:Nat):Int)
 |m,0,p,_,hn,_,_=>by omega
 |m,n+1,p,hm,hn,hp,hb=>by
  unfold bt.rP bt.qM bt.j18 bt.Ym
  rw[cM,aq (x:=(i:Int)+1) (by omega) (by omega),aa i]
  by_cases h:p<K.length
  ·have hfk:=hf (K.getD p (0,0)) (by rw[List.getD_eq_getElem?_getD,List.getElem?_eq_getElem h];exact List.getElem_mem h)
   have ho:KT N x.1 x.2.1 ((rowsOf l K).getD p aW)=some (vk (keyOf x).1 (keyOf x).2 (K.getD p (0,0)).1 (K.getD p (0,0)).2):=by
    rw[A6 l h]
    exact A0 N hx.1 hx.2 hfk.1 hfk.2
   rw[aH (by omega),cond_true,aJ (by omega) (by omega),cond_true,Int.toNat_natCast,ho,Option.bind_some,cO (x:=(p:Int)) (by omega),cond_false,cond_true,Option.bind_some,bO,cond_not,aB,Jz h]
   by_cases h1:ou (K.getD p (0,0)) (keyOf x)
   ·rw[if_pos (ur.2 h1),if_pos h1,aq (x:=(p:Int)+1) (by omega) (by omega),aa p,uv h]
    refine Ww N C hs hl hf x hx hz len i hi (m-1) n (p+1) (by omega) (by omega) (by omega) fun y hy=> ?_
    rw[←List.take_append_getElem h]at hy
    rcases List.mem_append.1 hy with hy|hy
    ·exact hb y hy
    ·rw[List.getD_eq_getElem?_getD,List.getElem?_eq_getElem h]at h1
     rw[List.mem_singleton.1 hy];exact h1
   ·rw[if_neg (fun h=>h1 (ur.1 h)),if_neg h1]
    by_cases h2:K.getD p (0,0)=keyOf x
    ·rw[if_pos (ry.2 h2),if_pos h2,List.take_append_drop]
    ·rw[if_neg (fun h=>h2 (ry.1 h)),if_neg h2,xD N (by rw[cM];omega) (by rw[cM];omega),Option.bind_some]
     have zN:=hz (py hs hb (JA hs h h1 h2))
     have e:=px l K p (keyOf x)
     rw[←rz zN]at e
     exact congrArg (fun R=>C E R S len ((i+1:Nat):Int)) e
  ·have hd:K.drop p=[]:=List.drop_eq_nil_of_le (by omega)
   rw[aF (by omega),cond_false,ct (by omega),cond_true,xD N (by rw[cM];omega) (by rw[cM];omega),Option.bind_some]
   have zN:=hz (py hs hb (by rw[hd];exact fun x hx=>nomatch hx))
   have e:=px l K p (keyOf x)
   rw[←rz zN]at e
   have e2:qP (keyOf x) (K.drop p)=keyOf x::K.drop p:=by rw[hd];rfl
   rw[e2]
   exact congrArg (fun R=>C E R S len ((i+1:Nat):Int)) e
end VM
end
section
namespace VM
open Go VM.F
def A7(E:aj)(i:Nat):Prop:=fM (dR (i:Int) E).sum 0
instance(E:aj):DecidablePred (A7 E):=fun i=>by unfold A7;infer_instance
theorem Rh(N:Nat)(hN:2000000≤N)(K:dW.bL){E:aj}(hq:dy E)(hl:E.length≤100000)(a:Nat)(ha:a<6):
  dW.l6 N K N E (a:Int) [] (a:Int) E (E.length:Int) 0=if(dR (a:Int) E).sum=0 then K E ((a+1:Nat):Int)else some false:=by
 have:=lK E aW (fun n j ws=>dW.l6 N K n E (a:Int) (ws.map dh) (a:Int) E (E.length:Int) j)
  (fun t ws=>if(ws++dR (a:Int) t).sum=0 then K E ((a+1:Nat):Int)else some false)
  (fun j (ws:List Int)=>ws.length≤j∧ ∀x∈ws,aD x)
  (fun n j ws hj hI hr=> ?_) (fun n ws hI=> ?_) E.length N 0 [] (by omega) (by omega) (by omega) ⟨Nat.le_refl _,fun x hx=>nomatch hx⟩
 ·rw[show((0:Nat):Int)=0 from rfl,List.drop_zero]at this
  exact this
 ·unfold dW.l6 dW.mg
  have sS:=sR hq j
  have eV:=sS
  unfold aD eO at eV
  rw[aH (by omega),cond_true,aJ (by omega) (by omega),cond_true,Int.toNat_natCast,qJ N eV.1 eV.2,Option.bind_some,bh (by rw[List.length_map,List.length_singleton];omega),cond_true,aq (x:=(j:Int)+1) (by omega) (by omega),aa j,aB]
  by_cases h1:(E.getD j aW).2.1=(a:Int)
  ·have hc:dR (a:Int) (E.getD j aW::E.drop (j+1))=eO (E.getD j aW)::dR (a:Int) (E.drop (j+1)):=by rw[fe,if_pos h1]
   rw[if_pos h1,hc]
   have:=hr (ws++[eO (E.getD j aW)]) ⟨by rw[List.length_append,List.length_singleton];omega,vr hI.2 sS⟩
   rw[List.map_append]at this
   refine this.trans ?_
   rw[List.append_assoc];rfl
  ·have hc:dR (a:Int) (E.getD j aW::E.drop (j+1))=dR (a:Int) (E.drop (j+1)):=by rw[fe,if_neg h1]
   rw[if_neg h1,hc]
   exact hr ws ⟨by omega,hI.2⟩
 ·unfold dW.l6 dW.mg
  rw[aF (by omega),cond_false,Ci N hI.2 (by omega) (by omega),Option.bind_some]
  show _=if(ws++[]).sum=0 then K E ((a+1:Nat):Int)else some false
  rw[List.append_nil,Bool.not_true,cond_false,uh,Option.bind_some,cond_not,aB,aq (x:=(a:Int)+1) (by omega) (by omega),aa a]
  by_cases h:ws.sum=0
  ·rw[if_pos h,if_pos (kv.2 h)]
  ·rw[if_neg h,if_neg (fun k=>h (kv.1 k))]
theorem NQ(N:Nat)(hN:2000000≤N){E:aj}(hq:dy E)(hl:E.length≤100000):dW N E=some (decide (∀j,j<ir→A7 E j)&&true):=by
 unfold dW dW.b
 refine ep (len:=ir) (F:=fun n i=>dW.l2 N n E i) (A7 E) (fun n i r hi hp hr=> ?_) (fun n=> ?_) N (by unfold ir;omega)
 ·unfold dW.l2 dW.dI
  unfold ir at hi
  rw[aH (by omega),cond_true,Rh N hN _ hq hl i hi,hr]
  unfold A7 fM
  rfl
 ·unfold dW.l2 dW.dI
  rw[aF (by unfold ir;omega),cond_false]
structure JB(E:aj):Prop where
 place: ∀x∈E,bU x.1 x.2.1
 q: ∀x∈E,aD (eO x)∧w5 (eO x)
 len:E.length≤400
 flat: ∀i:Int,(dR i E).sum=0
theorem A8{x:cy}(h:bU x.1 x.2.1):uu (keyOf x):=by
 have h':bU (keyOf x).1 (keyOf x).2:=h
 unfold bU at h'
 unfold uu Ai
 omega
theorem dV{l:aj}{k:cC}(h:k∉l.map keyOf):cc k.1 k.2 l=0:=jP fun x hx e=>h (by
 have:keyOf x=k:=Prod.ext e.1 e.2
 rw[←this];exact List.mem_map_of_mem hx)
theorem K6(N:Nat)(hN:2000000≤N){l E:aj}(hq:dy E)(hE:E.length≤400)(hp: ∀x∈E,uu (keyOf x))(hs:sg (l.map keyOf))(hl:l.length≤90000)(NR:dy l)(Dc: ∀x∈l,uu (keyOf x)):
  bt.nV N N E l E (E.length:Int) 0=pv (dC Fq (fS l E) (ji (l.map keyOf) E)):=by
 have:=lK E aW (fun n i K=>bt.nV N n E (rowsOf l K) E (E.length:Int) i) (fun t K=>pv (dC Fq (fS l E) (ji K t)))
  (fun i (K:List cC)=>K.length≤l.length+i∧sg K∧(∀k∈K,uu k)∧ ∀x∈l,keyOf x∈K)
  (fun n i K hi hI hr=> ?_) (fun n K hI=> ?_) E.length N 0 (l.map keyOf) (by omega) (by omega) (by omega) ⟨by rw[List.length_map];omega,hs,fun k hk=>by
   obtain⟨x,hx,rfl⟩:=List.mem_map.1 hk
   exact Dc x hx,fun x hx=>List.mem_map_of_mem hx⟩
 ·rw[show((0:Nat):Int)=0 from rfl,List.drop_zero]at this
  simp only[iG hs]at this
  exact this
 ·unfold bt.nV bt.lN
  obtain⟨h1,h2,h3,h4⟩:=hI
  have hm:E.getD i aW∈E:=by
   rw[List.getD_eq_getElem?_getD,List.getElem?_eq_getElem hi];exact List.getElem_mem hi
  rw[aH (by omega),cond_true,aJ (by omega) (by omega),cond_true,Int.toNat_natCast]
  refine(Ww N _ h2 (by omega) h3 (E.getD i aW) (hp _ hm) (fun hk=>dV fun hx=>hk (by
   obtain⟨x,hx,e⟩:=List.mem_map.1 hx
   rw[←e];exact h4 x hx)) (E.length:Int) i (by omega) K.length N 0 (by omega) (by omega) (by omega) (fun y hy=>nomatch hy)).trans ?_
  rw[List.take_zero,List.nil_append,List.drop_zero,nU]
  refine hr (qP (keyOf (E.getD i aW)) K) ⟨Nat.le_trans (yQ _ K) (by omega),um h2,fun k hk=>(mN.1 hk).elim (fun e=>e▸hp _ hm) (h3 k),fun x hx=>mN.2 (Or.inr (h4 x hx))⟩
 ·unfold bt.nV bt.lN
  obtain⟨h1,h2,h3,h4⟩:=hI
  rw[aF (by omega),cond_false,cM,bG (by omega) (by omega) (by omega),cond_true]
  have:=K5 N hN (l:=l) (R:=rowsOf l K) hq (by omega) (by rw[cM];omega) (fun r hr=>by
   unfold rowsOf at hr
   obtain⟨k,hk,rfl⟩:=List.mem_map.1 hr
   refine⟨?_,rfl⟩
   show aD (cc k.1 k.2 l)
   by_cases hkl:k∈l.map keyOf
   ·have e:rowsOf l (l.map keyOf)=l:=iG hs
    have hm:xb l k∈rowsOf l (l.map keyOf):=List.mem_map_of_mem hkl
    rw[e]at hm
    exact NR (xb l k) hm
   ·rw[dV hkl];exact⟨by decide,by decide⟩)
  rw[wu,cM]at this
  exact this
theorem kF{l:aj}(h:dt l=true):sg (l.map keyOf)∧(∀x∈l,bU x.1 x.2.1∧w5 (eO x)):=by
 unfold dt at h
 rw[Bool.and_true]at h
 have h':=of_decide_eq_true h
 have get: ∀(i:Nat) (hi:i<l.length),l.getD i aW=l[i]:=fun i hi=>by rw[List.getD_eq_getElem?_getD,List.getElem?_eq_getElem hi];rfl
 have NS: ∀i,i+1<l.length→ou (keyOf (l.getD i aW)) (keyOf (l.getD (i+1) aW)):=fun i hi=>(h' (i+1) hi).2.2.2 (by omega)
 have dE: ∀j,j<l.length→ ∀i,i<j→ou (keyOf (l.getD i aW)) (keyOf (l.getD j aW)):=by
  intro j
  induction j with
  |zero=>intro _ i hi;omega
  |succ j ih=>
   intro hj i hi
   by_cases e:i=j
   ·rw[e];exact NS j hj
   ·exact rr (ih (by omega) i (by omega)) (NS j hj)
 refine⟨?_,fun x hx=> ?_⟩
 ·refine List.pairwise_map.2 (List.pairwise_iff_getElem.2 fun i j hi hj nH=> ?_)
  have:=dE j hj i nH
  rw[get i hi,get j hj]at this
  exact this
 ·obtain⟨i,hi,e⟩:=List.getElem_of_mem hx
  have:=h' i hi
  unfold iE jc at this
  rw[get i hi,e]at this
  exact⟨this.1,this.2.2.1⟩
theorem Ri(N:Nat)(hN:2000000≤N){l E:aj}(hk:dt l=true)(hl:l.length≤90000)(NR:dy l)(g:JB E):bt N l E=pv (dC Fq (fS l E) (ji (l.map keyOf) E)):=by
 obtain⟨hs,Dc⟩:=kF hk
 have hE:=g.len
 unfold bt bt.b
 rw[yI N (by omega) (by omega),hk,Option.bind_some,Bool.not_true,cond_false,aF (by omega),cond_false]
 refine se E aW (fun n i=>bt.l4 N n l E E (E.length:Int) i) (fun _=>pv (dC Fq (fS l E) (ji (l.map keyOf) E))) (fun n i hi hr=> ?_) (fun n=> ?_) N (by omega)
 ·unfold bt.l4 bt.ca
  have hm:E.getD i aW∈E:=by
   rw[List.getD_eq_getElem?_getD,List.getElem?_eq_getElem hi];exact List.getElem_mem hi
  rw[aH (by omega),cond_true,aJ (by omega) (by omega),cond_true,Int.toNat_natCast,Jt,decide_eq_true (g.place _ hm),Option.bind_some,Bool.not_true,cond_false,nQ,Option.bind_some,
   decide_eq_true (show w5 ((E.getD i aW).2.2.1)from(g.q _ hm).2),Bool.not_true,cond_false,aq (x:=(i:Int)+1) (by omega) (by omega),aa i]
  exact hr
 ·unfold bt.l4 bt.ca
  have hf:dW N E=some true:=by
   rw[NQ N hN (fun x hx=>(g.q x hx).1) (by omega),decide_eq_true (p:= ∀j,j<ir→A7 E j) (fun j _=>g.flat (j:Int))];rfl
  rw[aF (by omega),cond_false,hf,Option.bind_some,Bool.not_true,cond_false,od N (by omega),Option.bind_some]
  exact K6 N hN (fun x hx=>(g.q x hx).1) hE (fun x hx=>A8 (g.place x hx)) hs hl NR (fun x hx=>A8 (Dc x hx).1)
end VM
end
section
namespace VM
open Go VM.F
def uw(a b:Nat):Nat→List cC
 |0=>[]
 |m+1=>((a:Int),(b:Int))::uw a (b+1) m
def si(w a:Nat):Nat→List cC
 |0=>[]
 |m+1=>uw a 0 w++si w (a+1) m
theorem ux{k:cC}{a:Nat}: ∀{m b:Nat},k∈uw a b m↔k.1=a∧(b:Int)≤k.2∧k.2<(b+m:Nat)
 |0,b=>⟨fun h=>(nomatch h),fun h=>by omega⟩
 |m+1,b=>by
  show k∈((a:Int),(b:Int))::uw a (b+1) m↔_
  rw[List.mem_cons,ux]
  have:k=((a:Int),(b:Int))↔k.1=a∧k.2=b:=⟨fun h=>h▸⟨rfl,rfl⟩,fun h=>Prod.ext h.1 h.2⟩
  rw[this]
  omega
theorem rA{k:cC}{w:Nat}: ∀{m a:Nat},k∈si w a m↔(a:Int)≤k.1∧k.1<(a+m:Nat)∧0≤k.2∧k.2<w
 |0,a=>⟨fun h=>(nomatch h),fun h=>by omega⟩
 |m+1,a=>by
  show k∈uw a 0 w++si w (a+1) m↔_
  rw[List.mem_append,ux,rA]
  omega
theorem EA(a:Nat): ∀(m b:Nat),sg (uw a b m)
 |0,b=>List.Pairwise.nil
 |m+1,b=>List.pairwise_cons.2 ⟨fun k hk=>by
  have:=ux.1 hk
  show(a:Int)<k.1∨((a:Int)=k.1∧(b:Int)<k.2)
  omega,EA a m (b+1)⟩
theorem vt(w:Nat): ∀(m a:Nat),sg (si w a m)
 |0,a=>List.Pairwise.nil
 |m+1,a=>List.pairwise_append.2 ⟨EA a w 0,vt w m (a+1),fun x hx y hy=>by
  have h1:=ux.1 hx
  have h2:=rA.1 hy
  show x.1<y.1∨(x.1=y.1∧x.2<y.2)
  omega⟩
structure Mark(l:aj)(a b p:Nat):Prop where
 le:p≤l.length
 lo: ∀x∈l.take p,ou (keyOf x) ((a:Int),(b:Int))
 hi: ∀x∈l.drop p,¬ou (keyOf x) ((a:Int),(b:Int))
theorem oN{k:cC}{a b:Nat}:ou k ((a:Int),((b+1:Nat):Int))↔ou k ((a:Int),(b:Int))∨k=((a:Int),(b:Int)):=by
 have:k=((a:Int),(b:Int))↔k.1=a∧k.2=b:=⟨fun h=>h▸⟨rfl,rfl⟩,fun h=>Prod.ext h.1 h.2⟩
 rw[this]
 show(k.1<(a:Int)∨(k.1=(a:Int)∧k.2<((b+1:Nat):Int)))↔(k.1<(a:Int)∨(k.1=(a:Int)∧k.2<(b:Int)))∨_
 omega
theorem Mark.row{l:aj}{a w p:Nat}(h:Mark l a w p)(hw: ∀x∈l,0≤(keyOf x).2∧(keyOf x).2<w):Mark l (a+1) 0 p:=by
 have key: ∀x∈l,(ou (keyOf x) ((a:Int),(w:Int))↔ou (keyOf x) (((a+1:Nat):Int),((0:Nat):Int))):=fun x hx=>by
  have:=hw x hx
  show((keyOf x).1<(a:Int)∨((keyOf x).1=(a:Int)∧(keyOf x).2<(w:Int)))↔((keyOf x).1<((a+1:Nat):Int)∨((keyOf x).1=((a+1:Nat):Int)∧(keyOf x).2<((0:Nat):Int)))
  omega
 exact⟨h.le,fun x hx=>(key x (List.mem_of_mem_take hx)).1 (h.lo x hx),fun x hx k=>h.hi x hx ((key x (List.mem_of_mem_drop hx)).2 k)⟩
theorem Cm(a b:Int)(l m:aj):cc a b (l++m)=cc a b l+cc a b m:=by
 induction l with
 |nil=>rw[List.nil_append,K4];omega
 |cons x t ih=>rw[List.cons_append,mM,mM,ih];omega
theorem Mark.step{l:aj}(hs:sg (l.map keyOf)){a b p:Nat}(h:Mark l a b p):
  (p<l.length∧(l.getD p aW).1=(a:Int)∧(l.getD p aW).2.1=(b:Int)∧cc (a:Int) (b:Int) l=eO (l.getD p aW)∧Mark l a (b+1) (p+1))∨
  ((p<l.length→(l.getD p aW).1=(a:Int)→(l.getD p aW).2.1=(b:Int)→False)∧cc (a:Int) (b:Int) l=0∧Mark l a (b+1) p):=by
 have no: ∀{x:cy} {k:cC},¬keyOf x=k→ ¬(x.1=k.1∧x.2.1=k.2):=fun h e=>h (Prod.ext e.1 e.2)
 have hz:cc (a:Int) (b:Int) (l.take p)=0:=jP fun x hx e=>by
  have e':keyOf x=((a:Int),(b:Int)):=Prod.ext e.1 e.2
  have:=h.lo x hx
  rw[e']at this
  exact nT this
 have HQ:cc (a:Int) (b:Int) l=cc (a:Int) (b:Int) (l.drop p):=by
  conv=>lhs;rw[←List.take_append_drop p l]
  rw[Cm,hz];omega
 by_cases hp:p<l.length
 ·have hd:=drop_cons hp aW
  have hsd:sg ((l.drop p).map keyOf):=by
   rw[List.map_drop];exact List.Pairwise.sublist (List.drop_sublist ..) hs
  have C8:=h.hi
  rw[hd]at hsd C8 HQ
  have hgt:=(List.pairwise_cons.1 hsd).1
  have MX:=C8 _ (List.mem_cons_self ..)
  have adG:l.take (p+1)=l.take p++[l.getD p aW]:=by
   rw[←List.take_append_getElem hp,List.getD_eq_getElem?_getD,List.getElem?_eq_getElem hp];rfl
  by_cases he:keyOf (l.getD p aW)=((a:Int),(b:Int))
  ·refine Or.inl ⟨hp,congrArg Prod.fst he,congrArg Prod.snd he,?_,by omega,fun x hx=> ?_,fun x hx hk=> ?_⟩
   ·rw[HQ,mM,if_pos ⟨congrArg Prod.fst he,congrArg Prod.snd he⟩,jP fun x hx e=> ?_]
    ·omega
    ·have hg:=hgt (keyOf x) (List.mem_map_of_mem hx)
     have e':keyOf x=((a:Int),(b:Int)):=Prod.ext e.1 e.2
     rw[he,e']at hg
     exact nT hg
   ·rw[adG]at hx
    rcases List.mem_append.1 hx with hx|hx
    ·exact oN.2 (Or.inl (h.lo x hx))
    ·rw[List.mem_singleton.1 hx];exact oN.2 (Or.inr he)
   ·have hg:=hgt (keyOf x) (List.mem_map_of_mem hx)
    rw[he]at hg
    rcases oN.1 hk with hk|hk
    ·exact A4 hg hk
    ·rw[hk]at hg;exact nT hg
  ·have iX: ∀x∈l.getD p aW::l.drop (p+1),keyOf x≠((a:Int),(b:Int)):=fun x hx e=>by
    rcases List.mem_cons.1 hx with rfl|hx
    ·exact he e
    ·have hg:=hgt (keyOf x) (List.mem_map_of_mem hx)
     rw[e]at hg
     exact MX hg
   refine Or.inr ⟨fun _ e1 e2=>he (Prod.ext e1 e2),?_,h.le,fun x hx=>oN.2 (Or.inl (h.lo x hx)),fun x hx hk=> ?_⟩
   ·rw[HQ]
    exact jP fun x hx=>no (iX x hx)
   ·rw[hd]at hx
    rcases oN.1 hk with hk|hk
    ·exact C8 x hx hk
    ·exact iX x hx hk
 ·have hd:l.drop p=[]:=List.drop_eq_nil_of_le (by omega)
  refine Or.inr ⟨fun h=>absurd h hp,by rw[HQ,hd];rfl,h.le,fun x hx=>oN.2 (Or.inl (h.lo x hx)),fun x hx=> ?_⟩
  rw[hd]at hx;nomatch hx
def qQ(out:aj)(r:Option aj):Option (aj×Bool):=some (match r with|some o=>(out++o,true)|none=>([],false))
theorem Cn(N:Nat)(v:Int):HR N (bZ v)=some (if Fq v then(v,true)else(0,false)):=by
 unfold HR
 rw[oc,Option.bind_some]
 by_cases h:aD v
 ·rw[ru h]
  dsimp only
  rw[Bool.not_true,cond_false,aB]
  by_cases h2:w5 v
  ·rw[if_neg (show ¬v= -9223372036854775808 from h2),if_pos (show Fq v from⟨h,h2⟩)]
  ·rw[if_pos (show v= -9223372036854775808 by unfold w5 at h2;omega),if_neg (fun h=>h2 h.2)]
 ·rw[uq h,if_neg (fun k=>h k.1)]
  rfl
theorem NT(N:Nat)(hN:4000000≤N)(C4:bw.aU)(C7:bw.cU){l E out:aj}(hq:dy E)(hl:E.length≤100000)(ho:out.length≤1000000)(p:Int)(a b:Nat)(hb:b≤1000000)(q:Int)(hF:Fq q):
  bw.Dd N C4 C7 N l E out p (a:Int) (b:Int) q false (false,(([]:List Int),())) 0=
   if Fq (q+cc (a:Int) (b:Int) E)then C7 l E (if q+cc (a:Int) (b:Int) E=0 then out else out++[((a:Int),((b:Int),(q+cc (a:Int) (b:Int) E,())))]) p (a:Int) ((b+1:Nat):Int)else some ([],false):=by
 have:=lK E aW (fun n j ws=>bw.Dd N C4 C7 n l E out p (a:Int) (b:Int) q (!ws.isEmpty) (bZ ws.sum) j)
  (fun t ws=>if Fq (q+(ws++bW (a:Int) (b:Int) t).sum)then C7 l E (if q+(ws++bW (a:Int) (b:Int) t).sum=0 then out else out++[((a:Int),((b:Int),(q+(ws++bW (a:Int) (b:Int) t).sum,())))]) p (a:Int) ((b+1:Nat):Int)else some ([],false))
  (fun j (ws:List Int)=>ws.length≤j∧ ∀x∈ws,aD x)
  (fun n j ws hj hI dr=> ?_) (fun n ws hI=> ?_) E.length N 0 [] (by omega) (by omega) (by omega) ⟨Nat.le_refl _,fun x hx=>nomatch hx⟩
 ·rw[show((0:Nat):Int)=0 from rfl,List.drop_zero,List.sum_nil,gr]at this
  exact this
 ·unfold bw.Dd bw.Co
  have sS:=sR hq j
  have eV:=sS
  unfold aD eO at eV
  have hb:=Eu hI.2
  rw[aH (by omega),cond_true,aJ (by omega) (by omega),cond_true,cond_true,cond_true,Int.toNat_natCast,eS N (by omega) eV.1 eV.2,Option.bind_some,fH N (by omega) ((tV (n:=ws.length) (by omega) hb.1 hb.2).mono (by omega)) ((Fit.i64 eV.1 eV.2).mono (by omega)),Option.bind_some,aq (x:=(j:Int)+1) (by omega) (by omega),aa j,aB,aB]
  by_cases h1:(E.getD j aW).1=(a:Int)
  ·by_cases h2:(E.getD j aW).2.1=(b:Int)
   ·have hc:bW (a:Int) (b:Int) (E.getD j aW::E.drop (j+1))=eO (E.getD j aW)::bW (a:Int) (b:Int) (E.drop (j+1)):=by rw[cZ,if_pos ⟨h1,h2⟩]
    rw[if_pos h1,if_pos h2,hc]
    have:=dr (ws++[eO (E.getD j aW)]) ⟨by rw[List.length_append,List.length_singleton];omega,vr hI.2 sS⟩
    rw[List.sum_append,List.sum_cons,List.sum_nil,Int.add_zero,List.append_assoc]at this
    refine Eq.trans ?_ this
    rw[show(!(ws++[eO (E.getD j aW)]).isEmpty)=true by cases ws<;>rfl]
    rfl
   ·have hc:bW (a:Int) (b:Int) (E.getD j aW::E.drop (j+1))=bW (a:Int) (b:Int) (E.drop (j+1)):=by rw[cZ,if_neg (fun h=>h2 h.2)]
    rw[if_pos h1,if_neg h2,hc]
    exact dr ws ⟨by omega,hI.2⟩
  ·have hc:bW (a:Int) (b:Int) (E.getD j aW::E.drop (j+1))=bW (a:Int) (b:Int) (E.drop (j+1)):=by rw[cZ,if_neg (fun h=>h1 h.1)]
   rw[if_neg h1,hc]
   exact dr ws ⟨by omega,hI.2⟩
 ·unfold bw.Dd bw.Co
  have hs:=Eu hI.2
  have Ju:=hF.1
  unfold aD at Ju
  rw[aF (by omega),cond_false,eS N (by omega) Ju.1 Ju.2,Option.bind_some,fH N (by omega) ((tV (n:=ws.length) (by omega) hs.1 hs.2).mono (by omega)) ((Fit.i64 Ju.1 Ju.2).mono (by omega)),Option.bind_some,Cn,Option.bind_some,aq (x:=(b:Int)+1) (by omega) (by omega),aa b,bh (by rw[List.length_singleton];omega),cond_true,bh (by rw[List.length_singleton];omega),cond_true,cond_not]
  show _=if Fq (q+(ws++[]).sum)then C7 l E (if q+(ws++[]).sum=0 then out else out++[((a:Int),((b:Int),(q+(ws++[]).sum,())))]) p (a:Int) ((b+1:Nat):Int)else some ([],false)
  rw[List.append_nil,Int.add_comm ws.sum q]
  cases ws with
  |nil=>
   show cond (!az q 0) _ _=_
   rw[cond_not,aB,List.sum_nil,Int.add_zero,if_pos hF]
   by_cases h:q=0
   ·rw[if_pos h,if_pos h]
   ·rw[if_neg h,if_neg h]
  |cons w ws=>
   show cond (!(if Fq (q+(w::ws).sum)then(q+(w::ws).sum,true)else(0,false)).2) _ _=_
   by_cases h2:Fq (q+(w::ws).sum)
   ·rw[if_pos h2,if_pos h2]
    dsimp only
    rw[Bool.not_true,cond_false,cond_not,aB]
    by_cases h:q+(w::ws).sum=0
    ·rw[if_pos h,if_pos h]
    ·rw[if_neg h,if_neg h]
   ·rw[if_neg h2,if_neg h2];rfl
end VM
end
section
namespace VM
open Go VM.F
theorem A9{P:Int→Prop} [DecidablePred P]{f:Int→Int→Int}{k:cC}{K:List cC}{out:aj}{v:Int}(hv:f k.1 k.2=v):
  (if P v then qQ (if v=0 then out else out++[(k.1,(k.2,(v,())))]) (dC P f K)else some ([],false))=qQ out (dC P f (k::K)):=by
 rw[jQ,hv]
 by_cases h:P v
 ·rw[if_pos h,if_pos h]
  cases dC P f K with
  |none=>rfl
  |some o=>
   show some ((if v=0 then out else out++[(k.1,(k.2,(v,())))])++o,true)=some (out++(if v=0 then o else(k.1,(k.2,(v,())))::o),true)
   by_cases h0:v=0
   ·rw[if_pos h0,if_pos h0]
   ·rw[if_neg h0,if_neg h0,List.append_assoc];rfl
 ·rw[if_neg h,if_neg h];rfl
theorem adH{l:aj}(hs:sg (l.map keyOf))(hl: ∀x∈l,Fq (eO x))(k:cC):Fq (cc k.1 k.2 l):=by
 by_cases hk:k∈l.map keyOf
 ·have hm:xb l k∈rowsOf l (l.map keyOf):=List.mem_map_of_mem hk
  rw[iG hs]at hm
  exact hl (xb l k) hm
 ·rw[dV hk];exact⟨⟨by decide,by decide⟩,by decide⟩
theorem Ba(N:Nat)(hN:4000000≤N)(C:bw.aU){l E:aj}(hq:dy E)(hl:E.length≤100000)(hs:sg (l.map keyOf))(tH:l.length≤100000)(hf: ∀x∈l,Fq (eO x))(hw: ∀x∈l,0≤(keyOf x).2∧(keyOf x).2<(6:Nat))(a:Nat)(ha:a≤24)(G:List cC)
  (hc: ∀(p:Nat) (out:aj),Mark l (a+1) 0 p→out.length≤6*(a+1)→C l E out (p:Int) ((a+1:Nat):Int)=qQ out (dC Fq (fS l E) G)):
  ∀(m n b p:Nat) (out:aj),b+m=6→m<n→Mark l a b p→out.length≤6*a+b→bw.l7 N C n l E out (p:Int) (a:Int) (b:Int)=qQ out (dC Fq (fS l E) (uw a b m++G))
 |m,0,b,p,out,_,hn,_,_=>by omega
 |0,n+1,b,p,out,hb,_,hM,ho=>by
  have e:b=6:=by omega
  subst e
  unfold bw.l7 bw.lD
  rw[aF (by omega),cond_false,aq (x:=(a:Int)+1) (by omega) (by omega),aa a]
  exact hc p out (hM.row hw) (by omega)
 |m+1,n+1,b,p,out,hb,hn,hM,ho=>by
  have hp:=hM.le
  have Yn: ∀(p:Nat) (v:Int),Mark l a (b+1) p→bw.l7 N C n l E (if v=0 then out else out++[((a:Int),((b:Int),(v,())))]) (p:Int) (a:Int) ((b+1:Nat):Int)=qQ (if v=0 then out else out++[((a:Int),((b:Int),(v,())))]) (dC Fq (fS l E) (uw a (b+1) m++G)):=fun p v h=>
   Ba N hN C hq hl hs tH hf hw a ha G hc m n (b+1) p _ (by omega) (by omega) h (by
    split
    ·omega
    ·rw[List.length_append,List.length_singleton];omega)
  have PO:=adH hs hf ((a:Int),(b:Int))
  unfold bw.l7 bw.lD bw.JC bw.Cp
  show _=qQ out (dC Fq (fS l E) (((a:Int),(b:Int))::(uw a (b+1) m++G)))
  rw[aH (x:=(b:Int)) (by omega),cond_true,bO,aB,aB,Int.toNat_natCast]
  have fin: ∀(p:Nat) (q:Int),q=cc (a:Int) (b:Int) l→Mark l a (b+1) p→bw.Dd N C (bw.l7 N C n) N l E out (p:Int) (a:Int) (b:Int) q false (false,(([]:List Int),())) 0=qQ out (dC Fq (fS l E) (((a:Int),(b:Int))::(uw a (b+1) m++G))):=fun p q e h=>by
   subst e
   rw[NT N hN C _ hq hl (by omega) (p:Int) a b (by omega) _ PO,Yn p _ h]
   exact A9 (k:=((a:Int),(b:Int))) rfl
  rcases hM.step hs with⟨h1,h2,h3,h4,h5⟩|⟨h1,h2,h3⟩
  ·rw[if_pos (show(p:Int)<(l.length:Int)by omega),aJ (by omega) (by omega),cond_true,cond_true,if_pos h2,if_pos h3,aq (x:=(p:Int)+1) (by omega) (by omega),aa p,cond_true]
   exact fin (p+1) _ h4.symm h5
  ·by_cases g1:p<l.length
   ·rw[if_pos (show(p:Int)<(l.length:Int)by omega),aJ (by omega) (by omega),cond_true,cond_true]
    by_cases g2:(l.getD p aW).1=(a:Int)
    ·rw[if_pos g2,if_neg (fun g3=>h1 g1 g2 g3)]
     exact fin p _ h2.symm h3
    ·rw[if_neg g2]
     exact fin p _ h2.symm h3
   ·rw[if_neg (show ¬(p:Int)<(l.length:Int)by omega)]
    exact fin p _ h2.symm h3
theorem Bb(N:Nat)(hN:4000000≤N){l E:aj}(hq:dy E)(hl:E.length≤100000)(hs:sg (l.map keyOf))(tH:l.length≤100000)(hf: ∀x∈l,Fq (eO x))(hw: ∀x∈l,0≤(keyOf x).2∧(keyOf x).2<(6:Nat)):
  ∀(m n a p:Nat) (out:aj),a+m=25→m<n→Mark l a 0 p→out.length≤6*a→bw.l4 N n l E out (p:Int) (a:Int)=qQ out (dC Fq (fS l E) (si 6 a m))
 |m,0,a,p,out,_,hn,_,_=>by omega
 |0,n+1,a,p,out,ha,_,hM,ho=>by
  unfold bw.l4 bw.ca
  rw[dg (by omega),cond_false]
  show some (out,true)=some (out++[],true)
  rw[List.append_nil]
 |m+1,n+1,a,p,out,ha,hn,hM,ho=>by
  unfold bw.l4 bw.ca
  rw[df (by omega),cond_true]
  exact Ba N hN _ hq hl hs tH hf hw a (by omega) (si 6 (a+1) m) (fun p out h ho=>Bb N hN hq hl hs tH hf hw m n (a+1) p out (by omega) (by omega) h ho) 6 N 0 p out (by omega) (by omega) hM (by omega)
def sW:List cC:=si 6 0 25
theorem HS(N:Nat)(hN:4000000≤N){l E:aj}(hk:dt l=true)(hl:l.length≤90000)(NR:dy l)(hq:dy E)(hE:E.length≤100000):bw N l E=qQ [] (dC Fq (fS l E) sW):=by
 obtain⟨hs,Dc⟩:=kF hk
 unfold bw bw.b
 refine Bb N hN hq hE hs (by omega) (fun x hx=>⟨NR x hx,(Dc x hx).2⟩) (fun x hx=> ?_) 25 N 0 0 [] (by omega) (by omega) ⟨by omega,fun x hx=>(nomatch hx),fun x hx dE=> ?_⟩ (by simp)
 ·have h:bU (keyOf x).1 (keyOf x).2:=(Dc x hx).1
  unfold bU at h;omega
 ·have h:bU (keyOf x).1 (keyOf x).2:=(Dc x (List.mem_of_mem_drop hx)).1
  unfold bU at h
  have qw:(keyOf x).1<((0:Nat):Int)∨((keyOf x).1=((0:Nat):Int)∧(keyOf x).2<((0:Nat):Int)):=dE
  omega
theorem K7{l E:aj}(hk:dt l=true)(hp: ∀x∈E,bU x.1 x.2.1):dC Fq (fS l E) (ji (l.map keyOf) E)=dC Fq (fS l E) sW:=by
 obtain⟨hs,Dc⟩:=kF hk
 refine Ey ⟨⟨by decide,by decide⟩,by decide⟩ (sV hs) (vt 6 25 0) (fun k hk=> ?_) (fun k hk hn=> ?_)
 ·have:bU k.1 k.2:=by
   rcases iu.1 hk with h|⟨x,hx,rfl⟩
   ·obtain⟨x,hx,rfl⟩:=List.mem_map.1 h
    exact(Dc x hx).1
   ·exact hp x hx
  unfold bU at this
  exact rA.2 (by omega)
 ·have h1:k∉l.map keyOf:=fun h=>hn (iu.2 (Or.inl h))
  have h2:k∉E.map keyOf:=fun h=>by
   obtain⟨x,hx,e⟩:=List.mem_map.1 h
   exact hn (iu.2 (Or.inr ⟨x,hx,e⟩))
  unfold fS
  rw[dV h1,dV h2];rfl
end VM
end
section
namespace VM
open Go VM.F
def Cq(E:aj):Prop:= ∀x∈E,dZ (eO x)
def fy(r:cy):pz:=(r.1,(r.2.1,(dh (eO r),())))
theorem Cr(E:aj)(i:Nat):(E.map fy).getD i ((0:Int),((0:Int),(bP,())))=fy (E.getD i aW):=by
 by_cases h:i<E.length
 ·rw[List.getD_eq_getElem?_getD,List.getElem?_map,List.getElem?_eq_getElem h,List.getD_eq_getElem?_getD,List.getElem?_eq_getElem h];rfl
 ·rw[List.getD_eq_getElem?_getD,List.getElem?_eq_none (by rw[List.length_map];omega),List.getD_eq_getElem?_getD,List.getElem?_eq_none (by omega)];rfl
theorem Cs{l:aj}(h:Cq l)(i:Nat):dZ (eO (l.getD i aW)):=by
 by_cases hi:i<l.length
 ·rw[List.getD_eq_getElem?_getD,List.getElem?_eq_getElem hi];exact h _ (List.getElem_mem hi)
 ·rw[List.getD_eq_getElem?_getD,List.getElem?_eq_none (by omega)];exact⟨by decide,by decide⟩
theorem sX{x:Int}(h:aD x):dZ x:=by unfold aD at h;unfold dZ;omega
theorem sY{ws:List Int}{x:Int}(h: ∀y∈ws,dZ y)(hx:dZ x): ∀y∈ws++[x],dZ y:=fun y hy=>by
 rcases List.mem_append.1 hy with hy|hy
 ·exact h y hy
 ·rw[List.mem_singleton.1 hy];exact hx
theorem NU(N:Nat){l:aj}:Yo N l=some l:=Ez N
theorem NV(N:Nat)(hN:2000000≤N)(K:bu.Bc){E out R:aj}(hq:Cq E)(hl:E.length≤100000)(ho:out.length≤1000000)(r:cy)(hr:aD (eO r))(i:Nat)(hi:i≤1000000):
  bu.HT N K N (E.map fy) out r [dh (eO r)] R (R.length:Int) (i:Int) (E.map fy) ((E.map fy).length:Int) 0=
   if aD (eO r+cc r.1 r.2.1 E)then K (E.map fy) (if eO r+cc r.1 r.2.1 E=0 then out else out++[(r.1,(r.2.1,(eO r+cc r.1 r.2.1 E,())))]) R (R.length:Int) ((i+1:Nat):Int)else some (bc,(2:Int)):=by
 have:=lK E aW (fun n j ws=>bu.HT N K n (E.map fy) out r (ws.map dh) R (R.length:Int) (i:Int) (E.map fy) ((E.map fy).length:Int) j)
  (fun t ws=>if aD (ws++bW r.1 r.2.1 t).sum then K (E.map fy) (if(ws++bW r.1 r.2.1 t).sum=0 then out else out++[(r.1,(r.2.1,((ws++bW r.1 r.2.1 t).sum,())))]) R (R.length:Int) ((i+1:Nat):Int)else some (bc,(2:Int)))
  (fun j (ws:List Int)=>ws.length≤j+1∧ ∀x∈ws,dZ x)
  (fun n j ws hj hI dr=> ?_) (fun n ws hI=> ?_) E.length N 0 [eO r] (by omega) (by omega) (by omega) ⟨Nat.le_refl _,fun x hx=>by rw[List.mem_singleton.1 hx];exact sX hr⟩
 ·rw[show((0:Nat):Int)=0 from rfl,List.drop_zero]at this
  refine this.trans ?_
  have e:([eO r]++bW r.1 r.2.1 E).sum=eO r+cc r.1 r.2.1 E:=by rw[List.singleton_append,List.sum_cons];rfl
  rw[e]
 ·unfold bu.HT bu.EB
  rw[aH (by rw[List.length_map];omega),cond_true,aJ (by omega) (by rw[List.length_map];omega),cond_true,Int.toNat_natCast,Cr,bh (by rw[List.length_map,List.length_singleton];omega),cond_true,aq (x:=(j:Int)+1) (by omega) (by omega),aa j,aB,aB]
  by_cases h1:(E.getD j aW).1=r.1
  ·by_cases h2:(E.getD j aW).2.1=r.2.1
   ·have hc:bW r.1 r.2.1 (E.getD j aW::E.drop (j+1))=eO (E.getD j aW)::bW r.1 r.2.1 (E.drop (j+1)):=by rw[cZ,if_pos ⟨h1,h2⟩]
    rw[if_pos (show(fy (E.getD j aW)).1=r.1 from h1),if_pos (show(fy (E.getD j aW)).2.1=r.2.1 from h2),hc]
    have:=dr (ws++[eO (E.getD j aW)]) ⟨by rw[List.length_append,List.length_singleton];omega,sY hI.2 (Cs hq j)⟩
    rw[List.map_append]at this
    refine this.trans ?_
    rw[List.append_assoc];rfl
   ·have hc:bW r.1 r.2.1 (E.getD j aW::E.drop (j+1))=bW r.1 r.2.1 (E.drop (j+1)):=by rw[cZ,if_neg (fun h=>h2 h.2)]
    rw[if_pos (show(fy (E.getD j aW)).1=r.1 from h1),if_neg (show ¬(fy (E.getD j aW)).2.1=r.2.1 from h2),hc]
    exact dr ws ⟨by omega,hI.2⟩
  ·have hc:bW r.1 r.2.1 (E.getD j aW::E.drop (j+1))=bW r.1 r.2.1 (E.drop (j+1)):=by rw[cZ,if_neg (fun h=>h1 h.1)]
   rw[if_neg (show ¬(fy (E.getD j aW)).1=r.1 from h1),hc]
   exact dr ws ⟨by omega,hI.2⟩
 ·unfold bu.HT bu.EB
  rw[aF (by rw[List.length_map];omega),cond_false,Cd N hI.2 (by omega) (by omega),Option.bind_some]
  show _=if aD (ws++[]).sum then K (E.map fy) (if(ws++[]).sum=0 then out else out++[(r.1,(r.2.1,((ws++[]).sum,())))]) R (R.length:Int) ((i+1:Nat):Int)else some (bc,(2:Int))
  rw[List.append_nil]
  unfold HA
  by_cases h0:dZ ws.sum
  ·rw[if_pos h0]
   dsimp only
   rw[yR N h0,Option.bind_some,Bool.not_true,cond_false]
   by_cases h1:aD ws.sum
   ·rw[ru h1]
    dsimp only
    rw[Bool.not_true,cond_false,cond_not,aB,bh (by rw[List.length_singleton];omega),cond_true,aq (x:=(i:Int)+1) (by omega) (by omega),aa i,if_pos h1]
    split<;>rfl
   ·rw[uq h1,if_neg h1]
    rfl
  ·rw[if_neg h0,if_neg (fun h=>h0 (sX h))]
   have e:Hy N bP=some (w3 0):=yR N (v:=0) ⟨by decide,by decide⟩
   dsimp only
   rw[e,Option.bind_some]
   rfl
theorem K8(N:Nat)(hN:2000000≤N){l E R:aj}(hq:Cq E)(hl:E.length≤100000)(hR:R.length≤200000)(hv: ∀r∈R,aD (eO r)∧eO r=cc r.1 r.2.1 l):
  bu.Rj N N (E.map fy) [] R (R.length:Int) 0=pv (dC aD (fS l E) (R.map keyOf)):=by
 have:=lK R aW (fun n i out=>bu.Rj N n (E.map fy) out R (R.length:Int) i) (fun t out=>pv ((dC aD (fS l E) (t.map keyOf)).map (fun o=>out++o))) (fun i (out:aj)=>out.length≤i)
  (fun n i out hi hI hr=> ?_) (fun n out hI=> ?_) R.length N 0 [] (by omega) (by omega) (by omega) (Nat.le_refl _)
 ·rw[show((0:Nat):Int)=0 from rfl,List.drop_zero]at this
  refine this.trans ?_
  simp
 ·unfold bu.Rj bu.Rk
  have hm:R.getD i aW∈R:=by
   rw[List.getD_eq_getElem?_getD,List.getElem?_eq_getElem hi];exact List.getElem_mem hi
  have MA:=hv _ hm
  have sS:=MA.1
  have eV:=sS
  unfold aD eO at eV
  rw[aH (by omega),cond_true,aJ (by omega) (by omega),cond_true,Int.toNat_natCast,qJ N eV.1 eV.2,Option.bind_some]
  refine(NV N hN _ hq hl (by omega) _ sS i (by omega)).trans ?_
  rw[List.map_cons,jQ]
  have ef:fS l E (keyOf (R.getD i aW)).1 (keyOf (R.getD i aW)).2=eO (R.getD i aW)+cc (R.getD i aW).1 (R.getD i aW).2.1 E:=by
   show cc _ _ l+cc _ _ E=_
   rw[MA.2];rfl
  rw[ef]
  generalize hS:eO (R.getD i aW)+cc (R.getD i aW).1 (R.getD i aW).2.1 E=v
  by_cases hF:aD v
  ·rw[if_pos hF,if_pos hF,hr _ (by
    split
    ·omega
    ·rw[List.length_append,List.length_singleton];omega)]
   cases dC aD (fS l E) ((R.drop (i+1)).map keyOf)with
   |none=>rfl
   |some o=>
    show pv (some _)=pv (some _)
    congr 2
    split
    ·rfl
    ·exact List.append_assoc _ _ _
  ·rw[if_neg hF,if_neg hF];rfl
 ·unfold bu.Rj bu.Rk
  rw[aF (by omega),cond_false,NU,Option.bind_some]
  show _=pv (some (out++[]))
  rw[List.append_nil];rfl
theorem Wx(N:Nat)(C:bu.iH){l:aj}{E S:cf}{K:List cC}(hs:sg K)(hl:K.length≤100000)(hf: ∀k∈K,uu k)(x:pz)(k:cC)(hxk:(x.1,x.2.1)=k)(hx:uu k)(hz:zeroAt l K k)(len:Int)(i:Nat)(hi:i≤1000000):
  ∀(m n p:Nat),K.length-p≤m→m<n→p≤K.length→(∀y∈K.take p,ou y k)→
   bu.K9 N C n E (rowsOf l K) x (p:Int) S len (i:Int)=C E (rowsOf l (K.take p++qP k (K.drop p))) S len ((i+1:Nat):Int)
 |m,0,p,_,hn,_,_=>by omega
 |m,n+1,p,hm,hn,hp,hb=>by
  unfold bu.K9 bu.HU bu.j21 bu.Yp
  rw[cM,aq (x:=(i:Int)+1) (by omega) (by omega),aa i]
  have ex:((x.1,(x.2.1,((0:Int),()))):cy)=(k.1,(k.2,((0:Int),()))):=by rw[←hxk]
  by_cases h:p<K.length
  ·have hfk:=hf (K.getD p (0,0)) (by rw[List.getD_eq_getElem?_getD,List.getElem?_eq_getElem h];exact List.getElem_mem h)
   have ho:HE N x.1 x.2.1 ((rowsOf l K).getD p aW)=some (vk k.1 k.2 (K.getD p (0,0)).1 (K.getD p (0,0)).2):=by
    rw[A6 l h]
    rw[←hxk]at hx ⊢
    exact yG N hx.1 hx.2 hfk.1 hfk.2
   rw[aH (by omega),cond_true,aJ (by omega) (by omega),cond_true,Int.toNat_natCast,ho,Option.bind_some,cO (x:=(p:Int)) (by omega),cond_false,cond_true,Option.bind_some,bO,cond_not,aB,Jz h]
   by_cases h1:ou (K.getD p (0,0)) k
   ·rw[if_pos (ur.2 h1),if_pos h1,aq (x:=(p:Int)+1) (by omega) (by omega),aa p,uv h]
    refine Wx N C hs hl hf x k hxk hx hz len i hi (m-1) n (p+1) (by omega) (by omega) (by omega) fun y hy=> ?_
    rw[←List.take_append_getElem h]at hy
    rcases List.mem_append.1 hy with hy|hy
    ·exact hb y hy
    ·rw[List.getD_eq_getElem?_getD,List.getElem?_eq_getElem h]at h1
     rw[List.mem_singleton.1 hy];exact h1
   ·rw[if_neg (fun h=>h1 (ur.1 h)),if_neg h1]
    by_cases h2:K.getD p (0,0)=k
    ·rw[if_pos (ry.2 h2),if_pos h2,List.take_append_drop]
    ·rw[if_neg (fun h=>h2 (ry.1 h)),if_neg h2,xD N (by rw[cM];omega) (by rw[cM];omega),Option.bind_some]
     have zN:=hz (py hs hb (JA hs h h1 h2))
     have e:=px l K p k
     rw[←rz zN]at e
     refine Eq.trans ?_ (congrArg (fun R=>C E R S len ((i+1:Nat):Int)) e)
     exact congrArg (fun z:cy=>C E ((rowsOf l K).take p++z::(rowsOf l K).drop p) S len ((i+1:Nat):Int)) ex
  ·have hd:K.drop p=[]:=List.drop_eq_nil_of_le (by omega)
   rw[aF (by omega),cond_false,ct (by omega),cond_true,xD N (by rw[cM];omega) (by rw[cM];omega),Option.bind_some]
   have zN:=hz (py hs hb (by rw[hd];exact fun x hx=>nomatch hx))
   have e:=px l K p k
   rw[←rz zN]at e
   have e2:qP k (K.drop p)=k::K.drop p:=by rw[hd];rfl
   rw[e2]
   refine Eq.trans ?_ (congrArg (fun R=>C E R S len ((i+1:Nat):Int)) e)
   exact congrArg (fun z:cy=>C E ((rowsOf l K).take p++z::(rowsOf l K).drop p) S len ((i+1:Nat):Int)) ex
theorem La(N:Nat)(hN:2000000≤N){l E:aj}(hq:Cq E)(hE:E.length≤400)(hp: ∀x∈E,uu (keyOf x))(hs:sg (l.map keyOf))(hl:l.length≤90000)(NR:dy l)(Dc: ∀x∈l,uu (keyOf x)):
  bu.rP N N (E.map fy) l (E.map fy) ((E.map fy).length:Int) 0=pv (dC aD (fS l E) (ji (l.map keyOf) E)):=by
 have:=lK E aW (fun n i K=>bu.rP N n (E.map fy) (rowsOf l K) (E.map fy) ((E.map fy).length:Int) i) (fun t K=>pv (dC aD (fS l E) (ji K t)))
  (fun i (K:List cC)=>K.length≤l.length+i∧sg K∧(∀k∈K,uu k)∧ ∀x∈l,keyOf x∈K)
  (fun n i K hi hI hr=> ?_) (fun n K hI=> ?_) E.length N 0 (l.map keyOf) (by omega) (by omega) (by omega) ⟨by rw[List.length_map];omega,hs,fun k hk=>by
   obtain⟨x,hx,rfl⟩:=List.mem_map.1 hk
   exact Dc x hx,fun x hx=>List.mem_map_of_mem hx⟩
 ·rw[show((0:Nat):Int)=0 from rfl,List.drop_zero]at this
  simp only[iG hs]at this
  exact this
 ·unfold bu.rP bu.qM
  obtain⟨h1,h2,h3,h4⟩:=hI
  have hm:E.getD i aW∈E:=by
   rw[List.getD_eq_getElem?_getD,List.getElem?_eq_getElem hi];exact List.getElem_mem hi
  rw[aH (by rw[List.length_map];omega),cond_true,aJ (by omega) (by rw[List.length_map];omega),cond_true,Int.toNat_natCast,Cr]
  refine(Wx N _ h2 (by omega) h3 (fy (E.getD i aW)) (keyOf (E.getD i aW)) rfl (hp _ hm) (fun hk=>dV fun hx=>hk (by
   obtain⟨x,hx,e⟩:=List.mem_map.1 hx
   rw[←e];exact h4 x hx)) ((E.map fy).length:Int) i (by omega) K.length N 0 (by omega) (by omega) (by omega) (fun y hy=>nomatch hy)).trans ?_
  rw[List.take_zero,List.nil_append,List.drop_zero,nU]
  refine hr (qP (keyOf (E.getD i aW)) K) ⟨Nat.le_trans (yQ _ K) (by omega),um h2,fun k hk=>(mN.1 hk).elim (fun e=>e▸hp _ hm) (h3 k),fun x hx=>mN.2 (Or.inr (h4 x hx))⟩
 ·unfold bu.rP bu.qM
  obtain⟨h1,h2,h3,h4⟩:=hI
  rw[aF (by rw[List.length_map];omega),cond_false,cM,bG (by omega) (by omega) (by omega),cond_true]
  have:=K8 N hN (l:=l) (R:=rowsOf l K) hq (by omega) (by rw[cM];omega) (fun r hr=>by
   unfold rowsOf at hr
   obtain⟨k,hk,rfl⟩:=List.mem_map.1 hr
   refine⟨?_,rfl⟩
   show aD (cc k.1 k.2 l)
   by_cases hkl:k∈l.map keyOf
   ·have e:rowsOf l (l.map keyOf)=l:=iG hs
    have hm:xb l k∈rowsOf l (l.map keyOf):=List.mem_map_of_mem hkl
    rw[e]at hm
    exact NR (xb l k) hm
   ·rw[dV hkl];exact⟨by decide,by decide⟩)
  rw[wu,cM]at this
  exact this
theorem sZ{l:aj}(h:eU l=true):sg (l.map keyOf)∧(∀x∈l,ea x.1 x.2.1):=by
 unfold eU at h
 rw[Bool.and_true]at h
 have h':=of_decide_eq_true h
 have get: ∀(i:Nat) (hi:i<l.length),l.getD i aW=l[i]:=fun i hi=>by rw[List.getD_eq_getElem?_getD,List.getElem?_eq_getElem hi];rfl
 have NS: ∀i,i+1<l.length→ou (keyOf (l.getD i aW)) (keyOf (l.getD (i+1) aW)):=fun i hi=>(h' (i+1) hi).2.2 (by omega)
 have dE: ∀j,j<l.length→ ∀i,i<j→ou (keyOf (l.getD i aW)) (keyOf (l.getD j aW)):=by
  intro j
  induction j with
  |zero=>intro _ i hi;omega
  |succ j ih=>
   intro hj i hi
   by_cases e:i=j
   ·rw[e];exact NS j hj
   ·exact rr (ih (by omega) i (by omega)) (NS j hj)
 refine⟨?_,fun x hx=> ?_⟩
 ·refine List.pairwise_map.2 (List.pairwise_iff_getElem.2 fun i j hi hj nH=> ?_)
  have:=dE j hj i nH
  rw[get i hi,get j hj]at this
  exact this
 ·obtain⟨i,hi,e⟩:=List.getElem_of_mem hx
  have:=h' i hi
  unfold gW ik at this
  rw[get i hi,e]at this
  exact this.1
structure JD(E:aj):Prop where
 key: ∀x∈E,ea x.1 x.2.1
 q:Cq E
 len:E.length≤400
 zero:(E.map eO).sum=0
theorem JE{x:cy}(h:ea x.1 x.2.1):uu (keyOf x):=by
 have h':ea (keyOf x).1 (keyOf x).2:=h
 unfold ea at h'
 unfold uu Ai
 omega
theorem NW(N:Nat)(hN:2000000≤N){l E:aj}(hk:eU l=true)(hl:l.length≤90000)(NR:dy l)(g:JD E):bu N l (E.map fy)=pv (dC aD (fS l E) (ji (l.map keyOf) E)):=by
 obtain⟨hs,Dc⟩:=sZ hk
 have hE:=g.len
 unfold bu bu.b
 rw[Cg N (by omega) (by omega),hk,Option.bind_some,Bool.not_true,cond_false,aF (by rw[List.length_map];omega),cond_false,bG (by omega) (by omega) (by rw[List.length_map];omega),cond_true]
 have:=lK E aW (fun n i (ws:List Int)=>bu.l5 N n l (E.map fy) (ws.map dh) (E.map fy) ((E.map fy).length:Int) i)
  (fun t ws=>if(ws++t.map eO).sum=0 then pv (dC aD (fS l E) (ji (l.map keyOf) E))else none)
  (fun j (ws:List Int)=>ws.length≤j∧(ws++(E.drop j).map eO).sum=0∧ ∀x∈ws,dZ x)
  (fun n i ws hi hI hr=> ?_) (fun n ws hI=> ?_) E.length N 0 [] (by omega) (by omega) (by omega) ⟨Nat.le_refl _,g.zero,fun x hx=>nomatch hx⟩
 ·rw[show((0:Nat):Int)=0 from rfl,List.drop_zero]at this
  refine Eq.trans this ?_
  rw[List.nil_append,if_pos g.zero]
 ·unfold bu.l5 bu.dn
  have hm:E.getD i aW∈E:=by
   rw[List.getD_eq_getElem?_getD,List.getElem?_eq_getElem hi];exact List.getElem_mem hi
  have QB:HC N (fy (E.getD i aW)).1 (fy (E.getD i aW)).2.1=some true:=by
   rw[HB]
   exact congrArg some (decide_eq_true (g.key _ hm))
  rw[aH (by rw[List.length_map];omega),cond_true,aJ (by omega) (by rw[List.length_map];omega),cond_true,Int.toNat_natCast,Cr,QB,Option.bind_some,Bool.not_true,cond_false,bh (by rw[List.length_map,List.length_singleton];omega),cond_true,aq (x:=(i:Int)+1) (by omega) (by omega),aa i]
  have h0:=hI.2.1
  rw[drop_cons hi aW,List.map_cons]at h0
  have:=hr (ws++[eO (E.getD i aW)]) ⟨by rw[List.length_append,List.length_singleton];omega,by rw[List.append_assoc];exact h0,sY hI.2.2 (Cs g.q i)⟩
  rw[List.map_append]at this
  refine this.trans ?_
  rw[List.append_assoc];rfl
 ·unfold bu.l5 bu.dn
  have h0:=hI.2.1
  rw[List.drop_length,List.map_nil,List.append_nil]at h0
  rw[aF (by rw[List.length_map];omega),cond_false,Cd N hI.2.2 (by omega) (by omega),Option.bind_some,h0]
  have e0:HA 0=(dh 0,true):=by unfold HA;exact if_pos ⟨by decide,by decide⟩
  rw[e0]
  dsimp only
  rw[Bool.not_true,cond_false,uh,Option.bind_some,show rn 0=0 from rfl,ct rfl,Bool.not_true,cond_false,od N (by omega),Option.bind_some]
  rw[List.map_nil,List.append_nil,if_pos h0]
  exact La N hN g.q hE (fun x hx=>JE (g.key x hx)) hs hl NR (fun x hx=>JE (Dc x hx))
end VM
end
section
namespace VM
open Go VM.F
def gI(r:cy):Yq:=(r.1,(r.2.1,(bZ (eO r),())))
theorem NX{E:aj}{i:Nat}(h:i<E.length):(E.map gI).getD i ((0:Int),((0:Int),((false,kX),())))=gI (E.getD i aW):=by
 rw[List.getD_eq_getElem?_getD,List.getElem?_map,List.getElem?_eq_getElem h,List.getD_eq_getElem?_getD,List.getElem?_eq_getElem h];rfl
theorem HV{v:Int}{n:Nat}(hn:n≤1000000)(h0: -(170141183460469231731687303715884105728*(n:Int))≤v)(h1:v≤170141183460469231731687303715884105728*(n:Int)):Fit v 900000:=by
 have h5:Fit v 5:=by
  unfold Fit
  rw[show(4294967296:Nat)^5=1461501637330902918203684832716283019655932542976 from rfl]
  omega
 exact h5.mono (by omega)
theorem Rl{v:Int}(h:dZ v):Fit v 900000:=HV (n:=1) (by omega) (by have:=h.1;omega) (by have:=h.2;omega)
theorem Lb(N:Nat)(hN:4000000≤N){E:aj}(hq:Cq E)(hl:E.length≤100000)(q a b:Int)(hF:aD q):jj N q a b (E.map gI)=some (w3 (q+cc a b E)):=by
 unfold jj jj.b
 have:=lK E aW (fun n j ws=>jj.l3 N n q a b (E.map gI) (bZ ws.sum) (!ws.isEmpty) j)
  (fun t ws=>some (w3 (q+(ws++bW a b t).sum)))
  (fun j (ws:List Int)=>ws.length≤j∧ ∀x∈ws,dZ x)
  (fun n j ws hj hI dr=> ?_) (fun n ws hI=> ?_) E.length N 0 [] (by omega) (by omega) (by omega) ⟨Nat.le_refl _,fun x hx=>nomatch hx⟩
 ·rw[show((0:Nat):Int)=0 from rfl,List.drop_zero,List.sum_nil,gr]at this
  exact this
 ·unfold jj.l3 jj.ig
  have Rm:=Cs hq j
  have hb:=Hz hI.2
  have Qk:tU N (bZ ws.sum) (gI (E.getD j aW)).2.2.1=some (bZ (ws.sum+eO (E.getD j aW))):=fH N (by omega) (HV (n:=ws.length) (by omega) hb.1 hb.2) (Rl Rm)
  rw[aH (by rw[List.length_map];omega),cond_true,aJ (by omega) (by rw[List.length_map];omega),cond_true,cond_true,cond_true,Int.toNat_natCast,NX hj,Qk,Option.bind_some,aq (x:=(j:Int)+1) (by omega) (by omega),aa j,aB,aB]
  by_cases h1:(E.getD j aW).1=a
  ·by_cases h2:(E.getD j aW).2.1=b
   ·have hc:bW a b (E.getD j aW::E.drop (j+1))=eO (E.getD j aW)::bW a b (E.drop (j+1)):=by rw[cZ,if_pos ⟨h1,h2⟩]
    rw[if_pos (show(gI (E.getD j aW)).1=a from h1),if_pos (show(gI (E.getD j aW)).2.1=b from h2),hc]
    have:=dr (ws++[eO (E.getD j aW)]) ⟨by rw[List.length_append,List.length_singleton];omega,sY hI.2 Rm⟩
    rw[List.sum_append,List.sum_cons,List.sum_nil,Int.add_zero,List.append_assoc]at this
    refine Eq.trans ?_ this
    rw[show(!(ws++[eO (E.getD j aW)]).isEmpty)=true by cases ws<;>rfl]
   ·have hc:bW a b (E.getD j aW::E.drop (j+1))=bW a b (E.drop (j+1)):=by rw[cZ,if_neg (fun h=>h2 h.2)]
    rw[if_pos (show(gI (E.getD j aW)).1=a from h1),if_neg (show ¬(gI (E.getD j aW)).2.1=b from h2),hc]
    exact dr ws ⟨by omega,hI.2⟩
  ·have hc:bW a b (E.getD j aW::E.drop (j+1))=bW a b (E.drop (j+1)):=by rw[cZ,if_neg (fun h=>h1 h.1)]
   rw[if_neg (show ¬(gI (E.getD j aW)).1=a from h1),hc]
   exact dr ws ⟨by omega,hI.2⟩
 ·unfold jj.l3 jj.ig
  have hs:=Hz hI.2
  have Ju:=hF
  unfold aD at Ju
  rw[aF (by rw[List.length_map];omega),cond_false,eS N (by omega) Ju.1 Ju.2,Option.bind_some,fH N (by omega) (HV (n:=ws.length) (by omega) hs.1 hs.2) ((Fit.i64 Ju.1 Ju.2).mono (by omega)),Option.bind_some,oc,Option.bind_some,cond_not]
  show _=some (w3 (q+(ws++[]).sum))
  rw[List.append_nil,Int.add_comm ws.sum q]
  cases ws with
  |nil=>
   show some (q,true)=some (w3 (q+0))
   rw[Int.add_zero,ru hF]
  |cons w ws=>rfl
theorem Rn{l:aj}(hs:sg (l.map keyOf))(hl:dy l)(k:cC):aD (cc k.1 k.2 l):=by
 by_cases hk:k∈l.map keyOf
 ·have hm:xb l k∈rowsOf l (l.map keyOf):=List.mem_map_of_mem hk
  rw[iG hs]at hm
  exact hl (xb l k) hm
 ·rw[dV hk];exact⟨by decide,by decide⟩
theorem EC(N:Nat)(hN:4000000≤N)(C:ck.aU){l E:aj}(hq:Cq E)(hl:E.length≤100000)(hs:sg (l.map keyOf))(tH:l.length≤100000)(hf:dy l)(hw: ∀x∈l,0≤(keyOf x).2∧(keyOf x).2<(25:Nat))(a:Nat)(ha:a≤24)(G:List cC)
  (hc: ∀(p:Nat) (out:aj),Mark l (a+1) 0 p→out.length≤25*(a+1)→C l (E.map gI) out (p:Int) ((a+1:Nat):Int)=qQ out (dC aD (fS l E) G)):
  ∀(m n b p:Nat) (out:aj),b+m=25→m<n→Mark l a b p→out.length≤25*a+b→ck.l7 N C n l (E.map gI) out (p:Int) (a:Int) (b:Int)=qQ out (dC aD (fS l E) (uw a b m++G))
 |m,0,b,p,out,_,hn,_,_=>by omega
 |0,n+1,b,p,out,hb,_,hM,ho=>by
  have e:b=25:=by omega
  subst e
  unfold ck.l7 ck.lD
  rw[dg (by omega),cond_false,aq (x:=(a:Int)+1) (by omega) (by omega),aa a]
  exact hc p out (hM.row hw) (by omega)
 |m+1,n+1,b,p,out,hb,hn,hM,ho=>by
  have hp:=hM.le
  have Yn: ∀(p:Nat) (v:Int),Mark l a (b+1) p→ck.l7 N C n l (E.map gI) (if v=0 then out else out++[((a:Int),((b:Int),(v,())))]) (p:Int) (a:Int) ((b+1:Nat):Int)=qQ (if v=0 then out else out++[((a:Int),((b:Int),(v,())))]) (dC aD (fS l E) (uw a (b+1) m++G)):=fun p v h=>
   EC N hN C hq hl hs tH hf hw a ha G hc m n (b+1) p _ (by omega) (by omega) h (by
    split
    ·omega
    ·rw[List.length_append,List.length_singleton];omega)
  have PO:=Rn hs hf ((a:Int),(b:Int))
  unfold ck.l7 ck.lD
  show _=qQ out (dC aD (fS l E) (((a:Int),(b:Int))::(uw a (b+1) m++G)))
  rw[df (x:=(b:Int)) (by omega),cond_true,bO,aB,aB,Int.toNat_natCast]
  have fin: ∀(p:Nat) (q:Int),q=cc (a:Int) (b:Int) l→Mark l a (b+1) p→ck.JC N C (ck.l7 N C n) l (E.map gI) out (p:Int) (a:Int) (b:Int) q=qQ out (dC aD (fS l E) (((a:Int),(b:Int))::(uw a (b+1) m++G))):=fun p q e h=>by
   subst e
   unfold ck.JC ck.Cp
   rw[Lb N hN hq hl _ _ _ PO,Option.bind_some]
   refine Eq.trans ?_ (A9 (k:=((a:Int),(b:Int))) (v:=cc (a:Int) (b:Int) l+cc (a:Int) (b:Int) E) rfl)
   generalize cc (a:Int) (b:Int) l+cc (a:Int) (b:Int) E=v
   have hr:=Yn p v h
   by_cases hv:aD v
   ·rw[ru hv,if_pos hv]
    dsimp only
    rw[Bool.not_true,cond_false,cond_not,aB,bh (by rw[List.length_singleton];omega),cond_true,aq (x:=(b:Int)+1) (by omega) (by omega),aa b,←hr]
    split<;>rfl
   ·rw[uq hv,if_neg hv];rfl
  rcases hM.step hs with⟨h1,h2,h3,h4,h5⟩|⟨h1,h2,h3⟩
  ·rw[if_pos (show(p:Int)<(l.length:Int)by omega),aJ (by omega) (by omega),cond_true,cond_true,if_pos h2,if_pos h3,aq (x:=(p:Int)+1) (by omega) (by omega),aa p,cond_true]
   exact fin (p+1) _ h4.symm h5
  ·by_cases g1:p<l.length
   ·rw[if_pos (show(p:Int)<(l.length:Int)by omega),aJ (by omega) (by omega),cond_true,cond_true]
    by_cases g2:(l.getD p aW).1=(a:Int)
    ·rw[if_pos g2,if_neg (fun g3=>h1 g1 g2 g3)]
     exact fin p _ h2.symm h3
    ·rw[if_neg g2]
     exact fin p _ h2.symm h3
   ·rw[if_neg (show ¬(p:Int)<(l.length:Int)by omega)]
    exact fin p _ h2.symm h3
theorem ED(N:Nat)(hN:4000000≤N){l E:aj}(hq:Cq E)(hl:E.length≤100000)(hs:sg (l.map keyOf))(tH:l.length≤100000)(hf:dy l)(hw: ∀x∈l,0≤(keyOf x).2∧(keyOf x).2<(25:Nat)):
  ∀(m n a p:Nat) (out:aj),a+m=8→m<n→Mark l a 0 p→out.length≤25*a→ck.l4 N n l (E.map gI) out (p:Int) (a:Int)=qQ out (dC aD (fS l E) (si 25 a m))
 |m,0,a,p,out,_,hn,_,_=>by omega
 |0,n+1,a,p,out,ha,_,hM,ho=>by
  unfold ck.l4 ck.ca
  rw[dg (by omega),cond_false]
  show some (out,true)=some (out++[],true)
  rw[List.append_nil]
 |m+1,n+1,a,p,out,ha,hn,hM,ho=>by
  unfold ck.l4 ck.ca
  rw[df (by omega),cond_true]
  exact EC N hN _ hq hl hs tH hf hw a (by omega) (si 25 (a+1) m) (fun p out h ho=>ED N hN hq hl hs tH hf hw m n (a+1) p out (by omega) (by omega) h ho) 25 N 0 p out (by omega) (by omega) hM (by omega)
def yS:List cC:=si 25 1 7
theorem Ro(N:Nat)(hN:4000000≤N){l E:aj}(hk:eU l=true)(hl:l.length≤90000)(NR:dy l)(hq:Cq E)(hE:E.length≤100000):ck N l (E.map gI)=qQ [] (dC aD (fS l E) yS):=by
 obtain⟨hs,Dc⟩:=sZ hk
 unfold ck ck.b
 refine ED N hN hq hE hs (by omega) NR (fun x hx=> ?_) 7 N 1 0 [] (by omega) (by omega) ⟨by omega,fun x hx=>(nomatch hx),fun x hx dE=> ?_⟩ (by simp)
 ·have h:ea (keyOf x).1 (keyOf x).2:=Dc x hx
  unfold ea at h;omega
 ·have h:ea (keyOf x).1 (keyOf x).2:=Dc x (List.mem_of_mem_drop hx)
  unfold ea at h
  have qw:(keyOf x).1<((1:Nat):Int)∨((keyOf x).1=((1:Nat):Int)∧(keyOf x).2<((0:Nat):Int)):=dE
  omega
theorem NY{l E:aj}(hk:eU l=true)(hp: ∀x∈E,ea x.1 x.2.1):dC aD (fS l E) (ji (l.map keyOf) E)=dC aD (fS l E) yS:=by
 obtain⟨hs,Dc⟩:=sZ hk
 refine Ey ⟨by decide,by decide⟩ (sV hs) (vt 25 7 1) (fun k hk=> ?_) (fun k hk hn=> ?_)
 ·have:ea k.1 k.2:=by
   rcases iu.1 hk with h|⟨x,hx,rfl⟩
   ·obtain⟨x,hx,rfl⟩:=List.mem_map.1 h
    exact Dc x hx
   ·exact hp x hx
  unfold ea at this
  exact rA.2 (by omega)
 ·have h1:k∉l.map keyOf:=fun h=>hn (iu.2 (Or.inl h))
  have h2:k∉E.map keyOf:=fun h=>by
   obtain⟨x,hx,e⟩:=List.mem_map.1 h
   exact hn (iu.2 (Or.inr ⟨x,hx,e⟩))
  unfold fS
  rw[dV h1,dV h2];rfl
def eP(b:ah)(s e:aj):ah×Int:=
 match dC Fq (fS b.2.2.2.1 s) sW with
 |none=>((a6,(cn,(bc,(bc,(cQ,(cY,())))))),2)
 |some s'=>match dC aD (fS b.2.2.1 e) yS with
  |none=>((a6,(cn,(bc,(bc,(cQ,(cY,())))))),2)
  |some r'=>((b.1,(b.2.1,(r',(s',b.2.2.2.2)))),0)
theorem NZ(N:Nat){b:ah}(w:qN b):Rp N b=some b:=by
 unfold Rp
 have h1:=w.m;have h2:=w.a;have h3:=w.r;have h4:=w.s;have h5:=w.p;have h6:=w.o
 rw[od N (by omega),Option.bind_some,od N (by omega),Option.bind_some,od N (by omega),Option.bind_some,od N (by omega),Option.bind_some,od N (by omega),Option.bind_some,od N (by omega),Option.bind_some]
end VM
end
