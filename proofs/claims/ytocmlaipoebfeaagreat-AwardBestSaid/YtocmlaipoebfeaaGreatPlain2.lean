/- A part of the proof of AwardBest of layer 25: what the functions compute, in plain words. -/
import Derived.Test.YtocmlaipoebfeaaGreatPlain1
set_option linter.all false
section
namespace VM
open Go VM.F
def oZ(l:ay)(i:Nat):Prop:=qw (l.getD i aA)∧lO i (l.getD (i-1) aA).1 (l.getD i aA).1∧(l.take i).any (eY (l.getD i aA).2.2.1 (l.getD i aA).2.1)=false
instance(l:ay):DecidablePred (oZ l):=fun i=>by unfold oZ;infer_instance
def jJ(l:ay):Bool:=decide (∀j,j<l.length→oZ l j)&&decide (l.length≤40)
theorem IX(N:Nat){l:ay}(hl:l.length≤100000)(hN:200000≤N):vK N l=some (jJ l):=by
 unfold vK vK.b
 refine eb (F:=fun n i=>vK.l2 N n l l (l.length:Int) i) (oZ l) (fun n i r hi hp hr=> ?_) (fun n=> ?_) N (by omega)
 ·unfold vK.l2 vK.dx
  rw[aK (by omega),cond_true,aN (by omega) (by omega),cond_true]
  simp only[Int.toNat_natCast,Int.toNat_zero,List.drop_zero]
  rw[aq (x:=(i:Int)+1) (by omega) (by omega),ae,hr,M5,Option.bind_some,cj (by omega) (by omega) (by omega) (by omega),cond_true,M6 N (by rw[List.length_take];omega) hN,Option.bind_some,cond_not,dj]
  have hT:cond ((l.take i).any (eY (l.getD i aA).2.2.1 (l.getD i aA).2.1)) (some false) r=if(l.take i).any (eY (l.getD i aA).2.2.1 (l.getD i aA).2.1)=false then r else some false:=by
   cases(l.take i).any (eY (l.getD i aA).2.2.1 (l.getD i aA).2.1)<;>rfl
  rw[hT]
  by_cases hK:qw (l.getD i aA)
  ·rw[if_pos hK]
   have hD:(if oZ l i then r else some false)=if lO i (l.getD (i-1) aA).1 (l.getD i aA).1 then(if(l.take i).any (eY (l.getD i aA).2.2.1 (l.getD i aA).2.1)=false then r else some false)else some false:=by
    by_cases h1:lO i (l.getD (i-1) aA).1 (l.getD i aA).1<;>by_cases h2:(l.take i).any (eY (l.getD i aA).2.2.1 (l.getD i aA).2.1)=false
    ·rw[if_pos h1,if_pos h2,if_pos ⟨hK,h1,h2⟩]
    ·rw[if_pos h1,if_neg h2,if_neg (fun h=>h2 h.2.2)]
    ·rw[if_neg h1,if_neg (fun h=>h1 h.2.1)]
    ·rw[if_neg h1,if_neg (fun h=>h1 h.2.1)]
   rw[hD]
   by_cases h0:0<i
   ·have e:W .i64 ((i:Int)-1)=((i-1:Nat):Int):=by rw[aq (by omega) (by omega)];omega
    rw[aK (x:=0) (y:=(i:Int)) (by omega),cond_true,e,Int.toNat_natCast,aN (by omega) (by omega),cond_true,bH]
    by_cases h1:lO i (l.getD (i-1) aA).1 (l.getD i aA).1
    ·rw[if_pos h1,if_neg (by unfold lO at h1;omega)]
    ·rw[if_neg h1,if_pos (by unfold lO at h1;omega)]
   ·rw[aF (x:=0) (y:=(i:Int)) (by omega),cond_false,if_pos (show lO i (l.getD (i-1) aA).1 (l.getD i aA).1 from fun h=>absurd h h0)]
  ·rw[if_neg hK,if_neg (fun h=>hK h.1)]
 ·unfold vK.l2 vK.dx
  rw[aF (by omega),cond_false,iL]
  congr 1;rw[decide_eq_decide];omega
end VM
end
section
namespace VM
open Go VM.F
def dm(a b:Int):aj→List Int
 |[]=>[]
 |x::t=>if x.1=a∧x.2.1=b then fW x::dm a b t else dm a b t
theorem fZ(a b:Int)(x:cy)(t:aj):dm a b (x::t)=if x.1=a∧x.2.1=b then fW x::dm a b t else dm a b t:=rfl
def dC(a b:Int)(l:aj):Int:=(dm a b l).sum
theorem yl(a b:Int)(x:cy)(t:aj):dC a b (x::t)=(if x.1=a∧x.2.1=b then fW x else 0)+dC a b t:=by
 unfold dC
 rw[fZ]
 split
 ·rw[List.sum_cons]
 ·omega
theorem sy{a b:Int}: ∀{l:aj},(∀x∈l,¬(x.1=a∧x.2.1=b))→dC a b l=0
 |[],_=>rfl
 |x::t,h=>by
  rw[yl,if_neg (h x (List.mem_cons_self ..)),sy (fun y hy=>h y (List.mem_cons_of_mem _ hy))];rfl
abbrev cO:=Int×Int
def pT(x y:cO):Prop:=ix x.1 x.2 y.1 y.2
instance(x y:cO):Decidable (pT x y):=by unfold pT;infer_instance
def keyOf(x:cy):cO:=(x.1,x.2.1)
def w6(K:List cO):Prop:=K.Pairwise pT
theorem tK{x:cO}(h:pT x x):False:=by unfold pT ix at h;omega
theorem Kq{x y:cO}(h:pT x y)(k:pT y x):False:=by unfold pT ix at*;omega
theorem q4{x y z:cO}(h:pT x y)(k:pT y z):pT x z:=by unfold pT ix at*;omega
theorem IY(x y:cO):pT x y∨x=y∨pT y x:=by
 have:(x.1=y.1∧x.2=y.2)→x=y:=fun h=>Prod.ext h.1 h.2
 unfold pT ix
 by_cases h1:x.1=y.1
 ·by_cases h2:x.2=y.2
  ·exact Or.inr (Or.inl (this ⟨h1,h2⟩))
  ·omega
 ·omega
theorem IZ: ∀{a b:List cO},w6 a→w6 b→(∀x,x∈a↔x∈b)→a=b
 |[],[],_,_,_=>rfl
 |[],y::t,_,_,h=>nomatch (h y).2 (List.mem_cons_self ..)
 |x::s,[],_,_,h=>nomatch (h x).1 (List.mem_cons_self ..)
 |x::s,y::t,ha,hb,h=>by
  obtain⟨ha1,ha2⟩:=List.pairwise_cons.1 ha
  obtain⟨jo,rX⟩:=List.pairwise_cons.1 hb
  have hxy:x=y:=by
   rcases List.mem_cons.1 ((h x).1 (List.mem_cons_self ..))with e|e
   ·exact e
   ·rcases List.mem_cons.1 ((h y).2 (List.mem_cons_self ..))with f|f
    ·exact f.symm
    ·exact(Kq (ha1 y f) (jo x e)).elim
  subst hxy
  rw[IZ ha2 rX fun z=>⟨fun hz=> ?_,fun hz=> ?_⟩]
  ·rcases List.mem_cons.1 ((h z).1 (List.mem_cons_of_mem _ hz))with e|e
   ·subst e;exact(tK (ha1 z hz)).elim
   ·exact e
  ·rcases List.mem_cons.1 ((h z).2 (List.mem_cons_of_mem _ hz))with e|e
   ·subst e;exact(tK (jo z hz)).elim
   ·exact e
def jc(P:Int→Prop) [DecidablePred P](f:Int→Int→Int):List cO→Option aj
 |[]=>some []
 |k::t=>if P (f k.1 k.2)then(jc P f t).map (fun o=>if f k.1 k.2=0 then o else(k.1,(k.2,(f k.1 k.2,())))::o)else none
theorem ot(P:Int→Prop) [DecidablePred P](f:Int→Int→Int)(k:cO)(t:List cO):jc P f (k::t)=if P (f k.1 k.2)then(jc P f t).map (fun o=>if f k.1 k.2=0 then o else(k.1,(k.2,(f k.1 k.2,())))::o)else none:=rfl
theorem vL{P:Int→Prop} [DecidablePred P](h0:P 0){f:Int→Int→Int}(p:cO→Bool): ∀{K:List cO},(∀k∈K,p k=false→f k.1 k.2=0)→jc P f (K.filter p)=jc P f K
 |[],_=>rfl
 |k::t,h=>by
  have ih:=vL h0 p (K:=t) (fun x hx=>h x (List.mem_cons_of_mem _ hx))
  cases hp:p k
  ·rw[List.filter_cons_of_neg (by rw[hp];decide),ih,ot,h k (List.mem_cons_self ..) hp,if_pos h0]
   simp
  ·rw[List.filter_cons_of_pos hp,ot,ot,ih]
theorem D4{P:Int→Prop} [DecidablePred P](h0:P 0){f:Int→Int→Int}{K G:List cO}(hK:w6 K)(hG:w6 G)(hs: ∀k∈K,k∈G)(hz: ∀k∈G,k∉K→f k.1 k.2=0):jc P f K=jc P f G:=by
 have e:K=G.filter (fun k=>decide (k∈K)):=by
  refine IZ hK (List.Pairwise.sublist List.filter_sublist hG) fun x=> ?_
  rw[List.mem_filter]
  exact⟨fun h=>⟨hs x h,decide_eq_true h⟩,fun h=>of_decide_eq_true h.2⟩
 rw[e]
 exact vL h0 _ fun k hk hp=>hz k hk (of_decide_eq_false hp)
def qx(k:cO):List cO→List cO
 |[]=>[k]
 |x::t=>if pT x k then x::qx k t else if x=k then x::t else k::x::t
theorem mm{k x:cO}: ∀{K:List cO},x∈qx k K↔x=k∨x∈K
 |[]=>by show x∈[k]↔_;simp
 |y::t=>by
  show x∈(if pT y k then y::qx k t else if y=k then y::t else k::y::t)↔_
  split
  ·rw[List.mem_cons,mm,List.mem_cons]
   exact⟨fun h=>h.elim (fun e=>Or.inr (Or.inl e)) (fun h=>h.elim Or.inl (fun h=>Or.inr (Or.inr h))),fun h=>h.elim (fun e=>Or.inr (Or.inl e)) (fun h=>h.elim Or.inl (fun h=>Or.inr (Or.inr h)))⟩
  ·split
   ·rename_i e
    rw[←e]
    exact⟨Or.inr,fun h=>h.elim (fun e=>e▸List.mem_cons_self ..) id⟩
   ·rw[List.mem_cons]
theorem tL{k:cO}: ∀{K:List cO},w6 K→w6 (qx k K)
 |[],_=>List.pairwise_cons.2 ⟨fun _ h=>(nomatch h),List.Pairwise.nil⟩
 |y::t,h=>by
  obtain⟨h1,h2⟩:=List.pairwise_cons.1 h
  show w6 (if pT y k then y::qx k t else if y=k then y::t else k::y::t)
  split
  ·rename_i hy
   exact List.pairwise_cons.2 ⟨fun z hz=>(mm.1 hz).elim (fun e=>e▸hy) (h1 z),tL h2⟩
  ·rename_i hy
   split
   ·exact h
   ·rename_i he
    have hk:pT k y:=(IY y k).elim (fun h=>absurd h hy) (fun h=>h.elim (fun h=>absurd h he) id)
    exact List.pairwise_cons.2 ⟨fun z hz=>(List.mem_cons.1 hz).elim (fun e=>e▸hk) (fun hz=>q4 hk (h1 z hz)),h⟩
def jd(K:List cO)(E:aj):List cO:=E.foldl (fun K x=>qx (keyOf x) K) K
theorem ny(K:List cO)(x:cy)(E:aj):jd K (x::E)=jd (qx (keyOf x) K) E:=rfl
theorem sA: ∀{E:aj} {K:List cO},w6 K→w6 (jd K E)
 |[],_,h=>h
 |x::E,K,h=>by rw[ny];exact sA (tL h)
theorem ij{k:cO}: ∀{E:aj} {K:List cO},k∈jd K E↔(k∈K∨ ∃x∈E,keyOf x=k)
 |[],K=>by
  show k∈K↔_
  simp
 |x::E,K=>by
  rw[ny,ij,mm]
  constructor
  ·rintro((rfl|h)|⟨y,hy,e⟩)
   ·exact Or.inr ⟨x,List.mem_cons_self ..,rfl⟩
   ·exact Or.inl h
   ·exact Or.inr ⟨y,List.mem_cons_of_mem _ hy,e⟩
  ·rintro(h|⟨y,hy,e⟩)
   ·exact Or.inl (Or.inr h)
   ·rcases List.mem_cons.1 hy with rfl|hy
    ·exact Or.inl (Or.inl e.symm)
    ·exact Or.inr ⟨y,hy,e⟩
theorem ym(k:cO): ∀K:List cO,(qx k K).length≤K.length+1
 |[]=>Nat.le_refl _
 |y::t=>by
  show(if pT y k then y::qx k t else if y=k then y::t else k::y::t).length≤_
  have:=ym k t
  split
  ·rw[List.length_cons,List.length_cons];omega
  ·split<;>rw[List.length_cons]<;>(try rw[List.length_cons])<;>omega
def rowsOf(l:aj)(K:List cO):aj:=K.map fun k=>(k.1,(k.2,(dC k.1 k.2 l,())))
theorem nz{l:aj}(h:w6 (l.map keyOf)):rowsOf l (l.map keyOf)=l:=by
 have key: ∀(m:aj),w6 (m.map keyOf)→(∀x∈m,dC x.1 x.2.1 l=fW x)→rowsOf l (m.map keyOf)=m:=by
  intro m
  induction m with
  |nil=>intro _ _;rfl
  |cons x t ih=>
   intro hm hx
   have:=ih (List.pairwise_cons.1 hm).2 (fun y hy=>hx y (List.mem_cons_of_mem _ hy))
   unfold rowsOf at*
   rw[List.map_cons,List.map_cons,this]
   congr 1
   show(x.1,(x.2.1,(dC x.1 x.2.1 l,())))=x
   rw[hx x (List.mem_cons_self ..)];rfl
 refine key l h ?_
 clear key
 induction l with
 |nil=>intro x hx;nomatch hx
 |cons y t ih=>
  intro x hx
  obtain⟨h1,h2⟩:=List.pairwise_cons.1 h
  have gG: ∀z∈t,¬(z.1=y.1∧z.2.1=y.2.1):=fun z hz e=>by
   have hk:=h1 (keyOf z) (List.mem_map_of_mem hz)
   have he:keyOf z=keyOf y:=Prod.ext e.1 e.2
   rw[he]at hk
   exact tK hk
  rw[yl]
  rcases List.mem_cons.1 hx with rfl|hx
  ·rw[if_pos ⟨rfl,rfl⟩,sy gG];omega
  ·rw[if_neg (fun e=>gG x hx ⟨e.1.symm,e.2.symm⟩),ih h2 x hx];omega
end VM
end
section
namespace VM
open Go VM.F
instance(x:Int):Decidable (aD x):=by unfold aD;infer_instance
def Fq(x:Int):Prop:=aD x∧ya x
instance:DecidablePred Fq:=fun x=>by unfold Fq;infer_instance
def o0(r:Option aj):Option (aj×Int):=some (match r with|some o=>(o,0)|none=>([],2))
def fS(l E:aj)(a b:Int):Int:=dC a b l+dC a b E
theorem w7{α:Type}(N:Nat){l:List α}{i:Nat}{x:α}(hi:i≤l.length)(hl:l.length<1000000):lf N l (i:Int) [x]=some (l.take i++x::l.drop i):=by
 unfold lf
 rw[if_pos ⟨by omega,by omega,rfl,by unfold sS;omega⟩]
 rfl
theorem nR{α:Type}(N:Nat){l:List α}(hl:l.length≤1000000):g9 N l=some l:=by
 unfold g9
 rw[if_pos (by unfold sS;omega)]
theorem yn(N:Nat){v:Int}(h:eo v):GZ N (c7 v)=some (zN v):=Qf N h.1 h.2
theorem BW{v:Int}(h:aD v):zN v=(v,true):=by unfold zN;exact if_pos h
theorem BX{v:Int}(h: ¬aD v):zN v=(0,false):=by unfold zN;exact if_neg h
theorem Az{ws:List Int}{x:Int}(h: ∀y∈ws,aD y)(hx:aD x): ∀y∈ws++[x],aD y:=fun y hy=>by
 rcases List.mem_append.1 hy with hy|hy
 ·exact h y hy
 ·rw[List.mem_singleton.1 hy];exact hx
theorem D5(N:Nat){l:aj}:Qw N l=some l:=by
 unfold Qw
 rw[cj (by omega) (by omega) (by omega) (by omega),cond_true]
 simp
theorem M8(N:Nat)(hN:2000000≤N)(K:bs.AA){E out R:aj}(hq:eW E)(hl:E.length≤100000)(ho:out.length≤1000000)(r:cy)(hr:aD (fW r))(i:Nat)(hi:i≤1000000):
  bs.VH N K N E out r [c7 (fW r)] R (R.length:Int) (i:Int) E (E.length:Int) 0=
   if Fq (fW r+dC r.1 r.2.1 E)then K E (if fW r+dC r.1 r.2.1 E=0 then out else out++[(r.1,(r.2.1,(fW r+dC r.1 r.2.1 E,())))]) R (R.length:Int) ((i+1:Nat):Int)else some (bh,(2:Int)):=by
 have:=oS E a7 (fun n j ws=>bs.VH N K n E out r (ws.map c7) R (R.length:Int) (i:Int) E (E.length:Int) j)
  (fun t ws=>if Fq (ws++dm r.1 r.2.1 t).sum then K E (if(ws++dm r.1 r.2.1 t).sum=0 then out else out++[(r.1,(r.2.1,((ws++dm r.1 r.2.1 t).sum,())))]) R (R.length:Int) ((i+1:Nat):Int)else some (bh,(2:Int)))
  (fun j (ws:List Int)=>ws.length≤j+1∧ ∀x∈ws,aD x)
  (fun n j ws hj hI dA=> ?_) (fun n ws hI=> ?_) E.length N 0 [fW r] (by omega) (by omega) (by omega) ⟨Nat.le_refl _,fun x hx=>by rw[List.mem_singleton.1 hx];exact hr⟩
 ·rw[show((0:Nat):Int)=0 from rfl,List.drop_zero]at this
  refine this.trans ?_
  have e:([fW r]++dm r.1 r.2.1 E).sum=fW r+dC r.1 r.2.1 E:=by rw[List.singleton_append,List.sum_cons];rfl
  rw[e]
 ·unfold bs.VH bs.Qx
  have uu:=uV hq j
  have fX:=uu
  unfold aD fW at fX
  rw[aK (by omega),cond_true,aN (by omega) (by omega),cond_true,Int.toNat_natCast,qo N fX.1 fX.2,Option.bind_some,bB (by rw[List.length_map,List.length_singleton];omega),cond_true,aq (x:=(j:Int)+1) (by omega) (by omega),ae,aG,aG]
  by_cases h1:(E.getD j a7).1=r.1
  ·by_cases h2:(E.getD j a7).2.1=r.2.1
   ·have hc:dm r.1 r.2.1 (E.getD j a7::E.drop (j+1))=fW (E.getD j a7)::dm r.1 r.2.1 (E.drop (j+1)):=by rw[fZ,if_pos ⟨h1,h2⟩]
    rw[if_pos h1,if_pos h2,hc]
    have:=dA (ws++[fW (E.getD j a7)]) ⟨by rw[List.length_append,List.length_singleton];omega,Az hI.2 uu⟩
    rw[List.map_append]at this
    refine this.trans ?_
    rw[List.append_assoc];rfl
   ·have hc:dm r.1 r.2.1 (E.getD j a7::E.drop (j+1))=dm r.1 r.2.1 (E.drop (j+1)):=by rw[fZ,if_neg (fun h=>h2 h.2)]
    rw[if_pos h1,if_neg h2,hc]
    exact dA ws ⟨by omega,hI.2⟩
  ·have hc:dm r.1 r.2.1 (E.getD j a7::E.drop (j+1))=dm r.1 r.2.1 (E.drop (j+1)):=by rw[fZ,if_neg (fun h=>h1 h.1)]
   rw[if_neg h1,hc]
   exact dA ws ⟨by omega,hI.2⟩
 ·unfold bs.VH bs.Qx
  have hs:=Ay hI.2 (by omega)
  rw[aF (by omega),cond_false,BS N hI.2 (by omega) (by omega),Option.bind_some]
  show _=if Fq (ws++[]).sum then K E (if(ws++[]).sum=0 then out else out++[(r.1,(r.2.1,((ws++[]).sum,())))]) R (R.length:Int) ((i+1:Nat):Int)else some (bh,(2:Int))
  rw[List.append_nil,yn N hs,Option.bind_some]
  by_cases h1:aD ws.sum
  ·rw[BW h1]
   dsimp only
   rw[Bool.not_true,cond_false,nv,Option.bind_some,cond_not,dj,cond_not,aG,bB (by rw[List.length_singleton];omega),cond_true,aq (x:=(i:Int)+1) (by omega) (by omega),ae]
   by_cases h2:ya ws.sum
   ·rw[if_pos h2,if_pos (show Fq ws.sum from⟨h1,h2⟩)]
    split<;>rfl
   ·rw[if_neg h2,if_neg (fun h=>h2 h.2)]
  ·rw[BX h1,if_neg (fun h=>h1 h.1)]
   rfl
theorem Kr(N:Nat)(hN:2000000≤N){l E R:aj}(hq:eW E)(hl:E.length≤100000)(hR:R.length≤200000)(hv: ∀r∈R,aD (fW r)∧fW r=dC r.1 r.2.1 l):
  bs.Qy N N E [] R (R.length:Int) 0=o0 (jc Fq (fS l E) (R.map keyOf)):=by
 have:=oS R a7 (fun n i out=>bs.Qy N n E out R (R.length:Int) i) (fun t out=>o0 ((jc Fq (fS l E) (t.map keyOf)).map (fun o=>out++o))) (fun i (out:aj)=>out.length≤i)
  (fun n i out hi hI hr=> ?_) (fun n out hI=> ?_) R.length N 0 [] (by omega) (by omega) (by omega) (Nat.le_refl _)
 ·rw[show((0:Nat):Int)=0 from rfl,List.drop_zero]at this
  refine this.trans ?_
  simp
 ·unfold bs.Qy bs.Qz
  have hm:R.getD i a7∈R:=by
   rw[List.getD_eq_getElem?_getD,List.getElem?_eq_getElem hi];exact List.getElem_mem hi
  have LM:=hv _ hm
  have uu:=LM.1
  have fX:=uu
  unfold aD fW at fX
  rw[aK (by omega),cond_true,aN (by omega) (by omega),cond_true,Int.toNat_natCast,qo N fX.1 fX.2,Option.bind_some]
  refine(M8 N hN _ hq hl (by omega) _ uu i (by omega)).trans ?_
  rw[List.map_cons,ot]
  have ef:fS l E (keyOf (R.getD i a7)).1 (keyOf (R.getD i a7)).2=fW (R.getD i a7)+dC (R.getD i a7).1 (R.getD i a7).2.1 E:=by
   show dC _ _ l+dC _ _ E=_
   rw[LM.2];rfl
  rw[ef]
  generalize hS:fW (R.getD i a7)+dC (R.getD i a7).1 (R.getD i a7).2.1 E=v
  by_cases hF:Fq v
  ·rw[if_pos hF,if_pos hF,hr _ (by
    split
    ·omega
    ·rw[List.length_append,List.length_singleton];omega)]
   cases jc Fq (fS l E) ((R.drop (i+1)).map keyOf)with
   |none=>rfl
   |some o=>
    show o0 (some _)=o0 (some _)
    congr 2
    split
    ·rfl
    ·exact List.append_assoc _ _ _
  ·rw[if_neg hF,if_neg hF];rfl
 ·unfold bs.Qy bs.Qz
  rw[aF (by omega),cond_false,D5,Option.bind_some]
  show _=o0 (some (out++[]))
  rw[List.append_nil];rfl
def D6(l:aj)(k:cO):cy:=(k.1,(k.2,(dC k.1 k.2 l,())))
theorem cE(l:aj)(K:List cO):(rowsOf l K).length=K.length:=List.length_map ..
theorem AB(l:aj){K:List cO}{p:Nat}(h:p<K.length):(rowsOf l K).getD p a7=D6 l (K.getD p (0,0)):=by
 unfold rowsOf
 rw[List.getD_eq_getElem?_getD,List.getElem?_map,List.getElem?_eq_getElem h,List.getD_eq_getElem?_getD,List.getElem?_eq_getElem h];rfl
theorem o1(l:aj)(K:List cO)(p:Nat)(k:cO):(rowsOf l K).take p++D6 l k::(rowsOf l K).drop p=rowsOf l (K.take p++k::K.drop p):=by
 unfold rowsOf
 rw[List.map_append,List.map_cons,List.map_take,List.map_drop];rfl
theorem vM(l:aj)(K:List cO):(rowsOf l K).map keyOf=K:=by
 unfold rowsOf
 rw[List.map_map]
 induction K with
 |nil=>rfl
 |cons k t ih=>rw[List.map_cons,ih];rfl
theorem tM{k x:cO}:0<uO k.1 k.2 x.1 x.2↔pT x k:=by
 unfold uO pT ix;split<;>omega
theorem q5{k x:cO}:uO k.1 k.2 x.1 x.2=0↔x=k:=by
 have:x=k↔x.1=k.1∧x.2=k.2:=⟨fun h=>h▸⟨rfl,rfl⟩,fun h=>Prod.ext h.1 h.2⟩
 rw[this]
 unfold uO;split<;>omega
def tN(k:cO):Prop:=zQ k.1∧zQ k.2
theorem I0{k:cO}{K:List cO}{p:Nat}(h:p<K.length):qx k (K.drop p)=if pT (K.getD p (0,0)) k then K.getD p (0,0)::qx k (K.drop (p+1))else if K.getD p (0,0)=k then K.drop p else k::K.drop p:=by
 rw[drop_cons h (0,0)];rfl
theorem tO{K:List cO}{p:Nat}(h:p<K.length)(t:List cO):K.take p++K.getD p (0,0)::t=K.take (p+1)++t:=by
 rw[←List.take_append_getElem h,List.append_assoc,List.getD_eq_getElem?_getD,List.getElem?_eq_getElem h];rfl
def zeroAt(l:aj)(K:List cO)(k:cO):Prop:=k∉K→dC k.1 k.2 l=0
theorem q6{l:aj}{k:cO}(h:dC k.1 k.2 l=0):((k.1,(k.2,((0:Int),()))):cy)=D6 l k:=by
 unfold D6;rw[h]
theorem o3{k:cO}{K:List cO}{p:Nat}(hs:w6 K)(hp: ∀x∈K.take p,pT x k)(h: ∀x∈K.drop p,pT k x):k∉K:=fun hk=>by
 rw[←List.take_append_drop p K]at hk
 rcases List.mem_append.1 hk with hk|hk
 ·exact tK (hp k hk)
 ·exact tK (h k hk)
theorem I1{k:cO}{K:List cO}{p:Nat}(hs:w6 K)(h:p<K.length)(h1: ¬pT (K.getD p (0,0)) k)(h2:K.getD p (0,0)≠k): ∀x∈K.drop p,pT k x:=by
 have hk:pT k (K.getD p (0,0)):=(IY (K.getD p (0,0)) k).elim (fun h=>absurd h h1) (fun h=>h.elim (fun h=>absurd h h2) id)
 have hd:w6 (K.drop p):=List.Pairwise.sublist (List.drop_sublist ..) hs
 rw[drop_cons h (0,0)]at hd ⊢
 intro x hx
 rcases List.mem_cons.1 hx with rfl|hx
 ·exact hk
 ·exact q4 hk ((List.pairwise_cons.1 hd).1 x hx)
theorem VI(N:Nat)(C:bs.eG){l E S:aj}{K:List cO}(hs:w6 K)(hl:K.length≤100000)(hf: ∀k∈K,tN k)(x:cy)(hx:tN (keyOf x))(hz:zeroAt l K (keyOf x))(len:Int)(i:Nat)(hi:i≤1000000):
  ∀(m n p:Nat),K.length-p≤m→m<n→p≤K.length→(∀y∈K.take p,pT y (keyOf x))→
   bs.rz N C n E (rowsOf l K) x (p:Int) S len (i:Int)=C E (rowsOf l (K.take p++qx (keyOf x) (K.drop p))) S len ((i+1:Nat):Int)
 |m,0,p,_,hn,_,_=>by omega
 |m,n+1,p,hm,hn,hp,hb=>by
  unfold bs.rz bs.qt bs.j18 bs.Xx
  rw[cE,aq (x:=(i:Int)+1) (by omega) (by omega),ae i]
  by_cases h:p<K.length
  ·have hfk:=hf (K.getD p (0,0)) (by rw[List.getD_eq_getElem?_getD,List.getElem?_eq_getElem h];exact List.getElem_mem h)
   have ho:Ke N x.1 x.2.1 ((rowsOf l K).getD p a7)=some (uO (keyOf x).1 (keyOf x).2 (K.getD p (0,0)).1 (K.getD p (0,0)).2):=by
    rw[AB l h]
    exact Aw N hx.1 hx.2 hfk.1 hfk.2
   rw[aK (by omega),cond_true,aN (by omega) (by omega),cond_true,Int.toNat_natCast,ho,Option.bind_some,cI (x:=(p:Int)) (by omega),cond_false,cond_true,Option.bind_some,bX,cond_not,aG,I0 h]
   by_cases h1:pT (K.getD p (0,0)) (keyOf x)
   ·rw[if_pos (tM.2 h1),if_pos h1,aq (x:=(p:Int)+1) (by omega) (by omega),ae p,tO h]
    refine VI N C hs hl hf x hx hz len i hi (m-1) n (p+1) (by omega) (by omega) (by omega) fun y hy=> ?_
    rw[←List.take_append_getElem h]at hy
    rcases List.mem_append.1 hy with hy|hy
    ·exact hb y hy
    ·rw[List.getD_eq_getElem?_getD,List.getElem?_eq_getElem h]at h1
     rw[List.mem_singleton.1 hy];exact h1
   ·rw[if_neg (fun h=>h1 (tM.1 h)),if_neg h1]
    by_cases h2:K.getD p (0,0)=keyOf x
    ·rw[if_pos (q5.2 h2),if_pos h2,List.take_append_drop]
    ·rw[if_neg (fun h=>h2 (q5.1 h)),if_neg h2,w7 N (by rw[cE];omega) (by rw[cE];omega),Option.bind_some]
     have zo:=hz (o3 hs hb (I1 hs h h1 h2))
     have e:=o1 l K p (keyOf x)
     rw[←q6 zo]at e
     exact congrArg (fun R=>C E R S len ((i+1:Nat):Int)) e
  ·have hd:K.drop p=[]:=List.drop_eq_nil_of_le (by omega)
   rw[aF (by omega),cond_false,cg (by omega),cond_true,w7 N (by rw[cE];omega) (by rw[cE];omega),Option.bind_some]
   have zo:=hz (o3 hs hb (by rw[hd];exact fun x hx=>nomatch hx))
   have e:=o1 l K p (keyOf x)
   rw[←q6 zo]at e
   have e2:qx (keyOf x) (K.drop p)=keyOf x::K.drop p:=by rw[hd];rfl
   rw[e2]
   exact congrArg (fun R=>C E R S len ((i+1:Nat):Int)) e
end VM
end
section
namespace VM
open Go VM.F
def AD(E:aj)(i:Nat):Prop:=fH (dJ (i:Int) E).sum 0
instance(E:aj):DecidablePred (AD E):=fun i=>by unfold AD;infer_instance
theorem QA(N:Nat)(hN:2000000≤N)(K:dP.bJ){E:aj}(hq:eW E)(hl:E.length≤100000)(a:Nat)(ha:a<6):
  dP.l6 N K N E (a:Int) [] (a:Int) E (E.length:Int) 0=if(dJ (a:Int) E).sum=0 then K E ((a+1:Nat):Int)else some false:=by
 have:=oS E a7 (fun n j ws=>dP.l6 N K n E (a:Int) (ws.map c7) (a:Int) E (E.length:Int) j)
  (fun t ws=>if(ws++dJ (a:Int) t).sum=0 then K E ((a+1:Nat):Int)else some false)
  (fun j (ws:List Int)=>ws.length≤j∧ ∀x∈ws,aD x)
  (fun n j ws hj hI hr=> ?_) (fun n ws hI=> ?_) E.length N 0 [] (by omega) (by omega) (by omega) ⟨Nat.le_refl _,fun x hx=>nomatch hx⟩
 ·rw[show((0:Nat):Int)=0 from rfl,List.drop_zero]at this
  exact this
 ·unfold dP.l6 dP.n4
  have uu:=uV hq j
  have fX:=uu
  unfold aD fW at fX
  rw[aK (by omega),cond_true,aN (by omega) (by omega),cond_true,Int.toNat_natCast,qo N fX.1 fX.2,Option.bind_some,bB (by rw[List.length_map,List.length_singleton];omega),cond_true,aq (x:=(j:Int)+1) (by omega) (by omega),ae j,aG]
  by_cases h1:(E.getD j a7).2.1=(a:Int)
  ·have hc:dJ (a:Int) (E.getD j a7::E.drop (j+1))=fW (E.getD j a7)::dJ (a:Int) (E.drop (j+1)):=by rw[eX,if_pos h1]
   rw[if_pos h1,hc]
   have:=hr (ws++[fW (E.getD j a7)]) ⟨by rw[List.length_append,List.length_singleton];omega,Az hI.2 uu⟩
   rw[List.map_append]at this
   refine this.trans ?_
   rw[List.append_assoc];rfl
  ·have hc:dJ (a:Int) (E.getD j a7::E.drop (j+1))=dJ (a:Int) (E.drop (j+1)):=by rw[eX,if_neg h1]
   rw[if_neg h1,hc]
   exact hr ws ⟨by omega,hI.2⟩
 ·unfold dP.l6 dP.n4
  rw[aF (by omega),cond_false,BS N hI.2 (by omega) (by omega),Option.bind_some]
  show _=if(ws++[]).sum=0 then K E ((a+1:Nat):Int)else some false
  rw[List.append_nil,Bool.not_true,cond_false,tG,Option.bind_some,cond_not,aG,aq (x:=(a:Int)+1) (by omega) (by omega),ae a]
  by_cases h:ws.sum=0
  ·rw[if_pos h,if_pos (ko.2 h)]
  ·rw[if_neg h,if_neg (fun k=>h (ko.1 k))]
theorem M9(N:Nat)(hN:2000000≤N){E:aj}(hq:eW E)(hl:E.length≤100000):dP N E=some (decide (∀j,j<ig→AD E j)&&true):=by
 unfold dP dP.b
 refine eb (len:=ig) (F:=fun n i=>dP.l2 N n E i) (AD E) (fun n i r hi hp hr=> ?_) (fun n=> ?_) N (by unfold ig;omega)
 ·unfold dP.l2 dP.dx
  unfold ig at hi
  rw[aK (by omega),cond_true,QA N hN _ hq hl i hi,hr]
  unfold AD fH
  rfl
 ·unfold dP.l2 dP.dx
  rw[aF (by unfold ig;omega),cond_false]
structure Na(E:aj):Prop where
 place: ∀x∈E,ck x.1 x.2.1
 q: ∀x∈E,aD (fW x)∧ya (fW x)
 len:E.length≤400
 flat: ∀i:Int,(dJ i E).sum=0
theorem AE{x:cy}(h:ck x.1 x.2.1):tN (keyOf x):=by
 have h':ck (keyOf x).1 (keyOf x).2:=h
 unfold ck at h'
 unfold tN zQ
 omega
theorem eZ{l:aj}{k:cO}(h:k∉l.map keyOf):dC k.1 k.2 l=0:=sy fun x hx e=>h (by
 have:keyOf x=k:=Prod.ext e.1 e.2
 rw[←this];exact List.mem_map_of_mem hx)
theorem Ks(N:Nat)(hN:2000000≤N){l E:aj}(hq:eW E)(hE:E.length≤400)(hp: ∀x∈E,tN (keyOf x))(hs:w6 (l.map keyOf))(hl:l.length≤90000)(Xy:eW l)(Nb: ∀x∈l,tN (keyOf x)):
  bs.nA N N E l E (E.length:Int) 0=o0 (jc Fq (fS l E) (jd (l.map keyOf) E)):=by
 have:=oS E a7 (fun n i K=>bs.nA N n E (rowsOf l K) E (E.length:Int) i) (fun t K=>o0 (jc Fq (fS l E) (jd K t)))
  (fun i (K:List cO)=>K.length≤l.length+i∧w6 K∧(∀k∈K,tN k)∧ ∀x∈l,keyOf x∈K)
  (fun n i K hi hI hr=> ?_) (fun n K hI=> ?_) E.length N 0 (l.map keyOf) (by omega) (by omega) (by omega) ⟨by rw[List.length_map];omega,hs,fun k hk=>by
   obtain⟨x,hx,rfl⟩:=List.mem_map.1 hk
   exact Nb x hx,fun x hx=>List.mem_map_of_mem hx⟩
 ·rw[show((0:Nat):Int)=0 from rfl,List.drop_zero]at this
  simp only[nz hs]at this
  exact this
 ·unfold bs.nA bs.lx
  obtain⟨h1,h2,h3,h4⟩:=hI
  have hm:E.getD i a7∈E:=by
   rw[List.getD_eq_getElem?_getD,List.getElem?_eq_getElem hi];exact List.getElem_mem hi
  rw[aK (by omega),cond_true,aN (by omega) (by omega),cond_true,Int.toNat_natCast]
  refine(VI N _ h2 (by omega) h3 (E.getD i a7) (hp _ hm) (fun hk=>eZ fun hx=>hk (by
   obtain⟨x,hx,e⟩:=List.mem_map.1 hx
   rw[←e];exact h4 x hx)) (E.length:Int) i (by omega) K.length N 0 (by omega) (by omega) (by omega) (fun y hy=>nomatch hy)).trans ?_
  rw[List.take_zero,List.nil_append,List.drop_zero,ny]
  refine hr (qx (keyOf (E.getD i a7)) K) ⟨Nat.le_trans (ym _ K) (by omega),tL h2,fun k hk=>(mm.1 hk).elim (fun e=>e▸hp _ hm) (h3 k),fun x hx=>mm.2 (Or.inr (h4 x hx))⟩
 ·unfold bs.nA bs.lx
  obtain⟨h1,h2,h3,h4⟩:=hI
  rw[aF (by omega),cond_false,cE,bG (by omega) (by omega) (by omega),cond_true]
  have:=Kr N hN (l:=l) (R:=rowsOf l K) hq (by omega) (by rw[cE];omega) (fun r hr=>by
   unfold rowsOf at hr
   obtain⟨k,hk,rfl⟩:=List.mem_map.1 hr
   refine⟨?_,rfl⟩
   show aD (dC k.1 k.2 l)
   by_cases VJ:k∈l.map keyOf
   ·have e:rowsOf l (l.map keyOf)=l:=nz hs
    have hm:D6 l k∈rowsOf l (l.map keyOf):=List.mem_map_of_mem VJ
    rw[e]at hm
    exact Xy (D6 l k) hm
   ·rw[eZ VJ];exact⟨by decide,by decide⟩)
  rw[vM,cE]at this
  exact this
theorem nB{l:aj}(h:dI l=true):w6 (l.map keyOf)∧(∀x∈l,ck x.1 x.2.1∧ya (fW x)):=by
 unfold dI at h
 rw[Bool.and_true]at h
 have h':=of_decide_eq_true h
 have get: ∀(i:Nat) (hi:i<l.length),l.getD i a7=l[i]:=fun i hi=>by rw[List.getD_eq_getElem?_getD,List.getElem?_eq_getElem hi];rfl
 have Nc: ∀i,i+1<l.length→pT (keyOf (l.getD i a7)) (keyOf (l.getD (i+1) a7)):=fun i hi=>(h' (i+1) hi).2.2.2 (by omega)
 have dF: ∀j,j<l.length→ ∀i,i<j→pT (keyOf (l.getD i a7)) (keyOf (l.getD j a7)):=by
  intro j
  induction j with
  |zero=>intro _ i hi;omega
  |succ j ih=>
   intro hj i hi
   by_cases e:i=j
   ·rw[e];exact Nc j hj
   ·exact q4 (ih (by omega) i (by omega)) (Nc j hj)
 refine⟨?_,fun x hx=> ?_⟩
 ·refine List.pairwise_map.2 (List.pairwise_iff_getElem.2 fun i j hi hj ng=> ?_)
  have:=dF j hj i ng
  rw[get i hi,get j hj]at this
  exact this
 ·obtain⟨i,hi,e⟩:=List.getElem_of_mem hx
  have:=h' i hi
  unfold iy iW at this
  rw[get i hi,e]at this
  exact⟨this.1,this.2.2.1⟩
theorem QB(N:Nat)(hN:2000000≤N){l E:aj}(hk:dI l=true)(hl:l.length≤90000)(Xy:eW l)(g:Na E):bs N l E=o0 (jc Fq (fS l E) (jd (l.map keyOf) E)):=by
 obtain⟨hs,Nb⟩:=nB hk
 have hE:=g.len
 unfold bs bs.b
 rw[yb N (by omega) (by omega),hk,Option.bind_some,Bool.not_true,cond_false,aF (by omega),cond_false]
 refine rO E a7 (fun n i=>bs.l4 N n l E E (E.length:Int) i) (fun _=>o0 (jc Fq (fS l E) (jd (l.map keyOf) E))) (fun n i hi hr=> ?_) (fun n=> ?_) N (by omega)
 ·unfold bs.l4 bs.cL
  have hm:E.getD i a7∈E:=by
   rw[List.getD_eq_getElem?_getD,List.getElem?_eq_getElem hi];exact List.getElem_mem hi
  rw[aK (by omega),cond_true,aN (by omega) (by omega),cond_true,Int.toNat_natCast,IV,decide_eq_true (g.place _ hm),Option.bind_some,Bool.not_true,cond_false,nv,Option.bind_some,
   decide_eq_true (show ya ((E.getD i a7).2.2.1)from(g.q _ hm).2),Bool.not_true,cond_false,aq (x:=(i:Int)+1) (by omega) (by omega),ae i]
  exact hr
 ·unfold bs.l4 bs.cL
  have hf:dP N E=some true:=by
   rw[M9 N hN (fun x hx=>(g.q x hx).1) (by omega),decide_eq_true (p:= ∀j,j<ig→AD E j) (fun j _=>g.flat (j:Int))];rfl
  rw[aF (by omega),cond_false,hf,Option.bind_some,Bool.not_true,cond_false,nR N (by omega),Option.bind_some]
  exact Ks N hN (fun x hx=>(g.q x hx).1) hE (fun x hx=>AE (g.place x hx)) hs hl Xy (fun x hx=>AE (Nb x hx).1)
end VM
end
section
namespace VM
open Go VM.F
def Kt(a b:Nat):Nat→List cO
 |0=>[]
 |m+1=>((a:Int),(b:Int))::Kt a (b+1) m
def AF(w a:Nat):Nat→List cO
 |0=>[]
 |m+1=>Kt a 0 w++AF w (a+1) m
theorem tP{k:cO}{a:Nat}: ∀{m b:Nat},k∈Kt a b m↔k.1=a∧(b:Int)≤k.2∧k.2<(b+m:Nat)
 |0,b=>⟨fun h=>(nomatch h),fun h=>by omega⟩
 |m+1,b=>by
  show k∈((a:Int),(b:Int))::Kt a (b+1) m↔_
  rw[List.mem_cons,tP]
  have:k=((a:Int),(b:Int))↔k.1=a∧k.2=b:=⟨fun h=>h▸⟨rfl,rfl⟩,fun h=>Prod.ext h.1 h.2⟩
  rw[this]
  omega
theorem q7{k:cO}{w:Nat}: ∀{m a:Nat},k∈AF w a m↔(a:Int)≤k.1∧k.1<(a+m:Nat)∧0≤k.2∧k.2<w
 |0,a=>⟨fun h=>(nomatch h),fun h=>by omega⟩
 |m+1,a=>by
  show k∈Kt a 0 w++AF w (a+1) m↔_
  rw[List.mem_append,tP,q7]
  omega
theorem D7(a:Nat): ∀(m b:Nat),w6 (Kt a b m)
 |0,b=>List.Pairwise.nil
 |m+1,b=>List.pairwise_cons.2 ⟨fun k hk=>by
  have:=tP.1 hk
  show(a:Int)<k.1∨((a:Int)=k.1∧(b:Int)<k.2)
  omega,D7 a m (b+1)⟩
theorem uX(w:Nat): ∀(m a:Nat),w6 (AF w a m)
 |0,a=>List.Pairwise.nil
 |m+1,a=>List.pairwise_append.2 ⟨D7 a w 0,uX w m (a+1),fun x hx y hy=>by
  have h1:=tP.1 hx
  have h2:=q7.1 hy
  show x.1<y.1∨(x.1=y.1∧x.2<y.2)
  omega⟩
end VM
end
section
namespace VM
open Go VM.F
def Hi:List cO:=AF 6 0 25
theorem Ku{l E:aj}(hk:dI l=true)(hp: ∀x∈E,ck x.1 x.2.1):jc Fq (fS l E) (jd (l.map keyOf) E)=jc Fq (fS l E) Hi:=by
 obtain⟨hs,Nb⟩:=nB hk
 refine D4 ⟨⟨by decide,by decide⟩,by decide⟩ (sA hs) (uX 6 25 0) (fun k hk=> ?_) (fun k hk hn=> ?_)
 ·have:ck k.1 k.2:=by
   rcases ij.1 hk with h|⟨x,hx,rfl⟩
   ·obtain⟨x,hx,rfl⟩:=List.mem_map.1 h
    exact(Nb x hx).1
   ·exact hp x hx
  unfold ck at this
  exact q7.2 (by omega)
 ·have h1:k∉l.map keyOf:=fun h=>hn (ij.2 (Or.inl h))
  have h2:k∉E.map keyOf:=fun h=>by
   obtain⟨x,hx,e⟩:=List.mem_map.1 h
   exact hn (ij.2 (Or.inr ⟨x,hx,e⟩))
  unfold fS
  rw[eZ h1,eZ h2];rfl
end VM
end
section
namespace VM
open Go VM.F
def Nd(E:aj):Prop:= ∀x∈E,eo (fW x)
def fl(r:cy):o4:=(r.1,(r.2.1,(c7 (fW r),())))
theorem BY(E:aj)(i:Nat):(E.map fl).getD i ((0:Int),((0:Int),(bO,())))=fl (E.getD i a7):=by
 by_cases h:i<E.length
 ·rw[List.getD_eq_getElem?_getD,List.getElem?_map,List.getElem?_eq_getElem h,List.getD_eq_getElem?_getD,List.getElem?_eq_getElem h];rfl
 ·rw[List.getD_eq_getElem?_getD,List.getElem?_eq_none (by rw[List.length_map];omega),List.getD_eq_getElem?_getD,List.getElem?_eq_none (by omega)];rfl
theorem I2{l:aj}(h:Nd l)(i:Nat):eo (fW (l.getD i a7)):=by
 by_cases hi:i<l.length
 ·rw[List.getD_eq_getElem?_getD,List.getElem?_eq_getElem hi];exact h _ (List.getElem_mem hi)
 ·rw[List.getD_eq_getElem?_getD,List.getElem?_eq_none (by omega)];exact⟨by decide,by decide⟩
theorem sB{x:Int}(h:aD x):eo x:=by unfold aD at h;unfold eo;omega
theorem yp{ws:List Int}{x:Int}(h: ∀y∈ws,eo y)(hx:eo x): ∀y∈ws++[x],eo y:=fun y hy=>by
 rcases List.mem_append.1 hy with hy|hy
 ·exact h y hy
 ·rw[List.mem_singleton.1 hy];exact hx
theorem Nf(N:Nat){l:aj}:Xz N l=some l:=D5 N
theorem Ng(N:Nat)(hN:2000000≤N)(K:bt.AG){E out R:aj}(hq:Nd E)(hl:E.length≤100000)(ho:out.length≤1000000)(r:cy)(hr:aD (fW r))(i:Nat)(hi:i≤1000000):
  bt.Hj N K N (E.map fl) out r [c7 (fW r)] R (R.length:Int) (i:Int) (E.map fl) ((E.map fl).length:Int) 0=
   if aD (fW r+dC r.1 r.2.1 E)then K (E.map fl) (if fW r+dC r.1 r.2.1 E=0 then out else out++[(r.1,(r.2.1,(fW r+dC r.1 r.2.1 E,())))]) R (R.length:Int) ((i+1:Nat):Int)else some (bh,(2:Int)):=by
 have:=oS E a7 (fun n j ws=>bt.Hj N K n (E.map fl) out r (ws.map c7) R (R.length:Int) (i:Int) (E.map fl) ((E.map fl).length:Int) j)
  (fun t ws=>if aD (ws++dm r.1 r.2.1 t).sum then K (E.map fl) (if(ws++dm r.1 r.2.1 t).sum=0 then out else out++[(r.1,(r.2.1,((ws++dm r.1 r.2.1 t).sum,())))]) R (R.length:Int) ((i+1:Nat):Int)else some (bh,(2:Int)))
  (fun j (ws:List Int)=>ws.length≤j+1∧ ∀x∈ws,eo x)
  (fun n j ws hj hI dA=> ?_) (fun n ws hI=> ?_) E.length N 0 [fW r] (by omega) (by omega) (by omega) ⟨Nat.le_refl _,fun x hx=>by rw[List.mem_singleton.1 hx];exact sB hr⟩
 ·rw[show((0:Nat):Int)=0 from rfl,List.drop_zero]at this
  refine this.trans ?_
  have e:([fW r]++dm r.1 r.2.1 E).sum=fW r+dC r.1 r.2.1 E:=by rw[List.singleton_append,List.sum_cons];rfl
  rw[e]
 ·unfold bt.Hj bt.D8
  rw[aK (by rw[List.length_map];omega),cond_true,aN (by omega) (by rw[List.length_map];omega),cond_true,Int.toNat_natCast,BY,bB (by rw[List.length_map,List.length_singleton];omega),cond_true,aq (x:=(j:Int)+1) (by omega) (by omega),ae j,aG,aG]
  by_cases h1:(E.getD j a7).1=r.1
  ·by_cases h2:(E.getD j a7).2.1=r.2.1
   ·have hc:dm r.1 r.2.1 (E.getD j a7::E.drop (j+1))=fW (E.getD j a7)::dm r.1 r.2.1 (E.drop (j+1)):=by rw[fZ,if_pos ⟨h1,h2⟩]
    rw[if_pos (show(fl (E.getD j a7)).1=r.1 from h1),if_pos (show(fl (E.getD j a7)).2.1=r.2.1 from h2),hc]
    have:=dA (ws++[fW (E.getD j a7)]) ⟨by rw[List.length_append,List.length_singleton];omega,yp hI.2 (I2 hq j)⟩
    rw[List.map_append]at this
    refine this.trans ?_
    rw[List.append_assoc];rfl
   ·have hc:dm r.1 r.2.1 (E.getD j a7::E.drop (j+1))=dm r.1 r.2.1 (E.drop (j+1)):=by rw[fZ,if_neg (fun h=>h2 h.2)]
    rw[if_pos (show(fl (E.getD j a7)).1=r.1 from h1),if_neg (show ¬(fl (E.getD j a7)).2.1=r.2.1 from h2),hc]
    exact dA ws ⟨by omega,hI.2⟩
  ·have hc:dm r.1 r.2.1 (E.getD j a7::E.drop (j+1))=dm r.1 r.2.1 (E.drop (j+1)):=by rw[fZ,if_neg (fun h=>h1 h.1)]
   rw[if_neg (show ¬(fl (E.getD j a7)).1=r.1 from h1),hc]
   exact dA ws ⟨by omega,hI.2⟩
 ·unfold bt.Hj bt.D8
  rw[aF (by rw[List.length_map];omega),cond_false,BO N hI.2 (by omega) (by omega),Option.bind_some]
  show _=if aD (ws++[]).sum then K (E.map fl) (if(ws++[]).sum=0 then out else out++[(r.1,(r.2.1,((ws++[]).sum,())))]) R (R.length:Int) ((i+1:Nat):Int)else some (bh,(2:Int))
  rw[List.append_nil]
  unfold G0
  by_cases h0:eo ws.sum
  ·rw[if_pos h0]
   dsimp only
   rw[yn N h0,Option.bind_some,Bool.not_true,cond_false]
   by_cases h1:aD ws.sum
   ·rw[BW h1]
    dsimp only
    rw[Bool.not_true,cond_false,cond_not,aG,bB (by rw[List.length_singleton];omega),cond_true,aq (x:=(i:Int)+1) (by omega) (by omega),ae i,if_pos h1]
    split<;>rfl
   ·rw[BX h1,if_neg h1]
    rfl
  ·rw[if_neg h0,if_neg (fun h=>h0 (sB h))]
   have e:GZ N bO=some (zN 0):=yn N (v:=0) ⟨by decide,by decide⟩
   dsimp only
   rw[e,Option.bind_some]
   rfl
theorem Kv(N:Nat)(hN:2000000≤N){l E R:aj}(hq:Nd E)(hl:E.length≤100000)(hR:R.length≤200000)(hv: ∀r∈R,aD (fW r)∧fW r=dC r.1 r.2.1 l):
  bt.QC N N (E.map fl) [] R (R.length:Int) 0=o0 (jc aD (fS l E) (R.map keyOf)):=by
 have:=oS R a7 (fun n i out=>bt.QC N n (E.map fl) out R (R.length:Int) i) (fun t out=>o0 ((jc aD (fS l E) (t.map keyOf)).map (fun o=>out++o))) (fun i (out:aj)=>out.length≤i)
  (fun n i out hi hI hr=> ?_) (fun n out hI=> ?_) R.length N 0 [] (by omega) (by omega) (by omega) (Nat.le_refl _)
 ·rw[show((0:Nat):Int)=0 from rfl,List.drop_zero]at this
  refine this.trans ?_
  simp
 ·unfold bt.QC bt.QD
  have hm:R.getD i a7∈R:=by
   rw[List.getD_eq_getElem?_getD,List.getElem?_eq_getElem hi];exact List.getElem_mem hi
  have LM:=hv _ hm
  have uu:=LM.1
  have fX:=uu
  unfold aD fW at fX
  rw[aK (by omega),cond_true,aN (by omega) (by omega),cond_true,Int.toNat_natCast,qo N fX.1 fX.2,Option.bind_some]
  refine(Ng N hN _ hq hl (by omega) _ uu i (by omega)).trans ?_
  rw[List.map_cons,ot]
  have ef:fS l E (keyOf (R.getD i a7)).1 (keyOf (R.getD i a7)).2=fW (R.getD i a7)+dC (R.getD i a7).1 (R.getD i a7).2.1 E:=by
   show dC _ _ l+dC _ _ E=_
   rw[LM.2];rfl
  rw[ef]
  generalize hS:fW (R.getD i a7)+dC (R.getD i a7).1 (R.getD i a7).2.1 E=v
  by_cases hF:aD v
  ·rw[if_pos hF,if_pos hF,hr _ (by
    split
    ·omega
    ·rw[List.length_append,List.length_singleton];omega)]
   cases jc aD (fS l E) ((R.drop (i+1)).map keyOf)with
   |none=>rfl
   |some o=>
    show o0 (some _)=o0 (some _)
    congr 2
    split
    ·rfl
    ·exact List.append_assoc _ _ _
  ·rw[if_neg hF,if_neg hF];rfl
 ·unfold bt.QC bt.QD
  rw[aF (by omega),cond_false,Nf,Option.bind_some]
  show _=o0 (some (out++[]))
  rw[List.append_nil];rfl
theorem VK(N:Nat)(C:bt.iA){l:aj}{E S:b7}{K:List cO}(hs:w6 K)(hl:K.length≤100000)(hf: ∀k∈K,tN k)(x:o4)(k:cO)(hxk:(x.1,x.2.1)=k)(hx:tN k)(hz:zeroAt l K k)(len:Int)(i:Nat)(hi:i≤1000000):
  ∀(m n p:Nat),K.length-p≤m→m<n→p≤K.length→(∀y∈K.take p,pT y k)→
   bt.yq N C n E (rowsOf l K) x (p:Int) S len (i:Int)=C E (rowsOf l (K.take p++qx k (K.drop p))) S len ((i+1:Nat):Int)
 |m,0,p,_,hn,_,_=>by omega
 |m,n+1,p,hm,hn,hp,hb=>by
  unfold bt.yq bt.wI bt.j21 bt.XA
  rw[cE,aq (x:=(i:Int)+1) (by omega) (by omega),ae i]
  have ex:((x.1,(x.2.1,((0:Int),()))):cy)=(k.1,(k.2,((0:Int),()))):=by rw[←hxk]
  by_cases h:p<K.length
  ·have hfk:=hf (K.getD p (0,0)) (by rw[List.getD_eq_getElem?_getD,List.getElem?_eq_getElem h];exact List.getElem_mem h)
   have ho:G7 N x.1 x.2.1 ((rowsOf l K).getD p a7)=some (uO k.1 k.2 (K.getD p (0,0)).1 (K.getD p (0,0)).2):=by
    rw[AB l h]
    rw[←hxk]at hx ⊢
    exact xY N hx.1 hx.2 hfk.1 hfk.2
   rw[aK (by omega),cond_true,aN (by omega) (by omega),cond_true,Int.toNat_natCast,ho,Option.bind_some,cI (x:=(p:Int)) (by omega),cond_false,cond_true,Option.bind_some,bX,cond_not,aG,I0 h]
   by_cases h1:pT (K.getD p (0,0)) k
   ·rw[if_pos (tM.2 h1),if_pos h1,aq (x:=(p:Int)+1) (by omega) (by omega),ae p,tO h]
    refine VK N C hs hl hf x k hxk hx hz len i hi (m-1) n (p+1) (by omega) (by omega) (by omega) fun y hy=> ?_
    rw[←List.take_append_getElem h]at hy
    rcases List.mem_append.1 hy with hy|hy
    ·exact hb y hy
    ·rw[List.getD_eq_getElem?_getD,List.getElem?_eq_getElem h]at h1
     rw[List.mem_singleton.1 hy];exact h1
   ·rw[if_neg (fun h=>h1 (tM.1 h)),if_neg h1]
    by_cases h2:K.getD p (0,0)=k
    ·rw[if_pos (q5.2 h2),if_pos h2,List.take_append_drop]
    ·rw[if_neg (fun h=>h2 (q5.1 h)),if_neg h2,w7 N (by rw[cE];omega) (by rw[cE];omega),Option.bind_some]
     have zo:=hz (o3 hs hb (I1 hs h h1 h2))
     have e:=o1 l K p k
     rw[←q6 zo]at e
     refine Eq.trans ?_ (congrArg (fun R=>C E R S len ((i+1:Nat):Int)) e)
     exact congrArg (fun z:cy=>C E ((rowsOf l K).take p++z::(rowsOf l K).drop p) S len ((i+1:Nat):Int)) ex
  ·have hd:K.drop p=[]:=List.drop_eq_nil_of_le (by omega)
   rw[aF (by omega),cond_false,cg (by omega),cond_true,w7 N (by rw[cE];omega) (by rw[cE];omega),Option.bind_some]
   have zo:=hz (o3 hs hb (by rw[hd];exact fun x hx=>nomatch hx))
   have e:=o1 l K p k
   rw[←q6 zo]at e
   have e2:qx k (K.drop p)=k::K.drop p:=by rw[hd];rfl
   rw[e2]
   refine Eq.trans ?_ (congrArg (fun R=>C E R S len ((i+1:Nat):Int)) e)
   exact congrArg (fun z:cy=>C E ((rowsOf l K).take p++z::(rowsOf l K).drop p) S len ((i+1:Nat):Int)) ex
theorem Kw(N:Nat)(hN:2000000≤N){l E:aj}(hq:Nd E)(hE:E.length≤400)(hp: ∀x∈E,tN (keyOf x))(hs:w6 (l.map keyOf))(hl:l.length≤90000)(Xy:eW l)(Nb: ∀x∈l,tN (keyOf x)):
  bt.rz N N (E.map fl) l (E.map fl) ((E.map fl).length:Int) 0=o0 (jc aD (fS l E) (jd (l.map keyOf) E)):=by
 have:=oS E a7 (fun n i K=>bt.rz N n (E.map fl) (rowsOf l K) (E.map fl) ((E.map fl).length:Int) i) (fun t K=>o0 (jc aD (fS l E) (jd K t)))
  (fun i (K:List cO)=>K.length≤l.length+i∧w6 K∧(∀k∈K,tN k)∧ ∀x∈l,keyOf x∈K)
  (fun n i K hi hI hr=> ?_) (fun n K hI=> ?_) E.length N 0 (l.map keyOf) (by omega) (by omega) (by omega) ⟨by rw[List.length_map];omega,hs,fun k hk=>by
   obtain⟨x,hx,rfl⟩:=List.mem_map.1 hk
   exact Nb x hx,fun x hx=>List.mem_map_of_mem hx⟩
 ·rw[show((0:Nat):Int)=0 from rfl,List.drop_zero]at this
  simp only[nz hs]at this
  exact this
 ·unfold bt.rz bt.qt
  obtain⟨h1,h2,h3,h4⟩:=hI
  have hm:E.getD i a7∈E:=by
   rw[List.getD_eq_getElem?_getD,List.getElem?_eq_getElem hi];exact List.getElem_mem hi
  rw[aK (by rw[List.length_map];omega),cond_true,aN (by omega) (by rw[List.length_map];omega),cond_true,Int.toNat_natCast,BY]
  refine(VK N _ h2 (by omega) h3 (fl (E.getD i a7)) (keyOf (E.getD i a7)) rfl (hp _ hm) (fun hk=>eZ fun hx=>hk (by
   obtain⟨x,hx,e⟩:=List.mem_map.1 hx
   rw[←e];exact h4 x hx)) ((E.map fl).length:Int) i (by omega) K.length N 0 (by omega) (by omega) (by omega) (fun y hy=>nomatch hy)).trans ?_
  rw[List.take_zero,List.nil_append,List.drop_zero,ny]
  refine hr (qx (keyOf (E.getD i a7)) K) ⟨Nat.le_trans (ym _ K) (by omega),tL h2,fun k hk=>(mm.1 hk).elim (fun e=>e▸hp _ hm) (h3 k),fun x hx=>mm.2 (Or.inr (h4 x hx))⟩
 ·unfold bt.rz bt.qt
  obtain⟨h1,h2,h3,h4⟩:=hI
  rw[aF (by rw[List.length_map];omega),cond_false,cE,bG (by omega) (by omega) (by omega),cond_true]
  have:=Kv N hN (l:=l) (R:=rowsOf l K) hq (by omega) (by rw[cE];omega) (fun r hr=>by
   unfold rowsOf at hr
   obtain⟨k,hk,rfl⟩:=List.mem_map.1 hr
   refine⟨?_,rfl⟩
   show aD (dC k.1 k.2 l)
   by_cases VJ:k∈l.map keyOf
   ·have e:rowsOf l (l.map keyOf)=l:=nz hs
    have hm:D6 l k∈rowsOf l (l.map keyOf):=List.mem_map_of_mem VJ
    rw[e]at hm
    exact Xy (D6 l k) hm
   ·rw[eZ VJ];exact⟨by decide,by decide⟩)
  rw[vM,cE]at this
  exact this
theorem yr{l:aj}(h:fx l=true):w6 (l.map keyOf)∧(∀x∈l,eN x.1 x.2.1):=by
 unfold fx at h
 rw[Bool.and_true]at h
 have h':=of_decide_eq_true h
 have get: ∀(i:Nat) (hi:i<l.length),l.getD i a7=l[i]:=fun i hi=>by rw[List.getD_eq_getElem?_getD,List.getElem?_eq_getElem hi];rfl
 have Nc: ∀i,i+1<l.length→pT (keyOf (l.getD i a7)) (keyOf (l.getD (i+1) a7)):=fun i hi=>(h' (i+1) hi).2.2 (by omega)
 have dF: ∀j,j<l.length→ ∀i,i<j→pT (keyOf (l.getD i a7)) (keyOf (l.getD j a7)):=by
  intro j
  induction j with
  |zero=>intro _ i hi;omega
  |succ j ih=>
   intro hj i hi
   by_cases e:i=j
   ·rw[e];exact Nc j hj
   ·exact q4 (ih (by omega) i (by omega)) (Nc j hj)
 refine⟨?_,fun x hx=> ?_⟩
 ·refine List.pairwise_map.2 (List.pairwise_iff_getElem.2 fun i j hi hj ng=> ?_)
  have:=dF j hj i ng
  rw[get i hi,get j hj]at this
  exact this
 ·obtain⟨i,hi,e⟩:=List.getElem_of_mem hx
  have:=h' i hi
  unfold gS hZ at this
  rw[get i hi,e]at this
  exact this.1
structure Nh(E:aj):Prop where
 key: ∀x∈E,eN x.1 x.2.1
 q:Nd E
 len:E.length≤400
 zero:(E.map fW).sum=0
theorem I3{x:cy}(h:eN x.1 x.2.1):tN (keyOf x):=by
 have h':eN (keyOf x).1 (keyOf x).2:=h
 unfold eN at h'
 unfold tN zQ
 omega
theorem Ni(N:Nat)(hN:2000000≤N){l E:aj}(hk:fx l=true)(hl:l.length≤90000)(Xy:eW l)(g:Nh E):bt N l (E.map fl)=o0 (jc aD (fS l E) (jd (l.map keyOf) E)):=by
 obtain⟨hs,Nb⟩:=yr hk
 have hE:=g.len
 unfold bt bt.b
 rw[BQ N (by omega) (by omega),hk,Option.bind_some,Bool.not_true,cond_false,aF (by rw[List.length_map];omega),cond_false,bG (by omega) (by omega) (by rw[List.length_map];omega),cond_true]
 have:=oS E a7 (fun n i (ws:List Int)=>bt.l5 N n l (E.map fl) (ws.map c7) (E.map fl) ((E.map fl).length:Int) i)
  (fun t ws=>if(ws++t.map fW).sum=0 then o0 (jc aD (fS l E) (jd (l.map keyOf) E))else none)
  (fun j (ws:List Int)=>ws.length≤j∧(ws++(E.drop j).map fW).sum=0∧ ∀x∈ws,eo x)
  (fun n i ws hi hI hr=> ?_) (fun n ws hI=> ?_) E.length N 0 [] (by omega) (by omega) (by omega) ⟨Nat.le_refl _,g.zero,fun x hx=>nomatch hx⟩
 ·rw[show((0:Nat):Int)=0 from rfl,List.drop_zero]at this
  refine Eq.trans this ?_
  rw[List.nil_append,if_pos g.zero]
 ·unfold bt.l5 bt.dd
  have hm:E.getD i a7∈E:=by
   rw[List.getD_eq_getElem?_getD,List.getElem?_eq_getElem hi];exact List.getElem_mem hi
  have PW:G4 N (fl (E.getD i a7)).1 (fl (E.getD i a7)).2.1=some true:=by
   rw[G1]
   exact congrArg some (decide_eq_true (g.key _ hm))
  rw[aK (by rw[List.length_map];omega),cond_true,aN (by omega) (by rw[List.length_map];omega),cond_true,Int.toNat_natCast,BY,PW,Option.bind_some,Bool.not_true,cond_false,bB (by rw[List.length_map,List.length_singleton];omega),cond_true,aq (x:=(i:Int)+1) (by omega) (by omega),ae i]
  have h0:=hI.2.1
  rw[drop_cons hi a7,List.map_cons]at h0
  have:=hr (ws++[fW (E.getD i a7)]) ⟨by rw[List.length_append,List.length_singleton];omega,by rw[List.append_assoc];exact h0,yp hI.2.2 (I2 g.q i)⟩
  rw[List.map_append]at this
  refine this.trans ?_
  rw[List.append_assoc];rfl
 ·unfold bt.l5 bt.dd
  have h0:=hI.2.1
  rw[List.drop_length,List.map_nil,List.append_nil]at h0
  rw[aF (by rw[List.length_map];omega),cond_false,BO N hI.2.2 (by omega) (by omega),Option.bind_some,h0]
  have e0:G0 0=(c7 0,true):=by unfold G0;exact if_pos ⟨by decide,by decide⟩
  rw[e0]
  dsimp only
  rw[Bool.not_true,cond_false,tG,Option.bind_some,show qY 0=0 from rfl,cg rfl,Bool.not_true,cond_false,nR N (by omega),Option.bind_some]
  rw[List.map_nil,List.append_nil,if_pos h0]
  exact Kw N hN g.q hE (fun x hx=>I3 (g.key x hx)) hs hl Xy (fun x hx=>I3 (Nb x hx))
end VM
end
section
namespace VM
open Go VM.F
def Nj:List cO:=AF 25 1 7
theorem Nk{l E:aj}(hk:fx l=true)(hp: ∀x∈E,eN x.1 x.2.1):jc aD (fS l E) (jd (l.map keyOf) E)=jc aD (fS l E) Nj:=by
 obtain⟨hs,Nb⟩:=yr hk
 refine D4 ⟨by decide,by decide⟩ (sA hs) (uX 25 7 1) (fun k hk=> ?_) (fun k hk hn=> ?_)
 ·have:eN k.1 k.2:=by
   rcases ij.1 hk with h|⟨x,hx,rfl⟩
   ·obtain⟨x,hx,rfl⟩:=List.mem_map.1 h
    exact Nb x hx
   ·exact hp x hx
  unfold eN at this
  exact q7.2 (by omega)
 ·have h1:k∉l.map keyOf:=fun h=>hn (ij.2 (Or.inl h))
  have h2:k∉E.map keyOf:=fun h=>by
   obtain⟨x,hx,e⟩:=List.mem_map.1 h
   exact hn (ij.2 (Or.inr ⟨x,hx,e⟩))
  unfold fS
  rw[eZ h1,eZ h2];rfl
def gq(b:ah)(s e:aj):ah×Int:=
 match jc Fq (fS b.2.2.2.1 s) Hi with
 |none=>((aV,(cm,(bh,(bh,(cK,(cT,())))))),2)
 |some s'=>match jc aD (fS b.2.2.1 e) Nj with
  |none=>((aV,(cm,(bh,(bh,(cK,(cT,())))))),2)
  |some r'=>((b.1,(b.2.1,(r',(s',b.2.2.2.2)))),0)
theorem Nl(N:Nat){b:ah}(w:yi b):QE N b=some b:=by
 unfold QE
 have h1:=w.m;have h2:=w.a;have h3:=w.r;have h4:=w.s;have h5:=w.p;have h6:=w.o
 rw[nR N (by omega),Option.bind_some,nR N (by omega),Option.bind_some,nR N (by omega),Option.bind_some,nR N (by omega),Option.bind_some,nR N (by omega),Option.bind_some,nR N (by omega),Option.bind_some]
end VM
end
section
namespace VM
open Go VM.F
theorem Nm(N:Nat)(hN:2000000≤N){b:ah}{s e:aj}(w:yi b)(hr:fx b.2.2.1=true)(hs:dI b.2.2.2.1=true)(lr:b.2.2.1.length≤90000)(ls:b.2.2.2.1.length≤90000)(gs:Na s)(ge:Nh e):
  F65 N b s (e.map fl)=some (gq b s e):=by
 unfold F65 gq
 rw[Nl N w,Option.bind_some,QB N hN hs ls w.qs gs,Ni N hN hr lr w.qr ge,Ku hs gs.place,Nk hr ge.key]
 unfold o0
 rw[Option.bind_some,Option.bind_some]
 have e1:az 2 0=false:=cI (by omega)
 have e2:az 0 0=true:=cg rfl
 cases jc Fq (fS b.2.2.2.1 s) Hi with
 |none=>dsimp only;rw[e1];rfl
 |some s'=>
  cases jc aD (fS b.2.2.1 e) Nj with
  |none=>dsimp only;rw[e1,e2];rfl
  |some r'=>dsimp only;rw[e2];rfl
theorem I4(N:Nat)(C:cP.ba){l:ay}(hl:l.length≤100000)(i:Nat)(hi:i<l.length): ∀(m n k:Nat),i-k≤m→m<n→k≤i→(l.take k).any (eY (l.getD i aA).2.2.1 (l.getD i aA).2.1)=false→
  cP.l9 N C n l (i:Int) (k:Int)=cond ((l.take i).any (eY (l.getD i aA).2.2.1 (l.getD i aA).2.1)) (some false) (C l ((i+1:Nat):Int))
 |m,0,k,_,hn,_,_=>by omega
 |m,n+1,k,hm,hn,hk,hb=>by
  unfold cP.l9 cP.rN
  by_cases h:k<i
  ·have tw:=I4 N C hl i hi (m-1) n (k+1) (by omega) (by omega) (by omega)
   have ht:(l.take (k+1)).any (eY (l.getD i aA).2.2.1 (l.getD i aA).2.1)=eY (l.getD i aA).2.2.1 (l.getD i aA).2.1 (l.getD k aA):=by
    have ek:l.getD k aA=l[k]'(by omega):=by rw[List.getD_eq_getElem?_getD,List.getElem?_eq_getElem (show k<l.length by omega)];rfl
    rw[←List.take_append_getElem (show k<l.length by omega),List.any_append,hb,ek,List.any_cons,List.any_nil,Bool.or_false,Bool.false_or]
   have gC:eY (l.getD i aA).2.2.1 (l.getD i aA).2.1 (l.getD k aA)=true→(l.take i).any (eY (l.getD i aA).2.2.1 (l.getD i aA).2.1)=true:=fun hh=>by
    refine List.any_eq_true.2 ⟨l.getD k aA,?_,hh⟩
    rw[List.getD_eq_getElem?_getD,List.getElem?_eq_getElem (show k<l.length by omega)]
    exact List.mem_take_iff_getElem.2 ⟨k,by omega,rfl⟩
   rw[aK (by omega),cond_true,aN (by omega) (by omega),cond_true,aN (by omega) (by omega),cond_true,cond_true,cond_true,Int.toNat_natCast,Int.toNat_natCast,aG,aG,aq (x:=(k:Int)+1) (by omega) (by omega),ae k]
   by_cases h1:(l.getD k aA).2.2.1=(l.getD i aA).2.2.1
   ·by_cases h2:(l.getD k aA).2.1=(l.getD i aA).2.1
    ·rw[if_pos h1,if_pos h2,gC (by unfold eY fH;rw[decide_eq_true h1,decide_eq_true h2];rfl)];rfl
    ·rw[if_pos h1,if_neg h2]
     exact tw (by rw[ht];unfold eY fH;rw[decide_eq_false h2,Bool.and_false])
   ·rw[if_neg h1]
    exact tw (by rw[ht];unfold eY fH;rw[decide_eq_false h1,Bool.false_and])
  ·have:k=i:=by omega
   subst this
   rw[aF (by omega),cond_false,hb,cond_false,aq (x:=(k:Int)+1) (by omega) (by omega),ae k]
theorem qy(N:Nat){l:ay}(hl:l.length≤100000)(hN:200000≤N):cP N l=some (jJ l):=by
 unfold cP cP.b jJ
 by_cases h40:l.length≤40
 ·rw[aF (by omega),cond_false,decide_eq_true h40]
  refine eb (F:=fun n i=>cP.l4 N n l i) (oZ l) (fun n i r hi hp hr=> ?_) (fun n=> ?_) N (by omega)
  ·unfold cP.l4 cP.cL cP.j8 cP.Hk
   have gC:cP.l9 N (cP.l4 N n) N l (i:Int) 0=_:=I4 N (cP.l4 N n) hl i hi i N 0 (by omega) (by omega) (by omega) rfl
   rw[aK (by omega),cond_true,aN (by omega) (by omega),cond_true,cond_true,Int.toNat_natCast,IW,Option.bind_some,cond_not,dj,gC,hr]
   have hT:cond ((l.take i).any (eY (l.getD i aA).2.2.1 (l.getD i aA).2.1)) (some false) r=if(l.take i).any (eY (l.getD i aA).2.2.1 (l.getD i aA).2.1)=false then r else some false:=by
    cases(l.take i).any (eY (l.getD i aA).2.2.1 (l.getD i aA).2.1)<;>rfl
   rw[hT]
   by_cases hK:qw (l.getD i aA)
   ·rw[if_pos hK]
    have hD:(if oZ l i then r else some false)=if lO i (l.getD (i-1) aA).1 (l.getD i aA).1 then(if(l.take i).any (eY (l.getD i aA).2.2.1 (l.getD i aA).2.1)=false then r else some false)else some false:=by
     by_cases h1:lO i (l.getD (i-1) aA).1 (l.getD i aA).1<;>by_cases h2:(l.take i).any (eY (l.getD i aA).2.2.1 (l.getD i aA).2.1)=false
     ·rw[if_pos h1,if_pos h2,if_pos ⟨hK,h1,h2⟩]
     ·rw[if_pos h1,if_neg h2,if_neg (fun h=>h2 h.2.2)]
     ·rw[if_neg h1,if_neg (fun h=>h1 h.2.1)]
     ·rw[if_neg h1,if_neg (fun h=>h1 h.2.1)]
    rw[hD]
    by_cases h0:0<i
    ·have e:W .i64 ((i:Int)-1)=((i-1:Nat):Int):=by rw[aq (by omega) (by omega)];omega
     rw[aK (x:=0) (y:=(i:Int)) (by omega),cond_true,e]
     dsimp only
     rw[Int.toNat_natCast,aN (by omega) (by omega),cond_true,bH]
     by_cases h1:lO i (l.getD (i-1) aA).1 (l.getD i aA).1
     ·rw[if_pos h1,if_neg (by unfold lO at h1;omega)]
     ·rw[if_neg h1,if_pos (by unfold lO at h1;omega)]
    ·rw[aF (x:=0) (y:=(i:Int)) (by omega),cond_false,if_pos (show lO i (l.getD (i-1) aA).1 (l.getD i aA).1 from fun h=>absurd h h0)]
   ·rw[if_neg hK,if_neg (fun h=>hK h.1)]
  ·unfold cP.l4 cP.cL
   rw[aF (by omega),cond_false]
 ·rw[aK (by omega),cond_true,decide_eq_false h40,Bool.and_false]
def pH(gD:Int):ay→bp→bp
 |[],b=>b
 |x::t,b=>pH gD t (if x.2.1=gD then(if b.1=0 then x else if b.2.2.2.1<x.2.2.2.1 then x else b)else b)
theorem sC(gD:Int)(x:bp)(t:ay)(b:bp):pH gD (x::t) b=pH gD t (if x.2.1=gD then(if b.1=0 then x else if b.2.2.2.1<x.2.2.2.1 then x else b)else b):=rfl
def D9(b:bp):Bool:= !decide (fH b.1 0)
def ch(l:ay)(gD:Int):bp×Bool:=if jJ l then(pH gD l aA,D9 (pH gD l aA))else(aA,false)
theorem Nn(b:bp):(!az b.1 0)=D9 b:=by unfold D9;rw[eL];rfl
theorem BZ(N:Nat){l:ay}(hl:l.length≤100000)(hN:200000≤N)(gD:Int):tQ N l gD=some (ch l gD):=by
 unfold tQ tQ.b ch
 rw[IX N hl hN,Option.bind_some,cond_not]
 cases jJ l
 ·rfl
 rw[cond_true,if_pos rfl]
 have:=oS l aA (fun n i b=>tQ.l5 N n gD aA b l (l.length:Int) i) (fun t b=>some (pH gD t b,D9 (pH gD t b))) (fun _ _=>True)
  (fun n i b hi hI hr=> ?_) (fun n b hI=> ?_) l.length N 0 aA (by omega) (by omega) (by omega) trivial
 ·exact this
 ·unfold tQ.l5 tQ.dd
  rw[aK (by omega),cond_true,aN (by omega) (by omega),cond_true,Int.toNat_natCast,aq (x:=(i:Int)+1) (by omega) (by omega),ae i,aG,aG,bX,sC,←hr _ trivial]
  split
  ·split
   ·rfl
   ·split<;>rfl
  ·rfl
 ·unfold tQ.l5 tQ.dd
  rw[aF (by omega),cond_false,Nn];rfl
theorem AH{l:ay}(h:jJ l=true): ∀i,i<l.length→qw (l.getD i aA):=fun i hi=>by
 unfold jJ at h
 have h':=of_decide_eq_true (Bool.and_eq_true_iff.1 h).1
 exact(h' i hi).1
end VM
end
section
namespace VM
open Go VM.F
def mo(s w p:Int):Prop:=((s=1∨s=3)∧w=0∧p=0)∨(s=2∧1≤w∧w≤12∧ -1152921504606846976≤p∧p≤1152921504606846976)
instance(s w p:Int):Decidable (mo s w p):=by unfold mo;infer_instance
def yt(a:Int):Prop:=1≤a∧a≤1099511627776
instance(a:Int):Decidable (yt a):=by unfold yt;infer_instance
def leI(a b:Int):Prop:=a≤b
instance(a b:Int):Decidable (leI a b):=by unfold leI;infer_instance
def q8(c:aa)(l:aB)(i:Nat):Prop:=
 yt (l.getD i ((0:Int),(aV,aA))).1∧lO i (l.getD (i-1) ((0:Int),(aV,aA))).1 (l.getD i ((0:Int),(aV,aA))).1∧ ¬fH ((l.getD i ((0:Int),(aV,aA))).2.1.length:Int) 0∧qv c (l.getD i ((0:Int),(aV,aA))).2.1=true∧leI (l.getD i ((0:Int),(aV,aA))).2.2.1 0∧mo (l.getD i ((0:Int),(aV,aA))).2.2.2.1 (l.getD i ((0:Int),(aV,aA))).2.2.2.2.1 (l.getD i ((0:Int),(aV,aA))).2.2.2.2.2.1
instance(c:aa)(l:aB):DecidablePred (q8 c l):=fun i=>by unfold q8;infer_instance
def jK(c:aa)(l:aB):Bool:=fv c&&(decide (l.length≤12)&&(decide (∀j,j<l.length→q8 c l j)&&true))
def vN(l:aB):Prop:= ∀x∈l,x.2.1.length≤100000
theorem o5{l:aB}(h:vN l)(i:Nat):(l.getD i ((0:Int),(aV,aA))).2.1.length≤100000:=by
 by_cases hi:i<l.length
 ·rw[List.getD_eq_getElem?_getD,List.getElem?_eq_getElem hi];exact h _ (List.getElem_mem hi)
 ·rw[List.getD_eq_getElem?_getD,List.getElem?_eq_none (by omega)];exact Nat.zero_le _
theorem I5(s w p:Int)(r:Option Bool):
  cond (az s 1) (cond (!az w 0) (some false) (cond (!az p 0) (some false) r)) (cond (az s 3) (cond (!az w 0) (some false) (cond (!az p 0) (some false) r)) (cond (az s 2) (cond (aM w 1) (some false) (cond (aM 12 w) (some false) (cond (aM p (-1152921504606846976)) (some false) (cond (aM 1152921504606846976 p) (some false) r)))) (some false)))=
   if mo s w p then r else some false:=by
 simp only[cond_not,aG,bX]
 by_cases h:mo s w p
 ·rw[if_pos h];unfold mo at h
  repeat' split
  all_goals first|rfl|omega
 ·rw[if_neg h];unfold mo at h
  repeat' split
  all_goals first|rfl|omega
theorem Kx{A B C D E F:Prop} [Decidable A] [Decidable B] [Decidable C] [Decidable D] [Decidable E] [Decidable F](r:Option Bool):
  (if A then(if B then(if C then(if D then(if E then(if F then r else some false)else some false)else some false)else some false)else some false)else some false)=if A∧B∧C∧D∧E∧F then r else some false:=by
 by_cases hA:A<;>by_cases hB:B<;>by_cases hC:C<;>by_cases hD:D<;>by_cases hE:E<;>by_cases hF:F<;>simp only[hA,hB,hC,hD,hE,hF,if_true,if_false,and_self,and_true,and_false,false_and,true_and]
theorem Ea{a b n f s w p:Int}{i:Nat}{o:Bool}{r:Option Bool}:
  cond (aM a 1) (some false) (cond (aM 1099511627776 a) (some false) (if lO i b a then(cond (az n 0) (some false) (cond (!o) (some false) (cond (aM 0 f) (some false) (if mo s w p then r else some false))))else some false))=
   if yt a∧lO i b a∧ ¬fH n 0∧o=true∧leI f 0∧mo s w p then r else some false:=by
 rw[←Kx]
 simp only[cond_not,aG,bX]
 by_cases h1:yt a
 ·have kO:=h1
  unfold yt at kO
  rw[if_pos h1,if_neg (by omega),if_neg (by omega)]
  by_cases h2:lO i b a
  ·rw[if_pos h2,if_pos h2]
   by_cases h3:n=0
   ·rw[if_pos h3,if_neg (show ¬ ¬fH n 0 from fun h=>h h3)]
   ·rw[if_neg h3,if_pos (show ¬fH n 0 from h3)]
    cases o
    ·rfl
    ·rw[cond_true,if_pos rfl]
     by_cases h4:f≤0
     ·rw[if_pos (show leI f 0 from h4),if_neg (by omega)]
     ·rw[if_neg (show ¬leI f 0 from h4),if_pos (by omega)]
  ·rw[if_neg h2,if_neg h2]
 ·have kO:=h1
  unfold yt at kO
  rw[if_neg h1]
  by_cases h2:a<1
  ·rw[if_pos h2]
  ·rw[if_neg h2,if_pos (by omega)]
theorem Eb{i:Nat}{a b:Int}{r:Option Bool}(h0:0<i):cond (bS a b) (some false) r=if lO i b a then r else some false:=by
 rw[bH]
 by_cases h1:lO i b a
 ·rw[if_pos h1,if_neg (by unfold lO at h1;omega)]
 ·rw[if_neg h1,if_pos (by unfold lO at h1;omega)]
theorem QF(N:Nat)(hN:200000≤N)(c:aa){l:aB}(hl:l.length≤100000)(hw:vN l):pI N c l=some (jK c l):=by
 unfold pI pI.b jK
 rw[BP N (by omega),Option.bind_some]
 cases fv c
 ·rfl
 rw[Bool.not_true,cond_false,Bool.true_and]
 by_cases OZ:l.length≤12
 ·rw[aF (by omega),cond_false,decide_eq_true OZ,Bool.true_and]
  refine eb (F:=fun n i=>pI.l4 N n l c l (l.length:Int) i) (q8 c l) (fun n i r hi hp hr=> ?_) (fun n=> ?_) N (by omega)
  ·unfold pI.l4 pI.cL pI.j8 pI.Hk
   rw[aK (by omega),cond_true,aN (by omega) (by omega),cond_true,Int.toNat_natCast,Qs N hN c (o5 hw i),Option.bind_some,aq (x:=(i:Int)+1) (by omega) (by omega),ae i,hr,I5]
   refine Eq.trans ?_ Ea
   by_cases h0:0<i
   ·have e:W .i64 ((i:Int)-1)=((i-1:Nat):Int):=by rw[aq (by omega) (by omega)];omega
    rw[aK (x:=0) (y:=(i:Int)) (by omega),cond_true,e]
    dsimp only
    rw[Int.toNat_natCast,aN (by omega) (by omega),cond_true,Eb h0]
   ·rw[aF (x:=0) (y:=(i:Int)) (by omega),cond_false,if_pos (show lO i (l.getD (i-1) ((0:Int),(aV,aA))).1 (l.getD i ((0:Int),(aV,aA))).1 from fun h=>absurd h h0)]
  ·unfold pI.l4 pI.cL
   rw[aF (by omega),cond_false]
 ·rw[aK (by omega),cond_true,decide_eq_false OZ,Bool.false_and]
theorem yu(N:Nat)(hN:200000≤N)(c:aa){l:aB}(hl:l.length≤100000)(hw:vN l):eS N c l=some (jK c l):=by
 unfold eS eS.b jK
 rw[mj N (by omega),Option.bind_some]
 cases fv c
 ·rfl
 rw[Bool.not_true,cond_false,Bool.true_and]
 by_cases OZ:l.length≤12
 ·rw[aF (by omega),cond_false,decide_eq_true OZ,Bool.true_and]
  refine eb (F:=fun n i=>eS.l4 N n l c i) (q8 c l) (fun n i r hi hp hr=> ?_) (fun n=> ?_) N (by omega)
  ·unfold eS.l4 eS.cL eS.j9 eS.GY
   rw[aK (by omega),cond_true,aN (by omega) (by omega),cond_true,Int.toNat_natCast,tJ N hN c (o5 hw i),Option.bind_some,aq (x:=(i:Int)+1) (by omega) (by omega),ae i,hr,I5]
   refine Eq.trans ?_ Ea
   by_cases h0:0<i
   ·have e:W .i64 ((i:Int)-1)=((i-1:Nat):Int):=by rw[aq (by omega) (by omega)];omega
    rw[aK (x:=0) (y:=(i:Int)) (by omega),cond_true,e]
    dsimp only
    rw[Int.toNat_natCast,aN (by omega) (by omega),cond_true,Eb h0]
   ·rw[aF (x:=0) (y:=(i:Int)) (by omega),cond_false,if_pos (show lO i (l.getD (i-1) ((0:Int),(aV,aA))).1 (l.getD i ((0:Int),(aV,aA))).1 from fun h=>absurd h h0)]
  ·unfold eS.l4 eS.cL
   rw[aF (by omega),cond_false]
 ·rw[aK (by omega),cond_true,decide_eq_false OZ,Bool.false_and]
theorem No(l:aB)(i:Nat)(h:i<l.length):l.set i (l.getD i ((0:Int),(aV,aA)))=l:=by
 rw[List.getD_eq_getElem?_getD,List.getElem?_eq_getElem h]
 exact List.set_getElem_self h
theorem Np(N:Nat){l:aB}(hl:l.length≤100000)(hw:vN l)(hN:200000≤N):wJ N l=some l:=by
 unfold wJ wJ.b
 rw[nR N (by omega),Option.bind_some]
 refine rO l ((0:Int),(aV,aA)) (fun n i=>wJ.l3 N n l (l.length:Int) i) (fun _=>some l) (fun n i hi hr=> ?_) (fun n=> ?_) N (by omega)
 ·unfold wJ.l3 wJ.iE
  have hlw:=o5 hw i
  rw[aK (by omega),cond_true,aN (by omega) (by omega),cond_true,Int.toNat_natCast,nR N (by omega),Option.bind_some,cond_true,aq (x:=(i:Int)+1) (by omega) (by omega),ae i]
  have e:l.set i ((l.getD i ((0:Int),(aV,aA))).1,((l.getD i ((0:Int),(aV,aA))).2.1,(l.getD i ((0:Int),(aV,aA))).2.2))=l:=No l i hi
  rw[e]
  exact hr
 ·unfold wJ.l3 wJ.iE
  rw[aF (by omega),cond_false]
end VM
end
section
namespace VM
open Go VM.F
def ed(h:Int):ax→aj
 |[]=>[]
 |y::t=>((0:Int),(y.1,((0-y.2.1:Int),())))::(h,(y.1,(y.2.1,())))::ed h t
theorem je(h:Int)(y:Kg)(t:ax):ed h (y::t)=((0:Int),(y.1,((0-y.2.1:Int),())))::(h,(y.1,(y.2.1,())))::ed h t:=rfl
def Ec(h p:Int):aj:=[((5:Int),(h,((0-p:Int),()))),((2:Int),((0:Int),(p,())))]
abbrev Nq:=aj×aj×aB
def I6(x:cN)(m p:Int):cN:=(x.1,(x.2.1,(x.2.2.1,((2:Int),(m,(p,x.2.2.2.2.2.2))))))
def I7(x:cN):cN:=(x.1,(x.2.1,(x.2.2.1,((3:Int),x.2.2.2.2))))
def Ky(b:ah)(l:ay):aB→Nq→Option Nq
 |[],z=>some z
 |x::t,z=>
  if x.2.2.2.1=1 then
   (if(ch l x.1).2=true then
     (if fU b.1 (ch l x.1).1.2.2.1=0∨dW b.2.1 (ch l x.1).1.2.2.1=0 then none
      else Ky b l t (z.1++ed (dW b.2.1 (ch l x.1).1.2.2.1) x.2.1,z.2.1++Ec (dW b.2.1 (ch l x.1).1.2.2.1) (ch l x.1).1.2.2.2.1,z.2.2++[I6 x (ch l x.1).1.2.2.1 (ch l x.1).1.2.2.2.1]))
    else Ky b l t (z.1,z.2.1,z.2.2++[I7 x]))
  else Ky b l t (z.1,z.2.1,z.2.2++[x])
theorem Ed(b:ah)(l:ay)(x:cN)(t:aB)(z:Nq):Ky b l (x::t) z=
 if x.2.2.2.1=1 then
  (if(ch l x.1).2=true then
    (if fU b.1 (ch l x.1).1.2.2.1=0∨dW b.2.1 (ch l x.1).1.2.2.1=0 then none
     else Ky b l t (z.1++ed (dW b.2.1 (ch l x.1).1.2.2.1) x.2.1,z.2.1++Ec (dW b.2.1 (ch l x.1).1.2.2.1) (ch l x.1).1.2.2.2.1,z.2.2++[I6 x (ch l x.1).1.2.2.1 (ch l x.1).1.2.2.2.1]))
   else Ky b l t (z.1,z.2.1,z.2.2++[I7 x]))
 else Ky b l t (z.1,z.2.1,z.2.2++[x]):=rfl
def Ee(b:ah):Option Nq→ah×aB×Int
 |none=>((aV,(cm,(bh,(bh,(cK,(cT,())))))),([],3))
 |some z=>if fH (gq b z.1 z.2.1).2 0 then((gq b z.1 z.2.1).1,(z.2.2,0))else((aV,(cm,(bh,(bh,(cK,(cT,())))))),([],(gq b z.1 z.2.1).2))
def nC(c:aa)(b:ah)(dD:aB)(l:ay):ah×aB×Int:=
 if dT c b=true then(if jK c dD=true then(if jJ l=true then Ee b (Ky b l dD ([],[],[]))else((aV,(cm,(bh,(bh,(cK,(cT,())))))),([],1)))else((aV,(cm,(bh,(bh,(cK,(cT,())))))),([],1)))else((aV,(cm,(bh,(bh,(cK,(cT,())))))),([],1))
theorem AI(gD:Int): ∀(l:ay) (b:bp),pH gD l b=b∨pH gD l b∈l
 |[],b=>Or.inl rfl
 |x::t,b=>by
  rw[sC]
  have key: ∀c,(c=x∨c=b)→(pH gD t c=b∨pH gD t c∈x::t):=fun c hc=>by
   rcases AI gD t c with h|h
   ·rcases hc with e|e
    ·exact Or.inr (by rw[h,e];exact List.mem_cons_self ..)
    ·exact Or.inl (by rw[h,e])
   ·exact Or.inr (List.mem_cons_of_mem _ h)
  refine key _ ?_
  split
  ·split
   ·exact Or.inl rfl
   ·split
    ·exact Or.inl rfl
    ·exact Or.inr rfl
  ·exact Or.inr rfl
theorem QG{l:ay}{gD:Int}(h:(ch l gD).2=true):qw (ch l gD).1:=by
 unfold ch at h ⊢
 by_cases hB:jJ l=true
 ·rw[if_pos hB]at h ⊢
  rcases AI gD l aA with e|e
  ·dsimp only at h
   rw[e]at h
   exact absurd h (by decide)
  ·obtain⟨i,hi,e'⟩:=List.getElem_of_mem e
   have:=AH hB i hi
   rw[List.getD_eq_getElem?_getD,List.getElem?_eq_getElem hi]at this
   dsimp only
   rw[←e'];exact this
 ·rw[if_neg hB]at h
  exact absurd h (by decide)
theorem yv(id:Int): ∀(a:ay),ia id a=0∨ ∃x∈a,x.1=ia id a
 |[]=>Or.inl rfl
 |x::t=>by
  rw[nw]
  have ih:=yv id t
  have ih':ia id t=0∨ ∃y∈x::t,y.1=ia id t:=ih.imp (fun e=>e) fun⟨y,hy,e⟩=>⟨y,List.mem_cons_of_mem _ hy,e⟩
  split
  ·split
   ·exact Or.inr ⟨x,List.mem_cons_self ..,rfl⟩
   ·exact ih'
  ·exact ih'
theorem Nr{a:ay}{id:Int}(h:dW a id≠0):1≤dW a id∧dW a id≤24:=by
 unfold dW at h ⊢
 by_cases hA:ib a=true
 ·rw[if_pos hA]at h ⊢
  rcases yv id a with e|⟨x,hx,e⟩
  ·exact absurd e h
  ·obtain⟨i,hi,e'⟩:=List.getElem_of_mem hx
   unfold ib at hA
   rw[Bool.and_true]at hA
   have:=(of_decide_eq_true hA i hi).1
   rw[List.getD_eq_getElem?_getD,List.getElem?_eq_getElem hi]at this
   have h5:=this.1
   dsimp only[Option.getD_some]at h5
   rw[e',e]at h5
   exact h5
 ·rw[if_neg hA]at h;exact absurd rfl h
def Ef(a:Int):Prop:=0≤a∧a<6
structure qz(t:ax):Prop where
 len:t.length≤6
 inst: ∀y∈t,Ef y.1
 q: ∀y∈t,aD y.2.1∧ya y.2.1
theorem Kz{c:aa}{t:ax}(h:qv c t=true)(uu: ∀y∈t,aD y.2.1):qz t:=by
 unfold qv at h
 obtain⟨h1,h2⟩:=Bool.and_eq_true_iff.1 h
 have kO:=of_decide_eq_true h1
 have h6:c.1.length≤6:=by
  unfold fv at h2
  exact(of_decide_eq_true (Bool.and_eq_true_iff.1 h2).1).2
 have get: ∀(i:Nat) (hi:i<t.length),t.getD i bO=t[i]:=fun i hi=>by rw[List.getD_eq_getElem?_getD,List.getElem?_eq_getElem hi];rfl
 have Gl: ∀i,i<t.length→jI (t.getD i bO).1 (t.getD i bO).2.1 c.1.length i (t.getD (i-1) bO).1:=kO
 have inc: ∀i,i<t.length→(i:Int)≤(t.getD i bO).1:=by
  intro i
  induction i with
  |zero=>intro hi;exact(Gl 0 hi).1
  |succ i ih=>
   intro hi
   have a:=ih (by omega)
   have b:=(Gl (i+1) hi).2.2.2.2 (by omega)
   rw[Nat.add_sub_cancel]at b
   have g: ∀x y:Int,(i:Int)≤x→x<y→((i+1:Nat):Int)≤y:=fun x y _ _=>by omega
   exact g _ _ a b
 refine⟨?_,fun y hy=> ?_,fun y hy=> ?_⟩
 ·by_cases h0:t.length=0
  ·omega
  ·have a:=inc (t.length-1) (by omega)
   have b:=(Gl (t.length-1) (by omega)).2.1
   have g: ∀x:Int,((t.length-1:Nat):Int)≤x→x<(c.1.length:Int)→t.length≤6:=fun x _ _=>by omega
   exact g _ a b
 ·obtain⟨i,hi,e⟩:=List.getElem_of_mem hy
  have:=Gl i hi
  rw[get i hi,e]at this
  have g: ∀x:Int,0≤x→x<(c.1.length:Int)→Ef x:=fun x _ _=>by unfold Ef;omega
  exact g _ this.1 this.2.1
 ·obtain⟨i,hi,e⟩:=List.getElem_of_mem hy
  have:=Gl i hi
  rw[get i hi,e]at this
  exact⟨uu y hy,this.2.2.2.1⟩
structure nD(z:Nq)(i:Nat):Prop where
 place: ∀x∈z.1,ck x.1 x.2.1
 q: ∀x∈z.1,aD (fW x)∧ya (fW x)
 len:z.1.length≤12*i
 flat: ∀a:Int,(dJ a z.1).sum=0
 key: ∀x∈z.2.1,eN x.1 x.2.1
 qe: ∀x∈z.2.1,aD (fW x)
 QH:z.2.1.length≤2*i
 zero:(z.2.1.map fW).sum=0
 out:z.2.2.length=i
theorem zU(a:Int)(l m:aj):dJ a (l++m)=dJ a l++dJ a m:=by
 induction l with
 |nil=>rfl
 |cons x t ih=>
  rw[List.cons_append,eX,eX,ih]
  split<;>rfl
theorem B0{h:Int}{x:cy}: ∀{t:ax},x∈ed h t→ ∃y∈t,x=((0:Int),(y.1,((0-y.2.1:Int),())))∨x=(h,(y.1,(y.2.1,())))
 |[],hx=>nomatch hx
 |y::t,hx=>by
  rw[je]at hx
  rcases List.mem_cons.1 hx with e|hx
  ·exact⟨y,List.mem_cons_self ..,Or.inl e⟩
  ·rcases List.mem_cons.1 hx with e|hx
   ·exact⟨y,List.mem_cons_self ..,Or.inr e⟩
   ·obtain⟨y',hy,e⟩:=B0 hx
    exact⟨y',List.mem_cons_of_mem _ hy,e⟩
theorem I8(h:Int): ∀t:ax,(ed h t).length=2*t.length
 |[]=>rfl
 |y::t=>by
  rw[je,List.length_cons,List.length_cons,List.length_cons,I8 h t];omega
theorem Eg(h a:Int): ∀t:ax,(dJ a (ed h t)).sum=0
 |[]=>rfl
 |y::t=>by
  have ih:=Eg h a t
  rw[je,eX,eX]
  dsimp only
  by_cases e:y.1=a
  ·rw[if_pos e,if_pos e,List.sum_cons,List.sum_cons,ih]
   have g: ∀v:Int,0-v+(v+0)=0:=fun v=>by omega
   exact g y.2.1
  ·rw[if_neg e,if_neg e];exact ih
theorem acM{v:Int}(h:aD v∧ya v):aD (0-v)∧ya (0-v):=by
 unfold aD ya at*;omega
theorem nD.ahY{z:Nq}{i:Nat}(I:nD z i){h p:Int}(h1:1≤h∧h≤24)(hp: -1152921504606846976≤p∧p≤1152921504606846976){t:ax}(g:qz t)(x:cN):nD (z.1++ed h t,z.2.1++Ec h p,z.2.2++[x]) (i+1):=by
 have gC: ∀a:Int,Ef a→ck 0 a∧ck h a:=fun a ha=>by unfold Ef at ha;unfold ck;omega
 refine⟨fun x hx=> ?_,fun x hx=> ?_,?_,fun a=> ?_,fun x hx=> ?_,fun x hx=> ?_,?_,?_,?_⟩
 ·rcases List.mem_append.1 hx with hx|hx
  ·exact I.place x hx
  ·obtain⟨y,hy,e|e⟩:=B0 hx
   ·rw[e];exact(gC _ (g.inst y hy)).1
   ·rw[e];exact(gC _ (g.inst y hy)).2
 ·rcases List.mem_append.1 hx with hx|hx
  ·exact I.q x hx
  ·obtain⟨y,hy,e|e⟩:=B0 hx
   ·rw[e];exact acM (g.q y hy)
   ·rw[e];exact g.q y hy
 ·rw[List.length_append,I8]
  have:=I.len
  have:=g.len
  omega
 ·show(dJ a (z.1++ed h t)).sum=0
  rw[zU,List.sum_append,I.flat a,Eg];rfl
 ·rcases List.mem_append.1 hx with hx|hx
  ·exact I.key x hx
  ·rcases List.mem_cons.1 hx with e|hx
   ·rw[e];show eN 5 h;unfold eN;omega
   ·rw[List.mem_singleton.1 hx];show eN 2 0;decide
 ·rcases List.mem_append.1 hx with hx|hx
  ·exact I.qe x hx
  ·rcases List.mem_cons.1 hx with e|hx
   ·rw[e];show aD (0-p);unfold aD;omega
   ·rw[List.mem_singleton.1 hx];show aD p;unfold aD;omega
 ·show(z.2.1++Ec h p).length≤_
  have:=I.QH
  rw[List.length_append,show(Ec h p).length=2 from rfl];omega
 ·show((z.2.1++Ec h p).map fW).sum=0
  rw[List.map_append,List.sum_append,I.zero]
  show 0+((0-p)+(p+0))=0
  omega
 ·show(z.2.2++[x]).length=_
  rw[List.length_append,I.out];rfl
theorem nD.pass{z:Nq}{i:Nat}(I:nD z i)(x:cN):nD (z.1,z.2.1,z.2.2++[x]) (i+1):=
 ⟨I.place,I.q,by have:=I.len;show z.1.length≤_;omega,I.flat,I.key,I.qe,by have:=I.QH;show z.2.1.length≤_;omega,I.zero,by rw[List.length_append,I.out];rfl⟩
theorem nD.nil:nD ([],[],[]) 0:=⟨fun x hx=>(nomatch hx),fun x hx=>(nomatch hx),Nat.le_refl _,fun a=>rfl,fun x hx=>(nomatch hx),fun x hx=>(nomatch hx),Nat.le_refl _,rfl,rfl⟩
theorem nD.acN{z:Nq}{i:Nat}(I:nD z i)(h:i≤12):Na z.1:=⟨I.place,I.q,by have:=I.len;omega,I.flat⟩
theorem nD.acO{z:Nq}{i:Nat}(I:nD z i)(h:i≤12):Nh z.2.1:=⟨I.key,fun x hx=>sB (I.qe x hx),by have:=I.QH;omega,I.zero⟩
end VM
end
