/- A part of the proof of TearDrawn of layer 29: a machine that reads a function of the program as an equation between values. -/
import Derived.Test.YtocmlaipoebfeaaGreatVm0
import Derived.WalkLawsBesides
import Derived.Great.BuildSlice
import Derived.Laws.Tables
set_option linter.all false
section
namespace VM
open Go
structure Ctx where
 B:Nat
 w0:World
 M0:Nat→Prop
 may:Nat→Prop
 arg:Nat→Value
structure Mem(c:Ctx)(H:Nat→Option aN)(w:World)(M:Nat→Prop)(ν:Nat→Value):Prop where
 iJ: ∀i e,H i=some e→ER w M (ν i) e
 uS: ∀i j e e' b,i≠j→H i=some e→e.mut→H j=some e'→e'.mut→dX (ν i)=some b→dX (ν j)≠some b
 new: ∀i e b,H i=some e→e.mut→dX (ν i)=some b→c.B≤b∨c.may b
 s9: ∀i e l b,H i=some (.own e l)→dX (ν i)=some b→ ¬c.M0 b
 dK: ∀i τ x p j,H i=some (.dK τ x p j)→H j≠none∧ ∃b,ν i= .pointer (some ⟨b,0,none⟩)∧w.cell? ⟨b,bA p τ,none⟩=some (ν j)
 sub: ∀b,c.M0 b→M b
 yi: ∀b,M b→b<w.heap.size
 frame: ∀b,b<c.B→ ¬c.may b→w.heap[b]? =c.w0.heap[b]?
 size:c.B≤w.heap.size
 pU:(∀b,c.M0 b→b<c.B)∧ ∀b,c.may b→ ¬c.M0 b
 os:w.os=c.w0.os
 tape:w.tape=c.w0.tape
 output:w.output=c.w0.output
structure Tr(c:Ctx)(H:Nat→Option aN)(w:World)(M:Nat→Prop)(ν:Nat→Value)(H':Nat→Option aN)(w':World)(M':Nat→Prop)(ν':Nat→Value):Prop where
 mem:Mem c H' w' M' ν'
 bB:dd w M w' M'
 goes:nT H ν H' ν'
theorem aN.g8.trans{a b d:aN}(h:a.g8 b)(k:b.g8 d):a.g8 d:=by
 cases a<;>cases b<;>cases d<;>simp only[aN.g8]at h k ⊢ <;>first
  |exact h.trans k
  |exact⟨h.1.trans k.1,h.2.trans k.2⟩
theorem nT.trans{H H' H'':Nat→Option aN}{ν ν' ν'':Nat→Value}(h:nT H ν H' ν')(k:nT H' ν' H'' ν''):nT H ν H'' ν'':=by
 refine⟨fun i e he=> ?_,fun i hi=> ?_⟩
 ·obtain⟨e',sd,l⟩:=h.iJ i e he
  obtain⟨e'',aiQ,l'⟩:=k.iJ i e' sd
  exact⟨e'',aiQ,l.trans l'⟩
 ·obtain⟨e,he⟩:=Option.ne_none_iff_exists'.1 hi
  obtain⟨e',sd,_⟩:=h.iJ i e he
  rw[k.head i (by simp[sd]),h.head i hi]
theorem Tr.trans{c:Ctx}{H H' H'':Nat→Option aN}{w w' w'':World}{M M' Hh:Nat→Prop}{ν ν' ν'':Nat→Value}
  (h:Tr c H w M ν H' w' M' ν') (k:Tr c H' w' M' ν' H'' w'' Hh ν''):Tr c H w M ν H'' w'' Hh ν'':=
 ⟨k.mem,h.bB.trans k.bB,h.goes.trans k.goes⟩
theorem Tr.refl{c:Ctx}{H:Nat→Option aN}{w:World}{M:Nat→Prop}{ν:Nat→Value}(h:Mem c H w M ν):Tr c H w M ν H w M ν:=
 ⟨h,.refl w M,.refl H ν⟩
theorem ak(H:Nat→Option aN)(d:Nat)(v:Option aN):bh H d v d=v:=by simp[bh]
theorem al(H:Nat→Option aN){d i:Nat}(v:Option aN)(h:i≠d):bh H d v i=H i:=by
 have:Nat.beq i d=false:=by rw[←Bool.not_eq_true,Nat.beq_eq];exact h
 simp[bh,this]
def bP(H:Nat→Option aN):fj→(Nat→Option aN)
 |[]=>H
 |u::r=>bP (bh H u.1 u.2) r
theorem HF(ups:fj): ∀σ:St,(σ.p5 ups).H=bP σ.H ups:=by
 induction ups with
 |nil=>intro σ;rfl
 |cons u r ih=>intro σ;exact ih _
theorem HG(ups:fj): ∀σ:St,(σ.p5 ups).T=σ.T:=by
 induction ups with
 |nil=>intro σ;rfl
 |cons u r ih=>intro σ;exact ih _
theorem dM(a b:fj): ∀H,bP H (a++b)=bP (bP H a) b:=by
 induction a with
 |nil=>intro H;rfl
 |cons u r ih=>intro H;exact ih _
theorem q7{H:Nat→Option aN}{id j:Nat}{v:aN}(h:H j≠none):bh H id (some v) j≠none:=by
 by_cases hj:j=id
 ·subst hj;rw[ak];simp
 ·rw[al _ _ hj];exact h
theorem Cc{H:Nat→Option aN}{w:World}{ν:Nat→Value}(h: ∀i τ x p j,H i=some (.dK τ x p j)→H j≠none∧ ∃b,ν i= .pointer (some ⟨b,0,none⟩)∧w.cell? ⟨b,bA p τ,none⟩=some (ν j)){id:Nat}{v:aN}(hv: ∀τ x p j,v≠ .dK τ x p j):
  ∀i τ x p j,bh H id (some v) i=some (.dK τ x p j)→bh H id (some v) j≠none∧ ∃b,ν i= .pointer (some ⟨b,0,none⟩)∧w.cell? ⟨b,bA p τ,none⟩=some (ν j):=by
 intro i τ x p j hi
 by_cases bo:i=id
 ·subst bo;rw[ak]at hi;cases hi;exact absurd rfl (hv _ _ _ _)
 ·rw[al _ _ bo]at hi
  obtain⟨h1,h2⟩:=h i τ x p j hi
  exact⟨q7 h1,h2⟩
theorem Tr.gone{c:Ctx}{H:Nat→Option aN}{w:World}{M:Nat→Prop}{ν:Nat→Value}(h:Mem c H w M ν)(id:Nat):Tr c H w M ν (bh H id (some .gone)) w M ν:=by
 refine⟨⟨fun i e he=> ?_,fun i j e e' b nB hi hm hj gy=> ?_,fun i e b hi hm=> ?_,fun i e l b hi=> ?_,Cc h.dK (fun _ _ _ _=>by simp),h.sub,h.yi,h.frame,h.size,h.pU,h.os,h.tape,h.output⟩,.refl w M,⟨fun i e he=> ?_,fun _ _=>rfl⟩⟩
 ·by_cases aQ:i=id
  ·subst aQ;rw[ak]at he;cases he;simp[ER]
  ·rw[al _ _ aQ]at he;exact h.iJ i e he
 ·by_cases aQ:i=id
  ·subst aQ;rw[ak]at hi;cases hi;simp[aN.mut]at hm
  ·by_cases hjd:j=id
   ·subst hjd;rw[ak]at hj;cases hj;simp[aN.mut]at gy
   ·rw[al _ _ aQ]at hi;rw[al _ _ hjd]at hj;exact h.uS i j e e' b nB hi hm hj gy
 ·by_cases aQ:i=id
  ·subst aQ;rw[ak]at hi;cases hi;simp[aN.mut]at hm
  ·rw[al _ _ aQ]at hi;exact h.new i e b hi hm
 ·by_cases aQ:i=id
  ·subst aQ;rw[ak]at hi;cases hi
  ·rw[al _ _ aQ]at hi;exact h.s9 i e l b hi
 ·by_cases aQ:i=id
  ·subst aQ;exact⟨.gone,ak _ _ _,by cases e<;>simp[aN.g8]⟩
  ·exact⟨e,by rw[al _ _ aQ];exact he,.refl e⟩
theorem cell_of{w:World}{b:Nat}{cs:Array Value}{t:TypeId}{fz:Nat×Nat}(h:w.heap[b]? =some (.cells cs t fz))(o:Nat):w.cell? ⟨b,o,none⟩=cs[o]? :=by
 simp[World.cell?,h]
theorem At.of_block{w:World}{b:Nat}{cs:Array Value}{t:TypeId}{fz:Nat×Nat}(h:w.heap[b]? =some (.cells cs t fz))(o n:Nat):
  At w b o ((cs.toList.drop o).take n):=by
 intro j v hj
 rw[cell_of h]
 rw[List.getElem?_take]at hj
 split at hj
 ·rw[List.getElem?_drop]at hj;simpa using hj
 ·cases hj
theorem lt_of_block{w:World}{b:Nat}{o:Obj}(h:w.heap[b]? =some o):b<w.heap.size:=(Array.getElem?_eq_some_iff.1 h).1
theorem ER.bB{w w':World}{M M':Nat→Prop}{v:Value}(k:dd w M w' M'): ∀{e:aN},
  (e.mut→ ∀b,dX v=some b→w'.heap[b]? =w.heap[b]? ∧M' b)→ER w M v e→ER w' M' v e
 | .obj τ x,hm,h=>by
  simp only[ER]at h ⊢
  obtain⟨b,cs,t,rfl,hb,hM,hr⟩:=h
  obtain⟨h1,h2⟩:=hm trivial b rfl
  exact⟨b,cs,t,rfl,h1.trans hb,h2,hr.bB k⟩
 | .dK τ x p j,hm,h=>by
  simp only[ER]at h ⊢
  obtain⟨b,cs,t,nA,u,rfl,hb,hM,hr,h3⟩:=h
  obtain⟨h1,h2⟩:=hm trivial b rfl
  exact⟨b,cs,t,nA,u,rfl,h1.trans hb,h2,hr.bB k,h3⟩
 | .own e l,hm,h=>by
  simp only[ER]at h ⊢
  rcases h with h|⟨b,cs,t,cap,rfl,hb,hM,hc,hl,AW,hs,hr⟩
  ·exact .inl h
  ·obtain⟨h1,h2⟩:=hm trivial b (by simp[dX];omega)
   exact .inr ⟨b,cs,t,cap,rfl,h1.trans hb,h2,hc,hl,AW,hs,fun i hi=>(hr i hi).bB k⟩
 | .kg e l,_,h=>by
  simp only[ER]at h ⊢
  exact⟨h.1.bB k,h.2⟩
 | .gone,_,_=>by simp[ER]
theorem ER.sx{w:World}{M:Nat→Prop}{v:Value}{e:aN}(h:ER w M v e)(hm:e.mut){b:Nat}(hb:dX v=some b):M b:=by
 cases e with
 |obj τ x=>simp only[ER]at h;obtain⟨b',cs,t,hv,dq,hM,_⟩:=h;rw[hv]at hb;simp only[dX,Option.some.injEq]at hb;subst hb;exact hM
 |dK τ x p j=>simp only[ER]at h;obtain⟨b',cs,t,_,_,hv,dq,hM,_⟩:=h;rw[hv]at hb;simp only[dX,Option.some.injEq]at hb;subst hb;exact hM
 |own e1 l1=>
  simp only[ER]at h
  rcases h with⟨_,a,hv⟩|⟨b',cs,t,cap,hv,dq,hM,hc,_⟩
  ·rw[hv]at hb;cases a<;>simp[dX]at hb
  ·rw[hv]at hb;simp only[dX]at hb;split at hb
   ·cases hb
   ·simp only[Option.some.injEq]at hb;subst hb;exact hM
 |kg _ _=>simp[aN.mut]at hm
 |gone=>simp[aN.mut]at hm
theorem Tr.freeze{c:Ctx}{H:Nat→Option aN}{w:World}{M:Nat→Prop}{ν:Nat→Value}(h:Mem c H w M ν){id:Nat}{e:Ty}{l:List e.den}(aQ:H id=some (.own e l)):
  ∃M',Tr c H w M ν (bh H id (some (.kg e l))) w M' ν∧V w M' (.slice e) (ν id) l∧ ∀b,M' b↔(M b∧dX (ν id)≠some b):=by
 have hk:dd w M w (fun b=>M b∧dX (ν id)≠some b):=⟨Nat.le_refl _,fun _ _ _=>rfl,fun _ _ h=>h.1⟩
 have he:=h.iJ id _ aQ
 have gO:Rd w (fun b=>M b∧dX (ν id)≠some b) (.slice e) [ν id] l:=by
  simp only[ER]at he
  simp only[Rd]
  rcases he with⟨rfl,a,hv⟩|⟨b,cs,t,cap,hv,hb,hM,hc,hl,AW,hs,hr⟩
  ·exact⟨a,0,by rw[hv];rfl,Nat.le_refl _,fun i hi=>absurd hi (by simp)⟩
  ·refine⟨_,cap,by rw[hv],hl,fun i hi=>⟨b,0,rfl,lt_of_block hb,fun hm=>hm.2 (by rw[hv];simp[dX];omega),_,?_,(hr i hi).bB hk⟩⟩
   rw[Nat.zero_add]
   exact At.of_block hb _ _
 refine⟨fun b=>M b∧dX (ν id)≠some b,⟨⟨fun i e' hi=> ?_,fun i j e1 e2 b nB hi hm hj gy=> ?_,fun i e1 b hi hm=> ?_,fun i e1 l1 b hi=> ?_,Cc h.dK (fun _ _ _ _=>by simp),fun b hb=>⟨h.sub b hb,fun hm=>h.s9 id e l b aQ hm hb⟩,fun b hb=>h.yi b hb.1,h.frame,h.size,h.pU,h.os,h.tape,h.output⟩,hk,⟨fun i e' hi=> ?_,fun _ _=>rfl⟩⟩,?_,fun _=>Iff.rfl⟩
 ·by_cases bo:i=id
  ·subst bo;rw[ak]at hi;cases hi
   simp only[ER]
   refine⟨gO,?_⟩
   simp only[ER]at he
   rcases he with⟨rfl,a,hv⟩|⟨b,cs,t,cap,hv,_⟩
   ·exact .inl ⟨rfl,a,0,0,hv⟩
   ·exact .inr ⟨b,_,cap,hv⟩
  ·rw[al _ _ bo]at hi
   refine(h.iJ i e' hi).bB hk (fun hm b hb=>⟨rfl,?_,?_⟩)
   ·exact(h.iJ i e' hi).sx hm hb
   ·exact h.uS i id e' (.own e l) b bo hi hm aQ trivial hb
 ·by_cases bo:i=id
  ·subst bo;rw[ak]at hi;cases hi;simp[aN.mut]at hm
  ·by_cases z5:j=id
   ·subst z5;rw[ak]at hj;cases hj;simp[aN.mut]at gy
   ·rw[al _ _ bo]at hi;rw[al _ _ z5]at hj;exact h.uS i j e1 e2 b nB hi hm hj gy
 ·by_cases bo:i=id
  ·subst bo;rw[ak]at hi;cases hi;simp[aN.mut]at hm
  ·rw[al _ _ bo]at hi;exact h.new i e1 b hi hm
 ·by_cases bo:i=id
  ·subst bo;rw[ak]at hi;cases hi
  ·rw[al _ _ bo]at hi;exact h.s9 i e1 l1 b hi
 ·by_cases bo:i=id
  ·subst bo;rw[aQ]at hi;cases hi;exact⟨_,ak _ _ _,rfl,rfl⟩
  ·exact⟨e',by rw[al _ _ bo];exact hi,.refl e'⟩
 ·unfold V;rw[if_neg (by simp[Ty.isAgg])];exact gO
theorem Tr.fix{c:Ctx}{H:Nat→Option aN}{w:World}{M:Nat→Prop}{ν:Nat→Value}(h:Mem c H w M ν){id:Nat}{τ:Ty}{x:τ.den}(aQ:H id=some (.obj τ x)):
  ∃M' b,Tr c H w M ν (bh H id (some .gone)) w M' ν∧ν id= .pointer (some ⟨b,0,none⟩)∧b<w.heap.size∧ ¬M' b∧ ∃cs,At w b 0 cs∧Rd w M' τ cs x:=by
 have he:=h.iJ id _ aQ
 simp only[ER]at he
 obtain⟨b0,cs,t,hv,hb,hM,hr⟩:=he
 have rP:dX (ν id)=some b0:=by rw[hv];rfl
 have hk:dd w M w (fun b=>M b∧b≠b0):=⟨Nat.le_refl _,fun _ _ _=>rfl,fun _ _ h=>h.1⟩
 have D0: ¬c.M0 b0:=fun hm=>(h.new id _ b0 aQ trivial rP).elim (fun hB=>by have:=h.pU.1 b0 hm;omega) (fun hB=>h.pU.2 b0 hB hm)
 refine⟨fun b=>M b∧b≠b0,b0,⟨⟨fun i e' hi=> ?_,fun i j e1 e2 b nB hi hm hj gy=> ?_,fun i e1 b hi hm=> ?_,fun i e1 l1 b hi=> ?_,Cc h.dK (fun _ _ _ _=>by simp),fun b dq=>⟨h.sub b dq,fun e=>D0 (e▸dq)⟩,fun b dq=>h.yi b dq.1,h.frame,h.size,h.pU,h.os,h.tape,h.output⟩,hk,⟨fun i e' hi=> ?_,fun _ _=>rfl⟩⟩,hv,lt_of_block hb,fun hm=>hm.2 rfl,cs.toList,?_,hr.bB hk⟩
 ·by_cases bo:i=id
  ·subst bo;rw[ak]at hi;cases hi;simp[ER]
  ·rw[al _ _ bo]at hi
   refine(h.iJ i e' hi).bB hk (fun hm b dq=>⟨rfl,?_,?_⟩)
   ·exact(h.iJ i e' hi).sx hm dq
   ·intro e
    exact h.uS i id e' (.obj τ x) b bo hi hm aQ trivial dq (by rw[rP,e])
 ·by_cases bo:i=id
  ·subst bo;rw[ak]at hi;cases hi;simp[aN.mut]at hm
  ·by_cases z5:j=id
   ·subst z5;rw[ak]at hj;cases hj;simp[aN.mut]at gy
   ·rw[al _ _ bo]at hi;rw[al _ _ z5]at hj;exact h.uS i j e1 e2 b nB hi hm hj gy
 ·by_cases bo:i=id
  ·subst bo;rw[ak]at hi;cases hi;simp[aN.mut]at hm
  ·rw[al _ _ bo]at hi;exact h.new i e1 b hi hm
 ·by_cases bo:i=id
  ·subst bo;rw[ak]at hi;cases hi
  ·rw[al _ _ bo]at hi;exact h.s9 i e1 l1 b hi
 ·by_cases bo:i=id
  ·subst bo;rw[aQ]at hi;cases hi;exact⟨_,ak _ _ _,trivial⟩
  ·exact⟨e',by rw[al _ _ bo];exact hi,.refl e'⟩
 ·have:=At.of_block hb 0 cs.toList.length
  rwa [List.drop_zero,List.take_length]at this
end VM
end
section
namespace VM
open Go
theorem yj(w:World)(o:Obj):(w.alloc o).heap[w.heap.size]? =some o:=by
 show(w.heap.push o)[w.heap.size]? =some o
 simp
theorem lT(w:World)(o:Obj){i:Nat}(h:i<w.heap.size):(w.alloc o).heap[i]? =w.heap[i]? :=by
 show(w.heap.push o)[i]? =w.heap[i]?
 rw[Array.getElem?_push,if_neg (Nat.ne_of_lt h)]
theorem size_alloc(w:World)(o:Obj):(w.alloc o).heap.size=w.heap.size+1:=by
 show(w.heap.push o).size=_
 simp
def cg(ν:Nat→Value)(d:Nat)(v:Value):Nat→Value:=fun i=>if i=d then v else ν i
theorem mi{c:Ctx}{H:Nat→Option aN}{w w':World}{M:Nat→Prop}{ν ν':Nat→Value}(h:Mem c H w M ν){H':Nat→Option aN}
  (hν: ∀i,H i≠none→ν' i=ν i) (hn: ∀i,H i≠none→H' i≠none)
  (hi: ∀i τ x p j,H' i=some (.dK τ x p j)→(H i=some (.dK τ x p j)∧ ∀b,ν i= .pointer (some ⟨b,0,none⟩)→w'.heap[b]? =w.heap[b]?)∨(H' j≠none∧ ∃b,ν' i= .pointer (some ⟨b,0,none⟩)∧w'.cell? ⟨b,bA p τ,none⟩=some (ν' j))):
  ∀i τ x p j,H' i=some (.dK τ x p j)→H' j≠none∧ ∃b,ν' i= .pointer (some ⟨b,0,none⟩)∧w'.cell? ⟨b,bA p τ,none⟩=some (ν' j):=by
 intro i τ x p j he
 rcases hi i τ x p j he with⟨h1,hb⟩|h1
 ·obtain⟨h2,b,h3,h4⟩:=h.dK i τ x p j h1
  refine⟨hn j h2,b,by rw[hν i (by rw[h1];simp)];exact h3,?_⟩
  rw[hν j h2,World.cell?_of_block (w:=w) (hb b h3)]
  exact h4
 ·exact h1
theorem q8{H:Nat→Option aN}{id:Nat}{v:aN}: ∀i,H i≠none→bh H id (some v) i≠none:=fun _ h=>q7 h
theorem tj{H:Nat→Option aN}{id:Nat}{v:aN}(hv: ∀τ x p j,v≠ .dK τ x p j){i:Nat}{τ:Ty}{x:τ.den}{p:List Step}{j:Nat}(h:bh H id (some v) i=some (.dK τ x p j)):H i=some (.dK τ x p j):=by
 by_cases bo:i=id
 ·subst bo;rw[ak]at h;cases h;exact absurd rfl (hv _ _ _ _)
 ·rw[al _ _ bo]at h;exact h
theorem Tr.alloc{c:Ctx}{H:Nat→Option aN}{w:World}{M:Nat→Prop}{ν:Nat→Value}(h:Mem c H w M ν){id:Nat}(aQ:H id=none)(o:Obj)(v:Value)(e:aN)(hm:e.mut)(AX: ∀τ x p j,e≠ .dK τ x p j)
  (hb:dX v=none∨dX v=some w.heap.size) (Kw:ER (w.alloc o) (fun b=>M b∨b=w.heap.size) v e):
  Tr c H w M ν (bh H id (some e)) (w.alloc o) (fun b=>M b∨b=w.heap.size) (cg ν id v):=by
 have hk:dd w M (w.alloc o) (fun b=>M b∨b=w.heap.size):=
  ⟨by rw[size_alloc];omega,fun b hb _=>lT w o hb,fun b hb h'=>h'.resolve_right (by omega)⟩
 have hν: ∀i,i≠id→cg ν id v i=ν i:=fun i hi=>by simp[cg,hi]
 have w1:cg ν id v id=v:=by simp[cg]
 have dz: ∀i e' b,H i=some e'→e'.mut→dX (ν i)=some b→b<w.heap.size:=fun i e' b hi gy dq=>h.yi b ((h.iJ i e' hi).sx gy dq)
 refine⟨⟨fun i e' hi=> ?_,fun i j e1 e2 b nB hi oe hj tk=> ?_,fun i e1 b hi oe=> ?_,fun i e1 l1 b hi=> ?_,mi h (fun i hi=>hν i (fun e=>hi (e▸aQ))) q8 (fun i τ x p j hi=> .inl ⟨tj AX hi,fun b hb=>lT w o (dz i _ b (tj AX hi) trivial (by rw[hb];rfl))⟩),fun b hb=> .inl (h.sub b hb),fun b dq=> ?_,fun b jD rQ=> ?_,?_,h.pU,h.os,h.tape,h.output⟩,hk,⟨fun i e' hi=> ?_,fun i hi=> ?_⟩⟩
 ·by_cases bo:i=id
  ·subst bo;rw[ak]at hi;cases hi;rw[w1];exact Kw
  ·rw[al _ _ bo]at hi;rw[hν i bo]
   exact(h.iJ i e' hi).bB hk fun gy b dq=>⟨lT w o (dz i e' b hi gy dq),.inl ((h.iJ i e' hi).sx gy dq)⟩
 ·by_cases bo:i=id
  ·subst bo;rw[ak]at hi;cases hi;rw[w1]
   intro jD
   have z5:j≠i:=Ne.symm nB
   rw[al _ _ z5]at hj;rw[hν j z5]
   intro rQ
   have:=dz j e2 b hj tk rQ
   rcases hb with hb|hb<;>rw[hb]at jD<;>simp at jD
   omega
  ·rw[al _ _ bo]at hi;rw[hν i bo]
   by_cases z5:j=id
   ·subst z5;rw[w1]
    intro jD rQ
    have:=dz i e1 b hi oe jD
    rcases hb with hb|hb<;>rw[hb]at rQ<;>simp at rQ
    omega
   ·rw[al _ _ z5]at hj;rw[hν j z5];exact h.uS i j e1 e2 b nB hi oe hj tk
 ·by_cases bo:i=id
  ·subst bo;rw[w1]
   intro jD
   rcases hb with hb|hb<;>rw[hb]at jD<;>simp at jD
   subst jD;exact .inl h.size
  ·rw[al _ _ bo]at hi;rw[hν i bo];exact h.new i e1 b hi oe
 ·by_cases bo:i=id
  ·subst bo;rw[w1]
   intro jD h0
   rcases hb with hb|hb<;>rw[hb]at jD<;>simp at jD
   have:=h.pU.1 b h0
   have:=h.size
   omega
  ·rw[al _ _ bo]at hi;rw[hν i bo];exact h.s9 i e1 l1 b hi
 ·rw[size_alloc]
  rcases dq with dq|dq
  ·have:=h.yi b dq;omega
  ·omega
 ·rw[lT w o (Nat.lt_of_lt_of_le jD h.size)];exact h.frame b jD rQ
 ·rw[size_alloc];have:=h.size;omega
 ·by_cases bo:i=id
  ·subst bo;rw[aQ]at hi;cases hi
  ·exact⟨e',by rw[al _ _ bo];exact hi,.refl e'⟩
 ·have bo:i≠id:=fun e=>hi (e▸aQ)
  exact hν i bo
theorem Tr.var{c:Ctx}{H:Nat→Option aN}{w:World}{M:Nat→Prop}{ν:Nat→Value}(h:Mem c H w M ν){id:Nat}(aQ:H id=none)(t:TypeId){τ:Ty}{cs:Array Value}{x:τ.den}(hr:Rd w M τ cs.toList x):
  Tr c H w M ν (bh H id (some (.obj τ x))) (w.alloc (.cells cs t)) (fun b=>M b∨b=w.heap.size) (cg ν id (.pointer (some ⟨w.heap.size,0,none⟩))):=by
 refine Tr.alloc h aQ _ _ _ trivial (fun _ _ _ _=>by simp) (.inr rfl) ?_
 simp only[ER]
 have hk:dd w M (w.alloc (.cells cs t)) (fun b=>M b∨b=w.heap.size):=
  ⟨by rw[size_alloc];omega,fun b hb _=>lT w _ hb,fun b hb h'=>h'.resolve_right (by omega)⟩
 exact⟨w.heap.size,cs,t,rfl,yj w _,.inr rfl,hr.bB hk⟩
theorem Tr.row{c:Ctx}{H:Nat→Option aN}{w:World}{M:Nat→Prop}{ν:Nat→Value}(h:Mem c H w M ν){id:Nat}(aQ:H id=none)(t:TypeId){e:Ty}{cs:Array Value}{l:List e.den}{cap:Nat}
  (hl:l.length≤cap) (hm:cap≤maxLen) (hs:cs.size=cap*e.size) (hr: ∀i (hi:i<l.length),Rd w M e ((cs.toList.drop (i*e.size)).take e.size) l[i]):
  Tr c H w M ν (bh H id (some (.own e l))) (w.alloc (.cells cs t)) (fun b=>M b∨b=w.heap.size) (cg ν id (.slice (some ⟨w.heap.size,0,none⟩) l.length cap)):=by
 have hk:dd w M (w.alloc (.cells cs t)) (fun b=>M b∨b=w.heap.size):=
  ⟨by rw[size_alloc];omega,fun b hb _=>lT w _ hb,fun b hb h'=>h'.resolve_right (by omega)⟩
 refine Tr.alloc h aQ _ _ _ trivial (fun _ _ _ _=>by simp) ?_ ?_
 ·simp only[dX];split
  ·exact .inl rfl
  ·exact .inr rfl
 ·simp only[ER]
  by_cases hc:cap=0
  ·subst hc
   have hl0:l=[]:=List.eq_nil_of_length_eq_zero (by omega)
   subst hl0
   exact .inl ⟨rfl,_,rfl⟩
  ·exact .inr ⟨w.heap.size,cs,t,cap,rfl,yj w _,.inr rfl,by omega,hl,hm,hs,fun i hi=>(hr i hi).bB hk⟩
theorem Tr.drew{c:Ctx}{H:Nat→Option aN}{w:World}{M:Nat→Prop}{ν:Nat→Value}(h:Mem c H w M ν):Tr c H w M ν H w.drew M ν:=by
 have hk:dd w M w.drew M:=⟨Nat.le_refl _,fun _ _ _=>rfl,fun _ _ h=>h⟩
 exact⟨⟨fun i e he=>(h.iJ i e he).bB hk fun hm b hb=>⟨rfl,(h.iJ i e he).sx hm hb⟩,h.uS,h.new,h.s9,h.dK,h.sub,h.yi,h.frame,h.size,h.pU,h.os,h.tape,h.output⟩,hk,.refl H ν⟩
theorem size_setRow(w:World)(g:Nat)(cs:Array Value):(w.setRow g cs).heap.size=w.heap.size:=by simp[World.setRow]
theorem Tr.write{c:Ctx}{H:Nat→Option aN}{w:World}{M:Nat→Prop}{ν:Nat→Value}(h:Mem c H w M ν){id:Nat}{e e':aN}(aQ:H id=some e)(hm:e.mut)(gy:e'.mut)(hl:e.g8 e')
  {b:Nat} (hb:dX (ν id)=some b) {cs new:Array Value} {t:TypeId} (hg:w.heap[b]? =some (.cells cs t (0,0)))
  (Kw: ∀M',dd w M (w.setRow b new) M'→M' b→ER (w.setRow b new) M' (ν id) e')
  (og: ∀τ x p j,e'= .dK τ x p j→H j≠none∧ ∃b',ν id= .pointer (some ⟨b',0,none⟩)∧(w.setRow b new).cell? ⟨b',bA p τ,none⟩=some (ν j):=by intro _ _ _ _ h;cases h):
  Tr c H w M ν (bh H id (some e')) (w.setRow b new) M ν:=by
 have XM:M b:=(h.iJ id e aQ).sx hm hb
 have hk:dd w M (w.setRow b new) M:=
  ⟨by rw[size_setRow];exact Nat.le_refl _,fun b' _ hm=>setRow_other w b b' new (fun e=>hm (e▸XM)),fun _ _ h=>h⟩
 refine⟨⟨fun i e1 hi=> ?_,fun i j e1 e2 b1 nB hi oe hj tk=> ?_,fun i e1 b1 hi oe=> ?_,fun i e1 l1 b1 hi=> ?_,mi h (fun _ _=>rfl) q8 (fun i τ x p j hi=> ?_),h.sub,fun b1 jD=>by rw[size_setRow];exact h.yi b1 jD,fun b1 jD rQ=> ?_,by rw[size_setRow];exact h.size,h.pU,h.os,h.tape,h.output⟩,hk,⟨fun i e1 hi=> ?_,fun i hi=>rfl⟩⟩
 ·by_cases bo:i=id
  ·subst bo;rw[ak]at hi;cases hi;exact Kw M hk XM
  ·rw[al _ _ bo]at hi
   exact(h.iJ i e1 hi).bB hk fun oe b1 jD=>⟨setRow_other w b b1 new (fun e'=>h.uS i id e1 e b1 bo hi oe aQ hm jD (e'▸hb)),(h.iJ i e1 hi).sx oe jD⟩
 ·by_cases bo:i=id
  ·subst bo;rw[ak]at hi;cases hi
   have z5:j≠i:=Ne.symm nB
   rw[al _ _ z5]at hj
   exact h.uS i j e e2 b1 nB aQ hm hj tk
  ·rw[al _ _ bo]at hi
   by_cases z5:j=id
   ·subst z5;exact h.uS i j e1 e b1 nB hi oe aQ hm
   ·rw[al _ _ z5]at hj;exact h.uS i j e1 e2 b1 nB hi oe hj tk
 ·by_cases bo:i=id
  ·subst bo;exact h.new i e b1 aQ hm
  ·rw[al _ _ bo]at hi;exact h.new i e1 b1 hi oe
 ·by_cases bo:i=id
  ·subst bo;rw[ak]at hi;cases hi
   cases e with
   |own e0 l0=>exact h.s9 i e0 l0 b1 aQ
   |obj _ _=>simp[aN.g8]at hl
   |dK _ _ _ _=>simp[aN.g8]at hl
   |kg _ _=>simp[aN.mut]at hm
   |gone=>simp[aN.mut]at hm
  ·rw[al _ _ bo]at hi;exact h.s9 i e1 l1 b1 hi
 ·by_cases bo:i=id
  ·subst bo;rw[ak]at hi;cases hi
   obtain⟨h1,h2⟩:=og _ _ _ _ rfl
   exact .inr ⟨q7 h1,h2⟩
  ·rw[al _ _ bo]at hi
   exact .inl ⟨hi,fun b1 jD=>setRow_other w b b1 new (fun e1=>h.uS i id _ e b1 bo hi trivial aQ hm (by rw[jD];rfl) (e1▸hb))⟩
 ·rw[setRow_other w b b1 new]
  ·exact h.frame b1 jD rQ
  ·intro hbb;subst hbb
   rcases h.new id e b1 aQ hm hb with h'|h'
   ·omega
   ·exact rQ h'
 ·by_cases bo:i=id
  ·subst bo;rw[aQ]at hi;cases hi;exact⟨e',ak _ _ _,hl⟩
  ·exact⟨e1,by rw[al _ _ bo];exact hi,.refl e1⟩
theorem Tr.rename{c:Ctx}{H:Nat→Option aN}{w:World}{M:Nat→Prop}{ν:Nat→Value}(h:Mem c H w M ν){j id:Nat}{e e':Ty}{l:List e.den}{l':List e'.den}(hj:H j=some (.own e l))(aQ:H id=none)
  {v:Value} (hb:dX v=none∨dX v=dX (ν j)) (Kw:ER w M v (.own e' l')):
  Tr c H w M ν (bh (bh H j (some .gone)) id (some (.own e' l'))) w M (cg ν id v):=by
 have g7:j≠id:=fun e=>by rw[e,aQ]at hj;cases hj
 have h1:=(Tr.gone h j).mem
 have kX:bh H j (some .gone) id=none:=by rw[al _ _ (Ne.symm g7)];exact aQ
 have hν: ∀i,i≠id→cg ν id v i=ν i:=fun i hi=>by simp[cg,hi]
 have w1:cg ν id v id=v:=by simp[cg]
 refine⟨⟨fun i e1 hi=> ?_,fun i k e1 e2 b1 nB hi oe hk tk=> ?_,fun i e1 b1 hi oe=> ?_,fun i e1 l1 b1 hi=> ?_,mi h1 (fun i hi=>hν i (fun e=>hi (e▸kX))) q8 (fun i τ x p j hi=> .inl ⟨tj (fun _ _ _ _=>by simp) hi,fun _ _=>rfl⟩),h.sub,h.yi,h.frame,h.size,h.pU,h.os,h.tape,h.output⟩,.refl w M,⟨fun i e1 hi=> ?_,fun i hi=> ?_⟩⟩
 ·by_cases bo:i=id
  ·subst bo;rw[ak]at hi;cases hi;rw[w1];exact Kw
  ·rw[al _ _ bo]at hi;rw[hν i bo];exact h1.iJ i e1 hi
 ·by_cases bo:i=id
  ·subst bo;rw[ak]at hi;cases hi;rw[w1]
   have D1:k≠i:=Ne.symm nB
   rw[al _ _ D1]at hk;rw[hν k D1]
   intro jD
   rcases hb with hb|hb
   ·rw[hb]at jD;cases jD
   ·rw[hb]at jD
    by_cases hkj:k=j
    ·subst hkj;rw[ak]at hk;cases hk;simp[aN.mut]at tk
    ·rw[al _ _ hkj]at hk;exact h.uS j k _ e2 b1 (Ne.symm hkj) hj trivial hk tk jD
  ·rw[al _ _ bo]at hi;rw[hν i bo]
   by_cases D1:k=id
   ·subst D1;rw[w1]
    intro jD rQ
    rcases hb with hb|hb
    ·rw[hb]at rQ;cases rQ
    ·rw[hb]at rQ
     by_cases Af:i=j
     ·subst Af;rw[ak]at hi;cases hi;simp[aN.mut]at oe
     ·rw[al _ _ Af]at hi;exact h.uS j i _ e1 b1 (Ne.symm Af) hj trivial hi oe rQ jD
   ·rw[al _ _ D1]at hk;rw[hν k D1];exact h1.uS i k e1 e2 b1 nB hi oe hk tk
 ·by_cases bo:i=id
  ·subst bo;rw[w1];intro jD
   rcases hb with hb|hb
   ·rw[hb]at jD;cases jD
   ·rw[hb]at jD;exact h.new j _ b1 hj trivial jD
  ·rw[al _ _ bo]at hi;rw[hν i bo];exact h1.new i e1 b1 hi oe
 ·by_cases bo:i=id
  ·subst bo;rw[w1];intro jD
   rcases hb with hb|hb
   ·rw[hb]at jD;cases jD
   ·rw[hb]at jD;exact h.s9 j e l b1 hj jD
  ·rw[al _ _ bo]at hi;rw[hν i bo];exact h1.s9 i e1 l1 b1 hi
 ·by_cases Af:i=j
  ·subst Af;exact⟨.gone,by rw[al _ _ g7,ak],by cases e1<;>simp[aN.g8]⟩
  ·have bo:i≠id:=fun e=>by rw[e,aQ]at hi;cases hi
   exact⟨e1,by rw[al _ _ bo,al _ _ Af];exact hi,.refl e1⟩
 ·exact hν i (fun e=>hi (e▸aQ))
theorem Tr.acO{c:Ctx}{H:Nat→Option aN}{w:World}{M:Nat→Prop}{ν:Nat→Value}(h:Mem c H w M ν){id:Nat}{e e':aN}(aQ:H id=some e)(hm:e.mut)(gy:e'.mut)(hl:e.g8 e')(pZ: ∀e0 l0,e'≠ .own e0 l0)
  (Kw:ER w M (ν id) e') (og: ∀τ x p j,e'= .dK τ x p j→H j≠none∧ ∃b',ν id= .pointer (some ⟨b',0,none⟩)∧w.cell? ⟨b',bA p τ,none⟩=some (ν j)):
  Tr c H w M ν (bh H id (some e')) w M ν:=by
 refine⟨⟨fun i e1 hi=> ?_,fun i j e1 e2 b1 nB hi oe hj tk=> ?_,fun i e1 b1 hi oe=> ?_,fun i e1 l1 b1 hi=> ?_,mi h (fun _ _=>rfl) q8 (fun i τ x p j hi=> ?_),h.sub,h.yi,h.frame,h.size,h.pU,h.os,h.tape,h.output⟩,.refl w M,⟨fun i e1 hi=> ?_,fun i hi=>rfl⟩⟩
 ·by_cases bo:i=id
  ·subst bo;rw[ak]at hi;cases hi;exact Kw
  ·rw[al _ _ bo]at hi;exact h.iJ i e1 hi
 ·by_cases bo:i=id
  ·subst bo;rw[ak]at hi;cases hi
   have z5:j≠i:=Ne.symm nB
   rw[al _ _ z5]at hj
   exact h.uS i j e e2 b1 nB aQ hm hj tk
  ·rw[al _ _ bo]at hi
   by_cases z5:j=id
   ·subst z5;exact h.uS i j e1 e b1 nB hi oe aQ hm
   ·rw[al _ _ z5]at hj;exact h.uS i j e1 e2 b1 nB hi oe hj tk
 ·by_cases bo:i=id
  ·subst bo;exact h.new i e b1 aQ hm
  ·rw[al _ _ bo]at hi;exact h.new i e1 b1 hi oe
 ·by_cases bo:i=id
  ·subst bo;rw[ak]at hi;cases hi;exact absurd rfl (pZ _ _)
  ·rw[al _ _ bo]at hi;exact h.s9 i e1 l1 b1 hi
 ·by_cases bo:i=id
  ·subst bo;rw[ak]at hi;cases hi
   obtain⟨h1,h2⟩:=og _ _ _ _ rfl
   exact .inr ⟨q7 h1,h2⟩
  ·rw[al _ _ bo]at hi;exact .inl ⟨hi,fun _ _=>rfl⟩
 ·by_cases bo:i=id
  ·subst bo;rw[aQ]at hi;cases hi;exact⟨e',ak _ _ _,hl⟩
  ·exact⟨e1,by rw[al _ _ bo];exact hi,.refl e1⟩
theorem Tr.nothing{c:Ctx}{w:World}{M:Nat→Prop}{ν:Nat→Value}{H:Nat→Option aN}(h:Mem c H w M ν){id:Nat}(aQ:H id=none)(e:Ty)(ad:Option Addr):
  Tr c H w M ν (bh H id (some (.own e []))) w M (cg ν id (.slice ad 0 0)):=by
 have hν: ∀i,i≠id→cg ν id (.slice ad 0 0) i=ν i:=fun i hi=>by simp[cg,hi]
 have w1:cg ν id (.slice ad 0 0) id= .slice ad 0 0:=by simp[cg]
 have hb:dX (.slice ad 0 0)=none:=by cases ad<;>simp[dX]
 refine⟨⟨fun i e1 hi=> ?_,fun i k e1 e2 b1 nB hi oe hk tk=> ?_,fun i e1 b1 hi oe=> ?_,fun i e1 l1 b1 hi=> ?_,mi h (fun i hi=>hν i (fun e=>hi (e▸aQ))) q8 (fun i τ x p j hi=> .inl ⟨tj (fun _ _ _ _=>by simp) hi,fun _ _=>rfl⟩),h.sub,h.yi,h.frame,h.size,h.pU,h.os,h.tape,h.output⟩,.refl w M,⟨fun i e1 hi=> ?_,fun i hi=>hν i (fun e=>hi (e▸aQ))⟩⟩
 ·by_cases bo:i=id
  ·subst bo;rw[ak]at hi;cases hi;rw[w1];simp only[ER];exact .inl ⟨trivial,ad,rfl⟩
  ·rw[al _ _ bo]at hi;rw[hν i bo];exact h.iJ i e1 hi
 ·by_cases bo:i=id
  ·subst bo;rw[w1,hb];intro h';cases h'
  ·rw[al _ _ bo]at hi;rw[hν i bo]
   by_cases D1:k=id
   ·subst D1;rw[w1,hb];intro _ h';cases h'
   ·rw[al _ _ D1]at hk;rw[hν k D1];exact h.uS i k e1 e2 b1 nB hi oe hk tk
 ·by_cases bo:i=id
  ·subst bo;rw[w1,hb];intro h';cases h'
  ·rw[al _ _ bo]at hi;rw[hν i bo];exact h.new i e1 b1 hi oe
 ·by_cases bo:i=id
  ·subst bo;rw[w1,hb];intro h';cases h'
  ·rw[al _ _ bo]at hi;rw[hν i bo];exact h.s9 i e1 l1 b1 hi
 ·have bo:i≠id:=fun e=>by rw[e,aQ]at hi;cases hi
  exact⟨e1,by rw[al _ _ bo];exact hi,.refl e1⟩
end VM
end
section
namespace VM
open Go
theorem aX{α:Type}{υ τ:Ty}{y:υ.den}{k:τ.den→Option α}{r:α}(h:bW υ τ y k=some r): ∃e:υ=τ,k (e▸y)=some r:=by
 unfold bW at h
 split at h
 ·rename_i e;exact⟨e,h⟩
 ·cases h
theorem dA{α:Type}{υ τ:Ty}{k:Option α}{r:α}(h:jf υ τ k=some r):υ=τ∧k=some r:=by
 unfold jf at h
 split at h
 ·rename_i e;exact⟨e,h⟩
 ·cases h
theorem V.slice{w:World}{M:Nat→Prop}{e:Ty}{v:Value}{l:List e.den}:V w M (.slice e) v l↔Rd w M (.slice e) [v] l:=by
 unfold V;rw[if_neg (by simp[Ty.isAgg])]
def Fz(H H1:Nat→Option aN):Prop:= ∀i,H1 i=H i∨ ∃e l,H i=some (.own e l)∧H1 i=some (.kg e l)
theorem Fz.refl(H:Nat→Option aN):Fz H H:=fun _=> .inl rfl
theorem Fz.none{H H1:Nat→Option aN}(h:Fz H H1){i:Nat}(hi:H i=none):H1 i=none:=by
 rcases h i with h'|⟨e,l,h',_⟩
 ·rw[h',hi]
 ·rw[hi]at h';cases h'
theorem Fz.obj{H H1:Nat→Option aN}(h:Fz H H1){i:Nat}{τ:Ty}{x:τ.den}(hi:H i=some (.obj τ x)):H1 i=some (.obj τ x):=by
 rcases h i with h'|⟨e,l,h',_⟩
 ·rw[h',hi]
 ·rw[hi]at h';cases h'
theorem u6{H:Nat→Option aN}{id:Nat}{e:Option aN}(h:H id=e):bh H id e=H:=by
 funext i
 by_cases hi:i=id
 ·subst hi;rw[ak,h]
 ·rw[al _ _ hi]
theorem jS{α:Type}{c:Ctx}{H H1:Nat→Option aN}{w:World}{M:Nat→Prop}{ν:Nat→Value}(hz:Fz H H1)(hm:Mem c H1 w M ν){a:aV}{v:Value}(hv:VR w M H1 ν a v){τ:Ty}
  {k:τ.den→List Nat→fj→Option α} {r:α} (h:ix true a H τ k=some r):
  ∃y rd ups M',k y rd ups=some r∧Tr c H1 w M ν (bP H1 ups) w M' ν∧V w M' τ v y∧Fz H (bP H1 ups)∧ ∀i,rd.contains i=false→bP H1 ups i=H1 i:=by
 unfold ix at h
 split at h
 ·
  obtain⟨e,h⟩:=aX h
  subst e
  simp only[VR]at hv
  exact⟨_,[],[],M,h,.refl hm,hv,hz,fun _ _=>rfl⟩
 ·
  obtain⟨e,h⟩:=aX h
  subst e
  simp only[VR]at hv
  exact⟨_,[],[],M,h,.refl hm,hv.1,hz,fun _ _=>rfl⟩
 ·
  split at h
  ·rename_i e k' _
   simp only[VR]at hv
   obtain⟨a,rfl⟩:=hv
   refine⟨[],[],[],M,h,.refl hm,V.slice.2 ?_,hz,fun _ _=>rfl⟩
   simp only[Rd]
   exact⟨a,0,rfl,Nat.le_refl _,fun i hi=>absurd hi (by simp)⟩
  ·cases h
 ·rename_i id
  simp only[VR]at hv
  obtain⟨_,rfl⟩:=hv
  split at h
  ·rename_i e l aQ
   obtain⟨e',h⟩:=aX h
   subst e'
   rcases hz id with h1|⟨e1,l1,h1,h2⟩
   ·rw[aQ]at h1
    obtain⟨M',eL,hV,_⟩:=Tr.freeze hm h1
    refine⟨_,_,_,M',h,eL,hV,fun i=> ?_,fun i hi=>al _ _ (by simpa using hi)⟩
    show bh H1 id (some (.kg e l)) i=H i∨_
    by_cases hi:i=id
    ·subst hi;exact .inr ⟨e,l,aQ,ak _ _ _⟩
    ·rw[al _ _ hi]
     rcases hz i with h'|⟨e2,l2,h2,h3⟩
     ·exact .inl h'
     ·exact .inr ⟨e2,l2,h2,by show bh H1 id _ i=_;rw[al _ _ hi];exact h3⟩
   ·rw[aQ]at h1;cases h1
    have:=hm.iJ id _ h2
    simp only[ER]at this
    refine⟨_,_,[(id,some (.kg e l))],M,h,?_,V.slice.2 this.1,?_,fun i hi=>al _ _ (by simpa using hi)⟩
    ·show Tr c H1 w M ν (bh H1 id (some (.kg e l))) w M ν
     rw[u6 h2];exact .refl hm
    ·show Fz H (bh H1 id (some (.kg e l)))
     rw[u6 h2];exact hz
  ·rename_i e l aQ
   obtain⟨e',h⟩:=aX h
   subst e'
   have h1:H1 id=some (.kg e l):=by
    rcases hz id with h1|⟨e1,l1,h1,h2⟩
    ·rw[h1,aQ]
    ·rw[aQ]at h1;cases h1
   have:=hm.iJ id _ h1
   simp only[ER]at this
   exact⟨_,_,_,M,h,.refl hm,V.slice.2 this.1,hz,fun _ _=>rfl⟩
  ·cases h
 ·cases h
def Src(w:World)(M:Nat→Prop)(e:Ty)(v:Value)(l:List e.den):Prop:=
 ∃a cap,v= .slice a l.length cap∧ ∀i (h:i<l.length),∃b off cs,a=some ⟨b,off,none⟩∧At w b (off+i*e.size) cs∧Rd w M e cs l[i]
theorem Src.Qb{w:World}{M:Nat→Prop}{e:Ty}{v:Value}{l:List e.den}(h:V w M (.slice e) v l):Src w M e v l:=by
 have h:=V.slice.1 h
 simp only[Rd,List.cons.injEq,and_true]at h
 obtain⟨a,cap,rfl,_,hr⟩:=h
 refine⟨a,cap,rfl,fun i hi=> ?_⟩
 obtain⟨b,off,ha,_,_,cs,ly,gO⟩:=hr i hi
 exact⟨b,off,cs,ha,ly,gO⟩
theorem vU{α:Type}{c:Ctx}{H:Nat→Option aN}{w:World}{M:Nat→Prop}{ν:Nat→Value}(hm:Mem c H w M ν){a:aV}{v:Value}(hv:VR w M H ν a v){e:Ty}
  {k:List e.den→List Nat→fj→Option α} {r:α} (h:ix false a H (.slice e) k=some r):
  ∃y rd,k y rd []=some r∧Src w M e v y:=by
 unfold ix at h
 split at h
 ·obtain⟨e',h⟩:=aX h
  subst e'
  simp only[VR]at hv
  exact⟨_,[],h,.Qb hv⟩
 ·obtain⟨e',h⟩:=aX h
  subst e'
  simp only[VR]at hv
  exact⟨_,[],h,.Qb hv.1⟩
 ·have h:k [] [] []=some r:=h
  simp only[VR]at hv
  obtain⟨a,rfl⟩:=hv
  exact⟨[],[],h,a,0,rfl,fun i hi=>absurd hi (by simp)⟩
 ·rename_i id
  simp only[VR]at hv
  obtain⟨_,rfl⟩:=hv
  split at h
  ·rename_i e1 l aQ
   obtain⟨e',h⟩:=aX h
   cases e'
   refine⟨_,_,h,?_⟩
   have:=hm.iJ id _ aQ
   simp only[ER]at this
   rcases this with⟨rfl,a,hv⟩|⟨b,cs,t,cap,hv,hb,hM,hc,hl,AW,hs,hr⟩
   ·exact⟨a,0,hv,fun i hi=>absurd hi (by simp)⟩
   ·refine⟨_,cap,hv,fun i hi=>⟨b,0,_,rfl,?_,hr i hi⟩⟩
    rw[Nat.zero_add]
    exact At.of_block hb _ _
  ·rename_i e1 l aQ
   obtain⟨e',h⟩:=aX h
   cases e'
   have:=hm.iJ id _ aQ
   simp only[ER]at this
   exact⟨_,_,h,.Qb (V.slice.2 this.1)⟩
  ·cases h
 ·cases h
theorem Src.cells{w:World}{M:Nat→Prop}{e:Ty}{v:Value}{l:List e.den}(h:Src w M e v l)(g7:l≠[]):
  ∃b off cap news,v= .slice (some ⟨b,off,none⟩) l.length cap∧news.length=l.length*e.size∧At w b off news∧
   (∀i (hi:i<l.length),Rd w M e ((news.drop (i*e.size)).take e.size) l[i])∧ ∀u∈news,u.oneCell'=true:=by
 obtain⟨a,cap,rfl,hr⟩:=h
 have h0:0<l.length:=List.length_pos_iff.2 g7
 obtain⟨b,off,_,ha,_⟩:=hr 0 h0
 subst ha
 have key: ∀n,n≤l.length→ ∃news:List Value,news.length=n*e.size∧At w b off news∧
   (∀i (hi:i<l.length),i<n→Rd w M e ((news.drop (i*e.size)).take e.size) l[i])∧ ∀u∈news,u.oneCell'=true:=by
  intro n
  induction n with
  |zero=>exact fun _=>⟨[],by simp,fun j v hj=>by simp at hj,fun i _ hi=>by omega,by simp⟩
  |succ n ih=>
   intro hn
   obtain⟨news,hl,ly,gO,XN⟩:=ih (by omega)
   obtain⟨b',apR,cs,ha,aiR,Kx⟩:=hr n (by omega)
   cases ha
   refine⟨news++cs,by rw[List.length_append,hl,Kx.length,Nat.add_mul,Nat.one_mul],At.append.2 ⟨ly,by rw[hl];exact aiR⟩,fun i hi ky=> ?_,fun u hu=> ?_⟩
   ·by_cases dz:i<n
    ·have h1:(i+1)*e.size≤n*e.size:=Nat.mul_le_mul_right _ dz
     rw[Nat.add_mul,Nat.one_mul]at h1
     rw[List.drop_append_of_le_length (by omega),List.take_append_of_le_length (by rw[List.length_drop];omega)]
     exact gO i hi dz
    ·obtain rfl:i=n:=by omega
     rw[List.drop_left' hl,List.take_of_length_le (by rw[Kx.length];exact Nat.le_refl _)]
     exact Kx
   ·rcases List.mem_append.1 hu with hu|hu
    ·exact XN u hu
    ·exact Kx.ki u hu
 obtain⟨news,hl,ly,gO,XN⟩:=key l.length (Nat.le_refl _)
 exact⟨b,off,cap,news,rfl,hl,ly,fun i hi=>gO i hi hi,XN⟩
structure Core(c:Ctx)(σ:St)(tm:Array Value)(w:World)(M:Nat→Prop)(ν:Nat→Value):Prop where
 mem:Mem c σ.H w M ν
 tmp: ∀i,VR w M σ.H ν (σ.T i) (tm.getD i undef)
theorem Ky(w:World)(M:Nat→Prop)(H:Nat→Option aN)(ν:Nat→Value)(v:Value):VR w M H ν (cvA v) v:=by
 unfold cvA
 split<;>simp[VR,V,Ty.isAgg,Rd]
theorem Core.op{c:Ctx}{σ:St}{tm:Array Value}{w:World}{M:Nat→Prop}{ν:Nat→Value}(h:Core c σ tm w M ν)(ds:List Deferred)(x:Operand):
  VR w M σ.H ν (σ.ρ x) (({tmps:=tm,defers:=ds}:Act).eval x):=by
 cases x with
 |tmp t=>exact h.tmp t
 |const v=>exact Ky w M σ.H ν v
 |global g=>simp[St.ρ,VR]
 |func f=>simp[St.ρ,VR,fC,Act.eval]
def acP(P:Program)(t:TypeId)(τ:Ty):Prop:=
 ∀(w:World) (M:Nat→Prop) (u v:Value) (x y:τ.den) (b:BinOp) (xo yo:Operand),V w M τ u x→V w M τ v y→
  (eqGuard b t xo yo u v).run P w= .ok () w∧(binOp .eql t u v).run P w= .ok (.bool (kV τ x y)) w∧(binOp .neq t u v).run P w= .ok (.bool (!kV τ x y)) w
structure EnvTy(P:Program)(E:Env):Prop where
 ty: ∀t τ,E.ty t=some τ→gu P τ t
 eq: ∀t τ,E.ty t=some τ→τ.comparable=true→τ.isAgg=true→acP P t τ
end VM
end
section
namespace VM
open Go
variable{P:Program}
theorem tp{o:Oper}{ρ:Operand→Value}{t:TypeId}{i:TypeInfo}{z:Value}(ho:o.op= .alloc t)(hi:P.info? t=some i)(hz:i.zero=some z)(w:World):
  (execOp ρ o).run P w= .ok (.value (.pointer (some ⟨w.heap.size,0,none⟩))) (w.alloc (.cells z.cells t)):=by
 simp[execOp,ho,Instr.alloc,zeroValue,typeInfo,hi,hz,newVar,newRow]
theorem yk{o:Oper}{ρ:Operand→Value}{t:TypeId}{x:Operand}(ho:o.op= .box t x)(w:World):
  (execOp ρ o).run P w= .ok (.value (.pointer (some ⟨w.heap.size,0,none⟩))) (w.alloc (.cells (ρ x).cells t)):=by
 simp[execOp,ho,Instr.box,newVar,newRow]
theorem oh{τ:Ty}{t:TypeId}(h:gu P τ t)(w:World):(isAgg t).run P w= .ok τ.isAgg w:=by
 unfold gu at h
 cases τ<;>simp only[dw]at h
 ·simp[isAgg,run_underlying h.2,Ty.isAgg]
 ·simp[isAgg,run_underlying h.2,Ty.isAgg]
 ·simp[isAgg,run_underlying h.2,Ty.isAgg]
 ·obtain⟨_,e',h',_⟩:=h;simp[isAgg,run_underlying h',Ty.isAgg]
 ·obtain⟨_,e',h',_⟩:=h;simp[isAgg,run_underlying h',Ty.isAgg]
 ·obtain⟨_,e',f,h',_⟩:=h;simp[isAgg,run_underlying h',Ty.isAgg]
 ·obtain⟨_,e',h',_⟩:=h;simp[isAgg,run_underlying h',Ty.isAgg]
theorem bX{τ:Ty}{t:TypeId}(h:gu P τ t)(w:World):(Go.sizeOf t).run P w= .ok τ.size w:=by
 obtain⟨i,hi,hs,_⟩:=h.base
 simp[Go.sizeOf,typeInfo,hi,hs]
theorem vV{w:World}{M:Nat→Prop}{τ:Ty}{t:TypeId}(h:gu P τ t){b off:Nat}{cs:List Value}{x:τ.den}(ha:At w b off cs)(hr:Rd w M τ cs x):
  (loadVar t ⟨b,off,none⟩).run P w= .ok (bE τ cs) w:=by
 have hl:(loadCells ⟨b,off,none⟩ τ.size).run P w= .ok cs.toArray w:=by
  rw[←hr.length]
  exact run_loadCells_list w _ cs fun j v hj=>by rw[show(⟨b,off,none⟩:Addr).add j=⟨b,off+j,none⟩from by unfold Addr.add;split<;>simp_all];exact ha j v hj
 unfold bE
 by_cases D2:τ.isAgg=true
 ·simp[loadVar,oh h,D2,bX h,hl]
 ·obtain⟨v,rfl,hc⟩:=hr.scalar (by simpa using D2)
  have h0:=ha 0 v rfl
  simp only[Nat.add_zero]at h0
  simp[loadVar,oh h,D2,load,Sem.run,h0]
theorem qd{o:Oper}{ρ:Operand→Value}{t:TypeId}{x:Operand}(ho:o.op= .load t x){w:World}{M:Nat→Prop}{τ:Ty}(h:gu P τ t){b off:Nat}{cs:List Value}{y:τ.den}
  (hx:ρ x= .pointer (some ⟨b,off,none⟩)) (ha:At w b off cs) (hr:Rd w M τ cs y):
  (execOp ρ o).run P w= .ok (.value (bE τ cs)) w:=by
 simp[execOp,ho,hx,Instr.loadAt,Instr.sureAddr,vV h ha hr]
theorem jh{o:Oper}{ρ:Operand→Value}{t:TypeId}{x y:Operand}(ho:o.op= .store t x y){w:World}{τ:Ty}(h:gu P τ t){b off:Nat}{cur:Array Value}{te:TypeId}
  (hx:ρ x= .pointer (some ⟨b,off,none⟩)) (hg:w.heap[b]? =some (.cells cur te (0,0))) (hs:(ρ y).cells.size=τ.size) (hf:off+τ.size≤cur.size) (h1: ∀v∈(ρ y).cells.toList,v.oneCell'=true):
  (execOp ρ o).run P w= .ok .skip (w.setRow b (cur.toList.take off++(ρ y).cells.toList++cur.toList.drop (off+(ρ y).cells.toList.length)).toArray):=by
 have Hi:=run_storeCells_at (P:=P) b off te (ρ y).cells.toList 0 cur w hg (by simp[hs];omega) h1
 simp only[Nat.add_zero]at Hi
 simp[execOp,ho,hx,Instr.storeAt,Instr.sureAddr,storeVar,bX h,hs,Hi]
theorem oi{o:Oper}{ρ:Operand→Value}{t:TypeId}{x:Operand}{n:Nat}(ho:o.op= .fieldAddr t x n){w:World}{fs:Array Field}{f:Field}{b off:Nat}{υ:Ty}
  (hu:P.underlying t=some (.struct fs)) (hf:fs[n]? =some f) (hl:gu P υ f.type) (hz:υ.size≠0) (hx:ρ x= .pointer (some ⟨b,off,none⟩)):
  ∃a,(execOp ρ o).run P w= .ok (.value a) w∧a= .pointer (some ⟨b,off+f.offset,none⟩):=by
 refine⟨_,?_,rfl⟩
 simp[execOp,ho,hx,Instr.fieldAt,Instr.sureAddr,run_underlying hu,hf,fieldPlace,Addr.add_lit,bX hl,hz]
theorem tq{τ:Ty}{t:TypeId}(h:gu P τ t){w:World}{M:Nat→Prop}{cs:Array Value}{off:Nat}{x:τ.den}(hr:Rd w M τ ((cs.toList.drop off).take τ.size) x):
  (part t cs off).run P w= .ok (bE τ ((cs.toList.drop off).take τ.size)) w:=by
 have hl:=hr.length
 unfold bE
 by_cases D2:τ.isAgg=true
 ·simp only[part,Sem.run_bind,oh h,Result.andThen_ok,D2,if_true,bX h]
  simp
  rw[List.length_take,List.length_drop,Array.length_toList]at hl
  apply Array.ext'
  simp only[Array.toList_extract,List.extract_eq_take_drop,Nat.add_sub_cancel_left]
 ·obtain⟨v,hv,hc⟩:=hr.scalar (by simpa using D2)
  rw[hv]
  have h0:cs[off]? =some v:=by
   have:=congrArg (fun l=>l[0]?) hv
   simp only[List.getElem?_take,List.getElem?_drop]at this
   split at this
   ·simpa using this
   ·simp at this
  simp[part,oh h,D2,h0]
theorem Cd{o:Oper}{ρ:Operand→Value}{t:TypeId}{x:Operand}{n:Nat}(ho:o.op= .field t x n){w:World}{M:Nat→Prop}{fs:Array Field}{f:Field}{cs:Array Value}{υ:Ty}{y:υ.den}
  (hu:P.underlying t=some (.struct fs)) (hf:fs[n]? =some f) (hl:gu P υ f.type) (hx:ρ x= .agg cs) (hr:Rd w M υ ((cs.toList.drop f.offset).take υ.size) y):
  (execOp ρ o).run P w= .ok (.value (bE υ ((cs.toList.drop f.offset).take υ.size))) w:=by
 simp[execOp,ho,hx,Instr.field,run_underlying hu,hf,asAgg,tq hl hr]
theorem gS{o:Oper}{ρ:Operand→Value}{t e:TypeId}{x i:Operand}(ho:o.op= .indexAddr t x i){w:World}{τe:Ty}{b off len cap:Nat}{k:IntKind}{n:Int}
  (hu:P.underlying t=some (.slice e)) (he:gu P τe e) (hx:ρ x= .slice (some ⟨b,off,none⟩) len cap) (hi:ρ i= .int k n) (h0:0≤n) (h1:n<(len:Int)):
  (execOp ρ o).run P w= .ok (.value (.pointer (some ⟨b,off+n.toNat*τe.size,none⟩))) w:=by
 simp[execOp,ho,hx,hi,Instr.indexAt,asIntOf,run_underlying hu,h0,h1,bX he,Addr.add_lit]
theorem nC{o:Oper}{ρ:Operand→Value}{t e:TypeId}{x i:Operand}(ho:o.op= .indexAddr t x i){w:World}{τe:Ty}{b off len:Nat}{k:IntKind}{n:Int}
  (hu:P.underlying t=some (.array len e)) (he:gu P τe e) (hx:ρ x= .pointer (some ⟨b,off,none⟩)) (hi:ρ i= .int k n) (h0:0≤n) (h1:n<(len:Int)):
  (execOp ρ o).run P w= .ok (.value (.pointer (some ⟨b,off+n.toNat*τe.size,none⟩))) w:=by
 simp[execOp,ho,hx,hi,Instr.indexAt,Instr.sureAddr,asIntOf,run_underlying hu,h0,h1,bX he,Addr.add_lit]
theorem Ah{o:Oper}{ρ:Operand→Value}{t e:TypeId}{x i:Operand}(ho:o.op= .index t x i){w:World}{M:Nat→Prop}{τe:Ty}{len:Nat}{k:IntKind}{n:Int}{cs:Array Value}{y:τe.den}
  (hu:P.underlying t=some (.array len e)) (he:gu P τe e) (hx:ρ x= .agg cs) (hi:ρ i= .int k n) (h0:0≤n) (h1:n<(len:Int)) (hr:Rd w M τe ((cs.toList.drop (n.toNat*τe.size)).take τe.size) y):
  (execOp ρ o).run P w= .ok (.value (bE τe ((cs.toList.drop (n.toNat*τe.size)).take τe.size))) w:=by
 simp[execOp,ho,hx,hi,Instr.index,asIntOf,run_underlying hu,h0,h1,bX he,tq he hr]
theorem yl{o:Oper}{ρ:Operand→Value}{x:Operand}{n:Nat}(ho:o.op= .extract x n){w:World}{us:List Value}{v:Value}(hx:ρ x= .tuple us.toArray)(hv:us[n]? =some v):
  (execOp ρ o).run P w= .ok (.value v) w:=by
 simp[execOp,ho,hx,Instr.extract,hv]
theorem D3{o:Oper}{ρ:Operand→Value}{x y z:Operand}(ho:o.op= .pick x y z){w:World}{b:Bool}(hx:ρ x= .bool b):
  (execOp ρ o).run P w= .ok (.value (if b then ρ y else ρ z)) w:=by
 simp[execOp,ho,hx,asBool]
theorem pH{o:Oper}{ρ:Operand→Value}{x:Operand}(ho:o.op= .nilCheck x){w:World}{a:Addr}(hx:ρ x= .pointer (some a)):
  (execOp ρ o).run P w= .ok (.value (.pointer (some a))) w:=by
 simp[execOp,ho,hx]
theorem w3{o:Oper}{ρ:Operand→Value}{f:FuncId}{first caps:Array Operand}(ho:o.op= .makeFunc (.func f) first caps)(hf:first= #[]){w:World}:
  (execOp ρ o).run P w= .ok (.value (.func (.func f) #[] (caps.map ρ))) w:=by
 subst hf
 simp[execOp,ho,Instr.makeFunc]
theorem ym{o:Oper}{ρ:Operand→Value}{s d:TypeId}{x:Operand}(ho:o.op= .convert s d x){w:World}{k k':IntKind}{n:Int}(hs:(P.underlying s).isSome=true)(hd:P.underlying d=some (.int k))(hx:ρ x= .int k' n):
  (execOp ρ o).run P w= .ok (.value (.int k (k.wrap n))) w:=by
 obtain⟨ds,hs⟩:=Option.isSome_iff_exists.1 hs
 simp[execOp,ho,hx,convert,run_underlying hs,run_underlying hd,Conv.intToInt]
theorem qf{o:Oper}{ρ:Operand→Value}{u:UnOp}{t:TypeId}{x:Operand}(ho:o.op= .unOp u t x){w:World}{v:Value}(h:(Op.unary u (ρ x)).run P w= .ok v w):
  (execOp ρ o).run P w= .ok (.value v) w:=by
 simp[execOp,ho,h]
theorem lz{o:Oper}{ρ:Operand→Value}{b:BinOp}{t t':TypeId}{x y:Operand}(ho:o.op= .binOp b t x y t'){w:World}{v:Value}
  (hg:(eqGuard b t x y (ρ x) (ρ y)).run P w= .ok () w) (h:(binOp b t (ρ x) (ρ y)).run P w= .ok v w):
  (execOp ρ o).run P w= .ok (.value v) w:=by
 simp[execOp,ho,hg,h]
theorem kY{b:BinOp}{t:TypeId}{x y:Operand}{k k':IntKind}{m n:Int}(w:World):(eqGuard b t x y (.int k m) (.int k' n)).run P w= .ok () w:=by
 cases b<;>simp[eqGuard]
theorem u7{b:BinOp}{t:TypeId}{x y:Operand}{m n:Bool}(w:World):(eqGuard b t x y (.bool m) (.bool n)).run P w= .ok () w:=by
 cases b<;>simp[eqGuard]
theorem w4{b:BinOp}{t:TypeId}{x y:Operand}{m n:ByteArray}(w:World):(eqGuard b t x y (.string m) (.string n)).run P w= .ok () w:=by
 cases b<;>simp[eqGuard]
theorem mj{o:Oper}{ρ:Operand→Value}{b:Builtin}{args:Array Operand}{ts:Array TypeId}(ho:o.op= .call {callee:= .builtin b,args,argTypes:=ts}){w:World}:
  ∃cs,(execOp ρ o).run P w=(builtin b ts o.type cs (args.map ρ)).run P w:=by
 refine⟨args.map fun| .const _=>true|_=>false,?_⟩
 simp[execOp,ho,resolve,invoke]
 rfl
end VM
end
section
namespace VM
open Go
theorem nD{α:Type}{r:α}: ∀{τ:Ty} {x:τ.den} {n:Nat} {m:(υ:Ty)→υ.den→(υ.den→Option α)→Option α} {k:τ.den→Option α},je τ x n m k=some r→
  ∃υ y o k',wY τ x n υ y o∧m υ y k'=some r∧ ∀z r',k' z=some r'→ ∃x',k x'=some r'∧wY τ x' n υ z o∧
   ∀(w:World) (M:Nat→Prop) cs cs',Rd w M τ cs x→Rd w M υ cs' z→Rd w M τ (df cs o cs') x'
 | .pair a b,x,0,m,k,h=>by
  refine⟨a,x.1,0,_,.here x,h,fun z r' hz=>⟨(z,x.2),hz,.here (a:=a) (b:=b) (z,x.2),fun w M cs cs' hr eg=> ?_⟩⟩
  simp only[Rd]at hr ⊢
  obtain⟨c1,c2,rfl,h1,h2⟩:=hr
  refine⟨cs',c2,?_,eg,h2⟩
  rw[ti (by rw[eg.length,h1.length];omega)]
  congr 1
  unfold df
  rw[Nat.zero_add,eg.length,←h1.length];simp
 | .pair a b,x,n+1,m,k,h=>by
  obtain⟨υ,y,o,k',hf,hm,hk⟩:=nD (τ:=b) (x:=x.2) (n:=n) (m:=m) (k:=fun z=>k (x.1,z)) h
  refine⟨υ,y,_,k',.there x hf,hm,fun z r' hz=> ?_⟩
  obtain⟨x',oH,wZ,gO⟩:=hk z r' hz
  refine⟨(x.1,x'),oH,.there (a:=a) (b:=b) (x.1,x') wZ,fun w M cs cs' hr eg=> ?_⟩
  simp only[Rd]at hr ⊢
  obtain⟨c1,c2,rfl,h1,h2⟩:=hr
  refine⟨c1,_,?_,h1,gO w M c2 cs' h2 eg⟩
  rw[←h1.length,q6]
 | .int _,_,_,_,_,h| .bool,_,_,_,_,h| .str,_,_,_,_,h| .slice _,_,_,_,_,h| .unit,_,_,_,_,h| .arr _ _,_,_,_,_,h=>by simp[je]at h
def mm(w:World)(M:Nat→Prop)(e:Ty)(cs:List Value)(l:List e.den):Prop:=
 ∀i (h:i<l.length),Rd w M e ((cs.drop (i*e.size)).take e.size) l[i]
theorem cO{i n s:Nat}(h:i<n):i*s+s≤n*s:=by
 have:(i+1)*s≤n*s:=Nat.mul_le_mul_right _ h
 rw[Nat.add_mul,Nat.one_mul]at this;exact this
theorem mm.set{w:World}{M:Nat→Prop}{e:Ty}{cs:List Value}{l:List e.den}(h:mm w M e cs l)(hl:l.length*e.size≤cs.length){i:Nat}(hi:i<l.length){cs':List Value}{y:e.den}(hr:Rd w M e cs' y):
  mm w M e (df cs (i*e.size) cs') (l.set i y):=by
 have hlen:=hr.length
 intro j hj
 rw[List.length_set]at hj
 have h1:=cO (s:=e.size) hi
 have h2:=cO (s:=e.size) hj
 by_cases nB:j=i
 ·subst nB
  have:=XL (a:=cs) (o:=j*e.size) (new:=cs') (by omega)
  rw[hlen]at this
  rw[this,List.getElem_set_self];exact hr
 ·rw[Cb (by
   rcases Nat.lt_or_gt_of_ne nB with dz|dz
   ·have:=cO (s:=e.size) dz;left;omega
   ·have:=cO (s:=e.size) dz;right;omega) (by omega),List.getElem_set_ne (Ne.symm nB)]
  exact h j hj
theorem mm.append{w:World}{M:Nat→Prop}{e:Ty}{c1 c2:List Value}{l1 l2:List e.den}(h1:mm w M e c1 l1)(hl:c1.length=l1.length*e.size)(h2:mm w M e c2 l2):mm w M e (c1++c2) (l1++l2):=by
 intro i hi
 by_cases dz:i<l1.length
 ·have:=cO (s:=e.size) dz
  rw[List.drop_append_of_le_length (by omega),List.take_append_of_le_length (by rw[List.length_drop];omega),List.getElem_append_left dz]
  exact h1 i dz
 ·rw[List.length_append]at hi
  obtain⟨k,rfl⟩: ∃k,i=l1.length+k:=⟨i-l1.length,by omega⟩
  rw[Nat.add_mul,←hl,←List.drop_drop,List.drop_left' rfl,List.getElem_append_right (by omega)]
  simp only[Nat.add_sub_cancel_left]
  exact h2 k (by omega)
theorem mm.take{w:World}{M:Nat→Prop}{e:Ty}{cs:List Value}{l:List e.den}(h:mm w M e cs l){n:Nat}(hn:l.length*e.size≤n):mm w M e (cs.take n) l:=by
 intro i hi
 have:=cO (s:=e.size) hi
 rw[List.drop_take,List.take_take,Nat.min_eq_left (by omega)]
 exact h i hi
theorem mm.more{w:World}{M:Nat→Prop}{e:Ty}{cs cs':List Value}{l:List e.den}(h:mm w M e cs l)(hl:l.length*e.size≤cs.length):mm w M e (cs++cs') l:=by
 intro i hi
 have:=cO (s:=e.size) hi
 rw[List.drop_append_of_le_length (by omega),List.take_append_of_le_length (by rw[List.length_drop];omega)]
 exact h i hi
theorem mm.bB{w w':World}{M M':Nat→Prop}(k:dd w M w' M'){e:Ty}{cs:List Value}{l:List e.den}(h:mm w M e cs l):mm w' M' e cs l:=fun i hi=>(h i hi).bB k
theorem Rd.arr{w:World}{M:Nat→Prop}{n:Nat}{e:Ty}{cs:List Value}{x:(Ty.arr n e).den}:Rd w M (.arr n e) cs x↔List.length x=n∧cs.length=n*e.size∧mm w M e cs x:=by
 constructor
 ·intro h
  have hl:=h.length
  have h':=h
  simp only[Rd]at h'
  refine⟨h'.1,hl,fun i hi=> ?_⟩
  have:=h.idx (i:=i) (by omega)
  rw[gv x i e.zero hi]at this
  exact this
 ·rintro⟨hn,hl,hr⟩
  simp only[Rd]
  refine⟨hn,(List.range n).map fun i=>(cs.drop (i*e.size)).take e.size,by simp,?_,fun i hi iA=> ?_⟩
  ·
   have key: ∀m (l:List Value),l.length=m*e.size→l=((List.range m).map fun i=>(l.drop (i*e.size)).take e.size).flatten:=by
    intro m
    induction m with
    |zero=>intro l hl;simpa using hl
    |succ m ih=>
     intro l hl
     have h1:(l.take (m*e.size)).length=m*e.size:=by rw[List.length_take,hl,Nat.add_mul];omega
     have h2:=ih (l.take (m*e.size)) h1
     rw[List.range_succ,List.map_append,List.flatten_append]
     have h3:((List.range m).map fun i=>(l.drop (i*e.size)).take e.size)=(List.range m).map fun i=>((l.take (m*e.size)).drop (i*e.size)).take e.size:=by
      apply List.map_congr_left
      intro i hi
      have:=cO (s:=e.size) (List.mem_range.1 hi)
      rw[List.drop_take,List.take_take,Nat.min_eq_left (by omega)]
     rw[h3,←h2]
     simp only[List.map_cons,List.map_nil,List.flatten_cons,List.flatten_nil,List.append_nil]
     rw[List.take_of_length_le (l:=l.drop (m*e.size)) (by rw[List.length_drop,hl,Nat.add_mul];omega),List.take_append_drop]
   exact key n cs hl
  ·simp only[List.getElem_map,List.getElem_range]
   exact hr i hi
theorem kz{α:Type}{r:α}{υ:Ty}{y:υ.den}: ∀{p:List Step} {τ:Ty} {x:τ.den} {k:τ.den→Option α},pQ υ y p τ x k=some r→
  ∃z,k z=some r∧Ad p τ=υ∧(rO p τ→bA p τ+υ.size≤τ.size)∧ ∀(w:World) (M:Nat→Prop) cs cs',rO p τ→Rd w M τ cs x→Rd w M υ cs' y→Rd w M τ (df cs (bA p τ) cs') z
 |[],τ,x,k,h=>by
  obtain⟨e,h⟩:=aX (h:bW υ τ y k=some r)
  subst e
  refine⟨y,h,rfl,fun _=>by simp[bA],fun w M cs cs' _ hr eg=> ?_⟩
  unfold df
  rw[show bA [] υ=0 from rfl,Nat.zero_add,eg.length,←hr.length]
  simpa using eg
 | .gp n::p,τ,x,k,h=>by
  obtain⟨υ',y',o,k',hf,hm,hk⟩:=nD (h:je τ x n _ k=some r)
  obtain⟨z',z6,ht,z7,gO⟩:=kz (p:=p) (τ:=υ') (x:=y') (k:=k') hm
  obtain⟨x',oH,wZ,Kx⟩:=hk z' r z6
  obtain⟨h1,h2⟩:=hf.eq
  subst h1 h2
  refine⟨x',oH,ht,fun hi=>by have:=hf.bound;have:=z7 hi;simp only[bA];omega,fun w M cs cs' hi hr eg=> ?_⟩
  have z7:=z7 hi
  have h3:=gO w M _ cs' hi (hf.rd hr) eg
  have h4:=Kx w M cs _ hr h3
  have hb:=hf.bound
  have Qc:=hr.length
  have hl2:=eg.length
  have PI:=h3.length
  have ky:bA p (pT τ n)+cs'.length≤((cs.drop (ni τ n)).take (pT τ n).size).length:=by
   rw[List.length_take,List.length_drop];omega
  have:df cs (ni τ n) (df ((cs.drop (ni τ n)).take (pT τ n).size) (bA p (pT τ n)) cs')=df cs (ni τ n+bA p (pT τ n)) cs':=by
   have e1:cs=cs.take (ni τ n)++(((cs.drop (ni τ n)).take (pT τ n).size)++cs.drop (ni τ n+(pT τ n).size)):=by
    rw[←List.drop_drop,List.take_append_drop,List.take_append_drop]
   have dz:(cs.take (ni τ n)).length=ni τ n:=by rw[List.length_take];omega
   conv=>rhs;rw[e1]
   rw[show ni τ n+bA p (pT τ n)=(cs.take (ni τ n)).length+bA p (pT τ n)from by rw[dz],q6,ti ky]
   generalize df ((cs.drop (ni τ n)).take (pT τ n).size) (bA p (pT τ n)) cs'=m at PI ⊢
   unfold df
   rw[PI,List.append_assoc]
  simp only[bA]
  rw[←this]
  exact h4
 | .idx i::p,τ,x,k,h=>by
  cases τ with
  |arr n e=>
   obtain⟨z',z6,ht,z7,gO⟩:=kz (p:=p) (τ:=e) (x:=List.getD x i e.zero) (k:=fun z=>k (List.set x i z)) h
   refine⟨_,z6,ht,fun hi=>by
    obtain⟨⟨n',e',he,ky⟩,iA⟩:=hi
    cases he
    have:=z7 iA
    have hm:=cO (s:=e.size) ky
    simp only[bA,XJ,Ty.size];omega,fun w M cs cs' hi hr eg=> ?_⟩
   obtain⟨⟨n',e',he,ky⟩,iA⟩:=hi
   cases he
   have h3:=gO w M _ cs' iA (hr.idx ky) eg
   obtain⟨hn,Qc,HH⟩:=Rd.arr.1 hr
   have hm:=cO (s:=e.size) ky
   have h4:=HH.set (by rw[Qc,hn];exact Nat.le_refl _) (i:=i) (by omega) h3
   have hl2:=eg.length
   have PI:=h3.length
   have hch:((cs.drop (i*e.size)).take e.size).length=e.size:=by rw[List.length_take,List.length_drop];omega
   have z7:=z7 iA
   have aiS:bA p e+cs'.length≤((cs.drop (i*e.size)).take e.size).length:=by omega
   have:df cs (i*e.size) (df ((cs.drop (i*e.size)).take e.size) (bA p e) cs')=df cs (i*e.size+bA p e) cs':=by
    have e1:cs=cs.take (i*e.size)++(((cs.drop (i*e.size)).take e.size)++cs.drop (i*e.size+e.size)):=by
     rw[←List.drop_drop,List.take_append_drop,List.take_append_drop]
    have dz:(cs.take (i*e.size)).length=i*e.size:=by rw[List.length_take];omega
    conv=>rhs;rw[e1]
    rw[show i*e.size+bA p e=(cs.take (i*e.size)).length+bA p e from by rw[dz],q6,ti aiS]
    generalize df ((cs.drop (i*e.size)).take e.size) (bA p e) cs'=m at PI ⊢
    unfold df
    rw[PI,List.append_assoc]
   simp only[bA,XJ]
   rw[←this]
   refine Rd.arr.2 ⟨by rw[List.length_set];exact hn,?_,h4⟩
   rw[dU (by rw[PI];omega)];exact Qc
  |_=>simp[pQ,xD]at h
end VM
end
