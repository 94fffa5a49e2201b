/- A part of the proof of AwardBest of layer 25: a machine that reads a function of the program as an equation between values. -/
import Derived.Test.YtocmlaipoebfeaaGreatVm0
import Derived.WalkLawsBesides
import Derived.Great.BuildSlice
import Derived.Laws.Tables
set_option linter.all false
section
namespace VM
open Go
structure Ctx where
 B:Nat
 w0:World
 M0:Nat→Prop
 may:Nat→Prop
 arg:Nat→Value
structure Mem(c:Ctx)(H:Nat→Option aR)(w:World)(M:Nat→Prop)(ν:Nat→Value):Prop where
 im: ∀i e,H i=some e→ER w M (ν i) e
 um: ∀i j e e' b,i≠j→H i=some e→e.mut→H j=some e'→e'.mut→dV (ν i)=some b→dV (ν j)≠some b
 new: ∀i e b,H i=some e→e.mut→dV (ν i)=some b→c.B≤b∨c.may b
 sM: ∀i e l b,H i=some (.own e l)→dV (ν i)=some b→ ¬c.M0 b
 dE: ∀i τ x p j,H i=some (.dE τ x p j)→H j≠none∧ ∃b,ν i= .pointer (some ⟨b,0,none⟩)∧w.cell? ⟨b,bA p τ,none⟩=some (ν j)
 sub: ∀b,c.M0 b→M b
 xk: ∀b,M b→b<w.heap.size
 frame: ∀b,b<c.B→ ¬c.may b→w.heap[b]? =c.w0.heap[b]?
 size:c.B≤w.heap.size
 pQ:(∀b,c.M0 b→b<c.B)∧ ∀b,c.may b→ ¬c.M0 b
 os:w.os=c.w0.os
 tape:w.tape=c.w0.tape
 output:w.output=c.w0.output
structure Tr(c:Ctx)(H:Nat→Option aR)(w:World)(M:Nat→Prop)(ν:Nat→Value)(H':Nat→Option aR)(w':World)(M':Nat→Prop)(ν':Nat→Value):Prop where
 mem:Mem c H' w' M' ν'
 br:c4 w M w' M'
 goes:nP H ν H' ν'
theorem aR.gM.trans{a b d:aR}(h:a.gM b)(k:b.gM d):a.gM d:=by
 cases a<;>cases b<;>cases d<;>simp only[aR.gM]at h k ⊢ <;>first
  |exact h.trans k
  |exact⟨h.1.trans k.1,h.2.trans k.2⟩
theorem nP.trans{H H' H'':Nat→Option aR}{ν ν' ν'':Nat→Value}(h:nP H ν H' ν')(k:nP H' ν' H'' ν''):nP H ν H'' ν'':=by
 refine⟨fun i e he=> ?_,fun i hi=> ?_⟩
 ·obtain⟨e',rI,l⟩:=h.im i e he
  obtain⟨e'',agQ,l'⟩:=k.im i e' rI
  exact⟨e'',agQ,l.trans l'⟩
 ·obtain⟨e,he⟩:=Option.ne_none_iff_exists'.1 hi
  obtain⟨e',rI,_⟩:=h.im i e he
  rw[k.head i (by simp[rI]),h.head i hi]
theorem Tr.trans{c:Ctx}{H H' H'':Nat→Option aR}{w w' w'':World}{M M' Ga:Nat→Prop}{ν ν' ν'':Nat→Value}
  (h:Tr c H w M ν H' w' M' ν') (k:Tr c H' w' M' ν' H'' w'' Ga ν''):Tr c H w M ν H'' w'' Ga ν'':=
 ⟨k.mem,h.br.trans k.br,h.goes.trans k.goes⟩
theorem Tr.refl{c:Ctx}{H:Nat→Option aR}{w:World}{M:Nat→Prop}{ν:Nat→Value}(h:Mem c H w M ν):Tr c H w M ν H w M ν:=
 ⟨h,.refl w M,.refl H ν⟩
theorem ak(H:Nat→Option aR)(d:Nat)(v:Option aR):bm H d v d=v:=by simp[bm]
theorem al(H:Nat→Option aR){d i:Nat}(v:Option aR)(h:i≠d):bm H d v i=H i:=by
 have:Nat.beq i d=false:=by rw[←Bool.not_eq_true,Nat.beq_eq];exact h
 simp[bm,this]
def bP(H:Nat→Option aR):e9→(Nat→Option aR)
 |[]=>H
 |u::r=>bP (bm H u.1 u.2) r
theorem GB(ups:e9): ∀σ:St,(σ.pU ups).H=bP σ.H ups:=by
 induction ups with
 |nil=>intro σ;rfl
 |cons u r ih=>intro σ;exact ih _
theorem GC(ups:e9): ∀σ:St,(σ.pU ups).T=σ.T:=by
 induction ups with
 |nil=>intro σ;rfl
 |cons u r ih=>intro σ;exact ih _
theorem dN(a b:e9): ∀H,bP H (a++b)=bP (bP H a) b:=by
 induction a with
 |nil=>intro H;rfl
 |cons u r ih=>intro H;exact ih _
theorem qP{H:Nat→Option aR}{id j:Nat}{v:aR}(h:H j≠none):bm H id (some v) j≠none:=by
 by_cases hj:j=id
 ·subst hj;rw[ak];simp
 ·rw[al _ _ hj];exact h
theorem Bn{H:Nat→Option aR}{w:World}{ν:Nat→Value}(h: ∀i τ x p j,H i=some (.dE τ x p j)→H j≠none∧ ∃b,ν i= .pointer (some ⟨b,0,none⟩)∧w.cell? ⟨b,bA p τ,none⟩=some (ν j)){id:Nat}{v:aR}(hv: ∀τ x p j,v≠ .dE τ x p j):
  ∀i τ x p j,bm H id (some v) i=some (.dE τ x p j)→bm H id (some v) j≠none∧ ∃b,ν i= .pointer (some ⟨b,0,none⟩)∧w.cell? ⟨b,bA p τ,none⟩=some (ν j):=by
 intro i τ x p j hi
 by_cases bn:i=id
 ·subst bn;rw[ak]at hi;cases hi;exact absurd rfl (hv _ _ _ _)
 ·rw[al _ _ bn]at hi
  obtain⟨h1,h2⟩:=h i τ x p j hi
  exact⟨qP h1,h2⟩
theorem Tr.gone{c:Ctx}{H:Nat→Option aR}{w:World}{M:Nat→Prop}{ν:Nat→Value}(h:Mem c H w M ν)(id:Nat):Tr c H w M ν (bm H id (some .gone)) w M ν:=by
 refine⟨⟨fun i e he=> ?_,fun i j e e' b ng hi hm hj gk=> ?_,fun i e b hi hm=> ?_,fun i e l b hi=> ?_,Bn h.dE (fun _ _ _ _=>by simp),h.sub,h.xk,h.frame,h.size,h.pQ,h.os,h.tape,h.output⟩,.refl w M,⟨fun i e he=> ?_,fun _ _=>rfl⟩⟩
 ·by_cases aS:i=id
  ·subst aS;rw[ak]at he;cases he;simp[ER]
  ·rw[al _ _ aS]at he;exact h.im i e he
 ·by_cases aS:i=id
  ·subst aS;rw[ak]at hi;cases hi;simp[aR.mut]at hm
  ·by_cases hjd:j=id
   ·subst hjd;rw[ak]at hj;cases hj;simp[aR.mut]at gk
   ·rw[al _ _ aS]at hi;rw[al _ _ hjd]at hj;exact h.um i j e e' b ng hi hm hj gk
 ·by_cases aS:i=id
  ·subst aS;rw[ak]at hi;cases hi;simp[aR.mut]at hm
  ·rw[al _ _ aS]at hi;exact h.new i e b hi hm
 ·by_cases aS:i=id
  ·subst aS;rw[ak]at hi;cases hi
  ·rw[al _ _ aS]at hi;exact h.sM i e l b hi
 ·by_cases aS:i=id
  ·subst aS;exact⟨.gone,ak _ _ _,by cases e<;>simp[aR.gM]⟩
  ·exact⟨e,by rw[al _ _ aS];exact he,.refl e⟩
theorem cell_of{w:World}{b:Nat}{cs:Array Value}{t:TypeId}{fz:Nat×Nat}(h:w.heap[b]? =some (.cells cs t fz))(o:Nat):w.cell? ⟨b,o,none⟩=cs[o]? :=by
 simp[World.cell?,h]
theorem At.of_block{w:World}{b:Nat}{cs:Array Value}{t:TypeId}{fz:Nat×Nat}(h:w.heap[b]? =some (.cells cs t fz))(o n:Nat):
  At w b o ((cs.toList.drop o).take n):=by
 intro j v hj
 rw[cell_of h]
 rw[List.getElem?_take]at hj
 split at hj
 ·rw[List.getElem?_drop]at hj;simpa using hj
 ·cases hj
theorem lt_of_block{w:World}{b:Nat}{o:Obj}(h:w.heap[b]? =some o):b<w.heap.size:=(Array.getElem?_eq_some_iff.1 h).1
theorem ER.br{w w':World}{M M':Nat→Prop}{v:Value}(k:c4 w M w' M'): ∀{e:aR},
  (e.mut→ ∀b,dV v=some b→w'.heap[b]? =w.heap[b]? ∧M' b)→ER w M v e→ER w' M' v e
 | .obj τ x,hm,h=>by
  simp only[ER]at h ⊢
  obtain⟨b,cs,t,rfl,hb,hM,hr⟩:=h
  obtain⟨h1,h2⟩:=hm trivial b rfl
  exact⟨b,cs,t,rfl,h1.trans hb,h2,hr.br k⟩
 | .dE τ x p j,hm,h=>by
  simp only[ER]at h ⊢
  obtain⟨b,cs,t,nf,u,rfl,hb,hM,hr,h3⟩:=h
  obtain⟨h1,h2⟩:=hm trivial b rfl
  exact⟨b,cs,t,nf,u,rfl,h1.trans hb,h2,hr.br k,h3⟩
 | .own e l,hm,h=>by
  simp only[ER]at h ⊢
  rcases h with h|⟨b,cs,t,cap,rfl,hb,hM,hc,hl,zm,hs,hr⟩
  ·exact .inl h
  ·obtain⟨h1,h2⟩:=hm trivial b (by simp[dV];omega)
   exact .inr ⟨b,cs,t,cap,rfl,h1.trans hb,h2,hc,hl,zm,hs,fun i hi=>(hr i hi).br k⟩
 | .jP e l,_,h=>by
  simp only[ER]at h ⊢
  exact⟨h.1.br k,h.2⟩
 | .gone,_,_=>by simp[ER]
theorem ER.rW{w:World}{M:Nat→Prop}{v:Value}{e:aR}(h:ER w M v e)(hm:e.mut){b:Nat}(hb:dV v=some b):M b:=by
 cases e with
 |obj τ x=>simp only[ER]at h;obtain⟨b',cs,t,hv,di,hM,_⟩:=h;rw[hv]at hb;simp only[dV,Option.some.injEq]at hb;subst hb;exact hM
 |dE τ x p j=>simp only[ER]at h;obtain⟨b',cs,t,_,_,hv,di,hM,_⟩:=h;rw[hv]at hb;simp only[dV,Option.some.injEq]at hb;subst hb;exact hM
 |own e1 l1=>
  simp only[ER]at h
  rcases h with⟨_,a,hv⟩|⟨b',cs,t,cap,hv,di,hM,hc,_⟩
  ·rw[hv]at hb;cases a<;>simp[dV]at hb
  ·rw[hv]at hb;simp only[dV]at hb;split at hb
   ·cases hb
   ·simp only[Option.some.injEq]at hb;subst hb;exact hM
 |jP _ _=>simp[aR.mut]at hm
 |gone=>simp[aR.mut]at hm
theorem Tr.freeze{c:Ctx}{H:Nat→Option aR}{w:World}{M:Nat→Prop}{ν:Nat→Value}(h:Mem c H w M ν){id:Nat}{e:Ty}{l:List e.den}(aS:H id=some (.own e l)):
  ∃M',Tr c H w M ν (bm H id (some (.jP e l))) w M' ν∧V w M' (.slice e) (ν id) l∧ ∀b,M' b↔(M b∧dV (ν id)≠some b):=by
 have hk:c4 w M w (fun b=>M b∧dV (ν id)≠some b):=⟨Nat.le_refl _,fun _ _ _=>rfl,fun _ _ h=>h.1⟩
 have he:=h.im id _ aS
 have gB:Rd w (fun b=>M b∧dV (ν id)≠some b) (.slice e) [ν id] l:=by
  simp only[ER]at he
  simp only[Rd]
  rcases he with⟨rfl,a,hv⟩|⟨b,cs,t,cap,hv,hb,hM,hc,hl,zm,hs,hr⟩
  ·exact⟨a,0,by rw[hv];rfl,Nat.le_refl _,fun i hi=>absurd hi (by simp)⟩
  ·refine⟨_,cap,by rw[hv],hl,fun i hi=>⟨b,0,rfl,lt_of_block hb,fun hm=>hm.2 (by rw[hv];simp[dV];omega),_,?_,(hr i hi).br hk⟩⟩
   rw[Nat.zero_add]
   exact At.of_block hb _ _
 refine⟨fun b=>M b∧dV (ν id)≠some b,⟨⟨fun i e' hi=> ?_,fun i j e1 e2 b ng hi hm hj gk=> ?_,fun i e1 b hi hm=> ?_,fun i e1 l1 b hi=> ?_,Bn h.dE (fun _ _ _ _=>by simp),fun b hb=>⟨h.sub b hb,fun hm=>h.sM id e l b aS hm hb⟩,fun b hb=>h.xk b hb.1,h.frame,h.size,h.pQ,h.os,h.tape,h.output⟩,hk,⟨fun i e' hi=> ?_,fun _ _=>rfl⟩⟩,?_,fun _=>Iff.rfl⟩
 ·by_cases bn:i=id
  ·subst bn;rw[ak]at hi;cases hi
   simp only[ER]
   refine⟨gB,?_⟩
   simp only[ER]at he
   rcases he with⟨rfl,a,hv⟩|⟨b,cs,t,cap,hv,_⟩
   ·exact .inl ⟨rfl,a,0,0,hv⟩
   ·exact .inr ⟨b,_,cap,hv⟩
  ·rw[al _ _ bn]at hi
   refine(h.im i e' hi).br hk (fun hm b hb=>⟨rfl,?_,?_⟩)
   ·exact(h.im i e' hi).rW hm hb
   ·exact h.um i id e' (.own e l) b bn hi hm aS trivial hb
 ·by_cases bn:i=id
  ·subst bn;rw[ak]at hi;cases hi;simp[aR.mut]at hm
  ·by_cases zn:j=id
   ·subst zn;rw[ak]at hj;cases hj;simp[aR.mut]at gk
   ·rw[al _ _ bn]at hi;rw[al _ _ zn]at hj;exact h.um i j e1 e2 b ng hi hm hj gk
 ·by_cases bn:i=id
  ·subst bn;rw[ak]at hi;cases hi;simp[aR.mut]at hm
  ·rw[al _ _ bn]at hi;exact h.new i e1 b hi hm
 ·by_cases bn:i=id
  ·subst bn;rw[ak]at hi;cases hi
  ·rw[al _ _ bn]at hi;exact h.sM i e1 l1 b hi
 ·by_cases bn:i=id
  ·subst bn;rw[aS]at hi;cases hi;exact⟨_,ak _ _ _,rfl,rfl⟩
  ·exact⟨e',by rw[al _ _ bn];exact hi,.refl e'⟩
 ·unfold V;rw[if_neg (by simp[Ty.isAgg])];exact gB
theorem Tr.fix{c:Ctx}{H:Nat→Option aR}{w:World}{M:Nat→Prop}{ν:Nat→Value}(h:Mem c H w M ν){id:Nat}{τ:Ty}{x:τ.den}(aS:H id=some (.obj τ x)):
  ∃M' b,Tr c H w M ν (bm H id (some .gone)) w M' ν∧ν id= .pointer (some ⟨b,0,none⟩)∧b<w.heap.size∧ ¬M' b∧ ∃cs,At w b 0 cs∧Rd w M' τ cs x:=by
 have he:=h.im id _ aS
 simp only[ER]at he
 obtain⟨b0,cs,t,hv,hb,hM,hr⟩:=he
 have sN:dV (ν id)=some b0:=by rw[hv];rfl
 have hk:c4 w M w (fun b=>M b∧b≠b0):=⟨Nat.le_refl _,fun _ _ _=>rfl,fun _ _ h=>h.1⟩
 have C2: ¬c.M0 b0:=fun hm=>(h.new id _ b0 aS trivial sN).elim (fun hB=>by have:=h.pQ.1 b0 hm;omega) (fun hB=>h.pQ.2 b0 hB hm)
 refine⟨fun b=>M b∧b≠b0,b0,⟨⟨fun i e' hi=> ?_,fun i j e1 e2 b ng hi hm hj gk=> ?_,fun i e1 b hi hm=> ?_,fun i e1 l1 b hi=> ?_,Bn h.dE (fun _ _ _ _=>by simp),fun b di=>⟨h.sub b di,fun e=>C2 (e▸di)⟩,fun b di=>h.xk b di.1,h.frame,h.size,h.pQ,h.os,h.tape,h.output⟩,hk,⟨fun i e' hi=> ?_,fun _ _=>rfl⟩⟩,hv,lt_of_block hb,fun hm=>hm.2 rfl,cs.toList,?_,hr.br hk⟩
 ·by_cases bn:i=id
  ·subst bn;rw[ak]at hi;cases hi;simp[ER]
  ·rw[al _ _ bn]at hi
   refine(h.im i e' hi).br hk (fun hm b di=>⟨rfl,?_,?_⟩)
   ·exact(h.im i e' hi).rW hm di
   ·intro e
    exact h.um i id e' (.obj τ x) b bn hi hm aS trivial di (by rw[sN,e])
 ·by_cases bn:i=id
  ·subst bn;rw[ak]at hi;cases hi;simp[aR.mut]at hm
  ·by_cases zn:j=id
   ·subst zn;rw[ak]at hj;cases hj;simp[aR.mut]at gk
   ·rw[al _ _ bn]at hi;rw[al _ _ zn]at hj;exact h.um i j e1 e2 b ng hi hm hj gk
 ·by_cases bn:i=id
  ·subst bn;rw[ak]at hi;cases hi;simp[aR.mut]at hm
  ·rw[al _ _ bn]at hi;exact h.new i e1 b hi hm
 ·by_cases bn:i=id
  ·subst bn;rw[ak]at hi;cases hi
  ·rw[al _ _ bn]at hi;exact h.sM i e1 l1 b hi
 ·by_cases bn:i=id
  ·subst bn;rw[aS]at hi;cases hi;exact⟨_,ak _ _ _,trivial⟩
  ·exact⟨e',by rw[al _ _ bn];exact hi,.refl e'⟩
 ·have:=At.of_block hb 0 cs.toList.length
  rwa [List.drop_zero,List.take_length]at this
end VM
end
section
namespace VM
open Go
theorem xl(w:World)(o:Obj):(w.alloc o).heap[w.heap.size]? =some o:=by
 show(w.heap.push o)[w.heap.size]? =some o
 simp
theorem lJ(w:World)(o:Obj){i:Nat}(h:i<w.heap.size):(w.alloc o).heap[i]? =w.heap[i]? :=by
 show(w.heap.push o)[i]? =w.heap[i]?
 rw[Array.getElem?_push,if_neg (Nat.ne_of_lt h)]
theorem size_alloc(w:World)(o:Obj):(w.alloc o).heap.size=w.heap.size+1:=by
 show(w.heap.push o).size=_
 simp
def b9(ν:Nat→Value)(d:Nat)(v:Value):Nat→Value:=fun i=>if i=d then v else ν i
theorem lW{c:Ctx}{H:Nat→Option aR}{w w':World}{M:Nat→Prop}{ν ν':Nat→Value}(h:Mem c H w M ν){H':Nat→Option aR}
  (hν: ∀i,H i≠none→ν' i=ν i) (hn: ∀i,H i≠none→H' i≠none)
  (hi: ∀i τ x p j,H' i=some (.dE τ x p j)→(H i=some (.dE τ x p j)∧ ∀b,ν i= .pointer (some ⟨b,0,none⟩)→w'.heap[b]? =w.heap[b]?)∨(H' j≠none∧ ∃b,ν' i= .pointer (some ⟨b,0,none⟩)∧w'.cell? ⟨b,bA p τ,none⟩=some (ν' j))):
  ∀i τ x p j,H' i=some (.dE τ x p j)→H' j≠none∧ ∃b,ν' i= .pointer (some ⟨b,0,none⟩)∧w'.cell? ⟨b,bA p τ,none⟩=some (ν' j):=by
 intro i τ x p j he
 rcases hi i τ x p j he with⟨h1,hb⟩|h1
 ·obtain⟨h2,b,h3,h4⟩:=h.dE i τ x p j h1
  refine⟨hn j h2,b,by rw[hν i (by rw[h1];simp)];exact h3,?_⟩
  rw[hν j h2,World.cell?_of_block (w:=w) (hb b h3)]
  exact h4
 ·exact h1
theorem qQ{H:Nat→Option aR}{id:Nat}{v:aR}: ∀i,H i≠none→bm H id (some v) i≠none:=fun _ h=>qP h
theorem sX{H:Nat→Option aR}{id:Nat}{v:aR}(hv: ∀τ x p j,v≠ .dE τ x p j){i:Nat}{τ:Ty}{x:τ.den}{p:List Step}{j:Nat}(h:bm H id (some v) i=some (.dE τ x p j)):H i=some (.dE τ x p j):=by
 by_cases bn:i=id
 ·subst bn;rw[ak]at h;cases h;exact absurd rfl (hv _ _ _ _)
 ·rw[al _ _ bn]at h;exact h
theorem Tr.alloc{c:Ctx}{H:Nat→Option aR}{w:World}{M:Nat→Prop}{ν:Nat→Value}(h:Mem c H w M ν){id:Nat}(aS:H id=none)(o:Obj)(v:Value)(e:aR)(hm:e.mut)(z6: ∀τ x p j,e≠ .dE τ x p j)
  (hb:dV v=none∨dV v=some w.heap.size) (Jy:ER (w.alloc o) (fun b=>M b∨b=w.heap.size) v e):
  Tr c H w M ν (bm H id (some e)) (w.alloc o) (fun b=>M b∨b=w.heap.size) (b9 ν id v):=by
 have hk:c4 w M (w.alloc o) (fun b=>M b∨b=w.heap.size):=
  ⟨by rw[size_alloc];omega,fun b hb _=>lJ w o hb,fun b hb h'=>h'.resolve_right (by omega)⟩
 have hν: ∀i,i≠id→b9 ν id v i=ν i:=fun i hi=>by simp[b9,hi]
 have wi:b9 ν id v id=v:=by simp[b9]
 have dF: ∀i e' b,H i=some e'→e'.mut→dV (ν i)=some b→b<w.heap.size:=fun i e' b hi gk di=>h.xk b ((h.im i e' hi).rW gk di)
 refine⟨⟨fun i e' hi=> ?_,fun i j e1 e2 b ng hi ob hj sY=> ?_,fun i e1 b hi ob=> ?_,fun i e1 l1 b hi=> ?_,lW h (fun i hi=>hν i (fun e=>hi (e▸aS))) qQ (fun i τ x p j hi=> .inl ⟨sX z6 hi,fun b hb=>lJ w o (dF i _ b (sX z6 hi) trivial (by rw[hb];rfl))⟩),fun b hb=> .inl (h.sub b hb),fun b di=> ?_,fun b jo rX=> ?_,?_,h.pQ,h.os,h.tape,h.output⟩,hk,⟨fun i e' hi=> ?_,fun i hi=> ?_⟩⟩
 ·by_cases bn:i=id
  ·subst bn;rw[ak]at hi;cases hi;rw[wi];exact Jy
  ·rw[al _ _ bn]at hi;rw[hν i bn]
   exact(h.im i e' hi).br hk fun gk b di=>⟨lJ w o (dF i e' b hi gk di),.inl ((h.im i e' hi).rW gk di)⟩
 ·by_cases bn:i=id
  ·subst bn;rw[ak]at hi;cases hi;rw[wi]
   intro jo
   have zn:j≠i:=Ne.symm ng
   rw[al _ _ zn]at hj;rw[hν j zn]
   intro rX
   have:=dF j e2 b hj sY rX
   rcases hb with hb|hb<;>rw[hb]at jo<;>simp at jo
   omega
  ·rw[al _ _ bn]at hi;rw[hν i bn]
   by_cases zn:j=id
   ·subst zn;rw[wi]
    intro jo rX
    have:=dF i e1 b hi ob jo
    rcases hb with hb|hb<;>rw[hb]at rX<;>simp at rX
    omega
   ·rw[al _ _ zn]at hj;rw[hν j zn];exact h.um i j e1 e2 b ng hi ob hj sY
 ·by_cases bn:i=id
  ·subst bn;rw[wi]
   intro jo
   rcases hb with hb|hb<;>rw[hb]at jo<;>simp at jo
   subst jo;exact .inl h.size
  ·rw[al _ _ bn]at hi;rw[hν i bn];exact h.new i e1 b hi ob
 ·by_cases bn:i=id
  ·subst bn;rw[wi]
   intro jo h0
   rcases hb with hb|hb<;>rw[hb]at jo<;>simp at jo
   have:=h.pQ.1 b h0
   have:=h.size
   omega
  ·rw[al _ _ bn]at hi;rw[hν i bn];exact h.sM i e1 l1 b hi
 ·rw[size_alloc]
  rcases di with di|di
  ·have:=h.xk b di;omega
  ·omega
 ·rw[lJ w o (Nat.lt_of_lt_of_le jo h.size)];exact h.frame b jo rX
 ·rw[size_alloc];have:=h.size;omega
 ·by_cases bn:i=id
  ·subst bn;rw[aS]at hi;cases hi
  ·exact⟨e',by rw[al _ _ bn];exact hi,.refl e'⟩
 ·have bn:i≠id:=fun e=>hi (e▸aS)
  exact hν i bn
theorem Tr.var{c:Ctx}{H:Nat→Option aR}{w:World}{M:Nat→Prop}{ν:Nat→Value}(h:Mem c H w M ν){id:Nat}(aS:H id=none)(t:TypeId){τ:Ty}{cs:Array Value}{x:τ.den}(hr:Rd w M τ cs.toList x):
  Tr c H w M ν (bm H id (some (.obj τ x))) (w.alloc (.cells cs t)) (fun b=>M b∨b=w.heap.size) (b9 ν id (.pointer (some ⟨w.heap.size,0,none⟩))):=by
 refine Tr.alloc h aS _ _ _ trivial (fun _ _ _ _=>by simp) (.inr rfl) ?_
 simp only[ER]
 have hk:c4 w M (w.alloc (.cells cs t)) (fun b=>M b∨b=w.heap.size):=
  ⟨by rw[size_alloc];omega,fun b hb _=>lJ w _ hb,fun b hb h'=>h'.resolve_right (by omega)⟩
 exact⟨w.heap.size,cs,t,rfl,xl w _,.inr rfl,hr.br hk⟩
theorem Tr.row{c:Ctx}{H:Nat→Option aR}{w:World}{M:Nat→Prop}{ν:Nat→Value}(h:Mem c H w M ν){id:Nat}(aS:H id=none)(t:TypeId){e:Ty}{cs:Array Value}{l:List e.den}{cap:Nat}
  (hl:l.length≤cap) (hm:cap≤maxLen) (hs:cs.size=cap*e.size) (hr: ∀i (hi:i<l.length),Rd w M e ((cs.toList.drop (i*e.size)).take e.size) l[i]):
  Tr c H w M ν (bm H id (some (.own e l))) (w.alloc (.cells cs t)) (fun b=>M b∨b=w.heap.size) (b9 ν id (.slice (some ⟨w.heap.size,0,none⟩) l.length cap)):=by
 have hk:c4 w M (w.alloc (.cells cs t)) (fun b=>M b∨b=w.heap.size):=
  ⟨by rw[size_alloc];omega,fun b hb _=>lJ w _ hb,fun b hb h'=>h'.resolve_right (by omega)⟩
 refine Tr.alloc h aS _ _ _ trivial (fun _ _ _ _=>by simp) ?_ ?_
 ·simp only[dV];split
  ·exact .inl rfl
  ·exact .inr rfl
 ·simp only[ER]
  by_cases hc:cap=0
  ·subst hc
   have hl0:l=[]:=List.eq_nil_of_length_eq_zero (by omega)
   subst hl0
   exact .inl ⟨rfl,_,rfl⟩
  ·exact .inr ⟨w.heap.size,cs,t,cap,rfl,xl w _,.inr rfl,by omega,hl,hm,hs,fun i hi=>(hr i hi).br hk⟩
theorem Tr.drew{c:Ctx}{H:Nat→Option aR}{w:World}{M:Nat→Prop}{ν:Nat→Value}(h:Mem c H w M ν):Tr c H w M ν H w.drew M ν:=by
 have hk:c4 w M w.drew M:=⟨Nat.le_refl _,fun _ _ _=>rfl,fun _ _ h=>h⟩
 exact⟨⟨fun i e he=>(h.im i e he).br hk fun hm b hb=>⟨rfl,(h.im i e he).rW hm hb⟩,h.um,h.new,h.sM,h.dE,h.sub,h.xk,h.frame,h.size,h.pQ,h.os,h.tape,h.output⟩,hk,.refl H ν⟩
theorem size_setRow(w:World)(g:Nat)(cs:Array Value):(w.setRow g cs).heap.size=w.heap.size:=by simp[World.setRow]
theorem Tr.write{c:Ctx}{H:Nat→Option aR}{w:World}{M:Nat→Prop}{ν:Nat→Value}(h:Mem c H w M ν){id:Nat}{e e':aR}(aS:H id=some e)(hm:e.mut)(gk:e'.mut)(hl:e.gM e')
  {b:Nat} (hb:dV (ν id)=some b) {cs new:Array Value} {t:TypeId} (hg:w.heap[b]? =some (.cells cs t (0,0)))
  (Jy: ∀M',c4 w M (w.setRow b new) M'→M' b→ER (w.setRow b new) M' (ν id) e')
  (oc: ∀τ x p j,e'= .dE τ x p j→H j≠none∧ ∃b',ν id= .pointer (some ⟨b',0,none⟩)∧(w.setRow b new).cell? ⟨b',bA p τ,none⟩=some (ν j):=by intro _ _ _ _ h;cases h):
  Tr c H w M ν (bm H id (some e')) (w.setRow b new) M ν:=by
 have Wy:M b:=(h.im id e aS).rW hm hb
 have hk:c4 w M (w.setRow b new) M:=
  ⟨by rw[size_setRow];exact Nat.le_refl _,fun b' _ hm=>setRow_other w b b' new (fun e=>hm (e▸Wy)),fun _ _ h=>h⟩
 refine⟨⟨fun i e1 hi=> ?_,fun i j e1 e2 b1 ng hi ob hj sY=> ?_,fun i e1 b1 hi ob=> ?_,fun i e1 l1 b1 hi=> ?_,lW h (fun _ _=>rfl) qQ (fun i τ x p j hi=> ?_),h.sub,fun b1 jo=>by rw[size_setRow];exact h.xk b1 jo,fun b1 jo rX=> ?_,by rw[size_setRow];exact h.size,h.pQ,h.os,h.tape,h.output⟩,hk,⟨fun i e1 hi=> ?_,fun i hi=>rfl⟩⟩
 ·by_cases bn:i=id
  ·subst bn;rw[ak]at hi;cases hi;exact Jy M hk Wy
  ·rw[al _ _ bn]at hi
   exact(h.im i e1 hi).br hk fun ob b1 jo=>⟨setRow_other w b b1 new (fun e'=>h.um i id e1 e b1 bn hi ob aS hm jo (e'▸hb)),(h.im i e1 hi).rW ob jo⟩
 ·by_cases bn:i=id
  ·subst bn;rw[ak]at hi;cases hi
   have zn:j≠i:=Ne.symm ng
   rw[al _ _ zn]at hj
   exact h.um i j e e2 b1 ng aS hm hj sY
  ·rw[al _ _ bn]at hi
   by_cases zn:j=id
   ·subst zn;exact h.um i j e1 e b1 ng hi ob aS hm
   ·rw[al _ _ zn]at hj;exact h.um i j e1 e2 b1 ng hi ob hj sY
 ·by_cases bn:i=id
  ·subst bn;exact h.new i e b1 aS hm
  ·rw[al _ _ bn]at hi;exact h.new i e1 b1 hi ob
 ·by_cases bn:i=id
  ·subst bn;rw[ak]at hi;cases hi
   cases e with
   |own e0 l0=>exact h.sM i e0 l0 b1 aS
   |obj _ _=>simp[aR.gM]at hl
   |dE _ _ _ _=>simp[aR.gM]at hl
   |jP _ _=>simp[aR.mut]at hm
   |gone=>simp[aR.mut]at hm
  ·rw[al _ _ bn]at hi;exact h.sM i e1 l1 b1 hi
 ·by_cases bn:i=id
  ·subst bn;rw[ak]at hi;cases hi
   obtain⟨h1,h2⟩:=oc _ _ _ _ rfl
   exact .inr ⟨qP h1,h2⟩
  ·rw[al _ _ bn]at hi
   exact .inl ⟨hi,fun b1 jo=>setRow_other w b b1 new (fun e1=>h.um i id _ e b1 bn hi trivial aS hm (by rw[jo];rfl) (e1▸hb))⟩
 ·rw[setRow_other w b b1 new]
  ·exact h.frame b1 jo rX
  ·intro hbb;subst hbb
   rcases h.new id e b1 aS hm hb with h'|h'
   ·omega
   ·exact rX h'
 ·by_cases bn:i=id
  ·subst bn;rw[aS]at hi;cases hi;exact⟨e',ak _ _ _,hl⟩
  ·exact⟨e1,by rw[al _ _ bn];exact hi,.refl e1⟩
theorem Tr.rename{c:Ctx}{H:Nat→Option aR}{w:World}{M:Nat→Prop}{ν:Nat→Value}(h:Mem c H w M ν){j id:Nat}{e e':Ty}{l:List e.den}{l':List e'.den}(hj:H j=some (.own e l))(aS:H id=none)
  {v:Value} (hb:dV v=none∨dV v=dV (ν j)) (Jy:ER w M v (.own e' l')):
  Tr c H w M ν (bm (bm H j (some .gone)) id (some (.own e' l'))) w M (b9 ν id v):=by
 have gG:j≠id:=fun e=>by rw[e,aS]at hj;cases hj
 have h1:=(Tr.gone h j).mem
 have kK:bm H j (some .gone) id=none:=by rw[al _ _ (Ne.symm gG)];exact aS
 have hν: ∀i,i≠id→b9 ν id v i=ν i:=fun i hi=>by simp[b9,hi]
 have wi:b9 ν id v id=v:=by simp[b9]
 refine⟨⟨fun i e1 hi=> ?_,fun i k e1 e2 b1 ng hi ob hk sY=> ?_,fun i e1 b1 hi ob=> ?_,fun i e1 l1 b1 hi=> ?_,lW h1 (fun i hi=>hν i (fun e=>hi (e▸kK))) qQ (fun i τ x p j hi=> .inl ⟨sX (fun _ _ _ _=>by simp) hi,fun _ _=>rfl⟩),h.sub,h.xk,h.frame,h.size,h.pQ,h.os,h.tape,h.output⟩,.refl w M,⟨fun i e1 hi=> ?_,fun i hi=> ?_⟩⟩
 ·by_cases bn:i=id
  ·subst bn;rw[ak]at hi;cases hi;rw[wi];exact Jy
  ·rw[al _ _ bn]at hi;rw[hν i bn];exact h1.im i e1 hi
 ·by_cases bn:i=id
  ·subst bn;rw[ak]at hi;cases hi;rw[wi]
   have C3:k≠i:=Ne.symm ng
   rw[al _ _ C3]at hk;rw[hν k C3]
   intro jo
   rcases hb with hb|hb
   ·rw[hb]at jo;cases jo
   ·rw[hb]at jo
    by_cases hkj:k=j
    ·subst hkj;rw[ak]at hk;cases hk;simp[aR.mut]at sY
    ·rw[al _ _ hkj]at hk;exact h.um j k _ e2 b1 (Ne.symm hkj) hj trivial hk sY jo
  ·rw[al _ _ bn]at hi;rw[hν i bn]
   by_cases C3:k=id
   ·subst C3;rw[wi]
    intro jo rX
    rcases hb with hb|hb
    ·rw[hb]at rX;cases rX
    ·rw[hb]at rX
     by_cases zv:i=j
     ·subst zv;rw[ak]at hi;cases hi;simp[aR.mut]at ob
     ·rw[al _ _ zv]at hi;exact h.um j i _ e1 b1 (Ne.symm zv) hj trivial hi ob rX jo
   ·rw[al _ _ C3]at hk;rw[hν k C3];exact h1.um i k e1 e2 b1 ng hi ob hk sY
 ·by_cases bn:i=id
  ·subst bn;rw[wi];intro jo
   rcases hb with hb|hb
   ·rw[hb]at jo;cases jo
   ·rw[hb]at jo;exact h.new j _ b1 hj trivial jo
  ·rw[al _ _ bn]at hi;rw[hν i bn];exact h1.new i e1 b1 hi ob
 ·by_cases bn:i=id
  ·subst bn;rw[wi];intro jo
   rcases hb with hb|hb
   ·rw[hb]at jo;cases jo
   ·rw[hb]at jo;exact h.sM j e l b1 hj jo
  ·rw[al _ _ bn]at hi;rw[hν i bn];exact h1.sM i e1 l1 b1 hi
 ·by_cases zv:i=j
  ·subst zv;exact⟨.gone,by rw[al _ _ gG,ak],by cases e1<;>simp[aR.gM]⟩
  ·have bn:i≠id:=fun e=>by rw[e,aS]at hi;cases hi
   exact⟨e1,by rw[al _ _ bn,al _ _ zv];exact hi,.refl e1⟩
 ·exact hν i (fun e=>hi (e▸aS))
theorem Tr.Jz{c:Ctx}{H:Nat→Option aR}{w:World}{M:Nat→Prop}{ν:Nat→Value}(h:Mem c H w M ν){id:Nat}{e e':aR}(aS:H id=some e)(hm:e.mut)(gk:e'.mut)(hl:e.gM e')(pB: ∀e0 l0,e'≠ .own e0 l0)
  (Jy:ER w M (ν id) e') (oc: ∀τ x p j,e'= .dE τ x p j→H j≠none∧ ∃b',ν id= .pointer (some ⟨b',0,none⟩)∧w.cell? ⟨b',bA p τ,none⟩=some (ν j)):
  Tr c H w M ν (bm H id (some e')) w M ν:=by
 refine⟨⟨fun i e1 hi=> ?_,fun i j e1 e2 b1 ng hi ob hj sY=> ?_,fun i e1 b1 hi ob=> ?_,fun i e1 l1 b1 hi=> ?_,lW h (fun _ _=>rfl) qQ (fun i τ x p j hi=> ?_),h.sub,h.xk,h.frame,h.size,h.pQ,h.os,h.tape,h.output⟩,.refl w M,⟨fun i e1 hi=> ?_,fun i hi=>rfl⟩⟩
 ·by_cases bn:i=id
  ·subst bn;rw[ak]at hi;cases hi;exact Jy
  ·rw[al _ _ bn]at hi;exact h.im i e1 hi
 ·by_cases bn:i=id
  ·subst bn;rw[ak]at hi;cases hi
   have zn:j≠i:=Ne.symm ng
   rw[al _ _ zn]at hj
   exact h.um i j e e2 b1 ng aS hm hj sY
  ·rw[al _ _ bn]at hi
   by_cases zn:j=id
   ·subst zn;exact h.um i j e1 e b1 ng hi ob aS hm
   ·rw[al _ _ zn]at hj;exact h.um i j e1 e2 b1 ng hi ob hj sY
 ·by_cases bn:i=id
  ·subst bn;exact h.new i e b1 aS hm
  ·rw[al _ _ bn]at hi;exact h.new i e1 b1 hi ob
 ·by_cases bn:i=id
  ·subst bn;rw[ak]at hi;cases hi;exact absurd rfl (pB _ _)
  ·rw[al _ _ bn]at hi;exact h.sM i e1 l1 b1 hi
 ·by_cases bn:i=id
  ·subst bn;rw[ak]at hi;cases hi
   obtain⟨h1,h2⟩:=oc _ _ _ _ rfl
   exact .inr ⟨qP h1,h2⟩
  ·rw[al _ _ bn]at hi;exact .inl ⟨hi,fun _ _=>rfl⟩
 ·by_cases bn:i=id
  ·subst bn;rw[aS]at hi;cases hi;exact⟨e',ak _ _ _,hl⟩
  ·exact⟨e1,by rw[al _ _ bn];exact hi,.refl e1⟩
theorem Tr.nothing{c:Ctx}{w:World}{M:Nat→Prop}{ν:Nat→Value}{H:Nat→Option aR}(h:Mem c H w M ν){id:Nat}(aS:H id=none)(e:Ty)(ad:Option Addr):
  Tr c H w M ν (bm H id (some (.own e []))) w M (b9 ν id (.slice ad 0 0)):=by
 have hν: ∀i,i≠id→b9 ν id (.slice ad 0 0) i=ν i:=fun i hi=>by simp[b9,hi]
 have wi:b9 ν id (.slice ad 0 0) id= .slice ad 0 0:=by simp[b9]
 have hb:dV (.slice ad 0 0)=none:=by cases ad<;>simp[dV]
 refine⟨⟨fun i e1 hi=> ?_,fun i k e1 e2 b1 ng hi ob hk sY=> ?_,fun i e1 b1 hi ob=> ?_,fun i e1 l1 b1 hi=> ?_,lW h (fun i hi=>hν i (fun e=>hi (e▸aS))) qQ (fun i τ x p j hi=> .inl ⟨sX (fun _ _ _ _=>by simp) hi,fun _ _=>rfl⟩),h.sub,h.xk,h.frame,h.size,h.pQ,h.os,h.tape,h.output⟩,.refl w M,⟨fun i e1 hi=> ?_,fun i hi=>hν i (fun e=>hi (e▸aS))⟩⟩
 ·by_cases bn:i=id
  ·subst bn;rw[ak]at hi;cases hi;rw[wi];simp only[ER];exact .inl ⟨trivial,ad,rfl⟩
  ·rw[al _ _ bn]at hi;rw[hν i bn];exact h.im i e1 hi
 ·by_cases bn:i=id
  ·subst bn;rw[wi,hb];intro h';cases h'
  ·rw[al _ _ bn]at hi;rw[hν i bn]
   by_cases C3:k=id
   ·subst C3;rw[wi,hb];intro _ h';cases h'
   ·rw[al _ _ C3]at hk;rw[hν k C3];exact h.um i k e1 e2 b1 ng hi ob hk sY
 ·by_cases bn:i=id
  ·subst bn;rw[wi,hb];intro h';cases h'
  ·rw[al _ _ bn]at hi;rw[hν i bn];exact h.new i e1 b1 hi ob
 ·by_cases bn:i=id
  ·subst bn;rw[wi,hb];intro h';cases h'
  ·rw[al _ _ bn]at hi;rw[hν i bn];exact h.sM i e1 l1 b1 hi
 ·have bn:i≠id:=fun e=>by rw[e,aS]at hi;cases hi
  exact⟨e1,by rw[al _ _ bn];exact hi,.refl e1⟩
end VM
end
section
namespace VM
open Go
theorem aY{α:Type}{υ τ:Ty}{y:υ.den}{k:τ.den→Option α}{r:α}(h:bU υ τ y k=some r): ∃e:υ=τ,k (e▸y)=some r:=by
 unfold bU at h
 split at h
 ·rename_i e;exact⟨e,h⟩
 ·cases h
theorem dt{α:Type}{υ τ:Ty}{k:Option α}{r:α}(h:iN υ τ k=some r):υ=τ∧k=some r:=by
 unfold iN at h
 split at h
 ·rename_i e;exact⟨e,h⟩
 ·cases h
theorem V.slice{w:World}{M:Nat→Prop}{e:Ty}{v:Value}{l:List e.den}:V w M (.slice e) v l↔Rd w M (.slice e) [v] l:=by
 unfold V;rw[if_neg (by simp[Ty.isAgg])]
def Fz(H H1:Nat→Option aR):Prop:= ∀i,H1 i=H i∨ ∃e l,H i=some (.own e l)∧H1 i=some (.jP e l)
theorem Fz.refl(H:Nat→Option aR):Fz H H:=fun _=> .inl rfl
theorem Fz.none{H H1:Nat→Option aR}(h:Fz H H1){i:Nat}(hi:H i=none):H1 i=none:=by
 rcases h i with h'|⟨e,l,h',_⟩
 ·rw[h',hi]
 ·rw[hi]at h';cases h'
theorem Fz.obj{H H1:Nat→Option aR}(h:Fz H H1){i:Nat}{τ:Ty}{x:τ.den}(hi:H i=some (.obj τ x)):H1 i=some (.obj τ x):=by
 rcases h i with h'|⟨e,l,h',_⟩
 ·rw[h',hi]
 ·rw[hi]at h';cases h'
theorem uz{H:Nat→Option aR}{id:Nat}{e:Option aR}(h:H id=e):bm H id e=H:=by
 funext i
 by_cases hi:i=id
 ·subst hi;rw[ak,h]
 ·rw[al _ _ hi]
theorem jw{α:Type}{c:Ctx}{H H1:Nat→Option aR}{w:World}{M:Nat→Prop}{ν:Nat→Value}(hz:Fz H H1)(hm:Mem c H1 w M ν){a:aW}{v:Value}(hv:VR w M H1 ν a v){τ:Ty}
  {k:τ.den→List Nat→e9→Option α} {r:α} (h:g6 true a H τ k=some r):
  ∃y rd ups M',k y rd ups=some r∧Tr c H1 w M ν (bP H1 ups) w M' ν∧V w M' τ v y∧Fz H (bP H1 ups)∧ ∀i,rd.contains i=false→bP H1 ups i=H1 i:=by
 unfold g6 at h
 split at h
 ·
  obtain⟨e,h⟩:=aY h
  subst e
  simp only[VR]at hv
  exact⟨_,[],[],M,h,.refl hm,hv,hz,fun _ _=>rfl⟩
 ·
  obtain⟨e,h⟩:=aY h
  subst e
  simp only[VR]at hv
  exact⟨_,[],[],M,h,.refl hm,hv.1,hz,fun _ _=>rfl⟩
 ·
  split at h
  ·rename_i e k' _
   simp only[VR]at hv
   obtain⟨a,rfl⟩:=hv
   refine⟨[],[],[],M,h,.refl hm,V.slice.2 ?_,hz,fun _ _=>rfl⟩
   simp only[Rd]
   exact⟨a,0,rfl,Nat.le_refl _,fun i hi=>absurd hi (by simp)⟩
  ·cases h
 ·rename_i id
  simp only[VR]at hv
  obtain⟨_,rfl⟩:=hv
  split at h
  ·rename_i e l aS
   obtain⟨e',h⟩:=aY h
   subst e'
   rcases hz id with h1|⟨e1,l1,h1,h2⟩
   ·rw[aS]at h1
    obtain⟨M',eD,hV,_⟩:=Tr.freeze hm h1
    refine⟨_,_,_,M',h,eD,hV,fun i=> ?_,fun i hi=>al _ _ (by simpa using hi)⟩
    show bm H1 id (some (.jP e l)) i=H i∨_
    by_cases hi:i=id
    ·subst hi;exact .inr ⟨e,l,aS,ak _ _ _⟩
    ·rw[al _ _ hi]
     rcases hz i with h'|⟨e2,l2,h2,h3⟩
     ·exact .inl h'
     ·exact .inr ⟨e2,l2,h2,by show bm H1 id _ i=_;rw[al _ _ hi];exact h3⟩
   ·rw[aS]at h1;cases h1
    have:=hm.im id _ h2
    simp only[ER]at this
    refine⟨_,_,[(id,some (.jP e l))],M,h,?_,V.slice.2 this.1,?_,fun i hi=>al _ _ (by simpa using hi)⟩
    ·show Tr c H1 w M ν (bm H1 id (some (.jP e l))) w M ν
     rw[uz h2];exact .refl hm
    ·show Fz H (bm H1 id (some (.jP e l)))
     rw[uz h2];exact hz
  ·rename_i e l aS
   obtain⟨e',h⟩:=aY h
   subst e'
   have h1:H1 id=some (.jP e l):=by
    rcases hz id with h1|⟨e1,l1,h1,h2⟩
    ·rw[h1,aS]
    ·rw[aS]at h1;cases h1
   have:=hm.im id _ h1
   simp only[ER]at this
   exact⟨_,_,_,M,h,.refl hm,V.slice.2 this.1,hz,fun _ _=>rfl⟩
  ·cases h
 ·cases h
def Src(w:World)(M:Nat→Prop)(e:Ty)(v:Value)(l:List e.den):Prop:=
 ∃a cap,v= .slice a l.length cap∧ ∀i (h:i<l.length),∃b off cs,a=some ⟨b,off,none⟩∧At w b (off+i*e.size) cs∧Rd w M e cs l[i]
theorem Src.Pq{w:World}{M:Nat→Prop}{e:Ty}{v:Value}{l:List e.den}(h:V w M (.slice e) v l):Src w M e v l:=by
 have h:=V.slice.1 h
 simp only[Rd,List.cons.injEq,and_true]at h
 obtain⟨a,cap,rfl,_,hr⟩:=h
 refine⟨a,cap,rfl,fun i hi=> ?_⟩
 obtain⟨b,off,ha,_,_,cs,lh,gB⟩:=hr i hi
 exact⟨b,off,cs,ha,lh,gB⟩
theorem vk{α:Type}{c:Ctx}{H:Nat→Option aR}{w:World}{M:Nat→Prop}{ν:Nat→Value}(hm:Mem c H w M ν){a:aW}{v:Value}(hv:VR w M H ν a v){e:Ty}
  {k:List e.den→List Nat→e9→Option α} {r:α} (h:g6 false a H (.slice e) k=some r):
  ∃y rd,k y rd []=some r∧Src w M e v y:=by
 unfold g6 at h
 split at h
 ·obtain⟨e',h⟩:=aY h
  subst e'
  simp only[VR]at hv
  exact⟨_,[],h,.Pq hv⟩
 ·obtain⟨e',h⟩:=aY h
  subst e'
  simp only[VR]at hv
  exact⟨_,[],h,.Pq hv.1⟩
 ·have h:k [] [] []=some r:=h
  simp only[VR]at hv
  obtain⟨a,rfl⟩:=hv
  exact⟨[],[],h,a,0,rfl,fun i hi=>absurd hi (by simp)⟩
 ·rename_i id
  simp only[VR]at hv
  obtain⟨_,rfl⟩:=hv
  split at h
  ·rename_i e1 l aS
   obtain⟨e',h⟩:=aY h
   cases e'
   refine⟨_,_,h,?_⟩
   have:=hm.im id _ aS
   simp only[ER]at this
   rcases this with⟨rfl,a,hv⟩|⟨b,cs,t,cap,hv,hb,hM,hc,hl,zm,hs,hr⟩
   ·exact⟨a,0,hv,fun i hi=>absurd hi (by simp)⟩
   ·refine⟨_,cap,hv,fun i hi=>⟨b,0,_,rfl,?_,hr i hi⟩⟩
    rw[Nat.zero_add]
    exact At.of_block hb _ _
  ·rename_i e1 l aS
   obtain⟨e',h⟩:=aY h
   cases e'
   have:=hm.im id _ aS
   simp only[ER]at this
   exact⟨_,_,h,.Pq (V.slice.2 this.1)⟩
  ·cases h
 ·cases h
theorem Src.cells{w:World}{M:Nat→Prop}{e:Ty}{v:Value}{l:List e.den}(h:Src w M e v l)(gG:l≠[]):
  ∃b off cap news,v= .slice (some ⟨b,off,none⟩) l.length cap∧news.length=l.length*e.size∧At w b off news∧
   (∀i (hi:i<l.length),Rd w M e ((news.drop (i*e.size)).take e.size) l[i])∧ ∀u∈news,u.oneCell'=true:=by
 obtain⟨a,cap,rfl,hr⟩:=h
 have h0:0<l.length:=List.length_pos_iff.2 gG
 obtain⟨b,off,_,ha,_⟩:=hr 0 h0
 subst ha
 have key: ∀n,n≤l.length→ ∃news:List Value,news.length=n*e.size∧At w b off news∧
   (∀i (hi:i<l.length),i<n→Rd w M e ((news.drop (i*e.size)).take e.size) l[i])∧ ∀u∈news,u.oneCell'=true:=by
  intro n
  induction n with
  |zero=>exact fun _=>⟨[],by simp,fun j v hj=>by simp at hj,fun i _ hi=>by omega,by simp⟩
  |succ n ih=>
   intro hn
   obtain⟨news,hl,lh,gB,Wz⟩:=ih (by omega)
   obtain⟨b',anb,cs,ha,agS,JA⟩:=hr n (by omega)
   cases ha
   refine⟨news++cs,by rw[List.length_append,hl,JA.length,Nat.add_mul,Nat.one_mul],At.append.2 ⟨lh,by rw[hl];exact agS⟩,fun i hi gC=> ?_,fun u hu=> ?_⟩
   ·by_cases dF:i<n
    ·have h1:(i+1)*e.size≤n*e.size:=Nat.mul_le_mul_right _ dF
     rw[Nat.add_mul,Nat.one_mul]at h1
     rw[List.drop_append_of_le_length (by omega),List.take_append_of_le_length (by rw[List.length_drop];omega)]
     exact gB i hi dF
    ·obtain rfl:i=n:=by omega
     rw[List.drop_left' hl,List.take_of_length_le (by rw[JA.length];exact Nat.le_refl _)]
     exact JA
   ·rcases List.mem_append.1 hu with hu|hu
    ·exact Wz u hu
    ·exact JA.jQ u hu
 obtain⟨news,hl,lh,gB,Wz⟩:=key l.length (Nat.le_refl _)
 exact⟨b,off,cap,news,rfl,hl,lh,fun i hi=>gB i hi hi,Wz⟩
structure Core(c:Ctx)(σ:St)(tm:Array Value)(w:World)(M:Nat→Prop)(ν:Nat→Value):Prop where
 mem:Mem c σ.H w M ν
 tmp: ∀i,VR w M σ.H ν (σ.T i) (tm.getD i undef)
theorem JB(w:World)(M:Nat→Prop)(H:Nat→Option aR)(ν:Nat→Value)(v:Value):VR w M H ν (cvA v) v:=by
 unfold cvA
 split<;>simp[VR,V,Ty.isAgg,Rd]
theorem Core.op{c:Ctx}{σ:St}{tm:Array Value}{w:World}{M:Nat→Prop}{ν:Nat→Value}(h:Core c σ tm w M ν)(ds:List Deferred)(x:Operand):
  VR w M σ.H ν (σ.ρ x) (({tmps:=tm,defers:=ds}:Act).eval x):=by
 cases x with
 |tmp t=>exact h.tmp t
 |const v=>exact JB w M σ.H ν v
 |global g=>simp[St.ρ,VR]
 |func f=>simp[St.ρ,VR,fj,Act.eval]
def abr(P:Program)(t:TypeId)(τ:Ty):Prop:=
 ∀(w:World) (M:Nat→Prop) (u v:Value) (x y:τ.den) (b:BinOp) (xo yo:Operand),V w M τ u x→V w M τ v y→
  (eqGuard b t xo yo u v).run P w= .ok () w∧(binOp .eql t u v).run P w= .ok (.bool (pz τ x y)) w∧(binOp .neq t u v).run P w= .ok (.bool (!pz τ x y)) w
structure EnvTy(P:Program)(E:Env):Prop where
 ty: ∀t τ,E.ty t=some τ→gh P τ t
 eq: ∀t τ,E.ty t=some τ→τ.comparable=true→τ.isAgg=true→abr P t τ
end VM
end
section
namespace VM
open Go
variable{P:Program}
theorem sZ{o:Oper}{ρ:Operand→Value}{t:TypeId}{i:TypeInfo}{z:Value}(ho:o.op= .alloc t)(hi:P.info? t=some i)(hz:i.zero=some z)(w:World):
  (execOp ρ o).run P w= .ok (.value (.pointer (some ⟨w.heap.size,0,none⟩))) (w.alloc (.cells z.cells t)):=by
 simp[execOp,ho,Instr.alloc,zeroValue,typeInfo,hi,hz,newVar,newRow]
theorem xm{o:Oper}{ρ:Operand→Value}{t:TypeId}{x:Operand}(ho:o.op= .box t x)(w:World):
  (execOp ρ o).run P w= .ok (.value (.pointer (some ⟨w.heap.size,0,none⟩))) (w.alloc (.cells (ρ x).cells t)):=by
 simp[execOp,ho,Instr.box,newVar,newRow]
theorem od{τ:Ty}{t:TypeId}(h:gh P τ t)(w:World):(isAgg t).run P w= .ok τ.isAgg w:=by
 unfold gh at h
 cases τ<;>simp only[dq]at h
 ·simp[isAgg,run_underlying h.2,Ty.isAgg]
 ·simp[isAgg,run_underlying h.2,Ty.isAgg]
 ·simp[isAgg,run_underlying h.2,Ty.isAgg]
 ·obtain⟨_,e',h',_⟩:=h;simp[isAgg,run_underlying h',Ty.isAgg]
 ·obtain⟨_,e',h',_⟩:=h;simp[isAgg,run_underlying h',Ty.isAgg]
 ·obtain⟨_,e',f,h',_⟩:=h;simp[isAgg,run_underlying h',Ty.isAgg]
 ·obtain⟨_,e',h',_⟩:=h;simp[isAgg,run_underlying h',Ty.isAgg]
theorem bV{τ:Ty}{t:TypeId}(h:gh P τ t)(w:World):(Go.sizeOf t).run P w= .ok τ.size w:=by
 obtain⟨i,hi,hs,_⟩:=h.base
 simp[Go.sizeOf,typeInfo,hi,hs]
theorem vl{w:World}{M:Nat→Prop}{τ:Ty}{t:TypeId}(h:gh P τ t){b off:Nat}{cs:List Value}{x:τ.den}(ha:At w b off cs)(hr:Rd w M τ cs x):
  (loadVar t ⟨b,off,none⟩).run P w= .ok (bE τ cs) w:=by
 have hl:(loadCells ⟨b,off,none⟩ τ.size).run P w= .ok cs.toArray w:=by
  rw[←hr.length]
  exact run_loadCells_list w _ cs fun j v hj=>by rw[show(⟨b,off,none⟩:Addr).add j=⟨b,off+j,none⟩from by unfold Addr.add;split<;>simp_all];exact ha j v hj
 unfold bE
 by_cases C4:τ.isAgg=true
 ·simp[loadVar,od h,C4,bV h,hl]
 ·obtain⟨v,rfl,hc⟩:=hr.scalar (by simpa using C4)
  have h0:=ha 0 v rfl
  simp only[Nat.add_zero]at h0
  simp[loadVar,od h,C4,load,Sem.run,h0]
theorem p4{o:Oper}{ρ:Operand→Value}{t:TypeId}{x:Operand}(ho:o.op= .load t x){w:World}{M:Nat→Prop}{τ:Ty}(h:gh P τ t){b off:Nat}{cs:List Value}{y:τ.den}
  (hx:ρ x= .pointer (some ⟨b,off,none⟩)) (ha:At w b off cs) (hr:Rd w M τ cs y):
  (execOp ρ o).run P w= .ok (.value (bE τ cs)) w:=by
 simp[execOp,ho,hx,Instr.loadAt,Instr.sureAddr,vl h ha hr]
theorem iP{o:Oper}{ρ:Operand→Value}{t:TypeId}{x y:Operand}(ho:o.op= .store t x y){w:World}{τ:Ty}(h:gh P τ t){b off:Nat}{cur:Array Value}{te:TypeId}
  (hx:ρ x= .pointer (some ⟨b,off,none⟩)) (hg:w.heap[b]? =some (.cells cur te (0,0))) (hs:(ρ y).cells.size=τ.size) (hf:off+τ.size≤cur.size) (h1: ∀v∈(ρ y).cells.toList,v.oneCell'=true):
  (execOp ρ o).run P w= .ok .skip (w.setRow b (cur.toList.take off++(ρ y).cells.toList++cur.toList.drop (off+(ρ y).cells.toList.length)).toArray):=by
 have Gb:=run_storeCells_at (P:=P) b off te (ρ y).cells.toList 0 cur w hg (by simp[hs];omega) h1
 simp only[Nat.add_zero]at Gb
 simp[execOp,ho,hx,Instr.storeAt,Instr.sureAddr,storeVar,bV h,hs,Gb]
theorem oe{o:Oper}{ρ:Operand→Value}{t:TypeId}{x:Operand}{n:Nat}(ho:o.op= .fieldAddr t x n){w:World}{fs:Array Field}{f:Field}{b off:Nat}{υ:Ty}
  (hu:P.underlying t=some (.struct fs)) (hf:fs[n]? =some f) (hl:gh P υ f.type) (hz:υ.size≠0) (hx:ρ x= .pointer (some ⟨b,off,none⟩)):
  ∃a,(execOp ρ o).run P w= .ok (.value a) w∧a= .pointer (some ⟨b,off+f.offset,none⟩):=by
 refine⟨_,?_,rfl⟩
 simp[execOp,ho,hx,Instr.fieldAt,Instr.sureAddr,run_underlying hu,hf,fieldPlace,Addr.add_lit,bV hl,hz]
theorem s0{τ:Ty}{t:TypeId}(h:gh P τ t){w:World}{M:Nat→Prop}{cs:Array Value}{off:Nat}{x:τ.den}(hr:Rd w M τ ((cs.toList.drop off).take τ.size) x):
  (part t cs off).run P w= .ok (bE τ ((cs.toList.drop off).take τ.size)) w:=by
 have hl:=hr.length
 unfold bE
 by_cases C4:τ.isAgg=true
 ·simp only[part,Sem.run_bind,od h,Result.andThen_ok,C4,if_true,bV h]
  simp
  rw[List.length_take,List.length_drop,Array.length_toList]at hl
  apply Array.ext'
  simp only[Array.toList_extract,List.extract_eq_take_drop,Nat.add_sub_cancel_left]
 ·obtain⟨v,hv,hc⟩:=hr.scalar (by simpa using C4)
  rw[hv]
  have h0:cs[off]? =some v:=by
   have:=congrArg (fun l=>l[0]?) hv
   simp only[List.getElem?_take,List.getElem?_drop]at this
   split at this
   ·simpa using this
   ·simp at this
  simp[part,od h,C4,h0]
theorem Bo{o:Oper}{ρ:Operand→Value}{t:TypeId}{x:Operand}{n:Nat}(ho:o.op= .field t x n){w:World}{M:Nat→Prop}{fs:Array Field}{f:Field}{cs:Array Value}{υ:Ty}{y:υ.den}
  (hu:P.underlying t=some (.struct fs)) (hf:fs[n]? =some f) (hl:gh P υ f.type) (hx:ρ x= .agg cs) (hr:Rd w M υ ((cs.toList.drop f.offset).take υ.size) y):
  (execOp ρ o).run P w= .ok (.value (bE υ ((cs.toList.drop f.offset).take υ.size))) w:=by
 simp[execOp,ho,hx,Instr.field,run_underlying hu,hf,asAgg,s0 hl hr]
theorem gH{o:Oper}{ρ:Operand→Value}{t e:TypeId}{x i:Operand}(ho:o.op= .indexAddr t x i){w:World}{τe:Ty}{b off len cap:Nat}{k:IntKind}{n:Int}
  (hu:P.underlying t=some (.slice e)) (he:gh P τe e) (hx:ρ x= .slice (some ⟨b,off,none⟩) len cap) (hi:ρ i= .int k n) (h0:0≤n) (h1:n<(len:Int)):
  (execOp ρ o).run P w= .ok (.value (.pointer (some ⟨b,off+n.toNat*τe.size,none⟩))) w:=by
 simp[execOp,ho,hx,hi,Instr.indexAt,asIntOf,run_underlying hu,h0,h1,bV he,Addr.add_lit]
theorem nh{o:Oper}{ρ:Operand→Value}{t e:TypeId}{x i:Operand}(ho:o.op= .indexAddr t x i){w:World}{τe:Ty}{b off len:Nat}{k:IntKind}{n:Int}
  (hu:P.underlying t=some (.array len e)) (he:gh P τe e) (hx:ρ x= .pointer (some ⟨b,off,none⟩)) (hi:ρ i= .int k n) (h0:0≤n) (h1:n<(len:Int)):
  (execOp ρ o).run P w= .ok (.value (.pointer (some ⟨b,off+n.toNat*τe.size,none⟩))) w:=by
 simp[execOp,ho,hx,hi,Instr.indexAt,Instr.sureAddr,asIntOf,run_underlying hu,h0,h1,bV he,Addr.add_lit]
theorem zw{o:Oper}{ρ:Operand→Value}{t e:TypeId}{x i:Operand}(ho:o.op= .index t x i){w:World}{M:Nat→Prop}{τe:Ty}{len:Nat}{k:IntKind}{n:Int}{cs:Array Value}{y:τe.den}
  (hu:P.underlying t=some (.array len e)) (he:gh P τe e) (hx:ρ x= .agg cs) (hi:ρ i= .int k n) (h0:0≤n) (h1:n<(len:Int)) (hr:Rd w M τe ((cs.toList.drop (n.toNat*τe.size)).take τe.size) y):
  (execOp ρ o).run P w= .ok (.value (bE τe ((cs.toList.drop (n.toNat*τe.size)).take τe.size))) w:=by
 simp[execOp,ho,hx,hi,Instr.index,asIntOf,run_underlying hu,h0,h1,bV he,s0 he hr]
theorem xn{o:Oper}{ρ:Operand→Value}{x:Operand}{n:Nat}(ho:o.op= .extract x n){w:World}{us:List Value}{v:Value}(hx:ρ x= .tuple us.toArray)(hv:us[n]? =some v):
  (execOp ρ o).run P w= .ok (.value v) w:=by
 simp[execOp,ho,hx,Instr.extract,hv]
theorem C5{o:Oper}{ρ:Operand→Value}{x y z:Operand}(ho:o.op= .pick x y z){w:World}{b:Bool}(hx:ρ x= .bool b):
  (execOp ρ o).run P w= .ok (.value (if b then ρ y else ρ z)) w:=by
 simp[execOp,ho,hx,asBool]
theorem pC{o:Oper}{ρ:Operand→Value}{x:Operand}(ho:o.op= .nilCheck x){w:World}{a:Addr}(hx:ρ x= .pointer (some a)):
  (execOp ρ o).run P w= .ok (.value (.pointer (some a))) w:=by
 simp[execOp,ho,hx]
theorem wj{o:Oper}{ρ:Operand→Value}{f:FuncId}{first caps:Array Operand}(ho:o.op= .makeFunc (.func f) first caps)(hf:first= #[]){w:World}:
  (execOp ρ o).run P w= .ok (.value (.func (.func f) #[] (caps.map ρ))) w:=by
 subst hf
 simp[execOp,ho,Instr.makeFunc]
theorem xp{o:Oper}{ρ:Operand→Value}{s d:TypeId}{x:Operand}(ho:o.op= .convert s d x){w:World}{k k':IntKind}{n:Int}(hs:(P.underlying s).isSome=true)(hd:P.underlying d=some (.int k))(hx:ρ x= .int k' n):
  (execOp ρ o).run P w= .ok (.value (.int k (k.wrap n))) w:=by
 obtain⟨ds,hs⟩:=Option.isSome_iff_exists.1 hs
 simp[execOp,ho,hx,convert,run_underlying hs,run_underlying hd,Conv.intToInt]
theorem p5{o:Oper}{ρ:Operand→Value}{u:UnOp}{t:TypeId}{x:Operand}(ho:o.op= .unOp u t x){w:World}{v:Value}(h:(Op.unary u (ρ x)).run P w= .ok v w):
  (execOp ρ o).run P w= .ok (.value v) w:=by
 simp[execOp,ho,h]
theorem lj{o:Oper}{ρ:Operand→Value}{b:BinOp}{t t':TypeId}{x y:Operand}(ho:o.op= .binOp b t x y t'){w:World}{v:Value}
  (hg:(eqGuard b t x y (ρ x) (ρ y)).run P w= .ok () w) (h:(binOp b t (ρ x) (ρ y)).run P w= .ok v w):
  (execOp ρ o).run P w= .ok (.value v) w:=by
 simp[execOp,ho,hg,h]
theorem kN{b:BinOp}{t:TypeId}{x y:Operand}{k k':IntKind}{m n:Int}(w:World):(eqGuard b t x y (.int k m) (.int k' n)).run P w= .ok () w:=by
 cases b<;>simp[eqGuard]
theorem uA{b:BinOp}{t:TypeId}{x y:Operand}{m n:Bool}(w:World):(eqGuard b t x y (.bool m) (.bool n)).run P w= .ok () w:=by
 cases b<;>simp[eqGuard]
theorem wk{b:BinOp}{t:TypeId}{x y:Operand}{m n:ByteArray}(w:World):(eqGuard b t x y (.string m) (.string n)).run P w= .ok () w:=by
 cases b<;>simp[eqGuard]
theorem lX{o:Oper}{ρ:Operand→Value}{b:Builtin}{args:Array Operand}{ts:Array TypeId}(ho:o.op= .call {callee:= .builtin b,args,argTypes:=ts}){w:World}:
  ∃cs,(execOp ρ o).run P w=(builtin b ts o.type cs (args.map ρ)).run P w:=by
 refine⟨args.map fun| .const _=>true|_=>false,?_⟩
 simp[execOp,ho,resolve,invoke]
 rfl
end VM
end
section
namespace VM
open Go
theorem ni{α:Type}{r:α}: ∀{τ:Ty} {x:τ.den} {n:Nat} {m:(υ:Ty)→υ.den→(υ.den→Option α)→Option α} {k:τ.den→Option α},iM τ x n m k=some r→
  ∃υ y o k',wg τ x n υ y o∧m υ y k'=some r∧ ∀z r',k' z=some r'→ ∃x',k x'=some r'∧wg τ x' n υ z o∧
   ∀(w:World) (M:Nat→Prop) cs cs',Rd w M τ cs x→Rd w M υ cs' z→Rd w M τ (c5 cs o cs') x'
 | .pair a b,x,0,m,k,h=>by
  refine⟨a,x.1,0,_,.here x,h,fun z r' hz=>⟨(z,x.2),hz,.here (a:=a) (b:=b) (z,x.2),fun w M cs cs' hr dA=> ?_⟩⟩
  simp only[Rd]at hr ⊢
  obtain⟨c1,c2,rfl,h1,h2⟩:=hr
  refine⟨cs',c2,?_,dA,h2⟩
  rw[sW (by rw[dA.length,h1.length];omega)]
  congr 1
  unfold c5
  rw[Nat.zero_add,dA.length,←h1.length];simp
 | .pair a b,x,n+1,m,k,h=>by
  obtain⟨υ,y,o,k',hf,hm,hk⟩:=ni (τ:=b) (x:=x.2) (n:=n) (m:=m) (k:=fun z=>k (x.1,z)) h
  refine⟨υ,y,_,k',.there x hf,hm,fun z r' hz=> ?_⟩
  obtain⟨x',og,wh,gB⟩:=hk z r' hz
  refine⟨(x.1,x'),og,.there (a:=a) (b:=b) (x.1,x') wh,fun w M cs cs' hr dA=> ?_⟩
  simp only[Rd]at hr ⊢
  obtain⟨c1,c2,rfl,h1,h2⟩:=hr
  refine⟨c1,_,?_,h1,gB w M c2 cs' h2 dA⟩
  rw[←h1.length,qO]
 | .int _,_,_,_,_,h| .bool,_,_,_,_,h| .str,_,_,_,_,h| .slice _,_,_,_,_,h| .unit,_,_,_,_,h| .arr _ _,_,_,_,_,h=>by simp[iM]at h
def lY(w:World)(M:Nat→Prop)(e:Ty)(cs:List Value)(l:List e.den):Prop:=
 ∀i (h:i<l.length),Rd w M e ((cs.drop (i*e.size)).take e.size) l[i]
theorem cH{i n s:Nat}(h:i<n):i*s+s≤n*s:=by
 have:(i+1)*s≤n*s:=Nat.mul_le_mul_right _ h
 rw[Nat.add_mul,Nat.one_mul]at this;exact this
theorem lY.set{w:World}{M:Nat→Prop}{e:Ty}{cs:List Value}{l:List e.den}(h:lY w M e cs l)(hl:l.length*e.size≤cs.length){i:Nat}(hi:i<l.length){cs':List Value}{y:e.den}(hr:Rd w M e cs' y):
  lY w M e (c5 cs (i*e.size) cs') (l.set i y):=by
 have hlen:=hr.length
 intro j hj
 rw[List.length_set]at hj
 have h1:=cH (s:=e.size) hi
 have h2:=cH (s:=e.size) hj
 by_cases ng:j=i
 ·subst ng
  have:=Wx (a:=cs) (o:=j*e.size) (new:=cs') (by omega)
  rw[hlen]at this
  rw[this,List.getElem_set_self];exact hr
 ·rw[Bm (by
   rcases Nat.lt_or_gt_of_ne ng with dF|dF
   ·have:=cH (s:=e.size) dF;left;omega
   ·have:=cH (s:=e.size) dF;right;omega) (by omega),List.getElem_set_ne (Ne.symm ng)]
  exact h j hj
theorem lY.append{w:World}{M:Nat→Prop}{e:Ty}{c1 c2:List Value}{l1 l2:List e.den}(h1:lY w M e c1 l1)(hl:c1.length=l1.length*e.size)(h2:lY w M e c2 l2):lY w M e (c1++c2) (l1++l2):=by
 intro i hi
 by_cases dF:i<l1.length
 ·have:=cH (s:=e.size) dF
  rw[List.drop_append_of_le_length (by omega),List.take_append_of_le_length (by rw[List.length_drop];omega),List.getElem_append_left dF]
  exact h1 i dF
 ·rw[List.length_append]at hi
  obtain⟨k,rfl⟩: ∃k,i=l1.length+k:=⟨i-l1.length,by omega⟩
  rw[Nat.add_mul,←hl,←List.drop_drop,List.drop_left' rfl,List.getElem_append_right (by omega)]
  simp only[Nat.add_sub_cancel_left]
  exact h2 k (by omega)
theorem lY.take{w:World}{M:Nat→Prop}{e:Ty}{cs:List Value}{l:List e.den}(h:lY w M e cs l){n:Nat}(hn:l.length*e.size≤n):lY w M e (cs.take n) l:=by
 intro i hi
 have:=cH (s:=e.size) hi
 rw[List.drop_take,List.take_take,Nat.min_eq_left (by omega)]
 exact h i hi
theorem lY.more{w:World}{M:Nat→Prop}{e:Ty}{cs cs':List Value}{l:List e.den}(h:lY w M e cs l)(hl:l.length*e.size≤cs.length):lY w M e (cs++cs') l:=by
 intro i hi
 have:=cH (s:=e.size) hi
 rw[List.drop_append_of_le_length (by omega),List.take_append_of_le_length (by rw[List.length_drop];omega)]
 exact h i hi
theorem lY.br{w w':World}{M M':Nat→Prop}(k:c4 w M w' M'){e:Ty}{cs:List Value}{l:List e.den}(h:lY w M e cs l):lY w' M' e cs l:=fun i hi=>(h i hi).br k
theorem Rd.arr{w:World}{M:Nat→Prop}{n:Nat}{e:Ty}{cs:List Value}{x:(Ty.arr n e).den}:Rd w M (.arr n e) cs x↔List.length x=n∧cs.length=n*e.size∧lY w M e cs x:=by
 constructor
 ·intro h
  have hl:=h.length
  have h':=h
  simp only[Rd]at h'
  refine⟨h'.1,hl,fun i hi=> ?_⟩
  have:=h.idx (i:=i) (by omega)
  rw[gi x i e.zero hi]at this
  exact this
 ·rintro⟨hn,hl,hr⟩
  simp only[Rd]
  refine⟨hn,(List.range n).map fun i=>(cs.drop (i*e.size)).take e.size,by simp,?_,fun i hi j2=> ?_⟩
  ·
   have key: ∀m (l:List Value),l.length=m*e.size→l=((List.range m).map fun i=>(l.drop (i*e.size)).take e.size).flatten:=by
    intro m
    induction m with
    |zero=>intro l hl;simpa using hl
    |succ m ih=>
     intro l hl
     have h1:(l.take (m*e.size)).length=m*e.size:=by rw[List.length_take,hl,Nat.add_mul];omega
     have h2:=ih (l.take (m*e.size)) h1
     rw[List.range_succ,List.map_append,List.flatten_append]
     have h3:((List.range m).map fun i=>(l.drop (i*e.size)).take e.size)=(List.range m).map fun i=>((l.take (m*e.size)).drop (i*e.size)).take e.size:=by
      apply List.map_congr_left
      intro i hi
      have:=cH (s:=e.size) (List.mem_range.1 hi)
      rw[List.drop_take,List.take_take,Nat.min_eq_left (by omega)]
     rw[h3,←h2]
     simp only[List.map_cons,List.map_nil,List.flatten_cons,List.flatten_nil,List.append_nil]
     rw[List.take_of_length_le (l:=l.drop (m*e.size)) (by rw[List.length_drop,hl,Nat.add_mul];omega),List.take_append_drop]
   exact key n cs hl
  ·simp only[List.getElem_map,List.getElem_range]
   exact hr i hi
theorem ka{α:Type}{r:α}{υ:Ty}{y:υ.den}: ∀{p:List Step} {τ:Ty} {x:τ.den} {k:τ.den→Option α},pM υ y p τ x k=some r→
  ∃z,k z=some r∧zu p τ=υ∧(rq p τ→bA p τ+υ.size≤τ.size)∧ ∀(w:World) (M:Nat→Prop) cs cs',rq p τ→Rd w M τ cs x→Rd w M υ cs' y→Rd w M τ (c5 cs (bA p τ) cs') z
 |[],τ,x,k,h=>by
  obtain⟨e,h⟩:=aY (h:bU υ τ y k=some r)
  subst e
  refine⟨y,h,rfl,fun _=>by simp[bA],fun w M cs cs' _ hr dA=> ?_⟩
  unfold c5
  rw[show bA [] υ=0 from rfl,Nat.zero_add,dA.length,←hr.length]
  simpa using dA
 | .gg n::p,τ,x,k,h=>by
  obtain⟨υ',y',o,k',hf,hm,hk⟩:=ni (h:iM τ x n _ k=some r)
  obtain⟨z',zo,ht,zp,gB⟩:=ka (p:=p) (τ:=υ') (x:=y') (k:=k') hm
  obtain⟨x',og,wh,JA⟩:=hk z' r zo
  obtain⟨h1,h2⟩:=hf.eq
  subst h1 h2
  refine⟨x',og,ht,fun hi=>by have:=hf.bound;have:=zp hi;simp only[bA];omega,fun w M cs cs' hi hr dA=> ?_⟩
  have zp:=zp hi
  have h3:=gB w M _ cs' hi (hf.rd hr) dA
  have h4:=JA w M cs _ hr h3
  have hb:=hf.bound
  have Pr:=hr.length
  have hl2:=dA.length
  have OX:=h3.length
  have gC:bA p (pP τ n)+cs'.length≤((cs.drop (mV τ n)).take (pP τ n).size).length:=by
   rw[List.length_take,List.length_drop];omega
  have:c5 cs (mV τ n) (c5 ((cs.drop (mV τ n)).take (pP τ n).size) (bA p (pP τ n)) cs')=c5 cs (mV τ n+bA p (pP τ n)) cs':=by
   have e1:cs=cs.take (mV τ n)++(((cs.drop (mV τ n)).take (pP τ n).size)++cs.drop (mV τ n+(pP τ n).size)):=by
    rw[←List.drop_drop,List.take_append_drop,List.take_append_drop]
   have dF:(cs.take (mV τ n)).length=mV τ n:=by rw[List.length_take];omega
   conv=>rhs;rw[e1]
   rw[show mV τ n+bA p (pP τ n)=(cs.take (mV τ n)).length+bA p (pP τ n)from by rw[dF],qO,sW gC]
   generalize c5 ((cs.drop (mV τ n)).take (pP τ n).size) (bA p (pP τ n)) cs'=m at OX ⊢
   unfold c5
   rw[OX,List.append_assoc]
  simp only[bA]
  rw[←this]
  exact h4
 | .idx i::p,τ,x,k,h=>by
  cases τ with
  |arr n e=>
   obtain⟨z',zo,ht,zp,gB⟩:=ka (p:=p) (τ:=e) (x:=List.getD x i e.zero) (k:=fun z=>k (List.set x i z)) h
   refine⟨_,zo,ht,fun hi=>by
    obtain⟨⟨n',e',he,gC⟩,j2⟩:=hi
    cases he
    have:=zp j2
    have hm:=cH (s:=e.size) gC
    simp only[bA,Wv,Ty.size];omega,fun w M cs cs' hi hr dA=> ?_⟩
   obtain⟨⟨n',e',he,gC⟩,j2⟩:=hi
   cases he
   have h3:=gB w M _ cs' j2 (hr.idx gC) dA
   obtain⟨hn,Pr,Gc⟩:=Rd.arr.1 hr
   have hm:=cH (s:=e.size) gC
   have h4:=Gc.set (by rw[Pr,hn];exact Nat.le_refl _) (i:=i) (by omega) h3
   have hl2:=dA.length
   have OX:=h3.length
   have hch:((cs.drop (i*e.size)).take e.size).length=e.size:=by rw[List.length_take,List.length_drop];omega
   have zp:=zp j2
   have agT:bA p e+cs'.length≤((cs.drop (i*e.size)).take e.size).length:=by omega
   have:c5 cs (i*e.size) (c5 ((cs.drop (i*e.size)).take e.size) (bA p e) cs')=c5 cs (i*e.size+bA p e) cs':=by
    have e1:cs=cs.take (i*e.size)++(((cs.drop (i*e.size)).take e.size)++cs.drop (i*e.size+e.size)):=by
     rw[←List.drop_drop,List.take_append_drop,List.take_append_drop]
    have dF:(cs.take (i*e.size)).length=i*e.size:=by rw[List.length_take];omega
    conv=>rhs;rw[e1]
    rw[show i*e.size+bA p e=(cs.take (i*e.size)).length+bA p e from by rw[dF],qO,sW agT]
    generalize c5 ((cs.drop (i*e.size)).take e.size) (bA p e) cs'=m at OX ⊢
    unfold c5
    rw[OX,List.append_assoc]
   simp only[bA,Wv]
   rw[←this]
   refine Rd.arr.2 ⟨by rw[List.length_set];exact hn,?_,h4⟩
   rw[dR (by rw[OX];omega)];exact Pr
  |_=>simp[pM,wT]at h
end VM
end
