/- A part of the proof of AwardPays of layer 25: a machine that reads a function of the program as an equation between values. -/
import Derived.Test.YtocmlaipoebfeaaGreatVm0
import Derived.WalkLawsBesides
import Derived.Great.BuildSlice
import Derived.Laws.Tables
set_option linter.all false
section
namespace VM
open Go
structure Ctx where
 B:Nat
 w0:World
 M0:Nat→Prop
 may:Nat→Prop
 arg:Nat→Value
structure Mem(c:Ctx)(H:Nat→Option aR)(w:World)(M:Nat→Prop)(ν:Nat→Value):Prop where
 iT: ∀i e,H i=some e→ER w M (ν i) e
 vy: ∀i j e e' b,i≠j→H i=some e→e.mut→H j=some e'→e'.mut→eA (ν i)=some b→eA (ν j)≠some b
 new: ∀i e b,H i=some e→e.mut→eA (ν i)=some b→c.B≤b∨c.may b
 tY: ∀i e l b,H i=some (.own e l)→eA (ν i)=some b→ ¬c.M0 b
 dY: ∀i τ x p j,H i=some (.dY τ x p j)→H j≠none∧ ∃b,ν i= .pointer (some ⟨b,0,none⟩)∧w.cell? ⟨b,bD p τ,none⟩=some (ν j)
 sub: ∀b,c.M0 b→M b
 yz: ∀b,M b→b<w.heap.size
 frame: ∀b,b<c.B→ ¬c.may b→w.heap[b]? =c.w0.heap[b]?
 size:c.B≤w.heap.size
 qL:(∀b,c.M0 b→b<c.B)∧ ∀b,c.may b→ ¬c.M0 b
 os:w.os=c.w0.os
 tape:w.tape=c.w0.tape
 output:w.output=c.w0.output
structure Tr(c:Ctx)(H:Nat→Option aR)(w:World)(M:Nat→Prop)(ν:Nat→Value)(H':Nat→Option aR)(w':World)(M':Nat→Prop)(ν':Nat→Value):Prop where
 mem:Mem c H' w' M' ν'
 bp:dh w M w' M'
 goes:oJ H ν H' ν'
theorem aR.ic.trans{a b d:aR}(h:a.ic b)(k:b.ic d):a.ic d:=by
 cases a<;>cases b<;>cases d<;>simp only[aR.ic]at h k ⊢ <;>first
  |exact h.trans k
  |exact⟨h.1.trans k.1,h.2.trans k.2⟩
theorem oJ.trans{H H' H'':Nat→Option aR}{ν ν' ν'':Nat→Value}(h:oJ H ν H' ν')(k:oJ H' ν' H'' ν''):oJ H ν H'' ν'':=by
 refine⟨fun i e he=> ?_,fun i hi=> ?_⟩
 ·obtain⟨e',sV,l⟩:=h.iT i e he
  obtain⟨e'',ajb,l'⟩:=k.iT i e' sV
  exact⟨e'',ajb,l.trans l'⟩
 ·obtain⟨e,he⟩:=avU.1 hi
  obtain⟨e',sV,_⟩:=h.iT i e he
  rw[k.head i (by simp[sV]),h.head i hi]
theorem Tr.trans{c:Ctx}{H H' H'':Nat→Option aR}{w w' w'':World}{M M' HF:Nat→Prop}{ν ν' ν'':Nat→Value}
  (h:Tr c H w M ν H' w' M' ν') (k:Tr c H' w' M' ν' H'' w'' HF ν''):Tr c H w M ν H'' w'' HF ν'':=
 ⟨k.mem,h.bp.trans k.bp,h.goes.trans k.goes⟩
theorem Tr.refl{c:Ctx}{H:Nat→Option aR}{w:World}{M:Nat→Prop}{ν:Nat→Value}(h:Mem c H w M ν):Tr c H w M ν H w M ν:=
 ⟨h,.refl w M,.refl H ν⟩
theorem ak(H:Nat→Option aR)(d:Nat)(v:Option aR):bo H d v d=v:=by simp[bo]
theorem al(H:Nat→Option aR){d i:Nat}(v:Option aR)(h:i≠d):bo H d v i=H i:=by
 have:Nat.beq i d=false:=by rw[←avi,awQ];exact h
 simp[bo,this]
def bU(H:Nat→Option aR):fD→(Nat→Option aR)
 |[]=>H
 |u::r=>bU (bo H u.1 u.2) r
theorem H7(ups:fD): ∀σ:St,(σ.qT ups).H=bU σ.H ups:=by
 induction ups with
 |nil=>intro σ;rfl
 |cons u r ih=>intro σ;exact ih _
theorem H8(ups:fD): ∀σ:St,(σ.qT ups).T=σ.T:=by
 induction ups with
 |nil=>intro σ;rfl
 |cons u r ih=>intro σ;exact ih _
theorem ei(a b:fD): ∀H,bU H (a++b)=bU (bU H a) b:=by
 induction a with
 |nil=>intro H;rfl
 |cons u r ih=>intro H;exact ih _
theorem rZ{H:Nat→Option aR}{id j:Nat}{v:aR}(h:H j≠none):bo H id (some v) j≠none:=by
 by_cases hj:j=id
 ·subst hj;rw[ak];simp
 ·rw[al _ _ hj];exact h
theorem Cy{H:Nat→Option aR}{w:World}{ν:Nat→Value}(h: ∀i τ x p j,H i=some (.dY τ x p j)→H j≠none∧ ∃b,ν i= .pointer (some ⟨b,0,none⟩)∧w.cell? ⟨b,bD p τ,none⟩=some (ν j)){id:Nat}{v:aR}(hv: ∀τ x p j,v≠ .dY τ x p j):
  ∀i τ x p j,bo H id (some v) i=some (.dY τ x p j)→bo H id (some v) j≠none∧ ∃b,ν i= .pointer (some ⟨b,0,none⟩)∧w.cell? ⟨b,bD p τ,none⟩=some (ν j):=by
 intro i τ x p j hi
 by_cases br:i=id
 ·subst br;rw[ak]at hi;cases hi;exact absurd rfl (hv _ _ _ _)
 ·rw[al _ _ br]at hi
  obtain⟨h1,h2⟩:=h i τ x p j hi
  exact⟨rZ h1,h2⟩
theorem Tr.gone{c:Ctx}{H:Nat→Option aR}{w:World}{M:Nat→Prop}{ν:Nat→Value}(h:Mem c H w M ν)(id:Nat):Tr c H w M ν (bo H id (some .gone)) w M ν:=by
 refine⟨⟨fun i e he=> ?_,fun i j e e' b nX hi hm hj gP=> ?_,fun i e b hi hm=> ?_,fun i e l b hi=> ?_,Cy h.dY (fun _ _ _ _=>by simp),h.sub,h.yz,h.frame,h.size,h.qL,h.os,h.tape,h.output⟩,.refl w M,⟨fun i e he=> ?_,fun _ _=>rfl⟩⟩
 ·by_cases aT:i=id
  ·subst aT;rw[ak]at he;cases he;simp[ER]
  ·rw[al _ _ aT]at he;exact h.iT i e he
 ·by_cases aT:i=id
  ·subst aT;rw[ak]at hi;cases hi;simp[aR.mut]at hm
  ·by_cases hjd:j=id
   ·subst hjd;rw[ak]at hj;cases hj;simp[aR.mut]at gP
   ·rw[al _ _ aT]at hi;rw[al _ _ hjd]at hj;exact h.vy i j e e' b nX hi hm hj gP
 ·by_cases aT:i=id
  ·subst aT;rw[ak]at hi;cases hi;simp[aR.mut]at hm
  ·rw[al _ _ aT]at hi;exact h.new i e b hi hm
 ·by_cases aT:i=id
  ·subst aT;rw[ak]at hi;cases hi
  ·rw[al _ _ aT]at hi;exact h.tY i e l b hi
 ·by_cases aT:i=id
  ·subst aT;exact⟨.gone,ak _ _ _,by cases e<;>simp[aR.ic]⟩
  ·exact⟨e,by rw[al _ _ aT];exact he,.refl e⟩
theorem cell_of{w:World}{b:Nat}{cs:Array Value}{t:TypeId}{fz:Nat×Nat}(h:w.heap[b]? =some (.cells cs t fz))(o:Nat):w.cell? ⟨b,o,none⟩=cs[o]? :=by
 simp[World.cell?,h]
theorem At.of_block{w:World}{b:Nat}{cs:Array Value}{t:TypeId}{fz:Nat×Nat}(h:w.heap[b]? =some (.cells cs t fz))(o n:Nat):
  At w b o ((cs.toList.drop o).take n):=by
 intro j v hj
 rw[cell_of h]
 rw[auN]at hj
 split at hj
 ·rw[auO]at hj;simpa using hj
 ·cases hj
theorem lt_of_block{w:World}{b:Nat}{o:Obj}(h:w.heap[b]? =some o):b<w.heap.size:=(aup.1 h).1
theorem ER.bp{w w':World}{M M':Nat→Prop}{v:Value}(k:dh w M w' M'): ∀{e:aR},
  (e.mut→ ∀b,eA v=some b→w'.heap[b]? =w.heap[b]? ∧M' b)→ER w M v e→ER w' M' v e
 | .obj τ x,hm,h=>by
  simp only[ER]at h ⊢
  obtain⟨b,cs,t,rfl,hb,hM,hr⟩:=h
  obtain⟨h1,h2⟩:=hm trivial b rfl
  exact⟨b,cs,t,rfl,h1.trans hb,h2,hr.bp k⟩
 | .dY τ x p j,hm,h=>by
  simp only[ER]at h ⊢
  obtain⟨b,cs,t,nW,u,rfl,hb,hM,hr,h3⟩:=h
  obtain⟨h1,h2⟩:=hm trivial b rfl
  exact⟨b,cs,t,nW,u,rfl,h1.trans hb,h2,hr.bp k,h3⟩
 | .own e l,hm,h=>by
  simp only[ER]at h ⊢
  rcases h with h|⟨b,cs,t,cap,rfl,hb,hM,hc,hl,AB,hs,hr⟩
  ·exact .inl h
  ·obtain⟨h1,h2⟩:=hm trivial b (by simp[eA];omega)
   exact .inr ⟨b,cs,t,cap,rfl,h1.trans hb,h2,hc,hl,AB,hs,fun i hi=>(hr i hi).bp k⟩
 | .kF e l,_,h=>by
  simp only[ER]at h ⊢
  exact⟨h.1.bp k,h.2⟩
 | .gone,_,_=>by simp[ER]
theorem ER.tg{w:World}{M:Nat→Prop}{v:Value}{e:aR}(h:ER w M v e)(hm:e.mut){b:Nat}(hb:eA v=some b):M b:=by
 cases e with
 |obj τ x=>simp only[ER]at h;obtain⟨b',cs,t,hv,dx,hM,_⟩:=h;rw[hv]at hb;simp only[eA,auF]at hb;subst hb;exact hM
 |dY τ x p j=>simp only[ER]at h;obtain⟨b',cs,t,_,_,hv,dx,hM,_⟩:=h;rw[hv]at hb;simp only[eA,auF]at hb;subst hb;exact hM
 |own e1 l1=>
  simp only[ER]at h
  rcases h with⟨_,a,hv⟩|⟨b',cs,t,cap,hv,dx,hM,hc,_⟩
  ·rw[hv]at hb;cases a<;>simp[eA]at hb
  ·rw[hv]at hb;simp only[eA]at hb;split at hb
   ·cases hb
   ·simp only[auF]at hb;subst hb;exact hM
 |kF _ _=>simp[aR.mut]at hm
 |gone=>simp[aR.mut]at hm
theorem Tr.freeze{c:Ctx}{H:Nat→Option aR}{w:World}{M:Nat→Prop}{ν:Nat→Value}(h:Mem c H w M ν){id:Nat}{e:Ty}{l:List e.den}(aT:H id=some (.own e l)):
  ∃M',Tr c H w M ν (bo H id (some (.kF e l))) w M' ν∧V w M' (.slice e) (ν id) l∧ ∀b,M' b↔(M b∧eA (ν id)≠some b):=by
 have hk:dh w M w (fun b=>M b∧eA (ν id)≠some b):=⟨atP _,fun _ _ _=>rfl,fun _ _ h=>h.1⟩
 have he:=h.iT id _ aT
 have g4:Rd w (fun b=>M b∧eA (ν id)≠some b) (.slice e) [ν id] l:=by
  simp only[ER]at he
  simp only[Rd]
  rcases he with⟨rfl,a,hv⟩|⟨b,cs,t,cap,hv,hb,hM,hc,hl,AB,hs,hr⟩
  ·exact⟨a,0,by rw[hv];rfl,atP _,fun i hi=>absurd hi (by simp)⟩
  ·refine⟨_,cap,by rw[hv],hl,fun i hi=>⟨b,0,rfl,lt_of_block hb,fun hm=>hm.2 (by rw[hv];simp[eA];omega),_,?_,(hr i hi).bp hk⟩⟩
   rw[auP]
   exact At.of_block hb _ _
 refine⟨fun b=>M b∧eA (ν id)≠some b,⟨⟨fun i e' hi=> ?_,fun i j e1 e2 b nX hi hm hj gP=> ?_,fun i e1 b hi hm=> ?_,fun i e1 l1 b hi=> ?_,Cy h.dY (fun _ _ _ _=>by simp),fun b hb=>⟨h.sub b hb,fun hm=>h.tY id e l b aT hm hb⟩,fun b hb=>h.yz b hb.1,h.frame,h.size,h.qL,h.os,h.tape,h.output⟩,hk,⟨fun i e' hi=> ?_,fun _ _=>rfl⟩⟩,?_,fun _=>Iff.rfl⟩
 ·by_cases br:i=id
  ·subst br;rw[ak]at hi;cases hi
   simp only[ER]
   refine⟨g4,?_⟩
   simp only[ER]at he
   rcases he with⟨rfl,a,hv⟩|⟨b,cs,t,cap,hv,_⟩
   ·exact .inl ⟨rfl,a,0,0,hv⟩
   ·exact .inr ⟨b,_,cap,hv⟩
  ·rw[al _ _ br]at hi
   refine(h.iT i e' hi).bp hk (fun hm b hb=>⟨rfl,?_,?_⟩)
   ·exact(h.iT i e' hi).tg hm hb
   ·exact h.vy i id e' (.own e l) b br hi hm aT trivial hb
 ·by_cases br:i=id
  ·subst br;rw[ak]at hi;cases hi;simp[aR.mut]at hm
  ·by_cases AD:j=id
   ·subst AD;rw[ak]at hj;cases hj;simp[aR.mut]at gP
   ·rw[al _ _ br]at hi;rw[al _ _ AD]at hj;exact h.vy i j e1 e2 b nX hi hm hj gP
 ·by_cases br:i=id
  ·subst br;rw[ak]at hi;cases hi;simp[aR.mut]at hm
  ·rw[al _ _ br]at hi;exact h.new i e1 b hi hm
 ·by_cases br:i=id
  ·subst br;rw[ak]at hi;cases hi
  ·rw[al _ _ br]at hi;exact h.tY i e1 l1 b hi
 ·by_cases br:i=id
  ·subst br;rw[aT]at hi;cases hi;exact⟨_,ak _ _ _,rfl,rfl⟩
  ·exact⟨e',by rw[al _ _ br];exact hi,.refl e'⟩
 ·unfold V;rw[atL (by simp[Ty.isAgg])];exact g4
theorem Tr.fix{c:Ctx}{H:Nat→Option aR}{w:World}{M:Nat→Prop}{ν:Nat→Value}(h:Mem c H w M ν){id:Nat}{τ:Ty}{x:τ.den}(aT:H id=some (.obj τ x)):
  ∃M' b,Tr c H w M ν (bo H id (some .gone)) w M' ν∧ν id= .pointer (some ⟨b,0,none⟩)∧b<w.heap.size∧ ¬M' b∧ ∃cs,At w b 0 cs∧Rd w M' τ cs x:=by
 have he:=h.iT id _ aT
 simp only[ER]at he
 obtain⟨b0,cs,t,hv,hb,hM,hr⟩:=he
 have tZ:eA (ν id)=some b0:=by rw[hv];rfl
 have hk:dh w M w (fun b=>M b∧b≠b0):=⟨atP _,fun _ _ _=>rfl,fun _ _ h=>h.1⟩
 have Ej: ¬c.M0 b0:=fun hm=>(h.new id _ b0 aT trivial tZ).elim (fun hB=>by have:=h.qL.1 b0 hm;omega) (fun hB=>h.qL.2 b0 hB hm)
 refine⟨fun b=>M b∧b≠b0,b0,⟨⟨fun i e' hi=> ?_,fun i j e1 e2 b nX hi hm hj gP=> ?_,fun i e1 b hi hm=> ?_,fun i e1 l1 b hi=> ?_,Cy h.dY (fun _ _ _ _=>by simp),fun b dx=>⟨h.sub b dx,fun e=>Ej (e▸dx)⟩,fun b dx=>h.yz b dx.1,h.frame,h.size,h.qL,h.os,h.tape,h.output⟩,hk,⟨fun i e' hi=> ?_,fun _ _=>rfl⟩⟩,hv,lt_of_block hb,fun hm=>hm.2 rfl,cs.toList,?_,hr.bp hk⟩
 ·by_cases br:i=id
  ·subst br;rw[ak]at hi;cases hi;simp[ER]
  ·rw[al _ _ br]at hi
   refine(h.iT i e' hi).bp hk (fun hm b dx=>⟨rfl,?_,?_⟩)
   ·exact(h.iT i e' hi).tg hm dx
   ·intro e
    exact h.vy i id e' (.obj τ x) b br hi hm aT trivial dx (by rw[tZ,e])
 ·by_cases br:i=id
  ·subst br;rw[ak]at hi;cases hi;simp[aR.mut]at hm
  ·by_cases AD:j=id
   ·subst AD;rw[ak]at hj;cases hj;simp[aR.mut]at gP
   ·rw[al _ _ br]at hi;rw[al _ _ AD]at hj;exact h.vy i j e1 e2 b nX hi hm hj gP
 ·by_cases br:i=id
  ·subst br;rw[ak]at hi;cases hi;simp[aR.mut]at hm
  ·rw[al _ _ br]at hi;exact h.new i e1 b hi hm
 ·by_cases br:i=id
  ·subst br;rw[ak]at hi;cases hi
  ·rw[al _ _ br]at hi;exact h.tY i e1 l1 b hi
 ·by_cases br:i=id
  ·subst br;rw[aT]at hi;cases hi;exact⟨_,ak _ _ _,trivial⟩
  ·exact⟨e',by rw[al _ _ br];exact hi,.refl e'⟩
 ·have:=At.of_block hb 0 cs.toList.length
  rwa [aui,avv]at this
end VM
end
section
namespace VM
open Go
theorem yA(w:World)(o:Obj):(w.alloc o).heap[w.heap.size]? =some o:=by
 show(w.heap.push o)[w.heap.size]? =some o
 simp
theorem mB(w:World)(o:Obj){i:Nat}(h:i<w.heap.size):(w.alloc o).heap[i]? =w.heap[i]? :=by
 show(w.heap.push o)[i]? =w.heap[i]?
 rw[Array.getElem?_push,atL (Nat.ne_of_lt h)]
theorem size_alloc(w:World)(o:Obj):(w.alloc o).heap.size=w.heap.size+1:=by
 show(w.heap.push o).size=_
 simp
def cn(ν:Nat→Value)(d:Nat)(v:Value):Nat→Value:=fun i=>if i=d then v else ν i
theorem mP{c:Ctx}{H:Nat→Option aR}{w w':World}{M:Nat→Prop}{ν ν':Nat→Value}(h:Mem c H w M ν){H':Nat→Option aR}
  (hν: ∀i,H i≠none→ν' i=ν i) (hn: ∀i,H i≠none→H' i≠none)
  (hi: ∀i τ x p j,H' i=some (.dY τ x p j)→(H i=some (.dY τ x p j)∧ ∀b,ν i= .pointer (some ⟨b,0,none⟩)→w'.heap[b]? =w.heap[b]?)∨(H' j≠none∧ ∃b,ν' i= .pointer (some ⟨b,0,none⟩)∧w'.cell? ⟨b,bD p τ,none⟩=some (ν' j))):
  ∀i τ x p j,H' i=some (.dY τ x p j)→H' j≠none∧ ∃b,ν' i= .pointer (some ⟨b,0,none⟩)∧w'.cell? ⟨b,bD p τ,none⟩=some (ν' j):=by
 intro i τ x p j he
 rcases hi i τ x p j he with⟨h1,hb⟩|h1
 ·obtain⟨h2,b,h3,h4⟩:=h.dY i τ x p j h1
  refine⟨hn j h2,b,by rw[hν i (by rw[h1];simp)];exact h3,?_⟩
  rw[hν j h2,World.cell?_of_block (w:=w) (hb b h3)]
  exact h4
 ·exact h1
theorem sa{H:Nat→Option aR}{id:Nat}{v:aR}: ∀i,H i≠none→bo H id (some v) i≠none:=fun _ h=>rZ h
theorem uq{H:Nat→Option aR}{id:Nat}{v:aR}(hv: ∀τ x p j,v≠ .dY τ x p j){i:Nat}{τ:Ty}{x:τ.den}{p:List Step}{j:Nat}(h:bo H id (some v) i=some (.dY τ x p j)):H i=some (.dY τ x p j):=by
 by_cases br:i=id
 ·subst br;rw[ak]at h;cases h;exact absurd rfl (hv _ _ _ _)
 ·rw[al _ _ br]at h;exact h
theorem Tr.alloc{c:Ctx}{H:Nat→Option aR}{w:World}{M:Nat→Prop}{ν:Nat→Value}(h:Mem c H w M ν){id:Nat}(aT:H id=none)(o:Obj)(v:Value)(e:aR)(hm:e.mut)(Bq: ∀τ x p j,e≠ .dY τ x p j)
  (hb:eA v=none∨eA v=some w.heap.size) (KW:ER (w.alloc o) (fun b=>M b∨b=w.heap.size) v e):
  Tr c H w M ν (bo H id (some e)) (w.alloc o) (fun b=>M b∨b=w.heap.size) (cn ν id v):=by
 have hk:dh w M (w.alloc o) (fun b=>M b∨b=w.heap.size):=
  ⟨by rw[size_alloc];omega,fun b hb _=>mB w o hb,fun b hb h'=>h'.resolve_right (by omega)⟩
 have hν: ∀i,i≠id→cn ν id v i=ν i:=fun i hi=>by simp[cn,hi]
 have xp:cn ν id v id=v:=by simp[cn]
 have dZ: ∀i e' b,H i=some e'→e'.mut→eA (ν i)=some b→b<w.heap.size:=fun i e' b hi gP dx=>h.yz b ((h.iT i e' hi).tg gP dx)
 refine⟨⟨fun i e' hi=> ?_,fun i j e1 e2 b nX hi o6 hj ur=> ?_,fun i e1 b hi o6=> ?_,fun i e1 l1 b hi=> ?_,mP h (fun i hi=>hν i (fun e=>hi (e▸aT))) sa (fun i τ x p j hi=> .inl ⟨uq Bq hi,fun b hb=>mB w o (dZ i _ b (uq Bq hi) trivial (by rw[hb];rfl))⟩),fun b hb=> .inl (h.sub b hb),fun b dx=> ?_,fun b jS th=> ?_,?_,h.qL,h.os,h.tape,h.output⟩,hk,⟨fun i e' hi=> ?_,fun i hi=> ?_⟩⟩
 ·by_cases br:i=id
  ·subst br;rw[ak]at hi;cases hi;rw[xp];exact KW
  ·rw[al _ _ br]at hi;rw[hν i br]
   exact(h.iT i e' hi).bp hk fun gP b dx=>⟨mB w o (dZ i e' b hi gP dx),.inl ((h.iT i e' hi).tg gP dx)⟩
 ·by_cases br:i=id
  ·subst br;rw[ak]at hi;cases hi;rw[xp]
   intro jS
   have AD:j≠i:=avr nX
   rw[al _ _ AD]at hj;rw[hν j AD]
   intro th
   have:=dZ j e2 b hj ur th
   rcases hb with hb|hb<;>rw[hb]at jS<;>simp at jS
   omega
  ·rw[al _ _ br]at hi;rw[hν i br]
   by_cases AD:j=id
   ·subst AD;rw[xp]
    intro jS th
    have:=dZ i e1 b hi o6 jS
    rcases hb with hb|hb<;>rw[hb]at th<;>simp at th
    omega
   ·rw[al _ _ AD]at hj;rw[hν j AD];exact h.vy i j e1 e2 b nX hi o6 hj ur
 ·by_cases br:i=id
  ·subst br;rw[xp]
   intro jS
   rcases hb with hb|hb<;>rw[hb]at jS<;>simp at jS
   subst jS;exact .inl h.size
  ·rw[al _ _ br]at hi;rw[hν i br];exact h.new i e1 b hi o6
 ·by_cases br:i=id
  ·subst br;rw[xp]
   intro jS h0
   rcases hb with hb|hb<;>rw[hb]at jS<;>simp at jS
   have:=h.qL.1 b h0
   have:=h.size
   omega
  ·rw[al _ _ br]at hi;rw[hν i br];exact h.tY i e1 l1 b hi
 ·rw[size_alloc]
  rcases dx with dx|dx
  ·have:=h.yz b dx;omega
  ·omega
 ·rw[mB w o (auU jS h.size)];exact h.frame b jS th
 ·rw[size_alloc];have:=h.size;omega
 ·by_cases br:i=id
  ·subst br;rw[aT]at hi;cases hi
  ·exact⟨e',by rw[al _ _ br];exact hi,.refl e'⟩
 ·have br:i≠id:=fun e=>hi (e▸aT)
  exact hν i br
theorem Tr.var{c:Ctx}{H:Nat→Option aR}{w:World}{M:Nat→Prop}{ν:Nat→Value}(h:Mem c H w M ν){id:Nat}(aT:H id=none)(t:TypeId){τ:Ty}{cs:Array Value}{x:τ.den}(hr:Rd w M τ cs.toList x):
  Tr c H w M ν (bo H id (some (.obj τ x))) (w.alloc (.cells cs t)) (fun b=>M b∨b=w.heap.size) (cn ν id (.pointer (some ⟨w.heap.size,0,none⟩))):=by
 refine Tr.alloc h aT _ _ _ trivial (fun _ _ _ _=>by simp) (.inr rfl) ?_
 simp only[ER]
 have hk:dh w M (w.alloc (.cells cs t)) (fun b=>M b∨b=w.heap.size):=
  ⟨by rw[size_alloc];omega,fun b hb _=>mB w _ hb,fun b hb h'=>h'.resolve_right (by omega)⟩
 exact⟨w.heap.size,cs,t,rfl,yA w _,.inr rfl,hr.bp hk⟩
theorem Tr.row{c:Ctx}{H:Nat→Option aR}{w:World}{M:Nat→Prop}{ν:Nat→Value}(h:Mem c H w M ν){id:Nat}(aT:H id=none)(t:TypeId){e:Ty}{cs:Array Value}{l:List e.den}{cap:Nat}
  (hl:l.length≤cap) (hm:cap≤maxLen) (hs:cs.size=cap*e.size) (hr: ∀i (hi:i<l.length),Rd w M e ((cs.toList.drop (i*e.size)).take e.size) l[i]):
  Tr c H w M ν (bo H id (some (.own e l))) (w.alloc (.cells cs t)) (fun b=>M b∨b=w.heap.size) (cn ν id (.slice (some ⟨w.heap.size,0,none⟩) l.length cap)):=by
 have hk:dh w M (w.alloc (.cells cs t)) (fun b=>M b∨b=w.heap.size):=
  ⟨by rw[size_alloc];omega,fun b hb _=>mB w _ hb,fun b hb h'=>h'.resolve_right (by omega)⟩
 refine Tr.alloc h aT _ _ _ trivial (fun _ _ _ _=>by simp) ?_ ?_
 ·simp only[eA];split
  ·exact .inl rfl
  ·exact .inr rfl
 ·simp only[ER]
  by_cases hc:cap=0
  ·subst hc
   have hl0:l=[]:=auQ (by omega)
   subst hl0
   exact .inl ⟨rfl,_,rfl⟩
  ·exact .inr ⟨w.heap.size,cs,t,cap,rfl,yA w _,.inr rfl,by omega,hl,hm,hs,fun i hi=>(hr i hi).bp hk⟩
theorem Tr.drew{c:Ctx}{H:Nat→Option aR}{w:World}{M:Nat→Prop}{ν:Nat→Value}(h:Mem c H w M ν):Tr c H w M ν H w.drew M ν:=by
 have hk:dh w M w.drew M:=⟨atP _,fun _ _ _=>rfl,fun _ _ h=>h⟩
 exact⟨⟨fun i e he=>(h.iT i e he).bp hk fun hm b hb=>⟨rfl,(h.iT i e he).tg hm hb⟩,h.vy,h.new,h.tY,h.dY,h.sub,h.yz,h.frame,h.size,h.qL,h.os,h.tape,h.output⟩,hk,.refl H ν⟩
theorem size_setRow(w:World)(g:Nat)(cs:Array Value):(w.setRow g cs).heap.size=w.heap.size:=by simp[World.setRow]
theorem Tr.write{c:Ctx}{H:Nat→Option aR}{w:World}{M:Nat→Prop}{ν:Nat→Value}(h:Mem c H w M ν){id:Nat}{e e':aR}(aT:H id=some e)(hm:e.mut)(gP:e'.mut)(hl:e.ic e')
  {b:Nat} (hb:eA (ν id)=some b) {cs new:Array Value} {t:TypeId} (hg:w.heap[b]? =some (.cells cs t (0,0)))
  (KW: ∀M',dh w M (w.setRow b new) M'→M' b→ER (w.setRow b new) M' (ν id) e')
  (oK: ∀τ x p j,e'= .dY τ x p j→H j≠none∧ ∃b',ν id= .pointer (some ⟨b',0,none⟩)∧(w.setRow b new).cell? ⟨b',bD p τ,none⟩=some (ν j):=by intro _ _ _ _ h;cases h):
  Tr c H w M ν (bo H id (some e')) (w.setRow b new) M ν:=by
 have Ys:M b:=(h.iT id e aT).tg hm hb
 have hk:dh w M (w.setRow b new) M:=
  ⟨by rw[size_setRow];exact atP _,fun b' _ hm=>setRow_other w b b' new (fun e=>hm (e▸Ys)),fun _ _ h=>h⟩
 refine⟨⟨fun i e1 hi=> ?_,fun i j e1 e2 b1 nX hi o6 hj ur=> ?_,fun i e1 b1 hi o6=> ?_,fun i e1 l1 b1 hi=> ?_,mP h (fun _ _=>rfl) sa (fun i τ x p j hi=> ?_),h.sub,fun b1 jS=>by rw[size_setRow];exact h.yz b1 jS,fun b1 jS th=> ?_,by rw[size_setRow];exact h.size,h.qL,h.os,h.tape,h.output⟩,hk,⟨fun i e1 hi=> ?_,fun i hi=>rfl⟩⟩
 ·by_cases br:i=id
  ·subst br;rw[ak]at hi;cases hi;exact KW M hk Ys
  ·rw[al _ _ br]at hi
   exact(h.iT i e1 hi).bp hk fun o6 b1 jS=>⟨setRow_other w b b1 new (fun e'=>h.vy i id e1 e b1 br hi o6 aT hm jS (e'▸hb)),(h.iT i e1 hi).tg o6 jS⟩
 ·by_cases br:i=id
  ·subst br;rw[ak]at hi;cases hi
   have AD:j≠i:=avr nX
   rw[al _ _ AD]at hj
   exact h.vy i j e e2 b1 nX aT hm hj ur
  ·rw[al _ _ br]at hi
   by_cases AD:j=id
   ·subst AD;exact h.vy i j e1 e b1 nX hi o6 aT hm
   ·rw[al _ _ AD]at hj;exact h.vy i j e1 e2 b1 nX hi o6 hj ur
 ·by_cases br:i=id
  ·subst br;exact h.new i e b1 aT hm
  ·rw[al _ _ br]at hi;exact h.new i e1 b1 hi o6
 ·by_cases br:i=id
  ·subst br;rw[ak]at hi;cases hi
   cases e with
   |own e0 l0=>exact h.tY i e0 l0 b1 aT
   |obj _ _=>simp[aR.ic]at hl
   |dY _ _ _ _=>simp[aR.ic]at hl
   |kF _ _=>simp[aR.mut]at hm
   |gone=>simp[aR.mut]at hm
  ·rw[al _ _ br]at hi;exact h.tY i e1 l1 b1 hi
 ·by_cases br:i=id
  ·subst br;rw[ak]at hi;cases hi
   obtain⟨h1,h2⟩:=oK _ _ _ _ rfl
   exact .inr ⟨rZ h1,h2⟩
  ·rw[al _ _ br]at hi
   exact .inl ⟨hi,fun b1 jS=>setRow_other w b b1 new (fun e1=>h.vy i id _ e b1 br hi trivial aT hm (by rw[jS];rfl) (e1▸hb))⟩
 ·rw[setRow_other w b b1 new]
  ·exact h.frame b1 jS th
  ·intro hbb;subst hbb
   rcases h.new id e b1 aT hm hb with h'|h'
   ·omega
   ·exact th h'
 ·by_cases br:i=id
  ·subst br;rw[aT]at hi;cases hi;exact⟨e',ak _ _ _,hl⟩
  ·exact⟨e1,by rw[al _ _ br];exact hi,.refl e1⟩
theorem Tr.rename{c:Ctx}{H:Nat→Option aR}{w:World}{M:Nat→Prop}{ν:Nat→Value}(h:Mem c H w M ν){j id:Nat}{e e':Ty}{l:List e.den}{l':List e'.den}(hj:H j=some (.own e l))(aT:H id=none)
  {v:Value} (hb:eA v=none∨eA v=eA (ν j)) (KW:ER w M v (.own e' l')):
  Tr c H w M ν (bo (bo H j (some .gone)) id (some (.own e' l'))) w M (cn ν id v):=by
 have ib:j≠id:=fun e=>by rw[e,aT]at hj;cases hj
 have h1:=(Tr.gone h j).mem
 have lG:bo H j (some .gone) id=none:=by rw[al _ _ (avr ib)];exact aT
 have hν: ∀i,i≠id→cn ν id v i=ν i:=fun i hi=>by simp[cn,hi]
 have xp:cn ν id v id=v:=by simp[cn]
 refine⟨⟨fun i e1 hi=> ?_,fun i k e1 e2 b1 nX hi o6 hk ur=> ?_,fun i e1 b1 hi o6=> ?_,fun i e1 l1 b1 hi=> ?_,mP h1 (fun i hi=>hν i (fun e=>hi (e▸lG))) sa (fun i τ x p j hi=> .inl ⟨uq (fun _ _ _ _=>by simp) hi,fun _ _=>rfl⟩),h.sub,h.yz,h.frame,h.size,h.qL,h.os,h.tape,h.output⟩,.refl w M,⟨fun i e1 hi=> ?_,fun i hi=> ?_⟩⟩
 ·by_cases br:i=id
  ·subst br;rw[ak]at hi;cases hi;rw[xp];exact KW
  ·rw[al _ _ br]at hi;rw[hν i br];exact h1.iT i e1 hi
 ·by_cases br:i=id
  ·subst br;rw[ak]at hi;cases hi;rw[xp]
   have Ek:k≠i:=avr nX
   rw[al _ _ Ek]at hk;rw[hν k Ek]
   intro jS
   rcases hb with hb|hb
   ·rw[hb]at jS;cases jS
   ·rw[hb]at jS
    by_cases hkj:k=j
    ·subst hkj;rw[ak]at hk;cases hk;simp[aR.mut]at ur
    ·rw[al _ _ hkj]at hk;exact h.vy j k _ e2 b1 (avr hkj) hj trivial hk ur jS
  ·rw[al _ _ br]at hi;rw[hν i br]
   by_cases Ek:k=id
   ·subst Ek;rw[xp]
    intro jS th
    rcases hb with hb|hb
    ·rw[hb]at th;cases th
    ·rw[hb]at th
     by_cases AN:i=j
     ·subst AN;rw[ak]at hi;cases hi;simp[aR.mut]at o6
     ·rw[al _ _ AN]at hi;exact h.vy j i _ e1 b1 (avr AN) hj trivial hi o6 th jS
   ·rw[al _ _ Ek]at hk;rw[hν k Ek];exact h1.vy i k e1 e2 b1 nX hi o6 hk ur
 ·by_cases br:i=id
  ·subst br;rw[xp];intro jS
   rcases hb with hb|hb
   ·rw[hb]at jS;cases jS
   ·rw[hb]at jS;exact h.new j _ b1 hj trivial jS
  ·rw[al _ _ br]at hi;rw[hν i br];exact h1.new i e1 b1 hi o6
 ·by_cases br:i=id
  ·subst br;rw[xp];intro jS
   rcases hb with hb|hb
   ·rw[hb]at jS;cases jS
   ·rw[hb]at jS;exact h.tY j e l b1 hj jS
  ·rw[al _ _ br]at hi;rw[hν i br];exact h1.tY i e1 l1 b1 hi
 ·by_cases AN:i=j
  ·subst AN;exact⟨.gone,by rw[al _ _ ib,ak],by cases e1<;>simp[aR.ic]⟩
  ·have br:i≠id:=fun e=>by rw[e,aT]at hi;cases hi
   exact⟨e1,by rw[al _ _ br,al _ _ AN];exact hi,.refl e1⟩
 ·exact hν i (fun e=>hi (e▸aT))
theorem Tr.KX{c:Ctx}{H:Nat→Option aR}{w:World}{M:Nat→Prop}{ν:Nat→Value}(h:Mem c H w M ν){id:Nat}{e e':aR}(aT:H id=some e)(hm:e.mut)(gP:e'.mut)(hl:e.ic e')(qR: ∀e0 l0,e'≠ .own e0 l0)
  (KW:ER w M (ν id) e') (oK: ∀τ x p j,e'= .dY τ x p j→H j≠none∧ ∃b',ν id= .pointer (some ⟨b',0,none⟩)∧w.cell? ⟨b',bD p τ,none⟩=some (ν j)):
  Tr c H w M ν (bo H id (some e')) w M ν:=by
 refine⟨⟨fun i e1 hi=> ?_,fun i j e1 e2 b1 nX hi o6 hj ur=> ?_,fun i e1 b1 hi o6=> ?_,fun i e1 l1 b1 hi=> ?_,mP h (fun _ _=>rfl) sa (fun i τ x p j hi=> ?_),h.sub,h.yz,h.frame,h.size,h.qL,h.os,h.tape,h.output⟩,.refl w M,⟨fun i e1 hi=> ?_,fun i hi=>rfl⟩⟩
 ·by_cases br:i=id
  ·subst br;rw[ak]at hi;cases hi;exact KW
  ·rw[al _ _ br]at hi;exact h.iT i e1 hi
 ·by_cases br:i=id
  ·subst br;rw[ak]at hi;cases hi
   have AD:j≠i:=avr nX
   rw[al _ _ AD]at hj
   exact h.vy i j e e2 b1 nX aT hm hj ur
  ·rw[al _ _ br]at hi
   by_cases AD:j=id
   ·subst AD;exact h.vy i j e1 e b1 nX hi o6 aT hm
   ·rw[al _ _ AD]at hj;exact h.vy i j e1 e2 b1 nX hi o6 hj ur
 ·by_cases br:i=id
  ·subst br;exact h.new i e b1 aT hm
  ·rw[al _ _ br]at hi;exact h.new i e1 b1 hi o6
 ·by_cases br:i=id
  ·subst br;rw[ak]at hi;cases hi;exact absurd rfl (qR _ _)
  ·rw[al _ _ br]at hi;exact h.tY i e1 l1 b1 hi
 ·by_cases br:i=id
  ·subst br;rw[ak]at hi;cases hi
   obtain⟨h1,h2⟩:=oK _ _ _ _ rfl
   exact .inr ⟨rZ h1,h2⟩
  ·rw[al _ _ br]at hi;exact .inl ⟨hi,fun _ _=>rfl⟩
 ·by_cases br:i=id
  ·subst br;rw[aT]at hi;cases hi;exact⟨e',ak _ _ _,hl⟩
  ·exact⟨e1,by rw[al _ _ br];exact hi,.refl e1⟩
theorem Tr.nothing{c:Ctx}{w:World}{M:Nat→Prop}{ν:Nat→Value}{H:Nat→Option aR}(h:Mem c H w M ν){id:Nat}(aT:H id=none)(e:Ty)(ad:Option Addr):
  Tr c H w M ν (bo H id (some (.own e []))) w M (cn ν id (.slice ad 0 0)):=by
 have hν: ∀i,i≠id→cn ν id (.slice ad 0 0) i=ν i:=fun i hi=>by simp[cn,hi]
 have xp:cn ν id (.slice ad 0 0) id= .slice ad 0 0:=by simp[cn]
 have hb:eA (.slice ad 0 0)=none:=by cases ad<;>simp[eA]
 refine⟨⟨fun i e1 hi=> ?_,fun i k e1 e2 b1 nX hi o6 hk ur=> ?_,fun i e1 b1 hi o6=> ?_,fun i e1 l1 b1 hi=> ?_,mP h (fun i hi=>hν i (fun e=>hi (e▸aT))) sa (fun i τ x p j hi=> .inl ⟨uq (fun _ _ _ _=>by simp) hi,fun _ _=>rfl⟩),h.sub,h.yz,h.frame,h.size,h.qL,h.os,h.tape,h.output⟩,.refl w M,⟨fun i e1 hi=> ?_,fun i hi=>hν i (fun e=>hi (e▸aT))⟩⟩
 ·by_cases br:i=id
  ·subst br;rw[ak]at hi;cases hi;rw[xp];simp only[ER];exact .inl ⟨trivial,ad,rfl⟩
  ·rw[al _ _ br]at hi;rw[hν i br];exact h.iT i e1 hi
 ·by_cases br:i=id
  ·subst br;rw[xp,hb];intro h';cases h'
  ·rw[al _ _ br]at hi;rw[hν i br]
   by_cases Ek:k=id
   ·subst Ek;rw[xp,hb];intro _ h';cases h'
   ·rw[al _ _ Ek]at hk;rw[hν k Ek];exact h.vy i k e1 e2 b1 nX hi o6 hk ur
 ·by_cases br:i=id
  ·subst br;rw[xp,hb];intro h';cases h'
  ·rw[al _ _ br]at hi;rw[hν i br];exact h.new i e1 b1 hi o6
 ·by_cases br:i=id
  ·subst br;rw[xp,hb];intro h';cases h'
  ·rw[al _ _ br]at hi;rw[hν i br];exact h.tY i e1 l1 b1 hi
 ·have br:i≠id:=fun e=>by rw[e,aT]at hi;cases hi
  exact⟨e1,by rw[al _ _ br];exact hi,.refl e1⟩
end VM
end
section
namespace VM
open Go
theorem aY{α:Type}{υ τ:Ty}{y:υ.den}{k:τ.den→Option α}{r:α}(h:ca υ τ y k=some r): ∃e:υ=τ,k (e▸y)=some r:=by
 unfold ca at h
 split at h
 ·rename_i e;exact⟨e,h⟩
 ·cases h
theorem dJ{α:Type}{υ τ:Ty}{k:Option α}{r:α}(h:jr υ τ k=some r):υ=τ∧k=some r:=by
 unfold jr at h
 split at h
 ·rename_i e;exact⟨e,h⟩
 ·cases h
theorem V.slice{w:World}{M:Nat→Prop}{e:Ty}{v:Value}{l:List e.den}:V w M (.slice e) v l↔Rd w M (.slice e) [v] l:=by
 unfold V;rw[atL (by simp[Ty.isAgg])]
def Fz(H H1:Nat→Option aR):Prop:= ∀i,H1 i=H i∨ ∃e l,H i=some (.own e l)∧H1 i=some (.kF e l)
theorem Fz.refl(H:Nat→Option aR):Fz H H:=fun _=> .inl rfl
theorem Fz.none{H H1:Nat→Option aR}(h:Fz H H1){i:Nat}(hi:H i=none):H1 i=none:=by
 rcases h i with h'|⟨e,l,h',_⟩
 ·rw[h',hi]
 ·rw[hi]at h';cases h'
theorem Fz.obj{H H1:Nat→Option aR}(h:Fz H H1){i:Nat}{τ:Ty}{x:τ.den}(hi:H i=some (.obj τ x)):H1 i=some (.obj τ x):=by
 rcases h i with h'|⟨e,l,h',_⟩
 ·rw[h',hi]
 ·rw[hi]at h';cases h'
theorem vD{H:Nat→Option aR}{id:Nat}{e:Option aR}(h:H id=e):bo H id e=H:=by
 funext i
 by_cases hi:i=id
 ·subst hi;rw[ak,h]
 ·rw[al _ _ hi]
theorem j2{α:Type}{c:Ctx}{H H1:Nat→Option aR}{w:World}{M:Nat→Prop}{ν:Nat→Value}(hz:Fz H H1)(hm:Mem c H1 w M ν){a:aW}{v:Value}(hv:VR w M H1 ν a v){τ:Ty}
  {k:τ.den→List Nat→fD→Option α} {r:α} (h:iF true a H τ k=some r):
  ∃y rd ups M',k y rd ups=some r∧Tr c H1 w M ν (bU H1 ups) w M' ν∧V w M' τ v y∧Fz H (bU H1 ups)∧ ∀i,rd.contains i=false→bU H1 ups i=H1 i:=by
 unfold iF at h
 split at h
 ·
  obtain⟨e,h⟩:=aY h
  subst e
  simp only[VR]at hv
  exact⟨_,[],[],M,h,.refl hm,hv,hz,fun _ _=>rfl⟩
 ·
  obtain⟨e,h⟩:=aY h
  subst e
  simp only[VR]at hv
  exact⟨_,[],[],M,h,.refl hm,hv.1,hz,fun _ _=>rfl⟩
 ·
  split at h
  ·rename_i e k' _
   simp only[VR]at hv
   obtain⟨a,rfl⟩:=hv
   refine⟨[],[],[],M,h,.refl hm,V.slice.2 ?_,hz,fun _ _=>rfl⟩
   simp only[Rd]
   exact⟨a,0,rfl,atP _,fun i hi=>absurd hi (by simp)⟩
  ·cases h
 ·rename_i id
  simp only[VR]at hv
  obtain⟨_,rfl⟩:=hv
  split at h
  ·rename_i e l aT
   obtain⟨e',h⟩:=aY h
   subst e'
   rcases hz id with h1|⟨e1,l1,h1,h2⟩
   ·rw[aT]at h1
    obtain⟨M',eY,hV,_⟩:=Tr.freeze hm h1
    refine⟨_,_,_,M',h,eY,hV,fun i=> ?_,fun i hi=>al _ _ (by simpa using hi)⟩
    show bo H1 id (some (.kF e l)) i=H i∨_
    by_cases hi:i=id
    ·subst hi;exact .inr ⟨e,l,aT,ak _ _ _⟩
    ·rw[al _ _ hi]
     rcases hz i with h'|⟨e2,l2,h2,h3⟩
     ·exact .inl h'
     ·exact .inr ⟨e2,l2,h2,by show bo H1 id _ i=_;rw[al _ _ hi];exact h3⟩
   ·rw[aT]at h1;cases h1
    have:=hm.iT id _ h2
    simp only[ER]at this
    refine⟨_,_,[(id,some (.kF e l))],M,h,?_,V.slice.2 this.1,?_,fun i hi=>al _ _ (by simpa using hi)⟩
    ·show Tr c H1 w M ν (bo H1 id (some (.kF e l))) w M ν
     rw[vD h2];exact .refl hm
    ·show Fz H (bo H1 id (some (.kF e l)))
     rw[vD h2];exact hz
  ·rename_i e l aT
   obtain⟨e',h⟩:=aY h
   subst e'
   have h1:H1 id=some (.kF e l):=by
    rcases hz id with h1|⟨e1,l1,h1,h2⟩
    ·rw[h1,aT]
    ·rw[aT]at h1;cases h1
   have:=hm.iT id _ h1
   simp only[ER]at this
   exact⟨_,_,_,M,h,.refl hm,V.slice.2 this.1,hz,fun _ _=>rfl⟩
  ·cases h
 ·cases h
def Src(w:World)(M:Nat→Prop)(e:Ty)(v:Value)(l:List e.den):Prop:=
 ∃a cap,v= .slice a l.length cap∧ ∀i (h:i<l.length),∃b off cs,a=some ⟨b,off,none⟩∧At w b (off+i*e.size) cs∧Rd w M e cs l[i]
theorem Src.Q9{w:World}{M:Nat→Prop}{e:Ty}{v:Value}{l:List e.den}(h:V w M (.slice e) v l):Src w M e v l:=by
 have h:=V.slice.1 h
 simp only[Rd,auv,au3]at h
 obtain⟨a,cap,rfl,_,hr⟩:=h
 refine⟨a,cap,rfl,fun i hi=> ?_⟩
 obtain⟨b,off,ha,_,_,cs,ma,g4⟩:=hr i hi
 exact⟨b,off,cs,ha,ma,g4⟩
theorem wz{α:Type}{c:Ctx}{H:Nat→Option aR}{w:World}{M:Nat→Prop}{ν:Nat→Value}(hm:Mem c H w M ν){a:aW}{v:Value}(hv:VR w M H ν a v){e:Ty}
  {k:List e.den→List Nat→fD→Option α} {r:α} (h:iF false a H (.slice e) k=some r):
  ∃y rd,k y rd []=some r∧Src w M e v y:=by
 unfold iF at h
 split at h
 ·obtain⟨e',h⟩:=aY h
  subst e'
  simp only[VR]at hv
  exact⟨_,[],h,.Q9 hv⟩
 ·obtain⟨e',h⟩:=aY h
  subst e'
  simp only[VR]at hv
  exact⟨_,[],h,.Q9 hv.1⟩
 ·have h:k [] [] []=some r:=h
  simp only[VR]at hv
  obtain⟨a,rfl⟩:=hv
  exact⟨[],[],h,a,0,rfl,fun i hi=>absurd hi (by simp)⟩
 ·rename_i id
  simp only[VR]at hv
  obtain⟨_,rfl⟩:=hv
  split at h
  ·rename_i e1 l aT
   obtain⟨e',h⟩:=aY h
   cases e'
   refine⟨_,_,h,?_⟩
   have:=hm.iT id _ aT
   simp only[ER]at this
   rcases this with⟨rfl,a,hv⟩|⟨b,cs,t,cap,hv,hb,hM,hc,hl,AB,hs,hr⟩
   ·exact⟨a,0,hv,fun i hi=>absurd hi (by simp)⟩
   ·refine⟨_,cap,hv,fun i hi=>⟨b,0,_,rfl,?_,hr i hi⟩⟩
    rw[auP]
    exact At.of_block hb _ _
  ·rename_i e1 l aT
   obtain⟨e',h⟩:=aY h
   cases e'
   have:=hm.iT id _ aT
   simp only[ER]at this
   exact⟨_,_,h,.Q9 (V.slice.2 this.1)⟩
  ·cases h
 ·cases h
theorem Src.cells{w:World}{M:Nat→Prop}{e:Ty}{v:Value}{l:List e.den}(h:Src w M e v l)(ib:l≠[]):
  ∃b off cap news,v= .slice (some ⟨b,off,none⟩) l.length cap∧news.length=l.length*e.size∧At w b off news∧
   (∀i (hi:i<l.length),Rd w M e ((news.drop (i*e.size)).take e.size) l[i])∧ ∀u∈news,u.oneCell'=true:=by
 obtain⟨a,cap,rfl,hr⟩:=h
 have h0:0<l.length:=au1.2 ib
 obtain⟨b,off,_,ha,_⟩:=hr 0 h0
 subst ha
 have key: ∀n,n≤l.length→ ∃news:List Value,news.length=n*e.size∧At w b off news∧
   (∀i (hi:i<l.length),i<n→Rd w M e ((news.drop (i*e.size)).take e.size) l[i])∧ ∀u∈news,u.oneCell'=true:=by
  intro n
  induction n with
  |zero=>exact fun _=>⟨[],by simp,fun j v hj=>by simp at hj,fun i _ hi=>by omega,by simp⟩
  |succ n ih=>
   intro hn
   obtain⟨news,hl,ma,g4,Yt⟩:=ih (by omega)
   obtain⟨b',apH,cs,ha,ajd,KY⟩:=hr n (by omega)
   cases ha
   refine⟨news++cs,by rw[atJ,hl,KY.length,auE,avt],At.append.2 ⟨ma,by rw[hl];exact ajd⟩,fun i hi jN=> ?_,fun u hu=> ?_⟩
   ·by_cases dZ:i<n
    ·have h1:(i+1)*e.size≤n*e.size:=auJ _ dZ
     rw[auE,avt]at h1
     rw[avo (by omega),avn (by rw[aum];omega)]
     exact g4 i hi dZ
    ·obtain rfl:i=n:=by omega
     rw[avc hl,aur (by rw[KY.length];exact atP _)]
     exact KY
   ·rcases atU.1 hu with hu|hu
    ·exact Yt u hu
    ·exact KY.kG u hu
 obtain⟨news,hl,ma,g4,Yt⟩:=key l.length (atP _)
 exact⟨b,off,cap,news,rfl,hl,ma,fun i hi=>g4 i hi hi,Yt⟩
structure Core(c:Ctx)(σ:St)(tm:Array Value)(w:World)(M:Nat→Prop)(ν:Nat→Value):Prop where
 mem:Mem c σ.H w M ν
 tmp: ∀i,VR w M σ.H ν (σ.T i) (tm.getD i undef)
theorem KZ(w:World)(M:Nat→Prop)(H:Nat→Option aR)(ν:Nat→Value)(v:Value):VR w M H ν (cvA v) v:=by
 unfold cvA
 split<;>simp[VR,V,Ty.isAgg,Rd]
theorem Core.op{c:Ctx}{σ:St}{tm:Array Value}{w:World}{M:Nat→Prop}{ν:Nat→Value}(h:Core c σ tm w M ν)(ds:List Deferred)(x:Operand):
  VR w M σ.H ν (σ.ρ x) (({tmps:=tm,defers:=ds}:Act).eval x):=by
 cases x with
 |tmp t=>exact h.tmp t
 |const v=>exact KZ w M σ.H ν v
 |global g=>simp[St.ρ,VR]
 |func f=>simp[St.ρ,VR,fN,Act.eval]
def adz(P:Program)(t:TypeId)(τ:Ty):Prop:=
 ∀(w:World) (M:Nat→Prop) (u v:Value) (x y:τ.den) (b:BinOp) (xo yo:Operand),V w M τ u x→V w M τ v y→
  (eqGuard b t xo yo u v).run P w= .ok () w∧(binOp .eql t u v).run P w= .ok (.bool (qQ τ x y)) w∧(binOp .neq t u v).run P w= .ok (.bool (!qQ τ x y)) w
structure EnvTy(P:Program)(E:Env):Prop where
 ty: ∀t τ,E.ty t=some τ→gM P τ t
 eq: ∀t τ,E.ty t=some τ→τ.comparable=true→τ.isAgg=true→adz P t τ
end VM
end
section
namespace VM
open Go
variable{P:Program}
theorem uu{o:Oper}{ρ:Operand→Value}{t:TypeId}{i:TypeInfo}{z:Value}(ho:o.op= .alloc t)(hi:P.info? t=some i)(hz:i.zero=some z)(w:World):
  (execOp ρ o).run P w= .ok (.value (.pointer (some ⟨w.heap.size,0,none⟩))) (w.alloc (.cells z.cells t)):=by
 simp[execOp,ho,Instr.alloc,zeroValue,typeInfo,hi,hz,newVar,newRow]
theorem yB{o:Oper}{ρ:Operand→Value}{t:TypeId}{x:Operand}(ho:o.op= .box t x)(w:World):
  (execOp ρ o).run P w= .ok (.value (.pointer (some ⟨w.heap.size,0,none⟩))) (w.alloc (.cells (ρ x).cells t)):=by
 simp[execOp,ho,Instr.box,newVar,newRow]
theorem o7{τ:Ty}{t:TypeId}(h:gM P τ t)(w:World):(isAgg t).run P w= .ok τ.isAgg w:=by
 unfold gM at h
 cases τ<;>simp only[dH]at h
 ·simp[isAgg,run_underlying h.2,Ty.isAgg]
 ·simp[isAgg,run_underlying h.2,Ty.isAgg]
 ·simp[isAgg,run_underlying h.2,Ty.isAgg]
 ·obtain⟨_,e',h',_⟩:=h;simp[isAgg,run_underlying h',Ty.isAgg]
 ·obtain⟨_,e',h',_⟩:=h;simp[isAgg,run_underlying h',Ty.isAgg]
 ·obtain⟨_,e',f,h',_⟩:=h;simp[isAgg,run_underlying h',Ty.isAgg]
 ·obtain⟨_,e',h',_⟩:=h;simp[isAgg,run_underlying h',Ty.isAgg]
theorem cc{τ:Ty}{t:TypeId}(h:gM P τ t)(w:World):(Go.sizeOf t).run P w= .ok τ.size w:=by
 obtain⟨i,hi,hs,_⟩:=h.base
 simp[Go.sizeOf,typeInfo,hi,hs]
theorem wA{w:World}{M:Nat→Prop}{τ:Ty}{t:TypeId}(h:gM P τ t){b off:Nat}{cs:List Value}{x:τ.den}(ha:At w b off cs)(hr:Rd w M τ cs x):
  (loadVar t ⟨b,off,none⟩).run P w= .ok (bK τ cs) w:=by
 have hl:(loadCells ⟨b,off,none⟩ τ.size).run P w= .ok cs.toArray w:=by
  rw[←hr.length]
  exact run_loadCells_list w _ cs fun j v hj=>by rw[show(⟨b,off,none⟩:Addr).add j=⟨b,off+j,none⟩from by unfold Addr.add;split<;>simp_all];exact ha j v hj
 unfold bK
 by_cases El:τ.isAgg=true
 ·simp[loadVar,o7 h,El,cc h,hl]
 ·obtain⟨v,rfl,hc⟩:=hr.scalar (by simpa using El)
  have h0:=ha 0 v rfl
  simp only[avK]at h0
  simp[loadVar,o7 h,El,load,Sem.run,h0]
theorem q3{o:Oper}{ρ:Operand→Value}{t:TypeId}{x:Operand}(ho:o.op= .load t x){w:World}{M:Nat→Prop}{τ:Ty}(h:gM P τ t){b off:Nat}{cs:List Value}{y:τ.den}
  (hx:ρ x= .pointer (some ⟨b,off,none⟩)) (ha:At w b off cs) (hr:Rd w M τ cs y):
  (execOp ρ o).run P w= .ok (.value (bK τ cs)) w:=by
 simp[execOp,ho,hx,Instr.loadAt,Instr.sureAddr,wA h ha hr]
theorem jt{o:Oper}{ρ:Operand→Value}{t:TypeId}{x y:Operand}(ho:o.op= .store t x y){w:World}{τ:Ty}(h:gM P τ t){b off:Nat}{cur:Array Value}{te:TypeId}
  (hx:ρ x= .pointer (some ⟨b,off,none⟩)) (hg:w.heap[b]? =some (.cells cur te (0,0))) (hs:(ρ y).cells.size=τ.size) (hf:off+τ.size≤cur.size) (h1: ∀v∈(ρ y).cells.toList,v.oneCell'=true):
  (execOp ρ o).run P w= .ok .skip (w.setRow b (cur.toList.take off++(ρ y).cells.toList++cur.toList.drop (off+(ρ y).cells.toList.length)).toArray):=by
 have q4:=run_storeCells_at (P:=P) b off te (ρ y).cells.toList 0 cur w hg (by simp[hs];omega) h1
 simp only[avK]at q4
 simp[execOp,ho,hx,Instr.storeAt,Instr.sureAddr,storeVar,cc h,hs,q4]
theorem o8{o:Oper}{ρ:Operand→Value}{t:TypeId}{x:Operand}{n:Nat}(ho:o.op= .fieldAddr t x n){w:World}{fs:Array Field}{f:Field}{b off:Nat}{υ:Ty}
  (hu:P.underlying t=some (.struct fs)) (hf:fs[n]? =some f) (hl:gM P υ f.type) (hz:υ.size≠0) (hx:ρ x= .pointer (some ⟨b,off,none⟩)):
  ∃a,(execOp ρ o).run P w= .ok (.value a) w∧a= .pointer (some ⟨b,off+f.offset,none⟩):=by
 refine⟨_,?_,rfl⟩
 simp[execOp,ho,hx,Instr.fieldAt,Instr.sureAddr,run_underlying hu,hf,fieldPlace,Addr.add_lit,cc hl,hz]
theorem uv{τ:Ty}{t:TypeId}(h:gM P τ t){w:World}{M:Nat→Prop}{cs:Array Value}{off:Nat}{x:τ.den}(hr:Rd w M τ ((cs.toList.drop off).take τ.size) x):
  (part t cs off).run P w= .ok (bK τ ((cs.toList.drop off).take τ.size)) w:=by
 have hl:=hr.length
 unfold bK
 by_cases El:τ.isAgg=true
 ·simp only[part,Sem.run_bind,o7 h,Result.andThen_ok,El,av8,cc h]
  simp
  rw[at4,aum,atO]at hl
  apply avx
  simp only[Array.toList_extract,List.extract_eq_take_drop,avG]
 ·obtain⟨v,hv,hc⟩:=hr.scalar (by simpa using El)
  rw[hv]
  have h0:cs[off]? =some v:=by
   have:=avh (fun l=>l[0]?) hv
   simp only[auN,auO]at this
   split at this
   ·simpa using this
   ·simp at this
  simp[part,o7 h,El,h0]
theorem Cz{o:Oper}{ρ:Operand→Value}{t:TypeId}{x:Operand}{n:Nat}(ho:o.op= .field t x n){w:World}{M:Nat→Prop}{fs:Array Field}{f:Field}{cs:Array Value}{υ:Ty}{y:υ.den}
  (hu:P.underlying t=some (.struct fs)) (hf:fs[n]? =some f) (hl:gM P υ f.type) (hx:ρ x= .agg cs) (hr:Rd w M υ ((cs.toList.drop f.offset).take υ.size) y):
  (execOp ρ o).run P w= .ok (.value (bK υ ((cs.toList.drop f.offset).take υ.size))) w:=by
 simp[execOp,ho,hx,Instr.field,run_underlying hu,hf,asAgg,uv hl hr]
theorem g7{o:Oper}{ρ:Operand→Value}{t e:TypeId}{x i:Operand}(ho:o.op= .indexAddr t x i){w:World}{τe:Ty}{b off len cap:Nat}{k:IntKind}{n:Int}
  (hu:P.underlying t=some (.slice e)) (he:gM P τe e) (hx:ρ x= .slice (some ⟨b,off,none⟩) len cap) (hi:ρ i= .int k n) (h0:0≤n) (h1:n<(len:Int)):
  (execOp ρ o).run P w= .ok (.value (.pointer (some ⟨b,off+n.toNat*τe.size,none⟩))) w:=by
 simp[execOp,ho,hx,hi,Instr.indexAt,asIntOf,run_underlying hu,h0,h1,cc he,Addr.add_lit]
theorem nY{o:Oper}{ρ:Operand→Value}{t e:TypeId}{x i:Operand}(ho:o.op= .indexAddr t x i){w:World}{τe:Ty}{b off len:Nat}{k:IntKind}{n:Int}
  (hu:P.underlying t=some (.array len e)) (he:gM P τe e) (hx:ρ x= .pointer (some ⟨b,off,none⟩)) (hi:ρ i= .int k n) (h0:0≤n) (h1:n<(len:Int)):
  (execOp ρ o).run P w= .ok (.value (.pointer (some ⟨b,off+n.toNat*τe.size,none⟩))) w:=by
 simp[execOp,ho,hx,hi,Instr.indexAt,Instr.sureAddr,asIntOf,run_underlying hu,h0,h1,cc he,Addr.add_lit]
theorem AO{o:Oper}{ρ:Operand→Value}{t e:TypeId}{x i:Operand}(ho:o.op= .index t x i){w:World}{M:Nat→Prop}{τe:Ty}{len:Nat}{k:IntKind}{n:Int}{cs:Array Value}{y:τe.den}
  (hu:P.underlying t=some (.array len e)) (he:gM P τe e) (hx:ρ x= .agg cs) (hi:ρ i= .int k n) (h0:0≤n) (h1:n<(len:Int)) (hr:Rd w M τe ((cs.toList.drop (n.toNat*τe.size)).take τe.size) y):
  (execOp ρ o).run P w= .ok (.value (bK τe ((cs.toList.drop (n.toNat*τe.size)).take τe.size))) w:=by
 simp[execOp,ho,hx,hi,Instr.index,asIntOf,run_underlying hu,h0,h1,cc he,uv he hr]
theorem yC{o:Oper}{ρ:Operand→Value}{x:Operand}{n:Nat}(ho:o.op= .extract x n){w:World}{us:List Value}{v:Value}(hx:ρ x= .tuple us.toArray)(hv:us[n]? =some v):
  (execOp ρ o).run P w= .ok (.value v) w:=by
 simp[execOp,ho,hx,Instr.extract,hv]
theorem Em{o:Oper}{ρ:Operand→Value}{x y z:Operand}(ho:o.op= .pick x y z){w:World}{b:Bool}(hx:ρ x= .bool b):
  (execOp ρ o).run P w= .ok (.value (if b then ρ y else ρ z)) w:=by
 simp[execOp,ho,hx,asBool]
theorem qw{o:Oper}{ρ:Operand→Value}{x:Operand}(ho:o.op= .nilCheck x){w:World}{a:Addr}(hx:ρ x= .pointer (some a)):
  (execOp ρ o).run P w= .ok (.value (.pointer (some a))) w:=by
 simp[execOp,ho,hx]
theorem xq{o:Oper}{ρ:Operand→Value}{f:FuncId}{first caps:Array Operand}(ho:o.op= .makeFunc (.func f) first caps)(hf:first= #[]){w:World}:
  (execOp ρ o).run P w= .ok (.value (.func (.func f) #[] (caps.map ρ))) w:=by
 subst hf
 simp[execOp,ho,Instr.makeFunc]
theorem yD{o:Oper}{ρ:Operand→Value}{s d:TypeId}{x:Operand}(ho:o.op= .convert s d x){w:World}{k k':IntKind}{n:Int}(hs:(P.underlying s).isSome=true)(hd:P.underlying d=some (.int k))(hx:ρ x= .int k' n):
  (execOp ρ o).run P w= .ok (.value (.int k (k.wrap n))) w:=by
 obtain⟨ds,hs⟩:=Option.isSome_iff_exists.1 hs
 simp[execOp,ho,hx,convert,run_underlying hs,run_underlying hd,Conv.intToInt]
theorem q5{o:Oper}{ρ:Operand→Value}{u:UnOp}{t:TypeId}{x:Operand}(ho:o.op= .unOp u t x){w:World}{v:Value}(h:(Op.unary u (ρ x)).run P w= .ok v w):
  (execOp ρ o).run P w= .ok (.value v) w:=by
 simp[execOp,ho,h]
theorem mc{o:Oper}{ρ:Operand→Value}{b:BinOp}{t t':TypeId}{x y:Operand}(ho:o.op= .binOp b t x y t'){w:World}{v:Value}
  (hg:(eqGuard b t x y (ρ x) (ρ y)).run P w= .ok () w) (h:(binOp b t (ρ x) (ρ y)).run P w= .ok v w):
  (execOp ρ o).run P w= .ok (.value v) w:=by
 simp[execOp,ho,hg,h]
theorem lH{b:BinOp}{t:TypeId}{x y:Operand}{k k':IntKind}{m n:Int}(w:World):(eqGuard b t x y (.int k m) (.int k' n)).run P w= .ok () w:=by
 cases b<;>simp[eqGuard]
theorem vE{b:BinOp}{t:TypeId}{x y:Operand}{m n:Bool}(w:World):(eqGuard b t x y (.bool m) (.bool n)).run P w= .ok () w:=by
 cases b<;>simp[eqGuard]
theorem xr{b:BinOp}{t:TypeId}{x y:Operand}{m n:ByteArray}(w:World):(eqGuard b t x y (.string m) (.string n)).run P w= .ok () w:=by
 cases b<;>simp[eqGuard]
theorem mQ{o:Oper}{ρ:Operand→Value}{b:Builtin}{args:Array Operand}{ts:Array TypeId}(ho:o.op= .call {callee:= .builtin b,args,argTypes:=ts}){w:World}:
  ∃cs,(execOp ρ o).run P w=(builtin b ts o.type cs (args.map ρ)).run P w:=by
 refine⟨args.map fun| .const _=>true|_=>false,?_⟩
 simp[execOp,ho,resolve,invoke]
 rfl
end VM
end
section
namespace VM
open Go
theorem nZ{α:Type}{r:α}: ∀{τ:Ty} {x:τ.den} {n:Nat} {m:(υ:Ty)→υ.den→(υ.den→Option α)→Option α} {k:τ.den→Option α},jq τ x n m k=some r→
  ∃υ y o k',xm τ x n υ y o∧m υ y k'=some r∧ ∀z r',k' z=some r'→ ∃x',k x'=some r'∧xm τ x' n υ z o∧
   ∀(w:World) (M:Nat→Prop) cs cs',Rd w M τ cs x→Rd w M υ cs' z→Rd w M τ (di cs o cs') x'
 | .pair a b,x,0,m,k,h=>by
  refine⟨a,x.1,0,_,.here x,h,fun z r' hz=>⟨(z,x.2),hz,.here (a:=a) (b:=b) (z,x.2),fun w M cs cs' hr dU=> ?_⟩⟩
  simp only[Rd]at hr ⊢
  obtain⟨c1,c2,rfl,h1,h2⟩:=hr
  refine⟨cs',c2,?_,dU,h2⟩
  rw[um (by rw[dU.length,h1.length];omega)]
  congr 1
  unfold di
  rw[auP,dU.length,←h1.length];simp
 | .pair a b,x,n+1,m,k,h=>by
  obtain⟨υ,y,o,k',hf,hm,hk⟩:=nZ (τ:=b) (x:=x.2) (n:=n) (m:=m) (k:=fun z=>k (x.1,z)) h
  refine⟨υ,y,_,k',.there x hf,hm,fun z r' hz=> ?_⟩
  obtain⟨x',o9,xn,g4⟩:=hk z r' hz
  refine⟨(x.1,x'),o9,.there (a:=a) (b:=b) (x.1,x') xn,fun w M cs cs' hr dU=> ?_⟩
  simp only[Rd]at hr ⊢
  obtain⟨c1,c2,rfl,h1,h2⟩:=hr
  refine⟨c1,_,?_,h1,g4 w M c2 cs' h2 dU⟩
  rw[←h1.length,rY]
 | .int _,_,_,_,_,h| .bool,_,_,_,_,h| .str,_,_,_,_,h| .slice _,_,_,_,_,h| .unit,_,_,_,_,h| .arr _ _,_,_,_,_,h=>by simp[jq]at h
def mR(w:World)(M:Nat→Prop)(e:Ty)(cs:List Value)(l:List e.den):Prop:=
 ∀i (h:i<l.length),Rd w M e ((cs.drop (i*e.size)).take e.size) l[i]
theorem cR{i n s:Nat}(h:i<n):i*s+s≤n*s:=by
 have:(i+1)*s≤n*s:=auJ _ h
 rw[auE,avt]at this;exact this
theorem mR.set{w:World}{M:Nat→Prop}{e:Ty}{cs:List Value}{l:List e.den}(h:mR w M e cs l)(hl:l.length*e.size≤cs.length){i:Nat}(hi:i<l.length){cs':List Value}{y:e.den}(hr:Rd w M e cs' y):
  mR w M e (di cs (i*e.size) cs') (l.set i y):=by
 have hlen:=hr.length
 intro j hj
 rw[atX]at hj
 have h1:=cR (s:=e.size) hi
 have h2:=cR (s:=e.size) hj
 by_cases nX:j=i
 ·subst nX
  have:=Yr (a:=cs) (o:=j*e.size) (new:=cs') (by omega)
  rw[hlen]at this
  rw[this,List.getElem_set_self];exact hr
 ·rw[Cx (by
   rcases Nat.lt_or_gt_of_ne nX with dZ|dZ
   ·have:=cR (s:=e.size) dZ;left;omega
   ·have:=cR (s:=e.size) dZ;right;omega) (by omega),List.getElem_set_ne (avr nX)]
  exact h j hj
theorem mR.append{w:World}{M:Nat→Prop}{e:Ty}{c1 c2:List Value}{l1 l2:List e.den}(h1:mR w M e c1 l1)(hl:c1.length=l1.length*e.size)(h2:mR w M e c2 l2):mR w M e (c1++c2) (l1++l2):=by
 intro i hi
 by_cases dZ:i<l1.length
 ·have:=cR (s:=e.size) dZ
  rw[avo (by omega),avn (by rw[aum];omega),av4 dZ]
  exact h1 i dZ
 ·rw[atJ]at hi
  obtain⟨k,rfl⟩: ∃k,i=l1.length+k:=⟨i-l1.length,by omega⟩
  rw[auE,←hl,←auV,avc rfl,awE (by omega)]
  simp only[avG]
  exact h2 k (by omega)
theorem mR.take{w:World}{M:Nat→Prop}{e:Ty}{cs:List Value}{l:List e.den}(h:mR w M e cs l){n:Nat}(hn:l.length*e.size≤n):mR w M e (cs.take n) l:=by
 intro i hi
 have:=cR (s:=e.size) hi
 rw[avE,avF,auL (by omega)]
 exact h i hi
theorem mR.more{w:World}{M:Nat→Prop}{e:Ty}{cs cs':List Value}{l:List e.den}(h:mR w M e cs l)(hl:l.length*e.size≤cs.length):mR w M e (cs++cs') l:=by
 intro i hi
 have:=cR (s:=e.size) hi
 rw[avo (by omega),avn (by rw[aum];omega)]
 exact h i hi
theorem mR.bp{w w':World}{M M':Nat→Prop}(k:dh w M w' M'){e:Ty}{cs:List Value}{l:List e.den}(h:mR w M e cs l):mR w' M' e cs l:=fun i hi=>(h i hi).bp k
theorem Rd.arr{w:World}{M:Nat→Prop}{n:Nat}{e:Ty}{cs:List Value}{x:(Ty.arr n e).den}:Rd w M (.arr n e) cs x↔List.length x=n∧cs.length=n*e.size∧mR w M e cs x:=by
 constructor
 ·intro h
  have hl:=h.length
  have h':=h
  simp only[Rd]at h'
  refine⟨h'.1,hl,fun i hi=> ?_⟩
  have:=h.idx (i:=i) (by omega)
  rw[gN x i e.zero hi]at this
  exact this
 ·rintro⟨hn,hl,hr⟩
  simp only[Rd]
  refine⟨hn,(List.range n).map fun i=>(cs.drop (i*e.size)).take e.size,by simp,?_,fun i hi kQ=> ?_⟩
  ·
   have key: ∀m (l:List Value),l.length=m*e.size→l=((List.range m).map fun i=>(l.drop (i*e.size)).take e.size).flatten:=by
    intro m
    induction m with
    |zero=>intro l hl;simpa using hl
    |succ m ih=>
     intro l hl
     have h1:(l.take (m*e.size)).length=m*e.size:=by rw[at4,hl,auE];omega
     have h2:=ih (l.take (m*e.size)) h1
     rw[awX,aus,List.flatten_append]
     have h3:((List.range m).map fun i=>(l.drop (i*e.size)).take e.size)=(List.range m).map fun i=>((l.take (m*e.size)).drop (i*e.size)).take e.size:=by
      apply ava
      intro i hi
      have:=cR (s:=e.size) (avH.1 hi)
      rw[avE,avF,auL (by omega)]
     rw[h3,←h2]
     simp only[at7,avl,awi,List.flatten_nil,auh]
     rw[aur (l:=l.drop (m*e.size)) (by rw[aum,hl,auE];omega),auq]
   exact key n cs hl
  ·simp only[List.getElem_map,awx]
   exact hr i hi
theorem kR{α:Type}{r:α}{υ:Ty}{y:υ.den}: ∀{p:List Step} {τ:Ty} {x:τ.den} {k:τ.den→Option α},qH υ y p τ x k=some r→
  ∃z,k z=some r∧AL p τ=υ∧(sG p τ→bD p τ+υ.size≤τ.size)∧ ∀(w:World) (M:Nat→Prop) cs cs',sG p τ→Rd w M τ cs x→Rd w M υ cs' y→Rd w M τ (di cs (bD p τ) cs') z
 |[],τ,x,k,h=>by
  obtain⟨e,h⟩:=aY (h:ca υ τ y k=some r)
  subst e
  refine⟨y,h,rfl,fun _=>by simp[bD],fun w M cs cs' _ hr dU=> ?_⟩
  unfold di
  rw[show bD [] υ=0 from rfl,auP,dU.length,←hr.length]
  simpa using dU
 | .gL n::p,τ,x,k,h=>by
  obtain⟨υ',y',o,k',hf,hm,hk⟩:=nZ (h:jq τ x n _ k=some r)
  obtain⟨z',AE,ht,AF,g4⟩:=kR (p:=p) (τ:=υ') (x:=y') (k:=k') hm
  obtain⟨x',o9,xn,KY⟩:=hk z' r AE
  obtain⟨h1,h2⟩:=hf.eq
  subst h1 h2
  refine⟨x',o9,ht,fun hi=>by have:=hf.bound;have:=AF hi;simp only[bD];omega,fun w M cs cs' hi hr dU=> ?_⟩
  have AF:=AF hi
  have h3:=g4 w M _ cs' hi (hf.rd hr) dU
  have h4:=KY w M cs _ hr h3
  have hb:=hf.bound
  have Ra:=hr.length
  have hl2:=dU.length
  have QH:=h3.length
  have jN:bD p (qK τ n)+cs'.length≤((cs.drop (nF τ n)).take (qK τ n).size).length:=by
   rw[at4,aum];omega
  have:di cs (nF τ n) (di ((cs.drop (nF τ n)).take (qK τ n).size) (bD p (qK τ n)) cs')=di cs (nF τ n+bD p (qK τ n)) cs':=by
   have e1:cs=cs.take (nF τ n)++(((cs.drop (nF τ n)).take (qK τ n).size)++cs.drop (nF τ n+(qK τ n).size)):=by
    rw[←auV,auq,auq]
   have dZ:(cs.take (nF τ n)).length=nF τ n:=by rw[at4];omega
   conv=>rhs;rw[e1]
   rw[show nF τ n+bD p (qK τ n)=(cs.take (nF τ n)).length+bD p (qK τ n)from by rw[dZ],rY,um jN]
   generalize di ((cs.drop (nF τ n)).take (qK τ n).size) (bD p (qK τ n)) cs'=m at QH ⊢
   unfold di
   rw[QH,atV]
  simp only[bD]
  rw[←this]
  exact h4
 | .idx i::p,τ,x,k,h=>by
  cases τ with
  |arr n e=>
   obtain⟨z',AE,ht,AF,g4⟩:=kR (p:=p) (τ:=e) (x:=List.getD x i e.zero) (k:=fun z=>k (List.set x i z)) h
   refine⟨_,AE,ht,fun hi=>by
    obtain⟨⟨n',e',he,jN⟩,kQ⟩:=hi
    cases he
    have:=AF kQ
    have hm:=cR (s:=e.size) jN
    simp only[bD,Yp,Ty.size];omega,fun w M cs cs' hi hr dU=> ?_⟩
   obtain⟨⟨n',e',he,jN⟩,kQ⟩:=hi
   cases he
   have h3:=g4 w M _ cs' kQ (hr.idx jN) dU
   obtain⟨hn,Ra,En⟩:=Rd.arr.1 hr
   have hm:=cR (s:=e.size) jN
   have h4:=En.set (by rw[Ra,hn];exact atP _) (i:=i) (by omega) h3
   have hl2:=dU.length
   have QH:=h3.length
   have hch:((cs.drop (i*e.size)).take e.size).length=e.size:=by rw[at4,aum];omega
   have AF:=AF kQ
   have aje:bD p e+cs'.length≤((cs.drop (i*e.size)).take e.size).length:=by omega
   have:di cs (i*e.size) (di ((cs.drop (i*e.size)).take e.size) (bD p e) cs')=di cs (i*e.size+bD p e) cs':=by
    have e1:cs=cs.take (i*e.size)++(((cs.drop (i*e.size)).take e.size)++cs.drop (i*e.size+e.size)):=by
     rw[←auV,auq,auq]
    have dZ:(cs.take (i*e.size)).length=i*e.size:=by rw[at4];omega
    conv=>rhs;rw[e1]
    rw[show i*e.size+bD p e=(cs.take (i*e.size)).length+bD p e from by rw[dZ],rY,um aje]
    generalize di ((cs.drop (i*e.size)).take e.size) (bD p e) cs'=m at QH ⊢
    unfold di
    rw[QH,atV]
   simp only[bD,Yp]
   rw[←this]
   refine Rd.arr.2 ⟨by rw[atX];exact hn,?_,h4⟩
   rw[et (by rw[QH];omega)];exact Ra
  |_=>simp[qH,xX]at h
end VM
end
