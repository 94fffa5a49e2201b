/- A part of the proof of HedgeFills of layer 22: a machine that reads a function of the program as an equation between values. -/
import Derived.Test.YtocmlaipoebfeaaGreatVm0
import Derived.WalkLawsBesides
import Derived.Great.BuildSlice
import Derived.Laws.Tables
set_option linter.all false
section
namespace VM
open Go
structure Ctx where
 B:Nat
 w0:World
 M0:Nat→Prop
 may:Nat→Prop
 arg:Nat→Value
structure Mem(c:Ctx)(H:Nat→Option aR)(w:World)(M:Nat→Prop)(ν:Nat→Value):Prop where
 jj: ∀i e,H i=some e→ER w M (ν i) e
 wg: ∀i j e e' b,i≠j→H i=some e→e.mut→H j=some e'→e'.mut→ez (ν i)=some b→ez (ν j)≠some b
 new: ∀i e b,H i=some e→e.mut→ez (ν i)=some b→c.B≤b∨c.may b
 uE: ∀i e l b,H i=some (.own e l)→ez (ν i)=some b→ ¬c.M0 b
 dW: ∀i τ x p j,H i=some (.dW τ x p j)→H j≠none∧ ∃b,ν i= .pointer (some ⟨b,0,none⟩)∧w.cell? ⟨b,bM p τ,none⟩=some (ν j)
 sub: ∀b,c.M0 b→M b
 zs: ∀b,M b→b<w.heap.size
 frame: ∀b,b<c.B→ ¬c.may b→w.heap[b]? =c.w0.heap[b]?
 size:c.B≤w.heap.size
 rr:(∀b,c.M0 b→b<c.B)∧ ∀b,c.may b→ ¬c.M0 b
 os:w.os=c.w0.os
 tape:w.tape=c.w0.tape
 output:w.output=c.w0.output
structure Tr(c:Ctx)(H:Nat→Option aR)(w:World)(M:Nat→Prop)(ν:Nat→Value)(H':Nat→Option aR)(w':World)(M':Nat→Prop)(ν':Nat→Value):Prop where
 mem:Mem c H' w' M' ν'
 bx:dp w M w' M'
 goes:ph H ν H' ν'
theorem aR.iD.trans{a b d:aR}(h:a.iD b)(k:b.iD d):a.iD d:=by
 cases a<;>cases b<;>cases d<;>simp only[aR.iD]at h k ⊢ <;>first
  |exact h.trans k
  |exact⟨h.1.trans k.1,h.2.trans k.2⟩
theorem ph.trans{H H' H'':Nat→Option aR}{ν ν' ν'':Nat→Value}(h:ph H ν H' ν')(k:ph H' ν' H'' ν''):ph H ν H'' ν'':=by
 refine⟨fun i e he=> ?_,fun i hi=> ?_⟩
 ·obtain⟨e',tC,l⟩:=h.jj i e he
  obtain⟨e'',amh,l'⟩:=k.jj i e' tC
  exact⟨e'',amh,l.trans l'⟩
 ·obtain⟨e,he⟩:=Option.ne_none_iff_exists'.1 hi
  obtain⟨e',tC,_⟩:=h.jj i e he
  rw[k.head i (by simp[tC]),h.head i hi]
theorem Tr.trans{c:Ctx}{H H' H'':Nat→Option aR}{w w' w'':World}{M M' Jz:Nat→Prop}{ν ν' ν'':Nat→Value}
  (h:Tr c H w M ν H' w' M' ν') (k:Tr c H' w' M' ν' H'' w'' Jz ν''):Tr c H w M ν H'' w'' Jz ν'':=
 ⟨k.mem,h.bx.trans k.bx,h.goes.trans k.goes⟩
theorem Tr.refl{c:Ctx}{H:Nat→Option aR}{w:World}{M:Nat→Prop}{ν:Nat→Value}(h:Mem c H w M ν):Tr c H w M ν H w M ν:=
 ⟨h,.refl w M,.refl H ν⟩
theorem ak(H:Nat→Option aR)(d:Nat)(v:Option aR):bs H d v d=v:=by simp[bs]
theorem an(H:Nat→Option aR){d i:Nat}(v:Option aR)(h:i≠d):bs H d v i=H i:=by
 have:Nat.beq i d=false:=by rw[←Bool.not_eq_true,Nat.beq_eq];exact h
 simp[bs,this]
def b8(H:Nat→Option aR):fF→(Nat→Option aR)
 |[]=>H
 |u::r=>b8 (bs H u.1 u.2) r
theorem JY(ups:fF): ∀σ:St,(σ.rC ups).H=b8 σ.H ups:=by
 induction ups with
 |nil=>intro σ;rfl
 |cons u r ih=>intro σ;exact ih _
theorem JZ(ups:fF): ∀σ:St,(σ.rC ups).T=σ.T:=by
 induction ups with
 |nil=>intro σ;rfl
 |cons u r ih=>intro σ;exact ih _
theorem eb(a b:fF): ∀H,b8 H (a++b)=b8 (b8 H a) b:=by
 induction a with
 |nil=>intro H;rfl
 |cons u r ih=>intro H;exact ih _
theorem sI{H:Nat→Option aR}{id j:Nat}{v:aR}(h:H j≠none):bs H id (some v) j≠none:=by
 by_cases hj:j=id
 ·subst hj;rw[ak];simp
 ·rw[an _ _ hj];exact h
theorem DR{H:Nat→Option aR}{w:World}{ν:Nat→Value}(h: ∀i τ x p j,H i=some (.dW τ x p j)→H j≠none∧ ∃b,ν i= .pointer (some ⟨b,0,none⟩)∧w.cell? ⟨b,bM p τ,none⟩=some (ν j)){id:Nat}{v:aR}(hv: ∀τ x p j,v≠ .dW τ x p j):
  ∀i τ x p j,bs H id (some v) i=some (.dW τ x p j)→bs H id (some v) j≠none∧ ∃b,ν i= .pointer (some ⟨b,0,none⟩)∧w.cell? ⟨b,bM p τ,none⟩=some (ν j):=by
 intro i τ x p j hi
 by_cases bu:i=id
 ·subst bu;rw[ak]at hi;cases hi;exact absurd rfl (hv _ _ _ _)
 ·rw[an _ _ bu]at hi
  obtain⟨h1,h2⟩:=h i τ x p j hi
  exact⟨sI h1,h2⟩
theorem Tr.gone{c:Ctx}{H:Nat→Option aR}{w:World}{M:Nat→Prop}{ν:Nat→Value}(h:Mem c H w M ν)(id:Nat):Tr c H w M ν (bs H id (some .gone)) w M ν:=by
 refine⟨⟨fun i e he=> ?_,fun i j e e' b oH hi hm hj gB=> ?_,fun i e b hi hm=> ?_,fun i e l b hi=> ?_,DR h.dW (fun _ _ _ _=>by simp),h.sub,h.zs,h.frame,h.size,h.rr,h.os,h.tape,h.output⟩,.refl w M,⟨fun i e he=> ?_,fun _ _=>rfl⟩⟩
 ·by_cases aU:i=id
  ·subst aU;rw[ak]at he;cases he;simp[ER]
  ·rw[an _ _ aU]at he;exact h.jj i e he
 ·by_cases aU:i=id
  ·subst aU;rw[ak]at hi;cases hi;simp[aR.mut]at hm
  ·by_cases hjd:j=id
   ·subst hjd;rw[ak]at hj;cases hj;simp[aR.mut]at gB
   ·rw[an _ _ aU]at hi;rw[an _ _ hjd]at hj;exact h.wg i j e e' b oH hi hm hj gB
 ·by_cases aU:i=id
  ·subst aU;rw[ak]at hi;cases hi;simp[aR.mut]at hm
  ·rw[an _ _ aU]at hi;exact h.new i e b hi hm
 ·by_cases aU:i=id
  ·subst aU;rw[ak]at hi;cases hi
  ·rw[an _ _ aU]at hi;exact h.uE i e l b hi
 ·by_cases aU:i=id
  ·subst aU;exact⟨.gone,ak _ _ _,by cases e<;>simp[aR.iD]⟩
  ·exact⟨e,by rw[an _ _ aU];exact he,.refl e⟩
theorem cell_of{w:World}{b:Nat}{cs:Array Value}{t:TypeId}{fz:Nat×Nat}(h:w.heap[b]? =some (.cells cs t fz))(o:Nat):w.cell? ⟨b,o,none⟩=cs[o]? :=by
 simp[World.cell?,h]
theorem At.of_block{w:World}{b:Nat}{cs:Array Value}{t:TypeId}{fz:Nat×Nat}(h:w.heap[b]? =some (.cells cs t fz))(o n:Nat):
  At w b o ((cs.toList.drop o).take n):=by
 intro j v hj
 rw[cell_of h]
 rw[List.getElem?_take]at hj
 split at hj
 ·rw[List.getElem?_drop]at hj;simpa using hj
 ·cases hj
theorem lt_of_block{w:World}{b:Nat}{o:Obj}(h:w.heap[b]? =some o):b<w.heap.size:=(Array.getElem?_eq_some_iff.1 h).1
theorem ER.bx{w w':World}{M M':Nat→Prop}{v:Value}(k:dp w M w' M'): ∀{e:aR},
  (e.mut→ ∀b,ez v=some b→w'.heap[b]? =w.heap[b]? ∧M' b)→ER w M v e→ER w' M' v e
 | .obj τ x,hm,h=>by
  simp only[ER]at h ⊢
  obtain⟨b,cs,t,rfl,hb,hM,hr⟩:=h
  obtain⟨h1,h2⟩:=hm trivial b rfl
  exact⟨b,cs,t,rfl,h1.trans hb,h2,hr.bx k⟩
 | .dW τ x p j,hm,h=>by
  simp only[ER]at h ⊢
  obtain⟨b,cs,t,oG,u,rfl,hb,hM,hr,h3⟩:=h
  obtain⟨h1,h2⟩:=hm trivial b rfl
  exact⟨b,cs,t,oG,u,rfl,h1.trans hb,h2,hr.bx k,h3⟩
 | .own e l,hm,h=>by
  simp only[ER]at h ⊢
  rcases h with h|⟨b,cs,t,cap,rfl,hb,hM,hc,hl,BL,hs,hr⟩
  ·exact .inl h
  ·obtain⟨h1,h2⟩:=hm trivial b (by simp[ez];omega)
   exact .inr ⟨b,cs,t,cap,rfl,h1.trans hb,h2,hc,hl,BL,hs,fun i hi=>(hr i hi).bx k⟩
 | .la e l,_,h=>by
  simp only[ER]at h ⊢
  exact⟨h.1.bx k,h.2⟩
 | .gone,_,_=>by simp[ER]
theorem ER.tO{w:World}{M:Nat→Prop}{v:Value}{e:aR}(h:ER w M v e)(hm:e.mut){b:Nat}(hb:ez v=some b):M b:=by
 cases e with
 |obj τ x=>simp only[ER]at h;obtain⟨b',cs,t,hv,dF,hM,_⟩:=h;rw[hv]at hb;simp only[ez,Option.some.injEq]at hb;subst hb;exact hM
 |dW τ x p j=>simp only[ER]at h;obtain⟨b',cs,t,_,_,hv,dF,hM,_⟩:=h;rw[hv]at hb;simp only[ez,Option.some.injEq]at hb;subst hb;exact hM
 |own e1 l1=>
  simp only[ER]at h
  rcases h with⟨_,a,hv⟩|⟨b',cs,t,cap,hv,dF,hM,hc,_⟩
  ·rw[hv]at hb;cases a<;>simp[ez]at hb
  ·rw[hv]at hb;simp only[ez]at hb;split at hb
   ·cases hb
   ·simp only[Option.some.injEq]at hb;subst hb;exact hM
 |la _ _=>simp[aR.mut]at hm
 |gone=>simp[aR.mut]at hm
theorem Tr.freeze{c:Ctx}{H:Nat→Option aR}{w:World}{M:Nat→Prop}{ν:Nat→Value}(h:Mem c H w M ν){id:Nat}{e:Ty}{l:List e.den}(aU:H id=some (.own e l)):
  ∃M',Tr c H w M ν (bs H id (some (.la e l))) w M' ν∧V w M' (.slice e) (ν id) l∧ ∀b,M' b↔(M b∧ez (ν id)≠some b):=by
 have hk:dp w M w (fun b=>M b∧ez (ν id)≠some b):=⟨Nat.le_refl _,fun _ _ _=>rfl,fun _ _ h=>h.1⟩
 have he:=h.jj id _ aU
 have iq:Rd w (fun b=>M b∧ez (ν id)≠some b) (.slice e) [ν id] l:=by
  simp only[ER]at he
  simp only[Rd]
  rcases he with⟨rfl,a,hv⟩|⟨b,cs,t,cap,hv,hb,hM,hc,hl,BL,hs,hr⟩
  ·exact⟨a,0,by rw[hv];rfl,Nat.le_refl _,fun i hi=>absurd hi (by simp)⟩
  ·refine⟨_,cap,by rw[hv],hl,fun i hi=>⟨b,0,rfl,lt_of_block hb,fun hm=>hm.2 (by rw[hv];simp[ez];omega),_,?_,(hr i hi).bx hk⟩⟩
   rw[Nat.zero_add]
   exact At.of_block hb _ _
 refine⟨fun b=>M b∧ez (ν id)≠some b,⟨⟨fun i e' hi=> ?_,fun i j e1 e2 b oH hi hm hj gB=> ?_,fun i e1 b hi hm=> ?_,fun i e1 l1 b hi=> ?_,DR h.dW (fun _ _ _ _=>by simp),fun b hb=>⟨h.sub b hb,fun hm=>h.uE id e l b aU hm hb⟩,fun b hb=>h.zs b hb.1,h.frame,h.size,h.rr,h.os,h.tape,h.output⟩,hk,⟨fun i e' hi=> ?_,fun _ _=>rfl⟩⟩,?_,fun _=>Iff.rfl⟩
 ·by_cases bu:i=id
  ·subst bu;rw[ak]at hi;cases hi
   simp only[ER]
   refine⟨iq,?_⟩
   simp only[ER]at he
   rcases he with⟨rfl,a,hv⟩|⟨b,cs,t,cap,hv,_⟩
   ·exact .inl ⟨rfl,a,0,0,hv⟩
   ·exact .inr ⟨b,_,cap,hv⟩
  ·rw[an _ _ bu]at hi
   refine(h.jj i e' hi).bx hk (fun hm b hb=>⟨rfl,?_,?_⟩)
   ·exact(h.jj i e' hi).tO hm hb
   ·exact h.wg i id e' (.own e l) b bu hi hm aU trivial hb
 ·by_cases bu:i=id
  ·subst bu;rw[ak]at hi;cases hi;simp[aR.mut]at hm
  ·by_cases BB:j=id
   ·subst BB;rw[ak]at hj;cases hj;simp[aR.mut]at gB
   ·rw[an _ _ bu]at hi;rw[an _ _ BB]at hj;exact h.wg i j e1 e2 b oH hi hm hj gB
 ·by_cases bu:i=id
  ·subst bu;rw[ak]at hi;cases hi;simp[aR.mut]at hm
  ·rw[an _ _ bu]at hi;exact h.new i e1 b hi hm
 ·by_cases bu:i=id
  ·subst bu;rw[ak]at hi;cases hi
  ·rw[an _ _ bu]at hi;exact h.uE i e1 l1 b hi
 ·by_cases bu:i=id
  ·subst bu;rw[aU]at hi;cases hi;exact⟨_,ak _ _ _,rfl,rfl⟩
  ·exact⟨e',by rw[an _ _ bu];exact hi,.refl e'⟩
 ·unfold V;rw[if_neg (by simp[Ty.isAgg])];exact iq
theorem Tr.fix{c:Ctx}{H:Nat→Option aR}{w:World}{M:Nat→Prop}{ν:Nat→Value}(h:Mem c H w M ν){id:Nat}{τ:Ty}{x:τ.den}(aU:H id=some (.obj τ x)):
  ∃M' b,Tr c H w M ν (bs H id (some .gone)) w M' ν∧ν id= .pointer (some ⟨b,0,none⟩)∧b<w.heap.size∧ ¬M' b∧ ∃cs,At w b 0 cs∧Rd w M' τ cs x:=by
 have he:=h.jj id _ aU
 simp only[ER]at he
 obtain⟨b0,cs,t,hv,hb,hM,hr⟩:=he
 have uF:ez (ν id)=some b0:=by rw[hv];rfl
 have hk:dp w M w (fun b=>M b∧b≠b0):=⟨Nat.le_refl _,fun _ _ _=>rfl,fun _ _ h=>h.1⟩
 have FN: ¬c.M0 b0:=fun hm=>(h.new id _ b0 aU trivial uF).elim (fun hB=>by have:=h.rr.1 b0 hm;omega) (fun hB=>h.rr.2 b0 hB hm)
 refine⟨fun b=>M b∧b≠b0,b0,⟨⟨fun i e' hi=> ?_,fun i j e1 e2 b oH hi hm hj gB=> ?_,fun i e1 b hi hm=> ?_,fun i e1 l1 b hi=> ?_,DR h.dW (fun _ _ _ _=>by simp),fun b dF=>⟨h.sub b dF,fun e=>FN (e▸dF)⟩,fun b dF=>h.zs b dF.1,h.frame,h.size,h.rr,h.os,h.tape,h.output⟩,hk,⟨fun i e' hi=> ?_,fun _ _=>rfl⟩⟩,hv,lt_of_block hb,fun hm=>hm.2 rfl,cs.toList,?_,hr.bx hk⟩
 ·by_cases bu:i=id
  ·subst bu;rw[ak]at hi;cases hi;simp[ER]
  ·rw[an _ _ bu]at hi
   refine(h.jj i e' hi).bx hk (fun hm b dF=>⟨rfl,?_,?_⟩)
   ·exact(h.jj i e' hi).tO hm dF
   ·intro e
    exact h.wg i id e' (.obj τ x) b bu hi hm aU trivial dF (by rw[uF,e])
 ·by_cases bu:i=id
  ·subst bu;rw[ak]at hi;cases hi;simp[aR.mut]at hm
  ·by_cases BB:j=id
   ·subst BB;rw[ak]at hj;cases hj;simp[aR.mut]at gB
   ·rw[an _ _ bu]at hi;rw[an _ _ BB]at hj;exact h.wg i j e1 e2 b oH hi hm hj gB
 ·by_cases bu:i=id
  ·subst bu;rw[ak]at hi;cases hi;simp[aR.mut]at hm
  ·rw[an _ _ bu]at hi;exact h.new i e1 b hi hm
 ·by_cases bu:i=id
  ·subst bu;rw[ak]at hi;cases hi
  ·rw[an _ _ bu]at hi;exact h.uE i e1 l1 b hi
 ·by_cases bu:i=id
  ·subst bu;rw[aU]at hi;cases hi;exact⟨_,ak _ _ _,trivial⟩
  ·exact⟨e',by rw[an _ _ bu];exact hi,.refl e'⟩
 ·have:=At.of_block hb 0 cs.toList.length
  rwa [List.drop_zero,List.take_length]at this
end VM
end
section
namespace VM
open Go
theorem zt(w:World)(o:Obj):(w.alloc o).heap[w.heap.size]? =some o:=by
 show(w.heap.push o)[w.heap.size]? =some o
 simp
theorem m7(w:World)(o:Obj){i:Nat}(h:i<w.heap.size):(w.alloc o).heap[i]? =w.heap[i]? :=by
 show(w.heap.push o)[i]? =w.heap[i]?
 rw[Array.getElem?_push,if_neg (Nat.ne_of_lt h)]
theorem size_alloc(w:World)(o:Obj):(w.alloc o).heap.size=w.heap.size+1:=by
 show(w.heap.push o).size=_
 simp
def cr(ν:Nat→Value)(d:Nat)(v:Value):Nat→Value:=fun i=>if i=d then v else ν i
theorem nr{c:Ctx}{H:Nat→Option aR}{w w':World}{M:Nat→Prop}{ν ν':Nat→Value}(h:Mem c H w M ν){H':Nat→Option aR}
  (hν: ∀i,H i≠none→ν' i=ν i) (hn: ∀i,H i≠none→H' i≠none)
  (hi: ∀i τ x p j,H' i=some (.dW τ x p j)→(H i=some (.dW τ x p j)∧ ∀b,ν i= .pointer (some ⟨b,0,none⟩)→w'.heap[b]? =w.heap[b]?)∨(H' j≠none∧ ∃b,ν' i= .pointer (some ⟨b,0,none⟩)∧w'.cell? ⟨b,bM p τ,none⟩=some (ν' j))):
  ∀i τ x p j,H' i=some (.dW τ x p j)→H' j≠none∧ ∃b,ν' i= .pointer (some ⟨b,0,none⟩)∧w'.cell? ⟨b,bM p τ,none⟩=some (ν' j):=by
 intro i τ x p j he
 rcases hi i τ x p j he with⟨h1,hb⟩|h1
 ·obtain⟨h2,b,h3,h4⟩:=h.dW i τ x p j h1
  refine⟨hn j h2,b,by rw[hν i (by rw[h1];simp)];exact h3,?_⟩
  rw[hν j h2,World.cell?_of_block (w:=w) (hb b h3)]
  exact h4
 ·exact h1
theorem sJ{H:Nat→Option aR}{id:Nat}{v:aR}: ∀i,H i≠none→bs H id (some v) i≠none:=fun _ h=>sI h
theorem uR{H:Nat→Option aR}{id:Nat}{v:aR}(hv: ∀τ x p j,v≠ .dW τ x p j){i:Nat}{τ:Ty}{x:τ.den}{p:List Step}{j:Nat}(h:bs H id (some v) i=some (.dW τ x p j)):H i=some (.dW τ x p j):=by
 by_cases bu:i=id
 ·subst bu;rw[ak]at h;cases h;exact absurd rfl (hv _ _ _ _)
 ·rw[an _ _ bu]at h;exact h
theorem Tr.alloc{c:Ctx}{H:Nat→Option aR}{w:World}{M:Nat→Prop}{ν:Nat→Value}(h:Mem c H w M ν){id:Nat}(aU:H id=none)(o:Obj)(v:Value)(e:aR)(hm:e.mut)(Cp: ∀τ x p j,e≠ .dW τ x p j)
  (hb:ez v=none∨ez v=some w.heap.size) (Nf:ER (w.alloc o) (fun b=>M b∨b=w.heap.size) v e):
  Tr c H w M ν (bs H id (some e)) (w.alloc o) (fun b=>M b∨b=w.heap.size) (cr ν id v):=by
 have hk:dp w M (w.alloc o) (fun b=>M b∨b=w.heap.size):=
  ⟨by rw[size_alloc];omega,fun b hb _=>m7 w o hb,fun b hb h'=>h'.resolve_right (by omega)⟩
 have hν: ∀i,i≠id→cr ν id v i=ν i:=fun i hi=>by simp[cr,hi]
 have ym:cr ν id v id=v:=by simp[cr]
 have dT: ∀i e' b,H i=some e'→e'.mut→ez (ν i)=some b→b<w.heap.size:=fun i e' b hi gB dF=>h.zs b ((h.jj i e' hi).tO gB dF)
 refine⟨⟨fun i e' hi=> ?_,fun i j e1 e2 b oH hi pG hj uS=> ?_,fun i e1 b hi pG=> ?_,fun i e1 l1 b hi=> ?_,nr h (fun i hi=>hν i (fun e=>hi (e▸aU))) sJ (fun i τ x p j hi=> .inl ⟨uR Cp hi,fun b hb=>m7 w o (dT i _ b (uR Cp hi) trivial (by rw[hb];rfl))⟩),fun b hb=> .inl (h.sub b hb),fun b dF=> ?_,fun b ke tg=> ?_,?_,h.rr,h.os,h.tape,h.output⟩,hk,⟨fun i e' hi=> ?_,fun i hi=> ?_⟩⟩
 ·by_cases bu:i=id
  ·subst bu;rw[ak]at hi;cases hi;rw[ym];exact Nf
  ·rw[an _ _ bu]at hi;rw[hν i bu]
   exact(h.jj i e' hi).bx hk fun gB b dF=>⟨m7 w o (dT i e' b hi gB dF),.inl ((h.jj i e' hi).tO gB dF)⟩
 ·by_cases bu:i=id
  ·subst bu;rw[ak]at hi;cases hi;rw[ym]
   intro ke
   have BB:j≠i:=Ne.symm oH
   rw[an _ _ BB]at hj;rw[hν j BB]
   intro tg
   have:=dT j e2 b hj uS tg
   rcases hb with hb|hb<;>rw[hb]at ke<;>simp at ke
   omega
  ·rw[an _ _ bu]at hi;rw[hν i bu]
   by_cases BB:j=id
   ·subst BB;rw[ym]
    intro ke tg
    have:=dT i e1 b hi pG ke
    rcases hb with hb|hb<;>rw[hb]at tg<;>simp at tg
    omega
   ·rw[an _ _ BB]at hj;rw[hν j BB];exact h.wg i j e1 e2 b oH hi pG hj uS
 ·by_cases bu:i=id
  ·subst bu;rw[ym]
   intro ke
   rcases hb with hb|hb<;>rw[hb]at ke<;>simp at ke
   subst ke;exact .inl h.size
  ·rw[an _ _ bu]at hi;rw[hν i bu];exact h.new i e1 b hi pG
 ·by_cases bu:i=id
  ·subst bu;rw[ym]
   intro ke h0
   rcases hb with hb|hb<;>rw[hb]at ke<;>simp at ke
   have:=h.rr.1 b h0
   have:=h.size
   omega
  ·rw[an _ _ bu]at hi;rw[hν i bu];exact h.uE i e1 l1 b hi
 ·rw[size_alloc]
  rcases dF with dF|dF
  ·have:=h.zs b dF;omega
  ·omega
 ·rw[m7 w o (Nat.lt_of_lt_of_le ke h.size)];exact h.frame b ke tg
 ·rw[size_alloc];have:=h.size;omega
 ·by_cases bu:i=id
  ·subst bu;rw[aU]at hi;cases hi
  ·exact⟨e',by rw[an _ _ bu];exact hi,.refl e'⟩
 ·have bu:i≠id:=fun e=>hi (e▸aU)
  exact hν i bu
theorem Tr.var{c:Ctx}{H:Nat→Option aR}{w:World}{M:Nat→Prop}{ν:Nat→Value}(h:Mem c H w M ν){id:Nat}(aU:H id=none)(t:TypeId){τ:Ty}{cs:Array Value}{x:τ.den}(hr:Rd w M τ cs.toList x):
  Tr c H w M ν (bs H id (some (.obj τ x))) (w.alloc (.cells cs t)) (fun b=>M b∨b=w.heap.size) (cr ν id (.pointer (some ⟨w.heap.size,0,none⟩))):=by
 refine Tr.alloc h aU _ _ _ trivial (fun _ _ _ _=>by simp) (.inr rfl) ?_
 simp only[ER]
 have hk:dp w M (w.alloc (.cells cs t)) (fun b=>M b∨b=w.heap.size):=
  ⟨by rw[size_alloc];omega,fun b hb _=>m7 w _ hb,fun b hb h'=>h'.resolve_right (by omega)⟩
 exact⟨w.heap.size,cs,t,rfl,zt w _,.inr rfl,hr.bx hk⟩
theorem Tr.row{c:Ctx}{H:Nat→Option aR}{w:World}{M:Nat→Prop}{ν:Nat→Value}(h:Mem c H w M ν){id:Nat}(aU:H id=none)(t:TypeId){e:Ty}{cs:Array Value}{l:List e.den}{cap:Nat}
  (hl:l.length≤cap) (hm:cap≤maxLen) (hs:cs.size=cap*e.size) (hr: ∀i (hi:i<l.length),Rd w M e ((cs.toList.drop (i*e.size)).take e.size) l[i]):
  Tr c H w M ν (bs H id (some (.own e l))) (w.alloc (.cells cs t)) (fun b=>M b∨b=w.heap.size) (cr ν id (.slice (some ⟨w.heap.size,0,none⟩) l.length cap)):=by
 have hk:dp w M (w.alloc (.cells cs t)) (fun b=>M b∨b=w.heap.size):=
  ⟨by rw[size_alloc];omega,fun b hb _=>m7 w _ hb,fun b hb h'=>h'.resolve_right (by omega)⟩
 refine Tr.alloc h aU _ _ _ trivial (fun _ _ _ _=>by simp) ?_ ?_
 ·simp only[ez];split
  ·exact .inl rfl
  ·exact .inr rfl
 ·simp only[ER]
  by_cases hc:cap=0
  ·subst hc
   have hl0:l=[]:=List.eq_nil_of_length_eq_zero (by omega)
   subst hl0
   exact .inl ⟨rfl,_,rfl⟩
  ·exact .inr ⟨w.heap.size,cs,t,cap,rfl,zt w _,.inr rfl,by omega,hl,hm,hs,fun i hi=>(hr i hi).bx hk⟩
theorem Tr.drew{c:Ctx}{H:Nat→Option aR}{w:World}{M:Nat→Prop}{ν:Nat→Value}(h:Mem c H w M ν):Tr c H w M ν H w.drew M ν:=by
 have hk:dp w M w.drew M:=⟨Nat.le_refl _,fun _ _ _=>rfl,fun _ _ h=>h⟩
 exact⟨⟨fun i e he=>(h.jj i e he).bx hk fun hm b hb=>⟨rfl,(h.jj i e he).tO hm hb⟩,h.wg,h.new,h.uE,h.dW,h.sub,h.zs,h.frame,h.size,h.rr,h.os,h.tape,h.output⟩,hk,.refl H ν⟩
theorem size_setRow(w:World)(g:Nat)(cs:Array Value):(w.setRow g cs).heap.size=w.heap.size:=by simp[World.setRow]
theorem Tr.write{c:Ctx}{H:Nat→Option aR}{w:World}{M:Nat→Prop}{ν:Nat→Value}(h:Mem c H w M ν){id:Nat}{e e':aR}(aU:H id=some e)(hm:e.mut)(gB:e'.mut)(hl:e.iD e')
  {b:Nat} (hb:ez (ν id)=some b) {cs new:Array Value} {t:TypeId} (hg:w.heap[b]? =some (.cells cs t (0,0)))
  (Nf: ∀M',dp w M (w.setRow b new) M'→M' b→ER (w.setRow b new) M' (ν id) e')
  (pH: ∀τ x p j,e'= .dW τ x p j→H j≠none∧ ∃b',ν id= .pointer (some ⟨b',0,none⟩)∧(w.setRow b new).cell? ⟨b',bM p τ,none⟩=some (ν j):=by intro _ _ _ _ h;cases h):
  Tr c H w M ν (bs H id (some e')) (w.setRow b new) M ν:=by
 have hMb:M b:=(h.jj id e aU).tO hm hb
 have hk:dp w M (w.setRow b new) M:=
  ⟨by rw[size_setRow];exact Nat.le_refl _,fun b' _ hm=>setRow_other w b b' new (fun e=>hm (e▸hMb)),fun _ _ h=>h⟩
 refine⟨⟨fun i e1 hi=> ?_,fun i j e1 e2 b1 oH hi pG hj uS=> ?_,fun i e1 b1 hi pG=> ?_,fun i e1 l1 b1 hi=> ?_,nr h (fun _ _=>rfl) sJ (fun i τ x p j hi=> ?_),h.sub,fun b1 ke=>by rw[size_setRow];exact h.zs b1 ke,fun b1 ke tg=> ?_,by rw[size_setRow];exact h.size,h.rr,h.os,h.tape,h.output⟩,hk,⟨fun i e1 hi=> ?_,fun i hi=>rfl⟩⟩
 ·by_cases bu:i=id
  ·subst bu;rw[ak]at hi;cases hi;exact Nf M hk hMb
  ·rw[an _ _ bu]at hi
   exact(h.jj i e1 hi).bx hk fun pG b1 ke=>⟨setRow_other w b b1 new (fun e'=>h.wg i id e1 e b1 bu hi pG aU hm ke (e'▸hb)),(h.jj i e1 hi).tO pG ke⟩
 ·by_cases bu:i=id
  ·subst bu;rw[ak]at hi;cases hi
   have BB:j≠i:=Ne.symm oH
   rw[an _ _ BB]at hj
   exact h.wg i j e e2 b1 oH aU hm hj uS
  ·rw[an _ _ bu]at hi
   by_cases BB:j=id
   ·subst BB;exact h.wg i j e1 e b1 oH hi pG aU hm
   ·rw[an _ _ BB]at hj;exact h.wg i j e1 e2 b1 oH hi pG hj uS
 ·by_cases bu:i=id
  ·subst bu;exact h.new i e b1 aU hm
  ·rw[an _ _ bu]at hi;exact h.new i e1 b1 hi pG
 ·by_cases bu:i=id
  ·subst bu;rw[ak]at hi;cases hi
   cases e with
   |own e0 l0=>exact h.uE i e0 l0 b1 aU
   |obj _ _=>simp[aR.iD]at hl
   |dW _ _ _ _=>simp[aR.iD]at hl
   |la _ _=>simp[aR.mut]at hm
   |gone=>simp[aR.mut]at hm
  ·rw[an _ _ bu]at hi;exact h.uE i e1 l1 b1 hi
 ·by_cases bu:i=id
  ·subst bu;rw[ak]at hi;cases hi
   obtain⟨h1,h2⟩:=pH _ _ _ _ rfl
   exact .inr ⟨sI h1,h2⟩
  ·rw[an _ _ bu]at hi
   exact .inl ⟨hi,fun b1 ke=>setRow_other w b b1 new (fun e1=>h.wg i id _ e b1 bu hi trivial aU hm (by rw[ke];rfl) (e1▸hb))⟩
 ·rw[setRow_other w b b1 new]
  ·exact h.frame b1 ke tg
  ·intro hbb;subst hbb
   rcases h.new id e b1 aU hm hb with h'|h'
   ·omega
   ·exact tg h'
 ·by_cases bu:i=id
  ·subst bu;rw[aU]at hi;cases hi;exact⟨e',ak _ _ _,hl⟩
  ·exact⟨e1,by rw[an _ _ bu];exact hi,.refl e1⟩
theorem Tr.rename{c:Ctx}{H:Nat→Option aR}{w:World}{M:Nat→Prop}{ν:Nat→Value}(h:Mem c H w M ν){j id:Nat}{e e':Ty}{l:List e.den}{l':List e'.den}(hj:H j=some (.own e l))(aU:H id=none)
  {v:Value} (hb:ez v=none∨ez v=ez (ν j)) (Nf:ER w M v (.own e' l')):
  Tr c H w M ν (bs (bs H j (some .gone)) id (some (.own e' l'))) w M (cr ν id v):=by
 have gi:j≠id:=fun e=>by rw[e,aU]at hj;cases hj
 have h1:=(Tr.gone h j).mem
 have ma:bs H j (some .gone) id=none:=by rw[an _ _ (Ne.symm gi)];exact aU
 have hν: ∀i,i≠id→cr ν id v i=ν i:=fun i hi=>by simp[cr,hi]
 have ym:cr ν id v id=v:=by simp[cr]
 refine⟨⟨fun i e1 hi=> ?_,fun i k e1 e2 b1 oH hi pG hk uS=> ?_,fun i e1 b1 hi pG=> ?_,fun i e1 l1 b1 hi=> ?_,nr h1 (fun i hi=>hν i (fun e=>hi (e▸ma))) sJ (fun i τ x p j hi=> .inl ⟨uR (fun _ _ _ _=>by simp) hi,fun _ _=>rfl⟩),h.sub,h.zs,h.frame,h.size,h.rr,h.os,h.tape,h.output⟩,.refl w M,⟨fun i e1 hi=> ?_,fun i hi=> ?_⟩⟩
 ·by_cases bu:i=id
  ·subst bu;rw[ak]at hi;cases hi;rw[ym];exact Nf
  ·rw[an _ _ bu]at hi;rw[hν i bu];exact h1.jj i e1 hi
 ·by_cases bu:i=id
  ·subst bu;rw[ak]at hi;cases hi;rw[ym]
   have FO:k≠i:=Ne.symm oH
   rw[an _ _ FO]at hk;rw[hν k FO]
   intro ke
   rcases hb with hb|hb
   ·rw[hb]at ke;cases ke
   ·rw[hb]at ke
    by_cases hkj:k=j
    ·subst hkj;rw[ak]at hk;cases hk;simp[aR.mut]at uS
    ·rw[an _ _ hkj]at hk;exact h.wg j k _ e2 b1 (Ne.symm hkj) hj trivial hk uS ke
  ·rw[an _ _ bu]at hi;rw[hν i bu]
   by_cases FO:k=id
   ·subst FO;rw[ym]
    intro ke tg
    rcases hb with hb|hb
    ·rw[hb]at tg;cases tg
    ·rw[hb]at tg
     by_cases BM:i=j
     ·subst BM;rw[ak]at hi;cases hi;simp[aR.mut]at pG
     ·rw[an _ _ BM]at hi;exact h.wg j i _ e1 b1 (Ne.symm BM) hj trivial hi pG tg ke
   ·rw[an _ _ FO]at hk;rw[hν k FO];exact h1.wg i k e1 e2 b1 oH hi pG hk uS
 ·by_cases bu:i=id
  ·subst bu;rw[ym];intro ke
   rcases hb with hb|hb
   ·rw[hb]at ke;cases ke
   ·rw[hb]at ke;exact h.new j _ b1 hj trivial ke
  ·rw[an _ _ bu]at hi;rw[hν i bu];exact h1.new i e1 b1 hi pG
 ·by_cases bu:i=id
  ·subst bu;rw[ym];intro ke
   rcases hb with hb|hb
   ·rw[hb]at ke;cases ke
   ·rw[hb]at ke;exact h.uE j e l b1 hj ke
  ·rw[an _ _ bu]at hi;rw[hν i bu];exact h1.uE i e1 l1 b1 hi
 ·by_cases BM:i=j
  ·subst BM;exact⟨.gone,by rw[an _ _ gi,ak],by cases e1<;>simp[aR.iD]⟩
  ·have bu:i≠id:=fun e=>by rw[e,aU]at hi;cases hi
   exact⟨e1,by rw[an _ _ bu,an _ _ BM];exact hi,.refl e1⟩
 ·exact hν i (fun e=>hi (e▸aU))
theorem Tr.Ng{c:Ctx}{H:Nat→Option aR}{w:World}{M:Nat→Prop}{ν:Nat→Value}(h:Mem c H w M ν){id:Nat}{e e':aR}(aU:H id=some e)(hm:e.mut)(gB:e'.mut)(hl:e.iD e')(pI: ∀e0 l0,e'≠ .own e0 l0)
  (Nf:ER w M (ν id) e') (pH: ∀τ x p j,e'= .dW τ x p j→H j≠none∧ ∃b',ν id= .pointer (some ⟨b',0,none⟩)∧w.cell? ⟨b',bM p τ,none⟩=some (ν j)):
  Tr c H w M ν (bs H id (some e')) w M ν:=by
 refine⟨⟨fun i e1 hi=> ?_,fun i j e1 e2 b1 oH hi pG hj uS=> ?_,fun i e1 b1 hi pG=> ?_,fun i e1 l1 b1 hi=> ?_,nr h (fun _ _=>rfl) sJ (fun i τ x p j hi=> ?_),h.sub,h.zs,h.frame,h.size,h.rr,h.os,h.tape,h.output⟩,.refl w M,⟨fun i e1 hi=> ?_,fun i hi=>rfl⟩⟩
 ·by_cases bu:i=id
  ·subst bu;rw[ak]at hi;cases hi;exact Nf
  ·rw[an _ _ bu]at hi;exact h.jj i e1 hi
 ·by_cases bu:i=id
  ·subst bu;rw[ak]at hi;cases hi
   have BB:j≠i:=Ne.symm oH
   rw[an _ _ BB]at hj
   exact h.wg i j e e2 b1 oH aU hm hj uS
  ·rw[an _ _ bu]at hi
   by_cases BB:j=id
   ·subst BB;exact h.wg i j e1 e b1 oH hi pG aU hm
   ·rw[an _ _ BB]at hj;exact h.wg i j e1 e2 b1 oH hi pG hj uS
 ·by_cases bu:i=id
  ·subst bu;exact h.new i e b1 aU hm
  ·rw[an _ _ bu]at hi;exact h.new i e1 b1 hi pG
 ·by_cases bu:i=id
  ·subst bu;rw[ak]at hi;cases hi;exact absurd rfl (pI _ _)
  ·rw[an _ _ bu]at hi;exact h.uE i e1 l1 b1 hi
 ·by_cases bu:i=id
  ·subst bu;rw[ak]at hi;cases hi
   obtain⟨h1,h2⟩:=pH _ _ _ _ rfl
   exact .inr ⟨sI h1,h2⟩
  ·rw[an _ _ bu]at hi;exact .inl ⟨hi,fun _ _=>rfl⟩
 ·by_cases bu:i=id
  ·subst bu;rw[aU]at hi;cases hi;exact⟨e',ak _ _ _,hl⟩
  ·exact⟨e1,by rw[an _ _ bu];exact hi,.refl e1⟩
theorem Tr.nothing{c:Ctx}{w:World}{M:Nat→Prop}{ν:Nat→Value}{H:Nat→Option aR}(h:Mem c H w M ν){id:Nat}(aU:H id=none)(e:Ty)(ad:Option Addr):
  Tr c H w M ν (bs H id (some (.own e []))) w M (cr ν id (.slice ad 0 0)):=by
 have hν: ∀i,i≠id→cr ν id (.slice ad 0 0) i=ν i:=fun i hi=>by simp[cr,hi]
 have ym:cr ν id (.slice ad 0 0) id= .slice ad 0 0:=by simp[cr]
 have hb:ez (.slice ad 0 0)=none:=by cases ad<;>simp[ez]
 refine⟨⟨fun i e1 hi=> ?_,fun i k e1 e2 b1 oH hi pG hk uS=> ?_,fun i e1 b1 hi pG=> ?_,fun i e1 l1 b1 hi=> ?_,nr h (fun i hi=>hν i (fun e=>hi (e▸aU))) sJ (fun i τ x p j hi=> .inl ⟨uR (fun _ _ _ _=>by simp) hi,fun _ _=>rfl⟩),h.sub,h.zs,h.frame,h.size,h.rr,h.os,h.tape,h.output⟩,.refl w M,⟨fun i e1 hi=> ?_,fun i hi=>hν i (fun e=>hi (e▸aU))⟩⟩
 ·by_cases bu:i=id
  ·subst bu;rw[ak]at hi;cases hi;rw[ym];simp only[ER];exact .inl ⟨trivial,ad,rfl⟩
  ·rw[an _ _ bu]at hi;rw[hν i bu];exact h.jj i e1 hi
 ·by_cases bu:i=id
  ·subst bu;rw[ym,hb];intro h';cases h'
  ·rw[an _ _ bu]at hi;rw[hν i bu]
   by_cases FO:k=id
   ·subst FO;rw[ym,hb];intro _ h';cases h'
   ·rw[an _ _ FO]at hk;rw[hν k FO];exact h.wg i k e1 e2 b1 oH hi pG hk uS
 ·by_cases bu:i=id
  ·subst bu;rw[ym,hb];intro h';cases h'
  ·rw[an _ _ bu]at hi;rw[hν i bu];exact h.new i e1 b1 hi pG
 ·by_cases bu:i=id
  ·subst bu;rw[ym,hb];intro h';cases h'
  ·rw[an _ _ bu]at hi;rw[hν i bu];exact h.uE i e1 l1 b1 hi
 ·have bu:i≠id:=fun e=>by rw[e,aU]at hi;cases hi
  exact⟨e1,by rw[an _ _ bu];exact hi,.refl e1⟩
end VM
end
section
namespace VM
open Go
theorem bc{α:Type}{υ τ:Ty}{y:υ.den}{k:τ.den→Option α}{r:α}(h:ch υ τ y k=some r): ∃e:υ=τ,k (e▸y)=some r:=by
 unfold ch at h
 split at h
 ·rename_i e;exact⟨e,h⟩
 ·cases h
theorem dN{α:Type}{υ τ:Ty}{k:Option α}{r:α}(h:jK υ τ k=some r):υ=τ∧k=some r:=by
 unfold jK at h
 split at h
 ·rename_i e;exact⟨e,h⟩
 ·cases h
theorem V.slice{w:World}{M:Nat→Prop}{e:Ty}{v:Value}{l:List e.den}:V w M (.slice e) v l↔Rd w M (.slice e) [v] l:=by
 unfold V;rw[if_neg (by simp[Ty.isAgg])]
def Fz(H H1:Nat→Option aR):Prop:= ∀i,H1 i=H i∨ ∃e l,H i=some (.own e l)∧H1 i=some (.la e l)
theorem Fz.refl(H:Nat→Option aR):Fz H H:=fun _=> .inl rfl
theorem Fz.none{H H1:Nat→Option aR}(h:Fz H H1){i:Nat}(hi:H i=none):H1 i=none:=by
 rcases h i with h'|⟨e,l,h',_⟩
 ·rw[h',hi]
 ·rw[hi]at h';cases h'
theorem Fz.obj{H H1:Nat→Option aR}(h:Fz H H1){i:Nat}{τ:Ty}{x:τ.den}(hi:H i=some (.obj τ x)):H1 i=some (.obj τ x):=by
 rcases h i with h'|⟨e,l,h',_⟩
 ·rw[h',hi]
 ·rw[hi]at h';cases h'
theorem wy{H:Nat→Option aR}{id:Nat}{e:Option aR}(h:H id=e):bs H id e=H:=by
 funext i
 by_cases hi:i=id
 ·subst hi;rw[ak,h]
 ·rw[an _ _ hi]
theorem kC{α:Type}{c:Ctx}{H H1:Nat→Option aR}{w:World}{M:Nat→Prop}{ν:Nat→Value}(hz:Fz H H1)(hm:Mem c H1 w M ν){a:a6}{v:Value}(hv:VR w M H1 ν a v){τ:Ty}
  {k:τ.den→List Nat→fF→Option α} {r:α} (h:iV true a H τ k=some r):
  ∃y rd ups M',k y rd ups=some r∧Tr c H1 w M ν (b8 H1 ups) w M' ν∧V w M' τ v y∧Fz H (b8 H1 ups)∧ ∀i,rd.contains i=false→b8 H1 ups i=H1 i:=by
 unfold iV at h
 split at h
 ·
  obtain⟨e,h⟩:=bc h
  subst e
  simp only[VR]at hv
  exact⟨_,[],[],M,h,.refl hm,hv,hz,fun _ _=>rfl⟩
 ·
  obtain⟨e,h⟩:=bc h
  subst e
  simp only[VR]at hv
  exact⟨_,[],[],M,h,.refl hm,hv.1,hz,fun _ _=>rfl⟩
 ·
  split at h
  ·rename_i e k' _
   simp only[VR]at hv
   obtain⟨a,rfl⟩:=hv
   refine⟨[],[],[],M,h,.refl hm,V.slice.2 ?_,hz,fun _ _=>rfl⟩
   simp only[Rd]
   exact⟨a,0,rfl,Nat.le_refl _,fun i hi=>absurd hi (by simp)⟩
  ·cases h
 ·rename_i id
  simp only[VR]at hv
  obtain⟨_,rfl⟩:=hv
  split at h
  ·rename_i e l aU
   obtain⟨e',h⟩:=bc h
   subst e'
   rcases hz id with h1|⟨e1,l1,h1,h2⟩
   ·rw[aU]at h1
    obtain⟨M',eZ,hV,_⟩:=Tr.freeze hm h1
    refine⟨_,_,_,M',h,eZ,hV,fun i=> ?_,fun i hi=>an _ _ (by simpa using hi)⟩
    show bs H1 id (some (.la e l)) i=H i∨_
    by_cases hi:i=id
    ·subst hi;exact .inr ⟨e,l,aU,ak _ _ _⟩
    ·rw[an _ _ hi]
     rcases hz i with h'|⟨e2,l2,h2,h3⟩
     ·exact .inl h'
     ·exact .inr ⟨e2,l2,h2,by show bs H1 id _ i=_;rw[an _ _ hi];exact h3⟩
   ·rw[aU]at h1;cases h1
    have:=hm.jj id _ h2
    simp only[ER]at this
    refine⟨_,_,[(id,some (.la e l))],M,h,?_,V.slice.2 this.1,?_,fun i hi=>an _ _ (by simpa using hi)⟩
    ·show Tr c H1 w M ν (bs H1 id (some (.la e l))) w M ν
     rw[wy h2];exact .refl hm
    ·show Fz H (bs H1 id (some (.la e l)))
     rw[wy h2];exact hz
  ·rename_i e l aU
   obtain⟨e',h⟩:=bc h
   subst e'
   have h1:H1 id=some (.la e l):=by
    rcases hz id with h1|⟨e1,l1,h1,h2⟩
    ·rw[h1,aU]
    ·rw[aU]at h1;cases h1
   have:=hm.jj id _ h1
   simp only[ER]at this
   exact⟨_,_,_,M,h,.refl hm,V.slice.2 this.1,hz,fun _ _=>rfl⟩
  ·cases h
 ·cases h
def Src(w:World)(M:Nat→Prop)(e:Ty)(v:Value)(l:List e.den):Prop:=
 ∃a cap,v= .slice a l.length cap∧ ∀i (h:i<l.length),∃b off cs,a=some ⟨b,off,none⟩∧At w b (off+i*e.size) cs∧Rd w M e cs l[i]
theorem Src.TD{w:World}{M:Nat→Prop}{e:Ty}{v:Value}{l:List e.den}(h:V w M (.slice e) v l):Src w M e v l:=by
 have h:=V.slice.1 h
 simp only[Rd,List.cons.injEq,and_true]at h
 obtain⟨a,cap,rfl,_,hr⟩:=h
 refine⟨a,cap,rfl,fun i hi=> ?_⟩
 obtain⟨b,off,ha,_,_,cs,ld,iq⟩:=hr i hi
 exact⟨b,off,cs,ha,ld,iq⟩
theorem xm{α:Type}{c:Ctx}{H:Nat→Option aR}{w:World}{M:Nat→Prop}{ν:Nat→Value}(hm:Mem c H w M ν){a:a6}{v:Value}(hv:VR w M H ν a v){e:Ty}
  {k:List e.den→List Nat→fF→Option α} {r:α} (h:iV false a H (.slice e) k=some r):
  ∃y rd,k y rd []=some r∧Src w M e v y:=by
 unfold iV at h
 split at h
 ·obtain⟨e',h⟩:=bc h
  subst e'
  simp only[VR]at hv
  exact⟨_,[],h,.TD hv⟩
 ·obtain⟨e',h⟩:=bc h
  subst e'
  simp only[VR]at hv
  exact⟨_,[],h,.TD hv.1⟩
 ·have h:k [] [] []=some r:=h
  simp only[VR]at hv
  obtain⟨a,rfl⟩:=hv
  exact⟨[],[],h,a,0,rfl,fun i hi=>absurd hi (by simp)⟩
 ·rename_i id
  simp only[VR]at hv
  obtain⟨_,rfl⟩:=hv
  split at h
  ·rename_i e1 l aU
   obtain⟨e',h⟩:=bc h
   cases e'
   refine⟨_,_,h,?_⟩
   have:=hm.jj id _ aU
   simp only[ER]at this
   rcases this with⟨rfl,a,hv⟩|⟨b,cs,t,cap,hv,hb,hM,hc,hl,BL,hs,hr⟩
   ·exact⟨a,0,hv,fun i hi=>absurd hi (by simp)⟩
   ·refine⟨_,cap,hv,fun i hi=>⟨b,0,_,rfl,?_,hr i hi⟩⟩
    rw[Nat.zero_add]
    exact At.of_block hb _ _
  ·rename_i e1 l aU
   obtain⟨e',h⟩:=bc h
   cases e'
   have:=hm.jj id _ aU
   simp only[ER]at this
   exact⟨_,_,h,.TD (V.slice.2 this.1)⟩
  ·cases h
 ·cases h
theorem Src.cells{w:World}{M:Nat→Prop}{e:Ty}{v:Value}{l:List e.den}(h:Src w M e v l)(gi:l≠[]):
  ∃b off cap news,v= .slice (some ⟨b,off,none⟩) l.length cap∧news.length=l.length*e.size∧At w b off news∧
   (∀i (hi:i<l.length),Rd w M e ((news.drop (i*e.size)).take e.size) l[i])∧ ∀u∈news,u.oneCell'=true:=by
 obtain⟨a,cap,rfl,hr⟩:=h
 have h0:0<l.length:=List.length_pos_iff.2 gi
 obtain⟨b,off,_,ha,_⟩:=hr 0 h0
 subst ha
 have key: ∀n,n≤l.length→ ∃news:List Value,news.length=n*e.size∧At w b off news∧
   (∀i (hi:i<l.length),i<n→Rd w M e ((news.drop (i*e.size)).take e.size) l[i])∧ ∀u∈news,u.oneCell'=true:=by
  intro n
  induction n with
  |zero=>exact fun _=>⟨[],by simp,fun j v hj=>by simp at hj,fun i _ hi=>by omega,by simp⟩
  |succ n ih=>
   intro hn
   obtain⟨news,hl,ld,iq,abf⟩:=ih (by omega)
   obtain⟨b',ato,cs,ha,abg,Nh⟩:=hr n (by omega)
   cases ha
   refine⟨news++cs,by rw[List.length_append,hl,Nh.length,Nat.add_mul,Nat.one_mul],At.append.2 ⟨ld,by rw[hl];exact abg⟩,fun i hi ir=> ?_,fun u hu=> ?_⟩
   ·by_cases dT:i<n
    ·have h1:(i+1)*e.size≤n*e.size:=Nat.mul_le_mul_right _ dT
     rw[Nat.add_mul,Nat.one_mul]at h1
     rw[List.drop_append_of_le_length (by omega),List.take_append_of_le_length (by rw[List.length_drop];omega)]
     exact iq i hi dT
    ·obtain rfl:i=n:=by omega
     rw[List.drop_left' hl,List.take_of_length_le (by rw[Nh.length];exact Nat.le_refl _)]
     exact Nh
   ·rcases List.mem_append.1 hu with hu|hu
    ·exact abf u hu
    ·exact Nh.lf u hu
 obtain⟨news,hl,ld,iq,abf⟩:=key l.length (Nat.le_refl _)
 exact⟨b,off,cap,news,rfl,hl,ld,fun i hi=>iq i hi hi,abf⟩
structure Core(c:Ctx)(σ:St)(tm:Array Value)(w:World)(M:Nat→Prop)(ν:Nat→Value):Prop where
 mem:Mem c σ.H w M ν
 tmp: ∀i,VR w M σ.H ν (σ.T i) (tm.getD i undef)
theorem Ni(w:World)(M:Nat→Prop)(H:Nat→Option aR)(ν:Nat→Value)(v:Value):VR w M H ν (cvA v) v:=by
 unfold cvA
 split<;>simp[VR,V,Ty.isAgg,Rd]
theorem Core.op{c:Ctx}{σ:St}{tm:Array Value}{w:World}{M:Nat→Prop}{ν:Nat→Value}(h:Core c σ tm w M ν)(ds:List Deferred)(x:Operand):
  VR w M σ.H ν (σ.ρ x) (({tmps:=tm,defers:=ds}:Act).eval x):=by
 cases x with
 |tmp t=>exact h.tmp t
 |const v=>exact Ni w M σ.H ν v
 |global g=>simp[St.ρ,VR]
 |func f=>simp[St.ρ,VR,fQ,Act.eval]
def agz(P:Program)(t:TypeId)(τ:Ty):Prop:=
 ∀(w:World) (M:Nat→Prop) (u v:Value) (x y:τ.den) (b:BinOp) (xo yo:Operand),V w M τ u x→V w M τ v y→
  (eqGuard b t xo yo u v).run P w= .ok () w∧(binOp .eql t u v).run P w= .ok (.bool (kZ τ x y)) w∧(binOp .neq t u v).run P w= .ok (.bool (!kZ τ x y)) w
structure EnvTy(P:Program)(E:Env):Prop where
 ty: ∀t τ,E.ty t=some τ→g5 P τ t
 eq: ∀t τ,E.ty t=some τ→τ.comparable=true→τ.isAgg=true→agz P t τ
end VM
end
section
namespace VM
open Go
variable{P:Program}
theorem uT{o:Oper}{ρ:Operand→Value}{t:TypeId}{i:TypeInfo}{z:Value}(ho:o.op= .alloc t)(hi:P.info? t=some i)(hz:i.zero=some z)(w:World):
  (execOp ρ o).run P w= .ok (.value (.pointer (some ⟨w.heap.size,0,none⟩))) (w.alloc (.cells z.cells t)):=by
 simp[execOp,ho,Instr.alloc,zeroValue,typeInfo,hi,hz,newVar,newRow]
theorem zu{o:Oper}{ρ:Operand→Value}{t:TypeId}{x:Operand}(ho:o.op= .box t x)(w:World):
  (execOp ρ o).run P w= .ok (.value (.pointer (some ⟨w.heap.size,0,none⟩))) (w.alloc (.cells (ρ x).cells t)):=by
 simp[execOp,ho,Instr.box,newVar,newRow]
theorem pJ{τ:Ty}{t:TypeId}(h:g5 P τ t)(w:World):(isAgg t).run P w= .ok τ.isAgg w:=by
 unfold g5 at h
 cases τ<;>simp only[dM]at h
 ·simp[isAgg,run_underlying h.2,Ty.isAgg]
 ·simp[isAgg,run_underlying h.2,Ty.isAgg]
 ·simp[isAgg,run_underlying h.2,Ty.isAgg]
 ·obtain⟨_,e',h',_⟩:=h;simp[isAgg,run_underlying h',Ty.isAgg]
 ·obtain⟨_,e',h',_⟩:=h;simp[isAgg,run_underlying h',Ty.isAgg]
 ·obtain⟨_,e',f,h',_⟩:=h;simp[isAgg,run_underlying h',Ty.isAgg]
 ·obtain⟨_,e',h',_⟩:=h;simp[isAgg,run_underlying h',Ty.isAgg]
theorem cj{τ:Ty}{t:TypeId}(h:g5 P τ t)(w:World):(Go.sizeOf t).run P w= .ok τ.size w:=by
 obtain⟨i,hi,hs,_⟩:=h.base
 simp[Go.sizeOf,typeInfo,hi,hs]
theorem xn{w:World}{M:Nat→Prop}{τ:Ty}{t:TypeId}(h:g5 P τ t){b off:Nat}{cs:List Value}{x:τ.den}(ha:At w b off cs)(hr:Rd w M τ cs x):
  (loadVar t ⟨b,off,none⟩).run P w= .ok (bQ τ cs) w:=by
 have hl:(loadCells ⟨b,off,none⟩ τ.size).run P w= .ok cs.toArray w:=by
  rw[←hr.length]
  exact run_loadCells_list w _ cs fun j v hj=>by rw[show(⟨b,off,none⟩:Addr).add j=⟨b,off+j,none⟩from by unfold Addr.add;split<;>simp_all];exact ha j v hj
 unfold bQ
 by_cases FP:τ.isAgg=true
 ·simp[loadVar,pJ h,FP,cj h,hl]
 ·obtain⟨v,rfl,hc⟩:=hr.scalar (by simpa using FP)
  have h0:=ha 0 v rfl
  simp only[Nat.add_zero]at h0
  simp[loadVar,pJ h,FP,load,Sem.run,h0]
theorem rK{o:Oper}{ρ:Operand→Value}{t:TypeId}{x:Operand}(ho:o.op= .load t x){w:World}{M:Nat→Prop}{τ:Ty}(h:g5 P τ t){b off:Nat}{cs:List Value}{y:τ.den}
  (hx:ρ x= .pointer (some ⟨b,off,none⟩)) (ha:At w b off cs) (hr:Rd w M τ cs y):
  (execOp ρ o).run P w= .ok (.value (bQ τ cs)) w:=by
 simp[execOp,ho,hx,Instr.loadAt,Instr.sureAddr,xn h ha hr]
theorem jM{o:Oper}{ρ:Operand→Value}{t:TypeId}{x y:Operand}(ho:o.op= .store t x y){w:World}{τ:Ty}(h:g5 P τ t){b off:Nat}{cur:Array Value}{te:TypeId}
  (hx:ρ x= .pointer (some ⟨b,off,none⟩)) (hg:w.heap[b]? =some (.cells cur te (0,0))) (hs:(ρ y).cells.size=τ.size) (hf:off+τ.size≤cur.size) (h1: ∀v∈(ρ y).cells.toList,v.oneCell'=true):
  (execOp ρ o).run P w= .ok .skip (w.setRow b (cur.toList.take off++(ρ y).cells.toList++cur.toList.drop (off+(ρ y).cells.toList.length)).toArray):=by
 have JA:=run_storeCells_at (P:=P) b off te (ρ y).cells.toList 0 cur w hg (by simp[hs];omega) h1
 simp only[Nat.add_zero]at JA
 simp[execOp,ho,hx,Instr.storeAt,Instr.sureAddr,storeVar,cj h,hs,JA]
theorem pK{o:Oper}{ρ:Operand→Value}{t:TypeId}{x:Operand}{n:Nat}(ho:o.op= .fieldAddr t x n){w:World}{fs:Array Field}{f:Field}{b off:Nat}{υ:Ty}
  (hu:P.underlying t=some (.struct fs)) (hf:fs[n]? =some f) (hl:g5 P υ f.type) (hz:υ.size≠0) (hx:ρ x= .pointer (some ⟨b,off,none⟩)):
  ∃a,(execOp ρ o).run P w= .ok (.value a) w∧a= .pointer (some ⟨b,off+f.offset,none⟩):=by
 refine⟨_,?_,rfl⟩
 simp[execOp,ho,hx,Instr.fieldAt,Instr.sureAddr,run_underlying hu,hf,fieldPlace,Addr.add_lit,cj hl,hz]
theorem uU{τ:Ty}{t:TypeId}(h:g5 P τ t){w:World}{M:Nat→Prop}{cs:Array Value}{off:Nat}{x:τ.den}(hr:Rd w M τ ((cs.toList.drop off).take τ.size) x):
  (part t cs off).run P w= .ok (bQ τ ((cs.toList.drop off).take τ.size)) w:=by
 have hl:=hr.length
 unfold bQ
 by_cases FP:τ.isAgg=true
 ·simp only[part,Sem.run_bind,pJ h,Result.andThen_ok,FP,if_true,cj h]
  simp
  rw[List.length_take,List.length_drop,Array.length_toList]at hl
  apply Array.ext'
  simp only[Array.toList_extract,List.extract_eq_take_drop,Nat.add_sub_cancel_left]
 ·obtain⟨v,hv,hc⟩:=hr.scalar (by simpa using FP)
  rw[hv]
  have h0:cs[off]? =some v:=by
   have:=congrArg (fun l=>l[0]?) hv
   simp only[List.getElem?_take,List.getElem?_drop]at this
   split at this
   ·simpa using this
   ·simp at this
  simp[part,pJ h,FP,h0]
theorem DS{o:Oper}{ρ:Operand→Value}{t:TypeId}{x:Operand}{n:Nat}(ho:o.op= .field t x n){w:World}{M:Nat→Prop}{fs:Array Field}{f:Field}{cs:Array Value}{υ:Ty}{y:υ.den}
  (hu:P.underlying t=some (.struct fs)) (hf:fs[n]? =some f) (hl:g5 P υ f.type) (hx:ρ x= .agg cs) (hr:Rd w M υ ((cs.toList.drop f.offset).take υ.size) y):
  (execOp ρ o).run P w= .ok (.value (bQ υ ((cs.toList.drop f.offset).take υ.size))) w:=by
 simp[execOp,ho,hx,Instr.field,run_underlying hu,hf,asAgg,uU hl hr]
theorem iw{o:Oper}{ρ:Operand→Value}{t e:TypeId}{x i:Operand}(ho:o.op= .indexAddr t x i){w:World}{τe:Ty}{b off len cap:Nat}{k:IntKind}{n:Int}
  (hu:P.underlying t=some (.slice e)) (he:g5 P τe e) (hx:ρ x= .slice (some ⟨b,off,none⟩) len cap) (hi:ρ i= .int k n) (h0:0≤n) (h1:n<(len:Int)):
  (execOp ρ o).run P w= .ok (.value (.pointer (some ⟨b,off+n.toNat*τe.size,none⟩))) w:=by
 simp[execOp,ho,hx,hi,Instr.indexAt,asIntOf,run_underlying hu,h0,h1,cj he,Addr.add_lit]
theorem oJ{o:Oper}{ρ:Operand→Value}{t e:TypeId}{x i:Operand}(ho:o.op= .indexAddr t x i){w:World}{τe:Ty}{b off len:Nat}{k:IntKind}{n:Int}
  (hu:P.underlying t=some (.array len e)) (he:g5 P τe e) (hx:ρ x= .pointer (some ⟨b,off,none⟩)) (hi:ρ i= .int k n) (h0:0≤n) (h1:n<(len:Int)):
  (execOp ρ o).run P w= .ok (.value (.pointer (some ⟨b,off+n.toNat*τe.size,none⟩))) w:=by
 simp[execOp,ho,hx,hi,Instr.indexAt,Instr.sureAddr,asIntOf,run_underlying hu,h0,h1,cj he,Addr.add_lit]
theorem BN{o:Oper}{ρ:Operand→Value}{t e:TypeId}{x i:Operand}(ho:o.op= .index t x i){w:World}{M:Nat→Prop}{τe:Ty}{len:Nat}{k:IntKind}{n:Int}{cs:Array Value}{y:τe.den}
  (hu:P.underlying t=some (.array len e)) (he:g5 P τe e) (hx:ρ x= .agg cs) (hi:ρ i= .int k n) (h0:0≤n) (h1:n<(len:Int)) (hr:Rd w M τe ((cs.toList.drop (n.toNat*τe.size)).take τe.size) y):
  (execOp ρ o).run P w= .ok (.value (bQ τe ((cs.toList.drop (n.toNat*τe.size)).take τe.size))) w:=by
 simp[execOp,ho,hx,hi,Instr.index,asIntOf,run_underlying hu,h0,h1,cj he,uU he hr]
theorem zv{o:Oper}{ρ:Operand→Value}{x:Operand}{n:Nat}(ho:o.op= .extract x n){w:World}{us:List Value}{v:Value}(hx:ρ x= .tuple us.toArray)(hv:us[n]? =some v):
  (execOp ρ o).run P w= .ok (.value v) w:=by
 simp[execOp,ho,hx,Instr.extract,hv]
theorem FQ{o:Oper}{ρ:Operand→Value}{x y z:Operand}(ho:o.op= .pick x y z){w:World}{b:Bool}(hx:ρ x= .bool b):
  (execOp ρ o).run P w= .ok (.value (if b then ρ y else ρ z)) w:=by
 simp[execOp,ho,hx,asBool]
theorem q7{o:Oper}{ρ:Operand→Value}{x:Operand}(ho:o.op= .nilCheck x){w:World}{a:Addr}(hx:ρ x= .pointer (some a)):
  (execOp ρ o).run P w= .ok (.value (.pointer (some a))) w:=by
 simp[execOp,ho,hx]
theorem yn{o:Oper}{ρ:Operand→Value}{f:FuncId}{first caps:Array Operand}(ho:o.op= .makeFunc (.func f) first caps)(hf:first= #[]){w:World}:
  (execOp ρ o).run P w= .ok (.value (.func (.func f) #[] (caps.map ρ))) w:=by
 subst hf
 simp[execOp,ho,Instr.makeFunc]
theorem zw{o:Oper}{ρ:Operand→Value}{s d:TypeId}{x:Operand}(ho:o.op= .convert s d x){w:World}{k k':IntKind}{n:Int}(hs:(P.underlying s).isSome=true)(hd:P.underlying d=some (.int k))(hx:ρ x= .int k' n):
  (execOp ρ o).run P w= .ok (.value (.int k (k.wrap n))) w:=by
 obtain⟨ds,hs⟩:=Option.isSome_iff_exists.1 hs
 simp[execOp,ho,hx,convert,run_underlying hs,run_underlying hd,Conv.intToInt]
theorem rL{o:Oper}{ρ:Operand→Value}{u:UnOp}{t:TypeId}{x:Operand}(ho:o.op= .unOp u t x){w:World}{v:Value}(h:(Op.unary u (ρ x)).run P w= .ok v w):
  (execOp ρ o).run P w= .ok (.value v) w:=by
 simp[execOp,ho,h]
theorem mH{o:Oper}{ρ:Operand→Value}{b:BinOp}{t t':TypeId}{x y:Operand}(ho:o.op= .binOp b t x y t'){w:World}{v:Value}
  (hg:(eqGuard b t x y (ρ x) (ρ y)).run P w= .ok () w) (h:(binOp b t (ρ x) (ρ y)).run P w= .ok v w):
  (execOp ρ o).run P w= .ok (.value v) w:=by
 simp[execOp,ho,hg,h]
theorem mc{b:BinOp}{t:TypeId}{x y:Operand}{k k':IntKind}{m n:Int}(w:World):(eqGuard b t x y (.int k m) (.int k' n)).run P w= .ok () w:=by
 cases b<;>simp[eqGuard]
theorem wz{b:BinOp}{t:TypeId}{x y:Operand}{m n:Bool}(w:World):(eqGuard b t x y (.bool m) (.bool n)).run P w= .ok () w:=by
 cases b<;>simp[eqGuard]
theorem yp{b:BinOp}{t:TypeId}{x y:Operand}{m n:ByteArray}(w:World):(eqGuard b t x y (.string m) (.string n)).run P w= .ok () w:=by
 cases b<;>simp[eqGuard]
theorem ns{o:Oper}{ρ:Operand→Value}{b:Builtin}{args:Array Operand}{ts:Array TypeId}(ho:o.op= .call {callee:= .builtin b,args,argTypes:=ts}){w:World}:
  ∃cs,(execOp ρ o).run P w=(builtin b ts o.type cs (args.map ρ)).run P w:=by
 refine⟨args.map fun| .const _=>true|_=>false,?_⟩
 simp[execOp,ho,resolve,invoke]
 rfl
end VM
end
section
namespace VM
open Go
theorem oL{α:Type}{r:α}: ∀{τ:Ty} {x:τ.den} {n:Nat} {m:(υ:Ty)→υ.den→(υ.den→Option α)→Option α} {k:τ.den→Option α},jJ τ x n m k=some r→
  ∃υ y o k',yl τ x n υ y o∧m υ y k'=some r∧ ∀z r',k' z=some r'→ ∃x',k x'=some r'∧yl τ x' n υ z o∧
   ∀(w:World) (M:Nat→Prop) cs cs',Rd w M τ cs x→Rd w M υ cs' z→Rd w M τ (dq cs o cs') x'
 | .pair a b,x,0,m,k,h=>by
  refine⟨a,x.1,0,_,.here x,h,fun z r' hz=>⟨(z,x.2),hz,.here (a:=a) (b:=b) (z,x.2),fun w M cs cs' hr dD=> ?_⟩⟩
  simp only[Rd]at hr ⊢
  obtain⟨c1,c2,rfl,h1,h2⟩:=hr
  refine⟨cs',c2,?_,dD,h2⟩
  rw[uQ (by rw[dD.length,h1.length];omega)]
  congr 1
  unfold dq
  rw[Nat.zero_add,dD.length,←h1.length];simp
 | .pair a b,x,n+1,m,k,h=>by
  obtain⟨υ,y,o,k',hf,hm,hk⟩:=oL (τ:=b) (x:=x.2) (n:=n) (m:=m) (k:=fun z=>k (x.1,z)) h
  refine⟨υ,y,_,k',.there x hf,hm,fun z r' hz=> ?_⟩
  obtain⟨x',pL,we,iq⟩:=hk z r' hz
  refine⟨(x.1,x'),pL,.there (a:=a) (b:=b) (x.1,x') we,fun w M cs cs' hr dD=> ?_⟩
  simp only[Rd]at hr ⊢
  obtain⟨c1,c2,rfl,h1,h2⟩:=hr
  refine⟨c1,_,?_,h1,iq w M c2 cs' h2 dD⟩
  rw[←h1.length,sH]
 | .int _,_,_,_,_,h| .bool,_,_,_,_,h| .str,_,_,_,_,h| .slice _,_,_,_,_,h| .unit,_,_,_,_,h| .arr _ _,_,_,_,_,h=>by simp[jJ]at h
def nu(w:World)(M:Nat→Prop)(e:Ty)(cs:List Value)(l:List e.den):Prop:=
 ∀i (h:i<l.length),Rd w M e ((cs.drop (i*e.size)).take e.size) l[i]
theorem cY{i n s:Nat}(h:i<n):i*s+s≤n*s:=by
 have:(i+1)*s≤n*s:=Nat.mul_le_mul_right _ h
 rw[Nat.add_mul,Nat.one_mul]at this;exact this
theorem nu.set{w:World}{M:Nat→Prop}{e:Ty}{cs:List Value}{l:List e.den}(h:nu w M e cs l)(hl:l.length*e.size≤cs.length){i:Nat}(hi:i<l.length){cs':List Value}{y:e.den}(hr:Rd w M e cs' y):
  nu w M e (dq cs (i*e.size) cs') (l.set i y):=by
 have hlen:=hr.length
 intro j hj
 rw[List.length_set]at hj
 have h1:=cY (s:=e.size) hi
 have h2:=cY (s:=e.size) hj
 by_cases oH:j=i
 ·subst oH
  have:=abc (a:=cs) (o:=j*e.size) (new:=cs') (by omega)
  rw[hlen]at this
  rw[this,List.getElem_set_self];exact hr
 ·rw[DQ (by
   rcases Nat.lt_or_gt_of_ne oH with dT|dT
   ·have:=cY (s:=e.size) dT;left;omega
   ·have:=cY (s:=e.size) dT;right;omega) (by omega),List.getElem_set_ne (Ne.symm oH)]
  exact h j hj
theorem nu.append{w:World}{M:Nat→Prop}{e:Ty}{c1 c2:List Value}{l1 l2:List e.den}(h1:nu w M e c1 l1)(hl:c1.length=l1.length*e.size)(h2:nu w M e c2 l2):nu w M e (c1++c2) (l1++l2):=by
 intro i hi
 by_cases dT:i<l1.length
 ·have:=cY (s:=e.size) dT
  rw[List.drop_append_of_le_length (by omega),List.take_append_of_le_length (by rw[List.length_drop];omega),List.getElem_append_left dT]
  exact h1 i dT
 ·rw[List.length_append]at hi
  obtain⟨k,rfl⟩: ∃k,i=l1.length+k:=⟨i-l1.length,by omega⟩
  rw[Nat.add_mul,←hl,←List.drop_drop,List.drop_left' rfl,List.getElem_append_right (by omega)]
  simp only[Nat.add_sub_cancel_left]
  exact h2 k (by omega)
theorem nu.take{w:World}{M:Nat→Prop}{e:Ty}{cs:List Value}{l:List e.den}(h:nu w M e cs l){n:Nat}(hn:l.length*e.size≤n):nu w M e (cs.take n) l:=by
 intro i hi
 have:=cY (s:=e.size) hi
 rw[List.drop_take,List.take_take,Nat.min_eq_left (by omega)]
 exact h i hi
theorem nu.more{w:World}{M:Nat→Prop}{e:Ty}{cs cs':List Value}{l:List e.den}(h:nu w M e cs l)(hl:l.length*e.size≤cs.length):nu w M e (cs++cs') l:=by
 intro i hi
 have:=cY (s:=e.size) hi
 rw[List.drop_append_of_le_length (by omega),List.take_append_of_le_length (by rw[List.length_drop];omega)]
 exact h i hi
theorem nu.bx{w w':World}{M M':Nat→Prop}(k:dp w M w' M'){e:Ty}{cs:List Value}{l:List e.den}(h:nu w M e cs l):nu w' M' e cs l:=fun i hi=>(h i hi).bx k
theorem Rd.arr{w:World}{M:Nat→Prop}{n:Nat}{e:Ty}{cs:List Value}{x:(Ty.arr n e).den}:Rd w M (.arr n e) cs x↔List.length x=n∧cs.length=n*e.size∧nu w M e cs x:=by
 constructor
 ·intro h
  have hl:=h.length
  have h':=h
  simp only[Rd]at h'
  refine⟨h'.1,hl,fun i hi=> ?_⟩
  have:=h.idx (i:=i) (by omega)
  rw[g6 x i e.zero hi]at this
  exact this
 ·rintro⟨hn,hl,hr⟩
  simp only[Rd]
  refine⟨hn,(List.range n).map fun i=>(cs.drop (i*e.size)).take e.size,by simp,?_,fun i hi kk=> ?_⟩
  ·
   have key: ∀m (l:List Value),l.length=m*e.size→l=((List.range m).map fun i=>(l.drop (i*e.size)).take e.size).flatten:=by
    intro m
    induction m with
    |zero=>intro l hl;simpa using hl
    |succ m ih=>
     intro l hl
     have h1:(l.take (m*e.size)).length=m*e.size:=by rw[List.length_take,hl,Nat.add_mul];omega
     have h2:=ih (l.take (m*e.size)) h1
     rw[List.range_succ,List.map_append,List.flatten_append]
     have h3:((List.range m).map fun i=>(l.drop (i*e.size)).take e.size)=(List.range m).map fun i=>((l.take (m*e.size)).drop (i*e.size)).take e.size:=by
      apply List.map_congr_left
      intro i hi
      have:=cY (s:=e.size) (List.mem_range.1 hi)
      rw[List.drop_take,List.take_take,Nat.min_eq_left (by omega)]
     rw[h3,←h2]
     simp only[List.map_cons,List.map_nil,List.flatten_cons,List.flatten_nil,List.append_nil]
     rw[List.take_of_length_le (l:=l.drop (m*e.size)) (by rw[List.length_drop,hl,Nat.add_mul];omega),List.take_append_drop]
   exact key n cs hl
  ·simp only[List.getElem_map,List.getElem_range]
   exact hr i hi
theorem lB{α:Type}{r:α}{υ:Ty}{y:υ.den}: ∀{p:List Step} {τ:Ty} {x:τ.den} {k:τ.den→Option α},rm υ y p τ x k=some r→
  ∃z,k z=some r∧BK p τ=υ∧(tf p τ→bM p τ+υ.size≤τ.size)∧ ∀(w:World) (M:Nat→Prop) cs cs',tf p τ→Rd w M τ cs x→Rd w M υ cs' y→Rd w M τ (dq cs (bM p τ) cs') z
 |[],τ,x,k,h=>by
  obtain⟨e,h⟩:=bc (h:ch υ τ y k=some r)
  subst e
  refine⟨y,h,rfl,fun _=>by simp[bM],fun w M cs cs' _ hr dD=> ?_⟩
  unfold dq
  rw[show bM [] υ=0 from rfl,Nat.zero_add,dD.length,←hr.length]
  simpa using dD
 | .gX n::p,τ,x,k,h=>by
  obtain⟨υ',y',o,k',hf,hm,hk⟩:=oL (h:jJ τ x n _ k=some r)
  obtain⟨z',BC,ht,BD,iq⟩:=lB (p:=p) (τ:=υ') (x:=y') (k:=k') hm
  obtain⟨x',pL,we,Nh⟩:=hk z' r BC
  obtain⟨h1,h2⟩:=hf.eq
  subst h1 h2
  refine⟨x',pL,ht,fun hi=>by have:=hf.bound;have:=BD hi;simp only[bM];omega,fun w M cs cs' hi hr dD=> ?_⟩
  have BD:=BD hi
  have h3:=iq w M _ cs' hi (hf.rd hr) dD
  have h4:=Nh w M cs _ hr h3
  have hb:=hf.bound
  have TE:=hr.length
  have hl2:=dD.length
  have S4:=h3.length
  have ir:bM p (rq τ n)+cs'.length≤((cs.drop (oj τ n)).take (rq τ n).size).length:=by
   rw[List.length_take,List.length_drop];omega
  have:dq cs (oj τ n) (dq ((cs.drop (oj τ n)).take (rq τ n).size) (bM p (rq τ n)) cs')=dq cs (oj τ n+bM p (rq τ n)) cs':=by
   have e1:cs=cs.take (oj τ n)++(((cs.drop (oj τ n)).take (rq τ n).size)++cs.drop (oj τ n+(rq τ n).size)):=by
    rw[←List.drop_drop,List.take_append_drop,List.take_append_drop]
   have dT:(cs.take (oj τ n)).length=oj τ n:=by rw[List.length_take];omega
   conv=>rhs;rw[e1]
   rw[show oj τ n+bM p (rq τ n)=(cs.take (oj τ n)).length+bM p (rq τ n)from by rw[dT],sH,uQ ir]
   generalize dq ((cs.drop (oj τ n)).take (rq τ n).size) (bM p (rq τ n)) cs'=m at S4 ⊢
   unfold dq
   rw[S4,List.append_assoc]
  simp only[bM]
  rw[←this]
  exact h4
 | .idx i::p,τ,x,k,h=>by
  cases τ with
  |arr n e=>
   obtain⟨z',BC,ht,BD,iq⟩:=lB (p:=p) (τ:=e) (x:=List.getD x i e.zero) (k:=fun z=>k (List.set x i z)) h
   refine⟨_,BC,ht,fun hi=>by
    obtain⟨⟨n',e',he,ir⟩,kk⟩:=hi
    cases he
    have:=BD kk
    have hm:=cY (s:=e.size) ir
    simp only[bM,elT,Ty.size];omega,fun w M cs cs' hi hr dD=> ?_⟩
   obtain⟨⟨n',e',he,ir⟩,kk⟩:=hi
   cases he
   have h3:=iq w M _ cs' kk (hr.idx ir) dD
   obtain⟨hn,TE,JB⟩:=Rd.arr.1 hr
   have hm:=cY (s:=e.size) ir
   have h4:=JB.set (by rw[TE,hn];exact Nat.le_refl _) (i:=i) (by omega) h3
   have hl2:=dD.length
   have S4:=h3.length
   have hch:((cs.drop (i*e.size)).take e.size).length=e.size:=by rw[List.length_take,List.length_drop];omega
   have BD:=BD kk
   have ami:bM p e+cs'.length≤((cs.drop (i*e.size)).take e.size).length:=by omega
   have:dq cs (i*e.size) (dq ((cs.drop (i*e.size)).take e.size) (bM p e) cs')=dq cs (i*e.size+bM p e) cs':=by
    have e1:cs=cs.take (i*e.size)++(((cs.drop (i*e.size)).take e.size)++cs.drop (i*e.size+e.size)):=by
     rw[←List.drop_drop,List.take_append_drop,List.take_append_drop]
    have dT:(cs.take (i*e.size)).length=i*e.size:=by rw[List.length_take];omega
    conv=>rhs;rw[e1]
    rw[show i*e.size+bM p e=(cs.take (i*e.size)).length+bM p e from by rw[dT],sH,uQ ami]
    generalize dq ((cs.drop (i*e.size)).take e.size) (bM p e) cs'=m at S4 ⊢
    unfold dq
    rw[S4,List.append_assoc]
   simp only[bM,elT]
   rw[←this]
   refine Rd.arr.2 ⟨by rw[List.length_set];exact hn,?_,h4⟩
   rw[ep (by rw[S4];omega)];exact TE
  |_=>simp[rm,yU]at h
end VM
end
