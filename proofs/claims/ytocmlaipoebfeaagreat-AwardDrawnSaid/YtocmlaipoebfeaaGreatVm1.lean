/- A part of the proof of AwardDrawn of layer 25: a machine that reads a function of the program as an equation between values. -/
import Derived.Test.YtocmlaipoebfeaaGreatVm0
import Derived.WalkLawsBesides
import Derived.Great.BuildSlice
import Derived.Laws.Tables
set_option linter.all false
section
namespace VM
open Go
structure Ctx where
 B:Nat
 w0:World
 M0:Nat→Prop
 may:Nat→Prop
 arg:Nat→Value
structure Mem(c:Ctx)(H:Nat→Option aQ)(w:World)(M:Nat→Prop)(ν:Nat→Value):Prop where
 ix: ∀i e,H i=some e→ER w M (ν i) e
 uU: ∀i j e e' b,i≠j→H i=some e→e.mut→H j=some e'→e'.mut→eh (ν i)=some b→eh (ν j)≠some b
 new: ∀i e b,H i=some e→e.mut→eh (ν i)=some b→c.B≤b∨c.may b
 td: ∀i e l b,H i=some (.own e l)→eh (ν i)=some b→ ¬c.M0 b
 dN: ∀i τ x p j,H i=some (.dN τ x p j)→H j≠none∧ ∃b,ν i= .pointer (some ⟨b,0,none⟩)∧w.cell? ⟨b,bB p τ,none⟩=some (ν j)
 sub: ∀b,c.M0 b→M b
 xQ: ∀b,M b→b<w.heap.size
 frame: ∀b,b<c.B→ ¬c.may b→w.heap[b]? =c.w0.heap[b]?
 size:c.B≤w.heap.size
 qa:(∀b,c.M0 b→b<c.B)∧ ∀b,c.may b→ ¬c.M0 b
 os:w.os=c.w0.os
 tape:w.tape=c.w0.tape
 output:w.output=c.w0.output
structure Tr(c:Ctx)(H:Nat→Option aQ)(w:World)(M:Nat→Prop)(ν:Nat→Value)(H':Nat→Option aQ)(w':World)(M':Nat→Prop)(ν':Nat→Value):Prop where
 mem:Mem c H' w' M' ν'
 br:da w M w' M'
 goes:oa H ν H' ν'
theorem aQ.gQ.trans{a b d:aQ}(h:a.gQ b)(k:b.gQ d):a.gQ d:=by
 cases a<;>cases b<;>cases d<;>simp only[aQ.gQ]at h k ⊢ <;>first
  |exact h.trans k
  |exact⟨h.1.trans k.1,h.2.trans k.2⟩
theorem oa.trans{H H' H'':Nat→Option aQ}{ν ν' ν'':Nat→Value}(h:oa H ν H' ν')(k:oa H' ν' H'' ν''):oa H ν H'' ν'':=by
 refine⟨fun i e he=> ?_,fun i hi=> ?_⟩
 ·obtain⟨e',rX,l⟩:=h.ix i e he
  obtain⟨e'',ahO,l'⟩:=k.ix i e' rX
  exact⟨e'',ahO,l.trans l'⟩
 ·obtain⟨e,he⟩:=Option.ne_none_iff_exists'.1 hi
  obtain⟨e',rX,_⟩:=h.ix i e he
  rw[k.head i (by simp[rX]),h.head i hi]
theorem Tr.trans{c:Ctx}{H H' H'':Nat→Option aQ}{w w' w'':World}{M M' GG:Nat→Prop}{ν ν' ν'':Nat→Value}
  (h:Tr c H w M ν H' w' M' ν') (k:Tr c H' w' M' ν' H'' w'' GG ν''):Tr c H w M ν H'' w'' GG ν'':=
 ⟨k.mem,h.br.trans k.br,h.goes.trans k.goes⟩
theorem Tr.refl{c:Ctx}{H:Nat→Option aQ}{w:World}{M:Nat→Prop}{ν:Nat→Value}(h:Mem c H w M ν):Tr c H w M ν H w M ν:=
 ⟨h,.refl w M,.refl H ν⟩
theorem ak(H:Nat→Option aQ)(d:Nat)(v:Option aQ):bn H d v d=v:=by simp[bn]
theorem al(H:Nat→Option aQ){d i:Nat}(v:Option aQ)(h:i≠d):bn H d v i=H i:=by
 have:Nat.beq i d=false:=by rw[←Bool.not_eq_true,Nat.beq_eq];exact h
 simp[bn,this]
def bS(H:Nat→Option aQ):fg→(Nat→Option aQ)
 |[]=>H
 |u::r=>bS (bn H u.1 u.2) r
theorem Hc(ups:fg): ∀σ:St,(σ.qh ups).H=bS σ.H ups:=by
 induction ups with
 |nil=>intro σ;rfl
 |cons u r ih=>intro σ;exact ih _
theorem Hd(ups:fg): ∀σ:St,(σ.qh ups).T=σ.T:=by
 induction ups with
 |nil=>intro σ;rfl
 |cons u r ih=>intro σ;exact ih _
theorem dU(a b:fg): ∀H,bS H (a++b)=bS (bS H a) b:=by
 induction a with
 |nil=>intro H;rfl
 |cons u r ih=>intro H;exact ih _
theorem q8{H:Nat→Option aQ}{id j:Nat}{v:aQ}(h:H j≠none):bn H id (some v) j≠none:=by
 by_cases hj:j=id
 ·subst hj;rw[ak];simp
 ·rw[al _ _ hj];exact h
theorem BO{H:Nat→Option aQ}{w:World}{ν:Nat→Value}(h: ∀i τ x p j,H i=some (.dN τ x p j)→H j≠none∧ ∃b,ν i= .pointer (some ⟨b,0,none⟩)∧w.cell? ⟨b,bB p τ,none⟩=some (ν j)){id:Nat}{v:aQ}(hv: ∀τ x p j,v≠ .dN τ x p j):
  ∀i τ x p j,bn H id (some v) i=some (.dN τ x p j)→bn H id (some v) j≠none∧ ∃b,ν i= .pointer (some ⟨b,0,none⟩)∧w.cell? ⟨b,bB p τ,none⟩=some (ν j):=by
 intro i τ x p j hi
 by_cases bq:i=id
 ·subst bq;rw[ak]at hi;cases hi;exact absurd rfl (hv _ _ _ _)
 ·rw[al _ _ bq]at hi
  obtain⟨h1,h2⟩:=h i τ x p j hi
  exact⟨q8 h1,h2⟩
theorem Tr.gone{c:Ctx}{H:Nat→Option aQ}{w:World}{M:Nat→Prop}{ν:Nat→Value}(h:Mem c H w M ν)(id:Nat):Tr c H w M ν (bn H id (some .gone)) w M ν:=by
 refine⟨⟨fun i e he=> ?_,fun i j e e' b nH hi hm hj gp=> ?_,fun i e b hi hm=> ?_,fun i e l b hi=> ?_,BO h.dN (fun _ _ _ _=>by simp),h.sub,h.xQ,h.frame,h.size,h.qa,h.os,h.tape,h.output⟩,.refl w M,⟨fun i e he=> ?_,fun _ _=>rfl⟩⟩
 ·by_cases aR:i=id
  ·subst aR;rw[ak]at he;cases he;simp[ER]
  ·rw[al _ _ aR]at he;exact h.ix i e he
 ·by_cases aR:i=id
  ·subst aR;rw[ak]at hi;cases hi;simp[aQ.mut]at hm
  ·by_cases hjd:j=id
   ·subst hjd;rw[ak]at hj;cases hj;simp[aQ.mut]at gp
   ·rw[al _ _ aR]at hi;rw[al _ _ hjd]at hj;exact h.uU i j e e' b nH hi hm hj gp
 ·by_cases aR:i=id
  ·subst aR;rw[ak]at hi;cases hi;simp[aQ.mut]at hm
  ·rw[al _ _ aR]at hi;exact h.new i e b hi hm
 ·by_cases aR:i=id
  ·subst aR;rw[ak]at hi;cases hi
  ·rw[al _ _ aR]at hi;exact h.td i e l b hi
 ·by_cases aR:i=id
  ·subst aR;exact⟨.gone,ak _ _ _,by cases e<;>simp[aQ.gQ]⟩
  ·exact⟨e,by rw[al _ _ aR];exact he,.refl e⟩
theorem cell_of{w:World}{b:Nat}{cs:Array Value}{t:TypeId}{fz:Nat×Nat}(h:w.heap[b]? =some (.cells cs t fz))(o:Nat):w.cell? ⟨b,o,none⟩=cs[o]? :=by
 simp[World.cell?,h]
theorem At.of_block{w:World}{b:Nat}{cs:Array Value}{t:TypeId}{fz:Nat×Nat}(h:w.heap[b]? =some (.cells cs t fz))(o n:Nat):
  At w b o ((cs.toList.drop o).take n):=by
 intro j v hj
 rw[cell_of h]
 rw[List.getElem?_take]at hj
 split at hj
 ·rw[List.getElem?_drop]at hj;simpa using hj
 ·cases hj
theorem lt_of_block{w:World}{b:Nat}{o:Obj}(h:w.heap[b]? =some o):b<w.heap.size:=(Array.getElem?_eq_some_iff.1 h).1
theorem ER.br{w w':World}{M M':Nat→Prop}{v:Value}(k:da w M w' M'): ∀{e:aQ},
  (e.mut→ ∀b,eh v=some b→w'.heap[b]? =w.heap[b]? ∧M' b)→ER w M v e→ER w' M' v e
 | .obj τ x,hm,h=>by
  simp only[ER]at h ⊢
  obtain⟨b,cs,t,rfl,hb,hM,hr⟩:=h
  obtain⟨h1,h2⟩:=hm trivial b rfl
  exact⟨b,cs,t,rfl,h1.trans hb,h2,hr.br k⟩
 | .dN τ x p j,hm,h=>by
  simp only[ER]at h ⊢
  obtain⟨b,cs,t,nG,u,rfl,hb,hM,hr,h3⟩:=h
  obtain⟨h1,h2⟩:=hm trivial b rfl
  exact⟨b,cs,t,nG,u,rfl,h1.trans hb,h2,hr.br k,h3⟩
 | .own e l,hm,h=>by
  simp only[ER]at h ⊢
  rcases h with h|⟨b,cs,t,cap,rfl,hb,hM,hc,hl,Ay,hs,hr⟩
  ·exact .inl h
  ·obtain⟨h1,h2⟩:=hm trivial b (by simp[eh];omega)
   exact .inr ⟨b,cs,t,cap,rfl,h1.trans hb,h2,hc,hl,Ay,hs,fun i hi=>(hr i hi).br k⟩
 | .jW e l,_,h=>by
  simp only[ER]at h ⊢
  exact⟨h.1.br k,h.2⟩
 | .gone,_,_=>by simp[ER]
theorem ER.su{w:World}{M:Nat→Prop}{v:Value}{e:aQ}(h:ER w M v e)(hm:e.mut){b:Nat}(hb:eh v=some b):M b:=by
 cases e with
 |obj τ x=>simp only[ER]at h;obtain⟨b',cs,t,hv,dv,hM,_⟩:=h;rw[hv]at hb;simp only[eh,Option.some.injEq]at hb;subst hb;exact hM
 |dN τ x p j=>simp only[ER]at h;obtain⟨b',cs,t,_,_,hv,dv,hM,_⟩:=h;rw[hv]at hb;simp only[eh,Option.some.injEq]at hb;subst hb;exact hM
 |own e1 l1=>
  simp only[ER]at h
  rcases h with⟨_,a,hv⟩|⟨b',cs,t,cap,hv,dv,hM,hc,_⟩
  ·rw[hv]at hb;cases a<;>simp[eh]at hb
  ·rw[hv]at hb;simp only[eh]at hb;split at hb
   ·cases hb
   ·simp only[Option.some.injEq]at hb;subst hb;exact hM
 |jW _ _=>simp[aQ.mut]at hm
 |gone=>simp[aQ.mut]at hm
theorem Tr.freeze{c:Ctx}{H:Nat→Option aQ}{w:World}{M:Nat→Prop}{ν:Nat→Value}(h:Mem c H w M ν){id:Nat}{e:Ty}{l:List e.den}(aR:H id=some (.own e l)):
  ∃M',Tr c H w M ν (bn H id (some (.jW e l))) w M' ν∧V w M' (.slice e) (ν id) l∧ ∀b,M' b↔(M b∧eh (ν id)≠some b):=by
 have hk:da w M w (fun b=>M b∧eh (ν id)≠some b):=⟨Nat.le_refl _,fun _ _ _=>rfl,fun _ _ h=>h.1⟩
 have he:=h.ix id _ aR
 have gG:Rd w (fun b=>M b∧eh (ν id)≠some b) (.slice e) [ν id] l:=by
  simp only[ER]at he
  simp only[Rd]
  rcases he with⟨rfl,a,hv⟩|⟨b,cs,t,cap,hv,hb,hM,hc,hl,Ay,hs,hr⟩
  ·exact⟨a,0,by rw[hv];rfl,Nat.le_refl _,fun i hi=>absurd hi (by simp)⟩
  ·refine⟨_,cap,by rw[hv],hl,fun i hi=>⟨b,0,rfl,lt_of_block hb,fun hm=>hm.2 (by rw[hv];simp[eh];omega),_,?_,(hr i hi).br hk⟩⟩
   rw[Nat.zero_add]
   exact At.of_block hb _ _
 refine⟨fun b=>M b∧eh (ν id)≠some b,⟨⟨fun i e' hi=> ?_,fun i j e1 e2 b nH hi hm hj gp=> ?_,fun i e1 b hi hm=> ?_,fun i e1 l1 b hi=> ?_,BO h.dN (fun _ _ _ _=>by simp),fun b hb=>⟨h.sub b hb,fun hm=>h.td id e l b aR hm hb⟩,fun b hb=>h.xQ b hb.1,h.frame,h.size,h.qa,h.os,h.tape,h.output⟩,hk,⟨fun i e' hi=> ?_,fun _ _=>rfl⟩⟩,?_,fun _=>Iff.rfl⟩
 ·by_cases bq:i=id
  ·subst bq;rw[ak]at hi;cases hi
   simp only[ER]
   refine⟨gG,?_⟩
   simp only[ER]at he
   rcases he with⟨rfl,a,hv⟩|⟨b,cs,t,cap,hv,_⟩
   ·exact .inl ⟨rfl,a,0,0,hv⟩
   ·exact .inr ⟨b,_,cap,hv⟩
  ·rw[al _ _ bq]at hi
   refine(h.ix i e' hi).br hk (fun hm b hb=>⟨rfl,?_,?_⟩)
   ·exact(h.ix i e' hi).su hm hb
   ·exact h.uU i id e' (.own e l) b bq hi hm aR trivial hb
 ·by_cases bq:i=id
  ·subst bq;rw[ak]at hi;cases hi;simp[aQ.mut]at hm
  ·by_cases zM:j=id
   ·subst zM;rw[ak]at hj;cases hj;simp[aQ.mut]at gp
   ·rw[al _ _ bq]at hi;rw[al _ _ zM]at hj;exact h.uU i j e1 e2 b nH hi hm hj gp
 ·by_cases bq:i=id
  ·subst bq;rw[ak]at hi;cases hi;simp[aQ.mut]at hm
  ·rw[al _ _ bq]at hi;exact h.new i e1 b hi hm
 ·by_cases bq:i=id
  ·subst bq;rw[ak]at hi;cases hi
  ·rw[al _ _ bq]at hi;exact h.td i e1 l1 b hi
 ·by_cases bq:i=id
  ·subst bq;rw[aR]at hi;cases hi;exact⟨_,ak _ _ _,rfl,rfl⟩
  ·exact⟨e',by rw[al _ _ bq];exact hi,.refl e'⟩
 ·unfold V;rw[if_neg (by simp[Ty.isAgg])];exact gG
theorem Tr.fix{c:Ctx}{H:Nat→Option aQ}{w:World}{M:Nat→Prop}{ν:Nat→Value}(h:Mem c H w M ν){id:Nat}{τ:Ty}{x:τ.den}(aR:H id=some (.obj τ x)):
  ∃M' b,Tr c H w M ν (bn H id (some .gone)) w M' ν∧ν id= .pointer (some ⟨b,0,none⟩)∧b<w.heap.size∧ ¬M' b∧ ∃cs,At w b 0 cs∧Rd w M' τ cs x:=by
 have he:=h.ix id _ aR
 simp only[ER]at he
 obtain⟨b0,cs,t,hv,hb,hM,hr⟩:=he
 have tf:eh (ν id)=some b0:=by rw[hv];rfl
 have hk:da w M w (fun b=>M b∧b≠b0):=⟨Nat.le_refl _,fun _ _ _=>rfl,fun _ _ h=>h.1⟩
 have Dw: ¬c.M0 b0:=fun hm=>(h.new id _ b0 aR trivial tf).elim (fun hB=>by have:=h.qa.1 b0 hm;omega) (fun hB=>h.qa.2 b0 hB hm)
 refine⟨fun b=>M b∧b≠b0,b0,⟨⟨fun i e' hi=> ?_,fun i j e1 e2 b nH hi hm hj gp=> ?_,fun i e1 b hi hm=> ?_,fun i e1 l1 b hi=> ?_,BO h.dN (fun _ _ _ _=>by simp),fun b dv=>⟨h.sub b dv,fun e=>Dw (e▸dv)⟩,fun b dv=>h.xQ b dv.1,h.frame,h.size,h.qa,h.os,h.tape,h.output⟩,hk,⟨fun i e' hi=> ?_,fun _ _=>rfl⟩⟩,hv,lt_of_block hb,fun hm=>hm.2 rfl,cs.toList,?_,hr.br hk⟩
 ·by_cases bq:i=id
  ·subst bq;rw[ak]at hi;cases hi;simp[ER]
  ·rw[al _ _ bq]at hi
   refine(h.ix i e' hi).br hk (fun hm b dv=>⟨rfl,?_,?_⟩)
   ·exact(h.ix i e' hi).su hm dv
   ·intro e
    exact h.uU i id e' (.obj τ x) b bq hi hm aR trivial dv (by rw[tf,e])
 ·by_cases bq:i=id
  ·subst bq;rw[ak]at hi;cases hi;simp[aQ.mut]at hm
  ·by_cases zM:j=id
   ·subst zM;rw[ak]at hj;cases hj;simp[aQ.mut]at gp
   ·rw[al _ _ bq]at hi;rw[al _ _ zM]at hj;exact h.uU i j e1 e2 b nH hi hm hj gp
 ·by_cases bq:i=id
  ·subst bq;rw[ak]at hi;cases hi;simp[aQ.mut]at hm
  ·rw[al _ _ bq]at hi;exact h.new i e1 b hi hm
 ·by_cases bq:i=id
  ·subst bq;rw[ak]at hi;cases hi
  ·rw[al _ _ bq]at hi;exact h.td i e1 l1 b hi
 ·by_cases bq:i=id
  ·subst bq;rw[aR]at hi;cases hi;exact⟨_,ak _ _ _,trivial⟩
  ·exact⟨e',by rw[al _ _ bq];exact hi,.refl e'⟩
 ·have:=At.of_block hb 0 cs.toList.length
  rwa [List.drop_zero,List.take_length]at this
end VM
end
section
namespace VM
open Go
theorem xR(w:World)(o:Obj):(w.alloc o).heap[w.heap.size]? =some o:=by
 show(w.heap.push o)[w.heap.size]? =some o
 simp
theorem ma(w:World)(o:Obj){i:Nat}(h:i<w.heap.size):(w.alloc o).heap[i]? =w.heap[i]? :=by
 show(w.heap.push o)[i]? =w.heap[i]?
 rw[Array.getElem?_push,if_neg (Nat.ne_of_lt h)]
theorem size_alloc(w:World)(o:Obj):(w.alloc o).heap.size=w.heap.size+1:=by
 show(w.heap.push o).size=_
 simp
def ch(ν:Nat→Value)(d:Nat)(v:Value):Nat→Value:=fun i=>if i=d then v else ν i
theorem my{c:Ctx}{H:Nat→Option aQ}{w w':World}{M:Nat→Prop}{ν ν':Nat→Value}(h:Mem c H w M ν){H':Nat→Option aQ}
  (hν: ∀i,H i≠none→ν' i=ν i) (hn: ∀i,H i≠none→H' i≠none)
  (hi: ∀i τ x p j,H' i=some (.dN τ x p j)→(H i=some (.dN τ x p j)∧ ∀b,ν i= .pointer (some ⟨b,0,none⟩)→w'.heap[b]? =w.heap[b]?)∨(H' j≠none∧ ∃b,ν' i= .pointer (some ⟨b,0,none⟩)∧w'.cell? ⟨b,bB p τ,none⟩=some (ν' j))):
  ∀i τ x p j,H' i=some (.dN τ x p j)→H' j≠none∧ ∃b,ν' i= .pointer (some ⟨b,0,none⟩)∧w'.cell? ⟨b,bB p τ,none⟩=some (ν' j):=by
 intro i τ x p j he
 rcases hi i τ x p j he with⟨h1,hb⟩|h1
 ·obtain⟨h2,b,h3,h4⟩:=h.dN i τ x p j h1
  refine⟨hn j h2,b,by rw[hν i (by rw[h1];simp)];exact h3,?_⟩
  rw[hν j h2,World.cell?_of_block (w:=w) (hb b h3)]
  exact h4
 ·exact h1
theorem q9{H:Nat→Option aQ}{id:Nat}{v:aQ}: ∀i,H i≠none→bn H id (some v) i≠none:=fun _ h=>q8 h
theorem tw{H:Nat→Option aQ}{id:Nat}{v:aQ}(hv: ∀τ x p j,v≠ .dN τ x p j){i:Nat}{τ:Ty}{x:τ.den}{p:List Step}{j:Nat}(h:bn H id (some v) i=some (.dN τ x p j)):H i=some (.dN τ x p j):=by
 by_cases bq:i=id
 ·subst bq;rw[ak]at h;cases h;exact absurd rfl (hv _ _ _ _)
 ·rw[al _ _ bq]at h;exact h
theorem Tr.alloc{c:Ctx}{H:Nat→Option aQ}{w:World}{M:Nat→Prop}{ν:Nat→Value}(h:Mem c H w M ν){id:Nat}(aR:H id=none)(o:Obj)(v:Value)(e:aQ)(hm:e.mut)(Az: ∀τ x p j,e≠ .dN τ x p j)
  (hb:eh v=none∨eh v=some w.heap.size) (Kb:ER (w.alloc o) (fun b=>M b∨b=w.heap.size) v e):
  Tr c H w M ν (bn H id (some e)) (w.alloc o) (fun b=>M b∨b=w.heap.size) (ch ν id v):=by
 have hk:da w M (w.alloc o) (fun b=>M b∨b=w.heap.size):=
  ⟨by rw[size_alloc];omega,fun b hb _=>ma w o hb,fun b hb h'=>h'.resolve_right (by omega)⟩
 have hν: ∀i,i≠id→ch ν id v i=ν i:=fun i hi=>by simp[ch,hi]
 have wO:ch ν id v id=v:=by simp[ch]
 have dE: ∀i e' b,H i=some e'→e'.mut→eh (ν i)=some b→b<w.heap.size:=fun i e' b hi gp dv=>h.xQ b ((h.ix i e' hi).su gp dv)
 refine⟨⟨fun i e' hi=> ?_,fun i j e1 e2 b nH hi oB hj tx=> ?_,fun i e1 b hi oB=> ?_,fun i e1 l1 b hi=> ?_,my h (fun i hi=>hν i (fun e=>hi (e▸aR))) q9 (fun i τ x p j hi=> .inl ⟨tw Az hi,fun b hb=>ma w o (dE i _ b (tw Az hi) trivial (by rw[hb];rfl))⟩),fun b hb=> .inl (h.sub b hb),fun b dv=> ?_,fun b jw sv=> ?_,?_,h.qa,h.os,h.tape,h.output⟩,hk,⟨fun i e' hi=> ?_,fun i hi=> ?_⟩⟩
 ·by_cases bq:i=id
  ·subst bq;rw[ak]at hi;cases hi;rw[wO];exact Kb
  ·rw[al _ _ bq]at hi;rw[hν i bq]
   exact(h.ix i e' hi).br hk fun gp b dv=>⟨ma w o (dE i e' b hi gp dv),.inl ((h.ix i e' hi).su gp dv)⟩
 ·by_cases bq:i=id
  ·subst bq;rw[ak]at hi;cases hi;rw[wO]
   intro jw
   have zM:j≠i:=Ne.symm nH
   rw[al _ _ zM]at hj;rw[hν j zM]
   intro sv
   have:=dE j e2 b hj tx sv
   rcases hb with hb|hb<;>rw[hb]at jw<;>simp at jw
   omega
  ·rw[al _ _ bq]at hi;rw[hν i bq]
   by_cases zM:j=id
   ·subst zM;rw[wO]
    intro jw sv
    have:=dE i e1 b hi oB jw
    rcases hb with hb|hb<;>rw[hb]at sv<;>simp at sv
    omega
   ·rw[al _ _ zM]at hj;rw[hν j zM];exact h.uU i j e1 e2 b nH hi oB hj tx
 ·by_cases bq:i=id
  ·subst bq;rw[wO]
   intro jw
   rcases hb with hb|hb<;>rw[hb]at jw<;>simp at jw
   subst jw;exact .inl h.size
  ·rw[al _ _ bq]at hi;rw[hν i bq];exact h.new i e1 b hi oB
 ·by_cases bq:i=id
  ·subst bq;rw[wO]
   intro jw h0
   rcases hb with hb|hb<;>rw[hb]at jw<;>simp at jw
   have:=h.qa.1 b h0
   have:=h.size
   omega
  ·rw[al _ _ bq]at hi;rw[hν i bq];exact h.td i e1 l1 b hi
 ·rw[size_alloc]
  rcases dv with dv|dv
  ·have:=h.xQ b dv;omega
  ·omega
 ·rw[ma w o (Nat.lt_of_lt_of_le jw h.size)];exact h.frame b jw sv
 ·rw[size_alloc];have:=h.size;omega
 ·by_cases bq:i=id
  ·subst bq;rw[aR]at hi;cases hi
  ·exact⟨e',by rw[al _ _ bq];exact hi,.refl e'⟩
 ·have bq:i≠id:=fun e=>hi (e▸aR)
  exact hν i bq
theorem Tr.var{c:Ctx}{H:Nat→Option aQ}{w:World}{M:Nat→Prop}{ν:Nat→Value}(h:Mem c H w M ν){id:Nat}(aR:H id=none)(t:TypeId){τ:Ty}{cs:Array Value}{x:τ.den}(hr:Rd w M τ cs.toList x):
  Tr c H w M ν (bn H id (some (.obj τ x))) (w.alloc (.cells cs t)) (fun b=>M b∨b=w.heap.size) (ch ν id (.pointer (some ⟨w.heap.size,0,none⟩))):=by
 refine Tr.alloc h aR _ _ _ trivial (fun _ _ _ _=>by simp) (.inr rfl) ?_
 simp only[ER]
 have hk:da w M (w.alloc (.cells cs t)) (fun b=>M b∨b=w.heap.size):=
  ⟨by rw[size_alloc];omega,fun b hb _=>ma w _ hb,fun b hb h'=>h'.resolve_right (by omega)⟩
 exact⟨w.heap.size,cs,t,rfl,xR w _,.inr rfl,hr.br hk⟩
theorem Tr.row{c:Ctx}{H:Nat→Option aQ}{w:World}{M:Nat→Prop}{ν:Nat→Value}(h:Mem c H w M ν){id:Nat}(aR:H id=none)(t:TypeId){e:Ty}{cs:Array Value}{l:List e.den}{cap:Nat}
  (hl:l.length≤cap) (hm:cap≤maxLen) (hs:cs.size=cap*e.size) (hr: ∀i (hi:i<l.length),Rd w M e ((cs.toList.drop (i*e.size)).take e.size) l[i]):
  Tr c H w M ν (bn H id (some (.own e l))) (w.alloc (.cells cs t)) (fun b=>M b∨b=w.heap.size) (ch ν id (.slice (some ⟨w.heap.size,0,none⟩) l.length cap)):=by
 have hk:da w M (w.alloc (.cells cs t)) (fun b=>M b∨b=w.heap.size):=
  ⟨by rw[size_alloc];omega,fun b hb _=>ma w _ hb,fun b hb h'=>h'.resolve_right (by omega)⟩
 refine Tr.alloc h aR _ _ _ trivial (fun _ _ _ _=>by simp) ?_ ?_
 ·simp only[eh];split
  ·exact .inl rfl
  ·exact .inr rfl
 ·simp only[ER]
  by_cases hc:cap=0
  ·subst hc
   have hl0:l=[]:=List.eq_nil_of_length_eq_zero (by omega)
   subst hl0
   exact .inl ⟨rfl,_,rfl⟩
  ·exact .inr ⟨w.heap.size,cs,t,cap,rfl,xR w _,.inr rfl,by omega,hl,hm,hs,fun i hi=>(hr i hi).br hk⟩
theorem Tr.drew{c:Ctx}{H:Nat→Option aQ}{w:World}{M:Nat→Prop}{ν:Nat→Value}(h:Mem c H w M ν):Tr c H w M ν H w.drew M ν:=by
 have hk:da w M w.drew M:=⟨Nat.le_refl _,fun _ _ _=>rfl,fun _ _ h=>h⟩
 exact⟨⟨fun i e he=>(h.ix i e he).br hk fun hm b hb=>⟨rfl,(h.ix i e he).su hm hb⟩,h.uU,h.new,h.td,h.dN,h.sub,h.xQ,h.frame,h.size,h.qa,h.os,h.tape,h.output⟩,hk,.refl H ν⟩
theorem size_setRow(w:World)(g:Nat)(cs:Array Value):(w.setRow g cs).heap.size=w.heap.size:=by simp[World.setRow]
theorem Tr.write{c:Ctx}{H:Nat→Option aQ}{w:World}{M:Nat→Prop}{ν:Nat→Value}(h:Mem c H w M ν){id:Nat}{e e':aQ}(aR:H id=some e)(hm:e.mut)(gp:e'.mut)(hl:e.gQ e')
  {b:Nat} (hb:eh (ν id)=some b) {cs new:Array Value} {t:TypeId} (hg:w.heap[b]? =some (.cells cs t (0,0)))
  (Kb: ∀M',da w M (w.setRow b new) M'→M' b→ER (w.setRow b new) M' (ν id) e')
  (oC: ∀τ x p j,e'= .dN τ x p j→H j≠none∧ ∃b',ν id= .pointer (some ⟨b',0,none⟩)∧(w.setRow b new).cell? ⟨b',bB p τ,none⟩=some (ν j):=by intro _ _ _ _ h;cases h):
  Tr c H w M ν (bn H id (some e')) (w.setRow b new) M ν:=by
 have Xr:M b:=(h.ix id e aR).su hm hb
 have hk:da w M (w.setRow b new) M:=
  ⟨by rw[size_setRow];exact Nat.le_refl _,fun b' _ hm=>setRow_other w b b' new (fun e=>hm (e▸Xr)),fun _ _ h=>h⟩
 refine⟨⟨fun i e1 hi=> ?_,fun i j e1 e2 b1 nH hi oB hj tx=> ?_,fun i e1 b1 hi oB=> ?_,fun i e1 l1 b1 hi=> ?_,my h (fun _ _=>rfl) q9 (fun i τ x p j hi=> ?_),h.sub,fun b1 jw=>by rw[size_setRow];exact h.xQ b1 jw,fun b1 jw sv=> ?_,by rw[size_setRow];exact h.size,h.qa,h.os,h.tape,h.output⟩,hk,⟨fun i e1 hi=> ?_,fun i hi=>rfl⟩⟩
 ·by_cases bq:i=id
  ·subst bq;rw[ak]at hi;cases hi;exact Kb M hk Xr
  ·rw[al _ _ bq]at hi
   exact(h.ix i e1 hi).br hk fun oB b1 jw=>⟨setRow_other w b b1 new (fun e'=>h.uU i id e1 e b1 bq hi oB aR hm jw (e'▸hb)),(h.ix i e1 hi).su oB jw⟩
 ·by_cases bq:i=id
  ·subst bq;rw[ak]at hi;cases hi
   have zM:j≠i:=Ne.symm nH
   rw[al _ _ zM]at hj
   exact h.uU i j e e2 b1 nH aR hm hj tx
  ·rw[al _ _ bq]at hi
   by_cases zM:j=id
   ·subst zM;exact h.uU i j e1 e b1 nH hi oB aR hm
   ·rw[al _ _ zM]at hj;exact h.uU i j e1 e2 b1 nH hi oB hj tx
 ·by_cases bq:i=id
  ·subst bq;exact h.new i e b1 aR hm
  ·rw[al _ _ bq]at hi;exact h.new i e1 b1 hi oB
 ·by_cases bq:i=id
  ·subst bq;rw[ak]at hi;cases hi
   cases e with
   |own e0 l0=>exact h.td i e0 l0 b1 aR
   |obj _ _=>simp[aQ.gQ]at hl
   |dN _ _ _ _=>simp[aQ.gQ]at hl
   |jW _ _=>simp[aQ.mut]at hm
   |gone=>simp[aQ.mut]at hm
  ·rw[al _ _ bq]at hi;exact h.td i e1 l1 b1 hi
 ·by_cases bq:i=id
  ·subst bq;rw[ak]at hi;cases hi
   obtain⟨h1,h2⟩:=oC _ _ _ _ rfl
   exact .inr ⟨q8 h1,h2⟩
  ·rw[al _ _ bq]at hi
   exact .inl ⟨hi,fun b1 jw=>setRow_other w b b1 new (fun e1=>h.uU i id _ e b1 bq hi trivial aR hm (by rw[jw];rfl) (e1▸hb))⟩
 ·rw[setRow_other w b b1 new]
  ·exact h.frame b1 jw sv
  ·intro hbb;subst hbb
   rcases h.new id e b1 aR hm hb with h'|h'
   ·omega
   ·exact sv h'
 ·by_cases bq:i=id
  ·subst bq;rw[aR]at hi;cases hi;exact⟨e',ak _ _ _,hl⟩
  ·exact⟨e1,by rw[al _ _ bq];exact hi,.refl e1⟩
theorem Tr.rename{c:Ctx}{H:Nat→Option aQ}{w:World}{M:Nat→Prop}{ν:Nat→Value}(h:Mem c H w M ν){j id:Nat}{e e':Ty}{l:List e.den}{l':List e'.den}(hj:H j=some (.own e l))(aR:H id=none)
  {v:Value} (hb:eh v=none∨eh v=eh (ν j)) (Kb:ER w M v (.own e' l')):
  Tr c H w M ν (bn (bn H j (some .gone)) id (some (.own e' l'))) w M (ch ν id v):=by
 have gH:j≠id:=fun e=>by rw[e,aR]at hj;cases hj
 have h1:=(Tr.gone h j).mem
 have kY:bn H j (some .gone) id=none:=by rw[al _ _ (Ne.symm gH)];exact aR
 have hν: ∀i,i≠id→ch ν id v i=ν i:=fun i hi=>by simp[ch,hi]
 have wO:ch ν id v id=v:=by simp[ch]
 refine⟨⟨fun i e1 hi=> ?_,fun i k e1 e2 b1 nH hi oB hk tx=> ?_,fun i e1 b1 hi oB=> ?_,fun i e1 l1 b1 hi=> ?_,my h1 (fun i hi=>hν i (fun e=>hi (e▸kY))) q9 (fun i τ x p j hi=> .inl ⟨tw (fun _ _ _ _=>by simp) hi,fun _ _=>rfl⟩),h.sub,h.xQ,h.frame,h.size,h.qa,h.os,h.tape,h.output⟩,.refl w M,⟨fun i e1 hi=> ?_,fun i hi=> ?_⟩⟩
 ·by_cases bq:i=id
  ·subst bq;rw[ak]at hi;cases hi;rw[wO];exact Kb
  ·rw[al _ _ bq]at hi;rw[hν i bq];exact h1.ix i e1 hi
 ·by_cases bq:i=id
  ·subst bq;rw[ak]at hi;cases hi;rw[wO]
   have Dx:k≠i:=Ne.symm nH
   rw[al _ _ Dx]at hk;rw[hν k Dx]
   intro jw
   rcases hb with hb|hb
   ·rw[hb]at jw;cases jw
   ·rw[hb]at jw
    by_cases hkj:k=j
    ·subst hkj;rw[ak]at hk;cases hk;simp[aQ.mut]at tx
    ·rw[al _ _ hkj]at hk;exact h.uU j k _ e2 b1 (Ne.symm hkj) hj trivial hk tx jw
  ·rw[al _ _ bq]at hi;rw[hν i bq]
   by_cases Dx:k=id
   ·subst Dx;rw[wO]
    intro jw sv
    rcases hb with hb|hb
    ·rw[hb]at sv;cases sv
    ·rw[hb]at sv
     by_cases zU:i=j
     ·subst zU;rw[ak]at hi;cases hi;simp[aQ.mut]at oB
     ·rw[al _ _ zU]at hi;exact h.uU j i _ e1 b1 (Ne.symm zU) hj trivial hi oB sv jw
   ·rw[al _ _ Dx]at hk;rw[hν k Dx];exact h1.uU i k e1 e2 b1 nH hi oB hk tx
 ·by_cases bq:i=id
  ·subst bq;rw[wO];intro jw
   rcases hb with hb|hb
   ·rw[hb]at jw;cases jw
   ·rw[hb]at jw;exact h.new j _ b1 hj trivial jw
  ·rw[al _ _ bq]at hi;rw[hν i bq];exact h1.new i e1 b1 hi oB
 ·by_cases bq:i=id
  ·subst bq;rw[wO];intro jw
   rcases hb with hb|hb
   ·rw[hb]at jw;cases jw
   ·rw[hb]at jw;exact h.td j e l b1 hj jw
  ·rw[al _ _ bq]at hi;rw[hν i bq];exact h1.td i e1 l1 b1 hi
 ·by_cases zU:i=j
  ·subst zU;exact⟨.gone,by rw[al _ _ gH,ak],by cases e1<;>simp[aQ.gQ]⟩
  ·have bq:i≠id:=fun e=>by rw[e,aR]at hi;cases hi
   exact⟨e1,by rw[al _ _ bq,al _ _ zU];exact hi,.refl e1⟩
 ·exact hν i (fun e=>hi (e▸aR))
theorem Tr.Kc{c:Ctx}{H:Nat→Option aQ}{w:World}{M:Nat→Prop}{ν:Nat→Value}(h:Mem c H w M ν){id:Nat}{e e':aQ}(aR:H id=some e)(hm:e.mut)(gp:e'.mut)(hl:e.gQ e')(qf: ∀e0 l0,e'≠ .own e0 l0)
  (Kb:ER w M (ν id) e') (oC: ∀τ x p j,e'= .dN τ x p j→H j≠none∧ ∃b',ν id= .pointer (some ⟨b',0,none⟩)∧w.cell? ⟨b',bB p τ,none⟩=some (ν j)):
  Tr c H w M ν (bn H id (some e')) w M ν:=by
 refine⟨⟨fun i e1 hi=> ?_,fun i j e1 e2 b1 nH hi oB hj tx=> ?_,fun i e1 b1 hi oB=> ?_,fun i e1 l1 b1 hi=> ?_,my h (fun _ _=>rfl) q9 (fun i τ x p j hi=> ?_),h.sub,h.xQ,h.frame,h.size,h.qa,h.os,h.tape,h.output⟩,.refl w M,⟨fun i e1 hi=> ?_,fun i hi=>rfl⟩⟩
 ·by_cases bq:i=id
  ·subst bq;rw[ak]at hi;cases hi;exact Kb
  ·rw[al _ _ bq]at hi;exact h.ix i e1 hi
 ·by_cases bq:i=id
  ·subst bq;rw[ak]at hi;cases hi
   have zM:j≠i:=Ne.symm nH
   rw[al _ _ zM]at hj
   exact h.uU i j e e2 b1 nH aR hm hj tx
  ·rw[al _ _ bq]at hi
   by_cases zM:j=id
   ·subst zM;exact h.uU i j e1 e b1 nH hi oB aR hm
   ·rw[al _ _ zM]at hj;exact h.uU i j e1 e2 b1 nH hi oB hj tx
 ·by_cases bq:i=id
  ·subst bq;exact h.new i e b1 aR hm
  ·rw[al _ _ bq]at hi;exact h.new i e1 b1 hi oB
 ·by_cases bq:i=id
  ·subst bq;rw[ak]at hi;cases hi;exact absurd rfl (qf _ _)
  ·rw[al _ _ bq]at hi;exact h.td i e1 l1 b1 hi
 ·by_cases bq:i=id
  ·subst bq;rw[ak]at hi;cases hi
   obtain⟨h1,h2⟩:=oC _ _ _ _ rfl
   exact .inr ⟨q8 h1,h2⟩
  ·rw[al _ _ bq]at hi;exact .inl ⟨hi,fun _ _=>rfl⟩
 ·by_cases bq:i=id
  ·subst bq;rw[aR]at hi;cases hi;exact⟨e',ak _ _ _,hl⟩
  ·exact⟨e1,by rw[al _ _ bq];exact hi,.refl e1⟩
theorem Tr.nothing{c:Ctx}{w:World}{M:Nat→Prop}{ν:Nat→Value}{H:Nat→Option aQ}(h:Mem c H w M ν){id:Nat}(aR:H id=none)(e:Ty)(ad:Option Addr):
  Tr c H w M ν (bn H id (some (.own e []))) w M (ch ν id (.slice ad 0 0)):=by
 have hν: ∀i,i≠id→ch ν id (.slice ad 0 0) i=ν i:=fun i hi=>by simp[ch,hi]
 have wO:ch ν id (.slice ad 0 0) id= .slice ad 0 0:=by simp[ch]
 have hb:eh (.slice ad 0 0)=none:=by cases ad<;>simp[eh]
 refine⟨⟨fun i e1 hi=> ?_,fun i k e1 e2 b1 nH hi oB hk tx=> ?_,fun i e1 b1 hi oB=> ?_,fun i e1 l1 b1 hi=> ?_,my h (fun i hi=>hν i (fun e=>hi (e▸aR))) q9 (fun i τ x p j hi=> .inl ⟨tw (fun _ _ _ _=>by simp) hi,fun _ _=>rfl⟩),h.sub,h.xQ,h.frame,h.size,h.qa,h.os,h.tape,h.output⟩,.refl w M,⟨fun i e1 hi=> ?_,fun i hi=>hν i (fun e=>hi (e▸aR))⟩⟩
 ·by_cases bq:i=id
  ·subst bq;rw[ak]at hi;cases hi;rw[wO];simp only[ER];exact .inl ⟨trivial,ad,rfl⟩
  ·rw[al _ _ bq]at hi;rw[hν i bq];exact h.ix i e1 hi
 ·by_cases bq:i=id
  ·subst bq;rw[wO,hb];intro h';cases h'
  ·rw[al _ _ bq]at hi;rw[hν i bq]
   by_cases Dx:k=id
   ·subst Dx;rw[wO,hb];intro _ h';cases h'
   ·rw[al _ _ Dx]at hk;rw[hν k Dx];exact h.uU i k e1 e2 b1 nH hi oB hk tx
 ·by_cases bq:i=id
  ·subst bq;rw[wO,hb];intro h';cases h'
  ·rw[al _ _ bq]at hi;rw[hν i bq];exact h.new i e1 b1 hi oB
 ·by_cases bq:i=id
  ·subst bq;rw[wO,hb];intro h';cases h'
  ·rw[al _ _ bq]at hi;rw[hν i bq];exact h.td i e1 l1 b1 hi
 ·have bq:i≠id:=fun e=>by rw[e,aR]at hi;cases hi
  exact⟨e1,by rw[al _ _ bq];exact hi,.refl e1⟩
end VM
end
section
namespace VM
open Go
theorem a7{α:Type}{υ τ:Ty}{y:υ.den}{k:τ.den→Option α}{r:α}(h:bX υ τ y k=some r): ∃e:υ=τ,k (e▸y)=some r:=by
 unfold bX at h
 split at h
 ·rename_i e;exact⟨e,h⟩
 ·cases h
theorem dF{α:Type}{υ τ:Ty}{k:Option α}{r:α}(h:iT υ τ k=some r):υ=τ∧k=some r:=by
 unfold iT at h
 split at h
 ·rename_i e;exact⟨e,h⟩
 ·cases h
theorem V.slice{w:World}{M:Nat→Prop}{e:Ty}{v:Value}{l:List e.den}:V w M (.slice e) v l↔Rd w M (.slice e) [v] l:=by
 unfold V;rw[if_neg (by simp[Ty.isAgg])]
def Fz(H H1:Nat→Option aQ):Prop:= ∀i,H1 i=H i∨ ∃e l,H i=some (.own e l)∧H1 i=some (.jW e l)
theorem Fz.refl(H:Nat→Option aQ):Fz H H:=fun _=> .inl rfl
theorem Fz.none{H H1:Nat→Option aQ}(h:Fz H H1){i:Nat}(hi:H i=none):H1 i=none:=by
 rcases h i with h'|⟨e,l,h',_⟩
 ·rw[h',hi]
 ·rw[hi]at h';cases h'
theorem Fz.obj{H H1:Nat→Option aQ}(h:Fz H H1){i:Nat}{τ:Ty}{x:τ.den}(hi:H i=some (.obj τ x)):H1 i=some (.obj τ x):=by
 rcases h i with h'|⟨e,l,h',_⟩
 ·rw[h',hi]
 ·rw[hi]at h';cases h'
theorem u2{H:Nat→Option aQ}{id:Nat}{e:Option aQ}(h:H id=e):bn H id e=H:=by
 funext i
 by_cases hi:i=id
 ·subst hi;rw[ak,h]
 ·rw[al _ _ hi]
theorem jD{α:Type}{c:Ctx}{H H1:Nat→Option aQ}{w:World}{M:Nat→Prop}{ν:Nat→Value}(hz:Fz H H1)(hm:Mem c H1 w M ν){a:aX}{v:Value}(hv:VR w M H1 ν a v){τ:Ty}
  {k:τ.den→List Nat→fg→Option α} {r:α} (h:hQ true a H τ k=some r):
  ∃y rd ups M',k y rd ups=some r∧Tr c H1 w M ν (bS H1 ups) w M' ν∧V w M' τ v y∧Fz H (bS H1 ups)∧ ∀i,rd.contains i=false→bS H1 ups i=H1 i:=by
 unfold hQ at h
 split at h
 ·
  obtain⟨e,h⟩:=a7 h
  subst e
  simp only[VR]at hv
  exact⟨_,[],[],M,h,.refl hm,hv,hz,fun _ _=>rfl⟩
 ·
  obtain⟨e,h⟩:=a7 h
  subst e
  simp only[VR]at hv
  exact⟨_,[],[],M,h,.refl hm,hv.1,hz,fun _ _=>rfl⟩
 ·
  split at h
  ·rename_i e k' _
   simp only[VR]at hv
   obtain⟨a,rfl⟩:=hv
   refine⟨[],[],[],M,h,.refl hm,V.slice.2 ?_,hz,fun _ _=>rfl⟩
   simp only[Rd]
   exact⟨a,0,rfl,Nat.le_refl _,fun i hi=>absurd hi (by simp)⟩
  ·cases h
 ·rename_i id
  simp only[VR]at hv
  obtain⟨_,rfl⟩:=hv
  split at h
  ·rename_i e l aR
   obtain⟨e',h⟩:=a7 h
   subst e'
   rcases hz id with h1|⟨e1,l1,h1,h2⟩
   ·rw[aR]at h1
    obtain⟨M',eH,hV,_⟩:=Tr.freeze hm h1
    refine⟨_,_,_,M',h,eH,hV,fun i=> ?_,fun i hi=>al _ _ (by simpa using hi)⟩
    show bn H1 id (some (.jW e l)) i=H i∨_
    by_cases hi:i=id
    ·subst hi;exact .inr ⟨e,l,aR,ak _ _ _⟩
    ·rw[al _ _ hi]
     rcases hz i with h'|⟨e2,l2,h2,h3⟩
     ·exact .inl h'
     ·exact .inr ⟨e2,l2,h2,by show bn H1 id _ i=_;rw[al _ _ hi];exact h3⟩
   ·rw[aR]at h1;cases h1
    have:=hm.ix id _ h2
    simp only[ER]at this
    refine⟨_,_,[(id,some (.jW e l))],M,h,?_,V.slice.2 this.1,?_,fun i hi=>al _ _ (by simpa using hi)⟩
    ·show Tr c H1 w M ν (bn H1 id (some (.jW e l))) w M ν
     rw[u2 h2];exact .refl hm
    ·show Fz H (bn H1 id (some (.jW e l)))
     rw[u2 h2];exact hz
  ·rename_i e l aR
   obtain⟨e',h⟩:=a7 h
   subst e'
   have h1:H1 id=some (.jW e l):=by
    rcases hz id with h1|⟨e1,l1,h1,h2⟩
    ·rw[h1,aR]
    ·rw[aR]at h1;cases h1
   have:=hm.ix id _ h1
   simp only[ER]at this
   exact⟨_,_,_,M,h,.refl hm,V.slice.2 this.1,hz,fun _ _=>rfl⟩
  ·cases h
 ·cases h
def Src(w:World)(M:Nat→Prop)(e:Ty)(v:Value)(l:List e.den):Prop:=
 ∃a cap,v= .slice a l.length cap∧ ∀i (h:i<l.length),∃b off cs,a=some ⟨b,off,none⟩∧At w b (off+i*e.size) cs∧Rd w M e cs l[i]
theorem Src.P8{w:World}{M:Nat→Prop}{e:Ty}{v:Value}{l:List e.den}(h:V w M (.slice e) v l):Src w M e v l:=by
 have h:=V.slice.1 h
 simp only[Rd,List.cons.injEq,and_true]at h
 obtain⟨a,cap,rfl,_,hr⟩:=h
 refine⟨a,cap,rfl,fun i hi=> ?_⟩
 obtain⟨b,off,ha,_,_,cs,lH,gG⟩:=hr i hi
 exact⟨b,off,cs,ha,lH,gG⟩
theorem vL{α:Type}{c:Ctx}{H:Nat→Option aQ}{w:World}{M:Nat→Prop}{ν:Nat→Value}(hm:Mem c H w M ν){a:aX}{v:Value}(hv:VR w M H ν a v){e:Ty}
  {k:List e.den→List Nat→fg→Option α} {r:α} (h:hQ false a H (.slice e) k=some r):
  ∃y rd,k y rd []=some r∧Src w M e v y:=by
 unfold hQ at h
 split at h
 ·obtain⟨e',h⟩:=a7 h
  subst e'
  simp only[VR]at hv
  exact⟨_,[],h,.P8 hv⟩
 ·obtain⟨e',h⟩:=a7 h
  subst e'
  simp only[VR]at hv
  exact⟨_,[],h,.P8 hv.1⟩
 ·have h:k [] [] []=some r:=h
  simp only[VR]at hv
  obtain⟨a,rfl⟩:=hv
  exact⟨[],[],h,a,0,rfl,fun i hi=>absurd hi (by simp)⟩
 ·rename_i id
  simp only[VR]at hv
  obtain⟨_,rfl⟩:=hv
  split at h
  ·rename_i e1 l aR
   obtain⟨e',h⟩:=a7 h
   cases e'
   refine⟨_,_,h,?_⟩
   have:=hm.ix id _ aR
   simp only[ER]at this
   rcases this with⟨rfl,a,hv⟩|⟨b,cs,t,cap,hv,hb,hM,hc,hl,Ay,hs,hr⟩
   ·exact⟨a,0,hv,fun i hi=>absurd hi (by simp)⟩
   ·refine⟨_,cap,hv,fun i hi=>⟨b,0,_,rfl,?_,hr i hi⟩⟩
    rw[Nat.zero_add]
    exact At.of_block hb _ _
  ·rename_i e1 l aR
   obtain⟨e',h⟩:=a7 h
   cases e'
   have:=hm.ix id _ aR
   simp only[ER]at this
   exact⟨_,_,h,.P8 (V.slice.2 this.1)⟩
  ·cases h
 ·cases h
theorem Src.cells{w:World}{M:Nat→Prop}{e:Ty}{v:Value}{l:List e.den}(h:Src w M e v l)(gH:l≠[]):
  ∃b off cap news,v= .slice (some ⟨b,off,none⟩) l.length cap∧news.length=l.length*e.size∧At w b off news∧
   (∀i (hi:i<l.length),Rd w M e ((news.drop (i*e.size)).take e.size) l[i])∧ ∀u∈news,u.oneCell'=true:=by
 obtain⟨a,cap,rfl,hr⟩:=h
 have h0:0<l.length:=List.length_pos_iff.2 gH
 obtain⟨b,off,_,ha,_⟩:=hr 0 h0
 subst ha
 have key: ∀n,n≤l.length→ ∃news:List Value,news.length=n*e.size∧At w b off news∧
   (∀i (hi:i<l.length),i<n→Rd w M e ((news.drop (i*e.size)).take e.size) l[i])∧ ∀u∈news,u.oneCell'=true:=by
  intro n
  induction n with
  |zero=>exact fun _=>⟨[],by simp,fun j v hj=>by simp at hj,fun i _ hi=>by omega,by simp⟩
  |succ n ih=>
   intro hn
   obtain⟨news,hl,lH,gG,Xs⟩:=ih (by omega)
   obtain⟨b',aok,cs,ha,ahQ,Kd⟩:=hr n (by omega)
   cases ha
   refine⟨news++cs,by rw[List.length_append,hl,Kd.length,Nat.add_mul,Nat.one_mul],At.append.2 ⟨lH,by rw[hl];exact ahQ⟩,fun i hi jr=> ?_,fun u hu=> ?_⟩
   ·by_cases dE:i<n
    ·have h1:(i+1)*e.size≤n*e.size:=Nat.mul_le_mul_right _ dE
     rw[Nat.add_mul,Nat.one_mul]at h1
     rw[List.drop_append_of_le_length (by omega),List.take_append_of_le_length (by rw[List.length_drop];omega)]
     exact gG i hi dE
    ·obtain rfl:i=n:=by omega
     rw[List.drop_left' hl,List.take_of_length_le (by rw[Kd.length];exact Nat.le_refl _)]
     exact Kd
   ·rcases List.mem_append.1 hu with hu|hu
    ·exact Xs u hu
    ·exact Kd.jX u hu
 obtain⟨news,hl,lH,gG,Xs⟩:=key l.length (Nat.le_refl _)
 exact⟨b,off,cap,news,rfl,hl,lH,fun i hi=>gG i hi hi,Xs⟩
structure Core(c:Ctx)(σ:St)(tm:Array Value)(w:World)(M:Nat→Prop)(ν:Nat→Value):Prop where
 mem:Mem c σ.H w M ν
 tmp: ∀i,VR w M σ.H ν (σ.T i) (tm.getD i undef)
theorem Ke(w:World)(M:Nat→Prop)(H:Nat→Option aQ)(ν:Nat→Value)(v:Value):VR w M H ν (cvA v) v:=by
 unfold cvA
 split<;>simp[VR,V,Ty.isAgg,Rd]
theorem Core.op{c:Ctx}{σ:St}{tm:Array Value}{w:World}{M:Nat→Prop}{ν:Nat→Value}(h:Core c σ tm w M ν)(ds:List Deferred)(x:Operand):
  VR w M σ.H ν (σ.ρ x) (({tmps:=tm,defers:=ds}:Act).eval x):=by
 cases x with
 |tmp t=>exact h.tmp t
 |const v=>exact Ke w M σ.H ν v
 |global g=>simp[St.ρ,VR]
 |func f=>simp[St.ρ,VR,fv,Act.eval]
def acm(P:Program)(t:TypeId)(τ:Ty):Prop:=
 ∀(w:World) (M:Nat→Prop) (u v:Value) (x y:τ.den) (b:BinOp) (xo yo:Operand),V w M τ u x→V w M τ v y→
  (eqGuard b t xo yo u v).run P w= .ok () w∧(binOp .eql t u v).run P w= .ok (.bool (kV τ x y)) w∧(binOp .neq t u v).run P w= .ok (.bool (!kV τ x y)) w
structure EnvTy(P:Program)(E:Env):Prop where
 ty: ∀t τ,E.ty t=some τ→gl P τ t
 eq: ∀t τ,E.ty t=some τ→τ.comparable=true→τ.isAgg=true→acm P t τ
end VM
end
section
namespace VM
open Go
variable{P:Program}
theorem tz{o:Oper}{ρ:Operand→Value}{t:TypeId}{i:TypeInfo}{z:Value}(ho:o.op= .alloc t)(hi:P.info? t=some i)(hz:i.zero=some z)(w:World):
  (execOp ρ o).run P w= .ok (.value (.pointer (some ⟨w.heap.size,0,none⟩))) (w.alloc (.cells z.cells t)):=by
 simp[execOp,ho,Instr.alloc,zeroValue,typeInfo,hi,hz,newVar,newRow]
theorem xS{o:Oper}{ρ:Operand→Value}{t:TypeId}{x:Operand}(ho:o.op= .box t x)(w:World):
  (execOp ρ o).run P w= .ok (.value (.pointer (some ⟨w.heap.size,0,none⟩))) (w.alloc (.cells (ρ x).cells t)):=by
 simp[execOp,ho,Instr.box,newVar,newRow]
theorem oD{τ:Ty}{t:TypeId}(h:gl P τ t)(w:World):(isAgg t).run P w= .ok τ.isAgg w:=by
 unfold gl at h
 cases τ<;>simp only[dB]at h
 ·simp[isAgg,run_underlying h.2,Ty.isAgg]
 ·simp[isAgg,run_underlying h.2,Ty.isAgg]
 ·simp[isAgg,run_underlying h.2,Ty.isAgg]
 ·obtain⟨_,e',h',_⟩:=h;simp[isAgg,run_underlying h',Ty.isAgg]
 ·obtain⟨_,e',h',_⟩:=h;simp[isAgg,run_underlying h',Ty.isAgg]
 ·obtain⟨_,e',f,h',_⟩:=h;simp[isAgg,run_underlying h',Ty.isAgg]
 ·obtain⟨_,e',h',_⟩:=h;simp[isAgg,run_underlying h',Ty.isAgg]
theorem bY{τ:Ty}{t:TypeId}(h:gl P τ t)(w:World):(Go.sizeOf t).run P w= .ok τ.size w:=by
 obtain⟨i,hi,hs,_⟩:=h.base
 simp[Go.sizeOf,typeInfo,hi,hs]
theorem vM{w:World}{M:Nat→Prop}{τ:Ty}{t:TypeId}(h:gl P τ t){b off:Nat}{cs:List Value}{x:τ.den}(ha:At w b off cs)(hr:Rd w M τ cs x):
  (loadVar t ⟨b,off,none⟩).run P w= .ok (bE τ cs) w:=by
 have hl:(loadCells ⟨b,off,none⟩ τ.size).run P w= .ok cs.toArray w:=by
  rw[←hr.length]
  exact run_loadCells_list w _ cs fun j v hj=>by rw[show(⟨b,off,none⟩:Addr).add j=⟨b,off+j,none⟩from by unfold Addr.add;split<;>simp_all];exact ha j v hj
 unfold bE
 by_cases Dy:τ.isAgg=true
 ·simp[loadVar,oD h,Dy,bY h,hl]
 ·obtain⟨v,rfl,hc⟩:=hr.scalar (by simpa using Dy)
  have h0:=ha 0 v rfl
  simp only[Nat.add_zero]at h0
  simp[loadVar,oD h,Dy,load,Sem.run,h0]
theorem qo{o:Oper}{ρ:Operand→Value}{t:TypeId}{x:Operand}(ho:o.op= .load t x){w:World}{M:Nat→Prop}{τ:Ty}(h:gl P τ t){b off:Nat}{cs:List Value}{y:τ.den}
  (hx:ρ x= .pointer (some ⟨b,off,none⟩)) (ha:At w b off cs) (hr:Rd w M τ cs y):
  (execOp ρ o).run P w= .ok (.value (bE τ cs)) w:=by
 simp[execOp,ho,hx,Instr.loadAt,Instr.sureAddr,vM h ha hr]
theorem iV{o:Oper}{ρ:Operand→Value}{t:TypeId}{x y:Operand}(ho:o.op= .store t x y){w:World}{τ:Ty}(h:gl P τ t){b off:Nat}{cur:Array Value}{te:TypeId}
  (hx:ρ x= .pointer (some ⟨b,off,none⟩)) (hg:w.heap[b]? =some (.cells cur te (0,0))) (hs:(ρ y).cells.size=τ.size) (hf:off+τ.size≤cur.size) (h1: ∀v∈(ρ y).cells.toList,v.oneCell'=true):
  (execOp ρ o).run P w= .ok .skip (w.setRow b (cur.toList.take off++(ρ y).cells.toList++cur.toList.drop (off+(ρ y).cells.toList.length)).toArray):=by
 have GH:=run_storeCells_at (P:=P) b off te (ρ y).cells.toList 0 cur w hg (by simp[hs];omega) h1
 simp only[Nat.add_zero]at GH
 simp[execOp,ho,hx,Instr.storeAt,Instr.sureAddr,storeVar,bY h,hs,GH]
theorem oE{o:Oper}{ρ:Operand→Value}{t:TypeId}{x:Operand}{n:Nat}(ho:o.op= .fieldAddr t x n){w:World}{fs:Array Field}{f:Field}{b off:Nat}{υ:Ty}
  (hu:P.underlying t=some (.struct fs)) (hf:fs[n]? =some f) (hl:gl P υ f.type) (hz:υ.size≠0) (hx:ρ x= .pointer (some ⟨b,off,none⟩)):
  ∃a,(execOp ρ o).run P w= .ok (.value a) w∧a= .pointer (some ⟨b,off+f.offset,none⟩):=by
 refine⟨_,?_,rfl⟩
 simp[execOp,ho,hx,Instr.fieldAt,Instr.sureAddr,run_underlying hu,hf,fieldPlace,Addr.add_lit,bY hl,hz]
theorem tA{τ:Ty}{t:TypeId}(h:gl P τ t){w:World}{M:Nat→Prop}{cs:Array Value}{off:Nat}{x:τ.den}(hr:Rd w M τ ((cs.toList.drop off).take τ.size) x):
  (part t cs off).run P w= .ok (bE τ ((cs.toList.drop off).take τ.size)) w:=by
 have hl:=hr.length
 unfold bE
 by_cases Dy:τ.isAgg=true
 ·simp only[part,Sem.run_bind,oD h,Result.andThen_ok,Dy,if_true,bY h]
  simp
  rw[List.length_take,List.length_drop,Array.length_toList]at hl
  apply Array.ext'
  simp only[Array.toList_extract,List.extract_eq_take_drop,Nat.add_sub_cancel_left]
 ·obtain⟨v,hv,hc⟩:=hr.scalar (by simpa using Dy)
  rw[hv]
  have h0:cs[off]? =some v:=by
   have:=congrArg (fun l=>l[0]?) hv
   simp only[List.getElem?_take,List.getElem?_drop]at this
   split at this
   ·simpa using this
   ·simp at this
  simp[part,oD h,Dy,h0]
theorem BP{o:Oper}{ρ:Operand→Value}{t:TypeId}{x:Operand}{n:Nat}(ho:o.op= .field t x n){w:World}{M:Nat→Prop}{fs:Array Field}{f:Field}{cs:Array Value}{υ:Ty}{y:υ.den}
  (hu:P.underlying t=some (.struct fs)) (hf:fs[n]? =some f) (hl:gl P υ f.type) (hx:ρ x= .agg cs) (hr:Rd w M υ ((cs.toList.drop f.offset).take υ.size) y):
  (execOp ρ o).run P w= .ok (.value (bE υ ((cs.toList.drop f.offset).take υ.size))) w:=by
 simp[execOp,ho,hx,Instr.field,run_underlying hu,hf,asAgg,tA hl hr]
theorem gL{o:Oper}{ρ:Operand→Value}{t e:TypeId}{x i:Operand}(ho:o.op= .indexAddr t x i){w:World}{τe:Ty}{b off len cap:Nat}{k:IntKind}{n:Int}
  (hu:P.underlying t=some (.slice e)) (he:gl P τe e) (hx:ρ x= .slice (some ⟨b,off,none⟩) len cap) (hi:ρ i= .int k n) (h0:0≤n) (h1:n<(len:Int)):
  (execOp ρ o).run P w= .ok (.value (.pointer (some ⟨b,off+n.toNat*τe.size,none⟩))) w:=by
 simp[execOp,ho,hx,hi,Instr.indexAt,asIntOf,run_underlying hu,h0,h1,bY he,Addr.add_lit]
theorem nI{o:Oper}{ρ:Operand→Value}{t e:TypeId}{x i:Operand}(ho:o.op= .indexAddr t x i){w:World}{τe:Ty}{b off len:Nat}{k:IntKind}{n:Int}
  (hu:P.underlying t=some (.array len e)) (he:gl P τe e) (hx:ρ x= .pointer (some ⟨b,off,none⟩)) (hi:ρ i= .int k n) (h0:0≤n) (h1:n<(len:Int)):
  (execOp ρ o).run P w= .ok (.value (.pointer (some ⟨b,off+n.toNat*τe.size,none⟩))) w:=by
 simp[execOp,ho,hx,hi,Instr.indexAt,Instr.sureAddr,asIntOf,run_underlying hu,h0,h1,bY he,Addr.add_lit]
theorem zV{o:Oper}{ρ:Operand→Value}{t e:TypeId}{x i:Operand}(ho:o.op= .index t x i){w:World}{M:Nat→Prop}{τe:Ty}{len:Nat}{k:IntKind}{n:Int}{cs:Array Value}{y:τe.den}
  (hu:P.underlying t=some (.array len e)) (he:gl P τe e) (hx:ρ x= .agg cs) (hi:ρ i= .int k n) (h0:0≤n) (h1:n<(len:Int)) (hr:Rd w M τe ((cs.toList.drop (n.toNat*τe.size)).take τe.size) y):
  (execOp ρ o).run P w= .ok (.value (bE τe ((cs.toList.drop (n.toNat*τe.size)).take τe.size))) w:=by
 simp[execOp,ho,hx,hi,Instr.index,asIntOf,run_underlying hu,h0,h1,bY he,tA he hr]
theorem xT{o:Oper}{ρ:Operand→Value}{x:Operand}{n:Nat}(ho:o.op= .extract x n){w:World}{us:List Value}{v:Value}(hx:ρ x= .tuple us.toArray)(hv:us[n]? =some v):
  (execOp ρ o).run P w= .ok (.value v) w:=by
 simp[execOp,ho,hx,Instr.extract,hv]
theorem Dz{o:Oper}{ρ:Operand→Value}{x y z:Operand}(ho:o.op= .pick x y z){w:World}{b:Bool}(hx:ρ x= .bool b):
  (execOp ρ o).run P w= .ok (.value (if b then ρ y else ρ z)) w:=by
 simp[execOp,ho,hx,asBool]
theorem pU{o:Oper}{ρ:Operand→Value}{x:Operand}(ho:o.op= .nilCheck x){w:World}{a:Addr}(hx:ρ x= .pointer (some a)):
  (execOp ρ o).run P w= .ok (.value (.pointer (some a))) w:=by
 simp[execOp,ho,hx]
theorem wP{o:Oper}{ρ:Operand→Value}{f:FuncId}{first caps:Array Operand}(ho:o.op= .makeFunc (.func f) first caps)(hf:first= #[]){w:World}:
  (execOp ρ o).run P w= .ok (.value (.func (.func f) #[] (caps.map ρ))) w:=by
 subst hf
 simp[execOp,ho,Instr.makeFunc]
theorem xU{o:Oper}{ρ:Operand→Value}{s d:TypeId}{x:Operand}(ho:o.op= .convert s d x){w:World}{k k':IntKind}{n:Int}(hs:(P.underlying s).isSome=true)(hd:P.underlying d=some (.int k))(hx:ρ x= .int k' n):
  (execOp ρ o).run P w= .ok (.value (.int k (k.wrap n))) w:=by
 obtain⟨ds,hs⟩:=Option.isSome_iff_exists.1 hs
 simp[execOp,ho,hx,convert,run_underlying hs,run_underlying hd,Conv.intToInt]
theorem qp{o:Oper}{ρ:Operand→Value}{u:UnOp}{t:TypeId}{x:Operand}(ho:o.op= .unOp u t x){w:World}{v:Value}(h:(Op.unary u (ρ x)).run P w= .ok v w):
  (execOp ρ o).run P w= .ok (.value v) w:=by
 simp[execOp,ho,h]
theorem lI{o:Oper}{ρ:Operand→Value}{b:BinOp}{t t':TypeId}{x y:Operand}(ho:o.op= .binOp b t x y t'){w:World}{v:Value}
  (hg:(eqGuard b t x y (ρ x) (ρ y)).run P w= .ok () w) (h:(binOp b t (ρ x) (ρ y)).run P w= .ok v w):
  (execOp ρ o).run P w= .ok (.value v) w:=by
 simp[execOp,ho,hg,h]
theorem kZ{b:BinOp}{t:TypeId}{x y:Operand}{k k':IntKind}{m n:Int}(w:World):(eqGuard b t x y (.int k m) (.int k' n)).run P w= .ok () w:=by
 cases b<;>simp[eqGuard]
theorem u5{b:BinOp}{t:TypeId}{x y:Operand}{m n:Bool}(w:World):(eqGuard b t x y (.bool m) (.bool n)).run P w= .ok () w:=by
 cases b<;>simp[eqGuard]
theorem wQ{b:BinOp}{t:TypeId}{x y:Operand}{m n:ByteArray}(w:World):(eqGuard b t x y (.string m) (.string n)).run P w= .ok () w:=by
 cases b<;>simp[eqGuard]
theorem mz{o:Oper}{ρ:Operand→Value}{b:Builtin}{args:Array Operand}{ts:Array TypeId}(ho:o.op= .call {callee:= .builtin b,args,argTypes:=ts}){w:World}:
  ∃cs,(execOp ρ o).run P w=(builtin b ts o.type cs (args.map ρ)).run P w:=by
 refine⟨args.map fun| .const _=>true|_=>false,?_⟩
 simp[execOp,ho,resolve,invoke]
 rfl
end VM
end
section
namespace VM
open Go
theorem nJ{α:Type}{r:α}: ∀{τ:Ty} {x:τ.den} {n:Nat} {m:(υ:Ty)→υ.den→(υ.den→Option α)→Option α} {k:τ.den→Option α},iS τ x n m k=some r→
  ∃υ y o k',wM τ x n υ y o∧m υ y k'=some r∧ ∀z r',k' z=some r'→ ∃x',k x'=some r'∧wM τ x' n υ z o∧
   ∀(w:World) (M:Nat→Prop) cs cs',Rd w M τ cs x→Rd w M υ cs' z→Rd w M τ (dd cs o cs') x'
 | .pair a b,x,0,m,k,h=>by
  refine⟨a,x.1,0,_,.here x,h,fun z r' hz=>⟨(z,x.2),hz,.here (a:=a) (b:=b) (z,x.2),fun w M cs cs' hr dr=> ?_⟩⟩
  simp only[Rd]at hr ⊢
  obtain⟨c1,c2,rfl,h1,h2⟩:=hr
  refine⟨cs',c2,?_,dr,h2⟩
  rw[tv (by rw[dr.length,h1.length];omega)]
  congr 1
  unfold dd
  rw[Nat.zero_add,dr.length,←h1.length];simp
 | .pair a b,x,n+1,m,k,h=>by
  obtain⟨υ,y,o,k',hf,hm,hk⟩:=nJ (τ:=b) (x:=x.2) (n:=n) (m:=m) (k:=fun z=>k (x.1,z)) h
  refine⟨υ,y,_,k',.there x hf,hm,fun z r' hz=> ?_⟩
  obtain⟨x',oF,wN,gG⟩:=hk z r' hz
  refine⟨(x.1,x'),oF,.there (a:=a) (b:=b) (x.1,x') wN,fun w M cs cs' hr dr=> ?_⟩
  simp only[Rd]at hr ⊢
  obtain⟨c1,c2,rfl,h1,h2⟩:=hr
  refine⟨c1,_,?_,h1,gG w M c2 cs' h2 dr⟩
  rw[←h1.length,q7]
 | .int _,_,_,_,_,h| .bool,_,_,_,_,h| .str,_,_,_,_,h| .slice _,_,_,_,_,h| .unit,_,_,_,_,h| .arr _ _,_,_,_,_,h=>by simp[iS]at h
def mA(w:World)(M:Nat→Prop)(e:Ty)(cs:List Value)(l:List e.den):Prop:=
 ∀i (h:i<l.length),Rd w M e ((cs.drop (i*e.size)).take e.size) l[i]
theorem cR{i n s:Nat}(h:i<n):i*s+s≤n*s:=by
 have:(i+1)*s≤n*s:=Nat.mul_le_mul_right _ h
 rw[Nat.add_mul,Nat.one_mul]at this;exact this
theorem mA.set{w:World}{M:Nat→Prop}{e:Ty}{cs:List Value}{l:List e.den}(h:mA w M e cs l)(hl:l.length*e.size≤cs.length){i:Nat}(hi:i<l.length){cs':List Value}{y:e.den}(hr:Rd w M e cs' y):
  mA w M e (dd cs (i*e.size) cs') (l.set i y):=by
 have hlen:=hr.length
 intro j hj
 rw[List.length_set]at hj
 have h1:=cR (s:=e.size) hi
 have h2:=cR (s:=e.size) hj
 by_cases nH:j=i
 ·subst nH
  have:=Xq (a:=cs) (o:=j*e.size) (new:=cs') (by omega)
  rw[hlen]at this
  rw[this,List.getElem_set_self];exact hr
 ·rw[BN (by
   rcases Nat.lt_or_gt_of_ne nH with dE|dE
   ·have:=cR (s:=e.size) dE;left;omega
   ·have:=cR (s:=e.size) dE;right;omega) (by omega),List.getElem_set_ne (Ne.symm nH)]
  exact h j hj
theorem mA.append{w:World}{M:Nat→Prop}{e:Ty}{c1 c2:List Value}{l1 l2:List e.den}(h1:mA w M e c1 l1)(hl:c1.length=l1.length*e.size)(h2:mA w M e c2 l2):mA w M e (c1++c2) (l1++l2):=by
 intro i hi
 by_cases dE:i<l1.length
 ·have:=cR (s:=e.size) dE
  rw[List.drop_append_of_le_length (by omega),List.take_append_of_le_length (by rw[List.length_drop];omega),List.getElem_append_left dE]
  exact h1 i dE
 ·rw[List.length_append]at hi
  obtain⟨k,rfl⟩: ∃k,i=l1.length+k:=⟨i-l1.length,by omega⟩
  rw[Nat.add_mul,←hl,←List.drop_drop,List.drop_left' rfl,List.getElem_append_right (by omega)]
  simp only[Nat.add_sub_cancel_left]
  exact h2 k (by omega)
theorem mA.take{w:World}{M:Nat→Prop}{e:Ty}{cs:List Value}{l:List e.den}(h:mA w M e cs l){n:Nat}(hn:l.length*e.size≤n):mA w M e (cs.take n) l:=by
 intro i hi
 have:=cR (s:=e.size) hi
 rw[List.drop_take,List.take_take,Nat.min_eq_left (by omega)]
 exact h i hi
theorem mA.more{w:World}{M:Nat→Prop}{e:Ty}{cs cs':List Value}{l:List e.den}(h:mA w M e cs l)(hl:l.length*e.size≤cs.length):mA w M e (cs++cs') l:=by
 intro i hi
 have:=cR (s:=e.size) hi
 rw[List.drop_append_of_le_length (by omega),List.take_append_of_le_length (by rw[List.length_drop];omega)]
 exact h i hi
theorem mA.br{w w':World}{M M':Nat→Prop}(k:da w M w' M'){e:Ty}{cs:List Value}{l:List e.den}(h:mA w M e cs l):mA w' M' e cs l:=fun i hi=>(h i hi).br k
theorem Rd.arr{w:World}{M:Nat→Prop}{n:Nat}{e:Ty}{cs:List Value}{x:(Ty.arr n e).den}:Rd w M (.arr n e) cs x↔List.length x=n∧cs.length=n*e.size∧mA w M e cs x:=by
 constructor
 ·intro h
  have hl:=h.length
  have h':=h
  simp only[Rd]at h'
  refine⟨h'.1,hl,fun i hi=> ?_⟩
  have:=h.idx (i:=i) (by omega)
  rw[gm x i e.zero hi]at this
  exact this
 ·rintro⟨hn,hl,hr⟩
  simp only[Rd]
  refine⟨hn,(List.range n).map fun i=>(cs.drop (i*e.size)).take e.size,by simp,?_,fun i hi kg=> ?_⟩
  ·
   have key: ∀m (l:List Value),l.length=m*e.size→l=((List.range m).map fun i=>(l.drop (i*e.size)).take e.size).flatten:=by
    intro m
    induction m with
    |zero=>intro l hl;simpa using hl
    |succ m ih=>
     intro l hl
     have h1:(l.take (m*e.size)).length=m*e.size:=by rw[List.length_take,hl,Nat.add_mul];omega
     have h2:=ih (l.take (m*e.size)) h1
     rw[List.range_succ,List.map_append,List.flatten_append]
     have h3:((List.range m).map fun i=>(l.drop (i*e.size)).take e.size)=(List.range m).map fun i=>((l.take (m*e.size)).drop (i*e.size)).take e.size:=by
      apply List.map_congr_left
      intro i hi
      have:=cR (s:=e.size) (List.mem_range.1 hi)
      rw[List.drop_take,List.take_take,Nat.min_eq_left (by omega)]
     rw[h3,←h2]
     simp only[List.map_cons,List.map_nil,List.flatten_cons,List.flatten_nil,List.append_nil]
     rw[List.take_of_length_le (l:=l.drop (m*e.size)) (by rw[List.length_drop,hl,Nat.add_mul];omega),List.take_append_drop]
   exact key n cs hl
  ·simp only[List.getElem_map,List.getElem_range]
   exact hr i hi
theorem ki{α:Type}{r:α}{υ:Ty}{y:υ.den}: ∀{p:List Step} {τ:Ty} {x:τ.den} {k:τ.den→Option α},p6 υ y p τ x k=some r→
  ∃z,k z=some r∧zT p τ=υ∧(rL p τ→bB p τ+υ.size≤τ.size)∧ ∀(w:World) (M:Nat→Prop) cs cs',rL p τ→Rd w M τ cs x→Rd w M υ cs' y→Rd w M τ (dd cs (bB p τ) cs') z
 |[],τ,x,k,h=>by
  obtain⟨e,h⟩:=a7 (h:bX υ τ y k=some r)
  subst e
  refine⟨y,h,rfl,fun _=>by simp[bB],fun w M cs cs' _ hr dr=> ?_⟩
  unfold dd
  rw[show bB [] υ=0 from rfl,Nat.zero_add,dr.length,←hr.length]
  simpa using dr
 | .gk n::p,τ,x,k,h=>by
  obtain⟨υ',y',o,k',hf,hm,hk⟩:=nJ (h:iS τ x n _ k=some r)
  obtain⟨z',zN,ht,zO,gG⟩:=ki (p:=p) (τ:=υ') (x:=y') (k:=k') hm
  obtain⟨x',oF,wN,Kd⟩:=hk z' r zN
  obtain⟨h1,h2⟩:=hf.eq
  subst h1 h2
  refine⟨x',oF,ht,fun hi=>by have:=hf.bound;have:=zO hi;simp only[bB];omega,fun w M cs cs' hi hr dr=> ?_⟩
  have zO:=zO hi
  have h3:=gG w M _ cs' hi (hf.rd hr) dr
  have h4:=Kd w M cs _ hr h3
  have hb:=hf.bound
  have P9:=hr.length
  have hl2:=dr.length
  have PG:=h3.length
  have jr:bB p (p9 τ n)+cs'.length≤((cs.drop (nq τ n)).take (p9 τ n).size).length:=by
   rw[List.length_take,List.length_drop];omega
  have:dd cs (nq τ n) (dd ((cs.drop (nq τ n)).take (p9 τ n).size) (bB p (p9 τ n)) cs')=dd cs (nq τ n+bB p (p9 τ n)) cs':=by
   have e1:cs=cs.take (nq τ n)++(((cs.drop (nq τ n)).take (p9 τ n).size)++cs.drop (nq τ n+(p9 τ n).size)):=by
    rw[←List.drop_drop,List.take_append_drop,List.take_append_drop]
   have dE:(cs.take (nq τ n)).length=nq τ n:=by rw[List.length_take];omega
   conv=>rhs;rw[e1]
   rw[show nq τ n+bB p (p9 τ n)=(cs.take (nq τ n)).length+bB p (p9 τ n)from by rw[dE],q7,tv jr]
   generalize dd ((cs.drop (nq τ n)).take (p9 τ n).size) (bB p (p9 τ n)) cs'=m at PG ⊢
   unfold dd
   rw[PG,List.append_assoc]
  simp only[bB]
  rw[←this]
  exact h4
 | .idx i::p,τ,x,k,h=>by
  cases τ with
  |arr n e=>
   obtain⟨z',zN,ht,zO,gG⟩:=ki (p:=p) (τ:=e) (x:=List.getD x i e.zero) (k:=fun z=>k (List.set x i z)) h
   refine⟨_,zN,ht,fun hi=>by
    obtain⟨⟨n',e',he,jr⟩,kg⟩:=hi
    cases he
    have:=zO kg
    have hm:=cR (s:=e.size) jr
    simp only[bB,Xo,Ty.size];omega,fun w M cs cs' hi hr dr=> ?_⟩
   obtain⟨⟨n',e',he,jr⟩,kg⟩:=hi
   cases he
   have h3:=gG w M _ cs' kg (hr.idx jr) dr
   obtain⟨hn,P9,GI⟩:=Rd.arr.1 hr
   have hm:=cR (s:=e.size) jr
   have h4:=GI.set (by rw[P9,hn];exact Nat.le_refl _) (i:=i) (by omega) h3
   have hl2:=dr.length
   have PG:=h3.length
   have hch:((cs.drop (i*e.size)).take e.size).length=e.size:=by rw[List.length_take,List.length_drop];omega
   have zO:=zO kg
   have ahR:bB p e+cs'.length≤((cs.drop (i*e.size)).take e.size).length:=by omega
   have:dd cs (i*e.size) (dd ((cs.drop (i*e.size)).take e.size) (bB p e) cs')=dd cs (i*e.size+bB p e) cs':=by
    have e1:cs=cs.take (i*e.size)++(((cs.drop (i*e.size)).take e.size)++cs.drop (i*e.size+e.size)):=by
     rw[←List.drop_drop,List.take_append_drop,List.take_append_drop]
    have dE:(cs.take (i*e.size)).length=i*e.size:=by rw[List.length_take];omega
    conv=>rhs;rw[e1]
    rw[show i*e.size+bB p e=(cs.take (i*e.size)).length+bB p e from by rw[dE],q7,tv ahR]
    generalize dd ((cs.drop (i*e.size)).take e.size) (bB p e) cs'=m at PG ⊢
    unfold dd
    rw[PG,List.append_assoc]
   simp only[bB,Xo]
   rw[←this]
   refine Rd.arr.2 ⟨by rw[List.length_set];exact hn,?_,h4⟩
   rw[dY (by rw[PG];omega)];exact P9
  |_=>simp[p6,xr]at h
end VM
end
