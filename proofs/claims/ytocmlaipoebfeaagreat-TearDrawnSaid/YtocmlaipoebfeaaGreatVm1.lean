/- A part of the proof of TearDrawn of layer 29: a machine that reads a function of the program as an equation between values. -/
import Derived.Test.YtocmlaipoebfeaaGreatVm0
import Derived.WalkLawsBesides
import Derived.Great.BuildSlice
import Derived.Laws.Tables
set_option linter.all false
section
namespace VM
open Go
structure Ctx where
 B:Nat
 w0:World
 M0:Nat→Prop
 may:Nat→Prop
 arg:Nat→Value
structure Mem(c:Ctx)(H:Nat→Option aP)(w:World)(M:Nat→Prop)(ν:Nat→Value):Prop where
 iO: ∀i e,H i=some e→ER w M (ν i) e
 vi: ∀i j e e' b,i≠j→H i=some e→e.mut→H j=some e'→e'.mut→ej (ν i)=some b→ej (ν j)≠some b
 new: ∀i e b,H i=some e→e.mut→ej (ν i)=some b→c.B≤b∨c.may b
 tz: ∀i e l b,H i=some (.own e l)→ej (ν i)=some b→ ¬c.M0 b
 dP: ∀i τ x p j,H i=some (.dP τ x p j)→H j≠none∧ ∃b,ν i= .pointer (some ⟨b,0,none⟩)∧w.cell? ⟨b,bC p τ,none⟩=some (ν j)
 sub: ∀b,c.M0 b→M b
 yD: ∀b,M b→b<w.heap.size
 frame: ∀b,b<c.B→ ¬c.may b→w.heap[b]? =c.w0.heap[b]?
 size:c.B≤w.heap.size
 qg:(∀b,c.M0 b→b<c.B)∧ ∀b,c.may b→ ¬c.M0 b
 os:w.os=c.w0.os
 tape:w.tape=c.w0.tape
 output:w.output=c.w0.output
structure Tr(c:Ctx)(H:Nat→Option aP)(w:World)(M:Nat→Prop)(ν:Nat→Value)(H':Nat→Option aP)(w':World)(M':Nat→Prop)(ν':Nat→Value):Prop where
 mem:Mem c H' w' M' ν'
 bs:di w M w' M'
 goes:oe H ν H' ν'
theorem aP.hO.trans{a b d:aP}(h:a.hO b)(k:b.hO d):a.hO d:=by
 cases a<;>cases b<;>cases d<;>simp only[aP.hO]at h k ⊢ <;>first
  |exact h.trans k
  |exact⟨h.1.trans k.1,h.2.trans k.2⟩
theorem oe.trans{H H' H'':Nat→Option aP}{ν ν' ν'':Nat→Value}(h:oe H ν H' ν')(k:oe H' ν' H'' ν''):oe H ν H'' ν'':=by
 refine⟨fun i e he=> ?_,fun i hi=> ?_⟩
 ·obtain⟨e',sD,l⟩:=h.iO i e he
  obtain⟨e'',ajo,l'⟩:=k.iO i e' sD
  exact⟨e'',ajo,l.trans l'⟩
 ·obtain⟨e,he⟩:=Option.ne_none_iff_exists'.1 hi
  obtain⟨e',sD,_⟩:=h.iO i e he
  rw[k.head i (by simp[sD]),h.head i hi]
theorem Tr.trans{c:Ctx}{H H' H'':Nat→Option aP}{w w' w'':World}{M M' HN:Nat→Prop}{ν ν' ν'':Nat→Value}
  (h:Tr c H w M ν H' w' M' ν') (k:Tr c H' w' M' ν' H'' w'' HN ν''):Tr c H w M ν H'' w'' HN ν'':=
 ⟨k.mem,h.bs.trans k.bs,h.goes.trans k.goes⟩
theorem Tr.refl{c:Ctx}{H:Nat→Option aP}{w:World}{M:Nat→Prop}{ν:Nat→Value}(h:Mem c H w M ν):Tr c H w M ν H w M ν:=
 ⟨h,.refl w M,.refl H ν⟩
theorem ak(H:Nat→Option aP)(d:Nat)(v:Option aP):bm H d v d=v:=by simp[bm]
theorem an(H:Nat→Option aP){d i:Nat}(v:Option aP)(h:i≠d):bm H d v i=H i:=by
 have:Nat.beq i d=false:=by rw[←Bool.not_eq_true,Nat.beq_eq];exact h
 simp[bm,this]
def bS(H:Nat→Option aP):fl→(Nat→Option aP)
 |[]=>H
 |u::r=>bS (bm H u.1 u.2) r
theorem Ii(ups:fl): ∀σ:St,(σ.qp ups).H=bS σ.H ups:=by
 induction ups with
 |nil=>intro σ;rfl
 |cons u r ih=>intro σ;exact ih _
theorem Ij(ups:fl): ∀σ:St,(σ.qp ups).T=σ.T:=by
 induction ups with
 |nil=>intro σ;rfl
 |cons u r ih=>intro σ;exact ih _
theorem dT(a b:fl): ∀H,bS H (a++b)=bS (bS H a) b:=by
 induction a with
 |nil=>intro H;rfl
 |cons u r ih=>intro H;exact ih _
theorem rz{H:Nat→Option aP}{id j:Nat}{v:aP}(h:H j≠none):bm H id (some v) j≠none:=by
 by_cases hj:j=id
 ·subst hj;rw[ak];simp
 ·rw[an _ _ hj];exact h
theorem CC{H:Nat→Option aP}{w:World}{ν:Nat→Value}(h: ∀i τ x p j,H i=some (.dP τ x p j)→H j≠none∧ ∃b,ν i= .pointer (some ⟨b,0,none⟩)∧w.cell? ⟨b,bC p τ,none⟩=some (ν j)){id:Nat}{v:aP}(hv: ∀τ x p j,v≠ .dP τ x p j):
  ∀i τ x p j,bm H id (some v) i=some (.dP τ x p j)→bm H id (some v) j≠none∧ ∃b,ν i= .pointer (some ⟨b,0,none⟩)∧w.cell? ⟨b,bC p τ,none⟩=some (ν j):=by
 intro i τ x p j hi
 by_cases bq:i=id
 ·subst bq;rw[ak]at hi;cases hi;exact absurd rfl (hv _ _ _ _)
 ·rw[an _ _ bq]at hi
  obtain⟨h1,h2⟩:=h i τ x p j hi
  exact⟨rz h1,h2⟩
theorem Tr.gone{c:Ctx}{H:Nat→Option aP}{w:World}{M:Nat→Prop}{ν:Nat→Value}(h:Mem c H w M ν)(id:Nat):Tr c H w M ν (bm H id (some .gone)) w M ν:=by
 refine⟨⟨fun i e he=> ?_,fun i j e e' b nR hi hm hj gD=> ?_,fun i e b hi hm=> ?_,fun i e l b hi=> ?_,CC h.dP (fun _ _ _ _=>by simp),h.sub,h.yD,h.frame,h.size,h.qg,h.os,h.tape,h.output⟩,.refl w M,⟨fun i e he=> ?_,fun _ _=>rfl⟩⟩
 ·by_cases aT:i=id
  ·subst aT;rw[ak]at he;cases he;simp[ER]
  ·rw[an _ _ aT]at he;exact h.iO i e he
 ·by_cases aT:i=id
  ·subst aT;rw[ak]at hi;cases hi;simp[aP.mut]at hm
  ·by_cases hjd:j=id
   ·subst hjd;rw[ak]at hj;cases hj;simp[aP.mut]at gD
   ·rw[an _ _ aT]at hi;rw[an _ _ hjd]at hj;exact h.vi i j e e' b nR hi hm hj gD
 ·by_cases aT:i=id
  ·subst aT;rw[ak]at hi;cases hi;simp[aP.mut]at hm
  ·rw[an _ _ aT]at hi;exact h.new i e b hi hm
 ·by_cases aT:i=id
  ·subst aT;rw[ak]at hi;cases hi
  ·rw[an _ _ aT]at hi;exact h.tz i e l b hi
 ·by_cases aT:i=id
  ·subst aT;exact⟨.gone,ak _ _ _,by cases e<;>simp[aP.hO]⟩
  ·exact⟨e,by rw[an _ _ aT];exact he,.refl e⟩
theorem cell_of{w:World}{b:Nat}{cs:Array Value}{t:TypeId}{fz:Nat×Nat}(h:w.heap[b]? =some (.cells cs t fz))(o:Nat):w.cell? ⟨b,o,none⟩=cs[o]? :=by
 simp[World.cell?,h]
theorem At.of_block{w:World}{b:Nat}{cs:Array Value}{t:TypeId}{fz:Nat×Nat}(h:w.heap[b]? =some (.cells cs t fz))(o n:Nat):
  At w b o ((cs.toList.drop o).take n):=by
 intro j v hj
 rw[cell_of h]
 rw[List.getElem?_take]at hj
 split at hj
 ·rw[List.getElem?_drop]at hj;simpa using hj
 ·cases hj
theorem lt_of_block{w:World}{b:Nat}{o:Obj}(h:w.heap[b]? =some o):b<w.heap.size:=(Array.getElem?_eq_some_iff.1 h).1
theorem ER.bs{w w':World}{M M':Nat→Prop}{v:Value}(k:di w M w' M'): ∀{e:aP},
  (e.mut→ ∀b,ej v=some b→w'.heap[b]? =w.heap[b]? ∧M' b)→ER w M v e→ER w' M' v e
 | .obj τ x,hm,h=>by
  simp only[ER]at h ⊢
  obtain⟨b,cs,t,rfl,hb,hM,hr⟩:=h
  obtain⟨h1,h2⟩:=hm trivial b rfl
  exact⟨b,cs,t,rfl,h1.trans hb,h2,hr.bs k⟩
 | .dP τ x p j,hm,h=>by
  simp only[ER]at h ⊢
  obtain⟨b,cs,t,nQ,u,rfl,hb,hM,hr,h3⟩:=h
  obtain⟨h1,h2⟩:=hm trivial b rfl
  exact⟨b,cs,t,nQ,u,rfl,h1.trans hb,h2,hr.bs k,h3⟩
 | .own e l,hm,h=>by
  simp only[ER]at h ⊢
  rcases h with h|⟨b,cs,t,cap,rfl,hb,hM,hc,hl,Bn,hs,hr⟩
  ·exact .inl h
  ·obtain⟨h1,h2⟩:=hm trivial b (by simp[ej];omega)
   exact .inr ⟨b,cs,t,cap,rfl,h1.trans hb,h2,hc,hl,Bn,hs,fun i hi=>(hr i hi).bs k⟩
 | .ku e l,_,h=>by
  simp only[ER]at h ⊢
  exact⟨h.1.bs k,h.2⟩
 | .gone,_,_=>by simp[ER]
theorem ER.sP{w:World}{M:Nat→Prop}{v:Value}{e:aP}(h:ER w M v e)(hm:e.mut){b:Nat}(hb:ej v=some b):M b:=by
 cases e with
 |obj τ x=>simp only[ER]at h;obtain⟨b',cs,t,hv,dw,hM,_⟩:=h;rw[hv]at hb;simp only[ej,Option.some.injEq]at hb;subst hb;exact hM
 |dP τ x p j=>simp only[ER]at h;obtain⟨b',cs,t,_,_,hv,dw,hM,_⟩:=h;rw[hv]at hb;simp only[ej,Option.some.injEq]at hb;subst hb;exact hM
 |own e1 l1=>
  simp only[ER]at h
  rcases h with⟨_,a,hv⟩|⟨b',cs,t,cap,hv,dw,hM,hc,_⟩
  ·rw[hv]at hb;cases a<;>simp[ej]at hb
  ·rw[hv]at hb;simp only[ej]at hb;split at hb
   ·cases hb
   ·simp only[Option.some.injEq]at hb;subst hb;exact hM
 |ku _ _=>simp[aP.mut]at hm
 |gone=>simp[aP.mut]at hm
theorem Tr.freeze{c:Ctx}{H:Nat→Option aP}{w:World}{M:Nat→Prop}{ν:Nat→Value}(h:Mem c H w M ν){id:Nat}{e:Ty}{l:List e.den}(aT:H id=some (.own e l)):
  ∃M',Tr c H w M ν (bm H id (some (.ku e l))) w M' ν∧V w M' (.slice e) (ν id) l∧ ∀b,M' b↔(M b∧ej (ν id)≠some b):=by
 have hk:di w M w (fun b=>M b∧ej (ν id)≠some b):=⟨Nat.le_refl _,fun _ _ _=>rfl,fun _ _ h=>h.1⟩
 have he:=h.iO id _ aT
 have gV:Rd w (fun b=>M b∧ej (ν id)≠some b) (.slice e) [ν id] l:=by
  simp only[ER]at he
  simp only[Rd]
  rcases he with⟨rfl,a,hv⟩|⟨b,cs,t,cap,hv,hb,hM,hc,hl,Bn,hs,hr⟩
  ·exact⟨a,0,by rw[hv];rfl,Nat.le_refl _,fun i hi=>absurd hi (by simp)⟩
  ·refine⟨_,cap,by rw[hv],hl,fun i hi=>⟨b,0,rfl,lt_of_block hb,fun hm=>hm.2 (by rw[hv];simp[ej];omega),_,?_,(hr i hi).bs hk⟩⟩
   rw[Nat.zero_add]
   exact At.of_block hb _ _
 refine⟨fun b=>M b∧ej (ν id)≠some b,⟨⟨fun i e' hi=> ?_,fun i j e1 e2 b nR hi hm hj gD=> ?_,fun i e1 b hi hm=> ?_,fun i e1 l1 b hi=> ?_,CC h.dP (fun _ _ _ _=>by simp),fun b hb=>⟨h.sub b hb,fun hm=>h.tz id e l b aT hm hb⟩,fun b hb=>h.yD b hb.1,h.frame,h.size,h.qg,h.os,h.tape,h.output⟩,hk,⟨fun i e' hi=> ?_,fun _ _=>rfl⟩⟩,?_,fun _=>Iff.rfl⟩
 ·by_cases bq:i=id
  ·subst bq;rw[ak]at hi;cases hi
   simp only[ER]
   refine⟨gV,?_⟩
   simp only[ER]at he
   rcases he with⟨rfl,a,hv⟩|⟨b,cs,t,cap,hv,_⟩
   ·exact .inl ⟨rfl,a,0,0,hv⟩
   ·exact .inr ⟨b,_,cap,hv⟩
  ·rw[an _ _ bq]at hi
   refine(h.iO i e' hi).bs hk (fun hm b hb=>⟨rfl,?_,?_⟩)
   ·exact(h.iO i e' hi).sP hm hb
   ·exact h.vi i id e' (.own e l) b bq hi hm aT trivial hb
 ·by_cases bq:i=id
  ·subst bq;rw[ak]at hi;cases hi;simp[aP.mut]at hm
  ·by_cases Ay:j=id
   ·subst Ay;rw[ak]at hj;cases hj;simp[aP.mut]at gD
   ·rw[an _ _ bq]at hi;rw[an _ _ Ay]at hj;exact h.vi i j e1 e2 b nR hi hm hj gD
 ·by_cases bq:i=id
  ·subst bq;rw[ak]at hi;cases hi;simp[aP.mut]at hm
  ·rw[an _ _ bq]at hi;exact h.new i e1 b hi hm
 ·by_cases bq:i=id
  ·subst bq;rw[ak]at hi;cases hi
  ·rw[an _ _ bq]at hi;exact h.tz i e1 l1 b hi
 ·by_cases bq:i=id
  ·subst bq;rw[aT]at hi;cases hi;exact⟨_,ak _ _ _,rfl,rfl⟩
  ·exact⟨e',by rw[an _ _ bq];exact hi,.refl e'⟩
 ·unfold V;rw[if_neg (by simp[Ty.isAgg])];exact gV
theorem Tr.fix{c:Ctx}{H:Nat→Option aP}{w:World}{M:Nat→Prop}{ν:Nat→Value}(h:Mem c H w M ν){id:Nat}{τ:Ty}{x:τ.den}(aT:H id=some (.obj τ x)):
  ∃M' b,Tr c H w M ν (bm H id (some .gone)) w M' ν∧ν id= .pointer (some ⟨b,0,none⟩)∧b<w.heap.size∧ ¬M' b∧ ∃cs,At w b 0 cs∧Rd w M' τ cs x:=by
 have he:=h.iO id _ aT
 simp only[ER]at he
 obtain⟨b0,cs,t,hv,hb,hM,hr⟩:=he
 have sm:ej (ν id)=some b0:=by rw[hv];rfl
 have hk:di w M w (fun b=>M b∧b≠b0):=⟨Nat.le_refl _,fun _ _ _=>rfl,fun _ _ h=>h.1⟩
 have Er: ¬c.M0 b0:=fun hm=>(h.new id _ b0 aT trivial sm).elim (fun hB=>by have:=h.qg.1 b0 hm;omega) (fun hB=>h.qg.2 b0 hB hm)
 refine⟨fun b=>M b∧b≠b0,b0,⟨⟨fun i e' hi=> ?_,fun i j e1 e2 b nR hi hm hj gD=> ?_,fun i e1 b hi hm=> ?_,fun i e1 l1 b hi=> ?_,CC h.dP (fun _ _ _ _=>by simp),fun b dw=>⟨h.sub b dw,fun e=>Er (e▸dw)⟩,fun b dw=>h.yD b dw.1,h.frame,h.size,h.qg,h.os,h.tape,h.output⟩,hk,⟨fun i e' hi=> ?_,fun _ _=>rfl⟩⟩,hv,lt_of_block hb,fun hm=>hm.2 rfl,cs.toList,?_,hr.bs hk⟩
 ·by_cases bq:i=id
  ·subst bq;rw[ak]at hi;cases hi;simp[ER]
  ·rw[an _ _ bq]at hi
   refine(h.iO i e' hi).bs hk (fun hm b dw=>⟨rfl,?_,?_⟩)
   ·exact(h.iO i e' hi).sP hm dw
   ·intro e
    exact h.vi i id e' (.obj τ x) b bq hi hm aT trivial dw (by rw[sm,e])
 ·by_cases bq:i=id
  ·subst bq;rw[ak]at hi;cases hi;simp[aP.mut]at hm
  ·by_cases Ay:j=id
   ·subst Ay;rw[ak]at hj;cases hj;simp[aP.mut]at gD
   ·rw[an _ _ bq]at hi;rw[an _ _ Ay]at hj;exact h.vi i j e1 e2 b nR hi hm hj gD
 ·by_cases bq:i=id
  ·subst bq;rw[ak]at hi;cases hi;simp[aP.mut]at hm
  ·rw[an _ _ bq]at hi;exact h.new i e1 b hi hm
 ·by_cases bq:i=id
  ·subst bq;rw[ak]at hi;cases hi
  ·rw[an _ _ bq]at hi;exact h.tz i e1 l1 b hi
 ·by_cases bq:i=id
  ·subst bq;rw[aT]at hi;cases hi;exact⟨_,ak _ _ _,trivial⟩
  ·exact⟨e',by rw[an _ _ bq];exact hi,.refl e'⟩
 ·have:=At.of_block hb 0 cs.toList.length
  rwa [List.drop_zero,List.take_length]at this
end VM
end
section
namespace VM
open Go
theorem yE(w:World)(o:Obj):(w.alloc o).heap[w.heap.size]? =some o:=by
 show(w.heap.push o)[w.heap.size]? =some o
 simp
theorem mg(w:World)(o:Obj){i:Nat}(h:i<w.heap.size):(w.alloc o).heap[i]? =w.heap[i]? :=by
 show(w.heap.push o)[i]? =w.heap[i]?
 rw[Array.getElem?_push,if_neg (Nat.ne_of_lt h)]
theorem size_alloc(w:World)(o:Obj):(w.alloc o).heap.size=w.heap.size+1:=by
 show(w.heap.push o).size=_
 simp
def cj(ν:Nat→Value)(d:Nat)(v:Value):Nat→Value:=fun i=>if i=d then v else ν i
theorem mC{c:Ctx}{H:Nat→Option aP}{w w':World}{M:Nat→Prop}{ν ν':Nat→Value}(h:Mem c H w M ν){H':Nat→Option aP}
  (hν: ∀i,H i≠none→ν' i=ν i) (hn: ∀i,H i≠none→H' i≠none)
  (hi: ∀i τ x p j,H' i=some (.dP τ x p j)→(H i=some (.dP τ x p j)∧ ∀b,ν i= .pointer (some ⟨b,0,none⟩)→w'.heap[b]? =w.heap[b]?)∨(H' j≠none∧ ∃b,ν' i= .pointer (some ⟨b,0,none⟩)∧w'.cell? ⟨b,bC p τ,none⟩=some (ν' j))):
  ∀i τ x p j,H' i=some (.dP τ x p j)→H' j≠none∧ ∃b,ν' i= .pointer (some ⟨b,0,none⟩)∧w'.cell? ⟨b,bC p τ,none⟩=some (ν' j):=by
 intro i τ x p j he
 rcases hi i τ x p j he with⟨h1,hb⟩|h1
 ·obtain⟨h2,b,h3,h4⟩:=h.dP i τ x p j h1
  refine⟨hn j h2,b,by rw[hν i (by rw[h1];simp)];exact h3,?_⟩
  rw[hν j h2,World.cell?_of_block (w:=w) (hb b h3)]
  exact h4
 ·exact h1
theorem rA{H:Nat→Option aP}{id:Nat}{v:aP}: ∀i,H i≠none→bm H id (some v) i≠none:=fun _ h=>rz h
theorem tK{H:Nat→Option aP}{id:Nat}{v:aP}(hv: ∀τ x p j,v≠ .dP τ x p j){i:Nat}{τ:Ty}{x:τ.den}{p:List Step}{j:Nat}(h:bm H id (some v) i=some (.dP τ x p j)):H i=some (.dP τ x p j):=by
 by_cases bq:i=id
 ·subst bq;rw[ak]at h;cases h;exact absurd rfl (hv _ _ _ _)
 ·rw[an _ _ bq]at h;exact h
theorem Tr.alloc{c:Ctx}{H:Nat→Option aP}{w:World}{M:Nat→Prop}{ν:Nat→Value}(h:Mem c H w M ν){id:Nat}(aT:H id=none)(o:Obj)(v:Value)(e:aP)(hm:e.mut)(Bo: ∀τ x p j,e≠ .dP τ x p j)
  (hb:ej v=none∨ej v=some w.heap.size) (K5:ER (w.alloc o) (fun b=>M b∨b=w.heap.size) v e):
  Tr c H w M ν (bm H id (some e)) (w.alloc o) (fun b=>M b∨b=w.heap.size) (cj ν id v):=by
 have hk:di w M (w.alloc o) (fun b=>M b∨b=w.heap.size):=
  ⟨by rw[size_alloc];omega,fun b hb _=>mg w o hb,fun b hb h'=>h'.resolve_right (by omega)⟩
 have hν: ∀i,i≠id→cj ν id v i=ν i:=fun i hi=>by simp[cj,hi]
 have xl:cj ν id v id=v:=by simp[cj]
 have dF: ∀i e' b,H i=some e'→e'.mut→ej (ν i)=some b→b<w.heap.size:=fun i e' b hi gD dw=>h.yD b ((h.iO i e' hi).sP gD dw)
 refine⟨⟨fun i e' hi=> ?_,fun i j e1 e2 b nR hi oF hj tL=> ?_,fun i e1 b hi oF=> ?_,fun i e1 l1 b hi=> ?_,mC h (fun i hi=>hν i (fun e=>hi (e▸aT))) rA (fun i τ x p j hi=> .inl ⟨tK Bo hi,fun b hb=>mg w o (dF i _ b (tK Bo hi) trivial (by rw[hb];rfl))⟩),fun b hb=> .inl (h.sub b hb),fun b dw=> ?_,fun b jI so=> ?_,?_,h.qg,h.os,h.tape,h.output⟩,hk,⟨fun i e' hi=> ?_,fun i hi=> ?_⟩⟩
 ·by_cases bq:i=id
  ·subst bq;rw[ak]at hi;cases hi;rw[xl];exact K5
  ·rw[an _ _ bq]at hi;rw[hν i bq]
   exact(h.iO i e' hi).bs hk fun gD b dw=>⟨mg w o (dF i e' b hi gD dw),.inl ((h.iO i e' hi).sP gD dw)⟩
 ·by_cases bq:i=id
  ·subst bq;rw[ak]at hi;cases hi;rw[xl]
   intro jI
   have Ay:j≠i:=Ne.symm nR
   rw[an _ _ Ay]at hj;rw[hν j Ay]
   intro so
   have:=dF j e2 b hj tL so
   rcases hb with hb|hb<;>rw[hb]at jI<;>simp at jI
   omega
  ·rw[an _ _ bq]at hi;rw[hν i bq]
   by_cases Ay:j=id
   ·subst Ay;rw[xl]
    intro jI so
    have:=dF i e1 b hi oF jI
    rcases hb with hb|hb<;>rw[hb]at so<;>simp at so
    omega
   ·rw[an _ _ Ay]at hj;rw[hν j Ay];exact h.vi i j e1 e2 b nR hi oF hj tL
 ·by_cases bq:i=id
  ·subst bq;rw[xl]
   intro jI
   rcases hb with hb|hb<;>rw[hb]at jI<;>simp at jI
   subst jI;exact .inl h.size
  ·rw[an _ _ bq]at hi;rw[hν i bq];exact h.new i e1 b hi oF
 ·by_cases bq:i=id
  ·subst bq;rw[xl]
   intro jI h0
   rcases hb with hb|hb<;>rw[hb]at jI<;>simp at jI
   have:=h.qg.1 b h0
   have:=h.size
   omega
  ·rw[an _ _ bq]at hi;rw[hν i bq];exact h.tz i e1 l1 b hi
 ·rw[size_alloc]
  rcases dw with dw|dw
  ·have:=h.yD b dw;omega
  ·omega
 ·rw[mg w o (Nat.lt_of_lt_of_le jI h.size)];exact h.frame b jI so
 ·rw[size_alloc];have:=h.size;omega
 ·by_cases bq:i=id
  ·subst bq;rw[aT]at hi;cases hi
  ·exact⟨e',by rw[an _ _ bq];exact hi,.refl e'⟩
 ·have bq:i≠id:=fun e=>hi (e▸aT)
  exact hν i bq
theorem Tr.var{c:Ctx}{H:Nat→Option aP}{w:World}{M:Nat→Prop}{ν:Nat→Value}(h:Mem c H w M ν){id:Nat}(aT:H id=none)(t:TypeId){τ:Ty}{cs:Array Value}{x:τ.den}(hr:Rd w M τ cs.toList x):
  Tr c H w M ν (bm H id (some (.obj τ x))) (w.alloc (.cells cs t)) (fun b=>M b∨b=w.heap.size) (cj ν id (.pointer (some ⟨w.heap.size,0,none⟩))):=by
 refine Tr.alloc h aT _ _ _ trivial (fun _ _ _ _=>by simp) (.inr rfl) ?_
 simp only[ER]
 have hk:di w M (w.alloc (.cells cs t)) (fun b=>M b∨b=w.heap.size):=
  ⟨by rw[size_alloc];omega,fun b hb _=>mg w _ hb,fun b hb h'=>h'.resolve_right (by omega)⟩
 exact⟨w.heap.size,cs,t,rfl,yE w _,.inr rfl,hr.bs hk⟩
theorem Tr.row{c:Ctx}{H:Nat→Option aP}{w:World}{M:Nat→Prop}{ν:Nat→Value}(h:Mem c H w M ν){id:Nat}(aT:H id=none)(t:TypeId){e:Ty}{cs:Array Value}{l:List e.den}{cap:Nat}
  (hl:l.length≤cap) (hm:cap≤maxLen) (hs:cs.size=cap*e.size) (hr: ∀i (hi:i<l.length),Rd w M e ((cs.toList.drop (i*e.size)).take e.size) l[i]):
  Tr c H w M ν (bm H id (some (.own e l))) (w.alloc (.cells cs t)) (fun b=>M b∨b=w.heap.size) (cj ν id (.slice (some ⟨w.heap.size,0,none⟩) l.length cap)):=by
 have hk:di w M (w.alloc (.cells cs t)) (fun b=>M b∨b=w.heap.size):=
  ⟨by rw[size_alloc];omega,fun b hb _=>mg w _ hb,fun b hb h'=>h'.resolve_right (by omega)⟩
 refine Tr.alloc h aT _ _ _ trivial (fun _ _ _ _=>by simp) ?_ ?_
 ·simp only[ej];split
  ·exact .inl rfl
  ·exact .inr rfl
 ·simp only[ER]
  by_cases hc:cap=0
  ·subst hc
   have hl0:l=[]:=List.eq_nil_of_length_eq_zero (by omega)
   subst hl0
   exact .inl ⟨rfl,_,rfl⟩
  ·exact .inr ⟨w.heap.size,cs,t,cap,rfl,yE w _,.inr rfl,by omega,hl,hm,hs,fun i hi=>(hr i hi).bs hk⟩
theorem Tr.drew{c:Ctx}{H:Nat→Option aP}{w:World}{M:Nat→Prop}{ν:Nat→Value}(h:Mem c H w M ν):Tr c H w M ν H w.drew M ν:=by
 have hk:di w M w.drew M:=⟨Nat.le_refl _,fun _ _ _=>rfl,fun _ _ h=>h⟩
 exact⟨⟨fun i e he=>(h.iO i e he).bs hk fun hm b hb=>⟨rfl,(h.iO i e he).sP hm hb⟩,h.vi,h.new,h.tz,h.dP,h.sub,h.yD,h.frame,h.size,h.qg,h.os,h.tape,h.output⟩,hk,.refl H ν⟩
theorem size_setRow(w:World)(g:Nat)(cs:Array Value):(w.setRow g cs).heap.size=w.heap.size:=by simp[World.setRow]
theorem Tr.write{c:Ctx}{H:Nat→Option aP}{w:World}{M:Nat→Prop}{ν:Nat→Value}(h:Mem c H w M ν){id:Nat}{e e':aP}(aT:H id=some e)(hm:e.mut)(gD:e'.mut)(hl:e.hO e')
  {b:Nat} (hb:ej (ν id)=some b) {cs new:Array Value} {t:TypeId} (hg:w.heap[b]? =some (.cells cs t (0,0)))
  (K5: ∀M',di w M (w.setRow b new) M'→M' b→ER (w.setRow b new) M' (ν id) e')
  (oG: ∀τ x p j,e'= .dP τ x p j→H j≠none∧ ∃b',ν id= .pointer (some ⟨b',0,none⟩)∧(w.setRow b new).cell? ⟨b',bC p τ,none⟩=some (ν j):=by intro _ _ _ _ h;cases h):
  Tr c H w M ν (bm H id (some e')) (w.setRow b new) M ν:=by
 have YT:M b:=(h.iO id e aT).sP hm hb
 have hk:di w M (w.setRow b new) M:=
  ⟨by rw[size_setRow];exact Nat.le_refl _,fun b' _ hm=>setRow_other w b b' new (fun e=>hm (e▸YT)),fun _ _ h=>h⟩
 refine⟨⟨fun i e1 hi=> ?_,fun i j e1 e2 b1 nR hi oF hj tL=> ?_,fun i e1 b1 hi oF=> ?_,fun i e1 l1 b1 hi=> ?_,mC h (fun _ _=>rfl) rA (fun i τ x p j hi=> ?_),h.sub,fun b1 jI=>by rw[size_setRow];exact h.yD b1 jI,fun b1 jI so=> ?_,by rw[size_setRow];exact h.size,h.qg,h.os,h.tape,h.output⟩,hk,⟨fun i e1 hi=> ?_,fun i hi=>rfl⟩⟩
 ·by_cases bq:i=id
  ·subst bq;rw[ak]at hi;cases hi;exact K5 M hk YT
  ·rw[an _ _ bq]at hi
   exact(h.iO i e1 hi).bs hk fun oF b1 jI=>⟨setRow_other w b b1 new (fun e'=>h.vi i id e1 e b1 bq hi oF aT hm jI (e'▸hb)),(h.iO i e1 hi).sP oF jI⟩
 ·by_cases bq:i=id
  ·subst bq;rw[ak]at hi;cases hi
   have Ay:j≠i:=Ne.symm nR
   rw[an _ _ Ay]at hj
   exact h.vi i j e e2 b1 nR aT hm hj tL
  ·rw[an _ _ bq]at hi
   by_cases Ay:j=id
   ·subst Ay;exact h.vi i j e1 e b1 nR hi oF aT hm
   ·rw[an _ _ Ay]at hj;exact h.vi i j e1 e2 b1 nR hi oF hj tL
 ·by_cases bq:i=id
  ·subst bq;exact h.new i e b1 aT hm
  ·rw[an _ _ bq]at hi;exact h.new i e1 b1 hi oF
 ·by_cases bq:i=id
  ·subst bq;rw[ak]at hi;cases hi
   cases e with
   |own e0 l0=>exact h.tz i e0 l0 b1 aT
   |obj _ _=>simp[aP.hO]at hl
   |dP _ _ _ _=>simp[aP.hO]at hl
   |ku _ _=>simp[aP.mut]at hm
   |gone=>simp[aP.mut]at hm
  ·rw[an _ _ bq]at hi;exact h.tz i e1 l1 b1 hi
 ·by_cases bq:i=id
  ·subst bq;rw[ak]at hi;cases hi
   obtain⟨h1,h2⟩:=oG _ _ _ _ rfl
   exact .inr ⟨rz h1,h2⟩
  ·rw[an _ _ bq]at hi
   exact .inl ⟨hi,fun b1 jI=>setRow_other w b b1 new (fun e1=>h.vi i id _ e b1 bq hi trivial aT hm (by rw[jI];rfl) (e1▸hb))⟩
 ·rw[setRow_other w b b1 new]
  ·exact h.frame b1 jI so
  ·intro hbb;subst hbb
   rcases h.new id e b1 aT hm hb with h'|h'
   ·omega
   ·exact so h'
 ·by_cases bq:i=id
  ·subst bq;rw[aT]at hi;cases hi;exact⟨e',ak _ _ _,hl⟩
  ·exact⟨e1,by rw[an _ _ bq];exact hi,.refl e1⟩
theorem Tr.rename{c:Ctx}{H:Nat→Option aP}{w:World}{M:Nat→Prop}{ν:Nat→Value}(h:Mem c H w M ν){j id:Nat}{e e':Ty}{l:List e.den}{l':List e'.den}(hj:H j=some (.own e l))(aT:H id=none)
  {v:Value} (hb:ej v=none∨ej v=ej (ν j)) (K5:ER w M v (.own e' l')):
  Tr c H w M ν (bm (bm H j (some .gone)) id (some (.own e' l'))) w M (cj ν id v):=by
 have g9:j≠id:=fun e=>by rw[e,aT]at hj;cases hj
 have h1:=(Tr.gone h j).mem
 have lf:bm H j (some .gone) id=none:=by rw[an _ _ (Ne.symm g9)];exact aT
 have hν: ∀i,i≠id→cj ν id v i=ν i:=fun i hi=>by simp[cj,hi]
 have xl:cj ν id v id=v:=by simp[cj]
 refine⟨⟨fun i e1 hi=> ?_,fun i k e1 e2 b1 nR hi oF hk tL=> ?_,fun i e1 b1 hi oF=> ?_,fun i e1 l1 b1 hi=> ?_,mC h1 (fun i hi=>hν i (fun e=>hi (e▸lf))) rA (fun i τ x p j hi=> .inl ⟨tK (fun _ _ _ _=>by simp) hi,fun _ _=>rfl⟩),h.sub,h.yD,h.frame,h.size,h.qg,h.os,h.tape,h.output⟩,.refl w M,⟨fun i e1 hi=> ?_,fun i hi=> ?_⟩⟩
 ·by_cases bq:i=id
  ·subst bq;rw[ak]at hi;cases hi;rw[xl];exact K5
  ·rw[an _ _ bq]at hi;rw[hν i bq];exact h1.iO i e1 hi
 ·by_cases bq:i=id
  ·subst bq;rw[ak]at hi;cases hi;rw[xl]
   have Es:k≠i:=Ne.symm nR
   rw[an _ _ Es]at hk;rw[hν k Es]
   intro jI
   rcases hb with hb|hb
   ·rw[hb]at jI;cases jI
   ·rw[hb]at jI
    by_cases hkj:k=j
    ·subst hkj;rw[ak]at hk;cases hk;simp[aP.mut]at tL
    ·rw[an _ _ hkj]at hk;exact h.vi j k _ e2 b1 (Ne.symm hkj) hj trivial hk tL jI
  ·rw[an _ _ bq]at hi;rw[hν i bq]
   by_cases Es:k=id
   ·subst Es;rw[xl]
    intro jI so
    rcases hb with hb|hb
    ·rw[hb]at so;cases so
    ·rw[hb]at so
     by_cases AI:i=j
     ·subst AI;rw[ak]at hi;cases hi;simp[aP.mut]at oF
     ·rw[an _ _ AI]at hi;exact h.vi j i _ e1 b1 (Ne.symm AI) hj trivial hi oF so jI
   ·rw[an _ _ Es]at hk;rw[hν k Es];exact h1.vi i k e1 e2 b1 nR hi oF hk tL
 ·by_cases bq:i=id
  ·subst bq;rw[xl];intro jI
   rcases hb with hb|hb
   ·rw[hb]at jI;cases jI
   ·rw[hb]at jI;exact h.new j _ b1 hj trivial jI
  ·rw[an _ _ bq]at hi;rw[hν i bq];exact h1.new i e1 b1 hi oF
 ·by_cases bq:i=id
  ·subst bq;rw[xl];intro jI
   rcases hb with hb|hb
   ·rw[hb]at jI;cases jI
   ·rw[hb]at jI;exact h.tz j e l b1 hj jI
  ·rw[an _ _ bq]at hi;rw[hν i bq];exact h1.tz i e1 l1 b1 hi
 ·by_cases AI:i=j
  ·subst AI;exact⟨.gone,by rw[an _ _ g9,ak],by cases e1<;>simp[aP.hO]⟩
  ·have bq:i≠id:=fun e=>by rw[e,aT]at hi;cases hi
   exact⟨e1,by rw[an _ _ bq,an _ _ AI];exact hi,.refl e1⟩
 ·exact hν i (fun e=>hi (e▸aT))
theorem Tr.K6{c:Ctx}{H:Nat→Option aP}{w:World}{M:Nat→Prop}{ν:Nat→Value}(h:Mem c H w M ν){id:Nat}{e e':aP}(aT:H id=some e)(hm:e.mut)(gD:e'.mut)(hl:e.hO e')(qm: ∀e0 l0,e'≠ .own e0 l0)
  (K5:ER w M (ν id) e') (oG: ∀τ x p j,e'= .dP τ x p j→H j≠none∧ ∃b',ν id= .pointer (some ⟨b',0,none⟩)∧w.cell? ⟨b',bC p τ,none⟩=some (ν j)):
  Tr c H w M ν (bm H id (some e')) w M ν:=by
 refine⟨⟨fun i e1 hi=> ?_,fun i j e1 e2 b1 nR hi oF hj tL=> ?_,fun i e1 b1 hi oF=> ?_,fun i e1 l1 b1 hi=> ?_,mC h (fun _ _=>rfl) rA (fun i τ x p j hi=> ?_),h.sub,h.yD,h.frame,h.size,h.qg,h.os,h.tape,h.output⟩,.refl w M,⟨fun i e1 hi=> ?_,fun i hi=>rfl⟩⟩
 ·by_cases bq:i=id
  ·subst bq;rw[ak]at hi;cases hi;exact K5
  ·rw[an _ _ bq]at hi;exact h.iO i e1 hi
 ·by_cases bq:i=id
  ·subst bq;rw[ak]at hi;cases hi
   have Ay:j≠i:=Ne.symm nR
   rw[an _ _ Ay]at hj
   exact h.vi i j e e2 b1 nR aT hm hj tL
  ·rw[an _ _ bq]at hi
   by_cases Ay:j=id
   ·subst Ay;exact h.vi i j e1 e b1 nR hi oF aT hm
   ·rw[an _ _ Ay]at hj;exact h.vi i j e1 e2 b1 nR hi oF hj tL
 ·by_cases bq:i=id
  ·subst bq;exact h.new i e b1 aT hm
  ·rw[an _ _ bq]at hi;exact h.new i e1 b1 hi oF
 ·by_cases bq:i=id
  ·subst bq;rw[ak]at hi;cases hi;exact absurd rfl (qm _ _)
  ·rw[an _ _ bq]at hi;exact h.tz i e1 l1 b1 hi
 ·by_cases bq:i=id
  ·subst bq;rw[ak]at hi;cases hi
   obtain⟨h1,h2⟩:=oG _ _ _ _ rfl
   exact .inr ⟨rz h1,h2⟩
  ·rw[an _ _ bq]at hi;exact .inl ⟨hi,fun _ _=>rfl⟩
 ·by_cases bq:i=id
  ·subst bq;rw[aT]at hi;cases hi;exact⟨e',ak _ _ _,hl⟩
  ·exact⟨e1,by rw[an _ _ bq];exact hi,.refl e1⟩
theorem Tr.nothing{c:Ctx}{w:World}{M:Nat→Prop}{ν:Nat→Value}{H:Nat→Option aP}(h:Mem c H w M ν){id:Nat}(aT:H id=none)(e:Ty)(ad:Option Addr):
  Tr c H w M ν (bm H id (some (.own e []))) w M (cj ν id (.slice ad 0 0)):=by
 have hν: ∀i,i≠id→cj ν id (.slice ad 0 0) i=ν i:=fun i hi=>by simp[cj,hi]
 have xl:cj ν id (.slice ad 0 0) id= .slice ad 0 0:=by simp[cj]
 have hb:ej (.slice ad 0 0)=none:=by cases ad<;>simp[ej]
 refine⟨⟨fun i e1 hi=> ?_,fun i k e1 e2 b1 nR hi oF hk tL=> ?_,fun i e1 b1 hi oF=> ?_,fun i e1 l1 b1 hi=> ?_,mC h (fun i hi=>hν i (fun e=>hi (e▸aT))) rA (fun i τ x p j hi=> .inl ⟨tK (fun _ _ _ _=>by simp) hi,fun _ _=>rfl⟩),h.sub,h.yD,h.frame,h.size,h.qg,h.os,h.tape,h.output⟩,.refl w M,⟨fun i e1 hi=> ?_,fun i hi=>hν i (fun e=>hi (e▸aT))⟩⟩
 ·by_cases bq:i=id
  ·subst bq;rw[ak]at hi;cases hi;rw[xl];simp only[ER];exact .inl ⟨trivial,ad,rfl⟩
  ·rw[an _ _ bq]at hi;rw[hν i bq];exact h.iO i e1 hi
 ·by_cases bq:i=id
  ·subst bq;rw[xl,hb];intro h';cases h'
  ·rw[an _ _ bq]at hi;rw[hν i bq]
   by_cases Es:k=id
   ·subst Es;rw[xl,hb];intro _ h';cases h'
   ·rw[an _ _ Es]at hk;rw[hν k Es];exact h.vi i k e1 e2 b1 nR hi oF hk tL
 ·by_cases bq:i=id
  ·subst bq;rw[xl,hb];intro h';cases h'
  ·rw[an _ _ bq]at hi;rw[hν i bq];exact h.new i e1 b1 hi oF
 ·by_cases bq:i=id
  ·subst bq;rw[xl,hb];intro h';cases h'
  ·rw[an _ _ bq]at hi;rw[hν i bq];exact h.tz i e1 l1 b1 hi
 ·have bq:i≠id:=fun e=>by rw[e,aT]at hi;cases hi
  exact⟨e1,by rw[an _ _ bq];exact hi,.refl e1⟩
end VM
end
section
namespace VM
open Go
theorem a7{α:Type}{υ τ:Ty}{y:υ.den}{k:τ.den→Option α}{r:α}(h:bZ υ τ y k=some r): ∃e:υ=τ,k (e▸y)=some r:=by
 unfold bZ at h
 split at h
 ·rename_i e;exact⟨e,h⟩
 ·cases h
theorem dG{α:Type}{υ τ:Ty}{k:Option α}{r:α}(h:jk υ τ k=some r):υ=τ∧k=some r:=by
 unfold jk at h
 split at h
 ·rename_i e;exact⟨e,h⟩
 ·cases h
theorem V.slice{w:World}{M:Nat→Prop}{e:Ty}{v:Value}{l:List e.den}:V w M (.slice e) v l↔Rd w M (.slice e) [v] l:=by
 unfold V;rw[if_neg (by simp[Ty.isAgg])]
def Fz(H H1:Nat→Option aP):Prop:= ∀i,H1 i=H i∨ ∃e l,H i=some (.own e l)∧H1 i=some (.ku e l)
theorem Fz.refl(H:Nat→Option aP):Fz H H:=fun _=> .inl rfl
theorem Fz.none{H H1:Nat→Option aP}(h:Fz H H1){i:Nat}(hi:H i=none):H1 i=none:=by
 rcases h i with h'|⟨e,l,h',_⟩
 ·rw[h',hi]
 ·rw[hi]at h';cases h'
theorem Fz.obj{H H1:Nat→Option aP}(h:Fz H H1){i:Nat}{τ:Ty}{x:τ.den}(hi:H i=some (.obj τ x)):H1 i=some (.obj τ x):=by
 rcases h i with h'|⟨e,l,h',_⟩
 ·rw[h',hi]
 ·rw[hi]at h';cases h'
theorem vu{H:Nat→Option aP}{id:Nat}{e:Option aP}(h:H id=e):bm H id e=H:=by
 funext i
 by_cases hi:i=id
 ·subst hi;rw[ak,h]
 ·rw[an _ _ hi]
theorem j1{α:Type}{c:Ctx}{H H1:Nat→Option aP}{w:World}{M:Nat→Prop}{ν:Nat→Value}(hz:Fz H H1)(hm:Mem c H1 w M ν){a:aY}{v:Value}(hv:VR w M H1 ν a v){τ:Ty}
  {k:τ.den→List Nat→fl→Option α} {r:α} (h:iC true a H τ k=some r):
  ∃y rd ups M',k y rd ups=some r∧Tr c H1 w M ν (bS H1 ups) w M' ν∧V w M' τ v y∧Fz H (bS H1 ups)∧ ∀i,rd.contains i=false→bS H1 ups i=H1 i:=by
 unfold iC at h
 split at h
 ·
  obtain⟨e,h⟩:=a7 h
  subst e
  simp only[VR]at hv
  exact⟨_,[],[],M,h,.refl hm,hv,hz,fun _ _=>rfl⟩
 ·
  obtain⟨e,h⟩:=a7 h
  subst e
  simp only[VR]at hv
  exact⟨_,[],[],M,h,.refl hm,hv.1,hz,fun _ _=>rfl⟩
 ·
  split at h
  ·rename_i e k' _
   simp only[VR]at hv
   obtain⟨a,rfl⟩:=hv
   refine⟨[],[],[],M,h,.refl hm,V.slice.2 ?_,hz,fun _ _=>rfl⟩
   simp only[Rd]
   exact⟨a,0,rfl,Nat.le_refl _,fun i hi=>absurd hi (by simp)⟩
  ·cases h
 ·rename_i id
  simp only[VR]at hv
  obtain⟨_,rfl⟩:=hv
  split at h
  ·rename_i e l aT
   obtain⟨e',h⟩:=a7 h
   subst e'
   rcases hz id with h1|⟨e1,l1,h1,h2⟩
   ·rw[aT]at h1
    obtain⟨M',eP,hV,_⟩:=Tr.freeze hm h1
    refine⟨_,_,_,M',h,eP,hV,fun i=> ?_,fun i hi=>an _ _ (by simpa using hi)⟩
    show bm H1 id (some (.ku e l)) i=H i∨_
    by_cases hi:i=id
    ·subst hi;exact .inr ⟨e,l,aT,ak _ _ _⟩
    ·rw[an _ _ hi]
     rcases hz i with h'|⟨e2,l2,h2,h3⟩
     ·exact .inl h'
     ·exact .inr ⟨e2,l2,h2,by show bm H1 id _ i=_;rw[an _ _ hi];exact h3⟩
   ·rw[aT]at h1;cases h1
    have:=hm.iO id _ h2
    simp only[ER]at this
    refine⟨_,_,[(id,some (.ku e l))],M,h,?_,V.slice.2 this.1,?_,fun i hi=>an _ _ (by simpa using hi)⟩
    ·show Tr c H1 w M ν (bm H1 id (some (.ku e l))) w M ν
     rw[vu h2];exact .refl hm
    ·show Fz H (bm H1 id (some (.ku e l)))
     rw[vu h2];exact hz
  ·rename_i e l aT
   obtain⟨e',h⟩:=a7 h
   subst e'
   have h1:H1 id=some (.ku e l):=by
    rcases hz id with h1|⟨e1,l1,h1,h2⟩
    ·rw[h1,aT]
    ·rw[aT]at h1;cases h1
   have:=hm.iO id _ h1
   simp only[ER]at this
   exact⟨_,_,_,M,h,.refl hm,V.slice.2 this.1,hz,fun _ _=>rfl⟩
  ·cases h
 ·cases h
def Src(w:World)(M:Nat→Prop)(e:Ty)(v:Value)(l:List e.den):Prop:=
 ∃a cap,v= .slice a l.length cap∧ ∀i (h:i<l.length),∃b off cs,a=some ⟨b,off,none⟩∧At w b (off+i*e.size) cs∧Rd w M e cs l[i]
theorem Src.Q9{w:World}{M:Nat→Prop}{e:Ty}{v:Value}{l:List e.den}(h:V w M (.slice e) v l):Src w M e v l:=by
 have h:=V.slice.1 h
 simp only[Rd,List.cons.injEq,and_true]at h
 obtain⟨a,cap,rfl,_,hr⟩:=h
 refine⟨a,cap,rfl,fun i hi=> ?_⟩
 obtain⟨b,off,ha,_,_,cs,lL,gV⟩:=hr i hi
 exact⟨b,off,cs,ha,lL,gV⟩
theorem wv{α:Type}{c:Ctx}{H:Nat→Option aP}{w:World}{M:Nat→Prop}{ν:Nat→Value}(hm:Mem c H w M ν){a:aY}{v:Value}(hv:VR w M H ν a v){e:Ty}
  {k:List e.den→List Nat→fl→Option α} {r:α} (h:iC false a H (.slice e) k=some r):
  ∃y rd,k y rd []=some r∧Src w M e v y:=by
 unfold iC at h
 split at h
 ·obtain⟨e',h⟩:=a7 h
  subst e'
  simp only[VR]at hv
  exact⟨_,[],h,.Q9 hv⟩
 ·obtain⟨e',h⟩:=a7 h
  subst e'
  simp only[VR]at hv
  exact⟨_,[],h,.Q9 hv.1⟩
 ·have h:k [] [] []=some r:=h
  simp only[VR]at hv
  obtain⟨a,rfl⟩:=hv
  exact⟨[],[],h,a,0,rfl,fun i hi=>absurd hi (by simp)⟩
 ·rename_i id
  simp only[VR]at hv
  obtain⟨_,rfl⟩:=hv
  split at h
  ·rename_i e1 l aT
   obtain⟨e',h⟩:=a7 h
   cases e'
   refine⟨_,_,h,?_⟩
   have:=hm.iO id _ aT
   simp only[ER]at this
   rcases this with⟨rfl,a,hv⟩|⟨b,cs,t,cap,hv,hb,hM,hc,hl,Bn,hs,hr⟩
   ·exact⟨a,0,hv,fun i hi=>absurd hi (by simp)⟩
   ·refine⟨_,cap,hv,fun i hi=>⟨b,0,_,rfl,?_,hr i hi⟩⟩
    rw[Nat.zero_add]
    exact At.of_block hb _ _
  ·rename_i e1 l aT
   obtain⟨e',h⟩:=a7 h
   cases e'
   have:=hm.iO id _ aT
   simp only[ER]at this
   exact⟨_,_,h,.Q9 (V.slice.2 this.1)⟩
  ·cases h
 ·cases h
theorem Src.cells{w:World}{M:Nat→Prop}{e:Ty}{v:Value}{l:List e.den}(h:Src w M e v l)(g9:l≠[]):
  ∃b off cap news,v= .slice (some ⟨b,off,none⟩) l.length cap∧news.length=l.length*e.size∧At w b off news∧
   (∀i (hi:i<l.length),Rd w M e ((news.drop (i*e.size)).take e.size) l[i])∧ ∀u∈news,u.oneCell'=true:=by
 obtain⟨a,cap,rfl,hr⟩:=h
 have h0:0<l.length:=List.length_pos_iff.2 g9
 obtain⟨b,off,_,ha,_⟩:=hr 0 h0
 subst ha
 have key: ∀n,n≤l.length→ ∃news:List Value,news.length=n*e.size∧At w b off news∧
   (∀i (hi:i<l.length),i<n→Rd w M e ((news.drop (i*e.size)).take e.size) l[i])∧ ∀u∈news,u.oneCell'=true:=by
  intro n
  induction n with
  |zero=>exact fun _=>⟨[],by simp,fun j v hj=>by simp at hj,fun i _ hi=>by omega,by simp⟩
  |succ n ih=>
   intro hn
   obtain⟨news,hl,lL,gV,YU⟩:=ih (by omega)
   obtain⟨b',aqn,cs,ha,ajp,K7⟩:=hr n (by omega)
   cases ha
   refine⟨news++cs,by rw[List.length_append,hl,K7.length,Nat.add_mul,Nat.one_mul],At.append.2 ⟨lL,by rw[hl];exact ajp⟩,fun i hi jZ=> ?_,fun u hu=> ?_⟩
   ·by_cases dF:i<n
    ·have h1:(i+1)*e.size≤n*e.size:=Nat.mul_le_mul_right _ dF
     rw[Nat.add_mul,Nat.one_mul]at h1
     rw[List.drop_append_of_le_length (by omega),List.take_append_of_le_length (by rw[List.length_drop];omega)]
     exact gV i hi dF
    ·obtain rfl:i=n:=by omega
     rw[List.drop_left' hl,List.take_of_length_le (by rw[K7.length];exact Nat.le_refl _)]
     exact K7
   ·rcases List.mem_append.1 hu with hu|hu
    ·exact YU u hu
    ·exact K7.kv u hu
 obtain⟨news,hl,lL,gV,YU⟩:=key l.length (Nat.le_refl _)
 exact⟨b,off,cap,news,rfl,hl,lL,fun i hi=>gV i hi hi,YU⟩
structure Core(c:Ctx)(σ:St)(tm:Array Value)(w:World)(M:Nat→Prop)(ν:Nat→Value):Prop where
 mem:Mem c σ.H w M ν
 tmp: ∀i,VR w M σ.H ν (σ.T i) (tm.getD i undef)
theorem K8(w:World)(M:Nat→Prop)(H:Nat→Option aP)(ν:Nat→Value)(v:Value):VR w M H ν (cvA v) v:=by
 unfold cvA
 split<;>simp[VR,V,Ty.isAgg,Rd]
theorem Core.op{c:Ctx}{σ:St}{tm:Array Value}{w:World}{M:Nat→Prop}{ν:Nat→Value}(h:Core c σ tm w M ν)(ds:List Deferred)(x:Operand):
  VR w M σ.H ν (σ.ρ x) (({tmps:=tm,defers:=ds}:Act).eval x):=by
 cases x with
 |tmp t=>exact h.tmp t
 |const v=>exact K8 w M σ.H ν v
 |global g=>simp[St.ρ,VR]
 |func f=>simp[St.ρ,VR,fF,Act.eval]
def adO(P:Program)(t:TypeId)(τ:Ty):Prop:=
 ∀(w:World) (M:Nat→Prop) (u v:Value) (x y:τ.den) (b:BinOp) (xo yo:Operand),V w M τ u x→V w M τ v y→
  (eqGuard b t xo yo u v).run P w= .ok () w∧(binOp .eql t u v).run P w= .ok (.bool (la τ x y)) w∧(binOp .neq t u v).run P w= .ok (.bool (!la τ x y)) w
structure EnvTy(P:Program)(E:Env):Prop where
 ty: ∀t τ,E.ty t=some τ→gA P τ t
 eq: ∀t τ,E.ty t=some τ→τ.comparable=true→τ.isAgg=true→adO P t τ
end VM
end
section
namespace VM
open Go
variable{P:Program}
theorem tM{o:Oper}{ρ:Operand→Value}{t:TypeId}{i:TypeInfo}{z:Value}(ho:o.op= .alloc t)(hi:P.info? t=some i)(hz:i.zero=some z)(w:World):
  (execOp ρ o).run P w= .ok (.value (.pointer (some ⟨w.heap.size,0,none⟩))) (w.alloc (.cells z.cells t)):=by
 simp[execOp,ho,Instr.alloc,zeroValue,typeInfo,hi,hz,newVar,newRow]
theorem yF{o:Oper}{ρ:Operand→Value}{t:TypeId}{x:Operand}(ho:o.op= .box t x)(w:World):
  (execOp ρ o).run P w= .ok (.value (.pointer (some ⟨w.heap.size,0,none⟩))) (w.alloc (.cells (ρ x).cells t)):=by
 simp[execOp,ho,Instr.box,newVar,newRow]
theorem oH{τ:Ty}{t:TypeId}(h:gA P τ t)(w:World):(isAgg t).run P w= .ok τ.isAgg w:=by
 unfold gA at h
 cases τ<;>simp only[dC]at h
 ·simp[isAgg,run_underlying h.2,Ty.isAgg]
 ·simp[isAgg,run_underlying h.2,Ty.isAgg]
 ·simp[isAgg,run_underlying h.2,Ty.isAgg]
 ·obtain⟨_,e',h',_⟩:=h;simp[isAgg,run_underlying h',Ty.isAgg]
 ·obtain⟨_,e',h',_⟩:=h;simp[isAgg,run_underlying h',Ty.isAgg]
 ·obtain⟨_,e',f,h',_⟩:=h;simp[isAgg,run_underlying h',Ty.isAgg]
 ·obtain⟨_,e',h',_⟩:=h;simp[isAgg,run_underlying h',Ty.isAgg]
theorem b7{τ:Ty}{t:TypeId}(h:gA P τ t)(w:World):(Go.sizeOf t).run P w= .ok τ.size w:=by
 obtain⟨i,hi,hs,_⟩:=h.base
 simp[Go.sizeOf,typeInfo,hi,hs]
theorem wx{w:World}{M:Nat→Prop}{τ:Ty}{t:TypeId}(h:gA P τ t){b off:Nat}{cs:List Value}{x:τ.den}(ha:At w b off cs)(hr:Rd w M τ cs x):
  (loadVar t ⟨b,off,none⟩).run P w= .ok (bF τ cs) w:=by
 have hl:(loadCells ⟨b,off,none⟩ τ.size).run P w= .ok cs.toArray w:=by
  rw[←hr.length]
  exact run_loadCells_list w _ cs fun j v hj=>by rw[show(⟨b,off,none⟩:Addr).add j=⟨b,off+j,none⟩from by unfold Addr.add;split<;>simp_all];exact ha j v hj
 unfold bF
 by_cases Et:τ.isAgg=true
 ·simp[loadVar,oH h,Et,b7 h,hl]
 ·obtain⟨v,rfl,hc⟩:=hr.scalar (by simpa using Et)
  have h0:=ha 0 v rfl
  simp only[Nat.add_zero]at h0
  simp[loadVar,oH h,Et,load,Sem.run,h0]
theorem qz{o:Oper}{ρ:Operand→Value}{t:TypeId}{x:Operand}(ho:o.op= .load t x){w:World}{M:Nat→Prop}{τ:Ty}(h:gA P τ t){b off:Nat}{cs:List Value}{y:τ.den}
  (hx:ρ x= .pointer (some ⟨b,off,none⟩)) (ha:At w b off cs) (hr:Rd w M τ cs y):
  (execOp ρ o).run P w= .ok (.value (bF τ cs)) w:=by
 simp[execOp,ho,hx,Instr.loadAt,Instr.sureAddr,wx h ha hr]
theorem jm{o:Oper}{ρ:Operand→Value}{t:TypeId}{x y:Operand}(ho:o.op= .store t x y){w:World}{τ:Ty}(h:gA P τ t){b off:Nat}{cur:Array Value}{te:TypeId}
  (hx:ρ x= .pointer (some ⟨b,off,none⟩)) (hg:w.heap[b]? =some (.cells cur te (0,0))) (hs:(ρ y).cells.size=τ.size) (hf:off+τ.size≤cur.size) (h1: ∀v∈(ρ y).cells.toList,v.oneCell'=true):
  (execOp ρ o).run P w= .ok .skip (w.setRow b (cur.toList.take off++(ρ y).cells.toList++cur.toList.drop (off+(ρ y).cells.toList.length)).toArray):=by
 have HO:=run_storeCells_at (P:=P) b off te (ρ y).cells.toList 0 cur w hg (by simp[hs];omega) h1
 simp only[Nat.add_zero]at HO
 simp[execOp,ho,hx,Instr.storeAt,Instr.sureAddr,storeVar,b7 h,hs,HO]
theorem oI{o:Oper}{ρ:Operand→Value}{t:TypeId}{x:Operand}{n:Nat}(ho:o.op= .fieldAddr t x n){w:World}{fs:Array Field}{f:Field}{b off:Nat}{υ:Ty}
  (hu:P.underlying t=some (.struct fs)) (hf:fs[n]? =some f) (hl:gA P υ f.type) (hz:υ.size≠0) (hx:ρ x= .pointer (some ⟨b,off,none⟩)):
  ∃a,(execOp ρ o).run P w= .ok (.value a) w∧a= .pointer (some ⟨b,off+f.offset,none⟩):=by
 refine⟨_,?_,rfl⟩
 simp[execOp,ho,hx,Instr.fieldAt,Instr.sureAddr,run_underlying hu,hf,fieldPlace,Addr.add_lit,b7 hl,hz]
theorem tN{τ:Ty}{t:TypeId}(h:gA P τ t){w:World}{M:Nat→Prop}{cs:Array Value}{off:Nat}{x:τ.den}(hr:Rd w M τ ((cs.toList.drop off).take τ.size) x):
  (part t cs off).run P w= .ok (bF τ ((cs.toList.drop off).take τ.size)) w:=by
 have hl:=hr.length
 unfold bF
 by_cases Et:τ.isAgg=true
 ·simp only[part,Sem.run_bind,oH h,Result.andThen_ok,Et,if_true,b7 h]
  simp
  rw[List.length_take,List.length_drop,Array.length_toList]at hl
  apply Array.ext'
  simp only[Array.toList_extract,List.extract_eq_take_drop,Nat.add_sub_cancel_left]
 ·obtain⟨v,hv,hc⟩:=hr.scalar (by simpa using Et)
  rw[hv]
  have h0:cs[off]? =some v:=by
   have:=congrArg (fun l=>l[0]?) hv
   simp only[List.getElem?_take,List.getElem?_drop]at this
   split at this
   ·simpa using this
   ·simp at this
  simp[part,oH h,Et,h0]
theorem CD{o:Oper}{ρ:Operand→Value}{t:TypeId}{x:Operand}{n:Nat}(ho:o.op= .field t x n){w:World}{M:Nat→Prop}{fs:Array Field}{f:Field}{cs:Array Value}{υ:Ty}{y:υ.den}
  (hu:P.underlying t=some (.struct fs)) (hf:fs[n]? =some f) (hl:gA P υ f.type) (hx:ρ x= .agg cs) (hr:Rd w M υ ((cs.toList.drop f.offset).take υ.size) y):
  (execOp ρ o).run P w= .ok (.value (bF υ ((cs.toList.drop f.offset).take υ.size))) w:=by
 simp[execOp,ho,hx,Instr.field,run_underlying hu,hf,asAgg,tN hl hr]
theorem gY{o:Oper}{ρ:Operand→Value}{t e:TypeId}{x i:Operand}(ho:o.op= .indexAddr t x i){w:World}{τe:Ty}{b off len cap:Nat}{k:IntKind}{n:Int}
  (hu:P.underlying t=some (.slice e)) (he:gA P τe e) (hx:ρ x= .slice (some ⟨b,off,none⟩) len cap) (hi:ρ i= .int k n) (h0:0≤n) (h1:n<(len:Int)):
  (execOp ρ o).run P w= .ok (.value (.pointer (some ⟨b,off+n.toNat*τe.size,none⟩))) w:=by
 simp[execOp,ho,hx,hi,Instr.indexAt,asIntOf,run_underlying hu,h0,h1,b7 he,Addr.add_lit]
theorem nS{o:Oper}{ρ:Operand→Value}{t e:TypeId}{x i:Operand}(ho:o.op= .indexAddr t x i){w:World}{τe:Ty}{b off len:Nat}{k:IntKind}{n:Int}
  (hu:P.underlying t=some (.array len e)) (he:gA P τe e) (hx:ρ x= .pointer (some ⟨b,off,none⟩)) (hi:ρ i= .int k n) (h0:0≤n) (h1:n<(len:Int)):
  (execOp ρ o).run P w= .ok (.value (.pointer (some ⟨b,off+n.toNat*τe.size,none⟩))) w:=by
 simp[execOp,ho,hx,hi,Instr.indexAt,Instr.sureAddr,asIntOf,run_underlying hu,h0,h1,b7 he,Addr.add_lit]
theorem AJ{o:Oper}{ρ:Operand→Value}{t e:TypeId}{x i:Operand}(ho:o.op= .index t x i){w:World}{M:Nat→Prop}{τe:Ty}{len:Nat}{k:IntKind}{n:Int}{cs:Array Value}{y:τe.den}
  (hu:P.underlying t=some (.array len e)) (he:gA P τe e) (hx:ρ x= .agg cs) (hi:ρ i= .int k n) (h0:0≤n) (h1:n<(len:Int)) (hr:Rd w M τe ((cs.toList.drop (n.toNat*τe.size)).take τe.size) y):
  (execOp ρ o).run P w= .ok (.value (bF τe ((cs.toList.drop (n.toNat*τe.size)).take τe.size))) w:=by
 simp[execOp,ho,hx,hi,Instr.index,asIntOf,run_underlying hu,h0,h1,b7 he,tN he hr]
theorem yG{o:Oper}{ρ:Operand→Value}{x:Operand}{n:Nat}(ho:o.op= .extract x n){w:World}{us:List Value}{v:Value}(hx:ρ x= .tuple us.toArray)(hv:us[n]? =some v):
  (execOp ρ o).run P w= .ok (.value v) w:=by
 simp[execOp,ho,hx,Instr.extract,hv]
theorem Eu{o:Oper}{ρ:Operand→Value}{x y z:Operand}(ho:o.op= .pick x y z){w:World}{b:Bool}(hx:ρ x= .bool b):
  (execOp ρ o).run P w= .ok (.value (if b then ρ y else ρ z)) w:=by
 simp[execOp,ho,hx,asBool]
theorem pZ{o:Oper}{ρ:Operand→Value}{x:Operand}(ho:o.op= .nilCheck x){w:World}{a:Addr}(hx:ρ x= .pointer (some a)):
  (execOp ρ o).run P w= .ok (.value (.pointer (some a))) w:=by
 simp[execOp,ho,hx]
theorem xm{o:Oper}{ρ:Operand→Value}{f:FuncId}{first caps:Array Operand}(ho:o.op= .makeFunc (.func f) first caps)(hf:first= #[]){w:World}:
  (execOp ρ o).run P w= .ok (.value (.func (.func f) #[] (caps.map ρ))) w:=by
 subst hf
 simp[execOp,ho,Instr.makeFunc]
theorem yH{o:Oper}{ρ:Operand→Value}{s d:TypeId}{x:Operand}(ho:o.op= .convert s d x){w:World}{k k':IntKind}{n:Int}(hs:(P.underlying s).isSome=true)(hd:P.underlying d=some (.int k))(hx:ρ x= .int k' n):
  (execOp ρ o).run P w= .ok (.value (.int k (k.wrap n))) w:=by
 obtain⟨ds,hs⟩:=Option.isSome_iff_exists.1 hs
 simp[execOp,ho,hx,convert,run_underlying hs,run_underlying hd,Conv.intToInt]
theorem qA{o:Oper}{ρ:Operand→Value}{u:UnOp}{t:TypeId}{x:Operand}(ho:o.op= .unOp u t x){w:World}{v:Value}(h:(Op.unary u (ρ x)).run P w= .ok v w):
  (execOp ρ o).run P w= .ok (.value v) w:=by
 simp[execOp,ho,h]
theorem lM{o:Oper}{ρ:Operand→Value}{b:BinOp}{t t':TypeId}{x y:Operand}(ho:o.op= .binOp b t x y t'){w:World}{v:Value}
  (hg:(eqGuard b t x y (ρ x) (ρ y)).run P w= .ok () w) (h:(binOp b t (ρ x) (ρ y)).run P w= .ok v w):
  (execOp ρ o).run P w= .ok (.value v) w:=by
 simp[execOp,ho,hg,h]
theorem lh{b:BinOp}{t:TypeId}{x y:Operand}{k k':IntKind}{m n:Int}(w:World):(eqGuard b t x y (.int k m) (.int k' n)).run P w= .ok () w:=by
 cases b<;>simp[eqGuard]
theorem vv{b:BinOp}{t:TypeId}{x y:Operand}{m n:Bool}(w:World):(eqGuard b t x y (.bool m) (.bool n)).run P w= .ok () w:=by
 cases b<;>simp[eqGuard]
theorem xn{b:BinOp}{t:TypeId}{x y:Operand}{m n:ByteArray}(w:World):(eqGuard b t x y (.string m) (.string n)).run P w= .ok () w:=by
 cases b<;>simp[eqGuard]
theorem mD{o:Oper}{ρ:Operand→Value}{b:Builtin}{args:Array Operand}{ts:Array TypeId}(ho:o.op= .call {callee:= .builtin b,args,argTypes:=ts}){w:World}:
  ∃cs,(execOp ρ o).run P w=(builtin b ts o.type cs (args.map ρ)).run P w:=by
 refine⟨args.map fun| .const _=>true|_=>false,?_⟩
 simp[execOp,ho,resolve,invoke]
 rfl
end VM
end
section
namespace VM
open Go
theorem nT{α:Type}{r:α}: ∀{τ:Ty} {x:τ.den} {n:Nat} {m:(υ:Ty)→υ.den→(υ.den→Option α)→Option α} {k:τ.den→Option α},jj τ x n m k=some r→
  ∃υ y o k',xj τ x n υ y o∧m υ y k'=some r∧ ∀z r',k' z=some r'→ ∃x',k x'=some r'∧xj τ x' n υ z o∧
   ∀(w:World) (M:Nat→Prop) cs cs',Rd w M τ cs x→Rd w M υ cs' z→Rd w M τ (dj cs o cs') x'
 | .pair a b,x,0,m,k,h=>by
  refine⟨a,x.1,0,_,.here x,h,fun z r' hz=>⟨(z,x.2),hz,.here (a:=a) (b:=b) (z,x.2),fun w M cs cs' hr dx=> ?_⟩⟩
  simp only[Rd]at hr ⊢
  obtain⟨c1,c2,rfl,h1,h2⟩:=hr
  refine⟨cs',c2,?_,dx,h2⟩
  rw[tJ (by rw[dx.length,h1.length];omega)]
  congr 1
  unfold dj
  rw[Nat.zero_add,dx.length,←h1.length];simp
 | .pair a b,x,n+1,m,k,h=>by
  obtain⟨υ,y,o,k',hf,hm,hk⟩:=nT (τ:=b) (x:=x.2) (n:=n) (m:=m) (k:=fun z=>k (x.1,z)) h
  refine⟨υ,y,_,k',.there x hf,hm,fun z r' hz=> ?_⟩
  obtain⟨x',nC,xk,gV⟩:=hk z r' hz
  refine⟨(x.1,x'),nC,.there (a:=a) (b:=b) (x.1,x') xk,fun w M cs cs' hr dx=> ?_⟩
  simp only[Rd]at hr ⊢
  obtain⟨c1,c2,rfl,h1,h2⟩:=hr
  refine⟨c1,_,?_,h1,gV w M c2 cs' h2 dx⟩
  rw[←h1.length,ry]
 | .int _,_,_,_,_,h| .bool,_,_,_,_,h| .str,_,_,_,_,h| .slice _,_,_,_,_,h| .unit,_,_,_,_,h| .arr _ _,_,_,_,_,h=>by simp[jj]at h
def mE(w:World)(M:Nat→Prop)(e:Ty)(cs:List Value)(l:List e.den):Prop:=
 ∀i (h:i<l.length),Rd w M e ((cs.drop (i*e.size)).take e.size) l[i]
theorem cS{i n s:Nat}(h:i<n):i*s+s≤n*s:=by
 have:(i+1)*s≤n*s:=Nat.mul_le_mul_right _ h
 rw[Nat.add_mul,Nat.one_mul]at this;exact this
theorem mE.set{w:World}{M:Nat→Prop}{e:Ty}{cs:List Value}{l:List e.den}(h:mE w M e cs l)(hl:l.length*e.size≤cs.length){i:Nat}(hi:i<l.length){cs':List Value}{y:e.den}(hr:Rd w M e cs' y):
  mE w M e (dj cs (i*e.size) cs') (l.set i y):=by
 have hlen:=hr.length
 intro j hj
 rw[List.length_set]at hj
 have h1:=cS (s:=e.size) hi
 have h2:=cS (s:=e.size) hj
 by_cases nR:j=i
 ·subst nR
  have:=YS (a:=cs) (o:=j*e.size) (new:=cs') (by omega)
  rw[hlen]at this
  rw[this,List.getElem_set_self];exact hr
 ·rw[CB (by
   rcases Nat.lt_or_gt_of_ne nR with dF|dF
   ·have:=cS (s:=e.size) dF;left;omega
   ·have:=cS (s:=e.size) dF;right;omega) (by omega),List.getElem_set_ne (Ne.symm nR)]
  exact h j hj
theorem mE.append{w:World}{M:Nat→Prop}{e:Ty}{c1 c2:List Value}{l1 l2:List e.den}(h1:mE w M e c1 l1)(hl:c1.length=l1.length*e.size)(h2:mE w M e c2 l2):mE w M e (c1++c2) (l1++l2):=by
 intro i hi
 by_cases dF:i<l1.length
 ·have:=cS (s:=e.size) dF
  rw[List.drop_append_of_le_length (by omega),List.take_append_of_le_length (by rw[List.length_drop];omega),List.getElem_append_left dF]
  exact h1 i dF
 ·rw[List.length_append]at hi
  obtain⟨k,rfl⟩: ∃k,i=l1.length+k:=⟨i-l1.length,by omega⟩
  rw[Nat.add_mul,←hl,←List.drop_drop,List.drop_left' rfl,List.getElem_append_right (by omega)]
  simp only[Nat.add_sub_cancel_left]
  exact h2 k (by omega)
theorem mE.take{w:World}{M:Nat→Prop}{e:Ty}{cs:List Value}{l:List e.den}(h:mE w M e cs l){n:Nat}(hn:l.length*e.size≤n):mE w M e (cs.take n) l:=by
 intro i hi
 have:=cS (s:=e.size) hi
 rw[List.drop_take,List.take_take,Nat.min_eq_left (by omega)]
 exact h i hi
theorem mE.more{w:World}{M:Nat→Prop}{e:Ty}{cs cs':List Value}{l:List e.den}(h:mE w M e cs l)(hl:l.length*e.size≤cs.length):mE w M e (cs++cs') l:=by
 intro i hi
 have:=cS (s:=e.size) hi
 rw[List.drop_append_of_le_length (by omega),List.take_append_of_le_length (by rw[List.length_drop];omega)]
 exact h i hi
theorem mE.bs{w w':World}{M M':Nat→Prop}(k:di w M w' M'){e:Ty}{cs:List Value}{l:List e.den}(h:mE w M e cs l):mE w' M' e cs l:=fun i hi=>(h i hi).bs k
theorem Rd.arr{w:World}{M:Nat→Prop}{n:Nat}{e:Ty}{cs:List Value}{x:(Ty.arr n e).den}:Rd w M (.arr n e) cs x↔List.length x=n∧cs.length=n*e.size∧mE w M e cs x:=by
 constructor
 ·intro h
  have hl:=h.length
  have h':=h
  simp only[Rd]at h'
  refine⟨h'.1,hl,fun i hi=> ?_⟩
  have:=h.idx (i:=i) (by omega)
  rw[gB x i e.zero hi]at this
  exact this
 ·rintro⟨hn,hl,hr⟩
  simp only[Rd]
  refine⟨hn,(List.range n).map fun i=>(cs.drop (i*e.size)).take e.size,by simp,?_,fun i hi iF=> ?_⟩
  ·
   have key: ∀m (l:List Value),l.length=m*e.size→l=((List.range m).map fun i=>(l.drop (i*e.size)).take e.size).flatten:=by
    intro m
    induction m with
    |zero=>intro l hl;simpa using hl
    |succ m ih=>
     intro l hl
     have h1:(l.take (m*e.size)).length=m*e.size:=by rw[List.length_take,hl,Nat.add_mul];omega
     have h2:=ih (l.take (m*e.size)) h1
     rw[List.range_succ,List.map_append,List.flatten_append]
     have h3:((List.range m).map fun i=>(l.drop (i*e.size)).take e.size)=(List.range m).map fun i=>((l.take (m*e.size)).drop (i*e.size)).take e.size:=by
      apply List.map_congr_left
      intro i hi
      have:=cS (s:=e.size) (List.mem_range.1 hi)
      rw[List.drop_take,List.take_take,Nat.min_eq_left (by omega)]
     rw[h3,←h2]
     simp only[List.map_cons,List.map_nil,List.flatten_cons,List.flatten_nil,List.append_nil]
     rw[List.take_of_length_le (l:=l.drop (m*e.size)) (by rw[List.length_drop,hl,Nat.add_mul];omega),List.take_append_drop]
   exact key n cs hl
  ·simp only[List.getElem_map,List.getElem_range]
   exact hr i hi
theorem kF{α:Type}{r:α}{υ:Ty}{y:υ.den}: ∀{p:List Step} {τ:Ty} {x:τ.den} {k:τ.den→Option α},qb υ y p τ x k=some r→
  ∃z,k z=some r∧AG p τ=υ∧(sl p τ→bC p τ+υ.size≤τ.size)∧ ∀(w:World) (M:Nat→Prop) cs cs',sl p τ→Rd w M τ cs x→Rd w M υ cs' y→Rd w M τ (dj cs (bC p τ) cs') z
 |[],τ,x,k,h=>by
  obtain⟨e,h⟩:=a7 (h:bZ υ τ y k=some r)
  subst e
  refine⟨y,h,rfl,fun _=>by simp[bC],fun w M cs cs' _ hr dx=> ?_⟩
  unfold dj
  rw[show bC [] υ=0 from rfl,Nat.zero_add,dx.length,←hr.length]
  simpa using dx
 | .gw n::p,τ,x,k,h=>by
  obtain⟨υ',y',o,k',hf,hm,hk⟩:=nT (h:jj τ x n _ k=some r)
  obtain⟨z',Az,ht,AA,gV⟩:=kF (p:=p) (τ:=υ') (x:=y') (k:=k') hm
  obtain⟨x',nC,xk,K7⟩:=hk z' r Az
  obtain⟨h1,h2⟩:=hf.eq
  subst h1 h2
  refine⟨x',nC,ht,fun hi=>by have:=hf.bound;have:=AA hi;simp only[bC];omega,fun w M cs cs' hi hr dx=> ?_⟩
  have AA:=AA hi
  have h3:=gV w M _ cs' hi (hf.rd hr) dx
  have h4:=K7 w M cs _ hr h3
  have hb:=hf.bound
  have Ra:=hr.length
  have hl2:=dx.length
  have QI:=h3.length
  have jZ:bC p (qf τ n)+cs'.length≤((cs.drop (nB τ n)).take (qf τ n).size).length:=by
   rw[List.length_take,List.length_drop];omega
  have:dj cs (nB τ n) (dj ((cs.drop (nB τ n)).take (qf τ n).size) (bC p (qf τ n)) cs')=dj cs (nB τ n+bC p (qf τ n)) cs':=by
   have e1:cs=cs.take (nB τ n)++(((cs.drop (nB τ n)).take (qf τ n).size)++cs.drop (nB τ n+(qf τ n).size)):=by
    rw[←List.drop_drop,List.take_append_drop,List.take_append_drop]
   have dF:(cs.take (nB τ n)).length=nB τ n:=by rw[List.length_take];omega
   conv=>rhs;rw[e1]
   rw[show nB τ n+bC p (qf τ n)=(cs.take (nB τ n)).length+bC p (qf τ n)from by rw[dF],ry,tJ jZ]
   generalize dj ((cs.drop (nB τ n)).take (qf τ n).size) (bC p (qf τ n)) cs'=m at QI ⊢
   unfold dj
   rw[QI,List.append_assoc]
  simp only[bC]
  rw[←this]
  exact h4
 | .idx i::p,τ,x,k,h=>by
  cases τ with
  |arr n e=>
   obtain⟨z',Az,ht,AA,gV⟩:=kF (p:=p) (τ:=e) (x:=List.getD x i e.zero) (k:=fun z=>k (List.set x i z)) h
   refine⟨_,Az,ht,fun hi=>by
    obtain⟨⟨n',e',he,jZ⟩,iF⟩:=hi
    cases he
    have:=AA iF
    have hm:=cS (s:=e.size) jZ
    simp only[bC,YQ,Ty.size];omega,fun w M cs cs' hi hr dx=> ?_⟩
   obtain⟨⟨n',e',he,jZ⟩,iF⟩:=hi
   cases he
   have h3:=gV w M _ cs' iF (hr.idx jZ) dx
   obtain⟨hn,Ra,HQ⟩:=Rd.arr.1 hr
   have hm:=cS (s:=e.size) jZ
   have h4:=HQ.set (by rw[Ra,hn];exact Nat.le_refl _) (i:=i) (by omega) h3
   have hl2:=dx.length
   have QI:=h3.length
   have hch:((cs.drop (i*e.size)).take e.size).length=e.size:=by rw[List.length_take,List.length_drop];omega
   have AA:=AA iF
   have ajq:bC p e+cs'.length≤((cs.drop (i*e.size)).take e.size).length:=by omega
   have:dj cs (i*e.size) (dj ((cs.drop (i*e.size)).take e.size) (bC p e) cs')=dj cs (i*e.size+bC p e) cs':=by
    have e1:cs=cs.take (i*e.size)++(((cs.drop (i*e.size)).take e.size)++cs.drop (i*e.size+e.size)):=by
     rw[←List.drop_drop,List.take_append_drop,List.take_append_drop]
    have dF:(cs.take (i*e.size)).length=i*e.size:=by rw[List.length_take];omega
    conv=>rhs;rw[e1]
    rw[show i*e.size+bC p e=(cs.take (i*e.size)).length+bC p e from by rw[dF],ry,tJ ajq]
    generalize dj ((cs.drop (i*e.size)).take e.size) (bC p e) cs'=m at QI ⊢
    unfold dj
    rw[QI,List.append_assoc]
   simp only[bC,YQ]
   rw[←this]
   refine Rd.arr.2 ⟨by rw[List.length_set];exact hn,?_,h4⟩
   rw[ec (by rw[QI];omega)];exact Ra
  |_=>simp[qb,xV]at h
end VM
end
