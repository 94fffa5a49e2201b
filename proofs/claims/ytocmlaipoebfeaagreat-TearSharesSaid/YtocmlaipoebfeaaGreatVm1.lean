/- A part of the proof of TearShares of layer 29: a machine that reads a function of the program as an equation between values. -/
import Derived.Test.YtocmlaipoebfeaaGreatVm0
import Derived.WalkLawsBesides
import Derived.Great.BuildSlice
import Derived.Laws.Tables
set_option linter.all false
section
namespace VM
open Go
structure Ctx where
 B:Nat
 w0:World
 M0:Nat→Prop
 may:Nat→Prop
 arg:Nat→Value
structure Mem(c:Ctx)(H:Nat→Option aQ)(w:World)(M:Nat→Prop)(ν:Nat→Value):Prop where
 iN: ∀i e,H i=some e→ER w M (ν i) e
 u7: ∀i j e e' b,i≠j→H i=some e→e.mut→H j=some e'→e'.mut→ed (ν i)=some b→ed (ν j)≠some b
 new: ∀i e b,H i=some e→e.mut→ed (ν i)=some b→c.B≤b∨c.may b
 tu: ∀i e l b,H i=some (.own e l)→ed (ν i)=some b→ ¬c.M0 b
 dO: ∀i τ x p j,H i=some (.dO τ x p j)→H j≠none∧ ∃b,ν i= .pointer (some ⟨b,0,none⟩)∧w.cell? ⟨b,bC p τ,none⟩=some (ν j)
 sub: ∀b,c.M0 b→M b
 yz: ∀b,M b→b<w.heap.size
 frame: ∀b,b<c.B→ ¬c.may b→w.heap[b]? =c.w0.heap[b]?
 size:c.B≤w.heap.size
 qn:(∀b,c.M0 b→b<c.B)∧ ∀b,c.may b→ ¬c.M0 b
 os:w.os=c.w0.os
 tape:w.tape=c.w0.tape
 output:w.output=c.w0.output
structure Tr(c:Ctx)(H:Nat→Option aQ)(w:World)(M:Nat→Prop)(ν:Nat→Value)(H':Nat→Option aQ)(w':World)(M':Nat→Prop)(ν':Nat→Value):Prop where
 mem:Mem c H' w' M' ν'
 bt:df w M w' M'
 goes:n7 H ν H' ν'
theorem aQ.hO.trans{a b d:aQ}(h:a.hO b)(k:b.hO d):a.hO d:=by
 cases a<;>cases b<;>cases d<;>simp only[aQ.hO]at h k ⊢ <;>first
  |exact h.trans k
  |exact⟨h.1.trans k.1,h.2.trans k.2⟩
theorem n7.trans{H H' H'':Nat→Option aQ}{ν ν' ν'':Nat→Value}(h:n7 H ν H' ν')(k:n7 H' ν' H'' ν''):n7 H ν H'' ν'':=by
 refine⟨fun i e he=> ?_,fun i hi=> ?_⟩
 ·obtain⟨e',sF,l⟩:=h.iN i e he
  obtain⟨e'',ai8,l'⟩:=k.iN i e' sF
  exact⟨e'',ai8,l.trans l'⟩
 ·obtain⟨e,he⟩:=awx.1 hi
  obtain⟨e',sF,_⟩:=h.iN i e he
  rw[k.head i (by simp[sF]),h.head i hi]
theorem Tr.trans{c:Ctx}{H H' H'':Nat→Option aQ}{w w' w'':World}{M M' Hp:Nat→Prop}{ν ν' ν'':Nat→Value}
  (h:Tr c H w M ν H' w' M' ν') (k:Tr c H' w' M' ν' H'' w'' Hp ν''):Tr c H w M ν H'' w'' Hp ν'':=
 ⟨k.mem,h.bt.trans k.bt,h.goes.trans k.goes⟩
theorem Tr.refl{c:Ctx}{H:Nat→Option aQ}{w:World}{M:Nat→Prop}{ν:Nat→Value}(h:Mem c H w M ν):Tr c H w M ν H w M ν:=
 ⟨h,.refl w M,.refl H ν⟩
theorem ak(H:Nat→Option aQ)(d:Nat)(v:Option aQ):bn H d v d=v:=by simp[bn]
theorem al(H:Nat→Option aQ){d i:Nat}(v:Option aQ)(h:i≠d):bn H d v i=H i:=by
 have:Nat.beq i d=false:=by rw[←av4,axA];exact h
 simp[bn,this]
def bS(H:Nat→Option aQ):fj→(Nat→Option aQ)
 |[]=>H
 |u::r=>bS (bn H u.1 u.2) r
theorem HT(ups:fj): ∀σ:St,(σ.qw ups).H=bS σ.H ups:=by
 induction ups with
 |nil=>intro σ;rfl
 |cons u r ih=>intro σ;exact ih _
theorem HU(ups:fj): ∀σ:St,(σ.qw ups).T=σ.T:=by
 induction ups with
 |nil=>intro σ;rfl
 |cons u r ih=>intro σ;exact ih _
theorem dS(a b:fj): ∀H,bS H (a++b)=bS (bS H a) b:=by
 induction a with
 |nil=>intro H;rfl
 |cons u r ih=>intro H;exact ih _
theorem rE{H:Nat→Option aQ}{id j:Nat}{v:aQ}(h:H j≠none):bn H id (some v) j≠none:=by
 by_cases hj:j=id
 ·subst hj;rw[ak];simp
 ·rw[al _ _ hj];exact h
theorem Cu{H:Nat→Option aQ}{w:World}{ν:Nat→Value}(h: ∀i τ x p j,H i=some (.dO τ x p j)→H j≠none∧ ∃b,ν i= .pointer (some ⟨b,0,none⟩)∧w.cell? ⟨b,bC p τ,none⟩=some (ν j)){id:Nat}{v:aQ}(hv: ∀τ x p j,v≠ .dO τ x p j):
  ∀i τ x p j,bn H id (some v) i=some (.dO τ x p j)→bn H id (some v) j≠none∧ ∃b,ν i= .pointer (some ⟨b,0,none⟩)∧w.cell? ⟨b,bC p τ,none⟩=some (ν j):=by
 intro i τ x p j hi
 by_cases bp:i=id
 ·subst bp;rw[ak]at hi;cases hi;exact absurd rfl (hv _ _ _ _)
 ·rw[al _ _ bp]at hi
  obtain⟨h1,h2⟩:=h i τ x p j hi
  exact⟨rE h1,h2⟩
theorem Tr.gone{c:Ctx}{H:Nat→Option aQ}{w:World}{M:Nat→Prop}{ν:Nat→Value}(h:Mem c H w M ν)(id:Nat):Tr c H w M ν (bn H id (some .gone)) w M ν:=by
 refine⟨⟨fun i e he=> ?_,fun i j e e' b np hi hm hj gG=> ?_,fun i e b hi hm=> ?_,fun i e l b hi=> ?_,Cu h.dO (fun _ _ _ _=>by simp),h.sub,h.yz,h.frame,h.size,h.qn,h.os,h.tape,h.output⟩,.refl w M,⟨fun i e he=> ?_,fun _ _=>rfl⟩⟩
 ·by_cases aS:i=id
  ·subst aS;rw[ak]at he;cases he;simp[ER]
  ·rw[al _ _ aS]at he;exact h.iN i e he
 ·by_cases aS:i=id
  ·subst aS;rw[ak]at hi;cases hi;simp[aQ.mut]at hm
  ·by_cases hjd:j=id
   ·subst hjd;rw[ak]at hj;cases hj;simp[aQ.mut]at gG
   ·rw[al _ _ aS]at hi;rw[al _ _ hjd]at hj;exact h.u7 i j e e' b np hi hm hj gG
 ·by_cases aS:i=id
  ·subst aS;rw[ak]at hi;cases hi;simp[aQ.mut]at hm
  ·rw[al _ _ aS]at hi;exact h.new i e b hi hm
 ·by_cases aS:i=id
  ·subst aS;rw[ak]at hi;cases hi
  ·rw[al _ _ aS]at hi;exact h.tu i e l b hi
 ·by_cases aS:i=id
  ·subst aS;exact⟨.gone,ak _ _ _,by cases e<;>simp[aQ.hO]⟩
  ·exact⟨e,by rw[al _ _ aS];exact he,.refl e⟩
theorem cell_of{w:World}{b:Nat}{cs:Array Value}{t:TypeId}{fz:Nat×Nat}(h:w.heap[b]? =some (.cells cs t fz))(o:Nat):w.cell? ⟨b,o,none⟩=cs[o]? :=by
 simp[World.cell?,h]
theorem At.of_block{w:World}{b:Nat}{cs:Array Value}{t:TypeId}{fz:Nat×Nat}(h:w.heap[b]? =some (.cells cs t fz))(o n:Nat):
  At w b o ((cs.toList.drop o).take n):=by
 intro j v hj
 rw[cell_of h]
 rw[avi]at hj
 split at hj
 ·rw[avj]at hj;simpa using hj
 ·cases hj
theorem lt_of_block{w:World}{b:Nat}{o:Obj}(h:w.heap[b]? =some o):b<w.heap.size:=(auU.1 h).1
theorem ER.bt{w w':World}{M M':Nat→Prop}{v:Value}(k:df w M w' M'): ∀{e:aQ},
  (e.mut→ ∀b,ed v=some b→w'.heap[b]? =w.heap[b]? ∧M' b)→ER w M v e→ER w' M' v e
 | .obj τ x,hm,h=>by
  simp only[ER]at h ⊢
  obtain⟨b,cs,t,rfl,hb,hM,hr⟩:=h
  obtain⟨h1,h2⟩:=hm trivial b rfl
  exact⟨b,cs,t,rfl,h1.trans hb,h2,hr.bt k⟩
 | .dO τ x p j,hm,h=>by
  simp only[ER]at h ⊢
  obtain⟨b,cs,t,nH,u,rfl,hb,hM,hr,h3⟩:=h
  obtain⟨h1,h2⟩:=hm trivial b rfl
  exact⟨b,cs,t,nH,u,rfl,h1.trans hb,h2,hr.bt k,h3⟩
 | .own e l,hm,h=>by
  simp only[ER]at h ⊢
  rcases h with h|⟨b,cs,t,cap,rfl,hb,hM,hc,hl,Bk,hs,hr⟩
  ·exact .inl h
  ·obtain⟨h1,h2⟩:=hm trivial b (by simp[ed];omega)
   exact .inr ⟨b,cs,t,cap,rfl,h1.trans hb,h2,hc,hl,Bk,hs,fun i hi=>(hr i hi).bt k⟩
 | .kt e l,_,h=>by
  simp only[ER]at h ⊢
  exact⟨h.1.bt k,h.2⟩
 | .gone,_,_=>by simp[ER]
theorem ER.sP{w:World}{M:Nat→Prop}{v:Value}{e:aQ}(h:ER w M v e)(hm:e.mut){b:Nat}(hb:ed v=some b):M b:=by
 cases e with
 |obj τ x=>simp only[ER]at h;obtain⟨b',cs,t,hv,dy,hM,_⟩:=h;rw[hv]at hb;simp only[ed,avb]at hb;subst hb;exact hM
 |dO τ x p j=>simp only[ER]at h;obtain⟨b',cs,t,_,_,hv,dy,hM,_⟩:=h;rw[hv]at hb;simp only[ed,avb]at hb;subst hb;exact hM
 |own e1 l1=>
  simp only[ER]at h
  rcases h with⟨_,a,hv⟩|⟨b',cs,t,cap,hv,dy,hM,hc,_⟩
  ·rw[hv]at hb;cases a<;>simp[ed]at hb
  ·rw[hv]at hb;simp only[ed]at hb;split at hb
   ·cases hb
   ·simp only[avb]at hb;subst hb;exact hM
 |kt _ _=>simp[aQ.mut]at hm
 |gone=>simp[aQ.mut]at hm
theorem Tr.freeze{c:Ctx}{H:Nat→Option aQ}{w:World}{M:Nat→Prop}{ν:Nat→Value}(h:Mem c H w M ν){id:Nat}{e:Ty}{l:List e.den}(aS:H id=some (.own e l)):
  ∃M',Tr c H w M ν (bn H id (some (.kt e l))) w M' ν∧V w M' (.slice e) (ν id) l∧ ∀b,M' b↔(M b∧ed (ν id)≠some b):=by
 have hk:df w M w (fun b=>M b∧ed (ν id)≠some b):=⟨aul _,fun _ _ _=>rfl,fun _ _ h=>h.1⟩
 have he:=h.iN id _ aS
 have gV:Rd w (fun b=>M b∧ed (ν id)≠some b) (.slice e) [ν id] l:=by
  simp only[ER]at he
  simp only[Rd]
  rcases he with⟨rfl,a,hv⟩|⟨b,cs,t,cap,hv,hb,hM,hc,hl,Bk,hs,hr⟩
  ·exact⟨a,0,by rw[hv];rfl,aul _,fun i hi=>absurd hi (by simp)⟩
  ·refine⟨_,cap,by rw[hv],hl,fun i hi=>⟨b,0,rfl,lt_of_block hb,fun hm=>hm.2 (by rw[hv];simp[ed];omega),_,?_,(hr i hi).bt hk⟩⟩
   rw[avk]
   exact At.of_block hb _ _
 refine⟨fun b=>M b∧ed (ν id)≠some b,⟨⟨fun i e' hi=> ?_,fun i j e1 e2 b np hi hm hj gG=> ?_,fun i e1 b hi hm=> ?_,fun i e1 l1 b hi=> ?_,Cu h.dO (fun _ _ _ _=>by simp),fun b hb=>⟨h.sub b hb,fun hm=>h.tu id e l b aS hm hb⟩,fun b hb=>h.yz b hb.1,h.frame,h.size,h.qn,h.os,h.tape,h.output⟩,hk,⟨fun i e' hi=> ?_,fun _ _=>rfl⟩⟩,?_,fun _=>Iff.rfl⟩
 ·by_cases bp:i=id
  ·subst bp;rw[ak]at hi;cases hi
   simp only[ER]
   refine⟨gV,?_⟩
   simp only[ER]at he
   rcases he with⟨rfl,a,hv⟩|⟨b,cs,t,cap,hv,_⟩
   ·exact .inl ⟨rfl,a,0,0,hv⟩
   ·exact .inr ⟨b,_,cap,hv⟩
  ·rw[al _ _ bp]at hi
   refine(h.iN i e' hi).bt hk (fun hm b hb=>⟨rfl,?_,?_⟩)
   ·exact(h.iN i e' hi).sP hm hb
   ·exact h.u7 i id e' (.own e l) b bp hi hm aS trivial hb
 ·by_cases bp:i=id
  ·subst bp;rw[ak]at hi;cases hi;simp[aQ.mut]at hm
  ·by_cases Ax:j=id
   ·subst Ax;rw[ak]at hj;cases hj;simp[aQ.mut]at gG
   ·rw[al _ _ bp]at hi;rw[al _ _ Ax]at hj;exact h.u7 i j e1 e2 b np hi hm hj gG
 ·by_cases bp:i=id
  ·subst bp;rw[ak]at hi;cases hi;simp[aQ.mut]at hm
  ·rw[al _ _ bp]at hi;exact h.new i e1 b hi hm
 ·by_cases bp:i=id
  ·subst bp;rw[ak]at hi;cases hi
  ·rw[al _ _ bp]at hi;exact h.tu i e1 l1 b hi
 ·by_cases bp:i=id
  ·subst bp;rw[aS]at hi;cases hi;exact⟨_,ak _ _ _,rfl,rfl⟩
  ·exact⟨e',by rw[al _ _ bp];exact hi,.refl e'⟩
 ·unfold V;rw[aui (by simp[Ty.isAgg])];exact gV
theorem Tr.fix{c:Ctx}{H:Nat→Option aQ}{w:World}{M:Nat→Prop}{ν:Nat→Value}(h:Mem c H w M ν){id:Nat}{τ:Ty}{x:τ.den}(aS:H id=some (.obj τ x)):
  ∃M' b,Tr c H w M ν (bn H id (some .gone)) w M' ν∧ν id= .pointer (some ⟨b,0,none⟩)∧b<w.heap.size∧ ¬M' b∧ ∃cs,At w b 0 cs∧Rd w M' τ cs x:=by
 have he:=h.iN id _ aS
 simp only[ER]at he
 obtain⟨b0,cs,t,hv,hb,hM,hr⟩:=he
 have sq:ed (ν id)=some b0:=by rw[hv];rfl
 have hk:df w M w (fun b=>M b∧b≠b0):=⟨aul _,fun _ _ _=>rfl,fun _ _ h=>h.1⟩
 have Ea: ¬c.M0 b0:=fun hm=>(h.new id _ b0 aS trivial sq).elim (fun hB=>by have:=h.qn.1 b0 hm;omega) (fun hB=>h.qn.2 b0 hB hm)
 refine⟨fun b=>M b∧b≠b0,b0,⟨⟨fun i e' hi=> ?_,fun i j e1 e2 b np hi hm hj gG=> ?_,fun i e1 b hi hm=> ?_,fun i e1 l1 b hi=> ?_,Cu h.dO (fun _ _ _ _=>by simp),fun b dy=>⟨h.sub b dy,fun e=>Ea (e▸dy)⟩,fun b dy=>h.yz b dy.1,h.frame,h.size,h.qn,h.os,h.tape,h.output⟩,hk,⟨fun i e' hi=> ?_,fun _ _=>rfl⟩⟩,hv,lt_of_block hb,fun hm=>hm.2 rfl,cs.toList,?_,hr.bt hk⟩
 ·by_cases bp:i=id
  ·subst bp;rw[ak]at hi;cases hi;simp[ER]
  ·rw[al _ _ bp]at hi
   refine(h.iN i e' hi).bt hk (fun hm b dy=>⟨rfl,?_,?_⟩)
   ·exact(h.iN i e' hi).sP hm dy
   ·intro e
    exact h.u7 i id e' (.obj τ x) b bp hi hm aS trivial dy (by rw[sq,e])
 ·by_cases bp:i=id
  ·subst bp;rw[ak]at hi;cases hi;simp[aQ.mut]at hm
  ·by_cases Ax:j=id
   ·subst Ax;rw[ak]at hj;cases hj;simp[aQ.mut]at gG
   ·rw[al _ _ bp]at hi;rw[al _ _ Ax]at hj;exact h.u7 i j e1 e2 b np hi hm hj gG
 ·by_cases bp:i=id
  ·subst bp;rw[ak]at hi;cases hi;simp[aQ.mut]at hm
  ·rw[al _ _ bp]at hi;exact h.new i e1 b hi hm
 ·by_cases bp:i=id
  ·subst bp;rw[ak]at hi;cases hi
  ·rw[al _ _ bp]at hi;exact h.tu i e1 l1 b hi
 ·by_cases bp:i=id
  ·subst bp;rw[aS]at hi;cases hi;exact⟨_,ak _ _ _,trivial⟩
  ·exact⟨e',by rw[al _ _ bp];exact hi,.refl e'⟩
 ·have:=At.of_block hb 0 cs.toList.length
  rwa [auG,avF]at this
end VM
end
section
namespace VM
open Go
theorem yA(w:World)(o:Obj):(w.alloc o).heap[w.heap.size]? =some o:=by
 show(w.heap.push o)[w.heap.size]? =some o
 simp
theorem lS(w:World)(o:Obj){i:Nat}(h:i<w.heap.size):(w.alloc o).heap[i]? =w.heap[i]? :=by
 show(w.heap.push o)[i]? =w.heap[i]?
 rw[Array.getElem?_push,aui (Nat.ne_of_lt h)]
theorem size_alloc(w:World)(o:Obj):(w.alloc o).heap.size=w.heap.size+1:=by
 show(w.heap.push o).size=_
 simp
def cj(ν:Nat→Value)(d:Nat)(v:Value):Nat→Value:=fun i=>if i=d then v else ν i
theorem mh{c:Ctx}{H:Nat→Option aQ}{w w':World}{M:Nat→Prop}{ν ν':Nat→Value}(h:Mem c H w M ν){H':Nat→Option aQ}
  (hν: ∀i,H i≠none→ν' i=ν i) (hn: ∀i,H i≠none→H' i≠none)
  (hi: ∀i τ x p j,H' i=some (.dO τ x p j)→(H i=some (.dO τ x p j)∧ ∀b,ν i= .pointer (some ⟨b,0,none⟩)→w'.heap[b]? =w.heap[b]?)∨(H' j≠none∧ ∃b,ν' i= .pointer (some ⟨b,0,none⟩)∧w'.cell? ⟨b,bC p τ,none⟩=some (ν' j))):
  ∀i τ x p j,H' i=some (.dO τ x p j)→H' j≠none∧ ∃b,ν' i= .pointer (some ⟨b,0,none⟩)∧w'.cell? ⟨b,bC p τ,none⟩=some (ν' j):=by
 intro i τ x p j he
 rcases hi i τ x p j he with⟨h1,hb⟩|h1
 ·obtain⟨h2,b,h3,h4⟩:=h.dO i τ x p j h1
  refine⟨hn j h2,b,by rw[hν i (by rw[h1];simp)];exact h3,?_⟩
  rw[hν j h2,World.cell?_of_block (w:=w) (hb b h3)]
  exact h4
 ·exact h1
theorem rF{H:Nat→Option aQ}{id:Nat}{v:aQ}: ∀i,H i≠none→bn H id (some v) i≠none:=fun _ h=>rE h
theorem tE{H:Nat→Option aQ}{id:Nat}{v:aQ}(hv: ∀τ x p j,v≠ .dO τ x p j){i:Nat}{τ:Ty}{x:τ.den}{p:List Step}{j:Nat}(h:bn H id (some v) i=some (.dO τ x p j)):H i=some (.dO τ x p j):=by
 by_cases bp:i=id
 ·subst bp;rw[ak]at h;cases h;exact absurd rfl (hv _ _ _ _)
 ·rw[al _ _ bp]at h;exact h
theorem Tr.alloc{c:Ctx}{H:Nat→Option aQ}{w:World}{M:Nat→Prop}{ν:Nat→Value}(h:Mem c H w M ν){id:Nat}(aS:H id=none)(o:Obj)(v:Value)(e:aQ)(hm:e.mut)(Bl: ∀τ x p j,e≠ .dO τ x p j)
  (hb:ed v=none∨ed v=some w.heap.size) (KO:ER (w.alloc o) (fun b=>M b∨b=w.heap.size) v e):
  Tr c H w M ν (bn H id (some e)) (w.alloc o) (fun b=>M b∨b=w.heap.size) (cj ν id v):=by
 have hk:df w M (w.alloc o) (fun b=>M b∨b=w.heap.size):=
  ⟨by rw[size_alloc];omega,fun b hb _=>lS w o hb,fun b hb h'=>h'.resolve_right (by omega)⟩
 have hν: ∀i,i≠id→cj ν id v i=ν i:=fun i hi=>by simp[cj,hi]
 have xe:cj ν id v id=v:=by simp[cj]
 have dz: ∀i e' b,H i=some e'→e'.mut→ed (ν i)=some b→b<w.heap.size:=fun i e' b hi gG dy=>h.yz b ((h.iN i e' hi).sP gG dy)
 refine⟨⟨fun i e' hi=> ?_,fun i j e1 e2 b np hi oC hj tF=> ?_,fun i e1 b hi oC=> ?_,fun i e1 l1 b hi=> ?_,mh h (fun i hi=>hν i (fun e=>hi (e▸aS))) rF (fun i τ x p j hi=> .inl ⟨tE Bl hi,fun b hb=>lS w o (dz i _ b (tE Bl hi) trivial (by rw[hb];rfl))⟩),fun b hb=> .inl (h.sub b hb),fun b dy=> ?_,fun b jN sr=> ?_,?_,h.qn,h.os,h.tape,h.output⟩,hk,⟨fun i e' hi=> ?_,fun i hi=> ?_⟩⟩
 ·by_cases bp:i=id
  ·subst bp;rw[ak]at hi;cases hi;rw[xe];exact KO
  ·rw[al _ _ bp]at hi;rw[hν i bp]
   exact(h.iN i e' hi).bt hk fun gG b dy=>⟨lS w o (dz i e' b hi gG dy),.inl ((h.iN i e' hi).sP gG dy)⟩
 ·by_cases bp:i=id
  ·subst bp;rw[ak]at hi;cases hi;rw[xe]
   intro jN
   have Ax:j≠i:=av0 np
   rw[al _ _ Ax]at hj;rw[hν j Ax]
   intro sr
   have:=dz j e2 b hj tF sr
   rcases hb with hb|hb<;>rw[hb]at jN<;>simp at jN
   omega
  ·rw[al _ _ bp]at hi;rw[hν i bp]
   by_cases Ax:j=id
   ·subst Ax;rw[xe]
    intro jN sr
    have:=dz i e1 b hi oC jN
    rcases hb with hb|hb<;>rw[hb]at sr<;>simp at sr
    omega
   ·rw[al _ _ Ax]at hj;rw[hν j Ax];exact h.u7 i j e1 e2 b np hi oC hj tF
 ·by_cases bp:i=id
  ·subst bp;rw[xe]
   intro jN
   rcases hb with hb|hb<;>rw[hb]at jN<;>simp at jN
   subst jN;exact .inl h.size
  ·rw[al _ _ bp]at hi;rw[hν i bp];exact h.new i e1 b hi oC
 ·by_cases bp:i=id
  ·subst bp;rw[xe]
   intro jN h0
   rcases hb with hb|hb<;>rw[hb]at jN<;>simp at jN
   have:=h.qn.1 b h0
   have:=h.size
   omega
  ·rw[al _ _ bp]at hi;rw[hν i bp];exact h.tu i e1 l1 b hi
 ·rw[size_alloc]
  rcases dy with dy|dy
  ·have:=h.yz b dy;omega
  ·omega
 ·rw[lS w o (avn jN h.size)];exact h.frame b jN sr
 ·rw[size_alloc];have:=h.size;omega
 ·by_cases bp:i=id
  ·subst bp;rw[aS]at hi;cases hi
  ·exact⟨e',by rw[al _ _ bp];exact hi,.refl e'⟩
 ·have bp:i≠id:=fun e=>hi (e▸aS)
  exact hν i bp
theorem Tr.var{c:Ctx}{H:Nat→Option aQ}{w:World}{M:Nat→Prop}{ν:Nat→Value}(h:Mem c H w M ν){id:Nat}(aS:H id=none)(t:TypeId){τ:Ty}{cs:Array Value}{x:τ.den}(hr:Rd w M τ cs.toList x):
  Tr c H w M ν (bn H id (some (.obj τ x))) (w.alloc (.cells cs t)) (fun b=>M b∨b=w.heap.size) (cj ν id (.pointer (some ⟨w.heap.size,0,none⟩))):=by
 refine Tr.alloc h aS _ _ _ trivial (fun _ _ _ _=>by simp) (.inr rfl) ?_
 simp only[ER]
 have hk:df w M (w.alloc (.cells cs t)) (fun b=>M b∨b=w.heap.size):=
  ⟨by rw[size_alloc];omega,fun b hb _=>lS w _ hb,fun b hb h'=>h'.resolve_right (by omega)⟩
 exact⟨w.heap.size,cs,t,rfl,yA w _,.inr rfl,hr.bt hk⟩
theorem Tr.row{c:Ctx}{H:Nat→Option aQ}{w:World}{M:Nat→Prop}{ν:Nat→Value}(h:Mem c H w M ν){id:Nat}(aS:H id=none)(t:TypeId){e:Ty}{cs:Array Value}{l:List e.den}{cap:Nat}
  (hl:l.length≤cap) (hm:cap≤maxLen) (hs:cs.size=cap*e.size) (hr: ∀i (hi:i<l.length),Rd w M e ((cs.toList.drop (i*e.size)).take e.size) l[i]):
  Tr c H w M ν (bn H id (some (.own e l))) (w.alloc (.cells cs t)) (fun b=>M b∨b=w.heap.size) (cj ν id (.slice (some ⟨w.heap.size,0,none⟩) l.length cap)):=by
 have hk:df w M (w.alloc (.cells cs t)) (fun b=>M b∨b=w.heap.size):=
  ⟨by rw[size_alloc];omega,fun b hb _=>lS w _ hb,fun b hb h'=>h'.resolve_right (by omega)⟩
 refine Tr.alloc h aS _ _ _ trivial (fun _ _ _ _=>by simp) ?_ ?_
 ·simp only[ed];split
  ·exact .inl rfl
  ·exact .inr rfl
 ·simp only[ER]
  by_cases hc:cap=0
  ·subst hc
   have hl0:l=[]:=avl (by omega)
   subst hl0
   exact .inl ⟨rfl,_,rfl⟩
  ·exact .inr ⟨w.heap.size,cs,t,cap,rfl,yA w _,.inr rfl,by omega,hl,hm,hs,fun i hi=>(hr i hi).bt hk⟩
theorem Tr.drew{c:Ctx}{H:Nat→Option aQ}{w:World}{M:Nat→Prop}{ν:Nat→Value}(h:Mem c H w M ν):Tr c H w M ν H w.drew M ν:=by
 have hk:df w M w.drew M:=⟨aul _,fun _ _ _=>rfl,fun _ _ h=>h⟩
 exact⟨⟨fun i e he=>(h.iN i e he).bt hk fun hm b hb=>⟨rfl,(h.iN i e he).sP hm hb⟩,h.u7,h.new,h.tu,h.dO,h.sub,h.yz,h.frame,h.size,h.qn,h.os,h.tape,h.output⟩,hk,.refl H ν⟩
theorem size_setRow(w:World)(g:Nat)(cs:Array Value):(w.setRow g cs).heap.size=w.heap.size:=by simp[World.setRow]
theorem Tr.write{c:Ctx}{H:Nat→Option aQ}{w:World}{M:Nat→Prop}{ν:Nat→Value}(h:Mem c H w M ν){id:Nat}{e e':aQ}(aS:H id=some e)(hm:e.mut)(gG:e'.mut)(hl:e.hO e')
  {b:Nat} (hb:ed (ν id)=some b) {cs new:Array Value} {t:TypeId} (hg:w.heap[b]? =some (.cells cs t (0,0)))
  (KO: ∀M',df w M (w.setRow b new) M'→M' b→ER (w.setRow b new) M' (ν id) e')
  (oD: ∀τ x p j,e'= .dO τ x p j→H j≠none∧ ∃b',ν id= .pointer (some ⟨b',0,none⟩)∧(w.setRow b new).cell? ⟨b',bC p τ,none⟩=some (ν j):=by intro _ _ _ _ h;cases h):
  Tr c H w M ν (bn H id (some e')) (w.setRow b new) M ν:=by
 have YD:M b:=(h.iN id e aS).sP hm hb
 have hk:df w M (w.setRow b new) M:=
  ⟨by rw[size_setRow];exact aul _,fun b' _ hm=>setRow_other w b b' new (fun e=>hm (e▸YD)),fun _ _ h=>h⟩
 refine⟨⟨fun i e1 hi=> ?_,fun i j e1 e2 b1 np hi oC hj tF=> ?_,fun i e1 b1 hi oC=> ?_,fun i e1 l1 b1 hi=> ?_,mh h (fun _ _=>rfl) rF (fun i τ x p j hi=> ?_),h.sub,fun b1 jN=>by rw[size_setRow];exact h.yz b1 jN,fun b1 jN sr=> ?_,by rw[size_setRow];exact h.size,h.qn,h.os,h.tape,h.output⟩,hk,⟨fun i e1 hi=> ?_,fun i hi=>rfl⟩⟩
 ·by_cases bp:i=id
  ·subst bp;rw[ak]at hi;cases hi;exact KO M hk YD
  ·rw[al _ _ bp]at hi
   exact(h.iN i e1 hi).bt hk fun oC b1 jN=>⟨setRow_other w b b1 new (fun e'=>h.u7 i id e1 e b1 bp hi oC aS hm jN (e'▸hb)),(h.iN i e1 hi).sP oC jN⟩
 ·by_cases bp:i=id
  ·subst bp;rw[ak]at hi;cases hi
   have Ax:j≠i:=av0 np
   rw[al _ _ Ax]at hj
   exact h.u7 i j e e2 b1 np aS hm hj tF
  ·rw[al _ _ bp]at hi
   by_cases Ax:j=id
   ·subst Ax;exact h.u7 i j e1 e b1 np hi oC aS hm
   ·rw[al _ _ Ax]at hj;exact h.u7 i j e1 e2 b1 np hi oC hj tF
 ·by_cases bp:i=id
  ·subst bp;exact h.new i e b1 aS hm
  ·rw[al _ _ bp]at hi;exact h.new i e1 b1 hi oC
 ·by_cases bp:i=id
  ·subst bp;rw[ak]at hi;cases hi
   cases e with
   |own e0 l0=>exact h.tu i e0 l0 b1 aS
   |obj _ _=>simp[aQ.hO]at hl
   |dO _ _ _ _=>simp[aQ.hO]at hl
   |kt _ _=>simp[aQ.mut]at hm
   |gone=>simp[aQ.mut]at hm
  ·rw[al _ _ bp]at hi;exact h.tu i e1 l1 b1 hi
 ·by_cases bp:i=id
  ·subst bp;rw[ak]at hi;cases hi
   obtain⟨h1,h2⟩:=oD _ _ _ _ rfl
   exact .inr ⟨rE h1,h2⟩
  ·rw[al _ _ bp]at hi
   exact .inl ⟨hi,fun b1 jN=>setRow_other w b b1 new (fun e1=>h.u7 i id _ e b1 bp hi trivial aS hm (by rw[jN];rfl) (e1▸hb))⟩
 ·rw[setRow_other w b b1 new]
  ·exact h.frame b1 jN sr
  ·intro hbb;subst hbb
   rcases h.new id e b1 aS hm hb with h'|h'
   ·omega
   ·exact sr h'
 ·by_cases bp:i=id
  ·subst bp;rw[aS]at hi;cases hi;exact⟨e',ak _ _ _,hl⟩
  ·exact⟨e1,by rw[al _ _ bp];exact hi,.refl e1⟩
theorem Tr.rename{c:Ctx}{H:Nat→Option aQ}{w:World}{M:Nat→Prop}{ν:Nat→Value}(h:Mem c H w M ν){j id:Nat}{e e':Ty}{l:List e.den}{l':List e'.den}(hj:H j=some (.own e l))(aS:H id=none)
  {v:Value} (hb:ed v=none∨ed v=ed (ν j)) (KO:ER w M v (.own e' l')):
  Tr c H w M ν (bn (bn H j (some .gone)) id (some (.own e' l'))) w M (cj ν id v):=by
 have fL:j≠id:=fun e=>by rw[e,aS]at hj;cases hj
 have h1:=(Tr.gone h j).mem
 have kY:bn H j (some .gone) id=none:=by rw[al _ _ (av0 fL)];exact aS
 have hν: ∀i,i≠id→cj ν id v i=ν i:=fun i hi=>by simp[cj,hi]
 have xe:cj ν id v id=v:=by simp[cj]
 refine⟨⟨fun i e1 hi=> ?_,fun i k e1 e2 b1 np hi oC hk tF=> ?_,fun i e1 b1 hi oC=> ?_,fun i e1 l1 b1 hi=> ?_,mh h1 (fun i hi=>hν i (fun e=>hi (e▸kY))) rF (fun i τ x p j hi=> .inl ⟨tE (fun _ _ _ _=>by simp) hi,fun _ _=>rfl⟩),h.sub,h.yz,h.frame,h.size,h.qn,h.os,h.tape,h.output⟩,.refl w M,⟨fun i e1 hi=> ?_,fun i hi=> ?_⟩⟩
 ·by_cases bp:i=id
  ·subst bp;rw[ak]at hi;cases hi;rw[xe];exact KO
  ·rw[al _ _ bp]at hi;rw[hν i bp];exact h1.iN i e1 hi
 ·by_cases bp:i=id
  ·subst bp;rw[ak]at hi;cases hi;rw[xe]
   have Eb:k≠i:=av0 np
   rw[al _ _ Eb]at hk;rw[hν k Eb]
   intro jN
   rcases hb with hb|hb
   ·rw[hb]at jN;cases jN
   ·rw[hb]at jN
    by_cases hkj:k=j
    ·subst hkj;rw[ak]at hk;cases hk;simp[aQ.mut]at tF
    ·rw[al _ _ hkj]at hk;exact h.u7 j k _ e2 b1 (av0 hkj) hj trivial hk tF jN
  ·rw[al _ _ bp]at hi;rw[hν i bp]
   by_cases Eb:k=id
   ·subst Eb;rw[xe]
    intro jN sr
    rcases hb with hb|hb
    ·rw[hb]at sr;cases sr
    ·rw[hb]at sr
     by_cases AH:i=j
     ·subst AH;rw[ak]at hi;cases hi;simp[aQ.mut]at oC
     ·rw[al _ _ AH]at hi;exact h.u7 j i _ e1 b1 (av0 AH) hj trivial hi oC sr jN
   ·rw[al _ _ Eb]at hk;rw[hν k Eb];exact h1.u7 i k e1 e2 b1 np hi oC hk tF
 ·by_cases bp:i=id
  ·subst bp;rw[xe];intro jN
   rcases hb with hb|hb
   ·rw[hb]at jN;cases jN
   ·rw[hb]at jN;exact h.new j _ b1 hj trivial jN
  ·rw[al _ _ bp]at hi;rw[hν i bp];exact h1.new i e1 b1 hi oC
 ·by_cases bp:i=id
  ·subst bp;rw[xe];intro jN
   rcases hb with hb|hb
   ·rw[hb]at jN;cases jN
   ·rw[hb]at jN;exact h.tu j e l b1 hj jN
  ·rw[al _ _ bp]at hi;rw[hν i bp];exact h1.tu i e1 l1 b1 hi
 ·by_cases AH:i=j
  ·subst AH;exact⟨.gone,by rw[al _ _ fL,ak],by cases e1<;>simp[aQ.hO]⟩
  ·have bp:i≠id:=fun e=>by rw[e,aS]at hi;cases hi
   exact⟨e1,by rw[al _ _ bp,al _ _ AH];exact hi,.refl e1⟩
 ·exact hν i (fun e=>hi (e▸aS))
theorem Tr.KP{c:Ctx}{H:Nat→Option aQ}{w:World}{M:Nat→Prop}{ν:Nat→Value}(h:Mem c H w M ν){id:Nat}{e e':aQ}(aS:H id=some e)(hm:e.mut)(gG:e'.mut)(hl:e.hO e')(ot: ∀e0 l0,e'≠ .own e0 l0)
  (KO:ER w M (ν id) e') (oD: ∀τ x p j,e'= .dO τ x p j→H j≠none∧ ∃b',ν id= .pointer (some ⟨b',0,none⟩)∧w.cell? ⟨b',bC p τ,none⟩=some (ν j)):
  Tr c H w M ν (bn H id (some e')) w M ν:=by
 refine⟨⟨fun i e1 hi=> ?_,fun i j e1 e2 b1 np hi oC hj tF=> ?_,fun i e1 b1 hi oC=> ?_,fun i e1 l1 b1 hi=> ?_,mh h (fun _ _=>rfl) rF (fun i τ x p j hi=> ?_),h.sub,h.yz,h.frame,h.size,h.qn,h.os,h.tape,h.output⟩,.refl w M,⟨fun i e1 hi=> ?_,fun i hi=>rfl⟩⟩
 ·by_cases bp:i=id
  ·subst bp;rw[ak]at hi;cases hi;exact KO
  ·rw[al _ _ bp]at hi;exact h.iN i e1 hi
 ·by_cases bp:i=id
  ·subst bp;rw[ak]at hi;cases hi
   have Ax:j≠i:=av0 np
   rw[al _ _ Ax]at hj
   exact h.u7 i j e e2 b1 np aS hm hj tF
  ·rw[al _ _ bp]at hi
   by_cases Ax:j=id
   ·subst Ax;exact h.u7 i j e1 e b1 np hi oC aS hm
   ·rw[al _ _ Ax]at hj;exact h.u7 i j e1 e2 b1 np hi oC hj tF
 ·by_cases bp:i=id
  ·subst bp;exact h.new i e b1 aS hm
  ·rw[al _ _ bp]at hi;exact h.new i e1 b1 hi oC
 ·by_cases bp:i=id
  ·subst bp;rw[ak]at hi;cases hi;exact absurd rfl (ot _ _)
  ·rw[al _ _ bp]at hi;exact h.tu i e1 l1 b1 hi
 ·by_cases bp:i=id
  ·subst bp;rw[ak]at hi;cases hi
   obtain⟨h1,h2⟩:=oD _ _ _ _ rfl
   exact .inr ⟨rE h1,h2⟩
  ·rw[al _ _ bp]at hi;exact .inl ⟨hi,fun _ _=>rfl⟩
 ·by_cases bp:i=id
  ·subst bp;rw[aS]at hi;cases hi;exact⟨e',ak _ _ _,hl⟩
  ·exact⟨e1,by rw[al _ _ bp];exact hi,.refl e1⟩
theorem Tr.nothing{c:Ctx}{w:World}{M:Nat→Prop}{ν:Nat→Value}{H:Nat→Option aQ}(h:Mem c H w M ν){id:Nat}(aS:H id=none)(e:Ty)(ad:Option Addr):
  Tr c H w M ν (bn H id (some (.own e []))) w M (cj ν id (.slice ad 0 0)):=by
 have hν: ∀i,i≠id→cj ν id (.slice ad 0 0) i=ν i:=fun i hi=>by simp[cj,hi]
 have xe:cj ν id (.slice ad 0 0) id= .slice ad 0 0:=by simp[cj]
 have hb:ed (.slice ad 0 0)=none:=by cases ad<;>simp[ed]
 refine⟨⟨fun i e1 hi=> ?_,fun i k e1 e2 b1 np hi oC hk tF=> ?_,fun i e1 b1 hi oC=> ?_,fun i e1 l1 b1 hi=> ?_,mh h (fun i hi=>hν i (fun e=>hi (e▸aS))) rF (fun i τ x p j hi=> .inl ⟨tE (fun _ _ _ _=>by simp) hi,fun _ _=>rfl⟩),h.sub,h.yz,h.frame,h.size,h.qn,h.os,h.tape,h.output⟩,.refl w M,⟨fun i e1 hi=> ?_,fun i hi=>hν i (fun e=>hi (e▸aS))⟩⟩
 ·by_cases bp:i=id
  ·subst bp;rw[ak]at hi;cases hi;rw[xe];simp only[ER];exact .inl ⟨trivial,ad,rfl⟩
  ·rw[al _ _ bp]at hi;rw[hν i bp];exact h.iN i e1 hi
 ·by_cases bp:i=id
  ·subst bp;rw[xe,hb];intro h';cases h'
  ·rw[al _ _ bp]at hi;rw[hν i bp]
   by_cases Eb:k=id
   ·subst Eb;rw[xe,hb];intro _ h';cases h'
   ·rw[al _ _ Eb]at hk;rw[hν k Eb];exact h.u7 i k e1 e2 b1 np hi oC hk tF
 ·by_cases bp:i=id
  ·subst bp;rw[xe,hb];intro h';cases h'
  ·rw[al _ _ bp]at hi;rw[hν i bp];exact h.new i e1 b1 hi oC
 ·by_cases bp:i=id
  ·subst bp;rw[xe,hb];intro h';cases h'
  ·rw[al _ _ bp]at hi;rw[hν i bp];exact h.tu i e1 l1 b1 hi
 ·have bp:i≠id:=fun e=>by rw[e,aS]at hi;cases hi
  exact⟨e1,by rw[al _ _ bp];exact hi,.refl e1⟩
end VM
end
section
namespace VM
open Go
theorem a6{α:Type}{υ τ:Ty}{y:υ.den}{k:τ.den→Option α}{r:α}(h:b7 υ τ y k=some r): ∃e:υ=τ,k (e▸y)=some r:=by
 unfold b7 at h
 split at h
 ·rename_i e;exact⟨e,h⟩
 ·cases h
theorem dH{α:Type}{υ τ:Ty}{k:Option α}{r:α}(h:jk υ τ k=some r):υ=τ∧k=some r:=by
 unfold jk at h
 split at h
 ·rename_i e;exact⟨e,h⟩
 ·cases h
theorem V.slice{w:World}{M:Nat→Prop}{e:Ty}{v:Value}{l:List e.den}:V w M (.slice e) v l↔Rd w M (.slice e) [v] l:=by
 unfold V;rw[aui (by simp[Ty.isAgg])]
def Fz(H H1:Nat→Option aQ):Prop:= ∀i,H1 i=H i∨ ∃e l,H i=some (.own e l)∧H1 i=some (.kt e l)
theorem Fz.refl(H:Nat→Option aQ):Fz H H:=fun _=> .inl rfl
theorem Fz.none{H H1:Nat→Option aQ}(h:Fz H H1){i:Nat}(hi:H i=none):H1 i=none:=by
 rcases h i with h'|⟨e,l,h',_⟩
 ·rw[h',hi]
 ·rw[hi]at h';cases h'
theorem Fz.obj{H H1:Nat→Option aQ}(h:Fz H H1){i:Nat}{τ:Ty}{x:τ.den}(hi:H i=some (.obj τ x)):H1 i=some (.obj τ x):=by
 rcases h i with h'|⟨e,l,h',_⟩
 ·rw[h',hi]
 ·rw[hi]at h';cases h'
theorem vl{H:Nat→Option aQ}{id:Nat}{e:Option aQ}(h:H id=e):bn H id e=H:=by
 funext i
 by_cases hi:i=id
 ·subst hi;rw[ak,h]
 ·rw[al _ _ hi]
theorem ka{α:Type}{c:Ctx}{H H1:Nat→Option aQ}{w:World}{M:Nat→Prop}{ν:Nat→Value}(hz:Fz H H1)(hm:Mem c H1 w M ν){a:aY}{v:Value}(hv:VR w M H1 ν a v){τ:Ty}
  {k:τ.den→List Nat→fj→Option α} {r:α} (h:iC true a H τ k=some r):
  ∃y rd ups M',k y rd ups=some r∧Tr c H1 w M ν (bS H1 ups) w M' ν∧V w M' τ v y∧Fz H (bS H1 ups)∧ ∀i,rd.contains i=false→bS H1 ups i=H1 i:=by
 unfold iC at h
 split at h
 ·
  obtain⟨e,h⟩:=a6 h
  subst e
  simp only[VR]at hv
  exact⟨_,[],[],M,h,.refl hm,hv,hz,fun _ _=>rfl⟩
 ·
  obtain⟨e,h⟩:=a6 h
  subst e
  simp only[VR]at hv
  exact⟨_,[],[],M,h,.refl hm,hv.1,hz,fun _ _=>rfl⟩
 ·
  split at h
  ·rename_i e k' _
   simp only[VR]at hv
   obtain⟨a,rfl⟩:=hv
   refine⟨[],[],[],M,h,.refl hm,V.slice.2 ?_,hz,fun _ _=>rfl⟩
   simp only[Rd]
   exact⟨a,0,rfl,aul _,fun i hi=>absurd hi (by simp)⟩
  ·cases h
 ·rename_i id
  simp only[VR]at hv
  obtain⟨_,rfl⟩:=hv
  split at h
  ·rename_i e l aS
   obtain⟨e',h⟩:=a6 h
   subst e'
   rcases hz id with h1|⟨e1,l1,h1,h2⟩
   ·rw[aS]at h1
    obtain⟨M',eO,hV,_⟩:=Tr.freeze hm h1
    refine⟨_,_,_,M',h,eO,hV,fun i=> ?_,fun i hi=>al _ _ (by simpa using hi)⟩
    show bn H1 id (some (.kt e l)) i=H i∨_
    by_cases hi:i=id
    ·subst hi;exact .inr ⟨e,l,aS,ak _ _ _⟩
    ·rw[al _ _ hi]
     rcases hz i with h'|⟨e2,l2,h2,h3⟩
     ·exact .inl h'
     ·exact .inr ⟨e2,l2,h2,by show bn H1 id _ i=_;rw[al _ _ hi];exact h3⟩
   ·rw[aS]at h1;cases h1
    have:=hm.iN id _ h2
    simp only[ER]at this
    refine⟨_,_,[(id,some (.kt e l))],M,h,?_,V.slice.2 this.1,?_,fun i hi=>al _ _ (by simpa using hi)⟩
    ·show Tr c H1 w M ν (bn H1 id (some (.kt e l))) w M ν
     rw[vl h2];exact .refl hm
    ·show Fz H (bn H1 id (some (.kt e l)))
     rw[vl h2];exact hz
  ·rename_i e l aS
   obtain⟨e',h⟩:=a6 h
   subst e'
   have h1:H1 id=some (.kt e l):=by
    rcases hz id with h1|⟨e1,l1,h1,h2⟩
    ·rw[h1,aS]
    ·rw[aS]at h1;cases h1
   have:=hm.iN id _ h1
   simp only[ER]at this
   exact⟨_,_,_,M,h,.refl hm,V.slice.2 this.1,hz,fun _ _=>rfl⟩
  ·cases h
 ·cases h
def Src(w:World)(M:Nat→Prop)(e:Ty)(v:Value)(l:List e.den):Prop:=
 ∃a cap,v= .slice a l.length cap∧ ∀i (h:i<l.length),∃b off cs,a=some ⟨b,off,none⟩∧At w b (off+i*e.size) cs∧Rd w M e cs l[i]
theorem Src.QR{w:World}{M:Nat→Prop}{e:Ty}{v:Value}{l:List e.den}(h:V w M (.slice e) v l):Src w M e v l:=by
 have h:=V.slice.1 h
 simp only[Rd,auZ,avB]at h
 obtain⟨a,cap,rfl,_,hr⟩:=h
 refine⟨a,cap,rfl,fun i hi=> ?_⟩
 obtain⟨b,off,ha,_,_,cs,lC,gV⟩:=hr i hi
 exact⟨b,off,cs,ha,lC,gV⟩
theorem wo{α:Type}{c:Ctx}{H:Nat→Option aQ}{w:World}{M:Nat→Prop}{ν:Nat→Value}(hm:Mem c H w M ν){a:aY}{v:Value}(hv:VR w M H ν a v){e:Ty}
  {k:List e.den→List Nat→fj→Option α} {r:α} (h:iC false a H (.slice e) k=some r):
  ∃y rd,k y rd []=some r∧Src w M e v y:=by
 unfold iC at h
 split at h
 ·obtain⟨e',h⟩:=a6 h
  subst e'
  simp only[VR]at hv
  exact⟨_,[],h,.QR hv⟩
 ·obtain⟨e',h⟩:=a6 h
  subst e'
  simp only[VR]at hv
  exact⟨_,[],h,.QR hv.1⟩
 ·have h:k [] [] []=some r:=h
  simp only[VR]at hv
  obtain⟨a,rfl⟩:=hv
  exact⟨[],[],h,a,0,rfl,fun i hi=>absurd hi (by simp)⟩
 ·rename_i id
  simp only[VR]at hv
  obtain⟨_,rfl⟩:=hv
  split at h
  ·rename_i e1 l aS
   obtain⟨e',h⟩:=a6 h
   cases e'
   refine⟨_,_,h,?_⟩
   have:=hm.iN id _ aS
   simp only[ER]at this
   rcases this with⟨rfl,a,hv⟩|⟨b,cs,t,cap,hv,hb,hM,hc,hl,Bk,hs,hr⟩
   ·exact⟨a,0,hv,fun i hi=>absurd hi (by simp)⟩
   ·refine⟨_,cap,hv,fun i hi=>⟨b,0,_,rfl,?_,hr i hi⟩⟩
    rw[avk]
    exact At.of_block hb _ _
  ·rename_i e1 l aS
   obtain⟨e',h⟩:=a6 h
   cases e'
   have:=hm.iN id _ aS
   simp only[ER]at this
   exact⟨_,_,h,.QR (V.slice.2 this.1)⟩
  ·cases h
 ·cases h
theorem Src.cells{w:World}{M:Nat→Prop}{e:Ty}{v:Value}{l:List e.den}(h:Src w M e v l)(fL:l≠[]):
  ∃b off cap news,v= .slice (some ⟨b,off,none⟩) l.length cap∧news.length=l.length*e.size∧At w b off news∧
   (∀i (hi:i<l.length),Rd w M e ((news.drop (i*e.size)).take e.size) l[i])∧ ∀u∈news,u.oneCell'=true:=by
 obtain⟨a,cap,rfl,hr⟩:=h
 have h0:0<l.length:=avC.2 fL
 obtain⟨b,off,_,ha,_⟩:=hr 0 h0
 subst ha
 have key: ∀n,n≤l.length→ ∃news:List Value,news.length=n*e.size∧At w b off news∧
   (∀i (hi:i<l.length),i<n→Rd w M e ((news.drop (i*e.size)).take e.size) l[i])∧ ∀u∈news,u.oneCell'=true:=by
  intro n
  induction n with
  |zero=>exact fun _=>⟨[],by simp,fun j v hj=>by simp at hj,fun i _ hi=>by omega,by simp⟩
  |succ n ih=>
   intro hn
   obtain⟨news,hl,lC,gV,YE⟩:=ih (by omega)
   obtain⟨b',apY,cs,ha,ai9,KQ⟩:=hr n (by omega)
   cases ha
   refine⟨news++cs,by rw[aug,hl,KQ.length,au9,av2],At.append.2 ⟨lC,by rw[hl];exact ai9⟩,fun i hi jP=> ?_,fun u hu=> ?_⟩
   ·by_cases dz:i<n
    ·have h1:(i+1)*e.size≤n*e.size:=ava _ dz
     rw[au9,av2]at h1
     rw[avU (by omega),avT (by rw[auP];omega)]
     exact gV i hi dz
    ·obtain rfl:i=n:=by omega
     rw[avL hl,auM (by rw[KQ.length];exact aul _)]
     exact KQ
   ·rcases aut.1 hu with hu|hu
    ·exact YE u hu
    ·exact KQ.ku u hu
 obtain⟨news,hl,lC,gV,YE⟩:=key l.length (aul _)
 exact⟨b,off,cap,news,rfl,hl,lC,fun i hi=>gV i hi hi,YE⟩
structure Core(c:Ctx)(σ:St)(tm:Array Value)(w:World)(M:Nat→Prop)(ν:Nat→Value):Prop where
 mem:Mem c σ.H w M ν
 tmp: ∀i,VR w M σ.H ν (σ.T i) (tm.getD i undef)
theorem KR(w:World)(M:Nat→Prop)(H:Nat→Option aQ)(ν:Nat→Value)(v:Value):VR w M H ν (cvA v) v:=by
 unfold cvA
 split<;>simp[VR,V,Ty.isAgg,Rd]
theorem Core.op{c:Ctx}{σ:St}{tm:Array Value}{w:World}{M:Nat→Prop}{ν:Nat→Value}(h:Core c σ tm w M ν)(ds:List Deferred)(x:Operand):
  VR w M σ.H ν (σ.ρ x) (({tmps:=tm,defers:=ds}:Act).eval x):=by
 cases x with
 |tmp t=>exact h.tmp t
 |const v=>exact KR w M σ.H ν v
 |global g=>simp[St.ρ,VR]
 |func f=>simp[St.ρ,VR,fE,Act.eval]
def adD(P:Program)(t:TypeId)(τ:Ty):Prop:=
 ∀(w:World) (M:Nat→Prop) (u v:Value) (x y:τ.den) (b:BinOp) (xo yo:Operand),V w M τ u x→V w M τ v y→
  (eqGuard b t xo yo u v).run P w= .ok () w∧(binOp .eql t u v).run P w= .ok (.bool (lR τ x y)) w∧(binOp .neq t u v).run P w= .ok (.bool (!lR τ x y)) w
structure EnvTy(P:Program)(E:Env):Prop where
 ty: ∀t τ,E.ty t=some τ→gD P τ t
 eq: ∀t τ,E.ty t=some τ→τ.comparable=true→τ.isAgg=true→adD P t τ
end VM
end
section
namespace VM
open Go
variable{P:Program}
theorem tG{o:Oper}{ρ:Operand→Value}{t:TypeId}{i:TypeInfo}{z:Value}(ho:o.op= .alloc t)(hi:P.info? t=some i)(hz:i.zero=some z)(w:World):
  (execOp ρ o).run P w= .ok (.value (.pointer (some ⟨w.heap.size,0,none⟩))) (w.alloc (.cells z.cells t)):=by
 simp[execOp,ho,Instr.alloc,zeroValue,typeInfo,hi,hz,newVar,newRow]
theorem yB{o:Oper}{ρ:Operand→Value}{t:TypeId}{x:Operand}(ho:o.op= .box t x)(w:World):
  (execOp ρ o).run P w= .ok (.value (.pointer (some ⟨w.heap.size,0,none⟩))) (w.alloc (.cells (ρ x).cells t)):=by
 simp[execOp,ho,Instr.box,newVar,newRow]
theorem oE{τ:Ty}{t:TypeId}(h:gD P τ t)(w:World):(isAgg t).run P w= .ok τ.isAgg w:=by
 unfold gD at h
 cases τ<;>simp only[dF]at h
 ·simp[isAgg,run_underlying h.2,Ty.isAgg]
 ·simp[isAgg,run_underlying h.2,Ty.isAgg]
 ·simp[isAgg,run_underlying h.2,Ty.isAgg]
 ·obtain⟨_,e',h',_⟩:=h;simp[isAgg,run_underlying h',Ty.isAgg]
 ·obtain⟨_,e',h',_⟩:=h;simp[isAgg,run_underlying h',Ty.isAgg]
 ·obtain⟨_,e',f,h',_⟩:=h;simp[isAgg,run_underlying h',Ty.isAgg]
 ·obtain⟨_,e',h',_⟩:=h;simp[isAgg,run_underlying h',Ty.isAgg]
theorem b8{τ:Ty}{t:TypeId}(h:gD P τ t)(w:World):(Go.sizeOf t).run P w= .ok τ.size w:=by
 obtain⟨i,hi,hs,_⟩:=h.base
 simp[Go.sizeOf,typeInfo,hi,hs]
theorem wq{w:World}{M:Nat→Prop}{τ:Ty}{t:TypeId}(h:gD P τ t){b off:Nat}{cs:List Value}{x:τ.den}(ha:At w b off cs)(hr:Rd w M τ cs x):
  (loadVar t ⟨b,off,none⟩).run P w= .ok (bF τ cs) w:=by
 have hl:(loadCells ⟨b,off,none⟩ τ.size).run P w= .ok cs.toArray w:=by
  rw[←hr.length]
  exact run_loadCells_list w _ cs fun j v hj=>by rw[show(⟨b,off,none⟩:Addr).add j=⟨b,off+j,none⟩from by unfold Addr.add;split<;>simp_all];exact ha j v hj
 unfold bF
 by_cases Ec:τ.isAgg=true
 ·simp[loadVar,oE h,Ec,b8 h,hl]
 ·obtain⟨v,rfl,hc⟩:=hr.scalar (by simpa using Ec)
  have h0:=ha 0 v rfl
  simp only[awn]at h0
  simp[loadVar,oE h,Ec,load,Sem.run,h0]
theorem qE{o:Oper}{ρ:Operand→Value}{t:TypeId}{x:Operand}(ho:o.op= .load t x){w:World}{M:Nat→Prop}{τ:Ty}(h:gD P τ t){b off:Nat}{cs:List Value}{y:τ.den}
  (hx:ρ x= .pointer (some ⟨b,off,none⟩)) (ha:At w b off cs) (hr:Rd w M τ cs y):
  (execOp ρ o).run P w= .ok (.value (bF τ cs)) w:=by
 simp[execOp,ho,hx,Instr.loadAt,Instr.sureAddr,wq h ha hr]
theorem jm{o:Oper}{ρ:Operand→Value}{t:TypeId}{x y:Operand}(ho:o.op= .store t x y){w:World}{τ:Ty}(h:gD P τ t){b off:Nat}{cur:Array Value}{te:TypeId}
  (hx:ρ x= .pointer (some ⟨b,off,none⟩)) (hg:w.heap[b]? =some (.cells cur te (0,0))) (hs:(ρ y).cells.size=τ.size) (hf:off+τ.size≤cur.size) (h1: ∀v∈(ρ y).cells.toList,v.oneCell'=true):
  (execOp ρ o).run P w= .ok .skip (w.setRow b (cur.toList.take off++(ρ y).cells.toList++cur.toList.drop (off+(ρ y).cells.toList.length)).toArray):=by
 have Hr:=run_storeCells_at (P:=P) b off te (ρ y).cells.toList 0 cur w hg (by simp[hs];omega) h1
 simp only[awn]at Hr
 simp[execOp,ho,hx,Instr.storeAt,Instr.sureAddr,storeVar,b8 h,hs,Hr]
theorem oF{o:Oper}{ρ:Operand→Value}{t:TypeId}{x:Operand}{n:Nat}(ho:o.op= .fieldAddr t x n){w:World}{fs:Array Field}{f:Field}{b off:Nat}{υ:Ty}
  (hu:P.underlying t=some (.struct fs)) (hf:fs[n]? =some f) (hl:gD P υ f.type) (hz:υ.size≠0) (hx:ρ x= .pointer (some ⟨b,off,none⟩)):
  ∃a,(execOp ρ o).run P w= .ok (.value a) w∧a= .pointer (some ⟨b,off+f.offset,none⟩):=by
 refine⟨_,?_,rfl⟩
 simp[execOp,ho,hx,Instr.fieldAt,Instr.sureAddr,run_underlying hu,hf,fieldPlace,Addr.add_lit,b8 hl,hz]
theorem tH{τ:Ty}{t:TypeId}(h:gD P τ t){w:World}{M:Nat→Prop}{cs:Array Value}{off:Nat}{x:τ.den}(hr:Rd w M τ ((cs.toList.drop off).take τ.size) x):
  (part t cs off).run P w= .ok (bF τ ((cs.toList.drop off).take τ.size)) w:=by
 have hl:=hr.length
 unfold bF
 by_cases Ec:τ.isAgg=true
 ·simp only[part,Sem.run_bind,oE h,Result.andThen_ok,Ec,awt,b8 h]
  simp
  rw[auu,auP,aum]at hl
  apply av7
  simp only[Array.toList_extract,List.extract_eq_take_drop,awk]
 ·obtain⟨v,hv,hc⟩:=hr.scalar (by simpa using Ec)
  rw[hv]
  have h0:cs[off]? =some v:=by
   have:=avH (fun l=>l[0]?) hv
   simp only[avi,avj]at this
   split at this
   ·simpa using this
   ·simp at this
  simp[part,oE h,Ec,h0]
theorem Cv{o:Oper}{ρ:Operand→Value}{t:TypeId}{x:Operand}{n:Nat}(ho:o.op= .field t x n){w:World}{M:Nat→Prop}{fs:Array Field}{f:Field}{cs:Array Value}{υ:Ty}{y:υ.den}
  (hu:P.underlying t=some (.struct fs)) (hf:fs[n]? =some f) (hl:gD P υ f.type) (hx:ρ x= .agg cs) (hr:Rd w M υ ((cs.toList.drop f.offset).take υ.size) y):
  (execOp ρ o).run P w= .ok (.value (bF υ ((cs.toList.drop f.offset).take υ.size))) w:=by
 simp[execOp,ho,hx,Instr.field,run_underlying hu,hf,asAgg,tH hl hr]
theorem g5{o:Oper}{ρ:Operand→Value}{t e:TypeId}{x i:Operand}(ho:o.op= .indexAddr t x i){w:World}{τe:Ty}{b off len cap:Nat}{k:IntKind}{n:Int}
  (hu:P.underlying t=some (.slice e)) (he:gD P τe e) (hx:ρ x= .slice (some ⟨b,off,none⟩) len cap) (hi:ρ i= .int k n) (h0:0≤n) (h1:n<(len:Int)):
  (execOp ρ o).run P w= .ok (.value (.pointer (some ⟨b,off+n.toNat*τe.size,none⟩))) w:=by
 simp[execOp,ho,hx,hi,Instr.indexAt,asIntOf,run_underlying hu,h0,h1,b8 he,Addr.add_lit]
theorem nI{o:Oper}{ρ:Operand→Value}{t e:TypeId}{x i:Operand}(ho:o.op= .indexAddr t x i){w:World}{τe:Ty}{b off len:Nat}{k:IntKind}{n:Int}
  (hu:P.underlying t=some (.array len e)) (he:gD P τe e) (hx:ρ x= .pointer (some ⟨b,off,none⟩)) (hi:ρ i= .int k n) (h0:0≤n) (h1:n<(len:Int)):
  (execOp ρ o).run P w= .ok (.value (.pointer (some ⟨b,off+n.toNat*τe.size,none⟩))) w:=by
 simp[execOp,ho,hx,hi,Instr.indexAt,Instr.sureAddr,asIntOf,run_underlying hu,h0,h1,b8 he,Addr.add_lit]
theorem AI{o:Oper}{ρ:Operand→Value}{t e:TypeId}{x i:Operand}(ho:o.op= .index t x i){w:World}{M:Nat→Prop}{τe:Ty}{len:Nat}{k:IntKind}{n:Int}{cs:Array Value}{y:τe.den}
  (hu:P.underlying t=some (.array len e)) (he:gD P τe e) (hx:ρ x= .agg cs) (hi:ρ i= .int k n) (h0:0≤n) (h1:n<(len:Int)) (hr:Rd w M τe ((cs.toList.drop (n.toNat*τe.size)).take τe.size) y):
  (execOp ρ o).run P w= .ok (.value (bF τe ((cs.toList.drop (n.toNat*τe.size)).take τe.size))) w:=by
 simp[execOp,ho,hx,hi,Instr.index,asIntOf,run_underlying hu,h0,h1,b8 he,tH he hr]
theorem yC{o:Oper}{ρ:Operand→Value}{x:Operand}{n:Nat}(ho:o.op= .extract x n){w:World}{us:List Value}{v:Value}(hx:ρ x= .tuple us.toArray)(hv:us[n]? =some v):
  (execOp ρ o).run P w= .ok (.value v) w:=by
 simp[execOp,ho,hx,Instr.extract,hv]
theorem Ed{o:Oper}{ρ:Operand→Value}{x y z:Operand}(ho:o.op= .pick x y z){w:World}{b:Bool}(hx:ρ x= .bool b):
  (execOp ρ o).run P w= .ok (.value (if b then ρ y else ρ z)) w:=by
 simp[execOp,ho,hx,asBool]
theorem p8{o:Oper}{ρ:Operand→Value}{x:Operand}(ho:o.op= .nilCheck x){w:World}{a:Addr}(hx:ρ x= .pointer (some a)):
  (execOp ρ o).run P w= .ok (.value (.pointer (some a))) w:=by
 simp[execOp,ho,hx]
theorem xf{o:Oper}{ρ:Operand→Value}{f:FuncId}{first caps:Array Operand}(ho:o.op= .makeFunc (.func f) first caps)(hf:first= #[]){w:World}:
  (execOp ρ o).run P w= .ok (.value (.func (.func f) #[] (caps.map ρ))) w:=by
 subst hf
 simp[execOp,ho,Instr.makeFunc]
theorem yD{o:Oper}{ρ:Operand→Value}{s d:TypeId}{x:Operand}(ho:o.op= .convert s d x){w:World}{k k':IntKind}{n:Int}(hs:(P.underlying s).isSome=true)(hd:P.underlying d=some (.int k))(hx:ρ x= .int k' n):
  (execOp ρ o).run P w= .ok (.value (.int k (k.wrap n))) w:=by
 obtain⟨ds,hs⟩:=Option.isSome_iff_exists.1 hs
 simp[execOp,ho,hx,convert,run_underlying hs,run_underlying hd,Conv.intToInt]
theorem qF{o:Oper}{ρ:Operand→Value}{u:UnOp}{t:TypeId}{x:Operand}(ho:o.op= .unOp u t x){w:World}{v:Value}(h:(Op.unary u (ρ x)).run P w= .ok v w):
  (execOp ρ o).run P w= .ok (.value v) w:=by
 simp[execOp,ho,h]
theorem lD{o:Oper}{ρ:Operand→Value}{b:BinOp}{t t':TypeId}{x y:Operand}(ho:o.op= .binOp b t x y t'){w:World}{v:Value}
  (hg:(eqGuard b t x y (ρ x) (ρ y)).run P w= .ok () w) (h:(binOp b t (ρ x) (ρ y)).run P w= .ok v w):
  (execOp ρ o).run P w= .ok (.value v) w:=by
 simp[execOp,ho,hg,h]
theorem kZ{b:BinOp}{t:TypeId}{x y:Operand}{k k':IntKind}{m n:Int}(w:World):(eqGuard b t x y (.int k m) (.int k' n)).run P w= .ok () w:=by
 cases b<;>simp[eqGuard]
theorem vm{b:BinOp}{t:TypeId}{x y:Operand}{m n:Bool}(w:World):(eqGuard b t x y (.bool m) (.bool n)).run P w= .ok () w:=by
 cases b<;>simp[eqGuard]
theorem xg{b:BinOp}{t:TypeId}{x y:Operand}{m n:ByteArray}(w:World):(eqGuard b t x y (.string m) (.string n)).run P w= .ok () w:=by
 cases b<;>simp[eqGuard]
theorem mi{o:Oper}{ρ:Operand→Value}{b:Builtin}{args:Array Operand}{ts:Array TypeId}(ho:o.op= .call {callee:= .builtin b,args,argTypes:=ts}){w:World}:
  ∃cs,(execOp ρ o).run P w=(builtin b ts o.type cs (args.map ρ)).run P w:=by
 refine⟨args.map fun| .const _=>true|_=>false,?_⟩
 simp[execOp,ho,resolve,invoke]
 rfl
end VM
end
section
namespace VM
open Go
theorem nJ{α:Type}{r:α}: ∀{τ:Ty} {x:τ.den} {n:Nat} {m:(υ:Ty)→υ.den→(υ.den→Option α)→Option α} {k:τ.den→Option α},jj τ x n m k=some r→
  ∃υ y o k',xc τ x n υ y o∧m υ y k'=some r∧ ∀z r',k' z=some r'→ ∃x',k x'=some r'∧xc τ x' n υ z o∧
   ∀(w:World) (M:Nat→Prop) cs cs',Rd w M τ cs x→Rd w M υ cs' z→Rd w M τ (dg cs o cs') x'
 | .pair a b,x,0,m,k,h=>by
  refine⟨a,x.1,0,_,.here x,h,fun z r' hz=>⟨(z,x.2),hz,.here (a:=a) (b:=b) (z,x.2),fun w M cs cs' hr dT=> ?_⟩⟩
  simp only[Rd]at hr ⊢
  obtain⟨c1,c2,rfl,h1,h2⟩:=hr
  refine⟨cs',c2,?_,dT,h2⟩
  rw[tD (by rw[dT.length,h1.length];omega)]
  congr 1
  unfold dg
  rw[avk,dT.length,←h1.length];simp
 | .pair a b,x,n+1,m,k,h=>by
  obtain⟨υ,y,o,k',hf,hm,hk⟩:=nJ (τ:=b) (x:=x.2) (n:=n) (m:=m) (k:=fun z=>k (x.1,z)) h
  refine⟨υ,y,_,k',.there x hf,hm,fun z r' hz=> ?_⟩
  obtain⟨x',ns,xd,gV⟩:=hk z r' hz
  refine⟨(x.1,x'),ns,.there (a:=a) (b:=b) (x.1,x') xd,fun w M cs cs' hr dT=> ?_⟩
  simp only[Rd]at hr ⊢
  obtain⟨c1,c2,rfl,h1,h2⟩:=hr
  refine⟨c1,_,?_,h1,gV w M c2 cs' h2 dT⟩
  rw[←h1.length,rD]
 | .int _,_,_,_,_,h| .bool,_,_,_,_,h| .str,_,_,_,_,h| .slice _,_,_,_,_,h| .unit,_,_,_,_,h| .arr _ _,_,_,_,_,h=>by simp[jj]at h
def mj(w:World)(M:Nat→Prop)(e:Ty)(cs:List Value)(l:List e.den):Prop:=
 ∀i (h:i<l.length),Rd w M e ((cs.drop (i*e.size)).take e.size) l[i]
theorem cQ{i n s:Nat}(h:i<n):i*s+s≤n*s:=by
 have:(i+1)*s≤n*s:=ava _ h
 rw[au9,av2]at this;exact this
theorem mj.set{w:World}{M:Nat→Prop}{e:Ty}{cs:List Value}{l:List e.den}(h:mj w M e cs l)(hl:l.length*e.size≤cs.length){i:Nat}(hi:i<l.length){cs':List Value}{y:e.den}(hr:Rd w M e cs' y):
  mj w M e (dg cs (i*e.size) cs') (l.set i y):=by
 have hlen:=hr.length
 intro j hj
 rw[aup]at hj
 have h1:=cQ (s:=e.size) hi
 have h2:=cQ (s:=e.size) hj
 by_cases np:j=i
 ·subst np
  have:=YC (a:=cs) (o:=j*e.size) (new:=cs') (by omega)
  rw[hlen]at this
  rw[this,List.getElem_set_self];exact hr
 ·rw[Ct (by
   rcases Nat.lt_or_gt_of_ne np with dz|dz
   ·have:=cQ (s:=e.size) dz;left;omega
   ·have:=cQ (s:=e.size) dz;right;omega) (by omega),List.getElem_set_ne (av0 np)]
  exact h j hj
theorem mj.append{w:World}{M:Nat→Prop}{e:Ty}{c1 c2:List Value}{l1 l2:List e.den}(h1:mj w M e c1 l1)(hl:c1.length=l1.length*e.size)(h2:mj w M e c2 l2):mj w M e (c1++c2) (l1++l2):=by
 intro i hi
 by_cases dz:i<l1.length
 ·have:=cQ (s:=e.size) dz
  rw[avU (by omega),avT (by rw[auP];omega),awG dz]
  exact h1 i dz
 ·rw[aug]at hi
  obtain⟨k,rfl⟩: ∃k,i=l1.length+k:=⟨i-l1.length,by omega⟩
  rw[au9,←hl,←avr,avL rfl,axo (by omega)]
  simp only[awk]
  exact h2 k (by omega)
theorem mj.take{w:World}{M:Nat→Prop}{e:Ty}{cs:List Value}{l:List e.den}(h:mj w M e cs l){n:Nat}(hn:l.length*e.size≤n):mj w M e (cs.take n) l:=by
 intro i hi
 have:=cQ (s:=e.size) hi
 rw[awi,awj,avd (by omega)]
 exact h i hi
theorem mj.more{w:World}{M:Nat→Prop}{e:Ty}{cs cs':List Value}{l:List e.den}(h:mj w M e cs l)(hl:l.length*e.size≤cs.length):mj w M e (cs++cs') l:=by
 intro i hi
 have:=cQ (s:=e.size) hi
 rw[avU (by omega),avT (by rw[auP];omega)]
 exact h i hi
theorem mj.bt{w w':World}{M M':Nat→Prop}(k:df w M w' M'){e:Ty}{cs:List Value}{l:List e.den}(h:mj w M e cs l):mj w' M' e cs l:=fun i hi=>(h i hi).bt k
theorem Rd.arr{w:World}{M:Nat→Prop}{n:Nat}{e:Ty}{cs:List Value}{x:(Ty.arr n e).den}:Rd w M (.arr n e) cs x↔List.length x=n∧cs.length=n*e.size∧mj w M e cs x:=by
 constructor
 ·intro h
  have hl:=h.length
  have h':=h
  simp only[Rd]at h'
  refine⟨h'.1,hl,fun i hi=> ?_⟩
  have:=h.idx (i:=i) (by omega)
  rw[gE x i e.zero hi]at this
  exact this
 ·rintro⟨hn,hl,hr⟩
  simp only[Rd]
  refine⟨hn,(List.range n).map fun i=>(cs.drop (i*e.size)).take e.size,by simp,?_,fun i hi ji=> ?_⟩
  ·
   have key: ∀m (l:List Value),l.length=m*e.size→l=((List.range m).map fun i=>(l.drop (i*e.size)).take e.size).flatten:=by
    intro m
    induction m with
    |zero=>intro l hl;simpa using hl
    |succ m ih=>
     intro l hl
     have h1:(l.take (m*e.size)).length=m*e.size:=by rw[auu,hl,au9];omega
     have h2:=ih (l.take (m*e.size)) h1
     rw[axG,auV,List.flatten_append]
     have h3:((List.range m).map fun i=>(l.drop (i*e.size)).take e.size)=(List.range m).map fun i=>((l.take (m*e.size)).drop (i*e.size)).take e.size:=by
      apply avJ
      intro i hi
      have:=cQ (s:=e.size) (awl.1 hi)
      rw[awi,awj,avd (by omega)]
     rw[h3,←h2]
     simp only[auI,avS,awT,List.flatten_nil,auJ]
     rw[auM (l:=l.drop (m*e.size)) (by rw[auP,hl,au9];omega),auR]
   exact key n cs hl
  ·simp only[List.getElem_map,axg]
   exact hr i hi
theorem kE{α:Type}{r:α}{υ:Ty}{y:υ.den}: ∀{p:List Step} {τ:Ty} {x:τ.den} {k:τ.den→Option α},qi υ y p τ x k=some r→
  ∃z,k z=some r∧AG p τ=υ∧(sm p τ→bC p τ+υ.size≤τ.size)∧ ∀(w:World) (M:Nat→Prop) cs cs',sm p τ→Rd w M τ cs x→Rd w M υ cs' y→Rd w M τ (dg cs (bC p τ) cs') z
 |[],τ,x,k,h=>by
  obtain⟨e,h⟩:=a6 (h:b7 υ τ y k=some r)
  subst e
  refine⟨y,h,rfl,fun _=>by simp[bC],fun w M cs cs' _ hr dT=> ?_⟩
  unfold dg
  rw[show bC [] υ=0 from rfl,avk,dT.length,←hr.length]
  simpa using dT
 | .gA n::p,τ,x,k,h=>by
  obtain⟨υ',y',o,k',hf,hm,hk⟩:=nJ (h:jj τ x n _ k=some r)
  obtain⟨z',Ay,ht,Az,gV⟩:=kE (p:=p) (τ:=υ') (x:=y') (k:=k') hm
  obtain⟨x',ns,xd,KQ⟩:=hk z' r Ay
  obtain⟨h1,h2⟩:=hf.eq
  subst h1 h2
  refine⟨x',ns,ht,fun hi=>by have:=hf.bound;have:=Az hi;simp only[bC];omega,fun w M cs cs' hi hr dT=> ?_⟩
  have Az:=Az hi
  have h3:=gV w M _ cs' hi (hf.rd hr) dT
  have h4:=KQ w M cs _ hr h3
  have hb:=hf.bound
  have QS:=hr.length
  have hl2:=dT.length
  have Qo:=h3.length
  have jP:bC p (qm τ n)+cs'.length≤((cs.drop (nr τ n)).take (qm τ n).size).length:=by
   rw[auu,auP];omega
  have:dg cs (nr τ n) (dg ((cs.drop (nr τ n)).take (qm τ n).size) (bC p (qm τ n)) cs')=dg cs (nr τ n+bC p (qm τ n)) cs':=by
   have e1:cs=cs.take (nr τ n)++(((cs.drop (nr τ n)).take (qm τ n).size)++cs.drop (nr τ n+(qm τ n).size)):=by
    rw[←avr,auR,auR]
   have dz:(cs.take (nr τ n)).length=nr τ n:=by rw[auu];omega
   conv=>rhs;rw[e1]
   rw[show nr τ n+bC p (qm τ n)=(cs.take (nr τ n)).length+bC p (qm τ n)from by rw[dz],rD,tD jP]
   generalize dg ((cs.drop (nr τ n)).take (qm τ n).size) (bC p (qm τ n)) cs'=m at Qo ⊢
   unfold dg
   rw[Qo,aur]
  simp only[bC]
  rw[←this]
  exact h4
 | .idx i::p,τ,x,k,h=>by
  cases τ with
  |arr n e=>
   obtain⟨z',Ay,ht,Az,gV⟩:=kE (p:=p) (τ:=e) (x:=List.getD x i e.zero) (k:=fun z=>k (List.set x i z)) h
   refine⟨_,Ay,ht,fun hi=>by
    obtain⟨⟨n',e',he,jP⟩,ji⟩:=hi
    cases he
    have:=Az ji
    have hm:=cQ (s:=e.size) jP
    simp only[bC,YA,Ty.size];omega,fun w M cs cs' hi hr dT=> ?_⟩
   obtain⟨⟨n',e',he,jP⟩,ji⟩:=hi
   cases he
   have h3:=gV w M _ cs' ji (hr.idx jP) dT
   obtain⟨hn,QS,Hs⟩:=Rd.arr.1 hr
   have hm:=cQ (s:=e.size) jP
   have h4:=Hs.set (by rw[QS,hn];exact aul _) (i:=i) (by omega) h3
   have hl2:=dT.length
   have Qo:=h3.length
   have hch:((cs.drop (i*e.size)).take e.size).length=e.size:=by rw[auu,auP];omega
   have Az:=Az ji
   have aja:bC p e+cs'.length≤((cs.drop (i*e.size)).take e.size).length:=by omega
   have:dg cs (i*e.size) (dg ((cs.drop (i*e.size)).take e.size) (bC p e) cs')=dg cs (i*e.size+bC p e) cs':=by
    have e1:cs=cs.take (i*e.size)++(((cs.drop (i*e.size)).take e.size)++cs.drop (i*e.size+e.size)):=by
     rw[←avr,auR,auR]
    have dz:(cs.take (i*e.size)).length=i*e.size:=by rw[auu];omega
    conv=>rhs;rw[e1]
    rw[show i*e.size+bC p e=(cs.take (i*e.size)).length+bC p e from by rw[dz],rD,tD aja]
    generalize dg ((cs.drop (i*e.size)).take e.size) (bC p e) cs'=m at Qo ⊢
    unfold dg
    rw[Qo,aur]
   simp only[bC,YA]
   rw[←this]
   refine Rd.arr.2 ⟨by rw[aup];exact hn,?_,h4⟩
   rw[dZ (by rw[Qo];omega)];exact QS
  |_=>simp[qi,xN]at h
end VM
end
