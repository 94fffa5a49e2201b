/- A part of the proof of HedgeLess of layer 22: a machine that reads a function of the program as an equation between values. -/
import Derived.Test.YtocmlaipoebfeaaGreatVm0
import Derived.WalkLawsBesides
import Derived.Great.BuildSlice
import Derived.Laws.Tables
set_option linter.all false
section
namespace VM
open Go
structure Ctx where
 B:Nat
 w0:World
 M0:Nat→Prop
 may:Nat→Prop
 arg:Nat→Value
structure Mem(c:Ctx)(H:Nat→Option bl)(w:World)(M:Nat→Prop)(ν:Nat→Value):Prop where
 ll: ∀i e,H i=some e→ER w M (ν i) e
 AB: ∀i j e e' b,i≠j→H i=some e→e.mut→H j=some e'→e'.mut→fI (ν i)=some b→fI (ν j)≠some b
 new: ∀i e b,H i=some e→e.mut→fI (ν i)=some b→c.B≤b∨c.may b
 zj: ∀i e l b,H i=some (.own e l)→fI (ν i)=some b→ ¬c.M0 b
 ga: ∀i τ x p j,H i=some (.ga τ x p j)→H j≠none∧ ∃b,ν i= .pointer (some ⟨b,0,none⟩)∧w.cell? ⟨b,cJ p τ,none⟩=some (ν j)
 sub: ∀b,c.M0 b→M b
 FJ: ∀b,M b→b<w.heap.size
 frame: ∀b,b<c.B→ ¬c.may b→w.heap[b]? =c.w0.heap[b]?
 size:c.B≤w.heap.size
 wN:(∀b,c.M0 b→b<c.B)∧ ∀b,c.may b→ ¬c.M0 b
 os:w.os=c.w0.os
 tape:w.tape=c.w0.tape
 output:w.output=c.w0.output
structure Tr(c:Ctx)(H:Nat→Option bl)(w:World)(M:Nat→Prop)(ν:Nat→Value)(H':Nat→Option bl)(w':World)(M':Nat→Prop)(ν':Nat→Value):Prop where
 mem:Mem c H' w' M' ν'
 cm:fi w M w' M'
 goes:tU H ν H' ν'
theorem bl.lJ.trans{a b d:bl}(h:a.lJ b)(k:b.lJ d):a.lJ d:=by
 cases a<;>cases b<;>cases d<;>simp only[bl.lJ]at h k ⊢ <;>first
  |exact h.trans k
  |exact⟨h.1.trans k.1,h.2.trans k.2⟩
theorem tU.trans{H H' H'':Nat→Option bl}{ν ν' ν'':Nat→Value}(h:tU H ν H' ν')(k:tU H' ν' H'' ν''):tU H ν H'' ν'':=by
 refine⟨λi e he=> ?_,λi hi=> ?_⟩
 ·obtain⟨e',xi,l⟩:=h.ll i e he
  obtain⟨e'',auJ,l'⟩:=k.ll i e' xi
  exact⟨e'',auJ,l.trans l'⟩
 ·obtain⟨e,he⟩:=E9.1 hi
  obtain⟨e',xi,_⟩:=h.ll i e he
  rw[k.head i (by simp[xi]),h.head i hi]
theorem Tr.trans{c:Ctx}{H H' H'':Nat→Option bl}{w w' w'':World}{M M' Rl:Nat→Prop}{ν ν' ν'':Nat→Value}
  (h:Tr c H w M ν H' w' M' ν') (k:Tr c H' w' M' ν' H'' w'' Rl ν''):Tr c H w M ν H'' w'' Rl ν'':=
 ⟨k.mem,h.cm.trans k.cm,h.goes.trans k.goes⟩
theorem Tr.refl{c:Ctx}{H:Nat→Option bl}{w:World}{M:Nat→Prop}{ν:Nat→Value}(h:Mem c H w M ν):Tr c H w M ν H w M ν:=
 ⟨h,.refl w M,.refl H ν⟩
theorem ay(H:Nat→Option bl)(d:Nat)(v:Option bl):bZ H d v d=v:=by simp[bZ]
theorem az(H:Nat→Option bl){d i:Nat}(v:Option bl)(h:i≠d):bZ H d v i=H i:=by
 have:Nat.beq i d=false:=by rw[←nk,w8];exact h
 simp[bZ,this]
def c9(H:Nat→Option bl):ja→(Nat→Option bl)
 |[]=>H
 |u::r=>c9 (bZ H u.1 u.2) r
theorem RA(ups:ja): ∀σ:St,(σ.xa ups).H=c9 σ.H ups:=by
 induction ups with
 |nil=>intro σ;rfl
 |cons u r ih=>intro σ;exact ih _
theorem RC(ups:ja): ∀σ:St,(σ.xa ups).T=σ.T:=by
 induction ups with
 |nil=>intro σ;rfl
 |cons u r ih=>intro σ;exact ih _
theorem gl(a b:ja): ∀H,c9 H (a++b)=c9 (c9 H a) b:=by
 induction a with
 |nil=>intro H;rfl
 |cons u r ih=>intro H;exact ih _
theorem yi{H:Nat→Option bl}{id j:Nat}{v:bl}(h:H j≠none):bZ H id (some v) j≠none:=by
 by_cases hj:j=id
 ·subst hj;rw[ay];simp
 ·rw[az _ _ hj];exact h
theorem KT{H:Nat→Option bl}{w:World}{ν:Nat→Value}(h: ∀i τ x p j,H i=some (.ga τ x p j)→H j≠none∧ ∃b,ν i= .pointer (some ⟨b,0,none⟩)∧w.cell? ⟨b,cJ p τ,none⟩=some (ν j)){id:Nat}{v:bl}(hv: ∀τ x p j,v≠ .ga τ x p j):
  ∀i τ x p j,bZ H id (some v) i=some (.ga τ x p j)→bZ H id (some v) j≠none∧ ∃b,ν i= .pointer (some ⟨b,0,none⟩)∧w.cell? ⟨b,cJ p τ,none⟩=some (ν j):=by
 intro i τ x p j hi
 by_cases bY:i=id
 ·subst bY;rw[ay]at hi;cases hi;exact absurd rfl (hv _ _ _ _)
 ·rw[az _ _ bY]at hi
  obtain⟨h1,h2⟩:=h i τ x p j hi
  exact⟨yi h1,h2⟩
theorem Tr.gone{c:Ctx}{H:Nat→Option bl}{w:World}{M:Nat→Prop}{ν:Nat→Value}(h:Mem c H w M ν)(id:Nat):Tr c H w M ν (bZ H id (some .gone)) w M ν:=by
 refine⟨⟨λi e he=> ?_,λi j e e' b qB hi hm hj jY=> ?_,λi e b hi hm=> ?_,λi e l b hi=> ?_,KT h.ga (λ_ _ _ _=>by simp),h.sub,h.FJ,h.frame,h.size,h.wN,h.os,h.tape,h.output⟩,.refl w M,⟨λi e he=> ?_,λ_ _=>rfl⟩⟩
 ·by_cases bo:i=id
  ·subst bo;rw[ay]at he;cases he;simp[ER]
  ·rw[az _ _ bo]at he;exact h.ll i e he
 ·by_cases bo:i=id
  ·subst bo;rw[ay]at hi;cases hi;simp[bl.mut]at hm
  ·by_cases hjd:j=id
   ·subst hjd;rw[ay]at hj;cases hj;simp[bl.mut]at jY
   ·rw[az _ _ bo]at hi;rw[az _ _ hjd]at hj;exact h.AB i j e e' b qB hi hm hj jY
 ·by_cases bo:i=id
  ·subst bo;rw[ay]at hi;cases hi;simp[bl.mut]at hm
  ·rw[az _ _ bo]at hi;exact h.new i e b hi hm
 ·by_cases bo:i=id
  ·subst bo;rw[ay]at hi;cases hi
  ·rw[az _ _ bo]at hi;exact h.zj i e l b hi
 ·by_cases bo:i=id
  ·subst bo;exact⟨.gone,ay _ _ _,by cases e<;>simp[bl.lJ]⟩
  ·exact⟨e,by rw[az _ _ bo];exact he,.refl e⟩
theorem cell_of{w:World}{b:Nat}{cs:Array Value}{t:TypeId}{fz:Nat×Nat}(h:w.heap[b]? =some (.cells cs t fz))(o:Nat):w.cell? ⟨b,o,none⟩=cs[o]? :=by
 simp[World.cell?,h]
theorem At.of_block{w:World}{b:Nat}{cs:Array Value}{t:TypeId}{fz:Nat×Nat}(h:w.heap[b]? =some (.cells cs t fz))(o n:Nat):
  At w b o ((cs.toList.drop o).take n):=by
 intro j v hj
 rw[cell_of h]
 rw[mg]at hj
 split at hj
 ·rw[mh]at hj;simpa using hj
 ·cases hj
theorem lt_of_block{w:World}{b:Nat}{o:Obj}(h:w.heap[b]? =some o):b<w.heap.size:=(kH.1 h).1
theorem ER.cm{w w':World}{M M':Nat→Prop}{v:Value}(k:fi w M w' M'): ∀{e:bl},
  (e.mut→ ∀b,fI v=some b→w'.heap[b]? =w.heap[b]? ∧M' b)→ER w M v e→ER w' M' v e
 | .obj τ x,hm,h=>by
  simp only[ER]at h ⊢
  obtain⟨b,cs,t,rfl,hb,hM,hr⟩:=h
  obtain⟨h1,h2⟩:=hm trivial b rfl
  exact⟨b,cs,t,rfl,h1.trans hb,h2,hr.cm k⟩
 | .ga τ x p j,hm,h=>by
  simp only[ER]at h ⊢
  obtain⟨b,cs,t,tj,u,rfl,hb,hM,hr,h3⟩:=h
  obtain⟨h1,h2⟩:=hm trivial b rfl
  exact⟨b,cs,t,tj,u,rfl,h1.trans hb,h2,hr.cm k,h3⟩
 | .own e l,hm,h=>by
  simp only[ER]at h ⊢
  rcases h with h|⟨b,cs,t,cap,rfl,hb,hM,hc,hl,FK,hs,hr⟩
  ·exact .inl h
  ·obtain⟨h1,h2⟩:=hm trivial b (by simp[fI];omega)
   exact .inr ⟨b,cs,t,cap,rfl,h1.trans hb,h2,hc,hl,FK,hs,λi hi=>(hr i hi).cm k⟩
 | .o8 e l,_,h=>by
  simp only[ER]at h ⊢
  exact⟨h.1.cm k,h.2⟩
 | .gone,_,_=>by simp[ER]
theorem ER.yI{w:World}{M:Nat→Prop}{v:Value}{e:bl}(h:ER w M v e)(hm:e.mut){b:Nat}(hb:fI v=some b):M b:=by
 cases e with
 |obj τ x=>simp only[ER]at h;obtain⟨b',cs,t,hv,fg,hM,_⟩:=h;rw[hv]at hb;simp only[fI,iA]at hb;subst hb;exact hM
 |ga τ x p j=>simp only[ER]at h;obtain⟨b',cs,t,_,_,hv,fg,hM,_⟩:=h;rw[hv]at hb;simp only[fI,iA]at hb;subst hb;exact hM
 |own e1 l1=>
  simp only[ER]at h
  rcases h with⟨_,a,hv⟩|⟨b',cs,t,cap,hv,fg,hM,hc,_⟩
  ·rw[hv]at hb;cases a<;>simp[fI]at hb
  ·rw[hv]at hb;simp only[fI]at hb;split at hb
   ·cases hb
   ·simp only[iA]at hb;subst hb;exact hM
 |o8 _ _=>simp[bl.mut]at hm
 |gone=>simp[bl.mut]at hm
theorem Tr.freeze{c:Ctx}{H:Nat→Option bl}{w:World}{M:Nat→Prop}{ν:Nat→Value}(h:Mem c H w M ν){id:Nat}{e:Ty}{l:List e.den}(bo:H id=some (.own e l)):
  ∃M',Tr c H w M ν (bZ H id (some (.o8 e l))) w M' ν∧V w M' (.slice e) (ν id) l∧ ∀b,M' b↔(M b∧fI (ν id)≠some b):=by
 have hk:fi w M w (λb=>M b∧fI (ν id)≠some b):=⟨aH _,λ_ _ _=>rfl,λ_ _ h=>h.1⟩
 have he:=h.ll id _ bo
 have ld:Rd w (λb=>M b∧fI (ν id)≠some b) (.slice e) [ν id] l:=by
  simp only[ER]at he
  simp only[Rd]
  rcases he with⟨rfl,a,hv⟩|⟨b,cs,t,cap,hv,hb,hM,hc,hl,FK,hs,hr⟩
  ·exact⟨a,0,by rw[hv];rfl,aH _,λi hi=>absurd hi (by simp)⟩
  ·refine⟨_,cap,by rw[hv],hl,λi hi=>⟨b,0,rfl,lt_of_block hb,λhm=>hm.2 (by rw[hv];simp[fI];omega),_,?_,(hr i hi).cm hk⟩⟩
   rw[fT]
   exact At.of_block hb _ _
 refine⟨λb=>M b∧fI (ν id)≠some b,⟨⟨λi e' hi=> ?_,λi j e1 e2 b qB hi hm hj jY=> ?_,λi e1 b hi hm=> ?_,λi e1 l1 b hi=> ?_,KT h.ga (λ_ _ _ _=>by simp),λb hb=>⟨h.sub b hb,λhm=>h.zj id e l b bo hm hb⟩,λb hb=>h.FJ b hb.1,h.frame,h.size,h.wN,h.os,h.tape,h.output⟩,hk,⟨λi e' hi=> ?_,λ_ _=>rfl⟩⟩,?_,λ_=>Iff.rfl⟩
 ·by_cases bY:i=id
  ·subst bY;rw[ay]at hi;cases hi
   simp only[ER]
   refine⟨ld,?_⟩
   simp only[ER]at he
   rcases he with⟨rfl,a,hv⟩|⟨b,cs,t,cap,hv,_⟩
   ·exact .inl ⟨rfl,a,0,0,hv⟩
   ·exact .inr ⟨b,_,cap,hv⟩
  ·rw[az _ _ bY]at hi
   refine(h.ll i e' hi).cm hk (λhm b hb=>⟨rfl,?_,?_⟩)
   ·exact(h.ll i e' hi).yI hm hb
   ·exact h.AB i id e' (.own e l) b bY hi hm bo trivial hb
 ·by_cases bY:i=id
  ·subst bY;rw[ay]at hi;cases hi;simp[bl.mut]at hm
  ·by_cases H4:j=id
   ·subst H4;rw[ay]at hj;cases hj;simp[bl.mut]at jY
   ·rw[az _ _ bY]at hi;rw[az _ _ H4]at hj;exact h.AB i j e1 e2 b qB hi hm hj jY
 ·by_cases bY:i=id
  ·subst bY;rw[ay]at hi;cases hi;simp[bl.mut]at hm
  ·rw[az _ _ bY]at hi;exact h.new i e1 b hi hm
 ·by_cases bY:i=id
  ·subst bY;rw[ay]at hi;cases hi
  ·rw[az _ _ bY]at hi;exact h.zj i e1 l1 b hi
 ·by_cases bY:i=id
  ·subst bY;rw[bo]at hi;cases hi;exact⟨_,ay _ _ _,rfl,rfl⟩
  ·exact⟨e',by rw[az _ _ bY];exact hi,.refl e'⟩
 ·unfold V;rw[aj (by simp[Ty.isAgg])];exact ld
theorem Tr.fix{c:Ctx}{H:Nat→Option bl}{w:World}{M:Nat→Prop}{ν:Nat→Value}(h:Mem c H w M ν){id:Nat}{τ:Ty}{x:τ.den}(bo:H id=some (.obj τ x)):
  ∃M' b,Tr c H w M ν (bZ H id (some .gone)) w M' ν∧ν id= .pointer (some ⟨b,0,none⟩)∧b<w.heap.size∧ ¬M' b∧ ∃cs,At w b 0 cs∧Rd w M' τ cs x:=by
 have he:=h.ll id _ bo
 simp only[ER]at he
 obtain⟨b0,cs,t,hv,hb,hM,hr⟩:=he
 have xj:fI (ν id)=some b0:=by rw[hv];rfl
 have hk:fi w M w (λb=>M b∧b≠b0):=⟨aH _,λ_ _ _=>rfl,λ_ _ h=>h.1⟩
 have I6: ¬c.M0 b0:=λhm=>(h.new id _ b0 bo trivial xj).elim (λhB=>by have:=h.wN.1 b0 hm;omega) (λhB=>h.wN.2 b0 hB hm)
 refine⟨λb=>M b∧b≠b0,b0,⟨⟨λi e' hi=> ?_,λi j e1 e2 b qB hi hm hj jY=> ?_,λi e1 b hi hm=> ?_,λi e1 l1 b hi=> ?_,KT h.ga (λ_ _ _ _=>by simp),λb fg=>⟨h.sub b fg,λe=>I6 (e▸fg)⟩,λb fg=>h.FJ b fg.1,h.frame,h.size,h.wN,h.os,h.tape,h.output⟩,hk,⟨λi e' hi=> ?_,λ_ _=>rfl⟩⟩,hv,lt_of_block hb,λhm=>hm.2 rfl,cs.toList,?_,hr.cm hk⟩
 ·by_cases bY:i=id
  ·subst bY;rw[ay]at hi;cases hi;simp[ER]
  ·rw[az _ _ bY]at hi
   refine(h.ll i e' hi).cm hk (λhm b fg=>⟨rfl,?_,?_⟩)
   ·exact(h.ll i e' hi).yI hm fg
   ·intro e
    exact h.AB i id e' (.obj τ x) b bY hi hm bo trivial fg (by rw[xj,e])
 ·by_cases bY:i=id
  ·subst bY;rw[ay]at hi;cases hi;simp[bl.mut]at hm
  ·by_cases H4:j=id
   ·subst H4;rw[ay]at hj;cases hj;simp[bl.mut]at jY
   ·rw[az _ _ bY]at hi;rw[az _ _ H4]at hj;exact h.AB i j e1 e2 b qB hi hm hj jY
 ·by_cases bY:i=id
  ·subst bY;rw[ay]at hi;cases hi;simp[bl.mut]at hm
  ·rw[az _ _ bY]at hi;exact h.new i e1 b hi hm
 ·by_cases bY:i=id
  ·subst bY;rw[ay]at hi;cases hi
  ·rw[az _ _ bY]at hi;exact h.zj i e1 l1 b hi
 ·by_cases bY:i=id
  ·subst bY;rw[bo]at hi;cases hi;exact⟨_,ay _ _ _,trivial⟩
  ·exact⟨e',by rw[az _ _ bY];exact hi,.refl e'⟩
 ·have:=At.of_block hb 0 cs.toList.length
  rwa [c0,jf]at this
end VM
end
section
namespace VM
open Go
theorem FL(w:World)(o:Obj):(w.alloc o).heap[w.heap.size]? =some o:=by
 show(w.heap.push o)[w.heap.size]? =some o
 simp
theorem ri(w:World)(o:Obj){i:Nat}(h:i<w.heap.size):(w.alloc o).heap[i]? =w.heap[i]? :=by
 show(w.heap.push o)[i]? =w.heap[i]?
 rw[Array.getElem?_push,aj (Nat.ne_of_lt h)]
theorem size_alloc(w:World)(o:Obj):(w.alloc o).heap.size=w.heap.size+1:=by
 show(w.heap.push o).size=_
 simp
def dr(ν:Nat→Value)(d:Nat)(v:Value):Nat→Value:=λi=>if i=d then v else ν i
theorem rT{c:Ctx}{H:Nat→Option bl}{w w':World}{M:Nat→Prop}{ν ν':Nat→Value}(h:Mem c H w M ν){H':Nat→Option bl}
  (hν: ∀i,H i≠none→ν' i=ν i) (hn: ∀i,H i≠none→H' i≠none)
  (hi: ∀i τ x p j,H' i=some (.ga τ x p j)→(H i=some (.ga τ x p j)∧ ∀b,ν i= .pointer (some ⟨b,0,none⟩)→w'.heap[b]? =w.heap[b]?)∨(H' j≠none∧ ∃b,ν' i= .pointer (some ⟨b,0,none⟩)∧w'.cell? ⟨b,cJ p τ,none⟩=some (ν' j))):
  ∀i τ x p j,H' i=some (.ga τ x p j)→H' j≠none∧ ∃b,ν' i= .pointer (some ⟨b,0,none⟩)∧w'.cell? ⟨b,cJ p τ,none⟩=some (ν' j):=by
 intro i τ x p j he
 rcases hi i τ x p j he with⟨h1,hb⟩|h1
 ·obtain⟨h2,b,h3,h4⟩:=h.ga i τ x p j h1
  refine⟨hn j h2,b,by rw[hν i (by rw[h1];simp)];exact h3,?_⟩
  rw[hν j h2,World.cell?_of_block (w:=w) (hb b h3)]
  exact h4
 ·exact h1
theorem yj{H:Nat→Option bl}{id:Nat}{v:bl}: ∀i,H i≠none→bZ H id (some v) i≠none:=λ_ h=>yi h
theorem AD{H:Nat→Option bl}{id:Nat}{v:bl}(hv: ∀τ x p j,v≠ .ga τ x p j){i:Nat}{τ:Ty}{x:τ.den}{p:List Step}{j:Nat}(h:bZ H id (some v) i=some (.ga τ x p j)):H i=some (.ga τ x p j):=by
 by_cases bY:i=id
 ·subst bY;rw[ay]at h;cases h;exact absurd rfl (hv _ _ _ _)
 ·rw[az _ _ bY]at h;exact h
theorem Tr.alloc{c:Ctx}{H:Nat→Option bl}{w:World}{M:Nat→Prop}{ν:Nat→Value}(h:Mem c H w M ν){id:Nat}(bo:H id=none)(o:Obj)(v:Value)(e:bl)(hm:e.mut)(I7: ∀τ x p j,e≠ .ga τ x p j)
  (hb:fI v=none∨fI v=some w.heap.size) (UX:ER (w.alloc o) (λb=>M b∨b=w.heap.size) v e):
  Tr c H w M ν (bZ H id (some e)) (w.alloc o) (λb=>M b∨b=w.heap.size) (dr ν id v):=by
 have hk:fi w M (w.alloc o) (λb=>M b∨b=w.heap.size):=
  ⟨by rw[size_alloc];omega,λb hb _=>ri w o hb,λb hb h'=>h'.resolve_right ω⟩
 have hν: ∀i,i≠id→dr ν id v i=ν i:=λi hi=>by simp[dr,hi]
 have D3:dr ν id v id=v:=by simp[dr]
 have fj: ∀i e' b,H i=some e'→e'.mut→fI (ν i)=some b→b<w.heap.size:=λi e' b hi jY fg=>h.FJ b ((h.ll i e' hi).yI jY fg)
 refine⟨⟨λi e' hi=> ?_,λi j e1 e2 b qB hi uK hj yY=> ?_,λi e1 b hi uK=> ?_,λi e1 l1 b hi=> ?_,rT h (λi hi=>hν i (λe=>hi (e▸bo))) yj (λi τ x p j hi=> .inl ⟨AD I7 hi,λb hb=>ri w o (fj i _ b (AD I7 hi) trivial (by rw[hb];rfl))⟩),λb hb=> .inl (h.sub b hb),λb fg=> ?_,λb mJ uM=> ?_,?_,h.wN,h.os,h.tape,h.output⟩,hk,⟨λi e' hi=> ?_,λi hi=> ?_⟩⟩
 ·by_cases bY:i=id
  ·subst bY;rw[ay]at hi;cases hi;rw[D3];exact UX
  ·rw[az _ _ bY]at hi;rw[hν i bY]
   exact(h.ll i e' hi).cm hk λjY b fg=>⟨ri w o (fj i e' b hi jY fg),.inl ((h.ll i e' hi).yI jY fg)⟩
 ·by_cases bY:i=id
  ·subst bY;rw[ay]at hi;cases hi;rw[D3]
   intro mJ
   have H4:j≠i:=eU qB
   rw[az _ _ H4]at hj;rw[hν j H4]
   intro uM
   have:=fj j e2 b hj yY uM
   rcases hb with hb|hb<;>rw[hb]at mJ<;>simp at mJ
   omega
  ·rw[az _ _ bY]at hi;rw[hν i bY]
   by_cases H4:j=id
   ·subst H4;rw[D3]
    intro mJ uM
    have:=fj i e1 b hi uK mJ
    rcases hb with hb|hb<;>rw[hb]at uM<;>simp at uM
    omega
   ·rw[az _ _ H4]at hj;rw[hν j H4];exact h.AB i j e1 e2 b qB hi uK hj yY
 ·by_cases bY:i=id
  ·subst bY;rw[D3]
   intro mJ
   rcases hb with hb|hb<;>rw[hb]at mJ<;>simp at mJ
   subst mJ;exact .inl h.size
  ·rw[az _ _ bY]at hi;rw[hν i bY];exact h.new i e1 b hi uK
 ·by_cases bY:i=id
  ·subst bY;rw[D3]
   intro mJ h0
   rcases hb with hb|hb<;>rw[hb]at mJ<;>simp at mJ
   have:=h.wN.1 b h0
   have:=h.size
   omega
  ·rw[az _ _ bY]at hi;rw[hν i bY];exact h.zj i e1 l1 b hi
 ·rw[size_alloc]
  rcases fg with fg|fg
  ·have:=h.FJ b fg;omega
  ·omega
 ·rw[ri w o (nc mJ h.size)];exact h.frame b mJ uM
 ·rw[size_alloc];have:=h.size;omega
 ·by_cases bY:i=id
  ·subst bY;rw[bo]at hi;cases hi
  ·exact⟨e',by rw[az _ _ bY];exact hi,.refl e'⟩
 ·have bY:i≠id:=λe=>hi (e▸bo)
  exact hν i bY
theorem Tr.var{c:Ctx}{H:Nat→Option bl}{w:World}{M:Nat→Prop}{ν:Nat→Value}(h:Mem c H w M ν){id:Nat}(bo:H id=none)(t:TypeId){τ:Ty}{cs:Array Value}{x:τ.den}(hr:Rd w M τ cs.toList x):
  Tr c H w M ν (bZ H id (some (.obj τ x))) (w.alloc (.cells cs t)) (λb=>M b∨b=w.heap.size) (dr ν id (.pointer (some ⟨w.heap.size,0,none⟩))):=by
 refine Tr.alloc h bo _ _ _ trivial (λ_ _ _ _=>by simp) (.inr rfl) ?_
 simp only[ER]
 have hk:fi w M (w.alloc (.cells cs t)) (λb=>M b∨b=w.heap.size):=
  ⟨by rw[size_alloc];omega,λb hb _=>ri w _ hb,λb hb h'=>h'.resolve_right ω⟩
 exact⟨w.heap.size,cs,t,rfl,FL w _,.inr rfl,hr.cm hk⟩
theorem Tr.row{c:Ctx}{H:Nat→Option bl}{w:World}{M:Nat→Prop}{ν:Nat→Value}(h:Mem c H w M ν){id:Nat}(bo:H id=none)(t:TypeId){e:Ty}{cs:Array Value}{l:List e.den}{cap:Nat}
  (hl:l.length≤cap) (hm:cap≤maxLen) (hs:cs.size=cap*e.size) (hr: ∀i (hi:i<l.length),Rd w M e ((cs.toList.drop (i*e.size)).take e.size) l[i]):
  Tr c H w M ν (bZ H id (some (.own e l))) (w.alloc (.cells cs t)) (λb=>M b∨b=w.heap.size) (dr ν id (.slice (some ⟨w.heap.size,0,none⟩) l.length cap)):=by
 have hk:fi w M (w.alloc (.cells cs t)) (λb=>M b∨b=w.heap.size):=
  ⟨by rw[size_alloc];omega,λb hb _=>ri w _ hb,λb hb h'=>h'.resolve_right ω⟩
 refine Tr.alloc h bo _ _ _ trivial (λ_ _ _ _=>by simp) ?_ ?_
 ·simp only[fI];split
  ·exact .inl rfl
  ·exact .inr rfl
 ·simp only[ER]
  by_cases hc:cap=0
  ·subst hc
   have hl0:l=[]:=ta ω
   subst hl0
   exact .inl ⟨rfl,_,rfl⟩
  ·exact .inr ⟨w.heap.size,cs,t,cap,rfl,FL w _,.inr rfl,ω,hl,hm,hs,λi hi=>(hr i hi).cm hk⟩
theorem Tr.drew{c:Ctx}{H:Nat→Option bl}{w:World}{M:Nat→Prop}{ν:Nat→Value}(h:Mem c H w M ν):Tr c H w M ν H w.drew M ν:=by
 have hk:fi w M w.drew M:=⟨aH _,λ_ _ _=>rfl,λ_ _ h=>h⟩
 exact⟨⟨λi e he=>(h.ll i e he).cm hk λhm b hb=>⟨rfl,(h.ll i e he).yI hm hb⟩,h.AB,h.new,h.zj,h.ga,h.sub,h.FJ,h.frame,h.size,h.wN,h.os,h.tape,h.output⟩,hk,.refl H ν⟩
theorem size_setRow(w:World)(g:Nat)(cs:Array Value):(w.setRow g cs).heap.size=w.heap.size:=by simp[World.setRow]
theorem Tr.write{c:Ctx}{H:Nat→Option bl}{w:World}{M:Nat→Prop}{ν:Nat→Value}(h:Mem c H w M ν){id:Nat}{e e':bl}(bo:H id=some e)(hm:e.mut)(jY:e'.mut)(hl:e.lJ e')
  {b:Nat} (hb:fI (ν id)=some b) {cs new:Array Value} {t:TypeId} (hg:w.heap[b]? =some (.cells cs t (0,0)))
  (UX: ∀M',fi w M (w.setRow b new) M'→M' b→ER (w.setRow b new) M' (ν id) e')
  (tV: ∀τ x p j,e'= .ga τ x p j→H j≠none∧ ∃b',ν id= .pointer (some ⟨b',0,none⟩)∧(w.setRow b new).cell? ⟨b',cJ p τ,none⟩=some (ν j):=by intro _ _ _ _ h;cases h):
  Tr c H w M ν (bZ H id (some e')) (w.setRow b new) M ν:=by
 have hMb:M b:=(h.ll id e bo).yI hm hb
 have hk:fi w M (w.setRow b new) M:=
  ⟨by rw[size_setRow];exact aH _,λb' _ hm=>setRow_other w b b' new (λe=>hm (e▸hMb)),λ_ _ h=>h⟩
 refine⟨⟨λi e1 hi=> ?_,λi j e1 e2 b1 qB hi uK hj yY=> ?_,λi e1 b1 hi uK=> ?_,λi e1 l1 b1 hi=> ?_,rT h (λ_ _=>rfl) yj (λi τ x p j hi=> ?_),h.sub,λb1 mJ=>by rw[size_setRow];exact h.FJ b1 mJ,λb1 mJ uM=> ?_,by rw[size_setRow];exact h.size,h.wN,h.os,h.tape,h.output⟩,hk,⟨λi e1 hi=> ?_,λi hi=>rfl⟩⟩
 ·by_cases bY:i=id
  ·subst bY;rw[ay]at hi;cases hi;exact UX M hk hMb
  ·rw[az _ _ bY]at hi
   exact(h.ll i e1 hi).cm hk λuK b1 mJ=>⟨setRow_other w b b1 new (λe'=>h.AB i id e1 e b1 bY hi uK bo hm mJ (e'▸hb)),(h.ll i e1 hi).yI uK mJ⟩
 ·by_cases bY:i=id
  ·subst bY;rw[ay]at hi;cases hi
   have H4:j≠i:=eU qB
   rw[az _ _ H4]at hj
   exact h.AB i j e e2 b1 qB bo hm hj yY
  ·rw[az _ _ bY]at hi
   by_cases H4:j=id
   ·subst H4;exact h.AB i j e1 e b1 qB hi uK bo hm
   ·rw[az _ _ H4]at hj;exact h.AB i j e1 e2 b1 qB hi uK hj yY
 ·by_cases bY:i=id
  ·subst bY;exact h.new i e b1 bo hm
  ·rw[az _ _ bY]at hi;exact h.new i e1 b1 hi uK
 ·by_cases bY:i=id
  ·subst bY;rw[ay]at hi;cases hi
   cases e with
   |own e0 l0=>exact h.zj i e0 l0 b1 bo
   |obj _ _=>simp[bl.lJ]at hl
   |ga _ _ _ _=>simp[bl.lJ]at hl
   |o8 _ _=>simp[bl.mut]at hm
   |gone=>simp[bl.mut]at hm
  ·rw[az _ _ bY]at hi;exact h.zj i e1 l1 b1 hi
 ·by_cases bY:i=id
  ·subst bY;rw[ay]at hi;cases hi
   obtain⟨h1,h2⟩:=tV _ _ _ _ rfl
   exact .inr ⟨yi h1,h2⟩
  ·rw[az _ _ bY]at hi
   exact .inl ⟨hi,λb1 mJ=>setRow_other w b b1 new (λe1=>h.AB i id _ e b1 bY hi trivial bo hm (by rw[mJ];rfl) (e1▸hb))⟩
 ·rw[setRow_other w b b1 new]
  ·exact h.frame b1 mJ uM
  ·intro hbb;subst hbb
   rcases h.new id e b1 bo hm hb with h'|h'
   ·omega
   ·exact uM h'
 ·by_cases bY:i=id
  ·subst bY;rw[bo]at hi;cases hi;exact⟨e',ay _ _ _,hl⟩
  ·exact⟨e1,by rw[az _ _ bY];exact hi,.refl e1⟩
theorem Tr.rename{c:Ctx}{H:Nat→Option bl}{w:World}{M:Nat→Prop}{ν:Nat→Value}(h:Mem c H w M ν){j id:Nat}{e e':Ty}{l:List e.den}{l':List e'.den}(hj:H j=some (.own e l))(bo:H id=none)
  {v:Value} (hb:fI v=none∨fI v=fI (ν j)) (UX:ER w M v (.own e' l')):
  Tr c H w M ν (bZ (bZ H j (some .gone)) id (some (.own e' l'))) w M (dr ν id v):=by
 have iI:j≠id:=λe=>by rw[e,bo]at hj;cases hj
 have h1:=(Tr.gone h j).mem
 have qb:bZ H j (some .gone) id=none:=by rw[az _ _ (eU iI)];exact bo
 have hν: ∀i,i≠id→dr ν id v i=ν i:=λi hi=>by simp[dr,hi]
 have D3:dr ν id v id=v:=by simp[dr]
 refine⟨⟨λi e1 hi=> ?_,λi k e1 e2 b1 qB hi uK hk yY=> ?_,λi e1 b1 hi uK=> ?_,λi e1 l1 b1 hi=> ?_,rT h1 (λi hi=>hν i (λe=>hi (e▸qb))) yj (λi τ x p j hi=> .inl ⟨AD (λ_ _ _ _=>by simp) hi,λ_ _=>rfl⟩),h.sub,h.FJ,h.frame,h.size,h.wN,h.os,h.tape,h.output⟩,.refl w M,⟨λi e1 hi=> ?_,λi hi=> ?_⟩⟩
 ·by_cases bY:i=id
  ·subst bY;rw[ay]at hi;cases hi;rw[D3];exact UX
  ·rw[az _ _ bY]at hi;rw[hν i bY];exact h1.ll i e1 hi
 ·by_cases bY:i=id
  ·subst bY;rw[ay]at hi;cases hi;rw[D3]
   have Nn:k≠i:=eU qB
   rw[az _ _ Nn]at hk;rw[hν k Nn]
   intro mJ
   rcases hb with hb|hb
   ·rw[hb]at mJ;cases mJ
   ·rw[hb]at mJ
    by_cases hkj:k=j
    ·subst hkj;rw[ay]at hk;cases hk;simp[bl.mut]at yY
    ·rw[az _ _ hkj]at hk;exact h.AB j k _ e2 b1 (eU hkj) hj trivial hk yY mJ
  ·rw[az _ _ bY]at hi;rw[hν i bY]
   by_cases Nn:k=id
   ·subst Nn;rw[D3]
    intro mJ uM
    rcases hb with hb|hb
    ·rw[hb]at uM;cases uM
    ·rw[hb]at uM
     by_cases Il:i=j
     ·subst Il;rw[ay]at hi;cases hi;simp[bl.mut]at uK
     ·rw[az _ _ Il]at hi;exact h.AB j i _ e1 b1 (eU Il) hj trivial hi uK uM mJ
   ·rw[az _ _ Nn]at hk;rw[hν k Nn];exact h1.AB i k e1 e2 b1 qB hi uK hk yY
 ·by_cases bY:i=id
  ·subst bY;rw[D3];intro mJ
   rcases hb with hb|hb
   ·rw[hb]at mJ;cases mJ
   ·rw[hb]at mJ;exact h.new j _ b1 hj trivial mJ
  ·rw[az _ _ bY]at hi;rw[hν i bY];exact h1.new i e1 b1 hi uK
 ·by_cases bY:i=id
  ·subst bY;rw[D3];intro mJ
   rcases hb with hb|hb
   ·rw[hb]at mJ;cases mJ
   ·rw[hb]at mJ;exact h.zj j e l b1 hj mJ
  ·rw[az _ _ bY]at hi;rw[hν i bY];exact h1.zj i e1 l1 b1 hi
 ·by_cases Il:i=j
  ·subst Il;exact⟨.gone,by rw[az _ _ iI,ay],by cases e1<;>simp[bl.lJ]⟩
  ·have bY:i≠id:=λe=>by rw[e,bo]at hi;cases hi
   exact⟨e1,by rw[az _ _ bY,az _ _ Il];exact hi,.refl e1⟩
 ·exact hν i (λe=>hi (e▸bo))
theorem Tr.Im{c:Ctx}{H:Nat→Option bl}{w:World}{M:Nat→Prop}{ν:Nat→Value}(h:Mem c H w M ν){id:Nat}{e e':bl}(bo:H id=some e)(hm:e.mut)(jY:e'.mut)(hl:e.lJ e')(uN: ∀e0 l0,e'≠ .own e0 l0)
  (UX:ER w M (ν id) e') (tV: ∀τ x p j,e'= .ga τ x p j→H j≠none∧ ∃b',ν id= .pointer (some ⟨b',0,none⟩)∧w.cell? ⟨b',cJ p τ,none⟩=some (ν j)):
  Tr c H w M ν (bZ H id (some e')) w M ν:=by
 refine⟨⟨λi e1 hi=> ?_,λi j e1 e2 b1 qB hi uK hj yY=> ?_,λi e1 b1 hi uK=> ?_,λi e1 l1 b1 hi=> ?_,rT h (λ_ _=>rfl) yj (λi τ x p j hi=> ?_),h.sub,h.FJ,h.frame,h.size,h.wN,h.os,h.tape,h.output⟩,.refl w M,⟨λi e1 hi=> ?_,λi hi=>rfl⟩⟩
 ·by_cases bY:i=id
  ·subst bY;rw[ay]at hi;cases hi;exact UX
  ·rw[az _ _ bY]at hi;exact h.ll i e1 hi
 ·by_cases bY:i=id
  ·subst bY;rw[ay]at hi;cases hi
   have H4:j≠i:=eU qB
   rw[az _ _ H4]at hj
   exact h.AB i j e e2 b1 qB bo hm hj yY
  ·rw[az _ _ bY]at hi
   by_cases H4:j=id
   ·subst H4;exact h.AB i j e1 e b1 qB hi uK bo hm
   ·rw[az _ _ H4]at hj;exact h.AB i j e1 e2 b1 qB hi uK hj yY
 ·by_cases bY:i=id
  ·subst bY;exact h.new i e b1 bo hm
  ·rw[az _ _ bY]at hi;exact h.new i e1 b1 hi uK
 ·by_cases bY:i=id
  ·subst bY;rw[ay]at hi;cases hi;exact absurd rfl (uN _ _)
  ·rw[az _ _ bY]at hi;exact h.zj i e1 l1 b1 hi
 ·by_cases bY:i=id
  ·subst bY;rw[ay]at hi;cases hi
   obtain⟨h1,h2⟩:=tV _ _ _ _ rfl
   exact .inr ⟨yi h1,h2⟩
  ·rw[az _ _ bY]at hi;exact .inl ⟨hi,λ_ _=>rfl⟩
 ·by_cases bY:i=id
  ·subst bY;rw[bo]at hi;cases hi;exact⟨e',ay _ _ _,hl⟩
  ·exact⟨e1,by rw[az _ _ bY];exact hi,.refl e1⟩
theorem Tr.nothing{c:Ctx}{w:World}{M:Nat→Prop}{ν:Nat→Value}{H:Nat→Option bl}(h:Mem c H w M ν){id:Nat}(bo:H id=none)(e:Ty)(ad:Option Addr):
  Tr c H w M ν (bZ H id (some (.own e []))) w M (dr ν id (.slice ad 0 0)):=by
 have hν: ∀i,i≠id→dr ν id (.slice ad 0 0) i=ν i:=λi hi=>by simp[dr,hi]
 have D3:dr ν id (.slice ad 0 0) id= .slice ad 0 0:=by simp[dr]
 have hb:fI (.slice ad 0 0)=none:=by cases ad<;>simp[fI]
 refine⟨⟨λi e1 hi=> ?_,λi k e1 e2 b1 qB hi uK hk yY=> ?_,λi e1 b1 hi uK=> ?_,λi e1 l1 b1 hi=> ?_,rT h (λi hi=>hν i (λe=>hi (e▸bo))) yj (λi τ x p j hi=> .inl ⟨AD (λ_ _ _ _=>by simp) hi,λ_ _=>rfl⟩),h.sub,h.FJ,h.frame,h.size,h.wN,h.os,h.tape,h.output⟩,.refl w M,⟨λi e1 hi=> ?_,λi hi=>hν i (λe=>hi (e▸bo))⟩⟩
 ·by_cases bY:i=id
  ·subst bY;rw[ay]at hi;cases hi;rw[D3];simp only[ER];exact .inl ⟨trivial,ad,rfl⟩
  ·rw[az _ _ bY]at hi;rw[hν i bY];exact h.ll i e1 hi
 ·by_cases bY:i=id
  ·subst bY;rw[D3,hb];intro h';cases h'
  ·rw[az _ _ bY]at hi;rw[hν i bY]
   by_cases Nn:k=id
   ·subst Nn;rw[D3,hb];intro _ h';cases h'
   ·rw[az _ _ Nn]at hk;rw[hν k Nn];exact h.AB i k e1 e2 b1 qB hi uK hk yY
 ·by_cases bY:i=id
  ·subst bY;rw[D3,hb];intro h';cases h'
  ·rw[az _ _ bY]at hi;rw[hν i bY];exact h.new i e1 b1 hi uK
 ·by_cases bY:i=id
  ·subst bY;rw[D3,hb];intro h';cases h'
  ·rw[az _ _ bY]at hi;rw[hν i bY];exact h.zj i e1 l1 b1 hi
 ·have bY:i≠id:=λe=>by rw[e,bo]at hi;cases hi
  exact⟨e1,by rw[az _ _ bY];exact hi,.refl e1⟩
end VM
end
section
namespace VM
open Go
theorem bG{α:Type}{υ τ:Ty}{y:υ.den}{k:τ.den→Option α}{r:α}(h:df υ τ y k=some r): ∃e:υ=τ,k (e▸y)=some r:=by
 unfold df at h
 split at h
 ·rename_i e;exact⟨e,h⟩
 ·cases h
theorem fV{α:Type}{υ τ:Ty}{k:Option α}{r:α}(h:nB υ τ k=some r):υ=τ∧k=some r:=by
 unfold nB at h
 split at h
 ·rename_i e;exact⟨e,h⟩
 ·cases h
theorem V.slice{w:World}{M:Nat→Prop}{e:Ty}{v:Value}{l:List e.den}:V w M (.slice e) v l↔Rd w M (.slice e) [v] l:=by
 unfold V;rw[aj (by simp[Ty.isAgg])]
def Fz(H H1:Nat→Option bl):Prop:= ∀i,H1 i=H i∨ ∃e l,H i=some (.own e l)∧H1 i=some (.o8 e l)
theorem Fz.refl(H:Nat→Option bl):Fz H H:=λ_=> .inl rfl
theorem Fz.none{H H1:Nat→Option bl}(h:Fz H H1){i:Nat}(hi:H i=none):H1 i=none:=by
 rcases h i with h'|⟨e,l,h',_⟩
 ·rw[h',hi]
 ·rw[hi]at h';cases h'
theorem Fz.obj{H H1:Nat→Option bl}(h:Fz H H1){i:Nat}{τ:Ty}{x:τ.den}(hi:H i=some (.obj τ x)):H1 i=some (.obj τ x):=by
 rcases h i with h'|⟨e,l,h',_⟩
 ·rw[h',hi]
 ·rw[hi]at h';cases h'
theorem B2{H:Nat→Option bl}{id:Nat}{e:Option bl}(h:H id=e):bZ H id e=H:=by
 funext i
 by_cases hi:i=id
 ·subst hi;rw[ay,h]
 ·rw[az _ _ hi]
theorem oy{α:Type}{c:Ctx}{H H1:Nat→Option bl}{w:World}{M:Nat→Prop}{ν:Nat→Value}(hz:Fz H H1)(hm:Mem c H1 w M ν){a:bI}{v:Value}(hv:VR w M H1 ν a v){τ:Ty}
  {k:τ.den→List Nat→ja→Option α} {r:α} (h:mw true a H τ k=some r):
  ∃y rd ups M',k y rd ups=some r∧Tr c H1 w M ν (c9 H1 ups) w M' ν∧V w M' τ v y∧Fz H (c9 H1 ups)∧ ∀i,rd.contains i=false→c9 H1 ups i=H1 i:=by
 unfold mw at h
 split at h
 ·
  obtain⟨e,h⟩:=bG h
  subst e
  simp only[VR]at hv
  exact⟨_,[],[],M,h,.refl hm,hv,hz,λ_ _=>rfl⟩
 ·
  obtain⟨e,h⟩:=bG h
  subst e
  simp only[VR]at hv
  exact⟨_,[],[],M,h,.refl hm,hv.1,hz,λ_ _=>rfl⟩
 ·
  split at h
  ·rename_i e k' _
   simp only[VR]at hv
   obtain⟨a,rfl⟩:=hv
   refine⟨[],[],[],M,h,.refl hm,V.slice.2 ?_,hz,λ_ _=>rfl⟩
   simp only[Rd]
   exact⟨a,0,rfl,aH _,λi hi=>absurd hi (by simp)⟩
  ·cases h
 ·rename_i id
  simp only[VR]at hv
  obtain⟨_,rfl⟩:=hv
  split at h
  ·rename_i e l bo
   obtain⟨e',h⟩:=bG h
   subst e'
   rcases hz id with h1|⟨e1,l1,h1,h2⟩
   ·rw[bo]at h1
    obtain⟨M',iw,hV,_⟩:=Tr.freeze hm h1
    refine⟨_,_,_,M',h,iw,hV,λi=> ?_,λi hi=>az _ _ (by simpa using hi)⟩
    show bZ H1 id (some (.o8 e l)) i=H i∨_
    by_cases hi:i=id
    ·subst hi;exact .inr ⟨e,l,bo,ay _ _ _⟩
    ·rw[az _ _ hi]
     rcases hz i with h'|⟨e2,l2,h2,h3⟩
     ·exact .inl h'
     ·exact .inr ⟨e2,l2,h2,by show bZ H1 id _ i=_;rw[az _ _ hi];exact h3⟩
   ·rw[bo]at h1;cases h1
    have:=hm.ll id _ h2
    simp only[ER]at this
    refine⟨_,_,[(id,some (.o8 e l))],M,h,?_,V.slice.2 this.1,?_,λi hi=>az _ _ (by simpa using hi)⟩
    ·show Tr c H1 w M ν (bZ H1 id (some (.o8 e l))) w M ν
     rw[B2 h2];exact .refl hm
    ·show Fz H (bZ H1 id (some (.o8 e l)))
     rw[B2 h2];exact hz
  ·rename_i e l bo
   obtain⟨e',h⟩:=bG h
   subst e'
   have h1:H1 id=some (.o8 e l):=by
    rcases hz id with h1|⟨e1,l1,h1,h2⟩
    ·rw[h1,bo]
    ·rw[bo]at h1;cases h1
   have:=hm.ll id _ h1
   simp only[ER]at this
   exact⟨_,_,_,M,h,.refl hm,V.slice.2 this.1,hz,λ_ _=>rfl⟩
  ·cases h
 ·cases h
def Src(w:World)(M:Nat→Prop)(e:Ty)(v:Value)(l:List e.den):Prop:=
 ∃a cap,v= .slice a l.length cap∧ ∀i (h:i<l.length),∃b off cs,a=some ⟨b,off,none⟩∧At w b (off+i*e.size) cs∧Rd w M e cs l[i]
theorem Src.abA{w:World}{M:Nat→Prop}{e:Ty}{v:Value}{l:List e.den}(h:V w M (.slice e) v l):Src w M e v l:=by
 have h:=V.slice.1 h
 simp only[Rd,fu,ec]at h
 obtain⟨a,cap,rfl,_,hr⟩:=h
 refine⟨a,cap,rfl,λi hi=> ?_⟩
 obtain⟨b,off,ha,_,_,cs,qa,ld⟩:=hr i hi
 exact⟨b,off,cs,ha,qa,ld⟩
theorem C5{α:Type}{c:Ctx}{H:Nat→Option bl}{w:World}{M:Nat→Prop}{ν:Nat→Value}(hm:Mem c H w M ν){a:bI}{v:Value}(hv:VR w M H ν a v){e:Ty}
  {k:List e.den→List Nat→ja→Option α} {r:α} (h:mw false a H (.slice e) k=some r):
  ∃y rd,k y rd []=some r∧Src w M e v y:=by
 unfold mw at h
 split at h
 ·obtain⟨e',h⟩:=bG h
  subst e'
  simp only[VR]at hv
  exact⟨_,[],h,.abA hv⟩
 ·obtain⟨e',h⟩:=bG h
  subst e'
  simp only[VR]at hv
  exact⟨_,[],h,.abA hv.1⟩
 ·have h:k [] [] []=some r:=h
  simp only[VR]at hv
  obtain⟨a,rfl⟩:=hv
  exact⟨[],[],h,a,0,rfl,λi hi=>absurd hi (by simp)⟩
 ·rename_i id
  simp only[VR]at hv
  obtain⟨_,rfl⟩:=hv
  split at h
  ·rename_i e1 l bo
   obtain⟨e',h⟩:=bG h
   cases e'
   refine⟨_,_,h,?_⟩
   have:=hm.ll id _ bo
   simp only[ER]at this
   rcases this with⟨rfl,a,hv⟩|⟨b,cs,t,cap,hv,hb,hM,hc,hl,FK,hs,hr⟩
   ·exact⟨a,0,hv,λi hi=>absurd hi (by simp)⟩
   ·refine⟨_,cap,hv,λi hi=>⟨b,0,_,rfl,?_,hr i hi⟩⟩
    rw[fT]
    exact At.of_block hb _ _
  ·rename_i e1 l bo
   obtain⟨e',h⟩:=bG h
   cases e'
   have:=hm.ll id _ bo
   simp only[ER]at this
   exact⟨_,_,h,.abA (V.slice.2 this.1)⟩
  ·cases h
 ·cases h
theorem Src.cells{w:World}{M:Nat→Prop}{e:Ty}{v:Value}{l:List e.den}(h:Src w M e v l)(iI:l≠[]):
  ∃b off cap news,v= .slice (some ⟨b,off,none⟩) l.length cap∧news.length=l.length*e.size∧At w b off news∧
   (∀i (hi:i<l.length),Rd w M e ((news.drop (i*e.size)).take e.size) l[i])∧ ∀u∈news,u.oneCell'=true:=by
 obtain⟨a,cap,rfl,hr⟩:=h
 have h0:0<l.length:=o7.2 iI
 obtain⟨b,off,_,ha,_⟩:=hr 0 h0
 subst ha
 have key: ∀n,n≤l.length→ ∃news:List Value,news.length=n*e.size∧At w b off news∧
   (∀i (hi:i<l.length),i<n→Rd w M e ((news.drop (i*e.size)).take e.size) l[i])∧ ∀u∈news,u.oneCell'=true:=by
  intro n
  induction n with
  |zero=>exact λ_=>⟨[],by simp,λj v hj=>by simp at hj,λi _ hi=>ω,by simp⟩
  |succ n ih=>
   intro hn
   obtain⟨news,hl,qa,ld,ajp⟩:=ih ω
   obtain⟨b',aBH,cs,ha,auK,UY⟩:=hr n ω
   cases ha
   refine⟨news++cs,by rw[aM,hl,UY.length,eE,kb],At.append.2 ⟨qa,by rw[hl];exact auK⟩,λi hi lj=> ?_,λu hu=> ?_⟩
   ·by_cases fj:i<n
    ·have h1:(i+1)*e.size≤n*e.size:=kJ _ fj
     rw[eE,kb]at h1
     rw[zY ω,zX (by rw[dC];omega)]
     exact ld i hi fj
    ·obtain rfl:i=n:=ω
     rw[nq hl,jK (by rw[UY.length];exact aH _)]
     exact UY
   ·rcases bk.1 hu with hu|hu
    ·exact ajp u hu
    ·exact UY.o9 u hu
 obtain⟨news,hl,qa,ld,ajp⟩:=key l.length (aH _)
 exact⟨b,off,cap,news,rfl,hl,qa,λi hi=>ld i hi hi,ajp⟩
structure Core(c:Ctx)(σ:St)(tm:Array Value)(w:World)(M:Nat→Prop)(ν:Nat→Value):Prop where
 mem:Mem c σ.H w M ν
 tmp: ∀i,VR w M σ.H ν (σ.T i) (tm.getD i undef)
theorem UZ(w:World)(M:Nat→Prop)(H:Nat→Option bl)(ν:Nat→Value)(v:Value):VR w M H ν (cvA v) v:=by
 unfold cvA
 split<;>simp[VR,V,Ty.isAgg,Rd]
theorem Core.op{c:Ctx}{σ:St}{tm:Array Value}{w:World}{M:Nat→Prop}{ν:Nat→Value}(h:Core c σ tm w M ν)(ds:List Deferred)(x:Operand):
  VR w M σ.H ν (σ.ρ x) (({tmps:=tm,defers:=ds}:Act).eval x):=by
 cases x with
 |tmp t=>exact h.tmp t
 |const v=>exact UZ w M σ.H ν v
 |global g=>simp[St.ρ,VR]
 |func f=>simp[St.ρ,VR,ju,Act.eval]
def aoF(P:Program)(t:TypeId)(τ:Ty):Prop:=
 ∀(w:World) (M:Nat→Prop) (u v:Value) (x y:τ.den) (b:BinOp) (xo yo:Operand),V w M τ u x→V w M τ v y→
  (eqGuard b t xo yo u v).run P w= .ok () w∧(binOp .eql t u v).run P w= .ok (.bool (p8 τ x y)) w∧(binOp .neq t u v).run P w= .ok (.bool (!p8 τ x y)) w
structure EnvTy(P:Program)(E:Env):Prop where
 ty: ∀t τ,E.ty t=some τ→kO P τ t
 eq: ∀t τ,E.ty t=some τ→τ.comparable=true→τ.isAgg=true→aoF P t τ
end VM
end
section
namespace VM
open Go
variable{P:Program}
theorem AE{o:Oper}{ρ:Operand→Value}{t:TypeId}{i:TypeInfo}{z:Value}(ho:o.op= .alloc t)(hi:P.info? t=some i)(hz:i.zero=some z)(w:World):
  (execOp ρ o).run P w= .ok (.value (.pointer (some ⟨w.heap.size,0,none⟩))) (w.alloc (.cells z.cells t)):=by
 simp[execOp,ho,Instr.alloc,zeroValue,typeInfo,hi,hz,newVar,newRow]
theorem FM{o:Oper}{ρ:Operand→Value}{t:TypeId}{x:Operand}(ho:o.op= .box t x)(w:World):
  (execOp ρ o).run P w= .ok (.value (.pointer (some ⟨w.heap.size,0,none⟩))) (w.alloc (.cells (ρ x).cells t)):=by
 simp[execOp,ho,Instr.box,newVar,newRow]
theorem uO{τ:Ty}{t:TypeId}(h:kO P τ t)(w:World):(isAgg t).run P w= .ok τ.isAgg w:=by
 unfold kO at h
 cases τ<;>simp only[fO]at h
 ·simp[isAgg,run_underlying h.2,Ty.isAgg]
 ·simp[isAgg,run_underlying h.2,Ty.isAgg]
 ·simp[isAgg,run_underlying h.2,Ty.isAgg]
 ·obtain⟨_,e',h',_⟩:=h;simp[isAgg,run_underlying h',Ty.isAgg]
 ·obtain⟨_,e',h',_⟩:=h;simp[isAgg,run_underlying h',Ty.isAgg]
 ·obtain⟨_,e',f,h',_⟩:=h;simp[isAgg,run_underlying h',Ty.isAgg]
 ·obtain⟨_,e',h',_⟩:=h;simp[isAgg,run_underlying h',Ty.isAgg]
theorem dn{τ:Ty}{t:TypeId}(h:kO P τ t)(w:World):(Go.sizeOf t).run P w= .ok τ.size w:=by
 obtain⟨i,hi,hs,_⟩:=h.base
 simp[Go.sizeOf,typeInfo,hi,hs]
theorem C6{w:World}{M:Nat→Prop}{τ:Ty}{t:TypeId}(h:kO P τ t){b off:Nat}{cs:List Value}{x:τ.den}(ha:At w b off cs)(hr:Rd w M τ cs x):
  (loadVar t ⟨b,off,none⟩).run P w= .ok (cR τ cs) w:=by
 have hl:(loadCells ⟨b,off,none⟩ τ.size).run P w= .ok cs.toArray w:=by
  rw[←hr.length]
  exact run_loadCells_list w _ cs λj v hj=>by rw[show(⟨b,off,none⟩:Addr).add j=⟨b,off+j,none⟩from by unfold Addr.add;split<;>simp_all];exact ha j v hj
 unfold cR
 by_cases No:τ.isAgg=true
 ·simp[loadVar,uO h,No,dn h,hl]
 ·obtain⟨v,rfl,hc⟩:=hr.scalar (by simpa using No)
  have h0:=ha 0 v rfl
  simp only[nw]at h0
  simp[loadVar,uO h,No,load,Sem.run,h0]
theorem xk{o:Oper}{ρ:Operand→Value}{t:TypeId}{x:Operand}(ho:o.op= .load t x){w:World}{M:Nat→Prop}{τ:Ty}(h:kO P τ t){b off:Nat}{cs:List Value}{y:τ.den}
  (hx:ρ x= .pointer (some ⟨b,off,none⟩)) (ha:At w b off cs) (hr:Rd w M τ cs y):
  (execOp ρ o).run P w= .ok (.value (cR τ cs)) w:=by
 simp[execOp,ho,hx,Instr.loadAt,Instr.sureAddr,C6 h ha hr]
theorem nE{o:Oper}{ρ:Operand→Value}{t:TypeId}{x y:Operand}(ho:o.op= .store t x y){w:World}{τ:Ty}(h:kO P τ t){b off:Nat}{cur:Array Value}{te:TypeId}
  (hx:ρ x= .pointer (some ⟨b,off,none⟩)) (hg:w.heap[b]? =some (.cells cur te (0,0))) (hs:(ρ y).cells.size=τ.size) (hf:off+τ.size≤cur.size) (h1: ∀v∈(ρ y).cells.toList,v.oneCell'=true):
  (execOp ρ o).run P w= .ok .skip (w.setRow b (cur.toList.take off++(ρ y).cells.toList++cur.toList.drop (off+(ρ y).cells.toList.length)).toArray):=by
 have H5:=run_storeCells_at (P:=P) b off te (ρ y).cells.toList 0 cur w hg (by simp[hs];omega) h1
 simp only[nw]at H5
 simp[execOp,ho,hx,Instr.storeAt,Instr.sureAddr,storeVar,dn h,hs,H5]
theorem uP{o:Oper}{ρ:Operand→Value}{t:TypeId}{x:Operand}{n:Nat}(ho:o.op= .fieldAddr t x n){w:World}{fs:Array Field}{f:Field}{b off:Nat}{υ:Ty}
  (hu:P.underlying t=some (.struct fs)) (hf:fs[n]? =some f) (hl:kO P υ f.type) (hz:υ.size≠0) (hx:ρ x= .pointer (some ⟨b,off,none⟩)):
  ∃a,(execOp ρ o).run P w= .ok (.value a) w∧a= .pointer (some ⟨b,off+f.offset,none⟩):=by
 refine⟨_,?_,rfl⟩
 simp[execOp,ho,hx,Instr.fieldAt,Instr.sureAddr,run_underlying hu,hf,fieldPlace,Addr.add_lit,dn hl,hz]
theorem AF{τ:Ty}{t:TypeId}(h:kO P τ t){w:World}{M:Nat→Prop}{cs:Array Value}{off:Nat}{x:τ.den}(hr:Rd w M τ ((cs.toList.drop off).take τ.size) x):
  (part t cs off).run P w= .ok (cR τ ((cs.toList.drop off).take τ.size)) w:=by
 have hl:=hr.length
 unfold cR
 by_cases No:τ.isAgg=true
 ·simp only[part,Sem.run_bind,uO h,Result.andThen_ok,No,gB,dn h]
  simp
  rw[cc,dC,bL]at hl
  apply jt
  simp only[Array.toList_extract,List.extract_eq_take_drop,z7]
 ·obtain⟨v,hv,hc⟩:=hr.scalar (by simpa using No)
  rw[hv]
  have h0:cs[off]? =some v:=by
   have:=ej (λl=>l[0]?) hv
   simp only[mg,mh]at this
   split at this
   ·simpa using this
   ·simp at this
  simp[part,uO h,No,h0]
theorem KU{o:Oper}{ρ:Operand→Value}{t:TypeId}{x:Operand}{n:Nat}(ho:o.op= .field t x n){w:World}{M:Nat→Prop}{fs:Array Field}{f:Field}{cs:Array Value}{υ:Ty}{y:υ.den}
  (hu:P.underlying t=some (.struct fs)) (hf:fs[n]? =some f) (hl:kO P υ f.type) (hx:ρ x= .agg cs) (hr:Rd w M υ ((cs.toList.drop f.offset).take υ.size) y):
  (execOp ρ o).run P w= .ok (.value (cR υ ((cs.toList.drop f.offset).take υ.size))) w:=by
 simp[execOp,ho,hx,Instr.field,run_underlying hu,hf,asAgg,AF hl hr]
theorem ln{o:Oper}{ρ:Operand→Value}{t e:TypeId}{x i:Operand}(ho:o.op= .indexAddr t x i){w:World}{τe:Ty}{b off len cap:Nat}{k:IntKind}{n:Int}
  (hu:P.underlying t=some (.slice e)) (he:kO P τe e) (hx:ρ x= .slice (some ⟨b,off,none⟩) len cap) (hi:ρ i= .int k n) (h0:0≤n) (h1:n<(len:Int)):
  (execOp ρ o).run P w= .ok (.value (.pointer (some ⟨b,off+n.toNat*τe.size,none⟩))) w:=by
 simp[execOp,ho,hx,hi,Instr.indexAt,asIntOf,run_underlying hu,h0,h1,dn he,Addr.add_lit]
theorem tk{o:Oper}{ρ:Operand→Value}{t e:TypeId}{x i:Operand}(ho:o.op= .indexAddr t x i){w:World}{τe:Ty}{b off len:Nat}{k:IntKind}{n:Int}
  (hu:P.underlying t=some (.array len e)) (he:kO P τe e) (hx:ρ x= .pointer (some ⟨b,off,none⟩)) (hi:ρ i= .int k n) (h0:0≤n) (h1:n<(len:Int)):
  (execOp ρ o).run P w= .ok (.value (.pointer (some ⟨b,off+n.toNat*τe.size,none⟩))) w:=by
 simp[execOp,ho,hx,hi,Instr.indexAt,Instr.sureAddr,asIntOf,run_underlying hu,h0,h1,dn he,Addr.add_lit]
theorem Io{o:Oper}{ρ:Operand→Value}{t e:TypeId}{x i:Operand}(ho:o.op= .index t x i){w:World}{M:Nat→Prop}{τe:Ty}{len:Nat}{k:IntKind}{n:Int}{cs:Array Value}{y:τe.den}
  (hu:P.underlying t=some (.array len e)) (he:kO P τe e) (hx:ρ x= .agg cs) (hi:ρ i= .int k n) (h0:0≤n) (h1:n<(len:Int)) (hr:Rd w M τe ((cs.toList.drop (n.toNat*τe.size)).take τe.size) y):
  (execOp ρ o).run P w= .ok (.value (cR τe ((cs.toList.drop (n.toNat*τe.size)).take τe.size))) w:=by
 simp[execOp,ho,hx,hi,Instr.index,asIntOf,run_underlying hu,h0,h1,dn he,AF he hr]
theorem FN{o:Oper}{ρ:Operand→Value}{x:Operand}{n:Nat}(ho:o.op= .extract x n){w:World}{us:List Value}{v:Value}(hx:ρ x= .tuple us.toArray)(hv:us[n]? =some v):
  (execOp ρ o).run P w= .ok (.value v) w:=by
 simp[execOp,ho,hx,Instr.extract,hv]
theorem Np{o:Oper}{ρ:Operand→Value}{x y z:Operand}(ho:o.op= .pick x y z){w:World}{b:Bool}(hx:ρ x= .bool b):
  (execOp ρ o).run P w= .ok (.value (if b then ρ y else ρ z)) w:=by
 simp[execOp,ho,hx,asBool]
theorem wz{o:Oper}{ρ:Operand→Value}{x:Operand}(ho:o.op= .nilCheck x){w:World}{a:Addr}(hx:ρ x= .pointer (some a)):
  (execOp ρ o).run P w= .ok (.value (.pointer (some a))) w:=by
 simp[execOp,ho,hx]
theorem D4{o:Oper}{ρ:Operand→Value}{f:FuncId}{first caps:Array Operand}(ho:o.op= .makeFunc (.func f) first caps)(hf:first= #[]){w:World}:
  (execOp ρ o).run P w= .ok (.value (.func (.func f) #[] (caps.map ρ))) w:=by
 subst hf
 simp[execOp,ho,Instr.makeFunc]
theorem FO{o:Oper}{ρ:Operand→Value}{s d:TypeId}{x:Operand}(ho:o.op= .convert s d x){w:World}{k k':IntKind}{n:Int}(hs:(P.underlying s).isSome=true)(hd:P.underlying d=some (.int k))(hx:ρ x= .int k' n):
  (execOp ρ o).run P w= .ok (.value (.int k (k.wrap n))) w:=by
 obtain⟨ds,hs⟩:=Option.isSome_iff_exists.1 hs
 simp[execOp,ho,hx,convert,run_underlying hs,run_underlying hd,Conv.intToInt]
theorem xl{o:Oper}{ρ:Operand→Value}{u:UnOp}{t:TypeId}{x:Operand}(ho:o.op= .unOp u t x){w:World}{v:Value}(h:(Op.unary u (ρ x)).run P w= .ok v w):
  (execOp ρ o).run P w= .ok (.value v) w:=by
 simp[execOp,ho,h]
theorem qL{o:Oper}{ρ:Operand→Value}{b:BinOp}{t t':TypeId}{x y:Operand}(ho:o.op= .binOp b t x y t'){w:World}{v:Value}
  (hg:(eqGuard b t x y (ρ x) (ρ y)).run P w= .ok () w) (h:(binOp b t (ρ x) (ρ y)).run P w= .ok v w):
  (execOp ρ o).run P w= .ok (.value v) w:=by
 simp[execOp,ho,hg,h]
theorem qc{b:BinOp}{t:TypeId}{x y:Operand}{k k':IntKind}{m n:Int}(w:World):(eqGuard b t x y (.int k m) (.int k' n)).run P w= .ok () w:=by
 cases b<;>simp[eqGuard]
theorem B3{b:BinOp}{t:TypeId}{x y:Operand}{m n:Bool}(w:World):(eqGuard b t x y (.bool m) (.bool n)).run P w= .ok () w:=by
 cases b<;>simp[eqGuard]
theorem D5{b:BinOp}{t:TypeId}{x y:Operand}{m n:ByteArray}(w:World):(eqGuard b t x y (.string m) (.string n)).run P w= .ok () w:=by
 cases b<;>simp[eqGuard]
theorem rU{o:Oper}{ρ:Operand→Value}{b:Builtin}{args:Array Operand}{ts:Array TypeId}(ho:o.op= .call {callee:= .builtin b,args,argTypes:=ts}){w:World}:
  ∃cs,(execOp ρ o).run P w=(builtin b ts o.type cs (args.map ρ)).run P w:=by
 refine⟨args.map fun| .const _=>true|_=>false,?_⟩
 simp[execOp,ho,resolve,invoke]
 rfl
end VM
end
section
namespace VM
open Go
theorem tp{α:Type}{r:α}: ∀{τ:Ty} {x:τ.den} {n:Nat} {m:(υ:Ty)→υ.den→(υ.den→Option α)→Option α} {k:τ.den→Option α},nA τ x n m k=some r→
  ∃υ y o k',D1 τ x n υ y o∧m υ y k'=some r∧ ∀z r',k' z=some r'→ ∃x',k x'=some r'∧D1 τ x' n υ z o∧
   ∀(w:World) (M:Nat→Prop) cs cs',Rd w M τ cs x→Rd w M υ cs' z→Rd w M τ (fk cs o cs') x'
 | .pair a b,x,0,m,k,h=>by
  refine⟨a,x.1,0,_,.here x,h,λz r' hz=>⟨(z,x.2),hz,.here (a:=a) (b:=b) (z,x.2),λw M cs cs' hr eF=> ?_⟩⟩
  simp only[Rd]at hr ⊢
  obtain⟨c1,c2,rfl,h1,h2⟩:=hr
  refine⟨cs',c2,?_,eF,h2⟩
  rw[AA (by rw[eF.length,h1.length];omega)]
  congr 1
  unfold fk
  rw[fT,eF.length,←h1.length];simp
 | .pair a b,x,n+1,m,k,h=>by
  obtain⟨υ,y,o,k',hf,hm,hk⟩:=tp (τ:=b) (x:=x.2) (n:=n) (m:=m) (k:=λz=>k (x.1,z)) h
  refine⟨υ,y,_,k',.there x hf,hm,λz r' hz=> ?_⟩
  obtain⟨x',uQ,BZ,ld⟩:=hk z r' hz
  refine⟨(x.1,x'),uQ,.there (a:=a) (b:=b) (x.1,x') BZ,λw M cs cs' hr eF=> ?_⟩
  simp only[Rd]at hr ⊢
  obtain⟨c1,c2,rfl,h1,h2⟩:=hr
  refine⟨c1,_,?_,h1,ld w M c2 cs' h2 eF⟩
  rw[←h1.length,yh]
 | .int _,_,_,_,_,h| .bool,_,_,_,_,h| .str,_,_,_,_,h| .slice _,_,_,_,_,h| .unit,_,_,_,_,h| .arr _ _,_,_,_,_,h=>by simp[nA]at h
def rV(w:World)(M:Nat→Prop)(e:Ty)(cs:List Value)(l:List e.den):Prop:=
 ∀i (h:i<l.length),Rd w M e ((cs.drop (i*e.size)).take e.size) l[i]
theorem eG{i n s:Nat}(h:i<n):i*s+s≤n*s:=by
 have:(i+1)*s≤n*s:=kJ _ h
 rw[eE,kb]at this;exact this
theorem rV.set{w:World}{M:Nat→Prop}{e:Ty}{cs:List Value}{l:List e.den}(h:rV w M e cs l)(hl:l.length*e.size≤cs.length){i:Nat}(hi:i<l.length){cs':List Value}{y:e.den}(hr:Rd w M e cs' y):
  rV w M e (fk cs (i*e.size) cs') (l.set i y):=by
 have hlen:=hr.length
 intro j hj
 rw[bM]at hj
 have h1:=eG (s:=e.size) hi
 have h2:=eG (s:=e.size) hj
 by_cases qB:j=i
 ·subst qB
  have:=ajn (a:=cs) (o:=j*e.size) (new:=cs') ω
  rw[hlen]at this
  rw[this,List.getElem_set_self];exact hr
 ·rw[KS (by
   rcases Nat.lt_or_gt_of_ne qB with fj|fj
   ·have:=eG (s:=e.size) fj;left;omega
   ·have:=eG (s:=e.size) fj;right;omega) ω,List.getElem_set_ne (eU qB)]
  exact h j hj
theorem rV.append{w:World}{M:Nat→Prop}{e:Ty}{c1 c2:List Value}{l1 l2:List e.den}(h1:rV w M e c1 l1)(hl:c1.length=l1.length*e.size)(h2:rV w M e c2 l2):rV w M e (c1++c2) (l1++l2):=by
 intro i hi
 by_cases fj:i<l1.length
 ·have:=eG (s:=e.size) fj
  rw[zY ω,zX (by rw[dC];omega),Fb fj]
  exact h1 i fj
 ·rw[aM]at hi
  obtain⟨k,rfl⟩: ∃k,i=l1.length+k:=⟨i-l1.length,ω⟩
  rw[eE,←hl,←jL,nq rfl,MV ω]
  simp only[z7]
  exact h2 k ω
theorem rV.take{w:World}{M:Nat→Prop}{e:Ty}{cs:List Value}{l:List e.den}(h:rV w M e cs l){n:Nat}(hn:l.length*e.size≤n):rV w M e (cs.take n) l:=by
 intro i hi
 have:=eG (s:=e.size) hi
 rw[rF,rG,iB ω]
 exact h i hi
theorem rV.more{w:World}{M:Nat→Prop}{e:Ty}{cs cs':List Value}{l:List e.den}(h:rV w M e cs l)(hl:l.length*e.size≤cs.length):rV w M e (cs++cs') l:=by
 intro i hi
 have:=eG (s:=e.size) hi
 rw[zY ω,zX (by rw[dC];omega)]
 exact h i hi
theorem rV.cm{w w':World}{M M':Nat→Prop}(k:fi w M w' M'){e:Ty}{cs:List Value}{l:List e.den}(h:rV w M e cs l):rV w' M' e cs l:=λi hi=>(h i hi).cm k
theorem Rd.arr{w:World}{M:Nat→Prop}{n:Nat}{e:Ty}{cs:List Value}{x:(Ty.arr n e).den}:Rd w M (.arr n e) cs x↔List.length x=n∧cs.length=n*e.size∧rV w M e cs x:=by
 constructor
 ·intro h
  have hl:=h.length
  have h':=h
  simp only[Rd]at h'
  refine⟨h'.1,hl,λi hi=> ?_⟩
  have:=h.idx (i:=i) ω
  rw[kP x i e.zero hi]at this
  exact this
 ·rintro⟨hn,hl,hr⟩
  simp only[Rd]
  refine⟨hn,(List.range n).map λi=>(cs.drop (i*e.size)).take e.size,by simp,?_,λi hi nD=> ?_⟩
  ·
   have key: ∀m (l:List Value),l.length=m*e.size→l=((List.range m).map λi=>(l.drop (i*e.size)).take e.size).flatten:=by
    intro m
    induction m with
    |zero=>intro l hl;simpa using hl
    |succ m ih=>
     intro l hl
     have h1:(l.take (m*e.size)).length=m*e.size:=by rw[cc,hl,eE];omega
     have h2:=ih (l.take (m*e.size)) h1
     rw[FA,dg,List.flatten_append]
     have h3:((List.range m).map λi=>(l.drop (i*e.size)).take e.size)=(List.range m).map λi=>((l.take (m*e.size)).drop (i*e.size)).take e.size:=by
      apply rC
      intro i hi
      have:=eG (s:=e.size) (rH.1 hi)
      rw[rF,rG,iB ω]
     rw[h3,←h2]
     simp only[bR,gQ,Af,List.flatten_nil,cH]
     rw[jK (l:=l.drop (m*e.size)) (by rw[dC,hl,eE];omega),gb]
   exact key n cs hl
  ·simp only[List.getElem_map,Fm]
   exact hr i hi
theorem pD{α:Type}{r:α}{υ:Ty}{y:υ.den}: ∀{p:List Step} {τ:Ty} {x:τ.den} {k:τ.den→Option α},wJ υ y p τ x k=some r→
  ∃z,k z=some r∧Ik p τ=υ∧(yH p τ→cJ p τ+υ.size≤τ.size)∧ ∀(w:World) (M:Nat→Prop) cs cs',yH p τ→Rd w M τ cs x→Rd w M υ cs' y→Rd w M τ (fk cs (cJ p τ) cs') z
 |[],τ,x,k,h=>by
  obtain⟨e,h⟩:=bG (h:df υ τ y k=some r)
  subst e
  refine⟨y,h,rfl,λ_=>by simp[cJ],λw M cs cs' _ hr eF=> ?_⟩
  unfold fk
  rw[show cJ [] υ=0 from rfl,fT,eF.length,←hr.length]
  simpa using eF
 | .kE n::p,τ,x,k,h=>by
  obtain⟨υ',y',o,k',hf,hm,hk⟩:=tp (h:nA τ x n _ k=some r)
  obtain⟨z',D6,ht,H6,ld⟩:=pD (p:=p) (τ:=υ') (x:=y') (k:=k') hm
  obtain⟨x',uQ,BZ,UY⟩:=hk z' r D6
  obtain⟨h1,h2⟩:=hf.eq
  subst h1 h2
  refine⟨x',uQ,ht,λhi=>by have:=hf.bound;have:=H6 hi;simp only[cJ];omega,λw M cs cs' hi hr eF=> ?_⟩
  have H6:=H6 hi
  have h3:=ld w M _ cs' hi (hf.rd hr) eF
  have h4:=UY w M cs _ hr h3
  have hb:=hf.bound
  have hlc:=hr.length
  have hl2:=eF.length
  have hl3:=h3.length
  have lj:cJ p (wM τ n)+cs'.length≤((cs.drop (sV τ n)).take (wM τ n).size).length:=by
   rw[cc,dC];omega
  have:fk cs (sV τ n) (fk ((cs.drop (sV τ n)).take (wM τ n).size) (cJ p (wM τ n)) cs')=fk cs (sV τ n+cJ p (wM τ n)) cs':=by
   have e1:cs=cs.take (sV τ n)++(((cs.drop (sV τ n)).take (wM τ n).size)++cs.drop (sV τ n+(wM τ n).size)):=by
    rw[←jL,gb,gb]
   have fj:(cs.take (sV τ n)).length=sV τ n:=by rw[cc];omega
   conv=>rhs;rw[e1]
   rw[show sV τ n+cJ p (wM τ n)=(cs.take (sV τ n)).length+cJ p (wM τ n)from by rw[fj],yh,AA lj]
   generalize fk ((cs.drop (sV τ n)).take (wM τ n).size) (cJ p (wM τ n)) cs'=m at hl3 ⊢
   unfold fk
   rw[hl3,bH]
  simp only[cJ]
  rw[←this]
  exact h4
 | .idx i::p,τ,x,k,h=>by
  cases τ with
  |arr n e=>
   obtain⟨z',D6,ht,H6,ld⟩:=pD (p:=p) (τ:=e) (x:=List.getD x i e.zero) (k:=λz=>k (List.set x i z)) h
   refine⟨_,D6,ht,λhi=>by
    obtain⟨⟨n',e',he,lj⟩,nD⟩:=hi
    cases he
    have:=H6 nD
    have hm:=eG (s:=e.size) lj
    simp only[cJ,elT,Ty.size];omega,λw M cs cs' hi hr eF=> ?_⟩
   obtain⟨⟨n',e',he,lj⟩,nD⟩:=hi
   cases he
   have h3:=ld w M _ cs' nD (hr.idx lj) eF
   obtain⟨hn,hlc,I8⟩:=Rd.arr.1 hr
   have hm:=eG (s:=e.size) lj
   have h4:=I8.set (by rw[hlc,hn];exact aH _) (i:=i) ω h3
   have hl2:=eF.length
   have hl3:=h3.length
   have hch:((cs.drop (i*e.size)).take e.size).length=e.size:=by rw[cc,dC];omega
   have H6:=H6 nD
   have auL:cJ p e+cs'.length≤((cs.drop (i*e.size)).take e.size).length:=ω
   have:fk cs (i*e.size) (fk ((cs.drop (i*e.size)).take e.size) (cJ p e) cs')=fk cs (i*e.size+cJ p e) cs':=by
    have e1:cs=cs.take (i*e.size)++(((cs.drop (i*e.size)).take e.size)++cs.drop (i*e.size+e.size)):=by
     rw[←jL,gb,gb]
    have fj:(cs.take (i*e.size)).length=i*e.size:=by rw[cc];omega
    conv=>rhs;rw[e1]
    rw[show i*e.size+cJ p e=(cs.take (i*e.size)).length+cJ p e from by rw[fj],yh,AA auL]
    generalize fk ((cs.drop (i*e.size)).take e.size) (cJ p e) cs'=m at hl3 ⊢
    unfold fk
    rw[hl3,bH]
   simp only[cJ,elT]
   rw[←this]
   refine Rd.arr.2 ⟨by rw[bM];exact hn,?_,h4⟩
   rw[gD (by rw[hl3];omega)];exact hlc
  |_=>simp[wJ,EC]at h
end VM
end
