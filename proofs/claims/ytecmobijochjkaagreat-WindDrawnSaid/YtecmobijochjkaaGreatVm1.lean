/- A part of the proof of WindDrawn of layer 21: a machine that reads a function of the program as an equation between values. -/
import Derived.Test.YtecmobijochjkaaGreatVm0
import Derived.WalkLawsBesides
import Derived.Great.BuildSlice
import Derived.Laws.Tables
set_option linter.all false
section
namespace VM
open Go
structure Ctx where
 B:Nat
 w0:World
 M0:Nat→Prop
 may:Nat→Prop
 arg:Nat→Value
structure Mem(c:Ctx)(H:Nat→Option bh)(w:World)(M:Nat→Prop)(ν:Nat→Value):Prop where
 kP: ∀i e,H i=some e→ER w M (ν i) e
 zB: ∀i j e e' b,i≠j→H i=some e→e.mut→H j=some e'→e'.mut→fH (ν i)=some b→fH (ν j)≠some b
 new: ∀i e b,H i=some e→e.mut→fH (ν i)=some b→c.B≤b∨c.may b
 yq: ∀i e l b,H i=some (.own e l)→fH (ν i)=some b→ ¬c.M0 b
 ga: ∀i τ x p j,H i=some (.ga τ x p j)→H j≠none∧ ∃b,ν i= .pointer (some ⟨b,0,none⟩)∧w.cell? ⟨b,cE p τ,none⟩=some (ν j)
 sub: ∀b,c.M0 b→M b
 Ev: ∀b,M b→b<w.heap.size
 frame: ∀b,b<c.B→ ¬c.may b→w.heap[b]? =c.w0.heap[b]?
 size:c.B≤w.heap.size
 vi:(∀b,c.M0 b→b<c.B)∧ ∀b,c.may b→ ¬c.M0 b
 os:w.os=c.w0.os
 tape:w.tape=c.w0.tape
 output:w.output=c.w0.output
structure Tr(c:Ctx)(H:Nat→Option bh)(w:World)(M:Nat→Prop)(ν:Nat→Value)(H':Nat→Option bh)(w':World)(M':Nat→Prop)(ν':Nat→Value):Prop where
 mem:Mem c H' w' M' ν'
 bZ:eY w M w' M'
 goes:sE H ν H' ν'
theorem bh.kT.trans{a b d:bh}(h:a.kT b)(k:b.kT d):a.kT d:=by
 cases a<;>cases b<;>cases d<;>simp only[bh.kT]at h k ⊢ <;>first
  |exact h.trans k
  |exact⟨h.1.trans k.1,h.2.trans k.2⟩
theorem sE.trans{H H' H'':Nat→Option bh}{ν ν' ν'':Nat→Value}(h:sE H ν H' ν')(k:sE H' ν' H'' ν''):sE H ν H'' ν'':=by
 refine⟨λi e he=> ?_,λi hi=> ?_⟩
 ·obtain⟨e',vQ,l⟩:=h.kP i e he
  obtain⟨e'',aqE,l'⟩:=k.kP i e' vQ
  exact⟨e'',aqE,l.trans l'⟩
 ·obtain⟨e,he⟩:=D1.1 hi
  obtain⟨e',vQ,_⟩:=h.kP i e he
  rw[k.head i (by simp[vQ]),h.head i hi]
theorem Tr.trans{c:Ctx}{H H' H'':Nat→Option bh}{w w' w'':World}{M M' Pm:Nat→Prop}{ν ν' ν'':Nat→Value}
  (h:Tr c H w M ν H' w' M' ν') (k:Tr c H' w' M' ν' H'' w'' Pm ν''):Tr c H w M ν H'' w'' Pm ν'':=
 ⟨k.mem,h.bZ.trans k.bZ,h.goes.trans k.goes⟩
theorem Tr.refl{c:Ctx}{H:Nat→Option bh}{w:World}{M:Nat→Prop}{ν:Nat→Value}(h:Mem c H w M ν):Tr c H w M ν H w M ν:=
 ⟨h,.refl w M,.refl H ν⟩
theorem ay(H:Nat→Option bh)(d:Nat)(v:Option bh):bW H d v d=v:=by simp[bW]
theorem az(H:Nat→Option bh){d i:Nat}(v:Option bh)(h:i≠d):bW H d v i=H i:=by
 have:Nat.beq i d=false:=by rw[←mN,vH];exact h
 simp[bW,this]
def c3(H:Nat→Option bh):iP→(Nat→Option bh)
 |[]=>H
 |u::r=>c3 (bW H u.1 u.2) r
theorem PA(ups:iP): ∀σ:St,(σ.vI ups).H=c3 σ.H ups:=by
 induction ups with
 |nil=>intro σ;rfl
 |cons u r ih=>intro σ;exact ih _
theorem PC(ups:iP): ∀σ:St,(σ.vI ups).T=σ.T:=by
 induction ups with
 |nil=>intro σ;rfl
 |cons u r ih=>intro σ;exact ih _
theorem gm(a b:iP): ∀H,c3 H (a++b)=c3 (c3 H a) b:=by
 induction a with
 |nil=>intro H;rfl
 |cons u r ih=>intro H;exact ih _
theorem xf{H:Nat→Option bh}{id j:Nat}{v:bh}(h:H j≠none):bW H id (some v) j≠none:=by
 by_cases hj:j=id
 ·subst hj;rw[ay];simp
 ·rw[az _ _ hj];exact h
theorem Jy{H:Nat→Option bh}{w:World}{ν:Nat→Value}(h: ∀i τ x p j,H i=some (.ga τ x p j)→H j≠none∧ ∃b,ν i= .pointer (some ⟨b,0,none⟩)∧w.cell? ⟨b,cE p τ,none⟩=some (ν j)){id:Nat}{v:bh}(hv: ∀τ x p j,v≠ .ga τ x p j):
  ∀i τ x p j,bW H id (some v) i=some (.ga τ x p j)→bW H id (some v) j≠none∧ ∃b,ν i= .pointer (some ⟨b,0,none⟩)∧w.cell? ⟨b,cE p τ,none⟩=some (ν j):=by
 intro i τ x p j hi
 by_cases bV:i=id
 ·subst bV;rw[ay]at hi;cases hi;exact absurd rfl (hv _ _ _ _)
 ·rw[az _ _ bV]at hi
  obtain⟨h1,h2⟩:=h i τ x p j hi
  exact⟨xf h1,h2⟩
theorem Tr.gone{c:Ctx}{H:Nat→Option bh}{w:World}{M:Nat→Prop}{ν:Nat→Value}(h:Mem c H w M ν)(id:Nat):Tr c H w M ν (bW H id (some .gone)) w M ν:=by
 refine⟨⟨λi e he=> ?_,λi j e e' b pH hi hm hj jI=> ?_,λi e b hi hm=> ?_,λi e l b hi=> ?_,Jy h.ga (λ_ _ _ _=>by simp),h.sub,h.Ev,h.frame,h.size,h.vi,h.os,h.tape,h.output⟩,.refl w M,⟨λi e he=> ?_,λ_ _=>rfl⟩⟩
 ·by_cases bg:i=id
  ·subst bg;rw[ay]at he;cases he;simp[ER]
  ·rw[az _ _ bg]at he;exact h.kP i e he
 ·by_cases bg:i=id
  ·subst bg;rw[ay]at hi;cases hi;simp[bh.mut]at hm
  ·by_cases hjd:j=id
   ·subst hjd;rw[ay]at hj;cases hj;simp[bh.mut]at jI
   ·rw[az _ _ bg]at hi;rw[az _ _ hjd]at hj;exact h.zB i j e e' b pH hi hm hj jI
 ·by_cases bg:i=id
  ·subst bg;rw[ay]at hi;cases hi;simp[bh.mut]at hm
  ·rw[az _ _ bg]at hi;exact h.new i e b hi hm
 ·by_cases bg:i=id
  ·subst bg;rw[ay]at hi;cases hi
  ·rw[az _ _ bg]at hi;exact h.yq i e l b hi
 ·by_cases bg:i=id
  ·subst bg;exact⟨.gone,ay _ _ _,by cases e<;>simp[bh.kT]⟩
  ·exact⟨e,by rw[az _ _ bg];exact he,.refl e⟩
theorem cell_of{w:World}{b:Nat}{cs:Array Value}{t:TypeId}{fz:Nat×Nat}(h:w.heap[b]? =some (.cells cs t fz))(o:Nat):w.cell? ⟨b,o,none⟩=cs[o]? :=by
 simp[World.cell?,h]
theorem At.of_block{w:World}{b:Nat}{cs:Array Value}{t:TypeId}{fz:Nat×Nat}(h:w.heap[b]? =some (.cells cs t fz))(o n:Nat):
  At w b o ((cs.toList.drop o).take n):=by
 intro j v hj
 rw[cell_of h]
 rw[lE]at hj
 split at hj
 ·rw[lF]at hj;simpa using hj
 ·cases hj
theorem lt_of_block{w:World}{b:Nat}{o:Obj}(h:w.heap[b]? =some o):b<w.heap.size:=(kt.1 h).1
theorem ER.bZ{w w':World}{M M':Nat→Prop}{v:Value}(k:eY w M w' M'): ∀{e:bh},
  (e.mut→ ∀b,fH v=some b→w'.heap[b]? =w.heap[b]? ∧M' b)→ER w M v e→ER w' M' v e
 | .obj τ x,hm,h=>by
  simp only[ER]at h ⊢
  obtain⟨b,cs,t,rfl,hb,hM,hr⟩:=h
  obtain⟨h1,h2⟩:=hm trivial b rfl
  exact⟨b,cs,t,rfl,h1.trans hb,h2,hr.bZ k⟩
 | .ga τ x p j,hm,h=>by
  simp only[ER]at h ⊢
  obtain⟨b,cs,t,rX,u,rfl,hb,hM,hr,h3⟩:=h
  obtain⟨h1,h2⟩:=hm trivial b rfl
  exact⟨b,cs,t,rX,u,rfl,h1.trans hb,h2,hr.bZ k,h3⟩
 | .own e l,hm,h=>by
  simp only[ER]at h ⊢
  rcases h with h|⟨b,cs,t,cap,rfl,hb,hM,hc,hl,GD,hs,hr⟩
  ·exact .inl h
  ·obtain⟨h1,h2⟩:=hm trivial b (by simp[fH];omega)
   exact .inr ⟨b,cs,t,cap,rfl,h1.trans hb,h2,hc,hl,GD,hs,λi hi=>(hr i hi).bZ k⟩
 | .ot e l,_,h=>by
  simp only[ER]at h ⊢
  exact⟨h.1.bZ k,h.2⟩
 | .gone,_,_=>by simp[ER]
theorem ER.xK{w:World}{M:Nat→Prop}{v:Value}{e:bh}(h:ER w M v e)(hm:e.mut){b:Nat}(hb:fH v=some b):M b:=by
 cases e with
 |obj τ x=>simp only[ER]at h;obtain⟨b',cs,t,hv,eV,hM,_⟩:=h;rw[hv]at hb;simp only[fH,iq]at hb;subst hb;exact hM
 |ga τ x p j=>simp only[ER]at h;obtain⟨b',cs,t,_,_,hv,eV,hM,_⟩:=h;rw[hv]at hb;simp only[fH,iq]at hb;subst hb;exact hM
 |own e1 l1=>
  simp only[ER]at h
  rcases h with⟨_,a,hv⟩|⟨b',cs,t,cap,hv,eV,hM,hc,_⟩
  ·rw[hv]at hb;cases a<;>simp[fH]at hb
  ·rw[hv]at hb;simp only[fH]at hb;split at hb
   ·cases hb
   ·simp only[iq]at hb;subst hb;exact hM
 |ot _ _=>simp[bh.mut]at hm
 |gone=>simp[bh.mut]at hm
theorem Tr.freeze{c:Ctx}{H:Nat→Option bh}{w:World}{M:Nat→Prop}{ν:Nat→Value}(h:Mem c H w M ν){id:Nat}{e:Ty}{l:List e.den}(bg:H id=some (.own e l)):
  ∃M',Tr c H w M ν (bW H id (some (.ot e l))) w M' ν∧V w M' (.slice e) (ν id) l∧ ∀b,M' b↔(M b∧fH (ν id)≠some b):=by
 have hk:eY w M w (λb=>M b∧fH (ν id)≠some b):=⟨aG _,λ_ _ _=>rfl,λ_ _ h=>h.1⟩
 have he:=h.kP id _ bg
 have kM:Rd w (λb=>M b∧fH (ν id)≠some b) (.slice e) [ν id] l:=by
  simp only[ER]at he
  simp only[Rd]
  rcases he with⟨rfl,a,hv⟩|⟨b,cs,t,cap,hv,hb,hM,hc,hl,GD,hs,hr⟩
  ·exact⟨a,0,by rw[hv];rfl,aG _,λi hi=>absurd hi (by simp)⟩
  ·refine⟨_,cap,by rw[hv],hl,λi hi=>⟨b,0,rfl,lt_of_block hb,λhm=>hm.2 (by rw[hv];simp[fH];omega),_,?_,(hr i hi).bZ hk⟩⟩
   rw[gh]
   exact At.of_block hb _ _
 refine⟨λb=>M b∧fH (ν id)≠some b,⟨⟨λi e' hi=> ?_,λi j e1 e2 b pH hi hm hj jI=> ?_,λi e1 b hi hm=> ?_,λi e1 l1 b hi=> ?_,Jy h.ga (λ_ _ _ _=>by simp),λb hb=>⟨h.sub b hb,λhm=>h.yq id e l b bg hm hb⟩,λb hb=>h.Ev b hb.1,h.frame,h.size,h.vi,h.os,h.tape,h.output⟩,hk,⟨λi e' hi=> ?_,λ_ _=>rfl⟩⟩,?_,λ_=>Iff.rfl⟩
 ·by_cases bV:i=id
  ·subst bV;rw[ay]at hi;cases hi
   simp only[ER]
   refine⟨kM,?_⟩
   simp only[ER]at he
   rcases he with⟨rfl,a,hv⟩|⟨b,cs,t,cap,hv,_⟩
   ·exact .inl ⟨rfl,a,0,0,hv⟩
   ·exact .inr ⟨b,_,cap,hv⟩
  ·rw[az _ _ bV]at hi
   refine(h.kP i e' hi).bZ hk (λhm b hb=>⟨rfl,?_,?_⟩)
   ·exact(h.kP i e' hi).xK hm hb
   ·exact h.zB i id e' (.own e l) b bV hi hm bg trivial hb
 ·by_cases bV:i=id
  ·subst bV;rw[ay]at hi;cases hi;simp[bh.mut]at hm
  ·by_cases GF:j=id
   ·subst GF;rw[ay]at hj;cases hj;simp[bh.mut]at jI
   ·rw[az _ _ bV]at hi;rw[az _ _ GF]at hj;exact h.zB i j e1 e2 b pH hi hm hj jI
 ·by_cases bV:i=id
  ·subst bV;rw[ay]at hi;cases hi;simp[bh.mut]at hm
  ·rw[az _ _ bV]at hi;exact h.new i e1 b hi hm
 ·by_cases bV:i=id
  ·subst bV;rw[ay]at hi;cases hi
  ·rw[az _ _ bV]at hi;exact h.yq i e1 l1 b hi
 ·by_cases bV:i=id
  ·subst bV;rw[bg]at hi;cases hi;exact⟨_,ay _ _ _,rfl,rfl⟩
  ·exact⟨e',by rw[az _ _ bV];exact hi,.refl e'⟩
 ·unfold V;rw[ah (by simp[Ty.isAgg])];exact kM
theorem Tr.fix{c:Ctx}{H:Nat→Option bh}{w:World}{M:Nat→Prop}{ν:Nat→Value}(h:Mem c H w M ν){id:Nat}{τ:Ty}{x:τ.den}(bg:H id=some (.obj τ x)):
  ∃M' b,Tr c H w M ν (bW H id (some .gone)) w M' ν∧ν id= .pointer (some ⟨b,0,none⟩)∧b<w.heap.size∧ ¬M' b∧ ∃cs,At w b 0 cs∧Rd w M' τ cs x:=by
 have he:=h.kP id _ bg
 simp only[ER]at he
 obtain⟨b0,cs,t,hv,hb,hM,hr⟩:=he
 have vR:fH (ν id)=some b0:=by rw[hv];rfl
 have hk:eY w M w (λb=>M b∧b≠b0):=⟨aG _,λ_ _ _=>rfl,λ_ _ h=>h.1⟩
 have HK: ¬c.M0 b0:=λhm=>(h.new id _ b0 bg trivial vR).elim (λhB=>by have:=h.vi.1 b0 hm;omega) (λhB=>h.vi.2 b0 hB hm)
 refine⟨λb=>M b∧b≠b0,b0,⟨⟨λi e' hi=> ?_,λi j e1 e2 b pH hi hm hj jI=> ?_,λi e1 b hi hm=> ?_,λi e1 l1 b hi=> ?_,Jy h.ga (λ_ _ _ _=>by simp),λb eV=>⟨h.sub b eV,λe=>HK (e▸eV)⟩,λb eV=>h.Ev b eV.1,h.frame,h.size,h.vi,h.os,h.tape,h.output⟩,hk,⟨λi e' hi=> ?_,λ_ _=>rfl⟩⟩,hv,lt_of_block hb,λhm=>hm.2 rfl,cs.toList,?_,hr.bZ hk⟩
 ·by_cases bV:i=id
  ·subst bV;rw[ay]at hi;cases hi;simp[ER]
  ·rw[az _ _ bV]at hi
   refine(h.kP i e' hi).bZ hk (λhm b eV=>⟨rfl,?_,?_⟩)
   ·exact(h.kP i e' hi).xK hm eV
   ·intro e
    exact h.zB i id e' (.obj τ x) b bV hi hm bg trivial eV (by rw[vR,e])
 ·by_cases bV:i=id
  ·subst bV;rw[ay]at hi;cases hi;simp[bh.mut]at hm
  ·by_cases GF:j=id
   ·subst GF;rw[ay]at hj;cases hj;simp[bh.mut]at jI
   ·rw[az _ _ bV]at hi;rw[az _ _ GF]at hj;exact h.zB i j e1 e2 b pH hi hm hj jI
 ·by_cases bV:i=id
  ·subst bV;rw[ay]at hi;cases hi;simp[bh.mut]at hm
  ·rw[az _ _ bV]at hi;exact h.new i e1 b hi hm
 ·by_cases bV:i=id
  ·subst bV;rw[ay]at hi;cases hi
  ·rw[az _ _ bV]at hi;exact h.yq i e1 l1 b hi
 ·by_cases bV:i=id
  ·subst bV;rw[bg]at hi;cases hi;exact⟨_,ay _ _ _,trivial⟩
  ·exact⟨e',by rw[az _ _ bV];exact hi,.refl e'⟩
 ·have:=At.of_block hb 0 cs.toList.length
  rwa [cX,iS]at this
end VM
end
section
namespace VM
open Go
theorem Ew(w:World)(o:Obj):(w.alloc o).heap[w.heap.size]? =some o:=by
 show(w.heap.push o)[w.heap.size]? =some o
 simp
theorem qd(w:World)(o:Obj){i:Nat}(h:i<w.heap.size):(w.alloc o).heap[i]? =w.heap[i]? :=by
 show(w.heap.push o)[i]? =w.heap[i]?
 rw[Array.getElem?_push,ah (Nat.ne_of_lt h)]
theorem size_alloc(w:World)(o:Obj):(w.alloc o).heap.size=w.heap.size+1:=by
 show(w.heap.push o).size=_
 simp
def dg(ν:Nat→Value)(d:Nat)(v:Value):Nat→Value:=λi=>if i=d then v else ν i
theorem qH{c:Ctx}{H:Nat→Option bh}{w w':World}{M:Nat→Prop}{ν ν':Nat→Value}(h:Mem c H w M ν){H':Nat→Option bh}
  (hν: ∀i,H i≠none→ν' i=ν i) (hn: ∀i,H i≠none→H' i≠none)
  (hi: ∀i τ x p j,H' i=some (.ga τ x p j)→(H i=some (.ga τ x p j)∧ ∀b,ν i= .pointer (some ⟨b,0,none⟩)→w'.heap[b]? =w.heap[b]?)∨(H' j≠none∧ ∃b,ν' i= .pointer (some ⟨b,0,none⟩)∧w'.cell? ⟨b,cE p τ,none⟩=some (ν' j))):
  ∀i τ x p j,H' i=some (.ga τ x p j)→H' j≠none∧ ∃b,ν' i= .pointer (some ⟨b,0,none⟩)∧w'.cell? ⟨b,cE p τ,none⟩=some (ν' j):=by
 intro i τ x p j he
 rcases hi i τ x p j he with⟨h1,hb⟩|h1
 ·obtain⟨h2,b,h3,h4⟩:=h.ga i τ x p j h1
  refine⟨hn j h2,b,by rw[hν i (by rw[h1];simp)];exact h3,?_⟩
  rw[hν j h2,World.cell?_of_block (w:=w) (hb b h3)]
  exact h4
 ·exact h1
theorem xg{H:Nat→Option bh}{id:Nat}{v:bh}: ∀i,H i≠none→bW H id (some v) i≠none:=λ_ h=>xf h
theorem zC{H:Nat→Option bh}{id:Nat}{v:bh}(hv: ∀τ x p j,v≠ .ga τ x p j){i:Nat}{τ:Ty}{x:τ.den}{p:List Step}{j:Nat}(h:bW H id (some v) i=some (.ga τ x p j)):H i=some (.ga τ x p j):=by
 by_cases bV:i=id
 ·subst bV;rw[ay]at h;cases h;exact absurd rfl (hv _ _ _ _)
 ·rw[az _ _ bV]at h;exact h
theorem Tr.alloc{c:Ctx}{H:Nat→Option bh}{w:World}{M:Nat→Prop}{ν:Nat→Value}(h:Mem c H w M ν){id:Nat}(bg:H id=none)(o:Obj)(v:Value)(e:bh)(hm:e.mut)(HL: ∀τ x p j,e≠ .ga τ x p j)
  (hb:fH v=none∨fH v=some w.heap.size) (Sz:ER (w.alloc o) (λb=>M b∨b=w.heap.size) v e):
  Tr c H w M ν (bW H id (some e)) (w.alloc o) (λb=>M b∨b=w.heap.size) (dg ν id v):=by
 have hk:eY w M (w.alloc o) (λb=>M b∨b=w.heap.size):=
  ⟨by rw[size_alloc];omega,λb hb _=>qd w o hb,λb hb h'=>h'.resolve_right ω⟩
 have hν: ∀i,i≠id→dg ν id v i=ν i:=λi hi=>by simp[dg,hi]
 have CV:dg ν id v id=v:=by simp[dg]
 have eZ: ∀i e' b,H i=some e'→e'.mut→fH (ν i)=some b→b<w.heap.size:=λi e' b hi jI eV=>h.Ev b ((h.kP i e' hi).xK jI eV)
 refine⟨⟨λi e' hi=> ?_,λi j e1 e2 b pH hi s9 hj yc=> ?_,λi e1 b hi s9=> ?_,λi e1 l1 b hi=> ?_,qH h (λi hi=>hν i (λe=>hi (e▸bg))) xg (λi τ x p j hi=> .inl ⟨zC HL hi,λb hb=>qd w o (eZ i _ b (zC HL hi) trivial (by rw[hb];rfl))⟩),λb hb=> .inl (h.sub b hb),λb eV=> ?_,λb me tI=> ?_,?_,h.vi,h.os,h.tape,h.output⟩,hk,⟨λi e' hi=> ?_,λi hi=> ?_⟩⟩
 ·by_cases bV:i=id
  ·subst bV;rw[ay]at hi;cases hi;rw[CV];exact Sz
  ·rw[az _ _ bV]at hi;rw[hν i bV]
   exact(h.kP i e' hi).bZ hk λjI b eV=>⟨qd w o (eZ i e' b hi jI eV),.inl ((h.kP i e' hi).xK jI eV)⟩
 ·by_cases bV:i=id
  ·subst bV;rw[ay]at hi;cases hi;rw[CV]
   intro me
   have GF:j≠i:=eE pH
   rw[az _ _ GF]at hj;rw[hν j GF]
   intro tI
   have:=eZ j e2 b hj yc tI
   rcases hb with hb|hb<;>rw[hb]at me<;>simp at me
   omega
  ·rw[az _ _ bV]at hi;rw[hν i bV]
   by_cases GF:j=id
   ·subst GF;rw[CV]
    intro me tI
    have:=eZ i e1 b hi s9 me
    rcases hb with hb|hb<;>rw[hb]at tI<;>simp at tI
    omega
   ·rw[az _ _ GF]at hj;rw[hν j GF];exact h.zB i j e1 e2 b pH hi s9 hj yc
 ·by_cases bV:i=id
  ·subst bV;rw[CV]
   intro me
   rcases hb with hb|hb<;>rw[hb]at me<;>simp at me
   subst me;exact .inl h.size
  ·rw[az _ _ bV]at hi;rw[hν i bV];exact h.new i e1 b hi s9
 ·by_cases bV:i=id
  ·subst bV;rw[CV]
   intro me h0
   rcases hb with hb|hb<;>rw[hb]at me<;>simp at me
   have:=h.vi.1 b h0
   have:=h.size
   omega
  ·rw[az _ _ bV]at hi;rw[hν i bV];exact h.yq i e1 l1 b hi
 ·rw[size_alloc]
  rcases eV with eV|eV
  ·have:=h.Ev b eV;omega
  ·omega
 ·rw[qd w o (mL me h.size)];exact h.frame b me tI
 ·rw[size_alloc];have:=h.size;omega
 ·by_cases bV:i=id
  ·subst bV;rw[bg]at hi;cases hi
  ·exact⟨e',by rw[az _ _ bV];exact hi,.refl e'⟩
 ·have bV:i≠id:=λe=>hi (e▸bg)
  exact hν i bV
theorem Tr.var{c:Ctx}{H:Nat→Option bh}{w:World}{M:Nat→Prop}{ν:Nat→Value}(h:Mem c H w M ν){id:Nat}(bg:H id=none)(t:TypeId){τ:Ty}{cs:Array Value}{x:τ.den}(hr:Rd w M τ cs.toList x):
  Tr c H w M ν (bW H id (some (.obj τ x))) (w.alloc (.cells cs t)) (λb=>M b∨b=w.heap.size) (dg ν id (.pointer (some ⟨w.heap.size,0,none⟩))):=by
 refine Tr.alloc h bg _ _ _ trivial (λ_ _ _ _=>by simp) (.inr rfl) ?_
 simp only[ER]
 have hk:eY w M (w.alloc (.cells cs t)) (λb=>M b∨b=w.heap.size):=
  ⟨by rw[size_alloc];omega,λb hb _=>qd w _ hb,λb hb h'=>h'.resolve_right ω⟩
 exact⟨w.heap.size,cs,t,rfl,Ew w _,.inr rfl,hr.bZ hk⟩
theorem Tr.row{c:Ctx}{H:Nat→Option bh}{w:World}{M:Nat→Prop}{ν:Nat→Value}(h:Mem c H w M ν){id:Nat}(bg:H id=none)(t:TypeId){e:Ty}{cs:Array Value}{l:List e.den}{cap:Nat}
  (hl:l.length≤cap) (hm:cap≤maxLen) (hs:cs.size=cap*e.size) (hr: ∀i (hi:i<l.length),Rd w M e ((cs.toList.drop (i*e.size)).take e.size) l[i]):
  Tr c H w M ν (bW H id (some (.own e l))) (w.alloc (.cells cs t)) (λb=>M b∨b=w.heap.size) (dg ν id (.slice (some ⟨w.heap.size,0,none⟩) l.length cap)):=by
 have hk:eY w M (w.alloc (.cells cs t)) (λb=>M b∨b=w.heap.size):=
  ⟨by rw[size_alloc];omega,λb hb _=>qd w _ hb,λb hb h'=>h'.resolve_right ω⟩
 refine Tr.alloc h bg _ _ _ trivial (λ_ _ _ _=>by simp) ?_ ?_
 ·simp only[fH];split
  ·exact .inl rfl
  ·exact .inr rfl
 ·simp only[ER]
  by_cases hc:cap=0
  ·subst hc
   have hl0:l=[]:=tJ ω
   subst hl0
   exact .inl ⟨rfl,_,rfl⟩
  ·exact .inr ⟨w.heap.size,cs,t,cap,rfl,Ew w _,.inr rfl,ω,hl,hm,hs,λi hi=>(hr i hi).bZ hk⟩
theorem Tr.drew{c:Ctx}{H:Nat→Option bh}{w:World}{M:Nat→Prop}{ν:Nat→Value}(h:Mem c H w M ν):Tr c H w M ν H w.drew M ν:=by
 have hk:eY w M w.drew M:=⟨aG _,λ_ _ _=>rfl,λ_ _ h=>h⟩
 exact⟨⟨λi e he=>(h.kP i e he).bZ hk λhm b hb=>⟨rfl,(h.kP i e he).xK hm hb⟩,h.zB,h.new,h.yq,h.ga,h.sub,h.Ev,h.frame,h.size,h.vi,h.os,h.tape,h.output⟩,hk,.refl H ν⟩
theorem size_setRow(w:World)(g:Nat)(cs:Array Value):(w.setRow g cs).heap.size=w.heap.size:=by simp[World.setRow]
theorem Tr.write{c:Ctx}{H:Nat→Option bh}{w:World}{M:Nat→Prop}{ν:Nat→Value}(h:Mem c H w M ν){id:Nat}{e e':bh}(bg:H id=some e)(hm:e.mut)(jI:e'.mut)(hl:e.kT e')
  {b:Nat} (hb:fH (ν id)=some b) {cs new:Array Value} {t:TypeId} (hg:w.heap[b]? =some (.cells cs t (0,0)))
  (Sz: ∀M',eY w M (w.setRow b new) M'→M' b→ER (w.setRow b new) M' (ν id) e')
  (sF: ∀τ x p j,e'= .ga τ x p j→H j≠none∧ ∃b',ν id= .pointer (some ⟨b',0,none⟩)∧(w.setRow b new).cell? ⟨b',cE p τ,none⟩=some (ν j):=by intro _ _ _ _ h;cases h):
  Tr c H w M ν (bW H id (some e')) (w.setRow b new) M ν:=by
 have hMb:M b:=(h.kP id e bg).xK hm hb
 have hk:eY w M (w.setRow b new) M:=
  ⟨by rw[size_setRow];exact aG _,λb' _ hm=>setRow_other w b b' new (λe=>hm (e▸hMb)),λ_ _ h=>h⟩
 refine⟨⟨λi e1 hi=> ?_,λi j e1 e2 b1 pH hi s9 hj yc=> ?_,λi e1 b1 hi s9=> ?_,λi e1 l1 b1 hi=> ?_,qH h (λ_ _=>rfl) xg (λi τ x p j hi=> ?_),h.sub,λb1 me=>by rw[size_setRow];exact h.Ev b1 me,λb1 me tI=> ?_,by rw[size_setRow];exact h.size,h.vi,h.os,h.tape,h.output⟩,hk,⟨λi e1 hi=> ?_,λi hi=>rfl⟩⟩
 ·by_cases bV:i=id
  ·subst bV;rw[ay]at hi;cases hi;exact Sz M hk hMb
  ·rw[az _ _ bV]at hi
   exact(h.kP i e1 hi).bZ hk λs9 b1 me=>⟨setRow_other w b b1 new (λe'=>h.zB i id e1 e b1 bV hi s9 bg hm me (e'▸hb)),(h.kP i e1 hi).xK s9 me⟩
 ·by_cases bV:i=id
  ·subst bV;rw[ay]at hi;cases hi
   have GF:j≠i:=eE pH
   rw[az _ _ GF]at hj
   exact h.zB i j e e2 b1 pH bg hm hj yc
  ·rw[az _ _ bV]at hi
   by_cases GF:j=id
   ·subst GF;exact h.zB i j e1 e b1 pH hi s9 bg hm
   ·rw[az _ _ GF]at hj;exact h.zB i j e1 e2 b1 pH hi s9 hj yc
 ·by_cases bV:i=id
  ·subst bV;exact h.new i e b1 bg hm
  ·rw[az _ _ bV]at hi;exact h.new i e1 b1 hi s9
 ·by_cases bV:i=id
  ·subst bV;rw[ay]at hi;cases hi
   cases e with
   |own e0 l0=>exact h.yq i e0 l0 b1 bg
   |obj _ _=>simp[bh.kT]at hl
   |ga _ _ _ _=>simp[bh.kT]at hl
   |ot _ _=>simp[bh.mut]at hm
   |gone=>simp[bh.mut]at hm
  ·rw[az _ _ bV]at hi;exact h.yq i e1 l1 b1 hi
 ·by_cases bV:i=id
  ·subst bV;rw[ay]at hi;cases hi
   obtain⟨h1,h2⟩:=sF _ _ _ _ rfl
   exact .inr ⟨xf h1,h2⟩
  ·rw[az _ _ bV]at hi
   exact .inl ⟨hi,λb1 me=>setRow_other w b b1 new (λe1=>h.zB i id _ e b1 bV hi trivial bg hm (by rw[me];rfl) (e1▸hb))⟩
 ·rw[setRow_other w b b1 new]
  ·exact h.frame b1 me tI
  ·intro hbb;subst hbb
   rcases h.new id e b1 bg hm hb with h'|h'
   ·omega
   ·exact tI h'
 ·by_cases bV:i=id
  ·subst bV;rw[bg]at hi;cases hi;exact⟨e',ay _ _ _,hl⟩
  ·exact⟨e1,by rw[az _ _ bV];exact hi,.refl e1⟩
theorem Tr.rename{c:Ctx}{H:Nat→Option bh}{w:World}{M:Nat→Prop}{ν:Nat→Value}(h:Mem c H w M ν){j id:Nat}{e e':Ty}{l:List e.den}{l':List e'.den}(hj:H j=some (.own e l))(bg:H id=none)
  {v:Value} (hb:fH v=none∨fH v=fH (ν j)) (Sz:ER w M v (.own e' l')):
  Tr c H w M ν (bW (bW H j (some .gone)) id (some (.own e' l'))) w M (dg ν id v):=by
 have jH:j≠id:=λe=>by rw[e,bg]at hj;cases hj
 have h1:=(Tr.gone h j).mem
 have pd:bW H j (some .gone) id=none:=by rw[az _ _ (eE jH)];exact bg
 have hν: ∀i,i≠id→dg ν id v i=ν i:=λi hi=>by simp[dg,hi]
 have CV:dg ν id v id=v:=by simp[dg]
 refine⟨⟨λi e1 hi=> ?_,λi k e1 e2 b1 pH hi s9 hk yc=> ?_,λi e1 b1 hi s9=> ?_,λi e1 l1 b1 hi=> ?_,qH h1 (λi hi=>hν i (λe=>hi (e▸pd))) xg (λi τ x p j hi=> .inl ⟨zC (λ_ _ _ _=>by simp) hi,λ_ _=>rfl⟩),h.sub,h.Ev,h.frame,h.size,h.vi,h.os,h.tape,h.output⟩,.refl w M,⟨λi e1 hi=> ?_,λi hi=> ?_⟩⟩
 ·by_cases bV:i=id
  ·subst bV;rw[ay]at hi;cases hi;rw[CV];exact Sz
  ·rw[az _ _ bV]at hi;rw[hν i bV];exact h1.kP i e1 hi
 ·by_cases bV:i=id
  ·subst bV;rw[ay]at hi;cases hi;rw[CV]
   have LR:k≠i:=eE pH
   rw[az _ _ LR]at hk;rw[hν k LR]
   intro me
   rcases hb with hb|hb
   ·rw[hb]at me;cases me
   ·rw[hb]at me
    by_cases hkj:k=j
    ·subst hkj;rw[ay]at hk;cases hk;simp[bh.mut]at yc
    ·rw[az _ _ hkj]at hk;exact h.zB j k _ e2 b1 (eE hkj) hj trivial hk yc me
  ·rw[az _ _ bV]at hi;rw[hν i bV]
   by_cases LR:k=id
   ·subst LR;rw[CV]
    intro me tI
    rcases hb with hb|hb
    ·rw[hb]at tI;cases tI
    ·rw[hb]at tI
     by_cases GV:i=j
     ·subst GV;rw[ay]at hi;cases hi;simp[bh.mut]at s9
     ·rw[az _ _ GV]at hi;exact h.zB j i _ e1 b1 (eE GV) hj trivial hi s9 tI me
   ·rw[az _ _ LR]at hk;rw[hν k LR];exact h1.zB i k e1 e2 b1 pH hi s9 hk yc
 ·by_cases bV:i=id
  ·subst bV;rw[CV];intro me
   rcases hb with hb|hb
   ·rw[hb]at me;cases me
   ·rw[hb]at me;exact h.new j _ b1 hj trivial me
  ·rw[az _ _ bV]at hi;rw[hν i bV];exact h1.new i e1 b1 hi s9
 ·by_cases bV:i=id
  ·subst bV;rw[CV];intro me
   rcases hb with hb|hb
   ·rw[hb]at me;cases me
   ·rw[hb]at me;exact h.yq j e l b1 hj me
  ·rw[az _ _ bV]at hi;rw[hν i bV];exact h1.yq i e1 l1 b1 hi
 ·by_cases GV:i=j
  ·subst GV;exact⟨.gone,by rw[az _ _ jH,ay],by cases e1<;>simp[bh.kT]⟩
  ·have bV:i≠id:=λe=>by rw[e,bg]at hi;cases hi
   exact⟨e1,by rw[az _ _ bV,az _ _ GV];exact hi,.refl e1⟩
 ·exact hν i (λe=>hi (e▸bg))
theorem Tr.GW{c:Ctx}{H:Nat→Option bh}{w:World}{M:Nat→Prop}{ν:Nat→Value}(h:Mem c H w M ν){id:Nat}{e e':bh}(bg:H id=some e)(hm:e.mut)(jI:e'.mut)(hl:e.kT e')(vp: ∀e0 l0,e'≠ .own e0 l0)
  (Sz:ER w M (ν id) e') (sF: ∀τ x p j,e'= .ga τ x p j→H j≠none∧ ∃b',ν id= .pointer (some ⟨b',0,none⟩)∧w.cell? ⟨b',cE p τ,none⟩=some (ν j)):
  Tr c H w M ν (bW H id (some e')) w M ν:=by
 refine⟨⟨λi e1 hi=> ?_,λi j e1 e2 b1 pH hi s9 hj yc=> ?_,λi e1 b1 hi s9=> ?_,λi e1 l1 b1 hi=> ?_,qH h (λ_ _=>rfl) xg (λi τ x p j hi=> ?_),h.sub,h.Ev,h.frame,h.size,h.vi,h.os,h.tape,h.output⟩,.refl w M,⟨λi e1 hi=> ?_,λi hi=>rfl⟩⟩
 ·by_cases bV:i=id
  ·subst bV;rw[ay]at hi;cases hi;exact Sz
  ·rw[az _ _ bV]at hi;exact h.kP i e1 hi
 ·by_cases bV:i=id
  ·subst bV;rw[ay]at hi;cases hi
   have GF:j≠i:=eE pH
   rw[az _ _ GF]at hj
   exact h.zB i j e e2 b1 pH bg hm hj yc
  ·rw[az _ _ bV]at hi
   by_cases GF:j=id
   ·subst GF;exact h.zB i j e1 e b1 pH hi s9 bg hm
   ·rw[az _ _ GF]at hj;exact h.zB i j e1 e2 b1 pH hi s9 hj yc
 ·by_cases bV:i=id
  ·subst bV;exact h.new i e b1 bg hm
  ·rw[az _ _ bV]at hi;exact h.new i e1 b1 hi s9
 ·by_cases bV:i=id
  ·subst bV;rw[ay]at hi;cases hi;exact absurd rfl (vp _ _)
  ·rw[az _ _ bV]at hi;exact h.yq i e1 l1 b1 hi
 ·by_cases bV:i=id
  ·subst bV;rw[ay]at hi;cases hi
   obtain⟨h1,h2⟩:=sF _ _ _ _ rfl
   exact .inr ⟨xf h1,h2⟩
  ·rw[az _ _ bV]at hi;exact .inl ⟨hi,λ_ _=>rfl⟩
 ·by_cases bV:i=id
  ·subst bV;rw[bg]at hi;cases hi;exact⟨e',ay _ _ _,hl⟩
  ·exact⟨e1,by rw[az _ _ bV];exact hi,.refl e1⟩
theorem Tr.nothing{c:Ctx}{w:World}{M:Nat→Prop}{ν:Nat→Value}{H:Nat→Option bh}(h:Mem c H w M ν){id:Nat}(bg:H id=none)(e:Ty)(ad:Option Addr):
  Tr c H w M ν (bW H id (some (.own e []))) w M (dg ν id (.slice ad 0 0)):=by
 have hν: ∀i,i≠id→dg ν id (.slice ad 0 0) i=ν i:=λi hi=>by simp[dg,hi]
 have CV:dg ν id (.slice ad 0 0) id= .slice ad 0 0:=by simp[dg]
 have hb:fH (.slice ad 0 0)=none:=by cases ad<;>simp[fH]
 refine⟨⟨λi e1 hi=> ?_,λi k e1 e2 b1 pH hi s9 hk yc=> ?_,λi e1 b1 hi s9=> ?_,λi e1 l1 b1 hi=> ?_,qH h (λi hi=>hν i (λe=>hi (e▸bg))) xg (λi τ x p j hi=> .inl ⟨zC (λ_ _ _ _=>by simp) hi,λ_ _=>rfl⟩),h.sub,h.Ev,h.frame,h.size,h.vi,h.os,h.tape,h.output⟩,.refl w M,⟨λi e1 hi=> ?_,λi hi=>hν i (λe=>hi (e▸bg))⟩⟩
 ·by_cases bV:i=id
  ·subst bV;rw[ay]at hi;cases hi;rw[CV];simp only[ER];exact .inl ⟨trivial,ad,rfl⟩
  ·rw[az _ _ bV]at hi;rw[hν i bV];exact h.kP i e1 hi
 ·by_cases bV:i=id
  ·subst bV;rw[CV,hb];intro h';cases h'
  ·rw[az _ _ bV]at hi;rw[hν i bV]
   by_cases LR:k=id
   ·subst LR;rw[CV,hb];intro _ h';cases h'
   ·rw[az _ _ LR]at hk;rw[hν k LR];exact h.zB i k e1 e2 b1 pH hi s9 hk yc
 ·by_cases bV:i=id
  ·subst bV;rw[CV,hb];intro h';cases h'
  ·rw[az _ _ bV]at hi;rw[hν i bV];exact h.new i e1 b1 hi s9
 ·by_cases bV:i=id
  ·subst bV;rw[CV,hb];intro h';cases h'
  ·rw[az _ _ bV]at hi;rw[hν i bV];exact h.yq i e1 l1 b1 hi
 ·have bV:i≠id:=λe=>by rw[e,bg]at hi;cases hi
  exact⟨e1,by rw[az _ _ bV];exact hi,.refl e1⟩
end VM
end
section
namespace VM
open Go
theorem bB{α:Type}{υ τ:Ty}{y:υ.den}{k:τ.den→Option α}{r:α}(h:c7 υ τ y k=some r): ∃e:υ=τ,k (e▸y)=some r:=by
 unfold c7 at h
 split at h
 ·rename_i e;exact⟨e,h⟩
 ·cases h
theorem fU{α:Type}{υ τ:Ty}{k:Option α}{r:α}(h:mV υ τ k=some r):υ=τ∧k=some r:=by
 unfold mV at h
 split at h
 ·rename_i e;exact⟨e,h⟩
 ·cases h
theorem V.slice{w:World}{M:Nat→Prop}{e:Ty}{v:Value}{l:List e.den}:V w M (.slice e) v l↔Rd w M (.slice e) [v] l:=by
 unfold V;rw[ah (by simp[Ty.isAgg])]
def Fz(H H1:Nat→Option bh):Prop:= ∀i,H1 i=H i∨ ∃e l,H i=some (.own e l)∧H1 i=some (.ot e l)
theorem Fz.refl(H:Nat→Option bh):Fz H H:=λ_=> .inl rfl
theorem Fz.none{H H1:Nat→Option bh}(h:Fz H H1){i:Nat}(hi:H i=none):H1 i=none:=by
 rcases h i with h'|⟨e,l,h',_⟩
 ·rw[h',hi]
 ·rw[hi]at h';cases h'
theorem Fz.obj{H H1:Nat→Option bh}(h:Fz H H1){i:Nat}{τ:Ty}{x:τ.den}(hi:H i=some (.obj τ x)):H1 i=some (.obj τ x):=by
 rcases h i with h'|⟨e,l,h',_⟩
 ·rw[h',hi]
 ·rw[hi]at h';cases h'
theorem AZ{H:Nat→Option bh}{id:Nat}{e:Option bh}(h:H id=e):bW H id e=H:=by
 funext i
 by_cases hi:i=id
 ·subst hi;rw[ay,h]
 ·rw[az _ _ hi]
theorem nP{α:Type}{c:Ctx}{H H1:Nat→Option bh}{w:World}{M:Nat→Prop}{ν:Nat→Value}(hz:Fz H H1)(hm:Mem c H1 w M ν){a:bC}{v:Value}(hv:VR w M H1 ν a v){τ:Ty}
  {k:τ.den→List Nat→iP→Option α} {r:α} (h:lN true a H τ k=some r):
  ∃y rd ups M',k y rd ups=some r∧Tr c H1 w M ν (c3 H1 ups) w M' ν∧V w M' τ v y∧Fz H (c3 H1 ups)∧ ∀i,rd.contains i=false→c3 H1 ups i=H1 i:=by
 unfold lN at h
 split at h
 ·
  obtain⟨e,h⟩:=bB h
  subst e
  simp only[VR]at hv
  exact⟨_,[],[],M,h,.refl hm,hv,hz,λ_ _=>rfl⟩
 ·
  obtain⟨e,h⟩:=bB h
  subst e
  simp only[VR]at hv
  exact⟨_,[],[],M,h,.refl hm,hv.1,hz,λ_ _=>rfl⟩
 ·
  split at h
  ·rename_i e k' _
   simp only[VR]at hv
   obtain⟨a,rfl⟩:=hv
   refine⟨[],[],[],M,h,.refl hm,V.slice.2 ?_,hz,λ_ _=>rfl⟩
   simp only[Rd]
   exact⟨a,0,rfl,aG _,λi hi=>absurd hi (by simp)⟩
  ·cases h
 ·rename_i id
  simp only[VR]at hv
  obtain⟨_,rfl⟩:=hv
  split at h
  ·rename_i e l bg
   obtain⟨e',h⟩:=bB h
   subst e'
   rcases hz id with h1|⟨e1,l1,h1,h2⟩
   ·rw[bg]at h1
    obtain⟨M',ic,hV,_⟩:=Tr.freeze hm h1
    refine⟨_,_,_,M',h,ic,hV,λi=> ?_,λi hi=>az _ _ (by simpa using hi)⟩
    show bW H1 id (some (.ot e l)) i=H i∨_
    by_cases hi:i=id
    ·subst hi;exact .inr ⟨e,l,bg,ay _ _ _⟩
    ·rw[az _ _ hi]
     rcases hz i with h'|⟨e2,l2,h2,h3⟩
     ·exact .inl h'
     ·exact .inr ⟨e2,l2,h2,by show bW H1 id _ i=_;rw[az _ _ hi];exact h3⟩
   ·rw[bg]at h1;cases h1
    have:=hm.kP id _ h2
    simp only[ER]at this
    refine⟨_,_,[(id,some (.ot e l))],M,h,?_,V.slice.2 this.1,?_,λi hi=>az _ _ (by simpa using hi)⟩
    ·show Tr c H1 w M ν (bW H1 id (some (.ot e l))) w M ν
     rw[AZ h2];exact .refl hm
    ·show Fz H (bW H1 id (some (.ot e l)))
     rw[AZ h2];exact hz
  ·rename_i e l bg
   obtain⟨e',h⟩:=bB h
   subst e'
   have h1:H1 id=some (.ot e l):=by
    rcases hz id with h1|⟨e1,l1,h1,h2⟩
    ·rw[h1,bg]
    ·rw[bg]at h1;cases h1
   have:=hm.kP id _ h1
   simp only[ER]at this
   exact⟨_,_,_,M,h,.refl hm,V.slice.2 this.1,hz,λ_ _=>rfl⟩
  ·cases h
 ·cases h
def Src(w:World)(M:Nat→Prop)(e:Ty)(v:Value)(l:List e.den):Prop:=
 ∃a cap,v= .slice a l.length cap∧ ∀i (h:i<l.length),∃b off cs,a=some ⟨b,off,none⟩∧At w b (off+i*e.size) cs∧Rd w M e cs l[i]
theorem Src.YU{w:World}{M:Nat→Prop}{e:Ty}{v:Value}{l:List e.den}(h:V w M (.slice e) v l):Src w M e v l:=by
 have h:=V.slice.1 h
 simp only[Rd,fe,eP]at h
 obtain⟨a,cap,rfl,_,hr⟩:=h
 refine⟨a,cap,rfl,λi hi=> ?_⟩
 obtain⟨b,off,ha,_,_,cs,pR,kM⟩:=hr i hi
 exact⟨b,off,cs,ha,pR,kM⟩
theorem B0{α:Type}{c:Ctx}{H:Nat→Option bh}{w:World}{M:Nat→Prop}{ν:Nat→Value}(hm:Mem c H w M ν){a:bC}{v:Value}(hv:VR w M H ν a v){e:Ty}
  {k:List e.den→List Nat→iP→Option α} {r:α} (h:lN false a H (.slice e) k=some r):
  ∃y rd,k y rd []=some r∧Src w M e v y:=by
 unfold lN at h
 split at h
 ·obtain⟨e',h⟩:=bB h
  subst e'
  simp only[VR]at hv
  exact⟨_,[],h,.YU hv⟩
 ·obtain⟨e',h⟩:=bB h
  subst e'
  simp only[VR]at hv
  exact⟨_,[],h,.YU hv.1⟩
 ·have h:k [] [] []=some r:=h
  simp only[VR]at hv
  obtain⟨a,rfl⟩:=hv
  exact⟨[],[],h,a,0,rfl,λi hi=>absurd hi (by simp)⟩
 ·rename_i id
  simp only[VR]at hv
  obtain⟨_,rfl⟩:=hv
  split at h
  ·rename_i e1 l bg
   obtain⟨e',h⟩:=bB h
   cases e'
   refine⟨_,_,h,?_⟩
   have:=hm.kP id _ bg
   simp only[ER]at this
   rcases this with⟨rfl,a,hv⟩|⟨b,cs,t,cap,hv,hb,hM,hc,hl,GD,hs,hr⟩
   ·exact⟨a,0,hv,λi hi=>absurd hi (by simp)⟩
   ·refine⟨_,cap,hv,λi hi=>⟨b,0,_,rfl,?_,hr i hi⟩⟩
    rw[gh]
    exact At.of_block hb _ _
  ·rename_i e1 l bg
   obtain⟨e',h⟩:=bB h
   cases e'
   have:=hm.kP id _ bg
   simp only[ER]at this
   exact⟨_,_,h,.YU (V.slice.2 this.1)⟩
  ·cases h
 ·cases h
theorem Src.cells{w:World}{M:Nat→Prop}{e:Ty}{v:Value}{l:List e.den}(h:Src w M e v l)(jH:l≠[]):
  ∃b off cap news,v= .slice (some ⟨b,off,none⟩) l.length cap∧news.length=l.length*e.size∧At w b off news∧
   (∀i (hi:i<l.length),Rd w M e ((news.drop (i*e.size)).take e.size) l[i])∧ ∀u∈news,u.oneCell'=true:=by
 obtain⟨a,cap,rfl,hr⟩:=h
 have h0:0<l.length:=rU.2 jH
 obtain⟨b,off,_,ha,_⟩:=hr 0 h0
 subst ha
 have key: ∀n,n≤l.length→ ∃news:List Value,news.length=n*e.size∧At w b off news∧
   (∀i (hi:i<l.length),i<n→Rd w M e ((news.drop (i*e.size)).take e.size) l[i])∧ ∀u∈news,u.oneCell'=true:=by
  intro n
  induction n with
  |zero=>exact λ_=>⟨[],by simp,λj v hj=>by simp at hj,λi _ hi=>ω,by simp⟩
  |succ n ih=>
   intro hn
   obtain⟨news,hl,pR,kM,agE⟩:=ih ω
   obtain⟨b',axL,cs,ha,aqG,SA⟩:=hr n ω
   cases ha
   refine⟨news++cs,by rw[aS,hl,SA.length,eg,jP],At.append.2 ⟨pR,by rw[hl];exact aqG⟩,λi hi lK=> ?_,λu hu=> ?_⟩
   ·by_cases eZ:i<n
    ·have h1:(i+1)*e.size≤n*e.size:=lB _ eZ
     rw[eg,jP]at h1
     rw[y7 ω,y6 (by rw[dO];omega)]
     exact kM i hi eZ
    ·obtain rfl:i=n:=ω
     rw[mP hl,jw (by rw[SA.length];exact aG _)]
     exact SA
   ·rcases bb.1 hu with hu|hu
    ·exact agE u hu
    ·exact SA.ou u hu
 obtain⟨news,hl,pR,kM,agE⟩:=key l.length (aG _)
 exact⟨b,off,cap,news,rfl,hl,pR,λi hi=>kM i hi hi,agE⟩
structure Core(c:Ctx)(σ:St)(tm:Array Value)(w:World)(M:Nat→Prop)(ν:Nat→Value):Prop where
 mem:Mem c σ.H w M ν
 tmp: ∀i,VR w M σ.H ν (σ.T i) (tm.getD i undef)
theorem SC(w:World)(M:Nat→Prop)(H:Nat→Option bh)(ν:Nat→Value)(v:Value):VR w M H ν (cvA v) v:=by
 unfold cvA
 split<;>simp[VR,V,Ty.isAgg,Rd]
theorem Core.op{c:Ctx}{σ:St}{tm:Array Value}{w:World}{M:Nat→Prop}{ν:Nat→Value}(h:Core c σ tm w M ν)(ds:List Deferred)(x:Operand):
  VR w M σ.H ν (σ.ρ x) (({tmps:=tm,defers:=ds}:Act).eval x):=by
 cases x with
 |tmp t=>exact h.tmp t
 |const v=>exact SC w M σ.H ν v
 |global g=>simp[St.ρ,VR]
 |func f=>simp[St.ρ,VR,ji,Act.eval]
def ala(P:Program)(t:TypeId)(τ:Ty):Prop:=
 ∀(w:World) (M:Nat→Prop) (u v:Value) (x y:τ.den) (b:BinOp) (xo yo:Operand),V w M τ u x→V w M τ v y→
  (eqGuard b t xo yo u v).run P w= .ok () w∧(binOp .eql t u v).run P w= .ok (.bool (pa τ x y)) w∧(binOp .neq t u v).run P w= .ok (.bool (!pa τ x y)) w
structure EnvTy(P:Program)(E:Env):Prop where
 ty: ∀t τ,E.ty t=some τ→kA P τ t
 eq: ∀t τ,E.ty t=some τ→τ.comparable=true→τ.isAgg=true→ala P t τ
end VM
end
section
namespace VM
open Go
variable{P:Program}
theorem zD{o:Oper}{ρ:Operand→Value}{t:TypeId}{i:TypeInfo}{z:Value}(ho:o.op= .alloc t)(hi:P.info? t=some i)(hz:i.zero=some z)(w:World):
  (execOp ρ o).run P w= .ok (.value (.pointer (some ⟨w.heap.size,0,none⟩))) (w.alloc (.cells z.cells t)):=by
 simp[execOp,ho,Instr.alloc,zeroValue,typeInfo,hi,hz,newVar,newRow]
theorem Ex{o:Oper}{ρ:Operand→Value}{t:TypeId}{x:Operand}(ho:o.op= .box t x)(w:World):
  (execOp ρ o).run P w= .ok (.value (.pointer (some ⟨w.heap.size,0,none⟩))) (w.alloc (.cells (ρ x).cells t)):=by
 simp[execOp,ho,Instr.box,newVar,newRow]
theorem ta{τ:Ty}{t:TypeId}(h:kA P τ t)(w:World):(isAgg t).run P w= .ok τ.isAgg w:=by
 unfold kA at h
 cases τ<;>simp only[fP]at h
 ·simp[isAgg,run_underlying h.2,Ty.isAgg]
 ·simp[isAgg,run_underlying h.2,Ty.isAgg]
 ·simp[isAgg,run_underlying h.2,Ty.isAgg]
 ·obtain⟨_,e',h',_⟩:=h;simp[isAgg,run_underlying h',Ty.isAgg]
 ·obtain⟨_,e',h',_⟩:=h;simp[isAgg,run_underlying h',Ty.isAgg]
 ·obtain⟨_,e',f,h',_⟩:=h;simp[isAgg,run_underlying h',Ty.isAgg]
 ·obtain⟨_,e',h',_⟩:=h;simp[isAgg,run_underlying h',Ty.isAgg]
theorem de{τ:Ty}{t:TypeId}(h:kA P τ t)(w:World):(Go.sizeOf t).run P w= .ok τ.size w:=by
 obtain⟨i,hi,hs,_⟩:=h.base
 simp[Go.sizeOf,typeInfo,hi,hs]
theorem B1{w:World}{M:Nat→Prop}{τ:Ty}{t:TypeId}(h:kA P τ t){b off:Nat}{cs:List Value}{x:τ.den}(ha:At w b off cs)(hr:Rd w M τ cs x):
  (loadVar t ⟨b,off,none⟩).run P w= .ok (cJ τ cs) w:=by
 have hl:(loadCells ⟨b,off,none⟩ τ.size).run P w= .ok cs.toArray w:=by
  rw[←hr.length]
  exact run_loadCells_list w _ cs λj v hj=>by rw[show(⟨b,off,none⟩:Addr).add j=⟨b,off+j,none⟩from by unfold Addr.add;split<;>simp_all];exact ha j v hj
 unfold cJ
 by_cases LS:τ.isAgg=true
 ·simp[loadVar,ta h,LS,de h,hl]
 ·obtain⟨v,rfl,hc⟩:=hr.scalar (by simpa using LS)
  have h0:=ha 0 v rfl
  simp only[mT]at h0
  simp[loadVar,ta h,LS,load,Sem.run,h0]
theorem vS{o:Oper}{ρ:Operand→Value}{t:TypeId}{x:Operand}(ho:o.op= .load t x){w:World}{M:Nat→Prop}{τ:Ty}(h:kA P τ t){b off:Nat}{cs:List Value}{y:τ.den}
  (hx:ρ x= .pointer (some ⟨b,off,none⟩)) (ha:At w b off cs) (hr:Rd w M τ cs y):
  (execOp ρ o).run P w= .ok (.value (cJ τ cs)) w:=by
 simp[execOp,ho,hx,Instr.loadAt,Instr.sureAddr,B1 h ha hr]
theorem mY{o:Oper}{ρ:Operand→Value}{t:TypeId}{x y:Operand}(ho:o.op= .store t x y){w:World}{τ:Ty}(h:kA P τ t){b off:Nat}{cur:Array Value}{te:TypeId}
  (hx:ρ x= .pointer (some ⟨b,off,none⟩)) (hg:w.heap[b]? =some (.cells cur te (0,0))) (hs:(ρ y).cells.size=τ.size) (hf:off+τ.size≤cur.size) (h1: ∀v∈(ρ y).cells.toList,v.oneCell'=true):
  (execOp ρ o).run P w= .ok .skip (w.setRow b (cur.toList.take off++(ρ y).cells.toList++cur.toList.drop (off+(ρ y).cells.toList.length)).toArray):=by
 have GG:=run_storeCells_at (P:=P) b off te (ρ y).cells.toList 0 cur w hg (by simp[hs];omega) h1
 simp only[mT]at GG
 simp[execOp,ho,hx,Instr.storeAt,Instr.sureAddr,storeVar,de h,hs,GG]
theorem tb{o:Oper}{ρ:Operand→Value}{t:TypeId}{x:Operand}{n:Nat}(ho:o.op= .fieldAddr t x n){w:World}{fs:Array Field}{f:Field}{b off:Nat}{υ:Ty}
  (hu:P.underlying t=some (.struct fs)) (hf:fs[n]? =some f) (hl:kA P υ f.type) (hz:υ.size≠0) (hx:ρ x= .pointer (some ⟨b,off,none⟩)):
  ∃a,(execOp ρ o).run P w= .ok (.value a) w∧a= .pointer (some ⟨b,off+f.offset,none⟩):=by
 refine⟨_,?_,rfl⟩
 simp[execOp,ho,hx,Instr.fieldAt,Instr.sureAddr,run_underlying hu,hf,fieldPlace,Addr.add_lit,de hl,hz]
theorem zE{τ:Ty}{t:TypeId}(h:kA P τ t){w:World}{M:Nat→Prop}{cs:Array Value}{off:Nat}{x:τ.den}(hr:Rd w M τ ((cs.toList.drop off).take τ.size) x):
  (part t cs off).run P w= .ok (cJ τ ((cs.toList.drop off).take τ.size)) w:=by
 have hl:=hr.length
 unfold cJ
 by_cases LS:τ.isAgg=true
 ·simp only[part,Sem.run_bind,ta h,Result.andThen_ok,LS,gw,de h]
  simp
  rw[cc,dO,bG]at hl
  apply jh
  simp only[Array.toList_extract,List.extract_eq_take_drop,y9]
 ·obtain⟨v,hv,hc⟩:=hr.scalar (by simpa using LS)
  rw[hv]
  have h0:cs[off]? =some v:=by
   have:=ff (λl=>l[0]?) hv
   simp only[lE,lF]at this
   split at this
   ·simpa using this
   ·simp at this
  simp[part,ta h,LS,h0]
theorem Jz{o:Oper}{ρ:Operand→Value}{t:TypeId}{x:Operand}{n:Nat}(ho:o.op= .field t x n){w:World}{M:Nat→Prop}{fs:Array Field}{f:Field}{cs:Array Value}{υ:Ty}{y:υ.den}
  (hu:P.underlying t=some (.struct fs)) (hf:fs[n]? =some f) (hl:kA P υ f.type) (hx:ρ x= .agg cs) (hr:Rd w M υ ((cs.toList.drop f.offset).take υ.size) y):
  (execOp ρ o).run P w= .ok (.value (cJ υ ((cs.toList.drop f.offset).take υ.size))) w:=by
 simp[execOp,ho,hx,Instr.field,run_underlying hu,hf,asAgg,zE hl hr]
theorem kQ{o:Oper}{ρ:Operand→Value}{t e:TypeId}{x i:Operand}(ho:o.op= .indexAddr t x i){w:World}{τe:Ty}{b off len cap:Nat}{k:IntKind}{n:Int}
  (hu:P.underlying t=some (.slice e)) (he:kA P τe e) (hx:ρ x= .slice (some ⟨b,off,none⟩) len cap) (hi:ρ i= .int k n) (h0:0≤n) (h1:n<(len:Int)):
  (execOp ρ o).run P w= .ok (.value (.pointer (some ⟨b,off+n.toNat*τe.size,none⟩))) w:=by
 simp[execOp,ho,hx,hi,Instr.indexAt,asIntOf,run_underlying hu,h0,h1,de he,Addr.add_lit]
theorem rY{o:Oper}{ρ:Operand→Value}{t e:TypeId}{x i:Operand}(ho:o.op= .indexAddr t x i){w:World}{τe:Ty}{b off len:Nat}{k:IntKind}{n:Int}
  (hu:P.underlying t=some (.array len e)) (he:kA P τe e) (hx:ρ x= .pointer (some ⟨b,off,none⟩)) (hi:ρ i= .int k n) (h0:0≤n) (h1:n<(len:Int)):
  (execOp ρ o).run P w= .ok (.value (.pointer (some ⟨b,off+n.toNat*τe.size,none⟩))) w:=by
 simp[execOp,ho,hx,hi,Instr.indexAt,Instr.sureAddr,asIntOf,run_underlying hu,h0,h1,de he,Addr.add_lit]
theorem GX{o:Oper}{ρ:Operand→Value}{t e:TypeId}{x i:Operand}(ho:o.op= .index t x i){w:World}{M:Nat→Prop}{τe:Ty}{len:Nat}{k:IntKind}{n:Int}{cs:Array Value}{y:τe.den}
  (hu:P.underlying t=some (.array len e)) (he:kA P τe e) (hx:ρ x= .agg cs) (hi:ρ i= .int k n) (h0:0≤n) (h1:n<(len:Int)) (hr:Rd w M τe ((cs.toList.drop (n.toNat*τe.size)).take τe.size) y):
  (execOp ρ o).run P w= .ok (.value (cJ τe ((cs.toList.drop (n.toNat*τe.size)).take τe.size))) w:=by
 simp[execOp,ho,hx,hi,Instr.index,asIntOf,run_underlying hu,h0,h1,de he,zE he hr]
theorem Ey{o:Oper}{ρ:Operand→Value}{x:Operand}{n:Nat}(ho:o.op= .extract x n){w:World}{us:List Value}{v:Value}(hx:ρ x= .tuple us.toArray)(hv:us[n]? =some v):
  (execOp ρ o).run P w= .ok (.value v) w:=by
 simp[execOp,ho,hx,Instr.extract,hv]
theorem LV{o:Oper}{ρ:Operand→Value}{x y z:Operand}(ho:o.op= .pick x y z){w:World}{b:Bool}(hx:ρ x= .bool b):
  (execOp ρ o).run P w= .ok (.value (if b then ρ y else ρ z)) w:=by
 simp[execOp,ho,hx,asBool]
theorem uU{o:Oper}{ρ:Operand→Value}{x:Operand}(ho:o.op= .nilCheck x){w:World}{a:Addr}(hx:ρ x= .pointer (some a)):
  (execOp ρ o).run P w= .ok (.value (.pointer (some a))) w:=by
 simp[execOp,ho,hx]
theorem CW{o:Oper}{ρ:Operand→Value}{f:FuncId}{first caps:Array Operand}(ho:o.op= .makeFunc (.func f) first caps)(hf:first= #[]){w:World}:
  (execOp ρ o).run P w= .ok (.value (.func (.func f) #[] (caps.map ρ))) w:=by
 subst hf
 simp[execOp,ho,Instr.makeFunc]
theorem Ez{o:Oper}{ρ:Operand→Value}{s d:TypeId}{x:Operand}(ho:o.op= .convert s d x){w:World}{k k':IntKind}{n:Int}(hs:(P.underlying s).isSome=true)(hd:P.underlying d=some (.int k))(hx:ρ x= .int k' n):
  (execOp ρ o).run P w= .ok (.value (.int k (k.wrap n))) w:=by
 obtain⟨ds,hs⟩:=Option.isSome_iff_exists.1 hs
 simp[execOp,ho,hx,convert,run_underlying hs,run_underlying hd,Conv.intToInt]
theorem vT{o:Oper}{ρ:Operand→Value}{u:UnOp}{t:TypeId}{x:Operand}(ho:o.op= .unOp u t x){w:World}{v:Value}(h:(Op.unary u (ρ x)).run P w= .ok v w):
  (execOp ρ o).run P w= .ok (.value v) w:=by
 simp[execOp,ho,h]
theorem pS{o:Oper}{ρ:Operand→Value}{b:BinOp}{t t':TypeId}{x y:Operand}(ho:o.op= .binOp b t x y t'){w:World}{v:Value}
  (hg:(eqGuard b t x y (ρ x) (ρ y)).run P w= .ok () w) (h:(binOp b t (ρ x) (ρ y)).run P w= .ok v w):
  (execOp ρ o).run P w= .ok (.value v) w:=by
 simp[execOp,ho,hg,h]
theorem pe{b:BinOp}{t:TypeId}{x y:Operand}{k k':IntKind}{m n:Int}(w:World):(eqGuard b t x y (.int k m) (.int k' n)).run P w= .ok () w:=by
 cases b<;>simp[eqGuard]
theorem A0{b:BinOp}{t:TypeId}{x y:Operand}{m n:Bool}(w:World):(eqGuard b t x y (.bool m) (.bool n)).run P w= .ok () w:=by
 cases b<;>simp[eqGuard]
theorem CX{b:BinOp}{t:TypeId}{x y:Operand}{m n:ByteArray}(w:World):(eqGuard b t x y (.string m) (.string n)).run P w= .ok () w:=by
 cases b<;>simp[eqGuard]
theorem qI{o:Oper}{ρ:Operand→Value}{b:Builtin}{args:Array Operand}{ts:Array TypeId}(ho:o.op= .call {callee:= .builtin b,args,argTypes:=ts}){w:World}:
  ∃cs,(execOp ρ o).run P w=(builtin b ts o.type cs (args.map ρ)).run P w:=by
 refine⟨args.map fun| .const _=>true|_=>false,?_⟩
 simp[execOp,ho,resolve,invoke]
 rfl
end VM
end
section
namespace VM
open Go
theorem rZ{α:Type}{r:α}: ∀{τ:Ty} {x:τ.den} {n:Nat} {m:(υ:Ty)→υ.den→(υ.den→Option α)→Option α} {k:τ.den→Option α},mU τ x n m k=some r→
  ∃υ y o k',CU τ x n υ y o∧m υ y k'=some r∧ ∀z r',k' z=some r'→ ∃x',k x'=some r'∧CU τ x' n υ z o∧
   ∀(w:World) (M:Nat→Prop) cs cs',Rd w M τ cs x→Rd w M υ cs' z→Rd w M τ (e8 cs o cs') x'
 | .pair a b,x,0,m,k,h=>by
  refine⟨a,x.1,0,_,.here x,h,λz r' hz=>⟨(z,x.2),hz,.here (a:=a) (b:=b) (z,x.2),λw M cs cs' hr eJ=> ?_⟩⟩
  simp only[Rd]at hr ⊢
  obtain⟨c1,c2,rfl,h1,h2⟩:=hr
  refine⟨cs',c2,?_,eJ,h2⟩
  rw[zA (by rw[eJ.length,h1.length];omega)]
  congr 1
  unfold e8
  rw[gh,eJ.length,←h1.length];simp
 | .pair a b,x,n+1,m,k,h=>by
  obtain⟨υ,y,o,k',hf,hm,hk⟩:=rZ (τ:=b) (x:=x.2) (n:=n) (m:=m) (k:=λz=>k (x.1,z)) h
  refine⟨υ,y,_,k',.there x hf,hm,λz r' hz=> ?_⟩
  obtain⟨x',oL,AX,kM⟩:=hk z r' hz
  refine⟨(x.1,x'),oL,.there (a:=a) (b:=b) (x.1,x') AX,λw M cs cs' hr eJ=> ?_⟩
  simp only[Rd]at hr ⊢
  obtain⟨c1,c2,rfl,h1,h2⟩:=hr
  refine⟨c1,_,?_,h1,kM w M c2 cs' h2 eJ⟩
  rw[←h1.length,xe]
 | .int _,_,_,_,_,h| .bool,_,_,_,_,h| .str,_,_,_,_,h| .slice _,_,_,_,_,h| .unit,_,_,_,_,h| .arr _ _,_,_,_,_,h=>by simp[mU]at h
def qJ(w:World)(M:Nat→Prop)(e:Ty)(cs:List Value)(l:List e.den):Prop:=
 ∀i (h:i<l.length),Rd w M e ((cs.drop (i*e.size)).take e.size) l[i]
theorem eh{i n s:Nat}(h:i<n):i*s+s≤n*s:=by
 have:(i+1)*s≤n*s:=lB _ h
 rw[eg,jP]at this;exact this
theorem qJ.set{w:World}{M:Nat→Prop}{e:Ty}{cs:List Value}{l:List e.den}(h:qJ w M e cs l)(hl:l.length*e.size≤cs.length){i:Nat}(hi:i<l.length){cs':List Value}{y:e.den}(hr:Rd w M e cs' y):
  qJ w M e (e8 cs (i*e.size) cs') (l.set i y):=by
 have hlen:=hr.length
 intro j hj
 rw[bN]at hj
 have h1:=eh (s:=e.size) hi
 have h2:=eh (s:=e.size) hj
 by_cases pH:j=i
 ·subst pH
  have:=agC (a:=cs) (o:=j*e.size) (new:=cs') ω
  rw[hlen]at this
  rw[this,List.getElem_set_self];exact hr
 ·rw[Jx (by
   rcases Nat.lt_or_gt_of_ne pH with eZ|eZ
   ·have:=eh (s:=e.size) eZ;left;omega
   ·have:=eh (s:=e.size) eZ;right;omega) ω,List.getElem_set_ne (eE pH)]
  exact h j hj
theorem qJ.append{w:World}{M:Nat→Prop}{e:Ty}{c1 c2:List Value}{l1 l2:List e.den}(h1:qJ w M e c1 l1)(hl:c1.length=l1.length*e.size)(h2:qJ w M e c2 l2):qJ w M e (c1++c2) (l1++l2):=by
 intro i hi
 by_cases eZ:i<l1.length
 ·have:=eh (s:=e.size) eZ
  rw[y7 ω,y6 (by rw[dO];omega),D2 eZ]
  exact h1 i eZ
 ·rw[aS]at hi
  obtain⟨k,rfl⟩: ∃k,i=l1.length+k:=⟨i-l1.length,ω⟩
  rw[eg,←hl,←jx,mP rfl,Ll ω]
  simp only[y9]
  exact h2 k ω
theorem qJ.take{w:World}{M:Nat→Prop}{e:Ty}{cs:List Value}{l:List e.den}(h:qJ w M e cs l){n:Nat}(hn:l.length*e.size≤n):qJ w M e (cs.take n) l:=by
 intro i hi
 have:=eh (s:=e.size) hi
 rw[qv,qw,ir ω]
 exact h i hi
theorem qJ.more{w:World}{M:Nat→Prop}{e:Ty}{cs cs':List Value}{l:List e.den}(h:qJ w M e cs l)(hl:l.length*e.size≤cs.length):qJ w M e (cs++cs') l:=by
 intro i hi
 have:=eh (s:=e.size) hi
 rw[y7 ω,y6 (by rw[dO];omega)]
 exact h i hi
theorem qJ.bZ{w w':World}{M M':Nat→Prop}(k:eY w M w' M'){e:Ty}{cs:List Value}{l:List e.den}(h:qJ w M e cs l):qJ w' M' e cs l:=λi hi=>(h i hi).bZ k
theorem Rd.arr{w:World}{M:Nat→Prop}{n:Nat}{e:Ty}{cs:List Value}{x:(Ty.arr n e).den}:Rd w M (.arr n e) cs x↔List.length x=n∧cs.length=n*e.size∧qJ w M e cs x:=by
 constructor
 ·intro h
  have hl:=h.length
  have h':=h
  simp only[Rd]at h'
  refine⟨h'.1,hl,λi hi=> ?_⟩
  have:=h.idx (i:=i) ω
  rw[kB x i e.zero hi]at this
  exact this
 ·rintro⟨hn,hl,hr⟩
  simp only[Rd]
  refine⟨hn,(List.range n).map λi=>(cs.drop (i*e.size)).take e.size,by simp,?_,λi hi mX=> ?_⟩
  ·
   have key: ∀m (l:List Value),l.length=m*e.size→l=((List.range m).map λi=>(l.drop (i*e.size)).take e.size).flatten:=by
    intro m
    induction m with
    |zero=>intro l hl;simpa using hl
    |succ m ih=>
     intro l hl
     have h1:(l.take (m*e.size)).length=m*e.size:=by rw[cc,hl,eg];omega
     have h2:=ih (l.take (m*e.size)) h1
     rw[Eh,cW,List.flatten_append]
     have h3:((List.range m).map λi=>(l.drop (i*e.size)).take e.size)=(List.range m).map λi=>((l.take (m*e.size)).drop (i*e.size)).take e.size:=by
      apply qo
      intro i hi
      have:=eh (s:=e.size) (qx.1 hi)
      rw[qv,qw,ir ω]
     rw[h3,←h2]
     simp only[bU,iT,zh,List.flatten_nil,ch]
     rw[jw (l:=l.drop (m*e.size)) (by rw[dO,hl,eg];omega),gb]
   exact key n cs hl
  ·simp only[List.getElem_map,Ea]
   exact hr i hi
theorem oM{α:Type}{r:α}{υ:Ty}{y:υ.den}: ∀{p:List Step} {τ:Ty} {x:τ.den} {k:τ.den→Option α},ve υ y p τ x k=some r→
  ∃z,k z=some r∧GU p τ=υ∧(xJ p τ→cE p τ+υ.size≤τ.size)∧ ∀(w:World) (M:Nat→Prop) cs cs',xJ p τ→Rd w M τ cs x→Rd w M υ cs' y→Rd w M τ (e8 cs (cE p τ) cs') z
 |[],τ,x,k,h=>by
  obtain⟨e,h⟩:=bB (h:c7 υ τ y k=some r)
  subst e
  refine⟨y,h,rfl,λ_=>by simp[cE],λw M cs cs' _ hr eJ=> ?_⟩
  unfold e8
  rw[show cE [] υ=0 from rfl,gh,eJ.length,←hr.length]
  simpa using eJ
 | .kq n::p,τ,x,k,h=>by
  obtain⟨υ',y',o,k',hf,hm,hk⟩:=rZ (h:mU τ x n _ k=some r)
  obtain⟨z',CY,ht,GH,kM⟩:=oM (p:=p) (τ:=υ') (x:=y') (k:=k') hm
  obtain⟨x',oL,AX,SA⟩:=hk z' r CY
  obtain⟨h1,h2⟩:=hf.eq
  subst h1 h2
  refine⟨x',oL,ht,λhi=>by have:=hf.bound;have:=GH hi;simp only[cE];omega,λw M cs cs' hi hr eJ=> ?_⟩
  have GH:=GH hi
  have h3:=kM w M _ cs' hi (hf.rd hr) eJ
  have h4:=SA w M cs _ hr h3
  have hb:=hf.bound
  have YV:=hr.length
  have hl2:=eJ.length
  have Yy:=h3.length
  have lK:cE p (vh τ n)+cs'.length≤((cs.drop (rD τ n)).take (vh τ n).size).length:=by
   rw[cc,dO];omega
  have:e8 cs (rD τ n) (e8 ((cs.drop (rD τ n)).take (vh τ n).size) (cE p (vh τ n)) cs')=e8 cs (rD τ n+cE p (vh τ n)) cs':=by
   have e1:cs=cs.take (rD τ n)++(((cs.drop (rD τ n)).take (vh τ n).size)++cs.drop (rD τ n+(vh τ n).size)):=by
    rw[←jx,gb,gb]
   have eZ:(cs.take (rD τ n)).length=rD τ n:=by rw[cc];omega
   conv=>rhs;rw[e1]
   rw[show rD τ n+cE p (vh τ n)=(cs.take (rD τ n)).length+cE p (vh τ n)from by rw[eZ],xe,zA lK]
   generalize e8 ((cs.drop (rD τ n)).take (vh τ n).size) (cE p (vh τ n)) cs'=m at Yy ⊢
   unfold e8
   rw[Yy,br]
  simp only[cE]
  rw[←this]
  exact h4
 | .idx i::p,τ,x,k,h=>by
  cases τ with
  |arr n e=>
   obtain⟨z',CY,ht,GH,kM⟩:=oM (p:=p) (τ:=e) (x:=List.getD x i e.zero) (k:=λz=>k (List.set x i z)) h
   refine⟨_,CY,ht,λhi=>by
    obtain⟨⟨n',e',he,lK⟩,mX⟩:=hi
    cases he
    have:=GH mX
    have hm:=eh (s:=e.size) lK
    simp only[cE,elT,Ty.size];omega,λw M cs cs' hi hr eJ=> ?_⟩
   obtain⟨⟨n',e',he,lK⟩,mX⟩:=hi
   cases he
   have h3:=kM w M _ cs' mX (hr.idx lK) eJ
   obtain⟨hn,YV,HM⟩:=Rd.arr.1 hr
   have hm:=eh (s:=e.size) lK
   have h4:=HM.set (by rw[YV,hn];exact aG _) (i:=i) ω h3
   have hl2:=eJ.length
   have Yy:=h3.length
   have hch:((cs.drop (i*e.size)).take e.size).length=e.size:=by rw[cc,dO];omega
   have GH:=GH mX
   have aqH:cE p e+cs'.length≤((cs.drop (i*e.size)).take e.size).length:=ω
   have:e8 cs (i*e.size) (e8 ((cs.drop (i*e.size)).take e.size) (cE p e) cs')=e8 cs (i*e.size+cE p e) cs':=by
    have e1:cs=cs.take (i*e.size)++(((cs.drop (i*e.size)).take e.size)++cs.drop (i*e.size+e.size)):=by
     rw[←jx,gb,gb]
    have eZ:(cs.take (i*e.size)).length=i*e.size:=by rw[cc];omega
    conv=>rhs;rw[e1]
    rw[show i*e.size+cE p e=(cs.take (i*e.size)).length+cE p e from by rw[eZ],xe,zA aqH]
    generalize e8 ((cs.drop (i*e.size)).take e.size) (cE p e) cs'=m at Yy ⊢
    unfold e8
    rw[Yy,br]
   simp only[cE,elT]
   rw[←this]
   refine Rd.arr.2 ⟨by rw[bN];exact hn,?_,h4⟩
   rw[gz (by rw[Yy];omega)];exact YV
  |_=>simp[ve,DB]at h
end VM
end
