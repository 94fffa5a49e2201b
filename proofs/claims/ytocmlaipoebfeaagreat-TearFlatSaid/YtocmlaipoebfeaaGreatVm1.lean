/- A part of the proof of TearFlat of layer 29: a machine that reads a function of the program as an equation between values. -/
import Derived.Test.YtocmlaipoebfeaaGreatVm0
import Derived.WalkLawsBesides
import Derived.Great.BuildSlice
import Derived.Laws.Tables
set_option linter.all false
section
namespace VM
open Go
structure Ctx where
 B:Nat
 w0:World
 M0:Nat→Prop
 may:Nat→Prop
 arg:Nat→Value
structure Mem(c:Ctx)(H:Nat→Option bh)(w:World)(M:Nat→Prop)(ν:Nat→Value):Prop where
 ln: ∀i e,H i=some e→ER w M (ν i) e
 zP: ∀i j e e' b,i≠j→H i=some e→e.mut→H j=some e'→e'.mut→fL (ν i)=some b→fL (ν j)≠some b
 new: ∀i e b,H i=some e→e.mut→fL (ν i)=some b→c.B≤b∨c.may b
 yG: ∀i e l b,H i=some (.own e l)→fL (ν i)=some b→ ¬c.M0 b
 gk: ∀i τ x p j,H i=some (.gk τ x p j)→H j≠none∧ ∃b,ν i= .pointer (some ⟨b,0,none⟩)∧w.cell? ⟨b,cC p τ,none⟩=some (ν j)
 sub: ∀b,c.M0 b→M b
 ES: ∀b,M b→b<w.heap.size
 frame: ∀b,b<c.B→ ¬c.may b→w.heap[b]? =c.w0.heap[b]?
 size:c.B≤w.heap.size
 vT:(∀b,c.M0 b→b<c.B)∧ ∀b,c.may b→ ¬c.M0 b
 os:w.os=c.w0.os
 tape:w.tape=c.w0.tape
 output:w.output=c.w0.output
structure Tr(c:Ctx)(H:Nat→Option bh)(w:World)(M:Nat→Prop)(ν:Nat→Value)(H':Nat→Option bh)(w':World)(M':Nat→Prop)(ν':Nat→Value):Prop where
 mem:Mem c H' w' M' ν'
 cc:fh w M w' M'
 goes:s8 H ν H' ν'
theorem bh.lK.trans{a b d:bh}(h:a.lK b)(k:b.lK d):a.lK d:=by
 cases a<;>cases b<;>cases d<;>simp only[bh.lK]at h k ⊢ <;>first
  |exact h.trans k
  |exact⟨h.1.trans k.1,h.2.trans k.2⟩
theorem s8.trans{H H' H'':Nat→Option bh}{ν ν' ν'':Nat→Value}(h:s8 H ν H' ν')(k:s8 H' ν' H'' ν''):s8 H ν H'' ν'':=by
 refine⟨λi e he=> ?_,λi hi=> ?_⟩
 ·obtain⟨e',wF,l⟩:=h.ln i e he
  obtain⟨e'',arv,l'⟩:=k.ln i e' wF
  exact⟨e'',arv,l.trans l'⟩
 ·obtain⟨e,he⟩:=Ep.1 hi
  obtain⟨e',wF,_⟩:=h.ln i e he
  rw[k.head i (by simp[wF]),h.head i hi]
theorem Tr.trans{c:Ctx}{H H' H'':Nat→Option bh}{w w' w'':World}{M M' Px:Nat→Prop}{ν ν' ν'':Nat→Value}
  (h:Tr c H w M ν H' w' M' ν') (k:Tr c H' w' M' ν' H'' w'' Px ν''):Tr c H w M ν H'' w'' Px ν'':=
 ⟨k.mem,h.cc.trans k.cc,h.goes.trans k.goes⟩
theorem Tr.refl{c:Ctx}{H:Nat→Option bh}{w:World}{M:Nat→Prop}{ν:Nat→Value}(h:Mem c H w M ν):Tr c H w M ν H w M ν:=
 ⟨h,.refl w M,.refl H ν⟩
theorem ay(H:Nat→Option bh)(d:Nat)(v:Option bh):bT H d v d=v:=by simp[bT]
theorem az(H:Nat→Option bh){d i:Nat}(v:Option bh)(h:i≠d):bT H d v i=H i:=by
 have:Nat.beq i d=false:=by rw[←qN,wv];exact h
 simp[bT,this]
def cY(H:Nat→Option bh):ja→(Nat→Option bh)
 |[]=>H
 |u::r=>cY (bT H u.1 u.2) r
theorem PU(ups:ja): ∀σ:St,(σ.wx ups).H=cY σ.H ups:=by
 induction ups with
 |nil=>intro σ;rfl
 |cons u r ih=>intro σ;exact ih _
theorem PV(ups:ja): ∀σ:St,(σ.wx ups).T=σ.T:=by
 induction ups with
 |nil=>intro σ;rfl
 |cons u r ih=>intro σ;exact ih _
theorem gw(a b:ja): ∀H,cY H (a++b)=cY (cY H a) b:=by
 induction a with
 |nil=>intro H;rfl
 |cons u r ih=>intro H;exact ih _
theorem xv{H:Nat→Option bh}{id j:Nat}{v:bh}(h:H j≠none):bT H id (some v) j≠none:=by
 by_cases hj:j=id
 ·subst hj;rw[ay];simp
 ·rw[az _ _ hj];exact h
theorem JI{H:Nat→Option bh}{w:World}{ν:Nat→Value}(h: ∀i τ x p j,H i=some (.gk τ x p j)→H j≠none∧ ∃b,ν i= .pointer (some ⟨b,0,none⟩)∧w.cell? ⟨b,cC p τ,none⟩=some (ν j)){id:Nat}{v:bh}(hv: ∀τ x p j,v≠ .gk τ x p j):
  ∀i τ x p j,bT H id (some v) i=some (.gk τ x p j)→bT H id (some v) j≠none∧ ∃b,ν i= .pointer (some ⟨b,0,none⟩)∧w.cell? ⟨b,cC p τ,none⟩=some (ν j):=by
 intro i τ x p j hi
 by_cases bS:i=id
 ·subst bS;rw[ay]at hi;cases hi;exact absurd rfl (hv _ _ _ _)
 ·rw[az _ _ bS]at hi
  obtain⟨h1,h2⟩:=h i τ x p j hi
  exact⟨xv h1,h2⟩
theorem Tr.gone{c:Ctx}{H:Nat→Option bh}{w:World}{M:Nat→Prop}{ν:Nat→Value}(h:Mem c H w M ν)(id:Nat):Tr c H w M ν (bT H id (some .gone)) w M ν:=by
 refine⟨⟨λi e he=> ?_,λi j e e' b pF hi hm hj jW=> ?_,λi e b hi hm=> ?_,λi e l b hi=> ?_,JI h.gk (λ_ _ _ _=>by simp),h.sub,h.ES,h.frame,h.size,h.vT,h.os,h.tape,h.output⟩,.refl w M,⟨λi e he=> ?_,λ_ _=>rfl⟩⟩
 ·by_cases bm:i=id
  ·subst bm;rw[ay]at he;cases he;simp[ER]
  ·rw[az _ _ bm]at he;exact h.ln i e he
 ·by_cases bm:i=id
  ·subst bm;rw[ay]at hi;cases hi;simp[bh.mut]at hm
  ·by_cases hjd:j=id
   ·subst hjd;rw[ay]at hj;cases hj;simp[bh.mut]at jW
   ·rw[az _ _ bm]at hi;rw[az _ _ hjd]at hj;exact h.zP i j e e' b pF hi hm hj jW
 ·by_cases bm:i=id
  ·subst bm;rw[ay]at hi;cases hi;simp[bh.mut]at hm
  ·rw[az _ _ bm]at hi;exact h.new i e b hi hm
 ·by_cases bm:i=id
  ·subst bm;rw[ay]at hi;cases hi
  ·rw[az _ _ bm]at hi;exact h.yG i e l b hi
 ·by_cases bm:i=id
  ·subst bm;exact⟨.gone,ay _ _ _,by cases e<;>simp[bh.lK]⟩
  ·exact⟨e,by rw[az _ _ bm];exact he,.refl e⟩
theorem cell_of{w:World}{b:Nat}{cs:Array Value}{t:TypeId}{fz:Nat×Nat}(h:w.heap[b]? =some (.cells cs t fz))(o:Nat):w.cell? ⟨b,o,none⟩=cs[o]? :=by
 simp[World.cell?,h]
theorem At.of_block{w:World}{b:Nat}{cs:Array Value}{t:TypeId}{fz:Nat×Nat}(h:w.heap[b]? =some (.cells cs t fz))(o n:Nat):
  At w b o ((cs.toList.drop o).take n):=by
 intro j v hj
 rw[cell_of h]
 rw[lZ]at hj
 split at hj
 ·rw[mc]at hj;simpa using hj
 ·cases hj
theorem lt_of_block{w:World}{b:Nat}{o:Obj}(h:w.heap[b]? =some o):b<w.heap.size:=(kI.1 h).1
theorem ER.cc{w w':World}{M M':Nat→Prop}{v:Value}(k:fh w M w' M'): ∀{e:bh},
  (e.mut→ ∀b,fL v=some b→w'.heap[b]? =w.heap[b]? ∧M' b)→ER w M v e→ER w' M' v e
 | .obj τ x,hm,h=>by
  simp only[ER]at h ⊢
  obtain⟨b,cs,t,rfl,hb,hM,hr⟩:=h
  obtain⟨h1,h2⟩:=hm trivial b rfl
  exact⟨b,cs,t,rfl,h1.trans hb,h2,hr.cc k⟩
 | .gk τ x p j,hm,h=>by
  simp only[ER]at h ⊢
  obtain⟨b,cs,t,sH,u,rfl,hb,hM,hr,h3⟩:=h
  obtain⟨h1,h2⟩:=hm trivial b rfl
  exact⟨b,cs,t,sH,u,rfl,h1.trans hb,h2,hr.cc k,h3⟩
 | .own e l,hm,h=>by
  simp only[ER]at h ⊢
  rcases h with h|⟨b,cs,t,cap,rfl,hb,hM,hc,hl,Hc,hs,hr⟩
  ·exact .inl h
  ·obtain⟨h1,h2⟩:=hm trivial b (by simp[fL];omega)
   exact .inr ⟨b,cs,t,cap,rfl,h1.trans hb,h2,hc,hl,Hc,hs,λi hi=>(hr i hi).cc k⟩
 | .oS e l,_,h=>by
  simp only[ER]at h ⊢
  exact⟨h.1.cc k,h.2⟩
 | .gone,_,_=>by simp[ER]
theorem ER.yb{w:World}{M:Nat→Prop}{v:Value}{e:bh}(h:ER w M v e)(hm:e.mut){b:Nat}(hb:fL v=some b):M b:=by
 cases e with
 |obj τ x=>simp only[ER]at h;obtain⟨b',cs,t,hv,ff,hM,_⟩:=h;rw[hv]at hb;simp only[fL,iC]at hb;subst hb;exact hM
 |gk τ x p j=>simp only[ER]at h;obtain⟨b',cs,t,_,_,hv,ff,hM,_⟩:=h;rw[hv]at hb;simp only[fL,iC]at hb;subst hb;exact hM
 |own e1 l1=>
  simp only[ER]at h
  rcases h with⟨_,a,hv⟩|⟨b',cs,t,cap,hv,ff,hM,hc,_⟩
  ·rw[hv]at hb;cases a<;>simp[fL]at hb
  ·rw[hv]at hb;simp only[fL]at hb;split at hb
   ·cases hb
   ·simp only[iC]at hb;subst hb;exact hM
 |oS _ _=>simp[bh.mut]at hm
 |gone=>simp[bh.mut]at hm
theorem Tr.freeze{c:Ctx}{H:Nat→Option bh}{w:World}{M:Nat→Prop}{ν:Nat→Value}(h:Mem c H w M ν){id:Nat}{e:Ty}{l:List e.den}(bm:H id=some (.own e l)):
  ∃M',Tr c H w M ν (bT H id (some (.oS e l))) w M' ν∧V w M' (.slice e) (ν id) l∧ ∀b,M' b↔(M b∧fL (ν id)≠some b):=by
 have hk:fh w M w (λb=>M b∧fL (ν id)≠some b):=⟨aI _,λ_ _ _=>rfl,λ_ _ h=>h.1⟩
 have he:=h.ln id _ bm
 have lh:Rd w (λb=>M b∧fL (ν id)≠some b) (.slice e) [ν id] l:=by
  simp only[ER]at he
  simp only[Rd]
  rcases he with⟨rfl,a,hv⟩|⟨b,cs,t,cap,hv,hb,hM,hc,hl,Hc,hs,hr⟩
  ·exact⟨a,0,by rw[hv];rfl,aI _,λi hi=>absurd hi (by simp)⟩
  ·refine⟨_,cap,by rw[hv],hl,λi hi=>⟨b,0,rfl,lt_of_block hb,λhm=>hm.2 (by rw[hv];simp[fL];omega),_,?_,(hr i hi).cc hk⟩⟩
   rw[gq]
   exact At.of_block hb _ _
 refine⟨λb=>M b∧fL (ν id)≠some b,⟨⟨λi e' hi=> ?_,λi j e1 e2 b pF hi hm hj jW=> ?_,λi e1 b hi hm=> ?_,λi e1 l1 b hi=> ?_,JI h.gk (λ_ _ _ _=>by simp),λb hb=>⟨h.sub b hb,λhm=>h.yG id e l b bm hm hb⟩,λb hb=>h.ES b hb.1,h.frame,h.size,h.vT,h.os,h.tape,h.output⟩,hk,⟨λi e' hi=> ?_,λ_ _=>rfl⟩⟩,?_,λ_=>Iff.rfl⟩
 ·by_cases bS:i=id
  ·subst bS;rw[ay]at hi;cases hi
   simp only[ER]
   refine⟨lh,?_⟩
   simp only[ER]at he
   rcases he with⟨rfl,a,hv⟩|⟨b,cs,t,cap,hv,_⟩
   ·exact .inl ⟨rfl,a,0,0,hv⟩
   ·exact .inr ⟨b,_,cap,hv⟩
  ·rw[az _ _ bS]at hi
   refine(h.ln i e' hi).cc hk (λhm b hb=>⟨rfl,?_,?_⟩)
   ·exact(h.ln i e' hi).yb hm hb
   ·exact h.zP i id e' (.own e l) b bS hi hm bm trivial hb
 ·by_cases bS:i=id
  ·subst bS;rw[ay]at hi;cases hi;simp[bh.mut]at hm
  ·by_cases Hd:j=id
   ·subst Hd;rw[ay]at hj;cases hj;simp[bh.mut]at jW
   ·rw[az _ _ bS]at hi;rw[az _ _ Hd]at hj;exact h.zP i j e1 e2 b pF hi hm hj jW
 ·by_cases bS:i=id
  ·subst bS;rw[ay]at hi;cases hi;simp[bh.mut]at hm
  ·rw[az _ _ bS]at hi;exact h.new i e1 b hi hm
 ·by_cases bS:i=id
  ·subst bS;rw[ay]at hi;cases hi
  ·rw[az _ _ bS]at hi;exact h.yG i e1 l1 b hi
 ·by_cases bS:i=id
  ·subst bS;rw[bm]at hi;cases hi;exact⟨_,ay _ _ _,rfl,rfl⟩
  ·exact⟨e',by rw[az _ _ bS];exact hi,.refl e'⟩
 ·unfold V;rw[ah (by simp[Ty.isAgg])];exact lh
theorem Tr.fix{c:Ctx}{H:Nat→Option bh}{w:World}{M:Nat→Prop}{ν:Nat→Value}(h:Mem c H w M ν){id:Nat}{τ:Ty}{x:τ.den}(bm:H id=some (.obj τ x)):
  ∃M' b,Tr c H w M ν (bT H id (some .gone)) w M' ν∧ν id= .pointer (some ⟨b,0,none⟩)∧b<w.heap.size∧ ¬M' b∧ ∃cs,At w b 0 cs∧Rd w M' τ cs x:=by
 have he:=h.ln id _ bm
 simp only[ER]at he
 obtain⟨b0,cs,t,hv,hb,hM,hr⟩:=he
 have vD:fL (ν id)=some b0:=by rw[hv];rfl
 have hk:fh w M w (λb=>M b∧b≠b0):=⟨aI _,λ_ _ _=>rfl,λ_ _ h=>h.1⟩
 have H7: ¬c.M0 b0:=λhm=>(h.new id _ b0 bm trivial vD).elim (λhB=>by have:=h.vT.1 b0 hm;omega) (λhB=>h.vT.2 b0 hB hm)
 refine⟨λb=>M b∧b≠b0,b0,⟨⟨λi e' hi=> ?_,λi j e1 e2 b pF hi hm hj jW=> ?_,λi e1 b hi hm=> ?_,λi e1 l1 b hi=> ?_,JI h.gk (λ_ _ _ _=>by simp),λb ff=>⟨h.sub b ff,λe=>H7 (e▸ff)⟩,λb ff=>h.ES b ff.1,h.frame,h.size,h.vT,h.os,h.tape,h.output⟩,hk,⟨λi e' hi=> ?_,λ_ _=>rfl⟩⟩,hv,lt_of_block hb,λhm=>hm.2 rfl,cs.toList,?_,hr.cc hk⟩
 ·by_cases bS:i=id
  ·subst bS;rw[ay]at hi;cases hi;simp[ER]
  ·rw[az _ _ bS]at hi
   refine(h.ln i e' hi).cc hk (λhm b ff=>⟨rfl,?_,?_⟩)
   ·exact(h.ln i e' hi).yb hm ff
   ·intro e
    exact h.zP i id e' (.obj τ x) b bS hi hm bm trivial ff (by rw[vD,e])
 ·by_cases bS:i=id
  ·subst bS;rw[ay]at hi;cases hi;simp[bh.mut]at hm
  ·by_cases Hd:j=id
   ·subst Hd;rw[ay]at hj;cases hj;simp[bh.mut]at jW
   ·rw[az _ _ bS]at hi;rw[az _ _ Hd]at hj;exact h.zP i j e1 e2 b pF hi hm hj jW
 ·by_cases bS:i=id
  ·subst bS;rw[ay]at hi;cases hi;simp[bh.mut]at hm
  ·rw[az _ _ bS]at hi;exact h.new i e1 b hi hm
 ·by_cases bS:i=id
  ·subst bS;rw[ay]at hi;cases hi
  ·rw[az _ _ bS]at hi;exact h.yG i e1 l1 b hi
 ·by_cases bS:i=id
  ·subst bS;rw[bm]at hi;cases hi;exact⟨_,ay _ _ _,trivial⟩
  ·exact⟨e',by rw[az _ _ bS];exact hi,.refl e'⟩
 ·have:=At.of_block hb 0 cs.toList.length
  rwa [cM,iD]at this
end VM
end
section
namespace VM
open Go
theorem ET(w:World)(o:Obj):(w.alloc o).heap[w.heap.size]? =some o:=by
 show(w.heap.push o)[w.heap.size]? =some o
 simp
theorem qx(w:World)(o:Obj){i:Nat}(h:i<w.heap.size):(w.alloc o).heap[i]? =w.heap[i]? :=by
 show(w.heap.push o)[i]? =w.heap[i]?
 rw[Array.getElem?_push,ah (Nat.ne_of_lt h)]
theorem size_alloc(w:World)(o:Obj):(w.alloc o).heap.size=w.heap.size+1:=by
 show(w.heap.push o).size=_
 simp
def dp(ν:Nat→Value)(d:Nat)(v:Value):Nat→Value:=λi=>if i=d then v else ν i
theorem q3{c:Ctx}{H:Nat→Option bh}{w w':World}{M:Nat→Prop}{ν ν':Nat→Value}(h:Mem c H w M ν){H':Nat→Option bh}
  (hν: ∀i,H i≠none→ν' i=ν i) (hn: ∀i,H i≠none→H' i≠none)
  (hi: ∀i τ x p j,H' i=some (.gk τ x p j)→(H i=some (.gk τ x p j)∧ ∀b,ν i= .pointer (some ⟨b,0,none⟩)→w'.heap[b]? =w.heap[b]?)∨(H' j≠none∧ ∃b,ν' i= .pointer (some ⟨b,0,none⟩)∧w'.cell? ⟨b,cC p τ,none⟩=some (ν' j))):
  ∀i τ x p j,H' i=some (.gk τ x p j)→H' j≠none∧ ∃b,ν' i= .pointer (some ⟨b,0,none⟩)∧w'.cell? ⟨b,cC p τ,none⟩=some (ν' j):=by
 intro i τ x p j he
 rcases hi i τ x p j he with⟨h1,hb⟩|h1
 ·obtain⟨h2,b,h3,h4⟩:=h.gk i τ x p j h1
  refine⟨hn j h2,b,by rw[hν i (by rw[h1];simp)];exact h3,?_⟩
  rw[hν j h2,World.cell?_of_block (w:=w) (hb b h3)]
  exact h4
 ·exact h1
theorem xw{H:Nat→Option bh}{id:Nat}{v:bh}: ∀i,H i≠none→bT H id (some v) i≠none:=λ_ h=>xv h
theorem zQ{H:Nat→Option bh}{id:Nat}{v:bh}(hv: ∀τ x p j,v≠ .gk τ x p j){i:Nat}{τ:Ty}{x:τ.den}{p:List Step}{j:Nat}(h:bT H id (some v) i=some (.gk τ x p j)):H i=some (.gk τ x p j):=by
 by_cases bS:i=id
 ·subst bS;rw[ay]at h;cases h;exact absurd rfl (hv _ _ _ _)
 ·rw[az _ _ bS]at h;exact h
theorem Tr.alloc{c:Ctx}{H:Nat→Option bh}{w:World}{M:Nat→Prop}{ν:Nat→Value}(h:Mem c H w M ν){id:Nat}(bm:H id=none)(o:Obj)(v:Value)(e:bh)(hm:e.mut)(H8: ∀τ x p j,e≠ .gk τ x p j)
  (hb:fL v=none∨fL v=some w.heap.size) (SS:ER (w.alloc o) (λb=>M b∨b=w.heap.size) v e):
  Tr c H w M ν (bT H id (some e)) (w.alloc o) (λb=>M b∨b=w.heap.size) (dp ν id v):=by
 have hk:fh w M (w.alloc o) (λb=>M b∨b=w.heap.size):=
  ⟨by rw[size_alloc];omega,λb hb _=>qx w o hb,λb hb h'=>h'.resolve_right ω⟩
 have hν: ∀i,i≠id→dp ν id v i=ν i:=λi hi=>by simp[dp,hi]
 have Di:dp ν id v id=v:=by simp[dp]
 have fA: ∀i e' b,H i=some e'→e'.mut→fL (ν i)=some b→b<w.heap.size:=λi e' b hi jW ff=>h.ES b ((h.ln i e' hi).yb jW ff)
 refine⟨⟨λi e' hi=> ?_,λi j e1 e2 b pF hi tT hj yu=> ?_,λi e1 b hi tT=> ?_,λi e1 l1 b hi=> ?_,q3 h (λi hi=>hν i (λe=>hi (e▸bm))) xw (λi τ x p j hi=> .inl ⟨zQ H8 hi,λb hb=>qx w o (fA i _ b (zQ H8 hi) trivial (by rw[hb];rfl))⟩),λb hb=> .inl (h.sub b hb),λb ff=> ?_,λb mG tU=> ?_,?_,h.vT,h.os,h.tape,h.output⟩,hk,⟨λi e' hi=> ?_,λi hi=> ?_⟩⟩
 ·by_cases bS:i=id
  ·subst bS;rw[ay]at hi;cases hi;rw[Di];exact SS
  ·rw[az _ _ bS]at hi;rw[hν i bS]
   exact(h.ln i e' hi).cc hk λjW b ff=>⟨qx w o (fA i e' b hi jW ff),.inl ((h.ln i e' hi).yb jW ff)⟩
 ·by_cases bS:i=id
  ·subst bS;rw[ay]at hi;cases hi;rw[Di]
   intro mG
   have Hd:j≠i:=eU pF
   rw[az _ _ Hd]at hj;rw[hν j Hd]
   intro tU
   have:=fA j e2 b hj yu tU
   rcases hb with hb|hb<;>rw[hb]at mG<;>simp at mG
   omega
  ·rw[az _ _ bS]at hi;rw[hν i bS]
   by_cases Hd:j=id
   ·subst Hd;rw[Di]
    intro mG tU
    have:=fA i e1 b hi tT mG
    rcases hb with hb|hb<;>rw[hb]at tU<;>simp at tU
    omega
   ·rw[az _ _ Hd]at hj;rw[hν j Hd];exact h.zP i j e1 e2 b pF hi tT hj yu
 ·by_cases bS:i=id
  ·subst bS;rw[Di]
   intro mG
   rcases hb with hb|hb<;>rw[hb]at mG<;>simp at mG
   subst mG;exact .inl h.size
  ·rw[az _ _ bS]at hi;rw[hν i bS];exact h.new i e1 b hi tT
 ·by_cases bS:i=id
  ·subst bS;rw[Di]
   intro mG h0
   rcases hb with hb|hb<;>rw[hb]at mG<;>simp at mG
   have:=h.vT.1 b h0
   have:=h.size
   omega
  ·rw[az _ _ bS]at hi;rw[hν i bS];exact h.yG i e1 l1 b hi
 ·rw[size_alloc]
  rcases ff with ff|ff
  ·have:=h.ES b ff;omega
  ·omega
 ·rw[qx w o (nc mG h.size)];exact h.frame b mG tU
 ·rw[size_alloc];have:=h.size;omega
 ·by_cases bS:i=id
  ·subst bS;rw[bm]at hi;cases hi
  ·exact⟨e',by rw[az _ _ bS];exact hi,.refl e'⟩
 ·have bS:i≠id:=λe=>hi (e▸bm)
  exact hν i bS
theorem Tr.var{c:Ctx}{H:Nat→Option bh}{w:World}{M:Nat→Prop}{ν:Nat→Value}(h:Mem c H w M ν){id:Nat}(bm:H id=none)(t:TypeId){τ:Ty}{cs:Array Value}{x:τ.den}(hr:Rd w M τ cs.toList x):
  Tr c H w M ν (bT H id (some (.obj τ x))) (w.alloc (.cells cs t)) (λb=>M b∨b=w.heap.size) (dp ν id (.pointer (some ⟨w.heap.size,0,none⟩))):=by
 refine Tr.alloc h bm _ _ _ trivial (λ_ _ _ _=>by simp) (.inr rfl) ?_
 simp only[ER]
 have hk:fh w M (w.alloc (.cells cs t)) (λb=>M b∨b=w.heap.size):=
  ⟨by rw[size_alloc];omega,λb hb _=>qx w _ hb,λb hb h'=>h'.resolve_right ω⟩
 exact⟨w.heap.size,cs,t,rfl,ET w _,.inr rfl,hr.cc hk⟩
theorem Tr.row{c:Ctx}{H:Nat→Option bh}{w:World}{M:Nat→Prop}{ν:Nat→Value}(h:Mem c H w M ν){id:Nat}(bm:H id=none)(t:TypeId){e:Ty}{cs:Array Value}{l:List e.den}{cap:Nat}
  (hl:l.length≤cap) (hm:cap≤maxLen) (hs:cs.size=cap*e.size) (hr: ∀i (hi:i<l.length),Rd w M e ((cs.toList.drop (i*e.size)).take e.size) l[i]):
  Tr c H w M ν (bT H id (some (.own e l))) (w.alloc (.cells cs t)) (λb=>M b∨b=w.heap.size) (dp ν id (.slice (some ⟨w.heap.size,0,none⟩) l.length cap)):=by
 have hk:fh w M (w.alloc (.cells cs t)) (λb=>M b∨b=w.heap.size):=
  ⟨by rw[size_alloc];omega,λb hb _=>qx w _ hb,λb hb h'=>h'.resolve_right ω⟩
 refine Tr.alloc h bm _ _ _ trivial (λ_ _ _ _=>by simp) ?_ ?_
 ·simp only[fL];split
  ·exact .inl rfl
  ·exact .inr rfl
 ·simp only[ER]
  by_cases hc:cap=0
  ·subst hc
   have hl0:l=[]:=uI ω
   subst hl0
   exact .inl ⟨rfl,_,rfl⟩
  ·exact .inr ⟨w.heap.size,cs,t,cap,rfl,ET w _,.inr rfl,ω,hl,hm,hs,λi hi=>(hr i hi).cc hk⟩
theorem Tr.drew{c:Ctx}{H:Nat→Option bh}{w:World}{M:Nat→Prop}{ν:Nat→Value}(h:Mem c H w M ν):Tr c H w M ν H w.drew M ν:=by
 have hk:fh w M w.drew M:=⟨aI _,λ_ _ _=>rfl,λ_ _ h=>h⟩
 exact⟨⟨λi e he=>(h.ln i e he).cc hk λhm b hb=>⟨rfl,(h.ln i e he).yb hm hb⟩,h.zP,h.new,h.yG,h.gk,h.sub,h.ES,h.frame,h.size,h.vT,h.os,h.tape,h.output⟩,hk,.refl H ν⟩
theorem size_setRow(w:World)(g:Nat)(cs:Array Value):(w.setRow g cs).heap.size=w.heap.size:=by simp[World.setRow]
theorem Tr.write{c:Ctx}{H:Nat→Option bh}{w:World}{M:Nat→Prop}{ν:Nat→Value}(h:Mem c H w M ν){id:Nat}{e e':bh}(bm:H id=some e)(hm:e.mut)(jW:e'.mut)(hl:e.lK e')
  {b:Nat} (hb:fL (ν id)=some b) {cs new:Array Value} {t:TypeId} (hg:w.heap[b]? =some (.cells cs t (0,0)))
  (SS: ∀M',fh w M (w.setRow b new) M'→M' b→ER (w.setRow b new) M' (ν id) e')
  (s9: ∀τ x p j,e'= .gk τ x p j→H j≠none∧ ∃b',ν id= .pointer (some ⟨b',0,none⟩)∧(w.setRow b new).cell? ⟨b',cC p τ,none⟩=some (ν j):=by intro _ _ _ _ h;cases h):
  Tr c H w M ν (bT H id (some e')) (w.setRow b new) M ν:=by
 have hMb:M b:=(h.ln id e bm).yb hm hb
 have hk:fh w M (w.setRow b new) M:=
  ⟨by rw[size_setRow];exact aI _,λb' _ hm=>setRow_other w b b' new (λe=>hm (e▸hMb)),λ_ _ h=>h⟩
 refine⟨⟨λi e1 hi=> ?_,λi j e1 e2 b1 pF hi tT hj yu=> ?_,λi e1 b1 hi tT=> ?_,λi e1 l1 b1 hi=> ?_,q3 h (λ_ _=>rfl) xw (λi τ x p j hi=> ?_),h.sub,λb1 mG=>by rw[size_setRow];exact h.ES b1 mG,λb1 mG tU=> ?_,by rw[size_setRow];exact h.size,h.vT,h.os,h.tape,h.output⟩,hk,⟨λi e1 hi=> ?_,λi hi=>rfl⟩⟩
 ·by_cases bS:i=id
  ·subst bS;rw[ay]at hi;cases hi;exact SS M hk hMb
  ·rw[az _ _ bS]at hi
   exact(h.ln i e1 hi).cc hk λtT b1 mG=>⟨setRow_other w b b1 new (λe'=>h.zP i id e1 e b1 bS hi tT bm hm mG (e'▸hb)),(h.ln i e1 hi).yb tT mG⟩
 ·by_cases bS:i=id
  ·subst bS;rw[ay]at hi;cases hi
   have Hd:j≠i:=eU pF
   rw[az _ _ Hd]at hj
   exact h.zP i j e e2 b1 pF bm hm hj yu
  ·rw[az _ _ bS]at hi
   by_cases Hd:j=id
   ·subst Hd;exact h.zP i j e1 e b1 pF hi tT bm hm
   ·rw[az _ _ Hd]at hj;exact h.zP i j e1 e2 b1 pF hi tT hj yu
 ·by_cases bS:i=id
  ·subst bS;exact h.new i e b1 bm hm
  ·rw[az _ _ bS]at hi;exact h.new i e1 b1 hi tT
 ·by_cases bS:i=id
  ·subst bS;rw[ay]at hi;cases hi
   cases e with
   |own e0 l0=>exact h.yG i e0 l0 b1 bm
   |obj _ _=>simp[bh.lK]at hl
   |gk _ _ _ _=>simp[bh.lK]at hl
   |oS _ _=>simp[bh.mut]at hm
   |gone=>simp[bh.mut]at hm
  ·rw[az _ _ bS]at hi;exact h.yG i e1 l1 b1 hi
 ·by_cases bS:i=id
  ·subst bS;rw[ay]at hi;cases hi
   obtain⟨h1,h2⟩:=s9 _ _ _ _ rfl
   exact .inr ⟨xv h1,h2⟩
  ·rw[az _ _ bS]at hi
   exact .inl ⟨hi,λb1 mG=>setRow_other w b b1 new (λe1=>h.zP i id _ e b1 bS hi trivial bm hm (by rw[mG];rfl) (e1▸hb))⟩
 ·rw[setRow_other w b b1 new]
  ·exact h.frame b1 mG tU
  ·intro hbb;subst hbb
   rcases h.new id e b1 bm hm hb with h'|h'
   ·omega
   ·exact tU h'
 ·by_cases bS:i=id
  ·subst bS;rw[bm]at hi;cases hi;exact⟨e',ay _ _ _,hl⟩
  ·exact⟨e1,by rw[az _ _ bS];exact hi,.refl e1⟩
theorem Tr.rename{c:Ctx}{H:Nat→Option bh}{w:World}{M:Nat→Prop}{ν:Nat→Value}(h:Mem c H w M ν){j id:Nat}{e e':Ty}{l:List e.den}{l':List e'.den}(hj:H j=some (.own e l))(bm:H id=none)
  {v:Value} (hb:fL v=none∨fL v=fL (ν j)) (SS:ER w M v (.own e' l')):
  Tr c H w M ν (bT (bT H j (some .gone)) id (some (.own e' l'))) w M (dp ν id v):=by
 have iI:j≠id:=λe=>by rw[e,bm]at hj;cases hj
 have h1:=(Tr.gone h j).mem
 have pI:bT H j (some .gone) id=none:=by rw[az _ _ (eU iI)];exact bm
 have hν: ∀i,i≠id→dp ν id v i=ν i:=λi hi=>by simp[dp,hi]
 have Di:dp ν id v id=v:=by simp[dp]
 refine⟨⟨λi e1 hi=> ?_,λi k e1 e2 b1 pF hi tT hk yu=> ?_,λi e1 b1 hi tT=> ?_,λi e1 l1 b1 hi=> ?_,q3 h1 (λi hi=>hν i (λe=>hi (e▸pI))) xw (λi τ x p j hi=> .inl ⟨zQ (λ_ _ _ _=>by simp) hi,λ_ _=>rfl⟩),h.sub,h.ES,h.frame,h.size,h.vT,h.os,h.tape,h.output⟩,.refl w M,⟨λi e1 hi=> ?_,λi hi=> ?_⟩⟩
 ·by_cases bS:i=id
  ·subst bS;rw[ay]at hi;cases hi;rw[Di];exact SS
  ·rw[az _ _ bS]at hi;rw[hν i bS];exact h1.ln i e1 hi
 ·by_cases bS:i=id
  ·subst bS;rw[ay]at hi;cases hi;rw[Di]
   have He:k≠i:=eU pF
   rw[az _ _ He]at hk;rw[hν k He]
   intro mG
   rcases hb with hb|hb
   ·rw[hb]at mG;cases mG
   ·rw[hb]at mG
    by_cases hkj:k=j
    ·subst hkj;rw[ay]at hk;cases hk;simp[bh.mut]at yu
    ·rw[az _ _ hkj]at hk;exact h.zP j k _ e2 b1 (eU hkj) hj trivial hk yu mG
  ·rw[az _ _ bS]at hi;rw[hν i bS]
   by_cases He:k=id
   ·subst He;rw[Di]
    intro mG tU
    rcases hb with hb|hb
    ·rw[hb]at tU;cases tU
    ·rw[hb]at tU
     by_cases Hp:i=j
     ·subst Hp;rw[ay]at hi;cases hi;simp[bh.mut]at tT
     ·rw[az _ _ Hp]at hi;exact h.zP j i _ e1 b1 (eU Hp) hj trivial hi tT tU mG
   ·rw[az _ _ He]at hk;rw[hν k He];exact h1.zP i k e1 e2 b1 pF hi tT hk yu
 ·by_cases bS:i=id
  ·subst bS;rw[Di];intro mG
   rcases hb with hb|hb
   ·rw[hb]at mG;cases mG
   ·rw[hb]at mG;exact h.new j _ b1 hj trivial mG
  ·rw[az _ _ bS]at hi;rw[hν i bS];exact h1.new i e1 b1 hi tT
 ·by_cases bS:i=id
  ·subst bS;rw[Di];intro mG
   rcases hb with hb|hb
   ·rw[hb]at mG;cases mG
   ·rw[hb]at mG;exact h.yG j e l b1 hj mG
  ·rw[az _ _ bS]at hi;rw[hν i bS];exact h1.yG i e1 l1 b1 hi
 ·by_cases Hp:i=j
  ·subst Hp;exact⟨.gone,by rw[az _ _ iI,ay],by cases e1<;>simp[bh.lK]⟩
  ·have bS:i≠id:=λe=>by rw[e,bm]at hi;cases hi
   exact⟨e1,by rw[az _ _ bS,az _ _ Hp];exact hi,.refl e1⟩
 ·exact hν i (λe=>hi (e▸bm))
theorem Tr.Hr{c:Ctx}{H:Nat→Option bh}{w:World}{M:Nat→Prop}{ν:Nat→Value}(h:Mem c H w M ν){id:Nat}{e e':bh}(bm:H id=some e)(hm:e.mut)(jW:e'.mut)(hl:e.lK e')(vE: ∀e0 l0,e'≠ .own e0 l0)
  (SS:ER w M (ν id) e') (s9: ∀τ x p j,e'= .gk τ x p j→H j≠none∧ ∃b',ν id= .pointer (some ⟨b',0,none⟩)∧w.cell? ⟨b',cC p τ,none⟩=some (ν j)):
  Tr c H w M ν (bT H id (some e')) w M ν:=by
 refine⟨⟨λi e1 hi=> ?_,λi j e1 e2 b1 pF hi tT hj yu=> ?_,λi e1 b1 hi tT=> ?_,λi e1 l1 b1 hi=> ?_,q3 h (λ_ _=>rfl) xw (λi τ x p j hi=> ?_),h.sub,h.ES,h.frame,h.size,h.vT,h.os,h.tape,h.output⟩,.refl w M,⟨λi e1 hi=> ?_,λi hi=>rfl⟩⟩
 ·by_cases bS:i=id
  ·subst bS;rw[ay]at hi;cases hi;exact SS
  ·rw[az _ _ bS]at hi;exact h.ln i e1 hi
 ·by_cases bS:i=id
  ·subst bS;rw[ay]at hi;cases hi
   have Hd:j≠i:=eU pF
   rw[az _ _ Hd]at hj
   exact h.zP i j e e2 b1 pF bm hm hj yu
  ·rw[az _ _ bS]at hi
   by_cases Hd:j=id
   ·subst Hd;exact h.zP i j e1 e b1 pF hi tT bm hm
   ·rw[az _ _ Hd]at hj;exact h.zP i j e1 e2 b1 pF hi tT hj yu
 ·by_cases bS:i=id
  ·subst bS;exact h.new i e b1 bm hm
  ·rw[az _ _ bS]at hi;exact h.new i e1 b1 hi tT
 ·by_cases bS:i=id
  ·subst bS;rw[ay]at hi;cases hi;exact absurd rfl (vE _ _)
  ·rw[az _ _ bS]at hi;exact h.yG i e1 l1 b1 hi
 ·by_cases bS:i=id
  ·subst bS;rw[ay]at hi;cases hi
   obtain⟨h1,h2⟩:=s9 _ _ _ _ rfl
   exact .inr ⟨xv h1,h2⟩
  ·rw[az _ _ bS]at hi;exact .inl ⟨hi,λ_ _=>rfl⟩
 ·by_cases bS:i=id
  ·subst bS;rw[bm]at hi;cases hi;exact⟨e',ay _ _ _,hl⟩
  ·exact⟨e1,by rw[az _ _ bS];exact hi,.refl e1⟩
theorem Tr.nothing{c:Ctx}{w:World}{M:Nat→Prop}{ν:Nat→Value}{H:Nat→Option bh}(h:Mem c H w M ν){id:Nat}(bm:H id=none)(e:Ty)(ad:Option Addr):
  Tr c H w M ν (bT H id (some (.own e []))) w M (dp ν id (.slice ad 0 0)):=by
 have hν: ∀i,i≠id→dp ν id (.slice ad 0 0) i=ν i:=λi hi=>by simp[dp,hi]
 have Di:dp ν id (.slice ad 0 0) id= .slice ad 0 0:=by simp[dp]
 have hb:fL (.slice ad 0 0)=none:=by cases ad<;>simp[fL]
 refine⟨⟨λi e1 hi=> ?_,λi k e1 e2 b1 pF hi tT hk yu=> ?_,λi e1 b1 hi tT=> ?_,λi e1 l1 b1 hi=> ?_,q3 h (λi hi=>hν i (λe=>hi (e▸bm))) xw (λi τ x p j hi=> .inl ⟨zQ (λ_ _ _ _=>by simp) hi,λ_ _=>rfl⟩),h.sub,h.ES,h.frame,h.size,h.vT,h.os,h.tape,h.output⟩,.refl w M,⟨λi e1 hi=> ?_,λi hi=>hν i (λe=>hi (e▸bm))⟩⟩
 ·by_cases bS:i=id
  ·subst bS;rw[ay]at hi;cases hi;rw[Di];simp only[ER];exact .inl ⟨trivial,ad,rfl⟩
  ·rw[az _ _ bS]at hi;rw[hν i bS];exact h.ln i e1 hi
 ·by_cases bS:i=id
  ·subst bS;rw[Di,hb];intro h';cases h'
  ·rw[az _ _ bS]at hi;rw[hν i bS]
   by_cases He:k=id
   ·subst He;rw[Di,hb];intro _ h';cases h'
   ·rw[az _ _ He]at hk;rw[hν k He];exact h.zP i k e1 e2 b1 pF hi tT hk yu
 ·by_cases bS:i=id
  ·subst bS;rw[Di,hb];intro h';cases h'
  ·rw[az _ _ bS]at hi;rw[hν i bS];exact h.new i e1 b1 hi tT
 ·by_cases bS:i=id
  ·subst bS;rw[Di,hb];intro h';cases h'
  ·rw[az _ _ bS]at hi;rw[hν i bS];exact h.yG i e1 l1 b1 hi
 ·have bS:i≠id:=λe=>by rw[e,bm]at hi;cases hi
  exact⟨e1,by rw[az _ _ bS];exact hi,.refl e1⟩
end VM
end
section
namespace VM
open Go
theorem bC{α:Type}{υ τ:Ty}{y:υ.den}{k:τ.den→Option α}{r:α}(h:c8 υ τ y k=some r): ∃e:υ=τ,k (e▸y)=some r:=by
 unfold c8 at h
 split at h
 ·rename_i e;exact⟨e,h⟩
 ·cases h
theorem fY{α:Type}{υ τ:Ty}{k:Option α}{r:α}(h:nu υ τ k=some r):υ=τ∧k=some r:=by
 unfold nu at h
 split at h
 ·rename_i e;exact⟨e,h⟩
 ·cases h
theorem V.slice{w:World}{M:Nat→Prop}{e:Ty}{v:Value}{l:List e.den}:V w M (.slice e) v l↔Rd w M (.slice e) [v] l:=by
 unfold V;rw[ah (by simp[Ty.isAgg])]
def Fz(H H1:Nat→Option bh):Prop:= ∀i,H1 i=H i∨ ∃e l,H i=some (.own e l)∧H1 i=some (.oS e l)
theorem Fz.refl(H:Nat→Option bh):Fz H H:=λ_=> .inl rfl
theorem Fz.none{H H1:Nat→Option bh}(h:Fz H H1){i:Nat}(hi:H i=none):H1 i=none:=by
 rcases h i with h'|⟨e,l,h',_⟩
 ·rw[h',hi]
 ·rw[hi]at h';cases h'
theorem Fz.obj{H H1:Nat→Option bh}(h:Fz H H1){i:Nat}{τ:Ty}{x:τ.den}(hi:H i=some (.obj τ x)):H1 i=some (.obj τ x):=by
 rcases h i with h'|⟨e,l,h',_⟩
 ·rw[h',hi]
 ·rw[hi]at h';cases h'
theorem Bm{H:Nat→Option bh}{id:Nat}{e:Option bh}(h:H id=e):bT H id e=H:=by
 funext i
 by_cases hi:i=id
 ·subst hi;rw[ay,h]
 ·rw[az _ _ hi]
theorem ov{α:Type}{c:Ctx}{H H1:Nat→Option bh}{w:World}{M:Nat→Prop}{ν:Nat→Value}(hz:Fz H H1)(hm:Mem c H1 w M ν){a:bD}{v:Value}(hv:VR w M H1 ν a v){τ:Ty}
  {k:τ.den→List Nat→ja→Option α} {r:α} (h:mu true a H τ k=some r):
  ∃y rd ups M',k y rd ups=some r∧Tr c H1 w M ν (cY H1 ups) w M' ν∧V w M' τ v y∧Fz H (cY H1 ups)∧ ∀i,rd.contains i=false→cY H1 ups i=H1 i:=by
 unfold mu at h
 split at h
 ·
  obtain⟨e,h⟩:=bC h
  subst e
  simp only[VR]at hv
  exact⟨_,[],[],M,h,.refl hm,hv,hz,λ_ _=>rfl⟩
 ·
  obtain⟨e,h⟩:=bC h
  subst e
  simp only[VR]at hv
  exact⟨_,[],[],M,h,.refl hm,hv.1,hz,λ_ _=>rfl⟩
 ·
  split at h
  ·rename_i e k' _
   simp only[VR]at hv
   obtain⟨a,rfl⟩:=hv
   refine⟨[],[],[],M,h,.refl hm,V.slice.2 ?_,hz,λ_ _=>rfl⟩
   simp only[Rd]
   exact⟨a,0,rfl,aI _,λi hi=>absurd hi (by simp)⟩
  ·cases h
 ·rename_i id
  simp only[VR]at hv
  obtain⟨_,rfl⟩:=hv
  split at h
  ·rename_i e l bm
   obtain⟨e',h⟩:=bC h
   subst e'
   rcases hz id with h1|⟨e1,l1,h1,h2⟩
   ·rw[bm]at h1
    obtain⟨M',ix,hV,_⟩:=Tr.freeze hm h1
    refine⟨_,_,_,M',h,ix,hV,λi=> ?_,λi hi=>az _ _ (by simpa using hi)⟩
    show bT H1 id (some (.oS e l)) i=H i∨_
    by_cases hi:i=id
    ·subst hi;exact .inr ⟨e,l,bm,ay _ _ _⟩
    ·rw[az _ _ hi]
     rcases hz i with h'|⟨e2,l2,h2,h3⟩
     ·exact .inl h'
     ·exact .inr ⟨e2,l2,h2,by show bT H1 id _ i=_;rw[az _ _ hi];exact h3⟩
   ·rw[bm]at h1;cases h1
    have:=hm.ln id _ h2
    simp only[ER]at this
    refine⟨_,_,[(id,some (.oS e l))],M,h,?_,V.slice.2 this.1,?_,λi hi=>az _ _ (by simpa using hi)⟩
    ·show Tr c H1 w M ν (bT H1 id (some (.oS e l))) w M ν
     rw[Bm h2];exact .refl hm
    ·show Fz H (bT H1 id (some (.oS e l)))
     rw[Bm h2];exact hz
  ·rename_i e l bm
   obtain⟨e',h⟩:=bC h
   subst e'
   have h1:H1 id=some (.oS e l):=by
    rcases hz id with h1|⟨e1,l1,h1,h2⟩
    ·rw[h1,bm]
    ·rw[bm]at h1;cases h1
   have:=hm.ln id _ h1
   simp only[ER]at this
   exact⟨_,_,_,M,h,.refl hm,V.slice.2 this.1,hz,λ_ _=>rfl⟩
  ·cases h
 ·cases h
def Src(w:World)(M:Nat→Prop)(e:Ty)(v:Value)(l:List e.den):Prop:=
 ∃a cap,v= .slice a l.length cap∧ ∀i (h:i<l.length),∃b off cs,a=some ⟨b,off,none⟩∧At w b (off+i*e.size) cs∧Rd w M e cs l[i]
theorem Src.Y7{w:World}{M:Nat→Prop}{e:Ty}{v:Value}{l:List e.den}(h:V w M (.slice e) v l):Src w M e v l:=by
 have h:=V.slice.1 h
 simp only[Rd,fv,ec]at h
 obtain⟨a,cap,rfl,_,hr⟩:=h
 refine⟨a,cap,rfl,λi hi=> ?_⟩
 obtain⟨b,off,ha,_,_,cs,p6,lh⟩:=hr i hi
 exact⟨b,off,cs,ha,p6,lh⟩
theorem Cp{α:Type}{c:Ctx}{H:Nat→Option bh}{w:World}{M:Nat→Prop}{ν:Nat→Value}(hm:Mem c H w M ν){a:bD}{v:Value}(hv:VR w M H ν a v){e:Ty}
  {k:List e.den→List Nat→ja→Option α} {r:α} (h:mu false a H (.slice e) k=some r):
  ∃y rd,k y rd []=some r∧Src w M e v y:=by
 unfold mu at h
 split at h
 ·obtain⟨e',h⟩:=bC h
  subst e'
  simp only[VR]at hv
  exact⟨_,[],h,.Y7 hv⟩
 ·obtain⟨e',h⟩:=bC h
  subst e'
  simp only[VR]at hv
  exact⟨_,[],h,.Y7 hv.1⟩
 ·have h:k [] [] []=some r:=h
  simp only[VR]at hv
  obtain⟨a,rfl⟩:=hv
  exact⟨[],[],h,a,0,rfl,λi hi=>absurd hi (by simp)⟩
 ·rename_i id
  simp only[VR]at hv
  obtain⟨_,rfl⟩:=hv
  split at h
  ·rename_i e1 l bm
   obtain⟨e',h⟩:=bC h
   cases e'
   refine⟨_,_,h,?_⟩
   have:=hm.ln id _ bm
   simp only[ER]at this
   rcases this with⟨rfl,a,hv⟩|⟨b,cs,t,cap,hv,hb,hM,hc,hl,Hc,hs,hr⟩
   ·exact⟨a,0,hv,λi hi=>absurd hi (by simp)⟩
   ·refine⟨_,cap,hv,λi hi=>⟨b,0,_,rfl,?_,hr i hi⟩⟩
    rw[gq]
    exact At.of_block hb _ _
  ·rename_i e1 l bm
   obtain⟨e',h⟩:=bC h
   cases e'
   have:=hm.ln id _ bm
   simp only[ER]at this
   exact⟨_,_,h,.Y7 (V.slice.2 this.1)⟩
  ·cases h
 ·cases h
theorem Src.cells{w:World}{M:Nat→Prop}{e:Ty}{v:Value}{l:List e.den}(h:Src w M e v l)(iI:l≠[]):
  ∃b off cap news,v= .slice (some ⟨b,off,none⟩) l.length cap∧news.length=l.length*e.size∧At w b off news∧
   (∀i (hi:i<l.length),Rd w M e ((news.drop (i*e.size)).take e.size) l[i])∧ ∀u∈news,u.oneCell'=true:=by
 obtain⟨a,cap,rfl,hr⟩:=h
 have h0:0<l.length:=o0.2 iI
 obtain⟨b,off,_,ha,_⟩:=hr 0 h0
 subst ha
 have key: ∀n,n≤l.length→ ∃news:List Value,news.length=n*e.size∧At w b off news∧
   (∀i (hi:i<l.length),i<n→Rd w M e ((news.drop (i*e.size)).take e.size) l[i])∧ ∀u∈news,u.oneCell'=true:=by
  intro n
  induction n with
  |zero=>exact λ_=>⟨[],by simp,λj v hj=>by simp at hj,λi _ hi=>ω,by simp⟩
  |succ n ih=>
   intro hn
   obtain⟨news,hl,p6,lh,agR⟩:=ih ω
   obtain⟨b',ayv,cs,ha,arw,SU⟩:=hr n ω
   cases ha
   refine⟨news++cs,by rw[aT,hl,SU.length,eG,ke],At.append.2 ⟨p6,by rw[hl];exact arw⟩,λi hi m4=> ?_,λu hu=> ?_⟩
   ·by_cases fA:i<n
    ·have h1:(i+1)*e.size≤n*e.size:=kK _ fA
     rw[eG,ke]at h1
     rw[zk ω,zj (by rw[dI];omega)]
     exact lh i hi fA
    ·obtain rfl:i=n:=ω
     rw[nj hl,gl (by rw[SU.length];exact aI _)]
     exact SU
   ·rcases bo.1 hu with hu|hu
    ·exact agR u hu
    ·exact SU.oT u hu
 obtain⟨news,hl,p6,lh,agR⟩:=key l.length (aI _)
 exact⟨b,off,cap,news,rfl,hl,p6,λi hi=>lh i hi hi,agR⟩
structure Core(c:Ctx)(σ:St)(tm:Array Value)(w:World)(M:Nat→Prop)(ν:Nat→Value):Prop where
 mem:Mem c σ.H w M ν
 tmp: ∀i,VR w M σ.H ν (σ.T i) (tm.getD i undef)
theorem SV(w:World)(M:Nat→Prop)(H:Nat→Option bh)(ν:Nat→Value)(v:Value):VR w M H ν (cvA v) v:=by
 unfold cvA
 split<;>simp[VR,V,Ty.isAgg,Rd]
theorem Core.op{c:Ctx}{σ:St}{tm:Array Value}{w:World}{M:Nat→Prop}{ν:Nat→Value}(h:Core c σ tm w M ν)(ds:List Deferred)(x:Operand):
  VR w M σ.H ν (σ.ρ x) (({tmps:=tm,defers:=ds}:Act).eval x):=by
 cases x with
 |tmp t=>exact h.tmp t
 |const v=>exact SV w M σ.H ν v
 |global g=>simp[St.ρ,VR]
 |func f=>simp[St.ρ,VR,ju,Act.eval]
def alN(P:Program)(t:TypeId)(τ:Ty):Prop:=
 ∀(w:World) (M:Nat→Prop) (u v:Value) (x y:τ.den) (b:BinOp) (xo yo:Operand),V w M τ u x→V w M τ v y→
  (eqGuard b t xo yo u v).run P w= .ok () w∧(binOp .eql t u v).run P w= .ok (.bool (oR τ x y)) w∧(binOp .neq t u v).run P w= .ok (.bool (!oR τ x y)) w
structure EnvTy(P:Program)(E:Env):Prop where
 ty: ∀t τ,E.ty t=some τ→kO P τ t
 eq: ∀t τ,E.ty t=some τ→τ.comparable=true→τ.isAgg=true→alN P t τ
end VM
end
section
namespace VM
open Go
variable{P:Program}
theorem zS{o:Oper}{ρ:Operand→Value}{t:TypeId}{i:TypeInfo}{z:Value}(ho:o.op= .alloc t)(hi:P.info? t=some i)(hz:i.zero=some z)(w:World):
  (execOp ρ o).run P w= .ok (.value (.pointer (some ⟨w.heap.size,0,none⟩))) (w.alloc (.cells z.cells t)):=by
 simp[execOp,ho,Instr.alloc,zeroValue,typeInfo,hi,hz,newVar,newRow]
theorem EU{o:Oper}{ρ:Operand→Value}{t:TypeId}{x:Operand}(ho:o.op= .box t x)(w:World):
  (execOp ρ o).run P w= .ok (.value (.pointer (some ⟨w.heap.size,0,none⟩))) (w.alloc (.cells (ρ x).cells t)):=by
 simp[execOp,ho,Instr.box,newVar,newRow]
theorem tV{τ:Ty}{t:TypeId}(h:kO P τ t)(w:World):(isAgg t).run P w= .ok τ.isAgg w:=by
 unfold kO at h
 cases τ<;>simp only[fR]at h
 ·simp[isAgg,run_underlying h.2,Ty.isAgg]
 ·simp[isAgg,run_underlying h.2,Ty.isAgg]
 ·simp[isAgg,run_underlying h.2,Ty.isAgg]
 ·obtain⟨_,e',h',_⟩:=h;simp[isAgg,run_underlying h',Ty.isAgg]
 ·obtain⟨_,e',h',_⟩:=h;simp[isAgg,run_underlying h',Ty.isAgg]
 ·obtain⟨_,e',f,h',_⟩:=h;simp[isAgg,run_underlying h',Ty.isAgg]
 ·obtain⟨_,e',h',_⟩:=h;simp[isAgg,run_underlying h',Ty.isAgg]
theorem dk{τ:Ty}{t:TypeId}(h:kO P τ t)(w:World):(Go.sizeOf t).run P w= .ok τ.size w:=by
 obtain⟨i,hi,hs,_⟩:=h.base
 simp[Go.sizeOf,typeInfo,hi,hs]
theorem Cr{w:World}{M:Nat→Prop}{τ:Ty}{t:TypeId}(h:kO P τ t){b off:Nat}{cs:List Value}{x:τ.den}(ha:At w b off cs)(hr:Rd w M τ cs x):
  (loadVar t ⟨b,off,none⟩).run P w= .ok (cI τ cs) w:=by
 have hl:(loadCells ⟨b,off,none⟩ τ.size).run P w= .ok cs.toArray w:=by
  rw[←hr.length]
  exact run_loadCells_list w _ cs λj v hj=>by rw[show(⟨b,off,none⟩:Addr).add j=⟨b,off+j,none⟩from by unfold Addr.add;split<;>simp_all];exact ha j v hj
 unfold cI
 by_cases L4:τ.isAgg=true
 ·simp[loadVar,tV h,L4,dk h,hl]
 ·obtain⟨v,rfl,hc⟩:=hr.scalar (by simpa using L4)
  have h0:=ha 0 v rfl
  simp only[nr]at h0
  simp[loadVar,tV h,L4,load,Sem.run,h0]
theorem wG{o:Oper}{ρ:Operand→Value}{t:TypeId}{x:Operand}(ho:o.op= .load t x){w:World}{M:Nat→Prop}{τ:Ty}(h:kO P τ t){b off:Nat}{cs:List Value}{y:τ.den}
  (hx:ρ x= .pointer (some ⟨b,off,none⟩)) (ha:At w b off cs) (hr:Rd w M τ cs y):
  (execOp ρ o).run P w= .ok (.value (cI τ cs)) w:=by
 simp[execOp,ho,hx,Instr.loadAt,Instr.sureAddr,Cr h ha hr]
theorem nz{o:Oper}{ρ:Operand→Value}{t:TypeId}{x y:Operand}(ho:o.op= .store t x y){w:World}{τ:Ty}(h:kO P τ t){b off:Nat}{cur:Array Value}{te:TypeId}
  (hx:ρ x= .pointer (some ⟨b,off,none⟩)) (hg:w.heap[b]? =some (.cells cur te (0,0))) (hs:(ρ y).cells.size=τ.size) (hf:off+τ.size≤cur.size) (h1: ∀v∈(ρ y).cells.toList,v.oneCell'=true):
  (execOp ρ o).run P w= .ok .skip (w.setRow b (cur.toList.take off++(ρ y).cells.toList++cur.toList.drop (off+(ρ y).cells.toList.length)).toArray):=by
 have EV:=run_storeCells_at (P:=P) b off te (ρ y).cells.toList 0 cur w hg (by simp[hs];omega) h1
 simp only[nr]at EV
 simp[execOp,ho,hx,Instr.storeAt,Instr.sureAddr,storeVar,dk h,hs,EV]
theorem tX{o:Oper}{ρ:Operand→Value}{t:TypeId}{x:Operand}{n:Nat}(ho:o.op= .fieldAddr t x n){w:World}{fs:Array Field}{f:Field}{b off:Nat}{υ:Ty}
  (hu:P.underlying t=some (.struct fs)) (hf:fs[n]? =some f) (hl:kO P υ f.type) (hz:υ.size≠0) (hx:ρ x= .pointer (some ⟨b,off,none⟩)):
  ∃a,(execOp ρ o).run P w= .ok (.value a) w∧a= .pointer (some ⟨b,off+f.offset,none⟩):=by
 refine⟨_,?_,rfl⟩
 simp[execOp,ho,hx,Instr.fieldAt,Instr.sureAddr,run_underlying hu,hf,fieldPlace,Addr.add_lit,dk hl,hz]
theorem zT{τ:Ty}{t:TypeId}(h:kO P τ t){w:World}{M:Nat→Prop}{cs:Array Value}{off:Nat}{x:τ.den}(hr:Rd w M τ ((cs.toList.drop off).take τ.size) x):
  (part t cs off).run P w= .ok (cI τ ((cs.toList.drop off).take τ.size)) w:=by
 have hl:=hr.length
 unfold cI
 by_cases L4:τ.isAgg=true
 ·simp only[part,Sem.run_bind,tV h,Result.andThen_ok,L4,gH,dk h]
  simp
  rw[bO,dI,bJ]at hl
  apply js
  simp only[Array.toList_extract,List.extract_eq_take_drop,zp]
 ·obtain⟨v,hv,hc⟩:=hr.scalar (by simpa using L4)
  rw[hv]
  have h0:cs[off]? =some v:=by
   have:=eA (λl=>l[0]?) hv
   simp only[lZ,mc]at this
   split at this
   ·simpa using this
   ·simp at this
  simp[part,tV h,L4,h0]
theorem JJ{o:Oper}{ρ:Operand→Value}{t:TypeId}{x:Operand}{n:Nat}(ho:o.op= .field t x n){w:World}{M:Nat→Prop}{fs:Array Field}{f:Field}{cs:Array Value}{υ:Ty}{y:υ.den}
  (hu:P.underlying t=some (.struct fs)) (hf:fs[n]? =some f) (hl:kO P υ f.type) (hx:ρ x= .agg cs) (hr:Rd w M υ ((cs.toList.drop f.offset).take υ.size) y):
  (execOp ρ o).run P w= .ok (.value (cI υ ((cs.toList.drop f.offset).take υ.size))) w:=by
 simp[execOp,ho,hx,Instr.field,run_underlying hu,hf,asAgg,zT hl hr]
theorem lq{o:Oper}{ρ:Operand→Value}{t e:TypeId}{x i:Operand}(ho:o.op= .indexAddr t x i){w:World}{τe:Ty}{b off len cap:Nat}{k:IntKind}{n:Int}
  (hu:P.underlying t=some (.slice e)) (he:kO P τe e) (hx:ρ x= .slice (some ⟨b,off,none⟩) len cap) (hi:ρ i= .int k n) (h0:0≤n) (h1:n<(len:Int)):
  (execOp ρ o).run P w= .ok (.value (.pointer (some ⟨b,off+n.toNat*τe.size,none⟩))) w:=by
 simp[execOp,ho,hx,hi,Instr.indexAt,asIntOf,run_underlying hu,h0,h1,dk he,Addr.add_lit]
theorem sI{o:Oper}{ρ:Operand→Value}{t e:TypeId}{x i:Operand}(ho:o.op= .indexAddr t x i){w:World}{τe:Ty}{b off len:Nat}{k:IntKind}{n:Int}
  (hu:P.underlying t=some (.array len e)) (he:kO P τe e) (hx:ρ x= .pointer (some ⟨b,off,none⟩)) (hi:ρ i= .int k n) (h0:0≤n) (h1:n<(len:Int)):
  (execOp ρ o).run P w= .ok (.value (.pointer (some ⟨b,off+n.toNat*τe.size,none⟩))) w:=by
 simp[execOp,ho,hx,hi,Instr.indexAt,Instr.sureAddr,asIntOf,run_underlying hu,h0,h1,dk he,Addr.add_lit]
theorem Hs{o:Oper}{ρ:Operand→Value}{t e:TypeId}{x i:Operand}(ho:o.op= .index t x i){w:World}{M:Nat→Prop}{τe:Ty}{len:Nat}{k:IntKind}{n:Int}{cs:Array Value}{y:τe.den}
  (hu:P.underlying t=some (.array len e)) (he:kO P τe e) (hx:ρ x= .agg cs) (hi:ρ i= .int k n) (h0:0≤n) (h1:n<(len:Int)) (hr:Rd w M τe ((cs.toList.drop (n.toNat*τe.size)).take τe.size) y):
  (execOp ρ o).run P w= .ok (.value (cI τe ((cs.toList.drop (n.toNat*τe.size)).take τe.size))) w:=by
 simp[execOp,ho,hx,hi,Instr.index,asIntOf,run_underlying hu,h0,h1,dk he,zT he hr]
theorem EW{o:Oper}{ρ:Operand→Value}{x:Operand}{n:Nat}(ho:o.op= .extract x n){w:World}{us:List Value}{v:Value}(hx:ρ x= .tuple us.toArray)(hv:us[n]? =some v):
  (execOp ρ o).run P w= .ok (.value v) w:=by
 simp[execOp,ho,hx,Instr.extract,hv]
theorem L7{o:Oper}{ρ:Operand→Value}{x y z:Operand}(ho:o.op= .pick x y z){w:World}{b:Bool}(hx:ρ x= .bool b):
  (execOp ρ o).run P w= .ok (.value (if b then ρ y else ρ z)) w:=by
 simp[execOp,ho,hx,asBool]
theorem vF{o:Oper}{ρ:Operand→Value}{x:Operand}(ho:o.op= .nilCheck x){w:World}{a:Addr}(hx:ρ x= .pointer (some a)):
  (execOp ρ o).run P w= .ok (.value (.pointer (some a))) w:=by
 simp[execOp,ho,hx]
theorem Dj{o:Oper}{ρ:Operand→Value}{f:FuncId}{first caps:Array Operand}(ho:o.op= .makeFunc (.func f) first caps)(hf:first= #[]){w:World}:
  (execOp ρ o).run P w= .ok (.value (.func (.func f) #[] (caps.map ρ))) w:=by
 subst hf
 simp[execOp,ho,Instr.makeFunc]
theorem EX{o:Oper}{ρ:Operand→Value}{s d:TypeId}{x:Operand}(ho:o.op= .convert s d x){w:World}{k k':IntKind}{n:Int}(hs:(P.underlying s).isSome=true)(hd:P.underlying d=some (.int k))(hx:ρ x= .int k' n):
  (execOp ρ o).run P w= .ok (.value (.int k (k.wrap n))) w:=by
 obtain⟨ds,hs⟩:=Option.isSome_iff_exists.1 hs
 simp[execOp,ho,hx,convert,run_underlying hs,run_underlying hd,Conv.intToInt]
theorem wH{o:Oper}{ρ:Operand→Value}{u:UnOp}{t:TypeId}{x:Operand}(ho:o.op= .unOp u t x){w:World}{v:Value}(h:(Op.unary u (ρ x)).run P w= .ok v w):
  (execOp ρ o).run P w= .ok (.value v) w:=by
 simp[execOp,ho,h]
theorem p7{o:Oper}{ρ:Operand→Value}{b:BinOp}{t t':TypeId}{x y:Operand}(ho:o.op= .binOp b t x y t'){w:World}{v:Value}
  (hg:(eqGuard b t x y (ρ x) (ρ y)).run P w= .ok () w) (h:(binOp b t (ρ x) (ρ y)).run P w= .ok v w):
  (execOp ρ o).run P w= .ok (.value v) w:=by
 simp[execOp,ho,hg,h]
theorem pJ{b:BinOp}{t:TypeId}{x y:Operand}{k k':IntKind}{m n:Int}(w:World):(eqGuard b t x y (.int k m) (.int k' n)).run P w= .ok () w:=by
 cases b<;>simp[eqGuard]
theorem Bn{b:BinOp}{t:TypeId}{x y:Operand}{m n:Bool}(w:World):(eqGuard b t x y (.bool m) (.bool n)).run P w= .ok () w:=by
 cases b<;>simp[eqGuard]
theorem Dl{b:BinOp}{t:TypeId}{x y:Operand}{m n:ByteArray}(w:World):(eqGuard b t x y (.string m) (.string n)).run P w= .ok () w:=by
 cases b<;>simp[eqGuard]
theorem q4{o:Oper}{ρ:Operand→Value}{b:Builtin}{args:Array Operand}{ts:Array TypeId}(ho:o.op= .call {callee:= .builtin b,args,argTypes:=ts}){w:World}:
  ∃cs,(execOp ρ o).run P w=(builtin b ts o.type cs (args.map ρ)).run P w:=by
 refine⟨args.map fun| .const _=>true|_=>false,?_⟩
 simp[execOp,ho,resolve,invoke]
 rfl
end VM
end
section
namespace VM
open Go
theorem sJ{α:Type}{r:α}: ∀{τ:Ty} {x:τ.den} {n:Nat} {m:(υ:Ty)→υ.den→(υ.den→Option α)→Option α} {k:τ.den→Option α},ns τ x n m k=some r→
  ∃υ y o k',Dh τ x n υ y o∧m υ y k'=some r∧ ∀z r',k' z=some r'→ ∃x',k x'=some r'∧Dh τ x' n υ z o∧
   ∀(w:World) (M:Nat→Prop) cs cs',Rd w M τ cs x→Rd w M υ cs' z→Rd w M τ (fj cs o cs') x'
 | .pair a b,x,0,m,k,h=>by
  refine⟨a,x.1,0,_,.here x,h,λz r' hz=>⟨(z,x.2),hz,.here (a:=a) (b:=b) (z,x.2),λw M cs cs' hr eZ=> ?_⟩⟩
  simp only[Rd]at hr ⊢
  obtain⟨c1,c2,rfl,h1,h2⟩:=hr
  refine⟨cs',c2,?_,eZ,h2⟩
  rw[zO (by rw[eZ.length,h1.length];omega)]
  congr 1
  unfold fj
  rw[gq,eZ.length,←h1.length];simp
 | .pair a b,x,n+1,m,k,h=>by
  obtain⟨υ,y,o,k',hf,hm,hk⟩:=sJ (τ:=b) (x:=x.2) (n:=n) (m:=m) (k:=λz=>k (x.1,z)) h
  refine⟨υ,y,_,k',.there x hf,hm,λz r' hz=> ?_⟩
  obtain⟨x',pK,Bk,lh⟩:=hk z r' hz
  refine⟨(x.1,x'),pK,.there (a:=a) (b:=b) (x.1,x') Bk,λw M cs cs' hr eZ=> ?_⟩
  simp only[Rd]at hr ⊢
  obtain⟨c1,c2,rfl,h1,h2⟩:=hr
  refine⟨c1,_,?_,h1,lh w M c2 cs' h2 eZ⟩
  rw[←h1.length,xu]
 | .int _,_,_,_,_,h| .bool,_,_,_,_,h| .str,_,_,_,_,h| .slice _,_,_,_,_,h| .unit,_,_,_,_,h| .arr _ _,_,_,_,_,h=>by simp[ns]at h
def q5(w:World)(M:Nat→Prop)(e:Ty)(cs:List Value)(l:List e.den):Prop:=
 ∀i (h:i<l.length),Rd w M e ((cs.drop (i*e.size)).take e.size) l[i]
theorem eH{i n s:Nat}(h:i<n):i*s+s≤n*s:=by
 have:(i+1)*s≤n*s:=kK _ h
 rw[eG,ke]at this;exact this
theorem q5.set{w:World}{M:Nat→Prop}{e:Ty}{cs:List Value}{l:List e.den}(h:q5 w M e cs l)(hl:l.length*e.size≤cs.length){i:Nat}(hi:i<l.length){cs':List Value}{y:e.den}(hr:Rd w M e cs' y):
  q5 w M e (fj cs (i*e.size) cs') (l.set i y):=by
 have hlen:=hr.length
 intro j hj
 rw[bB]at hj
 have h1:=eH (s:=e.size) hi
 have h2:=eH (s:=e.size) hj
 by_cases pF:j=i
 ·subst pF
  have:=agP (a:=cs) (o:=j*e.size) (new:=cs') ω
  rw[hlen]at this
  rw[this,List.getElem_set_self];exact hr
 ·rw[JH (by
   rcases Nat.lt_or_gt_of_ne pF with fA|fA
   ·have:=eH (s:=e.size) fA;left;omega
   ·have:=eH (s:=e.size) fA;right;omega) ω,List.getElem_set_ne (eU pF)]
  exact h j hj
theorem q5.append{w:World}{M:Nat→Prop}{e:Ty}{c1 c2:List Value}{l1 l2:List e.den}(h1:q5 w M e c1 l1)(hl:c1.length=l1.length*e.size)(h2:q5 w M e c2 l2):q5 w M e (c1++c2) (l1++l2):=by
 intro i hi
 by_cases fA:i<l1.length
 ·have:=eH (s:=e.size) fA
  rw[zk ω,zj (by rw[dI];omega),Et fA]
  exact h1 i fA
 ·rw[aT]at hi
  obtain⟨k,rfl⟩: ∃k,i=l1.length+k:=⟨i-l1.length,ω⟩
  rw[eG,←hl,←jJ,nj rfl,LA ω]
  simp only[zp]
  exact h2 k ω
theorem q5.take{w:World}{M:Nat→Prop}{e:Ty}{cs:List Value}{l:List e.den}(h:q5 w M e cs l){n:Nat}(hn:l.length*e.size≤n):q5 w M e (cs.take n) l:=by
 intro i hi
 have:=eH (s:=e.size) hi
 rw[qP,qQ,gZ ω]
 exact h i hi
theorem q5.more{w:World}{M:Nat→Prop}{e:Ty}{cs cs':List Value}{l:List e.den}(h:q5 w M e cs l)(hl:l.length*e.size≤cs.length):q5 w M e (cs++cs') l:=by
 intro i hi
 have:=eH (s:=e.size) hi
 rw[zk ω,zj (by rw[dI];omega)]
 exact h i hi
theorem q5.cc{w w':World}{M M':Nat→Prop}(k:fh w M w' M'){e:Ty}{cs:List Value}{l:List e.den}(h:q5 w M e cs l):q5 w' M' e cs l:=λi hi=>(h i hi).cc k
theorem Rd.arr{w:World}{M:Nat→Prop}{n:Nat}{e:Ty}{cs:List Value}{x:(Ty.arr n e).den}:Rd w M (.arr n e) cs x↔List.length x=n∧cs.length=n*e.size∧q5 w M e cs x:=by
 constructor
 ·intro h
  have hl:=h.length
  have h':=h
  simp only[Rd]at h'
  refine⟨h'.1,hl,λi hi=> ?_⟩
  have:=h.idx (i:=i) ω
  rw[kP x i e.zero hi]at this
  exact this
 ·rintro⟨hn,hl,hr⟩
  simp only[Rd]
  refine⟨hn,(List.range n).map λi=>(cs.drop (i*e.size)).take e.size,by simp,?_,λi hi lA=> ?_⟩
  ·
   have key: ∀m (l:List Value),l.length=m*e.size→l=((List.range m).map λi=>(l.drop (i*e.size)).take e.size).flatten:=by
    intro m
    induction m with
    |zero=>intro l hl;simpa using hl
    |succ m ih=>
     intro l hl
     have h1:(l.take (m*e.size)).length=m*e.size:=by rw[bO,hl,eG];omega
     have h2:=ih (l.take (m*e.size)) h1
     rw[EI,dn,List.flatten_append]
     have h3:((List.range m).map λi=>(l.drop (i*e.size)).take e.size)=(List.range m).map λi=>((l.take (m*e.size)).drop (i*e.size)).take e.size:=by
      apply qJ
      intro i hi
      have:=eH (s:=e.size) (qR.1 hi)
      rw[qP,qQ,gZ ω]
     rw[h3,←h2]
     simp only[bR,iE,zv,List.flatten_nil,cK]
     rw[gl (l:=l.drop (m*e.size)) (by rw[dI,hl,eG];omega),fW]
   exact key n cs hl
  ·simp only[List.getElem_map,EC]
   exact hr i hi
theorem pa{α:Type}{r:α}{υ:Ty}{y:υ.den}: ∀{p:List Step} {τ:Ty} {x:τ.den} {k:τ.den→Option α},vP υ y p τ x k=some r→
  ∃z,k z=some r∧Ho p τ=υ∧(ya p τ→cC p τ+υ.size≤τ.size)∧ ∀(w:World) (M:Nat→Prop) cs cs',ya p τ→Rd w M τ cs x→Rd w M υ cs' y→Rd w M τ (fj cs (cC p τ) cs') z
 |[],τ,x,k,h=>by
  obtain⟨e,h⟩:=bC (h:c8 υ τ y k=some r)
  subst e
  refine⟨y,h,rfl,λ_=>by simp[cC],λw M cs cs' _ hr eZ=> ?_⟩
  unfold fj
  rw[show cC [] υ=0 from rfl,gq,eZ.length,←hr.length]
  simpa using eZ
 | .kH n::p,τ,x,k,h=>by
  obtain⟨υ',y',o,k',hf,hm,hk⟩:=sJ (h:ns τ x n _ k=some r)
  obtain⟨z',Dm,ht,Hf,lh⟩:=pa (p:=p) (τ:=υ') (x:=y') (k:=k') hm
  obtain⟨x',pK,Bk,SU⟩:=hk z' r Dm
  obtain⟨h1,h2⟩:=hf.eq
  subst h1 h2
  refine⟨x',pK,ht,λhi=>by have:=hf.bound;have:=Hf hi;simp only[cC];omega,λw M cs cs' hi hr eZ=> ?_⟩
  have Hf:=Hf hi
  have h3:=lh w M _ cs' hi (hf.rd hr) eZ
  have h4:=SU w M cs _ hr h3
  have hb:=hf.bound
  have Y8:=hr.length
  have hl2:=eZ.length
  have YE:=h3.length
  have m4:cC p (vS τ n)+cs'.length≤((cs.drop (sf τ n)).take (vS τ n).size).length:=by
   rw[bO,dI];omega
  have:fj cs (sf τ n) (fj ((cs.drop (sf τ n)).take (vS τ n).size) (cC p (vS τ n)) cs')=fj cs (sf τ n+cC p (vS τ n)) cs':=by
   have e1:cs=cs.take (sf τ n)++(((cs.drop (sf τ n)).take (vS τ n).size)++cs.drop (sf τ n+(vS τ n).size)):=by
    rw[←jJ,fW,fW]
   have fA:(cs.take (sf τ n)).length=sf τ n:=by rw[bO];omega
   conv=>rhs;rw[e1]
   rw[show sf τ n+cC p (vS τ n)=(cs.take (sf τ n)).length+cC p (vS τ n)from by rw[fA],xu,zO m4]
   generalize fj ((cs.drop (sf τ n)).take (vS τ n).size) (cC p (vS τ n)) cs'=m at YE ⊢
   unfold fj
   rw[YE,bM]
  simp only[cC]
  rw[←this]
  exact h4
 | .idx i::p,τ,x,k,h=>by
  cases τ with
  |arr n e=>
   obtain⟨z',Dm,ht,Hf,lh⟩:=pa (p:=p) (τ:=e) (x:=List.getD x i e.zero) (k:=λz=>k (List.set x i z)) h
   refine⟨_,Dm,ht,λhi=>by
    obtain⟨⟨n',e',he,m4⟩,lA⟩:=hi
    cases he
    have:=Hf lA
    have hm:=eH (s:=e.size) m4
    simp only[cC,elT,Ty.size];omega,λw M cs cs' hi hr eZ=> ?_⟩
   obtain⟨⟨n',e',he,m4⟩,lA⟩:=hi
   cases he
   have h3:=lh w M _ cs' lA (hr.idx m4) eZ
   obtain⟨hn,Y8,H9⟩:=Rd.arr.1 hr
   have hm:=eH (s:=e.size) m4
   have h4:=H9.set (by rw[Y8,hn];exact aI _) (i:=i) ω h3
   have hl2:=eZ.length
   have YE:=h3.length
   have hch:((cs.drop (i*e.size)).take e.size).length=e.size:=by rw[bO,dI];omega
   have Hf:=Hf lA
   have arx:cC p e+cs'.length≤((cs.drop (i*e.size)).take e.size).length:=ω
   have:fj cs (i*e.size) (fj ((cs.drop (i*e.size)).take e.size) (cC p e) cs')=fj cs (i*e.size+cC p e) cs':=by
    have e1:cs=cs.take (i*e.size)++(((cs.drop (i*e.size)).take e.size)++cs.drop (i*e.size+e.size)):=by
     rw[←jJ,fW,fW]
    have fA:(cs.take (i*e.size)).length=i*e.size:=by rw[bO];omega
    conv=>rhs;rw[e1]
    rw[show i*e.size+cC p e=(cs.take (i*e.size)).length+cC p e from by rw[fA],xu,zO arx]
    generalize fj ((cs.drop (i*e.size)).take e.size) (cC p e) cs'=m at YE ⊢
    unfold fj
    rw[YE,bM]
   simp only[cC,elT]
   rw[←this]
   refine Rd.arr.2 ⟨by rw[bB];exact hn,?_,h4⟩
   rw[gK (by rw[YE];omega)];exact Y8
  |_=>simp[vP,DW]at h
end VM
end
