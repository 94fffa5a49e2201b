/- A part of the proof of WindBears of layer 21: a machine that reads a function of the program as an equation between values. -/
import Derived.Test.YtecmobijochjkaaGreatVm0
import Derived.WalkLawsBesides
import Derived.Great.BuildSlice
import Derived.Laws.Tables
set_option linter.all false
section
namespace VM
open Go
structure Ctx where
 B:Nat
 w0:World
 M0:Nat→Prop
 may:Nat→Prop
 arg:Nat→Value
structure Mem(c:Ctx)(H:Nat→Option bh)(w:World)(M:Nat→Prop)(ν:Nat→Value):Prop where
 la: ∀i e,H i=some e→ER w M (ν i) e
 zW: ∀i j e e' b,i≠j→H i=some e→e.mut→H j=some e'→e'.mut→fM (ν i)=some b→fM (ν j)≠some b
 new: ∀i e b,H i=some e→e.mut→fM (ν i)=some b→c.B≤b∨c.may b
 yO: ∀i e l b,H i=some (.own e l)→fM (ν i)=some b→ ¬c.M0 b
 gk: ∀i τ x p j,H i=some (.gk τ x p j)→H j≠none∧ ∃b,ν i= .pointer (some ⟨b,0,none⟩)∧w.cell? ⟨b,cF p τ,none⟩=some (ν j)
 sub: ∀b,c.M0 b→M b
 EP: ∀b,M b→b<w.heap.size
 frame: ∀b,b<c.B→ ¬c.may b→w.heap[b]? =c.w0.heap[b]?
 size:c.B≤w.heap.size
 vG:(∀b,c.M0 b→b<c.B)∧ ∀b,c.may b→ ¬c.M0 b
 os:w.os=c.w0.os
 tape:w.tape=c.w0.tape
 output:w.output=c.w0.output
structure Tr(c:Ctx)(H:Nat→Option bh)(w:World)(M:Nat→Prop)(ν:Nat→Value)(H':Nat→Option bh)(w':World)(M':Nat→Prop)(ν':Nat→Value):Prop where
 mem:Mem c H' w' M' ν'
 cc:fa w M w' M'
 goes:sY H ν H' ν'
theorem bh.lq.trans{a b d:bh}(h:a.lq b)(k:b.lq d):a.lq d:=by
 cases a<;>cases b<;>cases d<;>simp only[bh.lq]at h k ⊢ <;>first
  |exact h.trans k
  |exact⟨h.1.trans k.1,h.2.trans k.2⟩
theorem sY.trans{H H' H'':Nat→Option bh}{ν ν' ν'':Nat→Value}(h:sY H ν H' ν')(k:sY H' ν' H'' ν''):sY H ν H'' ν'':=by
 refine⟨λi e he=> ?_,λi hi=> ?_⟩
 ·obtain⟨e',wu,l⟩:=h.la i e he
  obtain⟨e'',aqP,l'⟩:=k.la i e' wu
  exact⟨e'',aqP,l.trans l'⟩
 ·obtain⟨e,he⟩:=Ej.1 hi
  obtain⟨e',wu,_⟩:=h.la i e he
  rw[k.head i (by simp[wu]),h.head i hi]
theorem Tr.trans{c:Ctx}{H H' H'':Nat→Option bh}{w w' w'':World}{M M' PO:Nat→Prop}{ν ν' ν'':Nat→Value}
  (h:Tr c H w M ν H' w' M' ν') (k:Tr c H' w' M' ν' H'' w'' PO ν''):Tr c H w M ν H'' w'' PO ν'':=
 ⟨k.mem,h.cc.trans k.cc,h.goes.trans k.goes⟩
theorem Tr.refl{c:Ctx}{H:Nat→Option bh}{w:World}{M:Nat→Prop}{ν:Nat→Value}(h:Mem c H w M ν):Tr c H w M ν H w M ν:=
 ⟨h,.refl w M,.refl H ν⟩
theorem ax(H:Nat→Option bh)(d:Nat)(v:Option bh):bY H d v d=v:=by simp[bY]
theorem az(H:Nat→Option bh){d i:Nat}(v:Option bh)(h:i≠d):bY H d v i=H i:=by
 have:Nat.beq i d=false:=by rw[←m0,we];exact h
 simp[bY,this]
def c5(H:Nat→Option bh):jb→(Nat→Option bh)
 |[]=>H
 |u::r=>c5 (bY H u.1 u.2) r
theorem P4(ups:jb): ∀σ:St,(σ.wg ups).H=c5 σ.H ups:=by
 induction ups with
 |nil=>intro σ;rfl
 |cons u r ih=>intro σ;exact ih _
theorem P5(ups:jb): ∀σ:St,(σ.wg ups).T=σ.T:=by
 induction ups with
 |nil=>intro σ;rfl
 |cons u r ih=>intro σ;exact ih _
theorem gv(a b:jb): ∀H,c5 H (a++b)=c5 (c5 H a) b:=by
 induction a with
 |nil=>intro H;rfl
 |cons u r ih=>intro H;exact ih _
theorem xA{H:Nat→Option bh}{id j:Nat}{v:bh}(h:H j≠none):bY H id (some v) j≠none:=by
 by_cases hj:j=id
 ·subst hj;rw[ax];simp
 ·rw[az _ _ hj];exact h
theorem JW{H:Nat→Option bh}{w:World}{ν:Nat→Value}(h: ∀i τ x p j,H i=some (.gk τ x p j)→H j≠none∧ ∃b,ν i= .pointer (some ⟨b,0,none⟩)∧w.cell? ⟨b,cF p τ,none⟩=some (ν j)){id:Nat}{v:bh}(hv: ∀τ x p j,v≠ .gk τ x p j):
  ∀i τ x p j,bY H id (some v) i=some (.gk τ x p j)→bY H id (some v) j≠none∧ ∃b,ν i= .pointer (some ⟨b,0,none⟩)∧w.cell? ⟨b,cF p τ,none⟩=some (ν j):=by
 intro i τ x p j hi
 by_cases bX:i=id
 ·subst bX;rw[ax]at hi;cases hi;exact absurd rfl (hv _ _ _ _)
 ·rw[az _ _ bX]at hi
  obtain⟨h1,h2⟩:=h i τ x p j hi
  exact⟨xA h1,h2⟩
theorem Tr.gone{c:Ctx}{H:Nat→Option bh}{w:World}{M:Nat→Prop}{ν:Nat→Value}(h:Mem c H w M ν)(id:Nat):Tr c H w M ν (bY H id (some .gone)) w M ν:=by
 refine⟨⟨λi e he=> ?_,λi j e e' b pQ hi hm hj jT=> ?_,λi e b hi hm=> ?_,λi e l b hi=> ?_,JW h.gk (λ_ _ _ _=>by simp),h.sub,h.EP,h.frame,h.size,h.vG,h.os,h.tape,h.output⟩,.refl w M,⟨λi e he=> ?_,λ_ _=>rfl⟩⟩
 ·by_cases bf:i=id
  ·subst bf;rw[ax]at he;cases he;simp[ER]
  ·rw[az _ _ bf]at he;exact h.la i e he
 ·by_cases bf:i=id
  ·subst bf;rw[ax]at hi;cases hi;simp[bh.mut]at hm
  ·by_cases hjd:j=id
   ·subst hjd;rw[ax]at hj;cases hj;simp[bh.mut]at jT
   ·rw[az _ _ bf]at hi;rw[az _ _ hjd]at hj;exact h.zW i j e e' b pQ hi hm hj jT
 ·by_cases bf:i=id
  ·subst bf;rw[ax]at hi;cases hi;simp[bh.mut]at hm
  ·rw[az _ _ bf]at hi;exact h.new i e b hi hm
 ·by_cases bf:i=id
  ·subst bf;rw[ax]at hi;cases hi
  ·rw[az _ _ bf]at hi;exact h.yO i e l b hi
 ·by_cases bf:i=id
  ·subst bf;exact⟨.gone,ax _ _ _,by cases e<;>simp[bh.lq]⟩
  ·exact⟨e,by rw[az _ _ bf];exact he,.refl e⟩
theorem cell_of{w:World}{b:Nat}{cs:Array Value}{t:TypeId}{fz:Nat×Nat}(h:w.heap[b]? =some (.cells cs t fz))(o:Nat):w.cell? ⟨b,o,none⟩=cs[o]? :=by
 simp[World.cell?,h]
theorem At.of_block{w:World}{b:Nat}{cs:Array Value}{t:TypeId}{fz:Nat×Nat}(h:w.heap[b]? =some (.cells cs t fz))(o n:Nat):
  At w b o ((cs.toList.drop o).take n):=by
 intro j v hj
 rw[cell_of h]
 rw[lR]at hj
 split at hj
 ·rw[lS]at hj;simpa using hj
 ·cases hj
theorem lt_of_block{w:World}{b:Nat}{o:Obj}(h:w.heap[b]? =some o):b<w.heap.size:=(kH.1 h).1
theorem ER.cc{w w':World}{M M':Nat→Prop}{v:Value}(k:fa w M w' M'): ∀{e:bh},
  (e.mut→ ∀b,fM v=some b→w'.heap[b]? =w.heap[b]? ∧M' b)→ER w M v e→ER w' M' v e
 | .obj τ x,hm,h=>by
  simp only[ER]at h ⊢
  obtain⟨b,cs,t,rfl,hb,hM,hr⟩:=h
  obtain⟨h1,h2⟩:=hm trivial b rfl
  exact⟨b,cs,t,rfl,h1.trans hb,h2,hr.cc k⟩
 | .gk τ x p j,hm,h=>by
  simp only[ER]at h ⊢
  obtain⟨b,cs,t,sy,u,rfl,hb,hM,hr,h3⟩:=h
  obtain⟨h1,h2⟩:=hm trivial b rfl
  exact⟨b,cs,t,sy,u,rfl,h1.trans hb,h2,hr.cc k,h3⟩
 | .own e l,hm,h=>by
  simp only[ER]at h ⊢
  rcases h with h|⟨b,cs,t,cap,rfl,hb,hM,hc,hl,G9,hs,hr⟩
  ·exact .inl h
  ·obtain⟨h1,h2⟩:=hm trivial b (by simp[fM];omega)
   exact .inr ⟨b,cs,t,cap,rfl,h1.trans hb,h2,hc,hl,G9,hs,λi hi=>(hr i hi).cc k⟩
 | .oK e l,_,h=>by
  simp only[ER]at h ⊢
  exact⟨h.1.cc k,h.2⟩
 | .gone,_,_=>by simp[ER]
theorem ER.yf{w:World}{M:Nat→Prop}{v:Value}{e:bh}(h:ER w M v e)(hm:e.mut){b:Nat}(hb:fM v=some b):M b:=by
 cases e with
 |obj τ x=>simp only[ER]at h;obtain⟨b',cs,t,hv,eZ,hM,_⟩:=h;rw[hv]at hb;simp only[fM,iC]at hb;subst hb;exact hM
 |gk τ x p j=>simp only[ER]at h;obtain⟨b',cs,t,_,_,hv,eZ,hM,_⟩:=h;rw[hv]at hb;simp only[fM,iC]at hb;subst hb;exact hM
 |own e1 l1=>
  simp only[ER]at h
  rcases h with⟨_,a,hv⟩|⟨b',cs,t,cap,hv,eZ,hM,hc,_⟩
  ·rw[hv]at hb;cases a<;>simp[fM]at hb
  ·rw[hv]at hb;simp only[fM]at hb;split at hb
   ·cases hb
   ·simp only[iC]at hb;subst hb;exact hM
 |oK _ _=>simp[bh.mut]at hm
 |gone=>simp[bh.mut]at hm
theorem Tr.freeze{c:Ctx}{H:Nat→Option bh}{w:World}{M:Nat→Prop}{ν:Nat→Value}(h:Mem c H w M ν){id:Nat}{e:Ty}{l:List e.den}(bf:H id=some (.own e l)):
  ∃M',Tr c H w M ν (bY H id (some (.oK e l))) w M' ν∧V w M' (.slice e) (ν id) l∧ ∀b,M' b↔(M b∧fM (ν id)≠some b):=by
 have hk:fa w M w (λb=>M b∧fM (ν id)≠some b):=⟨aG _,λ_ _ _=>rfl,λ_ _ h=>h.1⟩
 have he:=h.la id _ bf
 have kX:Rd w (λb=>M b∧fM (ν id)≠some b) (.slice e) [ν id] l:=by
  simp only[ER]at he
  simp only[Rd]
  rcases he with⟨rfl,a,hv⟩|⟨b,cs,t,cap,hv,hb,hM,hc,hl,G9,hs,hr⟩
  ·exact⟨a,0,by rw[hv];rfl,aG _,λi hi=>absurd hi (by simp)⟩
  ·refine⟨_,cap,by rw[hv],hl,λi hi=>⟨b,0,rfl,lt_of_block hb,λhm=>hm.2 (by rw[hv];simp[fM];omega),_,?_,(hr i hi).cc hk⟩⟩
   rw[gq]
   exact At.of_block hb _ _
 refine⟨λb=>M b∧fM (ν id)≠some b,⟨⟨λi e' hi=> ?_,λi j e1 e2 b pQ hi hm hj jT=> ?_,λi e1 b hi hm=> ?_,λi e1 l1 b hi=> ?_,JW h.gk (λ_ _ _ _=>by simp),λb hb=>⟨h.sub b hb,λhm=>h.yO id e l b bf hm hb⟩,λb hb=>h.EP b hb.1,h.frame,h.size,h.vG,h.os,h.tape,h.output⟩,hk,⟨λi e' hi=> ?_,λ_ _=>rfl⟩⟩,?_,λ_=>Iff.rfl⟩
 ·by_cases bX:i=id
  ·subst bX;rw[ax]at hi;cases hi
   simp only[ER]
   refine⟨kX,?_⟩
   simp only[ER]at he
   rcases he with⟨rfl,a,hv⟩|⟨b,cs,t,cap,hv,_⟩
   ·exact .inl ⟨rfl,a,0,0,hv⟩
   ·exact .inr ⟨b,_,cap,hv⟩
  ·rw[az _ _ bX]at hi
   refine(h.la i e' hi).cc hk (λhm b hb=>⟨rfl,?_,?_⟩)
   ·exact(h.la i e' hi).yf hm hb
   ·exact h.zW i id e' (.own e l) b bX hi hm bf trivial hb
 ·by_cases bX:i=id
  ·subst bX;rw[ax]at hi;cases hi;simp[bh.mut]at hm
  ·by_cases Ha:j=id
   ·subst Ha;rw[ax]at hj;cases hj;simp[bh.mut]at jT
   ·rw[az _ _ bX]at hi;rw[az _ _ Ha]at hj;exact h.zW i j e1 e2 b pQ hi hm hj jT
 ·by_cases bX:i=id
  ·subst bX;rw[ax]at hi;cases hi;simp[bh.mut]at hm
  ·rw[az _ _ bX]at hi;exact h.new i e1 b hi hm
 ·by_cases bX:i=id
  ·subst bX;rw[ax]at hi;cases hi
  ·rw[az _ _ bX]at hi;exact h.yO i e1 l1 b hi
 ·by_cases bX:i=id
  ·subst bX;rw[bf]at hi;cases hi;exact⟨_,ax _ _ _,rfl,rfl⟩
  ·exact⟨e',by rw[az _ _ bX];exact hi,.refl e'⟩
 ·unfold V;rw[ah (by simp[Ty.isAgg])];exact kX
theorem Tr.fix{c:Ctx}{H:Nat→Option bh}{w:World}{M:Nat→Prop}{ν:Nat→Value}(h:Mem c H w M ν){id:Nat}{τ:Ty}{x:τ.den}(bf:H id=some (.obj τ x)):
  ∃M' b,Tr c H w M ν (bY H id (some .gone)) w M' ν∧ν id= .pointer (some ⟨b,0,none⟩)∧b<w.heap.size∧ ¬M' b∧ ∃cs,At w b 0 cs∧Rd w M' τ cs x:=by
 have he:=h.la id _ bf
 simp only[ER]at he
 obtain⟨b0,cs,t,hv,hb,hM,hr⟩:=he
 have wv:fM (ν id)=some b0:=by rw[hv];rfl
 have hk:fa w M w (λb=>M b∧b≠b0):=⟨aG _,λ_ _ _=>rfl,λ_ _ h=>h.1⟩
 have Ic: ¬c.M0 b0:=λhm=>(h.new id _ b0 bf trivial wv).elim (λhB=>by have:=h.vG.1 b0 hm;omega) (λhB=>h.vG.2 b0 hB hm)
 refine⟨λb=>M b∧b≠b0,b0,⟨⟨λi e' hi=> ?_,λi j e1 e2 b pQ hi hm hj jT=> ?_,λi e1 b hi hm=> ?_,λi e1 l1 b hi=> ?_,JW h.gk (λ_ _ _ _=>by simp),λb eZ=>⟨h.sub b eZ,λe=>Ic (e▸eZ)⟩,λb eZ=>h.EP b eZ.1,h.frame,h.size,h.vG,h.os,h.tape,h.output⟩,hk,⟨λi e' hi=> ?_,λ_ _=>rfl⟩⟩,hv,lt_of_block hb,λhm=>hm.2 rfl,cs.toList,?_,hr.cc hk⟩
 ·by_cases bX:i=id
  ·subst bX;rw[ax]at hi;cases hi;simp[ER]
  ·rw[az _ _ bX]at hi
   refine(h.la i e' hi).cc hk (λhm b eZ=>⟨rfl,?_,?_⟩)
   ·exact(h.la i e' hi).yf hm eZ
   ·intro e
    exact h.zW i id e' (.obj τ x) b bX hi hm bf trivial eZ (by rw[wv,e])
 ·by_cases bX:i=id
  ·subst bX;rw[ax]at hi;cases hi;simp[bh.mut]at hm
  ·by_cases Ha:j=id
   ·subst Ha;rw[ax]at hj;cases hj;simp[bh.mut]at jT
   ·rw[az _ _ bX]at hi;rw[az _ _ Ha]at hj;exact h.zW i j e1 e2 b pQ hi hm hj jT
 ·by_cases bX:i=id
  ·subst bX;rw[ax]at hi;cases hi;simp[bh.mut]at hm
  ·rw[az _ _ bX]at hi;exact h.new i e1 b hi hm
 ·by_cases bX:i=id
  ·subst bX;rw[ax]at hi;cases hi
  ·rw[az _ _ bX]at hi;exact h.yO i e1 l1 b hi
 ·by_cases bX:i=id
  ·subst bX;rw[bf]at hi;cases hi;exact⟨_,ax _ _ _,trivial⟩
  ·exact⟨e',by rw[az _ _ bX];exact hi,.refl e'⟩
 ·have:=At.of_block hb 0 cs.toList.length
  rwa [c0,iD]at this
end VM
end
section
namespace VM
open Go
theorem ES(w:World)(o:Obj):(w.alloc o).heap[w.heap.size]? =some o:=by
 show(w.heap.push o)[w.heap.size]? =some o
 simp
theorem qt(w:World)(o:Obj){i:Nat}(h:i<w.heap.size):(w.alloc o).heap[i]? =w.heap[i]? :=by
 show(w.heap.push o)[i]? =w.heap[i]?
 rw[Array.getElem?_push,ah (Nat.ne_of_lt h)]
theorem size_alloc(w:World)(o:Obj):(w.alloc o).heap.size=w.heap.size+1:=by
 show(w.heap.push o).size=_
 simp
def dg(ν:Nat→Value)(d:Nat)(v:Value):Nat→Value:=λi=>if i=d then v else ν i
theorem qX{c:Ctx}{H:Nat→Option bh}{w w':World}{M:Nat→Prop}{ν ν':Nat→Value}(h:Mem c H w M ν){H':Nat→Option bh}
  (hν: ∀i,H i≠none→ν' i=ν i) (hn: ∀i,H i≠none→H' i≠none)
  (hi: ∀i τ x p j,H' i=some (.gk τ x p j)→(H i=some (.gk τ x p j)∧ ∀b,ν i= .pointer (some ⟨b,0,none⟩)→w'.heap[b]? =w.heap[b]?)∨(H' j≠none∧ ∃b,ν' i= .pointer (some ⟨b,0,none⟩)∧w'.cell? ⟨b,cF p τ,none⟩=some (ν' j))):
  ∀i τ x p j,H' i=some (.gk τ x p j)→H' j≠none∧ ∃b,ν' i= .pointer (some ⟨b,0,none⟩)∧w'.cell? ⟨b,cF p τ,none⟩=some (ν' j):=by
 intro i τ x p j he
 rcases hi i τ x p j he with⟨h1,hb⟩|h1
 ·obtain⟨h2,b,h3,h4⟩:=h.gk i τ x p j h1
  refine⟨hn j h2,b,by rw[hν i (by rw[h1];simp)];exact h3,?_⟩
  rw[hν j h2,World.cell?_of_block (w:=w) (hb b h3)]
  exact h4
 ·exact h1
theorem xB{H:Nat→Option bh}{id:Nat}{v:bh}: ∀i,H i≠none→bY H id (some v) i≠none:=λ_ h=>xA h
theorem zX{H:Nat→Option bh}{id:Nat}{v:bh}(hv: ∀τ x p j,v≠ .gk τ x p j){i:Nat}{τ:Ty}{x:τ.den}{p:List Step}{j:Nat}(h:bY H id (some v) i=some (.gk τ x p j)):H i=some (.gk τ x p j):=by
 by_cases bX:i=id
 ·subst bX;rw[ax]at h;cases h;exact absurd rfl (hv _ _ _ _)
 ·rw[az _ _ bX]at h;exact h
theorem Tr.alloc{c:Ctx}{H:Nat→Option bh}{w:World}{M:Nat→Prop}{ν:Nat→Value}(h:Mem c H w M ν){id:Nat}(bf:H id=none)(o:Obj)(v:Value)(e:bh)(hm:e.mut)(Ie: ∀τ x p j,e≠ .gk τ x p j)
  (hb:fM v=none∨fM v=some w.heap.size) (S6:ER (w.alloc o) (λb=>M b∨b=w.heap.size) v e):
  Tr c H w M ν (bY H id (some e)) (w.alloc o) (λb=>M b∨b=w.heap.size) (dg ν id v):=by
 have hk:fa w M (w.alloc o) (λb=>M b∨b=w.heap.size):=
  ⟨by rw[size_alloc];omega,λb hb _=>qt w o hb,λb hb h'=>h'.resolve_right ω⟩
 have hν: ∀i,i≠id→dg ν id v i=ν i:=λi hi=>by simp[dg,hi]
 have Dm:dg ν id v id=v:=by simp[dg]
 have fb: ∀i e' b,H i=some e'→e'.mut→fM (ν i)=some b→b<w.heap.size:=λi e' b hi jT eZ=>h.EP b ((h.la i e' hi).yf jT eZ)
 refine⟨⟨λi e' hi=> ?_,λi j e1 e2 b pQ hi tG hj yB=> ?_,λi e1 b hi tG=> ?_,λi e1 l1 b hi=> ?_,qX h (λi hi=>hν i (λe=>hi (e▸bf))) xB (λi τ x p j hi=> .inl ⟨zX Ie hi,λb hb=>qt w o (fb i _ b (zX Ie hi) trivial (by rw[hb];rfl))⟩),λb hb=> .inl (h.sub b hb),λb eZ=> ?_,λb mA ui=> ?_,?_,h.vG,h.os,h.tape,h.output⟩,hk,⟨λi e' hi=> ?_,λi hi=> ?_⟩⟩
 ·by_cases bX:i=id
  ·subst bX;rw[ax]at hi;cases hi;rw[Dm];exact S6
  ·rw[az _ _ bX]at hi;rw[hν i bX]
   exact(h.la i e' hi).cc hk λjT b eZ=>⟨qt w o (fb i e' b hi jT eZ),.inl ((h.la i e' hi).yf jT eZ)⟩
 ·by_cases bX:i=id
  ·subst bX;rw[ax]at hi;cases hi;rw[Dm]
   intro mA
   have Ha:j≠i:=eJ pQ
   rw[az _ _ Ha]at hj;rw[hν j Ha]
   intro ui
   have:=fb j e2 b hj yB ui
   rcases hb with hb|hb<;>rw[hb]at mA<;>simp at mA
   omega
  ·rw[az _ _ bX]at hi;rw[hν i bX]
   by_cases Ha:j=id
   ·subst Ha;rw[Dm]
    intro mA ui
    have:=fb i e1 b hi tG mA
    rcases hb with hb|hb<;>rw[hb]at ui<;>simp at ui
    omega
   ·rw[az _ _ Ha]at hj;rw[hν j Ha];exact h.zW i j e1 e2 b pQ hi tG hj yB
 ·by_cases bX:i=id
  ·subst bX;rw[Dm]
   intro mA
   rcases hb with hb|hb<;>rw[hb]at mA<;>simp at mA
   subst mA;exact .inl h.size
  ·rw[az _ _ bX]at hi;rw[hν i bX];exact h.new i e1 b hi tG
 ·by_cases bX:i=id
  ·subst bX;rw[Dm]
   intro mA h0
   rcases hb with hb|hb<;>rw[hb]at mA<;>simp at mA
   have:=h.vG.1 b h0
   have:=h.size
   omega
  ·rw[az _ _ bX]at hi;rw[hν i bX];exact h.yO i e1 l1 b hi
 ·rw[size_alloc]
  rcases eZ with eZ|eZ
  ·have:=h.EP b eZ;omega
  ·omega
 ·rw[qt w o (mY mA h.size)];exact h.frame b mA ui
 ·rw[size_alloc];have:=h.size;omega
 ·by_cases bX:i=id
  ·subst bX;rw[bf]at hi;cases hi
  ·exact⟨e',by rw[az _ _ bX];exact hi,.refl e'⟩
 ·have bX:i≠id:=λe=>hi (e▸bf)
  exact hν i bX
theorem Tr.var{c:Ctx}{H:Nat→Option bh}{w:World}{M:Nat→Prop}{ν:Nat→Value}(h:Mem c H w M ν){id:Nat}(bf:H id=none)(t:TypeId){τ:Ty}{cs:Array Value}{x:τ.den}(hr:Rd w M τ cs.toList x):
  Tr c H w M ν (bY H id (some (.obj τ x))) (w.alloc (.cells cs t)) (λb=>M b∨b=w.heap.size) (dg ν id (.pointer (some ⟨w.heap.size,0,none⟩))):=by
 refine Tr.alloc h bf _ _ _ trivial (λ_ _ _ _=>by simp) (.inr rfl) ?_
 simp only[ER]
 have hk:fa w M (w.alloc (.cells cs t)) (λb=>M b∨b=w.heap.size):=
  ⟨by rw[size_alloc];omega,λb hb _=>qt w _ hb,λb hb h'=>h'.resolve_right ω⟩
 exact⟨w.heap.size,cs,t,rfl,ES w _,.inr rfl,hr.cc hk⟩
theorem Tr.row{c:Ctx}{H:Nat→Option bh}{w:World}{M:Nat→Prop}{ν:Nat→Value}(h:Mem c H w M ν){id:Nat}(bf:H id=none)(t:TypeId){e:Ty}{cs:Array Value}{l:List e.den}{cap:Nat}
  (hl:l.length≤cap) (hm:cap≤maxLen) (hs:cs.size=cap*e.size) (hr: ∀i (hi:i<l.length),Rd w M e ((cs.toList.drop (i*e.size)).take e.size) l[i]):
  Tr c H w M ν (bY H id (some (.own e l))) (w.alloc (.cells cs t)) (λb=>M b∨b=w.heap.size) (dg ν id (.slice (some ⟨w.heap.size,0,none⟩) l.length cap)):=by
 have hk:fa w M (w.alloc (.cells cs t)) (λb=>M b∨b=w.heap.size):=
  ⟨by rw[size_alloc];omega,λb hb _=>qt w _ hb,λb hb h'=>h'.resolve_right ω⟩
 refine Tr.alloc h bf _ _ _ trivial (λ_ _ _ _=>by simp) ?_ ?_
 ·simp only[fM];split
  ·exact .inl rfl
  ·exact .inr rfl
 ·simp only[ER]
  by_cases hc:cap=0
  ·subst hc
   have hl0:l=[]:=uk ω
   subst hl0
   exact .inl ⟨rfl,_,rfl⟩
  ·exact .inr ⟨w.heap.size,cs,t,cap,rfl,ES w _,.inr rfl,ω,hl,hm,hs,λi hi=>(hr i hi).cc hk⟩
theorem Tr.drew{c:Ctx}{H:Nat→Option bh}{w:World}{M:Nat→Prop}{ν:Nat→Value}(h:Mem c H w M ν):Tr c H w M ν H w.drew M ν:=by
 have hk:fa w M w.drew M:=⟨aG _,λ_ _ _=>rfl,λ_ _ h=>h⟩
 exact⟨⟨λi e he=>(h.la i e he).cc hk λhm b hb=>⟨rfl,(h.la i e he).yf hm hb⟩,h.zW,h.new,h.yO,h.gk,h.sub,h.EP,h.frame,h.size,h.vG,h.os,h.tape,h.output⟩,hk,.refl H ν⟩
theorem size_setRow(w:World)(g:Nat)(cs:Array Value):(w.setRow g cs).heap.size=w.heap.size:=by simp[World.setRow]
theorem Tr.write{c:Ctx}{H:Nat→Option bh}{w:World}{M:Nat→Prop}{ν:Nat→Value}(h:Mem c H w M ν){id:Nat}{e e':bh}(bf:H id=some e)(hm:e.mut)(jT:e'.mut)(hl:e.lq e')
  {b:Nat} (hb:fM (ν id)=some b) {cs new:Array Value} {t:TypeId} (hg:w.heap[b]? =some (.cells cs t (0,0)))
  (S6: ∀M',fa w M (w.setRow b new) M'→M' b→ER (w.setRow b new) M' (ν id) e')
  (sZ: ∀τ x p j,e'= .gk τ x p j→H j≠none∧ ∃b',ν id= .pointer (some ⟨b',0,none⟩)∧(w.setRow b new).cell? ⟨b',cF p τ,none⟩=some (ν j):=by intro _ _ _ _ h;cases h):
  Tr c H w M ν (bY H id (some e')) (w.setRow b new) M ν:=by
 have hMb:M b:=(h.la id e bf).yf hm hb
 have hk:fa w M (w.setRow b new) M:=
  ⟨by rw[size_setRow];exact aG _,λb' _ hm=>setRow_other w b b' new (λe=>hm (e▸hMb)),λ_ _ h=>h⟩
 refine⟨⟨λi e1 hi=> ?_,λi j e1 e2 b1 pQ hi tG hj yB=> ?_,λi e1 b1 hi tG=> ?_,λi e1 l1 b1 hi=> ?_,qX h (λ_ _=>rfl) xB (λi τ x p j hi=> ?_),h.sub,λb1 mA=>by rw[size_setRow];exact h.EP b1 mA,λb1 mA ui=> ?_,by rw[size_setRow];exact h.size,h.vG,h.os,h.tape,h.output⟩,hk,⟨λi e1 hi=> ?_,λi hi=>rfl⟩⟩
 ·by_cases bX:i=id
  ·subst bX;rw[ax]at hi;cases hi;exact S6 M hk hMb
  ·rw[az _ _ bX]at hi
   exact(h.la i e1 hi).cc hk λtG b1 mA=>⟨setRow_other w b b1 new (λe'=>h.zW i id e1 e b1 bX hi tG bf hm mA (e'▸hb)),(h.la i e1 hi).yf tG mA⟩
 ·by_cases bX:i=id
  ·subst bX;rw[ax]at hi;cases hi
   have Ha:j≠i:=eJ pQ
   rw[az _ _ Ha]at hj
   exact h.zW i j e e2 b1 pQ bf hm hj yB
  ·rw[az _ _ bX]at hi
   by_cases Ha:j=id
   ·subst Ha;exact h.zW i j e1 e b1 pQ hi tG bf hm
   ·rw[az _ _ Ha]at hj;exact h.zW i j e1 e2 b1 pQ hi tG hj yB
 ·by_cases bX:i=id
  ·subst bX;exact h.new i e b1 bf hm
  ·rw[az _ _ bX]at hi;exact h.new i e1 b1 hi tG
 ·by_cases bX:i=id
  ·subst bX;rw[ax]at hi;cases hi
   cases e with
   |own e0 l0=>exact h.yO i e0 l0 b1 bf
   |obj _ _=>simp[bh.lq]at hl
   |gk _ _ _ _=>simp[bh.lq]at hl
   |oK _ _=>simp[bh.mut]at hm
   |gone=>simp[bh.mut]at hm
  ·rw[az _ _ bX]at hi;exact h.yO i e1 l1 b1 hi
 ·by_cases bX:i=id
  ·subst bX;rw[ax]at hi;cases hi
   obtain⟨h1,h2⟩:=sZ _ _ _ _ rfl
   exact .inr ⟨xA h1,h2⟩
  ·rw[az _ _ bX]at hi
   exact .inl ⟨hi,λb1 mA=>setRow_other w b b1 new (λe1=>h.zW i id _ e b1 bX hi trivial bf hm (by rw[mA];rfl) (e1▸hb))⟩
 ·rw[setRow_other w b b1 new]
  ·exact h.frame b1 mA ui
  ·intro hbb;subst hbb
   rcases h.new id e b1 bf hm hb with h'|h'
   ·omega
   ·exact ui h'
 ·by_cases bX:i=id
  ·subst bX;rw[bf]at hi;cases hi;exact⟨e',ax _ _ _,hl⟩
  ·exact⟨e1,by rw[az _ _ bX];exact hi,.refl e1⟩
theorem Tr.rename{c:Ctx}{H:Nat→Option bh}{w:World}{M:Nat→Prop}{ν:Nat→Value}(h:Mem c H w M ν){j id:Nat}{e e':Ty}{l:List e.den}{l':List e'.den}(hj:H j=some (.own e l))(bf:H id=none)
  {v:Value} (hb:fM v=none∨fM v=fM (ν j)) (S6:ER w M v (.own e' l')):
  Tr c H w M ν (bY (bY H j (some .gone)) id (some (.own e' l'))) w M (dg ν id v):=by
 have jB:j≠id:=λe=>by rw[e,bf]at hj;cases hj
 have h1:=(Tr.gone h j).mem
 have pz:bY H j (some .gone) id=none:=by rw[az _ _ (eJ jB)];exact bf
 have hν: ∀i,i≠id→dg ν id v i=ν i:=λi hi=>by simp[dg,hi]
 have Dm:dg ν id v id=v:=by simp[dg]
 refine⟨⟨λi e1 hi=> ?_,λi k e1 e2 b1 pQ hi tG hk yB=> ?_,λi e1 b1 hi tG=> ?_,λi e1 l1 b1 hi=> ?_,qX h1 (λi hi=>hν i (λe=>hi (e▸pz))) xB (λi τ x p j hi=> .inl ⟨zX (λ_ _ _ _=>by simp) hi,λ_ _=>rfl⟩),h.sub,h.EP,h.frame,h.size,h.vG,h.os,h.tape,h.output⟩,.refl w M,⟨λi e1 hi=> ?_,λi hi=> ?_⟩⟩
 ·by_cases bX:i=id
  ·subst bX;rw[ax]at hi;cases hi;rw[Dm];exact S6
  ·rw[az _ _ bX]at hi;rw[hν i bX];exact h1.la i e1 hi
 ·by_cases bX:i=id
  ·subst bX;rw[ax]at hi;cases hi;rw[Dm]
   have Mo:k≠i:=eJ pQ
   rw[az _ _ Mo]at hk;rw[hν k Mo]
   intro mA
   rcases hb with hb|hb
   ·rw[hb]at mA;cases mA
   ·rw[hb]at mA
    by_cases hkj:k=j
    ·subst hkj;rw[ax]at hk;cases hk;simp[bh.mut]at yB
    ·rw[az _ _ hkj]at hk;exact h.zW j k _ e2 b1 (eJ hkj) hj trivial hk yB mA
  ·rw[az _ _ bX]at hi;rw[hν i bX]
   by_cases Mo:k=id
   ·subst Mo;rw[Dm]
    intro mA ui
    rcases hb with hb|hb
    ·rw[hb]at ui;cases ui
    ·rw[hb]at ui
     by_cases Hm:i=j
     ·subst Hm;rw[ax]at hi;cases hi;simp[bh.mut]at tG
     ·rw[az _ _ Hm]at hi;exact h.zW j i _ e1 b1 (eJ Hm) hj trivial hi tG ui mA
   ·rw[az _ _ Mo]at hk;rw[hν k Mo];exact h1.zW i k e1 e2 b1 pQ hi tG hk yB
 ·by_cases bX:i=id
  ·subst bX;rw[Dm];intro mA
   rcases hb with hb|hb
   ·rw[hb]at mA;cases mA
   ·rw[hb]at mA;exact h.new j _ b1 hj trivial mA
  ·rw[az _ _ bX]at hi;rw[hν i bX];exact h1.new i e1 b1 hi tG
 ·by_cases bX:i=id
  ·subst bX;rw[Dm];intro mA
   rcases hb with hb|hb
   ·rw[hb]at mA;cases mA
   ·rw[hb]at mA;exact h.yO j e l b1 hj mA
  ·rw[az _ _ bX]at hi;rw[hν i bX];exact h1.yO i e1 l1 b1 hi
 ·by_cases Hm:i=j
  ·subst Hm;exact⟨.gone,by rw[az _ _ jB,ax],by cases e1<;>simp[bh.lq]⟩
  ·have bX:i≠id:=λe=>by rw[e,bf]at hi;cases hi
   exact⟨e1,by rw[az _ _ bX,az _ _ Hm];exact hi,.refl e1⟩
 ·exact hν i (λe=>hi (e▸bf))
theorem Tr.Hn{c:Ctx}{H:Nat→Option bh}{w:World}{M:Nat→Prop}{ν:Nat→Value}(h:Mem c H w M ν){id:Nat}{e e':bh}(bf:H id=some e)(hm:e.mut)(jT:e'.mut)(hl:e.lq e')(vN: ∀e0 l0,e'≠ .own e0 l0)
  (S6:ER w M (ν id) e') (sZ: ∀τ x p j,e'= .gk τ x p j→H j≠none∧ ∃b',ν id= .pointer (some ⟨b',0,none⟩)∧w.cell? ⟨b',cF p τ,none⟩=some (ν j)):
  Tr c H w M ν (bY H id (some e')) w M ν:=by
 refine⟨⟨λi e1 hi=> ?_,λi j e1 e2 b1 pQ hi tG hj yB=> ?_,λi e1 b1 hi tG=> ?_,λi e1 l1 b1 hi=> ?_,qX h (λ_ _=>rfl) xB (λi τ x p j hi=> ?_),h.sub,h.EP,h.frame,h.size,h.vG,h.os,h.tape,h.output⟩,.refl w M,⟨λi e1 hi=> ?_,λi hi=>rfl⟩⟩
 ·by_cases bX:i=id
  ·subst bX;rw[ax]at hi;cases hi;exact S6
  ·rw[az _ _ bX]at hi;exact h.la i e1 hi
 ·by_cases bX:i=id
  ·subst bX;rw[ax]at hi;cases hi
   have Ha:j≠i:=eJ pQ
   rw[az _ _ Ha]at hj
   exact h.zW i j e e2 b1 pQ bf hm hj yB
  ·rw[az _ _ bX]at hi
   by_cases Ha:j=id
   ·subst Ha;exact h.zW i j e1 e b1 pQ hi tG bf hm
   ·rw[az _ _ Ha]at hj;exact h.zW i j e1 e2 b1 pQ hi tG hj yB
 ·by_cases bX:i=id
  ·subst bX;exact h.new i e b1 bf hm
  ·rw[az _ _ bX]at hi;exact h.new i e1 b1 hi tG
 ·by_cases bX:i=id
  ·subst bX;rw[ax]at hi;cases hi;exact absurd rfl (vN _ _)
  ·rw[az _ _ bX]at hi;exact h.yO i e1 l1 b1 hi
 ·by_cases bX:i=id
  ·subst bX;rw[ax]at hi;cases hi
   obtain⟨h1,h2⟩:=sZ _ _ _ _ rfl
   exact .inr ⟨xA h1,h2⟩
  ·rw[az _ _ bX]at hi;exact .inl ⟨hi,λ_ _=>rfl⟩
 ·by_cases bX:i=id
  ·subst bX;rw[bf]at hi;cases hi;exact⟨e',ax _ _ _,hl⟩
  ·exact⟨e1,by rw[az _ _ bX];exact hi,.refl e1⟩
theorem Tr.nothing{c:Ctx}{w:World}{M:Nat→Prop}{ν:Nat→Value}{H:Nat→Option bh}(h:Mem c H w M ν){id:Nat}(bf:H id=none)(e:Ty)(ad:Option Addr):
  Tr c H w M ν (bY H id (some (.own e []))) w M (dg ν id (.slice ad 0 0)):=by
 have hν: ∀i,i≠id→dg ν id (.slice ad 0 0) i=ν i:=λi hi=>by simp[dg,hi]
 have Dm:dg ν id (.slice ad 0 0) id= .slice ad 0 0:=by simp[dg]
 have hb:fM (.slice ad 0 0)=none:=by cases ad<;>simp[fM]
 refine⟨⟨λi e1 hi=> ?_,λi k e1 e2 b1 pQ hi tG hk yB=> ?_,λi e1 b1 hi tG=> ?_,λi e1 l1 b1 hi=> ?_,qX h (λi hi=>hν i (λe=>hi (e▸bf))) xB (λi τ x p j hi=> .inl ⟨zX (λ_ _ _ _=>by simp) hi,λ_ _=>rfl⟩),h.sub,h.EP,h.frame,h.size,h.vG,h.os,h.tape,h.output⟩,.refl w M,⟨λi e1 hi=> ?_,λi hi=>hν i (λe=>hi (e▸bf))⟩⟩
 ·by_cases bX:i=id
  ·subst bX;rw[ax]at hi;cases hi;rw[Dm];simp only[ER];exact .inl ⟨trivial,ad,rfl⟩
  ·rw[az _ _ bX]at hi;rw[hν i bX];exact h.la i e1 hi
 ·by_cases bX:i=id
  ·subst bX;rw[Dm,hb];intro h';cases h'
  ·rw[az _ _ bX]at hi;rw[hν i bX]
   by_cases Mo:k=id
   ·subst Mo;rw[Dm,hb];intro _ h';cases h'
   ·rw[az _ _ Mo]at hk;rw[hν k Mo];exact h.zW i k e1 e2 b1 pQ hi tG hk yB
 ·by_cases bX:i=id
  ·subst bX;rw[Dm,hb];intro h';cases h'
  ·rw[az _ _ bX]at hi;rw[hν i bX];exact h.new i e1 b1 hi tG
 ·by_cases bX:i=id
  ·subst bX;rw[Dm,hb];intro h';cases h'
  ·rw[az _ _ bX]at hi;rw[hν i bX];exact h.yO i e1 l1 b1 hi
 ·have bX:i≠id:=λe=>by rw[e,bf]at hi;cases hi
  exact⟨e1,by rw[az _ _ bX];exact hi,.refl e1⟩
end VM
end
section
namespace VM
open Go
theorem bC{α:Type}{υ τ:Ty}{y:υ.den}{k:τ.den→Option α}{r:α}(h:c8 υ τ y k=some r): ∃e:υ=τ,k (e▸y)=some r:=by
 unfold c8 at h
 split at h
 ·rename_i e;exact⟨e,h⟩
 ·cases h
theorem fZ{α:Type}{υ τ:Ty}{k:Option α}{r:α}(h:m8 υ τ k=some r):υ=τ∧k=some r:=by
 unfold m8 at h
 split at h
 ·rename_i e;exact⟨e,h⟩
 ·cases h
theorem V.slice{w:World}{M:Nat→Prop}{e:Ty}{v:Value}{l:List e.den}:V w M (.slice e) v l↔Rd w M (.slice e) [v] l:=by
 unfold V;rw[ah (by simp[Ty.isAgg])]
def Fz(H H1:Nat→Option bh):Prop:= ∀i,H1 i=H i∨ ∃e l,H i=some (.own e l)∧H1 i=some (.oK e l)
theorem Fz.refl(H:Nat→Option bh):Fz H H:=λ_=> .inl rfl
theorem Fz.none{H H1:Nat→Option bh}(h:Fz H H1){i:Nat}(hi:H i=none):H1 i=none:=by
 rcases h i with h'|⟨e,l,h',_⟩
 ·rw[h',hi]
 ·rw[hi]at h';cases h'
theorem Fz.obj{H H1:Nat→Option bh}(h:Fz H H1){i:Nat}{τ:Ty}{x:τ.den}(hi:H i=some (.obj τ x)):H1 i=some (.obj τ x):=by
 rcases h i with h'|⟨e,l,h',_⟩
 ·rw[h',hi]
 ·rw[hi]at h';cases h'
theorem Bq{H:Nat→Option bh}{id:Nat}{e:Option bh}(h:H id=e):bY H id e=H:=by
 funext i
 by_cases hi:i=id
 ·subst hi;rw[ax,h]
 ·rw[az _ _ hi]
theorem od{α:Type}{c:Ctx}{H H1:Nat→Option bh}{w:World}{M:Nat→Prop}{ν:Nat→Value}(hz:Fz H H1)(hm:Mem c H1 w M ν){a:bD}{v:Value}(hv:VR w M H1 ν a v){τ:Ty}
  {k:τ.den→List Nat→jb→Option α} {r:α} (h:mc true a H τ k=some r):
  ∃y rd ups M',k y rd ups=some r∧Tr c H1 w M ν (c5 H1 ups) w M' ν∧V w M' τ v y∧Fz H (c5 H1 ups)∧ ∀i,rd.contains i=false→c5 H1 ups i=H1 i:=by
 unfold mc at h
 split at h
 ·
  obtain⟨e,h⟩:=bC h
  subst e
  simp only[VR]at hv
  exact⟨_,[],[],M,h,.refl hm,hv,hz,λ_ _=>rfl⟩
 ·
  obtain⟨e,h⟩:=bC h
  subst e
  simp only[VR]at hv
  exact⟨_,[],[],M,h,.refl hm,hv.1,hz,λ_ _=>rfl⟩
 ·
  split at h
  ·rename_i e k' _
   simp only[VR]at hv
   obtain⟨a,rfl⟩:=hv
   refine⟨[],[],[],M,h,.refl hm,V.slice.2 ?_,hz,λ_ _=>rfl⟩
   simp only[Rd]
   exact⟨a,0,rfl,aG _,λi hi=>absurd hi (by simp)⟩
  ·cases h
 ·rename_i id
  simp only[VR]at hv
  obtain⟨_,rfl⟩:=hv
  split at h
  ·rename_i e l bf
   obtain⟨e',h⟩:=bC h
   subst e'
   rcases hz id with h1|⟨e1,l1,h1,h2⟩
   ·rw[bf]at h1
    obtain⟨M',ix,hV,_⟩:=Tr.freeze hm h1
    refine⟨_,_,_,M',h,ix,hV,λi=> ?_,λi hi=>az _ _ (by simpa using hi)⟩
    show bY H1 id (some (.oK e l)) i=H i∨_
    by_cases hi:i=id
    ·subst hi;exact .inr ⟨e,l,bf,ax _ _ _⟩
    ·rw[az _ _ hi]
     rcases hz i with h'|⟨e2,l2,h2,h3⟩
     ·exact .inl h'
     ·exact .inr ⟨e2,l2,h2,by show bY H1 id _ i=_;rw[az _ _ hi];exact h3⟩
   ·rw[bf]at h1;cases h1
    have:=hm.la id _ h2
    simp only[ER]at this
    refine⟨_,_,[(id,some (.oK e l))],M,h,?_,V.slice.2 this.1,?_,λi hi=>az _ _ (by simpa using hi)⟩
    ·show Tr c H1 w M ν (bY H1 id (some (.oK e l))) w M ν
     rw[Bq h2];exact .refl hm
    ·show Fz H (bY H1 id (some (.oK e l)))
     rw[Bq h2];exact hz
  ·rename_i e l bf
   obtain⟨e',h⟩:=bC h
   subst e'
   have h1:H1 id=some (.oK e l):=by
    rcases hz id with h1|⟨e1,l1,h1,h2⟩
    ·rw[h1,bf]
    ·rw[bf]at h1;cases h1
   have:=hm.la id _ h1
   simp only[ER]at this
   exact⟨_,_,_,M,h,.refl hm,V.slice.2 this.1,hz,λ_ _=>rfl⟩
  ·cases h
 ·cases h
def Src(w:World)(M:Nat→Prop)(e:Ty)(v:Value)(l:List e.den):Prop:=
 ∃a cap,v= .slice a l.length cap∧ ∀i (h:i<l.length),∃b off cs,a=some ⟨b,off,none⟩∧At w b (off+i*e.size) cs∧Rd w M e cs l[i]
theorem Src.Zj{w:World}{M:Nat→Prop}{e:Ty}{v:Value}{l:List e.den}(h:V w M (.slice e) v l):Src w M e v l:=by
 have h:=V.slice.1 h
 simp only[Rd,fi,eT]at h
 obtain⟨a,cap,rfl,_,hr⟩:=h
 refine⟨a,cap,rfl,λi hi=> ?_⟩
 obtain⟨b,off,ha,_,_,cs,p5,kX⟩:=hr i hi
 exact⟨b,off,cs,ha,p5,kX⟩
theorem Cp{α:Type}{c:Ctx}{H:Nat→Option bh}{w:World}{M:Nat→Prop}{ν:Nat→Value}(hm:Mem c H w M ν){a:bD}{v:Value}(hv:VR w M H ν a v){e:Ty}
  {k:List e.den→List Nat→jb→Option α} {r:α} (h:mc false a H (.slice e) k=some r):
  ∃y rd,k y rd []=some r∧Src w M e v y:=by
 unfold mc at h
 split at h
 ·obtain⟨e',h⟩:=bC h
  subst e'
  simp only[VR]at hv
  exact⟨_,[],h,.Zj hv⟩
 ·obtain⟨e',h⟩:=bC h
  subst e'
  simp only[VR]at hv
  exact⟨_,[],h,.Zj hv.1⟩
 ·have h:k [] [] []=some r:=h
  simp only[VR]at hv
  obtain⟨a,rfl⟩:=hv
  exact⟨[],[],h,a,0,rfl,λi hi=>absurd hi (by simp)⟩
 ·rename_i id
  simp only[VR]at hv
  obtain⟨_,rfl⟩:=hv
  split at h
  ·rename_i e1 l bf
   obtain⟨e',h⟩:=bC h
   cases e'
   refine⟨_,_,h,?_⟩
   have:=hm.la id _ bf
   simp only[ER]at this
   rcases this with⟨rfl,a,hv⟩|⟨b,cs,t,cap,hv,hb,hM,hc,hl,G9,hs,hr⟩
   ·exact⟨a,0,hv,λi hi=>absurd hi (by simp)⟩
   ·refine⟨_,cap,hv,λi hi=>⟨b,0,_,rfl,?_,hr i hi⟩⟩
    rw[gq]
    exact At.of_block hb _ _
  ·rename_i e1 l bf
   obtain⟨e',h⟩:=bC h
   cases e'
   have:=hm.la id _ bf
   simp only[ER]at this
   exact⟨_,_,h,.Zj (V.slice.2 this.1)⟩
  ·cases h
 ·cases h
theorem Src.cells{w:World}{M:Nat→Prop}{e:Ty}{v:Value}{l:List e.den}(h:Src w M e v l)(jB:l≠[]):
  ∃b off cap news,v= .slice (some ⟨b,off,none⟩) l.length cap∧news.length=l.length*e.size∧At w b off news∧
   (∀i (hi:i<l.length),Rd w M e ((news.drop (i*e.size)).take e.size) l[i])∧ ∀u∈news,u.oneCell'=true:=by
 obtain⟨a,cap,rfl,hr⟩:=h
 have h0:0<l.length:=su.2 jB
 obtain⟨b,off,_,ha,_⟩:=hr 0 h0
 subst ha
 have key: ∀n,n≤l.length→ ∃news:List Value,news.length=n*e.size∧At w b off news∧
   (∀i (hi:i<l.length),i<n→Rd w M e ((news.drop (i*e.size)).take e.size) l[i])∧ ∀u∈news,u.oneCell'=true:=by
  intro n
  induction n with
  |zero=>exact λ_=>⟨[],by simp,λj v hj=>by simp at hj,λi _ hi=>ω,by simp⟩
  |succ n ih=>
   intro hn
   obtain⟨news,hl,p5,kX,agV⟩:=ih ω
   obtain⟨b',axV,cs,ha,aqR,S7⟩:=hr n ω
   cases ha
   refine⟨news++cs,by rw[aS,hl,S7.length,eu,jX],At.append.2 ⟨p5,by rw[hl];exact aqR⟩,λi hi lW=> ?_,λu hu=> ?_⟩
   ·by_cases fb:i<n
    ·have h1:(i+1)*e.size≤n*e.size:=lO _ fb
     rw[eu,jX]at h1
     rw[zu ω,zt (by rw[dS];omega)]
     exact kX i hi fb
    ·obtain rfl:i=n:=ω
     rw[m2 hl,jH (by rw[S7.length];exact aG _)]
     exact S7
   ·rcases ba.1 hu with hu|hu
    ·exact agV u hu
    ·exact S7.oL u hu
 obtain⟨news,hl,p5,kX,agV⟩:=key l.length (aG _)
 exact⟨b,off,cap,news,rfl,hl,p5,λi hi=>kX i hi hi,agV⟩
structure Core(c:Ctx)(σ:St)(tm:Array Value)(w:World)(M:Nat→Prop)(ν:Nat→Value):Prop where
 mem:Mem c σ.H w M ν
 tmp: ∀i,VR w M σ.H ν (σ.T i) (tm.getD i undef)
theorem S8(w:World)(M:Nat→Prop)(H:Nat→Option bh)(ν:Nat→Value)(v:Value):VR w M H ν (cvA v) v:=by
 unfold cvA
 split<;>simp[VR,V,Ty.isAgg,Rd]
theorem Core.op{c:Ctx}{σ:St}{tm:Array Value}{w:World}{M:Nat→Prop}{ν:Nat→Value}(h:Core c σ tm w M ν)(ds:List Deferred)(x:Operand):
  VR w M σ.H ν (σ.ρ x) (({tmps:=tm,defers:=ds}:Act).eval x):=by
 cases x with
 |tmp t=>exact h.tmp t
 |const v=>exact S8 w M σ.H ν v
 |global g=>simp[St.ρ,VR]
 |func f=>simp[St.ρ,VR,jt,Act.eval]
def alu(P:Program)(t:TypeId)(τ:Ty):Prop:=
 ∀(w:World) (M:Nat→Prop) (u v:Value) (x y:τ.den) (b:BinOp) (xo yo:Operand),V w M τ u x→V w M τ v y→
  (eqGuard b t xo yo u v).run P w= .ok () w∧(binOp .eql t u v).run P w= .ok (.bool (uw τ x y)) w∧(binOp .neq t u v).run P w= .ok (.bool (!uw τ x y)) w
structure EnvTy(P:Program)(E:Env):Prop where
 ty: ∀t τ,E.ty t=some τ→kL P τ t
 eq: ∀t τ,E.ty t=some τ→τ.comparable=true→τ.isAgg=true→alu P t τ
end VM
end
section
namespace VM
open Go
variable{P:Program}
theorem zY{o:Oper}{ρ:Operand→Value}{t:TypeId}{i:TypeInfo}{z:Value}(ho:o.op= .alloc t)(hi:P.info? t=some i)(hz:i.zero=some z)(w:World):
  (execOp ρ o).run P w= .ok (.value (.pointer (some ⟨w.heap.size,0,none⟩))) (w.alloc (.cells z.cells t)):=by
 simp[execOp,ho,Instr.alloc,zeroValue,typeInfo,hi,hz,newVar,newRow]
theorem ET{o:Oper}{ρ:Operand→Value}{t:TypeId}{x:Operand}(ho:o.op= .box t x)(w:World):
  (execOp ρ o).run P w= .ok (.value (.pointer (some ⟨w.heap.size,0,none⟩))) (w.alloc (.cells (ρ x).cells t)):=by
 simp[execOp,ho,Instr.box,newVar,newRow]
theorem tH{τ:Ty}{t:TypeId}(h:kL P τ t)(w:World):(isAgg t).run P w= .ok τ.isAgg w:=by
 unfold kL at h
 cases τ<;>simp only[fT]at h
 ·simp[isAgg,run_underlying h.2,Ty.isAgg]
 ·simp[isAgg,run_underlying h.2,Ty.isAgg]
 ·simp[isAgg,run_underlying h.2,Ty.isAgg]
 ·obtain⟨_,e',h',_⟩:=h;simp[isAgg,run_underlying h',Ty.isAgg]
 ·obtain⟨_,e',h',_⟩:=h;simp[isAgg,run_underlying h',Ty.isAgg]
 ·obtain⟨_,e',f,h',_⟩:=h;simp[isAgg,run_underlying h',Ty.isAgg]
 ·obtain⟨_,e',h',_⟩:=h;simp[isAgg,run_underlying h',Ty.isAgg]
theorem de{τ:Ty}{t:TypeId}(h:kL P τ t)(w:World):(Go.sizeOf t).run P w= .ok τ.size w:=by
 obtain⟨i,hi,hs,_⟩:=h.base
 simp[Go.sizeOf,typeInfo,hi,hs]
theorem Cr{w:World}{M:Nat→Prop}{τ:Ty}{t:TypeId}(h:kL P τ t){b off:Nat}{cs:List Value}{x:τ.den}(ha:At w b off cs)(hr:Rd w M τ cs x):
  (loadVar t ⟨b,off,none⟩).run P w= .ok (cM τ cs) w:=by
 have hl:(loadCells ⟨b,off,none⟩ τ.size).run P w= .ok cs.toArray w:=by
  rw[←hr.length]
  exact run_loadCells_list w _ cs λj v hj=>by rw[show(⟨b,off,none⟩:Addr).add j=⟨b,off+j,none⟩from by unfold Addr.add;split<;>simp_all];exact ha j v hj
 unfold cM
 by_cases Mp:τ.isAgg=true
 ·simp[loadVar,tH h,Mp,de h,hl]
 ·obtain⟨v,rfl,hc⟩:=hr.scalar (by simpa using Mp)
  have h0:=ha 0 v rfl
  simp only[m5]at h0
  simp[loadVar,tH h,Mp,load,Sem.run,h0]
theorem wx{o:Oper}{ρ:Operand→Value}{t:TypeId}{x:Operand}(ho:o.op= .load t x){w:World}{M:Nat→Prop}{τ:Ty}(h:kL P τ t){b off:Nat}{cs:List Value}{y:τ.den}
  (hx:ρ x= .pointer (some ⟨b,off,none⟩)) (ha:At w b off cs) (hr:Rd w M τ cs y):
  (execOp ρ o).run P w= .ok (.value (cM τ cs)) w:=by
 simp[execOp,ho,hx,Instr.loadAt,Instr.sureAddr,Cr h ha hr]
theorem nf{o:Oper}{ρ:Operand→Value}{t:TypeId}{x y:Operand}(ho:o.op= .store t x y){w:World}{τ:Ty}(h:kL P τ t){b off:Nat}{cur:Array Value}{te:TypeId}
  (hx:ρ x= .pointer (some ⟨b,off,none⟩)) (hg:w.heap[b]? =some (.cells cur te (0,0))) (hs:(ρ y).cells.size=τ.size) (hf:off+τ.size≤cur.size) (h1: ∀v∈(ρ y).cells.toList,v.oneCell'=true):
  (execOp ρ o).run P w= .ok .skip (w.setRow b (cur.toList.take off++(ρ y).cells.toList++cur.toList.drop (off+(ρ y).cells.toList.length)).toArray):=by
 have Hb:=run_storeCells_at (P:=P) b off te (ρ y).cells.toList 0 cur w hg (by simp[hs];omega) h1
 simp only[m5]at Hb
 simp[execOp,ho,hx,Instr.storeAt,Instr.sureAddr,storeVar,de h,hs,Hb]
theorem tI{o:Oper}{ρ:Operand→Value}{t:TypeId}{x:Operand}{n:Nat}(ho:o.op= .fieldAddr t x n){w:World}{fs:Array Field}{f:Field}{b off:Nat}{υ:Ty}
  (hu:P.underlying t=some (.struct fs)) (hf:fs[n]? =some f) (hl:kL P υ f.type) (hz:υ.size≠0) (hx:ρ x= .pointer (some ⟨b,off,none⟩)):
  ∃a,(execOp ρ o).run P w= .ok (.value a) w∧a= .pointer (some ⟨b,off+f.offset,none⟩):=by
 refine⟨_,?_,rfl⟩
 simp[execOp,ho,hx,Instr.fieldAt,Instr.sureAddr,run_underlying hu,hf,fieldPlace,Addr.add_lit,de hl,hz]
theorem zZ{τ:Ty}{t:TypeId}(h:kL P τ t){w:World}{M:Nat→Prop}{cs:Array Value}{off:Nat}{x:τ.den}(hr:Rd w M τ ((cs.toList.drop off).take τ.size) x):
  (part t cs off).run P w= .ok (cM τ ((cs.toList.drop off).take τ.size)) w:=by
 have hl:=hr.length
 unfold cM
 by_cases Mp:τ.isAgg=true
 ·simp only[part,Sem.run_bind,tH h,Result.andThen_ok,Mp,gD,de h]
  simp
  rw[cf,dS,bI]at hl
  apply js
  simp only[Array.toList_extract,List.extract_eq_take_drop,zw]
 ·obtain⟨v,hv,hc⟩:=hr.scalar (by simpa using Mp)
  rw[hv]
  have h0:cs[off]? =some v:=by
   have:=fj (λl=>l[0]?) hv
   simp only[lR,lS]at this
   split at this
   ·simpa using this
   ·simp at this
  simp[part,tH h,Mp,h0]
theorem JX{o:Oper}{ρ:Operand→Value}{t:TypeId}{x:Operand}{n:Nat}(ho:o.op= .field t x n){w:World}{M:Nat→Prop}{fs:Array Field}{f:Field}{cs:Array Value}{υ:Ty}{y:υ.den}
  (hu:P.underlying t=some (.struct fs)) (hf:fs[n]? =some f) (hl:kL P υ f.type) (hx:ρ x= .agg cs) (hr:Rd w M υ ((cs.toList.drop f.offset).take υ.size) y):
  (execOp ρ o).run P w= .ok (.value (cM υ ((cs.toList.drop f.offset).take υ.size))) w:=by
 simp[execOp,ho,hx,Instr.field,run_underlying hu,hf,asAgg,zZ hl hr]
theorem ld{o:Oper}{ρ:Operand→Value}{t e:TypeId}{x i:Operand}(ho:o.op= .indexAddr t x i){w:World}{τe:Ty}{b off len cap:Nat}{k:IntKind}{n:Int}
  (hu:P.underlying t=some (.slice e)) (he:kL P τe e) (hx:ρ x= .slice (some ⟨b,off,none⟩) len cap) (hi:ρ i= .int k n) (h0:0≤n) (h1:n<(len:Int)):
  (execOp ρ o).run P w= .ok (.value (.pointer (some ⟨b,off+n.toNat*τe.size,none⟩))) w:=by
 simp[execOp,ho,hx,hi,Instr.indexAt,asIntOf,run_underlying hu,h0,h1,de he,Addr.add_lit]
theorem sA{o:Oper}{ρ:Operand→Value}{t e:TypeId}{x i:Operand}(ho:o.op= .indexAddr t x i){w:World}{τe:Ty}{b off len:Nat}{k:IntKind}{n:Int}
  (hu:P.underlying t=some (.array len e)) (he:kL P τe e) (hx:ρ x= .pointer (some ⟨b,off,none⟩)) (hi:ρ i= .int k n) (h0:0≤n) (h1:n<(len:Int)):
  (execOp ρ o).run P w= .ok (.value (.pointer (some ⟨b,off+n.toNat*τe.size,none⟩))) w:=by
 simp[execOp,ho,hx,hi,Instr.indexAt,Instr.sureAddr,asIntOf,run_underlying hu,h0,h1,de he,Addr.add_lit]
theorem Ho{o:Oper}{ρ:Operand→Value}{t e:TypeId}{x i:Operand}(ho:o.op= .index t x i){w:World}{M:Nat→Prop}{τe:Ty}{len:Nat}{k:IntKind}{n:Int}{cs:Array Value}{y:τe.den}
  (hu:P.underlying t=some (.array len e)) (he:kL P τe e) (hx:ρ x= .agg cs) (hi:ρ i= .int k n) (h0:0≤n) (h1:n<(len:Int)) (hr:Rd w M τe ((cs.toList.drop (n.toNat*τe.size)).take τe.size) y):
  (execOp ρ o).run P w= .ok (.value (cM τe ((cs.toList.drop (n.toNat*τe.size)).take τe.size))) w:=by
 simp[execOp,ho,hx,hi,Instr.index,asIntOf,run_underlying hu,h0,h1,de he,zZ he hr]
theorem EU{o:Oper}{ρ:Operand→Value}{x:Operand}{n:Nat}(ho:o.op= .extract x n){w:World}{us:List Value}{v:Value}(hx:ρ x= .tuple us.toArray)(hv:us[n]? =some v):
  (execOp ρ o).run P w= .ok (.value v) w:=by
 simp[execOp,ho,hx,Instr.extract,hv]
theorem Mq{o:Oper}{ρ:Operand→Value}{x y z:Operand}(ho:o.op= .pick x y z){w:World}{b:Bool}(hx:ρ x= .bool b):
  (execOp ρ o).run P w= .ok (.value (if b then ρ y else ρ z)) w:=by
 simp[execOp,ho,hx,asBool]
theorem vo{o:Oper}{ρ:Operand→Value}{x:Operand}(ho:o.op= .nilCheck x){w:World}{a:Addr}(hx:ρ x= .pointer (some a)):
  (execOp ρ o).run P w= .ok (.value (.pointer (some a))) w:=by
 simp[execOp,ho,hx]
theorem Dn{o:Oper}{ρ:Operand→Value}{f:FuncId}{first caps:Array Operand}(ho:o.op= .makeFunc (.func f) first caps)(hf:first= #[]){w:World}:
  (execOp ρ o).run P w= .ok (.value (.func (.func f) #[] (caps.map ρ))) w:=by
 subst hf
 simp[execOp,ho,Instr.makeFunc]
theorem EV{o:Oper}{ρ:Operand→Value}{s d:TypeId}{x:Operand}(ho:o.op= .convert s d x){w:World}{k k':IntKind}{n:Int}(hs:(P.underlying s).isSome=true)(hd:P.underlying d=some (.int k))(hx:ρ x= .int k' n):
  (execOp ρ o).run P w= .ok (.value (.int k (k.wrap n))) w:=by
 obtain⟨ds,hs⟩:=Option.isSome_iff_exists.1 hs
 simp[execOp,ho,hx,convert,run_underlying hs,run_underlying hd,Conv.intToInt]
theorem wy{o:Oper}{ρ:Operand→Value}{u:UnOp}{t:TypeId}{x:Operand}(ho:o.op= .unOp u t x){w:World}{v:Value}(h:(Op.unary u (ρ x)).run P w= .ok v w):
  (execOp ρ o).run P w= .ok (.value v) w:=by
 simp[execOp,ho,h]
theorem p6{o:Oper}{ρ:Operand→Value}{b:BinOp}{t t':TypeId}{x y:Operand}(ho:o.op= .binOp b t x y t'){w:World}{v:Value}
  (hg:(eqGuard b t x y (ρ x) (ρ y)).run P w= .ok () w) (h:(binOp b t (ρ x) (ρ y)).run P w= .ok v w):
  (execOp ρ o).run P w= .ok (.value v) w:=by
 simp[execOp,ho,hg,h]
theorem pA{b:BinOp}{t:TypeId}{x y:Operand}{k k':IntKind}{m n:Int}(w:World):(eqGuard b t x y (.int k m) (.int k' n)).run P w= .ok () w:=by
 cases b<;>simp[eqGuard]
theorem Br{b:BinOp}{t:TypeId}{x y:Operand}{m n:Bool}(w:World):(eqGuard b t x y (.bool m) (.bool n)).run P w= .ok () w:=by
 cases b<;>simp[eqGuard]
theorem Dp{b:BinOp}{t:TypeId}{x y:Operand}{m n:ByteArray}(w:World):(eqGuard b t x y (.string m) (.string n)).run P w= .ok () w:=by
 cases b<;>simp[eqGuard]
theorem qY{o:Oper}{ρ:Operand→Value}{b:Builtin}{args:Array Operand}{ts:Array TypeId}(ho:o.op= .call {callee:= .builtin b,args,argTypes:=ts}){w:World}:
  ∃cs,(execOp ρ o).run P w=(builtin b ts o.type cs (args.map ρ)).run P w:=by
 refine⟨args.map fun| .const _=>true|_=>false,?_⟩
 simp[execOp,ho,resolve,invoke]
 rfl
end VM
end
section
namespace VM
open Go
theorem sB{α:Type}{r:α}: ∀{τ:Ty} {x:τ.den} {n:Nat} {m:(υ:Ty)→υ.den→(υ.den→Option α)→Option α} {k:τ.den→Option α},m7 τ x n m k=some r→
  ∃υ y o k',Dl τ x n υ y o∧m υ y k'=some r∧ ∀z r',k' z=some r'→ ∃x',k x'=some r'∧Dl τ x' n υ z o∧
   ∀(w:World) (M:Nat→Prop) cs cs',Rd w M τ cs x→Rd w M υ cs' z→Rd w M τ (fc cs o cs') x'
 | .pair a b,x,0,m,k,h=>by
  refine⟨a,x.1,0,_,.here x,h,λz r' hz=>⟨(z,x.2),hz,.here (a:=a) (b:=b) (z,x.2),λw M cs cs' hr eO=> ?_⟩⟩
  simp only[Rd]at hr ⊢
  obtain⟨c1,c2,rfl,h1,h2⟩:=hr
  refine⟨cs',c2,?_,eO,h2⟩
  rw[zV (by rw[eO.length,h1.length];omega)]
  congr 1
  unfold fc
  rw[gq,eO.length,←h1.length];simp
 | .pair a b,x,n+1,m,k,h=>by
  obtain⟨υ,y,o,k',hf,hm,hk⟩:=sB (τ:=b) (x:=x.2) (n:=n) (m:=m) (k:=λz=>k (x.1,z)) h
  refine⟨υ,y,_,k',.there x hf,hm,λz r' hz=> ?_⟩
  obtain⟨x',o0,Bo,kX⟩:=hk z r' hz
  refine⟨(x.1,x'),o0,.there (a:=a) (b:=b) (x.1,x') Bo,λw M cs cs' hr eO=> ?_⟩
  simp only[Rd]at hr ⊢
  obtain⟨c1,c2,rfl,h1,h2⟩:=hr
  refine⟨c1,_,?_,h1,kX w M c2 cs' h2 eO⟩
  rw[←h1.length,xz]
 | .int _,_,_,_,_,h| .bool,_,_,_,_,h| .str,_,_,_,_,h| .slice _,_,_,_,_,h| .unit,_,_,_,_,h| .arr _ _,_,_,_,_,h=>by simp[m7]at h
def qZ(w:World)(M:Nat→Prop)(e:Ty)(cs:List Value)(l:List e.den):Prop:=
 ∀i (h:i<l.length),Rd w M e ((cs.drop (i*e.size)).take e.size) l[i]
theorem eB{i n s:Nat}(h:i<n):i*s+s≤n*s:=by
 have:(i+1)*s≤n*s:=lO _ h
 rw[eu,jX]at this;exact this
theorem qZ.set{w:World}{M:Nat→Prop}{e:Ty}{cs:List Value}{l:List e.den}(h:qZ w M e cs l)(hl:l.length*e.size≤cs.length){i:Nat}(hi:i<l.length){cs':List Value}{y:e.den}(hr:Rd w M e cs' y):
  qZ w M e (fc cs (i*e.size) cs') (l.set i y):=by
 have hlen:=hr.length
 intro j hj
 rw[bO]at hj
 have h1:=eB (s:=e.size) hi
 have h2:=eB (s:=e.size) hj
 by_cases pQ:j=i
 ·subst pQ
  have:=agT (a:=cs) (o:=j*e.size) (new:=cs') ω
  rw[hlen]at this
  rw[this,List.getElem_set_self];exact hr
 ·rw[JV (by
   rcases Nat.lt_or_gt_of_ne pQ with fb|fb
   ·have:=eB (s:=e.size) fb;left;omega
   ·have:=eB (s:=e.size) fb;right;omega) ω,List.getElem_set_ne (eJ pQ)]
  exact h j hj
theorem qZ.append{w:World}{M:Nat→Prop}{e:Ty}{c1 c2:List Value}{l1 l2:List e.den}(h1:qZ w M e c1 l1)(hl:c1.length=l1.length*e.size)(h2:qZ w M e c2 l2):qZ w M e (c1++c2) (l1++l2):=by
 intro i hi
 by_cases fb:i<l1.length
 ·have:=eB (s:=e.size) fb
  rw[zu ω,zt (by rw[dS];omega),Ek fb]
  exact h1 i fb
 ·rw[aS]at hi
  obtain⟨k,rfl⟩: ∃k,i=l1.length+k:=⟨i-l1.length,ω⟩
  rw[eu,←hl,←jI,m2 rfl,LS ω]
  simp only[zw]
  exact h2 k ω
theorem qZ.take{w:World}{M:Nat→Prop}{e:Ty}{cs:List Value}{l:List e.den}(h:qZ w M e cs l){n:Nat}(hn:l.length*e.size≤n):qZ w M e (cs.take n) l:=by
 intro i hi
 have:=eB (s:=e.size) hi
 rw[qL,qM,iE ω]
 exact h i hi
theorem qZ.more{w:World}{M:Nat→Prop}{e:Ty}{cs cs':List Value}{l:List e.den}(h:qZ w M e cs l)(hl:l.length*e.size≤cs.length):qZ w M e (cs++cs') l:=by
 intro i hi
 have:=eB (s:=e.size) hi
 rw[zu ω,zt (by rw[dS];omega)]
 exact h i hi
theorem qZ.cc{w w':World}{M M':Nat→Prop}(k:fa w M w' M'){e:Ty}{cs:List Value}{l:List e.den}(h:qZ w M e cs l):qZ w' M' e cs l:=λi hi=>(h i hi).cc k
theorem Rd.arr{w:World}{M:Nat→Prop}{n:Nat}{e:Ty}{cs:List Value}{x:(Ty.arr n e).den}:Rd w M (.arr n e) cs x↔List.length x=n∧cs.length=n*e.size∧qZ w M e cs x:=by
 constructor
 ·intro h
  have hl:=h.length
  have h':=h
  simp only[Rd]at h'
  refine⟨h'.1,hl,λi hi=> ?_⟩
  have:=h.idx (i:=i) ω
  rw[kM x i e.zero hi]at this
  exact this
 ·rintro⟨hn,hl,hr⟩
  simp only[Rd]
  refine⟨hn,(List.range n).map λi=>(cs.drop (i*e.size)).take e.size,by simp,?_,λi hi nc=> ?_⟩
  ·
   have key: ∀m (l:List Value),l.length=m*e.size→l=((List.range m).map λi=>(l.drop (i*e.size)).take e.size).flatten:=by
    intro m
    induction m with
    |zero=>intro l hl;simpa using hl
    |succ m ih=>
     intro l hl
     have h1:(l.take (m*e.size)).length=m*e.size:=by rw[cf,hl,eu];omega
     have h2:=ih (l.take (m*e.size)) h1
     rw[EB,cZ,List.flatten_append]
     have h3:((List.range m).map λi=>(l.drop (i*e.size)).take e.size)=(List.range m).map λi=>((l.take (m*e.size)).drop (i*e.size)).take e.size:=by
      apply qG
      intro i hi
      have:=eB (s:=e.size) (qN.1 hi)
      rw[qL,qM,iE ω]
     rw[h3,←h2]
     simp only[bW,je,zC,List.flatten_nil,ck]
     rw[jH (l:=l.drop (m*e.size)) (by rw[dS,hl,eu];omega),gl]
   exact key n cs hl
  ·simp only[List.getElem_map,Et]
   exact hr i hi
theorem o4{α:Type}{r:α}{υ:Ty}{y:υ.den}: ∀{p:List Step} {τ:Ty} {x:τ.den} {k:τ.den→Option α},vC υ y p τ x k=some r→
  ∃z,k z=some r∧Hl p τ=υ∧(ye p τ→cF p τ+υ.size≤τ.size)∧ ∀(w:World) (M:Nat→Prop) cs cs',ye p τ→Rd w M τ cs x→Rd w M υ cs' y→Rd w M τ (fc cs (cF p τ) cs') z
 |[],τ,x,k,h=>by
  obtain⟨e,h⟩:=bC (h:c8 υ τ y k=some r)
  subst e
  refine⟨y,h,rfl,λ_=>by simp[cF],λw M cs cs' _ hr eO=> ?_⟩
  unfold fc
  rw[show cF [] υ=0 from rfl,gq,eO.length,←hr.length]
  simpa using eO
 | .kG n::p,τ,x,k,h=>by
  obtain⟨υ',y',o,k',hf,hm,hk⟩:=sB (h:m7 τ x n _ k=some r)
  obtain⟨z',Dq,ht,Hc,kX⟩:=o4 (p:=p) (τ:=υ') (x:=y') (k:=k') hm
  obtain⟨x',o0,Bo,S7⟩:=hk z' r Dq
  obtain⟨h1,h2⟩:=hf.eq
  subst h1 h2
  refine⟨x',o0,ht,λhi=>by have:=hf.bound;have:=Hc hi;simp only[cF];omega,λw M cs cs' hi hr eO=> ?_⟩
  have Hc:=Hc hi
  have h3:=kX w M _ cs' hi (hf.rd hr) eO
  have h4:=S7 w M cs _ hr h3
  have hb:=hf.bound
  have Zk:=hr.length
  have hl2:=eO.length
  have YY:=h3.length
  have lW:cF p (vF τ n)+cs'.length≤((cs.drop (rV τ n)).take (vF τ n).size).length:=by
   rw[cf,dS];omega
  have:fc cs (rV τ n) (fc ((cs.drop (rV τ n)).take (vF τ n).size) (cF p (vF τ n)) cs')=fc cs (rV τ n+cF p (vF τ n)) cs':=by
   have e1:cs=cs.take (rV τ n)++(((cs.drop (rV τ n)).take (vF τ n).size)++cs.drop (rV τ n+(vF τ n).size)):=by
    rw[←jI,gl,gl]
   have fb:(cs.take (rV τ n)).length=rV τ n:=by rw[cf];omega
   conv=>rhs;rw[e1]
   rw[show rV τ n+cF p (vF τ n)=(cs.take (rV τ n)).length+cF p (vF τ n)from by rw[fb],xz,zV lW]
   generalize fc ((cs.drop (rV τ n)).take (vF τ n).size) (cF p (vF τ n)) cs'=m at YY ⊢
   unfold fc
   rw[YY,bu]
  simp only[cF]
  rw[←this]
  exact h4
 | .idx i::p,τ,x,k,h=>by
  cases τ with
  |arr n e=>
   obtain⟨z',Dq,ht,Hc,kX⟩:=o4 (p:=p) (τ:=e) (x:=List.getD x i e.zero) (k:=λz=>k (List.set x i z)) h
   refine⟨_,Dq,ht,λhi=>by
    obtain⟨⟨n',e',he,lW⟩,nc⟩:=hi
    cases he
    have:=Hc nc
    have hm:=eB (s:=e.size) lW
    simp only[cF,elT,Ty.size];omega,λw M cs cs' hi hr eO=> ?_⟩
   obtain⟨⟨n',e',he,lW⟩,nc⟩:=hi
   cases he
   have h3:=kX w M _ cs' nc (hr.idx lW) eO
   obtain⟨hn,Zk,Ig⟩:=Rd.arr.1 hr
   have hm:=eB (s:=e.size) lW
   have h4:=Ig.set (by rw[Zk,hn];exact aG _) (i:=i) ω h3
   have hl2:=eO.length
   have YY:=h3.length
   have hch:((cs.drop (i*e.size)).take e.size).length=e.size:=by rw[cf,dS];omega
   have Hc:=Hc nc
   have aqS:cF p e+cs'.length≤((cs.drop (i*e.size)).take e.size).length:=ω
   have:fc cs (i*e.size) (fc ((cs.drop (i*e.size)).take e.size) (cF p e) cs')=fc cs (i*e.size+cF p e) cs':=by
    have e1:cs=cs.take (i*e.size)++(((cs.drop (i*e.size)).take e.size)++cs.drop (i*e.size+e.size)):=by
     rw[←jI,gl,gl]
    have fb:(cs.take (i*e.size)).length=i*e.size:=by rw[cf];omega
    conv=>rhs;rw[e1]
    rw[show i*e.size+cF p e=(cs.take (i*e.size)).length+cF p e from by rw[fb],xz,zV aqS]
    generalize fc ((cs.drop (i*e.size)).take e.size) (cF p e) cs'=m at YY ⊢
    unfold fc
    rw[YY,bu]
   simp only[cF,elT]
   rw[←this]
   refine Rd.arr.2 ⟨by rw[bO];exact hn,?_,h4⟩
   rw[gF (by rw[YY];omega)];exact Zk
  |_=>simp[vC,DT]at h
end VM
end
