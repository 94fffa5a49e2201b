/- A part of the proof of WindEmpty of layer 21: a machine that reads a function of the program as an equation between values. -/
import Derived.Test.YtecmobijochjkaaGreatVm0
import Derived.WalkLawsBesides
import Derived.Great.BuildSlice
import Derived.Laws.Tables
set_option linter.all false
section
namespace VM
open Go
structure Ctx where
 B:Nat
 w0:World
 M0:Nat→Prop
 may:Nat→Prop
 arg:Nat→Value
structure Mem(c:Ctx)(H:Nat→Option bg)(w:World)(M:Nat→Prop)(ν:Nat→Value):Prop where
 kZ: ∀i e,H i=some e→ER w M (ν i) e
 zQ: ∀i j e e' b,i≠j→H i=some e→e.mut→H j=some e'→e'.mut→fL (ν i)=some b→fL (ν j)≠some b
 new: ∀i e b,H i=some e→e.mut→fL (ν i)=some b→c.B≤b∨c.may b
 yD: ∀i e l b,H i=some (.own e l)→fL (ν i)=some b→ ¬c.M0 b
 gh: ∀i τ x p j,H i=some (.gh τ x p j)→H j≠none∧ ∃b,ν i= .pointer (some ⟨b,0,none⟩)∧w.cell? ⟨b,cE p τ,none⟩=some (ν j)
 sub: ∀b,c.M0 b→M b
 EH: ∀b,M b→b<w.heap.size
 frame: ∀b,b<c.B→ ¬c.may b→w.heap[b]? =c.w0.heap[b]?
 size:c.B≤w.heap.size
 vu:(∀b,c.M0 b→b<c.B)∧ ∀b,c.may b→ ¬c.M0 b
 os:w.os=c.w0.os
 tape:w.tape=c.w0.tape
 output:w.output=c.w0.output
structure Tr(c:Ctx)(H:Nat→Option bg)(w:World)(M:Nat→Prop)(ν:Nat→Value)(H':Nat→Option bg)(w':World)(M':Nat→Prop)(ν':Nat→Value):Prop where
 mem:Mem c H' w' M' ν'
 ca:e8 w M w' M'
 goes:sR H ν H' ν'
theorem bg.ll.trans{a b d:bg}(h:a.ll b)(k:b.ll d):a.ll d:=by
 cases a<;>cases b<;>cases d<;>simp only[bg.ll]at h k ⊢ <;>first
  |exact h.trans k
  |exact⟨h.1.trans k.1,h.2.trans k.2⟩
theorem sR.trans{H H' H'':Nat→Option bg}{ν ν' ν'':Nat→Value}(h:sR H ν H' ν')(k:sR H' ν' H'' ν''):sR H ν H'' ν'':=by
 refine⟨λi e he=> ?_,λi hi=> ?_⟩
 ·obtain⟨e',wc,l⟩:=h.kZ i e he
  obtain⟨e'',aqN,l'⟩:=k.kZ i e' wc
  exact⟨e'',aqN,l.trans l'⟩
 ·obtain⟨e,he⟩:=Ec.1 hi
  obtain⟨e',wc,_⟩:=h.kZ i e he
  rw[k.head i (by simp[wc]),h.head i hi]
theorem Tr.trans{c:Ctx}{H H' H'':Nat→Option bg}{w w' w'':World}{M M' PK:Nat→Prop}{ν ν' ν'':Nat→Value}
  (h:Tr c H w M ν H' w' M' ν') (k:Tr c H' w' M' ν' H'' w'' PK ν''):Tr c H w M ν H'' w'' PK ν'':=
 ⟨k.mem,h.ca.trans k.ca,h.goes.trans k.goes⟩
theorem Tr.refl{c:Ctx}{H:Nat→Option bg}{w:World}{M:Nat→Prop}{ν:Nat→Value}(h:Mem c H w M ν):Tr c H w M ν H w M ν:=
 ⟨h,.refl w M,.refl H ν⟩
theorem ax(H:Nat→Option bg)(d:Nat)(v:Option bg):bZ H d v d=v:=by simp[bZ]
theorem az(H:Nat→Option bg){d i:Nat}(v:Option bg)(h:i≠d):bZ H d v i=H i:=by
 have:Nat.beq i d=false:=by rw[←mV,vT];exact h
 simp[bZ,this]
def c4(H:Nat→Option bg):iX→(Nat→Option bg)
 |[]=>H
 |u::r=>c4 (bZ H u.1 u.2) r
theorem P0(ups:iX): ∀σ:St,(σ.vU ups).H=c4 σ.H ups:=by
 induction ups with
 |nil=>intro σ;rfl
 |cons u r ih=>intro σ;exact ih _
theorem P1(ups:iX): ∀σ:St,(σ.vU ups).T=σ.T:=by
 induction ups with
 |nil=>intro σ;rfl
 |cons u r ih=>intro σ;exact ih _
theorem gr(a b:iX): ∀H,c4 H (a++b)=c4 (c4 H a) b:=by
 induction a with
 |nil=>intro H;rfl
 |cons u r ih=>intro H;exact ih _
theorem xq{H:Nat→Option bg}{id j:Nat}{v:bg}(h:H j≠none):bZ H id (some v) j≠none:=by
 by_cases hj:j=id
 ·subst hj;rw[ax];simp
 ·rw[az _ _ hj];exact h
theorem JT{H:Nat→Option bg}{w:World}{ν:Nat→Value}(h: ∀i τ x p j,H i=some (.gh τ x p j)→H j≠none∧ ∃b,ν i= .pointer (some ⟨b,0,none⟩)∧w.cell? ⟨b,cE p τ,none⟩=some (ν j)){id:Nat}{v:bg}(hv: ∀τ x p j,v≠ .gh τ x p j):
  ∀i τ x p j,bZ H id (some v) i=some (.gh τ x p j)→bZ H id (some v) j≠none∧ ∃b,ν i= .pointer (some ⟨b,0,none⟩)∧w.cell? ⟨b,cE p τ,none⟩=some (ν j):=by
 intro i τ x p j hi
 by_cases bY:i=id
 ·subst bY;rw[ax]at hi;cases hi;exact absurd rfl (hv _ _ _ _)
 ·rw[az _ _ bY]at hi
  obtain⟨h1,h2⟩:=h i τ x p j hi
  exact⟨xq h1,h2⟩
theorem Tr.gone{c:Ctx}{H:Nat→Option bg}{w:World}{M:Nat→Prop}{ν:Nat→Value}(h:Mem c H w M ν)(id:Nat):Tr c H w M ν (bZ H id (some .gone)) w M ν:=by
 refine⟨⟨λi e he=> ?_,λi j e e' b pN hi hm hj jQ=> ?_,λi e b hi hm=> ?_,λi e l b hi=> ?_,JT h.gh (λ_ _ _ _=>by simp),h.sub,h.EH,h.frame,h.size,h.vu,h.os,h.tape,h.output⟩,.refl w M,⟨λi e he=> ?_,λ_ _=>rfl⟩⟩
 ·by_cases bf:i=id
  ·subst bf;rw[ax]at he;cases he;simp[ER]
  ·rw[az _ _ bf]at he;exact h.kZ i e he
 ·by_cases bf:i=id
  ·subst bf;rw[ax]at hi;cases hi;simp[bg.mut]at hm
  ·by_cases hjd:j=id
   ·subst hjd;rw[ax]at hj;cases hj;simp[bg.mut]at jQ
   ·rw[az _ _ bf]at hi;rw[az _ _ hjd]at hj;exact h.zQ i j e e' b pN hi hm hj jQ
 ·by_cases bf:i=id
  ·subst bf;rw[ax]at hi;cases hi;simp[bg.mut]at hm
  ·rw[az _ _ bf]at hi;exact h.new i e b hi hm
 ·by_cases bf:i=id
  ·subst bf;rw[ax]at hi;cases hi
  ·rw[az _ _ bf]at hi;exact h.yD i e l b hi
 ·by_cases bf:i=id
  ·subst bf;exact⟨.gone,ax _ _ _,by cases e<;>simp[bg.ll]⟩
  ·exact⟨e,by rw[az _ _ bf];exact he,.refl e⟩
theorem cell_of{w:World}{b:Nat}{cs:Array Value}{t:TypeId}{fz:Nat×Nat}(h:w.heap[b]? =some (.cells cs t fz))(o:Nat):w.cell? ⟨b,o,none⟩=cs[o]? :=by
 simp[World.cell?,h]
theorem At.of_block{w:World}{b:Nat}{cs:Array Value}{t:TypeId}{fz:Nat×Nat}(h:w.heap[b]? =some (.cells cs t fz))(o n:Nat):
  At w b o ((cs.toList.drop o).take n):=by
 intro j v hj
 rw[cell_of h]
 rw[lO]at hj
 split at hj
 ·rw[lP]at hj;simpa using hj
 ·cases hj
theorem lt_of_block{w:World}{b:Nat}{o:Obj}(h:w.heap[b]? =some o):b<w.heap.size:=(kD.1 h).1
theorem ER.ca{w w':World}{M M':Nat→Prop}{v:Value}(k:e8 w M w' M'): ∀{e:bg},
  (e.mut→ ∀b,fL v=some b→w'.heap[b]? =w.heap[b]? ∧M' b)→ER w M v e→ER w' M' v e
 | .obj τ x,hm,h=>by
  simp only[ER]at h ⊢
  obtain⟨b,cs,t,rfl,hb,hM,hr⟩:=h
  obtain⟨h1,h2⟩:=hm trivial b rfl
  exact⟨b,cs,t,rfl,h1.trans hb,h2,hr.ca k⟩
 | .gh τ x p j,hm,h=>by
  simp only[ER]at h ⊢
  obtain⟨b,cs,t,sm,u,rfl,hb,hM,hr,h3⟩:=h
  obtain⟨h1,h2⟩:=hm trivial b rfl
  exact⟨b,cs,t,sm,u,rfl,h1.trans hb,h2,hr.ca k,h3⟩
 | .own e l,hm,h=>by
  simp only[ER]at h ⊢
  rcases h with h|⟨b,cs,t,cap,rfl,hb,hM,hc,hl,G1,hs,hr⟩
  ·exact .inl h
  ·obtain⟨h1,h2⟩:=hm trivial b (by simp[fL];omega)
   exact .inr ⟨b,cs,t,cap,rfl,h1.trans hb,h2,hc,hl,G1,hs,λi hi=>(hr i hi).ca k⟩
 | .oH e l,_,h=>by
  simp only[ER]at h ⊢
  exact⟨h.1.ca k,h.2⟩
 | .gone,_,_=>by simp[ER]
theorem ER.xV{w:World}{M:Nat→Prop}{v:Value}{e:bg}(h:ER w M v e)(hm:e.mut){b:Nat}(hb:fL v=some b):M b:=by
 cases e with
 |obj τ x=>simp only[ER]at h;obtain⟨b',cs,t,hv,eY,hM,_⟩:=h;rw[hv]at hb;simp only[fL,iw]at hb;subst hb;exact hM
 |gh τ x p j=>simp only[ER]at h;obtain⟨b',cs,t,_,_,hv,eY,hM,_⟩:=h;rw[hv]at hb;simp only[fL,iw]at hb;subst hb;exact hM
 |own e1 l1=>
  simp only[ER]at h
  rcases h with⟨_,a,hv⟩|⟨b',cs,t,cap,hv,eY,hM,hc,_⟩
  ·rw[hv]at hb;cases a<;>simp[fL]at hb
  ·rw[hv]at hb;simp only[fL]at hb;split at hb
   ·cases hb
   ·simp only[iw]at hb;subst hb;exact hM
 |oH _ _=>simp[bg.mut]at hm
 |gone=>simp[bg.mut]at hm
theorem Tr.freeze{c:Ctx}{H:Nat→Option bg}{w:World}{M:Nat→Prop}{ν:Nat→Value}(h:Mem c H w M ν){id:Nat}{e:Ty}{l:List e.den}(bf:H id=some (.own e l)):
  ∃M',Tr c H w M ν (bZ H id (some (.oH e l))) w M' ν∧V w M' (.slice e) (ν id) l∧ ∀b,M' b↔(M b∧fL (ν id)≠some b):=by
 have hk:e8 w M w (λb=>M b∧fL (ν id)≠some b):=⟨aG _,λ_ _ _=>rfl,λ_ _ h=>h.1⟩
 have he:=h.kZ id _ bf
 have kV:Rd w (λb=>M b∧fL (ν id)≠some b) (.slice e) [ν id] l:=by
  simp only[ER]at he
  simp only[Rd]
  rcases he with⟨rfl,a,hv⟩|⟨b,cs,t,cap,hv,hb,hM,hc,hl,G1,hs,hr⟩
  ·exact⟨a,0,by rw[hv];rfl,aG _,λi hi=>absurd hi (by simp)⟩
  ·refine⟨_,cap,by rw[hv],hl,λi hi=>⟨b,0,rfl,lt_of_block hb,λhm=>hm.2 (by rw[hv];simp[fL];omega),_,?_,(hr i hi).ca hk⟩⟩
   rw[gk]
   exact At.of_block hb _ _
 refine⟨λb=>M b∧fL (ν id)≠some b,⟨⟨λi e' hi=> ?_,λi j e1 e2 b pN hi hm hj jQ=> ?_,λi e1 b hi hm=> ?_,λi e1 l1 b hi=> ?_,JT h.gh (λ_ _ _ _=>by simp),λb hb=>⟨h.sub b hb,λhm=>h.yD id e l b bf hm hb⟩,λb hb=>h.EH b hb.1,h.frame,h.size,h.vu,h.os,h.tape,h.output⟩,hk,⟨λi e' hi=> ?_,λ_ _=>rfl⟩⟩,?_,λ_=>Iff.rfl⟩
 ·by_cases bY:i=id
  ·subst bY;rw[ax]at hi;cases hi
   simp only[ER]
   refine⟨kV,?_⟩
   simp only[ER]at he
   rcases he with⟨rfl,a,hv⟩|⟨b,cs,t,cap,hv,_⟩
   ·exact .inl ⟨rfl,a,0,0,hv⟩
   ·exact .inr ⟨b,_,cap,hv⟩
  ·rw[az _ _ bY]at hi
   refine(h.kZ i e' hi).ca hk (λhm b hb=>⟨rfl,?_,?_⟩)
   ·exact(h.kZ i e' hi).xV hm hb
   ·exact h.zQ i id e' (.own e l) b bY hi hm bf trivial hb
 ·by_cases bY:i=id
  ·subst bY;rw[ax]at hi;cases hi;simp[bg.mut]at hm
  ·by_cases G4:j=id
   ·subst G4;rw[ax]at hj;cases hj;simp[bg.mut]at jQ
   ·rw[az _ _ bY]at hi;rw[az _ _ G4]at hj;exact h.zQ i j e1 e2 b pN hi hm hj jQ
 ·by_cases bY:i=id
  ·subst bY;rw[ax]at hi;cases hi;simp[bg.mut]at hm
  ·rw[az _ _ bY]at hi;exact h.new i e1 b hi hm
 ·by_cases bY:i=id
  ·subst bY;rw[ax]at hi;cases hi
  ·rw[az _ _ bY]at hi;exact h.yD i e1 l1 b hi
 ·by_cases bY:i=id
  ·subst bY;rw[bf]at hi;cases hi;exact⟨_,ax _ _ _,rfl,rfl⟩
  ·exact⟨e',by rw[az _ _ bY];exact hi,.refl e'⟩
 ·unfold V;rw[ah (by simp[Ty.isAgg])];exact kV
theorem Tr.fix{c:Ctx}{H:Nat→Option bg}{w:World}{M:Nat→Prop}{ν:Nat→Value}(h:Mem c H w M ν){id:Nat}{τ:Ty}{x:τ.den}(bf:H id=some (.obj τ x)):
  ∃M' b,Tr c H w M ν (bZ H id (some .gone)) w M' ν∧ν id= .pointer (some ⟨b,0,none⟩)∧b<w.heap.size∧ ¬M' b∧ ∃cs,At w b 0 cs∧Rd w M' τ cs x:=by
 have he:=h.kZ id _ bf
 simp only[ER]at he
 obtain⟨b0,cs,t,hv,hb,hM,hr⟩:=he
 have we:fL (ν id)=some b0:=by rw[hv];rfl
 have hk:e8 w M w (λb=>M b∧b≠b0):=⟨aG _,λ_ _ _=>rfl,λ_ _ h=>h.1⟩
 have H7: ¬c.M0 b0:=λhm=>(h.new id _ b0 bf trivial we).elim (λhB=>by have:=h.vu.1 b0 hm;omega) (λhB=>h.vu.2 b0 hB hm)
 refine⟨λb=>M b∧b≠b0,b0,⟨⟨λi e' hi=> ?_,λi j e1 e2 b pN hi hm hj jQ=> ?_,λi e1 b hi hm=> ?_,λi e1 l1 b hi=> ?_,JT h.gh (λ_ _ _ _=>by simp),λb eY=>⟨h.sub b eY,λe=>H7 (e▸eY)⟩,λb eY=>h.EH b eY.1,h.frame,h.size,h.vu,h.os,h.tape,h.output⟩,hk,⟨λi e' hi=> ?_,λ_ _=>rfl⟩⟩,hv,lt_of_block hb,λhm=>hm.2 rfl,cs.toList,?_,hr.ca hk⟩
 ·by_cases bY:i=id
  ·subst bY;rw[ax]at hi;cases hi;simp[ER]
  ·rw[az _ _ bY]at hi
   refine(h.kZ i e' hi).ca hk (λhm b eY=>⟨rfl,?_,?_⟩)
   ·exact(h.kZ i e' hi).xV hm eY
   ·intro e
    exact h.zQ i id e' (.obj τ x) b bY hi hm bf trivial eY (by rw[we,e])
 ·by_cases bY:i=id
  ·subst bY;rw[ax]at hi;cases hi;simp[bg.mut]at hm
  ·by_cases G4:j=id
   ·subst G4;rw[ax]at hj;cases hj;simp[bg.mut]at jQ
   ·rw[az _ _ bY]at hi;rw[az _ _ G4]at hj;exact h.zQ i j e1 e2 b pN hi hm hj jQ
 ·by_cases bY:i=id
  ·subst bY;rw[ax]at hi;cases hi;simp[bg.mut]at hm
  ·rw[az _ _ bY]at hi;exact h.new i e1 b hi hm
 ·by_cases bY:i=id
  ·subst bY;rw[ax]at hi;cases hi
  ·rw[az _ _ bY]at hi;exact h.yD i e1 l1 b hi
 ·by_cases bY:i=id
  ·subst bY;rw[bf]at hi;cases hi;exact⟨_,ax _ _ _,trivial⟩
  ·exact⟨e',by rw[az _ _ bY];exact hi,.refl e'⟩
 ·have:=At.of_block hb 0 cs.toList.length
  rwa [cZ,ix]at this
end VM
end
section
namespace VM
open Go
theorem EI(w:World)(o:Obj):(w.alloc o).heap[w.heap.size]? =some o:=by
 show(w.heap.push o)[w.heap.size]? =some o
 simp
theorem qm(w:World)(o:Obj){i:Nat}(h:i<w.heap.size):(w.alloc o).heap[i]? =w.heap[i]? :=by
 show(w.heap.push o)[i]? =w.heap[i]?
 rw[Array.getElem?_push,ah (Nat.ne_of_lt h)]
theorem size_alloc(w:World)(o:Obj):(w.alloc o).heap.size=w.heap.size+1:=by
 show(w.heap.push o).size=_
 simp
def dg(ν:Nat→Value)(d:Nat)(v:Value):Nat→Value:=λi=>if i=d then v else ν i
theorem qQ{c:Ctx}{H:Nat→Option bg}{w w':World}{M:Nat→Prop}{ν ν':Nat→Value}(h:Mem c H w M ν){H':Nat→Option bg}
  (hν: ∀i,H i≠none→ν' i=ν i) (hn: ∀i,H i≠none→H' i≠none)
  (hi: ∀i τ x p j,H' i=some (.gh τ x p j)→(H i=some (.gh τ x p j)∧ ∀b,ν i= .pointer (some ⟨b,0,none⟩)→w'.heap[b]? =w.heap[b]?)∨(H' j≠none∧ ∃b,ν' i= .pointer (some ⟨b,0,none⟩)∧w'.cell? ⟨b,cE p τ,none⟩=some (ν' j))):
  ∀i τ x p j,H' i=some (.gh τ x p j)→H' j≠none∧ ∃b,ν' i= .pointer (some ⟨b,0,none⟩)∧w'.cell? ⟨b,cE p τ,none⟩=some (ν' j):=by
 intro i τ x p j he
 rcases hi i τ x p j he with⟨h1,hb⟩|h1
 ·obtain⟨h2,b,h3,h4⟩:=h.gh i τ x p j h1
  refine⟨hn j h2,b,by rw[hν i (by rw[h1];simp)];exact h3,?_⟩
  rw[hν j h2,World.cell?_of_block (w:=w) (hb b h3)]
  exact h4
 ·exact h1
theorem xr{H:Nat→Option bg}{id:Nat}{v:bg}: ∀i,H i≠none→bZ H id (some v) i≠none:=λ_ h=>xq h
theorem zS{H:Nat→Option bg}{id:Nat}{v:bg}(hv: ∀τ x p j,v≠ .gh τ x p j){i:Nat}{τ:Ty}{x:τ.den}{p:List Step}{j:Nat}(h:bZ H id (some v) i=some (.gh τ x p j)):H i=some (.gh τ x p j):=by
 by_cases bY:i=id
 ·subst bY;rw[ax]at h;cases h;exact absurd rfl (hv _ _ _ _)
 ·rw[az _ _ bY]at h;exact h
theorem Tr.alloc{c:Ctx}{H:Nat→Option bg}{w:World}{M:Nat→Prop}{ν:Nat→Value}(h:Mem c H w M ν){id:Nat}(bf:H id=none)(o:Obj)(v:Value)(e:bg)(hm:e.mut)(H8: ∀τ x p j,e≠ .gh τ x p j)
  (hb:fL v=none∨fL v=some w.heap.size) (S1:ER (w.alloc o) (λb=>M b∨b=w.heap.size) v e):
  Tr c H w M ν (bZ H id (some e)) (w.alloc o) (λb=>M b∨b=w.heap.size) (dg ν id v):=by
 have hk:e8 w M (w.alloc o) (λb=>M b∨b=w.heap.size):=
  ⟨by rw[size_alloc];omega,λb hb _=>qm w o hb,λb hb h'=>h'.resolve_right ω⟩
 have hν: ∀i,i≠id→dg ν id v i=ν i:=λi hi=>by simp[dg,hi]
 have Dg:dg ν id v id=v:=by simp[dg]
 have e9: ∀i e' b,H i=some e'→e'.mut→fL (ν i)=some b→b<w.heap.size:=λi e' b hi jQ eY=>h.EH b ((h.kZ i e' hi).xV jQ eY)
 refine⟨⟨λi e' hi=> ?_,λi j e1 e2 b pN hi tq hj yn=> ?_,λi e1 b hi tq=> ?_,λi e1 l1 b hi=> ?_,qQ h (λi hi=>hν i (λe=>hi (e▸bf))) xr (λi τ x p j hi=> .inl ⟨zS H8 hi,λb hb=>qm w o (e9 i _ b (zS H8 hi) trivial (by rw[hb];rfl))⟩),λb hb=> .inl (h.sub b hb),λb eY=> ?_,λb mw tU=> ?_,?_,h.vu,h.os,h.tape,h.output⟩,hk,⟨λi e' hi=> ?_,λi hi=> ?_⟩⟩
 ·by_cases bY:i=id
  ·subst bY;rw[ax]at hi;cases hi;rw[Dg];exact S1
  ·rw[az _ _ bY]at hi;rw[hν i bY]
   exact(h.kZ i e' hi).ca hk λjQ b eY=>⟨qm w o (e9 i e' b hi jQ eY),.inl ((h.kZ i e' hi).xV jQ eY)⟩
 ·by_cases bY:i=id
  ·subst bY;rw[ax]at hi;cases hi;rw[Dg]
   intro mw
   have G4:j≠i:=eH pN
   rw[az _ _ G4]at hj;rw[hν j G4]
   intro tU
   have:=e9 j e2 b hj yn tU
   rcases hb with hb|hb<;>rw[hb]at mw<;>simp at mw
   omega
  ·rw[az _ _ bY]at hi;rw[hν i bY]
   by_cases G4:j=id
   ·subst G4;rw[Dg]
    intro mw tU
    have:=e9 i e1 b hi tq mw
    rcases hb with hb|hb<;>rw[hb]at tU<;>simp at tU
    omega
   ·rw[az _ _ G4]at hj;rw[hν j G4];exact h.zQ i j e1 e2 b pN hi tq hj yn
 ·by_cases bY:i=id
  ·subst bY;rw[Dg]
   intro mw
   rcases hb with hb|hb<;>rw[hb]at mw<;>simp at mw
   subst mw;exact .inl h.size
  ·rw[az _ _ bY]at hi;rw[hν i bY];exact h.new i e1 b hi tq
 ·by_cases bY:i=id
  ·subst bY;rw[Dg]
   intro mw h0
   rcases hb with hb|hb<;>rw[hb]at mw<;>simp at mw
   have:=h.vu.1 b h0
   have:=h.size
   omega
  ·rw[az _ _ bY]at hi;rw[hν i bY];exact h.yD i e1 l1 b hi
 ·rw[size_alloc]
  rcases eY with eY|eY
  ·have:=h.EH b eY;omega
  ·omega
 ·rw[qm w o (mT mw h.size)];exact h.frame b mw tU
 ·rw[size_alloc];have:=h.size;omega
 ·by_cases bY:i=id
  ·subst bY;rw[bf]at hi;cases hi
  ·exact⟨e',by rw[az _ _ bY];exact hi,.refl e'⟩
 ·have bY:i≠id:=λe=>hi (e▸bf)
  exact hν i bY
theorem Tr.var{c:Ctx}{H:Nat→Option bg}{w:World}{M:Nat→Prop}{ν:Nat→Value}(h:Mem c H w M ν){id:Nat}(bf:H id=none)(t:TypeId){τ:Ty}{cs:Array Value}{x:τ.den}(hr:Rd w M τ cs.toList x):
  Tr c H w M ν (bZ H id (some (.obj τ x))) (w.alloc (.cells cs t)) (λb=>M b∨b=w.heap.size) (dg ν id (.pointer (some ⟨w.heap.size,0,none⟩))):=by
 refine Tr.alloc h bf _ _ _ trivial (λ_ _ _ _=>by simp) (.inr rfl) ?_
 simp only[ER]
 have hk:e8 w M (w.alloc (.cells cs t)) (λb=>M b∨b=w.heap.size):=
  ⟨by rw[size_alloc];omega,λb hb _=>qm w _ hb,λb hb h'=>h'.resolve_right ω⟩
 exact⟨w.heap.size,cs,t,rfl,EI w _,.inr rfl,hr.ca hk⟩
theorem Tr.row{c:Ctx}{H:Nat→Option bg}{w:World}{M:Nat→Prop}{ν:Nat→Value}(h:Mem c H w M ν){id:Nat}(bf:H id=none)(t:TypeId){e:Ty}{cs:Array Value}{l:List e.den}{cap:Nat}
  (hl:l.length≤cap) (hm:cap≤maxLen) (hs:cs.size=cap*e.size) (hr: ∀i (hi:i<l.length),Rd w M e ((cs.toList.drop (i*e.size)).take e.size) l[i]):
  Tr c H w M ν (bZ H id (some (.own e l))) (w.alloc (.cells cs t)) (λb=>M b∨b=w.heap.size) (dg ν id (.slice (some ⟨w.heap.size,0,none⟩) l.length cap)):=by
 have hk:e8 w M (w.alloc (.cells cs t)) (λb=>M b∨b=w.heap.size):=
  ⟨by rw[size_alloc];omega,λb hb _=>qm w _ hb,λb hb h'=>h'.resolve_right ω⟩
 refine Tr.alloc h bf _ _ _ trivial (λ_ _ _ _=>by simp) ?_ ?_
 ·simp only[fL];split
  ·exact .inl rfl
  ·exact .inr rfl
 ·simp only[ER]
  by_cases hc:cap=0
  ·subst hc
   have hl0:l=[]:=tV ω
   subst hl0
   exact .inl ⟨rfl,_,rfl⟩
  ·exact .inr ⟨w.heap.size,cs,t,cap,rfl,EI w _,.inr rfl,ω,hl,hm,hs,λi hi=>(hr i hi).ca hk⟩
theorem Tr.drew{c:Ctx}{H:Nat→Option bg}{w:World}{M:Nat→Prop}{ν:Nat→Value}(h:Mem c H w M ν):Tr c H w M ν H w.drew M ν:=by
 have hk:e8 w M w.drew M:=⟨aG _,λ_ _ _=>rfl,λ_ _ h=>h⟩
 exact⟨⟨λi e he=>(h.kZ i e he).ca hk λhm b hb=>⟨rfl,(h.kZ i e he).xV hm hb⟩,h.zQ,h.new,h.yD,h.gh,h.sub,h.EH,h.frame,h.size,h.vu,h.os,h.tape,h.output⟩,hk,.refl H ν⟩
theorem size_setRow(w:World)(g:Nat)(cs:Array Value):(w.setRow g cs).heap.size=w.heap.size:=by simp[World.setRow]
theorem Tr.write{c:Ctx}{H:Nat→Option bg}{w:World}{M:Nat→Prop}{ν:Nat→Value}(h:Mem c H w M ν){id:Nat}{e e':bg}(bf:H id=some e)(hm:e.mut)(jQ:e'.mut)(hl:e.ll e')
  {b:Nat} (hb:fL (ν id)=some b) {cs new:Array Value} {t:TypeId} (hg:w.heap[b]? =some (.cells cs t (0,0)))
  (S1: ∀M',e8 w M (w.setRow b new) M'→M' b→ER (w.setRow b new) M' (ν id) e')
  (sS: ∀τ x p j,e'= .gh τ x p j→H j≠none∧ ∃b',ν id= .pointer (some ⟨b',0,none⟩)∧(w.setRow b new).cell? ⟨b',cE p τ,none⟩=some (ν j):=by intro _ _ _ _ h;cases h):
  Tr c H w M ν (bZ H id (some e')) (w.setRow b new) M ν:=by
 have hMb:M b:=(h.kZ id e bf).xV hm hb
 have hk:e8 w M (w.setRow b new) M:=
  ⟨by rw[size_setRow];exact aG _,λb' _ hm=>setRow_other w b b' new (λe=>hm (e▸hMb)),λ_ _ h=>h⟩
 refine⟨⟨λi e1 hi=> ?_,λi j e1 e2 b1 pN hi tq hj yn=> ?_,λi e1 b1 hi tq=> ?_,λi e1 l1 b1 hi=> ?_,qQ h (λ_ _=>rfl) xr (λi τ x p j hi=> ?_),h.sub,λb1 mw=>by rw[size_setRow];exact h.EH b1 mw,λb1 mw tU=> ?_,by rw[size_setRow];exact h.size,h.vu,h.os,h.tape,h.output⟩,hk,⟨λi e1 hi=> ?_,λi hi=>rfl⟩⟩
 ·by_cases bY:i=id
  ·subst bY;rw[ax]at hi;cases hi;exact S1 M hk hMb
  ·rw[az _ _ bY]at hi
   exact(h.kZ i e1 hi).ca hk λtq b1 mw=>⟨setRow_other w b b1 new (λe'=>h.zQ i id e1 e b1 bY hi tq bf hm mw (e'▸hb)),(h.kZ i e1 hi).xV tq mw⟩
 ·by_cases bY:i=id
  ·subst bY;rw[ax]at hi;cases hi
   have G4:j≠i:=eH pN
   rw[az _ _ G4]at hj
   exact h.zQ i j e e2 b1 pN bf hm hj yn
  ·rw[az _ _ bY]at hi
   by_cases G4:j=id
   ·subst G4;exact h.zQ i j e1 e b1 pN hi tq bf hm
   ·rw[az _ _ G4]at hj;exact h.zQ i j e1 e2 b1 pN hi tq hj yn
 ·by_cases bY:i=id
  ·subst bY;exact h.new i e b1 bf hm
  ·rw[az _ _ bY]at hi;exact h.new i e1 b1 hi tq
 ·by_cases bY:i=id
  ·subst bY;rw[ax]at hi;cases hi
   cases e with
   |own e0 l0=>exact h.yD i e0 l0 b1 bf
   |obj _ _=>simp[bg.ll]at hl
   |gh _ _ _ _=>simp[bg.ll]at hl
   |oH _ _=>simp[bg.mut]at hm
   |gone=>simp[bg.mut]at hm
  ·rw[az _ _ bY]at hi;exact h.yD i e1 l1 b1 hi
 ·by_cases bY:i=id
  ·subst bY;rw[ax]at hi;cases hi
   obtain⟨h1,h2⟩:=sS _ _ _ _ rfl
   exact .inr ⟨xq h1,h2⟩
  ·rw[az _ _ bY]at hi
   exact .inl ⟨hi,λb1 mw=>setRow_other w b b1 new (λe1=>h.zQ i id _ e b1 bY hi trivial bf hm (by rw[mw];rfl) (e1▸hb))⟩
 ·rw[setRow_other w b b1 new]
  ·exact h.frame b1 mw tU
  ·intro hbb;subst hbb
   rcases h.new id e b1 bf hm hb with h'|h'
   ·omega
   ·exact tU h'
 ·by_cases bY:i=id
  ·subst bY;rw[bf]at hi;cases hi;exact⟨e',ax _ _ _,hl⟩
  ·exact⟨e1,by rw[az _ _ bY];exact hi,.refl e1⟩
theorem Tr.rename{c:Ctx}{H:Nat→Option bg}{w:World}{M:Nat→Prop}{ν:Nat→Value}(h:Mem c H w M ν){j id:Nat}{e e':Ty}{l:List e.den}{l':List e'.den}(hj:H j=some (.own e l))(bf:H id=none)
  {v:Value} (hb:fL v=none∨fL v=fL (ν j)) (S1:ER w M v (.own e' l')):
  Tr c H w M ν (bZ (bZ H j (some .gone)) id (some (.own e' l'))) w M (dg ν id v):=by
 have jy:j≠id:=λe=>by rw[e,bf]at hj;cases hj
 have h1:=(Tr.gone h j).mem
 have pt:bZ H j (some .gone) id=none:=by rw[az _ _ (eH jy)];exact bf
 have hν: ∀i,i≠id→dg ν id v i=ν i:=λi hi=>by simp[dg,hi]
 have Dg:dg ν id v id=v:=by simp[dg]
 refine⟨⟨λi e1 hi=> ?_,λi k e1 e2 b1 pN hi tq hk yn=> ?_,λi e1 b1 hi tq=> ?_,λi e1 l1 b1 hi=> ?_,qQ h1 (λi hi=>hν i (λe=>hi (e▸pt))) xr (λi τ x p j hi=> .inl ⟨zS (λ_ _ _ _=>by simp) hi,λ_ _=>rfl⟩),h.sub,h.EH,h.frame,h.size,h.vu,h.os,h.tape,h.output⟩,.refl w M,⟨λi e1 hi=> ?_,λi hi=> ?_⟩⟩
 ·by_cases bY:i=id
  ·subst bY;rw[ax]at hi;cases hi;rw[Dg];exact S1
  ·rw[az _ _ bY]at hi;rw[hν i bY];exact h1.kZ i e1 hi
 ·by_cases bY:i=id
  ·subst bY;rw[ax]at hi;cases hi;rw[Dg]
   have Mo:k≠i:=eH pN
   rw[az _ _ Mo]at hk;rw[hν k Mo]
   intro mw
   rcases hb with hb|hb
   ·rw[hb]at mw;cases mw
   ·rw[hb]at mw
    by_cases hkj:k=j
    ·subst hkj;rw[ax]at hk;cases hk;simp[bg.mut]at yn
    ·rw[az _ _ hkj]at hk;exact h.zQ j k _ e2 b1 (eH hkj) hj trivial hk yn mw
  ·rw[az _ _ bY]at hi;rw[hν i bY]
   by_cases Mo:k=id
   ·subst Mo;rw[Dg]
    intro mw tU
    rcases hb with hb|hb
    ·rw[hb]at tU;cases tU
    ·rw[hb]at tU
     by_cases Hi:i=j
     ·subst Hi;rw[ax]at hi;cases hi;simp[bg.mut]at tq
     ·rw[az _ _ Hi]at hi;exact h.zQ j i _ e1 b1 (eH Hi) hj trivial hi tq tU mw
   ·rw[az _ _ Mo]at hk;rw[hν k Mo];exact h1.zQ i k e1 e2 b1 pN hi tq hk yn
 ·by_cases bY:i=id
  ·subst bY;rw[Dg];intro mw
   rcases hb with hb|hb
   ·rw[hb]at mw;cases mw
   ·rw[hb]at mw;exact h.new j _ b1 hj trivial mw
  ·rw[az _ _ bY]at hi;rw[hν i bY];exact h1.new i e1 b1 hi tq
 ·by_cases bY:i=id
  ·subst bY;rw[Dg];intro mw
   rcases hb with hb|hb
   ·rw[hb]at mw;cases mw
   ·rw[hb]at mw;exact h.yD j e l b1 hj mw
  ·rw[az _ _ bY]at hi;rw[hν i bY];exact h1.yD i e1 l1 b1 hi
 ·by_cases Hi:i=j
  ·subst Hi;exact⟨.gone,by rw[az _ _ jy,ax],by cases e1<;>simp[bg.ll]⟩
  ·have bY:i≠id:=λe=>by rw[e,bf]at hi;cases hi
   exact⟨e1,by rw[az _ _ bY,az _ _ Hi];exact hi,.refl e1⟩
 ·exact hν i (λe=>hi (e▸bf))
theorem Tr.Hj{c:Ctx}{H:Nat→Option bg}{w:World}{M:Nat→Prop}{ν:Nat→Value}(h:Mem c H w M ν){id:Nat}{e e':bg}(bf:H id=some e)(hm:e.mut)(jQ:e'.mut)(hl:e.ll e')(vD: ∀e0 l0,e'≠ .own e0 l0)
  (S1:ER w M (ν id) e') (sS: ∀τ x p j,e'= .gh τ x p j→H j≠none∧ ∃b',ν id= .pointer (some ⟨b',0,none⟩)∧w.cell? ⟨b',cE p τ,none⟩=some (ν j)):
  Tr c H w M ν (bZ H id (some e')) w M ν:=by
 refine⟨⟨λi e1 hi=> ?_,λi j e1 e2 b1 pN hi tq hj yn=> ?_,λi e1 b1 hi tq=> ?_,λi e1 l1 b1 hi=> ?_,qQ h (λ_ _=>rfl) xr (λi τ x p j hi=> ?_),h.sub,h.EH,h.frame,h.size,h.vu,h.os,h.tape,h.output⟩,.refl w M,⟨λi e1 hi=> ?_,λi hi=>rfl⟩⟩
 ·by_cases bY:i=id
  ·subst bY;rw[ax]at hi;cases hi;exact S1
  ·rw[az _ _ bY]at hi;exact h.kZ i e1 hi
 ·by_cases bY:i=id
  ·subst bY;rw[ax]at hi;cases hi
   have G4:j≠i:=eH pN
   rw[az _ _ G4]at hj
   exact h.zQ i j e e2 b1 pN bf hm hj yn
  ·rw[az _ _ bY]at hi
   by_cases G4:j=id
   ·subst G4;exact h.zQ i j e1 e b1 pN hi tq bf hm
   ·rw[az _ _ G4]at hj;exact h.zQ i j e1 e2 b1 pN hi tq hj yn
 ·by_cases bY:i=id
  ·subst bY;exact h.new i e b1 bf hm
  ·rw[az _ _ bY]at hi;exact h.new i e1 b1 hi tq
 ·by_cases bY:i=id
  ·subst bY;rw[ax]at hi;cases hi;exact absurd rfl (vD _ _)
  ·rw[az _ _ bY]at hi;exact h.yD i e1 l1 b1 hi
 ·by_cases bY:i=id
  ·subst bY;rw[ax]at hi;cases hi
   obtain⟨h1,h2⟩:=sS _ _ _ _ rfl
   exact .inr ⟨xq h1,h2⟩
  ·rw[az _ _ bY]at hi;exact .inl ⟨hi,λ_ _=>rfl⟩
 ·by_cases bY:i=id
  ·subst bY;rw[bf]at hi;cases hi;exact⟨e',ax _ _ _,hl⟩
  ·exact⟨e1,by rw[az _ _ bY];exact hi,.refl e1⟩
theorem Tr.nothing{c:Ctx}{w:World}{M:Nat→Prop}{ν:Nat→Value}{H:Nat→Option bg}(h:Mem c H w M ν){id:Nat}(bf:H id=none)(e:Ty)(ad:Option Addr):
  Tr c H w M ν (bZ H id (some (.own e []))) w M (dg ν id (.slice ad 0 0)):=by
 have hν: ∀i,i≠id→dg ν id (.slice ad 0 0) i=ν i:=λi hi=>by simp[dg,hi]
 have Dg:dg ν id (.slice ad 0 0) id= .slice ad 0 0:=by simp[dg]
 have hb:fL (.slice ad 0 0)=none:=by cases ad<;>simp[fL]
 refine⟨⟨λi e1 hi=> ?_,λi k e1 e2 b1 pN hi tq hk yn=> ?_,λi e1 b1 hi tq=> ?_,λi e1 l1 b1 hi=> ?_,qQ h (λi hi=>hν i (λe=>hi (e▸bf))) xr (λi τ x p j hi=> .inl ⟨zS (λ_ _ _ _=>by simp) hi,λ_ _=>rfl⟩),h.sub,h.EH,h.frame,h.size,h.vu,h.os,h.tape,h.output⟩,.refl w M,⟨λi e1 hi=> ?_,λi hi=>hν i (λe=>hi (e▸bf))⟩⟩
 ·by_cases bY:i=id
  ·subst bY;rw[ax]at hi;cases hi;rw[Dg];simp only[ER];exact .inl ⟨trivial,ad,rfl⟩
  ·rw[az _ _ bY]at hi;rw[hν i bY];exact h.kZ i e1 hi
 ·by_cases bY:i=id
  ·subst bY;rw[Dg,hb];intro h';cases h'
  ·rw[az _ _ bY]at hi;rw[hν i bY]
   by_cases Mo:k=id
   ·subst Mo;rw[Dg,hb];intro _ h';cases h'
   ·rw[az _ _ Mo]at hk;rw[hν k Mo];exact h.zQ i k e1 e2 b1 pN hi tq hk yn
 ·by_cases bY:i=id
  ·subst bY;rw[Dg,hb];intro h';cases h'
  ·rw[az _ _ bY]at hi;rw[hν i bY];exact h.new i e1 b1 hi tq
 ·by_cases bY:i=id
  ·subst bY;rw[Dg,hb];intro h';cases h'
  ·rw[az _ _ bY]at hi;rw[hν i bY];exact h.yD i e1 l1 b1 hi
 ·have bY:i≠id:=λe=>by rw[e,bf]at hi;cases hi
  exact⟨e1,by rw[az _ _ bY];exact hi,.refl e1⟩
end VM
end
section
namespace VM
open Go
theorem bC{α:Type}{υ τ:Ty}{y:υ.den}{k:τ.den→Option α}{r:α}(h:c7 υ τ y k=some r): ∃e:υ=τ,k (e▸y)=some r:=by
 unfold c7 at h
 split at h
 ·rename_i e;exact⟨e,h⟩
 ·cases h
theorem fZ{α:Type}{υ τ:Ty}{k:Option α}{r:α}(h:m2 υ τ k=some r):υ=τ∧k=some r:=by
 unfold m2 at h
 split at h
 ·rename_i e;exact⟨e,h⟩
 ·cases h
theorem V.slice{w:World}{M:Nat→Prop}{e:Ty}{v:Value}{l:List e.den}:V w M (.slice e) v l↔Rd w M (.slice e) [v] l:=by
 unfold V;rw[ah (by simp[Ty.isAgg])]
def Fz(H H1:Nat→Option bg):Prop:= ∀i,H1 i=H i∨ ∃e l,H i=some (.own e l)∧H1 i=some (.oH e l)
theorem Fz.refl(H:Nat→Option bg):Fz H H:=λ_=> .inl rfl
theorem Fz.none{H H1:Nat→Option bg}(h:Fz H H1){i:Nat}(hi:H i=none):H1 i=none:=by
 rcases h i with h'|⟨e,l,h',_⟩
 ·rw[h',hi]
 ·rw[hi]at h';cases h'
theorem Fz.obj{H H1:Nat→Option bg}(h:Fz H H1){i:Nat}{τ:Ty}{x:τ.den}(hi:H i=some (.obj τ x)):H1 i=some (.obj τ x):=by
 rcases h i with h'|⟨e,l,h',_⟩
 ·rw[h',hi]
 ·rw[hi]at h';cases h'
theorem Bl{H:Nat→Option bg}{id:Nat}{e:Option bg}(h:H id=e):bZ H id e=H:=by
 funext i
 by_cases hi:i=id
 ·subst hi;rw[ax,h]
 ·rw[az _ _ hi]
theorem n6{α:Type}{c:Ctx}{H H1:Nat→Option bg}{w:World}{M:Nat→Prop}{ν:Nat→Value}(hz:Fz H H1)(hm:Mem c H1 w M ν){a:bD}{v:Value}(hv:VR w M H1 ν a v){τ:Ty}
  {k:τ.den→List Nat→iX→Option α} {r:α} (h:lV true a H τ k=some r):
  ∃y rd ups M',k y rd ups=some r∧Tr c H1 w M ν (c4 H1 ups) w M' ν∧V w M' τ v y∧Fz H (c4 H1 ups)∧ ∀i,rd.contains i=false→c4 H1 ups i=H1 i:=by
 unfold lV at h
 split at h
 ·
  obtain⟨e,h⟩:=bC h
  subst e
  simp only[VR]at hv
  exact⟨_,[],[],M,h,.refl hm,hv,hz,λ_ _=>rfl⟩
 ·
  obtain⟨e,h⟩:=bC h
  subst e
  simp only[VR]at hv
  exact⟨_,[],[],M,h,.refl hm,hv.1,hz,λ_ _=>rfl⟩
 ·
  split at h
  ·rename_i e k' _
   simp only[VR]at hv
   obtain⟨a,rfl⟩:=hv
   refine⟨[],[],[],M,h,.refl hm,V.slice.2 ?_,hz,λ_ _=>rfl⟩
   simp only[Rd]
   exact⟨a,0,rfl,aG _,λi hi=>absurd hi (by simp)⟩
  ·cases h
 ·rename_i id
  simp only[VR]at hv
  obtain⟨_,rfl⟩:=hv
  split at h
  ·rename_i e l bf
   obtain⟨e',h⟩:=bC h
   subst e'
   rcases hz id with h1|⟨e1,l1,h1,h2⟩
   ·rw[bf]at h1
    obtain⟨M',il,hV,_⟩:=Tr.freeze hm h1
    refine⟨_,_,_,M',h,il,hV,λi=> ?_,λi hi=>az _ _ (by simpa using hi)⟩
    show bZ H1 id (some (.oH e l)) i=H i∨_
    by_cases hi:i=id
    ·subst hi;exact .inr ⟨e,l,bf,ax _ _ _⟩
    ·rw[az _ _ hi]
     rcases hz i with h'|⟨e2,l2,h2,h3⟩
     ·exact .inl h'
     ·exact .inr ⟨e2,l2,h2,by show bZ H1 id _ i=_;rw[az _ _ hi];exact h3⟩
   ·rw[bf]at h1;cases h1
    have:=hm.kZ id _ h2
    simp only[ER]at this
    refine⟨_,_,[(id,some (.oH e l))],M,h,?_,V.slice.2 this.1,?_,λi hi=>az _ _ (by simpa using hi)⟩
    ·show Tr c H1 w M ν (bZ H1 id (some (.oH e l))) w M ν
     rw[Bl h2];exact .refl hm
    ·show Fz H (bZ H1 id (some (.oH e l)))
     rw[Bl h2];exact hz
  ·rename_i e l bf
   obtain⟨e',h⟩:=bC h
   subst e'
   have h1:H1 id=some (.oH e l):=by
    rcases hz id with h1|⟨e1,l1,h1,h2⟩
    ·rw[h1,bf]
    ·rw[bf]at h1;cases h1
   have:=hm.kZ id _ h1
   simp only[ER]at this
   exact⟨_,_,_,M,h,.refl hm,V.slice.2 this.1,hz,λ_ _=>rfl⟩
  ·cases h
 ·cases h
def Src(w:World)(M:Nat→Prop)(e:Ty)(v:Value)(l:List e.den):Prop:=
 ∃a cap,v= .slice a l.length cap∧ ∀i (h:i<l.length),∃b off cs,a=some ⟨b,off,none⟩∧At w b (off+i*e.size) cs∧Rd w M e cs l[i]
theorem Src.Zh{w:World}{M:Nat→Prop}{e:Ty}{v:Value}{l:List e.den}(h:V w M (.slice e) v l):Src w M e v l:=by
 have h:=V.slice.1 h
 simp only[Rd,fh,eS]at h
 obtain⟨a,cap,rfl,_,hr⟩:=h
 refine⟨a,cap,rfl,λi hi=> ?_⟩
 obtain⟨b,off,ha,_,_,cs,pY,kV⟩:=hr i hi
 exact⟨b,off,cs,ha,pY,kV⟩
theorem Cl{α:Type}{c:Ctx}{H:Nat→Option bg}{w:World}{M:Nat→Prop}{ν:Nat→Value}(hm:Mem c H w M ν){a:bD}{v:Value}(hv:VR w M H ν a v){e:Ty}
  {k:List e.den→List Nat→iX→Option α} {r:α} (h:lV false a H (.slice e) k=some r):
  ∃y rd,k y rd []=some r∧Src w M e v y:=by
 unfold lV at h
 split at h
 ·obtain⟨e',h⟩:=bC h
  subst e'
  simp only[VR]at hv
  exact⟨_,[],h,.Zh hv⟩
 ·obtain⟨e',h⟩:=bC h
  subst e'
  simp only[VR]at hv
  exact⟨_,[],h,.Zh hv.1⟩
 ·have h:k [] [] []=some r:=h
  simp only[VR]at hv
  obtain⟨a,rfl⟩:=hv
  exact⟨[],[],h,a,0,rfl,λi hi=>absurd hi (by simp)⟩
 ·rename_i id
  simp only[VR]at hv
  obtain⟨_,rfl⟩:=hv
  split at h
  ·rename_i e1 l bf
   obtain⟨e',h⟩:=bC h
   cases e'
   refine⟨_,_,h,?_⟩
   have:=hm.kZ id _ bf
   simp only[ER]at this
   rcases this with⟨rfl,a,hv⟩|⟨b,cs,t,cap,hv,hb,hM,hc,hl,G1,hs,hr⟩
   ·exact⟨a,0,hv,λi hi=>absurd hi (by simp)⟩
   ·refine⟨_,cap,hv,λi hi=>⟨b,0,_,rfl,?_,hr i hi⟩⟩
    rw[gk]
    exact At.of_block hb _ _
  ·rename_i e1 l bf
   obtain⟨e',h⟩:=bC h
   cases e'
   have:=hm.kZ id _ bf
   simp only[ER]at this
   exact⟨_,_,h,.Zh (V.slice.2 this.1)⟩
  ·cases h
 ·cases h
theorem Src.cells{w:World}{M:Nat→Prop}{e:Ty}{v:Value}{l:List e.den}(h:Src w M e v l)(jy:l≠[]):
  ∃b off cap news,v= .slice (some ⟨b,off,none⟩) l.length cap∧news.length=l.length*e.size∧At w b off news∧
   (∀i (hi:i<l.length),Rd w M e ((news.drop (i*e.size)).take e.size) l[i])∧ ∀u∈news,u.oneCell'=true:=by
 obtain⟨a,cap,rfl,hr⟩:=h
 have h0:0<l.length:=si.2 jy
 obtain⟨b,off,_,ha,_⟩:=hr 0 h0
 subst ha
 have key: ∀n,n≤l.length→ ∃news:List Value,news.length=n*e.size∧At w b off news∧
   (∀i (hi:i<l.length),i<n→Rd w M e ((news.drop (i*e.size)).take e.size) l[i])∧ ∀u∈news,u.oneCell'=true:=by
  intro n
  induction n with
  |zero=>exact λ_=>⟨[],by simp,λj v hj=>by simp at hj,λi _ hi=>ω,by simp⟩
  |succ n ih=>
   intro hn
   obtain⟨news,hl,pY,kV,agS⟩:=ih ω
   obtain⟨b',axO,cs,ha,aqP,S2⟩:=hr n ω
   cases ha
   refine⟨news++cs,by rw[aS,hl,S2.length,et,jV],At.append.2 ⟨pY,by rw[hl];exact aqP⟩,λi hi lT=> ?_,λu hu=> ?_⟩
   ·by_cases e9:i<n
    ·have h1:(i+1)*e.size≤n*e.size:=lL _ e9
     rw[et,jV]at h1
     rw[zn ω,zm (by rw[dR];omega)]
     exact kV i hi e9
    ·obtain rfl:i=n:=ω
     rw[mX hl,jF (by rw[S2.length];exact aG _)]
     exact S2
   ·rcases a8.1 hu with hu|hu
    ·exact agS u hu
    ·exact S2.oI u hu
 obtain⟨news,hl,pY,kV,agS⟩:=key l.length (aG _)
 exact⟨b,off,cap,news,rfl,hl,pY,λi hi=>kV i hi hi,agS⟩
structure Core(c:Ctx)(σ:St)(tm:Array Value)(w:World)(M:Nat→Prop)(ν:Nat→Value):Prop where
 mem:Mem c σ.H w M ν
 tmp: ∀i,VR w M σ.H ν (σ.T i) (tm.getD i undef)
theorem S3(w:World)(M:Nat→Prop)(H:Nat→Option bg)(ν:Nat→Value)(v:Value):VR w M H ν (cvA v) v:=by
 unfold cvA
 split<;>simp[VR,V,Ty.isAgg,Rd]
theorem Core.op{c:Ctx}{σ:St}{tm:Array Value}{w:World}{M:Nat→Prop}{ν:Nat→Value}(h:Core c σ tm w M ν)(ds:List Deferred)(x:Operand):
  VR w M σ.H ν (σ.ρ x) (({tmps:=tm,defers:=ds}:Act).eval x):=by
 cases x with
 |tmp t=>exact h.tmp t
 |const v=>exact S3 w M σ.H ν v
 |global g=>simp[St.ρ,VR]
 |func f=>simp[St.ρ,VR,jq,Act.eval]
def alr(P:Program)(t:TypeId)(τ:Ty):Prop:=
 ∀(w:World) (M:Nat→Prop) (u v:Value) (x y:τ.den) (b:BinOp) (xo yo:Operand),V w M τ u x→V w M τ v y→
  (eqGuard b t xo yo u v).run P w= .ok () w∧(binOp .eql t u v).run P w= .ok (.bool (ql τ x y)) w∧(binOp .neq t u v).run P w= .ok (.bool (!ql τ x y)) w
structure EnvTy(P:Program)(E:Env):Prop where
 ty: ∀t τ,E.ty t=some τ→kH P τ t
 eq: ∀t τ,E.ty t=some τ→τ.comparable=true→τ.isAgg=true→alr P t τ
end VM
end
section
namespace VM
open Go
variable{P:Program}
theorem zT{o:Oper}{ρ:Operand→Value}{t:TypeId}{i:TypeInfo}{z:Value}(ho:o.op= .alloc t)(hi:P.info? t=some i)(hz:i.zero=some z)(w:World):
  (execOp ρ o).run P w= .ok (.value (.pointer (some ⟨w.heap.size,0,none⟩))) (w.alloc (.cells z.cells t)):=by
 simp[execOp,ho,Instr.alloc,zeroValue,typeInfo,hi,hz,newVar,newRow]
theorem EJ{o:Oper}{ρ:Operand→Value}{t:TypeId}{x:Operand}(ho:o.op= .box t x)(w:World):
  (execOp ρ o).run P w= .ok (.value (.pointer (some ⟨w.heap.size,0,none⟩))) (w.alloc (.cells (ρ x).cells t)):=by
 simp[execOp,ho,Instr.box,newVar,newRow]
theorem tt{τ:Ty}{t:TypeId}(h:kH P τ t)(w:World):(isAgg t).run P w= .ok τ.isAgg w:=by
 unfold kH at h
 cases τ<;>simp only[fT]at h
 ·simp[isAgg,run_underlying h.2,Ty.isAgg]
 ·simp[isAgg,run_underlying h.2,Ty.isAgg]
 ·simp[isAgg,run_underlying h.2,Ty.isAgg]
 ·obtain⟨_,e',h',_⟩:=h;simp[isAgg,run_underlying h',Ty.isAgg]
 ·obtain⟨_,e',h',_⟩:=h;simp[isAgg,run_underlying h',Ty.isAgg]
 ·obtain⟨_,e',f,h',_⟩:=h;simp[isAgg,run_underlying h',Ty.isAgg]
 ·obtain⟨_,e',h',_⟩:=h;simp[isAgg,run_underlying h',Ty.isAgg]
theorem de{τ:Ty}{t:TypeId}(h:kH P τ t)(w:World):(Go.sizeOf t).run P w= .ok τ.size w:=by
 obtain⟨i,hi,hs,_⟩:=h.base
 simp[Go.sizeOf,typeInfo,hi,hs]
theorem Cm{w:World}{M:Nat→Prop}{τ:Ty}{t:TypeId}(h:kH P τ t){b off:Nat}{cs:List Value}{x:τ.den}(ha:At w b off cs)(hr:Rd w M τ cs x):
  (loadVar t ⟨b,off,none⟩).run P w= .ok (cK τ cs) w:=by
 have hl:(loadCells ⟨b,off,none⟩ τ.size).run P w= .ok cs.toArray w:=by
  rw[←hr.length]
  exact run_loadCells_list w _ cs λj v hj=>by rw[show(⟨b,off,none⟩:Addr).add j=⟨b,off+j,none⟩from by unfold Addr.add;split<;>simp_all];exact ha j v hj
 unfold cK
 by_cases Mp:τ.isAgg=true
 ·simp[loadVar,tt h,Mp,de h,hl]
 ·obtain⟨v,rfl,hc⟩:=hr.scalar (by simpa using Mp)
  have h0:=ha 0 v rfl
  simp only[m0]at h0
  simp[loadVar,tt h,Mp,load,Sem.run,h0]
theorem wg{o:Oper}{ρ:Operand→Value}{t:TypeId}{x:Operand}(ho:o.op= .load t x){w:World}{M:Nat→Prop}{τ:Ty}(h:kH P τ t){b off:Nat}{cs:List Value}{y:τ.den}
  (hx:ρ x= .pointer (some ⟨b,off,none⟩)) (ha:At w b off cs) (hr:Rd w M τ cs y):
  (execOp ρ o).run P w= .ok (.value (cK τ cs)) w:=by
 simp[execOp,ho,hx,Instr.loadAt,Instr.sureAddr,Cm h ha hr]
theorem m5{o:Oper}{ρ:Operand→Value}{t:TypeId}{x y:Operand}(ho:o.op= .store t x y){w:World}{τ:Ty}(h:kH P τ t){b off:Nat}{cur:Array Value}{te:TypeId}
  (hx:ρ x= .pointer (some ⟨b,off,none⟩)) (hg:w.heap[b]? =some (.cells cur te (0,0))) (hs:(ρ y).cells.size=τ.size) (hf:off+τ.size≤cur.size) (h1: ∀v∈(ρ y).cells.toList,v.oneCell'=true):
  (execOp ρ o).run P w= .ok .skip (w.setRow b (cur.toList.take off++(ρ y).cells.toList++cur.toList.drop (off+(ρ y).cells.toList.length)).toArray):=by
 have G6:=run_storeCells_at (P:=P) b off te (ρ y).cells.toList 0 cur w hg (by simp[hs];omega) h1
 simp only[m0]at G6
 simp[execOp,ho,hx,Instr.storeAt,Instr.sureAddr,storeVar,de h,hs,G6]
theorem tu{o:Oper}{ρ:Operand→Value}{t:TypeId}{x:Operand}{n:Nat}(ho:o.op= .fieldAddr t x n){w:World}{fs:Array Field}{f:Field}{b off:Nat}{υ:Ty}
  (hu:P.underlying t=some (.struct fs)) (hf:fs[n]? =some f) (hl:kH P υ f.type) (hz:υ.size≠0) (hx:ρ x= .pointer (some ⟨b,off,none⟩)):
  ∃a,(execOp ρ o).run P w= .ok (.value a) w∧a= .pointer (some ⟨b,off+f.offset,none⟩):=by
 refine⟨_,?_,rfl⟩
 simp[execOp,ho,hx,Instr.fieldAt,Instr.sureAddr,run_underlying hu,hf,fieldPlace,Addr.add_lit,de hl,hz]
theorem zU{τ:Ty}{t:TypeId}(h:kH P τ t){w:World}{M:Nat→Prop}{cs:Array Value}{off:Nat}{x:τ.den}(hr:Rd w M τ ((cs.toList.drop off).take τ.size) x):
  (part t cs off).run P w= .ok (cK τ ((cs.toList.drop off).take τ.size)) w:=by
 have hl:=hr.length
 unfold cK
 by_cases Mp:τ.isAgg=true
 ·simp only[part,Sem.run_bind,tt h,Result.andThen_ok,Mp,gB,de h]
  simp
  rw[cc,dR,bH]at hl
  apply jo
  simp only[Array.toList_extract,List.extract_eq_take_drop,zp]
 ·obtain⟨v,hv,hc⟩:=hr.scalar (by simpa using Mp)
  rw[hv]
  have h0:cs[off]? =some v:=by
   have:=fj (λl=>l[0]?) hv
   simp only[lO,lP]at this
   split at this
   ·simpa using this
   ·simp at this
  simp[part,tt h,Mp,h0]
theorem JU{o:Oper}{ρ:Operand→Value}{t:TypeId}{x:Operand}{n:Nat}(ho:o.op= .field t x n){w:World}{M:Nat→Prop}{fs:Array Field}{f:Field}{cs:Array Value}{υ:Ty}{y:υ.den}
  (hu:P.underlying t=some (.struct fs)) (hf:fs[n]? =some f) (hl:kH P υ f.type) (hx:ρ x= .agg cs) (hr:Rd w M υ ((cs.toList.drop f.offset).take υ.size) y):
  (execOp ρ o).run P w= .ok (.value (cK υ ((cs.toList.drop f.offset).take υ.size))) w:=by
 simp[execOp,ho,hx,Instr.field,run_underlying hu,hf,asAgg,zU hl hr]
theorem la{o:Oper}{ρ:Operand→Value}{t e:TypeId}{x i:Operand}(ho:o.op= .indexAddr t x i){w:World}{τe:Ty}{b off len cap:Nat}{k:IntKind}{n:Int}
  (hu:P.underlying t=some (.slice e)) (he:kH P τe e) (hx:ρ x= .slice (some ⟨b,off,none⟩) len cap) (hi:ρ i= .int k n) (h0:0≤n) (h1:n<(len:Int)):
  (execOp ρ o).run P w= .ok (.value (.pointer (some ⟨b,off+n.toNat*τe.size,none⟩))) w:=by
 simp[execOp,ho,hx,hi,Instr.indexAt,asIntOf,run_underlying hu,h0,h1,de he,Addr.add_lit]
theorem so{o:Oper}{ρ:Operand→Value}{t e:TypeId}{x i:Operand}(ho:o.op= .indexAddr t x i){w:World}{τe:Ty}{b off len:Nat}{k:IntKind}{n:Int}
  (hu:P.underlying t=some (.array len e)) (he:kH P τe e) (hx:ρ x= .pointer (some ⟨b,off,none⟩)) (hi:ρ i= .int k n) (h0:0≤n) (h1:n<(len:Int)):
  (execOp ρ o).run P w= .ok (.value (.pointer (some ⟨b,off+n.toNat*τe.size,none⟩))) w:=by
 simp[execOp,ho,hx,hi,Instr.indexAt,Instr.sureAddr,asIntOf,run_underlying hu,h0,h1,de he,Addr.add_lit]
theorem Hk{o:Oper}{ρ:Operand→Value}{t e:TypeId}{x i:Operand}(ho:o.op= .index t x i){w:World}{M:Nat→Prop}{τe:Ty}{len:Nat}{k:IntKind}{n:Int}{cs:Array Value}{y:τe.den}
  (hu:P.underlying t=some (.array len e)) (he:kH P τe e) (hx:ρ x= .agg cs) (hi:ρ i= .int k n) (h0:0≤n) (h1:n<(len:Int)) (hr:Rd w M τe ((cs.toList.drop (n.toNat*τe.size)).take τe.size) y):
  (execOp ρ o).run P w= .ok (.value (cK τe ((cs.toList.drop (n.toNat*τe.size)).take τe.size))) w:=by
 simp[execOp,ho,hx,hi,Instr.index,asIntOf,run_underlying hu,h0,h1,de he,zU he hr]
theorem EK{o:Oper}{ρ:Operand→Value}{x:Operand}{n:Nat}(ho:o.op= .extract x n){w:World}{us:List Value}{v:Value}(hx:ρ x= .tuple us.toArray)(hv:us[n]? =some v):
  (execOp ρ o).run P w= .ok (.value v) w:=by
 simp[execOp,ho,hx,Instr.extract,hv]
theorem Mq{o:Oper}{ρ:Operand→Value}{x y z:Operand}(ho:o.op= .pick x y z){w:World}{b:Bool}(hx:ρ x= .bool b):
  (execOp ρ o).run P w= .ok (.value (if b then ρ y else ρ z)) w:=by
 simp[execOp,ho,hx,asBool]
theorem vd{o:Oper}{ρ:Operand→Value}{x:Operand}(ho:o.op= .nilCheck x){w:World}{a:Addr}(hx:ρ x= .pointer (some a)):
  (execOp ρ o).run P w= .ok (.value (.pointer (some a))) w:=by
 simp[execOp,ho,hx]
theorem Dh{o:Oper}{ρ:Operand→Value}{f:FuncId}{first caps:Array Operand}(ho:o.op= .makeFunc (.func f) first caps)(hf:first= #[]){w:World}:
  (execOp ρ o).run P w= .ok (.value (.func (.func f) #[] (caps.map ρ))) w:=by
 subst hf
 simp[execOp,ho,Instr.makeFunc]
theorem EL{o:Oper}{ρ:Operand→Value}{s d:TypeId}{x:Operand}(ho:o.op= .convert s d x){w:World}{k k':IntKind}{n:Int}(hs:(P.underlying s).isSome=true)(hd:P.underlying d=some (.int k))(hx:ρ x= .int k' n):
  (execOp ρ o).run P w= .ok (.value (.int k (k.wrap n))) w:=by
 obtain⟨ds,hs⟩:=Option.isSome_iff_exists.1 hs
 simp[execOp,ho,hx,convert,run_underlying hs,run_underlying hd,Conv.intToInt]
theorem wh{o:Oper}{ρ:Operand→Value}{u:UnOp}{t:TypeId}{x:Operand}(ho:o.op= .unOp u t x){w:World}{v:Value}(h:(Op.unary u (ρ x)).run P w= .ok v w):
  (execOp ρ o).run P w= .ok (.value v) w:=by
 simp[execOp,ho,h]
theorem pZ{o:Oper}{ρ:Operand→Value}{b:BinOp}{t t':TypeId}{x y:Operand}(ho:o.op= .binOp b t x y t'){w:World}{v:Value}
  (hg:(eqGuard b t x y (ρ x) (ρ y)).run P w= .ok () w) (h:(binOp b t (ρ x) (ρ y)).run P w= .ok v w):
  (execOp ρ o).run P w= .ok (.value v) w:=by
 simp[execOp,ho,hg,h]
theorem pv{b:BinOp}{t:TypeId}{x y:Operand}{k k':IntKind}{m n:Int}(w:World):(eqGuard b t x y (.int k m) (.int k' n)).run P w= .ok () w:=by
 cases b<;>simp[eqGuard]
theorem Bm{b:BinOp}{t:TypeId}{x y:Operand}{m n:Bool}(w:World):(eqGuard b t x y (.bool m) (.bool n)).run P w= .ok () w:=by
 cases b<;>simp[eqGuard]
theorem Di{b:BinOp}{t:TypeId}{x y:Operand}{m n:ByteArray}(w:World):(eqGuard b t x y (.string m) (.string n)).run P w= .ok () w:=by
 cases b<;>simp[eqGuard]
theorem qR{o:Oper}{ρ:Operand→Value}{b:Builtin}{args:Array Operand}{ts:Array TypeId}(ho:o.op= .call {callee:= .builtin b,args,argTypes:=ts}){w:World}:
  ∃cs,(execOp ρ o).run P w=(builtin b ts o.type cs (args.map ρ)).run P w:=by
 refine⟨args.map fun| .const _=>true|_=>false,?_⟩
 simp[execOp,ho,resolve,invoke]
 rfl
end VM
end
section
namespace VM
open Go
theorem sq{α:Type}{r:α}: ∀{τ:Ty} {x:τ.den} {n:Nat} {m:(υ:Ty)→υ.den→(υ.den→Option α)→Option α} {k:τ.den→Option α},m1 τ x n m k=some r→
  ∃υ y o k',Df τ x n υ y o∧m υ y k'=some r∧ ∀z r',k' z=some r'→ ∃x',k x'=some r'∧Df τ x' n υ z o∧
   ∀(w:World) (M:Nat→Prop) cs cs',Rd w M τ cs x→Rd w M υ cs' z→Rd w M τ (fb cs o cs') x'
 | .pair a b,x,0,m,k,h=>by
  refine⟨a,x.1,0,_,.here x,h,λz r' hz=>⟨(z,x.2),hz,.here (a:=a) (b:=b) (z,x.2),λw M cs cs' hr eM=> ?_⟩⟩
  simp only[Rd]at hr ⊢
  obtain⟨c1,c2,rfl,h1,h2⟩:=hr
  refine⟨cs',c2,?_,eM,h2⟩
  rw[zP (by rw[eM.length,h1.length];omega)]
  congr 1
  unfold fb
  rw[gk,eM.length,←h1.length];simp
 | .pair a b,x,n+1,m,k,h=>by
  obtain⟨υ,y,o,k',hf,hm,hk⟩:=sq (τ:=b) (x:=x.2) (n:=n) (m:=m) (k:=λz=>k (x.1,z)) h
  refine⟨υ,y,_,k',.there x hf,hm,λz r' hz=> ?_⟩
  obtain⟨x',oX,zN,kV⟩:=hk z r' hz
  refine⟨(x.1,x'),oX,.there (a:=a) (b:=b) (x.1,x') zN,λw M cs cs' hr eM=> ?_⟩
  simp only[Rd]at hr ⊢
  obtain⟨c1,c2,rfl,h1,h2⟩:=hr
  refine⟨c1,_,?_,h1,kV w M c2 cs' h2 eM⟩
  rw[←h1.length,xp]
 | .int _,_,_,_,_,h| .bool,_,_,_,_,h| .str,_,_,_,_,h| .slice _,_,_,_,_,h| .unit,_,_,_,_,h| .arr _ _,_,_,_,_,h=>by simp[m1]at h
def qS(w:World)(M:Nat→Prop)(e:Ty)(cs:List Value)(l:List e.den):Prop:=
 ∀i (h:i<l.length),Rd w M e ((cs.drop (i*e.size)).take e.size) l[i]
theorem ew{i n s:Nat}(h:i<n):i*s+s≤n*s:=by
 have:(i+1)*s≤n*s:=lL _ h
 rw[et,jV]at this;exact this
theorem qS.set{w:World}{M:Nat→Prop}{e:Ty}{cs:List Value}{l:List e.den}(h:qS w M e cs l)(hl:l.length*e.size≤cs.length){i:Nat}(hi:i<l.length){cs':List Value}{y:e.den}(hr:Rd w M e cs' y):
  qS w M e (fb cs (i*e.size) cs') (l.set i y):=by
 have hlen:=hr.length
 intro j hj
 rw[bN]at hj
 have h1:=ew (s:=e.size) hi
 have h2:=ew (s:=e.size) hj
 by_cases pN:j=i
 ·subst pN
  have:=agQ (a:=cs) (o:=j*e.size) (new:=cs') ω
  rw[hlen]at this
  rw[this,List.getElem_set_self];exact hr
 ·rw[JS (by
   rcases Nat.lt_or_gt_of_ne pN with e9|e9
   ·have:=ew (s:=e.size) e9;left;omega
   ·have:=ew (s:=e.size) e9;right;omega) ω,List.getElem_set_ne (eH pN)]
  exact h j hj
theorem qS.append{w:World}{M:Nat→Prop}{e:Ty}{c1 c2:List Value}{l1 l2:List e.den}(h1:qS w M e c1 l1)(hl:c1.length=l1.length*e.size)(h2:qS w M e c2 l2):qS w M e (c1++c2) (l1++l2):=by
 intro i hi
 by_cases e9:i<l1.length
 ·have:=ew (s:=e.size) e9
  rw[zn ω,zm (by rw[dR];omega),Ee e9]
  exact h1 i e9
 ·rw[aS]at hi
  obtain⟨k,rfl⟩: ∃k,i=l1.length+k:=⟨i-l1.length,ω⟩
  rw[et,←hl,←jG,mX rfl,LV ω]
  simp only[zp]
  exact h2 k ω
theorem qS.take{w:World}{M:Nat→Prop}{e:Ty}{cs:List Value}{l:List e.den}(h:qS w M e cs l){n:Nat}(hn:l.length*e.size≤n):qS w M e (cs.take n) l:=by
 intro i hi
 have:=ew (s:=e.size) hi
 rw[qE,qF,iy ω]
 exact h i hi
theorem qS.more{w:World}{M:Nat→Prop}{e:Ty}{cs cs':List Value}{l:List e.den}(h:qS w M e cs l)(hl:l.length*e.size≤cs.length):qS w M e (cs++cs') l:=by
 intro i hi
 have:=ew (s:=e.size) hi
 rw[zn ω,zm (by rw[dR];omega)]
 exact h i hi
theorem qS.ca{w w':World}{M M':Nat→Prop}(k:e8 w M w' M'){e:Ty}{cs:List Value}{l:List e.den}(h:qS w M e cs l):qS w' M' e cs l:=λi hi=>(h i hi).ca k
theorem Rd.arr{w:World}{M:Nat→Prop}{n:Nat}{e:Ty}{cs:List Value}{x:(Ty.arr n e).den}:Rd w M (.arr n e) cs x↔List.length x=n∧cs.length=n*e.size∧qS w M e cs x:=by
 constructor
 ·intro h
  have hl:=h.length
  have h':=h
  simp only[Rd]at h'
  refine⟨h'.1,hl,λi hi=> ?_⟩
  have:=h.idx (i:=i) ω
  rw[kI x i e.zero hi]at this
  exact this
 ·rintro⟨hn,hl,hr⟩
  simp only[Rd]
  refine⟨hn,(List.range n).map λi=>(cs.drop (i*e.size)).take e.size,by simp,?_,λi hi m4=> ?_⟩
  ·
   have key: ∀m (l:List Value),l.length=m*e.size→l=((List.range m).map λi=>(l.drop (i*e.size)).take e.size).flatten:=by
    intro m
    induction m with
    |zero=>intro l hl;simpa using hl
    |succ m ih=>
     intro l hl
     have h1:(l.take (m*e.size)).length=m*e.size:=by rw[cc,hl,et];omega
     have h2:=ih (l.take (m*e.size)) h1
     rw[Eu,cY,List.flatten_append]
     have h3:((List.range m).map λi=>(l.drop (i*e.size)).take e.size)=(List.range m).map λi=>((l.take (m*e.size)).drop (i*e.size)).take e.size:=by
      apply qz
      intro i hi
      have:=ew (s:=e.size) (qG.1 hi)
      rw[qE,qF,iy ω]
     rw[h3,←h2]
     simp only[bX,ja,zv,List.flatten_nil,ch]
     rw[jF (l:=l.drop (m*e.size)) (by rw[dR,hl,et];omega),gi]
   exact key n cs hl
  ·simp only[List.getElem_map,Em]
   exact hr i hi
theorem oY{α:Type}{r:α}{υ:Ty}{y:υ.den}: ∀{p:List Step} {τ:Ty} {x:τ.den} {k:τ.den→Option α},vp υ y p τ x k=some r→
  ∃z,k z=some r∧Hh p τ=υ∧(xU p τ→cE p τ+υ.size≤τ.size)∧ ∀(w:World) (M:Nat→Prop) cs cs',xU p τ→Rd w M τ cs x→Rd w M υ cs' y→Rd w M τ (fb cs (cE p τ) cs') z
 |[],τ,x,k,h=>by
  obtain⟨e,h⟩:=bC (h:c7 υ τ y k=some r)
  subst e
  refine⟨y,h,rfl,λ_=>by simp[cE],λw M cs cs' _ hr eM=> ?_⟩
  unfold fb
  rw[show cE [] υ=0 from rfl,gk,eM.length,←hr.length]
  simpa using eM
 | .kC n::p,τ,x,k,h=>by
  obtain⟨υ',y',o,k',hf,hm,hk⟩:=sq (h:m1 τ x n _ k=some r)
  obtain⟨z',Bc,ht,G7,kV⟩:=oY (p:=p) (τ:=υ') (x:=y') (k:=k') hm
  obtain⟨x',oX,zN,S2⟩:=hk z' r Bc
  obtain⟨h1,h2⟩:=hf.eq
  subst h1 h2
  refine⟨x',oX,ht,λhi=>by have:=hf.bound;have:=G7 hi;simp only[cE];omega,λw M cs cs' hi hr eM=> ?_⟩
  have G7:=G7 hi
  have h3:=kV w M _ cs' hi (hf.rd hr) eM
  have h4:=S2 w M cs _ hr h3
  have hb:=hf.bound
  have Zi:=hr.length
  have hl2:=eM.length
  have YT:=h3.length
  have lT:cE p (vt τ n)+cs'.length≤((cs.drop (rP τ n)).take (vt τ n).size).length:=by
   rw[cc,dR];omega
  have:fb cs (rP τ n) (fb ((cs.drop (rP τ n)).take (vt τ n).size) (cE p (vt τ n)) cs')=fb cs (rP τ n+cE p (vt τ n)) cs':=by
   have e1:cs=cs.take (rP τ n)++(((cs.drop (rP τ n)).take (vt τ n).size)++cs.drop (rP τ n+(vt τ n).size)):=by
    rw[←jG,gi,gi]
   have e9:(cs.take (rP τ n)).length=rP τ n:=by rw[cc];omega
   conv=>rhs;rw[e1]
   rw[show rP τ n+cE p (vt τ n)=(cs.take (rP τ n)).length+cE p (vt τ n)from by rw[e9],xp,zP lT]
   generalize fb ((cs.drop (rP τ n)).take (vt τ n).size) (cE p (vt τ n)) cs'=m at YT ⊢
   unfold fb
   rw[YT,bt]
  simp only[cE]
  rw[←this]
  exact h4
 | .idx i::p,τ,x,k,h=>by
  cases τ with
  |arr n e=>
   obtain⟨z',Bc,ht,G7,kV⟩:=oY (p:=p) (τ:=e) (x:=List.getD x i e.zero) (k:=λz=>k (List.set x i z)) h
   refine⟨_,Bc,ht,λhi=>by
    obtain⟨⟨n',e',he,lT⟩,m4⟩:=hi
    cases he
    have:=G7 m4
    have hm:=ew (s:=e.size) lT
    simp only[cE,elT,Ty.size];omega,λw M cs cs' hi hr eM=> ?_⟩
   obtain⟨⟨n',e',he,lT⟩,m4⟩:=hi
   cases he
   have h3:=kV w M _ cs' m4 (hr.idx lT) eM
   obtain⟨hn,Zi,H9⟩:=Rd.arr.1 hr
   have hm:=ew (s:=e.size) lT
   have h4:=H9.set (by rw[Zi,hn];exact aG _) (i:=i) ω h3
   have hl2:=eM.length
   have YT:=h3.length
   have hch:((cs.drop (i*e.size)).take e.size).length=e.size:=by rw[cc,dR];omega
   have G7:=G7 m4
   have aqQ:cE p e+cs'.length≤((cs.drop (i*e.size)).take e.size).length:=ω
   have:fb cs (i*e.size) (fb ((cs.drop (i*e.size)).take e.size) (cE p e) cs')=fb cs (i*e.size+cE p e) cs':=by
    have e1:cs=cs.take (i*e.size)++(((cs.drop (i*e.size)).take e.size)++cs.drop (i*e.size+e.size)):=by
     rw[←jG,gi,gi]
    have e9:(cs.take (i*e.size)).length=i*e.size:=by rw[cc];omega
    conv=>rhs;rw[e1]
    rw[show i*e.size+cE p e=(cs.take (i*e.size)).length+cE p e from by rw[e9],xp,zP aqQ]
    generalize fb ((cs.drop (i*e.size)).take e.size) (cE p e) cs'=m at YT ⊢
    unfold fb
    rw[YT,bt]
   simp only[cE,elT]
   rw[←this]
   refine Rd.arr.2 ⟨by rw[bN];exact hn,?_,h4⟩
   rw[gD (by rw[YT];omega)];exact Zi
  |_=>simp[vp,DO]at h
end VM
end
