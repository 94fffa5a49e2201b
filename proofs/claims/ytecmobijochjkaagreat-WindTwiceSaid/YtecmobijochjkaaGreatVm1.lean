/- A part of the proof of WindTwice of layer 21: a machine that reads a function of the program as an equation between values. -/
import Derived.Test.YtecmobijochjkaaGreatVm0
import Derived.WalkLawsBesides
import Derived.Great.BuildSlice
import Derived.Laws.Tables
set_option linter.all false
section
namespace VM
open Go
structure Ctx where
 B:Nat
 w0:World
 M0:Nat→Prop
 may:Nat→Prop
 arg:Nat→Value
structure Mem(c:Ctx)(H:Nat→Option bl)(w:World)(M:Nat→Prop)(ν:Nat→Value):Prop where
 kZ: ∀i e,H i=some e→ER w M (ν i) e
 zL: ∀i j e e' b,i≠j→H i=some e→e.mut→H j=some e'→e'.mut→fK (ν i)=some b→fK (ν j)≠some b
 new: ∀i e b,H i=some e→e.mut→fK (ν i)=some b→c.B≤b∨c.may b
 yC: ∀i e l b,H i=some (.own e l)→fK (ν i)=some b→ ¬c.M0 b
 gd: ∀i τ x p j,H i=some (.gd τ x p j)→H j≠none∧ ∃b,ν i= .pointer (some ⟨b,0,none⟩)∧w.cell? ⟨b,cF p τ,none⟩=some (ν j)
 sub: ∀b,c.M0 b→M b
 EI: ∀b,M b→b<w.heap.size
 frame: ∀b,b<c.B→ ¬c.may b→w.heap[b]? =c.w0.heap[b]?
 size:c.B≤w.heap.size
 vt:(∀b,c.M0 b→b<c.B)∧ ∀b,c.may b→ ¬c.M0 b
 os:w.os=c.w0.os
 tape:w.tape=c.w0.tape
 output:w.output=c.w0.output
structure Tr(c:Ctx)(H:Nat→Option bl)(w:World)(M:Nat→Prop)(ν:Nat→Value)(H':Nat→Option bl)(w':World)(M':Nat→Prop)(ν':Nat→Value):Prop where
 mem:Mem c H' w' M' ν'
 ca:e8 w M w' M'
 goes:sR H ν H' ν'
theorem bl.lj.trans{a b d:bl}(h:a.lj b)(k:b.lj d):a.lj d:=by
 cases a<;>cases b<;>cases d<;>simp only[bl.lj]at h k ⊢ <;>first
  |exact h.trans k
  |exact⟨h.1.trans k.1,h.2.trans k.2⟩
theorem sR.trans{H H' H'':Nat→Option bl}{ν ν' ν'':Nat→Value}(h:sR H ν H' ν')(k:sR H' ν' H'' ν''):sR H ν H'' ν'':=by
 refine⟨λi e he=> ?_,λi hi=> ?_⟩
 ·obtain⟨e',vZ,l⟩:=h.kZ i e he
  obtain⟨e'',aq3,l'⟩:=k.kZ i e' vZ
  exact⟨e'',aq3,l.trans l'⟩
 ·obtain⟨e,he⟩:=Ed.1 hi
  obtain⟨e',vZ,_⟩:=h.kZ i e he
  rw[k.head i (by simp[vZ]),h.head i hi]
theorem Tr.trans{c:Ctx}{H H' H'':Nat→Option bl}{w w' w'':World}{M M' PL:Nat→Prop}{ν ν' ν'':Nat→Value}
  (h:Tr c H w M ν H' w' M' ν') (k:Tr c H' w' M' ν' H'' w'' PL ν''):Tr c H w M ν H'' w'' PL ν'':=
 ⟨k.mem,h.ca.trans k.ca,h.goes.trans k.goes⟩
theorem Tr.refl{c:Ctx}{H:Nat→Option bl}{w:World}{M:Nat→Prop}{ν:Nat→Value}(h:Mem c H w M ν):Tr c H w M ν H w M ν:=
 ⟨h,.refl w M,.refl H ν⟩
theorem ay(H:Nat→Option bl)(d:Nat)(v:Option bl):bY H d v d=v:=by simp[bY]
theorem az(H:Nat→Option bl){d i:Nat}(v:Option bl)(h:i≠d):bY H d v i=H i:=by
 have:Nat.beq i d=false:=by rw[←mY,vQ];exact h
 simp[bY,this]
def c4(H:Nat→Option bl):iV→(Nat→Option bl)
 |[]=>H
 |u::r=>c4 (bY H u.1 u.2) r
theorem P1(ups:iV): ∀σ:St,(σ.vR ups).H=c4 σ.H ups:=by
 induction ups with
 |nil=>intro σ;rfl
 |cons u r ih=>intro σ;exact ih _
theorem P2(ups:iV): ∀σ:St,(σ.vR ups).T=σ.T:=by
 induction ups with
 |nil=>intro σ;rfl
 |cons u r ih=>intro σ;exact ih _
theorem gr(a b:iV): ∀H,c4 H (a++b)=c4 (c4 H a) b:=by
 induction a with
 |nil=>intro H;rfl
 |cons u r ih=>intro H;exact ih _
theorem xn{H:Nat→Option bl}{id j:Nat}{v:bl}(h:H j≠none):bY H id (some v) j≠none:=by
 by_cases hj:j=id
 ·subst hj;rw[ay];simp
 ·rw[az _ _ hj];exact h
theorem JQ{H:Nat→Option bl}{w:World}{ν:Nat→Value}(h: ∀i τ x p j,H i=some (.gd τ x p j)→H j≠none∧ ∃b,ν i= .pointer (some ⟨b,0,none⟩)∧w.cell? ⟨b,cF p τ,none⟩=some (ν j)){id:Nat}{v:bl}(hv: ∀τ x p j,v≠ .gd τ x p j):
  ∀i τ x p j,bY H id (some v) i=some (.gd τ x p j)→bY H id (some v) j≠none∧ ∃b,ν i= .pointer (some ⟨b,0,none⟩)∧w.cell? ⟨b,cF p τ,none⟩=some (ν j):=by
 intro i τ x p j hi
 by_cases bX:i=id
 ·subst bX;rw[ay]at hi;cases hi;exact absurd rfl (hv _ _ _ _)
 ·rw[az _ _ bX]at hi
  obtain⟨h1,h2⟩:=h i τ x p j hi
  exact⟨xn h1,h2⟩
theorem Tr.gone{c:Ctx}{H:Nat→Option bl}{w:World}{M:Nat→Prop}{ν:Nat→Value}(h:Mem c H w M ν)(id:Nat):Tr c H w M ν (bY H id (some .gone)) w M ν:=by
 refine⟨⟨λi e he=> ?_,λi j e e' b pP hi hm hj jR=> ?_,λi e b hi hm=> ?_,λi e l b hi=> ?_,JQ h.gd (λ_ _ _ _=>by simp),h.sub,h.EI,h.frame,h.size,h.vt,h.os,h.tape,h.output⟩,.refl w M,⟨λi e he=> ?_,λ_ _=>rfl⟩⟩
 ·by_cases bf:i=id
  ·subst bf;rw[ay]at he;cases he;simp[ER]
  ·rw[az _ _ bf]at he;exact h.kZ i e he
 ·by_cases bf:i=id
  ·subst bf;rw[ay]at hi;cases hi;simp[bl.mut]at hm
  ·by_cases hjd:j=id
   ·subst hjd;rw[ay]at hj;cases hj;simp[bl.mut]at jR
   ·rw[az _ _ bf]at hi;rw[az _ _ hjd]at hj;exact h.zL i j e e' b pP hi hm hj jR
 ·by_cases bf:i=id
  ·subst bf;rw[ay]at hi;cases hi;simp[bl.mut]at hm
  ·rw[az _ _ bf]at hi;exact h.new i e b hi hm
 ·by_cases bf:i=id
  ·subst bf;rw[ay]at hi;cases hi
  ·rw[az _ _ bf]at hi;exact h.yC i e l b hi
 ·by_cases bf:i=id
  ·subst bf;exact⟨.gone,ay _ _ _,by cases e<;>simp[bl.lj]⟩
  ·exact⟨e,by rw[az _ _ bf];exact he,.refl e⟩
theorem cell_of{w:World}{b:Nat}{cs:Array Value}{t:TypeId}{fz:Nat×Nat}(h:w.heap[b]? =some (.cells cs t fz))(o:Nat):w.cell? ⟨b,o,none⟩=cs[o]? :=by
 simp[World.cell?,h]
theorem At.of_block{w:World}{b:Nat}{cs:Array Value}{t:TypeId}{fz:Nat×Nat}(h:w.heap[b]? =some (.cells cs t fz))(o n:Nat):
  At w b o ((cs.toList.drop o).take n):=by
 intro j v hj
 rw[cell_of h]
 rw[lO]at hj
 split at hj
 ·rw[lP]at hj;simpa using hj
 ·cases hj
theorem lt_of_block{w:World}{b:Nat}{o:Obj}(h:w.heap[b]? =some o):b<w.heap.size:=(kF.1 h).1
theorem ER.ca{w w':World}{M M':Nat→Prop}{v:Value}(k:e8 w M w' M'): ∀{e:bl},
  (e.mut→ ∀b,fK v=some b→w'.heap[b]? =w.heap[b]? ∧M' b)→ER w M v e→ER w' M' v e
 | .obj τ x,hm,h=>by
  simp only[ER]at h ⊢
  obtain⟨b,cs,t,rfl,hb,hM,hr⟩:=h
  obtain⟨h1,h2⟩:=hm trivial b rfl
  exact⟨b,cs,t,rfl,h1.trans hb,h2,hr.ca k⟩
 | .gd τ x p j,hm,h=>by
  simp only[ER]at h ⊢
  obtain⟨b,cs,t,sm,u,rfl,hb,hM,hr,h3⟩:=h
  obtain⟨h1,h2⟩:=hm trivial b rfl
  exact⟨b,cs,t,sm,u,rfl,h1.trans hb,h2,hr.ca k,h3⟩
 | .own e l,hm,h=>by
  simp only[ER]at h ⊢
  rcases h with h|⟨b,cs,t,cap,rfl,hb,hM,hc,hl,GX,hs,hr⟩
  ·exact .inl h
  ·obtain⟨h1,h2⟩:=hm trivial b (by simp[fK];omega)
   exact .inr ⟨b,cs,t,cap,rfl,h1.trans hb,h2,hc,hl,GX,hs,λi hi=>(hr i hi).ca k⟩
 | .oI e l,_,h=>by
  simp only[ER]at h ⊢
  exact⟨h.1.ca k,h.2⟩
 | .gone,_,_=>by simp[ER]
theorem ER.xU{w:World}{M:Nat→Prop}{v:Value}{e:bl}(h:ER w M v e)(hm:e.mut){b:Nat}(hb:fK v=some b):M b:=by
 cases e with
 |obj τ x=>simp only[ER]at h;obtain⟨b',cs,t,hv,eY,hM,_⟩:=h;rw[hv]at hb;simp only[fK,iv]at hb;subst hb;exact hM
 |gd τ x p j=>simp only[ER]at h;obtain⟨b',cs,t,_,_,hv,eY,hM,_⟩:=h;rw[hv]at hb;simp only[fK,iv]at hb;subst hb;exact hM
 |own e1 l1=>
  simp only[ER]at h
  rcases h with⟨_,a,hv⟩|⟨b',cs,t,cap,hv,eY,hM,hc,_⟩
  ·rw[hv]at hb;cases a<;>simp[fK]at hb
  ·rw[hv]at hb;simp only[fK]at hb;split at hb
   ·cases hb
   ·simp only[iv]at hb;subst hb;exact hM
 |oI _ _=>simp[bl.mut]at hm
 |gone=>simp[bl.mut]at hm
theorem Tr.freeze{c:Ctx}{H:Nat→Option bl}{w:World}{M:Nat→Prop}{ν:Nat→Value}(h:Mem c H w M ν){id:Nat}{e:Ty}{l:List e.den}(bf:H id=some (.own e l)):
  ∃M',Tr c H w M ν (bY H id (some (.oI e l))) w M' ν∧V w M' (.slice e) (ν id) l∧ ∀b,M' b↔(M b∧fK (ν id)≠some b):=by
 have hk:e8 w M w (λb=>M b∧fK (ν id)≠some b):=⟨aG _,λ_ _ _=>rfl,λ_ _ h=>h.1⟩
 have he:=h.kZ id _ bf
 have kV:Rd w (λb=>M b∧fK (ν id)≠some b) (.slice e) [ν id] l:=by
  simp only[ER]at he
  simp only[Rd]
  rcases he with⟨rfl,a,hv⟩|⟨b,cs,t,cap,hv,hb,hM,hc,hl,GX,hs,hr⟩
  ·exact⟨a,0,by rw[hv];rfl,aG _,λi hi=>absurd hi (by simp)⟩
  ·refine⟨_,cap,by rw[hv],hl,λi hi=>⟨b,0,rfl,lt_of_block hb,λhm=>hm.2 (by rw[hv];simp[fK];omega),_,?_,(hr i hi).ca hk⟩⟩
   rw[gi]
   exact At.of_block hb _ _
 refine⟨λb=>M b∧fK (ν id)≠some b,⟨⟨λi e' hi=> ?_,λi j e1 e2 b pP hi hm hj jR=> ?_,λi e1 b hi hm=> ?_,λi e1 l1 b hi=> ?_,JQ h.gd (λ_ _ _ _=>by simp),λb hb=>⟨h.sub b hb,λhm=>h.yC id e l b bf hm hb⟩,λb hb=>h.EI b hb.1,h.frame,h.size,h.vt,h.os,h.tape,h.output⟩,hk,⟨λi e' hi=> ?_,λ_ _=>rfl⟩⟩,?_,λ_=>Iff.rfl⟩
 ·by_cases bX:i=id
  ·subst bX;rw[ay]at hi;cases hi
   simp only[ER]
   refine⟨kV,?_⟩
   simp only[ER]at he
   rcases he with⟨rfl,a,hv⟩|⟨b,cs,t,cap,hv,_⟩
   ·exact .inl ⟨rfl,a,0,0,hv⟩
   ·exact .inr ⟨b,_,cap,hv⟩
  ·rw[az _ _ bX]at hi
   refine(h.kZ i e' hi).ca hk (λhm b hb=>⟨rfl,?_,?_⟩)
   ·exact(h.kZ i e' hi).xU hm hb
   ·exact h.zL i id e' (.own e l) b bX hi hm bf trivial hb
 ·by_cases bX:i=id
  ·subst bX;rw[ay]at hi;cases hi;simp[bl.mut]at hm
  ·by_cases GY:j=id
   ·subst GY;rw[ay]at hj;cases hj;simp[bl.mut]at jR
   ·rw[az _ _ bX]at hi;rw[az _ _ GY]at hj;exact h.zL i j e1 e2 b pP hi hm hj jR
 ·by_cases bX:i=id
  ·subst bX;rw[ay]at hi;cases hi;simp[bl.mut]at hm
  ·rw[az _ _ bX]at hi;exact h.new i e1 b hi hm
 ·by_cases bX:i=id
  ·subst bX;rw[ay]at hi;cases hi
  ·rw[az _ _ bX]at hi;exact h.yC i e1 l1 b hi
 ·by_cases bX:i=id
  ·subst bX;rw[bf]at hi;cases hi;exact⟨_,ay _ _ _,rfl,rfl⟩
  ·exact⟨e',by rw[az _ _ bX];exact hi,.refl e'⟩
 ·unfold V;rw[ah (by simp[Ty.isAgg])];exact kV
theorem Tr.fix{c:Ctx}{H:Nat→Option bl}{w:World}{M:Nat→Prop}{ν:Nat→Value}(h:Mem c H w M ν){id:Nat}{τ:Ty}{x:τ.den}(bf:H id=some (.obj τ x)):
  ∃M' b,Tr c H w M ν (bY H id (some .gone)) w M' ν∧ν id= .pointer (some ⟨b,0,none⟩)∧b<w.heap.size∧ ¬M' b∧ ∃cs,At w b 0 cs∧Rd w M' τ cs x:=by
 have he:=h.kZ id _ bf
 simp only[ER]at he
 obtain⟨b0,cs,t,hv,hb,hM,hr⟩:=he
 have wa:fK (ν id)=some b0:=by rw[hv];rfl
 have hk:e8 w M w (λb=>M b∧b≠b0):=⟨aG _,λ_ _ _=>rfl,λ_ _ h=>h.1⟩
 have H4: ¬c.M0 b0:=λhm=>(h.new id _ b0 bf trivial wa).elim (λhB=>by have:=h.vt.1 b0 hm;omega) (λhB=>h.vt.2 b0 hB hm)
 refine⟨λb=>M b∧b≠b0,b0,⟨⟨λi e' hi=> ?_,λi j e1 e2 b pP hi hm hj jR=> ?_,λi e1 b hi hm=> ?_,λi e1 l1 b hi=> ?_,JQ h.gd (λ_ _ _ _=>by simp),λb eY=>⟨h.sub b eY,λe=>H4 (e▸eY)⟩,λb eY=>h.EI b eY.1,h.frame,h.size,h.vt,h.os,h.tape,h.output⟩,hk,⟨λi e' hi=> ?_,λ_ _=>rfl⟩⟩,hv,lt_of_block hb,λhm=>hm.2 rfl,cs.toList,?_,hr.ca hk⟩
 ·by_cases bX:i=id
  ·subst bX;rw[ay]at hi;cases hi;simp[ER]
  ·rw[az _ _ bX]at hi
   refine(h.kZ i e' hi).ca hk (λhm b eY=>⟨rfl,?_,?_⟩)
   ·exact(h.kZ i e' hi).xU hm eY
   ·intro e
    exact h.zL i id e' (.obj τ x) b bX hi hm bf trivial eY (by rw[wa,e])
 ·by_cases bX:i=id
  ·subst bX;rw[ay]at hi;cases hi;simp[bl.mut]at hm
  ·by_cases GY:j=id
   ·subst GY;rw[ay]at hj;cases hj;simp[bl.mut]at jR
   ·rw[az _ _ bX]at hi;rw[az _ _ GY]at hj;exact h.zL i j e1 e2 b pP hi hm hj jR
 ·by_cases bX:i=id
  ·subst bX;rw[ay]at hi;cases hi;simp[bl.mut]at hm
  ·rw[az _ _ bX]at hi;exact h.new i e1 b hi hm
 ·by_cases bX:i=id
  ·subst bX;rw[ay]at hi;cases hi
  ·rw[az _ _ bX]at hi;exact h.yC i e1 l1 b hi
 ·by_cases bX:i=id
  ·subst bX;rw[bf]at hi;cases hi;exact⟨_,ay _ _ _,trivial⟩
  ·exact⟨e',by rw[az _ _ bX];exact hi,.refl e'⟩
 ·have:=At.of_block hb 0 cs.toList.length
  rwa [cZ,iY]at this
end VM
end
section
namespace VM
open Go
theorem EJ(w:World)(o:Obj):(w.alloc o).heap[w.heap.size]? =some o:=by
 show(w.heap.push o)[w.heap.size]? =some o
 simp
theorem ql(w:World)(o:Obj){i:Nat}(h:i<w.heap.size):(w.alloc o).heap[i]? =w.heap[i]? :=by
 show(w.heap.push o)[i]? =w.heap[i]?
 rw[Array.getElem?_push,ah (Nat.ne_of_lt h)]
theorem size_alloc(w:World)(o:Obj):(w.alloc o).heap.size=w.heap.size+1:=by
 show(w.heap.push o).size=_
 simp
def dh(ν:Nat→Value)(d:Nat)(v:Value):Nat→Value:=λi=>if i=d then v else ν i
theorem qQ{c:Ctx}{H:Nat→Option bl}{w w':World}{M:Nat→Prop}{ν ν':Nat→Value}(h:Mem c H w M ν){H':Nat→Option bl}
  (hν: ∀i,H i≠none→ν' i=ν i) (hn: ∀i,H i≠none→H' i≠none)
  (hi: ∀i τ x p j,H' i=some (.gd τ x p j)→(H i=some (.gd τ x p j)∧ ∀b,ν i= .pointer (some ⟨b,0,none⟩)→w'.heap[b]? =w.heap[b]?)∨(H' j≠none∧ ∃b,ν' i= .pointer (some ⟨b,0,none⟩)∧w'.cell? ⟨b,cF p τ,none⟩=some (ν' j))):
  ∀i τ x p j,H' i=some (.gd τ x p j)→H' j≠none∧ ∃b,ν' i= .pointer (some ⟨b,0,none⟩)∧w'.cell? ⟨b,cF p τ,none⟩=some (ν' j):=by
 intro i τ x p j he
 rcases hi i τ x p j he with⟨h1,hb⟩|h1
 ·obtain⟨h2,b,h3,h4⟩:=h.gd i τ x p j h1
  refine⟨hn j h2,b,by rw[hν i (by rw[h1];simp)];exact h3,?_⟩
  rw[hν j h2,World.cell?_of_block (w:=w) (hb b h3)]
  exact h4
 ·exact h1
theorem xp{H:Nat→Option bl}{id:Nat}{v:bl}: ∀i,H i≠none→bY H id (some v) i≠none:=λ_ h=>xn h
theorem zM{H:Nat→Option bl}{id:Nat}{v:bl}(hv: ∀τ x p j,v≠ .gd τ x p j){i:Nat}{τ:Ty}{x:τ.den}{p:List Step}{j:Nat}(h:bY H id (some v) i=some (.gd τ x p j)):H i=some (.gd τ x p j):=by
 by_cases bX:i=id
 ·subst bX;rw[ay]at h;cases h;exact absurd rfl (hv _ _ _ _)
 ·rw[az _ _ bX]at h;exact h
theorem Tr.alloc{c:Ctx}{H:Nat→Option bl}{w:World}{M:Nat→Prop}{ν:Nat→Value}(h:Mem c H w M ν){id:Nat}(bf:H id=none)(o:Obj)(v:Value)(e:bl)(hm:e.mut)(H5: ∀τ x p j,e≠ .gd τ x p j)
  (hb:fK v=none∨fK v=some w.heap.size) (S8:ER (w.alloc o) (λb=>M b∨b=w.heap.size) v e):
  Tr c H w M ν (bY H id (some e)) (w.alloc o) (λb=>M b∨b=w.heap.size) (dh ν id v):=by
 have hk:e8 w M (w.alloc o) (λb=>M b∨b=w.heap.size):=
  ⟨by rw[size_alloc];omega,λb hb _=>ql w o hb,λb hb h'=>h'.resolve_right ω⟩
 have hν: ∀i,i≠id→dh ν id v i=ν i:=λi hi=>by simp[dh,hi]
 have Da:dh ν id v id=v:=by simp[dh]
 have e9: ∀i e' b,H i=some e'→e'.mut→fK (ν i)=some b→b<w.heap.size:=λi e' b hi jR eY=>h.EI b ((h.kZ i e' hi).xU jR eY)
 refine⟨⟨λi e' hi=> ?_,λi j e1 e2 b pP hi tp hj ym=> ?_,λi e1 b hi tp=> ?_,λi e1 l1 b hi=> ?_,qQ h (λi hi=>hν i (λe=>hi (e▸bf))) xp (λi τ x p j hi=> .inl ⟨zM H5 hi,λb hb=>ql w o (e9 i _ b (zM H5 hi) trivial (by rw[hb];rfl))⟩),λb hb=> .inl (h.sub b hb),λb eY=> ?_,λb my tS=> ?_,?_,h.vt,h.os,h.tape,h.output⟩,hk,⟨λi e' hi=> ?_,λi hi=> ?_⟩⟩
 ·by_cases bX:i=id
  ·subst bX;rw[ay]at hi;cases hi;rw[Da];exact S8
  ·rw[az _ _ bX]at hi;rw[hν i bX]
   exact(h.kZ i e' hi).ca hk λjR b eY=>⟨ql w o (e9 i e' b hi jR eY),.inl ((h.kZ i e' hi).xU jR eY)⟩
 ·by_cases bX:i=id
  ·subst bX;rw[ay]at hi;cases hi;rw[Da]
   intro my
   have GY:j≠i:=eJ pP
   rw[az _ _ GY]at hj;rw[hν j GY]
   intro tS
   have:=e9 j e2 b hj ym tS
   rcases hb with hb|hb<;>rw[hb]at my<;>simp at my
   omega
  ·rw[az _ _ bX]at hi;rw[hν i bX]
   by_cases GY:j=id
   ·subst GY;rw[Da]
    intro my tS
    have:=e9 i e1 b hi tp my
    rcases hb with hb|hb<;>rw[hb]at tS<;>simp at tS
    omega
   ·rw[az _ _ GY]at hj;rw[hν j GY];exact h.zL i j e1 e2 b pP hi tp hj ym
 ·by_cases bX:i=id
  ·subst bX;rw[Da]
   intro my
   rcases hb with hb|hb<;>rw[hb]at my<;>simp at my
   subst my;exact .inl h.size
  ·rw[az _ _ bX]at hi;rw[hν i bX];exact h.new i e1 b hi tp
 ·by_cases bX:i=id
  ·subst bX;rw[Da]
   intro my h0
   rcases hb with hb|hb<;>rw[hb]at my<;>simp at my
   have:=h.vt.1 b h0
   have:=h.size
   omega
  ·rw[az _ _ bX]at hi;rw[hν i bX];exact h.yC i e1 l1 b hi
 ·rw[size_alloc]
  rcases eY with eY|eY
  ·have:=h.EI b eY;omega
  ·omega
 ·rw[ql w o (mW my h.size)];exact h.frame b my tS
 ·rw[size_alloc];have:=h.size;omega
 ·by_cases bX:i=id
  ·subst bX;rw[bf]at hi;cases hi
  ·exact⟨e',by rw[az _ _ bX];exact hi,.refl e'⟩
 ·have bX:i≠id:=λe=>hi (e▸bf)
  exact hν i bX
theorem Tr.var{c:Ctx}{H:Nat→Option bl}{w:World}{M:Nat→Prop}{ν:Nat→Value}(h:Mem c H w M ν){id:Nat}(bf:H id=none)(t:TypeId){τ:Ty}{cs:Array Value}{x:τ.den}(hr:Rd w M τ cs.toList x):
  Tr c H w M ν (bY H id (some (.obj τ x))) (w.alloc (.cells cs t)) (λb=>M b∨b=w.heap.size) (dh ν id (.pointer (some ⟨w.heap.size,0,none⟩))):=by
 refine Tr.alloc h bf _ _ _ trivial (λ_ _ _ _=>by simp) (.inr rfl) ?_
 simp only[ER]
 have hk:e8 w M (w.alloc (.cells cs t)) (λb=>M b∨b=w.heap.size):=
  ⟨by rw[size_alloc];omega,λb hb _=>ql w _ hb,λb hb h'=>h'.resolve_right ω⟩
 exact⟨w.heap.size,cs,t,rfl,EJ w _,.inr rfl,hr.ca hk⟩
theorem Tr.row{c:Ctx}{H:Nat→Option bl}{w:World}{M:Nat→Prop}{ν:Nat→Value}(h:Mem c H w M ν){id:Nat}(bf:H id=none)(t:TypeId){e:Ty}{cs:Array Value}{l:List e.den}{cap:Nat}
  (hl:l.length≤cap) (hm:cap≤maxLen) (hs:cs.size=cap*e.size) (hr: ∀i (hi:i<l.length),Rd w M e ((cs.toList.drop (i*e.size)).take e.size) l[i]):
  Tr c H w M ν (bY H id (some (.own e l))) (w.alloc (.cells cs t)) (λb=>M b∨b=w.heap.size) (dh ν id (.slice (some ⟨w.heap.size,0,none⟩) l.length cap)):=by
 have hk:e8 w M (w.alloc (.cells cs t)) (λb=>M b∨b=w.heap.size):=
  ⟨by rw[size_alloc];omega,λb hb _=>ql w _ hb,λb hb h'=>h'.resolve_right ω⟩
 refine Tr.alloc h bf _ _ _ trivial (λ_ _ _ _=>by simp) ?_ ?_
 ·simp only[fK];split
  ·exact .inl rfl
  ·exact .inr rfl
 ·simp only[ER]
  by_cases hc:cap=0
  ·subst hc
   have hl0:l=[]:=tT ω
   subst hl0
   exact .inl ⟨rfl,_,rfl⟩
  ·exact .inr ⟨w.heap.size,cs,t,cap,rfl,EJ w _,.inr rfl,ω,hl,hm,hs,λi hi=>(hr i hi).ca hk⟩
theorem Tr.drew{c:Ctx}{H:Nat→Option bl}{w:World}{M:Nat→Prop}{ν:Nat→Value}(h:Mem c H w M ν):Tr c H w M ν H w.drew M ν:=by
 have hk:e8 w M w.drew M:=⟨aG _,λ_ _ _=>rfl,λ_ _ h=>h⟩
 exact⟨⟨λi e he=>(h.kZ i e he).ca hk λhm b hb=>⟨rfl,(h.kZ i e he).xU hm hb⟩,h.zL,h.new,h.yC,h.gd,h.sub,h.EI,h.frame,h.size,h.vt,h.os,h.tape,h.output⟩,hk,.refl H ν⟩
theorem size_setRow(w:World)(g:Nat)(cs:Array Value):(w.setRow g cs).heap.size=w.heap.size:=by simp[World.setRow]
theorem Tr.write{c:Ctx}{H:Nat→Option bl}{w:World}{M:Nat→Prop}{ν:Nat→Value}(h:Mem c H w M ν){id:Nat}{e e':bl}(bf:H id=some e)(hm:e.mut)(jR:e'.mut)(hl:e.lj e')
  {b:Nat} (hb:fK (ν id)=some b) {cs new:Array Value} {t:TypeId} (hg:w.heap[b]? =some (.cells cs t (0,0)))
  (S8: ∀M',e8 w M (w.setRow b new) M'→M' b→ER (w.setRow b new) M' (ν id) e')
  (sS: ∀τ x p j,e'= .gd τ x p j→H j≠none∧ ∃b',ν id= .pointer (some ⟨b',0,none⟩)∧(w.setRow b new).cell? ⟨b',cF p τ,none⟩=some (ν j):=by intro _ _ _ _ h;cases h):
  Tr c H w M ν (bY H id (some e')) (w.setRow b new) M ν:=by
 have hMb:M b:=(h.kZ id e bf).xU hm hb
 have hk:e8 w M (w.setRow b new) M:=
  ⟨by rw[size_setRow];exact aG _,λb' _ hm=>setRow_other w b b' new (λe=>hm (e▸hMb)),λ_ _ h=>h⟩
 refine⟨⟨λi e1 hi=> ?_,λi j e1 e2 b1 pP hi tp hj ym=> ?_,λi e1 b1 hi tp=> ?_,λi e1 l1 b1 hi=> ?_,qQ h (λ_ _=>rfl) xp (λi τ x p j hi=> ?_),h.sub,λb1 my=>by rw[size_setRow];exact h.EI b1 my,λb1 my tS=> ?_,by rw[size_setRow];exact h.size,h.vt,h.os,h.tape,h.output⟩,hk,⟨λi e1 hi=> ?_,λi hi=>rfl⟩⟩
 ·by_cases bX:i=id
  ·subst bX;rw[ay]at hi;cases hi;exact S8 M hk hMb
  ·rw[az _ _ bX]at hi
   exact(h.kZ i e1 hi).ca hk λtp b1 my=>⟨setRow_other w b b1 new (λe'=>h.zL i id e1 e b1 bX hi tp bf hm my (e'▸hb)),(h.kZ i e1 hi).xU tp my⟩
 ·by_cases bX:i=id
  ·subst bX;rw[ay]at hi;cases hi
   have GY:j≠i:=eJ pP
   rw[az _ _ GY]at hj
   exact h.zL i j e e2 b1 pP bf hm hj ym
  ·rw[az _ _ bX]at hi
   by_cases GY:j=id
   ·subst GY;exact h.zL i j e1 e b1 pP hi tp bf hm
   ·rw[az _ _ GY]at hj;exact h.zL i j e1 e2 b1 pP hi tp hj ym
 ·by_cases bX:i=id
  ·subst bX;exact h.new i e b1 bf hm
  ·rw[az _ _ bX]at hi;exact h.new i e1 b1 hi tp
 ·by_cases bX:i=id
  ·subst bX;rw[ay]at hi;cases hi
   cases e with
   |own e0 l0=>exact h.yC i e0 l0 b1 bf
   |obj _ _=>simp[bl.lj]at hl
   |gd _ _ _ _=>simp[bl.lj]at hl
   |oI _ _=>simp[bl.mut]at hm
   |gone=>simp[bl.mut]at hm
  ·rw[az _ _ bX]at hi;exact h.yC i e1 l1 b1 hi
 ·by_cases bX:i=id
  ·subst bX;rw[ay]at hi;cases hi
   obtain⟨h1,h2⟩:=sS _ _ _ _ rfl
   exact .inr ⟨xn h1,h2⟩
  ·rw[az _ _ bX]at hi
   exact .inl ⟨hi,λb1 my=>setRow_other w b b1 new (λe1=>h.zL i id _ e b1 bX hi trivial bf hm (by rw[my];rfl) (e1▸hb))⟩
 ·rw[setRow_other w b b1 new]
  ·exact h.frame b1 my tS
  ·intro hbb;subst hbb
   rcases h.new id e b1 bf hm hb with h'|h'
   ·omega
   ·exact tS h'
 ·by_cases bX:i=id
  ·subst bX;rw[bf]at hi;cases hi;exact⟨e',ay _ _ _,hl⟩
  ·exact⟨e1,by rw[az _ _ bX];exact hi,.refl e1⟩
theorem Tr.rename{c:Ctx}{H:Nat→Option bl}{w:World}{M:Nat→Prop}{ν:Nat→Value}(h:Mem c H w M ν){j id:Nat}{e e':Ty}{l:List e.den}{l':List e'.den}(hj:H j=some (.own e l))(bf:H id=none)
  {v:Value} (hb:fK v=none∨fK v=fK (ν j)) (S8:ER w M v (.own e' l')):
  Tr c H w M ν (bY (bY H j (some .gone)) id (some (.own e' l'))) w M (dh ν id v):=by
 have jB:j≠id:=λe=>by rw[e,bf]at hj;cases hj
 have h1:=(Tr.gone h j).mem
 have px:bY H j (some .gone) id=none:=by rw[az _ _ (eJ jB)];exact bf
 have hν: ∀i,i≠id→dh ν id v i=ν i:=λi hi=>by simp[dh,hi]
 have Da:dh ν id v id=v:=by simp[dh]
 refine⟨⟨λi e1 hi=> ?_,λi k e1 e2 b1 pP hi tp hk ym=> ?_,λi e1 b1 hi tp=> ?_,λi e1 l1 b1 hi=> ?_,qQ h1 (λi hi=>hν i (λe=>hi (e▸px))) xp (λi τ x p j hi=> .inl ⟨zM (λ_ _ _ _=>by simp) hi,λ_ _=>rfl⟩),h.sub,h.EI,h.frame,h.size,h.vt,h.os,h.tape,h.output⟩,.refl w M,⟨λi e1 hi=> ?_,λi hi=> ?_⟩⟩
 ·by_cases bX:i=id
  ·subst bX;rw[ay]at hi;cases hi;rw[Da];exact S8
  ·rw[az _ _ bX]at hi;rw[hν i bX];exact h1.kZ i e1 hi
 ·by_cases bX:i=id
  ·subst bX;rw[ay]at hi;cases hi;rw[Da]
   have Mi:k≠i:=eJ pP
   rw[az _ _ Mi]at hk;rw[hν k Mi]
   intro my
   rcases hb with hb|hb
   ·rw[hb]at my;cases my
   ·rw[hb]at my
    by_cases hkj:k=j
    ·subst hkj;rw[ay]at hk;cases hk;simp[bl.mut]at ym
    ·rw[az _ _ hkj]at hk;exact h.zL j k _ e2 b1 (eJ hkj) hj trivial hk ym my
  ·rw[az _ _ bX]at hi;rw[hν i bX]
   by_cases Mi:k=id
   ·subst Mi;rw[Da]
    intro my tS
    rcases hb with hb|hb
    ·rw[hb]at tS;cases tS
    ·rw[hb]at tS
     by_cases He:i=j
     ·subst He;rw[ay]at hi;cases hi;simp[bl.mut]at tp
     ·rw[az _ _ He]at hi;exact h.zL j i _ e1 b1 (eJ He) hj trivial hi tp tS my
   ·rw[az _ _ Mi]at hk;rw[hν k Mi];exact h1.zL i k e1 e2 b1 pP hi tp hk ym
 ·by_cases bX:i=id
  ·subst bX;rw[Da];intro my
   rcases hb with hb|hb
   ·rw[hb]at my;cases my
   ·rw[hb]at my;exact h.new j _ b1 hj trivial my
  ·rw[az _ _ bX]at hi;rw[hν i bX];exact h1.new i e1 b1 hi tp
 ·by_cases bX:i=id
  ·subst bX;rw[Da];intro my
   rcases hb with hb|hb
   ·rw[hb]at my;cases my
   ·rw[hb]at my;exact h.yC j e l b1 hj my
  ·rw[az _ _ bX]at hi;rw[hν i bX];exact h1.yC i e1 l1 b1 hi
 ·by_cases He:i=j
  ·subst He;exact⟨.gone,by rw[az _ _ jB,ay],by cases e1<;>simp[bl.lj]⟩
  ·have bX:i≠id:=λe=>by rw[e,bf]at hi;cases hi
   exact⟨e1,by rw[az _ _ bX,az _ _ He];exact hi,.refl e1⟩
 ·exact hν i (λe=>hi (e▸bf))
theorem Tr.Hf{c:Ctx}{H:Nat→Option bl}{w:World}{M:Nat→Prop}{ν:Nat→Value}(h:Mem c H w M ν){id:Nat}{e e':bl}(bf:H id=some e)(hm:e.mut)(jR:e'.mut)(hl:e.lj e')(vA: ∀e0 l0,e'≠ .own e0 l0)
  (S8:ER w M (ν id) e') (sS: ∀τ x p j,e'= .gd τ x p j→H j≠none∧ ∃b',ν id= .pointer (some ⟨b',0,none⟩)∧w.cell? ⟨b',cF p τ,none⟩=some (ν j)):
  Tr c H w M ν (bY H id (some e')) w M ν:=by
 refine⟨⟨λi e1 hi=> ?_,λi j e1 e2 b1 pP hi tp hj ym=> ?_,λi e1 b1 hi tp=> ?_,λi e1 l1 b1 hi=> ?_,qQ h (λ_ _=>rfl) xp (λi τ x p j hi=> ?_),h.sub,h.EI,h.frame,h.size,h.vt,h.os,h.tape,h.output⟩,.refl w M,⟨λi e1 hi=> ?_,λi hi=>rfl⟩⟩
 ·by_cases bX:i=id
  ·subst bX;rw[ay]at hi;cases hi;exact S8
  ·rw[az _ _ bX]at hi;exact h.kZ i e1 hi
 ·by_cases bX:i=id
  ·subst bX;rw[ay]at hi;cases hi
   have GY:j≠i:=eJ pP
   rw[az _ _ GY]at hj
   exact h.zL i j e e2 b1 pP bf hm hj ym
  ·rw[az _ _ bX]at hi
   by_cases GY:j=id
   ·subst GY;exact h.zL i j e1 e b1 pP hi tp bf hm
   ·rw[az _ _ GY]at hj;exact h.zL i j e1 e2 b1 pP hi tp hj ym
 ·by_cases bX:i=id
  ·subst bX;exact h.new i e b1 bf hm
  ·rw[az _ _ bX]at hi;exact h.new i e1 b1 hi tp
 ·by_cases bX:i=id
  ·subst bX;rw[ay]at hi;cases hi;exact absurd rfl (vA _ _)
  ·rw[az _ _ bX]at hi;exact h.yC i e1 l1 b1 hi
 ·by_cases bX:i=id
  ·subst bX;rw[ay]at hi;cases hi
   obtain⟨h1,h2⟩:=sS _ _ _ _ rfl
   exact .inr ⟨xn h1,h2⟩
  ·rw[az _ _ bX]at hi;exact .inl ⟨hi,λ_ _=>rfl⟩
 ·by_cases bX:i=id
  ·subst bX;rw[bf]at hi;cases hi;exact⟨e',ay _ _ _,hl⟩
  ·exact⟨e1,by rw[az _ _ bX];exact hi,.refl e1⟩
theorem Tr.nothing{c:Ctx}{w:World}{M:Nat→Prop}{ν:Nat→Value}{H:Nat→Option bl}(h:Mem c H w M ν){id:Nat}(bf:H id=none)(e:Ty)(ad:Option Addr):
  Tr c H w M ν (bY H id (some (.own e []))) w M (dh ν id (.slice ad 0 0)):=by
 have hν: ∀i,i≠id→dh ν id (.slice ad 0 0) i=ν i:=λi hi=>by simp[dh,hi]
 have Da:dh ν id (.slice ad 0 0) id= .slice ad 0 0:=by simp[dh]
 have hb:fK (.slice ad 0 0)=none:=by cases ad<;>simp[fK]
 refine⟨⟨λi e1 hi=> ?_,λi k e1 e2 b1 pP hi tp hk ym=> ?_,λi e1 b1 hi tp=> ?_,λi e1 l1 b1 hi=> ?_,qQ h (λi hi=>hν i (λe=>hi (e▸bf))) xp (λi τ x p j hi=> .inl ⟨zM (λ_ _ _ _=>by simp) hi,λ_ _=>rfl⟩),h.sub,h.EI,h.frame,h.size,h.vt,h.os,h.tape,h.output⟩,.refl w M,⟨λi e1 hi=> ?_,λi hi=>hν i (λe=>hi (e▸bf))⟩⟩
 ·by_cases bX:i=id
  ·subst bX;rw[ay]at hi;cases hi;rw[Da];simp only[ER];exact .inl ⟨trivial,ad,rfl⟩
  ·rw[az _ _ bX]at hi;rw[hν i bX];exact h.kZ i e1 hi
 ·by_cases bX:i=id
  ·subst bX;rw[Da,hb];intro h';cases h'
  ·rw[az _ _ bX]at hi;rw[hν i bX]
   by_cases Mi:k=id
   ·subst Mi;rw[Da,hb];intro _ h';cases h'
   ·rw[az _ _ Mi]at hk;rw[hν k Mi];exact h.zL i k e1 e2 b1 pP hi tp hk ym
 ·by_cases bX:i=id
  ·subst bX;rw[Da,hb];intro h';cases h'
  ·rw[az _ _ bX]at hi;rw[hν i bX];exact h.new i e1 b1 hi tp
 ·by_cases bX:i=id
  ·subst bX;rw[Da,hb];intro h';cases h'
  ·rw[az _ _ bX]at hi;rw[hν i bX];exact h.yC i e1 l1 b1 hi
 ·have bX:i≠id:=λe=>by rw[e,bf]at hi;cases hi
  exact⟨e1,by rw[az _ _ bX];exact hi,.refl e1⟩
end VM
end
section
namespace VM
open Go
theorem bB{α:Type}{υ τ:Ty}{y:υ.den}{k:τ.den→Option α}{r:α}(h:c8 υ τ y k=some r): ∃e:υ=τ,k (e▸y)=some r:=by
 unfold c8 at h
 split at h
 ·rename_i e;exact⟨e,h⟩
 ·cases h
theorem fW{α:Type}{υ τ:Ty}{k:Option α}{r:α}(h:m5 υ τ k=some r):υ=τ∧k=some r:=by
 unfold m5 at h
 split at h
 ·rename_i e;exact⟨e,h⟩
 ·cases h
theorem V.slice{w:World}{M:Nat→Prop}{e:Ty}{v:Value}{l:List e.den}:V w M (.slice e) v l↔Rd w M (.slice e) [v] l:=by
 unfold V;rw[ah (by simp[Ty.isAgg])]
def Fz(H H1:Nat→Option bl):Prop:= ∀i,H1 i=H i∨ ∃e l,H i=some (.own e l)∧H1 i=some (.oI e l)
theorem Fz.refl(H:Nat→Option bl):Fz H H:=λ_=> .inl rfl
theorem Fz.none{H H1:Nat→Option bl}(h:Fz H H1){i:Nat}(hi:H i=none):H1 i=none:=by
 rcases h i with h'|⟨e,l,h',_⟩
 ·rw[h',hi]
 ·rw[hi]at h';cases h'
theorem Fz.obj{H H1:Nat→Option bl}(h:Fz H H1){i:Nat}{τ:Ty}{x:τ.den}(hi:H i=some (.obj τ x)):H1 i=some (.obj τ x):=by
 rcases h i with h'|⟨e,l,h',_⟩
 ·rw[h',hi]
 ·rw[hi]at h';cases h'
theorem Bd{H:Nat→Option bl}{id:Nat}{e:Option bl}(h:H id=e):bY H id e=H:=by
 funext i
 by_cases hi:i=id
 ·subst hi;rw[ay,h]
 ·rw[az _ _ hi]
theorem n7{α:Type}{c:Ctx}{H H1:Nat→Option bl}{w:World}{M:Nat→Prop}{ν:Nat→Value}(hz:Fz H H1)(hm:Mem c H1 w M ν){a:bC}{v:Value}(hv:VR w M H1 ν a v){τ:Ty}
  {k:τ.den→List Nat→iV→Option α} {r:α} (h:lX true a H τ k=some r):
  ∃y rd ups M',k y rd ups=some r∧Tr c H1 w M ν (c4 H1 ups) w M' ν∧V w M' τ v y∧Fz H (c4 H1 ups)∧ ∀i,rd.contains i=false→c4 H1 ups i=H1 i:=by
 unfold lX at h
 split at h
 ·
  obtain⟨e,h⟩:=bB h
  subst e
  simp only[VR]at hv
  exact⟨_,[],[],M,h,.refl hm,hv,hz,λ_ _=>rfl⟩
 ·
  obtain⟨e,h⟩:=bB h
  subst e
  simp only[VR]at hv
  exact⟨_,[],[],M,h,.refl hm,hv.1,hz,λ_ _=>rfl⟩
 ·
  split at h
  ·rename_i e k' _
   simp only[VR]at hv
   obtain⟨a,rfl⟩:=hv
   refine⟨[],[],[],M,h,.refl hm,V.slice.2 ?_,hz,λ_ _=>rfl⟩
   simp only[Rd]
   exact⟨a,0,rfl,aG _,λi hi=>absurd hi (by simp)⟩
  ·cases h
 ·rename_i id
  simp only[VR]at hv
  obtain⟨_,rfl⟩:=hv
  split at h
  ·rename_i e l bf
   obtain⟨e',h⟩:=bB h
   subst e'
   rcases hz id with h1|⟨e1,l1,h1,h2⟩
   ·rw[bf]at h1
    obtain⟨M',il,hV,_⟩:=Tr.freeze hm h1
    refine⟨_,_,_,M',h,il,hV,λi=> ?_,λi hi=>az _ _ (by simpa using hi)⟩
    show bY H1 id (some (.oI e l)) i=H i∨_
    by_cases hi:i=id
    ·subst hi;exact .inr ⟨e,l,bf,ay _ _ _⟩
    ·rw[az _ _ hi]
     rcases hz i with h'|⟨e2,l2,h2,h3⟩
     ·exact .inl h'
     ·exact .inr ⟨e2,l2,h2,by show bY H1 id _ i=_;rw[az _ _ hi];exact h3⟩
   ·rw[bf]at h1;cases h1
    have:=hm.kZ id _ h2
    simp only[ER]at this
    refine⟨_,_,[(id,some (.oI e l))],M,h,?_,V.slice.2 this.1,?_,λi hi=>az _ _ (by simpa using hi)⟩
    ·show Tr c H1 w M ν (bY H1 id (some (.oI e l))) w M ν
     rw[Bd h2];exact .refl hm
    ·show Fz H (bY H1 id (some (.oI e l)))
     rw[Bd h2];exact hz
  ·rename_i e l bf
   obtain⟨e',h⟩:=bB h
   subst e'
   have h1:H1 id=some (.oI e l):=by
    rcases hz id with h1|⟨e1,l1,h1,h2⟩
    ·rw[h1,bf]
    ·rw[bf]at h1;cases h1
   have:=hm.kZ id _ h1
   simp only[ER]at this
   exact⟨_,_,_,M,h,.refl hm,V.slice.2 this.1,hz,λ_ _=>rfl⟩
  ·cases h
 ·cases h
def Src(w:World)(M:Nat→Prop)(e:Ty)(v:Value)(l:List e.den):Prop:=
 ∃a cap,v= .slice a l.length cap∧ ∀i (h:i<l.length),∃b off cs,a=some ⟨b,off,none⟩∧At w b (off+i*e.size) cs∧Rd w M e cs l[i]
theorem Src.Zp{w:World}{M:Nat→Prop}{e:Ty}{v:Value}{l:List e.den}(h:V w M (.slice e) v l):Src w M e v l:=by
 have h:=V.slice.1 h
 simp only[Rd,fh,eS]at h
 obtain⟨a,cap,rfl,_,hr⟩:=h
 refine⟨a,cap,rfl,λi hi=> ?_⟩
 obtain⟨b,off,ha,_,_,cs,pZ,kV⟩:=hr i hi
 exact⟨b,off,cs,ha,pZ,kV⟩
theorem Cd{α:Type}{c:Ctx}{H:Nat→Option bl}{w:World}{M:Nat→Prop}{ν:Nat→Value}(hm:Mem c H w M ν){a:bC}{v:Value}(hv:VR w M H ν a v){e:Ty}
  {k:List e.den→List Nat→iV→Option α} {r:α} (h:lX false a H (.slice e) k=some r):
  ∃y rd,k y rd []=some r∧Src w M e v y:=by
 unfold lX at h
 split at h
 ·obtain⟨e',h⟩:=bB h
  subst e'
  simp only[VR]at hv
  exact⟨_,[],h,.Zp hv⟩
 ·obtain⟨e',h⟩:=bB h
  subst e'
  simp only[VR]at hv
  exact⟨_,[],h,.Zp hv.1⟩
 ·have h:k [] [] []=some r:=h
  simp only[VR]at hv
  obtain⟨a,rfl⟩:=hv
  exact⟨[],[],h,a,0,rfl,λi hi=>absurd hi (by simp)⟩
 ·rename_i id
  simp only[VR]at hv
  obtain⟨_,rfl⟩:=hv
  split at h
  ·rename_i e1 l bf
   obtain⟨e',h⟩:=bB h
   cases e'
   refine⟨_,_,h,?_⟩
   have:=hm.kZ id _ bf
   simp only[ER]at this
   rcases this with⟨rfl,a,hv⟩|⟨b,cs,t,cap,hv,hb,hM,hc,hl,GX,hs,hr⟩
   ·exact⟨a,0,hv,λi hi=>absurd hi (by simp)⟩
   ·refine⟨_,cap,hv,λi hi=>⟨b,0,_,rfl,?_,hr i hi⟩⟩
    rw[gi]
    exact At.of_block hb _ _
  ·rename_i e1 l bf
   obtain⟨e',h⟩:=bB h
   cases e'
   have:=hm.kZ id _ bf
   simp only[ER]at this
   exact⟨_,_,h,.Zp (V.slice.2 this.1)⟩
  ·cases h
 ·cases h
theorem Src.cells{w:World}{M:Nat→Prop}{e:Ty}{v:Value}{l:List e.den}(h:Src w M e v l)(jB:l≠[]):
  ∃b off cap news,v= .slice (some ⟨b,off,none⟩) l.length cap∧news.length=l.length*e.size∧At w b off news∧
   (∀i (hi:i<l.length),Rd w M e ((news.drop (i*e.size)).take e.size) l[i])∧ ∀u∈news,u.oneCell'=true:=by
 obtain⟨a,cap,rfl,hr⟩:=h
 have h0:0<l.length:=si.2 jB
 obtain⟨b,off,_,ha,_⟩:=hr 0 h0
 subst ha
 have key: ∀n,n≤l.length→ ∃news:List Value,news.length=n*e.size∧At w b off news∧
   (∀i (hi:i<l.length),i<n→Rd w M e ((news.drop (i*e.size)).take e.size) l[i])∧ ∀u∈news,u.oneCell'=true:=by
  intro n
  induction n with
  |zero=>exact λ_=>⟨[],by simp,λj v hj=>by simp at hj,λi _ hi=>ω,by simp⟩
  |succ n ih=>
   intro hn
   obtain⟨news,hl,pZ,kV,ag6⟩:=ih ω
   obtain⟨b',ax7,cs,ha,aq5,S9⟩:=hr n ω
   cases ha
   refine⟨news++cs,by rw[aS,hl,S9.length,eu,jX],At.append.2 ⟨pZ,by rw[hl];exact aq5⟩,λi hi lU=> ?_,λu hu=> ?_⟩
   ·by_cases e9:i<n
    ·have h1:(i+1)*e.size≤n*e.size:=lL _ e9
     rw[eu,jX]at h1
     rw[zj ω,zi (by rw[dV];omega)]
     exact kV i hi e9
    ·obtain rfl:i=n:=ω
     rw[m0 hl,jG (by rw[S9.length];exact aG _)]
     exact S9
   ·rcases bb.1 hu with hu|hu
    ·exact ag6 u hu
    ·exact S9.oJ u hu
 obtain⟨news,hl,pZ,kV,ag6⟩:=key l.length (aG _)
 exact⟨b,off,cap,news,rfl,hl,pZ,λi hi=>kV i hi hi,ag6⟩
structure Core(c:Ctx)(σ:St)(tm:Array Value)(w:World)(M:Nat→Prop)(ν:Nat→Value):Prop where
 mem:Mem c σ.H w M ν
 tmp: ∀i,VR w M σ.H ν (σ.T i) (tm.getD i undef)
theorem Ta(w:World)(M:Nat→Prop)(H:Nat→Option bl)(ν:Nat→Value)(v:Value):VR w M H ν (cvA v) v:=by
 unfold cvA
 split<;>simp[VR,V,Ty.isAgg,Rd]
theorem Core.op{c:Ctx}{σ:St}{tm:Array Value}{w:World}{M:Nat→Prop}{ν:Nat→Value}(h:Core c σ tm w M ν)(ds:List Deferred)(x:Operand):
  VR w M σ.H ν (σ.ρ x) (({tmps:=tm,defers:=ds}:Act).eval x):=by
 cases x with
 |tmp t=>exact h.tmp t
 |const v=>exact Ta w M σ.H ν v
 |global g=>simp[St.ρ,VR]
 |func f=>simp[St.ρ,VR,jr,Act.eval]
def alF(P:Program)(t:TypeId)(τ:Ty):Prop:=
 ∀(w:World) (M:Nat→Prop) (u v:Value) (x y:τ.den) (b:BinOp) (xo yo:Operand),V w M τ u x→V w M τ v y→
  (eqGuard b t xo yo u v).run P w= .ok () w∧(binOp .eql t u v).run P w= .ok (.bool (pt τ x y)) w∧(binOp .neq t u v).run P w= .ok (.bool (!pt τ x y)) w
structure EnvTy(P:Program)(E:Env):Prop where
 ty: ∀t τ,E.ty t=some τ→kI P τ t
 eq: ∀t τ,E.ty t=some τ→τ.comparable=true→τ.isAgg=true→alF P t τ
end VM
end
section
namespace VM
open Go
variable{P:Program}
theorem zN{o:Oper}{ρ:Operand→Value}{t:TypeId}{i:TypeInfo}{z:Value}(ho:o.op= .alloc t)(hi:P.info? t=some i)(hz:i.zero=some z)(w:World):
  (execOp ρ o).run P w= .ok (.value (.pointer (some ⟨w.heap.size,0,none⟩))) (w.alloc (.cells z.cells t)):=by
 simp[execOp,ho,Instr.alloc,zeroValue,typeInfo,hi,hz,newVar,newRow]
theorem EK{o:Oper}{ρ:Operand→Value}{t:TypeId}{x:Operand}(ho:o.op= .box t x)(w:World):
  (execOp ρ o).run P w= .ok (.value (.pointer (some ⟨w.heap.size,0,none⟩))) (w.alloc (.cells (ρ x).cells t)):=by
 simp[execOp,ho,Instr.box,newVar,newRow]
theorem tq{τ:Ty}{t:TypeId}(h:kI P τ t)(w:World):(isAgg t).run P w= .ok τ.isAgg w:=by
 unfold kI at h
 cases τ<;>simp only[fR]at h
 ·simp[isAgg,run_underlying h.2,Ty.isAgg]
 ·simp[isAgg,run_underlying h.2,Ty.isAgg]
 ·simp[isAgg,run_underlying h.2,Ty.isAgg]
 ·obtain⟨_,e',h',_⟩:=h;simp[isAgg,run_underlying h',Ty.isAgg]
 ·obtain⟨_,e',h',_⟩:=h;simp[isAgg,run_underlying h',Ty.isAgg]
 ·obtain⟨_,e',f,h',_⟩:=h;simp[isAgg,run_underlying h',Ty.isAgg]
 ·obtain⟨_,e',h',_⟩:=h;simp[isAgg,run_underlying h',Ty.isAgg]
theorem df{τ:Ty}{t:TypeId}(h:kI P τ t)(w:World):(Go.sizeOf t).run P w= .ok τ.size w:=by
 obtain⟨i,hi,hs,_⟩:=h.base
 simp[Go.sizeOf,typeInfo,hi,hs]
theorem Ce{w:World}{M:Nat→Prop}{τ:Ty}{t:TypeId}(h:kI P τ t){b off:Nat}{cs:List Value}{x:τ.den}(ha:At w b off cs)(hr:Rd w M τ cs x):
  (loadVar t ⟨b,off,none⟩).run P w= .ok (cK τ cs) w:=by
 have hl:(loadCells ⟨b,off,none⟩ τ.size).run P w= .ok cs.toArray w:=by
  rw[←hr.length]
  exact run_loadCells_list w _ cs λj v hj=>by rw[show(⟨b,off,none⟩:Addr).add j=⟨b,off+j,none⟩from by unfold Addr.add;split<;>simp_all];exact ha j v hj
 unfold cK
 by_cases Mj:τ.isAgg=true
 ·simp[loadVar,tq h,Mj,df h,hl]
 ·obtain⟨v,rfl,hc⟩:=hr.scalar (by simpa using Mj)
  have h0:=ha 0 v rfl
  simp only[m3]at h0
  simp[loadVar,tq h,Mj,load,Sem.run,h0]
theorem wb{o:Oper}{ρ:Operand→Value}{t:TypeId}{x:Operand}(ho:o.op= .load t x){w:World}{M:Nat→Prop}{τ:Ty}(h:kI P τ t){b off:Nat}{cs:List Value}{y:τ.den}
  (hx:ρ x= .pointer (some ⟨b,off,none⟩)) (ha:At w b off cs) (hr:Rd w M τ cs y):
  (execOp ρ o).run P w= .ok (.value (cK τ cs)) w:=by
 simp[execOp,ho,hx,Instr.loadAt,Instr.sureAddr,Ce h ha hr]
theorem m8{o:Oper}{ρ:Operand→Value}{t:TypeId}{x y:Operand}(ho:o.op= .store t x y){w:World}{τ:Ty}(h:kI P τ t){b off:Nat}{cur:Array Value}{te:TypeId}
  (hx:ρ x= .pointer (some ⟨b,off,none⟩)) (hg:w.heap[b]? =some (.cells cur te (0,0))) (hs:(ρ y).cells.size=τ.size) (hf:off+τ.size≤cur.size) (h1: ∀v∈(ρ y).cells.toList,v.oneCell'=true):
  (execOp ρ o).run P w= .ok .skip (w.setRow b (cur.toList.take off++(ρ y).cells.toList++cur.toList.drop (off+(ρ y).cells.toList.length)).toArray):=by
 have GZ:=run_storeCells_at (P:=P) b off te (ρ y).cells.toList 0 cur w hg (by simp[hs];omega) h1
 simp only[m3]at GZ
 simp[execOp,ho,hx,Instr.storeAt,Instr.sureAddr,storeVar,df h,hs,GZ]
theorem tt{o:Oper}{ρ:Operand→Value}{t:TypeId}{x:Operand}{n:Nat}(ho:o.op= .fieldAddr t x n){w:World}{fs:Array Field}{f:Field}{b off:Nat}{υ:Ty}
  (hu:P.underlying t=some (.struct fs)) (hf:fs[n]? =some f) (hl:kI P υ f.type) (hz:υ.size≠0) (hx:ρ x= .pointer (some ⟨b,off,none⟩)):
  ∃a,(execOp ρ o).run P w= .ok (.value a) w∧a= .pointer (some ⟨b,off+f.offset,none⟩):=by
 refine⟨_,?_,rfl⟩
 simp[execOp,ho,hx,Instr.fieldAt,Instr.sureAddr,run_underlying hu,hf,fieldPlace,Addr.add_lit,df hl,hz]
theorem zO{τ:Ty}{t:TypeId}(h:kI P τ t){w:World}{M:Nat→Prop}{cs:Array Value}{off:Nat}{x:τ.den}(hr:Rd w M τ ((cs.toList.drop off).take τ.size) x):
  (part t cs off).run P w= .ok (cK τ ((cs.toList.drop off).take τ.size)) w:=by
 have hl:=hr.length
 unfold cK
 by_cases Mj:τ.isAgg=true
 ·simp only[part,Sem.run_bind,tq h,Result.andThen_ok,Mj,gA,df h]
  simp
  rw[cc,dV,bI]at hl
  apply jq
  simp only[Array.toList_extract,List.extract_eq_take_drop,zm]
 ·obtain⟨v,hv,hc⟩:=hr.scalar (by simpa using Mj)
  rw[hv]
  have h0:cs[off]? =some v:=by
   have:=fi (λl=>l[0]?) hv
   simp only[lO,lP]at this
   split at this
   ·simpa using this
   ·simp at this
  simp[part,tq h,Mj,h0]
theorem JR{o:Oper}{ρ:Operand→Value}{t:TypeId}{x:Operand}{n:Nat}(ho:o.op= .field t x n){w:World}{M:Nat→Prop}{fs:Array Field}{f:Field}{cs:Array Value}{υ:Ty}{y:υ.den}
  (hu:P.underlying t=some (.struct fs)) (hf:fs[n]? =some f) (hl:kI P υ f.type) (hx:ρ x= .agg cs) (hr:Rd w M υ ((cs.toList.drop f.offset).take υ.size) y):
  (execOp ρ o).run P w= .ok (.value (cK υ ((cs.toList.drop f.offset).take υ.size))) w:=by
 simp[execOp,ho,hx,Instr.field,run_underlying hu,hf,asAgg,zO hl hr]
theorem la{o:Oper}{ρ:Operand→Value}{t e:TypeId}{x i:Operand}(ho:o.op= .indexAddr t x i){w:World}{τe:Ty}{b off len cap:Nat}{k:IntKind}{n:Int}
  (hu:P.underlying t=some (.slice e)) (he:kI P τe e) (hx:ρ x= .slice (some ⟨b,off,none⟩) len cap) (hi:ρ i= .int k n) (h0:0≤n) (h1:n<(len:Int)):
  (execOp ρ o).run P w= .ok (.value (.pointer (some ⟨b,off+n.toNat*τe.size,none⟩))) w:=by
 simp[execOp,ho,hx,hi,Instr.indexAt,asIntOf,run_underlying hu,h0,h1,df he,Addr.add_lit]
theorem so{o:Oper}{ρ:Operand→Value}{t e:TypeId}{x i:Operand}(ho:o.op= .indexAddr t x i){w:World}{τe:Ty}{b off len:Nat}{k:IntKind}{n:Int}
  (hu:P.underlying t=some (.array len e)) (he:kI P τe e) (hx:ρ x= .pointer (some ⟨b,off,none⟩)) (hi:ρ i= .int k n) (h0:0≤n) (h1:n<(len:Int)):
  (execOp ρ o).run P w= .ok (.value (.pointer (some ⟨b,off+n.toNat*τe.size,none⟩))) w:=by
 simp[execOp,ho,hx,hi,Instr.indexAt,Instr.sureAddr,asIntOf,run_underlying hu,h0,h1,df he,Addr.add_lit]
theorem Hg{o:Oper}{ρ:Operand→Value}{t e:TypeId}{x i:Operand}(ho:o.op= .index t x i){w:World}{M:Nat→Prop}{τe:Ty}{len:Nat}{k:IntKind}{n:Int}{cs:Array Value}{y:τe.den}
  (hu:P.underlying t=some (.array len e)) (he:kI P τe e) (hx:ρ x= .agg cs) (hi:ρ i= .int k n) (h0:0≤n) (h1:n<(len:Int)) (hr:Rd w M τe ((cs.toList.drop (n.toNat*τe.size)).take τe.size) y):
  (execOp ρ o).run P w= .ok (.value (cK τe ((cs.toList.drop (n.toNat*τe.size)).take τe.size))) w:=by
 simp[execOp,ho,hx,hi,Instr.index,asIntOf,run_underlying hu,h0,h1,df he,zO he hr]
theorem EL{o:Oper}{ρ:Operand→Value}{x:Operand}{n:Nat}(ho:o.op= .extract x n){w:World}{us:List Value}{v:Value}(hx:ρ x= .tuple us.toArray)(hv:us[n]? =some v):
  (execOp ρ o).run P w= .ok (.value v) w:=by
 simp[execOp,ho,hx,Instr.extract,hv]
theorem Mk{o:Oper}{ρ:Operand→Value}{x y z:Operand}(ho:o.op= .pick x y z){w:World}{b:Bool}(hx:ρ x= .bool b):
  (execOp ρ o).run P w= .ok (.value (if b then ρ y else ρ z)) w:=by
 simp[execOp,ho,hx,asBool]
theorem u9{o:Oper}{ρ:Operand→Value}{x:Operand}(ho:o.op= .nilCheck x){w:World}{a:Addr}(hx:ρ x= .pointer (some a)):
  (execOp ρ o).run P w= .ok (.value (.pointer (some a))) w:=by
 simp[execOp,ho,hx]
theorem Db{o:Oper}{ρ:Operand→Value}{f:FuncId}{first caps:Array Operand}(ho:o.op= .makeFunc (.func f) first caps)(hf:first= #[]){w:World}:
  (execOp ρ o).run P w= .ok (.value (.func (.func f) #[] (caps.map ρ))) w:=by
 subst hf
 simp[execOp,ho,Instr.makeFunc]
theorem EM{o:Oper}{ρ:Operand→Value}{s d:TypeId}{x:Operand}(ho:o.op= .convert s d x){w:World}{k k':IntKind}{n:Int}(hs:(P.underlying s).isSome=true)(hd:P.underlying d=some (.int k))(hx:ρ x= .int k' n):
  (execOp ρ o).run P w= .ok (.value (.int k (k.wrap n))) w:=by
 obtain⟨ds,hs⟩:=Option.isSome_iff_exists.1 hs
 simp[execOp,ho,hx,convert,run_underlying hs,run_underlying hd,Conv.intToInt]
theorem wc{o:Oper}{ρ:Operand→Value}{u:UnOp}{t:TypeId}{x:Operand}(ho:o.op= .unOp u t x){w:World}{v:Value}(h:(Op.unary u (ρ x)).run P w= .ok v w):
  (execOp ρ o).run P w= .ok (.value v) w:=by
 simp[execOp,ho,h]
theorem p3{o:Oper}{ρ:Operand→Value}{b:BinOp}{t t':TypeId}{x y:Operand}(ho:o.op= .binOp b t x y t'){w:World}{v:Value}
  (hg:(eqGuard b t x y (ρ x) (ρ y)).run P w= .ok () w) (h:(binOp b t (ρ x) (ρ y)).run P w= .ok v w):
  (execOp ρ o).run P w= .ok (.value v) w:=by
 simp[execOp,ho,hg,h]
theorem py{b:BinOp}{t:TypeId}{x y:Operand}{k k':IntKind}{m n:Int}(w:World):(eqGuard b t x y (.int k m) (.int k' n)).run P w= .ok () w:=by
 cases b<;>simp[eqGuard]
theorem Be{b:BinOp}{t:TypeId}{x y:Operand}{m n:Bool}(w:World):(eqGuard b t x y (.bool m) (.bool n)).run P w= .ok () w:=by
 cases b<;>simp[eqGuard]
theorem Dc{b:BinOp}{t:TypeId}{x y:Operand}{m n:ByteArray}(w:World):(eqGuard b t x y (.string m) (.string n)).run P w= .ok () w:=by
 cases b<;>simp[eqGuard]
theorem qR{o:Oper}{ρ:Operand→Value}{b:Builtin}{args:Array Operand}{ts:Array TypeId}(ho:o.op= .call {callee:= .builtin b,args,argTypes:=ts}){w:World}:
  ∃cs,(execOp ρ o).run P w=(builtin b ts o.type cs (args.map ρ)).run P w:=by
 refine⟨args.map fun| .const _=>true|_=>false,?_⟩
 simp[execOp,ho,resolve,invoke]
 rfl
end VM
end
section
namespace VM
open Go
theorem sq{α:Type}{r:α}: ∀{τ:Ty} {x:τ.den} {n:Nat} {m:(υ:Ty)→υ.den→(υ.den→Option α)→Option α} {k:τ.den→Option α},m4 τ x n m k=some r→
  ∃υ y o k',C9 τ x n υ y o∧m υ y k'=some r∧ ∀z r',k' z=some r'→ ∃x',k x'=some r'∧C9 τ x' n υ z o∧
   ∀(w:World) (M:Nat→Prop) cs cs',Rd w M τ cs x→Rd w M υ cs' z→Rd w M τ (fb cs o cs') x'
 | .pair a b,x,0,m,k,h=>by
  refine⟨a,x.1,0,_,.here x,h,λz r' hz=>⟨(z,x.2),hz,.here (a:=a) (b:=b) (z,x.2),λw M cs cs' hr eO=> ?_⟩⟩
  simp only[Rd]at hr ⊢
  obtain⟨c1,c2,rfl,h1,h2⟩:=hr
  refine⟨cs',c2,?_,eO,h2⟩
  rw[zK (by rw[eO.length,h1.length];omega)]
  congr 1
  unfold fb
  rw[gi,eO.length,←h1.length];simp
 | .pair a b,x,n+1,m,k,h=>by
  obtain⟨υ,y,o,k',hf,hm,hk⟩:=sq (τ:=b) (x:=x.2) (n:=n) (m:=m) (k:=λz=>k (x.1,z)) h
  refine⟨υ,y,_,k',.there x hf,hm,λz r' hz=> ?_⟩
  obtain⟨x',oY,Bb,kV⟩:=hk z r' hz
  refine⟨(x.1,x'),oY,.there (a:=a) (b:=b) (x.1,x') Bb,λw M cs cs' hr eO=> ?_⟩
  simp only[Rd]at hr ⊢
  obtain⟨c1,c2,rfl,h1,h2⟩:=hr
  refine⟨c1,_,?_,h1,kV w M c2 cs' h2 eO⟩
  rw[←h1.length,xm]
 | .int _,_,_,_,_,h| .bool,_,_,_,_,h| .str,_,_,_,_,h| .slice _,_,_,_,_,h| .unit,_,_,_,_,h| .arr _ _,_,_,_,_,h=>by simp[m4]at h
def qS(w:World)(M:Nat→Prop)(e:Ty)(cs:List Value)(l:List e.den):Prop:=
 ∀i (h:i<l.length),Rd w M e ((cs.drop (i*e.size)).take e.size) l[i]
theorem ew{i n s:Nat}(h:i<n):i*s+s≤n*s:=by
 have:(i+1)*s≤n*s:=lL _ h
 rw[eu,jX]at this;exact this
theorem qS.set{w:World}{M:Nat→Prop}{e:Ty}{cs:List Value}{l:List e.den}(h:qS w M e cs l)(hl:l.length*e.size≤cs.length){i:Nat}(hi:i<l.length){cs':List Value}{y:e.den}(hr:Rd w M e cs' y):
  qS w M e (fb cs (i*e.size) cs') (l.set i y):=by
 have hlen:=hr.length
 intro j hj
 rw[bN]at hj
 have h1:=ew (s:=e.size) hi
 have h2:=ew (s:=e.size) hj
 by_cases pP:j=i
 ·subst pP
  have:=ag4 (a:=cs) (o:=j*e.size) (new:=cs') ω
  rw[hlen]at this
  rw[this,List.getElem_set_self];exact hr
 ·rw[JP (by
   rcases Nat.lt_or_gt_of_ne pP with e9|e9
   ·have:=ew (s:=e.size) e9;left;omega
   ·have:=ew (s:=e.size) e9;right;omega) ω,List.getElem_set_ne (eJ pP)]
  exact h j hj
theorem qS.append{w:World}{M:Nat→Prop}{e:Ty}{c1 c2:List Value}{l1 l2:List e.den}(h1:qS w M e c1 l1)(hl:c1.length=l1.length*e.size)(h2:qS w M e c2 l2):qS w M e (c1++c2) (l1++l2):=by
 intro i hi
 by_cases e9:i<l1.length
 ·have:=ew (s:=e.size) e9
  rw[zj ω,zi (by rw[dV];omega),Ef e9]
  exact h1 i e9
 ·rw[aS]at hi
  obtain⟨k,rfl⟩: ∃k,i=l1.length+k:=⟨i-l1.length,ω⟩
  rw[eu,←hl,←jH,m0 rfl,LM ω]
  simp only[zm]
  exact h2 k ω
theorem qS.take{w:World}{M:Nat→Prop}{e:Ty}{cs:List Value}{l:List e.den}(h:qS w M e cs l){n:Nat}(hn:l.length*e.size≤n):qS w M e (cs.take n) l:=by
 intro i hi
 have:=ew (s:=e.size) hi
 rw[qE,qF,iw ω]
 exact h i hi
theorem qS.more{w:World}{M:Nat→Prop}{e:Ty}{cs cs':List Value}{l:List e.den}(h:qS w M e cs l)(hl:l.length*e.size≤cs.length):qS w M e (cs++cs') l:=by
 intro i hi
 have:=ew (s:=e.size) hi
 rw[zj ω,zi (by rw[dV];omega)]
 exact h i hi
theorem qS.ca{w w':World}{M M':Nat→Prop}(k:e8 w M w' M'){e:Ty}{cs:List Value}{l:List e.den}(h:qS w M e cs l):qS w' M' e cs l:=λi hi=>(h i hi).ca k
theorem Rd.arr{w:World}{M:Nat→Prop}{n:Nat}{e:Ty}{cs:List Value}{x:(Ty.arr n e).den}:Rd w M (.arr n e) cs x↔List.length x=n∧cs.length=n*e.size∧qS w M e cs x:=by
 constructor
 ·intro h
  have hl:=h.length
  have h':=h
  simp only[Rd]at h'
  refine⟨h'.1,hl,λi hi=> ?_⟩
  have:=h.idx (i:=i) ω
  rw[kJ x i e.zero hi]at this
  exact this
 ·rintro⟨hn,hl,hr⟩
  simp only[Rd]
  refine⟨hn,(List.range n).map λi=>(cs.drop (i*e.size)).take e.size,by simp,?_,λi hi m7=> ?_⟩
  ·
   have key: ∀m (l:List Value),l.length=m*e.size→l=((List.range m).map λi=>(l.drop (i*e.size)).take e.size).flatten:=by
    intro m
    induction m with
    |zero=>intro l hl;simpa using hl
    |succ m ih=>
     intro l hl
     have h1:(l.take (m*e.size)).length=m*e.size:=by rw[cc,hl,eu];omega
     have h2:=ih (l.take (m*e.size)) h1
     rw[Ev,cY,List.flatten_append]
     have h3:((List.range m).map λi=>(l.drop (i*e.size)).take e.size)=(List.range m).map λi=>((l.take (m*e.size)).drop (i*e.size)).take e.size:=by
      apply qz
      intro i hi
      have:=ew (s:=e.size) (qG.1 hi)
      rw[qE,qF,iw ω]
     rw[h3,←h2]
     simp only[bV,iZ,zs,List.flatten_nil,ch]
     rw[jG (l:=l.drop (m*e.size)) (by rw[dV,hl,eu];omega),gg]
   exact key n cs hl
  ·simp only[List.getElem_map,En]
   exact hr i hi
theorem oZ{α:Type}{r:α}{υ:Ty}{y:υ.den}: ∀{p:List Step} {τ:Ty} {x:τ.den} {k:τ.den→Option α},vo υ y p τ x k=some r→
  ∃z,k z=some r∧Hd p τ=υ∧(xT p τ→cF p τ+υ.size≤τ.size)∧ ∀(w:World) (M:Nat→Prop) cs cs',xT p τ→Rd w M τ cs x→Rd w M υ cs' y→Rd w M τ (fb cs (cF p τ) cs') z
 |[],τ,x,k,h=>by
  obtain⟨e,h⟩:=bB (h:c8 υ τ y k=some r)
  subst e
  refine⟨y,h,rfl,λ_=>by simp[cF],λw M cs cs' _ hr eO=> ?_⟩
  unfold fb
  rw[show cF [] υ=0 from rfl,gi,eO.length,←hr.length]
  simpa using eO
 | .kE n::p,τ,x,k,h=>by
  obtain⟨υ',y',o,k',hf,hm,hk⟩:=sq (h:m4 τ x n _ k=some r)
  obtain⟨z',A5,ht,G0,kV⟩:=oZ (p:=p) (τ:=υ') (x:=y') (k:=k') hm
  obtain⟨x',oY,Bb,S9⟩:=hk z' r A5
  obtain⟨h1,h2⟩:=hf.eq
  subst h1 h2
  refine⟨x',oY,ht,λhi=>by have:=hf.bound;have:=G0 hi;simp only[cF];omega,λw M cs cs' hi hr eO=> ?_⟩
  have G0:=G0 hi
  have h3:=kV w M _ cs' hi (hf.rd hr) eO
  have h4:=S9 w M cs _ hr h3
  have hb:=hf.bound
  have Zq:=hr.length
  have hl2:=eO.length
  have Y4:=h3.length
  have lU:cF p (vr τ n)+cs'.length≤((cs.drop (rO τ n)).take (vr τ n).size).length:=by
   rw[cc,dV];omega
  have:fb cs (rO τ n) (fb ((cs.drop (rO τ n)).take (vr τ n).size) (cF p (vr τ n)) cs')=fb cs (rO τ n+cF p (vr τ n)) cs':=by
   have e1:cs=cs.take (rO τ n)++(((cs.drop (rO τ n)).take (vr τ n).size)++cs.drop (rO τ n+(vr τ n).size)):=by
    rw[←jH,gg,gg]
   have e9:(cs.take (rO τ n)).length=rO τ n:=by rw[cc];omega
   conv=>rhs;rw[e1]
   rw[show rO τ n+cF p (vr τ n)=(cs.take (rO τ n)).length+cF p (vr τ n)from by rw[e9],xm,zK lU]
   generalize fb ((cs.drop (rO τ n)).take (vr τ n).size) (cF p (vr τ n)) cs'=m at Y4 ⊢
   unfold fb
   rw[Y4,br]
  simp only[cF]
  rw[←this]
  exact h4
 | .idx i::p,τ,x,k,h=>by
  cases τ with
  |arr n e=>
   obtain⟨z',A5,ht,G0,kV⟩:=oZ (p:=p) (τ:=e) (x:=List.getD x i e.zero) (k:=λz=>k (List.set x i z)) h
   refine⟨_,A5,ht,λhi=>by
    obtain⟨⟨n',e',he,lU⟩,m7⟩:=hi
    cases he
    have:=G0 m7
    have hm:=ew (s:=e.size) lU
    simp only[cF,elT,Ty.size];omega,λw M cs cs' hi hr eO=> ?_⟩
   obtain⟨⟨n',e',he,lU⟩,m7⟩:=hi
   cases he
   have h3:=kV w M _ cs' m7 (hr.idx lU) eO
   obtain⟨hn,Zq,H6⟩:=Rd.arr.1 hr
   have hm:=ew (s:=e.size) lU
   have h4:=H6.set (by rw[Zq,hn];exact aG _) (i:=i) ω h3
   have hl2:=eO.length
   have Y4:=h3.length
   have hch:((cs.drop (i*e.size)).take e.size).length=e.size:=by rw[cc,dV];omega
   have G0:=G0 m7
   have aq6:cF p e+cs'.length≤((cs.drop (i*e.size)).take e.size).length:=ω
   have:fb cs (i*e.size) (fb ((cs.drop (i*e.size)).take e.size) (cF p e) cs')=fb cs (i*e.size+cF p e) cs':=by
    have e1:cs=cs.take (i*e.size)++(((cs.drop (i*e.size)).take e.size)++cs.drop (i*e.size+e.size)):=by
     rw[←jH,gg,gg]
    have e9:(cs.take (i*e.size)).length=i*e.size:=by rw[cc];omega
    conv=>rhs;rw[e1]
    rw[show i*e.size+cF p e=(cs.take (i*e.size)).length+cF p e from by rw[e9],xm,zK aq6]
    generalize fb ((cs.drop (i*e.size)).take e.size) (cF p e) cs'=m at Y4 ⊢
    unfold fb
    rw[Y4,br]
   simp only[cF,elT]
   rw[←this]
   refine Rd.arr.2 ⟨by rw[bN];exact hn,?_,h4⟩
   rw[gC (by rw[Y4];omega)];exact Zq
  |_=>simp[vo,DN]at h
end VM
end
