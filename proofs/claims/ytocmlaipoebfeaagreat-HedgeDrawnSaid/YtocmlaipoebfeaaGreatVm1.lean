/- A part of the proof of HedgeDrawn of layer 22: a machine that reads a function of the program as an equation between values. -/
import Derived.Test.YtocmlaipoebfeaaGreatVm0
import Derived.WalkLawsBesides
import Derived.Great.BuildSlice
import Derived.Laws.Tables
set_option linter.all false
section
namespace VM
open Go
structure Ctx where
 B:Nat
 w0:World
 M0:Nat→Prop
 may:Nat→Prop
 arg:Nat→Value
structure Mem(c:Ctx)(H:Nat→Option aS)(w:World)(M:Nat→Prop)(ν:Nat→Value):Prop where
 jr: ∀i e,H i=some e→ER w M (ν i) e
 wO: ∀i j e e' b,i≠j→H i=some e→e.mut→H j=some e'→e'.mut→eJ (ν i)=some b→eJ (ν j)≠some b
 new: ∀i e b,H i=some e→e.mut→eJ (ν i)=some b→c.B≤b∨c.may b
 u9: ∀i e l b,H i=some (.own e l)→eJ (ν i)=some b→ ¬c.M0 b
 ej: ∀i τ x p j,H i=some (.ej τ x p j)→H j≠none∧ ∃b,ν i= .pointer (some ⟨b,0,none⟩)∧w.cell? ⟨b,bQ p τ,none⟩=some (ν j)
 sub: ∀b,c.M0 b→M b
 Ab: ∀b,M b→b<w.heap.size
 frame: ∀b,b<c.B→ ¬c.may b→w.heap[b]? =c.w0.heap[b]?
 size:c.B≤w.heap.size
 rM:(∀b,c.M0 b→b<c.B)∧ ∀b,c.may b→ ¬c.M0 b
 os:w.os=c.w0.os
 tape:w.tape=c.w0.tape
 output:w.output=c.w0.output
structure Tr(c:Ctx)(H:Nat→Option aS)(w:World)(M:Nat→Prop)(ν:Nat→Value)(H':Nat→Option aS)(w':World)(M':Nat→Prop)(ν':Nat→Value):Prop where
 mem:Mem c H' w' M' ν'
 bD:dy w M w' M'
 goes:pC H ν H' ν'
theorem aS.iE.trans{a b d:aS}(h:a.iE b)(k:b.iE d):a.iE d:=by
 cases a<;>cases b<;>cases d<;>simp only[aS.iE]at h k ⊢ <;>first
  |exact h.trans k
  |exact⟨h.1.trans k.1,h.2.trans k.2⟩
theorem pC.trans{H H' H'':Nat→Option aS}{ν ν' ν'':Nat→Value}(h:pC H ν H' ν')(k:pC H' ν' H'' ν''):pC H ν H'' ν'':=by
 refine⟨fun i e he=> ?_,fun i hi=> ?_⟩
 ·obtain⟨e',tV,l⟩:=h.jr i e he
  obtain⟨e'',ani,l'⟩:=k.jr i e' tV
  exact⟨e'',ani,l.trans l'⟩
 ·obtain⟨e,he⟩:=aAZ.1 hi
  obtain⟨e',tV,_⟩:=h.jr i e he
  rw[k.head i (by simp[tV]),h.head i hi]
theorem Tr.trans{c:Ctx}{H H' H'':Nat→Option aS}{w w' w'':World}{M M' Kp:Nat→Prop}{ν ν' ν'':Nat→Value}
  (h:Tr c H w M ν H' w' M' ν') (k:Tr c H' w' M' ν' H'' w'' Kp ν''):Tr c H w M ν H'' w'' Kp ν'':=
 ⟨k.mem,h.bD.trans k.bD,h.goes.trans k.goes⟩
theorem Tr.refl{c:Ctx}{H:Nat→Option aS}{w:World}{M:Nat→Prop}{ν:Nat→Value}(h:Mem c H w M ν):Tr c H w M ν H w M ν:=
 ⟨h,.refl w M,.refl H ν⟩
theorem al(H:Nat→Option aS)(d:Nat)(v:Option aS):bz H d v d=v:=by simp[bz]
theorem an(H:Nat→Option aS){d i:Nat}(v:Option aS)(h:i≠d):bz H d v i=H i:=by
 have:Nat.beq i d=false:=by rw[←az6,aBU];exact h
 simp[bz,this]
def ch(H:Nat→Option aS):fN→(Nat→Option aS)
 |[]=>H
 |u::r=>ch (bz H u.1 u.2) r
theorem KP(ups:fN): ∀σ:St,(σ.rS ups).H=ch σ.H ups:=by
 induction ups with
 |nil=>intro σ;rfl
 |cons u r ih=>intro σ;exact ih _
theorem KQ(ups:fN): ∀σ:St,(σ.rS ups).T=σ.T:=by
 induction ups with
 |nil=>intro σ;rfl
 |cons u r ih=>intro σ;exact ih _
theorem eu(a b:fN): ∀H,ch H (a++b)=ch (ch H a) b:=by
 induction a with
 |nil=>intro H;rfl
 |cons u r ih=>intro H;exact ih _
theorem sZ{H:Nat→Option aS}{id j:Nat}{v:aS}(h:H j≠none):bz H id (some v) j≠none:=by
 by_cases hj:j=id
 ·subst hj;rw[al];simp
 ·rw[an _ _ hj];exact h
theorem EM{H:Nat→Option aS}{w:World}{ν:Nat→Value}(h: ∀i τ x p j,H i=some (.ej τ x p j)→H j≠none∧ ∃b,ν i= .pointer (some ⟨b,0,none⟩)∧w.cell? ⟨b,bQ p τ,none⟩=some (ν j)){id:Nat}{v:aS}(hv: ∀τ x p j,v≠ .ej τ x p j):
  ∀i τ x p j,bz H id (some v) i=some (.ej τ x p j)→bz H id (some v) j≠none∧ ∃b,ν i= .pointer (some ⟨b,0,none⟩)∧w.cell? ⟨b,bQ p τ,none⟩=some (ν j):=by
 intro i τ x p j hi
 by_cases bC:i=id
 ·subst bC;rw[al]at hi;cases hi;exact absurd rfl (hv _ _ _ _)
 ·rw[an _ _ bC]at hi
  obtain⟨h1,h2⟩:=h i τ x p j hi
  exact⟨sZ h1,h2⟩
theorem Tr.gone{c:Ctx}{H:Nat→Option aS}{w:World}{M:Nat→Prop}{ν:Nat→Value}(h:Mem c H w M ν)(id:Nat):Tr c H w M ν (bz H id (some .gone)) w M ν:=by
 refine⟨⟨fun i e he=> ?_,fun i j e e' b oY hi hm hj gY=> ?_,fun i e b hi hm=> ?_,fun i e l b hi=> ?_,EM h.ej (fun _ _ _ _=>by simp),h.sub,h.Ab,h.frame,h.size,h.rM,h.os,h.tape,h.output⟩,.refl w M,⟨fun i e he=> ?_,fun _ _=>rfl⟩⟩
 ·by_cases aV:i=id
  ·subst aV;rw[al]at he;cases he;simp[ER]
  ·rw[an _ _ aV]at he;exact h.jr i e he
 ·by_cases aV:i=id
  ·subst aV;rw[al]at hi;cases hi;simp[aS.mut]at hm
  ·by_cases hjd:j=id
   ·subst hjd;rw[al]at hj;cases hj;simp[aS.mut]at gY
   ·rw[an _ _ aV]at hi;rw[an _ _ hjd]at hj;exact h.wO i j e e' b oY hi hm hj gY
 ·by_cases aV:i=id
  ·subst aV;rw[al]at hi;cases hi;simp[aS.mut]at hm
  ·rw[an _ _ aV]at hi;exact h.new i e b hi hm
 ·by_cases aV:i=id
  ·subst aV;rw[al]at hi;cases hi
  ·rw[an _ _ aV]at hi;exact h.u9 i e l b hi
 ·by_cases aV:i=id
  ·subst aV;exact⟨.gone,al _ _ _,by cases e<;>simp[aS.iE]⟩
  ·exact⟨e,by rw[an _ _ aV];exact he,.refl e⟩
theorem cell_of{w:World}{b:Nat}{cs:Array Value}{t:TypeId}{fz:Nat×Nat}(h:w.heap[b]? =some (.cells cs t fz))(o:Nat):w.cell? ⟨b,o,none⟩=cs[o]? :=by
 simp[World.cell?,h]
theorem At.of_block{w:World}{b:Nat}{cs:Array Value}{t:TypeId}{fz:Nat×Nat}(h:w.heap[b]? =some (.cells cs t fz))(o n:Nat):
  At w b o ((cs.toList.drop o).take n):=by
 intro j v hj
 rw[cell_of h]
 rw[azJ]at hj
 split at hj
 ·rw[azK]at hj;simpa using hj
 ·cases hj
theorem lt_of_block{w:World}{b:Nat}{o:Obj}(h:w.heap[b]? =some o):b<w.heap.size:=(azj.1 h).1
theorem ER.bD{w w':World}{M M':Nat→Prop}{v:Value}(k:dy w M w' M'): ∀{e:aS},
  (e.mut→ ∀b,eJ v=some b→w'.heap[b]? =w.heap[b]? ∧M' b)→ER w M v e→ER w' M' v e
 | .obj τ x,hm,h=>by
  simp only[ER]at h ⊢
  obtain⟨b,cs,t,rfl,hb,hM,hr⟩:=h
  obtain⟨h1,h2⟩:=hm trivial b rfl
  exact⟨b,cs,t,rfl,h1.trans hb,h2,hr.bD k⟩
 | .ej τ x p j,hm,h=>by
  simp only[ER]at h ⊢
  obtain⟨b,cs,t,oX,u,rfl,hb,hM,hr,h3⟩:=h
  obtain⟨h1,h2⟩:=hm trivial b rfl
  exact⟨b,cs,t,oX,u,rfl,h1.trans hb,h2,hr.bD k,h3⟩
 | .own e l,hm,h=>by
  simp only[ER]at h ⊢
  rcases h with h|⟨b,cs,t,cap,rfl,hb,hM,hc,hl,Ac,hs,hr⟩
  ·exact .inl h
  ·obtain⟨h1,h2⟩:=hm trivial b (by simp[eJ];omega)
   exact .inr ⟨b,cs,t,cap,rfl,h1.trans hb,h2,hc,hl,Ac,hs,fun i hi=>(hr i hi).bD k⟩
 | .lF e l,_,h=>by
  simp only[ER]at h ⊢
  exact⟨h.1.bD k,h.2⟩
 | .gone,_,_=>by simp[ER]
theorem ER.uq{w:World}{M:Nat→Prop}{v:Value}{e:aS}(h:ER w M v e)(hm:e.mut){b:Nat}(hb:eJ v=some b):M b:=by
 cases e with
 |obj τ x=>simp only[ER]at h;obtain⟨b',cs,t,hv,dN,hM,_⟩:=h;rw[hv]at hb;simp only[eJ,azz]at hb;subst hb;exact hM
 |ej τ x p j=>simp only[ER]at h;obtain⟨b',cs,t,_,_,hv,dN,hM,_⟩:=h;rw[hv]at hb;simp only[eJ,azz]at hb;subst hb;exact hM
 |own e1 l1=>
  simp only[ER]at h
  rcases h with⟨_,a,hv⟩|⟨b',cs,t,cap,hv,dN,hM,hc,_⟩
  ·rw[hv]at hb;cases a<;>simp[eJ]at hb
  ·rw[hv]at hb;simp only[eJ]at hb;split at hb
   ·cases hb
   ·simp only[azz]at hb;subst hb;exact hM
 |lF _ _=>simp[aS.mut]at hm
 |gone=>simp[aS.mut]at hm
theorem Tr.freeze{c:Ctx}{H:Nat→Option aS}{w:World}{M:Nat→Prop}{ν:Nat→Value}(h:Mem c H w M ν){id:Nat}{e:Ty}{l:List e.den}(aV:H id=some (.own e l)):
  ∃M',Tr c H w M ν (bz H id (some (.lF e l))) w M' ν∧V w M' (.slice e) (ν id) l∧ ∀b,M' b↔(M b∧eJ (ν id)≠some b):=by
 have hk:dy w M w (fun b=>M b∧eJ (ν id)≠some b):=⟨ayJ _,fun _ _ _=>rfl,fun _ _ h=>h.1⟩
 have he:=h.jr id _ aV
 have iu:Rd w (fun b=>M b∧eJ (ν id)≠some b) (.slice e) [ν id] l:=by
  simp only[ER]at he
  simp only[Rd]
  rcases he with⟨rfl,a,hv⟩|⟨b,cs,t,cap,hv,hb,hM,hc,hl,Ac,hs,hr⟩
  ·exact⟨a,0,by rw[hv];rfl,ayJ _,fun i hi=>absurd hi (by simp)⟩
  ·refine⟨_,cap,by rw[hv],hl,fun i hi=>⟨b,0,rfl,lt_of_block hb,fun hm=>hm.2 (by rw[hv];simp[eJ];omega),_,?_,(hr i hi).bD hk⟩⟩
   rw[azH]
   exact At.of_block hb _ _
 refine⟨fun b=>M b∧eJ (ν id)≠some b,⟨⟨fun i e' hi=> ?_,fun i j e1 e2 b oY hi hm hj gY=> ?_,fun i e1 b hi hm=> ?_,fun i e1 l1 b hi=> ?_,EM h.ej (fun _ _ _ _=>by simp),fun b hb=>⟨h.sub b hb,fun hm=>h.u9 id e l b aV hm hb⟩,fun b hb=>h.Ab b hb.1,h.frame,h.size,h.rM,h.os,h.tape,h.output⟩,hk,⟨fun i e' hi=> ?_,fun _ _=>rfl⟩⟩,?_,fun _=>Iff.rfl⟩
 ·by_cases bC:i=id
  ·subst bC;rw[al]at hi;cases hi
   simp only[ER]
   refine⟨iu,?_⟩
   simp only[ER]at he
   rcases he with⟨rfl,a,hv⟩|⟨b,cs,t,cap,hv,_⟩
   ·exact .inl ⟨rfl,a,0,0,hv⟩
   ·exact .inr ⟨b,_,cap,hv⟩
  ·rw[an _ _ bC]at hi
   refine(h.jr i e' hi).bD hk (fun hm b hb=>⟨rfl,?_,?_⟩)
   ·exact(h.jr i e' hi).uq hm hb
   ·exact h.wO i id e' (.own e l) b bC hi hm aV trivial hb
 ·by_cases bC:i=id
  ·subst bC;rw[al]at hi;cases hi;simp[aS.mut]at hm
  ·by_cases Co:j=id
   ·subst Co;rw[al]at hj;cases hj;simp[aS.mut]at gY
   ·rw[an _ _ bC]at hi;rw[an _ _ Co]at hj;exact h.wO i j e1 e2 b oY hi hm hj gY
 ·by_cases bC:i=id
  ·subst bC;rw[al]at hi;cases hi;simp[aS.mut]at hm
  ·rw[an _ _ bC]at hi;exact h.new i e1 b hi hm
 ·by_cases bC:i=id
  ·subst bC;rw[al]at hi;cases hi
  ·rw[an _ _ bC]at hi;exact h.u9 i e1 l1 b hi
 ·by_cases bC:i=id
  ·subst bC;rw[aV]at hi;cases hi;exact⟨_,al _ _ _,rfl,rfl⟩
  ·exact⟨e',by rw[an _ _ bC];exact hi,.refl e'⟩
 ·unfold V;rw[ayE (by simp[Ty.isAgg])];exact iu
theorem Tr.fix{c:Ctx}{H:Nat→Option aS}{w:World}{M:Nat→Prop}{ν:Nat→Value}(h:Mem c H w M ν){id:Nat}{τ:Ty}{x:τ.den}(aV:H id=some (.obj τ x)):
  ∃M' b,Tr c H w M ν (bz H id (some .gone)) w M' ν∧ν id= .pointer (some ⟨b,0,none⟩)∧b<w.heap.size∧ ¬M' b∧ ∃cs,At w b 0 cs∧Rd w M' τ cs x:=by
 have he:=h.jr id _ aV
 simp only[ER]at he
 obtain⟨b0,cs,t,hv,hb,hM,hr⟩:=he
 have tW:eJ (ν id)=some b0:=by rw[hv];rfl
 have hk:dy w M w (fun b=>M b∧b≠b0):=⟨ayJ _,fun _ _ _=>rfl,fun _ _ h=>h.1⟩
 have GN: ¬c.M0 b0:=fun hm=>(h.new id _ b0 aV trivial tW).elim (fun hB=>by have:=h.rM.1 b0 hm;omega) (fun hB=>h.rM.2 b0 hB hm)
 refine⟨fun b=>M b∧b≠b0,b0,⟨⟨fun i e' hi=> ?_,fun i j e1 e2 b oY hi hm hj gY=> ?_,fun i e1 b hi hm=> ?_,fun i e1 l1 b hi=> ?_,EM h.ej (fun _ _ _ _=>by simp),fun b dN=>⟨h.sub b dN,fun e=>GN (e▸dN)⟩,fun b dN=>h.Ab b dN.1,h.frame,h.size,h.rM,h.os,h.tape,h.output⟩,hk,⟨fun i e' hi=> ?_,fun _ _=>rfl⟩⟩,hv,lt_of_block hb,fun hm=>hm.2 rfl,cs.toList,?_,hr.bD hk⟩
 ·by_cases bC:i=id
  ·subst bC;rw[al]at hi;cases hi;simp[ER]
  ·rw[an _ _ bC]at hi
   refine(h.jr i e' hi).bD hk (fun hm b dN=>⟨rfl,?_,?_⟩)
   ·exact(h.jr i e' hi).uq hm dN
   ·intro e
    exact h.wO i id e' (.obj τ x) b bC hi hm aV trivial dN (by rw[tW,e])
 ·by_cases bC:i=id
  ·subst bC;rw[al]at hi;cases hi;simp[aS.mut]at hm
  ·by_cases Co:j=id
   ·subst Co;rw[al]at hj;cases hj;simp[aS.mut]at gY
   ·rw[an _ _ bC]at hi;rw[an _ _ Co]at hj;exact h.wO i j e1 e2 b oY hi hm hj gY
 ·by_cases bC:i=id
  ·subst bC;rw[al]at hi;cases hi;simp[aS.mut]at hm
  ·rw[an _ _ bC]at hi;exact h.new i e1 b hi hm
 ·by_cases bC:i=id
  ·subst bC;rw[al]at hi;cases hi
  ·rw[an _ _ bC]at hi;exact h.u9 i e1 l1 b hi
 ·by_cases bC:i=id
  ·subst bC;rw[aV]at hi;cases hi;exact⟨_,al _ _ _,trivial⟩
  ·exact⟨e',by rw[an _ _ bC];exact hi,.refl e'⟩
 ·have:=At.of_block hb 0 cs.toList.length
  rwa [ay7,aAM]at this
end VM
end
section
namespace VM
open Go
theorem Ad(w:World)(o:Obj):(w.alloc o).heap[w.heap.size]? =some o:=by
 show(w.heap.push o)[w.heap.size]? =some o
 simp
theorem nB(w:World)(o:Obj){i:Nat}(h:i<w.heap.size):(w.alloc o).heap[i]? =w.heap[i]? :=by
 show(w.heap.push o)[i]? =w.heap[i]?
 rw[Array.getElem?_push,ayE (Nat.ne_of_lt h)]
theorem size_alloc(w:World)(o:Obj):(w.alloc o).heap.size=w.heap.size+1:=by
 show(w.heap.push o).size=_
 simp
def cF(ν:Nat→Value)(d:Nat)(v:Value):Nat→Value:=fun i=>if i=d then v else ν i
theorem nO{c:Ctx}{H:Nat→Option aS}{w w':World}{M:Nat→Prop}{ν ν':Nat→Value}(h:Mem c H w M ν){H':Nat→Option aS}
  (hν: ∀i,H i≠none→ν' i=ν i) (hn: ∀i,H i≠none→H' i≠none)
  (hi: ∀i τ x p j,H' i=some (.ej τ x p j)→(H i=some (.ej τ x p j)∧ ∀b,ν i= .pointer (some ⟨b,0,none⟩)→w'.heap[b]? =w.heap[b]?)∨(H' j≠none∧ ∃b,ν' i= .pointer (some ⟨b,0,none⟩)∧w'.cell? ⟨b,bQ p τ,none⟩=some (ν' j))):
  ∀i τ x p j,H' i=some (.ej τ x p j)→H' j≠none∧ ∃b,ν' i= .pointer (some ⟨b,0,none⟩)∧w'.cell? ⟨b,bQ p τ,none⟩=some (ν' j):=by
 intro i τ x p j he
 rcases hi i τ x p j he with⟨h1,hb⟩|h1
 ·obtain⟨h2,b,h3,h4⟩:=h.ej i τ x p j h1
  refine⟨hn j h2,b,by rw[hν i (by rw[h1];simp)];exact h3,?_⟩
  rw[hν j h2,World.cell?_of_block (w:=w) (hb b h3)]
  exact h4
 ·exact h1
theorem s0{H:Nat→Option aS}{id:Nat}{v:aS}: ∀i,H i≠none→bz H id (some v) i≠none:=fun _ h=>sZ h
theorem vk{H:Nat→Option aS}{id:Nat}{v:aS}(hv: ∀τ x p j,v≠ .ej τ x p j){i:Nat}{τ:Ty}{x:τ.den}{p:List Step}{j:Nat}(h:bz H id (some v) i=some (.ej τ x p j)):H i=some (.ej τ x p j):=by
 by_cases bC:i=id
 ·subst bC;rw[al]at h;cases h;exact absurd rfl (hv _ _ _ _)
 ·rw[an _ _ bC]at h;exact h
theorem Tr.alloc{c:Ctx}{H:Nat→Option aS}{w:World}{M:Nat→Prop}{ν:Nat→Value}(h:Mem c H w M ν){id:Nat}(aV:H id=none)(o:Obj)(v:Value)(e:aS)(hm:e.mut)(Dg: ∀τ x p j,e≠ .ej τ x p j)
  (hb:eJ v=none∨eJ v=some w.heap.size) (N5:ER (w.alloc o) (fun b=>M b∨b=w.heap.size) v e):
  Tr c H w M ν (bz H id (some e)) (w.alloc o) (fun b=>M b∨b=w.heap.size) (cF ν id v):=by
 have hk:dy w M (w.alloc o) (fun b=>M b∨b=w.heap.size):=
  ⟨by rw[size_alloc];omega,fun b hb _=>nB w o hb,fun b hb h'=>h'.resolve_right (by omega)⟩
 have hν: ∀i,i≠id→cF ν id v i=ν i:=fun i hi=>by simp[cF,hi]
 have yV:cF ν id v id=v:=by simp[cF]
 have dH: ∀i e' b,H i=some e'→e'.mut→eJ (ν i)=some b→b<w.heap.size:=fun i e' b hi gY dN=>h.Ab b ((h.jr i e' hi).uq gY dN)
 refine⟨⟨fun i e' hi=> ?_,fun i j e1 e2 b oY hi pS hj vl=> ?_,fun i e1 b hi pS=> ?_,fun i e1 l1 b hi=> ?_,nO h (fun i hi=>hν i (fun e=>hi (e▸aV))) s0 (fun i τ x p j hi=> .inl ⟨vk Dg hi,fun b hb=>nB w o (dH i _ b (vk Dg hi) trivial (by rw[hb];rfl))⟩),fun b hb=> .inl (h.sub b hb),fun b dN=> ?_,fun b kI tF=> ?_,?_,h.rM,h.os,h.tape,h.output⟩,hk,⟨fun i e' hi=> ?_,fun i hi=> ?_⟩⟩
 ·by_cases bC:i=id
  ·subst bC;rw[al]at hi;cases hi;rw[yV];exact N5
  ·rw[an _ _ bC]at hi;rw[hν i bC]
   exact(h.jr i e' hi).bD hk fun gY b dN=>⟨nB w o (dH i e' b hi gY dN),.inl ((h.jr i e' hi).uq gY dN)⟩
 ·by_cases bC:i=id
  ·subst bC;rw[al]at hi;cases hi;rw[yV]
   intro kI
   have Co:j≠i:=aAu oY
   rw[an _ _ Co]at hj;rw[hν j Co]
   intro tF
   have:=dH j e2 b hj vl tF
   rcases hb with hb|hb<;>rw[hb]at kI<;>simp at kI
   omega
  ·rw[an _ _ bC]at hi;rw[hν i bC]
   by_cases Co:j=id
   ·subst Co;rw[yV]
    intro kI tF
    have:=dH i e1 b hi pS kI
    rcases hb with hb|hb<;>rw[hb]at tF<;>simp at tF
    omega
   ·rw[an _ _ Co]at hj;rw[hν j Co];exact h.wO i j e1 e2 b oY hi pS hj vl
 ·by_cases bC:i=id
  ·subst bC;rw[yV]
   intro kI
   rcases hb with hb|hb<;>rw[hb]at kI<;>simp at kI
   subst kI;exact .inl h.size
  ·rw[an _ _ bC]at hi;rw[hν i bC];exact h.new i e1 b hi pS
 ·by_cases bC:i=id
  ·subst bC;rw[yV]
   intro kI h0
   rcases hb with hb|hb<;>rw[hb]at kI<;>simp at kI
   have:=h.rM.1 b h0
   have:=h.size
   omega
  ·rw[an _ _ bC]at hi;rw[hν i bC];exact h.u9 i e1 l1 b hi
 ·rw[size_alloc]
  rcases dN with dN|dN
  ·have:=h.Ab b dN;omega
  ·omega
 ·rw[nB w o (azP kI h.size)];exact h.frame b kI tF
 ·rw[size_alloc];have:=h.size;omega
 ·by_cases bC:i=id
  ·subst bC;rw[aV]at hi;cases hi
  ·exact⟨e',by rw[an _ _ bC];exact hi,.refl e'⟩
 ·have bC:i≠id:=fun e=>hi (e▸aV)
  exact hν i bC
theorem Tr.var{c:Ctx}{H:Nat→Option aS}{w:World}{M:Nat→Prop}{ν:Nat→Value}(h:Mem c H w M ν){id:Nat}(aV:H id=none)(t:TypeId){τ:Ty}{cs:Array Value}{x:τ.den}(hr:Rd w M τ cs.toList x):
  Tr c H w M ν (bz H id (some (.obj τ x))) (w.alloc (.cells cs t)) (fun b=>M b∨b=w.heap.size) (cF ν id (.pointer (some ⟨w.heap.size,0,none⟩))):=by
 refine Tr.alloc h aV _ _ _ trivial (fun _ _ _ _=>by simp) (.inr rfl) ?_
 simp only[ER]
 have hk:dy w M (w.alloc (.cells cs t)) (fun b=>M b∨b=w.heap.size):=
  ⟨by rw[size_alloc];omega,fun b hb _=>nB w _ hb,fun b hb h'=>h'.resolve_right (by omega)⟩
 exact⟨w.heap.size,cs,t,rfl,Ad w _,.inr rfl,hr.bD hk⟩
theorem Tr.row{c:Ctx}{H:Nat→Option aS}{w:World}{M:Nat→Prop}{ν:Nat→Value}(h:Mem c H w M ν){id:Nat}(aV:H id=none)(t:TypeId){e:Ty}{cs:Array Value}{l:List e.den}{cap:Nat}
  (hl:l.length≤cap) (hm:cap≤maxLen) (hs:cs.size=cap*e.size) (hr: ∀i (hi:i<l.length),Rd w M e ((cs.toList.drop (i*e.size)).take e.size) l[i]):
  Tr c H w M ν (bz H id (some (.own e l))) (w.alloc (.cells cs t)) (fun b=>M b∨b=w.heap.size) (cF ν id (.slice (some ⟨w.heap.size,0,none⟩) l.length cap)):=by
 have hk:dy w M (w.alloc (.cells cs t)) (fun b=>M b∨b=w.heap.size):=
  ⟨by rw[size_alloc];omega,fun b hb _=>nB w _ hb,fun b hb h'=>h'.resolve_right (by omega)⟩
 refine Tr.alloc h aV _ _ _ trivial (fun _ _ _ _=>by simp) ?_ ?_
 ·simp only[eJ];split
  ·exact .inl rfl
  ·exact .inr rfl
 ·simp only[ER]
  by_cases hc:cap=0
  ·subst hc
   have hl0:l=[]:=azL (by omega)
   subst hl0
   exact .inl ⟨rfl,_,rfl⟩
  ·exact .inr ⟨w.heap.size,cs,t,cap,rfl,Ad w _,.inr rfl,by omega,hl,hm,hs,fun i hi=>(hr i hi).bD hk⟩
theorem Tr.drew{c:Ctx}{H:Nat→Option aS}{w:World}{M:Nat→Prop}{ν:Nat→Value}(h:Mem c H w M ν):Tr c H w M ν H w.drew M ν:=by
 have hk:dy w M w.drew M:=⟨ayJ _,fun _ _ _=>rfl,fun _ _ h=>h⟩
 exact⟨⟨fun i e he=>(h.jr i e he).bD hk fun hm b hb=>⟨rfl,(h.jr i e he).uq hm hb⟩,h.wO,h.new,h.u9,h.ej,h.sub,h.Ab,h.frame,h.size,h.rM,h.os,h.tape,h.output⟩,hk,.refl H ν⟩
theorem size_setRow(w:World)(g:Nat)(cs:Array Value):(w.setRow g cs).heap.size=w.heap.size:=by simp[World.setRow]
theorem Tr.write{c:Ctx}{H:Nat→Option aS}{w:World}{M:Nat→Prop}{ν:Nat→Value}(h:Mem c H w M ν){id:Nat}{e e':aS}(aV:H id=some e)(hm:e.mut)(gY:e'.mut)(hl:e.iE e')
  {b:Nat} (hb:eJ (ν id)=some b) {cs new:Array Value} {t:TypeId} (hg:w.heap[b]? =some (.cells cs t (0,0)))
  (N5: ∀M',dy w M (w.setRow b new) M'→M' b→ER (w.setRow b new) M' (ν id) e')
  (pT: ∀τ x p j,e'= .ej τ x p j→H j≠none∧ ∃b',ν id= .pointer (some ⟨b',0,none⟩)∧(w.setRow b new).cell? ⟨b',bQ p τ,none⟩=some (ν j):=by intro _ _ _ _ h;cases h):
  Tr c H w M ν (bz H id (some e')) (w.setRow b new) M ν:=by
 have hMb:M b:=(h.jr id e aV).uq hm hb
 have hk:dy w M (w.setRow b new) M:=
  ⟨by rw[size_setRow];exact ayJ _,fun b' _ hm=>setRow_other w b b' new (fun e=>hm (e▸hMb)),fun _ _ h=>h⟩
 refine⟨⟨fun i e1 hi=> ?_,fun i j e1 e2 b1 oY hi pS hj vl=> ?_,fun i e1 b1 hi pS=> ?_,fun i e1 l1 b1 hi=> ?_,nO h (fun _ _=>rfl) s0 (fun i τ x p j hi=> ?_),h.sub,fun b1 kI=>by rw[size_setRow];exact h.Ab b1 kI,fun b1 kI tF=> ?_,by rw[size_setRow];exact h.size,h.rM,h.os,h.tape,h.output⟩,hk,⟨fun i e1 hi=> ?_,fun i hi=>rfl⟩⟩
 ·by_cases bC:i=id
  ·subst bC;rw[al]at hi;cases hi;exact N5 M hk hMb
  ·rw[an _ _ bC]at hi
   exact(h.jr i e1 hi).bD hk fun pS b1 kI=>⟨setRow_other w b b1 new (fun e'=>h.wO i id e1 e b1 bC hi pS aV hm kI (e'▸hb)),(h.jr i e1 hi).uq pS kI⟩
 ·by_cases bC:i=id
  ·subst bC;rw[al]at hi;cases hi
   have Co:j≠i:=aAu oY
   rw[an _ _ Co]at hj
   exact h.wO i j e e2 b1 oY aV hm hj vl
  ·rw[an _ _ bC]at hi
   by_cases Co:j=id
   ·subst Co;exact h.wO i j e1 e b1 oY hi pS aV hm
   ·rw[an _ _ Co]at hj;exact h.wO i j e1 e2 b1 oY hi pS hj vl
 ·by_cases bC:i=id
  ·subst bC;exact h.new i e b1 aV hm
  ·rw[an _ _ bC]at hi;exact h.new i e1 b1 hi pS
 ·by_cases bC:i=id
  ·subst bC;rw[al]at hi;cases hi
   cases e with
   |own e0 l0=>exact h.u9 i e0 l0 b1 aV
   |obj _ _=>simp[aS.iE]at hl
   |ej _ _ _ _=>simp[aS.iE]at hl
   |lF _ _=>simp[aS.mut]at hm
   |gone=>simp[aS.mut]at hm
  ·rw[an _ _ bC]at hi;exact h.u9 i e1 l1 b1 hi
 ·by_cases bC:i=id
  ·subst bC;rw[al]at hi;cases hi
   obtain⟨h1,h2⟩:=pT _ _ _ _ rfl
   exact .inr ⟨sZ h1,h2⟩
  ·rw[an _ _ bC]at hi
   exact .inl ⟨hi,fun b1 kI=>setRow_other w b b1 new (fun e1=>h.wO i id _ e b1 bC hi trivial aV hm (by rw[kI];rfl) (e1▸hb))⟩
 ·rw[setRow_other w b b1 new]
  ·exact h.frame b1 kI tF
  ·intro hbb;subst hbb
   rcases h.new id e b1 aV hm hb with h'|h'
   ·omega
   ·exact tF h'
 ·by_cases bC:i=id
  ·subst bC;rw[aV]at hi;cases hi;exact⟨e',al _ _ _,hl⟩
  ·exact⟨e1,by rw[an _ _ bC];exact hi,.refl e1⟩
theorem Tr.rename{c:Ctx}{H:Nat→Option aS}{w:World}{M:Nat→Prop}{ν:Nat→Value}(h:Mem c H w M ν){j id:Nat}{e e':Ty}{l:List e.den}{l':List e'.den}(hj:H j=some (.own e l))(aV:H id=none)
  {v:Value} (hb:eJ v=none∨eJ v=eJ (ν j)) (N5:ER w M v (.own e' l')):
  Tr c H w M ν (bz (bz H j (some .gone)) id (some (.own e' l'))) w M (cF ν id v):=by
 have gq:j≠id:=fun e=>by rw[e,aV]at hj;cases hj
 have h1:=(Tr.gone h j).mem
 have mG:bz H j (some .gone) id=none:=by rw[an _ _ (aAu gq)];exact aV
 have hν: ∀i,i≠id→cF ν id v i=ν i:=fun i hi=>by simp[cF,hi]
 have yV:cF ν id v id=v:=by simp[cF]
 refine⟨⟨fun i e1 hi=> ?_,fun i k e1 e2 b1 oY hi pS hk vl=> ?_,fun i e1 b1 hi pS=> ?_,fun i e1 l1 b1 hi=> ?_,nO h1 (fun i hi=>hν i (fun e=>hi (e▸mG))) s0 (fun i τ x p j hi=> .inl ⟨vk (fun _ _ _ _=>by simp) hi,fun _ _=>rfl⟩),h.sub,h.Ab,h.frame,h.size,h.rM,h.os,h.tape,h.output⟩,.refl w M,⟨fun i e1 hi=> ?_,fun i hi=> ?_⟩⟩
 ·by_cases bC:i=id
  ·subst bC;rw[al]at hi;cases hi;rw[yV];exact N5
  ·rw[an _ _ bC]at hi;rw[hν i bC];exact h1.jr i e1 hi
 ·by_cases bC:i=id
  ·subst bC;rw[al]at hi;cases hi;rw[yV]
   have GO:k≠i:=aAu oY
   rw[an _ _ GO]at hk;rw[hν k GO]
   intro kI
   rcases hb with hb|hb
   ·rw[hb]at kI;cases kI
   ·rw[hb]at kI
    by_cases hkj:k=j
    ·subst hkj;rw[al]at hk;cases hk;simp[aS.mut]at vl
    ·rw[an _ _ hkj]at hk;exact h.wO j k _ e2 b1 (aAu hkj) hj trivial hk vl kI
  ·rw[an _ _ bC]at hi;rw[hν i bC]
   by_cases GO:k=id
   ·subst GO;rw[yV]
    intro kI tF
    rcases hb with hb|hb
    ·rw[hb]at tF;cases tF
    ·rw[hb]at tF
     by_cases Cz:i=j
     ·subst Cz;rw[al]at hi;cases hi;simp[aS.mut]at pS
     ·rw[an _ _ Cz]at hi;exact h.wO j i _ e1 b1 (aAu Cz) hj trivial hi pS tF kI
   ·rw[an _ _ GO]at hk;rw[hν k GO];exact h1.wO i k e1 e2 b1 oY hi pS hk vl
 ·by_cases bC:i=id
  ·subst bC;rw[yV];intro kI
   rcases hb with hb|hb
   ·rw[hb]at kI;cases kI
   ·rw[hb]at kI;exact h.new j _ b1 hj trivial kI
  ·rw[an _ _ bC]at hi;rw[hν i bC];exact h1.new i e1 b1 hi pS
 ·by_cases bC:i=id
  ·subst bC;rw[yV];intro kI
   rcases hb with hb|hb
   ·rw[hb]at kI;cases kI
   ·rw[hb]at kI;exact h.u9 j e l b1 hj kI
  ·rw[an _ _ bC]at hi;rw[hν i bC];exact h1.u9 i e1 l1 b1 hi
 ·by_cases Cz:i=j
  ·subst Cz;exact⟨.gone,by rw[an _ _ gq,al],by cases e1<;>simp[aS.iE]⟩
  ·have bC:i≠id:=fun e=>by rw[e,aV]at hi;cases hi
   exact⟨e1,by rw[an _ _ bC,an _ _ Cz];exact hi,.refl e1⟩
 ·exact hν i (fun e=>hi (e▸aV))
theorem Tr.N6{c:Ctx}{H:Nat→Option aS}{w:World}{M:Nat→Prop}{ν:Nat→Value}(h:Mem c H w M ν){id:Nat}{e e':aS}(aV:H id=some e)(hm:e.mut)(gY:e'.mut)(hl:e.iE e')(pU: ∀e0 l0,e'≠ .own e0 l0)
  (N5:ER w M (ν id) e') (pT: ∀τ x p j,e'= .ej τ x p j→H j≠none∧ ∃b',ν id= .pointer (some ⟨b',0,none⟩)∧w.cell? ⟨b',bQ p τ,none⟩=some (ν j)):
  Tr c H w M ν (bz H id (some e')) w M ν:=by
 refine⟨⟨fun i e1 hi=> ?_,fun i j e1 e2 b1 oY hi pS hj vl=> ?_,fun i e1 b1 hi pS=> ?_,fun i e1 l1 b1 hi=> ?_,nO h (fun _ _=>rfl) s0 (fun i τ x p j hi=> ?_),h.sub,h.Ab,h.frame,h.size,h.rM,h.os,h.tape,h.output⟩,.refl w M,⟨fun i e1 hi=> ?_,fun i hi=>rfl⟩⟩
 ·by_cases bC:i=id
  ·subst bC;rw[al]at hi;cases hi;exact N5
  ·rw[an _ _ bC]at hi;exact h.jr i e1 hi
 ·by_cases bC:i=id
  ·subst bC;rw[al]at hi;cases hi
   have Co:j≠i:=aAu oY
   rw[an _ _ Co]at hj
   exact h.wO i j e e2 b1 oY aV hm hj vl
  ·rw[an _ _ bC]at hi
   by_cases Co:j=id
   ·subst Co;exact h.wO i j e1 e b1 oY hi pS aV hm
   ·rw[an _ _ Co]at hj;exact h.wO i j e1 e2 b1 oY hi pS hj vl
 ·by_cases bC:i=id
  ·subst bC;exact h.new i e b1 aV hm
  ·rw[an _ _ bC]at hi;exact h.new i e1 b1 hi pS
 ·by_cases bC:i=id
  ·subst bC;rw[al]at hi;cases hi;exact absurd rfl (pU _ _)
  ·rw[an _ _ bC]at hi;exact h.u9 i e1 l1 b1 hi
 ·by_cases bC:i=id
  ·subst bC;rw[al]at hi;cases hi
   obtain⟨h1,h2⟩:=pT _ _ _ _ rfl
   exact .inr ⟨sZ h1,h2⟩
  ·rw[an _ _ bC]at hi;exact .inl ⟨hi,fun _ _=>rfl⟩
 ·by_cases bC:i=id
  ·subst bC;rw[aV]at hi;cases hi;exact⟨e',al _ _ _,hl⟩
  ·exact⟨e1,by rw[an _ _ bC];exact hi,.refl e1⟩
theorem Tr.nothing{c:Ctx}{w:World}{M:Nat→Prop}{ν:Nat→Value}{H:Nat→Option aS}(h:Mem c H w M ν){id:Nat}(aV:H id=none)(e:Ty)(ad:Option Addr):
  Tr c H w M ν (bz H id (some (.own e []))) w M (cF ν id (.slice ad 0 0)):=by
 have hν: ∀i,i≠id→cF ν id (.slice ad 0 0) i=ν i:=fun i hi=>by simp[cF,hi]
 have yV:cF ν id (.slice ad 0 0) id= .slice ad 0 0:=by simp[cF]
 have hb:eJ (.slice ad 0 0)=none:=by cases ad<;>simp[eJ]
 refine⟨⟨fun i e1 hi=> ?_,fun i k e1 e2 b1 oY hi pS hk vl=> ?_,fun i e1 b1 hi pS=> ?_,fun i e1 l1 b1 hi=> ?_,nO h (fun i hi=>hν i (fun e=>hi (e▸aV))) s0 (fun i τ x p j hi=> .inl ⟨vk (fun _ _ _ _=>by simp) hi,fun _ _=>rfl⟩),h.sub,h.Ab,h.frame,h.size,h.rM,h.os,h.tape,h.output⟩,.refl w M,⟨fun i e1 hi=> ?_,fun i hi=>hν i (fun e=>hi (e▸aV))⟩⟩
 ·by_cases bC:i=id
  ·subst bC;rw[al]at hi;cases hi;rw[yV];simp only[ER];exact .inl ⟨trivial,ad,rfl⟩
  ·rw[an _ _ bC]at hi;rw[hν i bC];exact h.jr i e1 hi
 ·by_cases bC:i=id
  ·subst bC;rw[yV,hb];intro h';cases h'
  ·rw[an _ _ bC]at hi;rw[hν i bC]
   by_cases GO:k=id
   ·subst GO;rw[yV,hb];intro _ h';cases h'
   ·rw[an _ _ GO]at hk;rw[hν k GO];exact h.wO i k e1 e2 b1 oY hi pS hk vl
 ·by_cases bC:i=id
  ·subst bC;rw[yV,hb];intro h';cases h'
  ·rw[an _ _ bC]at hi;rw[hν i bC];exact h.new i e1 b1 hi pS
 ·by_cases bC:i=id
  ·subst bC;rw[yV,hb];intro h';cases h'
  ·rw[an _ _ bC]at hi;rw[hν i bC];exact h.u9 i e1 l1 b1 hi
 ·have bC:i≠id:=fun e=>by rw[e,aV]at hi;cases hi
  exact⟨e1,by rw[an _ _ bC];exact hi,.refl e1⟩
end VM
end
section
namespace VM
open Go
theorem bg{α:Type}{υ τ:Ty}{y:υ.den}{k:τ.den→Option α}{r:α}(h:cv υ τ y k=some r): ∃e:υ=τ,k (e▸y)=some r:=by
 unfold cv at h
 split at h
 ·rename_i e;exact⟨e,h⟩
 ·cases h
theorem dY{α:Type}{υ τ:Ty}{k:Option α}{r:α}(h:jY υ τ k=some r):υ=τ∧k=some r:=by
 unfold jY at h
 split at h
 ·rename_i e;exact⟨e,h⟩
 ·cases h
theorem V.slice{w:World}{M:Nat→Prop}{e:Ty}{v:Value}{l:List e.den}:V w M (.slice e) v l↔Rd w M (.slice e) [v] l:=by
 unfold V;rw[ayE (by simp[Ty.isAgg])]
def Fz(H H1:Nat→Option aS):Prop:= ∀i,H1 i=H i∨ ∃e l,H i=some (.own e l)∧H1 i=some (.lF e l)
theorem Fz.refl(H:Nat→Option aS):Fz H H:=fun _=> .inl rfl
theorem Fz.none{H H1:Nat→Option aS}(h:Fz H H1){i:Nat}(hi:H i=none):H1 i=none:=by
 rcases h i with h'|⟨e,l,h',_⟩
 ·rw[h',hi]
 ·rw[hi]at h';cases h'
theorem Fz.obj{H H1:Nat→Option aS}(h:Fz H H1){i:Nat}{τ:Ty}{x:τ.den}(hi:H i=some (.obj τ x)):H1 i=some (.obj τ x):=by
 rcases h i with h'|⟨e,l,h',_⟩
 ·rw[h',hi]
 ·rw[hi]at h';cases h'
theorem wX{H:Nat→Option aS}{id:Nat}{e:Option aS}(h:H id=e):bz H id e=H:=by
 funext i
 by_cases hi:i=id
 ·subst hi;rw[al,h]
 ·rw[an _ _ hi]
theorem kW{α:Type}{c:Ctx}{H H1:Nat→Option aS}{w:World}{M:Nat→Prop}{ν:Nat→Value}(hz:Fz H H1)(hm:Mem c H1 w M ν){a:bb}{v:Value}(hv:VR w M H1 ν a v){τ:Ty}
  {k:τ.den→List Nat→fN→Option α} {r:α} (h:iZ true a H τ k=some r):
  ∃y rd ups M',k y rd ups=some r∧Tr c H1 w M ν (ch H1 ups) w M' ν∧V w M' τ v y∧Fz H (ch H1 ups)∧ ∀i,rd.contains i=false→ch H1 ups i=H1 i:=by
 unfold iZ at h
 split at h
 ·
  obtain⟨e,h⟩:=bg h
  subst e
  simp only[VR]at hv
  exact⟨_,[],[],M,h,.refl hm,hv,hz,fun _ _=>rfl⟩
 ·
  obtain⟨e,h⟩:=bg h
  subst e
  simp only[VR]at hv
  exact⟨_,[],[],M,h,.refl hm,hv.1,hz,fun _ _=>rfl⟩
 ·
  split at h
  ·rename_i e k' _
   simp only[VR]at hv
   obtain⟨a,rfl⟩:=hv
   refine⟨[],[],[],M,h,.refl hm,V.slice.2 ?_,hz,fun _ _=>rfl⟩
   simp only[Rd]
   exact⟨a,0,rfl,ayJ _,fun i hi=>absurd hi (by simp)⟩
  ·cases h
 ·rename_i id
  simp only[VR]at hv
  obtain⟨_,rfl⟩:=hv
  split at h
  ·rename_i e l aV
   obtain⟨e',h⟩:=bg h
   subst e'
   rcases hz id with h1|⟨e1,l1,h1,h2⟩
   ·rw[aV]at h1
    obtain⟨M',fg,hV,_⟩:=Tr.freeze hm h1
    refine⟨_,_,_,M',h,fg,hV,fun i=> ?_,fun i hi=>an _ _ (by simpa using hi)⟩
    show bz H1 id (some (.lF e l)) i=H i∨_
    by_cases hi:i=id
    ·subst hi;exact .inr ⟨e,l,aV,al _ _ _⟩
    ·rw[an _ _ hi]
     rcases hz i with h'|⟨e2,l2,h2,h3⟩
     ·exact .inl h'
     ·exact .inr ⟨e2,l2,h2,by show bz H1 id _ i=_;rw[an _ _ hi];exact h3⟩
   ·rw[aV]at h1;cases h1
    have:=hm.jr id _ h2
    simp only[ER]at this
    refine⟨_,_,[(id,some (.lF e l))],M,h,?_,V.slice.2 this.1,?_,fun i hi=>an _ _ (by simpa using hi)⟩
    ·show Tr c H1 w M ν (bz H1 id (some (.lF e l))) w M ν
     rw[wX h2];exact .refl hm
    ·show Fz H (bz H1 id (some (.lF e l)))
     rw[wX h2];exact hz
  ·rename_i e l aV
   obtain⟨e',h⟩:=bg h
   subst e'
   have h1:H1 id=some (.lF e l):=by
    rcases hz id with h1|⟨e1,l1,h1,h2⟩
    ·rw[h1,aV]
    ·rw[aV]at h1;cases h1
   have:=hm.jr id _ h1
   simp only[ER]at this
   exact⟨_,_,_,M,h,.refl hm,V.slice.2 this.1,hz,fun _ _=>rfl⟩
  ·cases h
 ·cases h
def Src(w:World)(M:Nat→Prop)(e:Ty)(v:Value)(l:List e.den):Prop:=
 ∃a cap,v= .slice a l.length cap∧ ∀i (h:i<l.length),∃b off cs,a=some ⟨b,off,none⟩∧At w b (off+i*e.size) cs∧Rd w M e cs l[i]
theorem Src.Uu{w:World}{M:Nat→Prop}{e:Ty}{v:Value}{l:List e.den}(h:V w M (.slice e) v l):Src w M e v l:=by
 have h:=V.slice.1 h
 simp only[Rd,azq,az4]at h
 obtain⟨a,cap,rfl,_,hr⟩:=h
 refine⟨a,cap,rfl,fun i hi=> ?_⟩
 obtain⟨b,off,ha,_,_,cs,lG,iu⟩:=hr i hi
 exact⟨b,off,cs,ha,lG,iu⟩
theorem xO{α:Type}{c:Ctx}{H:Nat→Option aS}{w:World}{M:Nat→Prop}{ν:Nat→Value}(hm:Mem c H w M ν){a:bb}{v:Value}(hv:VR w M H ν a v){e:Ty}
  {k:List e.den→List Nat→fN→Option α} {r:α} (h:iZ false a H (.slice e) k=some r):
  ∃y rd,k y rd []=some r∧Src w M e v y:=by
 unfold iZ at h
 split at h
 ·obtain⟨e',h⟩:=bg h
  subst e'
  simp only[VR]at hv
  exact⟨_,[],h,.Uu hv⟩
 ·obtain⟨e',h⟩:=bg h
  subst e'
  simp only[VR]at hv
  exact⟨_,[],h,.Uu hv.1⟩
 ·have h:k [] [] []=some r:=h
  simp only[VR]at hv
  obtain⟨a,rfl⟩:=hv
  exact⟨[],[],h,a,0,rfl,fun i hi=>absurd hi (by simp)⟩
 ·rename_i id
  simp only[VR]at hv
  obtain⟨_,rfl⟩:=hv
  split at h
  ·rename_i e1 l aV
   obtain⟨e',h⟩:=bg h
   cases e'
   refine⟨_,_,h,?_⟩
   have:=hm.jr id _ aV
   simp only[ER]at this
   rcases this with⟨rfl,a,hv⟩|⟨b,cs,t,cap,hv,hb,hM,hc,hl,Ac,hs,hr⟩
   ·exact⟨a,0,hv,fun i hi=>absurd hi (by simp)⟩
   ·refine⟨_,cap,hv,fun i hi=>⟨b,0,_,rfl,?_,hr i hi⟩⟩
    rw[azH]
    exact At.of_block hb _ _
  ·rename_i e1 l aV
   obtain⟨e',h⟩:=bg h
   cases e'
   have:=hm.jr id _ aV
   simp only[ER]at this
   exact⟨_,_,h,.Uu (V.slice.2 this.1)⟩
  ·cases h
 ·cases h
theorem Src.cells{w:World}{M:Nat→Prop}{e:Ty}{v:Value}{l:List e.den}(h:Src w M e v l)(gq:l≠[]):
  ∃b off cap news,v= .slice (some ⟨b,off,none⟩) l.length cap∧news.length=l.length*e.size∧At w b off news∧
   (∀i (hi:i<l.length),Rd w M e ((news.drop (i*e.size)).take e.size) l[i])∧ ∀u∈news,u.oneCell'=true:=by
 obtain⟨a,cap,rfl,hr⟩:=h
 have h0:0<l.length:=azQ.2 gq
 obtain⟨b,off,_,ha,_⟩:=hr 0 h0
 subst ha
 have key: ∀n,n≤l.length→ ∃news:List Value,news.length=n*e.size∧At w b off news∧
   (∀i (hi:i<l.length),i<n→Rd w M e ((news.drop (i*e.size)).take e.size) l[i])∧ ∀u∈news,u.oneCell'=true:=by
  intro n
  induction n with
  |zero=>exact fun _=>⟨[],by simp,fun j v hj=>by simp at hj,fun i _ hi=>by omega,by simp⟩
  |succ n ih=>
   intro hn
   obtain⟨news,hl,lG,iu,acf⟩:=ih (by omega)
   obtain⟨b',auA,cs,ha,acg,N7⟩:=hr n (by omega)
   cases ha
   refine⟨news++cs,by rw[ayH,hl,N7.length,azx,aAw],At.append.2 ⟨lG,by rw[hl];exact acg⟩,fun i hi gD=> ?_,fun u hu=> ?_⟩
   ·by_cases dH:i<n
    ·have h1:(i+1)*e.size≤n*e.size:=azy _ dH
     rw[azx,aAw]at h1
     rw[aAq (by omega),aAp (by rw[aza];omega)]
     exact iu i hi dH
    ·obtain rfl:i=n:=by omega
     rw[aAh hl,azo (by rw[N7.length];exact ayJ _)]
     exact N7
   ·rcases ayU.1 hu with hu|hu
    ·exact acf u hu
    ·exact N7.lH u hu
 obtain⟨news,hl,lG,iu,acf⟩:=key l.length (ayJ _)
 exact⟨b,off,cap,news,rfl,hl,lG,fun i hi=>iu i hi hi,acf⟩
structure Core(c:Ctx)(σ:St)(tm:Array Value)(w:World)(M:Nat→Prop)(ν:Nat→Value):Prop where
 mem:Mem c σ.H w M ν
 tmp: ∀i,VR w M σ.H ν (σ.T i) (tm.getD i undef)
theorem N8(w:World)(M:Nat→Prop)(H:Nat→Option aS)(ν:Nat→Value)(v:Value):VR w M H ν (cvA v) v:=by
 unfold cvA
 split<;>simp[VR,V,Ty.isAgg,Rd]
theorem Core.op{c:Ctx}{σ:St}{tm:Array Value}{w:World}{M:Nat→Prop}{ν:Nat→Value}(h:Core c σ tm w M ν)(ds:List Deferred)(x:Operand):
  VR w M σ.H ν (σ.ρ x) (({tmps:=tm,defers:=ds}:Act).eval x):=by
 cases x with
 |tmp t=>exact h.tmp t
 |const v=>exact N8 w M σ.H ν v
 |global g=>simp[St.ρ,VR]
 |func f=>simp[St.ρ,VR,fX,Act.eval]
def ahw(P:Program)(t:TypeId)(τ:Ty):Prop:=
 ∀(w:World) (M:Nat→Prop) (u v:Value) (x y:τ.den) (b:BinOp) (xo yo:Operand),V w M τ u x→V w M τ v y→
  (eqGuard b t xo yo u v).run P w= .ok () w∧(binOp .eql t u v).run P w= .ok (.bool (jT τ x y)) w∧(binOp .neq t u v).run P w= .ok (.bool (!jT τ x y)) w
structure EnvTy(P:Program)(E:Env):Prop where
 ty: ∀t τ,E.ty t=some τ→g6 P τ t
 eq: ∀t τ,E.ty t=some τ→τ.comparable=true→τ.isAgg=true→ahw P t τ
end VM
end
section
namespace VM
open Go
variable{P:Program}
theorem vm{o:Oper}{ρ:Operand→Value}{t:TypeId}{i:TypeInfo}{z:Value}(ho:o.op= .alloc t)(hi:P.info? t=some i)(hz:i.zero=some z)(w:World):
  (execOp ρ o).run P w= .ok (.value (.pointer (some ⟨w.heap.size,0,none⟩))) (w.alloc (.cells z.cells t)):=by
 simp[execOp,ho,Instr.alloc,zeroValue,typeInfo,hi,hz,newVar,newRow]
theorem Ae{o:Oper}{ρ:Operand→Value}{t:TypeId}{x:Operand}(ho:o.op= .box t x)(w:World):
  (execOp ρ o).run P w= .ok (.value (.pointer (some ⟨w.heap.size,0,none⟩))) (w.alloc (.cells (ρ x).cells t)):=by
 simp[execOp,ho,Instr.box,newVar,newRow]
theorem pV{τ:Ty}{t:TypeId}(h:g6 P τ t)(w:World):(isAgg t).run P w= .ok τ.isAgg w:=by
 unfold g6 at h
 cases τ<;>simp only[dU]at h
 ·simp[isAgg,run_underlying h.2,Ty.isAgg]
 ·simp[isAgg,run_underlying h.2,Ty.isAgg]
 ·simp[isAgg,run_underlying h.2,Ty.isAgg]
 ·obtain⟨_,e',h',_⟩:=h;simp[isAgg,run_underlying h',Ty.isAgg]
 ·obtain⟨_,e',h',_⟩:=h;simp[isAgg,run_underlying h',Ty.isAgg]
 ·obtain⟨_,e',f,h',_⟩:=h;simp[isAgg,run_underlying h',Ty.isAgg]
 ·obtain⟨_,e',h',_⟩:=h;simp[isAgg,run_underlying h',Ty.isAgg]
theorem cw{τ:Ty}{t:TypeId}(h:g6 P τ t)(w:World):(Go.sizeOf t).run P w= .ok τ.size w:=by
 obtain⟨i,hi,hs,_⟩:=h.base
 simp[Go.sizeOf,typeInfo,hi,hs]
theorem xP{w:World}{M:Nat→Prop}{τ:Ty}{t:TypeId}(h:g6 P τ t){b off:Nat}{cs:List Value}{x:τ.den}(ha:At w b off cs)(hr:Rd w M τ cs x):
  (loadVar t ⟨b,off,none⟩).run P w= .ok (bU τ cs) w:=by
 have hl:(loadCells ⟨b,off,none⟩ τ.size).run P w= .ok cs.toArray w:=by
  rw[←hr.length]
  exact run_loadCells_list w _ cs fun j v hj=>by rw[show(⟨b,off,none⟩:Addr).add j=⟨b,off+j,none⟩from by unfold Addr.add;split<;>simp_all];exact ha j v hj
 unfold bU
 by_cases GP:τ.isAgg=true
 ·simp[loadVar,pV h,GP,cw h,hl]
 ·obtain⟨v,rfl,hc⟩:=hr.scalar (by simpa using GP)
  have h0:=ha 0 v rfl
  simp only[aAO]at h0
  simp[loadVar,pV h,GP,load,Sem.run,h0]
theorem sa{o:Oper}{ρ:Operand→Value}{t:TypeId}{x:Operand}(ho:o.op= .load t x){w:World}{M:Nat→Prop}{τ:Ty}(h:g6 P τ t){b off:Nat}{cs:List Value}{y:τ.den}
  (hx:ρ x= .pointer (some ⟨b,off,none⟩)) (ha:At w b off cs) (hr:Rd w M τ cs y):
  (execOp ρ o).run P w= .ok (.value (bU τ cs)) w:=by
 simp[execOp,ho,hx,Instr.loadAt,Instr.sureAddr,xP h ha hr]
theorem j1{o:Oper}{ρ:Operand→Value}{t:TypeId}{x y:Operand}(ho:o.op= .store t x y){w:World}{τ:Ty}(h:g6 P τ t){b off:Nat}{cur:Array Value}{te:TypeId}
  (hx:ρ x= .pointer (some ⟨b,off,none⟩)) (hg:w.heap[b]? =some (.cells cur te (0,0))) (hs:(ρ y).cells.size=τ.size) (hf:off+τ.size≤cur.size) (h1: ∀v∈(ρ y).cells.toList,v.oneCell'=true):
  (execOp ρ o).run P w= .ok .skip (w.setRow b (cur.toList.take off++(ρ y).cells.toList++cur.toList.drop (off+(ρ y).cells.toList.length)).toArray):=by
 have Kq:=run_storeCells_at (P:=P) b off te (ρ y).cells.toList 0 cur w hg (by simp[hs];omega) h1
 simp only[aAO]at Kq
 simp[execOp,ho,hx,Instr.storeAt,Instr.sureAddr,storeVar,cw h,hs,Kq]
theorem pW{o:Oper}{ρ:Operand→Value}{t:TypeId}{x:Operand}{n:Nat}(ho:o.op= .fieldAddr t x n){w:World}{fs:Array Field}{f:Field}{b off:Nat}{υ:Ty}
  (hu:P.underlying t=some (.struct fs)) (hf:fs[n]? =some f) (hl:g6 P υ f.type) (hz:υ.size≠0) (hx:ρ x= .pointer (some ⟨b,off,none⟩)):
  ∃a,(execOp ρ o).run P w= .ok (.value a) w∧a= .pointer (some ⟨b,off+f.offset,none⟩):=by
 refine⟨_,?_,rfl⟩
 simp[execOp,ho,hx,Instr.fieldAt,Instr.sureAddr,run_underlying hu,hf,fieldPlace,Addr.add_lit,cw hl,hz]
theorem vn{τ:Ty}{t:TypeId}(h:g6 P τ t){w:World}{M:Nat→Prop}{cs:Array Value}{off:Nat}{x:τ.den}(hr:Rd w M τ ((cs.toList.drop off).take τ.size) x):
  (part t cs off).run P w= .ok (bU τ ((cs.toList.drop off).take τ.size)) w:=by
 have hl:=hr.length
 unfold bU
 by_cases GP:τ.isAgg=true
 ·simp only[part,Sem.run_bind,pV h,Result.andThen_ok,GP,aBc,cw h]
  simp
  rw[ayX,aza,ayM]at hl
  apply aAy
  simp only[Array.toList_extract,List.extract_eq_take_drop,aAL]
 ·obtain⟨v,hv,hc⟩:=hr.scalar (by simpa using GP)
  rw[hv]
  have h0:cs[off]? =some v:=by
   have:=azS (fun l=>l[0]?) hv
   simp only[azJ,azK]at this
   split at this
   ·simpa using this
   ·simp at this
  simp[part,pV h,GP,h0]
theorem EN{o:Oper}{ρ:Operand→Value}{t:TypeId}{x:Operand}{n:Nat}(ho:o.op= .field t x n){w:World}{M:Nat→Prop}{fs:Array Field}{f:Field}{cs:Array Value}{υ:Ty}{y:υ.den}
  (hu:P.underlying t=some (.struct fs)) (hf:fs[n]? =some f) (hl:g6 P υ f.type) (hx:ρ x= .agg cs) (hr:Rd w M υ ((cs.toList.drop f.offset).take υ.size) y):
  (execOp ρ o).run P w= .ok (.value (bU υ ((cs.toList.drop f.offset).take υ.size))) w:=by
 simp[execOp,ho,hx,Instr.field,run_underlying hu,hf,asAgg,vn hl hr]
theorem iy{o:Oper}{ρ:Operand→Value}{t e:TypeId}{x i:Operand}(ho:o.op= .indexAddr t x i){w:World}{τe:Ty}{b off len cap:Nat}{k:IntKind}{n:Int}
  (hu:P.underlying t=some (.slice e)) (he:g6 P τe e) (hx:ρ x= .slice (some ⟨b,off,none⟩) len cap) (hi:ρ i= .int k n) (h0:0≤n) (h1:n<(len:Int)):
  (execOp ρ o).run P w= .ok (.value (.pointer (some ⟨b,off+n.toNat*τe.size,none⟩))) w:=by
 simp[execOp,ho,hx,hi,Instr.indexAt,asIntOf,run_underlying hu,h0,h1,cw he,Addr.add_lit]
theorem oZ{o:Oper}{ρ:Operand→Value}{t e:TypeId}{x i:Operand}(ho:o.op= .indexAddr t x i){w:World}{τe:Ty}{b off len:Nat}{k:IntKind}{n:Int}
  (hu:P.underlying t=some (.array len e)) (he:g6 P τe e) (hx:ρ x= .pointer (some ⟨b,off,none⟩)) (hi:ρ i= .int k n) (h0:0≤n) (h1:n<(len:Int)):
  (execOp ρ o).run P w= .ok (.value (.pointer (some ⟨b,off+n.toNat*τe.size,none⟩))) w:=by
 simp[execOp,ho,hx,hi,Instr.indexAt,Instr.sureAddr,asIntOf,run_underlying hu,h0,h1,cw he,Addr.add_lit]
theorem CA{o:Oper}{ρ:Operand→Value}{t e:TypeId}{x i:Operand}(ho:o.op= .index t x i){w:World}{M:Nat→Prop}{τe:Ty}{len:Nat}{k:IntKind}{n:Int}{cs:Array Value}{y:τe.den}
  (hu:P.underlying t=some (.array len e)) (he:g6 P τe e) (hx:ρ x= .agg cs) (hi:ρ i= .int k n) (h0:0≤n) (h1:n<(len:Int)) (hr:Rd w M τe ((cs.toList.drop (n.toNat*τe.size)).take τe.size) y):
  (execOp ρ o).run P w= .ok (.value (bU τe ((cs.toList.drop (n.toNat*τe.size)).take τe.size))) w:=by
 simp[execOp,ho,hx,hi,Instr.index,asIntOf,run_underlying hu,h0,h1,cw he,vn he hr]
theorem Af{o:Oper}{ρ:Operand→Value}{x:Operand}{n:Nat}(ho:o.op= .extract x n){w:World}{us:List Value}{v:Value}(hx:ρ x= .tuple us.toArray)(hv:us[n]? =some v):
  (execOp ρ o).run P w= .ok (.value v) w:=by
 simp[execOp,ho,hx,Instr.extract,hv]
theorem GQ{o:Oper}{ρ:Operand→Value}{x y z:Operand}(ho:o.op= .pick x y z){w:World}{b:Bool}(hx:ρ x= .bool b):
  (execOp ρ o).run P w= .ok (.value (if b then ρ y else ρ z)) w:=by
 simp[execOp,ho,hx,asBool]
theorem rz{o:Oper}{ρ:Operand→Value}{x:Operand}(ho:o.op= .nilCheck x){w:World}{a:Addr}(hx:ρ x= .pointer (some a)):
  (execOp ρ o).run P w= .ok (.value (.pointer (some a))) w:=by
 simp[execOp,ho,hx]
theorem yW{o:Oper}{ρ:Operand→Value}{f:FuncId}{first caps:Array Operand}(ho:o.op= .makeFunc (.func f) first caps)(hf:first= #[]){w:World}:
  (execOp ρ o).run P w= .ok (.value (.func (.func f) #[] (caps.map ρ))) w:=by
 subst hf
 simp[execOp,ho,Instr.makeFunc]
theorem Ah{o:Oper}{ρ:Operand→Value}{s d:TypeId}{x:Operand}(ho:o.op= .convert s d x){w:World}{k k':IntKind}{n:Int}(hs:(P.underlying s).isSome=true)(hd:P.underlying d=some (.int k))(hx:ρ x= .int k' n):
  (execOp ρ o).run P w= .ok (.value (.int k (k.wrap n))) w:=by
 obtain⟨ds,hs⟩:=Option.isSome_iff_exists.1 hs
 simp[execOp,ho,hx,convert,run_underlying hs,run_underlying hd,Conv.intToInt]
theorem sb{o:Oper}{ρ:Operand→Value}{u:UnOp}{t:TypeId}{x:Operand}(ho:o.op= .unOp u t x){w:World}{v:Value}(h:(Op.unary u (ρ x)).run P w= .ok v w):
  (execOp ρ o).run P w= .ok (.value v) w:=by
 simp[execOp,ho,h]
theorem m7{o:Oper}{ρ:Operand→Value}{b:BinOp}{t t':TypeId}{x y:Operand}(ho:o.op= .binOp b t x y t'){w:World}{v:Value}
  (hg:(eqGuard b t x y (ρ x) (ρ y)).run P w= .ok () w) (h:(binOp b t (ρ x) (ρ y)).run P w= .ok v w):
  (execOp ρ o).run P w= .ok (.value v) w:=by
 simp[execOp,ho,hg,h]
theorem mH{b:BinOp}{t:TypeId}{x y:Operand}{k k':IntKind}{m n:Int}(w:World):(eqGuard b t x y (.int k m) (.int k' n)).run P w= .ok () w:=by
 cases b<;>simp[eqGuard]
theorem wY{b:BinOp}{t:TypeId}{x y:Operand}{m n:Bool}(w:World):(eqGuard b t x y (.bool m) (.bool n)).run P w= .ok () w:=by
 cases b<;>simp[eqGuard]
theorem yX{b:BinOp}{t:TypeId}{x y:Operand}{m n:ByteArray}(w:World):(eqGuard b t x y (.string m) (.string n)).run P w= .ok () w:=by
 cases b<;>simp[eqGuard]
theorem nP{o:Oper}{ρ:Operand→Value}{b:Builtin}{args:Array Operand}{ts:Array TypeId}(ho:o.op= .call {callee:= .builtin b,args,argTypes:=ts}){w:World}:
  ∃cs,(execOp ρ o).run P w=(builtin b ts o.type cs (args.map ρ)).run P w:=by
 refine⟨args.map fun| .const _=>true|_=>false,?_⟩
 simp[execOp,ho,resolve,invoke]
 rfl
end VM
end
section
namespace VM
open Go
theorem o0{α:Type}{r:α}: ∀{τ:Ty} {x:τ.den} {n:Nat} {m:(υ:Ty)→υ.den→(υ.den→Option α)→Option α} {k:τ.den→Option α},jX τ x n m k=some r→
  ∃υ y o k',yT τ x n υ y o∧m υ y k'=some r∧ ∀z r',k' z=some r'→ ∃x',k x'=some r'∧yT τ x' n υ z o∧
   ∀(w:World) (M:Nat→Prop) cs cs',Rd w M τ cs x→Rd w M υ cs' z→Rd w M τ (dz cs o cs') x'
 | .pair a b,x,0,m,k,h=>by
  refine⟨a,x.1,0,_,.here x,h,fun z r' hz=>⟨(z,x.2),hz,.here (a:=a) (b:=b) (z,x.2),fun w M cs cs' hr dg=> ?_⟩⟩
  simp only[Rd]at hr ⊢
  obtain⟨c1,c2,rfl,h1,h2⟩:=hr
  refine⟨cs',c2,?_,dg,h2⟩
  rw[vj (by rw[dg.length,h1.length];omega)]
  congr 1
  unfold dz
  rw[azH,dg.length,←h1.length];simp
 | .pair a b,x,n+1,m,k,h=>by
  obtain⟨υ,y,o,k',hf,hm,hk⟩:=o0 (τ:=b) (x:=x.2) (n:=n) (m:=m) (k:=fun z=>k (x.1,z)) h
  refine⟨υ,y,_,k',.there x hf,hm,fun z r' hz=> ?_⟩
  obtain⟨x',pX,yU,iu⟩:=hk z r' hz
  refine⟨(x.1,x'),pX,.there (a:=a) (b:=b) (x.1,x') yU,fun w M cs cs' hr dg=> ?_⟩
  simp only[Rd]at hr ⊢
  obtain⟨c1,c2,rfl,h1,h2⟩:=hr
  refine⟨c1,_,?_,h1,iu w M c2 cs' h2 dg⟩
  rw[←h1.length,sY]
 | .int _,_,_,_,_,h| .bool,_,_,_,_,h| .str,_,_,_,_,h| .slice _,_,_,_,_,h| .unit,_,_,_,_,h| .arr _ _,_,_,_,_,h=>by simp[jX]at h
def nQ(w:World)(M:Nat→Prop)(e:Ty)(cs:List Value)(l:List e.den):Prop:=
 ∀i (h:i<l.length),Rd w M e ((cs.drop (i*e.size)).take e.size) l[i]
theorem c8{i n s:Nat}(h:i<n):i*s+s≤n*s:=by
 have:(i+1)*s≤n*s:=azy _ h
 rw[azx,aAw]at this;exact this
theorem nQ.set{w:World}{M:Nat→Prop}{e:Ty}{cs:List Value}{l:List e.den}(h:nQ w M e cs l)(hl:l.length*e.size≤cs.length){i:Nat}(hi:i<l.length){cs':List Value}{y:e.den}(hr:Rd w M e cs' y):
  nQ w M e (dz cs (i*e.size) cs') (l.set i y):=by
 have hlen:=hr.length
 intro j hj
 rw[ayT]at hj
 have h1:=c8 (s:=e.size) hi
 have h2:=c8 (s:=e.size) hj
 by_cases oY:j=i
 ·subst oY
  have:=acb (a:=cs) (o:=j*e.size) (new:=cs') (by omega)
  rw[hlen]at this
  rw[this,List.getElem_set_self];exact hr
 ·rw[EL (by
   rcases Nat.lt_or_gt_of_ne oY with dH|dH
   ·have:=c8 (s:=e.size) dH;left;omega
   ·have:=c8 (s:=e.size) dH;right;omega) (by omega),List.getElem_set_ne (aAu oY)]
  exact h j hj
theorem nQ.append{w:World}{M:Nat→Prop}{e:Ty}{c1 c2:List Value}{l1 l2:List e.den}(h1:nQ w M e c1 l1)(hl:c1.length=l1.length*e.size)(h2:nQ w M e c2 l2):nQ w M e (c1++c2) (l1++l2):=by
 intro i hi
 by_cases dH:i<l1.length
 ·have:=c8 (s:=e.size) dH
  rw[aAq (by omega),aAp (by rw[aza];omega),aA9 dH]
  exact h1 i dH
 ·rw[ayH]at hi
  obtain⟨k,rfl⟩: ∃k,i=l1.length+k:=⟨i-l1.length,by omega⟩
  rw[azx,←hl,←azR,aAh rfl,aBH (by omega)]
  simp only[aAL]
  exact h2 k (by omega)
theorem nQ.take{w:World}{M:Nat→Prop}{e:Ty}{cs:List Value}{l:List e.den}(h:nQ w M e cs l){n:Nat}(hn:l.length*e.size≤n):nQ w M e (cs.take n) l:=by
 intro i hi
 have:=c8 (s:=e.size) hi
 rw[aAJ,aAK,azF (by omega)]
 exact h i hi
theorem nQ.more{w:World}{M:Nat→Prop}{e:Ty}{cs cs':List Value}{l:List e.den}(h:nQ w M e cs l)(hl:l.length*e.size≤cs.length):nQ w M e (cs++cs') l:=by
 intro i hi
 have:=c8 (s:=e.size) hi
 rw[aAq (by omega),aAp (by rw[aza];omega)]
 exact h i hi
theorem nQ.bD{w w':World}{M M':Nat→Prop}(k:dy w M w' M'){e:Ty}{cs:List Value}{l:List e.den}(h:nQ w M e cs l):nQ w' M' e cs l:=fun i hi=>(h i hi).bD k
theorem Rd.arr{w:World}{M:Nat→Prop}{n:Nat}{e:Ty}{cs:List Value}{x:(Ty.arr n e).den}:Rd w M (.arr n e) cs x↔List.length x=n∧cs.length=n*e.size∧nQ w M e cs x:=by
 constructor
 ·intro h
  have hl:=h.length
  have h':=h
  simp only[Rd]at h'
  refine⟨h'.1,hl,fun i hi=> ?_⟩
  have:=h.idx (i:=i) (by omega)
  rw[g7 x i e.zero hi]at this
  exact this
 ·rintro⟨hn,hl,hr⟩
  simp only[Rd]
  refine⟨hn,(List.range n).map fun i=>(cs.drop (i*e.size)).take e.size,by simp,?_,fun i hi lR=> ?_⟩
  ·
   have key: ∀m (l:List Value),l.length=m*e.size→l=((List.range m).map fun i=>(l.drop (i*e.size)).take e.size).flatten:=by
    intro m
    induction m with
    |zero=>intro l hl;simpa using hl
    |succ m ih=>
     intro l hl
     have h1:(l.take (m*e.size)).length=m*e.size:=by rw[ayX,hl,azx];omega
     have h2:=ih (l.take (m*e.size)) h1
     rw[aBZ,aze,List.flatten_append]
     have h3:((List.range m).map fun i=>(l.drop (i*e.size)).take e.size)=(List.range m).map fun i=>((l.take (m*e.size)).drop (i*e.size)).take e.size:=by
      apply aAf
      intro i hi
      have:=c8 (s:=e.size) (aAN.1 hi)
      rw[aAJ,aAK,azF (by omega)]
     rw[h3,←h2]
     simp only[ay6,az2,aBj,List.flatten_nil,ay2]
     rw[azo (l:=l.drop (m*e.size)) (by rw[aza,hl,azx];omega),azg]
   exact key n cs hl
  ·simp only[List.getElem_map,aBA]
   exact hr i hi
theorem lS{α:Type}{r:α}{υ:Ty}{y:υ.den}: ∀{p:List Step} {τ:Ty} {x:τ.den} {k:τ.den→Option α},rI υ y p τ x k=some r→
  ∃z,k z=some r∧Cy p τ=υ∧(tE p τ→bQ p τ+υ.size≤τ.size)∧ ∀(w:World) (M:Nat→Prop) cs cs',tE p τ→Rd w M τ cs x→Rd w M υ cs' y→Rd w M τ (dz cs (bQ p τ) cs') z
 |[],τ,x,k,h=>by
  obtain⟨e,h⟩:=bg (h:cv υ τ y k=some r)
  subst e
  refine⟨y,h,rfl,fun _=>by simp[bQ],fun w M cs cs' _ hr dg=> ?_⟩
  unfold dz
  rw[show bQ [] υ=0 from rfl,azH,dg.length,←hr.length]
  simpa using dg
 | .gX n::p,τ,x,k,h=>by
  obtain⟨υ',y',o,k',hf,hm,hk⟩:=o0 (h:jX τ x n _ k=some r)
  obtain⟨z',Cp,ht,Cq,iu⟩:=lS (p:=p) (τ:=υ') (x:=y') (k:=k') hm
  obtain⟨x',pX,yU,N7⟩:=hk z' r Cp
  obtain⟨h1,h2⟩:=hf.eq
  subst h1 h2
  refine⟨x',pX,ht,fun hi=>by have:=hf.bound;have:=Cq hi;simp only[bQ];omega,fun w M cs cs' hi hr dg=> ?_⟩
  have Cq:=Cq hi
  have h3:=iu w M _ cs' hi (hf.rd hr) dg
  have h4:=N7 w M cs _ hr h3
  have hb:=hf.bound
  have Uv:=hr.length
  have hl2:=dg.length
  have T1:=h3.length
  have gD:bQ p (rL τ n)+cs'.length≤((cs.drop (oF τ n)).take (rL τ n).size).length:=by
   rw[ayX,aza];omega
  have:dz cs (oF τ n) (dz ((cs.drop (oF τ n)).take (rL τ n).size) (bQ p (rL τ n)) cs')=dz cs (oF τ n+bQ p (rL τ n)) cs':=by
   have e1:cs=cs.take (oF τ n)++(((cs.drop (oF τ n)).take (rL τ n).size)++cs.drop (oF τ n+(rL τ n).size)):=by
    rw[←azR,azg,azg]
   have dH:(cs.take (oF τ n)).length=oF τ n:=by rw[ayX];omega
   conv=>rhs;rw[e1]
   rw[show oF τ n+bQ p (rL τ n)=(cs.take (oF τ n)).length+bQ p (rL τ n)from by rw[dH],sY,vj gD]
   generalize dz ((cs.drop (oF τ n)).take (rL τ n).size) (bQ p (rL τ n)) cs'=m at T1 ⊢
   unfold dz
   rw[T1,ayP]
  simp only[bQ]
  rw[←this]
  exact h4
 | .idx i::p,τ,x,k,h=>by
  cases τ with
  |arr n e=>
   obtain⟨z',Cp,ht,Cq,iu⟩:=lS (p:=p) (τ:=e) (x:=List.getD x i e.zero) (k:=fun z=>k (List.set x i z)) h
   refine⟨_,Cp,ht,fun hi=>by
    obtain⟨⟨n',e',he,gD⟩,lR⟩:=hi
    cases he
    have:=Cq lR
    have hm:=c8 (s:=e.size) gD
    simp only[bQ,elT,Ty.size];omega,fun w M cs cs' hi hr dg=> ?_⟩
   obtain⟨⟨n',e',he,gD⟩,lR⟩:=hi
   cases he
   have h3:=iu w M _ cs' lR (hr.idx gD) dg
   obtain⟨hn,Uv,Kr⟩:=Rd.arr.1 hr
   have hm:=c8 (s:=e.size) gD
   have h4:=Kr.set (by rw[Uv,hn];exact ayJ _) (i:=i) (by omega) h3
   have hl2:=dg.length
   have T1:=h3.length
   have hch:((cs.drop (i*e.size)).take e.size).length=e.size:=by rw[ayX,aza];omega
   have Cq:=Cq lR
   have anj:bQ p e+cs'.length≤((cs.drop (i*e.size)).take e.size).length:=by omega
   have:dz cs (i*e.size) (dz ((cs.drop (i*e.size)).take e.size) (bQ p e) cs')=dz cs (i*e.size+bQ p e) cs':=by
    have e1:cs=cs.take (i*e.size)++(((cs.drop (i*e.size)).take e.size)++cs.drop (i*e.size+e.size)):=by
     rw[←azR,azg,azg]
    have dH:(cs.take (i*e.size)).length=i*e.size:=by rw[ayX];omega
    conv=>rhs;rw[e1]
    rw[show i*e.size+bQ p e=(cs.take (i*e.size)).length+bQ p e from by rw[dH],sY,vj anj]
    generalize dz ((cs.drop (i*e.size)).take e.size) (bQ p e) cs'=m at T1 ⊢
    unfold dz
    rw[T1,ayP]
   simp only[bQ,elT]
   rw[←this]
   refine Rd.arr.2 ⟨by rw[ayT];exact hn,?_,h4⟩
   rw[eE (by rw[T1];omega)];exact Uv
  |_=>simp[rI,zx]at h
end VM
end
