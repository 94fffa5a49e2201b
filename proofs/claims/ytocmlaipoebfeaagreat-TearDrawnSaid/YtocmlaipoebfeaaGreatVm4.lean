/- A part of the proof of TearDrawn of layer 29: a machine that reads a function of the program as an equation between values. -/
import Derived.Test.YtocmlaipoebfeaaGreatVm3
import Derived.Scope
set_option linter.all false
section
namespace VM
open Go
variable{P:Program}{E:Env}{o:Oper}{a:Act}{w:World}{M:Nat→Prop}{ν:Nat→Value}{σ:St}{c:Ctx}{α:Type}{r:α}{next:Act→World→Prop}{Q:Exit→Act→World→Prop}
theorem Mem.call{H:Nat→Option aN}(h:Mem c H w M ν){hs:List Nat}{M0 M':Nat→Prop}{w':World}(hM: ∀b,M0 b→M b)(hhs: ∀b∈hs,M b)
  (pZ: ∀b∈hs,∀i e,H i=some e→e.mut→dX (ν i)≠some b) (jJ: ∀b∈hs,c.B≤b∨c.may b) (ra: ∀b∈hs,c.M0 b→M' b) (L:Left w M0 hs w' M'):
  Mem c H w' (fun b=>M' b∨(M b∧b∉hs)) ν∧dd w M w' (fun b=>M' b∨(M b∧b∉hs)):=by
 have hk:dd w M w' (fun b=>M' b∨(M b∧b∉hs)):=by
  refine⟨L.size,fun b hb hm=>L.frame b hb (fun hh=>hm (hhs b hh)),fun b hb hm=> ?_⟩
  rcases hm with hm|hm
  ·exact(L.less b hb hm).elim (hM b) (hhs b)
  ·exact hm.1
 refine⟨⟨fun i e hi=>(h.iJ i e hi).bB hk fun hm b hb=> ?_,h.uS,h.new,h.s9,mi h (fun _ _=>rfl) (fun _ h=>h) (fun i τ x p j hi=> .inl ⟨hi,fun b hb=> ?_⟩),fun b hb=> ?_,fun b hb=> ?_,fun b hb hm=> ?_,Nat.le_trans h.size L.size,h.pU,L.os.trans h.os,L.tape.trans h.tape,L.output.trans h.output⟩,hk⟩
 ·have XM:=(h.iJ i e hi).sx hm hb
  have w5:b∉hs:=fun hh=>pZ b hh i e hi hm hb
  exact⟨L.frame b (h.yi b XM) w5,.inr ⟨XM,w5⟩⟩
 ·have rP:dX (ν i)=some b:=by rw[hb];rfl
  have XM:=(h.iJ i _ hi).sx trivial rP
  exact L.frame b (h.yi b XM) (fun hh=>pZ b hh i _ hi trivial rP)
 ·by_cases hh:b∈hs
  ·exact .inl (ra b hh hb)
  ·exact .inr ⟨h.sub b hb,hh⟩
 ·rcases hb with hb|hb
  ·exact L.yi b hb
  ·exact Nat.lt_of_lt_of_le (h.yi b hb.1) L.size
 ·have w5:b∉hs:=fun hh=>(jJ b hh).elim (fun h'=>by omega) hm
  rw[L.frame b (Nat.lt_of_lt_of_le hb h.size) w5]
  exact h.frame b hb hm
theorem Mem.wc{H:Nat→Option aN}(h:Mem c H w M ν){id:Nat}{v:Value}{e:aN}(aQ: ∀e',H id=some e'→ ¬e'.mut)(Kw:ER w M v e)
  (hd: ∀b,dX v=some b→ ∀i e',H i=some e'→e'.mut→dX (ν i)≠some b) (hn: ∀b,dX v=some b→c.B≤b∨c.may b) (ho: ∀b e0 l0,e= .own e0 l0→dX v=some b→ ¬c.M0 b)
  (hnv:H id=none∨v=ν id)
  (og: ∀τ x p j,e= .dK τ x p j→bh H id (some e) j≠none∧ ∃b,v= .pointer (some ⟨b,0,none⟩)∧w.cell? ⟨b,bA p τ,none⟩=some (cg ν id v j):=by intro _ _ _ _ h;cases h):
  Mem c (bh H id (some e)) w M (cg ν id v):=by
 have hν: ∀i,i≠id→cg ν id v i=ν i:=fun i hi=>by simp[cg,hi]
 have w1:cg ν id v id=v:=by simp[cg]
 refine⟨fun i e1 hi=> ?_,fun i k e1 e2 b1 nB hi oe hk tk=> ?_,fun i e1 b1 hi oe=> ?_,fun i e1 l1 b1 hi=> ?_,mi h (fun i hi=> ?_) q8 (fun i τ x p j hi=> ?_),h.sub,h.yi,h.frame,h.size,h.pU,h.os,h.tape,h.output⟩
 ·by_cases bo:i=id
  ·subst bo;rw[ak]at hi;cases hi;rw[w1];exact Kw
  ·rw[al _ _ bo]at hi;rw[hν i bo];exact h.iJ i e1 hi
 ·by_cases bo:i=id
  ·subst bo;rw[w1]
   have D1:k≠i:=Ne.symm nB
   rw[al _ _ D1]at hk;rw[hν k D1]
   intro jD
   exact hd b1 jD k e2 hk tk
  ·rw[al _ _ bo]at hi;rw[hν i bo]
   by_cases D1:k=id
   ·subst D1;rw[w1]
    intro jD rQ
    exact hd b1 rQ i e1 hi oe jD
   ·rw[al _ _ D1]at hk;rw[hν k D1];exact h.uS i k e1 e2 b1 nB hi oe hk tk
 ·by_cases bo:i=id
  ·subst bo;rw[w1];exact hn b1
  ·rw[al _ _ bo]at hi;rw[hν i bo];exact h.new i e1 b1 hi oe
 ·by_cases bo:i=id
  ·subst bo;rw[ak]at hi;cases hi;rw[w1];exact ho b1 e1 l1 rfl
  ·rw[al _ _ bo]at hi;rw[hν i bo];exact h.s9 i e1 l1 b1 hi
 ·by_cases bo:i=id
  ·subst bo
   rcases hnv with hnv|hnv
   ·exact absurd hnv hi
   ·rw[w1,hnv]
  ·exact hν i bo
 ·by_cases bo:i=id
  ·subst bo
   rw[ak]at hi
   cases hi
   obtain⟨h1,b,h2,h3⟩:=og _ _ _ _ rfl
   exact .inr ⟨h1,b,by rw[w1];exact h2,h3⟩
  ·rw[al _ _ bo]at hi
   exact .inl ⟨hi,fun _ _=>rfl⟩
theorem KI{m:AM}{ms:List AM}(x:HP (m::ms))(id:Nat)(io:List (Nat×Ty)):
  iy (m::ms) x id io=match m,p3 x,io with
   | .io τ,y,(j,_)::io=>((iy ms (uT x) (id+1) io).1,(j,some (.obj τ y))::(iy ms (uT x) (id+1) io).2.1,(iy ms (uT x) (id+1) io).2.2)
   |m,y,io=>((B7 m y id).1::(iy ms (uT x) (id+1) io).1,(B7 m y id).2++(iy ms (uT x) (id+1) io).2.1,(iy ms (uT x) (id+1) io).2.2):=by
 cases ms with
 |nil=>cases m<;>cases io<;>simp[iy,p3]
 |cons n ms=>cases m<;>cases io<;>simp[iy,p3,uT]
theorem lU{l1 l2:List Nat}{b:Nat}(h:(l1++l2).Nodup)(h1:b∈l1):b∉l2:=fun h2=>(List.nodup_append.1 h).2.2 b h1 b h2 rfl
theorem RR.Cq: ∀{ms:List AM} {x:HP ms} {us ps:List Value},RR w M ms x us ps→ ∀p∈ps,∀b,dX p=some b→b∈aZ ms us ps
 |[],_,_,_,h,p,hp,_,_=>by simp only[RR]at h;rw[h.2]at hp;simp at hp
 |m::ms,x,us,ps,h,p,hp,b,hb=>by
  simp only[RR]at h
  rcases h with⟨p',Ap,h1,rfl,h2,h3⟩|⟨v,Cp,h1,h2,rfl,h3,h4⟩
  ·simp only[aZ,h1,if_true,List.headD_cons,List.tail_cons,List.mem_append]
   rcases List.mem_cons.1 hp with rfl|hp
   ·left
    cases m<;>simp[AM.fD]at h1
    simp[cm,hb]
   ·exact .inr (RR.Cq h3 p hp b hb)
  ·simp only[aZ,h1,Bool.false_eq_true,if_false,List.headD_cons,List.tail_cons,List.mem_append]
   exact .inr (RR.Cq h4 p hp b hb)
theorem mu{hs:List Nat}{sz:Nat}: ∀{ms:List AM} {x:HP ms} {us ps:List Value} {id:Nat} {io:List (Nat×Ty)} {H:Nat→Option aN} {ν:Nat→Value} {used:List Nat},
  Mem c H w M ν→RR w M ms x us ps→ps=io.map (fun q=>ν q.1)→kA ms=io.map (·.2)→(keys io).Nodup→(∀q∈io,H q.1=some .gone)→(∀i,id≤i→i<id+ms.length→H i=none)→
  (∀i e b,H i=some e→e.mut→dX (ν i)=some b→(b<sz∧b∉hs)∨b∈used)→(used++aZ ms us ps).Nodup→(∀b∈aZ ms us ps,sz≤b∨b∈hs)→
  (∀b∈aZ ms us ps,(c.B≤b∨c.may b))→(∀b∈aZ ms us ps,c.M0 b→ ∃p∈ps,dX p=some b)→
  ∃ν',Mem c (bP H (iy ms x id io).2.1) w M ν'∧fC w M (bP H (iy ms x id io).2.1) ν' (iy ms x id io).1 us∧(∀i,H i≠none→ν' i=ν i)∧
   (∀i,i∉keys io→(i<id∨id+ms.length≤i)→bP H (iy ms x id io).2.1 i=H i)∧(∀i,id≤i→i<id+ms.length→ ∀e,bP H (iy ms x id io).2.1 i=some e→(∃e0 l0,e= .own e0 l0)∨ ∃τ0 z0,e= .obj τ0 z0)∧
   (∀q∈io,∃z:q.2.den,bP H (iy ms x id io).2.1 q.1=some (.obj q.2 z))
 |[],x,us,ps,id,io,H,ν,used,hm,hr,Hl,Aj,Eh,Ar,hX,hold,tE,nj,jJ,D0=>by
  simp only[RR]at hr
  obtain⟨rfl,rfl⟩:=hr
  have ra:io=[]:=by
   cases io with
   |nil=>rfl
   |cons q io=>simp at Hl
  subst ra
  exact⟨ν,hm,by simp[iy,fC],fun _ _=>rfl,fun _ _ _=>rfl,fun i h1 h2=>by simp at h2;omega,fun q hq=>by simp at hq⟩
 |m::ms,x,us,ps,id,io,H,ν,used,hm,hr,Hl,Aj,Eh,Ar,hX,hold,tE,nj,jJ,D0=>by
  rw[KI]
  simp only[RR]at hr
  rcases hr with⟨p,Ap,Cr,rfl,h1,h2⟩|⟨v,Cp,Cr,hmf,rfl,h1,h2⟩
  ·
   cases m with
   |io τ=>
    cases io with
    |nil=>simp at Hl
    |cons q io=>
     simp only[List.map_cons,List.cons.injEq]at Hl
     obtain⟨rfl,rfl⟩:=Hl
     simp only[kA,List.map_cons,List.cons.injEq]at Aj
     obtain⟨ai8,ai9⟩:=Aj
     simp only[keys,List.map_cons,List.nodup_cons]at Eh
     have Yd:aZ (.io τ::ms) us (ν q.1::io.map fun q=>ν q.1)=(dX (ν q.1)).toList++aZ ms us (io.map fun q=>ν q.1):=rfl
     rw[Yd]at tE nj jJ D0
     have KJ:=Ar q List.mem_cons_self
     have Ei:q.1<id∨id+(ms.length+1)≤q.1:=by
      rcases Nat.lt_or_ge q.1 id with h'|h'
      ·exact .inl h'
      ·rcases Nat.lt_or_ge q.1 (id+(ms.length+1))with Jv|Jv
       ·rw[hX q.1 h' Jv]at KJ;cases KJ
       ·exact .inr Jv
     simp only[A1]at h1
     have qo: ∀b,dX (ν q.1)=some b→ ∀i e',H i=some e'→e'.mut→dX (ν i)≠some b:=by
      intro b hb i e' hi gy dq
      have ky:b∈(dX (ν q.1)).toList++aZ ms us (io.map fun q=>ν q.1):=List.mem_append_left _ (by rw[hb];simp)
      rcases hold i e' b hi gy dq with⟨h3,h4⟩|h3
      ·exact(nj b ky).elim (fun h'=>by omega) h4
      ·exact lU tE h3 ky
     have tk:=Mem.wc (c:=c) hm (id:=q.1) (v:=ν q.1) (e:= .obj τ (p3 x)) (fun e' sd=>by rw[KJ]at sd;cases sd;simp[aN.mut]) h1 qo (fun b hb=>jJ b (List.mem_append_left _ (by rw[hb];simp))) (fun b e0 l0 he=>by cases he) (.inr rfl)
     have hνe:cg ν q.1 (ν q.1)=ν:=by funext i;unfold cg;split<;>simp_all
     rw[hνe]at tk
     have aja: ∀(q':Nat×Ty),q'∈io→q'.1≠q.1:=fun q' pV e=>Eh.1 (List.mem_map.2 ⟨q',pV,e⟩)
     obtain⟨ν',r1,r2,r3,r4,r5,r6⟩:=mu (ms:=ms) (x:=uT x) (us:=us) (ps:=io.map fun q=>ν q.1) (id:=id+1) (io:=io) (used:=used++(dX (ν q.1)).toList) tk h2 rfl ai9 Eh.2
      (fun q' pV=>by rw[al _ _ (aja q' pV)];exact Ar q' (List.mem_cons_of_mem _ pV))
      (fun i h3 h4=>by
       have:i≠q.1:=by omega
       rw[al _ _ this]
       exact hX i (by omega) (by simp only[List.length_cons];omega))
      (fun i e b hi gy hb=>by
       by_cases bo:i=q.1
       ·subst bo;exact .inr (List.mem_append_right _ (by rw[hb];simp))
       ·rw[al _ _ bo]at hi
        exact(hold i e b hi gy hb).imp (fun h=>h) (List.mem_append_left _))
      (by rw[List.append_assoc];exact tE) (fun b hb=>nj b (List.mem_append_right _ hb)) (fun b hb=>jJ b (List.mem_append_right _ hb))
      (fun b hb hb0=>by
       obtain⟨p,hp,hpb⟩:=D0 b (List.mem_append_right _ hb) hb0
       rcases List.mem_cons.1 hp with rfl|hp
       ·exact absurd (lU (List.nodup_append.1 tE).2.1 (b:=b) (by rw[hpb];simp)) (by simpa using hb)
       ·exact⟨p,hp,hpb⟩)
     refine⟨ν',r1,r2,fun i hi=> ?_,fun i h3 h4=> ?_,fun i h3 h4 e he=> ?_,fun q' pV=> ?_⟩
     ·exact r3 i (by
       by_cases bo:i=q.1
       ·subst bo;rw[ak];simp
       ·rw[al _ _ bo];exact hi)
     ·simp only[keys,List.map_cons,List.mem_cons,not_or]at h3
      have:=r4 i h3.2 (by simp only[List.length_cons]at h4;omega)
      rw[al _ _ h3.1]at this
      exact this
     ·by_cases h5:id+1≤i
      ·exact r5 i h5 (by simp only[List.length_cons]at h4;omega) e he
      ·have bo:i=id:=by omega
       subst bo
       by_cases hk:i∈keys io
       ·obtain⟨q',pV,Hn⟩:=List.mem_map.1 hk
        have h9:=Ar q' (List.mem_cons_of_mem _ pV)
        rw[Hn,hX i (Nat.le_refl _) (by simp)]at h9
        cases h9
       ·have:=r4 i hk (.inl (by omega))
        have g7:i≠q.1:=by omega
        rw[al _ _ g7,hX i (Nat.le_refl _) (by simp)]at this
        have he:bP (bh H q.1 (some (aN.obj τ (p3 x)))) (iy ms (uT x) (i+1) io).2.1 i=some e:=he
        rw[this]at he;cases he
     ·rcases List.mem_cons.1 pV with rfl|pV
      ·have:=r4 q'.1 Eh.1 (by omega)
       rw[ak]at this
       rw[←ai8]
       exact⟨p3 x,this⟩
      ·exact r6 q' pV
   |v τ=>simp[AM.fD]at Cr
   |own τ=>simp[AM.fD]at Cr
   |fn f τ=>simp[AM.fD]at Cr
   |ptr τ=>simp[AM.fD]at Cr
   |fA τ=>simp[AM.fD]at Cr
  ·
   have As:H id=none:=hX id (Nat.le_refl _) (by simp)
   cases m with
   |io τ=>simp[AM.fD]at Cr
   |fn f τ=>simp[AM.Qo]at hmf
   |fA τ=>simp[AM.Qo]at hmf
   |v τ=>
    have Yd:aZ (.v τ::ms) (v::Cp) ps=aZ ms Cp ps:=rfl
    rw[Yd]at tE nj jJ D0
    simp only[A1]at h1
    obtain⟨ν',r1,r2,r3,r4,r5,r6⟩:=mu (ms:=ms) (x:=uT x) (us:=Cp) (ps:=ps) (id:=id+1) (io:=io) (used:=used) hm h2 Hl (by simpa [kA]using Aj) Eh Ar (fun i h3 h4=>hX i (by omega) (by simp only[List.length_cons];omega)) hold tE nj jJ D0
    refine⟨ν',r1,?_,r3,fun i h3 h4=>r4 i h3 (by simp only[List.length_cons]at h4;omega),fun i h3 h4 e he=> ?_,r6⟩
    ·simp only[B7,fC,VR];exact⟨h1,r2⟩
    ·by_cases h5:id+1≤i
     ·exact r5 i h5 (by simp only[List.length_cons]at h4;omega) e he
     ·have bo:i=id:=by omega
      subst bo
      by_cases hk:i∈keys io
      ·obtain⟨q',pV,Hn⟩:=List.mem_map.1 hk
       have h9:=Ar q' pV
       rw[Hn,As]at h9;cases h9
      ·have:=r4 i hk (.inl (by omega))
       rw[As]at this
       have he:bP H (iy ms (uT x) (i+1) io).2.1 i=some e:=he
       rw[this]at he;cases he
   |own τ=>
    have Yd:aZ (.own τ::ms) (v::Cp) ps=(dX v).toList++aZ ms Cp ps:=rfl
    rw[Yd]at tE nj jJ D0
    simp only[A1]at h1
    have qo: ∀b,dX v=some b→ ∀i e',H i=some e'→e'.mut→dX (ν i)≠some b:=by
     intro b hb i e' hi gy dq
     have ky:b∈(dX v).toList++aZ ms Cp ps:=List.mem_append_left _ (by rw[hb];simp)
     rcases hold i e' b hi gy dq with⟨h3,h4⟩|h3
     ·exact(nj b ky).elim (fun h'=>by omega) h4
     ·exact lU tE h3 ky
    have adh: ∀b,dX v=some b→ ¬c.M0 b:=by
     intro b hb h0
     have ky:b∈(dX v).toList:=by rw[hb];simp
     obtain⟨p,hp,hpb⟩:=D0 b (List.mem_append_left _ ky) h0
     exact lU (List.nodup_append.1 tE).2.1 ky (RR.Cq h2 p hp b hpb)
    have tk:=Mem.wc (c:=c) hm (id:=id) (v:=v) (e:= .own τ (p3 x)) (fun e' sd=>by rw[As]at sd;cases sd) h1 qo (fun b hb=>jJ b (List.mem_append_left _ (by rw[hb];simp))) (fun b e0 l0 _ hb=>adh b hb) (.inl As)
    have Ei: ∀q∈io,q.1≠id:=fun q hq e=>by
     have h9:=Ar q hq
     rw[e,As]at h9;cases h9
    have Ye: ∀i,i≠id→cg ν id v i=ν i:=fun i hi=>by simp[cg,hi]
    obtain⟨ν',r1,r2,r3,r4,r5,r6⟩:=mu (ms:=ms) (x:=uT x) (us:=Cp) (ps:=ps) (id:=id+1) (io:=io) (used:=used++(dX v).toList) tk h2
     (by rw[Hl];exact List.map_congr_left fun q hq=>(Ye _ (Ei q hq)).symm) (by simpa [kA]using Aj) Eh
     (fun q hq=>by rw[al _ _ (Ei q hq)];exact Ar q hq)
     (fun i h3 h4=>by rw[al _ _ (by omega)];exact hX i (by omega) (by simp only[List.length_cons];omega))
     (fun i e b hi gy hb=>by
      by_cases bo:i=id
      ·subst bo
       have:cg ν i v i=v:=by simp[cg]
       rw[this]at hb
       exact .inr (List.mem_append_right _ (by rw[hb];simp))
      ·rw[al _ _ bo]at hi
       rw[Ye i bo]at hb
       exact(hold i e b hi gy hb).imp (fun h=>h) (List.mem_append_left _))
     (by rw[List.append_assoc];exact tE) (fun b hb=>nj b (List.mem_append_right _ hb)) (fun b hb=>jJ b (List.mem_append_right _ hb)) (fun b hb=>D0 b (List.mem_append_right _ hb))
    have Yf:id∉keys io:=fun hk=>by
     obtain⟨q,hq,Hn⟩:=List.mem_map.1 hk
     exact Ei q hq Hn
    have ly:bP (bh H id (some (.own τ (p3 x)))) (iy ms (uT x) (id+1) io).2.1 id=some (.own τ (p3 x)):=by
     rw[r4 id Yf (.inl (by omega)),ak]
    refine⟨ν',r1,?_,fun i hi=> ?_,fun i h3 h4=> ?_,fun i h3 h4 e he=> ?_,r6⟩
    ·simp only[B7,fC,VR]
     refine⟨⟨?_,?_⟩,r2⟩
     ·show bP (bh H id (some (.own τ (p3 x)))) (iy ms (uT x) (id+1) io).2.1 id≠none
      rw[ly];simp
     ·rw[r3 id (by rw[ak];simp)];simp[cg]
    ·have bo:i≠id:=fun e=>hi (e▸As)
     rw[r3 i (by rw[al _ _ bo];exact hi),Ye i bo]
    ·have bo:i≠id:=by simp only[List.length_cons]at h4;omega
     have:=r4 i h3 (by simp only[List.length_cons]at h4;omega)
     rw[al _ _ bo]at this
     exact this
    ·by_cases h5:id+1≤i
     ·exact r5 i h5 (by simp only[List.length_cons]at h4;omega) e he
     ·have bo:i=id:=by omega
      subst bo
      have he:bP (bh H i (some (.own τ (p3 x)))) (iy ms (uT x) (i+1) io).2.1 i=some e:=he
      rw[ly]at he;cases he
      exact .inl ⟨τ,_,rfl⟩
   |ptr τ=>
    have Yd:aZ (.ptr τ::ms) (v::Cp) ps=(dX v).toList++aZ ms Cp ps:=rfl
    rw[Yd]at tE nj jJ D0
    simp only[A1]at h1
    have qo: ∀b,dX v=some b→ ∀i e',H i=some e'→e'.mut→dX (ν i)≠some b:=by
     intro b hb i e' hi gy dq
     have ky:b∈(dX v).toList++aZ ms Cp ps:=List.mem_append_left _ (by rw[hb];simp)
     rcases hold i e' b hi gy dq with⟨h3,h4⟩|h3
     ·exact(nj b ky).elim (fun h'=>by omega) h4
     ·exact lU tE h3 ky
    have tk:=Mem.wc (c:=c) hm (id:=id) (v:=v) (e:= .obj τ (p3 x)) (fun e' sd=>by rw[As]at sd;cases sd) h1 qo (fun b hb=>jJ b (List.mem_append_left _ (by rw[hb];simp))) (fun b e0 l0 he _=>by cases he) (.inl As)
    have Ei: ∀q∈io,q.1≠id:=fun q hq e=>by
     have h9:=Ar q hq
     rw[e,As]at h9;cases h9
    have Ye: ∀i,i≠id→cg ν id v i=ν i:=fun i hi=>by simp[cg,hi]
    obtain⟨ν',r1,r2,r3,r4,r5,r6⟩:=mu (ms:=ms) (x:=uT x) (us:=Cp) (ps:=ps) (id:=id+1) (io:=io) (used:=used++(dX v).toList) tk h2
     (by rw[Hl];exact List.map_congr_left fun q hq=>(Ye _ (Ei q hq)).symm) (by simpa [kA]using Aj) Eh
     (fun q hq=>by rw[al _ _ (Ei q hq)];exact Ar q hq)
     (fun i h3 h4=>by rw[al _ _ (by omega)];exact hX i (by omega) (by simp only[List.length_cons];omega))
     (fun i e b hi gy hb=>by
      by_cases bo:i=id
      ·subst bo
       have:cg ν i v i=v:=by simp[cg]
       rw[this]at hb
       exact .inr (List.mem_append_right _ (by rw[hb];simp))
      ·rw[al _ _ bo]at hi
       rw[Ye i bo]at hb
       exact(hold i e b hi gy hb).imp (fun h=>h) (List.mem_append_left _))
     (by rw[List.append_assoc];exact tE) (fun b hb=>nj b (List.mem_append_right _ hb)) (fun b hb=>jJ b (List.mem_append_right _ hb)) (fun b hb=>D0 b (List.mem_append_right _ hb))
    have Yf:id∉keys io:=fun hk=>by
     obtain⟨q,hq,Hn⟩:=List.mem_map.1 hk
     exact Ei q hq Hn
    have ly:bP (bh H id (some (.obj τ (p3 x)))) (iy ms (uT x) (id+1) io).2.1 id=some (.obj τ (p3 x)):=by
     rw[r4 id Yf (.inl (by omega)),ak]
    refine⟨ν',r1,?_,fun i hi=> ?_,fun i h3 h4=> ?_,fun i h3 h4 e he=> ?_,r6⟩
    ·simp only[B7,fC,VR]
     refine⟨⟨_,ly,trivial,?_⟩,r2⟩
     simp only[A1,ER]at h1
     obtain⟨b,cs,t,MO,_⟩:=h1
     exact⟨b,by rw[r3 id (by rw[ak];simp)];simp[cg,MO],MO⟩
    ·have bo:i≠id:=fun e=>hi (e▸As)
     rw[r3 i (by rw[al _ _ bo];exact hi),Ye i bo]
    ·have bo:i≠id:=by simp only[List.length_cons]at h4;omega
     have:=r4 i h3 (by simp only[List.length_cons]at h4;omega)
     rw[al _ _ bo]at this
     exact this
    ·by_cases h5:id+1≤i
     ·exact r5 i h5 (by simp only[List.length_cons]at h4;omega) e he
     ·have bo:i=id:=by omega
      subst bo
      have he:bP (bh H i (some (.obj τ (p3 x)))) (iy ms (uT x) (i+1) io).2.1 i=some e:=he
      rw[ly]at he;cases he
      exact .inr ⟨τ,_,rfl⟩
end VM
end
section
namespace VM
open Go
variable{P:Program}{E:Env}{o:Oper}{a:Act}{w:World}{M:Nat→Prop}{ν:Nat→Value}{σ:St}{c:Ctx}{α:Type}{r:α}{next:Act→World→Prop}{Q:Exit→Act→World→Prop}
theorem Ej{i:Nat}: ∀{ups:fj} {H:Nat→Option aN},i∈keys ups→ ∃u∈ups,u.1=i∧bP H ups i=u.2
 |[],_,h=>by simp[keys]at h
 |u::r,H,h=>by
  by_cases hk:i∈keys r
  ·obtain⟨v,h1,h2,h3⟩:=Ej (H:=bh H u.1 u.2) hk
   exact⟨v,List.mem_cons_of_mem _ h1,h2,h3⟩
  ·have hi:i=u.1:=by
    simp only[keys,List.map_cons,List.mem_cons]at h hk
    exact h.resolve_right hk
   refine⟨u,List.mem_cons_self,hi.symm,?_⟩
   show bP (bh H u.1 u.2) r i=_
   rw[jl hk,hi,ak]
theorem yx: ∀{ups:fj} {H H':Nat→Option aN},(∀i,i∉keys ups→H i=H' i)→bP H ups=bP H' ups
 |[],H,H',h=>funext fun i=>h i (by simp[keys])
 |u::r,H,H',h=>by
  refine yx (ups:=r) fun i hi=> ?_
  by_cases hu:i=u.1
  ·subst hu;rw[ak,ak]
  ·rw[al _ _ hu,al _ _ hu]
   exact h i (by simp only[keys,List.map_cons,List.mem_cons,not_or];exact⟨hu,hi⟩)
theorem RR.mv: ∀{ms:List AM} {x:HP ms} {us ps:List Value},RR w M ms x us ps→ ∀b∈aZ ms us ps,M b
 |[],_,_,_,_,b,hb=>by simp[aZ]at hb
 |m::ms,x,us,ps,h,b,hb=>by
  simp only[RR]at h
  rcases h with⟨p,Ap,h1,rfl,h2,h3⟩|⟨v,Cp,h1,h2,rfl,h3,h4⟩
  ·simp only[aZ,h1,if_true,List.headD_cons,List.tail_cons,List.mem_append]at hb
   rcases hb with hb|hb
   ·cases m<;>simp[AM.fD]at h1
    simp only[cm,Option.mem_toList,A1]at hb h2
    exact h2.sx trivial hb
   ·exact RR.mv h3 b hb
  ·simp only[aZ,h1,Bool.false_eq_true,if_false,List.headD_cons,List.tail_cons,List.mem_append]at hb
   rcases hb with hb|hb
   ·cases m with
    |own e=>
     simp only[cm,Option.mem_toList,A1]at hb h3
     exact h3.sx trivial hb
    |v _=>simp[cm]at hb
    |io _=>simp[AM.fD]at h1
    |fn _ _=>simp[cm]at hb
    |fA _=>simp[cm]at hb
    |ptr τ=>
     simp only[cm,Option.mem_toList,A1]at hb h3
     exact h3.sx trivial hb
   ·exact RR.mv h4 b hb
theorem A4: ∀{l:List g6} {lx:List aV} {S:g6},DX l lx=some S→S∈l
 |[],_,_,h=>by simp[DX]at h
 |T::l,lx,S,h=>by
  unfold DX at h
  cases hf:fits T.args lx
  ·rw[hf]at h;exact List.mem_cons_of_mem _ (A4 h)
  ·rw[hf]at h;cases h;exact List.mem_cons_self
theorem we{H:Nat→Option aN}{id:Nat}: ∀{n:Nat},oM H id n=true→ ∀i,id≤i→i<id+n→H i=none
 |0,_,i,h1,h2=>by omega
 |n+1,h,i,h1,h2=>by
  unfold oM at h
  rw[Bool.and_eq_true]at h
  by_cases hi:i=id+n
  ·subst hi
   have h:=h.1
   split at h
   ·assumption
   ·cases h
  ·exact we h.2 i h1 (by omega)
theorem MP{H:Nat→Option aN}{lx:List aV}{us:List Value}(h:fC w M H ν lx us):VR w M H ν (DV lx) (qm us):=by
 match lx,us,h with
 |[],[],_=>simp[DV,VR]
 |[a],[u],h=>simp only[fC,and_true]at h;simpa [DV,qm]using h
 |a::b::lx,u::v::us,h=>
  simp only[DV,VR]
  exact⟨u::v::us,by simp[qm],h⟩
 |[],_::_,h=>simp[fC]at h
 |_::_,[],h=>simp[fC]at h
 |[_],_::_::_,h=>simp[fC]at h
 |_::_::_,[_],h=>simp[fC]at h
theorem Ek(hΓ: ∀f S,S∈E.Γ f→eM P f S){H:Nat→Option aN}(hm:Mem c H w M ν){f id:Nat}{lx:List aV}{vs:List Value}(hv:fC w M H ν lx vs){K:fk α}(h:vR E f lx id H K=some r)
  {R:Value→World→Prop} (hR: ∀v rd ups v' w' M' ν',K v rd ups=some r→Tr c H w M ν (bP H ups) w' M' ν'→VR w' M' (bP H ups) ν' v v'→R v' w'):
  Eg P f vs.toArray w R:=by
 unfold vR at h
 split at h
 ·cases h
 rename_i S hS
 have hok:=hΓ f S (A4 hS)
 obtain⟨x,rd,uo,uf,io,H2,Hq,M2,h1,hA,hK,adi,Qr,Mf⟩:=wb (hO.start hm) hv h
 clear h
 simp only[List.nil_append,List.map_nil]at hA Qr Mf
 obtain⟨y,hy,h1⟩:=Option.bind_eq_some_iff.1 h1
 obtain⟨hX,h1⟩:=bx h1
 have hX:=we hX
 have ajb:(fun b=>(M2 b∧b∉cA S.args vs)∨b∈cA S.args vs)=M2:=by
  funext b
  refine propext ⟨fun h=>h.elim (·.1) (hA.hM b),fun h=> ?_⟩
  by_cases hb:b∈cA S.args vs
  ·exact .inr hb
  ·exact .inl ⟨h,hb⟩
 refine Eg.mono (hok.call (fun b=>M2 b∧b∉cA S.args vs) w vs x y (fun b hb=>hA.mem.yi b hb.1) (by rw[ajb];exact adi) hA.nd (fun b hb h=>h.2 hb) hy) ?_
 rintro e w' ⟨us,M',rfl,Mg,hL,tE,hn0⟩
 have ajc: ∀b∈cA S.args vs,c.M0 b→M' b:=by
  intro b hb h0
  obtain⟨q,hq,hqb⟩:=hA.iob b hb h0
  exact Mg.mv b (Mg.Cq (ν q.1) (by rw[←Qr];exact List.mem_map_of_mem hq) b hqb)
 have nj: ∀b∈aZ S.res us (dm S.args vs),w.heap.size≤b∨b∈cA S.args vs:=by
  intro b hb
  rcases Nat.lt_or_ge b w.heap.size with dz|PS
  ·exact .inr ((hL.less b dz (Mg.mv b hb)).resolve_left (hn0 b hb))
  ·exact .inl PS
 have jJ: ∀b∈aZ S.res us (dm S.args vs),c.B≤b∨c.may b:=fun b hb=>(nj b hb).elim (fun h=> .inl (Nat.le_trans hm.size h)) (hA.HR b)
 have D0: ∀b∈aZ S.res us (dm S.args vs),c.M0 b→ ∃p∈dm S.args vs,dX p=some b:=by
  intro b hb h0
  rcases nj b hb with h'|h'
  ·have:=hm.pU.1 b h0;have:=hm.size;omega
  ·obtain⟨q,hq,hqb⟩:=hA.iob b h' h0
   exact⟨ν q.1,by rw[←Qr];exact List.mem_map_of_mem hq,hqb⟩
 have key: ∀(Hx:Nat→Option aN) (Mx:Nat→Prop) (U:fj),Mem c Hx w Mx ν→dd w M w Mx→(∀b,M2 b→Mx b)→(∀b∈cA S.args vs,∀i e,Hx i=some e→e.mut→dX (ν i)≠some b)→
   (∀q∈io,Hx q.1=some .gone)→(∀i,i∉keys io→bP H (uo++U) i=Hx i)→(∀u∈uo++U,u.2=some .gone∨ ∃e l,u.2=some (.kg e l)∧H u.1=some (.own e l))→(∀i∈keys (uo++U),i∈keys (uo++uf))→
   RR w' (fun b=>M' b∨(Mx b∧b∉cA S.args vs)) S.res y us (dm S.args vs)→
   ∃ν',Tr c H w M ν (bP H (uo++U++(iy S.res y id io).2.1)) w' (fun b=>M' b∨(Mx b∧b∉cA S.args vs)) ν'∧
    fC w' (fun b=>M' b∨(Mx b∧b∉cA S.args vs)) (bP H (uo++U++(iy S.res y id io).2.1)) ν' (iy S.res y id io).1 us:=by
  intro Hx Mx U KF hkx KK pZ MQ Yg Cs hU Wv
  obtain⟨lA,A5⟩:=KF.call (fun b hb=>KK b hb.1) (fun b hb=>KK b (hA.hM b hb)) pZ hA.HR ajc hL
  have hx: ∀i e,H i=some e→i∉keys io→ ∃e',Hx i=some e'∧e.g8 e':=by
   intro i e hi xK
   rw[←Yg i xK]
   by_cases hk:i∈keys (uo++U)
   ·obtain⟨u,hu,hui,huv⟩:=Ej (H:=H) hk
    rw[huv]
    rcases Cs u hu with h'|⟨e1,l1,h',Jv⟩
    ·exact⟨_,h',aN.jU e⟩
    ·rw[hui,hi]at Jv;cases Jv;exact⟨_,h',rfl,rfl⟩
   ·rw[jl hk];exact⟨e,hi,.refl e⟩
  have WB: ∀i,id≤i→i<id+S.res.length→Hx i=none:=by
   intro i h3 h4
   have h0:=hX i h3 h4
   have xK:i∉keys io:=fun hk=>by
    obtain⟨q,hq,Hn⟩:=List.mem_map.1 hk
    obtain⟨_,_,z,hz⟩:=hA.PO q hq
    rw[Hn,h0]at hz;cases hz
   rw[←Yg i xK]
   rw[jl,h0]
   intro hk
   obtain⟨_,e,l,h'⟩:=hA.ksn i (hU i hk)
   rw[h0]at h';cases h'
  obtain⟨ν',r1,r2,r3,r4,r5,r6⟩:=mu (hs:=cA S.args vs) (sz:=w.heap.size) (id:=id) (used:=[]) lA Wv Qr.symm (by rw[←hok.ios,←Mf]) hA.ion MQ WB
   (fun i e b hi hmu hb=> .inl ⟨KF.yi b ((KF.iJ i e hi).sx hmu hb),fun hh=>pZ b hh i e hi hmu hb⟩) (by simpa using tE) nj jJ D0
  have Yh:bP H (uo++U++(iy S.res y id io).2.1)=bP Hx (iy S.res y id io).2.1:=by
   rw[dM]
   refine yx fun i hi=> ?_
   by_cases xK:i∈keys io
   ·obtain⟨q,hq,Hn⟩:=List.mem_map.1 xK
    obtain⟨z,hz⟩:=r6 q hq
    rw[Hn,jl hi,←Hn,MQ q hq]at hz;cases hz
   ·exact Yg i xK
  refine⟨ν',⟨by rw[Yh];exact r1,hkx.trans A5,⟨fun i e hi=> ?_,fun i hi=> ?_⟩⟩,by rw[Yh];exact r2⟩
  ·rw[Yh]
   by_cases xK:i∈keys io
   ·obtain⟨q,hq,Hn⟩:=List.mem_map.1 xK
    obtain⟨z,hz⟩:=r6 q hq
    obtain⟨_,_,z0,hz0⟩:=hA.PO q hq
    rw[Hn]at hz hz0
    rw[hi]at hz0;cases hz0
    exact⟨_,hz,rfl⟩
   ·obtain⟨e',sd,hl⟩:=hx i e hi xK
    have hr:i<id∨id+S.res.length≤i:=by
     rcases Nat.lt_or_ge i id with h'|h'
     ·exact .inl h'
     ·rcases Nat.lt_or_ge i (id+S.res.length)with Jv|Jv
      ·rw[hX i h' Jv]at hi;cases hi
      ·exact .inr Jv
    exact⟨e',by rw[r4 i xK hr];exact sd,hl⟩
  ·refine r3 i ?_
   obtain⟨e,he⟩:=Option.ne_none_iff_exists'.1 hi
   by_cases xK:i∈keys io
   ·obtain⟨q,hq,Hn⟩:=List.mem_map.1 xK
    rw[←Hn,MQ q hq];simp
   ·obtain⟨e',sd,_⟩:=hx i e he xK
    rw[sd];simp
 cases hq:S.quiet
 ·
  rw[hq]at h1
  have hMn:(fun b=>M' b∨(M2 b∧b∉cA S.args vs))=M':=by
   funext b
   exact propext ⟨fun h=>h.elim (fun h=>h) (hL.sub b),.inl⟩
  obtain⟨ν',eL,hvr⟩:=key H2 M2 uf hA.mem hA.bB (fun _ h=>h) (fun b hb i e hi hmu=>hA.none b hb i e (hA.fz.mut hi hmu) hmu) (fun q hq=>(hA.PO q hq).1) hA.ext
   (fun u hu=>(List.mem_append.1 hu).elim (fun h=> .inl (hA.uov u h)) (fun h=> .inr (hA.ufv u h))) (fun _ h=>h) (by rw[hMn];exact Mg)
  exact hR _ _ _ _ _ _ _ h1 eL (MP hvr)
 ·rw[hq]at h1
  have KK: ∀b,M2 b→M b:=fun b hb=>hA.bB.less b (hA.mem.yi b hb) hb
  obtain⟨ν',eL,hvr⟩:=key Hq M [] hA.KH (.refl w M) KK hA.none (fun q hq=>(hA.PO q hq).2.1) (by rw[List.append_nil];exact hA.Qp)
   (fun u hu=> .inl (hA.uov u (by simpa using hu))) (fun i hi=>by simp only[keys,List.append_nil,List.map_append,List.mem_append]at hi ⊢;exact .inl hi) (Mg.flat (fun b h=> .inl h) (hok.quiet hq))
  exact hR _ _ _ _ _ _ _ h1 eL (MP hvr)
theorem Qs(hΓ: ∀f S,S∈E.Γ f→eM P f S)(hc:Core c σ a.tmps w M ν){args:Array Operand}{ts:Array TypeId}{g:Operand}(ho:o.op= .call {callee:= .value g,args,argTypes:=ts}){K:fk α}{f:Nat}{caps:List aV}(hg:σ.ρ g= .DQ f caps){id:Nat}
  (h:vR E f (args.toList.map σ.ρ ++caps) id σ.H K=some r) (hn:dG c σ a o w M ν K r next):o.wp P a w next Q:=by
 have hgv:=hc.ev g
 rw[hg]at hgv
 simp only[VR]at hgv
 obtain⟨cs,hgv,Ce⟩:=hgv
 have El: ∀{as1:List aV} {PT:List Value},fC w M σ.H ν as1 PT→fC w M σ.H ν (as1++caps) (PT++cs):=by
  intro as1
  induction as1 with
  |nil=>intro PT h1;cases PT with
   |nil=>exact Ce
   |cons _ _=>simp[fC]at h1
  |cons x as1 ih=>intro PT h1;cases PT with
   |nil=>simp[fC]at h1
   |cons v PT=>simp only[fC]at h1;simp only[List.cons_append,fC];exact⟨h1.1,ih h1.2⟩
 have hd:=Ek (P:=P) hΓ hc.mem (El (hc.evs args.toList)) h (R:=fun v' w'=>next (a.put o.dst v') w') (fun v rd ups v' w' M' ν' h1 h2 h3=>hn v rd ups v' w' M' ν' h1 h2 h3)
 have hex:(execOp a.eval o).run P w=(callFunc f (args.toList.map a.eval++cs).toArray).run P w:=by
  have:(args.toList.map a.eval++cs).toArray= #[]++args.map a.eval++cs.toArray:=by apply Array.ext';simp
  rw[this]
  simp[execOp,ho,resolve,hgv,Deferred.ofValue,invoke]
 unfold Oper.wp
 rw[hex]
 exact hd o a next Q fun v w' hv=>hv
end VM
end
section
namespace VM
open Go
variable{P:Program}{E:Env}{o:Oper}{a:Act}{w:World}{M:Nat→Prop}{ν:Nat→Value}{σ:St}{c:Ctx}{α:Type}{r:α}{next:Act→World→Prop}{Q:Exit→Act→World→Prop}
structure nG(P:Program)(E:Env):Prop extends EnvTy P E where
 adm: ∀f S,S∈E.Γ f→eM P f S
 mixed:P.follows .mixedOrders=true
 fW: ∀i L,E.p7 i=some L→VM.fW L=true
 MR: ∀i L,E.rN i=some L→VM.fW L=true
theorem KL(hE:nG P E)(hc:Core c σ a.tmps w M ν){K:fk α}(h:n4 E o σ.ρ σ.H K=some r)(hn:dG c σ a o w M ν K r next):o.wp P a w next Q:=by
 have hT:=hE.toEnvTy
 unfold n4 at h
 simp only at h
 split at h
 ·rename_i x ho;exact Jp hc (.inl ho) h hn
 ·rename_i x ho;exact Jp hc (.inr ho) h hn
 ·rename_i x y z ho
  split at h
  ·rename_i t hx;exact Qd hc ho hx h hn
  ·cases h
 ·rename_i t ho
  split at h
  ·rename_i τ ht;exact My hT hc ho ht h hn
  ·cases h
 ·rename_i t x ho
  split at h
  ·rename_i τ ht;exact XP hT hc ho h hn
  ·cases h
 ·rename_i t ps ho
  split at h
  ·rename_i n e ht;exact Co hT hc ho ht h hn
  ·rename_i τ Wy ht;exact w9 hT hc ho ht (fun n e he=>Wy n e he) h hn
  ·cases h
 ·rename_i t n ps ho
  split at h
  ·rename_i e ht;exact An hT hc ho ht h hn
  ·cases h
 ·rename_i t x ho
  split at h
  ·rename_i τ ht;exact Qe hT hc ho ht h hn
  ·cases h
 ·rename_i t x y ho
  split at h
  ·rename_i τ ht;exact KC hT hc ho ht h hn
  ·cases h
 ·rename_i x ho
  split at h
  ·rename_i id p hx;exact w7 hc ho hx h hn
  ·rename_i τ z hx;exact vd hc ho hx h hn
  ·cases h
 ·rename_i b t x y t' ho;exact MG hT hc ho h hn
 ·rename_i u t x ho;exact Qj hc ho h hn
 ·rename_i s d x ho
  split at h
  ·rename_i τ k hs hd;exact HK hT hc ho hs hd h hn
  ·cases h
 ·rename_i f first caps ho;exact Ea hc ho h hn
 ·rename_i t x y ho
  split at h
  ·rename_i e ht;exact Cj hT hc ho ht h hn
  ·cases h
 ·rename_i t x lo hi mx ho
  split at h
  ·rename_i τ ht;exact ML hT hc ho ht h hn
  ·cases h
 ·rename_i t x n ho
  split at h
  ·rename_i τ ht
   split at h
   ·rename_i id p hx;exact vb hT hc ho ht hx h hn
   ·rename_i υ z hx;exact tw hT hc ho ht hx h hn
   ·cases h
  ·cases h
 ·rename_i t x n ho
  split at h
  ·rename_i τ ht
   split at h
   ·rename_i υ z hx;exact ME hT hc ho ht hx h hn
   ·cases h
  ·cases h
 ·rename_i t x i ho
  split at h
  ·rename_i τ ht;exact Ch hT hc ho ht h hn
  ·cases h
 ·rename_i t x i ho
  split at h
  ·rename_i τ ht;exact MJ hT hc ho ht h hn
  ·cases h
 ·rename_i x i ho
  split at h
  ·rename_i vs hx
   split at h
   ·rename_i v hv;exact HJ hc ho hx hv h hn
   ·cases h
  ·cases h
 ·rename_i cl ho
  obtain⟨callee,args,ts⟩:=cl
  simp only at h
  split at h
  ·split at h
   ·rename_i x τ ha ht;exact XW hT hc ho ha ht h hn
   ·cases h
  ·split at h
   ·rename_i x y t t' ha ht
    split at h
    ·rename_i e hte;exact KG hT hc ho ha ht hte h hn
    ·cases h
   ·cases h
  ·split at h
   ·rename_i x xs ha;exact Wx hc true ho ha h hn
   ·cases h
  ·split at h
   ·rename_i x xs ha;exact Wx hc false ho ha h hn
   ·cases h
  ·rename_i g
   split at h
   ·rename_i f caps hg;exact Qs hE.adm hc ho hg h hn
   ·cases h
  ·cases h
 ·cases h
end VM
end
section
namespace VM
open Go
variable{P:Program}{E:Env}{o:Oper}{a:Act}{w:World}{M:Nat→Prop}{ν:Nat→Value}{σ:St}{c:Ctx}{α:Type}{r:α}{next:Act→World→Prop}{Q:Exit→Act→World→Prop}
theorem oR(σ:St)(d:Nat)(v:aV):(σ.put d v).T d=v:=by
 show cond (Nat.beq d d) v (σ.T d)=v
 rw[show Nat.beq d d=true from Nat.beq_refl d];rfl
theorem tF(σ:St){d i:Nat}(v:aV)(h:i≠d):(σ.put d v).T i=σ.T i:=by
 show cond (Nat.beq i d) v (σ.T i)=σ.T i
 have:Nat.beq i d=false:=by rw[←Bool.not_eq_true,Nat.beq_eq];exact h
 rw[this];rfl
theorem an2(σ:St)(d:Nat)(v:aV):(σ.put d v).H=σ.H:=rfl
theorem yz(σ:St)(d:Nat):σ.put d (σ.T d)=σ:=by
 obtain⟨T,H⟩:=σ
 unfold St.put
 congr 1
 funext i
 by_cases h:i=d
 ·subst h;show cond (Nat.beq i i) (T i) (T i)=T i;cases Nat.beq i i<;>rfl
 ·have:Nat.beq i d=false:=by rw[←Bool.not_eq_true,Nat.beq_eq];exact h
  rw[this];rfl
theorem Core.tr{tm:Array Value}(h:Core c σ tm w M ν){H':Nat→Option aN}{w':World}{M':Nat→Prop}{ν':Nat→Value}(t:Tr c σ.H w M ν H' w' M' ν'):Core c ⟨σ.T,H'⟩ tm w' M' ν':=
 ⟨t.mem,fun i=>VR.bB t.bB t.goes (h.tmp i)⟩
theorem Core.pP{tm:Array Value}(h:Core c σ tm w M ν){d:Option Nat}{x:aV}{v:Value}{io:List Nat}(hd:DR tm.size io d=true)(hx:VR w M σ.H ν x v)(ds:List Deferred):
  Core c (σ.pP d x) (({tmps:=tm,defers:=ds}:Act).put d v).tmps w M ν:=by
 cases d with
 |none=>exact h
 |some d=>
  have dz:d<tm.size:=by simp only[DR,Bool.and_eq_true,Nat.blt_eq]at hd;exact hd.1
  refine⟨h.mem,fun i=> ?_⟩
  show VR w M σ.H ν ((σ.put d x).T i) ((tm.setIfInBounds d v).getD i undef)
  by_cases hi:i=d
  ·subst hi
   rw[oR]
   simp[Array.getD,dz]
   exact hx
  ·rw[tF _ _ hi]
   have:=h.tmp i
   have he:(tm.setIfInBounds d v).getD i undef=tm.getD i undef:=by
    rw[Array.getD_eq_getD_getElem?,Array.getD_eq_getD_getElem?,Array.getElem?_setIfInBounds_ne (Ne.symm hi)]
   rw[he];exact this
def Inv(c:Ctx)(E:Env)(σ:St)(a:Act)(w:World):Prop:=(∃M ν,Core c σ a.tmps w M ν)∧a.tmps.size=E.nt∧a.defers=[]∧ ∀i∈E.io,a.tmps.getD i undef=c.arg i
theorem Em(a:Act)(d:Option Nat)(v:Value):(a.put d v).tmps.size=a.tmps.size:=by
 cases d<;>simp[Act.put]
theorem put_defers(a:Act)(d:Option Nat)(v:Value):(a.put d v).defers=a.defers:=by
 cases d<;>rfl
theorem Jw{d:Option Nat}{v:Value}{io:List Nat}{n:Nat}(hd:DR n io d=true){i:Nat}(hi:i∈io):(a.put d v).tmps.getD i undef=a.tmps.getD i undef:=by
 cases d with
 |none=>rfl
 |some d=>
  simp only[DR,Bool.and_eq_true,List.all_eq_true]at hd
  have h1:=hd.2 i hi
  have g7:i≠d:=by
   intro e;subst e
   simp at h1
  show(a.tmps.setIfInBounds d v).getD i undef=_
  rw[Array.getD_eq_getD_getElem?,Array.getD_eq_getD_getElem?,Array.getElem?_setIfInBounds_ne (Ne.symm g7)]
theorem Inv.bool(h:Inv c E σ a w){x:Operand}{b:Bool}(hx:σ.ρ x= .val .bool b):a.eval x= .bool b:=by
 obtain⟨⟨M,ν,hc⟩,_,_,_⟩:=h
 have:=hc.ev x
 rw[hx]at this
 exact this.bool
theorem wg(hE:nG P E){ops:Array Oper}(hI:Inv c E σ a w){K:St→List Nat→List Nat→Option α}(h:oa E ops.toList o σ K=some r)
  (hn: ∀σ' a' w' rd wr,K σ' rd wr=some r→Inv c E σ' a' w'→next a' w'):
  if Region.wanted o (yielded ops a.tmps)then o.wp P a w next Q else next (a.put o.dst undef) w:=by
 unfold oa at h
 obtain⟨hd,h⟩:=bx h
 have ct:n4 E o σ.ρ σ.H (fun v rd ups=>K ((σ.p5 ups).pP o.dst v) rd (ups.map (·.1)))=some r→o.wp P a w next Q:=by
  intro h
  obtain⟨⟨M,ν,hc⟩,hs,Yi,rT⟩:=hI
  refine KL hE hc h fun v rd ups v' w' M' ν' hK eL hV=> ?_
  refine hn _ _ _ _ _ hK ⟨⟨M',ν',?_⟩,by rw[Em,hs],by rw[put_defers,Yi],fun i hi=>(Jw hd hi).trans (rT i hi)⟩
  have h1:=hc.tr eL
  have h2:σ.p5 ups=⟨σ.T,bP σ.H ups⟩:=by rw[←HF,←HG ups σ]
  rw[h2]
  exact h1.pP (by rw[hs];exact hd) hV a.defers
 have nH: ∀rd wr,K (σ.pP o.dst .Ms) rd wr=some r→next (a.put o.dst undef) w:=by
  intro rd wr h
  obtain⟨⟨M,ν,hc⟩,hs,Yi,rT⟩:=hI
  refine hn _ _ _ _ _ h ⟨⟨M,ν,hc.pP (by rw[hs];exact hd) (by simp[VR]) a.defers⟩,by rw[Em,hs],by rw[put_defers,Yi],fun i hi=>(Jw hd hi).trans (rT i hi)⟩
 simp only at h
 split at h
 ·rename_i hg
  have:Region.wanted o (yielded ops a.tmps)=true:=by simp[Region.wanted,hg]
  rw[if_pos this]
  exact ct h
 ·rename_i j want hg
  split at h
  ·cases h
  ·rename_i t ht
   have ht':(ops[j]?).bind (·.dst)=some t:=by rw[←Array.getElem?_toList];exact ht
   have hy: ∀b,σ.T t= .val .bool b→yielded ops a.tmps j=some b:=by
    intro b hb
    obtain⟨⟨M,ν,hc⟩,hs,_,_⟩:=hI
    have h1:=hc.tmp t
    rw[hb]at h1
    have h1:=h1.bool
    have h2:a.tmps[t]? =some (.bool b):=by
     rw[Array.getD_eq_getD_getElem?]at h1
     cases h3:a.tmps[t]? with
     |none=>rw[h3]at h1;simp[undef]at h1
     |some v=>rw[h3]at h1;simpa using h1
    simp[yielded,ht',h2]
   split at h
   ·rename_i b hb
    have lj:σ.put t (.val .bool b)=σ:=by rw[←hb];exact yz σ t
    have hw:=hy b hb
    cases want<;>cases b
    ·rw[if_pos (by simp[Region.wanted,hg,hw])]
     rw[lj]at h;exact ct h
    ·rw[if_neg (by simp[Region.wanted,hg,hw])]
     rw[lj]at h;exact nH _ _ h
    ·rw[if_neg (by simp[Region.wanted,hg,hw])]
     rw[lj]at h;exact nH _ _ h
    ·rw[if_pos (by simp[Region.wanted,hg,hw])]
     rw[lj]at h;exact ct h
   ·rename_i hb
    have w5: ¬Region.wanted o (yielded ops a.tmps)=true:=by
     obtain⟨⟨M,ν,hc⟩,hs,_,_⟩:=hI
     have h1:=hc.tmp t
     rw[hb]at h1
     simp only[VR]at h1
     have h2: ∀b,a.tmps[t]? ≠some (.bool b):=by
      intro b dq
      rw[Array.getD_eq_getD_getElem?,dq]at h1
      simp[undef]at h1
     have h3:yielded ops a.tmps j=none:=by
      unfold yielded
      rw[ht']
      show(match a.tmps[t]? with|some (.bool b)=>some b|_=>none)=none
      split
      ·rename_i b dq;exact absurd dq (h2 b)
      ·rfl
     simp[Region.wanted,hg,h3]
    rw[if_neg w5]
    exact nH _ _ h
   ·cases h
theorem yA(hE:nG P E){ops:Array Oper}: ∀(l:List Oper) (i:Nat) (σ:St) (lg:Log) (a:Act) (w:World) (K:St→Log→Option α),Inv c E σ a w→Ku E ops.toList l i σ lg K=some r→
  (∀σ' WC a' w',K σ' WC=some r→Inv c E σ' a' w'→Q .normal a' w')→wpList P ops Q l a w
 |[],i,σ,lg,a,w,K,hI,h,hn=>hn _ _ _ _ h hI
 |o::l,i,σ,lg,a,w,K,hI,h,hn=>by
  unfold Ku at h
  refine wpList_step fun K' hK'=> ?_
  exact wg hE hI h fun σ' a' w' rd wr h' sf=>hK' _ _ (yA hE l (i+1) σ' _ a' w' K sf h' hn)
theorem En(hI:Inv c E σ a w){x:Operand}{A B:St→Option α}(h:AT E x σ A B=some r): ∃b,a.eval x= .bool b∧(if b then A σ else B σ)=some r:=by
 unfold AT at h
 split at h
 ·rename_i b hb
  refine⟨b,hI.bool hb,?_⟩
  split at h
  ·rename_i t
   have hb:σ.T t= .val .bool b:=hb
   have lj:σ.put t (.val .bool b)=σ:=by rw[←hb];exact yz σ t
   cases b
   ·rw[lj]at h;exact h
   ·rw[lj]at h;exact h
  ·cases b<;>exact h
 ·cases h
end VM
end
section
namespace VM
open Go
variable{P:Program}{E:Env}{o:Oper}{a:Act}{w:World}{M:Nat→Prop}{ν:Nat→Value}{σ:St}{c:Ctx}{α:Type}{r:α}{next:Act→World→Prop}{Q:Exit→Act→World→Prop}
def mix{β:Type}(A B:Nat→β):Nat→β:=fun i=>if i%2=0 then A (i/2)else B (i/2)
theorem eN{β:Type}(A B:Nat→β)(i:Nat):mix A B (2*i)=A i:=by
 unfold mix
 rw[if_pos (by omega),show 2*i/2=i from by omega]
theorem pJ{β:Type}(A B:Nat→β)(i:Nat):mix A B (2*i+1)=B i:=by
 unfold mix
 rw[if_neg (by omega),show(2*i+1)/2=i from by omega]
theorem aca{β:Type}{A B A' B':Nat→β}(hl: ∀i,A i=A' i)(hr: ∀i,B i=B' i):mix A B=mix A' B':=by
 funext i;unfold mix;rw[hl,hr]
def aN.re(f:Nat→Nat):aN→aN
 | .dK τ x p j=> .dK τ x p (f j)
 |e=>e
theorem ER.re{v:Value}{f:Nat→Nat}{e:aN}:ER w M v (e.re f)↔ER w M v e:=by cases e<;>simp[aN.re,ER]
theorem aN.mw{f:Nat→Nat}{e:aN}:(e.re f).mut↔e.mut:=by cases e<;>simp[aN.re,aN.mut]
theorem aN.Jx{f g:Nat→Nat}{e e':aN}:(e.re f).g8 (e'.re g)↔e.g8 e':=by cases e<;>cases e'<;>simp[aN.re,aN.g8]
def ml(i:Nat):Nat:=2*i
def mr(i:Nat):Nat:=2*i+1
def fl(A B:Nat→Option aN):Nat→Option aN:=fun i=>if i%2=0 then(A (i/2)).map (aN.re ml)else(B (i/2)).map (aN.re mr)
theorem sC(A B:Nat→Option aN)(i:Nat):fl A B (2*i)=(A i).map (aN.re ml):=by
 unfold fl
 rw[if_pos (by omega),show 2*i/2=i from by omega]
theorem oS(A B:Nat→Option aN)(i:Nat):fl A B (2*i+1)=(B i).map (aN.re mr):=by
 unfold fl
 rw[if_neg (by omega),show(2*i+1)/2=i from by omega]
theorem eT{A B:Nat→Option aN}{i:Nat}{e:aN}(h:A i=some e):fl A B (2*i)=some (e.re ml):=by rw[sC,h];rfl
theorem oT{A B:Nat→Option aN}{i:Nat}{e:aN}(h:B i=some e):fl A B (2*i+1)=some (e.re mr):=by rw[oS,h];rfl
theorem Ct{A B:Nat→Option aN}{i:Nat}:fl A B (2*i)≠none↔A i≠none:=by rw[sC];cases A i<;>simp
theorem Cu{A B:Nat→Option aN}{i:Nat}:fl A B (2*i+1)≠none↔B i≠none:=by rw[oS];cases B i<;>simp
theorem my(A B:Nat→Option aN)(i:Nat)(v:Option aN):bh (fl A B) (2*i) (v.map (aN.re ml))=fl (bh A i v) B:=by
 funext k
 by_cases hk:k=2*i
 ·subst hk;rw[ak,sC,ak]
 ·rw[al _ _ hk]
  unfold fl
  by_cases h2:k%2=0
  ·rw[if_pos h2,if_pos h2,al _ _ (by omega)]
  ·rw[if_neg h2,if_neg h2]
theorem yB(A B:Nat→Option aN)(i:Nat)(v:Option aN):bh (fl A B) (2*i+1) (v.map (aN.re mr))=fl A (bh B i v):=by
 funext k
 by_cases hk:k=2*i+1
 ·subst hk;rw[ak,oS,ak]
 ·rw[al _ _ hk]
  unfold fl
  by_cases h2:k%2=0
  ·rw[if_pos h2,if_pos h2]
  ·rw[if_neg h2,if_neg h2,al _ _ (by omega)]
theorem yC(A B:Nat→Value)(i:Nat)(v:Value):cg (mix A B) (2*i+1) v=mix A (cg B i v):=by
 funext k
 unfold cg mix
 by_cases hk:k=2*i+1
 ·subst hk;rw[if_pos rfl,if_neg (by omega)]
  show v=if(2*i+1)/2=i then v else B ((2*i+1)/2)
  rw[if_pos (by omega)]
 ·rw[if_neg hk]
  by_cases h2:k%2=0
  ·rw[if_pos h2,if_pos h2]
  ·rw[if_neg h2,if_neg h2]
   show B (k/2)=if k/2=i then v else B (k/2)
   rw[if_neg (by omega)]
theorem Mem.left{H A:Nat→Option aN}{νA:Nat→Value}(h:Mem c (fl H A) w M (mix ν νA)):Mem c H w M ν:=
 ⟨fun i e hi=>by have:=h.iJ (2*i) _ (eT hi);rw[eN]at this;exact ER.re.1 this,
  fun i j e e' b nB hi hm hj gy=>by have:=h.uS (2*i) (2*j) _ _ b (by omega) (eT hi) (aN.mw.2 hm) (eT hj) (aN.mw.2 gy);rwa [eN,eN]at this,
  fun i e b hi hm=>by have:=h.new (2*i) _ b (eT hi) (aN.mw.2 hm);rwa [eN]at this,
  fun i e l b hi=>by have:=h.s9 (2*i) e l b (eT hi);rwa [eN]at this,
  fun i τ x p j hi=>by
   obtain⟨h1,b,h2,h3⟩:=h.dK (2*i) τ x p (ml j) (eT hi)
   rw[eN]at h2
   unfold ml at h1 h3
   rw[eN]at h3
   exact⟨Ct.1 h1,b,h2,h3⟩,
  h.sub,h.yi,h.frame,h.size,h.pU,h.os,h.tape,h.output⟩
theorem Mem.right{H A:Nat→Option aN}{νA:Nat→Value}(h:Mem c (fl H A) w M (mix ν νA)):Mem c A w M νA:=
 ⟨fun i e hi=>by have:=h.iJ (2*i+1) _ (oT hi);rw[pJ]at this;exact ER.re.1 this,
  fun i j e e' b nB hi hm hj gy=>by have:=h.uS (2*i+1) (2*j+1) _ _ b (by omega) (oT hi) (aN.mw.2 hm) (oT hj) (aN.mw.2 gy);rwa [pJ,pJ]at this,
  fun i e b hi hm=>by have:=h.new (2*i+1) _ b (oT hi) (aN.mw.2 hm);rwa [pJ]at this,
  fun i e l b hi=>by have:=h.s9 (2*i+1) e l b (oT hi);rwa [pJ]at this,
  fun i τ x p j hi=>by
   obtain⟨h1,b,h2,h3⟩:=h.dK (2*i+1) τ x p (mr j) (oT hi)
   rw[pJ]at h2
   unfold mr at h1 h3
   rw[pJ]at h3
   exact⟨Cu.1 h1,b,h2,h3⟩,
  h.sub,h.yi,h.frame,h.size,h.pU,h.os,h.tape,h.output⟩
theorem Mem.Qt{H:Nat→Option aN}(νA:Nat→Value)(h:Mem c H w M ν):Mem c (fl H (fun _=>none)) w M (mix ν νA):=by
 have key: ∀i e,fl H (fun _=>none) i=some e→ ∃j e0,i=2*j∧H j=some e0∧e=e0.re ml:=by
  intro i e hi
  unfold fl at hi
  by_cases h2:i%2=0
  ·rw[if_pos h2]at hi
   obtain⟨e0,h3,h4⟩:=Option.map_eq_some_iff.1 hi
   exact⟨i/2,e0,by omega,h3,h4.symm⟩
  ·rw[if_neg h2]at hi;cases hi
 refine⟨fun i e hi=> ?_,fun i j e e' b nB hi hm hj gy=> ?_,fun i e b hi hm=> ?_,fun i e l b hi=> ?_,fun i τ x p j hi=> ?_,h.sub,h.yi,h.frame,h.size,h.pU,h.os,h.tape,h.output⟩
 ·obtain⟨j,e0,rfl,hj,rfl⟩:=key i e hi;rw[eN];exact ER.re.2 (h.iJ j e0 hj)
 ·obtain⟨i',e1,rfl,iA,rfl⟩:=key i e hi;obtain⟨j',e2,rfl,WD,rfl⟩:=key j e' hj
  rw[eN,eN];exact h.uS i' j' e1 e2 b (by omega) iA (aN.mw.1 hm) WD (aN.mw.1 gy)
 ·obtain⟨j,e0,rfl,hj,rfl⟩:=key i e hi;rw[eN];exact h.new j e0 b hj (aN.mw.1 hm)
 ·obtain⟨j,e0,rfl,hj,he⟩:=key i _ hi
  cases e0<;>simp only[aN.re]at he<;>cases he
  rw[eN];exact h.s9 j e l b hj
 ·obtain⟨k,e0,rfl,hk,he⟩:=key i _ hi
  cases e0<;>simp only[aN.re]at he<;>cases he
  obtain⟨h1,b,h2,h3⟩:=h.dK k _ _ _ _ hk
  refine⟨Ct.2 h1,b,by rw[eN];exact h2,?_⟩
  unfold ml
  rw[eN];exact h3
theorem nT.left{H A H' A':Nat→Option aN}{νA ν' KM:Nat→Value}(g:nT (fl H A) (mix ν νA) (fl H' A') (mix ν' KM)):nT H ν H' ν':=
 ⟨fun i e hi=>by
   obtain⟨e',h1,h2⟩:=g.iJ (2*i) _ (eT hi)
   rw[sC]at h1
   obtain⟨e0,h3,rfl⟩:=Option.map_eq_some_iff.1 h1
   exact⟨e0,h3,aN.Jx.1 h2⟩,
  fun i hi=>by have:=g.head (2*i) (Ct.2 hi);rwa [eN,eN]at this⟩
theorem nT.right{H A H' A':Nat→Option aN}{νA ν' KM:Nat→Value}(g:nT (fl H A) (mix ν νA) (fl H' A') (mix ν' KM)):nT A νA A' KM:=
 ⟨fun i e hi=>by
   obtain⟨e',h1,h2⟩:=g.iJ (2*i+1) _ (oT hi)
   rw[oS]at h1
   obtain⟨e0,h3,rfl⟩:=Option.map_eq_some_iff.1 h1
   exact⟨e0,h3,aN.Jx.1 h2⟩,
  fun i hi=>by have:=g.head (2*i+1) (Cu.2 hi);rwa [pJ,pJ]at this⟩
theorem Mem.move{H A:Nat→Option aN}{νA:Nat→Value}(h:Mem c (fl H A) w M (mix ν νA)){i j:Nat}{e e1:aN}(hi:H i=some e)(hm:e.mut)(hj:A j=none)
  (HI:(e1=e∧ ∀τ x p k,e≠ .dK τ x p k)∨ ∃τ x p k k',e= .dK τ x p k∧e1= .dK τ x p k'∧A k'≠none∧νA k'=ν k):
  Tr c (fl H A) w M (mix ν νA) (fl (bh H i (some .gone)) (bh A j (some e1))) w M (mix ν (cg νA j (ν i))):=by
 have hg:=Tr.gone h (2*i)
 have hgo:(some aN.gone)=(some aN.gone).map (aN.re ml):=rfl
 rw[hgo,my]at hg
 have Mf:=eT (B:=A) hi
 have hER:ER w M (ν i) (e1.re mr):=by
  have h1:=h.iJ (2*i) _ Mf
  rw[eN]at h1
  have h1:=ER.re.1 h1
  rcases HI with⟨rfl,_⟩|⟨τ,x,p,k,k',rfl,rfl,_,_⟩
  ·exact ER.re.2 h1
  ·exact h1
 have h2:=Mem.wc hg.mem (id:=2*j+1) (v:=ν i) (e:=e1.re mr) (fun e' sd=>by rw[oS,hj]at sd;cases sd)
  hER
  (fun b hb k e' hk gy=>by
   by_cases PQ:k=2*i
   ·subst PQ;rw[sC,ak]at hk;cases hk;simp[aN.re,aN.mut]at gy
   ·have hk3:fl H A k=some e':=by
     have:=congrFun (my H A i (some .gone)) k
     rw[al _ _ PQ]at this
     rw[this];exact hk
    have:=h.uS (2*i) k _ e' b (Ne.symm PQ) Mf (aN.mw.2 hm) hk3 gy
    rw[eN]at this
    exact this hb)
  (fun b hb=>by have:=h.new (2*i) _ b Mf (aN.mw.2 hm);rw[eN]at this;exact this hb)
  (fun b e0 l0 he hb=>by
   rcases HI with⟨rfl,_⟩|⟨τ,x,p,k,k',rfl,rfl,_,_⟩
   ·cases e1<;>simp only[aN.re]at he<;>cases he
    have:=h.s9 (2*i) e0 l0 b Mf;rw[eN]at this;exact this hb
   ·simp[aN.re]at he)
  (.inl (by rw[oS,hj];rfl))
  (fun τ x p k he=>by
   rcases HI with⟨rfl,hn⟩|⟨τ,x,p,k,k',rfl,rfl,hk,hνk⟩
   ·cases e1<;>simp only[aN.re]at he<;>cases he
    exact absurd rfl (hn _ _ _ _)
   ·simp only[aN.re]at he
    cases he
    obtain⟨_,b,h4,h5⟩:=h.dK (2*i) _ _ _ _ Mf
    rw[eN]at h4
    have hkj:k'≠j:=fun e=>hk (e▸hj)
    refine⟨?_,b,h4,?_⟩
    ·rw[al _ _ (by unfold mr;omega)]
     unfold mr
     exact Cu.2 hk
    ·unfold ml at h5
     rw[eN]at h5
     rw[h5,←hνk]
     have:cg (mix ν νA) (2*j+1) (ν i) (mr k')=mix ν νA (mr k'):=by
      unfold cg mr;rw[if_neg (by omega)]
     rw[this];unfold mr;rw[pJ])
 have Qu:some (e1.re mr)=(some e1).map (aN.re mr):=rfl
 rw[Qu,yB,yC]at h2
 refine⟨h2,.refl w M,⟨fun k e' hk=> ?_,fun k hk=> ?_⟩⟩
 ·by_cases h3:k%2=0
  ·obtain⟨k',rfl⟩: ∃k',k=2*k':=⟨k/2,by omega⟩
   by_cases xK:k'=i
   ·subst xK;exact⟨.gone,by rw[sC,ak];rfl,aN.jU _⟩
   ·exact⟨e',by rw[sC]at hk ⊢;rw[al _ _ xK];exact hk,.refl e'⟩
  ·obtain⟨k',rfl⟩: ∃k',k=2*k'+1:=⟨k/2,by omega⟩
   rw[oS]at hk ⊢
   have xK:k'≠j:=fun e=>by rw[e,hj]at hk;cases hk
   exact⟨e',by rw[al _ _ xK];exact hk,.refl e'⟩
 ·by_cases h3:k%2=0
  ·obtain⟨k',rfl⟩: ∃k',k=2*k':=⟨k/2,by omega⟩
   rw[eN,eN]
  ·obtain⟨k',rfl⟩: ∃k',k=2*k'+1:=⟨k/2,by omega⟩
   rw[pJ,pJ]
   have xK:k'≠j:=fun e=>by rw[oS,e,hj]at hk;exact hk rfl
   simp[cg,xK]
theorem Mem.fresh{H A:Nat→Option aN}{νA:Nat→Value}(h:Mem c (fl H A) w M (mix ν νA)){j:Nat}(hj:A j=none)(e:Ty)(ad:Option Addr):
  Tr c (fl H A) w M (mix ν νA) (fl H (bh A j (some (.own e [])))) w M (mix ν (cg νA j (.slice ad 0 0))):=by
 have:=Tr.nothing h (id:=2*j+1) (by rw[oS,hj];rfl) e ad
 have Qu:some (aN.own e [])=(some (aN.own e [])).map (aN.re mr):=rfl
 rw[Qu,yB,yC]at this
 exact this
structure Cut(c:Ctx)(σ acc:St)(tm:Array Value)(w:World)(M:Nat→Prop)(ν νA:Nat→Value):Prop where
 mem:Mem c (fl σ.H acc.H) w M (mix ν νA)
 src: ∀i,VR w M σ.H ν (σ.T i) (tm.getD i undef)
 dst: ∀i,VR w M acc.H νA (acc.T i) (tm.getD i undef)
theorem Cut.tr{acc:St}{tm:Array Value}{νA:Nat→Value}(h:Cut c σ acc tm w M ν νA){H' A':Nat→Option aN}{M':Nat→Prop}{KM:Nat→Value}(t:Tr c (fl σ.H acc.H) w M (mix ν νA) (fl H' A') w M' (mix ν KM)){s:Nat}{x:aV}(hx:VR w M' A' KM x (tm.getD s undef)):
  Cut c ⟨σ.T,H'⟩ ⟨(acc.put s x).T,A'⟩ tm w M' ν KM:=by
 refine⟨t.mem,fun i=>VR.bB t.bB t.goes.left (h.src i),fun i=> ?_⟩
 show VR w M' A' KM ((acc.put s x).T i) _
 by_cases hi:i=s
 ·subst hi;rw[oR];exact hx
 ·rw[tF _ _ hi];exact VR.bB t.bB t.goes.right (h.dst i)
def MS(A:Nat→Option aN)(s:Nat):Prop:=A (16*s+13)=none∧A (16*s+14)=none∧A (16*s+15)=none
theorem iB{q:Nat×CM}{L:List (Nat×CM)}{A:Nat→Option aN}(hF:fW (q::L)=true)(hN: ∀p∈q::L,MS A p.1):
  fW L=true∧(∀p∈L,MS A p.1)∧
   ∀(A':Nat→Option aN) (d:Nat) (v:Option aN),(d=16*q.1+13∨d=16*q.1+14∨d=16*q.1+15)→(∀p∈L,MS A' p.1)→ ∀p∈L,MS (bh A' d v) p.1:=by
 unfold fW at hF
 rw[Bool.and_eq_true,List.all_eq_true]at hF
 refine⟨hF.2,fun p hp=>hN p (List.mem_cons_of_mem _ hp),fun A' d v hd hN' p hp=> ?_⟩
 have g7:p.1≠q.1:=fun e=>by
  have:=hF.1 p hp
  rw[e]at this
  simp at this
 obtain⟨h1,h2,h3⟩:=hN' p hp
 exact⟨by rw[al _ _ (by omega)];exact h1,by rw[al _ _ (by omega)];exact h2,by rw[al _ _ (by omega)];exact h3⟩
theorem c7{tm:Array Value}: ∀(L:List (Nat×CM)) (σ acc:St) (M:Nat→Prop) (νA:Nat→Value) (K:St→Option α),Cut c σ acc tm w M ν νA→fW L=true→(∀q∈L,MS acc.H q.1)→eH L σ acc K=some r→
  ∃Qv M' KM,K Qv=some r∧Core c Qv tm w M' KM
 |[],σ,acc,M,νA,K,hC,_,_,h=>⟨acc,M,νA,h,hC.mem.right,hC.dst⟩
 |(s,.v τ)::L,σ,acc,M,νA,K,hC,hF,hN,h=>by
  obtain⟨Ho,Hp,KN⟩:=iB hF hN
  unfold eH at h
  obtain⟨y,rd,ups,h,hy⟩:=xJ hC.mem.left (hC.src s) h
  rcases hy with⟨rfl,hV⟩|⟨id,e,l,rfl,aQ,hV⟩
  ·exact c7 L σ _ M νA K (hC.tr (.refl hC.mem) (x:= .val τ y) (by simp only[VR];exact hV)) Ho Hp h
  ·obtain⟨M2,eL,_,Cg⟩:=Tr.freeze hC.mem (id:=2*id) (eT aQ)
   have Qu:some (aN.kg e l)=(some (aN.kg e l)).map (aN.re ml):=rfl
   rw[Qu,my]at eL
   refine c7 L _ _ M2 νA K (hC.tr eL (x:= .val τ y) ?_) Ho Hp h
   simp only[VR]
   exact hV M2 (fun b=>by rw[Cg b,eN])
 |(s,.own e)::L,σ,acc,M,νA,K,hC,hF,hN,h=>by
  obtain⟨Ho,Hp,KN⟩:=iB hF hN
  unfold eH at h
  have hs:=hC.src s
  split at h
  ·rename_i hT
   have hj:=(hN _ List.mem_cons_self).2.1
   rw[hT]at hs
   obtain⟨ad,hv⟩:=VR.emp.1 hs
   refine c7 L σ _ M _ K (hC.tr (hC.mem.fresh hj e ad) (x:= .ref (16*s+14)) ?_) Ho (KN _ _ _ (.inr (.inl rfl)) Hp) h
   simp only[VR]
   exact⟨by rw[ak];simp,by rw[hv];simp[cg]⟩
  ·rename_i id hT
   rw[hT]at hs
   simp only[VR]at hs
   split at h
   ·rename_i e' l aQ
    obtain⟨e1,h⟩:=aX h
    cases e1
    have hj:=(hN _ List.mem_cons_self).2.1
    refine c7 L _ _ M _ K (hC.tr (hC.mem.move aQ trivial hj (.inl ⟨rfl,fun _ _ _ _=>by simp⟩)) (x:= .ref (16*s+14)) ?_) Ho (KN _ _ _ (.inr (.inl rfl)) Hp) h
    simp only[VR]
    exact⟨by rw[ak];simp,by rw[hs.2];simp[cg]⟩
   ·cases h
  ·cases h
 |(s,.obj τ)::L,σ,acc,M,νA,K,hC,hF,hN,h=>by
  obtain⟨Ho,Hp,KN⟩:=iB hF hN
  unfold eH at h
  have hs:=hC.src s
  split at h
  ·rename_i id hT
   rw[hT]at hs
   split at h
   ·rename_i υ x aQ
    obtain⟨e1,h⟩:=aX h
    subst e1
    have hj:=(hN _ List.mem_cons_self).2.1
    simp only[VR]at hs
    obtain⟨e,he,jE⟩:=hs
    rw[aQ]at he;cases he
    simp only[AR]at jE
    obtain⟨_,b,hb,hv⟩:=jE
    refine c7 L _ _ M _ K (hC.tr (hC.mem.move aQ trivial hj (.inl ⟨rfl,fun _ _ _ _=>by simp⟩)) (x:= .fA (16*s+14) []) ?_) Ho (KN _ _ _ (.inr (.inl rfl)) Hp) h
    simp only[VR]
    exact⟨_,ak _ _ _,trivial,b,by simp[cg,hb],hv⟩
   ·
    rename_i υ x q k aQ
    obtain⟨z,ups,M2,hK,eL,adn,b,cs,t,hb,hg,Cg,gO⟩: ∃z ups M2,bW υ τ z (fun y=>eH L ((σ.p5 ups).gR id (some .gone)) ((acc.put s (.fA (16*s+14) [])).gR (16*s+14) (some (.obj τ y))) K)=some r∧
      Tr c (fl σ.H acc.H) w M (mix ν νA) (fl (bP σ.H ups) acc.H) w M2 (mix ν νA)∧bP σ.H ups id=some (.dK υ x q k)∧ ∃b cs t,ν id= .pointer (some ⟨b,0,none⟩)∧w.heap[b]? =some (.cells cs t (0,0))∧M2 b∧Rd w M2 υ cs.toList z:=by
     have ado:=eT (B:=acc.H) aQ
     unfold wW at h
     split at h
     ·rename_i e l hk
      have g7:id≠k:=fun e=>by rw[e,hk]at aQ;cases aQ
      obtain⟨z,ups,M2,hK,eL,_,X4,b,cs,t,hb,hg,Cg,gO⟩:=sA (H:=fl σ.H acc.H) hC.mem (id:=2*id) (j:=2*k) (x:=x) (q:=q)
       (k:=fun z _=>bW υ τ z fun y=>eH L ((σ.p5 [(k,some (.kg e l))]).gR id (some .gone)) ((acc.put s (.fA (16*s+14) [])).gR (16*s+14) (some (.obj τ y))) K) ado (by
        unfold wW
        rw[eT hk]
        exact h)
      rw[eN]at hb
      rcases X4 with⟨e2,l2,h2,_⟩|⟨e2,l2,h2,rfl⟩
      ·rw[eT hk]at h2;simp[aN.re]at h2
      ·rw[eT hk]at h2
       simp only[aN.re,Option.some.injEq]at h2
       have Qu:some (aN.kg e l)=(some (aN.kg e l)).map (aN.re ml):=rfl
       have qg:Tr c (fl σ.H acc.H) w M (mix ν νA) (bh (fl σ.H acc.H) (2*k) (some (.kg e l))) w M2 (mix ν νA):=by
        cases h2;exact eL
       rw[Qu,my]at qg
       exact⟨z,_,M2,hK,qg,by show bh σ.H k _ id=_;rw[al _ _ g7];exact aQ,b,cs,t,hb,hg,Cg,gO⟩
     ·rename_i e l hk
      obtain⟨z,ups,M2,hK,eL,_,X4,b,cs,t,hb,hg,Cg,gO⟩:=sA (H:=fl σ.H acc.H) hC.mem (id:=2*id) (j:=2*k) (x:=x) (q:=q)
       (k:=fun z _=>bW υ τ z fun y=>eH L ((σ.p5 []).gR id (some .gone)) ((acc.put s (.fA (16*s+14) [])).gR (16*s+14) (some (.obj τ y))) K) ado (by
        unfold wW
        rw[eT hk]
        exact h)
      rw[eN]at hb
      rcases X4 with⟨e2,l2,h2,rfl⟩|⟨e2,l2,h2,_⟩
      ·exact⟨z,[],M2,hK,eL,aQ,b,cs,t,hb,hg,Cg,gO⟩
      ·rw[eT hk]at h2;simp[aN.re]at h2
     ·cases h
    obtain⟨e1,hK⟩:=aX hK
    subst e1
    have hC2:Cut c ⟨σ.T,bP σ.H ups⟩ acc tm w M2 ν νA:=⟨eL.mem,fun i=>VR.bB eL.bB eL.goes.left (hC.src i),fun i=>VR.bB eL.bB eL.goes.right (hC.dst i)⟩
    have nk:=Tr.acO (e':= .obj υ z) eL.mem (eT adn) trivial trivial rfl (fun _ _=>by simp) (by rw[eN];simp only[ER];exact⟨b,cs,t,hb,hg,Cg,gO⟩) (fun _ _ _ _ h=>by cases h)
    have Qu:some (aN.obj υ z)=(some (aN.obj υ z)).map (aN.re ml):=rfl
    rw[Qu,my]at nk
    have hC3:Cut c ⟨σ.T,bh (bP σ.H ups) id (some (.obj υ z))⟩ acc tm w M2 ν νA:=⟨nk.mem,fun i=>VR.bB nk.bB nk.goes.left (hC2.src i),fun i=>VR.bB nk.bB nk.goes.right (hC2.dst i)⟩
    have hj:=(hN _ List.mem_cons_self).2.1
    simp only[VR]at hs
    obtain⟨e,he,jE⟩:=hs
    rw[aQ]at he;cases he
    simp only[AR]at jE
    obtain⟨_,b',dq,hv⟩:=jE
    rw[hb]at dq;cases dq
    have WE:=hC3.mem.move (ak _ _ _) trivial hj (.inl ⟨rfl,fun _ _ _ _=>by simp⟩)
    rw[sy]at WE
    have Hi:(σ.p5 ups).gR id (some .gone)=⟨σ.T,bh (bP σ.H ups) id (some .gone)⟩:=by
     have h2:σ.p5 ups=⟨σ.T,bP σ.H ups⟩:=by rw[←HF,←HG ups σ]
     rw[h2];rfl
    rw[Hi]at hK
    refine c7 L _ _ M2 _ K (hC3.tr WE (x:= .fA (16*s+14) []) ?_) Ho (KN _ _ _ (.inr (.inl rfl)) Hp) hK
    simp only[VR]
    exact⟨_,ak _ _ _,trivial,b,by simp[cg,hb],hv⟩
   ·cases h
  ·cases h
 |(s,.dK τ q e)::L,σ,acc,M,νA,K,hC,hF,hN,h=>by
  obtain⟨Ho,Hp,KN⟩:=iB hF hN
  unfold eH at h
  have hs:=hC.src s
  split at h
  ·rename_i id hT
   rw[hT]at hs
   split at h
   ·rename_i υ x q' k aQ
    obtain⟨hpq,h1⟩:=bx h
    clear h
    have:=u5 hpq
    subst this
    split at h1
    ·rename_i e' l hk
     obtain⟨e1,h2⟩:=aX h1
     clear h1
     subst e1
     obtain⟨e2,h⟩:=aX h2
     cases e2
     have g7:id≠k:=fun e=>by rw[e,hk]at aQ;cases aQ
     obtain⟨ajf,ajg,_⟩:=hN _ List.mem_cons_self
     simp only[VR]at hs
     obtain⟨e,he,jE⟩:=hs
     rw[aQ]at he;cases he
     simp only[AR]at jE
     obtain⟨_,b,hb,hv⟩:=jE
     have oe:=hC.mem.move hk trivial ajf (.inl ⟨rfl,fun _ _ _ _=>by simp⟩)
     have kX:bh σ.H k (some .gone) id=some (.dK υ x q k):=by rw[al _ _ g7];exact aQ
     have tk:=oe.mem.move kX trivial (j:=16*s+14) (e1:= .dK υ x q (16*s+13)) (by rw[al _ _ (by omega)];exact ajg)
      (.inr ⟨υ,x,q,k,16*s+13,rfl,rfl,by rw[ak];simp,by simp[cg]⟩)
     refine c7 L _ _ M _ K (hC.tr (oe.trans tk) (s:=s) (x:= .fA (16*s+14) []) ?_) Ho (KN _ _ _ (.inr (.inl rfl)) (KN _ _ _ (.inl rfl) Hp)) h
     simp only[VR]
     exact⟨_,ak _ _ _,trivial,b,by simp[cg,hb],hv⟩
    ·cases h1
   ·cases h
  ·cases h
 |(s,.same s')::L,σ,acc,M,νA,K,hC,hF,hN,h=>by
  obtain⟨Ho,Hp,KN⟩:=iB hF hN
  unfold eH at h
  split at h
  ·rename_i i j j' h1 h2 h3
   obtain⟨hb,h⟩:=bx h
   have hb:=Nat.eq_of_beq_eq_true hb
   have e1:=hC.src s
   have e2:=hC.src s'
   have e3:=hC.dst s'
   rw[h1]at e1;rw[h2]at e2;rw[h3]at e3
   simp only[VR]at e1 e2 e3
   refine c7 L σ _ M νA K (hC.tr (.refl hC.mem) (x:= .ref j') ?_) Ho Hp h
   simp only[VR]
   exact⟨e3.1,by rw[e1.2,hb,←e2.2,e3.2]⟩
  ·cases h
 |(s,.io τ)::L,σ,acc,M,νA,K,hC,hF,hN,h=>by
  obtain⟨Ho,Hp,KN⟩:=iB hF hN
  unfold eH at h
  have hs:=hC.src s
  split at h
  ·rename_i id hT
   rw[hT]at hs
   obtain⟨_,h⟩:=bx h
   split at h
   ·rename_i υ x aQ
    obtain⟨e1,h⟩:=aX h
    subst e1
    have hj:=(hN _ List.mem_cons_self).2.2
    simp only[VR]at hs
    obtain⟨e,he,jE⟩:=hs
    rw[aQ]at he;cases he
    simp only[AR]at jE
    obtain⟨_,b,hb,hv⟩:=jE
    refine c7 L _ _ M _ K (hC.tr (hC.mem.move aQ trivial hj (.inl ⟨rfl,fun _ _ _ _=>by simp⟩)) (x:= .fA (16*s+15) []) ?_) Ho (KN _ _ _ (.inr (.inr rfl)) Hp) h
    simp only[VR]
    exact⟨_,ak _ _ _,trivial,b,by simp[cg,hb],hv⟩
   ·cases h
  ·cases h
 |(s,.fn f τ)::L,σ,acc,M,νA,K,hC,hF,hN,h=>by
  obtain⟨Ho,Hp,KN⟩:=iB hF hN
  unfold eH at h
  have hs:=hC.src s
  split at h
  ·rename_i f' cs hT
   rw[hT]at hs
   obtain⟨hb,h1⟩:=bx h
   clear h
   have hb:=Nat.eq_of_beq_eq_true hb
   subst hb
   simp only[VR]at hs
   obtain⟨us,hv,Qh⟩:=hs
   obtain⟨y,rd,ups,h,hy⟩:=yw hC.mem.left Qh h1
   split at h
   ·refine c7 L σ _ M νA K (hC.tr (.refl hC.mem) (x:= .DQ f (lh τ y)) ?_) Ho Hp h
    simp only[VR]
    exact⟨us,hv,fC.free (hy rfl)⟩
   ·cases h
  ·cases h
theorem sD(hI:Inv c E σ a w){L:Option (List (Nat×CM))}(hL: ∀L',L=some L'→fW L'=true){K:St→Option α}(h:qb L σ K=some r): ∃σ',K σ'=some r∧Inv c E σ' a w:=by
 unfold qb at h
 split at h
 ·exact⟨σ,h,hI⟩
 ·have WB:=hL _ rfl
  obtain⟨⟨M,ν,hc⟩,hs,hd⟩:=hI
  obtain⟨Qv,M',KM,hK,adp⟩:=c7 (tm:=a.tmps) _ σ ⟨fun _=> .any,fun _=>none⟩ M (fun _=>undef) K ⟨hc.mem.Qt _,hc.tmp,fun i=>by simp[VR]⟩ WB (fun _ _=>⟨rfl,rfl,rfl⟩) h
  exact⟨Qv,hK,⟨M',KM,adp⟩,hs,hd⟩
end VM
end
