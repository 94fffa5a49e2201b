/- A part of the proof of HedgeLess of layer 22: a machine that reads a function of the program as an equation between values. -/
import Derived.Test.YtocmlaipoebfeaaGreatVm3
import Derived.Scope
set_option linter.all false
section
namespace VM
open Go
variable{P:Program}{E:Env}{o:Oper}{a:Act}{w:World}{M:Nat→Prop}{ν:Nat→Value}{σ:St}{c:Ctx}{α:Type}{r:α}{next:Act→World→Prop}{Q:Exit→Act→World→Prop}
theorem Mem.call{H:Nat→Option bl}(h:Mem c H w M ν){hs:List Nat}{M0 M':Nat→Prop}{w':World}(hM: ∀b,M0 b→M b)(hhs: ∀b∈hs,M b)
  (uN: ∀b∈hs,∀i e,H i=some e→e.mut→fI (ν i)≠some b) (lN: ∀b∈hs,c.B≤b∨c.may b) (wB: ∀b∈hs,c.M0 b→M' b) (L:Left w M0 hs w' M'):
  Mem c H w' (λb=>M' b∨(M b∧b∉hs)) ν∧fi w M w' (λb=>M' b∨(M b∧b∉hs)):=by
 have hk:fi w M w' (λb=>M' b∨(M b∧b∉hs)):=by
  refine⟨L.size,λb hb hm=>L.frame b hb (λhh=>hm (hhs b hh)),λb hb hm=> ?_⟩
  rcases hm with hm|hm
  ·exact(L.less b hb hm).elim (hM b) (hhs b)
  ·exact hm.1
 refine⟨⟨λi e hi=>(h.ll i e hi).cm hk λhm b hb=> ?_,h.AB,h.new,h.zj,rT h (λ_ _=>rfl) (λ_ h=>h) (λi τ x p j hi=> .inl ⟨hi,λb hb=> ?_⟩),λb hb=> ?_,λb hb=> ?_,λb hb hm=> ?_,ct h.size L.size,h.wN,L.os.trans h.os,L.tape.trans h.tape,L.output.trans h.output⟩,hk⟩
 ·have hMb:=(h.ll i e hi).yI hm hb
  have AJ:b∉hs:=λhh=>uN b hh i e hi hm hb
  exact⟨L.frame b (h.FJ b hMb) AJ,.inr ⟨hMb,AJ⟩⟩
 ·have xj:fI (ν i)=some b:=by rw[hb];rfl
  have hMb:=(h.ll i _ hi).yI trivial xj
  exact L.frame b (h.FJ b hMb) (λhh=>uN b hh i _ hi trivial xj)
 ·by_cases hh:b∈hs
  ·exact .inl (wB b hh hb)
  ·exact .inr ⟨h.sub b hb,hh⟩
 ·rcases hb with hb|hb
  ·exact L.FJ b hb
  ·exact nc (h.FJ b hb.1) L.size
 ·have AJ:b∉hs:=λhh=>(lN b hh).elim (λh'=>ω) hm
  rw[L.frame b (nc hb h.size) AJ]
  exact h.frame b hb hm
theorem Mem.yZ{H:Nat→Option bl}(h:Mem c H w M ν){id:Nat}{v:Value}{e:bl}(bo: ∀e',H id=some e'→ ¬e'.mut)(UX:ER w M v e)
  (hd: ∀b,fI v=some b→ ∀i e',H i=some e'→e'.mut→fI (ν i)≠some b) (hn: ∀b,fI v=some b→c.B≤b∨c.may b) (ho: ∀b e0 l0,e= .own e0 l0→fI v=some b→ ¬c.M0 b)
  (hnv:H id=none∨v=ν id)
  (tV: ∀τ x p j,e= .ga τ x p j→bZ H id (some e) j≠none∧ ∃b,v= .pointer (some ⟨b,0,none⟩)∧w.cell? ⟨b,cJ p τ,none⟩=some (dr ν id v j):=by intro _ _ _ _ h;cases h):
  Mem c (bZ H id (some e)) w M (dr ν id v):=by
 have hν: ∀i,i≠id→dr ν id v i=ν i:=λi hi=>by simp[dr,hi]
 have D3:dr ν id v id=v:=by simp[dr]
 refine⟨λi e1 hi=> ?_,λi k e1 e2 b1 qB hi uK hk yY=> ?_,λi e1 b1 hi uK=> ?_,λi e1 l1 b1 hi=> ?_,rT h (λi hi=> ?_) yj (λi τ x p j hi=> ?_),h.sub,h.FJ,h.frame,h.size,h.wN,h.os,h.tape,h.output⟩
 ·by_cases bY:i=id
  ·subst bY;rw[ay]at hi;cases hi;rw[D3];exact UX
  ·rw[az _ _ bY]at hi;rw[hν i bY];exact h.ll i e1 hi
 ·by_cases bY:i=id
  ·subst bY;rw[D3]
   have Nn:k≠i:=eU qB
   rw[az _ _ Nn]at hk;rw[hν k Nn]
   intro mJ
   exact hd b1 mJ k e2 hk yY
  ·rw[az _ _ bY]at hi;rw[hν i bY]
   by_cases Nn:k=id
   ·subst Nn;rw[D3]
    intro mJ uM
    exact hd b1 uM i e1 hi uK mJ
   ·rw[az _ _ Nn]at hk;rw[hν k Nn];exact h.AB i k e1 e2 b1 qB hi uK hk yY
 ·by_cases bY:i=id
  ·subst bY;rw[D3];exact hn b1
  ·rw[az _ _ bY]at hi;rw[hν i bY];exact h.new i e1 b1 hi uK
 ·by_cases bY:i=id
  ·subst bY;rw[ay]at hi;cases hi;rw[D3];exact ho b1 e1 l1 rfl
  ·rw[az _ _ bY]at hi;rw[hν i bY];exact h.zj i e1 l1 b1 hi
 ·by_cases bY:i=id
  ·subst bY
   rcases hnv with hnv|hnv
   ·exact absurd hnv hi
   ·rw[D3,hnv]
  ·exact hν i bY
 ·by_cases bY:i=id
  ·subst bY
   rw[ay]at hi
   cases hi
   obtain⟨h1,b,h2,h3⟩:=tV _ _ _ _ rfl
   exact .inr ⟨h1,b,by rw[D3];exact h2,h3⟩
  ·rw[az _ _ bY]at hi
   exact .inl ⟨hi,λ_ _=>rfl⟩
theorem Va{m:AM}{ms:List AM}(x:HP (m::ms))(id:Nat)(io:List (Nat×AM)):
  jX (m::ms) x id io=match m,ur x,io with
   | .io τ,y,(j,_)::io=>((jX ms (yM x) (id+1) io).1,(j,some (.obj τ y))::(jX ms (yM x) (id+1) io).2.1,(jX ms (yM x) (id+1) io).2.2)
   | .lo e,y,(j,_)::io=>((jX ms (yM x) (id+1) io).1,(j,some (.own e y))::(jX ms (yM x) (id+1) io).2.1,(jX ms (yM x) (id+1) io).2.2)
   |m,y,io=>((KN m y id).1::(jX ms (yM x) (id+1) io).1,(KN m y id).2++(jX ms (yM x) (id+1) io).2.1,(jX ms (yM x) (id+1) io).2.2):=by
 cases ms with
 |nil=>cases m<;>cases io<;>simp[jX,ur]
 |cons n ms=>cases m<;>cases io<;>simp[jX,ur,yM]
theorem mL{l1 l2:List Nat}{b:Nat}(h:(l1++l2).Nodup)(h1:b∈l1):b∉l2:=λh2=>(ni.1 h).2.2 b h1 b h2 rfl
theorem RR.K5: ∀{ms:List AM} {x:HP ms} {us ps:List Value},RR w M ms x us ps→ ∀p∈ps,∀b,fI p=some b→b∈bK ms us ps
 |[],_,_,_,h,p,hp,_,_=>by simp only[RR]at h;rw[h.2]at hp;simp at hp
 |m::ms,x,us,ps,h,p,hp,b,hb=>by
  simp only[RR]at h
  rcases h with⟨p',H9,h1,rfl,h2,h3⟩|⟨v,K4,h1,h2,rfl,h3,h4⟩
  ·simp only[bK,h1,gB,uy,uz,bk]
   rcases aZ.1 hp with rfl|hp
   ·left
    cases m<;>simp[AM.iJ]at h1<;>simp[dh,hb]
   ·exact .inr (RR.K5 h3 p hp b hb)
  ·simp only[bK,h1,jd,fc,uy,uz,bk]
   exact .inr (RR.K5 h4 p hp b hb)
theorem oB{hs:List Nat}{sz:Nat}: ∀{ms:List AM} {x:HP ms} {us ps:List Value} {id:Nat} {io:List (Nat×AM)} {H:Nat→Option bl} {ν:Nat→Value} {used:List Nat},
  Mem c H w M ν→RR w M ms x us ps→ps=io.map (λq=>ν q.1)→nH ms=io.map (·.2)→(keys io).Nodup→(∀q∈io,H q.1=some .gone)→(∀i,id≤i→i<id+ms.length→H i=none)→
  (∀i e b,H i=some e→e.mut→fI (ν i)=some b→(b<sz∧b∉hs)∨b∈used)→(used++bK ms us ps).Nodup→(∀b∈bK ms us ps,sz≤b∨b∈hs)→
  (∀b∈bK ms us ps,(c.B≤b∨c.may b))→(∀b∈bK ms us ps,c.M0 b→ ∃p∈ps,fI p=some b)→
  (∀q∈io,∀e,q.2= .lo e→ ∀b,fI (ν q.1)=some b→ ¬c.M0 b)→
  ∃ν',Mem c (c9 H (jX ms x id io).2.1) w M ν'∧ju w M (c9 H (jX ms x id io).2.1) ν' (jX ms x id io).1 us∧(∀i,H i≠none→ν' i=ν i)∧
   (∀i,i∉keys io→(i<id∨id+ms.length≤i)→c9 H (jX ms x id io).2.1 i=H i)∧(∀i,id≤i→i<id+ms.length→ ∀e,c9 H (jX ms x id io).2.1 i=some e→(∃e0 l0,e= .own e0 l0)∨ ∃τ0 z0,e= .obj τ0 z0)∧
   (∀q∈io,IoE (c9 H (jX ms x id io).2.1) q)
 |[],x,us,ps,id,io,H,ν,used,hm,hr,K2,FR,Eb,B8,jv,hold,yN,qd,lN,I6,yL=>by
  simp only[RR]at hr
  obtain⟨rfl,rfl⟩:=hr
  have wB:io=[]:=by
   cases io with
   |nil=>rfl
   |cons q io=>simp at K2
  subst wB
  exact⟨ν,hm,by simp[jX,ju],λ_ _=>rfl,λ_ _ _=>rfl,λi h1 h2=>by simp at h2;omega,λq hq=>by simp at hq⟩
 |m::ms,x,us,ps,id,io,H,ν,used,hm,hr,K2,FR,Eb,B8,jv,hold,yN,qd,lN,I6,yL=>by
  rw[Va]
  simp only[RR]at hr
  rcases hr with⟨p,H9,Iv,rfl,h1,h2⟩|⟨v,K4,Iv,hmf,rfl,h1,h2⟩
  ·
   cases m with
   |io τ=>
    cases io with
    |nil=>simp at K2
    |cons q io=>
     simp only[bR,fu]at K2
     obtain⟨rfl,rfl⟩:=K2
     simp only[nH,bR,fu]at FR
     obtain⟨abS,ajO⟩:=FR
     simp only[keys,bR,Al]at Eb
     have hbr:bK (.io τ::ms) us (ν q.1::io.map λq=>ν q.1)=(fI (ν q.1)).toList++bK ms us (io.map λq=>ν q.1):=rfl
     rw[hbr]at yN qd lN I6
     have wT:=B8 q bh
     have F0:q.1<id∨id+(ms.length+1)≤q.1:=by
      rcases nv q.1 id with h'|h'
      ·exact .inl h'
      ·rcases nv q.1 (id+(ms.length+1))with K6|K6
       ·rw[jv q.1 h' K6]at wT;cases wT
       ·exact .inr K6
     simp only[A1]at h1
     have rY: ∀b,fI (ν q.1)=some b→ ∀i e',H i=some e'→e'.mut→fI (ν i)≠some b:=by
      intro b hb i e' hi jY fg
      have lj:b∈(fI (ν q.1)).toList++bK ms us (io.map λq=>ν q.1):=c3 _ (by rw[hb];simp)
      rcases hold i e' b hi jY fg with⟨h3,h4⟩|h3
      ·exact(qd b lj).elim (λh'=>ω) h4
      ·exact mL yN h3 lj
     have yY:=Mem.yZ (c:=c) hm (id:=q.1) (v:=ν q.1) (e:= .obj τ (ur x)) (λe' xi=>by rw[wT]at xi;cases xi;simp[bl.mut]) h1 rY (λb hb=>lN b (c3 _ (by rw[hb];simp))) (λb e0 l0 he=>by cases he) (.inr rfl)
     have hνe:dr ν q.1 (ν q.1)=ν:=by funext i;unfold dr;split<;>simp_all
     rw[hνe]at yY
     have ajP: ∀(q':Nat×AM),q'∈io→q'.1≠q.1:=λq' lC e=>Eb.1 (cL.2 ⟨q',lC,e⟩)
     obtain⟨ν',r1,r2,r3,r4,r5,r6⟩:=oB (ms:=ms) (x:=yM x) (us:=us) (ps:=io.map λq=>ν q.1) (id:=id+1) (io:=io) (used:=used++(fI (ν q.1)).toList) yY h2 rfl ajO Eb.2
      (λq' lC=>by rw[az _ _ (ajP q' lC)];exact B8 q' (a7 _ lC))
      (λi h3 h4=>by
       have:i≠q.1:=ω
       rw[az _ _ this]
       exact jv i ω (by simp only[aR];omega))
      (λi e b hi jY hb=>by
       by_cases bY:i=q.1
       ·subst bY;exact .inr (dK _ (by rw[hb];simp))
       ·rw[az _ _ bY]at hi
        exact(hold i e b hi jY hb).imp (λh=>h) (c3 _))
      (by rw[bH];exact yN) (λb hb=>qd b (dK _ hb)) (λb hb=>lN b (dK _ hb))
      (λb hb hb0=>by
       obtain⟨p,hp,hpb⟩:=I6 b (dK _ hb) hb0
       rcases aZ.1 hp with rfl|hp
       ·exact absurd (mL (ni.1 yN).2.1 (b:=b) (by rw[hpb];simp)) (by simpa using hb)
       ·exact⟨p,hp,hpb⟩) (λq' lC=>yL q' (a7 _ lC))
     refine⟨ν',r1,r2,λi hi=> ?_,λi h3 h4=> ?_,λi h3 h4 e he=> ?_,λq' lC=> ?_⟩
     ·exact r3 i (by
       by_cases bY:i=q.1
       ·subst bY;rw[ay];simp
       ·rw[az _ _ bY];exact hi)
     ·simp only[keys,bR,aZ,not_or]at h3
      have:=r4 i h3.2 (by simp only[aR]at h4;omega)
      rw[az _ _ h3.1]at this
      exact this
     ·by_cases h5:id+1≤i
      ·exact r5 i h5 (by simp only[aR]at h4;omega) e he
      ·have bY:i=id:=ω
       subst bY
       by_cases hk:i∈keys io
       ·obtain⟨q',lC,Ia⟩:=cL.1 hk
        have h9:=B8 q' (a7 _ lC)
        rw[Ia,jv i (aH _) (by simp)]at h9
        cases h9
       ·have:=r4 i hk (.inl ω)
        have iI:i≠q.1:=ω
        rw[az _ _ iI,jv i (aH _) (by simp)]at this
        have he:c9 (bZ H q.1 (some (bl.obj τ (ur x)))) (jX ms (yM x) (i+1) io).2.1 i=some e:=he
        rw[this]at he;cases he
     ·rcases aZ.1 lC with rfl|lC
      ·have:=r4 q'.1 Eb.1 ω
       rw[ay]at this
       exact .inl ⟨τ,ur x,abS.symm,this⟩
      ·exact r6 q' lC
   |lo τ=>
    cases io with
    |nil=>simp at K2
    |cons q io=>
     simp only[bR,fu]at K2
     obtain⟨rfl,rfl⟩:=K2
     simp only[nH,bR,fu]at FR
     obtain⟨abS,ajO⟩:=FR
     simp only[keys,bR,Al]at Eb
     have hbr:bK (.lo τ::ms) us (ν q.1::io.map λq=>ν q.1)=(fI (ν q.1)).toList++bK ms us (io.map λq=>ν q.1):=rfl
     rw[hbr]at yN qd lN I6
     have wT:=B8 q bh
     have F0:q.1<id∨id+(ms.length+1)≤q.1:=by
      rcases nv q.1 id with h'|h'
      ·exact .inl h'
      ·rcases nv q.1 (id+(ms.length+1))with K6|K6
       ·rw[jv q.1 h' K6]at wT;cases wT
       ·exact .inr K6
     simp only[A1]at h1
     have rY: ∀b,fI (ν q.1)=some b→ ∀i e',H i=some e'→e'.mut→fI (ν i)≠some b:=by
      intro b hb i e' hi jY fg
      have lj:b∈(fI (ν q.1)).toList++bK ms us (io.map λq=>ν q.1):=c3 _ (by rw[hb];simp)
      rcases hold i e' b hi jY fg with⟨h3,h4⟩|h3
      ·exact(qd b lj).elim (λh'=>ω) h4
      ·exact mL yN h3 lj
     have yY:=Mem.yZ (c:=c) hm (id:=q.1) (v:=ν q.1) (e:= .own τ (ur x)) (λe' xi=>by rw[wT]at xi;cases xi;simp[bl.mut]) h1 rY (λb hb=>lN b (c3 _ (by rw[hb];simp))) (λb e0 l0 _ hb=>yL q bh τ abS.symm b hb) (.inr rfl)
     have hνe:dr ν q.1 (ν q.1)=ν:=by funext i;unfold dr;split<;>simp_all
     rw[hνe]at yY
     have ajP: ∀(q':Nat×AM),q'∈io→q'.1≠q.1:=λq' lC e=>Eb.1 (cL.2 ⟨q',lC,e⟩)
     obtain⟨ν',r1,r2,r3,r4,r5,r6⟩:=oB (ms:=ms) (x:=yM x) (us:=us) (ps:=io.map λq=>ν q.1) (id:=id+1) (io:=io) (used:=used++(fI (ν q.1)).toList) yY h2 rfl ajO Eb.2
      (λq' lC=>by rw[az _ _ (ajP q' lC)];exact B8 q' (a7 _ lC))
      (λi h3 h4=>by
       have:i≠q.1:=ω
       rw[az _ _ this]
       exact jv i ω (by simp only[aR];omega))
      (λi e b hi jY hb=>by
       by_cases bY:i=q.1
       ·subst bY;exact .inr (dK _ (by rw[hb];simp))
       ·rw[az _ _ bY]at hi
        exact(hold i e b hi jY hb).imp (λh=>h) (c3 _))
      (by rw[bH];exact yN) (λb hb=>qd b (dK _ hb)) (λb hb=>lN b (dK _ hb))
      (λb hb hb0=>by
       obtain⟨p,hp,hpb⟩:=I6 b (dK _ hb) hb0
       rcases aZ.1 hp with rfl|hp
       ·exact absurd (mL (ni.1 yN).2.1 (b:=b) (by rw[hpb];simp)) (by simpa using hb)
       ·exact⟨p,hp,hpb⟩) (λq' lC=>yL q' (a7 _ lC))
     refine⟨ν',r1,r2,λi hi=> ?_,λi h3 h4=> ?_,λi h3 h4 e he=> ?_,λq' lC=> ?_⟩
     ·exact r3 i (by
       by_cases bY:i=q.1
       ·subst bY;rw[ay];simp
       ·rw[az _ _ bY];exact hi)
     ·simp only[keys,bR,aZ,not_or]at h3
      have:=r4 i h3.2 (by simp only[aR]at h4;omega)
      rw[az _ _ h3.1]at this
      exact this
     ·by_cases h5:id+1≤i
      ·exact r5 i h5 (by simp only[aR]at h4;omega) e he
      ·have bY:i=id:=ω
       subst bY
       by_cases hk:i∈keys io
       ·obtain⟨q',lC,Ia⟩:=cL.1 hk
        have h9:=B8 q' (a7 _ lC)
        rw[Ia,jv i (aH _) (by simp)]at h9
        cases h9
       ·have:=r4 i hk (.inl ω)
        have iI:i≠q.1:=ω
        rw[az _ _ iI,jv i (aH _) (by simp)]at this
        have he:c9 (bZ H q.1 (some (bl.own τ (ur x)))) (jX ms (yM x) (i+1) io).2.1 i=some e:=he
        rw[this]at he;cases he
     ·rcases aZ.1 lC with rfl|lC
      ·have:=r4 q'.1 Eb.1 ω
       rw[ay]at this
       exact .inr ⟨τ,ur x,abS.symm,this⟩
      ·exact r6 q' lC
   |v τ=>simp[AM.iJ]at Iv
   |own τ=>simp[AM.iJ]at Iv
   |fn f τ=>simp[AM.iJ]at Iv
   |ptr τ=>simp[AM.iJ]at Iv
   |jr τ=>simp[AM.iJ]at Iv
  ·
   have Iw:H id=none:=jv id (aH _) (by simp)
   cases m with
   |io τ=>simp[AM.iJ]at Iv
   |lo τ=>simp[AM.iJ]at Iv
   |fn f τ=>simp[AM.abO]at hmf
   |jr τ=>simp[AM.abO]at hmf
   |v τ=>
    have hbr:bK (.v τ::ms) (v::K4) ps=bK ms K4 ps:=rfl
    rw[hbr]at yN qd lN I6
    simp only[A1]at h1
    obtain⟨ν',r1,r2,r3,r4,r5,r6⟩:=oB (ms:=ms) (x:=yM x) (us:=K4) (ps:=ps) (id:=id+1) (io:=io) (used:=used) hm h2 K2 (by simpa [nH]using FR) Eb B8 (λi h3 h4=>jv i ω (by simp only[aR];omega)) hold yN qd lN I6 yL
    refine⟨ν',r1,?_,r3,λi h3 h4=>r4 i h3 (by simp only[aR]at h4;omega),λi h3 h4 e he=> ?_,r6⟩
    ·simp only[KN,ju,VR];exact⟨h1,r2⟩
    ·by_cases h5:id+1≤i
     ·exact r5 i h5 (by simp only[aR]at h4;omega) e he
     ·have bY:i=id:=ω
      subst bY
      by_cases hk:i∈keys io
      ·obtain⟨q',lC,Ia⟩:=cL.1 hk
       have h9:=B8 q' lC
       rw[Ia,Iw]at h9;cases h9
      ·have:=r4 i hk (.inl ω)
       rw[Iw]at this
       have he:c9 H (jX ms (yM x) (i+1) io).2.1 i=some e:=he
       rw[this]at he;cases he
   |own τ=>
    have hbr:bK (.own τ::ms) (v::K4) ps=(fI v).toList++bK ms K4 ps:=rfl
    rw[hbr]at yN qd lN I6
    simp only[A1]at h1
    have rY: ∀b,fI v=some b→ ∀i e',H i=some e'→e'.mut→fI (ν i)≠some b:=by
     intro b hb i e' hi jY fg
     have lj:b∈(fI v).toList++bK ms K4 ps:=c3 _ (by rw[hb];simp)
     rcases hold i e' b hi jY fg with⟨h3,h4⟩|h3
     ·exact(qd b lj).elim (λh'=>ω) h4
     ·exact mL yN h3 lj
    have ao2: ∀b,fI v=some b→ ¬c.M0 b:=by
     intro b hb h0
     have lj:b∈(fI v).toList:=by rw[hb];simp
     obtain⟨p,hp,hpb⟩:=I6 b (c3 _ lj) h0
     exact mL (ni.1 yN).2.1 lj (RR.K5 h2 p hp b hpb)
    have yY:=Mem.yZ (c:=c) hm (id:=id) (v:=v) (e:= .own τ (ur x)) (λe' xi=>by rw[Iw]at xi;cases xi) h1 rY (λb hb=>lN b (c3 _ (by rw[hb];simp))) (λb e0 l0 _ hb=>ao2 b hb) (.inl Iw)
    have F0: ∀q∈io,q.1≠id:=λq hq e=>by
     have h9:=B8 q hq
     rw[e,Iw]at h9;cases h9
    have hν2: ∀i,i≠id→dr ν id v i=ν i:=λi hi=>by simp[dr,hi]
    obtain⟨ν',r1,r2,r3,r4,r5,r6⟩:=oB (ms:=ms) (x:=yM x) (us:=K4) (ps:=ps) (id:=id+1) (io:=io) (used:=used++(fI v).toList) yY h2
     (by rw[K2];exact rC λq hq=>(hν2 _ (F0 q hq)).symm) (by simpa [nH]using FR) Eb
     (λq hq=>by rw[az _ _ (F0 q hq)];exact B8 q hq)
     (λi h3 h4=>by rw[az _ _ ω];exact jv i ω (by simp only[aR];omega))
     (λi e b hi jY hb=>by
      by_cases bY:i=id
      ·subst bY
       have:dr ν i v i=v:=by simp[dr]
       rw[this]at hb
       exact .inr (dK _ (by rw[hb];simp))
      ·rw[az _ _ bY]at hi
       rw[hν2 i bY]at hb
       exact(hold i e b hi jY hb).imp (λh=>h) (c3 _))
     (by rw[bH];exact yN) (λb hb=>qd b (dK _ hb)) (λb hb=>lN b (dK _ hb)) (λb hb=>I6 b (dK _ hb)) (λq hq e he b hb=>yL q hq e he b (by rw[hν2 _ (F0 q hq)]at hb;exact hb))
    have ajR:id∉keys io:=λhk=>by
     obtain⟨q,hq,Ia⟩:=cL.1 hk
     exact F0 q hq Ia
    have qa:c9 (bZ H id (some (.own τ (ur x)))) (jX ms (yM x) (id+1) io).2.1 id=some (.own τ (ur x)):=by
     rw[r4 id ajR (.inl ω),ay]
    refine⟨ν',r1,?_,λi hi=> ?_,λi h3 h4=> ?_,λi h3 h4 e he=> ?_,r6⟩
    ·simp only[KN,ju,VR]
     refine⟨⟨?_,?_⟩,r2⟩
     ·show c9 (bZ H id (some (.own τ (ur x)))) (jX ms (yM x) (id+1) io).2.1 id≠none
      rw[qa];simp
     ·rw[r3 id (by rw[ay];simp)];simp[dr]
    ·have bY:i≠id:=λe=>hi (e▸Iw)
     rw[r3 i (by rw[az _ _ bY];exact hi),hν2 i bY]
    ·have bY:i≠id:=by simp only[aR]at h4;omega
     have:=r4 i h3 (by simp only[aR]at h4;omega)
     rw[az _ _ bY]at this
     exact this
    ·by_cases h5:id+1≤i
     ·exact r5 i h5 (by simp only[aR]at h4;omega) e he
     ·have bY:i=id:=ω
      subst bY
      have he:c9 (bZ H i (some (.own τ (ur x)))) (jX ms (yM x) (i+1) io).2.1 i=some e:=he
      rw[qa]at he;cases he
      exact .inl ⟨τ,_,rfl⟩
   |ptr τ=>
    have hbr:bK (.ptr τ::ms) (v::K4) ps=(fI v).toList++bK ms K4 ps:=rfl
    rw[hbr]at yN qd lN I6
    simp only[A1]at h1
    have rY: ∀b,fI v=some b→ ∀i e',H i=some e'→e'.mut→fI (ν i)≠some b:=by
     intro b hb i e' hi jY fg
     have lj:b∈(fI v).toList++bK ms K4 ps:=c3 _ (by rw[hb];simp)
     rcases hold i e' b hi jY fg with⟨h3,h4⟩|h3
     ·exact(qd b lj).elim (λh'=>ω) h4
     ·exact mL yN h3 lj
    have yY:=Mem.yZ (c:=c) hm (id:=id) (v:=v) (e:= .obj τ (ur x)) (λe' xi=>by rw[Iw]at xi;cases xi) h1 rY (λb hb=>lN b (c3 _ (by rw[hb];simp))) (λb e0 l0 he _=>by cases he) (.inl Iw)
    have F0: ∀q∈io,q.1≠id:=λq hq e=>by
     have h9:=B8 q hq
     rw[e,Iw]at h9;cases h9
    have hν2: ∀i,i≠id→dr ν id v i=ν i:=λi hi=>by simp[dr,hi]
    obtain⟨ν',r1,r2,r3,r4,r5,r6⟩:=oB (ms:=ms) (x:=yM x) (us:=K4) (ps:=ps) (id:=id+1) (io:=io) (used:=used++(fI v).toList) yY h2
     (by rw[K2];exact rC λq hq=>(hν2 _ (F0 q hq)).symm) (by simpa [nH]using FR) Eb
     (λq hq=>by rw[az _ _ (F0 q hq)];exact B8 q hq)
     (λi h3 h4=>by rw[az _ _ ω];exact jv i ω (by simp only[aR];omega))
     (λi e b hi jY hb=>by
      by_cases bY:i=id
      ·subst bY
       have:dr ν i v i=v:=by simp[dr]
       rw[this]at hb
       exact .inr (dK _ (by rw[hb];simp))
      ·rw[az _ _ bY]at hi
       rw[hν2 i bY]at hb
       exact(hold i e b hi jY hb).imp (λh=>h) (c3 _))
     (by rw[bH];exact yN) (λb hb=>qd b (dK _ hb)) (λb hb=>lN b (dK _ hb)) (λb hb=>I6 b (dK _ hb)) (λq hq e he b hb=>yL q hq e he b (by rw[hν2 _ (F0 q hq)]at hb;exact hb))
    have ajR:id∉keys io:=λhk=>by
     obtain⟨q,hq,Ia⟩:=cL.1 hk
     exact F0 q hq Ia
    have qa:c9 (bZ H id (some (.obj τ (ur x)))) (jX ms (yM x) (id+1) io).2.1 id=some (.obj τ (ur x)):=by
     rw[r4 id ajR (.inl ω),ay]
    refine⟨ν',r1,?_,λi hi=> ?_,λi h3 h4=> ?_,λi h3 h4 e he=> ?_,r6⟩
    ·simp only[KN,ju,VR]
     refine⟨⟨_,qa,trivial,?_⟩,r2⟩
     simp only[A1,ER]at h1
     obtain⟨b,cs,t,XR,_⟩:=h1
     exact⟨b,by rw[r3 id (by rw[ay];simp)];simp[dr,XR],XR⟩
    ·have bY:i≠id:=λe=>hi (e▸Iw)
     rw[r3 i (by rw[az _ _ bY];exact hi),hν2 i bY]
    ·have bY:i≠id:=by simp only[aR]at h4;omega
     have:=r4 i h3 (by simp only[aR]at h4;omega)
     rw[az _ _ bY]at this
     exact this
    ·by_cases h5:id+1≤i
     ·exact r5 i h5 (by simp only[aR]at h4;omega) e he
     ·have bY:i=id:=ω
      subst bY
      have he:c9 (bZ H i (some (.obj τ (ur x)))) (jX ms (yM x) (i+1) io).2.1 i=some e:=he
      rw[qa]at he;cases he
      exact .inr ⟨τ,_,rfl⟩
end VM
end
section
namespace VM
open Go
variable{P:Program}{E:Env}{o:Oper}{a:Act}{w:World}{M:Nat→Prop}{ν:Nat→Value}{σ:St}{c:Ctx}{α:Type}{r:α}{next:Act→World→Prop}{Q:Exit→Act→World→Prop}
theorem NH{i:Nat}: ∀{ups:ja} {H:Nat→Option bl},i∈keys ups→ ∃u∈ups,u.1=i∧c9 H ups i=u.2
 |[],_,h=>by simp[keys]at h
 |u::r,H,h=>by
  by_cases hk:i∈keys r
  ·obtain⟨v,h1,h2,h3⟩:=NH (H:=bZ H u.1 u.2) hk
   exact⟨v,a7 _ h1,h2,h3⟩
  ·have hi:i=u.1:=by
    simp only[keys,bR,aZ]at h hk
    exact h.resolve_right hk
   refine⟨u,bh,hi.symm,?_⟩
   show c9 (bZ H u.1 u.2) r i=_
   rw[lM hk,hi,ay]
theorem F1: ∀{ups:ja} {H H':Nat→Option bl},(∀i,i∉keys ups→H i=H' i)→c9 H ups=c9 H' ups
 |[],H,H',h=>funext λi=>h i (by simp[keys])
 |u::r,H,H',h=>by
  refine F1 (ups:=r) λi hi=> ?_
  by_cases hu:i=u.1
  ·subst hu;rw[ay,ay]
  ·rw[az _ _ hu,az _ _ hu]
   exact h i (by simp only[keys,bR,aZ,not_or];exact⟨hu,hi⟩)
theorem ER.len{v:Value}{e:Ty}{l:List e.den}(h:ER w M v (.own e l)): ∃ad cap,v= .slice ad l.length cap:=by
 simp only[ER]at h
 rcases h with⟨rfl,ad,rfl⟩|⟨b,cs,t,cap,h1,_⟩
 ·exact⟨ad,0,rfl⟩
 ·exact⟨_,cap,h1⟩
theorem RR.rZ: ∀{ms:List AM} {x:HP ms} {us ps:List Value},RR w M ms x us ps→ ∀b∈bK ms us ps,M b
 |[],_,_,_,_,b,hb=>by simp[bK]at hb
 |m::ms,x,us,ps,h,b,hb=>by
  simp only[RR]at h
  rcases h with⟨p,H9,h1,rfl,h2,h3⟩|⟨v,K4,h1,h2,rfl,h3,h4⟩
  ·simp only[bK,h1,gB,uy,uz,bk]at hb
   rcases hb with hb|hb
   ·cases m<;>simp[AM.iJ]at h1<;>(simp only[dh,fp,A1]at hb h2;exact h2.yI trivial hb)
   ·exact RR.rZ h3 b hb
  ·simp only[bK,h1,jd,fc,uy,uz,bk]at hb
   rcases hb with hb|hb
   ·cases m with
    |own e=>
     simp only[dh,fp,A1]at hb h3
     exact h3.yI trivial hb
    |v _=>simp[dh]at hb
    |io _=>simp[AM.iJ]at h1
    |lo _=>simp[AM.iJ]at h1
    |fn _ _=>simp[dh]at hb
    |jr _=>simp[dh]at hb
    |ptr τ=>
     simp only[dh,fp,A1]at hb h3
     exact h3.yI trivial hb
   ·exact RR.rZ h4 b hb
theorem Jg: ∀{l:List lI} {qK:List bI} {S:lI},Nl l qK=some S→S∈l
 |[],_,_,h=>by simp[Nl]at h
 |T::l,qK,S,h=>by
  unfold Nl at h
  cases hf:fits T.args qK
  ·rw[hf]at h;exact a7 _ (Jg h)
  ·rw[hf]at h;cases h;exact bh
theorem Df{H:Nat→Option bl}{id:Nat}: ∀{n:Nat},vv H id n=true→ ∀i,id≤i→i<id+n→H i=none
 |0,_,i,h1,h2=>ω
 |n+1,h,i,h1,h2=>by
  unfold vv at h
  rw[bB]at h
  by_cases hi:i=id+n
  ·subst hi
   have h:=h.1
   split at h
   ·assumption
   ·cases h
  ·exact Df h.2 i h1 ω
theorem XS{H:Nat→Option bl}{qK:List bI}{us:List Value}(h:ju w M H ν qK us):VR w M H ν (Nj qK) (xr us):=by
 match qK,us,h with
 |[],[],_=>simp[Nj,VR]
 |[a],[u],h=>simp only[ju,ec]at h;simpa [Nj,xr]using h
 |a::b::qK,u::v::us,h=>
  simp only[Nj,VR]
  exact⟨u::v::us,by simp[xr],h⟩
 |[],_::_,h=>simp[ju]at h
 |_::_,[],h=>simp[ju]at h
 |[_],_::_::_,h=>simp[ju]at h
 |_::_::_,[_],h=>simp[ju]at h
theorem NI(hΓ: ∀f S,S∈E.Γ f→ix P f S){H:Nat→Option bl}(hm:Mem c H w M ν){f id:Nat}{qK:List bI}{vs:List Value}(hv:ju w M H ν qK vs){K:jg α}(h:C1 E f qK id H K=some r)
  {R:Value→World→Prop} (hR: ∀v rd ups v' w' M' ν',K v rd ups=some r→Tr c H w M ν (c9 H ups) w' M' ν'→VR w' M' (c9 H ups) ν' v v'→R v' w'):
  ND P f vs.toArray w R:=by
 unfold C1 at h
 split at h
 ·cases h
 rename_i S hS
 have Xh:=hΓ f S (Jg hS)
 obtain⟨x,rd,uo,uf,io,H2,Hq,M2,h1,hA,hK,ao3,hi1,Xg⟩:=De (jN.start hm) hv h
 clear h
 simp only[cW,gQ]at hA hi1 Xg
 obtain⟨y,hy,h1⟩:=uv.1 h1
 obtain⟨jv,h1⟩:=cF h1
 have jv:=Df jv
 have auX:(λb=>(M2 b∧b∉dX S.args vs)∨b∈dX S.args vs)=M2:=by
  funext b
  refine propext ⟨λh=>h.elim (·.1) (hA.hM b),λh=> ?_⟩
  by_cases hb:b∈dX S.args vs
  ·exact .inr hb
  ·exact .inl ⟨h,hb⟩
 refine ND.mono (Xh.call (λb=>M2 b∧b∉dX S.args vs) w vs x y (λb hb=>hA.mem.FJ b hb.1) (by rw[auX];exact ao3) hA.nd (λb hb h=>h.2 hb) hy) ?_
 rintro e w' ⟨us,M',rfl,Xi,hL,yN,hn0⟩
 have auY: ∀b∈dX S.args vs,c.M0 b→M' b:=by
  intro b hb h0
  obtain⟨q,hq,hqb⟩:=hA.iob b hb h0
  exact Xi.rZ b (Xi.K5 (ν q.1) (by rw[←hi1];exact fa hq) b hqb)
 have qd: ∀b∈bK S.res us (fx S.args vs),w.heap.size≤b∨b∈dX S.args vs:=by
  intro b hb
  rcases nv b w.heap.size with fj|hge
  ·exact .inr ((hL.less b fj (Xi.rZ b hb)).resolve_left (hn0 b hb))
  ·exact .inl hge
 have lN: ∀b∈bK S.res us (fx S.args vs),c.B≤b∨c.may b:=λb hb=>(qd b hb).elim (λh=> .inl (ct hm.size h)) (hA.NG b)
 have I6: ∀b∈bK S.res us (fx S.args vs),c.M0 b→ ∃p∈fx S.args vs,fI p=some b:=by
  intro b hb h0
  rcases qd b hb with h'|h'
  ·have:=hm.wN.1 b h0;have:=hm.size;omega
  ·obtain⟨q,hq,hqb⟩:=hA.iob b h' h0
   exact⟨ν q.1,by rw[←hi1];exact fa hq,hqb⟩
 have au0: ∀q∈io,∀e,q.2=AM.lo e→ ∀b,fI (ν q.1)=some b→ ¬c.M0 b:=by
  intro q hq e he b hb
  rcases(hA.U9 q hq).2.2 with⟨τ0,z0,wT,_⟩|⟨e0,z0,wT,Tz⟩
  ·rw[he]at wT;cases wT
  ·exact hm.zj q.1 e0 z0 b Tz hb
 have key: ∀(Hx:Nat→Option bl) (Mx:Nat→Prop) (U:ja),Mem c Hx w Mx ν→fi w M w Mx→(∀b,M2 b→Mx b)→(∀b∈dX S.args vs,∀i e,Hx i=some e→e.mut→fI (ν i)≠some b)→
   (∀q∈io,Hx q.1=some .gone)→(∀i,i∉keys io→c9 H (uo++U) i=Hx i)→(∀u∈uo++U,u.2=some .gone∨ ∃e l,u.2=some (.o8 e l)∧H u.1=some (.own e l))→(∀i∈keys (uo++U),i∈keys (uo++uf))→
   RR w' (λb=>M' b∨(Mx b∧b∉dX S.args vs)) S.res y us (fx S.args vs)→
   ∃ν',Tr c H w M ν (c9 H (uo++U++(jX S.res y id io).2.1)) w' (λb=>M' b∨(Mx b∧b∉dX S.args vs)) ν'∧
    ju w' (λb=>M' b∨(Mx b∧b∉dX S.args vs)) (c9 H (uo++U++(jX S.res y id io).2.1)) ν' (jX S.res y id io).1 us:=by
  intro Hx Mx U Rn hkx Vb uN NJ ajS F2 hU hrr
  obtain⟨lL,Jh⟩:=Rn.call (λb hb=>Vb b hb.1) (λb hb=>Vb b (hA.hM b hb)) uN hA.NG auY hL
  have hx: ∀i e,H i=some e→i∉keys io→ ∃e',Hx i=some e'∧e.lJ e':=by
   intro i e hi F3
   rw[←ajS i F3]
   by_cases hk:i∈keys (uo++U)
   ·obtain⟨u,hu,hui,huv⟩:=NH (H:=H) hk
    rw[huv]
    rcases F2 u hu with h'|⟨e1,l1,h',K6⟩
    ·exact⟨_,h',bl.kR e⟩
    ·rw[hui,hi]at K6;cases K6;exact⟨_,h',rfl,rfl⟩
   ·rw[lM hk];exact⟨e,hi,.refl e⟩
  have hfr: ∀i,id≤i→i<id+S.res.length→Hx i=none:=by
   intro i h3 h4
   have h0:=jv i h3 h4
   have F3:i∉keys io:=λhk=>by
    obtain⟨q,hq,Ia⟩:=cL.1 hk
    obtain⟨_,_,hz⟩:=hA.U9 q hq
    exact hz.some (by rw[Ia];exact h0)
   rw[←ajS i F3]
   rw[lM,h0]
   intro hk
   obtain⟨_,e,l,h'⟩:=hA.ksn i (hU i hk)
   rw[h0]at h';cases h'
  obtain⟨ν',r1,r2,r3,r4,r5,r6⟩:=oB (hs:=dX S.args vs) (sz:=w.heap.size) (id:=id) (used:=[]) lL hrr hi1.symm (by rw[←Xh.ios,←Xg]) hA.ion NJ hfr
   (λi e b hi hmu hb=> .inl ⟨Rn.FJ b ((Rn.ll i e hi).yI hmu hb),λhh=>uN b hh i e hi hmu hb⟩) (by simpa using yN) qd lN I6 au0
  have ajT:c9 H (uo++U++(jX S.res y id io).2.1)=c9 Hx (jX S.res y id io).2.1:=by
   rw[gl]
   refine F1 λi hi=> ?_
   by_cases F3:i∈keys io
   ·obtain⟨q,hq,Ia⟩:=cL.1 F3
    rcases r6 q hq with⟨τ,z,_,hz⟩|⟨e,z,_,hz⟩
    ·rw[Ia,lM hi,←Ia,NJ q hq]at hz;cases hz
    ·rw[Ia,lM hi,←Ia,NJ q hq]at hz;cases hz
   ·exact ajS i F3
  refine⟨ν',⟨by rw[ajT];exact r1,hkx.trans Jh,⟨λi e hi=> ?_,λi hi=> ?_⟩⟩,by rw[ajT];exact r2⟩
  ·rw[ajT]
   by_cases F3:i∈keys io
   ·obtain⟨q,hq,Ia⟩:=cL.1 F3
    obtain⟨_,_,hg0⟩:=hA.U9 q hq
    rcases r6 q hq with⟨τ,z,hq2,hz⟩|⟨e2,z,hq2,hz⟩
    ·rcases hg0 with⟨τ0,z0,wT,Tz⟩|⟨e0,z0,wT,Tz⟩
     ·rw[hq2]at wT;cases wT
      rw[Ia]at hz Tz
      rw[hi]at Tz;cases Tz
      exact⟨_,hz,rfl⟩
     ·rw[hq2]at wT;cases wT
    ·rcases hg0 with⟨τ0,z0,wT,Tz⟩|⟨e0,z0,wT,Tz⟩
     ·rw[hq2]at wT;cases wT
     ·rw[hq2]at wT;cases wT
      rw[Ia]at hz Tz
      rw[hi]at Tz;cases Tz
      refine⟨_,hz,rfl,?_⟩
      obtain⟨a1,c1,k1⟩:=ER.len (hm.ll i _ hi)
      obtain⟨a2,c2,k2⟩:=ER.len (r1.ll i _ hz)
      rw[r3 i (by rw[←Ia,NJ q hq];simp),k1]at k2
      simp only[Value.slice.injEq]at k2
      exact k2.2.1
   ·obtain⟨e',xi,hl⟩:=hx i e hi F3
    have hr:i<id∨id+S.res.length≤i:=by
     rcases nv i id with h'|h'
     ·exact .inl h'
     ·rcases nv i (id+S.res.length)with K6|K6
      ·rw[jv i h' K6]at hi;cases hi
      ·exact .inr K6
    exact⟨e',by rw[r4 i F3 hr];exact xi,hl⟩
  ·refine r3 i ?_
   obtain⟨e,he⟩:=E9.1 hi
   by_cases F3:i∈keys io
   ·obtain⟨q,hq,Ia⟩:=cL.1 F3
    rw[←Ia,NJ q hq];simp
   ·obtain⟨e',xi,_⟩:=hx i e he F3
    rw[xi];simp
 cases hq:S.quiet
 ·
  rw[hq]at h1
  have hMn:(λb=>M' b∨(M2 b∧b∉dX S.args vs))=M':=by
   funext b
   exact propext ⟨λh=>h.elim (λh=>h) (hL.sub b),.inl⟩
  obtain⟨ν',iw,hvr⟩:=key H2 M2 uf hA.mem hA.cm (λ_ h=>h) (λb hb i e hi hmu=>hA.none b hb i e (hA.fz.mut hi hmu) hmu) (λq hq=>(hA.U9 q hq).1) hA.ext
   (λu hu=>(bk.1 hu).elim (λh=> .inl (hA.uov u h)) (λh=> .inr (hA.ufv u h))) (λ_ h=>h) (by rw[hMn];exact Xi)
  exact hR _ _ _ _ _ _ _ h1 iw (XS hvr)
 ·rw[hq]at h1
  have Vb: ∀b,M2 b→M b:=λb hb=>hA.cm.less b (hA.mem.FJ b hb) hb
  obtain⟨ν',iw,hvr⟩:=key Hq M [] hA.NF (.refl w M) Vb hA.none (λq hq=>(hA.U9 q hq).2.1) (by rw[cH];exact hA.XQ)
   (λu hu=> .inl (hA.uov u (by simpa using hu))) (λi hi=>by simp only[keys,cH,dg,bk]at hi ⊢;exact .inl hi) (Xi.flat (λb h=> .inl h) (Xh.quiet hq))
  exact hR _ _ _ _ _ _ _ h1 iw (XS hvr)
theorem abV(hΓ: ∀f S,S∈E.Γ f→ix P f S)(hc:Core c σ a.tmps w M ν){args:Array Operand}{ts:Array TypeId}{g:Operand}(ho:o.op= .call {callee:= .value g,args,argTypes:=ts}){K:jg α}{f:Nat}{caps:List bI}(hg:σ.ρ g= .Nd f caps){id:Nat}
  (h:C1 E f (args.toList.map σ.ρ ++caps) id σ.H K=some r) (hn:fX c σ a o w M ν K r next):o.wp P a w next Q:=by
 have hgv:=hc.ev g
 rw[hg]at hgv
 simp only[VR]at hgv
 obtain⟨cs,hgv,KV⟩:=hgv
 have NK: ∀{as1:List bI} {vs1:List Value},ju w M σ.H ν as1 vs1→ju w M σ.H ν (as1++caps) (vs1++cs):=by
  intro as1
  induction as1 with
  |nil=>intro vs1 h1;cases vs1 with
   |nil=>exact KV
   |cons _ _=>simp[ju]at h1
  |cons x as1 ih=>intro vs1 h1;cases vs1 with
   |nil=>simp[ju]at h1
   |cons v vs1=>simp only[ju]at h1;simp only[kK,ju];exact⟨h1.1,ih h1.2⟩
 have hd:=NI (P:=P) hΓ hc.mem (NK (hc.evs args.toList)) h (R:=λv' w'=>next (a.put o.dst v') w') (λv rd ups v' w' M' ν' h1 h2 h3=>hn v rd ups v' w' M' ν' h1 h2 h3)
 have hex:(execOp a.eval o).run P w=(callFunc f (args.toList.map a.eval++cs).toArray).run P w:=by
  have:(args.toList.map a.eval++cs).toArray= #[]++args.map a.eval++cs.toArray:=by apply jt;simp
  rw[this]
  simp[execOp,ho,resolve,hgv,Deferred.ofValue,invoke]
 unfold Oper.wp
 rw[hex]
 exact hd o a next Q λv w' hv=>hv
end VM
end
section
namespace VM
open Go
variable{P:Program}{E:Env}{o:Oper}{a:Act}{w:World}{M:Nat→Prop}{ν:Nat→Value}{σ:St}{c:Ctx}{α:Type}{r:α}{next:Act→World→Prop}{Q:Exit→Act→World→Prop}
structure uS(P:Program)(E:Env):Prop extends EnvTy P E where
 ao7: ∀f S,S∈E.Γ f→ix P f S
 mixed:P.follows .mixedOrders=true
 kf: ∀i L,E.xc i=some L→VM.kf L=true
 XT: ∀i L,E.yG i=some L→VM.kf L=true
theorem Vc(hE:uS P E)(hc:Core c σ a.tmps w M ν){K:jg α}(h:um E o σ.ρ σ.H K=some r)(hn:fX c σ a o w M ν K r next):o.wp P a w next Q:=by
 have hT:=hE.toEnvTy
 unfold um at h
 simp only at h
 split at h
 ·rename_i x ho;exact Tq hc (.inl ho) h hn
 ·rename_i x ho;exact Tq hc (.inr ho) h hn
 ·rename_i x y z ho
  split at h
  ·rename_i t hx;exact abC hc ho hx h hn
  ·cases h
 ·rename_i t ho
  split at h
  ·rename_i τ ht;exact XC hT hc ho ht h hn
  ·cases h
 ·rename_i t x ho
  split at h
  ·rename_i τ ht;exact ajs hT hc ho h hn
  ·cases h
 ·rename_i t ps ho
  split at h
  ·rename_i n e ht;exact K3 hT hc ho ht h hn
  ·rename_i τ hna ht;exact Ea hT hc ho ht (λn e he=>hna n e he) h hn
  ·cases h
 ·rename_i t n ps ho
  split at h
  ·rename_i e ht;exact Is hT hc ho ht h hn
  ·cases h
 ·rename_i t x ho
  split at h
  ·rename_i τ ht;exact abD hT hc ho ht h hn
  ·cases h
 ·rename_i t x y ho
  split at h
  ·rename_i τ ht;exact U4 hT hc ho ht h hn
  ·cases h
 ·rename_i x ho
  split at h
  ·rename_i id p hx;exact D8 hc ho hx h hn
  ·rename_i τ z hx;exact B6 hc ho hx h hn
  ·cases h
 ·rename_i b t x y t' ho;exact XI hT hc ho h hn
 ·rename_i u t x ho;exact abJ hc ho h hn
 ·rename_i s d x ho
  split at h
  ·rename_i τ k hs hd;exact RF hT hc ho hs hd h hn
  ·cases h
 ·rename_i f first caps ho;exact Nv hc ho h hn
 ·rename_i t x y ho
  split at h
  ·rename_i e ht;exact KZ hT hc ho ht h hn
  ·cases h
 ·rename_i t x lo hi mx ho
  split at h
  ·rename_i τ ht;exact XN hT hc ho ht h hn
  ·cases h
 ·rename_i t x n ho
  split at h
  ·rename_i τ ht
   split at h
   ·rename_i id p hx;exact B5 hT hc ho ht hx h hn
   ·rename_i υ z hx;exact AL hT hc ho ht hx h hn
   ·cases h
  ·cases h
 ·rename_i t x n ho
  split at h
  ·rename_i τ ht
   split at h
   ·rename_i υ z hx;exact XG hT hc ho ht hx h hn
   ·cases h
  ·cases h
 ·rename_i t x i ho
  split at h
  ·rename_i τ ht;exact KX hT hc ho ht h hn
  ·cases h
 ·rename_i t x i ho
  split at h
  ·rename_i τ ht;exact XL hT hc ho ht h hn
  ·cases h
 ·rename_i x i ho
  split at h
  ·rename_i vs hx
   split at h
   ·rename_i v hv;exact RE hc ho hx hv h hn
   ·cases h
  ·cases h
 ·rename_i cl ho
  obtain⟨callee,args,ts⟩:=cl
  simp only at h
  split at h
  ·split at h
   ·rename_i x τ ha ht;exact ajy hT hc ho ha ht h hn
   ·cases h
  ·split at h
   ·rename_i x y t t' ha ht
    split at h
    ·rename_i e hte;exact U8 hT hc ho ha ht hte h hn
    ·cases h
   ·cases h
  ·split at h
   ·rename_i x xs ha;exact aij hc true ho ha h hn
   ·cases h
  ·split at h
   ·rename_i x xs ha;exact aij hc false ho ha h hn
   ·cases h
  ·rename_i g
   split at h
   ·rename_i f caps hg;exact abV hE.ao7 hc ho hg h hn
   ·cases h
  ·cases h
 ·cases h
end VM
end
section
namespace VM
open Go
variable{P:Program}{E:Env}{o:Oper}{a:Act}{w:World}{M:Nat→Prop}{ν:Nat→Value}{σ:St}{c:Ctx}{α:Type}{r:α}{next:Act→World→Prop}{Q:Exit→Act→World→Prop}
theorem vA(σ:St)(d:Nat)(v:bI):(σ.put d v).T d=v:=by
 show cond (Nat.beq d d) v (σ.T d)=v
 rw[show Nat.beq d d=true from uC d];rfl
theorem AT(σ:St){d i:Nat}(v:bI)(h:i≠d):(σ.put d v).T i=σ.T i:=by
 show cond (Nat.beq i d) v (σ.T i)=σ.T i
 have:Nat.beq i d=false:=by rw[←nk,w8];exact h
 rw[this];rfl
theorem azV(σ:St)(d:Nat)(v:bI):(σ.put d v).H=σ.H:=rfl
theorem F4(σ:St)(d:Nat):σ.put d (σ.T d)=σ:=by
 obtain⟨T,H⟩:=σ
 unfold St.put
 congr 1
 funext i
 by_cases h:i=d
 ·subst h;show cond (Nat.beq i i) (T i) (T i)=T i;cases Nat.beq i i<;>rfl
 ·have:Nat.beq i d=false:=by rw[←nk,w8];exact h
  rw[this];rfl
theorem Core.tr{tm:Array Value}(h:Core c σ tm w M ν){H':Nat→Option bl}{w':World}{M':Nat→Prop}{ν':Nat→Value}(t:Tr c σ.H w M ν H' w' M' ν'):Core c ⟨σ.T,H'⟩ tm w' M' ν':=
 ⟨t.mem,λi=>VR.cm t.cm t.goes (h.tmp i)⟩
theorem Core.wI{tm:Array Value}(h:Core c σ tm w M ν){d:Option Nat}{x:bI}{v:Value}{io:List Nat}(hd:Nf tm.size io d=true)(hx:VR w M σ.H ν x v)(ds:List Deferred):
  Core c (σ.wI d x) (({tmps:=tm,defers:=ds}:Act).put d v).tmps w M ν:=by
 cases d with
 |none=>exact h
 |some d=>
  have fj:d<tm.size:=by simp only[Nf,bB,Av]at hd;exact hd.1
  refine⟨h.mem,λi=> ?_⟩
  show VR w M σ.H ν ((σ.put d x).T i) ((tm.setIfInBounds d v).getD i undef)
  by_cases hi:i=d
  ·subst hi
   rw[vA]
   simp[Array.getD,fj]
   exact hx
  ·rw[AT _ _ hi]
   have:=h.tmp i
   have he:(tm.setIfInBounds d v).getD i undef=tm.getD i undef:=by
    rw[tb,tb,MR (eU hi)]
   rw[he];exact this
def Inv(c:Ctx)(E:Env)(σ:St)(a:Act)(w:World):Prop:=(∃M ν,Core c σ a.tmps w M ν)∧a.tmps.size=E.nt∧a.defers=[]∧ ∀i∈E.io,a.tmps.getD i undef=c.arg i
theorem NL(a:Act)(d:Option Nat)(v:Value):(a.put d v).tmps.size=a.tmps.size:=by
 cases d<;>simp[Act.put]
theorem put_defers(a:Act)(d:Option Nat)(v:Value):(a.put d v).defers=a.defers:=by
 cases d<;>rfl
theorem TB{d:Option Nat}{v:Value}{io:List Nat}{n:Nat}(hd:Nf n io d=true){i:Nat}(hi:i∈io):(a.put d v).tmps.getD i undef=a.tmps.getD i undef:=by
 cases d with
 |none=>rfl
 |some d=>
  simp only[Nf,bB,nn]at hd
  have h1:=hd.2 i hi
  have iI:i≠d:=by
   intro e;subst e
   simp at h1
  show(a.tmps.setIfInBounds d v).getD i undef=_
  rw[tb,tb,MR (eU iI)]
theorem Inv.bool(h:Inv c E σ a w){x:Operand}{b:Bool}(hx:σ.ρ x= .val .bool b):a.eval x= .bool b:=by
 obtain⟨⟨M,ν,hc⟩,_,_,_⟩:=h
 have:=hc.ev x
 rw[hx]at this
 exact this.bool
theorem Dg(hE:uS P E){ops:Array Oper}(hI:Inv c E σ a w){K:St→List Nat→List Nat→Option α}(h:uF E ops.toList o σ K=some r)
  (hn: ∀σ' a' w' rd wr,K σ' rd wr=some r→Inv c E σ' a' w'→next a' w'):
  if Region.wanted o (yielded ops a.tmps)then o.wp P a w next Q else next (a.put o.dst undef) w:=by
 unfold uF at h
 obtain⟨hd,h⟩:=cF h
 have dQ:um E o σ.ρ σ.H (λv rd ups=>K ((σ.xa ups).wI o.dst v) rd (ups.map (·.1)))=some r→o.wp P a w next Q:=by
  intro h
  obtain⟨⟨M,ν,hc⟩,hs,ajU,yO⟩:=hI
  refine Vc hE hc h λv rd ups v' w' M' ν' hK iw hV=> ?_
  refine hn _ _ _ _ _ hK ⟨⟨M',ν',?_⟩,by rw[NL,hs],by rw[put_defers,ajU],λi hi=>(TB hd hi).trans (yO i hi)⟩
  have h1:=hc.tr iw
  have h2:σ.xa ups=⟨σ.T,c9 σ.H ups⟩:=by rw[←RA,←RC ups σ]
  rw[h2]
  exact h1.wI (by rw[hs];exact hd) hV a.defers
 have tt: ∀rd wr,K (σ.wI o.dst .Xx) rd wr=some r→next (a.put o.dst undef) w:=by
  intro rd wr h
  obtain⟨⟨M,ν,hc⟩,hs,ajU,yO⟩:=hI
  refine hn _ _ _ _ _ h ⟨⟨M,ν,hc.wI (by rw[hs];exact hd) (by simp[VR]) a.defers⟩,by rw[NL,hs],by rw[put_defers,ajU],λi hi=>(TB hd hi).trans (yO i hi)⟩
 simp only at h
 split at h
 ·rename_i hg
  have:Region.wanted o (yielded ops a.tmps)=true:=by simp[Region.wanted,hg]
  rw[ah this]
  exact dQ h
 ·rename_i j want hg
  split at h
  ·cases h
  ·rename_i t ht
   have ht':(ops[j]?).bind (·.dst)=some t:=by rw[←gP];exact ht
   have hy: ∀b,σ.T t= .val .bool b→yielded ops a.tmps j=some b:=by
    intro b hb
    obtain⟨⟨M,ν,hc⟩,hs,_,_⟩:=hI
    have h1:=hc.tmp t
    rw[hb]at h1
    have h1:=h1.bool
    have h2:a.tmps[t]? =some (.bool b):=by
     rw[tb]at h1
     cases h3:a.tmps[t]? with
     |none=>rw[h3]at h1;simp[undef]at h1
     |some v=>rw[h3]at h1;simpa using h1
    simp[yielded,ht',h2]
   split at h
   ·rename_i b hb
    have qC:σ.put t (.val .bool b)=σ:=by rw[←hb];exact F4 σ t
    have hw:=hy b hb
    cases want<;>cases b
    ·rw[ah (by simp[Region.wanted,hg,hw])]
     rw[qC]at h;exact dQ h
    ·rw[aj (by simp[Region.wanted,hg,hw])]
     rw[qC]at h;exact tt _ _ h
    ·rw[aj (by simp[Region.wanted,hg,hw])]
     rw[qC]at h;exact tt _ _ h
    ·rw[ah (by simp[Region.wanted,hg,hw])]
     rw[qC]at h;exact dQ h
   ·rename_i hb
    have AJ: ¬Region.wanted o (yielded ops a.tmps)=true:=by
     obtain⟨⟨M,ν,hc⟩,hs,_,_⟩:=hI
     have h1:=hc.tmp t
     rw[hb]at h1
     simp only[VR]at h1
     have h2: ∀b,a.tmps[t]? ≠some (.bool b):=by
      intro b fg
      rw[tb,fg]at h1
      simp[undef]at h1
     have h3:yielded ops a.tmps j=none:=by
      unfold yielded
      rw[ht']
      show(match a.tmps[t]? with|some (.bool b)=>some b|_=>none)=none
      split
      ·rename_i b fg;exact absurd fg (h2 b)
      ·rfl
     simp[Region.wanted,hg,h3]
    rw[aj AJ]
    exact tt _ _ h
   ·cases h
theorem F5(hE:uS P E){ops:Array Oper}: ∀(l:List Oper) (i:Nat) (σ:St) (lg:Log) (a:Act) (w:World) (K:St→Log→Option α),Inv c E σ a w→UU E ops.toList l i σ lg K=some r→
  (∀σ' lg' a' w',K σ' lg'=some r→Inv c E σ' a' w'→Q .normal a' w')→wpList P ops Q l a w
 |[],i,σ,lg,a,w,K,hI,h,hn=>hn _ _ _ _ h hI
 |o::l,i,σ,lg,a,w,K,hI,h,hn=>by
  unfold UU at h
  refine wpList_step λK' hK'=> ?_
  exact Dg hE hI h fun σ' a' w' rd wr h' y4=>hK' _ _ (F5 hE l (i+1) σ' _ a' w' K y4 h' hn)
theorem NM(hI:Inv c E σ a w){x:Operand}{A B:St→Option α}(h:I4 E x σ A B=some r): ∃b,a.eval x= .bool b∧(if b then A σ else B σ)=some r:=by
 unfold I4 at h
 split at h
 ·rename_i b hb
  refine⟨b,hI.bool hb,?_⟩
  split at h
  ·rename_i t
   have hb:σ.T t= .val .bool b:=hb
   have qC:σ.put t (.val .bool b)=σ:=by rw[←hb];exact F4 σ t
   cases b
   ·rw[qC]at h;exact h
   ·rw[qC]at h;exact h
  ·cases b<;>exact h
 ·cases h
end VM
end
section
namespace VM
open Go
variable{P:Program}{E:Env}{o:Oper}{a:Act}{w:World}{M:Nat→Prop}{ν:Nat→Value}{σ:St}{c:Ctx}{α:Type}{r:α}{next:Act→World→Prop}{Q:Exit→Act→World→Prop}
def mix{β:Type}(A B:Nat→β):Nat→β:=λi=>if i%2=0 then A (i/2)else B (i/2)
theorem iy{β:Type}(A B:Nat→β)(i:Nat):mix A B (2*i)=A i:=by
 unfold mix
 rw[ah ω,show 2*i/2=i from by omega]
theorem wC{β:Type}(A B:Nat→β)(i:Nat):mix A B (2*i+1)=B i:=by
 unfold mix
 rw[aj ω,show(2*i+1)/2=i from by omega]
theorem an8{β:Type}{A B A' B':Nat→β}(hl: ∀i,A i=A' i)(hr: ∀i,B i=B' i):mix A B=mix A' B':=by
 funext i;unfold mix;rw[hl,hr]
def bl.re(f:Nat→Nat):bl→bl
 | .ga τ x p j=> .ga τ x p (f j)
 |e=>e
theorem ER.re{v:Value}{f:Nat→Nat}{e:bl}:ER w M v (e.re f)↔ER w M v e:=by cases e<;>simp[bl.re,ER]
theorem bl.sa{f:Nat→Nat}{e:bl}:(e.re f).mut↔e.mut:=by cases e<;>simp[bl.re,bl.mut]
theorem bl.TC{f g:Nat→Nat}{e e':bl}:(e.re f).lJ (e'.re g)↔e.lJ e':=by cases e<;>cases e'<;>simp[bl.re,bl.lJ]
def ml(i:Nat):Nat:=2*i
def mr(i:Nat):Nat:=2*i+1
def jh(A B:Nat→Option bl):Nat→Option bl:=λi=>if i%2=0 then(A (i/2)).map (bl.re ml)else(B (i/2)).map (bl.re mr)
theorem zp(A B:Nat→Option bl)(i:Nat):jh A B (2*i)=(A i).map (bl.re ml):=by
 unfold jh
 rw[ah ω,show 2*i/2=i from by omega]
theorem vB(A B:Nat→Option bl)(i:Nat):jh A B (2*i+1)=(B i).map (bl.re mr):=by
 unfold jh
 rw[aj ω,show(2*i+1)/2=i from by omega]
theorem iC{A B:Nat→Option bl}{i:Nat}{e:bl}(h:A i=some e):jh A B (2*i)=some (e.re ml):=by rw[zp,h];rfl
theorem vC{A B:Nat→Option bl}{i:Nat}{e:bl}(h:B i=some e):jh A B (2*i+1)=some (e.re mr):=by rw[vB,h];rfl
theorem K7{A B:Nat→Option bl}{i:Nat}:jh A B (2*i)≠none↔A i≠none:=by rw[zp];cases A i<;>simp
theorem K8{A B:Nat→Option bl}{i:Nat}:jh A B (2*i+1)≠none↔B i≠none:=by rw[vB];cases B i<;>simp
theorem sb(A B:Nat→Option bl)(i:Nat)(v:Option bl):bZ (jh A B) (2*i) (v.map (bl.re ml))=jh (bZ A i v) B:=by
 funext k
 by_cases hk:k=2*i
 ·subst hk;rw[ay,zp,ay]
 ·rw[az _ _ hk]
  unfold jh
  by_cases h2:k%2=0
  ·rw[ah h2,ah h2,az _ _ ω]
  ·rw[aj h2,aj h2]
theorem F6(A B:Nat→Option bl)(i:Nat)(v:Option bl):bZ (jh A B) (2*i+1) (v.map (bl.re mr))=jh A (bZ B i v):=by
 funext k
 by_cases hk:k=2*i+1
 ·subst hk;rw[ay,vB,ay]
 ·rw[az _ _ hk]
  unfold jh
  by_cases h2:k%2=0
  ·rw[ah h2,ah h2]
  ·rw[aj h2,aj h2,az _ _ ω]
theorem F7(A B:Nat→Value)(i:Nat)(v:Value):dr (mix A B) (2*i+1) v=mix A (dr B i v):=by
 funext k
 unfold dr mix
 by_cases hk:k=2*i+1
 ·subst hk;rw[ah rfl,aj ω]
  show v=if(2*i+1)/2=i then v else B ((2*i+1)/2)
  rw[ah ω]
 ·rw[aj hk]
  by_cases h2:k%2=0
  ·rw[ah h2,ah h2]
  ·rw[aj h2,aj h2]
   show B (k/2)=if k/2=i then v else B (k/2)
   rw[aj ω]
theorem Mem.left{H A:Nat→Option bl}{νA:Nat→Value}(h:Mem c (jh H A) w M (mix ν νA)):Mem c H w M ν:=
 ⟨λi e hi=>by have:=h.ll (2*i) _ (iC hi);rw[iy]at this;exact ER.re.1 this,
  λi j e e' b qB hi hm hj jY=>by have:=h.AB (2*i) (2*j) _ _ b ω (iC hi) (bl.sa.2 hm) (iC hj) (bl.sa.2 jY);rwa [iy,iy]at this,
  λi e b hi hm=>by have:=h.new (2*i) _ b (iC hi) (bl.sa.2 hm);rwa [iy]at this,
  λi e l b hi=>by have:=h.zj (2*i) e l b (iC hi);rwa [iy]at this,
  λi τ x p j hi=>by
   obtain⟨h1,b,h2,h3⟩:=h.ga (2*i) τ x p (ml j) (iC hi)
   rw[iy]at h2
   unfold ml at h1 h3
   rw[iy]at h3
   exact⟨K7.1 h1,b,h2,h3⟩,
  h.sub,h.FJ,h.frame,h.size,h.wN,h.os,h.tape,h.output⟩
theorem Mem.right{H A:Nat→Option bl}{νA:Nat→Value}(h:Mem c (jh H A) w M (mix ν νA)):Mem c A w M νA:=
 ⟨λi e hi=>by have:=h.ll (2*i+1) _ (vC hi);rw[wC]at this;exact ER.re.1 this,
  λi j e e' b qB hi hm hj jY=>by have:=h.AB (2*i+1) (2*j+1) _ _ b ω (vC hi) (bl.sa.2 hm) (vC hj) (bl.sa.2 jY);rwa [wC,wC]at this,
  λi e b hi hm=>by have:=h.new (2*i+1) _ b (vC hi) (bl.sa.2 hm);rwa [wC]at this,
  λi e l b hi=>by have:=h.zj (2*i+1) e l b (vC hi);rwa [wC]at this,
  λi τ x p j hi=>by
   obtain⟨h1,b,h2,h3⟩:=h.ga (2*i+1) τ x p (mr j) (vC hi)
   rw[wC]at h2
   unfold mr at h1 h3
   rw[wC]at h3
   exact⟨K8.1 h1,b,h2,h3⟩,
  h.sub,h.FJ,h.frame,h.size,h.wN,h.os,h.tape,h.output⟩
theorem Mem.abW{H:Nat→Option bl}(νA:Nat→Value)(h:Mem c H w M ν):Mem c (jh H (λ_=>none)) w M (mix ν νA):=by
 have key: ∀i e,jh H (λ_=>none) i=some e→ ∃j e0,i=2*j∧H j=some e0∧e=e0.re ml:=by
  intro i e hi
  unfold jh at hi
  by_cases h2:i%2=0
  ·rw[ah h2]at hi
   obtain⟨e0,h3,h4⟩:=z8.1 hi
   exact⟨i/2,e0,ω,h3,h4.symm⟩
  ·rw[aj h2]at hi;cases hi
 refine⟨λi e hi=> ?_,λi j e e' b qB hi hm hj jY=> ?_,λi e b hi hm=> ?_,λi e l b hi=> ?_,λi τ x p j hi=> ?_,h.sub,h.FJ,h.frame,h.size,h.wN,h.os,h.tape,h.output⟩
 ·obtain⟨j,e0,rfl,hj,rfl⟩:=key i e hi;rw[iy];exact ER.re.2 (h.ll j e0 hj)
 ·obtain⟨i',e1,rfl,nD,rfl⟩:=key i e hi;obtain⟨j',e2,rfl,XU,rfl⟩:=key j e' hj
  rw[iy,iy];exact h.AB i' j' e1 e2 b ω nD (bl.sa.1 hm) XU (bl.sa.1 jY)
 ·obtain⟨j,e0,rfl,hj,rfl⟩:=key i e hi;rw[iy];exact h.new j e0 b hj (bl.sa.1 hm)
 ·obtain⟨j,e0,rfl,hj,he⟩:=key i _ hi
  cases e0<;>simp only[bl.re]at he<;>cases he
  rw[iy];exact h.zj j e l b hj
 ·obtain⟨k,e0,rfl,hk,he⟩:=key i _ hi
  cases e0<;>simp only[bl.re]at he<;>cases he
  obtain⟨h1,b,h2,h3⟩:=h.ga k _ _ _ _ hk
  refine⟨K7.2 h1,b,by rw[iy];exact h2,?_⟩
  unfold ml
  rw[iy];exact h3
theorem tU.left{H A H' A':Nat→Option bl}{νA ν' Vd:Nat→Value}(g:tU (jh H A) (mix ν νA) (jh H' A') (mix ν' Vd)):tU H ν H' ν':=
 ⟨λi e hi=>by
   obtain⟨e',h1,h2⟩:=g.ll (2*i) _ (iC hi)
   rw[zp]at h1
   obtain⟨e0,h3,rfl⟩:=z8.1 h1
   exact⟨e0,h3,bl.TC.1 h2⟩,
  λi hi=>by have:=g.head (2*i) (K7.2 hi);rwa [iy,iy]at this⟩
theorem tU.right{H A H' A':Nat→Option bl}{νA ν' Vd:Nat→Value}(g:tU (jh H A) (mix ν νA) (jh H' A') (mix ν' Vd)):tU A νA A' Vd:=
 ⟨λi e hi=>by
   obtain⟨e',h1,h2⟩:=g.ll (2*i+1) _ (vC hi)
   rw[vB]at h1
   obtain⟨e0,h3,rfl⟩:=z8.1 h1
   exact⟨e0,h3,bl.TC.1 h2⟩,
  λi hi=>by have:=g.head (2*i+1) (K8.2 hi);rwa [wC,wC]at this⟩
theorem Mem.move{H A:Nat→Option bl}{νA:Nat→Value}(h:Mem c (jh H A) w M (mix ν νA)){i j:Nat}{e e1:bl}(hi:H i=some e)(hm:e.mut)(hj:A j=none)
  (RD:(e1=e∧ ∀τ x p k,e≠ .ga τ x p k)∨ ∃τ x p k k',e= .ga τ x p k∧e1= .ga τ x p k'∧A k'≠none∧νA k'=ν k):
  Tr c (jh H A) w M (mix ν νA) (jh (bZ H i (some .gone)) (bZ A j (some e1))) w M (mix ν (dr νA j (ν i))):=by
 have hg:=Tr.gone h (2*i)
 have hgo:(some bl.gone)=(some bl.gone).map (bl.re ml):=rfl
 rw[hgo,sb]at hg
 have Xg:=iC (B:=A) hi
 have hER:ER w M (ν i) (e1.re mr):=by
  have h1:=h.ll (2*i) _ Xg
  rw[iy]at h1
  have h1:=ER.re.1 h1
  rcases RD with⟨rfl,_⟩|⟨τ,x,p,k,k',rfl,rfl,_,_⟩
  ·exact ER.re.2 h1
  ·exact h1
 have h2:=Mem.yZ hg.mem (id:=2*j+1) (v:=ν i) (e:=e1.re mr) (λe' xi=>by rw[vB,hj]at xi;cases xi)
  hER
  (λb hb k e' hk jY=>by
   by_cases hk2:k=2*i
   ·subst hk2;rw[zp,ay]at hk;cases hk;simp[bl.re,bl.mut]at jY
   ·have hk3:jh H A k=some e':=by
     have:=congrFun (sb H A i (some .gone)) k
     rw[az _ _ hk2]at this
     rw[this];exact hk
    have:=h.AB (2*i) k _ e' b (eU hk2) Xg (bl.sa.2 hm) hk3 jY
    rw[iy]at this
    exact this hb)
  (λb hb=>by have:=h.new (2*i) _ b Xg (bl.sa.2 hm);rw[iy]at this;exact this hb)
  (λb e0 l0 he hb=>by
   rcases RD with⟨rfl,_⟩|⟨τ,x,p,k,k',rfl,rfl,_,_⟩
   ·cases e1<;>simp only[bl.re]at he<;>cases he
    have:=h.zj (2*i) e0 l0 b Xg;rw[iy]at this;exact this hb
   ·simp[bl.re]at he)
  (.inl (by rw[vB,hj];rfl))
  (fun τ x p k he=>by
   rcases RD with⟨rfl,hn⟩|⟨τ,x,p,k,k',rfl,rfl,hk,hνk⟩
   ·cases e1<;>simp only[bl.re]at he<;>cases he
    exact absurd rfl (hn _ _ _ _)
   ·simp only[bl.re]at he
    cases he
    obtain⟨_,b,h4,h5⟩:=h.ga (2*i) _ _ _ _ Xg
    rw[iy]at h4
    have hkj:k'≠j:=λe=>hk (e▸hj)
    refine⟨?_,b,h4,?_⟩
    ·rw[az _ _ (by unfold mr;omega)]
     unfold mr
     exact K8.2 hk
    ·unfold ml at h5
     rw[iy]at h5
     rw[h5,←hνk]
     have:dr (mix ν νA) (2*j+1) (ν i) (mr k')=mix ν νA (mr k'):=by
      unfold dr mr;rw[aj ω]
     rw[this];unfold mr;rw[wC])
 have hmp:some (e1.re mr)=(some e1).map (bl.re mr):=rfl
 rw[hmp,F6,F7]at h2
 refine⟨h2,.refl w M,⟨λk e' hk=> ?_,λk hk=> ?_⟩⟩
 ·by_cases h3:k%2=0
  ·obtain⟨k',rfl⟩: ∃k',k=2*k':=⟨k/2,ω⟩
   by_cases F3:k'=i
   ·subst F3;exact⟨.gone,by rw[zp,ay];rfl,bl.kR _⟩
   ·exact⟨e',by rw[zp]at hk ⊢;rw[az _ _ F3];exact hk,.refl e'⟩
  ·obtain⟨k',rfl⟩: ∃k',k=2*k'+1:=⟨k/2,ω⟩
   rw[vB]at hk ⊢
   have F3:k'≠j:=λe=>by rw[e,hj]at hk;cases hk
   exact⟨e',by rw[az _ _ F3];exact hk,.refl e'⟩
 ·by_cases h3:k%2=0
  ·obtain⟨k',rfl⟩: ∃k',k=2*k':=⟨k/2,ω⟩
   rw[iy,iy]
  ·obtain⟨k',rfl⟩: ∃k',k=2*k'+1:=⟨k/2,ω⟩
   rw[wC,wC]
   have F3:k'≠j:=λe=>by rw[vB,e,hj]at hk;exact hk rfl
   simp[dr,F3]
theorem Mem.fresh{H A:Nat→Option bl}{νA:Nat→Value}(h:Mem c (jh H A) w M (mix ν νA)){j:Nat}(hj:A j=none)(e:Ty)(ad:Option Addr):
  Tr c (jh H A) w M (mix ν νA) (jh H (bZ A j (some (.own e [])))) w M (mix ν (dr νA j (.slice ad 0 0))):=by
 have:=Tr.nothing h (id:=2*j+1) (by rw[vB,hj];rfl) e ad
 have hmp:some (bl.own e [])=(some (bl.own e [])).map (bl.re mr):=rfl
 rw[hmp,F6,F7]at this
 exact this
structure Cut(c:Ctx)(σ acc:St)(tm:Array Value)(w:World)(M:Nat→Prop)(ν νA:Nat→Value):Prop where
 mem:Mem c (jh σ.H acc.H) w M (mix ν νA)
 src: ∀i,VR w M σ.H ν (σ.T i) (tm.getD i undef)
 dst: ∀i,VR w M acc.H νA (acc.T i) (tm.getD i undef)
theorem Cut.tr{acc:St}{tm:Array Value}{νA:Nat→Value}(h:Cut c σ acc tm w M ν νA){H' A':Nat→Option bl}{M':Nat→Prop}{Vd:Nat→Value}(t:Tr c (jh σ.H acc.H) w M (mix ν νA) (jh H' A') w M' (mix ν Vd)){s:Nat}{x:bI}(hx:VR w M' A' Vd x (tm.getD s undef)):
  Cut c ⟨σ.T,H'⟩ ⟨(acc.put s x).T,A'⟩ tm w M' ν Vd:=by
 refine⟨t.mem,λi=>VR.cm t.cm t.goes.left (h.src i),λi=> ?_⟩
 show VR w M' A' Vd ((acc.put s x).T i) _
 by_cases hi:i=s
 ·subst hi;rw[vA];exact hx
 ·rw[AT _ _ hi];exact VR.cm t.cm t.goes.right (h.dst i)
def XV(A:Nat→Option bl)(s:Nat):Prop:=A (16*s+13)=none∧A (16*s+14)=none∧A (16*s+15)=none
theorem mz{q:Nat×CM}{L:List (Nat×CM)}{A:Nat→Option bl}(hF:kf (q::L)=true)(hN: ∀p∈q::L,XV A p.1):
  kf L=true∧(∀p∈L,XV A p.1)∧
   ∀(A':Nat→Option bl) (d:Nat) (v:Option bl),(d=16*q.1+13∨d=16*q.1+14∨d=16*q.1+15)→(∀p∈L,XV A' p.1)→ ∀p∈L,XV (bZ A' d v) p.1:=by
 unfold kf at hF
 rw[bB,nn]at hF
 refine⟨hF.2,λp hp=>hN p (a7 _ hp),λA' d v hd hN' p hp=> ?_⟩
 have iI:p.1≠q.1:=λe=>by
  have:=hF.1 p hp
  rw[e]at this
  simp at this
 obtain⟨h1,h2,h3⟩:=hN' p hp
 exact⟨by rw[az _ _ ω];exact h1,by rw[az _ _ ω];exact h2,by rw[az _ _ ω];exact h3⟩
theorem fe{tm:Array Value}: ∀(L:List (Nat×CM)) (σ acc:St) (M:Nat→Prop) (νA:Nat→Value) (K:St→Option α),Cut c σ acc tm w M ν νA→kf L=true→(∀q∈L,XV acc.H q.1)→ib L σ acc K=some r→
  ∃abY M' Vd,K abY=some r∧Core c abY tm w M' Vd
 |[],σ,acc,M,νA,K,hC,_,_,h=>⟨acc,M,νA,h,hC.mem.right,hC.dst⟩
 |(s,.v τ)::L,σ,acc,M,νA,K,hC,hF,hN,h=>by
  obtain⟨ML,Rp,Ve⟩:=mz hF hN
  unfold ib at h
  obtain⟨y,rd,ups,h,hy⟩:=EI hC.mem.left (hC.src s) h
  rcases hy with⟨rfl,hV⟩|⟨id,e,l,rfl,bo,hV⟩
  ·exact fe L σ _ M νA K (hC.tr (.refl hC.mem) (x:= .val τ y) (by simp only[VR];exact hV)) ML Rp h
  ·obtain⟨M2,iw,_,KW⟩:=Tr.freeze hC.mem (id:=2*id) (iC bo)
   have hmp:some (bl.o8 e l)=(some (bl.o8 e l)).map (bl.re ml):=rfl
   rw[hmp,sb]at iw
   refine fe L _ _ M2 νA K (hC.tr iw (x:= .val τ y) ?_) ML Rp h
   simp only[VR]
   exact hV M2 (λb=>by rw[KW b,iy])
 |(s,.own e)::L,σ,acc,M,νA,K,hC,hF,hN,h=>by
  obtain⟨ML,Rp,Ve⟩:=mz hF hN
  unfold ib at h
  have hs:=hC.src s
  split at h
  ·rename_i hT
   have hj:=(hN _ bh).2.1
   rw[hT]at hs
   obtain⟨ad,hv⟩:=VR.emp.1 hs
   refine fe L σ _ M _ K (hC.tr (hC.mem.fresh hj e ad) (x:= .ref (16*s+14)) ?_) ML (Ve _ _ _ (.inr (.inl rfl)) Rp) h
   simp only[VR]
   exact⟨by rw[ay];simp,by rw[hv];simp[dr]⟩
  ·rename_i id hT
   rw[hT]at hs
   simp only[VR]at hs
   split at h
   ·rename_i e' l bo
    obtain⟨e1,h⟩:=bG h
    cases e1
    have hj:=(hN _ bh).2.1
    refine fe L _ _ M _ K (hC.tr (hC.mem.move bo trivial hj (.inl ⟨rfl,λ_ _ _ _=>by simp⟩)) (x:= .ref (16*s+14)) ?_) ML (Ve _ _ _ (.inr (.inl rfl)) Rp) h
    simp only[VR]
    exact⟨by rw[ay];simp,by rw[hs.2];simp[dr]⟩
   ·cases h
  ·cases h
 |(s,.obj τ)::L,σ,acc,M,νA,K,hC,hF,hN,h=>by
  obtain⟨ML,Rp,Ve⟩:=mz hF hN
  unfold ib at h
  have hs:=hC.src s
  split at h
  ·rename_i id hT
   rw[hT]at hs
   split at h
   ·rename_i υ x bo
    obtain⟨e1,h⟩:=bG h
    subst e1
    have hj:=(hN _ bh).2.1
    simp only[VR]at hs
    obtain⟨e,he,oa⟩:=hs
    rw[bo]at he;cases he
    simp only[AR]at oa
    obtain⟨_,b,hb,hv⟩:=oa
    refine fe L _ _ M _ K (hC.tr (hC.mem.move bo trivial hj (.inl ⟨rfl,λ_ _ _ _=>by simp⟩)) (x:= .jr (16*s+14) []) ?_) ML (Ve _ _ _ (.inr (.inl rfl)) Rp) h
    simp only[VR]
    exact⟨_,ay _ _ _,trivial,b,by simp[dr,hb],hv⟩
   ·
    rename_i υ x q k bo
    obtain⟨z,ups,M2,hK,iw,ao8,b,cs,t,hb,hg,KW,ld⟩: ∃z ups M2,df υ τ z (λy=>ib L ((σ.xa ups).jW id (some .gone)) ((acc.put s (.jr (16*s+14) [])).jW (16*s+14) (some (.obj τ y))) K)=some r∧
      Tr c (jh σ.H acc.H) w M (mix ν νA) (jh (c9 σ.H ups) acc.H) w M2 (mix ν νA)∧c9 σ.H ups id=some (.ga υ x q k)∧ ∃b cs t,ν id= .pointer (some ⟨b,0,none⟩)∧w.heap[b]? =some (.cells cs t (0,0))∧M2 b∧Rd w M2 υ cs.toList z:=by
     have ao9:=iC (B:=acc.H) bo
     unfold DZ at h
     split at h
     ·rename_i e l hk
      have iI:id≠k:=λe=>by rw[e,hk]at bo;cases bo
      obtain⟨z,ups,M2,hK,iw,_,hc2,b,cs,t,hb,hg,KW,ld⟩:=zn (H:=jh σ.H acc.H) hC.mem (id:=2*id) (j:=2*k) (x:=x) (q:=q)
       (k:=λz _=>df υ τ z λy=>ib L ((σ.xa [(k,some (.o8 e l))]).jW id (some .gone)) ((acc.put s (.jr (16*s+14) [])).jW (16*s+14) (some (.obj τ y))) K) ao9 (by
        unfold DZ
        rw[iC hk]
        exact h)
      rw[iy]at hb
      rcases hc2 with⟨e2,l2,h2,_⟩|⟨e2,l2,h2,rfl⟩
      ·rw[iC hk]at h2;simp[bl.re]at h2
      ·rw[iC hk]at h2
       simp only[bl.re,iA]at h2
       have hmp:some (bl.o8 e l)=(some (bl.o8 e l)).map (bl.re ml):=rfl
       have xm:Tr c (jh σ.H acc.H) w M (mix ν νA) (bZ (jh σ.H acc.H) (2*k) (some (.o8 e l))) w M2 (mix ν νA):=by
        cases h2;exact iw
       rw[hmp,sb]at xm
       exact⟨z,_,M2,hK,xm,by show bZ σ.H k _ id=_;rw[az _ _ iI];exact bo,b,cs,t,hb,hg,KW,ld⟩
     ·rename_i e l hk
      obtain⟨z,ups,M2,hK,iw,_,hc2,b,cs,t,hb,hg,KW,ld⟩:=zn (H:=jh σ.H acc.H) hC.mem (id:=2*id) (j:=2*k) (x:=x) (q:=q)
       (k:=λz _=>df υ τ z λy=>ib L ((σ.xa []).jW id (some .gone)) ((acc.put s (.jr (16*s+14) [])).jW (16*s+14) (some (.obj τ y))) K) ao9 (by
        unfold DZ
        rw[iC hk]
        exact h)
      rw[iy]at hb
      rcases hc2 with⟨e2,l2,h2,rfl⟩|⟨e2,l2,h2,_⟩
      ·exact⟨z,[],M2,hK,iw,bo,b,cs,t,hb,hg,KW,ld⟩
      ·rw[iC hk]at h2;simp[bl.re]at h2
     ·cases h
    obtain⟨e1,hK⟩:=bG hK
    subst e1
    have hC2:Cut c ⟨σ.T,c9 σ.H ups⟩ acc tm w M2 ν νA:=⟨iw.mem,λi=>VR.cm iw.cm iw.goes.left (hC.src i),λi=>VR.cm iw.cm iw.goes.right (hC.dst i)⟩
    have wO:=Tr.Im (e':= .obj υ z) iw.mem (iC ao8) trivial trivial rfl (λ_ _=>by simp) (by rw[iy];simp only[ER];exact⟨b,cs,t,hb,hg,KW,ld⟩) (λ_ _ _ _ h=>by cases h)
    have hmp:some (bl.obj υ z)=(some (bl.obj υ z)).map (bl.re ml):=rfl
    rw[hmp,sb]at wO
    have hC3:Cut c ⟨σ.T,bZ (c9 σ.H ups) id (some (.obj υ z))⟩ acc tm w M2 ν νA:=⟨wO.mem,λi=>VR.cm wO.cm wO.goes.left (hC2.src i),λi=>VR.cm wO.cm wO.goes.right (hC2.dst i)⟩
    have hj:=(hN _ bh).2.1
    simp only[VR]at hs
    obtain⟨e,he,oa⟩:=hs
    rw[bo]at he;cases he
    simp only[AR]at oa
    obtain⟨_,b',fg,hv⟩:=oa
    rw[hb]at fg;cases fg
    have hmv:=hC3.mem.move (ay _ _ _) trivial hj (.inl ⟨rfl,λ_ _ _ _=>by simp⟩)
    rw[zm]at hmv
    have H5:(σ.xa ups).jW id (some .gone)=⟨σ.T,bZ (c9 σ.H ups) id (some .gone)⟩:=by
     have h2:σ.xa ups=⟨σ.T,c9 σ.H ups⟩:=by rw[←RA,←RC ups σ]
     rw[h2];rfl
    rw[H5]at hK
    refine fe L _ _ M2 _ K (hC3.tr hmv (x:= .jr (16*s+14) []) ?_) ML (Ve _ _ _ (.inr (.inl rfl)) Rp) hK
    simp only[VR]
    exact⟨_,ay _ _ _,trivial,b,by simp[dr,hb],hv⟩
   ·cases h
  ·cases h
 |(s,.ga τ q e)::L,σ,acc,M,νA,K,hC,hF,hN,h=>by
  obtain⟨ML,Rp,Ve⟩:=mz hF hN
  unfold ib at h
  have hs:=hC.src s
  split at h
  ·rename_i id hT
   rw[hT]at hs
   split at h
   ·rename_i υ x q' k bo
    obtain⟨hpq,h1⟩:=cF h
    clear h
    have:=B0 hpq
    subst this
    split at h1
    ·rename_i e' l hk
     obtain⟨e1,h2⟩:=bG h1
     clear h1
     subst e1
     obtain⟨e2,h⟩:=bG h2
     cases e2
     have iI:id≠k:=λe=>by rw[e,hk]at bo;cases bo
     obtain⟨au2,au3,_⟩:=hN _ bh
     simp only[VR]at hs
     obtain⟨e,he,oa⟩:=hs
     rw[bo]at he;cases he
     simp only[AR]at oa
     obtain⟨_,b,hb,hv⟩:=oa
     have uK:=hC.mem.move hk trivial au2 (.inl ⟨rfl,λ_ _ _ _=>by simp⟩)
     have qb:bZ σ.H k (some .gone) id=some (.ga υ x q k):=by rw[az _ _ iI];exact bo
     have yY:=uK.mem.move qb trivial (j:=16*s+14) (e1:= .ga υ x q (16*s+13)) (by rw[az _ _ ω];exact au3)
      (.inr ⟨υ,x,q,k,16*s+13,rfl,rfl,by rw[ay];simp,by simp[dr]⟩)
     refine fe L _ _ M _ K (hC.tr (uK.trans yY) (s:=s) (x:= .jr (16*s+14) []) ?_) ML (Ve _ _ _ (.inr (.inl rfl)) (Ve _ _ _ (.inl rfl) Rp)) h
     simp only[VR]
     exact⟨_,ay _ _ _,trivial,b,by simp[dr,hb],hv⟩
    ·cases h1
   ·cases h
  ·cases h
 |(s,.same s')::L,σ,acc,M,νA,K,hC,hF,hN,h=>by
  obtain⟨ML,Rp,Ve⟩:=mz hF hN
  unfold ib at h
  split at h
  ·rename_i i j j' h1 h2 h3
   obtain⟨hb,h⟩:=cF h
   have hb:=fR hb
   have e1:=hC.src s
   have e2:=hC.src s'
   have e3:=hC.dst s'
   rw[h1]at e1;rw[h2]at e2;rw[h3]at e3
   simp only[VR]at e1 e2 e3
   refine fe L σ _ M νA K (hC.tr (.refl hC.mem) (x:= .ref j') ?_) ML Rp h
   simp only[VR]
   exact⟨e3.1,by rw[e1.2,hb,←e2.2,e3.2]⟩
  ·cases h
 |(s,.io τ)::L,σ,acc,M,νA,K,hC,hF,hN,h=>by
  obtain⟨ML,Rp,Ve⟩:=mz hF hN
  unfold ib at h
  have hs:=hC.src s
  split at h
  ·rename_i id hT
   rw[hT]at hs
   obtain⟨_,h⟩:=cF h
   split at h
   ·rename_i υ x bo
    obtain⟨e1,h⟩:=bG h
    subst e1
    have hj:=(hN _ bh).2.2
    simp only[VR]at hs
    obtain⟨e,he,oa⟩:=hs
    rw[bo]at he;cases he
    simp only[AR]at oa
    obtain⟨_,b,hb,hv⟩:=oa
    refine fe L _ _ M _ K (hC.tr (hC.mem.move bo trivial hj (.inl ⟨rfl,λ_ _ _ _=>by simp⟩)) (x:= .jr (16*s+15) []) ?_) ML (Ve _ _ _ (.inr (.inr rfl)) Rp) h
    simp only[VR]
    exact⟨_,ay _ _ _,trivial,b,by simp[dr,hb],hv⟩
   ·cases h
  ·cases h
 |(s,.fn f τ)::L,σ,acc,M,νA,K,hC,hF,hN,h=>by
  obtain⟨ML,Rp,Ve⟩:=mz hF hN
  unfold ib at h
  have hs:=hC.src s
  split at h
  ·rename_i f' cs hT
   rw[hT]at hs
   obtain⟨hb,h1⟩:=cF h
   clear h
   have hb:=fR hb
   subst hb
   simp only[VR]at hs
   obtain⟨us,hv,hvs⟩:=hs
   obtain⟨y,rd,ups,h,hy⟩:=FZ hC.mem.left hvs h1
   split at h
   ·refine fe L σ _ M νA K (hC.tr (.refl hC.mem) (x:= .Nd f (qA τ y)) ?_) ML Rp h
    simp only[VR]
    exact⟨us,hv,ju.free (hy rfl)⟩
   ·cases h
  ·cases h
theorem zq(hI:Inv c E σ a w){L:Option (List (Nat×CM))}(hL: ∀L',L=some L'→kf L'=true){K:St→Option α}(h:xg L σ K=some r): ∃σ',K σ'=some r∧Inv c E σ' a w:=by
 unfold xg at h
 split at h
 ·exact⟨σ,h,hI⟩
 ·have hfr:=hL _ rfl
  obtain⟨⟨M,ν,hc⟩,hs,hd⟩:=hI
  obtain⟨abY,M',Vd,hK,apa⟩:=fe (tm:=a.tmps) _ σ ⟨λ_=> .any,λ_=>none⟩ M (λ_=>undef) K ⟨hc.mem.abW _,hc.tmp,λi=>by simp[VR]⟩ hfr (λ_ _=>⟨rfl,rfl,rfl⟩) h
  exact⟨abY,hK,⟨M',Vd,apa⟩,hs,hd⟩
end VM
end
