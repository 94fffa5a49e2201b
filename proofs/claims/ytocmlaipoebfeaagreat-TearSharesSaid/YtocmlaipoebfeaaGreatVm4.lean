/- A part of the proof of TearShares of layer 29: a machine that reads a function of the program as an equation between values. -/
import Derived.Test.YtocmlaipoebfeaaGreatVm3
import Derived.Scope
set_option linter.all false
section
namespace VM
open Go
variable{P:Program}{E:Env}{o:Oper}{a:Act}{w:World}{M:Nat→Prop}{ν:Nat→Value}{σ:St}{c:Ctx}{α:Type}{r:α}{next:Act→World→Prop}{Q:Exit→Act→World→Prop}
theorem Mem.call{H:Nat→Option aQ}(h:Mem c H w M ν){hs:List Nat}{M0 M':Nat→Prop}{w':World}(hM: ∀b,M0 b→M b)(hhs: ∀b∈hs,M b)
  (ot: ∀b∈hs,∀i e,H i=some e→e.mut→ed (ν i)≠some b) (jV: ∀b∈hs,c.B≤b∨c.may b) (rH: ∀b∈hs,c.M0 b→M' b) (L:Left w M0 hs w' M'):
  Mem c H w' (fun b=>M' b∨(M b∧b∉hs)) ν∧df w M w' (fun b=>M' b∨(M b∧b∉hs)):=by
 have hk:df w M w' (fun b=>M' b∨(M b∧b∉hs)):=by
  refine⟨L.size,fun b hb hm=>L.frame b hb (fun hh=>hm (hhs b hh)),fun b hb hm=> ?_⟩
  rcases hm with hm|hm
  ·exact(L.less b hb hm).elim (hM b) (hhs b)
  ·exact hm.1
 refine⟨⟨fun i e hi=>(h.iN i e hi).bt hk fun hm b hb=> ?_,h.u7,h.new,h.tu,mh h (fun _ _=>rfl) (fun _ h=>h) (fun i τ x p j hi=> .inl ⟨hi,fun b hb=> ?_⟩),fun b hb=> ?_,fun b hb=> ?_,fun b hb hm=> ?_,auX h.size L.size,h.qn,L.os.trans h.os,L.tape.trans h.tape,L.output.trans h.output⟩,hk⟩
 ·have YD:=(h.iN i e hi).sP hm hb
  have xh:b∉hs:=fun hh=>ot b hh i e hi hm hb
  exact⟨L.frame b (h.yz b YD) xh,.inr ⟨YD,xh⟩⟩
 ·have sq:ed (ν i)=some b:=by rw[hb];rfl
  have YD:=(h.iN i _ hi).sP trivial sq
  exact L.frame b (h.yz b YD) (fun hh=>ot b hh i _ hi trivial sq)
 ·by_cases hh:b∈hs
  ·exact .inl (rH b hh hb)
  ·exact .inr ⟨h.sub b hb,hh⟩
 ·rcases hb with hb|hb
  ·exact L.yz b hb
  ·exact avn (h.yz b hb.1) L.size
 ·have xh:b∉hs:=fun hh=>(jV b hh).elim (fun h'=>by omega) hm
  rw[L.frame b (avn hb h.size) xh]
  exact h.frame b hb hm
theorem Mem.wB{H:Nat→Option aQ}(h:Mem c H w M ν){id:Nat}{v:Value}{e:aQ}(aS: ∀e',H id=some e'→ ¬e'.mut)(KO:ER w M v e)
  (hd: ∀b,ed v=some b→ ∀i e',H i=some e'→e'.mut→ed (ν i)≠some b) (hn: ∀b,ed v=some b→c.B≤b∨c.may b) (ho: ∀b e0 l0,e= .own e0 l0→ed v=some b→ ¬c.M0 b)
  (hnv:H id=none∨v=ν id)
  (oD: ∀τ x p j,e= .dO τ x p j→bn H id (some e) j≠none∧ ∃b,v= .pointer (some ⟨b,0,none⟩)∧w.cell? ⟨b,bC p τ,none⟩=some (cj ν id v j):=by intro _ _ _ _ h;cases h):
  Mem c (bn H id (some e)) w M (cj ν id v):=by
 have hν: ∀i,i≠id→cj ν id v i=ν i:=fun i hi=>by simp[cj,hi]
 have xe:cj ν id v id=v:=by simp[cj]
 refine⟨fun i e1 hi=> ?_,fun i k e1 e2 b1 np hi oC hk tF=> ?_,fun i e1 b1 hi oC=> ?_,fun i e1 l1 b1 hi=> ?_,mh h (fun i hi=> ?_) rF (fun i τ x p j hi=> ?_),h.sub,h.yz,h.frame,h.size,h.qn,h.os,h.tape,h.output⟩
 ·by_cases bp:i=id
  ·subst bp;rw[ak]at hi;cases hi;rw[xe];exact KO
  ·rw[al _ _ bp]at hi;rw[hν i bp];exact h.iN i e1 hi
 ·by_cases bp:i=id
  ·subst bp;rw[xe]
   have Eb:k≠i:=av0 np
   rw[al _ _ Eb]at hk;rw[hν k Eb]
   intro jN
   exact hd b1 jN k e2 hk tF
  ·rw[al _ _ bp]at hi;rw[hν i bp]
   by_cases Eb:k=id
   ·subst Eb;rw[xe]
    intro jN sr
    exact hd b1 sr i e1 hi oC jN
   ·rw[al _ _ Eb]at hk;rw[hν k Eb];exact h.u7 i k e1 e2 b1 np hi oC hk tF
 ·by_cases bp:i=id
  ·subst bp;rw[xe];exact hn b1
  ·rw[al _ _ bp]at hi;rw[hν i bp];exact h.new i e1 b1 hi oC
 ·by_cases bp:i=id
  ·subst bp;rw[ak]at hi;cases hi;rw[xe];exact ho b1 e1 l1 rfl
  ·rw[al _ _ bp]at hi;rw[hν i bp];exact h.tu i e1 l1 b1 hi
 ·by_cases bp:i=id
  ·subst bp
   rcases hnv with hnv|hnv
   ·exact absurd hnv hi
   ·rw[xe,hnv]
  ·exact hν i bp
 ·by_cases bp:i=id
  ·subst bp
   rw[ak]at hi
   cases hi
   obtain⟨h1,b,h2,h3⟩:=oD _ _ _ _ rfl
   exact .inr ⟨h1,b,by rw[xe];exact h2,h3⟩
  ·rw[al _ _ bp]at hi
   exact .inl ⟨hi,fun _ _=>rfl⟩
theorem K1{m:AM}{ms:List AM}(x:HP (m::ms))(id:Nat)(io:List (Nat×Ty)):
  iD (m::ms) x id io=match m,qt x,io with
   | .io τ,y,(j,_)::io=>((iD ms (u9 x) (id+1) io).1,(j,some (.obj τ y))::(iD ms (u9 x) (id+1) io).2.1,(iD ms (u9 x) (id+1) io).2.2)
   |m,y,io=>((Cp m y id).1::(iD ms (u9 x) (id+1) io).1,(Cp m y id).2++(iD ms (u9 x) (id+1) io).2.1,(iD ms (u9 x) (id+1) io).2.2):=by
 cases ms with
 |nil=>cases m<;>cases io<;>simp[iD,qt]
 |cons n ms=>cases m<;>cases io<;>simp[iD,qt,u9]
theorem lT{l1 l2:List Nat}{b:Nat}(h:(l1++l2).Nodup)(h1:b∈l1):b∉l2:=fun h2=>(awc.1 h).2.2 b h1 b h2 rfl
theorem RR.CF: ∀{ms:List AM} {x:HP ms} {us ps:List Value},RR w M ms x us ps→ ∀p∈ps,∀b,ed p=some b→b∈a7 ms us ps
 |[],_,_,_,h,p,hp,_,_=>by simp only[RR]at h;rw[h.2]at hp;simp at hp
 |m::ms,x,us,ps,h,p,hp,b,hb=>by
  simp only[RR]at h
  rcases h with⟨p',AT,h1,rfl,h2,h3⟩|⟨v,CE,h1,h2,rfl,h3,h4⟩
  ·simp only[a7,h1,awt,aws,awz,aut]
   rcases auy.1 hp with rfl|hp
   ·left
    cases m<;>simp[AM.fF]at h1
    simp[ct,hb]
   ·exact .inr (RR.CF h3 p hp b hb)
  ·simp only[a7,h1,au6,avQ,aws,awz,aut]
   exact .inr (RR.CF h4 p hp b hb)
theorem mq{hs:List Nat}{sz:Nat}: ∀{ms:List AM} {x:HP ms} {us ps:List Value} {id:Nat} {io:List (Nat×Ty)} {H:Nat→Option aQ} {ν:Nat→Value} {used:List Nat},
  Mem c H w M ν→RR w M ms x us ps→ps=io.map (fun q=>ν q.1)→kG ms=io.map (·.2)→(keys io).Nodup→(∀q∈io,H q.1=some .gone)→(∀i,id≤i→i<id+ms.length→H i=none)→
  (∀i e b,H i=some e→e.mut→ed (ν i)=some b→(b<sz∧b∉hs)∨b∈used)→(used++a7 ms us ps).Nodup→(∀b∈a7 ms us ps,sz≤b∨b∈hs)→
  (∀b∈a7 ms us ps,(c.B≤b∨c.may b))→(∀b∈a7 ms us ps,c.M0 b→ ∃p∈ps,ed p=some b)→
  ∃ν',Mem c (bS H (iD ms x id io).2.1) w M ν'∧fE w M (bS H (iD ms x id io).2.1) ν' (iD ms x id io).1 us∧(∀i,H i≠none→ν' i=ν i)∧
   (∀i,i∉keys io→(i<id∨id+ms.length≤i)→bS H (iD ms x id io).2.1 i=H i)∧(∀i,id≤i→i<id+ms.length→ ∀e,bS H (iD ms x id io).2.1 i=some e→(∃e0 l0,e= .own e0 l0)∨ ∃τ0 z0,e= .obj τ0 z0)∧
   (∀q∈io,∃z:q.2.den,bS H (iD ms x id io).2.1 q.1=some (.obj q.2 z))
 |[],x,us,ps,id,io,H,ν,used,hm,hr,Hw,AK,Er,AV,ib,hold,tQ,nu,jV,Ea=>by
  simp only[RR]at hr
  obtain⟨rfl,rfl⟩:=hr
  have rH:io=[]:=by
   cases io with
   |nil=>rfl
   |cons q io=>simp at Hw
  subst rH
  exact⟨ν,hm,by simp[iD,fE],fun _ _=>rfl,fun _ _ _=>rfl,fun i h1 h2=>by simp at h2;omega,fun q hq=>by simp at hq⟩
 |m::ms,x,us,ps,id,io,H,ν,used,hm,hr,Hw,AK,Er,AV,ib,hold,tQ,nu,jV,Ea=>by
  rw[K1]
  simp only[RR]at hr
  rcases hr with⟨p,AT,CG,rfl,h1,h2⟩|⟨v,CE,CG,hmf,rfl,h1,h2⟩
  ·
   cases m with
   |io τ=>
    cases io with
    |nil=>simp at Hw
    |cons q io=>
     simp only[auI,auZ]at Hw
     obtain⟨rfl,rfl⟩:=Hw
     simp only[kG,auI,auZ]at AK
     obtain⟨ajp,ajq⟩:=AK
     simp only[keys,auI,axH]at Er
     have Y4:a7 (.io τ::ms) us (ν q.1::io.map fun q=>ν q.1)=(ed (ν q.1)).toList++a7 ms us (io.map fun q=>ν q.1):=rfl
     rw[Y4]at tQ nu jV Ea
     have Ra:=AV q auo
     have Es:q.1<id∨id+(ms.length+1)≤q.1:=by
      rcases awC q.1 id with h'|h'
      ·exact .inl h'
      ·rcases awC q.1 (id+(ms.length+1))with JL|JL
       ·rw[ib q.1 h' JL]at Ra;cases Ra
       ·exact .inr JL
     simp only[A1]at h1
     have qM: ∀b,ed (ν q.1)=some b→ ∀i e',H i=some e'→e'.mut→ed (ν i)≠some b:=by
      intro b hb i e' hi gG dy
      have jP:b∈(ed (ν q.1)).toList++a7 ms us (io.map fun q=>ν q.1):=auz _ (by rw[hb];simp)
      rcases hold i e' b hi gG dy with⟨h3,h4⟩|h3
      ·exact(nu b jP).elim (fun h'=>by omega) h4
      ·exact lT tQ h3 jP
     have tF:=Mem.wB (c:=c) hm (id:=q.1) (v:=ν q.1) (e:= .obj τ (qt x)) (fun e' sF=>by rw[Ra]at sF;cases sF;simp[aQ.mut]) h1 qM (fun b hb=>jV b (auz _ (by rw[hb];simp))) (fun b e0 l0 he=>by cases he) (.inr rfl)
     have hνe:cj ν q.1 (ν q.1)=ν:=by funext i;unfold cj;split<;>simp_all
     rw[hνe]at tF
     have ajr: ∀(q':Nat×Ty),q'∈io→q'.1≠q.1:=fun q' qL e=>Er.1 (auW.2 ⟨q',qL,e⟩)
     obtain⟨ν',r1,r2,r3,r4,r5,r6⟩:=mq (ms:=ms) (x:=u9 x) (us:=us) (ps:=io.map fun q=>ν q.1) (id:=id+1) (io:=io) (used:=used++(ed (ν q.1)).toList) tF h2 rfl ajq Er.2
      (fun q' qL=>by rw[al _ _ (ajr q' qL)];exact AV q' (auk _ qL))
      (fun i h3 h4=>by
       have:i≠q.1:=by omega
       rw[al _ _ this]
       exact ib i (by omega) (by simp only[auj];omega))
      (fun i e b hi gG hb=>by
       by_cases bp:i=q.1
       ·subst bp;exact .inr (auD _ (by rw[hb];simp))
       ·rw[al _ _ bp]at hi
        exact(hold i e b hi gG hb).imp (fun h=>h) (auz _))
      (by rw[aur];exact tQ) (fun b hb=>nu b (auD _ hb)) (fun b hb=>jV b (auD _ hb))
      (fun b hb hb0=>by
       obtain⟨p,hp,hpb⟩:=Ea b (auD _ hb) hb0
       rcases auy.1 hp with rfl|hp
       ·exact absurd (lT (awc.1 tQ).2.1 (b:=b) (by rw[hpb];simp)) (by simpa using hb)
       ·exact⟨p,hp,hpb⟩)
     refine⟨ν',r1,r2,fun i hi=> ?_,fun i h3 h4=> ?_,fun i h3 h4 e he=> ?_,fun q' qL=> ?_⟩
     ·exact r3 i (by
       by_cases bp:i=q.1
       ·subst bp;rw[ak];simp
       ·rw[al _ _ bp];exact hi)
     ·simp only[keys,auI,auy,not_or]at h3
      have:=r4 i h3.2 (by simp only[auj]at h4;omega)
      rw[al _ _ h3.1]at this
      exact this
     ·by_cases h5:id+1≤i
      ·exact r5 i h5 (by simp only[auj]at h4;omega) e he
      ·have bp:i=id:=by omega
       subst bp
       by_cases hk:i∈keys io
       ·obtain⟨q',qL,Hz⟩:=auW.1 hk
        have h9:=AV q' (auk _ qL)
        rw[Hz,ib i (aul _) (by simp)]at h9
        cases h9
       ·have:=r4 i hk (.inl (by omega))
        have fL:i≠q.1:=by omega
        rw[al _ _ fL,ib i (aul _) (by simp)]at this
        have he:bS (bn H q.1 (some (aQ.obj τ (qt x)))) (iD ms (u9 x) (i+1) io).2.1 i=some e:=he
        rw[this]at he;cases he
     ·rcases auy.1 qL with rfl|qL
      ·have:=r4 q'.1 Er.1 (by omega)
       rw[ak]at this
       rw[←ajp]
       exact⟨qt x,this⟩
      ·exact r6 q' qL
   |v τ=>simp[AM.fF]at CG
   |own τ=>simp[AM.fF]at CG
   |fn f τ=>simp[AM.fF]at CG
   |ptr τ=>simp[AM.fF]at CG
   |fC τ=>simp[AM.fF]at CG
  ·
   have AW:H id=none:=ib id (aul _) (by simp)
   cases m with
   |io τ=>simp[AM.fF]at CG
   |fn f τ=>simp[AM.Q6]at hmf
   |fC τ=>simp[AM.Q6]at hmf
   |v τ=>
    have Y4:a7 (.v τ::ms) (v::CE) ps=a7 ms CE ps:=rfl
    rw[Y4]at tQ nu jV Ea
    simp only[A1]at h1
    obtain⟨ν',r1,r2,r3,r4,r5,r6⟩:=mq (ms:=ms) (x:=u9 x) (us:=CE) (ps:=ps) (id:=id+1) (io:=io) (used:=used) hm h2 Hw (by simpa [kG]using AK) Er AV (fun i h3 h4=>ib i (by omega) (by simp only[auj];omega)) hold tQ nu jV Ea
    refine⟨ν',r1,?_,r3,fun i h3 h4=>r4 i h3 (by simp only[auj]at h4;omega),fun i h3 h4 e he=> ?_,r6⟩
    ·simp only[Cp,fE,VR];exact⟨h1,r2⟩
    ·by_cases h5:id+1≤i
     ·exact r5 i h5 (by simp only[auj]at h4;omega) e he
     ·have bp:i=id:=by omega
      subst bp
      by_cases hk:i∈keys io
      ·obtain⟨q',qL,Hz⟩:=auW.1 hk
       have h9:=AV q' qL
       rw[Hz,AW]at h9;cases h9
      ·have:=r4 i hk (.inl (by omega))
       rw[AW]at this
       have he:bS H (iD ms (u9 x) (i+1) io).2.1 i=some e:=he
       rw[this]at he;cases he
   |own τ=>
    have Y4:a7 (.own τ::ms) (v::CE) ps=(ed v).toList++a7 ms CE ps:=rfl
    rw[Y4]at tQ nu jV Ea
    simp only[A1]at h1
    have qM: ∀b,ed v=some b→ ∀i e',H i=some e'→e'.mut→ed (ν i)≠some b:=by
     intro b hb i e' hi gG dy
     have jP:b∈(ed v).toList++a7 ms CE ps:=auz _ (by rw[hb];simp)
     rcases hold i e' b hi gG dy with⟨h3,h4⟩|h3
     ·exact(nu b jP).elim (fun h'=>by omega) h4
     ·exact lT tQ h3 jP
    have ad0: ∀b,ed v=some b→ ¬c.M0 b:=by
     intro b hb h0
     have jP:b∈(ed v).toList:=by rw[hb];simp
     obtain⟨p,hp,hpb⟩:=Ea b (auz _ jP) h0
     exact lT (awc.1 tQ).2.1 jP (RR.CF h2 p hp b hpb)
    have tF:=Mem.wB (c:=c) hm (id:=id) (v:=v) (e:= .own τ (qt x)) (fun e' sF=>by rw[AW]at sF;cases sF) h1 qM (fun b hb=>jV b (auz _ (by rw[hb];simp))) (fun b e0 l0 _ hb=>ad0 b hb) (.inl AW)
    have Es: ∀q∈io,q.1≠id:=fun q hq e=>by
     have h9:=AV q hq
     rw[e,AW]at h9;cases h9
    have Y5: ∀i,i≠id→cj ν id v i=ν i:=fun i hi=>by simp[cj,hi]
    obtain⟨ν',r1,r2,r3,r4,r5,r6⟩:=mq (ms:=ms) (x:=u9 x) (us:=CE) (ps:=ps) (id:=id+1) (io:=io) (used:=used++(ed v).toList) tF h2
     (by rw[Hw];exact avJ fun q hq=>(Y5 _ (Es q hq)).symm) (by simpa [kG]using AK) Er
     (fun q hq=>by rw[al _ _ (Es q hq)];exact AV q hq)
     (fun i h3 h4=>by rw[al _ _ (by omega)];exact ib i (by omega) (by simp only[auj];omega))
     (fun i e b hi gG hb=>by
      by_cases bp:i=id
      ·subst bp
       have:cj ν i v i=v:=by simp[cj]
       rw[this]at hb
       exact .inr (auD _ (by rw[hb];simp))
      ·rw[al _ _ bp]at hi
       rw[Y5 i bp]at hb
       exact(hold i e b hi gG hb).imp (fun h=>h) (auz _))
     (by rw[aur];exact tQ) (fun b hb=>nu b (auD _ hb)) (fun b hb=>jV b (auD _ hb)) (fun b hb=>Ea b (auD _ hb))
    have Y6:id∉keys io:=fun hk=>by
     obtain⟨q,hq,Hz⟩:=auW.1 hk
     exact Es q hq Hz
    have lC:bS (bn H id (some (.own τ (qt x)))) (iD ms (u9 x) (id+1) io).2.1 id=some (.own τ (qt x)):=by
     rw[r4 id Y6 (.inl (by omega)),ak]
    refine⟨ν',r1,?_,fun i hi=> ?_,fun i h3 h4=> ?_,fun i h3 h4 e he=> ?_,r6⟩
    ·simp only[Cp,fE,VR]
     refine⟨⟨?_,?_⟩,r2⟩
     ·show bS (bn H id (some (.own τ (qt x)))) (iD ms (u9 x) (id+1) io).2.1 id≠none
      rw[lC];simp
     ·rw[r3 id (by rw[ak];simp)];simp[cj]
    ·have bp:i≠id:=fun e=>hi (e▸AW)
     rw[r3 i (by rw[al _ _ bp];exact hi),Y5 i bp]
    ·have bp:i≠id:=by simp only[auj]at h4;omega
     have:=r4 i h3 (by simp only[auj]at h4;omega)
     rw[al _ _ bp]at this
     exact this
    ·by_cases h5:id+1≤i
     ·exact r5 i h5 (by simp only[auj]at h4;omega) e he
     ·have bp:i=id:=by omega
      subst bp
      have he:bS (bn H i (some (.own τ (qt x)))) (iD ms (u9 x) (i+1) io).2.1 i=some e:=he
      rw[lC]at he;cases he
      exact .inl ⟨τ,_,rfl⟩
   |ptr τ=>
    have Y4:a7 (.ptr τ::ms) (v::CE) ps=(ed v).toList++a7 ms CE ps:=rfl
    rw[Y4]at tQ nu jV Ea
    simp only[A1]at h1
    have qM: ∀b,ed v=some b→ ∀i e',H i=some e'→e'.mut→ed (ν i)≠some b:=by
     intro b hb i e' hi gG dy
     have jP:b∈(ed v).toList++a7 ms CE ps:=auz _ (by rw[hb];simp)
     rcases hold i e' b hi gG dy with⟨h3,h4⟩|h3
     ·exact(nu b jP).elim (fun h'=>by omega) h4
     ·exact lT tQ h3 jP
    have tF:=Mem.wB (c:=c) hm (id:=id) (v:=v) (e:= .obj τ (qt x)) (fun e' sF=>by rw[AW]at sF;cases sF) h1 qM (fun b hb=>jV b (auz _ (by rw[hb];simp))) (fun b e0 l0 he _=>by cases he) (.inl AW)
    have Es: ∀q∈io,q.1≠id:=fun q hq e=>by
     have h9:=AV q hq
     rw[e,AW]at h9;cases h9
    have Y5: ∀i,i≠id→cj ν id v i=ν i:=fun i hi=>by simp[cj,hi]
    obtain⟨ν',r1,r2,r3,r4,r5,r6⟩:=mq (ms:=ms) (x:=u9 x) (us:=CE) (ps:=ps) (id:=id+1) (io:=io) (used:=used++(ed v).toList) tF h2
     (by rw[Hw];exact avJ fun q hq=>(Y5 _ (Es q hq)).symm) (by simpa [kG]using AK) Er
     (fun q hq=>by rw[al _ _ (Es q hq)];exact AV q hq)
     (fun i h3 h4=>by rw[al _ _ (by omega)];exact ib i (by omega) (by simp only[auj];omega))
     (fun i e b hi gG hb=>by
      by_cases bp:i=id
      ·subst bp
       have:cj ν i v i=v:=by simp[cj]
       rw[this]at hb
       exact .inr (auD _ (by rw[hb];simp))
      ·rw[al _ _ bp]at hi
       rw[Y5 i bp]at hb
       exact(hold i e b hi gG hb).imp (fun h=>h) (auz _))
     (by rw[aur];exact tQ) (fun b hb=>nu b (auD _ hb)) (fun b hb=>jV b (auD _ hb)) (fun b hb=>Ea b (auD _ hb))
    have Y6:id∉keys io:=fun hk=>by
     obtain⟨q,hq,Hz⟩:=auW.1 hk
     exact Es q hq Hz
    have lC:bS (bn H id (some (.obj τ (qt x)))) (iD ms (u9 x) (id+1) io).2.1 id=some (.obj τ (qt x)):=by
     rw[r4 id Y6 (.inl (by omega)),ak]
    refine⟨ν',r1,?_,fun i hi=> ?_,fun i h3 h4=> ?_,fun i h3 h4 e he=> ?_,r6⟩
    ·simp only[Cp,fE,VR]
     refine⟨⟨_,lC,trivial,?_⟩,r2⟩
     simp only[A1,ER]at h1
     obtain⟨b,cs,t,Nr,_⟩:=h1
     exact⟨b,by rw[r3 id (by rw[ak];simp)];simp[cj,Nr],Nr⟩
    ·have bp:i≠id:=fun e=>hi (e▸AW)
     rw[r3 i (by rw[al _ _ bp];exact hi),Y5 i bp]
    ·have bp:i≠id:=by simp only[auj]at h4;omega
     have:=r4 i h3 (by simp only[auj]at h4;omega)
     rw[al _ _ bp]at this
     exact this
    ·by_cases h5:id+1≤i
     ·exact r5 i h5 (by simp only[auj]at h4;omega) e he
     ·have bp:i=id:=by omega
      subst bp
      have he:bS (bn H i (some (.obj τ (qt x)))) (iD ms (u9 x) (i+1) io).2.1 i=some e:=he
      rw[lC]at he;cases he
      exact .inr ⟨τ,_,rfl⟩
end VM
end
section
namespace VM
open Go
variable{P:Program}{E:Env}{o:Oper}{a:Act}{w:World}{M:Nat→Prop}{ν:Nat→Value}{σ:St}{c:Ctx}{α:Type}{r:α}{next:Act→World→Prop}{Q:Exit→Act→World→Prop}
theorem Et{i:Nat}: ∀{ups:fj} {H:Nat→Option aQ},i∈keys ups→ ∃u∈ups,u.1=i∧bS H ups i=u.2
 |[],_,h=>by simp[keys]at h
 |u::r,H,h=>by
  by_cases hk:i∈keys r
  ·obtain⟨v,h1,h2,h3⟩:=Et (H:=bn H u.1 u.2) hk
   exact⟨v,auk _ h1,h2,h3⟩
  ·have hi:i=u.1:=by
    simp only[keys,auI,auy]at h hk
    exact h.resolve_right hk
   refine⟨u,auo,hi.symm,?_⟩
   show bS (bn H u.1 u.2) r i=_
   rw[jq hk,hi,ak]
theorem yN: ∀{ups:fj} {H H':Nat→Option aQ},(∀i,i∉keys ups→H i=H' i)→bS H ups=bS H' ups
 |[],H,H',h=>funext fun i=>h i (by simp[keys])
 |u::r,H,H',h=>by
  refine yN (ups:=r) fun i hi=> ?_
  by_cases hu:i=u.1
  ·subst hu;rw[ak,ak]
  ·rw[al _ _ hu,al _ _ hu]
   exact h i (by simp only[keys,auI,auy,not_or];exact⟨hu,hi⟩)
theorem RR.mu: ∀{ms:List AM} {x:HP ms} {us ps:List Value},RR w M ms x us ps→ ∀b∈a7 ms us ps,M b
 |[],_,_,_,_,b,hb=>by simp[a7]at hb
 |m::ms,x,us,ps,h,b,hb=>by
  simp only[RR]at h
  rcases h with⟨p,AT,h1,rfl,h2,h3⟩|⟨v,CE,h1,h2,rfl,h3,h4⟩
  ·simp only[a7,h1,awt,aws,awz,aut]at hb
   rcases hb with hb|hb
   ·cases m<;>simp[AM.fF]at h1
    simp only[ct,au7,A1]at hb h2
    exact h2.sP trivial hb
   ·exact RR.mu h3 b hb
  ·simp only[a7,h1,au6,avQ,aws,awz,aut]at hb
   rcases hb with hb|hb
   ·cases m with
    |own e=>
     simp only[ct,au7,A1]at hb h3
     exact h3.sP trivial hb
    |v _=>simp[ct]at hb
    |io _=>simp[AM.fF]at h1
    |fn _ _=>simp[ct]at hb
    |fC _=>simp[ct]at hb
    |ptr τ=>
     simp only[ct,au7,A1]at hb h3
     exact h3.sP trivial hb
   ·exact RR.mu h4 b hb
theorem Br: ∀{l:List g9} {lB:List aY} {S:g9},D8 l lB=some S→S∈l
 |[],_,_,h=>by simp[D8]at h
 |T::l,lB,S,h=>by
  unfold D8 at h
  cases hf:fits T.args lB
  ·rw[hf]at h;exact auk _ (Br h)
  ·rw[hf]at h;cases h;exact auo
theorem wC{H:Nat→Option aQ}{id:Nat}: ∀{n:Nat},o6 H id n=true→ ∀i,id≤i→i<id+n→H i=none
 |0,_,i,h1,h2=>by omega
 |n+1,h,i,h1,h2=>by
  unfold o6 at h
  rw[aus]at h
  by_cases hi:i=id+n
  ·subst hi
   have h:=h.1
   split at h
   ·assumption
   ·cases h
  ·exact wC h.2 i h1 (by omega)
theorem Ns{H:Nat→Option aQ}{lB:List aY}{us:List Value}(h:fE w M H ν lB us):VR w M H ν (D6 lB) (qJ us):=by
 match lB,us,h with
 |[],[],_=>simp[D6,VR]
 |[a],[u],h=>simp only[fE,avB]at h;simpa [D6,qJ]using h
 |a::b::lB,u::v::us,h=>
  simp only[D6,VR]
  exact⟨u::v::us,by simp[qJ],h⟩
 |[],_::_,h=>simp[fE]at h
 |_::_,[],h=>simp[fE]at h
 |[_],_::_::_,h=>simp[fE]at h
 |_::_::_,[_],h=>simp[fE]at h
theorem Eu(hΓ: ∀f S,S∈E.Γ f→eP P f S){H:Nat→Option aQ}(hm:Mem c H w M ν){f id:Nat}{lB:List aY}{vs:List Value}(hv:fE w M H ν lB vs){K:fk α}(h:wj E f lB id H K=some r)
  {R:Value→World→Prop} (hR: ∀v rd ups v' w' M' ν',K v rd ups=some r→Tr c H w M ν (bS H ups) w' M' ν'→VR w' M' (bS H ups) ν' v v'→R v' w'):
  Ep P f vs.toArray w R:=by
 unfold wj at h
 split at h
 ·cases h
 rename_i S hS
 have hok:=hΓ f S (Br hS)
 obtain⟨x,rd,uo,uf,io,H2,Hq,M2,h1,hA,hK,ad1,Q9,MM⟩:=wA (ia.start hm) hv h
 clear h
 simp only[auK,avS]at hA Q9 MM
 obtain⟨y,hy,h1⟩:=avG.1 h1
 obtain⟨ib,h1⟩:=bB h1
 have ib:=wC ib
 have ajs:(fun b=>(M2 b∧b∉cD S.args vs)∨b∈cD S.args vs)=M2:=by
  funext b
  refine propext ⟨fun h=>h.elim (·.1) (hA.hM b),fun h=> ?_⟩
  by_cases hb:b∈cD S.args vs
  ·exact .inr hb
  ·exact .inl ⟨h,hb⟩
 refine Ep.mono (hok.call (fun b=>M2 b∧b∉cD S.args vs) w vs x y (fun b hb=>hA.mem.yz b hb.1) (by rw[ajs];exact ad1) hA.nd (fun b hb h=>h.2 hb) hy) ?_
 rintro e w' ⟨us,M',rfl,MN,hL,tQ,Y7⟩
 have ajt: ∀b∈cD S.args vs,c.M0 b→M' b:=by
  intro b hb h0
  obtain⟨q,hq,hqb⟩:=hA.iob b hb h0
  exact MN.mu b (MN.CF (ν q.1) (by rw[←Q9];exact au8 hq) b hqb)
 have nu: ∀b∈a7 S.res us (dr S.args vs),w.heap.size≤b∨b∈cD S.args vs:=by
  intro b hb
  rcases awC b w.heap.size with dz|Qw
  ·exact .inr ((hL.less b dz (MN.mu b hb)).resolve_left (Y7 b hb))
  ·exact .inl Qw
 have jV: ∀b∈a7 S.res us (dr S.args vs),c.B≤b∨c.may b:=fun b hb=>(nu b hb).elim (fun h=> .inl (auX hm.size h)) (hA.H5 b)
 have Ea: ∀b∈a7 S.res us (dr S.args vs),c.M0 b→ ∃p∈dr S.args vs,ed p=some b:=by
  intro b hb h0
  rcases nu b hb with h'|h'
  ·have:=hm.qn.1 b h0;have:=hm.size;omega
  ·obtain⟨q,hq,hqb⟩:=hA.iob b h' h0
   exact⟨ν q.1,by rw[←Q9];exact au8 hq,hqb⟩
 have key: ∀(Hx:Nat→Option aQ) (Mx:Nat→Prop) (U:fj),Mem c Hx w Mx ν→df w M w Mx→(∀b,M2 b→Mx b)→(∀b∈cD S.args vs,∀i e,Hx i=some e→e.mut→ed (ν i)≠some b)→
   (∀q∈io,Hx q.1=some .gone)→(∀i,i∉keys io→bS H (uo++U) i=Hx i)→(∀u∈uo++U,u.2=some .gone∨ ∃e l,u.2=some (.kt e l)∧H u.1=some (.own e l))→(∀i∈keys (uo++U),i∈keys (uo++uf))→
   RR w' (fun b=>M' b∨(Mx b∧b∉cD S.args vs)) S.res y us (dr S.args vs)→
   ∃ν',Tr c H w M ν (bS H (uo++U++(iD S.res y id io).2.1)) w' (fun b=>M' b∨(Mx b∧b∉cD S.args vs)) ν'∧
    fE w' (fun b=>M' b∨(Mx b∧b∉cD S.args vs)) (bS H (uo++U++(iD S.res y id io).2.1)) ν' (iD S.res y id io).1 us:=by
  intro Hx Mx U Nn hkx K2 ot Nt Y8 CH hU Qp
  obtain⟨jQ,Bs⟩:=Nn.call (fun b hb=>K2 b hb.1) (fun b hb=>K2 b (hA.hM b hb)) ot hA.H5 ajt hL
  have hx: ∀i e,H i=some e→i∉keys io→ ∃e',Hx i=some e'∧e.hO e':=by
   intro i e hi xU
   rw[←Y8 i xU]
   by_cases hk:i∈keys (uo++U)
   ·obtain⟨u,hu,hui,huv⟩:=Et (H:=H) hk
    rw[huv]
    rcases CH u hu with h'|⟨e1,l1,h',JL⟩
    ·exact⟨_,h',aQ.kd e⟩
    ·rw[hui,hi]at JL;cases JL;exact⟨_,h',rfl,rfl⟩
   ·rw[jq hk];exact⟨e,hi,.refl e⟩
  have Xy: ∀i,id≤i→i<id+S.res.length→Hx i=none:=by
   intro i h3 h4
   have h0:=ib i h3 h4
   have xU:i∉keys io:=fun hk=>by
    obtain⟨q,hq,Hz⟩:=auW.1 hk
    obtain⟨_,_,z,hz⟩:=hA.Qu q hq
    rw[Hz,h0]at hz;cases hz
   rw[←Y8 i xU]
   rw[jq,h0]
   intro hk
   obtain⟨_,e,l,h'⟩:=hA.ksn i (hU i hk)
   rw[h0]at h';cases h'
  obtain⟨ν',r1,r2,r3,r4,r5,r6⟩:=mq (hs:=cD S.args vs) (sz:=w.heap.size) (id:=id) (used:=[]) jQ Qp Q9.symm (by rw[←hok.ios,←MM]) hA.ion Nt Xy
   (fun i e b hi hmu hb=> .inl ⟨Nn.yz b ((Nn.iN i e hi).sP hmu hb),fun hh=>ot b hh i e hi hmu hb⟩) (by simpa using tQ) nu jV Ea
  have Y9:bS H (uo++U++(iD S.res y id io).2.1)=bS Hx (iD S.res y id io).2.1:=by
   rw[dS]
   refine yN fun i hi=> ?_
   by_cases xU:i∈keys io
   ·obtain⟨q,hq,Hz⟩:=auW.1 xU
    obtain⟨z,hz⟩:=r6 q hq
    rw[Hz,jq hi,←Hz,Nt q hq]at hz;cases hz
   ·exact Y8 i xU
  refine⟨ν',⟨by rw[Y9];exact r1,hkx.trans Bs,⟨fun i e hi=> ?_,fun i hi=> ?_⟩⟩,by rw[Y9];exact r2⟩
  ·rw[Y9]
   by_cases xU:i∈keys io
   ·obtain⟨q,hq,Hz⟩:=auW.1 xU
    obtain⟨z,hz⟩:=r6 q hq
    obtain⟨_,_,z0,hz0⟩:=hA.Qu q hq
    rw[Hz]at hz hz0
    rw[hi]at hz0;cases hz0
    exact⟨_,hz,rfl⟩
   ·obtain⟨e',sF,hl⟩:=hx i e hi xU
    have hr:i<id∨id+S.res.length≤i:=by
     rcases awC i id with h'|h'
     ·exact .inl h'
     ·rcases awC i (id+S.res.length)with JL|JL
      ·rw[ib i h' JL]at hi;cases hi
      ·exact .inr JL
    exact⟨e',by rw[r4 i xU hr];exact sF,hl⟩
  ·refine r3 i ?_
   obtain⟨e,he⟩:=awx.1 hi
   by_cases xU:i∈keys io
   ·obtain⟨q,hq,Hz⟩:=auW.1 xU
    rw[←Hz,Nt q hq];simp
   ·obtain⟨e',sF,_⟩:=hx i e he xU
    rw[sF];simp
 cases hq:S.quiet
 ·
  rw[hq]at h1
  have hMn:(fun b=>M' b∨(M2 b∧b∉cD S.args vs))=M':=by
   funext b
   exact propext ⟨fun h=>h.elim (fun h=>h) (hL.sub b),.inl⟩
  obtain⟨ν',eO,hvr⟩:=key H2 M2 uf hA.mem hA.bt (fun _ h=>h) (fun b hb i e hi hmu=>hA.none b hb i e (hA.fz.mut hi hmu) hmu) (fun q hq=>(hA.Qu q hq).1) hA.ext
   (fun u hu=>(aut.1 hu).elim (fun h=> .inl (hA.uov u h)) (fun h=> .inr (hA.ufv u h))) (fun _ h=>h) (by rw[hMn];exact MN)
  exact hR _ _ _ _ _ _ _ h1 eO (Ns hvr)
 ·rw[hq]at h1
  have K2: ∀b,M2 b→M b:=fun b hb=>hA.bt.less b (hA.mem.yz b hb) hb
  obtain⟨ν',eO,hvr⟩:=key Hq M [] hA.K0 (.refl w M) K2 hA.none (fun q hq=>(hA.Qu q hq).2.1) (by rw[auJ];exact hA.Q7)
   (fun u hu=> .inl (hA.uov u (by simpa using hu))) (fun i hi=>by simp only[keys,auJ,auV,aut]at hi ⊢;exact .inl hi) (MN.flat (fun b h=> .inl h) (hok.quiet hq))
  exact hR _ _ _ _ _ _ _ h1 eO (Ns hvr)
theorem Rb(hΓ: ∀f S,S∈E.Γ f→eP P f S)(hc:Core c σ a.tmps w M ν){args:Array Operand}{ts:Array TypeId}{g:Operand}(ho:o.op= .call {callee:= .value g,args,argTypes:=ts}){K:fk α}{f:Nat}{caps:List aY}(hg:σ.ρ g= .D1 f caps){id:Nat}
  (h:wj E f (args.toList.map σ.ρ ++caps) id σ.H K=some r) (hn:dM c σ a o w M ν K r next):o.wp P a w next Q:=by
 have hgv:=hc.ev g
 rw[hg]at hgv
 simp only[VR]at hgv
 obtain⟨cs,hgv,Cw⟩:=hgv
 have Ev: ∀{as1:List aY} {Nu:List Value},fE w M σ.H ν as1 Nu→fE w M σ.H ν (as1++caps) (Nu++cs):=by
  intro as1
  induction as1 with
  |nil=>intro Nu h1;cases Nu with
   |nil=>exact Cw
   |cons _ _=>simp[fE]at h1
  |cons x as1 ih=>intro Nu h1;cases Nu with
   |nil=>simp[fE]at h1
   |cons v Nu=>simp only[fE]at h1;simp only[avz,fE];exact⟨h1.1,ih h1.2⟩
 have hd:=Eu (P:=P) hΓ hc.mem (Ev (hc.evs args.toList)) h (R:=fun v' w'=>next (a.put o.dst v') w') (fun v rd ups v' w' M' ν' h1 h2 h3=>hn v rd ups v' w' M' ν' h1 h2 h3)
 have hex:(execOp a.eval o).run P w=(callFunc f (args.toList.map a.eval++cs).toArray).run P w:=by
  have:(args.toList.map a.eval++cs).toArray= #[]++args.map a.eval++cs.toArray:=by apply av7;simp
  rw[this]
  simp[execOp,ho,resolve,hgv,Deferred.ofValue,invoke]
 unfold Oper.wp
 rw[hex]
 exact hd o a next Q fun v w' hv=>hv
end VM
end
section
namespace VM
open Go
variable{P:Program}{E:Env}{o:Oper}{a:Act}{w:World}{M:Nat→Prop}{ν:Nat→Value}{σ:St}{c:Ctx}{α:Type}{r:α}{next:Act→World→Prop}{Q:Exit→Act→World→Prop}
structure oH(P:Program)(E:Env):Prop extends EnvTy P E where
 ad5: ∀f S,S∈E.Γ f→eP P f S
 mixed:P.follows .mixedOrders=true
 gg: ∀i L,E.qy i=some L→VM.gg L=true
 Nv: ∀i L,E.sl i=some L→VM.gg L=true
theorem K3(hE:oH P E)(hc:Core c σ a.tmps w M ν){K:fk α}(h:oq E o σ.ρ σ.H K=some r)(hn:dM c σ a o w M ν K r next):o.wp P a w next Q:=by
 have hT:=hE.toEnvTy
 unfold oq at h
 simp only at h
 split at h
 ·rename_i x ho;exact JD hc (.inl ho) h hn
 ·rename_i x ho;exact JD hc (.inr ho) h hn
 ·rename_i x y z ho
  split at h
  ·rename_i t hx;exact QT hc ho hx h hn
  ·cases h
 ·rename_i t ho
  split at h
  ·rename_i τ ht;exact M9 hT hc ho ht h hn
  ·cases h
 ·rename_i t x ho
  split at h
  ·rename_i τ ht;exact YG hT hc ho h hn
  ·cases h
 ·rename_i t ps ho
  split at h
  ·rename_i n e ht;exact CD hT hc ho ht h hn
  ·rename_i τ Q3 ht;exact xl hT hc ho ht (fun n e he=>Q3 n e he) h hn
  ·cases h
 ·rename_i t n ps ho
  split at h
  ·rename_i e ht;exact AQ hT hc ho ht h hn
  ·cases h
 ·rename_i t x ho
  split at h
  ·rename_i τ ht;exact QU hT hc ho ht h hn
  ·cases h
 ·rename_i t x y ho
  split at h
  ·rename_i τ ht;exact KV hT hc ho ht h hn
  ·cases h
 ·rename_i x ho
  split at h
  ·rename_i id p hx;exact xj hc ho hx h hn
  ·rename_i τ z hx;exact vp hc ho hx h hn
  ·cases h
 ·rename_i b t x y t' ho;exact Ni hT hc ho h hn
 ·rename_i u t x ho;exact QZ hc ho h hn
 ·rename_i s d x ho
  split at h
  ·rename_i τ k hs hd;exact HX hT hc ho hs hd h hn
  ·cases h
 ·rename_i f first caps ho;exact Ej hc ho h hn
 ·rename_i t x y ho
  split at h
  ·rename_i e ht;exact CA hT hc ho ht h hn
  ·cases h
 ·rename_i t x lo hi mx ho
  split at h
  ·rename_i τ ht;exact No hT hc ho ht h hn
  ·cases h
 ·rename_i t x n ho
  split at h
  ·rename_i τ ht
   split at h
   ·rename_i id p hx;exact vo hT hc ho ht hx h hn
   ·rename_i υ z hx;exact tL hT hc ho ht hx h hn
   ·cases h
  ·cases h
 ·rename_i t x n ho
  split at h
  ·rename_i τ ht
   split at h
   ·rename_i υ z hx;exact Ng hT hc ho ht hx h hn
   ·cases h
  ·cases h
 ·rename_i t x i ho
  split at h
  ·rename_i τ ht;exact Cy hT hc ho ht h hn
  ·cases h
 ·rename_i t x i ho
  split at h
  ·rename_i τ ht;exact Nl hT hc ho ht h hn
  ·cases h
 ·rename_i x i ho
  split at h
  ·rename_i vs hx
   split at h
   ·rename_i v hv;exact HW hc ho hx hv h hn
   ·cases h
  ·cases h
 ·rename_i cl ho
  obtain⟨callee,args,ts⟩:=cl
  simp only at h
  split at h
  ·split at h
   ·rename_i x τ ha ht;exact YO hT hc ho ha ht h hn
   ·cases h
  ·split at h
   ·rename_i x y t t' ha ht
    split at h
    ·rename_i e hte;exact KZ hT hc ho ha ht hte h hn
    ·cases h
   ·cases h
  ·split at h
   ·rename_i x xs ha;exact Xv hc true ho ha h hn
   ·cases h
  ·split at h
   ·rename_i x xs ha;exact Xv hc false ho ha h hn
   ·cases h
  ·rename_i g
   split at h
   ·rename_i f caps hg;exact Rb hE.ad5 hc ho hg h hn
   ·cases h
  ·cases h
 ·cases h
end VM
end
section
namespace VM
open Go
variable{P:Program}{E:Env}{o:Oper}{a:Act}{w:World}{M:Nat→Prop}{ν:Nat→Value}{σ:St}{c:Ctx}{α:Type}{r:α}{next:Act→World→Prop}{Q:Exit→Act→World→Prop}
theorem pb(σ:St)(d:Nat)(v:aY):(σ.put d v).T d=v:=by
 show cond (Nat.beq d d) v (σ.T d)=v
 rw[show Nat.beq d d=true from awV d];rfl
theorem tR(σ:St){d i:Nat}(v:aY)(h:i≠d):(σ.put d v).T i=σ.T i:=by
 show cond (Nat.beq i d) v (σ.T i)=σ.T i
 have:Nat.beq i d=false:=by rw[←av4,axA];exact h
 rw[this];rfl
theorem aom(σ:St)(d:Nat)(v:aY):(σ.put d v).H=σ.H:=rfl
theorem yO(σ:St)(d:Nat):σ.put d (σ.T d)=σ:=by
 obtain⟨T,H⟩:=σ
 unfold St.put
 congr 1
 funext i
 by_cases h:i=d
 ·subst h;show cond (Nat.beq i i) (T i) (T i)=T i;cases Nat.beq i i<;>rfl
 ·have:Nat.beq i d=false:=by rw[←av4,axA];exact h
  rw[this];rfl
theorem Core.tr{tm:Array Value}(h:Core c σ tm w M ν){H':Nat→Option aQ}{w':World}{M':Nat→Prop}{ν':Nat→Value}(t:Tr c σ.H w M ν H' w' M' ν'):Core c ⟨σ.T,H'⟩ tm w' M' ν':=
 ⟨t.mem,fun i=>VR.bt t.bt t.goes (h.tmp i)⟩
theorem Core.qg{tm:Array Value}(h:Core c σ tm w M ν){d:Option Nat}{x:aY}{v:Value}{io:List Nat}(hd:D2 tm.size io d=true)(hx:VR w M σ.H ν x v)(ds:List Deferred):
  Core c (σ.qg d x) (({tmps:=tm,defers:=ds}:Act).put d v).tmps w M ν:=by
 cases d with
 |none=>exact h
 |some d=>
  have dz:d<tm.size:=by simp only[D2,aus,axQ]at hd;exact hd.1
  refine⟨h.mem,fun i=> ?_⟩
  show VR w M σ.H ν ((σ.put d x).T i) ((tm.setIfInBounds d v).getD i undef)
  by_cases hi:i=d
  ·subst hi
   rw[pb]
   simp[Array.getD,dz]
   exact hx
  ·rw[tR _ _ hi]
   have:=h.tmp i
   have he:(tm.setIfInBounds d v).getD i undef=tm.getD i undef:=by
    rw[avg,avg,awZ (av0 hi)]
   rw[he];exact this
def Inv(c:Ctx)(E:Env)(σ:St)(a:Act)(w:World):Prop:=(∃M ν,Core c σ a.tmps w M ν)∧a.tmps.size=E.nt∧a.defers=[]∧ ∀i∈E.io,a.tmps.getD i undef=c.arg i
theorem Ew(a:Act)(d:Option Nat)(v:Value):(a.put d v).tmps.size=a.tmps.size:=by
 cases d<;>simp[Act.put]
theorem put_defers(a:Act)(d:Option Nat)(v:Value):(a.put d v).defers=a.defers:=by
 cases d<;>rfl
theorem JM{d:Option Nat}{v:Value}{io:List Nat}{n:Nat}(hd:D2 n io d=true){i:Nat}(hi:i∈io):(a.put d v).tmps.getD i undef=a.tmps.getD i undef:=by
 cases d with
 |none=>rfl
 |some d=>
  simp only[D2,aus,av5]at hd
  have h1:=hd.2 i hi
  have fL:i≠d:=by
   intro e;subst e
   simp at h1
  show(a.tmps.setIfInBounds d v).getD i undef=_
  rw[avg,avg,awZ (av0 fL)]
theorem Inv.bool(h:Inv c E σ a w){x:Operand}{b:Bool}(hx:σ.ρ x= .val .bool b):a.eval x= .bool b:=by
 obtain⟨⟨M,ν,hc⟩,_,_,_⟩:=h
 have:=hc.ev x
 rw[hx]at this
 exact this.bool
theorem wD(hE:oH P E){ops:Array Oper}(hI:Inv c E σ a w){K:St→List Nat→List Nat→Option α}(h:oy E ops.toList o σ K=some r)
  (hn: ∀σ' a' w' rd wr,K σ' rd wr=some r→Inv c E σ' a' w'→next a' w'):
  if Region.wanted o (yielded ops a.tmps)then o.wp P a w next Q else next (a.put o.dst undef) w:=by
 unfold oy at h
 obtain⟨hd,h⟩:=bB h
 have cw:oq E o σ.ρ σ.H (fun v rd ups=>K ((σ.qw ups).qg o.dst v) rd (ups.map (·.1)))=some r→o.wp P a w next Q:=by
  intro h
  obtain⟨⟨M,ν,hc⟩,hs,Za,sv⟩:=hI
  refine K3 hE hc h fun v rd ups v' w' M' ν' hK eO hV=> ?_
  refine hn _ _ _ _ _ hK ⟨⟨M',ν',?_⟩,by rw[Ew,hs],by rw[put_defers,Za],fun i hi=>(JM hd hi).trans (sv i hi)⟩
  have h1:=hc.tr eO
  have h2:σ.qw ups=⟨σ.T,bS σ.H ups⟩:=by rw[←HT,←HU ups σ]
  rw[h2]
  exact h1.qg (by rw[hs];exact hd) hV a.defers
 have nL: ∀rd wr,K (σ.qg o.dst .M4) rd wr=some r→next (a.put o.dst undef) w:=by
  intro rd wr h
  obtain⟨⟨M,ν,hc⟩,hs,Za,sv⟩:=hI
  refine hn _ _ _ _ _ h ⟨⟨M,ν,hc.qg (by rw[hs];exact hd) (by simp[VR]) a.defers⟩,by rw[Ew,hs],by rw[put_defers,Za],fun i hi=>(JM hd hi).trans (sv i hi)⟩
 simp only at h
 split at h
 ·rename_i hg
  have:Region.wanted o (yielded ops a.tmps)=true:=by simp[Region.wanted,hg]
  rw[auh this]
  exact cw h
 ·rename_i j want hg
  split at h
  ·cases h
  ·rename_i t ht
   have ht':(ops[j]?).bind (·.dst)=some t:=by rw[←auS];exact ht
   have hy: ∀b,σ.T t= .val .bool b→yielded ops a.tmps j=some b:=by
    intro b hb
    obtain⟨⟨M,ν,hc⟩,hs,_,_⟩:=hI
    have h1:=hc.tmp t
    rw[hb]at h1
    have h1:=h1.bool
    have h2:a.tmps[t]? =some (.bool b):=by
     rw[avg]at h1
     cases h3:a.tmps[t]? with
     |none=>rw[h3]at h1;simp[undef]at h1
     |some v=>rw[h3]at h1;simpa using h1
    simp[yielded,ht',h2]
   split at h
   ·rename_i b hb
    have lx:σ.put t (.val .bool b)=σ:=by rw[←hb];exact yO σ t
    have hw:=hy b hb
    cases want<;>cases b
    ·rw[auh (by simp[Region.wanted,hg,hw])]
     rw[lx]at h;exact cw h
    ·rw[aui (by simp[Region.wanted,hg,hw])]
     rw[lx]at h;exact nL _ _ h
    ·rw[aui (by simp[Region.wanted,hg,hw])]
     rw[lx]at h;exact nL _ _ h
    ·rw[auh (by simp[Region.wanted,hg,hw])]
     rw[lx]at h;exact cw h
   ·rename_i hb
    have xh: ¬Region.wanted o (yielded ops a.tmps)=true:=by
     obtain⟨⟨M,ν,hc⟩,hs,_,_⟩:=hI
     have h1:=hc.tmp t
     rw[hb]at h1
     simp only[VR]at h1
     have h2: ∀b,a.tmps[t]? ≠some (.bool b):=by
      intro b dy
      rw[avg,dy]at h1
      simp[undef]at h1
     have h3:yielded ops a.tmps j=none:=by
      unfold yielded
      rw[ht']
      show(match a.tmps[t]? with|some (.bool b)=>some b|_=>none)=none
      split
      ·rename_i b dy;exact absurd dy (h2 b)
      ·rfl
     simp[Region.wanted,hg,h3]
    rw[aui xh]
    exact nL _ _ h
   ·cases h
theorem yP(hE:oH P E){ops:Array Oper}: ∀(l:List Oper) (i:Nat) (σ:St) (lg:Log) (a:Act) (w:World) (K:St→Log→Option α),Inv c E σ a w→KM E ops.toList l i σ lg K=some r→
  (∀σ' Xz a' w',K σ' Xz=some r→Inv c E σ' a' w'→Q .normal a' w')→wpList P ops Q l a w
 |[],i,σ,lg,a,w,K,hI,h,hn=>hn _ _ _ _ h hI
 |o::l,i,σ,lg,a,w,K,hI,h,hn=>by
  unfold KM at h
  refine wpList_step fun K' hK'=> ?_
  exact wD hE hI h fun σ' a' w' rd wr h' sH=>hK' _ _ (yP hE l (i+1) σ' _ a' w' K sH h' hn)
theorem Ex(hI:Inv c E σ a w){x:Operand}{A B:St→Option α}(h:Bi E x σ A B=some r): ∃b,a.eval x= .bool b∧(if b then A σ else B σ)=some r:=by
 unfold Bi at h
 split at h
 ·rename_i b hb
  refine⟨b,hI.bool hb,?_⟩
  split at h
  ·rename_i t
   have hb:σ.T t= .val .bool b:=hb
   have lx:σ.put t (.val .bool b)=σ:=by rw[←hb];exact yO σ t
   cases b
   ·rw[lx]at h;exact h
   ·rw[lx]at h;exact h
  ·cases b<;>exact h
 ·cases h
end VM
end
section
namespace VM
open Go
variable{P:Program}{E:Env}{o:Oper}{a:Act}{w:World}{M:Nat→Prop}{ν:Nat→Value}{σ:St}{c:Ctx}{α:Type}{r:α}{next:Act→World→Prop}{Q:Exit→Act→World→Prop}
def mix{β:Type}(A B:Nat→β):Nat→β:=fun i=>if i%2=0 then A (i/2)else B (i/2)
theorem eQ{β:Type}(A B:Nat→β)(i:Nat):mix A B (2*i)=A i:=by
 unfold mix
 rw[auh (by omega),show 2*i/2=i from by omega]
theorem qa{β:Type}(A B:Nat→β)(i:Nat):mix A B (2*i+1)=B i:=by
 unfold mix
 rw[aui (by omega),show(2*i+1)/2=i from by omega]
theorem ac6{β:Type}{A B A' B':Nat→β}(hl: ∀i,A i=A' i)(hr: ∀i,B i=B' i):mix A B=mix A' B':=by
 funext i;unfold mix;rw[hl,hr]
def aQ.re(f:Nat→Nat):aQ→aQ
 | .dO τ x p j=> .dO τ x p (f j)
 |e=>e
theorem ER.re{v:Value}{f:Nat→Nat}{e:aQ}:ER w M v (e.re f)↔ER w M v e:=by cases e<;>simp[aQ.re,ER]
theorem aQ.mv{f:Nat→Nat}{e:aQ}:(e.re f).mut↔e.mut:=by cases e<;>simp[aQ.re,aQ.mut]
theorem aQ.JN{f g:Nat→Nat}{e e':aQ}:(e.re f).hO (e'.re g)↔e.hO e':=by cases e<;>cases e'<;>simp[aQ.re,aQ.hO]
def ml(i:Nat):Nat:=2*i
def mr(i:Nat):Nat:=2*i+1
def fl(A B:Nat→Option aQ):Nat→Option aQ:=fun i=>if i%2=0 then(A (i/2)).map (aQ.re ml)else(B (i/2)).map (aQ.re mr)
theorem sU(A B:Nat→Option aQ)(i:Nat):fl A B (2*i)=(A i).map (aQ.re ml):=by
 unfold fl
 rw[auh (by omega),show 2*i/2=i from by omega]
theorem pd(A B:Nat→Option aQ)(i:Nat):fl A B (2*i+1)=(B i).map (aQ.re mr):=by
 unfold fl
 rw[aui (by omega),show(2*i+1)/2=i from by omega]
theorem eV{A B:Nat→Option aQ}{i:Nat}{e:aQ}(h:A i=some e):fl A B (2*i)=some (e.re ml):=by rw[sU,h];rfl
theorem pe{A B:Nat→Option aQ}{i:Nat}{e:aQ}(h:B i=some e):fl A B (2*i+1)=some (e.re mr):=by rw[pd,h];rfl
theorem CI{A B:Nat→Option aQ}{i:Nat}:fl A B (2*i)≠none↔A i≠none:=by rw[sU];cases A i<;>simp
theorem CJ{A B:Nat→Option aQ}{i:Nat}:fl A B (2*i+1)≠none↔B i≠none:=by rw[pd];cases B i<;>simp
theorem mw(A B:Nat→Option aQ)(i:Nat)(v:Option aQ):bn (fl A B) (2*i) (v.map (aQ.re ml))=fl (bn A i v) B:=by
 funext k
 by_cases hk:k=2*i
 ·subst hk;rw[ak,sU,ak]
 ·rw[al _ _ hk]
  unfold fl
  by_cases h2:k%2=0
  ·rw[auh h2,auh h2,al _ _ (by omega)]
  ·rw[aui h2,aui h2]
theorem yQ(A B:Nat→Option aQ)(i:Nat)(v:Option aQ):bn (fl A B) (2*i+1) (v.map (aQ.re mr))=fl A (bn B i v):=by
 funext k
 by_cases hk:k=2*i+1
 ·subst hk;rw[ak,pd,ak]
 ·rw[al _ _ hk]
  unfold fl
  by_cases h2:k%2=0
  ·rw[auh h2,auh h2]
  ·rw[aui h2,aui h2,al _ _ (by omega)]
theorem yR(A B:Nat→Value)(i:Nat)(v:Value):cj (mix A B) (2*i+1) v=mix A (cj B i v):=by
 funext k
 unfold cj mix
 by_cases hk:k=2*i+1
 ·subst hk;rw[auh rfl,aui (by omega)]
  show v=if(2*i+1)/2=i then v else B ((2*i+1)/2)
  rw[auh (by omega)]
 ·rw[aui hk]
  by_cases h2:k%2=0
  ·rw[auh h2,auh h2]
  ·rw[aui h2,aui h2]
   show B (k/2)=if k/2=i then v else B (k/2)
   rw[aui (by omega)]
theorem Mem.left{H A:Nat→Option aQ}{νA:Nat→Value}(h:Mem c (fl H A) w M (mix ν νA)):Mem c H w M ν:=
 ⟨fun i e hi=>by have:=h.iN (2*i) _ (eV hi);rw[eQ]at this;exact ER.re.1 this,
  fun i j e e' b np hi hm hj gG=>by have:=h.u7 (2*i) (2*j) _ _ b (by omega) (eV hi) (aQ.mv.2 hm) (eV hj) (aQ.mv.2 gG);rwa [eQ,eQ]at this,
  fun i e b hi hm=>by have:=h.new (2*i) _ b (eV hi) (aQ.mv.2 hm);rwa [eQ]at this,
  fun i e l b hi=>by have:=h.tu (2*i) e l b (eV hi);rwa [eQ]at this,
  fun i τ x p j hi=>by
   obtain⟨h1,b,h2,h3⟩:=h.dO (2*i) τ x p (ml j) (eV hi)
   rw[eQ]at h2
   unfold ml at h1 h3
   rw[eQ]at h3
   exact⟨CI.1 h1,b,h2,h3⟩,
  h.sub,h.yz,h.frame,h.size,h.qn,h.os,h.tape,h.output⟩
theorem Mem.right{H A:Nat→Option aQ}{νA:Nat→Value}(h:Mem c (fl H A) w M (mix ν νA)):Mem c A w M νA:=
 ⟨fun i e hi=>by have:=h.iN (2*i+1) _ (pe hi);rw[qa]at this;exact ER.re.1 this,
  fun i j e e' b np hi hm hj gG=>by have:=h.u7 (2*i+1) (2*j+1) _ _ b (by omega) (pe hi) (aQ.mv.2 hm) (pe hj) (aQ.mv.2 gG);rwa [qa,qa]at this,
  fun i e b hi hm=>by have:=h.new (2*i+1) _ b (pe hi) (aQ.mv.2 hm);rwa [qa]at this,
  fun i e l b hi=>by have:=h.tu (2*i+1) e l b (pe hi);rwa [qa]at this,
  fun i τ x p j hi=>by
   obtain⟨h1,b,h2,h3⟩:=h.dO (2*i+1) τ x p (mr j) (pe hi)
   rw[qa]at h2
   unfold mr at h1 h3
   rw[qa]at h3
   exact⟨CJ.1 h1,b,h2,h3⟩,
  h.sub,h.yz,h.frame,h.size,h.qn,h.os,h.tape,h.output⟩
theorem Mem.Rc{H:Nat→Option aQ}(νA:Nat→Value)(h:Mem c H w M ν):Mem c (fl H (fun _=>none)) w M (mix ν νA):=by
 have key: ∀i e,fl H (fun _=>none) i=some e→ ∃j e0,i=2*j∧H j=some e0∧e=e0.re ml:=by
  intro i e hi
  unfold fl at hi
  by_cases h2:i%2=0
  ·rw[auh h2]at hi
   obtain⟨e0,h3,h4⟩:=awo.1 hi
   exact⟨i/2,e0,by omega,h3,h4.symm⟩
  ·rw[aui h2]at hi;cases hi
 refine⟨fun i e hi=> ?_,fun i j e e' b np hi hm hj gG=> ?_,fun i e b hi hm=> ?_,fun i e l b hi=> ?_,fun i τ x p j hi=> ?_,h.sub,h.yz,h.frame,h.size,h.qn,h.os,h.tape,h.output⟩
 ·obtain⟨j,e0,rfl,hj,rfl⟩:=key i e hi;rw[eQ];exact ER.re.2 (h.iN j e0 hj)
 ·obtain⟨i',e1,rfl,ji,rfl⟩:=key i e hi;obtain⟨j',e2,rfl,XA,rfl⟩:=key j e' hj
  rw[eQ,eQ];exact h.u7 i' j' e1 e2 b (by omega) ji (aQ.mv.1 hm) XA (aQ.mv.1 gG)
 ·obtain⟨j,e0,rfl,hj,rfl⟩:=key i e hi;rw[eQ];exact h.new j e0 b hj (aQ.mv.1 hm)
 ·obtain⟨j,e0,rfl,hj,he⟩:=key i _ hi
  cases e0<;>simp only[aQ.re]at he<;>cases he
  rw[eQ];exact h.tu j e l b hj
 ·obtain⟨k,e0,rfl,hk,he⟩:=key i _ hi
  cases e0<;>simp only[aQ.re]at he<;>cases he
  obtain⟨h1,b,h2,h3⟩:=h.dO k _ _ _ _ hk
  refine⟨CI.2 h1,b,by rw[eQ];exact h2,?_⟩
  unfold ml
  rw[eQ];exact h3
theorem n7.left{H A H' A':Nat→Option aQ}{νA ν' K4:Nat→Value}(g:n7 (fl H A) (mix ν νA) (fl H' A') (mix ν' K4)):n7 H ν H' ν':=
 ⟨fun i e hi=>by
   obtain⟨e',h1,h2⟩:=g.iN (2*i) _ (eV hi)
   rw[sU]at h1
   obtain⟨e0,h3,rfl⟩:=awo.1 h1
   exact⟨e0,h3,aQ.JN.1 h2⟩,
  fun i hi=>by have:=g.head (2*i) (CI.2 hi);rwa [eQ,eQ]at this⟩
theorem n7.right{H A H' A':Nat→Option aQ}{νA ν' K4:Nat→Value}(g:n7 (fl H A) (mix ν νA) (fl H' A') (mix ν' K4)):n7 A νA A' K4:=
 ⟨fun i e hi=>by
   obtain⟨e',h1,h2⟩:=g.iN (2*i+1) _ (pe hi)
   rw[pd]at h1
   obtain⟨e0,h3,rfl⟩:=awo.1 h1
   exact⟨e0,h3,aQ.JN.1 h2⟩,
  fun i hi=>by have:=g.head (2*i+1) (CJ.2 hi);rwa [qa,qa]at this⟩
theorem Mem.move{H A:Nat→Option aQ}{νA:Nat→Value}(h:Mem c (fl H A) w M (mix ν νA)){i j:Nat}{e e1:aQ}(hi:H i=some e)(hm:e.mut)(hj:A j=none)
  (HV:(e1=e∧ ∀τ x p k,e≠ .dO τ x p k)∨ ∃τ x p k k',e= .dO τ x p k∧e1= .dO τ x p k'∧A k'≠none∧νA k'=ν k):
  Tr c (fl H A) w M (mix ν νA) (fl (bn H i (some .gone)) (bn A j (some e1))) w M (mix ν (cj νA j (ν i))):=by
 have hg:=Tr.gone h (2*i)
 have hgo:(some aQ.gone)=(some aQ.gone).map (aQ.re ml):=rfl
 rw[hgo,mw]at hg
 have MM:=eV (B:=A) hi
 have hER:ER w M (ν i) (e1.re mr):=by
  have h1:=h.iN (2*i) _ MM
  rw[eQ]at h1
  have h1:=ER.re.1 h1
  rcases HV with⟨rfl,_⟩|⟨τ,x,p,k,k',rfl,rfl,_,_⟩
  ·exact ER.re.2 h1
  ·exact h1
 have h2:=Mem.wB hg.mem (id:=2*j+1) (v:=ν i) (e:=e1.re mr) (fun e' sF=>by rw[pd,hj]at sF;cases sF)
  hER
  (fun b hb k e' hk gG=>by
   by_cases Qv:k=2*i
   ·subst Qv;rw[sU,ak]at hk;cases hk;simp[aQ.re,aQ.mut]at gG
   ·have hk3:fl H A k=some e':=by
     have:=congrFun (mw H A i (some .gone)) k
     rw[al _ _ Qv]at this
     rw[this];exact hk
    have:=h.u7 (2*i) k _ e' b (av0 Qv) MM (aQ.mv.2 hm) hk3 gG
    rw[eQ]at this
    exact this hb)
  (fun b hb=>by have:=h.new (2*i) _ b MM (aQ.mv.2 hm);rw[eQ]at this;exact this hb)
  (fun b e0 l0 he hb=>by
   rcases HV with⟨rfl,_⟩|⟨τ,x,p,k,k',rfl,rfl,_,_⟩
   ·cases e1<;>simp only[aQ.re]at he<;>cases he
    have:=h.tu (2*i) e0 l0 b MM;rw[eQ]at this;exact this hb
   ·simp[aQ.re]at he)
  (.inl (by rw[pd,hj];rfl))
  (fun τ x p k he=>by
   rcases HV with⟨rfl,hn⟩|⟨τ,x,p,k,k',rfl,rfl,hk,hνk⟩
   ·cases e1<;>simp only[aQ.re]at he<;>cases he
    exact absurd rfl (hn _ _ _ _)
   ·simp only[aQ.re]at he
    cases he
    obtain⟨_,b,h4,h5⟩:=h.dO (2*i) _ _ _ _ MM
    rw[eQ]at h4
    have hkj:k'≠j:=fun e=>hk (e▸hj)
    refine⟨?_,b,h4,?_⟩
    ·rw[al _ _ (by unfold mr;omega)]
     unfold mr
     exact CJ.2 hk
    ·unfold ml at h5
     rw[eQ]at h5
     rw[h5,←hνk]
     have:cj (mix ν νA) (2*j+1) (ν i) (mr k')=mix ν νA (mr k'):=by
      unfold cj mr;rw[aui (by omega)]
     rw[this];unfold mr;rw[qa])
 have Re:some (e1.re mr)=(some e1).map (aQ.re mr):=rfl
 rw[Re,yQ,yR]at h2
 refine⟨h2,.refl w M,⟨fun k e' hk=> ?_,fun k hk=> ?_⟩⟩
 ·by_cases h3:k%2=0
  ·obtain⟨k',rfl⟩: ∃k',k=2*k':=⟨k/2,by omega⟩
   by_cases xU:k'=i
   ·subst xU;exact⟨.gone,by rw[sU,ak];rfl,aQ.kd _⟩
   ·exact⟨e',by rw[sU]at hk ⊢;rw[al _ _ xU];exact hk,.refl e'⟩
  ·obtain⟨k',rfl⟩: ∃k',k=2*k'+1:=⟨k/2,by omega⟩
   rw[pd]at hk ⊢
   have xU:k'≠j:=fun e=>by rw[e,hj]at hk;cases hk
   exact⟨e',by rw[al _ _ xU];exact hk,.refl e'⟩
 ·by_cases h3:k%2=0
  ·obtain⟨k',rfl⟩: ∃k',k=2*k':=⟨k/2,by omega⟩
   rw[eQ,eQ]
  ·obtain⟨k',rfl⟩: ∃k',k=2*k'+1:=⟨k/2,by omega⟩
   rw[qa,qa]
   have xU:k'≠j:=fun e=>by rw[pd,e,hj]at hk;exact hk rfl
   simp[cj,xU]
theorem Mem.fresh{H A:Nat→Option aQ}{νA:Nat→Value}(h:Mem c (fl H A) w M (mix ν νA)){j:Nat}(hj:A j=none)(e:Ty)(ad:Option Addr):
  Tr c (fl H A) w M (mix ν νA) (fl H (bn A j (some (.own e [])))) w M (mix ν (cj νA j (.slice ad 0 0))):=by
 have:=Tr.nothing h (id:=2*j+1) (by rw[pd,hj];rfl) e ad
 have Re:some (aQ.own e [])=(some (aQ.own e [])).map (aQ.re mr):=rfl
 rw[Re,yQ,yR]at this
 exact this
structure Cut(c:Ctx)(σ acc:St)(tm:Array Value)(w:World)(M:Nat→Prop)(ν νA:Nat→Value):Prop where
 mem:Mem c (fl σ.H acc.H) w M (mix ν νA)
 src: ∀i,VR w M σ.H ν (σ.T i) (tm.getD i undef)
 dst: ∀i,VR w M acc.H νA (acc.T i) (tm.getD i undef)
theorem Cut.tr{acc:St}{tm:Array Value}{νA:Nat→Value}(h:Cut c σ acc tm w M ν νA){H' A':Nat→Option aQ}{M':Nat→Prop}{K4:Nat→Value}(t:Tr c (fl σ.H acc.H) w M (mix ν νA) (fl H' A') w M' (mix ν K4)){s:Nat}{x:aY}(hx:VR w M' A' K4 x (tm.getD s undef)):
  Cut c ⟨σ.T,H'⟩ ⟨(acc.put s x).T,A'⟩ tm w M' ν K4:=by
 refine⟨t.mem,fun i=>VR.bt t.bt t.goes.left (h.src i),fun i=> ?_⟩
 show VR w M' A' K4 ((acc.put s x).T i) _
 by_cases hi:i=s
 ·subst hi;rw[pb];exact hx
 ·rw[tR _ _ hi];exact VR.bt t.bt t.goes.right (h.dst i)
def Nw(A:Nat→Option aQ)(s:Nat):Prop:=A (16*s+13)=none∧A (16*s+14)=none∧A (16*s+15)=none
theorem iF{q:Nat×CM}{L:List (Nat×CM)}{A:Nat→Option aQ}(hF:gg (q::L)=true)(hN: ∀p∈q::L,Nw A p.1):
  gg L=true∧(∀p∈L,Nw A p.1)∧
   ∀(A':Nat→Option aQ) (d:Nat) (v:Option aQ),(d=16*q.1+13∨d=16*q.1+14∨d=16*q.1+15)→(∀p∈L,Nw A' p.1)→ ∀p∈L,Nw (bn A' d v) p.1:=by
 unfold gg at hF
 rw[aus,av5]at hF
 refine⟨hF.2,fun p hp=>hN p (auk _ hp),fun A' d v hd hN' p hp=> ?_⟩
 have fL:p.1≠q.1:=fun e=>by
  have:=hF.1 p hp
  rw[e]at this
  simp at this
 obtain⟨h1,h2,h3⟩:=hN' p hp
 exact⟨by rw[al _ _ (by omega)];exact h1,by rw[al _ _ (by omega)];exact h2,by rw[al _ _ (by omega)];exact h3⟩
theorem c8{tm:Array Value}: ∀(L:List (Nat×CM)) (σ acc:St) (M:Nat→Prop) (νA:Nat→Value) (K:St→Option α),Cut c σ acc tm w M ν νA→gg L=true→(∀q∈L,Nw acc.H q.1)→eJ L σ acc K=some r→
  ∃Rf M' K4,K Rf=some r∧Core c Rf tm w M' K4
 |[],σ,acc,M,νA,K,hC,_,_,h=>⟨acc,M,νA,h,hC.mem.right,hC.dst⟩
 |(s,.v τ)::L,σ,acc,M,νA,K,hC,hF,hN,h=>by
  obtain⟨HA,HB,K5⟩:=iF hF hN
  unfold eJ at h
  obtain⟨y,rd,ups,h,hy⟩:=xT hC.mem.left (hC.src s) h
  rcases hy with⟨rfl,hV⟩|⟨id,e,l,rfl,aS,hV⟩
  ·exact c8 L σ _ M νA K (hC.tr (.refl hC.mem) (x:= .val τ y) (by simp only[VR];exact hV)) HA HB h
  ·obtain⟨M2,eO,_,Cx⟩:=Tr.freeze hC.mem (id:=2*id) (eV aS)
   have Re:some (aQ.kt e l)=(some (aQ.kt e l)).map (aQ.re ml):=rfl
   rw[Re,mw]at eO
   refine c8 L _ _ M2 νA K (hC.tr eO (x:= .val τ y) ?_) HA HB h
   simp only[VR]
   exact hV M2 (fun b=>by rw[Cx b,eQ])
 |(s,.own e)::L,σ,acc,M,νA,K,hC,hF,hN,h=>by
  obtain⟨HA,HB,K5⟩:=iF hF hN
  unfold eJ at h
  have hs:=hC.src s
  split at h
  ·rename_i hT
   have hj:=(hN _ auo).2.1
   rw[hT]at hs
   obtain⟨ad,hv⟩:=VR.emp.1 hs
   refine c8 L σ _ M _ K (hC.tr (hC.mem.fresh hj e ad) (x:= .ref (16*s+14)) ?_) HA (K5 _ _ _ (.inr (.inl rfl)) HB) h
   simp only[VR]
   exact⟨by rw[ak];simp,by rw[hv];simp[cj]⟩
  ·rename_i id hT
   rw[hT]at hs
   simp only[VR]at hs
   split at h
   ·rename_i e' l aS
    obtain⟨e1,h⟩:=a6 h
    cases e1
    have hj:=(hN _ auo).2.1
    refine c8 L _ _ M _ K (hC.tr (hC.mem.move aS trivial hj (.inl ⟨rfl,fun _ _ _ _=>by simp⟩)) (x:= .ref (16*s+14)) ?_) HA (K5 _ _ _ (.inr (.inl rfl)) HB) h
    simp only[VR]
    exact⟨by rw[ak];simp,by rw[hs.2];simp[cj]⟩
   ·cases h
  ·cases h
 |(s,.obj τ)::L,σ,acc,M,νA,K,hC,hF,hN,h=>by
  obtain⟨HA,HB,K5⟩:=iF hF hN
  unfold eJ at h
  have hs:=hC.src s
  split at h
  ·rename_i id hT
   rw[hT]at hs
   split at h
   ·rename_i υ x aS
    obtain⟨e1,h⟩:=a6 h
    subst e1
    have hj:=(hN _ auo).2.1
    simp only[VR]at hs
    obtain⟨e,he,jO⟩:=hs
    rw[aS]at he;cases he
    simp only[AR]at jO
    obtain⟨_,b,hb,hv⟩:=jO
    refine c8 L _ _ M _ K (hC.tr (hC.mem.move aS trivial hj (.inl ⟨rfl,fun _ _ _ _=>by simp⟩)) (x:= .fC (16*s+14) []) ?_) HA (K5 _ _ _ (.inr (.inl rfl)) HB) h
    simp only[VR]
    exact⟨_,ak _ _ _,trivial,b,by simp[cj,hb],hv⟩
   ·
    rename_i υ x q k aS
    obtain⟨z,ups,M2,hK,eO,ad6,b,cs,t,hb,hg,Cx,gV⟩: ∃z ups M2,b7 υ τ z (fun y=>eJ L ((σ.qw ups).gZ id (some .gone)) ((acc.put s (.fC (16*s+14) [])).gZ (16*s+14) (some (.obj τ y))) K)=some r∧
      Tr c (fl σ.H acc.H) w M (mix ν νA) (fl (bS σ.H ups) acc.H) w M2 (mix ν νA)∧bS σ.H ups id=some (.dO υ x q k)∧ ∃b cs t,ν id= .pointer (some ⟨b,0,none⟩)∧w.heap[b]? =some (.cells cs t (0,0))∧M2 b∧Rd w M2 υ cs.toList z:=by
     have ad7:=eV (B:=acc.H) aS
     unfold xa at h
     split at h
     ·rename_i e l hk
      have fL:id≠k:=fun e=>by rw[e,hk]at aS;cases aS
      obtain⟨z,ups,M2,hK,eO,_,YW,b,cs,t,hb,hg,Cx,gV⟩:=sR (H:=fl σ.H acc.H) hC.mem (id:=2*id) (j:=2*k) (x:=x) (q:=q)
       (k:=fun z _=>b7 υ τ z fun y=>eJ L ((σ.qw [(k,some (.kt e l))]).gZ id (some .gone)) ((acc.put s (.fC (16*s+14) [])).gZ (16*s+14) (some (.obj τ y))) K) ad7 (by
        unfold xa
        rw[eV hk]
        exact h)
      rw[eQ]at hb
      rcases YW with⟨e2,l2,h2,_⟩|⟨e2,l2,h2,rfl⟩
      ·rw[eV hk]at h2;simp[aQ.re]at h2
      ·rw[eV hk]at h2
       simp only[aQ.re,avb]at h2
       have Re:some (aQ.kt e l)=(some (aQ.kt e l)).map (aQ.re ml):=rfl
       have qG:Tr c (fl σ.H acc.H) w M (mix ν νA) (bn (fl σ.H acc.H) (2*k) (some (.kt e l))) w M2 (mix ν νA):=by
        cases h2;exact eO
       rw[Re,mw]at qG
       exact⟨z,_,M2,hK,qG,by show bn σ.H k _ id=_;rw[al _ _ fL];exact aS,b,cs,t,hb,hg,Cx,gV⟩
     ·rename_i e l hk
      obtain⟨z,ups,M2,hK,eO,_,YW,b,cs,t,hb,hg,Cx,gV⟩:=sR (H:=fl σ.H acc.H) hC.mem (id:=2*id) (j:=2*k) (x:=x) (q:=q)
       (k:=fun z _=>b7 υ τ z fun y=>eJ L ((σ.qw []).gZ id (some .gone)) ((acc.put s (.fC (16*s+14) [])).gZ (16*s+14) (some (.obj τ y))) K) ad7 (by
        unfold xa
        rw[eV hk]
        exact h)
      rw[eQ]at hb
      rcases YW with⟨e2,l2,h2,rfl⟩|⟨e2,l2,h2,_⟩
      ·exact⟨z,[],M2,hK,eO,aS,b,cs,t,hb,hg,Cx,gV⟩
      ·rw[eV hk]at h2;simp[aQ.re]at h2
     ·cases h
    obtain⟨e1,hK⟩:=a6 hK
    subst e1
    have hC2:Cut c ⟨σ.T,bS σ.H ups⟩ acc tm w M2 ν νA:=⟨eO.mem,fun i=>VR.bt eO.bt eO.goes.left (hC.src i),fun i=>VR.bt eO.bt eO.goes.right (hC.dst i)⟩
    have nv:=Tr.KP (e':= .obj υ z) eO.mem (eV ad6) trivial trivial rfl (fun _ _=>by simp) (by rw[eQ];simp only[ER];exact⟨b,cs,t,hb,hg,Cx,gV⟩) (fun _ _ _ _ h=>by cases h)
    have Re:some (aQ.obj υ z)=(some (aQ.obj υ z)).map (aQ.re ml):=rfl
    rw[Re,mw]at nv
    have hC3:Cut c ⟨σ.T,bn (bS σ.H ups) id (some (.obj υ z))⟩ acc tm w M2 ν νA:=⟨nv.mem,fun i=>VR.bt nv.bt nv.goes.left (hC2.src i),fun i=>VR.bt nv.bt nv.goes.right (hC2.dst i)⟩
    have hj:=(hN _ auo).2.1
    simp only[VR]at hs
    obtain⟨e,he,jO⟩:=hs
    rw[aS]at he;cases he
    simp only[AR]at jO
    obtain⟨_,b',dy,hv⟩:=jO
    rw[hb]at dy;cases dy
    have hmv:=hC3.mem.move (ak _ _ _) trivial hj (.inl ⟨rfl,fun _ _ _ _=>by simp⟩)
    rw[sQ]at hmv
    have Hr:(σ.qw ups).gZ id (some .gone)=⟨σ.T,bn (bS σ.H ups) id (some .gone)⟩:=by
     have h2:σ.qw ups=⟨σ.T,bS σ.H ups⟩:=by rw[←HT,←HU ups σ]
     rw[h2];rfl
    rw[Hr]at hK
    refine c8 L _ _ M2 _ K (hC3.tr hmv (x:= .fC (16*s+14) []) ?_) HA (K5 _ _ _ (.inr (.inl rfl)) HB) hK
    simp only[VR]
    exact⟨_,ak _ _ _,trivial,b,by simp[cj,hb],hv⟩
   ·cases h
  ·cases h
 |(s,.dO τ q e)::L,σ,acc,M,νA,K,hC,hF,hN,h=>by
  obtain⟨HA,HB,K5⟩:=iF hF hN
  unfold eJ at h
  have hs:=hC.src s
  split at h
  ·rename_i id hT
   rw[hT]at hs
   split at h
   ·rename_i υ x q' k aS
    obtain⟨hpq,h1⟩:=bB h
    clear h
    have:=vk hpq
    subst this
    split at h1
    ·rename_i e' l hk
     obtain⟨e1,h2⟩:=a6 h1
     clear h1
     subst e1
     obtain⟨e2,h⟩:=a6 h2
     cases e2
     have fL:id≠k:=fun e=>by rw[e,hk]at aS;cases aS
     obtain⟨ajw,ajx,_⟩:=hN _ auo
     simp only[VR]at hs
     obtain⟨e,he,jO⟩:=hs
     rw[aS]at he;cases he
     simp only[AR]at jO
     obtain⟨_,b,hb,hv⟩:=jO
     have oC:=hC.mem.move hk trivial ajw (.inl ⟨rfl,fun _ _ _ _=>by simp⟩)
     have kY:bn σ.H k (some .gone) id=some (.dO υ x q k):=by rw[al _ _ fL];exact aS
     have tF:=oC.mem.move kY trivial (j:=16*s+14) (e1:= .dO υ x q (16*s+13)) (by rw[al _ _ (by omega)];exact ajx)
      (.inr ⟨υ,x,q,k,16*s+13,rfl,rfl,by rw[ak];simp,by simp[cj]⟩)
     refine c8 L _ _ M _ K (hC.tr (oC.trans tF) (s:=s) (x:= .fC (16*s+14) []) ?_) HA (K5 _ _ _ (.inr (.inl rfl)) (K5 _ _ _ (.inl rfl) HB)) h
     simp only[VR]
     exact⟨_,ak _ _ _,trivial,b,by simp[cj,hb],hv⟩
    ·cases h1
   ·cases h
  ·cases h
 |(s,.same s')::L,σ,acc,M,νA,K,hC,hF,hN,h=>by
  obtain⟨HA,HB,K5⟩:=iF hF hN
  unfold eJ at h
  split at h
  ·rename_i i j j' h1 h2 h3
   obtain⟨hb,h⟩:=bB h
   have hb:=auN hb
   have e1:=hC.src s
   have e2:=hC.src s'
   have e3:=hC.dst s'
   rw[h1]at e1;rw[h2]at e2;rw[h3]at e3
   simp only[VR]at e1 e2 e3
   refine c8 L σ _ M νA K (hC.tr (.refl hC.mem) (x:= .ref j') ?_) HA HB h
   simp only[VR]
   exact⟨e3.1,by rw[e1.2,hb,←e2.2,e3.2]⟩
  ·cases h
 |(s,.io τ)::L,σ,acc,M,νA,K,hC,hF,hN,h=>by
  obtain⟨HA,HB,K5⟩:=iF hF hN
  unfold eJ at h
  have hs:=hC.src s
  split at h
  ·rename_i id hT
   rw[hT]at hs
   obtain⟨_,h⟩:=bB h
   split at h
   ·rename_i υ x aS
    obtain⟨e1,h⟩:=a6 h
    subst e1
    have hj:=(hN _ auo).2.2
    simp only[VR]at hs
    obtain⟨e,he,jO⟩:=hs
    rw[aS]at he;cases he
    simp only[AR]at jO
    obtain⟨_,b,hb,hv⟩:=jO
    refine c8 L _ _ M _ K (hC.tr (hC.mem.move aS trivial hj (.inl ⟨rfl,fun _ _ _ _=>by simp⟩)) (x:= .fC (16*s+15) []) ?_) HA (K5 _ _ _ (.inr (.inr rfl)) HB) h
    simp only[VR]
    exact⟨_,ak _ _ _,trivial,b,by simp[cj,hb],hv⟩
   ·cases h
  ·cases h
 |(s,.fn f τ)::L,σ,acc,M,νA,K,hC,hF,hN,h=>by
  obtain⟨HA,HB,K5⟩:=iF hF hN
  unfold eJ at h
  have hs:=hC.src s
  split at h
  ·rename_i f' cs hT
   rw[hT]at hs
   obtain⟨hb,h1⟩:=bB h
   clear h
   have hb:=auN hb
   subst hb
   simp only[VR]at hs
   obtain⟨us,hv,QX⟩:=hs
   obtain⟨y,rd,ups,h,hy⟩:=yM hC.mem.left QX h1
   split at h
   ·refine c8 L σ _ M νA K (hC.tr (.refl hC.mem) (x:= .D1 f (lq τ y)) ?_) HA HB h
    simp only[VR]
    exact⟨us,hv,fE.free (hy rfl)⟩
   ·cases h
  ·cases h
theorem sV(hI:Inv c E σ a w){L:Option (List (Nat×CM))}(hL: ∀L',L=some L'→gg L'=true){K:St→Option α}(h:qC L σ K=some r): ∃σ',K σ'=some r∧Inv c E σ' a w:=by
 unfold qC at h
 split at h
 ·exact⟨σ,h,hI⟩
 ·have Xy:=hL _ rfl
  obtain⟨⟨M,ν,hc⟩,hs,hd⟩:=hI
  obtain⟨Rf,M',K4,hK,ad8⟩:=c8 (tm:=a.tmps) _ σ ⟨fun _=> .any,fun _=>none⟩ M (fun _=>undef) K ⟨hc.mem.Rc _,hc.tmp,fun i=>by simp[VR]⟩ Xy (fun _ _=>⟨rfl,rfl,rfl⟩) h
  exact⟨Rf,hK,⟨M',K4,ad8⟩,hs,hd⟩
end VM
end
