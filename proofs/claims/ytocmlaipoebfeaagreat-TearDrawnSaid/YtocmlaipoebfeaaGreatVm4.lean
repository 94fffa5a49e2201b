/- A part of the proof of TearDrawn of layer 29: a machine that reads a function of the program as an equation between values. -/
import Derived.Test.YtocmlaipoebfeaaGreatVm3
import Derived.Scope
set_option linter.all false
section
namespace VM
open Go
variable{P:Program}{E:Env}{o:Oper}{a:Act}{w:World}{M:Nat→Prop}{ν:Nat→Value}{σ:St}{c:Ctx}{α:Type}{r:α}{next:Act→World→Prop}{Q:Exit→Act→World→Prop}
theorem Mem.call{H:Nat→Option aP}(h:Mem c H w M ν){hs:List Nat}{M0 M':Nat→Prop}{w':World}(hM: ∀b,M0 b→M b)(hhs: ∀b∈hs,M b)
  (qm: ∀b∈hs,∀i e,H i=some e→e.mut→ej (ν i)≠some b) (jQ: ∀b∈hs,c.B≤b∨c.may b) (rC: ∀b∈hs,c.M0 b→M' b) (L:Left w M0 hs w' M'):
  Mem c H w' (fun b=>M' b∨(M b∧b∉hs)) ν∧di w M w' (fun b=>M' b∨(M b∧b∉hs)):=by
 have hk:di w M w' (fun b=>M' b∨(M b∧b∉hs)):=by
  refine⟨L.size,fun b hb hm=>L.frame b hb (fun hh=>hm (hhs b hh)),fun b hb hm=> ?_⟩
  rcases hm with hm|hm
  ·exact(L.less b hb hm).elim (hM b) (hhs b)
  ·exact hm.1
 refine⟨⟨fun i e hi=>(h.iO i e hi).bs hk fun hm b hb=> ?_,h.vi,h.new,h.tz,mC h (fun _ _=>rfl) (fun _ h=>h) (fun i τ x p j hi=> .inl ⟨hi,fun b hb=> ?_⟩),fun b hb=> ?_,fun b hb=> ?_,fun b hb hm=> ?_,Nat.le_trans h.size L.size,h.qg,L.os.trans h.os,L.tape.trans h.tape,L.output.trans h.output⟩,hk⟩
 ·have YT:=(h.iO i e hi).sP hm hb
  have xp:b∉hs:=fun hh=>qm b hh i e hi hm hb
  exact⟨L.frame b (h.yD b YT) xp,.inr ⟨YT,xp⟩⟩
 ·have sm:ej (ν i)=some b:=by rw[hb];rfl
  have YT:=(h.iO i _ hi).sP trivial sm
  exact L.frame b (h.yD b YT) (fun hh=>qm b hh i _ hi trivial sm)
 ·by_cases hh:b∈hs
  ·exact .inl (rC b hh hb)
  ·exact .inr ⟨h.sub b hb,hh⟩
 ·rcases hb with hb|hb
  ·exact L.yD b hb
  ·exact Nat.lt_of_lt_of_le (h.yD b hb.1) L.size
 ·have xp:b∉hs:=fun hh=>(jQ b hh).elim (fun h'=>by omega) hm
  rw[L.frame b (Nat.lt_of_lt_of_le hb h.size) xp]
  exact h.frame b hb hm
theorem Mem.wE{H:Nat→Option aP}(h:Mem c H w M ν){id:Nat}{v:Value}{e:aP}(aT: ∀e',H id=some e'→ ¬e'.mut)(K5:ER w M v e)
  (hd: ∀b,ej v=some b→ ∀i e',H i=some e'→e'.mut→ej (ν i)≠some b) (hn: ∀b,ej v=some b→c.B≤b∨c.may b) (ho: ∀b e0 l0,e= .own e0 l0→ej v=some b→ ¬c.M0 b)
  (hnv:H id=none∨v=ν id)
  (oG: ∀τ x p j,e= .dP τ x p j→bm H id (some e) j≠none∧ ∃b,v= .pointer (some ⟨b,0,none⟩)∧w.cell? ⟨b,bC p τ,none⟩=some (cj ν id v j):=by intro _ _ _ _ h;cases h):
  Mem c (bm H id (some e)) w M (cj ν id v):=by
 have hν: ∀i,i≠id→cj ν id v i=ν i:=fun i hi=>by simp[cj,hi]
 have xl:cj ν id v id=v:=by simp[cj]
 refine⟨fun i e1 hi=> ?_,fun i k e1 e2 b1 nR hi oF hk tL=> ?_,fun i e1 b1 hi oF=> ?_,fun i e1 l1 b1 hi=> ?_,mC h (fun i hi=> ?_) rA (fun i τ x p j hi=> ?_),h.sub,h.yD,h.frame,h.size,h.qg,h.os,h.tape,h.output⟩
 ·by_cases bq:i=id
  ·subst bq;rw[ak]at hi;cases hi;rw[xl];exact K5
  ·rw[an _ _ bq]at hi;rw[hν i bq];exact h.iO i e1 hi
 ·by_cases bq:i=id
  ·subst bq;rw[xl]
   have Es:k≠i:=Ne.symm nR
   rw[an _ _ Es]at hk;rw[hν k Es]
   intro jI
   exact hd b1 jI k e2 hk tL
  ·rw[an _ _ bq]at hi;rw[hν i bq]
   by_cases Es:k=id
   ·subst Es;rw[xl]
    intro jI so
    exact hd b1 so i e1 hi oF jI
   ·rw[an _ _ Es]at hk;rw[hν k Es];exact h.vi i k e1 e2 b1 nR hi oF hk tL
 ·by_cases bq:i=id
  ·subst bq;rw[xl];exact hn b1
  ·rw[an _ _ bq]at hi;rw[hν i bq];exact h.new i e1 b1 hi oF
 ·by_cases bq:i=id
  ·subst bq;rw[ak]at hi;cases hi;rw[xl];exact ho b1 e1 l1 rfl
  ·rw[an _ _ bq]at hi;rw[hν i bq];exact h.tz i e1 l1 b1 hi
 ·by_cases bq:i=id
  ·subst bq
   rcases hnv with hnv|hnv
   ·exact absurd hnv hi
   ·rw[xl,hnv]
  ·exact hν i bq
 ·by_cases bq:i=id
  ·subst bq
   rw[ak]at hi
   cases hi
   obtain⟨h1,b,h2,h3⟩:=oG _ _ _ _ rfl
   exact .inr ⟨h1,b,by rw[xl];exact h2,h3⟩
  ·rw[an _ _ bq]at hi
   exact .inl ⟨hi,fun _ _=>rfl⟩
theorem Lj{m:AM}{ms:List AM}(x:HP (m::ms))(id:Nat)(io:List (Nat×Ty)):
  iD (m::ms) x id io=match m,qn x,io with
   | .io τ,y,(j,_)::io=>((iD ms (vj x) (id+1) io).1,(j,some (.obj τ y))::(iD ms (vj x) (id+1) io).2.1,(iD ms (vj x) (id+1) io).2.2)
   |m,y,io=>((Cx m y id).1::(iD ms (vj x) (id+1) io).1,(Cx m y id).2++(iD ms (vj x) (id+1) io).2.1,(iD ms (vj x) (id+1) io).2.2):=by
 cases ms with
 |nil=>cases m<;>cases io<;>simp[iD,qn]
 |cons n ms=>cases m<;>cases io<;>simp[iD,qn,vj]
theorem mh{l1 l2:List Nat}{b:Nat}(h:(l1++l2).Nodup)(h1:b∈l1):b∉l2:=fun h2=>(List.nodup_append.1 h).2.2 b h1 b h2 rfl
theorem RR.CQ: ∀{ms:List AM} {x:HP ms} {us ps:List Value},RR w M ms x us ps→ ∀p∈ps,∀b,ej p=some b→b∈a8 ms us ps
 |[],_,_,_,h,p,hp,_,_=>by simp only[RR]at h;rw[h.2]at hp;simp at hp
 |m::ms,x,us,ps,h,p,hp,b,hb=>by
  simp only[RR]at h
  rcases h with⟨p',AU,h1,rfl,h2,h3⟩|⟨v,CP,h1,h2,rfl,h3,h4⟩
  ·simp only[a8,h1,if_true,List.headD_cons,List.tail_cons,List.mem_append]
   rcases List.mem_cons.1 hp with rfl|hp
   ·left
    cases m<;>simp[AM.fG]at h1
    simp[ct,hb]
   ·exact .inr (RR.CQ h3 p hp b hb)
  ·simp only[a8,h1,Bool.false_eq_true,if_false,List.headD_cons,List.tail_cons,List.mem_append]
   exact .inr (RR.CQ h4 p hp b hb)
theorem mH{hs:List Nat}{sz:Nat}: ∀{ms:List AM} {x:HP ms} {us ps:List Value} {id:Nat} {io:List (Nat×Ty)} {H:Nat→Option aP} {ν:Nat→Value} {used:List Nat},
  Mem c H w M ν→RR w M ms x us ps→ps=io.map (fun q=>ν q.1)→kG ms=io.map (·.2)→(keys io).Nodup→(∀q∈io,H q.1=some .gone)→(∀i,id≤i→i<id+ms.length→H i=none)→
  (∀i e b,H i=some e→e.mut→ej (ν i)=some b→(b<sz∧b∉hs)∨b∈used)→(used++a8 ms us ps).Nodup→(∀b∈a8 ms us ps,sz≤b∨b∈hs)→
  (∀b∈a8 ms us ps,(c.B≤b∨c.may b))→(∀b∈a8 ms us ps,c.M0 b→ ∃p∈ps,ej p=some b)→
  ∃ν',Mem c (bS H (iD ms x id io).2.1) w M ν'∧fF w M (bS H (iD ms x id io).2.1) ν' (iD ms x id io).1 us∧(∀i,H i≠none→ν' i=ν i)∧
   (∀i,i∉keys io→(i<id∨id+ms.length≤i)→bS H (iD ms x id io).2.1 i=H i)∧(∀i,id≤i→i<id+ms.length→ ∀e,bS H (iD ms x id io).2.1 i=some e→(∃e0 l0,e= .own e0 l0)∨ ∃τ0 z0,e= .obj τ0 z0)∧
   (∀q∈io,∃z:q.2.den,bS H (iD ms x id io).2.1 q.1=some (.obj q.2 z))
 |[],x,us,ps,id,io,H,ν,used,hm,hr,HT,AL,EH,AW,ib,hold,tY,nD,jQ,Er=>by
  simp only[RR]at hr
  obtain⟨rfl,rfl⟩:=hr
  have rC:io=[]:=by
   cases io with
   |nil=>rfl
   |cons q io=>simp at HT
  subst rC
  exact⟨ν,hm,by simp[iD,fF],fun _ _=>rfl,fun _ _ _=>rfl,fun i h1 h2=>by simp at h2;omega,fun q hq=>by simp at hq⟩
 |m::ms,x,us,ps,id,io,H,ν,used,hm,hr,HT,AL,EH,AW,ib,hold,tY,nD,jQ,Er=>by
  rw[Lj]
  simp only[RR]at hr
  rcases hr with⟨p,AU,CR,rfl,h1,h2⟩|⟨v,CP,CR,hmf,rfl,h1,h2⟩
  ·
   cases m with
   |io τ=>
    cases io with
    |nil=>simp at HT
    |cons q io=>
     simp only[List.map_cons,List.cons.injEq]at HT
     obtain⟨rfl,rfl⟩:=HT
     simp only[kG,List.map_cons,List.cons.injEq]at AL
     obtain⟨ajE,ajF⟩:=AL
     simp only[keys,List.map_cons,List.nodup_cons]at EH
     have Zj:a8 (.io τ::ms) us (ν q.1::io.map fun q=>ν q.1)=(ej (ν q.1)).toList++a8 ms us (io.map fun q=>ν q.1):=rfl
     rw[Zj]at tY nD jQ Er
     have Lk:=AW q List.mem_cons_self
     have EI:q.1<id∨id+(ms.length+1)≤q.1:=by
      rcases Nat.lt_or_ge q.1 id with h'|h'
      ·exact .inl h'
      ·rcases Nat.lt_or_ge q.1 (id+(ms.length+1))with J2|J2
       ·rw[ib q.1 h' J2]at Lk;cases Lk
       ·exact .inr J2
     simp only[A1]at h1
     have qH: ∀b,ej (ν q.1)=some b→ ∀i e',H i=some e'→e'.mut→ej (ν i)≠some b:=by
      intro b hb i e' hi gD dw
      have jZ:b∈(ej (ν q.1)).toList++a8 ms us (io.map fun q=>ν q.1):=List.mem_append_left _ (by rw[hb];simp)
      rcases hold i e' b hi gD dw with⟨h3,h4⟩|h3
      ·exact(nD b jZ).elim (fun h'=>by omega) h4
      ·exact mh tY h3 jZ
     have tL:=Mem.wE (c:=c) hm (id:=q.1) (v:=ν q.1) (e:= .obj τ (qn x)) (fun e' sD=>by rw[Lk]at sD;cases sD;simp[aP.mut]) h1 qH (fun b hb=>jQ b (List.mem_append_left _ (by rw[hb];simp))) (fun b e0 l0 he=>by cases he) (.inr rfl)
     have hνe:cj ν q.1 (ν q.1)=ν:=by funext i;unfold cj;split<;>simp_all
     rw[hνe]at tL
     have ajG: ∀(q':Nat×Ty),q'∈io→q'.1≠q.1:=fun q' qi e=>EH.1 (List.mem_map.2 ⟨q',qi,e⟩)
     obtain⟨ν',r1,r2,r3,r4,r5,r6⟩:=mH (ms:=ms) (x:=vj x) (us:=us) (ps:=io.map fun q=>ν q.1) (id:=id+1) (io:=io) (used:=used++(ej (ν q.1)).toList) tL h2 rfl ajF EH.2
      (fun q' qi=>by rw[an _ _ (ajG q' qi)];exact AW q' (List.mem_cons_of_mem _ qi))
      (fun i h3 h4=>by
       have:i≠q.1:=by omega
       rw[an _ _ this]
       exact ib i (by omega) (by simp only[List.length_cons];omega))
      (fun i e b hi gD hb=>by
       by_cases bq:i=q.1
       ·subst bq;exact .inr (List.mem_append_right _ (by rw[hb];simp))
       ·rw[an _ _ bq]at hi
        exact(hold i e b hi gD hb).imp (fun h=>h) (List.mem_append_left _))
      (by rw[List.append_assoc];exact tY) (fun b hb=>nD b (List.mem_append_right _ hb)) (fun b hb=>jQ b (List.mem_append_right _ hb))
      (fun b hb hb0=>by
       obtain⟨p,hp,hpb⟩:=Er b (List.mem_append_right _ hb) hb0
       rcases List.mem_cons.1 hp with rfl|hp
       ·exact absurd (mh (List.nodup_append.1 tY).2.1 (b:=b) (by rw[hpb];simp)) (by simpa using hb)
       ·exact⟨p,hp,hpb⟩)
     refine⟨ν',r1,r2,fun i hi=> ?_,fun i h3 h4=> ?_,fun i h3 h4 e he=> ?_,fun q' qi=> ?_⟩
     ·exact r3 i (by
       by_cases bq:i=q.1
       ·subst bq;rw[ak];simp
       ·rw[an _ _ bq];exact hi)
     ·simp only[keys,List.map_cons,List.mem_cons,not_or]at h3
      have:=r4 i h3.2 (by simp only[List.length_cons]at h4;omega)
      rw[an _ _ h3.1]at this
      exact this
     ·by_cases h5:id+1≤i
      ·exact r5 i h5 (by simp only[List.length_cons]at h4;omega) e he
      ·have bq:i=id:=by omega
       subst bq
       by_cases hk:i∈keys io
       ·obtain⟨q',qi,HV⟩:=List.mem_map.1 hk
        have h9:=AW q' (List.mem_cons_of_mem _ qi)
        rw[HV,ib i (Nat.le_refl _) (by simp)]at h9
        cases h9
       ·have:=r4 i hk (.inl (by omega))
        have g9:i≠q.1:=by omega
        rw[an _ _ g9,ib i (Nat.le_refl _) (by simp)]at this
        have he:bS (bm H q.1 (some (aP.obj τ (qn x)))) (iD ms (vj x) (i+1) io).2.1 i=some e:=he
        rw[this]at he;cases he
     ·rcases List.mem_cons.1 qi with rfl|qi
      ·have:=r4 q'.1 EH.1 (by omega)
       rw[ak]at this
       rw[←ajE]
       exact⟨qn x,this⟩
      ·exact r6 q' qi
   |v τ=>simp[AM.fG]at CR
   |own τ=>simp[AM.fG]at CR
   |fn f τ=>simp[AM.fG]at CR
   |ptr τ=>simp[AM.fG]at CR
   |fD τ=>simp[AM.fG]at CR
  ·
   have AX:H id=none:=ib id (Nat.le_refl _) (by simp)
   cases m with
   |io τ=>simp[AM.fG]at CR
   |fn f τ=>simp[AM.Rn]at hmf
   |fD τ=>simp[AM.Rn]at hmf
   |v τ=>
    have Zj:a8 (.v τ::ms) (v::CP) ps=a8 ms CP ps:=rfl
    rw[Zj]at tY nD jQ Er
    simp only[A1]at h1
    obtain⟨ν',r1,r2,r3,r4,r5,r6⟩:=mH (ms:=ms) (x:=vj x) (us:=CP) (ps:=ps) (id:=id+1) (io:=io) (used:=used) hm h2 HT (by simpa [kG]using AL) EH AW (fun i h3 h4=>ib i (by omega) (by simp only[List.length_cons];omega)) hold tY nD jQ Er
    refine⟨ν',r1,?_,r3,fun i h3 h4=>r4 i h3 (by simp only[List.length_cons]at h4;omega),fun i h3 h4 e he=> ?_,r6⟩
    ·simp only[Cx,fF,VR];exact⟨h1,r2⟩
    ·by_cases h5:id+1≤i
     ·exact r5 i h5 (by simp only[List.length_cons]at h4;omega) e he
     ·have bq:i=id:=by omega
      subst bq
      by_cases hk:i∈keys io
      ·obtain⟨q',qi,HV⟩:=List.mem_map.1 hk
       have h9:=AW q' qi
       rw[HV,AX]at h9;cases h9
      ·have:=r4 i hk (.inl (by omega))
       rw[AX]at this
       have he:bS H (iD ms (vj x) (i+1) io).2.1 i=some e:=he
       rw[this]at he;cases he
   |own τ=>
    have Zj:a8 (.own τ::ms) (v::CP) ps=(ej v).toList++a8 ms CP ps:=rfl
    rw[Zj]at tY nD jQ Er
    simp only[A1]at h1
    have qH: ∀b,ej v=some b→ ∀i e',H i=some e'→e'.mut→ej (ν i)≠some b:=by
     intro b hb i e' hi gD dw
     have jZ:b∈(ej v).toList++a8 ms CP ps:=List.mem_append_left _ (by rw[hb];simp)
     rcases hold i e' b hi gD dw with⟨h3,h4⟩|h3
     ·exact(nD b jZ).elim (fun h'=>by omega) h4
     ·exact mh tY h3 jZ
    have aed: ∀b,ej v=some b→ ¬c.M0 b:=by
     intro b hb h0
     have jZ:b∈(ej v).toList:=by rw[hb];simp
     obtain⟨p,hp,hpb⟩:=Er b (List.mem_append_left _ jZ) h0
     exact mh (List.nodup_append.1 tY).2.1 jZ (RR.CQ h2 p hp b hpb)
    have tL:=Mem.wE (c:=c) hm (id:=id) (v:=v) (e:= .own τ (qn x)) (fun e' sD=>by rw[AX]at sD;cases sD) h1 qH (fun b hb=>jQ b (List.mem_append_left _ (by rw[hb];simp))) (fun b e0 l0 _ hb=>aed b hb) (.inl AX)
    have EI: ∀q∈io,q.1≠id:=fun q hq e=>by
     have h9:=AW q hq
     rw[e,AX]at h9;cases h9
    have Zk: ∀i,i≠id→cj ν id v i=ν i:=fun i hi=>by simp[cj,hi]
    obtain⟨ν',r1,r2,r3,r4,r5,r6⟩:=mH (ms:=ms) (x:=vj x) (us:=CP) (ps:=ps) (id:=id+1) (io:=io) (used:=used++(ej v).toList) tL h2
     (by rw[HT];exact List.map_congr_left fun q hq=>(Zk _ (EI q hq)).symm) (by simpa [kG]using AL) EH
     (fun q hq=>by rw[an _ _ (EI q hq)];exact AW q hq)
     (fun i h3 h4=>by rw[an _ _ (by omega)];exact ib i (by omega) (by simp only[List.length_cons];omega))
     (fun i e b hi gD hb=>by
      by_cases bq:i=id
      ·subst bq
       have:cj ν i v i=v:=by simp[cj]
       rw[this]at hb
       exact .inr (List.mem_append_right _ (by rw[hb];simp))
      ·rw[an _ _ bq]at hi
       rw[Zk i bq]at hb
       exact(hold i e b hi gD hb).imp (fun h=>h) (List.mem_append_left _))
     (by rw[List.append_assoc];exact tY) (fun b hb=>nD b (List.mem_append_right _ hb)) (fun b hb=>jQ b (List.mem_append_right _ hb)) (fun b hb=>Er b (List.mem_append_right _ hb))
    have Zl:id∉keys io:=fun hk=>by
     obtain⟨q,hq,HV⟩:=List.mem_map.1 hk
     exact EI q hq HV
    have lL:bS (bm H id (some (.own τ (qn x)))) (iD ms (vj x) (id+1) io).2.1 id=some (.own τ (qn x)):=by
     rw[r4 id Zl (.inl (by omega)),ak]
    refine⟨ν',r1,?_,fun i hi=> ?_,fun i h3 h4=> ?_,fun i h3 h4 e he=> ?_,r6⟩
    ·simp only[Cx,fF,VR]
     refine⟨⟨?_,?_⟩,r2⟩
     ·show bS (bm H id (some (.own τ (qn x)))) (iD ms (vj x) (id+1) io).2.1 id≠none
      rw[lL];simp
     ·rw[r3 id (by rw[ak];simp)];simp[cj]
    ·have bq:i≠id:=fun e=>hi (e▸AX)
     rw[r3 i (by rw[an _ _ bq];exact hi),Zk i bq]
    ·have bq:i≠id:=by simp only[List.length_cons]at h4;omega
     have:=r4 i h3 (by simp only[List.length_cons]at h4;omega)
     rw[an _ _ bq]at this
     exact this
    ·by_cases h5:id+1≤i
     ·exact r5 i h5 (by simp only[List.length_cons]at h4;omega) e he
     ·have bq:i=id:=by omega
      subst bq
      have he:bS (bm H i (some (.own τ (qn x)))) (iD ms (vj x) (i+1) io).2.1 i=some e:=he
      rw[lL]at he;cases he
      exact .inl ⟨τ,_,rfl⟩
   |ptr τ=>
    have Zj:a8 (.ptr τ::ms) (v::CP) ps=(ej v).toList++a8 ms CP ps:=rfl
    rw[Zj]at tY nD jQ Er
    simp only[A1]at h1
    have qH: ∀b,ej v=some b→ ∀i e',H i=some e'→e'.mut→ej (ν i)≠some b:=by
     intro b hb i e' hi gD dw
     have jZ:b∈(ej v).toList++a8 ms CP ps:=List.mem_append_left _ (by rw[hb];simp)
     rcases hold i e' b hi gD dw with⟨h3,h4⟩|h3
     ·exact(nD b jZ).elim (fun h'=>by omega) h4
     ·exact mh tY h3 jZ
    have tL:=Mem.wE (c:=c) hm (id:=id) (v:=v) (e:= .obj τ (qn x)) (fun e' sD=>by rw[AX]at sD;cases sD) h1 qH (fun b hb=>jQ b (List.mem_append_left _ (by rw[hb];simp))) (fun b e0 l0 he _=>by cases he) (.inl AX)
    have EI: ∀q∈io,q.1≠id:=fun q hq e=>by
     have h9:=AW q hq
     rw[e,AX]at h9;cases h9
    have Zk: ∀i,i≠id→cj ν id v i=ν i:=fun i hi=>by simp[cj,hi]
    obtain⟨ν',r1,r2,r3,r4,r5,r6⟩:=mH (ms:=ms) (x:=vj x) (us:=CP) (ps:=ps) (id:=id+1) (io:=io) (used:=used++(ej v).toList) tL h2
     (by rw[HT];exact List.map_congr_left fun q hq=>(Zk _ (EI q hq)).symm) (by simpa [kG]using AL) EH
     (fun q hq=>by rw[an _ _ (EI q hq)];exact AW q hq)
     (fun i h3 h4=>by rw[an _ _ (by omega)];exact ib i (by omega) (by simp only[List.length_cons];omega))
     (fun i e b hi gD hb=>by
      by_cases bq:i=id
      ·subst bq
       have:cj ν i v i=v:=by simp[cj]
       rw[this]at hb
       exact .inr (List.mem_append_right _ (by rw[hb];simp))
      ·rw[an _ _ bq]at hi
       rw[Zk i bq]at hb
       exact(hold i e b hi gD hb).imp (fun h=>h) (List.mem_append_left _))
     (by rw[List.append_assoc];exact tY) (fun b hb=>nD b (List.mem_append_right _ hb)) (fun b hb=>jQ b (List.mem_append_right _ hb)) (fun b hb=>Er b (List.mem_append_right _ hb))
    have Zl:id∉keys io:=fun hk=>by
     obtain⟨q,hq,HV⟩:=List.mem_map.1 hk
     exact EI q hq HV
    have lL:bS (bm H id (some (.obj τ (qn x)))) (iD ms (vj x) (id+1) io).2.1 id=some (.obj τ (qn x)):=by
     rw[r4 id Zl (.inl (by omega)),ak]
    refine⟨ν',r1,?_,fun i hi=> ?_,fun i h3 h4=> ?_,fun i h3 h4 e he=> ?_,r6⟩
    ·simp only[Cx,fF,VR]
     refine⟨⟨_,lL,trivial,?_⟩,r2⟩
     simp only[A1,ER]at h1
     obtain⟨b,cs,t,NI,_⟩:=h1
     exact⟨b,by rw[r3 id (by rw[ak];simp)];simp[cj,NI],NI⟩
    ·have bq:i≠id:=fun e=>hi (e▸AX)
     rw[r3 i (by rw[an _ _ bq];exact hi),Zk i bq]
    ·have bq:i≠id:=by simp only[List.length_cons]at h4;omega
     have:=r4 i h3 (by simp only[List.length_cons]at h4;omega)
     rw[an _ _ bq]at this
     exact this
    ·by_cases h5:id+1≤i
     ·exact r5 i h5 (by simp only[List.length_cons]at h4;omega) e he
     ·have bq:i=id:=by omega
      subst bq
      have he:bS (bm H i (some (.obj τ (qn x)))) (iD ms (vj x) (i+1) io).2.1 i=some e:=he
      rw[lL]at he;cases he
      exact .inr ⟨τ,_,rfl⟩
end VM
end
section
namespace VM
open Go
variable{P:Program}{E:Env}{o:Oper}{a:Act}{w:World}{M:Nat→Prop}{ν:Nat→Value}{σ:St}{c:Ctx}{α:Type}{r:α}{next:Act→World→Prop}{Q:Exit→Act→World→Prop}
theorem EJ{i:Nat}: ∀{ups:fl} {H:Nat→Option aP},i∈keys ups→ ∃u∈ups,u.1=i∧bS H ups i=u.2
 |[],_,h=>by simp[keys]at h
 |u::r,H,h=>by
  by_cases hk:i∈keys r
  ·obtain⟨v,h1,h2,h3⟩:=EJ (H:=bm H u.1 u.2) hk
   exact⟨v,List.mem_cons_of_mem _ h1,h2,h3⟩
  ·have hi:i=u.1:=by
    simp only[keys,List.map_cons,List.mem_cons]at h hk
    exact h.resolve_right hk
   refine⟨u,List.mem_cons_self,hi.symm,?_⟩
   show bS (bm H u.1 u.2) r i=_
   rw[jr hk,hi,ak]
theorem yQ: ∀{ups:fl} {H H':Nat→Option aP},(∀i,i∉keys ups→H i=H' i)→bS H ups=bS H' ups
 |[],H,H',h=>funext fun i=>h i (by simp[keys])
 |u::r,H,H',h=>by
  refine yQ (ups:=r) fun i hi=> ?_
  by_cases hu:i=u.1
  ·subst hu;rw[ak,ak]
  ·rw[an _ _ hu,an _ _ hu]
   exact h i (by simp only[keys,List.map_cons,List.mem_cons,not_or];exact⟨hu,hi⟩)
theorem RR.mI: ∀{ms:List AM} {x:HP ms} {us ps:List Value},RR w M ms x us ps→ ∀b∈a8 ms us ps,M b
 |[],_,_,_,_,b,hb=>by simp[a8]at hb
 |m::ms,x,us,ps,h,b,hb=>by
  simp only[RR]at h
  rcases h with⟨p,AU,h1,rfl,h2,h3⟩|⟨v,CP,h1,h2,rfl,h3,h4⟩
  ·simp only[a8,h1,if_true,List.headD_cons,List.tail_cons,List.mem_append]at hb
   rcases hb with hb|hb
   ·cases m<;>simp[AM.fG]at h1
    simp only[ct,Option.mem_toList,A1]at hb h2
    exact h2.sP trivial hb
   ·exact RR.mI h3 b hb
  ·simp only[a8,h1,Bool.false_eq_true,if_false,List.headD_cons,List.tail_cons,List.mem_append]at hb
   rcases hb with hb|hb
   ·cases m with
    |own e=>
     simp only[ct,Option.mem_toList,A1]at hb h3
     exact h3.sP trivial hb
    |v _=>simp[ct]at hb
    |io _=>simp[AM.fG]at h1
    |fn _ _=>simp[ct]at hb
    |fD _=>simp[ct]at hb
    |ptr τ=>
     simp only[ct,Option.mem_toList,A1]at hb h3
     exact h3.sP trivial hb
   ·exact RR.mI h4 b hb
theorem Bu: ∀{l:List g8} {lK:List aY} {S:g8},En l lK=some S→S∈l
 |[],_,_,h=>by simp[En]at h
 |T::l,lK,S,h=>by
  unfold En at h
  cases hf:fits T.args lK
  ·rw[hf]at h;exact List.mem_cons_of_mem _ (Bu h)
  ·rw[hf]at h;cases h;exact List.mem_cons_self
theorem wF{H:Nat→Option aP}{id:Nat}: ∀{n:Nat},o5 H id n=true→ ∀i,id≤i→i<id+n→H i=none
 |0,_,i,h1,h2=>by omega
 |n+1,h,i,h1,h2=>by
  unfold o5 at h
  rw[Bool.and_eq_true]at h
  by_cases hi:i=id+n
  ·subst hi
   have h:=h.1
   split at h
   ·assumption
   ·cases h
  ·exact wF h.2 i h1 (by omega)
theorem NJ{H:Nat→Option aP}{lK:List aY}{us:List Value}(h:fF w M H ν lK us):VR w M H ν (El lK) (qF us):=by
 match lK,us,h with
 |[],[],_=>simp[El,VR]
 |[a],[u],h=>simp only[fF,and_true]at h;simpa [El,qF]using h
 |a::b::lK,u::v::us,h=>
  simp only[El,VR]
  exact⟨u::v::us,by simp[qF],h⟩
 |[],_::_,h=>simp[fF]at h
 |_::_,[],h=>simp[fF]at h
 |[_],_::_::_,h=>simp[fF]at h
 |_::_::_,[_],h=>simp[fF]at h
theorem EK(hΓ: ∀f S,S∈E.Γ f→eQ P f S){H:Nat→Option aP}(hm:Mem c H w M ν){f id:Nat}{lK:List aY}{vs:List Value}(hv:fF w M H ν lK vs){K:fm α}(h:wo E f lK id H K=some r)
  {R:Value→World→Prop} (hR: ∀v rd ups v' w' M' ν',K v rd ups=some r→Tr c H w M ν (bS H ups) w' M' ν'→VR w' M' (bS H ups) ν' v v'→R v' w'):
  EG P f vs.toArray w R:=by
 unfold wo at h
 split at h
 ·cases h
 rename_i S hS
 have hok:=hΓ f S (Bu hS)
 obtain⟨x,rd,uo,uf,io,H2,Hq,M2,h1,hA,hK,aee,Rq,M7⟩:=wD (ia.start hm) hv h
 clear h
 simp only[List.nil_append,List.map_nil]at hA Rq M7
 obtain⟨y,hy,h1⟩:=Option.bind_eq_some_iff.1 h1
 obtain⟨ib,h1⟩:=bB h1
 have ib:=wF ib
 have ajH:(fun b=>(M2 b∧b∉cG S.args vs)∨b∈cG S.args vs)=M2:=by
  funext b
  refine propext ⟨fun h=>h.elim (·.1) (hA.hM b),fun h=> ?_⟩
  by_cases hb:b∈cG S.args vs
  ·exact .inr hb
  ·exact .inl ⟨h,hb⟩
 refine EG.mono (hok.call (fun b=>M2 b∧b∉cG S.args vs) w vs x y (fun b hb=>hA.mem.yD b hb.1) (by rw[ajH];exact aee) hA.nd (fun b hb h=>h.2 hb) hy) ?_
 rintro e w' ⟨us,M',rfl,M8,hL,tY,hn0⟩
 have ajI: ∀b∈cG S.args vs,c.M0 b→M' b:=by
  intro b hb h0
  obtain⟨q,hq,hqb⟩:=hA.iob b hb h0
  exact M8.mI b (M8.CQ (ν q.1) (by rw[←Rq];exact List.mem_map_of_mem hq) b hqb)
 have nD: ∀b∈a8 S.res us (du S.args vs),w.heap.size≤b∨b∈cG S.args vs:=by
  intro b hb
  rcases Nat.lt_or_ge b w.heap.size with dF|QQ
  ·exact .inr ((hL.less b dF (M8.mI b hb)).resolve_left (hn0 b hb))
  ·exact .inl QQ
 have jQ: ∀b∈a8 S.res us (du S.args vs),c.B≤b∨c.may b:=fun b hb=>(nD b hb).elim (fun h=> .inl (Nat.le_trans hm.size h)) (hA.Is b)
 have Er: ∀b∈a8 S.res us (du S.args vs),c.M0 b→ ∃p∈du S.args vs,ej p=some b:=by
  intro b hb h0
  rcases nD b hb with h'|h'
  ·have:=hm.qg.1 b h0;have:=hm.size;omega
  ·obtain⟨q,hq,hqb⟩:=hA.iob b h' h0
   exact⟨ν q.1,by rw[←Rq];exact List.mem_map_of_mem hq,hqb⟩
 have key: ∀(Hx:Nat→Option aP) (Mx:Nat→Prop) (U:fl),Mem c Hx w Mx ν→di w M w Mx→(∀b,M2 b→Mx b)→(∀b∈cG S.args vs,∀i e,Hx i=some e→e.mut→ej (ν i)≠some b)→
   (∀q∈io,Hx q.1=some .gone)→(∀i,i∉keys io→bS H (uo++U) i=Hx i)→(∀u∈uo++U,u.2=some .gone∨ ∃e l,u.2=some (.ku e l)∧H u.1=some (.own e l))→(∀i∈keys (uo++U),i∈keys (uo++uf))→
   RR w' (fun b=>M' b∨(Mx b∧b∉cG S.args vs)) S.res y us (du S.args vs)→
   ∃ν',Tr c H w M ν (bS H (uo++U++(iD S.res y id io).2.1)) w' (fun b=>M' b∨(Mx b∧b∉cG S.args vs)) ν'∧
    fF w' (fun b=>M' b∨(Mx b∧b∉cG S.args vs)) (bS H (uo++U++(iD S.res y id io).2.1)) ν' (iD S.res y id io).1 us:=by
  intro Hx Mx U Lg hkx Ll qm NK Zm CS hU QJ
  obtain⟨lN,Bv⟩:=Lg.call (fun b hb=>Ll b hb.1) (fun b hb=>Ll b (hA.hM b hb)) qm hA.Is ajI hL
  have hx: ∀i e,H i=some e→i∉keys io→ ∃e',Hx i=some e'∧e.hO e':=by
   intro i e hi yc
   rw[←Zm i yc]
   by_cases hk:i∈keys (uo++U)
   ·obtain⟨u,hu,hui,huv⟩:=EJ (H:=H) hk
    rw[huv]
    rcases CS u hu with h'|⟨e1,l1,h',J2⟩
    ·exact⟨_,h',aP.ka e⟩
    ·rw[hui,hi]at J2;cases J2;exact⟨_,h',rfl,rfl⟩
   ·rw[jr hk];exact⟨e,hi,.refl e⟩
  have XM: ∀i,id≤i→i<id+S.res.length→Hx i=none:=by
   intro i h3 h4
   have h0:=ib i h3 h4
   have yc:i∉keys io:=fun hk=>by
    obtain⟨q,hq,HV⟩:=List.mem_map.1 hk
    obtain⟨_,_,z,hz⟩:=hA.QO q hq
    rw[HV,h0]at hz;cases hz
   rw[←Zm i yc]
   rw[jr,h0]
   intro hk
   obtain⟨_,e,l,h'⟩:=hA.ksn i (hU i hk)
   rw[h0]at h';cases h'
  obtain⟨ν',r1,r2,r3,r4,r5,r6⟩:=mH (hs:=cG S.args vs) (sz:=w.heap.size) (id:=id) (used:=[]) lN QJ Rq.symm (by rw[←hok.ios,←M7]) hA.ion NK XM
   (fun i e b hi hmu hb=> .inl ⟨Lg.yD b ((Lg.iO i e hi).sP hmu hb),fun hh=>qm b hh i e hi hmu hb⟩) (by simpa using tY) nD jQ Er
  have Zn:bS H (uo++U++(iD S.res y id io).2.1)=bS Hx (iD S.res y id io).2.1:=by
   rw[dT]
   refine yQ fun i hi=> ?_
   by_cases yc:i∈keys io
   ·obtain⟨q,hq,HV⟩:=List.mem_map.1 yc
    obtain⟨z,hz⟩:=r6 q hq
    rw[HV,jr hi,←HV,NK q hq]at hz;cases hz
   ·exact Zm i yc
  refine⟨ν',⟨by rw[Zn];exact r1,hkx.trans Bv,⟨fun i e hi=> ?_,fun i hi=> ?_⟩⟩,by rw[Zn];exact r2⟩
  ·rw[Zn]
   by_cases yc:i∈keys io
   ·obtain⟨q,hq,HV⟩:=List.mem_map.1 yc
    obtain⟨z,hz⟩:=r6 q hq
    obtain⟨_,_,z0,hz0⟩:=hA.QO q hq
    rw[HV]at hz hz0
    rw[hi]at hz0;cases hz0
    exact⟨_,hz,rfl⟩
   ·obtain⟨e',sD,hl⟩:=hx i e hi yc
    have hr:i<id∨id+S.res.length≤i:=by
     rcases Nat.lt_or_ge i id with h'|h'
     ·exact .inl h'
     ·rcases Nat.lt_or_ge i (id+S.res.length)with J2|J2
      ·rw[ib i h' J2]at hi;cases hi
      ·exact .inr J2
    exact⟨e',by rw[r4 i yc hr];exact sD,hl⟩
  ·refine r3 i ?_
   obtain⟨e,he⟩:=Option.ne_none_iff_exists'.1 hi
   by_cases yc:i∈keys io
   ·obtain⟨q,hq,HV⟩:=List.mem_map.1 yc
    rw[←HV,NK q hq];simp
   ·obtain⟨e',sD,_⟩:=hx i e he yc
    rw[sD];simp
 cases hq:S.quiet
 ·
  rw[hq]at h1
  have hMn:(fun b=>M' b∨(M2 b∧b∉cG S.args vs))=M':=by
   funext b
   exact propext ⟨fun h=>h.elim (fun h=>h) (hL.sub b),.inl⟩
  obtain⟨ν',eP,hvr⟩:=key H2 M2 uf hA.mem hA.bs (fun _ h=>h) (fun b hb i e hi hmu=>hA.none b hb i e (hA.fz.mut hi hmu) hmu) (fun q hq=>(hA.QO q hq).1) hA.ext
   (fun u hu=>(List.mem_append.1 hu).elim (fun h=> .inl (hA.uov u h)) (fun h=> .inr (hA.ufv u h))) (fun _ h=>h) (by rw[hMn];exact M8)
  exact hR _ _ _ _ _ _ _ h1 eP (NJ hvr)
 ·rw[hq]at h1
  have Ll: ∀b,M2 b→M b:=fun b hb=>hA.bs.less b (hA.mem.yD b hb) hb
  obtain⟨ν',eP,hvr⟩:=key Hq M [] hA.Li (.refl w M) Ll hA.none (fun q hq=>(hA.QO q hq).2.1) (by rw[List.append_nil];exact hA.Ro)
   (fun u hu=> .inl (hA.uov u (by simpa using hu))) (fun i hi=>by simp only[keys,List.append_nil,List.map_append,List.mem_append]at hi ⊢;exact .inl hi) (M8.flat (fun b h=> .inl h) (hok.quiet hq))
  exact hR _ _ _ _ _ _ _ h1 eP (NJ hvr)
theorem Rr(hΓ: ∀f S,S∈E.Γ f→eQ P f S)(hc:Core c σ a.tmps w M ν){args:Array Operand}{ts:Array TypeId}{g:Operand}(ho:o.op= .call {callee:= .value g,args,argTypes:=ts}){K:fm α}{f:Nat}{caps:List aY}(hg:σ.ρ g= .Eg f caps){id:Nat}
  (h:wo E f (args.toList.map σ.ρ ++caps) id σ.H K=some r) (hn:dM c σ a o w M ν K r next):o.wp P a w next Q:=by
 have hgv:=hc.ev g
 rw[hg]at hgv
 simp only[VR]at hgv
 obtain⟨cs,hgv,CE⟩:=hgv
 have EL: ∀{as1:List aY} {QR:List Value},fF w M σ.H ν as1 QR→fF w M σ.H ν (as1++caps) (QR++cs):=by
  intro as1
  induction as1 with
  |nil=>intro QR h1;cases QR with
   |nil=>exact CE
   |cons _ _=>simp[fF]at h1
  |cons x as1 ih=>intro QR h1;cases QR with
   |nil=>simp[fF]at h1
   |cons v QR=>simp only[fF]at h1;simp only[List.cons_append,fF];exact⟨h1.1,ih h1.2⟩
 have hd:=EK (P:=P) hΓ hc.mem (EL (hc.evs args.toList)) h (R:=fun v' w'=>next (a.put o.dst v') w') (fun v rd ups v' w' M' ν' h1 h2 h3=>hn v rd ups v' w' M' ν' h1 h2 h3)
 have hex:(execOp a.eval o).run P w=(callFunc f (args.toList.map a.eval++cs).toArray).run P w:=by
  have:(args.toList.map a.eval++cs).toArray= #[]++args.map a.eval++cs.toArray:=by apply Array.ext';simp
  rw[this]
  simp[execOp,ho,resolve,hgv,Deferred.ofValue,invoke]
 unfold Oper.wp
 rw[hex]
 exact hd o a next Q fun v w' hv=>hv
end VM
end
section
namespace VM
open Go
variable{P:Program}{E:Env}{o:Oper}{a:Act}{w:World}{M:Nat→Prop}{ν:Nat→Value}{σ:St}{c:Ctx}{α:Type}{r:α}{next:Act→World→Prop}{Q:Exit→Act→World→Prop}
structure nW(P:Program)(E:Env):Prop extends EnvTy P E where
 aei: ∀f S,S∈E.Γ f→eQ P f S
 mixed:P.follows .mixedOrders=true
 gd: ∀i L,E.qt i=some L→VM.gd L=true
 NL: ∀i L,E.sk i=some L→VM.gd L=true
theorem Lm(hE:nW P E)(hc:Core c σ a.tmps w M ν){K:fm α}(h:ov E o σ.ρ σ.H K=some r)(hn:dM c σ a o w M ν K r next):o.wp P a w next Q:=by
 have hT:=hE.toEnvTy
 unfold ov at h
 simp only at h
 split at h
 ·rename_i x ho;exact JV hc (.inl ho) h hn
 ·rename_i x ho;exact JV hc (.inr ho) h hn
 ·rename_i x y z ho
  split at h
  ·rename_i t hx;exact Rb hc ho hx h hn
  ·cases h
 ·rename_i t ho
  split at h
  ·rename_i τ ht;exact Nr hT hc ho ht h hn
  ·cases h
 ·rename_i t x ho
  split at h
  ·rename_i τ ht;exact YW hT hc ho h hn
  ·cases h
 ·rename_i t ps ho
  split at h
  ·rename_i n e ht;exact CN hT hc ho ht h hn
  ·rename_i τ XJ ht;exact xu hT hc ho ht (fun n e he=>XJ n e he) h hn
  ·cases h
 ·rename_i t n ps ho
  split at h
  ·rename_i e ht;exact AS hT hc ho ht h hn
  ·cases h
 ·rename_i t x ho
  split at h
  ·rename_i τ ht;exact Rc hT hc ho ht h hn
  ·cases h
 ·rename_i t x y ho
  split at h
  ·rename_i τ ht;exact Lc hT hc ho ht h hn
  ·cases h
 ·rename_i x ho
  split at h
  ·rename_i id p hx;exact xr hc ho hx h hn
  ·rename_i τ z hx;exact vy hc ho hx h hn
  ·cases h
 ·rename_i b t x y t' ho;exact Nz hT hc ho h hn
 ·rename_i u t x ho;exact Ri hc ho h hn
 ·rename_i s d x ho
  split at h
  ·rename_i τ k hs hd;exact Im hT hc ho hs hd h hn
  ·cases h
 ·rename_i f first caps ho;exact EA hc ho h hn
 ·rename_i t x y ho
  split at h
  ·rename_i e ht;exact CI hT hc ho ht h hn
  ·cases h
 ·rename_i t x lo hi mx ho
  split at h
  ·rename_i τ ht;exact NF hT hc ho ht h hn
  ·cases h
 ·rename_i t x n ho
  split at h
  ·rename_i τ ht
   split at h
   ·rename_i id p hx;exact vx hT hc ho ht hx h hn
   ·rename_i υ z hx;exact tR hT hc ho ht hx h hn
   ·cases h
  ·cases h
 ·rename_i t x n ho
  split at h
  ·rename_i τ ht
   split at h
   ·rename_i υ z hx;exact Nx hT hc ho ht hx h hn
   ·cases h
  ·cases h
 ·rename_i t x i ho
  split at h
  ·rename_i τ ht;exact CG hT hc ho ht h hn
  ·cases h
 ·rename_i t x i ho
  split at h
  ·rename_i τ ht;exact NC hT hc ho ht h hn
  ·cases h
 ·rename_i x i ho
  split at h
  ·rename_i vs hx
   split at h
   ·rename_i v hv;exact Il hc ho hx hv h hn
   ·cases h
  ·cases h
 ·rename_i cl ho
  obtain⟨callee,args,ts⟩:=cl
  simp only at h
  split at h
  ·split at h
   ·rename_i x τ ha ht;exact Y3 hT hc ho ha ht h hn
   ·cases h
  ·split at h
   ·rename_i x y t t' ha ht
    split at h
    ·rename_i e hte;exact Lh hT hc ho ha ht hte h hn
    ·cases h
   ·cases h
  ·split at h
   ·rename_i x xs ha;exact XI hc true ho ha h hn
   ·cases h
  ·split at h
   ·rename_i x xs ha;exact XI hc false ho ha h hn
   ·cases h
  ·rename_i g
   split at h
   ·rename_i f caps hg;exact Rr hE.aei hc ho hg h hn
   ·cases h
  ·cases h
 ·cases h
end VM
end
section
namespace VM
open Go
variable{P:Program}{E:Env}{o:Oper}{a:Act}{w:World}{M:Nat→Prop}{ν:Nat→Value}{σ:St}{c:Ctx}{α:Type}{r:α}{next:Act→World→Prop}{Q:Exit→Act→World→Prop}
theorem pa(σ:St)(d:Nat)(v:aY):(σ.put d v).T d=v:=by
 show cond (Nat.beq d d) v (σ.T d)=v
 rw[show Nat.beq d d=true from Nat.beq_refl d];rfl
theorem tZ(σ:St){d i:Nat}(v:aY)(h:i≠d):(σ.put d v).T i=σ.T i:=by
 show cond (Nat.beq i d) v (σ.T i)=σ.T i
 have:Nat.beq i d=false:=by rw[←Bool.not_eq_true,Nat.beq_eq];exact h
 rw[this];rfl
theorem aoA(σ:St)(d:Nat)(v:aY):(σ.put d v).H=σ.H:=rfl
theorem yR(σ:St)(d:Nat):σ.put d (σ.T d)=σ:=by
 obtain⟨T,H⟩:=σ
 unfold St.put
 congr 1
 funext i
 by_cases h:i=d
 ·subst h;show cond (Nat.beq i i) (T i) (T i)=T i;cases Nat.beq i i<;>rfl
 ·have:Nat.beq i d=false:=by rw[←Bool.not_eq_true,Nat.beq_eq];exact h
  rw[this];rfl
theorem Core.tr{tm:Array Value}(h:Core c σ tm w M ν){H':Nat→Option aP}{w':World}{M':Nat→Prop}{ν':Nat→Value}(t:Tr c σ.H w M ν H' w' M' ν'):Core c ⟨σ.T,H'⟩ tm w' M' ν':=
 ⟨t.mem,fun i=>VR.bs t.bs t.goes (h.tmp i)⟩
theorem Core.qa{tm:Array Value}(h:Core c σ tm w M ν){d:Option Nat}{x:aY}{v:Value}{io:List Nat}(hd:Eh tm.size io d=true)(hx:VR w M σ.H ν x v)(ds:List Deferred):
  Core c (σ.qa d x) (({tmps:=tm,defers:=ds}:Act).put d v).tmps w M ν:=by
 cases d with
 |none=>exact h
 |some d=>
  have dF:d<tm.size:=by simp only[Eh,Bool.and_eq_true,Nat.blt_eq]at hd;exact hd.1
  refine⟨h.mem,fun i=> ?_⟩
  show VR w M σ.H ν ((σ.put d x).T i) ((tm.setIfInBounds d v).getD i undef)
  by_cases hi:i=d
  ·subst hi
   rw[pa]
   simp[Array.getD,dF]
   exact hx
  ·rw[tZ _ _ hi]
   have:=h.tmp i
   have he:(tm.setIfInBounds d v).getD i undef=tm.getD i undef:=by
    rw[Array.getD_eq_getD_getElem?,Array.getD_eq_getD_getElem?,Array.getElem?_setIfInBounds_ne (Ne.symm hi)]
   rw[he];exact this
def Inv(c:Ctx)(E:Env)(σ:St)(a:Act)(w:World):Prop:=(∃M ν,Core c σ a.tmps w M ν)∧a.tmps.size=E.nt∧a.defers=[]∧ ∀i∈E.io,a.tmps.getD i undef=c.arg i
theorem EM(a:Act)(d:Option Nat)(v:Value):(a.put d v).tmps.size=a.tmps.size:=by
 cases d<;>simp[Act.put]
theorem put_defers(a:Act)(d:Option Nat)(v:Value):(a.put d v).defers=a.defers:=by
 cases d<;>rfl
theorem J3{d:Option Nat}{v:Value}{io:List Nat}{n:Nat}(hd:Eh n io d=true){i:Nat}(hi:i∈io):(a.put d v).tmps.getD i undef=a.tmps.getD i undef:=by
 cases d with
 |none=>rfl
 |some d=>
  simp only[Eh,Bool.and_eq_true,List.all_eq_true]at hd
  have h1:=hd.2 i hi
  have g9:i≠d:=by
   intro e;subst e
   simp at h1
  show(a.tmps.setIfInBounds d v).getD i undef=_
  rw[Array.getD_eq_getD_getElem?,Array.getD_eq_getD_getElem?,Array.getElem?_setIfInBounds_ne (Ne.symm g9)]
theorem Inv.bool(h:Inv c E σ a w){x:Operand}{b:Bool}(hx:σ.ρ x= .val .bool b):a.eval x= .bool b:=by
 obtain⟨⟨M,ν,hc⟩,_,_,_⟩:=h
 have:=hc.ev x
 rw[hx]at this
 exact this.bool
theorem wG(hE:nW P E){ops:Array Oper}(hI:Inv c E σ a w){K:St→List Nat→List Nat→Option α}(h:oB E ops.toList o σ K=some r)
  (hn: ∀σ' a' w' rd wr,K σ' rd wr=some r→Inv c E σ' a' w'→next a' w'):
  if Region.wanted o (yielded ops a.tmps)then o.wp P a w next Q else next (a.put o.dst undef) w:=by
 unfold oB at h
 obtain⟨hd,h⟩:=bB h
 have cA:ov E o σ.ρ σ.H (fun v rd ups=>K ((σ.qp ups).qa o.dst v) rd (ups.map (·.1)))=some r→o.wp P a w next Q:=by
  intro h
  obtain⟨⟨M,ν,hc⟩,hs,Zo,ss⟩:=hI
  refine Lm hE hc h fun v rd ups v' w' M' ν' hK eP hV=> ?_
  refine hn _ _ _ _ _ hK ⟨⟨M',ν',?_⟩,by rw[EM,hs],by rw[put_defers,Zo],fun i hi=>(J3 hd hi).trans (ss i hi)⟩
  have h1:=hc.tr eP
  have h2:σ.qp ups=⟨σ.T,bS σ.H ups⟩:=by rw[←Ii,←Ij ups σ]
  rw[h2]
  exact h1.qa (by rw[hs];exact hd) hV a.defers
 have nX: ∀rd wr,K (σ.qa o.dst .Nm) rd wr=some r→next (a.put o.dst undef) w:=by
  intro rd wr h
  obtain⟨⟨M,ν,hc⟩,hs,Zo,ss⟩:=hI
  refine hn _ _ _ _ _ h ⟨⟨M,ν,hc.qa (by rw[hs];exact hd) (by simp[VR]) a.defers⟩,by rw[EM,hs],by rw[put_defers,Zo],fun i hi=>(J3 hd hi).trans (ss i hi)⟩
 simp only at h
 split at h
 ·rename_i hg
  have:Region.wanted o (yielded ops a.tmps)=true:=by simp[Region.wanted,hg]
  rw[if_pos this]
  exact cA h
 ·rename_i j want hg
  split at h
  ·cases h
  ·rename_i t ht
   have ht':(ops[j]?).bind (·.dst)=some t:=by rw[←Array.getElem?_toList];exact ht
   have hy: ∀b,σ.T t= .val .bool b→yielded ops a.tmps j=some b:=by
    intro b hb
    obtain⟨⟨M,ν,hc⟩,hs,_,_⟩:=hI
    have h1:=hc.tmp t
    rw[hb]at h1
    have h1:=h1.bool
    have h2:a.tmps[t]? =some (.bool b):=by
     rw[Array.getD_eq_getD_getElem?]at h1
     cases h3:a.tmps[t]? with
     |none=>rw[h3]at h1;simp[undef]at h1
     |some v=>rw[h3]at h1;simpa using h1
    simp[yielded,ht',h2]
   split at h
   ·rename_i b hb
    have lG:σ.put t (.val .bool b)=σ:=by rw[←hb];exact yR σ t
    have hw:=hy b hb
    cases want<;>cases b
    ·rw[if_pos (by simp[Region.wanted,hg,hw])]
     rw[lG]at h;exact cA h
    ·rw[if_neg (by simp[Region.wanted,hg,hw])]
     rw[lG]at h;exact nX _ _ h
    ·rw[if_neg (by simp[Region.wanted,hg,hw])]
     rw[lG]at h;exact nX _ _ h
    ·rw[if_pos (by simp[Region.wanted,hg,hw])]
     rw[lG]at h;exact cA h
   ·rename_i hb
    have xp: ¬Region.wanted o (yielded ops a.tmps)=true:=by
     obtain⟨⟨M,ν,hc⟩,hs,_,_⟩:=hI
     have h1:=hc.tmp t
     rw[hb]at h1
     simp only[VR]at h1
     have h2: ∀b,a.tmps[t]? ≠some (.bool b):=by
      intro b dw
      rw[Array.getD_eq_getD_getElem?,dw]at h1
      simp[undef]at h1
     have h3:yielded ops a.tmps j=none:=by
      unfold yielded
      rw[ht']
      show(match a.tmps[t]? with|some (.bool b)=>some b|_=>none)=none
      split
      ·rename_i b dw;exact absurd dw (h2 b)
      ·rfl
     simp[Region.wanted,hg,h3]
    rw[if_neg xp]
    exact nX _ _ h
   ·cases h
theorem yS(hE:nW P E){ops:Array Oper}: ∀(l:List Oper) (i:Nat) (σ:St) (lg:Log) (a:Act) (w:World) (K:St→Log→Option α),Inv c E σ a w→K3 E ops.toList l i σ lg K=some r→
  (∀σ' XN a' w',K σ' XN=some r→Inv c E σ' a' w'→Q .normal a' w')→wpList P ops Q l a w
 |[],i,σ,lg,a,w,K,hI,h,hn=>hn _ _ _ _ h hI
 |o::l,i,σ,lg,a,w,K,hI,h,hn=>by
  unfold K3 at h
  refine wpList_step fun K' hK'=> ?_
  exact wG hE hI h fun σ' a' w' rd wr h' sF=>hK' _ _ (yS hE l (i+1) σ' _ a' w' K sF h' hn)
theorem EN(hI:Inv c E σ a w){x:Operand}{A B:St→Option α}(h:Bk E x σ A B=some r): ∃b,a.eval x= .bool b∧(if b then A σ else B σ)=some r:=by
 unfold Bk at h
 split at h
 ·rename_i b hb
  refine⟨b,hI.bool hb,?_⟩
  split at h
  ·rename_i t
   have hb:σ.T t= .val .bool b:=hb
   have lG:σ.put t (.val .bool b)=σ:=by rw[←hb];exact yR σ t
   cases b
   ·rw[lG]at h;exact h
   ·rw[lG]at h;exact h
  ·cases b<;>exact h
 ·cases h
end VM
end
section
namespace VM
open Go
variable{P:Program}{E:Env}{o:Oper}{a:Act}{w:World}{M:Nat→Prop}{ν:Nat→Value}{σ:St}{c:Ctx}{α:Type}{r:α}{next:Act→World→Prop}{Q:Exit→Act→World→Prop}
def mix{β:Type}(A B:Nat→β):Nat→β:=fun i=>if i%2=0 then A (i/2)else B (i/2)
theorem eR{β:Type}(A B:Nat→β)(i:Nat):mix A B (2*i)=A i:=by
 unfold mix
 rw[if_pos (by omega),show 2*i/2=i from by omega]
theorem p4{β:Type}(A B:Nat→β)(i:Nat):mix A B (2*i+1)=B i:=by
 unfold mix
 rw[if_neg (by omega),show(2*i+1)/2=i from by omega]
theorem adm{β:Type}{A B A' B':Nat→β}(hl: ∀i,A i=A' i)(hr: ∀i,B i=B' i):mix A B=mix A' B':=by
 funext i;unfold mix;rw[hl,hr]
def aP.re(f:Nat→Nat):aP→aP
 | .dP τ x p j=> .dP τ x p (f j)
 |e=>e
theorem ER.re{v:Value}{f:Nat→Nat}{e:aP}:ER w M v (e.re f)↔ER w M v e:=by cases e<;>simp[aP.re,ER]
theorem aP.mJ{f:Nat→Nat}{e:aP}:(e.re f).mut↔e.mut:=by cases e<;>simp[aP.re,aP.mut]
theorem aP.J4{f g:Nat→Nat}{e e':aP}:(e.re f).hO (e'.re g)↔e.hO e':=by cases e<;>cases e'<;>simp[aP.re,aP.hO]
def ml(i:Nat):Nat:=2*i
def mr(i:Nat):Nat:=2*i+1
def fp(A B:Nat→Option aP):Nat→Option aP:=fun i=>if i%2=0 then(A (i/2)).map (aP.re ml)else(B (i/2)).map (aP.re mr)
theorem sT(A B:Nat→Option aP)(i:Nat):fp A B (2*i)=(A i).map (aP.re ml):=by
 unfold fp
 rw[if_pos (by omega),show 2*i/2=i from by omega]
theorem pb(A B:Nat→Option aP)(i:Nat):fp A B (2*i+1)=(B i).map (aP.re mr):=by
 unfold fp
 rw[if_neg (by omega),show(2*i+1)/2=i from by omega]
theorem eX{A B:Nat→Option aP}{i:Nat}{e:aP}(h:A i=some e):fp A B (2*i)=some (e.re ml):=by rw[sT,h];rfl
theorem pd{A B:Nat→Option aP}{i:Nat}{e:aP}(h:B i=some e):fp A B (2*i+1)=some (e.re mr):=by rw[pb,h];rfl
theorem CT{A B:Nat→Option aP}{i:Nat}:fp A B (2*i)≠none↔A i≠none:=by rw[sT];cases A i<;>simp
theorem CU{A B:Nat→Option aP}{i:Nat}:fp A B (2*i+1)≠none↔B i≠none:=by rw[pb];cases B i<;>simp
theorem mK(A B:Nat→Option aP)(i:Nat)(v:Option aP):bm (fp A B) (2*i) (v.map (aP.re ml))=fp (bm A i v) B:=by
 funext k
 by_cases hk:k=2*i
 ·subst hk;rw[ak,sT,ak]
 ·rw[an _ _ hk]
  unfold fp
  by_cases h2:k%2=0
  ·rw[if_pos h2,if_pos h2,an _ _ (by omega)]
  ·rw[if_neg h2,if_neg h2]
theorem yT(A B:Nat→Option aP)(i:Nat)(v:Option aP):bm (fp A B) (2*i+1) (v.map (aP.re mr))=fp A (bm B i v):=by
 funext k
 by_cases hk:k=2*i+1
 ·subst hk;rw[ak,pb,ak]
 ·rw[an _ _ hk]
  unfold fp
  by_cases h2:k%2=0
  ·rw[if_pos h2,if_pos h2]
  ·rw[if_neg h2,if_neg h2,an _ _ (by omega)]
theorem yU(A B:Nat→Value)(i:Nat)(v:Value):cj (mix A B) (2*i+1) v=mix A (cj B i v):=by
 funext k
 unfold cj mix
 by_cases hk:k=2*i+1
 ·subst hk;rw[if_pos rfl,if_neg (by omega)]
  show v=if(2*i+1)/2=i then v else B ((2*i+1)/2)
  rw[if_pos (by omega)]
 ·rw[if_neg hk]
  by_cases h2:k%2=0
  ·rw[if_pos h2,if_pos h2]
  ·rw[if_neg h2,if_neg h2]
   show B (k/2)=if k/2=i then v else B (k/2)
   rw[if_neg (by omega)]
theorem Mem.left{H A:Nat→Option aP}{νA:Nat→Value}(h:Mem c (fp H A) w M (mix ν νA)):Mem c H w M ν:=
 ⟨fun i e hi=>by have:=h.iO (2*i) _ (eX hi);rw[eR]at this;exact ER.re.1 this,
  fun i j e e' b nR hi hm hj gD=>by have:=h.vi (2*i) (2*j) _ _ b (by omega) (eX hi) (aP.mJ.2 hm) (eX hj) (aP.mJ.2 gD);rwa [eR,eR]at this,
  fun i e b hi hm=>by have:=h.new (2*i) _ b (eX hi) (aP.mJ.2 hm);rwa [eR]at this,
  fun i e l b hi=>by have:=h.tz (2*i) e l b (eX hi);rwa [eR]at this,
  fun i τ x p j hi=>by
   obtain⟨h1,b,h2,h3⟩:=h.dP (2*i) τ x p (ml j) (eX hi)
   rw[eR]at h2
   unfold ml at h1 h3
   rw[eR]at h3
   exact⟨CT.1 h1,b,h2,h3⟩,
  h.sub,h.yD,h.frame,h.size,h.qg,h.os,h.tape,h.output⟩
theorem Mem.right{H A:Nat→Option aP}{νA:Nat→Value}(h:Mem c (fp H A) w M (mix ν νA)):Mem c A w M νA:=
 ⟨fun i e hi=>by have:=h.iO (2*i+1) _ (pd hi);rw[p4]at this;exact ER.re.1 this,
  fun i j e e' b nR hi hm hj gD=>by have:=h.vi (2*i+1) (2*j+1) _ _ b (by omega) (pd hi) (aP.mJ.2 hm) (pd hj) (aP.mJ.2 gD);rwa [p4,p4]at this,
  fun i e b hi hm=>by have:=h.new (2*i+1) _ b (pd hi) (aP.mJ.2 hm);rwa [p4]at this,
  fun i e l b hi=>by have:=h.tz (2*i+1) e l b (pd hi);rwa [p4]at this,
  fun i τ x p j hi=>by
   obtain⟨h1,b,h2,h3⟩:=h.dP (2*i+1) τ x p (mr j) (pd hi)
   rw[p4]at h2
   unfold mr at h1 h3
   rw[p4]at h3
   exact⟨CU.1 h1,b,h2,h3⟩,
  h.sub,h.yD,h.frame,h.size,h.qg,h.os,h.tape,h.output⟩
theorem Mem.Rs{H:Nat→Option aP}(νA:Nat→Value)(h:Mem c H w M ν):Mem c (fp H (fun _=>none)) w M (mix ν νA):=by
 have key: ∀i e,fp H (fun _=>none) i=some e→ ∃j e0,i=2*j∧H j=some e0∧e=e0.re ml:=by
  intro i e hi
  unfold fp at hi
  by_cases h2:i%2=0
  ·rw[if_pos h2]at hi
   obtain⟨e0,h3,h4⟩:=Option.map_eq_some_iff.1 hi
   exact⟨i/2,e0,by omega,h3,h4.symm⟩
  ·rw[if_neg h2]at hi;cases hi
 refine⟨fun i e hi=> ?_,fun i j e e' b nR hi hm hj gD=> ?_,fun i e b hi hm=> ?_,fun i e l b hi=> ?_,fun i τ x p j hi=> ?_,h.sub,h.yD,h.frame,h.size,h.qg,h.os,h.tape,h.output⟩
 ·obtain⟨j,e0,rfl,hj,rfl⟩:=key i e hi;rw[eR];exact ER.re.2 (h.iO j e0 hj)
 ·obtain⟨i',e1,rfl,iF,rfl⟩:=key i e hi;obtain⟨j',e2,rfl,XO,rfl⟩:=key j e' hj
  rw[eR,eR];exact h.vi i' j' e1 e2 b (by omega) iF (aP.mJ.1 hm) XO (aP.mJ.1 gD)
 ·obtain⟨j,e0,rfl,hj,rfl⟩:=key i e hi;rw[eR];exact h.new j e0 b hj (aP.mJ.1 hm)
 ·obtain⟨j,e0,rfl,hj,he⟩:=key i _ hi
  cases e0<;>simp only[aP.re]at he<;>cases he
  rw[eR];exact h.tz j e l b hj
 ·obtain⟨k,e0,rfl,hk,he⟩:=key i _ hi
  cases e0<;>simp only[aP.re]at he<;>cases he
  obtain⟨h1,b,h2,h3⟩:=h.dP k _ _ _ _ hk
  refine⟨CT.2 h1,b,by rw[eR];exact h2,?_⟩
  unfold ml
  rw[eR];exact h3
theorem oe.left{H A H' A':Nat→Option aP}{νA ν' Ln:Nat→Value}(g:oe (fp H A) (mix ν νA) (fp H' A') (mix ν' Ln)):oe H ν H' ν':=
 ⟨fun i e hi=>by
   obtain⟨e',h1,h2⟩:=g.iO (2*i) _ (eX hi)
   rw[sT]at h1
   obtain⟨e0,h3,rfl⟩:=Option.map_eq_some_iff.1 h1
   exact⟨e0,h3,aP.J4.1 h2⟩,
  fun i hi=>by have:=g.head (2*i) (CT.2 hi);rwa [eR,eR]at this⟩
theorem oe.right{H A H' A':Nat→Option aP}{νA ν' Ln:Nat→Value}(g:oe (fp H A) (mix ν νA) (fp H' A') (mix ν' Ln)):oe A νA A' Ln:=
 ⟨fun i e hi=>by
   obtain⟨e',h1,h2⟩:=g.iO (2*i+1) _ (pd hi)
   rw[pb]at h1
   obtain⟨e0,h3,rfl⟩:=Option.map_eq_some_iff.1 h1
   exact⟨e0,h3,aP.J4.1 h2⟩,
  fun i hi=>by have:=g.head (2*i+1) (CU.2 hi);rwa [p4,p4]at this⟩
theorem Mem.move{H A:Nat→Option aP}{νA:Nat→Value}(h:Mem c (fp H A) w M (mix ν νA)){i j:Nat}{e e1:aP}(hi:H i=some e)(hm:e.mut)(hj:A j=none)
  (Ik:(e1=e∧ ∀τ x p k,e≠ .dP τ x p k)∨ ∃τ x p k k',e= .dP τ x p k∧e1= .dP τ x p k'∧A k'≠none∧νA k'=ν k):
  Tr c (fp H A) w M (mix ν νA) (fp (bm H i (some .gone)) (bm A j (some e1))) w M (mix ν (cj νA j (ν i))):=by
 have hg:=Tr.gone h (2*i)
 have hgo:(some aP.gone)=(some aP.gone).map (aP.re ml):=rfl
 rw[hgo,mK]at hg
 have M7:=eX (B:=A) hi
 have hER:ER w M (ν i) (e1.re mr):=by
  have h1:=h.iO (2*i) _ M7
  rw[eR]at h1
  have h1:=ER.re.1 h1
  rcases Ik with⟨rfl,_⟩|⟨τ,x,p,k,k',rfl,rfl,_,_⟩
  ·exact ER.re.2 h1
  ·exact h1
 have h2:=Mem.wE hg.mem (id:=2*j+1) (v:=ν i) (e:=e1.re mr) (fun e' sD=>by rw[pb,hj]at sD;cases sD)
  hER
  (fun b hb k e' hk gD=>by
   by_cases QP:k=2*i
   ·subst QP;rw[sT,ak]at hk;cases hk;simp[aP.re,aP.mut]at gD
   ·have hk3:fp H A k=some e':=by
     have:=congrFun (mK H A i (some .gone)) k
     rw[an _ _ QP]at this
     rw[this];exact hk
    have:=h.vi (2*i) k _ e' b (Ne.symm QP) M7 (aP.mJ.2 hm) hk3 gD
    rw[eR]at this
    exact this hb)
  (fun b hb=>by have:=h.new (2*i) _ b M7 (aP.mJ.2 hm);rw[eR]at this;exact this hb)
  (fun b e0 l0 he hb=>by
   rcases Ik with⟨rfl,_⟩|⟨τ,x,p,k,k',rfl,rfl,_,_⟩
   ·cases e1<;>simp only[aP.re]at he<;>cases he
    have:=h.tz (2*i) e0 l0 b M7;rw[eR]at this;exact this hb
   ·simp[aP.re]at he)
  (.inl (by rw[pb,hj];rfl))
  (fun τ x p k he=>by
   rcases Ik with⟨rfl,hn⟩|⟨τ,x,p,k,k',rfl,rfl,hk,hνk⟩
   ·cases e1<;>simp only[aP.re]at he<;>cases he
    exact absurd rfl (hn _ _ _ _)
   ·simp only[aP.re]at he
    cases he
    obtain⟨_,b,h4,h5⟩:=h.dP (2*i) _ _ _ _ M7
    rw[eR]at h4
    have hkj:k'≠j:=fun e=>hk (e▸hj)
    refine⟨?_,b,h4,?_⟩
    ·rw[an _ _ (by unfold mr;omega)]
     unfold mr
     exact CU.2 hk
    ·unfold ml at h5
     rw[eR]at h5
     rw[h5,←hνk]
     have:cj (mix ν νA) (2*j+1) (ν i) (mr k')=mix ν νA (mr k'):=by
      unfold cj mr;rw[if_neg (by omega)]
     rw[this];unfold mr;rw[p4])
 have Rt:some (e1.re mr)=(some e1).map (aP.re mr):=rfl
 rw[Rt,yT,yU]at h2
 refine⟨h2,.refl w M,⟨fun k e' hk=> ?_,fun k hk=> ?_⟩⟩
 ·by_cases h3:k%2=0
  ·obtain⟨k',rfl⟩: ∃k',k=2*k':=⟨k/2,by omega⟩
   by_cases yc:k'=i
   ·subst yc;exact⟨.gone,by rw[sT,ak];rfl,aP.ka _⟩
   ·exact⟨e',by rw[sT]at hk ⊢;rw[an _ _ yc];exact hk,.refl e'⟩
  ·obtain⟨k',rfl⟩: ∃k',k=2*k'+1:=⟨k/2,by omega⟩
   rw[pb]at hk ⊢
   have yc:k'≠j:=fun e=>by rw[e,hj]at hk;cases hk
   exact⟨e',by rw[an _ _ yc];exact hk,.refl e'⟩
 ·by_cases h3:k%2=0
  ·obtain⟨k',rfl⟩: ∃k',k=2*k':=⟨k/2,by omega⟩
   rw[eR,eR]
  ·obtain⟨k',rfl⟩: ∃k',k=2*k'+1:=⟨k/2,by omega⟩
   rw[p4,p4]
   have yc:k'≠j:=fun e=>by rw[pb,e,hj]at hk;exact hk rfl
   simp[cj,yc]
theorem Mem.fresh{H A:Nat→Option aP}{νA:Nat→Value}(h:Mem c (fp H A) w M (mix ν νA)){j:Nat}(hj:A j=none)(e:Ty)(ad:Option Addr):
  Tr c (fp H A) w M (mix ν νA) (fp H (bm A j (some (.own e [])))) w M (mix ν (cj νA j (.slice ad 0 0))):=by
 have:=Tr.nothing h (id:=2*j+1) (by rw[pb,hj];rfl) e ad
 have Rt:some (aP.own e [])=(some (aP.own e [])).map (aP.re mr):=rfl
 rw[Rt,yT,yU]at this
 exact this
structure Cut(c:Ctx)(σ acc:St)(tm:Array Value)(w:World)(M:Nat→Prop)(ν νA:Nat→Value):Prop where
 mem:Mem c (fp σ.H acc.H) w M (mix ν νA)
 src: ∀i,VR w M σ.H ν (σ.T i) (tm.getD i undef)
 dst: ∀i,VR w M acc.H νA (acc.T i) (tm.getD i undef)
theorem Cut.tr{acc:St}{tm:Array Value}{νA:Nat→Value}(h:Cut c σ acc tm w M ν νA){H' A':Nat→Option aP}{M':Nat→Prop}{Ln:Nat→Value}(t:Tr c (fp σ.H acc.H) w M (mix ν νA) (fp H' A') w M' (mix ν Ln)){s:Nat}{x:aY}(hx:VR w M' A' Ln x (tm.getD s undef)):
  Cut c ⟨σ.T,H'⟩ ⟨(acc.put s x).T,A'⟩ tm w M' ν Ln:=by
 refine⟨t.mem,fun i=>VR.bs t.bs t.goes.left (h.src i),fun i=> ?_⟩
 show VR w M' A' Ln ((acc.put s x).T i) _
 by_cases hi:i=s
 ·subst hi;rw[pa];exact hx
 ·rw[tZ _ _ hi];exact VR.bs t.bs t.goes.right (h.dst i)
def NM(A:Nat→Option aP)(s:Nat):Prop:=A (16*s+13)=none∧A (16*s+14)=none∧A (16*s+15)=none
theorem iG{q:Nat×CM}{L:List (Nat×CM)}{A:Nat→Option aP}(hF:gd (q::L)=true)(hN: ∀p∈q::L,NM A p.1):
  gd L=true∧(∀p∈L,NM A p.1)∧
   ∀(A':Nat→Option aP) (d:Nat) (v:Option aP),(d=16*q.1+13∨d=16*q.1+14∨d=16*q.1+15)→(∀p∈L,NM A' p.1)→ ∀p∈L,NM (bm A' d v) p.1:=by
 unfold gd at hF
 rw[Bool.and_eq_true,List.all_eq_true]at hF
 refine⟨hF.2,fun p hp=>hN p (List.mem_cons_of_mem _ hp),fun A' d v hd hN' p hp=> ?_⟩
 have g9:p.1≠q.1:=fun e=>by
  have:=hF.1 p hp
  rw[e]at this
  simp at this
 obtain⟨h1,h2,h3⟩:=hN' p hp
 exact⟨by rw[an _ _ (by omega)];exact h1,by rw[an _ _ (by omega)];exact h2,by rw[an _ _ (by omega)];exact h3⟩
theorem da{tm:Array Value}: ∀(L:List (Nat×CM)) (σ acc:St) (M:Nat→Prop) (νA:Nat→Value) (K:St→Option α),Cut c σ acc tm w M ν νA→gd L=true→(∀q∈L,NM acc.H q.1)→eL L σ acc K=some r→
  ∃Ru M' Ln,K Ru=some r∧Core c Ru tm w M' Ln
 |[],σ,acc,M,νA,K,hC,_,_,h=>⟨acc,M,νA,h,hC.mem.right,hC.dst⟩
 |(s,.v τ)::L,σ,acc,M,νA,K,hC,hF,hN,h=>by
  obtain⟨HW,HX,Lo⟩:=iG hF hN
  unfold eL at h
  obtain⟨y,rd,ups,h,hy⟩:=yb hC.mem.left (hC.src s) h
  rcases hy with⟨rfl,hV⟩|⟨id,e,l,rfl,aT,hV⟩
  ·exact da L σ _ M νA K (hC.tr (.refl hC.mem) (x:= .val τ y) (by simp only[VR];exact hV)) HW HX h
  ·obtain⟨M2,eP,_,CF⟩:=Tr.freeze hC.mem (id:=2*id) (eX aT)
   have Rt:some (aP.ku e l)=(some (aP.ku e l)).map (aP.re ml):=rfl
   rw[Rt,mK]at eP
   refine da L _ _ M2 νA K (hC.tr eP (x:= .val τ y) ?_) HW HX h
   simp only[VR]
   exact hV M2 (fun b=>by rw[CF b,eR])
 |(s,.own e)::L,σ,acc,M,νA,K,hC,hF,hN,h=>by
  obtain⟨HW,HX,Lo⟩:=iG hF hN
  unfold eL at h
  have hs:=hC.src s
  split at h
  ·rename_i hT
   have hj:=(hN _ List.mem_cons_self).2.1
   rw[hT]at hs
   obtain⟨ad,hv⟩:=VR.emp.1 hs
   refine da L σ _ M _ K (hC.tr (hC.mem.fresh hj e ad) (x:= .ref (16*s+14)) ?_) HW (Lo _ _ _ (.inr (.inl rfl)) HX) h
   simp only[VR]
   exact⟨by rw[ak];simp,by rw[hv];simp[cj]⟩
  ·rename_i id hT
   rw[hT]at hs
   simp only[VR]at hs
   split at h
   ·rename_i e' l aT
    obtain⟨e1,h⟩:=a7 h
    cases e1
    have hj:=(hN _ List.mem_cons_self).2.1
    refine da L _ _ M _ K (hC.tr (hC.mem.move aT trivial hj (.inl ⟨rfl,fun _ _ _ _=>by simp⟩)) (x:= .ref (16*s+14)) ?_) HW (Lo _ _ _ (.inr (.inl rfl)) HX) h
    simp only[VR]
    exact⟨by rw[ak];simp,by rw[hs.2];simp[cj]⟩
   ·cases h
  ·cases h
 |(s,.obj τ)::L,σ,acc,M,νA,K,hC,hF,hN,h=>by
  obtain⟨HW,HX,Lo⟩:=iG hF hN
  unfold eL at h
  have hs:=hC.src s
  split at h
  ·rename_i id hT
   rw[hT]at hs
   split at h
   ·rename_i υ x aT
    obtain⟨e1,h⟩:=a7 h
    subst e1
    have hj:=(hN _ List.mem_cons_self).2.1
    simp only[VR]at hs
    obtain⟨e,he,jJ⟩:=hs
    rw[aT]at he;cases he
    simp only[AR]at jJ
    obtain⟨_,b,hb,hv⟩:=jJ
    refine da L _ _ M _ K (hC.tr (hC.mem.move aT trivial hj (.inl ⟨rfl,fun _ _ _ _=>by simp⟩)) (x:= .fD (16*s+14) []) ?_) HW (Lo _ _ _ (.inr (.inl rfl)) HX) h
    simp only[VR]
    exact⟨_,ak _ _ _,trivial,b,by simp[cj,hb],hv⟩
   ·
    rename_i υ x q k aT
    obtain⟨z,ups,M2,hK,eP,aej,b,cs,t,hb,hg,CF,gV⟩: ∃z ups M2,bZ υ τ z (fun y=>eL L ((σ.qp ups).gX id (some .gone)) ((acc.put s (.fD (16*s+14) [])).gX (16*s+14) (some (.obj τ y))) K)=some r∧
      Tr c (fp σ.H acc.H) w M (mix ν νA) (fp (bS σ.H ups) acc.H) w M2 (mix ν νA)∧bS σ.H ups id=some (.dP υ x q k)∧ ∃b cs t,ν id= .pointer (some ⟨b,0,none⟩)∧w.heap[b]? =some (.cells cs t (0,0))∧M2 b∧Rd w M2 υ cs.toList z:=by
     have aek:=eX (B:=acc.H) aT
     unfold xh at h
     split at h
     ·rename_i e l hk
      have g9:id≠k:=fun e=>by rw[e,hk]at aT;cases aT
      obtain⟨z,ups,M2,hK,eP,_,Zb,b,cs,t,hb,hg,CF,gV⟩:=sR (H:=fp σ.H acc.H) hC.mem (id:=2*id) (j:=2*k) (x:=x) (q:=q)
       (k:=fun z _=>bZ υ τ z fun y=>eL L ((σ.qp [(k,some (.ku e l))]).gX id (some .gone)) ((acc.put s (.fD (16*s+14) [])).gX (16*s+14) (some (.obj τ y))) K) aek (by
        unfold xh
        rw[eX hk]
        exact h)
      rw[eR]at hb
      rcases Zb with⟨e2,l2,h2,_⟩|⟨e2,l2,h2,rfl⟩
      ·rw[eX hk]at h2;simp[aP.re]at h2
      ·rw[eX hk]at h2
       simp only[aP.re,Option.some.injEq]at h2
       have Rt:some (aP.ku e l)=(some (aP.ku e l)).map (aP.re ml):=rfl
       have qB:Tr c (fp σ.H acc.H) w M (mix ν νA) (bm (fp σ.H acc.H) (2*k) (some (.ku e l))) w M2 (mix ν νA):=by
        cases h2;exact eP
       rw[Rt,mK]at qB
       exact⟨z,_,M2,hK,qB,by show bm σ.H k _ id=_;rw[an _ _ g9];exact aT,b,cs,t,hb,hg,CF,gV⟩
     ·rename_i e l hk
      obtain⟨z,ups,M2,hK,eP,_,Zb,b,cs,t,hb,hg,CF,gV⟩:=sR (H:=fp σ.H acc.H) hC.mem (id:=2*id) (j:=2*k) (x:=x) (q:=q)
       (k:=fun z _=>bZ υ τ z fun y=>eL L ((σ.qp []).gX id (some .gone)) ((acc.put s (.fD (16*s+14) [])).gX (16*s+14) (some (.obj τ y))) K) aek (by
        unfold xh
        rw[eX hk]
        exact h)
      rw[eR]at hb
      rcases Zb with⟨e2,l2,h2,rfl⟩|⟨e2,l2,h2,_⟩
      ·exact⟨z,[],M2,hK,eP,aT,b,cs,t,hb,hg,CF,gV⟩
      ·rw[eX hk]at h2;simp[aP.re]at h2
     ·cases h
    obtain⟨e1,hK⟩:=a7 hK
    subst e1
    have hC2:Cut c ⟨σ.T,bS σ.H ups⟩ acc tm w M2 ν νA:=⟨eP.mem,fun i=>VR.bs eP.bs eP.goes.left (hC.src i),fun i=>VR.bs eP.bs eP.goes.right (hC.dst i)⟩
    have nE:=Tr.K6 (e':= .obj υ z) eP.mem (eX aej) trivial trivial rfl (fun _ _=>by simp) (by rw[eR];simp only[ER];exact⟨b,cs,t,hb,hg,CF,gV⟩) (fun _ _ _ _ h=>by cases h)
    have Rt:some (aP.obj υ z)=(some (aP.obj υ z)).map (aP.re ml):=rfl
    rw[Rt,mK]at nE
    have hC3:Cut c ⟨σ.T,bm (bS σ.H ups) id (some (.obj υ z))⟩ acc tm w M2 ν νA:=⟨nE.mem,fun i=>VR.bs nE.bs nE.goes.left (hC2.src i),fun i=>VR.bs nE.bs nE.goes.right (hC2.dst i)⟩
    have hj:=(hN _ List.mem_cons_self).2.1
    simp only[VR]at hs
    obtain⟨e,he,jJ⟩:=hs
    rw[aT]at he;cases he
    simp only[AR]at jJ
    obtain⟨_,b',dw,hv⟩:=jJ
    rw[hb]at dw;cases dw
    have XP:=hC3.mem.move (ak _ _ _) trivial hj (.inl ⟨rfl,fun _ _ _ _=>by simp⟩)
    rw[sQ]at XP
    have HO:(σ.qp ups).gX id (some .gone)=⟨σ.T,bm (bS σ.H ups) id (some .gone)⟩:=by
     have h2:σ.qp ups=⟨σ.T,bS σ.H ups⟩:=by rw[←Ii,←Ij ups σ]
     rw[h2];rfl
    rw[HO]at hK
    refine da L _ _ M2 _ K (hC3.tr XP (x:= .fD (16*s+14) []) ?_) HW (Lo _ _ _ (.inr (.inl rfl)) HX) hK
    simp only[VR]
    exact⟨_,ak _ _ _,trivial,b,by simp[cj,hb],hv⟩
   ·cases h
  ·cases h
 |(s,.dP τ q e)::L,σ,acc,M,νA,K,hC,hF,hN,h=>by
  obtain⟨HW,HX,Lo⟩:=iG hF hN
  unfold eL at h
  have hs:=hC.src s
  split at h
  ·rename_i id hT
   rw[hT]at hs
   split at h
   ·rename_i υ x q' k aT
    obtain⟨hpq,h1⟩:=bB h
    clear h
    have:=vt hpq
    subst this
    split at h1
    ·rename_i e' l hk
     obtain⟨e1,h2⟩:=a7 h1
     clear h1
     subst e1
     obtain⟨e2,h⟩:=a7 h2
     cases e2
     have g9:id≠k:=fun e=>by rw[e,hk]at aT;cases aT
     obtain⟨ajL,ajM,_⟩:=hN _ List.mem_cons_self
     simp only[VR]at hs
     obtain⟨e,he,jJ⟩:=hs
     rw[aT]at he;cases he
     simp only[AR]at jJ
     obtain⟨_,b,hb,hv⟩:=jJ
     have oF:=hC.mem.move hk trivial ajL (.inl ⟨rfl,fun _ _ _ _=>by simp⟩)
     have lf:bm σ.H k (some .gone) id=some (.dP υ x q k):=by rw[an _ _ g9];exact aT
     have tL:=oF.mem.move lf trivial (j:=16*s+14) (e1:= .dP υ x q (16*s+13)) (by rw[an _ _ (by omega)];exact ajM)
      (.inr ⟨υ,x,q,k,16*s+13,rfl,rfl,by rw[ak];simp,by simp[cj]⟩)
     refine da L _ _ M _ K (hC.tr (oF.trans tL) (s:=s) (x:= .fD (16*s+14) []) ?_) HW (Lo _ _ _ (.inr (.inl rfl)) (Lo _ _ _ (.inl rfl) HX)) h
     simp only[VR]
     exact⟨_,ak _ _ _,trivial,b,by simp[cj,hb],hv⟩
    ·cases h1
   ·cases h
  ·cases h
 |(s,.same s')::L,σ,acc,M,νA,K,hC,hF,hN,h=>by
  obtain⟨HW,HX,Lo⟩:=iG hF hN
  unfold eL at h
  split at h
  ·rename_i i j j' h1 h2 h3
   obtain⟨hb,h⟩:=bB h
   have hb:=Nat.eq_of_beq_eq_true hb
   have e1:=hC.src s
   have e2:=hC.src s'
   have e3:=hC.dst s'
   rw[h1]at e1;rw[h2]at e2;rw[h3]at e3
   simp only[VR]at e1 e2 e3
   refine da L σ _ M νA K (hC.tr (.refl hC.mem) (x:= .ref j') ?_) HW HX h
   simp only[VR]
   exact⟨e3.1,by rw[e1.2,hb,←e2.2,e3.2]⟩
  ·cases h
 |(s,.io τ)::L,σ,acc,M,νA,K,hC,hF,hN,h=>by
  obtain⟨HW,HX,Lo⟩:=iG hF hN
  unfold eL at h
  have hs:=hC.src s
  split at h
  ·rename_i id hT
   rw[hT]at hs
   obtain⟨_,h⟩:=bB h
   split at h
   ·rename_i υ x aT
    obtain⟨e1,h⟩:=a7 h
    subst e1
    have hj:=(hN _ List.mem_cons_self).2.2
    simp only[VR]at hs
    obtain⟨e,he,jJ⟩:=hs
    rw[aT]at he;cases he
    simp only[AR]at jJ
    obtain⟨_,b,hb,hv⟩:=jJ
    refine da L _ _ M _ K (hC.tr (hC.mem.move aT trivial hj (.inl ⟨rfl,fun _ _ _ _=>by simp⟩)) (x:= .fD (16*s+15) []) ?_) HW (Lo _ _ _ (.inr (.inr rfl)) HX) h
    simp only[VR]
    exact⟨_,ak _ _ _,trivial,b,by simp[cj,hb],hv⟩
   ·cases h
  ·cases h
 |(s,.fn f τ)::L,σ,acc,M,νA,K,hC,hF,hN,h=>by
  obtain⟨HW,HX,Lo⟩:=iG hF hN
  unfold eL at h
  have hs:=hC.src s
  split at h
  ·rename_i f' cs hT
   rw[hT]at hs
   obtain⟨hb,h1⟩:=bB h
   clear h
   have hb:=Nat.eq_of_beq_eq_true hb
   subst hb
   simp only[VR]at hs
   obtain⟨us,hv,Rg⟩:=hs
   obtain⟨y,rd,ups,h,hy⟩:=yP hC.mem.left Rg h1
   split at h
   ·refine da L σ _ M νA K (hC.tr (.refl hC.mem) (x:= .Eg f (lF τ y)) ?_) HW HX h
    simp only[VR]
    exact⟨us,hv,fF.free (hy rfl)⟩
   ·cases h
  ·cases h
theorem sU(hI:Inv c E σ a w){L:Option (List (Nat×CM))}(hL: ∀L',L=some L'→gd L'=true){K:St→Option α}(h:qx L σ K=some r): ∃σ',K σ'=some r∧Inv c E σ' a w:=by
 unfold qx at h
 split at h
 ·exact⟨σ,h,hI⟩
 ·have XM:=hL _ rfl
  obtain⟨⟨M,ν,hc⟩,hs,hd⟩:=hI
  obtain⟨Ru,M',Ln,hK,ael⟩:=da (tm:=a.tmps) _ σ ⟨fun _=> .any,fun _=>none⟩ M (fun _=>undef) K ⟨hc.mem.Rs _,hc.tmp,fun i=>by simp[VR]⟩ XM (fun _ _=>⟨rfl,rfl,rfl⟩) h
  exact⟨Ru,hK,⟨M',Ln,ael⟩,hs,hd⟩
end VM
end
