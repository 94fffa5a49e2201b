/- A part of the proof of AwardBest of layer 25: a machine that reads a function of the program as an equation between values. -/
import Derived.Test.YtocmlaipoebfeaaGreatVm3
import Derived.Scope
set_option linter.all false
section
namespace VM
open Go
variable{P:Program}{E:Env}{o:Oper}{a:Act}{w:World}{M:Nat→Prop}{ν:Nat→Value}{σ:St}{c:Ctx}{α:Type}{r:α}{next:Act→World→Prop}{Q:Exit→Act→World→Prop}
theorem Mem.call{H:Nat→Option aR}(h:Mem c H w M ν){hs:List Nat}{M0 M':Nat→Prop}{w':World}(hM: ∀b,M0 b→M b)(hhs: ∀b∈hs,M b)
  (pB: ∀b∈hs,∀i e,H i=some e→e.mut→dV (ν i)≠some b) (jq: ∀b∈hs,c.B≤b∨c.may b) (qS: ∀b∈hs,c.M0 b→M' b) (L:Left w M0 hs w' M'):
  Mem c H w' (fun b=>M' b∨(M b∧b∉hs)) ν∧c4 w M w' (fun b=>M' b∨(M b∧b∉hs)):=by
 have hk:c4 w M w' (fun b=>M' b∨(M b∧b∉hs)):=by
  refine⟨L.size,fun b hb hm=>L.frame b hb (fun hh=>hm (hhs b hh)),fun b hb hm=> ?_⟩
  rcases hm with hm|hm
  ·exact(L.less b hb hm).elim (hM b) (hhs b)
  ·exact hm.1
 refine⟨⟨fun i e hi=>(h.im i e hi).br hk fun hm b hb=> ?_,h.um,h.new,h.sM,lW h (fun _ _=>rfl) (fun _ h=>h) (fun i τ x p j hi=> .inl ⟨hi,fun b hb=> ?_⟩),fun b hb=> ?_,fun b hb=> ?_,fun b hb hm=> ?_,Nat.le_trans h.size L.size,h.pQ,L.os.trans h.os,L.tape.trans h.tape,L.output.trans h.output⟩,hk⟩
 ·have Wy:=(h.im i e hi).rW hm hb
  have wm:b∉hs:=fun hh=>pB b hh i e hi hm hb
  exact⟨L.frame b (h.xk b Wy) wm,.inr ⟨Wy,wm⟩⟩
 ·have sN:dV (ν i)=some b:=by rw[hb];rfl
  have Wy:=(h.im i _ hi).rW trivial sN
  exact L.frame b (h.xk b Wy) (fun hh=>pB b hh i _ hi trivial sN)
 ·by_cases hh:b∈hs
  ·exact .inl (qS b hh hb)
  ·exact .inr ⟨h.sub b hb,hh⟩
 ·rcases hb with hb|hb
  ·exact L.xk b hb
  ·exact Nat.lt_of_lt_of_le (h.xk b hb.1) L.size
 ·have wm:b∉hs:=fun hh=>(jq b hh).elim (fun h'=>by omega) hm
  rw[L.frame b (Nat.lt_of_lt_of_le hb h.size) wm]
  exact h.frame b hb hm
theorem Mem.vt{H:Nat→Option aR}(h:Mem c H w M ν){id:Nat}{v:Value}{e:aR}(aS: ∀e',H id=some e'→ ¬e'.mut)(Jy:ER w M v e)
  (hd: ∀b,dV v=some b→ ∀i e',H i=some e'→e'.mut→dV (ν i)≠some b) (hn: ∀b,dV v=some b→c.B≤b∨c.may b) (ho: ∀b e0 l0,e= .own e0 l0→dV v=some b→ ¬c.M0 b)
  (hnv:H id=none∨v=ν id)
  (oc: ∀τ x p j,e= .dE τ x p j→bm H id (some e) j≠none∧ ∃b,v= .pointer (some ⟨b,0,none⟩)∧w.cell? ⟨b,bA p τ,none⟩=some (b9 ν id v j):=by intro _ _ _ _ h;cases h):
  Mem c (bm H id (some e)) w M (b9 ν id v):=by
 have hν: ∀i,i≠id→b9 ν id v i=ν i:=fun i hi=>by simp[b9,hi]
 have wi:b9 ν id v id=v:=by simp[b9]
 refine⟨fun i e1 hi=> ?_,fun i k e1 e2 b1 ng hi ob hk sY=> ?_,fun i e1 b1 hi ob=> ?_,fun i e1 l1 b1 hi=> ?_,lW h (fun i hi=> ?_) qQ (fun i τ x p j hi=> ?_),h.sub,h.xk,h.frame,h.size,h.pQ,h.os,h.tape,h.output⟩
 ·by_cases bn:i=id
  ·subst bn;rw[ak]at hi;cases hi;rw[wi];exact Jy
  ·rw[al _ _ bn]at hi;rw[hν i bn];exact h.im i e1 hi
 ·by_cases bn:i=id
  ·subst bn;rw[wi]
   have C3:k≠i:=Ne.symm ng
   rw[al _ _ C3]at hk;rw[hν k C3]
   intro jo
   exact hd b1 jo k e2 hk sY
  ·rw[al _ _ bn]at hi;rw[hν i bn]
   by_cases C3:k=id
   ·subst C3;rw[wi]
    intro jo rX
    exact hd b1 rX i e1 hi ob jo
   ·rw[al _ _ C3]at hk;rw[hν k C3];exact h.um i k e1 e2 b1 ng hi ob hk sY
 ·by_cases bn:i=id
  ·subst bn;rw[wi];exact hn b1
  ·rw[al _ _ bn]at hi;rw[hν i bn];exact h.new i e1 b1 hi ob
 ·by_cases bn:i=id
  ·subst bn;rw[ak]at hi;cases hi;rw[wi];exact ho b1 e1 l1 rfl
  ·rw[al _ _ bn]at hi;rw[hν i bn];exact h.sM i e1 l1 b1 hi
 ·by_cases bn:i=id
  ·subst bn
   rcases hnv with hnv|hnv
   ·exact absurd hnv hi
   ·rw[wi,hnv]
  ·exact hν i bn
 ·by_cases bn:i=id
  ·subst bn
   rw[ak]at hi
   cases hi
   obtain⟨h1,b,h2,h3⟩:=oc _ _ _ _ rfl
   exact .inr ⟨h1,b,by rw[wi];exact h2,h3⟩
  ·rw[al _ _ bn]at hi
   exact .inl ⟨hi,fun _ _=>rfl⟩
theorem JM{m:AM}{ms:List AM}(x:HP (m::ms))(id:Nat)(io:List (Nat×Ty)):
  g7 (m::ms) x id io=match m,pS x,io with
   | .io τ,y,(j,_)::io=>((g7 ms (uq x) (id+1) io).1,(j,some (.obj τ y))::(g7 ms (uq x) (id+1) io).2.1,(g7 ms (uq x) (id+1) io).2.2)
   |m,y,io=>((Bi m y id).1::(g7 ms (uq x) (id+1) io).1,(Bi m y id).2++(g7 ms (uq x) (id+1) io).2.1,(g7 ms (uq x) (id+1) io).2.2):=by
 cases ms with
 |nil=>cases m<;>cases io<;>simp[g7,pS]
 |cons n ms=>cases m<;>cases io<;>simp[g7,pS,uq]
theorem lK{l1 l2:List Nat}{b:Nat}(h:(l1++l2).Nodup)(h1:b∈l1):b∉l2:=fun h2=>(List.nodup_append.1 h).2.2 b h1 b h2 rfl
theorem RR.Bz: ∀{ms:List AM} {x:HP ms} {us ps:List Value},RR w M ms x us ps→ ∀p∈ps,∀b,dV p=some b→b∈aZ ms us ps
 |[],_,_,_,h,p,hp,_,_=>by simp only[RR]at h;rw[h.2]at hp;simp at hp
 |m::ms,x,us,ps,h,p,hp,b,hb=>by
  simp only[RR]at h
  rcases h with⟨p',zE,h1,rfl,h2,h3⟩|⟨v,By,h1,h2,rfl,h3,h4⟩
  ·simp only[aZ,h1,if_true,List.headD_cons,List.tail_cons,List.mem_append]
   rcases List.mem_cons.1 hp with rfl|hp
   ·left
    cases m<;>simp[AM.fk]at h1
    simp[cf,hb]
   ·exact .inr (RR.Bz h3 p hp b hb)
  ·simp only[aZ,h1,Bool.false_eq_true,if_false,List.headD_cons,List.tail_cons,List.mem_append]
   exact .inr (RR.Bz h4 p hp b hb)
theorem mc{hs:List Nat}{sz:Nat}: ∀{ms:List AM} {x:HP ms} {us ps:List Value} {id:Nat} {io:List (Nat×Ty)} {H:Nat→Option aR} {ν:Nat→Value} {used:List Nat},
  Mem c H w M ν→RR w M ms x us ps→ps=io.map (fun q=>ν q.1)→kd ms=io.map (·.2)→(keys io).Nodup→(∀q∈io,H q.1=some .gone)→(∀i,id≤i→i<id+ms.length→H i=none)→
  (∀i e b,H i=some e→e.mut→dV (ν i)=some b→(b<sz∧b∉hs)∨b∈used)→(used++aZ ms us ps).Nodup→(∀b∈aZ ms us ps,sz≤b∨b∈hs)→
  (∀b∈aZ ms us ps,(c.B≤b∨c.may b))→(∀b∈aZ ms us ps,c.M0 b→ ∃p∈ps,dV p=some b)→
  ∃ν',Mem c (bP H (g7 ms x id io).2.1) w M ν'∧fj w M (bP H (g7 ms x id io).2.1) ν' (g7 ms x id io).1 us∧(∀i,H i≠none→ν' i=ν i)∧
   (∀i,i∉keys io→(i<id∨id+ms.length≤i)→bP H (g7 ms x id io).2.1 i=H i)∧(∀i,id≤i→i<id+ms.length→ ∀e,bP H (g7 ms x id io).2.1 i=some e→(∃e0 l0,e= .own e0 l0)∨ ∃τ0 z0,e= .obj τ0 z0)∧
   (∀q∈io,∃z:q.2.den,bP H (g7 ms x id io).2.1 q.1=some (.obj q.2 z))
 |[],x,us,ps,id,io,H,ν,used,hm,hr,Ge,zy,Dj,zG,gP,hold,td,mW,jq,C2=>by
  simp only[RR]at hr
  obtain⟨rfl,rfl⟩:=hr
  have qS:io=[]:=by
   cases io with
   |nil=>rfl
   |cons q io=>simp at Ge
  subst qS
  exact⟨ν,hm,by simp[g7,fj],fun _ _=>rfl,fun _ _ _=>rfl,fun i h1 h2=>by simp at h2;omega,fun q hq=>by simp at hq⟩
 |m::ms,x,us,ps,id,io,H,ν,used,hm,hr,Ge,zy,Dj,zG,gP,hold,td,mW,jq,C2=>by
  rw[JM]
  simp only[RR]at hr
  rcases hr with⟨p,zE,BA,rfl,h1,h2⟩|⟨v,By,BA,hmf,rfl,h1,h2⟩
  ·
   cases m with
   |io τ=>
    cases io with
    |nil=>simp at Ge
    |cons q io=>
     simp only[List.map_cons,List.cons.injEq]at Ge
     obtain⟨rfl,rfl⟩:=Ge
     simp only[kd,List.map_cons,List.cons.injEq]at zy
     obtain⟨ag8,ag9⟩:=zy
     simp only[keys,List.map_cons,List.nodup_cons]at Dj
     have W0:aZ (.io τ::ms) us (ν q.1::io.map fun q=>ν q.1)=(dV (ν q.1)).toList++aZ ms us (io.map fun q=>ν q.1):=rfl
     rw[W0]at td mW jq C2
     have hq0:=zG q List.mem_cons_self
     have Dl:q.1<id∨id+(ms.length+1)≤q.1:=by
      rcases Nat.lt_or_ge q.1 id with h'|h'
      ·exact .inl h'
      ·rcases Nat.lt_or_ge q.1 (id+(ms.length+1))with Iz|Iz
       ·rw[gP q.1 h' Iz]at hq0;cases hq0
       ·exact .inr Iz
     simp only[A1]at h1
     have qc: ∀b,dV (ν q.1)=some b→ ∀i e',H i=some e'→e'.mut→dV (ν i)≠some b:=by
      intro b hb i e' hi gk di
      have gC:b∈(dV (ν q.1)).toList++aZ ms us (io.map fun q=>ν q.1):=List.mem_append_left _ (by rw[hb];simp)
      rcases hold i e' b hi gk di with⟨h3,h4⟩|h3
      ·exact(mW b gC).elim (fun h'=>by omega) h4
      ·exact lK td h3 gC
     have sY:=Mem.vt (c:=c) hm (id:=q.1) (v:=ν q.1) (e:= .obj τ (pS x)) (fun e' rI=>by rw[hq0]at rI;cases rI;simp[aR.mut]) h1 qc (fun b hb=>jq b (List.mem_append_left _ (by rw[hb];simp))) (fun b e0 l0 he=>by cases he) (.inr rfl)
     have hνe:b9 ν q.1 (ν q.1)=ν:=by funext i;unfold b9;split<;>simp_all
     rw[hνe]at sY
     have aha: ∀(q':Nat×Ty),q'∈io→q'.1≠q.1:=fun q' sd e=>Dj.1 (List.mem_map.2 ⟨q',sd,e⟩)
     obtain⟨ν',r1,r2,r3,r4,r5,r6⟩:=mc (ms:=ms) (x:=uq x) (us:=us) (ps:=io.map fun q=>ν q.1) (id:=id+1) (io:=io) (used:=used++(dV (ν q.1)).toList) sY h2 rfl ag9 Dj.2
      (fun q' sd=>by rw[al _ _ (aha q' sd)];exact zG q' (List.mem_cons_of_mem _ sd))
      (fun i h3 h4=>by
       have:i≠q.1:=by omega
       rw[al _ _ this]
       exact gP i (by omega) (by simp only[List.length_cons];omega))
      (fun i e b hi gk hb=>by
       by_cases bn:i=q.1
       ·subst bn;exact .inr (List.mem_append_right _ (by rw[hb];simp))
       ·rw[al _ _ bn]at hi
        exact(hold i e b hi gk hb).imp (fun h=>h) (List.mem_append_left _))
      (by rw[List.append_assoc];exact td) (fun b hb=>mW b (List.mem_append_right _ hb)) (fun b hb=>jq b (List.mem_append_right _ hb))
      (fun b hb hb0=>by
       obtain⟨p,hp,hpb⟩:=C2 b (List.mem_append_right _ hb) hb0
       rcases List.mem_cons.1 hp with rfl|hp
       ·exact absurd (lK (List.nodup_append.1 td).2.1 (b:=b) (by rw[hpb];simp)) (by simpa using hb)
       ·exact⟨p,hp,hpb⟩)
     refine⟨ν',r1,r2,fun i hi=> ?_,fun i h3 h4=> ?_,fun i h3 h4 e he=> ?_,fun q' sd=> ?_⟩
     ·exact r3 i (by
       by_cases bn:i=q.1
       ·subst bn;rw[ak];simp
       ·rw[al _ _ bn];exact hi)
     ·simp only[keys,List.map_cons,List.mem_cons,not_or]at h3
      have:=r4 i h3.2 (by simp only[List.length_cons]at h4;omega)
      rw[al _ _ h3.1]at this
      exact this
     ·by_cases h5:id+1≤i
      ·exact r5 i h5 (by simp only[List.length_cons]at h4;omega) e he
      ·have bn:i=id:=by omega
       subst bn
       by_cases hk:i∈keys io
       ·obtain⟨q',sd,Gg⟩:=List.mem_map.1 hk
        have h9:=zG q' (List.mem_cons_of_mem _ sd)
        rw[Gg,gP i (Nat.le_refl _) (by simp)]at h9
        cases h9
       ·have:=r4 i hk (.inl (by omega))
        have gG:i≠q.1:=by omega
        rw[al _ _ gG,gP i (Nat.le_refl _) (by simp)]at this
        have he:bP (bm H q.1 (some (aR.obj τ (pS x)))) (g7 ms (uq x) (i+1) io).2.1 i=some e:=he
        rw[this]at he;cases he
     ·rcases List.mem_cons.1 sd with rfl|sd
      ·have:=r4 q'.1 Dj.1 (by omega)
       rw[ak]at this
       rw[←ag8]
       exact⟨pS x,this⟩
      ·exact r6 q' sd
   |v τ=>simp[AM.fk]at BA
   |own τ=>simp[AM.fk]at BA
   |fn f τ=>simp[AM.fk]at BA
   |ptr τ=>simp[AM.fk]at BA
   |eV τ=>simp[AM.fk]at BA
  ·
   have zH:H id=none:=gP id (Nat.le_refl _) (by simp)
   cases m with
   |io τ=>simp[AM.fk]at BA
   |fn f τ=>simp[AM.PE]at hmf
   |eV τ=>simp[AM.PE]at hmf
   |v τ=>
    have W0:aZ (.v τ::ms) (v::By) ps=aZ ms By ps:=rfl
    rw[W0]at td mW jq C2
    simp only[A1]at h1
    obtain⟨ν',r1,r2,r3,r4,r5,r6⟩:=mc (ms:=ms) (x:=uq x) (us:=By) (ps:=ps) (id:=id+1) (io:=io) (used:=used) hm h2 Ge (by simpa [kd]using zy) Dj zG (fun i h3 h4=>gP i (by omega) (by simp only[List.length_cons];omega)) hold td mW jq C2
    refine⟨ν',r1,?_,r3,fun i h3 h4=>r4 i h3 (by simp only[List.length_cons]at h4;omega),fun i h3 h4 e he=> ?_,r6⟩
    ·simp only[Bi,fj,VR];exact⟨h1,r2⟩
    ·by_cases h5:id+1≤i
     ·exact r5 i h5 (by simp only[List.length_cons]at h4;omega) e he
     ·have bn:i=id:=by omega
      subst bn
      by_cases hk:i∈keys io
      ·obtain⟨q',sd,Gg⟩:=List.mem_map.1 hk
       have h9:=zG q' sd
       rw[Gg,zH]at h9;cases h9
      ·have:=r4 i hk (.inl (by omega))
       rw[zH]at this
       have he:bP H (g7 ms (uq x) (i+1) io).2.1 i=some e:=he
       rw[this]at he;cases he
   |own τ=>
    have W0:aZ (.own τ::ms) (v::By) ps=(dV v).toList++aZ ms By ps:=rfl
    rw[W0]at td mW jq C2
    simp only[A1]at h1
    have qc: ∀b,dV v=some b→ ∀i e',H i=some e'→e'.mut→dV (ν i)≠some b:=by
     intro b hb i e' hi gk di
     have gC:b∈(dV v).toList++aZ ms By ps:=List.mem_append_left _ (by rw[hb];simp)
     rcases hold i e' b hi gk di with⟨h3,h4⟩|h3
     ·exact(mW b gC).elim (fun h'=>by omega) h4
     ·exact lK td h3 gC
    have abR: ∀b,dV v=some b→ ¬c.M0 b:=by
     intro b hb h0
     have gC:b∈(dV v).toList:=by rw[hb];simp
     obtain⟨p,hp,hpb⟩:=C2 b (List.mem_append_left _ gC) h0
     exact lK (List.nodup_append.1 td).2.1 gC (RR.Bz h2 p hp b hpb)
    have sY:=Mem.vt (c:=c) hm (id:=id) (v:=v) (e:= .own τ (pS x)) (fun e' rI=>by rw[zH]at rI;cases rI) h1 qc (fun b hb=>jq b (List.mem_append_left _ (by rw[hb];simp))) (fun b e0 l0 _ hb=>abR b hb) (.inl zH)
    have Dl: ∀q∈io,q.1≠id:=fun q hq e=>by
     have h9:=zG q hq
     rw[e,zH]at h9;cases h9
    have W1: ∀i,i≠id→b9 ν id v i=ν i:=fun i hi=>by simp[b9,hi]
    obtain⟨ν',r1,r2,r3,r4,r5,r6⟩:=mc (ms:=ms) (x:=uq x) (us:=By) (ps:=ps) (id:=id+1) (io:=io) (used:=used++(dV v).toList) sY h2
     (by rw[Ge];exact List.map_congr_left fun q hq=>(W1 _ (Dl q hq)).symm) (by simpa [kd]using zy) Dj
     (fun q hq=>by rw[al _ _ (Dl q hq)];exact zG q hq)
     (fun i h3 h4=>by rw[al _ _ (by omega)];exact gP i (by omega) (by simp only[List.length_cons];omega))
     (fun i e b hi gk hb=>by
      by_cases bn:i=id
      ·subst bn
       have:b9 ν i v i=v:=by simp[b9]
       rw[this]at hb
       exact .inr (List.mem_append_right _ (by rw[hb];simp))
      ·rw[al _ _ bn]at hi
       rw[W1 i bn]at hb
       exact(hold i e b hi gk hb).imp (fun h=>h) (List.mem_append_left _))
     (by rw[List.append_assoc];exact td) (fun b hb=>mW b (List.mem_append_right _ hb)) (fun b hb=>jq b (List.mem_append_right _ hb)) (fun b hb=>C2 b (List.mem_append_right _ hb))
    have W2:id∉keys io:=fun hk=>by
     obtain⟨q,hq,Gg⟩:=List.mem_map.1 hk
     exact Dl q hq Gg
    have lh:bP (bm H id (some (.own τ (pS x)))) (g7 ms (uq x) (id+1) io).2.1 id=some (.own τ (pS x)):=by
     rw[r4 id W2 (.inl (by omega)),ak]
    refine⟨ν',r1,?_,fun i hi=> ?_,fun i h3 h4=> ?_,fun i h3 h4 e he=> ?_,r6⟩
    ·simp only[Bi,fj,VR]
     refine⟨⟨?_,?_⟩,r2⟩
     ·show bP (bm H id (some (.own τ (pS x)))) (g7 ms (uq x) (id+1) io).2.1 id≠none
      rw[lh];simp
     ·rw[r3 id (by rw[ak];simp)];simp[b9]
    ·have bn:i≠id:=fun e=>hi (e▸zH)
     rw[r3 i (by rw[al _ _ bn];exact hi),W1 i bn]
    ·have bn:i≠id:=by simp only[List.length_cons]at h4;omega
     have:=r4 i h3 (by simp only[List.length_cons]at h4;omega)
     rw[al _ _ bn]at this
     exact this
    ·by_cases h5:id+1≤i
     ·exact r5 i h5 (by simp only[List.length_cons]at h4;omega) e he
     ·have bn:i=id:=by omega
      subst bn
      have he:bP (bm H i (some (.own τ (pS x)))) (g7 ms (uq x) (i+1) io).2.1 i=some e:=he
      rw[lh]at he;cases he
      exact .inl ⟨τ,_,rfl⟩
   |ptr τ=>
    have W0:aZ (.ptr τ::ms) (v::By) ps=(dV v).toList++aZ ms By ps:=rfl
    rw[W0]at td mW jq C2
    simp only[A1]at h1
    have qc: ∀b,dV v=some b→ ∀i e',H i=some e'→e'.mut→dV (ν i)≠some b:=by
     intro b hb i e' hi gk di
     have gC:b∈(dV v).toList++aZ ms By ps:=List.mem_append_left _ (by rw[hb];simp)
     rcases hold i e' b hi gk di with⟨h3,h4⟩|h3
     ·exact(mW b gC).elim (fun h'=>by omega) h4
     ·exact lK td h3 gC
    have sY:=Mem.vt (c:=c) hm (id:=id) (v:=v) (e:= .obj τ (pS x)) (fun e' rI=>by rw[zH]at rI;cases rI) h1 qc (fun b hb=>jq b (List.mem_append_left _ (by rw[hb];simp))) (fun b e0 l0 he _=>by cases he) (.inl zH)
    have Dl: ∀q∈io,q.1≠id:=fun q hq e=>by
     have h9:=zG q hq
     rw[e,zH]at h9;cases h9
    have W1: ∀i,i≠id→b9 ν id v i=ν i:=fun i hi=>by simp[b9,hi]
    obtain⟨ν',r1,r2,r3,r4,r5,r6⟩:=mc (ms:=ms) (x:=uq x) (us:=By) (ps:=ps) (id:=id+1) (io:=io) (used:=used++(dV v).toList) sY h2
     (by rw[Ge];exact List.map_congr_left fun q hq=>(W1 _ (Dl q hq)).symm) (by simpa [kd]using zy) Dj
     (fun q hq=>by rw[al _ _ (Dl q hq)];exact zG q hq)
     (fun i h3 h4=>by rw[al _ _ (by omega)];exact gP i (by omega) (by simp only[List.length_cons];omega))
     (fun i e b hi gk hb=>by
      by_cases bn:i=id
      ·subst bn
       have:b9 ν i v i=v:=by simp[b9]
       rw[this]at hb
       exact .inr (List.mem_append_right _ (by rw[hb];simp))
      ·rw[al _ _ bn]at hi
       rw[W1 i bn]at hb
       exact(hold i e b hi gk hb).imp (fun h=>h) (List.mem_append_left _))
     (by rw[List.append_assoc];exact td) (fun b hb=>mW b (List.mem_append_right _ hb)) (fun b hb=>jq b (List.mem_append_right _ hb)) (fun b hb=>C2 b (List.mem_append_right _ hb))
    have W2:id∉keys io:=fun hk=>by
     obtain⟨q,hq,Gg⟩:=List.mem_map.1 hk
     exact Dl q hq Gg
    have lh:bP (bm H id (some (.obj τ (pS x)))) (g7 ms (uq x) (id+1) io).2.1 id=some (.obj τ (pS x)):=by
     rw[r4 id W2 (.inl (by omega)),ak]
    refine⟨ν',r1,?_,fun i hi=> ?_,fun i h3 h4=> ?_,fun i h3 h4 e he=> ?_,r6⟩
    ·simp only[Bi,fj,VR]
     refine⟨⟨_,lh,trivial,?_⟩,r2⟩
     simp only[A1,ER]at h1
     obtain⟨b,cs,t,LZ,_⟩:=h1
     exact⟨b,by rw[r3 id (by rw[ak];simp)];simp[b9,LZ],LZ⟩
    ·have bn:i≠id:=fun e=>hi (e▸zH)
     rw[r3 i (by rw[al _ _ bn];exact hi),W1 i bn]
    ·have bn:i≠id:=by simp only[List.length_cons]at h4;omega
     have:=r4 i h3 (by simp only[List.length_cons]at h4;omega)
     rw[al _ _ bn]at this
     exact this
    ·by_cases h5:id+1≤i
     ·exact r5 i h5 (by simp only[List.length_cons]at h4;omega) e he
     ·have bn:i=id:=by omega
      subst bn
      have he:bP (bm H i (some (.obj τ (pS x)))) (g7 ms (uq x) (i+1) io).2.1 i=some e:=he
      rw[lh]at he;cases he
      exact .inr ⟨τ,_,rfl⟩
end VM
end
section
namespace VM
open Go
variable{P:Program}{E:Env}{o:Oper}{a:Act}{w:World}{M:Nat→Prop}{ν:Nat→Value}{σ:St}{c:Ctx}{α:Type}{r:α}{next:Act→World→Prop}{Q:Exit→Act→World→Prop}
theorem Dm{i:Nat}: ∀{ups:e9} {H:Nat→Option aR},i∈keys ups→ ∃u∈ups,u.1=i∧bP H ups i=u.2
 |[],_,h=>by simp[keys]at h
 |u::r,H,h=>by
  by_cases hk:i∈keys r
  ·obtain⟨v,h1,h2,h3⟩:=Dm (H:=bm H u.1 u.2) hk
   exact⟨v,List.mem_cons_of_mem _ h1,h2,h3⟩
  ·have hi:i=u.1:=by
    simp only[keys,List.map_cons,List.mem_cons]at h hk
    exact h.resolve_right hk
   refine⟨u,List.mem_cons_self,hi.symm,?_⟩
   show bP (bm H u.1 u.2) r i=_
   rw[iS hk,hi,ak]
theorem xz: ∀{ups:e9} {H H':Nat→Option aR},(∀i,i∉keys ups→H i=H' i)→bP H ups=bP H' ups
 |[],H,H',h=>funext fun i=>h i (by simp[keys])
 |u::r,H,H',h=>by
  refine xz (ups:=r) fun i hi=> ?_
  by_cases hu:i=u.1
  ·subst hu;rw[ak,ak]
  ·rw[al _ _ hu,al _ _ hu]
   exact h i (by simp only[keys,List.map_cons,List.mem_cons,not_or];exact⟨hu,hi⟩)
theorem RR.me: ∀{ms:List AM} {x:HP ms} {us ps:List Value},RR w M ms x us ps→ ∀b∈aZ ms us ps,M b
 |[],_,_,_,_,b,hb=>by simp[aZ]at hb
 |m::ms,x,us,ps,h,b,hb=>by
  simp only[RR]at h
  rcases h with⟨p,zE,h1,rfl,h2,h3⟩|⟨v,By,h1,h2,rfl,h3,h4⟩
  ·simp only[aZ,h1,if_true,List.headD_cons,List.tail_cons,List.mem_append]at hb
   rcases hb with hb|hb
   ·cases m<;>simp[AM.fk]at h1
    simp only[cf,Option.mem_toList,A1]at hb h2
    exact h2.rW trivial hb
   ·exact RR.me h3 b hb
  ·simp only[aZ,h1,Bool.false_eq_true,if_false,List.headD_cons,List.tail_cons,List.mem_append]at hb
   rcases hb with hb|hb
   ·cases m with
    |own e=>
     simp only[cf,Option.mem_toList,A1]at hb h3
     exact h3.rW trivial hb
    |v _=>simp[cf]at hb
    |io _=>simp[AM.fk]at h1
    |fn _ _=>simp[cf]at hb
    |eV _=>simp[cf]at hb
    |ptr τ=>
     simp only[cf,Option.mem_toList,A1]at hb h3
     exact h3.rW trivial hb
   ·exact RR.me h4 b hb
theorem Ad: ∀{l:List gL} {ld:List aW} {S:gL},CX l ld=some S→S∈l
 |[],_,_,h=>by simp[CX]at h
 |T::l,ld,S,h=>by
  unfold CX at h
  cases hf:fits T.args ld
  ·rw[hf]at h;exact List.mem_cons_of_mem _ (Ad h)
  ·rw[hf]at h;cases h;exact List.mem_cons_self
theorem vu{H:Nat→Option aR}{id:Nat}: ∀{n:Nat},oD H id n=true→ ∀i,id≤i→i<id+n→H i=none
 |0,_,i,h1,h2=>by omega
 |n+1,h,i,h1,h2=>by
  unfold oD at h
  rw[Bool.and_eq_true]at h
  by_cases hi:i=id+n
  ·subst hi
   have h:=h.1
   split at h
   ·assumption
   ·cases h
  ·exact vu h.2 i h1 (by omega)
theorem L0{H:Nat→Option aR}{ld:List aW}{us:List Value}(h:fj w M H ν ld us):VR w M H ν (CV ld) (qa us):=by
 match ld,us,h with
 |[],[],_=>simp[CV,VR]
 |[a],[u],h=>simp only[fj,and_true]at h;simpa [CV,qa]using h
 |a::b::ld,u::v::us,h=>
  simp only[CV,VR]
  exact⟨u::v::us,by simp[qa],h⟩
 |[],_::_,h=>simp[fj]at h
 |_::_,[],h=>simp[fj]at h
 |[_],_::_::_,h=>simp[fj]at h
 |_::_::_,[_],h=>simp[fj]at h
theorem Dn(hΓ: ∀f S,S∈E.Γ f→eE P f S){H:Nat→Option aR}(hm:Mem c H w M ν){f id:Nat}{ld:List aW}{vs:List Value}(hv:fj w M H ν ld vs){K:fa α}(h:vh E f ld id H K=some r)
  {R:Value→World→Prop} (hR: ∀v rd ups v' w' M' ν',K v rd ups=some r→Tr c H w M ν (bP H ups) w' M' ν'→VR w' M' (bP H ups) ν' v v'→R v' w'):
  Di P f vs.toArray w R:=by
 unfold vh at h
 split at h
 ·cases h
 rename_i S hS
 have hok:=hΓ f S (Ad hS)
 obtain⟨x,rd,uo,uf,io,H2,Hq,M2,h1,hA,hK,abS,PH,Ll⟩:=vr (gO.start hm) hv h
 clear h
 simp only[List.nil_append,List.map_nil]at hA PH Ll
 obtain⟨y,hy,h1⟩:=Option.bind_eq_some_iff.1 h1
 obtain⟨gP,h1⟩:=bz h1
 have gP:=vu gP
 have ahb:(fun b=>(M2 b∧b∉cv S.args vs)∨b∈cv S.args vs)=M2:=by
  funext b
  refine propext ⟨fun h=>h.elim (·.1) (hA.hM b),fun h=> ?_⟩
  by_cases hb:b∈cv S.args vs
  ·exact .inr hb
  ·exact .inl ⟨h,hb⟩
 refine Di.mono (hok.call (fun b=>M2 b∧b∉cv S.args vs) w vs x y (fun b hb=>hA.mem.xk b hb.1) (by rw[ahb];exact abS) hA.nd (fun b hb h=>h.2 hb) hy) ?_
 rintro e w' ⟨us,M',rfl,Lm,hL,td,hn0⟩
 have ahc: ∀b∈cv S.args vs,c.M0 b→M' b:=by
  intro b hb h0
  obtain⟨q,hq,hqb⟩:=hA.iob b hb h0
  exact Lm.me b (Lm.Bz (ν q.1) (by rw[←PH];exact List.mem_map_of_mem hq) b hqb)
 have mW: ∀b∈aZ S.res us (dg S.args vs),w.heap.size≤b∨b∈cv S.args vs:=by
  intro b hb
  rcases Nat.lt_or_ge b w.heap.size with dF|PI
  ·exact .inr ((hL.less b dF (Lm.me b hb)).resolve_left (hn0 b hb))
  ·exact .inl PI
 have jq: ∀b∈aZ S.res us (dg S.args vs),c.B≤b∨c.may b:=fun b hb=>(mW b hb).elim (fun h=> .inl (Nat.le_trans hm.size h)) (hA.GN b)
 have C2: ∀b∈aZ S.res us (dg S.args vs),c.M0 b→ ∃p∈dg S.args vs,dV p=some b:=by
  intro b hb h0
  rcases mW b hb with h'|h'
  ·have:=hm.pQ.1 b h0;have:=hm.size;omega
  ·obtain⟨q,hq,hqb⟩:=hA.iob b h' h0
   exact⟨ν q.1,by rw[←PH];exact List.mem_map_of_mem hq,hqb⟩
 have key: ∀(Hx:Nat→Option aR) (Mx:Nat→Prop) (U:e9),Mem c Hx w Mx ν→c4 w M w Mx→(∀b,M2 b→Mx b)→(∀b∈cv S.args vs,∀i e,Hx i=some e→e.mut→dV (ν i)≠some b)→
   (∀q∈io,Hx q.1=some .gone)→(∀i,i∉keys io→bP H (uo++U) i=Hx i)→(∀u∈uo++U,u.2=some .gone∨ ∃e l,u.2=some (.jP e l)∧H u.1=some (.own e l))→(∀i∈keys (uo++U),i∈keys (uo++uf))→
   RR w' (fun b=>M' b∨(Mx b∧b∉cv S.args vs)) S.res y us (dg S.args vs)→
   ∃ν',Tr c H w M ν (bP H (uo++U++(g7 S.res y id io).2.1)) w' (fun b=>M' b∨(Mx b∧b∉cv S.args vs)) ν'∧
    fj w' (fun b=>M' b∨(Mx b∧b∉cv S.args vs)) (bP H (uo++U++(g7 S.res y id io).2.1)) ν' (g7 S.res y id io).1 us:=by
  intro Hx Mx U LV hkx JN pB L1 W3 BB hU OY
  obtain⟨ll,Ae⟩:=LV.call (fun b hb=>JN b hb.1) (fun b hb=>JN b (hA.hM b hb)) pB hA.GN ahc hL
  have hx: ∀i e,H i=some e→i∉keys io→ ∃e',Hx i=some e'∧e.gM e':=by
   intro i e hi xA
   rw[←W3 i xA]
   by_cases hk:i∈keys (uo++U)
   ·obtain⟨u,hu,hui,huv⟩:=Dm (H:=H) hk
    rw[huv]
    rcases BB u hu with h'|⟨e1,l1,h',Iz⟩
    ·exact⟨_,h',aR.jy e⟩
    ·rw[hui,hi]at Iz;cases Iz;exact⟨_,h',rfl,rfl⟩
   ·rw[iS hk];exact⟨e,hi,.refl e⟩
  have Vw: ∀i,id≤i→i<id+S.res.length→Hx i=none:=by
   intro i h3 h4
   have h0:=gP i h3 h4
   have xA:i∉keys io:=fun hk=>by
    obtain⟨q,hq,Gg⟩:=List.mem_map.1 hk
    obtain⟨_,_,z,hz⟩:=hA.O4 q hq
    rw[Gg,h0]at hz;cases hz
   rw[←W3 i xA]
   rw[iS,h0]
   intro hk
   obtain⟨_,e,l,h'⟩:=hA.ksn i (hU i hk)
   rw[h0]at h';cases h'
  obtain⟨ν',r1,r2,r3,r4,r5,r6⟩:=mc (hs:=cv S.args vs) (sz:=w.heap.size) (id:=id) (used:=[]) ll OY PH.symm (by rw[←hok.ios,←Ll]) hA.ion L1 Vw
   (fun i e b hi hmu hb=> .inl ⟨LV.xk b ((LV.im i e hi).rW hmu hb),fun hh=>pB b hh i e hi hmu hb⟩) (by simpa using td) mW jq C2
  have W4:bP H (uo++U++(g7 S.res y id io).2.1)=bP Hx (g7 S.res y id io).2.1:=by
   rw[dN]
   refine xz fun i hi=> ?_
   by_cases xA:i∈keys io
   ·obtain⟨q,hq,Gg⟩:=List.mem_map.1 xA
    obtain⟨z,hz⟩:=r6 q hq
    rw[Gg,iS hi,←Gg,L1 q hq]at hz;cases hz
   ·exact W3 i xA
  refine⟨ν',⟨by rw[W4];exact r1,hkx.trans Ae,⟨fun i e hi=> ?_,fun i hi=> ?_⟩⟩,by rw[W4];exact r2⟩
  ·rw[W4]
   by_cases xA:i∈keys io
   ·obtain⟨q,hq,Gg⟩:=List.mem_map.1 xA
    obtain⟨z,hz⟩:=r6 q hq
    obtain⟨_,_,z0,hz0⟩:=hA.O4 q hq
    rw[Gg]at hz hz0
    rw[hi]at hz0;cases hz0
    exact⟨_,hz,rfl⟩
   ·obtain⟨e',rI,hl⟩:=hx i e hi xA
    have hr:i<id∨id+S.res.length≤i:=by
     rcases Nat.lt_or_ge i id with h'|h'
     ·exact .inl h'
     ·rcases Nat.lt_or_ge i (id+S.res.length)with Iz|Iz
      ·rw[gP i h' Iz]at hi;cases hi
      ·exact .inr Iz
    exact⟨e',by rw[r4 i xA hr];exact rI,hl⟩
  ·refine r3 i ?_
   obtain⟨e,he⟩:=Option.ne_none_iff_exists'.1 hi
   by_cases xA:i∈keys io
   ·obtain⟨q,hq,Gg⟩:=List.mem_map.1 xA
    rw[←Gg,L1 q hq];simp
   ·obtain⟨e',rI,_⟩:=hx i e he xA
    rw[rI];simp
 cases hq:S.quiet
 ·
  rw[hq]at h1
  have hMn:(fun b=>M' b∨(M2 b∧b∉cv S.args vs))=M':=by
   funext b
   exact propext ⟨fun h=>h.elim (fun h=>h) (hL.sub b),.inl⟩
  obtain⟨ν',eD,hvr⟩:=key H2 M2 uf hA.mem hA.br (fun _ h=>h) (fun b hb i e hi hmu=>hA.none b hb i e (hA.fz.mut hi hmu) hmu) (fun q hq=>(hA.O4 q hq).1) hA.ext
   (fun u hu=>(List.mem_append.1 hu).elim (fun h=> .inl (hA.uov u h)) (fun h=> .inr (hA.ufv u h))) (fun _ h=>h) (by rw[hMn];exact Lm)
  exact hR _ _ _ _ _ _ _ h1 eD (L0 hvr)
 ·rw[hq]at h1
  have JN: ∀b,M2 b→M b:=fun b hb=>hA.br.less b (hA.mem.xk b hb) hb
  obtain⟨ν',eD,hvr⟩:=key Hq M [] hA.JL (.refl w M) JN hA.none (fun q hq=>(hA.O4 q hq).2.1) (by rw[List.append_nil];exact hA.PF)
   (fun u hu=> .inl (hA.uov u (by simpa using hu))) (fun i hi=>by simp only[keys,List.append_nil,List.map_append,List.mem_append]at hi ⊢;exact .inl hi) (Lm.flat (fun b h=> .inl h) (hok.quiet hq))
  exact hR _ _ _ _ _ _ _ h1 eD (L0 hvr)
theorem PJ(hΓ: ∀f S,S∈E.Γ f→eE P f S)(hc:Core c σ a.tmps w M ν){args:Array Operand}{ts:Array TypeId}{g:Operand}(ho:o.op= .call {callee:= .value g,args,argTypes:=ts}){K:fa α}{f:Nat}{caps:List aW}(hg:σ.ρ g= .CQ f caps){id:Nat}
  (h:vh E f (args.toList.map σ.ρ ++caps) id σ.H K=some r) (hn:dB c σ a o w M ν K r next):o.wp P a w next Q:=by
 have hgv:=hc.ev g
 rw[hg]at hgv
 simp only[VR]at hgv
 obtain⟨cs,hgv,Bp⟩:=hgv
 have Dp: ∀{as1:List aW} {O6:List Value},fj w M σ.H ν as1 O6→fj w M σ.H ν (as1++caps) (O6++cs):=by
  intro as1
  induction as1 with
  |nil=>intro O6 h1;cases O6 with
   |nil=>exact Bp
   |cons _ _=>simp[fj]at h1
  |cons x as1 ih=>intro O6 h1;cases O6 with
   |nil=>simp[fj]at h1
   |cons v O6=>simp only[fj]at h1;simp only[List.cons_append,fj];exact⟨h1.1,ih h1.2⟩
 have hd:=Dn (P:=P) hΓ hc.mem (Dp (hc.evs args.toList)) h (R:=fun v' w'=>next (a.put o.dst v') w') (fun v rd ups v' w' M' ν' h1 h2 h3=>hn v rd ups v' w' M' ν' h1 h2 h3)
 have hex:(execOp a.eval o).run P w=(callFunc f (args.toList.map a.eval++cs).toArray).run P w:=by
  have:(args.toList.map a.eval++cs).toArray= #[]++args.map a.eval++cs.toArray:=by apply Array.ext';simp
  rw[this]
  simp[execOp,ho,resolve,hgv,Deferred.ofValue,invoke]
 unfold Oper.wp
 rw[hex]
 exact hd o a next Q fun v w' hv=>hv
end VM
end
section
namespace VM
open Go
variable{P:Program}{E:Env}{o:Oper}{a:Act}{w:World}{M:Nat→Prop}{ν:Nat→Value}{σ:St}{c:Ctx}{α:Type}{r:α}{next:Act→World→Prop}{Q:Exit→Act→World→Prop}
structure nk(P:Program)(E:Env):Prop extends EnvTy P E where
 abW: ∀f S,S∈E.Γ f→eE P f S
 mixed:P.follows .mixedOrders=true
 fM: ∀i L,E.pW i=some L→VM.fM L=true
 L4: ∀i L,E.rp i=some L→VM.fM L=true
theorem JO(hE:nk P E)(hc:Core c σ a.tmps w M ν){K:fa α}(h:n0 E o σ.ρ σ.H K=some r)(hn:dB c σ a o w M ν K r next):o.wp P a w next Q:=by
 have hT:=hE.toEnvTy
 unfold n0 at h
 simp only at h
 split at h
 ·rename_i x ho;exact Iq hc (.inl ho) h hn
 ·rename_i x ho;exact Iq hc (.inr ho) h hn
 ·rename_i x y z ho
  split at h
  ·rename_i t hx;exact Ps hc ho hx h hn
  ·cases h
 ·rename_i t ho
  split at h
  ·rename_i τ ht;exact LC hT hc ho ht h hn
  ·cases h
 ·rename_i t x ho
  split at h
  ·rename_i τ ht;exact WB hT hc ho h hn
  ·cases h
 ·rename_i t ps ho
  split at h
  ·rename_i n e ht;exact Bx hT hc ho ht h hn
  ·rename_i τ Vt ht;exact wv hT hc ho ht (fun n e he=>Vt n e he) h hn
  ·cases h
 ·rename_i t n ps ho
  split at h
  ·rename_i e ht;exact zC hT hc ho ht h hn
  ·cases h
 ·rename_i t x ho
  split at h
  ·rename_i τ ht;exact Pu hT hc ho ht h hn
  ·cases h
 ·rename_i t x y ho
  split at h
  ·rename_i τ ht;exact JF hT hc ho ht h hn
  ·cases h
 ·rename_i x ho
  split at h
  ·rename_i id p hx;exact wq hc ho hx h hn
  ·rename_i τ z hx;exact uD hc ho hx h hn
  ·cases h
 ·rename_i b t x y t' ho;exact LN hT hc ho h hn
 ·rename_i u t x ho;exact Pz hc ho h hn
 ·rename_i s d x ho
  split at h
  ·rename_i τ k hs hd;exact GH hT hc ho hs hd h hn
  ·cases h
 ·rename_i f first caps ho;exact Db hc ho h hn
 ·rename_i t x y ho
  split at h
  ·rename_i e ht;exact Bt hT hc ho ht h hn
  ·cases h
 ·rename_i t x lo hi mx ho
  split at h
  ·rename_i τ ht;exact LW hT hc ho ht h hn
  ·cases h
 ·rename_i t x n ho
  split at h
  ·rename_i τ ht
   split at h
   ·rename_i id p hx;exact uC hT hc ho ht hx h hn
   ·rename_i υ z hx;exact s8 hT hc ho ht hx h hn
   ·cases h
  ·cases h
 ·rename_i t x n ho
  split at h
  ·rename_i τ ht
   split at h
   ·rename_i υ z hx;exact LK hT hc ho ht hx h hn
   ·cases h
  ·cases h
 ·rename_i t x i ho
  split at h
  ·rename_i τ ht;exact Br hT hc ho ht h hn
  ·cases h
 ·rename_i t x i ho
  split at h
  ·rename_i τ ht;exact LR hT hc ho ht h hn
  ·cases h
 ·rename_i x i ho
  split at h
  ·rename_i vs hx
   split at h
   ·rename_i v hv;exact GF hc ho hx hv h hn
   ·cases h
  ·cases h
 ·rename_i cl ho
  obtain⟨callee,args,ts⟩:=cl
  simp only at h
  split at h
  ·split at h
   ·rename_i x τ ha ht;exact WJ hT hc ho ha ht h hn
   ·cases h
  ·split at h
   ·rename_i x y t t' ha ht
    split at h
    ·rename_i e hte;exact JJ hT hc ho ha ht hte h hn
    ·cases h
   ·cases h
  ·split at h
   ·rename_i x xs ha;exact Vs hc true ho ha h hn
   ·cases h
  ·split at h
   ·rename_i x xs ha;exact Vs hc false ho ha h hn
   ·cases h
  ·rename_i g
   split at h
   ·rename_i f caps hg;exact PJ hE.abW hc ho hg h hn
   ·cases h
  ·cases h
 ·cases h
end VM
end
section
namespace VM
open Go
variable{P:Program}{E:Env}{o:Oper}{a:Act}{w:World}{M:Nat→Prop}{ν:Nat→Value}{σ:St}{c:Ctx}{α:Type}{r:α}{next:Act→World→Prop}{Q:Exit→Act→World→Prop}
theorem oI(σ:St)(d:Nat)(v:aW):(σ.put d v).T d=v:=by
 show cond (Nat.beq d d) v (σ.T d)=v
 rw[show Nat.beq d d=true from Nat.beq_refl d];rfl
theorem tf(σ:St){d i:Nat}(v:aW)(h:i≠d):(σ.put d v).T i=σ.T i:=by
 show cond (Nat.beq i d) v (σ.T i)=σ.T i
 have:Nat.beq i d=false:=by rw[←Bool.not_eq_true,Nat.beq_eq];exact h
 rw[this];rfl
theorem alD(σ:St)(d:Nat)(v:aW):(σ.put d v).H=σ.H:=rfl
theorem xB(σ:St)(d:Nat):σ.put d (σ.T d)=σ:=by
 obtain⟨T,H⟩:=σ
 unfold St.put
 congr 1
 funext i
 by_cases h:i=d
 ·subst h;show cond (Nat.beq i i) (T i) (T i)=T i;cases Nat.beq i i<;>rfl
 ·have:Nat.beq i d=false:=by rw[←Bool.not_eq_true,Nat.beq_eq];exact h
  rw[this];rfl
theorem Core.tr{tm:Array Value}(h:Core c σ tm w M ν){H':Nat→Option aR}{w':World}{M':Nat→Prop}{ν':Nat→Value}(t:Tr c σ.H w M ν H' w' M' ν'):Core c ⟨σ.T,H'⟩ tm w' M' ν':=
 ⟨t.mem,fun i=>VR.br t.br t.goes (h.tmp i)⟩
theorem Core.pL{tm:Array Value}(h:Core c σ tm w M ν){d:Option Nat}{x:aW}{v:Value}{io:List Nat}(hd:CR tm.size io d=true)(hx:VR w M σ.H ν x v)(ds:List Deferred):
  Core c (σ.pL d x) (({tmps:=tm,defers:=ds}:Act).put d v).tmps w M ν:=by
 cases d with
 |none=>exact h
 |some d=>
  have dF:d<tm.size:=by simp only[CR,Bool.and_eq_true,Nat.blt_eq]at hd;exact hd.1
  refine⟨h.mem,fun i=> ?_⟩
  show VR w M σ.H ν ((σ.put d x).T i) ((tm.setIfInBounds d v).getD i undef)
  by_cases hi:i=d
  ·subst hi
   rw[oI]
   simp[Array.getD,dF]
   exact hx
  ·rw[tf _ _ hi]
   have:=h.tmp i
   have he:(tm.setIfInBounds d v).getD i undef=tm.getD i undef:=by
    rw[Array.getD_eq_getD_getElem?,Array.getD_eq_getD_getElem?,Array.getElem?_setIfInBounds_ne (Ne.symm hi)]
   rw[he];exact this
def Inv(c:Ctx)(E:Env)(σ:St)(a:Act)(w:World):Prop:=(∃M ν,Core c σ a.tmps w M ν)∧a.tmps.size=E.nt∧a.defers=[]∧ ∀i∈E.io,a.tmps.getD i undef=c.arg i
theorem Dq(a:Act)(d:Option Nat)(v:Value):(a.put d v).tmps.size=a.tmps.size:=by
 cases d<;>simp[Act.put]
theorem put_defers(a:Act)(d:Option Nat)(v:Value):(a.put d v).defers=a.defers:=by
 cases d<;>rfl
theorem IA{d:Option Nat}{v:Value}{io:List Nat}{n:Nat}(hd:CR n io d=true){i:Nat}(hi:i∈io):(a.put d v).tmps.getD i undef=a.tmps.getD i undef:=by
 cases d with
 |none=>rfl
 |some d=>
  simp only[CR,Bool.and_eq_true,List.all_eq_true]at hd
  have h1:=hd.2 i hi
  have gG:i≠d:=by
   intro e;subst e
   simp at h1
  show(a.tmps.setIfInBounds d v).getD i undef=_
  rw[Array.getD_eq_getD_getElem?,Array.getD_eq_getD_getElem?,Array.getElem?_setIfInBounds_ne (Ne.symm gG)]
theorem Inv.bool(h:Inv c E σ a w){x:Operand}{b:Bool}(hx:σ.ρ x= .val .bool b):a.eval x= .bool b:=by
 obtain⟨⟨M,ν,hc⟩,_,_,_⟩:=h
 have:=hc.ev x
 rw[hx]at this
 exact this.bool
theorem vv(hE:nk P E){ops:Array Oper}(hI:Inv c E σ a w){K:St→List Nat→List Nat→Option α}(h:n7 E ops.toList o σ K=some r)
  (hn: ∀σ' a' w' rd wr,K σ' rd wr=some r→Inv c E σ' a' w'→next a' w'):
  if Region.wanted o (yielded ops a.tmps)then o.wp P a w next Q else next (a.put o.dst undef) w:=by
 unfold n7 at h
 obtain⟨hd,h⟩:=bz h
 have cr:n0 E o σ.ρ σ.H (fun v rd ups=>K ((σ.pU ups).pL o.dst v) rd (ups.map (·.1)))=some r→o.wp P a w next Q:=by
  intro h
  obtain⟨⟨M,ν,hc⟩,hs,W5,ry⟩:=hI
  refine JO hE hc h fun v rd ups v' w' M' ν' hK eD hV=> ?_
  refine hn _ _ _ _ _ hK ⟨⟨M',ν',?_⟩,by rw[Dq,hs],by rw[put_defers,W5],fun i hi=>(IA hd hi).trans (ry i hi)⟩
  have h1:=hc.tr eD
  have h2:σ.pU ups=⟨σ.T,bP σ.H ups⟩:=by rw[←GB,←GC ups σ]
  rw[h2]
  exact h1.pL (by rw[hs];exact hd) hV a.defers
 have nn: ∀rd wr,K (σ.pL o.dst .Lw) rd wr=some r→next (a.put o.dst undef) w:=by
  intro rd wr h
  obtain⟨⟨M,ν,hc⟩,hs,W5,ry⟩:=hI
  refine hn _ _ _ _ _ h ⟨⟨M,ν,hc.pL (by rw[hs];exact hd) (by simp[VR]) a.defers⟩,by rw[Dq,hs],by rw[put_defers,W5],fun i hi=>(IA hd hi).trans (ry i hi)⟩
 simp only at h
 split at h
 ·rename_i hg
  have:Region.wanted o (yielded ops a.tmps)=true:=by simp[Region.wanted,hg]
  rw[if_pos this]
  exact cr h
 ·rename_i j want hg
  split at h
  ·cases h
  ·rename_i t ht
   have ht':(ops[j]?).bind (·.dst)=some t:=by rw[←Array.getElem?_toList];exact ht
   have hy: ∀b,σ.T t= .val .bool b→yielded ops a.tmps j=some b:=by
    intro b hb
    obtain⟨⟨M,ν,hc⟩,hs,_,_⟩:=hI
    have h1:=hc.tmp t
    rw[hb]at h1
    have h1:=h1.bool
    have h2:a.tmps[t]? =some (.bool b):=by
     rw[Array.getD_eq_getD_getElem?]at h1
     cases h3:a.tmps[t]? with
     |none=>rw[h3]at h1;simp[undef]at h1
     |some v=>rw[h3]at h1;simpa using h1
    simp[yielded,ht',h2]
   split at h
   ·rename_i b hb
    have kZ:σ.put t (.val .bool b)=σ:=by rw[←hb];exact xB σ t
    have hw:=hy b hb
    cases want<;>cases b
    ·rw[if_pos (by simp[Region.wanted,hg,hw])]
     rw[kZ]at h;exact cr h
    ·rw[if_neg (by simp[Region.wanted,hg,hw])]
     rw[kZ]at h;exact nn _ _ h
    ·rw[if_neg (by simp[Region.wanted,hg,hw])]
     rw[kZ]at h;exact nn _ _ h
    ·rw[if_pos (by simp[Region.wanted,hg,hw])]
     rw[kZ]at h;exact cr h
   ·rename_i hb
    have wm: ¬Region.wanted o (yielded ops a.tmps)=true:=by
     obtain⟨⟨M,ν,hc⟩,hs,_,_⟩:=hI
     have h1:=hc.tmp t
     rw[hb]at h1
     simp only[VR]at h1
     have h2: ∀b,a.tmps[t]? ≠some (.bool b):=by
      intro b di
      rw[Array.getD_eq_getD_getElem?,di]at h1
      simp[undef]at h1
     have h3:yielded ops a.tmps j=none:=by
      unfold yielded
      rw[ht']
      show(match a.tmps[t]? with|some (.bool b)=>some b|_=>none)=none
      split
      ·rename_i b di;exact absurd di (h2 b)
      ·rfl
     simp[Region.wanted,hg,h3]
    rw[if_neg wm]
    exact nn _ _ h
   ·cases h
theorem xC(hE:nk P E){ops:Array Oper}: ∀(l:List Oper) (i:Nat) (σ:St) (lg:Log) (a:Act) (w:World) (K:St→Log→Option α),Inv c E σ a w→Jw E ops.toList l i σ lg K=some r→
  (∀σ' Vx a' w',K σ' Vx=some r→Inv c E σ' a' w'→Q .normal a' w')→wpList P ops Q l a w
 |[],i,σ,lg,a,w,K,hI,h,hn=>hn _ _ _ _ h hI
 |o::l,i,σ,lg,a,w,K,hI,h,hn=>by
  unfold Jw at h
  refine wpList_step fun K' hK'=> ?_
  exact vv hE hI h fun σ' a' w' rd wr h' rK=>hK' _ _ (xC hE l (i+1) σ' _ a' w' K rK h' hn)
theorem Dr(hI:Inv c E σ a w){x:Operand}{A B:St→Option α}(h:z2 E x σ A B=some r): ∃b,a.eval x= .bool b∧(if b then A σ else B σ)=some r:=by
 unfold z2 at h
 split at h
 ·rename_i b hb
  refine⟨b,hI.bool hb,?_⟩
  split at h
  ·rename_i t
   have hb:σ.T t= .val .bool b:=hb
   have kZ:σ.put t (.val .bool b)=σ:=by rw[←hb];exact xB σ t
   cases b
   ·rw[kZ]at h;exact h
   ·rw[kZ]at h;exact h
  ·cases b<;>exact h
 ·cases h
end VM
end
section
namespace VM
open Go
variable{P:Program}{E:Env}{o:Oper}{a:Act}{w:World}{M:Nat→Prop}{ν:Nat→Value}{σ:St}{c:Ctx}{α:Type}{r:α}{next:Act→World→Prop}{Q:Exit→Act→World→Prop}
def mix{β:Type}(A B:Nat→β):Nat→β:=fun i=>if i%2=0 then A (i/2)else B (i/2)
theorem eF{β:Type}(A B:Nat→β)(i:Nat):mix A B (2*i)=A i:=by
 unfold mix
 rw[if_pos (by omega),show 2*i/2=i from by omega]
theorem pE{β:Type}(A B:Nat→β)(i:Nat):mix A B (2*i+1)=B i:=by
 unfold mix
 rw[if_neg (by omega),show(2*i+1)/2=i from by omega]
theorem aaX{β:Type}{A B A' B':Nat→β}(hl: ∀i,A i=A' i)(hr: ∀i,B i=B' i):mix A B=mix A' B':=by
 funext i;unfold mix;rw[hl,hr]
def aR.re(f:Nat→Nat):aR→aR
 | .dE τ x p j=> .dE τ x p (f j)
 |e=>e
theorem ER.re{v:Value}{f:Nat→Nat}{e:aR}:ER w M v (e.re f)↔ER w M v e:=by cases e<;>simp[aR.re,ER]
theorem aR.mf{f:Nat→Nat}{e:aR}:(e.re f).mut↔e.mut:=by cases e<;>simp[aR.re,aR.mut]
theorem aR.IB{f g:Nat→Nat}{e e':aR}:(e.re f).gM (e'.re g)↔e.gM e':=by cases e<;>cases e'<;>simp[aR.re,aR.gM]
def ml(i:Nat):Nat:=2*i
def mr(i:Nat):Nat:=2*i+1
def fb(A B:Nat→Option aR):Nat→Option aR:=fun i=>if i%2=0 then(A (i/2)).map (aR.re ml)else(B (i/2)).map (aR.re mr)
theorem se(A B:Nat→Option aR)(i:Nat):fb A B (2*i)=(A i).map (aR.re ml):=by
 unfold fb
 rw[if_pos (by omega),show 2*i/2=i from by omega]
theorem oJ(A B:Nat→Option aR)(i:Nat):fb A B (2*i+1)=(B i).map (aR.re mr):=by
 unfold fb
 rw[if_neg (by omega),show(2*i+1)/2=i from by omega]
theorem eJ{A B:Nat→Option aR}{i:Nat}{e:aR}(h:A i=some e):fb A B (2*i)=some (e.re ml):=by rw[se,h];rfl
theorem oK{A B:Nat→Option aR}{i:Nat}{e:aR}(h:B i=some e):fb A B (2*i+1)=some (e.re mr):=by rw[oJ,h];rfl
theorem BC{A B:Nat→Option aR}{i:Nat}:fb A B (2*i)≠none↔A i≠none:=by rw[se];cases A i<;>simp
theorem BD{A B:Nat→Option aR}{i:Nat}:fb A B (2*i+1)≠none↔B i≠none:=by rw[oJ];cases B i<;>simp
theorem mg(A B:Nat→Option aR)(i:Nat)(v:Option aR):bm (fb A B) (2*i) (v.map (aR.re ml))=fb (bm A i v) B:=by
 funext k
 by_cases hk:k=2*i
 ·subst hk;rw[ak,se,ak]
 ·rw[al _ _ hk]
  unfold fb
  by_cases h2:k%2=0
  ·rw[if_pos h2,if_pos h2,al _ _ (by omega)]
  ·rw[if_neg h2,if_neg h2]
theorem xD(A B:Nat→Option aR)(i:Nat)(v:Option aR):bm (fb A B) (2*i+1) (v.map (aR.re mr))=fb A (bm B i v):=by
 funext k
 by_cases hk:k=2*i+1
 ·subst hk;rw[ak,oJ,ak]
 ·rw[al _ _ hk]
  unfold fb
  by_cases h2:k%2=0
  ·rw[if_pos h2,if_pos h2]
  ·rw[if_neg h2,if_neg h2,al _ _ (by omega)]
theorem xE(A B:Nat→Value)(i:Nat)(v:Value):b9 (mix A B) (2*i+1) v=mix A (b9 B i v):=by
 funext k
 unfold b9 mix
 by_cases hk:k=2*i+1
 ·subst hk;rw[if_pos rfl,if_neg (by omega)]
  show v=if(2*i+1)/2=i then v else B ((2*i+1)/2)
  rw[if_pos (by omega)]
 ·rw[if_neg hk]
  by_cases h2:k%2=0
  ·rw[if_pos h2,if_pos h2]
  ·rw[if_neg h2,if_neg h2]
   show B (k/2)=if k/2=i then v else B (k/2)
   rw[if_neg (by omega)]
theorem Mem.left{H A:Nat→Option aR}{νA:Nat→Value}(h:Mem c (fb H A) w M (mix ν νA)):Mem c H w M ν:=
 ⟨fun i e hi=>by have:=h.im (2*i) _ (eJ hi);rw[eF]at this;exact ER.re.1 this,
  fun i j e e' b ng hi hm hj gk=>by have:=h.um (2*i) (2*j) _ _ b (by omega) (eJ hi) (aR.mf.2 hm) (eJ hj) (aR.mf.2 gk);rwa [eF,eF]at this,
  fun i e b hi hm=>by have:=h.new (2*i) _ b (eJ hi) (aR.mf.2 hm);rwa [eF]at this,
  fun i e l b hi=>by have:=h.sM (2*i) e l b (eJ hi);rwa [eF]at this,
  fun i τ x p j hi=>by
   obtain⟨h1,b,h2,h3⟩:=h.dE (2*i) τ x p (ml j) (eJ hi)
   rw[eF]at h2
   unfold ml at h1 h3
   rw[eF]at h3
   exact⟨BC.1 h1,b,h2,h3⟩,
  h.sub,h.xk,h.frame,h.size,h.pQ,h.os,h.tape,h.output⟩
theorem Mem.right{H A:Nat→Option aR}{νA:Nat→Value}(h:Mem c (fb H A) w M (mix ν νA)):Mem c A w M νA:=
 ⟨fun i e hi=>by have:=h.im (2*i+1) _ (oK hi);rw[pE]at this;exact ER.re.1 this,
  fun i j e e' b ng hi hm hj gk=>by have:=h.um (2*i+1) (2*j+1) _ _ b (by omega) (oK hi) (aR.mf.2 hm) (oK hj) (aR.mf.2 gk);rwa [pE,pE]at this,
  fun i e b hi hm=>by have:=h.new (2*i+1) _ b (oK hi) (aR.mf.2 hm);rwa [pE]at this,
  fun i e l b hi=>by have:=h.sM (2*i+1) e l b (oK hi);rwa [pE]at this,
  fun i τ x p j hi=>by
   obtain⟨h1,b,h2,h3⟩:=h.dE (2*i+1) τ x p (mr j) (oK hi)
   rw[pE]at h2
   unfold mr at h1 h3
   rw[pE]at h3
   exact⟨BD.1 h1,b,h2,h3⟩,
  h.sub,h.xk,h.frame,h.size,h.pQ,h.os,h.tape,h.output⟩
theorem Mem.PK{H:Nat→Option aR}(νA:Nat→Value)(h:Mem c H w M ν):Mem c (fb H (fun _=>none)) w M (mix ν νA):=by
 have key: ∀i e,fb H (fun _=>none) i=some e→ ∃j e0,i=2*j∧H j=some e0∧e=e0.re ml:=by
  intro i e hi
  unfold fb at hi
  by_cases h2:i%2=0
  ·rw[if_pos h2]at hi
   obtain⟨e0,h3,h4⟩:=Option.map_eq_some_iff.1 hi
   exact⟨i/2,e0,by omega,h3,h4.symm⟩
  ·rw[if_neg h2]at hi;cases hi
 refine⟨fun i e hi=> ?_,fun i j e e' b ng hi hm hj gk=> ?_,fun i e b hi hm=> ?_,fun i e l b hi=> ?_,fun i τ x p j hi=> ?_,h.sub,h.xk,h.frame,h.size,h.pQ,h.os,h.tape,h.output⟩
 ·obtain⟨j,e0,rfl,hj,rfl⟩:=key i e hi;rw[eF];exact ER.re.2 (h.im j e0 hj)
 ·obtain⟨i',e1,rfl,j2,rfl⟩:=key i e hi;obtain⟨j',e2,rfl,Vy,rfl⟩:=key j e' hj
  rw[eF,eF];exact h.um i' j' e1 e2 b (by omega) j2 (aR.mf.1 hm) Vy (aR.mf.1 gk)
 ·obtain⟨j,e0,rfl,hj,rfl⟩:=key i e hi;rw[eF];exact h.new j e0 b hj (aR.mf.1 hm)
 ·obtain⟨j,e0,rfl,hj,he⟩:=key i _ hi
  cases e0<;>simp only[aR.re]at he<;>cases he
  rw[eF];exact h.sM j e l b hj
 ·obtain⟨k,e0,rfl,hk,he⟩:=key i _ hi
  cases e0<;>simp only[aR.re]at he<;>cases he
  obtain⟨h1,b,h2,h3⟩:=h.dE k _ _ _ _ hk
  refine⟨BC.2 h1,b,by rw[eF];exact h2,?_⟩
  unfold ml
  rw[eF];exact h3
theorem nP.left{H A H' A':Nat→Option aR}{νA ν' JP:Nat→Value}(g:nP (fb H A) (mix ν νA) (fb H' A') (mix ν' JP)):nP H ν H' ν':=
 ⟨fun i e hi=>by
   obtain⟨e',h1,h2⟩:=g.im (2*i) _ (eJ hi)
   rw[se]at h1
   obtain⟨e0,h3,rfl⟩:=Option.map_eq_some_iff.1 h1
   exact⟨e0,h3,aR.IB.1 h2⟩,
  fun i hi=>by have:=g.head (2*i) (BC.2 hi);rwa [eF,eF]at this⟩
theorem nP.right{H A H' A':Nat→Option aR}{νA ν' JP:Nat→Value}(g:nP (fb H A) (mix ν νA) (fb H' A') (mix ν' JP)):nP A νA A' JP:=
 ⟨fun i e hi=>by
   obtain⟨e',h1,h2⟩:=g.im (2*i+1) _ (oK hi)
   rw[oJ]at h1
   obtain⟨e0,h3,rfl⟩:=Option.map_eq_some_iff.1 h1
   exact⟨e0,h3,aR.IB.1 h2⟩,
  fun i hi=>by have:=g.head (2*i+1) (BD.2 hi);rwa [pE,pE]at this⟩
theorem Mem.move{H A:Nat→Option aR}{νA:Nat→Value}(h:Mem c (fb H A) w M (mix ν νA)){i j:Nat}{e e1:aR}(hi:H i=some e)(hm:e.mut)(hj:A j=none)
  (GD:(e1=e∧ ∀τ x p k,e≠ .dE τ x p k)∨ ∃τ x p k k',e= .dE τ x p k∧e1= .dE τ x p k'∧A k'≠none∧νA k'=ν k):
  Tr c (fb H A) w M (mix ν νA) (fb (bm H i (some .gone)) (bm A j (some e1))) w M (mix ν (b9 νA j (ν i))):=by
 have hg:=Tr.gone h (2*i)
 have hgo:(some aR.gone)=(some aR.gone).map (aR.re ml):=rfl
 rw[hgo,mg]at hg
 have Ll:=eJ (B:=A) hi
 have hER:ER w M (ν i) (e1.re mr):=by
  have h1:=h.im (2*i) _ Ll
  rw[eF]at h1
  have h1:=ER.re.1 h1
  rcases GD with⟨rfl,_⟩|⟨τ,x,p,k,k',rfl,rfl,_,_⟩
  ·exact ER.re.2 h1
  ·exact h1
 have h2:=Mem.vt hg.mem (id:=2*j+1) (v:=ν i) (e:=e1.re mr) (fun e' rI=>by rw[oJ,hj]at rI;cases rI)
  hER
  (fun b hb k e' hk gk=>by
   by_cases O5:k=2*i
   ·subst O5;rw[se,ak]at hk;cases hk;simp[aR.re,aR.mut]at gk
   ·have hk3:fb H A k=some e':=by
     have:=congrFun (mg H A i (some .gone)) k
     rw[al _ _ O5]at this
     rw[this];exact hk
    have:=h.um (2*i) k _ e' b (Ne.symm O5) Ll (aR.mf.2 hm) hk3 gk
    rw[eF]at this
    exact this hb)
  (fun b hb=>by have:=h.new (2*i) _ b Ll (aR.mf.2 hm);rw[eF]at this;exact this hb)
  (fun b e0 l0 he hb=>by
   rcases GD with⟨rfl,_⟩|⟨τ,x,p,k,k',rfl,rfl,_,_⟩
   ·cases e1<;>simp only[aR.re]at he<;>cases he
    have:=h.sM (2*i) e0 l0 b Ll;rw[eF]at this;exact this hb
   ·simp[aR.re]at he)
  (.inl (by rw[oJ,hj];rfl))
  (fun τ x p k he=>by
   rcases GD with⟨rfl,hn⟩|⟨τ,x,p,k,k',rfl,rfl,hk,hνk⟩
   ·cases e1<;>simp only[aR.re]at he<;>cases he
    exact absurd rfl (hn _ _ _ _)
   ·simp only[aR.re]at he
    cases he
    obtain⟨_,b,h4,h5⟩:=h.dE (2*i) _ _ _ _ Ll
    rw[eF]at h4
    have hkj:k'≠j:=fun e=>hk (e▸hj)
    refine⟨?_,b,h4,?_⟩
    ·rw[al _ _ (by unfold mr;omega)]
     unfold mr
     exact BD.2 hk
    ·unfold ml at h5
     rw[eF]at h5
     rw[h5,←hνk]
     have:b9 (mix ν νA) (2*j+1) (ν i) (mr k')=mix ν νA (mr k'):=by
      unfold b9 mr;rw[if_neg (by omega)]
     rw[this];unfold mr;rw[pE])
 have PL:some (e1.re mr)=(some e1).map (aR.re mr):=rfl
 rw[PL,xD,xE]at h2
 refine⟨h2,.refl w M,⟨fun k e' hk=> ?_,fun k hk=> ?_⟩⟩
 ·by_cases h3:k%2=0
  ·obtain⟨k',rfl⟩: ∃k',k=2*k':=⟨k/2,by omega⟩
   by_cases xA:k'=i
   ·subst xA;exact⟨.gone,by rw[se,ak];rfl,aR.jy _⟩
   ·exact⟨e',by rw[se]at hk ⊢;rw[al _ _ xA];exact hk,.refl e'⟩
  ·obtain⟨k',rfl⟩: ∃k',k=2*k'+1:=⟨k/2,by omega⟩
   rw[oJ]at hk ⊢
   have xA:k'≠j:=fun e=>by rw[e,hj]at hk;cases hk
   exact⟨e',by rw[al _ _ xA];exact hk,.refl e'⟩
 ·by_cases h3:k%2=0
  ·obtain⟨k',rfl⟩: ∃k',k=2*k':=⟨k/2,by omega⟩
   rw[eF,eF]
  ·obtain⟨k',rfl⟩: ∃k',k=2*k'+1:=⟨k/2,by omega⟩
   rw[pE,pE]
   have xA:k'≠j:=fun e=>by rw[oJ,e,hj]at hk;exact hk rfl
   simp[b9,xA]
theorem Mem.fresh{H A:Nat→Option aR}{νA:Nat→Value}(h:Mem c (fb H A) w M (mix ν νA)){j:Nat}(hj:A j=none)(e:Ty)(ad:Option Addr):
  Tr c (fb H A) w M (mix ν νA) (fb H (bm A j (some (.own e [])))) w M (mix ν (b9 νA j (.slice ad 0 0))):=by
 have:=Tr.nothing h (id:=2*j+1) (by rw[oJ,hj];rfl) e ad
 have PL:some (aR.own e [])=(some (aR.own e [])).map (aR.re mr):=rfl
 rw[PL,xD,xE]at this
 exact this
structure Cut(c:Ctx)(σ acc:St)(tm:Array Value)(w:World)(M:Nat→Prop)(ν νA:Nat→Value):Prop where
 mem:Mem c (fb σ.H acc.H) w M (mix ν νA)
 src: ∀i,VR w M σ.H ν (σ.T i) (tm.getD i undef)
 dst: ∀i,VR w M acc.H νA (acc.T i) (tm.getD i undef)
theorem Cut.tr{acc:St}{tm:Array Value}{νA:Nat→Value}(h:Cut c σ acc tm w M ν νA){H' A':Nat→Option aR}{M':Nat→Prop}{JP:Nat→Value}(t:Tr c (fb σ.H acc.H) w M (mix ν νA) (fb H' A') w M' (mix ν JP)){s:Nat}{x:aW}(hx:VR w M' A' JP x (tm.getD s undef)):
  Cut c ⟨σ.T,H'⟩ ⟨(acc.put s x).T,A'⟩ tm w M' ν JP:=by
 refine⟨t.mem,fun i=>VR.br t.br t.goes.left (h.src i),fun i=> ?_⟩
 show VR w M' A' JP ((acc.put s x).T i) _
 by_cases hi:i=s
 ·subst hi;rw[oI];exact hx
 ·rw[tf _ _ hi];exact VR.br t.br t.goes.right (h.dst i)
def L7(A:Nat→Option aR)(s:Nat):Prop:=A (16*s+13)=none∧A (16*s+14)=none∧A (16*s+15)=none
theorem hO{q:Nat×CM}{L:List (Nat×CM)}{A:Nat→Option aR}(hF:fM (q::L)=true)(hN: ∀p∈q::L,L7 A p.1):
  fM L=true∧(∀p∈L,L7 A p.1)∧
   ∀(A':Nat→Option aR) (d:Nat) (v:Option aR),(d=16*q.1+13∨d=16*q.1+14∨d=16*q.1+15)→(∀p∈L,L7 A' p.1)→ ∀p∈L,L7 (bm A' d v) p.1:=by
 unfold fM at hF
 rw[Bool.and_eq_true,List.all_eq_true]at hF
 refine⟨hF.2,fun p hp=>hN p (List.mem_cons_of_mem _ hp),fun A' d v hd hN' p hp=> ?_⟩
 have gG:p.1≠q.1:=fun e=>by
  have:=hF.1 p hp
  rw[e]at this
  simp at this
 obtain⟨h1,h2,h3⟩:=hN' p hp
 exact⟨by rw[al _ _ (by omega)];exact h1,by rw[al _ _ (by omega)];exact h2,by rw[al _ _ (by omega)];exact h3⟩
theorem cX{tm:Array Value}: ∀(L:List (Nat×CM)) (σ acc:St) (M:Nat→Prop) (νA:Nat→Value) (K:St→Option α),Cut c σ acc tm w M ν νA→fM L=true→(∀q∈L,L7 acc.H q.1)→ew L σ acc K=some r→
  ∃PM M' JP,K PM=some r∧Core c PM tm w M' JP
 |[],σ,acc,M,νA,K,hC,_,_,h=>⟨acc,M,νA,h,hC.mem.right,hC.dst⟩
 |(s,.v τ)::L,σ,acc,M,νA,K,hC,hF,hN,h=>by
  obtain⟨Gh,Gi,JQ⟩:=hO hF hN
  unfold ew at h
  obtain⟨y,rd,ups,h,hy⟩:=wY hC.mem.left (hC.src s) h
  rcases hy with⟨rfl,hV⟩|⟨id,e,l,rfl,aS,hV⟩
  ·exact cX L σ _ M νA K (hC.tr (.refl hC.mem) (x:= .val τ y) (by simp only[VR];exact hV)) Gh Gi h
  ·obtain⟨M2,eD,_,Bq⟩:=Tr.freeze hC.mem (id:=2*id) (eJ aS)
   have PL:some (aR.jP e l)=(some (aR.jP e l)).map (aR.re ml):=rfl
   rw[PL,mg]at eD
   refine cX L _ _ M2 νA K (hC.tr eD (x:= .val τ y) ?_) Gh Gi h
   simp only[VR]
   exact hV M2 (fun b=>by rw[Bq b,eF])
 |(s,.own e)::L,σ,acc,M,νA,K,hC,hF,hN,h=>by
  obtain⟨Gh,Gi,JQ⟩:=hO hF hN
  unfold ew at h
  have hs:=hC.src s
  split at h
  ·rename_i hT
   have hj:=(hN _ List.mem_cons_self).2.1
   rw[hT]at hs
   obtain⟨ad,hv⟩:=VR.emp.1 hs
   refine cX L σ _ M _ K (hC.tr (hC.mem.fresh hj e ad) (x:= .ref (16*s+14)) ?_) Gh (JQ _ _ _ (.inr (.inl rfl)) Gi) h
   simp only[VR]
   exact⟨by rw[ak];simp,by rw[hv];simp[b9]⟩
  ·rename_i id hT
   rw[hT]at hs
   simp only[VR]at hs
   split at h
   ·rename_i e' l aS
    obtain⟨e1,h⟩:=aY h
    cases e1
    have hj:=(hN _ List.mem_cons_self).2.1
    refine cX L _ _ M _ K (hC.tr (hC.mem.move aS trivial hj (.inl ⟨rfl,fun _ _ _ _=>by simp⟩)) (x:= .ref (16*s+14)) ?_) Gh (JQ _ _ _ (.inr (.inl rfl)) Gi) h
    simp only[VR]
    exact⟨by rw[ak];simp,by rw[hs.2];simp[b9]⟩
   ·cases h
  ·cases h
 |(s,.obj τ)::L,σ,acc,M,νA,K,hC,hF,hN,h=>by
  obtain⟨Gh,Gi,JQ⟩:=hO hF hN
  unfold ew at h
  have hs:=hC.src s
  split at h
  ·rename_i id hT
   rw[hT]at hs
   split at h
   ·rename_i υ x aS
    obtain⟨e1,h⟩:=aY h
    subst e1
    have hj:=(hN _ List.mem_cons_self).2.1
    simp only[VR]at hs
    obtain⟨e,he,jk⟩:=hs
    rw[aS]at he;cases he
    simp only[AR]at jk
    obtain⟨_,b,hb,hv⟩:=jk
    refine cX L _ _ M _ K (hC.tr (hC.mem.move aS trivial hj (.inl ⟨rfl,fun _ _ _ _=>by simp⟩)) (x:= .eV (16*s+14) []) ?_) Gh (JQ _ _ _ (.inr (.inl rfl)) Gi) h
    simp only[VR]
    exact⟨_,ak _ _ _,trivial,b,by simp[b9,hb],hv⟩
   ·
    rename_i υ x q k aS
    obtain⟨z,ups,M2,hK,eD,abX,b,cs,t,hb,hg,Bq,gB⟩: ∃z ups M2,bU υ τ z (fun y=>ew L ((σ.pU ups).gF id (some .gone)) ((acc.put s (.eV (16*s+14) [])).gF (16*s+14) (some (.obj τ y))) K)=some r∧
      Tr c (fb σ.H acc.H) w M (mix ν νA) (fb (bP σ.H ups) acc.H) w M2 (mix ν νA)∧bP σ.H ups id=some (.dE υ x q k)∧ ∃b cs t,ν id= .pointer (some ⟨b,0,none⟩)∧w.heap[b]? =some (.cells cs t (0,0))∧M2 b∧Rd w M2 υ cs.toList z:=by
     have abY:=eJ (B:=acc.H) aS
     unfold wb at h
     split at h
     ·rename_i e l hk
      have gG:id≠k:=fun e=>by rw[e,hk]at aS;cases aS
      obtain⟨z,ups,M2,hK,eD,_,WS,b,cs,t,hb,hg,Bq,gB⟩:=rZ (H:=fb σ.H acc.H) hC.mem (id:=2*id) (j:=2*k) (x:=x) (q:=q)
       (k:=fun z _=>bU υ τ z fun y=>ew L ((σ.pU [(k,some (.jP e l))]).gF id (some .gone)) ((acc.put s (.eV (16*s+14) [])).gF (16*s+14) (some (.obj τ y))) K) abY (by
        unfold wb
        rw[eJ hk]
        exact h)
      rw[eF]at hb
      rcases WS with⟨e2,l2,h2,_⟩|⟨e2,l2,h2,rfl⟩
      ·rw[eJ hk]at h2;simp[aR.re]at h2
      ·rw[eJ hk]at h2
       simp only[aR.re,Option.some.injEq]at h2
       have PL:some (aR.jP e l)=(some (aR.jP e l)).map (aR.re ml):=rfl
       have p6:Tr c (fb σ.H acc.H) w M (mix ν νA) (bm (fb σ.H acc.H) (2*k) (some (.jP e l))) w M2 (mix ν νA):=by
        cases h2;exact eD
       rw[PL,mg]at p6
       exact⟨z,_,M2,hK,p6,by show bm σ.H k _ id=_;rw[al _ _ gG];exact aS,b,cs,t,hb,hg,Bq,gB⟩
     ·rename_i e l hk
      obtain⟨z,ups,M2,hK,eD,_,WS,b,cs,t,hb,hg,Bq,gB⟩:=rZ (H:=fb σ.H acc.H) hC.mem (id:=2*id) (j:=2*k) (x:=x) (q:=q)
       (k:=fun z _=>bU υ τ z fun y=>ew L ((σ.pU []).gF id (some .gone)) ((acc.put s (.eV (16*s+14) [])).gF (16*s+14) (some (.obj τ y))) K) abY (by
        unfold wb
        rw[eJ hk]
        exact h)
      rw[eF]at hb
      rcases WS with⟨e2,l2,h2,rfl⟩|⟨e2,l2,h2,_⟩
      ·exact⟨z,[],M2,hK,eD,aS,b,cs,t,hb,hg,Bq,gB⟩
      ·rw[eJ hk]at h2;simp[aR.re]at h2
     ·cases h
    obtain⟨e1,hK⟩:=aY hK
    subst e1
    have hC2:Cut c ⟨σ.T,bP σ.H ups⟩ acc tm w M2 ν νA:=⟨eD.mem,fun i=>VR.br eD.br eD.goes.left (hC.src i),fun i=>VR.br eD.br eD.goes.right (hC.dst i)⟩
    have p9:=Tr.Jz (e':= .obj υ z) eD.mem (eJ abX) trivial trivial rfl (fun _ _=>by simp) (by rw[eF];simp only[ER];exact⟨b,cs,t,hb,hg,Bq,gB⟩) (fun _ _ _ _ h=>by cases h)
    have PL:some (aR.obj υ z)=(some (aR.obj υ z)).map (aR.re ml):=rfl
    rw[PL,mg]at p9
    have hC3:Cut c ⟨σ.T,bm (bP σ.H ups) id (some (.obj υ z))⟩ acc tm w M2 ν νA:=⟨p9.mem,fun i=>VR.br p9.br p9.goes.left (hC2.src i),fun i=>VR.br p9.br p9.goes.right (hC2.dst i)⟩
    have hj:=(hN _ List.mem_cons_self).2.1
    simp only[VR]at hs
    obtain⟨e,he,jk⟩:=hs
    rw[aS]at he;cases he
    simp only[AR]at jk
    obtain⟨_,b',di,hv⟩:=jk
    rw[hb]at di;cases di
    have hmv:=hC3.mem.move (ak _ _ _) trivial hj (.inl ⟨rfl,fun _ _ _ _=>by simp⟩)
    rw[rY]at hmv
    have Gb:(σ.pU ups).gF id (some .gone)=⟨σ.T,bm (bP σ.H ups) id (some .gone)⟩:=by
     have h2:σ.pU ups=⟨σ.T,bP σ.H ups⟩:=by rw[←GB,←GC ups σ]
     rw[h2];rfl
    rw[Gb]at hK
    refine cX L _ _ M2 _ K (hC3.tr hmv (x:= .eV (16*s+14) []) ?_) Gh (JQ _ _ _ (.inr (.inl rfl)) Gi) hK
    simp only[VR]
    exact⟨_,ak _ _ _,trivial,b,by simp[b9,hb],hv⟩
   ·cases h
  ·cases h
 |(s,.dE τ q e)::L,σ,acc,M,νA,K,hC,hF,hN,h=>by
  obtain⟨Gh,Gi,JQ⟩:=hO hF hN
  unfold ew at h
  have hs:=hC.src s
  split at h
  ·rename_i id hT
   rw[hT]at hs
   split at h
   ·rename_i υ x q' k aS
    obtain⟨hpq,h1⟩:=bz h
    clear h
    have:=uy hpq
    subst this
    split at h1
    ·rename_i e' l hk
     obtain⟨e1,h2⟩:=aY h1
     clear h1
     subst e1
     obtain⟨e2,h⟩:=aY h2
     cases e2
     have gG:id≠k:=fun e=>by rw[e,hk]at aS;cases aS
     obtain⟨ahf,ahg,_⟩:=hN _ List.mem_cons_self
     simp only[VR]at hs
     obtain⟨e,he,jk⟩:=hs
     rw[aS]at he;cases he
     simp only[AR]at jk
     obtain⟨_,b,hb,hv⟩:=jk
     have ob:=hC.mem.move hk trivial ahf (.inl ⟨rfl,fun _ _ _ _=>by simp⟩)
     have kK:bm σ.H k (some .gone) id=some (.dE υ x q k):=by rw[al _ _ gG];exact aS
     have sY:=ob.mem.move kK trivial (j:=16*s+14) (e1:= .dE υ x q (16*s+13)) (by rw[al _ _ (by omega)];exact ahg)
      (.inr ⟨υ,x,q,k,16*s+13,rfl,rfl,by rw[ak];simp,by simp[b9]⟩)
     refine cX L _ _ M _ K (hC.tr (ob.trans sY) (s:=s) (x:= .eV (16*s+14) []) ?_) Gh (JQ _ _ _ (.inr (.inl rfl)) (JQ _ _ _ (.inl rfl) Gi)) h
     simp only[VR]
     exact⟨_,ak _ _ _,trivial,b,by simp[b9,hb],hv⟩
    ·cases h1
   ·cases h
  ·cases h
 |(s,.same s')::L,σ,acc,M,νA,K,hC,hF,hN,h=>by
  obtain⟨Gh,Gi,JQ⟩:=hO hF hN
  unfold ew at h
  split at h
  ·rename_i i j j' h1 h2 h3
   obtain⟨hb,h⟩:=bz h
   have hb:=Nat.eq_of_beq_eq_true hb
   have e1:=hC.src s
   have e2:=hC.src s'
   have e3:=hC.dst s'
   rw[h1]at e1;rw[h2]at e2;rw[h3]at e3
   simp only[VR]at e1 e2 e3
   refine cX L σ _ M νA K (hC.tr (.refl hC.mem) (x:= .ref j') ?_) Gh Gi h
   simp only[VR]
   exact⟨e3.1,by rw[e1.2,hb,←e2.2,e3.2]⟩
  ·cases h
 |(s,.io τ)::L,σ,acc,M,νA,K,hC,hF,hN,h=>by
  obtain⟨Gh,Gi,JQ⟩:=hO hF hN
  unfold ew at h
  have hs:=hC.src s
  split at h
  ·rename_i id hT
   rw[hT]at hs
   obtain⟨_,h⟩:=bz h
   split at h
   ·rename_i υ x aS
    obtain⟨e1,h⟩:=aY h
    subst e1
    have hj:=(hN _ List.mem_cons_self).2.2
    simp only[VR]at hs
    obtain⟨e,he,jk⟩:=hs
    rw[aS]at he;cases he
    simp only[AR]at jk
    obtain⟨_,b,hb,hv⟩:=jk
    refine cX L _ _ M _ K (hC.tr (hC.mem.move aS trivial hj (.inl ⟨rfl,fun _ _ _ _=>by simp⟩)) (x:= .eV (16*s+15) []) ?_) Gh (JQ _ _ _ (.inr (.inr rfl)) Gi) h
    simp only[VR]
    exact⟨_,ak _ _ _,trivial,b,by simp[b9,hb],hv⟩
   ·cases h
  ·cases h
 |(s,.fn f τ)::L,σ,acc,M,νA,K,hC,hF,hN,h=>by
  obtain⟨Gh,Gi,JQ⟩:=hO hF hN
  unfold ew at h
  have hs:=hC.src s
  split at h
  ·rename_i f' cs hT
   rw[hT]at hs
   obtain⟨hb,h1⟩:=bz h
   clear h
   have hb:=Nat.eq_of_beq_eq_true hb
   subst hb
   simp only[VR]at hs
   obtain⟨us,hv,Px⟩:=hs
   obtain⟨y,rd,ups,h,hy⟩:=xy hC.mem.left Px h1
   split at h
   ·refine cX L σ _ M νA K (hC.tr (.refl hC.mem) (x:= .CQ f (kX τ y)) ?_) Gh Gi h
    simp only[VR]
    exact⟨us,hv,fj.free (hy rfl)⟩
   ·cases h
  ·cases h
theorem sf(hI:Inv c E σ a w){L:Option (List (Nat×CM))}(hL: ∀L',L=some L'→fM L'=true){K:St→Option α}(h:p3 L σ K=some r): ∃σ',K σ'=some r∧Inv c E σ' a w:=by
 unfold p3 at h
 split at h
 ·exact⟨σ,h,hI⟩
 ·have Vw:=hL _ rfl
  obtain⟨⟨M,ν,hc⟩,hs,hd⟩:=hI
  obtain⟨PM,M',JP,hK,abZ⟩:=cX (tm:=a.tmps) _ σ ⟨fun _=> .any,fun _=>none⟩ M (fun _=>undef) K ⟨hc.mem.PK _,hc.tmp,fun i=>by simp[VR]⟩ Vw (fun _ _=>⟨rfl,rfl,rfl⟩) h
  exact⟨PM,hK,⟨M',JP,abZ⟩,hs,hd⟩
end VM
end
