/- A part of the proof of HedgeFills of layer 22: a machine that reads a function of the program as an equation between values. -/
import Derived.Test.YtocmlaipoebfeaaGreatVm3
import Derived.Scope
set_option linter.all false
section
namespace VM
open Go
variable{P:Program}{E:Env}{o:Oper}{a:Act}{w:World}{M:Nat→Prop}{ν:Nat→Value}{σ:St}{c:Ctx}{α:Type}{r:α}{next:Act→World→Prop}{Q:Exit→Act→World→Prop}
theorem Mem.call{H:Nat→Option aR}(h:Mem c H w M ν){hs:List Nat}{M0 M':Nat→Prop}{w':World}(hM: ∀b,M0 b→M b)(hhs: ∀b∈hs,M b)
  (pI: ∀b∈hs,∀i e,H i=some e→e.mut→ez (ν i)≠some b) (ko: ∀b∈hs,c.B≤b∨c.may b) (sL: ∀b∈hs,c.M0 b→M' b) (L:Left w M0 hs w' M'):
  Mem c H w' (fun b=>M' b∨(M b∧b∉hs)) ν∧dp w M w' (fun b=>M' b∨(M b∧b∉hs)):=by
 have hk:dp w M w' (fun b=>M' b∨(M b∧b∉hs)):=by
  refine⟨L.size,fun b hb hm=>L.frame b hb (fun hh=>hm (hhs b hh)),fun b hb hm=> ?_⟩
  rcases hm with hm|hm
  ·exact(L.less b hb hm).elim (hM b) (hhs b)
  ·exact hm.1
 refine⟨⟨fun i e hi=>(h.jj i e hi).bx hk fun hm b hb=> ?_,h.wg,h.new,h.uE,nr h (fun _ _=>rfl) (fun _ h=>h) (fun i τ x p j hi=> .inl ⟨hi,fun b hb=> ?_⟩),fun b hb=> ?_,fun b hb=> ?_,fun b hb hm=> ?_,Nat.le_trans h.size L.size,h.rr,L.os.trans h.os,L.tape.trans h.tape,L.output.trans h.output⟩,hk⟩
 ·have hMb:=(h.jj i e hi).tO hm hb
  have yq:b∉hs:=fun hh=>pI b hh i e hi hm hb
  exact⟨L.frame b (h.zs b hMb) yq,.inr ⟨hMb,yq⟩⟩
 ·have uF:ez (ν i)=some b:=by rw[hb];rfl
  have hMb:=(h.jj i _ hi).tO trivial uF
  exact L.frame b (h.zs b hMb) (fun hh=>pI b hh i _ hi trivial uF)
 ·by_cases hh:b∈hs
  ·exact .inl (sL b hh hb)
  ·exact .inr ⟨h.sub b hb,hh⟩
 ·rcases hb with hb|hb
  ·exact L.zs b hb
  ·exact Nat.lt_of_lt_of_le (h.zs b hb.1) L.size
 ·have yq:b∉hs:=fun hh=>(ko b hh).elim (fun h'=>by omega) hm
  rw[L.frame b (Nat.lt_of_lt_of_le hb h.size) yq]
  exact h.frame b hb hm
theorem Mem.xw{H:Nat→Option aR}(h:Mem c H w M ν){id:Nat}{v:Value}{e:aR}(aU: ∀e',H id=some e'→ ¬e'.mut)(Nf:ER w M v e)
  (hd: ∀b,ez v=some b→ ∀i e',H i=some e'→e'.mut→ez (ν i)≠some b) (hn: ∀b,ez v=some b→c.B≤b∨c.may b) (ho: ∀b e0 l0,e= .own e0 l0→ez v=some b→ ¬c.M0 b)
  (hnv:H id=none∨v=ν id)
  (pH: ∀τ x p j,e= .dW τ x p j→bs H id (some e) j≠none∧ ∃b,v= .pointer (some ⟨b,0,none⟩)∧w.cell? ⟨b,bM p τ,none⟩=some (cr ν id v j):=by intro _ _ _ _ h;cases h):
  Mem c (bs H id (some e)) w M (cr ν id v):=by
 have hν: ∀i,i≠id→cr ν id v i=ν i:=fun i hi=>by simp[cr,hi]
 have ym:cr ν id v id=v:=by simp[cr]
 refine⟨fun i e1 hi=> ?_,fun i k e1 e2 b1 oH hi pG hk uS=> ?_,fun i e1 b1 hi pG=> ?_,fun i e1 l1 b1 hi=> ?_,nr h (fun i hi=> ?_) sJ (fun i τ x p j hi=> ?_),h.sub,h.zs,h.frame,h.size,h.rr,h.os,h.tape,h.output⟩
 ·by_cases bu:i=id
  ·subst bu;rw[ak]at hi;cases hi;rw[ym];exact Nf
  ·rw[an _ _ bu]at hi;rw[hν i bu];exact h.jj i e1 hi
 ·by_cases bu:i=id
  ·subst bu;rw[ym]
   have FO:k≠i:=Ne.symm oH
   rw[an _ _ FO]at hk;rw[hν k FO]
   intro ke
   exact hd b1 ke k e2 hk uS
  ·rw[an _ _ bu]at hi;rw[hν i bu]
   by_cases FO:k=id
   ·subst FO;rw[ym]
    intro ke tg
    exact hd b1 tg i e1 hi pG ke
   ·rw[an _ _ FO]at hk;rw[hν k FO];exact h.wg i k e1 e2 b1 oH hi pG hk uS
 ·by_cases bu:i=id
  ·subst bu;rw[ym];exact hn b1
  ·rw[an _ _ bu]at hi;rw[hν i bu];exact h.new i e1 b1 hi pG
 ·by_cases bu:i=id
  ·subst bu;rw[ak]at hi;cases hi;rw[ym];exact ho b1 e1 l1 rfl
  ·rw[an _ _ bu]at hi;rw[hν i bu];exact h.uE i e1 l1 b1 hi
 ·by_cases bu:i=id
  ·subst bu
   rcases hnv with hnv|hnv
   ·exact absurd hnv hi
   ·rw[ym,hnv]
  ·exact hν i bu
 ·by_cases bu:i=id
  ·subst bu
   rw[ak]at hi
   cases hi
   obtain⟨h1,b,h2,h3⟩:=pH _ _ _ _ rfl
   exact .inr ⟨h1,b,by rw[ym];exact h2,h3⟩
  ·rw[an _ _ bu]at hi
   exact .inl ⟨hi,fun _ _=>rfl⟩
theorem Nt{m:AM}{ms:List AM}(x:HP (m::ms))(id:Nat)(io:List (Nat×Ty)):
  iW (m::ms) x id io=match m,rz x,io with
   | .io τ,y,(j,_)::io=>((iW ms (wh x) (id+1) io).1,(j,some (.obj τ y))::(iW ms (wh x) (id+1) io).2.1,(iW ms (wh x) (id+1) io).2.2)
   |m,y,io=>((DM m y id).1::(iW ms (wh x) (id+1) io).1,(DM m y id).2++(iW ms (wh x) (id+1) io).2.1,(iW ms (wh x) (id+1) io).2.2):=by
 cases ms with
 |nil=>cases m<;>cases io<;>simp[iW,rz]
 |cons n ms=>cases m<;>cases io<;>simp[iW,rz,wh]
theorem m8{l1 l2:List Nat}{b:Nat}(h:(l1++l2).Nodup)(h1:b∈l1):b∉l2:=fun h2=>(List.nodup_append.1 h).2.2 b h1 b h2 rfl
theorem RR.D2: ∀{ms:List AM} {x:HP ms} {us ps:List Value},RR w M ms x us ps→ ∀p∈ps,∀b,ez p=some b→b∈bg ms us ps
 |[],_,_,_,h,p,hp,_,_=>by simp only[RR]at h;rw[h.2]at hp;simp at hp
 |m::ms,x,us,ps,h,p,hp,b,hb=>by
  simp only[RR]at h
  rcases h with⟨p',BV,h1,rfl,h2,h3⟩|⟨v,D1,h1,h2,rfl,h3,h4⟩
  ·simp only[bg,h1,if_true,List.headD_cons,List.tail_cons,List.mem_append]
   rcases List.mem_cons.1 hp with rfl|hp
   ·left
    cases m<;>simp[AM.fR]at h1
    simp[cD,hb]
   ·exact .inr (RR.D2 h3 p hp b hb)
  ·simp only[bg,h1,Bool.false_eq_true,if_false,List.headD_cons,List.tail_cons,List.mem_append]
   exact .inr (RR.D2 h4 p hp b hb)
theorem nx{hs:List Nat}{sz:Nat}: ∀{ms:List AM} {x:HP ms} {us ps:List Value} {id:Nat} {io:List (Nat×Ty)} {H:Nat→Option aR} {ν:Nat→Value} {used:List Nat},
  Mem c H w M ν→RR w M ms x us ps→ps=io.map (fun q=>ν q.1)→lC ms=io.map (·.2)→(keys io).Nodup→(∀q∈io,H q.1=some .gone)→(∀i,id≤i→i<id+ms.length→H i=none)→
  (∀i e b,H i=some e→e.mut→ez (ν i)=some b→(b<sz∧b∉hs)∨b∈used)→(used++bg ms us ps).Nodup→(∀b∈bg ms us ps,sz≤b∨b∈hs)→
  (∀b∈bg ms us ps,(c.B≤b∨c.may b))→(∀b∈bg ms us ps,c.M0 b→ ∃p∈ps,ez p=some b)→
  ∃ν',Mem c (b8 H (iW ms x id io).2.1) w M ν'∧fQ w M (b8 H (iW ms x id io).2.1) ν' (iW ms x id io).1 us∧(∀i,H i≠none→ν' i=ν i)∧
   (∀i,i∉keys io→(i<id∨id+ms.length≤i)→b8 H (iW ms x id io).2.1 i=H i)∧(∀i,id≤i→i<id+ms.length→ ∀e,b8 H (iW ms x id io).2.1 i=some e→(∃e0 l0,e= .own e0 l0)∨ ∃τ0 z0,e= .obj τ0 z0)∧
   (∀q∈io,∃z:q.2.den,b8 H (iW ms x id io).2.1 q.1=some (.obj q.2 z))
 |[],x,us,ps,id,io,H,ν,used,hm,hr,JD,BP,F4,BX,iG,hold,u7,om,ko,FN=>by
  simp only[RR]at hr
  obtain⟨rfl,rfl⟩:=hr
  have sL:io=[]:=by
   cases io with
   |nil=>rfl
   |cons q io=>simp at JD
  subst sL
  exact⟨ν,hm,by simp[iW,fQ],fun _ _=>rfl,fun _ _ _=>rfl,fun i h1 h2=>by simp at h2;omega,fun q hq=>by simp at hq⟩
 |m::ms,x,us,ps,id,io,H,ν,used,hm,hr,JD,BP,F4,BX,iG,hold,u7,om,ko,FN=>by
  rw[Nt]
  simp only[RR]at hr
  rcases hr with⟨p,BV,D3,rfl,h1,h2⟩|⟨v,D1,D3,hmf,rfl,h1,h2⟩
  ·
   cases m with
   |io τ=>
    cases io with
    |nil=>simp at JD
    |cons q io=>
     simp only[List.map_cons,List.cons.injEq]at JD
     obtain⟨rfl,rfl⟩:=JD
     simp only[lC,List.map_cons,List.cons.injEq]at BP
     obtain⟨amu,amv⟩:=BP
     simp only[keys,List.map_cons,List.nodup_cons]at F4
     have hbr:bg (.io τ::ms) us (ν q.1::io.map fun q=>ν q.1)=(ez (ν q.1)).toList++bg ms us (io.map fun q=>ν q.1):=rfl
     rw[hbr]at u7 om ko FN
     have TU:=BX q List.mem_cons_self
     have F5:q.1<id∨id+(ms.length+1)≤q.1:=by
      rcases Nat.lt_or_ge q.1 id with h'|h'
      ·exact .inl h'
      ·rcases Nat.lt_or_ge q.1 (id+(ms.length+1))with L1|L1
       ·rw[iG q.1 h' L1]at TU;cases TU
       ·exact .inr L1
     simp only[A1]at h1
     have rR: ∀b,ez (ν q.1)=some b→ ∀i e',H i=some e'→e'.mut→ez (ν i)≠some b:=by
      intro b hb i e' hi gB dF
      have ir:b∈(ez (ν q.1)).toList++bg ms us (io.map fun q=>ν q.1):=List.mem_append_left _ (by rw[hb];simp)
      rcases hold i e' b hi gB dF with⟨h3,h4⟩|h3
      ·exact(om b ir).elim (fun h'=>by omega) h4
      ·exact m8 u7 h3 ir
     have uS:=Mem.xw (c:=c) hm (id:=q.1) (v:=ν q.1) (e:= .obj τ (rz x)) (fun e' tC=>by rw[TU]at tC;cases tC;simp[aR.mut]) h1 rR (fun b hb=>ko b (List.mem_append_left _ (by rw[hb];simp))) (fun b e0 l0 he=>by cases he) (.inr rfl)
     have hνe:cr ν q.1 (ν q.1)=ν:=by funext i;unfold cr;split<;>simp_all
     rw[hνe]at uS
     have amw: ∀(q':Nat×Ty),q'∈io→q'.1≠q.1:=fun q' pk e=>F4.1 (List.mem_map.2 ⟨q',pk,e⟩)
     obtain⟨ν',r1,r2,r3,r4,r5,r6⟩:=nx (ms:=ms) (x:=wh x) (us:=us) (ps:=io.map fun q=>ν q.1) (id:=id+1) (io:=io) (used:=used++(ez (ν q.1)).toList) uS h2 rfl amv F4.2
      (fun q' pk=>by rw[an _ _ (amw q' pk)];exact BX q' (List.mem_cons_of_mem _ pk))
      (fun i h3 h4=>by
       have:i≠q.1:=by omega
       rw[an _ _ this]
       exact iG i (by omega) (by simp only[List.length_cons];omega))
      (fun i e b hi gB hb=>by
       by_cases bu:i=q.1
       ·subst bu;exact .inr (List.mem_append_right _ (by rw[hb];simp))
       ·rw[an _ _ bu]at hi
        exact(hold i e b hi gB hb).imp (fun h=>h) (List.mem_append_left _))
      (by rw[List.append_assoc];exact u7) (fun b hb=>om b (List.mem_append_right _ hb)) (fun b hb=>ko b (List.mem_append_right _ hb))
      (fun b hb hb0=>by
       obtain⟨p,hp,hpb⟩:=FN b (List.mem_append_right _ hb) hb0
       rcases List.mem_cons.1 hp with rfl|hp
       ·exact absurd (m8 (List.nodup_append.1 u7).2.1 (b:=b) (by rw[hpb];simp)) (by simpa using hb)
       ·exact⟨p,hp,hpb⟩)
     refine⟨ν',r1,r2,fun i hi=> ?_,fun i h3 h4=> ?_,fun i h3 h4 e he=> ?_,fun q' pk=> ?_⟩
     ·exact r3 i (by
       by_cases bu:i=q.1
       ·subst bu;rw[ak];simp
       ·rw[an _ _ bu];exact hi)
     ·simp only[keys,List.map_cons,List.mem_cons,not_or]at h3
      have:=r4 i h3.2 (by simp only[List.length_cons]at h4;omega)
      rw[an _ _ h3.1]at this
      exact this
     ·by_cases h5:id+1≤i
      ·exact r5 i h5 (by simp only[List.length_cons]at h4;omega) e he
      ·have bu:i=id:=by omega
       subst bu
       by_cases hk:i∈keys io
       ·obtain⟨q',pk,JF⟩:=List.mem_map.1 hk
        have h9:=BX q' (List.mem_cons_of_mem _ pk)
        rw[JF,iG i (Nat.le_refl _) (by simp)]at h9
        cases h9
       ·have:=r4 i hk (.inl (by omega))
        have gi:i≠q.1:=by omega
        rw[an _ _ gi,iG i (Nat.le_refl _) (by simp)]at this
        have he:b8 (bs H q.1 (some (aR.obj τ (rz x)))) (iW ms (wh x) (i+1) io).2.1 i=some e:=he
        rw[this]at he;cases he
     ·rcases List.mem_cons.1 pk with rfl|pk
      ·have:=r4 q'.1 F4.1 (by omega)
       rw[ak]at this
       rw[←amu]
       exact⟨rz x,this⟩
      ·exact r6 q' pk
   |v τ=>simp[AM.fR]at D3
   |own τ=>simp[AM.fR]at D3
   |fn f τ=>simp[AM.fR]at D3
   |ptr τ=>simp[AM.fR]at D3
   |fP τ=>simp[AM.fR]at D3
  ·
   have BY:H id=none:=iG id (Nat.le_refl _) (by simp)
   cases m with
   |io τ=>simp[AM.fR]at D3
   |fn f τ=>simp[AM.TQ]at hmf
   |fP τ=>simp[AM.TQ]at hmf
   |v τ=>
    have hbr:bg (.v τ::ms) (v::D1) ps=bg ms D1 ps:=rfl
    rw[hbr]at u7 om ko FN
    simp only[A1]at h1
    obtain⟨ν',r1,r2,r3,r4,r5,r6⟩:=nx (ms:=ms) (x:=wh x) (us:=D1) (ps:=ps) (id:=id+1) (io:=io) (used:=used) hm h2 JD (by simpa [lC]using BP) F4 BX (fun i h3 h4=>iG i (by omega) (by simp only[List.length_cons];omega)) hold u7 om ko FN
    refine⟨ν',r1,?_,r3,fun i h3 h4=>r4 i h3 (by simp only[List.length_cons]at h4;omega),fun i h3 h4 e he=> ?_,r6⟩
    ·simp only[DM,fQ,VR];exact⟨h1,r2⟩
    ·by_cases h5:id+1≤i
     ·exact r5 i h5 (by simp only[List.length_cons]at h4;omega) e he
     ·have bu:i=id:=by omega
      subst bu
      by_cases hk:i∈keys io
      ·obtain⟨q',pk,JF⟩:=List.mem_map.1 hk
       have h9:=BX q' pk
       rw[JF,BY]at h9;cases h9
      ·have:=r4 i hk (.inl (by omega))
       rw[BY]at this
       have he:b8 H (iW ms (wh x) (i+1) io).2.1 i=some e:=he
       rw[this]at he;cases he
   |own τ=>
    have hbr:bg (.own τ::ms) (v::D1) ps=(ez v).toList++bg ms D1 ps:=rfl
    rw[hbr]at u7 om ko FN
    simp only[A1]at h1
    have rR: ∀b,ez v=some b→ ∀i e',H i=some e'→e'.mut→ez (ν i)≠some b:=by
     intro b hb i e' hi gB dF
     have ir:b∈(ez v).toList++bg ms D1 ps:=List.mem_append_left _ (by rw[hb];simp)
     rcases hold i e' b hi gB dF with⟨h3,h4⟩|h3
     ·exact(om b ir).elim (fun h'=>by omega) h4
     ·exact m8 u7 h3 ir
    have agY: ∀b,ez v=some b→ ¬c.M0 b:=by
     intro b hb h0
     have ir:b∈(ez v).toList:=by rw[hb];simp
     obtain⟨p,hp,hpb⟩:=FN b (List.mem_append_left _ ir) h0
     exact m8 (List.nodup_append.1 u7).2.1 ir (RR.D2 h2 p hp b hpb)
    have uS:=Mem.xw (c:=c) hm (id:=id) (v:=v) (e:= .own τ (rz x)) (fun e' tC=>by rw[BY]at tC;cases tC) h1 rR (fun b hb=>ko b (List.mem_append_left _ (by rw[hb];simp))) (fun b e0 l0 _ hb=>agY b hb) (.inl BY)
    have F5: ∀q∈io,q.1≠id:=fun q hq e=>by
     have h9:=BX q hq
     rw[e,BY]at h9;cases h9
    have hν2: ∀i,i≠id→cr ν id v i=ν i:=fun i hi=>by simp[cr,hi]
    obtain⟨ν',r1,r2,r3,r4,r5,r6⟩:=nx (ms:=ms) (x:=wh x) (us:=D1) (ps:=ps) (id:=id+1) (io:=io) (used:=used++(ez v).toList) uS h2
     (by rw[JD];exact List.map_congr_left fun q hq=>(hν2 _ (F5 q hq)).symm) (by simpa [lC]using BP) F4
     (fun q hq=>by rw[an _ _ (F5 q hq)];exact BX q hq)
     (fun i h3 h4=>by rw[an _ _ (by omega)];exact iG i (by omega) (by simp only[List.length_cons];omega))
     (fun i e b hi gB hb=>by
      by_cases bu:i=id
      ·subst bu
       have:cr ν i v i=v:=by simp[cr]
       rw[this]at hb
       exact .inr (List.mem_append_right _ (by rw[hb];simp))
      ·rw[an _ _ bu]at hi
       rw[hν2 i bu]at hb
       exact(hold i e b hi gB hb).imp (fun h=>h) (List.mem_append_left _))
     (by rw[List.append_assoc];exact u7) (fun b hb=>om b (List.mem_append_right _ hb)) (fun b hb=>ko b (List.mem_append_right _ hb)) (fun b hb=>FN b (List.mem_append_right _ hb))
    have abJ:id∉keys io:=fun hk=>by
     obtain⟨q,hq,JF⟩:=List.mem_map.1 hk
     exact F5 q hq JF
    have ld:b8 (bs H id (some (.own τ (rz x)))) (iW ms (wh x) (id+1) io).2.1 id=some (.own τ (rz x)):=by
     rw[r4 id abJ (.inl (by omega)),ak]
    refine⟨ν',r1,?_,fun i hi=> ?_,fun i h3 h4=> ?_,fun i h3 h4 e he=> ?_,r6⟩
    ·simp only[DM,fQ,VR]
     refine⟨⟨?_,?_⟩,r2⟩
     ·show b8 (bs H id (some (.own τ (rz x)))) (iW ms (wh x) (id+1) io).2.1 id≠none
      rw[ld];simp
     ·rw[r3 id (by rw[ak];simp)];simp[cr]
    ·have bu:i≠id:=fun e=>hi (e▸BY)
     rw[r3 i (by rw[an _ _ bu];exact hi),hν2 i bu]
    ·have bu:i≠id:=by simp only[List.length_cons]at h4;omega
     have:=r4 i h3 (by simp only[List.length_cons]at h4;omega)
     rw[an _ _ bu]at this
     exact this
    ·by_cases h5:id+1≤i
     ·exact r5 i h5 (by simp only[List.length_cons]at h4;omega) e he
     ·have bu:i=id:=by omega
      subst bu
      have he:b8 (bs H i (some (.own τ (rz x)))) (iW ms (wh x) (i+1) io).2.1 i=some e:=he
      rw[ld]at he;cases he
      exact .inl ⟨τ,_,rfl⟩
   |ptr τ=>
    have hbr:bg (.ptr τ::ms) (v::D1) ps=(ez v).toList++bg ms D1 ps:=rfl
    rw[hbr]at u7 om ko FN
    simp only[A1]at h1
    have rR: ∀b,ez v=some b→ ∀i e',H i=some e'→e'.mut→ez (ν i)≠some b:=by
     intro b hb i e' hi gB dF
     have ir:b∈(ez v).toList++bg ms D1 ps:=List.mem_append_left _ (by rw[hb];simp)
     rcases hold i e' b hi gB dF with⟨h3,h4⟩|h3
     ·exact(om b ir).elim (fun h'=>by omega) h4
     ·exact m8 u7 h3 ir
    have uS:=Mem.xw (c:=c) hm (id:=id) (v:=v) (e:= .obj τ (rz x)) (fun e' tC=>by rw[BY]at tC;cases tC) h1 rR (fun b hb=>ko b (List.mem_append_left _ (by rw[hb];simp))) (fun b e0 l0 he _=>by cases he) (.inl BY)
    have F5: ∀q∈io,q.1≠id:=fun q hq e=>by
     have h9:=BX q hq
     rw[e,BY]at h9;cases h9
    have hν2: ∀i,i≠id→cr ν id v i=ν i:=fun i hi=>by simp[cr,hi]
    obtain⟨ν',r1,r2,r3,r4,r5,r6⟩:=nx (ms:=ms) (x:=wh x) (us:=D1) (ps:=ps) (id:=id+1) (io:=io) (used:=used++(ez v).toList) uS h2
     (by rw[JD];exact List.map_congr_left fun q hq=>(hν2 _ (F5 q hq)).symm) (by simpa [lC]using BP) F4
     (fun q hq=>by rw[an _ _ (F5 q hq)];exact BX q hq)
     (fun i h3 h4=>by rw[an _ _ (by omega)];exact iG i (by omega) (by simp only[List.length_cons];omega))
     (fun i e b hi gB hb=>by
      by_cases bu:i=id
      ·subst bu
       have:cr ν i v i=v:=by simp[cr]
       rw[this]at hb
       exact .inr (List.mem_append_right _ (by rw[hb];simp))
      ·rw[an _ _ bu]at hi
       rw[hν2 i bu]at hb
       exact(hold i e b hi gB hb).imp (fun h=>h) (List.mem_append_left _))
     (by rw[List.append_assoc];exact u7) (fun b hb=>om b (List.mem_append_right _ hb)) (fun b hb=>ko b (List.mem_append_right _ hb)) (fun b hb=>FN b (List.mem_append_right _ hb))
    have abJ:id∉keys io:=fun hk=>by
     obtain⟨q,hq,JF⟩:=List.mem_map.1 hk
     exact F5 q hq JF
    have ld:b8 (bs H id (some (.obj τ (rz x)))) (iW ms (wh x) (id+1) io).2.1 id=some (.obj τ (rz x)):=by
     rw[r4 id abJ (.inl (by omega)),ak]
    refine⟨ν',r1,?_,fun i hi=> ?_,fun i h3 h4=> ?_,fun i h3 h4 e he=> ?_,r6⟩
    ·simp only[DM,fQ,VR]
     refine⟨⟨_,ld,trivial,?_⟩,r2⟩
     simp only[A1,ER]at h1
     obtain⟨b,cs,t,P0,_⟩:=h1
     exact⟨b,by rw[r3 id (by rw[ak];simp)];simp[cr,P0],P0⟩
    ·have bu:i≠id:=fun e=>hi (e▸BY)
     rw[r3 i (by rw[an _ _ bu];exact hi),hν2 i bu]
    ·have bu:i≠id:=by simp only[List.length_cons]at h4;omega
     have:=r4 i h3 (by simp only[List.length_cons]at h4;omega)
     rw[an _ _ bu]at this
     exact this
    ·by_cases h5:id+1≤i
     ·exact r5 i h5 (by simp only[List.length_cons]at h4;omega) e he
     ·have bu:i=id:=by omega
      subst bu
      have he:b8 (bs H i (some (.obj τ (rz x)))) (iW ms (wh x) (i+1) io).2.1 i=some e:=he
      rw[ld]at he;cases he
      exact .inr ⟨τ,_,rfl⟩
end VM
end
section
namespace VM
open Go
variable{P:Program}{E:Env}{o:Oper}{a:Act}{w:World}{M:Nat→Prop}{ν:Nat→Value}{σ:St}{c:Ctx}{α:Type}{r:α}{next:Act→World→Prop}{Q:Exit→Act→World→Prop}
theorem F6{i:Nat}: ∀{ups:fF} {H:Nat→Option aR},i∈keys ups→ ∃u∈ups,u.1=i∧b8 H ups i=u.2
 |[],_,h=>by simp[keys]at h
 |u::r,H,h=>by
  by_cases hk:i∈keys r
  ·obtain⟨v,h1,h2,h3⟩:=F6 (H:=bs H u.1 u.2) hk
   exact⟨v,List.mem_cons_of_mem _ h1,h2,h3⟩
  ·have hi:i=u.1:=by
    simp only[keys,List.map_cons,List.mem_cons]at h hk
    exact h.resolve_right hk
   refine⟨u,List.mem_cons_self,hi.symm,?_⟩
   show b8 (bs H u.1 u.2) r i=_
   rw[jP hk,hi,ak]
theorem zG: ∀{ups:fF} {H H':Nat→Option aR},(∀i,i∉keys ups→H i=H' i)→b8 H ups=b8 H' ups
 |[],H,H',h=>funext fun i=>h i (by simp[keys])
 |u::r,H,H',h=>by
  refine zG (ups:=r) fun i hi=> ?_
  by_cases hu:i=u.1
  ·subst hu;rw[ak,ak]
  ·rw[an _ _ hu,an _ _ hu]
   exact h i (by simp only[keys,List.map_cons,List.mem_cons,not_or];exact⟨hu,hi⟩)
theorem RR.ny: ∀{ms:List AM} {x:HP ms} {us ps:List Value},RR w M ms x us ps→ ∀b∈bg ms us ps,M b
 |[],_,_,_,_,b,hb=>by simp[bg]at hb
 |m::ms,x,us,ps,h,b,hb=>by
  simp only[RR]at h
  rcases h with⟨p,BV,h1,rfl,h2,h3⟩|⟨v,D1,h1,h2,rfl,h3,h4⟩
  ·simp only[bg,h1,if_true,List.headD_cons,List.tail_cons,List.mem_append]at hb
   rcases hb with hb|hb
   ·cases m<;>simp[AM.fR]at h1
    simp only[cD,Option.mem_toList,A1]at hb h2
    exact h2.tO trivial hb
   ·exact RR.ny h3 b hb
  ·simp only[bg,h1,Bool.false_eq_true,if_false,List.headD_cons,List.tail_cons,List.mem_append]at hb
   rcases hb with hb|hb
   ·cases m with
    |own e=>
     simp only[cD,Option.mem_toList,A1]at hb h3
     exact h3.tO trivial hb
    |v _=>simp[cD]at hb
    |io _=>simp[AM.fR]at h1
    |fn _ _=>simp[cD]at hb
    |fP _=>simp[cD]at hb
    |ptr τ=>
     simp only[cD,Option.mem_toList,A1]at hb h3
     exact h3.tO trivial hb
   ·exact RR.ny h4 b hb
theorem Cv: ∀{l:List iC} {mG:List a6} {S:iC},FL l mG=some S→S∈l
 |[],_,_,h=>by simp[FL]at h
 |T::l,mG,S,h=>by
  unfold FL at h
  cases hf:fits T.args mG
  ·rw[hf]at h;exact List.mem_cons_of_mem _ (Cv h)
  ·rw[hf]at h;cases h;exact List.mem_cons_self
theorem xx{H:Nat→Option aR}{id:Nat}: ∀{n:Nat},qd H id n=true→ ∀i,id≤i→i<id+n→H i=none
 |0,_,i,h1,h2=>by omega
 |n+1,h,i,h1,h2=>by
  unfold qd at h
  rw[Bool.and_eq_true]at h
  by_cases hi:i=id+n
  ·subst hi
   have h:=h.1
   split at h
   ·assumption
   ·cases h
  ·exact xx h.2 i h1 (by omega)
theorem P1{H:Nat→Option aR}{mG:List a6}{us:List Value}(h:fQ w M H ν mG us):VR w M H ν (FJ mG) (rP us):=by
 match mG,us,h with
 |[],[],_=>simp[FJ,VR]
 |[a],[u],h=>simp only[fQ,and_true]at h;simpa [FJ,rP]using h
 |a::b::mG,u::v::us,h=>
  simp only[FJ,VR]
  exact⟨u::v::us,by simp[rP],h⟩
 |[],_::_,h=>simp[fQ]at h
 |_::_,[],h=>simp[fQ]at h
 |[_],_::_::_,h=>simp[fQ]at h
 |_::_::_,[_],h=>simp[fQ]at h
theorem F7(hΓ: ∀f S,S∈E.Γ f→e7 P f S){H:Nat→Option aR}(hm:Mem c H w M ν){f id:Nat}{mG:List a6}{vs:List Value}(hv:fQ w M H ν mG vs){K:fG α}(h:xi E f mG id H K=some r)
  {R:Value→World→Prop} (hR: ∀v rd ups v' w' M' ν',K v rd ups=some r→Tr c H w M ν (b8 H ups) w' M' ν'→VR w' M' (b8 H ups) ν' v v'→R v' w'):
  F3 P f vs.toArray w R:=by
 unfold xi at h
 split at h
 ·cases h
 rename_i S hS
 have Te:=hΓ f S (Cv hS)
 obtain⟨x,rd,uo,uf,io,H2,Hq,M2,h1,hA,hK,agZ,TT,Pr⟩:=xv (iF.start hm) hv h
 clear h
 simp only[List.nil_append,List.map_nil]at hA TT Pr
 obtain⟨y,hy,h1⟩:=Option.bind_eq_some_iff.1 h1
 obtain⟨iG,h1⟩:=bK h1
 have iG:=xx iG
 have amx:(fun b=>(M2 b∧b∉cK S.args vs)∨b∈cK S.args vs)=M2:=by
  funext b
  refine propext ⟨fun h=>h.elim (·.1) (hA.hM b),fun h=> ?_⟩
  by_cases hb:b∈cK S.args vs
  ·exact .inr hb
  ·exact .inl ⟨h,hb⟩
 refine F3.mono (Te.call (fun b=>M2 b∧b∉cK S.args vs) w vs x y (fun b hb=>hA.mem.zs b hb.1) (by rw[amx];exact agZ) hA.nd (fun b hb h=>h.2 hb) hy) ?_
 rintro e w' ⟨us,M',rfl,Ps,hL,u7,hn0⟩
 have amy: ∀b∈cK S.args vs,c.M0 b→M' b:=by
  intro b hb h0
  obtain⟨q,hq,hqb⟩:=hA.iob b hb h0
  exact Ps.ny b (Ps.D2 (ν q.1) (by rw[←TT];exact List.mem_map_of_mem hq) b hqb)
 have om: ∀b∈bg S.res us (dB S.args vs),w.heap.size≤b∨b∈cK S.args vs:=by
  intro b hb
  rcases Nat.lt_or_ge b w.heap.size with dT|TV
  ·exact .inr ((hL.less b dT (Ps.ny b hb)).resolve_left (hn0 b hb))
  ·exact .inl TV
 have ko: ∀b∈bg S.res us (dB S.args vs),c.B≤b∨c.may b:=fun b hb=>(om b hb).elim (fun h=> .inl (Nat.le_trans hm.size h)) (hA.J8 b)
 have FN: ∀b∈bg S.res us (dB S.args vs),c.M0 b→ ∃p∈dB S.args vs,ez p=some b:=by
  intro b hb h0
  rcases om b hb with h'|h'
  ·have:=hm.rr.1 b h0;have:=hm.size;omega
  ·obtain⟨q,hq,hqb⟩:=hA.iob b h' h0
   exact⟨ν q.1,by rw[←TT];exact List.mem_map_of_mem hq,hqb⟩
 have key: ∀(Hx:Nat→Option aR) (Mx:Nat→Prop) (U:fF),Mem c Hx w Mx ν→dp w M w Mx→(∀b,M2 b→Mx b)→(∀b∈cK S.args vs,∀i e,Hx i=some e→e.mut→ez (ν i)≠some b)→
   (∀q∈io,Hx q.1=some .gone)→(∀i,i∉keys io→b8 H (uo++U) i=Hx i)→(∀u∈uo++U,u.2=some .gone∨ ∃e l,u.2=some (.la e l)∧H u.1=some (.own e l))→(∀i∈keys (uo++U),i∈keys (uo++uf))→
   RR w' (fun b=>M' b∨(Mx b∧b∉cK S.args vs)) S.res y us (dB S.args vs)→
   ∃ν',Tr c H w M ν (b8 H (uo++U++(iW S.res y id io).2.1)) w' (fun b=>M' b∨(Mx b∧b∉cK S.args vs)) ν'∧
    fQ w' (fun b=>M' b∨(Mx b∧b∉cK S.args vs)) (b8 H (uo++U++(iW S.res y id io).2.1)) ν' (iW S.res y id io).1 us:=by
  intro Hx Mx U PW hkx Nu pI P2 abK D4 hU S5
  obtain⟨mI,Cw⟩:=PW.call (fun b hb=>Nu b hb.1) (fun b hb=>Nu b (hA.hM b hb)) pI hA.J8 amy hL
  have hx: ∀i e,H i=some e→i∉keys io→ ∃e',Hx i=some e'∧e.iD e':=by
   intro i e hi zH
   rw[←abK i zH]
   by_cases hk:i∈keys (uo++U)
   ·obtain⟨u,hu,hui,huv⟩:=F6 (H:=H) hk
    rw[huv]
    rcases D4 u hu with h'|⟨e1,l1,h',L1⟩
    ·exact⟨_,h',aR.kE e⟩
    ·rw[hui,hi]at L1;cases L1;exact⟨_,h',rfl,rfl⟩
   ·rw[jP hk];exact⟨e,hi,.refl e⟩
  have hfr: ∀i,id≤i→i<id+S.res.length→Hx i=none:=by
   intro i h3 h4
   have h0:=iG i h3 h4
   have zH:i∉keys io:=fun hk=>by
    obtain⟨q,hq,JF⟩:=List.mem_map.1 hk
    obtain⟨_,_,z,hz⟩:=hA.Tc q hq
    rw[JF,h0]at hz;cases hz
   rw[←abK i zH]
   rw[jP,h0]
   intro hk
   obtain⟨_,e,l,h'⟩:=hA.ksn i (hU i hk)
   rw[h0]at h';cases h'
  obtain⟨ν',r1,r2,r3,r4,r5,r6⟩:=nx (hs:=cK S.args vs) (sz:=w.heap.size) (id:=id) (used:=[]) mI S5 TT.symm (by rw[←Te.ios,←Pr]) hA.ion P2 hfr
   (fun i e b hi hmu hb=> .inl ⟨PW.zs b ((PW.jj i e hi).tO hmu hb),fun hh=>pI b hh i e hi hmu hb⟩) (by simpa using u7) om ko FN
  have abL:b8 H (uo++U++(iW S.res y id io).2.1)=b8 Hx (iW S.res y id io).2.1:=by
   rw[eb]
   refine zG fun i hi=> ?_
   by_cases zH:i∈keys io
   ·obtain⟨q,hq,JF⟩:=List.mem_map.1 zH
    obtain⟨z,hz⟩:=r6 q hq
    rw[JF,jP hi,←JF,P2 q hq]at hz;cases hz
   ·exact abK i zH
  refine⟨ν',⟨by rw[abL];exact r1,hkx.trans Cw,⟨fun i e hi=> ?_,fun i hi=> ?_⟩⟩,by rw[abL];exact r2⟩
  ·rw[abL]
   by_cases zH:i∈keys io
   ·obtain⟨q,hq,JF⟩:=List.mem_map.1 zH
    obtain⟨z,hz⟩:=r6 q hq
    obtain⟨_,_,z0,hz0⟩:=hA.Tc q hq
    rw[JF]at hz hz0
    rw[hi]at hz0;cases hz0
    exact⟨_,hz,rfl⟩
   ·obtain⟨e',tC,hl⟩:=hx i e hi zH
    have hr:i<id∨id+S.res.length≤i:=by
     rcases Nat.lt_or_ge i id with h'|h'
     ·exact .inl h'
     ·rcases Nat.lt_or_ge i (id+S.res.length)with L1|L1
      ·rw[iG i h' L1]at hi;cases hi
      ·exact .inr L1
    exact⟨e',by rw[r4 i zH hr];exact tC,hl⟩
  ·refine r3 i ?_
   obtain⟨e,he⟩:=Option.ne_none_iff_exists'.1 hi
   by_cases zH:i∈keys io
   ·obtain⟨q,hq,JF⟩:=List.mem_map.1 zH
    rw[←JF,P2 q hq];simp
   ·obtain⟨e',tC,_⟩:=hx i e he zH
    rw[tC];simp
 cases hq:S.quiet
 ·
  rw[hq]at h1
  have hMn:(fun b=>M' b∨(M2 b∧b∉cK S.args vs))=M':=by
   funext b
   exact propext ⟨fun h=>h.elim (fun h=>h) (hL.sub b),.inl⟩
  obtain⟨ν',eZ,hvr⟩:=key H2 M2 uf hA.mem hA.bx (fun _ h=>h) (fun b hb i e hi hmu=>hA.none b hb i e (hA.fz.mut hi hmu) hmu) (fun q hq=>(hA.Tc q hq).1) hA.ext
   (fun u hu=>(List.mem_append.1 hu).elim (fun h=> .inl (hA.uov u h)) (fun h=> .inr (hA.ufv u h))) (fun _ h=>h) (by rw[hMn];exact Ps)
  exact hR _ _ _ _ _ _ _ h1 eZ (P1 hvr)
 ·rw[hq]at h1
  have Nu: ∀b,M2 b→M b:=fun b hb=>hA.bx.less b (hA.mem.zs b hb) hb
  obtain⟨ν',eZ,hvr⟩:=key Hq M [] hA.Ns (.refl w M) Nu hA.none (fun q hq=>(hA.Tc q hq).2.1) (by rw[List.append_nil];exact hA.TR)
   (fun u hu=> .inl (hA.uov u (by simpa using hu))) (fun i hi=>by simp only[keys,List.append_nil,List.map_append,List.mem_append]at hi ⊢;exact .inl hi) (Ps.flat (fun b h=> .inl h) (Te.quiet hq))
  exact hR _ _ _ _ _ _ _ h1 eZ (P1 hvr)
theorem TW(hΓ: ∀f S,S∈E.Γ f→e7 P f S)(hc:Core c σ a.tmps w M ν){args:Array Operand}{ts:Array TypeId}{g:Operand}(ho:o.op= .call {callee:= .value g,args,argTypes:=ts}){K:fG α}{f:Nat}{caps:List a6}(hg:σ.ρ g= .FE f caps){id:Nat}
  (h:xi E f (args.toList.map σ.ρ ++caps) id σ.H K=some r) (hn:dU c σ a o w M ν K r next):o.wp P a w next Q:=by
 have hgv:=hc.ev g
 rw[hg]at hgv
 simp only[VR]at hgv
 obtain⟨cs,hgv,DT⟩:=hgv
 have F8: ∀{as1:List a6} {Tf:List Value},fQ w M σ.H ν as1 Tf→fQ w M σ.H ν (as1++caps) (Tf++cs):=by
  intro as1
  induction as1 with
  |nil=>intro Tf h1;cases Tf with
   |nil=>exact DT
   |cons _ _=>simp[fQ]at h1
  |cons x as1 ih=>intro Tf h1;cases Tf with
   |nil=>simp[fQ]at h1
   |cons v Tf=>simp only[fQ]at h1;simp only[List.cons_append,fQ];exact⟨h1.1,ih h1.2⟩
 have hd:=F7 (P:=P) hΓ hc.mem (F8 (hc.evs args.toList)) h (R:=fun v' w'=>next (a.put o.dst v') w') (fun v rd ups v' w' M' ν' h1 h2 h3=>hn v rd ups v' w' M' ν' h1 h2 h3)
 have hex:(execOp a.eval o).run P w=(callFunc f (args.toList.map a.eval++cs).toArray).run P w:=by
  have:(args.toList.map a.eval++cs).toArray= #[]++args.map a.eval++cs.toArray:=by apply Array.ext';simp
  rw[this]
  simp[execOp,ho,resolve,hgv,Deferred.ofValue,invoke]
 unfold Oper.wp
 rw[hex]
 exact hd o a next Q fun v w' hv=>hv
end VM
end
section
namespace VM
open Go
variable{P:Program}{E:Env}{o:Oper}{a:Act}{w:World}{M:Nat→Prop}{ν:Nat→Value}{σ:St}{c:Ctx}{α:Type}{r:α}{next:Act→World→Prop}{Q:Exit→Act→World→Prop}
structure pN(P:Program)(E:Env):Prop extends EnvTy P E where
 ag3: ∀f S,S∈E.Γ f→e7 P f S
 mixed:P.follows .mixedOrders=true
 gF: ∀i L,E.rE i=some L→VM.gF L=true
 P3: ∀i L,E.td i=some L→VM.gF L=true
theorem Nv(hE:pN P E)(hc:Core c σ a.tmps w M ν){K:fG α}(h:pz E o σ.ρ σ.H K=some r)(hn:dU c σ a o w M ν K r next):o.wp P a w next Q:=by
 have hT:=hE.toEnvTy
 unfold pz at h
 simp only at h
 split at h
 ·rename_i x ho;exact LS hc (.inl ho) h hn
 ·rename_i x ho;exact LS hc (.inr ho) h hn
 ·rename_i x y z ho
  split at h
  ·rename_i t hx;exact TF hc ho hx h hn
  ·cases h
 ·rename_i t ho
  split at h
  ·rename_i τ ht;exact PI hT hc ho ht h hn
  ·cases h
 ·rename_i t x ho
  split at h
  ·rename_i τ ht;exact abi hT hc ho h hn
  ·cases h
 ·rename_i t ps ho
  split at h
  ·rename_i n e ht;exact D0 hT hc ho ht h hn
  ·rename_i τ hna ht;exact yv hT hc ho ht (fun n e he=>hna n e he) h hn
  ·cases h
 ·rename_i t n ps ho
  split at h
  ·rename_i e ht;exact BT hT hc ho ht h hn
  ·cases h
 ·rename_i t x ho
  split at h
  ·rename_i τ ht;exact TG hT hc ho ht h hn
  ·cases h
 ·rename_i t x y ho
  split at h
  ·rename_i τ ht;exact Nn hT hc ho ht h hn
  ·cases h
 ·rename_i x ho
  split at h
  ·rename_i id p hx;exact yt hc ho hx h hn
  ·rename_i τ z hx;exact wC hc ho hx h hn
  ·cases h
 ·rename_i b t x y t' ho;exact PQ hT hc ho h hn
 ·rename_i u t x ho;exact TL hc ho h hn
 ·rename_i s d x ho
  split at h
  ·rename_i τ k hs hd;exact J2 hT hc ho hs hd h hn
  ·cases h
 ·rename_i f first caps ho;exact FX hc ho h hn
 ·rename_i t x y ho
  split at h
  ·rename_i e ht;exact DX hT hc ho ht h hn
  ·cases h
 ·rename_i t x lo hi mx ho
  split at h
  ·rename_i τ ht;exact PX hT hc ho ht h hn
  ·cases h
 ·rename_i t x n ho
  split at h
  ·rename_i τ ht
   split at h
   ·rename_i id p hx;exact wB hT hc ho ht hx h hn
   ·rename_i υ z hx;exact uY hT hc ho ht hx h hn
   ·cases h
  ·cases h
 ·rename_i t x n ho
  split at h
  ·rename_i τ ht
   split at h
   ·rename_i υ z hx;exact PN hT hc ho ht hx h hn
   ·cases h
  ·cases h
 ·rename_i t x i ho
  split at h
  ·rename_i τ ht;exact DV hT hc ho ht h hn
  ·cases h
 ·rename_i t x i ho
  split at h
  ·rename_i τ ht;exact PU hT hc ho ht h hn
  ·cases h
 ·rename_i x i ho
  split at h
  ·rename_i vs hx
   split at h
   ·rename_i v hv;exact J1 hc ho hx hv h hn
   ·cases h
  ·cases h
 ·rename_i cl ho
  obtain⟨callee,args,ts⟩:=cl
  simp only at h
  split at h
  ·split at h
   ·rename_i x τ ha ht;exact abq hT hc ho ha ht h hn
   ·cases h
  ·split at h
   ·rename_i x y t t' ha ht
    split at h
    ·rename_i e hte;exact Nr hT hc ho ha ht hte h hn
    ·cases h
   ·cases h
  ·split at h
   ·rename_i x xs ha;exact aac hc true ho ha h hn
   ·cases h
  ·split at h
   ·rename_i x xs ha;exact aac hc false ho ha h hn
   ·cases h
  ·rename_i g
   split at h
   ·rename_i f caps hg;exact TW hE.ag3 hc ho hg h hn
   ·cases h
  ·cases h
 ·cases h
end VM
end
section
namespace VM
open Go
variable{P:Program}{E:Env}{o:Oper}{a:Act}{w:World}{M:Nat→Prop}{ν:Nat→Value}{σ:St}{c:Ctx}{α:Type}{r:α}{next:Act→World→Prop}{Q:Exit→Act→World→Prop}
theorem qk(σ:St)(d:Nat)(v:a6):(σ.put d v).T d=v:=by
 show cond (Nat.beq d d) v (σ.T d)=v
 rw[show Nat.beq d d=true from Nat.beq_refl d];rfl
theorem u9(σ:St){d i:Nat}(v:a6)(h:i≠d):(σ.put d v).T i=σ.T i:=by
 show cond (Nat.beq i d) v (σ.T i)=σ.T i
 have:Nat.beq i d=false:=by rw[←Bool.not_eq_true,Nat.beq_eq];exact h
 rw[this];rfl
theorem arA(σ:St)(d:Nat)(v:a6):(σ.put d v).H=σ.H:=rfl
theorem zI(σ:St)(d:Nat):σ.put d (σ.T d)=σ:=by
 obtain⟨T,H⟩:=σ
 unfold St.put
 congr 1
 funext i
 by_cases h:i=d
 ·subst h;show cond (Nat.beq i i) (T i) (T i)=T i;cases Nat.beq i i<;>rfl
 ·have:Nat.beq i d=false:=by rw[←Bool.not_eq_true,Nat.beq_eq];exact h
  rw[this];rfl
theorem Core.tr{tm:Array Value}(h:Core c σ tm w M ν){H':Nat→Option aR}{w':World}{M':Nat→Prop}{ν':Nat→Value}(t:Tr c σ.H w M ν H' w' M' ν'):Core c ⟨σ.T,H'⟩ tm w' M' ν':=
 ⟨t.mem,fun i=>VR.bx t.bx t.goes (h.tmp i)⟩
theorem Core.rl{tm:Array Value}(h:Core c σ tm w M ν){d:Option Nat}{x:a6}{v:Value}{io:List Nat}(hd:FF tm.size io d=true)(hx:VR w M σ.H ν x v)(ds:List Deferred):
  Core c (σ.rl d x) (({tmps:=tm,defers:=ds}:Act).put d v).tmps w M ν:=by
 cases d with
 |none=>exact h
 |some d=>
  have dT:d<tm.size:=by simp only[FF,Bool.and_eq_true,Nat.blt_eq]at hd;exact hd.1
  refine⟨h.mem,fun i=> ?_⟩
  show VR w M σ.H ν ((σ.put d x).T i) ((tm.setIfInBounds d v).getD i undef)
  by_cases hi:i=d
  ·subst hi
   rw[qk]
   simp[Array.getD,dT]
   exact hx
  ·rw[u9 _ _ hi]
   have:=h.tmp i
   have he:(tm.setIfInBounds d v).getD i undef=tm.getD i undef:=by
    rw[Array.getD_eq_getD_getElem?,Array.getD_eq_getD_getElem?,Array.getElem?_setIfInBounds_ne (Ne.symm hi)]
   rw[he];exact this
def Inv(c:Ctx)(E:Env)(σ:St)(a:Act)(w:World):Prop:=(∃M ν,Core c σ a.tmps w M ν)∧a.tmps.size=E.nt∧a.defers=[]∧ ∀i∈E.io,a.tmps.getD i undef=c.arg i
theorem F9(a:Act)(d:Option Nat)(v:Value):(a.put d v).tmps.size=a.tmps.size:=by
 cases d<;>simp[Act.put]
theorem put_defers(a:Act)(d:Option Nat)(v:Value):(a.put d v).defers=a.defers:=by
 cases d<;>rfl
theorem L4{d:Option Nat}{v:Value}{io:List Nat}{n:Nat}(hd:FF n io d=true){i:Nat}(hi:i∈io):(a.put d v).tmps.getD i undef=a.tmps.getD i undef:=by
 cases d with
 |none=>rfl
 |some d=>
  simp only[FF,Bool.and_eq_true,List.all_eq_true]at hd
  have h1:=hd.2 i hi
  have gi:i≠d:=by
   intro e;subst e
   simp at h1
  show(a.tmps.setIfInBounds d v).getD i undef=_
  rw[Array.getD_eq_getD_getElem?,Array.getD_eq_getD_getElem?,Array.getElem?_setIfInBounds_ne (Ne.symm gi)]
theorem Inv.bool(h:Inv c E σ a w){x:Operand}{b:Bool}(hx:σ.ρ x= .val .bool b):a.eval x= .bool b:=by
 obtain⟨⟨M,ν,hc⟩,_,_,_⟩:=h
 have:=hc.ev x
 rw[hx]at this
 exact this.bool
theorem xy(hE:pN P E){ops:Array Oper}(hI:Inv c E σ a w){K:St→List Nat→List Nat→Option α}(h:pC E ops.toList o σ K=some r)
  (hn: ∀σ' a' w' rd wr,K σ' rd wr=some r→Inv c E σ' a' w'→next a' w'):
  if Region.wanted o (yielded ops a.tmps)then o.wp P a w next Q else next (a.put o.dst undef) w:=by
 unfold pC at h
 obtain⟨hd,h⟩:=bK h
 have cI:pz E o σ.ρ σ.H (fun v rd ups=>K ((σ.rC ups).rl o.dst v) rd (ups.map (·.1)))=some r→o.wp P a w next Q:=by
  intro h
  obtain⟨⟨M,ν,hc⟩,hs,abM,tj⟩:=hI
  refine Nv hE hc h fun v rd ups v' w' M' ν' hK eZ hV=> ?_
  refine hn _ _ _ _ _ hK ⟨⟨M',ν',?_⟩,by rw[F9,hs],by rw[put_defers,abM],fun i hi=>(L4 hd hi).trans (tj i hi)⟩
  have h1:=hc.tr eZ
  have h2:σ.rC ups=⟨σ.T,b8 σ.H ups⟩:=by rw[←JY,←JZ ups σ]
  rw[h2]
  exact h1.rl (by rw[hs];exact hd) hV a.defers
 have oN: ∀rd wr,K (σ.rl o.dst .PD) rd wr=some r→next (a.put o.dst undef) w:=by
  intro rd wr h
  obtain⟨⟨M,ν,hc⟩,hs,abM,tj⟩:=hI
  refine hn _ _ _ _ _ h ⟨⟨M,ν,hc.rl (by rw[hs];exact hd) (by simp[VR]) a.defers⟩,by rw[F9,hs],by rw[put_defers,abM],fun i hi=>(L4 hd hi).trans (tj i hi)⟩
 simp only at h
 split at h
 ·rename_i hg
  have:Region.wanted o (yielded ops a.tmps)=true:=by simp[Region.wanted,hg]
  rw[if_pos this]
  exact cI h
 ·rename_i j want hg
  split at h
  ·cases h
  ·rename_i t ht
   have ht':(ops[j]?).bind (·.dst)=some t:=by rw[←Array.getElem?_toList];exact ht
   have hy: ∀b,σ.T t= .val .bool b→yielded ops a.tmps j=some b:=by
    intro b hb
    obtain⟨⟨M,ν,hc⟩,hs,_,_⟩:=hI
    have h1:=hc.tmp t
    rw[hb]at h1
    have h1:=h1.bool
    have h2:a.tmps[t]? =some (.bool b):=by
     rw[Array.getD_eq_getD_getElem?]at h1
     cases h3:a.tmps[t]? with
     |none=>rw[h3]at h1;simp[undef]at h1
     |some v=>rw[h3]at h1;simpa using h1
    simp[yielded,ht',h2]
   split at h
   ·rename_i b hb
    have mA:σ.put t (.val .bool b)=σ:=by rw[←hb];exact zI σ t
    have hw:=hy b hb
    cases want<;>cases b
    ·rw[if_pos (by simp[Region.wanted,hg,hw])]
     rw[mA]at h;exact cI h
    ·rw[if_neg (by simp[Region.wanted,hg,hw])]
     rw[mA]at h;exact oN _ _ h
    ·rw[if_neg (by simp[Region.wanted,hg,hw])]
     rw[mA]at h;exact oN _ _ h
    ·rw[if_pos (by simp[Region.wanted,hg,hw])]
     rw[mA]at h;exact cI h
   ·rename_i hb
    have yq: ¬Region.wanted o (yielded ops a.tmps)=true:=by
     obtain⟨⟨M,ν,hc⟩,hs,_,_⟩:=hI
     have h1:=hc.tmp t
     rw[hb]at h1
     simp only[VR]at h1
     have h2: ∀b,a.tmps[t]? ≠some (.bool b):=by
      intro b dF
      rw[Array.getD_eq_getD_getElem?,dF]at h1
      simp[undef]at h1
     have h3:yielded ops a.tmps j=none:=by
      unfold yielded
      rw[ht']
      show(match a.tmps[t]? with|some (.bool b)=>some b|_=>none)=none
      split
      ·rename_i b dF;exact absurd dF (h2 b)
      ·rfl
     simp[Region.wanted,hg,h3]
    rw[if_neg yq]
    exact oN _ _ h
   ·cases h
theorem zJ(hE:pN P E){ops:Array Oper}: ∀(l:List Oper) (i:Nat) (σ:St) (lg:Log) (a:Act) (w:World) (K:St→Log→Option α),Inv c E σ a w→Nc E ops.toList l i σ lg K=some r→
  (∀σ' lg' a' w',K σ' lg'=some r→Inv c E σ' a' w'→Q .normal a' w')→wpList P ops Q l a w
 |[],i,σ,lg,a,w,K,hI,h,hn=>hn _ _ _ _ h hI
 |o::l,i,σ,lg,a,w,K,hI,h,hn=>by
  unfold Nc at h
  refine wpList_step fun K' hK'=> ?_
  exact xy hE hI h fun σ' a' w' rd wr h' tE=>hK' _ _ (zJ hE l (i+1) σ' _ a' w' K tE h' hn)
theorem Ga(hI:Inv c E σ a w){x:Operand}{A B:St→Option α}(h:Cn E x σ A B=some r): ∃b,a.eval x= .bool b∧(if b then A σ else B σ)=some r:=by
 unfold Cn at h
 split at h
 ·rename_i b hb
  refine⟨b,hI.bool hb,?_⟩
  split at h
  ·rename_i t
   have hb:σ.T t= .val .bool b:=hb
   have mA:σ.put t (.val .bool b)=σ:=by rw[←hb];exact zI σ t
   cases b
   ·rw[mA]at h;exact h
   ·rw[mA]at h;exact h
  ·cases b<;>exact h
 ·cases h
end VM
end
section
namespace VM
open Go
variable{P:Program}{E:Env}{o:Oper}{a:Act}{w:World}{M:Nat→Prop}{ν:Nat→Value}{σ:St}{c:Ctx}{α:Type}{r:α}{next:Act→World→Prop}{Q:Exit→Act→World→Prop}
def mix{β:Type}(A B:Nat→β):Nat→β:=fun i=>if i%2=0 then A (i/2)else B (i/2)
theorem e8{β:Type}(A B:Nat→β)(i:Nat):mix A B (2*i)=A i:=by
 unfold mix
 rw[if_pos (by omega),show 2*i/2=i from by omega]
theorem q9{β:Type}(A B:Nat→β)(i:Nat):mix A B (2*i+1)=B i:=by
 unfold mix
 rw[if_neg (by omega),show(2*i+1)/2=i from by omega]
theorem af4{β:Type}{A B A' B':Nat→β}(hl: ∀i,A i=A' i)(hr: ∀i,B i=B' i):mix A B=mix A' B':=by
 funext i;unfold mix;rw[hl,hr]
def aR.re(f:Nat→Nat):aR→aR
 | .dW τ x p j=> .dW τ x p (f j)
 |e=>e
theorem ER.re{v:Value}{f:Nat→Nat}{e:aR}:ER w M v (e.re f)↔ER w M v e:=by cases e<;>simp[aR.re,ER]
theorem aR.nA{f:Nat→Nat}{e:aR}:(e.re f).mut↔e.mut:=by cases e<;>simp[aR.re,aR.mut]
theorem aR.L7{f g:Nat→Nat}{e e':aR}:(e.re f).iD (e'.re g)↔e.iD e':=by cases e<;>cases e'<;>simp[aR.re,aR.iD]
def ml(i:Nat):Nat:=2*i
def mr(i:Nat):Nat:=2*i+1
def fH(A B:Nat→Option aR):Nat→Option aR:=fun i=>if i%2=0 then(A (i/2)).map (aR.re ml)else(B (i/2)).map (aR.re mr)
theorem tT(A B:Nat→Option aR)(i:Nat):fH A B (2*i)=(A i).map (aR.re ml):=by
 unfold fH
 rw[if_pos (by omega),show 2*i/2=i from by omega]
theorem qm(A B:Nat→Option aR)(i:Nat):fH A B (2*i+1)=(B i).map (aR.re mr):=by
 unfold fH
 rw[if_neg (by omega),show(2*i+1)/2=i from by omega]
theorem fc{A B:Nat→Option aR}{i:Nat}{e:aR}(h:A i=some e):fH A B (2*i)=some (e.re ml):=by rw[tT,h];rfl
theorem qn{A B:Nat→Option aR}{i:Nat}{e:aR}(h:B i=some e):fH A B (2*i+1)=some (e.re mr):=by rw[qm,h];rfl
theorem D5{A B:Nat→Option aR}{i:Nat}:fH A B (2*i)≠none↔A i≠none:=by rw[tT];cases A i<;>simp
theorem D6{A B:Nat→Option aR}{i:Nat}:fH A B (2*i+1)≠none↔B i≠none:=by rw[qm];cases B i<;>simp
theorem nB(A B:Nat→Option aR)(i:Nat)(v:Option aR):bs (fH A B) (2*i) (v.map (aR.re ml))=fH (bs A i v) B:=by
 funext k
 by_cases hk:k=2*i
 ·subst hk;rw[ak,tT,ak]
 ·rw[an _ _ hk]
  unfold fH
  by_cases h2:k%2=0
  ·rw[if_pos h2,if_pos h2,an _ _ (by omega)]
  ·rw[if_neg h2,if_neg h2]
theorem zK(A B:Nat→Option aR)(i:Nat)(v:Option aR):bs (fH A B) (2*i+1) (v.map (aR.re mr))=fH A (bs B i v):=by
 funext k
 by_cases hk:k=2*i+1
 ·subst hk;rw[ak,qm,ak]
 ·rw[an _ _ hk]
  unfold fH
  by_cases h2:k%2=0
  ·rw[if_pos h2,if_pos h2]
  ·rw[if_neg h2,if_neg h2,an _ _ (by omega)]
theorem zL(A B:Nat→Value)(i:Nat)(v:Value):cr (mix A B) (2*i+1) v=mix A (cr B i v):=by
 funext k
 unfold cr mix
 by_cases hk:k=2*i+1
 ·subst hk;rw[if_pos rfl,if_neg (by omega)]
  show v=if(2*i+1)/2=i then v else B ((2*i+1)/2)
  rw[if_pos (by omega)]
 ·rw[if_neg hk]
  by_cases h2:k%2=0
  ·rw[if_pos h2,if_pos h2]
  ·rw[if_neg h2,if_neg h2]
   show B (k/2)=if k/2=i then v else B (k/2)
   rw[if_neg (by omega)]
theorem Mem.left{H A:Nat→Option aR}{νA:Nat→Value}(h:Mem c (fH H A) w M (mix ν νA)):Mem c H w M ν:=
 ⟨fun i e hi=>by have:=h.jj (2*i) _ (fc hi);rw[e8]at this;exact ER.re.1 this,
  fun i j e e' b oH hi hm hj gB=>by have:=h.wg (2*i) (2*j) _ _ b (by omega) (fc hi) (aR.nA.2 hm) (fc hj) (aR.nA.2 gB);rwa [e8,e8]at this,
  fun i e b hi hm=>by have:=h.new (2*i) _ b (fc hi) (aR.nA.2 hm);rwa [e8]at this,
  fun i e l b hi=>by have:=h.uE (2*i) e l b (fc hi);rwa [e8]at this,
  fun i τ x p j hi=>by
   obtain⟨h1,b,h2,h3⟩:=h.dW (2*i) τ x p (ml j) (fc hi)
   rw[e8]at h2
   unfold ml at h1 h3
   rw[e8]at h3
   exact⟨D5.1 h1,b,h2,h3⟩,
  h.sub,h.zs,h.frame,h.size,h.rr,h.os,h.tape,h.output⟩
theorem Mem.right{H A:Nat→Option aR}{νA:Nat→Value}(h:Mem c (fH H A) w M (mix ν νA)):Mem c A w M νA:=
 ⟨fun i e hi=>by have:=h.jj (2*i+1) _ (qn hi);rw[q9]at this;exact ER.re.1 this,
  fun i j e e' b oH hi hm hj gB=>by have:=h.wg (2*i+1) (2*j+1) _ _ b (by omega) (qn hi) (aR.nA.2 hm) (qn hj) (aR.nA.2 gB);rwa [q9,q9]at this,
  fun i e b hi hm=>by have:=h.new (2*i+1) _ b (qn hi) (aR.nA.2 hm);rwa [q9]at this,
  fun i e l b hi=>by have:=h.uE (2*i+1) e l b (qn hi);rwa [q9]at this,
  fun i τ x p j hi=>by
   obtain⟨h1,b,h2,h3⟩:=h.dW (2*i+1) τ x p (mr j) (qn hi)
   rw[q9]at h2
   unfold mr at h1 h3
   rw[q9]at h3
   exact⟨D6.1 h1,b,h2,h3⟩,
  h.sub,h.zs,h.frame,h.size,h.rr,h.os,h.tape,h.output⟩
theorem Mem.TX{H:Nat→Option aR}(νA:Nat→Value)(h:Mem c H w M ν):Mem c (fH H (fun _=>none)) w M (mix ν νA):=by
 have key: ∀i e,fH H (fun _=>none) i=some e→ ∃j e0,i=2*j∧H j=some e0∧e=e0.re ml:=by
  intro i e hi
  unfold fH at hi
  by_cases h2:i%2=0
  ·rw[if_pos h2]at hi
   obtain⟨e0,h3,h4⟩:=Option.map_eq_some_iff.1 hi
   exact⟨i/2,e0,by omega,h3,h4.symm⟩
  ·rw[if_neg h2]at hi;cases hi
 refine⟨fun i e hi=> ?_,fun i j e e' b oH hi hm hj gB=> ?_,fun i e b hi hm=> ?_,fun i e l b hi=> ?_,fun i τ x p j hi=> ?_,h.sub,h.zs,h.frame,h.size,h.rr,h.os,h.tape,h.output⟩
 ·obtain⟨j,e0,rfl,hj,rfl⟩:=key i e hi;rw[e8];exact ER.re.2 (h.jj j e0 hj)
 ·obtain⟨i',e1,rfl,kk,rfl⟩:=key i e hi;obtain⟨j',e2,rfl,TY,rfl⟩:=key j e' hj
  rw[e8,e8];exact h.wg i' j' e1 e2 b (by omega) kk (aR.nA.1 hm) TY (aR.nA.1 gB)
 ·obtain⟨j,e0,rfl,hj,rfl⟩:=key i e hi;rw[e8];exact h.new j e0 b hj (aR.nA.1 hm)
 ·obtain⟨j,e0,rfl,hj,he⟩:=key i _ hi
  cases e0<;>simp only[aR.re]at he<;>cases he
  rw[e8];exact h.uE j e l b hj
 ·obtain⟨k,e0,rfl,hk,he⟩:=key i _ hi
  cases e0<;>simp only[aR.re]at he<;>cases he
  obtain⟨h1,b,h2,h3⟩:=h.dW k _ _ _ _ hk
  refine⟨D5.2 h1,b,by rw[e8];exact h2,?_⟩
  unfold ml
  rw[e8];exact h3
theorem ph.left{H A H' A':Nat→Option aR}{νA ν' Nw:Nat→Value}(g:ph (fH H A) (mix ν νA) (fH H' A') (mix ν' Nw)):ph H ν H' ν':=
 ⟨fun i e hi=>by
   obtain⟨e',h1,h2⟩:=g.jj (2*i) _ (fc hi)
   rw[tT]at h1
   obtain⟨e0,h3,rfl⟩:=Option.map_eq_some_iff.1 h1
   exact⟨e0,h3,aR.L7.1 h2⟩,
  fun i hi=>by have:=g.head (2*i) (D5.2 hi);rwa [e8,e8]at this⟩
theorem ph.right{H A H' A':Nat→Option aR}{νA ν' Nw:Nat→Value}(g:ph (fH H A) (mix ν νA) (fH H' A') (mix ν' Nw)):ph A νA A' Nw:=
 ⟨fun i e hi=>by
   obtain⟨e',h1,h2⟩:=g.jj (2*i+1) _ (qn hi)
   rw[qm]at h1
   obtain⟨e0,h3,rfl⟩:=Option.map_eq_some_iff.1 h1
   exact⟨e0,h3,aR.L7.1 h2⟩,
  fun i hi=>by have:=g.head (2*i+1) (D6.2 hi);rwa [q9,q9]at this⟩
theorem Mem.move{H A:Nat→Option aR}{νA:Nat→Value}(h:Mem c (fH H A) w M (mix ν νA)){i j:Nat}{e e1:aR}(hi:H i=some e)(hm:e.mut)(hj:A j=none)
  (J0:(e1=e∧ ∀τ x p k,e≠ .dW τ x p k)∨ ∃τ x p k k',e= .dW τ x p k∧e1= .dW τ x p k'∧A k'≠none∧νA k'=ν k):
  Tr c (fH H A) w M (mix ν νA) (fH (bs H i (some .gone)) (bs A j (some e1))) w M (mix ν (cr νA j (ν i))):=by
 have hg:=Tr.gone h (2*i)
 have hgo:(some aR.gone)=(some aR.gone).map (aR.re ml):=rfl
 rw[hgo,nB]at hg
 have Pr:=fc (B:=A) hi
 have hER:ER w M (ν i) (e1.re mr):=by
  have h1:=h.jj (2*i) _ Pr
  rw[e8]at h1
  have h1:=ER.re.1 h1
  rcases J0 with⟨rfl,_⟩|⟨τ,x,p,k,k',rfl,rfl,_,_⟩
  ·exact ER.re.2 h1
  ·exact h1
 have h2:=Mem.xw hg.mem (id:=2*j+1) (v:=ν i) (e:=e1.re mr) (fun e' tC=>by rw[qm,hj]at tC;cases tC)
  hER
  (fun b hb k e' hk gB=>by
   by_cases Td:k=2*i
   ·subst Td;rw[tT,ak]at hk;cases hk;simp[aR.re,aR.mut]at gB
   ·have hk3:fH H A k=some e':=by
     have:=congrFun (nB H A i (some .gone)) k
     rw[an _ _ Td]at this
     rw[this];exact hk
    have:=h.wg (2*i) k _ e' b (Ne.symm Td) Pr (aR.nA.2 hm) hk3 gB
    rw[e8]at this
    exact this hb)
  (fun b hb=>by have:=h.new (2*i) _ b Pr (aR.nA.2 hm);rw[e8]at this;exact this hb)
  (fun b e0 l0 he hb=>by
   rcases J0 with⟨rfl,_⟩|⟨τ,x,p,k,k',rfl,rfl,_,_⟩
   ·cases e1<;>simp only[aR.re]at he<;>cases he
    have:=h.uE (2*i) e0 l0 b Pr;rw[e8]at this;exact this hb
   ·simp[aR.re]at he)
  (.inl (by rw[qm,hj];rfl))
  (fun τ x p k he=>by
   rcases J0 with⟨rfl,hn⟩|⟨τ,x,p,k,k',rfl,rfl,hk,hνk⟩
   ·cases e1<;>simp only[aR.re]at he<;>cases he
    exact absurd rfl (hn _ _ _ _)
   ·simp only[aR.re]at he
    cases he
    obtain⟨_,b,h4,h5⟩:=h.dW (2*i) _ _ _ _ Pr
    rw[e8]at h4
    have hkj:k'≠j:=fun e=>hk (e▸hj)
    refine⟨?_,b,h4,?_⟩
    ·rw[an _ _ (by unfold mr;omega)]
     unfold mr
     exact D6.2 hk
    ·unfold ml at h5
     rw[e8]at h5
     rw[h5,←hνk]
     have:cr (mix ν νA) (2*j+1) (ν i) (mr k')=mix ν νA (mr k'):=by
      unfold cr mr;rw[if_neg (by omega)]
     rw[this];unfold mr;rw[q9])
 have TZ:some (e1.re mr)=(some e1).map (aR.re mr):=rfl
 rw[TZ,zK,zL]at h2
 refine⟨h2,.refl w M,⟨fun k e' hk=> ?_,fun k hk=> ?_⟩⟩
 ·by_cases h3:k%2=0
  ·obtain⟨k',rfl⟩: ∃k',k=2*k':=⟨k/2,by omega⟩
   by_cases zH:k'=i
   ·subst zH;exact⟨.gone,by rw[tT,ak];rfl,aR.kE _⟩
   ·exact⟨e',by rw[tT]at hk ⊢;rw[an _ _ zH];exact hk,.refl e'⟩
  ·obtain⟨k',rfl⟩: ∃k',k=2*k'+1:=⟨k/2,by omega⟩
   rw[qm]at hk ⊢
   have zH:k'≠j:=fun e=>by rw[e,hj]at hk;cases hk
   exact⟨e',by rw[an _ _ zH];exact hk,.refl e'⟩
 ·by_cases h3:k%2=0
  ·obtain⟨k',rfl⟩: ∃k',k=2*k':=⟨k/2,by omega⟩
   rw[e8,e8]
  ·obtain⟨k',rfl⟩: ∃k',k=2*k'+1:=⟨k/2,by omega⟩
   rw[q9,q9]
   have zH:k'≠j:=fun e=>by rw[qm,e,hj]at hk;exact hk rfl
   simp[cr,zH]
theorem Mem.fresh{H A:Nat→Option aR}{νA:Nat→Value}(h:Mem c (fH H A) w M (mix ν νA)){j:Nat}(hj:A j=none)(e:Ty)(ad:Option Addr):
  Tr c (fH H A) w M (mix ν νA) (fH H (bs A j (some (.own e [])))) w M (mix ν (cr νA j (.slice ad 0 0))):=by
 have:=Tr.nothing h (id:=2*j+1) (by rw[qm,hj];rfl) e ad
 have TZ:some (aR.own e [])=(some (aR.own e [])).map (aR.re mr):=rfl
 rw[TZ,zK,zL]at this
 exact this
structure Cut(c:Ctx)(σ acc:St)(tm:Array Value)(w:World)(M:Nat→Prop)(ν νA:Nat→Value):Prop where
 mem:Mem c (fH σ.H acc.H) w M (mix ν νA)
 src: ∀i,VR w M σ.H ν (σ.T i) (tm.getD i undef)
 dst: ∀i,VR w M acc.H νA (acc.T i) (tm.getD i undef)
theorem Cut.tr{acc:St}{tm:Array Value}{νA:Nat→Value}(h:Cut c σ acc tm w M ν νA){H' A':Nat→Option aR}{M':Nat→Prop}{Nw:Nat→Value}(t:Tr c (fH σ.H acc.H) w M (mix ν νA) (fH H' A') w M' (mix ν Nw)){s:Nat}{x:a6}(hx:VR w M' A' Nw x (tm.getD s undef)):
  Cut c ⟨σ.T,H'⟩ ⟨(acc.put s x).T,A'⟩ tm w M' ν Nw:=by
 refine⟨t.mem,fun i=>VR.bx t.bx t.goes.left (h.src i),fun i=> ?_⟩
 show VR w M' A' Nw ((acc.put s x).T i) _
 by_cases hi:i=s
 ·subst hi;rw[qk];exact hx
 ·rw[u9 _ _ hi];exact VR.bx t.bx t.goes.right (h.dst i)
def P4(A:Nat→Option aR)(s:Nat):Prop:=A (16*s+13)=none∧A (16*s+14)=none∧A (16*s+15)=none
theorem iY{q:Nat×CM}{L:List (Nat×CM)}{A:Nat→Option aR}(hF:gF (q::L)=true)(hN: ∀p∈q::L,P4 A p.1):
  gF L=true∧(∀p∈L,P4 A p.1)∧
   ∀(A':Nat→Option aR) (d:Nat) (v:Option aR),(d=16*q.1+13∨d=16*q.1+14∨d=16*q.1+15)→(∀p∈L,P4 A' p.1)→ ∀p∈L,P4 (bs A' d v) p.1:=by
 unfold gF at hF
 rw[Bool.and_eq_true,List.all_eq_true]at hF
 refine⟨hF.2,fun p hp=>hN p (List.mem_cons_of_mem _ hp),fun A' d v hd hN' p hp=> ?_⟩
 have gi:p.1≠q.1:=fun e=>by
  have:=hF.1 p hp
  rw[e]at this
  simp at this
 obtain⟨h1,h2,h3⟩:=hN' p hp
 exact⟨by rw[an _ _ (by omega)];exact h1,by rw[an _ _ (by omega)];exact h2,by rw[an _ _ (by omega)];exact h3⟩
theorem dh{tm:Array Value}: ∀(L:List (Nat×CM)) (σ acc:St) (M:Nat→Prop) (νA:Nat→Value) (K:St→Option α),Cut c σ acc tm w M ν νA→gF L=true→(∀q∈L,P4 acc.H q.1)→eU L σ acc K=some r→
  ∃T0 M' Nw,K T0=some r∧Core c T0 tm w M' Nw
 |[],σ,acc,M,νA,K,hC,_,_,h=>⟨acc,M,νA,h,hC.mem.right,hC.dst⟩
 |(s,.v τ)::L,σ,acc,M,νA,K,hC,hF,hN,h=>by
  obtain⟨Fu,JG,Nx⟩:=iY hF hN
  unfold eU at h
  obtain⟨y,rd,ups,h,hy⟩:=y3 hC.mem.left (hC.src s) h
  rcases hy with⟨rfl,hV⟩|⟨id,e,l,rfl,aU,hV⟩
  ·exact dh L σ _ M νA K (hC.tr (.refl hC.mem) (x:= .val τ y) (by simp only[VR];exact hV)) Fu JG h
  ·obtain⟨M2,eZ,_,DU⟩:=Tr.freeze hC.mem (id:=2*id) (fc aU)
   have TZ:some (aR.la e l)=(some (aR.la e l)).map (aR.re ml):=rfl
   rw[TZ,nB]at eZ
   refine dh L _ _ M2 νA K (hC.tr eZ (x:= .val τ y) ?_) Fu JG h
   simp only[VR]
   exact hV M2 (fun b=>by rw[DU b,e8])
 |(s,.own e)::L,σ,acc,M,νA,K,hC,hF,hN,h=>by
  obtain⟨Fu,JG,Nx⟩:=iY hF hN
  unfold eU at h
  have hs:=hC.src s
  split at h
  ·rename_i hT
   have hj:=(hN _ List.mem_cons_self).2.1
   rw[hT]at hs
   obtain⟨ad,hv⟩:=VR.emp.1 hs
   refine dh L σ _ M _ K (hC.tr (hC.mem.fresh hj e ad) (x:= .ref (16*s+14)) ?_) Fu (Nx _ _ _ (.inr (.inl rfl)) JG) h
   simp only[VR]
   exact⟨by rw[ak];simp,by rw[hv];simp[cr]⟩
  ·rename_i id hT
   rw[hT]at hs
   simp only[VR]at hs
   split at h
   ·rename_i e' l aU
    obtain⟨e1,h⟩:=bc h
    cases e1
    have hj:=(hN _ List.mem_cons_self).2.1
    refine dh L _ _ M _ K (hC.tr (hC.mem.move aU trivial hj (.inl ⟨rfl,fun _ _ _ _=>by simp⟩)) (x:= .ref (16*s+14)) ?_) Fu (Nx _ _ _ (.inr (.inl rfl)) JG) h
    simp only[VR]
    exact⟨by rw[ak];simp,by rw[hs.2];simp[cr]⟩
   ·cases h
  ·cases h
 |(s,.obj τ)::L,σ,acc,M,νA,K,hC,hF,hN,h=>by
  obtain⟨Fu,JG,Nx⟩:=iY hF hN
  unfold eU at h
  have hs:=hC.src s
  split at h
  ·rename_i id hT
   rw[hT]at hs
   split at h
   ·rename_i υ x aU
    obtain⟨e1,h⟩:=bc h
    subst e1
    have hj:=(hN _ List.mem_cons_self).2.1
    simp only[VR]at hs
    obtain⟨e,he,kf⟩:=hs
    rw[aU]at he;cases he
    simp only[AR]at kf
    obtain⟨_,b,hb,hv⟩:=kf
    refine dh L _ _ M _ K (hC.tr (hC.mem.move aU trivial hj (.inl ⟨rfl,fun _ _ _ _=>by simp⟩)) (x:= .fP (16*s+14) []) ?_) Fu (Nx _ _ _ (.inr (.inl rfl)) JG) h
    simp only[VR]
    exact⟨_,ak _ _ _,trivial,b,by simp[cr,hb],hv⟩
   ·
    rename_i υ x q k aU
    obtain⟨z,ups,M2,hK,eZ,ag4,b,cs,t,hb,hg,DU,iq⟩: ∃z ups M2,ch υ τ z (fun y=>eU L ((σ.rC ups).iv id (some .gone)) ((acc.put s (.fP (16*s+14) [])).iv (16*s+14) (some (.obj τ y))) K)=some r∧
      Tr c (fH σ.H acc.H) w M (mix ν νA) (fH (b8 σ.H ups) acc.H) w M2 (mix ν νA)∧b8 σ.H ups id=some (.dW υ x q k)∧ ∃b cs t,ν id= .pointer (some ⟨b,0,none⟩)∧w.heap[b]? =some (.cells cs t (0,0))∧M2 b∧Rd w M2 υ cs.toList z:=by
     have ag5:=fc (B:=acc.H) aU
     unfold yj at h
     split at h
     ·rename_i e l hk
      have gi:id≠k:=fun e=>by rw[e,hk]at aU;cases aU
      obtain⟨z,ups,M2,hK,eZ,_,hc2,b,cs,t,hb,hg,DU,iq⟩:=tQ (H:=fH σ.H acc.H) hC.mem (id:=2*id) (j:=2*k) (x:=x) (q:=q)
       (k:=fun z _=>ch υ τ z fun y=>eU L ((σ.rC [(k,some (.la e l))]).iv id (some .gone)) ((acc.put s (.fP (16*s+14) [])).iv (16*s+14) (some (.obj τ y))) K) ag5 (by
        unfold yj
        rw[fc hk]
        exact h)
      rw[e8]at hb
      rcases hc2 with⟨e2,l2,h2,_⟩|⟨e2,l2,h2,rfl⟩
      ·rw[fc hk]at h2;simp[aR.re]at h2
      ·rw[fc hk]at h2
       simp only[aR.re,Option.some.injEq]at h2
       have TZ:some (aR.la e l)=(some (aR.la e l)).map (aR.re ml):=rfl
       have rM:Tr c (fH σ.H acc.H) w M (mix ν νA) (bs (fH σ.H acc.H) (2*k) (some (.la e l))) w M2 (mix ν νA):=by
        cases h2;exact eZ
       rw[TZ,nB]at rM
       exact⟨z,_,M2,hK,rM,by show bs σ.H k _ id=_;rw[an _ _ gi];exact aU,b,cs,t,hb,hg,DU,iq⟩
     ·rename_i e l hk
      obtain⟨z,ups,M2,hK,eZ,_,hc2,b,cs,t,hb,hg,DU,iq⟩:=tQ (H:=fH σ.H acc.H) hC.mem (id:=2*id) (j:=2*k) (x:=x) (q:=q)
       (k:=fun z _=>ch υ τ z fun y=>eU L ((σ.rC []).iv id (some .gone)) ((acc.put s (.fP (16*s+14) [])).iv (16*s+14) (some (.obj τ y))) K) ag5 (by
        unfold yj
        rw[fc hk]
        exact h)
      rw[e8]at hb
      rcases hc2 with⟨e2,l2,h2,rfl⟩|⟨e2,l2,h2,_⟩
      ·exact⟨z,[],M2,hK,eZ,aU,b,cs,t,hb,hg,DU,iq⟩
      ·rw[fc hk]at h2;simp[aR.re]at h2
     ·cases h
    obtain⟨e1,hK⟩:=bc hK
    subst e1
    have hC2:Cut c ⟨σ.T,b8 σ.H ups⟩ acc tm w M2 ν νA:=⟨eZ.mem,fun i=>VR.bx eZ.bx eZ.goes.left (hC.src i),fun i=>VR.bx eZ.bx eZ.goes.right (hC.dst i)⟩
    have ru:=Tr.Ng (e':= .obj υ z) eZ.mem (fc ag4) trivial trivial rfl (fun _ _=>by simp) (by rw[e8];simp only[ER];exact⟨b,cs,t,hb,hg,DU,iq⟩) (fun _ _ _ _ h=>by cases h)
    have TZ:some (aR.obj υ z)=(some (aR.obj υ z)).map (aR.re ml):=rfl
    rw[TZ,nB]at ru
    have hC3:Cut c ⟨σ.T,bs (b8 σ.H ups) id (some (.obj υ z))⟩ acc tm w M2 ν νA:=⟨ru.mem,fun i=>VR.bx ru.bx ru.goes.left (hC2.src i),fun i=>VR.bx ru.bx ru.goes.right (hC2.dst i)⟩
    have hj:=(hN _ List.mem_cons_self).2.1
    simp only[VR]at hs
    obtain⟨e,he,kf⟩:=hs
    rw[aU]at he;cases he
    simp only[AR]at kf
    obtain⟨_,b',dF,hv⟩:=kf
    rw[hb]at dF;cases dF
    have hmv:=hC3.mem.move (ak _ _ _) trivial hj (.inl ⟨rfl,fun _ _ _ _=>by simp⟩)
    rw[tP]at hmv
    have JA:(σ.rC ups).iv id (some .gone)=⟨σ.T,bs (b8 σ.H ups) id (some .gone)⟩:=by
     have h2:σ.rC ups=⟨σ.T,b8 σ.H ups⟩:=by rw[←JY,←JZ ups σ]
     rw[h2];rfl
    rw[JA]at hK
    refine dh L _ _ M2 _ K (hC3.tr hmv (x:= .fP (16*s+14) []) ?_) Fu (Nx _ _ _ (.inr (.inl rfl)) JG) hK
    simp only[VR]
    exact⟨_,ak _ _ _,trivial,b,by simp[cr,hb],hv⟩
   ·cases h
  ·cases h
 |(s,.dW τ q e)::L,σ,acc,M,νA,K,hC,hF,hN,h=>by
  obtain⟨Fu,JG,Nx⟩:=iY hF hN
  unfold eU at h
  have hs:=hC.src s
  split at h
  ·rename_i id hT
   rw[hT]at hs
   split at h
   ·rename_i υ x q' k aU
    obtain⟨hpq,h1⟩:=bK h
    clear h
    have:=wx hpq
    subst this
    split at h1
    ·rename_i e' l hk
     obtain⟨e1,h2⟩:=bc h1
     clear h1
     subst e1
     obtain⟨e2,h⟩:=bc h2
     cases e2
     have gi:id≠k:=fun e=>by rw[e,hk]at aU;cases aU
     obtain⟨amB,amC,_⟩:=hN _ List.mem_cons_self
     simp only[VR]at hs
     obtain⟨e,he,kf⟩:=hs
     rw[aU]at he;cases he
     simp only[AR]at kf
     obtain⟨_,b,hb,hv⟩:=kf
     have pG:=hC.mem.move hk trivial amB (.inl ⟨rfl,fun _ _ _ _=>by simp⟩)
     have ma:bs σ.H k (some .gone) id=some (.dW υ x q k):=by rw[an _ _ gi];exact aU
     have uS:=pG.mem.move ma trivial (j:=16*s+14) (e1:= .dW υ x q (16*s+13)) (by rw[an _ _ (by omega)];exact amC)
      (.inr ⟨υ,x,q,k,16*s+13,rfl,rfl,by rw[ak];simp,by simp[cr]⟩)
     refine dh L _ _ M _ K (hC.tr (pG.trans uS) (s:=s) (x:= .fP (16*s+14) []) ?_) Fu (Nx _ _ _ (.inr (.inl rfl)) (Nx _ _ _ (.inl rfl) JG)) h
     simp only[VR]
     exact⟨_,ak _ _ _,trivial,b,by simp[cr,hb],hv⟩
    ·cases h1
   ·cases h
  ·cases h
 |(s,.same s')::L,σ,acc,M,νA,K,hC,hF,hN,h=>by
  obtain⟨Fu,JG,Nx⟩:=iY hF hN
  unfold eU at h
  split at h
  ·rename_i i j j' h1 h2 h3
   obtain⟨hb,h⟩:=bK h
   have hb:=Nat.eq_of_beq_eq_true hb
   have e1:=hC.src s
   have e2:=hC.src s'
   have e3:=hC.dst s'
   rw[h1]at e1;rw[h2]at e2;rw[h3]at e3
   simp only[VR]at e1 e2 e3
   refine dh L σ _ M νA K (hC.tr (.refl hC.mem) (x:= .ref j') ?_) Fu JG h
   simp only[VR]
   exact⟨e3.1,by rw[e1.2,hb,←e2.2,e3.2]⟩
  ·cases h
 |(s,.io τ)::L,σ,acc,M,νA,K,hC,hF,hN,h=>by
  obtain⟨Fu,JG,Nx⟩:=iY hF hN
  unfold eU at h
  have hs:=hC.src s
  split at h
  ·rename_i id hT
   rw[hT]at hs
   obtain⟨_,h⟩:=bK h
   split at h
   ·rename_i υ x aU
    obtain⟨e1,h⟩:=bc h
    subst e1
    have hj:=(hN _ List.mem_cons_self).2.2
    simp only[VR]at hs
    obtain⟨e,he,kf⟩:=hs
    rw[aU]at he;cases he
    simp only[AR]at kf
    obtain⟨_,b,hb,hv⟩:=kf
    refine dh L _ _ M _ K (hC.tr (hC.mem.move aU trivial hj (.inl ⟨rfl,fun _ _ _ _=>by simp⟩)) (x:= .fP (16*s+15) []) ?_) Fu (Nx _ _ _ (.inr (.inr rfl)) JG) h
    simp only[VR]
    exact⟨_,ak _ _ _,trivial,b,by simp[cr,hb],hv⟩
   ·cases h
  ·cases h
 |(s,.fn f τ)::L,σ,acc,M,νA,K,hC,hF,hN,h=>by
  obtain⟨Fu,JG,Nx⟩:=iY hF hN
  unfold eU at h
  have hs:=hC.src s
  split at h
  ·rename_i f' cs hT
   rw[hT]at hs
   obtain⟨hb,h1⟩:=bK h
   clear h
   have hb:=Nat.eq_of_beq_eq_true hb
   subst hb
   simp only[VR]at hs
   obtain⟨us,hv,TJ⟩:=hs
   obtain⟨y,rd,ups,h,hy⟩:=zF hC.mem.left TJ h1
   split at h
   ·refine dh L σ _ M νA K (hC.tr (.refl hC.mem) (x:= .FE f (mz τ y)) ?_) Fu JG h
    simp only[VR]
    exact⟨us,hv,fQ.free (hy rfl)⟩
   ·cases h
  ·cases h
theorem tU(hI:Inv c E σ a w){L:Option (List (Nat×CM))}(hL: ∀L',L=some L'→gF L'=true){K:St→Option α}(h:rI L σ K=some r): ∃σ',K σ'=some r∧Inv c E σ' a w:=by
 unfold rI at h
 split at h
 ·exact⟨σ,h,hI⟩
 ·have hfr:=hL _ rfl
  obtain⟨⟨M,ν,hc⟩,hs,hd⟩:=hI
  obtain⟨T0,M',Nw,hK,ag6⟩:=dh (tm:=a.tmps) _ σ ⟨fun _=> .any,fun _=>none⟩ M (fun _=>undef) K ⟨hc.mem.TX _,hc.tmp,fun i=>by simp[VR]⟩ hfr (fun _ _=>⟨rfl,rfl,rfl⟩) h
  exact⟨T0,hK,⟨M',Nw,ag6⟩,hs,hd⟩
end VM
end
