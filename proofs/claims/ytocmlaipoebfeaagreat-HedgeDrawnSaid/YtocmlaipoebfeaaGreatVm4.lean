/- A part of the proof of HedgeDrawn of layer 22: a machine that reads a function of the program as an equation between values. -/
import Derived.Test.YtocmlaipoebfeaaGreatVm3
import Derived.Scope
set_option linter.all false
section
namespace VM
open Go
variable{P:Program}{E:Env}{o:Oper}{a:Act}{w:World}{M:Nat→Prop}{ν:Nat→Value}{σ:St}{c:Ctx}{α:Type}{r:α}{next:Act→World→Prop}{Q:Exit→Act→World→Prop}
theorem Mem.call{H:Nat→Option aR}(h:Mem c H w M ν){hs:List Nat}{M0 M':Nat→Prop}{w':World}(hM: ∀b,M0 b→M b)(hhs: ∀b∈hs,M b)
  (pC: ∀b∈hs,∀i e,H i=some e→e.mut→eD (ν i)≠some b) (kI: ∀b∈hs,c.B≤b∨c.may b) (sM: ∀b∈hs,c.M0 b→M' b) (L:Left w M0 hs w' M'):
  Mem c H w' (fun b=>M' b∨(M b∧b∉hs)) ν∧du w M w' (fun b=>M' b∨(M b∧b∉hs)):=by
 have hk:du w M w' (fun b=>M' b∨(M b∧b∉hs)):=by
  refine⟨L.size,fun b hb hm=>L.frame b hb (fun hh=>hm (hhs b hh)),fun b hb hm=> ?_⟩
  rcases hm with hm|hm
  ·exact(L.less b hb hm).elim (hM b) (hhs b)
  ·exact hm.1
 refine⟨⟨fun i e hi=>(h.jk i e hi).bP hk fun hm b hb=> ?_,h.wu,h.new,h.uN,nB h (fun _ _=>rfl) (fun _ h=>h) (fun i τ x p j hi=> .inl ⟨hi,fun b hb=> ?_⟩),fun b hb=> ?_,fun b hb=> ?_,fun b hb hm=> ?_,Nat.le_trans h.size L.size,h.rn,L.os.trans h.os,L.tape.trans h.tape,L.output.trans h.output⟩,hk⟩
 ·have hMb:=(h.jk i e hi).tQ hm hb
  have yG:b∉hs:=fun hh=>pC b hh i e hi hm hb
  exact⟨L.frame b (h.zN b hMb) yG,.inr ⟨hMb,yG⟩⟩
 ·have tA:eD (ν i)=some b:=by rw[hb];rfl
  have hMb:=(h.jk i _ hi).tQ trivial tA
  exact L.frame b (h.zN b hMb) (fun hh=>pC b hh i _ hi trivial tA)
 ·by_cases hh:b∈hs
  ·exact .inl (sM b hh hb)
  ·exact .inr ⟨h.sub b hb,hh⟩
 ·rcases hb with hb|hb
  ·exact L.zN b hb
  ·exact Nat.lt_of_lt_of_le (h.zN b hb.1) L.size
 ·have yG:b∉hs:=fun hh=>(kI b hh).elim (fun h'=>by omega) hm
  rw[L.frame b (Nat.lt_of_lt_of_le hb h.size) yG]
  exact h.frame b hb hm
theorem Mem.xE{H:Nat→Option aR}(h:Mem c H w M ν){id:Nat}{v:Value}{e:aR}(aU: ∀e',H id=some e'→ ¬e'.mut)(Nt:ER w M v e)
  (hd: ∀b,eD v=some b→ ∀i e',H i=some e'→e'.mut→eD (ν i)≠some b) (hn: ∀b,eD v=some b→c.B≤b∨c.may b) (ho: ∀b e0 l0,e= .own e0 l0→eD v=some b→ ¬c.M0 b)
  (hnv:H id=none∨v=ν id)
  (pB: ∀τ x p j,e= .ed τ x p j→bu H id (some e) j≠none∧ ∃b,v= .pointer (some ⟨b,0,none⟩)∧w.cell? ⟨b,bO p τ,none⟩=some (cB ν id v j):=by intro _ _ _ _ h;cases h):
  Mem c (bu H id (some e)) w M (cB ν id v):=by
 have hν: ∀i,i≠id→cB ν id v i=ν i:=fun i hi=>by simp[cB,hi]
 have yD:cB ν id v id=v:=by simp[cB]
 refine⟨fun i e1 hi=> ?_,fun i k e1 e2 b1 oH hi pA hk uX=> ?_,fun i e1 b1 hi pA=> ?_,fun i e1 l1 b1 hi=> ?_,nB h (fun i hi=> ?_) sK (fun i τ x p j hi=> ?_),h.sub,h.zN,h.frame,h.size,h.rn,h.os,h.tape,h.output⟩
 ·by_cases bB:i=id
  ·subst bB;rw[ak]at hi;cases hi;rw[yD];exact Nt
  ·rw[an _ _ bB]at hi;rw[hν i bB];exact h.jk i e1 hi
 ·by_cases bB:i=id
  ·subst bB;rw[yD]
   have Gk:k≠i:=Ne.symm oH
   rw[an _ _ Gk]at hk;rw[hν k Gk]
   intro kB
   exact hd b1 kB k e2 hk uX
  ·rw[an _ _ bB]at hi;rw[hν i bB]
   by_cases Gk:k=id
   ·subst Gk;rw[yD]
    intro kB tb
    exact hd b1 tb i e1 hi pA kB
   ·rw[an _ _ Gk]at hk;rw[hν k Gk];exact h.wu i k e1 e2 b1 oH hi pA hk uX
 ·by_cases bB:i=id
  ·subst bB;rw[yD];exact hn b1
  ·rw[an _ _ bB]at hi;rw[hν i bB];exact h.new i e1 b1 hi pA
 ·by_cases bB:i=id
  ·subst bB;rw[ak]at hi;cases hi;rw[yD];exact ho b1 e1 l1 rfl
  ·rw[an _ _ bB]at hi;rw[hν i bB];exact h.uN i e1 l1 b1 hi
 ·by_cases bB:i=id
  ·subst bB
   rcases hnv with hnv|hnv
   ·exact absurd hnv hi
   ·rw[yD,hnv]
  ·exact hν i bB
 ·by_cases bB:i=id
  ·subst bB
   rw[ak]at hi
   cases hi
   obtain⟨h1,b,h2,h3⟩:=pB _ _ _ _ rfl
   exact .inr ⟨h1,b,by rw[yD];exact h2,h3⟩
  ·rw[an _ _ bB]at hi
   exact .inl ⟨hi,fun _ _=>rfl⟩
theorem NF{m:AM}{ms:List AM}(x:HP (m::ms))(id:Nat)(io:List (Nat×Ty)):
  iU (m::ms) x id io=match m,rz x,io with
   | .io τ,y,(j,_)::io=>((iU ms (wv x) (id+1) io).1,(j,some (.obj τ y))::(iU ms (wv x) (id+1) io).2.1,(iU ms (wv x) (id+1) io).2.2)
   |m,y,io=>((Ec m y id).1::(iU ms (wv x) (id+1) io).1,(Ec m y id).2++(iU ms (wv x) (id+1) io).2.1,(iU ms (wv x) (id+1) io).2.2):=by
 cases ms with
 |nil=>cases m<;>cases io<;>simp[iU,rz]
 |cons n ms=>cases m<;>cases io<;>simp[iU,rz,wv]
theorem nn{l1 l2:List Nat}{b:Nat}(h:(l1++l2).Nodup)(h1:b∈l1):b∉l2:=fun h2=>(List.nodup_append.1 h).2.2 b h1 b h2 rfl
theorem RR.Ew: ∀{ms:List AM} {x:HP ms} {us ps:List Value},RR w M ms x us ps→ ∀p∈ps,∀b,eD p=some b→b∈bf ms us ps
 |[],_,_,_,h,p,hp,_,_=>by simp only[RR]at h;rw[h.2]at hp;simp at hp
 |m::ms,x,us,ps,h,p,hp,b,hb=>by
  simp only[RR]at h
  rcases h with⟨p',Cc,h1,rfl,h2,h3⟩|⟨v,Ev,h1,h2,rfl,h3,h4⟩
  ·simp only[bf,h1,if_true,List.headD_cons,List.tail_cons,List.mem_append]
   rcases List.mem_cons.1 hp with rfl|hp
   ·left
    cases m<;>simp[AM.fU]at h1
    simp[cI,hb]
   ·exact .inr (RR.Ew h3 p hp b hb)
  ·simp only[bf,h1,Bool.false_eq_true,if_false,List.headD_cons,List.tail_cons,List.mem_append]
   exact .inr (RR.Ew h4 p hp b hb)
theorem nG{hs:List Nat}{sz:Nat}: ∀{ms:List AM} {x:HP ms} {us ps:List Value} {id:Nat} {io:List (Nat×Ty)} {H:Nat→Option aR} {ν:Nat→Value} {used:List Nat},
  Mem c H w M ν→RR w M ms x us ps→ps=io.map (fun q=>ν q.1)→lI ms=io.map (·.2)→(keys io).Nodup→(∀q∈io,H q.1=some .gone)→(∀i,id≤i→i<id+ms.length→H i=none)→
  (∀i e b,H i=some e→e.mut→eD (ν i)=some b→(b<sz∧b∉hs)∨b∈used)→(used++bf ms us ps).Nodup→(∀b∈bf ms us ps,sz≤b∨b∈hs)→
  (∀b∈bf ms us ps,(c.B≤b∨c.may b))→(∀b∈bf ms us ps,c.M0 b→ ∃p∈ps,eD p=some b)→
  ∃ν',Mem c (cc H (iU ms x id io).2.1) w M ν'∧fT w M (cc H (iU ms x id io).2.1) ν' (iU ms x id io).1 us∧(∀i,H i≠none→ν' i=ν i)∧
   (∀i,i∉keys io→(i<id∨id+ms.length≤i)→cc H (iU ms x id io).2.1 i=H i)∧(∀i,id≤i→i<id+ms.length→ ∀e,cc H (iU ms x id io).2.1 i=some e→(∃e0 l0,e= .own e0 l0)∨ ∃τ0 z0,e= .obj τ0 z0)∧
   (∀q∈io,∃z:q.2.den,cc H (iU ms x id io).2.1 q.1=some (.obj q.2 z))
 |[],x,us,ps,id,io,H,ν,used,hm,hr,JS,B7,GA,Ce,iD,hold,vf,oq,kI,Gj=>by
  simp only[RR]at hr
  obtain⟨rfl,rfl⟩:=hr
  have sM:io=[]:=by
   cases io with
   |nil=>rfl
   |cons q io=>simp at JS
  subst sM
  exact⟨ν,hm,by simp[iU,fT],fun _ _=>rfl,fun _ _ _=>rfl,fun i h1 h2=>by simp at h2;omega,fun q hq=>by simp at hq⟩
 |m::ms,x,us,ps,id,io,H,ν,used,hm,hr,JS,B7,GA,Ce,iD,hold,vf,oq,kI,Gj=>by
  rw[NF]
  simp only[RR]at hr
  rcases hr with⟨p,Cc,Ex,rfl,h1,h2⟩|⟨v,Ev,Ex,hmf,rfl,h1,h2⟩
  ·
   cases m with
   |io τ=>
    cases io with
    |nil=>simp at JS
    |cons q io=>
     simp only[List.map_cons,List.cons.injEq]at JS
     obtain⟨rfl,rfl⟩:=JS
     simp only[lI,List.map_cons,List.cons.injEq]at B7
     obtain⟨amV,amW⟩:=B7
     simp only[keys,List.map_cons,List.nodup_cons]at GA
     have hbr:bf (.io τ::ms) us (ν q.1::io.map fun q=>ν q.1)=(eD (ν q.1)).toList++bf ms us (io.map fun q=>ν q.1):=rfl
     rw[hbr]at vf oq kI Gj
     have NG:=Ce q List.mem_cons_self
     have GB:q.1<id∨id+(ms.length+1)≤q.1:=by
      rcases Nat.lt_or_ge q.1 id with h'|h'
      ·exact .inl h'
      ·rcases Nat.lt_or_ge q.1 (id+(ms.length+1))with Ml|Ml
       ·rw[iD q.1 h' Ml]at NG;cases NG
       ·exact .inr Ml
     simp only[A1]at h1
     have rR: ∀b,eD (ν q.1)=some b→ ∀i e',H i=some e'→e'.mut→eD (ν i)≠some b:=by
      intro b hb i e' hi gQ dJ
      have gC:b∈(eD (ν q.1)).toList++bf ms us (io.map fun q=>ν q.1):=List.mem_append_left _ (by rw[hb];simp)
      rcases hold i e' b hi gQ dJ with⟨h3,h4⟩|h3
      ·exact(oq b gC).elim (fun h'=>by omega) h4
      ·exact nn vf h3 gC
     have uX:=Mem.xE (c:=c) hm (id:=q.1) (v:=ν q.1) (e:= .obj τ (rz x)) (fun e' tz=>by rw[NG]at tz;cases tz;simp[aR.mut]) h1 rR (fun b hb=>kI b (List.mem_append_left _ (by rw[hb];simp))) (fun b e0 l0 he=>by cases he) (.inr rfl)
     have hνe:cB ν q.1 (ν q.1)=ν:=by funext i;unfold cB;split<;>simp_all
     rw[hνe]at uX
     have amX: ∀(q':Nat×Ty),q'∈io→q'.1≠q.1:=fun q' ot e=>GA.1 (List.mem_map.2 ⟨q',ot,e⟩)
     obtain⟨ν',r1,r2,r3,r4,r5,r6⟩:=nG (ms:=ms) (x:=wv x) (us:=us) (ps:=io.map fun q=>ν q.1) (id:=id+1) (io:=io) (used:=used++(eD (ν q.1)).toList) uX h2 rfl amW GA.2
      (fun q' ot=>by rw[an _ _ (amX q' ot)];exact Ce q' (List.mem_cons_of_mem _ ot))
      (fun i h3 h4=>by
       have:i≠q.1:=by omega
       rw[an _ _ this]
       exact iD i (by omega) (by simp only[List.length_cons];omega))
      (fun i e b hi gQ hb=>by
       by_cases bB:i=q.1
       ·subst bB;exact .inr (List.mem_append_right _ (by rw[hb];simp))
       ·rw[an _ _ bB]at hi
        exact(hold i e b hi gQ hb).imp (fun h=>h) (List.mem_append_left _))
      (by rw[List.append_assoc];exact vf) (fun b hb=>oq b (List.mem_append_right _ hb)) (fun b hb=>kI b (List.mem_append_right _ hb))
      (fun b hb hb0=>by
       obtain⟨p,hp,hpb⟩:=Gj b (List.mem_append_right _ hb) hb0
       rcases List.mem_cons.1 hp with rfl|hp
       ·exact absurd (nn (List.nodup_append.1 vf).2.1 (b:=b) (by rw[hpb];simp)) (by simpa using hb)
       ·exact⟨p,hp,hpb⟩)
     refine⟨ν',r1,r2,fun i hi=> ?_,fun i h3 h4=> ?_,fun i h3 h4 e he=> ?_,fun q' ot=> ?_⟩
     ·exact r3 i (by
       by_cases bB:i=q.1
       ·subst bB;rw[ak];simp
       ·rw[an _ _ bB];exact hi)
     ·simp only[keys,List.map_cons,List.mem_cons,not_or]at h3
      have:=r4 i h3.2 (by simp only[List.length_cons]at h4;omega)
      rw[an _ _ h3.1]at this
      exact this
     ·by_cases h5:id+1≤i
      ·exact r5 i h5 (by simp only[List.length_cons]at h4;omega) e he
      ·have bB:i=id:=by omega
       subst bB
       by_cases hk:i∈keys io
       ·obtain⟨q',ot,JV⟩:=List.mem_map.1 hk
        have h9:=Ce q' (List.mem_cons_of_mem _ ot)
        rw[JV,iD i (Nat.le_refl _) (by simp)]at h9
        cases h9
       ·have:=r4 i hk (.inl (by omega))
        have gk:i≠q.1:=by omega
        rw[an _ _ gk,iD i (Nat.le_refl _) (by simp)]at this
        have he:cc (bu H q.1 (some (aR.obj τ (rz x)))) (iU ms (wv x) (i+1) io).2.1 i=some e:=he
        rw[this]at he;cases he
     ·rcases List.mem_cons.1 ot with rfl|ot
      ·have:=r4 q'.1 GA.1 (by omega)
       rw[ak]at this
       rw[←amV]
       exact⟨rz x,this⟩
      ·exact r6 q' ot
   |v τ=>simp[AM.fU]at Ex
   |own τ=>simp[AM.fU]at Ex
   |fn f τ=>simp[AM.fU]at Ex
   |ptr τ=>simp[AM.fU]at Ex
   |fR τ=>simp[AM.fU]at Ex
  ·
   have Cg:H id=none:=iD id (Nat.le_refl _) (by simp)
   cases m with
   |io τ=>simp[AM.fU]at Ex
   |fn f τ=>simp[AM.TJ]at hmf
   |fR τ=>simp[AM.TJ]at hmf
   |v τ=>
    have hbr:bf (.v τ::ms) (v::Ev) ps=bf ms Ev ps:=rfl
    rw[hbr]at vf oq kI Gj
    simp only[A1]at h1
    obtain⟨ν',r1,r2,r3,r4,r5,r6⟩:=nG (ms:=ms) (x:=wv x) (us:=Ev) (ps:=ps) (id:=id+1) (io:=io) (used:=used) hm h2 JS (by simpa [lI]using B7) GA Ce (fun i h3 h4=>iD i (by omega) (by simp only[List.length_cons];omega)) hold vf oq kI Gj
    refine⟨ν',r1,?_,r3,fun i h3 h4=>r4 i h3 (by simp only[List.length_cons]at h4;omega),fun i h3 h4 e he=> ?_,r6⟩
    ·simp only[Ec,fT,VR];exact⟨h1,r2⟩
    ·by_cases h5:id+1≤i
     ·exact r5 i h5 (by simp only[List.length_cons]at h4;omega) e he
     ·have bB:i=id:=by omega
      subst bB
      by_cases hk:i∈keys io
      ·obtain⟨q',ot,JV⟩:=List.mem_map.1 hk
       have h9:=Ce q' ot
       rw[JV,Cg]at h9;cases h9
      ·have:=r4 i hk (.inl (by omega))
       rw[Cg]at this
       have he:cc H (iU ms (wv x) (i+1) io).2.1 i=some e:=he
       rw[this]at he;cases he
   |own τ=>
    have hbr:bf (.own τ::ms) (v::Ev) ps=(eD v).toList++bf ms Ev ps:=rfl
    rw[hbr]at vf oq kI Gj
    simp only[A1]at h1
    have rR: ∀b,eD v=some b→ ∀i e',H i=some e'→e'.mut→eD (ν i)≠some b:=by
     intro b hb i e' hi gQ dJ
     have gC:b∈(eD v).toList++bf ms Ev ps:=List.mem_append_left _ (by rw[hb];simp)
     rcases hold i e' b hi gQ dJ with⟨h3,h4⟩|h3
     ·exact(oq b gC).elim (fun h'=>by omega) h4
     ·exact nn vf h3 gC
    have agY: ∀b,eD v=some b→ ¬c.M0 b:=by
     intro b hb h0
     have gC:b∈(eD v).toList:=by rw[hb];simp
     obtain⟨p,hp,hpb⟩:=Gj b (List.mem_append_left _ gC) h0
     exact nn (List.nodup_append.1 vf).2.1 gC (RR.Ew h2 p hp b hpb)
    have uX:=Mem.xE (c:=c) hm (id:=id) (v:=v) (e:= .own τ (rz x)) (fun e' tz=>by rw[Cg]at tz;cases tz) h1 rR (fun b hb=>kI b (List.mem_append_left _ (by rw[hb];simp))) (fun b e0 l0 _ hb=>agY b hb) (.inl Cg)
    have GB: ∀q∈io,q.1≠id:=fun q hq e=>by
     have h9:=Ce q hq
     rw[e,Cg]at h9;cases h9
    have hν2: ∀i,i≠id→cB ν id v i=ν i:=fun i hi=>by simp[cB,hi]
    obtain⟨ν',r1,r2,r3,r4,r5,r6⟩:=nG (ms:=ms) (x:=wv x) (us:=Ev) (ps:=ps) (id:=id+1) (io:=io) (used:=used++(eD v).toList) uX h2
     (by rw[JS];exact List.map_congr_left fun q hq=>(hν2 _ (GB q hq)).symm) (by simpa [lI]using B7) GA
     (fun q hq=>by rw[an _ _ (GB q hq)];exact Ce q hq)
     (fun i h3 h4=>by rw[an _ _ (by omega)];exact iD i (by omega) (by simp only[List.length_cons];omega))
     (fun i e b hi gQ hb=>by
      by_cases bB:i=id
      ·subst bB
       have:cB ν i v i=v:=by simp[cB]
       rw[this]at hb
       exact .inr (List.mem_append_right _ (by rw[hb];simp))
      ·rw[an _ _ bB]at hi
       rw[hν2 i bB]at hb
       exact(hold i e b hi gQ hb).imp (fun h=>h) (List.mem_append_left _))
     (by rw[List.append_assoc];exact vf) (fun b hb=>oq b (List.mem_append_right _ hb)) (fun b hb=>kI b (List.mem_append_right _ hb)) (fun b hb=>Gj b (List.mem_append_right _ hb))
    have abC:id∉keys io:=fun hk=>by
     obtain⟨q,hq,JV⟩:=List.mem_map.1 hk
     exact GB q hq JV
    have ll:cc (bu H id (some (.own τ (rz x)))) (iU ms (wv x) (id+1) io).2.1 id=some (.own τ (rz x)):=by
     rw[r4 id abC (.inl (by omega)),ak]
    refine⟨ν',r1,?_,fun i hi=> ?_,fun i h3 h4=> ?_,fun i h3 h4 e he=> ?_,r6⟩
    ·simp only[Ec,fT,VR]
     refine⟨⟨?_,?_⟩,r2⟩
     ·show cc (bu H id (some (.own τ (rz x)))) (iU ms (wv x) (id+1) io).2.1 id≠none
      rw[ll];simp
     ·rw[r3 id (by rw[ak];simp)];simp[cB]
    ·have bB:i≠id:=fun e=>hi (e▸Cg)
     rw[r3 i (by rw[an _ _ bB];exact hi),hν2 i bB]
    ·have bB:i≠id:=by simp only[List.length_cons]at h4;omega
     have:=r4 i h3 (by simp only[List.length_cons]at h4;omega)
     rw[an _ _ bB]at this
     exact this
    ·by_cases h5:id+1≤i
     ·exact r5 i h5 (by simp only[List.length_cons]at h4;omega) e he
     ·have bB:i=id:=by omega
      subst bB
      have he:cc (bu H i (some (.own τ (rz x)))) (iU ms (wv x) (i+1) io).2.1 i=some e:=he
      rw[ll]at he;cases he
      exact .inl ⟨τ,_,rfl⟩
   |ptr τ=>
    have hbr:bf (.ptr τ::ms) (v::Ev) ps=(eD v).toList++bf ms Ev ps:=rfl
    rw[hbr]at vf oq kI Gj
    simp only[A1]at h1
    have rR: ∀b,eD v=some b→ ∀i e',H i=some e'→e'.mut→eD (ν i)≠some b:=by
     intro b hb i e' hi gQ dJ
     have gC:b∈(eD v).toList++bf ms Ev ps:=List.mem_append_left _ (by rw[hb];simp)
     rcases hold i e' b hi gQ dJ with⟨h3,h4⟩|h3
     ·exact(oq b gC).elim (fun h'=>by omega) h4
     ·exact nn vf h3 gC
    have uX:=Mem.xE (c:=c) hm (id:=id) (v:=v) (e:= .obj τ (rz x)) (fun e' tz=>by rw[Cg]at tz;cases tz) h1 rR (fun b hb=>kI b (List.mem_append_left _ (by rw[hb];simp))) (fun b e0 l0 he _=>by cases he) (.inl Cg)
    have GB: ∀q∈io,q.1≠id:=fun q hq e=>by
     have h9:=Ce q hq
     rw[e,Cg]at h9;cases h9
    have hν2: ∀i,i≠id→cB ν id v i=ν i:=fun i hi=>by simp[cB,hi]
    obtain⟨ν',r1,r2,r3,r4,r5,r6⟩:=nG (ms:=ms) (x:=wv x) (us:=Ev) (ps:=ps) (id:=id+1) (io:=io) (used:=used++(eD v).toList) uX h2
     (by rw[JS];exact List.map_congr_left fun q hq=>(hν2 _ (GB q hq)).symm) (by simpa [lI]using B7) GA
     (fun q hq=>by rw[an _ _ (GB q hq)];exact Ce q hq)
     (fun i h3 h4=>by rw[an _ _ (by omega)];exact iD i (by omega) (by simp only[List.length_cons];omega))
     (fun i e b hi gQ hb=>by
      by_cases bB:i=id
      ·subst bB
       have:cB ν i v i=v:=by simp[cB]
       rw[this]at hb
       exact .inr (List.mem_append_right _ (by rw[hb];simp))
      ·rw[an _ _ bB]at hi
       rw[hν2 i bB]at hb
       exact(hold i e b hi gQ hb).imp (fun h=>h) (List.mem_append_left _))
     (by rw[List.append_assoc];exact vf) (fun b hb=>oq b (List.mem_append_right _ hb)) (fun b hb=>kI b (List.mem_append_right _ hb)) (fun b hb=>Gj b (List.mem_append_right _ hb))
    have abC:id∉keys io:=fun hk=>by
     obtain⟨q,hq,JV⟩:=List.mem_map.1 hk
     exact GB q hq JV
    have ll:cc (bu H id (some (.obj τ (rz x)))) (iU ms (wv x) (id+1) io).2.1 id=some (.obj τ (rz x)):=by
     rw[r4 id abC (.inl (by omega)),ak]
    refine⟨ν',r1,?_,fun i hi=> ?_,fun i h3 h4=> ?_,fun i h3 h4 e he=> ?_,r6⟩
    ·simp only[Ec,fT,VR]
     refine⟨⟨_,ll,trivial,?_⟩,r2⟩
     simp only[A1,ER]at h1
     obtain⟨b,cs,t,PZ,_⟩:=h1
     exact⟨b,by rw[r3 id (by rw[ak];simp)];simp[cB,PZ],PZ⟩
    ·have bB:i≠id:=fun e=>hi (e▸Cg)
     rw[r3 i (by rw[an _ _ bB];exact hi),hν2 i bB]
    ·have bB:i≠id:=by simp only[List.length_cons]at h4;omega
     have:=r4 i h3 (by simp only[List.length_cons]at h4;omega)
     rw[an _ _ bB]at this
     exact this
    ·by_cases h5:id+1≤i
     ·exact r5 i h5 (by simp only[List.length_cons]at h4;omega) e he
     ·have bB:i=id:=by omega
      subst bB
      have he:cc (bu H i (some (.obj τ (rz x)))) (iU ms (wv x) (i+1) io).2.1 i=some e:=he
      rw[ll]at he;cases he
      exact .inr ⟨τ,_,rfl⟩
end VM
end
section
namespace VM
open Go
variable{P:Program}{E:Env}{o:Oper}{a:Act}{w:World}{M:Nat→Prop}{ν:Nat→Value}{σ:St}{c:Ctx}{α:Type}{r:α}{next:Act→World→Prop}{Q:Exit→Act→World→Prop}
theorem GC{i:Nat}: ∀{ups:fK} {H:Nat→Option aR},i∈keys ups→ ∃u∈ups,u.1=i∧cc H ups i=u.2
 |[],_,h=>by simp[keys]at h
 |u::r,H,h=>by
  by_cases hk:i∈keys r
  ·obtain⟨v,h1,h2,h3⟩:=GC (H:=bu H u.1 u.2) hk
   exact⟨v,List.mem_cons_of_mem _ h1,h2,h3⟩
  ·have hi:i=u.1:=by
    simp only[keys,List.map_cons,List.mem_cons]at h hk
    exact h.resolve_right hk
   refine⟨u,List.mem_cons_self,hi.symm,?_⟩
   show cc (bu H u.1 u.2) r i=_
   rw[jX hk,hi,ak]
theorem z8: ∀{ups:fK} {H H':Nat→Option aR},(∀i,i∉keys ups→H i=H' i)→cc H ups=cc H' ups
 |[],H,H',h=>funext fun i=>h i (by simp[keys])
 |u::r,H,H',h=>by
  refine z8 (ups:=r) fun i hi=> ?_
  by_cases hu:i=u.1
  ·subst hu;rw[ak,ak]
  ·rw[an _ _ hu,an _ _ hu]
   exact h i (by simp only[keys,List.map_cons,List.mem_cons,not_or];exact⟨hu,hi⟩)
theorem RR.nH: ∀{ms:List AM} {x:HP ms} {us ps:List Value},RR w M ms x us ps→ ∀b∈bf ms us ps,M b
 |[],_,_,_,_,b,hb=>by simp[bf]at hb
 |m::ms,x,us,ps,h,b,hb=>by
  simp only[RR]at h
  rcases h with⟨p,Cc,h1,rfl,h2,h3⟩|⟨v,Ev,h1,h2,rfl,h3,h4⟩
  ·simp only[bf,h1,if_true,List.headD_cons,List.tail_cons,List.mem_append]at hb
   rcases hb with hb|hb
   ·cases m<;>simp[AM.fU]at h1
    simp only[cI,Option.mem_toList,A1]at hb h2
    exact h2.tQ trivial hb
   ·exact RR.nH h3 b hb
  ·simp only[bf,h1,Bool.false_eq_true,if_false,List.headD_cons,List.tail_cons,List.mem_append]at hb
   rcases hb with hb|hb
   ·cases m with
    |own e=>
     simp only[cI,Option.mem_toList,A1]at hb h3
     exact h3.tQ trivial hb
    |v _=>simp[cI]at hb
    |io _=>simp[AM.fU]at h1
    |fn _ _=>simp[cI]at hb
    |fR _=>simp[cI]at hb
    |ptr τ=>
     simp only[cI,Option.mem_toList,A1]at hb h3
     exact h3.tQ trivial hb
   ·exact RR.nH h4 b hb
theorem CR: ∀{l:List iz} {mR:List a7} {S:iz},Gg l mR=some S→S∈l
 |[],_,_,h=>by simp[Gg]at h
 |T::l,mR,S,h=>by
  unfold Gg at h
  cases hf:fits T.args mR
  ·rw[hf]at h;exact List.mem_cons_of_mem _ (CR h)
  ·rw[hf]at h;cases h;exact List.mem_cons_self
theorem xF{H:Nat→Option aR}{id:Nat}: ∀{n:Nat},p6 H id n=true→ ∀i,id≤i→i<id+n→H i=none
 |0,_,i,h1,h2=>by omega
 |n+1,h,i,h1,h2=>by
  unfold p6 at h
  rw[Bool.and_eq_true]at h
  by_cases hi:i=id+n
  ·subst hi
   have h:=h.1
   split at h
   ·assumption
   ·cases h
  ·exact xF h.2 i h1 (by omega)
theorem P0{H:Nat→Option aR}{mR:List a7}{us:List Value}(h:fT w M H ν mR us):VR w M H ν (Ge mR) (rP us):=by
 match mR,us,h with
 |[],[],_=>simp[Ge,VR]
 |[a],[u],h=>simp only[fT,and_true]at h;simpa [Ge,rP]using h
 |a::b::mR,u::v::us,h=>
  simp only[Ge,VR]
  exact⟨u::v::us,by simp[rP],h⟩
 |[],_::_,h=>simp[fT]at h
 |_::_,[],h=>simp[fT]at h
 |[_],_::_::_,h=>simp[fT]at h
 |_::_::_,[_],h=>simp[fT]at h
theorem GD(hΓ: ∀f S,S∈E.Γ f→fc P f S){H:Nat→Option aR}(hm:Mem c H w M ν){f id:Nat}{mR:List a7}{vs:List Value}(hv:fT w M H ν mR vs){K:fL α}(h:xt E f mR id H K=some r)
  {R:Value→World→Prop} (hR: ∀v rd ups v' w' M' ν',K v rd ups=some r→Tr c H w M ν (cc H ups) w' M' ν'→VR w' M' (cc H ups) ν' v v'→R v' w'):
  Gz P f vs.toArray w R:=by
 unfold xt at h
 split at h
 ·cases h
 rename_i S hS
 have NH:=hΓ f S (CR hS)
 obtain⟨x,rd,uo,uf,io,H2,Hq,M2,h1,hA,hK,agZ,TM,Pr⟩:=xD (iC.start hm) hv h
 clear h
 simp only[List.nil_append,List.map_nil]at hA TM Pr
 obtain⟨y,hy,h1⟩:=Option.bind_eq_some_iff.1 h1
 obtain⟨iD,h1⟩:=bM h1
 have iD:=xF iD
 have amY:(fun b=>(M2 b∧b∉cR S.args vs)∨b∈cR S.args vs)=M2:=by
  funext b
  refine propext ⟨fun h=>h.elim (·.1) (hA.hM b),fun h=> ?_⟩
  by_cases hb:b∈cR S.args vs
  ·exact .inr hb
  ·exact .inl ⟨h,hb⟩
 refine Gz.mono (NH.call (fun b=>M2 b∧b∉cR S.args vs) w vs x y (fun b hb=>hA.mem.zN b hb.1) (by rw[amY];exact agZ) hA.nd (fun b hb h=>h.2 hb) hy) ?_
 rintro e w' ⟨us,M',rfl,Ps,hL,vf,hn0⟩
 have amZ: ∀b∈cR S.args vs,c.M0 b→M' b:=by
  intro b hb h0
  obtain⟨q,hq,hqb⟩:=hA.iob b hb h0
  exact Ps.nH b (Ps.Ew (ν q.1) (by rw[←TM];exact List.mem_map_of_mem hq) b hqb)
 have oq: ∀b∈bf S.res us (dG S.args vs),w.heap.size≤b∨b∈cR S.args vs:=by
  intro b hb
  rcases Nat.lt_or_ge b w.heap.size with dD|TN
  ·exact .inr ((hL.less b dD (Ps.nH b hb)).resolve_left (hn0 b hb))
  ·exact .inl TN
 have kI: ∀b∈bf S.res us (dG S.args vs),c.B≤b∨c.may b:=fun b hb=>(oq b hb).elim (fun h=> .inl (Nat.le_trans hm.size h)) (hA.Kq b)
 have Gj: ∀b∈bf S.res us (dG S.args vs),c.M0 b→ ∃p∈dG S.args vs,eD p=some b:=by
  intro b hb h0
  rcases oq b hb with h'|h'
  ·have:=hm.rn.1 b h0;have:=hm.size;omega
  ·obtain⟨q,hq,hqb⟩:=hA.iob b h' h0
   exact⟨ν q.1,by rw[←TM];exact List.mem_map_of_mem hq,hqb⟩
 have key: ∀(Hx:Nat→Option aR) (Mx:Nat→Prop) (U:fK),Mem c Hx w Mx ν→du w M w Mx→(∀b,M2 b→Mx b)→(∀b∈cR S.args vs,∀i e,Hx i=some e→e.mut→eD (ν i)≠some b)→
   (∀q∈io,Hx q.1=some .gone)→(∀i,i∉keys io→cc H (uo++U) i=Hx i)→(∀u∈uo++U,u.2=some .gone∨ ∃e l,u.2=some (.lj e l)∧H u.1=some (.own e l))→(∀i∈keys (uo++U),i∈keys (uo++uf))→
   RR w' (fun b=>M' b∨(Mx b∧b∉cR S.args vs)) S.res y us (dG S.args vs)→
   ∃ν',Tr c H w M ν (cc H (uo++U++(iU S.res y id io).2.1)) w' (fun b=>M' b∨(Mx b∧b∉cR S.args vs)) ν'∧
    fT w' (fun b=>M' b∨(Mx b∧b∉cR S.args vs)) (cc H (uo++U++(iU S.res y id io).2.1)) ν' (iU S.res y id io).1 us:=by
  intro Hx Mx U PV hkx NI pC P1 abD Aa hU ZU
  obtain⟨mT,CS⟩:=PV.call (fun b hb=>NI b hb.1) (fun b hb=>NI b (hA.hM b hb)) pC hA.Kq amZ hL
  have hx: ∀i e,H i=some e→i∉keys io→ ∃e',Hx i=some e'∧e.iA e':=by
   intro i e hi Ab
   rw[←abD i Ab]
   by_cases hk:i∈keys (uo++U)
   ·obtain⟨u,hu,hui,huv⟩:=GC (H:=H) hk
    rw[huv]
    rcases Aa u hu with h'|⟨e1,l1,h',Ml⟩
    ·exact⟨_,h',aR.kT e⟩
    ·rw[hui,hi]at Ml;cases Ml;exact⟨_,h',rfl,rfl⟩
   ·rw[jX hk];exact⟨e,hi,.refl e⟩
  have S8: ∀i,id≤i→i<id+S.res.length→Hx i=none:=by
   intro i h3 h4
   have h0:=iD i h3 h4
   have Ab:i∉keys io:=fun hk=>by
    obtain⟨q,hq,JV⟩:=List.mem_map.1 hk
    obtain⟨_,_,z,hz⟩:=hA.S6 q hq
    rw[JV,h0]at hz;cases hz
   rw[←abD i Ab]
   rw[jX,h0]
   intro hk
   obtain⟨_,e,l,h'⟩:=hA.ksn i (hU i hk)
   rw[h0]at h';cases h'
  obtain⟨ν',r1,r2,r3,r4,r5,r6⟩:=nG (hs:=cR S.args vs) (sz:=w.heap.size) (id:=id) (used:=[]) mT ZU TM.symm (by rw[←NH.ios,←Pr]) hA.ion P1 S8
   (fun i e b hi hmu hb=> .inl ⟨PV.zN b ((PV.jk i e hi).tQ hmu hb),fun hh=>pC b hh i e hi hmu hb⟩) (by simpa using vf) oq kI Gj
  have abE:cc H (uo++U++(iU S.res y id io).2.1)=cc Hx (iU S.res y id io).2.1:=by
   rw[eg]
   refine z8 fun i hi=> ?_
   by_cases Ab:i∈keys io
   ·obtain⟨q,hq,JV⟩:=List.mem_map.1 Ab
    obtain⟨z,hz⟩:=r6 q hq
    rw[JV,jX hi,←JV,P1 q hq]at hz;cases hz
   ·exact abD i Ab
  refine⟨ν',⟨by rw[abE];exact r1,hkx.trans CS,⟨fun i e hi=> ?_,fun i hi=> ?_⟩⟩,by rw[abE];exact r2⟩
  ·rw[abE]
   by_cases Ab:i∈keys io
   ·obtain⟨q,hq,JV⟩:=List.mem_map.1 Ab
    obtain⟨z,hz⟩:=r6 q hq
    obtain⟨_,_,z0,hz0⟩:=hA.S6 q hq
    rw[JV]at hz hz0
    rw[hi]at hz0;cases hz0
    exact⟨_,hz,rfl⟩
   ·obtain⟨e',tz,hl⟩:=hx i e hi Ab
    have hr:i<id∨id+S.res.length≤i:=by
     rcases Nat.lt_or_ge i id with h'|h'
     ·exact .inl h'
     ·rcases Nat.lt_or_ge i (id+S.res.length)with Ml|Ml
      ·rw[iD i h' Ml]at hi;cases hi
      ·exact .inr Ml
    exact⟨e',by rw[r4 i Ab hr];exact tz,hl⟩
  ·refine r3 i ?_
   obtain⟨e,he⟩:=Option.ne_none_iff_exists'.1 hi
   by_cases Ab:i∈keys io
   ·obtain⟨q,hq,JV⟩:=List.mem_map.1 Ab
    rw[←JV,P1 q hq];simp
   ·obtain⟨e',tz,_⟩:=hx i e he Ab
    rw[tz];simp
 cases hq:S.quiet
 ·
  rw[hq]at h1
  have hMn:(fun b=>M' b∨(M2 b∧b∉cR S.args vs))=M':=by
   funext b
   exact propext ⟨fun h=>h.elim (fun h=>h) (hL.sub b),.inl⟩
  obtain⟨ν',fb,hvr⟩:=key H2 M2 uf hA.mem hA.bP (fun _ h=>h) (fun b hb i e hi hmu=>hA.none b hb i e (hA.fz.mut hi hmu) hmu) (fun q hq=>(hA.S6 q hq).1) hA.ext
   (fun u hu=>(List.mem_append.1 hu).elim (fun h=> .inl (hA.uov u h)) (fun h=> .inr (hA.ufv u h))) (fun _ h=>h) (by rw[hMn];exact Ps)
  exact hR _ _ _ _ _ _ _ h1 fb (P0 hvr)
 ·rw[hq]at h1
  have NI: ∀b,M2 b→M b:=fun b hb=>hA.bP.less b (hA.mem.zN b hb) hb
  obtain⟨ν',fb,hvr⟩:=key Hq M [] hA.ND (.refl w M) NI hA.none (fun q hq=>(hA.S6 q hq).2.1) (by rw[List.append_nil];exact hA.TK)
   (fun u hu=> .inl (hA.uov u (by simpa using hu))) (fun i hi=>by simp only[keys,List.append_nil,List.map_append,List.mem_append]at hi ⊢;exact .inl hi) (Ps.flat (fun b h=> .inl h) (NH.quiet hq))
  exact hR _ _ _ _ _ _ _ h1 fb (P0 hvr)
theorem TO(hΓ: ∀f S,S∈E.Γ f→fc P f S)(hc:Core c σ a.tmps w M ν){args:Array Operand}{ts:Array TypeId}{g:Operand}(ho:o.op= .call {callee:= .value g,args,argTypes:=ts}){K:fL α}{f:Nat}{caps:List a7}(hg:σ.ρ g= .F8 f caps){id:Nat}
  (h:xt E f (args.toList.map σ.ρ ++caps) id σ.H K=some r) (hn:eb c σ a o w M ν K r next):o.wp P a w next Q:=by
 have hgv:=hc.ev g
 rw[hg]at hgv
 simp only[VR]at hgv
 obtain⟨cs,hgv,Ej⟩:=hgv
 have GF: ∀{as1:List a7} {P2:List Value},fT w M σ.H ν as1 P2→fT w M σ.H ν (as1++caps) (P2++cs):=by
  intro as1
  induction as1 with
  |nil=>intro P2 h1;cases P2 with
   |nil=>exact Ej
   |cons _ _=>simp[fT]at h1
  |cons x as1 ih=>intro P2 h1;cases P2 with
   |nil=>simp[fT]at h1
   |cons v P2=>simp only[fT]at h1;simp only[List.cons_append,fT];exact⟨h1.1,ih h1.2⟩
 have hd:=GD (P:=P) hΓ hc.mem (GF (hc.evs args.toList)) h (R:=fun v' w'=>next (a.put o.dst v') w') (fun v rd ups v' w' M' ν' h1 h2 h3=>hn v rd ups v' w' M' ν' h1 h2 h3)
 have hex:(execOp a.eval o).run P w=(callFunc f (args.toList.map a.eval++cs).toArray).run P w:=by
  have:(args.toList.map a.eval++cs).toArray= #[]++args.map a.eval++cs.toArray:=by apply Array.ext';simp
  rw[this]
  simp[execOp,ho,resolve,hgv,Deferred.ofValue,invoke]
 unfold Oper.wp
 rw[hex]
 exact hd o a next Q fun v w' hv=>hv
end VM
end
section
namespace VM
open Go
variable{P:Program}{E:Env}{o:Oper}{a:Act}{w:World}{M:Nat→Prop}{ν:Nat→Value}{σ:St}{c:Ctx}{α:Type}{r:α}{next:Act→World→Prop}{Q:Exit→Act→World→Prop}
structure oN(P:Program)(E:Env):Prop extends EnvTy P E where
 ag3: ∀f S,S∈E.Γ f→fc P f S
 mixed:P.follows .mixedOrders=true
 gA: ∀i L,E.rD i=some L→VM.gA L=true
 P3: ∀i L,E.s9 i=some L→VM.gA L=true
theorem NJ(hE:oN P E)(hc:Core c σ a.tmps w M ν){K:fL α}(h:pk E o σ.ρ σ.H K=some r)(hn:eb c σ a o w M ν K r next):o.wp P a w next Q:=by
 have hT:=hE.toEnvTy
 unfold pk at h
 simp only at h
 split at h
 ·rename_i x ho;exact Me hc (.inl ho) h hn
 ·rename_i x ho;exact Me hc (.inr ho) h hn
 ·rename_i x y z ho
  split at h
  ·rename_i t hx;exact Tx hc ho hx h hn
  ·cases h
 ·rename_i t ho
  split at h
  ·rename_i τ ht;exact PI hT hc ho ht h hn
  ·cases h
 ·rename_i t x ho
  split at h
  ·rename_i τ ht;exact abb hT hc ho h hn
  ·cases h
 ·rename_i t ps ho
  split at h
  ·rename_i n e ht;exact Eu hT hc ho ht h hn
  ·rename_i τ ZY ht;exact yK hT hc ho ht (fun n e he=>ZY n e he) h hn
  ·cases h
 ·rename_i t n ps ho
  split at h
  ·rename_i e ht;exact Ca hT hc ho ht h hn
  ·cases h
 ·rename_i t x ho
  split at h
  ·rename_i τ ht;exact Tz hT hc ho ht h hn
  ·cases h
 ·rename_i t x y ho
  split at h
  ·rename_i τ ht;exact Nz hT hc ho ht h hn
  ·cases h
 ·rename_i x ho
  split at h
  ·rename_i id p hx;exact yI hc ho hx h hn
  ·rename_i τ z hx;exact wI hc ho hx h hn
  ·cases h
 ·rename_i b t x y t' ho;exact PO hT hc ho h hn
 ·rename_i u t x ho;exact TE hc ho h hn
 ·rename_i s d x ho
  split at h
  ·rename_i τ k hs hd;exact Kk hT hc ho hs hd h hn
  ·cases h
 ·rename_i f first caps ho;exact Gt hc ho h hn
 ·rename_i t x y ho
  split at h
  ·rename_i e ht;exact Eo hT hc ho ht h hn
  ·cases h
 ·rename_i t x lo hi mx ho
  split at h
  ·rename_i τ ht;exact PW hT hc ho ht h hn
  ·cases h
 ·rename_i t x n ho
  split at h
  ·rename_i τ ht
   split at h
   ·rename_i id p hx;exact wH hT hc ho ht hx h hn
   ·rename_i υ z hx;exact u7 hT hc ho ht hx h hn
   ·cases h
  ·cases h
 ·rename_i t x n ho
  split at h
  ·rename_i τ ht
   split at h
   ·rename_i υ z hx;exact PM hT hc ho ht hx h hn
   ·cases h
  ·cases h
 ·rename_i t x i ho
  split at h
  ·rename_i τ ht;exact Em hT hc ho ht h hn
  ·cases h
 ·rename_i t x i ho
  split at h
  ·rename_i τ ht;exact PT hT hc ho ht h hn
  ·cases h
 ·rename_i x i ho
  split at h
  ·rename_i vs hx
   split at h
   ·rename_i v hv;exact Kj hc ho hx hv h hn
   ·cases h
  ·cases h
 ·rename_i cl ho
  obtain⟨callee,args,ts⟩:=cl
  simp only at h
  split at h
  ·split at h
   ·rename_i x τ ha ht;exact abj hT hc ho ha ht h hn
   ·cases h
  ·split at h
   ·rename_i x y t t' ha ht
    split at h
    ·rename_i e hte;exact NC hT hc ho ha ht hte h hn
    ·cases h
   ·cases h
  ·split at h
   ·rename_i x xs ha;exact ZW hc true ho ha h hn
   ·cases h
  ·split at h
   ·rename_i x xs ha;exact ZW hc false ho ha h hn
   ·cases h
  ·rename_i g
   split at h
   ·rename_i f caps hg;exact TO hE.ag3 hc ho hg h hn
   ·cases h
  ·cases h
 ·cases h
end VM
end
section
namespace VM
open Go
variable{P:Program}{E:Env}{o:Oper}{a:Act}{w:World}{M:Nat→Prop}{ν:Nat→Value}{σ:St}{c:Ctx}{α:Type}{r:α}{next:Act→World→Prop}{Q:Exit→Act→World→Prop}
theorem qb(σ:St)(d:Nat)(v:a7):(σ.put d v).T d=v:=by
 show cond (Nat.beq d d) v (σ.T d)=v
 rw[show Nat.beq d d=true from Nat.beq_refl d];rfl
theorem vg(σ:St){d i:Nat}(v:a7)(h:i≠d):(σ.put d v).T i=σ.T i:=by
 show cond (Nat.beq i d) v (σ.T i)=σ.T i
 have:Nat.beq i d=false:=by rw[←Bool.not_eq_true,Nat.beq_eq];exact h
 rw[this];rfl
theorem ar7(σ:St)(d:Nat)(v:a7):(σ.put d v).H=σ.H:=rfl
theorem Ac(σ:St)(d:Nat):σ.put d (σ.T d)=σ:=by
 obtain⟨T,H⟩:=σ
 unfold St.put
 congr 1
 funext i
 by_cases h:i=d
 ·subst h;show cond (Nat.beq i i) (T i) (T i)=T i;cases Nat.beq i i<;>rfl
 ·have:Nat.beq i d=false:=by rw[←Bool.not_eq_true,Nat.beq_eq];exact h
  rw[this];rfl
theorem Core.tr{tm:Array Value}(h:Core c σ tm w M ν){H':Nat→Option aR}{w':World}{M':Nat→Prop}{ν':Nat→Value}(t:Tr c σ.H w M ν H' w' M' ν'):Core c ⟨σ.T,H'⟩ tm w' M' ν':=
 ⟨t.mem,fun i=>VR.bP t.bP t.goes (h.tmp i)⟩
theorem Core.ri{tm:Array Value}(h:Core c σ tm w M ν){d:Option Nat}{x:a7}{v:Value}{io:List Nat}(hd:Ga tm.size io d=true)(hx:VR w M σ.H ν x v)(ds:List Deferred):
  Core c (σ.ri d x) (({tmps:=tm,defers:=ds}:Act).put d v).tmps w M ν:=by
 cases d with
 |none=>exact h
 |some d=>
  have dD:d<tm.size:=by simp only[Ga,Bool.and_eq_true,Nat.blt_eq]at hd;exact hd.1
  refine⟨h.mem,fun i=> ?_⟩
  show VR w M σ.H ν ((σ.put d x).T i) ((tm.setIfInBounds d v).getD i undef)
  by_cases hi:i=d
  ·subst hi
   rw[qb]
   simp[Array.getD,dD]
   exact hx
  ·rw[vg _ _ hi]
   have:=h.tmp i
   have he:(tm.setIfInBounds d v).getD i undef=tm.getD i undef:=by
    rw[Array.getD_eq_getD_getElem?,Array.getD_eq_getD_getElem?,Array.getElem?_setIfInBounds_ne (Ne.symm hi)]
   rw[he];exact this
def Inv(c:Ctx)(E:Env)(σ:St)(a:Act)(w:World):Prop:=(∃M ν,Core c σ a.tmps w M ν)∧a.tmps.size=E.nt∧a.defers=[]∧ ∀i∈E.io,a.tmps.getD i undef=c.arg i
theorem GG(a:Act)(d:Option Nat)(v:Value):(a.put d v).tmps.size=a.tmps.size:=by
 cases d<;>simp[Act.put]
theorem put_defers(a:Act)(d:Option Nat)(v:Value):(a.put d v).defers=a.defers:=by
 cases d<;>rfl
theorem Mm{d:Option Nat}{v:Value}{io:List Nat}{n:Nat}(hd:Ga n io d=true){i:Nat}(hi:i∈io):(a.put d v).tmps.getD i undef=a.tmps.getD i undef:=by
 cases d with
 |none=>rfl
 |some d=>
  simp only[Ga,Bool.and_eq_true,List.all_eq_true]at hd
  have h1:=hd.2 i hi
  have gk:i≠d:=by
   intro e;subst e
   simp at h1
  show(a.tmps.setIfInBounds d v).getD i undef=_
  rw[Array.getD_eq_getD_getElem?,Array.getD_eq_getD_getElem?,Array.getElem?_setIfInBounds_ne (Ne.symm gk)]
theorem Inv.bool(h:Inv c E σ a w){x:Operand}{b:Bool}(hx:σ.ρ x= .val .bool b):a.eval x= .bool b:=by
 obtain⟨⟨M,ν,hc⟩,_,_,_⟩:=h
 have:=hc.ev x
 rw[hx]at this
 exact this.bool
theorem xG(hE:oN P E){ops:Array Oper}(hI:Inv c E σ a w){K:St→List Nat→List Nat→Option α}(h:pv E ops.toList o σ K=some r)
  (hn: ∀σ' a' w' rd wr,K σ' rd wr=some r→Inv c E σ' a' w'→next a' w'):
  if Region.wanted o (yielded ops a.tmps)then o.wp P a w next Q else next (a.put o.dst undef) w:=by
 unfold pv at h
 obtain⟨hd,h⟩:=bM h
 have cO:pk E o σ.ρ σ.H (fun v rd ups=>K ((σ.rB ups).ri o.dst v) rd (ups.map (·.1)))=some r→o.wp P a w next Q:=by
  intro h
  obtain⟨⟨M,ν,hc⟩,hs,abF,tf⟩:=hI
  refine NJ hE hc h fun v rd ups v' w' M' ν' hK fb hV=> ?_
  refine hn _ _ _ _ _ hK ⟨⟨M',ν',?_⟩,by rw[GG,hs],by rw[put_defers,abF],fun i hi=>(Mm hd hi).trans (tf i hi)⟩
  have h1:=hc.tr fb
  have h2:σ.rB ups=⟨σ.T,cc σ.H ups⟩:=by rw[←Kd,←Ke ups σ]
  rw[h2]
  exact h1.ri (by rw[hs];exact hd) hV a.defers
 have oO: ∀rd wr,K (σ.ri o.dst .PD) rd wr=some r→next (a.put o.dst undef) w:=by
  intro rd wr h
  obtain⟨⟨M,ν,hc⟩,hs,abF,tf⟩:=hI
  refine hn _ _ _ _ _ h ⟨⟨M,ν,hc.ri (by rw[hs];exact hd) (by simp[VR]) a.defers⟩,by rw[GG,hs],by rw[put_defers,abF],fun i hi=>(Mm hd hi).trans (tf i hi)⟩
 simp only at h
 split at h
 ·rename_i hg
  have:Region.wanted o (yielded ops a.tmps)=true:=by simp[Region.wanted,hg]
  rw[if_pos this]
  exact cO h
 ·rename_i j want hg
  split at h
  ·cases h
  ·rename_i t ht
   have ht':(ops[j]?).bind (·.dst)=some t:=by rw[←Array.getElem?_toList];exact ht
   have hy: ∀b,σ.T t= .val .bool b→yielded ops a.tmps j=some b:=by
    intro b hb
    obtain⟨⟨M,ν,hc⟩,hs,_,_⟩:=hI
    have h1:=hc.tmp t
    rw[hb]at h1
    have h1:=h1.bool
    have h2:a.tmps[t]? =some (.bool b):=by
     rw[Array.getD_eq_getD_getElem?]at h1
     cases h3:a.tmps[t]? with
     |none=>rw[h3]at h1;simp[undef]at h1
     |some v=>rw[h3]at h1;simpa using h1
    simp[yielded,ht',h2]
   split at h
   ·rename_i b hb
    have mN:σ.put t (.val .bool b)=σ:=by rw[←hb];exact Ac σ t
    have hw:=hy b hb
    cases want<;>cases b
    ·rw[if_pos (by simp[Region.wanted,hg,hw])]
     rw[mN]at h;exact cO h
    ·rw[if_neg (by simp[Region.wanted,hg,hw])]
     rw[mN]at h;exact oO _ _ h
    ·rw[if_neg (by simp[Region.wanted,hg,hw])]
     rw[mN]at h;exact oO _ _ h
    ·rw[if_pos (by simp[Region.wanted,hg,hw])]
     rw[mN]at h;exact cO h
   ·rename_i hb
    have yG: ¬Region.wanted o (yielded ops a.tmps)=true:=by
     obtain⟨⟨M,ν,hc⟩,hs,_,_⟩:=hI
     have h1:=hc.tmp t
     rw[hb]at h1
     simp only[VR]at h1
     have h2: ∀b,a.tmps[t]? ≠some (.bool b):=by
      intro b dJ
      rw[Array.getD_eq_getD_getElem?,dJ]at h1
      simp[undef]at h1
     have h3:yielded ops a.tmps j=none:=by
      unfold yielded
      rw[ht']
      show(match a.tmps[t]? with|some (.bool b)=>some b|_=>none)=none
      split
      ·rename_i b dJ;exact absurd dJ (h2 b)
      ·rfl
     simp[Region.wanted,hg,h3]
    rw[if_neg yG]
    exact oO _ _ h
   ·cases h
theorem Ad(hE:oN P E){ops:Array Oper}: ∀(l:List Oper) (i:Nat) (σ:St) (lg:Log) (a:Act) (w:World) (K:St→Log→Option α),Inv c E σ a w→Nr E ops.toList l i σ lg K=some r→
  (∀σ' Z1 a' w',K σ' Z1=some r→Inv c E σ' a' w'→Q .normal a' w')→wpList P ops Q l a w
 |[],i,σ,lg,a,w,K,hI,h,hn=>hn _ _ _ _ h hI
 |o::l,i,σ,lg,a,w,K,hI,h,hn=>by
  unfold Nr at h
  refine wpList_step fun K' hK'=> ?_
  exact xG hE hI h fun σ' a' w' rd wr h' tC=>hK' _ _ (Ad hE l (i+1) σ' _ a' w' K tC h' hn)
theorem GH(hI:Inv c E σ a w){x:Operand}{A B:St→Option α}(h:CI E x σ A B=some r): ∃b,a.eval x= .bool b∧(if b then A σ else B σ)=some r:=by
 unfold CI at h
 split at h
 ·rename_i b hb
  refine⟨b,hI.bool hb,?_⟩
  split at h
  ·rename_i t
   have hb:σ.T t= .val .bool b:=hb
   have mN:σ.put t (.val .bool b)=σ:=by rw[←hb];exact Ac σ t
   cases b
   ·rw[mN]at h;exact h
   ·rw[mN]at h;exact h
  ·cases b<;>exact h
 ·cases h
end VM
end
section
namespace VM
open Go
variable{P:Program}{E:Env}{o:Oper}{a:Act}{w:World}{M:Nat→Prop}{ν:Nat→Value}{σ:St}{c:Ctx}{α:Type}{r:α}{next:Act→World→Prop}{Q:Exit→Act→World→Prop}
def mix{β:Type}(A B:Nat→β):Nat→β:=fun i=>if i%2=0 then A (i/2)else B (i/2)
theorem fe{β:Type}(A B:Nat→β)(i:Nat):mix A B (2*i)=A i:=by
 unfold mix
 rw[if_pos (by omega),show 2*i/2=i from by omega]
theorem q6{β:Type}(A B:Nat→β)(i:Nat):mix A B (2*i+1)=B i:=by
 unfold mix
 rw[if_neg (by omega),show(2*i+1)/2=i from by omega]
theorem afS{β:Type}{A B A' B':Nat→β}(hl: ∀i,A i=A' i)(hr: ∀i,B i=B' i):mix A B=mix A' B':=by
 funext i;unfold mix;rw[hl,hr]
def aR.re(f:Nat→Nat):aR→aR
 | .ed τ x p j=> .ed τ x p (f j)
 |e=>e
theorem ER.re{v:Value}{f:Nat→Nat}{e:aR}:ER w M v (e.re f)↔ER w M v e:=by cases e<;>simp[aR.re,ER]
theorem aR.nI{f:Nat→Nat}{e:aR}:(e.re f).mut↔e.mut:=by cases e<;>simp[aR.re,aR.mut]
theorem aR.Mn{f g:Nat→Nat}{e e':aR}:(e.re f).iA (e'.re g)↔e.iA e':=by cases e<;>cases e'<;>simp[aR.re,aR.iA]
def ml(i:Nat):Nat:=2*i
def mr(i:Nat):Nat:=2*i+1
def fM(A B:Nat→Option aR):Nat→Option aR:=fun i=>if i%2=0 then(A (i/2)).map (aR.re ml)else(B (i/2)).map (aR.re mr)
theorem tU(A B:Nat→Option aR)(i:Nat):fM A B (2*i)=(A i).map (aR.re ml):=by
 unfold fM
 rw[if_pos (by omega),show 2*i/2=i from by omega]
theorem qc(A B:Nat→Option aR)(i:Nat):fM A B (2*i+1)=(B i).map (aR.re mr):=by
 unfold fM
 rw[if_neg (by omega),show(2*i+1)/2=i from by omega]
theorem fi{A B:Nat→Option aR}{i:Nat}{e:aR}(h:A i=some e):fM A B (2*i)=some (e.re ml):=by rw[tU,h];rfl
theorem qd{A B:Nat→Option aR}{i:Nat}{e:aR}(h:B i=some e):fM A B (2*i+1)=some (e.re mr):=by rw[qc,h];rfl
theorem Ey{A B:Nat→Option aR}{i:Nat}:fM A B (2*i)≠none↔A i≠none:=by rw[tU];cases A i<;>simp
theorem Ez{A B:Nat→Option aR}{i:Nat}:fM A B (2*i+1)≠none↔B i≠none:=by rw[qc];cases B i<;>simp
theorem nJ(A B:Nat→Option aR)(i:Nat)(v:Option aR):bu (fM A B) (2*i) (v.map (aR.re ml))=fM (bu A i v) B:=by
 funext k
 by_cases hk:k=2*i
 ·subst hk;rw[ak,tU,ak]
 ·rw[an _ _ hk]
  unfold fM
  by_cases h2:k%2=0
  ·rw[if_pos h2,if_pos h2,an _ _ (by omega)]
  ·rw[if_neg h2,if_neg h2]
theorem Ae(A B:Nat→Option aR)(i:Nat)(v:Option aR):bu (fM A B) (2*i+1) (v.map (aR.re mr))=fM A (bu B i v):=by
 funext k
 by_cases hk:k=2*i+1
 ·subst hk;rw[ak,qc,ak]
 ·rw[an _ _ hk]
  unfold fM
  by_cases h2:k%2=0
  ·rw[if_pos h2,if_pos h2]
  ·rw[if_neg h2,if_neg h2,an _ _ (by omega)]
theorem Af(A B:Nat→Value)(i:Nat)(v:Value):cB (mix A B) (2*i+1) v=mix A (cB B i v):=by
 funext k
 unfold cB mix
 by_cases hk:k=2*i+1
 ·subst hk;rw[if_pos rfl,if_neg (by omega)]
  show v=if(2*i+1)/2=i then v else B ((2*i+1)/2)
  rw[if_pos (by omega)]
 ·rw[if_neg hk]
  by_cases h2:k%2=0
  ·rw[if_pos h2,if_pos h2]
  ·rw[if_neg h2,if_neg h2]
   show B (k/2)=if k/2=i then v else B (k/2)
   rw[if_neg (by omega)]
theorem Mem.left{H A:Nat→Option aR}{νA:Nat→Value}(h:Mem c (fM H A) w M (mix ν νA)):Mem c H w M ν:=
 ⟨fun i e hi=>by have:=h.jk (2*i) _ (fi hi);rw[fe]at this;exact ER.re.1 this,
  fun i j e e' b oH hi hm hj gQ=>by have:=h.wu (2*i) (2*j) _ _ b (by omega) (fi hi) (aR.nI.2 hm) (fi hj) (aR.nI.2 gQ);rwa [fe,fe]at this,
  fun i e b hi hm=>by have:=h.new (2*i) _ b (fi hi) (aR.nI.2 hm);rwa [fe]at this,
  fun i e l b hi=>by have:=h.uN (2*i) e l b (fi hi);rwa [fe]at this,
  fun i τ x p j hi=>by
   obtain⟨h1,b,h2,h3⟩:=h.ed (2*i) τ x p (ml j) (fi hi)
   rw[fe]at h2
   unfold ml at h1 h3
   rw[fe]at h3
   exact⟨Ey.1 h1,b,h2,h3⟩,
  h.sub,h.zN,h.frame,h.size,h.rn,h.os,h.tape,h.output⟩
theorem Mem.right{H A:Nat→Option aR}{νA:Nat→Value}(h:Mem c (fM H A) w M (mix ν νA)):Mem c A w M νA:=
 ⟨fun i e hi=>by have:=h.jk (2*i+1) _ (qd hi);rw[q6]at this;exact ER.re.1 this,
  fun i j e e' b oH hi hm hj gQ=>by have:=h.wu (2*i+1) (2*j+1) _ _ b (by omega) (qd hi) (aR.nI.2 hm) (qd hj) (aR.nI.2 gQ);rwa [q6,q6]at this,
  fun i e b hi hm=>by have:=h.new (2*i+1) _ b (qd hi) (aR.nI.2 hm);rwa [q6]at this,
  fun i e l b hi=>by have:=h.uN (2*i+1) e l b (qd hi);rwa [q6]at this,
  fun i τ x p j hi=>by
   obtain⟨h1,b,h2,h3⟩:=h.ed (2*i+1) τ x p (mr j) (qd hi)
   rw[q6]at h2
   unfold mr at h1 h3
   rw[q6]at h3
   exact⟨Ez.1 h1,b,h2,h3⟩,
  h.sub,h.zN,h.frame,h.size,h.rn,h.os,h.tape,h.output⟩
theorem Mem.TP{H:Nat→Option aR}(νA:Nat→Value)(h:Mem c H w M ν):Mem c (fM H (fun _=>none)) w M (mix ν νA):=by
 have key: ∀i e,fM H (fun _=>none) i=some e→ ∃j e0,i=2*j∧H j=some e0∧e=e0.re ml:=by
  intro i e hi
  unfold fM at hi
  by_cases h2:i%2=0
  ·rw[if_pos h2]at hi
   obtain⟨e0,h3,h4⟩:=Option.map_eq_some_iff.1 hi
   exact⟨i/2,e0,by omega,h3,h4.symm⟩
  ·rw[if_neg h2]at hi;cases hi
 refine⟨fun i e hi=> ?_,fun i j e e' b oH hi hm hj gQ=> ?_,fun i e b hi hm=> ?_,fun i e l b hi=> ?_,fun i τ x p j hi=> ?_,h.sub,h.zN,h.frame,h.size,h.rn,h.os,h.tape,h.output⟩
 ·obtain⟨j,e0,rfl,hj,rfl⟩:=key i e hi;rw[fe];exact ER.re.2 (h.jk j e0 hj)
 ·obtain⟨i',e1,rfl,lG,rfl⟩:=key i e hi;obtain⟨j',e2,rfl,S9,rfl⟩:=key j e' hj
  rw[fe,fe];exact h.wu i' j' e1 e2 b (by omega) lG (aR.nI.1 hm) S9 (aR.nI.1 gQ)
 ·obtain⟨j,e0,rfl,hj,rfl⟩:=key i e hi;rw[fe];exact h.new j e0 b hj (aR.nI.1 hm)
 ·obtain⟨j,e0,rfl,hj,he⟩:=key i _ hi
  cases e0<;>simp only[aR.re]at he<;>cases he
  rw[fe];exact h.uN j e l b hj
 ·obtain⟨k,e0,rfl,hk,he⟩:=key i _ hi
  cases e0<;>simp only[aR.re]at he<;>cases he
  obtain⟨h1,b,h2,h3⟩:=h.ed k _ _ _ _ hk
  refine⟨Ey.2 h1,b,by rw[fe];exact h2,?_⟩
  unfold ml
  rw[fe];exact h3
theorem pd.left{H A H' A':Nat→Option aR}{νA ν' NK:Nat→Value}(g:pd (fM H A) (mix ν νA) (fM H' A') (mix ν' NK)):pd H ν H' ν':=
 ⟨fun i e hi=>by
   obtain⟨e',h1,h2⟩:=g.jk (2*i) _ (fi hi)
   rw[tU]at h1
   obtain⟨e0,h3,rfl⟩:=Option.map_eq_some_iff.1 h1
   exact⟨e0,h3,aR.Mn.1 h2⟩,
  fun i hi=>by have:=g.head (2*i) (Ey.2 hi);rwa [fe,fe]at this⟩
theorem pd.right{H A H' A':Nat→Option aR}{νA ν' NK:Nat→Value}(g:pd (fM H A) (mix ν νA) (fM H' A') (mix ν' NK)):pd A νA A' NK:=
 ⟨fun i e hi=>by
   obtain⟨e',h1,h2⟩:=g.jk (2*i+1) _ (qd hi)
   rw[qc]at h1
   obtain⟨e0,h3,rfl⟩:=Option.map_eq_some_iff.1 h1
   exact⟨e0,h3,aR.Mn.1 h2⟩,
  fun i hi=>by have:=g.head (2*i+1) (Ez.2 hi);rwa [q6,q6]at this⟩
theorem Mem.move{H A:Nat→Option aR}{νA:Nat→Value}(h:Mem c (fM H A) w M (mix ν νA)){i j:Nat}{e e1:aR}(hi:H i=some e)(hm:e.mut)(hj:A j=none)
  (Kh:(e1=e∧ ∀τ x p k,e≠ .ed τ x p k)∨ ∃τ x p k k',e= .ed τ x p k∧e1= .ed τ x p k'∧A k'≠none∧νA k'=ν k):
  Tr c (fM H A) w M (mix ν νA) (fM (bu H i (some .gone)) (bu A j (some e1))) w M (mix ν (cB νA j (ν i))):=by
 have hg:=Tr.gone h (2*i)
 have hgo:(some aR.gone)=(some aR.gone).map (aR.re ml):=rfl
 rw[hgo,nJ]at hg
 have Pr:=fi (B:=A) hi
 have hER:ER w M (ν i) (e1.re mr):=by
  have h1:=h.jk (2*i) _ Pr
  rw[fe]at h1
  have h1:=ER.re.1 h1
  rcases Kh with⟨rfl,_⟩|⟨τ,x,p,k,k',rfl,rfl,_,_⟩
  ·exact ER.re.2 h1
  ·exact h1
 have h2:=Mem.xE hg.mem (id:=2*j+1) (v:=ν i) (e:=e1.re mr) (fun e' tz=>by rw[qc,hj]at tz;cases tz)
  hER
  (fun b hb k e' hk gQ=>by
   by_cases S7:k=2*i
   ·subst S7;rw[tU,ak]at hk;cases hk;simp[aR.re,aR.mut]at gQ
   ·have hk3:fM H A k=some e':=by
     have:=congrFun (nJ H A i (some .gone)) k
     rw[an _ _ S7]at this
     rw[this];exact hk
    have:=h.wu (2*i) k _ e' b (Ne.symm S7) Pr (aR.nI.2 hm) hk3 gQ
    rw[fe]at this
    exact this hb)
  (fun b hb=>by have:=h.new (2*i) _ b Pr (aR.nI.2 hm);rw[fe]at this;exact this hb)
  (fun b e0 l0 he hb=>by
   rcases Kh with⟨rfl,_⟩|⟨τ,x,p,k,k',rfl,rfl,_,_⟩
   ·cases e1<;>simp only[aR.re]at he<;>cases he
    have:=h.uN (2*i) e0 l0 b Pr;rw[fe]at this;exact this hb
   ·simp[aR.re]at he)
  (.inl (by rw[qc,hj];rfl))
  (fun τ x p k he=>by
   rcases Kh with⟨rfl,hn⟩|⟨τ,x,p,k,k',rfl,rfl,hk,hνk⟩
   ·cases e1<;>simp only[aR.re]at he<;>cases he
    exact absurd rfl (hn _ _ _ _)
   ·simp only[aR.re]at he
    cases he
    obtain⟨_,b,h4,h5⟩:=h.ed (2*i) _ _ _ _ Pr
    rw[fe]at h4
    have hkj:k'≠j:=fun e=>hk (e▸hj)
    refine⟨?_,b,h4,?_⟩
    ·rw[an _ _ (by unfold mr;omega)]
     unfold mr
     exact Ez.2 hk
    ·unfold ml at h5
     rw[fe]at h5
     rw[h5,←hνk]
     have:cB (mix ν νA) (2*j+1) (ν i) (mr k')=mix ν νA (mr k'):=by
      unfold cB mr;rw[if_neg (by omega)]
     rw[this];unfold mr;rw[q6])
 have TQ:some (e1.re mr)=(some e1).map (aR.re mr):=rfl
 rw[TQ,Ae,Af]at h2
 refine⟨h2,.refl w M,⟨fun k e' hk=> ?_,fun k hk=> ?_⟩⟩
 ·by_cases h3:k%2=0
  ·obtain⟨k',rfl⟩: ∃k',k=2*k':=⟨k/2,by omega⟩
   by_cases Ab:k'=i
   ·subst Ab;exact⟨.gone,by rw[tU,ak];rfl,aR.kT _⟩
   ·exact⟨e',by rw[tU]at hk ⊢;rw[an _ _ Ab];exact hk,.refl e'⟩
  ·obtain⟨k',rfl⟩: ∃k',k=2*k'+1:=⟨k/2,by omega⟩
   rw[qc]at hk ⊢
   have Ab:k'≠j:=fun e=>by rw[e,hj]at hk;cases hk
   exact⟨e',by rw[an _ _ Ab];exact hk,.refl e'⟩
 ·by_cases h3:k%2=0
  ·obtain⟨k',rfl⟩: ∃k',k=2*k':=⟨k/2,by omega⟩
   rw[fe,fe]
  ·obtain⟨k',rfl⟩: ∃k',k=2*k'+1:=⟨k/2,by omega⟩
   rw[q6,q6]
   have Ab:k'≠j:=fun e=>by rw[qc,e,hj]at hk;exact hk rfl
   simp[cB,Ab]
theorem Mem.fresh{H A:Nat→Option aR}{νA:Nat→Value}(h:Mem c (fM H A) w M (mix ν νA)){j:Nat}(hj:A j=none)(e:Ty)(ad:Option Addr):
  Tr c (fM H A) w M (mix ν νA) (fM H (bu A j (some (.own e [])))) w M (mix ν (cB νA j (.slice ad 0 0))):=by
 have:=Tr.nothing h (id:=2*j+1) (by rw[qc,hj];rfl) e ad
 have TQ:some (aR.own e [])=(some (aR.own e [])).map (aR.re mr):=rfl
 rw[TQ,Ae,Af]at this
 exact this
structure Cut(c:Ctx)(σ acc:St)(tm:Array Value)(w:World)(M:Nat→Prop)(ν νA:Nat→Value):Prop where
 mem:Mem c (fM σ.H acc.H) w M (mix ν νA)
 src: ∀i,VR w M σ.H ν (σ.T i) (tm.getD i undef)
 dst: ∀i,VR w M acc.H νA (acc.T i) (tm.getD i undef)
theorem Cut.tr{acc:St}{tm:Array Value}{νA:Nat→Value}(h:Cut c σ acc tm w M ν νA){H' A':Nat→Option aR}{M':Nat→Prop}{NK:Nat→Value}(t:Tr c (fM σ.H acc.H) w M (mix ν νA) (fM H' A') w M' (mix ν NK)){s:Nat}{x:a7}(hx:VR w M' A' NK x (tm.getD s undef)):
  Cut c ⟨σ.T,H'⟩ ⟨(acc.put s x).T,A'⟩ tm w M' ν NK:=by
 refine⟨t.mem,fun i=>VR.bP t.bP t.goes.left (h.src i),fun i=> ?_⟩
 show VR w M' A' NK ((acc.put s x).T i) _
 by_cases hi:i=s
 ·subst hi;rw[qb];exact hx
 ·rw[vg _ _ hi];exact VR.bP t.bP t.goes.right (h.dst i)
def P4(A:Nat→Option aR)(s:Nat):Prop:=A (16*s+13)=none∧A (16*s+14)=none∧A (16*s+15)=none
theorem iW{q:Nat×CM}{L:List (Nat×CM)}{A:Nat→Option aR}(hF:gA (q::L)=true)(hN: ∀p∈q::L,P4 A p.1):
  gA L=true∧(∀p∈L,P4 A p.1)∧
   ∀(A':Nat→Option aR) (d:Nat) (v:Option aR),(d=16*q.1+13∨d=16*q.1+14∨d=16*q.1+15)→(∀p∈L,P4 A' p.1)→ ∀p∈L,P4 (bu A' d v) p.1:=by
 unfold gA at hF
 rw[Bool.and_eq_true,List.all_eq_true]at hF
 refine⟨hF.2,fun p hp=>hN p (List.mem_cons_of_mem _ hp),fun A' d v hd hN' p hp=> ?_⟩
 have gk:p.1≠q.1:=fun e=>by
  have:=hF.1 p hp
  rw[e]at this
  simp at this
 obtain⟨h1,h2,h3⟩:=hN' p hp
 exact⟨by rw[an _ _ (by omega)];exact h1,by rw[an _ _ (by omega)];exact h2,by rw[an _ _ (by omega)];exact h3⟩
theorem dp{tm:Array Value}: ∀(L:List (Nat×CM)) (σ acc:St) (M:Nat→Prop) (νA:Nat→Value) (K:St→Option α),Cut c σ acc tm w M ν νA→gA L=true→(∀q∈L,P4 acc.H q.1)→eX L σ acc K=some r→
  ∃TR M' NK,K TR=some r∧Core c TR tm w M' NK
 |[],σ,acc,M,νA,K,hC,_,_,h=>⟨acc,M,νA,h,hC.mem.right,hC.dst⟩
 |(s,.v τ)::L,σ,acc,M,νA,K,hC,hF,hN,h=>by
  obtain⟨FZ,JW,NL⟩:=iW hF hN
  unfold eX at h
  obtain⟨y,rd,ups,h,hy⟩:=zl hC.mem.left (hC.src s) h
  rcases hy with⟨rfl,hV⟩|⟨id,e,l,rfl,aU,hV⟩
  ·exact dp L σ _ M νA K (hC.tr (.refl hC.mem) (x:= .val τ y) (by simp only[VR];exact hV)) FZ JW h
  ·obtain⟨M2,fb,_,Ek⟩:=Tr.freeze hC.mem (id:=2*id) (fi aU)
   have TQ:some (aR.lj e l)=(some (aR.lj e l)).map (aR.re ml):=rfl
   rw[TQ,nJ]at fb
   refine dp L _ _ M2 νA K (hC.tr fb (x:= .val τ y) ?_) FZ JW h
   simp only[VR]
   exact hV M2 (fun b=>by rw[Ek b,fe])
 |(s,.own e)::L,σ,acc,M,νA,K,hC,hF,hN,h=>by
  obtain⟨FZ,JW,NL⟩:=iW hF hN
  unfold eX at h
  have hs:=hC.src s
  split at h
  ·rename_i hT
   have hj:=(hN _ List.mem_cons_self).2.1
   rw[hT]at hs
   obtain⟨ad,hv⟩:=VR.emp.1 hs
   refine dp L σ _ M _ K (hC.tr (hC.mem.fresh hj e ad) (x:= .ref (16*s+14)) ?_) FZ (NL _ _ _ (.inr (.inl rfl)) JW) h
   simp only[VR]
   exact⟨by rw[ak];simp,by rw[hv];simp[cB]⟩
  ·rename_i id hT
   rw[hT]at hs
   simp only[VR]at hs
   split at h
   ·rename_i e' l aU
    obtain⟨e1,h⟩:=ba h
    cases e1
    have hj:=(hN _ List.mem_cons_self).2.1
    refine dp L _ _ M _ K (hC.tr (hC.mem.move aU trivial hj (.inl ⟨rfl,fun _ _ _ _=>by simp⟩)) (x:= .ref (16*s+14)) ?_) FZ (NL _ _ _ (.inr (.inl rfl)) JW) h
    simp only[VR]
    exact⟨by rw[ak];simp,by rw[hs.2];simp[cB]⟩
   ·cases h
  ·cases h
 |(s,.obj τ)::L,σ,acc,M,νA,K,hC,hF,hN,h=>by
  obtain⟨FZ,JW,NL⟩:=iW hF hN
  unfold eX at h
  have hs:=hC.src s
  split at h
  ·rename_i id hT
   rw[hT]at hs
   split at h
   ·rename_i υ x aU
    obtain⟨e1,h⟩:=ba h
    subst e1
    have hj:=(hN _ List.mem_cons_self).2.1
    simp only[VR]at hs
    obtain⟨e,he,kC⟩:=hs
    rw[aU]at he;cases he
    simp only[AR]at kC
    obtain⟨_,b,hb,hv⟩:=kC
    refine dp L _ _ M _ K (hC.tr (hC.mem.move aU trivial hj (.inl ⟨rfl,fun _ _ _ _=>by simp⟩)) (x:= .fR (16*s+14) []) ?_) FZ (NL _ _ _ (.inr (.inl rfl)) JW) h
    simp only[VR]
    exact⟨_,ak _ _ _,trivial,b,by simp[cB,hb],hv⟩
   ·
    rename_i υ x q k aU
    obtain⟨z,ups,M2,hK,fb,ag4,b,cs,t,hb,hg,Ek,ic⟩: ∃z ups M2,cn υ τ z (fun y=>eX L ((σ.rB ups).il id (some .gone)) ((acc.put s (.fR (16*s+14) [])).il (16*s+14) (some (.obj τ y))) K)=some r∧
      Tr c (fM σ.H acc.H) w M (mix ν νA) (fM (cc σ.H ups) acc.H) w M2 (mix ν νA)∧cc σ.H ups id=some (.ed υ x q k)∧ ∃b cs t,ν id= .pointer (some ⟨b,0,none⟩)∧w.heap[b]? =some (.cells cs t (0,0))∧M2 b∧Rd w M2 υ cs.toList z:=by
     have ag5:=fi (B:=acc.H) aU
     unfold yz at h
     split at h
     ·rename_i e l hk
      have gk:id≠k:=fun e=>by rw[e,hk]at aU;cases aU
      obtain⟨z,ups,M2,hK,fb,_,hc2,b,cs,t,hb,hg,Ek,ic⟩:=tS (H:=fM σ.H acc.H) hC.mem (id:=2*id) (j:=2*k) (x:=x) (q:=q)
       (k:=fun z _=>cn υ τ z fun y=>eX L ((σ.rB [(k,some (.lj e l))]).il id (some .gone)) ((acc.put s (.fR (16*s+14) [])).il (16*s+14) (some (.obj τ y))) K) ag5 (by
        unfold yz
        rw[fi hk]
        exact h)
      rw[fe]at hb
      rcases hc2 with⟨e2,l2,h2,_⟩|⟨e2,l2,h2,rfl⟩
      ·rw[fi hk]at h2;simp[aR.re]at h2
      ·rw[fi hk]at h2
       simp only[aR.re,Option.some.injEq]at h2
       have TQ:some (aR.lj e l)=(some (aR.lj e l)).map (aR.re ml):=rfl
       have rL:Tr c (fM σ.H acc.H) w M (mix ν νA) (bu (fM σ.H acc.H) (2*k) (some (.lj e l))) w M2 (mix ν νA):=by
        cases h2;exact fb
       rw[TQ,nJ]at rL
       exact⟨z,_,M2,hK,rL,by show bu σ.H k _ id=_;rw[an _ _ gk];exact aU,b,cs,t,hb,hg,Ek,ic⟩
     ·rename_i e l hk
      obtain⟨z,ups,M2,hK,fb,_,hc2,b,cs,t,hb,hg,Ek,ic⟩:=tS (H:=fM σ.H acc.H) hC.mem (id:=2*id) (j:=2*k) (x:=x) (q:=q)
       (k:=fun z _=>cn υ τ z fun y=>eX L ((σ.rB []).il id (some .gone)) ((acc.put s (.fR (16*s+14) [])).il (16*s+14) (some (.obj τ y))) K) ag5 (by
        unfold yz
        rw[fi hk]
        exact h)
      rw[fe]at hb
      rcases hc2 with⟨e2,l2,h2,rfl⟩|⟨e2,l2,h2,_⟩
      ·exact⟨z,[],M2,hK,fb,aU,b,cs,t,hb,hg,Ek,ic⟩
      ·rw[fi hk]at h2;simp[aR.re]at h2
     ·cases h
    obtain⟨e1,hK⟩:=ba hK
    subst e1
    have hC2:Cut c ⟨σ.T,cc σ.H ups⟩ acc tm w M2 ν νA:=⟨fb.mem,fun i=>VR.bP fb.bP fb.goes.left (hC.src i),fun i=>VR.bP fb.bP fb.goes.right (hC.dst i)⟩
    have rp:=Tr.agy (e':= .obj υ z) fb.mem (fi ag4) trivial trivial rfl (fun _ _=>by simp) (by rw[fe];simp only[ER];exact⟨b,cs,t,hb,hg,Ek,ic⟩) (fun _ _ _ _ h=>by cases h)
    have TQ:some (aR.obj υ z)=(some (aR.obj υ z)).map (aR.re ml):=rfl
    rw[TQ,nJ]at rp
    have hC3:Cut c ⟨σ.T,bu (cc σ.H ups) id (some (.obj υ z))⟩ acc tm w M2 ν νA:=⟨rp.mem,fun i=>VR.bP rp.bP rp.goes.left (hC2.src i),fun i=>VR.bP rp.bP rp.goes.right (hC2.dst i)⟩
    have hj:=(hN _ List.mem_cons_self).2.1
    simp only[VR]at hs
    obtain⟨e,he,kC⟩:=hs
    rw[aU]at he;cases he
    simp only[AR]at kC
    obtain⟨_,b',dJ,hv⟩:=kC
    rw[hb]at dJ;cases dJ
    have hmv:=hC3.mem.move (ak _ _ _) trivial hj (.inl ⟨rfl,fun _ _ _ _=>by simp⟩)
    rw[tR]at hmv
    have JQ:(σ.rB ups).il id (some .gone)=⟨σ.T,bu (cc σ.H ups) id (some .gone)⟩:=by
     have h2:σ.rB ups=⟨σ.T,cc σ.H ups⟩:=by rw[←Kd,←Ke ups σ]
     rw[h2];rfl
    rw[JQ]at hK
    refine dp L _ _ M2 _ K (hC3.tr hmv (x:= .fR (16*s+14) []) ?_) FZ (NL _ _ _ (.inr (.inl rfl)) JW) hK
    simp only[VR]
    exact⟨_,ak _ _ _,trivial,b,by simp[cB,hb],hv⟩
   ·cases h
  ·cases h
 |(s,.ed τ q e)::L,σ,acc,M,νA,K,hC,hF,hN,h=>by
  obtain⟨FZ,JW,NL⟩:=iW hF hN
  unfold eX at h
  have hs:=hC.src s
  split at h
  ·rename_i id hT
   rw[hT]at hs
   split at h
   ·rename_i υ x q' k aU
    obtain⟨hpq,h1⟩:=bM h
    clear h
    have:=wD hpq
    subst this
    split at h1
    ·rename_i e' l hk
     obtain⟨e1,h2⟩:=ba h1
     clear h1
     subst e1
     obtain⟨e2,h⟩:=ba h2
     cases e2
     have gk:id≠k:=fun e=>by rw[e,hk]at aU;cases aU
     obtain⟨am2,am3,_⟩:=hN _ List.mem_cons_self
     simp only[VR]at hs
     obtain⟨e,he,kC⟩:=hs
     rw[aU]at he;cases he
     simp only[AR]at kC
     obtain⟨_,b,hb,hv⟩:=kC
     have pA:=hC.mem.move hk trivial am2 (.inl ⟨rfl,fun _ _ _ _=>by simp⟩)
     have mj:bu σ.H k (some .gone) id=some (.ed υ x q k):=by rw[an _ _ gk];exact aU
     have uX:=pA.mem.move mj trivial (j:=16*s+14) (e1:= .ed υ x q (16*s+13)) (by rw[an _ _ (by omega)];exact am3)
      (.inr ⟨υ,x,q,k,16*s+13,rfl,rfl,by rw[ak];simp,by simp[cB]⟩)
     refine dp L _ _ M _ K (hC.tr (pA.trans uX) (s:=s) (x:= .fR (16*s+14) []) ?_) FZ (NL _ _ _ (.inr (.inl rfl)) (NL _ _ _ (.inl rfl) JW)) h
     simp only[VR]
     exact⟨_,ak _ _ _,trivial,b,by simp[cB,hb],hv⟩
    ·cases h1
   ·cases h
  ·cases h
 |(s,.same s')::L,σ,acc,M,νA,K,hC,hF,hN,h=>by
  obtain⟨FZ,JW,NL⟩:=iW hF hN
  unfold eX at h
  split at h
  ·rename_i i j j' h1 h2 h3
   obtain⟨hb,h⟩:=bM h
   have hb:=Nat.eq_of_beq_eq_true hb
   have e1:=hC.src s
   have e2:=hC.src s'
   have e3:=hC.dst s'
   rw[h1]at e1;rw[h2]at e2;rw[h3]at e3
   simp only[VR]at e1 e2 e3
   refine dp L σ _ M νA K (hC.tr (.refl hC.mem) (x:= .ref j') ?_) FZ JW h
   simp only[VR]
   exact⟨e3.1,by rw[e1.2,hb,←e2.2,e3.2]⟩
  ·cases h
 |(s,.io τ)::L,σ,acc,M,νA,K,hC,hF,hN,h=>by
  obtain⟨FZ,JW,NL⟩:=iW hF hN
  unfold eX at h
  have hs:=hC.src s
  split at h
  ·rename_i id hT
   rw[hT]at hs
   obtain⟨_,h⟩:=bM h
   split at h
   ·rename_i υ x aU
    obtain⟨e1,h⟩:=ba h
    subst e1
    have hj:=(hN _ List.mem_cons_self).2.2
    simp only[VR]at hs
    obtain⟨e,he,kC⟩:=hs
    rw[aU]at he;cases he
    simp only[AR]at kC
    obtain⟨_,b,hb,hv⟩:=kC
    refine dp L _ _ M _ K (hC.tr (hC.mem.move aU trivial hj (.inl ⟨rfl,fun _ _ _ _=>by simp⟩)) (x:= .fR (16*s+15) []) ?_) FZ (NL _ _ _ (.inr (.inr rfl)) JW) h
    simp only[VR]
    exact⟨_,ak _ _ _,trivial,b,by simp[cB,hb],hv⟩
   ·cases h
  ·cases h
 |(s,.fn f τ)::L,σ,acc,M,νA,K,hC,hF,hN,h=>by
  obtain⟨FZ,JW,NL⟩:=iW hF hN
  unfold eX at h
  have hs:=hC.src s
  split at h
  ·rename_i f' cs hT
   rw[hT]at hs
   obtain⟨hb,h1⟩:=bM h
   clear h
   have hb:=Nat.eq_of_beq_eq_true hb
   subst hb
   simp only[VR]at hs
   obtain⟨us,hv,TC⟩:=hs
   obtain⟨y,rd,ups,h,hy⟩:=z7 hC.mem.left TC h1
   split at h
   ·refine dp L σ _ M νA K (hC.tr (.refl hC.mem) (x:= .F8 f (mM τ y)) ?_) FZ JW h
    simp only[VR]
    exact⟨us,hv,fT.free (hy rfl)⟩
   ·cases h
  ·cases h
theorem tV(hI:Inv c E σ a w){L:Option (List (Nat×CM))}(hL: ∀L',L=some L'→gA L'=true){K:St→Option α}(h:rH L σ K=some r): ∃σ',K σ'=some r∧Inv c E σ' a w:=by
 unfold rH at h
 split at h
 ·exact⟨σ,h,hI⟩
 ·have S8:=hL _ rfl
  obtain⟨⟨M,ν,hc⟩,hs,hd⟩:=hI
  obtain⟨TR,M',NK,hK,ag6⟩:=dp (tm:=a.tmps) _ σ ⟨fun _=> .any,fun _=>none⟩ M (fun _=>undef) K ⟨hc.mem.TP _,hc.tmp,fun i=>by simp[VR]⟩ S8 (fun _ _=>⟨rfl,rfl,rfl⟩) h
  exact⟨TR,hK,⟨M',NK,ag6⟩,hs,hd⟩
end VM
end
