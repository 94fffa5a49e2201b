/- A part of the proof of AwardDrawn of layer 25: a machine that reads a function of the program as an equation between values. -/
import Derived.Test.YtocmlaipoebfeaaGreatVm3
import Derived.Scope
set_option linter.all false
section
namespace VM
open Go
variable{P:Program}{E:Env}{o:Oper}{a:Act}{w:World}{M:Nat→Prop}{ν:Nat→Value}{σ:St}{c:Ctx}{α:Type}{r:α}{next:Act→World→Prop}{Q:Exit→Act→World→Prop}
theorem Mem.call{H:Nat→Option aQ}(h:Mem c H w M ν){hs:List Nat}{M0 M':Nat→Prop}{w':World}(hM: ∀b,M0 b→M b)(hhs: ∀b∈hs,M b)
  (qf: ∀b∈hs,∀i e,H i=some e→e.mut→eh (ν i)≠some b) (jx: ∀b∈hs,c.B≤b∨c.may b) (rf: ∀b∈hs,c.M0 b→M' b) (L:Left w M0 hs w' M'):
  Mem c H w' (fun b=>M' b∨(M b∧b∉hs)) ν∧da w M w' (fun b=>M' b∨(M b∧b∉hs)):=by
 have hk:da w M w' (fun b=>M' b∨(M b∧b∉hs)):=by
  refine⟨L.size,fun b hb hm=>L.frame b hb (fun hh=>hm (hhs b hh)),fun b hb hm=> ?_⟩
  rcases hm with hm|hm
  ·exact(L.less b hb hm).elim (hM b) (hhs b)
  ·exact hm.1
 refine⟨⟨fun i e hi=>(h.ix i e hi).br hk fun hm b hb=> ?_,h.uU,h.new,h.td,my h (fun _ _=>rfl) (fun _ h=>h) (fun i τ x p j hi=> .inl ⟨hi,fun b hb=> ?_⟩),fun b hb=> ?_,fun b hb=> ?_,fun b hb hm=> ?_,Nat.le_trans h.size L.size,h.qa,L.os.trans h.os,L.tape.trans h.tape,L.output.trans h.output⟩,hk⟩
 ·have Xr:=(h.ix i e hi).su hm hb
  have wR:b∉hs:=fun hh=>qf b hh i e hi hm hb
  exact⟨L.frame b (h.xQ b Xr) wR,.inr ⟨Xr,wR⟩⟩
 ·have tf:eh (ν i)=some b:=by rw[hb];rfl
  have Xr:=(h.ix i _ hi).su trivial tf
  exact L.frame b (h.xQ b Xr) (fun hh=>qf b hh i _ hi trivial tf)
 ·by_cases hh:b∈hs
  ·exact .inl (rf b hh hb)
  ·exact .inr ⟨h.sub b hb,hh⟩
 ·rcases hb with hb|hb
  ·exact L.xQ b hb
  ·exact Nat.lt_of_lt_of_le (h.xQ b hb.1) L.size
 ·have wR:b∉hs:=fun hh=>(jx b hh).elim (fun h'=>by omega) hm
  rw[L.frame b (Nat.lt_of_lt_of_le hb h.size) wR]
  exact h.frame b hb hm
theorem Mem.vT{H:Nat→Option aQ}(h:Mem c H w M ν){id:Nat}{v:Value}{e:aQ}(aR: ∀e',H id=some e'→ ¬e'.mut)(Kb:ER w M v e)
  (hd: ∀b,eh v=some b→ ∀i e',H i=some e'→e'.mut→eh (ν i)≠some b) (hn: ∀b,eh v=some b→c.B≤b∨c.may b) (ho: ∀b e0 l0,e= .own e0 l0→eh v=some b→ ¬c.M0 b)
  (hnv:H id=none∨v=ν id)
  (oC: ∀τ x p j,e= .dN τ x p j→bn H id (some e) j≠none∧ ∃b,v= .pointer (some ⟨b,0,none⟩)∧w.cell? ⟨b,bB p τ,none⟩=some (ch ν id v j):=by intro _ _ _ _ h;cases h):
  Mem c (bn H id (some e)) w M (ch ν id v):=by
 have hν: ∀i,i≠id→ch ν id v i=ν i:=fun i hi=>by simp[ch,hi]
 have wO:ch ν id v id=v:=by simp[ch]
 refine⟨fun i e1 hi=> ?_,fun i k e1 e2 b1 nH hi oB hk tx=> ?_,fun i e1 b1 hi oB=> ?_,fun i e1 l1 b1 hi=> ?_,my h (fun i hi=> ?_) q9 (fun i τ x p j hi=> ?_),h.sub,h.xQ,h.frame,h.size,h.qa,h.os,h.tape,h.output⟩
 ·by_cases bq:i=id
  ·subst bq;rw[ak]at hi;cases hi;rw[wO];exact Kb
  ·rw[al _ _ bq]at hi;rw[hν i bq];exact h.ix i e1 hi
 ·by_cases bq:i=id
  ·subst bq;rw[wO]
   have Dx:k≠i:=Ne.symm nH
   rw[al _ _ Dx]at hk;rw[hν k Dx]
   intro jw
   exact hd b1 jw k e2 hk tx
  ·rw[al _ _ bq]at hi;rw[hν i bq]
   by_cases Dx:k=id
   ·subst Dx;rw[wO]
    intro jw sv
    exact hd b1 sv i e1 hi oB jw
   ·rw[al _ _ Dx]at hk;rw[hν k Dx];exact h.uU i k e1 e2 b1 nH hi oB hk tx
 ·by_cases bq:i=id
  ·subst bq;rw[wO];exact hn b1
  ·rw[al _ _ bq]at hi;rw[hν i bq];exact h.new i e1 b1 hi oB
 ·by_cases bq:i=id
  ·subst bq;rw[ak]at hi;cases hi;rw[wO];exact ho b1 e1 l1 rfl
  ·rw[al _ _ bq]at hi;rw[hν i bq];exact h.td i e1 l1 b1 hi
 ·by_cases bq:i=id
  ·subst bq
   rcases hnv with hnv|hnv
   ·exact absurd hnv hi
   ·rw[wO,hnv]
  ·exact hν i bq
 ·by_cases bq:i=id
  ·subst bq
   rw[ak]at hi
   cases hi
   obtain⟨h1,b,h2,h3⟩:=oC _ _ _ _ rfl
   exact .inr ⟨h1,b,by rw[wO];exact h2,h3⟩
  ·rw[al _ _ bq]at hi
   exact .inl ⟨hi,fun _ _=>rfl⟩
theorem Kq{m:AM}{ms:List AM}(x:HP (m::ms))(id:Nat)(io:List (Nat×Ty)):
  hZ (m::ms) x id io=match m,qg x,io with
   | .io τ,y,(j,_)::io=>((hZ ms (uV x) (id+1) io).1,(j,some (.obj τ y))::(hZ ms (uV x) (id+1) io).2.1,(hZ ms (uV x) (id+1) io).2.2)
   |m,y,io=>((BJ m y id).1::(hZ ms (uV x) (id+1) io).1,(BJ m y id).2++(hZ ms (uV x) (id+1) io).2.1,(hZ ms (uV x) (id+1) io).2.2):=by
 cases ms with
 |nil=>cases m<;>cases io<;>simp[hZ,qg]
 |cons n ms=>cases m<;>cases io<;>simp[hZ,qg,uV]
theorem mc{l1 l2:List Nat}{b:Nat}(h:(l1++l2).Nodup)(h1:b∈l1):b∉l2:=fun h2=>(List.nodup_append.1 h).2.2 b h1 b h2 rfl
theorem RR.BZ: ∀{ms:List AM} {x:HP ms} {us ps:List Value},RR w M ms x us ps→ ∀p∈ps,∀b,eh p=some b→b∈a8 ms us ps
 |[],_,_,_,h,p,hp,_,_=>by simp only[RR]at h;rw[h.2]at hp;simp at hp
 |m::ms,x,us,ps,h,p,hp,b,hb=>by
  simp only[RR]at h
  rcases h with⟨p',z6,h1,rfl,h2,h3⟩|⟨v,BY,h1,h2,rfl,h3,h4⟩
  ·simp only[a8,h1,if_true,List.headD_cons,List.tail_cons,List.mem_append]
   rcases List.mem_cons.1 hp with rfl|hp
   ·left
    cases m<;>simp[AM.fx]at h1
    simp[cq,hb]
   ·exact .inr (RR.BZ h3 p hp b hb)
  ·simp only[a8,h1,Bool.false_eq_true,if_false,List.headD_cons,List.tail_cons,List.mem_append]
   exact .inr (RR.BZ h4 p hp b hb)
theorem mD{hs:List Nat}{sz:Nat}: ∀{ms:List AM} {x:HP ms} {us ps:List Value} {id:Nat} {io:List (Nat×Ty)} {H:Nat→Option aQ} {ν:Nat→Value} {used:List Nat},
  Mem c H w M ν→RR w M ms x us ps→ps=io.map (fun q=>ν q.1)→kj ms=io.map (·.2)→(keys io).Nodup→(∀q∈io,H q.1=some .gone)→(∀i,id≤i→i<id+ms.length→H i=none)→
  (∀i e b,H i=some e→e.mut→eh (ν i)=some b→(b<sz∧b∉hs)∨b∈used)→(used++a8 ms us ps).Nodup→(∀b∈a8 ms us ps,sz≤b∨b∈hs)→
  (∀b∈a8 ms us ps,(c.B≤b∨c.may b))→(∀b∈a8 ms us ps,c.M0 b→ ∃p∈ps,eh p=some b)→
  ∃ν',Mem c (bS H (hZ ms x id io).2.1) w M ν'∧fv w M (bS H (hZ ms x id io).2.1) ν' (hZ ms x id io).1 us∧(∀i,H i≠none→ν' i=ν i)∧
   (∀i,i∉keys io→(i<id∨id+ms.length≤i)→bS H (hZ ms x id io).2.1 i=H i)∧(∀i,id≤i→i<id+ms.length→ ∀e,bS H (hZ ms x id io).2.1 i=some e→(∃e0 l0,e= .own e0 l0)∨ ∃τ0 z0,e= .obj τ0 z0)∧
   (∀q∈io,∃z:q.2.den,bS H (hZ ms x id io).2.1 q.1=some (.obj q.2 z))
 |[],x,us,ps,id,io,H,ν,used,hm,hr,GK,zX,DN,z8,gT,hold,tK,nr,jx,Dw=>by
  simp only[RR]at hr
  obtain⟨rfl,rfl⟩:=hr
  have rf:io=[]:=by
   cases io with
   |nil=>rfl
   |cons q io=>simp at GK
  subst rf
  exact⟨ν,hm,by simp[hZ,fv],fun _ _=>rfl,fun _ _ _=>rfl,fun i h1 h2=>by simp at h2;omega,fun q hq=>by simp at hq⟩
 |m::ms,x,us,ps,id,io,H,ν,used,hm,hr,GK,zX,DN,z8,gT,hold,tK,nr,jx,Dw=>by
  rw[Kq]
  simp only[RR]at hr
  rcases hr with⟨p,z6,B0,rfl,h1,h2⟩|⟨v,BY,B0,hmf,rfl,h1,h2⟩
  ·
   cases m with
   |io τ=>
    cases io with
    |nil=>simp at GK
    |cons q io=>
     simp only[List.map_cons,List.cons.injEq]at GK
     obtain⟨rfl,rfl⟩:=GK
     simp only[kj,List.map_cons,List.cons.injEq]at zX
     obtain⟨ah6,ah7⟩:=zX
     simp only[keys,List.map_cons,List.nodup_cons]at DN
     have XQ:a8 (.io τ::ms) us (ν q.1::io.map fun q=>ν q.1)=(eh (ν q.1)).toList++a8 ms us (io.map fun q=>ν q.1):=rfl
     rw[XQ]at tK nr jx Dw
     have PO:=z8 q List.mem_cons_self
     have DO:q.1<id∨id+(ms.length+1)≤q.1:=by
      rcases Nat.lt_or_ge q.1 id with h'|h'
      ·exact .inl h'
      ·rcases Nat.lt_or_ge q.1 (id+(ms.length+1))with I9|I9
       ·rw[gT q.1 h' I9]at PO;cases PO
       ·exact .inr I9
     simp only[A1]at h1
     have qz: ∀b,eh (ν q.1)=some b→ ∀i e',H i=some e'→e'.mut→eh (ν i)≠some b:=by
      intro b hb i e' hi gp dv
      have jr:b∈(eh (ν q.1)).toList++a8 ms us (io.map fun q=>ν q.1):=List.mem_append_left _ (by rw[hb];simp)
      rcases hold i e' b hi gp dv with⟨h3,h4⟩|h3
      ·exact(nr b jr).elim (fun h'=>by omega) h4
      ·exact mc tK h3 jr
     have tx:=Mem.vT (c:=c) hm (id:=q.1) (v:=ν q.1) (e:= .obj τ (qg x)) (fun e' rX=>by rw[PO]at rX;cases rX;simp[aQ.mut]) h1 qz (fun b hb=>jx b (List.mem_append_left _ (by rw[hb];simp))) (fun b e0 l0 he=>by cases he) (.inr rfl)
     have hνe:ch ν q.1 (ν q.1)=ν:=by funext i;unfold ch;split<;>simp_all
     rw[hνe]at tx
     have ah8: ∀(q':Nat×Ty),q'∈io→q'.1≠q.1:=fun q' sB e=>DN.1 (List.mem_map.2 ⟨q',sB,e⟩)
     obtain⟨ν',r1,r2,r3,r4,r5,r6⟩:=mD (ms:=ms) (x:=uV x) (us:=us) (ps:=io.map fun q=>ν q.1) (id:=id+1) (io:=io) (used:=used++(eh (ν q.1)).toList) tx h2 rfl ah7 DN.2
      (fun q' sB=>by rw[al _ _ (ah8 q' sB)];exact z8 q' (List.mem_cons_of_mem _ sB))
      (fun i h3 h4=>by
       have:i≠q.1:=by omega
       rw[al _ _ this]
       exact gT i (by omega) (by simp only[List.length_cons];omega))
      (fun i e b hi gp hb=>by
       by_cases bq:i=q.1
       ·subst bq;exact .inr (List.mem_append_right _ (by rw[hb];simp))
       ·rw[al _ _ bq]at hi
        exact(hold i e b hi gp hb).imp (fun h=>h) (List.mem_append_left _))
      (by rw[List.append_assoc];exact tK) (fun b hb=>nr b (List.mem_append_right _ hb)) (fun b hb=>jx b (List.mem_append_right _ hb))
      (fun b hb hb0=>by
       obtain⟨p,hp,hpb⟩:=Dw b (List.mem_append_right _ hb) hb0
       rcases List.mem_cons.1 hp with rfl|hp
       ·exact absurd (mc (List.nodup_append.1 tK).2.1 (b:=b) (by rw[hpb];simp)) (by simpa using hb)
       ·exact⟨p,hp,hpb⟩)
     refine⟨ν',r1,r2,fun i hi=> ?_,fun i h3 h4=> ?_,fun i h3 h4 e he=> ?_,fun q' sB=> ?_⟩
     ·exact r3 i (by
       by_cases bq:i=q.1
       ·subst bq;rw[ak];simp
       ·rw[al _ _ bq];exact hi)
     ·simp only[keys,List.map_cons,List.mem_cons,not_or]at h3
      have:=r4 i h3.2 (by simp only[List.length_cons]at h4;omega)
      rw[al _ _ h3.1]at this
      exact this
     ·by_cases h5:id+1≤i
      ·exact r5 i h5 (by simp only[List.length_cons]at h4;omega) e he
      ·have bq:i=id:=by omega
       subst bq
       by_cases hk:i∈keys io
       ·obtain⟨q',sB,GN⟩:=List.mem_map.1 hk
        have h9:=z8 q' (List.mem_cons_of_mem _ sB)
        rw[GN,gT i (Nat.le_refl _) (by simp)]at h9
        cases h9
       ·have:=r4 i hk (.inl (by omega))
        have gH:i≠q.1:=by omega
        rw[al _ _ gH,gT i (Nat.le_refl _) (by simp)]at this
        have he:bS (bn H q.1 (some (aQ.obj τ (qg x)))) (hZ ms (uV x) (i+1) io).2.1 i=some e:=he
        rw[this]at he;cases he
     ·rcases List.mem_cons.1 sB with rfl|sB
      ·have:=r4 q'.1 DN.1 (by omega)
       rw[ak]at this
       rw[←ah6]
       exact⟨qg x,this⟩
      ·exact r6 q' sB
   |v τ=>simp[AM.fx]at B0
   |own τ=>simp[AM.fx]at B0
   |fn f τ=>simp[AM.fx]at B0
   |ptr τ=>simp[AM.fx]at B0
   |fc τ=>simp[AM.fx]at B0
  ·
   have Aa:H id=none:=gT id (Nat.le_refl _) (by simp)
   cases m with
   |io τ=>simp[AM.fx]at B0
   |fn f τ=>simp[AM.Qm]at hmf
   |fc τ=>simp[AM.Qm]at hmf
   |v τ=>
    have XQ:a8 (.v τ::ms) (v::BY) ps=a8 ms BY ps:=rfl
    rw[XQ]at tK nr jx Dw
    simp only[A1]at h1
    obtain⟨ν',r1,r2,r3,r4,r5,r6⟩:=mD (ms:=ms) (x:=uV x) (us:=BY) (ps:=ps) (id:=id+1) (io:=io) (used:=used) hm h2 GK (by simpa [kj]using zX) DN z8 (fun i h3 h4=>gT i (by omega) (by simp only[List.length_cons];omega)) hold tK nr jx Dw
    refine⟨ν',r1,?_,r3,fun i h3 h4=>r4 i h3 (by simp only[List.length_cons]at h4;omega),fun i h3 h4 e he=> ?_,r6⟩
    ·simp only[BJ,fv,VR];exact⟨h1,r2⟩
    ·by_cases h5:id+1≤i
     ·exact r5 i h5 (by simp only[List.length_cons]at h4;omega) e he
     ·have bq:i=id:=by omega
      subst bq
      by_cases hk:i∈keys io
      ·obtain⟨q',sB,GN⟩:=List.mem_map.1 hk
       have h9:=z8 q' sB
       rw[GN,Aa]at h9;cases h9
      ·have:=r4 i hk (.inl (by omega))
       rw[Aa]at this
       have he:bS H (hZ ms (uV x) (i+1) io).2.1 i=some e:=he
       rw[this]at he;cases he
   |own τ=>
    have XQ:a8 (.own τ::ms) (v::BY) ps=(eh v).toList++a8 ms BY ps:=rfl
    rw[XQ]at tK nr jx Dw
    simp only[A1]at h1
    have qz: ∀b,eh v=some b→ ∀i e',H i=some e'→e'.mut→eh (ν i)≠some b:=by
     intro b hb i e' hi gp dv
     have jr:b∈(eh v).toList++a8 ms BY ps:=List.mem_append_left _ (by rw[hb];simp)
     rcases hold i e' b hi gp dv with⟨h3,h4⟩|h3
     ·exact(nr b jr).elim (fun h'=>by omega) h4
     ·exact mc tK h3 jr
    have acM: ∀b,eh v=some b→ ¬c.M0 b:=by
     intro b hb h0
     have jr:b∈(eh v).toList:=by rw[hb];simp
     obtain⟨p,hp,hpb⟩:=Dw b (List.mem_append_left _ jr) h0
     exact mc (List.nodup_append.1 tK).2.1 jr (RR.BZ h2 p hp b hpb)
    have tx:=Mem.vT (c:=c) hm (id:=id) (v:=v) (e:= .own τ (qg x)) (fun e' rX=>by rw[Aa]at rX;cases rX) h1 qz (fun b hb=>jx b (List.mem_append_left _ (by rw[hb];simp))) (fun b e0 l0 _ hb=>acM b hb) (.inl Aa)
    have DO: ∀q∈io,q.1≠id:=fun q hq e=>by
     have h9:=z8 q hq
     rw[e,Aa]at h9;cases h9
    have XR: ∀i,i≠id→ch ν id v i=ν i:=fun i hi=>by simp[ch,hi]
    obtain⟨ν',r1,r2,r3,r4,r5,r6⟩:=mD (ms:=ms) (x:=uV x) (us:=BY) (ps:=ps) (id:=id+1) (io:=io) (used:=used++(eh v).toList) tx h2
     (by rw[GK];exact List.map_congr_left fun q hq=>(XR _ (DO q hq)).symm) (by simpa [kj]using zX) DN
     (fun q hq=>by rw[al _ _ (DO q hq)];exact z8 q hq)
     (fun i h3 h4=>by rw[al _ _ (by omega)];exact gT i (by omega) (by simp only[List.length_cons];omega))
     (fun i e b hi gp hb=>by
      by_cases bq:i=id
      ·subst bq
       have:ch ν i v i=v:=by simp[ch]
       rw[this]at hb
       exact .inr (List.mem_append_right _ (by rw[hb];simp))
      ·rw[al _ _ bq]at hi
       rw[XR i bq]at hb
       exact(hold i e b hi gp hb).imp (fun h=>h) (List.mem_append_left _))
     (by rw[List.append_assoc];exact tK) (fun b hb=>nr b (List.mem_append_right _ hb)) (fun b hb=>jx b (List.mem_append_right _ hb)) (fun b hb=>Dw b (List.mem_append_right _ hb))
    have XS:id∉keys io:=fun hk=>by
     obtain⟨q,hq,GN⟩:=List.mem_map.1 hk
     exact DO q hq GN
    have lH:bS (bn H id (some (.own τ (qg x)))) (hZ ms (uV x) (id+1) io).2.1 id=some (.own τ (qg x)):=by
     rw[r4 id XS (.inl (by omega)),ak]
    refine⟨ν',r1,?_,fun i hi=> ?_,fun i h3 h4=> ?_,fun i h3 h4 e he=> ?_,r6⟩
    ·simp only[BJ,fv,VR]
     refine⟨⟨?_,?_⟩,r2⟩
     ·show bS (bn H id (some (.own τ (qg x)))) (hZ ms (uV x) (id+1) io).2.1 id≠none
      rw[lH];simp
     ·rw[r3 id (by rw[ak];simp)];simp[ch]
    ·have bq:i≠id:=fun e=>hi (e▸Aa)
     rw[r3 i (by rw[al _ _ bq];exact hi),XR i bq]
    ·have bq:i≠id:=by simp only[List.length_cons]at h4;omega
     have:=r4 i h3 (by simp only[List.length_cons]at h4;omega)
     rw[al _ _ bq]at this
     exact this
    ·by_cases h5:id+1≤i
     ·exact r5 i h5 (by simp only[List.length_cons]at h4;omega) e he
     ·have bq:i=id:=by omega
      subst bq
      have he:bS (bn H i (some (.own τ (qg x)))) (hZ ms (uV x) (i+1) io).2.1 i=some e:=he
      rw[lH]at he;cases he
      exact .inl ⟨τ,_,rfl⟩
   |ptr τ=>
    have XQ:a8 (.ptr τ::ms) (v::BY) ps=(eh v).toList++a8 ms BY ps:=rfl
    rw[XQ]at tK nr jx Dw
    simp only[A1]at h1
    have qz: ∀b,eh v=some b→ ∀i e',H i=some e'→e'.mut→eh (ν i)≠some b:=by
     intro b hb i e' hi gp dv
     have jr:b∈(eh v).toList++a8 ms BY ps:=List.mem_append_left _ (by rw[hb];simp)
     rcases hold i e' b hi gp dv with⟨h3,h4⟩|h3
     ·exact(nr b jr).elim (fun h'=>by omega) h4
     ·exact mc tK h3 jr
    have tx:=Mem.vT (c:=c) hm (id:=id) (v:=v) (e:= .obj τ (qg x)) (fun e' rX=>by rw[Aa]at rX;cases rX) h1 qz (fun b hb=>jx b (List.mem_append_left _ (by rw[hb];simp))) (fun b e0 l0 he _=>by cases he) (.inl Aa)
    have DO: ∀q∈io,q.1≠id:=fun q hq e=>by
     have h9:=z8 q hq
     rw[e,Aa]at h9;cases h9
    have XR: ∀i,i≠id→ch ν id v i=ν i:=fun i hi=>by simp[ch,hi]
    obtain⟨ν',r1,r2,r3,r4,r5,r6⟩:=mD (ms:=ms) (x:=uV x) (us:=BY) (ps:=ps) (id:=id+1) (io:=io) (used:=used++(eh v).toList) tx h2
     (by rw[GK];exact List.map_congr_left fun q hq=>(XR _ (DO q hq)).symm) (by simpa [kj]using zX) DN
     (fun q hq=>by rw[al _ _ (DO q hq)];exact z8 q hq)
     (fun i h3 h4=>by rw[al _ _ (by omega)];exact gT i (by omega) (by simp only[List.length_cons];omega))
     (fun i e b hi gp hb=>by
      by_cases bq:i=id
      ·subst bq
       have:ch ν i v i=v:=by simp[ch]
       rw[this]at hb
       exact .inr (List.mem_append_right _ (by rw[hb];simp))
      ·rw[al _ _ bq]at hi
       rw[XR i bq]at hb
       exact(hold i e b hi gp hb).imp (fun h=>h) (List.mem_append_left _))
     (by rw[List.append_assoc];exact tK) (fun b hb=>nr b (List.mem_append_right _ hb)) (fun b hb=>jx b (List.mem_append_right _ hb)) (fun b hb=>Dw b (List.mem_append_right _ hb))
    have XS:id∉keys io:=fun hk=>by
     obtain⟨q,hq,GN⟩:=List.mem_map.1 hk
     exact DO q hq GN
    have lH:bS (bn H id (some (.obj τ (qg x)))) (hZ ms (uV x) (id+1) io).2.1 id=some (.obj τ (qg x)):=by
     rw[r4 id XS (.inl (by omega)),ak]
    refine⟨ν',r1,?_,fun i hi=> ?_,fun i h3 h4=> ?_,fun i h3 h4 e he=> ?_,r6⟩
    ·simp only[BJ,fv,VR]
     refine⟨⟨_,lH,trivial,?_⟩,r2⟩
     simp only[A1,ER]at h1
     obtain⟨b,cs,t,MK,_⟩:=h1
     exact⟨b,by rw[r3 id (by rw[ak];simp)];simp[ch,MK],MK⟩
    ·have bq:i≠id:=fun e=>hi (e▸Aa)
     rw[r3 i (by rw[al _ _ bq];exact hi),XR i bq]
    ·have bq:i≠id:=by simp only[List.length_cons]at h4;omega
     have:=r4 i h3 (by simp only[List.length_cons]at h4;omega)
     rw[al _ _ bq]at this
     exact this
    ·by_cases h5:id+1≤i
     ·exact r5 i h5 (by simp only[List.length_cons]at h4;omega) e he
     ·have bq:i=id:=by omega
      subst bq
      have he:bS (bn H i (some (.obj τ (qg x)))) (hZ ms (uV x) (i+1) io).2.1 i=some e:=he
      rw[lH]at he;cases he
      exact .inr ⟨τ,_,rfl⟩
end VM
end
section
namespace VM
open Go
variable{P:Program}{E:Env}{o:Oper}{a:Act}{w:World}{M:Nat→Prop}{ν:Nat→Value}{σ:St}{c:Ctx}{α:Type}{r:α}{next:Act→World→Prop}{Q:Exit→Act→World→Prop}
theorem DP{i:Nat}: ∀{ups:fg} {H:Nat→Option aQ},i∈keys ups→ ∃u∈ups,u.1=i∧bS H ups i=u.2
 |[],_,h=>by simp[keys]at h
 |u::r,H,h=>by
  by_cases hk:i∈keys r
  ·obtain⟨v,h1,h2,h3⟩:=DP (H:=bn H u.1 u.2) hk
   exact⟨v,List.mem_cons_of_mem _ h1,h2,h3⟩
  ·have hi:i=u.1:=by
    simp only[keys,List.map_cons,List.mem_cons]at h hk
    exact h.resolve_right hk
   refine⟨u,List.mem_cons_self,hi.symm,?_⟩
   show bS (bn H u.1 u.2) r i=_
   rw[iZ hk,hi,ak]
theorem yd: ∀{ups:fg} {H H':Nat→Option aQ},(∀i,i∉keys ups→H i=H' i)→bS H ups=bS H' ups
 |[],H,H',h=>funext fun i=>h i (by simp[keys])
 |u::r,H,H',h=>by
  refine yd (ups:=r) fun i hi=> ?_
  by_cases hu:i=u.1
  ·subst hu;rw[ak,ak]
  ·rw[al _ _ hu,al _ _ hu]
   exact h i (by simp only[keys,List.map_cons,List.mem_cons,not_or];exact⟨hu,hi⟩)
theorem RR.mE: ∀{ms:List AM} {x:HP ms} {us ps:List Value},RR w M ms x us ps→ ∀b∈a8 ms us ps,M b
 |[],_,_,_,_,b,hb=>by simp[a8]at hb
 |m::ms,x,us,ps,h,b,hb=>by
  simp only[RR]at h
  rcases h with⟨p,z6,h1,rfl,h2,h3⟩|⟨v,BY,h1,h2,rfl,h3,h4⟩
  ·simp only[a8,h1,if_true,List.headD_cons,List.tail_cons,List.mem_append]at hb
   rcases hb with hb|hb
   ·cases m<;>simp[AM.fx]at h1
    simp only[cq,Option.mem_toList,A1]at hb h2
    exact h2.su trivial hb
   ·exact RR.mE h3 b hb
  ·simp only[a8,h1,Bool.false_eq_true,if_false,List.headD_cons,List.tail_cons,List.mem_append]at hb
   rcases hb with hb|hb
   ·cases m with
    |own e=>
     simp only[cq,Option.mem_toList,A1]at hb h3
     exact h3.su trivial hb
    |v _=>simp[cq]at hb
    |io _=>simp[AM.fx]at h1
    |fn _ _=>simp[cq]at hb
    |fc _=>simp[cq]at hb
    |ptr τ=>
     simp only[cq,Option.mem_toList,A1]at hb h3
     exact h3.su trivial hb
   ·exact RR.mE h4 b hb
theorem AG: ∀{l:List gP} {lF:List aX} {S:gP},Ds l lF=some S→S∈l
 |[],_,_,h=>by simp[Ds]at h
 |T::l,lF,S,h=>by
  unfold Ds at h
  cases hf:fits T.args lF
  ·rw[hf]at h;exact List.mem_cons_of_mem _ (AG h)
  ·rw[hf]at h;cases h;exact List.mem_cons_self
theorem vU{H:Nat→Option aQ}{id:Nat}: ∀{n:Nat},oY H id n=true→ ∀i,id≤i→i<id+n→H i=none
 |0,_,i,h1,h2=>by omega
 |n+1,h,i,h1,h2=>by
  unfold oY at h
  rw[Bool.and_eq_true]at h
  by_cases hi:i=id+n
  ·subst hi
   have h:=h.1
   split at h
   ·assumption
   ·cases h
  ·exact vU h.2 i h1 (by omega)
theorem ML{H:Nat→Option aQ}{lF:List aX}{us:List Value}(h:fv w M H ν lF us):VR w M H ν (Dq lF) (qx us):=by
 match lF,us,h with
 |[],[],_=>simp[Dq,VR]
 |[a],[u],h=>simp only[fv,and_true]at h;simpa [Dq,qx]using h
 |a::b::lF,u::v::us,h=>
  simp only[Dq,VR]
  exact⟨u::v::us,by simp[qx],h⟩
 |[],_::_,h=>simp[fv]at h
 |_::_,[],h=>simp[fv]at h
 |[_],_::_::_,h=>simp[fv]at h
 |_::_::_,[_],h=>simp[fv]at h
theorem DQ(hΓ: ∀f S,S∈E.Γ f→eI P f S){H:Nat→Option aQ}(hm:Mem c H w M ν){f id:Nat}{lF:List aX}{vs:List Value}(hv:fv w M H ν lF vs){K:fh α}(h:vI E f lF id H K=some r)
  {R:Value→World→Prop} (hR: ∀v rd ups v' w' M' ν',K v rd ups=some r→Tr c H w M ν (bS H ups) w' M' ν'→VR w' M' (bS H ups) ν' v v'→R v' w'):
  DM P f vs.toArray w R:=by
 unfold vI at h
 split at h
 ·cases h
 rename_i S hS
 have hok:=hΓ f S (AG hS)
 obtain⟨x,rd,uo,uf,io,H2,Hq,M2,h1,hA,hK,acN,Qp,Mc⟩:=vS (gS.start hm) hv h
 clear h
 simp only[List.nil_append,List.map_nil]at hA Qp Mc
 obtain⟨y,hy,h1⟩:=Option.bind_eq_some_iff.1 h1
 obtain⟨gT,h1⟩:=bA h1
 have gT:=vU gT
 have ah9:(fun b=>(M2 b∧b∉cB S.args vs)∨b∈cB S.args vs)=M2:=by
  funext b
  refine propext ⟨fun h=>h.elim (·.1) (hA.hM b),fun h=> ?_⟩
  by_cases hb:b∈cB S.args vs
  ·exact .inr hb
  ·exact .inl ⟨h,hb⟩
 refine DM.mono (hok.call (fun b=>M2 b∧b∉cB S.args vs) w vs x y (fun b hb=>hA.mem.xQ b hb.1) (by rw[ah9];exact acN) hA.nd (fun b hb h=>h.2 hb) hy) ?_
 rintro e w' ⟨us,M',rfl,Md,hL,tK,hn0⟩
 have aia: ∀b∈cB S.args vs,c.M0 b→M' b:=by
  intro b hb h0
  obtain⟨q,hq,hqb⟩:=hA.iob b hb h0
  exact Md.mE b (Md.BZ (ν q.1) (by rw[←Qp];exact List.mem_map_of_mem hq) b hqb)
 have nr: ∀b∈a8 S.res us (dq S.args vs),w.heap.size≤b∨b∈cB S.args vs:=by
  intro b hb
  rcases Nat.lt_or_ge b w.heap.size with dE|Qq
  ·exact .inr ((hL.less b dE (Md.mE b hb)).resolve_left (hn0 b hb))
  ·exact .inl Qq
 have jx: ∀b∈a8 S.res us (dq S.args vs),c.B≤b∨c.may b:=fun b hb=>(nr b hb).elim (fun h=> .inl (Nat.le_trans hm.size h)) (hA.Hm b)
 have Dw: ∀b∈a8 S.res us (dq S.args vs),c.M0 b→ ∃p∈dq S.args vs,eh p=some b:=by
  intro b hb h0
  rcases nr b hb with h'|h'
  ·have:=hm.qa.1 b h0;have:=hm.size;omega
  ·obtain⟨q,hq,hqb⟩:=hA.iob b h' h0
   exact⟨ν q.1,by rw[←Qp];exact List.mem_map_of_mem hq,hqb⟩
 have key: ∀(Hx:Nat→Option aQ) (Mx:Nat→Prop) (U:fg),Mem c Hx w Mx ν→da w M w Mx→(∀b,M2 b→Mx b)→(∀b∈cB S.args vs,∀i e,Hx i=some e→e.mut→eh (ν i)≠some b)→
   (∀q∈io,Hx q.1=some .gone)→(∀i,i∉keys io→bS H (uo++U) i=Hx i)→(∀u∈uo++U,u.2=some .gone∨ ∃e l,u.2=some (.jW e l)∧H u.1=some (.own e l))→(∀i∈keys (uo++U),i∈keys (uo++uf))→
   RR w' (fun b=>M' b∨(Mx b∧b∉cB S.args vs)) S.res y us (dq S.args vs)→
   ∃ν',Tr c H w M ν (bS H (uo++U++(hZ S.res y id io).2.1)) w' (fun b=>M' b∨(Mx b∧b∉cB S.args vs)) ν'∧
    fv w' (fun b=>M' b∨(Mx b∧b∉cB S.args vs)) (bS H (uo++U++(hZ S.res y id io).2.1)) ν' (hZ S.res y id io).1 us:=by
  intro Hx Mx U MG hkx Kr qf MM XT B1 hU PH
  obtain⟨lJ,AH⟩:=MG.call (fun b hb=>Kr b hb.1) (fun b hb=>Kr b (hA.hM b hb)) qf hA.Hm aia hL
  have hx: ∀i e,H i=some e→i∉keys io→ ∃e',Hx i=some e'∧e.gQ e':=by
   intro i e hi ye
   rw[←XT i ye]
   by_cases hk:i∈keys (uo++U)
   ·obtain⟨u,hu,hui,huv⟩:=DP (H:=H) hk
    rw[huv]
    rcases B1 u hu with h'|⟨e1,l1,h',I9⟩
    ·exact⟨_,h',aQ.jF e⟩
    ·rw[hui,hi]at I9;cases I9;exact⟨_,h',rfl,rfl⟩
   ·rw[iZ hk];exact⟨e,hi,.refl e⟩
  have Wl: ∀i,id≤i→i<id+S.res.length→Hx i=none:=by
   intro i h3 h4
   have h0:=gT i h3 h4
   have ye:i∉keys io:=fun hk=>by
    obtain⟨q,hq,GN⟩:=List.mem_map.1 hk
    obtain⟨_,_,z,hz⟩:=hA.PM q hq
    rw[GN,h0]at hz;cases hz
   rw[←XT i ye]
   rw[iZ,h0]
   intro hk
   obtain⟨_,e,l,h'⟩:=hA.ksn i (hU i hk)
   rw[h0]at h';cases h'
  obtain⟨ν',r1,r2,r3,r4,r5,r6⟩:=mD (hs:=cB S.args vs) (sz:=w.heap.size) (id:=id) (used:=[]) lJ PH Qp.symm (by rw[←hok.ios,←Mc]) hA.ion MM Wl
   (fun i e b hi hmu hb=> .inl ⟨MG.xQ b ((MG.ix i e hi).su hmu hb),fun hh=>qf b hh i e hi hmu hb⟩) (by simpa using tK) nr jx Dw
  have XU:bS H (uo++U++(hZ S.res y id io).2.1)=bS Hx (hZ S.res y id io).2.1:=by
   rw[dU]
   refine yd fun i hi=> ?_
   by_cases ye:i∈keys io
   ·obtain⟨q,hq,GN⟩:=List.mem_map.1 ye
    obtain⟨z,hz⟩:=r6 q hq
    rw[GN,iZ hi,←GN,MM q hq]at hz;cases hz
   ·exact XT i ye
  refine⟨ν',⟨by rw[XU];exact r1,hkx.trans AH,⟨fun i e hi=> ?_,fun i hi=> ?_⟩⟩,by rw[XU];exact r2⟩
  ·rw[XU]
   by_cases ye:i∈keys io
   ·obtain⟨q,hq,GN⟩:=List.mem_map.1 ye
    obtain⟨z,hz⟩:=r6 q hq
    obtain⟨_,_,z0,hz0⟩:=hA.PM q hq
    rw[GN]at hz hz0
    rw[hi]at hz0;cases hz0
    exact⟨_,hz,rfl⟩
   ·obtain⟨e',rX,hl⟩:=hx i e hi ye
    have hr:i<id∨id+S.res.length≤i:=by
     rcases Nat.lt_or_ge i id with h'|h'
     ·exact .inl h'
     ·rcases Nat.lt_or_ge i (id+S.res.length)with I9|I9
      ·rw[gT i h' I9]at hi;cases hi
      ·exact .inr I9
    exact⟨e',by rw[r4 i ye hr];exact rX,hl⟩
  ·refine r3 i ?_
   obtain⟨e,he⟩:=Option.ne_none_iff_exists'.1 hi
   by_cases ye:i∈keys io
   ·obtain⟨q,hq,GN⟩:=List.mem_map.1 ye
    rw[←GN,MM q hq];simp
   ·obtain⟨e',rX,_⟩:=hx i e he ye
    rw[rX];simp
 cases hq:S.quiet
 ·
  rw[hq]at h1
  have hMn:(fun b=>M' b∨(M2 b∧b∉cB S.args vs))=M':=by
   funext b
   exact propext ⟨fun h=>h.elim (fun h=>h) (hL.sub b),.inl⟩
  obtain⟨ν',eH,hvr⟩:=key H2 M2 uf hA.mem hA.br (fun _ h=>h) (fun b hb i e hi hmu=>hA.none b hb i e (hA.fz.mut hi hmu) hmu) (fun q hq=>(hA.PM q hq).1) hA.ext
   (fun u hu=>(List.mem_append.1 hu).elim (fun h=> .inl (hA.uov u h)) (fun h=> .inr (hA.ufv u h))) (fun _ h=>h) (by rw[hMn];exact Md)
  exact hR _ _ _ _ _ _ _ h1 eH (ML hvr)
 ·rw[hq]at h1
  have Kr: ∀b,M2 b→M b:=fun b hb=>hA.br.less b (hA.mem.xQ b hb) hb
  obtain⟨ν',eH,hvr⟩:=key Hq M [] hA.Kp (.refl w M) Kr hA.none (fun q hq=>(hA.PM q hq).2.1) (by rw[List.append_nil];exact hA.Qn)
   (fun u hu=> .inl (hA.uov u (by simpa using hu))) (fun i hi=>by simp only[keys,List.append_nil,List.map_append,List.mem_append]at hi ⊢;exact .inl hi) (Md.flat (fun b h=> .inl h) (hok.quiet hq))
  exact hR _ _ _ _ _ _ _ h1 eH (ML hvr)
theorem Qr(hΓ: ∀f S,S∈E.Γ f→eI P f S)(hc:Core c σ a.tmps w M ν){args:Array Operand}{ts:Array TypeId}{g:Operand}(ho:o.op= .call {callee:= .value g,args,argTypes:=ts}){K:fh α}{f:Nat}{caps:List aX}(hg:σ.ρ g= .Dj f caps){id:Nat}
  (h:vI E f (args.toList.map σ.ρ ++caps) id σ.H K=some r) (hn:dL c σ a o w M ν K r next):o.wp P a w next Q:=by
 have hgv:=hc.ev g
 rw[hg]at hgv
 simp only[VR]at hgv
 obtain⟨cs,hgv,BQ⟩:=hgv
 have DR: ∀{as1:List aX} {PQ:List Value},fv w M σ.H ν as1 PQ→fv w M σ.H ν (as1++caps) (PQ++cs):=by
  intro as1
  induction as1 with
  |nil=>intro PQ h1;cases PQ with
   |nil=>exact BQ
   |cons _ _=>simp[fv]at h1
  |cons x as1 ih=>intro PQ h1;cases PQ with
   |nil=>simp[fv]at h1
   |cons v PQ=>simp only[fv]at h1;simp only[List.cons_append,fv];exact⟨h1.1,ih h1.2⟩
 have hd:=DQ (P:=P) hΓ hc.mem (DR (hc.evs args.toList)) h (R:=fun v' w'=>next (a.put o.dst v') w') (fun v rd ups v' w' M' ν' h1 h2 h3=>hn v rd ups v' w' M' ν' h1 h2 h3)
 have hex:(execOp a.eval o).run P w=(callFunc f (args.toList.map a.eval++cs).toArray).run P w:=by
  have:(args.toList.map a.eval++cs).toArray= #[]++args.map a.eval++cs.toArray:=by apply Array.ext';simp
  rw[this]
  simp[execOp,ho,resolve,hgv,Deferred.ofValue,invoke]
 unfold Oper.wp
 rw[hex]
 exact hd o a next Q fun v w' hv=>hv
end VM
end
section
namespace VM
open Go
variable{P:Program}{E:Env}{o:Oper}{a:Act}{w:World}{M:Nat→Prop}{ν:Nat→Value}{σ:St}{c:Ctx}{α:Type}{r:α}{next:Act→World→Prop}{Q:Exit→Act→World→Prop}
structure mF(P:Program)(E:Env):Prop extends EnvTy P E where
 acR: ∀f S,S∈E.Γ f→eI P f S
 mixed:P.follows .mixedOrders=true
 fR: ∀i L,E.qj i=some L→VM.fR L=true
 MN: ∀i L,E.rK i=some L→VM.fR L=true
theorem Ks(hE:mF P E)(hc:Core c σ a.tmps w M ν){K:fh α}(h:ot E o σ.ρ σ.H K=some r)(hn:dL c σ a o w M ν K r next):o.wp P a w next Q:=by
 have hT:=hE.toEnvTy
 unfold ot at h
 simp only at h
 split at h
 ·rename_i x ho;exact I1 hc (.inl ho) h hn
 ·rename_i x ho;exact I1 hc (.inr ho) h hn
 ·rename_i x y z ho
  split at h
  ·rename_i t hx;exact Qa hc ho hx h hn
  ·cases h
 ·rename_i t ho
  split at h
  ·rename_i τ ht;exact Ms hT hc ho ht h hn
  ·cases h
 ·rename_i t x ho
  split at h
  ·rename_i τ ht;exact Xu hT hc ho h hn
  ·cases h
 ·rename_i t ps ho
  split at h
  ·rename_i n e ht;exact BX hT hc ho ht h hn
  ·rename_i τ Wi ht;exact wV hT hc ho ht (fun n e he=>Wi n e he) h hn
  ·cases h
 ·rename_i t n ps ho
  split at h
  ·rename_i e ht;exact z2 hT hc ho ht h hn
  ·cases h
 ·rename_i t x ho
  split at h
  ·rename_i τ ht;exact Qb hT hc ho ht h hn
  ·cases h
 ·rename_i t x y ho
  split at h
  ·rename_i τ ht;exact Kj hT hc ho ht h hn
  ·cases h
 ·rename_i x ho
  split at h
  ·rename_i id p hx;exact wT hc ho hx h hn
  ·rename_i τ z hx;exact u9 hc ho hx h hn
  ·cases h
 ·rename_i b t x y t' ho;exact MB hT hc ho h hn
 ·rename_i u t x ho;exact Qg hc ho h hn
 ·rename_i s d x ho
  split at h
  ·rename_i τ k hs hd;exact Hh hT hc ho hs hd h hn
  ·cases h
 ·rename_i f first caps ho;exact DF hc ho h hn
 ·rename_i t x y ho
  split at h
  ·rename_i e ht;exact BU hT hc ho ht h hn
  ·cases h
 ·rename_i t x lo hi mx ho
  split at h
  ·rename_i τ ht;exact MH hT hc ho ht h hn
  ·cases h
 ·rename_i t x n ho
  split at h
  ·rename_i τ ht
   split at h
   ·rename_i id p hx;exact u7 hT hc ho ht hx h hn
   ·rename_i υ z hx;exact tE hT hc ho ht hx h hn
   ·cases h
  ·cases h
 ·rename_i t x n ho
  split at h
  ·rename_i τ ht
   split at h
   ·rename_i υ z hx;exact Mz hT hc ho ht hx h hn
   ·cases h
  ·cases h
 ·rename_i t x i ho
  split at h
  ·rename_i τ ht;exact BS hT hc ho ht h hn
  ·cases h
 ·rename_i t x i ho
  split at h
  ·rename_i τ ht;exact ME hT hc ho ht h hn
  ·cases h
 ·rename_i x i ho
  split at h
  ·rename_i vs hx
   split at h
   ·rename_i v hv;exact Hf hc ho hx hv h hn
   ·cases h
  ·cases h
 ·rename_i cl ho
  obtain⟨callee,args,ts⟩:=cl
  simp only at h
  split at h
  ·split at h
   ·rename_i x τ ha ht;exact XB hT hc ho ha ht h hn
   ·cases h
  ·split at h
   ·rename_i x y t t' ha ht
    split at h
    ·rename_i e hte;exact Ko hT hc ho ha ht hte h hn
    ·cases h
   ·cases h
  ·split at h
   ·rename_i x xs ha;exact Wh hc true ho ha h hn
   ·cases h
  ·split at h
   ·rename_i x xs ha;exact Wh hc false ho ha h hn
   ·cases h
  ·rename_i g
   split at h
   ·rename_i f caps hg;exact Qr hE.acR hc ho hg h hn
   ·cases h
  ·cases h
 ·cases h
end VM
end
section
namespace VM
open Go
variable{P:Program}{E:Env}{o:Oper}{a:Act}{w:World}{M:Nat→Prop}{ν:Nat→Value}{σ:St}{c:Ctx}{α:Type}{r:α}{next:Act→World→Prop}{Q:Exit→Act→World→Prop}
theorem o4(σ:St)(d:Nat)(v:aX):(σ.put d v).T d=v:=by
 show cond (Nat.beq d d) v (σ.T d)=v
 rw[show Nat.beq d d=true from Nat.beq_refl d];rfl
theorem tL(σ:St){d i:Nat}(v:aX)(h:i≠d):(σ.put d v).T i=σ.T i:=by
 show cond (Nat.beq i d) v (σ.T i)=σ.T i
 have:Nat.beq i d=false:=by rw[←Bool.not_eq_true,Nat.beq_eq];exact h
 rw[this];rfl
theorem amF(σ:St)(d:Nat)(v:aX):(σ.put d v).H=σ.H:=rfl
theorem yf(σ:St)(d:Nat):σ.put d (σ.T d)=σ:=by
 obtain⟨T,H⟩:=σ
 unfold St.put
 congr 1
 funext i
 by_cases h:i=d
 ·subst h;show cond (Nat.beq i i) (T i) (T i)=T i;cases Nat.beq i i<;>rfl
 ·have:Nat.beq i d=false:=by rw[←Bool.not_eq_true,Nat.beq_eq];exact h
  rw[this];rfl
theorem Core.tr{tm:Array Value}(h:Core c σ tm w M ν){H':Nat→Option aQ}{w':World}{M':Nat→Prop}{ν':Nat→Value}(t:Tr c σ.H w M ν H' w' M' ν'):Core c ⟨σ.T,H'⟩ tm w' M' ν':=
 ⟨t.mem,fun i=>VR.br t.br t.goes (h.tmp i)⟩
theorem Core.p5{tm:Array Value}(h:Core c σ tm w M ν){d:Option Nat}{x:aX}{v:Value}{io:List Nat}(hd:Dl tm.size io d=true)(hx:VR w M σ.H ν x v)(ds:List Deferred):
  Core c (σ.p5 d x) (({tmps:=tm,defers:=ds}:Act).put d v).tmps w M ν:=by
 cases d with
 |none=>exact h
 |some d=>
  have dE:d<tm.size:=by simp only[Dl,Bool.and_eq_true,Nat.blt_eq]at hd;exact hd.1
  refine⟨h.mem,fun i=> ?_⟩
  show VR w M σ.H ν ((σ.put d x).T i) ((tm.setIfInBounds d v).getD i undef)
  by_cases hi:i=d
  ·subst hi
   rw[o4]
   simp[Array.getD,dE]
   exact hx
  ·rw[tL _ _ hi]
   have:=h.tmp i
   have he:(tm.setIfInBounds d v).getD i undef=tm.getD i undef:=by
    rw[Array.getD_eq_getD_getElem?,Array.getD_eq_getD_getElem?,Array.getElem?_setIfInBounds_ne (Ne.symm hi)]
   rw[he];exact this
def Inv(c:Ctx)(E:Env)(σ:St)(a:Act)(w:World):Prop:=(∃M ν,Core c σ a.tmps w M ν)∧a.tmps.size=E.nt∧a.defers=[]∧ ∀i∈E.io,a.tmps.getD i undef=c.arg i
theorem DS(a:Act)(d:Option Nat)(v:Value):(a.put d v).tmps.size=a.tmps.size:=by
 cases d<;>simp[Act.put]
theorem put_defers(a:Act)(d:Option Nat)(v:Value):(a.put d v).defers=a.defers:=by
 cases d<;>rfl
theorem Ja{d:Option Nat}{v:Value}{io:List Nat}{n:Nat}(hd:Dl n io d=true){i:Nat}(hi:i∈io):(a.put d v).tmps.getD i undef=a.tmps.getD i undef:=by
 cases d with
 |none=>rfl
 |some d=>
  simp only[Dl,Bool.and_eq_true,List.all_eq_true]at hd
  have h1:=hd.2 i hi
  have gH:i≠d:=by
   intro e;subst e
   simp at h1
  show(a.tmps.setIfInBounds d v).getD i undef=_
  rw[Array.getD_eq_getD_getElem?,Array.getD_eq_getD_getElem?,Array.getElem?_setIfInBounds_ne (Ne.symm gH)]
theorem Inv.bool(h:Inv c E σ a w){x:Operand}{b:Bool}(hx:σ.ρ x= .val .bool b):a.eval x= .bool b:=by
 obtain⟨⟨M,ν,hc⟩,_,_,_⟩:=h
 have:=hc.ev x
 rw[hx]at this
 exact this.bool
theorem vV(hE:mF P E){ops:Array Oper}(hI:Inv c E σ a w){K:St→List Nat→List Nat→Option α}(h:ox E ops.toList o σ K=some r)
  (hn: ∀σ' a' w' rd wr,K σ' rd wr=some r→Inv c E σ' a' w'→next a' w'):
  if Region.wanted o (yielded ops a.tmps)then o.wp P a w next Q else next (a.put o.dst undef) w:=by
 unfold ox at h
 obtain⟨hd,h⟩:=bA h
 have cw:ot E o σ.ρ σ.H (fun v rd ups=>K ((σ.qh ups).p5 o.dst v) rd (ups.map (·.1)))=some r→o.wp P a w next Q:=by
  intro h
  obtain⟨⟨M,ν,hc⟩,hs,XV,rO⟩:=hI
  refine Ks hE hc h fun v rd ups v' w' M' ν' hK eH hV=> ?_
  refine hn _ _ _ _ _ hK ⟨⟨M',ν',?_⟩,by rw[DS,hs],by rw[put_defers,XV],fun i hi=>(Ja hd hi).trans (rO i hi)⟩
  have h1:=hc.tr eH
  have h2:σ.qh ups=⟨σ.T,bS σ.H ups⟩:=by rw[←Hc,←Hd ups σ]
  rw[h2]
  exact h1.p5 (by rw[hs];exact hd) hV a.defers
 have nL: ∀rd wr,K (σ.p5 o.dst .Mn) rd wr=some r→next (a.put o.dst undef) w:=by
  intro rd wr h
  obtain⟨⟨M,ν,hc⟩,hs,XV,rO⟩:=hI
  refine hn _ _ _ _ _ h ⟨⟨M,ν,hc.p5 (by rw[hs];exact hd) (by simp[VR]) a.defers⟩,by rw[DS,hs],by rw[put_defers,XV],fun i hi=>(Ja hd hi).trans (rO i hi)⟩
 simp only at h
 split at h
 ·rename_i hg
  have:Region.wanted o (yielded ops a.tmps)=true:=by simp[Region.wanted,hg]
  rw[if_pos this]
  exact cw h
 ·rename_i j want hg
  split at h
  ·cases h
  ·rename_i t ht
   have ht':(ops[j]?).bind (·.dst)=some t:=by rw[←Array.getElem?_toList];exact ht
   have hy: ∀b,σ.T t= .val .bool b→yielded ops a.tmps j=some b:=by
    intro b hb
    obtain⟨⟨M,ν,hc⟩,hs,_,_⟩:=hI
    have h1:=hc.tmp t
    rw[hb]at h1
    have h1:=h1.bool
    have h2:a.tmps[t]? =some (.bool b):=by
     rw[Array.getD_eq_getD_getElem?]at h1
     cases h3:a.tmps[t]? with
     |none=>rw[h3]at h1;simp[undef]at h1
     |some v=>rw[h3]at h1;simpa using h1
    simp[yielded,ht',h2]
   split at h
   ·rename_i b hb
    have lB:σ.put t (.val .bool b)=σ:=by rw[←hb];exact yf σ t
    have hw:=hy b hb
    cases want<;>cases b
    ·rw[if_pos (by simp[Region.wanted,hg,hw])]
     rw[lB]at h;exact cw h
    ·rw[if_neg (by simp[Region.wanted,hg,hw])]
     rw[lB]at h;exact nL _ _ h
    ·rw[if_neg (by simp[Region.wanted,hg,hw])]
     rw[lB]at h;exact nL _ _ h
    ·rw[if_pos (by simp[Region.wanted,hg,hw])]
     rw[lB]at h;exact cw h
   ·rename_i hb
    have wR: ¬Region.wanted o (yielded ops a.tmps)=true:=by
     obtain⟨⟨M,ν,hc⟩,hs,_,_⟩:=hI
     have h1:=hc.tmp t
     rw[hb]at h1
     simp only[VR]at h1
     have h2: ∀b,a.tmps[t]? ≠some (.bool b):=by
      intro b dv
      rw[Array.getD_eq_getD_getElem?,dv]at h1
      simp[undef]at h1
     have h3:yielded ops a.tmps j=none:=by
      unfold yielded
      rw[ht']
      show(match a.tmps[t]? with|some (.bool b)=>some b|_=>none)=none
      split
      ·rename_i b dv;exact absurd dv (h2 b)
      ·rfl
     simp[Region.wanted,hg,h3]
    rw[if_neg wR]
    exact nL _ _ h
   ·cases h
theorem yg(hE:mF P E){ops:Array Oper}: ∀(l:List Oper) (i:Nat) (σ:St) (lg:Log) (a:Act) (w:World) (K:St→Log→Option α),Inv c E σ a w→J9 E ops.toList l i σ lg K=some r→
  (∀σ' Wm a' w',K σ' Wm=some r→Inv c E σ' a' w'→Q .normal a' w')→wpList P ops Q l a w
 |[],i,σ,lg,a,w,K,hI,h,hn=>hn _ _ _ _ h hI
 |o::l,i,σ,lg,a,w,K,hI,h,hn=>by
  unfold J9 at h
  refine wpList_step fun K' hK'=> ?_
  exact vV hE hI h fun σ' a' w' rd wr h' rZ=>hK' _ _ (yg hE l (i+1) σ' _ a' w' K rZ h' hn)
theorem DT(hI:Inv c E σ a w){x:Operand}{A B:St→Option α}(h:Aw E x σ A B=some r): ∃b,a.eval x= .bool b∧(if b then A σ else B σ)=some r:=by
 unfold Aw at h
 split at h
 ·rename_i b hb
  refine⟨b,hI.bool hb,?_⟩
  split at h
  ·rename_i t
   have hb:σ.T t= .val .bool b:=hb
   have lB:σ.put t (.val .bool b)=σ:=by rw[←hb];exact yf σ t
   cases b
   ·rw[lB]at h;exact h
   ·rw[lB]at h;exact h
  ·cases b<;>exact h
 ·cases h
end VM
end
section
namespace VM
open Go
variable{P:Program}{E:Env}{o:Oper}{a:Act}{w:World}{M:Nat→Prop}{ν:Nat→Value}{σ:St}{c:Ctx}{α:Type}{r:α}{next:Act→World→Prop}{Q:Exit→Act→World→Prop}
def mix{β:Type}(A B:Nat→β):Nat→β:=fun i=>if i%2=0 then A (i/2)else B (i/2)
theorem eJ{β:Type}(A B:Nat→β)(i:Nat):mix A B (2*i)=A i:=by
 unfold mix
 rw[if_pos (by omega),show 2*i/2=i from by omega]
theorem pW{β:Type}(A B:Nat→β)(i:Nat):mix A B (2*i+1)=B i:=by
 unfold mix
 rw[if_neg (by omega),show(2*i+1)/2=i from by omega]
theorem abP{β:Type}{A B A' B':Nat→β}(hl: ∀i,A i=A' i)(hr: ∀i,B i=B' i):mix A B=mix A' B':=by
 funext i;unfold mix;rw[hl,hr]
def aQ.re(f:Nat→Nat):aQ→aQ
 | .dN τ x p j=> .dN τ x p (f j)
 |e=>e
theorem ER.re{v:Value}{f:Nat→Nat}{e:aQ}:ER w M v (e.re f)↔ER w M v e:=by cases e<;>simp[aQ.re,ER]
theorem aQ.mG{f:Nat→Nat}{e:aQ}:(e.re f).mut↔e.mut:=by cases e<;>simp[aQ.re,aQ.mut]
theorem aQ.Jb{f g:Nat→Nat}{e e':aQ}:(e.re f).gQ (e'.re g)↔e.gQ e':=by cases e<;>cases e'<;>simp[aQ.re,aQ.gQ]
def ml(i:Nat):Nat:=2*i
def mr(i:Nat):Nat:=2*i+1
def fi(A B:Nat→Option aQ):Nat→Option aQ:=fun i=>if i%2=0 then(A (i/2)).map (aQ.re ml)else(B (i/2)).map (aQ.re mr)
theorem sC(A B:Nat→Option aQ)(i:Nat):fi A B (2*i)=(A i).map (aQ.re ml):=by
 unfold fi
 rw[if_pos (by omega),show 2*i/2=i from by omega]
theorem o5(A B:Nat→Option aQ)(i:Nat):fi A B (2*i+1)=(B i).map (aQ.re mr):=by
 unfold fi
 rw[if_neg (by omega),show(2*i+1)/2=i from by omega]
theorem eN{A B:Nat→Option aQ}{i:Nat}{e:aQ}(h:A i=some e):fi A B (2*i)=some (e.re ml):=by rw[sC,h];rfl
theorem o6{A B:Nat→Option aQ}{i:Nat}{e:aQ}(h:B i=some e):fi A B (2*i+1)=some (e.re mr):=by rw[o5,h];rfl
theorem B2{A B:Nat→Option aQ}{i:Nat}:fi A B (2*i)≠none↔A i≠none:=by rw[sC];cases A i<;>simp
theorem B3{A B:Nat→Option aQ}{i:Nat}:fi A B (2*i+1)≠none↔B i≠none:=by rw[o5];cases B i<;>simp
theorem mH(A B:Nat→Option aQ)(i:Nat)(v:Option aQ):bn (fi A B) (2*i) (v.map (aQ.re ml))=fi (bn A i v) B:=by
 funext k
 by_cases hk:k=2*i
 ·subst hk;rw[ak,sC,ak]
 ·rw[al _ _ hk]
  unfold fi
  by_cases h2:k%2=0
  ·rw[if_pos h2,if_pos h2,al _ _ (by omega)]
  ·rw[if_neg h2,if_neg h2]
theorem yh(A B:Nat→Option aQ)(i:Nat)(v:Option aQ):bn (fi A B) (2*i+1) (v.map (aQ.re mr))=fi A (bn B i v):=by
 funext k
 by_cases hk:k=2*i+1
 ·subst hk;rw[ak,o5,ak]
 ·rw[al _ _ hk]
  unfold fi
  by_cases h2:k%2=0
  ·rw[if_pos h2,if_pos h2]
  ·rw[if_neg h2,if_neg h2,al _ _ (by omega)]
theorem yi(A B:Nat→Value)(i:Nat)(v:Value):ch (mix A B) (2*i+1) v=mix A (ch B i v):=by
 funext k
 unfold ch mix
 by_cases hk:k=2*i+1
 ·subst hk;rw[if_pos rfl,if_neg (by omega)]
  show v=if(2*i+1)/2=i then v else B ((2*i+1)/2)
  rw[if_pos (by omega)]
 ·rw[if_neg hk]
  by_cases h2:k%2=0
  ·rw[if_pos h2,if_pos h2]
  ·rw[if_neg h2,if_neg h2]
   show B (k/2)=if k/2=i then v else B (k/2)
   rw[if_neg (by omega)]
theorem Mem.left{H A:Nat→Option aQ}{νA:Nat→Value}(h:Mem c (fi H A) w M (mix ν νA)):Mem c H w M ν:=
 ⟨fun i e hi=>by have:=h.ix (2*i) _ (eN hi);rw[eJ]at this;exact ER.re.1 this,
  fun i j e e' b nH hi hm hj gp=>by have:=h.uU (2*i) (2*j) _ _ b (by omega) (eN hi) (aQ.mG.2 hm) (eN hj) (aQ.mG.2 gp);rwa [eJ,eJ]at this,
  fun i e b hi hm=>by have:=h.new (2*i) _ b (eN hi) (aQ.mG.2 hm);rwa [eJ]at this,
  fun i e l b hi=>by have:=h.td (2*i) e l b (eN hi);rwa [eJ]at this,
  fun i τ x p j hi=>by
   obtain⟨h1,b,h2,h3⟩:=h.dN (2*i) τ x p (ml j) (eN hi)
   rw[eJ]at h2
   unfold ml at h1 h3
   rw[eJ]at h3
   exact⟨B2.1 h1,b,h2,h3⟩,
  h.sub,h.xQ,h.frame,h.size,h.qa,h.os,h.tape,h.output⟩
theorem Mem.right{H A:Nat→Option aQ}{νA:Nat→Value}(h:Mem c (fi H A) w M (mix ν νA)):Mem c A w M νA:=
 ⟨fun i e hi=>by have:=h.ix (2*i+1) _ (o6 hi);rw[pW]at this;exact ER.re.1 this,
  fun i j e e' b nH hi hm hj gp=>by have:=h.uU (2*i+1) (2*j+1) _ _ b (by omega) (o6 hi) (aQ.mG.2 hm) (o6 hj) (aQ.mG.2 gp);rwa [pW,pW]at this,
  fun i e b hi hm=>by have:=h.new (2*i+1) _ b (o6 hi) (aQ.mG.2 hm);rwa [pW]at this,
  fun i e l b hi=>by have:=h.td (2*i+1) e l b (o6 hi);rwa [pW]at this,
  fun i τ x p j hi=>by
   obtain⟨h1,b,h2,h3⟩:=h.dN (2*i+1) τ x p (mr j) (o6 hi)
   rw[pW]at h2
   unfold mr at h1 h3
   rw[pW]at h3
   exact⟨B3.1 h1,b,h2,h3⟩,
  h.sub,h.xQ,h.frame,h.size,h.qa,h.os,h.tape,h.output⟩
theorem Mem.Qs{H:Nat→Option aQ}(νA:Nat→Value)(h:Mem c H w M ν):Mem c (fi H (fun _=>none)) w M (mix ν νA):=by
 have key: ∀i e,fi H (fun _=>none) i=some e→ ∃j e0,i=2*j∧H j=some e0∧e=e0.re ml:=by
  intro i e hi
  unfold fi at hi
  by_cases h2:i%2=0
  ·rw[if_pos h2]at hi
   obtain⟨e0,h3,h4⟩:=Option.map_eq_some_iff.1 hi
   exact⟨i/2,e0,by omega,h3,h4.symm⟩
  ·rw[if_neg h2]at hi;cases hi
 refine⟨fun i e hi=> ?_,fun i j e e' b nH hi hm hj gp=> ?_,fun i e b hi hm=> ?_,fun i e l b hi=> ?_,fun i τ x p j hi=> ?_,h.sub,h.xQ,h.frame,h.size,h.qa,h.os,h.tape,h.output⟩
 ·obtain⟨j,e0,rfl,hj,rfl⟩:=key i e hi;rw[eJ];exact ER.re.2 (h.ix j e0 hj)
 ·obtain⟨i',e1,rfl,kg,rfl⟩:=key i e hi;obtain⟨j',e2,rfl,Wn,rfl⟩:=key j e' hj
  rw[eJ,eJ];exact h.uU i' j' e1 e2 b (by omega) kg (aQ.mG.1 hm) Wn (aQ.mG.1 gp)
 ·obtain⟨j,e0,rfl,hj,rfl⟩:=key i e hi;rw[eJ];exact h.new j e0 b hj (aQ.mG.1 hm)
 ·obtain⟨j,e0,rfl,hj,he⟩:=key i _ hi
  cases e0<;>simp only[aQ.re]at he<;>cases he
  rw[eJ];exact h.td j e l b hj
 ·obtain⟨k,e0,rfl,hk,he⟩:=key i _ hi
  cases e0<;>simp only[aQ.re]at he<;>cases he
  obtain⟨h1,b,h2,h3⟩:=h.dN k _ _ _ _ hk
  refine⟨B2.2 h1,b,by rw[eJ];exact h2,?_⟩
  unfold ml
  rw[eJ];exact h3
theorem oa.left{H A H' A':Nat→Option aQ}{νA ν' Kt:Nat→Value}(g:oa (fi H A) (mix ν νA) (fi H' A') (mix ν' Kt)):oa H ν H' ν':=
 ⟨fun i e hi=>by
   obtain⟨e',h1,h2⟩:=g.ix (2*i) _ (eN hi)
   rw[sC]at h1
   obtain⟨e0,h3,rfl⟩:=Option.map_eq_some_iff.1 h1
   exact⟨e0,h3,aQ.Jb.1 h2⟩,
  fun i hi=>by have:=g.head (2*i) (B2.2 hi);rwa [eJ,eJ]at this⟩
theorem oa.right{H A H' A':Nat→Option aQ}{νA ν' Kt:Nat→Value}(g:oa (fi H A) (mix ν νA) (fi H' A') (mix ν' Kt)):oa A νA A' Kt:=
 ⟨fun i e hi=>by
   obtain⟨e',h1,h2⟩:=g.ix (2*i+1) _ (o6 hi)
   rw[o5]at h1
   obtain⟨e0,h3,rfl⟩:=Option.map_eq_some_iff.1 h1
   exact⟨e0,h3,aQ.Jb.1 h2⟩,
  fun i hi=>by have:=g.head (2*i+1) (B3.2 hi);rwa [pW,pW]at this⟩
theorem Mem.move{H A:Nat→Option aQ}{νA:Nat→Value}(h:Mem c (fi H A) w M (mix ν νA)){i j:Nat}{e e1:aQ}(hi:H i=some e)(hm:e.mut)(hj:A j=none)
  (He:(e1=e∧ ∀τ x p k,e≠ .dN τ x p k)∨ ∃τ x p k k',e= .dN τ x p k∧e1= .dN τ x p k'∧A k'≠none∧νA k'=ν k):
  Tr c (fi H A) w M (mix ν νA) (fi (bn H i (some .gone)) (bn A j (some e1))) w M (mix ν (ch νA j (ν i))):=by
 have hg:=Tr.gone h (2*i)
 have hgo:(some aQ.gone)=(some aQ.gone).map (aQ.re ml):=rfl
 rw[hgo,mH]at hg
 have Mc:=eN (B:=A) hi
 have hER:ER w M (ν i) (e1.re mr):=by
  have h1:=h.ix (2*i) _ Mc
  rw[eJ]at h1
  have h1:=ER.re.1 h1
  rcases He with⟨rfl,_⟩|⟨τ,x,p,k,k',rfl,rfl,_,_⟩
  ·exact ER.re.2 h1
  ·exact h1
 have h2:=Mem.vT hg.mem (id:=2*j+1) (v:=ν i) (e:=e1.re mr) (fun e' rX=>by rw[o5,hj]at rX;cases rX)
  hER
  (fun b hb k e' hk gp=>by
   by_cases PN:k=2*i
   ·subst PN;rw[sC,ak]at hk;cases hk;simp[aQ.re,aQ.mut]at gp
   ·have hk3:fi H A k=some e':=by
     have:=congrFun (mH H A i (some .gone)) k
     rw[al _ _ PN]at this
     rw[this];exact hk
    have:=h.uU (2*i) k _ e' b (Ne.symm PN) Mc (aQ.mG.2 hm) hk3 gp
    rw[eJ]at this
    exact this hb)
  (fun b hb=>by have:=h.new (2*i) _ b Mc (aQ.mG.2 hm);rw[eJ]at this;exact this hb)
  (fun b e0 l0 he hb=>by
   rcases He with⟨rfl,_⟩|⟨τ,x,p,k,k',rfl,rfl,_,_⟩
   ·cases e1<;>simp only[aQ.re]at he<;>cases he
    have:=h.td (2*i) e0 l0 b Mc;rw[eJ]at this;exact this hb
   ·simp[aQ.re]at he)
  (.inl (by rw[o5,hj];rfl))
  (fun τ x p k he=>by
   rcases He with⟨rfl,hn⟩|⟨τ,x,p,k,k',rfl,rfl,hk,hνk⟩
   ·cases e1<;>simp only[aQ.re]at he<;>cases he
    exact absurd rfl (hn _ _ _ _)
   ·simp only[aQ.re]at he
    cases he
    obtain⟨_,b,h4,h5⟩:=h.dN (2*i) _ _ _ _ Mc
    rw[eJ]at h4
    have hkj:k'≠j:=fun e=>hk (e▸hj)
    refine⟨?_,b,h4,?_⟩
    ·rw[al _ _ (by unfold mr;omega)]
     unfold mr
     exact B3.2 hk
    ·unfold ml at h5
     rw[eJ]at h5
     rw[h5,←hνk]
     have:ch (mix ν νA) (2*j+1) (ν i) (mr k')=mix ν νA (mr k'):=by
      unfold ch mr;rw[if_neg (by omega)]
     rw[this];unfold mr;rw[pW])
 have Qt:some (e1.re mr)=(some e1).map (aQ.re mr):=rfl
 rw[Qt,yh,yi]at h2
 refine⟨h2,.refl w M,⟨fun k e' hk=> ?_,fun k hk=> ?_⟩⟩
 ·by_cases h3:k%2=0
  ·obtain⟨k',rfl⟩: ∃k',k=2*k':=⟨k/2,by omega⟩
   by_cases ye:k'=i
   ·subst ye;exact⟨.gone,by rw[sC,ak];rfl,aQ.jF _⟩
   ·exact⟨e',by rw[sC]at hk ⊢;rw[al _ _ ye];exact hk,.refl e'⟩
  ·obtain⟨k',rfl⟩: ∃k',k=2*k'+1:=⟨k/2,by omega⟩
   rw[o5]at hk ⊢
   have ye:k'≠j:=fun e=>by rw[e,hj]at hk;cases hk
   exact⟨e',by rw[al _ _ ye];exact hk,.refl e'⟩
 ·by_cases h3:k%2=0
  ·obtain⟨k',rfl⟩: ∃k',k=2*k':=⟨k/2,by omega⟩
   rw[eJ,eJ]
  ·obtain⟨k',rfl⟩: ∃k',k=2*k'+1:=⟨k/2,by omega⟩
   rw[pW,pW]
   have ye:k'≠j:=fun e=>by rw[o5,e,hj]at hk;exact hk rfl
   simp[ch,ye]
theorem Mem.fresh{H A:Nat→Option aQ}{νA:Nat→Value}(h:Mem c (fi H A) w M (mix ν νA)){j:Nat}(hj:A j=none)(e:Ty)(ad:Option Addr):
  Tr c (fi H A) w M (mix ν νA) (fi H (bn A j (some (.own e [])))) w M (mix ν (ch νA j (.slice ad 0 0))):=by
 have:=Tr.nothing h (id:=2*j+1) (by rw[o5,hj];rfl) e ad
 have Qt:some (aQ.own e [])=(some (aQ.own e [])).map (aQ.re mr):=rfl
 rw[Qt,yh,yi]at this
 exact this
structure Cut(c:Ctx)(σ acc:St)(tm:Array Value)(w:World)(M:Nat→Prop)(ν νA:Nat→Value):Prop where
 mem:Mem c (fi σ.H acc.H) w M (mix ν νA)
 src: ∀i,VR w M σ.H ν (σ.T i) (tm.getD i undef)
 dst: ∀i,VR w M acc.H νA (acc.T i) (tm.getD i undef)
theorem Cut.tr{acc:St}{tm:Array Value}{νA:Nat→Value}(h:Cut c σ acc tm w M ν νA){H' A':Nat→Option aQ}{M':Nat→Prop}{Kt:Nat→Value}(t:Tr c (fi σ.H acc.H) w M (mix ν νA) (fi H' A') w M' (mix ν Kt)){s:Nat}{x:aX}(hx:VR w M' A' Kt x (tm.getD s undef)):
  Cut c ⟨σ.T,H'⟩ ⟨(acc.put s x).T,A'⟩ tm w M' ν Kt:=by
 refine⟨t.mem,fun i=>VR.br t.br t.goes.left (h.src i),fun i=> ?_⟩
 show VR w M' A' Kt ((acc.put s x).T i) _
 by_cases hi:i=s
 ·subst hi;rw[o4];exact hx
 ·rw[tL _ _ hi];exact VR.br t.br t.goes.right (h.dst i)
def MO(A:Nat→Option aQ)(s:Nat):Prop:=A (16*s+13)=none∧A (16*s+14)=none∧A (16*s+15)=none
theorem ic{q:Nat×CM}{L:List (Nat×CM)}{A:Nat→Option aQ}(hF:fR (q::L)=true)(hN: ∀p∈q::L,MO A p.1):
  fR L=true∧(∀p∈L,MO A p.1)∧
   ∀(A':Nat→Option aQ) (d:Nat) (v:Option aQ),(d=16*q.1+13∨d=16*q.1+14∨d=16*q.1+15)→(∀p∈L,MO A' p.1)→ ∀p∈L,MO (bn A' d v) p.1:=by
 unfold fR at hF
 rw[Bool.and_eq_true,List.all_eq_true]at hF
 refine⟨hF.2,fun p hp=>hN p (List.mem_cons_of_mem _ hp),fun A' d v hd hN' p hp=> ?_⟩
 have gH:p.1≠q.1:=fun e=>by
  have:=hF.1 p hp
  rw[e]at this
  simp at this
 obtain⟨h1,h2,h3⟩:=hN' p hp
 exact⟨by rw[al _ _ (by omega)];exact h1,by rw[al _ _ (by omega)];exact h2,by rw[al _ _ (by omega)];exact h3⟩
theorem c6{tm:Array Value}: ∀(L:List (Nat×CM)) (σ acc:St) (M:Nat→Prop) (νA:Nat→Value) (K:St→Option α),Cut c σ acc tm w M ν νA→fR L=true→(∀q∈L,MO acc.H q.1)→eD L σ acc K=some r→
  ∃Qu M' Kt,K Qu=some r∧Core c Qu tm w M' Kt
 |[],σ,acc,M,νA,K,hC,_,_,h=>⟨acc,M,νA,h,hC.mem.right,hC.dst⟩
 |(s,.v τ)::L,σ,acc,M,νA,K,hC,hF,hN,h=>by
  obtain⟨GO,GP,Ku⟩:=ic hF hN
  unfold eD at h
  obtain⟨y,rd,ups,h,hy⟩:=xx hC.mem.left (hC.src s) h
  rcases hy with⟨rfl,hV⟩|⟨id,e,l,rfl,aR,hV⟩
  ·exact c6 L σ _ M νA K (hC.tr (.refl hC.mem) (x:= .val τ y) (by simp only[VR];exact hV)) GO GP h
  ·obtain⟨M2,eH,_,BR⟩:=Tr.freeze hC.mem (id:=2*id) (eN aR)
   have Qt:some (aQ.jW e l)=(some (aQ.jW e l)).map (aQ.re ml):=rfl
   rw[Qt,mH]at eH
   refine c6 L _ _ M2 νA K (hC.tr eH (x:= .val τ y) ?_) GO GP h
   simp only[VR]
   exact hV M2 (fun b=>by rw[BR b,eJ])
 |(s,.own e)::L,σ,acc,M,νA,K,hC,hF,hN,h=>by
  obtain⟨GO,GP,Ku⟩:=ic hF hN
  unfold eD at h
  have hs:=hC.src s
  split at h
  ·rename_i hT
   have hj:=(hN _ List.mem_cons_self).2.1
   rw[hT]at hs
   obtain⟨ad,hv⟩:=VR.emp.1 hs
   refine c6 L σ _ M _ K (hC.tr (hC.mem.fresh hj e ad) (x:= .ref (16*s+14)) ?_) GO (Ku _ _ _ (.inr (.inl rfl)) GP) h
   simp only[VR]
   exact⟨by rw[ak];simp,by rw[hv];simp[ch]⟩
  ·rename_i id hT
   rw[hT]at hs
   simp only[VR]at hs
   split at h
   ·rename_i e' l aR
    obtain⟨e1,h⟩:=a7 h
    cases e1
    have hj:=(hN _ List.mem_cons_self).2.1
    refine c6 L _ _ M _ K (hC.tr (hC.mem.move aR trivial hj (.inl ⟨rfl,fun _ _ _ _=>by simp⟩)) (x:= .ref (16*s+14)) ?_) GO (Ku _ _ _ (.inr (.inl rfl)) GP) h
    simp only[VR]
    exact⟨by rw[ak];simp,by rw[hs.2];simp[ch]⟩
   ·cases h
  ·cases h
 |(s,.obj τ)::L,σ,acc,M,νA,K,hC,hF,hN,h=>by
  obtain⟨GO,GP,Ku⟩:=ic hF hN
  unfold eD at h
  have hs:=hC.src s
  split at h
  ·rename_i id hT
   rw[hT]at hs
   split at h
   ·rename_i υ x aR
    obtain⟨e1,h⟩:=a7 h
    subst e1
    have hj:=(hN _ List.mem_cons_self).2.1
    simp only[VR]at hs
    obtain⟨e,he,js⟩:=hs
    rw[aR]at he;cases he
    simp only[AR]at js
    obtain⟨_,b,hb,hv⟩:=js
    refine c6 L _ _ M _ K (hC.tr (hC.mem.move aR trivial hj (.inl ⟨rfl,fun _ _ _ _=>by simp⟩)) (x:= .fc (16*s+14) []) ?_) GO (Ku _ _ _ (.inr (.inl rfl)) GP) h
    simp only[VR]
    exact⟨_,ak _ _ _,trivial,b,by simp[ch,hb],hv⟩
   ·
    rename_i υ x q k aR
    obtain⟨z,ups,M2,hK,eH,acS,b,cs,t,hb,hg,BR,gG⟩: ∃z ups M2,bX υ τ z (fun y=>eD L ((σ.qh ups).gK id (some .gone)) ((acc.put s (.fc (16*s+14) [])).gK (16*s+14) (some (.obj τ y))) K)=some r∧
      Tr c (fi σ.H acc.H) w M (mix ν νA) (fi (bS σ.H ups) acc.H) w M2 (mix ν νA)∧bS σ.H ups id=some (.dN υ x q k)∧ ∃b cs t,ν id= .pointer (some ⟨b,0,none⟩)∧w.heap[b]? =some (.cells cs t (0,0))∧M2 b∧Rd w M2 υ cs.toList z:=by
     have acT:=eN (B:=acc.H) aR
     unfold wJ at h
     split at h
     ·rename_i e l hk
      have gH:id≠k:=fun e=>by rw[e,hk]at aR;cases aR
      obtain⟨z,ups,M2,hK,eH,_,XI,b,cs,t,hb,hg,BR,gG⟩:=sy (H:=fi σ.H acc.H) hC.mem (id:=2*id) (j:=2*k) (x:=x) (q:=q)
       (k:=fun z _=>bX υ τ z fun y=>eD L ((σ.qh [(k,some (.jW e l))]).gK id (some .gone)) ((acc.put s (.fc (16*s+14) [])).gK (16*s+14) (some (.obj τ y))) K) acT (by
        unfold wJ
        rw[eN hk]
        exact h)
      rw[eJ]at hb
      rcases XI with⟨e2,l2,h2,_⟩|⟨e2,l2,h2,rfl⟩
      ·rw[eN hk]at h2;simp[aQ.re]at h2
      ·rw[eN hk]at h2
       simp only[aQ.re,Option.some.injEq]at h2
       have Qt:some (aQ.jW e l)=(some (aQ.jW e l)).map (aQ.re ml):=rfl
       have qq:Tr c (fi σ.H acc.H) w M (mix ν νA) (bn (fi σ.H acc.H) (2*k) (some (.jW e l))) w M2 (mix ν νA):=by
        cases h2;exact eH
       rw[Qt,mH]at qq
       exact⟨z,_,M2,hK,qq,by show bn σ.H k _ id=_;rw[al _ _ gH];exact aR,b,cs,t,hb,hg,BR,gG⟩
     ·rename_i e l hk
      obtain⟨z,ups,M2,hK,eH,_,XI,b,cs,t,hb,hg,BR,gG⟩:=sy (H:=fi σ.H acc.H) hC.mem (id:=2*id) (j:=2*k) (x:=x) (q:=q)
       (k:=fun z _=>bX υ τ z fun y=>eD L ((σ.qh []).gK id (some .gone)) ((acc.put s (.fc (16*s+14) [])).gK (16*s+14) (some (.obj τ y))) K) acT (by
        unfold wJ
        rw[eN hk]
        exact h)
      rw[eJ]at hb
      rcases XI with⟨e2,l2,h2,rfl⟩|⟨e2,l2,h2,_⟩
      ·exact⟨z,[],M2,hK,eH,aR,b,cs,t,hb,hg,BR,gG⟩
      ·rw[eN hk]at h2;simp[aQ.re]at h2
     ·cases h
    obtain⟨e1,hK⟩:=a7 hK
    subst e1
    have hC2:Cut c ⟨σ.T,bS σ.H ups⟩ acc tm w M2 ν νA:=⟨eH.mem,fun i=>VR.br eH.br eH.goes.left (hC.src i),fun i=>VR.br eH.br eH.goes.right (hC.dst i)⟩
    have qv:=Tr.Kc (e':= .obj υ z) eH.mem (eN acS) trivial trivial rfl (fun _ _=>by simp) (by rw[eJ];simp only[ER];exact⟨b,cs,t,hb,hg,BR,gG⟩) (fun _ _ _ _ h=>by cases h)
    have Qt:some (aQ.obj υ z)=(some (aQ.obj υ z)).map (aQ.re ml):=rfl
    rw[Qt,mH]at qv
    have hC3:Cut c ⟨σ.T,bn (bS σ.H ups) id (some (.obj υ z))⟩ acc tm w M2 ν νA:=⟨qv.mem,fun i=>VR.br qv.br qv.goes.left (hC2.src i),fun i=>VR.br qv.br qv.goes.right (hC2.dst i)⟩
    have hj:=(hN _ List.mem_cons_self).2.1
    simp only[VR]at hs
    obtain⟨e,he,js⟩:=hs
    rw[aR]at he;cases he
    simp only[AR]at js
    obtain⟨_,b',dv,hv⟩:=js
    rw[hb]at dv;cases dv
    have hmv:=hC3.mem.move (ak _ _ _) trivial hj (.inl ⟨rfl,fun _ _ _ _=>by simp⟩)
    rw[sx]at hmv
    have GH:(σ.qh ups).gK id (some .gone)=⟨σ.T,bn (bS σ.H ups) id (some .gone)⟩:=by
     have h2:σ.qh ups=⟨σ.T,bS σ.H ups⟩:=by rw[←Hc,←Hd ups σ]
     rw[h2];rfl
    rw[GH]at hK
    refine c6 L _ _ M2 _ K (hC3.tr hmv (x:= .fc (16*s+14) []) ?_) GO (Ku _ _ _ (.inr (.inl rfl)) GP) hK
    simp only[VR]
    exact⟨_,ak _ _ _,trivial,b,by simp[ch,hb],hv⟩
   ·cases h
  ·cases h
 |(s,.dN τ q e)::L,σ,acc,M,νA,K,hC,hF,hN,h=>by
  obtain⟨GO,GP,Ku⟩:=ic hF hN
  unfold eD at h
  have hs:=hC.src s
  split at h
  ·rename_i id hT
   rw[hT]at hs
   split at h
   ·rename_i υ x q' k aR
    obtain⟨hpq,h1⟩:=bA h
    clear h
    have:=uZ hpq
    subst this
    split at h1
    ·rename_i e' l hk
     obtain⟨e1,h2⟩:=a7 h1
     clear h1
     subst e1
     obtain⟨e2,h⟩:=a7 h2
     cases e2
     have gH:id≠k:=fun e=>by rw[e,hk]at aR;cases aR
     obtain⟨aid,aie,_⟩:=hN _ List.mem_cons_self
     simp only[VR]at hs
     obtain⟨e,he,js⟩:=hs
     rw[aR]at he;cases he
     simp only[AR]at js
     obtain⟨_,b,hb,hv⟩:=js
     have oB:=hC.mem.move hk trivial aid (.inl ⟨rfl,fun _ _ _ _=>by simp⟩)
     have kY:bn σ.H k (some .gone) id=some (.dN υ x q k):=by rw[al _ _ gH];exact aR
     have tx:=oB.mem.move kY trivial (j:=16*s+14) (e1:= .dN υ x q (16*s+13)) (by rw[al _ _ (by omega)];exact aie)
      (.inr ⟨υ,x,q,k,16*s+13,rfl,rfl,by rw[ak];simp,by simp[ch]⟩)
     refine c6 L _ _ M _ K (hC.tr (oB.trans tx) (s:=s) (x:= .fc (16*s+14) []) ?_) GO (Ku _ _ _ (.inr (.inl rfl)) (Ku _ _ _ (.inl rfl) GP)) h
     simp only[VR]
     exact⟨_,ak _ _ _,trivial,b,by simp[ch,hb],hv⟩
    ·cases h1
   ·cases h
  ·cases h
 |(s,.same s')::L,σ,acc,M,νA,K,hC,hF,hN,h=>by
  obtain⟨GO,GP,Ku⟩:=ic hF hN
  unfold eD at h
  split at h
  ·rename_i i j j' h1 h2 h3
   obtain⟨hb,h⟩:=bA h
   have hb:=Nat.eq_of_beq_eq_true hb
   have e1:=hC.src s
   have e2:=hC.src s'
   have e3:=hC.dst s'
   rw[h1]at e1;rw[h2]at e2;rw[h3]at e3
   simp only[VR]at e1 e2 e3
   refine c6 L σ _ M νA K (hC.tr (.refl hC.mem) (x:= .ref j') ?_) GO GP h
   simp only[VR]
   exact⟨e3.1,by rw[e1.2,hb,←e2.2,e3.2]⟩
  ·cases h
 |(s,.io τ)::L,σ,acc,M,νA,K,hC,hF,hN,h=>by
  obtain⟨GO,GP,Ku⟩:=ic hF hN
  unfold eD at h
  have hs:=hC.src s
  split at h
  ·rename_i id hT
   rw[hT]at hs
   obtain⟨_,h⟩:=bA h
   split at h
   ·rename_i υ x aR
    obtain⟨e1,h⟩:=a7 h
    subst e1
    have hj:=(hN _ List.mem_cons_self).2.2
    simp only[VR]at hs
    obtain⟨e,he,js⟩:=hs
    rw[aR]at he;cases he
    simp only[AR]at js
    obtain⟨_,b,hb,hv⟩:=js
    refine c6 L _ _ M _ K (hC.tr (hC.mem.move aR trivial hj (.inl ⟨rfl,fun _ _ _ _=>by simp⟩)) (x:= .fc (16*s+15) []) ?_) GO (Ku _ _ _ (.inr (.inr rfl)) GP) h
    simp only[VR]
    exact⟨_,ak _ _ _,trivial,b,by simp[ch,hb],hv⟩
   ·cases h
  ·cases h
 |(s,.fn f τ)::L,σ,acc,M,νA,K,hC,hF,hN,h=>by
  obtain⟨GO,GP,Ku⟩:=ic hF hN
  unfold eD at h
  have hs:=hC.src s
  split at h
  ·rename_i f' cs hT
   rw[hT]at hs
   obtain⟨hb,h1⟩:=bA h
   clear h
   have hb:=Nat.eq_of_beq_eq_true hb
   subst hb
   simp only[VR]at hs
   obtain⟨us,hv,Qe⟩:=hs
   obtain⟨y,rd,ups,h,hy⟩:=yc hC.mem.left Qe h1
   split at h
   ·refine c6 L σ _ M νA K (hC.tr (.refl hC.mem) (x:= .Dj f (lA τ y)) ?_) GO GP h
    simp only[VR]
    exact⟨us,hv,fv.free (hy rfl)⟩
   ·cases h
  ·cases h
theorem sD(hI:Inv c E σ a w){L:Option (List (Nat×CM))}(hL: ∀L',L=some L'→fR L'=true){K:St→Option α}(h:qn L σ K=some r): ∃σ',K σ'=some r∧Inv c E σ' a w:=by
 unfold qn at h
 split at h
 ·exact⟨σ,h,hI⟩
 ·have Wl:=hL _ rfl
  obtain⟨⟨M,ν,hc⟩,hs,hd⟩:=hI
  obtain⟨Qu,M',Kt,hK,acU⟩:=c6 (tm:=a.tmps) _ σ ⟨fun _=> .any,fun _=>none⟩ M (fun _=>undef) K ⟨hc.mem.Qs _,hc.tmp,fun i=>by simp[VR]⟩ Wl (fun _ _=>⟨rfl,rfl,rfl⟩) h
  exact⟨Qu,hK,⟨M',Kt,acU⟩,hs,hd⟩
end VM
end
