/- A part of the proof of TearFlat of layer 29: a machine that reads a function of the program as an equation between values. -/
import Derived.Test.YtocmlaipoebfeaaGreatVm3
import Derived.Scope
set_option linter.all false
section
namespace VM
open Go
variable{P:Program}{E:Env}{o:Oper}{a:Act}{w:World}{M:Nat→Prop}{ν:Nat→Value}{σ:St}{c:Ctx}{α:Type}{r:α}{next:Act→World→Prop}{Q:Exit→Act→World→Prop}
theorem Mem.call{H:Nat→Option bh}(h:Mem c H w M ν){hs:List Nat}{M0 M':Nat→Prop}{w':World}(hM: ∀b,M0 b→M b)(hhs: ∀b∈hs,M b)
  (vE: ∀b∈hs,∀i e,H i=some e→e.mut→fL (ν i)≠some b) (lO: ∀b∈hs,c.B≤b∨c.may b) (vH: ∀b∈hs,c.M0 b→M' b) (L:Left w M0 hs w' M'):
  Mem c H w' (λb=>M' b∨(M b∧b∉hs)) ν∧fh w M w' (λb=>M' b∨(M b∧b∉hs)):=by
 have hk:fh w M w' (λb=>M' b∨(M b∧b∉hs)):=by
  refine⟨L.size,λb hb hm=>L.frame b hb (λhh=>hm (hhs b hh)),λb hb hm=> ?_⟩
  rcases hm with hm|hm
  ·exact(L.less b hb hm).elim (hM b) (hhs b)
  ·exact hm.1
 refine⟨⟨λi e hi=>(h.ln i e hi).cc hk λhm b hb=> ?_,h.zP,h.new,h.yG,q3 h (λ_ _=>rfl) (λ_ h=>h) (λi τ x p j hi=> .inl ⟨hi,λb hb=> ?_⟩),λb hb=> ?_,λb hb=> ?_,λb hb hm=> ?_,cA h.size L.size,h.vT,L.os.trans h.os,L.tape.trans h.tape,L.output.trans h.output⟩,hk⟩
 ·have hMb:=(h.ln i e hi).yb hm hb
  have zX:b∉hs:=λhh=>vE b hh i e hi hm hb
  exact⟨L.frame b (h.ES b hMb) zX,.inr ⟨hMb,zX⟩⟩
 ·have vD:fL (ν i)=some b:=by rw[hb];rfl
  have hMb:=(h.ln i _ hi).yb trivial vD
  exact L.frame b (h.ES b hMb) (λhh=>vE b hh i _ hi trivial vD)
 ·by_cases hh:b∈hs
  ·exact .inl (vH b hh hb)
  ·exact .inr ⟨h.sub b hb,hh⟩
 ·rcases hb with hb|hb
  ·exact L.ES b hb
  ·exact nc (h.ES b hb.1) L.size
 ·have zX:b∉hs:=λhh=>(lO b hh).elim (λh'=>ω) hm
  rw[L.frame b (nc hb h.size) zX]
  exact h.frame b hb hm
theorem Mem.yv{H:Nat→Option bh}(h:Mem c H w M ν){id:Nat}{v:Value}{e:bh}(bm: ∀e',H id=some e'→ ¬e'.mut)(SS:ER w M v e)
  (hd: ∀b,fL v=some b→ ∀i e',H i=some e'→e'.mut→fL (ν i)≠some b) (hn: ∀b,fL v=some b→c.B≤b∨c.may b) (ho: ∀b e0 l0,e= .own e0 l0→fL v=some b→ ¬c.M0 b)
  (hnv:H id=none∨v=ν id)
  (s9: ∀τ x p j,e= .gk τ x p j→bT H id (some e) j≠none∧ ∃b,v= .pointer (some ⟨b,0,none⟩)∧w.cell? ⟨b,cC p τ,none⟩=some (dp ν id v j):=by intro _ _ _ _ h;cases h):
  Mem c (bT H id (some e)) w M (dp ν id v):=by
 have hν: ∀i,i≠id→dp ν id v i=ν i:=λi hi=>by simp[dp,hi]
 have Di:dp ν id v id=v:=by simp[dp]
 refine⟨λi e1 hi=> ?_,λi k e1 e2 b1 pF hi tT hk yu=> ?_,λi e1 b1 hi tT=> ?_,λi e1 l1 b1 hi=> ?_,q3 h (λi hi=> ?_) xw (λi τ x p j hi=> ?_),h.sub,h.ES,h.frame,h.size,h.vT,h.os,h.tape,h.output⟩
 ·by_cases bS:i=id
  ·subst bS;rw[ay]at hi;cases hi;rw[Di];exact SS
  ·rw[az _ _ bS]at hi;rw[hν i bS];exact h.ln i e1 hi
 ·by_cases bS:i=id
  ·subst bS;rw[Di]
   have He:k≠i:=eU pF
   rw[az _ _ He]at hk;rw[hν k He]
   intro mG
   exact hd b1 mG k e2 hk yu
  ·rw[az _ _ bS]at hi;rw[hν i bS]
   by_cases He:k=id
   ·subst He;rw[Di]
    intro mG tU
    exact hd b1 tU i e1 hi tT mG
   ·rw[az _ _ He]at hk;rw[hν k He];exact h.zP i k e1 e2 b1 pF hi tT hk yu
 ·by_cases bS:i=id
  ·subst bS;rw[Di];exact hn b1
  ·rw[az _ _ bS]at hi;rw[hν i bS];exact h.new i e1 b1 hi tT
 ·by_cases bS:i=id
  ·subst bS;rw[ay]at hi;cases hi;rw[Di];exact ho b1 e1 l1 rfl
  ·rw[az _ _ bS]at hi;rw[hν i bS];exact h.yG i e1 l1 b1 hi
 ·by_cases bS:i=id
  ·subst bS
   rcases hnv with hnv|hnv
   ·exact absurd hnv hi
   ·rw[Di,hnv]
  ·exact hν i bS
 ·by_cases bS:i=id
  ·subst bS
   rw[ay]at hi
   cases hi
   obtain⟨h1,b,h2,h3⟩:=s9 _ _ _ _ rfl
   exact .inr ⟨h1,b,by rw[Di];exact h2,h3⟩
  ·rw[az _ _ bS]at hi
   exact .inl ⟨hi,λ_ _=>rfl⟩
theorem S6{m:AM}{ms:List AM}(x:HP (m::ms))(id:Nat)(io:List (Nat×AM)):
  jV (m::ms) x id io=match m,tz x,io with
   | .io τ,y,(j,_)::io=>((jV ms (yf x) (id+1) io).1,(j,some (.obj τ y))::(jV ms (yf x) (id+1) io).2.1,(jV ms (yf x) (id+1) io).2.2)
   | .lo e,y,(j,_)::io=>((jV ms (yf x) (id+1) io).1,(j,some (.own e y))::(jV ms (yf x) (id+1) io).2.1,(jV ms (yf x) (id+1) io).2.2)
   |m,y,io=>((JC m y id).1::(jV ms (yf x) (id+1) io).1,(JC m y id).2++(jV ms (yf x) (id+1) io).2.1,(jV ms (yf x) (id+1) io).2.2):=by
 cases ms with
 |nil=>cases m<;>cases io<;>simp[jV,tz]
 |cons n ms=>cases m<;>cases io<;>simp[jV,tz,yf]
theorem mJ{l1 l2:List Nat}{b:Nat}(h:(l1++l2).Nodup)(h1:b∈l1):b∉l2:=λh2=>(ng.1 h).2.2 b h1 b h2 rfl
theorem RR.JV: ∀{ms:List AM} {x:HP ms} {us ps:List Value},RR w M ms x us ps→ ∀p∈ps,∀b,fL p=some b→b∈bH ms us ps
 |[],_,_,_,h,p,hp,_,_=>by simp only[RR]at h;rw[h.2]at hp;simp at hp
 |m::ms,x,us,ps,h,p,hp,b,hb=>by
  simp only[RR]at h
  rcases h with⟨p',Hh,h1,rfl,h2,h3⟩|⟨v,JU,h1,h2,rfl,h3,h4⟩
  ·simp only[bH,h1,gH,tG,tH,bo]
   rcases aX.1 hp with rfl|hp
   ·left
    cases m<;>simp[AM.iJ]at h1<;>simp[db,hb]
   ·exact .inr (RR.JV h3 p hp b hb)
  ·simp only[bH,h1,jd,fa,tG,tH,bo]
   exact .inr (RR.JV h4 p hp b hb)
theorem ox{hs:List Nat}{sz:Nat}: ∀{ms:List AM} {x:HP ms} {us ps:List Value} {id:Nat} {io:List (Nat×AM)} {H:Nat→Option bh} {ν:Nat→Value} {used:List Nat},
  Mem c H w M ν→RR w M ms x us ps→ps=io.map (λq=>ν q.1)→nC ms=io.map (·.2)→(keys io).Nodup→(∀q∈io,H q.1=some .gone)→(∀i,id≤i→i<id+ms.length→H i=none)→
  (∀i e b,H i=some e→e.mut→fL (ν i)=some b→(b<sz∧b∉hs)∨b∈used)→(used++bH ms us ps).Nodup→(∀b∈bH ms us ps,sz≤b∨b∈hs)→
  (∀b∈bH ms us ps,(c.B≤b∨c.may b))→(∀b∈bH ms us ps,c.M0 b→ ∃p∈ps,fL p=some b)→
  (∀q∈io,∀e,q.2= .lo e→ ∀b,fL (ν q.1)=some b→ ¬c.M0 b)→
  ∃ν',Mem c (cY H (jV ms x id io).2.1) w M ν'∧ju w M (cY H (jV ms x id io).2.1) ν' (jV ms x id io).1 us∧(∀i,H i≠none→ν' i=ν i)∧
   (∀i,i∉keys io→(i<id∨id+ms.length≤i)→cY H (jV ms x id io).2.1 i=H i)∧(∀i,id≤i→i<id+ms.length→ ∀e,cY H (jV ms x id io).2.1 i=some e→(∃e0 l0,e= .own e0 l0)∨ ∃τ0 z0,e= .obj τ0 z0)∧
   (∀q∈io,IoE (cY H (jV ms x id io).2.1) q)
 |[],x,us,ps,id,io,H,ν,used,hm,hr,JR,E0,Dt,Bs,jv,hold,yg,pL,lO,H7,ye=>by
  simp only[RR]at hr
  obtain⟨rfl,rfl⟩:=hr
  have vH:io=[]:=by
   cases io with
   |nil=>rfl
   |cons q io=>simp at JR
  subst vH
  exact⟨ν,hm,by simp[jV,ju],λ_ _=>rfl,λ_ _ _=>rfl,λi h1 h2=>by simp at h2;omega,λq hq=>by simp at hq⟩
 |m::ms,x,us,ps,id,io,H,ν,used,hm,hr,JR,E0,Dt,Bs,jv,hold,yg,pL,lO,H7,ye=>by
  rw[S6]
  simp only[RR]at hr
  rcases hr with⟨p,Hh,HB,rfl,h1,h2⟩|⟨v,JU,HB,hmf,rfl,h1,h2⟩
  ·
   cases m with
   |io τ=>
    cases io with
    |nil=>simp at JR
    |cons q io=>
     simp only[bR,fv]at JR
     obtain⟨rfl,rfl⟩:=JR
     simp only[nC,bR,fv]at E0
     obtain⟨Zp,ahf⟩:=E0
     simp only[keys,bR,zB]at Dt
     have Zq:bH (.io τ::ms) us (ν q.1::io.map λq=>ν q.1)=(fL (ν q.1)).toList++bH ms us (io.map λq=>ν q.1):=rfl
     rw[Zq]at yg pL lO H7
     have yh:=Bs q bp
     have E7:q.1<id∨id+(ms.length+1)≤q.1:=by
      rcases nq q.1 id with h'|h'
      ·exact .inl h'
      ·rcases nq q.1 (id+(ms.length+1))with JW|JW
       ·rw[jv q.1 h' JW]at yh;cases yh
       ·exact .inr JW
     simp only[A1]at h1
     have ra: ∀b,fL (ν q.1)=some b→ ∀i e',H i=some e'→e'.mut→fL (ν i)≠some b:=by
      intro b hb i e' hi jW ff
      have m4:b∈(fL (ν q.1)).toList++bH ms us (io.map λq=>ν q.1):=cQ _ (by rw[hb];simp)
      rcases hold i e' b hi jW ff with⟨h3,h4⟩|h3
      ·exact(pL b m4).elim (λh'=>ω) h4
      ·exact mJ yg h3 m4
     have yu:=Mem.yv (c:=c) hm (id:=q.1) (v:=ν q.1) (e:= .obj τ (tz x)) (λe' wF=>by rw[yh]at wF;cases wF;simp[bh.mut]) h1 ra (λb hb=>lO b (cQ _ (by rw[hb];simp))) (λb e0 l0 he=>by cases he) (.inr rfl)
     have hνe:dp ν q.1 (ν q.1)=ν:=by funext i;unfold dp;split<;>simp_all
     rw[hνe]at yu
     have ahg: ∀(q':Nat×AM),q'∈io→q'.1≠q.1:=λq' mI e=>Dt.1 (cD.2 ⟨q',mI,e⟩)
     obtain⟨ν',r1,r2,r3,r4,r5,r6⟩:=ox (ms:=ms) (x:=yf x) (us:=us) (ps:=io.map λq=>ν q.1) (id:=id+1) (io:=io) (used:=used++(fL (ν q.1)).toList) yu h2 rfl ahf Dt.2
      (λq' mI=>by rw[az _ _ (ahg q' mI)];exact Bs q' (a8 _ mI))
      (λi h3 h4=>by
       have:i≠q.1:=ω
       rw[az _ _ this]
       exact jv i ω (by simp only[aW];omega))
      (λi e b hi jW hb=>by
       by_cases bS:i=q.1
       ·subst bS;exact .inr (dD _ (by rw[hb];simp))
       ·rw[az _ _ bS]at hi
        exact(hold i e b hi jW hb).imp (λh=>h) (cQ _))
      (by rw[bM];exact yg) (λb hb=>pL b (dD _ hb)) (λb hb=>lO b (dD _ hb))
      (λb hb YK=>by
       obtain⟨p,hp,hpb⟩:=H7 b (dD _ hb) YK
       rcases aX.1 hp with rfl|hp
       ·exact absurd (mJ (ng.1 yg).2.1 (b:=b) (by rw[hpb];simp)) (by simpa using hb)
       ·exact⟨p,hp,hpb⟩) (λq' mI=>ye q' (a8 _ mI))
     refine⟨ν',r1,r2,λi hi=> ?_,λi h3 h4=> ?_,λi h3 h4 e he=> ?_,λq' mI=> ?_⟩
     ·exact r3 i (by
       by_cases bS:i=q.1
       ·subst bS;rw[ay];simp
       ·rw[az _ _ bS];exact hi)
     ·simp only[keys,bR,aX,not_or]at h3
      have:=r4 i h3.2 (by simp only[aW]at h4;omega)
      rw[az _ _ h3.1]at this
      exact this
     ·by_cases h5:id+1≤i
      ·exact r5 i h5 (by simp only[aW]at h4;omega) e he
      ·have bS:i=id:=ω
       subst bS
       by_cases hk:i∈keys io
       ·obtain⟨q',mI,Hi⟩:=cD.1 hk
        have h9:=Bs q' (a8 _ mI)
        rw[Hi,jv i (aI _) (by simp)]at h9
        cases h9
       ·have:=r4 i hk (.inl ω)
        have iI:i≠q.1:=ω
        rw[az _ _ iI,jv i (aI _) (by simp)]at this
        have he:cY (bT H q.1 (some (bh.obj τ (tz x)))) (jV ms (yf x) (i+1) io).2.1 i=some e:=he
        rw[this]at he;cases he
     ·rcases aX.1 mI with rfl|mI
      ·have:=r4 q'.1 Dt.1 ω
       rw[ay]at this
       exact .inl ⟨τ,tz x,Zp.symm,this⟩
      ·exact r6 q' mI
   |lo τ=>
    cases io with
    |nil=>simp at JR
    |cons q io=>
     simp only[bR,fv]at JR
     obtain⟨rfl,rfl⟩:=JR
     simp only[nC,bR,fv]at E0
     obtain⟨Zp,ahf⟩:=E0
     simp only[keys,bR,zB]at Dt
     have Zq:bH (.lo τ::ms) us (ν q.1::io.map λq=>ν q.1)=(fL (ν q.1)).toList++bH ms us (io.map λq=>ν q.1):=rfl
     rw[Zq]at yg pL lO H7
     have yh:=Bs q bp
     have E7:q.1<id∨id+(ms.length+1)≤q.1:=by
      rcases nq q.1 id with h'|h'
      ·exact .inl h'
      ·rcases nq q.1 (id+(ms.length+1))with JW|JW
       ·rw[jv q.1 h' JW]at yh;cases yh
       ·exact .inr JW
     simp only[A1]at h1
     have ra: ∀b,fL (ν q.1)=some b→ ∀i e',H i=some e'→e'.mut→fL (ν i)≠some b:=by
      intro b hb i e' hi jW ff
      have m4:b∈(fL (ν q.1)).toList++bH ms us (io.map λq=>ν q.1):=cQ _ (by rw[hb];simp)
      rcases hold i e' b hi jW ff with⟨h3,h4⟩|h3
      ·exact(pL b m4).elim (λh'=>ω) h4
      ·exact mJ yg h3 m4
     have yu:=Mem.yv (c:=c) hm (id:=q.1) (v:=ν q.1) (e:= .own τ (tz x)) (λe' wF=>by rw[yh]at wF;cases wF;simp[bh.mut]) h1 ra (λb hb=>lO b (cQ _ (by rw[hb];simp))) (λb e0 l0 _ hb=>ye q bp τ Zp.symm b hb) (.inr rfl)
     have hνe:dp ν q.1 (ν q.1)=ν:=by funext i;unfold dp;split<;>simp_all
     rw[hνe]at yu
     have ahg: ∀(q':Nat×AM),q'∈io→q'.1≠q.1:=λq' mI e=>Dt.1 (cD.2 ⟨q',mI,e⟩)
     obtain⟨ν',r1,r2,r3,r4,r5,r6⟩:=ox (ms:=ms) (x:=yf x) (us:=us) (ps:=io.map λq=>ν q.1) (id:=id+1) (io:=io) (used:=used++(fL (ν q.1)).toList) yu h2 rfl ahf Dt.2
      (λq' mI=>by rw[az _ _ (ahg q' mI)];exact Bs q' (a8 _ mI))
      (λi h3 h4=>by
       have:i≠q.1:=ω
       rw[az _ _ this]
       exact jv i ω (by simp only[aW];omega))
      (λi e b hi jW hb=>by
       by_cases bS:i=q.1
       ·subst bS;exact .inr (dD _ (by rw[hb];simp))
       ·rw[az _ _ bS]at hi
        exact(hold i e b hi jW hb).imp (λh=>h) (cQ _))
      (by rw[bM];exact yg) (λb hb=>pL b (dD _ hb)) (λb hb=>lO b (dD _ hb))
      (λb hb YK=>by
       obtain⟨p,hp,hpb⟩:=H7 b (dD _ hb) YK
       rcases aX.1 hp with rfl|hp
       ·exact absurd (mJ (ng.1 yg).2.1 (b:=b) (by rw[hpb];simp)) (by simpa using hb)
       ·exact⟨p,hp,hpb⟩) (λq' mI=>ye q' (a8 _ mI))
     refine⟨ν',r1,r2,λi hi=> ?_,λi h3 h4=> ?_,λi h3 h4 e he=> ?_,λq' mI=> ?_⟩
     ·exact r3 i (by
       by_cases bS:i=q.1
       ·subst bS;rw[ay];simp
       ·rw[az _ _ bS];exact hi)
     ·simp only[keys,bR,aX,not_or]at h3
      have:=r4 i h3.2 (by simp only[aW]at h4;omega)
      rw[az _ _ h3.1]at this
      exact this
     ·by_cases h5:id+1≤i
      ·exact r5 i h5 (by simp only[aW]at h4;omega) e he
      ·have bS:i=id:=ω
       subst bS
       by_cases hk:i∈keys io
       ·obtain⟨q',mI,Hi⟩:=cD.1 hk
        have h9:=Bs q' (a8 _ mI)
        rw[Hi,jv i (aI _) (by simp)]at h9
        cases h9
       ·have:=r4 i hk (.inl ω)
        have iI:i≠q.1:=ω
        rw[az _ _ iI,jv i (aI _) (by simp)]at this
        have he:cY (bT H q.1 (some (bh.own τ (tz x)))) (jV ms (yf x) (i+1) io).2.1 i=some e:=he
        rw[this]at he;cases he
     ·rcases aX.1 mI with rfl|mI
      ·have:=r4 q'.1 Dt.1 ω
       rw[ay]at this
       exact .inr ⟨τ,tz x,Zp.symm,this⟩
      ·exact r6 q' mI
   |v τ=>simp[AM.iJ]at HB
   |own τ=>simp[AM.iJ]at HB
   |fn f τ=>simp[AM.iJ]at HB
   |ptr τ=>simp[AM.iJ]at HB
   |jr τ=>simp[AM.iJ]at HB
  ·
   have HC:H id=none:=jv id (aI _) (by simp)
   cases m with
   |io τ=>simp[AM.iJ]at HB
   |lo τ=>simp[AM.iJ]at HB
   |fn f τ=>simp[AM.Zl]at hmf
   |jr τ=>simp[AM.Zl]at hmf
   |v τ=>
    have Zq:bH (.v τ::ms) (v::JU) ps=bH ms JU ps:=rfl
    rw[Zq]at yg pL lO H7
    simp only[A1]at h1
    obtain⟨ν',r1,r2,r3,r4,r5,r6⟩:=ox (ms:=ms) (x:=yf x) (us:=JU) (ps:=ps) (id:=id+1) (io:=io) (used:=used) hm h2 JR (by simpa [nC]using E0) Dt Bs (λi h3 h4=>jv i ω (by simp only[aW];omega)) hold yg pL lO H7 ye
    refine⟨ν',r1,?_,r3,λi h3 h4=>r4 i h3 (by simp only[aW]at h4;omega),λi h3 h4 e he=> ?_,r6⟩
    ·simp only[JC,ju,VR];exact⟨h1,r2⟩
    ·by_cases h5:id+1≤i
     ·exact r5 i h5 (by simp only[aW]at h4;omega) e he
     ·have bS:i=id:=ω
      subst bS
      by_cases hk:i∈keys io
      ·obtain⟨q',mI,Hi⟩:=cD.1 hk
       have h9:=Bs q' mI
       rw[Hi,HC]at h9;cases h9
      ·have:=r4 i hk (.inl ω)
       rw[HC]at this
       have he:cY H (jV ms (yf x) (i+1) io).2.1 i=some e:=he
       rw[this]at he;cases he
   |own τ=>
    have Zq:bH (.own τ::ms) (v::JU) ps=(fL v).toList++bH ms JU ps:=rfl
    rw[Zq]at yg pL lO H7
    simp only[A1]at h1
    have ra: ∀b,fL v=some b→ ∀i e',H i=some e'→e'.mut→fL (ν i)≠some b:=by
     intro b hb i e' hi jW ff
     have m4:b∈(fL v).toList++bH ms JU ps:=cQ _ (by rw[hb];simp)
     rcases hold i e' b hi jW ff with⟨h3,h4⟩|h3
     ·exact(pL b m4).elim (λh'=>ω) h4
     ·exact mJ yg h3 m4
    have al9: ∀b,fL v=some b→ ¬c.M0 b:=by
     intro b hb h0
     have m4:b∈(fL v).toList:=by rw[hb];simp
     obtain⟨p,hp,hpb⟩:=H7 b (cQ _ m4) h0
     exact mJ (ng.1 yg).2.1 m4 (RR.JV h2 p hp b hpb)
    have yu:=Mem.yv (c:=c) hm (id:=id) (v:=v) (e:= .own τ (tz x)) (λe' wF=>by rw[HC]at wF;cases wF) h1 ra (λb hb=>lO b (cQ _ (by rw[hb];simp))) (λb e0 l0 _ hb=>al9 b hb) (.inl HC)
    have E7: ∀q∈io,q.1≠id:=λq hq e=>by
     have h9:=Bs q hq
     rw[e,HC]at h9;cases h9
    have Zr: ∀i,i≠id→dp ν id v i=ν i:=λi hi=>by simp[dp,hi]
    obtain⟨ν',r1,r2,r3,r4,r5,r6⟩:=ox (ms:=ms) (x:=yf x) (us:=JU) (ps:=ps) (id:=id+1) (io:=io) (used:=used++(fL v).toList) yu h2
     (by rw[JR];exact qJ λq hq=>(Zr _ (E7 q hq)).symm) (by simpa [nC]using E0) Dt
     (λq hq=>by rw[az _ _ (E7 q hq)];exact Bs q hq)
     (λi h3 h4=>by rw[az _ _ ω];exact jv i ω (by simp only[aW];omega))
     (λi e b hi jW hb=>by
      by_cases bS:i=id
      ·subst bS
       have:dp ν i v i=v:=by simp[dp]
       rw[this]at hb
       exact .inr (dD _ (by rw[hb];simp))
      ·rw[az _ _ bS]at hi
       rw[Zr i bS]at hb
       exact(hold i e b hi jW hb).imp (λh=>h) (cQ _))
     (by rw[bM];exact yg) (λb hb=>pL b (dD _ hb)) (λb hb=>lO b (dD _ hb)) (λb hb=>H7 b (dD _ hb)) (λq hq e he b hb=>ye q hq e he b (by rw[Zr _ (E7 q hq)]at hb;exact hb))
    have ahi:id∉keys io:=λhk=>by
     obtain⟨q,hq,Hi⟩:=cD.1 hk
     exact E7 q hq Hi
    have p6:cY (bT H id (some (.own τ (tz x)))) (jV ms (yf x) (id+1) io).2.1 id=some (.own τ (tz x)):=by
     rw[r4 id ahi (.inl ω),ay]
    refine⟨ν',r1,?_,λi hi=> ?_,λi h3 h4=> ?_,λi h3 h4 e he=> ?_,r6⟩
    ·simp only[JC,ju,VR]
     refine⟨⟨?_,?_⟩,r2⟩
     ·show cY (bT H id (some (.own τ (tz x)))) (jV ms (yf x) (id+1) io).2.1 id≠none
      rw[p6];simp
     ·rw[r3 id (by rw[ay];simp)];simp[dp]
    ·have bS:i≠id:=λe=>hi (e▸HC)
     rw[r3 i (by rw[az _ _ bS];exact hi),Zr i bS]
    ·have bS:i≠id:=by simp only[aW]at h4;omega
     have:=r4 i h3 (by simp only[aW]at h4;omega)
     rw[az _ _ bS]at this
     exact this
    ·by_cases h5:id+1≤i
     ·exact r5 i h5 (by simp only[aW]at h4;omega) e he
     ·have bS:i=id:=ω
      subst bS
      have he:cY (bT H i (some (.own τ (tz x)))) (jV ms (yf x) (i+1) io).2.1 i=some e:=he
      rw[p6]at he;cases he
      exact .inl ⟨τ,_,rfl⟩
   |ptr τ=>
    have Zq:bH (.ptr τ::ms) (v::JU) ps=(fL v).toList++bH ms JU ps:=rfl
    rw[Zq]at yg pL lO H7
    simp only[A1]at h1
    have ra: ∀b,fL v=some b→ ∀i e',H i=some e'→e'.mut→fL (ν i)≠some b:=by
     intro b hb i e' hi jW ff
     have m4:b∈(fL v).toList++bH ms JU ps:=cQ _ (by rw[hb];simp)
     rcases hold i e' b hi jW ff with⟨h3,h4⟩|h3
     ·exact(pL b m4).elim (λh'=>ω) h4
     ·exact mJ yg h3 m4
    have yu:=Mem.yv (c:=c) hm (id:=id) (v:=v) (e:= .obj τ (tz x)) (λe' wF=>by rw[HC]at wF;cases wF) h1 ra (λb hb=>lO b (cQ _ (by rw[hb];simp))) (λb e0 l0 he _=>by cases he) (.inl HC)
    have E7: ∀q∈io,q.1≠id:=λq hq e=>by
     have h9:=Bs q hq
     rw[e,HC]at h9;cases h9
    have Zr: ∀i,i≠id→dp ν id v i=ν i:=λi hi=>by simp[dp,hi]
    obtain⟨ν',r1,r2,r3,r4,r5,r6⟩:=ox (ms:=ms) (x:=yf x) (us:=JU) (ps:=ps) (id:=id+1) (io:=io) (used:=used++(fL v).toList) yu h2
     (by rw[JR];exact qJ λq hq=>(Zr _ (E7 q hq)).symm) (by simpa [nC]using E0) Dt
     (λq hq=>by rw[az _ _ (E7 q hq)];exact Bs q hq)
     (λi h3 h4=>by rw[az _ _ ω];exact jv i ω (by simp only[aW];omega))
     (λi e b hi jW hb=>by
      by_cases bS:i=id
      ·subst bS
       have:dp ν i v i=v:=by simp[dp]
       rw[this]at hb
       exact .inr (dD _ (by rw[hb];simp))
      ·rw[az _ _ bS]at hi
       rw[Zr i bS]at hb
       exact(hold i e b hi jW hb).imp (λh=>h) (cQ _))
     (by rw[bM];exact yg) (λb hb=>pL b (dD _ hb)) (λb hb=>lO b (dD _ hb)) (λb hb=>H7 b (dD _ hb)) (λq hq e he b hb=>ye q hq e he b (by rw[Zr _ (E7 q hq)]at hb;exact hb))
    have ahi:id∉keys io:=λhk=>by
     obtain⟨q,hq,Hi⟩:=cD.1 hk
     exact E7 q hq Hi
    have p6:cY (bT H id (some (.obj τ (tz x)))) (jV ms (yf x) (id+1) io).2.1 id=some (.obj τ (tz x)):=by
     rw[r4 id ahi (.inl ω),ay]
    refine⟨ν',r1,?_,λi hi=> ?_,λi h3 h4=> ?_,λi h3 h4 e he=> ?_,r6⟩
    ·simp only[JC,ju,VR]
     refine⟨⟨_,p6,trivial,?_⟩,r2⟩
     simp only[A1,ER]at h1
     obtain⟨b,cs,t,Vx,_⟩:=h1
     exact⟨b,by rw[r3 id (by rw[ay];simp)];simp[dp,Vx],Vx⟩
    ·have bS:i≠id:=λe=>hi (e▸HC)
     rw[r3 i (by rw[az _ _ bS];exact hi),Zr i bS]
    ·have bS:i≠id:=by simp only[aW]at h4;omega
     have:=r4 i h3 (by simp only[aW]at h4;omega)
     rw[az _ _ bS]at this
     exact this
    ·by_cases h5:id+1≤i
     ·exact r5 i h5 (by simp only[aW]at h4;omega) e he
     ·have bS:i=id:=ω
      subst bS
      have he:cY (bT H i (some (.obj τ (tz x)))) (jV ms (yf x) (i+1) io).2.1 i=some e:=he
      rw[p6]at he;cases he
      exact .inr ⟨τ,_,rfl⟩
end VM
end
section
namespace VM
open Go
variable{P:Program}{E:Env}{o:Oper}{a:Act}{w:World}{M:Nat→Prop}{ν:Nat→Value}{σ:St}{c:Ctx}{α:Type}{r:α}{next:Act→World→Prop}{Q:Exit→Act→World→Prop}
theorem Mo{i:Nat}: ∀{ups:ja} {H:Nat→Option bh},i∈keys ups→ ∃u∈ups,u.1=i∧cY H ups i=u.2
 |[],_,h=>by simp[keys]at h
 |u::r,H,h=>by
  by_cases hk:i∈keys r
  ·obtain⟨v,h1,h2,h3⟩:=Mo (H:=bT H u.1 u.2) hk
   exact⟨v,a8 _ h1,h2,h3⟩
  ·have hi:i=u.1:=by
    simp only[keys,bR,aX]at h hk
    exact h.resolve_right hk
   refine⟨u,bp,hi.symm,?_⟩
   show cY (bT H u.1 u.2) r i=_
   rw[lN hk,hi,ay]
theorem E8: ∀{ups:ja} {H H':Nat→Option bh},(∀i,i∉keys ups→H i=H' i)→cY H ups=cY H' ups
 |[],H,H',h=>funext λi=>h i (by simp[keys])
 |u::r,H,H',h=>by
  refine E8 (ups:=r) λi hi=> ?_
  by_cases hu:i=u.1
  ·subst hu;rw[ay,ay]
  ·rw[az _ _ hu,az _ _ hu]
   exact h i (by simp only[keys,bR,aX,not_or];exact⟨hu,hi⟩)
theorem ER.len{v:Value}{e:Ty}{l:List e.den}(h:ER w M v (.own e l)): ∃ad cap,v= .slice ad l.length cap:=by
 simp only[ER]at h
 rcases h with⟨rfl,ad,rfl⟩|⟨b,cs,t,cap,h1,_⟩
 ·exact⟨ad,0,rfl⟩
 ·exact⟨_,cap,h1⟩
theorem RR.rf: ∀{ms:List AM} {x:HP ms} {us ps:List Value},RR w M ms x us ps→ ∀b∈bH ms us ps,M b
 |[],_,_,_,_,b,hb=>by simp[bH]at hb
 |m::ms,x,us,ps,h,b,hb=>by
  simp only[RR]at h
  rcases h with⟨p,Hh,h1,rfl,h2,h3⟩|⟨v,JU,h1,h2,rfl,h3,h4⟩
  ·simp only[bH,h1,gH,tG,tH,bo]at hb
   rcases hb with hb|hb
   ·cases m<;>simp[AM.iJ]at h1<;>(simp only[db,fu,A1]at hb h2;exact h2.yb trivial hb)
   ·exact RR.rf h3 b hb
  ·simp only[bH,h1,jd,fa,tG,tH,bo]at hb
   rcases hb with hb|hb
   ·cases m with
    |own e=>
     simp only[db,fu,A1]at hb h3
     exact h3.yb trivial hb
    |v _=>simp[db]at hb
    |io _=>simp[AM.iJ]at h1
    |lo _=>simp[AM.iJ]at h1
    |fn _ _=>simp[db]at hb
    |jr _=>simp[db]at hb
    |ptr τ=>
     simp only[db,fu,A1]at hb h3
     exact h3.yb trivial hb
   ·exact RR.rf h4 b hb
theorem Ii: ∀{l:List lJ} {p5:List bD} {S:lJ},L0 l p5=some S→S∈l
 |[],_,_,h=>by simp[L0]at h
 |T::l,p5,S,h=>by
  unfold L0 at h
  cases hf:fits T.args p5
  ·rw[hf]at h;exact a8 _ (Ii h)
  ·rw[hf]at h;cases h;exact bp
theorem Cz{H:Nat→Option bh}{id:Nat}: ∀{n:Nat},uR H id n=true→ ∀i,id≤i→i<id+n→H i=none
 |0,_,i,h1,h2=>ω
 |n+1,h,i,h1,h2=>by
  unfold uR at h
  rw[bP]at h
  by_cases hi:i=id+n
  ·subst hi
   have h:=h.1
   split at h
   ·assumption
   ·cases h
  ·exact Cz h.2 i h1 ω
theorem Vy{H:Nat→Option bh}{p5:List bD}{us:List Value}(h:ju w M H ν p5 us):VR w M H ν (LY p5) (wM us):=by
 match p5,us,h with
 |[],[],_=>simp[LY,VR]
 |[a],[u],h=>simp only[ju,ec]at h;simpa [LY,wM]using h
 |a::b::p5,u::v::us,h=>
  simp only[LY,VR]
  exact⟨u::v::us,by simp[wM],h⟩
 |[],_::_,h=>simp[ju]at h
 |_::_,[],h=>simp[ju]at h
 |[_],_::_::_,h=>simp[ju]at h
 |_::_::_,[_],h=>simp[ju]at h
theorem Mp(hΓ: ∀f S,S∈E.Γ f→iy P f S){H:Nat→Option bh}(hm:Mem c H w M ν){f id:Nat}{p5:List bD}{vs:List Value}(hv:ju w M H ν p5 vs){K:jf α}(h:Cl E f p5 id H K=some r)
  {R:Value→World→Prop} (hR: ∀v rd ups v' w' M' ν',K v rd ups=some r→Tr c H w M ν (cY H ups) w' M' ν'→VR w' M' (cY H ups) ν' v v'→R v' w'):
  Ml P f vs.toArray w R:=by
 unfold Cl at h
 split at h
 ·cases h
 rename_i S hS
 have hok:=hΓ f S (Ii hS)
 obtain⟨x,rd,uo,uf,io,H2,Hq,M2,h1,hA,hK,ama,Zo,UY⟩:=Cy (jM.start hm) hv h
 clear h
 simp only[cL,iE]at hA Zo UY
 obtain⟨y,hy,h1⟩:=tD.1 h1
 obtain⟨jv,h1⟩:=cB h1
 have jv:=Cz jv
 have arM:(λb=>(M2 b∧b∉dX S.args vs)∨b∈dX S.args vs)=M2:=by
  funext b
  refine propext ⟨λh=>h.elim (·.1) (hA.hM b),λh=> ?_⟩
  by_cases hb:b∈dX S.args vs
  ·exact .inr hb
  ·exact .inl ⟨h,hb⟩
 refine Ml.mono (hok.call (λb=>M2 b∧b∉dX S.args vs) w vs x y (λb hb=>hA.mem.ES b hb.1) (by rw[arM];exact ama) hA.nd (λb hb h=>h.2 hb) hy) ?_
 rintro e w' ⟨us,M',rfl,UZ,hL,yg,hn0⟩
 have arN: ∀b∈dX S.args vs,c.M0 b→M' b:=by
  intro b hb h0
  obtain⟨q,hq,hqb⟩:=hA.iob b hb h0
  exact UZ.rf b (UZ.JV (ν q.1) (by rw[←Zo];exact eX hq) b hqb)
 have pL: ∀b∈bH S.res us (fC S.args vs),w.heap.size≤b∨b∈dX S.args vs:=by
  intro b hb
  rcases nq b w.heap.size with fA|YN
  ·exact .inr ((hL.less b fA (UZ.rf b hb)).resolve_left (hn0 b hb))
  ·exact .inl YN
 have lO: ∀b∈bH S.res us (fC S.args vs),c.B≤b∨c.may b:=λb hb=>(pL b hb).elim (λh=> .inl (cA hm.size h)) (hA.Mn b)
 have H7: ∀b∈bH S.res us (fC S.args vs),c.M0 b→ ∃p∈fC S.args vs,fL p=some b:=by
  intro b hb h0
  rcases pL b hb with h'|h'
  ·have:=hm.vT.1 b h0;have:=hm.size;omega
  ·obtain⟨q,hq,hqb⟩:=hA.iob b h' h0
   exact⟨ν q.1,by rw[←Zo];exact eX hq,hqb⟩
 have arP: ∀q∈io,∀e,q.2=AM.lo e→ ∀b,fL (ν q.1)=some b→ ¬c.M0 b:=by
  intro q hq e he b hb
  rcases(hA.S5 q hq).2.2 with⟨τ0,z0,yh,_⟩|⟨e0,z0,yh,RF⟩
  ·rw[he]at yh;cases yh
  ·exact hm.yG q.1 e0 z0 b RF hb
 have key: ∀(Hx:Nat→Option bh) (Mx:Nat→Prop) (U:ja),Mem c Hx w Mx ν→fh w M w Mx→(∀b,M2 b→Mx b)→(∀b∈dX S.args vs,∀i e,Hx i=some e→e.mut→fL (ν i)≠some b)→
   (∀q∈io,Hx q.1=some .gone)→(∀i,i∉keys io→cY H (uo++U) i=Hx i)→(∀u∈uo++U,u.2=some .gone∨ ∃e l,u.2=some (.oS e l)∧H u.1=some (.own e l))→(∀i∈keys (uo++U),i∈keys (uo++uf))→
   RR w' (λb=>M' b∨(Mx b∧b∉dX S.args vs)) S.res y us (fC S.args vs)→
   ∃ν',Tr c H w M ν (cY H (uo++U++(jV S.res y id io).2.1)) w' (λb=>M' b∨(Mx b∧b∉dX S.args vs)) ν'∧
    ju w' (λb=>M' b∨(Mx b∧b∉dX S.args vs)) (cY H (uo++U++(jV S.res y id io).2.1)) ν' (jV S.res y id io).1 us:=by
  intro Hx Mx U PA hkx S7 vE Mq ahk JX hU hrr
  obtain⟨jX,Ij⟩:=PA.call (λb hb=>S7 b hb.1) (λb hb=>S7 b (hA.hM b hb)) vE hA.Mn arN hL
  have hx: ∀i e,H i=some e→i∉keys io→ ∃e',Hx i=some e'∧e.lK e':=by
   intro i e hi D3
   rw[←ahk i D3]
   by_cases hk:i∈keys (uo++U)
   ·obtain⟨u,hu,hui,huv⟩:=Mo (H:=H) hk
    rw[huv]
    rcases JX u hu with h'|⟨e1,l1,h',JW⟩
    ·exact⟨_,h',bh.kR e⟩
    ·rw[hui,hi]at JW;cases JW;exact⟨_,h',rfl,rfl⟩
   ·rw[lN hk];exact⟨e,hi,.refl e⟩
  have hfr: ∀i,id≤i→i<id+S.res.length→Hx i=none:=by
   intro i h3 h4
   have h0:=jv i h3 h4
   have D3:i∉keys io:=λhk=>by
    obtain⟨q,hq,Hi⟩:=cD.1 hk
    obtain⟨_,_,hz⟩:=hA.S5 q hq
    exact hz.some (by rw[Hi];exact h0)
   rw[←ahk i D3]
   rw[lN,h0]
   intro hk
   obtain⟨_,e,l,h'⟩:=hA.ksn i (hU i hk)
   rw[h0]at h';cases h'
  obtain⟨ν',r1,r2,r3,r4,r5,r6⟩:=ox (hs:=dX S.args vs) (sz:=w.heap.size) (id:=id) (used:=[]) jX hrr Zo.symm (by rw[←hok.ios,←UY]) hA.ion Mq hfr
   (λi e b hi hmu hb=> .inl ⟨PA.ES b ((PA.ln i e hi).yb hmu hb),λhh=>vE b hh i e hi hmu hb⟩) (by simpa using yg) pL lO H7 arP
  have ahl:cY H (uo++U++(jV S.res y id io).2.1)=cY Hx (jV S.res y id io).2.1:=by
   rw[gw]
   refine E8 λi hi=> ?_
   by_cases D3:i∈keys io
   ·obtain⟨q,hq,Hi⟩:=cD.1 D3
    rcases r6 q hq with⟨τ,z,_,hz⟩|⟨e,z,_,hz⟩
    ·rw[Hi,lN hi,←Hi,Mq q hq]at hz;cases hz
    ·rw[Hi,lN hi,←Hi,Mq q hq]at hz;cases hz
   ·exact ahk i D3
  refine⟨ν',⟨by rw[ahl];exact r1,hkx.trans Ij,⟨λi e hi=> ?_,λi hi=> ?_⟩⟩,by rw[ahl];exact r2⟩
  ·rw[ahl]
   by_cases D3:i∈keys io
   ·obtain⟨q,hq,Hi⟩:=cD.1 D3
    obtain⟨_,_,hg0⟩:=hA.S5 q hq
    rcases r6 q hq with⟨τ,z,YF,hz⟩|⟨e2,z,YF,hz⟩
    ·rcases hg0 with⟨τ0,z0,yh,RF⟩|⟨e0,z0,yh,RF⟩
     ·rw[YF]at yh;cases yh
      rw[Hi]at hz RF
      rw[hi]at RF;cases RF
      exact⟨_,hz,rfl⟩
     ·rw[YF]at yh;cases yh
    ·rcases hg0 with⟨τ0,z0,yh,RF⟩|⟨e0,z0,yh,RF⟩
     ·rw[YF]at yh;cases yh
     ·rw[YF]at yh;cases yh
      rw[Hi]at hz RF
      rw[hi]at RF;cases RF
      refine⟨_,hz,rfl,?_⟩
      obtain⟨a1,c1,k1⟩:=ER.len (hm.ln i _ hi)
      obtain⟨a2,c2,k2⟩:=ER.len (r1.ln i _ hz)
      rw[r3 i (by rw[←Hi,Mq q hq];simp),k1]at k2
      simp only[Value.slice.injEq]at k2
      exact k2.2.1
   ·obtain⟨e',wF,hl⟩:=hx i e hi D3
    have hr:i<id∨id+S.res.length≤i:=by
     rcases nq i id with h'|h'
     ·exact .inl h'
     ·rcases nq i (id+S.res.length)with JW|JW
      ·rw[jv i h' JW]at hi;cases hi
      ·exact .inr JW
    exact⟨e',by rw[r4 i D3 hr];exact wF,hl⟩
  ·refine r3 i ?_
   obtain⟨e,he⟩:=Ep.1 hi
   by_cases D3:i∈keys io
   ·obtain⟨q,hq,Hi⟩:=cD.1 D3
    rw[←Hi,Mq q hq];simp
   ·obtain⟨e',wF,_⟩:=hx i e he D3
    rw[wF];simp
 cases hq:S.quiet
 ·
  rw[hq]at h1
  have hMn:(λb=>M' b∨(M2 b∧b∉dX S.args vs))=M':=by
   funext b
   exact propext ⟨λh=>h.elim (λh=>h) (hL.sub b),.inl⟩
  obtain⟨ν',ix,hvr⟩:=key H2 M2 uf hA.mem hA.cc (λ_ h=>h) (λb hb i e hi hmu=>hA.none b hb i e (hA.fz.mut hi hmu) hmu) (λq hq=>(hA.S5 q hq).1) hA.ext
   (λu hu=>(bo.1 hu).elim (λh=> .inl (hA.uov u h)) (λh=> .inr (hA.ufv u h))) (λ_ h=>h) (by rw[hMn];exact UZ)
  exact hR _ _ _ _ _ _ _ h1 ix (Vy hvr)
 ·rw[hq]at h1
  have S7: ∀b,M2 b→M b:=λb hb=>hA.cc.less b (hA.mem.ES b hb) hb
  obtain⟨ν',ix,hvr⟩:=key Hq M [] hA.Mm (.refl w M) S7 hA.none (λq hq=>(hA.S5 q hq).2.1) (by rw[cK];exact hA.Vw)
   (λu hu=> .inl (hA.uov u (by simpa using hu))) (λi hi=>by simp only[keys,cK,dn,bo]at hi ⊢;exact .inl hi) (UZ.flat (λb h=> .inl h) (hok.quiet hq))
  exact hR _ _ _ _ _ _ _ h1 ix (Vy hvr)
theorem Zs(hΓ: ∀f S,S∈E.Γ f→iy P f S)(hc:Core c σ a.tmps w M ν){args:Array Operand}{ts:Array TypeId}{g:Operand}(ho:o.op= .call {callee:= .value g,args,argTypes:=ts}){K:jf α}{f:Nat}{caps:List bD}(hg:σ.ρ g= .LR f caps){id:Nat}
  (h:Cl E f (args.toList.map σ.ρ ++caps) id σ.H K=some r) (hn:gi c σ a o w M ν K r next):o.wp P a w next Q:=by
 have hgv:=hc.ev g
 rw[hg]at hgv
 simp only[VR]at hgv
 obtain⟨cs,hgv,JK⟩:=hgv
 have Mr: ∀{as1:List bD} {YO:List Value},ju w M σ.H ν as1 YO→ju w M σ.H ν (as1++caps) (YO++cs):=by
  intro as1
  induction as1 with
  |nil=>intro YO h1;cases YO with
   |nil=>exact JK
   |cons _ _=>simp[ju]at h1
  |cons x as1 ih=>intro YO h1;cases YO with
   |nil=>simp[ju]at h1
   |cons v YO=>simp only[ju]at h1;simp only[kL,ju];exact⟨h1.1,ih h1.2⟩
 have hd:=Mp (P:=P) hΓ hc.mem (Mr (hc.evs args.toList)) h (R:=λv' w'=>next (a.put o.dst v') w') (λv rd ups v' w' M' ν' h1 h2 h3=>hn v rd ups v' w' M' ν' h1 h2 h3)
 have hex:(execOp a.eval o).run P w=(callFunc f (args.toList.map a.eval++cs).toArray).run P w:=by
  have:(args.toList.map a.eval++cs).toArray= #[]++args.map a.eval++cs.toArray:=by apply js;simp
  rw[this]
  simp[execOp,ho,resolve,hgv,Deferred.ofValue,invoke]
 unfold Oper.wp
 rw[hex]
 exact hd o a next Q λv w' hv=>hv
end VM
end
section
namespace VM
open Go
variable{P:Program}{E:Env}{o:Oper}{a:Act}{w:World}{M:Nat→Prop}{ν:Nat→Value}{σ:St}{c:Ctx}{α:Type}{r:α}{next:Act→World→Prop}{Q:Exit→Act→World→Prop}
structure tZ(P:Program)(E:Env):Prop extends EnvTy P E where
 ame: ∀f S,S∈E.Γ f→iy P f S
 mixed:P.follows .mixedOrders=true
 kg: ∀i L,E.wz i=some L→VM.kg L=true
 Vz: ∀i L,E.xZ i=some L→VM.kg L=true
theorem S8(hE:tZ P E)(hc:Core c σ a.tmps w M ν){K:jf α}(h:tx E o σ.ρ σ.H K=some r)(hn:gi c σ a o w M ν K r next):o.wp P a w next Q:=by
 have hT:=hE.toEnvTy
 unfold tx at h
 simp only at h
 split at h
 ·rename_i x ho;exact Rx hc (.inl ho) h hn
 ·rename_i x ho;exact Rx hc (.inr ho) h hn
 ·rename_i x y z ho
  split at h
  ·rename_i t hx;exact Y9 hc ho hx h hn
  ·cases h
 ·rename_i t ho
  split at h
  ·rename_i τ ht;exact Vh hT hc ho ht h hn
  ·cases h
 ·rename_i t x ho
  split at h
  ·rename_i τ ht;exact agU hT hc ho h hn
  ·cases h
 ·rename_i t ps ho
  split at h
  ·rename_i n e ht;exact JS hT hc ho ht h hn
  ·rename_i τ hna ht;exact Ds hT hc ho ht (λn e he=>hna n e he) h hn
  ·cases h
 ·rename_i t n ps ho
  split at h
  ·rename_i e ht;exact Hy hT hc ho ht h hn
  ·cases h
 ·rename_i t x ho
  split at h
  ·rename_i τ ht;exact Za hT hc ho ht h hn
  ·cases h
 ·rename_i t x y ho
  split at h
  ·rename_i τ ht;exact SZ hT hc ho ht h hn
  ·cases h
 ·rename_i x ho
  split at h
  ·rename_i id p hx;exact Dp hc ho hx h hn
  ·rename_i τ z hx;exact Bq hc ho hx h hn
  ·cases h
 ·rename_i b t x y t' ho;exact Vo hT hc ho h hn
 ·rename_i u t x ho;exact Zg hc ho h hn
 ·rename_i s d x ho
  split at h
  ·rename_i τ k hs hd;exact PY hT hc ho hs hd h hn
  ·cases h
 ·rename_i f first caps ho;exact Me hc ho h hn
 ·rename_i t x y ho
  split at h
  ·rename_i e ht;exact JO hT hc ho ht h hn
  ·cases h
 ·rename_i t x lo hi mx ho
  split at h
  ·rename_i τ ht;exact Vt hT hc ho ht h hn
  ·cases h
 ·rename_i t x n ho
  split at h
  ·rename_i τ ht
   split at h
   ·rename_i id p hx;exact Bp hT hc ho ht hx h hn
   ·rename_i υ z hx;exact zZ hT hc ho ht hx h hn
   ·cases h
  ·cases h
 ·rename_i t x n ho
  split at h
  ·rename_i τ ht
   split at h
   ·rename_i υ z hx;exact Vm hT hc ho ht hx h hn
   ·cases h
  ·cases h
 ·rename_i t x i ho
  split at h
  ·rename_i τ ht;exact JM hT hc ho ht h hn
  ·cases h
 ·rename_i t x i ho
  split at h
  ·rename_i τ ht;exact Vr hT hc ho ht h hn
  ·cases h
 ·rename_i x i ho
  split at h
  ·rename_i vs hx
   split at h
   ·rename_i v hv;exact PX hc ho hx hv h hn
   ·cases h
  ·cases h
 ·rename_i cl ho
  obtain⟨callee,args,ts⟩:=cl
  simp only at h
  split at h
  ·split at h
   ·rename_i x τ ha ht;exact ag1 hT hc ho ha ht h hn
   ·cases h
  ·split at h
   ·rename_i x y t t' ha ht
    split at h
    ·rename_i e hte;exact S4 hT hc ho ha ht hte h hn
    ·cases h
   ·cases h
  ·split at h
   ·rename_i x xs ha;exact afD hc true ho ha h hn
   ·cases h
  ·split at h
   ·rename_i x xs ha;exact afD hc false ho ha h hn
   ·cases h
  ·rename_i g
   split at h
   ·rename_i f caps hg;exact Zs hE.ame hc ho hg h hn
   ·cases h
  ·cases h
 ·cases h
end VM
end
section
namespace VM
open Go
variable{P:Program}{E:Env}{o:Oper}{a:Act}{w:World}{M:Nat→Prop}{ν:Nat→Value}{σ:St}{c:Ctx}{α:Type}{r:α}{next:Act→World→Prop}{Q:Exit→Act→World→Prop}
theorem uW(σ:St)(d:Nat)(v:bD):(σ.put d v).T d=v:=by
 show cond (Nat.beq d d) v (σ.T d)=v
 rw[show Nat.beq d d=true from tK d];rfl
theorem Ab(σ:St){d i:Nat}(v:bD)(h:i≠d):(σ.put d v).T i=σ.T i:=by
 show cond (Nat.beq i d) v (σ.T i)=σ.T i
 have:Nat.beq i d=false:=by rw[←qN,wv];exact h
 rw[this];rfl
theorem awN(σ:St)(d:Nat)(v:bD):(σ.put d v).H=σ.H:=rfl
theorem E9(σ:St)(d:Nat):σ.put d (σ.T d)=σ:=by
 obtain⟨T,H⟩:=σ
 unfold St.put
 congr 1
 funext i
 by_cases h:i=d
 ·subst h;show cond (Nat.beq i i) (T i) (T i)=T i;cases Nat.beq i i<;>rfl
 ·have:Nat.beq i d=false:=by rw[←qN,wv];exact h
  rw[this];rfl
theorem Core.tr{tm:Array Value}(h:Core c σ tm w M ν){H':Nat→Option bh}{w':World}{M':Nat→Prop}{ν':Nat→Value}(t:Tr c σ.H w M ν H' w' M' ν'):Core c ⟨σ.T,H'⟩ tm w' M' ν':=
 ⟨t.mem,λi=>VR.cc t.cc t.goes (h.tmp i)⟩
theorem Core.vO{tm:Array Value}(h:Core c σ tm w M ν){d:Option Nat}{x:bD}{v:Value}{io:List Nat}(hd:LS tm.size io d=true)(hx:VR w M σ.H ν x v)(ds:List Deferred):
  Core c (σ.vO d x) (({tmps:=tm,defers:=ds}:Act).put d v).tmps w M ν:=by
 cases d with
 |none=>exact h
 |some d=>
  have fA:d<tm.size:=by simp only[LS,bP,zJ]at hd;exact hd.1
  refine⟨h.mem,λi=> ?_⟩
  show VR w M σ.H ν ((σ.put d x).T i) ((tm.setIfInBounds d v).getD i undef)
  by_cases hi:i=d
  ·subst hi
   rw[uW]
   simp[Array.getD,fA]
   exact hx
  ·rw[Ab _ _ hi]
   have:=h.tmp i
   have he:(tm.setIfInBounds d v).getD i undef=tm.getD i undef:=by
    rw[sB,sB,Lt (eU hi)]
   rw[he];exact this
def Inv(c:Ctx)(E:Env)(σ:St)(a:Act)(w:World):Prop:=(∃M ν,Core c σ a.tmps w M ν)∧a.tmps.size=E.nt∧a.defers=[]∧ ∀i∈E.io,a.tmps.getD i undef=c.arg i
theorem Ms(a:Act)(d:Option Nat)(v:Value):(a.put d v).tmps.size=a.tmps.size:=by
 cases d<;>simp[Act.put]
theorem put_defers(a:Act)(d:Option Nat)(v:Value):(a.put d v).defers=a.defers:=by
 cases d<;>rfl
theorem RH{d:Option Nat}{v:Value}{io:List Nat}{n:Nat}(hd:LS n io d=true){i:Nat}(hi:i∈io):(a.put d v).tmps.getD i undef=a.tmps.getD i undef:=by
 cases d with
 |none=>rfl
 |some d=>
  simp only[LS,bP,qO]at hd
  have h1:=hd.2 i hi
  have iI:i≠d:=by
   intro e;subst e
   simp at h1
  show(a.tmps.setIfInBounds d v).getD i undef=_
  rw[sB,sB,Lt (eU iI)]
theorem Inv.bool(h:Inv c E σ a w){x:Operand}{b:Bool}(hx:σ.ρ x= .val .bool b):a.eval x= .bool b:=by
 obtain⟨⟨M,ν,hc⟩,_,_,_⟩:=h
 have:=hc.ev x
 rw[hx]at this
 exact this.bool
theorem CA(hE:tZ P E){ops:Array Oper}(hI:Inv c E σ a w){K:St→List Nat→List Nat→Option α}(h:tO E ops.toList o σ K=some r)
  (hn: ∀σ' a' w' rd wr,K σ' rd wr=some r→Inv c E σ' a' w'→next a' w'):
  if Region.wanted o (yielded ops a.tmps)then o.wp P a w next Q else next (a.put o.dst undef) w:=by
 unfold tO at h
 obtain⟨hd,h⟩:=cB h
 have dJ:tx E o σ.ρ σ.H (λv rd ups=>K ((σ.wx ups).vO o.dst v) rd (ups.map (·.1)))=some r→o.wp P a w next Q:=by
  intro h
  obtain⟨⟨M,ν,hc⟩,hs,ahm,yi⟩:=hI
  refine S8 hE hc h λv rd ups v' w' M' ν' hK ix hV=> ?_
  refine hn _ _ _ _ _ hK ⟨⟨M',ν',?_⟩,by rw[Ms,hs],by rw[put_defers,ahm],λi hi=>(RH hd hi).trans (yi i hi)⟩
  have h1:=hc.tr ix
  have h2:σ.wx ups=⟨σ.T,cY σ.H ups⟩:=by rw[←PU,←PV ups σ]
  rw[h2]
  exact h1.vO (by rw[hs];exact hd) hV a.defers
 have sL: ∀rd wr,K (σ.vO o.dst .Vc) rd wr=some r→next (a.put o.dst undef) w:=by
  intro rd wr h
  obtain⟨⟨M,ν,hc⟩,hs,ahm,yi⟩:=hI
  refine hn _ _ _ _ _ h ⟨⟨M,ν,hc.vO (by rw[hs];exact hd) (by simp[VR]) a.defers⟩,by rw[Ms,hs],by rw[put_defers,ahm],λi hi=>(RH hd hi).trans (yi i hi)⟩
 simp only at h
 split at h
 ·rename_i hg
  have:Region.wanted o (yielded ops a.tmps)=true:=by simp[Region.wanted,hg]
  rw[aj this]
  exact dJ h
 ·rename_i j want hg
  split at h
  ·cases h
  ·rename_i t ht
   have ht':(ops[j]?).bind (·.dst)=some t:=by rw[←gY];exact ht
   have hy: ∀b,σ.T t= .val .bool b→yielded ops a.tmps j=some b:=by
    intro b hb
    obtain⟨⟨M,ν,hc⟩,hs,_,_⟩:=hI
    have h1:=hc.tmp t
    rw[hb]at h1
    have h1:=h1.bool
    have h2:a.tmps[t]? =some (.bool b):=by
     rw[sB]at h1
     cases h3:a.tmps[t]? with
     |none=>rw[h3]at h1;simp[undef]at h1
     |some v=>rw[h3]at h1;simpa using h1
    simp[yielded,ht',h2]
   split at h
   ·rename_i b hb
    have pX:σ.put t (.val .bool b)=σ:=by rw[←hb];exact E9 σ t
    have hw:=hy b hb
    cases want<;>cases b
    ·rw[aj (by simp[Region.wanted,hg,hw])]
     rw[pX]at h;exact dJ h
    ·rw[ah (by simp[Region.wanted,hg,hw])]
     rw[pX]at h;exact sL _ _ h
    ·rw[ah (by simp[Region.wanted,hg,hw])]
     rw[pX]at h;exact sL _ _ h
    ·rw[aj (by simp[Region.wanted,hg,hw])]
     rw[pX]at h;exact dJ h
   ·rename_i hb
    have zX: ¬Region.wanted o (yielded ops a.tmps)=true:=by
     obtain⟨⟨M,ν,hc⟩,hs,_,_⟩:=hI
     have h1:=hc.tmp t
     rw[hb]at h1
     simp only[VR]at h1
     have h2: ∀b,a.tmps[t]? ≠some (.bool b):=by
      intro b ff
      rw[sB,ff]at h1
      simp[undef]at h1
     have h3:yielded ops a.tmps j=none:=by
      unfold yielded
      rw[ht']
      show(match a.tmps[t]? with|some (.bool b)=>some b|_=>none)=none
      split
      ·rename_i b ff;exact absurd ff (h2 b)
      ·rfl
     simp[Region.wanted,hg,h3]
    rw[ah zX]
    exact sL _ _ h
   ·cases h
theorem Fa(hE:tZ P E){ops:Array Oper}: ∀(l:List Oper) (i:Nat) (σ:St) (lg:Log) (a:Act) (w:World) (K:St→Log→Option α),Inv c E σ a w→SP E ops.toList l i σ lg K=some r→
  (∀σ' lg' a' w',K σ' lg'=some r→Inv c E σ' a' w'→Q .normal a' w')→wpList P ops Q l a w
 |[],i,σ,lg,a,w,K,hI,h,hn=>hn _ _ _ _ h hI
 |o::l,i,σ,lg,a,w,K,hI,h,hn=>by
  unfold SP at h
  refine wpList_step λK' hK'=> ?_
  exact CA hE hI h fun σ' a' w' rd wr h' yw=>hK' _ _ (Fa hE l (i+1) σ' _ a' w' K yw h' hn)
theorem Mt(hI:Inv c E σ a w){x:Operand}{A B:St→Option α}(h:H4 E x σ A B=some r): ∃b,a.eval x= .bool b∧(if b then A σ else B σ)=some r:=by
 unfold H4 at h
 split at h
 ·rename_i b hb
  refine⟨b,hI.bool hb,?_⟩
  split at h
  ·rename_i t
   have hb:σ.T t= .val .bool b:=hb
   have pX:σ.put t (.val .bool b)=σ:=by rw[←hb];exact E9 σ t
   cases b
   ·rw[pX]at h;exact h
   ·rw[pX]at h;exact h
  ·cases b<;>exact h
 ·cases h
end VM
end
section
namespace VM
open Go
variable{P:Program}{E:Env}{o:Oper}{a:Act}{w:World}{M:Nat→Prop}{ν:Nat→Value}{σ:St}{c:Ctx}{α:Type}{r:α}{next:Act→World→Prop}{Q:Exit→Act→World→Prop}
def mix{β:Type}(A B:Nat→β):Nat→β:=λi=>if i%2=0 then A (i/2)else B (i/2)
theorem iz{β:Type}(A B:Nat→β)(i:Nat):mix A B (2*i)=A i:=by
 unfold mix
 rw[aj ω,show 2*i/2=i from by omega]
theorem vI{β:Type}(A B:Nat→β)(i:Nat):mix A B (2*i+1)=B i:=by
 unfold mix
 rw[ah ω,show(2*i+1)/2=i from by omega]
theorem alg{β:Type}{A B A' B':Nat→β}(hl: ∀i,A i=A' i)(hr: ∀i,B i=B' i):mix A B=mix A' B':=by
 funext i;unfold mix;rw[hl,hr]
def bh.re(f:Nat→Nat):bh→bh
 | .gk τ x p j=> .gk τ x p (f j)
 |e=>e
theorem ER.re{v:Value}{f:Nat→Nat}{e:bh}:ER w M v (e.re f)↔ER w M v e:=by cases e<;>simp[bh.re,ER]
theorem bh.ri{f:Nat→Nat}{e:bh}:(e.re f).mut↔e.mut:=by cases e<;>simp[bh.re,bh.mut]
theorem bh.RI{f g:Nat→Nat}{e e':bh}:(e.re f).lK (e'.re g)↔e.lK e':=by cases e<;>cases e'<;>simp[bh.re,bh.lK]
def ml(i:Nat):Nat:=2*i
def mr(i:Nat):Nat:=2*i+1
def jg(A B:Nat→Option bh):Nat→Option bh:=λi=>if i%2=0 then(A (i/2)).map (bh.re ml)else(B (i/2)).map (bh.re mr)
theorem yL(A B:Nat→Option bh)(i:Nat):jg A B (2*i)=(A i).map (bh.re ml):=by
 unfold jg
 rw[aj ω,show 2*i/2=i from by omega]
theorem uX(A B:Nat→Option bh)(i:Nat):jg A B (2*i+1)=(B i).map (bh.re mr):=by
 unfold jg
 rw[ah ω,show(2*i+1)/2=i from by omega]
theorem iF{A B:Nat→Option bh}{i:Nat}{e:bh}(h:A i=some e):jg A B (2*i)=some (e.re ml):=by rw[yL,h];rfl
theorem uY{A B:Nat→Option bh}{i:Nat}{e:bh}(h:B i=some e):jg A B (2*i+1)=some (e.re mr):=by rw[uX,h];rfl
theorem JY{A B:Nat→Option bh}{i:Nat}:jg A B (2*i)≠none↔A i≠none:=by rw[yL];cases A i<;>simp
theorem JZ{A B:Nat→Option bh}{i:Nat}:jg A B (2*i+1)≠none↔B i≠none:=by rw[uX];cases B i<;>simp
theorem rj(A B:Nat→Option bh)(i:Nat)(v:Option bh):bT (jg A B) (2*i) (v.map (bh.re ml))=jg (bT A i v) B:=by
 funext k
 by_cases hk:k=2*i
 ·subst hk;rw[ay,yL,ay]
 ·rw[az _ _ hk]
  unfold jg
  by_cases h2:k%2=0
  ·rw[aj h2,aj h2,az _ _ ω]
  ·rw[ah h2,ah h2]
theorem Fb(A B:Nat→Option bh)(i:Nat)(v:Option bh):bT (jg A B) (2*i+1) (v.map (bh.re mr))=jg A (bT B i v):=by
 funext k
 by_cases hk:k=2*i+1
 ·subst hk;rw[ay,uX,ay]
 ·rw[az _ _ hk]
  unfold jg
  by_cases h2:k%2=0
  ·rw[aj h2,aj h2]
  ·rw[ah h2,ah h2,az _ _ ω]
theorem Fc(A B:Nat→Value)(i:Nat)(v:Value):dp (mix A B) (2*i+1) v=mix A (dp B i v):=by
 funext k
 unfold dp mix
 by_cases hk:k=2*i+1
 ·subst hk;rw[aj rfl,ah ω]
  show v=if(2*i+1)/2=i then v else B ((2*i+1)/2)
  rw[aj ω]
 ·rw[ah hk]
  by_cases h2:k%2=0
  ·rw[aj h2,aj h2]
  ·rw[ah h2,ah h2]
   show B (k/2)=if k/2=i then v else B (k/2)
   rw[ah ω]
theorem Mem.left{H A:Nat→Option bh}{νA:Nat→Value}(h:Mem c (jg H A) w M (mix ν νA)):Mem c H w M ν:=
 ⟨λi e hi=>by have:=h.ln (2*i) _ (iF hi);rw[iz]at this;exact ER.re.1 this,
  λi j e e' b pF hi hm hj jW=>by have:=h.zP (2*i) (2*j) _ _ b ω (iF hi) (bh.ri.2 hm) (iF hj) (bh.ri.2 jW);rwa [iz,iz]at this,
  λi e b hi hm=>by have:=h.new (2*i) _ b (iF hi) (bh.ri.2 hm);rwa [iz]at this,
  λi e l b hi=>by have:=h.yG (2*i) e l b (iF hi);rwa [iz]at this,
  λi τ x p j hi=>by
   obtain⟨h1,b,h2,h3⟩:=h.gk (2*i) τ x p (ml j) (iF hi)
   rw[iz]at h2
   unfold ml at h1 h3
   rw[iz]at h3
   exact⟨JY.1 h1,b,h2,h3⟩,
  h.sub,h.ES,h.frame,h.size,h.vT,h.os,h.tape,h.output⟩
theorem Mem.right{H A:Nat→Option bh}{νA:Nat→Value}(h:Mem c (jg H A) w M (mix ν νA)):Mem c A w M νA:=
 ⟨λi e hi=>by have:=h.ln (2*i+1) _ (uY hi);rw[vI]at this;exact ER.re.1 this,
  λi j e e' b pF hi hm hj jW=>by have:=h.zP (2*i+1) (2*j+1) _ _ b ω (uY hi) (bh.ri.2 hm) (uY hj) (bh.ri.2 jW);rwa [vI,vI]at this,
  λi e b hi hm=>by have:=h.new (2*i+1) _ b (uY hi) (bh.ri.2 hm);rwa [vI]at this,
  λi e l b hi=>by have:=h.yG (2*i+1) e l b (uY hi);rwa [vI]at this,
  λi τ x p j hi=>by
   obtain⟨h1,b,h2,h3⟩:=h.gk (2*i+1) τ x p (mr j) (uY hi)
   rw[vI]at h2
   unfold mr at h1 h3
   rw[vI]at h3
   exact⟨JZ.1 h1,b,h2,h3⟩,
  h.sub,h.ES,h.frame,h.size,h.vT,h.os,h.tape,h.output⟩
theorem Mem.Zt{H:Nat→Option bh}(νA:Nat→Value)(h:Mem c H w M ν):Mem c (jg H (λ_=>none)) w M (mix ν νA):=by
 have key: ∀i e,jg H (λ_=>none) i=some e→ ∃j e0,i=2*j∧H j=some e0∧e=e0.re ml:=by
  intro i e hi
  unfold jg at hi
  by_cases h2:i%2=0
  ·rw[aj h2]at hi
   obtain⟨e0,h3,h4⟩:=zq.1 hi
   exact⟨i/2,e0,ω,h3,h4.symm⟩
  ·rw[ah h2]at hi;cases hi
 refine⟨λi e hi=> ?_,λi j e e' b pF hi hm hj jW=> ?_,λi e b hi hm=> ?_,λi e l b hi=> ?_,λi τ x p j hi=> ?_,h.sub,h.ES,h.frame,h.size,h.vT,h.os,h.tape,h.output⟩
 ·obtain⟨j,e0,rfl,hj,rfl⟩:=key i e hi;rw[iz];exact ER.re.2 (h.ln j e0 hj)
 ·obtain⟨i',e1,rfl,lA,rfl⟩:=key i e hi;obtain⟨j',e2,rfl,YP,rfl⟩:=key j e' hj
  rw[iz,iz];exact h.zP i' j' e1 e2 b ω lA (bh.ri.1 hm) YP (bh.ri.1 jW)
 ·obtain⟨j,e0,rfl,hj,rfl⟩:=key i e hi;rw[iz];exact h.new j e0 b hj (bh.ri.1 hm)
 ·obtain⟨j,e0,rfl,hj,he⟩:=key i _ hi
  cases e0<;>simp only[bh.re]at he<;>cases he
  rw[iz];exact h.yG j e l b hj
 ·obtain⟨k,e0,rfl,hk,he⟩:=key i _ hi
  cases e0<;>simp only[bh.re]at he<;>cases he
  obtain⟨h1,b,h2,h3⟩:=h.gk k _ _ _ _ hk
  refine⟨JY.2 h1,b,by rw[iz];exact h2,?_⟩
  unfold ml
  rw[iz];exact h3
theorem s8.left{H A H' A':Nat→Option bh}{νA ν' S9:Nat→Value}(g:s8 (jg H A) (mix ν νA) (jg H' A') (mix ν' S9)):s8 H ν H' ν':=
 ⟨λi e hi=>by
   obtain⟨e',h1,h2⟩:=g.ln (2*i) _ (iF hi)
   rw[yL]at h1
   obtain⟨e0,h3,rfl⟩:=zq.1 h1
   exact⟨e0,h3,bh.RI.1 h2⟩,
  λi hi=>by have:=g.head (2*i) (JY.2 hi);rwa [iz,iz]at this⟩
theorem s8.right{H A H' A':Nat→Option bh}{νA ν' S9:Nat→Value}(g:s8 (jg H A) (mix ν νA) (jg H' A') (mix ν' S9)):s8 A νA A' S9:=
 ⟨λi e hi=>by
   obtain⟨e',h1,h2⟩:=g.ln (2*i+1) _ (uY hi)
   rw[uX]at h1
   obtain⟨e0,h3,rfl⟩:=zq.1 h1
   exact⟨e0,h3,bh.RI.1 h2⟩,
  λi hi=>by have:=g.head (2*i+1) (JZ.2 hi);rwa [vI,vI]at this⟩
theorem Mem.move{H A:Nat→Option bh}{νA:Nat→Value}(h:Mem c (jg H A) w M (mix ν νA)){i j:Nat}{e e1:bh}(hi:H i=some e)(hm:e.mut)(hj:A j=none)
  (PW:(e1=e∧ ∀τ x p k,e≠ .gk τ x p k)∨ ∃τ x p k k',e= .gk τ x p k∧e1= .gk τ x p k'∧A k'≠none∧νA k'=ν k):
  Tr c (jg H A) w M (mix ν νA) (jg (bT H i (some .gone)) (bT A j (some e1))) w M (mix ν (dp νA j (ν i))):=by
 have hg:=Tr.gone h (2*i)
 have hgo:(some bh.gone)=(some bh.gone).map (bh.re ml):=rfl
 rw[hgo,rj]at hg
 have UY:=iF (B:=A) hi
 have hER:ER w M (ν i) (e1.re mr):=by
  have h1:=h.ln (2*i) _ UY
  rw[iz]at h1
  have h1:=ER.re.1 h1
  rcases PW with⟨rfl,_⟩|⟨τ,x,p,k,k',rfl,rfl,_,_⟩
  ·exact ER.re.2 h1
  ·exact h1
 have h2:=Mem.yv hg.mem (id:=2*j+1) (v:=ν i) (e:=e1.re mr) (λe' wF=>by rw[uX,hj]at wF;cases wF)
  hER
  (λb hb k e' hk jW=>by
   by_cases YM:k=2*i
   ·subst YM;rw[yL,ay]at hk;cases hk;simp[bh.re,bh.mut]at jW
   ·have hk3:jg H A k=some e':=by
     have:=congrFun (rj H A i (some .gone)) k
     rw[az _ _ YM]at this
     rw[this];exact hk
    have:=h.zP (2*i) k _ e' b (eU YM) UY (bh.ri.2 hm) hk3 jW
    rw[iz]at this
    exact this hb)
  (λb hb=>by have:=h.new (2*i) _ b UY (bh.ri.2 hm);rw[iz]at this;exact this hb)
  (λb e0 l0 he hb=>by
   rcases PW with⟨rfl,_⟩|⟨τ,x,p,k,k',rfl,rfl,_,_⟩
   ·cases e1<;>simp only[bh.re]at he<;>cases he
    have:=h.yG (2*i) e0 l0 b UY;rw[iz]at this;exact this hb
   ·simp[bh.re]at he)
  (.inl (by rw[uX,hj];rfl))
  (fun τ x p k he=>by
   rcases PW with⟨rfl,hn⟩|⟨τ,x,p,k,k',rfl,rfl,hk,hνk⟩
   ·cases e1<;>simp only[bh.re]at he<;>cases he
    exact absurd rfl (hn _ _ _ _)
   ·simp only[bh.re]at he
    cases he
    obtain⟨_,b,h4,h5⟩:=h.gk (2*i) _ _ _ _ UY
    rw[iz]at h4
    have hkj:k'≠j:=λe=>hk (e▸hj)
    refine⟨?_,b,h4,?_⟩
    ·rw[az _ _ (by unfold mr;omega)]
     unfold mr
     exact JZ.2 hk
    ·unfold ml at h5
     rw[iz]at h5
     rw[h5,←hνk]
     have:dp (mix ν νA) (2*j+1) (ν i) (mr k')=mix ν νA (mr k'):=by
      unfold dp mr;rw[ah ω]
     rw[this];unfold mr;rw[vI])
 have Zu:some (e1.re mr)=(some e1).map (bh.re mr):=rfl
 rw[Zu,Fb,Fc]at h2
 refine⟨h2,.refl w M,⟨λk e' hk=> ?_,λk hk=> ?_⟩⟩
 ·by_cases h3:k%2=0
  ·obtain⟨k',rfl⟩: ∃k',k=2*k':=⟨k/2,ω⟩
   by_cases D3:k'=i
   ·subst D3;exact⟨.gone,by rw[yL,ay];rfl,bh.kR _⟩
   ·exact⟨e',by rw[yL]at hk ⊢;rw[az _ _ D3];exact hk,.refl e'⟩
  ·obtain⟨k',rfl⟩: ∃k',k=2*k'+1:=⟨k/2,ω⟩
   rw[uX]at hk ⊢
   have D3:k'≠j:=λe=>by rw[e,hj]at hk;cases hk
   exact⟨e',by rw[az _ _ D3];exact hk,.refl e'⟩
 ·by_cases h3:k%2=0
  ·obtain⟨k',rfl⟩: ∃k',k=2*k':=⟨k/2,ω⟩
   rw[iz,iz]
  ·obtain⟨k',rfl⟩: ∃k',k=2*k'+1:=⟨k/2,ω⟩
   rw[vI,vI]
   have D3:k'≠j:=λe=>by rw[uX,e,hj]at hk;exact hk rfl
   simp[dp,D3]
theorem Mem.fresh{H A:Nat→Option bh}{νA:Nat→Value}(h:Mem c (jg H A) w M (mix ν νA)){j:Nat}(hj:A j=none)(e:Ty)(ad:Option Addr):
  Tr c (jg H A) w M (mix ν νA) (jg H (bT A j (some (.own e [])))) w M (mix ν (dp νA j (.slice ad 0 0))):=by
 have:=Tr.nothing h (id:=2*j+1) (by rw[uX,hj];rfl) e ad
 have Zu:some (bh.own e [])=(some (bh.own e [])).map (bh.re mr):=rfl
 rw[Zu,Fb,Fc]at this
 exact this
structure Cut(c:Ctx)(σ acc:St)(tm:Array Value)(w:World)(M:Nat→Prop)(ν νA:Nat→Value):Prop where
 mem:Mem c (jg σ.H acc.H) w M (mix ν νA)
 src: ∀i,VR w M σ.H ν (σ.T i) (tm.getD i undef)
 dst: ∀i,VR w M acc.H νA (acc.T i) (tm.getD i undef)
theorem Cut.tr{acc:St}{tm:Array Value}{νA:Nat→Value}(h:Cut c σ acc tm w M ν νA){H' A':Nat→Option bh}{M':Nat→Prop}{S9:Nat→Value}(t:Tr c (jg σ.H acc.H) w M (mix ν νA) (jg H' A') w M' (mix ν S9)){s:Nat}{x:bD}(hx:VR w M' A' S9 x (tm.getD s undef)):
  Cut c ⟨σ.T,H'⟩ ⟨(acc.put s x).T,A'⟩ tm w M' ν S9:=by
 refine⟨t.mem,λi=>VR.cc t.cc t.goes.left (h.src i),λi=> ?_⟩
 show VR w M' A' S9 ((acc.put s x).T i) _
 by_cases hi:i=s
 ·subst hi;rw[uW];exact hx
 ·rw[Ab _ _ hi];exact VR.cc t.cc t.goes.right (h.dst i)
def VA(A:Nat→Option bh)(s:Nat):Prop:=A (16*s+13)=none∧A (16*s+14)=none∧A (16*s+15)=none
theorem mw{q:Nat×CM}{L:List (Nat×CM)}{A:Nat→Option bh}(hF:kg (q::L)=true)(hN: ∀p∈q::L,VA A p.1):
  kg L=true∧(∀p∈L,VA A p.1)∧
   ∀(A':Nat→Option bh) (d:Nat) (v:Option bh),(d=16*q.1+13∨d=16*q.1+14∨d=16*q.1+15)→(∀p∈L,VA A' p.1)→ ∀p∈L,VA (bT A' d v) p.1:=by
 unfold kg at hF
 rw[bP,qO]at hF
 refine⟨hF.2,λp hp=>hN p (a8 _ hp),λA' d v hd hN' p hp=> ?_⟩
 have iI:p.1≠q.1:=λe=>by
  have:=hF.1 p hp
  rw[e]at this
  simp at this
 obtain⟨h1,h2,h3⟩:=hN' p hp
 exact⟨by rw[az _ _ ω];exact h1,by rw[az _ _ ω];exact h2,by rw[az _ _ ω];exact h3⟩
theorem fb{tm:Array Value}: ∀(L:List (Nat×CM)) (σ acc:St) (M:Nat→Prop) (νA:Nat→Value) (K:St→Option α),Cut c σ acc tm w M ν νA→kg L=true→(∀q∈L,VA acc.H q.1)→ij L σ acc K=some r→
  ∃Zv M' S9,K Zv=some r∧Core c Zv tm w M' S9
 |[],σ,acc,M,νA,K,hC,_,_,h=>⟨acc,M,νA,h,hC.mem.right,hC.dst⟩
 |(s,.v τ)::L,σ,acc,M,νA,K,hC,hF,hN,h=>by
  obtain⟨PD,PE,Ta⟩:=mw hF hN
  unfold ij at h
  obtain⟨y,rd,ups,h,hy⟩:=D2 hC.mem.left (hC.src s) h
  rcases hy with⟨rfl,hV⟩|⟨id,e,l,rfl,bm,hV⟩
  ·exact fb L σ _ M νA K (hC.tr (.refl hC.mem) (x:= .val τ y) (by simp only[VR];exact hV)) PD PE h
  ·obtain⟨M2,ix,_,JL⟩:=Tr.freeze hC.mem (id:=2*id) (iF bm)
   have Zu:some (bh.oS e l)=(some (bh.oS e l)).map (bh.re ml):=rfl
   rw[Zu,rj]at ix
   refine fb L _ _ M2 νA K (hC.tr ix (x:= .val τ y) ?_) PD PE h
   simp only[VR]
   exact hV M2 (λb=>by rw[JL b,iz])
 |(s,.own e)::L,σ,acc,M,νA,K,hC,hF,hN,h=>by
  obtain⟨PD,PE,Ta⟩:=mw hF hN
  unfold ij at h
  have hs:=hC.src s
  split at h
  ·rename_i hT
   have hj:=(hN _ bp).2.1
   rw[hT]at hs
   obtain⟨ad,hv⟩:=VR.emp.1 hs
   refine fb L σ _ M _ K (hC.tr (hC.mem.fresh hj e ad) (x:= .ref (16*s+14)) ?_) PD (Ta _ _ _ (.inr (.inl rfl)) PE) h
   simp only[VR]
   exact⟨by rw[ay];simp,by rw[hv];simp[dp]⟩
  ·rename_i id hT
   rw[hT]at hs
   simp only[VR]at hs
   split at h
   ·rename_i e' l bm
    obtain⟨e1,h⟩:=bC h
    cases e1
    have hj:=(hN _ bp).2.1
    refine fb L _ _ M _ K (hC.tr (hC.mem.move bm trivial hj (.inl ⟨rfl,λ_ _ _ _=>by simp⟩)) (x:= .ref (16*s+14)) ?_) PD (Ta _ _ _ (.inr (.inl rfl)) PE) h
    simp only[VR]
    exact⟨by rw[ay];simp,by rw[hs.2];simp[dp]⟩
   ·cases h
  ·cases h
 |(s,.obj τ)::L,σ,acc,M,νA,K,hC,hF,hN,h=>by
  obtain⟨PD,PE,Ta⟩:=mw hF hN
  unfold ij at h
  have hs:=hC.src s
  split at h
  ·rename_i id hT
   rw[hT]at hs
   split at h
   ·rename_i υ x bm
    obtain⟨e1,h⟩:=bC h
    subst e1
    have hj:=(hN _ bp).2.1
    simp only[VR]at hs
    obtain⟨e,he,oc⟩:=hs
    rw[bm]at he;cases he
    simp only[AR]at oc
    obtain⟨_,b,hb,hv⟩:=oc
    refine fb L _ _ M _ K (hC.tr (hC.mem.move bm trivial hj (.inl ⟨rfl,λ_ _ _ _=>by simp⟩)) (x:= .jr (16*s+14) []) ?_) PD (Ta _ _ _ (.inr (.inl rfl)) PE) h
    simp only[VR]
    exact⟨_,ay _ _ _,trivial,b,by simp[dp,hb],hv⟩
   ·
    rename_i υ x q k bm
    obtain⟨z,ups,M2,hK,ix,amf,b,cs,t,hb,hg,JL,lh⟩: ∃z ups M2,c8 υ τ z (λy=>ij L ((σ.wx ups).jU id (some .gone)) ((acc.put s (.jr (16*s+14) [])).jU (16*s+14) (some (.obj τ y))) K)=some r∧
      Tr c (jg σ.H acc.H) w M (mix ν νA) (jg (cY σ.H ups) acc.H) w M2 (mix ν νA)∧cY σ.H ups id=some (.gk υ x q k)∧ ∃b cs t,ν id= .pointer (some ⟨b,0,none⟩)∧w.heap[b]? =some (.cells cs t (0,0))∧M2 b∧Rd w M2 υ cs.toList z:=by
     have amg:=iF (B:=acc.H) bm
     unfold Df at h
     split at h
     ·rename_i e l hk
      have iI:id≠k:=λe=>by rw[e,hk]at bm;cases bm
      obtain⟨z,ups,M2,hK,ix,_,hc2,b,cs,t,hb,hg,JL,lh⟩:=yJ (H:=jg σ.H acc.H) hC.mem (id:=2*id) (j:=2*k) (x:=x) (q:=q)
       (k:=λz _=>c8 υ τ z λy=>ij L ((σ.wx [(k,some (.oS e l))]).jU id (some .gone)) ((acc.put s (.jr (16*s+14) [])).jU (16*s+14) (some (.obj τ y))) K) amg (by
        unfold Df
        rw[iF hk]
        exact h)
      rw[iz]at hb
      rcases hc2 with⟨e2,l2,h2,_⟩|⟨e2,l2,h2,rfl⟩
      ·rw[iF hk]at h2;simp[bh.re]at h2
      ·rw[iF hk]at h2
       simp only[bh.re,iC]at h2
       have Zu:some (bh.oS e l)=(some (bh.oS e l)).map (bh.re ml):=rfl
       have wI:Tr c (jg σ.H acc.H) w M (mix ν νA) (bT (jg σ.H acc.H) (2*k) (some (.oS e l))) w M2 (mix ν νA):=by
        cases h2;exact ix
       rw[Zu,rj]at wI
       exact⟨z,_,M2,hK,wI,by show bT σ.H k _ id=_;rw[az _ _ iI];exact bm,b,cs,t,hb,hg,JL,lh⟩
     ·rename_i e l hk
      obtain⟨z,ups,M2,hK,ix,_,hc2,b,cs,t,hb,hg,JL,lh⟩:=yJ (H:=jg σ.H acc.H) hC.mem (id:=2*id) (j:=2*k) (x:=x) (q:=q)
       (k:=λz _=>c8 υ τ z λy=>ij L ((σ.wx []).jU id (some .gone)) ((acc.put s (.jr (16*s+14) [])).jU (16*s+14) (some (.obj τ y))) K) amg (by
        unfold Df
        rw[iF hk]
        exact h)
      rw[iz]at hb
      rcases hc2 with⟨e2,l2,h2,rfl⟩|⟨e2,l2,h2,_⟩
      ·exact⟨z,[],M2,hK,ix,bm,b,cs,t,hb,hg,JL,lh⟩
      ·rw[iF hk]at h2;simp[bh.re]at h2
     ·cases h
    obtain⟨e1,hK⟩:=bC hK
    subst e1
    have hC2:Cut c ⟨σ.T,cY σ.H ups⟩ acc tm w M2 ν νA:=⟨ix.mem,λi=>VR.cc ix.cc ix.goes.left (hC.src i),λi=>VR.cc ix.cc ix.goes.right (hC.dst i)⟩
    have si:=Tr.Hr (e':= .obj υ z) ix.mem (iF amf) trivial trivial rfl (λ_ _=>by simp) (by rw[iz];simp only[ER];exact⟨b,cs,t,hb,hg,JL,lh⟩) (λ_ _ _ _ h=>by cases h)
    have Zu:some (bh.obj υ z)=(some (bh.obj υ z)).map (bh.re ml):=rfl
    rw[Zu,rj]at si
    have hC3:Cut c ⟨σ.T,bT (cY σ.H ups) id (some (.obj υ z))⟩ acc tm w M2 ν νA:=⟨si.mem,λi=>VR.cc si.cc si.goes.left (hC2.src i),λi=>VR.cc si.cc si.goes.right (hC2.dst i)⟩
    have hj:=(hN _ bp).2.1
    simp only[VR]at hs
    obtain⟨e,he,oc⟩:=hs
    rw[bm]at he;cases he
    simp only[AR]at oc
    obtain⟨_,b',ff,hv⟩:=oc
    rw[hb]at ff;cases ff
    have hmv:=hC3.mem.move (ay _ _ _) trivial hj (.inl ⟨rfl,λ_ _ _ _=>by simp⟩)
    rw[yI]at hmv
    have EV:(σ.wx ups).jU id (some .gone)=⟨σ.T,bT (cY σ.H ups) id (some .gone)⟩:=by
     have h2:σ.wx ups=⟨σ.T,cY σ.H ups⟩:=by rw[←PU,←PV ups σ]
     rw[h2];rfl
    rw[EV]at hK
    refine fb L _ _ M2 _ K (hC3.tr hmv (x:= .jr (16*s+14) []) ?_) PD (Ta _ _ _ (.inr (.inl rfl)) PE) hK
    simp only[VR]
    exact⟨_,ay _ _ _,trivial,b,by simp[dp,hb],hv⟩
   ·cases h
  ·cases h
 |(s,.gk τ q e)::L,σ,acc,M,νA,K,hC,hF,hN,h=>by
  obtain⟨PD,PE,Ta⟩:=mw hF hN
  unfold ij at h
  have hs:=hC.src s
  split at h
  ·rename_i id hT
   rw[hT]at hs
   split at h
   ·rename_i υ x q' k bm
    obtain⟨hpq,h1⟩:=cB h
    clear h
    have:=Bl hpq
    subst this
    split at h1
    ·rename_i e' l hk
     obtain⟨e1,h2⟩:=bC h1
     clear h1
     subst e1
     obtain⟨e2,h⟩:=bC h2
     cases e2
     have iI:id≠k:=λe=>by rw[e,hk]at bm;cases bm
     obtain⟨arR,arS,_⟩:=hN _ bp
     simp only[VR]at hs
     obtain⟨e,he,oc⟩:=hs
     rw[bm]at he;cases he
     simp only[AR]at oc
     obtain⟨_,b,hb,hv⟩:=oc
     have tT:=hC.mem.move hk trivial arR (.inl ⟨rfl,λ_ _ _ _=>by simp⟩)
     have pI:bT σ.H k (some .gone) id=some (.gk υ x q k):=by rw[az _ _ iI];exact bm
     have yu:=tT.mem.move pI trivial (j:=16*s+14) (e1:= .gk υ x q (16*s+13)) (by rw[az _ _ ω];exact arS)
      (.inr ⟨υ,x,q,k,16*s+13,rfl,rfl,by rw[ay];simp,by simp[dp]⟩)
     refine fb L _ _ M _ K (hC.tr (tT.trans yu) (s:=s) (x:= .jr (16*s+14) []) ?_) PD (Ta _ _ _ (.inr (.inl rfl)) (Ta _ _ _ (.inl rfl) PE)) h
     simp only[VR]
     exact⟨_,ay _ _ _,trivial,b,by simp[dp,hb],hv⟩
    ·cases h1
   ·cases h
  ·cases h
 |(s,.same s')::L,σ,acc,M,νA,K,hC,hF,hN,h=>by
  obtain⟨PD,PE,Ta⟩:=mw hF hN
  unfold ij at h
  split at h
  ·rename_i i j j' h1 h2 h3
   obtain⟨hb,h⟩:=cB h
   have hb:=fV hb
   have e1:=hC.src s
   have e2:=hC.src s'
   have e3:=hC.dst s'
   rw[h1]at e1;rw[h2]at e2;rw[h3]at e3
   simp only[VR]at e1 e2 e3
   refine fb L σ _ M νA K (hC.tr (.refl hC.mem) (x:= .ref j') ?_) PD PE h
   simp only[VR]
   exact⟨e3.1,by rw[e1.2,hb,←e2.2,e3.2]⟩
  ·cases h
 |(s,.io τ)::L,σ,acc,M,νA,K,hC,hF,hN,h=>by
  obtain⟨PD,PE,Ta⟩:=mw hF hN
  unfold ij at h
  have hs:=hC.src s
  split at h
  ·rename_i id hT
   rw[hT]at hs
   obtain⟨_,h⟩:=cB h
   split at h
   ·rename_i υ x bm
    obtain⟨e1,h⟩:=bC h
    subst e1
    have hj:=(hN _ bp).2.2
    simp only[VR]at hs
    obtain⟨e,he,oc⟩:=hs
    rw[bm]at he;cases he
    simp only[AR]at oc
    obtain⟨_,b,hb,hv⟩:=oc
    refine fb L _ _ M _ K (hC.tr (hC.mem.move bm trivial hj (.inl ⟨rfl,λ_ _ _ _=>by simp⟩)) (x:= .jr (16*s+15) []) ?_) PD (Ta _ _ _ (.inr (.inr rfl)) PE) h
    simp only[VR]
    exact⟨_,ay _ _ _,trivial,b,by simp[dp,hb],hv⟩
   ·cases h
  ·cases h
 |(s,.fn f τ)::L,σ,acc,M,νA,K,hC,hF,hN,h=>by
  obtain⟨PD,PE,Ta⟩:=mw hF hN
  unfold ij at h
  have hs:=hC.src s
  split at h
  ·rename_i f' cs hT
   rw[hT]at hs
   obtain⟨hb,h1⟩:=cB h
   clear h
   have hb:=fV hb
   subst hb
   simp only[VR]at hs
   obtain⟨us,hv,Zd⟩:=hs
   obtain⟨y,rd,ups,h,hy⟩:=E6 hC.mem.left Zd h1
   split at h
   ·refine fb L σ _ M νA K (hC.tr (.refl hC.mem) (x:= .LR f (pW τ y)) ?_) PD PE h
    simp only[VR]
    exact⟨us,hv,ju.free (hy rfl)⟩
   ·cases h
  ·cases h
theorem yM(hI:Inv c E σ a w){L:Option (List (Nat×CM))}(hL: ∀L',L=some L'→kg L'=true){K:St→Option α}(h:wD L σ K=some r): ∃σ',K σ'=some r∧Inv c E σ' a w:=by
 unfold wD at h
 split at h
 ·exact⟨σ,h,hI⟩
 ·have hfr:=hL _ rfl
  obtain⟨⟨M,ν,hc⟩,hs,hd⟩:=hI
  obtain⟨Zv,M',S9,hK,amh⟩:=fb (tm:=a.tmps) _ σ ⟨λ_=> .any,λ_=>none⟩ M (λ_=>undef) K ⟨hc.mem.Zt _,hc.tmp,λi=>by simp[VR]⟩ hfr (λ_ _=>⟨rfl,rfl,rfl⟩) h
  exact⟨Zv,hK,⟨M',S9,amh⟩,hs,hd⟩
end VM
end
