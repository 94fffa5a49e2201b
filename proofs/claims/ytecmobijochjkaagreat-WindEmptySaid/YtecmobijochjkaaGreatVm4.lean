/- A part of the proof of WindEmpty of layer 21: a machine that reads a function of the program as an equation between values. -/
import Derived.Test.YtecmobijochjkaaGreatVm3
import Derived.Scope
set_option linter.all false
section
namespace VM
open Go
variable{P:Program}{E:Env}{o:Oper}{a:Act}{w:World}{M:Nat→Prop}{ν:Nat→Value}{σ:St}{c:Ctx}{α:Type}{r:α}{next:Act→World→Prop}{Q:Exit→Act→World→Prop}
theorem Mem.call{H:Nat→Option bg}(h:Mem c H w M ν){hs:List Nat}{M0 M':Nat→Prop}{w':World}(hM: ∀b,M0 b→M b)(hhs: ∀b∈hs,M b)
  (vD: ∀b∈hs,∀i e,H i=some e→e.mut→fL (ν i)≠some b) (lz: ∀b∈hs,c.B≤b∨c.may b) (vf: ∀b∈hs,c.M0 b→M' b) (L:Left w M0 hs w' M'):
  Mem c H w' (λb=>M' b∨(M b∧b∉hs)) ν∧e8 w M w' (λb=>M' b∨(M b∧b∉hs)):=by
 have hk:e8 w M w' (λb=>M' b∨(M b∧b∉hs)):=by
  refine⟨L.size,λb hb hm=>L.frame b hb (λhh=>hm (hhs b hh)),λb hb hm=> ?_⟩
  rcases hm with hm|hm
  ·exact(L.less b hb hm).elim (hM b) (hhs b)
  ·exact hm.1
 refine⟨⟨λi e hi=>(h.kZ i e hi).ca hk λhm b hb=> ?_,h.zQ,h.new,h.yD,qQ h (λ_ _=>rfl) (λ_ h=>h) (λi τ x p j hi=> .inl ⟨hi,λb hb=> ?_⟩),λb hb=> ?_,λb hb=> ?_,λb hb hm=> ?_,cm h.size L.size,h.vu,L.os.trans h.os,L.tape.trans h.tape,L.output.trans h.output⟩,hk⟩
 ·have hMb:=(h.kZ i e hi).xV hm hb
  have zX:b∉hs:=λhh=>vD b hh i e hi hm hb
  exact⟨L.frame b (h.EH b hMb) zX,.inr ⟨hMb,zX⟩⟩
 ·have we:fL (ν i)=some b:=by rw[hb];rfl
  have hMb:=(h.kZ i _ hi).xV trivial we
  exact L.frame b (h.EH b hMb) (λhh=>vD b hh i _ hi trivial we)
 ·by_cases hh:b∈hs
  ·exact .inl (vf b hh hb)
  ·exact .inr ⟨h.sub b hb,hh⟩
 ·rcases hb with hb|hb
  ·exact L.EH b hb
  ·exact mT (h.EH b hb.1) L.size
 ·have zX:b∉hs:=λhh=>(lz b hh).elim (λh'=>ω) hm
  rw[L.frame b (mT hb h.size) zX]
  exact h.frame b hb hm
theorem Mem.yp{H:Nat→Option bg}(h:Mem c H w M ν){id:Nat}{v:Value}{e:bg}(bf: ∀e',H id=some e'→ ¬e'.mut)(S1:ER w M v e)
  (hd: ∀b,fL v=some b→ ∀i e',H i=some e'→e'.mut→fL (ν i)≠some b) (hn: ∀b,fL v=some b→c.B≤b∨c.may b) (ho: ∀b e0 l0,e= .own e0 l0→fL v=some b→ ¬c.M0 b)
  (hnv:H id=none∨v=ν id)
  (sS: ∀τ x p j,e= .gh τ x p j→bZ H id (some e) j≠none∧ ∃b,v= .pointer (some ⟨b,0,none⟩)∧w.cell? ⟨b,cE p τ,none⟩=some (dg ν id v j):=by intro _ _ _ _ h;cases h):
  Mem c (bZ H id (some e)) w M (dg ν id v):=by
 have hν: ∀i,i≠id→dg ν id v i=ν i:=λi hi=>by simp[dg,hi]
 have Dg:dg ν id v id=v:=by simp[dg]
 refine⟨λi e1 hi=> ?_,λi k e1 e2 b1 pN hi tq hk yn=> ?_,λi e1 b1 hi tq=> ?_,λi e1 l1 b1 hi=> ?_,qQ h (λi hi=> ?_) xr (λi τ x p j hi=> ?_),h.sub,h.EH,h.frame,h.size,h.vu,h.os,h.tape,h.output⟩
 ·by_cases bY:i=id
  ·subst bY;rw[ax]at hi;cases hi;rw[Dg];exact S1
  ·rw[az _ _ bY]at hi;rw[hν i bY];exact h.kZ i e1 hi
 ·by_cases bY:i=id
  ·subst bY;rw[Dg]
   have Mo:k≠i:=eH pN
   rw[az _ _ Mo]at hk;rw[hν k Mo]
   intro mw
   exact hd b1 mw k e2 hk yn
  ·rw[az _ _ bY]at hi;rw[hν i bY]
   by_cases Mo:k=id
   ·subst Mo;rw[Dg]
    intro mw tU
    exact hd b1 tU i e1 hi tq mw
   ·rw[az _ _ Mo]at hk;rw[hν k Mo];exact h.zQ i k e1 e2 b1 pN hi tq hk yn
 ·by_cases bY:i=id
  ·subst bY;rw[Dg];exact hn b1
  ·rw[az _ _ bY]at hi;rw[hν i bY];exact h.new i e1 b1 hi tq
 ·by_cases bY:i=id
  ·subst bY;rw[ax]at hi;cases hi;rw[Dg];exact ho b1 e1 l1 rfl
  ·rw[az _ _ bY]at hi;rw[hν i bY];exact h.yD i e1 l1 b1 hi
 ·by_cases bY:i=id
  ·subst bY
   rcases hnv with hnv|hnv
   ·exact absurd hnv hi
   ·rw[Dg,hnv]
  ·exact hν i bY
 ·by_cases bY:i=id
  ·subst bY
   rw[ax]at hi
   cases hi
   obtain⟨h1,b,h2,h3⟩:=sS _ _ _ _ rfl
   exact .inr ⟨h1,b,by rw[Dg];exact h2,h3⟩
  ·rw[az _ _ bY]at hi
   exact .inl ⟨hi,λ_ _=>rfl⟩
theorem Td{m:AM}{ms:List AM}(x:HP (m::ms))(id:Nat)(io:List (Nat×AM)):
  jP (m::ms) x id io=match m,s4 x,io with
   | .io τ,y,(j,_)::io=>((jP ms (ya x) (id+1) io).1,(j,some (.obj τ y))::(jP ms (ya x) (id+1) io).2.1,(jP ms (ya x) (id+1) io).2.2)
   | .lo e,y,(j,_)::io=>((jP ms (ya x) (id+1) io).1,(j,some (.own e y))::(jP ms (ya x) (id+1) io).2.1,(jP ms (ya x) (id+1) io).2.2)
   |m,y,io=>((JN m y id).1::(jP ms (ya x) (id+1) io).1,(JN m y id).2++(jP ms (ya x) (id+1) io).2.1,(jP ms (ya x) (id+1) io).2.2):=by
 cases ms with
 |nil=>cases m<;>cases io<;>simp[jP,s4]
 |cons n ms=>cases m<;>cases io<;>simp[jP,s4,ya]
theorem mz{l1 l2:List Nat}{b:Nat}(h:(l1++l2).Nodup)(h1:b∈l1):b∉l2:=λh2=>(pU.1 h).2.2 b h1 b h2 rfl
theorem RR.J5: ∀{ms:List AM} {x:HP ms} {us ps:List Value},RR w M ms x us ps→ ∀p∈ps,∀b,fL p=some b→b∈bF ms us ps
 |[],_,_,_,h,p,hp,_,_=>by simp only[RR]at h;rw[h.2]at hp;simp at hp
 |m::ms,x,us,ps,h,p,hp,b,hb=>by
  simp only[RR]at h
  rcases h with⟨p',Ha,h1,rfl,h2,h3⟩|⟨v,J4,h1,h2,rfl,h3,h4⟩
  ·simp only[bF,h1,gB,s9,tb,a8]
   rcases aW.1 hp with rfl|hp
   ·left
    cases m<;>simp[AM.iE]at h1<;>simp[c9,hb]
   ·exact .inr (RR.J5 h3 p hp b hb)
  ·simp only[bF,h1,iY,eT,s9,tb,a8]
   exact .inr (RR.J5 h4 p hp b hb)
theorem oa{hs:List Nat}{sz:Nat}: ∀{ms:List AM} {x:HP ms} {us ps:List Value} {id:Nat} {io:List (Nat×AM)} {H:Nat→Option bg} {ν:Nat→Value} {used:List Nat},
  Mem c H w M ν→RR w M ms x us ps→ps=io.map (λq=>ν q.1)→m8 ms=io.map (·.2)→(keys io).Nodup→(∀q∈io,H q.1=some .gone)→(∀i,id≤i→i<id+ms.length→H i=none)→
  (∀i e b,H i=some e→e.mut→fL (ν i)=some b→(b<sz∧b∉hs)∨b∈used)→(used++bF ms us ps).Nodup→(∀b∈bF ms us ps,sz≤b∨b∈hs)→
  (∀b∈bF ms us ps,(c.B≤b∨c.may b))→(∀b∈bF ms us ps,c.M0 b→ ∃p∈ps,fL p=some b)→
  (∀q∈io,∀e,q.2= .lo e→ ∀b,fL (ν q.1)=some b→ ¬c.M0 b)→
  ∃ν',Mem c (c4 H (jP ms x id io).2.1) w M ν'∧jq w M (c4 H (jP ms x id io).2.1) ν' (jP ms x id io).1 us∧(∀i,H i≠none→ν' i=ν i)∧
   (∀i,i∉keys io→(i<id∨id+ms.length≤i)→c4 H (jP ms x id io).2.1 i=H i)∧(∀i,id≤i→i<id+ms.length→ ∀e,c4 H (jP ms x id io).2.1 i=some e→(∃e0 l0,e= .own e0 l0)∨ ∃τ0 z0,e= .obj τ0 z0)∧
   (∀q∈io,IoE (c4 H (jP ms x id io).2.1) q)
 |[],x,us,ps,id,io,H,ν,used,hm,hr,J2,EO,Dp,Br,jr,hold,yb,px,lz,H7,xZ=>by
  simp only[RR]at hr
  obtain⟨rfl,rfl⟩:=hr
  have vf:io=[]:=by
   cases io with
   |nil=>rfl
   |cons q io=>simp at J2
  subst vf
  exact⟨ν,hm,by simp[jP,jq],λ_ _=>rfl,λ_ _ _=>rfl,λi h1 h2=>by simp at h2;omega,λq hq=>by simp at hq⟩
 |m::ms,x,us,ps,id,io,H,ν,used,hm,hr,J2,EO,Dp,Br,jr,hold,yb,px,lz,H7,xZ=>by
  rw[Td]
  simp only[RR]at hr
  rcases hr with⟨p,Ha,Hv,rfl,h1,h2⟩|⟨v,J4,Hv,hmf,rfl,h1,h2⟩
  ·
   cases m with
   |io τ=>
    cases io with
    |nil=>simp at J2
    |cons q io=>
     simp only[bX,fh]at J2
     obtain⟨rfl,rfl⟩:=J2
     simp only[m8,bX,fh]at EO
     obtain⟨Zz,ahf⟩:=EO
     simp only[keys,bX,zz]at Dp
     have ZA:bF (.io τ::ms) us (ν q.1::io.map λq=>ν q.1)=(fL (ν q.1)).toList++bF ms us (io.map λq=>ν q.1):=rfl
     rw[ZA]at yb px lz H7
     have xu:=Br q bm
     have EX:q.1<id∨id+(ms.length+1)≤q.1:=by
      rcases oU q.1 id with h'|h'
      ·exact .inl h'
      ·rcases oU q.1 (id+(ms.length+1))with J6|J6
       ·rw[jr q.1 h' J6]at xu;cases xu
       ·exact .inr J6
     simp only[A1]at h1
     have qV: ∀b,fL (ν q.1)=some b→ ∀i e',H i=some e'→e'.mut→fL (ν i)≠some b:=by
      intro b hb i e' hi jQ eY
      have lT:b∈(fL (ν q.1)).toList++bF ms us (io.map λq=>ν q.1):=cU _ (by rw[hb];simp)
      rcases hold i e' b hi jQ eY with⟨h3,h4⟩|h3
      ·exact(px b lT).elim (λh'=>ω) h4
      ·exact mz yb h3 lT
     have yn:=Mem.yp (c:=c) hm (id:=q.1) (v:=ν q.1) (e:= .obj τ (s4 x)) (λe' wc=>by rw[xu]at wc;cases wc;simp[bg.mut]) h1 qV (λb hb=>lz b (cU _ (by rw[hb];simp))) (λb e0 l0 he=>by cases he) (.inr rfl)
     have hνe:dg ν q.1 (ν q.1)=ν:=by funext i;unfold dg;split<;>simp_all
     rw[hνe]at yn
     have ahg: ∀(q':Nat×AM),q'∈io→q'.1≠q.1:=λq' nN e=>Dp.1 (cA.2 ⟨q',nN,e⟩)
     obtain⟨ν',r1,r2,r3,r4,r5,r6⟩:=oa (ms:=ms) (x:=ya x) (us:=us) (ps:=io.map λq=>ν q.1) (id:=id+1) (io:=io) (used:=used++(fL (ν q.1)).toList) yn h2 rfl ahf Dp.2
      (λq' nN=>by rw[az _ _ (ahg q' nN)];exact Br q' (aZ _ nN))
      (λi h3 h4=>by
       have:i≠q.1:=ω
       rw[az _ _ this]
       exact jr i ω (by simp only[aR];omega))
      (λi e b hi jQ hb=>by
       by_cases bY:i=q.1
       ·subst bY;exact .inr (dA _ (by rw[hb];simp))
       ·rw[az _ _ bY]at hi
        exact(hold i e b hi jQ hb).imp (λh=>h) (cU _))
      (by rw[bt];exact yb) (λb hb=>px b (dA _ hb)) (λb hb=>lz b (dA _ hb))
      (λb hb YY=>by
       obtain⟨p,hp,hpb⟩:=H7 b (dA _ hb) YY
       rcases aW.1 hp with rfl|hp
       ·exact absurd (mz (pU.1 yb).2.1 (b:=b) (by rw[hpb];simp)) (by simpa using hb)
       ·exact⟨p,hp,hpb⟩) (λq' nN=>xZ q' (aZ _ nN))
     refine⟨ν',r1,r2,λi hi=> ?_,λi h3 h4=> ?_,λi h3 h4 e he=> ?_,λq' nN=> ?_⟩
     ·exact r3 i (by
       by_cases bY:i=q.1
       ·subst bY;rw[ax];simp
       ·rw[az _ _ bY];exact hi)
     ·simp only[keys,bX,aW,not_or]at h3
      have:=r4 i h3.2 (by simp only[aR]at h4;omega)
      rw[az _ _ h3.1]at this
      exact this
     ·by_cases h5:id+1≤i
      ·exact r5 i h5 (by simp only[aR]at h4;omega) e he
      ·have bY:i=id:=ω
       subst bY
       by_cases hk:i∈keys io
       ·obtain⟨q',nN,Bs⟩:=cA.1 hk
        have h9:=Br q' (aZ _ nN)
        rw[Bs,jr i (aG _) (by simp)]at h9
        cases h9
       ·have:=r4 i hk (.inl ω)
        have jy:i≠q.1:=ω
        rw[az _ _ jy,jr i (aG _) (by simp)]at this
        have he:c4 (bZ H q.1 (some (bg.obj τ (s4 x)))) (jP ms (ya x) (i+1) io).2.1 i=some e:=he
        rw[this]at he;cases he
     ·rcases aW.1 nN with rfl|nN
      ·have:=r4 q'.1 Dp.1 ω
       rw[ax]at this
       exact .inl ⟨τ,s4 x,Zz.symm,this⟩
      ·exact r6 q' nN
   |lo τ=>
    cases io with
    |nil=>simp at J2
    |cons q io=>
     simp only[bX,fh]at J2
     obtain⟨rfl,rfl⟩:=J2
     simp only[m8,bX,fh]at EO
     obtain⟨Zz,ahf⟩:=EO
     simp only[keys,bX,zz]at Dp
     have ZA:bF (.lo τ::ms) us (ν q.1::io.map λq=>ν q.1)=(fL (ν q.1)).toList++bF ms us (io.map λq=>ν q.1):=rfl
     rw[ZA]at yb px lz H7
     have xu:=Br q bm
     have EX:q.1<id∨id+(ms.length+1)≤q.1:=by
      rcases oU q.1 id with h'|h'
      ·exact .inl h'
      ·rcases oU q.1 (id+(ms.length+1))with J6|J6
       ·rw[jr q.1 h' J6]at xu;cases xu
       ·exact .inr J6
     simp only[A1]at h1
     have qV: ∀b,fL (ν q.1)=some b→ ∀i e',H i=some e'→e'.mut→fL (ν i)≠some b:=by
      intro b hb i e' hi jQ eY
      have lT:b∈(fL (ν q.1)).toList++bF ms us (io.map λq=>ν q.1):=cU _ (by rw[hb];simp)
      rcases hold i e' b hi jQ eY with⟨h3,h4⟩|h3
      ·exact(px b lT).elim (λh'=>ω) h4
      ·exact mz yb h3 lT
     have yn:=Mem.yp (c:=c) hm (id:=q.1) (v:=ν q.1) (e:= .own τ (s4 x)) (λe' wc=>by rw[xu]at wc;cases wc;simp[bg.mut]) h1 qV (λb hb=>lz b (cU _ (by rw[hb];simp))) (λb e0 l0 _ hb=>xZ q bm τ Zz.symm b hb) (.inr rfl)
     have hνe:dg ν q.1 (ν q.1)=ν:=by funext i;unfold dg;split<;>simp_all
     rw[hνe]at yn
     have ahg: ∀(q':Nat×AM),q'∈io→q'.1≠q.1:=λq' nN e=>Dp.1 (cA.2 ⟨q',nN,e⟩)
     obtain⟨ν',r1,r2,r3,r4,r5,r6⟩:=oa (ms:=ms) (x:=ya x) (us:=us) (ps:=io.map λq=>ν q.1) (id:=id+1) (io:=io) (used:=used++(fL (ν q.1)).toList) yn h2 rfl ahf Dp.2
      (λq' nN=>by rw[az _ _ (ahg q' nN)];exact Br q' (aZ _ nN))
      (λi h3 h4=>by
       have:i≠q.1:=ω
       rw[az _ _ this]
       exact jr i ω (by simp only[aR];omega))
      (λi e b hi jQ hb=>by
       by_cases bY:i=q.1
       ·subst bY;exact .inr (dA _ (by rw[hb];simp))
       ·rw[az _ _ bY]at hi
        exact(hold i e b hi jQ hb).imp (λh=>h) (cU _))
      (by rw[bt];exact yb) (λb hb=>px b (dA _ hb)) (λb hb=>lz b (dA _ hb))
      (λb hb YY=>by
       obtain⟨p,hp,hpb⟩:=H7 b (dA _ hb) YY
       rcases aW.1 hp with rfl|hp
       ·exact absurd (mz (pU.1 yb).2.1 (b:=b) (by rw[hpb];simp)) (by simpa using hb)
       ·exact⟨p,hp,hpb⟩) (λq' nN=>xZ q' (aZ _ nN))
     refine⟨ν',r1,r2,λi hi=> ?_,λi h3 h4=> ?_,λi h3 h4 e he=> ?_,λq' nN=> ?_⟩
     ·exact r3 i (by
       by_cases bY:i=q.1
       ·subst bY;rw[ax];simp
       ·rw[az _ _ bY];exact hi)
     ·simp only[keys,bX,aW,not_or]at h3
      have:=r4 i h3.2 (by simp only[aR]at h4;omega)
      rw[az _ _ h3.1]at this
      exact this
     ·by_cases h5:id+1≤i
      ·exact r5 i h5 (by simp only[aR]at h4;omega) e he
      ·have bY:i=id:=ω
       subst bY
       by_cases hk:i∈keys io
       ·obtain⟨q',nN,Bs⟩:=cA.1 hk
        have h9:=Br q' (aZ _ nN)
        rw[Bs,jr i (aG _) (by simp)]at h9
        cases h9
       ·have:=r4 i hk (.inl ω)
        have jy:i≠q.1:=ω
        rw[az _ _ jy,jr i (aG _) (by simp)]at this
        have he:c4 (bZ H q.1 (some (bg.own τ (s4 x)))) (jP ms (ya x) (i+1) io).2.1 i=some e:=he
        rw[this]at he;cases he
     ·rcases aW.1 nN with rfl|nN
      ·have:=r4 q'.1 Dp.1 ω
       rw[ax]at this
       exact .inr ⟨τ,s4 x,Zz.symm,this⟩
      ·exact r6 q' nN
   |v τ=>simp[AM.iE]at Hv
   |own τ=>simp[AM.iE]at Hv
   |fn f τ=>simp[AM.iE]at Hv
   |ptr τ=>simp[AM.iE]at Hv
   |jn τ=>simp[AM.iE]at Hv
  ·
   have Hw:H id=none:=jr id (aG _) (by simp)
   cases m with
   |io τ=>simp[AM.iE]at Hv
   |lo τ=>simp[AM.iE]at Hv
   |fn f τ=>simp[AM.Zv]at hmf
   |jn τ=>simp[AM.Zv]at hmf
   |v τ=>
    have ZA:bF (.v τ::ms) (v::J4) ps=bF ms J4 ps:=rfl
    rw[ZA]at yb px lz H7
    simp only[A1]at h1
    obtain⟨ν',r1,r2,r3,r4,r5,r6⟩:=oa (ms:=ms) (x:=ya x) (us:=J4) (ps:=ps) (id:=id+1) (io:=io) (used:=used) hm h2 J2 (by simpa [m8]using EO) Dp Br (λi h3 h4=>jr i ω (by simp only[aR];omega)) hold yb px lz H7 xZ
    refine⟨ν',r1,?_,r3,λi h3 h4=>r4 i h3 (by simp only[aR]at h4;omega),λi h3 h4 e he=> ?_,r6⟩
    ·simp only[JN,jq,VR];exact⟨h1,r2⟩
    ·by_cases h5:id+1≤i
     ·exact r5 i h5 (by simp only[aR]at h4;omega) e he
     ·have bY:i=id:=ω
      subst bY
      by_cases hk:i∈keys io
      ·obtain⟨q',nN,Bs⟩:=cA.1 hk
       have h9:=Br q' nN
       rw[Bs,Hw]at h9;cases h9
      ·have:=r4 i hk (.inl ω)
       rw[Hw]at this
       have he:c4 H (jP ms (ya x) (i+1) io).2.1 i=some e:=he
       rw[this]at he;cases he
   |own τ=>
    have ZA:bF (.own τ::ms) (v::J4) ps=(fL v).toList++bF ms J4 ps:=rfl
    rw[ZA]at yb px lz H7
    simp only[A1]at h1
    have qV: ∀b,fL v=some b→ ∀i e',H i=some e'→e'.mut→fL (ν i)≠some b:=by
     intro b hb i e' hi jQ eY
     have lT:b∈(fL v).toList++bF ms J4 ps:=cU _ (by rw[hb];simp)
     rcases hold i e' b hi jQ eY with⟨h3,h4⟩|h3
     ·exact(px b lT).elim (λh'=>ω) h4
     ·exact mz yb h3 lT
    have alP: ∀b,fL v=some b→ ¬c.M0 b:=by
     intro b hb h0
     have lT:b∈(fL v).toList:=by rw[hb];simp
     obtain⟨p,hp,hpb⟩:=H7 b (cU _ lT) h0
     exact mz (pU.1 yb).2.1 lT (RR.J5 h2 p hp b hpb)
    have yn:=Mem.yp (c:=c) hm (id:=id) (v:=v) (e:= .own τ (s4 x)) (λe' wc=>by rw[Hw]at wc;cases wc) h1 qV (λb hb=>lz b (cU _ (by rw[hb];simp))) (λb e0 l0 _ hb=>alP b hb) (.inl Hw)
    have EX: ∀q∈io,q.1≠id:=λq hq e=>by
     have h9:=Br q hq
     rw[e,Hw]at h9;cases h9
    have ZB: ∀i,i≠id→dg ν id v i=ν i:=λi hi=>by simp[dg,hi]
    obtain⟨ν',r1,r2,r3,r4,r5,r6⟩:=oa (ms:=ms) (x:=ya x) (us:=J4) (ps:=ps) (id:=id+1) (io:=io) (used:=used++(fL v).toList) yn h2
     (by rw[J2];exact qz λq hq=>(ZB _ (EX q hq)).symm) (by simpa [m8]using EO) Dp
     (λq hq=>by rw[az _ _ (EX q hq)];exact Br q hq)
     (λi h3 h4=>by rw[az _ _ ω];exact jr i ω (by simp only[aR];omega))
     (λi e b hi jQ hb=>by
      by_cases bY:i=id
      ·subst bY
       have:dg ν i v i=v:=by simp[dg]
       rw[this]at hb
       exact .inr (dA _ (by rw[hb];simp))
      ·rw[az _ _ bY]at hi
       rw[ZB i bY]at hb
       exact(hold i e b hi jQ hb).imp (λh=>h) (cU _))
     (by rw[bt];exact yb) (λb hb=>px b (dA _ hb)) (λb hb=>lz b (dA _ hb)) (λb hb=>H7 b (dA _ hb)) (λq hq e he b hb=>xZ q hq e he b (by rw[ZB _ (EX q hq)]at hb;exact hb))
    have ahi:id∉keys io:=λhk=>by
     obtain⟨q,hq,Bs⟩:=cA.1 hk
     exact EX q hq Bs
    have pY:c4 (bZ H id (some (.own τ (s4 x)))) (jP ms (ya x) (id+1) io).2.1 id=some (.own τ (s4 x)):=by
     rw[r4 id ahi (.inl ω),ax]
    refine⟨ν',r1,?_,λi hi=> ?_,λi h3 h4=> ?_,λi h3 h4 e he=> ?_,r6⟩
    ·simp only[JN,jq,VR]
     refine⟨⟨?_,?_⟩,r2⟩
     ·show c4 (bZ H id (some (.own τ (s4 x)))) (jP ms (ya x) (id+1) io).2.1 id≠none
      rw[pY];simp
     ·rw[r3 id (by rw[ax];simp)];simp[dg]
    ·have bY:i≠id:=λe=>hi (e▸Hw)
     rw[r3 i (by rw[az _ _ bY];exact hi),ZB i bY]
    ·have bY:i≠id:=by simp only[aR]at h4;omega
     have:=r4 i h3 (by simp only[aR]at h4;omega)
     rw[az _ _ bY]at this
     exact this
    ·by_cases h5:id+1≤i
     ·exact r5 i h5 (by simp only[aR]at h4;omega) e he
     ·have bY:i=id:=ω
      subst bY
      have he:c4 (bZ H i (some (.own τ (s4 x)))) (jP ms (ya x) (i+1) io).2.1 i=some e:=he
      rw[pY]at he;cases he
      exact .inl ⟨τ,_,rfl⟩
   |ptr τ=>
    have ZA:bF (.ptr τ::ms) (v::J4) ps=(fL v).toList++bF ms J4 ps:=rfl
    rw[ZA]at yb px lz H7
    simp only[A1]at h1
    have qV: ∀b,fL v=some b→ ∀i e',H i=some e'→e'.mut→fL (ν i)≠some b:=by
     intro b hb i e' hi jQ eY
     have lT:b∈(fL v).toList++bF ms J4 ps:=cU _ (by rw[hb];simp)
     rcases hold i e' b hi jQ eY with⟨h3,h4⟩|h3
     ·exact(px b lT).elim (λh'=>ω) h4
     ·exact mz yb h3 lT
    have yn:=Mem.yp (c:=c) hm (id:=id) (v:=v) (e:= .obj τ (s4 x)) (λe' wc=>by rw[Hw]at wc;cases wc) h1 qV (λb hb=>lz b (cU _ (by rw[hb];simp))) (λb e0 l0 he _=>by cases he) (.inl Hw)
    have EX: ∀q∈io,q.1≠id:=λq hq e=>by
     have h9:=Br q hq
     rw[e,Hw]at h9;cases h9
    have ZB: ∀i,i≠id→dg ν id v i=ν i:=λi hi=>by simp[dg,hi]
    obtain⟨ν',r1,r2,r3,r4,r5,r6⟩:=oa (ms:=ms) (x:=ya x) (us:=J4) (ps:=ps) (id:=id+1) (io:=io) (used:=used++(fL v).toList) yn h2
     (by rw[J2];exact qz λq hq=>(ZB _ (EX q hq)).symm) (by simpa [m8]using EO) Dp
     (λq hq=>by rw[az _ _ (EX q hq)];exact Br q hq)
     (λi h3 h4=>by rw[az _ _ ω];exact jr i ω (by simp only[aR];omega))
     (λi e b hi jQ hb=>by
      by_cases bY:i=id
      ·subst bY
       have:dg ν i v i=v:=by simp[dg]
       rw[this]at hb
       exact .inr (dA _ (by rw[hb];simp))
      ·rw[az _ _ bY]at hi
       rw[ZB i bY]at hb
       exact(hold i e b hi jQ hb).imp (λh=>h) (cU _))
     (by rw[bt];exact yb) (λb hb=>px b (dA _ hb)) (λb hb=>lz b (dA _ hb)) (λb hb=>H7 b (dA _ hb)) (λq hq e he b hb=>xZ q hq e he b (by rw[ZB _ (EX q hq)]at hb;exact hb))
    have ahi:id∉keys io:=λhk=>by
     obtain⟨q,hq,Bs⟩:=cA.1 hk
     exact EX q hq Bs
    have pY:c4 (bZ H id (some (.obj τ (s4 x)))) (jP ms (ya x) (id+1) io).2.1 id=some (.obj τ (s4 x)):=by
     rw[r4 id ahi (.inl ω),ax]
    refine⟨ν',r1,?_,λi hi=> ?_,λi h3 h4=> ?_,λi h3 h4 e he=> ?_,r6⟩
    ·simp only[JN,jq,VR]
     refine⟨⟨_,pY,trivial,?_⟩,r2⟩
     simp only[A1,ER]at h1
     obtain⟨b,cs,t,VL,_⟩:=h1
     exact⟨b,by rw[r3 id (by rw[ax];simp)];simp[dg,VL],VL⟩
    ·have bY:i≠id:=λe=>hi (e▸Hw)
     rw[r3 i (by rw[az _ _ bY];exact hi),ZB i bY]
    ·have bY:i≠id:=by simp only[aR]at h4;omega
     have:=r4 i h3 (by simp only[aR]at h4;omega)
     rw[az _ _ bY]at this
     exact this
    ·by_cases h5:id+1≤i
     ·exact r5 i h5 (by simp only[aR]at h4;omega) e he
     ·have bY:i=id:=ω
      subst bY
      have he:c4 (bZ H i (some (.obj τ (s4 x)))) (jP ms (ya x) (i+1) io).2.1 i=some e:=he
      rw[pY]at he;cases he
      exact .inr ⟨τ,_,rfl⟩
end VM
end
section
namespace VM
open Go
variable{P:Program}{E:Env}{o:Oper}{a:Act}{w:World}{M:Nat→Prop}{ν:Nat→Value}{σ:St}{c:Ctx}{α:Type}{r:α}{next:Act→World→Prop}{Q:Exit→Act→World→Prop}
theorem MG{i:Nat}: ∀{ups:iX} {H:Nat→Option bg},i∈keys ups→ ∃u∈ups,u.1=i∧c4 H ups i=u.2
 |[],_,h=>by simp[keys]at h
 |u::r,H,h=>by
  by_cases hk:i∈keys r
  ·obtain⟨v,h1,h2,h3⟩:=MG (H:=bZ H u.1 u.2) hk
   exact⟨v,aZ _ h1,h2,h3⟩
  ·have hi:i=u.1:=by
    simp only[keys,bX,aW]at h hk
    exact h.resolve_right hk
   refine⟨u,bm,hi.symm,?_⟩
   show c4 (bZ H u.1 u.2) r i=_
   rw[ly hk,hi,ax]
theorem EY: ∀{ups:iX} {H H':Nat→Option bg},(∀i,i∉keys ups→H i=H' i)→c4 H ups=c4 H' ups
 |[],H,H',h=>funext λi=>h i (by simp[keys])
 |u::r,H,H',h=>by
  refine EY (ups:=r) λi hi=> ?_
  by_cases hu:i=u.1
  ·subst hu;rw[ax,ax]
  ·rw[az _ _ hu,az _ _ hu]
   exact h i (by simp only[keys,bX,aW,not_or];exact⟨hu,hi⟩)
theorem ER.len{v:Value}{e:Ty}{l:List e.den}(h:ER w M v (.own e l)): ∃ad cap,v= .slice ad l.length cap:=by
 simp only[ER]at h
 rcases h with⟨rfl,ad,rfl⟩|⟨b,cs,t,cap,h1,_⟩
 ·exact⟨ad,0,rfl⟩
 ·exact⟨_,cap,h1⟩
theorem RR.qW: ∀{ms:List AM} {x:HP ms} {us ps:List Value},RR w M ms x us ps→ ∀b∈bF ms us ps,M b
 |[],_,_,_,_,b,hb=>by simp[bF]at hb
 |m::ms,x,us,ps,h,b,hb=>by
  simp only[RR]at h
  rcases h with⟨p,Ha,h1,rfl,h2,h3⟩|⟨v,J4,h1,h2,rfl,h3,h4⟩
  ·simp only[bF,h1,gB,s9,tb,a8]at hb
   rcases hb with hb|hb
   ·cases m<;>simp[AM.iE]at h1<;>(simp only[c9,fg,A1]at hb h2;exact h2.xV trivial hb)
   ·exact RR.qW h3 b hb
  ·simp only[bF,h1,iY,eT,s9,tb,a8]at hb
   rcases hb with hb|hb
   ·cases m with
    |own e=>
     simp only[c9,fg,A1]at hb h3
     exact h3.xV trivial hb
    |v _=>simp[c9]at hb
    |io _=>simp[AM.iE]at h1
    |lo _=>simp[AM.iE]at h1
    |fn _ _=>simp[c9]at hb
    |jn _=>simp[c9]at hb
    |ptr τ=>
     simp only[c9,fg,A1]at hb h3
     exact h3.xV trivial hb
   ·exact RR.qW h4 b hb
theorem Ih: ∀{l:List lW} {pW:List bD} {S:lW},Mm l pW=some S→S∈l
 |[],_,_,h=>by simp[Mm]at h
 |T::l,pW,S,h=>by
  unfold Mm at h
  cases hf:fits T.args pW
  ·rw[hf]at h;exact aZ _ (Ih h)
  ·rw[hf]at h;cases h;exact bm
theorem Cv{H:Nat→Option bg}{id:Nat}: ∀{n:Nat},ud H id n=true→ ∀i,id≤i→i<id+n→H i=none
 |0,_,i,h1,h2=>ω
 |n+1,h,i,h1,h2=>by
  unfold ud at h
  rw[bQ]at h
  by_cases hi:i=id+n
  ·subst hi
   have h:=h.1
   split at h
   ·assumption
   ·cases h
  ·exact Cv h.2 i h1 ω
theorem VN{H:Nat→Option bg}{pW:List bD}{us:List Value}(h:jq w M H ν pW us):VR w M H ν (Mk pW) (wo us):=by
 match pW,us,h with
 |[],[],_=>simp[Mk,VR]
 |[a],[u],h=>simp only[jq,eS]at h;simpa [Mk,wo]using h
 |a::b::pW,u::v::us,h=>
  simp only[Mk,VR]
  exact⟨u::v::us,by simp[wo],h⟩
 |[],_::_,h=>simp[jq]at h
 |_::_,[],h=>simp[jq]at h
 |[_],_::_::_,h=>simp[jq]at h
 |_::_::_,[_],h=>simp[jq]at h
theorem MH(hΓ: ∀f S,S∈E.Γ f→iF P f S){H:Nat→Option bg}(hm:Mem c H w M ν){f id:Nat}{pW:List bD}{vs:List Value}(hv:jq w M H ν pW vs){K:jb α}(h:Ci E f pW id H K=some r)
  {R:Value→World→Prop} (hR: ∀v rd ups v' w' M' ν',K v rd ups=some r→Tr c H w M ν (c4 H ups) w' M' ν'→VR w' M' (c4 H ups) ν' v v'→R v' w'):
  MD P f vs.toArray w R:=by
 unfold Ci at h
 split at h
 ·cases h
 rename_i S hS
 have hok:=hΓ f S (Ih hS)
 obtain⟨x,rd,uo,uf,io,H2,Hq,M2,h1,hA,hK,alQ,Zy,Vd⟩:=Cu (jI.start hm) hv h
 clear h
 simp only[cJ,ja]at hA Zy Vd
 obtain⟨y,hy,h1⟩:=s7.1 h1
 obtain⟨jr,h1⟩:=cy h1
 have jr:=Cv jr
 have aq5:(λb=>(M2 b∧b∉dO S.args vs)∨b∈dO S.args vs)=M2:=by
  funext b
  refine propext ⟨λh=>h.elim (·.1) (hA.hM b),λh=> ?_⟩
  by_cases hb:b∈dO S.args vs
  ·exact .inr hb
  ·exact .inl ⟨h,hb⟩
 refine MD.mono (hok.call (λb=>M2 b∧b∉dO S.args vs) w vs x y (λb hb=>hA.mem.EH b hb.1) (by rw[aq5];exact alQ) hA.nd (λb hb h=>h.2 hb) hy) ?_
 rintro e w' ⟨us,M',rfl,Ve,hL,yb,hn0⟩
 have aq6: ∀b∈dO S.args vs,c.M0 b→M' b:=by
  intro b hb h0
  obtain⟨q,hq,hqb⟩:=hA.iob b hb h0
  exact Ve.qW b (Ve.J5 (ν q.1) (by rw[←Zy];exact eL hq) b hqb)
 have px: ∀b∈bF S.res us (fm S.args vs),w.heap.size≤b∨b∈dO S.args vs:=by
  intro b hb
  rcases oU b w.heap.size with e9|Y1
  ·exact .inr ((hL.less b e9 (Ve.qW b hb)).resolve_left (hn0 b hb))
  ·exact .inl Y1
 have lz: ∀b∈bF S.res us (fm S.args vs),c.B≤b∨c.may b:=λb hb=>(px b hb).elim (λh=> .inl (cm hm.size h)) (hA.MF b)
 have H7: ∀b∈bF S.res us (fm S.args vs),c.M0 b→ ∃p∈fm S.args vs,fL p=some b:=by
  intro b hb h0
  rcases px b hb with h'|h'
  ·have:=hm.vu.1 b h0;have:=hm.size;omega
  ·obtain⟨q,hq,hqb⟩:=hA.iob b h' h0
   exact⟨ν q.1,by rw[←Zy];exact eL hq,hqb⟩
 have aq8: ∀q∈io,∀e,q.2=AM.lo e→ ∀b,fL (ν q.1)=some b→ ¬c.M0 b:=by
  intro q hq e he b hb
  rcases(hA.Tc q hq).2.2 with⟨τ0,z0,xu,_⟩|⟨e0,z0,xu,PM⟩
  ·rw[he]at xu;cases xu
  ·exact hm.yD q.1 e0 z0 b PM hb
 have key: ∀(Hx:Nat→Option bg) (Mx:Nat→Prop) (U:iX),Mem c Hx w Mx ν→e8 w M w Mx→(∀b,M2 b→Mx b)→(∀b∈dO S.args vs,∀i e,Hx i=some e→e.mut→fL (ν i)≠some b)→
   (∀q∈io,Hx q.1=some .gone)→(∀i,i∉keys io→c4 H (uo++U) i=Hx i)→(∀u∈uo++U,u.2=some .gone∨ ∃e l,u.2=some (.oH e l)∧H u.1=some (.own e l))→(∀i∈keys (uo++U),i∈keys (uo++uf))→
   RR w' (λb=>M' b∨(Mx b∧b∉dO S.args vs)) S.res y us (fm S.args vs)→
   ∃ν',Tr c H w M ν (c4 H (uo++U++(jP S.res y id io).2.1)) w' (λb=>M' b∨(Mx b∧b∉dO S.args vs)) ν'∧
    jq w' (λb=>M' b∨(Mx b∧b∉dO S.args vs)) (c4 H (uo++U++(jP S.res y id io).2.1)) ν' (jP S.res y id io).1 us:=by
  intro Hx Mx U LB hkx Te vD MI ahj J7 hU hrr
  obtain⟨lq,Ii⟩:=LB.call (λb hb=>Te b hb.1) (λb hb=>Te b (hA.hM b hb)) vD hA.MF aq6 hL
  have hx: ∀i e,H i=some e→i∉keys io→ ∃e',Hx i=some e'∧e.ll e':=by
   intro i e hi EZ
   rw[←ahj i EZ]
   by_cases hk:i∈keys (uo++U)
   ·obtain⟨u,hu,hui,huv⟩:=MG (H:=H) hk
    rw[huv]
    rcases J7 u hu with h'|⟨e1,l1,h',J6⟩
    ·exact⟨_,h',bg.kK e⟩
    ·rw[hui,hi]at J6;cases J6;exact⟨_,h',rfl,rfl⟩
   ·rw[ly hk];exact⟨e,hi,.refl e⟩
  have VO: ∀i,id≤i→i<id+S.res.length→Hx i=none:=by
   intro i h3 h4
   have h0:=jr i h3 h4
   have EZ:i∉keys io:=λhk=>by
    obtain⟨q,hq,Bs⟩:=cA.1 hk
    obtain⟨_,_,hz⟩:=hA.Tc q hq
    exact hz.some (by rw[Bs];exact h0)
   rw[←ahj i EZ]
   rw[ly,h0]
   intro hk
   obtain⟨_,e,l,h'⟩:=hA.ksn i (hU i hk)
   rw[h0]at h';cases h'
  obtain⟨ν',r1,r2,r3,r4,r5,r6⟩:=oa (hs:=dO S.args vs) (sz:=w.heap.size) (id:=id) (used:=[]) lq hrr Zy.symm (by rw[←hok.ios,←Vd]) hA.ion MI VO
   (λi e b hi hmu hb=> .inl ⟨LB.EH b ((LB.kZ i e hi).xV hmu hb),λhh=>vD b hh i e hi hmu hb⟩) (by simpa using yb) px lz H7 aq8
  have ahk:c4 H (uo++U++(jP S.res y id io).2.1)=c4 Hx (jP S.res y id io).2.1:=by
   rw[gr]
   refine EY λi hi=> ?_
   by_cases EZ:i∈keys io
   ·obtain⟨q,hq,Bs⟩:=cA.1 EZ
    rcases r6 q hq with⟨τ,z,_,hz⟩|⟨e,z,_,hz⟩
    ·rw[Bs,ly hi,←Bs,MI q hq]at hz;cases hz
    ·rw[Bs,ly hi,←Bs,MI q hq]at hz;cases hz
   ·exact ahj i EZ
  refine⟨ν',⟨by rw[ahk];exact r1,hkx.trans Ii,⟨λi e hi=> ?_,λi hi=> ?_⟩⟩,by rw[ahk];exact r2⟩
  ·rw[ahk]
   by_cases EZ:i∈keys io
   ·obtain⟨q,hq,Bs⟩:=cA.1 EZ
    obtain⟨_,_,hg0⟩:=hA.Tc q hq
    rcases r6 q hq with⟨τ,z,YU,hz⟩|⟨e2,z,YU,hz⟩
    ·rcases hg0 with⟨τ0,z0,xu,PM⟩|⟨e0,z0,xu,PM⟩
     ·rw[YU]at xu;cases xu
      rw[Bs]at hz PM
      rw[hi]at PM;cases PM
      exact⟨_,hz,rfl⟩
     ·rw[YU]at xu;cases xu
    ·rcases hg0 with⟨τ0,z0,xu,PM⟩|⟨e0,z0,xu,PM⟩
     ·rw[YU]at xu;cases xu
     ·rw[YU]at xu;cases xu
      rw[Bs]at hz PM
      rw[hi]at PM;cases PM
      refine⟨_,hz,rfl,?_⟩
      obtain⟨a1,c1,k1⟩:=ER.len (hm.kZ i _ hi)
      obtain⟨a2,c2,k2⟩:=ER.len (r1.kZ i _ hz)
      rw[r3 i (by rw[←Bs,MI q hq];simp),k1]at k2
      simp only[Value.slice.injEq]at k2
      exact k2.2.1
   ·obtain⟨e',wc,hl⟩:=hx i e hi EZ
    have hr:i<id∨id+S.res.length≤i:=by
     rcases oU i id with h'|h'
     ·exact .inl h'
     ·rcases oU i (id+S.res.length)with J6|J6
      ·rw[jr i h' J6]at hi;cases hi
      ·exact .inr J6
    exact⟨e',by rw[r4 i EZ hr];exact wc,hl⟩
  ·refine r3 i ?_
   obtain⟨e,he⟩:=Ec.1 hi
   by_cases EZ:i∈keys io
   ·obtain⟨q,hq,Bs⟩:=cA.1 EZ
    rw[←Bs,MI q hq];simp
   ·obtain⟨e',wc,_⟩:=hx i e he EZ
    rw[wc];simp
 cases hq:S.quiet
 ·
  rw[hq]at h1
  have hMn:(λb=>M' b∨(M2 b∧b∉dO S.args vs))=M':=by
   funext b
   exact propext ⟨λh=>h.elim (λh=>h) (hL.sub b),.inl⟩
  obtain⟨ν',il,hvr⟩:=key H2 M2 uf hA.mem hA.ca (λ_ h=>h) (λb hb i e hi hmu=>hA.none b hb i e (hA.fz.mut hi hmu) hmu) (λq hq=>(hA.Tc q hq).1) hA.ext
   (λu hu=>(a8.1 hu).elim (λh=> .inl (hA.uov u h)) (λh=> .inr (hA.ufv u h))) (λ_ h=>h) (by rw[hMn];exact Ve)
  exact hR _ _ _ _ _ _ _ h1 il (VN hvr)
 ·rw[hq]at h1
  have Te: ∀b,M2 b→M b:=λb hb=>hA.ca.less b (hA.mem.EH b hb) hb
  obtain⟨ν',il,hvr⟩:=key Hq M [] hA.ME (.refl w M) Te hA.none (λq hq=>(hA.Tc q hq).2.1) (by rw[ch];exact hA.VK)
   (λu hu=> .inl (hA.uov u (by simpa using hu))) (λi hi=>by simp only[keys,ch,cY,a8]at hi ⊢;exact .inl hi) (Ve.flat (λb h=> .inl h) (hok.quiet hq))
  exact hR _ _ _ _ _ _ _ h1 il (VN hvr)
theorem ZC(hΓ: ∀f S,S∈E.Γ f→iF P f S)(hc:Core c σ a.tmps w M ν){args:Array Operand}{ts:Array TypeId}{g:Operand}(ho:o.op= .call {callee:= .value g,args,argTypes:=ts}){K:jb α}{f:Nat}{caps:List bD}(hg:σ.ρ g= .Mf f caps){id:Nat}
  (h:Ci E f (args.toList.map σ.ρ ++caps) id σ.H K=some r) (hn:gd c σ a o w M ν K r next):o.wp P a w next Q:=by
 have hgv:=hc.ev g
 rw[hg]at hgv
 simp only[VR]at hgv
 obtain⟨cs,hgv,JV⟩:=hgv
 have MJ: ∀{as1:List bD} {VP:List Value},jq w M σ.H ν as1 VP→jq w M σ.H ν (as1++caps) (VP++cs):=by
  intro as1
  induction as1 with
  |nil=>intro VP h1;cases VP with
   |nil=>exact JV
   |cons _ _=>simp[jq]at h1
  |cons x as1 ih=>intro VP h1;cases VP with
   |nil=>simp[jq]at h1
   |cons v VP=>simp only[jq]at h1;simp only[kF,jq];exact⟨h1.1,ih h1.2⟩
 have hd:=MH (P:=P) hΓ hc.mem (MJ (hc.evs args.toList)) h (R:=λv' w'=>next (a.put o.dst v') w') (λv rd ups v' w' M' ν' h1 h2 h3=>hn v rd ups v' w' M' ν' h1 h2 h3)
 have hex:(execOp a.eval o).run P w=(callFunc f (args.toList.map a.eval++cs).toArray).run P w:=by
  have:(args.toList.map a.eval++cs).toArray= #[]++args.map a.eval++cs.toArray:=by apply jo;simp
  rw[this]
  simp[execOp,ho,resolve,hgv,Deferred.ofValue,invoke]
 unfold Oper.wp
 rw[hex]
 exact hd o a next Q λv w' hv=>hv
end VM
end
section
namespace VM
open Go
variable{P:Program}{E:Env}{o:Oper}{a:Act}{w:World}{M:Nat→Prop}{ν:Nat→Value}{σ:St}{c:Ctx}{α:Type}{r:α}{next:Act→World→Prop}{Q:Exit→Act→World→Prop}
structure tx(P:Program)(E:Env):Prop extends EnvTy P E where
 alU: ∀f S,S∈E.Γ f→iF P f S
 mixed:P.follows .mixedOrders=true
 ka: ∀i L,E.vW i=some L→VM.ka L=true
 VQ: ∀i L,E.xT i=some L→VM.ka L=true
theorem Tf(hE:tx P E)(hc:Core c σ a.tmps w M ν){K:jb α}(h:sZ E o σ.ρ σ.H K=some r)(hn:gd c σ a o w M ν K r next):o.wp P a w next Q:=by
 have hT:=hE.toEnvTy
 unfold sZ at h
 simp only at h
 split at h
 ·rename_i x ho;exact Ru hc (.inl ho) h hn
 ·rename_i x ho;exact Ru hc (.inr ho) h hn
 ·rename_i x y z ho
  split at h
  ·rename_i t hx;exact Zj hc ho hx h hn
  ·cases h
 ·rename_i t ho
  split at h
  ·rename_i τ ht;exact Vu hT hc ho ht h hn
  ·cases h
 ·rename_i t x ho
  split at h
  ·rename_i τ ht;exact agV hT hc ho h hn
  ·cases h
 ·rename_i t ps ho
  split at h
  ·rename_i n e ht;exact J3 hT hc ho ht h hn
  ·rename_i τ hna ht;exact Dn hT hc ho ht (λn e he=>hna n e he) h hn
  ·cases h
 ·rename_i t n ps ho
  split at h
  ·rename_i e ht;exact Hp hT hc ho ht h hn
  ·cases h
 ·rename_i t x ho
  split at h
  ·rename_i τ ht;exact Zk hT hc ho ht h hn
  ·cases h
 ·rename_i t x y ho
  split at h
  ·rename_i τ ht;exact S7 hT hc ho ht h hn
  ·cases h
 ·rename_i x ho
  split at h
  ·rename_i id p hx;exact Dl hc ho hx h hn
  ·rename_i τ z hx;exact Bp hc ho hx h hn
  ·cases h
 ·rename_i b t x y t' ho;exact VB hT hc ho h hn
 ·rename_i u t x ho;exact Zq hc ho h hn
 ·rename_i s d x ho
  split at h
  ·rename_i τ k hs hd;exact P5 hT hc ho hs hd h hn
  ·cases h
 ·rename_i f first caps ho;exact Mw hc ho h hn
 ·rename_i t x y ho
  split at h
  ·rename_i e ht;exact JZ hT hc ho ht h hn
  ·cases h
 ·rename_i t x lo hi mx ho
  split at h
  ·rename_i τ ht;exact VH hT hc ho ht h hn
  ·cases h
 ·rename_i t x n ho
  split at h
  ·rename_i τ ht
   split at h
   ·rename_i id p hx;exact Bo hT hc ho ht hx h hn
   ·rename_i υ z hx;exact zZ hT hc ho ht hx h hn
   ·cases h
  ·cases h
 ·rename_i t x n ho
  split at h
  ·rename_i τ ht
   split at h
   ·rename_i υ z hx;exact Vz hT hc ho ht hx h hn
   ·cases h
  ·cases h
 ·rename_i t x i ho
  split at h
  ·rename_i τ ht;exact JX hT hc ho ht h hn
  ·cases h
 ·rename_i t x i ho
  split at h
  ·rename_i τ ht;exact VF hT hc ho ht h hn
  ·cases h
 ·rename_i x i ho
  split at h
  ·rename_i vs hx
   split at h
   ·rename_i v hv;exact P3 hc ho hx hv h hn
   ·cases h
  ·cases h
 ·rename_i cl ho
  obtain⟨callee,args,ts⟩:=cl
  simp only at h
  split at h
  ·split at h
   ·rename_i x τ ha ht;exact ag1 hT hc ho ha ht h hn
   ·cases h
  ·split at h
   ·rename_i x y t t' ha ht
    split at h
    ·rename_i e hte;exact Tb hT hc ho ha ht hte h hn
    ·cases h
   ·cases h
  ·split at h
   ·rename_i x xs ha;exact afM hc true ho ha h hn
   ·cases h
  ·split at h
   ·rename_i x xs ha;exact afM hc false ho ha h hn
   ·cases h
  ·rename_i g
   split at h
   ·rename_i f caps hg;exact ZC hE.alU hc ho hg h hn
   ·cases h
  ·cases h
 ·cases h
end VM
end
section
namespace VM
open Go
variable{P:Program}{E:Env}{o:Oper}{a:Act}{w:World}{M:Nat→Prop}{ν:Nat→Value}{σ:St}{c:Ctx}{α:Type}{r:α}{next:Act→World→Prop}{Q:Exit→Act→World→Prop}
theorem uj(σ:St)(d:Nat)(v:bD):(σ.put d v).T d=v:=by
 show cond (Nat.beq d d) v (σ.T d)=v
 rw[show Nat.beq d d=true from tf d];rfl
theorem Ab(σ:St){d i:Nat}(v:bD)(h:i≠d):(σ.put d v).T i=σ.T i:=by
 show cond (Nat.beq i d) v (σ.T i)=σ.T i
 have:Nat.beq i d=false:=by rw[←mV,vT];exact h
 rw[this];rfl
theorem av5(σ:St)(d:Nat)(v:bD):(σ.put d v).H=σ.H:=rfl
theorem E0(σ:St)(d:Nat):σ.put d (σ.T d)=σ:=by
 obtain⟨T,H⟩:=σ
 unfold St.put
 congr 1
 funext i
 by_cases h:i=d
 ·subst h;show cond (Nat.beq i i) (T i) (T i)=T i;cases Nat.beq i i<;>rfl
 ·have:Nat.beq i d=false:=by rw[←mV,vT];exact h
  rw[this];rfl
theorem Core.tr{tm:Array Value}(h:Core c σ tm w M ν){H':Nat→Option bg}{w':World}{M':Nat→Prop}{ν':Nat→Value}(t:Tr c σ.H w M ν H' w' M' ν'):Core c ⟨σ.T,H'⟩ tm w' M' ν':=
 ⟨t.mem,λi=>VR.ca t.ca t.goes (h.tmp i)⟩
theorem Core.vo{tm:Array Value}(h:Core c σ tm w M ν){d:Option Nat}{x:bD}{v:Value}{io:List Nat}(hd:Mg tm.size io d=true)(hx:VR w M σ.H ν x v)(ds:List Deferred):
  Core c (σ.vo d x) (({tmps:=tm,defers:=ds}:Act).put d v).tmps w M ν:=by
 cases d with
 |none=>exact h
 |some d=>
  have e9:d<tm.size:=by simp only[Mg,bQ,zI]at hd;exact hd.1
  refine⟨h.mem,λi=> ?_⟩
  show VR w M σ.H ν ((σ.put d x).T i) ((tm.setIfInBounds d v).getD i undef)
  by_cases hi:i=d
  ·subst hi
   rw[uj]
   simp[Array.getD,e9]
   exact hx
  ·rw[Ab _ _ hi]
   have:=h.tmp i
   have he:(tm.setIfInBounds d v).getD i undef=tm.getD i undef:=by
    rw[se,se,LK (eH hi)]
   rw[he];exact this
def Inv(c:Ctx)(E:Env)(σ:St)(a:Act)(w:World):Prop:=(∃M ν,Core c σ a.tmps w M ν)∧a.tmps.size=E.nt∧a.defers=[]∧ ∀i∈E.io,a.tmps.getD i undef=c.arg i
theorem MK(a:Act)(d:Option Nat)(v:Value):(a.put d v).tmps.size=a.tmps.size:=by
 cases d<;>simp[Act.put]
theorem put_defers(a:Act)(d:Option Nat)(v:Value):(a.put d v).defers=a.defers:=by
 cases d<;>rfl
theorem RD{d:Option Nat}{v:Value}{io:List Nat}{n:Nat}(hd:Mg n io d=true){i:Nat}(hi:i∈io):(a.put d v).tmps.getD i undef=a.tmps.getD i undef:=by
 cases d with
 |none=>rfl
 |some d=>
  simp only[Mg,bQ,qD]at hd
  have h1:=hd.2 i hi
  have jy:i≠d:=by
   intro e;subst e
   simp at h1
  show(a.tmps.setIfInBounds d v).getD i undef=_
  rw[se,se,LK (eH jy)]
theorem Inv.bool(h:Inv c E σ a w){x:Operand}{b:Bool}(hx:σ.ρ x= .val .bool b):a.eval x= .bool b:=by
 obtain⟨⟨M,ν,hc⟩,_,_,_⟩:=h
 have:=hc.ev x
 rw[hx]at this
 exact this.bool
theorem Cw(hE:tx P E){ops:Array Oper}(hI:Inv c E σ a w){K:St→List Nat→List Nat→Option α}(h:ti E ops.toList o σ K=some r)
  (hn: ∀σ' a' w' rd wr,K σ' rd wr=some r→Inv c E σ' a' w'→next a' w'):
  if Region.wanted o (yielded ops a.tmps)then o.wp P a w next Q else next (a.put o.dst undef) w:=by
 unfold ti at h
 obtain⟨hd,h⟩:=cy h
 have dE:sZ E o σ.ρ σ.H (λv rd ups=>K ((σ.vU ups).vo o.dst v) rd (ups.map (·.1)))=some r→o.wp P a w next Q:=by
  intro h
  obtain⟨⟨M,ν,hc⟩,hs,ahl,yc⟩:=hI
  refine Tf hE hc h λv rd ups v' w' M' ν' hK il hV=> ?_
  refine hn _ _ _ _ _ hK ⟨⟨M',ν',?_⟩,by rw[MK,hs],by rw[put_defers,ahl],λi hi=>(RD hd hi).trans (yc i hi)⟩
  have h1:=hc.tr il
  have h2:σ.vU ups=⟨σ.T,c4 σ.H ups⟩:=by rw[←P0,←P1 ups σ]
  rw[h2]
  exact h1.vo (by rw[hs];exact hd) hV a.defers
 have ss: ∀rd wr,K (σ.vo o.dst .Vp) rd wr=some r→next (a.put o.dst undef) w:=by
  intro rd wr h
  obtain⟨⟨M,ν,hc⟩,hs,ahl,yc⟩:=hI
  refine hn _ _ _ _ _ h ⟨⟨M,ν,hc.vo (by rw[hs];exact hd) (by simp[VR]) a.defers⟩,by rw[MK,hs],by rw[put_defers,ahl],λi hi=>(RD hd hi).trans (yc i hi)⟩
 simp only at h
 split at h
 ·rename_i hg
  have:Region.wanted o (yielded ops a.tmps)=true:=by simp[Region.wanted,hg]
  rw[aj this]
  exact dE h
 ·rename_i j want hg
  split at h
  ·cases h
  ·rename_i t ht
   have ht':(ops[j]?).bind (·.dst)=some t:=by rw[←gR];exact ht
   have hy: ∀b,σ.T t= .val .bool b→yielded ops a.tmps j=some b:=by
    intro b hb
    obtain⟨⟨M,ν,hc⟩,hs,_,_⟩:=hI
    have h1:=hc.tmp t
    rw[hb]at h1
    have h1:=h1.bool
    have h2:a.tmps[t]? =some (.bool b):=by
     rw[se]at h1
     cases h3:a.tmps[t]? with
     |none=>rw[h3]at h1;simp[undef]at h1
     |some v=>rw[h3]at h1;simpa using h1
    simp[yielded,ht',h2]
   split at h
   ·rename_i b hb
    have pO:σ.put t (.val .bool b)=σ:=by rw[←hb];exact E0 σ t
    have hw:=hy b hb
    cases want<;>cases b
    ·rw[aj (by simp[Region.wanted,hg,hw])]
     rw[pO]at h;exact dE h
    ·rw[ah (by simp[Region.wanted,hg,hw])]
     rw[pO]at h;exact ss _ _ h
    ·rw[ah (by simp[Region.wanted,hg,hw])]
     rw[pO]at h;exact ss _ _ h
    ·rw[aj (by simp[Region.wanted,hg,hw])]
     rw[pO]at h;exact dE h
   ·rename_i hb
    have zX: ¬Region.wanted o (yielded ops a.tmps)=true:=by
     obtain⟨⟨M,ν,hc⟩,hs,_,_⟩:=hI
     have h1:=hc.tmp t
     rw[hb]at h1
     simp only[VR]at h1
     have h2: ∀b,a.tmps[t]? ≠some (.bool b):=by
      intro b eY
      rw[se,eY]at h1
      simp[undef]at h1
     have h3:yielded ops a.tmps j=none:=by
      unfold yielded
      rw[ht']
      show(match a.tmps[t]? with|some (.bool b)=>some b|_=>none)=none
      split
      ·rename_i b eY;exact absurd eY (h2 b)
      ·rfl
     simp[Region.wanted,hg,h3]
    rw[ah zX]
    exact ss _ _ h
   ·cases h
theorem E1(hE:tx P E){ops:Array Oper}: ∀(l:List Oper) (i:Nat) (σ:St) (lg:Log) (a:Act) (w:World) (K:St→Log→Option α),Inv c E σ a w→SY E ops.toList l i σ lg K=some r→
  (∀σ' lg' a' w',K σ' lg'=some r→Inv c E σ' a' w'→Q .normal a' w')→wpList P ops Q l a w
 |[],i,σ,lg,a,w,K,hI,h,hn=>hn _ _ _ _ h hI
 |o::l,i,σ,lg,a,w,K,hI,h,hn=>by
  unfold SY at h
  refine wpList_step λK' hK'=> ?_
  exact Cw hE hI h fun σ' a' w' rd wr h' yq=>hK' _ _ (E1 hE l (i+1) σ' _ a' w' K yq h' hn)
theorem ML(hI:Inv c E σ a w){x:Operand}{A B:St→Option α}(h:H5 E x σ A B=some r): ∃b,a.eval x= .bool b∧(if b then A σ else B σ)=some r:=by
 unfold H5 at h
 split at h
 ·rename_i b hb
  refine⟨b,hI.bool hb,?_⟩
  split at h
  ·rename_i t
   have hb:σ.T t= .val .bool b:=hb
   have pO:σ.put t (.val .bool b)=σ:=by rw[←hb];exact E0 σ t
   cases b
   ·rw[pO]at h;exact h
   ·rw[pO]at h;exact h
  ·cases b<;>exact h
 ·cases h
end VM
end
section
namespace VM
open Go
variable{P:Program}{E:Env}{o:Oper}{a:Act}{w:World}{M:Nat→Prop}{ν:Nat→Value}{σ:St}{c:Ctx}{α:Type}{r:α}{next:Act→World→Prop}{Q:Exit→Act→World→Prop}
def mix{β:Type}(A B:Nat→β):Nat→β:=λi=>if i%2=0 then A (i/2)else B (i/2)
theorem im{β:Type}(A B:Nat→β)(i:Nat):mix A B (2*i)=A i:=by
 unfold mix
 rw[aj ω,show 2*i/2=i from by omega]
theorem vg{β:Type}(A B:Nat→β)(i:Nat):mix A B (2*i+1)=B i:=by
 unfold mix
 rw[ah ω,show(2*i+1)/2=i from by omega]
theorem akX{β:Type}{A B A' B':Nat→β}(hl: ∀i,A i=A' i)(hr: ∀i,B i=B' i):mix A B=mix A' B':=by
 funext i;unfold mix;rw[hl,hr]
def bg.re(f:Nat→Nat):bg→bg
 | .gh τ x p j=> .gh τ x p (f j)
 |e=>e
theorem ER.re{v:Value}{f:Nat→Nat}{e:bg}:ER w M v (e.re f)↔ER w M v e:=by cases e<;>simp[bg.re,ER]
theorem bg.qX{f:Nat→Nat}{e:bg}:(e.re f).mut↔e.mut:=by cases e<;>simp[bg.re,bg.mut]
theorem bg.RE{f g:Nat→Nat}{e e':bg}:(e.re f).ll (e'.re g)↔e.ll e':=by cases e<;>cases e'<;>simp[bg.re,bg.ll]
def ml(i:Nat):Nat:=2*i
def mr(i:Nat):Nat:=2*i+1
def jc(A B:Nat→Option bg):Nat→Option bg:=λi=>if i%2=0 then(A (i/2)).map (bg.re ml)else(B (i/2)).map (bg.re mr)
theorem yJ(A B:Nat→Option bg)(i:Nat):jc A B (2*i)=(A i).map (bg.re ml):=by
 unfold jc
 rw[aj ω,show 2*i/2=i from by omega]
theorem uk(A B:Nat→Option bg)(i:Nat):jc A B (2*i+1)=(B i).map (bg.re mr):=by
 unfold jc
 rw[ah ω,show(2*i+1)/2=i from by omega]
theorem iz{A B:Nat→Option bg}{i:Nat}{e:bg}(h:A i=some e):jc A B (2*i)=some (e.re ml):=by rw[yJ,h];rfl
theorem um{A B:Nat→Option bg}{i:Nat}{e:bg}(h:B i=some e):jc A B (2*i+1)=some (e.re mr):=by rw[uk,h];rfl
theorem J8{A B:Nat→Option bg}{i:Nat}:jc A B (2*i)≠none↔A i≠none:=by rw[yJ];cases A i<;>simp
theorem J9{A B:Nat→Option bg}{i:Nat}:jc A B (2*i+1)≠none↔B i≠none:=by rw[uk];cases B i<;>simp
theorem qY(A B:Nat→Option bg)(i:Nat)(v:Option bg):bZ (jc A B) (2*i) (v.map (bg.re ml))=jc (bZ A i v) B:=by
 funext k
 by_cases hk:k=2*i
 ·subst hk;rw[ax,yJ,ax]
 ·rw[az _ _ hk]
  unfold jc
  by_cases h2:k%2=0
  ·rw[aj h2,aj h2,az _ _ ω]
  ·rw[ah h2,ah h2]
theorem E2(A B:Nat→Option bg)(i:Nat)(v:Option bg):bZ (jc A B) (2*i+1) (v.map (bg.re mr))=jc A (bZ B i v):=by
 funext k
 by_cases hk:k=2*i+1
 ·subst hk;rw[ax,uk,ax]
 ·rw[az _ _ hk]
  unfold jc
  by_cases h2:k%2=0
  ·rw[aj h2,aj h2]
  ·rw[ah h2,ah h2,az _ _ ω]
theorem E3(A B:Nat→Value)(i:Nat)(v:Value):dg (mix A B) (2*i+1) v=mix A (dg B i v):=by
 funext k
 unfold dg mix
 by_cases hk:k=2*i+1
 ·subst hk;rw[aj rfl,ah ω]
  show v=if(2*i+1)/2=i then v else B ((2*i+1)/2)
  rw[aj ω]
 ·rw[ah hk]
  by_cases h2:k%2=0
  ·rw[aj h2,aj h2]
  ·rw[ah h2,ah h2]
   show B (k/2)=if k/2=i then v else B (k/2)
   rw[ah ω]
theorem Mem.left{H A:Nat→Option bg}{νA:Nat→Value}(h:Mem c (jc H A) w M (mix ν νA)):Mem c H w M ν:=
 ⟨λi e hi=>by have:=h.kZ (2*i) _ (iz hi);rw[im]at this;exact ER.re.1 this,
  λi j e e' b pN hi hm hj jQ=>by have:=h.zQ (2*i) (2*j) _ _ b ω (iz hi) (bg.qX.2 hm) (iz hj) (bg.qX.2 jQ);rwa [im,im]at this,
  λi e b hi hm=>by have:=h.new (2*i) _ b (iz hi) (bg.qX.2 hm);rwa [im]at this,
  λi e l b hi=>by have:=h.yD (2*i) e l b (iz hi);rwa [im]at this,
  λi τ x p j hi=>by
   obtain⟨h1,b,h2,h3⟩:=h.gh (2*i) τ x p (ml j) (iz hi)
   rw[im]at h2
   unfold ml at h1 h3
   rw[im]at h3
   exact⟨J8.1 h1,b,h2,h3⟩,
  h.sub,h.EH,h.frame,h.size,h.vu,h.os,h.tape,h.output⟩
theorem Mem.right{H A:Nat→Option bg}{νA:Nat→Value}(h:Mem c (jc H A) w M (mix ν νA)):Mem c A w M νA:=
 ⟨λi e hi=>by have:=h.kZ (2*i+1) _ (um hi);rw[vg]at this;exact ER.re.1 this,
  λi j e e' b pN hi hm hj jQ=>by have:=h.zQ (2*i+1) (2*j+1) _ _ b ω (um hi) (bg.qX.2 hm) (um hj) (bg.qX.2 jQ);rwa [vg,vg]at this,
  λi e b hi hm=>by have:=h.new (2*i+1) _ b (um hi) (bg.qX.2 hm);rwa [vg]at this,
  λi e l b hi=>by have:=h.yD (2*i+1) e l b (um hi);rwa [vg]at this,
  λi τ x p j hi=>by
   obtain⟨h1,b,h2,h3⟩:=h.gh (2*i+1) τ x p (mr j) (um hi)
   rw[vg]at h2
   unfold mr at h1 h3
   rw[vg]at h3
   exact⟨J9.1 h1,b,h2,h3⟩,
  h.sub,h.EH,h.frame,h.size,h.vu,h.os,h.tape,h.output⟩
theorem Mem.ZD{H:Nat→Option bg}(νA:Nat→Value)(h:Mem c H w M ν):Mem c (jc H (λ_=>none)) w M (mix ν νA):=by
 have key: ∀i e,jc H (λ_=>none) i=some e→ ∃j e0,i=2*j∧H j=some e0∧e=e0.re ml:=by
  intro i e hi
  unfold jc at hi
  by_cases h2:i%2=0
  ·rw[aj h2]at hi
   obtain⟨e0,h3,h4⟩:=zq.1 hi
   exact⟨i/2,e0,ω,h3,h4.symm⟩
  ·rw[ah h2]at hi;cases hi
 refine⟨λi e hi=> ?_,λi j e e' b pN hi hm hj jQ=> ?_,λi e b hi hm=> ?_,λi e l b hi=> ?_,λi τ x p j hi=> ?_,h.sub,h.EH,h.frame,h.size,h.vu,h.os,h.tape,h.output⟩
 ·obtain⟨j,e0,rfl,hj,rfl⟩:=key i e hi;rw[im];exact ER.re.2 (h.kZ j e0 hj)
 ·obtain⟨i',e1,rfl,m4,rfl⟩:=key i e hi;obtain⟨j',e2,rfl,Y2,rfl⟩:=key j e' hj
  rw[im,im];exact h.zQ i' j' e1 e2 b ω m4 (bg.qX.1 hm) Y2 (bg.qX.1 jQ)
 ·obtain⟨j,e0,rfl,hj,rfl⟩:=key i e hi;rw[im];exact h.new j e0 b hj (bg.qX.1 hm)
 ·obtain⟨j,e0,rfl,hj,he⟩:=key i _ hi
  cases e0<;>simp only[bg.re]at he<;>cases he
  rw[im];exact h.yD j e l b hj
 ·obtain⟨k,e0,rfl,hk,he⟩:=key i _ hi
  cases e0<;>simp only[bg.re]at he<;>cases he
  obtain⟨h1,b,h2,h3⟩:=h.gh k _ _ _ _ hk
  refine⟨J8.2 h1,b,by rw[im];exact h2,?_⟩
  unfold ml
  rw[im];exact h3
theorem sR.left{H A H' A':Nat→Option bg}{νA ν' Tg:Nat→Value}(g:sR (jc H A) (mix ν νA) (jc H' A') (mix ν' Tg)):sR H ν H' ν':=
 ⟨λi e hi=>by
   obtain⟨e',h1,h2⟩:=g.kZ (2*i) _ (iz hi)
   rw[yJ]at h1
   obtain⟨e0,h3,rfl⟩:=zq.1 h1
   exact⟨e0,h3,bg.RE.1 h2⟩,
  λi hi=>by have:=g.head (2*i) (J8.2 hi);rwa [im,im]at this⟩
theorem sR.right{H A H' A':Nat→Option bg}{νA ν' Tg:Nat→Value}(g:sR (jc H A) (mix ν νA) (jc H' A') (mix ν' Tg)):sR A νA A' Tg:=
 ⟨λi e hi=>by
   obtain⟨e',h1,h2⟩:=g.kZ (2*i+1) _ (um hi)
   rw[uk]at h1
   obtain⟨e0,h3,rfl⟩:=zq.1 h1
   exact⟨e0,h3,bg.RE.1 h2⟩,
  λi hi=>by have:=g.head (2*i+1) (J9.2 hi);rwa [vg,vg]at this⟩
theorem Mem.move{H A:Nat→Option bg}{νA:Nat→Value}(h:Mem c (jc H A) w M (mix ν νA)){i j:Nat}{e e1:bg}(hi:H i=some e)(hm:e.mut)(hj:A j=none)
  (P2:(e1=e∧ ∀τ x p k,e≠ .gh τ x p k)∨ ∃τ x p k k',e= .gh τ x p k∧e1= .gh τ x p k'∧A k'≠none∧νA k'=ν k):
  Tr c (jc H A) w M (mix ν νA) (jc (bZ H i (some .gone)) (bZ A j (some e1))) w M (mix ν (dg νA j (ν i))):=by
 have hg:=Tr.gone h (2*i)
 have hgo:(some bg.gone)=(some bg.gone).map (bg.re ml):=rfl
 rw[hgo,qY]at hg
 have Vd:=iz (B:=A) hi
 have hER:ER w M (ν i) (e1.re mr):=by
  have h1:=h.kZ (2*i) _ Vd
  rw[im]at h1
  have h1:=ER.re.1 h1
  rcases P2 with⟨rfl,_⟩|⟨τ,x,p,k,k',rfl,rfl,_,_⟩
  ·exact ER.re.2 h1
  ·exact h1
 have h2:=Mem.yp hg.mem (id:=2*j+1) (v:=ν i) (e:=e1.re mr) (λe' wc=>by rw[uk,hj]at wc;cases wc)
  hER
  (λb hb k e' hk jQ=>by
   by_cases Y0:k=2*i
   ·subst Y0;rw[yJ,ax]at hk;cases hk;simp[bg.re,bg.mut]at jQ
   ·have hk3:jc H A k=some e':=by
     have:=congrFun (qY H A i (some .gone)) k
     rw[az _ _ Y0]at this
     rw[this];exact hk
    have:=h.zQ (2*i) k _ e' b (eH Y0) Vd (bg.qX.2 hm) hk3 jQ
    rw[im]at this
    exact this hb)
  (λb hb=>by have:=h.new (2*i) _ b Vd (bg.qX.2 hm);rw[im]at this;exact this hb)
  (λb e0 l0 he hb=>by
   rcases P2 with⟨rfl,_⟩|⟨τ,x,p,k,k',rfl,rfl,_,_⟩
   ·cases e1<;>simp only[bg.re]at he<;>cases he
    have:=h.yD (2*i) e0 l0 b Vd;rw[im]at this;exact this hb
   ·simp[bg.re]at he)
  (.inl (by rw[uk,hj];rfl))
  (fun τ x p k he=>by
   rcases P2 with⟨rfl,hn⟩|⟨τ,x,p,k,k',rfl,rfl,hk,hνk⟩
   ·cases e1<;>simp only[bg.re]at he<;>cases he
    exact absurd rfl (hn _ _ _ _)
   ·simp only[bg.re]at he
    cases he
    obtain⟨_,b,h4,h5⟩:=h.gh (2*i) _ _ _ _ Vd
    rw[im]at h4
    have hkj:k'≠j:=λe=>hk (e▸hj)
    refine⟨?_,b,h4,?_⟩
    ·rw[az _ _ (by unfold mr;omega)]
     unfold mr
     exact J9.2 hk
    ·unfold ml at h5
     rw[im]at h5
     rw[h5,←hνk]
     have:dg (mix ν νA) (2*j+1) (ν i) (mr k')=mix ν νA (mr k'):=by
      unfold dg mr;rw[ah ω]
     rw[this];unfold mr;rw[vg])
 have ZE:some (e1.re mr)=(some e1).map (bg.re mr):=rfl
 rw[ZE,E2,E3]at h2
 refine⟨h2,.refl w M,⟨λk e' hk=> ?_,λk hk=> ?_⟩⟩
 ·by_cases h3:k%2=0
  ·obtain⟨k',rfl⟩: ∃k',k=2*k':=⟨k/2,ω⟩
   by_cases EZ:k'=i
   ·subst EZ;exact⟨.gone,by rw[yJ,ax];rfl,bg.kK _⟩
   ·exact⟨e',by rw[yJ]at hk ⊢;rw[az _ _ EZ];exact hk,.refl e'⟩
  ·obtain⟨k',rfl⟩: ∃k',k=2*k'+1:=⟨k/2,ω⟩
   rw[uk]at hk ⊢
   have EZ:k'≠j:=λe=>by rw[e,hj]at hk;cases hk
   exact⟨e',by rw[az _ _ EZ];exact hk,.refl e'⟩
 ·by_cases h3:k%2=0
  ·obtain⟨k',rfl⟩: ∃k',k=2*k':=⟨k/2,ω⟩
   rw[im,im]
  ·obtain⟨k',rfl⟩: ∃k',k=2*k'+1:=⟨k/2,ω⟩
   rw[vg,vg]
   have EZ:k'≠j:=λe=>by rw[uk,e,hj]at hk;exact hk rfl
   simp[dg,EZ]
theorem Mem.fresh{H A:Nat→Option bg}{νA:Nat→Value}(h:Mem c (jc H A) w M (mix ν νA)){j:Nat}(hj:A j=none)(e:Ty)(ad:Option Addr):
  Tr c (jc H A) w M (mix ν νA) (jc H (bZ A j (some (.own e [])))) w M (mix ν (dg νA j (.slice ad 0 0))):=by
 have:=Tr.nothing h (id:=2*j+1) (by rw[uk,hj];rfl) e ad
 have ZE:some (bg.own e [])=(some (bg.own e [])).map (bg.re mr):=rfl
 rw[ZE,E2,E3]at this
 exact this
structure Cut(c:Ctx)(σ acc:St)(tm:Array Value)(w:World)(M:Nat→Prop)(ν νA:Nat→Value):Prop where
 mem:Mem c (jc σ.H acc.H) w M (mix ν νA)
 src: ∀i,VR w M σ.H ν (σ.T i) (tm.getD i undef)
 dst: ∀i,VR w M acc.H νA (acc.T i) (tm.getD i undef)
theorem Cut.tr{acc:St}{tm:Array Value}{νA:Nat→Value}(h:Cut c σ acc tm w M ν νA){H' A':Nat→Option bg}{M':Nat→Prop}{Tg:Nat→Value}(t:Tr c (jc σ.H acc.H) w M (mix ν νA) (jc H' A') w M' (mix ν Tg)){s:Nat}{x:bD}(hx:VR w M' A' Tg x (tm.getD s undef)):
  Cut c ⟨σ.T,H'⟩ ⟨(acc.put s x).T,A'⟩ tm w M' ν Tg:=by
 refine⟨t.mem,λi=>VR.ca t.ca t.goes.left (h.src i),λi=> ?_⟩
 show VR w M' A' Tg ((acc.put s x).T i) _
 by_cases hi:i=s
 ·subst hi;rw[uj];exact hx
 ·rw[Ab _ _ hi];exact VR.ca t.ca t.goes.right (h.dst i)
def VS(A:Nat→Option bg)(s:Nat):Prop:=A (16*s+13)=none∧A (16*s+14)=none∧A (16*s+15)=none
theorem lY{q:Nat×CM}{L:List (Nat×CM)}{A:Nat→Option bg}(hF:ka (q::L)=true)(hN: ∀p∈q::L,VS A p.1):
  ka L=true∧(∀p∈L,VS A p.1)∧
   ∀(A':Nat→Option bg) (d:Nat) (v:Option bg),(d=16*q.1+13∨d=16*q.1+14∨d=16*q.1+15)→(∀p∈L,VS A' p.1)→ ∀p∈L,VS (bZ A' d v) p.1:=by
 unfold ka at hF
 rw[bQ,qD]at hF
 refine⟨hF.2,λp hp=>hN p (aZ _ hp),λA' d v hd hN' p hp=> ?_⟩
 have jy:p.1≠q.1:=λe=>by
  have:=hF.1 p hp
  rw[e]at this
  simp at this
 obtain⟨h1,h2,h3⟩:=hN' p hp
 exact⟨by rw[az _ _ ω];exact h1,by rw[az _ _ ω];exact h2,by rw[az _ _ ω];exact h3⟩
theorem eU{tm:Array Value}: ∀(L:List (Nat×CM)) (σ acc:St) (M:Nat→Prop) (νA:Nat→Value) (K:St→Option α),Cut c σ acc tm w M ν νA→ka L=true→(∀q∈L,VS acc.H q.1)→g8 L σ acc K=some r→
  ∃ZF M' Tg,K ZF=some r∧Core c ZF tm w M' Tg
 |[],σ,acc,M,νA,K,hC,_,_,h=>⟨acc,M,νA,h,hC.mem.right,hC.dst⟩
 |(s,.v τ)::L,σ,acc,M,νA,K,hC,hF,hN,h=>by
  obtain⟨PO,PQ,Th⟩:=lY hF hN
  unfold g8 at h
  obtain⟨y,rd,ups,h,hy⟩:=DU hC.mem.left (hC.src s) h
  rcases hy with⟨rfl,hV⟩|⟨id,e,l,rfl,bf,hV⟩
  ·exact eU L σ _ M νA K (hC.tr (.refl hC.mem) (x:= .val τ y) (by simp only[VR];exact hV)) PO PQ h
  ·obtain⟨M2,il,_,JW⟩:=Tr.freeze hC.mem (id:=2*id) (iz bf)
   have ZE:some (bg.oH e l)=(some (bg.oH e l)).map (bg.re ml):=rfl
   rw[ZE,qY]at il
   refine eU L _ _ M2 νA K (hC.tr il (x:= .val τ y) ?_) PO PQ h
   simp only[VR]
   exact hV M2 (λb=>by rw[JW b,im])
 |(s,.own e)::L,σ,acc,M,νA,K,hC,hF,hN,h=>by
  obtain⟨PO,PQ,Th⟩:=lY hF hN
  unfold g8 at h
  have hs:=hC.src s
  split at h
  ·rename_i hT
   have hj:=(hN _ bm).2.1
   rw[hT]at hs
   obtain⟨ad,hv⟩:=VR.emp.1 hs
   refine eU L σ _ M _ K (hC.tr (hC.mem.fresh hj e ad) (x:= .ref (16*s+14)) ?_) PO (Th _ _ _ (.inr (.inl rfl)) PQ) h
   simp only[VR]
   exact⟨by rw[ax];simp,by rw[hv];simp[dg]⟩
  ·rename_i id hT
   rw[hT]at hs
   simp only[VR]at hs
   split at h
   ·rename_i e' l bf
    obtain⟨e1,h⟩:=bC h
    cases e1
    have hj:=(hN _ bm).2.1
    refine eU L _ _ M _ K (hC.tr (hC.mem.move bf trivial hj (.inl ⟨rfl,λ_ _ _ _=>by simp⟩)) (x:= .ref (16*s+14)) ?_) PO (Th _ _ _ (.inr (.inl rfl)) PQ) h
    simp only[VR]
    exact⟨by rw[ax];simp,by rw[hs.2];simp[dg]⟩
   ·cases h
  ·cases h
 |(s,.obj τ)::L,σ,acc,M,νA,K,hC,hF,hN,h=>by
  obtain⟨PO,PQ,Th⟩:=lY hF hN
  unfold g8 at h
  have hs:=hC.src s
  split at h
  ·rename_i id hT
   rw[hT]at hs
   split at h
   ·rename_i υ x bf
    obtain⟨e1,h⟩:=bC h
    subst e1
    have hj:=(hN _ bm).2.1
    simp only[VR]at hs
    obtain⟨e,he,nM⟩:=hs
    rw[bf]at he;cases he
    simp only[AR]at nM
    obtain⟨_,b,hb,hv⟩:=nM
    refine eU L _ _ M _ K (hC.tr (hC.mem.move bf trivial hj (.inl ⟨rfl,λ_ _ _ _=>by simp⟩)) (x:= .jn (16*s+14) []) ?_) PO (Th _ _ _ (.inr (.inl rfl)) PQ) h
    simp only[VR]
    exact⟨_,ax _ _ _,trivial,b,by simp[dg,hb],hv⟩
   ·
    rename_i υ x q k bf
    obtain⟨z,ups,M2,hK,il,alV,b,cs,t,hb,hg,JW,kV⟩: ∃z ups M2,c7 υ τ z (λy=>g8 L ((σ.vU ups).jO id (some .gone)) ((acc.put s (.jn (16*s+14) [])).jO (16*s+14) (some (.obj τ y))) K)=some r∧
      Tr c (jc σ.H acc.H) w M (mix ν νA) (jc (c4 σ.H ups) acc.H) w M2 (mix ν νA)∧c4 σ.H ups id=some (.gh υ x q k)∧ ∃b cs t,ν id= .pointer (some ⟨b,0,none⟩)∧w.heap[b]? =some (.cells cs t (0,0))∧M2 b∧Rd w M2 υ cs.toList z:=by
     have alW:=iz (B:=acc.H) bf
     unfold Dc at h
     split at h
     ·rename_i e l hk
      have jy:id≠k:=λe=>by rw[e,hk]at bf;cases bf
      obtain⟨z,ups,M2,hK,il,_,hc2,b,cs,t,hb,hg,JW,kV⟩:=yG (H:=jc σ.H acc.H) hC.mem (id:=2*id) (j:=2*k) (x:=x) (q:=q)
       (k:=λz _=>c7 υ τ z λy=>g8 L ((σ.vU [(k,some (.oH e l))]).jO id (some .gone)) ((acc.put s (.jn (16*s+14) [])).jO (16*s+14) (some (.obj τ y))) K) alW (by
        unfold Dc
        rw[iz hk]
        exact h)
      rw[im]at hb
      rcases hc2 with⟨e2,l2,h2,_⟩|⟨e2,l2,h2,rfl⟩
      ·rw[iz hk]at h2;simp[bg.re]at h2
      ·rw[iz hk]at h2
       simp only[bg.re,iw]at h2
       have ZE:some (bg.oH e l)=(some (bg.oH e l)).map (bg.re ml):=rfl
       have wi:Tr c (jc σ.H acc.H) w M (mix ν νA) (bZ (jc σ.H acc.H) (2*k) (some (.oH e l))) w M2 (mix ν νA):=by
        cases h2;exact il
       rw[ZE,qY]at wi
       exact⟨z,_,M2,hK,wi,by show bZ σ.H k _ id=_;rw[az _ _ jy];exact bf,b,cs,t,hb,hg,JW,kV⟩
     ·rename_i e l hk
      obtain⟨z,ups,M2,hK,il,_,hc2,b,cs,t,hb,hg,JW,kV⟩:=yG (H:=jc σ.H acc.H) hC.mem (id:=2*id) (j:=2*k) (x:=x) (q:=q)
       (k:=λz _=>c7 υ τ z λy=>g8 L ((σ.vU []).jO id (some .gone)) ((acc.put s (.jn (16*s+14) [])).jO (16*s+14) (some (.obj τ y))) K) alW (by
        unfold Dc
        rw[iz hk]
        exact h)
      rw[im]at hb
      rcases hc2 with⟨e2,l2,h2,rfl⟩|⟨e2,l2,h2,_⟩
      ·exact⟨z,[],M2,hK,il,bf,b,cs,t,hb,hg,JW,kV⟩
      ·rw[iz hk]at h2;simp[bg.re]at h2
     ·cases h
    obtain⟨e1,hK⟩:=bC hK
    subst e1
    have hC2:Cut c ⟨σ.T,c4 σ.H ups⟩ acc tm w M2 ν νA:=⟨il.mem,λi=>VR.ca il.ca il.goes.left (hC.src i),λi=>VR.ca il.ca il.goes.right (hC.dst i)⟩
    have vE:=Tr.Hj (e':= .obj υ z) il.mem (iz alV) trivial trivial rfl (λ_ _=>by simp) (by rw[im];simp only[ER];exact⟨b,cs,t,hb,hg,JW,kV⟩) (λ_ _ _ _ h=>by cases h)
    have ZE:some (bg.obj υ z)=(some (bg.obj υ z)).map (bg.re ml):=rfl
    rw[ZE,qY]at vE
    have hC3:Cut c ⟨σ.T,bZ (c4 σ.H ups) id (some (.obj υ z))⟩ acc tm w M2 ν νA:=⟨vE.mem,λi=>VR.ca vE.ca vE.goes.left (hC2.src i),λi=>VR.ca vE.ca vE.goes.right (hC2.dst i)⟩
    have hj:=(hN _ bm).2.1
    simp only[VR]at hs
    obtain⟨e,he,nM⟩:=hs
    rw[bf]at he;cases he
    simp only[AR]at nM
    obtain⟨_,b',eY,hv⟩:=nM
    rw[hb]at eY;cases eY
    have hmv:=hC3.mem.move (ax _ _ _) trivial hj (.inl ⟨rfl,λ_ _ _ _=>by simp⟩)
    rw[yF]at hmv
    have G6:(σ.vU ups).jO id (some .gone)=⟨σ.T,bZ (c4 σ.H ups) id (some .gone)⟩:=by
     have h2:σ.vU ups=⟨σ.T,c4 σ.H ups⟩:=by rw[←P0,←P1 ups σ]
     rw[h2];rfl
    rw[G6]at hK
    refine eU L _ _ M2 _ K (hC3.tr hmv (x:= .jn (16*s+14) []) ?_) PO (Th _ _ _ (.inr (.inl rfl)) PQ) hK
    simp only[VR]
    exact⟨_,ax _ _ _,trivial,b,by simp[dg,hb],hv⟩
   ·cases h
  ·cases h
 |(s,.gh τ q e)::L,σ,acc,M,νA,K,hC,hF,hN,h=>by
  obtain⟨PO,PQ,Th⟩:=lY hF hN
  unfold g8 at h
  have hs:=hC.src s
  split at h
  ·rename_i id hT
   rw[hT]at hs
   split at h
   ·rename_i υ x q' k bf
    obtain⟨hpq,h1⟩:=cy h
    clear h
    have:=Bk hpq
    subst this
    split at h1
    ·rename_i e' l hk
     obtain⟨e1,h2⟩:=bC h1
     clear h1
     subst e1
     obtain⟨e2,h⟩:=bC h2
     cases e2
     have jy:id≠k:=λe=>by rw[e,hk]at bf;cases bf
     obtain⟨ara,arb,_⟩:=hN _ bm
     simp only[VR]at hs
     obtain⟨e,he,nM⟩:=hs
     rw[bf]at he;cases he
     simp only[AR]at nM
     obtain⟨_,b,hb,hv⟩:=nM
     have tq:=hC.mem.move hk trivial ara (.inl ⟨rfl,λ_ _ _ _=>by simp⟩)
     have pt:bZ σ.H k (some .gone) id=some (.gh υ x q k):=by rw[az _ _ jy];exact bf
     have yn:=tq.mem.move pt trivial (j:=16*s+14) (e1:= .gh υ x q (16*s+13)) (by rw[az _ _ ω];exact arb)
      (.inr ⟨υ,x,q,k,16*s+13,rfl,rfl,by rw[ax];simp,by simp[dg]⟩)
     refine eU L _ _ M _ K (hC.tr (tq.trans yn) (s:=s) (x:= .jn (16*s+14) []) ?_) PO (Th _ _ _ (.inr (.inl rfl)) (Th _ _ _ (.inl rfl) PQ)) h
     simp only[VR]
     exact⟨_,ax _ _ _,trivial,b,by simp[dg,hb],hv⟩
    ·cases h1
   ·cases h
  ·cases h
 |(s,.same s')::L,σ,acc,M,νA,K,hC,hF,hN,h=>by
  obtain⟨PO,PQ,Th⟩:=lY hF hN
  unfold g8 at h
  split at h
  ·rename_i i j j' h1 h2 h3
   obtain⟨hb,h⟩:=cy h
   have hb:=fW hb
   have e1:=hC.src s
   have e2:=hC.src s'
   have e3:=hC.dst s'
   rw[h1]at e1;rw[h2]at e2;rw[h3]at e3
   simp only[VR]at e1 e2 e3
   refine eU L σ _ M νA K (hC.tr (.refl hC.mem) (x:= .ref j') ?_) PO PQ h
   simp only[VR]
   exact⟨e3.1,by rw[e1.2,hb,←e2.2,e3.2]⟩
  ·cases h
 |(s,.io τ)::L,σ,acc,M,νA,K,hC,hF,hN,h=>by
  obtain⟨PO,PQ,Th⟩:=lY hF hN
  unfold g8 at h
  have hs:=hC.src s
  split at h
  ·rename_i id hT
   rw[hT]at hs
   obtain⟨_,h⟩:=cy h
   split at h
   ·rename_i υ x bf
    obtain⟨e1,h⟩:=bC h
    subst e1
    have hj:=(hN _ bm).2.2
    simp only[VR]at hs
    obtain⟨e,he,nM⟩:=hs
    rw[bf]at he;cases he
    simp only[AR]at nM
    obtain⟨_,b,hb,hv⟩:=nM
    refine eU L _ _ M _ K (hC.tr (hC.mem.move bf trivial hj (.inl ⟨rfl,λ_ _ _ _=>by simp⟩)) (x:= .jn (16*s+15) []) ?_) PO (Th _ _ _ (.inr (.inr rfl)) PQ) h
    simp only[VR]
    exact⟨_,ax _ _ _,trivial,b,by simp[dg,hb],hv⟩
   ·cases h
  ·cases h
 |(s,.fn f τ)::L,σ,acc,M,νA,K,hC,hF,hN,h=>by
  obtain⟨PO,PQ,Th⟩:=lY hF hN
  unfold g8 at h
  have hs:=hC.src s
  split at h
  ·rename_i f' cs hT
   rw[hT]at hs
   obtain⟨hb,h1⟩:=cy h
   clear h
   have hb:=fW hb
   subst hb
   simp only[VR]at hs
   obtain⟨us,hv,Zn⟩:=hs
   obtain⟨y,rd,ups,h,hy⟩:=EW hC.mem.left Zn h1
   split at h
   ·refine eU L σ _ M νA K (hC.tr (.refl hC.mem) (x:= .Mf f (pM τ y)) ?_) PO PQ h
    simp only[VR]
    exact⟨us,hv,jq.free (hy rfl)⟩
   ·cases h
  ·cases h
theorem yK(hI:Inv c E σ a w){L:Option (List (Nat×CM))}(hL: ∀L',L=some L'→ka L'=true){K:St→Option α}(h:wa L σ K=some r): ∃σ',K σ'=some r∧Inv c E σ' a w:=by
 unfold wa at h
 split at h
 ·exact⟨σ,h,hI⟩
 ·have VO:=hL _ rfl
  obtain⟨⟨M,ν,hc⟩,hs,hd⟩:=hI
  obtain⟨ZF,M',Tg,hK,alX⟩:=eU (tm:=a.tmps) _ σ ⟨λ_=> .any,λ_=>none⟩ M (λ_=>undef) K ⟨hc.mem.ZD _,hc.tmp,λi=>by simp[VR]⟩ VO (λ_ _=>⟨rfl,rfl,rfl⟩) h
  exact⟨ZF,hK,⟨M',Tg,alX⟩,hs,hd⟩
end VM
end
