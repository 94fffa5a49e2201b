/- A part of the proof of WindBears of layer 21: a machine that reads a function of the program as an equation between values. -/
import Derived.Test.YtecmobijochjkaaGreatVm3
import Derived.Scope
set_option linter.all false
section
namespace VM
open Go
variable{P:Program}{E:Env}{o:Oper}{a:Act}{w:World}{M:Nat→Prop}{ν:Nat→Value}{σ:St}{c:Ctx}{α:Type}{r:α}{next:Act→World→Prop}{Q:Exit→Act→World→Prop}
theorem Mem.call{H:Nat→Option bh}(h:Mem c H w M ν){hs:List Nat}{M0 M':Nat→Prop}{w':World}(hM: ∀b,M0 b→M b)(hhs: ∀b∈hs,M b)
  (vN: ∀b∈hs,∀i e,H i=some e→e.mut→fM (ν i)≠some b) (lB: ∀b∈hs,c.B≤b∨c.may b) (vq: ∀b∈hs,c.M0 b→M' b) (L:Left w M0 hs w' M'):
  Mem c H w' (λb=>M' b∨(M b∧b∉hs)) ν∧fa w M w' (λb=>M' b∨(M b∧b∉hs)):=by
 have hk:fa w M w' (λb=>M' b∨(M b∧b∉hs)):=by
  refine⟨L.size,λb hb hm=>L.frame b hb (λhh=>hm (hhs b hh)),λb hb hm=> ?_⟩
  rcases hm with hm|hm
  ·exact(L.less b hb hm).elim (hM b) (hhs b)
  ·exact hm.1
 refine⟨⟨λi e hi=>(h.la i e hi).cc hk λhm b hb=> ?_,h.zW,h.new,h.yO,qX h (λ_ _=>rfl) (λ_ h=>h) (λi τ x p j hi=> .inl ⟨hi,λb hb=> ?_⟩),λb hb=> ?_,λb hb=> ?_,λb hb hm=> ?_,cq h.size L.size,h.vG,L.os.trans h.os,L.tape.trans h.tape,L.output.trans h.output⟩,hk⟩
 ·have hMb:=(h.la i e hi).yf hm hb
  have z8:b∉hs:=λhh=>vN b hh i e hi hm hb
  exact⟨L.frame b (h.EP b hMb) z8,.inr ⟨hMb,z8⟩⟩
 ·have wv:fM (ν i)=some b:=by rw[hb];rfl
  have hMb:=(h.la i _ hi).yf trivial wv
  exact L.frame b (h.EP b hMb) (λhh=>vN b hh i _ hi trivial wv)
 ·by_cases hh:b∈hs
  ·exact .inl (vq b hh hb)
  ·exact .inr ⟨h.sub b hb,hh⟩
 ·rcases hb with hb|hb
  ·exact L.EP b hb
  ·exact mY (h.EP b hb.1) L.size
 ·have z8:b∉hs:=λhh=>(lB b hh).elim (λh'=>ω) hm
  rw[L.frame b (mY hb h.size) z8]
  exact h.frame b hb hm
theorem Mem.yC{H:Nat→Option bh}(h:Mem c H w M ν){id:Nat}{v:Value}{e:bh}(bf: ∀e',H id=some e'→ ¬e'.mut)(S6:ER w M v e)
  (hd: ∀b,fM v=some b→ ∀i e',H i=some e'→e'.mut→fM (ν i)≠some b) (hn: ∀b,fM v=some b→c.B≤b∨c.may b) (ho: ∀b e0 l0,e= .own e0 l0→fM v=some b→ ¬c.M0 b)
  (hnv:H id=none∨v=ν id)
  (sZ: ∀τ x p j,e= .gk τ x p j→bY H id (some e) j≠none∧ ∃b,v= .pointer (some ⟨b,0,none⟩)∧w.cell? ⟨b,cF p τ,none⟩=some (dg ν id v j):=by intro _ _ _ _ h;cases h):
  Mem c (bY H id (some e)) w M (dg ν id v):=by
 have hν: ∀i,i≠id→dg ν id v i=ν i:=λi hi=>by simp[dg,hi]
 have Dm:dg ν id v id=v:=by simp[dg]
 refine⟨λi e1 hi=> ?_,λi k e1 e2 b1 pQ hi tG hk yB=> ?_,λi e1 b1 hi tG=> ?_,λi e1 l1 b1 hi=> ?_,qX h (λi hi=> ?_) xB (λi τ x p j hi=> ?_),h.sub,h.EP,h.frame,h.size,h.vG,h.os,h.tape,h.output⟩
 ·by_cases bX:i=id
  ·subst bX;rw[ax]at hi;cases hi;rw[Dm];exact S6
  ·rw[az _ _ bX]at hi;rw[hν i bX];exact h.la i e1 hi
 ·by_cases bX:i=id
  ·subst bX;rw[Dm]
   have Mo:k≠i:=eJ pQ
   rw[az _ _ Mo]at hk;rw[hν k Mo]
   intro mA
   exact hd b1 mA k e2 hk yB
  ·rw[az _ _ bX]at hi;rw[hν i bX]
   by_cases Mo:k=id
   ·subst Mo;rw[Dm]
    intro mA ui
    exact hd b1 ui i e1 hi tG mA
   ·rw[az _ _ Mo]at hk;rw[hν k Mo];exact h.zW i k e1 e2 b1 pQ hi tG hk yB
 ·by_cases bX:i=id
  ·subst bX;rw[Dm];exact hn b1
  ·rw[az _ _ bX]at hi;rw[hν i bX];exact h.new i e1 b1 hi tG
 ·by_cases bX:i=id
  ·subst bX;rw[ax]at hi;cases hi;rw[Dm];exact ho b1 e1 l1 rfl
  ·rw[az _ _ bX]at hi;rw[hν i bX];exact h.yO i e1 l1 b1 hi
 ·by_cases bX:i=id
  ·subst bX
   rcases hnv with hnv|hnv
   ·exact absurd hnv hi
   ·rw[Dm,hnv]
  ·exact hν i bX
 ·by_cases bX:i=id
  ·subst bX
   rw[ax]at hi
   cases hi
   obtain⟨h1,b,h2,h3⟩:=sZ _ _ _ _ rfl
   exact .inr ⟨h1,b,by rw[Dm];exact h2,h3⟩
  ·rw[az _ _ bX]at hi
   exact .inl ⟨hi,λ_ _=>rfl⟩
theorem Ti{m:AM}{ms:List AM}(x:HP (m::ms))(id:Nat)(io:List (Nat×AM)):
  jS (m::ms) x id io=match m,tg x,io with
   | .io τ,y,(j,_)::io=>((jS ms (yj x) (id+1) io).1,(j,some (.obj τ y))::(jS ms (yj x) (id+1) io).2.1,(jS ms (yj x) (id+1) io).2.2)
   | .lo e,y,(j,_)::io=>((jS ms (yj x) (id+1) io).1,(j,some (.own e y))::(jS ms (yj x) (id+1) io).2.1,(jS ms (yj x) (id+1) io).2.2)
   |m,y,io=>((JQ m y id).1::(jS ms (yj x) (id+1) io).1,(JQ m y id).2++(jS ms (yj x) (id+1) io).2.1,(jS ms (yj x) (id+1) io).2.2):=by
 cases ms with
 |nil=>cases m<;>cases io<;>simp[jS,tg]
 |cons n ms=>cases m<;>cases io<;>simp[jS,tg,yj]
theorem mC{l1 l2:List Nat}{b:Nat}(h:(l1++l2).Nodup)(h1:b∈l1):b∉l2:=λh2=>(pY.1 h).2.2 b h1 b h2 rfl
theorem RR.J8: ∀{ms:List AM} {x:HP ms} {us ps:List Value},RR w M ms x us ps→ ∀p∈ps,∀b,fM p=some b→b∈bF ms us ps
 |[],_,_,_,h,p,hp,_,_=>by simp only[RR]at h;rw[h.2]at hp;simp at hp
 |m::ms,x,us,ps,h,p,hp,b,hb=>by
  simp only[RR]at h
  rcases h with⟨p',Hf,h1,rfl,h2,h3⟩|⟨v,J7,h1,h2,rfl,h3,h4⟩
  ·simp only[bF,h1,gD,tp,tt,ba]
   rcases aX.1 hp with rfl|hp
   ·left
    cases m<;>simp[AM.iL]at h1<;>simp[da,hb]
   ·exact .inr (RR.J8 h3 p hp b hb)
  ·simp only[bF,h1,jc,eU,tp,tt,ba]
   exact .inr (RR.J8 h4 p hp b hb)
theorem og{hs:List Nat}{sz:Nat}: ∀{ms:List AM} {x:HP ms} {us ps:List Value} {id:Nat} {io:List (Nat×AM)} {H:Nat→Option bh} {ν:Nat→Value} {used:List Nat},
  Mem c H w M ν→RR w M ms x us ps→ps=io.map (λq=>ν q.1)→ni ms=io.map (·.2)→(keys io).Nodup→(∀q∈io,H q.1=some .gone)→(∀i,id≤i→i<id+ms.length→H i=none)→
  (∀i e b,H i=some e→e.mut→fM (ν i)=some b→(b<sz∧b∉hs)∨b∈used)→(used++bF ms us ps).Nodup→(∀b∈bF ms us ps,sz≤b∨b∈hs)→
  (∀b∈bF ms us ps,(c.B≤b∨c.may b))→(∀b∈bF ms us ps,c.M0 b→ ∃p∈ps,fM p=some b)→
  (∀q∈io,∀e,q.2= .lo e→ ∀b,fM (ν q.1)=some b→ ¬c.M0 b)→
  ∃ν',Mem c (c5 H (jS ms x id io).2.1) w M ν'∧jt w M (c5 H (jS ms x id io).2.1) ν' (jS ms x id io).1 us∧(∀i,H i≠none→ν' i=ν i)∧
   (∀i,i∉keys io→(i<id∨id+ms.length≤i)→c5 H (jS ms x id io).2.1 i=H i)∧(∀i,id≤i→i<id+ms.length→ ∀e,c5 H (jS ms x id io).2.1 i=some e→(∃e0 l0,e= .own e0 l0)∨ ∃τ0 z0,e= .obj τ0 z0)∧
   (∀q∈io,IoE (c5 H (jS ms x id io).2.1) q)
 |[],x,us,ps,id,io,H,ν,used,hm,hr,J5,EY,Dv,Bx,ju,hold,yk,pB,lB,Ic,yi=>by
  simp only[RR]at hr
  obtain⟨rfl,rfl⟩:=hr
  have vq:io=[]:=by
   cases io with
   |nil=>rfl
   |cons q io=>simp at J5
  subst vq
  exact⟨ν,hm,by simp[jS,jt],λ_ _=>rfl,λ_ _ _=>rfl,λi h1 h2=>by simp at h2;omega,λq hq=>by simp at hq⟩
 |m::ms,x,us,ps,id,io,H,ν,used,hm,hr,J5,EY,Dv,Bx,ju,hold,yk,pB,lB,Ic,yi=>by
  rw[Ti]
  simp only[RR]at hr
  rcases hr with⟨p,Hf,HB,rfl,h1,h2⟩|⟨v,J7,HB,hmf,rfl,h1,h2⟩
  ·
   cases m with
   |io τ=>
    cases io with
    |nil=>simp at J5
    |cons q io=>
     simp only[bW,fi]at J5
     obtain⟨rfl,rfl⟩:=J5
     simp only[ni,bW,fi]at EY
     obtain⟨ZB,ahi⟩:=EY
     simp only[keys,bW,zF]at Dv
     have ZC:bF (.io τ::ms) us (ν q.1::io.map λq=>ν q.1)=(fM (ν q.1)).toList++bF ms us (io.map λq=>ν q.1):=rfl
     rw[ZC]at yk pB lB Ic
     have xD:=Bx q bg
     have E6:q.1<id∨id+(ms.length+1)≤q.1:=by
      rcases oY q.1 id with h'|h'
      ·exact .inl h'
      ·rcases oY q.1 (id+(ms.length+1))with J9|J9
       ·rw[ju q.1 h' J9]at xD;cases xD
       ·exact .inr J9
     simp only[A1]at h1
     have q5: ∀b,fM (ν q.1)=some b→ ∀i e',H i=some e'→e'.mut→fM (ν i)≠some b:=by
      intro b hb i e' hi jT eZ
      have lW:b∈(fM (ν q.1)).toList++bF ms us (io.map λq=>ν q.1):=cW _ (by rw[hb];simp)
      rcases hold i e' b hi jT eZ with⟨h3,h4⟩|h3
      ·exact(pB b lW).elim (λh'=>ω) h4
      ·exact mC yk h3 lW
     have yB:=Mem.yC (c:=c) hm (id:=q.1) (v:=ν q.1) (e:= .obj τ (tg x)) (λe' wu=>by rw[xD]at wu;cases wu;simp[bh.mut]) h1 q5 (λb hb=>lB b (cW _ (by rw[hb];simp))) (λb e0 l0 he=>by cases he) (.inr rfl)
     have hνe:dg ν q.1 (ν q.1)=ν:=by funext i;unfold dg;split<;>simp_all
     rw[hνe]at yB
     have ahj: ∀(q':Nat×AM),q'∈io→q'.1≠q.1:=λq' nS e=>Dv.1 (cD.2 ⟨q',nS,e⟩)
     obtain⟨ν',r1,r2,r3,r4,r5,r6⟩:=og (ms:=ms) (x:=yj x) (us:=us) (ps:=io.map λq=>ν q.1) (id:=id+1) (io:=io) (used:=used++(fM (ν q.1)).toList) yB h2 rfl ahi Dv.2
      (λq' nS=>by rw[az _ _ (ahj q' nS)];exact Bx q' (aY _ nS))
      (λi h3 h4=>by
       have:i≠q.1:=ω
       rw[az _ _ this]
       exact ju i ω (by simp only[aR];omega))
      (λi e b hi jT hb=>by
       by_cases bX:i=q.1
       ·subst bX;exact .inr (dz _ (by rw[hb];simp))
       ·rw[az _ _ bX]at hi
        exact(hold i e b hi jT hb).imp (λh=>h) (cW _))
      (by rw[bu];exact yk) (λb hb=>pB b (dz _ hb)) (λb hb=>lB b (dz _ hb))
      (λb hb Y3=>by
       obtain⟨p,hp,hpb⟩:=Ic b (dz _ hb) Y3
       rcases aX.1 hp with rfl|hp
       ·exact absurd (mC (pY.1 yk).2.1 (b:=b) (by rw[hpb];simp)) (by simpa using hb)
       ·exact⟨p,hp,hpb⟩) (λq' nS=>yi q' (aY _ nS))
     refine⟨ν',r1,r2,λi hi=> ?_,λi h3 h4=> ?_,λi h3 h4 e he=> ?_,λq' nS=> ?_⟩
     ·exact r3 i (by
       by_cases bX:i=q.1
       ·subst bX;rw[ax];simp
       ·rw[az _ _ bX];exact hi)
     ·simp only[keys,bW,aX,not_or]at h3
      have:=r4 i h3.2 (by simp only[aR]at h4;omega)
      rw[az _ _ h3.1]at this
      exact this
     ·by_cases h5:id+1≤i
      ·exact r5 i h5 (by simp only[aR]at h4;omega) e he
      ·have bX:i=id:=ω
       subst bX
       by_cases hk:i∈keys io
       ·obtain⟨q',nS,By⟩:=cD.1 hk
        have h9:=Bx q' (aY _ nS)
        rw[By,ju i (aG _) (by simp)]at h9
        cases h9
       ·have:=r4 i hk (.inl ω)
        have jB:i≠q.1:=ω
        rw[az _ _ jB,ju i (aG _) (by simp)]at this
        have he:c5 (bY H q.1 (some (bh.obj τ (tg x)))) (jS ms (yj x) (i+1) io).2.1 i=some e:=he
        rw[this]at he;cases he
     ·rcases aX.1 nS with rfl|nS
      ·have:=r4 q'.1 Dv.1 ω
       rw[ax]at this
       exact .inl ⟨τ,tg x,ZB.symm,this⟩
      ·exact r6 q' nS
   |lo τ=>
    cases io with
    |nil=>simp at J5
    |cons q io=>
     simp only[bW,fi]at J5
     obtain⟨rfl,rfl⟩:=J5
     simp only[ni,bW,fi]at EY
     obtain⟨ZB,ahi⟩:=EY
     simp only[keys,bW,zF]at Dv
     have ZC:bF (.lo τ::ms) us (ν q.1::io.map λq=>ν q.1)=(fM (ν q.1)).toList++bF ms us (io.map λq=>ν q.1):=rfl
     rw[ZC]at yk pB lB Ic
     have xD:=Bx q bg
     have E6:q.1<id∨id+(ms.length+1)≤q.1:=by
      rcases oY q.1 id with h'|h'
      ·exact .inl h'
      ·rcases oY q.1 (id+(ms.length+1))with J9|J9
       ·rw[ju q.1 h' J9]at xD;cases xD
       ·exact .inr J9
     simp only[A1]at h1
     have q5: ∀b,fM (ν q.1)=some b→ ∀i e',H i=some e'→e'.mut→fM (ν i)≠some b:=by
      intro b hb i e' hi jT eZ
      have lW:b∈(fM (ν q.1)).toList++bF ms us (io.map λq=>ν q.1):=cW _ (by rw[hb];simp)
      rcases hold i e' b hi jT eZ with⟨h3,h4⟩|h3
      ·exact(pB b lW).elim (λh'=>ω) h4
      ·exact mC yk h3 lW
     have yB:=Mem.yC (c:=c) hm (id:=q.1) (v:=ν q.1) (e:= .own τ (tg x)) (λe' wu=>by rw[xD]at wu;cases wu;simp[bh.mut]) h1 q5 (λb hb=>lB b (cW _ (by rw[hb];simp))) (λb e0 l0 _ hb=>yi q bg τ ZB.symm b hb) (.inr rfl)
     have hνe:dg ν q.1 (ν q.1)=ν:=by funext i;unfold dg;split<;>simp_all
     rw[hνe]at yB
     have ahj: ∀(q':Nat×AM),q'∈io→q'.1≠q.1:=λq' nS e=>Dv.1 (cD.2 ⟨q',nS,e⟩)
     obtain⟨ν',r1,r2,r3,r4,r5,r6⟩:=og (ms:=ms) (x:=yj x) (us:=us) (ps:=io.map λq=>ν q.1) (id:=id+1) (io:=io) (used:=used++(fM (ν q.1)).toList) yB h2 rfl ahi Dv.2
      (λq' nS=>by rw[az _ _ (ahj q' nS)];exact Bx q' (aY _ nS))
      (λi h3 h4=>by
       have:i≠q.1:=ω
       rw[az _ _ this]
       exact ju i ω (by simp only[aR];omega))
      (λi e b hi jT hb=>by
       by_cases bX:i=q.1
       ·subst bX;exact .inr (dz _ (by rw[hb];simp))
       ·rw[az _ _ bX]at hi
        exact(hold i e b hi jT hb).imp (λh=>h) (cW _))
      (by rw[bu];exact yk) (λb hb=>pB b (dz _ hb)) (λb hb=>lB b (dz _ hb))
      (λb hb Y3=>by
       obtain⟨p,hp,hpb⟩:=Ic b (dz _ hb) Y3
       rcases aX.1 hp with rfl|hp
       ·exact absurd (mC (pY.1 yk).2.1 (b:=b) (by rw[hpb];simp)) (by simpa using hb)
       ·exact⟨p,hp,hpb⟩) (λq' nS=>yi q' (aY _ nS))
     refine⟨ν',r1,r2,λi hi=> ?_,λi h3 h4=> ?_,λi h3 h4 e he=> ?_,λq' nS=> ?_⟩
     ·exact r3 i (by
       by_cases bX:i=q.1
       ·subst bX;rw[ax];simp
       ·rw[az _ _ bX];exact hi)
     ·simp only[keys,bW,aX,not_or]at h3
      have:=r4 i h3.2 (by simp only[aR]at h4;omega)
      rw[az _ _ h3.1]at this
      exact this
     ·by_cases h5:id+1≤i
      ·exact r5 i h5 (by simp only[aR]at h4;omega) e he
      ·have bX:i=id:=ω
       subst bX
       by_cases hk:i∈keys io
       ·obtain⟨q',nS,By⟩:=cD.1 hk
        have h9:=Bx q' (aY _ nS)
        rw[By,ju i (aG _) (by simp)]at h9
        cases h9
       ·have:=r4 i hk (.inl ω)
        have jB:i≠q.1:=ω
        rw[az _ _ jB,ju i (aG _) (by simp)]at this
        have he:c5 (bY H q.1 (some (bh.own τ (tg x)))) (jS ms (yj x) (i+1) io).2.1 i=some e:=he
        rw[this]at he;cases he
     ·rcases aX.1 nS with rfl|nS
      ·have:=r4 q'.1 Dv.1 ω
       rw[ax]at this
       exact .inr ⟨τ,tg x,ZB.symm,this⟩
      ·exact r6 q' nS
   |v τ=>simp[AM.iL]at HB
   |own τ=>simp[AM.iL]at HB
   |fn f τ=>simp[AM.iL]at HB
   |ptr τ=>simp[AM.iL]at HB
   |jr τ=>simp[AM.iL]at HB
  ·
   have HC:H id=none:=ju id (aG _) (by simp)
   cases m with
   |io τ=>simp[AM.iL]at HB
   |lo τ=>simp[AM.iL]at HB
   |fn f τ=>simp[AM.Zx]at hmf
   |jr τ=>simp[AM.Zx]at hmf
   |v τ=>
    have ZC:bF (.v τ::ms) (v::J7) ps=bF ms J7 ps:=rfl
    rw[ZC]at yk pB lB Ic
    simp only[A1]at h1
    obtain⟨ν',r1,r2,r3,r4,r5,r6⟩:=og (ms:=ms) (x:=yj x) (us:=J7) (ps:=ps) (id:=id+1) (io:=io) (used:=used) hm h2 J5 (by simpa [ni]using EY) Dv Bx (λi h3 h4=>ju i ω (by simp only[aR];omega)) hold yk pB lB Ic yi
    refine⟨ν',r1,?_,r3,λi h3 h4=>r4 i h3 (by simp only[aR]at h4;omega),λi h3 h4 e he=> ?_,r6⟩
    ·simp only[JQ,jt,VR];exact⟨h1,r2⟩
    ·by_cases h5:id+1≤i
     ·exact r5 i h5 (by simp only[aR]at h4;omega) e he
     ·have bX:i=id:=ω
      subst bX
      by_cases hk:i∈keys io
      ·obtain⟨q',nS,By⟩:=cD.1 hk
       have h9:=Bx q' nS
       rw[By,HC]at h9;cases h9
      ·have:=r4 i hk (.inl ω)
       rw[HC]at this
       have he:c5 H (jS ms (yj x) (i+1) io).2.1 i=some e:=he
       rw[this]at he;cases he
   |own τ=>
    have ZC:bF (.own τ::ms) (v::J7) ps=(fM v).toList++bF ms J7 ps:=rfl
    rw[ZC]at yk pB lB Ic
    simp only[A1]at h1
    have q5: ∀b,fM v=some b→ ∀i e',H i=some e'→e'.mut→fM (ν i)≠some b:=by
     intro b hb i e' hi jT eZ
     have lW:b∈(fM v).toList++bF ms J7 ps:=cW _ (by rw[hb];simp)
     rcases hold i e' b hi jT eZ with⟨h3,h4⟩|h3
     ·exact(pB b lW).elim (λh'=>ω) h4
     ·exact mC yk h3 lW
    have alR: ∀b,fM v=some b→ ¬c.M0 b:=by
     intro b hb h0
     have lW:b∈(fM v).toList:=by rw[hb];simp
     obtain⟨p,hp,hpb⟩:=Ic b (cW _ lW) h0
     exact mC (pY.1 yk).2.1 lW (RR.J8 h2 p hp b hpb)
    have yB:=Mem.yC (c:=c) hm (id:=id) (v:=v) (e:= .own τ (tg x)) (λe' wu=>by rw[HC]at wu;cases wu) h1 q5 (λb hb=>lB b (cW _ (by rw[hb];simp))) (λb e0 l0 _ hb=>alR b hb) (.inl HC)
    have E6: ∀q∈io,q.1≠id:=λq hq e=>by
     have h9:=Bx q hq
     rw[e,HC]at h9;cases h9
    have ZD: ∀i,i≠id→dg ν id v i=ν i:=λi hi=>by simp[dg,hi]
    obtain⟨ν',r1,r2,r3,r4,r5,r6⟩:=og (ms:=ms) (x:=yj x) (us:=J7) (ps:=ps) (id:=id+1) (io:=io) (used:=used++(fM v).toList) yB h2
     (by rw[J5];exact qG λq hq=>(ZD _ (E6 q hq)).symm) (by simpa [ni]using EY) Dv
     (λq hq=>by rw[az _ _ (E6 q hq)];exact Bx q hq)
     (λi h3 h4=>by rw[az _ _ ω];exact ju i ω (by simp only[aR];omega))
     (λi e b hi jT hb=>by
      by_cases bX:i=id
      ·subst bX
       have:dg ν i v i=v:=by simp[dg]
       rw[this]at hb
       exact .inr (dz _ (by rw[hb];simp))
      ·rw[az _ _ bX]at hi
       rw[ZD i bX]at hb
       exact(hold i e b hi jT hb).imp (λh=>h) (cW _))
     (by rw[bu];exact yk) (λb hb=>pB b (dz _ hb)) (λb hb=>lB b (dz _ hb)) (λb hb=>Ic b (dz _ hb)) (λq hq e he b hb=>yi q hq e he b (by rw[ZD _ (E6 q hq)]at hb;exact hb))
    have ahl:id∉keys io:=λhk=>by
     obtain⟨q,hq,By⟩:=cD.1 hk
     exact E6 q hq By
    have p5:c5 (bY H id (some (.own τ (tg x)))) (jS ms (yj x) (id+1) io).2.1 id=some (.own τ (tg x)):=by
     rw[r4 id ahl (.inl ω),ax]
    refine⟨ν',r1,?_,λi hi=> ?_,λi h3 h4=> ?_,λi h3 h4 e he=> ?_,r6⟩
    ·simp only[JQ,jt,VR]
     refine⟨⟨?_,?_⟩,r2⟩
     ·show c5 (bY H id (some (.own τ (tg x)))) (jS ms (yj x) (id+1) io).2.1 id≠none
      rw[p5];simp
     ·rw[r3 id (by rw[ax];simp)];simp[dg]
    ·have bX:i≠id:=λe=>hi (e▸HC)
     rw[r3 i (by rw[az _ _ bX];exact hi),ZD i bX]
    ·have bX:i≠id:=by simp only[aR]at h4;omega
     have:=r4 i h3 (by simp only[aR]at h4;omega)
     rw[az _ _ bX]at this
     exact this
    ·by_cases h5:id+1≤i
     ·exact r5 i h5 (by simp only[aR]at h4;omega) e he
     ·have bX:i=id:=ω
      subst bX
      have he:c5 (bY H i (some (.own τ (tg x)))) (jS ms (yj x) (i+1) io).2.1 i=some e:=he
      rw[p5]at he;cases he
      exact .inl ⟨τ,_,rfl⟩
   |ptr τ=>
    have ZC:bF (.ptr τ::ms) (v::J7) ps=(fM v).toList++bF ms J7 ps:=rfl
    rw[ZC]at yk pB lB Ic
    simp only[A1]at h1
    have q5: ∀b,fM v=some b→ ∀i e',H i=some e'→e'.mut→fM (ν i)≠some b:=by
     intro b hb i e' hi jT eZ
     have lW:b∈(fM v).toList++bF ms J7 ps:=cW _ (by rw[hb];simp)
     rcases hold i e' b hi jT eZ with⟨h3,h4⟩|h3
     ·exact(pB b lW).elim (λh'=>ω) h4
     ·exact mC yk h3 lW
    have yB:=Mem.yC (c:=c) hm (id:=id) (v:=v) (e:= .obj τ (tg x)) (λe' wu=>by rw[HC]at wu;cases wu) h1 q5 (λb hb=>lB b (cW _ (by rw[hb];simp))) (λb e0 l0 he _=>by cases he) (.inl HC)
    have E6: ∀q∈io,q.1≠id:=λq hq e=>by
     have h9:=Bx q hq
     rw[e,HC]at h9;cases h9
    have ZD: ∀i,i≠id→dg ν id v i=ν i:=λi hi=>by simp[dg,hi]
    obtain⟨ν',r1,r2,r3,r4,r5,r6⟩:=og (ms:=ms) (x:=yj x) (us:=J7) (ps:=ps) (id:=id+1) (io:=io) (used:=used++(fM v).toList) yB h2
     (by rw[J5];exact qG λq hq=>(ZD _ (E6 q hq)).symm) (by simpa [ni]using EY) Dv
     (λq hq=>by rw[az _ _ (E6 q hq)];exact Bx q hq)
     (λi h3 h4=>by rw[az _ _ ω];exact ju i ω (by simp only[aR];omega))
     (λi e b hi jT hb=>by
      by_cases bX:i=id
      ·subst bX
       have:dg ν i v i=v:=by simp[dg]
       rw[this]at hb
       exact .inr (dz _ (by rw[hb];simp))
      ·rw[az _ _ bX]at hi
       rw[ZD i bX]at hb
       exact(hold i e b hi jT hb).imp (λh=>h) (cW _))
     (by rw[bu];exact yk) (λb hb=>pB b (dz _ hb)) (λb hb=>lB b (dz _ hb)) (λb hb=>Ic b (dz _ hb)) (λq hq e he b hb=>yi q hq e he b (by rw[ZD _ (E6 q hq)]at hb;exact hb))
    have ahl:id∉keys io:=λhk=>by
     obtain⟨q,hq,By⟩:=cD.1 hk
     exact E6 q hq By
    have p5:c5 (bY H id (some (.obj τ (tg x)))) (jS ms (yj x) (id+1) io).2.1 id=some (.obj τ (tg x)):=by
     rw[r4 id ahl (.inl ω),ax]
    refine⟨ν',r1,?_,λi hi=> ?_,λi h3 h4=> ?_,λi h3 h4 e he=> ?_,r6⟩
    ·simp only[JQ,jt,VR]
     refine⟨⟨_,p5,trivial,?_⟩,r2⟩
     simp only[A1,ER]at h1
     obtain⟨b,cs,t,VQ,_⟩:=h1
     exact⟨b,by rw[r3 id (by rw[ax];simp)];simp[dg,VQ],VQ⟩
    ·have bX:i≠id:=λe=>hi (e▸HC)
     rw[r3 i (by rw[az _ _ bX];exact hi),ZD i bX]
    ·have bX:i≠id:=by simp only[aR]at h4;omega
     have:=r4 i h3 (by simp only[aR]at h4;omega)
     rw[az _ _ bX]at this
     exact this
    ·by_cases h5:id+1≤i
     ·exact r5 i h5 (by simp only[aR]at h4;omega) e he
     ·have bX:i=id:=ω
      subst bX
      have he:c5 (bY H i (some (.obj τ (tg x)))) (jS ms (yj x) (i+1) io).2.1 i=some e:=he
      rw[p5]at he;cases he
      exact .inr ⟨τ,_,rfl⟩
end VM
end
section
namespace VM
open Go
variable{P:Program}{E:Env}{o:Oper}{a:Act}{w:World}{M:Nat→Prop}{ν:Nat→Value}{σ:St}{c:Ctx}{α:Type}{r:α}{next:Act→World→Prop}{Q:Exit→Act→World→Prop}
theorem MG{i:Nat}: ∀{ups:jb} {H:Nat→Option bh},i∈keys ups→ ∃u∈ups,u.1=i∧c5 H ups i=u.2
 |[],_,h=>by simp[keys]at h
 |u::r,H,h=>by
  by_cases hk:i∈keys r
  ·obtain⟨v,h1,h2,h3⟩:=MG (H:=bY H u.1 u.2) hk
   exact⟨v,aY _ h1,h2,h3⟩
  ·have hi:i=u.1:=by
    simp only[keys,bW,aX]at h hk
    exact h.resolve_right hk
   refine⟨u,bg,hi.symm,?_⟩
   show c5 (bY H u.1 u.2) r i=_
   rw[lA hk,hi,ax]
theorem E7: ∀{ups:jb} {H H':Nat→Option bh},(∀i,i∉keys ups→H i=H' i)→c5 H ups=c5 H' ups
 |[],H,H',h=>funext λi=>h i (by simp[keys])
 |u::r,H,H',h=>by
  refine E7 (ups:=r) λi hi=> ?_
  by_cases hu:i=u.1
  ·subst hu;rw[ax,ax]
  ·rw[az _ _ hu,az _ _ hu]
   exact h i (by simp only[keys,bW,aX,not_or];exact⟨hu,hi⟩)
theorem ER.len{v:Value}{e:Ty}{l:List e.den}(h:ER w M v (.own e l)): ∃ad cap,v= .slice ad l.length cap:=by
 simp only[ER]at h
 rcases h with⟨rfl,ad,rfl⟩|⟨b,cs,t,cap,h1,_⟩
 ·exact⟨ad,0,rfl⟩
 ·exact⟨_,cap,h1⟩
theorem RR.q6: ∀{ms:List AM} {x:HP ms} {us ps:List Value},RR w M ms x us ps→ ∀b∈bF ms us ps,M b
 |[],_,_,_,_,b,hb=>by simp[bF]at hb
 |m::ms,x,us,ps,h,b,hb=>by
  simp only[RR]at h
  rcases h with⟨p,Hf,h1,rfl,h2,h3⟩|⟨v,J7,h1,h2,rfl,h3,h4⟩
  ·simp only[bF,h1,gD,tp,tt,ba]at hb
   rcases hb with hb|hb
   ·cases m<;>simp[AM.iL]at h1<;>(simp only[da,fh,A1]at hb h2;exact h2.yf trivial hb)
   ·exact RR.q6 h3 b hb
  ·simp only[bF,h1,jc,eU,tp,tt,ba]at hb
   rcases hb with hb|hb
   ·cases m with
    |own e=>
     simp only[da,fh,A1]at hb h3
     exact h3.yf trivial hb
    |v _=>simp[da]at hb
    |io _=>simp[AM.iL]at h1
    |lo _=>simp[AM.iL]at h1
    |fn _ _=>simp[da]at hb
    |jr _=>simp[da]at hb
    |ptr τ=>
     simp only[da,fh,A1]at hb h3
     exact h3.yf trivial hb
   ·exact RR.q6 h4 b hb
theorem Im: ∀{l:List me} {p3:List bD} {S:me},Mm l p3=some S→S∈l
 |[],_,_,h=>by simp[Mm]at h
 |T::l,p3,S,h=>by
  unfold Mm at h
  cases hf:fits T.args p3
  ·rw[hf]at h;exact aY _ (Im h)
  ·rw[hf]at h;cases h;exact bg
theorem Cz{H:Nat→Option bh}{id:Nat}: ∀{n:Nat},uz H id n=true→ ∀i,id≤i→i<id+n→H i=none
 |0,_,i,h1,h2=>ω
 |n+1,h,i,h1,h2=>by
  unfold uz at h
  rw[bQ]at h
  by_cases hi:i=id+n
  ·subst hi
   have h:=h.1
   split at h
   ·assumption
   ·cases h
  ·exact Cz h.2 i h1 ω
theorem VS{H:Nat→Option bh}{p3:List bD}{us:List Value}(h:jt w M H ν p3 us):VR w M H ν (Mk p3) (wF us):=by
 match p3,us,h with
 |[],[],_=>simp[Mk,VR]
 |[a],[u],h=>simp only[jt,eT]at h;simpa [Mk,wF]using h
 |a::b::p3,u::v::us,h=>
  simp only[Mk,VR]
  exact⟨u::v::us,by simp[wF],h⟩
 |[],_::_,h=>simp[jt]at h
 |_::_,[],h=>simp[jt]at h
 |[_],_::_::_,h=>simp[jt]at h
 |_::_::_,[_],h=>simp[jt]at h
theorem MH(hΓ: ∀f S,S∈E.Γ f→iM P f S){H:Nat→Option bh}(hm:Mem c H w M ν){f id:Nat}{p3:List bD}{vs:List Value}(hv:jt w M H ν p3 vs){K:jf α}(h:Cm E f p3 id H K=some r)
  {R:Value→World→Prop} (hR: ∀v rd ups v' w' M' ν',K v rd ups=some r→Tr c H w M ν (c5 H ups) w' M' ν'→VR w' M' (c5 H ups) ν' v v'→R v' w'):
  MD P f vs.toArray w R:=by
 unfold Cm at h
 split at h
 ·cases h
 rename_i S hS
 have hok:=hΓ f S (Im hS)
 obtain⟨x,rd,uo,uf,io,H2,Hq,M2,h1,hA,hK,alS,ZA,Vg⟩:=Cy (jK.start hm) hv h
 clear h
 simp only[cL,je]at hA ZA Vg
 obtain⟨y,hy,h1⟩:=th.1 h1
 obtain⟨ju,h1⟩:=cB h1
 have ju:=Cz ju
 have aq7:(λb=>(M2 b∧b∉dO S.args vs)∨b∈dO S.args vs)=M2:=by
  funext b
  refine propext ⟨λh=>h.elim (·.1) (hA.hM b),λh=> ?_⟩
  by_cases hb:b∈dO S.args vs
  ·exact .inr hb
  ·exact .inl ⟨h,hb⟩
 refine MD.mono (hok.call (λb=>M2 b∧b∉dO S.args vs) w vs x y (λb hb=>hA.mem.EP b hb.1) (by rw[aq7];exact alS) hA.nd (λb hb h=>h.2 hb) hy) ?_
 rintro e w' ⟨us,M',rfl,Vh,hL,yk,hn0⟩
 have aq8: ∀b∈dO S.args vs,c.M0 b→M' b:=by
  intro b hb h0
  obtain⟨q,hq,hqb⟩:=hA.iob b hb h0
  exact Vh.q6 b (Vh.J8 (ν q.1) (by rw[←ZA];exact eS hq) b hqb)
 have pB: ∀b∈bF S.res us (fp S.args vs),w.heap.size≤b∨b∈dO S.args vs:=by
  intro b hb
  rcases oY b w.heap.size with fb|Y6
  ·exact .inr ((hL.less b fb (Vh.q6 b hb)).resolve_left (hn0 b hb))
  ·exact .inl Y6
 have lB: ∀b∈bF S.res us (fp S.args vs),c.B≤b∨c.may b:=λb hb=>(pB b hb).elim (λh=> .inl (cq hm.size h)) (hA.MF b)
 have Ic: ∀b∈bF S.res us (fp S.args vs),c.M0 b→ ∃p∈fp S.args vs,fM p=some b:=by
  intro b hb h0
  rcases pB b hb with h'|h'
  ·have:=hm.vG.1 b h0;have:=hm.size;omega
  ·obtain⟨q,hq,hqb⟩:=hA.iob b h' h0
   exact⟨ν q.1,by rw[←ZA];exact eS hq,hqb⟩
 have ara: ∀q∈io,∀e,q.2=AM.lo e→ ∀b,fM (ν q.1)=some b→ ¬c.M0 b:=by
  intro q hq e he b hb
  rcases(hA.Th q hq).2.2 with⟨τ0,z0,xD,_⟩|⟨e0,z0,xD,RI⟩
  ·rw[he]at xD;cases xD
  ·exact hm.yO q.1 e0 z0 b RI hb
 have key: ∀(Hx:Nat→Option bh) (Mx:Nat→Prop) (U:jb),Mem c Hx w Mx ν→fa w M w Mx→(∀b,M2 b→Mx b)→(∀b∈dO S.args vs,∀i e,Hx i=some e→e.mut→fM (ν i)≠some b)→
   (∀q∈io,Hx q.1=some .gone)→(∀i,i∉keys io→c5 H (uo++U) i=Hx i)→(∀u∈uo++U,u.2=some .gone∨ ∃e l,u.2=some (.oK e l)∧H u.1=some (.own e l))→(∀i∈keys (uo++U),i∈keys (uo++uf))→
   RR w' (λb=>M' b∨(Mx b∧b∉dO S.args vs)) S.res y us (fp S.args vs)→
   ∃ν',Tr c H w M ν (c5 H (uo++U++(jS S.res y id io).2.1)) w' (λb=>M' b∨(Mx b∧b∉dO S.args vs)) ν'∧
    jt w' (λb=>M' b∨(Mx b∧b∉dO S.args vs)) (c5 H (uo++U++(jS S.res y id io).2.1)) ν' (jS S.res y id io).1 us:=by
  intro Hx Mx U Hw hkx Tj vN MI ahm Ka hU hrr
  obtain⟨ly,Io⟩:=Hw.call (λb hb=>Tj b hb.1) (λb hb=>Tj b (hA.hM b hb)) vN hA.MF aq8 hL
  have hx: ∀i e,H i=some e→i∉keys io→ ∃e',Hx i=some e'∧e.lq e':=by
   intro i e hi E8
   rw[←ahm i E8]
   by_cases hk:i∈keys (uo++U)
   ·obtain⟨u,hu,hui,huv⟩:=MG (H:=H) hk
    rw[huv]
    rcases Ka u hu with h'|⟨e1,l1,h',J9⟩
    ·exact⟨_,h',bh.kO e⟩
    ·rw[hui,hi]at J9;cases J9;exact⟨_,h',rfl,rfl⟩
   ·rw[lA hk];exact⟨e,hi,.refl e⟩
  have VT: ∀i,id≤i→i<id+S.res.length→Hx i=none:=by
   intro i h3 h4
   have h0:=ju i h3 h4
   have E8:i∉keys io:=λhk=>by
    obtain⟨q,hq,By⟩:=cD.1 hk
    obtain⟨_,_,hz⟩:=hA.Th q hq
    exact hz.some (by rw[By];exact h0)
   rw[←ahm i E8]
   rw[lA,h0]
   intro hk
   obtain⟨_,e,l,h'⟩:=hA.ksn i (hU i hk)
   rw[h0]at h';cases h'
  obtain⟨ν',r1,r2,r3,r4,r5,r6⟩:=og (hs:=dO S.args vs) (sz:=w.heap.size) (id:=id) (used:=[]) ly hrr ZA.symm (by rw[←hok.ios,←Vg]) hA.ion MI VT
   (λi e b hi hmu hb=> .inl ⟨Hw.EP b ((Hw.la i e hi).yf hmu hb),λhh=>vN b hh i e hi hmu hb⟩) (by simpa using yk) pB lB Ic ara
  have ahn:c5 H (uo++U++(jS S.res y id io).2.1)=c5 Hx (jS S.res y id io).2.1:=by
   rw[gv]
   refine E7 λi hi=> ?_
   by_cases E8:i∈keys io
   ·obtain⟨q,hq,By⟩:=cD.1 E8
    rcases r6 q hq with⟨τ,z,_,hz⟩|⟨e,z,_,hz⟩
    ·rw[By,lA hi,←By,MI q hq]at hz;cases hz
    ·rw[By,lA hi,←By,MI q hq]at hz;cases hz
   ·exact ahm i E8
  refine⟨ν',⟨by rw[ahn];exact r1,hkx.trans Io,⟨λi e hi=> ?_,λi hi=> ?_⟩⟩,by rw[ahn];exact r2⟩
  ·rw[ahn]
   by_cases E8:i∈keys io
   ·obtain⟨q,hq,By⟩:=cD.1 E8
    obtain⟨_,_,hg0⟩:=hA.Th q hq
    rcases r6 q hq with⟨τ,z,YZ,hz⟩|⟨e2,z,YZ,hz⟩
    ·rcases hg0 with⟨τ0,z0,xD,RI⟩|⟨e0,z0,xD,RI⟩
     ·rw[YZ]at xD;cases xD
      rw[By]at hz RI
      rw[hi]at RI;cases RI
      exact⟨_,hz,rfl⟩
     ·rw[YZ]at xD;cases xD
    ·rcases hg0 with⟨τ0,z0,xD,RI⟩|⟨e0,z0,xD,RI⟩
     ·rw[YZ]at xD;cases xD
     ·rw[YZ]at xD;cases xD
      rw[By]at hz RI
      rw[hi]at RI;cases RI
      refine⟨_,hz,rfl,?_⟩
      obtain⟨a1,c1,k1⟩:=ER.len (hm.la i _ hi)
      obtain⟨a2,c2,k2⟩:=ER.len (r1.la i _ hz)
      rw[r3 i (by rw[←By,MI q hq];simp),k1]at k2
      simp only[Value.slice.injEq]at k2
      exact k2.2.1
   ·obtain⟨e',wu,hl⟩:=hx i e hi E8
    have hr:i<id∨id+S.res.length≤i:=by
     rcases oY i id with h'|h'
     ·exact .inl h'
     ·rcases oY i (id+S.res.length)with J9|J9
      ·rw[ju i h' J9]at hi;cases hi
      ·exact .inr J9
    exact⟨e',by rw[r4 i E8 hr];exact wu,hl⟩
  ·refine r3 i ?_
   obtain⟨e,he⟩:=Ej.1 hi
   by_cases E8:i∈keys io
   ·obtain⟨q,hq,By⟩:=cD.1 E8
    rw[←By,MI q hq];simp
   ·obtain⟨e',wu,_⟩:=hx i e he E8
    rw[wu];simp
 cases hq:S.quiet
 ·
  rw[hq]at h1
  have hMn:(λb=>M' b∨(M2 b∧b∉dO S.args vs))=M':=by
   funext b
   exact propext ⟨λh=>h.elim (λh=>h) (hL.sub b),.inl⟩
  obtain⟨ν',ix,hvr⟩:=key H2 M2 uf hA.mem hA.cc (λ_ h=>h) (λb hb i e hi hmu=>hA.none b hb i e (hA.fz.mut hi hmu) hmu) (λq hq=>(hA.Th q hq).1) hA.ext
   (λu hu=>(ba.1 hu).elim (λh=> .inl (hA.uov u h)) (λh=> .inr (hA.ufv u h))) (λ_ h=>h) (by rw[hMn];exact Vh)
  exact hR _ _ _ _ _ _ _ h1 ix (VS hvr)
 ·rw[hq]at h1
  have Tj: ∀b,M2 b→M b:=λb hb=>hA.cc.less b (hA.mem.EP b hb) hb
  obtain⟨ν',ix,hvr⟩:=key Hq M [] hA.ME (.refl w M) Tj hA.none (λq hq=>(hA.Th q hq).2.1) (by rw[ck];exact hA.VP)
   (λu hu=> .inl (hA.uov u (by simpa using hu))) (λi hi=>by simp only[keys,ck,cZ,ba]at hi ⊢;exact .inl hi) (Vh.flat (λb h=> .inl h) (hok.quiet hq))
  exact hR _ _ _ _ _ _ _ h1 ix (VS hvr)
theorem ZE(hΓ: ∀f S,S∈E.Γ f→iM P f S)(hc:Core c σ a.tmps w M ν){args:Array Operand}{ts:Array TypeId}{g:Operand}(ho:o.op= .call {callee:= .value g,args,argTypes:=ts}){K:jf α}{f:Nat}{caps:List bD}(hg:σ.ρ g= .Mf f caps){id:Nat}
  (h:Cm E f (args.toList.map σ.ρ ++caps) id σ.H K=some r) (hn:gg c σ a o w M ν K r next):o.wp P a w next Q:=by
 have hgv:=hc.ev g
 rw[hg]at hgv
 simp only[VR]at hgv
 obtain⟨cs,hgv,JY⟩:=hgv
 have MJ: ∀{as1:List bD} {VU:List Value},jt w M σ.H ν as1 VU→jt w M σ.H ν (as1++caps) (VU++cs):=by
  intro as1
  induction as1 with
  |nil=>intro VU h1;cases VU with
   |nil=>exact JY
   |cons _ _=>simp[jt]at h1
  |cons x as1 ih=>intro VU h1;cases VU with
   |nil=>simp[jt]at h1
   |cons v VU=>simp only[jt]at h1;simp only[kJ,jt];exact⟨h1.1,ih h1.2⟩
 have hd:=MH (P:=P) hΓ hc.mem (MJ (hc.evs args.toList)) h (R:=λv' w'=>next (a.put o.dst v') w') (λv rd ups v' w' M' ν' h1 h2 h3=>hn v rd ups v' w' M' ν' h1 h2 h3)
 have hex:(execOp a.eval o).run P w=(callFunc f (args.toList.map a.eval++cs).toArray).run P w:=by
  have:(args.toList.map a.eval++cs).toArray= #[]++args.map a.eval++cs.toArray:=by apply js;simp
  rw[this]
  simp[execOp,ho,resolve,hgv,Deferred.ofValue,invoke]
 unfold Oper.wp
 rw[hex]
 exact hd o a next Q λv w' hv=>hv
end VM
end
section
namespace VM
open Go
variable{P:Program}{E:Env}{o:Oper}{a:Act}{w:World}{M:Nat→Prop}{ν:Nat→Value}{σ:St}{c:Ctx}{α:Type}{r:α}{next:Act→World→Prop}{Q:Exit→Act→World→Prop}
structure tK(P:Program)(E:Env):Prop extends EnvTy P E where
 alW: ∀f S,S∈E.Γ f→iM P f S
 mixed:P.follows .mixedOrders=true
 kd: ∀i L,E.wi i=some L→VM.kd L=true
 VV: ∀i L,E.yd i=some L→VM.kd L=true
theorem Tk(hE:tK P E)(hc:Core c σ a.tmps w M ν){K:jf α}(h:td E o σ.ρ σ.H K=some r)(hn:gg c σ a o w M ν K r next):o.wp P a w next Q:=by
 have hT:=hE.toEnvTy
 unfold td at h
 simp only at h
 split at h
 ·rename_i x ho;exact RA hc (.inl ho) h hn
 ·rename_i x ho;exact RA hc (.inr ho) h hn
 ·rename_i x y z ho
  split at h
  ·rename_i t hx;exact Zl hc ho hx h hn
  ·cases h
 ·rename_i t ho
  split at h
  ·rename_i τ ht;exact Vy hT hc ho ht h hn
  ·cases h
 ·rename_i t x ho
  split at h
  ·rename_i τ ht;exact agY hT hc ho h hn
  ·cases h
 ·rename_i t ps ho
  split at h
  ·rename_i n e ht;exact J6 hT hc ho ht h hn
  ·rename_i τ hna ht;exact Du hT hc ho ht (λn e he=>hna n e he) h hn
  ·cases h
 ·rename_i t n ps ho
  split at h
  ·rename_i e ht;exact Hv hT hc ho ht h hn
  ·cases h
 ·rename_i t x ho
  split at h
  ·rename_i τ ht;exact Zm hT hc ho ht h hn
  ·cases h
 ·rename_i t x y ho
  split at h
  ·rename_i τ ht;exact Tc hT hc ho ht h hn
  ·cases h
 ·rename_i x ho
  split at h
  ·rename_i id p hx;exact Ds hc ho hx h hn
  ·rename_i τ z hx;exact Bu hc ho hx h hn
  ·cases h
 ·rename_i b t x y t' ho;exact VG hT hc ho h hn
 ·rename_i u t x ho;exact Zs hc ho h hn
 ·rename_i s d x ho
  split at h
  ·rename_i τ k hs hd;exact P9 hT hc ho hs hd h hn
  ·cases h
 ·rename_i f first caps ho;exact Mw hc ho h hn
 ·rename_i t x y ho
  split at h
  ·rename_i e ht;exact J2 hT hc ho ht h hn
  ·cases h
 ·rename_i t x lo hi mx ho
  split at h
  ·rename_i τ ht;exact VL hT hc ho ht h hn
  ·cases h
 ·rename_i t x n ho
  split at h
  ·rename_i τ ht
   split at h
   ·rename_i id p hx;exact Bt hT hc ho ht hx h hn
   ·rename_i υ z hx;exact Ab hT hc ho ht hx h hn
   ·cases h
  ·cases h
 ·rename_i t x n ho
  split at h
  ·rename_i τ ht
   split at h
   ·rename_i υ z hx;exact VE hT hc ho ht hx h hn
   ·cases h
  ·cases h
 ·rename_i t x i ho
  split at h
  ·rename_i τ ht;exact J0 hT hc ho ht h hn
  ·cases h
 ·rename_i t x i ho
  split at h
  ·rename_i τ ht;exact VJ hT hc ho ht h hn
  ·cases h
 ·rename_i x i ho
  split at h
  ·rename_i vs hx
   split at h
   ·rename_i v hv;exact P7 hc ho hx hv h hn
   ·cases h
  ·cases h
 ·rename_i cl ho
  obtain⟨callee,args,ts⟩:=cl
  simp only at h
  split at h
  ·split at h
   ·rename_i x τ ha ht;exact ag4 hT hc ho ha ht h hn
   ·cases h
  ·split at h
   ·rename_i x y t t' ha ht
    split at h
    ·rename_i e hte;exact Tg hT hc ho ha ht hte h hn
    ·cases h
   ·cases h
  ·split at h
   ·rename_i x xs ha;exact afO hc true ho ha h hn
   ·cases h
  ·split at h
   ·rename_i x xs ha;exact afO hc false ho ha h hn
   ·cases h
  ·rename_i g
   split at h
   ·rename_i f caps hg;exact ZE hE.alW hc ho hg h hn
   ·cases h
  ·cases h
 ·cases h
end VM
end
section
namespace VM
open Go
variable{P:Program}{E:Env}{o:Oper}{a:Act}{w:World}{M:Nat→Prop}{ν:Nat→Value}{σ:St}{c:Ctx}{α:Type}{r:α}{next:Act→World→Prop}{Q:Exit→Act→World→Prop}
theorem uE(σ:St)(d:Nat)(v:bD):(σ.put d v).T d=v:=by
 show cond (Nat.beq d d) v (σ.T d)=v
 rw[show Nat.beq d d=true from tz d];rfl
theorem Ah(σ:St){d i:Nat}(v:bD)(h:i≠d):(σ.put d v).T i=σ.T i:=by
 show cond (Nat.beq i d) v (σ.T i)=σ.T i
 have:Nat.beq i d=false:=by rw[←m0,we];exact h
 rw[this];rfl
theorem awb(σ:St)(d:Nat)(v:bD):(σ.put d v).H=σ.H:=rfl
theorem E9(σ:St)(d:Nat):σ.put d (σ.T d)=σ:=by
 obtain⟨T,H⟩:=σ
 unfold St.put
 congr 1
 funext i
 by_cases h:i=d
 ·subst h;show cond (Nat.beq i i) (T i) (T i)=T i;cases Nat.beq i i<;>rfl
 ·have:Nat.beq i d=false:=by rw[←m0,we];exact h
  rw[this];rfl
theorem Core.tr{tm:Array Value}(h:Core c σ tm w M ν){H':Nat→Option bh}{w':World}{M':Nat→Prop}{ν':Nat→Value}(t:Tr c σ.H w M ν H' w' M' ν'):Core c ⟨σ.T,H'⟩ tm w' M' ν':=
 ⟨t.mem,λi=>VR.cc t.cc t.goes (h.tmp i)⟩
theorem Core.vB{tm:Array Value}(h:Core c σ tm w M ν){d:Option Nat}{x:bD}{v:Value}{io:List Nat}(hd:Mg tm.size io d=true)(hx:VR w M σ.H ν x v)(ds:List Deferred):
  Core c (σ.vB d x) (({tmps:=tm,defers:=ds}:Act).put d v).tmps w M ν:=by
 cases d with
 |none=>exact h
 |some d=>
  have fb:d<tm.size:=by simp only[Mg,bQ,zO]at hd;exact hd.1
  refine⟨h.mem,λi=> ?_⟩
  show VR w M σ.H ν ((σ.put d x).T i) ((tm.setIfInBounds d v).getD i undef)
  by_cases hi:i=d
  ·subst hi
   rw[uE]
   simp[Array.getD,fb]
   exact hx
  ·rw[Ah _ _ hi]
   have:=h.tmp i
   have he:(tm.setIfInBounds d v).getD i undef=tm.getD i undef:=by
    rw[sq,sq,LK (eJ hi)]
   rw[he];exact this
def Inv(c:Ctx)(E:Env)(σ:St)(a:Act)(w:World):Prop:=(∃M ν,Core c σ a.tmps w M ν)∧a.tmps.size=E.nt∧a.defers=[]∧ ∀i∈E.io,a.tmps.getD i undef=c.arg i
theorem MK(a:Act)(d:Option Nat)(v:Value):(a.put d v).tmps.size=a.tmps.size:=by
 cases d<;>simp[Act.put]
theorem put_defers(a:Act)(d:Option Nat)(v:Value):(a.put d v).defers=a.defers:=by
 cases d<;>rfl
theorem RK{d:Option Nat}{v:Value}{io:List Nat}{n:Nat}(hd:Mg n io d=true){i:Nat}(hi:i∈io):(a.put d v).tmps.getD i undef=a.tmps.getD i undef:=by
 cases d with
 |none=>rfl
 |some d=>
  simp only[Mg,bQ,qK]at hd
  have h1:=hd.2 i hi
  have jB:i≠d:=by
   intro e;subst e
   simp at h1
  show(a.tmps.setIfInBounds d v).getD i undef=_
  rw[sq,sq,LK (eJ jB)]
theorem Inv.bool(h:Inv c E σ a w){x:Operand}{b:Bool}(hx:σ.ρ x= .val .bool b):a.eval x= .bool b:=by
 obtain⟨⟨M,ν,hc⟩,_,_,_⟩:=h
 have:=hc.ev x
 rw[hx]at this
 exact this.bool
theorem CA(hE:tK P E){ops:Array Oper}(hI:Inv c E σ a w){K:St→List Nat→List Nat→Option α}(h:tC E ops.toList o σ K=some r)
  (hn: ∀σ' a' w' rd wr,K σ' rd wr=some r→Inv c E σ' a' w'→next a' w'):
  if Region.wanted o (yielded ops a.tmps)then o.wp P a w next Q else next (a.put o.dst undef) w:=by
 unfold tC at h
 obtain⟨hd,h⟩:=cB h
 have dE:td E o σ.ρ σ.H (λv rd ups=>K ((σ.wg ups).vB o.dst v) rd (ups.map (·.1)))=some r→o.wp P a w next Q:=by
  intro h
  obtain⟨⟨M,ν,hc⟩,hs,aho,yl⟩:=hI
  refine Tk hE hc h λv rd ups v' w' M' ν' hK ix hV=> ?_
  refine hn _ _ _ _ _ hK ⟨⟨M',ν',?_⟩,by rw[MK,hs],by rw[put_defers,aho],λi hi=>(RK hd hi).trans (yl i hi)⟩
  have h1:=hc.tr ix
  have h2:σ.wg ups=⟨σ.T,c5 σ.H ups⟩:=by rw[←P4,←P5 ups σ]
  rw[h2]
  exact h1.vB (by rw[hs];exact hd) hV a.defers
 have sD: ∀rd wr,K (σ.vB o.dst .Vt) rd wr=some r→next (a.put o.dst undef) w:=by
  intro rd wr h
  obtain⟨⟨M,ν,hc⟩,hs,aho,yl⟩:=hI
  refine hn _ _ _ _ _ h ⟨⟨M,ν,hc.vB (by rw[hs];exact hd) (by simp[VR]) a.defers⟩,by rw[MK,hs],by rw[put_defers,aho],λi hi=>(RK hd hi).trans (yl i hi)⟩
 simp only at h
 split at h
 ·rename_i hg
  have:Region.wanted o (yielded ops a.tmps)=true:=by simp[Region.wanted,hg]
  rw[aj this]
  exact dE h
 ·rename_i j want hg
  split at h
  ·cases h
  ·rename_i t ht
   have ht':(ops[j]?).bind (·.dst)=some t:=by rw[←gV];exact ht
   have hy: ∀b,σ.T t= .val .bool b→yielded ops a.tmps j=some b:=by
    intro b hb
    obtain⟨⟨M,ν,hc⟩,hs,_,_⟩:=hI
    have h1:=hc.tmp t
    rw[hb]at h1
    have h1:=h1.bool
    have h2:a.tmps[t]? =some (.bool b):=by
     rw[sq]at h1
     cases h3:a.tmps[t]? with
     |none=>rw[h3]at h1;simp[undef]at h1
     |some v=>rw[h3]at h1;simpa using h1
    simp[yielded,ht',h2]
   split at h
   ·rename_i b hb
    have pR:σ.put t (.val .bool b)=σ:=by rw[←hb];exact E9 σ t
    have hw:=hy b hb
    cases want<;>cases b
    ·rw[aj (by simp[Region.wanted,hg,hw])]
     rw[pR]at h;exact dE h
    ·rw[ah (by simp[Region.wanted,hg,hw])]
     rw[pR]at h;exact sD _ _ h
    ·rw[ah (by simp[Region.wanted,hg,hw])]
     rw[pR]at h;exact sD _ _ h
    ·rw[aj (by simp[Region.wanted,hg,hw])]
     rw[pR]at h;exact dE h
   ·rename_i hb
    have z8: ¬Region.wanted o (yielded ops a.tmps)=true:=by
     obtain⟨⟨M,ν,hc⟩,hs,_,_⟩:=hI
     have h1:=hc.tmp t
     rw[hb]at h1
     simp only[VR]at h1
     have h2: ∀b,a.tmps[t]? ≠some (.bool b):=by
      intro b eZ
      rw[sq,eZ]at h1
      simp[undef]at h1
     have h3:yielded ops a.tmps j=none:=by
      unfold yielded
      rw[ht']
      show(match a.tmps[t]? with|some (.bool b)=>some b|_=>none)=none
      split
      ·rename_i b eZ;exact absurd eZ (h2 b)
      ·rfl
     simp[Region.wanted,hg,h3]
    rw[ah z8]
    exact sD _ _ h
   ·cases h
theorem Fa(hE:tK P E){ops:Array Oper}: ∀(l:List Oper) (i:Nat) (σ:St) (lg:Log) (a:Act) (w:World) (K:St→Log→Option α),Inv c E σ a w→S4 E ops.toList l i σ lg K=some r→
  (∀σ' lg' a' w',K σ' lg'=some r→Inv c E σ' a' w'→Q .normal a' w')→wpList P ops Q l a w
 |[],i,σ,lg,a,w,K,hI,h,hn=>hn _ _ _ _ h hI
 |o::l,i,σ,lg,a,w,K,hI,h,hn=>by
  unfold S4 at h
  refine wpList_step λK' hK'=> ?_
  exact CA hE hI h fun σ' a' w' rd wr h' yD=>hK' _ _ (Fa hE l (i+1) σ' _ a' w' K yD h' hn)
theorem ML(hI:Inv c E σ a w){x:Operand}{A B:St→Option α}(h:Ia E x σ A B=some r): ∃b,a.eval x= .bool b∧(if b then A σ else B σ)=some r:=by
 unfold Ia at h
 split at h
 ·rename_i b hb
  refine⟨b,hI.bool hb,?_⟩
  split at h
  ·rename_i t
   have hb:σ.T t= .val .bool b:=hb
   have pR:σ.put t (.val .bool b)=σ:=by rw[←hb];exact E9 σ t
   cases b
   ·rw[pR]at h;exact h
   ·rw[pR]at h;exact h
  ·cases b<;>exact h
 ·cases h
end VM
end
section
namespace VM
open Go
variable{P:Program}{E:Env}{o:Oper}{a:Act}{w:World}{M:Nat→Prop}{ν:Nat→Value}{σ:St}{c:Ctx}{α:Type}{r:α}{next:Act→World→Prop}{Q:Exit→Act→World→Prop}
def mix{β:Type}(A B:Nat→β):Nat→β:=λi=>if i%2=0 then A (i/2)else B (i/2)
theorem iy{β:Type}(A B:Nat→β)(i:Nat):mix A B (2*i)=A i:=by
 unfold mix
 rw[aj ω,show 2*i/2=i from by omega]
theorem vr{β:Type}(A B:Nat→β)(i:Nat):mix A B (2*i+1)=B i:=by
 unfold mix
 rw[ah ω,show(2*i+1)/2=i from by omega]
theorem akZ{β:Type}{A B A' B':Nat→β}(hl: ∀i,A i=A' i)(hr: ∀i,B i=B' i):mix A B=mix A' B':=by
 funext i;unfold mix;rw[hl,hr]
def bh.re(f:Nat→Nat):bh→bh
 | .gk τ x p j=> .gk τ x p (f j)
 |e=>e
theorem ER.re{v:Value}{f:Nat→Nat}{e:bh}:ER w M v (e.re f)↔ER w M v e:=by cases e<;>simp[bh.re,ER]
theorem bh.q7{f:Nat→Nat}{e:bh}:(e.re f).mut↔e.mut:=by cases e<;>simp[bh.re,bh.mut]
theorem bh.RL{f g:Nat→Nat}{e e':bh}:(e.re f).lq (e'.re g)↔e.lq e':=by cases e<;>cases e'<;>simp[bh.re,bh.lq]
def ml(i:Nat):Nat:=2*i
def mr(i:Nat):Nat:=2*i+1
def jg(A B:Nat→Option bh):Nat→Option bh:=λi=>if i%2=0 then(A (i/2)).map (bh.re ml)else(B (i/2)).map (bh.re mr)
theorem yU(A B:Nat→Option bh)(i:Nat):jg A B (2*i)=(A i).map (bh.re ml):=by
 unfold jg
 rw[aj ω,show 2*i/2=i from by omega]
theorem uF(A B:Nat→Option bh)(i:Nat):jg A B (2*i+1)=(B i).map (bh.re mr):=by
 unfold jg
 rw[ah ω,show(2*i+1)/2=i from by omega]
theorem iF{A B:Nat→Option bh}{i:Nat}{e:bh}(h:A i=some e):jg A B (2*i)=some (e.re ml):=by rw[yU,h];rfl
theorem uG{A B:Nat→Option bh}{i:Nat}{e:bh}(h:B i=some e):jg A B (2*i+1)=some (e.re mr):=by rw[uF,h];rfl
theorem Kb{A B:Nat→Option bh}{i:Nat}:jg A B (2*i)≠none↔A i≠none:=by rw[yU];cases A i<;>simp
theorem Kc{A B:Nat→Option bh}{i:Nat}:jg A B (2*i+1)≠none↔B i≠none:=by rw[uF];cases B i<;>simp
theorem ra(A B:Nat→Option bh)(i:Nat)(v:Option bh):bY (jg A B) (2*i) (v.map (bh.re ml))=jg (bY A i v) B:=by
 funext k
 by_cases hk:k=2*i
 ·subst hk;rw[ax,yU,ax]
 ·rw[az _ _ hk]
  unfold jg
  by_cases h2:k%2=0
  ·rw[aj h2,aj h2,az _ _ ω]
  ·rw[ah h2,ah h2]
theorem Fb(A B:Nat→Option bh)(i:Nat)(v:Option bh):bY (jg A B) (2*i+1) (v.map (bh.re mr))=jg A (bY B i v):=by
 funext k
 by_cases hk:k=2*i+1
 ·subst hk;rw[ax,uF,ax]
 ·rw[az _ _ hk]
  unfold jg
  by_cases h2:k%2=0
  ·rw[aj h2,aj h2]
  ·rw[ah h2,ah h2,az _ _ ω]
theorem Fc(A B:Nat→Value)(i:Nat)(v:Value):dg (mix A B) (2*i+1) v=mix A (dg B i v):=by
 funext k
 unfold dg mix
 by_cases hk:k=2*i+1
 ·subst hk;rw[aj rfl,ah ω]
  show v=if(2*i+1)/2=i then v else B ((2*i+1)/2)
  rw[aj ω]
 ·rw[ah hk]
  by_cases h2:k%2=0
  ·rw[aj h2,aj h2]
  ·rw[ah h2,ah h2]
   show B (k/2)=if k/2=i then v else B (k/2)
   rw[ah ω]
theorem Mem.left{H A:Nat→Option bh}{νA:Nat→Value}(h:Mem c (jg H A) w M (mix ν νA)):Mem c H w M ν:=
 ⟨λi e hi=>by have:=h.la (2*i) _ (iF hi);rw[iy]at this;exact ER.re.1 this,
  λi j e e' b pQ hi hm hj jT=>by have:=h.zW (2*i) (2*j) _ _ b ω (iF hi) (bh.q7.2 hm) (iF hj) (bh.q7.2 jT);rwa [iy,iy]at this,
  λi e b hi hm=>by have:=h.new (2*i) _ b (iF hi) (bh.q7.2 hm);rwa [iy]at this,
  λi e l b hi=>by have:=h.yO (2*i) e l b (iF hi);rwa [iy]at this,
  λi τ x p j hi=>by
   obtain⟨h1,b,h2,h3⟩:=h.gk (2*i) τ x p (ml j) (iF hi)
   rw[iy]at h2
   unfold ml at h1 h3
   rw[iy]at h3
   exact⟨Kb.1 h1,b,h2,h3⟩,
  h.sub,h.EP,h.frame,h.size,h.vG,h.os,h.tape,h.output⟩
theorem Mem.right{H A:Nat→Option bh}{νA:Nat→Value}(h:Mem c (jg H A) w M (mix ν νA)):Mem c A w M νA:=
 ⟨λi e hi=>by have:=h.la (2*i+1) _ (uG hi);rw[vr]at this;exact ER.re.1 this,
  λi j e e' b pQ hi hm hj jT=>by have:=h.zW (2*i+1) (2*j+1) _ _ b ω (uG hi) (bh.q7.2 hm) (uG hj) (bh.q7.2 jT);rwa [vr,vr]at this,
  λi e b hi hm=>by have:=h.new (2*i+1) _ b (uG hi) (bh.q7.2 hm);rwa [vr]at this,
  λi e l b hi=>by have:=h.yO (2*i+1) e l b (uG hi);rwa [vr]at this,
  λi τ x p j hi=>by
   obtain⟨h1,b,h2,h3⟩:=h.gk (2*i+1) τ x p (mr j) (uG hi)
   rw[vr]at h2
   unfold mr at h1 h3
   rw[vr]at h3
   exact⟨Kc.1 h1,b,h2,h3⟩,
  h.sub,h.EP,h.frame,h.size,h.vG,h.os,h.tape,h.output⟩
theorem Mem.ZF{H:Nat→Option bh}(νA:Nat→Value)(h:Mem c H w M ν):Mem c (jg H (λ_=>none)) w M (mix ν νA):=by
 have key: ∀i e,jg H (λ_=>none) i=some e→ ∃j e0,i=2*j∧H j=some e0∧e=e0.re ml:=by
  intro i e hi
  unfold jg at hi
  by_cases h2:i%2=0
  ·rw[aj h2]at hi
   obtain⟨e0,h3,h4⟩:=zx.1 hi
   exact⟨i/2,e0,ω,h3,h4.symm⟩
  ·rw[ah h2]at hi;cases hi
 refine⟨λi e hi=> ?_,λi j e e' b pQ hi hm hj jT=> ?_,λi e b hi hm=> ?_,λi e l b hi=> ?_,λi τ x p j hi=> ?_,h.sub,h.EP,h.frame,h.size,h.vG,h.os,h.tape,h.output⟩
 ·obtain⟨j,e0,rfl,hj,rfl⟩:=key i e hi;rw[iy];exact ER.re.2 (h.la j e0 hj)
 ·obtain⟨i',e1,rfl,nc,rfl⟩:=key i e hi;obtain⟨j',e2,rfl,Y7,rfl⟩:=key j e' hj
  rw[iy,iy];exact h.zW i' j' e1 e2 b ω nc (bh.q7.1 hm) Y7 (bh.q7.1 jT)
 ·obtain⟨j,e0,rfl,hj,rfl⟩:=key i e hi;rw[iy];exact h.new j e0 b hj (bh.q7.1 hm)
 ·obtain⟨j,e0,rfl,hj,he⟩:=key i _ hi
  cases e0<;>simp only[bh.re]at he<;>cases he
  rw[iy];exact h.yO j e l b hj
 ·obtain⟨k,e0,rfl,hk,he⟩:=key i _ hi
  cases e0<;>simp only[bh.re]at he<;>cases he
  obtain⟨h1,b,h2,h3⟩:=h.gk k _ _ _ _ hk
  refine⟨Kb.2 h1,b,by rw[iy];exact h2,?_⟩
  unfold ml
  rw[iy];exact h3
theorem sY.left{H A H' A':Nat→Option bh}{νA ν' Tl:Nat→Value}(g:sY (jg H A) (mix ν νA) (jg H' A') (mix ν' Tl)):sY H ν H' ν':=
 ⟨λi e hi=>by
   obtain⟨e',h1,h2⟩:=g.la (2*i) _ (iF hi)
   rw[yU]at h1
   obtain⟨e0,h3,rfl⟩:=zx.1 h1
   exact⟨e0,h3,bh.RL.1 h2⟩,
  λi hi=>by have:=g.head (2*i) (Kb.2 hi);rwa [iy,iy]at this⟩
theorem sY.right{H A H' A':Nat→Option bh}{νA ν' Tl:Nat→Value}(g:sY (jg H A) (mix ν νA) (jg H' A') (mix ν' Tl)):sY A νA A' Tl:=
 ⟨λi e hi=>by
   obtain⟨e',h1,h2⟩:=g.la (2*i+1) _ (uG hi)
   rw[uF]at h1
   obtain⟨e0,h3,rfl⟩:=zx.1 h1
   exact⟨e0,h3,bh.RL.1 h2⟩,
  λi hi=>by have:=g.head (2*i+1) (Kc.2 hi);rwa [vr,vr]at this⟩
theorem Mem.move{H A:Nat→Option bh}{νA:Nat→Value}(h:Mem c (jg H A) w M (mix ν νA)){i j:Nat}{e e1:bh}(hi:H i=some e)(hm:e.mut)(hj:A j=none)
  (P6:(e1=e∧ ∀τ x p k,e≠ .gk τ x p k)∨ ∃τ x p k k',e= .gk τ x p k∧e1= .gk τ x p k'∧A k'≠none∧νA k'=ν k):
  Tr c (jg H A) w M (mix ν νA) (jg (bY H i (some .gone)) (bY A j (some e1))) w M (mix ν (dg νA j (ν i))):=by
 have hg:=Tr.gone h (2*i)
 have hgo:(some bh.gone)=(some bh.gone).map (bh.re ml):=rfl
 rw[hgo,ra]at hg
 have Vg:=iF (B:=A) hi
 have hER:ER w M (ν i) (e1.re mr):=by
  have h1:=h.la (2*i) _ Vg
  rw[iy]at h1
  have h1:=ER.re.1 h1
  rcases P6 with⟨rfl,_⟩|⟨τ,x,p,k,k',rfl,rfl,_,_⟩
  ·exact ER.re.2 h1
  ·exact h1
 have h2:=Mem.yC hg.mem (id:=2*j+1) (v:=ν i) (e:=e1.re mr) (λe' wu=>by rw[uF,hj]at wu;cases wu)
  hER
  (λb hb k e' hk jT=>by
   by_cases Y5:k=2*i
   ·subst Y5;rw[yU,ax]at hk;cases hk;simp[bh.re,bh.mut]at jT
   ·have hk3:jg H A k=some e':=by
     have:=congrFun (ra H A i (some .gone)) k
     rw[az _ _ Y5]at this
     rw[this];exact hk
    have:=h.zW (2*i) k _ e' b (eJ Y5) Vg (bh.q7.2 hm) hk3 jT
    rw[iy]at this
    exact this hb)
  (λb hb=>by have:=h.new (2*i) _ b Vg (bh.q7.2 hm);rw[iy]at this;exact this hb)
  (λb e0 l0 he hb=>by
   rcases P6 with⟨rfl,_⟩|⟨τ,x,p,k,k',rfl,rfl,_,_⟩
   ·cases e1<;>simp only[bh.re]at he<;>cases he
    have:=h.yO (2*i) e0 l0 b Vg;rw[iy]at this;exact this hb
   ·simp[bh.re]at he)
  (.inl (by rw[uF,hj];rfl))
  (fun τ x p k he=>by
   rcases P6 with⟨rfl,hn⟩|⟨τ,x,p,k,k',rfl,rfl,hk,hνk⟩
   ·cases e1<;>simp only[bh.re]at he<;>cases he
    exact absurd rfl (hn _ _ _ _)
   ·simp only[bh.re]at he
    cases he
    obtain⟨_,b,h4,h5⟩:=h.gk (2*i) _ _ _ _ Vg
    rw[iy]at h4
    have hkj:k'≠j:=λe=>hk (e▸hj)
    refine⟨?_,b,h4,?_⟩
    ·rw[az _ _ (by unfold mr;omega)]
     unfold mr
     exact Kc.2 hk
    ·unfold ml at h5
     rw[iy]at h5
     rw[h5,←hνk]
     have:dg (mix ν νA) (2*j+1) (ν i) (mr k')=mix ν νA (mr k'):=by
      unfold dg mr;rw[ah ω]
     rw[this];unfold mr;rw[vr])
 have ZG:some (e1.re mr)=(some e1).map (bh.re mr):=rfl
 rw[ZG,Fb,Fc]at h2
 refine⟨h2,.refl w M,⟨λk e' hk=> ?_,λk hk=> ?_⟩⟩
 ·by_cases h3:k%2=0
  ·obtain⟨k',rfl⟩: ∃k',k=2*k':=⟨k/2,ω⟩
   by_cases E8:k'=i
   ·subst E8;exact⟨.gone,by rw[yU,ax];rfl,bh.kO _⟩
   ·exact⟨e',by rw[yU]at hk ⊢;rw[az _ _ E8];exact hk,.refl e'⟩
  ·obtain⟨k',rfl⟩: ∃k',k=2*k'+1:=⟨k/2,ω⟩
   rw[uF]at hk ⊢
   have E8:k'≠j:=λe=>by rw[e,hj]at hk;cases hk
   exact⟨e',by rw[az _ _ E8];exact hk,.refl e'⟩
 ·by_cases h3:k%2=0
  ·obtain⟨k',rfl⟩: ∃k',k=2*k':=⟨k/2,ω⟩
   rw[iy,iy]
  ·obtain⟨k',rfl⟩: ∃k',k=2*k'+1:=⟨k/2,ω⟩
   rw[vr,vr]
   have E8:k'≠j:=λe=>by rw[uF,e,hj]at hk;exact hk rfl
   simp[dg,E8]
theorem Mem.fresh{H A:Nat→Option bh}{νA:Nat→Value}(h:Mem c (jg H A) w M (mix ν νA)){j:Nat}(hj:A j=none)(e:Ty)(ad:Option Addr):
  Tr c (jg H A) w M (mix ν νA) (jg H (bY A j (some (.own e [])))) w M (mix ν (dg νA j (.slice ad 0 0))):=by
 have:=Tr.nothing h (id:=2*j+1) (by rw[uF,hj];rfl) e ad
 have ZG:some (bh.own e [])=(some (bh.own e [])).map (bh.re mr):=rfl
 rw[ZG,Fb,Fc]at this
 exact this
structure Cut(c:Ctx)(σ acc:St)(tm:Array Value)(w:World)(M:Nat→Prop)(ν νA:Nat→Value):Prop where
 mem:Mem c (jg σ.H acc.H) w M (mix ν νA)
 src: ∀i,VR w M σ.H ν (σ.T i) (tm.getD i undef)
 dst: ∀i,VR w M acc.H νA (acc.T i) (tm.getD i undef)
theorem Cut.tr{acc:St}{tm:Array Value}{νA:Nat→Value}(h:Cut c σ acc tm w M ν νA){H' A':Nat→Option bh}{M':Nat→Prop}{Tl:Nat→Value}(t:Tr c (jg σ.H acc.H) w M (mix ν νA) (jg H' A') w M' (mix ν Tl)){s:Nat}{x:bD}(hx:VR w M' A' Tl x (tm.getD s undef)):
  Cut c ⟨σ.T,H'⟩ ⟨(acc.put s x).T,A'⟩ tm w M' ν Tl:=by
 refine⟨t.mem,λi=>VR.cc t.cc t.goes.left (h.src i),λi=> ?_⟩
 show VR w M' A' Tl ((acc.put s x).T i) _
 by_cases hi:i=s
 ·subst hi;rw[uE];exact hx
 ·rw[Ah _ _ hi];exact VR.cc t.cc t.goes.right (h.dst i)
def VW(A:Nat→Option bh)(s:Nat):Prop:=A (16*s+13)=none∧A (16*s+14)=none∧A (16*s+15)=none
theorem mg{q:Nat×CM}{L:List (Nat×CM)}{A:Nat→Option bh}(hF:kd (q::L)=true)(hN: ∀p∈q::L,VW A p.1):
  kd L=true∧(∀p∈L,VW A p.1)∧
   ∀(A':Nat→Option bh) (d:Nat) (v:Option bh),(d=16*q.1+13∨d=16*q.1+14∨d=16*q.1+15)→(∀p∈L,VW A' p.1)→ ∀p∈L,VW (bY A' d v) p.1:=by
 unfold kd at hF
 rw[bQ,qK]at hF
 refine⟨hF.2,λp hp=>hN p (aY _ hp),λA' d v hd hN' p hp=> ?_⟩
 have jB:p.1≠q.1:=λe=>by
  have:=hF.1 p hp
  rw[e]at this
  simp at this
 obtain⟨h1,h2,h3⟩:=hN' p hp
 exact⟨by rw[az _ _ ω];exact h1,by rw[az _ _ ω];exact h2,by rw[az _ _ ω];exact h3⟩
theorem eV{tm:Array Value}: ∀(L:List (Nat×CM)) (σ acc:St) (M:Nat→Prop) (νA:Nat→Value) (K:St→Option α),Cut c σ acc tm w M ν νA→kd L=true→(∀q∈L,VW acc.H q.1)→ic L σ acc K=some r→
  ∃ZH M' Tl,K ZH=some r∧Core c ZH tm w M' Tl
 |[],σ,acc,M,νA,K,hC,_,_,h=>⟨acc,M,νA,h,hC.mem.right,hC.dst⟩
 |(s,.v τ)::L,σ,acc,M,νA,K,hC,hF,hN,h=>by
  obtain⟨PU,PV,Tm⟩:=mg hF hN
  unfold ic at h
  obtain⟨y,rd,ups,h,hy⟩:=DY hC.mem.left (hC.src s) h
  rcases hy with⟨rfl,hV⟩|⟨id,e,l,rfl,bf,hV⟩
  ·exact eV L σ _ M νA K (hC.tr (.refl hC.mem) (x:= .val τ y) (by simp only[VR];exact hV)) PU PV h
  ·obtain⟨M2,ix,_,JZ⟩:=Tr.freeze hC.mem (id:=2*id) (iF bf)
   have ZG:some (bh.oK e l)=(some (bh.oK e l)).map (bh.re ml):=rfl
   rw[ZG,ra]at ix
   refine eV L _ _ M2 νA K (hC.tr ix (x:= .val τ y) ?_) PU PV h
   simp only[VR]
   exact hV M2 (λb=>by rw[JZ b,iy])
 |(s,.own e)::L,σ,acc,M,νA,K,hC,hF,hN,h=>by
  obtain⟨PU,PV,Tm⟩:=mg hF hN
  unfold ic at h
  have hs:=hC.src s
  split at h
  ·rename_i hT
   have hj:=(hN _ bg).2.1
   rw[hT]at hs
   obtain⟨ad,hv⟩:=VR.emp.1 hs
   refine eV L σ _ M _ K (hC.tr (hC.mem.fresh hj e ad) (x:= .ref (16*s+14)) ?_) PU (Tm _ _ _ (.inr (.inl rfl)) PV) h
   simp only[VR]
   exact⟨by rw[ax];simp,by rw[hv];simp[dg]⟩
  ·rename_i id hT
   rw[hT]at hs
   simp only[VR]at hs
   split at h
   ·rename_i e' l bf
    obtain⟨e1,h⟩:=bC h
    cases e1
    have hj:=(hN _ bg).2.1
    refine eV L _ _ M _ K (hC.tr (hC.mem.move bf trivial hj (.inl ⟨rfl,λ_ _ _ _=>by simp⟩)) (x:= .ref (16*s+14)) ?_) PU (Tm _ _ _ (.inr (.inl rfl)) PV) h
    simp only[VR]
    exact⟨by rw[ax];simp,by rw[hs.2];simp[dg]⟩
   ·cases h
  ·cases h
 |(s,.obj τ)::L,σ,acc,M,νA,K,hC,hF,hN,h=>by
  obtain⟨PU,PV,Tm⟩:=mg hF hN
  unfold ic at h
  have hs:=hC.src s
  split at h
  ·rename_i id hT
   rw[hT]at hs
   split at h
   ·rename_i υ x bf
    obtain⟨e1,h⟩:=bC h
    subst e1
    have hj:=(hN _ bg).2.1
    simp only[VR]at hs
    obtain⟨e,he,nR⟩:=hs
    rw[bf]at he;cases he
    simp only[AR]at nR
    obtain⟨_,b,hb,hv⟩:=nR
    refine eV L _ _ M _ K (hC.tr (hC.mem.move bf trivial hj (.inl ⟨rfl,λ_ _ _ _=>by simp⟩)) (x:= .jr (16*s+14) []) ?_) PU (Tm _ _ _ (.inr (.inl rfl)) PV) h
    simp only[VR]
    exact⟨_,ax _ _ _,trivial,b,by simp[dg,hb],hv⟩
   ·
    rename_i υ x q k bf
    obtain⟨z,ups,M2,hK,ix,alX,b,cs,t,hb,hg,JZ,kX⟩: ∃z ups M2,c8 υ τ z (λy=>ic L ((σ.wg ups).jR id (some .gone)) ((acc.put s (.jr (16*s+14) [])).jR (16*s+14) (some (.obj τ y))) K)=some r∧
      Tr c (jg σ.H acc.H) w M (mix ν νA) (jg (c5 σ.H ups) acc.H) w M2 (mix ν νA)∧c5 σ.H ups id=some (.gk υ x q k)∧ ∃b cs t,ν id= .pointer (some ⟨b,0,none⟩)∧w.heap[b]? =some (.cells cs t (0,0))∧M2 b∧Rd w M2 υ cs.toList z:=by
     have alY:=iF (B:=acc.H) bf
     unfold Dh at h
     split at h
     ·rename_i e l hk
      have jB:id≠k:=λe=>by rw[e,hk]at bf;cases bf
      obtain⟨z,ups,M2,hK,ix,_,hc2,b,cs,t,hb,hg,JZ,kX⟩:=yR (H:=jg σ.H acc.H) hC.mem (id:=2*id) (j:=2*k) (x:=x) (q:=q)
       (k:=λz _=>c8 υ τ z λy=>ic L ((σ.wg [(k,some (.oK e l))]).jR id (some .gone)) ((acc.put s (.jr (16*s+14) [])).jR (16*s+14) (some (.obj τ y))) K) alY (by
        unfold Dh
        rw[iF hk]
        exact h)
      rw[iy]at hb
      rcases hc2 with⟨e2,l2,h2,_⟩|⟨e2,l2,h2,rfl⟩
      ·rw[iF hk]at h2;simp[bh.re]at h2
      ·rw[iF hk]at h2
       simp only[bh.re,iC]at h2
       have ZG:some (bh.oK e l)=(some (bh.oK e l)).map (bh.re ml):=rfl
       have wz:Tr c (jg σ.H acc.H) w M (mix ν νA) (bY (jg σ.H acc.H) (2*k) (some (.oK e l))) w M2 (mix ν νA):=by
        cases h2;exact ix
       rw[ZG,ra]at wz
       exact⟨z,_,M2,hK,wz,by show bY σ.H k _ id=_;rw[az _ _ jB];exact bf,b,cs,t,hb,hg,JZ,kX⟩
     ·rename_i e l hk
      obtain⟨z,ups,M2,hK,ix,_,hc2,b,cs,t,hb,hg,JZ,kX⟩:=yR (H:=jg σ.H acc.H) hC.mem (id:=2*id) (j:=2*k) (x:=x) (q:=q)
       (k:=λz _=>c8 υ τ z λy=>ic L ((σ.wg []).jR id (some .gone)) ((acc.put s (.jr (16*s+14) [])).jR (16*s+14) (some (.obj τ y))) K) alY (by
        unfold Dh
        rw[iF hk]
        exact h)
      rw[iy]at hb
      rcases hc2 with⟨e2,l2,h2,rfl⟩|⟨e2,l2,h2,_⟩
      ·exact⟨z,[],M2,hK,ix,bf,b,cs,t,hb,hg,JZ,kX⟩
      ·rw[iF hk]at h2;simp[bh.re]at h2
     ·cases h
    obtain⟨e1,hK⟩:=bC hK
    subst e1
    have hC2:Cut c ⟨σ.T,c5 σ.H ups⟩ acc tm w M2 ν νA:=⟨ix.mem,λi=>VR.cc ix.cc ix.goes.left (hC.src i),λi=>VR.cc ix.cc ix.goes.right (hC.dst i)⟩
    have vO:=Tr.Hn (e':= .obj υ z) ix.mem (iF alX) trivial trivial rfl (λ_ _=>by simp) (by rw[iy];simp only[ER];exact⟨b,cs,t,hb,hg,JZ,kX⟩) (λ_ _ _ _ h=>by cases h)
    have ZG:some (bh.obj υ z)=(some (bh.obj υ z)).map (bh.re ml):=rfl
    rw[ZG,ra]at vO
    have hC3:Cut c ⟨σ.T,bY (c5 σ.H ups) id (some (.obj υ z))⟩ acc tm w M2 ν νA:=⟨vO.mem,λi=>VR.cc vO.cc vO.goes.left (hC2.src i),λi=>VR.cc vO.cc vO.goes.right (hC2.dst i)⟩
    have hj:=(hN _ bg).2.1
    simp only[VR]at hs
    obtain⟨e,he,nR⟩:=hs
    rw[bf]at he;cases he
    simp only[AR]at nR
    obtain⟨_,b',eZ,hv⟩:=nR
    rw[hb]at eZ;cases eZ
    have hmv:=hC3.mem.move (ax _ _ _) trivial hj (.inl ⟨rfl,λ_ _ _ _=>by simp⟩)
    rw[yQ]at hmv
    have Hb:(σ.wg ups).jR id (some .gone)=⟨σ.T,bY (c5 σ.H ups) id (some .gone)⟩:=by
     have h2:σ.wg ups=⟨σ.T,c5 σ.H ups⟩:=by rw[←P4,←P5 ups σ]
     rw[h2];rfl
    rw[Hb]at hK
    refine eV L _ _ M2 _ K (hC3.tr hmv (x:= .jr (16*s+14) []) ?_) PU (Tm _ _ _ (.inr (.inl rfl)) PV) hK
    simp only[VR]
    exact⟨_,ax _ _ _,trivial,b,by simp[dg,hb],hv⟩
   ·cases h
  ·cases h
 |(s,.gk τ q e)::L,σ,acc,M,νA,K,hC,hF,hN,h=>by
  obtain⟨PU,PV,Tm⟩:=mg hF hN
  unfold ic at h
  have hs:=hC.src s
  split at h
  ·rename_i id hT
   rw[hT]at hs
   split at h
   ·rename_i υ x q' k bf
    obtain⟨hpq,h1⟩:=cB h
    clear h
    have:=Bp hpq
    subst this
    split at h1
    ·rename_i e' l hk
     obtain⟨e1,h2⟩:=bC h1
     clear h1
     subst e1
     obtain⟨e2,h⟩:=bC h2
     cases e2
     have jB:id≠k:=λe=>by rw[e,hk]at bf;cases bf
     obtain⟨arc,ard,_⟩:=hN _ bg
     simp only[VR]at hs
     obtain⟨e,he,nR⟩:=hs
     rw[bf]at he;cases he
     simp only[AR]at nR
     obtain⟨_,b,hb,hv⟩:=nR
     have tG:=hC.mem.move hk trivial arc (.inl ⟨rfl,λ_ _ _ _=>by simp⟩)
     have pz:bY σ.H k (some .gone) id=some (.gk υ x q k):=by rw[az _ _ jB];exact bf
     have yB:=tG.mem.move pz trivial (j:=16*s+14) (e1:= .gk υ x q (16*s+13)) (by rw[az _ _ ω];exact ard)
      (.inr ⟨υ,x,q,k,16*s+13,rfl,rfl,by rw[ax];simp,by simp[dg]⟩)
     refine eV L _ _ M _ K (hC.tr (tG.trans yB) (s:=s) (x:= .jr (16*s+14) []) ?_) PU (Tm _ _ _ (.inr (.inl rfl)) (Tm _ _ _ (.inl rfl) PV)) h
     simp only[VR]
     exact⟨_,ax _ _ _,trivial,b,by simp[dg,hb],hv⟩
    ·cases h1
   ·cases h
  ·cases h
 |(s,.same s')::L,σ,acc,M,νA,K,hC,hF,hN,h=>by
  obtain⟨PU,PV,Tm⟩:=mg hF hN
  unfold ic at h
  split at h
  ·rename_i i j j' h1 h2 h3
   obtain⟨hb,h⟩:=cB h
   have hb:=fW hb
   have e1:=hC.src s
   have e2:=hC.src s'
   have e3:=hC.dst s'
   rw[h1]at e1;rw[h2]at e2;rw[h3]at e3
   simp only[VR]at e1 e2 e3
   refine eV L σ _ M νA K (hC.tr (.refl hC.mem) (x:= .ref j') ?_) PU PV h
   simp only[VR]
   exact⟨e3.1,by rw[e1.2,hb,←e2.2,e3.2]⟩
  ·cases h
 |(s,.io τ)::L,σ,acc,M,νA,K,hC,hF,hN,h=>by
  obtain⟨PU,PV,Tm⟩:=mg hF hN
  unfold ic at h
  have hs:=hC.src s
  split at h
  ·rename_i id hT
   rw[hT]at hs
   obtain⟨_,h⟩:=cB h
   split at h
   ·rename_i υ x bf
    obtain⟨e1,h⟩:=bC h
    subst e1
    have hj:=(hN _ bg).2.2
    simp only[VR]at hs
    obtain⟨e,he,nR⟩:=hs
    rw[bf]at he;cases he
    simp only[AR]at nR
    obtain⟨_,b,hb,hv⟩:=nR
    refine eV L _ _ M _ K (hC.tr (hC.mem.move bf trivial hj (.inl ⟨rfl,λ_ _ _ _=>by simp⟩)) (x:= .jr (16*s+15) []) ?_) PU (Tm _ _ _ (.inr (.inr rfl)) PV) h
    simp only[VR]
    exact⟨_,ax _ _ _,trivial,b,by simp[dg,hb],hv⟩
   ·cases h
  ·cases h
 |(s,.fn f τ)::L,σ,acc,M,νA,K,hC,hF,hN,h=>by
  obtain⟨PU,PV,Tm⟩:=mg hF hN
  unfold ic at h
  have hs:=hC.src s
  split at h
  ·rename_i f' cs hT
   rw[hT]at hs
   obtain⟨hb,h1⟩:=cB h
   clear h
   have hb:=fW hb
   subst hb
   simp only[VR]at hs
   obtain⟨us,hv,Zp⟩:=hs
   obtain⟨y,rd,ups,h,hy⟩:=E5 hC.mem.left Zp h1
   split at h
   ·refine eV L σ _ M νA K (hC.tr (.refl hC.mem) (x:= .Mf f (pP τ y)) ?_) PU PV h
    simp only[VR]
    exact⟨us,hv,jt.free (hy rfl)⟩
   ·cases h
  ·cases h
theorem yV(hI:Inv c E σ a w){L:Option (List (Nat×CM))}(hL: ∀L',L=some L'→kd L'=true){K:St→Option α}(h:wo L σ K=some r): ∃σ',K σ'=some r∧Inv c E σ' a w:=by
 unfold wo at h
 split at h
 ·exact⟨σ,h,hI⟩
 ·have VT:=hL _ rfl
  obtain⟨⟨M,ν,hc⟩,hs,hd⟩:=hI
  obtain⟨ZH,M',Tl,hK,alZ⟩:=eV (tm:=a.tmps) _ σ ⟨λ_=> .any,λ_=>none⟩ M (λ_=>undef) K ⟨hc.mem.ZF _,hc.tmp,λi=>by simp[VR]⟩ VT (λ_ _=>⟨rfl,rfl,rfl⟩) h
  exact⟨ZH,hK,⟨M',Tl,alZ⟩,hs,hd⟩
end VM
end
