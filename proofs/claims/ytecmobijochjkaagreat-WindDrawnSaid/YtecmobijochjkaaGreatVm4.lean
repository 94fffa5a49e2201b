/- A part of the proof of WindDrawn of layer 21: a machine that reads a function of the program as an equation between values. -/
import Derived.Test.YtecmobijochjkaaGreatVm3
import Derived.Scope
set_option linter.all false
section
namespace VM
open Go
variable{P:Program}{E:Env}{o:Oper}{a:Act}{w:World}{M:Nat→Prop}{ν:Nat→Value}{σ:St}{c:Ctx}{α:Type}{r:α}{next:Act→World→Prop}{Q:Exit→Act→World→Prop}
theorem Mem.call{H:Nat→Option bh}(h:Mem c H w M ν){hs:List Nat}{M0 M':Nat→Prop}{w':World}(hM: ∀b,M0 b→M b)(hhs: ∀b∈hs,M b)
  (vp: ∀b∈hs,∀i e,H i=some e→e.mut→fH (ν i)≠some b) (kY: ∀b∈hs,c.B≤b∨c.may b) (uW: ∀b∈hs,c.M0 b→M' b) (L:Left w M0 hs w' M'):
  Mem c H w' (λb=>M' b∨(M b∧b∉hs)) ν∧eY w M w' (λb=>M' b∨(M b∧b∉hs)):=by
 have hk:eY w M w' (λb=>M' b∨(M b∧b∉hs)):=by
  refine⟨L.size,λb hb hm=>L.frame b hb (λhh=>hm (hhs b hh)),λb hb hm=> ?_⟩
  rcases hm with hm|hm
  ·exact(L.less b hb hm).elim (hM b) (hhs b)
  ·exact hm.1
 refine⟨⟨λi e hi=>(h.kP i e hi).bZ hk λhm b hb=> ?_,h.zB,h.new,h.yq,qH h (λ_ _=>rfl) (λ_ h=>h) (λi τ x p j hi=> .inl ⟨hi,λb hb=> ?_⟩),λb hb=> ?_,λb hb=> ?_,λb hb hm=> ?_,ck h.size L.size,h.vi,L.os.trans h.os,L.tape.trans h.tape,L.output.trans h.output⟩,hk⟩
 ·have hMb:=(h.kP i e hi).xK hm hb
  have zH:b∉hs:=λhh=>vp b hh i e hi hm hb
  exact⟨L.frame b (h.Ev b hMb) zH,.inr ⟨hMb,zH⟩⟩
 ·have vR:fH (ν i)=some b:=by rw[hb];rfl
  have hMb:=(h.kP i _ hi).xK trivial vR
  exact L.frame b (h.Ev b hMb) (λhh=>vp b hh i _ hi trivial vR)
 ·by_cases hh:b∈hs
  ·exact .inl (uW b hh hb)
  ·exact .inr ⟨h.sub b hb,hh⟩
 ·rcases hb with hb|hb
  ·exact L.Ev b hb
  ·exact mL (h.Ev b hb.1) L.size
 ·have zH:b∉hs:=λhh=>(kY b hh).elim (λh'=>ω) hm
  rw[L.frame b (mL hb h.size) zH]
  exact h.frame b hb hm
theorem Mem.yd{H:Nat→Option bh}(h:Mem c H w M ν){id:Nat}{v:Value}{e:bh}(bg: ∀e',H id=some e'→ ¬e'.mut)(Sz:ER w M v e)
  (hd: ∀b,fH v=some b→ ∀i e',H i=some e'→e'.mut→fH (ν i)≠some b) (hn: ∀b,fH v=some b→c.B≤b∨c.may b) (ho: ∀b e0 l0,e= .own e0 l0→fH v=some b→ ¬c.M0 b)
  (hnv:H id=none∨v=ν id)
  (sF: ∀τ x p j,e= .ga τ x p j→bW H id (some e) j≠none∧ ∃b,v= .pointer (some ⟨b,0,none⟩)∧w.cell? ⟨b,cE p τ,none⟩=some (dg ν id v j):=by intro _ _ _ _ h;cases h):
  Mem c (bW H id (some e)) w M (dg ν id v):=by
 have hν: ∀i,i≠id→dg ν id v i=ν i:=λi hi=>by simp[dg,hi]
 have CV:dg ν id v id=v:=by simp[dg]
 refine⟨λi e1 hi=> ?_,λi k e1 e2 b1 pH hi s9 hk yc=> ?_,λi e1 b1 hi s9=> ?_,λi e1 l1 b1 hi=> ?_,qH h (λi hi=> ?_) xg (λi τ x p j hi=> ?_),h.sub,h.Ev,h.frame,h.size,h.vi,h.os,h.tape,h.output⟩
 ·by_cases bV:i=id
  ·subst bV;rw[ay]at hi;cases hi;rw[CV];exact Sz
  ·rw[az _ _ bV]at hi;rw[hν i bV];exact h.kP i e1 hi
 ·by_cases bV:i=id
  ·subst bV;rw[CV]
   have LR:k≠i:=eE pH
   rw[az _ _ LR]at hk;rw[hν k LR]
   intro me
   exact hd b1 me k e2 hk yc
  ·rw[az _ _ bV]at hi;rw[hν i bV]
   by_cases LR:k=id
   ·subst LR;rw[CV]
    intro me tI
    exact hd b1 tI i e1 hi s9 me
   ·rw[az _ _ LR]at hk;rw[hν k LR];exact h.zB i k e1 e2 b1 pH hi s9 hk yc
 ·by_cases bV:i=id
  ·subst bV;rw[CV];exact hn b1
  ·rw[az _ _ bV]at hi;rw[hν i bV];exact h.new i e1 b1 hi s9
 ·by_cases bV:i=id
  ·subst bV;rw[ay]at hi;cases hi;rw[CV];exact ho b1 e1 l1 rfl
  ·rw[az _ _ bV]at hi;rw[hν i bV];exact h.yq i e1 l1 b1 hi
 ·by_cases bV:i=id
  ·subst bV
   rcases hnv with hnv|hnv
   ·exact absurd hnv hi
   ·rw[CV,hnv]
  ·exact hν i bV
 ·by_cases bV:i=id
  ·subst bV
   rw[ay]at hi
   cases hi
   obtain⟨h1,b,h2,h3⟩:=sF _ _ _ _ rfl
   exact .inr ⟨h1,b,by rw[CV];exact h2,h3⟩
  ·rw[az _ _ bV]at hi
   exact .inl ⟨hi,λ_ _=>rfl⟩
theorem SN{m:AM}{ms:List AM}(x:HP (m::ms))(id:Nat)(io:List (Nat×AM)):
  jG (m::ms) x id io=match m,sQ x,io with
   | .io τ,y,(j,_)::io=>((jG ms (xO x) (id+1) io).1,(j,some (.obj τ y))::(jG ms (xO x) (id+1) io).2.1,(jG ms (xO x) (id+1) io).2.2)
   | .lo e,y,(j,_)::io=>((jG ms (xO x) (id+1) io).1,(j,some (.own e y))::(jG ms (xO x) (id+1) io).2.1,(jG ms (xO x) (id+1) io).2.2)
   |m,y,io=>((Js m y id).1::(jG ms (xO x) (id+1) io).1,(Js m y id).2++(jG ms (xO x) (id+1) io).2.1,(jG ms (xO x) (id+1) io).2.2):=by
 cases ms with
 |nil=>cases m<;>cases io<;>simp[jG,sQ]
 |cons n ms=>cases m<;>cases io<;>simp[jG,sQ,xO]
theorem mg{l1 l2:List Nat}{b:Nat}(h:(l1++l2).Nodup)(h1:b∈l1):b∉l2:=λh2=>(pN.1 h).2.2 b h1 b h2 rfl
theorem RR.JK: ∀{ms:List AM} {x:HP ms} {us ps:List Value},RR w M ms x us ps→ ∀p∈ps,∀b,fH p=some b→b∈bF ms us ps
 |[],_,_,_,h,p,hp,_,_=>by simp only[RR]at h;rw[h.2]at hp;simp at hp
 |m::ms,x,us,ps,h,p,hp,b,hb=>by
  simp only[RR]at h
  rcases h with⟨p',GK,h1,rfl,h2,h3⟩|⟨v,JJ,h1,h2,rfl,h3,h4⟩
  ·simp only[bF,h1,gw,sT,sV,bb]
   rcases aX.1 hp with rfl|hp
   ·left
    cases m<;>simp[AM.iz]at h1<;>simp[c9,hb]
   ·exact .inr (RR.JK h3 p hp b hb)
  ·simp only[bF,h1,iQ,eQ,sT,sV,bb]
   exact .inr (RR.JK h4 p hp b hb)
theorem nR{hs:List Nat}{sz:Nat}: ∀{ms:List AM} {x:HP ms} {us ps:List Value} {id:Nat} {io:List (Nat×AM)} {H:Nat→Option bh} {ν:Nat→Value} {used:List Nat},
  Mem c H w M ν→RR w M ms x us ps→ps=io.map (λq=>ν q.1)→m1 ms=io.map (·.2)→(keys io).Nodup→(∀q∈io,H q.1=some .gone)→(∀i,id≤i→i<id+ms.length→H i=none)→
  (∀i e b,H i=some e→e.mut→fH (ν i)=some b→(b<sz∧b∉hs)∨b∈used)→(used++bF ms us ps).Nodup→(∀b∈bF ms us ps,sz≤b∨b∈hs)→
  (∀b∈bF ms us ps,(c.B≤b∨c.may b))→(∀b∈bF ms us ps,c.M0 b→ ∃p∈ps,fH p=some b)→
  (∀q∈io,∀e,q.2= .lo e→ ∀b,fH (ν q.1)=some b→ ¬c.M0 b)→
  ∃ν',Mem c (c3 H (jG ms x id io).2.1) w M ν'∧ji w M (c3 H (jG ms x id io).2.1) ν' (jG ms x id io).1 us∧(∀i,H i≠none→ν' i=ν i)∧
   (∀i,i∉keys io→(i<id∨id+ms.length≤i)→c3 H (jG ms x id io).2.1 i=H i)∧(∀i,id≤i→i<id+ms.length→ ∀e,c3 H (jG ms x id io).2.1 i=some e→(∃e0 l0,e= .own e0 l0)∨ ∃τ0 z0,e= .obj τ0 z0)∧
   (∀q∈io,IoE (c3 H (jG ms x id io).2.1) q)
 |[],x,us,ps,id,io,H,ν,used,hm,hr,JH,EC,C3,A6,jj,hold,xP,pf,kY,HK,xN=>by
  simp only[RR]at hr
  obtain⟨rfl,rfl⟩:=hr
  have uW:io=[]:=by
   cases io with
   |nil=>rfl
   |cons q io=>simp at JH
  subst uW
  exact⟨ν,hm,by simp[jG,ji],λ_ _=>rfl,λ_ _ _=>rfl,λi h1 h2=>by simp at h2;omega,λq hq=>by simp at hq⟩
 |m::ms,x,us,ps,id,io,H,ν,used,hm,hr,JH,EC,C3,A6,jj,hold,xP,pf,kY,HK,xN=>by
  rw[SN]
  simp only[RR]at hr
  rcases hr with⟨p,GK,Hb,rfl,h1,h2⟩|⟨v,JJ,Hb,hmf,rfl,h1,h2⟩
  ·
   cases m with
   |io τ=>
    cases io with
    |nil=>simp at JH
    |cons q io=>
     simp only[bU,fe]at JH
     obtain⟨rfl,rfl⟩:=JH
     simp only[m1,bU,fe]at EC
     obtain⟨Zc,ag1⟩:=EC
     simp only[keys,bU,zm]at C3
     have Zd:bF (.io τ::ms) us (ν q.1::io.map λq=>ν q.1)=(fH (ν q.1)).toList++bF ms us (io.map λq=>ν q.1):=rfl
     rw[Zd]at xP pf kY HK
     have xi:=A6 q bn
     have EJ:q.1<id∨id+(ms.length+1)≤q.1:=by
      rcases oJ q.1 id with h'|h'
      ·exact .inl h'
      ·rcases oJ q.1 (id+(ms.length+1))with JL|JL
       ·rw[jj q.1 h' JL]at xi;cases xi
       ·exact .inr JL
     simp only[A1]at h1
     have qM: ∀b,fH (ν q.1)=some b→ ∀i e',H i=some e'→e'.mut→fH (ν i)≠some b:=by
      intro b hb i e' hi jI eV
      have lK:b∈(fH (ν q.1)).toList++bF ms us (io.map λq=>ν q.1):=cS _ (by rw[hb];simp)
      rcases hold i e' b hi jI eV with⟨h3,h4⟩|h3
      ·exact(pf b lK).elim (λh'=>ω) h4
      ·exact mg xP h3 lK
     have yc:=Mem.yd (c:=c) hm (id:=q.1) (v:=ν q.1) (e:= .obj τ (sQ x)) (λe' vQ=>by rw[xi]at vQ;cases vQ;simp[bh.mut]) h1 qM (λb hb=>kY b (cS _ (by rw[hb];simp))) (λb e0 l0 he=>by cases he) (.inr rfl)
     have hνe:dg ν q.1 (ν q.1)=ν:=by funext i;unfold dg;split<;>simp_all
     rw[hνe]at yc
     have ag2: ∀(q':Nat×AM),q'∈io→q'.1≠q.1:=λq' nB e=>C3.1 (cC.2 ⟨q',nB,e⟩)
     obtain⟨ν',r1,r2,r3,r4,r5,r6⟩:=nR (ms:=ms) (x:=xO x) (us:=us) (ps:=io.map λq=>ν q.1) (id:=id+1) (io:=io) (used:=used++(fH (ν q.1)).toList) yc h2 rfl ag1 C3.2
      (λq' nB=>by rw[az _ _ (ag2 q' nB)];exact A6 q' (a6 _ nB))
      (λi h3 h4=>by
       have:i≠q.1:=ω
       rw[az _ _ this]
       exact jj i ω (by simp only[aR];omega))
      (λi e b hi jI hb=>by
       by_cases bV:i=q.1
       ·subst bV;exact .inr (dy _ (by rw[hb];simp))
       ·rw[az _ _ bV]at hi
        exact(hold i e b hi jI hb).imp (λh=>h) (cS _))
      (by rw[br];exact xP) (λb hb=>pf b (dy _ hb)) (λb hb=>kY b (dy _ hb))
      (λb hb YD=>by
       obtain⟨p,hp,hpb⟩:=HK b (dy _ hb) YD
       rcases aX.1 hp with rfl|hp
       ·exact absurd (mg (pN.1 xP).2.1 (b:=b) (by rw[hpb];simp)) (by simpa using hb)
       ·exact⟨p,hp,hpb⟩) (λq' nB=>xN q' (a6 _ nB))
     refine⟨ν',r1,r2,λi hi=> ?_,λi h3 h4=> ?_,λi h3 h4 e he=> ?_,λq' nB=> ?_⟩
     ·exact r3 i (by
       by_cases bV:i=q.1
       ·subst bV;rw[ay];simp
       ·rw[az _ _ bV];exact hi)
     ·simp only[keys,bU,aX,not_or]at h3
      have:=r4 i h3.2 (by simp only[aR]at h4;omega)
      rw[az _ _ h3.1]at this
      exact this
     ·by_cases h5:id+1≤i
      ·exact r5 i h5 (by simp only[aR]at h4;omega) e he
      ·have bV:i=id:=ω
       subst bV
       by_cases hk:i∈keys io
       ·obtain⟨q',nB,A7⟩:=cC.1 hk
        have h9:=A6 q' (a6 _ nB)
        rw[A7,jj i (aG _) (by simp)]at h9
        cases h9
       ·have:=r4 i hk (.inl ω)
        have jH:i≠q.1:=ω
        rw[az _ _ jH,jj i (aG _) (by simp)]at this
        have he:c3 (bW H q.1 (some (bh.obj τ (sQ x)))) (jG ms (xO x) (i+1) io).2.1 i=some e:=he
        rw[this]at he;cases he
     ·rcases aX.1 nB with rfl|nB
      ·have:=r4 q'.1 C3.1 ω
       rw[ay]at this
       exact .inl ⟨τ,sQ x,Zc.symm,this⟩
      ·exact r6 q' nB
   |lo τ=>
    cases io with
    |nil=>simp at JH
    |cons q io=>
     simp only[bU,fe]at JH
     obtain⟨rfl,rfl⟩:=JH
     simp only[m1,bU,fe]at EC
     obtain⟨Zc,ag1⟩:=EC
     simp only[keys,bU,zm]at C3
     have Zd:bF (.lo τ::ms) us (ν q.1::io.map λq=>ν q.1)=(fH (ν q.1)).toList++bF ms us (io.map λq=>ν q.1):=rfl
     rw[Zd]at xP pf kY HK
     have xi:=A6 q bn
     have EJ:q.1<id∨id+(ms.length+1)≤q.1:=by
      rcases oJ q.1 id with h'|h'
      ·exact .inl h'
      ·rcases oJ q.1 (id+(ms.length+1))with JL|JL
       ·rw[jj q.1 h' JL]at xi;cases xi
       ·exact .inr JL
     simp only[A1]at h1
     have qM: ∀b,fH (ν q.1)=some b→ ∀i e',H i=some e'→e'.mut→fH (ν i)≠some b:=by
      intro b hb i e' hi jI eV
      have lK:b∈(fH (ν q.1)).toList++bF ms us (io.map λq=>ν q.1):=cS _ (by rw[hb];simp)
      rcases hold i e' b hi jI eV with⟨h3,h4⟩|h3
      ·exact(pf b lK).elim (λh'=>ω) h4
      ·exact mg xP h3 lK
     have yc:=Mem.yd (c:=c) hm (id:=q.1) (v:=ν q.1) (e:= .own τ (sQ x)) (λe' vQ=>by rw[xi]at vQ;cases vQ;simp[bh.mut]) h1 qM (λb hb=>kY b (cS _ (by rw[hb];simp))) (λb e0 l0 _ hb=>xN q bn τ Zc.symm b hb) (.inr rfl)
     have hνe:dg ν q.1 (ν q.1)=ν:=by funext i;unfold dg;split<;>simp_all
     rw[hνe]at yc
     have ag2: ∀(q':Nat×AM),q'∈io→q'.1≠q.1:=λq' nB e=>C3.1 (cC.2 ⟨q',nB,e⟩)
     obtain⟨ν',r1,r2,r3,r4,r5,r6⟩:=nR (ms:=ms) (x:=xO x) (us:=us) (ps:=io.map λq=>ν q.1) (id:=id+1) (io:=io) (used:=used++(fH (ν q.1)).toList) yc h2 rfl ag1 C3.2
      (λq' nB=>by rw[az _ _ (ag2 q' nB)];exact A6 q' (a6 _ nB))
      (λi h3 h4=>by
       have:i≠q.1:=ω
       rw[az _ _ this]
       exact jj i ω (by simp only[aR];omega))
      (λi e b hi jI hb=>by
       by_cases bV:i=q.1
       ·subst bV;exact .inr (dy _ (by rw[hb];simp))
       ·rw[az _ _ bV]at hi
        exact(hold i e b hi jI hb).imp (λh=>h) (cS _))
      (by rw[br];exact xP) (λb hb=>pf b (dy _ hb)) (λb hb=>kY b (dy _ hb))
      (λb hb YD=>by
       obtain⟨p,hp,hpb⟩:=HK b (dy _ hb) YD
       rcases aX.1 hp with rfl|hp
       ·exact absurd (mg (pN.1 xP).2.1 (b:=b) (by rw[hpb];simp)) (by simpa using hb)
       ·exact⟨p,hp,hpb⟩) (λq' nB=>xN q' (a6 _ nB))
     refine⟨ν',r1,r2,λi hi=> ?_,λi h3 h4=> ?_,λi h3 h4 e he=> ?_,λq' nB=> ?_⟩
     ·exact r3 i (by
       by_cases bV:i=q.1
       ·subst bV;rw[ay];simp
       ·rw[az _ _ bV];exact hi)
     ·simp only[keys,bU,aX,not_or]at h3
      have:=r4 i h3.2 (by simp only[aR]at h4;omega)
      rw[az _ _ h3.1]at this
      exact this
     ·by_cases h5:id+1≤i
      ·exact r5 i h5 (by simp only[aR]at h4;omega) e he
      ·have bV:i=id:=ω
       subst bV
       by_cases hk:i∈keys io
       ·obtain⟨q',nB,A7⟩:=cC.1 hk
        have h9:=A6 q' (a6 _ nB)
        rw[A7,jj i (aG _) (by simp)]at h9
        cases h9
       ·have:=r4 i hk (.inl ω)
        have jH:i≠q.1:=ω
        rw[az _ _ jH,jj i (aG _) (by simp)]at this
        have he:c3 (bW H q.1 (some (bh.own τ (sQ x)))) (jG ms (xO x) (i+1) io).2.1 i=some e:=he
        rw[this]at he;cases he
     ·rcases aX.1 nB with rfl|nB
      ·have:=r4 q'.1 C3.1 ω
       rw[ay]at this
       exact .inr ⟨τ,sQ x,Zc.symm,this⟩
      ·exact r6 q' nB
   |v τ=>simp[AM.iz]at Hb
   |own τ=>simp[AM.iz]at Hb
   |fn f τ=>simp[AM.iz]at Hb
   |ptr τ=>simp[AM.iz]at Hb
   |jg τ=>simp[AM.iz]at Hb
  ·
   have Hc:H id=none:=jj id (aG _) (by simp)
   cases m with
   |io τ=>simp[AM.iz]at Hb
   |lo τ=>simp[AM.iz]at Hb
   |fn f τ=>simp[AM.Y8]at hmf
   |jg τ=>simp[AM.Y8]at hmf
   |v τ=>
    have Zd:bF (.v τ::ms) (v::JJ) ps=bF ms JJ ps:=rfl
    rw[Zd]at xP pf kY HK
    simp only[A1]at h1
    obtain⟨ν',r1,r2,r3,r4,r5,r6⟩:=nR (ms:=ms) (x:=xO x) (us:=JJ) (ps:=ps) (id:=id+1) (io:=io) (used:=used) hm h2 JH (by simpa [m1]using EC) C3 A6 (λi h3 h4=>jj i ω (by simp only[aR];omega)) hold xP pf kY HK xN
    refine⟨ν',r1,?_,r3,λi h3 h4=>r4 i h3 (by simp only[aR]at h4;omega),λi h3 h4 e he=> ?_,r6⟩
    ·simp only[Js,ji,VR];exact⟨h1,r2⟩
    ·by_cases h5:id+1≤i
     ·exact r5 i h5 (by simp only[aR]at h4;omega) e he
     ·have bV:i=id:=ω
      subst bV
      by_cases hk:i∈keys io
      ·obtain⟨q',nB,A7⟩:=cC.1 hk
       have h9:=A6 q' nB
       rw[A7,Hc]at h9;cases h9
      ·have:=r4 i hk (.inl ω)
       rw[Hc]at this
       have he:c3 H (jG ms (xO x) (i+1) io).2.1 i=some e:=he
       rw[this]at he;cases he
   |own τ=>
    have Zd:bF (.own τ::ms) (v::JJ) ps=(fH v).toList++bF ms JJ ps:=rfl
    rw[Zd]at xP pf kY HK
    simp only[A1]at h1
    have qM: ∀b,fH v=some b→ ∀i e',H i=some e'→e'.mut→fH (ν i)≠some b:=by
     intro b hb i e' hi jI eV
     have lK:b∈(fH v).toList++bF ms JJ ps:=cS _ (by rw[hb];simp)
     rcases hold i e' b hi jI eV with⟨h3,h4⟩|h3
     ·exact(pf b lK).elim (λh'=>ω) h4
     ·exact mg xP h3 lK
    have alz: ∀b,fH v=some b→ ¬c.M0 b:=by
     intro b hb h0
     have lK:b∈(fH v).toList:=by rw[hb];simp
     obtain⟨p,hp,hpb⟩:=HK b (cS _ lK) h0
     exact mg (pN.1 xP).2.1 lK (RR.JK h2 p hp b hpb)
    have yc:=Mem.yd (c:=c) hm (id:=id) (v:=v) (e:= .own τ (sQ x)) (λe' vQ=>by rw[Hc]at vQ;cases vQ) h1 qM (λb hb=>kY b (cS _ (by rw[hb];simp))) (λb e0 l0 _ hb=>alz b hb) (.inl Hc)
    have EJ: ∀q∈io,q.1≠id:=λq hq e=>by
     have h9:=A6 q hq
     rw[e,Hc]at h9;cases h9
    have Ze: ∀i,i≠id→dg ν id v i=ν i:=λi hi=>by simp[dg,hi]
    obtain⟨ν',r1,r2,r3,r4,r5,r6⟩:=nR (ms:=ms) (x:=xO x) (us:=JJ) (ps:=ps) (id:=id+1) (io:=io) (used:=used++(fH v).toList) yc h2
     (by rw[JH];exact qo λq hq=>(Ze _ (EJ q hq)).symm) (by simpa [m1]using EC) C3
     (λq hq=>by rw[az _ _ (EJ q hq)];exact A6 q hq)
     (λi h3 h4=>by rw[az _ _ ω];exact jj i ω (by simp only[aR];omega))
     (λi e b hi jI hb=>by
      by_cases bV:i=id
      ·subst bV
       have:dg ν i v i=v:=by simp[dg]
       rw[this]at hb
       exact .inr (dy _ (by rw[hb];simp))
      ·rw[az _ _ bV]at hi
       rw[Ze i bV]at hb
       exact(hold i e b hi jI hb).imp (λh=>h) (cS _))
     (by rw[br];exact xP) (λb hb=>pf b (dy _ hb)) (λb hb=>kY b (dy _ hb)) (λb hb=>HK b (dy _ hb)) (λq hq e he b hb=>xN q hq e he b (by rw[Ze _ (EJ q hq)]at hb;exact hb))
    have ag4:id∉keys io:=λhk=>by
     obtain⟨q,hq,A7⟩:=cC.1 hk
     exact EJ q hq A7
    have pR:c3 (bW H id (some (.own τ (sQ x)))) (jG ms (xO x) (id+1) io).2.1 id=some (.own τ (sQ x)):=by
     rw[r4 id ag4 (.inl ω),ay]
    refine⟨ν',r1,?_,λi hi=> ?_,λi h3 h4=> ?_,λi h3 h4 e he=> ?_,r6⟩
    ·simp only[Js,ji,VR]
     refine⟨⟨?_,?_⟩,r2⟩
     ·show c3 (bW H id (some (.own τ (sQ x)))) (jG ms (xO x) (id+1) io).2.1 id≠none
      rw[pR];simp
     ·rw[r3 id (by rw[ay];simp)];simp[dg]
    ·have bV:i≠id:=λe=>hi (e▸Hc)
     rw[r3 i (by rw[az _ _ bV];exact hi),Ze i bV]
    ·have bV:i≠id:=by simp only[aR]at h4;omega
     have:=r4 i h3 (by simp only[aR]at h4;omega)
     rw[az _ _ bV]at this
     exact this
    ·by_cases h5:id+1≤i
     ·exact r5 i h5 (by simp only[aR]at h4;omega) e he
     ·have bV:i=id:=ω
      subst bV
      have he:c3 (bW H i (some (.own τ (sQ x)))) (jG ms (xO x) (i+1) io).2.1 i=some e:=he
      rw[pR]at he;cases he
      exact .inl ⟨τ,_,rfl⟩
   |ptr τ=>
    have Zd:bF (.ptr τ::ms) (v::JJ) ps=(fH v).toList++bF ms JJ ps:=rfl
    rw[Zd]at xP pf kY HK
    simp only[A1]at h1
    have qM: ∀b,fH v=some b→ ∀i e',H i=some e'→e'.mut→fH (ν i)≠some b:=by
     intro b hb i e' hi jI eV
     have lK:b∈(fH v).toList++bF ms JJ ps:=cS _ (by rw[hb];simp)
     rcases hold i e' b hi jI eV with⟨h3,h4⟩|h3
     ·exact(pf b lK).elim (λh'=>ω) h4
     ·exact mg xP h3 lK
    have yc:=Mem.yd (c:=c) hm (id:=id) (v:=v) (e:= .obj τ (sQ x)) (λe' vQ=>by rw[Hc]at vQ;cases vQ) h1 qM (λb hb=>kY b (cS _ (by rw[hb];simp))) (λb e0 l0 he _=>by cases he) (.inl Hc)
    have EJ: ∀q∈io,q.1≠id:=λq hq e=>by
     have h9:=A6 q hq
     rw[e,Hc]at h9;cases h9
    have Ze: ∀i,i≠id→dg ν id v i=ν i:=λi hi=>by simp[dg,hi]
    obtain⟨ν',r1,r2,r3,r4,r5,r6⟩:=nR (ms:=ms) (x:=xO x) (us:=JJ) (ps:=ps) (id:=id+1) (io:=io) (used:=used++(fH v).toList) yc h2
     (by rw[JH];exact qo λq hq=>(Ze _ (EJ q hq)).symm) (by simpa [m1]using EC) C3
     (λq hq=>by rw[az _ _ (EJ q hq)];exact A6 q hq)
     (λi h3 h4=>by rw[az _ _ ω];exact jj i ω (by simp only[aR];omega))
     (λi e b hi jI hb=>by
      by_cases bV:i=id
      ·subst bV
       have:dg ν i v i=v:=by simp[dg]
       rw[this]at hb
       exact .inr (dy _ (by rw[hb];simp))
      ·rw[az _ _ bV]at hi
       rw[Ze i bV]at hb
       exact(hold i e b hi jI hb).imp (λh=>h) (cS _))
     (by rw[br];exact xP) (λb hb=>pf b (dy _ hb)) (λb hb=>kY b (dy _ hb)) (λb hb=>HK b (dy _ hb)) (λq hq e he b hb=>xN q hq e he b (by rw[Ze _ (EJ q hq)]at hb;exact hb))
    have ag4:id∉keys io:=λhk=>by
     obtain⟨q,hq,A7⟩:=cC.1 hk
     exact EJ q hq A7
    have pR:c3 (bW H id (some (.obj τ (sQ x)))) (jG ms (xO x) (id+1) io).2.1 id=some (.obj τ (sQ x)):=by
     rw[r4 id ag4 (.inl ω),ay]
    refine⟨ν',r1,?_,λi hi=> ?_,λi h3 h4=> ?_,λi h3 h4 e he=> ?_,r6⟩
    ·simp only[Js,ji,VR]
     refine⟨⟨_,pR,trivial,?_⟩,r2⟩
     simp only[A1,ER]at h1
     obtain⟨b,cs,t,Vj,_⟩:=h1
     exact⟨b,by rw[r3 id (by rw[ay];simp)];simp[dg,Vj],Vj⟩
    ·have bV:i≠id:=λe=>hi (e▸Hc)
     rw[r3 i (by rw[az _ _ bV];exact hi),Ze i bV]
    ·have bV:i≠id:=by simp only[aR]at h4;omega
     have:=r4 i h3 (by simp only[aR]at h4;omega)
     rw[az _ _ bV]at this
     exact this
    ·by_cases h5:id+1≤i
     ·exact r5 i h5 (by simp only[aR]at h4;omega) e he
     ·have bV:i=id:=ω
      subst bV
      have he:c3 (bW H i (some (.obj τ (sQ x)))) (jG ms (xO x) (i+1) io).2.1 i=some e:=he
      rw[pR]at he;cases he
      exact .inr ⟨τ,_,rfl⟩
end VM
end
section
namespace VM
open Go
variable{P:Program}{E:Env}{o:Oper}{a:Act}{w:World}{M:Nat→Prop}{ν:Nat→Value}{σ:St}{c:Ctx}{α:Type}{r:α}{next:Act→World→Prop}{Q:Exit→Act→World→Prop}
theorem Me{i:Nat}: ∀{ups:iP} {H:Nat→Option bh},i∈keys ups→ ∃u∈ups,u.1=i∧c3 H ups i=u.2
 |[],_,h=>by simp[keys]at h
 |u::r,H,h=>by
  by_cases hk:i∈keys r
  ·obtain⟨v,h1,h2,h3⟩:=Me (H:=bW H u.1 u.2) hk
   exact⟨v,a6 _ h1,h2,h3⟩
  ·have hi:i=u.1:=by
    simp only[keys,bU,aX]at h hk
    exact h.resolve_right hk
   refine⟨u,bn,hi.symm,?_⟩
   show c3 (bW H u.1 u.2) r i=_
   rw[kX hk,hi,ay]
theorem EK: ∀{ups:iP} {H H':Nat→Option bh},(∀i,i∉keys ups→H i=H' i)→c3 H ups=c3 H' ups
 |[],H,H',h=>funext λi=>h i (by simp[keys])
 |u::r,H,H',h=>by
  refine EK (ups:=r) λi hi=> ?_
  by_cases hu:i=u.1
  ·subst hu;rw[ay,ay]
  ·rw[az _ _ hu,az _ _ hu]
   exact h i (by simp only[keys,bU,aX,not_or];exact⟨hu,hi⟩)
theorem ER.len{v:Value}{e:Ty}{l:List e.den}(h:ER w M v (.own e l)): ∃ad cap,v= .slice ad l.length cap:=by
 simp only[ER]at h
 rcases h with⟨rfl,ad,rfl⟩|⟨b,cs,t,cap,h1,_⟩
 ·exact⟨ad,0,rfl⟩
 ·exact⟨_,cap,h1⟩
theorem RR.qN: ∀{ms:List AM} {x:HP ms} {us ps:List Value},RR w M ms x us ps→ ∀b∈bF ms us ps,M b
 |[],_,_,_,_,b,hb=>by simp[bF]at hb
 |m::ms,x,us,ps,h,b,hb=>by
  simp only[RR]at h
  rcases h with⟨p,GK,h1,rfl,h2,h3⟩|⟨v,JJ,h1,h2,rfl,h3,h4⟩
  ·simp only[bF,h1,gw,sT,sV,bb]at hb
   rcases hb with hb|hb
   ·cases m<;>simp[AM.iz]at h1<;>(simp only[c9,fc,A1]at hb h2;exact h2.xK trivial hb)
   ·exact RR.qN h3 b hb
  ·simp only[bF,h1,iQ,eQ,sT,sV,bb]at hb
   rcases hb with hb|hb
   ·cases m with
    |own e=>
     simp only[c9,fc,A1]at hb h3
     exact h3.xK trivial hb
    |v _=>simp[c9]at hb
    |io _=>simp[AM.iz]at h1
    |lo _=>simp[AM.iz]at h1
    |fn _ _=>simp[c9]at hb
    |jg _=>simp[c9]at hb
    |ptr τ=>
     simp only[c9,fc,A1]at hb h3
     exact h3.xK trivial hb
   ·exact RR.qN h4 b hb
theorem HT: ∀{l:List lO} {pP:List bC} {S:lO},LN l pP=some S→S∈l
 |[],_,_,h=>by simp[LN]at h
 |T::l,pP,S,h=>by
  unfold LN at h
  cases hf:fits T.args pP
  ·rw[hf]at h;exact a6 _ (HT h)
  ·rw[hf]at h;cases h;exact bn
theorem B9{H:Nat→Option bh}{id:Nat}: ∀{n:Nat},tR H id n=true→ ∀i,id≤i→i<id+n→H i=none
 |0,_,i,h1,h2=>ω
 |n+1,h,i,h1,h2=>by
  unfold tR at h
  rw[bP]at h
  by_cases hi:i=id+n
  ·subst hi
   have h:=h.1
   split at h
   ·assumption
   ·cases h
  ·exact B9 h.2 i h1 ω
theorem Vk{H:Nat→Option bh}{pP:List bC}{us:List Value}(h:ji w M H ν pP us):VR w M H ν (LK pP) (vY us):=by
 match pP,us,h with
 |[],[],_=>simp[LK,VR]
 |[a],[u],h=>simp only[ji,eP]at h;simpa [LK,vY]using h
 |a::b::pP,u::v::us,h=>
  simp only[LK,VR]
  exact⟨u::v::us,by simp[vY],h⟩
 |[],_::_,h=>simp[ji]at h
 |_::_,[],h=>simp[ji]at h
 |[_],_::_::_,h=>simp[ji]at h
 |_::_::_,[_],h=>simp[ji]at h
theorem Mf(hΓ: ∀f S,S∈E.Γ f→iA P f S){H:Nat→Option bh}(hm:Mem c H w M ν){f id:Nat}{pP:List bC}{vs:List Value}(hv:ji w M H ν pP vs){K:iU α}(h:BX E f pP id H K=some r)
  {R:Value→World→Prop} (hR: ∀v rd ups v' w' M' ν',K v rd ups=some r→Tr c H w M ν (c3 H ups) w' M' ν'→VR w' M' (c3 H ups) ν' v v'→R v' w'):
  Mb P f vs.toArray w R:=by
 unfold BX at h
 split at h
 ·cases h
 rename_i S hS
 have hok:=hΓ f S (HT hS)
 obtain⟨x,rd,uo,uf,io,H2,Hq,M2,h1,hA,hK,alA,Zb,UL⟩:=B8 (jz.start hm) hv h
 clear h
 simp only[cI,iT]at hA Zb UL
 obtain⟨y,hy,h1⟩:=sR.1 h1
 obtain⟨jj,h1⟩:=cA h1
 have jj:=B9 jj
 have aqW:(λb=>(M2 b∧b∉dM S.args vs)∨b∈dM S.args vs)=M2:=by
  funext b
  refine propext ⟨λh=>h.elim (·.1) (hA.hM b),λh=> ?_⟩
  by_cases hb:b∈dM S.args vs
  ·exact .inr hb
  ·exact .inl ⟨h,hb⟩
 refine Mb.mono (hok.call (λb=>M2 b∧b∉dM S.args vs) w vs x y (λb hb=>hA.mem.Ev b hb.1) (by rw[aqW];exact alA) hA.nd (λb hb h=>h.2 hb) hy) ?_
 rintro e w' ⟨us,M',rfl,UM,hL,xP,hn0⟩
 have aqX: ∀b∈dM S.args vs,c.M0 b→M' b:=by
  intro b hb h0
  obtain⟨q,hq,hqb⟩:=hA.iob b hb h0
  exact UM.qN b (UM.JK (ν q.1) (by rw[←Zb];exact eO hq) b hqb)
 have pf: ∀b∈bF S.res us (fg S.args vs),w.heap.size≤b∨b∈dM S.args vs:=by
  intro b hb
  rcases oJ b w.heap.size with eZ|YG
  ·exact .inr ((hL.less b eZ (UM.qN b hb)).resolve_left (hn0 b hb))
  ·exact .inl YG
 have kY: ∀b∈bF S.res us (fg S.args vs),c.B≤b∨c.may b:=λb hb=>(pf b hb).elim (λh=> .inl (ck hm.size h)) (hA.Md b)
 have HK: ∀b∈bF S.res us (fg S.args vs),c.M0 b→ ∃p∈fg S.args vs,fH p=some b:=by
  intro b hb h0
  rcases pf b hb with h'|h'
  ·have:=hm.vi.1 b h0;have:=hm.size;omega
  ·obtain⟨q,hq,hqb⟩:=hA.iob b h' h0
   exact⟨ν q.1,by rw[←Zb];exact eO hq,hqb⟩
 have aqZ: ∀q∈io,∀e,q.2=AM.lo e→ ∀b,fH (ν q.1)=some b→ ¬c.M0 b:=by
  intro q hq e he b hb
  rcases(hA.SM q hq).2.2 with⟨τ0,z0,xi,_⟩|⟨e0,z0,xi,Rg⟩
  ·rw[he]at xi;cases xi
  ·exact hm.yq q.1 e0 z0 b Rg hb
 have key: ∀(Hx:Nat→Option bh) (Mx:Nat→Prop) (U:iP),Mem c Hx w Mx ν→eY w M w Mx→(∀b,M2 b→Mx b)→(∀b∈dM S.args vs,∀i e,Hx i=some e→e.mut→fH (ν i)≠some b)→
   (∀q∈io,Hx q.1=some .gone)→(∀i,i∉keys io→c3 H (uo++U) i=Hx i)→(∀u∈uo++U,u.2=some .gone∨ ∃e l,u.2=some (.ot e l)∧H u.1=some (.own e l))→(∀i∈keys (uo++U),i∈keys (uo++uf))→
   RR w' (λb=>M' b∨(Mx b∧b∉dM S.args vs)) S.res y us (fg S.args vs)→
   ∃ν',Tr c H w M ν (c3 H (uo++U++(jG S.res y id io).2.1)) w' (λb=>M' b∨(Mx b∧b∉dM S.args vs)) ν'∧
    ji w' (λb=>M' b∨(Mx b∧b∉dM S.args vs)) (c3 H (uo++U++(jG S.res y id io).2.1)) ν' (jG S.res y id io).1 us:=by
  intro Hx Mx U K7 hkx SO vp Mg ag5 JM hU hrr
  obtain⟨kV,HU⟩:=K7.call (λb hb=>SO b hb.1) (λb hb=>SO b (hA.hM b hb)) vp hA.Md aqX hL
  have hx: ∀i e,H i=some e→i∉keys io→ ∃e',Hx i=some e'∧e.kT e':=by
   intro i e hi EL
   rw[←ag5 i EL]
   by_cases hk:i∈keys (uo++U)
   ·obtain⟨u,hu,hui,huv⟩:=Me (H:=H) hk
    rw[huv]
    rcases JM u hu with h'|⟨e1,l1,h',JL⟩
    ·exact⟨_,h',bh.kD e⟩
    ·rw[hui,hi]at JL;cases JL;exact⟨_,h',rfl,rfl⟩
   ·rw[kX hk];exact⟨e,hi,.refl e⟩
  have Vl: ∀i,id≤i→i<id+S.res.length→Hx i=none:=by
   intro i h3 h4
   have h0:=jj i h3 h4
   have EL:i∉keys io:=λhk=>by
    obtain⟨q,hq,A7⟩:=cC.1 hk
    obtain⟨_,_,hz⟩:=hA.SM q hq
    exact hz.some (by rw[A7];exact h0)
   rw[←ag5 i EL]
   rw[kX,h0]
   intro hk
   obtain⟨_,e,l,h'⟩:=hA.ksn i (hU i hk)
   rw[h0]at h';cases h'
  obtain⟨ν',r1,r2,r3,r4,r5,r6⟩:=nR (hs:=dM S.args vs) (sz:=w.heap.size) (id:=id) (used:=[]) kV hrr Zb.symm (by rw[←hok.ios,←UL]) hA.ion Mg Vl
   (λi e b hi hmu hb=> .inl ⟨K7.Ev b ((K7.kP i e hi).xK hmu hb),λhh=>vp b hh i e hi hmu hb⟩) (by simpa using xP) pf kY HK aqZ
  have ag6:c3 H (uo++U++(jG S.res y id io).2.1)=c3 Hx (jG S.res y id io).2.1:=by
   rw[gm]
   refine EK λi hi=> ?_
   by_cases EL:i∈keys io
   ·obtain⟨q,hq,A7⟩:=cC.1 EL
    rcases r6 q hq with⟨τ,z,_,hz⟩|⟨e,z,_,hz⟩
    ·rw[A7,kX hi,←A7,Mg q hq]at hz;cases hz
    ·rw[A7,kX hi,←A7,Mg q hq]at hz;cases hz
   ·exact ag5 i EL
  refine⟨ν',⟨by rw[ag6];exact r1,hkx.trans HU,⟨λi e hi=> ?_,λi hi=> ?_⟩⟩,by rw[ag6];exact r2⟩
  ·rw[ag6]
   by_cases EL:i∈keys io
   ·obtain⟨q,hq,A7⟩:=cC.1 EL
    obtain⟨_,_,hg0⟩:=hA.SM q hq
    rcases r6 q hq with⟨τ,z,Yz,hz⟩|⟨e2,z,Yz,hz⟩
    ·rcases hg0 with⟨τ0,z0,xi,Rg⟩|⟨e0,z0,xi,Rg⟩
     ·rw[Yz]at xi;cases xi
      rw[A7]at hz Rg
      rw[hi]at Rg;cases Rg
      exact⟨_,hz,rfl⟩
     ·rw[Yz]at xi;cases xi
    ·rcases hg0 with⟨τ0,z0,xi,Rg⟩|⟨e0,z0,xi,Rg⟩
     ·rw[Yz]at xi;cases xi
     ·rw[Yz]at xi;cases xi
      rw[A7]at hz Rg
      rw[hi]at Rg;cases Rg
      refine⟨_,hz,rfl,?_⟩
      obtain⟨a1,c1,k1⟩:=ER.len (hm.kP i _ hi)
      obtain⟨a2,c2,k2⟩:=ER.len (r1.kP i _ hz)
      rw[r3 i (by rw[←A7,Mg q hq];simp),k1]at k2
      simp only[Value.slice.injEq]at k2
      exact k2.2.1
   ·obtain⟨e',vQ,hl⟩:=hx i e hi EL
    have hr:i<id∨id+S.res.length≤i:=by
     rcases oJ i id with h'|h'
     ·exact .inl h'
     ·rcases oJ i (id+S.res.length)with JL|JL
      ·rw[jj i h' JL]at hi;cases hi
      ·exact .inr JL
    exact⟨e',by rw[r4 i EL hr];exact vQ,hl⟩
  ·refine r3 i ?_
   obtain⟨e,he⟩:=D1.1 hi
   by_cases EL:i∈keys io
   ·obtain⟨q,hq,A7⟩:=cC.1 EL
    rw[←A7,Mg q hq];simp
   ·obtain⟨e',vQ,_⟩:=hx i e he EL
    rw[vQ];simp
 cases hq:S.quiet
 ·
  rw[hq]at h1
  have hMn:(λb=>M' b∨(M2 b∧b∉dM S.args vs))=M':=by
   funext b
   exact propext ⟨λh=>h.elim (λh=>h) (hL.sub b),.inl⟩
  obtain⟨ν',ic,hvr⟩:=key H2 M2 uf hA.mem hA.bZ (λ_ h=>h) (λb hb i e hi hmu=>hA.none b hb i e (hA.fz.mut hi hmu) hmu) (λq hq=>(hA.SM q hq).1) hA.ext
   (λu hu=>(bb.1 hu).elim (λh=> .inl (hA.uov u h)) (λh=> .inr (hA.ufv u h))) (λ_ h=>h) (by rw[hMn];exact UM)
  exact hR _ _ _ _ _ _ _ h1 ic (Vk hvr)
 ·rw[hq]at h1
  have SO: ∀b,M2 b→M b:=λb hb=>hA.bZ.less b (hA.mem.Ev b hb) hb
  obtain⟨ν',ic,hvr⟩:=key Hq M [] hA.Mc (.refl w M) SO hA.none (λq hq=>(hA.SM q hq).2.1) (by rw[ch];exact hA.Vi)
   (λu hu=> .inl (hA.uov u (by simpa using hu))) (λi hi=>by simp only[keys,ch,cW,bb]at hi ⊢;exact .inl hi) (UM.flat (λb h=> .inl h) (hok.quiet hq))
  exact hR _ _ _ _ _ _ _ h1 ic (Vk hvr)
theorem Zf(hΓ: ∀f S,S∈E.Γ f→iA P f S)(hc:Core c σ a.tmps w M ν){args:Array Operand}{ts:Array TypeId}{g:Operand}(ho:o.op= .call {callee:= .value g,args,argTypes:=ts}){K:iU α}{f:Nat}{caps:List bC}(hg:σ.ρ g= .LD f caps){id:Nat}
  (h:BX E f (args.toList.map σ.ρ ++caps) id σ.H K=some r) (hn:fX c σ a o w M ν K r next):o.wp P a w next Q:=by
 have hgv:=hc.ev g
 rw[hg]at hgv
 simp only[VR]at hgv
 obtain⟨cs,hgv,JA⟩:=hgv
 have Mh: ∀{as1:List bC} {YH:List Value},ji w M σ.H ν as1 YH→ji w M σ.H ν (as1++caps) (YH++cs):=by
  intro as1
  induction as1 with
  |nil=>intro YH h1;cases YH with
   |nil=>exact JA
   |cons _ _=>simp[ji]at h1
  |cons x as1 ih=>intro YH h1;cases YH with
   |nil=>simp[ji]at h1
   |cons v YH=>simp only[ji]at h1;simp only[lG,ji];exact⟨h1.1,ih h1.2⟩
 have hd:=Mf (P:=P) hΓ hc.mem (Mh (hc.evs args.toList)) h (R:=λv' w'=>next (a.put o.dst v') w') (λv rd ups v' w' M' ν' h1 h2 h3=>hn v rd ups v' w' M' ν' h1 h2 h3)
 have hex:(execOp a.eval o).run P w=(callFunc f (args.toList.map a.eval++cs).toArray).run P w:=by
  have:(args.toList.map a.eval++cs).toArray= #[]++args.map a.eval++cs.toArray:=by apply jh;simp
  rw[this]
  simp[execOp,ho,resolve,hgv,Deferred.ofValue,invoke]
 unfold Oper.wp
 rw[hex]
 exact hd o a next Q λv w' hv=>hv
end VM
end
section
namespace VM
open Go
variable{P:Program}{E:Env}{o:Oper}{a:Act}{w:World}{M:Nat→Prop}{ν:Nat→Value}{σ:St}{c:Ctx}{α:Type}{r:α}{next:Act→World→Prop}{Q:Exit→Act→World→Prop}
structure sb(P:Program)(E:Env):Prop extends EnvTy P E where
 alE: ∀f S,S∈E.Γ f→iA P f S
 mixed:P.follows .mixedOrders=true
 jU: ∀i L,E.vK i=some L→VM.jU L=true
 Vm: ∀i L,E.xI i=some L→VM.jU L=true
theorem SP(hE:sb P E)(hc:Core c σ a.tmps w M ν){K:iU α}(h:sO E o σ.ρ σ.H K=some r)(hn:fX c σ a o w M ν K r next):o.wp P a w next Q:=by
 have hT:=hE.toEnvTy
 unfold sO at h
 simp only at h
 split at h
 ·rename_i x ho;exact Q8 hc (.inl ho) h hn
 ·rename_i x ho;exact Q8 hc (.inr ho) h hn
 ·rename_i x y z ho
  split at h
  ·rename_i t hx;exact YW hc ho hx h hn
  ·cases h
 ·rename_i t ho
  split at h
  ·rename_i τ ht;exact U3 hT hc ho ht h hn
  ·cases h
 ·rename_i t x ho
  split at h
  ·rename_i τ ht;exact agH hT hc ho h hn
  ·cases h
 ·rename_i t ps ho
  split at h
  ·rename_i n e ht;exact JI hT hc ho ht h hn
  ·rename_i τ hna ht;exact C2 hT hc ho ht (λn e he=>hna n e he) h hn
  ·cases h
 ·rename_i t n ps ho
  split at h
  ·rename_i e ht;exact G6 hT hc ho ht h hn
  ·cases h
 ·rename_i t x ho
  split at h
  ·rename_i τ ht;exact YX hT hc ho ht h hn
  ·cases h
 ·rename_i t x y ho
  split at h
  ·rename_i τ ht;exact SG hT hc ho ht h hn
  ·cases h
 ·rename_i x ho
  split at h
  ·rename_i id p hx;exact C0 hc ho hx h hn
  ·rename_i τ z hx;exact A4 hc ho hx h hn
  ·cases h
 ·rename_i b t x y t' ho;exact Va hT hc ho h hn
 ·rename_i u t x ho;exact Y3 hc ho h hn
 ·rename_i s d x ho
  split at h
  ·rename_i τ k hs hd;exact PG hT hc ho hs hd h hn
  ·cases h
 ·rename_i f first caps ho;exact L1 hc ho h hn
 ·rename_i t x y ho
  split at h
  ·rename_i e ht;exact JE hT hc ho ht h hn
  ·cases h
 ·rename_i t x lo hi mx ho
  split at h
  ·rename_i τ ht;exact Vf hT hc ho ht h hn
  ·cases h
 ·rename_i t x n ho
  split at h
  ·rename_i τ ht
   split at h
   ·rename_i id p hx;exact A3 hT hc ho ht hx h hn
   ·rename_i υ z hx;exact zJ hT hc ho ht hx h hn
   ·cases h
  ·cases h
 ·rename_i t x n ho
  split at h
  ·rename_i τ ht
   split at h
   ·rename_i υ z hx;exact U8 hT hc ho ht hx h hn
   ·cases h
  ·cases h
 ·rename_i t x i ho
  split at h
  ·rename_i τ ht;exact JC hT hc ho ht h hn
  ·cases h
 ·rename_i t x i ho
  split at h
  ·rename_i τ ht;exact Vd hT hc ho ht h hn
  ·cases h
 ·rename_i x i ho
  split at h
  ·rename_i vs hx
   split at h
   ·rename_i v hv;exact PE hc ho hx hv h hn
   ·cases h
  ·cases h
 ·rename_i cl ho
  obtain⟨callee,args,ts⟩:=cl
  simp only at h
  split at h
  ·split at h
   ·rename_i x τ ha ht;exact agN hT hc ho ha ht h hn
   ·cases h
  ·split at h
   ·rename_i x y t t' ha ht
    split at h
    ·rename_i e hte;exact SL hT hc ho ha ht hte h hn
    ·cases h
   ·cases h
  ·split at h
   ·rename_i x xs ha;exact afu hc true ho ha h hn
   ·cases h
  ·split at h
   ·rename_i x xs ha;exact afu hc false ho ha h hn
   ·cases h
  ·rename_i g
   split at h
   ·rename_i f caps hg;exact Zf hE.alE hc ho hg h hn
   ·cases h
  ·cases h
 ·cases h
end VM
end
section
namespace VM
open Go
variable{P:Program}{E:Env}{o:Oper}{a:Act}{w:World}{M:Nat→Prop}{ν:Nat→Value}{σ:St}{c:Ctx}{α:Type}{r:α}{next:Act→World→Prop}{Q:Exit→Act→World→Prop}
theorem tW(σ:St)(d:Nat)(v:bC):(σ.put d v).T d=v:=by
 show cond (Nat.beq d d) v (σ.T d)=v
 rw[show Nat.beq d d=true from sY d];rfl
theorem zO(σ:St){d i:Nat}(v:bC)(h:i≠d):(σ.put d v).T i=σ.T i:=by
 show cond (Nat.beq i d) v (σ.T i)=σ.T i
 have:Nat.beq i d=false:=by rw[←mN,vH];exact h
 rw[this];rfl
theorem avX(σ:St)(d:Nat)(v:bC):(σ.put d v).H=σ.H:=rfl
theorem EM(σ:St)(d:Nat):σ.put d (σ.T d)=σ:=by
 obtain⟨T,H⟩:=σ
 unfold St.put
 congr 1
 funext i
 by_cases h:i=d
 ·subst h;show cond (Nat.beq i i) (T i) (T i)=T i;cases Nat.beq i i<;>rfl
 ·have:Nat.beq i d=false:=by rw[←mN,vH];exact h
  rw[this];rfl
theorem Core.tr{tm:Array Value}(h:Core c σ tm w M ν){H':Nat→Option bh}{w':World}{M':Nat→Prop}{ν':Nat→Value}(t:Tr c σ.H w M ν H' w' M' ν'):Core c ⟨σ.T,H'⟩ tm w' M' ν':=
 ⟨t.mem,λi=>VR.bZ t.bZ t.goes (h.tmp i)⟩
theorem Core.vd{tm:Array Value}(h:Core c σ tm w M ν){d:Option Nat}{x:bC}{v:Value}{io:List Nat}(hd:LF tm.size io d=true)(hx:VR w M σ.H ν x v)(ds:List Deferred):
  Core c (σ.vd d x) (({tmps:=tm,defers:=ds}:Act).put d v).tmps w M ν:=by
 cases d with
 |none=>exact h
 |some d=>
  have eZ:d<tm.size:=by simp only[LF,bP,zu]at hd;exact hd.1
  refine⟨h.mem,λi=> ?_⟩
  show VR w M σ.H ν ((σ.put d x).T i) ((tm.setIfInBounds d v).getD i undef)
  by_cases hi:i=d
  ·subst hi
   rw[tW]
   simp[Array.getD,eZ]
   exact hx
  ·rw[zO _ _ hi]
   have:=h.tmp i
   have he:(tm.setIfInBounds d v).getD i undef=tm.getD i undef:=by
    rw[rR,rR,Lf (eE hi)]
   rw[he];exact this
def Inv(c:Ctx)(E:Env)(σ:St)(a:Act)(w:World):Prop:=(∃M ν,Core c σ a.tmps w M ν)∧a.tmps.size=E.nt∧a.defers=[]∧ ∀i∈E.io,a.tmps.getD i undef=c.arg i
theorem Mi(a:Act)(d:Option Nat)(v:Value):(a.put d v).tmps.size=a.tmps.size:=by
 cases d<;>simp[Act.put]
theorem put_defers(a:Act)(d:Option Nat)(v:Value):(a.put d v).defers=a.defers:=by
 cases d<;>rfl
theorem Ri{d:Option Nat}{v:Value}{io:List Nat}{n:Nat}(hd:LF n io d=true){i:Nat}(hi:i∈io):(a.put d v).tmps.getD i undef=a.tmps.getD i undef:=by
 cases d with
 |none=>rfl
 |some d=>
  simp only[LF,bP,qu]at hd
  have h1:=hd.2 i hi
  have jH:i≠d:=by
   intro e;subst e
   simp at h1
  show(a.tmps.setIfInBounds d v).getD i undef=_
  rw[rR,rR,Lf (eE jH)]
theorem Inv.bool(h:Inv c E σ a w){x:Operand}{b:Bool}(hx:σ.ρ x= .val .bool b):a.eval x= .bool b:=by
 obtain⟨⟨M,ν,hc⟩,_,_,_⟩:=h
 have:=hc.ev x
 rw[hx]at this
 exact this.bool
theorem Ca(hE:sb P E){ops:Array Oper}(hI:Inv c E σ a w){K:St→List Nat→List Nat→Option α}(h:s4 E ops.toList o σ K=some r)
  (hn: ∀σ' a' w' rd wr,K σ' rd wr=some r→Inv c E σ' a' w'→next a' w'):
  if Region.wanted o (yielded ops a.tmps)then o.wp P a w next Q else next (a.put o.dst undef) w:=by
 unfold s4 at h
 obtain⟨hd,h⟩:=cA h
 have dD:sO E o σ.ρ σ.H (λv rd ups=>K ((σ.vI ups).vd o.dst v) rd (ups.map (·.1)))=some r→o.wp P a w next Q:=by
  intro h
  obtain⟨⟨M,ν,hc⟩,hs,ag7,xQ⟩:=hI
  refine SP hE hc h λv rd ups v' w' M' ν' hK ic hV=> ?_
  refine hn _ _ _ _ _ hK ⟨⟨M',ν',?_⟩,by rw[Mi,hs],by rw[put_defers,ag7],λi hi=>(Ri hd hi).trans (xQ i hi)⟩
  have h1:=hc.tr ic
  have h2:σ.vI ups=⟨σ.T,c3 σ.H ups⟩:=by rw[←PA,←PC ups σ]
  rw[h2]
  exact h1.vd (by rw[hs];exact hd) hV a.defers
 have sd: ∀rd wr,K (σ.vd o.dst .UY) rd wr=some r→next (a.put o.dst undef) w:=by
  intro rd wr h
  obtain⟨⟨M,ν,hc⟩,hs,ag7,xQ⟩:=hI
  refine hn _ _ _ _ _ h ⟨⟨M,ν,hc.vd (by rw[hs];exact hd) (by simp[VR]) a.defers⟩,by rw[Mi,hs],by rw[put_defers,ag7],λi hi=>(Ri hd hi).trans (xQ i hi)⟩
 simp only at h
 split at h
 ·rename_i hg
  have:Region.wanted o (yielded ops a.tmps)=true:=by simp[Region.wanted,hg]
  rw[aj this]
  exact dD h
 ·rename_i j want hg
  split at h
  ·cases h
  ·rename_i t ht
   have ht':(ops[j]?).bind (·.dst)=some t:=by rw[←gL];exact ht
   have hy: ∀b,σ.T t= .val .bool b→yielded ops a.tmps j=some b:=by
    intro b hb
    obtain⟨⟨M,ν,hc⟩,hs,_,_⟩:=hI
    have h1:=hc.tmp t
    rw[hb]at h1
    have h1:=h1.bool
    have h2:a.tmps[t]? =some (.bool b):=by
     rw[rR]at h1
     cases h3:a.tmps[t]? with
     |none=>rw[h3]at h1;simp[undef]at h1
     |some v=>rw[h3]at h1;simpa using h1
    simp[yielded,ht',h2]
   split at h
   ·rename_i b hb
    have pI:σ.put t (.val .bool b)=σ:=by rw[←hb];exact EM σ t
    have hw:=hy b hb
    cases want<;>cases b
    ·rw[aj (by simp[Region.wanted,hg,hw])]
     rw[pI]at h;exact dD h
    ·rw[ah (by simp[Region.wanted,hg,hw])]
     rw[pI]at h;exact sd _ _ h
    ·rw[ah (by simp[Region.wanted,hg,hw])]
     rw[pI]at h;exact sd _ _ h
    ·rw[aj (by simp[Region.wanted,hg,hw])]
     rw[pI]at h;exact dD h
   ·rename_i hb
    have zH: ¬Region.wanted o (yielded ops a.tmps)=true:=by
     obtain⟨⟨M,ν,hc⟩,hs,_,_⟩:=hI
     have h1:=hc.tmp t
     rw[hb]at h1
     simp only[VR]at h1
     have h2: ∀b,a.tmps[t]? ≠some (.bool b):=by
      intro b eV
      rw[rR,eV]at h1
      simp[undef]at h1
     have h3:yielded ops a.tmps j=none:=by
      unfold yielded
      rw[ht']
      show(match a.tmps[t]? with|some (.bool b)=>some b|_=>none)=none
      split
      ·rename_i b eV;exact absurd eV (h2 b)
      ·rfl
     simp[Region.wanted,hg,h3]
    rw[ah zH]
    exact sd _ _ h
   ·cases h
theorem EN(hE:sb P E){ops:Array Oper}: ∀(l:List Oper) (i:Nat) (σ:St) (lg:Log) (a:Act) (w:World) (K:St→Log→Option α),Inv c E σ a w→Sx E ops.toList l i σ lg K=some r→
  (∀σ' lg' a' w',K σ' lg'=some r→Inv c E σ' a' w'→Q .normal a' w')→wpList P ops Q l a w
 |[],i,σ,lg,a,w,K,hI,h,hn=>hn _ _ _ _ h hI
 |o::l,i,σ,lg,a,w,K,hI,h,hn=>by
  unfold Sx at h
  refine wpList_step λK' hK'=> ?_
  exact Ca hE hI h fun σ' a' w' rd wr h' ye=>hK' _ _ (EN hE l (i+1) σ' _ a' w' K ye h' hn)
theorem Mj(hI:Inv c E σ a w){x:Operand}{A B:St→Option α}(h:HI E x σ A B=some r): ∃b,a.eval x= .bool b∧(if b then A σ else B σ)=some r:=by
 unfold HI at h
 split at h
 ·rename_i b hb
  refine⟨b,hI.bool hb,?_⟩
  split at h
  ·rename_i t
   have hb:σ.T t= .val .bool b:=hb
   have pI:σ.put t (.val .bool b)=σ:=by rw[←hb];exact EM σ t
   cases b
   ·rw[pI]at h;exact h
   ·rw[pI]at h;exact h
  ·cases b<;>exact h
 ·cases h
end VM
end
section
namespace VM
open Go
variable{P:Program}{E:Env}{o:Oper}{a:Act}{w:World}{M:Nat→Prop}{ν:Nat→Value}{σ:St}{c:Ctx}{α:Type}{r:α}{next:Act→World→Prop}{Q:Exit→Act→World→Prop}
def mix{β:Type}(A B:Nat→β):Nat→β:=λi=>if i%2=0 then A (i/2)else B (i/2)
theorem ig{β:Type}(A B:Nat→β)(i:Nat):mix A B (2*i)=A i:=by
 unfold mix
 rw[aj ω,show 2*i/2=i from by omega]
theorem uX{β:Type}(A B:Nat→β)(i:Nat):mix A B (2*i+1)=B i:=by
 unfold mix
 rw[ah ω,show(2*i+1)/2=i from by omega]
theorem akJ{β:Type}{A B A' B':Nat→β}(hl: ∀i,A i=A' i)(hr: ∀i,B i=B' i):mix A B=mix A' B':=by
 funext i;unfold mix;rw[hl,hr]
def bh.re(f:Nat→Nat):bh→bh
 | .ga τ x p j=> .ga τ x p (f j)
 |e=>e
theorem ER.re{v:Value}{f:Nat→Nat}{e:bh}:ER w M v (e.re f)↔ER w M v e:=by cases e<;>simp[bh.re,ER]
theorem bh.qO{f:Nat→Nat}{e:bh}:(e.re f).mut↔e.mut:=by cases e<;>simp[bh.re,bh.mut]
theorem bh.Rj{f g:Nat→Nat}{e e':bh}:(e.re f).kT (e'.re g)↔e.kT e':=by cases e<;>cases e'<;>simp[bh.re,bh.kT]
def ml(i:Nat):Nat:=2*i
def mr(i:Nat):Nat:=2*i+1
def iV(A B:Nat→Option bh):Nat→Option bh:=λi=>if i%2=0 then(A (i/2)).map (bh.re ml)else(B (i/2)).map (bh.re mr)
theorem yx(A B:Nat→Option bh)(i:Nat):iV A B (2*i)=(A i).map (bh.re ml):=by
 unfold iV
 rw[aj ω,show 2*i/2=i from by omega]
theorem tX(A B:Nat→Option bh)(i:Nat):iV A B (2*i+1)=(B i).map (bh.re mr):=by
 unfold iV
 rw[ah ω,show(2*i+1)/2=i from by omega]
theorem iu{A B:Nat→Option bh}{i:Nat}{e:bh}(h:A i=some e):iV A B (2*i)=some (e.re ml):=by rw[yx,h];rfl
theorem tY{A B:Nat→Option bh}{i:Nat}{e:bh}(h:B i=some e):iV A B (2*i+1)=some (e.re mr):=by rw[tX,h];rfl
theorem JN{A B:Nat→Option bh}{i:Nat}:iV A B (2*i)≠none↔A i≠none:=by rw[yx];cases A i<;>simp
theorem JO{A B:Nat→Option bh}{i:Nat}:iV A B (2*i+1)≠none↔B i≠none:=by rw[tX];cases B i<;>simp
theorem qP(A B:Nat→Option bh)(i:Nat)(v:Option bh):bW (iV A B) (2*i) (v.map (bh.re ml))=iV (bW A i v) B:=by
 funext k
 by_cases hk:k=2*i
 ·subst hk;rw[ay,yx,ay]
 ·rw[az _ _ hk]
  unfold iV
  by_cases h2:k%2=0
  ·rw[aj h2,aj h2,az _ _ ω]
  ·rw[ah h2,ah h2]
theorem EO(A B:Nat→Option bh)(i:Nat)(v:Option bh):bW (iV A B) (2*i+1) (v.map (bh.re mr))=iV A (bW B i v):=by
 funext k
 by_cases hk:k=2*i+1
 ·subst hk;rw[ay,tX,ay]
 ·rw[az _ _ hk]
  unfold iV
  by_cases h2:k%2=0
  ·rw[aj h2,aj h2]
  ·rw[ah h2,ah h2,az _ _ ω]
theorem EP(A B:Nat→Value)(i:Nat)(v:Value):dg (mix A B) (2*i+1) v=mix A (dg B i v):=by
 funext k
 unfold dg mix
 by_cases hk:k=2*i+1
 ·subst hk;rw[aj rfl,ah ω]
  show v=if(2*i+1)/2=i then v else B ((2*i+1)/2)
  rw[aj ω]
 ·rw[ah hk]
  by_cases h2:k%2=0
  ·rw[aj h2,aj h2]
  ·rw[ah h2,ah h2]
   show B (k/2)=if k/2=i then v else B (k/2)
   rw[ah ω]
theorem Mem.left{H A:Nat→Option bh}{νA:Nat→Value}(h:Mem c (iV H A) w M (mix ν νA)):Mem c H w M ν:=
 ⟨λi e hi=>by have:=h.kP (2*i) _ (iu hi);rw[ig]at this;exact ER.re.1 this,
  λi j e e' b pH hi hm hj jI=>by have:=h.zB (2*i) (2*j) _ _ b ω (iu hi) (bh.qO.2 hm) (iu hj) (bh.qO.2 jI);rwa [ig,ig]at this,
  λi e b hi hm=>by have:=h.new (2*i) _ b (iu hi) (bh.qO.2 hm);rwa [ig]at this,
  λi e l b hi=>by have:=h.yq (2*i) e l b (iu hi);rwa [ig]at this,
  λi τ x p j hi=>by
   obtain⟨h1,b,h2,h3⟩:=h.ga (2*i) τ x p (ml j) (iu hi)
   rw[ig]at h2
   unfold ml at h1 h3
   rw[ig]at h3
   exact⟨JN.1 h1,b,h2,h3⟩,
  h.sub,h.Ev,h.frame,h.size,h.vi,h.os,h.tape,h.output⟩
theorem Mem.right{H A:Nat→Option bh}{νA:Nat→Value}(h:Mem c (iV H A) w M (mix ν νA)):Mem c A w M νA:=
 ⟨λi e hi=>by have:=h.kP (2*i+1) _ (tY hi);rw[uX]at this;exact ER.re.1 this,
  λi j e e' b pH hi hm hj jI=>by have:=h.zB (2*i+1) (2*j+1) _ _ b ω (tY hi) (bh.qO.2 hm) (tY hj) (bh.qO.2 jI);rwa [uX,uX]at this,
  λi e b hi hm=>by have:=h.new (2*i+1) _ b (tY hi) (bh.qO.2 hm);rwa [uX]at this,
  λi e l b hi=>by have:=h.yq (2*i+1) e l b (tY hi);rwa [uX]at this,
  λi τ x p j hi=>by
   obtain⟨h1,b,h2,h3⟩:=h.ga (2*i+1) τ x p (mr j) (tY hi)
   rw[uX]at h2
   unfold mr at h1 h3
   rw[uX]at h3
   exact⟨JO.1 h1,b,h2,h3⟩,
  h.sub,h.Ev,h.frame,h.size,h.vi,h.os,h.tape,h.output⟩
theorem Mem.Zg{H:Nat→Option bh}(νA:Nat→Value)(h:Mem c H w M ν):Mem c (iV H (λ_=>none)) w M (mix ν νA):=by
 have key: ∀i e,iV H (λ_=>none) i=some e→ ∃j e0,i=2*j∧H j=some e0∧e=e0.re ml:=by
  intro i e hi
  unfold iV at hi
  by_cases h2:i%2=0
  ·rw[aj h2]at hi
   obtain⟨e0,h3,h4⟩:=zb.1 hi
   exact⟨i/2,e0,ω,h3,h4.symm⟩
  ·rw[ah h2]at hi;cases hi
 refine⟨λi e hi=> ?_,λi j e e' b pH hi hm hj jI=> ?_,λi e b hi hm=> ?_,λi e l b hi=> ?_,λi τ x p j hi=> ?_,h.sub,h.Ev,h.frame,h.size,h.vi,h.os,h.tape,h.output⟩
 ·obtain⟨j,e0,rfl,hj,rfl⟩:=key i e hi;rw[ig];exact ER.re.2 (h.kP j e0 hj)
 ·obtain⟨i',e1,rfl,mX,rfl⟩:=key i e hi;obtain⟨j',e2,rfl,YI,rfl⟩:=key j e' hj
  rw[ig,ig];exact h.zB i' j' e1 e2 b ω mX (bh.qO.1 hm) YI (bh.qO.1 jI)
 ·obtain⟨j,e0,rfl,hj,rfl⟩:=key i e hi;rw[ig];exact h.new j e0 b hj (bh.qO.1 hm)
 ·obtain⟨j,e0,rfl,hj,he⟩:=key i _ hi
  cases e0<;>simp only[bh.re]at he<;>cases he
  rw[ig];exact h.yq j e l b hj
 ·obtain⟨k,e0,rfl,hk,he⟩:=key i _ hi
  cases e0<;>simp only[bh.re]at he<;>cases he
  obtain⟨h1,b,h2,h3⟩:=h.ga k _ _ _ _ hk
  refine⟨JN.2 h1,b,by rw[ig];exact h2,?_⟩
  unfold ml
  rw[ig];exact h3
theorem sE.left{H A H' A':Nat→Option bh}{νA ν' SQ:Nat→Value}(g:sE (iV H A) (mix ν νA) (iV H' A') (mix ν' SQ)):sE H ν H' ν':=
 ⟨λi e hi=>by
   obtain⟨e',h1,h2⟩:=g.kP (2*i) _ (iu hi)
   rw[yx]at h1
   obtain⟨e0,h3,rfl⟩:=zb.1 h1
   exact⟨e0,h3,bh.Rj.1 h2⟩,
  λi hi=>by have:=g.head (2*i) (JN.2 hi);rwa [ig,ig]at this⟩
theorem sE.right{H A H' A':Nat→Option bh}{νA ν' SQ:Nat→Value}(g:sE (iV H A) (mix ν νA) (iV H' A') (mix ν' SQ)):sE A νA A' SQ:=
 ⟨λi e hi=>by
   obtain⟨e',h1,h2⟩:=g.kP (2*i+1) _ (tY hi)
   rw[tX]at h1
   obtain⟨e0,h3,rfl⟩:=zb.1 h1
   exact⟨e0,h3,bh.Rj.1 h2⟩,
  λi hi=>by have:=g.head (2*i+1) (JO.2 hi);rwa [uX,uX]at this⟩
theorem Mem.move{H A:Nat→Option bh}{νA:Nat→Value}(h:Mem c (iV H A) w M (mix ν νA)){i j:Nat}{e e1:bh}(hi:H i=some e)(hm:e.mut)(hj:A j=none)
  (PD:(e1=e∧ ∀τ x p k,e≠ .ga τ x p k)∨ ∃τ x p k k',e= .ga τ x p k∧e1= .ga τ x p k'∧A k'≠none∧νA k'=ν k):
  Tr c (iV H A) w M (mix ν νA) (iV (bW H i (some .gone)) (bW A j (some e1))) w M (mix ν (dg νA j (ν i))):=by
 have hg:=Tr.gone h (2*i)
 have hgo:(some bh.gone)=(some bh.gone).map (bh.re ml):=rfl
 rw[hgo,qP]at hg
 have UL:=iu (B:=A) hi
 have hER:ER w M (ν i) (e1.re mr):=by
  have h1:=h.kP (2*i) _ UL
  rw[ig]at h1
  have h1:=ER.re.1 h1
  rcases PD with⟨rfl,_⟩|⟨τ,x,p,k,k',rfl,rfl,_,_⟩
  ·exact ER.re.2 h1
  ·exact h1
 have h2:=Mem.yd hg.mem (id:=2*j+1) (v:=ν i) (e:=e1.re mr) (λe' vQ=>by rw[tX,hj]at vQ;cases vQ)
  hER
  (λb hb k e' hk jI=>by
   by_cases YF:k=2*i
   ·subst YF;rw[yx,ay]at hk;cases hk;simp[bh.re,bh.mut]at jI
   ·have hk3:iV H A k=some e':=by
     have:=congrFun (qP H A i (some .gone)) k
     rw[az _ _ YF]at this
     rw[this];exact hk
    have:=h.zB (2*i) k _ e' b (eE YF) UL (bh.qO.2 hm) hk3 jI
    rw[ig]at this
    exact this hb)
  (λb hb=>by have:=h.new (2*i) _ b UL (bh.qO.2 hm);rw[ig]at this;exact this hb)
  (λb e0 l0 he hb=>by
   rcases PD with⟨rfl,_⟩|⟨τ,x,p,k,k',rfl,rfl,_,_⟩
   ·cases e1<;>simp only[bh.re]at he<;>cases he
    have:=h.yq (2*i) e0 l0 b UL;rw[ig]at this;exact this hb
   ·simp[bh.re]at he)
  (.inl (by rw[tX,hj];rfl))
  (fun τ x p k he=>by
   rcases PD with⟨rfl,hn⟩|⟨τ,x,p,k,k',rfl,rfl,hk,hνk⟩
   ·cases e1<;>simp only[bh.re]at he<;>cases he
    exact absurd rfl (hn _ _ _ _)
   ·simp only[bh.re]at he
    cases he
    obtain⟨_,b,h4,h5⟩:=h.ga (2*i) _ _ _ _ UL
    rw[ig]at h4
    have hkj:k'≠j:=λe=>hk (e▸hj)
    refine⟨?_,b,h4,?_⟩
    ·rw[az _ _ (by unfold mr;omega)]
     unfold mr
     exact JO.2 hk
    ·unfold ml at h5
     rw[ig]at h5
     rw[h5,←hνk]
     have:dg (mix ν νA) (2*j+1) (ν i) (mr k')=mix ν νA (mr k'):=by
      unfold dg mr;rw[ah ω]
     rw[this];unfold mr;rw[uX])
 have Zh:some (e1.re mr)=(some e1).map (bh.re mr):=rfl
 rw[Zh,EO,EP]at h2
 refine⟨h2,.refl w M,⟨λk e' hk=> ?_,λk hk=> ?_⟩⟩
 ·by_cases h3:k%2=0
  ·obtain⟨k',rfl⟩: ∃k',k=2*k':=⟨k/2,ω⟩
   by_cases EL:k'=i
   ·subst EL;exact⟨.gone,by rw[yx,ay];rfl,bh.kD _⟩
   ·exact⟨e',by rw[yx]at hk ⊢;rw[az _ _ EL];exact hk,.refl e'⟩
  ·obtain⟨k',rfl⟩: ∃k',k=2*k'+1:=⟨k/2,ω⟩
   rw[tX]at hk ⊢
   have EL:k'≠j:=λe=>by rw[e,hj]at hk;cases hk
   exact⟨e',by rw[az _ _ EL];exact hk,.refl e'⟩
 ·by_cases h3:k%2=0
  ·obtain⟨k',rfl⟩: ∃k',k=2*k':=⟨k/2,ω⟩
   rw[ig,ig]
  ·obtain⟨k',rfl⟩: ∃k',k=2*k'+1:=⟨k/2,ω⟩
   rw[uX,uX]
   have EL:k'≠j:=λe=>by rw[tX,e,hj]at hk;exact hk rfl
   simp[dg,EL]
theorem Mem.fresh{H A:Nat→Option bh}{νA:Nat→Value}(h:Mem c (iV H A) w M (mix ν νA)){j:Nat}(hj:A j=none)(e:Ty)(ad:Option Addr):
  Tr c (iV H A) w M (mix ν νA) (iV H (bW A j (some (.own e [])))) w M (mix ν (dg νA j (.slice ad 0 0))):=by
 have:=Tr.nothing h (id:=2*j+1) (by rw[tX,hj];rfl) e ad
 have Zh:some (bh.own e [])=(some (bh.own e [])).map (bh.re mr):=rfl
 rw[Zh,EO,EP]at this
 exact this
structure Cut(c:Ctx)(σ acc:St)(tm:Array Value)(w:World)(M:Nat→Prop)(ν νA:Nat→Value):Prop where
 mem:Mem c (iV σ.H acc.H) w M (mix ν νA)
 src: ∀i,VR w M σ.H ν (σ.T i) (tm.getD i undef)
 dst: ∀i,VR w M acc.H νA (acc.T i) (tm.getD i undef)
theorem Cut.tr{acc:St}{tm:Array Value}{νA:Nat→Value}(h:Cut c σ acc tm w M ν νA){H' A':Nat→Option bh}{M':Nat→Prop}{SQ:Nat→Value}(t:Tr c (iV σ.H acc.H) w M (mix ν νA) (iV H' A') w M' (mix ν SQ)){s:Nat}{x:bC}(hx:VR w M' A' SQ x (tm.getD s undef)):
  Cut c ⟨σ.T,H'⟩ ⟨(acc.put s x).T,A'⟩ tm w M' ν SQ:=by
 refine⟨t.mem,λi=>VR.bZ t.bZ t.goes.left (h.src i),λi=> ?_⟩
 show VR w M' A' SQ ((acc.put s x).T i) _
 by_cases hi:i=s
 ·subst hi;rw[tW];exact hx
 ·rw[zO _ _ hi];exact VR.bZ t.bZ t.goes.right (h.dst i)
def Vn(A:Nat→Option bh)(s:Nat):Prop:=A (16*s+13)=none∧A (16*s+14)=none∧A (16*s+15)=none
theorem lQ{q:Nat×CM}{L:List (Nat×CM)}{A:Nat→Option bh}(hF:jU (q::L)=true)(hN: ∀p∈q::L,Vn A p.1):
  jU L=true∧(∀p∈L,Vn A p.1)∧
   ∀(A':Nat→Option bh) (d:Nat) (v:Option bh),(d=16*q.1+13∨d=16*q.1+14∨d=16*q.1+15)→(∀p∈L,Vn A' p.1)→ ∀p∈L,Vn (bW A' d v) p.1:=by
 unfold jU at hF
 rw[bP,qu]at hF
 refine⟨hF.2,λp hp=>hN p (a6 _ hp),λA' d v hd hN' p hp=> ?_⟩
 have jH:p.1≠q.1:=λe=>by
  have:=hF.1 p hp
  rw[e]at this
  simp at this
 obtain⟨h1,h2,h3⟩:=hN' p hp
 exact⟨by rw[az _ _ ω];exact h1,by rw[az _ _ ω];exact h2,by rw[az _ _ ω];exact h3⟩
theorem eR{tm:Array Value}: ∀(L:List (Nat×CM)) (σ acc:St) (M:Nat→Prop) (νA:Nat→Value) (K:St→Option α),Cut c σ acc tm w M ν νA→jU L=true→(∀q∈L,Vn acc.H q.1)→gY L σ acc K=some r→
  ∃Zi M' SQ,K Zi=some r∧Core c Zi tm w M' SQ
 |[],σ,acc,M,νA,K,hC,_,_,h=>⟨acc,M,νA,h,hC.mem.right,hC.dst⟩
 |(s,.v τ)::L,σ,acc,M,νA,K,hC,hF,hN,h=>by
  obtain⟨Pq,Pr,SS⟩:=lQ hF hN
  unfold gY at h
  obtain⟨y,rd,ups,h,hy⟩:=DG hC.mem.left (hC.src s) h
  rcases hy with⟨rfl,hV⟩|⟨id,e,l,rfl,bg,hV⟩
  ·exact eR L σ _ M νA K (hC.tr (.refl hC.mem) (x:= .val τ y) (by simp only[VR];exact hV)) Pq Pr h
  ·obtain⟨M2,ic,_,JB⟩:=Tr.freeze hC.mem (id:=2*id) (iu bg)
   have Zh:some (bh.ot e l)=(some (bh.ot e l)).map (bh.re ml):=rfl
   rw[Zh,qP]at ic
   refine eR L _ _ M2 νA K (hC.tr ic (x:= .val τ y) ?_) Pq Pr h
   simp only[VR]
   exact hV M2 (λb=>by rw[JB b,ig])
 |(s,.own e)::L,σ,acc,M,νA,K,hC,hF,hN,h=>by
  obtain⟨Pq,Pr,SS⟩:=lQ hF hN
  unfold gY at h
  have hs:=hC.src s
  split at h
  ·rename_i hT
   have hj:=(hN _ bn).2.1
   rw[hT]at hs
   obtain⟨ad,hv⟩:=VR.emp.1 hs
   refine eR L σ _ M _ K (hC.tr (hC.mem.fresh hj e ad) (x:= .ref (16*s+14)) ?_) Pq (SS _ _ _ (.inr (.inl rfl)) Pr) h
   simp only[VR]
   exact⟨by rw[ay];simp,by rw[hv];simp[dg]⟩
  ·rename_i id hT
   rw[hT]at hs
   simp only[VR]at hs
   split at h
   ·rename_i e' l bg
    obtain⟨e1,h⟩:=bB h
    cases e1
    have hj:=(hN _ bn).2.1
    refine eR L _ _ M _ K (hC.tr (hC.mem.move bg trivial hj (.inl ⟨rfl,λ_ _ _ _=>by simp⟩)) (x:= .ref (16*s+14)) ?_) Pq (SS _ _ _ (.inr (.inl rfl)) Pr) h
    simp only[VR]
    exact⟨by rw[ay];simp,by rw[hs.2];simp[dg]⟩
   ·cases h
  ·cases h
 |(s,.obj τ)::L,σ,acc,M,νA,K,hC,hF,hN,h=>by
  obtain⟨Pq,Pr,SS⟩:=lQ hF hN
  unfold gY at h
  have hs:=hC.src s
  split at h
  ·rename_i id hT
   rw[hT]at hs
   split at h
   ·rename_i υ x bg
    obtain⟨e1,h⟩:=bB h
    subst e1
    have hj:=(hN _ bn).2.1
    simp only[VR]at hs
    obtain⟨e,he,nA⟩:=hs
    rw[bg]at he;cases he
    simp only[AR]at nA
    obtain⟨_,b,hb,hv⟩:=nA
    refine eR L _ _ M _ K (hC.tr (hC.mem.move bg trivial hj (.inl ⟨rfl,λ_ _ _ _=>by simp⟩)) (x:= .jg (16*s+14) []) ?_) Pq (SS _ _ _ (.inr (.inl rfl)) Pr) h
    simp only[VR]
    exact⟨_,ay _ _ _,trivial,b,by simp[dg,hb],hv⟩
   ·
    rename_i υ x q k bg
    obtain⟨z,ups,M2,hK,ic,alF,b,cs,t,hb,hg,JB,kM⟩: ∃z ups M2,c7 υ τ z (λy=>gY L ((σ.vI ups).jF id (some .gone)) ((acc.put s (.jg (16*s+14) [])).jF (16*s+14) (some (.obj τ y))) K)=some r∧
      Tr c (iV σ.H acc.H) w M (mix ν νA) (iV (c3 σ.H ups) acc.H) w M2 (mix ν νA)∧c3 σ.H ups id=some (.ga υ x q k)∧ ∃b cs t,ν id= .pointer (some ⟨b,0,none⟩)∧w.heap[b]? =some (.cells cs t (0,0))∧M2 b∧Rd w M2 υ cs.toList z:=by
     have alG:=iu (B:=acc.H) bg
     unfold CR at h
     split at h
     ·rename_i e l hk
      have jH:id≠k:=λe=>by rw[e,hk]at bg;cases bg
      obtain⟨z,ups,M2,hK,ic,_,hc2,b,cs,t,hb,hg,JB,kM⟩:=yu (H:=iV σ.H acc.H) hC.mem (id:=2*id) (j:=2*k) (x:=x) (q:=q)
       (k:=λz _=>c7 υ τ z λy=>gY L ((σ.vI [(k,some (.ot e l))]).jF id (some .gone)) ((acc.put s (.jg (16*s+14) [])).jF (16*s+14) (some (.obj τ y))) K) alG (by
        unfold CR
        rw[iu hk]
        exact h)
      rw[ig]at hb
      rcases hc2 with⟨e2,l2,h2,_⟩|⟨e2,l2,h2,rfl⟩
      ·rw[iu hk]at h2;simp[bh.re]at h2
      ·rw[iu hk]at h2
       simp only[bh.re,iq]at h2
       have Zh:some (bh.ot e l)=(some (bh.ot e l)).map (bh.re ml):=rfl
       have vU:Tr c (iV σ.H acc.H) w M (mix ν νA) (bW (iV σ.H acc.H) (2*k) (some (.ot e l))) w M2 (mix ν νA):=by
        cases h2;exact ic
       rw[Zh,qP]at vU
       exact⟨z,_,M2,hK,vU,by show bW σ.H k _ id=_;rw[az _ _ jH];exact bg,b,cs,t,hb,hg,JB,kM⟩
     ·rename_i e l hk
      obtain⟨z,ups,M2,hK,ic,_,hc2,b,cs,t,hb,hg,JB,kM⟩:=yu (H:=iV σ.H acc.H) hC.mem (id:=2*id) (j:=2*k) (x:=x) (q:=q)
       (k:=λz _=>c7 υ τ z λy=>gY L ((σ.vI []).jF id (some .gone)) ((acc.put s (.jg (16*s+14) [])).jF (16*s+14) (some (.obj τ y))) K) alG (by
        unfold CR
        rw[iu hk]
        exact h)
      rw[ig]at hb
      rcases hc2 with⟨e2,l2,h2,rfl⟩|⟨e2,l2,h2,_⟩
      ·exact⟨z,[],M2,hK,ic,bg,b,cs,t,hb,hg,JB,kM⟩
      ·rw[iu hk]at h2;simp[bh.re]at h2
     ·cases h
    obtain⟨e1,hK⟩:=bB hK
    subst e1
    have hC2:Cut c ⟨σ.T,c3 σ.H ups⟩ acc tm w M2 ν νA:=⟨ic.mem,λi=>VR.bZ ic.bZ ic.goes.left (hC.src i),λi=>VR.bZ ic.bZ ic.goes.right (hC.dst i)⟩
    have vq:=Tr.GW (e':= .obj υ z) ic.mem (iu alF) trivial trivial rfl (λ_ _=>by simp) (by rw[ig];simp only[ER];exact⟨b,cs,t,hb,hg,JB,kM⟩) (λ_ _ _ _ h=>by cases h)
    have Zh:some (bh.obj υ z)=(some (bh.obj υ z)).map (bh.re ml):=rfl
    rw[Zh,qP]at vq
    have hC3:Cut c ⟨σ.T,bW (c3 σ.H ups) id (some (.obj υ z))⟩ acc tm w M2 ν νA:=⟨vq.mem,λi=>VR.bZ vq.bZ vq.goes.left (hC2.src i),λi=>VR.bZ vq.bZ vq.goes.right (hC2.dst i)⟩
    have hj:=(hN _ bn).2.1
    simp only[VR]at hs
    obtain⟨e,he,nA⟩:=hs
    rw[bg]at he;cases he
    simp only[AR]at nA
    obtain⟨_,b',eV,hv⟩:=nA
    rw[hb]at eV;cases eV
    have hmv:=hC3.mem.move (ay _ _ _) trivial hj (.inl ⟨rfl,λ_ _ _ _=>by simp⟩)
    rw[yt]at hmv
    have GG:(σ.vI ups).jF id (some .gone)=⟨σ.T,bW (c3 σ.H ups) id (some .gone)⟩:=by
     have h2:σ.vI ups=⟨σ.T,c3 σ.H ups⟩:=by rw[←PA,←PC ups σ]
     rw[h2];rfl
    rw[GG]at hK
    refine eR L _ _ M2 _ K (hC3.tr hmv (x:= .jg (16*s+14) []) ?_) Pq (SS _ _ _ (.inr (.inl rfl)) Pr) hK
    simp only[VR]
    exact⟨_,ay _ _ _,trivial,b,by simp[dg,hb],hv⟩
   ·cases h
  ·cases h
 |(s,.ga τ q e)::L,σ,acc,M,νA,K,hC,hF,hN,h=>by
  obtain⟨Pq,Pr,SS⟩:=lQ hF hN
  unfold gY at h
  have hs:=hC.src s
  split at h
  ·rename_i id hT
   rw[hT]at hs
   split at h
   ·rename_i υ x q' k bg
    obtain⟨hpq,h1⟩:=cA h
    clear h
    have:=AY hpq
    subst this
    split at h1
    ·rename_i e' l hk
     obtain⟨e1,h2⟩:=bB h1
     clear h1
     subst e1
     obtain⟨e2,h⟩:=bB h2
     cases e2
     have jH:id≠k:=λe=>by rw[e,hk]at bg;cases bg
     obtain⟨aq1,aq2,_⟩:=hN _ bn
     simp only[VR]at hs
     obtain⟨e,he,nA⟩:=hs
     rw[bg]at he;cases he
     simp only[AR]at nA
     obtain⟨_,b,hb,hv⟩:=nA
     have s9:=hC.mem.move hk trivial aq1 (.inl ⟨rfl,λ_ _ _ _=>by simp⟩)
     have pd:bW σ.H k (some .gone) id=some (.ga υ x q k):=by rw[az _ _ jH];exact bg
     have yc:=s9.mem.move pd trivial (j:=16*s+14) (e1:= .ga υ x q (16*s+13)) (by rw[az _ _ ω];exact aq2)
      (.inr ⟨υ,x,q,k,16*s+13,rfl,rfl,by rw[ay];simp,by simp[dg]⟩)
     refine eR L _ _ M _ K (hC.tr (s9.trans yc) (s:=s) (x:= .jg (16*s+14) []) ?_) Pq (SS _ _ _ (.inr (.inl rfl)) (SS _ _ _ (.inl rfl) Pr)) h
     simp only[VR]
     exact⟨_,ay _ _ _,trivial,b,by simp[dg,hb],hv⟩
    ·cases h1
   ·cases h
  ·cases h
 |(s,.same s')::L,σ,acc,M,νA,K,hC,hF,hN,h=>by
  obtain⟨Pq,Pr,SS⟩:=lQ hF hN
  unfold gY at h
  split at h
  ·rename_i i j j' h1 h2 h3
   obtain⟨hb,h⟩:=cA h
   have hb:=fT hb
   have e1:=hC.src s
   have e2:=hC.src s'
   have e3:=hC.dst s'
   rw[h1]at e1;rw[h2]at e2;rw[h3]at e3
   simp only[VR]at e1 e2 e3
   refine eR L σ _ M νA K (hC.tr (.refl hC.mem) (x:= .ref j') ?_) Pq Pr h
   simp only[VR]
   exact⟨e3.1,by rw[e1.2,hb,←e2.2,e3.2]⟩
  ·cases h
 |(s,.io τ)::L,σ,acc,M,νA,K,hC,hF,hN,h=>by
  obtain⟨Pq,Pr,SS⟩:=lQ hF hN
  unfold gY at h
  have hs:=hC.src s
  split at h
  ·rename_i id hT
   rw[hT]at hs
   obtain⟨_,h⟩:=cA h
   split at h
   ·rename_i υ x bg
    obtain⟨e1,h⟩:=bB h
    subst e1
    have hj:=(hN _ bn).2.2
    simp only[VR]at hs
    obtain⟨e,he,nA⟩:=hs
    rw[bg]at he;cases he
    simp only[AR]at nA
    obtain⟨_,b,hb,hv⟩:=nA
    refine eR L _ _ M _ K (hC.tr (hC.mem.move bg trivial hj (.inl ⟨rfl,λ_ _ _ _=>by simp⟩)) (x:= .jg (16*s+15) []) ?_) Pq (SS _ _ _ (.inr (.inr rfl)) Pr) h
    simp only[VR]
    exact⟨_,ay _ _ _,trivial,b,by simp[dg,hb],hv⟩
   ·cases h
  ·cases h
 |(s,.fn f τ)::L,σ,acc,M,νA,K,hC,hF,hN,h=>by
  obtain⟨Pq,Pr,SS⟩:=lQ hF hN
  unfold gY at h
  have hs:=hC.src s
  split at h
  ·rename_i f' cs hT
   rw[hT]at hs
   obtain⟨hb,h1⟩:=cA h
   clear h
   have hb:=fT hb
   subst hb
   simp only[VR]at hs
   obtain⟨us,hv,Y0⟩:=hs
   obtain⟨y,rd,ups,h,hy⟩:=EI hC.mem.left Y0 h1
   split at h
   ·refine eR L σ _ M νA K (hC.tr (.refl hC.mem) (x:= .LD f (pG τ y)) ?_) Pq Pr h
    simp only[VR]
    exact⟨us,hv,ji.free (hy rfl)⟩
   ·cases h
  ·cases h
theorem yz(hI:Inv c E σ a w){L:Option (List (Nat×CM))}(hL: ∀L',L=some L'→jU L'=true){K:St→Option α}(h:vO L σ K=some r): ∃σ',K σ'=some r∧Inv c E σ' a w:=by
 unfold vO at h
 split at h
 ·exact⟨σ,h,hI⟩
 ·have Vl:=hL _ rfl
  obtain⟨⟨M,ν,hc⟩,hs,hd⟩:=hI
  obtain⟨Zi,M',SQ,hK,alH⟩:=eR (tm:=a.tmps) _ σ ⟨λ_=> .any,λ_=>none⟩ M (λ_=>undef) K ⟨hc.mem.Zg _,hc.tmp,λi=>by simp[VR]⟩ Vl (λ_ _=>⟨rfl,rfl,rfl⟩) h
  exact⟨Zi,hK,⟨M',SQ,alH⟩,hs,hd⟩
end VM
end
