/- A part of the proof of WindTwice of layer 21: a machine that reads a function of the program as an equation between values. -/
import Derived.Test.YtecmobijochjkaaGreatVm3
import Derived.Scope
set_option linter.all false
section
namespace VM
open Go
variable{P:Program}{E:Env}{o:Oper}{a:Act}{w:World}{M:Nat→Prop}{ν:Nat→Value}{σ:St}{c:Ctx}{α:Type}{r:α}{next:Act→World→Prop}{Q:Exit→Act→World→Prop}
theorem Mem.call{H:Nat→Option bl}(h:Mem c H w M ν){hs:List Nat}{M0 M':Nat→Prop}{w':World}(hM: ∀b,M0 b→M b)(hhs: ∀b∈hs,M b)
  (vA: ∀b∈hs,∀i e,H i=some e→e.mut→fK (ν i)≠some b) (ly: ∀b∈hs,c.B≤b∨c.may b) (vd: ∀b∈hs,c.M0 b→M' b) (L:Left w M0 hs w' M'):
  Mem c H w' (λb=>M' b∨(M b∧b∉hs)) ν∧e8 w M w' (λb=>M' b∨(M b∧b∉hs)):=by
 have hk:e8 w M w' (λb=>M' b∨(M b∧b∉hs)):=by
  refine⟨L.size,λb hb hm=>L.frame b hb (λhh=>hm (hhs b hh)),λb hb hm=> ?_⟩
  rcases hm with hm|hm
  ·exact(L.less b hb hm).elim (hM b) (hhs b)
  ·exact hm.1
 refine⟨⟨λi e hi=>(h.kZ i e hi).ca hk λhm b hb=> ?_,h.zL,h.new,h.yC,qQ h (λ_ _=>rfl) (λ_ h=>h) (λi τ x p j hi=> .inl ⟨hi,λb hb=> ?_⟩),λb hb=> ?_,λb hb=> ?_,λb hb hm=> ?_,cm h.size L.size,h.vt,L.os.trans h.os,L.tape.trans h.tape,L.output.trans h.output⟩,hk⟩
 ·have hMb:=(h.kZ i e hi).xU hm hb
  have zS:b∉hs:=λhh=>vA b hh i e hi hm hb
  exact⟨L.frame b (h.EI b hMb) zS,.inr ⟨hMb,zS⟩⟩
 ·have wa:fK (ν i)=some b:=by rw[hb];rfl
  have hMb:=(h.kZ i _ hi).xU trivial wa
  exact L.frame b (h.EI b hMb) (λhh=>vA b hh i _ hi trivial wa)
 ·by_cases hh:b∈hs
  ·exact .inl (vd b hh hb)
  ·exact .inr ⟨h.sub b hb,hh⟩
 ·rcases hb with hb|hb
  ·exact L.EI b hb
  ·exact mW (h.EI b hb.1) L.size
 ·have zS:b∉hs:=λhh=>(ly b hh).elim (λh'=>ω) hm
  rw[L.frame b (mW hb h.size) zS]
  exact h.frame b hb hm
theorem Mem.yn{H:Nat→Option bl}(h:Mem c H w M ν){id:Nat}{v:Value}{e:bl}(bf: ∀e',H id=some e'→ ¬e'.mut)(S8:ER w M v e)
  (hd: ∀b,fK v=some b→ ∀i e',H i=some e'→e'.mut→fK (ν i)≠some b) (hn: ∀b,fK v=some b→c.B≤b∨c.may b) (ho: ∀b e0 l0,e= .own e0 l0→fK v=some b→ ¬c.M0 b)
  (hnv:H id=none∨v=ν id)
  (sS: ∀τ x p j,e= .gd τ x p j→bY H id (some e) j≠none∧ ∃b,v= .pointer (some ⟨b,0,none⟩)∧w.cell? ⟨b,cF p τ,none⟩=some (dh ν id v j):=by intro _ _ _ _ h;cases h):
  Mem c (bY H id (some e)) w M (dh ν id v):=by
 have hν: ∀i,i≠id→dh ν id v i=ν i:=λi hi=>by simp[dh,hi]
 have Da:dh ν id v id=v:=by simp[dh]
 refine⟨λi e1 hi=> ?_,λi k e1 e2 b1 pP hi tp hk ym=> ?_,λi e1 b1 hi tp=> ?_,λi e1 l1 b1 hi=> ?_,qQ h (λi hi=> ?_) xp (λi τ x p j hi=> ?_),h.sub,h.EI,h.frame,h.size,h.vt,h.os,h.tape,h.output⟩
 ·by_cases bX:i=id
  ·subst bX;rw[ay]at hi;cases hi;rw[Da];exact S8
  ·rw[az _ _ bX]at hi;rw[hν i bX];exact h.kZ i e1 hi
 ·by_cases bX:i=id
  ·subst bX;rw[Da]
   have Mi:k≠i:=eJ pP
   rw[az _ _ Mi]at hk;rw[hν k Mi]
   intro my
   exact hd b1 my k e2 hk ym
  ·rw[az _ _ bX]at hi;rw[hν i bX]
   by_cases Mi:k=id
   ·subst Mi;rw[Da]
    intro my tS
    exact hd b1 tS i e1 hi tp my
   ·rw[az _ _ Mi]at hk;rw[hν k Mi];exact h.zL i k e1 e2 b1 pP hi tp hk ym
 ·by_cases bX:i=id
  ·subst bX;rw[Da];exact hn b1
  ·rw[az _ _ bX]at hi;rw[hν i bX];exact h.new i e1 b1 hi tp
 ·by_cases bX:i=id
  ·subst bX;rw[ay]at hi;cases hi;rw[Da];exact ho b1 e1 l1 rfl
  ·rw[az _ _ bX]at hi;rw[hν i bX];exact h.yC i e1 l1 b1 hi
 ·by_cases bX:i=id
  ·subst bX
   rcases hnv with hnv|hnv
   ·exact absurd hnv hi
   ·rw[Da,hnv]
  ·exact hν i bX
 ·by_cases bX:i=id
  ·subst bX
   rw[ay]at hi
   cases hi
   obtain⟨h1,b,h2,h3⟩:=sS _ _ _ _ rfl
   exact .inr ⟨h1,b,by rw[Da];exact h2,h3⟩
  ·rw[az _ _ bX]at hi
   exact .inl ⟨hi,λ_ _=>rfl⟩
theorem Tk{m:AM}{ms:List AM}(x:HP (m::ms))(id:Nat)(io:List (Nat×AM)):
  jQ (m::ms) x id io=match m,s0 x,io with
   | .io τ,y,(j,_)::io=>((jQ ms (xZ x) (id+1) io).1,(j,some (.obj τ y))::(jQ ms (xZ x) (id+1) io).2.1,(jQ ms (xZ x) (id+1) io).2.2)
   | .lo e,y,(j,_)::io=>((jQ ms (xZ x) (id+1) io).1,(j,some (.own e y))::(jQ ms (xZ x) (id+1) io).2.1,(jQ ms (xZ x) (id+1) io).2.2)
   |m,y,io=>((JK m y id).1::(jQ ms (xZ x) (id+1) io).1,(JK m y id).2++(jQ ms (xZ x) (id+1) io).2.1,(jQ ms (xZ x) (id+1) io).2.2):=by
 cases ms with
 |nil=>cases m<;>cases io<;>simp[jQ,s0]
 |cons n ms=>cases m<;>cases io<;>simp[jQ,s0,xZ]
theorem mA{l1 l2:List Nat}{b:Nat}(h:(l1++l2).Nodup)(h1:b∈l1):b∉l2:=λh2=>(pV.1 h).2.2 b h1 b h2 rfl
theorem RR.J2: ∀{ms:List AM} {x:HP ms} {us ps:List Value},RR w M ms x us ps→ ∀p∈ps,∀b,fK p=some b→b∈bG ms us ps
 |[],_,_,_,h,p,hp,_,_=>by simp only[RR]at h;rw[h.2]at hp;simp at hp
 |m::ms,x,us,ps,h,p,hp,b,hb=>by
  simp only[RR]at h
  rcases h with⟨p',G6,h1,rfl,h2,h3⟩|⟨v,J1,h1,h2,rfl,h3,h4⟩
  ·simp only[bG,h1,gA,s7,s9,bb]
   rcases aW.1 hp with rfl|hp
   ·left
    cases m<;>simp[AM.iC]at h1<;>simp[da,hb]
   ·exact .inr (RR.J2 h3 p hp b hb)
  ·simp only[bG,h1,iW,eT,s7,s9,bb]
   exact .inr (RR.J2 h4 p hp b hb)
theorem ob{hs:List Nat}{sz:Nat}: ∀{ms:List AM} {x:HP ms} {us ps:List Value} {id:Nat} {io:List (Nat×AM)} {H:Nat→Option bl} {ν:Nat→Value} {used:List Nat},
  Mem c H w M ν→RR w M ms x us ps→ps=io.map (λq=>ν q.1)→nf ms=io.map (·.2)→(keys io).Nodup→(∀q∈io,H q.1=some .gone)→(∀i,id≤i→i<id+ms.length→H i=none)→
  (∀i e b,H i=some e→e.mut→fK (ν i)=some b→(b<sz∧b∉hs)∨b∈used)→(used++bG ms us ps).Nodup→(∀b∈bG ms us ps,sz≤b∨b∈hs)→
  (∀b∈bG ms us ps,(c.B≤b∨c.may b))→(∀b∈bG ms us ps,c.M0 b→ ∃p∈ps,fK p=some b)→
  (∀q∈io,∀e,q.2= .lo e→ ∀b,fK (ν q.1)=some b→ ¬c.M0 b)→
  ∃ν',Mem c (c4 H (jQ ms x id io).2.1) w M ν'∧jr w M (c4 H (jQ ms x id io).2.1) ν' (jQ ms x id io).1 us∧(∀i,H i≠none→ν' i=ν i)∧
   (∀i,i∉keys io→(i<id∨id+ms.length≤i)→c4 H (jQ ms x id io).2.1 i=H i)∧(∀i,id≤i→i<id+ms.length→ ∀e,c4 H (jQ ms x id io).2.1 i=some e→(∃e0 l0,e= .own e0 l0)∨ ∃τ0 z0,e= .obj τ0 z0)∧
   (∀q∈io,IoE (c4 H (jQ ms x id io).2.1) q)
 |[],x,us,ps,id,io,H,ν,used,hm,hr,JZ,EP,Dh,Bk,js,hold,ya,pz,ly,H4,xY=>by
  simp only[RR]at hr
  obtain⟨rfl,rfl⟩:=hr
  have vd:io=[]:=by
   cases io with
   |nil=>rfl
   |cons q io=>simp at JZ
  subst vd
  exact⟨ν,hm,by simp[jQ,jr],λ_ _=>rfl,λ_ _ _=>rfl,λi h1 h2=>by simp at h2;omega,λq hq=>by simp at hq⟩
 |m::ms,x,us,ps,id,io,H,ν,used,hm,hr,JZ,EP,Dh,Bk,js,hold,ya,pz,ly,H4,xY=>by
  rw[Tk]
  simp only[RR]at hr
  rcases hr with⟨p,G6,Hs,rfl,h1,h2⟩|⟨v,J1,Hs,hmf,rfl,h1,h2⟩
  ·
   cases m with
   |io τ=>
    cases io with
    |nil=>simp at JZ
    |cons q io=>
     simp only[bV,fh]at JZ
     obtain⟨rfl,rfl⟩:=JZ
     simp only[nf,bV,fh]at EP
     obtain⟨ZH,aht⟩:=EP
     simp only[keys,bV,zw]at Dh
     have ZI:bG (.io τ::ms) us (ν q.1::io.map λq=>ν q.1)=(fK (ν q.1)).toList++bG ms us (io.map λq=>ν q.1):=rfl
     rw[ZI]at ya pz ly H4
     have xr:=Bk q bk
     have EY:q.1<id∨id+(ms.length+1)≤q.1:=by
      rcases oW q.1 id with h'|h'
      ·exact .inl h'
      ·rcases oW q.1 (id+(ms.length+1))with J3|J3
       ·rw[js q.1 h' J3]at xr;cases xr
       ·exact .inr J3
     simp only[A1]at h1
     have qV: ∀b,fK (ν q.1)=some b→ ∀i e',H i=some e'→e'.mut→fK (ν i)≠some b:=by
      intro b hb i e' hi jR eY
      have lU:b∈(fK (ν q.1)).toList++bG ms us (io.map λq=>ν q.1):=cT _ (by rw[hb];simp)
      rcases hold i e' b hi jR eY with⟨h3,h4⟩|h3
      ·exact(pz b lU).elim (λh'=>ω) h4
      ·exact mA ya h3 lU
     have ym:=Mem.yn (c:=c) hm (id:=q.1) (v:=ν q.1) (e:= .obj τ (s0 x)) (λe' vZ=>by rw[xr]at vZ;cases vZ;simp[bl.mut]) h1 qV (λb hb=>ly b (cT _ (by rw[hb];simp))) (λb e0 l0 he=>by cases he) (.inr rfl)
     have hνe:dh ν q.1 (ν q.1)=ν:=by funext i;unfold dh;split<;>simp_all
     rw[hνe]at ym
     have ahu: ∀(q':Nat×AM),q'∈io→q'.1≠q.1:=λq' nN e=>Dh.1 (cD.2 ⟨q',nN,e⟩)
     obtain⟨ν',r1,r2,r3,r4,r5,r6⟩:=ob (ms:=ms) (x:=xZ x) (us:=us) (ps:=io.map λq=>ν q.1) (id:=id+1) (io:=io) (used:=used++(fK (ν q.1)).toList) ym h2 rfl aht Dh.2
      (λq' nN=>by rw[az _ _ (ahu q' nN)];exact Bk q' (aZ _ nN))
      (λi h3 h4=>by
       have:i≠q.1:=ω
       rw[az _ _ this]
       exact js i ω (by simp only[aR];omega))
      (λi e b hi jR hb=>by
       by_cases bX:i=q.1
       ·subst bX;exact .inr (dA _ (by rw[hb];simp))
       ·rw[az _ _ bX]at hi
        exact(hold i e b hi jR hb).imp (λh=>h) (cT _))
      (by rw[br];exact ya) (λb hb=>pz b (dA _ hb)) (λb hb=>ly b (dA _ hb))
      (λb hb Y9=>by
       obtain⟨p,hp,hpb⟩:=H4 b (dA _ hb) Y9
       rcases aW.1 hp with rfl|hp
       ·exact absurd (mA (pV.1 ya).2.1 (b:=b) (by rw[hpb];simp)) (by simpa using hb)
       ·exact⟨p,hp,hpb⟩) (λq' nN=>xY q' (aZ _ nN))
     refine⟨ν',r1,r2,λi hi=> ?_,λi h3 h4=> ?_,λi h3 h4 e he=> ?_,λq' nN=> ?_⟩
     ·exact r3 i (by
       by_cases bX:i=q.1
       ·subst bX;rw[ay];simp
       ·rw[az _ _ bX];exact hi)
     ·simp only[keys,bV,aW,not_or]at h3
      have:=r4 i h3.2 (by simp only[aR]at h4;omega)
      rw[az _ _ h3.1]at this
      exact this
     ·by_cases h5:id+1≤i
      ·exact r5 i h5 (by simp only[aR]at h4;omega) e he
      ·have bX:i=id:=ω
       subst bX
       by_cases hk:i∈keys io
       ·obtain⟨q',nN,Bl⟩:=cD.1 hk
        have h9:=Bk q' (aZ _ nN)
        rw[Bl,js i (aG _) (by simp)]at h9
        cases h9
       ·have:=r4 i hk (.inl ω)
        have jB:i≠q.1:=ω
        rw[az _ _ jB,js i (aG _) (by simp)]at this
        have he:c4 (bY H q.1 (some (bl.obj τ (s0 x)))) (jQ ms (xZ x) (i+1) io).2.1 i=some e:=he
        rw[this]at he;cases he
     ·rcases aW.1 nN with rfl|nN
      ·have:=r4 q'.1 Dh.1 ω
       rw[ay]at this
       exact .inl ⟨τ,s0 x,ZH.symm,this⟩
      ·exact r6 q' nN
   |lo τ=>
    cases io with
    |nil=>simp at JZ
    |cons q io=>
     simp only[bV,fh]at JZ
     obtain⟨rfl,rfl⟩:=JZ
     simp only[nf,bV,fh]at EP
     obtain⟨ZH,aht⟩:=EP
     simp only[keys,bV,zw]at Dh
     have ZI:bG (.lo τ::ms) us (ν q.1::io.map λq=>ν q.1)=(fK (ν q.1)).toList++bG ms us (io.map λq=>ν q.1):=rfl
     rw[ZI]at ya pz ly H4
     have xr:=Bk q bk
     have EY:q.1<id∨id+(ms.length+1)≤q.1:=by
      rcases oW q.1 id with h'|h'
      ·exact .inl h'
      ·rcases oW q.1 (id+(ms.length+1))with J3|J3
       ·rw[js q.1 h' J3]at xr;cases xr
       ·exact .inr J3
     simp only[A1]at h1
     have qV: ∀b,fK (ν q.1)=some b→ ∀i e',H i=some e'→e'.mut→fK (ν i)≠some b:=by
      intro b hb i e' hi jR eY
      have lU:b∈(fK (ν q.1)).toList++bG ms us (io.map λq=>ν q.1):=cT _ (by rw[hb];simp)
      rcases hold i e' b hi jR eY with⟨h3,h4⟩|h3
      ·exact(pz b lU).elim (λh'=>ω) h4
      ·exact mA ya h3 lU
     have ym:=Mem.yn (c:=c) hm (id:=q.1) (v:=ν q.1) (e:= .own τ (s0 x)) (λe' vZ=>by rw[xr]at vZ;cases vZ;simp[bl.mut]) h1 qV (λb hb=>ly b (cT _ (by rw[hb];simp))) (λb e0 l0 _ hb=>xY q bk τ ZH.symm b hb) (.inr rfl)
     have hνe:dh ν q.1 (ν q.1)=ν:=by funext i;unfold dh;split<;>simp_all
     rw[hνe]at ym
     have ahu: ∀(q':Nat×AM),q'∈io→q'.1≠q.1:=λq' nN e=>Dh.1 (cD.2 ⟨q',nN,e⟩)
     obtain⟨ν',r1,r2,r3,r4,r5,r6⟩:=ob (ms:=ms) (x:=xZ x) (us:=us) (ps:=io.map λq=>ν q.1) (id:=id+1) (io:=io) (used:=used++(fK (ν q.1)).toList) ym h2 rfl aht Dh.2
      (λq' nN=>by rw[az _ _ (ahu q' nN)];exact Bk q' (aZ _ nN))
      (λi h3 h4=>by
       have:i≠q.1:=ω
       rw[az _ _ this]
       exact js i ω (by simp only[aR];omega))
      (λi e b hi jR hb=>by
       by_cases bX:i=q.1
       ·subst bX;exact .inr (dA _ (by rw[hb];simp))
       ·rw[az _ _ bX]at hi
        exact(hold i e b hi jR hb).imp (λh=>h) (cT _))
      (by rw[br];exact ya) (λb hb=>pz b (dA _ hb)) (λb hb=>ly b (dA _ hb))
      (λb hb Y9=>by
       obtain⟨p,hp,hpb⟩:=H4 b (dA _ hb) Y9
       rcases aW.1 hp with rfl|hp
       ·exact absurd (mA (pV.1 ya).2.1 (b:=b) (by rw[hpb];simp)) (by simpa using hb)
       ·exact⟨p,hp,hpb⟩) (λq' nN=>xY q' (aZ _ nN))
     refine⟨ν',r1,r2,λi hi=> ?_,λi h3 h4=> ?_,λi h3 h4 e he=> ?_,λq' nN=> ?_⟩
     ·exact r3 i (by
       by_cases bX:i=q.1
       ·subst bX;rw[ay];simp
       ·rw[az _ _ bX];exact hi)
     ·simp only[keys,bV,aW,not_or]at h3
      have:=r4 i h3.2 (by simp only[aR]at h4;omega)
      rw[az _ _ h3.1]at this
      exact this
     ·by_cases h5:id+1≤i
      ·exact r5 i h5 (by simp only[aR]at h4;omega) e he
      ·have bX:i=id:=ω
       subst bX
       by_cases hk:i∈keys io
       ·obtain⟨q',nN,Bl⟩:=cD.1 hk
        have h9:=Bk q' (aZ _ nN)
        rw[Bl,js i (aG _) (by simp)]at h9
        cases h9
       ·have:=r4 i hk (.inl ω)
        have jB:i≠q.1:=ω
        rw[az _ _ jB,js i (aG _) (by simp)]at this
        have he:c4 (bY H q.1 (some (bl.own τ (s0 x)))) (jQ ms (xZ x) (i+1) io).2.1 i=some e:=he
        rw[this]at he;cases he
     ·rcases aW.1 nN with rfl|nN
      ·have:=r4 q'.1 Dh.1 ω
       rw[ay]at this
       exact .inr ⟨τ,s0 x,ZH.symm,this⟩
      ·exact r6 q' nN
   |v τ=>simp[AM.iC]at Hs
   |own τ=>simp[AM.iC]at Hs
   |fn f τ=>simp[AM.iC]at Hs
   |ptr τ=>simp[AM.iC]at Hs
   |jo τ=>simp[AM.iC]at Hs
  ·
   have Ht:H id=none:=js id (aG _) (by simp)
   cases m with
   |io τ=>simp[AM.iC]at Hs
   |lo τ=>simp[AM.iC]at Hs
   |fn f τ=>simp[AM.ZD]at hmf
   |jo τ=>simp[AM.ZD]at hmf
   |v τ=>
    have ZI:bG (.v τ::ms) (v::J1) ps=bG ms J1 ps:=rfl
    rw[ZI]at ya pz ly H4
    simp only[A1]at h1
    obtain⟨ν',r1,r2,r3,r4,r5,r6⟩:=ob (ms:=ms) (x:=xZ x) (us:=J1) (ps:=ps) (id:=id+1) (io:=io) (used:=used) hm h2 JZ (by simpa [nf]using EP) Dh Bk (λi h3 h4=>js i ω (by simp only[aR];omega)) hold ya pz ly H4 xY
    refine⟨ν',r1,?_,r3,λi h3 h4=>r4 i h3 (by simp only[aR]at h4;omega),λi h3 h4 e he=> ?_,r6⟩
    ·simp only[JK,jr,VR];exact⟨h1,r2⟩
    ·by_cases h5:id+1≤i
     ·exact r5 i h5 (by simp only[aR]at h4;omega) e he
     ·have bX:i=id:=ω
      subst bX
      by_cases hk:i∈keys io
      ·obtain⟨q',nN,Bl⟩:=cD.1 hk
       have h9:=Bk q' nN
       rw[Bl,Ht]at h9;cases h9
      ·have:=r4 i hk (.inl ω)
       rw[Ht]at this
       have he:c4 H (jQ ms (xZ x) (i+1) io).2.1 i=some e:=he
       rw[this]at he;cases he
   |own τ=>
    have ZI:bG (.own τ::ms) (v::J1) ps=(fK v).toList++bG ms J1 ps:=rfl
    rw[ZI]at ya pz ly H4
    simp only[A1]at h1
    have qV: ∀b,fK v=some b→ ∀i e',H i=some e'→e'.mut→fK (ν i)≠some b:=by
     intro b hb i e' hi jR eY
     have lU:b∈(fK v).toList++bG ms J1 ps:=cT _ (by rw[hb];simp)
     rcases hold i e' b hi jR eY with⟨h3,h4⟩|h3
     ·exact(pz b lU).elim (λh'=>ω) h4
     ·exact mA ya h3 lU
    have al2: ∀b,fK v=some b→ ¬c.M0 b:=by
     intro b hb h0
     have lU:b∈(fK v).toList:=by rw[hb];simp
     obtain⟨p,hp,hpb⟩:=H4 b (cT _ lU) h0
     exact mA (pV.1 ya).2.1 lU (RR.J2 h2 p hp b hpb)
    have ym:=Mem.yn (c:=c) hm (id:=id) (v:=v) (e:= .own τ (s0 x)) (λe' vZ=>by rw[Ht]at vZ;cases vZ) h1 qV (λb hb=>ly b (cT _ (by rw[hb];simp))) (λb e0 l0 _ hb=>al2 b hb) (.inl Ht)
    have EY: ∀q∈io,q.1≠id:=λq hq e=>by
     have h9:=Bk q hq
     rw[e,Ht]at h9;cases h9
    have ZJ: ∀i,i≠id→dh ν id v i=ν i:=λi hi=>by simp[dh,hi]
    obtain⟨ν',r1,r2,r3,r4,r5,r6⟩:=ob (ms:=ms) (x:=xZ x) (us:=J1) (ps:=ps) (id:=id+1) (io:=io) (used:=used++(fK v).toList) ym h2
     (by rw[JZ];exact qz λq hq=>(ZJ _ (EY q hq)).symm) (by simpa [nf]using EP) Dh
     (λq hq=>by rw[az _ _ (EY q hq)];exact Bk q hq)
     (λi h3 h4=>by rw[az _ _ ω];exact js i ω (by simp only[aR];omega))
     (λi e b hi jR hb=>by
      by_cases bX:i=id
      ·subst bX
       have:dh ν i v i=v:=by simp[dh]
       rw[this]at hb
       exact .inr (dA _ (by rw[hb];simp))
      ·rw[az _ _ bX]at hi
       rw[ZJ i bX]at hb
       exact(hold i e b hi jR hb).imp (λh=>h) (cT _))
     (by rw[br];exact ya) (λb hb=>pz b (dA _ hb)) (λb hb=>ly b (dA _ hb)) (λb hb=>H4 b (dA _ hb)) (λq hq e he b hb=>xY q hq e he b (by rw[ZJ _ (EY q hq)]at hb;exact hb))
    have ahw:id∉keys io:=λhk=>by
     obtain⟨q,hq,Bl⟩:=cD.1 hk
     exact EY q hq Bl
    have pZ:c4 (bY H id (some (.own τ (s0 x)))) (jQ ms (xZ x) (id+1) io).2.1 id=some (.own τ (s0 x)):=by
     rw[r4 id ahw (.inl ω),ay]
    refine⟨ν',r1,?_,λi hi=> ?_,λi h3 h4=> ?_,λi h3 h4 e he=> ?_,r6⟩
    ·simp only[JK,jr,VR]
     refine⟨⟨?_,?_⟩,r2⟩
     ·show c4 (bY H id (some (.own τ (s0 x)))) (jQ ms (xZ x) (id+1) io).2.1 id≠none
      rw[pZ];simp
     ·rw[r3 id (by rw[ay];simp)];simp[dh]
    ·have bX:i≠id:=λe=>hi (e▸Ht)
     rw[r3 i (by rw[az _ _ bX];exact hi),ZJ i bX]
    ·have bX:i≠id:=by simp only[aR]at h4;omega
     have:=r4 i h3 (by simp only[aR]at h4;omega)
     rw[az _ _ bX]at this
     exact this
    ·by_cases h5:id+1≤i
     ·exact r5 i h5 (by simp only[aR]at h4;omega) e he
     ·have bX:i=id:=ω
      subst bX
      have he:c4 (bY H i (some (.own τ (s0 x)))) (jQ ms (xZ x) (i+1) io).2.1 i=some e:=he
      rw[pZ]at he;cases he
      exact .inl ⟨τ,_,rfl⟩
   |ptr τ=>
    have ZI:bG (.ptr τ::ms) (v::J1) ps=(fK v).toList++bG ms J1 ps:=rfl
    rw[ZI]at ya pz ly H4
    simp only[A1]at h1
    have qV: ∀b,fK v=some b→ ∀i e',H i=some e'→e'.mut→fK (ν i)≠some b:=by
     intro b hb i e' hi jR eY
     have lU:b∈(fK v).toList++bG ms J1 ps:=cT _ (by rw[hb];simp)
     rcases hold i e' b hi jR eY with⟨h3,h4⟩|h3
     ·exact(pz b lU).elim (λh'=>ω) h4
     ·exact mA ya h3 lU
    have ym:=Mem.yn (c:=c) hm (id:=id) (v:=v) (e:= .obj τ (s0 x)) (λe' vZ=>by rw[Ht]at vZ;cases vZ) h1 qV (λb hb=>ly b (cT _ (by rw[hb];simp))) (λb e0 l0 he _=>by cases he) (.inl Ht)
    have EY: ∀q∈io,q.1≠id:=λq hq e=>by
     have h9:=Bk q hq
     rw[e,Ht]at h9;cases h9
    have ZJ: ∀i,i≠id→dh ν id v i=ν i:=λi hi=>by simp[dh,hi]
    obtain⟨ν',r1,r2,r3,r4,r5,r6⟩:=ob (ms:=ms) (x:=xZ x) (us:=J1) (ps:=ps) (id:=id+1) (io:=io) (used:=used++(fK v).toList) ym h2
     (by rw[JZ];exact qz λq hq=>(ZJ _ (EY q hq)).symm) (by simpa [nf]using EP) Dh
     (λq hq=>by rw[az _ _ (EY q hq)];exact Bk q hq)
     (λi h3 h4=>by rw[az _ _ ω];exact js i ω (by simp only[aR];omega))
     (λi e b hi jR hb=>by
      by_cases bX:i=id
      ·subst bX
       have:dh ν i v i=v:=by simp[dh]
       rw[this]at hb
       exact .inr (dA _ (by rw[hb];simp))
      ·rw[az _ _ bX]at hi
       rw[ZJ i bX]at hb
       exact(hold i e b hi jR hb).imp (λh=>h) (cT _))
     (by rw[br];exact ya) (λb hb=>pz b (dA _ hb)) (λb hb=>ly b (dA _ hb)) (λb hb=>H4 b (dA _ hb)) (λq hq e he b hb=>xY q hq e he b (by rw[ZJ _ (EY q hq)]at hb;exact hb))
    have ahw:id∉keys io:=λhk=>by
     obtain⟨q,hq,Bl⟩:=cD.1 hk
     exact EY q hq Bl
    have pZ:c4 (bY H id (some (.obj τ (s0 x)))) (jQ ms (xZ x) (id+1) io).2.1 id=some (.obj τ (s0 x)):=by
     rw[r4 id ahw (.inl ω),ay]
    refine⟨ν',r1,?_,λi hi=> ?_,λi h3 h4=> ?_,λi h3 h4 e he=> ?_,r6⟩
    ·simp only[JK,jr,VR]
     refine⟨⟨_,pZ,trivial,?_⟩,r2⟩
     simp only[A1,ER]at h1
     obtain⟨b,cs,t,VS,_⟩:=h1
     exact⟨b,by rw[r3 id (by rw[ay];simp)];simp[dh,VS],VS⟩
    ·have bX:i≠id:=λe=>hi (e▸Ht)
     rw[r3 i (by rw[az _ _ bX];exact hi),ZJ i bX]
    ·have bX:i≠id:=by simp only[aR]at h4;omega
     have:=r4 i h3 (by simp only[aR]at h4;omega)
     rw[az _ _ bX]at this
     exact this
    ·by_cases h5:id+1≤i
     ·exact r5 i h5 (by simp only[aR]at h4;omega) e he
     ·have bX:i=id:=ω
      subst bX
      have he:c4 (bY H i (some (.obj τ (s0 x)))) (jQ ms (xZ x) (i+1) io).2.1 i=some e:=he
      rw[pZ]at he;cases he
      exact .inr ⟨τ,_,rfl⟩
end VM
end
section
namespace VM
open Go
variable{P:Program}{E:Env}{o:Oper}{a:Act}{w:World}{M:Nat→Prop}{ν:Nat→Value}{σ:St}{c:Ctx}{α:Type}{r:α}{next:Act→World→Prop}{Q:Exit→Act→World→Prop}
theorem MA{i:Nat}: ∀{ups:iV} {H:Nat→Option bl},i∈keys ups→ ∃u∈ups,u.1=i∧c4 H ups i=u.2
 |[],_,h=>by simp[keys]at h
 |u::r,H,h=>by
  by_cases hk:i∈keys r
  ·obtain⟨v,h1,h2,h3⟩:=MA (H:=bY H u.1 u.2) hk
   exact⟨v,aZ _ h1,h2,h3⟩
  ·have hi:i=u.1:=by
    simp only[keys,bV,aW]at h hk
    exact h.resolve_right hk
   refine⟨u,bk,hi.symm,?_⟩
   show c4 (bY H u.1 u.2) r i=_
   rw[lx hk,hi,ay]
theorem EZ: ∀{ups:iV} {H H':Nat→Option bl},(∀i,i∉keys ups→H i=H' i)→c4 H ups=c4 H' ups
 |[],H,H',h=>funext λi=>h i (by simp[keys])
 |u::r,H,H',h=>by
  refine EZ (ups:=r) λi hi=> ?_
  by_cases hu:i=u.1
  ·subst hu;rw[ay,ay]
  ·rw[az _ _ hu,az _ _ hu]
   exact h i (by simp only[keys,bV,aW,not_or];exact⟨hu,hi⟩)
theorem ER.len{v:Value}{e:Ty}{l:List e.den}(h:ER w M v (.own e l)): ∃ad cap,v= .slice ad l.length cap:=by
 simp only[ER]at h
 rcases h with⟨rfl,ad,rfl⟩|⟨b,cs,t,cap,h1,_⟩
 ·exact⟨ad,0,rfl⟩
 ·exact⟨_,cap,h1⟩
theorem RR.qW: ∀{ms:List AM} {x:HP ms} {us ps:List Value},RR w M ms x us ps→ ∀b∈bG ms us ps,M b
 |[],_,_,_,_,b,hb=>by simp[bG]at hb
 |m::ms,x,us,ps,h,b,hb=>by
  simp only[RR]at h
  rcases h with⟨p,G6,h1,rfl,h2,h3⟩|⟨v,J1,h1,h2,rfl,h3,h4⟩
  ·simp only[bG,h1,gA,s7,s9,bb]at hb
   rcases hb with hb|hb
   ·cases m<;>simp[AM.iC]at h1<;>(simp only[da,fg,A1]at hb h2;exact h2.xU trivial hb)
   ·exact RR.qW h3 b hb
  ·simp only[bG,h1,iW,eT,s7,s9,bb]at hb
   rcases hb with hb|hb
   ·cases m with
    |own e=>
     simp only[da,fg,A1]at hb h3
     exact h3.xU trivial hb
    |v _=>simp[da]at hb
    |io _=>simp[AM.iC]at h1
    |lo _=>simp[AM.iC]at h1
    |fn _ _=>simp[da]at hb
    |jo _=>simp[da]at hb
    |ptr τ=>
     simp only[da,fg,A1]at hb h3
     exact h3.xU trivial hb
   ·exact RR.qW h4 b hb
theorem Ic: ∀{l:List lY} {pX:List bC} {S:lY},Mg l pX=some S→S∈l
 |[],_,_,h=>by simp[Mg]at h
 |T::l,pX,S,h=>by
  unfold Mg at h
  cases hf:fits T.args pX
  ·rw[hf]at h;exact aZ _ (Ic h)
  ·rw[hf]at h;cases h;exact bk
theorem Cn{H:Nat→Option bl}{id:Nat}: ∀{n:Nat},ub H id n=true→ ∀i,id≤i→i<id+n→H i=none
 |0,_,i,h1,h2=>ω
 |n+1,h,i,h1,h2=>by
  unfold ub at h
  rw[bR]at h
  by_cases hi:i=id+n
  ·subst hi
   have h:=h.1
   split at h
   ·assumption
   ·cases h
  ·exact Cn h.2 i h1 ω
theorem VT{H:Nat→Option bl}{pX:List bC}{us:List Value}(h:jr w M H ν pX us):VR w M H ν (Me pX) (wj us):=by
 match pX,us,h with
 |[],[],_=>simp[Me,VR]
 |[a],[u],h=>simp only[jr,eS]at h;simpa [Me,wj]using h
 |a::b::pX,u::v::us,h=>
  simp only[Me,VR]
  exact⟨u::v::us,by simp[wj],h⟩
 |[],_::_,h=>simp[jr]at h
 |_::_,[],h=>simp[jr]at h
 |[_],_::_::_,h=>simp[jr]at h
 |_::_::_,[_],h=>simp[jr]at h
theorem MB(hΓ: ∀f S,S∈E.Γ f→iD P f S){H:Nat→Option bl}(hm:Mem c H w M ν){f id:Nat}{pX:List bC}{vs:List Value}(hv:jr w M H ν pX vs){K:ja α}(h:Ca E f pX id H K=some r)
  {R:Value→World→Prop} (hR: ∀v rd ups v' w' M' ν',K v rd ups=some r→Tr c H w M ν (c4 H ups) w' M' ν'→VR w' M' (c4 H ups) ν' v v'→R v' w'):
  Mw P f vs.toArray w R:=by
 unfold Ca at h
 split at h
 ·cases h
 rename_i S hS
 have hok:=hΓ f S (Ic hS)
 obtain⟨x,rd,uo,uf,io,H2,Hq,M2,h1,hA,hK,al3,ZG,Vj⟩:=Cm (jJ.start hm) hv h
 clear h
 simp only[cJ,iZ]at hA ZG Vj
 obtain⟨y,hy,h1⟩:=s4.1 h1
 obtain⟨js,h1⟩:=cB h1
 have js:=Cn js
 have arn:(λb=>(M2 b∧b∉dR S.args vs)∨b∈dR S.args vs)=M2:=by
  funext b
  refine propext ⟨λh=>h.elim (·.1) (hA.hM b),λh=> ?_⟩
  by_cases hb:b∈dR S.args vs
  ·exact .inr hb
  ·exact .inl ⟨h,hb⟩
 refine Mw.mono (hok.call (λb=>M2 b∧b∉dR S.args vs) w vs x y (λb hb=>hA.mem.EI b hb.1) (by rw[arn];exact al3) hA.nd (λb hb h=>h.2 hb) hy) ?_
 rintro e w' ⟨us,M',rfl,Vk,hL,ya,hn0⟩
 have aro: ∀b∈dR S.args vs,c.M0 b→M' b:=by
  intro b hb h0
  obtain⟨q,hq,hqb⟩:=hA.iob b hb h0
  exact Vk.qW b (Vk.J2 (ν q.1) (by rw[←ZG];exact eM hq) b hqb)
 have pz: ∀b∈bG S.res us (fj S.args vs),w.heap.size≤b∨b∈dR S.args vs:=by
  intro b hb
  rcases oW b w.heap.size with e9|Zc
  ·exact .inr ((hL.less b e9 (Vk.qW b hb)).resolve_left (hn0 b hb))
  ·exact .inl Zc
 have ly: ∀b∈bG S.res us (fj S.args vs),c.B≤b∨c.may b:=λb hb=>(pz b hb).elim (λh=> .inl (cm hm.size h)) (hA.Mz b)
 have H4: ∀b∈bG S.res us (fj S.args vs),c.M0 b→ ∃p∈fj S.args vs,fK p=some b:=by
  intro b hb h0
  rcases pz b hb with h'|h'
  ·have:=hm.vt.1 b h0;have:=hm.size;omega
  ·obtain⟨q,hq,hqb⟩:=hA.iob b h' h0
   exact⟨ν q.1,by rw[←ZG];exact eM hq,hqb⟩
 have arq: ∀q∈io,∀e,q.2=AM.lo e→ ∀b,fK (ν q.1)=some b→ ¬c.M0 b:=by
  intro q hq e he b hb
  rcases(hA.Tj q hq).2.2 with⟨τ0,z0,xr,_⟩|⟨e0,z0,xr,PN⟩
  ·rw[he]at xr;cases xr
  ·exact hm.yC q.1 e0 z0 b PN hb
 have key: ∀(Hx:Nat→Option bl) (Mx:Nat→Prop) (U:iV),Mem c Hx w Mx ν→e8 w M w Mx→(∀b,M2 b→Mx b)→(∀b∈dR S.args vs,∀i e,Hx i=some e→e.mut→fK (ν i)≠some b)→
   (∀q∈io,Hx q.1=some .gone)→(∀i,i∉keys io→c4 H (uo++U) i=Hx i)→(∀u∈uo++U,u.2=some .gone∨ ∃e l,u.2=some (.oI e l)∧H u.1=some (.own e l))→(∀i∈keys (uo++U),i∈keys (uo++uf))→
   RR w' (λb=>M' b∨(Mx b∧b∉dR S.args vs)) S.res y us (fj S.args vs)→
   ∃ν',Tr c H w M ν (c4 H (uo++U++(jQ S.res y id io).2.1)) w' (λb=>M' b∨(Mx b∧b∉dR S.args vs)) ν'∧
    jr w' (λb=>M' b∨(Mx b∧b∉dR S.args vs)) (c4 H (uo++U++(jQ S.res y id io).2.1)) ν' (jQ S.res y id io).1 us:=by
  intro Hx Mx U Ls hkx Tl vA MC ahx J4 hU hrr
  obtain⟨ln,Ie⟩:=Ls.call (λb hb=>Tl b hb.1) (λb hb=>Tl b (hA.hM b hb)) vA hA.Mz aro hL
  have hx: ∀i e,H i=some e→i∉keys io→ ∃e',Hx i=some e'∧e.lj e':=by
   intro i e hi E0
   rw[←ahx i E0]
   by_cases hk:i∈keys (uo++U)
   ·obtain⟨u,hu,hui,huv⟩:=MA (H:=H) hk
    rw[huv]
    rcases J4 u hu with h'|⟨e1,l1,h',J3⟩
    ·exact⟨_,h',bl.kL e⟩
    ·rw[hui,hi]at J3;cases J3;exact⟨_,h',rfl,rfl⟩
   ·rw[lx hk];exact⟨e,hi,.refl e⟩
  have VU: ∀i,id≤i→i<id+S.res.length→Hx i=none:=by
   intro i h3 h4
   have h0:=js i h3 h4
   have E0:i∉keys io:=λhk=>by
    obtain⟨q,hq,Bl⟩:=cD.1 hk
    obtain⟨_,_,hz⟩:=hA.Tj q hq
    exact hz.some (by rw[Bl];exact h0)
   rw[←ahx i E0]
   rw[lx,h0]
   intro hk
   obtain⟨_,e,l,h'⟩:=hA.ksn i (hU i hk)
   rw[h0]at h';cases h'
  obtain⟨ν',r1,r2,r3,r4,r5,r6⟩:=ob (hs:=dR S.args vs) (sz:=w.heap.size) (id:=id) (used:=[]) ln hrr ZG.symm (by rw[←hok.ios,←Vj]) hA.ion MC VU
   (λi e b hi hmu hb=> .inl ⟨Ls.EI b ((Ls.kZ i e hi).xU hmu hb),λhh=>vA b hh i e hi hmu hb⟩) (by simpa using ya) pz ly H4 arq
  have ahy:c4 H (uo++U++(jQ S.res y id io).2.1)=c4 Hx (jQ S.res y id io).2.1:=by
   rw[gr]
   refine EZ λi hi=> ?_
   by_cases E0:i∈keys io
   ·obtain⟨q,hq,Bl⟩:=cD.1 E0
    rcases r6 q hq with⟨τ,z,_,hz⟩|⟨e,z,_,hz⟩
    ·rw[Bl,lx hi,←Bl,MC q hq]at hz;cases hz
    ·rw[Bl,lx hi,←Bl,MC q hq]at hz;cases hz
   ·exact ahx i E0
  refine⟨ν',⟨by rw[ahy];exact r1,hkx.trans Ie,⟨λi e hi=> ?_,λi hi=> ?_⟩⟩,by rw[ahy];exact r2⟩
  ·rw[ahy]
   by_cases E0:i∈keys io
   ·obtain⟨q,hq,Bl⟩:=cD.1 E0
    obtain⟨_,_,hg0⟩:=hA.Tj q hq
    rcases r6 q hq with⟨τ,z,Y5,hz⟩|⟨e2,z,Y5,hz⟩
    ·rcases hg0 with⟨τ0,z0,xr,PN⟩|⟨e0,z0,xr,PN⟩
     ·rw[Y5]at xr;cases xr
      rw[Bl]at hz PN
      rw[hi]at PN;cases PN
      exact⟨_,hz,rfl⟩
     ·rw[Y5]at xr;cases xr
    ·rcases hg0 with⟨τ0,z0,xr,PN⟩|⟨e0,z0,xr,PN⟩
     ·rw[Y5]at xr;cases xr
     ·rw[Y5]at xr;cases xr
      rw[Bl]at hz PN
      rw[hi]at PN;cases PN
      refine⟨_,hz,rfl,?_⟩
      obtain⟨a1,c1,k1⟩:=ER.len (hm.kZ i _ hi)
      obtain⟨a2,c2,k2⟩:=ER.len (r1.kZ i _ hz)
      rw[r3 i (by rw[←Bl,MC q hq];simp),k1]at k2
      simp only[Value.slice.injEq]at k2
      exact k2.2.1
   ·obtain⟨e',vZ,hl⟩:=hx i e hi E0
    have hr:i<id∨id+S.res.length≤i:=by
     rcases oW i id with h'|h'
     ·exact .inl h'
     ·rcases oW i (id+S.res.length)with J3|J3
      ·rw[js i h' J3]at hi;cases hi
      ·exact .inr J3
    exact⟨e',by rw[r4 i E0 hr];exact vZ,hl⟩
  ·refine r3 i ?_
   obtain⟨e,he⟩:=Ed.1 hi
   by_cases E0:i∈keys io
   ·obtain⟨q,hq,Bl⟩:=cD.1 E0
    rw[←Bl,MC q hq];simp
   ·obtain⟨e',vZ,_⟩:=hx i e he E0
    rw[vZ];simp
 cases hq:S.quiet
 ·
  rw[hq]at h1
  have hMn:(λb=>M' b∨(M2 b∧b∉dR S.args vs))=M':=by
   funext b
   exact propext ⟨λh=>h.elim (λh=>h) (hL.sub b),.inl⟩
  obtain⟨ν',il,hvr⟩:=key H2 M2 uf hA.mem hA.ca (λ_ h=>h) (λb hb i e hi hmu=>hA.none b hb i e (hA.fz.mut hi hmu) hmu) (λq hq=>(hA.Tj q hq).1) hA.ext
   (λu hu=>(bb.1 hu).elim (λh=> .inl (hA.uov u h)) (λh=> .inr (hA.ufv u h))) (λ_ h=>h) (by rw[hMn];exact Vk)
  exact hR _ _ _ _ _ _ _ h1 il (VT hvr)
 ·rw[hq]at h1
  have Tl: ∀b,M2 b→M b:=λb hb=>hA.ca.less b (hA.mem.EI b hb) hb
  obtain⟨ν',il,hvr⟩:=key Hq M [] hA.My (.refl w M) Tl hA.none (λq hq=>(hA.Tj q hq).2.1) (by rw[ch];exact hA.VQ)
   (λu hu=> .inl (hA.uov u (by simpa using hu))) (λi hi=>by simp only[keys,ch,cY,bb]at hi ⊢;exact .inl hi) (Vk.flat (λb h=> .inl h) (hok.quiet hq))
  exact hR _ _ _ _ _ _ _ h1 il (VT hvr)
theorem ZK(hΓ: ∀f S,S∈E.Γ f→iD P f S)(hc:Core c σ a.tmps w M ν){args:Array Operand}{ts:Array TypeId}{g:Operand}(ho:o.op= .call {callee:= .value g,args,argTypes:=ts}){K:ja α}{f:Nat}{caps:List bC}(hg:σ.ρ g= .L9 f caps){id:Nat}
  (h:Ca E f (args.toList.map σ.ρ ++caps) id σ.H K=some r) (hn:ga c σ a o w M ν K r next):o.wp P a w next Q:=by
 have hgv:=hc.ev g
 rw[hg]at hgv
 simp only[VR]at hgv
 obtain⟨cs,hgv,JS⟩:=hgv
 have MD: ∀{as1:List bC} {VV:List Value},jr w M σ.H ν as1 VV→jr w M σ.H ν (as1++caps) (VV++cs):=by
  intro as1
  induction as1 with
  |nil=>intro VV h1;cases VV with
   |nil=>exact JS
   |cons _ _=>simp[jr]at h1
  |cons x as1 ih=>intro VV h1;cases VV with
   |nil=>simp[jr]at h1
   |cons v VV=>simp only[jr]at h1;simp only[lQ,jr];exact⟨h1.1,ih h1.2⟩
 have hd:=MB (P:=P) hΓ hc.mem (MD (hc.evs args.toList)) h (R:=λv' w'=>next (a.put o.dst v') w') (λv rd ups v' w' M' ν' h1 h2 h3=>hn v rd ups v' w' M' ν' h1 h2 h3)
 have hex:(execOp a.eval o).run P w=(callFunc f (args.toList.map a.eval++cs).toArray).run P w:=by
  have:(args.toList.map a.eval++cs).toArray= #[]++args.map a.eval++cs.toArray:=by apply jq;simp
  rw[this]
  simp[execOp,ho,resolve,hgv,Deferred.ofValue,invoke]
 unfold Oper.wp
 rw[hex]
 exact hd o a next Q λv w' hv=>hv
end VM
end
section
namespace VM
open Go
variable{P:Program}{E:Env}{o:Oper}{a:Act}{w:World}{M:Nat→Prop}{ν:Nat→Value}{σ:St}{c:Ctx}{α:Type}{r:α}{next:Act→World→Prop}{Q:Exit→Act→World→Prop}
structure tv(P:Program)(E:Env):Prop extends EnvTy P E where
 al7: ∀f S,S∈E.Γ f→iD P f S
 mixed:P.follows .mixedOrders=true
 kd: ∀i L,E.vT i=some L→VM.kd L=true
 VW: ∀i L,E.xS i=some L→VM.kd L=true
theorem Tm(hE:tv P E)(hc:Core c σ a.tmps w M ν){K:ja α}(h:sY E o σ.ρ σ.H K=some r)(hn:ga c σ a o w M ν K r next):o.wp P a w next Q:=by
 have hT:=hE.toEnvTy
 unfold sY at h
 simp only at h
 split at h
 ·rename_i x ho;exact Rz hc (.inl ho) h hn
 ·rename_i x ho;exact Rz hc (.inr ho) h hn
 ·rename_i x y z ho
  split at h
  ·rename_i t hx;exact Zr hc ho hx h hn
  ·cases h
 ·rename_i t ho
  split at h
  ·rename_i τ ht;exact Vz hT hc ho ht h hn
  ·cases h
 ·rename_i t x ho
  split at h
  ·rename_i τ ht;exact ag9 hT hc ho h hn
  ·cases h
 ·rename_i t ps ho
  split at h
  ·rename_i n e ht;exact J0 hT hc ho ht h hn
  ·rename_i τ hna ht;exact Dg hT hc ho ht (λn e he=>hna n e he) h hn
  ·cases h
 ·rename_i t n ps ho
  split at h
  ·rename_i e ht;exact Hm hT hc ho ht h hn
  ·cases h
 ·rename_i t x ho
  split at h
  ·rename_i τ ht;exact Zs hT hc ho ht h hn
  ·cases h
 ·rename_i t x y ho
  split at h
  ·rename_i τ ht;exact Te hT hc ho ht h hn
  ·cases h
 ·rename_i x ho
  split at h
  ·rename_i id p hx;exact De hc ho hx h hn
  ·rename_i τ z hx;exact Bi hc ho hx h hn
  ·cases h
 ·rename_i b t x y t' ho;exact VH hT hc ho h hn
 ·rename_i u t x ho;exact Zy hc ho h hn
 ·rename_i s d x ho
  split at h
  ·rename_i τ k hs hd;exact P6 hT hc ho hs hd h hn
  ·cases h
 ·rename_i f first caps ho;exact Mq hc ho h hn
 ·rename_i t x y ho
  split at h
  ·rename_i e ht;exact JW hT hc ho ht h hn
  ·cases h
 ·rename_i t x lo hi mx ho
  split at h
  ·rename_i τ ht;exact VN hT hc ho ht h hn
  ·cases h
 ·rename_i t x n ho
  split at h
  ·rename_i τ ht
   split at h
   ·rename_i id p hx;exact Bh hT hc ho ht hx h hn
   ·rename_i υ z hx;exact zU hT hc ho ht hx h hn
   ·cases h
  ·cases h
 ·rename_i t x n ho
  split at h
  ·rename_i τ ht
   split at h
   ·rename_i υ z hx;exact VF hT hc ho ht hx h hn
   ·cases h
  ·cases h
 ·rename_i t x i ho
  split at h
  ·rename_i τ ht;exact JU hT hc ho ht h hn
  ·cases h
 ·rename_i t x i ho
  split at h
  ·rename_i τ ht;exact VK hT hc ho ht h hn
  ·cases h
 ·rename_i x i ho
  split at h
  ·rename_i vs hx
   split at h
   ·rename_i v hv;exact P4 hc ho hx hv h hn
   ·cases h
  ·cases h
 ·rename_i cl ho
  obtain⟨callee,args,ts⟩:=cl
  simp only at h
  split at h
  ·split at h
   ·rename_i x τ ha ht;exact ahf hT hc ho ha ht h hn
   ·cases h
  ·split at h
   ·rename_i x y t t' ha ht
    split at h
    ·rename_i e hte;exact Ti hT hc ho ha ht hte h hn
    ·cases h
   ·cases h
  ·split at h
   ·rename_i x xs ha;exact afX hc true ho ha h hn
   ·cases h
  ·split at h
   ·rename_i x xs ha;exact afX hc false ho ha h hn
   ·cases h
  ·rename_i g
   split at h
   ·rename_i f caps hg;exact ZK hE.al7 hc ho hg h hn
   ·cases h
  ·cases h
 ·cases h
end VM
end
section
namespace VM
open Go
variable{P:Program}{E:Env}{o:Oper}{a:Act}{w:World}{M:Nat→Prop}{ν:Nat→Value}{σ:St}{c:Ctx}{α:Type}{r:α}{next:Act→World→Prop}{Q:Exit→Act→World→Prop}
theorem uh(σ:St)(d:Nat)(v:bC):(σ.put d v).T d=v:=by
 show cond (Nat.beq d d) v (σ.T d)=v
 rw[show Nat.beq d d=true from tc d];rfl
theorem zZ(σ:St){d i:Nat}(v:bC)(h:i≠d):(σ.put d v).T i=σ.T i:=by
 show cond (Nat.beq i d) v (σ.T i)=σ.T i
 have:Nat.beq i d=false:=by rw[←mY,vQ];exact h
 rw[this];rfl
theorem awm(σ:St)(d:Nat)(v:bC):(σ.put d v).H=σ.H:=rfl
theorem E1(σ:St)(d:Nat):σ.put d (σ.T d)=σ:=by
 obtain⟨T,H⟩:=σ
 unfold St.put
 congr 1
 funext i
 by_cases h:i=d
 ·subst h;show cond (Nat.beq i i) (T i) (T i)=T i;cases Nat.beq i i<;>rfl
 ·have:Nat.beq i d=false:=by rw[←mY,vQ];exact h
  rw[this];rfl
theorem Core.tr{tm:Array Value}(h:Core c σ tm w M ν){H':Nat→Option bl}{w':World}{M':Nat→Prop}{ν':Nat→Value}(t:Tr c σ.H w M ν H' w' M' ν'):Core c ⟨σ.T,H'⟩ tm w' M' ν':=
 ⟨t.mem,λi=>VR.ca t.ca t.goes (h.tmp i)⟩
theorem Core.vn{tm:Array Value}(h:Core c σ tm w M ν){d:Option Nat}{x:bC}{v:Value}{io:List Nat}(hd:Ma tm.size io d=true)(hx:VR w M σ.H ν x v)(ds:List Deferred):
  Core c (σ.vn d x) (({tmps:=tm,defers:=ds}:Act).put d v).tmps w M ν:=by
 cases d with
 |none=>exact h
 |some d=>
  have e9:d<tm.size:=by simp only[Ma,bR,zE]at hd;exact hd.1
  refine⟨h.mem,λi=> ?_⟩
  show VR w M σ.H ν ((σ.put d x).T i) ((tm.setIfInBounds d v).getD i undef)
  by_cases hi:i=d
  ·subst hi
   rw[uh]
   simp[Array.getD,e9]
   exact hx
  ·rw[zZ _ _ hi]
   have:=h.tmp i
   have he:(tm.setIfInBounds d v).getD i undef=tm.getD i undef:=by
    rw[sd,sd,LC (eJ hi)]
   rw[he];exact this
def Inv(c:Ctx)(E:Env)(σ:St)(a:Act)(w:World):Prop:=(∃M ν,Core c σ a.tmps w M ν)∧a.tmps.size=E.nt∧a.defers=[]∧ ∀i∈E.io,a.tmps.getD i undef=c.arg i
theorem ME(a:Act)(d:Option Nat)(v:Value):(a.put d v).tmps.size=a.tmps.size:=by
 cases d<;>simp[Act.put]
theorem put_defers(a:Act)(d:Option Nat)(v:Value):(a.put d v).defers=a.defers:=by
 cases d<;>rfl
theorem RI{d:Option Nat}{v:Value}{io:List Nat}{n:Nat}(hd:Ma n io d=true){i:Nat}(hi:i∈io):(a.put d v).tmps.getD i undef=a.tmps.getD i undef:=by
 cases d with
 |none=>rfl
 |some d=>
  simp only[Ma,bR,qD]at hd
  have h1:=hd.2 i hi
  have jB:i≠d:=by
   intro e;subst e
   simp at h1
  show(a.tmps.setIfInBounds d v).getD i undef=_
  rw[sd,sd,LC (eJ jB)]
theorem Inv.bool(h:Inv c E σ a w){x:Operand}{b:Bool}(hx:σ.ρ x= .val .bool b):a.eval x= .bool b:=by
 obtain⟨⟨M,ν,hc⟩,_,_,_⟩:=h
 have:=hc.ev x
 rw[hx]at this
 exact this.bool
theorem Co(hE:tv P E){ops:Array Oper}(hI:Inv c E σ a w){K:St→List Nat→List Nat→Option α}(h:th E ops.toList o σ K=some r)
  (hn: ∀σ' a' w' rd wr,K σ' rd wr=some r→Inv c E σ' a' w'→next a' w'):
  if Region.wanted o (yielded ops a.tmps)then o.wp P a w next Q else next (a.put o.dst undef) w:=by
 unfold th at h
 obtain⟨hd,h⟩:=cB h
 have dE:sY E o σ.ρ σ.H (λv rd ups=>K ((σ.vR ups).vn o.dst v) rd (ups.map (·.1)))=some r→o.wp P a w next Q:=by
  intro h
  obtain⟨⟨M,ν,hc⟩,hs,ahz,yb⟩:=hI
  refine Tm hE hc h λv rd ups v' w' M' ν' hK il hV=> ?_
  refine hn _ _ _ _ _ hK ⟨⟨M',ν',?_⟩,by rw[ME,hs],by rw[put_defers,ahz],λi hi=>(RI hd hi).trans (yb i hi)⟩
  have h1:=hc.tr il
  have h2:σ.vR ups=⟨σ.T,c4 σ.H ups⟩:=by rw[←P1,←P2 ups σ]
  rw[h2]
  exact h1.vn (by rw[hs];exact hd) hV a.defers
 have ss: ∀rd wr,K (σ.vn o.dst .Vu) rd wr=some r→next (a.put o.dst undef) w:=by
  intro rd wr h
  obtain⟨⟨M,ν,hc⟩,hs,ahz,yb⟩:=hI
  refine hn _ _ _ _ _ h ⟨⟨M,ν,hc.vn (by rw[hs];exact hd) (by simp[VR]) a.defers⟩,by rw[ME,hs],by rw[put_defers,ahz],λi hi=>(RI hd hi).trans (yb i hi)⟩
 simp only at h
 split at h
 ·rename_i hg
  have:Region.wanted o (yielded ops a.tmps)=true:=by simp[Region.wanted,hg]
  rw[aj this]
  exact dE h
 ·rename_i j want hg
  split at h
  ·cases h
  ·rename_i t ht
   have ht':(ops[j]?).bind (·.dst)=some t:=by rw[←gR];exact ht
   have hy: ∀b,σ.T t= .val .bool b→yielded ops a.tmps j=some b:=by
    intro b hb
    obtain⟨⟨M,ν,hc⟩,hs,_,_⟩:=hI
    have h1:=hc.tmp t
    rw[hb]at h1
    have h1:=h1.bool
    have h2:a.tmps[t]? =some (.bool b):=by
     rw[sd]at h1
     cases h3:a.tmps[t]? with
     |none=>rw[h3]at h1;simp[undef]at h1
     |some v=>rw[h3]at h1;simpa using h1
    simp[yielded,ht',h2]
   split at h
   ·rename_i b hb
    have pQ:σ.put t (.val .bool b)=σ:=by rw[←hb];exact E1 σ t
    have hw:=hy b hb
    cases want<;>cases b
    ·rw[aj (by simp[Region.wanted,hg,hw])]
     rw[pQ]at h;exact dE h
    ·rw[ah (by simp[Region.wanted,hg,hw])]
     rw[pQ]at h;exact ss _ _ h
    ·rw[ah (by simp[Region.wanted,hg,hw])]
     rw[pQ]at h;exact ss _ _ h
    ·rw[aj (by simp[Region.wanted,hg,hw])]
     rw[pQ]at h;exact dE h
   ·rename_i hb
    have zS: ¬Region.wanted o (yielded ops a.tmps)=true:=by
     obtain⟨⟨M,ν,hc⟩,hs,_,_⟩:=hI
     have h1:=hc.tmp t
     rw[hb]at h1
     simp only[VR]at h1
     have h2: ∀b,a.tmps[t]? ≠some (.bool b):=by
      intro b eY
      rw[sd,eY]at h1
      simp[undef]at h1
     have h3:yielded ops a.tmps j=none:=by
      unfold yielded
      rw[ht']
      show(match a.tmps[t]? with|some (.bool b)=>some b|_=>none)=none
      split
      ·rename_i b eY;exact absurd eY (h2 b)
      ·rfl
     simp[Region.wanted,hg,h3]
    rw[ah zS]
    exact ss _ _ h
   ·cases h
theorem E2(hE:tv P E){ops:Array Oper}: ∀(l:List Oper) (i:Nat) (σ:St) (lg:Log) (a:Act) (w:World) (K:St→Log→Option α),Inv c E σ a w→S6 E ops.toList l i σ lg K=some r→
  (∀σ' lg' a' w',K σ' lg'=some r→Inv c E σ' a' w'→Q .normal a' w')→wpList P ops Q l a w
 |[],i,σ,lg,a,w,K,hI,h,hn=>hn _ _ _ _ h hI
 |o::l,i,σ,lg,a,w,K,hI,h,hn=>by
  unfold S6 at h
  refine wpList_step λK' hK'=> ?_
  exact Co hE hI h fun σ' a' w' rd wr h' yp=>hK' _ _ (E2 hE l (i+1) σ' _ a' w' K yp h' hn)
theorem MF(hI:Inv c E σ a w){x:Operand}{A B:St→Option α}(h:HY E x σ A B=some r): ∃b,a.eval x= .bool b∧(if b then A σ else B σ)=some r:=by
 unfold HY at h
 split at h
 ·rename_i b hb
  refine⟨b,hI.bool hb,?_⟩
  split at h
  ·rename_i t
   have hb:σ.T t= .val .bool b:=hb
   have pQ:σ.put t (.val .bool b)=σ:=by rw[←hb];exact E1 σ t
   cases b
   ·rw[pQ]at h;exact h
   ·rw[pQ]at h;exact h
  ·cases b<;>exact h
 ·cases h
end VM
end
section
namespace VM
open Go
variable{P:Program}{E:Env}{o:Oper}{a:Act}{w:World}{M:Nat→Prop}{ν:Nat→Value}{σ:St}{c:Ctx}{α:Type}{r:α}{next:Act→World→Prop}{Q:Exit→Act→World→Prop}
def mix{β:Type}(A B:Nat→β):Nat→β:=λi=>if i%2=0 then A (i/2)else B (i/2)
theorem im{β:Type}(A B:Nat→β)(i:Nat):mix A B (2*i)=A i:=by
 unfold mix
 rw[aj ω,show 2*i/2=i from by omega]
theorem ve{β:Type}(A B:Nat→β)(i:Nat):mix A B (2*i+1)=B i:=by
 unfold mix
 rw[ah ω,show(2*i+1)/2=i from by omega]
theorem ala{β:Type}{A B A' B':Nat→β}(hl: ∀i,A i=A' i)(hr: ∀i,B i=B' i):mix A B=mix A' B':=by
 funext i;unfold mix;rw[hl,hr]
def bl.re(f:Nat→Nat):bl→bl
 | .gd τ x p j=> .gd τ x p (f j)
 |e=>e
theorem ER.re{v:Value}{f:Nat→Nat}{e:bl}:ER w M v (e.re f)↔ER w M v e:=by cases e<;>simp[bl.re,ER]
theorem bl.qX{f:Nat→Nat}{e:bl}:(e.re f).mut↔e.mut:=by cases e<;>simp[bl.re,bl.mut]
theorem bl.RJ{f g:Nat→Nat}{e e':bl}:(e.re f).lj (e'.re g)↔e.lj e':=by cases e<;>cases e'<;>simp[bl.re,bl.lj]
def ml(i:Nat):Nat:=2*i
def mr(i:Nat):Nat:=2*i+1
def jb(A B:Nat→Option bl):Nat→Option bl:=λi=>if i%2=0 then(A (i/2)).map (bl.re ml)else(B (i/2)).map (bl.re mr)
theorem yI(A B:Nat→Option bl)(i:Nat):jb A B (2*i)=(A i).map (bl.re ml):=by
 unfold jb
 rw[aj ω,show 2*i/2=i from by omega]
theorem ui(A B:Nat→Option bl)(i:Nat):jb A B (2*i+1)=(B i).map (bl.re mr):=by
 unfold jb
 rw[ah ω,show(2*i+1)/2=i from by omega]
theorem ix{A B:Nat→Option bl}{i:Nat}{e:bl}(h:A i=some e):jb A B (2*i)=some (e.re ml):=by rw[yI,h];rfl
theorem uj{A B:Nat→Option bl}{i:Nat}{e:bl}(h:B i=some e):jb A B (2*i+1)=some (e.re mr):=by rw[ui,h];rfl
theorem J5{A B:Nat→Option bl}{i:Nat}:jb A B (2*i)≠none↔A i≠none:=by rw[yI];cases A i<;>simp
theorem J6{A B:Nat→Option bl}{i:Nat}:jb A B (2*i+1)≠none↔B i≠none:=by rw[ui];cases B i<;>simp
theorem qY(A B:Nat→Option bl)(i:Nat)(v:Option bl):bY (jb A B) (2*i) (v.map (bl.re ml))=jb (bY A i v) B:=by
 funext k
 by_cases hk:k=2*i
 ·subst hk;rw[ay,yI,ay]
 ·rw[az _ _ hk]
  unfold jb
  by_cases h2:k%2=0
  ·rw[aj h2,aj h2,az _ _ ω]
  ·rw[ah h2,ah h2]
theorem E3(A B:Nat→Option bl)(i:Nat)(v:Option bl):bY (jb A B) (2*i+1) (v.map (bl.re mr))=jb A (bY B i v):=by
 funext k
 by_cases hk:k=2*i+1
 ·subst hk;rw[ay,ui,ay]
 ·rw[az _ _ hk]
  unfold jb
  by_cases h2:k%2=0
  ·rw[aj h2,aj h2]
  ·rw[ah h2,ah h2,az _ _ ω]
theorem E4(A B:Nat→Value)(i:Nat)(v:Value):dh (mix A B) (2*i+1) v=mix A (dh B i v):=by
 funext k
 unfold dh mix
 by_cases hk:k=2*i+1
 ·subst hk;rw[aj rfl,ah ω]
  show v=if(2*i+1)/2=i then v else B ((2*i+1)/2)
  rw[aj ω]
 ·rw[ah hk]
  by_cases h2:k%2=0
  ·rw[aj h2,aj h2]
  ·rw[ah h2,ah h2]
   show B (k/2)=if k/2=i then v else B (k/2)
   rw[ah ω]
theorem Mem.left{H A:Nat→Option bl}{νA:Nat→Value}(h:Mem c (jb H A) w M (mix ν νA)):Mem c H w M ν:=
 ⟨λi e hi=>by have:=h.kZ (2*i) _ (ix hi);rw[im]at this;exact ER.re.1 this,
  λi j e e' b pP hi hm hj jR=>by have:=h.zL (2*i) (2*j) _ _ b ω (ix hi) (bl.qX.2 hm) (ix hj) (bl.qX.2 jR);rwa [im,im]at this,
  λi e b hi hm=>by have:=h.new (2*i) _ b (ix hi) (bl.qX.2 hm);rwa [im]at this,
  λi e l b hi=>by have:=h.yC (2*i) e l b (ix hi);rwa [im]at this,
  λi τ x p j hi=>by
   obtain⟨h1,b,h2,h3⟩:=h.gd (2*i) τ x p (ml j) (ix hi)
   rw[im]at h2
   unfold ml at h1 h3
   rw[im]at h3
   exact⟨J5.1 h1,b,h2,h3⟩,
  h.sub,h.EI,h.frame,h.size,h.vt,h.os,h.tape,h.output⟩
theorem Mem.right{H A:Nat→Option bl}{νA:Nat→Value}(h:Mem c (jb H A) w M (mix ν νA)):Mem c A w M νA:=
 ⟨λi e hi=>by have:=h.kZ (2*i+1) _ (uj hi);rw[ve]at this;exact ER.re.1 this,
  λi j e e' b pP hi hm hj jR=>by have:=h.zL (2*i+1) (2*j+1) _ _ b ω (uj hi) (bl.qX.2 hm) (uj hj) (bl.qX.2 jR);rwa [ve,ve]at this,
  λi e b hi hm=>by have:=h.new (2*i+1) _ b (uj hi) (bl.qX.2 hm);rwa [ve]at this,
  λi e l b hi=>by have:=h.yC (2*i+1) e l b (uj hi);rwa [ve]at this,
  λi τ x p j hi=>by
   obtain⟨h1,b,h2,h3⟩:=h.gd (2*i+1) τ x p (mr j) (uj hi)
   rw[ve]at h2
   unfold mr at h1 h3
   rw[ve]at h3
   exact⟨J6.1 h1,b,h2,h3⟩,
  h.sub,h.EI,h.frame,h.size,h.vt,h.os,h.tape,h.output⟩
theorem Mem.ZL{H:Nat→Option bl}(νA:Nat→Value)(h:Mem c H w M ν):Mem c (jb H (λ_=>none)) w M (mix ν νA):=by
 have key: ∀i e,jb H (λ_=>none) i=some e→ ∃j e0,i=2*j∧H j=some e0∧e=e0.re ml:=by
  intro i e hi
  unfold jb at hi
  by_cases h2:i%2=0
  ·rw[aj h2]at hi
   obtain⟨e0,h3,h4⟩:=zn.1 hi
   exact⟨i/2,e0,ω,h3,h4.symm⟩
  ·rw[ah h2]at hi;cases hi
 refine⟨λi e hi=> ?_,λi j e e' b pP hi hm hj jR=> ?_,λi e b hi hm=> ?_,λi e l b hi=> ?_,λi τ x p j hi=> ?_,h.sub,h.EI,h.frame,h.size,h.vt,h.os,h.tape,h.output⟩
 ·obtain⟨j,e0,rfl,hj,rfl⟩:=key i e hi;rw[im];exact ER.re.2 (h.kZ j e0 hj)
 ·obtain⟨i',e1,rfl,m7,rfl⟩:=key i e hi;obtain⟨j',e2,rfl,Zd,rfl⟩:=key j e' hj
  rw[im,im];exact h.zL i' j' e1 e2 b ω m7 (bl.qX.1 hm) Zd (bl.qX.1 jR)
 ·obtain⟨j,e0,rfl,hj,rfl⟩:=key i e hi;rw[im];exact h.new j e0 b hj (bl.qX.1 hm)
 ·obtain⟨j,e0,rfl,hj,he⟩:=key i _ hi
  cases e0<;>simp only[bl.re]at he<;>cases he
  rw[im];exact h.yC j e l b hj
 ·obtain⟨k,e0,rfl,hk,he⟩:=key i _ hi
  cases e0<;>simp only[bl.re]at he<;>cases he
  obtain⟨h1,b,h2,h3⟩:=h.gd k _ _ _ _ hk
  refine⟨J5.2 h1,b,by rw[im];exact h2,?_⟩
  unfold ml
  rw[im];exact h3
theorem sR.left{H A H' A':Nat→Option bl}{νA ν' Tn:Nat→Value}(g:sR (jb H A) (mix ν νA) (jb H' A') (mix ν' Tn)):sR H ν H' ν':=
 ⟨λi e hi=>by
   obtain⟨e',h1,h2⟩:=g.kZ (2*i) _ (ix hi)
   rw[yI]at h1
   obtain⟨e0,h3,rfl⟩:=zn.1 h1
   exact⟨e0,h3,bl.RJ.1 h2⟩,
  λi hi=>by have:=g.head (2*i) (J5.2 hi);rwa [im,im]at this⟩
theorem sR.right{H A H' A':Nat→Option bl}{νA ν' Tn:Nat→Value}(g:sR (jb H A) (mix ν νA) (jb H' A') (mix ν' Tn)):sR A νA A' Tn:=
 ⟨λi e hi=>by
   obtain⟨e',h1,h2⟩:=g.kZ (2*i+1) _ (uj hi)
   rw[ui]at h1
   obtain⟨e0,h3,rfl⟩:=zn.1 h1
   exact⟨e0,h3,bl.RJ.1 h2⟩,
  λi hi=>by have:=g.head (2*i+1) (J6.2 hi);rwa [ve,ve]at this⟩
theorem Mem.move{H A:Nat→Option bl}{νA:Nat→Value}(h:Mem c (jb H A) w M (mix ν νA)){i j:Nat}{e e1:bl}(hi:H i=some e)(hm:e.mut)(hj:A j=none)
  (P3:(e1=e∧ ∀τ x p k,e≠ .gd τ x p k)∨ ∃τ x p k k',e= .gd τ x p k∧e1= .gd τ x p k'∧A k'≠none∧νA k'=ν k):
  Tr c (jb H A) w M (mix ν νA) (jb (bY H i (some .gone)) (bY A j (some e1))) w M (mix ν (dh νA j (ν i))):=by
 have hg:=Tr.gone h (2*i)
 have hgo:(some bl.gone)=(some bl.gone).map (bl.re ml):=rfl
 rw[hgo,qY]at hg
 have Vj:=ix (B:=A) hi
 have hER:ER w M (ν i) (e1.re mr):=by
  have h1:=h.kZ (2*i) _ Vj
  rw[im]at h1
  have h1:=ER.re.1 h1
  rcases P3 with⟨rfl,_⟩|⟨τ,x,p,k,k',rfl,rfl,_,_⟩
  ·exact ER.re.2 h1
  ·exact h1
 have h2:=Mem.yn hg.mem (id:=2*j+1) (v:=ν i) (e:=e1.re mr) (λe' vZ=>by rw[ui,hj]at vZ;cases vZ)
  hER
  (λb hb k e' hk jR=>by
   by_cases Zb:k=2*i
   ·subst Zb;rw[yI,ay]at hk;cases hk;simp[bl.re,bl.mut]at jR
   ·have hk3:jb H A k=some e':=by
     have:=congrFun (qY H A i (some .gone)) k
     rw[az _ _ Zb]at this
     rw[this];exact hk
    have:=h.zL (2*i) k _ e' b (eJ Zb) Vj (bl.qX.2 hm) hk3 jR
    rw[im]at this
    exact this hb)
  (λb hb=>by have:=h.new (2*i) _ b Vj (bl.qX.2 hm);rw[im]at this;exact this hb)
  (λb e0 l0 he hb=>by
   rcases P3 with⟨rfl,_⟩|⟨τ,x,p,k,k',rfl,rfl,_,_⟩
   ·cases e1<;>simp only[bl.re]at he<;>cases he
    have:=h.yC (2*i) e0 l0 b Vj;rw[im]at this;exact this hb
   ·simp[bl.re]at he)
  (.inl (by rw[ui,hj];rfl))
  (fun τ x p k he=>by
   rcases P3 with⟨rfl,hn⟩|⟨τ,x,p,k,k',rfl,rfl,hk,hνk⟩
   ·cases e1<;>simp only[bl.re]at he<;>cases he
    exact absurd rfl (hn _ _ _ _)
   ·simp only[bl.re]at he
    cases he
    obtain⟨_,b,h4,h5⟩:=h.gd (2*i) _ _ _ _ Vj
    rw[im]at h4
    have hkj:k'≠j:=λe=>hk (e▸hj)
    refine⟨?_,b,h4,?_⟩
    ·rw[az _ _ (by unfold mr;omega)]
     unfold mr
     exact J6.2 hk
    ·unfold ml at h5
     rw[im]at h5
     rw[h5,←hνk]
     have:dh (mix ν νA) (2*j+1) (ν i) (mr k')=mix ν νA (mr k'):=by
      unfold dh mr;rw[ah ω]
     rw[this];unfold mr;rw[ve])
 have ZM:some (e1.re mr)=(some e1).map (bl.re mr):=rfl
 rw[ZM,E3,E4]at h2
 refine⟨h2,.refl w M,⟨λk e' hk=> ?_,λk hk=> ?_⟩⟩
 ·by_cases h3:k%2=0
  ·obtain⟨k',rfl⟩: ∃k',k=2*k':=⟨k/2,ω⟩
   by_cases E0:k'=i
   ·subst E0;exact⟨.gone,by rw[yI,ay];rfl,bl.kL _⟩
   ·exact⟨e',by rw[yI]at hk ⊢;rw[az _ _ E0];exact hk,.refl e'⟩
  ·obtain⟨k',rfl⟩: ∃k',k=2*k'+1:=⟨k/2,ω⟩
   rw[ui]at hk ⊢
   have E0:k'≠j:=λe=>by rw[e,hj]at hk;cases hk
   exact⟨e',by rw[az _ _ E0];exact hk,.refl e'⟩
 ·by_cases h3:k%2=0
  ·obtain⟨k',rfl⟩: ∃k',k=2*k':=⟨k/2,ω⟩
   rw[im,im]
  ·obtain⟨k',rfl⟩: ∃k',k=2*k'+1:=⟨k/2,ω⟩
   rw[ve,ve]
   have E0:k'≠j:=λe=>by rw[ui,e,hj]at hk;exact hk rfl
   simp[dh,E0]
theorem Mem.fresh{H A:Nat→Option bl}{νA:Nat→Value}(h:Mem c (jb H A) w M (mix ν νA)){j:Nat}(hj:A j=none)(e:Ty)(ad:Option Addr):
  Tr c (jb H A) w M (mix ν νA) (jb H (bY A j (some (.own e [])))) w M (mix ν (dh νA j (.slice ad 0 0))):=by
 have:=Tr.nothing h (id:=2*j+1) (by rw[ui,hj];rfl) e ad
 have ZM:some (bl.own e [])=(some (bl.own e [])).map (bl.re mr):=rfl
 rw[ZM,E3,E4]at this
 exact this
structure Cut(c:Ctx)(σ acc:St)(tm:Array Value)(w:World)(M:Nat→Prop)(ν νA:Nat→Value):Prop where
 mem:Mem c (jb σ.H acc.H) w M (mix ν νA)
 src: ∀i,VR w M σ.H ν (σ.T i) (tm.getD i undef)
 dst: ∀i,VR w M acc.H νA (acc.T i) (tm.getD i undef)
theorem Cut.tr{acc:St}{tm:Array Value}{νA:Nat→Value}(h:Cut c σ acc tm w M ν νA){H' A':Nat→Option bl}{M':Nat→Prop}{Tn:Nat→Value}(t:Tr c (jb σ.H acc.H) w M (mix ν νA) (jb H' A') w M' (mix ν Tn)){s:Nat}{x:bC}(hx:VR w M' A' Tn x (tm.getD s undef)):
  Cut c ⟨σ.T,H'⟩ ⟨(acc.put s x).T,A'⟩ tm w M' ν Tn:=by
 refine⟨t.mem,λi=>VR.ca t.ca t.goes.left (h.src i),λi=> ?_⟩
 show VR w M' A' Tn ((acc.put s x).T i) _
 by_cases hi:i=s
 ·subst hi;rw[uh];exact hx
 ·rw[zZ _ _ hi];exact VR.ca t.ca t.goes.right (h.dst i)
def VX(A:Nat→Option bl)(s:Nat):Prop:=A (16*s+13)=none∧A (16*s+14)=none∧A (16*s+15)=none
theorem mc{q:Nat×CM}{L:List (Nat×CM)}{A:Nat→Option bl}(hF:kd (q::L)=true)(hN: ∀p∈q::L,VX A p.1):
  kd L=true∧(∀p∈L,VX A p.1)∧
   ∀(A':Nat→Option bl) (d:Nat) (v:Option bl),(d=16*q.1+13∨d=16*q.1+14∨d=16*q.1+15)→(∀p∈L,VX A' p.1)→ ∀p∈L,VX (bY A' d v) p.1:=by
 unfold kd at hF
 rw[bR,qD]at hF
 refine⟨hF.2,λp hp=>hN p (aZ _ hp),λA' d v hd hN' p hp=> ?_⟩
 have jB:p.1≠q.1:=λe=>by
  have:=hF.1 p hp
  rw[e]at this
  simp at this
 obtain⟨h1,h2,h3⟩:=hN' p hp
 exact⟨by rw[az _ _ ω];exact h1,by rw[az _ _ ω];exact h2,by rw[az _ _ ω];exact h3⟩
theorem eU{tm:Array Value}: ∀(L:List (Nat×CM)) (σ acc:St) (M:Nat→Prop) (νA:Nat→Value) (K:St→Option α),Cut c σ acc tm w M ν νA→kd L=true→(∀q∈L,VX acc.H q.1)→g8 L σ acc K=some r→
  ∃ZN M' Tn,K ZN=some r∧Core c ZN tm w M' Tn
 |[],σ,acc,M,νA,K,hC,_,_,h=>⟨acc,M,νA,h,hC.mem.right,hC.dst⟩
 |(s,.v τ)::L,σ,acc,M,νA,K,hC,hF,hN,h=>by
  obtain⟨PQ,PS,To⟩:=mc hF hN
  unfold g8 at h
  obtain⟨y,rd,ups,h,hy⟩:=DS hC.mem.left (hC.src s) h
  rcases hy with⟨rfl,hV⟩|⟨id,e,l,rfl,bf,hV⟩
  ·exact eU L σ _ M νA K (hC.tr (.refl hC.mem) (x:= .val τ y) (by simp only[VR];exact hV)) PQ PS h
  ·obtain⟨M2,il,_,JT⟩:=Tr.freeze hC.mem (id:=2*id) (ix bf)
   have ZM:some (bl.oI e l)=(some (bl.oI e l)).map (bl.re ml):=rfl
   rw[ZM,qY]at il
   refine eU L _ _ M2 νA K (hC.tr il (x:= .val τ y) ?_) PQ PS h
   simp only[VR]
   exact hV M2 (λb=>by rw[JT b,im])
 |(s,.own e)::L,σ,acc,M,νA,K,hC,hF,hN,h=>by
  obtain⟨PQ,PS,To⟩:=mc hF hN
  unfold g8 at h
  have hs:=hC.src s
  split at h
  ·rename_i hT
   have hj:=(hN _ bk).2.1
   rw[hT]at hs
   obtain⟨ad,hv⟩:=VR.emp.1 hs
   refine eU L σ _ M _ K (hC.tr (hC.mem.fresh hj e ad) (x:= .ref (16*s+14)) ?_) PQ (To _ _ _ (.inr (.inl rfl)) PS) h
   simp only[VR]
   exact⟨by rw[ay];simp,by rw[hv];simp[dh]⟩
  ·rename_i id hT
   rw[hT]at hs
   simp only[VR]at hs
   split at h
   ·rename_i e' l bf
    obtain⟨e1,h⟩:=bB h
    cases e1
    have hj:=(hN _ bk).2.1
    refine eU L _ _ M _ K (hC.tr (hC.mem.move bf trivial hj (.inl ⟨rfl,λ_ _ _ _=>by simp⟩)) (x:= .ref (16*s+14)) ?_) PQ (To _ _ _ (.inr (.inl rfl)) PS) h
    simp only[VR]
    exact⟨by rw[ay];simp,by rw[hs.2];simp[dh]⟩
   ·cases h
  ·cases h
 |(s,.obj τ)::L,σ,acc,M,νA,K,hC,hF,hN,h=>by
  obtain⟨PQ,PS,To⟩:=mc hF hN
  unfold g8 at h
  have hs:=hC.src s
  split at h
  ·rename_i id hT
   rw[hT]at hs
   split at h
   ·rename_i υ x bf
    obtain⟨e1,h⟩:=bB h
    subst e1
    have hj:=(hN _ bk).2.1
    simp only[VR]at hs
    obtain⟨e,he,nM⟩:=hs
    rw[bf]at he;cases he
    simp only[AR]at nM
    obtain⟨_,b,hb,hv⟩:=nM
    refine eU L _ _ M _ K (hC.tr (hC.mem.move bf trivial hj (.inl ⟨rfl,λ_ _ _ _=>by simp⟩)) (x:= .jo (16*s+14) []) ?_) PQ (To _ _ _ (.inr (.inl rfl)) PS) h
    simp only[VR]
    exact⟨_,ay _ _ _,trivial,b,by simp[dh,hb],hv⟩
   ·
    rename_i υ x q k bf
    obtain⟨z,ups,M2,hK,il,al8,b,cs,t,hb,hg,JT,kV⟩: ∃z ups M2,c8 υ τ z (λy=>g8 L ((σ.vR ups).jP id (some .gone)) ((acc.put s (.jo (16*s+14) [])).jP (16*s+14) (some (.obj τ y))) K)=some r∧
      Tr c (jb σ.H acc.H) w M (mix ν νA) (jb (c4 σ.H ups) acc.H) w M2 (mix ν νA)∧c4 σ.H ups id=some (.gd υ x q k)∧ ∃b cs t,ν id= .pointer (some ⟨b,0,none⟩)∧w.heap[b]? =some (.cells cs t (0,0))∧M2 b∧Rd w M2 υ cs.toList z:=by
     have al9:=ix (B:=acc.H) bf
     unfold C5 at h
     split at h
     ·rename_i e l hk
      have jB:id≠k:=λe=>by rw[e,hk]at bf;cases bf
      obtain⟨z,ups,M2,hK,il,_,hc2,b,cs,t,hb,hg,JT,kV⟩:=yF (H:=jb σ.H acc.H) hC.mem (id:=2*id) (j:=2*k) (x:=x) (q:=q)
       (k:=λz _=>c8 υ τ z λy=>g8 L ((σ.vR [(k,some (.oI e l))]).jP id (some .gone)) ((acc.put s (.jo (16*s+14) [])).jP (16*s+14) (some (.obj τ y))) K) al9 (by
        unfold C5
        rw[ix hk]
        exact h)
      rw[im]at hb
      rcases hc2 with⟨e2,l2,h2,_⟩|⟨e2,l2,h2,rfl⟩
      ·rw[ix hk]at h2;simp[bl.re]at h2
      ·rw[ix hk]at h2
       simp only[bl.re,iv]at h2
       have ZM:some (bl.oI e l)=(some (bl.oI e l)).map (bl.re ml):=rfl
       have we:Tr c (jb σ.H acc.H) w M (mix ν νA) (bY (jb σ.H acc.H) (2*k) (some (.oI e l))) w M2 (mix ν νA):=by
        cases h2;exact il
       rw[ZM,qY]at we
       exact⟨z,_,M2,hK,we,by show bY σ.H k _ id=_;rw[az _ _ jB];exact bf,b,cs,t,hb,hg,JT,kV⟩
     ·rename_i e l hk
      obtain⟨z,ups,M2,hK,il,_,hc2,b,cs,t,hb,hg,JT,kV⟩:=yF (H:=jb σ.H acc.H) hC.mem (id:=2*id) (j:=2*k) (x:=x) (q:=q)
       (k:=λz _=>c8 υ τ z λy=>g8 L ((σ.vR []).jP id (some .gone)) ((acc.put s (.jo (16*s+14) [])).jP (16*s+14) (some (.obj τ y))) K) al9 (by
        unfold C5
        rw[ix hk]
        exact h)
      rw[im]at hb
      rcases hc2 with⟨e2,l2,h2,rfl⟩|⟨e2,l2,h2,_⟩
      ·exact⟨z,[],M2,hK,il,bf,b,cs,t,hb,hg,JT,kV⟩
      ·rw[ix hk]at h2;simp[bl.re]at h2
     ·cases h
    obtain⟨e1,hK⟩:=bB hK
    subst e1
    have hC2:Cut c ⟨σ.T,c4 σ.H ups⟩ acc tm w M2 ν νA:=⟨il.mem,λi=>VR.ca il.ca il.goes.left (hC.src i),λi=>VR.ca il.ca il.goes.right (hC.dst i)⟩
    have vB:=Tr.Hf (e':= .obj υ z) il.mem (ix al8) trivial trivial rfl (λ_ _=>by simp) (by rw[im];simp only[ER];exact⟨b,cs,t,hb,hg,JT,kV⟩) (λ_ _ _ _ h=>by cases h)
    have ZM:some (bl.obj υ z)=(some (bl.obj υ z)).map (bl.re ml):=rfl
    rw[ZM,qY]at vB
    have hC3:Cut c ⟨σ.T,bY (c4 σ.H ups) id (some (.obj υ z))⟩ acc tm w M2 ν νA:=⟨vB.mem,λi=>VR.ca vB.ca vB.goes.left (hC2.src i),λi=>VR.ca vB.ca vB.goes.right (hC2.dst i)⟩
    have hj:=(hN _ bk).2.1
    simp only[VR]at hs
    obtain⟨e,he,nM⟩:=hs
    rw[bf]at he;cases he
    simp only[AR]at nM
    obtain⟨_,b',eY,hv⟩:=nM
    rw[hb]at eY;cases eY
    have hmv:=hC3.mem.move (ay _ _ _) trivial hj (.inl ⟨rfl,λ_ _ _ _=>by simp⟩)
    rw[yE]at hmv
    have GZ:(σ.vR ups).jP id (some .gone)=⟨σ.T,bY (c4 σ.H ups) id (some .gone)⟩:=by
     have h2:σ.vR ups=⟨σ.T,c4 σ.H ups⟩:=by rw[←P1,←P2 ups σ]
     rw[h2];rfl
    rw[GZ]at hK
    refine eU L _ _ M2 _ K (hC3.tr hmv (x:= .jo (16*s+14) []) ?_) PQ (To _ _ _ (.inr (.inl rfl)) PS) hK
    simp only[VR]
    exact⟨_,ay _ _ _,trivial,b,by simp[dh,hb],hv⟩
   ·cases h
  ·cases h
 |(s,.gd τ q e)::L,σ,acc,M,νA,K,hC,hF,hN,h=>by
  obtain⟨PQ,PS,To⟩:=mc hF hN
  unfold g8 at h
  have hs:=hC.src s
  split at h
  ·rename_i id hT
   rw[hT]at hs
   split at h
   ·rename_i υ x q' k bf
    obtain⟨hpq,h1⟩:=cB h
    clear h
    have:=Bc hpq
    subst this
    split at h1
    ·rename_i e' l hk
     obtain⟨e1,h2⟩:=bB h1
     clear h1
     subst e1
     obtain⟨e2,h⟩:=bB h2
     cases e2
     have jB:id≠k:=λe=>by rw[e,hk]at bf;cases bf
     obtain⟨art,aru,_⟩:=hN _ bk
     simp only[VR]at hs
     obtain⟨e,he,nM⟩:=hs
     rw[bf]at he;cases he
     simp only[AR]at nM
     obtain⟨_,b,hb,hv⟩:=nM
     have tp:=hC.mem.move hk trivial art (.inl ⟨rfl,λ_ _ _ _=>by simp⟩)
     have px:bY σ.H k (some .gone) id=some (.gd υ x q k):=by rw[az _ _ jB];exact bf
     have ym:=tp.mem.move px trivial (j:=16*s+14) (e1:= .gd υ x q (16*s+13)) (by rw[az _ _ ω];exact aru)
      (.inr ⟨υ,x,q,k,16*s+13,rfl,rfl,by rw[ay];simp,by simp[dh]⟩)
     refine eU L _ _ M _ K (hC.tr (tp.trans ym) (s:=s) (x:= .jo (16*s+14) []) ?_) PQ (To _ _ _ (.inr (.inl rfl)) (To _ _ _ (.inl rfl) PS)) h
     simp only[VR]
     exact⟨_,ay _ _ _,trivial,b,by simp[dh,hb],hv⟩
    ·cases h1
   ·cases h
  ·cases h
 |(s,.same s')::L,σ,acc,M,νA,K,hC,hF,hN,h=>by
  obtain⟨PQ,PS,To⟩:=mc hF hN
  unfold g8 at h
  split at h
  ·rename_i i j j' h1 h2 h3
   obtain⟨hb,h⟩:=cB h
   have hb:=fV hb
   have e1:=hC.src s
   have e2:=hC.src s'
   have e3:=hC.dst s'
   rw[h1]at e1;rw[h2]at e2;rw[h3]at e3
   simp only[VR]at e1 e2 e3
   refine eU L σ _ M νA K (hC.tr (.refl hC.mem) (x:= .ref j') ?_) PQ PS h
   simp only[VR]
   exact⟨e3.1,by rw[e1.2,hb,←e2.2,e3.2]⟩
  ·cases h
 |(s,.io τ)::L,σ,acc,M,νA,K,hC,hF,hN,h=>by
  obtain⟨PQ,PS,To⟩:=mc hF hN
  unfold g8 at h
  have hs:=hC.src s
  split at h
  ·rename_i id hT
   rw[hT]at hs
   obtain⟨_,h⟩:=cB h
   split at h
   ·rename_i υ x bf
    obtain⟨e1,h⟩:=bB h
    subst e1
    have hj:=(hN _ bk).2.2
    simp only[VR]at hs
    obtain⟨e,he,nM⟩:=hs
    rw[bf]at he;cases he
    simp only[AR]at nM
    obtain⟨_,b,hb,hv⟩:=nM
    refine eU L _ _ M _ K (hC.tr (hC.mem.move bf trivial hj (.inl ⟨rfl,λ_ _ _ _=>by simp⟩)) (x:= .jo (16*s+15) []) ?_) PQ (To _ _ _ (.inr (.inr rfl)) PS) h
    simp only[VR]
    exact⟨_,ay _ _ _,trivial,b,by simp[dh,hb],hv⟩
   ·cases h
  ·cases h
 |(s,.fn f τ)::L,σ,acc,M,νA,K,hC,hF,hN,h=>by
  obtain⟨PQ,PS,To⟩:=mc hF hN
  unfold g8 at h
  have hs:=hC.src s
  split at h
  ·rename_i f' cs hT
   rw[hT]at hs
   obtain⟨hb,h1⟩:=cB h
   clear h
   have hb:=fV hb
   subst hb
   simp only[VR]at hs
   obtain⟨us,hv,Zv⟩:=hs
   obtain⟨y,rd,ups,h,hy⟩:=EX hC.mem.left Zv h1
   split at h
   ·refine eU L σ _ M νA K (hC.tr (.refl hC.mem) (x:= .L9 f (pO τ y)) ?_) PQ PS h
    simp only[VR]
    exact⟨us,hv,jr.free (hy rfl)⟩
   ·cases h
  ·cases h
theorem yJ(hI:Inv c E σ a w){L:Option (List (Nat×CM))}(hL: ∀L',L=some L'→kd L'=true){K:St→Option α}(h:vX L σ K=some r): ∃σ',K σ'=some r∧Inv c E σ' a w:=by
 unfold vX at h
 split at h
 ·exact⟨σ,h,hI⟩
 ·have VU:=hL _ rfl
  obtain⟨⟨M,ν,hc⟩,hs,hd⟩:=hI
  obtain⟨ZN,M',Tn,hK,ama⟩:=eU (tm:=a.tmps) _ σ ⟨λ_=> .any,λ_=>none⟩ M (λ_=>undef) K ⟨hc.mem.ZL _,hc.tmp,λi=>by simp[VR]⟩ VU (λ_ _=>⟨rfl,rfl,rfl⟩) h
  exact⟨ZN,hK,⟨M',Tn,ama⟩,hs,hd⟩
end VM
end
