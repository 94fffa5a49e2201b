/- A part of the proof of HedgeDrawn of layer 22: a machine that reads a function of the program as an equation between values. -/
import Derived.Test.YtocmlaipoebfeaaGreatVm3
import Derived.Scope
set_option linter.all false
section
namespace VM
open Go
variable{P:Program}{E:Env}{o:Oper}{a:Act}{w:World}{M:Nat→Prop}{ν:Nat→Value}{σ:St}{c:Ctx}{α:Type}{r:α}{next:Act→World→Prop}{Q:Exit→Act→World→Prop}
theorem Mem.call{H:Nat→Option aS}(h:Mem c H w M ν){hs:List Nat}{M0 M':Nat→Prop}{w':World}(hM: ∀b,M0 b→M b)(hhs: ∀b∈hs,M b)
  (pU: ∀b∈hs,∀i e,H i=some e→e.mut→eJ (ν i)≠some b) (kO: ∀b∈hs,c.B≤b∨c.may b) (s6: ∀b∈hs,c.M0 b→M' b) (L:Left w M0 hs w' M'):
  Mem c H w' (fun b=>M' b∨(M b∧b∉hs)) ν∧dy w M w' (fun b=>M' b∨(M b∧b∉hs)):=by
 have hk:dy w M w' (fun b=>M' b∨(M b∧b∉hs)):=by
  refine⟨L.size,fun b hb hm=>L.frame b hb (fun hh=>hm (hhs b hh)),fun b hb hm=> ?_⟩
  rcases hm with hm|hm
  ·exact(L.less b hb hm).elim (hM b) (hhs b)
  ·exact hm.1
 refine⟨⟨fun i e hi=>(h.jr i e hi).bD hk fun hm b hb=> ?_,h.wO,h.new,h.u9,nO h (fun _ _=>rfl) (fun _ h=>h) (fun i τ x p j hi=> .inl ⟨hi,fun b hb=> ?_⟩),fun b hb=> ?_,fun b hb=> ?_,fun b hb hm=> ?_,azl h.size L.size,h.rM,L.os.trans h.os,L.tape.trans h.tape,L.output.trans h.output⟩,hk⟩
 ·have hMb:=(h.jr i e hi).uq hm hb
  have yY:b∉hs:=fun hh=>pU b hh i e hi hm hb
  exact⟨L.frame b (h.Ab b hMb) yY,.inr ⟨hMb,yY⟩⟩
 ·have tW:eJ (ν i)=some b:=by rw[hb];rfl
  have hMb:=(h.jr i _ hi).uq trivial tW
  exact L.frame b (h.Ab b hMb) (fun hh=>pU b hh i _ hi trivial tW)
 ·by_cases hh:b∈hs
  ·exact .inl (s6 b hh hb)
  ·exact .inr ⟨h.sub b hb,hh⟩
 ·rcases hb with hb|hb
  ·exact L.Ab b hb
  ·exact azP (h.Ab b hb.1) L.size
 ·have yY:b∉hs:=fun hh=>(kO b hh).elim (fun h'=>by omega) hm
  rw[L.frame b (azP hb h.size) yY]
  exact h.frame b hb hm
theorem Mem.xW{H:Nat→Option aS}(h:Mem c H w M ν){id:Nat}{v:Value}{e:aS}(aV: ∀e',H id=some e'→ ¬e'.mut)(N5:ER w M v e)
  (hd: ∀b,eJ v=some b→ ∀i e',H i=some e'→e'.mut→eJ (ν i)≠some b) (hn: ∀b,eJ v=some b→c.B≤b∨c.may b) (ho: ∀b e0 l0,e= .own e0 l0→eJ v=some b→ ¬c.M0 b)
  (hnv:H id=none∨v=ν id)
  (pT: ∀τ x p j,e= .ej τ x p j→bz H id (some e) j≠none∧ ∃b,v= .pointer (some ⟨b,0,none⟩)∧w.cell? ⟨b,bQ p τ,none⟩=some (cF ν id v j):=by intro _ _ _ _ h;cases h):
  Mem c (bz H id (some e)) w M (cF ν id v):=by
 have hν: ∀i,i≠id→cF ν id v i=ν i:=fun i hi=>by simp[cF,hi]
 have yV:cF ν id v id=v:=by simp[cF]
 refine⟨fun i e1 hi=> ?_,fun i k e1 e2 b1 oY hi pS hk vl=> ?_,fun i e1 b1 hi pS=> ?_,fun i e1 l1 b1 hi=> ?_,nO h (fun i hi=> ?_) s0 (fun i τ x p j hi=> ?_),h.sub,h.Ab,h.frame,h.size,h.rM,h.os,h.tape,h.output⟩
 ·by_cases bC:i=id
  ·subst bC;rw[al]at hi;cases hi;rw[yV];exact N5
  ·rw[an _ _ bC]at hi;rw[hν i bC];exact h.jr i e1 hi
 ·by_cases bC:i=id
  ·subst bC;rw[yV]
   have GO:k≠i:=aAu oY
   rw[an _ _ GO]at hk;rw[hν k GO]
   intro kI
   exact hd b1 kI k e2 hk vl
  ·rw[an _ _ bC]at hi;rw[hν i bC]
   by_cases GO:k=id
   ·subst GO;rw[yV]
    intro kI tF
    exact hd b1 tF i e1 hi pS kI
   ·rw[an _ _ GO]at hk;rw[hν k GO];exact h.wO i k e1 e2 b1 oY hi pS hk vl
 ·by_cases bC:i=id
  ·subst bC;rw[yV];exact hn b1
  ·rw[an _ _ bC]at hi;rw[hν i bC];exact h.new i e1 b1 hi pS
 ·by_cases bC:i=id
  ·subst bC;rw[al]at hi;cases hi;rw[yV];exact ho b1 e1 l1 rfl
  ·rw[an _ _ bC]at hi;rw[hν i bC];exact h.u9 i e1 l1 b1 hi
 ·by_cases bC:i=id
  ·subst bC
   rcases hnv with hnv|hnv
   ·exact absurd hnv hi
   ·rw[yV,hnv]
  ·exact hν i bC
 ·by_cases bC:i=id
  ·subst bC
   rw[al]at hi
   cases hi
   obtain⟨h1,b,h2,h3⟩:=pT _ _ _ _ rfl
   exact .inr ⟨h1,b,by rw[yV];exact h2,h3⟩
  ·rw[an _ _ bC]at hi
   exact .inl ⟨hi,fun _ _=>rfl⟩
theorem Oi{m:AM}{ms:List AM}(x:HP (m::ms))(id:Nat)(io:List (Nat×Ty)):
  ja (m::ms) x id io=match m,rQ x,io with
   | .io τ,y,(j,_)::io=>((ja ms (wP x) (id+1) io).1,(j,some (.obj τ y))::(ja ms (wP x) (id+1) io).2.1,(ja ms (wP x) (id+1) io).2.2)
   |m,y,io=>((EH m y id).1::(ja ms (wP x) (id+1) io).1,(EH m y id).2++(ja ms (wP x) (id+1) io).2.1,(ja ms (wP x) (id+1) io).2.2):=by
 cases ms with
 |nil=>cases m<;>cases io<;>simp[ja,rQ]
 |cons n ms=>cases m<;>cases io<;>simp[ja,rQ,wP]
theorem nC{l1 l2:List Nat}{b:Nat}(h:(l1++l2).Nodup)(h1:b∈l1):b∉l2:=fun h2=>(aAD.1 h).2.2 b h1 b h2 rfl
theorem RR.E1: ∀{ms:List AM} {x:HP ms} {us ps:List Value},RR w M ms x us ps→ ∀p∈ps,∀b,eJ p=some b→b∈bk ms us ps
 |[],_,_,_,h,p,hp,_,_=>by simp only[RR]at h;rw[h.2]at hp;simp at hp
 |m::ms,x,us,ps,h,p,hp,b,hb=>by
  simp only[RR]at h
  rcases h with⟨p',CI,h1,rfl,h2,h3⟩|⟨v,E0,h1,h2,rfl,h3,h4⟩
  ·simp only[bk,h1,aBc,aAU,aA1,ayU]
   rcases ayY.1 hp with rfl|hp
   ·left
    cases m<;>simp[AM.fY]at h1
    simp[cN,hb]
   ·exact .inr (RR.E1 h3 p hp b hb)
  ·simp only[bk,h1,azv,aAt,aAU,aA1,ayU]
   exact .inr (RR.E1 h4 p hp b hb)
theorem nT{hs:List Nat}{sz:Nat}: ∀{ms:List AM} {x:HP ms} {us ps:List Value} {id:Nat} {io:List (Nat×Ty)} {H:Nat→Option aS} {ν:Nat→Value} {used:List Nat},
  Mem c H w M ν→RR w M ms x us ps→ps=io.map (fun q=>ν q.1)→lT ms=io.map (·.2)→(keys io).Nodup→(∀q∈io,H q.1=some .gone)→(∀i,id≤i→i<id+ms.length→H i=none)→
  (∀i e b,H i=some e→e.mut→eJ (ν i)=some b→(b<sz∧b∉hs)∨b∈used)→(used++bk ms us ps).Nodup→(∀b∈bk ms us ps,sz≤b∨b∈hs)→
  (∀b∈bk ms us ps,(c.B≤b∨c.may b))→(∀b∈bk ms us ps,c.M0 b→ ∃p∈ps,eJ p=some b)→
  ∃ν',Mem c (ch H (ja ms x id io).2.1) w M ν'∧fX w M (ch H (ja ms x id io).2.1) ν' (ja ms x id io).1 us∧(∀i,H i≠none→ν' i=ν i)∧
   (∀i,i∉keys io→(i<id∨id+ms.length≤i)→ch H (ja ms x id io).2.1 i=H i)∧(∀i,id≤i→i<id+ms.length→ ∀e,ch H (ja ms x id io).2.1 i=some e→(∃e0 l0,e= .own e0 l0)∨ ∃τ0 z0,e= .obj τ0 z0)∧
   (∀q∈io,∃z:q.2.den,ch H (ja ms x id io).2.1 q.1=some (.obj q.2 z))
 |[],x,us,ps,id,io,H,ν,used,hm,hr,Kt,CC,G9,CK,iH,hold,vx,oG,kO,GN=>by
  simp only[RR]at hr
  obtain⟨rfl,rfl⟩:=hr
  have s6:io=[]:=by
   cases io with
   |nil=>rfl
   |cons q io=>simp at Kt
  subst s6
  exact⟨ν,hm,by simp[ja,fX],fun _ _=>rfl,fun _ _ _=>rfl,fun i h1 h2=>by simp at h2;omega,fun q hq=>by simp at hq⟩
 |m::ms,x,us,ps,id,io,H,ν,used,hm,hr,Kt,CC,G9,CK,iH,hold,vx,oG,kO,GN=>by
  rw[Oi]
  simp only[RR]at hr
  rcases hr with⟨p,CI,E2,rfl,h1,h2⟩|⟨v,E0,E2,hmf,rfl,h1,h2⟩
  ·
   cases m with
   |io τ=>
    cases io with
    |nil=>simp at Kt
    |cons q io=>
     simp only[ay6,azq]at Kt
     obtain⟨rfl,rfl⟩:=Kt
     simp only[lT,ay6,azq]at CC
     obtain⟨anw,anx⟩:=CC
     simp only[keys,ay6,aB1]at G9
     have hbr:bk (.io τ::ms) us (ν q.1::io.map fun q=>ν q.1)=(eJ (ν q.1)).toList++bk ms us (io.map fun q=>ν q.1):=rfl
     rw[hbr]at vx oG kO GN
     have Oj:=CK q ayN
     have Ha:q.1<id∨id+(ms.length+1)≤q.1:=by
      rcases aA5 q.1 id with h'|h'
      ·exact .inl h'
      ·rcases aA5 q.1 (id+(ms.length+1))with MX|MX
       ·rw[iH q.1 h' MX]at Oj;cases Oj
       ·exact .inr MX
     simp only[A1]at h1
     have sk: ∀b,eJ (ν q.1)=some b→ ∀i e',H i=some e'→e'.mut→eJ (ν i)≠some b:=by
      intro b hb i e' hi gY dN
      have gD:b∈(eJ (ν q.1)).toList++bk ms us (io.map fun q=>ν q.1):=ayZ _ (by rw[hb];simp)
      rcases hold i e' b hi gY dN with⟨h3,h4⟩|h3
      ·exact(oG b gD).elim (fun h'=>by omega) h4
      ·exact nC vx h3 gD
     have vl:=Mem.xW (c:=c) hm (id:=q.1) (v:=ν q.1) (e:= .obj τ (rQ x)) (fun e' tV=>by rw[Oj]at tV;cases tV;simp[aS.mut]) h1 sk (fun b hb=>kO b (ayZ _ (by rw[hb];simp))) (fun b e0 l0 he=>by cases he) (.inr rfl)
     have hνe:cF ν q.1 (ν q.1)=ν:=by funext i;unfold cF;split<;>simp_all
     rw[hνe]at vl
     have anz: ∀(q':Nat×Ty),q'∈io→q'.1≠q.1:=fun q' oH e=>G9.1 (azp.2 ⟨q',oH,e⟩)
     obtain⟨ν',r1,r2,r3,r4,r5,r6⟩:=nT (ms:=ms) (x:=wP x) (us:=us) (ps:=io.map fun q=>ν q.1) (id:=id+1) (io:=io) (used:=used++(eJ (ν q.1)).toList) vl h2 rfl anx G9.2
      (fun q' oH=>by rw[an _ _ (anz q' oH)];exact CK q' (ayK _ oH))
      (fun i h3 h4=>by
       have:i≠q.1:=by omega
       rw[an _ _ this]
       exact iH i (by omega) (by simp only[ayI];omega))
      (fun i e b hi gY hb=>by
       by_cases bC:i=q.1
       ·subst bC;exact .inr (ay3 _ (by rw[hb];simp))
       ·rw[an _ _ bC]at hi
        exact(hold i e b hi gY hb).imp (fun h=>h) (ayZ _))
      (by rw[ayP];exact vx) (fun b hb=>oG b (ay3 _ hb)) (fun b hb=>kO b (ay3 _ hb))
      (fun b hb hb0=>by
       obtain⟨p,hp,hpb⟩:=GN b (ay3 _ hb) hb0
       rcases ayY.1 hp with rfl|hp
       ·exact absurd (nC (aAD.1 vx).2.1 (b:=b) (by rw[hpb];simp)) (by simpa using hb)
       ·exact⟨p,hp,hpb⟩)
     refine⟨ν',r1,r2,fun i hi=> ?_,fun i h3 h4=> ?_,fun i h3 h4 e he=> ?_,fun q' oH=> ?_⟩
     ·exact r3 i (by
       by_cases bC:i=q.1
       ·subst bC;rw[al];simp
       ·rw[an _ _ bC];exact hi)
     ·simp only[keys,ay6,ayY,not_or]at h3
      have:=r4 i h3.2 (by simp only[ayI]at h4;omega)
      rw[an _ _ h3.1]at this
      exact this
     ·by_cases h5:id+1≤i
      ·exact r5 i h5 (by simp only[ayI]at h4;omega) e he
      ·have bC:i=id:=by omega
       subst bC
       by_cases hk:i∈keys io
       ·obtain⟨q',oH,Kw⟩:=azp.1 hk
        have h9:=CK q' (ayK _ oH)
        rw[Kw,iH i (ayJ _) (by simp)]at h9
        cases h9
       ·have:=r4 i hk (.inl (by omega))
        have gq:i≠q.1:=by omega
        rw[an _ _ gq,iH i (ayJ _) (by simp)]at this
        have he:ch (bz H q.1 (some (aS.obj τ (rQ x)))) (ja ms (wP x) (i+1) io).2.1 i=some e:=he
        rw[this]at he;cases he
     ·rcases ayY.1 oH with rfl|oH
      ·have:=r4 q'.1 G9.1 (by omega)
       rw[al]at this
       rw[←anw]
       exact⟨rQ x,this⟩
      ·exact r6 q' oH
   |v τ=>simp[AM.fY]at E2
   |own τ=>simp[AM.fY]at E2
   |fn f τ=>simp[AM.fY]at E2
   |ptr τ=>simp[AM.fY]at E2
   |fW τ=>simp[AM.fY]at E2
  ·
   have CL:H id=none:=iH id (ayJ _) (by simp)
   cases m with
   |io τ=>simp[AM.fY]at E2
   |fn f τ=>simp[AM.UH]at hmf
   |fW τ=>simp[AM.UH]at hmf
   |v τ=>
    have hbr:bk (.v τ::ms) (v::E0) ps=bk ms E0 ps:=rfl
    rw[hbr]at vx oG kO GN
    simp only[A1]at h1
    obtain⟨ν',r1,r2,r3,r4,r5,r6⟩:=nT (ms:=ms) (x:=wP x) (us:=E0) (ps:=ps) (id:=id+1) (io:=io) (used:=used) hm h2 Kt (by simpa [lT]using CC) G9 CK (fun i h3 h4=>iH i (by omega) (by simp only[ayI];omega)) hold vx oG kO GN
    refine⟨ν',r1,?_,r3,fun i h3 h4=>r4 i h3 (by simp only[ayI]at h4;omega),fun i h3 h4 e he=> ?_,r6⟩
    ·simp only[EH,fX,VR];exact⟨h1,r2⟩
    ·by_cases h5:id+1≤i
     ·exact r5 i h5 (by simp only[ayI]at h4;omega) e he
     ·have bC:i=id:=by omega
      subst bC
      by_cases hk:i∈keys io
      ·obtain⟨q',oH,Kw⟩:=azp.1 hk
       have h9:=CK q' oH
       rw[Kw,CL]at h9;cases h9
      ·have:=r4 i hk (.inl (by omega))
       rw[CL]at this
       have he:ch H (ja ms (wP x) (i+1) io).2.1 i=some e:=he
       rw[this]at he;cases he
   |own τ=>
    have hbr:bk (.own τ::ms) (v::E0) ps=(eJ v).toList++bk ms E0 ps:=rfl
    rw[hbr]at vx oG kO GN
    simp only[A1]at h1
    have sk: ∀b,eJ v=some b→ ∀i e',H i=some e'→e'.mut→eJ (ν i)≠some b:=by
     intro b hb i e' hi gY dN
     have gD:b∈(eJ v).toList++bk ms E0 ps:=ayZ _ (by rw[hb];simp)
     rcases hold i e' b hi gY dN with⟨h3,h4⟩|h3
     ·exact(oG b gD).elim (fun h'=>by omega) h4
     ·exact nC vx h3 gD
    have ahV: ∀b,eJ v=some b→ ¬c.M0 b:=by
     intro b hb h0
     have gD:b∈(eJ v).toList:=by rw[hb];simp
     obtain⟨p,hp,hpb⟩:=GN b (ayZ _ gD) h0
     exact nC (aAD.1 vx).2.1 gD (RR.E1 h2 p hp b hpb)
    have vl:=Mem.xW (c:=c) hm (id:=id) (v:=v) (e:= .own τ (rQ x)) (fun e' tV=>by rw[CL]at tV;cases tV) h1 sk (fun b hb=>kO b (ayZ _ (by rw[hb];simp))) (fun b e0 l0 _ hb=>ahV b hb) (.inl CL)
    have Ha: ∀q∈io,q.1≠id:=fun q hq e=>by
     have h9:=CK q hq
     rw[e,CL]at h9;cases h9
    have hν2: ∀i,i≠id→cF ν id v i=ν i:=fun i hi=>by simp[cF,hi]
    obtain⟨ν',r1,r2,r3,r4,r5,r6⟩:=nT (ms:=ms) (x:=wP x) (us:=E0) (ps:=ps) (id:=id+1) (io:=io) (used:=used++(eJ v).toList) vl h2
     (by rw[Kt];exact aAf fun q hq=>(hν2 _ (Ha q hq)).symm) (by simpa [lT]using CC) G9
     (fun q hq=>by rw[an _ _ (Ha q hq)];exact CK q hq)
     (fun i h3 h4=>by rw[an _ _ (by omega)];exact iH i (by omega) (by simp only[ayI];omega))
     (fun i e b hi gY hb=>by
      by_cases bC:i=id
      ·subst bC
       have:cF ν i v i=v:=by simp[cF]
       rw[this]at hb
       exact .inr (ay3 _ (by rw[hb];simp))
      ·rw[an _ _ bC]at hi
       rw[hν2 i bC]at hb
       exact(hold i e b hi gY hb).imp (fun h=>h) (ayZ _))
     (by rw[ayP];exact vx) (fun b hb=>oG b (ay3 _ hb)) (fun b hb=>kO b (ay3 _ hb)) (fun b hb=>GN b (ay3 _ hb))
    have acK:id∉keys io:=fun hk=>by
     obtain⟨q,hq,Kw⟩:=azp.1 hk
     exact Ha q hq Kw
    have lG:ch (bz H id (some (.own τ (rQ x)))) (ja ms (wP x) (id+1) io).2.1 id=some (.own τ (rQ x)):=by
     rw[r4 id acK (.inl (by omega)),al]
    refine⟨ν',r1,?_,fun i hi=> ?_,fun i h3 h4=> ?_,fun i h3 h4 e he=> ?_,r6⟩
    ·simp only[EH,fX,VR]
     refine⟨⟨?_,?_⟩,r2⟩
     ·show ch (bz H id (some (.own τ (rQ x)))) (ja ms (wP x) (id+1) io).2.1 id≠none
      rw[lG];simp
     ·rw[r3 id (by rw[al];simp)];simp[cF]
    ·have bC:i≠id:=fun e=>hi (e▸CL)
     rw[r3 i (by rw[an _ _ bC];exact hi),hν2 i bC]
    ·have bC:i≠id:=by simp only[ayI]at h4;omega
     have:=r4 i h3 (by simp only[ayI]at h4;omega)
     rw[an _ _ bC]at this
     exact this
    ·by_cases h5:id+1≤i
     ·exact r5 i h5 (by simp only[ayI]at h4;omega) e he
     ·have bC:i=id:=by omega
      subst bC
      have he:ch (bz H i (some (.own τ (rQ x)))) (ja ms (wP x) (i+1) io).2.1 i=some e:=he
      rw[lG]at he;cases he
      exact .inl ⟨τ,_,rfl⟩
   |ptr τ=>
    have hbr:bk (.ptr τ::ms) (v::E0) ps=(eJ v).toList++bk ms E0 ps:=rfl
    rw[hbr]at vx oG kO GN
    simp only[A1]at h1
    have sk: ∀b,eJ v=some b→ ∀i e',H i=some e'→e'.mut→eJ (ν i)≠some b:=by
     intro b hb i e' hi gY dN
     have gD:b∈(eJ v).toList++bk ms E0 ps:=ayZ _ (by rw[hb];simp)
     rcases hold i e' b hi gY dN with⟨h3,h4⟩|h3
     ·exact(oG b gD).elim (fun h'=>by omega) h4
     ·exact nC vx h3 gD
    have vl:=Mem.xW (c:=c) hm (id:=id) (v:=v) (e:= .obj τ (rQ x)) (fun e' tV=>by rw[CL]at tV;cases tV) h1 sk (fun b hb=>kO b (ayZ _ (by rw[hb];simp))) (fun b e0 l0 he _=>by cases he) (.inl CL)
    have Ha: ∀q∈io,q.1≠id:=fun q hq e=>by
     have h9:=CK q hq
     rw[e,CL]at h9;cases h9
    have hν2: ∀i,i≠id→cF ν id v i=ν i:=fun i hi=>by simp[cF,hi]
    obtain⟨ν',r1,r2,r3,r4,r5,r6⟩:=nT (ms:=ms) (x:=wP x) (us:=E0) (ps:=ps) (id:=id+1) (io:=io) (used:=used++(eJ v).toList) vl h2
     (by rw[Kt];exact aAf fun q hq=>(hν2 _ (Ha q hq)).symm) (by simpa [lT]using CC) G9
     (fun q hq=>by rw[an _ _ (Ha q hq)];exact CK q hq)
     (fun i h3 h4=>by rw[an _ _ (by omega)];exact iH i (by omega) (by simp only[ayI];omega))
     (fun i e b hi gY hb=>by
      by_cases bC:i=id
      ·subst bC
       have:cF ν i v i=v:=by simp[cF]
       rw[this]at hb
       exact .inr (ay3 _ (by rw[hb];simp))
      ·rw[an _ _ bC]at hi
       rw[hν2 i bC]at hb
       exact(hold i e b hi gY hb).imp (fun h=>h) (ayZ _))
     (by rw[ayP];exact vx) (fun b hb=>oG b (ay3 _ hb)) (fun b hb=>kO b (ay3 _ hb)) (fun b hb=>GN b (ay3 _ hb))
    have acK:id∉keys io:=fun hk=>by
     obtain⟨q,hq,Kw⟩:=azp.1 hk
     exact Ha q hq Kw
    have lG:ch (bz H id (some (.obj τ (rQ x)))) (ja ms (wP x) (id+1) io).2.1 id=some (.obj τ (rQ x)):=by
     rw[r4 id acK (.inl (by omega)),al]
    refine⟨ν',r1,?_,fun i hi=> ?_,fun i h3 h4=> ?_,fun i h3 h4 e he=> ?_,r6⟩
    ·simp only[EH,fX,VR]
     refine⟨⟨_,lG,trivial,?_⟩,r2⟩
     simp only[A1,ER]at h1
     obtain⟨b,cs,t,QO,_⟩:=h1
     exact⟨b,by rw[r3 id (by rw[al];simp)];simp[cF,QO],QO⟩
    ·have bC:i≠id:=fun e=>hi (e▸CL)
     rw[r3 i (by rw[an _ _ bC];exact hi),hν2 i bC]
    ·have bC:i≠id:=by simp only[ayI]at h4;omega
     have:=r4 i h3 (by simp only[ayI]at h4;omega)
     rw[an _ _ bC]at this
     exact this
    ·by_cases h5:id+1≤i
     ·exact r5 i h5 (by simp only[ayI]at h4;omega) e he
     ·have bC:i=id:=by omega
      subst bC
      have he:ch (bz H i (some (.obj τ (rQ x)))) (ja ms (wP x) (i+1) io).2.1 i=some e:=he
      rw[lG]at he;cases he
      exact .inr ⟨τ,_,rfl⟩
end VM
end
section
namespace VM
open Go
variable{P:Program}{E:Env}{o:Oper}{a:Act}{w:World}{M:Nat→Prop}{ν:Nat→Value}{σ:St}{c:Ctx}{α:Type}{r:α}{next:Act→World→Prop}{Q:Exit→Act→World→Prop}
theorem Hb{i:Nat}: ∀{ups:fN} {H:Nat→Option aS},i∈keys ups→ ∃u∈ups,u.1=i∧ch H ups i=u.2
 |[],_,h=>by simp[keys]at h
 |u::r,H,h=>by
  by_cases hk:i∈keys r
  ·obtain⟨v,h1,h2,h3⟩:=Hb (H:=bz H u.1 u.2) hk
   exact⟨v,ayK _ h1,h2,h3⟩
  ·have hi:i=u.1:=by
    simp only[keys,ay6,ayY]at h hk
    exact h.resolve_right hk
   refine⟨u,ayN,hi.symm,?_⟩
   show ch (bz H u.1 u.2) r i=_
   rw[kb hk,hi,al]
theorem As: ∀{ups:fN} {H H':Nat→Option aS},(∀i,i∉keys ups→H i=H' i)→ch H ups=ch H' ups
 |[],H,H',h=>funext fun i=>h i (by simp[keys])
 |u::r,H,H',h=>by
  refine As (ups:=r) fun i hi=> ?_
  by_cases hu:i=u.1
  ·subst hu;rw[al,al]
  ·rw[an _ _ hu,an _ _ hu]
   exact h i (by simp only[keys,ay6,ayY,not_or];exact⟨hu,hi⟩)
theorem RR.nU: ∀{ms:List AM} {x:HP ms} {us ps:List Value},RR w M ms x us ps→ ∀b∈bk ms us ps,M b
 |[],_,_,_,_,b,hb=>by simp[bk]at hb
 |m::ms,x,us,ps,h,b,hb=>by
  simp only[RR]at h
  rcases h with⟨p,CI,h1,rfl,h2,h3⟩|⟨v,E0,h1,h2,rfl,h3,h4⟩
  ·simp only[bk,h1,aBc,aAU,aA1,ayU]at hb
   rcases hb with hb|hb
   ·cases m<;>simp[AM.fY]at h1
    simp only[cN,azw,A1]at hb h2
    exact h2.uq trivial hb
   ·exact RR.nU h3 b hb
  ·simp only[bk,h1,azv,aAt,aAU,aA1,ayU]at hb
   rcases hb with hb|hb
   ·cases m with
    |own e=>
     simp only[cN,azw,A1]at hb h3
     exact h3.uq trivial hb
    |v _=>simp[cN]at hb
    |io _=>simp[AM.fY]at h1
    |fn _ _=>simp[cN]at hb
    |fW _=>simp[cN]at hb
    |ptr τ=>
     simp only[cN,azw,A1]at hb h3
     exact h3.uq trivial hb
   ·exact RR.nU h4 b hb
theorem Dp: ∀{l:List iD} {m6:List bb} {S:iD},GJ l m6=some S→S∈l
 |[],_,_,h=>by simp[GJ]at h
 |T::l,m6,S,h=>by
  unfold GJ at h
  cases hf:fits T.args m6
  ·rw[hf]at h;exact ayK _ (Dp h)
  ·rw[hf]at h;cases h;exact ayN
theorem xX{H:Nat→Option aS}{id:Nat}: ∀{n:Nat},qw H id n=true→ ∀i,id≤i→i<id+n→H i=none
 |0,_,i,h1,h2=>by omega
 |n+1,h,i,h1,h2=>by
  unfold qw at h
  rw[ayQ]at h
  by_cases hi:i=id+n
  ·subst hi
   have h:=h.1
   split at h
   ·assumption
   ·cases h
  ·exact xX h.2 i h1 (by omega)
theorem QP{H:Nat→Option aS}{m6:List bb}{us:List Value}(h:fX w M H ν m6 us):VR w M H ν (GH m6) (si us):=by
 match m6,us,h with
 |[],[],_=>simp[GH,VR]
 |[a],[u],h=>simp only[fX,az4]at h;simpa [GH,si]using h
 |a::b::m6,u::v::us,h=>
  simp only[GH,VR]
  exact⟨u::v::us,by simp[si],h⟩
 |[],_::_,h=>simp[fX]at h
 |_::_,[],h=>simp[fX]at h
 |[_],_::_::_,h=>simp[fX]at h
 |_::_::_,[_],h=>simp[fX]at h
theorem Hc(hΓ: ∀f S,S∈E.Γ f→fh P f S){H:Nat→Option aS}(hm:Mem c H w M ν){f id:Nat}{m6:List bb}{vs:List Value}(hv:fX w M H ν m6 vs){K:fO α}(h:xL E f m6 id H K=some r)
  {R:Value→World→Prop} (hR: ∀v rd ups v' w' M' ν',K v rd ups=some r→Tr c H w M ν (ch H ups) w' M' ν'→VR w' M' (ch H ups) ν' v v'→R v' w'):
  G8 P f vs.toArray w R:=by
 unfold xL at h
 split at h
 ·cases h
 rename_i S hS
 have Ol:=hΓ f S (Dp hS)
 obtain⟨x,rd,uo,uf,io,H2,Hq,M2,h1,hA,hK,ahW,UK,Qi⟩:=xV (iG.start hm) hv h
 clear h
 simp only[ay8,az2]at hA UK Qi
 obtain⟨y,hy,h1⟩:=az7.1 h1
 obtain⟨iH,h1⟩:=bP h1
 have iH:=xX iH
 have anA:(fun b=>(M2 b∧b∉cW S.args vs)∨b∈cW S.args vs)=M2:=by
  funext b
  refine propext ⟨fun h=>h.elim (·.1) (hA.hM b),fun h=> ?_⟩
  by_cases hb:b∈cW S.args vs
  ·exact .inr hb
  ·exact .inl ⟨h,hb⟩
 refine G8.mono (Ol.call (fun b=>M2 b∧b∉cW S.args vs) w vs x y (fun b hb=>hA.mem.Ab b hb.1) (by rw[anA];exact ahW) hA.nd (fun b hb h=>h.2 hb) hy) ?_
 rintro e w' ⟨us,M',rfl,Qj,hL,vx,hn0⟩
 have anB: ∀b∈cW S.args vs,c.M0 b→M' b:=by
  intro b hb h0
  obtain⟨q,hq,hqb⟩:=hA.iob b hb h0
  exact Qj.nU b (Qj.E1 (ν q.1) (by rw[←UK];exact azi hq) b hqb)
 have oG: ∀b∈bk S.res us (dK S.args vs),w.heap.size≤b∨b∈cW S.args vs:=by
  intro b hb
  rcases aA5 b w.heap.size with dH|UL
  ·exact .inr ((hL.less b dH (Qj.nU b hb)).resolve_left (hn0 b hb))
  ·exact .inl UL
 have kO: ∀b∈bk S.res us (dK S.args vs),c.B≤b∨c.may b:=fun b hb=>(oG b hb).elim (fun h=> .inl (azl hm.size h)) (hA.KZ b)
 have GN: ∀b∈bk S.res us (dK S.args vs),c.M0 b→ ∃p∈dK S.args vs,eJ p=some b:=by
  intro b hb h0
  rcases oG b hb with h'|h'
  ·have:=hm.rM.1 b h0;have:=hm.size;omega
  ·obtain⟨q,hq,hqb⟩:=hA.iob b h' h0
   exact⟨ν q.1,by rw[←UK];exact azi hq,hqb⟩
 have key: ∀(Hx:Nat→Option aS) (Mx:Nat→Prop) (U:fN),Mem c Hx w Mx ν→dy w M w Mx→(∀b,M2 b→Mx b)→(∀b∈cW S.args vs,∀i e,Hx i=some e→e.mut→eJ (ν i)≠some b)→
   (∀q∈io,Hx q.1=some .gone)→(∀i,i∉keys io→ch H (uo++U) i=Hx i)→(∀u∈uo++U,u.2=some .gone∨ ∃e l,u.2=some (.lF e l)∧H u.1=some (.own e l))→(∀i∈keys (uo++U),i∈keys (uo++uf))→
   RR w' (fun b=>M' b∨(Mx b∧b∉cW S.args vs)) S.res y us (dK S.args vs)→
   ∃ν',Tr c H w M ν (ch H (uo++U++(ja S.res y id io).2.1)) w' (fun b=>M' b∨(Mx b∧b∉cW S.args vs)) ν'∧
    fX w' (fun b=>M' b∨(Mx b∧b∉cW S.args vs)) (ch H (uo++U++(ja S.res y id io).2.1)) ν' (ja S.res y id io).1 us:=by
  intro Hx Mx U QK hkx Om pU QQ acL Au hU T2
  obtain⟨m8,Dq⟩:=QK.call (fun b hb=>Om b hb.1) (fun b hb=>Om b (hA.hM b hb)) pU hA.KZ anB hL
  have hx: ∀i e,H i=some e→i∉keys io→ ∃e',Hx i=some e'∧e.iE e':=by
   intro i e hi Av
   rw[←acL i Av]
   by_cases hk:i∈keys (uo++U)
   ·obtain⟨u,hu,hui,huv⟩:=Hb (H:=H) hk
    rw[huv]
    rcases Au u hu with h'|⟨e1,l1,h',MX⟩
    ·exact⟨_,h',aS.kY e⟩
    ·rw[hui,hi]at MX;cases MX;exact⟨_,h',rfl,rfl⟩
   ·rw[kb hk];exact⟨e,hi,.refl e⟩
  have T9: ∀i,id≤i→i<id+S.res.length→Hx i=none:=by
   intro i h3 h4
   have h0:=iH i h3 h4
   have Av:i∉keys io:=fun hk=>by
    obtain⟨q,hq,Kw⟩:=azp.1 hk
    obtain⟨_,_,z,hz⟩:=hA.T7 q hq
    rw[Kw,h0]at hz;cases hz
   rw[←acL i Av]
   rw[kb,h0]
   intro hk
   obtain⟨_,e,l,h'⟩:=hA.ksn i (hU i hk)
   rw[h0]at h';cases h'
  obtain⟨ν',r1,r2,r3,r4,r5,r6⟩:=nT (hs:=cW S.args vs) (sz:=w.heap.size) (id:=id) (used:=[]) m8 T2 UK.symm (by rw[←Ol.ios,←Qi]) hA.ion QQ T9
   (fun i e b hi hmu hb=> .inl ⟨QK.Ab b ((QK.jr i e hi).uq hmu hb),fun hh=>pU b hh i e hi hmu hb⟩) (by simpa using vx) oG kO GN
  have acM:ch H (uo++U++(ja S.res y id io).2.1)=ch Hx (ja S.res y id io).2.1:=by
   rw[eu]
   refine As fun i hi=> ?_
   by_cases Av:i∈keys io
   ·obtain⟨q,hq,Kw⟩:=azp.1 Av
    obtain⟨z,hz⟩:=r6 q hq
    rw[Kw,kb hi,←Kw,QQ q hq]at hz;cases hz
   ·exact acL i Av
  refine⟨ν',⟨by rw[acM];exact r1,hkx.trans Dq,⟨fun i e hi=> ?_,fun i hi=> ?_⟩⟩,by rw[acM];exact r2⟩
  ·rw[acM]
   by_cases Av:i∈keys io
   ·obtain⟨q,hq,Kw⟩:=azp.1 Av
    obtain⟨z,hz⟩:=r6 q hq
    obtain⟨_,_,z0,hz0⟩:=hA.T7 q hq
    rw[Kw]at hz hz0
    rw[hi]at hz0;cases hz0
    exact⟨_,hz,rfl⟩
   ·obtain⟨e',tV,hl⟩:=hx i e hi Av
    have hr:i<id∨id+S.res.length≤i:=by
     rcases aA5 i id with h'|h'
     ·exact .inl h'
     ·rcases aA5 i (id+S.res.length)with MX|MX
      ·rw[iH i h' MX]at hi;cases hi
      ·exact .inr MX
    exact⟨e',by rw[r4 i Av hr];exact tV,hl⟩
  ·refine r3 i ?_
   obtain⟨e,he⟩:=aAZ.1 hi
   by_cases Av:i∈keys io
   ·obtain⟨q,hq,Kw⟩:=azp.1 Av
    rw[←Kw,QQ q hq];simp
   ·obtain⟨e',tV,_⟩:=hx i e he Av
    rw[tV];simp
 cases hq:S.quiet
 ·
  rw[hq]at h1
  have hMn:(fun b=>M' b∨(M2 b∧b∉cW S.args vs))=M':=by
   funext b
   exact propext ⟨fun h=>h.elim (fun h=>h) (hL.sub b),.inl⟩
  obtain⟨ν',fg,hvr⟩:=key H2 M2 uf hA.mem hA.bD (fun _ h=>h) (fun b hb i e hi hmu=>hA.none b hb i e (hA.fz.mut hi hmu) hmu) (fun q hq=>(hA.T7 q hq).1) hA.ext
   (fun u hu=>(ayU.1 hu).elim (fun h=> .inl (hA.uov u h)) (fun h=> .inr (hA.ufv u h))) (fun _ h=>h) (by rw[hMn];exact Qj)
  exact hR _ _ _ _ _ _ _ h1 fg (QP hvr)
 ·rw[hq]at h1
  have Om: ∀b,M2 b→M b:=fun b hb=>hA.bD.less b (hA.mem.Ab b hb) hb
  obtain⟨ν',fg,hvr⟩:=key Hq M [] hA.Oh (.refl w M) Om hA.none (fun q hq=>(hA.T7 q hq).2.1) (by rw[ay2];exact hA.UI)
   (fun u hu=> .inl (hA.uov u (by simpa using hu))) (fun i hi=>by simp only[keys,ay2,aze,ayU]at hi ⊢;exact .inl hi) (Qj.flat (fun b h=> .inl h) (Ol.quiet hq))
  exact hR _ _ _ _ _ _ _ h1 fg (QP hvr)
theorem UM(hΓ: ∀f S,S∈E.Γ f→fh P f S)(hc:Core c σ a.tmps w M ν){args:Array Operand}{ts:Array TypeId}{g:Operand}(ho:o.op= .call {callee:= .value g,args,argTypes:=ts}){K:fO α}{f:Nat}{caps:List bb}(hg:σ.ρ g= .GB f caps){id:Nat}
  (h:xL E f (args.toList.map σ.ρ ++caps) id σ.H K=some r) (hn:eh c σ a o w M ν K r next):o.wp P a w next Q:=by
 have hgv:=hc.ev g
 rw[hg]at hgv
 simp only[VR]at hgv
 obtain⟨cs,hgv,EO⟩:=hgv
 have Hd: ∀{as1:List bb} {QR:List Value},fX w M σ.H ν as1 QR→fX w M σ.H ν (as1++caps) (QR++cs):=by
  intro as1
  induction as1 with
  |nil=>intro QR h1;cases QR with
   |nil=>exact EO
   |cons _ _=>simp[fX]at h1
  |cons x as1 ih=>intro QR h1;cases QR with
   |nil=>simp[fX]at h1
   |cons v QR=>simp only[fX]at h1;simp only[azY,fX];exact⟨h1.1,ih h1.2⟩
 have hd:=Hc (P:=P) hΓ hc.mem (Hd (hc.evs args.toList)) h (R:=fun v' w'=>next (a.put o.dst v') w') (fun v rd ups v' w' M' ν' h1 h2 h3=>hn v rd ups v' w' M' ν' h1 h2 h3)
 have hex:(execOp a.eval o).run P w=(callFunc f (args.toList.map a.eval++cs).toArray).run P w:=by
  have:(args.toList.map a.eval++cs).toArray= #[]++args.map a.eval++cs.toArray:=by apply aAy;simp
  rw[this]
  simp[execOp,ho,resolve,hgv,Deferred.ofValue,invoke]
 unfold Oper.wp
 rw[hex]
 exact hd o a next Q fun v w' hv=>hv
end VM
end
section
namespace VM
open Go
variable{P:Program}{E:Env}{o:Oper}{a:Act}{w:World}{M:Nat→Prop}{ν:Nat→Value}{σ:St}{c:Ctx}{α:Type}{r:α}{next:Act→World→Prop}{Q:Exit→Act→World→Prop}
structure o3(P:Program)(E:Env):Prop extends EnvTy P E where
 ah0: ∀f S,S∈E.Γ f→fh P f S
 mixed:P.follows .mixedOrders=true
 gJ: ∀i L,E.rU i=some L→VM.gJ L=true
 QS: ∀i L,E.tD i=some L→VM.gJ L=true
theorem On(hE:o3 P E)(hc:Core c σ a.tmps w M ν){K:fO α}(h:pL E o σ.ρ σ.H K=some r)(hn:eh c σ a o w M ν K r next):o.wp P a w next Q:=by
 have hT:=hE.toEnvTy
 unfold pL at h
 simp only at h
 split at h
 ·rename_i x ho;exact MQ hc (.inl ho) h hn
 ·rename_i x ho;exact MQ hc (.inr ho) h hn
 ·rename_i x y z ho
  split at h
  ·rename_i t hx;exact Uw hc ho hx h hn
  ·cases h
 ·rename_i t ho
  split at h
  ·rename_i τ ht;exact Qz hT hc ho ht h hn
  ·cases h
 ·rename_i t x ho
  split at h
  ·rename_i τ ht;exact aci hT hc ho h hn
  ·cases h
 ·rename_i t ps ho
  split at h
  ·rename_i n e ht;exact EZ hT hc ho ht h hn
  ·rename_i τ hna ht;exact y5 hT hc ho ht (fun n e he=>hna n e he) h hn
  ·cases h
 ·rename_i t n ps ho
  split at h
  ·rename_i e ht;exact CG hT hc ho ht h hn
  ·cases h
 ·rename_i t x ho
  split at h
  ·rename_i τ ht;exact Ux hT hc ho ht h hn
  ·cases h
 ·rename_i t x y ho
  split at h
  ·rename_i τ ht;exact Oc hT hc ho ht h hn
  ·cases h
 ·rename_i x ho
  split at h
  ·rename_i id p hx;exact y3 hc ho hx h hn
  ·rename_i τ z hx;exact w3 hc ho hx h hn
  ·cases h
 ·rename_i b t x y t' ho;exact QF hT hc ho h hn
 ·rename_i u t x ho;exact UC hc ho h hn
 ·rename_i s d x ho
  split at h
  ·rename_i τ k hs hd;exact KV hT hc ho hs hd h hn
  ·cases h
 ·rename_i f first caps ho;exact GY hc ho h hn
 ·rename_i t x y ho
  split at h
  ·rename_i e ht;exact EV hT hc ho ht h hn
  ·cases h
 ·rename_i t x lo hi mx ho
  split at h
  ·rename_i τ ht;exact QL hT hc ho ht h hn
  ·cases h
 ·rename_i t x n ho
  split at h
  ·rename_i τ ht
   split at h
   ·rename_i id p hx;exact w1 hT hc ho ht hx h hn
   ·rename_i υ z hx;exact vr hT hc ho ht hx h hn
   ·cases h
  ·cases h
 ·rename_i t x n ho
  split at h
  ·rename_i τ ht
   split at h
   ·rename_i υ z hx;exact QD hT hc ho ht hx h hn
   ·cases h
  ·cases h
 ·rename_i t x i ho
  split at h
  ·rename_i τ ht;exact ET hT hc ho ht h hn
  ·cases h
 ·rename_i t x i ho
  split at h
  ·rename_i τ ht;exact QI hT hc ho ht h hn
  ·cases h
 ·rename_i x i ho
  split at h
  ·rename_i vs hx
   split at h
   ·rename_i v hv;exact KU hc ho hx hv h hn
   ·cases h
  ·cases h
 ·rename_i cl ho
  obtain⟨callee,args,ts⟩:=cl
  simp only at h
  split at h
  ·split at h
   ·rename_i x τ ha ht;exact acr hT hc ho ha ht h hn
   ·cases h
  ·split at h
   ·rename_i x y t t' ha ht
    split at h
    ·rename_i e hte;exact Og hT hc ho ha ht hte h hn
    ·cases h
   ·cases h
  ·split at h
   ·rename_i x xs ha;exact aa5 hc true ho ha h hn
   ·cases h
  ·split at h
   ·rename_i x xs ha;exact aa5 hc false ho ha h hn
   ·cases h
  ·rename_i g
   split at h
   ·rename_i f caps hg;exact UM hE.ah0 hc ho hg h hn
   ·cases h
  ·cases h
 ·cases h
end VM
end
section
namespace VM
open Go
variable{P:Program}{E:Env}{o:Oper}{a:Act}{w:World}{M:Nat→Prop}{ν:Nat→Value}{σ:St}{c:Ctx}{α:Type}{r:α}{next:Act→World→Prop}{Q:Exit→Act→World→Prop}
theorem qB(σ:St)(d:Nat)(v:bb):(σ.put d v).T d=v:=by
 show cond (Nat.beq d d) v (σ.T d)=v
 rw[show Nat.beq d d=true from aBl d];rfl
theorem vy(σ:St){d i:Nat}(v:bb)(h:i≠d):(σ.put d v).T i=σ.T i:=by
 show cond (Nat.beq i d) v (σ.T i)=σ.T i
 have:Nat.beq i d=false:=by rw[←az6,aBU];exact h
 rw[this];rfl
theorem asJ(σ:St)(d:Nat)(v:bb):(σ.put d v).H=σ.H:=rfl
theorem Aw(σ:St)(d:Nat):σ.put d (σ.T d)=σ:=by
 obtain⟨T,H⟩:=σ
 unfold St.put
 congr 1
 funext i
 by_cases h:i=d
 ·subst h;show cond (Nat.beq i i) (T i) (T i)=T i;cases Nat.beq i i<;>rfl
 ·have:Nat.beq i d=false:=by rw[←az6,aBU];exact h
  rw[this];rfl
theorem Core.tr{tm:Array Value}(h:Core c σ tm w M ν){H':Nat→Option aS}{w':World}{M':Nat→Prop}{ν':Nat→Value}(t:Tr c σ.H w M ν H' w' M' ν'):Core c ⟨σ.T,H'⟩ tm w' M' ν':=
 ⟨t.mem,fun i=>VR.bD t.bD t.goes (h.tmp i)⟩
theorem Core.rH{tm:Array Value}(h:Core c σ tm w M ν){d:Option Nat}{x:bb}{v:Value}{io:List Nat}(hd:GC tm.size io d=true)(hx:VR w M σ.H ν x v)(ds:List Deferred):
  Core c (σ.rH d x) (({tmps:=tm,defers:=ds}:Act).put d v).tmps w M ν:=by
 cases d with
 |none=>exact h
 |some d=>
  have dH:d<tm.size:=by simp only[GC,ayQ,aCa]at hd;exact hd.1
  refine⟨h.mem,fun i=> ?_⟩
  show VR w M σ.H ν ((σ.put d x).T i) ((tm.setIfInBounds d v).getD i undef)
  by_cases hi:i=d
  ·subst hi
   rw[qB]
   simp[Array.getD,dH]
   exact hx
  ·rw[vy _ _ hi]
   have:=h.tmp i
   have he:(tm.setIfInBounds d v).getD i undef=tm.getD i undef:=by
    rw[azI,azI,aBm (aAu hi)]
   rw[he];exact this
def Inv(c:Ctx)(E:Env)(σ:St)(a:Act)(w:World):Prop:=(∃M ν,Core c σ a.tmps w M ν)∧a.tmps.size=E.nt∧a.defers=[]∧ ∀i∈E.io,a.tmps.getD i undef=c.arg i
theorem He(a:Act)(d:Option Nat)(v:Value):(a.put d v).tmps.size=a.tmps.size:=by
 cases d<;>simp[Act.put]
theorem put_defers(a:Act)(d:Option Nat)(v:Value):(a.put d v).defers=a.defers:=by
 cases d<;>rfl
theorem MY{d:Option Nat}{v:Value}{io:List Nat}{n:Nat}(hd:GC n io d=true){i:Nat}(hi:i∈io):(a.put d v).tmps.getD i undef=a.tmps.getD i undef:=by
 cases d with
 |none=>rfl
 |some d=>
  simp only[GC,ayQ,azZ]at hd
  have h1:=hd.2 i hi
  have gq:i≠d:=by
   intro e;subst e
   simp at h1
  show(a.tmps.setIfInBounds d v).getD i undef=_
  rw[azI,azI,aBm (aAu gq)]
theorem Inv.bool(h:Inv c E σ a w){x:Operand}{b:Bool}(hx:σ.ρ x= .val .bool b):a.eval x= .bool b:=by
 obtain⟨⟨M,ν,hc⟩,_,_,_⟩:=h
 have:=hc.ev x
 rw[hx]at this
 exact this.bool
theorem xY(hE:o3 P E){ops:Array Oper}(hI:Inv c E σ a w){K:St→List Nat→List Nat→Option α}(h:pO E ops.toList o σ K=some r)
  (hn: ∀σ' a' w' rd wr,K σ' rd wr=some r→Inv c E σ' a' w'→next a' w'):
  if Region.wanted o (yielded ops a.tmps)then o.wp P a w next Q else next (a.put o.dst undef) w:=by
 unfold pO at h
 obtain⟨hd,h⟩:=bP h
 have cT:pL E o σ.ρ σ.H (fun v rd ups=>K ((σ.rS ups).rH o.dst v) rd (ups.map (·.1)))=some r→o.wp P a w next Q:=by
  intro h
  obtain⟨⟨M,ν,hc⟩,hs,acN,tI⟩:=hI
  refine On hE hc h fun v rd ups v' w' M' ν' hK fg hV=> ?_
  refine hn _ _ _ _ _ hK ⟨⟨M',ν',?_⟩,by rw[He,hs],by rw[put_defers,acN],fun i hi=>(MY hd hi).trans (tI i hi)⟩
  have h1:=hc.tr fg
  have h2:σ.rS ups=⟨σ.T,ch σ.H ups⟩:=by rw[←KP,←KQ ups σ]
  rw[h2]
  exact h1.rH (by rw[hs];exact hd) hV a.defers
 have o4: ∀rd wr,K (σ.rH o.dst .Qu) rd wr=some r→next (a.put o.dst undef) w:=by
  intro rd wr h
  obtain⟨⟨M,ν,hc⟩,hs,acN,tI⟩:=hI
  refine hn _ _ _ _ _ h ⟨⟨M,ν,hc.rH (by rw[hs];exact hd) (by simp[VR]) a.defers⟩,by rw[He,hs],by rw[put_defers,acN],fun i hi=>(MY hd hi).trans (tI i hi)⟩
 simp only at h
 split at h
 ·rename_i hg
  have:Region.wanted o (yielded ops a.tmps)=true:=by simp[Region.wanted,hg]
  rw[ayF this]
  exact cT h
 ·rename_i j want hg
  split at h
  ·cases h
  ·rename_i t ht
   have ht':(ops[j]?).bind (·.dst)=some t:=by rw[←azh];exact ht
   have hy: ∀b,σ.T t= .val .bool b→yielded ops a.tmps j=some b:=by
    intro b hb
    obtain⟨⟨M,ν,hc⟩,hs,_,_⟩:=hI
    have h1:=hc.tmp t
    rw[hb]at h1
    have h1:=h1.bool
    have h2:a.tmps[t]? =some (.bool b):=by
     rw[azI]at h1
     cases h3:a.tmps[t]? with
     |none=>rw[h3]at h1;simp[undef]at h1
     |some v=>rw[h3]at h1;simpa using h1
    simp[yielded,ht',h2]
   split at h
   ·rename_i b hb
    have mZ:σ.put t (.val .bool b)=σ:=by rw[←hb];exact Aw σ t
    have hw:=hy b hb
    cases want<;>cases b
    ·rw[ayF (by simp[Region.wanted,hg,hw])]
     rw[mZ]at h;exact cT h
    ·rw[ayE (by simp[Region.wanted,hg,hw])]
     rw[mZ]at h;exact o4 _ _ h
    ·rw[ayE (by simp[Region.wanted,hg,hw])]
     rw[mZ]at h;exact o4 _ _ h
    ·rw[ayF (by simp[Region.wanted,hg,hw])]
     rw[mZ]at h;exact cT h
   ·rename_i hb
    have yY: ¬Region.wanted o (yielded ops a.tmps)=true:=by
     obtain⟨⟨M,ν,hc⟩,hs,_,_⟩:=hI
     have h1:=hc.tmp t
     rw[hb]at h1
     simp only[VR]at h1
     have h2: ∀b,a.tmps[t]? ≠some (.bool b):=by
      intro b dN
      rw[azI,dN]at h1
      simp[undef]at h1
     have h3:yielded ops a.tmps j=none:=by
      unfold yielded
      rw[ht']
      show(match a.tmps[t]? with|some (.bool b)=>some b|_=>none)=none
      split
      ·rename_i b dN;exact absurd dN (h2 b)
      ·rfl
     simp[Region.wanted,hg,h3]
    rw[ayE yY]
    exact o4 _ _ h
   ·cases h
theorem Ax(hE:o3 P E){ops:Array Oper}: ∀(l:List Oper) (i:Nat) (σ:St) (lg:Log) (a:Act) (w:World) (K:St→Log→Option α),Inv c E σ a w→N3 E ops.toList l i σ lg K=some r→
  (∀σ' lg' a' w',K σ' lg'=some r→Inv c E σ' a' w'→Q .normal a' w')→wpList P ops Q l a w
 |[],i,σ,lg,a,w,K,hI,h,hn=>hn _ _ _ _ h hI
 |o::l,i,σ,lg,a,w,K,hI,h,hn=>by
  unfold N3 at h
  refine wpList_step fun K' hK'=> ?_
  exact xY hE hI h fun σ' a' w' rd wr h' tY=>hK' _ _ (Ax hE l (i+1) σ' _ a' w' K tY h' hn)
theorem Hf(hI:Inv c E σ a w){x:Operand}{A B:St→Option α}(h:De E x σ A B=some r): ∃b,a.eval x= .bool b∧(if b then A σ else B σ)=some r:=by
 unfold De at h
 split at h
 ·rename_i b hb
  refine⟨b,hI.bool hb,?_⟩
  split at h
  ·rename_i t
   have hb:σ.T t= .val .bool b:=hb
   have mZ:σ.put t (.val .bool b)=σ:=by rw[←hb];exact Aw σ t
   cases b
   ·rw[mZ]at h;exact h
   ·rw[mZ]at h;exact h
  ·cases b<;>exact h
 ·cases h
end VM
end
section
namespace VM
open Go
variable{P:Program}{E:Env}{o:Oper}{a:Act}{w:World}{M:Nat→Prop}{ν:Nat→Value}{σ:St}{c:Ctx}{α:Type}{r:α}{next:Act→World→Prop}{Q:Exit→Act→World→Prop}
def mix{β:Type}(A B:Nat→β):Nat→β:=fun i=>if i%2=0 then A (i/2)else B (i/2)
theorem fi{β:Type}(A B:Nat→β)(i:Nat):mix A B (2*i)=A i:=by
 unfold mix
 rw[ayF (by omega),show 2*i/2=i from by omega]
theorem rB{β:Type}(A B:Nat→β)(i:Nat):mix A B (2*i+1)=B i:=by
 unfold mix
 rw[ayE (by omega),show(2*i+1)/2=i from by omega]
theorem ag0{β:Type}{A B A' B':Nat→β}(hl: ∀i,A i=A' i)(hr: ∀i,B i=B' i):mix A B=mix A' B':=by
 funext i;unfold mix;rw[hl,hr]
def aS.re(f:Nat→Nat):aS→aS
 | .ej τ x p j=> .ej τ x p (f j)
 |e=>e
theorem ER.re{v:Value}{f:Nat→Nat}{e:aS}:ER w M v (e.re f)↔ER w M v e:=by cases e<;>simp[aS.re,ER]
theorem aS.nV{f:Nat→Nat}{e:aS}:(e.re f).mut↔e.mut:=by cases e<;>simp[aS.re,aS.mut]
theorem aS.MZ{f g:Nat→Nat}{e e':aS}:(e.re f).iE (e'.re g)↔e.iE e':=by cases e<;>cases e'<;>simp[aS.re,aS.iE]
def ml(i:Nat):Nat:=2*i
def mr(i:Nat):Nat:=2*i+1
def fP(A B:Nat→Option aS):Nat→Option aS:=fun i=>if i%2=0 then(A (i/2)).map (aS.re ml)else(B (i/2)).map (aS.re mr)
theorem uw(A B:Nat→Option aS)(i:Nat):fP A B (2*i)=(A i).map (aS.re ml):=by
 unfold fP
 rw[ayF (by omega),show 2*i/2=i from by omega]
theorem qC(A B:Nat→Option aS)(i:Nat):fP A B (2*i+1)=(B i).map (aS.re mr):=by
 unfold fP
 rw[ayE (by omega),show(2*i+1)/2=i from by omega]
theorem fm{A B:Nat→Option aS}{i:Nat}{e:aS}(h:A i=some e):fP A B (2*i)=some (e.re ml):=by rw[uw,h];rfl
theorem qD{A B:Nat→Option aS}{i:Nat}{e:aS}(h:B i=some e):fP A B (2*i+1)=some (e.re mr):=by rw[qC,h];rfl
theorem E3{A B:Nat→Option aS}{i:Nat}:fP A B (2*i)≠none↔A i≠none:=by rw[uw];cases A i<;>simp
theorem E4{A B:Nat→Option aS}{i:Nat}:fP A B (2*i+1)≠none↔B i≠none:=by rw[qC];cases B i<;>simp
theorem nW(A B:Nat→Option aS)(i:Nat)(v:Option aS):bz (fP A B) (2*i) (v.map (aS.re ml))=fP (bz A i v) B:=by
 funext k
 by_cases hk:k=2*i
 ·subst hk;rw[al,uw,al]
 ·rw[an _ _ hk]
  unfold fP
  by_cases h2:k%2=0
  ·rw[ayF h2,ayF h2,an _ _ (by omega)]
  ·rw[ayE h2,ayE h2]
theorem Ay(A B:Nat→Option aS)(i:Nat)(v:Option aS):bz (fP A B) (2*i+1) (v.map (aS.re mr))=fP A (bz B i v):=by
 funext k
 by_cases hk:k=2*i+1
 ·subst hk;rw[al,qC,al]
 ·rw[an _ _ hk]
  unfold fP
  by_cases h2:k%2=0
  ·rw[ayF h2,ayF h2]
  ·rw[ayE h2,ayE h2,an _ _ (by omega)]
theorem Az(A B:Nat→Value)(i:Nat)(v:Value):cF (mix A B) (2*i+1) v=mix A (cF B i v):=by
 funext k
 unfold cF mix
 by_cases hk:k=2*i+1
 ·subst hk;rw[ayF rfl,ayE (by omega)]
  show v=if(2*i+1)/2=i then v else B ((2*i+1)/2)
  rw[ayF (by omega)]
 ·rw[ayE hk]
  by_cases h2:k%2=0
  ·rw[ayF h2,ayF h2]
  ·rw[ayE h2,ayE h2]
   show B (k/2)=if k/2=i then v else B (k/2)
   rw[ayE (by omega)]
theorem Mem.left{H A:Nat→Option aS}{νA:Nat→Value}(h:Mem c (fP H A) w M (mix ν νA)):Mem c H w M ν:=
 ⟨fun i e hi=>by have:=h.jr (2*i) _ (fm hi);rw[fi]at this;exact ER.re.1 this,
  fun i j e e' b oY hi hm hj gY=>by have:=h.wO (2*i) (2*j) _ _ b (by omega) (fm hi) (aS.nV.2 hm) (fm hj) (aS.nV.2 gY);rwa [fi,fi]at this,
  fun i e b hi hm=>by have:=h.new (2*i) _ b (fm hi) (aS.nV.2 hm);rwa [fi]at this,
  fun i e l b hi=>by have:=h.u9 (2*i) e l b (fm hi);rwa [fi]at this,
  fun i τ x p j hi=>by
   obtain⟨h1,b,h2,h3⟩:=h.ej (2*i) τ x p (ml j) (fm hi)
   rw[fi]at h2
   unfold ml at h1 h3
   rw[fi]at h3
   exact⟨E3.1 h1,b,h2,h3⟩,
  h.sub,h.Ab,h.frame,h.size,h.rM,h.os,h.tape,h.output⟩
theorem Mem.right{H A:Nat→Option aS}{νA:Nat→Value}(h:Mem c (fP H A) w M (mix ν νA)):Mem c A w M νA:=
 ⟨fun i e hi=>by have:=h.jr (2*i+1) _ (qD hi);rw[rB]at this;exact ER.re.1 this,
  fun i j e e' b oY hi hm hj gY=>by have:=h.wO (2*i+1) (2*j+1) _ _ b (by omega) (qD hi) (aS.nV.2 hm) (qD hj) (aS.nV.2 gY);rwa [rB,rB]at this,
  fun i e b hi hm=>by have:=h.new (2*i+1) _ b (qD hi) (aS.nV.2 hm);rwa [rB]at this,
  fun i e l b hi=>by have:=h.u9 (2*i+1) e l b (qD hi);rwa [rB]at this,
  fun i τ x p j hi=>by
   obtain⟨h1,b,h2,h3⟩:=h.ej (2*i+1) τ x p (mr j) (qD hi)
   rw[rB]at h2
   unfold mr at h1 h3
   rw[rB]at h3
   exact⟨E4.1 h1,b,h2,h3⟩,
  h.sub,h.Ab,h.frame,h.size,h.rM,h.os,h.tape,h.output⟩
theorem Mem.UN{H:Nat→Option aS}(νA:Nat→Value)(h:Mem c H w M ν):Mem c (fP H (fun _=>none)) w M (mix ν νA):=by
 have key: ∀i e,fP H (fun _=>none) i=some e→ ∃j e0,i=2*j∧H j=some e0∧e=e0.re ml:=by
  intro i e hi
  unfold fP at hi
  by_cases h2:i%2=0
  ·rw[ayF h2]at hi
   obtain⟨e0,h3,h4⟩:=aAP.1 hi
   exact⟨i/2,e0,by omega,h3,h4.symm⟩
  ·rw[ayE h2]at hi;cases hi
 refine⟨fun i e hi=> ?_,fun i j e e' b oY hi hm hj gY=> ?_,fun i e b hi hm=> ?_,fun i e l b hi=> ?_,fun i τ x p j hi=> ?_,h.sub,h.Ab,h.frame,h.size,h.rM,h.os,h.tape,h.output⟩
 ·obtain⟨j,e0,rfl,hj,rfl⟩:=key i e hi;rw[fi];exact ER.re.2 (h.jr j e0 hj)
 ·obtain⟨i',e1,rfl,lR,rfl⟩:=key i e hi;obtain⟨j',e2,rfl,Ua,rfl⟩:=key j e' hj
  rw[fi,fi];exact h.wO i' j' e1 e2 b (by omega) lR (aS.nV.1 hm) Ua (aS.nV.1 gY)
 ·obtain⟨j,e0,rfl,hj,rfl⟩:=key i e hi;rw[fi];exact h.new j e0 b hj (aS.nV.1 hm)
 ·obtain⟨j,e0,rfl,hj,he⟩:=key i _ hi
  cases e0<;>simp only[aS.re]at he<;>cases he
  rw[fi];exact h.u9 j e l b hj
 ·obtain⟨k,e0,rfl,hk,he⟩:=key i _ hi
  cases e0<;>simp only[aS.re]at he<;>cases he
  obtain⟨h1,b,h2,h3⟩:=h.ej k _ _ _ _ hk
  refine⟨E3.2 h1,b,by rw[fi];exact h2,?_⟩
  unfold ml
  rw[fi];exact h3
theorem pC.left{H A H' A':Nat→Option aS}{νA ν' Oo:Nat→Value}(g:pC (fP H A) (mix ν νA) (fP H' A') (mix ν' Oo)):pC H ν H' ν':=
 ⟨fun i e hi=>by
   obtain⟨e',h1,h2⟩:=g.jr (2*i) _ (fm hi)
   rw[uw]at h1
   obtain⟨e0,h3,rfl⟩:=aAP.1 h1
   exact⟨e0,h3,aS.MZ.1 h2⟩,
  fun i hi=>by have:=g.head (2*i) (E3.2 hi);rwa [fi,fi]at this⟩
theorem pC.right{H A H' A':Nat→Option aS}{νA ν' Oo:Nat→Value}(g:pC (fP H A) (mix ν νA) (fP H' A') (mix ν' Oo)):pC A νA A' Oo:=
 ⟨fun i e hi=>by
   obtain⟨e',h1,h2⟩:=g.jr (2*i+1) _ (qD hi)
   rw[qC]at h1
   obtain⟨e0,h3,rfl⟩:=aAP.1 h1
   exact⟨e0,h3,aS.MZ.1 h2⟩,
  fun i hi=>by have:=g.head (2*i+1) (E4.2 hi);rwa [rB,rB]at this⟩
theorem Mem.move{H A:Nat→Option aS}{νA:Nat→Value}(h:Mem c (fP H A) w M (mix ν νA)){i j:Nat}{e e1:aS}(hi:H i=some e)(hm:e.mut)(hj:A j=none)
  (KS:(e1=e∧ ∀τ x p k,e≠ .ej τ x p k)∨ ∃τ x p k k',e= .ej τ x p k∧e1= .ej τ x p k'∧A k'≠none∧νA k'=ν k):
  Tr c (fP H A) w M (mix ν νA) (fP (bz H i (some .gone)) (bz A j (some e1))) w M (mix ν (cF νA j (ν i))):=by
 have hg:=Tr.gone h (2*i)
 have hgo:(some aS.gone)=(some aS.gone).map (aS.re ml):=rfl
 rw[hgo,nW]at hg
 have Qi:=fm (B:=A) hi
 have hER:ER w M (ν i) (e1.re mr):=by
  have h1:=h.jr (2*i) _ Qi
  rw[fi]at h1
  have h1:=ER.re.1 h1
  rcases KS with⟨rfl,_⟩|⟨τ,x,p,k,k',rfl,rfl,_,_⟩
  ·exact ER.re.2 h1
  ·exact h1
 have h2:=Mem.xW hg.mem (id:=2*j+1) (v:=ν i) (e:=e1.re mr) (fun e' tV=>by rw[qC,hj]at tV;cases tV)
  hER
  (fun b hb k e' hk gY=>by
   by_cases T8:k=2*i
   ·subst T8;rw[uw,al]at hk;cases hk;simp[aS.re,aS.mut]at gY
   ·have hk3:fP H A k=some e':=by
     have:=congrFun (nW H A i (some .gone)) k
     rw[an _ _ T8]at this
     rw[this];exact hk
    have:=h.wO (2*i) k _ e' b (aAu T8) Qi (aS.nV.2 hm) hk3 gY
    rw[fi]at this
    exact this hb)
  (fun b hb=>by have:=h.new (2*i) _ b Qi (aS.nV.2 hm);rw[fi]at this;exact this hb)
  (fun b e0 l0 he hb=>by
   rcases KS with⟨rfl,_⟩|⟨τ,x,p,k,k',rfl,rfl,_,_⟩
   ·cases e1<;>simp only[aS.re]at he<;>cases he
    have:=h.u9 (2*i) e0 l0 b Qi;rw[fi]at this;exact this hb
   ·simp[aS.re]at he)
  (.inl (by rw[qC,hj];rfl))
  (fun τ x p k he=>by
   rcases KS with⟨rfl,hn⟩|⟨τ,x,p,k,k',rfl,rfl,hk,hνk⟩
   ·cases e1<;>simp only[aS.re]at he<;>cases he
    exact absurd rfl (hn _ _ _ _)
   ·simp only[aS.re]at he
    cases he
    obtain⟨_,b,h4,h5⟩:=h.ej (2*i) _ _ _ _ Qi
    rw[fi]at h4
    have hkj:k'≠j:=fun e=>hk (e▸hj)
    refine⟨?_,b,h4,?_⟩
    ·rw[an _ _ (by unfold mr;omega)]
     unfold mr
     exact E4.2 hk
    ·unfold ml at h5
     rw[fi]at h5
     rw[h5,←hνk]
     have:cF (mix ν νA) (2*j+1) (ν i) (mr k')=mix ν νA (mr k'):=by
      unfold cF mr;rw[ayE (by omega)]
     rw[this];unfold mr;rw[rB])
 have UO:some (e1.re mr)=(some e1).map (aS.re mr):=rfl
 rw[UO,Ay,Az]at h2
 refine⟨h2,.refl w M,⟨fun k e' hk=> ?_,fun k hk=> ?_⟩⟩
 ·by_cases h3:k%2=0
  ·obtain⟨k',rfl⟩: ∃k',k=2*k':=⟨k/2,by omega⟩
   by_cases Av:k'=i
   ·subst Av;exact⟨.gone,by rw[uw,al];rfl,aS.kY _⟩
   ·exact⟨e',by rw[uw]at hk ⊢;rw[an _ _ Av];exact hk,.refl e'⟩
  ·obtain⟨k',rfl⟩: ∃k',k=2*k'+1:=⟨k/2,by omega⟩
   rw[qC]at hk ⊢
   have Av:k'≠j:=fun e=>by rw[e,hj]at hk;cases hk
   exact⟨e',by rw[an _ _ Av];exact hk,.refl e'⟩
 ·by_cases h3:k%2=0
  ·obtain⟨k',rfl⟩: ∃k',k=2*k':=⟨k/2,by omega⟩
   rw[fi,fi]
  ·obtain⟨k',rfl⟩: ∃k',k=2*k'+1:=⟨k/2,by omega⟩
   rw[rB,rB]
   have Av:k'≠j:=fun e=>by rw[qC,e,hj]at hk;exact hk rfl
   simp[cF,Av]
theorem Mem.fresh{H A:Nat→Option aS}{νA:Nat→Value}(h:Mem c (fP H A) w M (mix ν νA)){j:Nat}(hj:A j=none)(e:Ty)(ad:Option Addr):
  Tr c (fP H A) w M (mix ν νA) (fP H (bz A j (some (.own e [])))) w M (mix ν (cF νA j (.slice ad 0 0))):=by
 have:=Tr.nothing h (id:=2*j+1) (by rw[qC,hj];rfl) e ad
 have UO:some (aS.own e [])=(some (aS.own e [])).map (aS.re mr):=rfl
 rw[UO,Ay,Az]at this
 exact this
structure Cut(c:Ctx)(σ acc:St)(tm:Array Value)(w:World)(M:Nat→Prop)(ν νA:Nat→Value):Prop where
 mem:Mem c (fP σ.H acc.H) w M (mix ν νA)
 src: ∀i,VR w M σ.H ν (σ.T i) (tm.getD i undef)
 dst: ∀i,VR w M acc.H νA (acc.T i) (tm.getD i undef)
theorem Cut.tr{acc:St}{tm:Array Value}{νA:Nat→Value}(h:Cut c σ acc tm w M ν νA){H' A':Nat→Option aS}{M':Nat→Prop}{Oo:Nat→Value}(t:Tr c (fP σ.H acc.H) w M (mix ν νA) (fP H' A') w M' (mix ν Oo)){s:Nat}{x:bb}(hx:VR w M' A' Oo x (tm.getD s undef)):
  Cut c ⟨σ.T,H'⟩ ⟨(acc.put s x).T,A'⟩ tm w M' ν Oo:=by
 refine⟨t.mem,fun i=>VR.bD t.bD t.goes.left (h.src i),fun i=> ?_⟩
 show VR w M' A' Oo ((acc.put s x).T i) _
 by_cases hi:i=s
 ·subst hi;rw[qB];exact hx
 ·rw[vy _ _ hi];exact VR.bD t.bD t.goes.right (h.dst i)
def QT(A:Nat→Option aS)(s:Nat):Prop:=A (16*s+13)=none∧A (16*s+14)=none∧A (16*s+15)=none
theorem jc{q:Nat×CM}{L:List (Nat×CM)}{A:Nat→Option aS}(hF:gJ (q::L)=true)(hN: ∀p∈q::L,QT A p.1):
  gJ L=true∧(∀p∈L,QT A p.1)∧
   ∀(A':Nat→Option aS) (d:Nat) (v:Option aS),(d=16*q.1+13∨d=16*q.1+14∨d=16*q.1+15)→(∀p∈L,QT A' p.1)→ ∀p∈L,QT (bz A' d v) p.1:=by
 unfold gJ at hF
 rw[ayQ,azZ]at hF
 refine⟨hF.2,fun p hp=>hN p (ayK _ hp),fun A' d v hd hN' p hp=> ?_⟩
 have gq:p.1≠q.1:=fun e=>by
  have:=hF.1 p hp
  rw[e]at this
  simp at this
 obtain⟨h1,h2,h3⟩:=hN' p hp
 exact⟨by rw[an _ _ (by omega)];exact h1,by rw[an _ _ (by omega)];exact h2,by rw[an _ _ (by omega)];exact h3⟩
theorem du{tm:Array Value}: ∀(L:List (Nat×CM)) (σ acc:St) (M:Nat→Prop) (νA:Nat→Value) (K:St→Option α),Cut c σ acc tm w M ν νA→gJ L=true→(∀q∈L,QT acc.H q.1)→e8 L σ acc K=some r→
  ∃UP M' Oo,K UP=some r∧Core c UP tm w M' Oo
 |[],σ,acc,M,νA,K,hC,_,_,h=>⟨acc,M,νA,h,hC.mem.right,hC.dst⟩
 |(s,.v τ)::L,σ,acc,M,νA,K,hC,hF,hN,h=>by
  obtain⟨Gu,Kx,Oq⟩:=jc hF hN
  unfold e8 at h
  obtain⟨y,rd,ups,h,hy⟩:=zD hC.mem.left (hC.src s) h
  rcases hy with⟨rfl,hV⟩|⟨id,e,l,rfl,aV,hV⟩
  ·exact du L σ _ M νA K (hC.tr (.refl hC.mem) (x:= .val τ y) (by simp only[VR];exact hV)) Gu Kx h
  ·obtain⟨M2,fg,_,EP⟩:=Tr.freeze hC.mem (id:=2*id) (fm aV)
   have UO:some (aS.lF e l)=(some (aS.lF e l)).map (aS.re ml):=rfl
   rw[UO,nW]at fg
   refine du L _ _ M2 νA K (hC.tr fg (x:= .val τ y) ?_) Gu Kx h
   simp only[VR]
   exact hV M2 (fun b=>by rw[EP b,fi])
 |(s,.own e)::L,σ,acc,M,νA,K,hC,hF,hN,h=>by
  obtain⟨Gu,Kx,Oq⟩:=jc hF hN
  unfold e8 at h
  have hs:=hC.src s
  split at h
  ·rename_i hT
   have hj:=(hN _ ayN).2.1
   rw[hT]at hs
   obtain⟨ad,hv⟩:=VR.emp.1 hs
   refine du L σ _ M _ K (hC.tr (hC.mem.fresh hj e ad) (x:= .ref (16*s+14)) ?_) Gu (Oq _ _ _ (.inr (.inl rfl)) Kx) h
   simp only[VR]
   exact⟨by rw[al];simp,by rw[hv];simp[cF]⟩
  ·rename_i id hT
   rw[hT]at hs
   simp only[VR]at hs
   split at h
   ·rename_i e' l aV
    obtain⟨e1,h⟩:=bg h
    cases e1
    have hj:=(hN _ ayN).2.1
    refine du L _ _ M _ K (hC.tr (hC.mem.move aV trivial hj (.inl ⟨rfl,fun _ _ _ _=>by simp⟩)) (x:= .ref (16*s+14)) ?_) Gu (Oq _ _ _ (.inr (.inl rfl)) Kx) h
    simp only[VR]
    exact⟨by rw[al];simp,by rw[hs.2];simp[cF]⟩
   ·cases h
  ·cases h
 |(s,.obj τ)::L,σ,acc,M,νA,K,hC,hF,hN,h=>by
  obtain⟨Gu,Kx,Oq⟩:=jc hF hN
  unfold e8 at h
  have hs:=hC.src s
  split at h
  ·rename_i id hT
   rw[hT]at hs
   split at h
   ·rename_i υ x aV
    obtain⟨e1,h⟩:=bg h
    subst e1
    have hj:=(hN _ ayN).2.1
    simp only[VR]at hs
    obtain⟨e,he,kJ⟩:=hs
    rw[aV]at he;cases he
    simp only[AR]at kJ
    obtain⟨_,b,hb,hv⟩:=kJ
    refine du L _ _ M _ K (hC.tr (hC.mem.move aV trivial hj (.inl ⟨rfl,fun _ _ _ _=>by simp⟩)) (x:= .fW (16*s+14) []) ?_) Gu (Oq _ _ _ (.inr (.inl rfl)) Kx) h
    simp only[VR]
    exact⟨_,al _ _ _,trivial,b,by simp[cF,hb],hv⟩
   ·
    rename_i υ x q k aV
    obtain⟨z,ups,M2,hK,fg,ah1,b,cs,t,hb,hg,EP,iu⟩: ∃z ups M2,cv υ τ z (fun y=>e8 L ((σ.rS ups).ix id (some .gone)) ((acc.put s (.fW (16*s+14) [])).ix (16*s+14) (some (.obj τ y))) K)=some r∧
      Tr c (fP σ.H acc.H) w M (mix ν νA) (fP (ch σ.H ups) acc.H) w M2 (mix ν νA)∧ch σ.H ups id=some (.ej υ x q k)∧ ∃b cs t,ν id= .pointer (some ⟨b,0,none⟩)∧w.heap[b]? =some (.cells cs t (0,0))∧M2 b∧Rd w M2 υ cs.toList z:=by
     have ah2:=fm (B:=acc.H) aV
     unfold yR at h
     split at h
     ·rename_i e l hk
      have gq:id≠k:=fun e=>by rw[e,hk]at aV;cases aV
      obtain⟨z,ups,M2,hK,fg,_,hc2,b,cs,t,hb,hg,EP,iu⟩:=uu (H:=fP σ.H acc.H) hC.mem (id:=2*id) (j:=2*k) (x:=x) (q:=q)
       (k:=fun z _=>cv υ τ z fun y=>e8 L ((σ.rS [(k,some (.lF e l))]).ix id (some .gone)) ((acc.put s (.fW (16*s+14) [])).ix (16*s+14) (some (.obj τ y))) K) ah2 (by
        unfold yR
        rw[fm hk]
        exact h)
      rw[fi]at hb
      rcases hc2 with⟨e2,l2,h2,_⟩|⟨e2,l2,h2,rfl⟩
      ·rw[fm hk]at h2;simp[aS.re]at h2
      ·rw[fm hk]at h2
       simp only[aS.re,azz]at h2
       have UO:some (aS.lF e l)=(some (aS.lF e l)).map (aS.re ml):=rfl
       have sd:Tr c (fP σ.H acc.H) w M (mix ν νA) (bz (fP σ.H acc.H) (2*k) (some (.lF e l))) w M2 (mix ν νA):=by
        cases h2;exact fg
       rw[UO,nW]at sd
       exact⟨z,_,M2,hK,sd,by show bz σ.H k _ id=_;rw[an _ _ gq];exact aV,b,cs,t,hb,hg,EP,iu⟩
     ·rename_i e l hk
      obtain⟨z,ups,M2,hK,fg,_,hc2,b,cs,t,hb,hg,EP,iu⟩:=uu (H:=fP σ.H acc.H) hC.mem (id:=2*id) (j:=2*k) (x:=x) (q:=q)
       (k:=fun z _=>cv υ τ z fun y=>e8 L ((σ.rS []).ix id (some .gone)) ((acc.put s (.fW (16*s+14) [])).ix (16*s+14) (some (.obj τ y))) K) ah2 (by
        unfold yR
        rw[fm hk]
        exact h)
      rw[fi]at hb
      rcases hc2 with⟨e2,l2,h2,rfl⟩|⟨e2,l2,h2,_⟩
      ·exact⟨z,[],M2,hK,fg,aV,b,cs,t,hb,hg,EP,iu⟩
      ·rw[fm hk]at h2;simp[aS.re]at h2
     ·cases h
    obtain⟨e1,hK⟩:=bg hK
    subst e1
    have hC2:Cut c ⟨σ.T,ch σ.H ups⟩ acc tm w M2 ν νA:=⟨fg.mem,fun i=>VR.bD fg.bD fg.goes.left (hC.src i),fun i=>VR.bD fg.bD fg.goes.right (hC.dst i)⟩
    have rN:=Tr.N6 (e':= .obj υ z) fg.mem (fm ah1) trivial trivial rfl (fun _ _=>by simp) (by rw[fi];simp only[ER];exact⟨b,cs,t,hb,hg,EP,iu⟩) (fun _ _ _ _ h=>by cases h)
    have UO:some (aS.obj υ z)=(some (aS.obj υ z)).map (aS.re ml):=rfl
    rw[UO,nW]at rN
    have hC3:Cut c ⟨σ.T,bz (ch σ.H ups) id (some (.obj υ z))⟩ acc tm w M2 ν νA:=⟨rN.mem,fun i=>VR.bD rN.bD rN.goes.left (hC2.src i),fun i=>VR.bD rN.bD rN.goes.right (hC2.dst i)⟩
    have hj:=(hN _ ayN).2.1
    simp only[VR]at hs
    obtain⟨e,he,kJ⟩:=hs
    rw[aV]at he;cases he
    simp only[AR]at kJ
    obtain⟨_,b',dN,hv⟩:=kJ
    rw[hb]at dN;cases dN
    have hmv:=hC3.mem.move (al _ _ _) trivial hj (.inl ⟨rfl,fun _ _ _ _=>by simp⟩)
    rw[ur]at hmv
    have Kq:(σ.rS ups).ix id (some .gone)=⟨σ.T,bz (ch σ.H ups) id (some .gone)⟩:=by
     have h2:σ.rS ups=⟨σ.T,ch σ.H ups⟩:=by rw[←KP,←KQ ups σ]
     rw[h2];rfl
    rw[Kq]at hK
    refine du L _ _ M2 _ K (hC3.tr hmv (x:= .fW (16*s+14) []) ?_) Gu (Oq _ _ _ (.inr (.inl rfl)) Kx) hK
    simp only[VR]
    exact⟨_,al _ _ _,trivial,b,by simp[cF,hb],hv⟩
   ·cases h
  ·cases h
 |(s,.ej τ q e)::L,σ,acc,M,νA,K,hC,hF,hN,h=>by
  obtain⟨Gu,Kx,Oq⟩:=jc hF hN
  unfold e8 at h
  have hs:=hC.src s
  split at h
  ·rename_i id hT
   rw[hT]at hs
   split at h
   ·rename_i υ x q' k aV
    obtain⟨hpq,h1⟩:=bP h
    clear h
    have:=wW hpq
    subst this
    split at h1
    ·rename_i e' l hk
     obtain⟨e1,h2⟩:=bg h1
     clear h1
     subst e1
     obtain⟨e2,h⟩:=bg h2
     cases e2
     have gq:id≠k:=fun e=>by rw[e,hk]at aV;cases aV
     obtain⟨anE,anF,_⟩:=hN _ ayN
     simp only[VR]at hs
     obtain⟨e,he,kJ⟩:=hs
     rw[aV]at he;cases he
     simp only[AR]at kJ
     obtain⟨_,b,hb,hv⟩:=kJ
     have pS:=hC.mem.move hk trivial anE (.inl ⟨rfl,fun _ _ _ _=>by simp⟩)
     have mG:bz σ.H k (some .gone) id=some (.ej υ x q k):=by rw[an _ _ gq];exact aV
     have vl:=pS.mem.move mG trivial (j:=16*s+14) (e1:= .ej υ x q (16*s+13)) (by rw[an _ _ (by omega)];exact anF)
      (.inr ⟨υ,x,q,k,16*s+13,rfl,rfl,by rw[al];simp,by simp[cF]⟩)
     refine du L _ _ M _ K (hC.tr (pS.trans vl) (s:=s) (x:= .fW (16*s+14) []) ?_) Gu (Oq _ _ _ (.inr (.inl rfl)) (Oq _ _ _ (.inl rfl) Kx)) h
     simp only[VR]
     exact⟨_,al _ _ _,trivial,b,by simp[cF,hb],hv⟩
    ·cases h1
   ·cases h
  ·cases h
 |(s,.same s')::L,σ,acc,M,νA,K,hC,hF,hN,h=>by
  obtain⟨Gu,Kx,Oq⟩:=jc hF hN
  unfold e8 at h
  split at h
  ·rename_i i j j' h1 h2 h3
   obtain⟨hb,h⟩:=bP h
   have hb:=ay9 hb
   have e1:=hC.src s
   have e2:=hC.src s'
   have e3:=hC.dst s'
   rw[h1]at e1;rw[h2]at e2;rw[h3]at e3
   simp only[VR]at e1 e2 e3
   refine du L σ _ M νA K (hC.tr (.refl hC.mem) (x:= .ref j') ?_) Gu Kx h
   simp only[VR]
   exact⟨e3.1,by rw[e1.2,hb,←e2.2,e3.2]⟩
  ·cases h
 |(s,.io τ)::L,σ,acc,M,νA,K,hC,hF,hN,h=>by
  obtain⟨Gu,Kx,Oq⟩:=jc hF hN
  unfold e8 at h
  have hs:=hC.src s
  split at h
  ·rename_i id hT
   rw[hT]at hs
   obtain⟨_,h⟩:=bP h
   split at h
   ·rename_i υ x aV
    obtain⟨e1,h⟩:=bg h
    subst e1
    have hj:=(hN _ ayN).2.2
    simp only[VR]at hs
    obtain⟨e,he,kJ⟩:=hs
    rw[aV]at he;cases he
    simp only[AR]at kJ
    obtain⟨_,b,hb,hv⟩:=kJ
    refine du L _ _ M _ K (hC.tr (hC.mem.move aV trivial hj (.inl ⟨rfl,fun _ _ _ _=>by simp⟩)) (x:= .fW (16*s+15) []) ?_) Gu (Oq _ _ _ (.inr (.inr rfl)) Kx) h
    simp only[VR]
    exact⟨_,al _ _ _,trivial,b,by simp[cF,hb],hv⟩
   ·cases h
  ·cases h
 |(s,.fn f τ)::L,σ,acc,M,νA,K,hC,hF,hN,h=>by
  obtain⟨Gu,Kx,Oq⟩:=jc hF hN
  unfold e8 at h
  have hs:=hC.src s
  split at h
  ·rename_i f' cs hT
   rw[hT]at hs
   obtain⟨hb,h1⟩:=bP h
   clear h
   have hb:=ay9 hb
   subst hb
   simp only[VR]at hs
   obtain⟨us,hv,UA⟩:=hs
   obtain⟨y,rd,ups,h,hy⟩:=Ar hC.mem.left UA h1
   split at h
   ·refine du L σ _ M νA K (hC.tr (.refl hC.mem) (x:= .GB f (mY τ y)) ?_) Gu Kx h
    simp only[VR]
    exact⟨us,hv,fX.free (hy rfl)⟩
   ·cases h
  ·cases h
theorem ux(hI:Inv c E σ a w){L:Option (List (Nat×CM))}(hL: ∀L',L=some L'→gJ L'=true){K:St→Option α}(h:rY L σ K=some r): ∃σ',K σ'=some r∧Inv c E σ' a w:=by
 unfold rY at h
 split at h
 ·exact⟨σ,h,hI⟩
 ·have T9:=hL _ rfl
  obtain⟨⟨M,ν,hc⟩,hs,hd⟩:=hI
  obtain⟨UP,M',Oo,hK,ah3⟩:=du (tm:=a.tmps) _ σ ⟨fun _=> .any,fun _=>none⟩ M (fun _=>undef) K ⟨hc.mem.UN _,hc.tmp,fun i=>by simp[VR]⟩ T9 (fun _ _=>⟨rfl,rfl,rfl⟩) h
  exact⟨UP,hK,⟨M',Oo,ah3⟩,hs,hd⟩
end VM
end
