/- A part of the proof of AwardPays of layer 25: a machine that reads a function of the program as an equation between values. -/
import Derived.Test.YtocmlaipoebfeaaGreatVm3
import Derived.Scope
set_option linter.all false
section
namespace VM
open Go
variable{P:Program}{E:Env}{o:Oper}{a:Act}{w:World}{M:Nat→Prop}{ν:Nat→Value}{σ:St}{c:Ctx}{α:Type}{r:α}{next:Act→World→Prop}{Q:Exit→Act→World→Prop}
theorem Mem.call{H:Nat→Option aR}(h:Mem c H w M ν){hs:List Nat}{M0 M':Nat→Prop}{w':World}(hM: ∀b,M0 b→M b)(hhs: ∀b∈hs,M b)
  (qR: ∀b∈hs,∀i e,H i=some e→e.mut→eA (ν i)≠some b) (jT: ∀b∈hs,c.B≤b∨c.may b) (sd: ∀b∈hs,c.M0 b→M' b) (L:Left w M0 hs w' M'):
  Mem c H w' (fun b=>M' b∨(M b∧b∉hs)) ν∧dh w M w' (fun b=>M' b∨(M b∧b∉hs)):=by
 have hk:dh w M w' (fun b=>M' b∨(M b∧b∉hs)):=by
  refine⟨L.size,fun b hb hm=>L.frame b hb (fun hh=>hm (hhs b hh)),fun b hb hm=> ?_⟩
  rcases hm with hm|hm
  ·exact(L.less b hb hm).elim (hM b) (hhs b)
  ·exact hm.1
 refine⟨⟨fun i e hi=>(h.iT i e hi).bp hk fun hm b hb=> ?_,h.vy,h.new,h.tY,mP h (fun _ _=>rfl) (fun _ h=>h) (fun i τ x p j hi=> .inl ⟨hi,fun b hb=> ?_⟩),fun b hb=> ?_,fun b hb=> ?_,fun b hb hm=> ?_,aut h.size L.size,h.qL,L.os.trans h.os,L.tape.trans h.tape,L.output.trans h.output⟩,hk⟩
 ·have Ys:=(h.iT i e hi).tg hm hb
  have xt:b∉hs:=fun hh=>qR b hh i e hi hm hb
  exact⟨L.frame b (h.yz b Ys) xt,.inr ⟨Ys,xt⟩⟩
 ·have tZ:eA (ν i)=some b:=by rw[hb];rfl
  have Ys:=(h.iT i _ hi).tg trivial tZ
  exact L.frame b (h.yz b Ys) (fun hh=>qR b hh i _ hi trivial tZ)
 ·by_cases hh:b∈hs
  ·exact .inl (sd b hh hb)
  ·exact .inr ⟨h.sub b hb,hh⟩
 ·rcases hb with hb|hb
  ·exact L.yz b hb
  ·exact auU (h.yz b hb.1) L.size
 ·have xt:b∉hs:=fun hh=>(jT b hh).elim (fun h'=>by omega) hm
  rw[L.frame b (auU hb h.size) xt]
  exact h.frame b hb hm
theorem Mem.wI{H:Nat→Option aR}(h:Mem c H w M ν){id:Nat}{v:Value}{e:aR}(aT: ∀e',H id=some e'→ ¬e'.mut)(KW:ER w M v e)
  (hd: ∀b,eA v=some b→ ∀i e',H i=some e'→e'.mut→eA (ν i)≠some b) (hn: ∀b,eA v=some b→c.B≤b∨c.may b) (ho: ∀b e0 l0,e= .own e0 l0→eA v=some b→ ¬c.M0 b)
  (hnv:H id=none∨v=ν id)
  (oK: ∀τ x p j,e= .dY τ x p j→bo H id (some e) j≠none∧ ∃b,v= .pointer (some ⟨b,0,none⟩)∧w.cell? ⟨b,bD p τ,none⟩=some (cn ν id v j):=by intro _ _ _ _ h;cases h):
  Mem c (bo H id (some e)) w M (cn ν id v):=by
 have hν: ∀i,i≠id→cn ν id v i=ν i:=fun i hi=>by simp[cn,hi]
 have xp:cn ν id v id=v:=by simp[cn]
 refine⟨fun i e1 hi=> ?_,fun i k e1 e2 b1 nX hi o6 hk ur=> ?_,fun i e1 b1 hi o6=> ?_,fun i e1 l1 b1 hi=> ?_,mP h (fun i hi=> ?_) sa (fun i τ x p j hi=> ?_),h.sub,h.yz,h.frame,h.size,h.qL,h.os,h.tape,h.output⟩
 ·by_cases br:i=id
  ·subst br;rw[ak]at hi;cases hi;rw[xp];exact KW
  ·rw[al _ _ br]at hi;rw[hν i br];exact h.iT i e1 hi
 ·by_cases br:i=id
  ·subst br;rw[xp]
   have Ek:k≠i:=avr nX
   rw[al _ _ Ek]at hk;rw[hν k Ek]
   intro jS
   exact hd b1 jS k e2 hk ur
  ·rw[al _ _ br]at hi;rw[hν i br]
   by_cases Ek:k=id
   ·subst Ek;rw[xp]
    intro jS th
    exact hd b1 th i e1 hi o6 jS
   ·rw[al _ _ Ek]at hk;rw[hν k Ek];exact h.vy i k e1 e2 b1 nX hi o6 hk ur
 ·by_cases br:i=id
  ·subst br;rw[xp];exact hn b1
  ·rw[al _ _ br]at hi;rw[hν i br];exact h.new i e1 b1 hi o6
 ·by_cases br:i=id
  ·subst br;rw[ak]at hi;cases hi;rw[xp];exact ho b1 e1 l1 rfl
  ·rw[al _ _ br]at hi;rw[hν i br];exact h.tY i e1 l1 b1 hi
 ·by_cases br:i=id
  ·subst br
   rcases hnv with hnv|hnv
   ·exact absurd hnv hi
   ·rw[xp,hnv]
  ·exact hν i br
 ·by_cases br:i=id
  ·subst br
   rw[ak]at hi
   cases hi
   obtain⟨h1,b,h2,h3⟩:=oK _ _ _ _ rfl
   exact .inr ⟨h1,b,by rw[xp];exact h2,h3⟩
  ·rw[al _ _ br]at hi
   exact .inl ⟨hi,fun _ _=>rfl⟩
theorem La{m:AM}{ms:List AM}(x:HP (m::ms))(id:Nat)(io:List (Nat×Ty)):
  iG (m::ms) x id io=match m,qS x,io with
   | .io τ,y,(j,_)::io=>((iG ms (vz x) (id+1) io).1,(j,some (.obj τ y))::(iG ms (vz x) (id+1) io).2.1,(iG ms (vz x) (id+1) io).2.2)
   |m,y,io=>((Ct m y id).1::(iG ms (vz x) (id+1) io).1,(Ct m y id).2++(iG ms (vz x) (id+1) io).2.1,(iG ms (vz x) (id+1) io).2.2):=by
 cases ms with
 |nil=>cases m<;>cases io<;>simp[iG,qS]
 |cons n ms=>cases m<;>cases io<;>simp[iG,qS,vz]
theorem mC{l1 l2:List Nat}{b:Nat}(h:(l1++l2).Nodup)(h1:b∈l1):b∉l2:=fun h2=>(avy.1 h).2.2 b h1 b h2 rfl
theorem RR.CJ: ∀{ms:List AM} {x:HP ms} {us ps:List Value},RR w M ms x us ps→ ∀p∈ps,∀b,eA p=some b→b∈a8 ms us ps
 |[],_,_,_,h,p,hp,_,_=>by simp only[RR]at h;rw[h.2]at hp;simp at hp
 |m::ms,x,us,ps,h,p,hp,b,hb=>by
  simp only[RR]at h
  rcases h with⟨p',AX,h1,rfl,h2,h3⟩|⟨v,CI,h1,h2,rfl,h3,h4⟩
  ·simp only[a8,h1,av8,avP,avW,atU]
   rcases atZ.1 hp with rfl|hp
   ·left
    cases m<;>simp[AM.fO]at h1
    simp[cy,hb]
   ·exact .inr (RR.CJ h3 p hp b hb)
  ·simp only[a8,h1,auA,avq,avP,avW,atU]
   exact .inr (RR.CJ h4 p hp b hb)
theorem mU{hs:List Nat}{sz:Nat}: ∀{ms:List AM} {x:HP ms} {us ps:List Value} {id:Nat} {io:List (Nat×Ty)} {H:Nat→Option aR} {ν:Nat→Value} {used:List Nat},
  Mem c H w M ν→RR w M ms x us ps→ps=io.map (fun q=>ν q.1)→kT ms=io.map (·.2)→(keys io).Nodup→(∀q∈io,H q.1=some .gone)→(∀i,id≤i→i<id+ms.length→H i=none)→
  (∀i e b,H i=some e→e.mut→eA (ν i)=some b→(b<sz∧b∉hs)∨b∈used)→(used++a8 ms us ps).Nodup→(∀b∈a8 ms us ps,sz≤b∨b∈hs)→
  (∀b∈a8 ms us ps,(c.B≤b∨c.may b))→(∀b∈a8 ms us ps,c.M0 b→ ∃p∈ps,eA p=some b)→
  ∃ν',Mem c (bU H (iG ms x id io).2.1) w M ν'∧fN w M (bU H (iG ms x id io).2.1) ν' (iG ms x id io).1 us∧(∀i,H i≠none→ν' i=ν i)∧
   (∀i,i∉keys io→(i<id∨id+ms.length≤i)→bU H (iG ms x id io).2.1 i=H i)∧(∀i,id≤i→i<id+ms.length→ ∀e,bU H (iG ms x id io).2.1 i=some e→(∃e0 l0,e= .own e0 l0)∨ ∃τ0 z0,e= .obj τ0 z0)∧
   (∀q∈io,∃z:q.2.den,bU H (iG ms x id io).2.1 q.1=some (.obj q.2 z))
 |[],x,us,ps,id,io,H,ν,used,hm,hr,HH,AQ,EC,AZ,ik,hold,uE,nG,jT,Ej=>by
  simp only[RR]at hr
  obtain⟨rfl,rfl⟩:=hr
  have sd:io=[]:=by
   cases io with
   |nil=>rfl
   |cons q io=>simp at HH
  subst sd
  exact⟨ν,hm,by simp[iG,fN],fun _ _=>rfl,fun _ _ _=>rfl,fun i h1 h2=>by simp at h2;omega,fun q hq=>by simp at hq⟩
 |m::ms,x,us,ps,id,io,H,ν,used,hm,hr,HH,AQ,EC,AZ,ik,hold,uE,nG,jT,Ej=>by
  rw[La]
  simp only[RR]at hr
  rcases hr with⟨p,AX,CK,rfl,h1,h2⟩|⟨v,CI,CK,hmf,rfl,h1,h2⟩
  ·
   cases m with
   |io τ=>
    cases io with
    |nil=>simp at HH
    |cons q io=>
     simp only[at7,auv]at HH
     obtain⟨rfl,rfl⟩:=HH
     simp only[kT,at7,auv]at AQ
     obtain⟨ajt,aju⟩:=AQ
     simp only[keys,at7,awY]at EC
     have YU:a8 (.io τ::ms) us (ν q.1::io.map fun q=>ν q.1)=(eA (ν q.1)).toList++a8 ms us (io.map fun q=>ν q.1):=rfl
     rw[YU]at uE nG jT Ej
     have hq0:=AZ q atS
     have ED:q.1<id∨id+(ms.length+1)≤q.1:=by
      rcases awj q.1 id with h'|h'
      ·exact .inl h'
      ·rcases awj q.1 (id+(ms.length+1))with JS|JS
       ·rw[ik q.1 h' JS]at hq0;cases hq0
       ·exact .inr JS
     simp only[A1]at h1
     have rk: ∀b,eA (ν q.1)=some b→ ∀i e',H i=some e'→e'.mut→eA (ν i)≠some b:=by
      intro b hb i e' hi gP dx
      have jN:b∈(eA (ν q.1)).toList++a8 ms us (io.map fun q=>ν q.1):=at5 _ (by rw[hb];simp)
      rcases hold i e' b hi gP dx with⟨h3,h4⟩|h3
      ·exact(nG b jN).elim (fun h'=>by omega) h4
      ·exact mC uE h3 jN
     have ur:=Mem.wI (c:=c) hm (id:=q.1) (v:=ν q.1) (e:= .obj τ (qS x)) (fun e' sV=>by rw[hq0]at sV;cases sV;simp[aR.mut]) h1 rk (fun b hb=>jT b (at5 _ (by rw[hb];simp))) (fun b e0 l0 he=>by cases he) (.inr rfl)
     have hνe:cn ν q.1 (ν q.1)=ν:=by funext i;unfold cn;split<;>simp_all
     rw[hνe]at ur
     have ajv: ∀(q':Nat×Ty),q'∈io→q'.1≠q.1:=fun q' tq e=>EC.1 (auy.2 ⟨q',tq,e⟩)
     obtain⟨ν',r1,r2,r3,r4,r5,r6⟩:=mU (ms:=ms) (x:=vz x) (us:=us) (ps:=io.map fun q=>ν q.1) (id:=id+1) (io:=io) (used:=used++(eA (ν q.1)).toList) ur h2 rfl aju EC.2
      (fun q' tq=>by rw[al _ _ (ajv q' tq)];exact AZ q' (atM _ tq))
      (fun i h3 h4=>by
       have:i≠q.1:=by omega
       rw[al _ _ this]
       exact ik i (by omega) (by simp only[atN];omega))
      (fun i e b hi gP hb=>by
       by_cases br:i=q.1
       ·subst br;exact .inr (aub _ (by rw[hb];simp))
       ·rw[al _ _ br]at hi
        exact(hold i e b hi gP hb).imp (fun h=>h) (at5 _))
      (by rw[atV];exact uE) (fun b hb=>nG b (aub _ hb)) (fun b hb=>jT b (aub _ hb))
      (fun b hb hb0=>by
       obtain⟨p,hp,hpb⟩:=Ej b (aub _ hb) hb0
       rcases atZ.1 hp with rfl|hp
       ·exact absurd (mC (avy.1 uE).2.1 (b:=b) (by rw[hpb];simp)) (by simpa using hb)
       ·exact⟨p,hp,hpb⟩)
     refine⟨ν',r1,r2,fun i hi=> ?_,fun i h3 h4=> ?_,fun i h3 h4 e he=> ?_,fun q' tq=> ?_⟩
     ·exact r3 i (by
       by_cases br:i=q.1
       ·subst br;rw[ak];simp
       ·rw[al _ _ br];exact hi)
     ·simp only[keys,at7,atZ,not_or]at h3
      have:=r4 i h3.2 (by simp only[atN]at h4;omega)
      rw[al _ _ h3.1]at this
      exact this
     ·by_cases h5:id+1≤i
      ·exact r5 i h5 (by simp only[atN]at h4;omega) e he
      ·have br:i=id:=by omega
       subst br
       by_cases hk:i∈keys io
       ·obtain⟨q',tq,HJ⟩:=auy.1 hk
        have h9:=AZ q' (atM _ tq)
        rw[HJ,ik i (atP _) (by simp)]at h9
        cases h9
       ·have:=r4 i hk (.inl (by omega))
        have ib:i≠q.1:=by omega
        rw[al _ _ ib,ik i (atP _) (by simp)]at this
        have he:bU (bo H q.1 (some (aR.obj τ (qS x)))) (iG ms (vz x) (i+1) io).2.1 i=some e:=he
        rw[this]at he;cases he
     ·rcases atZ.1 tq with rfl|tq
      ·have:=r4 q'.1 EC.1 (by omega)
       rw[ak]at this
       rw[←ajt]
       exact⟨qS x,this⟩
      ·exact r6 q' tq
   |v τ=>simp[AM.fO]at CK
   |own τ=>simp[AM.fO]at CK
   |fn f τ=>simp[AM.fO]at CK
   |ptr τ=>simp[AM.fO]at CK
   |fA τ=>simp[AM.fO]at CK
  ·
   have A0:H id=none:=ik id (atP _) (by simp)
   cases m with
   |io τ=>simp[AM.fO]at CK
   |fn f τ=>simp[AM.Rn]at hmf
   |fA τ=>simp[AM.Rn]at hmf
   |v τ=>
    have YU:a8 (.v τ::ms) (v::CI) ps=a8 ms CI ps:=rfl
    rw[YU]at uE nG jT Ej
    simp only[A1]at h1
    obtain⟨ν',r1,r2,r3,r4,r5,r6⟩:=mU (ms:=ms) (x:=vz x) (us:=CI) (ps:=ps) (id:=id+1) (io:=io) (used:=used) hm h2 HH (by simpa [kT]using AQ) EC AZ (fun i h3 h4=>ik i (by omega) (by simp only[atN];omega)) hold uE nG jT Ej
    refine⟨ν',r1,?_,r3,fun i h3 h4=>r4 i h3 (by simp only[atN]at h4;omega),fun i h3 h4 e he=> ?_,r6⟩
    ·simp only[Ct,fN,VR];exact⟨h1,r2⟩
    ·by_cases h5:id+1≤i
     ·exact r5 i h5 (by simp only[atN]at h4;omega) e he
     ·have br:i=id:=by omega
      subst br
      by_cases hk:i∈keys io
      ·obtain⟨q',tq,HJ⟩:=auy.1 hk
       have h9:=AZ q' tq
       rw[HJ,A0]at h9;cases h9
      ·have:=r4 i hk (.inl (by omega))
       rw[A0]at this
       have he:bU H (iG ms (vz x) (i+1) io).2.1 i=some e:=he
       rw[this]at he;cases he
   |own τ=>
    have YU:a8 (.own τ::ms) (v::CI) ps=(eA v).toList++a8 ms CI ps:=rfl
    rw[YU]at uE nG jT Ej
    simp only[A1]at h1
    have rk: ∀b,eA v=some b→ ∀i e',H i=some e'→e'.mut→eA (ν i)≠some b:=by
     intro b hb i e' hi gP dx
     have jN:b∈(eA v).toList++a8 ms CI ps:=at5 _ (by rw[hb];simp)
     rcases hold i e' b hi gP dx with⟨h3,h4⟩|h3
     ·exact(nG b jN).elim (fun h'=>by omega) h4
     ·exact mC uE h3 jN
    have adX: ∀b,eA v=some b→ ¬c.M0 b:=by
     intro b hb h0
     have jN:b∈(eA v).toList:=by rw[hb];simp
     obtain⟨p,hp,hpb⟩:=Ej b (at5 _ jN) h0
     exact mC (avy.1 uE).2.1 jN (RR.CJ h2 p hp b hpb)
    have ur:=Mem.wI (c:=c) hm (id:=id) (v:=v) (e:= .own τ (qS x)) (fun e' sV=>by rw[A0]at sV;cases sV) h1 rk (fun b hb=>jT b (at5 _ (by rw[hb];simp))) (fun b e0 l0 _ hb=>adX b hb) (.inl A0)
    have ED: ∀q∈io,q.1≠id:=fun q hq e=>by
     have h9:=AZ q hq
     rw[e,A0]at h9;cases h9
    have YV: ∀i,i≠id→cn ν id v i=ν i:=fun i hi=>by simp[cn,hi]
    obtain⟨ν',r1,r2,r3,r4,r5,r6⟩:=mU (ms:=ms) (x:=vz x) (us:=CI) (ps:=ps) (id:=id+1) (io:=io) (used:=used++(eA v).toList) ur h2
     (by rw[HH];exact ava fun q hq=>(YV _ (ED q hq)).symm) (by simpa [kT]using AQ) EC
     (fun q hq=>by rw[al _ _ (ED q hq)];exact AZ q hq)
     (fun i h3 h4=>by rw[al _ _ (by omega)];exact ik i (by omega) (by simp only[atN];omega))
     (fun i e b hi gP hb=>by
      by_cases br:i=id
      ·subst br
       have:cn ν i v i=v:=by simp[cn]
       rw[this]at hb
       exact .inr (aub _ (by rw[hb];simp))
      ·rw[al _ _ br]at hi
       rw[YV i br]at hb
       exact(hold i e b hi gP hb).imp (fun h=>h) (at5 _))
     (by rw[atV];exact uE) (fun b hb=>nG b (aub _ hb)) (fun b hb=>jT b (aub _ hb)) (fun b hb=>Ej b (aub _ hb))
    have YW:id∉keys io:=fun hk=>by
     obtain⟨q,hq,HJ⟩:=auy.1 hk
     exact ED q hq HJ
    have ma:bU (bo H id (some (.own τ (qS x)))) (iG ms (vz x) (id+1) io).2.1 id=some (.own τ (qS x)):=by
     rw[r4 id YW (.inl (by omega)),ak]
    refine⟨ν',r1,?_,fun i hi=> ?_,fun i h3 h4=> ?_,fun i h3 h4 e he=> ?_,r6⟩
    ·simp only[Ct,fN,VR]
     refine⟨⟨?_,?_⟩,r2⟩
     ·show bU (bo H id (some (.own τ (qS x)))) (iG ms (vz x) (id+1) io).2.1 id≠none
      rw[ma];simp
     ·rw[r3 id (by rw[ak];simp)];simp[cn]
    ·have br:i≠id:=fun e=>hi (e▸A0)
     rw[r3 i (by rw[al _ _ br];exact hi),YV i br]
    ·have br:i≠id:=by simp only[atN]at h4;omega
     have:=r4 i h3 (by simp only[atN]at h4;omega)
     rw[al _ _ br]at this
     exact this
    ·by_cases h5:id+1≤i
     ·exact r5 i h5 (by simp only[atN]at h4;omega) e he
     ·have br:i=id:=by omega
      subst br
      have he:bU (bo H i (some (.own τ (qS x)))) (iG ms (vz x) (i+1) io).2.1 i=some e:=he
      rw[ma]at he;cases he
      exact .inl ⟨τ,_,rfl⟩
   |ptr τ=>
    have YU:a8 (.ptr τ::ms) (v::CI) ps=(eA v).toList++a8 ms CI ps:=rfl
    rw[YU]at uE nG jT Ej
    simp only[A1]at h1
    have rk: ∀b,eA v=some b→ ∀i e',H i=some e'→e'.mut→eA (ν i)≠some b:=by
     intro b hb i e' hi gP dx
     have jN:b∈(eA v).toList++a8 ms CI ps:=at5 _ (by rw[hb];simp)
     rcases hold i e' b hi gP dx with⟨h3,h4⟩|h3
     ·exact(nG b jN).elim (fun h'=>by omega) h4
     ·exact mC uE h3 jN
    have ur:=Mem.wI (c:=c) hm (id:=id) (v:=v) (e:= .obj τ (qS x)) (fun e' sV=>by rw[A0]at sV;cases sV) h1 rk (fun b hb=>jT b (at5 _ (by rw[hb];simp))) (fun b e0 l0 he _=>by cases he) (.inl A0)
    have ED: ∀q∈io,q.1≠id:=fun q hq e=>by
     have h9:=AZ q hq
     rw[e,A0]at h9;cases h9
    have YV: ∀i,i≠id→cn ν id v i=ν i:=fun i hi=>by simp[cn,hi]
    obtain⟨ν',r1,r2,r3,r4,r5,r6⟩:=mU (ms:=ms) (x:=vz x) (us:=CI) (ps:=ps) (id:=id+1) (io:=io) (used:=used++(eA v).toList) ur h2
     (by rw[HH];exact ava fun q hq=>(YV _ (ED q hq)).symm) (by simpa [kT]using AQ) EC
     (fun q hq=>by rw[al _ _ (ED q hq)];exact AZ q hq)
     (fun i h3 h4=>by rw[al _ _ (by omega)];exact ik i (by omega) (by simp only[atN];omega))
     (fun i e b hi gP hb=>by
      by_cases br:i=id
      ·subst br
       have:cn ν i v i=v:=by simp[cn]
       rw[this]at hb
       exact .inr (aub _ (by rw[hb];simp))
      ·rw[al _ _ br]at hi
       rw[YV i br]at hb
       exact(hold i e b hi gP hb).imp (fun h=>h) (at5 _))
     (by rw[atV];exact uE) (fun b hb=>nG b (aub _ hb)) (fun b hb=>jT b (aub _ hb)) (fun b hb=>Ej b (aub _ hb))
    have YW:id∉keys io:=fun hk=>by
     obtain⟨q,hq,HJ⟩:=auy.1 hk
     exact ED q hq HJ
    have ma:bU (bo H id (some (.obj τ (qS x)))) (iG ms (vz x) (id+1) io).2.1 id=some (.obj τ (qS x)):=by
     rw[r4 id YW (.inl (by omega)),ak]
    refine⟨ν',r1,?_,fun i hi=> ?_,fun i h3 h4=> ?_,fun i h3 h4 e he=> ?_,r6⟩
    ·simp only[Ct,fN,VR]
     refine⟨⟨_,ma,trivial,?_⟩,r2⟩
     simp only[A1,ER]at h1
     obtain⟨b,cs,t,ND,_⟩:=h1
     exact⟨b,by rw[r3 id (by rw[ak];simp)];simp[cn,ND],ND⟩
    ·have br:i≠id:=fun e=>hi (e▸A0)
     rw[r3 i (by rw[al _ _ br];exact hi),YV i br]
    ·have br:i≠id:=by simp only[atN]at h4;omega
     have:=r4 i h3 (by simp only[atN]at h4;omega)
     rw[al _ _ br]at this
     exact this
    ·by_cases h5:id+1≤i
     ·exact r5 i h5 (by simp only[atN]at h4;omega) e he
     ·have br:i=id:=by omega
      subst br
      have he:bU (bo H i (some (.obj τ (qS x)))) (iG ms (vz x) (i+1) io).2.1 i=some e:=he
      rw[ma]at he;cases he
      exact .inr ⟨τ,_,rfl⟩
end VM
end
section
namespace VM
open Go
variable{P:Program}{E:Env}{o:Oper}{a:Act}{w:World}{M:Nat→Prop}{ν:Nat→Value}{σ:St}{c:Ctx}{α:Type}{r:α}{next:Act→World→Prop}{Q:Exit→Act→World→Prop}
theorem EE{i:Nat}: ∀{ups:fD} {H:Nat→Option aR},i∈keys ups→ ∃u∈ups,u.1=i∧bU H ups i=u.2
 |[],_,h=>by simp[keys]at h
 |u::r,H,h=>by
  by_cases hk:i∈keys r
  ·obtain⟨v,h1,h2,h3⟩:=EE (H:=bo H u.1 u.2) hk
   exact⟨v,atM _ h1,h2,h3⟩
  ·have hi:i=u.1:=by
    simp only[keys,at7,atZ]at h hk
    exact h.resolve_right hk
   refine⟨u,atS,hi.symm,?_⟩
   show bU (bo H u.1 u.2) r i=_
   rw[jy hk,hi,ak]
theorem yM: ∀{ups:fD} {H H':Nat→Option aR},(∀i,i∉keys ups→H i=H' i)→bU H ups=bU H' ups
 |[],H,H',h=>funext fun i=>h i (by simp[keys])
 |u::r,H,H',h=>by
  refine yM (ups:=r) fun i hi=> ?_
  by_cases hu:i=u.1
  ·subst hu;rw[ak,ak]
  ·rw[al _ _ hu,al _ _ hu]
   exact h i (by simp only[keys,at7,atZ,not_or];exact⟨hu,hi⟩)
theorem RR.mV: ∀{ms:List AM} {x:HP ms} {us ps:List Value},RR w M ms x us ps→ ∀b∈a8 ms us ps,M b
 |[],_,_,_,_,b,hb=>by simp[a8]at hb
 |m::ms,x,us,ps,h,b,hb=>by
  simp only[RR]at h
  rcases h with⟨p,AX,h1,rfl,h2,h3⟩|⟨v,CI,h1,h2,rfl,h3,h4⟩
  ·simp only[a8,h1,av8,avP,avW,atU]at hb
   rcases hb with hb|hb
   ·cases m<;>simp[AM.fO]at h1
    simp only[cy,auB,A1]at hb h2
    exact h2.tg trivial hb
   ·exact RR.mV h3 b hb
  ·simp only[a8,h1,auA,avq,avP,avW,atU]at hb
   rcases hb with hb|hb
   ·cases m with
    |own e=>
     simp only[cy,auB,A1]at hb h3
     exact h3.tg trivial hb
    |v _=>simp[cy]at hb
    |io _=>simp[AM.fO]at h1
    |fn _ _=>simp[cy]at hb
    |fA _=>simp[cy]at hb
    |ptr τ=>
     simp only[cy,auB,A1]at hb h3
     exact h3.tg trivial hb
   ·exact RR.mV h4 b hb
theorem Bx: ∀{l:List ia} {lY:List aW} {S:ia},Ee l lY=some S→S∈l
 |[],_,_,h=>by simp[Ee]at h
 |T::l,lY,S,h=>by
  unfold Ee at h
  cases hf:fits T.args lY
  ·rw[hf]at h;exact atM _ (Bx h)
  ·rw[hf]at h;cases h;exact atS
theorem wJ{H:Nat→Option aR}{id:Nat}: ∀{n:Nat},pB H id n=true→ ∀i,id≤i→i<id+n→H i=none
 |0,_,i,h1,h2=>by omega
 |n+1,h,i,h1,h2=>by
  unfold pB at h
  rw[atW]at h
  by_cases hi:i=id+n
  ·subst hi
   have h:=h.1
   split at h
   ·assumption
   ·cases h
  ·exact wJ h.2 i h1 (by omega)
theorem NF{H:Nat→Option aR}{lY:List aW}{us:List Value}(h:fN w M H ν lY us):VR w M H ν (Ec lY) (ri us):=by
 match lY,us,h with
 |[],[],_=>simp[Ec,VR]
 |[a],[u],h=>simp only[fN,au3]at h;simpa [Ec,ri]using h
 |a::b::lY,u::v::us,h=>
  simp only[Ec,VR]
  exact⟨u::v::us,by simp[ri],h⟩
 |[],_::_,h=>simp[fN]at h
 |_::_,[],h=>simp[fN]at h
 |[_],_::_::_,h=>simp[fN]at h
 |_::_::_,[_],h=>simp[fN]at h
theorem EF(hΓ: ∀f S,S∈E.Γ f→eZ P f S){H:Nat→Option aR}(hm:Mem c H w M ν){f id:Nat}{lY:List aW}{vs:List Value}(hv:fN w M H ν lY vs){K:fE α}(h:wv E f lY id H K=some r)
  {R:Value→World→Prop} (hR: ∀v rd ups v' w' M' ν',K v rd ups=some r→Tr c H w M ν (bU H ups) w' M' ν'→VR w' M' (bU H ups) ν' v v'→R v' w'):
  EB P f vs.toArray w R:=by
 unfold wv at h
 split at h
 ·cases h
 rename_i S hS
 have hok:=hΓ f S (Bx hS)
 obtain⟨x,rd,uo,uf,io,H2,Hq,M2,h1,hA,hK,adY,Rq,M5⟩:=wH (ij.start hm) hv h
 clear h
 simp only[aug,avl]at hA Rq M5
 obtain⟨y,hy,h1⟩:=au5.1 h1
 obtain⟨ik,h1⟩:=bB h1
 have ik:=wJ ik
 have ajw:(fun b=>(M2 b∧b∉cG S.args vs)∨b∈cG S.args vs)=M2:=by
  funext b
  refine propext ⟨fun h=>h.elim (·.1) (hA.hM b),fun h=> ?_⟩
  by_cases hb:b∈cG S.args vs
  ·exact .inr hb
  ·exact .inl ⟨h,hb⟩
 refine EB.mono (hok.call (fun b=>M2 b∧b∉cG S.args vs) w vs x y (fun b hb=>hA.mem.yz b hb.1) (by rw[ajw];exact adY) hA.nd (fun b hb h=>h.2 hb) hy) ?_
 rintro e w' ⟨us,M',rfl,M6,hL,uE,hn0⟩
 have ajx: ∀b∈cG S.args vs,c.M0 b→M' b:=by
  intro b hb h0
  obtain⟨q,hq,hqb⟩:=hA.iob b hb h0
  exact M6.mV b (M6.CJ (ν q.1) (by rw[←Rq];exact auC hq) b hqb)
 have nG: ∀b∈a8 S.res us (du S.args vs),w.heap.size≤b∨b∈cG S.args vs:=by
  intro b hb
  rcases awj b w.heap.size with dZ|Rr
  ·exact .inr ((hL.less b dZ (M6.mV b hb)).resolve_left (hn0 b hb))
  ·exact .inl Rr
 have jT: ∀b∈a8 S.res us (du S.args vs),c.B≤b∨c.may b:=fun b hb=>(nG b hb).elim (fun h=> .inl (aut hm.size h)) (hA.Ij b)
 have Ej: ∀b∈a8 S.res us (du S.args vs),c.M0 b→ ∃p∈du S.args vs,eA p=some b:=by
  intro b hb h0
  rcases nG b hb with h'|h'
  ·have:=hm.qL.1 b h0;have:=hm.size;omega
  ·obtain⟨q,hq,hqb⟩:=hA.iob b h' h0
   exact⟨ν q.1,by rw[←Rq];exact auC hq,hqb⟩
 have key: ∀(Hx:Nat→Option aR) (Mx:Nat→Prop) (U:fD),Mem c Hx w Mx ν→dh w M w Mx→(∀b,M2 b→Mx b)→(∀b∈cG S.args vs,∀i e,Hx i=some e→e.mut→eA (ν i)≠some b)→
   (∀q∈io,Hx q.1=some .gone)→(∀i,i∉keys io→bU H (uo++U) i=Hx i)→(∀u∈uo++U,u.2=some .gone∨ ∃e l,u.2=some (.kF e l)∧H u.1=some (.own e l))→(∀i∈keys (uo++U),i∈keys (uo++uf))→
   RR w' (fun b=>M' b∨(Mx b∧b∉cG S.args vs)) S.res y us (du S.args vs)→
   ∃ν',Tr c H w M ν (bU H (uo++U++(iG S.res y id io).2.1)) w' (fun b=>M' b∨(Mx b∧b∉cG S.args vs)) ν'∧
    fN w' (fun b=>M' b∨(Mx b∧b∉cG S.args vs)) (bU H (uo++U++(iG S.res y id io).2.1)) ν' (iG S.res y id io).1 us:=by
  intro Hx Mx U Nz hkx Lb qR NG YX CL hU QI
  obtain⟨jv,By⟩:=Nz.call (fun b hb=>Lb b hb.1) (fun b hb=>Lb b (hA.hM b hb)) qR hA.Ij ajx hL
  have hx: ∀i e,H i=some e→i∉keys io→ ∃e',Hx i=some e'∧e.ic e':=by
   intro i e hi yN
   rw[←YX i yN]
   by_cases hk:i∈keys (uo++U)
   ·obtain⟨u,hu,hui,huv⟩:=EE (H:=H) hk
    rw[huv]
    rcases CL u hu with h'|⟨e1,l1,h',JS⟩
    ·exact⟨_,h',aR.kb e⟩
    ·rw[hui,hi]at JS;cases JS;exact⟨_,h',rfl,rfl⟩
   ·rw[jy hk];exact⟨e,hi,.refl e⟩
  have Xj: ∀i,id≤i→i<id+S.res.length→Hx i=none:=by
   intro i h3 h4
   have h0:=ik i h3 h4
   have yN:i∉keys io:=fun hk=>by
    obtain⟨q,hq,HJ⟩:=auy.1 hk
    obtain⟨_,_,z,hz⟩:=hA.QO q hq
    rw[HJ,h0]at hz;cases hz
   rw[←YX i yN]
   rw[jy,h0]
   intro hk
   obtain⟨_,e,l,h'⟩:=hA.ksn i (hU i hk)
   rw[h0]at h';cases h'
  obtain⟨ν',r1,r2,r3,r4,r5,r6⟩:=mU (hs:=cG S.args vs) (sz:=w.heap.size) (id:=id) (used:=[]) jv QI Rq.symm (by rw[←hok.ios,←M5]) hA.ion NG Xj
   (fun i e b hi hmu hb=> .inl ⟨Nz.yz b ((Nz.iT i e hi).tg hmu hb),fun hh=>qR b hh i e hi hmu hb⟩) (by simpa using uE) nG jT Ej
  have YY:bU H (uo++U++(iG S.res y id io).2.1)=bU Hx (iG S.res y id io).2.1:=by
   rw[ei]
   refine yM fun i hi=> ?_
   by_cases yN:i∈keys io
   ·obtain⟨q,hq,HJ⟩:=auy.1 yN
    obtain⟨z,hz⟩:=r6 q hq
    rw[HJ,jy hi,←HJ,NG q hq]at hz;cases hz
   ·exact YX i yN
  refine⟨ν',⟨by rw[YY];exact r1,hkx.trans By,⟨fun i e hi=> ?_,fun i hi=> ?_⟩⟩,by rw[YY];exact r2⟩
  ·rw[YY]
   by_cases yN:i∈keys io
   ·obtain⟨q,hq,HJ⟩:=auy.1 yN
    obtain⟨z,hz⟩:=r6 q hq
    obtain⟨_,_,z0,hz0⟩:=hA.QO q hq
    rw[HJ]at hz hz0
    rw[hi]at hz0;cases hz0
    exact⟨_,hz,rfl⟩
   ·obtain⟨e',sV,hl⟩:=hx i e hi yN
    have hr:i<id∨id+S.res.length≤i:=by
     rcases awj i id with h'|h'
     ·exact .inl h'
     ·rcases awj i (id+S.res.length)with JS|JS
      ·rw[ik i h' JS]at hi;cases hi
      ·exact .inr JS
    exact⟨e',by rw[r4 i yN hr];exact sV,hl⟩
  ·refine r3 i ?_
   obtain⟨e,he⟩:=avU.1 hi
   by_cases yN:i∈keys io
   ·obtain⟨q,hq,HJ⟩:=auy.1 yN
    rw[←HJ,NG q hq];simp
   ·obtain⟨e',sV,_⟩:=hx i e he yN
    rw[sV];simp
 cases hq:S.quiet
 ·
  rw[hq]at h1
  have hMn:(fun b=>M' b∨(M2 b∧b∉cG S.args vs))=M':=by
   funext b
   exact propext ⟨fun h=>h.elim (fun h=>h) (hL.sub b),.inl⟩
  obtain⟨ν',eY,hvr⟩:=key H2 M2 uf hA.mem hA.bp (fun _ h=>h) (fun b hb i e hi hmu=>hA.none b hb i e (hA.fz.mut hi hmu) hmu) (fun q hq=>(hA.QO q hq).1) hA.ext
   (fun u hu=>(atU.1 hu).elim (fun h=> .inl (hA.uov u h)) (fun h=> .inr (hA.ufv u h))) (fun _ h=>h) (by rw[hMn];exact M6)
  exact hR _ _ _ _ _ _ _ h1 eY (NF hvr)
 ·rw[hq]at h1
  have Lb: ∀b,M2 b→M b:=fun b hb=>hA.bp.less b (hA.mem.yz b hb) hb
  obtain⟨ν',eY,hvr⟩:=key Hq M [] hA.K9 (.refl w M) Lb hA.none (fun q hq=>(hA.QO q hq).2.1) (by rw[auh];exact hA.Ro)
   (fun u hu=> .inl (hA.uov u (by simpa using hu))) (fun i hi=>by simp only[keys,auh,aus,atU]at hi ⊢;exact .inl hi) (M6.flat (fun b h=> .inl h) (hok.quiet hq))
  exact hR _ _ _ _ _ _ _ h1 eY (NF hvr)
theorem Rs(hΓ: ∀f S,S∈E.Γ f→eZ P f S)(hc:Core c σ a.tmps w M ν){args:Array Operand}{ts:Array TypeId}{g:Operand}(ho:o.op= .call {callee:= .value g,args,argTypes:=ts}){K:fE α}{f:Nat}{caps:List aW}(hg:σ.ρ g= .D7 f caps){id:Nat}
  (h:wv E f (args.toList.map σ.ρ ++caps) id σ.H K=some r) (hn:dV c σ a o w M ν K r next):o.wp P a w next Q:=by
 have hgv:=hc.ev g
 rw[hg]at hgv
 simp only[VR]at hgv
 obtain⟨cs,hgv,CA⟩:=hgv
 have EG: ∀{as1:List aW} {QQ:List Value},fN w M σ.H ν as1 QQ→fN w M σ.H ν (as1++caps) (QQ++cs):=by
  intro as1
  induction as1 with
  |nil=>intro QQ h1;cases QQ with
   |nil=>exact CA
   |cons _ _=>simp[fN]at h1
  |cons x as1 ih=>intro QQ h1;cases QQ with
   |nil=>simp[fN]at h1
   |cons v QQ=>simp only[fN]at h1;simp only[au6,fN];exact⟨h1.1,ih h1.2⟩
 have hd:=EF (P:=P) hΓ hc.mem (EG (hc.evs args.toList)) h (R:=fun v' w'=>next (a.put o.dst v') w') (fun v rd ups v' w' M' ν' h1 h2 h3=>hn v rd ups v' w' M' ν' h1 h2 h3)
 have hex:(execOp a.eval o).run P w=(callFunc f (args.toList.map a.eval++cs).toArray).run P w:=by
  have:(args.toList.map a.eval++cs).toArray= #[]++args.map a.eval++cs.toArray:=by apply avx;simp
  rw[this]
  simp[execOp,ho,resolve,hgv,Deferred.ofValue,invoke]
 unfold Oper.wp
 rw[hex]
 exact hd o a next Q fun v w' hv=>hv
end VM
end
section
namespace VM
open Go
variable{P:Program}{E:Env}{o:Oper}{a:Act}{w:World}{M:Nat→Prop}{ν:Nat→Value}{σ:St}{c:Ctx}{α:Type}{r:α}{next:Act→World→Prop}{Q:Exit→Act→World→Prop}
structure n6(P:Program)(E:Env):Prop extends EnvTy P E where
 ad2: ∀f S,S∈E.Γ f→eZ P f S
 mixed:P.follows .mixedOrders=true
 gq: ∀i L,E.qV i=some L→VM.gq L=true
 NH: ∀i L,E.sF i=some L→VM.gq L=true
theorem Lc(hE:n6 P E)(hc:Core c σ a.tmps w M ν){K:fE α}(h:oW E o σ.ρ σ.H K=some r)(hn:dV c σ a o w M ν K r next):o.wp P a w next Q:=by
 have hT:=hE.toEnvTy
 unfold oW at h
 simp only at h
 split at h
 ·rename_i x ho;exact JJ hc (.inl ho) h hn
 ·rename_i x ho;exact JJ hc (.inr ho) h hn
 ·rename_i x y z ho
  split at h
  ·rename_i t hx;exact Rb hc ho hx h hn
  ·cases h
 ·rename_i t ho
  split at h
  ·rename_i τ ht;exact Nn hT hc ho ht h hn
  ·cases h
 ·rename_i t x ho
  split at h
  ·rename_i τ ht;exact Yw hT hc ho h hn
  ·cases h
 ·rename_i t ps ho
  split at h
  ·rename_i n e ht;exact CH hT hc ho ht h hn
  ·rename_i τ Xg ht;exact xx hT hc ho ht (fun n e he=>Xg n e he) h hn
  ·cases h
 ·rename_i t n ps ho
  split at h
  ·rename_i e ht;exact AV hT hc ho ht h hn
  ·cases h
 ·rename_i t x ho
  split at h
  ·rename_i τ ht;exact Rc hT hc ho ht h hn
  ·cases h
 ·rename_i t x y ho
  split at h
  ·rename_i τ ht;exact K3 hT hc ho ht h hn
  ·cases h
 ·rename_i x ho
  split at h
  ·rename_i id p hx;exact xv hc ho hx h hn
  ·rename_i τ z hx;exact vH hc ho hx h hn
  ·cases h
 ·rename_i b t x y t' ho;exact Nu hT hc ho h hn
 ·rename_i u t x ho;exact Ri hc ho h hn
 ·rename_i s d x ho
  split at h
  ·rename_i τ k hs hd;exact Ic hT hc ho hs hd h hn
  ·cases h
 ·rename_i f first caps ho;exact Eu hc ho h hn
 ·rename_i t x y ho
  split at h
  ·rename_i e ht;exact CE hT hc ho ht h hn
  ·cases h
 ·rename_i t x lo hi mx ho
  split at h
  ·rename_i τ ht;exact NA hT hc ho ht h hn
  ·cases h
 ·rename_i t x n ho
  split at h
  ·rename_i τ ht
   split at h
   ·rename_i id p hx;exact vG hT hc ho ht hx h hn
   ·rename_i υ z hx;exact uz hT hc ho ht hx h hn
   ·cases h
  ·cases h
 ·rename_i t x n ho
  split at h
  ·rename_i τ ht
   split at h
   ·rename_i υ z hx;exact Ns hT hc ho ht hx h hn
   ·cases h
  ·cases h
 ·rename_i t x i ho
  split at h
  ·rename_i τ ht;exact CC hT hc ho ht h hn
  ·cases h
 ·rename_i t x i ho
  split at h
  ·rename_i τ ht;exact Nx hT hc ho ht h hn
  ·cases h
 ·rename_i x i ho
  split at h
  ·rename_i vs hx
   split at h
   ·rename_i v hv;exact Ia hc ho hx hv h hn
   ·cases h
  ·cases h
 ·rename_i cl ho
  obtain⟨callee,args,ts⟩:=cl
  simp only at h
  split at h
  ·split at h
   ·rename_i x τ ha ht;exact YE hT hc ho ha ht h hn
   ·cases h
  ·split at h
   ·rename_i x y t t' ha ht
    split at h
    ·rename_i e hte;exact K7 hT hc ho ha ht hte h hn
    ·cases h
   ·cases h
  ·split at h
   ·rename_i x xs ha;exact Xf hc true ho ha h hn
   ·cases h
  ·split at h
   ·rename_i x xs ha;exact Xf hc false ho ha h hn
   ·cases h
  ·rename_i g
   split at h
   ·rename_i f caps hg;exact Rs hE.ad2 hc ho hg h hn
   ·cases h
  ·cases h
 ·cases h
end VM
end
section
namespace VM
open Go
variable{P:Program}{E:Env}{o:Oper}{a:Act}{w:World}{M:Nat→Prop}{ν:Nat→Value}{σ:St}{c:Ctx}{α:Type}{r:α}{next:Act→World→Prop}{Q:Exit→Act→World→Prop}
theorem pG(σ:St)(d:Nat)(v:aW):(σ.put d v).T d=v:=by
 show cond (Nat.beq d d) v (σ.T d)=v
 rw[show Nat.beq d d=true from awm d];rfl
theorem uF(σ:St){d i:Nat}(v:aW)(h:i≠d):(σ.put d v).T i=σ.T i:=by
 show cond (Nat.beq i d) v (σ.T i)=σ.T i
 have:Nat.beq i d=false:=by rw[←avi,awQ];exact h
 rw[this];rfl
theorem an6(σ:St)(d:Nat)(v:aW):(σ.put d v).H=σ.H:=rfl
theorem yO(σ:St)(d:Nat):σ.put d (σ.T d)=σ:=by
 obtain⟨T,H⟩:=σ
 unfold St.put
 congr 1
 funext i
 by_cases h:i=d
 ·subst h;show cond (Nat.beq i i) (T i) (T i)=T i;cases Nat.beq i i<;>rfl
 ·have:Nat.beq i d=false:=by rw[←avi,awQ];exact h
  rw[this];rfl
theorem Core.tr{tm:Array Value}(h:Core c σ tm w M ν){H':Nat→Option aR}{w':World}{M':Nat→Prop}{ν':Nat→Value}(t:Tr c σ.H w M ν H' w' M' ν'):Core c ⟨σ.T,H'⟩ tm w' M' ν':=
 ⟨t.mem,fun i=>VR.bp t.bp t.goes (h.tmp i)⟩
theorem Core.qG{tm:Array Value}(h:Core c σ tm w M ν){d:Option Nat}{x:aW}{v:Value}{io:List Nat}(hd:D8 tm.size io d=true)(hx:VR w M σ.H ν x v)(ds:List Deferred):
  Core c (σ.qG d x) (({tmps:=tm,defers:=ds}:Act).put d v).tmps w M ν:=by
 cases d with
 |none=>exact h
 |some d=>
  have dZ:d<tm.size:=by simp only[D8,atW,axa]at hd;exact hd.1
  refine⟨h.mem,fun i=> ?_⟩
  show VR w M σ.H ν ((σ.put d x).T i) ((tm.setIfInBounds d v).getD i undef)
  by_cases hi:i=d
  ·subst hi
   rw[pG]
   simp[Array.getD,dZ]
   exact hx
  ·rw[uF _ _ hi]
   have:=h.tmp i
   have he:(tm.setIfInBounds d v).getD i undef=tm.getD i undef:=by
    rw[auM,auM,awq (avr hi)]
   rw[he];exact this
def Inv(c:Ctx)(E:Env)(σ:St)(a:Act)(w:World):Prop:=(∃M ν,Core c σ a.tmps w M ν)∧a.tmps.size=E.nt∧a.defers=[]∧ ∀i∈E.io,a.tmps.getD i undef=c.arg i
theorem EH(a:Act)(d:Option Nat)(v:Value):(a.put d v).tmps.size=a.tmps.size:=by
 cases d<;>simp[Act.put]
theorem put_defers(a:Act)(d:Option Nat)(v:Value):(a.put d v).defers=a.defers:=by
 cases d<;>rfl
theorem JT{d:Option Nat}{v:Value}{io:List Nat}{n:Nat}(hd:D8 n io d=true){i:Nat}(hi:i∈io):(a.put d v).tmps.getD i undef=a.tmps.getD i undef:=by
 cases d with
 |none=>rfl
 |some d=>
  simp only[D8,atW,avw]at hd
  have h1:=hd.2 i hi
  have ib:i≠d:=by
   intro e;subst e
   simp at h1
  show(a.tmps.setIfInBounds d v).getD i undef=_
  rw[auM,auM,awq (avr ib)]
theorem Inv.bool(h:Inv c E σ a w){x:Operand}{b:Bool}(hx:σ.ρ x= .val .bool b):a.eval x= .bool b:=by
 obtain⟨⟨M,ν,hc⟩,_,_,_⟩:=h
 have:=hc.ev x
 rw[hx]at this
 exact this.bool
theorem wK(hE:n6 P E){ops:Array Oper}(hI:Inv c E σ a w){K:St→List Nat→List Nat→Option α}(h:o0 E ops.toList o σ K=some r)
  (hn: ∀σ' a' w' rd wr,K σ' rd wr=some r→Inv c E σ' a' w'→next a' w'):
  if Region.wanted o (yielded ops a.tmps)then o.wp P a w next Q else next (a.put o.dst undef) w:=by
 unfold o0 at h
 obtain⟨hd,h⟩:=bB h
 have cD:oW E o σ.ρ σ.H (fun v rd ups=>K ((σ.qT ups).qG o.dst v) rd (ups.map (·.1)))=some r→o.wp P a w next Q:=by
  intro h
  obtain⟨⟨M,ν,hc⟩,hs,YZ,sJ⟩:=hI
  refine Lc hE hc h fun v rd ups v' w' M' ν' hK eY hV=> ?_
  refine hn _ _ _ _ _ hK ⟨⟨M',ν',?_⟩,by rw[EH,hs],by rw[put_defers,YZ],fun i hi=>(JT hd hi).trans (sJ i hi)⟩
  have h1:=hc.tr eY
  have h2:σ.qT ups=⟨σ.T,bU σ.H ups⟩:=by rw[←H7,←H8 ups σ]
  rw[h2]
  exact h1.qG (by rw[hs];exact hd) hV a.defers
 have n7: ∀rd wr,K (σ.qG o.dst .Ni) rd wr=some r→next (a.put o.dst undef) w:=by
  intro rd wr h
  obtain⟨⟨M,ν,hc⟩,hs,YZ,sJ⟩:=hI
  refine hn _ _ _ _ _ h ⟨⟨M,ν,hc.qG (by rw[hs];exact hd) (by simp[VR]) a.defers⟩,by rw[EH,hs],by rw[put_defers,YZ],fun i hi=>(JT hd hi).trans (sJ i hi)⟩
 simp only at h
 split at h
 ·rename_i hg
  have:Region.wanted o (yielded ops a.tmps)=true:=by simp[Region.wanted,hg]
  rw[atK this]
  exact cD h
 ·rename_i j want hg
  split at h
  ·cases h
  ·rename_i t ht
   have ht':(ops[j]?).bind (·.dst)=some t:=by rw[←auo];exact ht
   have hy: ∀b,σ.T t= .val .bool b→yielded ops a.tmps j=some b:=by
    intro b hb
    obtain⟨⟨M,ν,hc⟩,hs,_,_⟩:=hI
    have h1:=hc.tmp t
    rw[hb]at h1
    have h1:=h1.bool
    have h2:a.tmps[t]? =some (.bool b):=by
     rw[auM]at h1
     cases h3:a.tmps[t]? with
     |none=>rw[h3]at h1;simp[undef]at h1
     |some v=>rw[h3]at h1;simpa using h1
    simp[yielded,ht',h2]
   split at h
   ·rename_i b hb
    have lT:σ.put t (.val .bool b)=σ:=by rw[←hb];exact yO σ t
    have hw:=hy b hb
    cases want<;>cases b
    ·rw[atK (by simp[Region.wanted,hg,hw])]
     rw[lT]at h;exact cD h
    ·rw[atL (by simp[Region.wanted,hg,hw])]
     rw[lT]at h;exact n7 _ _ h
    ·rw[atL (by simp[Region.wanted,hg,hw])]
     rw[lT]at h;exact n7 _ _ h
    ·rw[atK (by simp[Region.wanted,hg,hw])]
     rw[lT]at h;exact cD h
   ·rename_i hb
    have xt: ¬Region.wanted o (yielded ops a.tmps)=true:=by
     obtain⟨⟨M,ν,hc⟩,hs,_,_⟩:=hI
     have h1:=hc.tmp t
     rw[hb]at h1
     simp only[VR]at h1
     have h2: ∀b,a.tmps[t]? ≠some (.bool b):=by
      intro b dx
      rw[auM,dx]at h1
      simp[undef]at h1
     have h3:yielded ops a.tmps j=none:=by
      unfold yielded
      rw[ht']
      show(match a.tmps[t]? with|some (.bool b)=>some b|_=>none)=none
      split
      ·rename_i b dx;exact absurd dx (h2 b)
      ·rfl
     simp[Region.wanted,hg,h3]
    rw[atL xt]
    exact n7 _ _ h
   ·cases h
theorem yP(hE:n6 P E){ops:Array Oper}: ∀(l:List Oper) (i:Nat) (σ:St) (lg:Log) (a:Act) (w:World) (K:St→Log→Option α),Inv c E σ a w→KU E ops.toList l i σ lg K=some r→
  (∀σ' Xk a' w',K σ' Xk=some r→Inv c E σ' a' w'→Q .normal a' w')→wpList P ops Q l a w
 |[],i,σ,lg,a,w,K,hI,h,hn=>hn _ _ _ _ h hI
 |o::l,i,σ,lg,a,w,K,hI,h,hn=>by
  unfold KU at h
  refine wpList_step fun K' hK'=> ?_
  exact wK hE hI h fun σ' a' w' rd wr h' sX=>hK' _ _ (yP hE l (i+1) σ' _ a' w' K sX h' hn)
theorem EI(hI:Inv c E σ a w){x:Operand}{A B:St→Option α}(h:Bo E x σ A B=some r): ∃b,a.eval x= .bool b∧(if b then A σ else B σ)=some r:=by
 unfold Bo at h
 split at h
 ·rename_i b hb
  refine⟨b,hI.bool hb,?_⟩
  split at h
  ·rename_i t
   have hb:σ.T t= .val .bool b:=hb
   have lT:σ.put t (.val .bool b)=σ:=by rw[←hb];exact yO σ t
   cases b
   ·rw[lT]at h;exact h
   ·rw[lT]at h;exact h
  ·cases b<;>exact h
 ·cases h
end VM
end
section
namespace VM
open Go
variable{P:Program}{E:Env}{o:Oper}{a:Act}{w:World}{M:Nat→Prop}{ν:Nat→Value}{σ:St}{c:Ctx}{α:Type}{r:α}{next:Act→World→Prop}{Q:Exit→Act→World→Prop}
def mix{β:Type}(A B:Nat→β):Nat→β:=fun i=>if i%2=0 then A (i/2)else B (i/2)
theorem e9{β:Type}(A B:Nat→β)(i:Nat):mix A B (2*i)=A i:=by
 unfold mix
 rw[atK (by omega),show 2*i/2=i from by omega]
theorem qy{β:Type}(A B:Nat→β)(i:Nat):mix A B (2*i+1)=B i:=by
 unfold mix
 rw[atL (by omega),show(2*i+1)/2=i from by omega]
theorem acZ{β:Type}{A B A' B':Nat→β}(hl: ∀i,A i=A' i)(hr: ∀i,B i=B' i):mix A B=mix A' B':=by
 funext i;unfold mix;rw[hl,hr]
def aR.re(f:Nat→Nat):aR→aR
 | .dY τ x p j=> .dY τ x p (f j)
 |e=>e
theorem ER.re{v:Value}{f:Nat→Nat}{e:aR}:ER w M v (e.re f)↔ER w M v e:=by cases e<;>simp[aR.re,ER]
theorem aR.mW{f:Nat→Nat}{e:aR}:(e.re f).mut↔e.mut:=by cases e<;>simp[aR.re,aR.mut]
theorem aR.JU{f g:Nat→Nat}{e e':aR}:(e.re f).ic (e'.re g)↔e.ic e':=by cases e<;>cases e'<;>simp[aR.re,aR.ic]
def ml(i:Nat):Nat:=2*i
def mr(i:Nat):Nat:=2*i+1
def fF(A B:Nat→Option aR):Nat→Option aR:=fun i=>if i%2=0 then(A (i/2)).map (aR.re ml)else(B (i/2)).map (aR.re mr)
theorem tt(A B:Nat→Option aR)(i:Nat):fF A B (2*i)=(A i).map (aR.re ml):=by
 unfold fF
 rw[atK (by omega),show 2*i/2=i from by omega]
theorem pH(A B:Nat→Option aR)(i:Nat):fF A B (2*i+1)=(B i).map (aR.re mr):=by
 unfold fF
 rw[atL (by omega),show(2*i+1)/2=i from by omega]
theorem ff{A B:Nat→Option aR}{i:Nat}{e:aR}(h:A i=some e):fF A B (2*i)=some (e.re ml):=by rw[tt,h];rfl
theorem pI{A B:Nat→Option aR}{i:Nat}{e:aR}(h:B i=some e):fF A B (2*i+1)=some (e.re mr):=by rw[pH,h];rfl
theorem CN{A B:Nat→Option aR}{i:Nat}:fF A B (2*i)≠none↔A i≠none:=by rw[tt];cases A i<;>simp
theorem CO{A B:Nat→Option aR}{i:Nat}:fF A B (2*i+1)≠none↔B i≠none:=by rw[pH];cases B i<;>simp
theorem mX(A B:Nat→Option aR)(i:Nat)(v:Option aR):bo (fF A B) (2*i) (v.map (aR.re ml))=fF (bo A i v) B:=by
 funext k
 by_cases hk:k=2*i
 ·subst hk;rw[ak,tt,ak]
 ·rw[al _ _ hk]
  unfold fF
  by_cases h2:k%2=0
  ·rw[atK h2,atK h2,al _ _ (by omega)]
  ·rw[atL h2,atL h2]
theorem yQ(A B:Nat→Option aR)(i:Nat)(v:Option aR):bo (fF A B) (2*i+1) (v.map (aR.re mr))=fF A (bo B i v):=by
 funext k
 by_cases hk:k=2*i+1
 ·subst hk;rw[ak,pH,ak]
 ·rw[al _ _ hk]
  unfold fF
  by_cases h2:k%2=0
  ·rw[atK h2,atK h2]
  ·rw[atL h2,atL h2,al _ _ (by omega)]
theorem yR(A B:Nat→Value)(i:Nat)(v:Value):cn (mix A B) (2*i+1) v=mix A (cn B i v):=by
 funext k
 unfold cn mix
 by_cases hk:k=2*i+1
 ·subst hk;rw[atK rfl,atL (by omega)]
  show v=if(2*i+1)/2=i then v else B ((2*i+1)/2)
  rw[atK (by omega)]
 ·rw[atL hk]
  by_cases h2:k%2=0
  ·rw[atK h2,atK h2]
  ·rw[atL h2,atL h2]
   show B (k/2)=if k/2=i then v else B (k/2)
   rw[atL (by omega)]
theorem Mem.left{H A:Nat→Option aR}{νA:Nat→Value}(h:Mem c (fF H A) w M (mix ν νA)):Mem c H w M ν:=
 ⟨fun i e hi=>by have:=h.iT (2*i) _ (ff hi);rw[e9]at this;exact ER.re.1 this,
  fun i j e e' b nX hi hm hj gP=>by have:=h.vy (2*i) (2*j) _ _ b (by omega) (ff hi) (aR.mW.2 hm) (ff hj) (aR.mW.2 gP);rwa [e9,e9]at this,
  fun i e b hi hm=>by have:=h.new (2*i) _ b (ff hi) (aR.mW.2 hm);rwa [e9]at this,
  fun i e l b hi=>by have:=h.tY (2*i) e l b (ff hi);rwa [e9]at this,
  fun i τ x p j hi=>by
   obtain⟨h1,b,h2,h3⟩:=h.dY (2*i) τ x p (ml j) (ff hi)
   rw[e9]at h2
   unfold ml at h1 h3
   rw[e9]at h3
   exact⟨CN.1 h1,b,h2,h3⟩,
  h.sub,h.yz,h.frame,h.size,h.qL,h.os,h.tape,h.output⟩
theorem Mem.right{H A:Nat→Option aR}{νA:Nat→Value}(h:Mem c (fF H A) w M (mix ν νA)):Mem c A w M νA:=
 ⟨fun i e hi=>by have:=h.iT (2*i+1) _ (pI hi);rw[qy]at this;exact ER.re.1 this,
  fun i j e e' b nX hi hm hj gP=>by have:=h.vy (2*i+1) (2*j+1) _ _ b (by omega) (pI hi) (aR.mW.2 hm) (pI hj) (aR.mW.2 gP);rwa [qy,qy]at this,
  fun i e b hi hm=>by have:=h.new (2*i+1) _ b (pI hi) (aR.mW.2 hm);rwa [qy]at this,
  fun i e l b hi=>by have:=h.tY (2*i+1) e l b (pI hi);rwa [qy]at this,
  fun i τ x p j hi=>by
   obtain⟨h1,b,h2,h3⟩:=h.dY (2*i+1) τ x p (mr j) (pI hi)
   rw[qy]at h2
   unfold mr at h1 h3
   rw[qy]at h3
   exact⟨CO.1 h1,b,h2,h3⟩,
  h.sub,h.yz,h.frame,h.size,h.qL,h.os,h.tape,h.output⟩
theorem Mem.Rt{H:Nat→Option aR}(νA:Nat→Value)(h:Mem c H w M ν):Mem c (fF H (fun _=>none)) w M (mix ν νA):=by
 have key: ∀i e,fF H (fun _=>none) i=some e→ ∃j e0,i=2*j∧H j=some e0∧e=e0.re ml:=by
  intro i e hi
  unfold fF at hi
  by_cases h2:i%2=0
  ·rw[atK h2]at hi
   obtain⟨e0,h3,h4⟩:=avL.1 hi
   exact⟨i/2,e0,by omega,h3,h4.symm⟩
  ·rw[atL h2]at hi;cases hi
 refine⟨fun i e hi=> ?_,fun i j e e' b nX hi hm hj gP=> ?_,fun i e b hi hm=> ?_,fun i e l b hi=> ?_,fun i τ x p j hi=> ?_,h.sub,h.yz,h.frame,h.size,h.qL,h.os,h.tape,h.output⟩
 ·obtain⟨j,e0,rfl,hj,rfl⟩:=key i e hi;rw[e9];exact ER.re.2 (h.iT j e0 hj)
 ·obtain⟨i',e1,rfl,kQ,rfl⟩:=key i e hi;obtain⟨j',e2,rfl,Xl,rfl⟩:=key j e' hj
  rw[e9,e9];exact h.vy i' j' e1 e2 b (by omega) kQ (aR.mW.1 hm) Xl (aR.mW.1 gP)
 ·obtain⟨j,e0,rfl,hj,rfl⟩:=key i e hi;rw[e9];exact h.new j e0 b hj (aR.mW.1 hm)
 ·obtain⟨j,e0,rfl,hj,he⟩:=key i _ hi
  cases e0<;>simp only[aR.re]at he<;>cases he
  rw[e9];exact h.tY j e l b hj
 ·obtain⟨k,e0,rfl,hk,he⟩:=key i _ hi
  cases e0<;>simp only[aR.re]at he<;>cases he
  obtain⟨h1,b,h2,h3⟩:=h.dY k _ _ _ _ hk
  refine⟨CN.2 h1,b,by rw[e9];exact h2,?_⟩
  unfold ml
  rw[e9];exact h3
theorem oJ.left{H A H' A':Nat→Option aR}{νA ν' Ld:Nat→Value}(g:oJ (fF H A) (mix ν νA) (fF H' A') (mix ν' Ld)):oJ H ν H' ν':=
 ⟨fun i e hi=>by
   obtain⟨e',h1,h2⟩:=g.iT (2*i) _ (ff hi)
   rw[tt]at h1
   obtain⟨e0,h3,rfl⟩:=avL.1 h1
   exact⟨e0,h3,aR.JU.1 h2⟩,
  fun i hi=>by have:=g.head (2*i) (CN.2 hi);rwa [e9,e9]at this⟩
theorem oJ.right{H A H' A':Nat→Option aR}{νA ν' Ld:Nat→Value}(g:oJ (fF H A) (mix ν νA) (fF H' A') (mix ν' Ld)):oJ A νA A' Ld:=
 ⟨fun i e hi=>by
   obtain⟨e',h1,h2⟩:=g.iT (2*i+1) _ (pI hi)
   rw[pH]at h1
   obtain⟨e0,h3,rfl⟩:=avL.1 h1
   exact⟨e0,h3,aR.JU.1 h2⟩,
  fun i hi=>by have:=g.head (2*i+1) (CO.2 hi);rwa [qy,qy]at this⟩
theorem Mem.move{H A:Nat→Option aR}{νA:Nat→Value}(h:Mem c (fF H A) w M (mix ν νA)){i j:Nat}{e e1:aR}(hi:H i=some e)(hm:e.mut)(hj:A j=none)
  (H9:(e1=e∧ ∀τ x p k,e≠ .dY τ x p k)∨ ∃τ x p k k',e= .dY τ x p k∧e1= .dY τ x p k'∧A k'≠none∧νA k'=ν k):
  Tr c (fF H A) w M (mix ν νA) (fF (bo H i (some .gone)) (bo A j (some e1))) w M (mix ν (cn νA j (ν i))):=by
 have hg:=Tr.gone h (2*i)
 have hgo:(some aR.gone)=(some aR.gone).map (aR.re ml):=rfl
 rw[hgo,mX]at hg
 have M5:=ff (B:=A) hi
 have hER:ER w M (ν i) (e1.re mr):=by
  have h1:=h.iT (2*i) _ M5
  rw[e9]at h1
  have h1:=ER.re.1 h1
  rcases H9 with⟨rfl,_⟩|⟨τ,x,p,k,k',rfl,rfl,_,_⟩
  ·exact ER.re.2 h1
  ·exact h1
 have h2:=Mem.wI hg.mem (id:=2*j+1) (v:=ν i) (e:=e1.re mr) (fun e' sV=>by rw[pH,hj]at sV;cases sV)
  hER
  (fun b hb k e' hk gP=>by
   by_cases QP:k=2*i
   ·subst QP;rw[tt,ak]at hk;cases hk;simp[aR.re,aR.mut]at gP
   ·have hk3:fF H A k=some e':=by
     have:=congrFun (mX H A i (some .gone)) k
     rw[al _ _ QP]at this
     rw[this];exact hk
    have:=h.vy (2*i) k _ e' b (avr QP) M5 (aR.mW.2 hm) hk3 gP
    rw[e9]at this
    exact this hb)
  (fun b hb=>by have:=h.new (2*i) _ b M5 (aR.mW.2 hm);rw[e9]at this;exact this hb)
  (fun b e0 l0 he hb=>by
   rcases H9 with⟨rfl,_⟩|⟨τ,x,p,k,k',rfl,rfl,_,_⟩
   ·cases e1<;>simp only[aR.re]at he<;>cases he
    have:=h.tY (2*i) e0 l0 b M5;rw[e9]at this;exact this hb
   ·simp[aR.re]at he)
  (.inl (by rw[pH,hj];rfl))
  (fun τ x p k he=>by
   rcases H9 with⟨rfl,hn⟩|⟨τ,x,p,k,k',rfl,rfl,hk,hνk⟩
   ·cases e1<;>simp only[aR.re]at he<;>cases he
    exact absurd rfl (hn _ _ _ _)
   ·simp only[aR.re]at he
    cases he
    obtain⟨_,b,h4,h5⟩:=h.dY (2*i) _ _ _ _ M5
    rw[e9]at h4
    have hkj:k'≠j:=fun e=>hk (e▸hj)
    refine⟨?_,b,h4,?_⟩
    ·rw[al _ _ (by unfold mr;omega)]
     unfold mr
     exact CO.2 hk
    ·unfold ml at h5
     rw[e9]at h5
     rw[h5,←hνk]
     have:cn (mix ν νA) (2*j+1) (ν i) (mr k')=mix ν νA (mr k'):=by
      unfold cn mr;rw[atL (by omega)]
     rw[this];unfold mr;rw[qy])
 have Ru:some (e1.re mr)=(some e1).map (aR.re mr):=rfl
 rw[Ru,yQ,yR]at h2
 refine⟨h2,.refl w M,⟨fun k e' hk=> ?_,fun k hk=> ?_⟩⟩
 ·by_cases h3:k%2=0
  ·obtain⟨k',rfl⟩: ∃k',k=2*k':=⟨k/2,by omega⟩
   by_cases yN:k'=i
   ·subst yN;exact⟨.gone,by rw[tt,ak];rfl,aR.kb _⟩
   ·exact⟨e',by rw[tt]at hk ⊢;rw[al _ _ yN];exact hk,.refl e'⟩
  ·obtain⟨k',rfl⟩: ∃k',k=2*k'+1:=⟨k/2,by omega⟩
   rw[pH]at hk ⊢
   have yN:k'≠j:=fun e=>by rw[e,hj]at hk;cases hk
   exact⟨e',by rw[al _ _ yN];exact hk,.refl e'⟩
 ·by_cases h3:k%2=0
  ·obtain⟨k',rfl⟩: ∃k',k=2*k':=⟨k/2,by omega⟩
   rw[e9,e9]
  ·obtain⟨k',rfl⟩: ∃k',k=2*k'+1:=⟨k/2,by omega⟩
   rw[qy,qy]
   have yN:k'≠j:=fun e=>by rw[pH,e,hj]at hk;exact hk rfl
   simp[cn,yN]
theorem Mem.fresh{H A:Nat→Option aR}{νA:Nat→Value}(h:Mem c (fF H A) w M (mix ν νA)){j:Nat}(hj:A j=none)(e:Ty)(ad:Option Addr):
  Tr c (fF H A) w M (mix ν νA) (fF H (bo A j (some (.own e [])))) w M (mix ν (cn νA j (.slice ad 0 0))):=by
 have:=Tr.nothing h (id:=2*j+1) (by rw[pH,hj];rfl) e ad
 have Ru:some (aR.own e [])=(some (aR.own e [])).map (aR.re mr):=rfl
 rw[Ru,yQ,yR]at this
 exact this
structure Cut(c:Ctx)(σ acc:St)(tm:Array Value)(w:World)(M:Nat→Prop)(ν νA:Nat→Value):Prop where
 mem:Mem c (fF σ.H acc.H) w M (mix ν νA)
 src: ∀i,VR w M σ.H ν (σ.T i) (tm.getD i undef)
 dst: ∀i,VR w M acc.H νA (acc.T i) (tm.getD i undef)
theorem Cut.tr{acc:St}{tm:Array Value}{νA:Nat→Value}(h:Cut c σ acc tm w M ν νA){H' A':Nat→Option aR}{M':Nat→Prop}{Ld:Nat→Value}(t:Tr c (fF σ.H acc.H) w M (mix ν νA) (fF H' A') w M' (mix ν Ld)){s:Nat}{x:aW}(hx:VR w M' A' Ld x (tm.getD s undef)):
  Cut c ⟨σ.T,H'⟩ ⟨(acc.put s x).T,A'⟩ tm w M' ν Ld:=by
 refine⟨t.mem,fun i=>VR.bp t.bp t.goes.left (h.src i),fun i=> ?_⟩
 show VR w M' A' Ld ((acc.put s x).T i) _
 by_cases hi:i=s
 ·subst hi;rw[pG];exact hx
 ·rw[uF _ _ hi];exact VR.bp t.bp t.goes.right (h.dst i)
def NI(A:Nat→Option aR)(s:Nat):Prop:=A (16*s+13)=none∧A (16*s+14)=none∧A (16*s+15)=none
theorem iJ{q:Nat×CM}{L:List (Nat×CM)}{A:Nat→Option aR}(hF:gq (q::L)=true)(hN: ∀p∈q::L,NI A p.1):
  gq L=true∧(∀p∈L,NI A p.1)∧
   ∀(A':Nat→Option aR) (d:Nat) (v:Option aR),(d=16*q.1+13∨d=16*q.1+14∨d=16*q.1+15)→(∀p∈L,NI A' p.1)→ ∀p∈L,NI (bo A' d v) p.1:=by
 unfold gq at hF
 rw[atW,avw]at hF
 refine⟨hF.2,fun p hp=>hN p (atM _ hp),fun A' d v hd hN' p hp=> ?_⟩
 have ib:p.1≠q.1:=fun e=>by
  have:=hF.1 p hp
  rw[e]at this
  simp at this
 obtain⟨h1,h2,h3⟩:=hN' p hp
 exact⟨by rw[al _ _ (by omega)];exact h1,by rw[al _ _ (by omega)];exact h2,by rw[al _ _ (by omega)];exact h3⟩
theorem da{tm:Array Value}: ∀(L:List (Nat×CM)) (σ acc:St) (M:Nat→Prop) (νA:Nat→Value) (K:St→Option α),Cut c σ acc tm w M ν νA→gq L=true→(∀q∈L,NI acc.H q.1)→eT L σ acc K=some r→
  ∃Rv M' Ld,K Rv=some r∧Core c Rv tm w M' Ld
 |[],σ,acc,M,νA,K,hC,_,_,h=>⟨acc,M,νA,h,hC.mem.right,hC.dst⟩
 |(s,.v τ)::L,σ,acc,M,νA,K,hC,hF,hN,h=>by
  obtain⟨xz,HK,Le⟩:=iJ hF hN
  unfold eT at h
  obtain⟨y,rd,ups,h,hy⟩:=yc hC.mem.left (hC.src s) h
  rcases hy with⟨rfl,hV⟩|⟨id,e,l,rfl,aT,hV⟩
  ·exact da L σ _ M νA K (hC.tr (.refl hC.mem) (x:= .val τ y) (by simp only[VR];exact hV)) xz HK h
  ·obtain⟨M2,eY,_,CB⟩:=Tr.freeze hC.mem (id:=2*id) (ff aT)
   have Ru:some (aR.kF e l)=(some (aR.kF e l)).map (aR.re ml):=rfl
   rw[Ru,mX]at eY
   refine da L _ _ M2 νA K (hC.tr eY (x:= .val τ y) ?_) xz HK h
   simp only[VR]
   exact hV M2 (fun b=>by rw[CB b,e9])
 |(s,.own e)::L,σ,acc,M,νA,K,hC,hF,hN,h=>by
  obtain⟨xz,HK,Le⟩:=iJ hF hN
  unfold eT at h
  have hs:=hC.src s
  split at h
  ·rename_i hT
   have hj:=(hN _ atS).2.1
   rw[hT]at hs
   obtain⟨ad,hv⟩:=VR.emp.1 hs
   refine da L σ _ M _ K (hC.tr (hC.mem.fresh hj e ad) (x:= .ref (16*s+14)) ?_) xz (Le _ _ _ (.inr (.inl rfl)) HK) h
   simp only[VR]
   exact⟨by rw[ak];simp,by rw[hv];simp[cn]⟩
  ·rename_i id hT
   rw[hT]at hs
   simp only[VR]at hs
   split at h
   ·rename_i e' l aT
    obtain⟨e1,h⟩:=aY h
    cases e1
    have hj:=(hN _ atS).2.1
    refine da L _ _ M _ K (hC.tr (hC.mem.move aT trivial hj (.inl ⟨rfl,fun _ _ _ _=>by simp⟩)) (x:= .ref (16*s+14)) ?_) xz (Le _ _ _ (.inr (.inl rfl)) HK) h
    simp only[VR]
    exact⟨by rw[ak];simp,by rw[hs.2];simp[cn]⟩
   ·cases h
  ·cases h
 |(s,.obj τ)::L,σ,acc,M,νA,K,hC,hF,hN,h=>by
  obtain⟨xz,HK,Le⟩:=iJ hF hN
  unfold eT at h
  have hs:=hC.src s
  split at h
  ·rename_i id hT
   rw[hT]at hs
   split at h
   ·rename_i υ x aT
    obtain⟨e1,h⟩:=aY h
    subst e1
    have hj:=(hN _ atS).2.1
    simp only[VR]at hs
    obtain⟨e,he,jO⟩:=hs
    rw[aT]at he;cases he
    simp only[AR]at jO
    obtain⟨_,b,hb,hv⟩:=jO
    refine da L _ _ M _ K (hC.tr (hC.mem.move aT trivial hj (.inl ⟨rfl,fun _ _ _ _=>by simp⟩)) (x:= .fA (16*s+14) []) ?_) xz (Le _ _ _ (.inr (.inl rfl)) HK) h
    simp only[VR]
    exact⟨_,ak _ _ _,trivial,b,by simp[cn,hb],hv⟩
   ·
    rename_i υ x q k aT
    obtain⟨z,ups,M2,hK,eY,ad3,b,cs,t,hb,hg,CB,g4⟩: ∃z ups M2,ca υ τ z (fun y=>eT L ((σ.qT ups).g6 id (some .gone)) ((acc.put s (.fA (16*s+14) [])).g6 (16*s+14) (some (.obj τ y))) K)=some r∧
      Tr c (fF σ.H acc.H) w M (mix ν νA) (fF (bU σ.H ups) acc.H) w M2 (mix ν νA)∧bU σ.H ups id=some (.dY υ x q k)∧ ∃b cs t,ν id= .pointer (some ⟨b,0,none⟩)∧w.heap[b]? =some (.cells cs t (0,0))∧M2 b∧Rd w M2 υ cs.toList z:=by
     have ad4:=ff (B:=acc.H) aT
     unfold xj at h
     split at h
     ·rename_i e l hk
      have ib:id≠k:=fun e=>by rw[e,hk]at aT;cases aT
      obtain⟨z,ups,M2,hK,eY,_,YM,b,cs,t,hb,hg,CB,g4⟩:=tj (H:=fF σ.H acc.H) hC.mem (id:=2*id) (j:=2*k) (x:=x) (q:=q)
       (k:=fun z _=>ca υ τ z fun y=>eT L ((σ.qT [(k,some (.kF e l))]).g6 id (some .gone)) ((acc.put s (.fA (16*s+14) [])).g6 (16*s+14) (some (.obj τ y))) K) ad4 (by
        unfold xj
        rw[ff hk]
        exact h)
      rw[e9]at hb
      rcases YM with⟨e2,l2,h2,_⟩|⟨e2,l2,h2,rfl⟩
      ·rw[ff hk]at h2;simp[aR.re]at h2
      ·rw[ff hk]at h2
       simp only[aR.re,auF]at h2
       have Ru:some (aR.kF e l)=(some (aR.kF e l)).map (aR.re ml):=rfl
       have q6:Tr c (fF σ.H acc.H) w M (mix ν νA) (bo (fF σ.H acc.H) (2*k) (some (.kF e l))) w M2 (mix ν νA):=by
        cases h2;exact eY
       rw[Ru,mX]at q6
       exact⟨z,_,M2,hK,q6,by show bo σ.H k _ id=_;rw[al _ _ ib];exact aT,b,cs,t,hb,hg,CB,g4⟩
     ·rename_i e l hk
      obtain⟨z,ups,M2,hK,eY,_,YM,b,cs,t,hb,hg,CB,g4⟩:=tj (H:=fF σ.H acc.H) hC.mem (id:=2*id) (j:=2*k) (x:=x) (q:=q)
       (k:=fun z _=>ca υ τ z fun y=>eT L ((σ.qT []).g6 id (some .gone)) ((acc.put s (.fA (16*s+14) [])).g6 (16*s+14) (some (.obj τ y))) K) ad4 (by
        unfold xj
        rw[ff hk]
        exact h)
      rw[e9]at hb
      rcases YM with⟨e2,l2,h2,rfl⟩|⟨e2,l2,h2,_⟩
      ·exact⟨z,[],M2,hK,eY,aT,b,cs,t,hb,hg,CB,g4⟩
      ·rw[ff hk]at h2;simp[aR.re]at h2
     ·cases h
    obtain⟨e1,hK⟩:=aY hK
    subst e1
    have hC2:Cut c ⟨σ.T,bU σ.H ups⟩ acc tm w M2 ν νA:=⟨eY.mem,fun i=>VR.bp eY.bp eY.goes.left (hC.src i),fun i=>VR.bp eY.bp eY.goes.right (hC.dst i)⟩
    have rf:=Tr.KX (e':= .obj υ z) eY.mem (ff ad3) trivial trivial rfl (fun _ _=>by simp) (by rw[e9];simp only[ER];exact⟨b,cs,t,hb,hg,CB,g4⟩) (fun _ _ _ _ h=>by cases h)
    have Ru:some (aR.obj υ z)=(some (aR.obj υ z)).map (aR.re ml):=rfl
    rw[Ru,mX]at rf
    have hC3:Cut c ⟨σ.T,bo (bU σ.H ups) id (some (.obj υ z))⟩ acc tm w M2 ν νA:=⟨rf.mem,fun i=>VR.bp rf.bp rf.goes.left (hC2.src i),fun i=>VR.bp rf.bp rf.goes.right (hC2.dst i)⟩
    have hj:=(hN _ atS).2.1
    simp only[VR]at hs
    obtain⟨e,he,jO⟩:=hs
    rw[aT]at he;cases he
    simp only[AR]at jO
    obtain⟨_,b',dx,hv⟩:=jO
    rw[hb]at dx;cases dx
    have hmv:=hC3.mem.move (ak _ _ _) trivial hj (.inl ⟨rfl,fun _ _ _ _=>by simp⟩)
    rw[ti]at hmv
    have q4:(σ.qT ups).g6 id (some .gone)=⟨σ.T,bo (bU σ.H ups) id (some .gone)⟩:=by
     have h2:σ.qT ups=⟨σ.T,bU σ.H ups⟩:=by rw[←H7,←H8 ups σ]
     rw[h2];rfl
    rw[q4]at hK
    refine da L _ _ M2 _ K (hC3.tr hmv (x:= .fA (16*s+14) []) ?_) xz (Le _ _ _ (.inr (.inl rfl)) HK) hK
    simp only[VR]
    exact⟨_,ak _ _ _,trivial,b,by simp[cn,hb],hv⟩
   ·cases h
  ·cases h
 |(s,.dY τ q e)::L,σ,acc,M,νA,K,hC,hF,hN,h=>by
  obtain⟨xz,HK,Le⟩:=iJ hF hN
  unfold eT at h
  have hs:=hC.src s
  split at h
  ·rename_i id hT
   rw[hT]at hs
   split at h
   ·rename_i υ x q' k aT
    obtain⟨hpq,h1⟩:=bB h
    clear h
    have:=vC hpq
    subst this
    split at h1
    ·rename_i e' l hk
     obtain⟨e1,h2⟩:=aY h1
     clear h1
     subst e1
     obtain⟨e2,h⟩:=aY h2
     cases e2
     have ib:id≠k:=fun e=>by rw[e,hk]at aT;cases aT
     obtain⟨ajA,ajB,_⟩:=hN _ atS
     simp only[VR]at hs
     obtain⟨e,he,jO⟩:=hs
     rw[aT]at he;cases he
     simp only[AR]at jO
     obtain⟨_,b,hb,hv⟩:=jO
     have o6:=hC.mem.move hk trivial ajA (.inl ⟨rfl,fun _ _ _ _=>by simp⟩)
     have lG:bo σ.H k (some .gone) id=some (.dY υ x q k):=by rw[al _ _ ib];exact aT
     have ur:=o6.mem.move lG trivial (j:=16*s+14) (e1:= .dY υ x q (16*s+13)) (by rw[al _ _ (by omega)];exact ajB)
      (.inr ⟨υ,x,q,k,16*s+13,rfl,rfl,by rw[ak];simp,by simp[cn]⟩)
     refine da L _ _ M _ K (hC.tr (o6.trans ur) (s:=s) (x:= .fA (16*s+14) []) ?_) xz (Le _ _ _ (.inr (.inl rfl)) (Le _ _ _ (.inl rfl) HK)) h
     simp only[VR]
     exact⟨_,ak _ _ _,trivial,b,by simp[cn,hb],hv⟩
    ·cases h1
   ·cases h
  ·cases h
 |(s,.same s')::L,σ,acc,M,νA,K,hC,hF,hN,h=>by
  obtain⟨xz,HK,Le⟩:=iJ hF hN
  unfold eT at h
  split at h
  ·rename_i i j j' h1 h2 h3
   obtain⟨hb,h⟩:=bB h
   have hb:=auj hb
   have e1:=hC.src s
   have e2:=hC.src s'
   have e3:=hC.dst s'
   rw[h1]at e1;rw[h2]at e2;rw[h3]at e3
   simp only[VR]at e1 e2 e3
   refine da L σ _ M νA K (hC.tr (.refl hC.mem) (x:= .ref j') ?_) xz HK h
   simp only[VR]
   exact⟨e3.1,by rw[e1.2,hb,←e2.2,e3.2]⟩
  ·cases h
 |(s,.io τ)::L,σ,acc,M,νA,K,hC,hF,hN,h=>by
  obtain⟨xz,HK,Le⟩:=iJ hF hN
  unfold eT at h
  have hs:=hC.src s
  split at h
  ·rename_i id hT
   rw[hT]at hs
   obtain⟨_,h⟩:=bB h
   split at h
   ·rename_i υ x aT
    obtain⟨e1,h⟩:=aY h
    subst e1
    have hj:=(hN _ atS).2.2
    simp only[VR]at hs
    obtain⟨e,he,jO⟩:=hs
    rw[aT]at he;cases he
    simp only[AR]at jO
    obtain⟨_,b,hb,hv⟩:=jO
    refine da L _ _ M _ K (hC.tr (hC.mem.move aT trivial hj (.inl ⟨rfl,fun _ _ _ _=>by simp⟩)) (x:= .fA (16*s+15) []) ?_) xz (Le _ _ _ (.inr (.inr rfl)) HK) h
    simp only[VR]
    exact⟨_,ak _ _ _,trivial,b,by simp[cn,hb],hv⟩
   ·cases h
  ·cases h
 |(s,.fn f τ)::L,σ,acc,M,νA,K,hC,hF,hN,h=>by
  obtain⟨xz,HK,Le⟩:=iJ hF hN
  unfold eT at h
  have hs:=hC.src s
  split at h
  ·rename_i f' cs hT
   rw[hT]at hs
   obtain⟨hb,h1⟩:=bB h
   clear h
   have hb:=auj hb
   subst hb
   simp only[VR]at hs
   obtain⟨us,hv,Rg⟩:=hs
   obtain⟨y,rd,ups,h,hy⟩:=yL hC.mem.left Rg h1
   split at h
   ·refine da L σ _ M νA K (hC.tr (.refl hC.mem) (x:= .D7 f (lR τ y)) ?_) xz HK h
    simp only[VR]
    exact⟨us,hv,fN.free (hy rfl)⟩
   ·cases h
  ·cases h
theorem tu(hI:Inv c E σ a w){L:Option (List (Nat×CM))}(hL: ∀L',L=some L'→gq L'=true){K:St→Option α}(h:qZ L σ K=some r): ∃σ',K σ'=some r∧Inv c E σ' a w:=by
 unfold qZ at h
 split at h
 ·exact⟨σ,h,hI⟩
 ·have Xj:=hL _ rfl
  obtain⟨⟨M,ν,hc⟩,hs,hd⟩:=hI
  obtain⟨Rv,M',Ld,hK,ad5⟩:=da (tm:=a.tmps) _ σ ⟨fun _=> .any,fun _=>none⟩ M (fun _=>undef) K ⟨hc.mem.Rt _,hc.tmp,fun i=>by simp[VR]⟩ Xj (fun _ _=>⟨rfl,rfl,rfl⟩) h
  exact⟨Rv,hK,⟨M',Ld,ad5⟩,hs,hd⟩
end VM
end
