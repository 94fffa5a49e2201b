/- A part of the proof of BookDrawn of layer 18: what the functions compute, in plain words. -/
import Derived.Test.YtecmobijochjkaaGreatPlain7
import Derived.Test.YtecmobijochjkaaGreatPlain5
set_option linter.all false
open List renaming getD→γ
noncomputable section
section
namespace VM
open Go VM.F
theorem MY{b:an}{s e:au}(h:(dD b s e).2=0):(dD b s e).1.2.2.2.2=b.2.2.2.2∧(dD b s e).1.1=b.1∧(dD b s e).1.2.1=b.2.1:=by
 have n2: ¬(2:Int)=0:=δ
 unfold dD at h ⊢
 cases h1:eG Fq (fS b.2.2.2.1 s) jW with
 |none=>rw[h1]at h;exact absurd h n2
 |some s'=>
  rw[h1]at h
  cases hc:eG aF (fS b.2.2.1 e) nL with
  |none=>dsimp only at h;rw[hc]at h;exact absurd h n2
  |some r'=>exact⟨rfl,rfl,rfl⟩
def Qm(m:an)(ps:List Int)(i p:Int):an:=(m.1,(m.2.1,(m.2.2.1,(m.2.2.2.1,(List.set ps i.toNat p,m.2.2.2.2.2)))))
def ik(c:ae)(b:an)(i p:Int):an×au×Int:=
 if de c b then(if c0 p then(if 0≤i∧i<(c.1.length:Int)then
  (if(dD b [] (gC i (p-b.2.2.2.2.1.getD i.toNat 0) b.2.2.2.1)).2=0 then
    (Qm (dD b [] (gC i (p-b.2.2.2.2.1.getD i.toNat 0) b.2.2.2.1)).1 b.2.2.2.2.1 i p,gC i (p-b.2.2.2.2.1.getD i.toNat 0) b.2.2.2.1,0)
   else((ch,(cT,(bq,(bq,(dg,(du,())))))),[],(dD b [] (gC i (p-b.2.2.2.2.1.getD i.toNat 0) b.2.2.2.1)).2))else((ch,(cT,(bq,(bq,(dg,(du,())))))),[],3))else((ch,(cT,(bq,(bq,(dg,(du,())))))),[],1))else((ch,(cT,(bq,(bq,(dg,(du,())))))),[],1)
theorem Lh:Pk []:=⟨λx hx=>(nomatch hx),λx hx=>(nomatch hx),bw _,λi=>rfl⟩
theorem aaW{q d:Int}(hq:aF q)(hd: -1000000000000≤d∧d≤1000000000000):cE (q*d):=by
 have h1:(q*d).natAbs≤9223372036854775808*1000000000000:=by
  rw[Gm]
  unfold aF at hq
  exact uO ω ω
 unfold cE
 omega
theorem Az{c:ae}{b:an}(h:de c b=true)(hq:eO b.2.2.2.1)(hl:b.2.2.2.1.length≤400){i d:Int}(hi:0≤i∧i<(c.1.length:Int))(hd: -1000000000000≤d∧d≤1000000000000):Pn (gC i d b.2.2.2.1):=by
 have hs:=EF h
 have xd:=(eU (eg h).2).2
 refine⟨λx hx=> ?_,λx hx=> ?_,cA (IC _ _ _) hl,?_⟩
 ·obtain⟨y,hy,_,e⟩:=wJ hx
  have:=(xd y hy).1
  unfold cc at this
  rw[e];exact HS ⟨this.1,this.2.1⟩
 ·obtain⟨y,hy,_,e⟩:=wJ hx
  rw[e,gN];exact aaW (hq y hy) hd
 ·rw[ID]
  split
  ·have h6:=(tW hs.2).1
   have hf:=hs.1
   unfold ox at hf
   have h1:=bA (dd.1 hf).1 i.toNat (by unfold ky;omega)
   unfold sN dI rB at h1
   rw[ak (dd.1 hf).2]at h1
   have e:((i.toNat:Nat):Int)=i:=ω
   rw[e]at h1
   rw[h1];simp
  ·rfl
theorem AA{l:List Int}(h:fg l=true){i:Nat}(hi:i<l.length){p:Int}(hp:c0 p): -1000000000000≤p-l.getD i 0∧p-l.getD i 0≤1000000000000:=by
 have:=qp h hi
 unfold c0 at this hp;omega
theorem XE(N:Nat)(b:an)(s:au)(e:cR):alI N b s e=F68 N b s e:=rfl
theorem Ve(N:Nat)(hN:4000000≤N)(c:ae){b:an}(w:oF b)(hl:b.2.2.2.1.length≤400)(i p:Int):
  F42 N c b i p=some ((ik c b i p).1,(ik c b i p).2.1.map ig,(ik c b i p).2.2):=by
 unfold F42 ik
 rw[we N hN w.w,ar,sT,ar,cond_not,cond_not]
 by_cases hB:de c b=true
 rotate_left
 ·rw[ah hB];rw[lK]at hB;rw[hB];rfl
 rw[ak hB,hB,aj]
 by_cases hp:c0 p
 rotate_left
 ·rw[ah hp,bu hp];rfl
 rw[ak hp,aV hp,aj,bZ,ct]
 by_cases h0:i<0
 ·rw[ak h0,ah (λh=>ω)];rfl
 rw[ah h0]
 by_cases h1:(c.1.length:Int)≤i
 ·rw[ak h1,ah (λh=>ω)];rfl
 rw[ah h1,ak (show 0≤i∧i<(c.1.length:Int)by omega)]
 have BA:=eH hB
 have Bp:i.toNat<b.2.2.2.2.1.length:=by rw[BA.1];omega
 have kg:bf i b.2.2.2.2.1.length=true:=aU ω (by rw[BA.1];omega)
 have xd:=eg hB
 have FB:pY b.2.2.2.1 i (b.2.2.2.2.1.getD i.toNat 0) p=(gC i (p-b.2.2.2.2.1.getD i.toNat 0) b.2.2.2.1,0):=by
  unfold pY
  rw[ak xd.2,ak (qp BA.2 Bp),ak hp]
 have LO:=Az hB w.w.qs hl (i:=i) ⟨ω,ω⟩ (AA BA.2 Bp hp)
 rw[kg,aj,XB N w.w.qs w.w.s ω,ar,FB,XE,Ps N ω w.w xd.1 xd.2 w.r w.s Lh LO,ar,cond_not,aI]
 by_cases hm:(dD b [] (gC i (p-b.2.2.2.2.1.getD i.toNat 0) b.2.2.2.1)).2=0
 ·have YL:=MY hm
  rw[ak hm,ak hm]
  unfold Qm
  rw[YL.1,kg];rfl
 ·rw[ah hm,ah hm];rfl
theorem aaX(N:Nat)(hN:5000000≤N)(c:ae){b:an}(w:oF b)(hl:b.2.2.2.1.length≤400)(i p:Int):
  MK N c b i p=some ((ik c b i p).1,(ik c b i p).2.1.map ga,(ik c b i p).2.2):=by
 unfold MK ik
 rw[sO N hN w.w,ar,sR,ar,cond_not,cond_not]
 by_cases hB:de c b=true
 rotate_left
 ·rw[ah hB];rw[lK]at hB;rw[hB];rfl
 rw[ak hB,hB,aj]
 by_cases hp:c0 p
 rotate_left
 ·rw[ah hp,bu hp];rfl
 rw[ak hp,aV hp,aj,bZ,ct]
 by_cases h0:i<0
 ·rw[ak h0,ah (λh=>ω)];rfl
 rw[ah h0]
 by_cases h1:(c.1.length:Int)≤i
 ·rw[ak h1,ah (λh=>ω)];rfl
 rw[ah h1,ak (show 0≤i∧i<(c.1.length:Int)by omega)]
 have BA:=eH hB
 have Bp:i.toNat<b.2.2.2.2.1.length:=by rw[BA.1];omega
 have kg:bf i b.2.2.2.2.1.length=true:=aU ω (by rw[BA.1];omega)
 have xd:=eg hB
 have FB:pY b.2.2.2.1 i (b.2.2.2.2.1.getD i.toNat 0) p=(gC i (p-b.2.2.2.2.1.getD i.toNat 0) b.2.2.2.1,0):=by
  unfold pY
  rw[ak xd.2,ak (qp BA.2 Bp),ak hp]
 have LO:=Az hB w.w.qs hl (i:=i) ⟨ω,ω⟩ (AA BA.2 Bp hp)
 have hp5:=w.w.p
 rw[kg,aj,XC N w.w.qs w.w.s ω,ar,FB,UQ N ω w.w xd.1 xd.2 w.r w.s Lh LO,ar,cond_not,aI]
 by_cases hm:(dD b [] (gC i (p-b.2.2.2.2.1.getD i.toNat 0) b.2.2.2.1)).2=0
 ·rw[ak hm,ak hm,bH (by rw[ca];omega),aj,cB]
  dsimp only
  rw[kg];rfl
 ·rw[ah hm,ah hm];rfl
def oR(m:Int):aO→List Int
 |[]=>[]
 |x::t=>if x.2.1=m then x.1::oR m t else oR m t
theorem IE(m:Int): ∀l:aO,(oR m l).length≤l.length
 |[]=>aH _
 |x::t=>by
  have:=IE m t
  show(if x.2.1=m then x.1::oR m t else oR m t).length≤t.length+1
  split
  ·rw[aT];omega
  ·omega
def uj(a:aO)(m:Int):List Int:=if gL a then oR m a else []
theorem aaY(N:Nat){a:aO}(hl:a.length≤100000)(hN:200000≤N)(m:Int):qF N a m=some (uj a m):=by
 unfold qF qF.b uj
 rw[Me N hl hN,ar,cond_not]
 have:=ll a ba (λn i s=>qF.l5 N n m s a (a.length:Int) i) (λt s=>some (s++oR m t)) (λi (s:List Int)=>s.length≤i) (λn i s hi hI hr=> ?_) (λn s hI=> ?_) a.length N 0 [] ω ω ω (aH _)
 ·rw[cJ,cB]at this
  have e:qF.l5 N N m [] a (a.length:Int) 0=some (oR m a):=this
  rw[e];cases gL a<;>rfl
 ·unfold qF.l5 qF.dU
  rw[aQ ω,aj,aU ω ω,aj,aG,aw (x:=(i:Int)+1) ω ω,af i,aI,bH (by rw[aK];omega),aj]
  show _=some (s++(if(a.getD i ba).2.1=m then(a.getD i ba).1::oR m (a.drop (i+1))else oR m (a.drop (i+1))))
  by_cases hx:(a.getD i ba).2.1=m
  ·rw[ak hx,ak hx]
   refine Eq.trans (hr (s++[(a.getD i ba).1]) (by rw[aS,aK];omega)) ?_
   rw[bD];rfl
  ·rw[ah hx,ah hx]
   exact hr s ω
 ·unfold qF.l5 qF.dU
  rw[aP ω,av]
  show some s=some (s++[])
  rw[cy]
theorem XF(N:Nat){a:aO}(hl:a.length≤100000)(hN:200000≤N)(m:Int):mT N a m=some (uj a m):=by
 unfold mT mT.b uj
 rw[sL N hl hN,ar,cond_not]
 have:=ll a ba (λn i s=>mT.l5 N n a m s i) (λt s=>some (s++oR m t)) (λi (s:List Int)=>s.length≤i) (λn i s hi hI hr=> ?_) (λn s hI=> ?_) a.length N 0 [] ω ω ω (aH _)
 ·rw[cJ,cB]at this
  have e:mT.l5 N N a m [] 0=some (oR m a):=this
  rw[e];cases gL a<;>rfl
 ·unfold mT.l5 mT.dU
  rw[aQ ω,aj,aU ω ω,aj,aG,aw (x:=(i:Int)+1) ω ω,af i,aI,aj,bH (by rw[aK];omega),aj]
  show _=some (s++(if(a.getD i ba).2.1=m then(a.getD i ba).1::oR m (a.drop (i+1))else oR m (a.drop (i+1))))
  by_cases hx:(a.getD i ba).2.1=m
  ·rw[ak hx,ak hx]
   refine Eq.trans (hr (s++[(a.getD i ba).1]) (by rw[aS,aK];omega)) ?_
   rw[bD];rfl
  ·rw[ah hx,ah hx]
   exact hr s ω
 ·unfold mT.l5 mT.dU
  rw[aP ω,av]
  show some s=some (s++[])
  rw[cy]
theorem zq{α:Type}{l:List α}{i:Nat}(h:i<l.length)(d:α):l.take (i+1)=l.take i++[l.getD i d]:=by
 rw[List.take_add_one,aW,bl h];rfl
def Tx(l:List Int)(x:Int):Bool:=l.any λa=>decide (a=x)
theorem Qn(N:Nat){l:List Int}(hl:l.length≤100000)(x:Int): ∀(m n i:Nat),l.length-i≤m→m<n→i≤l.length→ ∃r,tf.l2 N n l x (l.length:Int) (i:Int)=some r∧dx 0 r=Tx (l.drop i) x
 |m,0,i,_,hn,_=>ω
 |m,n+1,i,hm,hn,hi=>by
  unfold tf.l2 tf.fI
  by_cases h:i<l.length
  ·rw[aQ ω,aj,aU ω ω,aj,aG,aI,aw (x:=(i:Int)+1) ω ω,af i,drop_cons h 0]
   by_cases hx:x=l.getD i 0
   ·rw[ak hx]
    refine⟨_,rfl,?_⟩
    unfold Tx
    rw[A4,aV hx.symm,m8,aV ω];rfl
   ·rw[ah hx]
    obtain⟨r,h1,h2⟩:=Qn N hl x (m-1) n (i+1) ω ω ω
    refine⟨r,h1,h2.trans ?_⟩
    unfold Tx
    rw[A4,bu (λe=>hx e.symm),p7]
  ·rw[aP ω,av,jN ω]
   exact⟨_,rfl,by rw[m8];rfl⟩
theorem Qo(N:Nat){l:List Int}(hl:l.length≤100000)(hN:200000≤N)(x:Int):ad7 N l x=some (Tx l x):=by
 unfold ad7 tf tf.b
 obtain⟨r,h1,h2⟩:=Qn N hl x l.length N 0 ω ω ω
 rw[cJ]at h2
 rw[show tf.l2 N N l x (l.length:Int) 0=some r from h1,ar,h2]
def vr(accs:List Int)(o:fX):Bool:=Tx accs o.2.1
theorem Qp(N:Nat){accs:List Int}(hl:accs.length≤100000)(hN:200000≤N)(o:fX):aaZ N o accs=some (vr accs o):=by
 unfold aaZ vr
 rw[Qo N hl hN,ar]
theorem EG(N:Nat){accs:List Int}(ha:accs.length≤100000)(hN:200000≤N){l:aY}(hl:l.length≤100000): ∀(m n i:Nat),l.length-i≤m→m<n→i≤l.length→(∀x∈l.take i,vr accs x=false)→
  (qY.l2 N n l ((accs,()),()) (l.length:Int) (i:Int)=some (-1)∧ ∀x∈l,vr accs x=false)∨
  ∃k:Nat,qY.l2 N n l ((accs,()),()) (l.length:Int) (i:Int)=some (k:Int)∧k<l.length∧(∀x∈l.take k,vr accs x=false)∧vr accs (l.getD k dS)=true
 |m,0,i,_,hn,_,_=>ω
 |m,n+1,i,hm,hn,hi,hp=>by
  unfold qY.l2 qY.fI
  by_cases h:i<l.length
  ·rw[aQ ω,aj,aU ω ω,aj,aG,Qp N ha hN,ar,aw (x:=(i:Int)+1) ω ω,af i]
   cases hx:vr accs (l.getD i dS)
   ·refine EG N ha hN hl (m-1) n (i+1) ω ω ω (λx o7=> ?_)
    rw[zq h dS,bn,cw]at o7
    rcases o7 with o7|o7
    ·exact hp x o7
    ·rw[o7];exact hx
   ·exact .inr ⟨i,rfl,h,hp,hx⟩
  ·rw[aP ω,av]
   refine .inl ⟨rfl,λx hx=>hp x ?_⟩
   rw[iG ω];exact hx
def tg(accs:List Int)(l:aY):aY:=l.filter λo=> !vr accs o
theorem Qq{accs:List Int}{l:aY}(h: ∀x∈l,vr accs x=false):tg accs l=l:=by
 unfold tg
 rw[List.filter_eq_self]
 intro x hx;rw[h x hx];rfl
theorem Qr(accs:List Int)(l:aY):(tg accs l).length≤l.length:=NU _ _
theorem IF(N:Nat){accs:List Int}(ha:accs.length≤100000)(hN:200000≤N){l:aY}(hl:l.length≤100000): ∀(m n i j:Nat) (x:aY),l.length-j≤m→m<n→j≤l.length→i≤j→x.length=l.length→x.take i=tg accs (l.take j)→x.drop j=l.drop j→
  th.l5 N n x ((accs,()),()) (i:Int) (j:Int)=some (tg accs l)
 |m,0,i,j,x,_,hn,_,_,_,_,_=>ω
 |m,n+1,i,j,x,hm,hn,hj,qI,hxl,ht,hd=>by
  unfold th.l5 th.dU
  by_cases h:j<l.length
  ·have hg:x.getD j dS=l.getD j dS:=by
    have h1:=e7 (λt=>t.getD 0 dS) hd
    simpa [aW]using h1
   have htk:l.take (j+1)=l.take j++[l.getD j dS]:=zq h dS
   rw[aQ ω,aj,aU ω ω,aj,aG,hg,Qp N ha hN,ar,aw (x:=(j:Int)+1) ω ω,af j,aU ω ω,aj,aG,aw (x:=(i:Int)+1) ω ω,af i]
   have hd2:x.drop (j+1)=l.drop (j+1):=by rw[←iJ,←iJ,hd]
   cases hx:vr accs (l.getD j dS)
   ·refine IF N ha hN hl (m-1) n (i+1) (j+1) _ ω ω ω ω (by rw[bU];exact hxl) ?_ ?_
    ·have e1:tg accs (l.take (j+1))=tg accs (l.take j)++[l.getD j dS]:=by
      rw[htk];unfold tg;rw[AW];congr 1
      rw[n7,hx];rfl
     rw[e1,←ht,zq (by rw[bU];omega) dS]
     congr 1
     ·rw[List.take_set_of_le (aH _)]
     ·rw[aW,NT ω];rfl
    ·rw[List.drop_set_of_lt ω];exact hd2
   ·refine IF N ha hN hl (m-1) n i (j+1) x ω ω ω ω hxl ?_ hd2
    rw[htk,ht];unfold tg;rw[AW,n7,hx];simp
  ·have hje:j=l.length:=ω
   subst hje
   rw[im]at ht
   have q5:=Qr accs l
   rw[aP ω,av,sr,aV ω,aj,aG]
   dsimp only
   have hxt:(x.take i).length=i:=by rw[cf];omega
   rw[sr,aV (by rw[aS,c7,hxt];omega),aj,yS ω,iG ω,ht]
   rfl
theorem XG(N:Nat){accs:List Int}(ha:accs.length≤100000)(hN:200000≤N){l:aY}(hl:l.length≤100000):th N l ((accs,()),())=some (tg accs l):=by
 unfold th th.b qY qY.b
 rcases EG N ha hN hl l.length N 0 ω ω ω (λx hx=>by rw[mB]at hx;exact nomatch hx)with⟨h1,h2⟩|⟨k,h1,h2,h3,h4⟩
 ·rw[show qY.l2 N N l ((accs,()),()) (l.length:Int) 0=some (-1)from h1,ar,ec rfl,Qq h2];rfl
 ·rw[show qY.l2 N N l ((accs,()),()) (l.length:Int) 0=some (k:Int)from h1,ar,eN ω,av,aw (x:=(k:Int)+1) ω ω,af k]
  refine IF N ha hN hl l.length N k (k+1) l ω ω ω ω rfl ?_ rfl
  rw[zq h2 dS]
  unfold tg
  rw[AW,n7,h4]
  have:=Qq h3
  unfold tg at this
  rw[this];simp
def IG(l:aY)(accs:List Int):aY:=if dk l then tg accs l else []
theorem ad8(N:Nat){l:aY}{accs:List Int}(ha:accs.length≤100000)(hN:200000≤N)(hl:l.length≤100000):ad9 N l accs=some (IG l accs):=by
 unfold ad9 IG
 rw[C3 N hl hN,ar,cond_not,wj N ω,ar,XG N ha hN hl,ar]
 cases dk l<;>rfl
theorem aa0(N:Nat)(hN:200000≤N)(K:eQ.bL){l:aY}{accs:List Int}(ha:accs.length≤100000)(s:aY){i:Nat}(hi:i<l.length)(hl:l.length≤100000)(hs:s.length≤100000):
  eQ.l9 N K N l accs s (i:Int) false 0=if vr accs (l.getD i dS)then K l accs s ((i+1:Nat):Int)else K l accs (s++[l.getD i dS]) ((i+1:Nat):Int):=by
 have:=ll accs 0 (λn k (v:Bool)=>eQ.l9 N K n l accs s (i:Int) v k) (λt v=>if v||Tx t (l.getD i dS).2.1 then K l accs s ((i+1:Nat):Int)else K l accs (s++[l.getD i dS]) ((i+1:Nat):Int)) (λ_ _=>True) (λn k v hk _ hr=> ?_) (λn v _=> ?_) accs.length N 0 false ω ω ω trivial
 ·rw[cJ]at this
  exact this
 ·unfold eQ.l9 eQ.vd
  rw[aQ ω,aj,aU ω ω,aj,aU ω ω,aj,aG,aG,aw (x:=(k:Int)+1) ω ω,af k]
  cases v
  ·rw[av,hr _ trivial,jP,p7]
   unfold Tx
   rw[A4]
  ·rw[aj,hr _ trivial,A8,A8]
 ·unfold eQ.l9 eQ.vd
  rw[aP ω,av,aU ω ω,aj,aG,bH (by rw[aK];omega),aj,aw (x:=(i:Int)+1) ω ω,af i]
  cases v<;>rfl
theorem XH(N:Nat){l:aY}{accs:List Int}(ha:accs.length≤100000)(hN:200000≤N)(hl:l.length≤100000):eQ N l accs=some (IG l accs):=by
 unfold eQ eQ.b IG
 rw[ib N hl hN,ar,cond_not]
 have:=ll l dS (λn i s=>eQ.l5 N n l accs s i) (λt s=>some (s++tg accs t)) (λi (s:aY)=>s.length≤i) (λn i s hi hI hr=> ?_) (λn s hI=> ?_) l.length N 0 [] ω ω ω (aH _)
 ·rw[cJ,cB]at this
  have e:eQ.l5 N N l accs [] 0=some (tg accs l):=this
  rw[e];cases dk l<;>rfl
 ·unfold eQ.l5 eQ.dU
  rw[aQ ω,aj,aa0 N hN _ ha s hi hl ω]
  show _=some (s++(l.getD i dS::l.drop (i+1)).filter λo=> !vr accs o)
  rw[n7]
  cases hx:vr accs (l.getD i dS)
  ·refine Eq.trans (hr (s++[l.getD i dS]) (by rw[aS,aK];omega)) ?_
   rw[bD];rfl
  ·exact hr s ω
 ·unfold eQ.l5 eQ.dU
  rw[aP ω,av]
  show some s=some (s++[])
  rw[cy]
def uE(c:ae)(b:an)(m:Int):an×Int:=
 if de c b then(if fY b.1 m=0 then((ch,(cT,(bq,(bq,(dg,(du,())))))),3)else((b.1,(b.2.1,(b.2.2.1,(b.2.2.2.1,(b.2.2.2.2.1,(IG b.2.2.2.2.2.1 (uj b.2.1 m),b.2.2.2.2.2.2)))))),0))else((ch,(cT,(bq,(bq,(dg,(du,())))))),1)
theorem Li(a:aO)(m:Int):(uj a m).length≤a.length:=by
 unfold uj
 split
 ·exact IE m a
 ·exact bw _
theorem Qs(N:Nat)(hN:4000000≤N)(c:ae){b:an}(w:jC b)(m:Int):XI N c b m=some (uE c b m):=by
 unfold XI uE
 have h1:=Li b.2.1 m
 have h2:=w.a
 rw[we N hN w,ar,C6 N w.m ω,ar,cond_not,aI,Pr N w,ar,aaY N w.a ω,ar,ad8 N ω ω w.o,ar]
 cases de c b
 ·rfl
 ·show(if fY b.1 m=0 then _ else _)=some (if fY b.1 m=0 then _ else _)
  split<;>rfl
theorem XJ(N:Nat)(hN:5000000≤N)(c:ae){b:an}(w:jC b)(m:Int):Fg N c b m=some (uE c b m):=by
 unfold Fg uE
 have h1:=Li b.2.1 m
 have h2:=w.a
 rw[sO N hN w,ar,pq N w.m ω,ar,cond_not,aI,XF N w.a ω,ar,XH N ω ω w.o,ar]
 cases de c b
 ·rfl
 ·show(if fY b.1 m=0 then _ else _)=some (if fY b.1 m=0 then _ else _)
  split<;>rfl
end VM
end
section
namespace VM
open Go VM.F Go.RowKit
theorem Vf{a k:Int}: ∀{l:aY} {z:Int×Int},(∀o∈l,¬o.2.2.1=k)→bsL a k l z=z
 |[],z,_=>rfl
 |x::t,z,h=>by
  rw[Ie,ah (λe=>h x (bt ..) e.2)]
  exact Vf λo ho=>h o (a8 _ ho)
theorem IH{f:Int→Int×Int}{x:dh}: ∀m (k:Nat),x∈U2 f m k→ ∃j:Nat,x=nz (j:Int) (f (j:Int))∧0<(f (j:Int)).1+(f (j:Int)).2
 |0,_,hx=>nomatch hx
 |m+1,k,hx=>by
  rw[yw]at hx
  split at hx
  ·rename_i h0
   rcases bc.1 hx with rfl|hx
   ·exact⟨k,rfl,h0⟩
   ·exact IH m (k+1) hx
  ·exact IH m (k+1) hx
theorem Dw(f:Int→Int×Int): ∀m k,(U2 f m k).Pairwise (λx y:dh=>lH x.1 y.1)
 |0,_=>List.Pairwise.nil
 |m+1,k=>by
  rw[yw]
  split
  ·refine eT.2 ⟨λy hy=> ?_,Dw f m (k+1)⟩
   have:=aaa f m (k+1) y hy
   show(k:Int)<y.1
   omega
  ·exact Dw f m (k+1)
theorem Tz{c:ae}{b:an}(hR:RB c b)(a:Int):gS c (m5 b.2.2.2.2.2.1 a)=true:=by
 obtain⟨hq,hl⟩:=Ig hR.o
 have hc:=(pG (R:=λx y:dh=>lH x.1 y.1) (d:=bb) (λ_ _ _=>Du) _).2 (Dw (Nw b.2.2.2.2.2.1 a) 6 0)
 unfold gS
 refine dd.2 ⟨aV λj hj=> ?_,hR.c⟩
 obtain⟨i,e,h0⟩:=IH 6 0 (qQ (d:=bb) hj)
 have hp:=hc j hj
 have hz:=MC hq a (i:Int)
 have hn:((i:Int))<(c.1.length:Int):=by
  rcases Int.lt_or_le (i:Int) (c.1.length:Int)with h|h
  ·exact h
  ·exfalso
   have:Nw b.2.2.2.2.2.1 a (i:Int)=(0,0):=Vf λo ho he=>by
    have h3:o.2.2.1<(c.1.length:Int):=(hR.ok o ho).2
    rw[he]at h3
    exact absurd h3 (od.2 h)
   rw[this]at h0
   exact absurd h0 δ
 unfold wE
 rw[show(m5 b.2.2.2.2.2.1 a).getD j bb=(U2 (Nw b.2.2.2.2.2.1 a) 6 0).getD j bb from rfl,show(m5 b.2.2.2.2.2.1 a).getD (j-1) bb=(U2 (Nw b.2.2.2.2.2.1 a) 6 0).getD (j-1) bb from rfl]
 rw[e]at hp ⊢
 unfold FU at hz
 have g: ∀u v:Int,(0≤u∧u≤1000000000*(b.2.2.2.2.2.1.length:Int)∧0≤v∧v≤1000000000*(b.2.2.2.2.2.1.length:Int))→0<u+v→(0≤u∧u≤33000000000∧0≤v∧v≤33000000000∧(u=0→v≠0)):=λu v _ _=>ω
 obtain⟨g1,g2,g3,g4,g5⟩:=g _ _ hz h0
 exact⟨Int.natCast_nonneg i,hn,g1,g2,g3,g4,g5,λh=>hp h⟩
def pH(c:ae)(b:an)(a:Int):Int×Int:=
 if de c b then(if(eM b.2.1 a).2 then((lW c (posOf b.2.2.2.1 a) (m5 b.2.2.2.2.2.1 a)).1,0)else(0,3))else(0,1)
theorem TA{c:ae}{b:an}(h:de c b=true)(a:Int):(lW c (posOf b.2.2.2.1 a) (m5 b.2.2.2.2.2.1 a)).2=0:=by
 have hR:=qR.1 h
 unfold lW
 rw[aaP hR a,Tz hR a];rfl
theorem MZ(N:Nat)(hN:4000000≤N)(c:ae){b:an}(w:jC b)(a:Int):F99 N c b a=some (cH (pH c b a).1,(pH c b a).2):=by
 unfold F99 pH
 rw[we N hN w,ar,cond_not,C9 N b w.a ω,ar,cond_not]
 by_cases hB:de c b=true
 rotate_left
 ·rw[ah hB];rw[lK]at hB;rw[hB];rfl
 rw[ak hB,hB,aj]
 have CB:=Df a b.2.2.2.1
 have xg:=K2 b.2.2.2.2.2.1 a
 have hs:=w.s
 have hoo:(if dk b.2.2.2.2.2.1 then m5 b.2.2.2.2.2.1 a else [])=m5 b.2.2.2.2.2.1 a:=by rw[ak (zS hB)]
 rw[aqF N w.s ω,ar,aad N ω w.o,ar,hoo,aag N ω c ω (HR w.qs a) ω,ar,TA hB]
 cases(eM b.2.1 a).2<;>rfl
theorem aa1(N:Nat)(hN:5000000≤N)(c:ae){b:an}(w:jC b)(a:Int):aea N c b a=some (cF (pH c b a).1,(pH c b a).2):=by
 unfold aea pH
 rw[sO N hN w,ar,cond_not,yh N w.a ω,ar,cond_not]
 by_cases hB:de c b=true
 rotate_left
 ·rw[ah hB,gX];rw[lK]at hB;rw[hB];rfl
 rw[ak hB,hB,aj]
 have CB:=Df a b.2.2.2.1
 have xg:=K2 b.2.2.2.2.2.1 a
 have hs:=w.s
 obtain⟨hq,hl⟩:=Ig (zS hB)
 have awK:PZ N c b a []=some (cF (lW c (posOf b.2.2.2.1 a) (m5 b.2.2.2.2.2.1 a)).1):=by
  unfold PZ
  rw[bH (by rw[ca];omega),aj]
  dsimp only
  rw[cB,bH (by rw[ca];omega),aj,cy,S2 N w.s ω,ar,W5 N ω hq ω,ar,W8 N ω c ω (HR w.qs a) ω,ar]
 cases(eM b.2.1 a).2 with
 |false=>rw[ah pJ,gX];rfl
 |true=>
  rw[aj,ak rfl]
  exact(e7 (λz:Option aM=>z.bind λr3=>some (r3,(0:Int))) awK)
theorem aeb{c:ae}{b:an}(w:jC b)(a:Int):cE (pH c b a).1:=by
 have:=PU c (m5 b.2.2.2.2.2.1 a) (HR w.qs a)
 unfold pH
 repeat' split
 ·unfold cE;dsimp only;omega
 ·decide
 ·decide
def M4(c:ae):au:=if c.2.1=0 then []else [((1:Int),((0:Int),((W .i64 (0-c.2.1)),()))),((3:Int),((0:Int),(c.2.1,())))]
def Vg(c:ae):an×Int:=
 if eL c then((([]:aE),(([]:aO),(M4 c,(([]:au),(c.1.map (λx:cL=>(x.2.1:Int)),(([]:aY),())))))),0)else((ch,(cT,(bq,(bq,(dg,(du,())))))),1)
theorem Qt(N:Nat){l:aO}(hl:l.length≤100000)(hN:200000≤N)(x2:an)(r:au):
  xb.l7 N N x2 (([]:aE),(([]:aO),(r,(([]:au),(dg,(([]:aY),())))))) [] l (l.length:Int) 0=some ((([]:aE),(([]:aO),(r,(([]:au),(l.map (λx:cL=>(x.2.1:Int)),(([]:aY),())))))),(0:Int)):=by
 have:=ll l ba (λn i s=>xb.l7 N n x2 (([]:aE),(([]:aO),(r,(([]:au),(dg,(([]:aY),())))))) s l (l.length:Int) i)
  (λt s=>some ((([]:aE),(([]:aO),(r,(([]:au),(s++t.map (λx:cL=>(x.2.1:Int)),(([]:aY),())))))),(0:Int))) (λi (s:List Int)=>s.length≤i) (λn i s hi hI hr=> ?_) (λn s hI=> ?_) l.length N 0 [] ω ω ω (aH _)
 ·rw[cJ,cB]at this
  exact this
 ·unfold xb.l7 xb.mK
  rw[aQ ω,aj,aU ω ω,aj,aG,bH (by rw[aK];omega),aj,aw (x:=(i:Int)+1) ω ω,af i]
  refine Eq.trans (hr (s++[(l.getD i ba).2.1]) (by rw[aS,aK];omega)) ?_
  rw[bD];rfl
 ·unfold xb.l7 xb.mK
  rw[aP ω,av,gQ,cy]
theorem alJ(N:Nat)(hN:200000≤N)(c:ae)(hl:c.1.length≤100000):xb N c=some (Vg c):=by
 unfold xb xb.b Vg xb.j6 xb.OY
 rw[FK N ω,ar,cond_not,cond_not,aI]
 cases eL c with
 |false=>rfl
 |true=>
  rw[aj,ak rfl]
  unfold M4
  by_cases h0:c.2.1=0
  ·rw[ak h0,ak h0];exact Qt N hl hN _ _
  ·rw[ah h0,ah h0];exact Qt N hl hN _ _
theorem Qu(N:Nat){E:au}(hq:B9 E)(hl:E.length≤100000)(hN:4000000≤N):qZ N (E.map ig) (E.map ga)=some true:=by
 unfold qZ qZ.b
 rw[cz,cz,df,bg,av]
 refine nM (F:=λn i=>qZ.l4 N n (E.map ig) (E.map ga) i) (len:=E.length) (λn i hi hr=> ?_) (λn=> ?_) E.length N 0 ω ω ω
 ·unfold qZ.l4 qZ.dL
  rw[cz,cz,aQ ω,aj,aU ω ω,aj,aj,aG,FO,Po hi]
  have WS:=FP hq i
  unfold ig ga
  dsimp only
  rw[df,df,bg,av,aj,aj,av,aj,aj,PV N hN WS,ar,bg,av,aw (x:=(i:Int)+1) ω ω,af i]
  exact hr
 ·unfold qZ.l4 qZ.dL
  rw[cz,aP ω,av]
theorem II{c:ae}{b:an}(w:jC b)(i p:Int):Px (ik c b i p).1:=by
 unfold ik
 repeat' split
 all_goals first|exact vk|skip
 have h:=Ek w [] (gC i (p-b.2.2.2.2.1.getD i.toNat 0) b.2.2.2.1)
 refine⟨h.m,h.a,h.r,h.s,?_,h.o⟩
 show(List.set b.2.2.2.2.1 i.toNat p).length≤100000
 rw[bU];exact w.p
theorem TB{c:ae}{b:an}(w:jC b)(m:Int):Px (uE c b m).1:=by
 unfold uE
 repeat' split
 all_goals first|exact vk|skip
 refine⟨w.m,w.a,w.r,w.s,w.p,?_⟩
 show(IG b.2.2.2.2.2.1 (uj b.2.1 m)).length≤100000
 unfold IG
 split
 ·exact cA (Qr _ _) w.o
 ·exact bw _
theorem alK{c:ae}{b:an}(w:jC b)(hl:b.2.2.2.1.length≤400)(i p:Int):B9 (ik c b i p).2.1∧(ik c b i p).2.1.length≤400:=by
 have hn:B9 ([]:au)∧([]:au).length≤400:=⟨λx hx=>(nomatch hx),δ⟩
 unfold ik
 split
 ·rename_i hB
  split
  ·rename_i hp
   split
   ·rename_i hi
    have BA:=eH hB
    have Bp:i.toNat<b.2.2.2.2.1.length:=by rw[BA.1];omega
    have LO:=Az hB w.qs hl (i:=i) hi (AA BA.2 Bp hp)
    split
    ·exact⟨LO.q,LO.len⟩
    ·exact hn
   ·exact hn
  ·exact hn
 ·exact hn
theorem Pg(N:Nat)(hN:5000000≤N)(c:ae){b:an}(w:oF b)(hs:b.2.2.2.1.length≤400){l:bh}(hl:l.length≤100000)(inst acc m p:Int):F39 N c b l inst acc m p=some true:=by
 unfold F39
 have s1:=ME (c:=c) w.w l
 have s2:=II (c:=c) w.w inst p
 have s3:=TB (c:=c) w.w m
 have q:=alK (c:=c) w.w hs inst p
 rw[KL N ω c w hl,ar,S5 N hN c w hl,ar,Ve N ω c w hs,ar,aaX N hN c w hs,ar,MZ N ω c w.w,ar,aa1 N hN c w.w,ar,Qs N ω c w.w,ar,XJ N hN c w.w,ar]
 dsimp only
 rw[df,df,df,df,aj,aj,aj,aj,HM N ω s1.m s1.a s1.r s1.s s1.p s1.o,ar,aj,HM N ω s2.m s2.a s2.r s2.s s2.p s2.o,ar,aj,Qu N q.1 ω ω,ar,aj,PV N ω (aeb w.w acc),ar,aj,HM N ω s3.m s3.a s3.r s3.s s3.p s3.o,ar,aj,we N ω w.w,ar,sO N hN w.w,ar,om,xr]
def bC:ae:=([((0:Int),((100:Int),((2:Int),((0:Int),()))))],((5:Int),((0:Int),((0:Int),((0:Int),((1:Int),((0:Int),())))))))
def bR:au:=[((1:Int),((0:Int),((-5:Int),()))),((3:Int),((0:Int),((5:Int),())))]
def bB:an:=([((1:Int),((1:Int),()))],([((1:Int),((1:Int),((1:Int),((0:Int),())))),((2:Int),((1:Int),((2:Int),((0:Int),()))))],(bR,(([]:au),([(100:Int)],([((1:Int),((2:Int),((0:Int),((1:Int),((4:Int),((1:Int),()))))))],()))))))
def bT:bh:=[((1:Int),((2:Int),((0:Int),((5:Int),((90:Int),())))))]
theorem bW:oF bB:=⟨⟨δ,δ,δ,δ,δ,δ,Cb (l:=bR) δ,λx hx=>(nomatch hx)⟩,δ,δ⟩
def bX:an:=([((1:Int),((1:Int),()))],([((1:Int),((1:Int),((1:Int),((0:Int),())))),((2:Int),((1:Int),((2:Int),((0:Int),()))))],([((1:Int),((0:Int),((-5:Int),()))),((3:Int),((0:Int),((5:Int),()))),((5:Int),((1:Int),((50:Int),()))),((5:Int),((2:Int),((-50:Int),())))],([((1:Int),((0:Int),((5:Int),()))),((2:Int),((0:Int),((-5:Int),())))],([(100:Int)],([((1:Int),((2:Int),((0:Int),((1:Int),((4:Int),((1:Int),()))))))],()))))))
theorem bTr:sS bC bB bT=(bX,0):=κ
theorem bXW:oF bX:=⟨⟨δ,δ,δ,δ,δ,δ,Cb (l:=bX.2.2.1) δ,Cb (l:=bX.2.2.2.1) δ⟩,δ,δ⟩
theorem awL:Vg bC=((([]:aE),(([]:aO),(bR,(([]:au),([(100:Int)],(([]:aY),())))))),0):=by
 unfold Vg M4
 rw[ak κ,ah δ,aw δ δ];rfl
theorem awM:(ik bC bX 0 110).2.2=0:=κ
theorem awN:(ik bC bX 0 110).2.1.length=2:=κ
theorem awO:tZ (ik bC bX 0 110).1.2.2.1 5 1=100:=κ
theorem awP:(ik bC bX 0 110).1.2.2.2.2.1=[110]:=κ
theorem bNd:pH bC bX 2=(10,0):=κ
theorem awQ:(pH bC bB 9).2=3:=κ
theorem awR:(uE bC bB 1).2=0:=κ
theorem bDr:(uE bC bB 1).1.2.2.2.2.2.1=[]:=κ
theorem bHd:gh bX.2.2.2.1 1 0=5:=κ
theorem bGt:tZ bX.2.2.1 5 1=50:=κ
theorem bOk:de bC bB=true:=κ
theorem bWn:(cH 10).2.1=10:=κ
theorem WH(N:Nat)(hN:5000000≤N):F36 N=some true:=by
 unfold F36 F97
 rw[ar]
 show(xb N bC).bind _=_
 rw[alJ N ω bC δ,ar,awL]
 show(uC N bC bB bT).bind _=_
 rw[KL N ω bC bW δ,ar,bTr]
 show(F42 N bC bX 0 110).bind _=_
 have sh:=II (c:=bC) bXW.w 0 110
 rw[Ve N ω bC bXW δ,ar]
 show(F99 N bC bX 2).bind _=_
 rw[MZ N ω bC bXW.w,ar]
 show(XI N bC bB 1).bind _=_
 rw[Qs N ω bC bW.w,ar]
 show(F99 N bC bB 9).bind _=_
 rw[MZ N ω bC bW.w,ar]
 dsimp only
 show cond (aN 0 0) ((Dd N bR bR).bind λr8=>cond r8 ((De N [100] [100]).bind λr9=>cond r9 (cond (aN 0 0) ((CE N bX.2.2.2.1 1 0).bind λkT=>cond (aN kT 5) ((vy N bX.2.2.1 5 1).bind λm6=>cond (aN m6 50) (cond (aN (ik bC bX 0 110).2.2 0) (cond (aN (((ik bC bX 0 110).2.1.map ig).length:Int) 2) ((vy N (ik bC bX 0 110).1.2.2.1 5 1).bind λoU=>cond (aN oU 100) (cond (aN ((ik bC bX 0 110).1.2.2.2.2.1.length:Int) 1) (cond (bf 0 (ik bC bX 0 110).1.2.2.2.2.1.length) (cond (aN (γ (ik bC bX 0 110).1.2.2.2.2.1 (0:Int).toNat 0) 110) (cond (aN (pH bC bX 2).2 0) (cond (aN (cH (pH bC bX 2).1).2.1 10) (cond (aN (uE bC bB 1).2 0) (cond (aN ((uE bC bB 1).1.2.2.2.2.2.1.length:Int) 0) (cond (aN (pH bC bB 9).2 3) ((lx N bC bB).bind λnW=>some nW) (some false)) (some false)) (some false)) (some false)) (some false)) (some false)) none) (some false)) (some false)) (some false)) (some false)) (some false)) (some false)) (some false)) (some false)) (some false)) (some false)=some true
 have l1:(1:Int)=(([(110:Int)]:List Int).length:Int):=rfl
 rw[df,aj,Pv N δ ω,ar,aj,Pw N δ ω,ar,aj,aj,FR N bXW.w.s ω,ar,bHd,df,aj,Mp N bXW.w.r ω,ar,bGt,df,aj,awM,df,aj,cz,awN,ec (x:=((2:Nat):Int)) (y:=2) rfl,aj,Mp N sh.r ω,ar,awO,df,aj,awP,
  ec (x:=(([(110:Int)]:List Int).length:Int)) (y:=1) rfl,aj,aU (i:=0) (n:=([(110:Int)]:List Int).length) ω δ,aj,show γ [(110:Int)] (0:Int).toNat 0=110 from rfl,df,aj,bNd,df,aj,bWn,df,aj,awR,df,aj,bDr,ec (x:=((([]:aY).length:Nat):Int)) (y:=0) rfl,aj,awQ,df,aj,we N ω bW.w,ar,bOk]
end VM
end
section
namespace VM
open Go VM.F
theorem Ok.and{α:Type}{P Q:α→Prop}{o:Option α}(h1:Ok P o)(h2:Ok Q o):Ok (λr=>P r∧Q r) o:=by
 obtain⟨r,e,hr⟩:=h1
 obtain⟨q,e',hq⟩:=h2
 rw[e]at e'
 exact⟨r,e,hr,(oa e')▸hq⟩
theorem Cs{α:Type}{l:List α}{x y:α}(k:Nat):y∈l.take k++x::l.drop k↔y=x∨y∈l:=by
 have e:y∈l↔y∈l.take k∨y∈l.drop k:=by rw[←bn,gP]
 rw[e,bn,bc]
 constructor
 ·rintro(h|h|h)
  ·exact .inr (.inl h)
  ·exact .inl h
  ·exact .inr (.inr h)
 ·rintro(h|h|h)
  ·exact .inr (.inl h)
  ·exact .inl h
  ·exact .inr (.inr h)
theorem IJ{α:Type}{R:α→α→Prop}{l:List α}{x:α}{k:Nat}(hp:l.Pairwise R)(h1: ∀y∈l.take k,R y x)(h2: ∀y∈l.drop k,R x y):(l.take k++x::l.drop k).Pairwise R:=by
 rw[←gP k l,xm]at hp
 rw[xm,eT]
 exact⟨hp.1,⟨h2,hp.2.1⟩,λa ha b hb=>by
  rcases bc.1 hb with rfl|hb
  ·exact h1 a ha
  ·exact hp.2.2 a ha b hb⟩
theorem Vh{α:Type}{l:List α}{d:α}{f:α→Int}(hp:l.Pairwise λa b=>lH (f a) (f b)){v:Int}{k:Nat}(h1: ∀j,j<k→lH (f (l.getD j d)) v)(h2:k<l.length→ ¬lH (f (l.getD k d)) v)(hn: ∀y∈l,¬dI (f y) v):
  (∀y∈l.take k,lH (f y) v)∧ ∀y∈l.drop k,lH v (f y):=by
 refine⟨λy hy=> ?_,λy hy=> ?_⟩
 ·obtain⟨j,hj,e⟩:=gJ hy
  rw[cf]at hj
  rw[AZ]at e
  have:=h1 j ω
  rw[jl ω,e]at this
  exact this
 ·obtain⟨j,hj,e⟩:=gJ hy
  rw[dY]at hj
  rw[Gh]at e
  have h3:=h2 ω
  rw[jl ω]at h3
  have h4:=hn y (mW hy)
  have g: ∀a b c:Int,¬lH a c→(lH a b∨a=b)→ ¬dI b c→lH c b:=λa b c h h' LP=>by
   unfold lH dI at*
   rcases h' with h'|h'<;>omega
  refine g _ _ _ h3 ?_ h4
  by_cases h0:j=0
  ·subst h0;right;rw[←e];rfl
  ·left
   have:=vB.1 hp k (k+j) ω ω ω
   rw[e]at this;exact this
theorem Dx{α:Type}{l:List α}{d:α}(g:α→α){i:Nat}(hi:i<l.length):
  ((l.take i).map g++l.drop i).getD i d=l.getD i d∧((l.take i).map g++l.drop i).set i (g (l.getD i d))=(l.take (i+1)).map g++l.drop (i+1)∧(g (l.getD i d)=l.getD i d→(l.take i).map g++l.drop i=(l.take (i+1)).map g++l.drop (i+1)):=by
 have hlen:((l.take i).map g).length=i:=by rw[cz,cf];omega
 have e1:l.drop i=l[i]::l.drop (i+1):=ri hi
 have e2:l.take (i+1)=l.take i++[l[i]]:=(tK hi).symm
 rw[jl hi]
 refine⟨?_,?_,λh=> ?_⟩
 ·rw[aW,pI ω,hlen,uS,e1];rfl
 ·rw[NY _ _ ω,hlen,uS,e1,e2,List.set_cons_zero,dp,bD];rfl
 ·rw[e1,e2,dp,bD,bV,h];rfl
theorem zr{α:Type}(l:List α)(g:α→α)(i:Nat):((l.take i).map g++l.drop i).length=l.length:=by
 rw[aS,cz,cf,dY];omega
theorem aa2(N:Nat)(hN:200000≤N){a:aE}(hl:a.length≤50000)(id:Int):Ok (λr=>r.2=0→dM r.1=true∧ ∀n,kb a n→kb r.1 n) (ja N a id):=by
 have bad: ∀e:Int,e≠0→Ok (λr:aE×Int=>r.2=0→dM r.1=true∧ ∀n,kb a n→kb r.1 n) (some ([],e)):=λe h=>aq λh'=>absurd h' h
 have b1:=bad 1 δ
 unfold ja ja.b
 refine bO (nH N ω hN) (bG (λ_=>b1) λhM=>ax (λ_=>b1) λh1=>ax (λ_=>b1) λh2=>bO (iX N ω hN id) (bK (λ_=>bad _ δ) λh0=> ?_))
 obtain⟨hm,hp⟩:=gV.1 hM
 have hn: ∀y∈a,¬dI y.1 id:=λy hy e=>(gW hm).2 ⟨y,hy,e⟩ h0
 have fin: ∀k:Nat,k≤a.length→(∀j,j<k→lH (a.getD j c5).1 id)→(k<a.length→ ¬lH (a.getD k c5).1 id)→Ok (λr=>r.2=0→dM r.1=true∧ ∀n,kb a n→kb r.1 n) (ja.j9 N a id [] (k:Int)):=λk hk g1 g2=>by
  unfold ja.j9 ja.JF
  refine MH hk ω λ_=> ?_
  simp only[cB,aG,dN,cJ,im,bD,m0]
  obtain⟨q1,q2⟩:=Vh (f:=λx:BV=>x.1) hp g1 g2 hn
  refine⟨gV.2 ⟨λx hx=> ?_,IJ hp q1 q2⟩,λn ⟨y,hy,e⟩=>⟨y,(Cs k).2 (.inr hy),e⟩⟩
  rcases(Cs k).1 hx with rfl|hx
  ·exact⟨h1,h2,(show(1:Int)≤1 by decide),(show(1:Int)≤4 by decide)⟩
  ·exact hm x hx
 refine bs (σ:=Unit) (len:=a.length) (F:=λn i _=>ja.l7 N n a id [] i) (s:=()) (λi _=> ∀j,j<i→lH (a.getD j c5).1 id) (λj hj=>absurd hj ω) ω (λn i _ hi hI hr=> ?_) (λn _ hI=> ?_)
 all_goals unfold ja.l7 ja.mK
 ·rw[aw (x:=(i:Int)+1) ω ω,af i]
  refine ax (λ_=>aB ⟨ω,ω⟩ (ax (λh=>hr () λj hj=> ?_) λh=>fin i ω hI λ_ h'=> ?_)) λ_=>ω
  ·by_cases e:j=i
   ·subst e;exact h
   ·exact hI j ω
  ·have g: ∀x y:Int,lH x y→y≤x→False:=λx y h h'=>by unfold lH at h;omega
   exact g _ _ h' h
 ·exact ax (λ_=>ω) λ_=>fin _ (aH _) hI λh=>absurd h ω
theorem aa3(N:Nat)(a b:Int):Ok (λr=>r.2=true→1≤r.1∧r.1≤4) (Xf N a b):=by
 have h: ∀(x:Int) (t:Bool),(t=true→1≤x∧x≤4)→Ok (λr:Int×Bool=>r.2=true→1≤r.1∧r.1≤4) (some (x,t)):=λx t hx=>aq hx
 unfold Xf
 repeat' first|refine ok_eq (λ_=> ?_) (λ_=> ?_)|exact h _ _ δ
def M5(id v:Int)(x:BV):BV:=if x.1=id then(x.1,(v,x.2.2))else x
theorem TC(id v:Int)(x:BV):(M5 id v x).1=x.1:=by unfold M5;split<;>rfl
theorem yE{α:Type}{R:α→α→Prop}{g:α→α}{l:List α}(hp:l.Pairwise R)(h: ∀x∈l,∀y∈l,R x y→R (g x) (g y)):(l.map g).Pairwise R:=by
 rw[uK]
 exact hp.imp_of_mem λhx hy h'=>h _ hx _ hy h'
theorem Vi(N:Nat)(hN:200000≤N){l:aE}(hl:l.length≤50000)(id k:Int):Ok (λr=>r.2=0→dM r.1=true∧(∀n,kb l n→kb r.1 n)∧kb l id) (mS N l id k):=by
 have bad: ∀e:Int,e≠0→Ok (λr:aE×Int=>r.2=0→dM r.1=true∧(∀n,kb l n→kb r.1 n)∧kb l id) (some ([],e)):=λe h=>aq λh'=>absurd h' h
 unfold mS mS.b
 refine bO (nH N ω hN) (bG (λ_=>bad _ δ) λhM=>bO (iX N ω hN _) (ok_eq (λ_=>bad _ δ) λxd=>ag (aa3 N _ _) λz hz=>bG (λ_=>bad _ δ) λFF=>aD (by rw[ca];omega) ?_))
 obtain⟨hm,hp⟩:=gV.1 hM
 have hz:=hz FF
 rw[cB]
 refine bs (len:=l.length) (F:=λn i s=>mS.Ar N n id z.1 s i) (λi s=>s=(l.take i).map (M5 id z.1)++l.drop i) rfl ω (λn i s hi hI hr=> ?_) (λn s hI=> ?_)
 all_goals unfold mS.Ar mS.yq
 ·rw[aw (x:=(i:Int)+1) ω ω,af i]
  obtain⟨s1,s2,s3⟩:=Dx (d:=c5) (M5 id z.1) hi
  have hs:s.length=l.length:=by rw[hI];exact zr l _ i
  rw[←hI]at s1 s2 s3
  refine ax (λ_=>aB ⟨ω,ω⟩ (ok_eq (λe=>aB ⟨ω,ω⟩ (hr _ ?_)) λe=>hr s (s3 ?_))) λ_=>ω
  ·rw[aG,s1]at e ⊢
   rw[←s2]
   unfold M5;rw[ak e]
  ·rw[aG,s1]at e
   unfold M5;rw[ah e]
 ·have hs:s.length=l.length:=by rw[hI];exact zr l _ _
  have e:s=l.map (M5 id z.1):=by rw[hI,im,m1,cy]
  refine ax (λ_=>ω) λ_=>aq λ_=> ?_
  dsimp only
  rw[e]
  refine⟨gV.2 ⟨λx hx=> ?_,yE hp λx _ y _ h=> ?_⟩,λn ⟨y,hy,e⟩=>⟨M5 id z.1 y,fB hy,?_⟩,(gW hm).1 xd⟩
  ·obtain⟨y,hy,rfl⟩:=cV.1 hx
   have h:=hm y hy
   unfold M5
   split
   ·exact⟨h.1,h.2.1,hz.1,hz.2⟩
   ·exact h
  ·unfold aaN;rw[TC,TC];exact h
  ·rw[TC];exact e
def JY(id v:Int)(x:cL):cL:=if x.1=id then(x.1,(x.2.1,(x.2.2.1,(v,x.2.2.2.2))))else x
def Fi(id v:Int)(x:cL):cL:=if x.1=id then(x.1,(v,x.2.2))else x
theorem yF(id v:Int)(x:cL):(JY id v x).1=x.1∧(JY id v x).2.1=x.2.1∧(JY id v x).2.2.1=x.2.2.1:=by unfold JY;split<;>exact⟨rfl,rfl,rfl⟩
theorem IK(id v:Int)(x:cL):(Fi id v x).1=x.1∧(Fi id v x).2.2=x.2.2:=by unfold Fi;split<;>exact⟨rfl,rfl⟩
theorem Qv{a:aO}{g:cL→cL}(hg: ∀x,(g x).1=x.1)(n:Int)(h:rJ a n):rJ (a.map g) n:=by
 obtain⟨y,hy,e⟩:=h
 exact⟨g y,fB hy,by rw[hg];exact e⟩
abbrev tC(m:aE)(a:aO)(r:aO×Int):Prop:=r.2=0→gL r.1=true∧(∀n,rJ a n→rJ r.1 n)∧ ∀x∈r.1,kb m x.2.1
theorem tC.bad{m:aE}{a:aO}{e:Int}(h:e≠0):Ok (tC m a) (some ([],e)):=aq λh'=>absurd h' h
theorem aa4(N:Nat)(hN:200000≤N){m:aE}{l:aO}(hl:l.length≤50000)(hm: ∀x∈l,kb m x.2.1)(id q:Int):Ok (tC m l) (oL N l id q):=by
 unfold oL oL.b
 refine bO (sL N ω hN) (bG (λ_=>tC.bad δ) λhA=>ax (λ_=>tC.bad δ) λq0=>ax (λ_=>tC.bad δ) λq1=>bO (sK N ω hN _) (bG (λ_=>tC.bad δ) λ_=>aD (by rw[ca];omega) ?_))
 obtain⟨ha,hp,ht⟩:=qB.1 hA
 rw[cB]
 refine bs (len:=l.length) (F:=λn i s=>oL.l8 N n id q s i) (λi s=>s=(l.take i).map (JY id q)++l.drop i) rfl ω (λn i s hi hI hr=> ?_) (λn s hI=> ?_)
 all_goals unfold oL.l8 oL.Ef
 ·rw[aw (x:=(i:Int)+1) ω ω,af i]
  obtain⟨s1,s2,s3⟩:=Dx (d:=ba) (JY id q) hi
  have hs:s.length=l.length:=by rw[hI];exact zr l _ i
  rw[←hI]at s1 s2 s3
  refine ax (λ_=>aB ⟨ω,ω⟩ (ok_eq (λe=>aB ⟨ω,ω⟩ (hr _ ?_)) λe=>hr s (s3 ?_))) λ_=>ω
  ·rw[aG,s1]at e ⊢
   rw[←s2]
   unfold JY;rw[ak e]
  ·rw[aG,s1]at e
   unfold JY;rw[ah e]
 ·have hs:s.length=l.length:=by rw[hI];exact zr l _ _
  have e:s=l.map (JY id q):=by rw[hI,im,m1,cy]
  refine ax (λ_=>ω) λ_=>aq λ_=> ?_
  dsimp only
  rw[e]
  refine⟨qB.2 ⟨λx hx=> ?_,yE hp λx _ y _ h=> ?_,yE ht λx _ y _ h=> ?_⟩,Qv λx=>(yF id q x).1,λx hx=> ?_⟩
  ·obtain⟨y,hy,rfl⟩:=cV.1 hx
   have h:=ha y hy
   unfold JY
   split
   ·exact⟨h.1,h.2.1,h.2.2.1,q0,q1⟩
   ·exact h
  ·unfold Qi;rw[(yF id q x).1,(yF id q y).1];exact h
  ·unfold ntw aqT;rw[(yF id q x).2.1,(yF id q y).2.1,(yF id q x).2.2,(yF id q y).2.2];exact h
  ·obtain⟨y,hy,rfl⟩:=cV.1 hx
   rw[(yF id q y).2.1];exact hm y hy
theorem Lj{n:Int}: ∀{l:aO},l.Pairwise Qi→ ∀x∈l,dI x.1 n→(vf n l).1=x
 |[],_,x,hx,_=>nomatch hx
 |y::t,hp,x,hx,e=>by
  rw[pn]
  rcases bc.1 hx with rfl|hx
  ·rw[ak (show x.1=n from e)]
  ·have h:lH y.1 x.1:=(eT.1 hp).1 x hx
   have g: ∀a b:Int,lH a b→dI b n→ ¬a=n:=λa b h1 h2=>by unfold lH dI at*;omega
   rw[ah (g _ _ h e)]
   exact Lj (eT.1 hp).2 x hx e
theorem TD(N:Nat)(hN:200000≤N){m:aE}{l:aO}(Fy:m.length≤50000)(hl:l.length≤50000)(id to:Int):Ok (tC m l) (oM N m l id to):=by
 unfold oM oM.b
 refine bO (yi N ω ω hN) (bG (λ_=>tC.bad δ) λhR=>bO (sK N ω hN _) (bO (iX N ω hN _) (bG (λ_=>tC.bad δ) λ_=>ok_eq (λ_=>tC.bad δ) λhs=>bK (λ_=>tC.bad δ) λhk=>bK (λ_=>tC.bad δ) λ_=>aD (by rw[ca];omega) ?_)))
 unfold sM at hR
 simp only[bP,eZ,fR]at hR
 obtain⟨hM,hA,hma⟩:=hR
 obtain⟨ha,hp,ht⟩:=qB.1 hA
 have hmm:=(gV.1 hM).1
 obtain⟨mx,Ns,emx⟩:=(gW hmm).1 hs
 have hm: ∀x∈l,kb m x.2.1:=(iy (d:=ba) (Q:=λx=>kb m x.2.1)).1 λj hj=>(gW hmm).1 (hma j hj)
 rw[cB]
 refine bs (len:=l.length) (F:=λn i s=>oM.my N n id to s i) (λi s=>s=(l.take i).map (Fi id to)++l.drop i) rfl ω (λn i s hi hI hr=> ?_) (λn s hI=> ?_)
 all_goals unfold oM.my oM.ly
 ·rw[aw (x:=(i:Int)+1) ω ω,af i]
  obtain⟨s1,s2,s3⟩:=Dx (d:=ba) (Fi id to) hi
  have hs:s.length=l.length:=by rw[hI];exact zr l _ i
  rw[←hI]at s1 s2 s3
  refine ax (λ_=>aB ⟨ω,ω⟩ (ok_eq (λe=>aB ⟨ω,ω⟩ (hr _ ?_)) λe=>hr s (s3 ?_))) λ_=>ω
  ·rw[aG,s1]at e ⊢
   rw[←s2]
   unfold Fi;rw[ak e]
  ·rw[aG,s1]at e
   unfold Fi;rw[ah e]
 ·have hs:s.length=l.length:=by rw[hI];exact zr l _ _
  have e:s=l.map (Fi id to):=by rw[hI,im,m1,cy]
  refine ax (λ_=>ω) λ_=>aq λ_=> ?_
  dsimp only
  rw[e]
  have cl: ∀x∈l,x.1=id→x.2.2.1=2:=λx hx e=>by rw[←Lj hp x hx e];exact hk
  have mo:aaO mx.1 mx.2.1:=hmm mx Ns
  have aq1:mx.1=to:=emx
  refine⟨qB.2 ⟨λx hx=> ?_,yE hp λx _ y _ h=> ?_,yE ht λx hx y hy h=> ?_⟩,Qv λx=>(IK id to x).1,λx hx=> ?_⟩
  ·obtain⟨y,hy,rfl⟩:=cV.1 hx
   have h:=ha y hy
   unfold Fi
   split
   ·exact⟨h.1,⟨aq1▸mo.1,aq1▸mo.2.1⟩,h.2.2⟩
   ·exact h
  ·unfold Qi;rw[(IK id to x).1,(IK id to y).1];exact h
  ·intro ⟨t1,t2,t3⟩
   rw[(IK id to x).2]at t1
   rw[(IK id to y).2]at t2
   have nx: ∀x∈l,dI x.2.2.1 1→Fi id to x=x:=λx hx e=>by
    unfold Fi
    rw[ah]
    intro h'
    have:=cl x hx h'
    have e':x.2.2.1=1:=e
    rw[e']at this;exact absurd this δ
   rw[nx x hx t1,nx y hy t2]at t3
   exact h ⟨t1,t2,t3⟩
  ·obtain⟨y,hy,rfl⟩:=cV.1 hx
   unfold Fi
   split
   ·exact⟨mx,Ns,emx⟩
   ·exact hm y hy
theorem EH{n:Int}: ∀{l:aO},(∀x∈l,Tv x)→ov n l=0→ ∀x∈l,dI x.2.2.1 1→ ¬dI x.2.1 n
 |[],_,_,x,hx,_=>nomatch hx
 |y::t,ha,h,x,hx,e=>by
  rw[tV]at h
  have ih:=EH (n:=n) λz hz=>ha z (a8 _ hz)
  have hy:Tv y:=ha y (bt ..)
  have g: ∀v:Int,1≤v→ ¬v=0:=λv h1 h2=>ω
  by_cases e1:y.2.1=n
  ·rw[ak e1]at h
   by_cases e2:y.2.2.1=1
   ·rw[ak e2]at h;exact absurd h (g _ hy.1.1)
   ·rw[ah e2]at h
    rcases bc.1 hx with rfl|hx
    ·exact absurd e e2
    ·exact ih h x hx e
  ·rw[ah e1]at h
   rcases bc.1 hx with rfl|hx
   ·exact e1
   ·exact ih h x hx e
theorem aec(N:Nat)(hN:200000≤N){m:aE}{l:aO}(Fy:m.length≤50000)(hl:l.length≤50000)(x:cL):Ok (tC m l) (fQ N m l x):=by
 unfold fQ fQ.b
 refine bO (yi N ω ω hN) (bG (λ_=>tC.bad δ) λhR=>bO (sL N (l:=[x]) (by rw[aK];omega) hN) (bG (λ_=>tC.bad δ) λhX=>bO (iX N ω hN _) (ok_eq (λ_=>tC.bad δ) λhs=>bK (λ_=>tC.bad δ) λ_=>bO (sK N ω hN _) (oZ (λ_=>tC.bad δ) λhf=> ?_))))
 unfold sM at hR
 simp only[bP,eZ,fR]at hR
 obtain⟨hM,hA,hma⟩:=hR
 obtain⟨ha,hp,ht⟩:=qB.1 hA
 have hmm:=(gV.1 hM).1
 have hx:=(qB.1 hX).1 x (cw.2 rfl)
 have hxm:=(gW hmm).1 hs
 have hm: ∀x∈l,kb m x.2.1:=(iy (d:=ba) (Q:=λx=>kb m x.2.1)).1 λj hj=>(gW hmm).1 (hma j hj)
 have hn: ∀y∈l,¬dI y.1 x.1:=λy hy e=>by
  have:=Dv.2 ⟨y,hy,e⟩
  rw[hf]at this;exact nomatch this
 have fin:(∀y∈l,ntw y x)→ ∀k:Nat,k≤l.length→(∀j,j<k→lH (l.getD j ba).1 x.1)→(k<l.length→ ¬lH (l.getD k ba).1 x.1)→Ok (tC m l) (fQ.Dn N l x [] (k:Int)):=λhw k hk g1 g2=>by
  unfold fQ.Dn fQ.xa
  refine MH hk ω λ_=> ?_
  simp only[cB,aG,dN,cJ,im,bD,m0]
  obtain⟨q1,q2⟩:=Vh (f:=λx:cL=>x.1) hp g1 g2 hn
  have tw: ∀y∈l,ntw x y:=λy hy ⟨t1,t2,t3⟩=>hw y hy ⟨t2,t1,Eq.symm t3⟩
  refine⟨qB.2 ⟨λy hy=> ?_,IJ hp q1 q2,IJ ht (λy hy=>hw y (lJ hy)) λy hy=>tw y (mW hy)⟩,λn ⟨y,hy,e⟩=>⟨y,(Cs k).2 (.inr hy),e⟩,λy hy=> ?_⟩
  ·rcases(Cs k).1 hy with rfl|hy
   ·exact hx
   ·exact ha y hy
  ·rcases(Cs k).1 hy with rfl|hy
   ·exact hxm
   ·exact hm y hy
 have hj:(∀y∈l,ntw y x)→Ok (tC m l) (fQ.E9 N l x):=λhw=>by
  unfold fQ.E9 fQ.ym
  refine bs (σ:=Unit) (len:=l.length) (F:=λn i _=>fQ.my N n l x [] i) (s:=()) (λi _=> ∀j,j<i→lH (l.getD j ba).1 x.1) (λj hj=>absurd hj ω) ω (λn i _ hi hI hr=> ?_) (λn _ hI=> ?_)
  all_goals unfold fQ.my fQ.ly
  ·rw[aw (x:=(i:Int)+1) ω ω,af i]
   refine ax (λ_=>aB ⟨ω,ω⟩ (ax (λh=>hr () λj hj=> ?_) λh=>fin hw i ω hI λ_ h'=> ?_)) λ_=>ω
   ·by_cases e:j=i
    ·subst e;exact h
    ·exact hI j ω
   ·have g: ∀x y:Int,lH x y→y≤x→False:=λx y h h'=>by unfold lH at h;omega
    exact g _ _ h' h
  ·exact ax (λ_=>ω) λ_=>fin hw _ (aH _) hI λh=>absurd h ω
 refine ok_eq (λe=>bO (rU N ω hN _) (bK (λ_=>tC.bad δ) λh0=>hj λy hy ⟨t1,_,t3⟩=> ?_)) λe=>hj λy hy ⟨_,t2,_⟩=>e t2
 unfold ow at h0
 rw[ak hA]at h0
 exact EH ha h0 y hy t1 t3
def PB(m:aE)(a:aO)(p:bM):Prop:=
 ∃e:au,p=e.map ga∧B9 e∧(∀x∈e,db x.1 x.2.1∧kp m a x.1 x.2.1)∧(e.map dT).sum=0
def SB(c:ae)(a:aO)(s:au):Prop:=eO s∧(∀x∈s,cc x.1 x.2.1∧zT c a x.1 x.2.1)∧ ∀i:Int,(dm i s).sum=0
theorem PB.nil{m:aE}{a:aO}:PB m a []:=⟨[],rfl,λx hx=>(nomatch hx),λx hx=>(nomatch hx),rfl⟩
theorem PB.app{m:aE}{a:aO}{p q:bM}(hp:PB m a p)(hq:PB m a q):PB m a (p++q):=by
 obtain⟨e,rfl,e1,e2,e3⟩:=hp
 obtain⟨f,rfl,f1,f2,f3⟩:=hq
 refine⟨e++f,dp.symm,λx hx=>(bn.1 hx).elim (e1 x) (f1 x),λx hx=>(bn.1 hx).elim (e2 x) (f2 x),?_⟩
 rw[dp,nZ,e3,f3];rfl
theorem IL(i:Int): ∀s t:au,dm i (s++t)=dm i s++dm i t
 |[],t=>rfl
 |x::s,t=>by
  rw[m0,dA,dA,IL i s t]
  split<;>rfl
theorem SB.nil{c:ae}{a:aO}:SB c a []:=⟨λx hx=>(nomatch hx),λx hx=>(nomatch hx),λ_=>rfl⟩
theorem SB.app{c:ae}{a:aO}{s t:au}(hs:SB c a s)(ht:SB c a t):SB c a (s++t):=
 ⟨λx hx=>(bn.1 hx).elim (hs.1 x) (ht.1 x),λx hx=>(bn.1 hx).elim (hs.2.1 x) (ht.2.1 x),λi=>by rw[IL,nZ,hs.2.2,ht.2.2];rfl⟩
theorem SB.two{c:ae}{a:aO}{x y i q r:Int}(hq:aF q)(hr:aF r)(e:q+r=0)(hx:cc x i∧zT c a x i)(hy:cc y i∧zT c a y i):SB c a [(x,(i,(q,()))),(y,(i,(r,())))]:=by
 refine⟨λz hz=> ?_,λz hz=> ?_,λj=> ?_⟩
 ·rcases bc.1 hz with rfl|hz
  ·exact hq
  ·rw[cw.1 hz];exact hr
 ·rcases bc.1 hz with rfl|hz
  ·exact hx
  ·rw[cw.1 hz];exact hy
 ·rw[dA,dA]
  by_cases h:i=j
  ·rw[ak h,ak h]
   show q+(r+0)=0
   omega
  ·rw[ah h,ah h];rfl
theorem PB.two{m:aE}{a:aO}{k n k' n' v w:Int}(hv:cE v)(hw:cE w)(e:v+w=0)(h1:db k n∧kp m a k n)(h2:db k' n'∧kp m a k' n'):PB m a [(k,(n,(cF v,()))),(k',(n',(cF w,())))]:=by
 refine⟨[(k,(n,(v,()))),(k',(n',(w,())))],rfl,λz hz=> ?_,λz hz=> ?_,?_⟩
 ·rcases bc.1 hz with rfl|hz
  ·exact hv
  ·rw[cw.1 hz];exact hw
 ·rcases bc.1 hz with rfl|hz
  ·exact h1
  ·rw[cw.1 hz];exact h2
 ·show v+(w+0)=0
  omega
abbrev Lk(c:ae)(b:an)(r:an×Int):Prop:=r.2=0→RBs c b r.1
theorem Lk.bad{c:ae}{b b':an}{e:Int}(h:e≠0):Ok (Lk c b) (some (b',e)):=aq λh'=>absurd h' h
theorem aa5(N:Nat)(hN:4000000≤N){b:an}{s e:au}(w:jC b)(hr:fb b.2.2.1=true)(hs:di b.2.2.2.1=true)(lr:b.2.2.1.length≤90000)(ls:b.2.2.2.1.length≤90000)(qs:eO s)(lns:s.length≤100000)(qe:B9 e)(lne:e.length≤100000):
  zB N b s (e.map ga)=some (dD b s e):=by
 unfold zB dD
 rw[HJ N hN hs ls w.qs qs lns,UP N hN hr lr w.qr qe lne]
 unfold w9
 rw[ar,ar]
 cases eG Fq (fS b.2.2.2.1 s) jW with
 |none=>rfl
 |some s'=>
  cases eG aF (fS b.2.2.1 e) nL with
  |none=>rfl
  |some r'=>rfl
theorem uk(N:Nat)(hN:4000000≤N){c:ae}{b:an}{s:au}{p:bM}{m:Nat}(hm:m≤50000)(hb:G m aL b)(h:RB c b)(hs:SB c b.2.1 s)(hp:PB b.1 b.2.1 p)(ls:s.length≤50000)(lp:p.length≤50000):Ok (Lk c b) (zB N b s p):=by
 obtain⟨e,rfl,e1,e2,e3⟩:=hp
 obtain⟨hr,xd⟩:=eg (qR.2 h)
 have w:=G.wf hm hb
 rw[cz]at lp
 exact oJ (aa5 N hN w.w hr xd w.r w.s hs.1 ω e1 ω) λh0=>h.dD hs.2.1 hs.2.2 e2 e3 h0
theorem pZ{v:Int}(h:aF v):cE v∧cE (-v):=by unfold aF at h;unfold cE;omega
theorem um(N:Nat)(hN:4000000≤N){m:aE}{a:aO}{k n k' n' v:Int}(hv:cE v∧cE (-v))(h1:db k n∧kp m a k n)(h2:db k' n'∧kp m a k' n'):Ok (λr=>PB m a r∧r.length=2) (Dq N k n k' n' (cF v)):=by
 unfold Dq
 exact bO (pk N hN (pV hv.1)) (aq ⟨PB.two hv.2 hv.1 ω h1 h2,rfl⟩)
theorem vt{c:ae}{b:an}(h:RB c b){k:Int}(hk:rJ b.2.1 k):db 5 k∧kp b.1 b.2.1 5 k:=by
 obtain⟨y,hy,e⟩:=hk
 have hk:=(qB.1 h.a).1 y hy
 have e':y.1=k:=e
 exact⟨.inr (.inl ⟨rfl,e'▸hk.1⟩),λ_=>⟨y,hy,e⟩,λh=>absurd h δ⟩
theorem Dy{m:aE}{a:aO}{k:Int}(h:1≤k∧k≤4):db k 0∧kp m a k 0:=
 ⟨.inl ⟨h.1,h.2,rfl⟩,λe=>by unfold dI at e;omega,λe=>by unfold dI at e;omega⟩
theorem Ct{c:ae}{b:an}(h:RB c b){k n:Int}(hk:6≤k∧k≤7)(hn:kb b.1 n):db k n∧kp b.1 b.2.1 k n:=by
 obtain⟨y,hy,e⟩:=hn
 have hm:=(gV.1 h.m).1 y hy
 have e':y.1=n:=e
 exact⟨.inr (.inr ⟨hk.1,hk.2,e'▸hm.1,e'▸hm.2.1⟩),λe=>by unfold dI at e;omega,λ_=>⟨y,hy,e⟩⟩
theorem M6{m:aE}{a:aO}{k:Int}(h:dI k 0∨rJ a k)(hk:0≤k∧k≤24)(x:Int):db (pA k x).1 (pA k x).2.1∧kp m a (pA k x).1 (pA k x).2.1:=by
 unfold pA
 by_cases e:k=0
 ·rw[ak e]
  exact⟨show db 2 0 by decide,λh=>absurd h (show ¬dI 2 5 by decide),λh=>absurd h (show ¬(dI 2 6∨dI 2 7)by decide)⟩
 ·rw[ah e]
  refine⟨show db 5 k by unfold db;omega,λ_=>h.elim (λh=>absurd h e) id,λh=>absurd h (show ¬(dI 5 6∨dI 5 7)by decide)⟩
theorem Qw{c:ae}{b:an}(h:RB c b){k:Int}(ht:((eM b.2.1 k).2||decide (dI k 0))=true):dI k 0∨rJ b.2.1 k:=by
 rcases Bool.or_eq_true_iff.1 ht with ht|ht
 ·exact .inr ((qC h.a k).1 ht)
 ·exact .inl (bA ht)
theorem JZ(N:Nat)(hN:4000000≤N){m:aE}{a:aO}{t:iE}{p:Int}(ht:dv t)(hp:c0 p)(h1:dI t.1 0∨rJ a t.1)(h2:dI t.2.1 0∨rJ a t.2.1):Ok (λr=>PB m a r.1∧r.1.length≤2) (Py N t p):=by
 refine oJ (zO N hN ht hp) ?_
 have ht':=ht
 unfold dv kj at ht'
 have hk:cE ((p-t.2.2.2.2.1)*t.2.2.2.1)∧cE (-((p-t.2.2.2.2.1)*t.2.2.2.1)):=by
  have hq:=ht'.2.2.2.2.1
  have he:=ht'.2.2.2.2.2
  generalize t.2.2.2.2.1=e at*
  generalize t.2.2.2.1=q at*
  unfold c0 at hp he
  have:=Dg (d:=p-e) ω hq
  unfold cE;omega
 unfold mq
 dsimp only
 split
 ·exact⟨PB.nil,bw _⟩
 ·refine⟨⟨_,rfl,λx hx=> ?_,λx hx=> ?_,?_⟩,aH 2⟩
  ·rcases bc.1 hx with rfl|hx
   ·rw[gN];exact hk.1
   ·rw[cw.1 hx,gN];exact hk.2
  ·rcases bc.1 hx with rfl|hx
   ·exact M6 h1 ht'.1 _
   ·rw[cw.1 hx];exact M6 h2 ht'.2.1 _
  ·rw[bV,bV,gQ,gN,gN,cK,cK,jo];omega
theorem Ll(N:Nat)(hN:5000000≤N){c:ae}{b:an}{l:bh}{m:Nat}(hm:m≤50000)(hb:G m aL b)(h:RB c b):Ok (Lk c b) (fk N c b l):=by
 unfold fk fk.b
 refine bO (eh N hN hm hb) (bG (λ_=>Lk.bad δ) λhB=>ax (λ_=>Lk.bad δ) λhl=> ?_)
 obtain⟨hp,Jc⟩:=eH hB
 refine bs (len:=l.length) (F:=λn i (_:Unit)=>fk.l4 N n l c b (ch,(cT,(bq,(bq,(dg,(du,())))))) i) (s:=()) (λi _=> ∀j,j<i→dv (l.getD j gq)) (λj hj=>ω) ω (λn i _ hi hI hr=> ?_) (λn _ hI=> ?_)
 all_goals unfold fk.l4 fk.dL
 ·rw[aw (x:=(i:Int)+1) ω ω,af i]
  refine ax (λ_=>aB ⟨ω,ω⟩ (bO (vl N _) (bG (λ_=>Lk.bad δ) λht=>hr () λj hj=> ?_))) λ_=>ω
  by_cases e:j=i
  ·rw[e];exact bA ht
  ·exact hI j ω
 ·refine ax (λ_=>ω) λ_=> ?_
  have wf:=G.wf hm hb
  refine bs (len:=l.length) (F:=λn i (s:au×bM)=>fk.Ar N n l c b (ch,(cT,(bq,(bq,(dg,(du,())))))) s.1 s.2 i) (s:=(_,_)) (λi s=>(SB c b.2.1 s.1∧s.1.length≤2*i)∧PB b.1 b.2.1 s.2∧s.2.length≤2*i) ⟨⟨SB.nil,bw _⟩,PB.nil,bw _⟩ ω (λn i s hi hJ hr=> ?_) (λn s hJ=> ?_)
  all_goals unfold fk.Ar fk.yq
  all_goals obtain⟨⟨j1,j2⟩,j3,j4⟩:=hJ
  ·have ht0:=hI i hi
   have ht:=ht0
   unfold dv kj at ht
   dsimp only
   rw[aw (x:=(i:Int)+1) ω ω,af i,aG]
   generalize l.getD i gq=t at*
   refine ax (λ_=>aB ⟨ω,ω⟩ (bO (ql N b wf.w.a ω _) (bG (λ_=>Lk.bad δ) λt1=>bO (ql N b wf.w.a ω _) (bG (λ_=>Lk.bad δ) λt2=>eK (λ_=>Lk.bad δ) λeV=>aD ?_ (aB ⟨ht.2.2.2.1.1,by rw[hp];exact eV⟩ ?_))))) λ_=>ω
   ·rw[aT,aK];omega
   have i1:=Qw h t1
   have i2:=Qw h t2
   have pr:c0 (b.2.2.2.2.1.getD t.2.2.1.toNat 0):=by
    unfold fg at Jc
    have hk:t.2.2.1.toNat<b.2.2.2.2.1.length:=by
     rw[hp]
     have g: ∀x:Int,0≤x→x<(c.1.length:Int)→x.toNat<c.1.length:=λx h1 h2=>ω
     exact g _ ht.2.2.2.1.1 eV
    exact(bA Jc) _ hk
   refine ag (JZ N ω ht0 pr i1 i2) λr ⟨BN,z6⟩=>aD ω (hr (_,_) ⟨⟨?_,?_⟩,PB.app j3 BN,?_⟩)
   ·refine SB.app j1 ?_
    have hq:aF t.2.2.2.1∧aF (0-t.2.2.2.1)∧W .i64 (0-t.2.2.2.1)=0-t.2.2.2.1:=by
     have hq:=ht.2.2.2.2.1
     generalize t.2.2.2.1=q at*
     exact⟨by unfold aF;omega,by unfold aF;omega,aw ω ω⟩
    rw[hq.2.2]
    have pl: ∀x:Int,0≤x∧x≤24→cc x t.2.2.1:=λx hx=>⟨hx.1,hx.2,ht.2.2.2.1.1,ht.2.2.2.1.2⟩
    exact SB.two hq.1 hq.2.1 ω ⟨pl _ ht.1,i1,eV⟩ ⟨pl _ ht.2.1,i2,eV⟩
   ·dsimp only;rw[List.length_append,List.length_cons,List.length_singleton];omega
   ·dsimp only;rw[List.length_append];omega
  ·exact ax (λ_=>ω) λ_=>ag (uk N ω hm hb h j1 j3 ω ω) λr h=>aq h
theorem aed(N:Nat)(hN:5000000≤N){c:ae}{b:an}{h:cL}{a q p:Int}{m:Nat}(h2:200≤m)(hm:m≤40000)(hc:G m aA c)(hb:G m aL b)(hR:RB c b)(hh:G m fa h)(ha:aF a)(hq:aF q)(hp:aF p):Ok (λr=>r.2.2=0→RB c r.1∧r.2.1.2.1=h.2.1∧ZP r.2.1.2.2.2.1 1000000000) (qU N c b h a q p):=by
 have ho:G m nw (h.1,(a,(h.2.1,(W .i64 (3-h.2.2.1),(q,(p,())))))):=⟨hh.1,ha,hh.2.1,gH _,hq,hp,trivial⟩
 have ei: ∀e:Int,e≠0→Ok (λr:an×cL×Int=>r.2.2=0→RB c r.1∧r.2.1.2.1=h.2.1∧ZP r.2.1.2.2.2.1 1000000000) (some ((ch,(cT,(bq,(bq,(dg,(du,())))))),(ba,e))):=λe h=>aq λh'=>absurd h' h
 unfold qU qU.b
 have hj:Cm h→1≤q→ ¬lH h.2.2.2.1 q→ ∀t:iE,Ok (λr=>r.2.2=0→RB c r.1∧r.2.1.2.1=h.2.1∧ZP r.2.1.2.2.2.1 1000000000) (qU.j14 N q c b h (ch,(cT,(bq,(bq,(dg,(du,())))))) ba t):=λhk q1 q2 t=>by
  have g: ∀x:Int,qIn x→ ¬lH x q→ZP (W .i64 (x-q)) 1000000000:=λx h1 h2=>by unfold qIn at h1;unfold lH at h2;unfold ZP;rw[aw ω ω];omega
  unfold qU.j14 qU.adI
  exact ag (Ll N hN ω hb hR) λr hr=>bK (λh=>ei _ h) λh0=>aq λ_=>⟨(hr h0).1,rfl,g _ hk.2.2.2 q2⟩
 have b1:=ei 1 δ
 exact bO (eh N hN ω hb) (bG (λ_=>b1) λ_=>bO (yB N h) (bG (λ_=>b1) λhk=>ax (λ_=>b1) λq1=>ax (λ_=>b1) λ_=>ax (λ_=>b1) λ_=>ax (λ_=>b1) λ_=>ax (λ_=>ei _ δ) λq2=>ax (λ_=>b1) λ_=>ax (λ_=>b1) λ_=>ag (Co N hN h2 hm hc hb ho) λe _=>bK (λh=>ei _ h) λ_=>ok_eq (λ_=>hj (bA hk) q1 (od.2 q2) _) λ_=>hj (bA hk) q1 (od.2 q2) _))
theorem Qx(N:Nat)(hN:5000000≤N){c:ae}{b:an}{m:Nat}(h2:200≤m)(hm:m≤40000)(hc:G m aA c)(hb:G m aL b)(hR:RB c b){a:Int}(ha:aF a){q:Int}(hq:aF q):Ok (Lk c b) (Xi N c b a q):=by
 have b1: ∀e:Int,e≠0→Ok (Lk c b) (some ((ch,(cT,(bq,(bq,(dg,(du,())))))),e)):=λe h=>Lk.bad h
 unfold Xi
 refine bO (eh N hN ω hb) (bG (λ_=>b1 _ δ) λ_=>ax (λ_=>b1 _ δ) λ_=>ag (Ip N ω ω hb.2.1 _) λx ⟨_,hxf⟩=>bG (λ_=>b1 _ δ) λhf=>ag (pE N ω ω hb.1 _) λ_ _=>bK (λ_=>b1 _ δ) λ_=>ag (ny N ω ω hb.2.2.1 _ _) λg hg=>ag (bF N ω hg) λx hx=>ag (bF N ω hq) λy hy=>ag (zm N ω ω hx hy) λz hz=>ag (Io N ω h2 hm hc hb (bw _) _) λw hw=>ag (qT N ω ω ω hz hw) λ_ _=>ax (λ_=>b1 _ δ) λ_=>bO (da N ω hq.1 hq.2) ?_)
 rw[hxf]at hf
 exact ag (um N ω (pZ hq) (vt hR ((qC hR.a a).1 hf)) (Dy δ)) λp ⟨hp,CB⟩=>ag (uk N ω ω hb hR SB.nil hp (bw _) ω) λr hr=>aq hr
def EI(i d:Int)(l:au):au:=(l.filter λx=>decide (dI x.2.1 i∧ ¬dI d 0)).map λx=>pA x.1 (dT x*d)
theorem TE{l:au}{i d:Int}{k:Nat}(hk:k<l.length):EI i d (l.take (k+1))=EI i d (l.take k)++if dI (l.getD k bb).2.1 i∧ ¬dI d 0 then [pA (l.getD k bb).1 (dT (l.getD k bb)*d)]else []:=by
 have e2:l.take (k+1)=l.take k++[l[k]]:=(tK hk).symm
 unfold EI
 rw[e2,AW,dp,jl hk]
 congr 1
 by_cases h:dI l[k].2.1 i∧ ¬dI d 0
 ·rw[ak h,n7,ak (aV h)];rfl
 ·rw[ah h,n7,ah (by rw[bu h];exact pJ)];rfl
theorem Lm{i d:Int}: ∀l:au,((EI i d l).map dT).sum=(dm i l).sum*d
 |[]=>(Gs d).symm
 |x::t=>by
  have ih:=Lm (i:=i) (d:=d) t
  unfold EI at ih ⊢
  rw[dA]
  by_cases h:x.2.1=i
  ·rw[ak h]
   by_cases h0:d=0
   ·rw[n7,ah (by rw[bu (λh=>h.2 h0)];exact pJ),ih,h0,A7,A7]
   ·rw[n7,ak (aV ⟨h,h0⟩),bV,bV,cK,cK,ih,p9,gN]
  ·rw[ah h,n7,ah (by rw[bu (λk=>h k.1)];exact pJ),ih]
theorem aee{q d:Int}(hq:aF q)(hd: -1000000000000≤d∧d≤1000000000000):cE (q*d):=by
 have h1:(q*d).natAbs≤9223372036854775808*1000000000000:=by
  rw[Gm]
  unfold aF at hq
  exact uO ω ω
 unfold cE;omega
theorem aa6(N:Nat)(hN:4000000≤N){c:ae}{b:an}{m:Nat}(hm:m≤50000)(hb:G m aL b)(hR:RB c b){i:Int}(hi0:0≤i∧i<6)(x y:Int):Ok (λr=>PB b.1 b.2.1 r.1∧r.1.length≤50000) (kk N b.2.2.2.1 i x y):=by
 have h:=hb.2.2.2.1
 have hl:=h.1
 have hs:=(eg (qR.2 hR)).2
 have fl:(dm i b.2.2.2.1).sum=0:=by
  have:=hR.s
  unfold ox at this
  have:=bA (dd.1 this).1 i.toNat (by unfold ky;omega)
  unfold sN dI rB at this
  rw[ak hs,uI hi0.1]at this
  exact this
 have hp:=(eU hs).2
 unfold kk kk.b
 have nil: ∀e:Int,Ok (λr:bM×Int=>PB b.1 b.2.1 r.1∧r.1.length≤50000) (some ([],e)):=λe=>aq ⟨PB.nil,bw _⟩
 refine bO (lT N ω ω) (bG (λ_=>nil _) λ_=>bO (jz N _) (bG (λ_=>nil _) λha=>bO (jz N _) (bG (λ_=>nil _) λeY=> ?_)))
 have ha:=bA ha
 have eY:=bA eY
 refine bO (da N ω ω ω) (bO (da N ω ω ω) (bO (ry N hN ((Fit.i64 ω ω).mono ω) ((Fit.i64 ω ω).mono ω)) ?_))
 have d64: -1000000000000≤y-x∧y-x≤1000000000000:=ω
 generalize y-x=d at*
 have fin:PB b.1 b.2.1 ((EI i d b.2.2.2.1).map ga):=by
  refine⟨_,rfl,λz hz=> ?_,λz hz=> ?_,?_⟩
  ·obtain⟨u,hu,rfl⟩:=cV.1 hz
   rw[gN];exact aee (h.2 u (se.1 hu).1).2.2.1 d64
  ·obtain⟨u,hu,rfl⟩:=cV.1 hz
   have hu:=(se.1 hu).1
   exact M6 (hR.sk u hu).1 ⟨(hp u hu).1.1,(hp u hu).1.2.1⟩ _
  ·rw[Lm,fl,Gs]
 refine bs (len:=b.2.2.2.1.length) (F:=λn j s=>kk.l6 N n b.2.2.2.1 i s (cF d) j) (λj s=>s=(EI i d (b.2.2.2.1.take j)).map ga∧s.length≤j) ⟨rfl,bw _⟩ ω (λn j s hj hI hr=> ?_) (λn s hI=> ?_)
 all_goals unfold kk.l6 kk.u7
 ·obtain⟨i1,i2⟩:=hI
  have st:=TE (i:=i) (d:=d) hj
  have hx:G m kf (b.2.2.2.1.getD j bb):=h.2 _ (qQ hj)
  rw[aw (x:=(j:Int)+1) ω ω,af j,aG]
  have skip: ¬(dI (b.2.2.2.1.getD j bb).2.1 i∧ ¬dI d 0)→s=(EI i d (b.2.2.2.1.take (j+1))).map ga∧s.length≤j+1:=λh=>⟨by rw[st,ah h,cy];exact i1,ω⟩
  refine ax (λ_=>aB ⟨ω,ω⟩ (bK (λe=>hr s (skip λk=>e k.1)) λe1=>bO (pS N d) (ok_eq (λe=>hr s (skip λk=>k.2 (jB.1 e))) λe2=>aB ⟨ω,ω⟩ (bO (zi _ (dT (b.2.2.2.1.getD j bb)*d) N) (aB ⟨ω,ω⟩ (bO (da N ω hx.2.2.1.1 hx.2.2.1.2) (bO (sJ N hN ((Fit.i64 hx.2.2.1.1 hx.2.2.1.2).mono ω) ((Fit.i64 ω ω).mono ω)) (aD (by rw[aK];omega) (hr _ ⟨?_,by rw[aS,aK];omega⟩))))))))) λ_=>ω
  rw[st,ak ⟨e1,λk=>e2 (jB.2 k)⟩,dp,i1]
  congr 1
  unfold ga
  rw[bV,gQ,gN];rfl
 ·have i2:=hI.2
  refine ax (λ_=>ω) λ_=>aq ⟨?_,by dsimp only;omega⟩
  have:=hI.1
  rw[im]at this
  rw[this];exact fin
theorem TF{l:List Int}(h:fg l=true){p:Int}(hp:1≤p∧p≤1000000000000)(k:Nat):fg (l.set k p)=true:=by
 unfold fg at*
 have h:=bA h
 refine aV λj hj=> ?_
 rw[bU]at hj
 have X5:=h j hj
 unfold rC at*
 rw[aW,List.getElem?_set]
 split
 ·rw[ak ω];exact hp
 ·rw[←aW];exact X5
theorem Qy(N:Nat)(hN:5000000≤N){c:ae}{b:an}{m:Nat}(hm:m≤50000)(hb:G m aL b)(hR:RB c b)(i p:Int):Ok (λr=>r.2.2=0→RB c r.1) (MK N c b i p):=by
 have ei: ∀e:Int,e≠0→Ok (λr:an×bM×Int=>r.2.2=0→RB c r.1) (some ((ch,(cT,(bq,(bq,(dg,(du,())))))),([],e))):=λe h=>aq λh'=>absurd h' h
 have CB:=hb.2.2.2.2.1.1
 have hci:c.1.length≤6:=by
  have:=hR.c
  unfold eL at this
  exact(bA (dd.1 this).1).2
 unfold MK
 refine bO (eh N hN hm hb) (bG (λ_=>ei _ δ) λhB=>bO (jz N _) (bG (λ_=>ei _ δ) λhp=>ax (λ_=>ei _ δ) λh0=>eK (λ_=>ei _ δ) λh1=> ?_))
 obtain⟨BA,_⟩:=eH hB
 have hp:=bA hp
 dsimp only
 rw[cB]
 refine aB ⟨h0,by rw[BA];exact h1⟩ (ag (aa6 N ω hm hb hR ⟨h0,ω⟩ _ _) λf ⟨hf,FB⟩=>ag (uk N ω hm hb hR SB.nil hf (bw _) FB) λr hr=>bK (λh=>ei _ h) λhz=>aD (by rw[ca];omega) (aB ⟨h0,by rw[BA];exact h1⟩ (aq λ_=> ?_)))
 have q:=(hr hz).1
 exact⟨q.c,q.m,q.a,q.ma,q.r,q.t,q.s,q.o,by rw[bU];exact hR.n,q.rk,q.sk,q.ok,TF hR.p hp _⟩
end VM
end
