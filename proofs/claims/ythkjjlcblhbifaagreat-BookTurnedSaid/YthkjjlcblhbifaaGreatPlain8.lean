/- A part of the proof of BookTurned of layer 18: what the functions compute, in plain words. -/
import Derived.Test.YthkjjlcblhbifaaGreatPlain7
import Derived.Test.YthkjjlcblhbifaaGreatPlain5
set_option linter.all false
open List renaming getD→γ
noncomputable section
section
namespace VM
open Go VM.F
variable(N:Nat)
theorem Ng{b:an}{s e:au}(h:(dE b s e).2=0):(dE b s e).1.2.2.2.2=b.2.2.2.2∧(dE b s e).1.1=b.1∧(dE b s e).1.2.1=b.2.1:=by
 have n2: ¬(2:Int)=0:=δ
 unfold dE at h ⊢
 cases h1:eN Fq (fS b.2.2.2.1 s) jV with
 |none=>rw[h1]at h;exact absurd h n2
 |some s'=>
  rw[h1]at h
  cases hc:eN aF (fS b.2.2.1 e) nN with
  |none=>dsimp only at h;rw[hc]at h;exact absurd h n2
  |some r'=>exact⟨rfl,rfl,rfl⟩
def Qt(m:an)(ps:List Int)(i p:Int):an:=(m.1,(m.2.1,(m.2.2.1,(m.2.2.2.1,(List.set ps i.toNat p,m.2.2.2.2.2)))))
def im(c:ae)(b:an)(i p:Int):an×au×Int:=
 if dh c b then(if c5 p then(if 0≤i∧i<(c.1.length:Int)then
  (if(dE b [] (gG i (p-b.2.2.2.2.1.getD i.toNat 0) b.2.2.2.1)).2=0 then
    (Qt (dE b [] (gG i (p-b.2.2.2.2.1.getD i.toNat 0) b.2.2.2.1)).1 b.2.2.2.2.1 i p,gG i (p-b.2.2.2.2.1.getD i.toNat 0) b.2.2.2.1,0)
   else((cn,(cW,(bo,(bo,(di,(du,())))))),[],(dE b [] (gG i (p-b.2.2.2.2.1.getD i.toNat 0) b.2.2.2.1)).2))else((cn,(cW,(bo,(bo,(di,(du,())))))),[],3))else((cn,(cW,(bo,(bo,(di,(du,())))))),[],1))else((cn,(cW,(bo,(bo,(di,(du,())))))),[],1)
theorem Lq:Ps []:=⟨λx hx=>(nomatch hx),λx hx=>(nomatch hx),bs _,λi=>rfl⟩
theorem aaQ{q d:Int}(hq:aF q)(hd: -1000000000000≤d∧d≤1000000000000):cH (q*d):=by
 have h1:(q*d).natAbs≤9223372036854775808*1000000000000:=by
  rw[Gy]
  unfold aF at hq
  exact uD ω ω
 unfold cH
 omega
theorem Av{c:ae}{b:an}(h:dh c b=true)(hq:dU b.2.2.2.1)(hl:b.2.2.2.1.length≤400){i d:Int}(hi:0≤i∧i<(c.1.length:Int))(hd: -1000000000000≤d∧d≤1000000000000):Pw (gG i d b.2.2.2.1):=by
 have hs:=EM h
 have w7:=(eZ (ej h).2).2
 refine⟨λx hx=> ?_,λx hx=> ?_,ck (IJ _ _ _) hl,?_⟩
 ·obtain⟨y,hy,_,e⟩:=wC hx
  have:=(w7 y hy).1
  unfold cg at this
  rw[e];exact HY ⟨this.1,this.2.1⟩
 ·obtain⟨y,hy,_,e⟩:=wC hx
  rw[e,gQ];exact aaQ (hq y hy) hd
 ·rw[IK]
  split
  ·have h6:=(tL hs.2).1
   have hf:=hs.1
   unfold oy at hf
   have h1:=bD (df.1 hf).1 i.toNat (by unfold kv;omega)
   unfold sC dI rj at h1
   rw[ak (df.1 hf).2]at h1
   have e:((i.toNat:Nat):Int)=i:=ω
   rw[e]at h1
   rw[h1];simp
  ·rfl
theorem Aw{l:List Int}(h:fm l=true){i:Nat}(hi:i<l.length){p:Int}(hp:c5 p): -1000000000000≤p-l.getD i 0∧p-l.getD i 0≤1000000000000:=by
 have:=qg h hi
 unfold c5 at this hp;omega
theorem Xw(b:an)(s:au)(e:cT):alG N b s e=F61 N b s e:=rfl
theorem Vg(hN:4000000≤N)(c:ae){b:an}(w:m5 b)(hl:b.2.2.2.1.length≤400)(i p:Int):
  F17 N c b i p=some ((im c b i p).1,(im c b i p).2.1.map ik,(im c b i p).2.2):=by
 unfold F17 im
 rw[vX N hN w.w,ar,sH,ar,cond_not,cond_not]
 by_cases hB:dh c b=true
 rotate_left
 ·rw[ag hB];rw[lJ]at hB;rw[hB];rfl
 rw[ak hB,hB,aj]
 by_cases hp:c5 p
 rotate_left
 ·rw[ag hp,bw hp];rfl
 rw[ak hp,aV hp,aj,cf,cz]
 by_cases h0:i<0
 ·rw[ak h0,ag (λh=>ω)];rfl
 rw[ag h0]
 by_cases h1:(c.1.length:Int)≤i
 ·rw[ak h1,ag (λh=>ω)];rfl
 rw[ag h1,ak (show 0≤i∧i<(c.1.length:Int)by omega)]
 have Bv:=dY hB
 have Bl:i.toNat<b.2.2.2.2.1.length:=by rw[Bv.1];omega
 have ke:bg i b.2.2.2.2.1.length=true:=aU ω (by rw[Bv.1];omega)
 have w7:=ej hB
 have FH:pR b.2.2.2.1 i (b.2.2.2.2.1.getD i.toNat 0) p=(gG i (p-b.2.2.2.2.1.getD i.toNat 0) b.2.2.2.1,0):=by
  unfold pR
  rw[ak w7.2,ak (qg Bv.2 Bl),ak hp]
 have L1:=Av hB w.w.qs hl (i:=i) ⟨ω,ω⟩ (Aw Bv.2 Bl hp)
 rw[ke,aj,Xt N w.w.qs w.w.s ω,ar,FH,Xw,PC N ω w.w w7.1 w7.2 w.r w.s Lq L1,ar,cond_not,aI]
 by_cases hm:(dE b [] (gG i (p-b.2.2.2.2.1.getD i.toNat 0) b.2.2.2.1)).2=0
 ·have YI:=Ng hm
  rw[ak hm,ak hm]
  unfold Qt
  rw[YI.1,ke];rfl
 ·rw[ag hm,ag hm];rfl
theorem aaR(hN:5000000≤N)(c:ae){b:an}(w:m5 b)(hl:b.2.2.2.1.length≤400)(i p:Int):
  F52 N c b i p=some ((im c b i p).1,(im c b i p).2.1.map gh,(im c b i p).2.2):=by
 unfold F52 im
 rw[qa N hN w.w,ar,sF,ar,cond_not,cond_not]
 by_cases hB:dh c b=true
 rotate_left
 ·rw[ag hB];rw[lJ]at hB;rw[hB];rfl
 rw[ak hB,hB,aj]
 by_cases hp:c5 p
 rotate_left
 ·rw[ag hp,bw hp];rfl
 rw[ak hp,aV hp,aj,cf,cz]
 by_cases h0:i<0
 ·rw[ak h0,ag (λh=>ω)];rfl
 rw[ag h0]
 by_cases h1:(c.1.length:Int)≤i
 ·rw[ak h1,ag (λh=>ω)];rfl
 rw[ag h1,ak (show 0≤i∧i<(c.1.length:Int)by omega)]
 have Bv:=dY hB
 have Bl:i.toNat<b.2.2.2.2.1.length:=by rw[Bv.1];omega
 have ke:bg i b.2.2.2.2.1.length=true:=aU ω (by rw[Bv.1];omega)
 have w7:=ej hB
 have FH:pR b.2.2.2.1 i (b.2.2.2.2.1.getD i.toNat 0) p=(gG i (p-b.2.2.2.2.1.getD i.toNat 0) b.2.2.2.1,0):=by
  unfold pR
  rw[ak w7.2,ak (qg Bv.2 Bl),ak hp]
 have L1:=Av hB w.w.qs hl (i:=i) ⟨ω,ω⟩ (Aw Bv.2 Bl hp)
 have hp5:=w.w.p
 rw[ke,aj,Xu N w.w.qs w.w.s ω,ar,FH,US N ω w.w w7.1 w7.2 w.r w.s Lq L1,ar,cond_not,aI]
 by_cases hm:(dE b [] (gG i (p-b.2.2.2.2.1.getD i.toNat 0) b.2.2.2.1)).2=0
 ·rw[ak hm,ak hm,bJ (by rw[bZ];omega),aj,cD]
  dsimp only
  rw[ke];rfl
 ·rw[ag hm,ag hm];rfl
def oQ(m:Int):aN→List Int
 |[]=>[]
 |x::t=>if x.2.1=m then x.1::oQ m t else oQ m t
theorem IL(m:Int): ∀l:aN,(oQ m l).length≤l.length
 |[]=>aH _
 |x::t=>by
  have:=IL m t
  show(if x.2.1=m then x.1::oQ m t else oQ m t).length≤t.length+1
  split
  ·rw[aT];omega
  ·omega
def tY(a:aN)(m:Int):List Int:=if gO a then oQ m a else []
theorem aaS{a:aN}(hl:a.length≤100000)(hN:200000≤N)(m:Int):EN N a m=some (tY a m):=by
 unfold EN EN.b tY
 rw[Mp N hl hN,ar,cond_not]
 have:=ll a bb (λn i s=>EN.l5 N n m s a (a.length:Int) i) (λt s=>some (s++oQ m t)) (λi (s:List Int)=>s.length≤i) (λn i s hi hI hr=> ?_) (λn s hI=> ?_) a.length N 0 [] ω ω ω (aH _)
 ·rw[cM,cD]at this
  have e:EN.l5 N N m [] a (a.length:Int) 0=some (oQ m a):=this
  rw[e];cases gO a<;>rfl
 ·unfold EN.l5 EN.dV
  rw[aQ ω,aj,aU ω ω,aj,aG,aw (x:=(i:Int)+1) ω ω,af i,aI,bJ (by rw[aJ];omega),aj]
  show _=some (s++(if(a.getD i bb).2.1=m then(a.getD i bb).1::oQ m (a.drop (i+1))else oQ m (a.drop (i+1))))
  by_cases hx:(a.getD i bb).2.1=m
  ·rw[ak hx,ak hx]
   refine Eq.trans (hr (s++[(a.getD i bb).1]) (by rw[aS,aJ];omega)) ?_
   rw[bF];rfl
  ·rw[ag hx,ag hx]
   exact hr s ω
 ·unfold EN.l5 EN.dV
  rw[aO ω,av]
  show some s=some (s++[])
  rw[cA]
theorem Xx{a:aN}(hl:a.length≤100000)(hN:200000≤N)(m:Int):mS N a m=some (tY a m):=by
 unfold mS mS.b tY
 rw[sA N hl hN,ar,cond_not]
 have:=ll a bb (λn i s=>mS.l5 N n a m s i) (λt s=>some (s++oQ m t)) (λi (s:List Int)=>s.length≤i) (λn i s hi hI hr=> ?_) (λn s hI=> ?_) a.length N 0 [] ω ω ω (aH _)
 ·rw[cM,cD]at this
  have e:mS.l5 N N a m [] 0=some (oQ m a):=this
  rw[e];cases gO a<;>rfl
 ·unfold mS.l5 mS.dV
  rw[aQ ω,aj,aU ω ω,aj,aG,aw (x:=(i:Int)+1) ω ω,af i,aI,aj,bJ (by rw[aJ];omega),aj]
  show _=some (s++(if(a.getD i bb).2.1=m then(a.getD i bb).1::oQ m (a.drop (i+1))else oQ m (a.drop (i+1))))
  by_cases hx:(a.getD i bb).2.1=m
  ·rw[ak hx,ak hx]
   refine Eq.trans (hr (s++[(a.getD i bb).1]) (by rw[aS,aJ];omega)) ?_
   rw[bF];rfl
  ·rw[ag hx,ag hx]
   exact hr s ω
 ·unfold mS.l5 mS.dV
  rw[aO ω,av]
  show some s=some (s++[])
  rw[cA]
theorem zg{α:Type}{l:List α}{i:Nat}(h:i<l.length)(d:α):l.take (i+1)=l.take i++[l.getD i d]:=by
 rw[List.take_add_one,aW,bm h];rfl
def Tt(l:List Int)(x:Int):Bool:=l.any λa=>decide (a=x)
theorem Qu(N:Nat){l:List Int}(hl:l.length≤100000)(x:Int): ∀(m n i:Nat),l.length-i≤m→m<n→i≤l.length→ ∃r,sY.l2 N n l x (l.length:Int) (i:Int)=some r∧dy 0 r=Tt (l.drop i) x
 |m,0,i,_,hn,_=>ω
 |m,n+1,i,hm,hn,hi=>by
  unfold sY.l2 sY.fN
  by_cases h:i<l.length
  ·rw[aQ ω,aj,aU ω ω,aj,aG,aI,aw (x:=(i:Int)+1) ω ω,af i,drop_cons h 0]
   by_cases hx:x=l.getD i 0
   ·rw[ak hx]
    refine⟨_,rfl,?_⟩
    unfold Tt
    rw[A0,aV hx.symm,m9,aV ω];rfl
   ·rw[ag hx]
    obtain⟨r,h1,h2⟩:=Qu N hl x (m-1) n (i+1) ω ω ω
    refine⟨r,h1,h2.trans ?_⟩
    unfold Tt
    rw[A0,bw (λe=>hx e.symm),pX]
  ·rw[aO ω,av,jM ω]
   exact⟨_,rfl,by rw[m9];rfl⟩
theorem Qv{l:List Int}(hl:l.length≤100000)(hN:200000≤N)(x:Int):ad3 N l x=some (Tt l x):=by
 unfold ad3 sY sY.b
 obtain⟨r,h1,h2⟩:=Qu N hl x l.length N 0 ω ω ω
 rw[cM]at h2
 rw[show sY.l2 N N l x (l.length:Int) 0=some r from h1,ar,h2]
def vi(accs:List Int)(o:gb):Bool:=Tt accs o.2.1
theorem Qw{accs:List Int}(hl:accs.length≤100000)(hN:200000≤N)(o:gb):aaT N o accs=some (vi accs o):=by
 unfold aaT vi
 rw[Qv N hl hN,ar]
theorem EO(N:Nat){accs:List Int}(ha:accs.length≤100000)(hN:200000≤N){l:aY}(hl:l.length≤100000): ∀(m n i:Nat),l.length-i≤m→m<n→i≤l.length→(∀x∈l.take i,vi accs x=false)→
  (qO.l2 N n l ((accs,()),()) (l.length:Int) (i:Int)=some (-1)∧ ∀x∈l,vi accs x=false)∨
  ∃k:Nat,qO.l2 N n l ((accs,()),()) (l.length:Int) (i:Int)=some (k:Int)∧k<l.length∧(∀x∈l.take k,vi accs x=false)∧vi accs (l.getD k dT)=true
 |m,0,i,_,hn,_,_=>ω
 |m,n+1,i,hm,hn,hi,hp=>by
  unfold qO.l2 qO.fN
  by_cases h:i<l.length
  ·rw[aQ ω,aj,aU ω ω,aj,aG,Qw N ha hN,ar,aw (x:=(i:Int)+1) ω ω,af i]
   cases hx:vi accs (l.getD i dT)
   ·refine EO N ha hN hl (m-1) n (i+1) ω ω ω (λx o4=> ?_)
    rw[zg h dT,bn,cy]at o4
    rcases o4 with o4|o4
    ·exact hp x o4
    ·rw[o4];exact hx
   ·exact .inr ⟨i,rfl,h,hp,hx⟩
  ·rw[aO ω,av]
   refine .inl ⟨rfl,λx hx=>hp x ?_⟩
   rw[iG ω];exact hx
def sZ(accs:List Int)(l:aY):aY:=l.filter λo=> !vi accs o
theorem Qx{accs:List Int}{l:aY}(h: ∀x∈l,vi accs x=false):sZ accs l=l:=by
 unfold sZ
 rw[List.filter_eq_self]
 intro x hx;rw[h x hx];rfl
theorem Qy(accs:List Int)(l:aY):(sZ accs l).length≤l.length:=N2 _ _
theorem IM(N:Nat){accs:List Int}(ha:accs.length≤100000)(hN:200000≤N){l:aY}(hl:l.length≤100000): ∀(m n i j:Nat) (x:aY),l.length-j≤m→m<n→j≤l.length→i≤j→x.length=l.length→x.take i=sZ accs (l.take j)→x.drop j=l.drop j→
  s0.l5 N n x ((accs,()),()) (i:Int) (j:Int)=some (sZ accs l)
 |m,0,i,j,x,_,hn,_,_,_,_,_=>ω
 |m,n+1,i,j,x,hm,hn,hj,qw,hxl,ht,hd=>by
  unfold s0.l5 s0.dV
  by_cases h:j<l.length
  ·have hg:x.getD j dT=l.getD j dT:=by
    have h1:=fe (λt=>t.getD 0 dT) hd
    simpa [aW]using h1
   have htk:l.take (j+1)=l.take j++[l.getD j dT]:=zg h dT
   rw[aQ ω,aj,aU ω ω,aj,aG,hg,Qw N ha hN,ar,aw (x:=(j:Int)+1) ω ω,af j,aU ω ω,aj,aG,aw (x:=(i:Int)+1) ω ω,af i]
   have hd2:x.drop (j+1)=l.drop (j+1):=by rw[←iJ,←iJ,hd]
   cases hx:vi accs (l.getD j dT)
   ·refine IM N ha hN hl (m-1) n (i+1) (j+1) _ ω ω ω ω (by rw[bU];exact hxl) ?_ ?_
    ·have e1:sZ accs (l.take (j+1))=sZ accs (l.take j)++[l.getD j dT]:=by
      rw[htk];unfold sZ;rw[AT];congr 1
      rw[od,hx];rfl
     rw[e1,←ht,zg (by rw[bU];omega) dT]
     congr 1
     ·rw[List.take_set_of_le (aH _)]
     ·rw[aW,N1 ω];rfl
    ·rw[List.drop_set_of_lt ω];exact hd2
   ·refine IM N ha hN hl (m-1) n i (j+1) x ω ω ω ω hxl ?_ hd2
    rw[htk,ht];unfold sZ;rw[AT,od,hx];simp
  ·have hje:j=l.length:=ω
   subst hje
   rw[ir]at ht
   have qQ:=Qy accs l
   rw[aO ω,av,sa,aV ω,aj,aG]
   dsimp only
   have hxt:(x.take i).length=i:=by rw[cj];omega
   rw[sa,aV (by rw[aS,c9,hxt];omega),aj,yI ω,iG ω,ht]
   rfl
theorem Xy{accs:List Int}(ha:accs.length≤100000)(hN:200000≤N){l:aY}(hl:l.length≤100000):s0 N l ((accs,()),())=some (sZ accs l):=by
 unfold s0 s0.b qO qO.b
 rcases EO N ha hN hl l.length N 0 ω ω ω (λx hx=>by rw[mA]at hx;exact nomatch hx)with⟨h1,h2⟩|⟨k,h1,h2,h3,h4⟩
 ·rw[show qO.l2 N N l ((accs,()),()) (l.length:Int) 0=some (-1)from h1,ar,eg rfl,Qx h2];rfl
 ·rw[show qO.l2 N N l ((accs,()),()) (l.length:Int) 0=some (k:Int)from h1,ar,eH ω,av,aw (x:=(k:Int)+1) ω ω,af k]
  refine IM N ha hN hl l.length N k (k+1) l ω ω ω ω rfl ?_ rfl
  rw[zg h2 dT]
  unfold sZ
  rw[AT,od,h4]
  have:=Qx h3
  unfold sZ at this
  rw[this];simp
def IN(l:aY)(accs:List Int):aY:=if dn l then sZ accs l else []
theorem ad4{l:aY}{accs:List Int}(ha:accs.length≤100000)(hN:200000≤N)(hl:l.length≤100000):F71 N l accs=some (IN l accs):=by
 unfold F71 IN
 rw[C8 N hl hN,ar,cond_not,wa N ω,ar,Xy N ha hN hl,ar]
 cases dn l<;>rfl
theorem aaU(hN:200000≤N)(K:eV.bN){l:aY}{accs:List Int}(ha:accs.length≤100000)(s:aY){i:Nat}(hi:i<l.length)(hl:l.length≤100000)(hs:s.length≤100000):
  eV.l9 N K N l accs s (i:Int) false 0=if vi accs (l.getD i dT)then K l accs s ((i+1:Nat):Int)else K l accs (s++[l.getD i dT]) ((i+1:Nat):Int):=by
 have:=ll accs 0 (λn k (v:Bool)=>eV.l9 N K n l accs s (i:Int) v k) (λt v=>if v||Tt t (l.getD i dT).2.1 then K l accs s ((i+1:Nat):Int)else K l accs (s++[l.getD i dT]) ((i+1:Nat):Int)) (λ_ _=>True) (λn k v hk _ hr=> ?_) (λn v _=> ?_) accs.length N 0 false ω ω ω trivial
 ·rw[cM]at this
  exact this
 ·unfold eV.l9 eV.uX
  rw[aQ ω,aj,aU ω ω,aj,aU ω ω,aj,aG,aG,aw (x:=(k:Int)+1) ω ω,af k]
  cases v
  ·rw[av,hr _ trivial,jO,pX]
   unfold Tt
   rw[A0]
  ·rw[aj,hr _ trivial,A5,A5]
 ·unfold eV.l9 eV.uX
  rw[aO ω,av,aU ω ω,aj,aG,bJ (by rw[aJ];omega),aj,aw (x:=(i:Int)+1) ω ω,af i]
  cases v<;>rfl
theorem Xz{l:aY}{accs:List Int}(ha:accs.length≤100000)(hN:200000≤N)(hl:l.length≤100000):eV N l accs=some (IN l accs):=by
 unfold eV eV.b IN
 rw[ij N hl hN,ar,cond_not]
 have:=ll l dT (λn i s=>eV.l5 N n l accs s i) (λt s=>some (s++sZ accs t)) (λi (s:aY)=>s.length≤i) (λn i s hi hI hr=> ?_) (λn s hI=> ?_) l.length N 0 [] ω ω ω (aH _)
 ·rw[cM,cD]at this
  have e:eV.l5 N N l accs [] 0=some (sZ accs l):=this
  rw[e];cases dn l<;>rfl
 ·unfold eV.l5 eV.dV
  rw[aQ ω,aj,aaU N hN _ ha s hi hl ω]
  show _=some (s++(l.getD i dT::l.drop (i+1)).filter λo=> !vi accs o)
  rw[od]
  cases hx:vi accs (l.getD i dT)
  ·refine Eq.trans (hr (s++[l.getD i dT]) (by rw[aS,aJ];omega)) ?_
   rw[bF];rfl
  ·exact hr s ω
 ·unfold eV.l5 eV.dV
  rw[aO ω,av]
  show some s=some (s++[])
  rw[cA]
def uv(c:ae)(b:an)(m:Int):an×Int:=
 if dh c b then(if gd b.1 m=0 then((cn,(cW,(bo,(bo,(di,(du,())))))),3)else((b.1,(b.2.1,(b.2.2.1,(b.2.2.2.1,(b.2.2.2.2.1,(IN b.2.2.2.2.2.1 (tY b.2.1 m),b.2.2.2.2.2.2)))))),0))else((cn,(cW,(bo,(bo,(di,(du,())))))),1)
theorem Lr(a:aN)(m:Int):(tY a m).length≤a.length:=by
 unfold tY
 split
 ·exact IL m a
 ·exact bs _
theorem Qz(hN:4000000≤N)(c:ae){b:an}(w:jC b)(m:Int):F19 N c b m=some (uv c b m):=by
 unfold F19 uv
 have h1:=Lr b.2.1 m
 have h2:=w.a
 rw[vX N hN w,ar,Da N w.m ω,ar,cond_not,aI,PA N w,ar,aaS N w.a ω,ar,ad4 N ω ω w.o,ar]
 cases dh c b
 ·rfl
 ·show(if gd b.1 m=0 then _ else _)=some (if gd b.1 m=0 then _ else _)
  split<;>rfl
theorem XA(hN:5000000≤N)(c:ae){b:an}(w:jC b)(m:Int):X0 N c b m=some (uv c b m):=by
 unfold X0 uv
 have h1:=Lr b.2.1 m
 have h2:=w.a
 rw[qa N hN w,ar,pg N w.m ω,ar,cond_not,aI,Xx N w.a ω,ar,Xz N ω ω w.o,ar]
 cases dh c b
 ·rfl
 ·show(if gd b.1 m=0 then _ else _)=some (if gd b.1 m=0 then _ else _)
  split<;>rfl
end VM
end
section
namespace VM
open Go VM.F Go.RowKit
variable(N:Nat)
theorem Vh{a k:Int}: ∀{l:aY} {z:Int×Int},(∀o∈l,¬o.2.2.1=k)→bsL a k l z=z
 |[],z,_=>rfl
 |x::t,z,h=>by
  rw[Il,ag (λe=>h x (bu ..) e.2)]
  exact Vh λo ho=>h o (ba _ ho)
theorem IP{f:Int→Int×Int}{x:dg}: ∀m (k:Nat),x∈U4 f m k→ ∃j:Nat,x=nz (j:Int) (f (j:Int))∧0<(f (j:Int)).1+(f (j:Int)).2
 |0,_,hx=>nomatch hx
 |m+1,k,hx=>by
  rw[yl]at hx
  split at hx
  ·rename_i h0
   rcases bh.1 hx with rfl|hx
   ·exact⟨k,rfl,h0⟩
   ·exact IP m (k+1) hx
  ·exact IP m (k+1) hx
theorem DC(f:Int→Int×Int): ∀m k,(U4 f m k).Pairwise (λx y:dg=>lG x.1 y.1)
 |0,_=>List.Pairwise.nil
 |m+1,k=>by
  rw[yl]
  split
  ·refine eX.2 ⟨λy hy=> ?_,DC f m (k+1)⟩
   have:=Z6 f m (k+1) y hy
   show(k:Int)<y.1
   omega
  ·exact DC f m (k+1)
theorem Tu{c:ae}{b:an}(hR:RB c b)(a:Int):gW c (m7 b.2.2.2.2.2.1 a)=true:=by
 obtain⟨hq,hl⟩:=Im hR.o
 have hc:=(pz (R:=λx y:dg=>lG x.1 y.1) (d:=aZ) (λ_ _ _=>DA) _).2 (DC (NF b.2.2.2.2.2.1 a) 6 0)
 unfold gW
 refine df.2 ⟨aV λj hj=> ?_,hR.c⟩
 obtain⟨i,e,h0⟩:=IP 6 0 (qH (d:=aZ) hj)
 have hp:=hc j hj
 have hz:=MN hq a (i:Int)
 have hn:((i:Int))<(c.1.length:Int):=by
  rcases Int.lt_or_le (i:Int) (c.1.length:Int)with h|h
  ·exact h
  ·exfalso
   have:NF b.2.2.2.2.2.1 a (i:Int)=(0,0):=Vh λo ho he=>by
    have h3:o.2.2.1<(c.1.length:Int):=(hR.ok o ho).2
    rw[he]at h3
    exact absurd h3 (oi.2 h)
   rw[this]at h0
   exact absurd h0 δ
 unfold wx
 rw[show(m7 b.2.2.2.2.2.1 a).getD j aZ=(U4 (NF b.2.2.2.2.2.1 a) 6 0).getD j aZ from rfl,show(m7 b.2.2.2.2.2.1 a).getD (j-1) aZ=(U4 (NF b.2.2.2.2.2.1 a) 6 0).getD (j-1) aZ from rfl]
 rw[e]at hp ⊢
 unfold F0 at hz
 have g: ∀u v:Int,(0≤u∧u≤1000000000*(b.2.2.2.2.2.1.length:Int)∧0≤v∧v≤1000000000*(b.2.2.2.2.2.1.length:Int))→0<u+v→(0≤u∧u≤33000000000∧0≤v∧v≤33000000000∧(u=0→v≠0)):=λu v _ _=>ω
 obtain⟨g1,g2,g3,g4,g5⟩:=g _ _ hz h0
 exact⟨Int.natCast_nonneg i,hn,g1,g2,g3,g4,g5,λh=>hp h⟩
def pA(c:ae)(b:an)(a:Int):Int×Int:=
 if dh c b then(if(eT b.2.1 a).2 then((lV c (posOf b.2.2.2.1 a) (m7 b.2.2.2.2.2.1 a)).1,0)else(0,3))else(0,1)
theorem Tv{c:ae}{b:an}(h:dh c b=true)(a:Int):(lV c (posOf b.2.2.2.1 a) (m7 b.2.2.2.2.2.1 a)).2=0:=by
 have hR:=qI.1 h
 unfold lV
 rw[aaJ hR a,Tu hR a];rfl
theorem Nh(hN:4000000≤N)(c:ae){b:an}(w:jC b)(a:Int):F18 N c b a=some (cK (pA c b a).1,(pA c b a).2):=by
 unfold F18 pA
 rw[vX N hN w,ar,cond_not,De N b w.a ω,ar,cond_not]
 by_cases hB:dh c b=true
 rotate_left
 ·rw[ag hB];rw[lJ]at hB;rw[hB];rfl
 rw[ak hB,hB,aj]
 have zC:=Dl a b.2.2.2.1
 have xa:=La b.2.2.2.2.2.1 a
 have hs:=w.s
 have hoo:(if dn b.2.2.2.2.2.1 then m7 b.2.2.2.2.2.1 a else [])=m7 b.2.2.2.2.2.1 a:=by rw[ak (zL hB)]
 rw[aqk N w.s ω,ar,Z9 N ω w.o,ar,hoo,aac N ω c ω (HX w.qs a) ω,ar,Tv hB]
 cases(eT b.2.1 a).2<;>rfl
theorem aaV(hN:5000000≤N)(c:ae){b:an}(w:jC b)(a:Int):F53 N c b a=some (cI (pA c b a).1,(pA c b a).2):=by
 unfold F53 pA
 rw[qa N hN w,ar,cond_not,ya N w.a ω,ar,cond_not]
 by_cases hB:dh c b=true
 rotate_left
 ·rw[ag hB,g8];rw[lJ]at hB;rw[hB];rfl
 rw[ak hB,hB,aj]
 have zC:=Dl a b.2.2.2.1
 have xa:=La b.2.2.2.2.2.1 a
 have hs:=w.s
 obtain⟨hq,hl⟩:=Im (zL hB)
 have awy:P7 N c b a []=some (cI (lV c (posOf b.2.2.2.1 a) (m7 b.2.2.2.2.2.1 a)).1):=by
  unfold P7
  rw[bJ (by rw[bZ];omega),aj]
  dsimp only
  rw[cD,bJ (by rw[bZ];omega),aj,cA,SX N w.s ω,ar,WY N ω hq ω,ar,W1 N ω c ω (HX w.qs a) ω,ar]
 cases(eT b.2.1 a).2 with
 |false=>rw[ag pD,g8];rfl
 |true=>
  rw[aj,ak rfl]
  exact(fe (λz:Option aL=>z.bind λr3=>some (r3,(0:Int))) awy)
theorem ad5{c:ae}{b:an}(w:jC b)(a:Int):cH (pA c b a).1:=by
 have:=P2 c (m7 b.2.2.2.2.2.1 a) (HX w.qs a)
 unfold pA
 repeat' split
 ·unfold cH;dsimp only;omega
 ·decide
 ·decide
def Ni(c:ae):au:=if c.2.1=0 then []else [((1:Int),((0:Int),((W .i64 (0-c.2.1)),()))),((3:Int),((0:Int),(c.2.1,())))]
def Vi(c:ae):an×Int:=
 if eS c then((([]:aE),(([]:aN),(Ni c,(([]:au),(c.1.map (λx:cO=>(x.2.1:Int)),(([]:aY),())))))),0)else((cn,(cW,(bo,(bo,(di,(du,())))))),1)
theorem QA{l:aN}(hl:l.length≤100000)(hN:200000≤N)(x2:an)(r:au):
  w5.l7 N N x2 (([]:aE),(([]:aN),(r,(([]:au),(di,(([]:aY),())))))) [] l (l.length:Int) 0=some ((([]:aE),(([]:aN),(r,(([]:au),(l.map (λx:cO=>(x.2.1:Int)),(([]:aY),())))))),(0:Int)):=by
 have:=ll l bb (λn i s=>w5.l7 N n x2 (([]:aE),(([]:aN),(r,(([]:au),(di,(([]:aY),())))))) s l (l.length:Int) i)
  (λt s=>some ((([]:aE),(([]:aN),(r,(([]:au),(s++t.map (λx:cO=>(x.2.1:Int)),(([]:aY),())))))),(0:Int))) (λi (s:List Int)=>s.length≤i) (λn i s hi hI hr=> ?_) (λn s hI=> ?_) l.length N 0 [] ω ω ω (aH _)
 ·rw[cM,cD]at this
  exact this
 ·unfold w5.l7 w5.nR
  rw[aQ ω,aj,aU ω ω,aj,aG,bJ (by rw[aJ];omega),aj,aw (x:=(i:Int)+1) ω ω,af i]
  refine Eq.trans (hr (s++[(l.getD i bb).2.1]) (by rw[aS,aJ];omega)) ?_
  rw[bF];rfl
 ·unfold w5.l7 w5.nR
  rw[aO ω,av,gU,cA]
theorem alH(hN:200000≤N)(c:ae)(hl:c.1.length≤100000):w5 N c=some (Vi c):=by
 unfold w5 w5.b Vi w5.j6 w5.O6
 rw[FQ N ω,ar,cond_not,cond_not,aI]
 cases eS c with
 |false=>rfl
 |true=>
  rw[aj,ak rfl]
  unfold Ni
  by_cases h0:c.2.1=0
  ·rw[ak h0,ak h0];exact QA N hl hN _ _
  ·rw[ag h0,ag h0];exact QA N hl hN _ _
theorem QB{E:au}(hq:B7 E)(hl:E.length≤100000)(hN:4000000≤N):Fo N (E.map ik) (E.map gh)=some true:=by
 unfold Fo Fo.b
 rw[cB,cB,dj,bk,av]
 refine nO (F:=λn i=>Fo.l4 N n (E.map ik) (E.map gh) i) (len:=E.length) (λn i hi hr=> ?_) (λn=> ?_) E.length N 0 ω ω ω
 ·unfold Fo.l4 Fo.dM
  rw[cB,cB,aQ ω,aj,aU ω ω,aj,aj,aG,FV,Px hi]
  have WK:=FW hq i
  unfold ik gh
  dsimp only
  rw[dj,dj,bk,av,aj,aj,av,aj,aj,P3 N hN WK,ar,bk,av,aw (x:=(i:Int)+1) ω ω,af i]
  exact hr
 ·unfold Fo.l4 Fo.dM
  rw[cB,aO ω,av]
theorem IQ{c:ae}{b:an}(w:jC b)(i p:Int):PG (im c b i p).1:=by
 unfold im
 repeat' split
 all_goals first|exact u9|skip
 have h:=Er w [] (gG i (p-b.2.2.2.2.1.getD i.toNat 0) b.2.2.2.1)
 refine⟨h.m,h.a,h.r,h.s,?_,h.o⟩
 show(List.set b.2.2.2.2.1 i.toNat p).length≤100000
 rw[bU];exact w.p
theorem Tw{c:ae}{b:an}(w:jC b)(m:Int):PG (uv c b m).1:=by
 unfold uv
 repeat' split
 all_goals first|exact u9|skip
 refine⟨w.m,w.a,w.r,w.s,w.p,?_⟩
 show(IN b.2.2.2.2.2.1 (tY b.2.1 m)).length≤100000
 unfold IN
 split
 ·exact ck (Qy _ _) w.o
 ·exact bs _
theorem alI{c:ae}{b:an}(w:jC b)(hl:b.2.2.2.1.length≤400)(i p:Int):B7 (im c b i p).2.1∧(im c b i p).2.1.length≤400:=by
 have hn:B7 ([]:au)∧([]:au).length≤400:=⟨λx hx=>(nomatch hx),δ⟩
 unfold im
 split
 ·rename_i hB
  split
  ·rename_i hp
   split
   ·rename_i hi
    have Bv:=dY hB
    have Bl:i.toNat<b.2.2.2.2.1.length:=by rw[Bv.1];omega
    have L1:=Av hB w.qs hl (i:=i) hi (Aw Bv.2 Bl hp)
    split
    ·exact⟨L1.q,L1.len⟩
    ·exact hn
   ·exact hn
  ·exact hn
 ·exact hn
theorem ZA(hN:5000000≤N)(c:ae){b:an}(w:m5 b)(hs:b.2.2.2.1.length≤400){l:bE}(hl:l.length≤100000)(inst acc m p:Int):F11 N c b l inst acc m p=some true:=by
 unfold F11
 have s1:=MP (c:=c) w.w l
 have s2:=IQ (c:=c) w.w inst p
 have s3:=Tw (c:=c) w.w m
 have q:=alI (c:=c) w.w hs inst p
 rw[KT N ω c w hl,ar,S1 N hN c w hl,ar,Vg N ω c w hs,ar,aaR N hN c w hs,ar,Nh N ω c w.w,ar,aaV N hN c w.w,ar,Qz N ω c w.w,ar,XA N hN c w.w,ar]
 dsimp only
 rw[dj,dj,dj,dj,aj,aj,aj,aj,HT N ω s1.m s1.a s1.r s1.s s1.p s1.o,ar,aj,HT N ω s2.m s2.a s2.r s2.s s2.p s2.o,ar,aj,QB N q.1 ω ω,ar,aj,P3 N ω (ad5 w.w acc),ar,aj,HT N ω s3.m s3.a s3.r s3.s s3.p s3.o,ar,aj,vX N ω w.w,ar,qa N hN w.w,ar,mI,uA]
def bC:ae:=([((0:Int),((100:Int),((2:Int),((0:Int),()))))],((5:Int),((0:Int),((0:Int),((0:Int),((1:Int),((0:Int),())))))))
def bR:au:=[((1:Int),((0:Int),((-5:Int),()))),((3:Int),((0:Int),((5:Int),())))]
def bB:an:=([((1:Int),((1:Int),()))],([((1:Int),((1:Int),((1:Int),((0:Int),())))),((2:Int),((1:Int),((2:Int),((0:Int),()))))],(bR,(([]:au),([(100:Int)],([((1:Int),((2:Int),((0:Int),((1:Int),((4:Int),((1:Int),()))))))],()))))))
def bT:bE:=[((1:Int),((2:Int),((0:Int),((5:Int),((90:Int),())))))]
theorem bW:m5 bB:=⟨⟨δ,δ,δ,δ,δ,δ,B9 (l:=bR) δ,λx hx=>(nomatch hx)⟩,δ,δ⟩
def bX:an:=([((1:Int),((1:Int),()))],([((1:Int),((1:Int),((1:Int),((0:Int),())))),((2:Int),((1:Int),((2:Int),((0:Int),()))))],([((1:Int),((0:Int),((-5:Int),()))),((3:Int),((0:Int),((5:Int),()))),((5:Int),((1:Int),((50:Int),()))),((5:Int),((2:Int),((-50:Int),())))],([((1:Int),((0:Int),((5:Int),()))),((2:Int),((0:Int),((-5:Int),())))],([(100:Int)],([((1:Int),((2:Int),((0:Int),((1:Int),((4:Int),((1:Int),()))))))],()))))))
theorem bTr:sG bC bB bT=(bX,0):=κ
theorem bXW:m5 bX:=⟨⟨δ,δ,δ,δ,δ,δ,B9 (l:=bX.2.2.1) δ,B9 (l:=bX.2.2.2.1) δ⟩,δ,δ⟩
theorem awz:Vi bC=((([]:aE),(([]:aN),(bR,(([]:au),([(100:Int)],(([]:aY),())))))),0):=by
 unfold Vi Ni
 rw[ak κ,ag δ,aw δ δ];rfl
theorem awA:(im bC bX 0 110).2.2=0:=κ
theorem awB:(im bC bX 0 110).2.1.length=2:=κ
theorem awC:tO (im bC bX 0 110).1.2.2.1 5 1=100:=κ
theorem awD:(im bC bX 0 110).1.2.2.2.2.1=[110]:=κ
theorem bNd:pA bC bX 2=(10,0):=κ
theorem awE:(pA bC bB 9).2=3:=κ
theorem awF:(uv bC bB 1).2=0:=κ
theorem bDr:(uv bC bB 1).1.2.2.2.2.2.1=[]:=κ
theorem bHd:gm bX.2.2.2.1 1 0=5:=κ
theorem bGt:tO bX.2.2.1 5 1=50:=κ
theorem bOk:dh bC bB=true:=κ
theorem bWn:(cK 10).2.1=10:=κ
theorem Wz(hN:5000000≤N):F5 N=some true:=by
 unfold F5 F15
 rw[ar]
 show(w5 N bC).bind _=_
 rw[alH N ω bC δ,ar,awz]
 show(ur N bC bB bT).bind _=_
 rw[KT N ω bC bW δ,ar,bTr]
 show(F17 N bC bX 0 110).bind _=_
 have sh:=IQ (c:=bC) bXW.w 0 110
 rw[Vg N ω bC bXW δ,ar]
 show(F18 N bC bX 2).bind _=_
 rw[Nh N ω bC bXW.w,ar]
 show(F19 N bC bB 1).bind _=_
 rw[Qz N ω bC bW.w,ar]
 show(F18 N bC bB 9).bind _=_
 rw[Nh N ω bC bW.w,ar]
 dsimp only
 show cond (aM 0 0) ((Di N bR bR).bind λr8=>cond r8 ((Dj N [100] [100]).bind λr9=>cond r9 (cond (aM 0 0) ((CC N bX.2.2.2.1 1 0).bind λme=>cond (aM me 5) ((vn N bX.2.2.1 5 1).bind λoI=>cond (aM oI 50) (cond (aM (im bC bX 0 110).2.2 0) (cond (aM (((im bC bX 0 110).2.1.map ik).length:Int) 2) ((vn N (im bC bX 0 110).1.2.2.1 5 1).bind λnZ=>cond (aM nZ 100) (cond (aM ((im bC bX 0 110).1.2.2.2.2.1.length:Int) 1) (cond (bg 0 (im bC bX 0 110).1.2.2.2.2.1.length) (cond (aM (γ (im bC bX 0 110).1.2.2.2.2.1 (0:Int).toNat 0) 110) (cond (aM (pA bC bX 2).2 0) (cond (aM (cK (pA bC bX 2).1).2.1 10) (cond (aM (uv bC bB 1).2 0) (cond (aM ((uv bC bB 1).1.2.2.2.2.2.1.length:Int) 0) (cond (aM (pA bC bB 9).2 3) ((F9 N bC bB).bind λn0=>some n0) (some false)) (some false)) (some false)) (some false)) (some false)) (some false)) none) (some false)) (some false)) (some false)) (some false)) (some false)) (some false)) (some false)) (some false)) (some false)) (some false)=some true
 have l1:(1:Int)=(([(110:Int)]:List Int).length:Int):=rfl
 rw[dj,aj,PE N δ ω,ar,aj,PF N δ ω,ar,aj,aj,FY N bXW.w.s ω,ar,bHd,dj,aj,MB N bXW.w.r ω,ar,bGt,dj,aj,awA,dj,aj,cB,awB,eg (x:=((2:Nat):Int)) (y:=2) rfl,aj,MB N sh.r ω,ar,awC,dj,aj,awD,
  eg (x:=(([(110:Int)]:List Int).length:Int)) (y:=1) rfl,aj,aU (i:=0) (n:=([(110:Int)]:List Int).length) ω δ,aj,show γ [(110:Int)] (0:Int).toNat 0=110 from rfl,dj,aj,bNd,dj,aj,bWn,dj,aj,awF,dj,aj,bDr,eg (x:=((([]:aY).length:Nat):Int)) (y:=0) rfl,aj,awE,dj,aj,vX N ω bW.w,ar,bOk]
end VM
end
section
namespace VM
open Go VM.F
variable(N:Nat)
theorem Ok.and{α:Type}{P Q:α→Prop}{o:Option α}(h1:Ok P o)(h2:Ok Q o):Ok (λr=>P r∧Q r) o:=by
 obtain⟨r,e,hr⟩:=h1
 obtain⟨q,e',hq⟩:=h2
 rw[e]at e'
 exact⟨r,e,hr,(oe e')▸hq⟩
theorem Cp{α:Type}{l:List α}{x y:α}(k:Nat):y∈l.take k++x::l.drop k↔y=x∨y∈l:=by
 have e:y∈l↔y∈l.take k∨y∈l.drop k:=by rw[←bn,gT]
 rw[e,bn,bh]
 constructor
 ·rintro(h|h|h)
  ·exact .inr (.inl h)
  ·exact .inl h
  ·exact .inr (.inr h)
 ·rintro(h|h|h)
  ·exact .inr (.inl h)
  ·exact .inl h
  ·exact .inr (.inr h)
theorem IS{α:Type}{R:α→α→Prop}{l:List α}{x:α}{k:Nat}(hp:l.Pairwise R)(h1: ∀y∈l.take k,R y x)(h2: ∀y∈l.drop k,R x y):(l.take k++x::l.drop k).Pairwise R:=by
 rw[←gT k l,xg]at hp
 rw[xg,eX]
 exact⟨hp.1,⟨h2,hp.2.1⟩,λa ha b hb=>by
  rcases bh.1 hb with rfl|hb
  ·exact h1 a ha
  ·exact hp.2.2 a ha b hb⟩
theorem Vj{α:Type}{l:List α}{d:α}{f:α→Int}(hp:l.Pairwise λa b=>lG (f a) (f b)){v:Int}{k:Nat}(h1: ∀j,j<k→lG (f (l.getD j d)) v)(h2:k<l.length→ ¬lG (f (l.getD k d)) v)(hn: ∀y∈l,¬dI (f y) v):
  (∀y∈l.take k,lG (f y) v)∧ ∀y∈l.drop k,lG v (f y):=by
 refine⟨λy hy=> ?_,λy hy=> ?_⟩
 ·obtain⟨j,hj,e⟩:=gL hy
  rw[cj]at hj
  rw[AW]at e
  have:=h1 j ω
  rw[jl ω,e]at this
  exact this
 ·obtain⟨j,hj,e⟩:=gL hy
  rw[ec]at hj
  rw[Gt]at e
  have h3:=h2 ω
  rw[jl ω]at h3
  have h4:=hn y (mV hy)
  have g: ∀a b c:Int,¬lG a c→(lG a b∨a=b)→ ¬dI b c→lG c b:=λa b c h h' L4=>by
   unfold lG dI at*
   rcases h' with h'|h'<;>omega
  refine g _ _ _ h3 ?_ h4
  by_cases h0:j=0
  ·subst h0;right;rw[←e];rfl
  ·left
   have:=vr.1 hp k (k+j) ω ω ω
   rw[e]at this;exact this
theorem DD{α:Type}{l:List α}{d:α}(g:α→α){i:Nat}(hi:i<l.length):
  ((l.take i).map g++l.drop i).getD i d=l.getD i d∧((l.take i).map g++l.drop i).set i (g (l.getD i d))=(l.take (i+1)).map g++l.drop (i+1)∧(g (l.getD i d)=l.getD i d→(l.take i).map g++l.drop i=(l.take (i+1)).map g++l.drop (i+1)):=by
 have hlen:((l.take i).map g).length=i:=by rw[cB,cj];omega
 have e1:l.drop i=l[i]::l.drop (i+1):=qW hi
 have e2:l.take (i+1)=l.take i++[l[i]]:=(tx hi).symm
 rw[jl hi]
 refine⟨?_,?_,λh=> ?_⟩
 ·rw[aW,pC ω,hlen,uH,e1];rfl
 ·rw[N6 _ _ ω,hlen,uH,e1,e2,List.set_cons_zero,dr,bF];rfl
 ·rw[e1,e2,dr,bF,ca,h];rfl
theorem zh{α:Type}(l:List α)(g:α→α)(i:Nat):((l.take i).map g++l.drop i).length=l.length:=by
 rw[aS,cB,cj,ec];omega
theorem aaW(hN:200000≤N){a:aE}(hl:a.length≤50000)(id:Int):Ok (λr=>r.2=0→dN r.1=true∧ ∀n,ka a n→ka r.1 n) (iZ N a id):=by
 have bad: ∀e:Int,e≠0→Ok (λr:aE×Int=>r.2=0→dN r.1=true∧ ∀n,ka a n→ka r.1 n) (some ([],e)):=λe h=>aq λh'=>absurd h' h
 have b1:=bad 1 δ
 unfold iZ iZ.b
 refine bV (nI N ω hN) (bI (λ_=>b1) λhM=>ax (λ_=>b1) λh1=>ax (λ_=>b1) λh2=>bV (iW N ω hN id) (bM (λ_=>bad _ δ) λh0=> ?_))
 obtain⟨hm,hp⟩:=gZ.1 hM
 have hn: ∀y∈a,¬dI y.1 id:=λy hy e=>(g7 hm).2 ⟨y,hy,e⟩ h0
 have fin: ∀k:Nat,k≤a.length→(∀j,j<k→lG (a.getD j c7).1 id)→(k<a.length→ ¬lG (a.getD k c7).1 id)→Ok (λr=>r.2=0→dN r.1=true∧ ∀n,ka a n→ka r.1 n) (iZ.j9 N a id [] (k:Int)):=λk hk g1 g2=>by
  unfold iZ.j9 iZ.Pe
  refine MS hk ω λ_=> ?_
  simp only[cD,aG,dO,cM,ir,bF,mZ]
  obtain⟨q1,q2⟩:=Vj (f:=λx:BT=>x.1) hp g1 g2 hn
  refine⟨gZ.2 ⟨λx hx=> ?_,IS hp q1 q2⟩,λn ⟨y,hy,e⟩=>⟨y,(Cp k).2 (.inr hy),e⟩⟩
  rcases(Cp k).1 hx with rfl|hx
  ·exact⟨h1,h2,(show(1:Int)≤1 by decide),(show(1:Int)≤4 by decide)⟩
  ·exact hm x hx
 refine bt (σ:=Unit) (len:=a.length) (F:=λn i _=>iZ.l7 N n a id [] i) (s:=()) (λi _=> ∀j,j<i→lG (a.getD j c7).1 id) (λj hj=>absurd hj ω) ω (λn i _ hi hI hr=> ?_) (λn _ hI=> ?_)
 all_goals unfold iZ.l7 iZ.nR
 ·rw[aw (x:=(i:Int)+1) ω ω,af i]
  refine ax (λ_=>aB ⟨ω,ω⟩ (ax (λh=>hr () λj hj=> ?_) λh=>fin i ω hI λ_ h'=> ?_)) λ_=>ω
  ·by_cases e:j=i
   ·subst e;exact h
   ·exact hI j ω
  ·have g: ∀x y:Int,lG x y→y≤x→False:=λx y h h'=>by unfold lG at h;omega
   exact g _ _ h' h
 ·exact ax (λ_=>ω) λ_=>fin _ (aH _) hI λh=>absurd h ω
theorem aaX(a b:Int):Ok (λr=>r.2=true→1≤r.1∧r.1≤4) (W7 N a b):=by
 have h: ∀(x:Int) (t:Bool),(t=true→1≤x∧x≤4)→Ok (λr:Int×Bool=>r.2=true→1≤r.1∧r.1≤4) (some (x,t)):=λx t hx=>aq hx
 unfold W7
 repeat' first|refine ok_eq (λ_=> ?_) (λ_=> ?_)|exact h _ _ δ
def Nj(id v:Int)(x:BT):BT:=if x.1=id then(x.1,(v,x.2.2))else x
theorem Tx(id v:Int)(x:BT):(Nj id v x).1=x.1:=by unfold Nj;split<;>rfl
theorem yu{α:Type}{R:α→α→Prop}{g:α→α}{l:List α}(hp:l.Pairwise R)(h: ∀x∈l,∀y∈l,R x y→R (g x) (g y)):(l.map g).Pairwise R:=by
 rw[uz]
 exact hp.imp_of_mem λhx hy h'=>h _ hx _ hy h'
theorem Vk(hN:200000≤N){l:aE}(hl:l.length≤50000)(id k:Int):Ok (λr=>r.2=0→dN r.1=true∧(∀n,ka l n→ka r.1 n)∧ka l id) (mR N l id k):=by
 have bad: ∀e:Int,e≠0→Ok (λr:aE×Int=>r.2=0→dN r.1=true∧(∀n,ka l n→ka r.1 n)∧ka l id) (some ([],e)):=λe h=>aq λh'=>absurd h' h
 unfold mR mR.b
 refine bV (nI N ω hN) (bI (λ_=>bad _ δ) λhM=>bV (iW N ω hN _) (ok_eq (λ_=>bad _ δ) λw7=>ah (aaX N _ _) λz hz=>bI (λ_=>bad _ δ) λFM=>aC (by rw[bZ];omega) ?_))
 obtain⟨hm,hp⟩:=gZ.1 hM
 have hz:=hz FM
 rw[cD]
 refine bt (len:=l.length) (F:=λn i s=>mR.An N n id z.1 s i) (λi s=>s=(l.take i).map (Nj id z.1)++l.drop i) rfl ω (λn i s hi hI hr=> ?_) (λn s hI=> ?_)
 all_goals unfold mR.An mR.yg
 ·rw[aw (x:=(i:Int)+1) ω ω,af i]
  obtain⟨s1,s2,s3⟩:=DD (d:=c7) (Nj id z.1) hi
  have hs:s.length=l.length:=by rw[hI];exact zh l _ i
  rw[←hI]at s1 s2 s3
  refine ax (λ_=>aB ⟨ω,ω⟩ (ok_eq (λe=>aB ⟨ω,ω⟩ (hr _ ?_)) λe=>hr s (s3 ?_))) λ_=>ω
  ·rw[aG,s1]at e ⊢
   rw[←s2]
   unfold Nj;rw[ak e]
  ·rw[aG,s1]at e
   unfold Nj;rw[ag e]
 ·have hs:s.length=l.length:=by rw[hI];exact zh l _ _
  have e:s=l.map (Nj id z.1):=by rw[hI,ir,m0,cA]
  refine ax (λ_=>ω) λ_=>aq λ_=> ?_
  dsimp only
  rw[e]
  refine⟨gZ.2 ⟨λx hx=> ?_,yu hp λx _ y _ h=> ?_⟩,λn ⟨y,hy,e⟩=>⟨Nj id z.1 y,fG hy,?_⟩,(g7 hm).1 w7⟩
  ·obtain⟨y,hy,rfl⟩:=cY.1 hx
   have h:=hm y hy
   unfold Nj
   split
   ·exact⟨h.1,h.2.1,hz.1,hz.2⟩
   ·exact h
  ·unfold aaH;rw[Tx,Tx];exact h
  ·rw[Tx];exact e
def J6(id v:Int)(x:cO):cO:=if x.1=id then(x.1,(x.2.1,(x.2.2.1,(v,x.2.2.2.2))))else x
def Fp(id v:Int)(x:cO):cO:=if x.1=id then(x.1,(v,x.2.2))else x
theorem yv(id v:Int)(x:cO):(J6 id v x).1=x.1∧(J6 id v x).2.1=x.2.1∧(J6 id v x).2.2.1=x.2.2.1:=by unfold J6;split<;>exact⟨rfl,rfl,rfl⟩
theorem IT(id v:Int)(x:cO):(Fp id v x).1=x.1∧(Fp id v x).2.2=x.2.2:=by unfold Fp;split<;>exact⟨rfl,rfl⟩
theorem QC{a:aN}{g:cO→cO}(hg: ∀x,(g x).1=x.1)(n:Int)(h:ru a n):ru (a.map g) n:=by
 obtain⟨y,hy,e⟩:=h
 exact⟨g y,fG hy,by rw[hg];exact e⟩
abbrev tj(m:aE)(a:aN)(r:aN×Int):Prop:=r.2=0→gO r.1=true∧(∀n,ru a n→ru r.1 n)∧ ∀x∈r.1,ka m x.2.1
theorem tj.bad{m:aE}{a:aN}{e:Int}(h:e≠0):Ok (tj m a) (some ([],e)):=aq λh'=>absurd h' h
theorem aaY(hN:200000≤N){m:aE}{l:aN}(hl:l.length≤50000)(hm: ∀x∈l,ka m x.2.1)(id q:Int):Ok (tj m l) (oK N l id q):=by
 unfold oK oK.b
 refine bV (sA N ω hN) (bI (λ_=>tj.bad δ) λhA=>ax (λ_=>tj.bad δ) λq0=>ax (λ_=>tj.bad δ) λq1=>bV (sy N ω hN _) (bI (λ_=>tj.bad δ) λ_=>aC (by rw[bZ];omega) ?_))
 obtain⟨ha,hp,ht⟩:=qp.1 hA
 rw[cD]
 refine bt (len:=l.length) (F:=λn i s=>oK.l8 N n id q s i) (λi s=>s=(l.take i).map (J6 id q)++l.drop i) rfl ω (λn i s hi hI hr=> ?_) (λn s hI=> ?_)
 all_goals unfold oK.l8 oK.Ej
 ·rw[aw (x:=(i:Int)+1) ω ω,af i]
  obtain⟨s1,s2,s3⟩:=DD (d:=bb) (J6 id q) hi
  have hs:s.length=l.length:=by rw[hI];exact zh l _ i
  rw[←hI]at s1 s2 s3
  refine ax (λ_=>aB ⟨ω,ω⟩ (ok_eq (λe=>aB ⟨ω,ω⟩ (hr _ ?_)) λe=>hr s (s3 ?_))) λ_=>ω
  ·rw[aG,s1]at e ⊢
   rw[←s2]
   unfold J6;rw[ak e]
  ·rw[aG,s1]at e
   unfold J6;rw[ag e]
 ·have hs:s.length=l.length:=by rw[hI];exact zh l _ _
  have e:s=l.map (J6 id q):=by rw[hI,ir,m0,cA]
  refine ax (λ_=>ω) λ_=>aq λ_=> ?_
  dsimp only
  rw[e]
  refine⟨qp.2 ⟨λx hx=> ?_,yu hp λx _ y _ h=> ?_,yu ht λx _ y _ h=> ?_⟩,QC λx=>(yv id q x).1,λx hx=> ?_⟩
  ·obtain⟨y,hy,rfl⟩:=cY.1 hx
   have h:=ha y hy
   unfold J6
   split
   ·exact⟨h.1,h.2.1,h.2.2.1,q0,q1⟩
   ·exact h
  ·unfold Qp;rw[(yv id q x).1,(yv id q y).1];exact h
  ·unfold ntw aqA;rw[(yv id q x).2.1,(yv id q y).2.1,(yv id q x).2.2,(yv id q y).2.2];exact h
  ·obtain⟨y,hy,rfl⟩:=cY.1 hx
   rw[(yv id q y).2.1];exact hm y hy
theorem Ls{n:Int}: ∀{l:aN},l.Pairwise Qp→ ∀x∈l,dI x.1 n→(uZ n l).1=x
 |[],_,x,hx,_=>nomatch hx
 |y::t,hp,x,hx,e=>by
  rw[pf]
  rcases bh.1 hx with rfl|hx
  ·rw[ak (show x.1=n from e)]
  ·have h:lG y.1 x.1:=(eX.1 hp).1 x hx
   have g: ∀a b:Int,lG a b→dI b n→ ¬a=n:=λa b h1 h2=>by unfold lG dI at*;omega
   rw[ag (g _ _ h e)]
   exact Ls (eX.1 hp).2 x hx e
theorem Tz(hN:200000≤N){m:aE}{l:aN}(FF:m.length≤50000)(hl:l.length≤50000)(id to:Int):Ok (tj m l) (oL N m l id to):=by
 unfold oL oL.b
 refine bV (yb N ω ω hN) (bI (λ_=>tj.bad δ) λhR=>bV (sy N ω hN _) (bV (iW N ω hN _) (bI (λ_=>tj.bad δ) λ_=>ok_eq (λ_=>tj.bad δ) λhs=>bM (λ_=>tj.bad δ) λhk=>bM (λ_=>tj.bad δ) λ_=>aC (by rw[bZ];omega) ?_)))
 unfold sB at hR
 simp only[bQ,fc,fV]at hR
 obtain⟨hM,hA,hma⟩:=hR
 obtain⟨ha,hp,ht⟩:=qp.1 hA
 have hmm:=(gZ.1 hM).1
 obtain⟨mx,NB,emx⟩:=(g7 hmm).1 hs
 have hm: ∀x∈l,ka m x.2.1:=(iA (d:=bb) (Q:=λx=>ka m x.2.1)).1 λj hj=>(g7 hmm).1 (hma j hj)
 rw[cD]
 refine bt (len:=l.length) (F:=λn i s=>oL.mw N n id to s i) (λi s=>s=(l.take i).map (Fp id to)++l.drop i) rfl ω (λn i s hi hI hr=> ?_) (λn s hI=> ?_)
 all_goals unfold oL.mw oL.lq
 ·rw[aw (x:=(i:Int)+1) ω ω,af i]
  obtain⟨s1,s2,s3⟩:=DD (d:=bb) (Fp id to) hi
  have hs:s.length=l.length:=by rw[hI];exact zh l _ i
  rw[←hI]at s1 s2 s3
  refine ax (λ_=>aB ⟨ω,ω⟩ (ok_eq (λe=>aB ⟨ω,ω⟩ (hr _ ?_)) λe=>hr s (s3 ?_))) λ_=>ω
  ·rw[aG,s1]at e ⊢
   rw[←s2]
   unfold Fp;rw[ak e]
  ·rw[aG,s1]at e
   unfold Fp;rw[ag e]
 ·have hs:s.length=l.length:=by rw[hI];exact zh l _ _
  have e:s=l.map (Fp id to):=by rw[hI,ir,m0,cA]
  refine ax (λ_=>ω) λ_=>aq λ_=> ?_
  dsimp only
  rw[e]
  have cl: ∀x∈l,x.1=id→x.2.2.1=2:=λx hx e=>by rw[←Ls hp x hx e];exact hk
  have mo:aaI mx.1 mx.2.1:=hmm mx NB
  have aqI:mx.1=to:=emx
  refine⟨qp.2 ⟨λx hx=> ?_,yu hp λx _ y _ h=> ?_,yu ht λx hx y hy h=> ?_⟩,QC λx=>(IT id to x).1,λx hx=> ?_⟩
  ·obtain⟨y,hy,rfl⟩:=cY.1 hx
   have h:=ha y hy
   unfold Fp
   split
   ·exact⟨h.1,⟨aqI▸mo.1,aqI▸mo.2.1⟩,h.2.2⟩
   ·exact h
  ·unfold Qp;rw[(IT id to x).1,(IT id to y).1];exact h
  ·intro ⟨t1,t2,t3⟩
   rw[(IT id to x).2]at t1
   rw[(IT id to y).2]at t2
   have nx: ∀x∈l,dI x.2.2.1 1→Fp id to x=x:=λx hx e=>by
    unfold Fp
    rw[ag]
    intro h'
    have:=cl x hx h'
    have e':x.2.2.1=1:=e
    rw[e']at this;exact absurd this δ
   rw[nx x hx t1,nx y hy t2]at t3
   exact h ⟨t1,t2,t3⟩
  ·obtain⟨y,hy,rfl⟩:=cY.1 hx
   unfold Fp
   split
   ·exact⟨mx,NB,emx⟩
   ·exact hm y hy
theorem EP{n:Int}: ∀{l:aN},(∀x∈l,Tq x)→ow n l=0→ ∀x∈l,dI x.2.2.1 1→ ¬dI x.2.1 n
 |[],_,_,x,hx,_=>nomatch hx
 |y::t,ha,h,x,hx,e=>by
  rw[tK]at h
  have ih:=EP (n:=n) λz hz=>ha z (ba _ hz)
  have hy:Tq y:=ha y (bu ..)
  have g: ∀v:Int,1≤v→ ¬v=0:=λv h1 h2=>ω
  by_cases e1:y.2.1=n
  ·rw[ak e1]at h
   by_cases e2:y.2.2.1=1
   ·rw[ak e2]at h;exact absurd h (g _ hy.1.1)
   ·rw[ag e2]at h
    rcases bh.1 hx with rfl|hx
    ·exact absurd e e2
    ·exact ih h x hx e
  ·rw[ag e1]at h
   rcases bh.1 hx with rfl|hx
   ·exact e1
   ·exact ih h x hx e
theorem ad6(hN:200000≤N){m:aE}{l:aN}(FF:m.length≤50000)(hl:l.length≤50000)(x:cO):Ok (tj m l) (fU N m l x):=by
 unfold fU fU.b
 refine bV (yb N ω ω hN) (bI (λ_=>tj.bad δ) λhR=>bV (sA N (l:=[x]) (by rw[aJ];omega) hN) (bI (λ_=>tj.bad δ) λhX=>bV (iW N ω hN _) (ok_eq (λ_=>tj.bad δ) λhs=>bM (λ_=>tj.bad δ) λ_=>bV (sy N ω hN _) (qc (λ_=>tj.bad δ) λhf=> ?_))))
 unfold sB at hR
 simp only[bQ,fc,fV]at hR
 obtain⟨hM,hA,hma⟩:=hR
 obtain⟨ha,hp,ht⟩:=qp.1 hA
 have hmm:=(gZ.1 hM).1
 have hx:=(qp.1 hX).1 x (cy.2 rfl)
 have hxm:=(g7 hmm).1 hs
 have hm: ∀x∈l,ka m x.2.1:=(iA (d:=bb) (Q:=λx=>ka m x.2.1)).1 λj hj=>(g7 hmm).1 (hma j hj)
 have hn: ∀y∈l,¬dI y.1 x.1:=λy hy e=>by
  have:=DB.2 ⟨y,hy,e⟩
  rw[hf]at this;exact nomatch this
 have fin:(∀y∈l,ntw y x)→ ∀k:Nat,k≤l.length→(∀j,j<k→lG (l.getD j bb).1 x.1)→(k<l.length→ ¬lG (l.getD k bb).1 x.1)→Ok (tj m l) (fU.Dt N l x [] (k:Int)):=λhw k hk g1 g2=>by
  unfold fU.Dt fU.w3
  refine MS hk ω λ_=> ?_
  simp only[cD,aG,dO,cM,ir,bF,mZ]
  obtain⟨q1,q2⟩:=Vj (f:=λx:cO=>x.1) hp g1 g2 hn
  have tw: ∀y∈l,ntw x y:=λy hy ⟨t1,t2,t3⟩=>hw y hy ⟨t2,t1,Eq.symm t3⟩
  refine⟨qp.2 ⟨λy hy=> ?_,IS hp q1 q2,IS ht (λy hy=>hw y (lI hy)) λy hy=>tw y (mV hy)⟩,λn ⟨y,hy,e⟩=>⟨y,(Cp k).2 (.inr hy),e⟩,λy hy=> ?_⟩
  ·rcases(Cp k).1 hy with rfl|hy
   ·exact hx
   ·exact ha y hy
  ·rcases(Cp k).1 hy with rfl|hy
   ·exact hxm
   ·exact hm y hy
 have hj:(∀y∈l,ntw y x)→Ok (tj m l) (fU.Lg N l x):=λhw=>by
  unfold fU.Lg fU.Du
  refine bt (σ:=Unit) (len:=l.length) (F:=λn i _=>fU.mw N n l x [] i) (s:=()) (λi _=> ∀j,j<i→lG (l.getD j bb).1 x.1) (λj hj=>absurd hj ω) ω (λn i _ hi hI hr=> ?_) (λn _ hI=> ?_)
  all_goals unfold fU.mw fU.lq
  ·rw[aw (x:=(i:Int)+1) ω ω,af i]
   refine ax (λ_=>aB ⟨ω,ω⟩ (ax (λh=>hr () λj hj=> ?_) λh=>fin hw i ω hI λ_ h'=> ?_)) λ_=>ω
   ·by_cases e:j=i
    ·subst e;exact h
    ·exact hI j ω
   ·have g: ∀x y:Int,lG x y→y≤x→False:=λx y h h'=>by unfold lG at h;omega
    exact g _ _ h' h
  ·exact ax (λ_=>ω) λ_=>fin hw _ (aH _) hI λh=>absurd h ω
 refine ok_eq (λe=>bV (rJ N ω hN _) (bM (λ_=>tj.bad δ) λh0=>hj λy hy ⟨t1,_,t3⟩=> ?_)) λe=>hj λy hy ⟨_,t2,_⟩=>e t2
 unfold ox at h0
 rw[ak hA]at h0
 exact EP ha h0 y hy t1 t3
def PB(m:aE)(a:aN)(p:bO):Prop:=
 ∃e:au,p=e.map gh∧B7 e∧(∀x∈e,de x.1 x.2.1∧ko m a x.1 x.2.1)∧(e.map dQ).sum=0
def SB(c:ae)(a:aN)(s:au):Prop:=dU s∧(∀x∈s,cg x.1 x.2.1∧zM c a x.1 x.2.1)∧ ∀i:Int,(dp i s).sum=0
theorem PB.nil{m:aE}{a:aN}:PB m a []:=⟨[],rfl,λx hx=>(nomatch hx),λx hx=>(nomatch hx),rfl⟩
theorem PB.app{m:aE}{a:aN}{p q:bO}(hp:PB m a p)(hq:PB m a q):PB m a (p++q):=by
 obtain⟨e,rfl,e1,e2,e3⟩:=hp
 obtain⟨f,rfl,f1,f2,f3⟩:=hq
 refine⟨e++f,dr.symm,λx hx=>(bn.1 hx).elim (e1 x) (f1 x),λx hx=>(bn.1 hx).elim (e2 x) (f2 x),?_⟩
 rw[dr,oa,e3,f3];rfl
theorem IU(i:Int): ∀s t:au,dp i (s++t)=dp i s++dp i t
 |[],t=>rfl
 |x::s,t=>by
  rw[mZ,dB,dB,IU i s t]
  split<;>rfl
theorem SB.nil{c:ae}{a:aN}:SB c a []:=⟨λx hx=>(nomatch hx),λx hx=>(nomatch hx),λ_=>rfl⟩
theorem SB.app{c:ae}{a:aN}{s t:au}(hs:SB c a s)(ht:SB c a t):SB c a (s++t):=
 ⟨λx hx=>(bn.1 hx).elim (hs.1 x) (ht.1 x),λx hx=>(bn.1 hx).elim (hs.2.1 x) (ht.2.1 x),λi=>by rw[IU,oa,hs.2.2,ht.2.2];rfl⟩
theorem SB.two{c:ae}{a:aN}{x y i q r:Int}(hq:aF q)(hr:aF r)(e:q+r=0)(hx:cg x i∧zM c a x i)(hy:cg y i∧zM c a y i):SB c a [(x,(i,(q,()))),(y,(i,(r,())))]:=by
 refine⟨λz hz=> ?_,λz hz=> ?_,λj=> ?_⟩
 ·rcases bh.1 hz with rfl|hz
  ·exact hq
  ·rw[cy.1 hz];exact hr
 ·rcases bh.1 hz with rfl|hz
  ·exact hx
  ·rw[cy.1 hz];exact hy
 ·rw[dB,dB]
  by_cases h:i=j
  ·rw[ak h,ak h]
   show q+(r+0)=0
   omega
  ·rw[ag h,ag h];rfl
theorem PB.two{m:aE}{a:aN}{k n k' n' v w:Int}(hv:cH v)(hw:cH w)(e:v+w=0)(h1:de k n∧ko m a k n)(h2:de k' n'∧ko m a k' n'):PB m a [(k,(n,(cI v,()))),(k',(n',(cI w,())))]:=by
 refine⟨[(k,(n,(v,()))),(k',(n',(w,())))],rfl,λz hz=> ?_,λz hz=> ?_,?_⟩
 ·rcases bh.1 hz with rfl|hz
  ·exact hv
  ·rw[cy.1 hz];exact hw
 ·rcases bh.1 hz with rfl|hz
  ·exact h1
  ·rw[cy.1 hz];exact h2
 ·show v+(w+0)=0
  omega
abbrev Lt(c:ae)(b:an)(r:an×Int):Prop:=r.2=0→RBs c b r.1
theorem Lt.bad{c:ae}{b b':an}{e:Int}(h:e≠0):Ok (Lt c b) (some (b',e)):=aq λh'=>absurd h' h
theorem aaZ(hN:4000000≤N){b:an}{s e:au}(w:jC b)(hr:fh b.2.2.1=true)(hs:dk b.2.2.2.1=true)(lr:b.2.2.1.length≤90000)(ls:b.2.2.2.1.length≤90000)(qs:dU s)(lns:s.length≤100000)(qe:B7 e)(lne:e.length≤100000):
  zt N b s (e.map gh)=some (dE b s e):=by
 unfold zt dE
 rw[HQ N hN hs ls w.qs qs lns,UR N hN hr lr w.qr qe lne]
 unfold wZ
 rw[ar,ar]
 cases eN Fq (fS b.2.2.2.1 s) jV with
 |none=>rfl
 |some s'=>
  cases eN aF (fS b.2.2.1 e) nN with
  |none=>rfl
  |some r'=>rfl
theorem tZ(hN:4000000≤N){c:ae}{b:an}{s:au}{p:bO}{m:Nat}(hm:m≤50000)(hb:G m aK b)(h:RB c b)(hs:SB c b.2.1 s)(hp:PB b.1 b.2.1 p)(ls:s.length≤50000)(lp:p.length≤50000):Ok (Lt c b) (zt N b s p):=by
 obtain⟨e,rfl,e1,e2,e3⟩:=hp
 obtain⟨hr,w7⟩:=ej (qI.2 h)
 have w:=G.wf hm hb
 rw[cB]at lp
 exact nK (aaZ N hN w.w hr w7 w.r w.s hs.1 ω e1 ω) λh0=>h.dE hs.2.1 hs.2.2 e2 e3 h0
theorem pS{v:Int}(h:aF v):cH v∧cH (-v):=by unfold aF at h;unfold cH;omega
theorem ua(hN:4000000≤N){m:aE}{a:aN}{k n k' n' v:Int}(hv:cH v∧cH (-v))(h1:de k n∧ko m a k n)(h2:de k' n'∧ko m a k' n'):Ok (λr=>PB m a r∧r.length=2) (Dw N k n k' n' (cI v)):=by
 unfold Dw
 exact bV (pe N hN (pO hv.1)) (aq ⟨PB.two hv.2 hv.1 ω h1 h2,rfl⟩)
theorem vj{c:ae}{b:an}(h:RB c b){k:Int}(hk:ru b.2.1 k):de 5 k∧ko b.1 b.2.1 5 k:=by
 obtain⟨y,hy,e⟩:=hk
 have hk:=(qp.1 h.a).1 y hy
 have e':y.1=k:=e
 exact⟨.inr (.inl ⟨rfl,e'▸hk.1⟩),λ_=>⟨y,hy,e⟩,λh=>absurd h δ⟩
theorem DE{m:aE}{a:aN}{k:Int}(h:1≤k∧k≤4):de k 0∧ko m a k 0:=
 ⟨.inl ⟨h.1,h.2,rfl⟩,λe=>by unfold dI at e;omega,λe=>by unfold dI at e;omega⟩
theorem Cr{c:ae}{b:an}(h:RB c b){k n:Int}(hk:6≤k∧k≤7)(hn:ka b.1 n):de k n∧ko b.1 b.2.1 k n:=by
 obtain⟨y,hy,e⟩:=hn
 have hm:=(gZ.1 h.m).1 y hy
 have e':y.1=n:=e
 exact⟨.inr (.inr ⟨hk.1,hk.2,e'▸hm.1,e'▸hm.2.1⟩),λe=>by unfold dI at e;omega,λ_=>⟨y,hy,e⟩⟩
theorem Nk{m:aE}{a:aN}{k:Int}(h:dI k 0∨ru a k)(hk:0≤k∧k≤24)(x:Int):de (pq k x).1 (pq k x).2.1∧ko m a (pq k x).1 (pq k x).2.1:=by
 unfold pq
 by_cases e:k=0
 ·rw[ak e]
  exact⟨show de 2 0 by decide,λh=>absurd h (show ¬dI 2 5 by decide),λh=>absurd h (show ¬(dI 2 6∨dI 2 7)by decide)⟩
 ·rw[ag e]
  refine⟨show de 5 k by unfold de;omega,λ_=>h.elim (λh=>absurd h e) id,λh=>absurd h (show ¬(dI 5 6∨dI 5 7)by decide)⟩
theorem QD{c:ae}{b:an}(h:RB c b){k:Int}(ht:((eT b.2.1 k).2||decide (dI k 0))=true):dI k 0∨ru b.2.1 k:=by
 rcases Bool.or_eq_true_iff.1 ht with ht|ht
 ·exact .inr ((qq h.a k).1 ht)
 ·exact .inl (bD ht)
theorem J7(hN:4000000≤N){m:aE}{a:aN}{t:kQ}{p:Int}(ht:dx t)(hp:c5 p)(h1:dI t.1 0∨ru a t.1)(h2:dI t.2.1 0∨ru a t.2.1):Ok (λr=>PB m a r.1∧r.1.length≤2) (PH N t p):=by
 refine nK (zI N hN ht hp) ?_
 have ht':=ht
 unfold dx ki at ht'
 have hk:cH ((p-t.2.2.2.2.1)*t.2.2.2.1)∧cH (-((p-t.2.2.2.2.1)*t.2.2.2.1)):=by
  have hq:=ht'.2.2.2.2.1
  have he:=ht'.2.2.2.2.2
  generalize t.2.2.2.2.1=e at*
  generalize t.2.2.2.1=q at*
  unfold c5 at hp he
  have:=Dm (d:=p-e) ω hq
  unfold cH;omega
 unfold mj
 dsimp only
 split
 ·exact⟨PB.nil,bs _⟩
 ·refine⟨⟨_,rfl,λx hx=> ?_,λx hx=> ?_,?_⟩,aH 2⟩
  ·rcases bh.1 hx with rfl|hx
   ·rw[gQ];exact hk.1
   ·rw[cy.1 hx,gQ];exact hk.2
  ·rcases bh.1 hx with rfl|hx
   ·exact Nk h1 ht'.1 _
   ·rw[cy.1 hx];exact Nk h2 ht'.2.1 _
  ·rw[ca,ca,gU,gQ,gQ,cN,cN,jn];omega
theorem Lu(hN:5000000≤N){c:ae}{b:an}{l:bE}{m:Nat}(hm:m≤50000)(hb:G m aK b)(h:RB c b):Ok (Lt c b) (nS N c b l):=by
 unfold nS nS.b
 refine bV (eo N hN hm hb) (bI (λ_=>Lt.bad δ) λhB=>ax (λ_=>Lt.bad δ) λhl=> ?_)
 obtain⟨hp,Jk⟩:=dY hB
 refine bt (len:=l.length) (F:=λn i (_:Unit)=>nS.l4 N n l c b (cn,(cW,(bo,(bo,(di,(du,())))))) i) (s:=()) (λi _=> ∀j,j<i→dx (l.getD j gv)) (λj hj=>ω) ω (λn i _ hi hI hr=> ?_) (λn _ hI=> ?_)
 all_goals unfold nS.l4 nS.dM
 ·rw[aw (x:=(i:Int)+1) ω ω,af i]
  refine ax (λ_=>aB ⟨ω,ω⟩ (bV (vb N _) (bI (λ_=>Lt.bad δ) λht=>hr () λj hj=> ?_))) λ_=>ω
  by_cases e:j=i
  ·rw[e];exact bD ht
  ·exact hI j ω
 ·refine ax (λ_=>ω) λ_=> ?_
  have wf:=G.wf hm hb
  refine bt (len:=l.length) (F:=λn i (s:au×bO)=>nS.An N n l c b (cn,(cW,(bo,(bo,(di,(du,())))))) s.1 s.2 i) (s:=(_,_)) (λi s=>(SB c b.2.1 s.1∧s.1.length≤2*i)∧PB b.1 b.2.1 s.2∧s.2.length≤2*i) ⟨⟨SB.nil,bs _⟩,PB.nil,bs _⟩ ω (λn i s hi hJ hr=> ?_) (λn s hJ=> ?_)
  all_goals unfold nS.An nS.yg
  all_goals obtain⟨⟨j1,j2⟩,j3,j4⟩:=hJ
  ·have ht0:=hI i hi
   have ht:=ht0
   unfold dx ki at ht
   dsimp only
   rw[aw (x:=(i:Int)+1) ω ω,af i,aG]
   generalize l.getD i gv=t at*
   refine ax (λ_=>aB ⟨ω,ω⟩ (bV (p9 N b wf.w.a ω _) (bI (λ_=>Lt.bad δ) λt1=>bV (p9 N b wf.w.a ω _) (bI (λ_=>Lt.bad δ) λt2=>eR (λ_=>Lt.bad δ) λeU=>aC ?_ (aB ⟨ht.2.2.2.1.1,by rw[hp];exact eU⟩ ?_))))) λ_=>ω
   ·rw[aT,aJ];omega
   have i1:=QD h t1
   have i2:=QD h t2
   have pr:c5 (b.2.2.2.2.1.getD t.2.2.1.toNat 0):=by
    unfold fm at Jk
    have hk:t.2.2.1.toNat<b.2.2.2.2.1.length:=by
     rw[hp]
     have g: ∀x:Int,0≤x→x<(c.1.length:Int)→x.toNat<c.1.length:=λx h1 h2=>ω
     exact g _ ht.2.2.2.1.1 eU
    exact(bD Jk) _ hk
   refine ah (J7 N ω ht0 pr i1 i2) λr ⟨BK,zT⟩=>aC ω (hr (_,_) ⟨⟨?_,?_⟩,PB.app j3 BK,?_⟩)
   ·refine SB.app j1 ?_
    have hq:aF t.2.2.2.1∧aF (0-t.2.2.2.1)∧W .i64 (0-t.2.2.2.1)=0-t.2.2.2.1:=by
     have hq:=ht.2.2.2.2.1
     generalize t.2.2.2.1=q at*
     exact⟨by unfold aF;omega,by unfold aF;omega,aw ω ω⟩
    rw[hq.2.2]
    have pl: ∀x:Int,0≤x∧x≤24→cg x t.2.2.1:=λx hx=>⟨hx.1,hx.2,ht.2.2.2.1.1,ht.2.2.2.1.2⟩
    exact SB.two hq.1 hq.2.1 ω ⟨pl _ ht.1,i1,eU⟩ ⟨pl _ ht.2.1,i2,eU⟩
   ·dsimp only;rw[List.length_append,List.length_cons,List.length_singleton];omega
   ·dsimp only;rw[List.length_append];omega
  ·exact ax (λ_=>ω) λ_=>ah (tZ N ω hm hb h j1 j3 ω ω) λr h=>aq h
theorem ad7(hN:5000000≤N){c:ae}{b:an}{h:cO}{a q p:Int}{m:Nat}(h2:200≤m)(hm:m≤40000)(hc:G m aA c)(hb:G m aK b)(hR:RB c b)(hh:G m ff h)(ha:aF a)(hq:aF q)(hp:aF p):Ok (λr=>r.2.2=0→RB c r.1∧r.2.1.2.1=h.2.1∧ZM r.2.1.2.2.2.1 1000000000) (qL N c b h a q p):=by
 have ho:G m nw (h.1,(a,(h.2.1,(W .i64 (3-h.2.2.1),(q,(p,())))))):=⟨hh.1,ha,hh.2.1,gJ _,hq,hp,trivial⟩
 have et: ∀e:Int,e≠0→Ok (λr:an×cO×Int=>r.2.2=0→RB c r.1∧r.2.1.2.1=h.2.1∧ZM r.2.1.2.2.2.1 1000000000) (some ((cn,(cW,(bo,(bo,(di,(du,())))))),(bb,e))):=λe h=>aq λh'=>absurd h' h
 unfold qL qL.b
 have hj:Ck h→1≤q→ ¬lG h.2.2.2.1 q→ ∀t:kQ,Ok (λr=>r.2.2=0→RB c r.1∧r.2.1.2.1=h.2.1∧ZM r.2.1.2.2.2.1 1000000000) (qL.j14 N q c b h (cn,(cW,(bo,(bo,(di,(du,())))))) bb t):=λhk q1 q2 t=>by
  have g: ∀x:Int,qIn x→ ¬lG x q→ZM (W .i64 (x-q)) 1000000000:=λx h1 h2=>by unfold qIn at h1;unfold lG at h2;unfold ZM;rw[aw ω ω];omega
  unfold qL.j14 qL.adC
  exact ah (Lu N hN ω hb hR) λr hr=>bM (λh=>et _ h) λh0=>aq λ_=>⟨(hr h0).1,rfl,g _ hk.2.2.2 q2⟩
 have b1:=et 1 δ
 exact bV (eo N hN ω hb) (bI (λ_=>b1) λ_=>bV (yq N h) (bI (λ_=>b1) λhk=>ax (λ_=>b1) λq1=>ax (λ_=>b1) λ_=>ax (λ_=>b1) λ_=>ax (λ_=>b1) λ_=>ax (λ_=>et _ δ) λq2=>ax (λ_=>b1) λ_=>ax (λ_=>b1) λ_=>ah (Cm N hN h2 hm hc hb ho) λe _=>bM (λh=>et _ h) λ_=>ok_eq (λ_=>hj (bD hk) q1 (oi.2 q2) _) λ_=>hj (bD hk) q1 (oi.2 q2) _))
theorem QE(hN:5000000≤N){c:ae}{b:an}{m:Nat}(h2:200≤m)(hm:m≤40000)(hc:G m aA c)(hb:G m aK b)(hR:RB c b){a:Int}(ha:aF a){q:Int}(hq:aF q):Ok (Lt c b) (Xa N c b a q):=by
 have b1: ∀e:Int,e≠0→Ok (Lt c b) (some ((cn,(cW,(bo,(bo,(di,(du,())))))),e)):=λe h=>Lt.bad h
 unfold Xa
 refine bV (eo N hN ω hb) (bI (λ_=>b1 _ δ) λ_=>ax (λ_=>b1 _ δ) λ_=>ah (Iw N ω ω hb.2.1 _) λx ⟨_,hxf⟩=>bI (λ_=>b1 _ δ) λhf=>ah (px N ω ω hb.1 _) λ_ _=>bM (λ_=>b1 _ δ) λ_=>ah (ny N ω ω hb.2.2.1 _ _) λg hg=>ah (bH N ω hg) λx hx=>ah (bH N ω hq) λy hy=>ah (zb N ω ω hx hy) λz hz=>ah (Iv N ω h2 hm hc hb (bs _) _) λw hw=>ah (qK N ω ω ω hz hw) λ_ _=>ax (λ_=>b1 _ δ) λ_=>bV (dd N ω hq.1 hq.2) ?_)
 rw[hxf]at hf
 exact ah (ua N ω (pS hq) (vj hR ((qq hR.a a).1 hf)) (DE δ)) λp ⟨hp,zC⟩=>ah (tZ N ω ω hb hR SB.nil hp (bs _) ω) λr hr=>aq hr
def ES(i d:Int)(l:au):au:=(l.filter λx=>decide (dI x.2.1 i∧ ¬dI d 0)).map λx=>pq x.1 (dQ x*d)
theorem TA{l:au}{i d:Int}{k:Nat}(hk:k<l.length):ES i d (l.take (k+1))=ES i d (l.take k)++if dI (l.getD k aZ).2.1 i∧ ¬dI d 0 then [pq (l.getD k aZ).1 (dQ (l.getD k aZ)*d)]else []:=by
 have e2:l.take (k+1)=l.take k++[l[k]]:=(tx hk).symm
 unfold ES
 rw[e2,AT,dr,jl hk]
 congr 1
 by_cases h:dI l[k].2.1 i∧ ¬dI d 0
 ·rw[ak h,od,ak (aV h)];rfl
 ·rw[ag h,od,ag (by rw[bw h];exact pD)];rfl
theorem Lv{i d:Int}: ∀l:au,((ES i d l).map dQ).sum=(dp i l).sum*d
 |[]=>(GD d).symm
 |x::t=>by
  have ih:=Lv (i:=i) (d:=d) t
  unfold ES at ih ⊢
  rw[dB]
  by_cases h:x.2.1=i
  ·rw[ak h]
   by_cases h0:d=0
   ·rw[od,ag (by rw[bw (λh=>h.2 h0)];exact pD),ih,h0,A4,A4]
   ·rw[od,ak (aV ⟨h,h0⟩),ca,ca,cN,cN,ih,pZ,gQ]
  ·rw[ag h,od,ag (by rw[bw (λk=>h k.1)];exact pD),ih]
theorem ad8{q d:Int}(hq:aF q)(hd: -1000000000000≤d∧d≤1000000000000):cH (q*d):=by
 have h1:(q*d).natAbs≤9223372036854775808*1000000000000:=by
  rw[Gy]
  unfold aF at hq
  exact uD ω ω
 unfold cH;omega
theorem aa0(hN:4000000≤N){c:ae}{b:an}{m:Nat}(hm:m≤50000)(hb:G m aK b)(hR:RB c b){i:Int}(hi0:0≤i∧i<6)(x y:Int):Ok (λr=>PB b.1 b.2.1 r.1∧r.1.length≤50000) (kj N b.2.2.2.1 i x y):=by
 have h:=hb.2.2.2.1
 have hl:=h.1
 have hs:=(ej (qI.2 hR)).2
 have fl:(dp i b.2.2.2.1).sum=0:=by
  have:=hR.s
  unfold oy at this
  have:=bD (df.1 this).1 i.toNat (by unfold kv;omega)
  unfold sC dI rj at this
  rw[ak hs,uy hi0.1]at this
  exact this
 have hp:=(eZ hs).2
 unfold kj kj.b
 have nil: ∀e:Int,Ok (λr:bO×Int=>PB b.1 b.2.1 r.1∧r.1.length≤50000) (some ([],e)):=λe=>aq ⟨PB.nil,bs _⟩
 refine bV (lS N ω ω) (bI (λ_=>nil _) λ_=>bV (jz N _) (bI (λ_=>nil _) λha=>bV (jz N _) (bI (λ_=>nil _) λfb=> ?_)))
 have ha:=bD ha
 have fb:=bD fb
 refine bV (dd N ω ω ω) (bV (dd N ω ω ω) (bV (ra N hN ((Fit.i64 ω ω).mono ω) ((Fit.i64 ω ω).mono ω)) ?_))
 have d64: -1000000000000≤y-x∧y-x≤1000000000000:=ω
 generalize y-x=d at*
 have fin:PB b.1 b.2.1 ((ES i d b.2.2.2.1).map gh):=by
  refine⟨_,rfl,λz hz=> ?_,λz hz=> ?_,?_⟩
  ·obtain⟨u,hu,rfl⟩:=cY.1 hz
   rw[gQ];exact ad8 (h.2 u (rS.1 hu).1).2.2.1 d64
  ·obtain⟨u,hu,rfl⟩:=cY.1 hz
   have hu:=(rS.1 hu).1
   exact Nk (hR.sk u hu).1 ⟨(hp u hu).1.1,(hp u hu).1.2.1⟩ _
  ·rw[Lv,fl,GD]
 refine bt (len:=b.2.2.2.1.length) (F:=λn j s=>kj.l6 N n b.2.2.2.1 i s (cI d) j) (λj s=>s=(ES i d (b.2.2.2.1.take j)).map gh∧s.length≤j) ⟨rfl,bs _⟩ ω (λn j s hj hI hr=> ?_) (λn s hI=> ?_)
 all_goals unfold kj.l6 kj.uU
 ·obtain⟨i1,i2⟩:=hI
  have st:=TA (i:=i) (d:=d) hj
  have hx:G m kd (b.2.2.2.1.getD j aZ):=h.2 _ (qH hj)
  rw[aw (x:=(j:Int)+1) ω ω,af j,aG]
  have skip: ¬(dI (b.2.2.2.1.getD j aZ).2.1 i∧ ¬dI d 0)→s=(ES i d (b.2.2.2.1.take (j+1))).map gh∧s.length≤j+1:=λh=>⟨by rw[st,ag h,cA];exact i1,ω⟩
  refine ax (λ_=>aB ⟨ω,ω⟩ (bM (λe=>hr s (skip λk=>e k.1)) λe1=>bV (pM N d) (ok_eq (λe=>hr s (skip λk=>k.2 (jB.1 e))) λe2=>aB ⟨ω,ω⟩ (bV (y7 _ (dQ (b.2.2.2.1.getD j aZ)*d) N) (aB ⟨ω,ω⟩ (bV (dd N ω hx.2.2.1.1 hx.2.2.1.2) (bV (sx N hN ((Fit.i64 hx.2.2.1.1 hx.2.2.1.2).mono ω) ((Fit.i64 ω ω).mono ω)) (aC (by rw[aJ];omega) (hr _ ⟨?_,by rw[aS,aJ];omega⟩))))))))) λ_=>ω
  rw[st,ak ⟨e1,λk=>e2 (jB.2 k)⟩,dr,i1]
  congr 1
  unfold gh
  rw[ca,gU,gQ];rfl
 ·have i2:=hI.2
  refine ax (λ_=>ω) λ_=>aq ⟨?_,by dsimp only;omega⟩
  have:=hI.1
  rw[ir]at this
  rw[this];exact fin
theorem TB{l:List Int}(h:fm l=true){p:Int}(hp:1≤p∧p≤1000000000000)(k:Nat):fm (l.set k p)=true:=by
 unfold fm at*
 have h:=bD h
 refine aV λj hj=> ?_
 rw[bU]at hj
 have XV:=h j hj
 unfold rl at*
 rw[aW,List.getElem?_set]
 split
 ·rw[ak ω];exact hp
 ·rw[←aW];exact XV
theorem QF(hN:5000000≤N){c:ae}{b:an}{m:Nat}(hm:m≤50000)(hb:G m aK b)(hR:RB c b)(i p:Int):Ok (λr=>r.2.2=0→RB c r.1) (F52 N c b i p):=by
 have et: ∀e:Int,e≠0→Ok (λr:an×bO×Int=>r.2.2=0→RB c r.1) (some ((cn,(cW,(bo,(bo,(di,(du,())))))),([],e))):=λe h=>aq λh'=>absurd h' h
 have zC:=hb.2.2.2.2.1.1
 have hci:c.1.length≤6:=by
  have:=hR.c
  unfold eS at this
  exact(bD (df.1 this).1).2
 unfold F52
 refine bV (eo N hN hm hb) (bI (λ_=>et _ δ) λhB=>bV (jz N _) (bI (λ_=>et _ δ) λhp=>ax (λ_=>et _ δ) λh0=>eR (λ_=>et _ δ) λh1=> ?_))
 obtain⟨Bv,_⟩:=dY hB
 have hp:=bD hp
 dsimp only
 rw[cD]
 refine aB ⟨h0,by rw[Bv];exact h1⟩ (ah (aa0 N ω hm hb hR ⟨h0,ω⟩ _ _) λf ⟨hf,FH⟩=>ah (tZ N ω hm hb hR SB.nil hf (bs _) FH) λr hr=>bM (λh=>et _ h) λhz=>aC (by rw[bZ];omega) (aB ⟨h0,by rw[Bv];exact h1⟩ (aq λ_=> ?_)))
 have q:=(hr hz).1
 exact⟨q.c,q.m,q.a,q.ma,q.r,q.t,q.s,q.o,by rw[bU];exact hR.n,q.rk,q.sk,q.ok,TB hR.p hp _⟩
end VM
end
