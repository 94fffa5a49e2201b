/- A part of the proof of HedgeDrawn of layer 22: what the functions compute, in plain words. -/
import Derived.Test.YtocmlaipoebfeaaGreatPlain3
import Derived.Test.YtocmlaipoebfeaaGreatPlain1
import Derived.Test.YtocmlaipoebfeaaGreatPlain0
set_option linter.all false
section
namespace VM
open Go VM.F
theorem dv{c:aa}{b:ag}(h:bW c b=true):ec c=true:=by
 unfold bW at h
 exact(azf.1 h).1
def gw(k:Int):Nat→aD→List Int
 |_,[]=>[]
 |i,x::t=>if x.1=k then(i:Int)::gw k (i+1) t else gw k (i+1) t
theorem nk(k:Int)(i:Nat)(x:bp)(t:aD):gw k i (x::t)=if x.1=k then(i:Int)::gw k (i+1) t else gw k (i+1) t:=rfl
def bK(c:aa)(k:Int):List Int:=if ec c then gw k 0 c.1 else []
theorem Bk(N:Nat)(hN:200000≤N)(c:aa)(hl:c.1.length≤100000)(k:Int):yz N c k=some (bK c k):=by
 unfold yz yz.b bK
 rw[lZ N (by omega),ayy,cond_not]
 have:=kK c.1 aJ (fun n i s=>yz.l5 N n k c s i) (fun t s=>some (s++gw k (c.1.length-t.length) t)) (fun i (s:List Int)=>s.length≤i) (fun n i s hi hI hr=> ?_) (fun n s hI=> ?_) c.1.length N 0 [] (by omega) (by omega) (by omega) (ayJ _)
 ·have e:yz.l5 N N k c [] 0=some (gw k 0 c.1):=by
   refine this.trans ?_
   rw[ay7,aA6];rfl
  rw[e];cases ec c<;>rfl
 ·unfold yz.l5 yz.c7
  have e1:c.1.length-(c.1.getD i aJ::c.1.drop (i+1)).length=i:=by rw[ayI,aza];omega
  have e2:c.1.length-(c.1.drop (i+1)).length=i+1:=by rw[aza];omega
  rw[e2]at hr
  rw[aE (by omega),ayz,aF (by omega) (by omega),ayz,ayD,ak (x:=(i:Int)+1) (by omega) (by omega),ae i,au,a8 (by rw[ayA];omega),ayz,e1,nk]
  split
  ·rw[hr _ (by rw[ayH,ayA];omega),ayP];rfl
  ·exact hr s (by omega)
 ·unfold yz.l5 yz.c7
  rw[az (by omega),ayB]
  show some s=some (s++[])
  rw[ay2]
def Bl(c:aa)(b:ag)(i:Nat):Int:=mR b.2.2.2.1 0 (i:Int)*b.2.2.2.2.1.getD i 0
def n6(c:aa)(b:ag)(k:Int):Nat→Int
 |0=>0
 |n+1=>n6 c b k n+if(c.1.getD n aJ).1=k then Bl c b n else 0
theorem uR(c:aa)(b:ag)(k:Int)(n:Nat):n6 c b k (n+1)=n6 c b k n+if(c.1.getD n aJ).1=k then Bl c b n else 0:=rfl
def kR(f:Int→Int):iw:=[br (f 0),br (f 1),br (f 2),br (f 3)]
theorem Bm(f:Int→Int){k:Int}(h:0≤k∧k≤3):(kR f).getD k.toNat (false,kV)=br (f k):=by
 have:k=0∨k=1∨k=2∨k=3:=by omega
 rcases this with rfl|rfl|rfl|rfl<;>rfl
theorem Pg(f:Int→Int){k:Int}(h:0≤k∧k≤3)(v:Int):(kR f).set k.toNat (br (f k+v))=kR (fun j=>f j+if k=j then v else 0):=by
 have:k=0∨k=1∨k=2∨k=3:=by omega
 unfold kR
 rcases this with rfl|rfl|rfl|rfl<;>simp
theorem ND{a b:Int}(ha:aB a)(hb:bt b): -9223372036854775808000000000000≤a*b∧a*b≤9223372036854775808000000000000:=by
 unfold aB at ha;unfold bt at hb
 have h1:=azs ha.1 (show 0≤b by omega)
 have h2:=azs (aAS ha.2) (show 0≤b by omega)
 omega
theorem fM{c:aa}(h:ec c=true):c.1.length≤6∧ ∀i,i<c.1.length→0≤(c.1.getD i aJ).1∧(c.1.getD i aJ).1≤3:=by
 unfold ec at h
 simp only[ayQ]at h
 have h1:=ayV h.1
 have h2:=ayV h.2.1
 exact⟨h1.2,fun i hi=>(h2 i hi).1⟩
theorem FE{l:aj}(h:dC l)(a b:Int):aB (mR l a b):=by
 unfold mR
 cases dn l
 ·show aB 0;decide
 ·exact Bf h a b
theorem DY{c:aa}{b:ag}(w:eS b)(hB:bW c b=true){i:Nat}(hi:i<c.1.length): -9223372036854775808000000000000≤Bl c b i∧Bl c b i≤9223372036854775808000000000000:=by
 obtain⟨Ap,za⟩:=cO hB
 obtain⟨_,hk⟩:=kv hB
 have h1:aB (mR b.2.2.2.1 0 (i:Int)):=FE w.qs _ _
 exact ND h1 (kA za (by omega))
theorem xn{c:aa}{b:ag}(w:eS b)(hB:bW c b=true)(k:Int): ∀n,n≤c.1.length→ -(9223372036854775808000000000000*(n:Int))≤n6 c b k n∧n6 c b k n≤9223372036854775808000000000000*(n:Int)
 |0,_=>⟨azC _,azC _⟩
 |n+1,h=>by
  have ih:=xn w hB k n (by omega)
  have ht:=DY w hB (i:=n) (by omega)
  rw[uR]
  split<;>omega
theorem Ph{c:aa}{b:ag}(w:eS b)(hB:bW c b=true)(k:Int){n:Nat}(h:n≤c.1.length):bB (n6 c b k n):=by
 have h6:=(fM (dv hB)).1
 have:=xn w hB k n h
 unfold bB;omega
def bF(c:aa)(b:ag)(k:Int):Int:=n6 c b k c.1.length
theorem Ij(N:Nat)(hN:5000000≤N)(c:aa){b:ag}(w:eS b):jO N c b=some (if bW c b then(kR (bF c b),0)else([],1)):=by
 unfold jO jO.b
 rw[sE N hN w,ayy,cond_not]
 by_cases hB:bW c b=false
 ·rw[hB];rfl
 rw[azD]at hB
 rw[hB,ayz,ayF rfl,bJ (by omega) (by omega) (by omega),ayz]
 obtain⟨Ap,za⟩:=cO hB
 obtain⟨h6,Ue⟩:=fM (dv hB)
 have key: ∀(m n i:Nat),c.1.length-i≤m→m<n→i≤c.1.length→jO.l5 N n c b (kR (fun k=>n6 c b k i)) (i:Int)=some (kR (bF c b),0):=by
  intro m n
  induction n generalizing m with
  |zero=>intro i _ hn;omega
  |succ n ih=>
   intro i hm hn hi
   unfold jO.l5 jO.c7
   by_cases h:i<c.1.length
   ·have hk:=Ue i h
    have gD:aI (c.1.getD i aJ).1 (kR (fun k=>n6 c b k i)).length=true:=aF hk.1 (by
     have g: ∀x:Int,x≤3→x<((4:Nat):Int):=fun x _=>by omega
     exact g _ hk.2)
    have hh:aB (mR b.2.2.2.1 0 (i:Int)):=FE w.qs _ _
    have Ku:=hh
    unfold aB at Ku
    have hp:=kA za (i:=i) (by omega)
    have wN:=hp
    unfold bt at wN
    have ht:=DY w hB h
    have H9:bB (Bl c b i):=by unfold bB;omega
    rw[aE (by omega),ayz,aF (by omega) (by omega),ayz,ayD,gD,ayz,zQ N w.s (by omega),ayy,cn N (by omega) Ku.1 Ku.2,ayy,aF (by omega) (by omega),ayz,cn N (by omega) (by omega) (by omega),ayy,lY N (by omega) ((Fit.i64 Ku.1 Ku.2).mono (by omega)) ((Fit.i64 (by omega) (by omega)).mono (by omega)),ayy,Bm _ hk]
    have aow:uc N (br (n6 c b (c.1.getD i aJ).1 i)) (br (mR b.2.2.2.1 0 (i:Int)*b.2.2.2.2.1.getD i 0))=some (br (n6 c b (c.1.getD i aJ).1 i+Bl c b i)):=eM N (by omega) (ij (Ph w hB _ (by omega))) (ij H9)
    rw[aow,ayy,ayz,Pg (fun k=>n6 c b k i) hk,ak (x:=(i:Int)+1) (by omega) (by omega),ae i]
    exact ih (m-1) (i+1) (by omega) (by omega) (by omega)
   ·have e:i=c.1.length:=by omega
    subst e
    rw[az (by omega),ayB];rfl
 have:=key c.1.length N 0 (by omega) (by omega) (by omega)
 have e0:kR (fun k=>n6 c b k 0)=List.replicate (4:Int).toNat (false,kV):=by
  show [br 0,br 0,br 0,br 0]=_
  rw[ez];rfl
 rw[e0]at this
 exact this
end VM
end
section
namespace VM
open Go VM.F
theorem q5(N:Nat)(p:Int):Vp N p=some (decide (bt p)):=(xe N p).trans (azS some (aAm.2 Iff.rfl))
theorem DZ(N:Nat)(hN:10≤N)(t:gk):ly N t=some (decide (cE t)):=by
 obtain⟨n,rfl⟩: ∃n,N=n+3:=⟨N-3,by omega⟩
 refine Eq.trans ?_ (yv t.1 t.2.1 t.2.2.1 t.2.2.2.1 t.2.2.2.2.1)
 unfold ly ly.b
 have el:List.set (List.set (List.replicate 2 (0:Int)) 0 t.1) 1 t.2.1=[t.1,t.2.1]:=rfl
 rw[el]
 generalize hl:[t.1,t.2.1]=l
 have g0:l.getD (0:Int).toNat 0=t.1:=by rw[←hl];rfl
 have g1:l.getD (1:Int).toNat 0=t.2.1:=by rw[←hl];rfl
 unfold ly.l2 ly.dA
 unfold ly.l2 ly.dA
 unfold ly.l2 ly.dA
 rw[aE (x:=0) (by omega),ayz,aF (i:=0) (by omega) (by omega),ayz,ak (x:=0+1) (by omega) (by omega),show(0:Int)+1=1 from rfl,aE (x:=1) (y:=2) (by omega),ayz,aF (i:=1) (by omega) (by omega),ayz,ak (x:=1+1) (by omega) (by omega),show(1:Int)+1=2 from rfl,az (x:=2) (y:=2) (by omega),ayB,g0,g1,q5,ayy]
 simp only[bm,cond_not,au,aL]
 by_cases a1:t.1<0
 ·rw[ayF a1,ayE (aBF.2 a1)]
 rw[ayE a1,ayF (aBE.1 a1)]
 by_cases a2:24<t.1
 ·rw[ayF a2,ayE (aBF.2 a2)]
 rw[ayE a2,ayF (aBE.1 a2)]
 by_cases a3:t.2.1<0
 ·rw[ayF a3,ayE (aBF.2 a3)]
 rw[ayE a3,ayF (aBE.1 a3)]
 by_cases a4:24<t.2.1
 ·rw[ayF a4,ayE (aBF.2 a4)]
 rw[ayE a4,ayF (aBE.1 a4)]
theorem D0(N:Nat)(a x:Int):Sc N a (bl x)=some (ga (zn a x)):=by
 unfold Sc zn ga
 rw[au]
 by_cases h:a=0
 ·rw[ayF h,ayF h];rfl
 ·rw[ayE h,ayE h];rfl
theorem LK(N:Nat)(hN:100≤N){t:gk}{p:Int}(ht:cE t)(hp:bt p):Sd N t p=some ((jl t p).map ga,0):=by
 unfold Sd jl
 have hq:=ht.2.2.2.2.1
 have he:=ht.2.2.2.2.2
 rw[DZ N (by omega),ayy,ayO ht,ayL,ayB,q5,ayy,ayO hp,ayL,ayB,au]
 unfold bt at hp he
 generalize t.2.2.2.2.1=e at*
 generalize t.2.2.2.1=q at*
 by_cases h:p=e
 ·rw[ayF h,ayF (by omega)];rfl
 ·rw[ayE h,ayE (by omega),ak (x:=p-e) (by omega) (by omega),ak (x:=e-p) (by omega) (by omega),vL N (by omega) (by omega) (by omega) (by omega),ayy,D0,ayy,vL N (by omega) (by omega) (by omega) (by omega),ayy,D0,ayy,ay6,ay6,az2,azt q (p-e)]
  have e2:q*(e-p)= -((p-e)*q):=by rw[azt,←Int.neg_mul];congr 1;omega
  rw[e2]
theorem FF(N:Nat){u v:Int}(hu:bB u)(hv:bB v)(hs:bB (u+v)):Ik N (bl u) (bl v)=some (bl (u+v),true):=by
 unfold Ik bl
 unfold bB at*
 dsimp only
 have hp:0≤u%18446744073709551616∧u%18446744073709551616<18446744073709551616:=by omega
 have hq:0≤v%18446744073709551616∧v%18446744073709551616<18446744073709551616:=by omega
 rw[ju,ju,p4 N (by omega) (by omega) (by omega) (by omega),ayy]
 dsimp only
 have hc:0≤(u%18446744073709551616+v%18446744073709551616+0)/18446744073709551616∧(u%18446744073709551616+v%18446744073709551616+0)/18446744073709551616≤1:=by omega
 have e1:(u%18446744073709551616+v%18446744073709551616+0)%18446744073709551616=(u+v)%18446744073709551616:=by omega
 have e2:u/18446744073709551616+v/18446744073709551616+(u%18446744073709551616+v%18446744073709551616+0)/18446744073709551616=(u+v)/18446744073709551616:=by omega
 have h3: -9223372036854775808≤(u+v)/18446744073709551616∧(u+v)/18446744073709551616<9223372036854775808:=by omega
 rw[p4 N (by omega) (by omega) hc.1 hc.2,ayy]
 dsimp only
 have e3:W .i64 ((u/18446744073709551616%18446744073709551616+v/18446744073709551616%18446744073709551616+(u%18446744073709551616+v%18446744073709551616+0)/18446744073709551616)%18446744073709551616)=(u+v)/18446744073709551616:=by
  rw[dZ];split<;>omega
 rw[e3,e1]
 have key: ∀A B C:Int,A=u/18446744073709551616→B=v/18446744073709551616→C=(u+v)/18446744073709551616→(A<0∧B<0→C<0)∧(¬A<0∧ ¬B<0→ ¬C<0):=fun A B C _ _ _=>by omega
 have k:=key _ _ _ rfl rfl rfl
 simp only[lX,pz]
 by_cases a:u/18446744073709551616<0<;>by_cases b:v/18446744073709551616<0
 ·have c:=k.1 ⟨a,b⟩
  rw[ayO a,ayO b,ayO c];rfl
 ·rw[ayO a,ayR b];rfl
 ·rw[ayR a,ayO b];rfl
 ·have c:=k.2 ⟨a,b⟩
  rw[ayR a,ayR b,ayR c];rfl
theorem Pj(N:Nat)(hN:200000≤N)(c:aa)(hl:c.1.length≤100000)(k:Int):mo N c k=some (bK c k):=by
 unfold mo mo.b bK
 rw[zJ N (by omega),ayy,cond_not]
 have:=kK c.1 aJ (fun n i s=>mo.l5 N n k s c.1 (c.1.length:Int) i) (fun t s=>some (s++gw k (c.1.length-t.length) t)) (fun i (s:List Int)=>s.length≤i) (fun n i s hi hI hr=> ?_) (fun n s hI=> ?_) c.1.length N 0 [] (by omega) (by omega) (by omega) (ayJ _)
 ·have e:mo.l5 N N k [] c.1 (c.1.length:Int) 0=some (gw k 0 c.1):=by
   refine this.trans ?_
   rw[ay7,aA6];rfl
  rw[e];cases ec c<;>rfl
 ·unfold mo.l5 mo.c7
  have e1:c.1.length-(c.1.getD i aJ::c.1.drop (i+1)).length=i:=by rw[ayI,aza];omega
  have e2:c.1.length-(c.1.drop (i+1)).length=i+1:=by rw[aza];omega
  rw[e2]at hr
  rw[aE (by omega),ayz,aF (by omega) (by omega),ayz,ayD,ak (x:=(i:Int)+1) (by omega) (by omega),ae i,au,a8 (by rw[ayA];omega),ayz,e1,nk]
  split
  ·rw[hr _ (by rw[ayH,ayA];omega),ayP];rfl
  ·exact hr s (by omega)
 ·unfold mo.l5 mo.c7
  rw[az (by omega),ayB]
  show some s=some (s++[])
  rw[ay2]
end VM
end
section
namespace VM
open Go VM.F
theorem yA(N:Nat)(hN:10≤N){l:aZ}(hl:l.length≤100000): ∀(m n i:Nat),l.length-i≤m→m<n→i≤l.length→
  ∃r,oM.l2 N n l () (l.length:Int) (i:Int)=some r∧(bX 0 r= !(l.drop i).all (fun t=>decide (cE t)))
 |m,0,i,_,hn,_=>by omega
 |m,n+1,i,hm,hn,hi=>by
  unfold oM.l2 oM.dA adn
  by_cases h:i<l.length
  ·rw[aE (by omega),ayz,aF (by omega) (by omega),ayz,ayD,DZ N hN,ayy,ayy,cond_not,cq,drop_cons h dX,aBt]
   by_cases hP:cE (l.getD i dX)
   ·rw[ayF hP,ak (by omega) (by omega),ayO hP,aAa]
    exact yA N hN hl (m-1) n (i+1) (by omega) (by omega) (by omega)
   ·rw[ayE hP,ayR hP,aA3]
    exact⟨_,rfl,by rw[cX (by omega)];rfl⟩
  ·have e:i=l.length:=by omega
   subst e
   rw[az (by omega),ayB,aAl]
   exact⟨_,rfl,by rw[cP (by omega)];rfl⟩
theorem LM(N:Nat){l:aZ}(hl:l.length≤100000)(hN:200000≤N):VJ N l ()=some (!l.all (fun t=>decide (cE t))):=by
 unfold VJ oM oM.b
 obtain⟨r,e,h⟩:=yA N (by omega) hl l.length N 0 (by omega) (by omega) (by omega)
 rw[show((0:Nat):Int)=0 from rfl]at e
 rw[e,ayy,h,ay7]
theorem Il(N:Nat)(hN:4000000≤N)(c:aa){b:ag}(w:ni b)(hB:bW c b=true){l:aZ}(hk: ∀t∈l,cE t)(hth: ∀t∈l,dI c b t=true)(hl:l.length≤200):
  fA.kk N N b (bE,(cg,(aX,(aX,(cC,(cK,())))))) [] [] l (l.length:Int) 0=some (gu b (eT l) (fc b l)):=by
 obtain⟨hr,hs⟩:=kv hB
 obtain⟨Ap,za⟩:=cO hB
 have gs:=DW hk hl
 have Pf: ∀t∈l,t.2.2.1.toNat<b.2.2.2.2.1.length∧aI t.2.2.1 b.2.2.2.2.1.length=true:=fun t ht=>by
  have h:=hth t ht
  unfold dI at h
  have dH:=ayV (azf.1 (azf.1 h).2).2
  have gD:=(hk t ht).2.2.2.1
  have g: ∀x:Int,(0≤x∧x<6)→Cs x c.1.length→x.toNat<b.2.2.2.2.1.length∧aI x b.2.2.2.2.1.length=true:=fun x _ h=>by unfold Cs at h;exact⟨by omega,aF (by omega) (by omega)⟩
  exact g _ gD dH
 have g9: ∀t∈l,cE t∧bt (gv b t):=fun t ht=>⟨hk t ht,kA za (Pf t ht).1⟩
 have:=kK l dX (fun n i (z:aj×aj)=>fA.kk N n b (bE,(cg,(aX,(aX,(cC,(cK,())))))) z.1 (z.2.map ga) l (l.length:Int) i)
  (fun u z=>some (gu b (eT l) (fc b l)))
  (fun i z=>z.1++eT (l.drop i)=eT l∧z.2++fc b (l.drop i)=fc b l)
  (fun n i z hi hI vO=> ?_) (fun n z hI=> ?_) l.length N 0 ([],[]) (by omega) (by omega) (by omega) ⟨rfl,rfl⟩
 ·exact this
 ·unfold fA.kk fA.jh
  obtain⟨i1,i2⟩:=hI
  have hls:=q3 l
  have hle:=q4 b l
  have z1:z.1.length≤400:=by rw[←i1,ayH]at hls;omega
  have z2:z.2.length≤400:=by rw[←i2,ayH]at hle;omega
  have hm:l.getD i dX∈l:=by
   rw[ayC,ayG hi];exact ay5 hi
  have ht:=hk _ hm
  have hn:=Pf _ hm
  have hp:=(g9 _ hm).2
  rw[drop_cons hi dX,mm]at i1
  rw[drop_cons hi dX,ph]at i2
  rw[aE (by omega),ayz,aF (by omega) (by omega),ayz,ayD,ak (x:=(i:Int)+1) (by omega) (by omega),ae i]
  generalize l.getD i dX=t at*
  have hq:=ht.2.2.2.2.1
  have e0:W .i64 (0-t.2.2.2.1)=0-t.2.2.2.1:=by
   have g: ∀d:Int,1≤d∧d≤1000000000→W .i64 (0-d)=0-d:=fun d _=>ak (by omega) (by omega)
   exact g _ hq
  rw[e0]
  dsimp only
  have htp:Sd N t (b.2.2.2.2.1.getD t.2.2.1.toNat 0)=some ((jl t (gv b t)).map ga,0):=LK N (by omega) ht hp
  have ES:=uQ t (gv b t)
  rw[a8 (by rw[ayI,ayA];omega),ayz,hn.2,ayz,htp,ayy,a8 (by rw[ay1,ay1];omega),ayz]
  have:=vO (z.1++[(t.1,(t.2.2.1,(t.2.2.2.1,()))),(t.2.1,(t.2.2.1,((0-t.2.2.2.1:Int),())))],z.2++jl t (gv b t)) ⟨by rw[←i1,ayP];rfl,by rw[←i2,ayP]⟩
  rw[aze]at this
  exact this
 ·unfold fA.kk fA.jh
  obtain⟨i1,i2⟩:=hI
  rw[aAl]at i1 i2
  have e1:z.1=eT l:=by rw[←i1];exact(ay2 _).symm
  have e2:z.2=fc b l:=by rw[←i2];exact(ay2 _).symm
  rw[az (by omega),ayB,e1,e2,RY N (by omega) w.w hr hs w.r w.s gs (DX g9 hl),ayy]
theorem wj{f:Bool}{a:Int}{r:Option (ag×Int)}:cond (!aA a 0) (cond (!f) (some ((bE,(cg,(aX,(aX,(cC,(cK,())))))),(3:Int))) r) r=if(f||decide (gj a 0))=true then r else some ((bE,(cg,(aX,(aX,(cC,(cK,())))))),(3:Int)):=by
 rw[cond_not,au,cond_not]
 by_cases h:a=0
 ·rw[ayF h,ayO (show gj a 0 from h),Bool.or_true,ayF rfl]
 ·rw[ayE h,ayR (show ¬gj a 0 from h),aAV]
  cases f<;>rfl
theorem Pk(N:Nat)(hN:4000000≤N)(c:aa){b:ag}(w:ni b){l:aZ}(hl:l.length≤100000):fA N c b l=some (kz c b l):=by
 unfold fA fA.b kz
 rw[zN N hN w.w,ayy,cond_not,aL,LM N hl (by omega),ayy,cond_not]
 by_cases hB:bW c b=false
 ·rw[hB];rfl
 rw[azD]at hB
 rw[hB,ayz,ayF rfl]
 by_cases LJ:l.length≤200
 ·rw[ayE (by omega),ayF LJ]
  by_cases hk:l.all (fun t=>decide (cE t))=false
  ·rw[hk];rfl
  rw[azD]at hk
  rw[hk,ayz,ayF rfl]
  have Am: ∀t∈l,cE t:=fun t ht=>ayV (azZ.1 hk t ht)
  have key: ∀(m n i:Nat),l.length-i≤m→m<n→i≤l.length→(∀j,j<i→dI c b (l.getD j dX)=true)→fA.l4 N n l c b (bE,(cg,(aX,(aX,(cC,(cK,())))))) l (l.length:Int) (i:Int)=some (if l.all (dI c b)then gu b (eT l) (fc b l)else((bE,(cg,(aX,(aX,(cC,(cK,())))))),3)):=by
   intro m n
   induction n generalizing m with
   |zero=>intro i _ hn;omega
   |succ n ih=>
    intro i hm hn hi hj
    unfold fA.l4 fA.cD
    by_cases h:i<l.length
    ·have pU:dI c b (l.getD i dX)=false→some ((bE,(cg,(aX,(aX,(cC,(cK,())))))),(3:Int))=some (if l.all (dI c b)then gu b (eT l) (fc b l)else((bE,(cg,(aX,(aX,(cC,(cK,())))))),3)):=fun hf=>by
      have:l.all (dI c b)=false:=by
       rw[List.all_eq_false]
       refine⟨l.getD i dX,?_,by rw[hf];decide⟩
       rw[ayC,ayG h];exact ay5 h
      rw[this];rfl
     have aiV:dI c b (l.getD i dX)=true→ ∀j,j<i+1→dI c b (l.getD j dX)=true:=fun h j Ua=>by
      by_cases e:j=i
      ·rw[e];exact h
      ·exact hj j (by omega)
     rw[aE (by omega),ayz,aF (by omega) (by omega),ayz,ayD,A3 N b w.w.a (by omega),A3 N b w.w.a (by omega),ak (x:=(i:Int)+1) (by omega) (by omega),ae i]
     simp only[ayy]
     rw[wj,wj,bm]
     generalize l.getD i dX=t at*
     unfold dI at pU aiV
     by_cases h1:((dP b.2.1 t.1).2||decide (gj t.1 0))=true
     ·rw[ayF h1]
      by_cases h2:((dP b.2.1 t.2.1).2||decide (gj t.2.1 0))=true
      ·rw[ayF h2]
       by_cases h3:(c.1.length:Int)≤t.2.2.1
       ·rw[ayF h3]
        exact pU (by rw[h1,h2,ayR (show ¬Cs t.2.2.1 c.1.length from fun h=>by unfold Cs at h;exact absurd h (aBE.2 h3))];rfl)
       ·rw[ayE h3]
        exact ih (m-1) (i+1) (by omega) (by omega) (by omega) (aiV (by rw[h1,h2,ayO (show Cs t.2.2.1 c.1.length from aBF.1 h3)];rfl))
      ·rw[ayE h2]
       exact pU (by rw[az6]at h2;rw[h1,h2];rfl)
     ·rw[ayE h1]
      exact pU (by rw[az6]at h1;rw[h1];rfl)
    ·have hth: ∀t∈l,dI c b t=true:=fun t ht=>by
      obtain⟨k,hk,e⟩:=azG ht
      have:=hj k (by omega)
      rw[ayC,ayG hk]at this
      rw[←e];exact this
     rw[az (by omega),ayB,azZ.2 hth,ayF rfl]
     exact Il N hN c w hB Am hth LJ
  exact key l.length N 0 (by omega) (by omega) (by omega) (fun j hj=>absurd hj (by omega))
 ·rw[ayF (by omega),ayE LJ]
end VM
end
section
namespace VM
open Go VM.F
def wk(l:List Int)(k:Int):Int:=l.getD k.toNat 0
def ins(l:List Int):List Int→Int→List Int
 |[],i=>[i]
 |k::t,i=>if wk l i≤wk l k then k::ins l t i else i::k::t
def dL(l:List Int):Nat→List Int
 |0=>[]
 |n+1=>ins l (dL l n) n
def gS(l:List Int):List Int:=dL l l.length
def uh(l:List Int)(a b:Int):Prop:=wk l b<wk l a∨(wk l b=wk l a∧a<b)
theorem NF(l:List Int): ∀(o:List Int) (i:Int),(ins l o i).length=o.length+1
 |[],i=>rfl
 |k::t,i=>by unfold ins;split<;>simp[NF l t i]
theorem pj(l:List Int): ∀n,(dL l n).length=n
 |0=>rfl
 |n+1=>by unfold dL;rw[NF,pj l n]
theorem uS(l:List Int):(gS l).length=l.length:=pj l _
theorem FG(l:List Int){x:Int}: ∀{o:List Int} {i:Int},x∈ins l o i↔x=i∨x∈o
 |[],i=>by simp[ins]
 |k::t,i=>by
  unfold ins;split
  ·rw[ayY,FG l,ayY]
   exact⟨fun h=>h.elim (fun h=> .inr (.inl h)) (fun h=>h.elim .inl (fun h=> .inr (.inr h))),fun h=>h.elim (fun h=> .inr (.inl h)) (fun h=>h.elim .inl (fun h=> .inr (.inr h)))⟩
  ·rw[ayY]
theorem pk(l:List Int){x:Int}: ∀{n:Nat},x∈dL l n↔0≤x∧x<n
 |0=>⟨(fun h=>nomatch h),fun h=>absurd h.1 (by omega)⟩
 |n+1=>by unfold dL;rw[FG,pk l];omega
theorem wm(l:List Int): ∀{o:List Int} {i:Int},o.Pairwise (uh l)→(∀x∈o,x<i)→(ins l o i).Pairwise (uh l)
 |[],i,_,_=>List.pairwise_singleton _ _
 |k::t,i,h,hi=>by
  rw[azk]at h
  have hk:k<i:=hi k (ayN ..)
  unfold ins;split
  ·rename_i hle
   rw[azk]
   refine⟨fun x hx=> ?_,wm l h.2 (fun x hx=>hi x (ayK _ hx))⟩
   rcases(FG l).1 hx with rfl|hx
   ·unfold uh;omega
   ·exact h.1 x hx
  ·rename_i hle
   rw[azk,azk]
   refine⟨fun x hx=> ?_,h.1,h.2⟩
   rcases ayY.1 hx with rfl|hx
   ·unfold uh;omega
   ·have:=h.1 x hx;unfold uh at*;omega
theorem lz(l:List Int): ∀n,(dL l n).Pairwise (uh l)
 |0=>List.Pairwise.nil
 |n+1=>by unfold dL;exact wm l (lz l n) (fun x hx=>((pk l).1 hx).2)
theorem Se(l:List Int): ∀(o:List Int) (i:Int) (p:Nat),p≤o.length→(∀j,j<p→wk l i≤wk l (o.getD j 0))→(p<o.length→wk l (o.getD p 0)<wk l i)→ins l o i=o.take p++i::o.drop p
 |[],i,p,hp,_,_=>by simp at hp;subst hp;rfl
 |k::t,i,0,hp,_,h=>by
  unfold ins;rw[ayE (by have:=h (by simp);simp at this;omega)];rfl
 |k::t,i,p+1,hp,h0,h=>by
  unfold ins
  have h1:wk l i≤wk l k:=h0 0 (by omega)
  rw[ayF h1,Se l t i p (by simpa using hp) (fun j hj=>by have:=h0 (j+1) (by omega);simpa using this) (fun wN=>by have:=h (by simpa using wN);simpa using this)]
  rfl
theorem NG(l:List Int)(f:Int→Int): ∀(o:List Int) (i:Int),((ins l o i).map f).sum=(o.map f).sum+f i
 |[],i=>by simp[ins]
 |k::t,i=>by
  unfold ins;split
  ·rw[ay6,azd,NG l f t i,ay6,azd];omega
  ·simp only[ay6,azd];omega
theorem yB(l r:List Int): ∀n,n≤r.length→((dL l n).map (wk r)).sum=(r.take n).sum
 |0,_=>rfl
 |n+1,h=>by
  unfold dL;rw[NG,yB l r n (by omega),iJ r (by omega)]
  unfold wk;rw[ayD]
theorem LN(l r:List Int)(h:l.length=r.length):((gS l).map (wk r)).sum=r.sum:=by
 unfold gS;rw[yB l r _ (by omega),azo (by omega)]
theorem Bn{o:List Int}{j:Nat}(h:j<o.length):o.getD j 0∈o:=by
 rw[ayC,ayG h];exact ay5 h
theorem LO{l:List Int}{n j:Nat}(h:j<n):0≤(dL l n).getD j 0∧(dL l n).getD j 0<n:=by
 exact(pk l).1 (Bn (by rw[pj];exact h))
theorem D1(N:Nat)(K:List Int→List Int→Int→Option (List Int)){l:List Int}(hl:l.length≤100000)(i:Nat)(hi:i<l.length): ∀(m n p:Nat),i-p≤m→m<n→p≤i→(∀j,j<p→wk l i≤wk l ((dL l i).getD j 0))→
  dJ.l6 N K n l (dL l i) (i:Int) (p:Int)=K l (dL l (i+1)) ((i+1:Nat):Int)
 |m,0,p,_,hn,_,_=>by omega
 |m,n+1,p,hm,hn,hp,h=>by
  have hlen:=pj l i
  have fin: ∀h2:(p<i→wk l ((dL l i).getD p 0)<wk l i),dJ.j8 N K l (dL l i) (i:Int) (p:Int)=K l (dL l (i+1)) ((i+1:Nat):Int):=fun h2=>by
   have e:=Se l (dL l i) i p (by omega) h (fun h3=>h2 (by omega))
   unfold dJ.j8 dJ.RZ
   dsimp only
   rw[cH (by omega) (by omega) (by omega) (by omega),ayz,ayD,ayD,azb,ay7]
   rw[a8 (by rw[ayX];omega),ayz,a8 (by rw[ayX];simp only[ayA];omega),ayz,cH (by omega) (by omega) (by omega) (by omega),ayz,a8 (by simp only[ayH,ayX,aza,ayA];omega),ayz,ak (by omega) (by omega),aAM,ayP,aBp,←e]
   rfl
  unfold dJ.l6 dJ.pE
  by_cases hpi:p<i
  ·have hr:=LO (l:=l) (n:=i) (j:=p) hpi
   rw[aE (by omega),ayz,aF (by omega) (by omega),ayz,ayD,ayD,aF (by omega) (by omega),ayz,aF (by omega) (by omega),ayz]
   by_cases h3:l.getD i 0≤l.getD ((dL l i).getD p 0).toNat 0
   ·rw[cX h3,ayz,ak (by omega) (by omega)]
    refine D1 N K hl i hi (m-1) n (p+1) (by omega) (by omega) (by omega) (fun j hj=> ?_)
    by_cases hjp:j=p
    ·rw[hjp];unfold wk;rw[ayD];exact h3
    ·exact h j (by omega)
   ·rw[cP (by omega),ayB]
    exact fin (fun _=>by unfold wk;rw[ayD];omega)
  ·rw[az (by omega),ayB]
   exact fin (fun h=>absurd h hpi)
theorem Bo(N:Nat){l:List Int}(hl:l.length≤100000)(hN:l.length<N): ∀(m n i:Nat),l.length-i≤m→m<n→i≤l.length→
  dJ.l3 N n l (dL l i) (i:Int)=some (gS l)
 |m,0,i,_,hn,_=>by omega
 |m,n+1,i,hm,hn,hi=>by
  unfold dJ.l3 dJ.jU
  by_cases h:i<l.length
  ·have:=D1 N (dJ.l3 N n) hl i h i N 0 (by omega) (by omega) (by omega) (fun j hj=>by omega)
   rw[aE (by omega),ayz]
   refine Eq.trans this ?_
   exact Bo N hl hN (m-1) n (i+1) (by omega) (by omega) (by omega)
  ·rw[az (by omega),ayB,show i=l.length by omega];rfl
theorem Pl(N:Nat){l:List Int}(hl:l.length≤100000)(hN:l.length<N):dJ N l=some (gS l):=by
 unfold dJ dJ.b
 exact Bo N hl hN l.length N 0 (by omega) (by omega) (by omega)
end VM
end
section
namespace VM
open Go VM.F
def FH(l:List Int):Prop:= ∀x∈l,-9223372036854775808≤x∧x<9223372036854775808
def Pos(l:List Int):Prop:= ∀x∈l,0≤x
def may(w:List Int):Bool:=decide (w.length≤64)&&w.all (fun x=>decide (0≤x))
theorem lM{w:List Int}:may w=true↔w.length≤64∧Pos w:=by
 unfold may Pos;rw[ayQ,azB,azZ]
 simp only[azB]
theorem Bp(N:Nat){l:List Int}(hl:l.length≤1000000): ∀(m n i:Nat),l.length-i≤m→m<n→i≤l.length→ ∃r,mS.l4 N n l (i:Int)=some r∧(r=true↔ ∃x∈l.drop i,x<0)
 |m,0,i,_,hn,_=>by omega
 |m,n+1,i,hm,hn,hi=>by
  unfold mS.l4 mS.cD
  by_cases h:i<l.length
  ·have hd:l.drop i=l.getD i 0::l.drop (i+1):=by
    rw[azO h,ayC,ayG h];rfl
   rw[aE (by omega),ayz,aF (by omega) (by omega),ayz,ayD,hd]
   by_cases hx:l.getD i 0<0
   ·rw[aE hx,ayz]
    exact⟨_,rfl,fun _=>⟨_,ayN ..,hx⟩,fun _=>rfl⟩
   ·rw[az (by omega),ayB,ak (by omega) (by omega)]
    obtain⟨r,e,h1⟩:=Bp N hl (m-1) n (i+1) (by omega) (by omega) (by omega)
    refine⟨r,e,h1.trans ⟨fun⟨x,Rw,hx2⟩=>⟨x,ayK _ Rw,hx2⟩,fun⟨x,Rw,hx2⟩=> ?_⟩⟩
    rcases ayY.1 Rw with rfl|Rw
    ·exact absurd hx2 hx
    ·exact⟨x,Rw,hx2⟩
  ·rw[az (by omega),ayB,aAv (by omega)]
   exact⟨_,rfl,(fun h=>nomatch h),fun⟨x,hx,_⟩=>nomatch hx⟩
theorem Bq(N:Nat){w:List Int}(hN:100≤N)(t:Int):mS N t w=some (decide (t<0)|| !may w):=by
 unfold mS mS.b
 by_cases ht:t<0
 ·rw[aE ht,ayz,ayO ht];rfl
 rw[az (by omega),ayB,ayR ht,aBa]
 by_cases h:w.length≤64
 ·rw[az (by omega),ayB]
  obtain⟨r,e,hr⟩:=Bp N (l:=w) (by omega) w.length N 0 (by omega) (by omega) (by omega)
  rw[ay7]at hr
  rw[show((0:Nat):Int)=0 from rfl]at e
  rw[e]
  congr 1
  rw[aAi,hr,aAr,aAY,Ne,lM]
  constructor
  ·rintro⟨x,hx,Q2⟩ h;have:=h.2 x hx;omega
  ·intro h1
   by_cases h2: ∃x∈w,x<0
   ·exact h2
   ·exact absurd ⟨h,fun x hx=>by
     by_cases Q2:x<0
     ·exact absurd ⟨x,hx,Q2⟩ h2
     ·omega⟩ h1
 ·rw[aE (by omega),ayz]
  have:may w=false:=by
   rw[aAY];intro hm;exact h (lM.1 hm).1
  rw[this];rfl
def bump(q:List Int):List Int→List Int
 |[]=>q
 |k::t=>bump (q.set k.toNat (q.getD k.toNat 0+1)) t
def oN(t S:Int)(w:List Int):List Int:=w.map fun x=>t*x/S
def iA(t S:Int)(w:List Int):List Int:=w.map fun x=>t*x%S
def bo(t:Int)(w:List Int):List Int:=
 bump (oN t w.sum w) ((gS (iA t w.sum w)).take (t-(oN t w.sum w).sum).toNat)
def n7(t:Int)(w:List Int):List Int×Int:=
 if t<0∨may w=false then([],1)else if 9223372036854775808≤w.sum then([],2)
 else if w.sum=0 then(if t=0 then(List.replicate w.length 0,0)else([],1))else(bo t w,0)
theorem Im: ∀(ks q:List Int),(bump q ks).length=q.length
 |[],q=>rfl
 |k::t,q=>by unfold bump;rw[Im t];simp
theorem FI: ∀(q:List Int) (k:Nat) (x:Int),k<q.length→(q.set k x).sum=q.sum-q.getD k 0+x
 |[],k,x,h=>absurd h (by simp)
 |a::q,0,x,h=>by simp;omega
 |a::q,k+1,x,h=>by
  have:=FI q k x (by simpa using h)
  simp[this];omega
theorem gz: ∀{q:List Int},Pos q→0≤q.sum
 |[],_=>by simp
 |a::q,h=>by
  have:=gz (q:=q) (fun x hx=>h x (ayK _ hx))
  have:=h a (ayN ..)
  rw[azd];omega
theorem uT: ∀{q:List Int},Pos q→ ∀i,q.getD i 0≤q.sum
 |[],_,i=>by simp
 |a::q,h,0=>by
  have:=gz (q:=q) (fun x hx=>h x (ayK _ hx))
  rw[azd];simp;omega
 |a::q,h,i+1=>by
  have:=uT (q:=q) (fun x hx=>h x (ayK _ hx)) i
  have:=h a (ayN ..)
  rw[azd];simp;simp at*;omega
theorem fB{q:List Int}(h:Pos q)(i:Nat):0≤q.getD i 0:=by
 by_cases hi:i<q.length
 ·exact h _ (Bn hi)
 ·rw[qJ q (by omega)];omega
theorem VK{q:List Int}(h:Pos q){x:Int}(hx:0≤x)(k:Nat):Pos (q.set k x):=fun y hy=>by
 rcases aAk hy with hy|rfl
 ·exact h y hy
 ·exact hx
theorem Io{q:List Int}(h:Pos q)(n:Nat):Pos (q.take n):=fun x hx=>h x (azT hx)
theorem Ip: ∀(ks q:List Int),(∀k∈ks,0≤k∧k<q.length)→(bump q ks).sum=q.sum+ks.length
 |[],q,_=>by simp[bump]
 |k::t,q,h=>by
  have hk:=h k (ayN ..)
  unfold bump
  rw[Ip t _ (fun x hx=>by rw[ayT];exact h x (ayK _ hx)),FI q _ _ (by omega),ayI];omega
theorem sJ(t S:Int)(w:List Int):(oN t S w).length=w.length:=by unfold oN;rw[ay1]
theorem mq(t S:Int)(w:List Int):(iA t S w).length=w.length:=by unfold iA;rw[ay1]
theorem NH{t S:Int}{w:List Int}(i:Nat):(oN t S w).getD i 0=t*w.getD i 0/S:=by
 unfold oN
 by_cases h:i<w.length
 ·rw[ayC,az0,ayG h,ayC,ayG h];rfl
 ·rw[qJ _ (by rw[ay1];omega),qJ w (by omega)];simp
theorem NI{t S:Int}{w:List Int}(i:Nat):(iA t S w).getD i 0=t*w.getD i 0%S:=by
 unfold iA
 by_cases h:i<w.length
 ·rw[ayC,az0,ayG h,ayC,ayG h];rfl
 ·rw[qJ _ (by rw[ay1];omega),qJ w (by omega)];simp
theorem Br{t S:Int}{w:List Int}(ht:0≤t)(hS:0≤S)(hw:Pos w):Pos (oN t S w):=fun x hx=>by
 obtain⟨y,hy,rfl⟩:=azp.1 hx
 exact azV (aAb ht (hw y hy)) hS
theorem Iq{t S:Int}{w:List Int}(hS:0<S):Pos (iA t S w):=fun x hx=>by
 obtain⟨y,hy,rfl⟩:=azp.1 hx
 exact aAC _ (by omega)
theorem FJ(t S:Int): ∀w:List Int,S*(oN t S w).sum+(iA t S w).sum=t*w.sum
 |[]=>by simp[oN,iA]
 |x::w=>by
  have h:=FJ t S w
  have e:=az1 (t*x) S
  unfold oN iA at*
  simp only[ay6,azd,aAE]
  omega
theorem Sf{t S:Int}{w:List Int}(ht:0≤t)(hS:0<S)(h:w.sum≤S):(oN t S w).sum≤t:=by
 have e:=FJ t S w
 have h1:=gz (Iq (t:=t) (w:=w) hS)
 have h2:=azm h ht
 have h3:S*(oN t S w).sum≤S*t:=by rw[azt S t];omega
 exact aBL h3 hS
theorem yC{w:List Int}(h:Pos w)(i:Nat):(w.take i).sum≤w.sum:=by
 have e:w.take i++w.drop i=w:=azg i w
 have h1:(w.take i).sum+(w.drop i).sum=w.sum:=by rw[←aAs,e]
 have:=gz (q:=w.drop i) (fun x hx=>h x (az8 hx))
 omega
theorem D2(t S:Int)(w:List Int)(i:Nat):(oN t S w).take i=oN t S (w.take i):=by unfold oN;rw[List.map_take]
theorem Bs(N:Nat){ks:List Int}(hl:ks.length≤1000000)(L:Nat)(hk: ∀k∈ks,0≤k∧k<L): ∀(m n i left:Nat) (q:List Int),ks.length-i≤m→m<n→i≤ks.length→q.length=L→Pos q→left≤9223372036854775807→q.sum+left≤9223372036854775807→
  dQ.tL N n q (left:Int) ks (i:Int)=some (bump q ((ks.drop i).take left),0)
 |m,0,i,left,q,_,hn,_,_,_,_,_=>by omega
 |m,n+1,i,left,q,hm,hn,hi,hq,hp,hle,hs=>by
  unfold dQ.tL dQ.sD
  by_cases h:i<ks.length
  ·have hd:ks.drop i=ks.getD i 0::ks.drop (i+1):=by
    rw[azO h,ayC,ayG h];rfl
   have Av:=hk _ (Bn h)
   rw[aE (by omega),ayz]
   match left,hle,hs with
   |0,hle,hs=>rw[az (by omega),ayB,aAz];rfl
   |left+1,hle,hs=>
    rw[aE (by omega),ayz,aF (by omega) (by omega),ayz,ayD,aF (by omega) (by omega),ayz,ayz,hd]
    have h1:=uT hp (ks.getD i 0).toNat
    have h2:=fB hp (ks.getD i 0).toNat
    rw[ak (x:=q.getD _ 0+1) (by omega) (by omega),ak (x:=(i:Int)+1) (by omega) (by omega),ak (by omega) (by omega),show((left+1:Nat):Int)-1=(left:Int)by omega]
    refine(Bs N hl L hk (m-1) n (i+1) left _ (by omega) (by omega) (by omega) (by rw[ayT];exact hq) (VK hp (by omega) _) (by omega) ?_).trans rfl
    rw[FI q _ _ (by omega)];omega
  ·rw[az (by omega),ayB,aAv (by omega),List.take_nil];rfl
theorem Bt(l:List Int): ∀k∈gS l,0≤k∧k<l.length:=fun k hk=>(pk l).1 hk
theorem take_set(l:List Int){i:Nat}(x:Int)(h:i<l.length):(l.set i x).take (i+1)=l.take i++[x]:=by
 rw[fa (l.set i x) (by rw[ayT];exact h),jv l x h,List.take_set_of_le (by omega)]
theorem FK{v:Int}(h0: -9223372036854775808≤v)(h1:v<9223372036854775808):zc v=(v,true):=by unfold zc;rw[ayF ⟨h0,h1⟩]
end VM
end
section
namespace VM
open Go VM.F
theorem mu{a b:List Int}(hl:a.length=b.length)(h: ∀i,i<a.length→a.getD i 0=b.getD i 0):a=b:=by
 refine List.ext_getElem hl (fun i h1 h2=> ?_)
 have:=h i h1
 rwa [ayC,ayG h1,ayC,ayG h2]at this
theorem NJ: ∀(ks q:List Int) (i:Nat),ks.Nodup→(∀k∈ks,0≤k∧k<q.length)→(bump q ks).getD i 0=q.getD i 0+(if(i:Int)∈ks then 1 else 0)
 |[],q,i,_,_=>by simp[bump]
 |k::t,q,i,hn,h=>by
  have hk:=h k (ayN ..)
  rw[aB1]at hn
  unfold bump
  rw[NJ t _ i hn.2 (fun x hx=>by rw[ayT];exact h x (ayK _ hx))]
  by_cases hik:(i:Int)=k
  ·rw[ayE (by rw[hik];exact hn.1),ayF (by rw[hik];exact ayN ..),←hik,ayD,jv q _ (by omega)];omega
  ·rw[getD_set_ne q _ (by omega)]
   by_cases ht:(i:Int)∈t
   ·rw[ayF ht,ayF (ayK _ ht)]
   ·rw[ayE ht,ayE (fun hc=>by rcases ayY.1 hc with hc|hc;exact hik hc;exact ht hc)]
theorem Ir(l:List Int):(gS l).Nodup:=(lz l l.length).imp (fun{a b} h he=>by unfold uh at h;rw[he]at h;omega)
theorem NK(t S:Int)(hS:0<S): ∀u:List Int,(iA t S u).sum≤u.length*S
 |[]=>by simp[iA]
 |x::u=>by
  have ih:=NK t S hS u
  have:=az3 (t*x) hS
  unfold iA at*
  rw[ay6,azd,ayI,aB3,aAx];simp;omega
def jD(t:Int)(w:List Int):Int:=t-(oN t w.sum w).sum
theorem left_eq(t:Int)(w:List Int):w.sum*jD t w=(iA t w.sum w).sum:=by
 have:=FJ t w.sum w
 unfold jD;rw[aB8,azt w.sum t];omega
theorem Bu{t:Int}{w:List Int}(ht:0≤t)(hS:0<w.sum):0≤jD t w:=by
 have:=Sf ht hS (azC _);unfold jD;omega
theorem NL{t:Int}{w:List Int}(hS:0<w.sum):jD t w≤w.length:=by
 have h1:=left_eq t w
 have h2:=NK t w.sum hS w
 rw[←h1,azt (w.length:Int)]at h2
 exact aBL h2 hS
theorem lA(t:Int)(w:List Int):(bo t w).length=w.length:=by unfold bo;rw[Im,sJ]
theorem q6{t:Int}{w:List Int}(ht:0≤t)(hS:0<w.sum):(bo t w).sum=t:=by
 unfold bo
 have h1:=Bu ht hS
 have h2:=NL (t:=t) hS
 unfold jD at*
 rw[Ip _ _ (fun k hk=>by have:=Bt _ k (azT hk);rw[mq]at this;rwa [sJ]),ayX,uS,mq]
 omega
theorem uU{f:Int→Int}{c:Int}: ∀{o:List Int},(∀x∈o,f x≤c)→(o.map f).sum≤o.length*c
 |[],_=>by simp
 |x::o,h=>by
  have ih:=uU (f:=f) (c:=c) (o:=o) (fun y hy=>h y (ayK _ hy))
  have:=h x (ayN ..)
  rw[ay6,azd,ayI,aB3,aAx];simp;omega
theorem LP{l o:List Int}(h:o.Pairwise (uh l)){m:Nat}{x y:Int}(hx:x∈o.take m)(hy:y∈o.drop m):uh l x y:=by
 rw[←azg m o,List.pairwise_append]at h
 exact h.2.2 x hx y hy
theorem Pm{t:Int}{w:List Int}(ht:0≤t)(hS:0<w.sum){i:Int}(hi:i∈(gS (iA t w.sum w)).take (jD t w).toNat):0<wk (iA t w.sum w) i:=by
 have KY: ∀k:Int,0≤wk (iA t w.sum w) k:=fun k=>fB (Iq hS) _
 have dH: ∀k:Int,wk (iA t w.sum w) k≤w.sum-1:=fun k=>by
  unfold wk;rw[NI]
  have:=az3 (t*w.getD k.toNat 0) hS;omega
 have h0:=KY i
 rcases Int.lt_or_le 0 (wk (iA t w.sum w) i)with h|h
 ·exact h
 exfalso
 have Lq:=LN (iA t w.sum w) (iA t w.sum w) rfl
 rw[←left_eq]at Lq
 have aox:=azg (jD t w).toNat (gS (iA t w.sum w))
 rw[←aox,aze,aAs]at Lq
 have hd:(((gS (iA t w.sum w)).drop (jD t w).toNat).map (wk (iA t w.sum w))).sum≤((gS (iA t w.sum w)).drop (jD t w).toNat).length*0:=uU (fun y hy=>by
  have:=LP (lz _ _) hi hy
  unfold uh at this;omega)
 have htk:(((gS (iA t w.sum w)).take (jD t w).toNat).map (wk (iA t w.sum w))).sum≤((gS (iA t w.sum w)).take (jD t w).toNat).length*(w.sum-1):=uU (fun y _=>dH y)
 have h1:=Bu ht hS
 have h2:=NL (t:=t) hS
 rw[ayX,uS,mq,azF (by omega),aB8]at htk
 rw[Int.mul_zero]at hd
 have h3:(((jD t w).toNat:Nat):Int)=jD t w:=by omega
 have h4:0<(jD t w).toNat:=by
  rcases Nat.eq_zero_or_pos (jD t w).toNat with h|h
  ·rw[h,aAz]at hi;nomatch hi
  ·exact h
 rw[h3,azt (jD t w)]at htk
 omega
def extra(t:Int)(w:List Int)(i:Nat):Int:=if(i:Int)∈(gS (iA t w.sum w)).take (jD t w).toNat then 1 else 0
theorem D3(t:Int)(w:List Int)(i:Nat):(bo t w).getD i 0=t*w.getD i 0/w.sum+extra t w i:=by
 unfold bo
 rw[NJ _ _ i ((Ir _).sublist (List.take_sublist ..)) (fun k hk=>by have:=Bt _ k (azT hk);rw[mq]at this;rwa [sJ]),NH]
 rfl
theorem D4(t:Int)(w:List Int)(i:Nat):extra t w i=0∨extra t w i=1:=by unfold extra;split<;>omega
theorem Pn{t:Int}{w:List Int}(ht:0≤t)(hS:0<w.sum){i:Nat}(h:extra t w i=1):0<t*w.getD i 0%w.sum:=by
 unfold extra at h
 by_cases hi:(i:Int)∈(gS (iA t w.sum w)).take (jD t w).toNat
 ·have:=Pm ht hS hi
  unfold wk at this;rwa [NI,ayD]at this
 ·rw[ayE hi]at h;omega
theorem q7{t:Int}{w:List Int}(ht:0≤t)(hS:0<w.sum)(hw:Pos w):Pos (bo t w):=fun x hx=>by
 obtain⟨i,hi,rfl⟩:=az5.1 hx
 have:=D3 t w i
 rw[ayC,ayG hi]at this
 have h1:=D4 t w i
 have h2:0≤t*w.getD i 0/w.sum:=azV (aAb ht (fB hw i)) (by omega)
 simp only[az9]at this
 omega
theorem yD{t:Int}{w:List Int}(ht:0≤t)(hS:0<w.sum){i:Nat}(h:w.getD i 0=0):(bo t w).getD i 0=0:=by
 rw[D3,h]
 rcases D4 t w i with h1|h1
 ·rw[h1];simp
 ·have:=Pn ht hS h1
  rw[h]at this;simp at this
end VM
end
section
namespace VM
open Go VM.F
theorem yE(N:Nat)(hN:5000000≤N){t:Int}{w:List Int}(ht:0≤t)(rN:t<9223372036854775808)(hw:w.length≤64)(hp:Pos w)(hS:0<w.sum)(hS1:w.sum<9223372036854775808):
  ∀(m n i:Nat) (q r:List Int),w.length-i≤m→m<n→i≤w.length→q.length=w.length→r.length=w.length→q.take i=oN t w.sum (w.take i)→r.take i=iA t w.sum (w.take i)→
  dQ.D5 N n t w (br w.sum) q r (t-(oN t w.sum (w.take i)).sum) (i:Int)=some (bo t w,0)
 |m,0,i,q,r,_,hn,_,_,_,_,_=>by omega
 |m,n+1,i,q,r,hm,hn,hi,hq,hr,eq,er=>by
  unfold dQ.D5 dQ.Bv
  by_cases h:i<w.length
  ·have hwi:=fB hp i
   have aoy:=uT hp i
   have hb:=mul_lt ht hwi (show t≤9223372036854775807 by omega) (show w.getD i 0≤9223372036854775807 by omega)
   have hqi:t*w.getD i 0/w.sum≤t:=Int.ediv_le_of_le_mul hS (azm aoy ht)
   have awi:0≤t*w.getD i 0/w.sum:=azV hb.1 (by omega)
   have hri:=az3 (t*w.getD i 0) hS
   have awj:=aAC (t*w.getD i 0) (show w.sum≠0 by omega)
   have hs0:=Sf ht hS (yC hp i)
   have MU:=gz (Br ht (by omega:0≤w.sum) (Io hp i))
   have ft:Fit t 2:=Fit.i64 (by omega) (by omega)
   have fw:Fit (w.getD i 0) 2:=Fit.i64 (by omega) (by omega)
   have fS:Fit w.sum 2:=Fit.i64 (by omega) (by omega)
   rw[aE (by omega),ayz,cn N (by omega) (by omega) rN,ayy,aF (by omega) (by omega),ayz,ayD,cn N (by omega) (by omega) (by omega),ayy,
    lY N (by omega) (ft.mono (by omega)) (fw.mono (by omega)),ayy,Fj N (by omega) hS ((ft.mul fw).mono (by omega)) (fS.mono (by omega)),ayy]
   dsimp only
   rw[nZ,ayy,FK (by omega) (by omega),nZ,FK (by omega) (by omega)]
   dsimp only
   rw[ayy,aF (by omega) (by omega),ayz,aF (by omega) (by omega),ayz,ayT,aF (by omega) (by omega),ayz,jv q _ (by omega),ak (x:=(i:Int)+1) (by omega) (by omega),ak (by omega) (by omega)]
   have vO:=yE N hN ht rN hw hp hS hS1 (m-1) n (i+1) (q.set i (t*w.getD i 0/w.sum)) (r.set i (t*w.getD i 0%w.sum)) (by omega) (by omega) (by omega) (by rw[ayT];exact hq) (by rw[ayT];exact hr)
    (by rw[take_set q _ (by omega),eq,fa w h];unfold oN;simp)
    (by rw[take_set r _ (by omega),er,fa w h];unfold iA;simp)
   rw[←D2,iJ _ (by rw[sJ];exact h),NH,D2]at vO
   rw[Int.sub_sub]
   exact vO
  ·have lR:i=w.length:=by omega
   subst lR
   rw[azo (by omega),azo (by omega)]at eq er
   subst eq er
   rw[azo (by omega)]
   have MU:=gz (Br ht (by omega:0≤w.sum) hp)
   have h1:=Bu ht hS
   unfold jD at h1
   rw[az (by omega),ayB,Pl N (by rw[mq];omega) (by rw[mq];omega),ayy]
   have hlen:=uS (iA t w.sum w)
   rw[mq]at hlen
   have tW:=Bs N (ks:=gS (iA t w.sum w)) (by omega) w.length (fun k hk=>by have:=Bt _ k hk;rwa [mq]at this) 1000 N 0 (t-(oN t w.sum w).sum).toNat (oN t w.sum w) (by omega) (by omega) (by omega) (sJ ..) (Br ht (by omega) hp) (by omega) (by omega)
   rw[ay7,azM h1]at tW
   exact tW
theorem xp(N:Nat)(hN:5000000≤N){t:Int}{w:List Int}(rN:t<9223372036854775808)(hw:FH w)(hl:w.length≤1000000):dQ N t w=some (n7 t w):=by
 unfold dQ dQ.b n7
 rw[Bq N (by omega),ayy]
 by_cases h1:t<0
 ·rw[ayO h1,Bool.true_or,ayz,ayF (.inl h1)]
 rw[ayR h1,aBa]
 cases h2:may w
 ·rw[ay4,ayz,ayF (.inr rfl)]
 rw[ayL,ayB,ayE (by simp[h1]),uF N (by omega) hw hl,ayy,nf,ayy]
 obtain⟨LR,hp⟩:=lM.1 h2
 have hS0:=gz hp
 have hj: ∀h: ¬9223372036854775808≤w.sum,dQ.j6 N t w (br w.sum)=if w.sum=0 then some (List.replicate w.length 0,0)else some (bo t w,0):=fun h=>by
  unfold dQ.j6 dQ.KB
  rw[nZ,ayy,FK (by omega) (by omega),ayL,ayB,bJ (by omega) (by omega) (by omega),ayz,ayz,nf,ayy,ayD]
  by_cases h4:w.sum=0
  ·rw[ayF h4,h4,show lW 0=0 from rfl,cQ rfl,ayz]
  ·rw[ayE h4,cJ (by unfold lW;repeat' split<;>omega),ayB]
   have:=yE N hN (by omega) rN LR hp (by omega) (by omega) w.length N 0 (List.replicate w.length 0) (List.replicate w.length 0) (by omega) (by omega) (by omega) (ayS ..) (ayS ..) rfl rfl
   rw[aAz]at this
   simp only[oN,az2,aAe,aCd]at this
   exact this
 by_cases h3:9223372036854775808≤w.sum
 ·rw[ayF h3,cJ (by unfold lW;repeat' split<;>omega),ayB]
  unfold dQ.j6 dQ.KB
  rw[nZ,ayy];unfold zc;rw[ayE (by omega)];rfl
 rw[ayE h3,hj h3]
 by_cases h4:w.sum=0
 ·rw[ayF h4,ayF h4,h4,show lW 0=0 from rfl,cQ rfl,ayz]
  by_cases h5:t=0
  ·rw[ayF h5,cQ h5,ayL,ayB]
  ·rw[ayE h5,cJ h5,ay4,ayz]
 ·rw[ayE h4,ayE h4,cJ (by unfold lW;repeat' split<;>omega),ayB]
def D6(t n:Int):List Int×Int:=if t<0∨n<1∨64<n then([],1)else n7 t (List.replicate n.toNat 1)
theorem Sg(n:Nat):FH (List.replicate n 1):=fun x hx=>by rw[aAI hx];omega
theorem D7(N:Nat)(hN:5000000≤N){t:Int}{k:Nat}(hk:k≤64)(rN:t<9223372036854775808): ∀(m n i:Nat),k-i≤m→m<n→i≤k→
  n8.l5 N n t (k:Int) (List.replicate i 1++List.replicate (k-i) 0) (i:Int)=some (n7 t (List.replicate k 1))
 |m,0,i,_,hn,_=>by omega
 |m,n+1,i,hm,hn,hi=>by
  unfold n8.l5 n8.c7
  by_cases h:i<k
  ·rw[aE (by omega),ayz,aF (by omega) (by simp;omega),ayz,ak (by omega) (by omega)]
   refine Eq.trans ?_ (D7 N hN hk rN (m-1) n (i+1) (by omega) (by omega) (by omega))
   congr 1
   rw[ayD,aB7 _ _ (by simp),ayS,aA6,show k-i=(k-(i+1))+1 by omega,aA7,List.set_cons_zero,List.replicate_succ',ayP]
   rfl
  ·rw[az (by omega),ayB,show k-i=0 by omega,List.replicate_zero,ay2,show i=k by omega,xp N hN rN (Sg _) (by rw[ayS];omega)]
   rfl
theorem Sh(N:Nat)(hN:5000000≤N){t n:Int}(rN:t<9223372036854775808):n8 N t n=some (D6 t n):=by
 unfold n8 n8.b D6
 by_cases h1:t<0
 ·rw[aE h1,ayz,ayF (.inl h1)]
 by_cases h2:n<1
 ·rw[az (by omega),ayB,aE h2,ayz,ayF (.inr (.inl h2))]
 by_cases h3:64<n
 ·rw[az (by omega),ayB,az (by omega),ayB,aE h3,ayz,ayF (.inr (.inr h3))]
 rw[az (by omega),ayB,az (by omega),ayB,az (by omega),ayB,ayE (by omega),bJ (by omega) (by omega) (by omega),ayz]
 have:=D7 N hN (t:=t) (k:=n.toNat) (by omega) rN n.toNat N 0 (by omega) (by omega) (by omega)
 rw[List.replicate_zero,ay8,Nat.sub_zero,azM (by omega)]at this
 exact this
end VM
end
section
namespace VM
open Go VM.F
def Bx(n:Nat)(f:Nat→Int):List Int:=(List.range n).map f
theorem eN(n:Nat)(f:Nat→Int):(Bx n f).length=n:=by unfold Bx;rw[ay1,aAW]
theorem eG{n:Nat}{f:Nat→Int}{i:Nat}(h:i<n):(Bx n f).getD i 0=f i:=by
 unfold Bx
 rw[ayC,az0,List.getElem?_range h];rfl
theorem FL(n:Nat)(f:Nat→Int)(i:Nat):(Bx n f).getD i 0=if i<n then f i else 0:=by
 by_cases h:i<n
 ·rw[ayF h,eG h]
 ·rw[ayE h,qJ _ (by rw[eN];omega)]
theorem VL{n:Nat}{f:Nat→Int}(h: ∀i,i<n→0≤f i):Pos (Bx n f):=fun x hx=>by
 obtain⟨i,hi,rfl⟩:=azp.1 hx
 exact h i (aAN.1 hi)
theorem pn{l:List Int}(h: ∀i,i<l.length→0≤l.getD i 0):Pos l:=fun x hx=>by
 obtain⟨i,hi,rfl⟩:=az5.1 hx
 have:=h i hi
 rwa [ayC,ayG hi]at this
theorem xq: ∀{a b:List Int},a.length=b.length→(∀i,i<a.length→a.getD i 0≤b.getD i 0)→a.sum≤b.sum
 |[],[],_,_=>azC _
 |[],_::_,h,_=>nomatch h
 |_::_,[],h,_=>nomatch h
 |x::a,y::b,h,h1=>by
  have:=xq (a:=a) (b:=b) (by simpa using h) (fun i hi=>by have:=h1 (i+1) (by simpa using hi);simpa using this)
  have h2:x≤y:=by have:=h1 0 (by simp);simpa using this
  rw[azd,azd];omega
theorem By: ∀{a b c:List Int},a.length=b.length→a.length=c.length→(∀i,i<a.length→a.getD i 0=b.getD i 0+c.getD i 0)→a.sum=b.sum+c.sum
 |[],[],[],_,_,_=>rfl
 |[],_::_,_,h,_,_=>nomatch h
 |[],[],_::_,_,h,_=>nomatch h
 |_::_,[],_,h,_,_=>nomatch h
 |_::_,_::_,[],_,h,_=>nomatch h
 |x::a,y::b,z::c,h,h',h1=>by
  have:=By (a:=a) (b:=b) (c:=c) (by simpa using h) (by simpa using h') (fun i hi=>by have:=h1 (i+1) (by simpa using hi);simpa using this)
  have h2:x=y+z:=by have:=h1 0 (by simp);simpa using this
  rw[azd,azd,azd];omega
theorem sK: ∀{a:List Int},(∀i,i<a.length→a.getD i 0=0)→a.sum=0
 |[],_=>rfl
 |x::a,h=>by
  have:=sK (a:=a) (fun i hi=>by have:=h (i+1) (by simpa using hi);simpa using this)
  have h2:x=0:=by have:=h 0 (by simp);simpa using this
  rw[azd];omega
def bR(w caps out:List Int):List Int:=Bx w.length fun i=>if out.getD i 0<caps.getD i 0 then w.getD i 0 else 0
def dD(parts caps out:List Int):List Int:=Bx out.length fun i=>min (parts.getD i 0) (caps.getD i 0-out.getD i 0)
def sL(out g:List Int):List Int:=Bx out.length fun i=>out.getD i 0+g.getD i 0
def q8(w caps:List Int):Nat→List Int→Int→List Int×Int
 |0,out,left=>(out,left)
 |f+1,out,left=>if left=0∨(bR w caps out).sum=0 then(out,left)else
  q8 w caps f (sL out (dD (bo left (bR w caps out)) caps out)) (left-(dD (bo left (bR w caps out)) caps out).sum)
structure NM(t:Int)(w caps out:List Int)(left:Int):Prop where
 n:w.length≤64
 l1:caps.length=w.length
 l2:out.length=w.length
 pw:Pos w
 sw:w.sum<9223372036854775808
 pc: ∀i,0≤caps.getD i 0∧caps.getD i 0<9223372036854775808
 po: ∀i,0≤out.getD i 0
 le: ∀i,i<w.length→out.getD i 0≤caps.getD i 0
 z: ∀i,w.getD i 0=0→out.getD i 0=0
 l:0≤left
 t1:t<9223372036854775808
 s:out.sum+left=t
theorem fC(w caps out:List Int):(bR w caps out).length=w.length:=eN ..
theorem n9{w caps out:List Int}(h:Pos w):Pos (bR w caps out):=VL (fun i _=>by split;exact fB h i;omega)
theorem Is{w caps out:List Int}(h:Pos w):(bR w caps out).sum≤w.sum:=xq (fC ..) (fun i hi=>by
 rw[fC]at hi
 unfold bR;rw[eG hi];split
 ·omega
 ·exact fB h i)
theorem Si{t left:Int}{w caps out:List Int}(c:NM t w caps out left):FH (bR w caps out):=fun x hx=>by
 have h1:=n9 (caps:=caps) (out:=out) c.pw
 have h2:=Is (caps:=caps) (out:=out) c.pw
 have h3:=h1 x hx
 obtain⟨i,hi,rfl⟩:=az5.1 hx
 have h4:=uT h1 i
 rw[ayC,ayG hi]at h4
 simp only[az9]at h4
 have:=c.sw
 omega
theorem It{t left:Int}{w caps out:List Int}(c:NM t w caps out left):left≤t:=by
 have:=gz (q:=out) (pn (fun i _=>c.po i));have:=c.s;omega
theorem lN{t left:Int}{w caps out:List Int}(c:NM t w caps out left)(hS:0<(bR w caps out).sum)(i:Nat):
  0≤(dD (bo left (bR w caps out)) caps out).getD i 0∧(dD (bo left (bR w caps out)) caps out).getD i 0≤(bo left (bR w caps out)).getD i 0∧(i<w.length→out.getD i 0+(dD (bo left (bR w caps out)) caps out).getD i 0≤caps.getD i 0):=by
 have h0:=fB (q7 c.l hS (n9 c.pw)) i
 unfold dD
 rw[FL]
 have:=c.l2
 by_cases h:i<out.length
 ·rw[ayF h]
  have:=c.le i (by omega)
  omega
 ·rw[ayE h];exact⟨by omega,h0,fun h=>by omega⟩
theorem sM(parts caps out:List Int):(dD parts caps out).length=out.length:=eN ..
theorem Bz{t left:Int}{w caps out:List Int}(c:NM t w caps out left)(hS:0<(bR w caps out).sum):0≤(dD (bo left (bR w caps out)) caps out).sum∧(dD (bo left (bR w caps out)) caps out).sum≤left:=by
 constructor
 ·exact gz (pn (fun i _=>(lN c hS i).1))
 ·have:=xq (a:=dD (bo left (bR w caps out)) caps out) (b:=bo left (bR w caps out)) (by rw[sM,lA,fC,c.l2]) (fun i _=>(lN c hS i).2.1)
  rwa [q6 c.l hS]at this
theorem Iu{t left:Int}{w caps out:List Int}(c:NM t w caps out left)(hS:0<(bR w caps out).sum):NM t w caps (sL out (dD (bo left (bR w caps out)) caps out)) (left-(dD (bo left (bR w caps out)) caps out).sum):=by
 have lG: ∀i,(sL out (dD (bo left (bR w caps out)) caps out)).getD i 0=if i<out.length then out.getD i 0+(dD (bo left (bR w caps out)) caps out).getD i 0 else 0:=fun i=>by unfold sL;rw[FL]
 have gs:=Bz c hS
 refine⟨c.n,c.l1,?_,c.pw,c.sw,c.pc,fun i=> ?_,fun i hi=> ?_,fun i hi=> ?_,by omega,c.t1,?_⟩
 ·unfold sL;rw[eN,c.l2]
 ·rw[lG];have:=(lN c hS i).1;have:=c.po i;split<;>omega
 ·rw[lG,ayF (by rw[c.l2];exact hi)];exact(lN c hS i).2.2 hi
 ·rw[lG]
  split
  ·have h1:(bR w caps out).getD i 0=0:=by unfold bR;rw[FL,hi];split<;>(try split)<;>rfl
   have h2:=yD c.l hS h1
   have h3:=lN c hS i
   rw[c.z i hi];omega
  ·rfl
 ·have:=By (a:=sL out (dD (bo left (bR w caps out)) caps out)) (b:=out) (c:=dD (bo left (bR w caps out)) caps out) (by unfold sL;rw[eN]) (by unfold sL;rw[eN,sM]) (fun i hi=>by
   unfold sL at hi;rw[eN]at hi;rw[lG,ayF hi])
  have:=c.s
  omega
def opens(w caps out:List Int):Nat:=(List.range w.length).countP fun i=>decide (0<w.getD i 0∧out.getD i 0<caps.getD i 0)
theorem D8{p q:Nat→Bool}: ∀{l:List Nat},(∀x∈l,q x=true→p x=true)→(∃x∈l,p x=true∧q x=false)→l.countP q<l.countP p
 |[],_,⟨x,hx,_⟩=>nomatch hx
 |y::l,h,⟨x,hx,h1,h2⟩=>by
  have hle:l.countP q≤l.countP p:=List.countP_mono_left (fun z hz=>h z (ayK _ hz))
  rw[List.countP_cons,List.countP_cons]
  rcases ayY.1 hx with rfl|hx
  ·rw[h1,h2];simp;omega
  ·have:=D8 (p:=p) (q:=q) (l:=l) (fun z hz=>h z (ayK _ hz)) ⟨x,hx,h1,h2⟩
   have h3:=h y (ayN ..)
   cases hq:q y<;>cases hp:p y<;>simp<;>try omega
   rw[hq,hp]at h3;simp at h3
theorem D9{w caps out:List Int}(hw:Pos w)(h:(bR w caps out).sum=0): ∀i,i<w.length→ ¬(0<w.getD i 0∧out.getD i 0<caps.getD i 0):=fun i hi ⟨h1,h2⟩=>by
 have:=uT (n9 (caps:=caps) (out:=out) hw) i
 unfold bR at this h
 rw[eG hi,ayF h2,h]at this
 omega
theorem FM{w caps out:List Int}(hw:Pos w)(h:(bR w caps out).sum≠0): ∃i,i<w.length∧0<w.getD i 0∧out.getD i 0<caps.getD i 0:=by
 by_cases hx: ∃i,i<w.length∧0<w.getD i 0∧out.getD i 0<caps.getD i 0
 ·exact hx
 ·refine absurd (sK (fun i hi=> ?_)) h
  rw[fC]at hi
  unfold bR
  rw[eG hi]
  split
  ·rename_i h1
   have:=fB hw i
   by_cases h2:0<w.getD i 0
   ·exact absurd ⟨i,hi,h2,h1⟩ hx
   ·omega
  ·rfl
theorem Po{t left:Int}{w caps out:List Int}(c:NM t w caps out left)(hS:0<(bR w caps out).sum)(hl:left-(dD (bo left (bR w caps out)) caps out).sum≠0):opens w caps (sL out (dD (bo left (bR w caps out)) caps out))<opens w caps out:=by
 have lG: ∀i,i<w.length→(sL out (dD (bo left (bR w caps out)) caps out)).getD i 0=out.getD i 0+(dD (bo left (bR w caps out)) caps out).getD i 0:=fun i hi=>by unfold sL;rw[eG (by rw[c.l2];exact hi)]
 refine D8 (fun i hi h=> ?_) ?_
 ·rw[aAN]at hi
  rw[azB,lG i hi]at h
  rw[azB]
  have:=(lN c hS i).1
  omega
 ·by_cases hx: ∃i,i<w.length∧(0<w.getD i 0∧out.getD i 0<caps.getD i 0)∧caps.getD i 0≤out.getD i 0+(dD (bo left (bR w caps out)) caps out).getD i 0
  ·obtain⟨i,h1,h2,h3⟩:=hx
   refine⟨i,aAN.2 h1,ayO h2,ayR ?_⟩
   rw[lG i h1];omega
  ·exfalso
   have h1:bo left (bR w caps out)=dD (bo left (bR w caps out)) caps out:=by
    refine mu (by rw[sM,lA,fC,c.l2]) (fun i hi=> ?_)
    rw[lA,fC]at hi
    have h2:=lN c hS i
    have h3:=fB (q7 c.l hS (n9 (caps:=caps) (out:=out) c.pw)) i
    by_cases h4:0<w.getD i 0∧out.getD i 0<caps.getD i 0
    ·have h5: ¬caps.getD i 0≤out.getD i 0+(dD (bo left (bR w caps out)) caps out).getD i 0:=fun h=>hx ⟨i,hi,h4,h⟩
     have h6:(dD (bo left (bR w caps out)) caps out).getD i 0=min ((bo left (bR w caps out)).getD i 0) (caps.getD i 0-out.getD i 0):=eG (by rw[c.l2];exact hi)
     omega
    ·have h7:(bR w caps out).getD i 0=0:=by
      unfold bR;rw[eG hi]
      have:=fB c.pw i
      split<;>omega
     have:=yD c.l hS h7
     omega
   rw[←h1,q6 c.l hS]at hl
   omega
theorem Sj(w caps out:List Int):opens w caps out≤w.length:=by
 unfold opens
 have:=List.countP_le_length (p:=fun i=>decide (0<w.getD i 0∧out.getD i 0<caps.getD i 0)) (l:=List.range w.length)
 rwa [aAW]at this
structure Full(t:Int)(w caps out:List Int)(left:Int):Prop where
 c:NM t w caps out left
 f:left=0∨ ∀i,i<w.length→ ¬(0<w.getD i 0∧out.getD i 0<caps.getD i 0)
theorem Iv{t:Int}{w caps:List Int}: ∀(f:Nat) (out:List Int) (left:Int),NM t w caps out left→(opens w caps out<f∨left=0)→Full t w caps (q8 w caps f out left).1 (q8 w caps f out left).2
 |0,out,left,c,h=>⟨c,.inl (show left=0 by omega)⟩
 |f+1,out,left,c,h=>by
  unfold q8
  have hS:=gz (n9 (caps:=caps) (out:=out) c.pw)
  split
  ·rename_i h1
   exact⟨c,h1.imp id (D9 c.pw)⟩
  ·rename_i h1
   refine Iv f _ _ (Iu c (by omega)) ?_
   by_cases h2:left-(dD (bo left (bR w caps out)) caps out).sum=0
   ·exact .inr h2
   ·have:=Po c (by omega) h2
    exact .inl (by omega)
def xr(out g:List Int)(i:Nat):List Int:=Bx out.length fun j=>if j<i then out.getD j 0+g.getD j 0 else out.getD j 0
theorem mid_zero(out g:List Int):xr out g 0=out:=mu (eN ..) (fun i hi=>by unfold xr at*;rw[eN]at hi;rw[eG hi,ayE (by omega)])
theorem VN(out g:List Int){n:Nat}(h:out.length≤n):xr out g n=sL out g:=mu (by unfold xr sL;rw[eN,eN]) (fun i hi=>by unfold xr sL at*;rw[eN]at hi;rw[eG hi,eG hi,ayF (by omega)])
theorem wo(out g:List Int)(i:Nat):(xr out g i).length=out.length:=eN ..
theorem ado{out g:List Int}{i:Nat}(h:i<out.length):(xr out g i).getD i 0=out.getD i 0:=by unfold xr;rw[eG h,ayE (by omega)]
theorem VO{out g:List Int}{i:Nat}(h:i<out.length):(xr out g i).set i (out.getD i 0+g.getD i 0)=xr out g (i+1):=mu (by rw[ayT,wo,wo]) (fun j hj=>by
 rw[ayT,wo]at hj
 by_cases uA:i=j
 ·subst uA
  rw[jv _ _ (by rw[wo];exact h)];unfold xr;rw[eG h,ayF (by omega)]
 ·rw[getD_set_ne _ _ uA];unfold xr;rw[eG hj,eG hj]
  by_cases h1:j<i
  ·rw[ayF h1,ayF (by omega)]
  ·rw[ayE h1,ayE (by omega)])
def pq(s:List Int)(i:Nat):List Int:=Bx s.length fun j=>if j<i then s.getD j 0 else 0
theorem Pp(s:List Int):pq s 0=List.replicate s.length 0:=mu (by unfold pq;rw[eN,ayS]) (fun i hi=>by
 unfold pq at*;rw[eN]at hi;rw[eG hi,ayE (by omega),ayC,aBf,ayF hi];rfl)
theorem Sk(s:List Int):pq s s.length=s:=mu (eN ..) (fun i hi=>by unfold pq at*;rw[eN]at hi;rw[eG hi,ayF hi])
theorem mv(s:List Int)(i:Nat):(pq s i).length=s.length:=eN ..
theorem Sl{s:List Int}{i:Nat}(h:i<s.length):(pq s i).set i (s.getD i 0)=pq s (i+1):=mu (by rw[ayT,mv,mv]) (fun j hj=>by
 rw[ayT,mv]at hj
 by_cases uA:i=j
 ·subst uA
  rw[jv _ _ (by rw[mv];exact h)];unfold pq;rw[eG h,ayF (by omega)]
 ·rw[getD_set_ne _ _ uA];unfold pq;rw[eG hj,eG hj]
  by_cases h1:j<i
  ·rw[ayF h1,ayF (by omega)]
  ·rw[ayE h1,ayE (by omega)])
theorem Ea{s:List Int}{i:Nat}(h:s.getD i 0=0):pq s i=pq s (i+1):=mu (by rw[mv,mv]) (fun j hj=>by
 rw[mv]at hj
 unfold pq;rw[eG hj,eG hj]
 by_cases h1:j<i
 ·rw[ayF h1,ayF (by omega)]
 ·rw[ayE h1]
  by_cases h2:j=i
  ·subst h2;rw[ayF (by omega),h]
  ·rw[ayE (by omega)])
theorem adp(x y:Int):mn x y=min x y:=by rw[aa0];split<;>omega
theorem Pq{t left:Int}{w caps out:List Int}(c:NM t w caps out left)(hS:0<(bR w caps out).sum)(i:Nat):0≤((dD (bo left (bR w caps out)) caps out).take i).sum∧((dD (bo left (bR w caps out)) caps out).take i).sum≤left:=by
 have h:=pn (l:=dD (bo left (bR w caps out)) caps out) (fun i _=>(lN c hS i).1)
 have:=yC h i
 have:=Bz c hS
 exact⟨gz (Io h i),by omega⟩
theorem BA(N:Nat)(K:List Int→List Int→List Int→Int→Int→Option (List Int×Int×Int)){t left:Int}{w caps out:List Int}(c:NM t w caps out left)(hS:0<(bR w caps out).sum)(rd:Int): ∀(m n i:Nat),w.length-i≤m→m<n→i≤w.length→
  dm.O7 N K n w caps (xr out (dD (bo left (bR w caps out)) caps out) i) (left-((dD (bo left (bR w caps out)) caps out).take i).sum) rd (bo left (bR w caps out)) (i:Int)=
  K w caps (sL out (dD (bo left (bR w caps out)) caps out)) (left-(dD (bo left (bR w caps out)) caps out).sum) (W .i64 (rd+1))
 |m,0,i,_,hn,_=>by omega
 |m,n+1,i,hm,hn,hi=>by
  have n64:=c.n
  have e1:=c.l1
  have e2:=c.l2
  unfold dm.O7 dm.Lu
  by_cases h:i<w.length
  ·have hc:=c.pc i
   have ho:=c.po i
   have hle:=c.le i h
   have hg:=lN c hS i
   have h6:(dD (bo left (bR w caps out)) caps out).getD i 0=min ((bo left (bR w caps out)).getD i 0) (caps.getD i 0-out.getD i 0):=eG (by rw[c.l2];exact h)
   have ht:=Pq c hS i
   have hl:=It c
   have rN:=c.t1
   have hgl:(dD (bo left (bR w caps out)) caps out).getD i 0≤left:=by
    have:=uT (pn (l:=dD (bo left (bR w caps out)) caps out) (fun i _=>(lN c hS i).1)) i
    have:=Bz c hS
    omega
   dsimp only
   rw[aE (by omega),ayz,aF (by omega) (by rw[lA,fC];omega),ayz,aF (by omega) (by omega),ayz,aF (by omega) (by rw[wo];omega),ayz,ayz,ayD,ado (by omega),ak (x:=caps.getD i 0-out.getD i 0) (by omega) (by omega),adp,←h6,
    ak (x:=(i:Int)+1) (by omega) (by omega),ak (x:=out.getD i 0+_) (by omega) (by omega),ak (x:=left-_-_) (by omega) (by omega),VO (by omega)]
   have:=BA N K c hS rd (m-1) n (i+1) (by omega) (by omega) (by omega)
   rw[iJ _ (by rw[sM];omega),←Int.sub_sub]at this
   exact this
  ·rw[az (by omega),ayB,VN _ _ (by omega),azo (by rw[sM];omega)]
def Iw(w caps out:List Int)(i:Nat):Prop:= ∃j,j<i∧0<w.getD j 0∧out.getD j 0<caps.getD j 0
theorem q9(N:Nat)(hN:5000000≤N)(K:List Int→List Int→List Int→Int→Int→Option (List Int×Int×Int)){t left:Int}{w caps out:List Int}(c:NM t w caps out left)(rd:Int): ∀(m n i:Nat) (b:Bool),w.length-i≤m→m<n→i≤w.length→(b=true↔Iw w caps out i)→
  dm.kk N K n w caps out left rd (pq (bR w caps out) i) b (i:Int)=
  if left=0∨(bR w caps out).sum=0 then some (out,left,0)else K w caps (sL out (dD (bo left (bR w caps out)) caps out)) (left-(dD (bo left (bR w caps out)) caps out).sum) (W .i64 (rd+1))
 |m,0,i,b,_,hn,_,_=>by omega
 |m,n+1,i,b,hm,hn,hi,hb=>by
  have n64:=c.n
  have e1:=c.l1
  have e2:=c.l2
  unfold dm.kk dm.jh
  by_cases h:i<w.length
  ·have h1:(bR w caps out).getD i 0=if out.getD i 0<caps.getD i 0 then w.getD i 0 else 0:=eG h
   have hw:=fB c.pw i
   have o4: ¬(0<w.getD i 0∧out.getD i 0<caps.getD i 0)→(b=true↔Iw w caps out (i+1)):=fun pU=>hb.trans ⟨fun⟨j,hj,h2⟩=>⟨j,by omega,h2⟩,fun⟨j,hj,h2⟩=>⟨j,by
    by_cases uA:j=i
    ·subst uA;exact absurd h2 pU
    ·omega,h2⟩⟩
   rw[aE (by omega),ayz,aF (by omega) (by omega),ayz,ayD]
   by_cases h0:0<w.getD i 0
   ·rw[aE h0,ayz,aF (by omega) (by omega),ayz,aF (by omega) (by omega),ayz]
    by_cases h2:out.getD i 0<caps.getD i 0
    ·rw[ayF h2]at h1
     rw[aE h2,ayz,ayz,aF (by omega) (by rw[mv,fC];omega),ayz,ak (by omega) (by omega),←h1,Sl (by rw[fC];exact h)]
     exact q9 N hN K c rd (m-1) n (i+1) true (by omega) (by omega) (by omega) ⟨fun _=>⟨i,by omega,h0,h2⟩,fun _=>rfl⟩
    ·rw[ayE h2]at h1
     rw[az (by omega),ayB,ak (by omega) (by omega),Ea h1]
     exact q9 N hN K c rd (m-1) n (i+1) b (by omega) (by omega) (by omega) (o4 (fun h=>h2 h.2))
   ·have h3:(bR w caps out).getD i 0=0:=by rw[h1];split<;>omega
    rw[az (by omega),ayB,ak (by omega) (by omega),Ea h3]
    exact q9 N hN K c rd (m-1) n (i+1) b (by omega) (by omega) (by omega) (o4 (fun h=>h0 h.1))
  ·have hl1:=It c
   have rN:=c.t1
   have hl0:=c.l
   have lR:i=(bR w caps out).length:=by rw[fC];omega
   have hp:=n9 (caps:=caps) (out:=out) c.pw
   have hs:=Is (caps:=caps) (out:=out) c.pw
   have hs0:=gz hp
   have hsw:=c.sw
   have hm:may (bR w caps out)=true:=lM.2 ⟨by rw[fC];omega,hp⟩
   rw[az (by omega),ayB]
   by_cases h4:left=0
   ·rw[cQ h4,ayz,ayF (.inl h4)]
   rw[cJ h4,ayB]
   by_cases h3:(bR w caps out).sum=0
   ·have hbf:b=false:=by
     rw[aAY];intro ht
     obtain⟨j,hj,h5⟩:=hb.1 ht
     exact D9 c.pw h3 j (by omega) h5
    rw[ayF (.inr h3),hbf];rfl
   ·have hbt:b=true:=hb.2 (by
     obtain⟨j,hj,h5⟩:=FM c.pw h3
     exact⟨j,by omega,h5⟩)
    rw[hbt,ayL,ayB,ayE (by omega),lR,Sk,xp N (by omega) (by omega) (Si c) (by rw[fC];omega),ayy]
    unfold n7
    rw[ayE (by rw[hm];simp;omega),ayE (by omega),ayE h3]
    have:=BA N K c (by omega) rd w.length N 0 (by omega) (by omega) (by omega)
    rw[mid_zero,aAz,aAe,aCd]at this
    exact this
theorem Eb(N:Nat)(hN:5000000≤N){t:Int}{w caps:List Int}: ∀(f n:Nat) (out:List Int) (left:Int),NM t w caps out left→f≤w.length+1→f<n→
  dm.l8 N n w caps out left ((w.length+1-f:Nat):Int)=some ((q8 w caps f out left).1,(q8 w caps f out left).2,0)
 |f,0,out,left,c,_,hn=>by omega
 |0,n+1,out,left,c,h,hn=>by
  unfold dm.l8 dm.zL
  rw[cP (by omega)];rfl
 |f+1,n+1,out,left,c,h,hn=>by
  have n64:=c.n
  have hl:=c.l
  unfold dm.l8 dm.zL
  rw[cX (by omega),ayz,bJ (by omega) (by omega) (by omega),ayz,ayD]
  have:=q9 N hN (dm.l8 N n) c ((w.length+1-(f+1):Nat):Int) w.length N 0 false (by omega) (by omega) (by omega) ⟨(fun h=>nomatch h),fun⟨j,hj,_⟩=>by omega⟩
  rw[Pp,fC]at this
  refine Eq.trans this ?_
  have hS:=gz (n9 (caps:=caps) (out:=out) c.pw)
  unfold q8
  by_cases h1:left=0∨(bR w caps out).sum=0
  ·rw[ayF h1,ayF h1]
  ·rw[ayE h1,ayE h1,ak (by omega) (by omega),show(((w.length+1-(f+1):Nat):Int)+1)=((w.length+1-f:Nat):Int)by omega]
   exact Eb N hN f n _ _ (Iu c (by omega)) (by omega) (by omega)
def ra(t:Int)(w caps:List Int):List Int×Int×Int:=
 if t<0∨may w=false∨caps.length≠w.length∨may caps=false then([],0,1)else if 9223372036854775808≤w.sum then([],0,2)
 else((q8 w caps (w.length+1) (List.replicate w.length 0) t).1,(q8 w caps (w.length+1) (List.replicate w.length 0) t).2,0)
theorem nn(n i:Nat):(List.replicate n (0:Int)).getD i 0=0:=by
 rw[ayC,aBf];split<;>rfl
theorem Ec{t:Int}{w caps:List Int}(ht:0≤t)(rN:t<9223372036854775808)(hw:may w=true)(hc:may caps=true)(hl:caps.length=w.length)(hi:FH caps)(hs:w.sum<9223372036854775808):NM t w caps (List.replicate w.length 0) t:=by
 obtain⟨h1,h2⟩:=lM.1 hw
 obtain⟨h3,h4⟩:=lM.1 hc
 refine⟨h1,hl,ayS ..,h2,hs,fun i=>⟨fB h4 i,(p6 hi i).2⟩,fun i=>by rw[nn];omega,fun i _=>by rw[nn];exact fB h4 i,fun i _=>nn ..,ht,rN,?_⟩
 rw[sK (fun i _=>nn ..)];omega
theorem LS(N:Nat)(hN:5000000≤N){t:Int}{w caps:List Int}(rN:t<9223372036854775808)(hw:FH w)(hc:FH caps)(hl:w.length≤1000000):dm N t w caps=some (ra t w caps):=by
 unfold dm dm.b ra
 rw[Bq N (by omega),ayy]
 by_cases h1:t<0
 ·rw[ayO h1,Bool.true_or,ayz,ayF (.inl h1)]
 rw[ayR h1,aBa]
 cases h2:may w
 ·rw[ay4,ayz,ayF (.inr (.inl rfl))]
 rw[ayL,ayB]
 by_cases h3:caps.length=w.length
 case neg=>rw[cJ (by omega),ay4,ayz,ayF (.inr (.inr (.inl h3)))]
 rw[cQ (by omega),ayL,ayB,Bq N (by omega),ayy]
 cases h4:may caps
 ·rw[ayF (.inr (.inr (.inr rfl)))];rfl
 have hp:=gz (lM.1 h2).2
 rw[show(decide ((0:Int)<0)|| !true)=false from rfl,ayB,uF N (by omega) hw hl,ayy,nZ,ayy,ayE (by simp;omega)]
 by_cases h5:9223372036854775808≤w.sum
 ·rw[ayF h5];unfold zc;rw[ayE (by omega)];rfl
 rw[ayE h5,FK (by omega) (by omega),ayL,ayB,bJ (by omega) (by omega) (by omega),ayz,ayD]
 have jy:=(lM.1 h2).1
 have:=Eb N hN (w.length+1) N _ _ (Ec (by omega) rN h2 h4 h3 hc (by omega)) (by omega) (by omega)
 rw[aA6]at this
 exact this
end VM
end
section
namespace VM
open Go VM.F
theorem xt{a b:Int}: ∀{l:aj},td (l.map keyOf)→iW a b l=cj a b l
 |[],_=>rfl
 |x::t,h=>by
  obtain⟨h1,h2⟩:=azk.1 h
  rw[ky,ji,←xt h2]
  by_cases e1:x.1=a
  ·by_cases e2:x.2.1=b
   ·have hz:cj a b t=0:=jj fun y hy e=>by
     have hk:=h1 (keyOf y) (azi hy)
     have he:keyOf y=keyOf x:=aA4 (e.1.trans e1.symm) (e.2.trans e2.symm)
     rw[he]at hk
     exact nh hk
    rw[ayF e1,ayF e2,ayF ⟨e1,e2⟩,xt h2,hz,aAF];rfl
   ·rw[ayF e1,ayE e2,ayE (fun h=>e2 h.2),aBz]
  ·rw[ayE e1,ayE (fun h=>e1 h.1),aBz]
theorem LV{t:Int}{w caps:List Int}(rN:t<9223372036854775808)(hc:FH caps)(hx:(ra t w caps).2.2=0):Full t w caps (ra t w caps).1 (ra t w caps).2.1:=by
 unfold ra at*
 by_cases h1:t<0∨may w=false∨caps.length≠w.length∨may caps=false
 ·rw[ayF h1]at hx;exact absurd hx (by decide)
 ·rw[ayE h1]at hx ⊢
  by_cases h2:9223372036854775808≤w.sum
  ·rw[ayF h2]at hx;exact absurd hx (by decide)
  ·rw[ayE h2]
   have h3:may w=true:=by cases h:may w<;>simp_all
   have h4:may caps=true:=by cases h:may caps<;>simp_all
   have h5:caps.length=w.length:=Decidable.byContradiction fun h=>h1 (Or.inr (Or.inr (Or.inl h)))
   exact Iv _ _ _ (Ec (by omega) rN h3 h4 h5 hc (by omega)) (Or.inl (by have:=Sj w caps (List.replicate w.length 0);omega))
end VM
end
