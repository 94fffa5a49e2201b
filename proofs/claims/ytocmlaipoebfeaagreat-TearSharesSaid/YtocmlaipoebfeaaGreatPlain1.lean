/- A part of the proof of TearShares of layer 29: what the functions compute, in plain words. -/
import Derived.Test.YtocmlaipoebfeaaGreatPlain0
import Derived.Test.YtocmlaipoebfeaaGreatText
set_option linter.all false
section
namespace VM
open Go VM.F
theorem RE{x:Int}(h0:0≤x)(h1:x<18446744073709551616):iZ .and .u64 x 1=x%2:=by
 rw[ES h0 h1 (by omega) (by omega)]
 have:=aw4 x.toNat 1
 rw[show((1:Int).toNat)=2^1-1 from rfl,this]
 omega
theorem A2{l:List Int}{k:Nat}(x:Int)(h:k<l.length):bP ((l.set k x).drop k)=x+4294967296*bP (l.drop (k+1)):=by
 rw[gI,gn l x h,List.drop_set_of_lt (by omega)]
theorem BE(N:Nat){d:List Int}(hd:VD d)(hl:d.length≤100000)(hN:4000000≤N): ∀(k n:Nat) (out:List Int) (c:Int),k≤d.length→k<n→VD out→out.length=d.length→c=bP (d.drop k)%2→bP (out.drop k)=bP (d.drop k)/2→
  ld.l4 N n d out c ((k:Int)-1)=some (ic (bP d/2).toNat,bP d%2)
 |k,0,out,c,_,hn,_,_,_,_=>by omega
 |0,n+1,out,c,_,_,ho,DU,hc,hv=>by
  unfold ld.l4 ld.cT
  simp (disch:=omega) only[aC,az,cK,cE,bW,cf,aI,bs,bq,b9,an,bz,aua,auc,auq,auC,at7,aue,auL,aa,aug,aud,aup,aun,auj,auA,CW N ho (by omega) (by omega)]
  rw[auG,auG]at hv
  rw[auG]at hc
  rw[hv,hc]
 |k+1,n+1,out,c,hk,hn,ho,DU,hc,hv=>by
  unfold ld.l4 ld.cT
  have e:((k+1:Nat):Int)-1=(k:Int):=by omega
  obtain⟨g0,g1⟩:=hd.getD k
  have Y7:=gl (hd.drop (k+1))
  have e1:=gI d k
  simp only[e,aue]
  rw[XI (by omega)]
  generalize hx:d.getD k 0=x at*
  rw[bz (x:=c*4294967296) (by omega) (by omega),Lr g0 g1 (by omega) (by omega)]
  simp (disch:=omega) only[aC,az,cK,cE,bW,cf,aI,bs,bq,b9,an,bz,aua,auc,auq,auC,at7,aue,auL,aa,aug,aud,aup,aun,auj,auA,aj5,RE]
  refine BE N hd hl hN k n (out.set k ((x+c*4294967296)/2)) ((x+c*4294967296)%2) (by omega) (by omega) (ho.set _ (by omega) (by omega)) (by rw[aup];exact DU) (by rw[e1,hc];omega) ?_
  rw[A2 _ (by omega),hv,e1]
  omega
theorem RF(N:Nat)(hN:4000000≤N)(m:Nat)(h:(ic m).length≤100000):ld N (ic m)=some (ic (m/2),((m%2:Nat):Int)):=by
 unfold ld ld.b
 simp (disch:=omega) only[aC,az,cK,cE,bW,cf,aI,bs,bq,b9,an,bz,aua,auc,auq,auC,at7,aue,auL,aa,aug,aud,aup,aun,auj,auA]
 have:=BE N (gm m) h hN (ic m).length N (List.replicate (ic m).length 0) 0 (aul _) (by omega) (VD.XH _) (by simp) (by rw[awm];rfl) (by rw[awm,au0 (by simp)];rfl)
 rw[eD]at this
 rw[this]
 congr 2
def bin(n:Nat):List Int:=if n=0 then []else((n%2:Nat):Int)::bin (n/2)
termination_by n
decreasing_by omega
theorem xZ{n:Nat}(h:n≠0):bin n=((n%2:Nat):Int)::bin (n/2):=by rw[bin];simp[h]
theorem qY:bin 0=[]:=by rw[bin];rfl
def uh:List Int→Int
 |[]=>0
 |d::r=>d+2*uh r
theorem RG(n:Nat):uh (bin n)=n:=by
 induction n using Nat.strongRecOn with
 |_ n ih=>
  by_cases h:n=0
  ·subst h;rw[qY];rfl
  ·rw[xZ h,uh,ih _ (by omega)];omega
theorem RH(n:Nat): ∀d∈bin n,d=0∨d=1:=by
 induction n using Nat.strongRecOn with
 |_ n ih=>
  by_cases h:n=0
  ·subst h;rw[qY];intro d hd;cases hd
  ·rw[xZ h];intro d hd
   rcases auy.1 hd with rfl|hd
   ·omega
   ·exact ih _ (by omega) d hd
theorem RI(k:Nat): ∀n,n<2^k→(bin n).length≤k:=by
 induction k with
 |zero=>
  intro n h;have:n=0:=by simpa using h
  subst this;rw[qY];simp
 |succ k ih=>
  intro n h
  by_cases hn:n=0
  ·subst hn;rw[qY];simp
  ·rw[xZ hn,auj]
   have:=ih (n/2) (by rw[awp]at h;omega)
   omega
theorem Oc{n k:Nat}(h:n<4294967296^k):(bin n).length≤32*k:=RI _ _ (avn h (by rw[Nat.pow_mul];exact aul _))
theorem BF(N:Nat)(hN:4000000≤N)(x2 x3 x4 x5:au): ∀(m n:Nat) (t:Nat) (bits:List Int),(bin t).length≤m→m<n→(ic t).length≤100000→bits.length+(bin t).length≤4000000→
  eS.l3 N n x2 x3 x4 x5 bits (ic t)=eS.l9 N N x2 x3 x4 x5 (bits++bin t) (false,([],())) (false,([],())) (((bits++bin t).length:Int)-1)
 |m,0,t,bits,_,hn,_,_=>by omega
 |m,n+1,t,bits,hm,hn,hd,hb=>by
  unfold eS.l3 eS.ix
  by_cases ht:t=0
  ·subst ht
   rw[gk,qY]
   simp (disch:=omega) only[aC,az,cK,cE,bW,cf,aI,bs,bq,b9,an,bz,aua,auc,auq,auC,at7,aue,auL,aa,aug,aud,aup,aun,auj,auA,auJ]
  ·have yL:0<(ic t).length:=by
    apply avC.2
    intro h;rw[uc]at h;omega
   rw[xZ ht]at hm hb ⊢
   rw[auj]at hm hb
   have hdl:(ic (t/2)).length≤100000:=by
    have:=CV _ t hd
    exact rN _ _ (Nat.lt_of_le_of_lt (Nat.div_le_self _ _) this)
   simp (disch:=omega) only[aC,az,cK,cE,bW,cf,aI,bs,bq,b9,an,bz,aua,auc,auq,auC,at7,aue,auL,aa,aug,aud,aup,aun,auj,auA,RF N hN t hd]
   rw[BF N hN x2 x3 x4 x5 (m-1) n (t/2) (bits++[((t%2:Nat):Int)]) (by omega) (by omega) hdl (by simp;omega)]
   simp
theorem Ls(l:List Int){i:Nat}(h:i<l.length):uh (l.drop i)=l.getD i 0+2*uh (l.drop (i+1)):=by
 rw[au2 h,uh,aub,auf h];rfl
theorem wQ: ∀{l:List Int},(∀d∈l,d=0∨d=1)→0≤uh l
 |[],_=>avo _
 |d::r,h=>by
  have h1:=wQ (l:=r) fun x hx=>h x (auk _ hx)
  have:=h d (auo ..)
  simp only[uh];omega
theorem pq: ∀(l:List Int) (i:Nat),(∀d∈l,d=0∨d=1)→uh (l.drop i)≤uh l
 |l,0,_=>avo _
 |[],i+1,_=>avo _
 |d::r,i+1,h=>by
  have h1:=pq r i fun x hx=>h x (auk _ hx)
  have h2:=wQ (l:=r) fun x hx=>h x (auk _ hx)
  have:=h d (auo ..)
  rw[List.drop_succ_cons,uh];omega
theorem oM(N:Nat)(hN:4000000≤N)(a d:Int)(hd:0<d)(DW:Fit a 80000)(Lt:Fit d 80000)(x4 x5:au){bits:List Int}(hb: ∀x∈bits,x=0∨x=1)(hbv:uh bits=a.natAbs)(sq:bits.length≤4000000):
  ∀(k n:Nat) (q r:Int),k≤bits.length→k<n→0≤q→0≤r→r<d→uh (bits.drop k)=q*d+r→
  eS.l9 N n (bX a) (bX d) x4 x5 bits (bX q) (bX r) ((k:Int)-1)=some (bX (a/d),bX (a%d))
 |k,0,q,r,_,hn,_,_,_,_=>by omega
 |0,n+1,q,r,_,_,hq,hr,gV,hv=>by
  unfold eS.l9 eS.vb
  rw[auG,hbv]at hv
  have hqa:q≤a.natAbs:=by
   have:q*1≤q*d:=au4 (by omega) hq
   omega
  have fq:Fit q 900000:=(DW.of_le (u:=q) (by omega)).mono (by omega)
  have fr:Fit r 900000:=(Lt.of_le (u:=r) (by omega)).mono (by omega)
  have f1:Fit 1 900000:=(Fit.i64 (v:=1) (by omega) (by omega)).mono (by omega)
  have fq':Fit (-q) 900000:=fq.neg
  have fd:Fit d 900000:=Lt.mono (by omega)
  rw[cE (by omega),auc]
  by_cases ha:a<0
  ·have Q3:(a.natAbs:Int)= -a:=by omega
   have e0:(bX a).1=true:=auv ha
   simp only[e0,auq,auc,pk,at7]
   by_cases YS:r=0
   ·subst YS
    rw[bW (by unfold qU;simp),aua]
    simp only[rO N hN fq,at7]
    have e1:a=d*(-q):=by rw[aw7,auY];omega
    have e2:a/d= -q:=by rw[e1,awJ _ (by omega)]
    have e3:a%d=0:=by rw[e1,axm]
    rw[e2,e3]
   ·rw[cf (by unfold qU;rw[aui (by omega),auh (by omega)];omega),auc]
    simp (disch:=omega) only[rO N hN fq,eX N (by omega) (show-9223372036854775808≤(1:Int)by omega) (by omega),at7,pj N hN fq' f1,pj N hN fd fr]
    have e1:a=(d-r)+d*(-q-1):=by rw[axs,aw7,Int.mul_one,auY];omega
    have e2:a/d= -q-1:=by
     rw[e1,awa _ _ (by omega),awq (by omega) (by omega)];omega
    have e3:a%d=d-r:=by rw[e1,av9,axt (by omega) (by omega)]
    rw[e2,e3]
  ·have Q3:(a.natAbs:Int)=a:=by omega
   have e0:(bX a).1=false:=auB ha
   simp only[e0,auC,aua]
   have e1:a=r+d*q:=by rw[auY];omega
   have e2:a/d=q:=by rw[e1,awa _ _ (by omega),awq hr gV];omega
   have e3:a%d=r:=by rw[e1,av9,axt hr gV]
   rw[e2,e3]
 |k+1,n+1,q,r,hk,hn,hq,hr,gV,hv=>by
  unfold eS.l9 eS.vb
  have e:((k+1:Nat):Int)-1=(k:Int):=by omega
  have hle:=pq bits k hb
  have akj:=pq bits (k+1) hb
  rw[hbv]at hle akj
  have hqa:q≤a.natAbs:=by
   have:q*1≤q*d:=au4 (by omega) hq
   omega
  have fq:Fit q 80000:=DW.of_le (by omega)
  have fr:Fit r 80000:=Lt.of_le (by omega)
  have fqq:=fq.add fq
  have frr:=fr.add fr
  have f1:Fit 1 80000:=(Fit.i64 (v:=1) (by omega) (by omega)).mono (by omega)
  have hvk:=Ls bits (i:=k) (by omega)
  have xn:bits.getD k 0=0∨bits.getD k 0=1:=by
   rw[aub,auf (show k<bits.length by omega)]
   exact hb _ (auT _)
  rw[e,cK (by omega),aua]
  have e2q:(q+q)*d=2*(q*d):=by rw[←Int.two_mul,ave]
  have aeT:(q+q+1)*d=2*(q*d)+d:=by rw[avV,e2q,awP]
  simp (disch:=omega) only[aC,az,cK,cE,bW,cf,aI,bs,bq,b9,an,bz,aua,auc,auq,auC,at7,aue,auL,aa,aug,aud,aup,aun,auj,auA,js N hN (fq.mono (by omega)) (fq.mono (by omega)),js N hN (fr.mono (by omega)) (fr.mono (by omega)),eX N (by omega) (show-9223372036854775808≤(1:Int)by omega) (by omega)]
  rcases xn with xn|xn
  ·rw[xn,cf (by omega),auc]
   simp only[CX N hN (frr.mono (by omega)) (Lt.mono (by omega)),at7]
   by_cases Qw:d≤r+r
   ·rw[cK (by unfold qU;split<;>(try split)<;>omega),aua]
    simp only[pj N hN (frr.mono (by omega)) (Lt.mono (by omega)),js N hN (fqq.mono (by omega)) (f1.mono (by omega)),at7]
    refine oM N hN a d hd DW Lt x4 x5 hb hbv sq k n _ _ (by omega) (by omega) (by omega) (by omega) (by omega) ?_
    rw[hvk,xn,hv,aeT];omega
   ·rw[cE (by unfold qU;rw[auh (by omega)];omega),auc]
    refine oM N hN a d hd DW Lt x4 x5 hb hbv sq k n _ _ (by omega) (by omega) (by omega) (by omega) (by omega) ?_
    rw[hvk,xn,hv,e2q];omega
  ·rw[xn,bW rfl,aua]
   have aeU:=frr.add (f1.mono (show 80000≤80001 by omega))
   simp only[js N hN (frr.mono (by omega)) (f1.mono (by omega)),CX N hN (aeU.mono (by omega)) (Lt.mono (by omega)),at7]
   by_cases Qw:d≤r+r+1
   ·rw[cK (by unfold qU;split<;>(try split)<;>omega),aua]
    simp only[pj N hN (aeU.mono (by omega)) (Lt.mono (by omega)),js N hN (fqq.mono (by omega)) (f1.mono (by omega)),at7]
    refine oM N hN a d hd DW Lt x4 x5 hb hbv sq k n _ _ (by omega) (by omega) (by omega) (by omega) (by omega) ?_
    rw[hvk,xn,hv,aeT];omega
   ·rw[cE (by unfold qU;rw[auh (by omega)];omega),auc]
    refine oM N hN a d hd DW Lt x4 x5 hb hbv sq k n _ _ (by omega) (by omega) (by omega) (by omega) (by omega) ?_
    rw[hvk,xn,hv,e2q];omega
theorem J8(N:Nat)(hN:5000000≤N){a d:Int}(hd:0<d)(DW:Fit a 80000)(Lt:Fit d 80000):eS N (bX a) (bX d)=some (bX (a/d),bX (a%d)):=by
 unfold eS eS.b
 have sq:(bin a.natAbs).length≤32*80000:=Oc DW
 have h1:=BF N (by omega) (bX a) (bX d) (false,([],())) (false,([],())) (bin a.natAbs).length N a.natAbs [] (aul _) (by omega) (auX DW.len (by omega)) (by simp;omega)
 rw[auK]at h1
 refine h1.trans ?_
 rw[←iQ]
 exact oM N (by omega) a d hd DW Lt _ _ (RH _) (RG _) (by omega) (bin a.natAbs).length N 0 0 (aul _) (by omega) (by omega) (by omega) hd (by rw[awm];simp[uh])
end VM
end
section
namespace VM
open Go VM.F
def cy(v:Int):bH:=(v/18446744073709551616,(v%18446744073709551616,()))
theorem wmk{a b v:Int}(h1:a=v/18446744073709551616)(h2:b=v%18446744073709551616):((a,(b,())):bH)=cy v:=by
 unfold cy;rw[h1,h2]
theorem E7{a b v:Int}{α:Type}{c:α}(h1:a=v/18446744073709551616)(h2:b=v%18446744073709551616):(some (((a,(b,())):bH),c):Option (bH×α))=some (cy v,c):=by
 rw[wmk h1 h2]
theorem Od{a b c d:Int}(h1:a=c)(h2:b=d):(some (a,b):Option (Int×Int))=some (c,d):=by rw[h1,h2]
theorem zd(N:Nat){hi lo:Int}(h0:0≤hi)(h1:hi<9223372036854775808)(l0:0≤lo)(l1:lo<18446744073709551616):mD N false hi lo=some (cy (hi*18446744073709551616+lo),true):=by
 unfold mD mD.b
 rw[auC,aua,cE (by omega),auc,an (by omega) (by omega)]
 exact E7 (by omega) (by omega)
theorem pt(N:Nat){hi lo:Int}(h0:0≤hi)(l0:0≤lo)(l1:lo<18446744073709551616)(hm:hi*18446744073709551616+lo≤170141183460469231731687303715884105728):mD N true hi lo=some (cy (-(hi*18446744073709551616+lo)),true):=by
 unfold mD mD.b
 have hj:mD.j7 N hi lo ch=some (cy (-(hi*18446744073709551616+lo)),true):=by
  unfold mD.j7 mD.Ig
  rw[oK N (by omega) (by omega) l0 l1 (by omega) (by omega),at7]
  by_cases hl:lo=0
  ·subst hl
   rw[aui (by omega)]
   rw[oK N (by omega) (by omega) h0 (by omega) (by omega) (by omega),at7,gH]
   exact E7 (by split<;>omega) (by omega)
  ·rw[auh (by omega)]
   rw[oK N (by omega) (by omega) h0 (by omega) (by omega) (by omega),at7,gH]
   exact E7 (by split<;>omega) (by omega)
 rw[auq,auc,az (by omega),auc]
 by_cases he:hi=9223372036854775808
 ·rw[bW he,aua,az (by omega),auc];exact hj
 ·rw[cf he,auc];exact hj
theorem A3{a b:Int}(a0: -9223372036854775808≤a)(a1:a<9223372036854775808)(b0: -9223372036854775808≤b)(b1:b<9223372036854775808):
  0≤(a.natAbs:Int)*b.natAbs∧(a.natAbs:Int)*b.natAbs≤85070591730234615865843651857942052864:=by
 have:=mul_lt (m:=9223372036854775808) (n:=9223372036854775808) (show 0≤(a.natAbs:Int)by omega) (show 0≤(b.natAbs:Int)by omega) (by omega) (by omega)
 omega
theorem RJ(N:Nat){a b:Int}(a0: -9223372036854775808≤a)(a1:a<9223372036854775808)(b0: -9223372036854775808≤b)(b1:b<9223372036854775808):RK N a b=some (cy (a*b)):=by
 unfold RK
 have hm:=A3 a0 a1 b0 b1
 simp only[xW N a0 a1,xW N b0 b1,at7,N7 N (show 0≤(a.natAbs:Int)by omega) (by omega) (show 0≤(b.natAbs:Int)by omega) (by omega),qV]
 obtain⟨m,hme⟩: ∃m,m=(a.natAbs:Int)*b.natAbs:=⟨_,rfl⟩
 rw[←hme]at hm ⊢
 have hd:m/18446744073709551616*18446744073709551616+m%18446744073709551616=m:=by omega
 by_cases h1:a<0<;>by_cases h2:b<0
 ·rw[aC h1,aC h2,aw5,auq,zd N (by omega) (by omega) (by omega) (by omega),at7,hd]
  have:m=a*b:=by rw[hme,show(a.natAbs:Int)= -a from by omega,show(b.natAbs:Int)= -b from by omega,Int.neg_mul_neg]
  rw[this]
 ·rw[aC h1,az (x:=b) (by omega),show(!(true==false))=true from rfl,pt N (by omega) (by omega) (by omega) (by omega),at7,hd]
  have:m= -(a*b):=by rw[hme,show(a.natAbs:Int)= -a from by omega,show(b.natAbs:Int)=b from by omega,Int.neg_mul]
  rw[this,Int.neg_neg]
 ·rw[az (x:=a) (by omega),aC h2,show(!(false==true))=true from rfl,pt N (by omega) (by omega) (by omega) (by omega),at7,hd]
  have:m= -(a*b):=by rw[hme,show(a.natAbs:Int)=a from by omega,show(b.natAbs:Int)= -b from by omega,aw7]
  rw[this,Int.neg_neg]
 ·rw[az (x:=a) (by omega),az (x:=b) (by omega),aw5,auq,zd N (by omega) (by omega) (by omega) (by omega),at7,hd]
  have:m=a*b:=by rw[hme,show(a.natAbs:Int)=a from by omega,show(b.natAbs:Int)=b from by omega]
  rw[this]
theorem Oe(N:Nat){v:Int}(v0: -170141183460469231731687303715884105728≤v)(v1:v<170141183460469231731687303715884105728):RL N (cy v)=some ((v.natAbs:Int)/18446744073709551616,(v.natAbs:Int)%18446744073709551616):=by
 unfold RL cy
 dsimp only
 by_cases h:0≤v
 ·rw[cK (by omega),aua,bz (by omega) (by omega)]
  exact Od (by omega) (by omega)
 ·rw[cE (by omega),auc,oK N (by omega) (by omega) (by omega) (by omega) (by omega) (by omega),at7]
  dsimp only
  rw[mz]
  by_cases hl:v%18446744073709551616=0
  ·rw[aui (by omega),oK N (by omega) (by omega) (by omega) (by omega) (by omega) (by omega),at7]
   exact Od (by omega) (by omega)
  ·rw[auh (by omega),oK N (by omega) (by omega) (by omega) (by omega) (by omega) (by omega),at7]
   exact Od (by omega) (by omega)
theorem RM{m d:Int}(hd:0<d)(hm:0≤m):m/d=m/18446744073709551616/d*18446744073709551616+(m/18446744073709551616%d*18446744073709551616+m%18446744073709551616)/d∧
  m%d=(m/18446744073709551616%d*18446744073709551616+m%18446744073709551616)%d:=by
 have e:=avv (m/18446744073709551616) d
 have e0:m=(m/18446744073709551616%d*18446744073709551616+m%18446744073709551616)+d*(m/18446744073709551616/d*18446744073709551616):=by
  rw[←ave];omega
 constructor
 ·conv=>lhs;rw[e0]
  rw[awa _ _ (by omega)];omega
 ·conv=>lhs;rw[e0]
  rw[av9]
theorem RN(N:Nat)(hN:100≤N){v d:Int}(v0: -170141183460469231731687303715884105728≤v)(v1:v<170141183460469231731687303715884105728)(d0:0<d)(d1:d<9223372036854775808):
  oN N (cy v) d=some (cy (v/d),v%d,true):=by
 unfold oN oN.b
 rw[az (by omega),auc,Oe N v0 v1,at7,bz (x:=d) (by omega) (by omega)]
 dsimp only
 obtain⟨m,hm⟩: ∃m:Int,m=v.natAbs:=⟨_,rfl⟩
 rw[←hm]
 have hmd:=avt (m/18446744073709551616) d0
 have akl:=avZ (m/18446744073709551616) (show d≠0 by omega)
 rw[EY N hN (by omega) d0 (by omega) (by omega) (by omega),at7,axT,axE]
 dsimp only
 rw[EY N hN akl hmd (by omega) (by omega) (by omega),at7]
 dsimp only
 obtain⟨e1,e2⟩:=RM d0 (show 0≤m by omega)
 rw[←e2]
 have Ra:0≤m/18446744073709551616/d:=avu (by omega) (by omega)
 have MK:m/18446744073709551616/d≤m/18446744073709551616:=Int.ediv_le_self _ (by omega)
 have CS:=avt m d0
 have YS:=avZ m (show d≠0 by omega)
 have hl0:0≤(m/18446744073709551616%d*18446744073709551616+m%18446744073709551616)/d:=avu (by omega) (by omega)
 have Zt:(m/18446744073709551616%d*18446744073709551616+m%18446744073709551616)/d<18446744073709551616:=by
  rw[avA d0]
  have:=avy (show m/18446744073709551616%d+1≤d by omega) (show(0:Int)≤18446744073709551616 by omega)
  rw[avV,awP,auY d]at this;omega
 generalize (m/18446744073709551616%d*18446744073709551616+m%18446744073709551616)/d=ql at*
 generalize hqh:m/18446744073709551616/d=qh at*
 have hmq:=avv m d
 by_cases h:0≤v
 ·have hv:m=v:=by omega
  rw[cK (show(0:Int)≤(cy v).1 by show 0≤v/_;omega),aua,an (x:=qh) (by omega) (by omega),an (x:=m%d) (by omega) (by omega),←hv]
  unfold cy
  exact E7 (by omega) (by omega)
 ·have hv:v= -m:=by omega
  rw[cE (show(cy v).1<0 by show v/_<0;omega),auc]
  by_cases hr:0<m%d
  ·rw[aC hr,aua,ub N hl0 (by omega) (by omega) (by omega),at7]
   unfold oN.HG oN.xu
   dsimp only
   rw[bz (x:=d-m%d) (by omega) (by omega),bz (x:=qh+(ql+1+0)/18446744073709551616) (by omega) (by omega)]
   rw[pt N (by omega) (by omega) (by omega) (by
    have:m/d*1≤m/d*d:=au4 (by omega) (avu (by omega) (by omega))
    rw[auY]at hmq;omega),at7,an (x:=d-m%d) (by omega) (by omega)]
   have e3:v=(d-m%d)+d*(-(m/d)-1):=by rw[hv,axs,aw7,Int.mul_one];omega
   have e4:v/d= -(m/d)-1:=by
    rw[e3,awa _ _ (by omega),awq (by omega) (by omega)];omega
   have e5:v%d=d-m%d:=by rw[e3,av9,axt (by omega) (by omega)]
   rw[e4,e5]
   dsimp only
   rw[show-((qh+(ql+1+0)/18446744073709551616)*18446744073709551616+(ql+1+0)%18446744073709551616)= -(m/d)-1 by omega]
  ·have dT:m%d=0:=by omega
   rw[az (by omega),auc]
   unfold oN.HG oN.xu
   rw[pt N (by omega) (by omega) (by omega) (by
    have:m/d*1≤m/d*d:=au4 (by omega) (avu (by omega) (by omega))
    rw[auY]at hmq;omega),at7,an (x:=m%d) (by omega) (by omega)]
   have e3:v=d*(-(m/d)):=by rw[hv,aw7];omega
   have e4:v/d= -(m/d):=by rw[e3,awJ _ (by omega)]
   have e5:v%d=0:=by rw[e3,axm]
   rw[e4,e5,dT]
   dsimp only
   rw[show-(qh*18446744073709551616+ql)= -(m/d)by omega]
theorem C1(N:Nat){v:Int}(v0: -170141183460469231731687303715884105728≤v)(v1:v<170141183460469231731687303715884105728):C2 N (cy v)=some (xt v):=by
 unfold C2 cy
 rw[az (by omega),auc]
 dsimp only
 have hw0: -9223372036854775808≤W .i64 (v%18446744073709551616)∧W .i64 (v%18446744073709551616)<9223372036854775808:=by rw[gH];split<;>omega
 rw[mA hw0.1 hw0.2]
 have hwv:W .i64 (v%18446744073709551616)=if 9223372036854775808≤v%18446744073709551616 then v%18446744073709551616-18446744073709551616 else v%18446744073709551616:=by rw[gH];split<;>split<;>omega
 rw[hwv]
 unfold xt
 by_cases h: -9223372036854775808≤v∧v<9223372036854775808
 ·rw[auh h]
  by_cases hn:v<0
  ·rw[auh (show 9223372036854775808≤v%18446744073709551616 by omega),auh (by omega),bW (by omega),auq,auc]
   congr 2;omega
  ·rw[aui (show ¬9223372036854775808≤v%18446744073709551616 by omega),aui (by omega),bW (by omega),auq,auc]
   congr 2;omega
 ·rw[aui h]
  by_cases hm:9223372036854775808≤v%18446744073709551616
  ·rw[auh hm,auh (by omega),cf (by omega),auC,aua]
  ·rw[aui hm,aui (by omega),cf (by omega),auC,aua]
theorem BG(N:Nat){l:List Int}(h: ∀x∈l,-9223372036854775808≤x∧x<9223372036854775808)(hl:l.length≤1000000): ∀(m n i:Nat),l.length-i≤m→m<n→i≤l.length→
  lF.l3 N n ((l.take i).sum/18446744073709551616) ((l.take i).sum%18446744073709551616) l (l.length:Int) (i:Int)=some (xt l.sum)
 |m,0,i,_,hn,_=>by omega
 |m,n+1,i,hm,hn,hi=>by
  unfold lF.l3 lF.ix
  have f1:=CZ (l.take i) (fun x hx=>h x (avh hx))
  rw[auu,avd (by omega)]at f1
  by_cases h1:i<l.length
  ·obtain⟨g0,g1⟩:=mC h i
   have hs:=dx l h1
   simp only[aue]
   generalize hx:l.getD i 0=x at*
   generalize (l.take i).sum=t at*
   rw[mz,ub N (by omega) (by omega) (by omega) (by omega)]
   simp only[mA g0 g1]
   have hih:=BG N h hl (m-1) n (i+1) (by omega) (by omega) (by omega)
   rw[hs]at hih
   rw[aC (by omega),aua,aI (by omega) (by omega),aua,at7,az (by omega),auc]
   by_cases hn:x<0
   ·rw[auh hn,an (x:=t/18446744073709551616+ -1) (by omega) (by omega),an (x:=(_:Int)/18446744073709551616) (by omega) (by omega),an (by omega) (by omega),an (x:=(i:Int)+1) (by omega) (by omega)]
    refine Eq.trans ?_ hih
    congr 1<;>omega
   ·rw[aui hn,an (x:=t/18446744073709551616+0) (by omega) (by omega),an (x:=(_:Int)/18446744073709551616) (by omega) (by omega),an (by omega) (by omega),an (x:=(i:Int)+1) (by omega) (by omega)]
    refine Eq.trans ?_ hih
    congr 1<;>omega
  ·rw[auM (by omega)]at f1 ⊢
   rw[az (by omega),auc]
   have:=C1 N (v:=l.sum) (by omega) (by omega)
   unfold C2 cy at this
   exact this
theorem J9(N:Nat){l:List Int}(h: ∀x∈l,-9223372036854775808≤x∧x<9223372036854775808)(hl:l.length≤1000000)(hN:1000000<N):lF N l=some (xt l.sum):=by
 unfold lF lF.b
 have:=BG N h hl l.length N 0 (by omega) (by omega) (by omega)
 rw[avD,awr]at this
 exact this
end VM
end
section
namespace VM
open Go
theorem cond_not{α:Type}(b:Bool)(x y:α):cond (!b) x y=cond b y x:=by cases b<;>rfl
theorem ck{α:Type}(a b:Int)(x y:α):cond (aH a b) x y=if a<b then x else y:=by
 by_cases h:a<b
 ·rw[aC h,auh h];rfl
 ·rw[az (by omega),aui h];rfl
theorem bO{α:Type}(a b:Int)(x y:α):cond (bR a b) x y=if a≤b then x else y:=by
 by_cases h:a≤b
 ·rw[cK h,auh h];rfl
 ·rw[cE (by omega),aui h];rfl
theorem aG{α:Type}(a b:Int)(x y:α):cond (ay a b) x y=if a=b then x else y:=by
 by_cases h:a=b
 ·rw[bW h,auh h];rfl
 ·rw[cf h,aui h];rfl
theorem ea{α:Type}(p:Prop) [Decidable p](x y:α):cond (decide p) x y=if p then x else y:=by
 by_cases h:p
 ·rw[auv h,auh h];rfl
 ·rw[auB h,aui h];rfl
theorem drop_cons{α:Type}{l:List α}{i:Nat}(h:i<l.length)(d:α):l.drop i=l.getD i d::l.drop (i+1):=by
 rw[au2 h,aub,auf h];rfl
theorem qo{α σ β:Type}(l:List α)(d:α)(F:Nat→Int→σ→Option β)(g:List α→σ→Option β)(I:Nat→σ→Prop)
  (hs: ∀n i s,i<l.length→I i s→(∀s',I (i+1) s'→F n ((i+1:Nat):Int) s'=g (l.drop (i+1)) s')→F (n+1) (i:Int) s=g (l.getD i d::l.drop (i+1)) s)
  (he: ∀n s,I l.length s→F (n+1) (l.length:Int) s=g [] s): ∀m n i s,l.length-i≤m→m<n→i≤l.length→I i s→F n (i:Int) s=g (l.drop i) s
 |m,0,i,s,_,hn,_,_=>by omega
 |m,n+1,i,s,hm,hn,hi,hI=>by
  by_cases h:i<l.length
  ·rw[drop_cons h d]
   exact hs n i s h hI fun s' sH=>qo l d F g I hs he (m-1) n (i+1) s' (by omega) (by omega) (by omega) sH
  ·have:i=l.length:=by omega
   subst this
   rw[awm];exact he n s hI
theorem ui{α β:Type}(l:List α)(d:α)(F:Nat→Int→Option β)(g:List α→Option β)
  (hs: ∀n i,i<l.length→F n ((i+1:Nat):Int)=g (l.drop (i+1))→F (n+1) (i:Int)=g (l.getD i d::l.drop (i+1)))
  (he: ∀n,F (n+1) (l.length:Int)=g []) (n:Nat) (hn:l.length<n):F n 0=g l:=by
 have:=qo (σ:=Unit) l d (fun n i _=>F n i) (fun l _=>g l) (fun _ _=>True) (fun n i _ h _ hr=>hs n i h (hr () trivial)) (fun n _ _=>he n) l.length n 0 () (by omega) hn (by omega) trivial
 simpa using this
theorem scan{F:Nat→Int→Option Bool}{len:Nat}(P:Nat→Prop) [DecidablePred P]
  (hs: ∀n i r,i<len→(∀j,j<i→P j)→F n ((i+1:Nat):Int)=r→F (n+1) (i:Int)=if P i then r else some false) {e:Bool} (he: ∀n,F (n+1) (len:Int)=some e):
  ∀m n i,len-i≤m→m<n→i≤len→(∀j,j<i→P j)→F n (i:Int)=some (decide (∀j,j<len→i≤j→P j)&&e)
 |m,0,i,_,hn,_,_=>by omega
 |m,n+1,i,hm,hn,hi,hp=>by
  by_cases h:i<len
  ·rw[hs n i _ h hp rfl]
   by_cases hP:P i
   ·rw[auh hP,scan P hs he (m-1) n (i+1) (by omega) (by omega) (by omega) (fun j hj=>by
     by_cases sY:j=i
     ·subst sY;exact hP
     ·exact hp j (by omega))]
    congr 2
    rw[avR]
    refine⟨fun hj j h2 h1=> ?_,fun hj j h2 h1=>hj j h2 (by omega)⟩
    by_cases sY:j=i
    ·subst sY;exact hP
    ·exact hj j h2 (by omega)
   ·rw[aui hP,auB (fun hj=>hP (hj i h (aul i)))];rfl
  ·have:i=len:=by omega
   subst this
   rw[he n,auv (fun j h2 h1=>absurd h2 (by omega))];rfl
theorem eY{F:Nat→Int→Option Bool}{len:Nat}(P:Nat→Prop) [DecidablePred P]{e:Bool}
  (hs: ∀n i r,i<len→(∀j,j<i→P j)→F n ((i+1:Nat):Int)=r→F (n+1) (i:Int)=if P i then r else some false) (he: ∀n,F (n+1) (len:Int)=some e) (n:Nat) (hn:len<n):
  F n 0=some (decide (∀j,j<len→P j)&&e):=by
 have:=scan P hs he len n 0 (by omega) hn (by omega) (fun j hj=>absurd hj (by omega))
 rw[show((0:Nat):Int)=0 from rfl]at this
 rw[this]
 congr 2
 rw[avR]
 exact⟨fun h j hj=>h j hj (by omega),fun h j hj _=>h j hj⟩
end VM
end
section
namespace VM
open Go VM.F
def eE(x:Int):Prop:= -170141183460469231731687303715884105728≤x∧x<170141183460469231731687303715884105728
instance(x:Int):Decidable (eE x):=by unfold eE;infer_instance
theorem vy(N:Nat){x:Int}(h0: -9223372036854775808≤x)(h1:x<9223372036854775808):RO N x=some (cy x):=by
 unfold RO
 rw[az (by omega),auc,mA h0 h1,mz]
 congr 1
 exact wmk (by split<;>omega) rfl
theorem RP{ws:List Int}(i:Nat):(ws.map cy).getD i ch=cy (ws.getD i 0):=by
 by_cases h:i<ws.length
 ·rw[aub,avw,auf h,aub,auf h];rfl
 ·rw[aub,auQ (by rw[auH];omega),aub,auQ (by omega)];rfl
theorem Zy{ws:List Int}(h: ∀x∈ws,eE x): -(170141183460469231731687303715884105728*(ws.length:Int))≤ws.sum∧ws.sum≤170141183460469231731687303715884105728*(ws.length:Int):=by
 induction ws with
 |nil=>simp
 |cons x ws ih=>
  have h0:=h x (auo ..)
  have ih:=ih (fun y hy=>h y (auk _ hy))
  unfold eE at h0
  rw[auO,auj];omega
theorem Of{t w:Int}{lo hi top:Int}(hw:eE w)(xm:lo=t%18446744073709551616)(JK:hi=t/18446744073709551616%18446744073709551616)(ako:top=t/340282366920938463463374607431768211456):
  (lo+w%18446744073709551616+0)%18446744073709551616=(t+w)%18446744073709551616∧
  (hi+(w/18446744073709551616)%18446744073709551616+(lo+w%18446744073709551616+0)/18446744073709551616)%18446744073709551616=(t+w)/18446744073709551616%18446744073709551616∧
  top+(if w/18446744073709551616<0 then-1 else 0)+(hi+(w/18446744073709551616)%18446744073709551616+(lo+w%18446744073709551616+0)/18446744073709551616)/18446744073709551616=(t+w)/340282366920938463463374607431768211456:=by
 unfold eE at hw
 subst xm JK ako
 refine⟨by omega,by omega,?_⟩
 split<;>omega
def Il(t:Int):bH×Bool:=if eE t then(cy t,true)else(ch,false)
theorem W64(x:Int):W .u64 x=x%18446744073709551616:=mz x
theorem BH(N:Nat){ws:List Int}(h: ∀x∈ws,eE x)(hl:ws.length≤1000000): ∀(m n i:Nat) (t:Int),ws.length-i≤m→m<n→i≤ws.length→t=(ws.take i).sum→
  jt.l3 N n ch (t/340282366920938463463374607431768211456) (t/18446744073709551616%18446744073709551616) (t%18446744073709551616) (ws.map cy) (ws.length:Int) (i:Int)=some (Il ws.sum)
 |m,0,i,t,_,hn,_,_=>by omega
 |m,n+1,i,t,hm,hn,hi,ht=>by
  unfold jt.l3 jt.ix
  have f1:=Zy (ws:=ws.take i) (fun x hx=>h x (avh hx))
  rw[auu,avd (by omega),←ht]at f1
  by_cases h1:i<ws.length
  ·have hw:eE (ws.getD i 0):=by
    rw[aub,auf h1];exact h _ (auT h1)
   have hs:=dx ws h1
   rw[←ht]at hs
   have st:=Of (t:=t) (w:=ws.getD i 0) hw rfl rfl rfl
   have s9:=BH N h hl (m-1) n (i+1) (t+ws.getD i 0) (by omega) (by omega) (by omega) hs.symm
   rw[aC (by omega),aua,aI (by omega) (by rw[auH];omega),aua,aue,RP]
   unfold cy
   dsimp only
   have hw':=hw
   unfold eE at hw'
   generalize ws.getD i 0=w at*
   have hq:0≤(t%18446744073709551616+w%18446744073709551616+0)/18446744073709551616∧(t%18446744073709551616+w%18446744073709551616+0)/18446744073709551616≤1:=by omega
   rw[ub N (by omega) (by omega) (by omega) (by omega),at7,W64,ub N (by omega) (by omega) hq.1 hq.2,at7,az (x:=63) (by omega),auc,st.1,st.2.1]
   rw[mA (by omega) (by omega)]
   have hc:0≤(t/18446744073709551616%18446744073709551616+w/18446744073709551616%18446744073709551616+(t%18446744073709551616+w%18446744073709551616+0)/18446744073709551616)/18446744073709551616∧(t/18446744073709551616%18446744073709551616+w/18446744073709551616%18446744073709551616+(t%18446744073709551616+w%18446744073709551616+0)/18446744073709551616)/18446744073709551616≤1:=by omega
   have hif: -1≤(if w/18446744073709551616<0 then(-1:Int)else 0)∧(if w/18446744073709551616<0 then(-1:Int)else 0)≤0:=by split<;>omega
   rw[an (x:=t/340282366920938463463374607431768211456+_) (by omega) (by omega),an (x:=(_:Int)/18446744073709551616) (by omega) (by omega),st.2.2,an (by omega) (by omega),an (x:=(i:Int)+1) (by omega) (by omega)]
   exact s9
  ·have e:(ws.take i).sum=ws.sum:=by rw[auM (by omega)]
   rw[e]at ht
   rw[az (by omega),auc,az (x:=63) (by omega),auc,←ht]
   have hh: -9223372036854775808≤W .i64 (t/18446744073709551616%18446744073709551616)∧W .i64 (t/18446744073709551616%18446744073709551616)<9223372036854775808:=by rw[gH];split<;>omega
   have hwv:W .i64 (t/18446744073709551616%18446744073709551616)=if 9223372036854775808≤t/18446744073709551616%18446744073709551616 then t/18446744073709551616%18446744073709551616-18446744073709551616 else t/18446744073709551616%18446744073709551616:=by rw[gH];split<;>split<;>omega
   rw[mA hh.1 hh.2,hwv]
   unfold Il
   by_cases hI:eE t
   ·rw[auh hI]
    unfold eE at hI
    rw[bW (by split<;>split<;>omega),auq,auc]
    exact E7 (by split<;>omega) rfl
   ·rw[aui hI]
    unfold eE at hI
    rw[cf (by split<;>split<;>omega),auC,aua]
theorem C3(N:Nat){ws:List Int}(h: ∀x∈ws,eE x)(hl:ws.length≤1000000)(hN:1000000<N):jt N (ws.map cy)=some (Il ws.sum):=by
 unfold jt jt.b
 rw[auH]
 exact BH N h hl ws.length N 0 0 (by omega) (by omega) (by omega) (by simp)
end VM
end
section
namespace VM
open Go VM.F
theorem pv(N:Nat)(a lo hi:Int):xv N a lo hi=some (decide (lo≤a∧a≤hi)):=by
 unfold xv
 rw[bO,jY]
 by_cases h:lo≤a
 ·rw[auh h];congr 1;rw[avR];omega
 ·rw[aui h,auB (by omega)]
theorem BI(N:Nat)(a lo hi:Int):A4 N a lo hi=some (decide (lo≤a∧a≤hi)):=pv N a lo hi
def px(a b c d:Int):Prop:=(0≤a∧a≤3)∧(1≤b∧b≤1000000000000)∧(0≤c∧c≤1000000000)∧(0≤d∧d≤1000000000)
instance(a b c d:Int):Decidable (px a b c d):=by unfold px;infer_instance
def mE(l:aF)(i:Nat):Prop:=px (l.getD i aO).1 (l.getD i aO).2.1 (l.getD i aO).2.2.1 (l.getD i aO).2.2.2.1
instance(l:aF):DecidablePred (mE l):=fun i=>by unfold mE;infer_instance
def py(a b c d e f:Int):Prop:=0≤a∧(0≤b∧b≤4)∧(0≤c∧c≤1000000)∧(0≤d∧d≤1000000)∧(1≤e∧e≤4611686018427387904)∧0≤f
instance(a b c d e f:Int):Decidable (py a b c d e f):=by unfold py;infer_instance
def pz(c:ae):Prop:=py c.2.1 c.2.2.1 c.2.2.2.1 c.2.2.2.2.1 c.2.2.2.2.2.1 c.2.2.2.2.2.2.1
instance(c:ae):Decidable (pz c):=by unfold pz;infer_instance
def fm(c:ae):Bool:=decide (1≤c.1.length∧c.1.length≤6)&&(decide (∀j,j<c.1.length→mE c.1 j)&&decide (pz c))
theorem RQ(N:Nat)(hN:100≤N)(c:ae):xw N c=some (fm c):=by
 unfold xw xw.b fm
 rw[pv,at7,cond_not,ea]
 by_cases hl:1≤c.1.length∧c.1.length≤6
 ·rw[auh (by omega),auv hl,av3]
  refine eY (F:=fun n i=>xw.l4 N n c c.1 (c.1.length:Int) i) (mE c.1) (fun n i r hi hp hr=> ?_) (fun n=> ?_) N (by omega)
  ·unfold xw.l4 xw.cT
   rw[aC (by omega),aua,aI (by omega) (by omega),aua,aue,an (by omega) (by omega),aa]
   simp only[pv,at7,cond_not,ea]
   by_cases hP:mE c.1 i
   ·rw[auh hP];unfold mE px at hP
    repeat' split
    all_goals first|rfl|exact hr|omega
   ·rw[aui hP];unfold mE px at hP
    repeat' split
    all_goals first|rfl|exact hr|omega
  ·unfold xw.l4 xw.cT
   rw[az (by omega),auc]
   simp only[pv,at7,cond_not,ea,bO,jY]
   by_cases hP:pz c
   ·rw[auv hP];unfold pz py at hP
    repeat' split
    all_goals first|rfl|omega|(rw[auv (by omega)])
   ·rw[auB hP];unfold pz py at hP
    repeat' split
    all_goals first|rfl|omega|(rw[auB (by omega)])
 ·rw[aui (by omega),auB hl,awX]
theorem mF(N:Nat)(hN:100≤N)(c:ae):iG N c=some (fm c):=by
 unfold iG iG.b fm
 rw[ck,ck]
 by_cases hl:1≤c.1.length∧c.1.length≤6
 ·rw[aui (by omega),aui (by omega),auv hl,av3]
  refine eY (F:=fun n i=>iG.l4 N n c i) (mE c.1) (fun n i r hi hp hr=> ?_) (fun n=> ?_) N (by omega)
  ·unfold iG.l4 iG.cT
   rw[aC (by omega),aua,aI (by omega) (by omega),aua,aue,an (by omega) (by omega),aa]
   simp only[BI,at7,cond_not,ea]
   by_cases hP:mE c.1 i
   ·rw[auh hP];unfold mE px at hP
    repeat' split
    all_goals first|rfl|exact hr|omega
   ·rw[aui hP];unfold mE px at hP
    repeat' split
    all_goals first|rfl|exact hr|omega
  ·unfold iG.l4 iG.cT
   rw[az (by omega),auc]
   simp only[BI,at7,cond_not,ea,bO,jY]
   by_cases hP:pz c
   ·rw[auv hP];unfold pz py at hP
    repeat' split
    all_goals first|rfl|omega|(rw[auv (by omega)])
   ·rw[auB hP];unfold pz py at hP
    repeat' split
    all_goals first|rfl|omega|(rw[auB (by omega)])
 ·rw[auB hl,awX]
  by_cases h:(c.1.length:Int)<1
  ·rw[auh h]
  ·rw[aui h,auh (by omega)]
def eZ(a b:Int)(i:Nat)(c:Int):Prop:=1≤a∧a≤12∧1≤b∧b≤4∧(0<i→c<a)
instance(a b:Int)(i:Nat)(c:Int):Decidable (eZ a b i c):=by unfold eZ;infer_instance
def dA(m:ax)(i:Nat):Prop:=eZ (m.getD i ch).1 (m.getD i ch).2.1 i (m.getD (i-1) ch).1
instance(m:ax):DecidablePred (dA m):=fun i=>by unfold dA;infer_instance
def iR(m:ax):Bool:=decide (∀j,j<m.length→dA m j)&&true
theorem ze(N:Nat){m:ax}(hl:m.length≤100000)(hN:200000≤N):kJ N m=some (iR m):=by
 unfold kJ kJ.b
 refine eY (F:=fun n i=>kJ.l2 N n m m (m.length:Int) i) (dA m) (fun n i r hi hp hr=> ?_) (fun n=> ?_) N (by omega)
 ·unfold kJ.l2 kJ.ei
  rw[aC (by omega),aua,aI (by omega) (by omega),aua,aue,an (x:=(i:Int)+1) (by omega) (by omega),aa]
  by_cases h0:0<i
  ·have e:W .i64 ((i:Int)-1)=((i-1:Nat):Int):=by rw[an (by omega) (by omega)];omega
   dsimp only
   rw[aC (x:=0) (by omega),aua,e,aue,aI (by omega) (by omega),aua]
   simp only[ck,bO]
   by_cases hP:dA m i
   ·rw[auh hP];unfold dA eZ at hP
    repeat' split
    all_goals first|rfl|exact hr|omega
   ·rw[aui hP];unfold dA eZ at hP
    repeat' split
    all_goals first|rfl|exact hr|omega
  ·rw[az (x:=0) (by omega),auc]
   simp only[ck,bO]
   by_cases hP:dA m i
   ·rw[auh hP];unfold dA eZ at hP
    repeat' split
    all_goals first|rfl|exact hr|omega
   ·rw[aui hP];unfold dA eZ at hP
    repeat' split
    all_goals first|rfl|exact hr|omega
 ·unfold kJ.l2 kJ.ei
  rw[az (by omega),auc]
theorem nP(N:Nat){m:ax}(hl:m.length≤100000)(hN:200000≤N):jR N m=some (iR m):=by
 unfold jR jR.b
 refine eY (F:=fun n i=>jR.l2 N n m i) (dA m) (fun n i r hi hp hr=> ?_) (fun n=> ?_) N (by omega)
 ·unfold jR.l2 jR.ei
  rw[aC (by omega),aua,aI (by omega) (by omega),aua,aue,an (x:=(i:Int)+1) (by omega) (by omega),aa]
  by_cases h0:0<i
  ·have e:W .i64 ((i:Int)-1)=((i-1:Nat):Int):=by rw[an (by omega) (by omega)];omega
   dsimp only
   rw[aC (x:=0) (by omega),e,aue,aI (i:=((i-1:Nat):Int)) (by omega) (by omega)]
   simp only[ck,bO,aua]
   by_cases hP:dA m i
   ·rw[auh hP];unfold dA eZ at hP
    repeat' split
    all_goals first|rfl|exact hr|omega
   ·rw[aui hP];unfold dA eZ at hP
    repeat' split
    all_goals first|rfl|exact hr|omega
  ·rw[az (x:=0) (by omega)]
   simp only[ck,bO,aua,auc]
   by_cases hP:dA m i
   ·rw[auh hP];unfold dA eZ at hP
    repeat' split
    all_goals first|rfl|exact hr|omega
   ·rw[aui hP];unfold dA eZ at hP
    repeat' split
    all_goals first|rfl|exact hr|omega
 ·unfold jR.l2 jR.ei
  rw[az (by omega),auc]
end VM
end
section
namespace VM
open Go VM.F
def fV(k n:Int):Prop:=(1≤k∧k≤4∧n=0)∨(k=5∧1≤n∧n≤24)∨(6≤k∧k≤7∧1≤n∧n≤12)
instance(k n:Int):Decidable (fV k n):=by unfold fV;infer_instance
theorem Im(N:Nat)(k n:Int):Io N k n=some (decide (fV k n)):=by
 unfold Io
 simp only[aG,bO]
 simp only[jY,fK]
 by_cases hP:fV k n
 ·rw[auv hP];unfold fV at hP
  repeat' split
  all_goals first|rfl|omega|(rw[auv (by omega)])
 ·rw[auB hP];unfold fV at hP
  repeat' split
  all_goals first|rfl|omega|(rw[auB (by omega)])
theorem RS(N:Nat)(k n:Int):Ip N k n=some (decide (fV k n)):=by
 have:=Im N k n
 unfold Io at this
 unfold Ip
 exact this
def gW(a b c d:Int):Prop:=a<c∨(a=c∧b<d)
instance(a b c d:Int):Decidable (gW a b c d):=by unfold gW;infer_instance
def vz(k n a b:Int):Int:=if k=a then n-b else k-a
def A5(x:Int):Prop:= -1000000≤x∧x≤1000000
theorem zf(N:Nat){k n:Int}{r:cm}(h1:A5 k)(h2:A5 n)(h3:A5 r.1)(h4:A5 r.2.1):Iq N k n r=some (vz k n r.1 r.2.1):=by
 unfold Iq vz
 unfold A5 at*
 rw[cond_not,aG]
 split
 ·rw[an (by omega) (by omega)]
 ·rw[an (by omega) (by omega)]
theorem BJ(N:Nat){k n:Int}{r:cm}(h1:A5 k)(h2:A5 n)(h3:A5 r.1)(h4:A5 r.2.1):Lu N k n r=some (vz k n r.1 r.2.1):=zf N h1 h2 h3 h4
def iH(a b c:Int)(i:Nat)(d e:Int):Prop:=fV a b∧c≠0∧(0<i→gW d e a b)
instance(a b c:Int)(i:Nat)(d e:Int):Decidable (iH a b c i d e):=by unfold iH;infer_instance
def ig(l:aj)(i:Nat):Prop:=iH (l.getD i aW).1 (l.getD i aW).2.1 (l.getD i aW).2.2.1 i (l.getD (i-1) aW).1 (l.getD (i-1) aW).2.1
instance(l:aj):DecidablePred (ig l):=fun i=>by unfold ig;infer_instance
def fO(l:aj):Bool:=decide (∀j,j<l.length→ig l j)&&true
theorem C4(N:Nat){l:aj}(hl:l.length≤100000)(hN:200000≤N):vA N l=some (fO l):=by
 unfold vA vA.b
 refine eY (F:=fun n i=>vA.l2 N n l l (l.length:Int) i) (ig l) (fun n i r hi hp hr=> ?_) (fun n=> ?_) N (by omega)
 ·unfold vA.l2 vA.ei
  rw[aC (by omega),aua,aI (by omega) (by omega),aua,aue,an (x:=(i:Int)+1) (by omega) (by omega),aa,Im,at7,cond_not,ea]
  by_cases hK:fV (l.getD i aW).1 (l.getD i aW).2.1
  ·rw[auh hK]
   by_cases h0:0<i
   ·have hq:=hp (i-1) (by omega)
    have e:W .i64 ((i:Int)-1)=((i-1:Nat):Int):=by rw[an (by omega) (by omega)];omega
    dsimp only
    rw[aC (x:=0) (by omega),aua,e,aue,aI (by omega) (by omega),aua]
    unfold ig iH at hq
    have hq:=hq.1
    rw[zf N (by unfold fV at hK;unfold A5;omega) (by unfold fV at hK;unfold A5;omega) (by unfold fV at hq;unfold A5;omega) (by unfold fV at hq;unfold A5;omega),at7,aG,bO]
    by_cases hP:ig l i
    ·rw[auh hP];unfold ig iH gW at hP;unfold vz
     have Ir:=hP.2
     repeat' split
     all_goals first|rfl|exact hr|omega
    ·rw[aui hP];unfold ig iH gW at hP;unfold vz
     have Ir:=fun h=>hP ⟨hK,h⟩
     repeat' split
     all_goals first|rfl|exact hr|omega|(exfalso;exact Ir (by omega))
   ·rw[az (x:=0) (by omega),auc,aG]
    by_cases hP:ig l i
    ·rw[auh hP];unfold ig iH at hP
     rw[aui hP.2.1];exact hr
    ·rw[aui hP];unfold ig iH at hP
     have Ir:=fun h=>hP ⟨hK,h,fun h=>absurd h h0⟩
     split
     ·rfl
     ·exact absurd (by assumption) Ir
  ·rw[aui hK,aui (fun h=>hK (by unfold ig iH at h;exact h.1))]
 ·unfold vA.l2 vA.ei
  rw[az (by omega),auc]
theorem zg(N:Nat){l:aj}(hl:l.length≤100000)(hN:200000≤N):vB N l=some (fO l):=by
 unfold vB vB.b
 refine eY (F:=fun n i=>vB.l2 N n l i) (ig l) (fun n i r hi hp hr=> ?_) (fun n=> ?_) N (by omega)
 ·unfold vB.l2 vB.ei
  rw[aC (by omega),aua,aI (by omega) (by omega),aua,aue,an (x:=(i:Int)+1) (by omega) (by omega),aa,RS,at7,cond_not,ea]
  by_cases hK:fV (l.getD i aW).1 (l.getD i aW).2.1
  ·rw[auh hK]
   by_cases h0:0<i
   ·have e:W .i64 ((i:Int)-1)=((i-1:Nat):Int):=by rw[an (by omega) (by omega)];omega
    dsimp only
    rw[aC (x:=0) (by omega),e,aue,aI (i:=((i-1:Nat):Int)) (by omega) (by omega)]
    simp only[ck,bO,aG,aua]
    by_cases hP:ig l i
    ·rw[auh hP];unfold ig iH gW at hP
     have Ir:=hP.2
     repeat' split
     all_goals first|rfl|exact hr|omega
    ·rw[aui hP];unfold ig iH gW at hP
     have Ir:=fun h=>hP ⟨hK,h⟩
     repeat' split
     all_goals first|rfl|exact hr|omega|(exfalso;exact Ir (by omega))
   ·rw[az (x:=0) (by omega)]
    simp only[ck,bO,aG,aua,auc]
    by_cases hP:ig l i
    ·rw[auh hP];unfold ig iH at hP
     rw[aui hP.2.1];exact hr
    ·rw[aui hP];unfold ig iH at hP
     have Ir:=fun h=>hP ⟨hK,h,fun h=>absurd h h0⟩
     split
     ·rfl
     ·exact absurd (by assumption) Ir
  ·rw[aui hK,aui (fun h=>hK (by unfold ig iH at h;exact h.1))];rfl
 ·unfold vB.l2 vB.ei
  rw[az (by omega),auc]
end VM
end
section
namespace VM
open Go VM.F
def bT(a b:Int):Prop:=0≤a∧a≤24∧0≤b∧b<6
instance(a b:Int):Decidable (bT a b):=by unfold bT;infer_instance
theorem Ka(N:Nat)(a b:Int):Og N a b=some (decide (bT a b)):=by
 unfold Og
 simp only[bO]
 simp only[ma]
 by_cases hP:bT a b
 ·rw[auv hP];unfold bT at hP
  repeat' split
  all_goals first|rfl|omega|(rw[auv (by omega)])
 ·rw[auB hP];unfold bT at hP
  repeat' split
  all_goals first|rfl|omega|(rw[auB (by omega)])
def nQ(q:Int):Prop:=q≠ -9223372036854775808
instance(q:Int):Decidable (nQ q):=by unfold nQ;infer_instance
theorem qZ(N:Nat)(q:Int):Lv N q=some (decide (nQ q)):=by
 unfold Lv nQ
 rw[fK]
 by_cases h:q= -9223372036854775808<;>simp[h]
def iI(a b c:Int)(i:Nat)(d e:Int):Prop:=bT a b∧c≠0∧nQ c∧(0<i→gW d e a b)
instance(a b c:Int)(i:Nat)(d e:Int):Decidable (iI a b c i d e):=by unfold iI;infer_instance
def ij(l:aj)(i:Nat):Prop:=iI (l.getD i aW).1 (l.getD i aW).2.1 (l.getD i aW).2.2.1 i (l.getD (i-1) aW).1 (l.getD (i-1) aW).2.1
instance(l:aj):DecidablePred (ij l):=fun i=>by unfold ij;infer_instance
def cG(l:aj):Bool:=decide (∀j,j<l.length→ij l j)&&true
theorem uj(N:Nat){l:aj}(hl:l.length≤100000)(hN:200000≤N):jS N l=some (cG l):=by
 unfold jS jS.b
 refine eY (F:=fun n i=>jS.l2 N n l l (l.length:Int) i) (ij l) (fun n i r hi hp hr=> ?_) (fun n=> ?_) N (by omega)
 ·unfold jS.l2 jS.ei
  rw[aC (by omega),aua,aI (by omega) (by omega),aua,aue,an (x:=(i:Int)+1) (by omega) (by omega),aa,Ka,at7,cond_not,ea,qZ,at7,cond_not,ea]
  by_cases hK:bT (l.getD i aW).1 (l.getD i aW).2.1
  ·rw[auh hK]
   by_cases h0:0<i
   ·have hq:=hp (i-1) (by omega)
    have e:W .i64 ((i:Int)-1)=((i-1:Nat):Int):=by rw[an (by omega) (by omega)];omega
    dsimp only
    rw[aC (x:=0) (by omega),aua,e,aue,aI (by omega) (by omega),aua]
    unfold ij iI at hq
    have hq:=hq.1
    rw[BJ N (by unfold bT at hK;unfold A5;omega) (by unfold bT at hK;unfold A5;omega) (by unfold bT at hq;unfold A5;omega) (by unfold bT at hq;unfold A5;omega),at7,aG,bO]
    by_cases hP:ij l i
    ·rw[auh hP];unfold ij iI gW at hP;unfold vz
     obtain⟨_,hP1,Ir,hP3⟩:=hP
     rw[auh Ir]
     repeat' split
     all_goals first|rfl|exact hr|omega
    ·rw[aui hP];unfold ij iI gW at hP;unfold vz
     have Ir:=fun h1 h2 h3=>hP ⟨hK,h1,h2,h3⟩
     repeat' split
     all_goals first|rfl|exact hr|(exfalso;exact Ir (by assumption) (by assumption) (by omega))|omega
   ·rw[az (x:=0) (by omega),auc,aG]
    by_cases hP:ij l i
    ·rw[auh hP];unfold ij iI at hP
     rw[aui hP.2.1,auh hP.2.2.1];exact hr
    ·rw[aui hP];unfold ij iI at hP
     have Ir:=fun h1 h2=>hP ⟨hK,h1,h2,fun h=>absurd h h0⟩
     split
     ·rfl
     ·split
      ·exact(Ir (by assumption) (by assumption)).elim
      ·rfl
  ·rw[aui hK,aui (fun h=>hK (by unfold ij iI at h;exact h.1))]
 ·unfold jS.l2 jS.ei
  rw[az (by omega),auc]
theorem lX(N:Nat){l:aj}(hl:l.length≤100000)(hN:200000≤N):tw N l=some (cG l):=by
 unfold tw tw.b
 refine eY (F:=fun n i=>tw.l2 N n l i) (ij l) (fun n i r hi hp hr=> ?_) (fun n=> ?_) N (by omega)
 ·unfold tw.l2 tw.ei
  rw[aC (by omega),aua,aI (by omega) (by omega),aua,aue,an (x:=(i:Int)+1) (by omega) (by omega),aa]
  by_cases h0:0<i
  ·have e:W .i64 ((i:Int)-1)=((i-1:Nat):Int):=by rw[an (by omega) (by omega)];omega
   dsimp only
   rw[aC (x:=0) (y:=(i:Int)) (by omega),e,aue,aI (i:=((i-1:Nat):Int)) (by omega) (by omega)]
   simp only[ck,bO,aG,aua]
   by_cases hP:ij l i
   ·rw[auh hP];unfold ij iI gW nQ bT at hP
    repeat' split
    all_goals first|rfl|exact hr|omega
   ·rw[aui hP];unfold ij iI gW nQ bT at hP
    repeat' split
    all_goals first|rfl|exact hr|omega|(exfalso;exact hP (by omega))
  ·rw[az (x:=0) (y:=(i:Int)) (by omega)]
   simp only[ck,bO,aG,aua,auc]
   by_cases hP:ij l i
   ·rw[auh hP];unfold ij iI gW nQ bT at hP
    repeat' split
    all_goals first|rfl|exact hr|omega
   ·rw[aui hP];unfold ij iI gW nQ bT at hP
    repeat' split
    all_goals first|rfl|exact hr|omega|(exfalso;exact hP (by omega))
 ·unfold tw.l2 tw.ei
  rw[az (by omega),auc]
theorem ec(a b:Int)(y:Bool):cond (bR a b) (some y) (some false)=some (decide (a≤b)&&y):=by
 rw[bO];by_cases h:a≤b<;>simp[h]
theorem zh(a b:Int)(y:Bool):cond (aH a b) (some y) (some false)=some (decide (a<b)&&y):=by
 rw[ck];by_cases h:a<b<;>simp[h]
theorem zi(a b:Int)(y:Bool):cond (ay a b) (some y) (some false)=some (decide (a=b)&&y):=by
 rw[aG];by_cases h:a=b<;>simp[h]
theorem vC(a b:Int)(y z:Bool):cond (ay a b) (some y) (some z)=some ((decide (a=b)&&y)||(!decide (a=b)&&z)):=by
 rw[aG];by_cases h:a=b<;>simp[h]
def ta(a b c d e f:Int):Prop:=(1≤a∧a≤1099511627776)∧(1≤b∧b≤24)∧(0≤c∧c<6)∧(d=1∨d=2)∧(1≤e∧e≤1000000000)∧(1≤f∧f≤1000000000000)
instance(a b c d e f:Int):Decidable (ta a b c d e f):=by unfold ta;infer_instance
def q3(o:fZ):Prop:=ta o.1 o.2.1 o.2.2.1 o.2.2.2.1 o.2.2.2.2.1 o.2.2.2.2.2.1
instance(o:fZ):Decidable (q3 o):=by unfold q3;infer_instance
theorem Zz(N:Nat)(o:fZ):RT N o=some (decide (q3 o)):=by
 unfold RT
 rw[jY o.2.2.2.2.2.1]
 rw[ec,ec,ec,zi,vC,zh,ec,ec,ec,ec,ec]
 congr 1
 rw[avY,avf]
 unfold q3 ta
 simp only[aus,avM,avW,aww,awR]
 omega
end VM
end
section
namespace VM
open Go VM.F
theorem BK(N:Nat)(p:Int):F85 N p=some (decide (1≤p∧p≤1000000000000)):=by
 unfold F85
 rw[jY p,ec];congr 1
 rw[avY];simp only[aus,aww]
theorem iS(N:Nat)(p:Int):xx N p=some (decide (1≤p∧p≤1000000000000)):=BK N p
theorem ya(N:Nat)(o:fZ):Is N o=some (decide (q3 o)):=by
 unfold Is
 rw[iS,at7]
 repeat (first|rw[ec]|rw[zh]|rw[zi]|rw[vC])
 congr 1
 rw[avY,avf]
 unfold q3 ta
 simp only[aus,avM,avW,aww,awR]
 omega
def oO(i:Nat)(a b:Int):Prop:=0<i→a<b
instance(i:Nat)(a b:Int):Decidable (oO i a b):=by unfold oO;infer_instance
def pA(l:ba)(i:Nat):Prop:=q3 (l.getD i eK)∧oO i (l.getD (i-1) eK).1 (l.getD i eK).1
instance(l:ba):DecidablePred (pA l):=fun i=>by unfold pA;infer_instance
def ju(l:ba):Bool:=decide (∀j,j<l.length→pA l j)&&decide (l.length≤32)
theorem Lw(N:Nat){l:ba}(hl:l.length≤100000)(hN:200000≤N):xy N l=some (ju l):=by
 unfold xy xy.b
 refine eY (F:=fun n i=>xy.l2 N n l l (l.length:Int) i) (pA l) (fun n i r hi hp hr=> ?_) (fun n=> ?_) N (by omega)
 ·unfold xy.l2 xy.ei
  rw[aC (by omega),aua,aI (by omega) (by omega),aua,aue,an (x:=(i:Int)+1) (by omega) (by omega),aa,Zz,at7,cond_not,ea]
  by_cases hK:q3 (l.getD i eK)
  ·rw[auh hK]
   by_cases h0:0<i
   ·have e:W .i64 ((i:Int)-1)=((i-1:Nat):Int):=by rw[an (by omega) (by omega)];omega
    dsimp only
    rw[aC (x:=0) (by omega),aua,e,aue,aI (by omega) (by omega),aua,bO]
    by_cases hP:pA l i
    ·rw[auh hP,aui (by have h2:=hP.2;unfold oO at h2;omega)];exact hr
    ·rw[aui hP,auh]
     have h2: ¬oO i (l.getD (i-1) eK).1 (l.getD i eK).1:=fun h=>hP ⟨hK,h⟩
     unfold oO at h2
     omega
   ·rw[az (x:=0) (by omega),auc,auh ⟨hK,fun h=>absurd h h0⟩];exact hr
  ·rw[aui hK,aui (fun h=>hK h.1)]
 ·unfold xy.l2 xy.ei
  rw[az (by omega),auc,jY]
  congr 1;rw[avR];omega
theorem kg(N:Nat){l:ba}(hl:l.length≤100000)(hN:200000≤N):jc N l=some (ju l):=by
 unfold jc jc.b
 by_cases h32:32<l.length
 ·rw[aC (by omega),aua];unfold ju
  rw[auB (p:=l.length≤32) (by omega),axM]
 rw[az (by omega),auc]
 have:=eY (F:=fun n i=>jc.l4 N n l i) (e:=true) (pA l) (fun n i r hi hp hr=> ?_) (fun n=> ?_) N (show l.length<N by omega)
 ·refine Eq.trans this ?_
  unfold ju
  rw[auv (p:=l.length≤32) (by omega)]
 ·unfold jc.l4 jc.cT
  rw[aC (by omega),aua,aI (by omega) (by omega),aua,aue,an (x:=(i:Int)+1) (by omega) (by omega),aa,ya,at7,cond_not,ea]
  by_cases hK:q3 (l.getD i eK)
  ·rw[auh hK]
   by_cases h0:0<i
   ·have e:W .i64 ((i:Int)-1)=((i-1:Nat):Int):=by rw[an (by omega) (by omega)];omega
    dsimp only
    rw[aC (x:=0) (by omega),aua,aua,e,aue,aI (by omega) (by omega),aua,bO]
    by_cases hP:pA l i
    ·rw[auh hP,aui (by have h2:=hP.2;unfold oO at h2;omega)];exact hr
    ·rw[aui hP,auh]
     have h2: ¬oO i (l.getD (i-1) eK).1 (l.getD i eK).1:=fun h=>hP ⟨hK,h⟩
     unfold oO at h2
     omega
   ·rw[az (x:=0) (by omega),auc,auh ⟨hK,fun h=>absurd h h0⟩];exact hr
  ·rw[aui hK,aui (fun h=>hK h.1)]
 ·unfold jc.l4 jc.cT
  rw[az (by omega),auc]
end VM
end
section
namespace VM
open Go VM.F
def gJ(id:Int):ax→Int
 |[]=>0
 |x::t=>if x.1=id then x.2.1 else gJ id t
def uk(id:Int):aF→bQ×Bool
 |[]=>(aO,false)
 |x::t=>if x.1=id then(x,true)else uk id t
def pB(id:Int):aF→Int
 |[]=>0
 |x::t=>if x.2.1=id then(if x.2.2.1=1 then x.1 else pB id t)else pB id t
theorem um(id:Int)(x:Oh)(t:ax):gJ id (x::t)=if x.1=id then x.2.1 else gJ id t:=rfl
theorem tb(id:Int)(x:bQ)(t:aF):uk id (x::t)=if x.1=id then(x,true)else uk id t:=rfl
theorem wR(id:Int)(x:bQ)(t:aF):pB id (x::t)=if x.2.1=id then(if x.2.2.1=1 then x.1 else pB id t)else pB id t:=rfl
theorem E8(N:Nat){m:ax}(hl:m.length≤100000)(hN:200000≤N)(id:Int):vd.l4 N N id m (m.length:Int) 0=some (gJ id m):=by
 refine ui m ch (fun n i=>vd.l4 N n id m (m.length:Int) i) (fun l=>some (gJ id l)) (fun n i hi hr=> ?_) (fun n=> ?_) N (by omega)
 ·unfold vd.l4 vd.cT
  rw[aC (by omega),aua,aI (by omega) (by omega),aua,aue,an (x:=(i:Int)+1) (by omega) (by omega),aa,hr,aG]
  rw[um]
  split<;>rfl
 ·unfold vd.l4 vd.cT
  rw[az (by omega),auc];rfl
theorem ki(N:Nat){m:ax}(hl:m.length≤100000)(hN:200000≤N)(id:Int):jd N m id=some (gJ id m):=by
 unfold jd jd.b
 refine ui m ch (fun n i=>jd.l2 N n m id i) (fun l=>some (gJ id l)) (fun n i hi hr=> ?_) (fun n=> ?_) N (by omega)
 ·unfold jd.l2 jd.ei
  rw[aC (by omega),aua,aI (by omega) (by omega),aua,aua,aue,an (x:=(i:Int)+1) (by omega) (by omega),aa,hr,aG]
  rw[um]
  split<;>rfl
 ·unfold jd.l2 jd.ei
  rw[az (by omega),auc];rfl
def mG(m:ax)(id:Int):Int:=if iR m then gJ id m else 0
theorem BL(N:Nat){m:ax}(hl:m.length≤100000)(hN:200000≤N)(id:Int):vd N m id=some (mG m id):=by
 unfold vd vd.b mG
 rw[ze N hl hN,at7,cond_not,E8 N hl hN]
 cases iR m<;>rfl
theorem zj(N:Nat){m:ax}(hl:m.length≤100000)(hN:200000≤N)(id:Int):uq N m id=some (mG m id):=by
 unfold uq mG
 rw[nP N hl hN,at7,cond_not,ki N hl hN]
 cases iR m<;>rfl
theorem Lx(N:Nat){m:aF}(hl:m.length≤100000)(hN:200000≤N)(id:Int):kK.l4 N N id aO m (m.length:Int) 0=some (uk id m):=by
 refine ui m aO (fun n i=>kK.l4 N n id aO m (m.length:Int) i) (fun l=>some (uk id l)) (fun n i hi hr=> ?_) (fun n=> ?_) N (by omega)
 ·unfold kK.l4 kK.cT
  rw[aC (by omega),aua,aI (by omega) (by omega),aua,aue,an (x:=(i:Int)+1) (by omega) (by omega),aa,hr,aG]
  rw[tb]
  split<;>rfl
 ·unfold kK.l4 kK.cT
  rw[az (by omega),auc];rfl
theorem ur(N:Nat){m:aF}(hl:m.length≤100000)(hN:200000≤N)(id:Int):jT N m id=some (uk id m):=by
 unfold jT jT.b
 refine ui m aO (fun n i=>jT.l2 N n m id aO i) (fun l=>some (uk id l)) (fun n i hi hr=> ?_) (fun n=> ?_) N (by omega)
 ·unfold jT.l2 jT.ei
  rw[aC (by omega),aua,aI (by omega) (by omega),aua,aua,aue,an (x:=(i:Int)+1) (by omega) (by omega),aa,hr,aG]
  rw[tb]
  split<;>rfl
 ·unfold jT.l2 jT.ei
  rw[az (by omega),auc];rfl
theorem E9(N:Nat){m:aF}(hl:m.length≤100000)(hN:200000≤N)(id:Int):tc.l4 N N m id 0=some (pB id m):=by
 refine ui m aO (fun n i=>tc.l4 N n m id i) (fun l=>some (pB id l)) (fun n i hi hr=> ?_) (fun n=> ?_) N (by omega)
 ·unfold tc.l4 tc.cT
  rw[aC (by omega),aua,aI (by omega) (by omega)]
  simp only[aua]
  rw[aue,an (x:=(i:Int)+1) (by omega) (by omega),aa,hr,aG,aG]
  rw[wR]
  split
  ·split<;>rfl
  ·rfl
 ·unfold tc.l4 tc.cT
  rw[az (by omega),auc];rfl
end VM
end
section
namespace VM
open Go VM.F
def eo(a b:Int):Prop:=a=b
instance(a b:Int):Decidable (eo a b):=by unfold eo;infer_instance
def sK(l:aF)(k:Nat)(m:Int):Prop:=eo (l.getD k aO).2.2.1 1∧eo (l.getD k aO).2.1 m
instance(l:aF)(k:Nat)(m:Int):Decidable (sK l k m):=by unfold sK;infer_instance
def iy(l:aF)(i:Nat)(m:Int):Bool:=(List.range i).any fun k=>decide (sK l k m)
theorem Fa{l:aF}{i:Nat}{m:Int}:iy l i m=true↔ ∃k,k<i∧sK l k m:=by
 unfold iy
 rw[aw3]
 simp only[awl,avf]
theorem pC(l:aF)(i:Nat)(m:Int):iy l (i+1) m=(iy l i m||decide (sK l i m)):=by
 unfold iy
 rw[axG,List.any_append];simp
def jv(a b c d:Int):Prop:=(1≤a∧a≤24)∧(1≤b∧b≤12)∧(c=1∨c=2)∧(0≤d∧d≤1000000000000)
instance(a b c d:Int):Decidable (jv a b c d):=by unfold jv;infer_instance
def gp(l:aF)(i:Nat):Prop:= ¬(eo (l.getD i aO).2.2.1 1∧iy l i (l.getD i aO).2.1=true)
instance(l:aF)(i:Nat):Decidable (gp l i):=by unfold gp;infer_instance
def uu(l:aF)(i:Nat):Prop:=jv (l.getD i aO).1 (l.getD i aO).2.1 (l.getD i aO).2.2.1 (l.getD i aO).2.2.2.1∧oO i (l.getD (i-1) aO).1 (l.getD i aO).1∧gp l i
instance(l:aF):DecidablePred (uu l):=fun i=>by unfold uu;infer_instance
def lf(l:aF):Bool:=decide (∀j,j<l.length→uu l j)&&true
def dj(l:aF)(i:Nat):List Bool:=(List.range 13).map fun(m:Nat)=>iy l i (m:Int)
theorem Ly{l:aF}{i:Nat}{b:Int}(h0:0≤b)(h1:b<13):(dj l i).getD b.toNat false=iy l i b:=by
 unfold dj
 rw[aub,avw,List.getElem?_range (by omega)]
 show iy l i ((b.toNat:Nat):Int)=_
 rw[avp h0]
theorem Fb{l:aF}{i:Nat}(h: ¬eo (l.getD i aO).2.2.1 1):dj l (i+1)=dj l i:=by
 unfold dj
 refine avJ fun m _=> ?_
 rw[pC,auB (fun h'=>h h'.1),awI]
theorem It{l:aF}{i:Nat}(h:eo (l.getD i aO).2.2.1 1)(h0:(0:Int)≤(l.getD i aO).2.1):(dj l i).set ((l.getD i aO).2.1:Int).toNat true=dj l (i+1):=by
 refine List.ext_getElem (by unfold dj;simp) fun k h1 h2=> ?_
 unfold dj at*
 rw[List.getElem_set]
 simp only[List.getElem_map,axg]
 rw[pC]
 by_cases hk:((l.getD i aO).2.1:Int).toNat=k
 ·rw[auh hk,auv (show sK l i (k:Int)from⟨h,by unfold eo;omega⟩),Bool.or_true]
 ·rw[aui hk,auB (fun h':sK l i (k:Int)=>hk (by have:=h'.2;unfold eo at this;omega)),awI]
theorem Kb(N:Nat){l:aF}(hl:l.length≤100000)(hN:200000≤N):je N l=some (lf l):=by
 unfold je je.b
 have h0:(List.replicate 13 false:List Bool)=dj l 0:=by unfold dj iy;rfl
 rw[h0]
 have:=eY (F:=fun n i=>je.l3 N n l (dj l i.toNat) l (l.length:Int) i) (e:=true) (uu l) (fun n i r hi hp hr=> ?_) (fun n=> ?_) N (show l.length<N by omega)
 ·exact this
 ·simp only[aue]at hr ⊢
  unfold je.l3 je.ix
  rw[aC (by omega),aua,aI (by omega) (by omega),aua]
  simp only[aue]
  rw[an (x:=(i:Int)+1) (by omega) (by omega),aa]
  by_cases hF:jv (l.getD i aO).1 (l.getD i aO).2.1 (l.getD i aO).2.2.1 (l.getD i aO).2.2.2.1
  ·have hF':=hF
   unfold jv at hF'
   have hT:cond (ay (l.getD i aO).2.2.1 1) (cond (aK (l.getD i aO).2.1 13) (cond (List.getD (dj l i) (l.getD i aO).2.1.toNat false) (some false) (cond (aK (l.getD i aO).2.1 13) (je.l3 N n l (List.set (dj l i) (l.getD i aO).2.1.toNat true) l (l.length:Int) ((i+1:Nat):Int)) none)) none) (je.l3 N n l (dj l i) l (l.length:Int) ((i+1:Nat):Int))=if gp l i then r else some false:=by
    rw[aG]
    by_cases hk:eo (l.getD i aO).2.2.1 1
    ·have AN:=hk
     unfold eo at AN
     rw[auh AN,aI (by omega) (by omega),aua,aua,Ly (by omega) (by omega),It hk (by omega),hr]
     by_cases ho:iy l i (l.getD i aO).2.1=true
     ·have ot: ¬gp l i:=fun h=>h ⟨hk,ho⟩
      rw[aui ot,ho];rfl
     ·have ot:gp l i:=fun h=>ho h.2
      rw[auh ot,avX.2 ho];rfl
    ·have AN:=hk
     unfold eo at AN
     rw[aui AN,auh (show gp l i from fun h=>hk h.1),←Fb hk,hr]
   have hP:uu l i↔oO i (l.getD (i-1) aO).1 (l.getD i aO).1∧gp l i:=⟨fun h=>h.2,fun h=>⟨hF,h⟩⟩
   have hD:(if uu l i then r else some false)=if oO i (l.getD (i-1) aO).1 (l.getD i aO).1 then(if gp l i then r else some false)else some false:=by
    by_cases h1:oO i (l.getD (i-1) aO).1 (l.getD i aO).1<;>by_cases h2:gp l i<;>simp[hP,h1,h2]
   rw[hD]
   rw[hT]
   rw[az (by omega),auc,az (by omega),auc,az (by omega),auc,az (by omega),auc,az (x:=(l.getD i aO).2.2.2.1) (by omega),az (x:=1000000000000) (by omega)]
   simp only[auc]
   have hm: ∀{α:Type} (x:α) (y:α),cond (!ay (l.getD i aO).2.2.1 1) (cond (!ay (l.getD i aO).2.2.1 2) y x) x=x:=by
    intro α x y
    rcases hF'.2.2.1 with h|h
    ·rw[bW h];rfl
    ·rw[bW (y:=2) h];cases ay (l.getD i aO).2.2.1 1<;>rfl
   rw[hm]
   by_cases h0:0<i
   ·have e:W .i64 ((i:Int)-1)=((i-1:Nat):Int):=by rw[an (by omega) (by omega)];omega
    rw[aC (x:=0) (by omega),aua,e,aue,aI (by omega) (by omega),aua,bO]
    by_cases h1:oO i (l.getD (i-1) aO).1 (l.getD i aO).1
    ·rw[auh h1,aui (by unfold oO at h1;omega)]
    ·rw[aui h1,auh (by unfold oO at h1;omega)]
   ·rw[az (x:=0) (by omega),auc,auh (show oO i (l.getD (i-1) aO).1 (l.getD i aO).1 from fun h=>absurd h h0)]
  ·rw[aui (fun h=>hF h.1)]
   unfold jv at hF
   generalize cond (ay (l.getD i aO).2.2.1 1) (cond (aK (l.getD i aO).2.1 13) (cond (List.getD (dj l i) (l.getD i aO).2.1.toNat false) (some false) (cond (aK (l.getD i aO).2.1 13) (je.l3 N n l (List.set (dj l i) (l.getD i aO).2.1.toNat true) l (l.length:Int) ((i+1:Nat):Int)) none)) none) (je.l3 N n l (dj l i) l (l.length:Int) ((i+1:Nat):Int))=t
   generalize cond (aH 0 (i:Int)) _ _=u
   simp only[cond_not,ck,aG]
   repeat' split
   all_goals first|rfl|omega
 ·unfold je.l3 je.ix
  rw[az (by omega),auc]
end VM
end
section
namespace VM
open Go VM.F
theorem vD(N:Nat)(K:aF→Int→Option Bool){l:aF}(hl:l.length≤100000){i:Nat}(hi:i<l.length): ∀(m n k:Nat),i-k≤m→m<n→k≤i→(eo (l.getD i aO).2.2.1 1→iy l k (l.getD i aO).2.1=false)→
  iz.l8 N K n l (i:Int) (l.getD i aO) (k:Int)=if gp l i then K l ((i+1:Nat):Int)else some false
 |m,0,k,_,hn,_,_=>by omega
 |m,n+1,k,hm,hn,hk,h=>by
  unfold iz.l8 iz.yb
  by_cases xU:k<i
  ·rw[aC (by omega),aua,aI (by omega) (by omega),aua,aua,aue,an (x:=(k:Int)+1) (by omega) (by omega),aa,aG,aG,aG]
   by_cases h1:eo (l.getD i aO).2.2.1 1
   ·have lE:=h1
    unfold eo at lE
    rw[auh lE]
    by_cases h2:sK l k (l.getD i aO).2.1
    ·have sJ:=h2
     unfold sK eo at sJ
     have ot: ¬gp l i:=fun h3=>h3 ⟨h1,Fa.2 ⟨k,xU,h2⟩⟩
     rw[auh sJ.1,auh sJ.2,aui ot]
    ·have s9:=vD N K hl hi (m-1) n (k+1) (by omega) (by omega) (by omega) (fun _=>by rw[pC,h h1,auB h2];rfl)
     split
     ·split
      ·rename_i h3 h4
       exact absurd (show sK l k (l.getD i aO).2.1 from⟨h3,h4⟩) h2
      ·exact s9
     ·exact s9
   ·have lE:=h1
    unfold eo at lE
    rw[aui lE]
    exact vD N K hl hi (m-1) n (k+1) (by omega) (by omega) (by omega) (fun h=>absurd h h1)
  ·have:k=i:=by omega
   subst this
   have ot:gp l k:=fun h3=>by rw[h h3.1]at h3;exact nomatch h3.2
   rw[az (by omega),auc,auh ot,an (x:=(k:Int)+1) (by omega) (by omega)];rfl
set_option maxHeartbeats 2000000 in
theorem uv(N:Nat){l:aF}(hl:l.length≤100000)(hN:200000≤N):iz N l=some (lf l):=by
 unfold iz iz.b
 refine eY (F:=fun n i=>iz.l2 N n l i) (uu l) (fun n i r hi hp hr=> ?_) (fun n=> ?_) N (by omega)
 ·unfold iz.l2 iz.ei
  have hT:iz.j7 N (iz.l2 N n) l (i:Int) (l.getD i aO)=if gp l i then r else some false:=by
   unfold iz.j7 iz.Ig
   have:=vD N (iz.l2 N n) hl hi i N 0 (by omega) (by omega) (by omega) (fun _=>rfl)
   rw[hr]at this
   exact this
  rw[aC (by omega),aua,aI (by omega) (by omega),aua]
  simp only[aue]
  rw[hT]
  have hD:(if uu l i then r else some false)=if jv (l.getD i aO).1 (l.getD i aO).2.1 (l.getD i aO).2.2.1 (l.getD i aO).2.2.2.1∧oO i (l.getD (i-1) aO).1 (l.getD i aO).1 then(if gp l i then r else some false)else some false:=by
   unfold uu
   by_cases h1:oO i (l.getD (i-1) aO).1 (l.getD i aO).1<;>by_cases h2:gp l i<;>by_cases h3:jv (l.getD i aO).1 (l.getD i aO).2.1 (l.getD i aO).2.2.1 (l.getD i aO).2.2.2.1<;>simp[h1,h2,h3]
  rw[hD]
  generalize (if gp l i then r else some false)=t
  by_cases h0:0<i
  ·have e:W .i64 ((i:Int)-1)=((i-1:Nat):Int):=by rw[an (by omega) (by omega)];omega
   rw[aC (x:=0) (y:=(i:Int)) (by omega),e]
   simp only[aua,aue]
   rw[aI (i:=((i-1:Nat):Int)) (by omega) (by omega)]
   simp only[cond_not,ck,bO,aG,aua]
   by_cases hP:jv (l.getD i aO).1 (l.getD i aO).2.1 (l.getD i aO).2.2.1 (l.getD i aO).2.2.2.1∧oO i (l.getD (i-1) aO).1 (l.getD i aO).1
   ·rw[auh hP];unfold jv oO at hP
    repeat' split
    all_goals first|rfl|omega
   ·rw[aui hP];unfold jv oO at hP
    repeat' split
    all_goals first|rfl|omega
  ·rw[az (x:=0) (y:=(i:Int)) (by omega)]
   simp only[cond_not,ck,bO,aG,aua,auc]
   by_cases hP:jv (l.getD i aO).1 (l.getD i aO).2.1 (l.getD i aO).2.2.1 (l.getD i aO).2.2.2.1∧oO i (l.getD (i-1) aO).1 (l.getD i aO).1
   ·rw[auh hP];unfold jv oO at hP
    repeat' split
    all_goals first|rfl|omega
   ·rw[aui hP];unfold jv oO at hP
    repeat' split
    all_goals first|rfl|omega
 ·unfold iz.l2 iz.ei
  rw[az (by omega),auc]
end VM
end
section
namespace VM
open Go VM.F
def jw(a:aF)(id:Int):bQ×Bool:=if lf a then uk id a else(aO,false)
theorem RU(N:Nat){a:aF}(hl:a.length≤100000)(hN:200000≤N)(id:Int):kK N a id=some (jw a id):=by
 unfold kK kK.b jw
 rw[Kb N hl hN,at7,cond_not,Lx N hl hN]
 cases lf a<;>rfl
theorem Fc(N:Nat){a:aF}(hl:a.length≤100000)(hN:200000≤N)(id:Int):zk N a id=some (jw a id):=by
 unfold zk jw
 rw[uv N hl hN,at7,cond_not,ur N hl hN]
 cases lf a<;>rfl
def yc(a:aF)(id:Int):Int:=if lf a then pB id a else 0
theorem vE(N:Nat){a:aF}(hl:a.length≤100000)(hN:200000≤N)(id:Int):tc N a id=some (yc a id):=by
 unfold tc tc.b yc
 rw[uv N hl hN,at7,cond_not,E9 N hl hN]
 cases lf a<;>rfl
def gK(m:ax)(a:aF)(i:Nat):Prop:= ¬eo (gJ (a.getD i aO).2.1 m) 0
instance(m:ax)(a:aF):DecidablePred (gK m a):=fun i=>by unfold gK;infer_instance
def q4(m:ax)(a:aF):Bool:=iR m&&(lf a&&(decide (∀j,j<a.length→gK m a j)&&true))
theorem RV(N:Nat){m:ax}{a:aF}(hm:m.length≤100000)(hl:a.length≤100000)(hN:200000≤N):xz N m a=some (q4 m a):=by
 unfold xz xz.b q4
 rw[ze N hm hN,at7,cond_not,Kb N hl hN,at7,cond_not]
 cases hM:iR m
 ·rfl
 cases lf a
 ·rfl
 rw[av3,av3,aua,aua]
 refine eY (F:=fun n i=>xz.l4 N n m a (a.length:Int) i) (gK m a) (fun n i r hi hp hr=> ?_) (fun n=> ?_) N (by omega)
 ·unfold xz.l4 xz.cT
  rw[aC (by omega),aua,aI (by omega) (by omega),aua,aue,an (x:=(i:Int)+1) (by omega) (by omega),aa,BL N hm hN,at7,aG]
  unfold mG
  rw[hM,auh rfl]
  by_cases hP:gK m a i
  ·rw[auh hP,aui (show ¬((gJ (a.getD i aO).2.1 m:Int)=0)from fun h=>hP h)];exact hr
  ·rw[aui hP,auh (show(gJ (a.getD i aO).2.1 m:Int)=0 by unfold gK at hP;exact axu.1 hP)]
 ·unfold xz.l4 xz.cT
  rw[az (by omega),auc]
theorem zl(N:Nat){m:ax}{a:aF}(hm:m.length≤100000)(hl:a.length≤100000)(hN:200000≤N):kj N m a=some (q4 m a):=by
 unfold kj kj.b q4
 rw[nP N hm hN,at7,cond_not,uv N hl hN,at7,cond_not]
 cases hM:iR m
 ·rfl
 cases lf a
 ·rfl
 rw[av3,av3,aua,aua]
 refine eY (F:=fun n i=>kj.l4 N n m a i) (gK m a) (fun n i r hi hp hr=> ?_) (fun n=> ?_) N (by omega)
 ·unfold kj.l4 kj.cT
  rw[aC (by omega),aua,aI (by omega) (by omega),aua,aue,an (x:=(i:Int)+1) (by omega) (by omega),aa,ki N hm hN,at7,aG]
  by_cases hP:gK m a i
  ·rw[auh hP,aui (show ¬((gJ (a.getD i aO).2.1 m:Int)=0)from fun h=>hP h)];exact hr
  ·rw[aui hP,auh (show(gJ (a.getD i aO).2.1 m:Int)=0 by unfold gK at hP;exact axu.1 hP)]
 ·unfold kj.l4 kj.cT
  rw[az (by omega),auc]
end VM
end
