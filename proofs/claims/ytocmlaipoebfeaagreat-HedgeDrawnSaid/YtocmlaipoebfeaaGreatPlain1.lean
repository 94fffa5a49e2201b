/- A part of the proof of HedgeDrawn of layer 22: what the functions compute, in plain words. -/
import Derived.Test.YtocmlaipoebfeaaGreatPlain0
import Derived.Test.YtocmlaipoebfeaaGreatText
set_option linter.all false
section
namespace VM
open Go VM.F
theorem Vf{x:Int}(h0:0≤x)(h1:x<18446744073709551616):jH .and .u64 x 1=x%2:=by
 rw[HB h0 h1 (by omega) (by omega)]
 have:=aBr x.toNat 1
 rw[show((1:Int).toNat)=2^1-1 from rfl,this]
 omega
theorem CS{l:List Int}{k:Nat}(x:Int)(h:k<l.length):cf ((l.set k x).drop k)=x+4294967296*cf (l.drop (k+1)):=by
 rw[hZ,jv l x h,List.drop_set_of_lt (by omega)]
theorem DC(N:Nat){d:List Int}(hd:VD d)(hl:d.length≤100000)(hN:4000000≤N): ∀(k n:Nat) (out:List Int) (c:Int),k≤d.length→k<n→VD out→out.length=d.length→c=cf (d.drop k)%2→cf (out.drop k)=cf (d.drop k)/2→
  mJ.l4 N n d out c ((k:Int)-1)=some (iC (cf d/2).toNat,cf d%2)
 |k,0,out,c,_,hn,_,_,_,_=>by omega
 |0,n+1,out,c,_,_,ho,ub,hc,hv=>by
  unfold mJ.l4 mJ.cD
  simp (disch:=omega) only[aE,az,cX,cP,cQ,cJ,aF,a8,bJ,cH,ak,bG,ayz,ayB,ayL,ay4,ayy,ayD,azb,ae,ayH,ayA,ayT,ayS,ayI,ayW,Fi N ho (by omega) (by omega)]
  rw[ay7,ay7]at hv
  rw[ay7]at hc
  rw[hv,hc]
 |k+1,n+1,out,c,hk,hn,ho,ub,hc,hv=>by
  unfold mJ.l4 mJ.cD
  have e:((k+1:Nat):Int)-1=(k:Int):=by omega
  obtain⟨g0,g1⟩:=hd.getD k
  have hn0:=gO (hd.drop (k+1))
  have e1:=hZ d k
  simp only[e,ayD]
  rw[abh (by omega)]
  generalize hx:d.getD k 0=x at*
  rw[bG (x:=c*4294967296) (by omega) (by omega),OR g0 g1 (by omega) (by omega)]
  simp (disch:=omega) only[aE,az,cX,cP,cQ,cJ,aF,a8,bJ,cH,ak,bG,ayz,ayB,ayL,ay4,ayy,ayD,azb,ae,ayH,ayA,ayT,ayS,ayI,ayW,aoc,Vf]
  refine DC N hd hl hN k n (out.set k ((x+c*4294967296)/2)) ((x+c*4294967296)%2) (by omega) (by omega) (ho.set _ (by omega) (by omega)) (by rw[ayT];exact ub) (by rw[e1,hc];omega) ?_
  rw[CS _ (by omega),hv,e1]
  omega
theorem Vg(N:Nat)(hN:4000000≤N)(m:Nat)(h:(iC m).length≤100000):mJ N (iC m)=some (iC (m/2),((m%2:Nat):Int)):=by
 unfold mJ mJ.b
 simp (disch:=omega) only[aE,az,cX,cP,cQ,cJ,aF,a8,bJ,cH,ak,bG,ayz,ayB,ayL,ay4,ayy,ayD,azb,ae,ayH,ayA,ayT,ayS,ayI,ayW]
 have:=DC N (gi m) h hN (iC m).length N (List.replicate (iC m).length 0) 0 (ayJ _) (by omega) (VD.abg _) (by simp) (by rw[aAl];rfl) (by rw[aAl,azr (by simp)];rfl)
 rw[eL]at this
 rw[this]
 congr 2
def bin(n:Nat):List Int:=if n=0 then []else((n%2:Nat):Int)::bin (n/2)
termination_by n
decreasing_by omega
theorem zH{n:Nat}(h:n≠0):bin n=((n%2:Nat):Int)::bin (n/2):=by rw[bin];simp[h]
theorem sy:bin 0=[]:=by rw[bin];rfl
def vK:List Int→Int
 |[]=>0
 |d::r=>d+2*vK r
theorem Vh(n:Nat):vK (bin n)=n:=by
 induction n using Nat.strongRecOn with
 |_ n ih=>
  by_cases h:n=0
  ·subst h;rw[sy];rfl
  ·rw[zH h,vK,ih _ (by omega)];omega
theorem Vi(n:Nat): ∀d∈bin n,d=0∨d=1:=by
 induction n using Nat.strongRecOn with
 |_ n ih=>
  by_cases h:n=0
  ·subst h;rw[sy];intro d hd;cases hd
  ·rw[zH h];intro d hd
   rcases ayY.1 hd with rfl|hd
   ·omega
   ·exact ih _ (by omega) d hd
theorem Vj(k:Nat): ∀n,n<2^k→(bin n).length≤k:=by
 induction k with
 |zero=>
  intro n h;have:n=0:=by simpa using h
  subst this;rw[sy];simp
 |succ k ih=>
  intro n h
  by_cases hn:n=0
  ·subst hn;rw[sy];simp
  ·rw[zH hn,ayI]
   have:=ih (n/2) (by rw[aAR]at h;omega)
   omega
theorem RA{n k:Nat}(h:n<4294967296^k):(bin n).length≤32*k:=Vj _ _ (azP h (by rw[Nat.pow_mul];exact ayJ _))
theorem DD(N:Nat)(hN:4000000≤N)(x2 x3 x4 x5:ax): ∀(m n:Nat) (t:Nat) (bits:List Int),(bin t).length≤m→m<n→(iC t).length≤100000→bits.length+(bin t).length≤4000000→
  fk.l3 N n x2 x3 x4 x5 bits (iC t)=fk.l9 N N x2 x3 x4 x5 (bits++bin t) (false,([],())) (false,([],())) (((bits++bin t).length:Int)-1)
 |m,0,t,bits,_,hn,_,_=>by omega
 |m,n+1,t,bits,hm,hn,hd,hb=>by
  unfold fk.l3 fk.jU
  by_cases ht:t=0
  ·subst ht
   rw[gN,sy]
   simp (disch:=omega) only[aE,az,cX,cP,cQ,cJ,aF,a8,bJ,cH,ak,bG,ayz,ayB,ayL,ay4,ayy,ayD,azb,ae,ayH,ayA,ayT,ayS,ayI,ayW,ay2]
  ·have KY:0<(iC t).length:=by
    apply azQ.2
    intro h;rw[vG]at h;omega
   rw[zH ht]at hm hb ⊢
   rw[ayI]at hm hb
   have hdl:(iC (t/2)).length≤100000:=by
    have:=Fh _ t hd
    exact qI _ _ (Nat.lt_of_le_of_lt (Nat.div_le_self _ _) this)
   simp (disch:=omega) only[aE,az,cX,cP,cQ,cJ,aF,a8,bJ,cH,ak,bG,ayz,ayB,ayL,ay4,ayy,ayD,azb,ae,ayH,ayA,ayT,ayS,ayI,ayW,Vg N hN t hd]
   rw[DD N hN x2 x3 x4 x5 (m-1) n (t/2) (bits++[((t%2:Nat):Int)]) (by omega) (by omega) hdl (by simp;omega)]
   simp
theorem OS(l:List Int){i:Nat}(h:i<l.length):vK (l.drop i)=l.getD i 0+2*vK (l.drop (i+1)):=by
 rw[azO h,vK,ayC,ayG h];rfl
theorem yl: ∀{l:List Int},(∀d∈l,d=0∨d=1)→0≤vK l
 |[],_=>azC _
 |d::r,h=>by
  have h1:=yl (l:=r) fun x hx=>h x (ayK _ hx)
  have:=h d (ayN ..)
  simp only[vK];omega
theorem qL: ∀(l:List Int) (i:Nat),(∀d∈l,d=0∨d=1)→vK (l.drop i)≤vK l
 |l,0,_=>azC _
 |[],i+1,_=>azC _
 |d::r,i+1,h=>by
  have h1:=qL r i fun x hx=>h x (ayK _ hx)
  have h2:=yl (l:=r) fun x hx=>h x (ayK _ hx)
  have:=h d (ayN ..)
  rw[List.drop_succ_cons,vK];omega
theorem p7(N:Nat)(hN:4000000≤N)(a d:Int)(hd:0<d)(Qo:Fit a 80000)(OT:Fit d 80000)(x4 x5:ax){bits:List Int}(hb: ∀x∈bits,x=0∨x=1)(hbv:vK bits=a.natAbs)(tW:bits.length≤4000000):
  ∀(k n:Nat) (q r:Int),k≤bits.length→k<n→0≤q→0≤r→r<d→vK (bits.drop k)=q*d+r→
  fk.l9 N n (br a) (br d) x4 x5 bits (br q) (br r) ((k:Int)-1)=some (br (a/d),br (a%d))
 |k,0,q,r,_,hn,_,_,_,_=>by omega
 |0,n+1,q,r,_,_,hq,hr,iu,hv=>by
  unfold fk.l9 fk.tJ
  rw[ay7,hbv]at hv
  have hqa:q≤a.natAbs:=by
   have:q*1≤q*d:=azm (by omega) hq
   omega
  have fq:Fit q 900000:=(Qo.of_le (u:=q) (by omega)).mono (by omega)
  have fr:Fit r 900000:=(OT.of_le (u:=r) (by omega)).mono (by omega)
  have f1:Fit 1 900000:=(Fit.i64 (v:=1) (by omega) (by omega)).mono (by omega)
  have fq':Fit (-q) 900000:=fq.neg
  have fd:Fit d 900000:=OT.mono (by omega)
  rw[cP (by omega),ayB]
  by_cases ha:a<0
  ·have hna:(a.natAbs:Int)= -a:=by omega
   have e0:(br a).1=true:=ayO ha
   simp only[e0,ayL,ayB,nf,ayy]
   by_cases hr0:r=0
   ·subst hr0
    rw[cQ (by unfold lW;simp),ayz]
    simp only[p5 N hN fq,ayy]
    have e1:a=d*(-q):=by rw[aBg,azt];omega
    have e2:a/d= -q:=by rw[e1,aBO _ (by omega)]
    have e3:a%d=0:=by rw[e1,Int.mul_emod_right]
    rw[e2,e3]
   ·rw[cJ (by unfold lW;rw[ayE (by omega),ayF (by omega)];omega),ayB]
    simp (disch:=omega) only[p5 N hN fq,cn N (by omega) (show-9223372036854775808≤(1:Int)by omega) (by omega),ayy,o7 N hN fq' f1,o7 N hN fd fr]
    have e1:a=(d-r)+d*(-q-1):=by rw[aB8,aBg,Int.mul_one,azt];omega
    have e2:a/d= -q-1:=by
     rw[e1,aAB _ _ (by omega),aAT (by omega) (by omega)];omega
    have e3:a%d=d-r:=by rw[e1,aAA,aBM (by omega) (by omega)]
    rw[e2,e3]
  ·have hna:(a.natAbs:Int)=a:=by omega
   have e0:(br a).1=false:=ayR ha
   simp only[e0,ay4,ayz]
   have e1:a=r+d*q:=by rw[azt];omega
   have e2:a/d=q:=by rw[e1,aAB _ _ (by omega),aAT hr iu];omega
   have e3:a%d=r:=by rw[e1,aAA,aBM hr iu]
   rw[e2,e3]
 |k+1,n+1,q,r,hk,hn,hq,hr,iu,hv=>by
  unfold fk.l9 fk.tJ
  have e:((k+1:Nat):Int)-1=(k:Int):=by omega
  have hle:=qL bits k hb
  have aon:=qL bits (k+1) hb
  rw[hbv]at hle aon
  have hqa:q≤a.natAbs:=by
   have:q*1≤q*d:=azm (by omega) hq
   omega
  have fq:Fit q 80000:=Qo.of_le (by omega)
  have fr:Fit r 80000:=OT.of_le (by omega)
  have fqq:=fq.add fq
  have frr:=fr.add fr
  have f1:Fit 1 80000:=(Fit.i64 (v:=1) (by omega) (by omega)).mono (by omega)
  have hvk:=OS bits (i:=k) (by omega)
  have y7:bits.getD k 0=0∨bits.getD k 0=1:=by
   rw[ayC,ayG (show k<bits.length by omega)]
   exact hb _ (ay5 _)
  rw[e,cX (by omega),ayz]
  have e2q:(q+q)*d=2*(q*d):=by rw[←Int.two_mul,azE]
  have aiL:(q+q+1)*d=2*(q*d)+d:=by rw[aAx,e2q,aBu]
  simp (disch:=omega) only[aE,az,cX,cP,cQ,cJ,aF,a8,bJ,cH,ak,bG,ayz,ayB,ayL,ay4,ayy,ayD,azb,ae,ayH,ayA,ayT,ayS,ayI,ayW,eM N hN (fq.mono (by omega)) (fq.mono (by omega)),eM N hN (fr.mono (by omega)) (fr.mono (by omega)),cn N (by omega) (show-9223372036854775808≤(1:Int)by omega) (by omega)]
  rcases y7 with y7|y7
  ·rw[y7,cJ (by omega),ayB]
   simp only[sv N hN (frr.mono (by omega)) (OT.mono (by omega)),ayy]
   by_cases UL:d≤r+r
   ·rw[cX (by unfold lW;split<;>(try split)<;>omega),ayz]
    simp only[o7 N hN (frr.mono (by omega)) (OT.mono (by omega)),eM N hN (fqq.mono (by omega)) (f1.mono (by omega)),ayy]
    refine p7 N hN a d hd Qo OT x4 x5 hb hbv tW k n _ _ (by omega) (by omega) (by omega) (by omega) (by omega) ?_
    rw[hvk,y7,hv,aiL];omega
   ·rw[cP (by unfold lW;rw[ayF (by omega)];omega),ayB]
    refine p7 N hN a d hd Qo OT x4 x5 hb hbv tW k n _ _ (by omega) (by omega) (by omega) (by omega) (by omega) ?_
    rw[hvk,y7,hv,e2q];omega
  ·rw[y7,cQ rfl,ayz]
   have aiM:=frr.add (f1.mono (show 80000≤80001 by omega))
   simp only[eM N hN (frr.mono (by omega)) (f1.mono (by omega)),sv N hN (aiM.mono (by omega)) (OT.mono (by omega)),ayy]
   by_cases UL:d≤r+r+1
   ·rw[cX (by unfold lW;split<;>(try split)<;>omega),ayz]
    simp only[o7 N hN (aiM.mono (by omega)) (OT.mono (by omega)),eM N hN (fqq.mono (by omega)) (f1.mono (by omega)),ayy]
    refine p7 N hN a d hd Qo OT x4 x5 hb hbv tW k n _ _ (by omega) (by omega) (by omega) (by omega) (by omega) ?_
    rw[hvk,y7,hv,aiL];omega
   ·rw[cP (by unfold lW;rw[ayF (by omega)];omega),ayB]
    refine p7 N hN a d hd Qo OT x4 x5 hb hbv tW k n _ _ (by omega) (by omega) (by omega) (by omega) (by omega) ?_
    rw[hvk,y7,hv,e2q];omega
theorem Fj(N:Nat)(hN:5000000≤N){a d:Int}(hd:0<d)(Qo:Fit a 80000)(OT:Fit d 80000):fk N (br a) (br d)=some (br (a/d),br (a%d)):=by
 unfold fk fk.b
 have tW:(bin a.natAbs).length≤32*80000:=RA Qo
 have h1:=DD N (by omega) (br a) (br d) (false,([],())) (false,([],())) (bin a.natAbs).length N a.natAbs [] (ayJ _) (by omega) (azl Qo.len (by omega)) (by simp;omega)
 rw[ay8]at h1
 refine h1.trans ?_
 rw[←ez]
 exact p7 N (by omega) a d hd Qo OT _ _ (Vi _) (Vh _) (by omega) (bin a.natAbs).length N 0 0 (ayJ _) (by omega) (by omega) (by omega) hd (by rw[aAl];simp[vK])
end VM
end
section
namespace VM
open Go VM.F
def bl(v:Int):aT:=(v/18446744073709551616,(v%18446744073709551616,()))
theorem wmk{a b v:Int}(h1:a=v/18446744073709551616)(h2:b=v%18446744073709551616):((a,(b,())):aT)=bl v:=by
 unfold bl;rw[h1,h2]
theorem HQ{a b v:Int}{α:Type}{c:α}(h1:a=v/18446744073709551616)(h2:b=v%18446744073709551616):(some (((a,(b,())):aT),c):Option (aT×α))=some (bl v,c):=by
 rw[wmk h1 h2]
theorem RB{a b c d:Int}(h1:a=c)(h2:b=d):(some (a,b):Option (Int×Int))=some (c,d):=by rw[h1,h2]
theorem uG(N:Nat){hi lo:Int}(h0:0≤hi)(h1:hi<9223372036854775808)(l0:0≤lo)(l1:lo<18446744073709551616):mK N false hi lo=some (bl (hi*18446744073709551616+lo),true):=by
 unfold mK mK.b
 rw[ay4,ayz,cP (by omega),ayB,ak (by omega) (by omega)]
 exact HQ (by omega) (by omega)
theorem qM(N:Nat){hi lo:Int}(h0:0≤hi)(l0:0≤lo)(l1:lo<18446744073709551616)(hm:hi*18446744073709551616+lo≤170141183460469231731687303715884105728):mK N true hi lo=some (bl (-(hi*18446744073709551616+lo)),true):=by
 unfold mK mK.b
 have hj:mK.j7 N hi lo bL=some (bl (-(hi*18446744073709551616+lo)),true):=by
  unfold mK.j7 mK.K8
  rw[iI N (by omega) (by omega) l0 l1 (by omega) (by omega),ayy]
  by_cases hl:lo=0
  ·subst hl
   rw[ayE (by omega)]
   rw[iI N (by omega) (by omega) h0 (by omega) (by omega) (by omega),ayy,dZ]
   exact HQ (by split<;>omega) (by omega)
  ·rw[ayF (by omega)]
   rw[iI N (by omega) (by omega) h0 (by omega) (by omega) (by omega),ayy,dZ]
   exact HQ (by split<;>omega) (by omega)
 rw[ayL,ayB,az (by omega),ayB]
 by_cases he:hi=9223372036854775808
 ·rw[cQ he,ayz,az (by omega),ayB];exact hj
 ·rw[cJ he,ayB];exact hj
theorem CT{a b:Int}(a0: -9223372036854775808≤a)(a1:a<9223372036854775808)(b0: -9223372036854775808≤b)(b1:b<9223372036854775808):
  0≤(a.natAbs:Int)*b.natAbs∧(a.natAbs:Int)*b.natAbs≤85070591730234615865843651857942052864:=by
 have:=mul_lt (m:=9223372036854775808) (n:=9223372036854775808) (show 0≤(a.natAbs:Int)by omega) (show 0≤(b.natAbs:Int)by omega) (by omega) (by omega)
 omega
theorem vL(N:Nat){a b:Int}(a0: -9223372036854775808≤a)(a1:a<9223372036854775808)(b0: -9223372036854775808≤b)(b1:b<9223372036854775808):CU N a b=some (bl (a*b)):=by
 unfold CU
 have hm:=CT a0 a1 b0 b1
 simp only[Fg N a0 a1,Fg N b0 b1,ayy,AP N (show 0≤(a.natAbs:Int)by omega) (by omega) (show 0≤(b.natAbs:Int)by omega) (by omega),lX]
 obtain⟨m,hme⟩: ∃m,m=(a.natAbs:Int)*b.natAbs:=⟨_,rfl⟩
 rw[←hme]at hm ⊢
 have hd:m/18446744073709551616*18446744073709551616+m%18446744073709551616=m:=by omega
 by_cases h1:a<0<;>by_cases h2:b<0
 ·rw[aE h1,aE h2,aBs,ayL,uG N (by omega) (by omega) (by omega) (by omega),ayy,hd]
  have:m=a*b:=by rw[hme,show(a.natAbs:Int)= -a from by omega,show(b.natAbs:Int)= -b from by omega,Int.neg_mul_neg]
  rw[this]
 ·rw[aE h1,az (x:=b) (by omega),show(!(true==false))=true from rfl,qM N (by omega) (by omega) (by omega) (by omega),ayy,hd]
  have:m= -(a*b):=by rw[hme,show(a.natAbs:Int)= -a from by omega,show(b.natAbs:Int)=b from by omega,Int.neg_mul]
  rw[this,Int.neg_neg]
 ·rw[az (x:=a) (by omega),aE h2,show(!(false==true))=true from rfl,qM N (by omega) (by omega) (by omega) (by omega),ayy,hd]
  have:m= -(a*b):=by rw[hme,show(a.natAbs:Int)=a from by omega,show(b.natAbs:Int)= -b from by omega,aBg]
  rw[this,Int.neg_neg]
 ·rw[az (x:=a) (by omega),az (x:=b) (by omega),aBs,ayL,uG N (by omega) (by omega) (by omega) (by omega),ayy,hd]
  have:m=a*b:=by rw[hme,show(a.natAbs:Int)=a from by omega,show(b.natAbs:Int)=b from by omega]
  rw[this]
theorem HR(N:Nat){v:Int}(v0: -170141183460469231731687303715884105728≤v)(v1:v<170141183460469231731687303715884105728):RC N (bl v)=some ((v.natAbs:Int)/18446744073709551616,(v.natAbs:Int)%18446744073709551616):=by
 unfold RC bl
 dsimp only
 by_cases h:0≤v
 ·rw[cX (by omega),ayz,bG (by omega) (by omega)]
  exact RB (by omega) (by omega)
 ·rw[cP (by omega),ayB,iI N (by omega) (by omega) (by omega) (by omega) (by omega) (by omega),ayy]
  dsimp only
  rw[ju]
  by_cases hl:v%18446744073709551616=0
  ·rw[ayE (by omega),iI N (by omega) (by omega) (by omega) (by omega) (by omega) (by omega),ayy]
   exact RB (by omega) (by omega)
  ·rw[ayF (by omega),iI N (by omega) (by omega) (by omega) (by omega) (by omega) (by omega),ayy]
   exact RB (by omega) (by omega)
theorem Vk{m d:Int}(hd:0<d)(hm:0≤m):m/d=m/18446744073709551616/d*18446744073709551616+(m/18446744073709551616%d*18446744073709551616+m%18446744073709551616)/d∧
  m%d=(m/18446744073709551616%d*18446744073709551616+m%18446744073709551616)%d:=by
 have e:=az1 (m/18446744073709551616) d
 have e0:m=(m/18446744073709551616%d*18446744073709551616+m%18446744073709551616)+d*(m/18446744073709551616/d*18446744073709551616):=by
  rw[←azE];omega
 constructor
 ·conv=>lhs;rw[e0]
  rw[aAB _ _ (by omega)];omega
 ·conv=>lhs;rw[e0]
  rw[aAA]
theorem Vl(N:Nat)(hN:100≤N){v d:Int}(v0: -170141183460469231731687303715884105728≤v)(v1:v<170141183460469231731687303715884105728)(d0:0<d)(d1:d<9223372036854775808):
  p8 N (bl v) d=some (bl (v/d),v%d,true):=by
 unfold p8 p8.b
 rw[az (by omega),ayB,HR N v0 v1,ayy,bG (x:=d) (by omega) (by omega)]
 dsimp only
 obtain⟨m,hm⟩: ∃m:Int,m=v.natAbs:=⟨_,rfl⟩
 rw[←hm]
 have hmd:=az3 (m/18446744073709551616) d0
 have aop:=aAC (m/18446744073709551616) (show d≠0 by omega)
 rw[HG N hN (by omega) d0 (by omega) (by omega) (by omega),ayy,aBy,aBz]
 dsimp only
 rw[HG N hN aop hmd (by omega) (by omega) (by omega),ayy]
 dsimp only
 obtain⟨e1,e2⟩:=Vk d0 (show 0≤m by omega)
 rw[←e2]
 have Oj:0≤m/18446744073709551616/d:=azV (by omega) (by omega)
 have hq1:m/18446744073709551616/d≤m/18446744073709551616:=aBR _ (by omega)
 have Fc:=az3 m d0
 have hr0:=aAC m (show d≠0 by omega)
 have hl0:0≤(m/18446744073709551616%d*18446744073709551616+m%18446744073709551616)/d:=azV (by omega) (by omega)
 have hl1:(m/18446744073709551616%d*18446744073709551616+m%18446744073709551616)/d<18446744073709551616:=by
  rw[aAd d0]
  have:=azs (show m/18446744073709551616%d+1≤d by omega) (show(0:Int)≤18446744073709551616 by omega)
  rw[aAx,aBu,azt d]at this;omega
 generalize (m/18446744073709551616%d*18446744073709551616+m%18446744073709551616)/d=ql at*
 generalize hqh:m/18446744073709551616/d=qh at*
 have hmq:=az1 m d
 by_cases h:0≤v
 ·have hv:m=v:=by omega
  rw[cX (show(0:Int)≤(bl v).1 by show 0≤v/_;omega),ayz,ak (x:=qh) (by omega) (by omega),ak (x:=m%d) (by omega) (by omega),←hv]
  unfold bl
  exact HQ (by omega) (by omega)
 ·have hv:v= -m:=by omega
  rw[cP (show(bl v).1<0 by show v/_<0;omega),ayB]
  by_cases hr:0<m%d
  ·rw[aE hr,ayz,p4 N hl0 (by omega) (by omega) (by omega),ayy]
   unfold p8.Fk p8.vM
   dsimp only
   rw[bG (x:=d-m%d) (by omega) (by omega),bG (x:=qh+(ql+1+0)/18446744073709551616) (by omega) (by omega)]
   rw[qM N (by omega) (by omega) (by omega) (by
    have:m/d*1≤m/d*d:=azm (by omega) (azV (by omega) (by omega))
    rw[azt]at hmq;omega),ayy,ak (x:=d-m%d) (by omega) (by omega)]
   have e3:v=(d-m%d)+d*(-(m/d)-1):=by rw[hv,aB8,aBg,Int.mul_one];omega
   have e4:v/d= -(m/d)-1:=by
    rw[e3,aAB _ _ (by omega),aAT (by omega) (by omega)];omega
   have e5:v%d=d-m%d:=by rw[e3,aAA,aBM (by omega) (by omega)]
   rw[e4,e5]
   dsimp only
   rw[show-((qh+(ql+1+0)/18446744073709551616)*18446744073709551616+(ql+1+0)%18446744073709551616)= -(m/d)-1 by omega]
  ·have dg:m%d=0:=by omega
   rw[az (by omega),ayB]
   unfold p8.Fk p8.vM
   rw[qM N (by omega) (by omega) (by omega) (by
    have:m/d*1≤m/d*d:=azm (by omega) (azV (by omega) (by omega))
    rw[azt]at hmq;omega),ayy,ak (x:=m%d) (by omega) (by omega)]
   have e3:v=d*(-(m/d)):=by rw[hv,aBg];omega
   have e4:v/d= -(m/d):=by rw[e3,aBO _ (by omega)]
   have e5:v%d=0:=by rw[e3,Int.mul_emod_right]
   rw[e4,e5,dg]
   dsimp only
   rw[show-(qh*18446744073709551616+ql)= -(m/d)by omega]
theorem Vm(N:Nat){v:Int}(v0: -170141183460469231731687303715884105728≤v)(v1:v<170141183460469231731687303715884105728):HS N (bl v)=some (zc v):=by
 unfold HS bl
 rw[az (by omega),ayB]
 dsimp only
 have hw0: -9223372036854775808≤W .i64 (v%18446744073709551616)∧W .i64 (v%18446744073709551616)<9223372036854775808:=by rw[dZ];split<;>omega
 rw[qH hw0.1 hw0.2]
 have hwv:W .i64 (v%18446744073709551616)=if 9223372036854775808≤v%18446744073709551616 then v%18446744073709551616-18446744073709551616 else v%18446744073709551616:=by rw[dZ];split<;>split<;>omega
 rw[hwv]
 unfold zc
 by_cases h: -9223372036854775808≤v∧v<9223372036854775808
 ·rw[ayF h]
  by_cases hn:v<0
  ·rw[ayF (show 9223372036854775808≤v%18446744073709551616 by omega),ayF (by omega),cQ (by omega),ayL,ayB]
   congr 2;omega
  ·rw[ayE (show ¬9223372036854775808≤v%18446744073709551616 by omega),ayE (by omega),cQ (by omega),ayL,ayB]
   congr 2;omega
 ·rw[ayE h]
  by_cases hm:9223372036854775808≤v%18446744073709551616
  ·rw[ayF hm,ayF (by omega),cJ (by omega),ay4,ayz]
  ·rw[ayE hm,ayE (by omega),cJ (by omega),ay4,ayz]
end VM
end
section
namespace VM
open Go
theorem cond_not{α:Type}(b:Bool)(x y:α):cond (!b) x y=cond b y x:=by cases b<;>rfl
theorem aL{α:Type}(a b:Int)(x y:α):cond (aG a b) x y=if a<b then x else y:=by
 by_cases h:a<b
 ·rw[aE h,ayF h];rfl
 ·rw[az (by omega),ayE h];rfl
theorem bm{α:Type}(a b:Int)(x y:α):cond (bX a b) x y=if a≤b then x else y:=by
 by_cases h:a≤b
 ·rw[cX h,ayF h];rfl
 ·rw[cP (by omega),ayE h];rfl
theorem au{α:Type}(a b:Int)(x y:α):cond (aA a b) x y=if a=b then x else y:=by
 by_cases h:a=b
 ·rw[cQ h,ayF h];rfl
 ·rw[cJ h,ayE h];rfl
theorem cq{α:Type}(p:Prop) [Decidable p](x y:α):cond (decide p) x y=if p then x else y:=by
 by_cases h:p
 ·rw[ayO h,ayF h];rfl
 ·rw[ayR h,ayE h];rfl
theorem drop_cons{α:Type}{l:List α}{i:Nat}(h:i<l.length)(d:α):l.drop i=l.getD i d::l.drop (i+1):=by
 rw[azO h,ayC,ayG h];rfl
theorem kK{α σ β:Type}(l:List α)(d:α)(F:Nat→Int→σ→Option β)(g:List α→σ→Option β)(I:Nat→σ→Prop)
  (hs: ∀n i s,i<l.length→I i s→(∀s',I (i+1) s'→F n ((i+1:Nat):Int) s'=g (l.drop (i+1)) s')→F (n+1) (i:Int) s=g (l.getD i d::l.drop (i+1)) s)
  (he: ∀n s,I l.length s→F (n+1) (l.length:Int) s=g [] s): ∀m n i s,l.length-i≤m→m<n→i≤l.length→I i s→F n (i:Int) s=g (l.drop i) s
 |m,0,i,s,_,hn,_,_=>by omega
 |m,n+1,i,s,hm,hn,hi,hI=>by
  by_cases h:i<l.length
  ·rw[drop_cons h d]
   exact hs n i s h hI fun s' tY=>kK l d F g I hs he (m-1) n (i+1) s' (by omega) (by omega) (by omega) tY
  ·have:i=l.length:=by omega
   subst this
   rw[aAl];exact he n s hI
theorem vN{α β:Type}(l:List α)(d:α)(F:Nat→Int→Option β)(g:List α→Option β)
  (hs: ∀n i,i<l.length→F n ((i+1:Nat):Int)=g (l.drop (i+1))→F (n+1) (i:Int)=g (l.getD i d::l.drop (i+1)))
  (he: ∀n,F (n+1) (l.length:Int)=g []) (n:Nat) (hn:l.length<n):F n 0=g l:=by
 have:=kK (σ:=Unit) l d (fun n i _=>F n i) (fun l _=>g l) (fun _ _=>True) (fun n i _ h _ hr=>hs n i h (hr () trivial)) (fun n _ _=>he n) l.length n 0 () (by omega) hn (by omega) trivial
 simpa using this
theorem scan{F:Nat→Int→Option Bool}{len:Nat}(P:Nat→Prop) [DecidablePred P]
  (hs: ∀n i r,i<len→(∀j,j<i→P j)→F n ((i+1:Nat):Int)=r→F (n+1) (i:Int)=if P i then r else some false) {e:Bool} (he: ∀n,F (n+1) (len:Int)=some e):
  ∀m n i,len-i≤m→m<n→i≤len→(∀j,j<i→P j)→F n (i:Int)=some (decide (∀j,j<len→i≤j→P j)&&e)
 |m,0,i,_,hn,_,_=>by omega
 |m,n+1,i,hm,hn,hi,hp=>by
  by_cases h:i<len
  ·rw[hs n i _ h hp rfl]
   by_cases hP:P i
   ·rw[ayF hP,scan P hs he (m-1) n (i+1) (by omega) (by omega) (by omega) (fun j hj=>by
     by_cases uA:j=i
     ·subst uA;exact hP
     ·exact hp j (by omega))]
    congr 2
    rw[aAm]
    refine⟨fun hj j h2 h1=> ?_,fun hj j h2 h1=>hj j h2 (by omega)⟩
    by_cases uA:j=i
    ·subst uA;exact hP
    ·exact hj j h2 (by omega)
   ·rw[ayE hP,ayR (fun hj=>hP (hj i h (ayJ i)))];rfl
  ·have:i=len:=by omega
   subst this
   rw[he n,ayO (fun j h2 h1=>absurd h2 (by omega))];rfl
theorem eR{F:Nat→Int→Option Bool}{len:Nat}(P:Nat→Prop) [DecidablePred P]{e:Bool}
  (hs: ∀n i r,i<len→(∀j,j<i→P j)→F n ((i+1:Nat):Int)=r→F (n+1) (i:Int)=if P i then r else some false) (he: ∀n,F (n+1) (len:Int)=some e) (n:Nat) (hn:len<n):
  F n 0=some (decide (∀j,j<len→P j)&&e):=by
 have:=scan P hs he len n 0 (by omega) hn (by omega) (fun j hj=>absurd hj (by omega))
 rw[show((0:Nat):Int)=0 from rfl]at this
 rw[this]
 congr 2
 rw[aAm]
 exact⟨fun h j hj=>h j hj (by omega),fun h j hj _=>h j hj⟩
end VM
end
section
namespace VM
open Go VM.F
def bB(x:Int):Prop:= -170141183460469231731687303715884105728≤x∧x<170141183460469231731687303715884105728
instance(x:Int):Decidable (bB x):=by unfold bB;infer_instance
theorem mL(N:Nat){x:Int}(h0: -9223372036854775808≤x)(h1:x<9223372036854775808):CV N x=some (bl x):=by
 unfold CV
 rw[az (by omega),ayB,qH h0 h1,ju]
 congr 1
 exact wmk (by split<;>omega) rfl
theorem Vn{ws:List Int}(i:Nat):(ws.map bl).getD i bL=bl (ws.getD i 0):=by
 by_cases h:i<ws.length
 ·rw[ayC,az0,ayG h,ayC,ayG h];rfl
 ·rw[ayC,azc (by rw[ay1];omega),ayC,azc (by omega)];rfl
theorem Lb{ws:List Int}(h: ∀x∈ws,bB x): -(170141183460469231731687303715884105728*(ws.length:Int))≤ws.sum∧ws.sum≤170141183460469231731687303715884105728*(ws.length:Int):=by
 induction ws with
 |nil=>simp
 |cons x ws ih=>
  have h0:=h x (ayN ..)
  have ih:=ih (fun y hy=>h y (ayK _ hy))
  unfold bB at h0
  rw[azd,ayI];omega
theorem RD{t w:Int}{lo hi top:Int}(hw:bB w)(y6:lo=t%18446744073709551616)(Gs:hi=t/18446744073709551616%18446744073709551616)(aor:top=t/340282366920938463463374607431768211456):
  (lo+w%18446744073709551616+0)%18446744073709551616=(t+w)%18446744073709551616∧
  (hi+(w/18446744073709551616)%18446744073709551616+(lo+w%18446744073709551616+0)/18446744073709551616)%18446744073709551616=(t+w)/18446744073709551616%18446744073709551616∧
  top+(if w/18446744073709551616<0 then-1 else 0)+(hi+(w/18446744073709551616)%18446744073709551616+(lo+w%18446744073709551616+0)/18446744073709551616)/18446744073709551616=(t+w)/340282366920938463463374607431768211456:=by
 unfold bB at hw
 subst y6 Gs aor
 refine⟨by omega,by omega,?_⟩
 split<;>omega
def HT(t:Int):aT×Bool:=if bB t then(bl t,true)else(bL,false)
theorem W64(x:Int):W .u64 x=x%18446744073709551616:=ju x
theorem DE(N:Nat){ws:List Int}(h: ∀x∈ws,bB x)(hl:ws.length≤1000000): ∀(m n i:Nat) (t:Int),ws.length-i≤m→m<n→i≤ws.length→t=(ws.take i).sum→
  jK.l3 N n bL (t/340282366920938463463374607431768211456) (t/18446744073709551616%18446744073709551616) (t%18446744073709551616) (ws.map bl) (ws.length:Int) (i:Int)=some (HT ws.sum)
 |m,0,i,t,_,hn,_,_=>by omega
 |m,n+1,i,t,hm,hn,hi,ht=>by
  unfold jK.l3 jK.jU
  have f1:=Lb (ws:=ws.take i) (fun x hx=>h x (azT hx))
  rw[ayX,azF (by omega),←ht]at f1
  by_cases h1:i<ws.length
  ·have hw:bB (ws.getD i 0):=by
    rw[ayC,ayG h1];exact h _ (ay5 h1)
   have hs:=iJ ws h1
   rw[←ht]at hs
   have st:=RD (t:=t) (w:=ws.getD i 0) hw rfl rfl rfl
   have vO:=DE N h hl (m-1) n (i+1) (t+ws.getD i 0) (by omega) (by omega) (by omega) hs.symm
   rw[aE (by omega),ayz,aF (by omega) (by rw[ay1];omega),ayz,ayD,Vn]
   unfold bl
   dsimp only
   have hw':=hw
   unfold bB at hw'
   generalize ws.getD i 0=w at*
   have hq:0≤(t%18446744073709551616+w%18446744073709551616+0)/18446744073709551616∧(t%18446744073709551616+w%18446744073709551616+0)/18446744073709551616≤1:=by omega
   rw[p4 N (by omega) (by omega) (by omega) (by omega),ayy,W64,p4 N (by omega) (by omega) hq.1 hq.2,ayy,az (x:=63) (by omega),ayB,st.1,st.2.1]
   rw[qH (by omega) (by omega)]
   have hc:0≤(t/18446744073709551616%18446744073709551616+w/18446744073709551616%18446744073709551616+(t%18446744073709551616+w%18446744073709551616+0)/18446744073709551616)/18446744073709551616∧(t/18446744073709551616%18446744073709551616+w/18446744073709551616%18446744073709551616+(t%18446744073709551616+w%18446744073709551616+0)/18446744073709551616)/18446744073709551616≤1:=by omega
   have hif: -1≤(if w/18446744073709551616<0 then(-1:Int)else 0)∧(if w/18446744073709551616<0 then(-1:Int)else 0)≤0:=by split<;>omega
   rw[ak (x:=t/340282366920938463463374607431768211456+_) (by omega) (by omega),ak (x:=(_:Int)/18446744073709551616) (by omega) (by omega),st.2.2,ak (by omega) (by omega),ak (x:=(i:Int)+1) (by omega) (by omega)]
   exact vO
  ·have e:(ws.take i).sum=ws.sum:=by rw[azo (by omega)]
   rw[e]at ht
   rw[az (by omega),ayB,az (x:=63) (by omega),ayB,←ht]
   have hh: -9223372036854775808≤W .i64 (t/18446744073709551616%18446744073709551616)∧W .i64 (t/18446744073709551616%18446744073709551616)<9223372036854775808:=by rw[dZ];split<;>omega
   have hwv:W .i64 (t/18446744073709551616%18446744073709551616)=if 9223372036854775808≤t/18446744073709551616%18446744073709551616 then t/18446744073709551616%18446744073709551616-18446744073709551616 else t/18446744073709551616%18446744073709551616:=by rw[dZ];split<;>split<;>omega
   rw[qH hh.1 hh.2,hwv]
   unfold HT
   by_cases hI:bB t
   ·rw[ayF hI]
    unfold bB at hI
    rw[cQ (by split<;>split<;>omega),ayL,ayB]
    exact HQ (by split<;>omega) rfl
   ·rw[ayE hI]
    unfold bB at hI
    rw[cJ (by split<;>split<;>omega),ay4,ayz]
theorem zI(N:Nat){ws:List Int}(h: ∀x∈ws,bB x)(hl:ws.length≤1000000)(hN:1000000<N):jK N (ws.map bl)=some (HT ws.sum):=by
 unfold jK jK.b
 rw[ay1]
 exact DE N h hl ws.length N 0 0 (by omega) (by omega) (by omega) (by simp)
end VM
end
section
namespace VM
open Go VM.F
theorem qN(N:Nat)(a lo hi:Int):zd N a lo hi=some (decide (lo≤a∧a≤hi)):=by
 unfold zd
 rw[bm,jW]
 by_cases h:lo≤a
 ·rw[ayF h];congr 1;rw[aAm];omega
 ·rw[ayE h,ayR (by omega)]
theorem DF(N:Nat)(a lo hi:Int):CW N a lo hi=some (decide (lo≤a∧a≤hi)):=qN N a lo hi
def o8(a b c d:Int):Prop:=(0≤a∧a≤3)∧(1≤b∧b≤1000000000000)∧(0≤c∧c≤1000000000)∧(0≤d∧d≤1000000000)
instance(a b c d:Int):Decidable (o8 a b c d):=by unfold o8;infer_instance
def mM(l:aD)(i:Nat):Prop:=o8 (l.getD i aJ).1 (l.getD i aJ).2.1 (l.getD i aJ).2.2.1 (l.getD i aJ).2.2.2.1
instance(l:aD):DecidablePred (mM l):=fun i=>by unfold mM;infer_instance
def qO(a b c d e f:Int):Prop:=0≤a∧(0≤b∧b≤4)∧(0≤c∧c≤1000000)∧(0≤d∧d≤1000000)∧(1≤e∧e≤4611686018427387904)∧0≤f
instance(a b c d e f:Int):Decidable (qO a b c d e f):=by unfold qO;infer_instance
def qP(c:aa):Prop:=qO c.2.1 c.2.2.1 c.2.2.2.1 c.2.2.2.2.1 c.2.2.2.2.2.1 c.2.2.2.2.2.2.1
instance(c:aa):Decidable (qP c):=by unfold qP;infer_instance
def ec(c:aa):Bool:=decide (1≤c.1.length∧c.1.length≤6)&&(decide (∀j,j<c.1.length→mM c.1 j)&&decide (qP c))
theorem zJ(N:Nat)(hN:100≤N)(c:aa):wQ N c=some (ec c):=by
 unfold wQ wQ.b ec
 rw[qN,ayy,cond_not,cq]
 by_cases hl:1≤c.1.length∧c.1.length≤6
 ·rw[ayF (by omega),ayO hl,aAa]
  refine eR (F:=fun n i=>wQ.l4 N n c c.1 (c.1.length:Int) i) (mM c.1) (fun n i r hi hp hr=> ?_) (fun n=> ?_) N (by omega)
  ·unfold wQ.l4 wQ.cD
   rw[aE (by omega),ayz,aF (by omega) (by omega),ayz,ayD,ak (by omega) (by omega),ae]
   simp only[qN,ayy,cond_not,cq]
   by_cases hP:mM c.1 i
   ·rw[ayF hP];unfold mM o8 at hP
    repeat' split
    all_goals first|rfl|exact hr|omega
   ·rw[ayE hP];unfold mM o8 at hP
    repeat' split
    all_goals first|rfl|exact hr|omega
  ·unfold wQ.l4 wQ.cD
   rw[az (by omega),ayB]
   simp only[qN,ayy,cond_not,cq,bm,jW]
   by_cases hP:qP c
   ·rw[ayO hP];unfold qP qO at hP
    repeat' split
    all_goals first|rfl|omega|(rw[ayO (by omega)])
   ·rw[ayR hP];unfold qP qO at hP
    repeat' split
    all_goals first|rfl|omega|(rw[ayR (by omega)])
 ·rw[ayE (by omega),ayR hl,aA3]
theorem lZ(N:Nat)(hN:100≤N)(c:aa):jd N c=some (ec c):=by
 unfold jd jd.b ec
 rw[aL,aL]
 by_cases hl:1≤c.1.length∧c.1.length≤6
 ·rw[ayE (by omega),ayE (by omega),ayO hl,aAa]
  refine eR (F:=fun n i=>jd.l4 N n c i) (mM c.1) (fun n i r hi hp hr=> ?_) (fun n=> ?_) N (by omega)
  ·unfold jd.l4 jd.cD
   rw[aE (by omega),ayz,aF (by omega) (by omega),ayz,ayD,ak (by omega) (by omega),ae]
   simp only[DF,ayy,cond_not,cq]
   by_cases hP:mM c.1 i
   ·rw[ayF hP];unfold mM o8 at hP
    repeat' split
    all_goals first|rfl|exact hr|omega
   ·rw[ayE hP];unfold mM o8 at hP
    repeat' split
    all_goals first|rfl|exact hr|omega
  ·unfold jd.l4 jd.cD
   rw[az (by omega),ayB]
   simp only[DF,ayy,cond_not,cq,bm,jW]
   by_cases hP:qP c
   ·rw[ayO hP];unfold qP qO at hP
    repeat' split
    all_goals first|rfl|omega|(rw[ayO (by omega)])
   ·rw[ayR hP];unfold qP qO at hP
    repeat' split
    all_goals first|rfl|omega|(rw[ayR (by omega)])
 ·rw[ayR hl,aA3]
  by_cases h:(c.1.length:Int)<1
  ·rw[ayF h]
  ·rw[ayE h,ayF (by omega)]
def fx(a b:Int)(i:Nat)(c:Int):Prop:=1≤a∧a≤12∧1≤b∧b≤4∧(0<i→c<a)
instance(a b:Int)(i:Nat)(c:Int):Decidable (fx a b i c):=by unfold fx;infer_instance
def dO(m:av)(i:Nat):Prop:=fx (m.getD i bL).1 (m.getD i bL).2.1 i (m.getD (i-1) bL).1
instance(m:av):DecidablePred (dO m):=fun i=>by unfold dO;infer_instance
def jw(m:av):Bool:=decide (∀j,j<m.length→dO m j)&&true
theorem AU(N:Nat){m:av}(hl:m.length≤100000)(hN:200000≤N):ma N m=some (jw m):=by
 unfold ma ma.b
 refine eR (F:=fun n i=>ma.l2 N n m m (m.length:Int) i) (dO m) (fun n i r hi hp hr=> ?_) (fun n=> ?_) N (by omega)
 ·unfold ma.l2 ma.dA
  rw[aE (by omega),ayz,aF (by omega) (by omega),ayz,ayD,ak (x:=(i:Int)+1) (by omega) (by omega),ae]
  by_cases h0:0<i
  ·have e:W .i64 ((i:Int)-1)=((i-1:Nat):Int):=by rw[ak (by omega) (by omega)];omega
   dsimp only
   rw[aE (x:=0) (by omega),ayz,e,ayD,aF (by omega) (by omega),ayz]
   simp only[aL,bm]
   by_cases hP:dO m i
   ·rw[ayF hP];unfold dO fx at hP
    repeat' split
    all_goals first|rfl|exact hr|omega
   ·rw[ayE hP];unfold dO fx at hP
    repeat' split
    all_goals first|rfl|exact hr|omega
  ·rw[az (x:=0) (by omega),ayB]
   simp only[aL,bm]
   by_cases hP:dO m i
   ·rw[ayF hP];unfold dO fx at hP
    repeat' split
    all_goals first|rfl|exact hr|omega
   ·rw[ayE hP];unfold dO fx at hP
    repeat' split
    all_goals first|rfl|exact hr|omega
 ·unfold ma.l2 ma.dA
  rw[az (by omega),ayB]
theorem o9(N:Nat){m:av}(hl:m.length≤100000)(hN:200000≤N):kL N m=some (jw m):=by
 unfold kL kL.b
 refine eR (F:=fun n i=>kL.l2 N n m i) (dO m) (fun n i r hi hp hr=> ?_) (fun n=> ?_) N (by omega)
 ·unfold kL.l2 kL.dA
  rw[aE (by omega),ayz,aF (by omega) (by omega),ayz,ayD,ak (x:=(i:Int)+1) (by omega) (by omega),ae]
  by_cases h0:0<i
  ·have e:W .i64 ((i:Int)-1)=((i-1:Nat):Int):=by rw[ak (by omega) (by omega)];omega
   dsimp only
   rw[aE (x:=0) (by omega),e,ayD,aF (i:=((i-1:Nat):Int)) (by omega) (by omega)]
   simp only[aL,bm,ayz]
   by_cases hP:dO m i
   ·rw[ayF hP];unfold dO fx at hP
    repeat' split
    all_goals first|rfl|exact hr|omega
   ·rw[ayE hP];unfold dO fx at hP
    repeat' split
    all_goals first|rfl|exact hr|omega
  ·rw[az (x:=0) (by omega)]
   simp only[aL,bm,ayz,ayB]
   by_cases hP:dO m i
   ·rw[ayF hP];unfold dO fx at hP
    repeat' split
    all_goals first|rfl|exact hr|omega
   ·rw[ayE hP];unfold dO fx at hP
    repeat' split
    all_goals first|rfl|exact hr|omega
 ·unfold kL.l2 kL.dA
  rw[az (by omega),ayB]
end VM
end
section
namespace VM
open Go VM.F
def ea(k n:Int):Prop:=(1≤k∧k≤4∧n=0)∨(k=5∧1≤n∧n≤24)∨(6≤k∧k≤7∧1≤n∧n≤12)
instance(k n:Int):Decidable (ea k n):=by unfold ea;infer_instance
theorem Lc(N:Nat)(k n:Int):Ld N k n=some (decide (ea k n)):=by
 unfold Ld
 simp only[au,bm]
 simp only[jW,gh]
 by_cases hP:ea k n
 ·rw[ayO hP];unfold ea at hP
  repeat' split
  all_goals first|rfl|omega|(rw[ayO (by omega)])
 ·rw[ayR hP];unfold ea at hP
  repeat' split
  all_goals first|rfl|omega|(rw[ayR (by omega)])
theorem Vo(N:Nat)(k n:Int):Le N k n=some (decide (ea k n)):=by
 have:=Lc N k n
 unfold Ld at this
 unfold Le
 exact this
def iv(a b c d:Int):Prop:=a<c∨(a=c∧b<d)
instance(a b c d:Int):Decidable (iv a b c d):=by unfold iv;infer_instance
def xb(k n a b:Int):Int:=if k=a then n-b else k-a
def CX(x:Int):Prop:= -1000000≤x∧x≤1000000
theorem AV(N:Nat){k n:Int}{r:bY}(h1:CX k)(h2:CX n)(h3:CX r.1)(h4:CX r.2.1):Lf N k n r=some (xb k n r.1 r.2.1):=by
 unfold Lf xb
 unfold CX at*
 rw[cond_not,au]
 split
 ·rw[ak (by omega) (by omega)]
 ·rw[ak (by omega) (by omega)]
theorem DG(N:Nat){k n:Int}{r:bY}(h1:CX k)(h2:CX n)(h3:CX r.1)(h4:CX r.2.1):OU N k n r=some (xb k n r.1 r.2.1):=AV N h1 h2 h3 h4
def je(a b c:Int)(i:Nat)(d e:Int):Prop:=ea a b∧c≠0∧(0<i→iv d e a b)
instance(a b c:Int)(i:Nat)(d e:Int):Decidable (je a b c i d e):=by unfold je;infer_instance
def iK(l:aj)(i:Nat):Prop:=je (l.getD i aM).1 (l.getD i aM).2.1 (l.getD i aM).2.2.1 i (l.getD (i-1) aM).1 (l.getD (i-1) aM).2.1
instance(l:aj):DecidablePred (iK l):=fun i=>by unfold iK;infer_instance
def fb(l:aj):Bool:=decide (∀j,j<l.length→iK l j)&&true
theorem zK(N:Nat){l:aj}(hl:l.length≤100000)(hN:200000≤N):wR N l=some (fb l):=by
 unfold wR wR.b
 refine eR (F:=fun n i=>wR.l2 N n l l (l.length:Int) i) (iK l) (fun n i r hi hp hr=> ?_) (fun n=> ?_) N (by omega)
 ·unfold wR.l2 wR.dA
  rw[aE (by omega),ayz,aF (by omega) (by omega),ayz,ayD,ak (x:=(i:Int)+1) (by omega) (by omega),ae,Lc,ayy,cond_not,cq]
  by_cases hK:ea (l.getD i aM).1 (l.getD i aM).2.1
  ·rw[ayF hK]
   by_cases h0:0<i
   ·have hq:=hp (i-1) (by omega)
    have e:W .i64 ((i:Int)-1)=((i-1:Nat):Int):=by rw[ak (by omega) (by omega)];omega
    dsimp only
    rw[aE (x:=0) (by omega),ayz,e,ayD,aF (by omega) (by omega),ayz]
    unfold iK je at hq
    have hq:=hq.1
    rw[AV N (by unfold ea at hK;unfold CX;omega) (by unfold ea at hK;unfold CX;omega) (by unfold ea at hq;unfold CX;omega) (by unfold ea at hq;unfold CX;omega),ayy,au,bm]
    by_cases hP:iK l i
    ·rw[ayF hP];unfold iK je iv at hP;unfold xb
     have Lg:=hP.2
     repeat' split
     all_goals first|rfl|exact hr|omega
    ·rw[ayE hP];unfold iK je iv at hP;unfold xb
     have Lg:=fun h=>hP ⟨hK,h⟩
     repeat' split
     all_goals first|rfl|exact hr|omega|(exfalso;exact Lg (by omega))
   ·rw[az (x:=0) (by omega),ayB,au]
    by_cases hP:iK l i
    ·rw[ayF hP];unfold iK je at hP
     rw[ayE hP.2.1];exact hr
    ·rw[ayE hP];unfold iK je at hP
     have Lg:=fun h=>hP ⟨hK,h,fun h=>absurd h h0⟩
     split
     ·rfl
     ·exact absurd (by assumption) Lg
  ·rw[ayE hK,ayE (fun h=>hK (by unfold iK je at h;exact h.1))]
 ·unfold wR.l2 wR.dA
  rw[az (by omega),ayB]
theorem AW(N:Nat){l:aj}(hl:l.length≤100000)(hN:200000≤N):xc N l=some (fb l):=by
 unfold xc xc.b
 refine eR (F:=fun n i=>xc.l2 N n l i) (iK l) (fun n i r hi hp hr=> ?_) (fun n=> ?_) N (by omega)
 ·unfold xc.l2 xc.dA
  rw[aE (by omega),ayz,aF (by omega) (by omega),ayz,ayD,ak (x:=(i:Int)+1) (by omega) (by omega),ae,Vo,ayy,cond_not,cq]
  by_cases hK:ea (l.getD i aM).1 (l.getD i aM).2.1
  ·rw[ayF hK]
   by_cases h0:0<i
   ·have e:W .i64 ((i:Int)-1)=((i-1:Nat):Int):=by rw[ak (by omega) (by omega)];omega
    dsimp only
    rw[aE (x:=0) (by omega),e,ayD,aF (i:=((i-1:Nat):Int)) (by omega) (by omega)]
    simp only[aL,bm,au,ayz]
    by_cases hP:iK l i
    ·rw[ayF hP];unfold iK je iv at hP
     have Lg:=hP.2
     repeat' split
     all_goals first|rfl|exact hr|omega
    ·rw[ayE hP];unfold iK je iv at hP
     have Lg:=fun h=>hP ⟨hK,h⟩
     repeat' split
     all_goals first|rfl|exact hr|omega|(exfalso;exact Lg (by omega))
   ·rw[az (x:=0) (by omega)]
    simp only[aL,bm,au,ayz,ayB]
    by_cases hP:iK l i
    ·rw[ayF hP];unfold iK je at hP
     rw[ayE hP.2.1];exact hr
    ·rw[ayE hP];unfold iK je at hP
     have Lg:=fun h=>hP ⟨hK,h,fun h=>absurd h h0⟩
     split
     ·rfl
     ·exact absurd (by assumption) Lg
  ·rw[ayE hK,ayE (fun h=>hK (by unfold iK je at h;exact h.1))];rfl
 ·unfold xc.l2 xc.dA
  rw[az (by omega),ayB]
end VM
end
section
namespace VM
open Go VM.F
def ca(a b:Int):Prop:=0≤a∧a≤24∧0≤b∧b<6
instance(a b:Int):Decidable (ca a b):=by unfold ca;infer_instance
theorem Nn(N:Nat)(a b:Int):RE N a b=some (decide (ca a b)):=by
 unfold RE
 simp only[bm]
 simp only[pz]
 by_cases hP:ca a b
 ·rw[ayO hP];unfold ca at hP
  repeat' split
  all_goals first|rfl|omega|(rw[ayO (by omega)])
 ·rw[ayR hP];unfold ca at hP
  repeat' split
  all_goals first|rfl|omega|(rw[ayR (by omega)])
def ym(q:Int):Prop:=q≠ -9223372036854775808
instance(q:Int):Decidable (ym q):=by unfold ym;infer_instance
theorem pa(N:Nat)(q:Int):Lh N q=some (decide (ym q)):=by
 unfold Lh ym
 rw[gh]
 by_cases h:q= -9223372036854775808<;>simp[h]
def ke(a b c:Int)(i:Nat)(d e:Int):Prop:=ca a b∧c≠0∧ym c∧(0<i→iv d e a b)
instance(a b c:Int)(i:Nat)(d e:Int):Decidable (ke a b c i d e):=by unfold ke;infer_instance
def jx(l:aj)(i:Nat):Prop:=ke (l.getD i aM).1 (l.getD i aM).2.1 (l.getD i aM).2.2.1 i (l.getD (i-1) aM).1 (l.getD (i-1) aM).2.1
instance(l:aj):DecidablePred (jx l):=fun i=>by unfold jx;infer_instance
def dn(l:aj):Bool:=decide (∀j,j<l.length→jx l j)&&true
theorem vP(N:Nat){l:aj}(hl:l.length≤100000)(hN:200000≤N):kM N l=some (dn l):=by
 unfold kM kM.b
 refine eR (F:=fun n i=>kM.l2 N n l l (l.length:Int) i) (jx l) (fun n i r hi hp hr=> ?_) (fun n=> ?_) N (by omega)
 ·unfold kM.l2 kM.dA
  rw[aE (by omega),ayz,aF (by omega) (by omega),ayz,ayD,ak (x:=(i:Int)+1) (by omega) (by omega),ae,Nn,ayy,cond_not,cq,pa,ayy,cond_not,cq]
  by_cases hK:ca (l.getD i aM).1 (l.getD i aM).2.1
  ·rw[ayF hK]
   by_cases h0:0<i
   ·have hq:=hp (i-1) (by omega)
    have e:W .i64 ((i:Int)-1)=((i-1:Nat):Int):=by rw[ak (by omega) (by omega)];omega
    dsimp only
    rw[aE (x:=0) (by omega),ayz,e,ayD,aF (by omega) (by omega),ayz]
    unfold jx ke at hq
    have hq:=hq.1
    rw[DG N (by unfold ca at hK;unfold CX;omega) (by unfold ca at hK;unfold CX;omega) (by unfold ca at hq;unfold CX;omega) (by unfold ca at hq;unfold CX;omega),ayy,au,bm]
    by_cases hP:jx l i
    ·rw[ayF hP];unfold jx ke iv at hP;unfold xb
     obtain⟨_,hP1,Lg,hP3⟩:=hP
     rw[ayF Lg]
     repeat' split
     all_goals first|rfl|exact hr|omega
    ·rw[ayE hP];unfold jx ke iv at hP;unfold xb
     have Lg:=fun h1 h2 h3=>hP ⟨hK,h1,h2,h3⟩
     repeat' split
     all_goals first|rfl|exact hr|(exfalso;exact Lg (by assumption) (by assumption) (by omega))|omega
   ·rw[az (x:=0) (by omega),ayB,au]
    by_cases hP:jx l i
    ·rw[ayF hP];unfold jx ke at hP
     rw[ayE hP.2.1,ayF hP.2.2.1];exact hr
    ·rw[ayE hP];unfold jx ke at hP
     have Lg:=fun h1 h2=>hP ⟨hK,h1,h2,fun h=>absurd h h0⟩
     split
     ·rfl
     ·split
      ·exact(Lg (by assumption) (by assumption)).elim
      ·rfl
  ·rw[ayE hK,ayE (fun h=>hK (by unfold jx ke at h;exact h.1))]
 ·unfold kM.l2 kM.dA
  rw[az (by omega),ayB]
theorem nG(N:Nat){l:aj}(hl:l.length≤100000)(hN:200000≤N):vd N l=some (dn l):=by
 unfold vd vd.b
 refine eR (F:=fun n i=>vd.l2 N n l i) (jx l) (fun n i r hi hp hr=> ?_) (fun n=> ?_) N (by omega)
 ·unfold vd.l2 vd.dA
  rw[aE (by omega),ayz,aF (by omega) (by omega),ayz,ayD,ak (x:=(i:Int)+1) (by omega) (by omega),ae]
  by_cases h0:0<i
  ·have e:W .i64 ((i:Int)-1)=((i-1:Nat):Int):=by rw[ak (by omega) (by omega)];omega
   dsimp only
   rw[aE (x:=0) (y:=(i:Int)) (by omega),e,ayD,aF (i:=((i-1:Nat):Int)) (by omega) (by omega)]
   simp only[aL,bm,au,ayz]
   by_cases hP:jx l i
   ·rw[ayF hP];unfold jx ke iv ym ca at hP
    repeat' split
    all_goals first|rfl|exact hr|omega
   ·rw[ayE hP];unfold jx ke iv ym ca at hP
    repeat' split
    all_goals first|rfl|exact hr|omega|(exfalso;exact hP (by omega))
  ·rw[az (x:=0) (y:=(i:Int)) (by omega)]
   simp only[aL,bm,au,ayz,ayB]
   by_cases hP:jx l i
   ·rw[ayF hP];unfold jx ke iv ym ca at hP
    repeat' split
    all_goals first|rfl|exact hr|omega
   ·rw[ayE hP];unfold jx ke iv ym ca at hP
    repeat' split
    all_goals first|rfl|exact hr|omega|(exfalso;exact hP (by omega))
 ·unfold vd.l2 vd.dA
  rw[az (by omega),ayB]
theorem ei(a b:Int)(y:Bool):cond (bX a b) (some y) (some false)=some (decide (a≤b)&&y):=by
 rw[bm];by_cases h:a≤b<;>simp[h]
theorem AX(a b:Int)(y:Bool):cond (aG a b) (some y) (some false)=some (decide (a<b)&&y):=by
 rw[aL];by_cases h:a<b<;>simp[h]
theorem AY(a b:Int)(y:Bool):cond (aA a b) (some y) (some false)=some (decide (a=b)&&y):=by
 rw[au];by_cases h:a=b<;>simp[h]
theorem xd(a b:Int)(y z:Bool):cond (aA a b) (some y) (some z)=some ((decide (a=b)&&y)||(!decide (a=b)&&z)):=by
 rw[au];by_cases h:a=b<;>simp[h]
def ld(a b c d e f:Int):Prop:=(1≤a∧a≤1099511627776)∧(1≤b∧b≤24)∧(0≤c∧c<6)∧(d=1∨d=2)∧(1≤e∧e≤1000000000)∧(1≤f∧f≤1000000000000)
instance(a b c d e f:Int):Decidable (ld a b c d e f):=by unfold ld;infer_instance
def fj(o:cr):Prop:=ld o.1 o.2.1 o.2.2.1 o.2.2.2.1 o.2.2.2.2.1 o.2.2.2.2.2.1
instance(o:cr):Decidable (fj o):=by unfold fj;infer_instance
theorem Li(N:Nat)(o:cr):OV N o=some (decide (fj o)):=by
 unfold OV
 rw[jW o.2.2.2.2.2.1]
 rw[ei,ei,ei,AY,xd,AX,ei,ei,ei,ei,ei]
 congr 1
 rw[aAi,azB]
 unfold fj ld
 simp only[ayQ,aAj,aAr,aAG,aBh]
 omega
end VM
end
section
namespace VM
open Go VM.F
theorem xe(N:Nat)(p:Int):Vp N p=some (decide (1≤p∧p≤1000000000000)):=by
 unfold Vp
 rw[jW p,ei];congr 1
 rw[aAi];simp only[ayQ,aAG]
theorem ia(N:Nat)(p:Int):ze N p=some (decide (1≤p∧p≤1000000000000)):=xe N p
theorem tc(N:Nat)(o:cr):Lj N o=some (decide (fj o)):=by
 unfold Lj
 rw[ia,ayy]
 repeat (first|rw[ei]|rw[AX]|rw[AY]|rw[xd])
 congr 1
 rw[aAi,azB]
 unfold fj ld
 simp only[ayQ,aAj,aAr,aAG,aBh]
 omega
def p9(i:Nat)(a b:Int):Prop:=0<i→a<b
instance(i:Nat)(a b:Int):Decidable (p9 i a b):=by unfold p9;infer_instance
def pb(l:aU)(i:Nat):Prop:=fj (l.getD i dT)∧p9 i (l.getD (i-1) dT).1 (l.getD i dT).1
instance(l:aU):DecidablePred (pb l):=fun i=>by unfold pb;infer_instance
def eF(l:aU):Bool:=decide (∀j,j<l.length→pb l j)&&decide (l.length≤32)
theorem DH(N:Nat){l:aU}(hl:l.length≤100000)(hN:200000≤N):yn N l=some (eF l):=by
 unfold yn yn.b
 refine eR (F:=fun n i=>yn.l2 N n l l (l.length:Int) i) (pb l) (fun n i r hi hp hr=> ?_) (fun n=> ?_) N (by omega)
 ·unfold yn.l2 yn.dA
  rw[aE (by omega),ayz,aF (by omega) (by omega),ayz,ayD,ak (x:=(i:Int)+1) (by omega) (by omega),ae,Li,ayy,cond_not,cq]
  by_cases hK:fj (l.getD i dT)
  ·rw[ayF hK]
   by_cases h0:0<i
   ·have e:W .i64 ((i:Int)-1)=((i-1:Nat):Int):=by rw[ak (by omega) (by omega)];omega
    dsimp only
    rw[aE (x:=0) (by omega),ayz,e,ayD,aF (by omega) (by omega),ayz,bm]
    by_cases hP:pb l i
    ·rw[ayF hP,ayE (by have h2:=hP.2;unfold p9 at h2;omega)];exact hr
    ·rw[ayE hP,ayF]
     have h2: ¬p9 i (l.getD (i-1) dT).1 (l.getD i dT).1:=fun h=>hP ⟨hK,h⟩
     unfold p9 at h2
     omega
   ·rw[az (x:=0) (by omega),ayB,ayF ⟨hK,fun h=>absurd h h0⟩];exact hr
  ·rw[ayE hK,ayE (fun h=>hK h.1)]
 ·unfold yn.l2 yn.dA
  rw[az (by omega),ayB,jW]
  congr 1;rw[aAm];omega
theorem lf(N:Nat){l:aU}(hl:l.length≤100000)(hN:200000≤N):jL N l=some (eF l):=by
 unfold jL jL.b
 by_cases h32:32<l.length
 ·rw[aE (by omega),ayz];unfold eF
  rw[ayR (p:=l.length≤32) (by omega),aB9]
 rw[az (by omega),ayB]
 have:=eR (F:=fun n i=>jL.l4 N n l i) (e:=true) (pb l) (fun n i r hi hp hr=> ?_) (fun n=> ?_) N (show l.length<N by omega)
 ·refine Eq.trans this ?_
  unfold eF
  rw[ayO (p:=l.length≤32) (by omega)]
 ·unfold jL.l4 jL.cD
  rw[aE (by omega),ayz,aF (by omega) (by omega),ayz,ayD,ak (x:=(i:Int)+1) (by omega) (by omega),ae,tc,ayy,cond_not,cq]
  by_cases hK:fj (l.getD i dT)
  ·rw[ayF hK]
   by_cases h0:0<i
   ·have e:W .i64 ((i:Int)-1)=((i-1:Nat):Int):=by rw[ak (by omega) (by omega)];omega
    dsimp only
    rw[aE (x:=0) (by omega),ayz,ayz,e,ayD,aF (by omega) (by omega),ayz,bm]
    by_cases hP:pb l i
    ·rw[ayF hP,ayE (by have h2:=hP.2;unfold p9 at h2;omega)];exact hr
    ·rw[ayE hP,ayF]
     have h2: ¬p9 i (l.getD (i-1) dT).1 (l.getD i dT).1:=fun h=>hP ⟨hK,h⟩
     unfold p9 at h2
     omega
   ·rw[az (x:=0) (by omega),ayB,ayF ⟨hK,fun h=>absurd h h0⟩];exact hr
  ·rw[ayE hK,ayE (fun h=>hK h.1)]
 ·unfold jL.l4 jL.cD
  rw[az (by omega),ayB]
end VM
end
section
namespace VM
open Go VM.F
def ib(id:Int):av→Int
 |[]=>0
 |x::t=>if x.1=id then x.2.1 else ib id t
def sA(id:Int):aD→bp×Bool
 |[]=>(aJ,false)
 |x::t=>if x.1=id then(x,true)else sA id t
def qQ(id:Int):aD→Int
 |[]=>0
 |x::t=>if x.2.1=id then(if x.2.2.1=1 then x.1 else qQ id t)else qQ id t
theorem vQ(id:Int)(x:Lk)(t:av):ib id (x::t)=if x.1=id then x.2.1 else ib id t:=rfl
theorem qR(id:Int)(x:bp)(t:aD):sA id (x::t)=if x.1=id then(x,true)else sA id t:=rfl
theorem yp(id:Int)(x:bp)(t:aD):qQ id (x::t)=if x.2.1=id then(if x.2.2.1=1 then x.1 else qQ id t)else qQ id t:=rfl
theorem HU(N:Nat){m:av}(hl:m.length≤100000)(hN:200000≤N)(id:Int):vR.l4 N N id m (m.length:Int) 0=some (ib id m):=by
 refine vN m bL (fun n i=>vR.l4 N n id m (m.length:Int) i) (fun l=>some (ib id l)) (fun n i hi hr=> ?_) (fun n=> ?_) N (by omega)
 ·unfold vR.l4 vR.cD
  rw[aE (by omega),ayz,aF (by omega) (by omega),ayz,ayD,ak (x:=(i:Int)+1) (by omega) (by omega),ae,hr,au]
  rw[vQ]
  split<;>rfl
 ·unfold vR.l4 vR.cD
  rw[az (by omega),ayB];rfl
theorem lh(N:Nat){m:av}(hl:m.length≤100000)(hN:200000≤N)(id:Int):jM N m id=some (ib id m):=by
 unfold jM jM.b
 refine vN m bL (fun n i=>jM.l2 N n m id i) (fun l=>some (ib id l)) (fun n i hi hr=> ?_) (fun n=> ?_) N (by omega)
 ·unfold jM.l2 jM.dA
  rw[aE (by omega),ayz,aF (by omega) (by omega),ayz,ayz,ayD,ak (x:=(i:Int)+1) (by omega) (by omega),ae,hr,au]
  rw[vQ]
  split<;>rfl
 ·unfold jM.l2 jM.dA
  rw[az (by omega),ayB];rfl
def mc(m:av)(id:Int):Int:=if jw m then ib id m else 0
theorem xf(N:Nat){m:av}(hl:m.length≤100000)(hN:200000≤N)(id:Int):vR N m id=some (mc m id):=by
 unfold vR vR.b mc
 rw[AU N hl hN,ayy,cond_not,HU N hl hN]
 cases jw m<;>rfl
theorem uH(N:Nat){m:av}(hl:m.length≤100000)(hN:200000≤N)(id:Int):vS N m id=some (mc m id):=by
 unfold vS mc
 rw[o9 N hl hN,ayy,cond_not,lh N hl hN]
 cases jw m<;>rfl
theorem OW(N:Nat){m:aD}(hl:m.length≤100000)(hN:200000≤N)(id:Int):lj.l4 N N id aJ m (m.length:Int) 0=some (sA id m):=by
 refine vN m aJ (fun n i=>lj.l4 N n id aJ m (m.length:Int) i) (fun l=>some (sA id l)) (fun n i hi hr=> ?_) (fun n=> ?_) N (by omega)
 ·unfold lj.l4 lj.cD
  rw[aE (by omega),ayz,aF (by omega) (by omega),ayz,ayD,ak (x:=(i:Int)+1) (by omega) (by omega),ae,hr,au]
  rw[qR]
  split<;>rfl
 ·unfold lj.l4 lj.cD
  rw[az (by omega),ayB];rfl
theorem vT(N:Nat){m:aD}(hl:m.length≤100000)(hN:200000≤N)(id:Int):kN N m id=some (sA id m):=by
 unfold kN kN.b
 refine vN m aJ (fun n i=>kN.l2 N n m id aJ i) (fun l=>some (sA id l)) (fun n i hi hr=> ?_) (fun n=> ?_) N (by omega)
 ·unfold kN.l2 kN.dA
  rw[aE (by omega),ayz,aF (by omega) (by omega),ayz,ayz,ayD,ak (x:=(i:Int)+1) (by omega) (by omega),ae,hr,au]
  rw[qR]
  split<;>rfl
 ·unfold kN.l2 kN.dA
  rw[az (by omega),ayB];rfl
theorem HV(N:Nat){m:aD}(hl:m.length≤100000)(hN:200000≤N)(id:Int):uI.l4 N N m id 0=some (qQ id m):=by
 refine vN m aJ (fun n i=>uI.l4 N n m id i) (fun l=>some (qQ id l)) (fun n i hi hr=> ?_) (fun n=> ?_) N (by omega)
 ·unfold uI.l4 uI.cD
  rw[aE (by omega),ayz,aF (by omega) (by omega)]
  simp only[ayz]
  rw[ayD,ak (x:=(i:Int)+1) (by omega) (by omega),ae,hr,au,au]
  rw[yp]
  split
  ·split<;>rfl
  ·rfl
 ·unfold uI.l4 uI.cD
  rw[az (by omega),ayB];rfl
end VM
end
section
namespace VM
open Go VM.F
def gj(a b:Int):Prop:=a=b
instance(a b:Int):Decidable (gj a b):=by unfold gj;infer_instance
def ud(l:aD)(k:Nat)(m:Int):Prop:=gj (l.getD k aJ).2.2.1 1∧gj (l.getD k aJ).2.1 m
instance(l:aD)(k:Nat)(m:Int):Decidable (ud l k m):=by unfold ud;infer_instance
def iT(l:aD)(i:Nat)(m:Int):Bool:=(List.range i).any fun k=>decide (ud l k m)
theorem HW{l:aD}{i:Nat}{m:Int}:iT l i m=true↔ ∃k,k<i∧ud l k m:=by
 unfold iT
 rw[aBq]
 simp only[aAN,azB]
theorem qS(l:aD)(i:Nat)(m:Int):iT l (i+1) m=(iT l i m||decide (ud l i m)):=by
 unfold iT
 rw[aBZ,List.any_append];simp
def jf(a b c d:Int):Prop:=(1≤a∧a≤24)∧(1≤b∧b≤12)∧(c=1∨c=2)∧(0≤d∧d≤1000000000000)
instance(a b c d:Int):Decidable (jf a b c d):=by unfold jf;infer_instance
def gP(l:aD)(i:Nat):Prop:= ¬(gj (l.getD i aJ).2.2.1 1∧iT l i (l.getD i aJ).2.1=true)
instance(l:aD)(i:Nat):Decidable (gP l i):=by unfold gP;infer_instance
def vU(l:aD)(i:Nat):Prop:=jf (l.getD i aJ).1 (l.getD i aJ).2.1 (l.getD i aJ).2.2.1 (l.getD i aJ).2.2.2.1∧p9 i (l.getD (i-1) aJ).1 (l.getD i aJ).1∧gP l i
instance(l:aD):DecidablePred (vU l):=fun i=>by unfold vU;infer_instance
def kf(l:aD):Bool:=decide (∀j,j<l.length→vU l j)&&true
def dB(l:aD)(i:Nat):List Bool:=(List.range 13).map fun(m:Nat)=>iT l i (m:Int)
theorem OX{l:aD}{i:Nat}{b:Int}(h0:0≤b)(h1:b<13):(dB l i).getD b.toNat false=iT l i b:=by
 unfold dB
 rw[ayC,az0,List.getElem?_range (by omega)]
 show iT l i ((b.toNat:Nat):Int)=_
 rw[azM h0]
theorem HX{l:aD}{i:Nat}(h: ¬gj (l.getD i aJ).2.2.1 1):dB l (i+1)=dB l i:=by
 unfold dB
 refine aAf fun m _=> ?_
 rw[qS,ayR (fun h'=>h h'.1),aAV]
theorem Ll{l:aD}{i:Nat}(h:gj (l.getD i aJ).2.2.1 1)(h0:(0:Int)≤(l.getD i aJ).2.1):(dB l i).set ((l.getD i aJ).2.1:Int).toNat true=dB l (i+1):=by
 refine List.ext_getElem (by unfold dB;simp) fun k h1 h2=> ?_
 unfold dB at*
 rw[List.getElem_set]
 simp only[List.getElem_map,aBA]
 rw[qS]
 by_cases hk:((l.getD i aJ).2.1:Int).toNat=k
 ·rw[ayF hk,ayO (show ud l i (k:Int)from⟨h,by unfold gj;omega⟩),Bool.or_true]
 ·rw[ayE hk,ayR (fun h':ud l i (k:Int)=>hk (by have:=h'.2;unfold gj at this;omega)),aAV]
theorem No(N:Nat){l:aD}(hl:l.length≤100000)(hN:200000≤N):jN N l=some (kf l):=by
 unfold jN jN.b
 have h0:(List.replicate 13 false:List Bool)=dB l 0:=by unfold dB iT;rfl
 rw[h0]
 have:=eR (F:=fun n i=>jN.l3 N n l (dB l i.toNat) l (l.length:Int) i) (e:=true) (vU l) (fun n i r hi hp hr=> ?_) (fun n=> ?_) N (show l.length<N by omega)
 ·exact this
 ·simp only[ayD]at hr ⊢
  unfold jN.l3 jN.jU
  rw[aE (by omega),ayz,aF (by omega) (by omega),ayz]
  simp only[ayD]
  rw[ak (x:=(i:Int)+1) (by omega) (by omega),ae]
  by_cases hF:jf (l.getD i aJ).1 (l.getD i aJ).2.1 (l.getD i aJ).2.2.1 (l.getD i aJ).2.2.2.1
  ·have Np:=hF
   unfold jf at Np
   have hT:cond (aA (l.getD i aJ).2.2.1 1) (cond (aI (l.getD i aJ).2.1 13) (cond (List.getD (dB l i) (l.getD i aJ).2.1.toNat false) (some false) (cond (aI (l.getD i aJ).2.1 13) (jN.l3 N n l (List.set (dB l i) (l.getD i aJ).2.1.toNat true) l (l.length:Int) ((i+1:Nat):Int)) none)) none) (jN.l3 N n l (dB l i) l (l.length:Int) ((i+1:Nat):Int))=if gP l i then r else some false:=by
    rw[au]
    by_cases hk:gj (l.getD i aJ).2.2.1 1
    ·have Am:=hk
     unfold gj at Am
     rw[ayF Am,aF (by omega) (by omega),ayz,ayz,OX (by omega) (by omega),Ll hk (by omega),hr]
     by_cases ho:iT l i (l.getD i aJ).2.1=true
     ·have pU: ¬gP l i:=fun h=>h ⟨hk,ho⟩
      rw[ayE pU,ho];rfl
     ·have pU:gP l i:=fun h=>ho h.2
      rw[ayF pU,aAY.2 ho];rfl
    ·have Am:=hk
     unfold gj at Am
     rw[ayE Am,ayF (show gP l i from fun h=>hk h.1),←HX hk,hr]
   have hP:vU l i↔p9 i (l.getD (i-1) aJ).1 (l.getD i aJ).1∧gP l i:=⟨fun h=>h.2,fun h=>⟨hF,h⟩⟩
   have hD:(if vU l i then r else some false)=if p9 i (l.getD (i-1) aJ).1 (l.getD i aJ).1 then(if gP l i then r else some false)else some false:=by
    by_cases h1:p9 i (l.getD (i-1) aJ).1 (l.getD i aJ).1<;>by_cases h2:gP l i<;>simp[hP,h1,h2]
   rw[hD]
   rw[hT]
   rw[az (by omega),ayB,az (by omega),ayB,az (by omega),ayB,az (by omega),ayB,az (x:=(l.getD i aJ).2.2.2.1) (by omega),az (x:=1000000000000) (by omega)]
   simp only[ayB]
   have hm: ∀{α:Type} (x:α) (y:α),cond (!aA (l.getD i aJ).2.2.1 1) (cond (!aA (l.getD i aJ).2.2.1 2) y x) x=x:=by
    intro α x y
    rcases Np.2.2.1 with h|h
    ·rw[cQ h];rfl
    ·rw[cQ (y:=2) h];cases aA (l.getD i aJ).2.2.1 1<;>rfl
   rw[hm]
   by_cases h0:0<i
   ·have e:W .i64 ((i:Int)-1)=((i-1:Nat):Int):=by rw[ak (by omega) (by omega)];omega
    rw[aE (x:=0) (by omega),ayz,e,ayD,aF (by omega) (by omega),ayz,bm]
    by_cases h1:p9 i (l.getD (i-1) aJ).1 (l.getD i aJ).1
    ·rw[ayF h1,ayE (by unfold p9 at h1;omega)]
    ·rw[ayE h1,ayF (by unfold p9 at h1;omega)]
   ·rw[az (x:=0) (by omega),ayB,ayF (show p9 i (l.getD (i-1) aJ).1 (l.getD i aJ).1 from fun h=>absurd h h0)]
  ·rw[ayE (fun h=>hF h.1)]
   unfold jf at hF
   generalize cond (aA (l.getD i aJ).2.2.1 1) (cond (aI (l.getD i aJ).2.1 13) (cond (List.getD (dB l i) (l.getD i aJ).2.1.toNat false) (some false) (cond (aI (l.getD i aJ).2.1 13) (jN.l3 N n l (List.set (dB l i) (l.getD i aJ).2.1.toNat true) l (l.length:Int) ((i+1:Nat):Int)) none)) none) (jN.l3 N n l (dB l i) l (l.length:Int) ((i+1:Nat):Int))=t
   generalize cond (aG 0 (i:Int)) _ _=u
   simp only[cond_not,aL,au]
   repeat' split
   all_goals first|rfl|omega
 ·unfold jN.l3 jN.jU
  rw[az (by omega),ayB]
end VM
end
section
namespace VM
open Go VM.F
theorem xg(N:Nat)(K:aD→Int→Option Bool){l:aD}(hl:l.length≤100000){i:Nat}(hi:i<l.length): ∀(m n k:Nat),i-k≤m→m<n→k≤i→(gj (l.getD i aJ).2.2.1 1→iT l k (l.getD i aJ).2.1=false)→
  iU.l8 N K n l (i:Int) (l.getD i aJ) (k:Int)=if gP l i then K l ((i+1:Nat):Int)else some false
 |m,0,k,_,hn,_,_=>by omega
 |m,n+1,k,hm,hn,hk,h=>by
  unfold iU.l8 iU.zL
  by_cases Av:k<i
  ·rw[aE (by omega),ayz,aF (by omega) (by omega),ayz,ayz,ayD,ak (x:=(k:Int)+1) (by omega) (by omega),ae,au,au,au]
   by_cases h1:gj (l.getD i aJ).2.2.1 1
   ·have m9:=h1
    unfold gj at m9
    rw[ayF m9]
    by_cases h2:ud l k (l.getD i aJ).2.1
    ·have ua:=h2
     unfold ud gj at ua
     have pU: ¬gP l i:=fun h3=>h3 ⟨h1,HW.2 ⟨k,Av,h2⟩⟩
     rw[ayF ua.1,ayF ua.2,ayE pU]
    ·have vO:=xg N K hl hi (m-1) n (k+1) (by omega) (by omega) (by omega) (fun _=>by rw[qS,h h1,ayR h2];rfl)
     split
     ·split
      ·rename_i h3 h4
       exact absurd (show ud l k (l.getD i aJ).2.1 from⟨h3,h4⟩) h2
      ·exact vO
     ·exact vO
   ·have m9:=h1
    unfold gj at m9
    rw[ayE m9]
    exact xg N K hl hi (m-1) n (k+1) (by omega) (by omega) (by omega) (fun h=>absurd h h1)
  ·have:k=i:=by omega
   subst this
   have pU:gP l k:=fun h3=>by rw[h h3.1]at h3;exact nomatch h3.2
   rw[az (by omega),ayB,ayF pU,ak (x:=(k:Int)+1) (by omega) (by omega)];rfl
set_option maxHeartbeats 2000000 in
theorem vV(N:Nat){l:aD}(hl:l.length≤100000)(hN:200000≤N):iU N l=some (kf l):=by
 unfold iU iU.b
 refine eR (F:=fun n i=>iU.l2 N n l i) (vU l) (fun n i r hi hp hr=> ?_) (fun n=> ?_) N (by omega)
 ·unfold iU.l2 iU.dA
  have hT:iU.j7 N (iU.l2 N n) l (i:Int) (l.getD i aJ)=if gP l i then r else some false:=by
   unfold iU.j7 iU.K8
   have:=xg N (iU.l2 N n) hl hi i N 0 (by omega) (by omega) (by omega) (fun _=>rfl)
   rw[hr]at this
   exact this
  rw[aE (by omega),ayz,aF (by omega) (by omega),ayz]
  simp only[ayD]
  rw[hT]
  have hD:(if vU l i then r else some false)=if jf (l.getD i aJ).1 (l.getD i aJ).2.1 (l.getD i aJ).2.2.1 (l.getD i aJ).2.2.2.1∧p9 i (l.getD (i-1) aJ).1 (l.getD i aJ).1 then(if gP l i then r else some false)else some false:=by
   unfold vU
   by_cases h1:p9 i (l.getD (i-1) aJ).1 (l.getD i aJ).1<;>by_cases h2:gP l i<;>by_cases h3:jf (l.getD i aJ).1 (l.getD i aJ).2.1 (l.getD i aJ).2.2.1 (l.getD i aJ).2.2.2.1<;>simp[h1,h2,h3]
  rw[hD]
  generalize (if gP l i then r else some false)=t
  by_cases h0:0<i
  ·have e:W .i64 ((i:Int)-1)=((i-1:Nat):Int):=by rw[ak (by omega) (by omega)];omega
   rw[aE (x:=0) (y:=(i:Int)) (by omega),e]
   simp only[ayz,ayD]
   rw[aF (i:=((i-1:Nat):Int)) (by omega) (by omega)]
   simp only[cond_not,aL,bm,au,ayz]
   by_cases hP:jf (l.getD i aJ).1 (l.getD i aJ).2.1 (l.getD i aJ).2.2.1 (l.getD i aJ).2.2.2.1∧p9 i (l.getD (i-1) aJ).1 (l.getD i aJ).1
   ·rw[ayF hP];unfold jf p9 at hP
    repeat' split
    all_goals first|rfl|omega
   ·rw[ayE hP];unfold jf p9 at hP
    repeat' split
    all_goals first|rfl|omega
  ·rw[az (x:=0) (y:=(i:Int)) (by omega)]
   simp only[cond_not,aL,bm,au,ayz,ayB]
   by_cases hP:jf (l.getD i aJ).1 (l.getD i aJ).2.1 (l.getD i aJ).2.2.1 (l.getD i aJ).2.2.2.1∧p9 i (l.getD (i-1) aJ).1 (l.getD i aJ).1
   ·rw[ayF hP];unfold jf p9 at hP
    repeat' split
    all_goals first|rfl|omega
   ·rw[ayE hP];unfold jf p9 at hP
    repeat' split
    all_goals first|rfl|omega
 ·unfold iU.l2 iU.dA
  rw[az (by omega),ayB]
end VM
end
section
namespace VM
open Go VM.F
def dP(a:aD)(id:Int):bp×Bool:=if kf a then sA id a else(aJ,false)
theorem Nq(N:Nat){a:aD}(hl:a.length≤100000)(hN:200000≤N)(id:Int):lj N a id=some (dP a id):=by
 unfold lj lj.b dP
 rw[No N hl hN,ayy,cond_not,OW N hl hN]
 cases kf a<;>rfl
theorem AZ(N:Nat){a:aD}(hl:a.length≤100000)(hN:200000≤N)(id:Int):A0 N a id=some (dP a id):=by
 unfold A0 dP
 rw[vV N hl hN,ayy,cond_not,vT N hl hN]
 cases kf a<;>rfl
def zM(a:aD)(id:Int):Int:=if kf a then qQ id a else 0
theorem xh(N:Nat){a:aD}(hl:a.length≤100000)(hN:200000≤N)(id:Int):uI N a id=some (zM a id):=by
 unfold uI uI.b zM
 rw[vV N hl hN,ayy,cond_not,HV N hl hN]
 cases kf a<;>rfl
def ic(m:av)(a:aD)(i:Nat):Prop:= ¬gj (ib (a.getD i aJ).2.1 m) 0
instance(m:av)(a:aD):DecidablePred (ic m a):=fun i=>by unfold ic;infer_instance
def sB(m:av)(a:aD):Bool:=jw m&&(kf a&&(decide (∀j,j<a.length→ic m a j)&&true))
theorem Vq(N:Nat){m:av}{a:aD}(hm:m.length≤100000)(hl:a.length≤100000)(hN:200000≤N):zf N m a=some (sB m a):=by
 unfold zf zf.b sB
 rw[AU N hm hN,ayy,cond_not,No N hl hN,ayy,cond_not]
 cases hM:jw m
 ·rfl
 cases kf a
 ·rfl
 rw[aAa,aAa,ayz,ayz]
 refine eR (F:=fun n i=>zf.l4 N n m a (a.length:Int) i) (ic m a) (fun n i r hi hp hr=> ?_) (fun n=> ?_) N (by omega)
 ·unfold zf.l4 zf.cD
  rw[aE (by omega),ayz,aF (by omega) (by omega),ayz,ayD,ak (x:=(i:Int)+1) (by omega) (by omega),ae,xf N hm hN,ayy,au]
  unfold mc
  rw[hM,ayF rfl]
  by_cases hP:ic m a i
  ·rw[ayF hP,ayE (show ¬((ib (a.getD i aJ).2.1 m:Int)=0)from fun h=>hP h)];exact hr
  ·rw[ayE hP,ayF (show(ib (a.getD i aJ).2.1 m:Int)=0 by unfold ic at hP;exact Decidable.not_not.1 hP)]
 ·unfold zf.l4 zf.cD
  rw[az (by omega),ayB]
theorem A2(N:Nat){m:av}{a:aD}(hm:m.length≤100000)(hl:a.length≤100000)(hN:200000≤N):ll N m a=some (sB m a):=by
 unfold ll ll.b sB
 rw[o9 N hm hN,ayy,cond_not,vV N hl hN,ayy,cond_not]
 cases hM:jw m
 ·rfl
 cases kf a
 ·rfl
 rw[aAa,aAa,ayz,ayz]
 refine eR (F:=fun n i=>ll.l4 N n m a i) (ic m a) (fun n i r hi hp hr=> ?_) (fun n=> ?_) N (by omega)
 ·unfold ll.l4 ll.cD
  rw[aE (by omega),ayz,aF (by omega) (by omega),ayz,ayD,ak (x:=(i:Int)+1) (by omega) (by omega),ae,lh N hm hN,ayy,au]
  by_cases hP:ic m a i
  ·rw[ayF hP,ayE (show ¬((ib (a.getD i aJ).2.1 m:Int)=0)from fun h=>hP h)];exact hr
  ·rw[ayE hP,ayF (show(ib (a.getD i aJ).2.1 m:Int)=0 by unfold ic at hP;exact Decidable.not_not.1 hP)]
 ·unfold ll.l4 ll.cD
  rw[az (by omega),ayB]
end VM
end
section
namespace VM
open Go VM.F
theorem RF(a b:aT):jT (.pair (.int .i64) (.pair (.int .u64) .unit)) a b=(aA a.1 b.1&&(aA a.2.1 b.2.1&&true)):=rfl
theorem vW(N:Nat){u v:Int}:CY N (bl u) (bl v)=some (lW (u-v)):=by
 unfold CY
 rw[RF]
 unfold bl
 dsimp only
 unfold lW
 rw[aL,au,aL,azW,gh,gh]
 have hu:u=u/18446744073709551616*18446744073709551616+u%18446744073709551616:=by omega
 have hv:v=v/18446744073709551616*18446744073709551616+v%18446744073709551616:=by omega
 by_cases h1:u/18446744073709551616<v/18446744073709551616
 ·rw[ayF h1];congr 1;split<;>(try split)<;>omega
 ·rw[ayE h1]
  by_cases h2:u/18446744073709551616=v/18446744073709551616
  ·rw[ayF h2,ayO h2,aAa]
   by_cases h3:u%18446744073709551616<v%18446744073709551616
   ·rw[ayF h3];congr 1;split<;>(try split)<;>omega
   ·rw[ayE h3]
    by_cases h4:u%18446744073709551616=v%18446744073709551616
    ·rw[ayO h4,ayz];congr 1;split<;>(try split)<;>omega
    ·rw[ayR h4,ayB];congr 1;split<;>(try split)<;>omega
  ·rw[ayE h2,ayR h2,aA3,ayB];congr 1;split<;>(try split)<;>omega
theorem Lm:bl 0=bL:=rfl
theorem n0(N:Nat){u:Int}:Qp N (bl u)=some (lW u):=by
 unfold Qp
 rw[←Lm,vW,ayy,aCd]
end VM
end
