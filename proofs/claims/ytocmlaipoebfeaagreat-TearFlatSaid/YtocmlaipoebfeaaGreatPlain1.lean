/- A part of the proof of TearFlat of layer 29: what the functions compute, in plain words. -/
import Derived.Test.YtocmlaipoebfeaaGreatPlain0
import Derived.Test.YtocmlaipoebfeaaGreatText
set_option linter.all false
section
namespace VM
open Go VM.F
theorem ZU{x:Int}(h0:0≤x)(h1:x<18446744073709551616):mR .and .u64 x 1=x%2:=by
 rw[MP h0 h1 ω ω]
 have:=Lv x.toNat 1
 rw[show((1:Int).toNat)=2^1-1 from rfl,this]
 omega
theorem HG{l:List Int}{k:Nat}(x:Int)(h:k<l.length):cV ((l.set k x).drop k)=x+4294967296*cV (l.drop (k+1)):=by
 rw[kT,ku l x h,List.drop_set_of_lt ω]
theorem Ix(N:Nat){d:List Int}(hd:VD d)(hl:d.length≤100000)(hN:4000000≤N): ∀(k n:Nat) (out:List Int) (c:Int),k≤d.length→k<n→VD out→out.length=d.length→c=cV (d.drop k)%2→cV (out.drop k)=cV (d.drop k)/2→
  pO.l4 N n d out c ((k:Int)-1)=some (lP (cV d/2).toNat,cV d%2)
 |k,0,out,c,_,hn,_,_,_,_=>ω
 |0,n+1,out,c,_,_,ho,Im,hc,hv=>by
  unfold pO.l4 pO.dH
  simp (disch:=omega) only[aP,aL,dL,dB,dt,du,aQ,bQ,cj,dq,aw,cv,ak,ar,aY,cz,av,aE,cZ,ae,aT,aK,bB,ck,aW,bZ,Kd N ho ω ω]
  rw[cM,cM]at hv
  rw[cM]at hc
  rw[hv,hc]
 |k+1,n+1,out,c,hk,hn,ho,Im,hc,hv=>by
  unfold pO.l4 pO.dH
  have e:((k+1:Nat):Int)-1=(k:Int):=ω
  obtain⟨g0,g1⟩:=hd.getD k
  have hn0:=kp (hd.drop (k+1))
  have e1:=kT d k
  simp only[e,aE]
  rw[afS ω]
  generalize hx:d.getD k 0=x at*
  rw[cv (x:=c*4294967296) ω ω,Tx g0 g1 ω ω]
  simp (disch:=omega) only[aP,aL,dL,dB,dt,du,aQ,bQ,cj,dq,aw,cv,ak,ar,aY,cz,av,aE,cZ,ae,aT,aK,bB,ck,aW,bZ,amS,ZU]
  refine Ix N hd hl hN k n (out.set k ((x+c*4294967296)/2)) ((x+c*4294967296)%2) ω ω (ho.set _ ω ω) (by rw[bB];exact Im) (by rw[e1,hc];omega) ?_
  rw[HG _ ω,hv,e1]
  omega
theorem ZV(N:Nat)(hN:4000000≤N)(m:Nat)(h:(lP m).length≤100000):pO N (lP m)=some (lP (m/2),((m%2:Nat):Int)):=by
 unfold pO pO.b
 simp (disch:=omega) only[aP,aL,dL,dB,dt,du,aQ,bQ,cj,dq,aw,cv,ak,ar,aY,cz,av,aE,cZ,ae,aT,aK,bB,ck,aW,bZ]
 have:=Ix N (kq m) h hN (lP m).length N (List.replicate (lP m).length 0) 0 (aI _) ω (VD.afR _) (by simp) (by rw[lD];rfl) (by rw[lD,kJ (by simp)];rfl)
 rw[g9]at this
 rw[this]
 congr 2
def bin(n:Nat):List Int:=if n=0 then []else((n%2:Nat):Int)::bin (n/2)
termination_by n
decreasing_by omega
theorem D7{n:Nat}(h:n≠0):bin n=((n%2:Nat):Int)::bin (n/2):=by rw[bin];simp[h]
theorem wY:bin 0=[]:=by rw[bin];rfl
def Ar:List Int→Int
 |[]=>0
 |d::r=>d+2*Ar r
theorem ZW(n:Nat):Ar (bin n)=n:=by
 induction n using Nat.strongRecOn with
 |_ n ih=>
  by_cases h:n=0
  ·subst h;rw[wY];rfl
  ·rw[D7 h,Ar,ih _ ω];omega
theorem ZX(n:Nat): ∀d∈bin n,d=0∨d=1:=by
 induction n using Nat.strongRecOn with
 |_ n ih=>
  by_cases h:n=0
  ·subst h;rw[wY];intro d hd;cases hd
  ·rw[D7 h];intro d hd
   rcases aX.1 hd with rfl|hd
   ·omega
   ·exact ih _ ω d hd
theorem ZY(k:Nat): ∀n,n<2^k→(bin n).length≤k:=by
 induction k with
 |zero=>
  intro n h;have:n=0:=by simpa using h
  subst this;rw[wY];simp
 |succ k ih=>
  intro n h
  by_cases hn:n=0
  ·subst hn;rw[wY];simp
  ·rw[D7 hn,aW]
   have:=ih (n/2) (by rw[o8]at h;omega)
   omega
theorem Wo{n k:Nat}(h:n<4294967296^k):(bin n).length≤32*k:=ZY _ _ (nc h (by rw[Nat.pow_mul];exact aI _))
theorem Iy(N:Nat)(hN:4000000≤N)(x2 x3 x4 x5:aF): ∀(m n:Nat) (t:Nat) (bits:List Int),(bin t).length≤m→m<n→(lP t).length≤100000→bits.length+(bin t).length≤4000000→
  iA.l3 N n x2 x3 x4 x5 bits (lP t)=iA.l9 N N x2 x3 x4 x5 (bits++bin t) (false,([],())) (false,([],())) (((bits++bin t).length:Int)-1)
 |m,0,t,bits,_,hn,_,_=>ω
 |m,n+1,t,bits,hm,hn,hd,hb=>by
  unfold iA.l3 iA.lB
  by_cases ht:t=0
  ·subst ht
   rw[ko,wY]
   simp (disch:=omega) only[aP,aL,dL,dB,dt,du,aQ,bQ,cj,dq,aw,cv,ak,ar,aY,cz,av,aE,cZ,ae,aT,aK,bB,ck,aW,bZ,cK]
  ·have Mk:0<(lP t).length:=by
    apply o0.2
    intro h;rw[Al]at h;omega
   rw[D7 ht]at hm hb ⊢
   rw[aW]at hm hb
   have hdl:(lP (t/2)).length≤100000:=by
    have:=Kc _ t hd
    exact xC _ _ (Nat.lt_of_le_of_lt (Nat.div_le_self _ _) this)
   simp (disch:=omega) only[aP,aL,dL,dB,dt,du,aQ,bQ,cj,dq,aw,cv,ak,ar,aY,cz,av,aE,cZ,ae,aT,aK,bB,ck,aW,bZ,ZV N hN t hd]
   rw[Iy N hN x2 x3 x4 x5 (m-1) n (t/2) (bits++[((t%2:Nat):Int)]) ω ω hdl (by simp;omega)]
   simp
theorem Tz(l:List Int){i:Nat}(h:i<l.length):Ar (l.drop i)=l.getD i 0+2*Ar (l.drop (i+1)):=by
 rw[lX h,Ar,aR,bl h];rfl
theorem CP: ∀{l:List Int},(∀d∈l,d=0∨d=1)→0≤Ar l
 |[],_=>fx _
 |d::r,h=>by
  have h1:=CP (l:=r) λx hx=>h x (a8 _ hx)
  have:=h d (bp ..)
  simp only[Ar];omega
theorem vb: ∀(l:List Int) (i:Nat),(∀d∈l,d=0∨d=1)→Ar (l.drop i)≤Ar l
 |l,0,_=>fx _
 |[],i+1,_=>fx _
 |d::r,i+1,h=>by
  have h1:=vb r i λx hx=>h x (a8 _ hx)
  have h2:=CP (l:=r) λx hx=>h x (a8 _ hx)
  have:=h d (bp ..)
  rw[List.drop_succ_cons,Ar];omega
theorem ue(N:Nat)(hN:4000000≤N)(a d:Int)(hd:0<d)(Ll:Fit a 80000)(TA:Fit d 80000)(x4 x5:aF){bits:List Int}(hb: ∀x∈bits,x=0∨x=1)(hbv:Ar bits=a.natAbs)(vD:bits.length≤4000000):
  ∀(k n:Nat) (q r:Int),k≤bits.length→k<n→0≤q→0≤r→r<d→Ar (bits.drop k)=q*d+r→
  iA.l9 N n (di a) (di d) x4 x5 bits (di q) (di r) ((k:Int)-1)=some (di (a/d),di (a%d))
 |k,0,q,r,_,hn,_,_,_,_=>ω
 |0,n+1,q,r,_,_,hq,hr,lh,hv=>by
  unfold iA.l9 iA.zg
  rw[cM,hbv]at hv
  have hqa:q≤a.natAbs:=by
   have:q*1≤q*d:=p3 ω hq
   omega
  have fq:Fit q 900000:=(Ll.of_le (u:=q) ω).mono ω
  have fr:Fit r 900000:=(TA.of_le (u:=r) ω).mono ω
  have f1:Fit 1 900000:=(Fit.i64 (v:=1) ω ω).mono ω
  have fq':Fit (-q) 900000:=fq.neg
  have fd:Fit d 900000:=TA.mono ω
  rw[dB ω,ar]
  by_cases ha:a<0
  ·have hna:(a.natAbs:Int)= -a:=ω
   have e0:(di a).1=true:=bs ha
   simp only[e0,aY,ar,p9,av]
   by_cases YH:r=0
   ·subst YH
    rw[dt (by unfold xD;simp),ak]
    simp only[oB N hN fq,av]
    have e1:a=d*(-q):=by rw[tM,eo];omega
    have e2:a/d= -q:=by rw[e1,Eu _ ω]
    have e3:a%d=0:=by rw[e1,ED]
    rw[e2,e3]
   ·rw[du (by unfold xD;rw[ah ω,aj ω];omega),ar]
    simp (disch:=omega) only[oB N hN fq,dC N ω (show-9223372036854775808≤(1:Int)by omega) ω,av,u7 N hN fq' f1,u7 N hN fd fr]
    have e1:a=(d-r)+d*(-q-1):=by rw[wu,tM,Int.mul_one,eo];omega
    have e2:a/d= -q-1:=by
     rw[e1,vZ _ _ ω,zr ω ω];omega
    have e3:a%d=d-r:=by rw[e1,zm,EF ω ω]
    rw[e2,e3]
  ·have hna:(a.natAbs:Int)=a:=ω
   have e0:(di a).1=false:=cg ha
   simp only[e0,cz,ak]
   have e1:a=r+d*q:=by rw[eo];omega
   have e2:a/d=q:=by rw[e1,vZ _ _ ω,zr hr lh];omega
   have e3:a%d=r:=by rw[e1,zm,EF hr lh]
   rw[e2,e3]
 |k+1,n+1,q,r,hk,hn,hq,hr,lh,hv=>by
  unfold iA.l9 iA.zg
  have e:((k+1:Nat):Int)-1=(k:Int):=ω
  have hle:=vb bits k hb
  have asF:=vb bits (k+1) hb
  rw[hbv]at hle asF
  have hqa:q≤a.natAbs:=by
   have:q*1≤q*d:=p3 ω hq
   omega
  have fq:Fit q 80000:=Ll.of_le ω
  have fr:Fit r 80000:=TA.of_le ω
  have fqq:=fq.add fq
  have frr:=fr.add fr
  have f1:Fit 1 80000:=(Fit.i64 (v:=1) ω ω).mono ω
  have hvk:=Tz bits (i:=k) ω
  have Du:bits.getD k 0=0∨bits.getD k 0=1:=by
   rw[aR,bl (show k<bits.length by omega)]
   exact hb _ (eL _)
  rw[e,dL ω,ak]
  have e2q:(q+q)*d=2*(q*d):=by rw[←Int.two_mul,gm]
  have am3:(q+q+1)*d=2*(q*d)+d:=by rw[iG,e2q,qV]
  simp (disch:=omega) only[aP,aL,dL,dB,dt,du,aQ,bQ,cj,dq,aw,cv,ak,ar,aY,cz,av,aE,cZ,ae,aT,aK,bB,ck,aW,bZ,jN N hN (fq.mono ω) (fq.mono ω),jN N hN (fr.mono ω) (fr.mono ω),dC N ω (show-9223372036854775808≤(1:Int)by omega) ω]
  rcases Du with Du|Du
  ·rw[Du,du ω,ar]
   simp only[Qb N hN (frr.mono ω) (TA.mono ω),av]
   by_cases YN:d≤r+r
   ·rw[dL (by unfold xD;split<;>(try split)<;>omega),ak]
    simp only[u7 N hN (frr.mono ω) (TA.mono ω),jN N hN (fqq.mono ω) (f1.mono ω),av]
    refine ue N hN a d hd Ll TA x4 x5 hb hbv vD k n _ _ ω ω ω ω ω ?_
    rw[hvk,Du,hv,am3];omega
   ·rw[dB (by unfold xD;rw[aj ω];omega),ar]
    refine ue N hN a d hd Ll TA x4 x5 hb hbv vD k n _ _ ω ω ω ω ω ?_
    rw[hvk,Du,hv,e2q];omega
  ·rw[Du,dt rfl,ak]
   have am4:=frr.add (f1.mono (show 80000≤80001 by omega))
   simp only[jN N hN (frr.mono ω) (f1.mono ω),Qb N hN (am4.mono ω) (TA.mono ω),av]
   by_cases YN:d≤r+r+1
   ·rw[dL (by unfold xD;split<;>(try split)<;>omega),ak]
    simp only[u7 N hN (am4.mono ω) (TA.mono ω),jN N hN (fqq.mono ω) (f1.mono ω),av]
    refine ue N hN a d hd Ll TA x4 x5 hb hbv vD k n _ _ ω ω ω ω ω ?_
    rw[hvk,Du,hv,am3];omega
   ·rw[dB (by unfold xD;rw[aj ω];omega),ar]
    refine ue N hN a d hd Ll TA x4 x5 hb hbv vD k n _ _ ω ω ω ω ω ?_
    rw[hvk,Du,hv,e2q];omega
theorem R4(N:Nat)(hN:5000000≤N){a d:Int}(hd:0<d)(Ll:Fit a 80000)(TA:Fit d 80000):iA N (di a) (di d)=some (di (a/d),di (a%d)):=by
 unfold iA iA.b
 have vD:(bin a.natAbs).length≤32*80000:=Wo Ll
 have h1:=Iy N ω (di a) (di d) (false,([],())) (false,([],())) (bin a.natAbs).length N a.natAbs [] (aI _) ω (cA Ll.len ω) (by simp;omega)
 rw[cL]at h1
 refine h1.trans ?_
 rw[←kU]
 exact ue N ω a d hd Ll TA _ _ (ZX _) (ZW _) ω (bin a.natAbs).length N 0 0 (aI _) ω ω ω hd (by rw[lD];simp[Ar])
end VM
end
section
namespace VM
open Go VM.F
def dM(v:Int):cN:=(v/18446744073709551616,(v%18446744073709551616,()))
theorem wmk{a b v:Int}(h1:a=v/18446744073709551616)(h2:b=v%18446744073709551616):((a,(b,())):cN)=dM v:=by
 unfold dM;rw[h1,h2]
theorem M8{a b v:Int}{α:Type}{c:α}(h1:a=v/18446744073709551616)(h2:b=v%18446744073709551616):(some (((a,(b,())):cN),c):Option (cN×α))=some (dM v,c):=by
 rw[wmk h1 h2]
theorem Wp{a b c d:Int}(h1:a=c)(h2:b=d):(some (a,b):Option (Int×Int))=some (c,d):=by rw[h1,h2]
theorem Fy(N:Nat){hi lo:Int}(h0:0≤hi)(h1:hi<9223372036854775808)(l0:0≤lo)(l1:lo<18446744073709551616):rr N false hi lo=some (dM (hi*18446744073709551616+lo),true):=by
 unfold rr rr.b
 rw[cz,ak,dB ω,ar,aw ω ω]
 exact M8 ω ω
theorem vd(N:Nat){hi lo:Int}(h0:0≤hi)(l0:0≤lo)(l1:lo<18446744073709551616)(hm:hi*18446744073709551616+lo≤170141183460469231731687303715884105728):rr N true hi lo=some (dM (-(hi*18446744073709551616+lo)),true):=by
 unfold rr rr.b
 have hj:rr.j7 N hi lo df=some (dM (-(hi*18446744073709551616+lo)),true):=by
  unfold rr.j7 rr.PG
  rw[uc N ω ω l0 l1 ω ω,av]
  by_cases hl:lo=0
  ·subst hl
   rw[ah ω]
   rw[uc N ω ω h0 ω ω ω,av,kS]
   exact M8 (by split<;>omega) ω
  ·rw[aj ω]
   rw[uc N ω ω h0 ω ω ω,av,kS]
   exact M8 (by split<;>omega) ω
 rw[aY,ar,aL ω,ar]
 by_cases he:hi=9223372036854775808
 ·rw[dt he,ak,aL ω,ar];exact hj
 ·rw[du he,ar];exact hj
theorem HH{a b:Int}(a0: -9223372036854775808≤a)(a1:a<9223372036854775808)(b0: -9223372036854775808≤b)(b1:b<9223372036854775808):
  0≤(a.natAbs:Int)*b.natAbs∧(a.natAbs:Int)*b.natAbs≤85070591730234615865843651857942052864:=by
 have:=mul_lt (m:=9223372036854775808) (n:=9223372036854775808) (show 0≤(a.natAbs:Int)by omega) (show 0≤(b.natAbs:Int)by omega) ω ω
 omega
theorem ZZ(N:Nat){a b:Int}(a0: -9223372036854775808≤a)(a1:a<9223372036854775808)(b0: -9223372036854775808≤b)(b1:b<9223372036854775808):Z0 N a b=some (dM (a*b)):=by
 unfold Z0
 have hm:=HH a0 a1 b0 b1
 simp only[D5 N a0 a1,D5 N b0 b1,av,Wg N (show 0≤(a.natAbs:Int)by omega) ω (show 0≤(b.natAbs:Int)by omega) ω,ud]
 obtain⟨m,hme⟩: ∃m,m=(a.natAbs:Int)*b.natAbs:=⟨_,rfl⟩
 rw[←hme]at hm ⊢
 have hd:m/18446744073709551616*18446744073709551616+m%18446744073709551616=m:=ω
 by_cases h1:a<0<;>by_cases h2:b<0
 ·rw[aP h1,aP h2,wg,aY,Fy N ω ω ω ω,av,hd]
  have:m=a*b:=by rw[hme,show(a.natAbs:Int)= -a from by omega,show(b.natAbs:Int)= -b from by omega,Int.neg_mul_neg]
  rw[this]
 ·rw[aP h1,aL (x:=b) ω,show(!(true==false))=true from rfl,vd N ω ω ω ω,av,hd]
  have:m= -(a*b):=by rw[hme,show(a.natAbs:Int)= -a from by omega,show(b.natAbs:Int)=b from by omega,Int.neg_mul]
  rw[this,Int.neg_neg]
 ·rw[aL (x:=a) ω,aP h2,show(!(false==true))=true from rfl,vd N ω ω ω ω,av,hd]
  have:m= -(a*b):=by rw[hme,show(a.natAbs:Int)=a from by omega,show(b.natAbs:Int)= -b from by omega,tM]
  rw[this,Int.neg_neg]
 ·rw[aL (x:=a) ω,aL (x:=b) ω,wg,aY,Fy N ω ω ω ω,av,hd]
  have:m=a*b:=by rw[hme,show(a.natAbs:Int)=a from by omega,show(b.natAbs:Int)=b from by omega]
  rw[this]
theorem Wq(N:Nat){v:Int}(v0: -170141183460469231731687303715884105728≤v)(v1:v<170141183460469231731687303715884105728):Z1 N (dM v)=some ((v.natAbs:Int)/18446744073709551616,(v.natAbs:Int)%18446744073709551616):=by
 unfold Z1 dM
 dsimp only
 by_cases h:0≤v
 ·rw[dL ω,ak,cv ω ω]
  exact Wp ω ω
 ·rw[dB ω,ar,uc N ω ω ω ω ω ω,av]
  dsimp only
  rw[rm]
  by_cases hl:v%18446744073709551616=0
  ·rw[ah ω,uc N ω ω ω ω ω ω,av]
   exact Wp ω ω
  ·rw[aj ω,uc N ω ω ω ω ω ω,av]
   exact Wp ω ω
theorem Z2{m d:Int}(hd:0<d)(hm:0≤m):m/d=m/18446744073709551616/d*18446744073709551616+(m/18446744073709551616%d*18446744073709551616+m%18446744073709551616)/d∧
  m%d=(m/18446744073709551616%d*18446744073709551616+m%18446744073709551616)%d:=by
 have e:=sE (m/18446744073709551616) d
 have e0:m=(m/18446744073709551616%d*18446744073709551616+m%18446744073709551616)+d*(m/18446744073709551616/d*18446744073709551616):=by
  rw[←gm];omega
 constructor
 ·conv=>lhs;rw[e0]
  rw[vZ _ _ ω];omega
 ·conv=>lhs;rw[e0]
  rw[zm]
theorem Z3(N:Nat)(hN:100≤N){v d:Int}(v0: -170141183460469231731687303715884105728≤v)(v1:v<170141183460469231731687303715884105728)(d0:0<d)(d1:d<9223372036854775808):
  ug N (dM v) d=some (dM (v/d),v%d,true):=by
 unfold ug ug.b
 rw[aL ω,ar,Wq N v0 v1,av,cv (x:=d) ω ω]
 dsimp only
 obtain⟨m,hm⟩: ∃m:Int,m=v.natAbs:=⟨_,rfl⟩
 rw[←hm]
 have hmd:=oQ (m/18446744073709551616) d0
 have asH:=o5 (m/18446744073709551616) (show d≠0 by omega)
 rw[MU N hN ω d0 ω ω ω,av,wo,lH]
 dsimp only
 rw[MU N hN asH hmd ω ω ω,av]
 dsimp only
 obtain⟨e1,e2⟩:=Z2 d0 (show 0≤m by omega)
 rw[←e2]
 have yh:0≤m/18446744073709551616/d:=me ω ω
 have hq1:m/18446744073709551616/d≤m/18446744073709551616:=Int.ediv_le_self _ ω
 have zf:=oQ m d0
 have YH:=o5 m (show d≠0 by omega)
 have hl0:0≤(m/18446744073709551616%d*18446744073709551616+m%18446744073709551616)/d:=me ω ω
 have ZM:(m/18446744073709551616%d*18446744073709551616+m%18446744073709551616)/d<18446744073709551616:=by
  rw[uN d0]
  have:=uH (show m/18446744073709551616%d+1≤d by omega) (show(0:Int)≤18446744073709551616 by omega)
  rw[iG,qV,eo d]at this;omega
 generalize (m/18446744073709551616%d*18446744073709551616+m%18446744073709551616)/d=ql at*
 generalize hqh:m/18446744073709551616/d=qh at*
 have hmq:=sE m d
 by_cases h:0≤v
 ·have hv:m=v:=ω
  rw[dL (show(0:Int)≤(dM v).1 by show 0≤v/_;omega),ak,aw (x:=qh) ω ω,aw (x:=m%d) ω ω,←hv]
  unfold dM
  exact M8 ω ω
 ·have hv:v= -m:=ω
  rw[dB (show(dM v).1<0 by show v/_<0;omega),ar]
  by_cases hr:0<m%d
  ·rw[aP hr,ak,Ak N hl0 ω ω ω,av]
   unfold ug.Kf ug.As
   dsimp only
   rw[cv (x:=d-m%d) ω ω,cv (x:=qh+(ql+1+0)/18446744073709551616) ω ω]
   rw[vd N ω ω ω (by
    have:m/d*1≤m/d*d:=p3 ω (me ω ω)
    rw[eo]at hmq;omega),av,aw (x:=d-m%d) ω ω]
   have e3:v=(d-m%d)+d*(-(m/d)-1):=by rw[hv,wu,tM,Int.mul_one];omega
   have e4:v/d= -(m/d)-1:=by
    rw[e3,vZ _ _ ω,zr ω ω];omega
   have e5:v%d=d-m%d:=by rw[e3,zm,EF ω ω]
   rw[e4,e5]
   dsimp only
   rw[show-((qh+(ql+1+0)/18446744073709551616)*18446744073709551616+(ql+1+0)%18446744073709551616)= -(m/d)-1 by omega]
  ·have eZ:m%d=0:=ω
   rw[aL ω,ar]
   unfold ug.Kf ug.As
   rw[vd N ω ω ω (by
    have:m/d*1≤m/d*d:=p3 ω (me ω ω)
    rw[eo]at hmq;omega),av,aw (x:=m%d) ω ω]
   have e3:v=d*(-(m/d)):=by rw[hv,tM];omega
   have e4:v/d= -(m/d):=by rw[e3,Eu _ ω]
   have e5:v%d=0:=by rw[e3,ED]
   rw[e4,e5,eZ]
   dsimp only
   rw[show-(qh*18446744073709551616+ql)= -(m/d)by omega]
theorem Kg(N:Nat){v:Int}(v0: -170141183460469231731687303715884105728≤v)(v1:v<170141183460469231731687303715884105728):Kh N (dM v)=some (Ap v):=by
 unfold Kh dM
 rw[aL ω,ar]
 dsimp only
 have hw0: -9223372036854775808≤W .i64 (v%18446744073709551616)∧W .i64 (v%18446744073709551616)<9223372036854775808:=by rw[kS];split<;>omega
 rw[rn hw0.1 hw0.2]
 have hwv:W .i64 (v%18446744073709551616)=if 9223372036854775808≤v%18446744073709551616 then v%18446744073709551616-18446744073709551616 else v%18446744073709551616:=by rw[kS];split<;>split<;>omega
 rw[hwv]
 unfold Ap
 by_cases h: -9223372036854775808≤v∧v<9223372036854775808
 ·rw[aj h]
  by_cases hn:v<0
  ·rw[aj (show 9223372036854775808≤v%18446744073709551616 by omega),aj ω,dt ω,aY,ar]
   congr 2;omega
  ·rw[ah (show ¬9223372036854775808≤v%18446744073709551616 by omega),ah ω,dt ω,aY,ar]
   congr 2;omega
 ·rw[ah h]
  by_cases hm:9223372036854775808≤v%18446744073709551616
  ·rw[aj hm,aj ω,du ω,cz,ak]
  ·rw[ah hm,ah ω,du ω,cz,ak]
theorem Iz(N:Nat){l:List Int}(h: ∀x∈l,-9223372036854775808≤x∧x<9223372036854775808)(hl:l.length≤1000000): ∀(m n i:Nat),l.length-i≤m→m<n→i≤l.length→
  qa.l3 N n ((l.take i).sum/18446744073709551616) ((l.take i).sum%18446744073709551616) l (l.length:Int) (i:Int)=some (Ap l.sum)
 |m,0,i,_,hn,_=>ω
 |m,n+1,i,hm,hn,hi=>by
  unfold qa.l3 qa.lB
  have f1:=Ke (l.take i) (λx hx=>h x (jI hx))
  rw[bO,gZ ω]at f1
  by_cases h1:i<l.length
  ·obtain⟨g0,g1⟩:=rq h i
   have hs:=gy l h1
   simp only[aE]
   generalize hx:l.getD i 0=x at*
   generalize (l.take i).sum=t at*
   rw[rm,Ak N ω ω ω ω]
   simp only[rn g0 g1]
   have hih:=Iz N h hl (m-1) n (i+1) ω ω ω
   rw[hs]at hih
   rw[aP ω,ak,aQ ω ω,ak,av,aL ω,ar]
   by_cases hn:x<0
   ·rw[aj hn,aw (x:=t/18446744073709551616+ -1) ω ω,aw (x:=(_:Int)/18446744073709551616) ω ω,aw ω ω,aw (x:=(i:Int)+1) ω ω]
    refine Eq.trans ?_ hih
    congr 1<;>omega
   ·rw[ah hn,aw (x:=t/18446744073709551616+0) ω ω,aw (x:=(_:Int)/18446744073709551616) ω ω,aw ω ω,aw (x:=(i:Int)+1) ω ω]
    refine Eq.trans ?_ hih
    congr 1<;>omega
  ·rw[gl ω]at f1 ⊢
   rw[aL ω,ar]
   have:=Kg N (v:=l.sum) ω ω
   unfold Kh dM at this
   exact this
theorem R5(N:Nat){l:List Int}(h: ∀x∈l,-9223372036854775808≤x∧x<9223372036854775808)(hl:l.length≤1000000)(hN:1000000<N):qa N l=some (Ap l.sum):=by
 unfold qa qa.b
 have:=Iz N h hl l.length N 0 ω ω ω
 rw[kd,jK]at this
 exact this
end VM
end
section
namespace VM
open Go
theorem cond_not{α:Type}(b:Bool)(x y:α):cond (!b) x y=cond b y x:=by cases b<;>rfl
theorem cU{α:Type}(a b:Int)(x y:α):cond (aS a b) x y=if a<b then x else y:=by
 by_cases h:a<b
 ·rw[aP h,aj h];rfl
 ·rw[aL ω,ah h];rfl
theorem cP{α:Type}(a b:Int)(x y:α):cond (c0 a b) x y=if a≤b then x else y:=by
 by_cases h:a≤b
 ·rw[dL h,aj h];rfl
 ·rw[dB ω,ah h];rfl
theorem aN{α:Type}(a b:Int)(x y:α):cond (aM a b) x y=if a=b then x else y:=by
 by_cases h:a=b
 ·rw[dt h,aj h];rfl
 ·rw[du h,ah h];rfl
theorem gL{α:Type}(p:Prop) [Decidable p](x y:α):cond (decide p) x y=if p then x else y:=by
 by_cases h:p
 ·rw[bs h,aj h];rfl
 ·rw[cg h,ah h];rfl
theorem drop_cons{α:Type}{l:List α}{i:Nat}(h:i<l.length)(d:α):l.drop i=l.getD i d::l.drop (i+1):=by
 rw[lX h,aR,bl h];rfl
theorem sm{α σ β:Type}(l:List α)(d:α)(F:Nat→Int→σ→Option β)(g:List α→σ→Option β)(I:Nat→σ→Prop)
  (hs: ∀n i s,i<l.length→I i s→(∀s',I (i+1) s'→F n ((i+1:Nat):Int) s'=g (l.drop (i+1)) s')→F (n+1) (i:Int) s=g (l.getD i d::l.drop (i+1)) s)
  (he: ∀n s,I l.length s→F (n+1) (l.length:Int) s=g [] s): ∀m n i s,l.length-i≤m→m<n→i≤l.length→I i s→F n (i:Int) s=g (l.drop i) s
 |m,0,i,s,_,hn,_,_=>ω
 |m,n+1,i,s,hm,hn,hi,hI=>by
  by_cases h:i<l.length
  ·rw[drop_cons h d]
   exact hs n i s h hI λs' yw=>sm l d F g I hs he (m-1) n (i+1) s' ω ω ω yw
  ·have:i=l.length:=ω
   subst this
   rw[lD];exact he n s hI
theorem Au{α β:Type}(l:List α)(d:α)(F:Nat→Int→Option β)(g:List α→Option β)
  (hs: ∀n i,i<l.length→F n ((i+1:Nat):Int)=g (l.drop (i+1))→F (n+1) (i:Int)=g (l.getD i d::l.drop (i+1)))
  (he: ∀n,F (n+1) (l.length:Int)=g []) (n:Nat) (hn:l.length<n):F n 0=g l:=by
 have:=sm (σ:=Unit) l d (λn i _=>F n i) (λl _=>g l) (λ_ _=>True) (λn i _ h _ hr=>hs n i h (hr () trivial)) (λn _ _=>he n) l.length n 0 () ω hn ω trivial
 simpa using this
theorem scan{F:Nat→Int→Option Bool}{len:Nat}(P:Nat→Prop) [DecidablePred P]
  (hs: ∀n i r,i<len→(∀j,j<i→P j)→F n ((i+1:Nat):Int)=r→F (n+1) (i:Int)=if P i then r else some false) {e:Bool} (he: ∀n,F (n+1) (len:Int)=some e):
  ∀m n i,len-i≤m→m<n→i≤len→(∀j,j<i→P j)→F n (i:Int)=some (decide (∀j,j<len→i≤j→P j)&&e)
 |m,0,i,_,hn,_,_=>ω
 |m,n+1,i,hm,hn,hi,hp=>by
  by_cases h:i<len
  ·rw[hs n i _ h hp rfl]
   by_cases hP:P i
   ·rw[aj hP,scan P hs he (m-1) n (i+1) ω ω ω (λj hj=>by
     by_cases yP:j=i
     ·subst yP;exact hP
     ·exact hp j ω)]
    congr 2
    rw[nh]
    refine⟨λhj j h2 h1=> ?_,λhj j h2 h1=>hj j h2 ω⟩
    by_cases yP:j=i
    ·subst yP;exact hP
    ·exact hj j h2 ω
   ·rw[ah hP,cg (λhj=>hP (hj i h (aI i)))];rfl
  ·have:i=len:=ω
   subst this
   rw[he n,bs (λj h2 h1=>absurd h2 ω)];rfl
theorem iK{F:Nat→Int→Option Bool}{len:Nat}(P:Nat→Prop) [DecidablePred P]{e:Bool}
  (hs: ∀n i r,i<len→(∀j,j<i→P j)→F n ((i+1:Nat):Int)=r→F (n+1) (i:Int)=if P i then r else some false) (he: ∀n,F (n+1) (len:Int)=some e) (n:Nat) (hn:len<n):
  F n 0=some (decide (∀j,j<len→P j)&&e):=by
 have:=scan P hs he len n 0 ω hn ω (λj hj=>absurd hj ω)
 rw[show((0:Nat):Int)=0 from rfl]at this
 rw[this]
 congr 2
 rw[nh]
 exact⟨λh j hj=>h j hj ω,λh j hj _=>h j hj⟩
end VM
end
section
namespace VM
open Go VM.F
def eB(x:Int):Prop:= -170141183460469231731687303715884105728≤x∧x<170141183460469231731687303715884105728
instance(x:Int):Decidable (eB x):=by unfold eB;infer_instance
theorem BA(N:Nat){x:Int}(h0: -9223372036854775808≤x)(h1:x<9223372036854775808):Z4 N x=some (dM x):=by
 unfold Z4
 rw[aL ω,ar,rn h0 h1,rm]
 congr 1
 exact wmk (by split<;>omega) rfl
theorem Z5{ws:List Int}(i:Nat):(ws.map dM).getD i df=dM (ws.getD i 0):=by
 by_cases h:i<ws.length
 ·rw[aR,nf,bl h,aR,bl h];rfl
 ·rw[aR,gP (by rw[cO];omega),aR,gP ω];rfl
theorem Qc{ws:List Int}(h: ∀x∈ws,eB x): -(170141183460469231731687303715884105728*(ws.length:Int))≤ws.sum∧ws.sum≤170141183460469231731687303715884105728*(ws.length:Int):=by
 induction ws with
 |nil=>simp
 |cons x ws ih=>
  have h0:=h x (bp ..)
  have ih:=ih (λy hy=>h y (a8 _ hy))
  unfold eB at h0
  rw[cH,aW];omega
theorem Wr{t w:Int}{lo hi top:Int}(hw:eB w)(ye:lo=t%18446744073709551616)(Lh:hi=t/18446744073709551616%18446744073709551616)(asK:top=t/340282366920938463463374607431768211456):
  (lo+w%18446744073709551616+0)%18446744073709551616=(t+w)%18446744073709551616∧
  (hi+(w/18446744073709551616)%18446744073709551616+(lo+w%18446744073709551616+0)/18446744073709551616)%18446744073709551616=(t+w)/18446744073709551616%18446744073709551616∧
  top+(if w/18446744073709551616<0 then-1 else 0)+(hi+(w/18446744073709551616)%18446744073709551616+(lo+w%18446744073709551616+0)/18446744073709551616)/18446744073709551616=(t+w)/340282366920938463463374607431768211456:=by
 unfold eB at hw
 subst ye Lh asK
 refine⟨ω,ω,?_⟩
 split<;>omega
def Qd(t:Int):cN×Bool:=if eB t then(dM t,true)else(df,false)
theorem W64(x:Int):W .u64 x=x%18446744073709551616:=rm x
theorem IA(N:Nat){ws:List Int}(h: ∀x∈ws,eB x)(hl:ws.length≤1000000): ∀(m n i:Nat) (t:Int),ws.length-i≤m→m<n→i≤ws.length→t=(ws.take i).sum→
  nE.l3 N n df (t/340282366920938463463374607431768211456) (t/18446744073709551616%18446744073709551616) (t%18446744073709551616) (ws.map dM) (ws.length:Int) (i:Int)=some (Qd ws.sum)
 |m,0,i,t,_,hn,_,_=>ω
 |m,n+1,i,t,hm,hn,hi,ht=>by
  unfold nE.l3 nE.lB
  have f1:=Qc (ws:=ws.take i) (λx hx=>h x (jI hx))
  rw[bO,gZ ω,←ht]at f1
  by_cases h1:i<ws.length
  ·have hw:eB (ws.getD i 0):=by
    rw[aR,bl h1];exact h _ (eL h1)
   have hs:=gy ws h1
   rw[←ht]at hs
   have st:=Wr (t:=t) (w:=ws.getD i 0) hw rfl rfl rfl
   have yV:=IA N h hl (m-1) n (i+1) (t+ws.getD i 0) ω ω ω hs.symm
   rw[aP ω,ak,aQ ω (by rw[cO];omega),ak,aE,Z5]
   unfold dM
   dsimp only
   have hw':=hw
   unfold eB at hw'
   generalize ws.getD i 0=w at*
   have hq:0≤(t%18446744073709551616+w%18446744073709551616+0)/18446744073709551616∧(t%18446744073709551616+w%18446744073709551616+0)/18446744073709551616≤1:=ω
   rw[Ak N ω ω ω ω,av,W64,Ak N ω ω hq.1 hq.2,av,aL (x:=63) ω,ar,st.1,st.2.1]
   rw[rn ω ω]
   have hc:0≤(t/18446744073709551616%18446744073709551616+w/18446744073709551616%18446744073709551616+(t%18446744073709551616+w%18446744073709551616+0)/18446744073709551616)/18446744073709551616∧(t/18446744073709551616%18446744073709551616+w/18446744073709551616%18446744073709551616+(t%18446744073709551616+w%18446744073709551616+0)/18446744073709551616)/18446744073709551616≤1:=ω
   have hif: -1≤(if w/18446744073709551616<0 then(-1:Int)else 0)∧(if w/18446744073709551616<0 then(-1:Int)else 0)≤0:=by split<;>omega
   rw[aw (x:=t/340282366920938463463374607431768211456+_) ω ω,aw (x:=(_:Int)/18446744073709551616) ω ω,st.2.2,aw ω ω,aw (x:=(i:Int)+1) ω ω]
   exact yV
  ·have e:(ws.take i).sum=ws.sum:=by rw[gl ω]
   rw[e]at ht
   rw[aL ω,ar,aL (x:=63) ω,ar,←ht]
   have hh: -9223372036854775808≤W .i64 (t/18446744073709551616%18446744073709551616)∧W .i64 (t/18446744073709551616%18446744073709551616)<9223372036854775808:=by rw[kS];split<;>omega
   have hwv:W .i64 (t/18446744073709551616%18446744073709551616)=if 9223372036854775808≤t/18446744073709551616%18446744073709551616 then t/18446744073709551616%18446744073709551616-18446744073709551616 else t/18446744073709551616%18446744073709551616:=by rw[kS];split<;>split<;>omega
   rw[rn hh.1 hh.2,hwv]
   unfold Qd
   by_cases hI:eB t
   ·rw[aj hI]
    unfold eB at hI
    rw[dt (by split<;>split<;>omega),aY,ar]
    exact M8 (by split<;>omega) rfl
   ·rw[ah hI]
    unfold eB at hI
    rw[du (by split<;>split<;>omega),cz,ak]
theorem Ki(N:Nat){ws:List Int}(h: ∀x∈ws,eB x)(hl:ws.length≤1000000)(hN:1000000<N):nE N (ws.map dM)=some (Qd ws.sum):=by
 unfold nE nE.b
 rw[cO]
 exact IA N h hl ws.length N 0 0 ω ω ω (by simp)
end VM
end
section
namespace VM
open Go VM.F
theorem ve(N:Nat)(a lo hi:Int):Dz N a lo hi=some (decide (lo≤a∧a≤hi)):=by
 unfold Dz
 rw[cP,oq]
 by_cases h:lo≤a
 ·rw[aj h];congr 1;rw[nh];omega
 ·rw[ah h,cg ω]
theorem IB(N:Nat)(a lo hi:Int):HI N a lo hi=some (decide (lo≤a∧a≤hi)):=ve N a lo hi
def oX(a b c d:Int):Prop:=(0≤a∧a≤3)∧(1≤b∧b≤1000000000000)∧(0≤c∧c≤1000000000)∧(0≤d∧d≤1000000000)
instance(a b c d:Int):Decidable (oX a b c d):=by unfold oX;infer_instance
def ru(l:aO)(i:Nat):Prop:=oX (l.getD i a7).1 (l.getD i a7).2.1 (l.getD i a7).2.2.1 (l.getD i a7).2.2.2.1
instance(l:aO):DecidablePred (ru l):=λi=>by unfold ru;infer_instance
def nF(a b c d e f:Int):Prop:=0≤a∧(0≤b∧b≤4)∧(0≤c∧c≤1000000)∧(0≤d∧d≤1000000)∧(1≤e∧e≤4611686018427387904)∧0≤f
instance(a b c d e f:Int):Decidable (nF a b c d e f):=by unfold nF;infer_instance
def pP(c:ag):Prop:=nF c.2.1 c.2.2.1 c.2.2.2.1 c.2.2.2.2.1 c.2.2.2.2.2.1 c.2.2.2.2.2.2.1
instance(c:ag):Decidable (pP c):=by unfold pP;infer_instance
def fG(c:ag):Bool:=decide (1≤c.1.length∧c.1.length≤6)&&(decide (∀j,j<c.1.length→ru c.1 j)&&decide (pP c))
theorem Z6(N:Nat)(hN:100≤N)(c:ag):DA N c=some (fG c):=by
 unfold DA DA.b fG
 rw[ve,av,cond_not,gL]
 by_cases hl:1≤c.1.length∧c.1.length≤6
 ·rw[aj ω,bs hl,np]
  refine iK (F:=λn i=>DA.l4 N n c c.1 (c.1.length:Int) i) (ru c.1) (λn i r hi hp hr=> ?_) (λn=> ?_) N ω
  ·unfold DA.l4 DA.dH
   rw[aP ω,ak,aQ ω ω,ak,aE,aw ω ω,ae]
   simp only[ve,av,cond_not,gL]
   by_cases hP:ru c.1 i
   ·rw[aj hP];unfold ru oX at hP
    repeat' split
    all_goals first|rfl|exact hr|omega
   ·rw[ah hP];unfold ru oX at hP
    repeat' split
    all_goals first|rfl|exact hr|omega
  ·unfold DA.l4 DA.dH
   rw[aL ω,ar]
   simp only[ve,av,cond_not,gL,cP,oq]
   by_cases hP:pP c
   ·rw[bs hP];unfold pP nF at hP
    repeat' split
    all_goals first|rfl|omega|(rw[bs ω])
   ·rw[cg hP];unfold pP nF at hP
    repeat' split
    all_goals first|rfl|omega|(rw[cg ω])
 ·rw[ah ω,cg hl,wm]
theorem nG(N:Nat)(hN:100≤N)(c:ag):my N c=some (fG c):=by
 unfold my my.b fG
 rw[cU,cU]
 by_cases hl:1≤c.1.length∧c.1.length≤6
 ·rw[ah ω,ah ω,bs hl,np]
  refine iK (F:=λn i=>my.l4 N n c i) (ru c.1) (λn i r hi hp hr=> ?_) (λn=> ?_) N ω
  ·unfold my.l4 my.dH
   rw[aP ω,ak,aQ ω ω,ak,aE,aw ω ω,ae]
   simp only[IB,av,cond_not,gL]
   by_cases hP:ru c.1 i
   ·rw[aj hP];unfold ru oX at hP
    repeat' split
    all_goals first|rfl|exact hr|omega
   ·rw[ah hP];unfold ru oX at hP
    repeat' split
    all_goals first|rfl|exact hr|omega
  ·unfold my.l4 my.dH
   rw[aL ω,ar]
   simp only[IB,av,cond_not,gL,cP,oq]
   by_cases hP:pP c
   ·rw[bs hP];unfold pP nF at hP
    repeat' split
    all_goals first|rfl|omega|(rw[bs ω])
   ·rw[cg hP];unfold pP nF at hP
    repeat' split
    all_goals first|rfl|omega|(rw[cg ω])
 ·rw[cg hl,wm]
  by_cases h:(c.1.length:Int)<1
  ·rw[aj h]
  ·rw[ah h,aj ω]
def iL(a b:Int)(i:Nat)(c:Int):Prop:=1≤a∧a≤12∧1≤b∧b≤4∧(0<i→c<a)
instance(a b:Int)(i:Nat)(c:Int):Decidable (iL a b i c):=by unfold iL;infer_instance
def fM(m:aG)(i:Nat):Prop:=iL (m.getD i df).1 (m.getD i df).2.1 i (m.getD (i-1) df).1
instance(m:aG):DecidablePred (fM m):=λi=>by unfold fM;infer_instance
def dx(m:aG):Bool:=decide (∀j,j<m.length→fM m j)&&true
theorem FA(N:Nat){m:aG}(hl:m.length≤100000)(hN:200000≤N):pe N m=some (dx m):=by
 unfold pe pe.b
 refine iK (F:=λn i=>pe.l2 N n m m (m.length:Int) i) (fM m) (λn i r hi hp hr=> ?_) (λn=> ?_) N ω
 ·unfold pe.l2 pe.gV
  rw[aP ω,ak,aQ ω ω,ak,aE,aw (x:=(i:Int)+1) ω ω,ae]
  by_cases h0:0<i
  ·have e:W .i64 ((i:Int)-1)=((i-1:Nat):Int):=by rw[aw ω ω];omega
   dsimp only
   rw[aP (x:=0) ω,ak,e,aE,aQ ω ω,ak]
   simp only[cU,cP]
   by_cases hP:fM m i
   ·rw[aj hP];unfold fM iL at hP
    repeat' split
    all_goals first|rfl|exact hr|omega
   ·rw[ah hP];unfold fM iL at hP
    repeat' split
    all_goals first|rfl|exact hr|omega
  ·rw[aL (x:=0) ω,ar]
   simp only[cU,cP]
   by_cases hP:fM m i
   ·rw[aj hP];unfold fM iL at hP
    repeat' split
    all_goals first|rfl|exact hr|omega
   ·rw[ah hP];unfold fM iL at hP
    repeat' split
    all_goals first|rfl|exact hr|omega
 ·unfold pe.l2 pe.gV
  rw[aL ω,ar]
theorem mL(N:Nat){m:aG}(hl:m.length≤100000)(hN:200000≤N):od N m=some (dx m):=by
 unfold od od.b
 refine iK (F:=λn i=>od.l2 N n m i) (fM m) (λn i r hi hp hr=> ?_) (λn=> ?_) N ω
 ·unfold od.l2 od.gV
  rw[aP ω,ak,aQ ω ω,ak,aE,aw (x:=(i:Int)+1) ω ω,ae]
  by_cases h0:0<i
  ·have e:W .i64 ((i:Int)-1)=((i-1:Nat):Int):=by rw[aw ω ω];omega
   dsimp only
   rw[aP (x:=0) ω,e,aE,aQ (i:=((i-1:Nat):Int)) ω ω]
   simp only[cU,cP,ak]
   by_cases hP:fM m i
   ·rw[aj hP];unfold fM iL at hP
    repeat' split
    all_goals first|rfl|exact hr|omega
   ·rw[ah hP];unfold fM iL at hP
    repeat' split
    all_goals first|rfl|exact hr|omega
  ·rw[aL (x:=0) ω]
   simp only[cU,cP,ak,ar]
   by_cases hP:fM m i
   ·rw[aj hP];unfold fM iL at hP
    repeat' split
    all_goals first|rfl|exact hr|omega
   ·rw[ah hP];unfold fM iL at hP
    repeat' split
    all_goals first|rfl|exact hr|omega
 ·unfold od.l2 od.gV
  rw[aL ω,ar]
end VM
end
section
namespace VM
open Go VM.F
def cW(k n:Int):Prop:=(1≤k∧k≤4∧n=0)∨(k=5∧1≤n∧n≤24)∨(6≤k∧k≤7∧1≤n∧n≤12)
instance(k n:Int):Decidable (cW k n):=by unfold cW;infer_instance
theorem Qe(N:Nat)(k n:Int):Qf N k n=some (decide (cW k n)):=by
 unfold Qf
 simp only[aN,cP]
 simp only[oq,jB]
 by_cases hP:cW k n
 ·rw[bs hP];unfold cW at hP
  repeat' split
  all_goals first|rfl|omega|(rw[bs ω])
 ·rw[cg hP];unfold cW at hP
  repeat' split
  all_goals first|rfl|omega|(rw[cg ω])
theorem Z7(N:Nat)(k n:Int):Qg N k n=some (decide (cW k n)):=by
 have:=Qe N k n
 unfold Qf at this
 unfold Qg
 exact this
def lj(a b c d:Int):Prop:=a<c∨(a=c∧b<d)
instance(a b c d:Int):Decidable (lj a b c d):=by unfold lj;infer_instance
def BB(k n a b:Int):Int:=if k=a then n-b else k-a
def HJ(x:Int):Prop:= -1000000≤x∧x≤1000000
theorem FB(N:Nat){k n:Int}{r:dd}(h1:HJ k)(h2:HJ n)(h3:HJ r.1)(h4:HJ r.2.1):Qh N k n r=some (BB k n r.1 r.2.1):=by
 unfold Qh BB
 unfold HJ at*
 rw[cond_not,aN]
 split
 ·rw[aw ω ω]
 ·rw[aw ω ω]
theorem IC(N:Nat){k n:Int}{r:dd}(h1:HJ k)(h2:HJ n)(h3:HJ r.1)(h4:HJ r.2.1):TB N k n r=some (BB k n r.1 r.2.1):=FB N h1 h2 h3 h4
def mz(a b c:Int)(i:Nat)(d e:Int):Prop:=cW a b∧c≠0∧(0<i→lj d e a b)
instance(a b c:Int)(i:Nat)(d e:Int):Decidable (mz a b c i d e):=by unfold mz;infer_instance
def lQ(l:au)(i:Nat):Prop:=mz (l.getD i bf).1 (l.getD i bf).2.1 (l.getD i bf).2.2.1 i (l.getD (i-1) bf).1 (l.getD (i-1) bf).2.1
instance(l:au):DecidablePred (lQ l):=λi=>by unfold lQ;infer_instance
def eE(l:au):Bool:=decide (∀j,j<l.length→lQ l j)&&true
theorem Kj(N:Nat){l:au}(hl:l.length≤100000)(hN:200000≤N):BC N l=some (eE l):=by
 unfold BC BC.b
 refine iK (F:=λn i=>BC.l2 N n l l (l.length:Int) i) (lQ l) (λn i r hi hp hr=> ?_) (λn=> ?_) N ω
 ·unfold BC.l2 BC.gV
  rw[aP ω,ak,aQ ω ω,ak,aE,aw (x:=(i:Int)+1) ω ω,ae,Qe,av,cond_not,gL]
  by_cases hK:cW (l.getD i bf).1 (l.getD i bf).2.1
  ·rw[aj hK]
   by_cases h0:0<i
   ·have hq:=hp (i-1) ω
    have e:W .i64 ((i:Int)-1)=((i-1:Nat):Int):=by rw[aw ω ω];omega
    dsimp only
    rw[aP (x:=0) ω,ak,e,aE,aQ ω ω,ak]
    unfold lQ mz at hq
    have hq:=hq.1
    rw[FB N (by unfold cW at hK;unfold HJ;omega) (by unfold cW at hK;unfold HJ;omega) (by unfold cW at hq;unfold HJ;omega) (by unfold cW at hq;unfold HJ;omega),av,aN,cP]
    by_cases hP:lQ l i
    ·rw[aj hP];unfold lQ mz lj at hP;unfold BB
     have Qi:=hP.2
     repeat' split
     all_goals first|rfl|exact hr|omega
    ·rw[ah hP];unfold lQ mz lj at hP;unfold BB
     have Qi:=λh=>hP ⟨hK,h⟩
     repeat' split
     all_goals first|rfl|exact hr|omega|(exfalso;exact Qi ω)
   ·rw[aL (x:=0) ω,ar,aN]
    by_cases hP:lQ l i
    ·rw[aj hP];unfold lQ mz at hP
     rw[ah hP.2.1];exact hr
    ·rw[ah hP];unfold lQ mz at hP
     have Qi:=λh=>hP ⟨hK,h,λh=>absurd h h0⟩
     split
     ·rfl
     ·exact absurd (by assumption) Qi
  ·rw[ah hK,ah (λh=>hK (by unfold lQ mz at h;exact h.1))]
 ·unfold BC.l2 BC.gV
  rw[aL ω,ar]
theorem FC(N:Nat){l:au}(hl:l.length≤100000)(hN:200000≤N):BD N l=some (eE l):=by
 unfold BD BD.b
 refine iK (F:=λn i=>BD.l2 N n l i) (lQ l) (λn i r hi hp hr=> ?_) (λn=> ?_) N ω
 ·unfold BD.l2 BD.gV
  rw[aP ω,ak,aQ ω ω,ak,aE,aw (x:=(i:Int)+1) ω ω,ae,Z7,av,cond_not,gL]
  by_cases hK:cW (l.getD i bf).1 (l.getD i bf).2.1
  ·rw[aj hK]
   by_cases h0:0<i
   ·have e:W .i64 ((i:Int)-1)=((i-1:Nat):Int):=by rw[aw ω ω];omega
    dsimp only
    rw[aP (x:=0) ω,e,aE,aQ (i:=((i-1:Nat):Int)) ω ω]
    simp only[cU,cP,aN,ak]
    by_cases hP:lQ l i
    ·rw[aj hP];unfold lQ mz lj at hP
     have Qi:=hP.2
     repeat' split
     all_goals first|rfl|exact hr|omega
    ·rw[ah hP];unfold lQ mz lj at hP
     have Qi:=λh=>hP ⟨hK,h⟩
     repeat' split
     all_goals first|rfl|exact hr|omega|(exfalso;exact Qi ω)
   ·rw[aL (x:=0) ω]
    simp only[cU,cP,aN,ak,ar]
    by_cases hP:lQ l i
    ·rw[aj hP];unfold lQ mz at hP
     rw[ah hP.2.1];exact hr
    ·rw[ah hP];unfold lQ mz at hP
     have Qi:=λh=>hP ⟨hK,h,λh=>absurd h h0⟩
     split
     ·rfl
     ·exact absurd (by assumption) Qi
  ·rw[ah hK,ah (λh=>hK (by unfold lQ mz at h;exact h.1))];rfl
 ·unfold BD.l2 BD.gV
  rw[aL ω,ar]
end VM
end
section
namespace VM
open Go VM.F
def bU(a b:Int):Prop:=0≤a∧a≤24∧0≤b∧b<6
instance(a b:Int):Decidable (bU a b):=by unfold bU;infer_instance
theorem R6(N:Nat)(a b:Int):Ws N a b=some (decide (bU a b)):=by
 unfold Ws
 simp only[cP]
 simp only[om]
 by_cases hP:bU a b
 ·rw[bs hP];unfold bU at hP
  repeat' split
  all_goals first|rfl|omega|(rw[bs ω])
 ·rw[cg hP];unfold bU at hP
  repeat' split
  all_goals first|rfl|omega|(rw[cg ω])
def se(q:Int):Prop:=q≠ -9223372036854775808
instance(q:Int):Decidable (se q):=by unfold se;infer_instance
theorem wZ(N:Nat)(q:Int):TC N q=some (decide (se q)):=by
 unfold TC se
 rw[jB]
 by_cases h:q= -9223372036854775808<;>simp[h]
def mA(a b c:Int)(i:Nat)(d e:Int):Prop:=bU a b∧c≠0∧se c∧(0<i→lj d e a b)
instance(a b c:Int)(i:Nat)(d e:Int):Decidable (mA a b c i d e):=by unfold mA;infer_instance
def lR(l:au)(i:Nat):Prop:=mA (l.getD i bf).1 (l.getD i bf).2.1 (l.getD i bf).2.2.1 i (l.getD (i-1) bf).1 (l.getD (i-1) bf).2.1
instance(l:au):DecidablePred (lR l):=λi=>by unfold lR;infer_instance
def da(l:au):Bool:=decide (∀j,j<l.length→lR l j)&&true
theorem Av(N:Nat){l:au}(hl:l.length≤100000)(hN:200000≤N):oe N l=some (da l):=by
 unfold oe oe.b
 refine iK (F:=λn i=>oe.l2 N n l l (l.length:Int) i) (lR l) (λn i r hi hp hr=> ?_) (λn=> ?_) N ω
 ·unfold oe.l2 oe.gV
  rw[aP ω,ak,aQ ω ω,ak,aE,aw (x:=(i:Int)+1) ω ω,ae,R6,av,cond_not,gL,wZ,av,cond_not,gL]
  by_cases hK:bU (l.getD i bf).1 (l.getD i bf).2.1
  ·rw[aj hK]
   by_cases h0:0<i
   ·have hq:=hp (i-1) ω
    have e:W .i64 ((i:Int)-1)=((i-1:Nat):Int):=by rw[aw ω ω];omega
    dsimp only
    rw[aP (x:=0) ω,ak,e,aE,aQ ω ω,ak]
    unfold lR mA at hq
    have hq:=hq.1
    rw[IC N (by unfold bU at hK;unfold HJ;omega) (by unfold bU at hK;unfold HJ;omega) (by unfold bU at hq;unfold HJ;omega) (by unfold bU at hq;unfold HJ;omega),av,aN,cP]
    by_cases hP:lR l i
    ·rw[aj hP];unfold lR mA lj at hP;unfold BB
     obtain⟨_,hP1,Qi,hP3⟩:=hP
     rw[aj Qi]
     repeat' split
     all_goals first|rfl|exact hr|omega
    ·rw[ah hP];unfold lR mA lj at hP;unfold BB
     have Qi:=λh1 h2 h3=>hP ⟨hK,h1,h2,h3⟩
     repeat' split
     all_goals first|rfl|exact hr|(exfalso;exact Qi (by assumption) (by assumption) ω)|omega
   ·rw[aL (x:=0) ω,ar,aN]
    by_cases hP:lR l i
    ·rw[aj hP];unfold lR mA at hP
     rw[ah hP.2.1,aj hP.2.2.1];exact hr
    ·rw[ah hP];unfold lR mA at hP
     have Qi:=λh1 h2=>hP ⟨hK,h1,h2,λh=>absurd h h0⟩
     split
     ·rfl
     ·split
      ·exact(Qi (by assumption) (by assumption)).elim
      ·rfl
  ·rw[ah hK,ah (λh=>hK (by unfold lR mA at h;exact h.1))]
 ·unfold oe.l2 oe.gV
  rw[aL ω,ar]
theorem mM(N:Nat){l:au}(hl:l.length≤100000)(hN:200000≤N):zh N l=some (da l):=by
 unfold zh zh.b
 refine iK (F:=λn i=>zh.l2 N n l i) (lR l) (λn i r hi hp hr=> ?_) (λn=> ?_) N ω
 ·unfold zh.l2 zh.gV
  rw[aP ω,ak,aQ ω ω,ak,aE,aw (x:=(i:Int)+1) ω ω,ae]
  by_cases h0:0<i
  ·have e:W .i64 ((i:Int)-1)=((i-1:Nat):Int):=by rw[aw ω ω];omega
   dsimp only
   rw[aP (x:=0) (y:=(i:Int)) ω,e,aE,aQ (i:=((i-1:Nat):Int)) ω ω]
   simp only[cU,cP,aN,ak]
   by_cases hP:lR l i
   ·rw[aj hP];unfold lR mA lj se bU at hP
    repeat' split
    all_goals first|rfl|exact hr|omega
   ·rw[ah hP];unfold lR mA lj se bU at hP
    repeat' split
    all_goals first|rfl|exact hr|omega|(exfalso;exact hP ω)
  ·rw[aL (x:=0) (y:=(i:Int)) ω]
   simp only[cU,cP,aN,ak,ar]
   by_cases hP:lR l i
   ·rw[aj hP];unfold lR mA lj se bU at hP
    repeat' split
    all_goals first|rfl|exact hr|omega
   ·rw[ah hP];unfold lR mA lj se bU at hP
    repeat' split
    all_goals first|rfl|exact hr|omega|(exfalso;exact hP ω)
 ·unfold zh.l2 zh.gV
  rw[aL ω,ar]
theorem gM(a b:Int)(y:Bool):cond (c0 a b) (some y) (some false)=some (decide (a≤b)&&y):=by
 rw[cP];by_cases h:a≤b<;>simp[h]
theorem FD(a b:Int)(y:Bool):cond (aS a b) (some y) (some false)=some (decide (a<b)&&y):=by
 rw[cU];by_cases h:a<b<;>simp[h]
theorem FE(a b:Int)(y:Bool):cond (aM a b) (some y) (some false)=some (decide (a=b)&&y):=by
 rw[aN];by_cases h:a=b<;>simp[h]
theorem BE(a b:Int)(y z:Bool):cond (aM a b) (some y) (some z)=some ((decide (a=b)&&y)||(!decide (a=b)&&z)):=by
 rw[aN];by_cases h:a=b<;>simp[h]
def yW(a b c d e f:Int):Prop:=(1≤a∧a≤1099511627776)∧(1≤b∧b≤24)∧(0≤c∧c<6)∧(d=1∨d=2)∧(1≤e∧e≤1000000000)∧(1≤f∧f≤1000000000000)
instance(a b c d e f:Int):Decidable (yW a b c d e f):=by unfold yW;infer_instance
def ry(o:gu):Prop:=yW o.1 o.2.1 o.2.2.1 o.2.2.2.1 o.2.2.2.2.1 o.2.2.2.2.2.1
instance(o:gu):Decidable (ry o):=by unfold ry;infer_instance
theorem ahL(N:Nat)(o:gu):Z8 N o=some (decide (ry o)):=by
 unfold Z8
 rw[oq o.2.2.2.2.2.1]
 rw[gM,gM,gM,FE,BE,FD,gM,gM,gM,gM,gM]
 congr 1
 rw[o4,fp]
 unfold ry yW
 simp only[bP,nk,qL,we,Ew]
 omega
end VM
end
section
namespace VM
open Go VM.F
theorem ID(N:Nat)(p:Int):F85 N p=some (decide (1≤p∧p≤1000000000000)):=by
 unfold F85
 rw[oq p,gM];congr 1
 rw[o4];simp only[bP,we]
theorem iM(N:Nat)(p:Int):DB N p=some (decide (1≤p∧p≤1000000000000)):=ID N p
theorem Aw(N:Nat)(o:gu):Qj N o=some (decide (ry o)):=by
 unfold Qj
 rw[iM,av]
 repeat (first|rw[gM]|rw[FD]|rw[FE]|rw[BE])
 congr 1
 rw[o4,fp]
 unfold ry yW
 simp only[bP,nk,qL,we,Ew]
 omega
def uh(i:Nat)(a b:Int):Prop:=0<i→a<b
instance(i:Nat)(a b:Int):Decidable (uh i a b):=by unfold uh;infer_instance
def vf(l:br)(i:Nat):Prop:=ry (l.getD i fy)∧uh i (l.getD (i-1) fy).1 (l.getD i fy).1
instance(l:br):DecidablePred (vf l):=λi=>by unfold vf;infer_instance
def eC(l:br):Bool:=decide (∀j,j<l.length→vf l j)&&decide (l.length≤32)
theorem TD(N:Nat){l:br}(hl:l.length≤100000)(hN:200000≤N):DC N l=some (eC l):=by
 unfold DC DC.b
 refine iK (F:=λn i=>DC.l2 N n l l (l.length:Int) i) (vf l) (λn i r hi hp hr=> ?_) (λn=> ?_) N ω
 ·unfold DC.l2 DC.gV
  rw[aP ω,ak,aQ ω ω,ak,aE,aw (x:=(i:Int)+1) ω ω,ae,ahL,av,cond_not,gL]
  by_cases hK:ry (l.getD i fy)
  ·rw[aj hK]
   by_cases h0:0<i
   ·have e:W .i64 ((i:Int)-1)=((i-1:Nat):Int):=by rw[aw ω ω];omega
    dsimp only
    rw[aP (x:=0) ω,ak,e,aE,aQ ω ω,ak,cP]
    by_cases hP:vf l i
    ·rw[aj hP,ah (by have h2:=hP.2;unfold uh at h2;omega)];exact hr
    ·rw[ah hP,aj]
     have h2: ¬uh i (l.getD (i-1) fy).1 (l.getD i fy).1:=λh=>hP ⟨hK,h⟩
     unfold uh at h2
     omega
   ·rw[aL (x:=0) ω,ar,aj ⟨hK,λh=>absurd h h0⟩];exact hr
  ·rw[ah hK,ah (λh=>hK h.1)]
 ·unfold DC.l2 DC.gV
  rw[aL ω,ar,oq]
  congr 1;rw[nh];omega
theorem il(N:Nat){l:br}(hl:l.length≤100000)(hN:200000≤N):mU N l=some (eC l):=by
 unfold mU mU.b
 by_cases h32:32<l.length
 ·rw[aP ω,ak];unfold eC
  rw[cg (p:=l.length≤32) ω,EJ]
 rw[aL ω,ar]
 have:=iK (F:=λn i=>mU.l4 N n l i) (e:=true) (vf l) (λn i r hi hp hr=> ?_) (λn=> ?_) N (show l.length<N by omega)
 ·refine Eq.trans this ?_
  unfold eC
  rw[bs (p:=l.length≤32) ω]
 ·unfold mU.l4 mU.dH
  rw[aP ω,ak,aQ ω ω,ak,aE,aw (x:=(i:Int)+1) ω ω,ae,Aw,av,cond_not,gL]
  by_cases hK:ry (l.getD i fy)
  ·rw[aj hK]
   by_cases h0:0<i
   ·have e:W .i64 ((i:Int)-1)=((i-1:Nat):Int):=by rw[aw ω ω];omega
    dsimp only
    rw[aP (x:=0) ω,ak,ak,e,aE,aQ ω ω,ak,cP]
    by_cases hP:vf l i
    ·rw[aj hP,ah (by have h2:=hP.2;unfold uh at h2;omega)];exact hr
    ·rw[ah hP,aj]
     have h2: ¬uh i (l.getD (i-1) fy).1 (l.getD i fy).1:=λh=>hP ⟨hK,h⟩
     unfold uh at h2
     omega
   ·rw[aL (x:=0) ω,ar,aj ⟨hK,λh=>absurd h h0⟩];exact hr
  ·rw[ah hK,ah (λh=>hK h.1)]
 ·unfold mU.l4 mU.dH
  rw[aL ω,ar]
end VM
end
section
namespace VM
open Go VM.F
def jO(id:Int):aG→Int
 |[]=>0
 |x::t=>if x.1=id then x.2.1 else jO id t
def ui(id:Int):aO→cy×Bool
 |[]=>(a7,false)
 |x::t=>if x.1=id then(x,true)else ui id t
def nH(id:Int):aO→Int
 |[]=>0
 |x::t=>if x.2.1=id then(if x.2.2.1=1 then x.1 else nH id t)else nH id t
theorem vg(id:Int)(x:FF)(t:aG):jO id (x::t)=if x.1=id then x.2.1 else jO id t:=rfl
theorem oC(id:Int)(x:cy)(t:aO):ui id (x::t)=if x.1=id then(x,true)else ui id t:=rfl
theorem sP(id:Int)(x:cy)(t:aO):nH id (x::t)=if x.2.1=id then(if x.2.2.1=1 then x.1 else nH id t)else nH id t:=rfl
theorem M9(N:Nat){m:aG}(hl:m.length≤100000)(hN:200000≤N)(id:Int):Bf.l4 N N id m (m.length:Int) 0=some (jO id m):=by
 refine Au m df (λn i=>Bf.l4 N n id m (m.length:Int) i) (λl=>some (jO id l)) (λn i hi hr=> ?_) (λn=> ?_) N ω
 ·unfold Bf.l4 Bf.dH
  rw[aP ω,ak,aQ ω ω,ak,aE,aw (x:=(i:Int)+1) ω ω,ae,hr,aN]
  rw[vg]
  split<;>rfl
 ·unfold Bf.l4 Bf.dH
  rw[aL ω,ar];rfl
theorem im(N:Nat){m:aG}(hl:m.length≤100000)(hN:200000≤N)(id:Int):mV N m id=some (jO id m):=by
 unfold mV mV.b
 refine Au m df (λn i=>mV.l2 N n m id i) (λl=>some (jO id l)) (λn i hi hr=> ?_) (λn=> ?_) N ω
 ·unfold mV.l2 mV.gV
  rw[aP ω,ak,aQ ω ω,ak,ak,aE,aw (x:=(i:Int)+1) ω ω,ae,hr,aN]
  rw[vg]
  split<;>rfl
 ·unfold mV.l2 mV.gV
  rw[aL ω,ar];rfl
def iN(m:aG)(id:Int):Int:=if dx m then jO id m else 0
theorem IE(N:Nat){m:aG}(hl:m.length≤100000)(hN:200000≤N)(id:Int):Bf N m id=some (iN m id):=by
 unfold Bf Bf.b iN
 rw[FA N hl hN,av,cond_not,M9 N hl hN]
 cases dx m<;>rfl
theorem rz(N:Nat){m:aG}(hl:m.length≤100000)(hN:200000≤N)(id:Int):Ax N m id=some (iN m id):=by
 unfold Ax iN
 rw[mL N hl hN,av,cond_not,im N hl hN]
 cases dx m<;>rfl
theorem TE(N:Nat){m:aO}(hl:m.length≤100000)(hN:200000≤N)(id:Int):pf.l4 N N id a7 m (m.length:Int) 0=some (ui id m):=by
 refine Au m a7 (λn i=>pf.l4 N n id a7 m (m.length:Int) i) (λl=>some (ui id l)) (λn i hi hr=> ?_) (λn=> ?_) N ω
 ·unfold pf.l4 pf.dH
  rw[aP ω,ak,aQ ω ω,ak,aE,aw (x:=(i:Int)+1) ω ω,ae,hr,aN]
  rw[oC]
  split<;>rfl
 ·unfold pf.l4 pf.dH
  rw[aL ω,ar];rfl
theorem rA(N:Nat){m:aO}(hl:m.length≤100000)(hN:200000≤N)(id:Int):og N m id=some (ui id m):=by
 unfold og og.b
 refine Au m a7 (λn i=>og.l2 N n m id a7 i) (λl=>some (ui id l)) (λn i hi hr=> ?_) (λn=> ?_) N ω
 ·unfold og.l2 og.gV
  rw[aP ω,ak,aQ ω ω,ak,ak,aE,aw (x:=(i:Int)+1) ω ω,ae,hr,aN]
  rw[oC]
  split<;>rfl
 ·unfold og.l2 og.gV
  rw[aL ω,ar];rfl
theorem Na(N:Nat){m:aO}(hl:m.length≤100000)(hN:200000≤N)(id:Int):yX.l4 N N m id 0=some (nH id m):=by
 refine Au m a7 (λn i=>yX.l4 N n m id i) (λl=>some (nH id l)) (λn i hi hr=> ?_) (λn=> ?_) N ω
 ·unfold yX.l4 yX.dH
  rw[aP ω,ak,aQ ω ω]
  simp only[ak]
  rw[aE,aw (x:=(i:Int)+1) ω ω,ae,hr,aN,aN]
  rw[sP]
  split
  ·split<;>rfl
  ·rfl
 ·unfold yX.l4 yX.dH
  rw[aL ω,ar];rfl
end VM
end
section
namespace VM
open Go VM.F
def dy(a b:Int):Prop:=a=b
instance(a b:Int):Decidable (dy a b):=by unfold dy;infer_instance
def yA(l:aO)(k:Nat)(m:Int):Prop:=dy (l.getD k a7).2.2.1 1∧dy (l.getD k a7).2.1 m
instance(l:aO)(k:Nat)(m:Int):Decidable (yA l k m):=by unfold yA;infer_instance
def mg(l:aO)(i:Nat)(m:Int):Bool:=(List.range i).any λk=>decide (yA l k m)
theorem w1{l:aO}{i:Nat}{m:Int}:mg l i m=true↔ ∃k,k<i∧yA l k m:=by
 unfold mg
 rw[zA]
 simp only[qR,fp]
theorem vh(l:aO)(i:Nat)(m:Int):mg l (i+1) m=(mg l i m||decide (yA l i m)):=by
 unfold mg
 rw[EI,List.any_append];simp
def mB(a b c d:Int):Prop:=(1≤a∧a≤24)∧(1≤b∧b≤12)∧(c=1∨c=2)∧(0≤d∧d≤1000000000000)
instance(a b c d:Int):Decidable (mB a b c d):=by unfold mB;infer_instance
def kv(l:aO)(i:Nat):Prop:= ¬(dy (l.getD i a7).2.2.1 1∧mg l i (l.getD i a7).2.1=true)
instance(l:aO)(i:Nat):Decidable (kv l i):=by unfold kv;infer_instance
def Ay(l:aO)(i:Nat):Prop:=mB (l.getD i a7).1 (l.getD i a7).2.1 (l.getD i a7).2.2.1 (l.getD i a7).2.2.2.1∧uh i (l.getD (i-1) a7).1 (l.getD i a7).1∧kv l i
instance(l:aO):DecidablePred (Ay l):=λi=>by unfold Ay;infer_instance
def gX(l:aO):Bool:=decide (∀j,j<l.length→Ay l j)&&true
def fD(l:aO)(i:Nat):List Bool:=(List.range 13).map λ(m:Nat)=>mg l i (m:Int)
theorem TF{l:aO}{i:Nat}{b:Int}(h0:0≤b)(h1:b<13):(fD l i).getD b.toNat false=mg l i b:=by
 unfold fD
 rw[aR,nf,List.getElem?_range ω]
 show mg l i ((b.toNat:Nat):Int)=_
 rw[m9 h0]
theorem Nb{l:aO}{i:Nat}(h: ¬dy (l.getD i a7).2.2.1 1):fD l (i+1)=fD l i:=by
 unfold fD
 refine qJ λm _=> ?_
 rw[vh,cg (λh'=>h h'.1),tJ]
theorem Qk{l:aO}{i:Nat}(h:dy (l.getD i a7).2.2.1 1)(h0:(0:Int)≤(l.getD i a7).2.1):(fD l i).set ((l.getD i a7).2.1:Int).toNat true=fD l (i+1):=by
 refine List.ext_getElem (by unfold fD;simp) λk h1 h2=> ?_
 unfold fD at*
 rw[List.getElem_set]
 simp only[List.getElem_map,EC]
 rw[vh]
 by_cases hk:((l.getD i a7).2.1:Int).toNat=k
 ·rw[aj hk,bs (show yA l i (k:Int)from⟨h,by unfold dy;omega⟩),Bool.or_true]
 ·rw[ah hk,cg (λh':yA l i (k:Int)=>hk (by have:=h'.2;unfold dy at this;omega)),tJ]
theorem R7(N:Nat){l:aO}(hl:l.length≤100000)(hN:200000≤N):mW N l=some (gX l):=by
 unfold mW mW.b
 have h0:(List.replicate 13 false:List Bool)=fD l 0:=by unfold fD mg;rfl
 rw[h0]
 have:=iK (F:=λn i=>mW.l3 N n l (fD l i.toNat) l (l.length:Int) i) (e:=true) (Ay l) (λn i r hi hp hr=> ?_) (λn=> ?_) N (show l.length<N by omega)
 ·exact this
 ·simp only[aE]at hr ⊢
  unfold mW.l3 mW.lB
  rw[aP ω,ak,aQ ω ω,ak]
  simp only[aE]
  rw[aw (x:=(i:Int)+1) ω ω,ae]
  by_cases hF:mB (l.getD i a7).1 (l.getD i a7).2.1 (l.getD i a7).2.2.1 (l.getD i a7).2.2.2.1
  ·have R8:=hF
   unfold mB at R8
   have hT:cond (aM (l.getD i a7).2.2.1 1) (cond (aZ (l.getD i a7).2.1 13) (cond (List.getD (fD l i) (l.getD i a7).2.1.toNat false) (some false) (cond (aZ (l.getD i a7).2.1 13) (mW.l3 N n l (List.set (fD l i) (l.getD i a7).2.1.toNat true) l (l.length:Int) ((i+1:Nat):Int)) none)) none) (mW.l3 N n l (fD l i) l (l.length:Int) ((i+1:Nat):Int))=if kv l i then r else some false:=by
    rw[aN]
    by_cases hk:dy (l.getD i a7).2.2.1 1
    ·have Hv:=hk
     unfold dy at Hv
     rw[aj Hv,aQ ω ω,ak,ak,TF ω ω,Qk hk ω,hr]
     by_cases ho:mg l i (l.getD i a7).2.1=true
     ·have vE: ¬kv l i:=λh=>h ⟨hk,ho⟩
      rw[ah vE,ho];rfl
     ·have vE:kv l i:=λh=>ho h.2
      rw[aj vE,qM.2 ho];rfl
    ·have Hv:=hk
     unfold dy at Hv
     rw[ah Hv,aj (show kv l i from λh=>hk h.1),←Nb hk,hr]
   have hP:Ay l i↔uh i (l.getD (i-1) a7).1 (l.getD i a7).1∧kv l i:=⟨λh=>h.2,λh=>⟨hF,h⟩⟩
   have hD:(if Ay l i then r else some false)=if uh i (l.getD (i-1) a7).1 (l.getD i a7).1 then(if kv l i then r else some false)else some false:=by
    by_cases h1:uh i (l.getD (i-1) a7).1 (l.getD i a7).1<;>by_cases h2:kv l i<;>simp[hP,h1,h2]
   rw[hD]
   rw[hT]
   rw[aL ω,ar,aL ω,ar,aL ω,ar,aL ω,ar,aL (x:=(l.getD i a7).2.2.2.1) ω,aL (x:=1000000000000) ω]
   simp only[ar]
   have hm: ∀{α:Type} (x:α) (y:α),cond (!aM (l.getD i a7).2.2.1 1) (cond (!aM (l.getD i a7).2.2.1 2) y x) x=x:=by
    intro α x y
    rcases R8.2.2.1 with h|h
    ·rw[dt h];rfl
    ·rw[dt (y:=2) h];cases aM (l.getD i a7).2.2.1 1<;>rfl
   rw[hm]
   by_cases h0:0<i
   ·have e:W .i64 ((i:Int)-1)=((i-1:Nat):Int):=by rw[aw ω ω];omega
    rw[aP (x:=0) ω,ak,e,aE,aQ ω ω,ak,cP]
    by_cases h1:uh i (l.getD (i-1) a7).1 (l.getD i a7).1
    ·rw[aj h1,ah (by unfold uh at h1;omega)]
    ·rw[ah h1,aj (by unfold uh at h1;omega)]
   ·rw[aL (x:=0) ω,ar,aj (show uh i (l.getD (i-1) a7).1 (l.getD i a7).1 from λh=>absurd h h0)]
  ·rw[ah (λh=>hF h.1)]
   unfold mB at hF
   generalize cond (aM (l.getD i a7).2.2.1 1) (cond (aZ (l.getD i a7).2.1 13) (cond (List.getD (fD l i) (l.getD i a7).2.1.toNat false) (some false) (cond (aZ (l.getD i a7).2.1 13) (mW.l3 N n l (List.set (fD l i) (l.getD i a7).2.1.toNat true) l (l.length:Int) ((i+1:Nat):Int)) none)) none) (mW.l3 N n l (fD l i) l (l.length:Int) ((i+1:Nat):Int))=t
   generalize cond (aS 0 (i:Int)) _ _=u
   simp only[cond_not,cU,aN]
   repeat' split
   all_goals first|rfl|omega
 ·unfold mW.l3 mW.lB
  rw[aL ω,ar]
end VM
end
section
namespace VM
open Go VM.F
theorem BF(N:Nat)(K:aO→Int→Option Bool){l:aO}(hl:l.length≤100000){i:Nat}(hi:i<l.length): ∀(m n k:Nat),i-k≤m→m<n→k≤i→(dy (l.getD i a7).2.2.1 1→mg l k (l.getD i a7).2.1=false)→
  mh.l8 N K n l (i:Int) (l.getD i a7) (k:Int)=if kv l i then K l ((i+1:Nat):Int)else some false
 |m,0,k,_,hn,_,_=>ω
 |m,n+1,k,hm,hn,hk,h=>by
  unfold mh.l8 mh.CQ
  by_cases D3:k<i
  ·rw[aP ω,ak,aQ ω ω,ak,ak,aE,aw (x:=(k:Int)+1) ω ω,ae,aN,aN,aN]
   by_cases h1:dy (l.getD i a7).2.2.1 1
   ·have p8:=h1
    unfold dy at p8
    rw[aj p8]
    by_cases h2:yA l k (l.getD i a7).2.1
    ·have yz:=h2
     unfold yA dy at yz
     have vE: ¬kv l i:=λh3=>h3 ⟨h1,w1.2 ⟨k,D3,h2⟩⟩
     rw[aj yz.1,aj yz.2,ah vE]
    ·have yV:=BF N K hl hi (m-1) n (k+1) ω ω ω (λ_=>by rw[vh,h h1,cg h2];rfl)
     split
     ·split
      ·rename_i h3 h4
       exact absurd (show yA l k (l.getD i a7).2.1 from⟨h3,h4⟩) h2
      ·exact yV
     ·exact yV
   ·have p8:=h1
    unfold dy at p8
    rw[ah p8]
    exact BF N K hl hi (m-1) n (k+1) ω ω ω (λh=>absurd h h1)
  ·have:k=i:=ω
   subst this
   have vE:kv l k:=λh3=>by rw[h h3.1]at h3;exact nomatch h3.2
   rw[aL ω,ar,aj vE,aw (x:=(k:Int)+1) ω ω];rfl
set_option maxHeartbeats 2000000 in
theorem uj(N:Nat){l:aO}(hl:l.length≤100000)(hN:200000≤N):mh N l=some (gX l):=by
 unfold mh mh.b
 refine iK (F:=λn i=>mh.l2 N n l i) (Ay l) (λn i r hi hp hr=> ?_) (λn=> ?_) N ω
 ·unfold mh.l2 mh.gV
  have hT:mh.j7 N (mh.l2 N n) l (i:Int) (l.getD i a7)=if kv l i then r else some false:=by
   unfold mh.j7 mh.PG
   have:=BF N (mh.l2 N n) hl hi i N 0 ω ω ω (λ_=>rfl)
   rw[hr]at this
   exact this
  rw[aP ω,ak,aQ ω ω,ak]
  simp only[aE]
  rw[hT]
  have hD:(if Ay l i then r else some false)=if mB (l.getD i a7).1 (l.getD i a7).2.1 (l.getD i a7).2.2.1 (l.getD i a7).2.2.2.1∧uh i (l.getD (i-1) a7).1 (l.getD i a7).1 then(if kv l i then r else some false)else some false:=by
   unfold Ay
   by_cases h1:uh i (l.getD (i-1) a7).1 (l.getD i a7).1<;>by_cases h2:kv l i<;>by_cases h3:mB (l.getD i a7).1 (l.getD i a7).2.1 (l.getD i a7).2.2.1 (l.getD i a7).2.2.2.1<;>simp[h1,h2,h3]
  rw[hD]
  generalize (if kv l i then r else some false)=t
  by_cases h0:0<i
  ·have e:W .i64 ((i:Int)-1)=((i-1:Nat):Int):=by rw[aw ω ω];omega
   rw[aP (x:=0) (y:=(i:Int)) ω,e]
   simp only[ak,aE]
   rw[aQ (i:=((i-1:Nat):Int)) ω ω]
   simp only[cond_not,cU,cP,aN,ak]
   by_cases hP:mB (l.getD i a7).1 (l.getD i a7).2.1 (l.getD i a7).2.2.1 (l.getD i a7).2.2.2.1∧uh i (l.getD (i-1) a7).1 (l.getD i a7).1
   ·rw[aj hP];unfold mB uh at hP
    repeat' split
    all_goals first|rfl|omega
   ·rw[ah hP];unfold mB uh at hP
    repeat' split
    all_goals first|rfl|omega
  ·rw[aL (x:=0) (y:=(i:Int)) ω]
   simp only[cond_not,cU,cP,aN,ak,ar]
   by_cases hP:mB (l.getD i a7).1 (l.getD i a7).2.1 (l.getD i a7).2.2.1 (l.getD i a7).2.2.2.1∧uh i (l.getD (i-1) a7).1 (l.getD i a7).1
   ·rw[aj hP];unfold mB uh at hP
    repeat' split
    all_goals first|rfl|omega
   ·rw[ah hP];unfold mB uh at hP
    repeat' split
    all_goals first|rfl|omega
 ·unfold mh.l2 mh.gV
  rw[aL ω,ar]
end VM
end
section
namespace VM
open Go VM.F
def gd(a:aO)(id:Int):cy×Bool:=if gX a then ui id a else(a7,false)
theorem Z9(N:Nat){a:aO}(hl:a.length≤100000)(hN:200000≤N)(id:Int):pf N a id=some (gd a id):=by
 unfold pf pf.b gd
 rw[R7 N hl hN,av,cond_not,TE N hl hN]
 cases gX a<;>rfl
theorem Az(N:Nat){a:aO}(hl:a.length≤100000)(hN:200000≤N)(id:Int):DD N a id=some (gd a id):=by
 unfold DD gd
 rw[uj N hl hN,av,cond_not,rA N hl hN]
 cases gX a<;>rfl
def nI(a:aO)(id:Int):Int:=if gX a then nH id a else 0
theorem qB(N:Nat){a:aO}(hl:a.length≤100000)(hN:200000≤N)(id:Int):yX N a id=some (nI a id):=by
 unfold yX yX.b nI
 rw[uj N hl hN,av,cond_not,Na N hl hN]
 cases gX a<;>rfl
def kV(m:aG)(a:aO)(i:Nat):Prop:= ¬dy (jO (a.getD i a7).2.1 m) 0
instance(m:aG)(a:aO):DecidablePred (kV m a):=λi=>by unfold kV;infer_instance
def rB(m:aG)(a:aO):Bool:=dx m&&(gX a&&(decide (∀j,j<a.length→kV m a j)&&true))
theorem aaa(N:Nat){m:aG}{a:aO}(hm:m.length≤100000)(hl:a.length≤100000)(hN:200000≤N):DE N m a=some (rB m a):=by
 unfold DE DE.b rB
 rw[FA N hm hN,av,cond_not,R7 N hl hN,av,cond_not]
 cases hM:dx m
 ·rfl
 cases gX a
 ·rfl
 rw[np,np,ak,ak]
 refine iK (F:=λn i=>DE.l4 N n m a (a.length:Int) i) (kV m a) (λn i r hi hp hr=> ?_) (λn=> ?_) N ω
 ·unfold DE.l4 DE.dH
  rw[aP ω,ak,aQ ω ω,ak,aE,aw (x:=(i:Int)+1) ω ω,ae,IE N hm hN,av,aN]
  unfold iN
  rw[hM,aj rfl]
  by_cases hP:kV m a i
  ·rw[aj hP,ah (show ¬((jO (a.getD i a7).2.1 m:Int)=0)from λh=>hP h)];exact hr
  ·rw[ah hP,aj (show(jO (a.getD i a7).2.1 m:Int)=0 by unfold kV at hP;exact zz.1 hP)]
 ·unfold DE.l4 DE.dH
  rw[aL ω,ar]
theorem w3(N:Nat){m:aG}{a:aO}(hm:m.length≤100000)(hl:a.length≤100000)(hN:200000≤N):oD N m a=some (rB m a):=by
 unfold oD oD.b rB
 rw[mL N hm hN,av,cond_not,uj N hl hN,av,cond_not]
 cases hM:dx m
 ·rfl
 cases gX a
 ·rfl
 rw[np,np,ak,ak]
 refine iK (F:=λn i=>oD.l4 N n m a i) (kV m a) (λn i r hi hp hr=> ?_) (λn=> ?_) N ω
 ·unfold oD.l4 oD.dH
  rw[aP ω,ak,aQ ω ω,ak,aE,aw (x:=(i:Int)+1) ω ω,ae,im N hm hN,av,aN]
  by_cases hP:kV m a i
  ·rw[aj hP,ah (show ¬((jO (a.getD i a7).2.1 m:Int)=0)from λh=>hP h)];exact hr
  ·rw[ah hP,aj (show(jO (a.getD i a7).2.1 m:Int)=0 by unfold kV at hP;exact zz.1 hP)]
 ·unfold oD.l4 oD.dH
  rw[aL ω,ar]
end VM
end
