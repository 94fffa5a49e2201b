/- A part of the proof of HedgeLess of layer 22: what the functions compute, in plain words. -/
import Derived.Test.YtocmlaipoebfeaaGreatPlain0
import Derived.Test.YtocmlaipoebfeaaGreatText
set_option linter.all false
section
namespace VM
open Go VM.F
theorem ack{x:Int}(h0:0≤x)(h1:x<18446744073709551616):mW .and .u64 x 1=x%2:=by
 rw[N5 h0 h1 ω ω]
 have:=MS x.toNat 1
 rw[show((1:Int).toNat)=2^1-1 from rfl,this]
 omega
theorem IA{l:List Int}{k:Nat}(x:Int)(h:k<l.length):c6 ((l.set k x).drop k)=x+4294967296*c6 (l.drop (k+1)):=by
 rw[kS,mO l x h,List.drop_set_of_lt ω]
theorem Js(N:Nat){d:List Int}(hd:VD d)(hl:d.length≤100000)(hN:4000000≤N): ∀(k n:Nat) (out:List Int) (c:Int),k≤d.length→k<n→VD out→out.length=d.length→c=c6 (d.drop k)%2→c6 (out.drop k)=c6 (d.drop k)/2→
  qj.l4 N n d out c ((k:Int)-1)=some (lD (c6 d/2).toNat,c6 d%2)
 |k,0,out,c,_,hn,_,_,_,_=>ω
 |0,n+1,out,c,_,_,ho,Cc,hc,hv=>by
  unfold qj.l4 qj.eN
  simp (disch:=omega) only[aQ,aP,dY,dL,dF,dG,aS,bP,cD,dD,aw,cz,ak,av,bp,cX,ar,aG,dq,af,aM,aK,bM,cQ,aR,ck,Ln N ho ω ω]
  rw[c0,c0]at hv
  rw[c0]at hc
  rw[hv,hc]
 |k+1,n+1,out,c,hk,hn,ho,Cc,hc,hv=>by
  unfold qj.l4 qj.eN
  have e:((k+1:Nat):Int)-1=(k:Int):=ω
  obtain⟨g0,g1⟩:=hd.getD k
  have hn0:=kp (hd.drop (k+1))
  have e1:=kS d k
  simp only[e,aG]
  rw[aiz ω]
  generalize hx:d.getD k 0=x at*
  rw[cz (x:=c*4294967296) ω ω,VC g0 g1 ω ω]
  simp (disch:=omega) only[aQ,aP,dY,dL,dF,dG,aS,bP,cD,dD,aw,cz,ak,av,bp,cX,ar,aG,dq,af,aM,aK,bM,cQ,aR,ck,apM,ack]
  refine Js N hd hl hN k n (out.set k ((x+c*4294967296)/2)) ((x+c*4294967296)%2) ω ω (ho.set _ ω ω) (by rw[bM];exact Cc) (by rw[e1,hc];omega) ?_
  rw[IA _ ω,hv,e1]
  omega
theorem acm(N:Nat)(hN:4000000≤N)(m:Nat)(h:(lD m).length≤100000):qj N (lD m)=some (lD (m/2),((m%2:Nat):Int)):=by
 unfold qj qj.b
 simp (disch:=omega) only[aQ,aP,dY,dL,dF,dG,aS,bP,cD,dD,aw,cz,ak,av,bp,cX,ar,aG,dq,af,aM,aK,bM,cQ,aR,ck]
 have:=Js N (jC m) h hN (lD m).length N (List.replicate (lD m).length 0) 0 (aH _) ω (VD.aiy _) (by simp) (by rw[nf];rfl) (by rw[nf,kI (by simp)];rfl)
 rw[gJ]at this
 rw[this]
 congr 2
def bin(n:Nat):List Int:=if n=0 then []else((n%2:Nat):Int)::bin (n/2)
termination_by n
decreasing_by omega
theorem EM{n:Nat}(h:n≠0):bin n=((n%2:Nat):Int)::bin (n/2):=by rw[bin];simp[h]
theorem xF:bin 0=[]:=by rw[bin];rfl
def A5:List Int→Int
 |[]=>0
 |d::r=>d+2*A5 r
theorem acn(n:Nat):A5 (bin n)=n:=by
 induction n using Nat.strongRecOn with
 |_ n ih=>
  by_cases h:n=0
  ·subst h;rw[xF];rfl
  ·rw[EM h,A5,ih _ ω];omega
theorem aco(n:Nat): ∀d∈bin n,d=0∨d=1:=by
 induction n using Nat.strongRecOn with
 |_ n ih=>
  by_cases h:n=0
  ·subst h;rw[xF];intro d hd;cases hd
  ·rw[EM h];intro d hd
   rcases aZ.1 hd with rfl|hd
   ·omega
   ·exact ih _ ω d hd
theorem acp(k:Nat): ∀n,n<2^k→(bin n).length≤k:=by
 induction k with
 |zero=>
  intro n h;have:n=0:=by simpa using h
  subst this;rw[xF];simp
 |succ k ih=>
  intro n h
  by_cases hn:n=0
  ·subst hn;rw[xF];simp
  ·rw[EM hn,aR]
   have:=ih (n/2) (by rw[pz]at h;omega)
   omega
theorem YA{n k:Nat}(h:n<4294967296^k):(bin n).length≤32*k:=acp _ _ (nc h (by rw[Nat.pow_mul];exact aH _))
theorem Jt(N:Nat)(hN:4000000≤N)(x2 x3 x4 x5:aJ): ∀(m n:Nat) (t:Nat) (bits:List Int),(bin t).length≤m→m<n→(lD t).length≤100000→bits.length+(bin t).length≤4000000→
  iz.l3 N n x2 x3 x4 x5 bits (lD t)=iz.l9 N N x2 x3 x4 x5 (bits++bin t) (false,([],())) (false,([],())) (((bits++bin t).length:Int)-1)
 |m,0,t,bits,_,hn,_,_=>ω
 |m,n+1,t,bits,hm,hn,hd,hb=>by
  unfold iz.l3 iz.ob
  by_cases ht:t=0
  ·subst ht
   rw[ko,xF]
   simp (disch:=omega) only[aQ,aP,dY,dL,dF,dG,aS,bP,cD,dD,aw,cz,ak,av,bp,cX,ar,aG,dq,af,aM,aK,bM,cQ,aR,ck,cH]
  ·have NB:0<(lD t).length:=by
    apply o7.2
    intro h;rw[A2]at h;omega
   rw[EM ht]at hm hb ⊢
   rw[aR]at hm hb
   have hdl:(lD (t/2)).length≤100000:=by
    have:=Lm _ t hd
    exact vI _ _ (Nat.lt_of_le_of_lt (Nat.div_le_self _ _) this)
   simp (disch:=omega) only[aQ,aP,dY,dL,dF,dG,aS,bP,cD,dD,aw,cz,ak,av,bp,cX,ar,aG,dq,af,aM,aK,bM,cQ,aR,ck,acm N hN t hd]
   rw[Jt N hN x2 x3 x4 x5 (m-1) n (t/2) (bits++[((t%2:Nat):Int)]) ω ω hdl (by simp;omega)]
   simp
theorem VE(l:List Int){i:Nat}(h:i<l.length):A5 (l.drop i)=l.getD i 0+2*A5 (l.drop (i+1)):=by
 rw[qI h,A5,aU,bg h];rfl
theorem Dw: ∀{l:List Int},(∀d∈l,d=0∨d=1)→0≤A5 l
 |[],_=>dP _
 |d::r,h=>by
  have h1:=Dw (l:=r) λx hx=>h x (a7 _ hx)
  have:=h d (bh ..)
  simp only[A5];omega
theorem vK: ∀(l:List Int) (i:Nat),(∀d∈l,d=0∨d=1)→A5 (l.drop i)≤A5 l
 |l,0,_=>dP _
 |[],i+1,_=>dP _
 |d::r,i+1,h=>by
  have h1:=vK r i λx hx=>h x (a7 _ hx)
  have h2:=Dw (l:=r) λx hx=>h x (a7 _ hx)
  have:=h d (bh ..)
  rw[List.drop_succ_cons,A5];omega
theorem uY(N:Nat)(hN:4000000≤N)(a d:Int)(hd:0<d)(TX:Fit a 80000)(VF:Fit d 80000)(x4 x5:aJ){bits:List Int}(hb: ∀x∈bits,x=0∨x=1)(hbv:A5 bits=a.natAbs)(xj:bits.length≤4000000):
  ∀(k n:Nat) (q r:Int),k≤bits.length→k<n→0≤q→0≤r→r<d→A5 (bits.drop k)=q*d+r→
  iz.l9 N n (di a) (di d) x4 x5 bits (di q) (di r) ((k:Int)-1)=some (di (a/d),di (a%d))
 |k,0,q,r,_,hn,_,_,_,_=>ω
 |0,n+1,q,r,_,_,hq,hr,ld,hv=>by
  unfold iz.l9 iz.xG
  rw[c0,hbv]at hv
  have hqa:q≤a.natAbs:=by
   have:q*1≤q*d:=kG ω hq
   omega
  have fq:Fit q 900000:=(TX.of_le (u:=q) ω).mono ω
  have fr:Fit r 900000:=(VF.of_le (u:=r) ω).mono ω
  have f1:Fit 1 900000:=(Fit.i64 (v:=1) ω ω).mono ω
  have fq':Fit (-q) 900000:=fq.neg
  have fd:Fit d 900000:=VF.mono ω
  rw[dL ω,av]
  by_cases ha:a<0
  ·have hna:(a.natAbs:Int)= -a:=ω
   have e0:(di a).1=true:=a8 ha
   simp only[e0,bp,av,mj,ar]
   by_cases hr0:r=0
   ·subst hr0
    rw[dF (by unfold p5;simp),ak]
    simp only[oE N hN fq,ar]
    have e1:a=d*(-q):=by rw[rN,eL];omega
    have e2:a/d= -q:=by rw[e1,M4 _ ω]
    have e3:a%d=0:=by rw[e1,Int.mul_emod_right]
    rw[e2,e3]
   ·rw[dG (by unfold p5;rw[aj ω,ah ω];omega),av]
    simp (disch:=omega) only[oE N hN fq,da N ω (show-9223372036854775808≤(1:Int)by omega) ω,ar,tx N hN fq' f1,tx N hN fd fr]
    have e1:a=(d-r)+d*(-q-1):=by rw[Au,rN,Int.mul_one,eL];omega
    have e2:a/d= -q-1:=by
     rw[e1,wW _ _ ω,Aa ω ω];omega
    have e3:a%d=d-r:=by rw[e1,zZ,Fu ω ω]
    rw[e2,e3]
  ·have hna:(a.natAbs:Int)=a:=ω
   have e0:(di a).1=false:=bC ha
   simp only[e0,cX,ak]
   have e1:a=r+d*q:=by rw[eL];omega
   have e2:a/d=q:=by rw[e1,wW _ _ ω,Aa hr ld];omega
   have e3:a%d=r:=by rw[e1,zZ,Fu hr ld]
   rw[e2,e3]
 |k+1,n+1,q,r,hk,hn,hq,hr,ld,hv=>by
  unfold iz.l9 iz.xG
  have e:((k+1:Nat):Int)-1=(k:Int):=ω
  have hle:=vK bits k hb
  have avK:=vK bits (k+1) hb
  rw[hbv]at hle avK
  have hqa:q≤a.natAbs:=by
   have:q*1≤q*d:=kG ω hq
   omega
  have fq:Fit q 80000:=TX.of_le ω
  have fr:Fit r 80000:=VF.of_le ω
  have fqq:=fq.add fq
  have frr:=fr.add fr
  have f1:Fit 1 80000:=(Fit.i64 (v:=1) ω ω).mono ω
  have hvk:=VE bits (i:=k) ω
  have Ec:bits.getD k 0=0∨bits.getD k 0=1:=by
   rw[aU,bg (show k<bits.length by omega)]
   exact hb _ (dx _)
  rw[e,dY ω,ak]
  have e2q:(q+q)*d=2*(q*d):=by rw[←Int.two_mul,gg]
  have apW:(q+q+1)*d=2*(q*d)+d:=by rw[js,e2q,uD]
  simp (disch:=omega) only[aQ,aP,dY,dL,dF,dG,aS,bP,cD,dD,aw,cz,ak,av,bp,cX,ar,aG,dq,af,aM,aK,bM,cQ,aR,ck,ji N hN (fq.mono ω) (fq.mono ω),ji N hN (fr.mono ω) (fr.mono ω),da N ω (show-9223372036854775808≤(1:Int)by omega) ω]
  rcases Ec with Ec|Ec
  ·rw[Ec,dG ω,av]
   simp only[Ch N hN (frr.mono ω) (VF.mono ω),ar]
   by_cases hge:d≤r+r
   ·rw[dY (by unfold p5;split<;>(try split)<;>omega),ak]
    simp only[tx N hN (frr.mono ω) (VF.mono ω),ji N hN (fqq.mono ω) (f1.mono ω),ar]
    refine uY N hN a d hd TX VF x4 x5 hb hbv xj k n _ _ ω ω ω ω ω ?_
    rw[hvk,Ec,hv,apW];omega
   ·rw[dL (by unfold p5;rw[ah ω];omega),av]
    refine uY N hN a d hd TX VF x4 x5 hb hbv xj k n _ _ ω ω ω ω ω ?_
    rw[hvk,Ec,hv,e2q];omega
  ·rw[Ec,dF rfl,ak]
   have apX:=frr.add (f1.mono (show 80000≤80001 by omega))
   simp only[ji N hN (frr.mono ω) (f1.mono ω),Ch N hN (apX.mono ω) (VF.mono ω),ar]
   by_cases hge:d≤r+r+1
   ·rw[dY (by unfold p5;split<;>(try split)<;>omega),ak]
    simp only[tx N hN (apX.mono ω) (VF.mono ω),ji N hN (fqq.mono ω) (f1.mono ω),ar]
    refine uY N hN a d hd TX VF x4 x5 hb hbv xj k n _ _ ω ω ω ω ω ?_
    rw[hvk,Ec,hv,apW];omega
   ·rw[dL (by unfold p5;rw[ah ω];omega),av]
    refine uY N hN a d hd TX VF x4 x5 hb hbv xj k n _ _ ω ω ω ω ω ?_
    rw[hvk,Ec,hv,e2q];omega
theorem TY(N:Nat)(hN:5000000≤N){a d:Int}(hd:0<d)(TX:Fit a 80000)(VF:Fit d 80000):iz N (di a) (di d)=some (di (a/d),di (a%d)):=by
 unfold iz iz.b
 have xj:(bin a.natAbs).length≤32*80000:=YA TX
 have h1:=Jt N ω (di a) (di d) (false,([],())) (false,([],())) (bin a.natAbs).length N a.natAbs [] (aH _) ω (ct TX.len ω) (by simp;omega)
 rw[cW]at h1
 refine h1.trans ?_
 rw[←kT]
 exact uY N ω a d hd TX VF _ _ (aco _) (acn _) ω (bin a.natAbs).length N 0 0 (aH _) ω ω ω hd (by rw[nf];simp[A5])
end VM
end
section
namespace VM
open Go VM.F
def bS(v:Int):br:=(v/18446744073709551616,(v%18446744073709551616,()))
theorem wmk{a b v:Int}(h1:a=v/18446744073709551616)(h2:b=v%18446744073709551616):((a,(b,())):br)=bS v:=by
 unfold bS;rw[h1,h2]
theorem Oo{a b v:Int}{α:Type}{c:α}(h1:a=v/18446744073709551616)(h2:b=v%18446744073709551616):(some (((a,(b,())):br),c):Option (br×α))=some (bS v,c):=by
 rw[wmk h1 h2]
theorem YB{a b c d:Int}(h1:a=c)(h2:b=d):(some (a,b):Option (Int×Int))=some (c,d):=by rw[h1,h2]
theorem zy(N:Nat){hi lo:Int}(h0:0≤hi)(h1:hi<9223372036854775808)(l0:0≤lo)(l1:lo<18446744073709551616):qk N false hi lo=some (bS (hi*18446744073709551616+lo),true):=by
 unfold qk qk.b
 rw[cX,ak,dL ω,av,aw ω ω]
 exact Oo ω ω
theorem vL(N:Nat){hi lo:Int}(h0:0≤hi)(l0:0≤lo)(l1:lo<18446744073709551616)(hm:hi*18446744073709551616+lo≤170141183460469231731687303715884105728):qk N true hi lo=some (bS (-(hi*18446744073709551616+lo)),true):=by
 unfold qk qk.b
 have hj:qk.j7 N hi lo cv=some (bS (-(hi*18446744073709551616+lo)),true):=by
  unfold qk.j7 qk.Rr
  rw[lO N ω ω l0 l1 ω ω,ar]
  by_cases hl:lo=0
  ·subst hl
   rw[aj ω]
   rw[lO N ω ω h0 ω ω ω,ar,fW]
   exact Oo (by split<;>omega) ω
  ·rw[ah ω]
   rw[lO N ω ω h0 ω ω ω,ar,fW]
   exact Oo (by split<;>omega) ω
 rw[bp,av,aP ω,av]
 by_cases he:hi=9223372036854775808
 ·rw[dF he,ak,aP ω,av];exact hj
 ·rw[dG he,av];exact hj
theorem IB{a b:Int}(a0: -9223372036854775808≤a)(a1:a<9223372036854775808)(b0: -9223372036854775808≤b)(b1:b<9223372036854775808):
  0≤(a.natAbs:Int)*b.natAbs∧(a.natAbs:Int)*b.natAbs≤85070591730234615865843651857942052864:=by
 have:=mul_lt (m:=9223372036854775808) (n:=9223372036854775808) (show 0≤(a.natAbs:Int)by omega) (show 0≤(b.natAbs:Int)by omega) ω ω
 omega
theorem A6(N:Nat){a b:Int}(a0: -9223372036854775808≤a)(a1:a<9223372036854775808)(b0: -9223372036854775808≤b)(b1:b<9223372036854775808):IC N a b=some (bS (a*b)):=by
 unfold IC
 have hm:=IB a0 a1 b0 b1
 simp only[Ll N a0 a1,Ll N b0 b1,ar,Gn N (show 0≤(a.natAbs:Int)by omega) ω (show 0≤(b.natAbs:Int)by omega) ω,nJ]
 obtain⟨m,hme⟩: ∃m,m=(a.natAbs:Int)*b.natAbs:=⟨_,rfl⟩
 rw[←hme]at hm ⊢
 have hd:m/18446744073709551616*18446744073709551616+m%18446744073709551616=m:=ω
 by_cases h1:a<0<;>by_cases h2:b<0
 ·rw[aQ h1,aQ h2,Ak,bp,zy N ω ω ω ω,ar,hd]
  have:m=a*b:=by rw[hme,show(a.natAbs:Int)= -a from by omega,show(b.natAbs:Int)= -b from by omega,Int.neg_mul_neg]
  rw[this]
 ·rw[aQ h1,aP (x:=b) ω,show(!(true==false))=true from rfl,vL N ω ω ω ω,ar,hd]
  have:m= -(a*b):=by rw[hme,show(a.natAbs:Int)= -a from by omega,show(b.natAbs:Int)=b from by omega,Int.neg_mul]
  rw[this,Int.neg_neg]
 ·rw[aP (x:=a) ω,aQ h2,show(!(false==true))=true from rfl,vL N ω ω ω ω,ar,hd]
  have:m= -(a*b):=by rw[hme,show(a.natAbs:Int)=a from by omega,show(b.natAbs:Int)= -b from by omega,rN]
  rw[this,Int.neg_neg]
 ·rw[aP (x:=a) ω,aP (x:=b) ω,Ak,bp,zy N ω ω ω ω,ar,hd]
  have:m=a*b:=by rw[hme,show(a.natAbs:Int)=a from by omega,show(b.natAbs:Int)=b from by omega]
  rw[this]
theorem Oq(N:Nat){v:Int}(v0: -170141183460469231731687303715884105728≤v)(v1:v<170141183460469231731687303715884105728):YC N (bS v)=some ((v.natAbs:Int)/18446744073709551616,(v.natAbs:Int)%18446744073709551616):=by
 unfold YC bS
 dsimp only
 by_cases h:0≤v
 ·rw[dY ω,ak,cz ω ω]
  exact YB ω ω
 ·rw[dL ω,av,lO N ω ω ω ω ω ω,ar]
  dsimp only
  rw[mN]
  by_cases hl:v%18446744073709551616=0
  ·rw[aj ω,lO N ω ω ω ω ω ω,ar]
   exact YB ω ω
  ·rw[ah ω,lO N ω ω ω ω ω ω,ar]
   exact YB ω ω
theorem acq{m d:Int}(hd:0<d)(hm:0≤m):m/d=m/18446744073709551616/d*18446744073709551616+(m/18446744073709551616%d*18446744073709551616+m%18446744073709551616)/d∧
  m%d=(m/18446744073709551616%d*18446744073709551616+m%18446744073709551616)%d:=by
 have e:=rA (m/18446744073709551616) d
 have e0:m=(m/18446744073709551616%d*18446744073709551616+m%18446744073709551616)+d*(m/18446744073709551616/d*18446744073709551616):=by
  rw[←gg];omega
 constructor
 ·conv=>lhs;rw[e0]
  rw[wW _ _ ω];omega
 ·conv=>lhs;rw[e0]
  rw[zZ]
theorem acr(N:Nat)(hN:100≤N){v d:Int}(v0: -170141183460469231731687303715884105728≤v)(v1:v<170141183460469231731687303715884105728)(d0:0<d)(d1:d<9223372036854775808):
  uZ N (bS v) d=some (bS (v/d),v%d,true):=by
 unfold uZ uZ.b
 rw[aP ω,av,Oq N v0 v1,ar,cz (x:=d) ω ω]
 dsimp only
 obtain⟨m,hm⟩: ∃m:Int,m=v.natAbs:=⟨_,rfl⟩
 rw[←hm]
 have hmd:=pt (m/18446744073709551616) d0
 have avM:=rE (m/18446744073709551616) (show d≠0 by omega)
 rw[Oa N hN ω d0 ω ω ω,ar,rJ,pB]
 dsimp only
 rw[Oa N hN avM hmd ω ω ω,ar]
 dsimp only
 obtain⟨e1,e2⟩:=acq d0 (show 0≤m by omega)
 rw[←e2]
 have wT:0≤m/18446744073709551616/d:=kL ω ω
 have hq1:m/18446744073709551616/d≤m/18446744073709551616:=Fw _ ω
 have zS:=pt m d0
 have hr0:=rE m (show d≠0 by omega)
 have hl0:0≤(m/18446744073709551616%d*18446744073709551616+m%18446744073709551616)/d:=kL ω ω
 have hl1:(m/18446744073709551616%d*18446744073709551616+m%18446744073709551616)/d<18446744073709551616:=by
  rw[uw d0]
  have:=qH (show m/18446744073709551616%d+1≤d by omega) (show(0:Int)≤18446744073709551616 by omega)
  rw[js,uD,eL d]at this;omega
 generalize (m/18446744073709551616%d*18446744073709551616+m%18446744073709551616)/d=ql at*
 generalize hqh:m/18446744073709551616/d=qh at*
 have hmq:=rA m d
 by_cases h:0≤v
 ·have hv:m=v:=ω
  rw[dY (show(0:Int)≤(bS v).1 by show 0≤v/_;omega),ak,aw (x:=qh) ω ω,aw (x:=m%d) ω ω,←hv]
  unfold bS
  exact Oo ω ω
 ·have hv:v= -m:=ω
  rw[dL (show(bS v).1<0 by show v/_<0;omega),av]
  by_cases hr:0<m%d
  ·rw[aQ hr,ak,uV N hl0 ω ω ω,ar]
   unfold uZ.Lp uZ.A7
   dsimp only
   rw[cz (x:=d-m%d) ω ω,cz (x:=qh+(ql+1+0)/18446744073709551616) ω ω]
   rw[vL N ω ω ω (by
    have:m/d*1≤m/d*d:=kG ω (kL ω ω)
    rw[eL]at hmq;omega),ar,aw (x:=d-m%d) ω ω]
   have e3:v=(d-m%d)+d*(-(m/d)-1):=by rw[hv,Au,rN,Int.mul_one];omega
   have e4:v/d= -(m/d)-1:=by
    rw[e3,wW _ _ ω,Aa ω ω];omega
   have e5:v%d=d-m%d:=by rw[e3,zZ,Fu ω ω]
   rw[e4,e5]
   dsimp only
   rw[show-((qh+(ql+1+0)/18446744073709551616)*18446744073709551616+(ql+1+0)%18446744073709551616)= -(m/d)-1 by omega]
  ·have eF:m%d=0:=ω
   rw[aP ω,av]
   unfold uZ.Lp uZ.A7
   rw[vL N ω ω ω (by
    have:m/d*1≤m/d*d:=kG ω (kL ω ω)
    rw[eL]at hmq;omega),ar,aw (x:=m%d) ω ω]
   have e3:v=d*(-(m/d)):=by rw[hv,rN];omega
   have e4:v/d= -(m/d):=by rw[e3,M4 _ ω]
   have e5:v%d=0:=by rw[e3,Int.mul_emod_right]
   rw[e4,e5,eF]
   dsimp only
   rw[show-(qh*18446744073709551616+ql)= -(m/d)by omega]
theorem acs(N:Nat){v:Int}(v0: -170141183460469231731687303715884105728≤v)(v1:v<170141183460469231731687303715884105728):Ot N (bS v)=some (Eh v):=by
 unfold Ot bS
 rw[aP ω,av]
 dsimp only
 have hw0: -9223372036854775808≤W .i64 (v%18446744073709551616)∧W .i64 (v%18446744073709551616)<9223372036854775808:=by rw[fW];split<;>omega
 rw[vH hw0.1 hw0.2]
 have hwv:W .i64 (v%18446744073709551616)=if 9223372036854775808≤v%18446744073709551616 then v%18446744073709551616-18446744073709551616 else v%18446744073709551616:=by rw[fW];split<;>split<;>omega
 rw[hwv]
 unfold Eh
 by_cases h: -9223372036854775808≤v∧v<9223372036854775808
 ·rw[ah h]
  by_cases hn:v<0
  ·rw[ah (show 9223372036854775808≤v%18446744073709551616 by omega),ah ω,dF ω,bp,av]
   congr 2;omega
  ·rw[aj (show ¬9223372036854775808≤v%18446744073709551616 by omega),aj ω,dF ω,bp,av]
   congr 2;omega
 ·rw[aj h]
  by_cases hm:9223372036854775808≤v%18446744073709551616
  ·rw[ah hm,ah ω,dG ω,cX,ak]
  ·rw[aj hm,aj ω,dG ω,cX,ak]
end VM
end
section
namespace VM
open Go
theorem cond_not{α:Type}(b:Bool)(x y:α):cond (!b) x y=cond b y x:=by cases b<;>rfl
theorem bN{α:Type}(a b:Int)(x y:α):cond (aT a b) x y=if a<b then x else y:=by
 by_cases h:a<b
 ·rw[aQ h,ah h];rfl
 ·rw[aP ω,aj h];rfl
theorem cn{α:Type}(a b:Int)(x y:α):cond (cZ a b) x y=if a≤b then x else y:=by
 by_cases h:a≤b
 ·rw[dY h,ah h];rfl
 ·rw[dL ω,aj h];rfl
theorem aI{α:Type}(a b:Int)(x y:α):cond (aN a b) x y=if a=b then x else y:=by
 by_cases h:a=b
 ·rw[dF h,ah h];rfl
 ·rw[dG h,aj h];rfl
theorem ed{α:Type}(p:Prop) [Decidable p](x y:α):cond (decide p) x y=if p then x else y:=by
 by_cases h:p
 ·rw[a8 h,ah h];rfl
 ·rw[bC h,aj h];rfl
theorem drop_cons{α:Type}{l:List α}{i:Nat}(h:i<l.length)(d:α):l.drop i=l.getD i d::l.drop (i+1):=by
 rw[qI h,aU,bg h];rfl
theorem oF{α σ β:Type}(l:List α)(d:α)(F:Nat→Int→σ→Option β)(g:List α→σ→Option β)(I:Nat→σ→Prop)
  (hs: ∀n i s,i<l.length→I i s→(∀s',I (i+1) s'→F n ((i+1:Nat):Int) s'=g (l.drop (i+1)) s')→F (n+1) (i:Int) s=g (l.getD i d::l.drop (i+1)) s)
  (he: ∀n s,I l.length s→F (n+1) (l.length:Int) s=g [] s): ∀m n i s,l.length-i≤m→m<n→i≤l.length→I i s→F n (i:Int) s=g (l.drop i) s
 |m,0,i,s,_,hn,_,_=>ω
 |m,n+1,i,s,hm,hn,hi,hI=>by
  by_cases h:i<l.length
  ·rw[drop_cons h d]
   exact hs n i s h hI λs' y4=>oF l d F g I hs he (m-1) n (i+1) s' ω ω ω y4
  ·have:i=l.length:=ω
   subst this
   rw[nf];exact he n s hI
theorem A8{α β:Type}(l:List α)(d:α)(F:Nat→Int→Option β)(g:List α→Option β)
  (hs: ∀n i,i<l.length→F n ((i+1:Nat):Int)=g (l.drop (i+1))→F (n+1) (i:Int)=g (l.getD i d::l.drop (i+1)))
  (he: ∀n,F (n+1) (l.length:Int)=g []) (n:Nat) (hn:l.length<n):F n 0=g l:=by
 have:=oF (σ:=Unit) l d (λn i _=>F n i) (λl _=>g l) (λ_ _=>True) (λn i _ h _ hr=>hs n i h (hr () trivial)) (λn _ _=>he n) l.length n 0 () ω hn ω trivial
 simpa using this
theorem scan{F:Nat→Int→Option Bool}{len:Nat}(P:Nat→Prop) [DecidablePred P]
  (hs: ∀n i r,i<len→(∀j,j<i→P j)→F n ((i+1:Nat):Int)=r→F (n+1) (i:Int)=if P i then r else some false) {e:Bool} (he: ∀n,F (n+1) (len:Int)=some e):
  ∀m n i,len-i≤m→m<n→i≤len→(∀j,j<i→P j)→F n (i:Int)=some (decide (∀j,j<len→i≤j→P j)&&e)
 |m,0,i,_,hn,_,_=>ω
 |m,n+1,i,hm,hn,hi,hp=>by
  by_cases h:i<len
  ·rw[hs n i _ h hp rfl]
   by_cases hP:P i
   ·rw[ah hP,scan P hs he (m-1) n (i+1) ω ω ω (λj hj=>by
     by_cases zt:j=i
     ·subst zt;exact hP
     ·exact hp j ω)]
    congr 2
    rw[np]
    refine⟨λhj j h2 h1=> ?_,λhj j h2 h1=>hj j h2 ω⟩
    by_cases zt:j=i
    ·subst zt;exact hP
    ·exact hj j h2 ω
   ·rw[aj hP,bC (λhj=>hP (hj i h (aH i)))];rfl
  ·have:i=len:=ω
   subst this
   rw[he n,a8 (λj h2 h1=>absurd h2 ω)];rfl
theorem gV{F:Nat→Int→Option Bool}{len:Nat}(P:Nat→Prop) [DecidablePred P]{e:Bool}
  (hs: ∀n i r,i<len→(∀j,j<i→P j)→F n ((i+1:Nat):Int)=r→F (n+1) (i:Int)=if P i then r else some false) (he: ∀n,F (n+1) (len:Int)=some e) (n:Nat) (hn:len<n):
  F n 0=some (decide (∀j,j<len→P j)&&e):=by
 have:=scan P hs he len n 0 ω hn ω (λj hj=>absurd hj ω)
 rw[show((0:Nat):Int)=0 from rfl]at this
 rw[this]
 congr 2
 rw[np]
 exact⟨λh j hj=>h j hj ω,λh j hj _=>h j hj⟩
end VM
end
section
namespace VM
open Go VM.F
def cf(x:Int):Prop:= -170141183460469231731687303715884105728≤x∧x<170141183460469231731687303715884105728
instance(x:Int):Decidable (cf x):=by unfold cf;infer_instance
theorem qm(N:Nat){x:Int}(h0: -9223372036854775808≤x)(h1:x<9223372036854775808):ID N x=some (bS x):=by
 unfold ID
 rw[aP ω,av,vH h0 h1,mN]
 congr 1
 exact wmk (by split<;>omega) rfl
theorem acu{ws:List Int}(i:Nat):(ws.map bS).getD i cv=bS (ws.getD i 0):=by
 by_cases h:i<ws.length
 ·rw[aU,nj,bg h,aU,bg h];rfl
 ·rw[aU,gH (by rw[cI];omega),aU,gH ω];rfl
theorem RV{ws:List Int}(h: ∀x∈ws,cf x): -(170141183460469231731687303715884105728*(ws.length:Int))≤ws.sum∧ws.sum≤170141183460469231731687303715884105728*(ws.length:Int):=by
 induction ws with
 |nil=>simp
 |cons x ws ih=>
  have h0:=h x (bh ..)
  have ih:=ih (λy hy=>h y (a7 _ hy))
  unfold cf at h0
  rw[cB,aR];omega
theorem YD{t w:Int}{lo hi top:Int}(hw:cf w)(yL:lo=t%18446744073709551616)(MJ:hi=t/18446744073709551616%18446744073709551616)(avO:top=t/340282366920938463463374607431768211456):
  (lo+w%18446744073709551616+0)%18446744073709551616=(t+w)%18446744073709551616∧
  (hi+(w/18446744073709551616)%18446744073709551616+(lo+w%18446744073709551616+0)/18446744073709551616)%18446744073709551616=(t+w)/18446744073709551616%18446744073709551616∧
  top+(if w/18446744073709551616<0 then-1 else 0)+(hi+(w/18446744073709551616)%18446744073709551616+(lo+w%18446744073709551616+0)/18446744073709551616)/18446744073709551616=(t+w)/340282366920938463463374607431768211456:=by
 unfold cf at hw
 subst yL MJ avO
 refine⟨ω,ω,?_⟩
 split<;>omega
def Ou(t:Int):br×Bool:=if cf t then(bS t,true)else(cv,false)
theorem W64(x:Int):W .u64 x=x%18446744073709551616:=mN x
theorem Ju(N:Nat){ws:List Int}(h: ∀x∈ws,cf x)(hl:ws.length≤1000000): ∀(m n i:Nat) (t:Int),ws.length-i≤m→m<n→i≤ws.length→t=(ws.take i).sum→
  mZ.l3 N n cv (t/340282366920938463463374607431768211456) (t/18446744073709551616%18446744073709551616) (t%18446744073709551616) (ws.map bS) (ws.length:Int) (i:Int)=some (Ou ws.sum)
 |m,0,i,t,_,hn,_,_=>ω
 |m,n+1,i,t,hm,hn,hi,ht=>by
  unfold mZ.l3 mZ.ob
  have f1:=RV (ws:=ws.take i) (λx hx=>h x (lZ hx))
  rw[cc,iB ω,←ht]at f1
  by_cases h1:i<ws.length
  ·have hw:cf (ws.getD i 0):=by
    rw[aU,bg h1];exact h _ (dx h1)
   have hs:=lP ws h1
   rw[←ht]at hs
   have st:=YD (t:=t) (w:=ws.getD i 0) hw rfl rfl rfl
   have Ei:=Ju N h hl (m-1) n (i+1) (t+ws.getD i 0) ω ω ω hs.symm
   rw[aQ ω,ak,aS ω (by rw[cI];omega),ak,aG,acu]
   unfold bS
   dsimp only
   have hw':=hw
   unfold cf at hw'
   generalize ws.getD i 0=w at*
   have hq:0≤(t%18446744073709551616+w%18446744073709551616+0)/18446744073709551616∧(t%18446744073709551616+w%18446744073709551616+0)/18446744073709551616≤1:=ω
   rw[uV N ω ω ω ω,ar,W64,uV N ω ω hq.1 hq.2,ar,aP (x:=63) ω,av,st.1,st.2.1]
   rw[vH ω ω]
   have hc:0≤(t/18446744073709551616%18446744073709551616+w/18446744073709551616%18446744073709551616+(t%18446744073709551616+w%18446744073709551616+0)/18446744073709551616)/18446744073709551616∧(t/18446744073709551616%18446744073709551616+w/18446744073709551616%18446744073709551616+(t%18446744073709551616+w%18446744073709551616+0)/18446744073709551616)/18446744073709551616≤1:=ω
   have hif: -1≤(if w/18446744073709551616<0 then(-1:Int)else 0)∧(if w/18446744073709551616<0 then(-1:Int)else 0)≤0:=by split<;>omega
   rw[aw (x:=t/340282366920938463463374607431768211456+_) ω ω,aw (x:=(_:Int)/18446744073709551616) ω ω,st.2.2,aw ω ω,aw (x:=(i:Int)+1) ω ω]
   exact Ei
  ·have e:(ws.take i).sum=ws.sum:=by rw[jK ω]
   rw[e]at ht
   rw[aP ω,av,aP (x:=63) ω,av,←ht]
   have hh: -9223372036854775808≤W .i64 (t/18446744073709551616%18446744073709551616)∧W .i64 (t/18446744073709551616%18446744073709551616)<9223372036854775808:=by rw[fW];split<;>omega
   have hwv:W .i64 (t/18446744073709551616%18446744073709551616)=if 9223372036854775808≤t/18446744073709551616%18446744073709551616 then t/18446744073709551616%18446744073709551616-18446744073709551616 else t/18446744073709551616%18446744073709551616:=by rw[fW];split<;>split<;>omega
   rw[vH hh.1 hh.2,hwv]
   unfold Ou
   by_cases hI:cf t
   ·rw[ah hI]
    unfold cf at hI
    rw[dF (by split<;>split<;>omega),bp,av]
    exact Oo (by split<;>omega) rfl
   ·rw[aj hI]
    unfold cf at hI
    rw[dG (by split<;>split<;>omega),cX,ak]
theorem EN(N:Nat){ws:List Int}(h: ∀x∈ws,cf x)(hl:ws.length≤1000000)(hN:1000000<N):mZ N (ws.map bS)=some (Ou ws.sum):=by
 unfold mZ mZ.b
 rw[cI]
 exact Ju N h hl ws.length N 0 0 ω ω ω (by simp)
end VM
end
section
namespace VM
open Go VM.F
theorem vM(N:Nat)(a lo hi:Int):Ej N a lo hi=some (decide (lo≤a∧a≤hi)):=by
 unfold Ej
 rw[cn,ny]
 by_cases h:lo≤a
 ·rw[ah h];congr 1;rw[np];omega
 ·rw[aj h,bC ω]
theorem Jv(N:Nat)(a lo hi:Int):IE N a lo hi=some (decide (lo≤a∧a≤hi)):=vM N a lo hi
def nK(a b c d:Int):Prop:=(0≤a∧a≤3)∧(1≤b∧b≤1000000000000)∧(0≤c∧c≤1000000000)∧(0≤d∧d≤1000000000)
instance(a b c d:Int):Decidable (nK a b c d):=by unfold nK;infer_instance
def qn(l:aO)(i:Nat):Prop:=nK (l.getD i aW).1 (l.getD i aW).2.1 (l.getD i aW).2.2.1 (l.getD i aW).2.2.2.1
instance(l:aO):DecidablePred (qn l):=λi=>by unfold qn;infer_instance
def nL(a b c d e f:Int):Prop:=0≤a∧(0≤b∧b≤4)∧(0≤c∧c≤1000000)∧(0≤d∧d≤1000000)∧(1≤e∧e≤4611686018427387904)∧0≤f
instance(a b c d e f:Int):Decidable (nL a b c d e f):=by unfold nL;infer_instance
def qo(c:ae):Prop:=nL c.2.1 c.2.2.1 c.2.2.2.1 c.2.2.2.2.1 c.2.2.2.2.2.1 c.2.2.2.2.2.2.1
instance(c:ae):Decidable (qo c):=by unfold qo;infer_instance
def eo(c:ae):Bool:=decide (1≤c.1.length∧c.1.length≤6)&&(decide (∀j,j<c.1.length→qn c.1 j)&&decide (qo c))
theorem EO(N:Nat)(hN:100≤N)(c:ae):BT N c=some (eo c):=by
 unfold BT BT.b eo
 rw[vM,ar,cond_not,ed]
 by_cases hl:1≤c.1.length∧c.1.length≤6
 ·rw[ah ω,a8 hl,lF]
  refine gV (F:=λn i=>BT.l4 N n c c.1 (c.1.length:Int) i) (qn c.1) (λn i r hi hp hr=> ?_) (λn=> ?_) N ω
  ·unfold BT.l4 BT.eN
   rw[aQ ω,ak,aS ω ω,ak,aG,aw ω ω,af]
   simp only[vM,ar,cond_not,ed]
   by_cases hP:qn c.1 i
   ·rw[ah hP];unfold qn nK at hP
    repeat' split
    all_goals first|rfl|exact hr|omega
   ·rw[aj hP];unfold qn nK at hP
    repeat' split
    all_goals first|rfl|exact hr|omega
  ·unfold BT.l4 BT.eN
   rw[aP ω,av]
   simp only[vM,ar,cond_not,ed,cn,ny]
   by_cases hP:qo c
   ·rw[a8 hP];unfold qo nL at hP
    repeat' split
    all_goals first|rfl|omega|(rw[a8 ω])
   ·rw[bC hP];unfold qo nL at hP
    repeat' split
    all_goals first|rfl|omega|(rw[bC ω])
 ·rw[aj ω,bC hl,uA]
theorem nM(N:Nat)(hN:100≤N)(c:ae):mA N c=some (eo c):=by
 unfold mA mA.b eo
 rw[bN,bN]
 by_cases hl:1≤c.1.length∧c.1.length≤6
 ·rw[aj ω,aj ω,a8 hl,lF]
  refine gV (F:=λn i=>mA.l4 N n c i) (qn c.1) (λn i r hi hp hr=> ?_) (λn=> ?_) N ω
  ·unfold mA.l4 mA.eN
   rw[aQ ω,ak,aS ω ω,ak,aG,aw ω ω,af]
   simp only[Jv,ar,cond_not,ed]
   by_cases hP:qn c.1 i
   ·rw[ah hP];unfold qn nK at hP
    repeat' split
    all_goals first|rfl|exact hr|omega
   ·rw[aj hP];unfold qn nK at hP
    repeat' split
    all_goals first|rfl|exact hr|omega
  ·unfold mA.l4 mA.eN
   rw[aP ω,av]
   simp only[Jv,ar,cond_not,ed,cn,ny]
   by_cases hP:qo c
   ·rw[a8 hP];unfold qo nL at hP
    repeat' split
    all_goals first|rfl|omega|(rw[a8 ω])
   ·rw[bC hP];unfold qo nL at hP
    repeat' split
    all_goals first|rfl|omega|(rw[bC ω])
 ·rw[bC hl,uA]
  by_cases h:(c.1.length:Int)<1
  ·rw[ah h]
  ·rw[aj h,ah ω]
def iK(a b:Int)(i:Nat)(c:Int):Prop:=1≤a∧a≤12∧1≤b∧b≤4∧(0<i→c<a)
instance(a b:Int)(i:Nat)(c:Int):Decidable (iK a b i c):=by unfold iK;infer_instance
def fJ(m:aD)(i:Nat):Prop:=iK (m.getD i cv).1 (m.getD i cv).2.1 i (m.getD (i-1) cv).1
instance(m:aD):DecidablePred (fJ m):=λi=>by unfold fJ;infer_instance
def dB(m:aD):Bool:=decide (∀j,j<m.length→fJ m j)&&true
theorem Gr(N:Nat){m:aD}(hl:m.length≤100000)(hN:200000≤N):pG N m=some (dB m):=by
 unfold pG pG.b
 refine gV (F:=λn i=>pG.l2 N n m m (m.length:Int) i) (fJ m) (λn i r hi hp hr=> ?_) (λn=> ?_) N ω
 ·unfold pG.l2 pG.fy
  rw[aQ ω,ak,aS ω ω,ak,aG,aw (x:=(i:Int)+1) ω ω,af]
  by_cases h0:0<i
  ·have e:W .i64 ((i:Int)-1)=((i-1:Nat):Int):=by rw[aw ω ω];omega
   dsimp only
   rw[aQ (x:=0) ω,ak,e,aG,aS ω ω,ak]
   simp only[bN,cn]
   by_cases hP:fJ m i
   ·rw[ah hP];unfold fJ iK at hP
    repeat' split
    all_goals first|rfl|exact hr|omega
   ·rw[aj hP];unfold fJ iK at hP
    repeat' split
    all_goals first|rfl|exact hr|omega
  ·rw[aP (x:=0) ω,av]
   simp only[bN,cn]
   by_cases hP:fJ m i
   ·rw[ah hP];unfold fJ iK at hP
    repeat' split
    all_goals first|rfl|exact hr|omega
   ·rw[aj hP];unfold fJ iK at hP
    repeat' split
    all_goals first|rfl|exact hr|omega
 ·unfold pG.l2 pG.fy
  rw[aP ω,av]
theorem mP(N:Nat){m:aD}(hl:m.length≤100000)(hN:200000≤N):oe N m=some (dB m):=by
 unfold oe oe.b
 refine gV (F:=λn i=>oe.l2 N n m i) (fJ m) (λn i r hi hp hr=> ?_) (λn=> ?_) N ω
 ·unfold oe.l2 oe.fy
  rw[aQ ω,ak,aS ω ω,ak,aG,aw (x:=(i:Int)+1) ω ω,af]
  by_cases h0:0<i
  ·have e:W .i64 ((i:Int)-1)=((i-1:Nat):Int):=by rw[aw ω ω];omega
   dsimp only
   rw[aQ (x:=0) ω,e,aG,aS (i:=((i-1:Nat):Int)) ω ω]
   simp only[bN,cn,ak]
   by_cases hP:fJ m i
   ·rw[ah hP];unfold fJ iK at hP
    repeat' split
    all_goals first|rfl|exact hr|omega
   ·rw[aj hP];unfold fJ iK at hP
    repeat' split
    all_goals first|rfl|exact hr|omega
  ·rw[aP (x:=0) ω]
   simp only[bN,cn,ak,av]
   by_cases hP:fJ m i
   ·rw[ah hP];unfold fJ iK at hP
    repeat' split
    all_goals first|rfl|exact hr|omega
   ·rw[aj hP];unfold fJ iK at hP
    repeat' split
    all_goals first|rfl|exact hr|omega
 ·unfold oe.l2 oe.fy
  rw[aP ω,av]
end VM
end
section
namespace VM
open Go VM.F
def cV(k n:Int):Prop:=(1≤k∧k≤4∧n=0)∨(k=5∧1≤n∧n≤24)∨(6≤k∧k≤7∧1≤n∧n≤12)
instance(k n:Int):Decidable (cV k n):=by unfold cV;infer_instance
theorem RW(N:Nat)(k n:Int):RX N k n=some (decide (cV k n)):=by
 unfold RX
 simp only[aI,cn]
 simp only[ny,jB]
 by_cases hP:cV k n
 ·rw[a8 hP];unfold cV at hP
  repeat' split
  all_goals first|rfl|omega|(rw[a8 ω])
 ·rw[bC hP];unfold cV at hP
  repeat' split
  all_goals first|rfl|omega|(rw[bC ω])
theorem acv(N:Nat)(k n:Int):RY N k n=some (decide (cV k n)):=by
 have:=RW N k n
 unfold RX at this
 unfold RY
 exact this
def lh(a b c d:Int):Prop:=a<c∨(a=c∧b<d)
instance(a b c d:Int):Decidable (lh a b c d):=by unfold lh;infer_instance
def Ci(k n a b:Int):Int:=if k=a then n-b else k-a
def IF(x:Int):Prop:= -1000000≤x∧x≤1000000
theorem Gs(N:Nat){k n:Int}{r:cK}(h1:IF k)(h2:IF n)(h3:IF r.1)(h4:IF r.2.1):RZ N k n r=some (Ci k n r.1 r.2.1):=by
 unfold RZ Ci
 unfold IF at*
 rw[cond_not,aI]
 split
 ·rw[aw ω ω]
 ·rw[aw ω ω]
theorem Jw(N:Nat){k n:Int}{r:cK}(h1:IF k)(h2:IF n)(h3:IF r.1)(h4:IF r.2.1):VG N k n r=some (Ci k n r.1 r.2.1):=Gs N h1 h2 h3 h4
def mB(a b c:Int)(i:Nat)(d e:Int):Prop:=cV a b∧c≠0∧(0<i→lh d e a b)
instance(a b c:Int)(i:Nat)(d e:Int):Decidable (mB a b c i d e):=by unfold mB;infer_instance
def lQ(l:au)(i:Nat):Prop:=mB (l.getD i a6).1 (l.getD i a6).2.1 (l.getD i a6).2.2.1 i (l.getD (i-1) a6).1 (l.getD (i-1) a6).2.1
instance(l:au):DecidablePred (lQ l):=λi=>by unfold lQ;infer_instance
def eP(l:au):Bool:=decide (∀j,j<l.length→lQ l j)&&true
theorem EP(N:Nat){l:au}(hl:l.length≤100000)(hN:200000≤N):BU N l=some (eP l):=by
 unfold BU BU.b
 refine gV (F:=λn i=>BU.l2 N n l l (l.length:Int) i) (lQ l) (λn i r hi hp hr=> ?_) (λn=> ?_) N ω
 ·unfold BU.l2 BU.fy
  rw[aQ ω,ak,aS ω ω,ak,aG,aw (x:=(i:Int)+1) ω ω,af,RW,ar,cond_not,ed]
  by_cases hK:cV (l.getD i a6).1 (l.getD i a6).2.1
  ·rw[ah hK]
   by_cases h0:0<i
   ·have hq:=hp (i-1) ω
    have e:W .i64 ((i:Int)-1)=((i-1:Nat):Int):=by rw[aw ω ω];omega
    dsimp only
    rw[aQ (x:=0) ω,ak,e,aG,aS ω ω,ak]
    unfold lQ mB at hq
    have hq:=hq.1
    rw[Gs N (by unfold cV at hK;unfold IF;omega) (by unfold cV at hK;unfold IF;omega) (by unfold cV at hq;unfold IF;omega) (by unfold cV at hq;unfold IF;omega),ar,aI,cn]
    by_cases hP:lQ l i
    ·rw[ah hP];unfold lQ mB lh at hP;unfold Ci
     have R1:=hP.2
     repeat' split
     all_goals first|rfl|exact hr|omega
    ·rw[aj hP];unfold lQ mB lh at hP;unfold Ci
     have R1:=λh=>hP ⟨hK,h⟩
     repeat' split
     all_goals first|rfl|exact hr|omega|(exfalso;exact R1 ω)
   ·rw[aP (x:=0) ω,av,aI]
    by_cases hP:lQ l i
    ·rw[ah hP];unfold lQ mB at hP
     rw[aj hP.2.1];exact hr
    ·rw[aj hP];unfold lQ mB at hP
     have R1:=λh=>hP ⟨hK,h,λh=>absurd h h0⟩
     split
     ·rfl
     ·exact absurd (by assumption) R1
  ·rw[aj hK,aj (λh=>hK (by unfold lQ mB at h;exact h.1))]
 ·unfold BU.l2 BU.fy
  rw[aP ω,av]
theorem Gt(N:Nat){l:au}(hl:l.length≤100000)(hN:200000≤N):Cj N l=some (eP l):=by
 unfold Cj Cj.b
 refine gV (F:=λn i=>Cj.l2 N n l i) (lQ l) (λn i r hi hp hr=> ?_) (λn=> ?_) N ω
 ·unfold Cj.l2 Cj.fy
  rw[aQ ω,ak,aS ω ω,ak,aG,aw (x:=(i:Int)+1) ω ω,af,acv,ar,cond_not,ed]
  by_cases hK:cV (l.getD i a6).1 (l.getD i a6).2.1
  ·rw[ah hK]
   by_cases h0:0<i
   ·have e:W .i64 ((i:Int)-1)=((i-1:Nat):Int):=by rw[aw ω ω];omega
    dsimp only
    rw[aQ (x:=0) ω,e,aG,aS (i:=((i-1:Nat):Int)) ω ω]
    simp only[bN,cn,aI,ak]
    by_cases hP:lQ l i
    ·rw[ah hP];unfold lQ mB lh at hP
     have R1:=hP.2
     repeat' split
     all_goals first|rfl|exact hr|omega
    ·rw[aj hP];unfold lQ mB lh at hP
     have R1:=λh=>hP ⟨hK,h⟩
     repeat' split
     all_goals first|rfl|exact hr|omega|(exfalso;exact R1 ω)
   ·rw[aP (x:=0) ω]
    simp only[bN,cn,aI,ak,av]
    by_cases hP:lQ l i
    ·rw[ah hP];unfold lQ mB at hP
     rw[aj hP.2.1];exact hr
    ·rw[aj hP];unfold lQ mB at hP
     have R1:=λh=>hP ⟨hK,h,λh=>absurd h h0⟩
     split
     ·rfl
     ·exact absurd (by assumption) R1
  ·rw[aj hK,aj (λh=>hK (by unfold lQ mB at h;exact h.1))];rfl
 ·unfold Cj.l2 Cj.fy
  rw[aP ω,av]
end VM
end
section
namespace VM
open Go VM.F
def bV(a b:Int):Prop:=0≤a∧a≤24∧0≤b∧b<6
instance(a b:Int):Decidable (bV a b):=by unfold bV;infer_instance
theorem TZ(N:Nat)(a b:Int):YE N a b=some (decide (bV a b)):=by
 unfold YE
 simp only[cn]
 simp only[p7]
 by_cases hP:bV a b
 ·rw[a8 hP];unfold bV at hP
  repeat' split
  all_goals first|rfl|omega|(rw[a8 ω])
 ·rw[bC hP];unfold bV at hP
  repeat' split
  all_goals first|rfl|omega|(rw[bC ω])
def qE(q:Int):Prop:=q≠ -9223372036854775808
instance(q:Int):Decidable (qE q):=by unfold qE;infer_instance
theorem tz(N:Nat)(q:Int):R2 N q=some (decide (qE q)):=by
 unfold R2 qE
 rw[jB]
 by_cases h:q= -9223372036854775808<;>simp[h]
def mC(a b c:Int)(i:Nat)(d e:Int):Prop:=bV a b∧c≠0∧qE c∧(0<i→lh d e a b)
instance(a b c:Int)(i:Nat)(d e:Int):Decidable (mC a b c i d e):=by unfold mC;infer_instance
def lR(l:au)(i:Nat):Prop:=mC (l.getD i a6).1 (l.getD i a6).2.1 (l.getD i a6).2.2.1 i (l.getD (i-1) a6).1 (l.getD (i-1) a6).2.1
instance(l:au):DecidablePred (lR l):=λi=>by unfold lR;infer_instance
def dt(l:au):Bool:=decide (∀j,j<l.length→lR l j)&&true
theorem A9(N:Nat){l:au}(hl:l.length≤100000)(hN:200000≤N):og N l=some (dt l):=by
 unfold og og.b
 refine gV (F:=λn i=>og.l2 N n l l (l.length:Int) i) (lR l) (λn i r hi hp hr=> ?_) (λn=> ?_) N ω
 ·unfold og.l2 og.fy
  rw[aQ ω,ak,aS ω ω,ak,aG,aw (x:=(i:Int)+1) ω ω,af,TZ,ar,cond_not,ed,tz,ar,cond_not,ed]
  by_cases hK:bV (l.getD i a6).1 (l.getD i a6).2.1
  ·rw[ah hK]
   by_cases h0:0<i
   ·have hq:=hp (i-1) ω
    have e:W .i64 ((i:Int)-1)=((i-1:Nat):Int):=by rw[aw ω ω];omega
    dsimp only
    rw[aQ (x:=0) ω,ak,e,aG,aS ω ω,ak]
    unfold lR mC at hq
    have hq:=hq.1
    rw[Jw N (by unfold bV at hK;unfold IF;omega) (by unfold bV at hK;unfold IF;omega) (by unfold bV at hq;unfold IF;omega) (by unfold bV at hq;unfold IF;omega),ar,aI,cn]
    by_cases hP:lR l i
    ·rw[ah hP];unfold lR mC lh at hP;unfold Ci
     obtain⟨_,hP1,R1,hP3⟩:=hP
     rw[ah R1]
     repeat' split
     all_goals first|rfl|exact hr|omega
    ·rw[aj hP];unfold lR mC lh at hP;unfold Ci
     have R1:=λh1 h2 h3=>hP ⟨hK,h1,h2,h3⟩
     repeat' split
     all_goals first|rfl|exact hr|(exfalso;exact R1 (by assumption) (by assumption) ω)|omega
   ·rw[aP (x:=0) ω,av,aI]
    by_cases hP:lR l i
    ·rw[ah hP];unfold lR mC at hP
     rw[aj hP.2.1,ah hP.2.2.1];exact hr
    ·rw[aj hP];unfold lR mC at hP
     have R1:=λh1 h2=>hP ⟨hK,h1,h2,λh=>absurd h h0⟩
     split
     ·rfl
     ·split
      ·exact(R1 (by assumption) (by assumption)).elim
      ·rfl
  ·rw[aj hK,aj (λh=>hK (by unfold lR mC at h;exact h.1))]
 ·unfold og.l2 og.fy
  rw[aP ω,av]
theorem mQ(N:Nat){l:au}(hl:l.length≤100000)(hN:200000≤N):zU N l=some (dt l):=by
 unfold zU zU.b
 refine gV (F:=λn i=>zU.l2 N n l i) (lR l) (λn i r hi hp hr=> ?_) (λn=> ?_) N ω
 ·unfold zU.l2 zU.fy
  rw[aQ ω,ak,aS ω ω,ak,aG,aw (x:=(i:Int)+1) ω ω,af]
  by_cases h0:0<i
  ·have e:W .i64 ((i:Int)-1)=((i-1:Nat):Int):=by rw[aw ω ω];omega
   dsimp only
   rw[aQ (x:=0) (y:=(i:Int)) ω,e,aG,aS (i:=((i-1:Nat):Int)) ω ω]
   simp only[bN,cn,aI,ak]
   by_cases hP:lR l i
   ·rw[ah hP];unfold lR mC lh qE bV at hP
    repeat' split
    all_goals first|rfl|exact hr|omega
   ·rw[aj hP];unfold lR mC lh qE bV at hP
    repeat' split
    all_goals first|rfl|exact hr|omega|(exfalso;exact hP ω)
  ·rw[aP (x:=0) (y:=(i:Int)) ω]
   simp only[bN,cn,aI,ak,av]
   by_cases hP:lR l i
   ·rw[ah hP];unfold lR mC lh qE bV at hP
    repeat' split
    all_goals first|rfl|exact hr|omega
   ·rw[aj hP];unfold lR mC lh qE bV at hP
    repeat' split
    all_goals first|rfl|exact hr|omega|(exfalso;exact hP ω)
 ·unfold zU.l2 zU.fy
  rw[aP ω,av]
theorem fY(a b:Int)(y:Bool):cond (cZ a b) (some y) (some false)=some (decide (a≤b)&&y):=by
 rw[cn];by_cases h:a≤b<;>simp[h]
theorem Gu(a b:Int)(y:Bool):cond (aT a b) (some y) (some false)=some (decide (a<b)&&y):=by
 rw[bN];by_cases h:a<b<;>simp[h]
theorem Gv(a b:Int)(y:Bool):cond (aN a b) (some y) (some false)=some (decide (a=b)&&y):=by
 rw[aI];by_cases h:a=b<;>simp[h]
theorem Ck(a b:Int)(y z:Bool):cond (aN a b) (some y) (some z)=some ((decide (a=b)&&y)||(!decide (a=b)&&z)):=by
 rw[aI];by_cases h:a=b<;>simp[h]
def tZ(a b c d e f:Int):Prop:=(1≤a∧a≤1099511627776)∧(1≤b∧b≤24)∧(0≤c∧c<6)∧(d=1∨d=2)∧(1≤e∧e≤1000000000)∧(1≤f∧f≤1000000000000)
instance(a b c d e f:Int):Decidable (tZ a b c d e f):=by unfold tZ;infer_instance
def jb(o:c7):Prop:=tZ o.1 o.2.1 o.2.2.1 o.2.2.2.1 o.2.2.2.2.1 o.2.2.2.2.2.1
instance(o:c7):Decidable (jb o):=by unfold jb;infer_instance
theorem R3(N:Nat)(o:c7):VH N o=some (decide (jb o)):=by
 unfold VH
 rw[ny o.2.2.2.2.2.1]
 rw[fY,fY,fY,Gv,Ck,Gu,fY,fY,fY,fY,fY]
 congr 1
 rw[ns,fb]
 unfold jb tZ
 simp only[bB,nu,rD,ux,Fe]
 omega
end VM
end
section
namespace VM
open Go VM.F
theorem Cl(N:Nat)(p:Int):F85 N p=some (decide (1≤p∧p≤1000000000000)):=by
 unfold F85
 rw[ny p,fY];congr 1
 rw[ns];simp only[bB,ux]
theorem iL(N:Nat)(p:Int):Ek N p=some (decide (1≤p∧p≤1000000000000)):=Cl N p
theorem Ba(N:Nat)(o:c7):R4 N o=some (decide (jb o)):=by
 unfold R4
 rw[iL,ar]
 repeat (first|rw[fY]|rw[Gu]|rw[Gv]|rw[Ck])
 congr 1
 rw[ns,fb]
 unfold jb tZ
 simp only[bB,nu,rD,ux,Fe]
 omega
def u2(i:Nat)(a b:Int):Prop:=0<i→a<b
instance(i:Nat)(a b:Int):Decidable (u2 i a b):=by unfold u2;infer_instance
def tA(l:bm)(i:Nat):Prop:=jb (l.getD i eT)∧u2 i (l.getD (i-1) eT).1 (l.getD i eT).1
instance(l:bm):DecidablePred (tA l):=λi=>by unfold tA;infer_instance
def dv(l:bm):Bool:=decide (∀j,j<l.length→tA l j)&&decide (l.length≤32)
theorem Jx(N:Nat){l:bm}(hl:l.length≤100000)(hN:200000≤N):Dx N l=some (dv l):=by
 unfold Dx Dx.b
 refine gV (F:=λn i=>Dx.l2 N n l l (l.length:Int) i) (tA l) (λn i r hi hp hr=> ?_) (λn=> ?_) N ω
 ·unfold Dx.l2 Dx.fy
  rw[aQ ω,ak,aS ω ω,ak,aG,aw (x:=(i:Int)+1) ω ω,af,R3,ar,cond_not,ed]
  by_cases hK:jb (l.getD i eT)
  ·rw[ah hK]
   by_cases h0:0<i
   ·have e:W .i64 ((i:Int)-1)=((i-1:Nat):Int):=by rw[aw ω ω];omega
    dsimp only
    rw[aQ (x:=0) ω,ak,e,aG,aS ω ω,ak,cn]
    by_cases hP:tA l i
    ·rw[ah hP,aj (by have h2:=hP.2;unfold u2 at h2;omega)];exact hr
    ·rw[aj hP,ah]
     have h2: ¬u2 i (l.getD (i-1) eT).1 (l.getD i eT).1:=λh=>hP ⟨hK,h⟩
     unfold u2 at h2
     omega
   ·rw[aP (x:=0) ω,av,ah ⟨hK,λh=>absurd h h0⟩];exact hr
  ·rw[aj hK,aj (λh=>hK h.1)]
 ·unfold Dx.l2 Dx.fy
  rw[aP ω,av,ny]
  congr 1;rw[np];omega
theorem ij(N:Nat){l:bm}(hl:l.length≤100000)(hN:200000≤N):m0 N l=some (dv l):=by
 unfold m0 m0.b
 by_cases h32:32<l.length
 ·rw[aQ ω,ak];unfold dv
  rw[bC (p:=l.length≤32) ω,FD]
 rw[aP ω,av]
 have:=gV (F:=λn i=>m0.l4 N n l i) (e:=true) (tA l) (λn i r hi hp hr=> ?_) (λn=> ?_) N (show l.length<N by omega)
 ·refine Eq.trans this ?_
  unfold dv
  rw[a8 (p:=l.length≤32) ω]
 ·unfold m0.l4 m0.eN
  rw[aQ ω,ak,aS ω ω,ak,aG,aw (x:=(i:Int)+1) ω ω,af,Ba,ar,cond_not,ed]
  by_cases hK:jb (l.getD i eT)
  ·rw[ah hK]
   by_cases h0:0<i
   ·have e:W .i64 ((i:Int)-1)=((i-1:Nat):Int):=by rw[aw ω ω];omega
    dsimp only
    rw[aQ (x:=0) ω,ak,ak,e,aG,aS ω ω,ak,cn]
    by_cases hP:tA l i
    ·rw[ah hP,aj (by have h2:=hP.2;unfold u2 at h2;omega)];exact hr
    ·rw[aj hP,ah]
     have h2: ¬u2 i (l.getD (i-1) eT).1 (l.getD i eT).1:=λh=>hP ⟨hK,h⟩
     unfold u2 at h2
     omega
   ·rw[aP (x:=0) ω,av,ah ⟨hK,λh=>absurd h h0⟩];exact hr
  ·rw[aj hK,aj (λh=>hK h.1)]
 ·unfold m0.l4 m0.eN
  rw[aP ω,av]
end VM
end
section
namespace VM
open Go VM.F
def jO(id:Int):aD→Int
 |[]=>0
 |x::t=>if x.1=id then x.2.1 else jO id t
def si(id:Int):aO→bT×Bool
 |[]=>(aW,false)
 |x::t=>if x.1=id then(x,true)else si id t
def nN(id:Int):aO→Int
 |[]=>0
 |x::t=>if x.2.1=id then(if x.2.2.1=1 then x.1 else nN id t)else nN id t
theorem vN(id:Int)(x:Cm)(t:aD):jO id (x::t)=if x.1=id then x.2.1 else jO id t:=rfl
theorem mD(id:Int)(x:bT)(t:aO):si id (x::t)=if x.1=id then(x,true)else si id t:=rfl
theorem tB(id:Int)(x:bT)(t:aO):nN id (x::t)=if x.2.1=id then(if x.2.2.1=1 then x.1 else nN id t)else nN id t:=rfl
theorem Ov(N:Nat){m:aD}(hl:m.length≤100000)(hN:200000≤N)(id:Int):Bb.l4 N N id m (m.length:Int) 0=some (jO id m):=by
 refine A8 m cv (λn i=>Bb.l4 N n id m (m.length:Int) i) (λl=>some (jO id l)) (λn i hi hr=> ?_) (λn=> ?_) N ω
 ·unfold Bb.l4 Bb.eN
  rw[aQ ω,ak,aS ω ω,ak,aG,aw (x:=(i:Int)+1) ω ω,af,hr,aI]
  rw[vN]
  split<;>rfl
 ·unfold Bb.l4 Bb.eN
  rw[aP ω,av];rfl
theorem ik(N:Nat){m:aD}(hl:m.length≤100000)(hN:200000≤N)(id:Int):m4 N m id=some (jO id m):=by
 unfold m4 m4.b
 refine A8 m cv (λn i=>m4.l2 N n m id i) (λl=>some (jO id l)) (λn i hi hr=> ?_) (λn=> ?_) N ω
 ·unfold m4.l2 m4.fy
  rw[aQ ω,ak,aS ω ω,ak,ak,aG,aw (x:=(i:Int)+1) ω ω,af,hr,aI]
  rw[vN]
  split<;>rfl
 ·unfold m4.l2 m4.fy
  rw[aP ω,av];rfl
def gW(m:aD)(id:Int):Int:=if dB m then jO id m else 0
theorem Cn(N:Nat){m:aD}(hl:m.length≤100000)(hN:200000≤N)(id:Int):Bb N m id=some (gW m id):=by
 unfold Bb Bb.b gW
 rw[Gr N hl hN,ar,cond_not,Ov N hl hN]
 cases dB m<;>rfl
theorem sj(N:Nat){m:aD}(hl:m.length≤100000)(hN:200000≤N)(id:Int):Bc N m id=some (gW m id):=by
 unfold Bc gW
 rw[mP N hl hN,ar,cond_not,ik N hl hN]
 cases dB m<;>rfl
theorem VI(N:Nat){m:aO}(hl:m.length≤100000)(hN:200000≤N)(id:Int):oG.l4 N N id aW m (m.length:Int) 0=some (si id m):=by
 refine A8 m aW (λn i=>oG.l4 N n id aW m (m.length:Int) i) (λl=>some (si id l)) (λn i hi hr=> ?_) (λn=> ?_) N ω
 ·unfold oG.l4 oG.eN
  rw[aQ ω,ak,aS ω ω,ak,aG,aw (x:=(i:Int)+1) ω ω,af,hr,aI]
  rw[mD]
  split<;>rfl
 ·unfold oG.l4 oG.eN
  rw[aP ω,av];rfl
theorem sl(N:Nat){m:aO}(hl:m.length≤100000)(hN:200000≤N)(id:Int):oh N m id=some (si id m):=by
 unfold oh oh.b
 refine A8 m aW (λn i=>oh.l2 N n m id aW i) (λl=>some (si id l)) (λn i hi hr=> ?_) (λn=> ?_) N ω
 ·unfold oh.l2 oh.fy
  rw[aQ ω,ak,aS ω ω,ak,ak,aG,aw (x:=(i:Int)+1) ω ω,af,hr,aI]
  rw[mD]
  split<;>rfl
 ·unfold oh.l2 oh.fy
  rw[aP ω,av];rfl
theorem Ow(N:Nat){m:aO}(hl:m.length≤100000)(hN:200000≤N)(id:Int):zz.l4 N N m id 0=some (nN id m):=by
 refine A8 m aW (λn i=>zz.l4 N n m id i) (λl=>some (nN id l)) (λn i hi hr=> ?_) (λn=> ?_) N ω
 ·unfold zz.l4 zz.eN
  rw[aQ ω,ak,aS ω ω]
  simp only[ak]
  rw[aG,aw (x:=(i:Int)+1) ω ω,af,hr,aI,aI]
  rw[tB]
  split
  ·split<;>rfl
  ·rfl
 ·unfold zz.l4 zz.eN
  rw[aP ω,av];rfl
end VM
end
section
namespace VM
open Go VM.F
def dz(a b:Int):Prop:=a=b
instance(a b:Int):Decidable (dz a b):=by unfold dz;infer_instance
def y7(l:aO)(k:Nat)(m:Int):Prop:=dz (l.getD k aW).2.2.1 1∧dz (l.getD k aW).2.1 m
instance(l:aO)(k:Nat)(m:Int):Decidable (y7 l k m):=by unfold y7;infer_instance
def mq(l:aO)(i:Nat)(m:Int):Bool:=(List.range i).any λk=>decide (y7 l k m)
theorem xH{l:aO}{i:Nat}{m:Int}:mq l i m=true↔ ∃k,k<i∧y7 l k m:=by
 unfold mq
 rw[Aj]
 simp only[rH,fb]
theorem vO(l:aO)(i:Nat)(m:Int):mq l (i+1) m=(mq l i m||decide (y7 l i m)):=by
 unfold mq
 rw[FA,List.any_append];simp
def lq(a b c d:Int):Prop:=(1≤a∧a≤24)∧(1≤b∧b≤12)∧(c=1∨c=2)∧(0≤d∧d≤1000000000000)
instance(a b c d:Int):Decidable (lq a b c d):=by unfold lq;infer_instance
def kq(l:aO)(i:Nat):Prop:= ¬(dz (l.getD i aW).2.2.1 1∧mq l i (l.getD i aW).2.1=true)
instance(l:aO)(i:Nat):Decidable (kq l i):=by unfold kq;infer_instance
def Bd(l:aO)(i:Nat):Prop:=lq (l.getD i aW).1 (l.getD i aW).2.1 (l.getD i aW).2.2.1 (l.getD i aW).2.2.2.1∧u2 i (l.getD (i-1) aW).1 (l.getD i aW).1∧kq l i
instance(l:aO):DecidablePred (Bd l):=λi=>by unfold Bd;infer_instance
def gh(l:aO):Bool:=decide (∀j,j<l.length→Bd l j)&&true
def fA(l:aO)(i:Nat):List Bool:=(List.range 13).map λ(m:Nat)=>mq l i (m:Int)
theorem VJ{l:aO}{i:Nat}{b:Int}(h0:0≤b)(h1:b<13):(fA l i).getD b.toNat false=mq l i b:=by
 unfold fA
 rw[aU,nj,List.getElem?_range ω]
 show mq l i ((b.toNat:Nat):Int)=_
 rw[mc h0]
theorem Ox{l:aO}{i:Nat}(h: ¬dz (l.getD i aW).2.2.1 1):fA l (i+1)=fA l i:=by
 unfold fA
 refine rC λm _=> ?_
 rw[vO,bC (λh'=>h h'.1),rI]
theorem R5{l:aO}{i:Nat}(h:dz (l.getD i aW).2.2.1 1)(h0:(0:Int)≤(l.getD i aW).2.1):(fA l i).set ((l.getD i aW).2.1:Int).toNat true=fA l (i+1):=by
 refine List.ext_getElem (by unfold fA;simp) λk h1 h2=> ?_
 unfold fA at*
 rw[List.getElem_set]
 simp only[List.getElem_map,Fm]
 rw[vO]
 by_cases hk:((l.getD i aW).2.1:Int).toNat=k
 ·rw[ah hk,a8 (show y7 l i (k:Int)from⟨h,by unfold dz;omega⟩),Bool.or_true]
 ·rw[aj hk,bC (λh':y7 l i (k:Int)=>hk (by have:=h'.2;unfold dz at this;omega)),rI]
theorem T0(N:Nat){l:aO}(hl:l.length≤100000)(hN:200000≤N):m5 N l=some (gh l):=by
 unfold m5 m5.b
 have h0:(List.replicate 13 false:List Bool)=fA l 0:=by unfold fA mq;rfl
 rw[h0]
 have:=gV (F:=λn i=>m5.l3 N n l (fA l i.toNat) l (l.length:Int) i) (e:=true) (Bd l) (λn i r hi hp hr=> ?_) (λn=> ?_) N (show l.length<N by omega)
 ·exact this
 ·simp only[aG]at hr ⊢
  unfold m5.l3 m5.ob
  rw[aQ ω,ak,aS ω ω,ak]
  simp only[aG]
  rw[aw (x:=(i:Int)+1) ω ω,af]
  by_cases hF:lq (l.getD i aW).1 (l.getD i aW).2.1 (l.getD i aW).2.2.1 (l.getD i aW).2.2.2.1
  ·have T1:=hF
   unfold lq at T1
   have hT:cond (aN (l.getD i aW).2.2.1 1) (cond (aY (l.getD i aW).2.1 13) (cond (List.getD (fA l i) (l.getD i aW).2.1.toNat false) (some false) (cond (aY (l.getD i aW).2.1 13) (m5.l3 N n l (List.set (fA l i) (l.getD i aW).2.1.toNat true) l (l.length:Int) ((i+1:Nat):Int)) none)) none) (m5.l3 N n l (fA l i) l (l.length:Int) ((i+1:Nat):Int))=if kq l i then r else some false:=by
    rw[aI]
    by_cases hk:dz (l.getD i aW).2.2.1 1
    ·have FV:=hk
     unfold dz at FV
     rw[ah FV,aS ω ω,ak,ak,VJ ω ω,R5 hk ω,hr]
     by_cases ho:mq l i (l.getD i aW).2.1=true
     ·have uN: ¬kq l i:=λh=>h ⟨hk,ho⟩
      rw[aj uN,ho];rfl
     ·have uN:kq l i:=λh=>ho h.2
      rw[ah uN,w1.2 ho];rfl
    ·have FV:=hk
     unfold dz at FV
     rw[aj FV,ah (show kq l i from λh=>hk h.1),←Ox hk,hr]
   have hP:Bd l i↔u2 i (l.getD (i-1) aW).1 (l.getD i aW).1∧kq l i:=⟨λh=>h.2,λh=>⟨hF,h⟩⟩
   have hD:(if Bd l i then r else some false)=if u2 i (l.getD (i-1) aW).1 (l.getD i aW).1 then(if kq l i then r else some false)else some false:=by
    by_cases h1:u2 i (l.getD (i-1) aW).1 (l.getD i aW).1<;>by_cases h2:kq l i<;>simp[hP,h1,h2]
   rw[hD]
   rw[hT]
   rw[aP ω,av,aP ω,av,aP ω,av,aP ω,av,aP (x:=(l.getD i aW).2.2.2.1) ω,aP (x:=1000000000000) ω]
   simp only[av]
   have hm: ∀{α:Type} (x:α) (y:α),cond (!aN (l.getD i aW).2.2.1 1) (cond (!aN (l.getD i aW).2.2.1 2) y x) x=x:=by
    intro α x y
    rcases T1.2.2.1 with h|h
    ·rw[dF h];rfl
    ·rw[dF (y:=2) h];cases aN (l.getD i aW).2.2.1 1<;>rfl
   rw[hm]
   by_cases h0:0<i
   ·have e:W .i64 ((i:Int)-1)=((i-1:Nat):Int):=by rw[aw ω ω];omega
    rw[aQ (x:=0) ω,ak,e,aG,aS ω ω,ak,cn]
    by_cases h1:u2 i (l.getD (i-1) aW).1 (l.getD i aW).1
    ·rw[ah h1,aj (by unfold u2 at h1;omega)]
    ·rw[aj h1,ah (by unfold u2 at h1;omega)]
   ·rw[aP (x:=0) ω,av,ah (show u2 i (l.getD (i-1) aW).1 (l.getD i aW).1 from λh=>absurd h h0)]
  ·rw[aj (λh=>hF h.1)]
   unfold lq at hF
   generalize cond (aN (l.getD i aW).2.2.1 1) (cond (aY (l.getD i aW).2.1 13) (cond (List.getD (fA l i) (l.getD i aW).2.1.toNat false) (some false) (cond (aY (l.getD i aW).2.1 13) (m5.l3 N n l (List.set (fA l i) (l.getD i aW).2.1.toNat true) l (l.length:Int) ((i+1:Nat):Int)) none)) none) (m5.l3 N n l (fA l i) l (l.length:Int) ((i+1:Nat):Int))=t
   generalize cond (aT 0 (i:Int)) _ _=u
   simp only[cond_not,bN,aI]
   repeat' split
   all_goals first|rfl|omega
 ·unfold m5.l3 m5.ob
  rw[aP ω,av]
end VM
end
section
namespace VM
open Go VM.F
theorem Co(N:Nat)(K:aO→Int→Option Bool){l:aO}(hl:l.length≤100000){i:Nat}(hi:i<l.length): ∀(m n k:Nat),i-k≤m→m<n→k≤i→(dz (l.getD i aW).2.2.1 1→mq l k (l.getD i aW).2.1=false)→
  mu.l8 N K n l (i:Int) (l.getD i aW) (k:Int)=if kq l i then K l ((i+1:Nat):Int)else some false
 |m,0,k,_,hn,_,_=>ω
 |m,n+1,k,hm,hn,hk,h=>by
  unfold mu.l8 mu.Dy
  by_cases F3:k<i
  ·rw[aQ ω,ak,aS ω ω,ak,ak,aG,aw (x:=(k:Int)+1) ω ω,af,aI,aI,aI]
   by_cases h1:dz (l.getD i aW).2.2.1 1
   ·have qM:=h1
    unfold dz at qM
    rw[ah qM]
    by_cases h2:y7 l k (l.getD i aW).2.1
    ·have y6:=h2
     unfold y7 dz at y6
     have uN: ¬kq l i:=λh3=>h3 ⟨h1,xH.2 ⟨k,F3,h2⟩⟩
     rw[ah y6.1,ah y6.2,aj uN]
    ·have Ei:=Co N K hl hi (m-1) n (k+1) ω ω ω (λ_=>by rw[vO,h h1,bC h2];rfl)
     split
     ·split
      ·rename_i h3 h4
       exact absurd (show y7 l k (l.getD i aW).2.1 from⟨h3,h4⟩) h2
      ·exact Ei
     ·exact Ei
   ·have qM:=h1
    unfold dz at qM
    rw[aj qM]
    exact Co N K hl hi (m-1) n (k+1) ω ω ω (λh=>absurd h h1)
  ·have:k=i:=ω
   subst this
   have uN:kq l k:=λh3=>by rw[h h3.1]at h3;exact nomatch h3.2
   rw[aP ω,av,ah uN,aw (x:=(k:Int)+1) ω ω];rfl
set_option maxHeartbeats 2000000 in
theorem u5(N:Nat){l:aO}(hl:l.length≤100000)(hN:200000≤N):mu N l=some (gh l):=by
 unfold mu mu.b
 refine gV (F:=λn i=>mu.l2 N n l i) (Bd l) (λn i r hi hp hr=> ?_) (λn=> ?_) N ω
 ·unfold mu.l2 mu.fy
  have hT:mu.j7 N (mu.l2 N n) l (i:Int) (l.getD i aW)=if kq l i then r else some false:=by
   unfold mu.j7 mu.Rr
   have:=Co N (mu.l2 N n) hl hi i N 0 ω ω ω (λ_=>rfl)
   rw[hr]at this
   exact this
  rw[aQ ω,ak,aS ω ω,ak]
  simp only[aG]
  rw[hT]
  have hD:(if Bd l i then r else some false)=if lq (l.getD i aW).1 (l.getD i aW).2.1 (l.getD i aW).2.2.1 (l.getD i aW).2.2.2.1∧u2 i (l.getD (i-1) aW).1 (l.getD i aW).1 then(if kq l i then r else some false)else some false:=by
   unfold Bd
   by_cases h1:u2 i (l.getD (i-1) aW).1 (l.getD i aW).1<;>by_cases h2:kq l i<;>by_cases h3:lq (l.getD i aW).1 (l.getD i aW).2.1 (l.getD i aW).2.2.1 (l.getD i aW).2.2.2.1<;>simp[h1,h2,h3]
  rw[hD]
  generalize (if kq l i then r else some false)=t
  by_cases h0:0<i
  ·have e:W .i64 ((i:Int)-1)=((i-1:Nat):Int):=by rw[aw ω ω];omega
   rw[aQ (x:=0) (y:=(i:Int)) ω,e]
   simp only[ak,aG]
   rw[aS (i:=((i-1:Nat):Int)) ω ω]
   simp only[cond_not,bN,cn,aI,ak]
   by_cases hP:lq (l.getD i aW).1 (l.getD i aW).2.1 (l.getD i aW).2.2.1 (l.getD i aW).2.2.2.1∧u2 i (l.getD (i-1) aW).1 (l.getD i aW).1
   ·rw[ah hP];unfold lq u2 at hP
    repeat' split
    all_goals first|rfl|omega
   ·rw[aj hP];unfold lq u2 at hP
    repeat' split
    all_goals first|rfl|omega
  ·rw[aP (x:=0) (y:=(i:Int)) ω]
   simp only[cond_not,bN,cn,aI,ak,av]
   by_cases hP:lq (l.getD i aW).1 (l.getD i aW).2.1 (l.getD i aW).2.2.1 (l.getD i aW).2.2.2.1∧u2 i (l.getD (i-1) aW).1 (l.getD i aW).1
   ·rw[ah hP];unfold lq u2 at hP
    repeat' split
    all_goals first|rfl|omega
   ·rw[aj hP];unfold lq u2 at hP
    repeat' split
    all_goals first|rfl|omega
 ·unfold mu.l2 mu.fy
  rw[aP ω,av]
end VM
end
section
namespace VM
open Go VM.F
def et(a:aO)(id:Int):bT×Bool:=if gh a then si id a else(aW,false)
theorem T2(N:Nat){a:aO}(hl:a.length≤100000)(hN:200000≤N)(id:Int):oG N a id=some (et a id):=by
 unfold oG oG.b et
 rw[T0 N hl hN,ar,cond_not,VI N hl hN]
 cases gh a<;>rfl
theorem Be(N:Nat){a:aO}(hl:a.length≤100000)(hN:200000≤N)(id:Int):El N a id=some (et a id):=by
 unfold El et
 rw[u5 N hl hN,ar,cond_not,sl N hl hN]
 cases gh a<;>rfl
def nO(a:aO)(id:Int):Int:=if gh a then nN id a else 0
theorem rn(N:Nat){a:aO}(hl:a.length≤100000)(hN:200000≤N)(id:Int):zz N a id=some (nO a id):=by
 unfold zz zz.b nO
 rw[u5 N hl hN,ar,cond_not,Ow N hl hN]
 cases gh a<;>rfl
def kU(m:aD)(a:aO)(i:Nat):Prop:= ¬dz (jO (a.getD i aW).2.1 m) 0
instance(m:aD)(a:aO):DecidablePred (kU m a):=λi=>by unfold kU;infer_instance
def sm(m:aD)(a:aO):Bool:=dB m&&(gh a&&(decide (∀j,j<a.length→kU m a j)&&true))
theorem acx(N:Nat){m:aD}{a:aO}(hm:m.length≤100000)(hl:a.length≤100000)(hN:200000≤N):Em N m a=some (sm m a):=by
 unfold Em Em.b sm
 rw[Gr N hm hN,ar,cond_not,T0 N hl hN,ar,cond_not]
 cases hM:dB m
 ·rfl
 cases gh a
 ·rfl
 rw[lF,lF,ak,ak]
 refine gV (F:=λn i=>Em.l4 N n m a (a.length:Int) i) (kU m a) (λn i r hi hp hr=> ?_) (λn=> ?_) N ω
 ·unfold Em.l4 Em.eN
  rw[aQ ω,ak,aS ω ω,ak,aG,aw (x:=(i:Int)+1) ω ω,af,Cn N hm hN,ar,aI]
  unfold gW
  rw[hM,ah rfl]
  by_cases hP:kU m a i
  ·rw[ah hP,aj (show ¬((jO (a.getD i aW).2.1 m:Int)=0)from λh=>hP h)];exact hr
  ·rw[aj hP,ah (show(jO (a.getD i aW).2.1 m:Int)=0 by unfold kU at hP;exact Fv.1 hP)]
 ·unfold Em.l4 Em.eN
  rw[aP ω,av]
theorem xI(N:Nat){m:aD}{a:aO}(hm:m.length≤100000)(hl:a.length≤100000)(hN:200000≤N):oH N m a=some (sm m a):=by
 unfold oH oH.b sm
 rw[mP N hm hN,ar,cond_not,u5 N hl hN,ar,cond_not]
 cases hM:dB m
 ·rfl
 cases gh a
 ·rfl
 rw[lF,lF,ak,ak]
 refine gV (F:=λn i=>oH.l4 N n m a i) (kU m a) (λn i r hi hp hr=> ?_) (λn=> ?_) N ω
 ·unfold oH.l4 oH.eN
  rw[aQ ω,ak,aS ω ω,ak,aG,aw (x:=(i:Int)+1) ω ω,af,ik N hm hN,ar,aI]
  by_cases hP:kU m a i
  ·rw[ah hP,aj (show ¬((jO (a.getD i aW).2.1 m:Int)=0)from λh=>hP h)];exact hr
  ·rw[aj hP,ah (show(jO (a.getD i aW).2.1 m:Int)=0 by unfold kU at hP;exact Fv.1 hP)]
 ·unfold oH.l4 oH.eN
  rw[aP ω,av]
end VM
end
section
namespace VM
open Go VM.F
theorem YF(a b:br):p8 (.pair (.int .i64) (.pair (.int .u64) .unit)) a b=(aN a.1 b.1&&(aN a.2.1 b.2.1&&true)):=rfl
theorem Bf(N:Nat){u v:Int}:IG N (bS u) (bS v)=some (p5 (u-v)):=by
 unfold IG
 rw[YF]
 unfold bS
 dsimp only
 unfold p5
 rw[bN,aI,bN,fv,jB,jB]
 have hu:u=u/18446744073709551616*18446744073709551616+u%18446744073709551616:=ω
 have hv:v=v/18446744073709551616*18446744073709551616+v%18446744073709551616:=ω
 by_cases h1:u/18446744073709551616<v/18446744073709551616
 ·rw[ah h1];congr 1;split<;>(try split)<;>omega
 ·rw[aj h1]
  by_cases h2:u/18446744073709551616=v/18446744073709551616
  ·rw[ah h2,a8 h2,lF]
   by_cases h3:u%18446744073709551616<v%18446744073709551616
   ·rw[ah h3];congr 1;split<;>(try split)<;>omega
   ·rw[aj h3]
    by_cases h4:u%18446744073709551616=v%18446744073709551616
    ·rw[a8 h4,ak];congr 1;split<;>(try split)<;>omega
    ·rw[bC h4,av];congr 1;split<;>(try split)<;>omega
  ·rw[aj h2,bC h2,uA,av];congr 1;split<;>(try split)<;>omega
theorem R6:bS 0=cv:=rfl
theorem so(N:Nat){u:Int}:Xo N (bS u)=some (p5 u):=by
 unfold Xo
 rw[←R6,Bf,ar,FF]
end VM
end
