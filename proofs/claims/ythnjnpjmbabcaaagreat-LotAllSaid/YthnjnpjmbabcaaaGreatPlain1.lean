/- A part of the proof of LotAll of layer 23: what the functions compute, in plain words. -/
import Derived.Test.YthnjnpjmbabcaaaGreatPlain0
import Derived.Test.YthnjnpjmbabcaaaGreatText
set_option linter.all false
open List renaming getD→γ
section
namespace VM
open Go VM.F
variable(N:Nat)
theorem LK{x:Int}(h0:0≤x)(h1:x<18446744073709551616):hZ .and .u64 x 1=x%2:=by
 rw[Cv h0 h1 ω ω]
 have:=Bn x.toNat 1
 rw[show((1:Int).toNat)=2^1-1 from rfl,this]
 omega
theorem y8{l:List Int}{k:Nat}(x:Int)(h:k<l.length):bC ((l.set k x).drop k)=x+4294967296*bC (l.drop (k+1)):=by
 rw[fY,jJ l x h,List.drop_set_of_lt ω]
theorem zH(N:Nat){d:List Int}(hd:VD d)(hl:d.length≤100000)(hN:4000000≤N): ∀(k n:Nat) (out:List Int) (c:Int),k≤d.length→k<n→VD out→out.length=d.length→c=bC (d.drop k)%2→bC (out.drop k)=bC (d.drop k)/2→
  jZ.l4 N n d out c ((k:Int)-1)=some (gA (bC d/2).toNat,bC d%2)
 |k,0,out,c,_,hn,_,_,_,_=>ω
 |0,n+1,out,c,_,_,ho,Fg,hc,hv=>by
  unfold jZ.l4 jZ.dF
  simp (disch:=omega) only[au,aq,cq,cf,bD,bI,aB,bp,bw,bS,ax,bh,aa,ah,aS,bx,al,ar,bP,an,aO,a6,aT,a5,aG,bM,AE N ho ω ω]
  rw[bX,bX]at hv
  rw[bX]at hc
  rw[hv,hc]
 |k+1,n+1,out,c,hk,hn,ho,Fg,hc,hv=>by
  unfold jZ.l4 jZ.dF
  have e:((k+1:Nat):Int)-1=(k:Int):=ω
  obtain⟨g0,g1⟩:=hd.getD k
  have Wp:=fH (hd.drop (k+1))
  have e1:=fY d k
  simp only[e,ar]
  rw[NW ω]
  generalize hx:d.getD k 0=x at*
  rw[bh (x:=c*4294967296) ω ω,GW g0 g1 ω ω]
  simp (disch:=omega) only[au,aq,cq,cf,bD,bI,aB,bp,bw,bS,ax,bh,aa,ah,aS,bx,al,ar,bP,an,aO,a6,aT,a5,aG,bM,Yc,LK]
  refine zH N hd hl hN k n (out.set k ((x+c*4294967296)/2)) ((x+c*4294967296)%2) ω ω (ho.set _ ω ω) (by rw[aT];exact Fg) (by rw[e1,hc];omega) ?_
  rw[y8 _ ω,hv,e1]
  omega
theorem LL(hN:4000000≤N)(m:Nat)(h:(gA m).length≤100000):jZ N (gA m)=some (gA (m/2),((m%2:Nat):Int)):=by
 unfold jZ jZ.b
 simp (disch:=omega) only[au,aq,cq,cf,bD,bI,aB,bp,bw,bS,ax,bh,aa,ah,aS,bx,al,ar,bP,an,aO,a6,aT,a5,aG,bM]
 have:=zH N (fI m) h hN (gA m).length N (List.replicate (gA m).length 0) 0 (aH _) ω (VD.NT _) (by simp) (by rw[rU];rfl) (by rw[rU,eT (by simp)];rfl)
 rw[dN]at this
 rw[this]
 congr 2
def bin(n:Nat):List Int:=if n=0 then []else((n%2:Nat):Int)::bin (n/2)
termination_by n
decreasing_by omega
theorem wa{n:Nat}(h:n≠0):bin n=((n%2:Nat):Int)::bin (n/2):=by rw[bin];simp[h]
theorem pJ:bin 0=[]:=by rw[bin];rfl
def sW:List Int→Int
 |[]=>0
 |d::r=>d+2*sW r
theorem LM(n:Nat):sW (bin n)=n:=by
 induction n using Nat.strongRecOn with
 |_ n ih=>
  by_cases h:n=0
  ·subst h;rw[pJ];rfl
  ·rw[wa h,sW,ih _ ω];omega
theorem LN(n:Nat): ∀d∈bin n,d=0∨d=1:=by
 induction n using Nat.strongRecOn with
 |_ n ih=>
  by_cases h:n=0
  ·subst h;rw[pJ];intro d hd;cases hd
  ·rw[wa h];intro d hd
   rcases bu.1 hd with rfl|hd
   ·omega
   ·exact ih _ ω d hd
theorem LO(k:Nat): ∀n,n<2^k→(bin n).length≤k:=by
 induction k with
 |zero=>
  intro n h;have:n=0:=by simpa using h
  subst this;rw[pJ];simp
 |succ k ih=>
  intro n h
  by_cases hn:n=0
  ·subst hn;rw[pJ];simp
  ·rw[wa hn,aG]
   have:=ih (n/2) (by rw[jx]at h;omega)
   omega
theorem Jo{n k:Nat}(h:n<4294967296^k):(bin n).length≤32*k:=LO _ _ (fP h (by rw[Nat.pow_mul];exact aH _))
theorem zI(N:Nat)(hN:4000000≤N)(x2 x3 x4 x5:ay): ∀(m n:Nat) (t:Nat) (bits:List Int),(bin t).length≤m→m<n→(gA t).length≤100000→bits.length+(bin t).length≤4000000→
  ek.l3 N n x2 x3 x4 x5 bits (gA t)=ek.l9 N N x2 x3 x4 x5 (bits++bin t) (false,([],())) (false,([],())) (((bits++bin t).length:Int)-1)
 |m,0,t,bits,_,hn,_,_=>ω
 |m,n+1,t,bits,hm,hn,hd,hb=>by
  unfold ek.l3 ek.qJ
  by_cases ht:t=0
  ·subst ht
   rw[fG,pJ]
   simp (disch:=omega) only[au,aq,cq,cf,bD,bI,aB,bp,bw,bS,ax,bh,aa,ah,aS,bx,al,ar,bP,an,aO,a6,aT,a5,aG,bM,cy]
  ·have Il:0<(gA t).length:=by
    apply mT.2
    intro h;rw[sT]at h;omega
   rw[wa ht]at hm hb ⊢
   rw[aG]at hm hb
   have hdl:(gA (t/2)).length≤100000:=by
    have:=AD _ t hd
    exact qc _ _ (Nat.lt_of_le_of_lt (Nat.div_le_self _ _) this)
   simp (disch:=omega) only[au,aq,cq,cf,bD,bI,aB,bp,bw,bS,ax,bh,aa,ah,aS,bx,al,ar,bP,an,aO,a6,aT,a5,aG,bM,LL N hN t hd]
   rw[zI N hN x2 x3 x4 x5 (m-1) n (t/2) (bits++[((t%2:Nat):Int)]) ω ω hdl (by simp;omega)]
   simp
theorem GX(l:List Int){i:Nat}(h:i<l.length):sW (l.drop i)=l.getD i 0+2*sW (l.drop (i+1)):=by
 rw[jf h,sW,aY,ba h];rfl
theorem uT: ∀{l:List Int},(∀d∈l,d=0∨d=1)→0≤sW l
 |[],_=>fj _
 |d::r,h=>by
  have h1:=uT (l:=r) λx hx=>h x (aR _ hx)
  have:=h d (bl ..)
  simp only[sW];omega
theorem nY: ∀(l:List Int) (i:Nat),(∀d∈l,d=0∨d=1)→sW (l.drop i)≤sW l
 |l,0,_=>fj _
 |[],i+1,_=>fj _
 |d::r,i+1,h=>by
  have h1:=nY r i λx hx=>h x (aR _ hx)
  have h2:=uT (l:=r) λx hx=>h x (aR _ hx)
  have:=h d (bl ..)
  rw[List.drop_succ_cons,sW];omega
theorem np(N:Nat)(hN:4000000≤N)(a d:Int)(hd:0<d)(yZ:Fit a 80000)(yY:Fit d 80000)(x4 x5:ay){bits:List Int}(hb: ∀x∈bits,x=0∨x=1)(SA:sW bits=a.natAbs)(po:bits.length≤4000000):
  ∀(k n:Nat) (q r:Int),k≤bits.length→k<n→0≤q→0≤r→r<d→sW (bits.drop k)=q*d+r→
  ek.l9 N n (bz a) (bz d) x4 x5 bits (bz q) (bz r) ((k:Int)-1)=some (bz (a/d),bz (a%d))
 |k,0,q,r,_,hn,_,_,_,_=>ω
 |0,n+1,q,r,_,_,hq,hr,fg,hv=>by
  unfold ek.l9 ek.WG
  rw[bX,SA]at hv
  have hqa:q≤a.natAbs:=by
   have:q*1≤q*d:=ko ω hq
   omega
  have fq:Fit q 900000:=(yZ.of_le (u:=q) ω).mono ω
  have fr:Fit r 900000:=(yY.of_le (u:=r) ω).mono ω
  have f1:Fit 1 900000:=(Fit.i64 (v:=1) ω ω).mono ω
  have fq':Fit (-q) 900000:=fq.neg
  have fd:Fit d 900000:=yY.mono ω
  rw[cf ω,ah]
  by_cases ha:a<0
  ·have Ih:(a.natAbs:Int)= -a:=ω
   have e0:(bz a).1=true:=bn ha
   simp only[e0,aS,ah,nX,al]
   by_cases E4:r=0
   ·subst E4
    rw[bD (by unfold nW;simp),aa]
    simp only[qd N hN fq,al]
    have e1:a=d*(-q):=by rw[m0,cO];omega
    have e2:a/d= -q:=by rw[e1,Bs _ ω]
    have e3:a%d=0:=by rw[e1,Int.mul_emod_right]
    rw[e2,e3]
   ·rw[bI (by unfold nW;rw[af ω,ae ω];omega),ah]
    simp (disch:=omega) only[qd N hN fq,eJ N ω (show-9223372036854775808≤(1:Int)by omega) ω,al,sU N hN fq' f1,sU N hN fd fr]
    have e1:a=(d-r)+d*(-q-1):=by rw[se,m0,Int.mul_one,cO];omega
    have e2:a/d= -q-1:=by
     rw[e1,oR _ _ ω,rK ω ω];omega
    have e3:a%d=d-r:=by rw[e1,rB,wG ω ω]
    rw[e2,e3]
  ·have Ih:(a.natAbs:Int)=a:=ω
   have e0:(bz a).1=false:=bm ha
   simp only[e0,bx,aa]
   have e1:a=r+d*q:=by rw[cO];omega
   have e2:a/d=q:=by rw[e1,oR _ _ ω,rK hr fg];omega
   have e3:a%d=r:=by rw[e1,rB,wG hr fg]
   rw[e2,e3]
 |k+1,n+1,q,r,hk,hn,hq,hr,fg,hv=>by
  unfold ek.l9 ek.WG
  have e:((k+1:Nat):Int)-1=(k:Int):=ω
  have hle:=nY bits k hb
  have nO:=nY bits (k+1) hb
  rw[SA]at hle nO
  have hqa:q≤a.natAbs:=by
   have:q*1≤q*d:=ko ω hq
   omega
  have fq:Fit q 80000:=yZ.of_le ω
  have fr:Fit r 80000:=yY.of_le ω
  have fqq:=fq.add fq
  have WH:=fr.add fr
  have f1:Fit 1 80000:=(Fit.i64 (v:=1) ω ω).mono ω
  have WI:=GX bits (i:=k) ω
  have vv:bits.getD k 0=0∨bits.getD k 0=1:=by
   rw[aY,ba (show k<bits.length by omega)]
   exact hb _ (dB _)
  rw[e,cq ω,aa]
  have Yr:(q+q)*d=2*(q*d):=by rw[←Int.two_mul,dw]
  have Ud:(q+q+1)*d=2*(q*d)+d:=by rw[gu,Yr,jz]
  simp (disch:=omega) only[au,aq,cq,cf,bD,bI,aB,bp,bw,bS,ax,bh,aa,ah,aS,bx,al,ar,bP,an,aO,a6,aT,a5,aG,bM,iE N hN (fq.mono ω) (fq.mono ω),iE N hN (fr.mono ω) (fr.mono ω),eJ N ω (show-9223372036854775808≤(1:Int)by omega) ω]
  rcases vv with vv|vv
  ·rw[vv,bI ω,ah]
   simp only[Eo N hN (WH.mono ω) (yY.mono ω),al]
   by_cases Ld:d≤r+r
   ·rw[cq (by unfold nW;split<;>(try split)<;>omega),aa]
    simp only[sU N hN (WH.mono ω) (yY.mono ω),iE N hN (fqq.mono ω) (f1.mono ω),al]
    refine np N hN a d hd yZ yY x4 x5 hb SA po k n _ _ ω ω ω ω ω ?_
    rw[WI,vv,hv,Ud];omega
   ·rw[cf (by unfold nW;rw[ae ω];omega),ah]
    refine np N hN a d hd yZ yY x4 x5 hb SA po k n _ _ ω ω ω ω ω ?_
    rw[WI,vv,hv,Yr];omega
  ·rw[vv,bD rfl,aa]
   have Ue:=WH.add (f1.mono (show 80000≤80001 by omega))
   simp only[iE N hN (WH.mono ω) (f1.mono ω),Eo N hN (Ue.mono ω) (yY.mono ω),al]
   by_cases Ld:d≤r+r+1
   ·rw[cq (by unfold nW;split<;>(try split)<;>omega),aa]
    simp only[sU N hN (Ue.mono ω) (yY.mono ω),iE N hN (fqq.mono ω) (f1.mono ω),al]
    refine np N hN a d hd yZ yY x4 x5 hb SA po k n _ _ ω ω ω ω ω ?_
    rw[WI,vv,hv,Ud];omega
   ·rw[cf (by unfold nW;rw[ae ω];omega),ah]
    refine np N hN a d hd yZ yY x4 x5 hb SA po k n _ _ ω ω ω ω ω ?_
    rw[WI,vv,hv,Yr];omega
theorem LP(hN:5000000≤N){a d:Int}(hd:0<d)(yZ:Fit a 80000)(yY:Fit d 80000):ek N (bz a) (bz d)=some (bz (a/d),bz (a%d)):=by
 unfold ek ek.b
 have po:(bin a.natAbs).length≤32*80000:=Jo yZ
 have h1:=zI N ω (bz a) (bz d) (false,([],())) (false,([],())) (bin a.natAbs).length N a.natAbs [] (aH _) ω (ea yZ.len ω) (by simp;omega)
 rw[fT]at h1
 refine h1.trans ?_
 rw[←eP]
 exact np N ω a d hd yZ yY _ _ (LN _) (LM _) ω (bin a.natAbs).length N 0 0 (aH _) ω ω ω hd (by rw[rU];simp[sW])
def bA(v:Int):aM:=(v/18446744073709551616,(v%18446744073709551616,()))
theorem wmk{a b v:Int}(h1:a=v/18446744073709551616)(h2:b=v%18446744073709551616):((a,(b,())):aM)=bA v:=by
 unfold bA;rw[h1,h2]
theorem CP{a b v:Int}{α:Type}{c:α}(h1:a=v/18446744073709551616)(h2:b=v%18446744073709551616):(some (((a,(b,())):aM),c):Option (aM×α))=some (bA v,c):=by
 rw[wmk h1 h2]
theorem Jp{a b c d:Int}(h1:a=c)(h2:b=d):(some (a,b):Option (Int×Int))=some (c,d):=by rw[h1,h2]
theorem xM{hi lo:Int}(h0:0≤hi)(h1:hi<9223372036854775808)(l0:0≤lo)(l1:lo<18446744073709551616):ly N false hi lo=some (bA (hi*18446744073709551616+lo),true):=by
 unfold ly ly.b
 rw[bx,aa,cf ω,ah,ax ω ω]
 exact CP ω ω
theorem nZ{hi lo:Int}(h0:0≤hi)(l0:0≤lo)(l1:lo<18446744073709551616)(hm:hi*18446744073709551616+lo≤170141183460469231731687303715884105728):ly N true hi lo=some (bA (-(hi*18446744073709551616+lo)),true):=by
 unfold ly ly.b
 have hj:ly.j7 N hi lo bE=some (bA (-(hi*18446744073709551616+lo)),true):=by
  unfold ly.j7 ly.Jj
  rw[jH N ω ω l0 l1 ω ω,al]
  by_cases hl:lo=0
  ·subst hl
   rw[af ω]
   rw[jH N ω ω h0 ω ω ω,al,ej]
   exact CP (by split<;>omega) ω
  ·rw[ae ω]
   rw[jH N ω ω h0 ω ω ω,al,ej]
   exact CP (by split<;>omega) ω
 rw[aS,ah,aq ω,ah]
 by_cases he:hi=9223372036854775808
 ·rw[bD he,aa,aq ω,ah];exact hj
 ·rw[bI he,ah];exact hj
theorem y9{a b:Int}(a0: -9223372036854775808≤a)(a1:a<9223372036854775808)(b0: -9223372036854775808≤b)(b1:b<9223372036854775808):
  0≤(a.natAbs:Int)*b.natAbs∧(a.natAbs:Int)*b.natAbs≤85070591730234615865843651857942052864:=by
 have:=mul_lt (m:=9223372036854775808) (n:=9223372036854775808) (show 0≤(a.natAbs:Int)by omega) (show 0≤(b.natAbs:Int)by omega) ω ω
 omega
theorem AI{a b:Int}(a0: -9223372036854775808≤a)(a1:a<9223372036854775808)(b0: -9223372036854775808≤b)(b1:b<9223372036854775808):SB N a b=some (bA (a*b)):=by
 unfold SB
 have hm:=y9 a0 a1 b0 b1
 simp only[sS N a0 a1,sS N b0 b1,al,Cw N (show 0≤(a.natAbs:Int)by omega) ω (show 0≤(b.natAbs:Int)by omega) ω,pI]
 obtain⟨m,Uf⟩: ∃m,m=(a.natAbs:Int)*b.natAbs:=⟨_,rfl⟩
 rw[←Uf]at hm ⊢
 have hd:m/18446744073709551616*18446744073709551616+m%18446744073709551616=m:=ω
 by_cases h1:a<0<;>by_cases h2:b<0
 ·rw[au h1,au h2,wK,aS,xM N ω ω ω ω,al,hd]
  have:m=a*b:=by rw[Uf,show(a.natAbs:Int)= -a from by omega,show(b.natAbs:Int)= -b from by omega,Int.neg_mul_neg]
  rw[this]
 ·rw[au h1,aq (x:=b) ω,show(!(true==false))=true from rfl,nZ N ω ω ω ω,al,hd]
  have:m= -(a*b):=by rw[Uf,show(a.natAbs:Int)= -a from by omega,show(b.natAbs:Int)=b from by omega,Int.neg_mul]
  rw[this,Int.neg_neg]
 ·rw[aq (x:=a) ω,au h2,show(!(false==true))=true from rfl,nZ N ω ω ω ω,al,hd]
  have:m= -(a*b):=by rw[Uf,show(a.natAbs:Int)=a from by omega,show(b.natAbs:Int)= -b from by omega,m0]
  rw[this,Int.neg_neg]
 ·rw[aq (x:=a) ω,aq (x:=b) ω,wK,aS,xM N ω ω ω ω,al,hd]
  have:m=a*b:=by rw[Uf,show(a.natAbs:Int)=a from by omega,show(b.natAbs:Int)=b from by omega]
  rw[this]
theorem Jq{v:Int}(v0: -170141183460469231731687303715884105728≤v)(v1:v<170141183460469231731687303715884105728):LR N (bA v)=some ((v.natAbs:Int)/18446744073709551616,(v.natAbs:Int)%18446744073709551616):=by
 unfold LR bA
 dsimp only
 by_cases h:0≤v
 ·rw[cq ω,aa,bh ω ω]
  exact Jp ω ω
 ·rw[cf ω,ah,jH N ω ω ω ω ω ω,al]
  dsimp only
  rw[iD]
  by_cases hl:v%18446744073709551616=0
  ·rw[af ω,jH N ω ω ω ω ω ω,al]
   exact Jp ω ω
  ·rw[ae ω,jH N ω ω ω ω ω ω,al]
   exact Jp ω ω
theorem LS{m d:Int}(hd:0<d)(hm:0≤m):m/d=m/18446744073709551616/d*18446744073709551616+(m/18446744073709551616%d*18446744073709551616+m%18446744073709551616)/d∧
  m%d=(m/18446744073709551616%d*18446744073709551616+m%18446744073709551616)%d:=by
 have e:=nz (m/18446744073709551616) d
 have e0:m=(m/18446744073709551616%d*18446744073709551616+m%18446744073709551616)+d*(m/18446744073709551616/d*18446744073709551616):=by
  rw[←dw];omega
 constructor
 ·conv=>lhs;rw[e0]
  rw[oR _ _ ω];omega
 ·conv=>lhs;rw[e0]
  rw[rB]
theorem LV(hN:100≤N){v d:Int}(v0: -170141183460469231731687303715884105728≤v)(v1:v<170141183460469231731687303715884105728)(d0:0<d)(d1:d<9223372036854775808):
  nq N (bA v) d=some (bA (v/d),v%d,true):=by
 unfold nq nq.b
 rw[aq ω,ah,Jq N v0 v1,al,bh (x:=d) ω ω]
 dsimp only
 obtain⟨m,hm⟩: ∃m:Int,m=v.natAbs:=⟨_,rfl⟩
 rw[←hm]
 have hmd:=me (m/18446744073709551616) d0
 have Ys:=kP (m/18446744073709551616) (show d≠0 by omega)
 rw[CC N hN ω d0 ω ω ω,al,Int.zero_mul,Int.zero_add]
 dsimp only
 rw[CC N hN Ys hmd ω ω ω,al]
 dsimp only
 obtain⟨e1,e2⟩:=LS d0 (show 0≤m by omega)
 rw[←e2]
 have qF:0≤m/18446744073709551616/d:=gM ω ω
 have NF:m/18446744073709551616/d≤m/18446744073709551616:=Int.ediv_le_self _ ω
 have HE:=me m d0
 have E4:=kP m (show d≠0 by omega)
 have SU:0≤(m/18446744073709551616%d*18446744073709551616+m%18446744073709551616)/d:=gM ω ω
 have Pp:(m/18446744073709551616%d*18446744073709551616+m%18446744073709551616)/d<18446744073709551616:=by
  rw[pT d0]
  have:=ny (show m/18446744073709551616%d+1≤d by omega) (show(0:Int)≤18446744073709551616 by omega)
  rw[gu,jz,cO d]at this;omega
 generalize (m/18446744073709551616%d*18446744073709551616+m%18446744073709551616)/d=ql at*
 generalize hqh:m/18446744073709551616/d=qh at*
 have WJ:=nz m d
 by_cases h:0≤v
 ·have hv:m=v:=ω
  rw[cq (show(0:Int)≤(bA v).1 by show 0≤v/_;omega),aa,ax (x:=qh) ω ω,ax (x:=m%d) ω ω,←hv]
  unfold bA
  exact CP ω ω
 ·have hv:v= -m:=ω
  rw[cf (show(bA v).1<0 by show v/_<0;omega),ah]
  by_cases hr:0<m%d
  ·rw[au hr,aa,nn N SU ω ω ω,al]
   unfold nq.SC nq.LW
   dsimp only
   rw[bh (x:=d-m%d) ω ω,bh (x:=qh+(ql+1+0)/18446744073709551616) ω ω]
   rw[nZ N ω ω ω (by
    have:m/d*1≤m/d*d:=ko ω (gM ω ω)
    rw[cO]at WJ;omega),al,ax (x:=d-m%d) ω ω]
   have e3:v=(d-m%d)+d*(-(m/d)-1):=by rw[hv,se,m0,Int.mul_one];omega
   have e4:v/d= -(m/d)-1:=by
    rw[e3,oR _ _ ω,rK ω ω];omega
   have e5:v%d=d-m%d:=by rw[e3,rB,wG ω ω]
   rw[e4,e5]
   dsimp only
   rw[show-((qh+(ql+1+0)/18446744073709551616)*18446744073709551616+(ql+1+0)%18446744073709551616)= -(m/d)-1 by omega]
  ·have mK:m%d=0:=ω
   rw[aq ω,ah]
   unfold nq.SC nq.LW
   rw[nZ N ω ω ω (by
    have:m/d*1≤m/d*d:=ko ω (gM ω ω)
    rw[cO]at WJ;omega),al,ax (x:=m%d) ω ω]
   have e3:v=d*(-(m/d)):=by rw[hv,m0];omega
   have e4:v/d= -(m/d):=by rw[e3,Bs _ ω]
   have e5:v%d=0:=by rw[e3,Int.mul_emod_right]
   rw[e4,e5,mK]
   dsimp only
   rw[show-(qh*18446744073709551616+ql)= -(m/d)by omega]
theorem AJ{v:Int}(v0: -170141183460469231731687303715884105728≤v)(v1:v<170141183460469231731687303715884105728):PQ N (bA v)=some (q7 v):=by
 unfold PQ bA
 rw[aq ω,ah]
 dsimp only
 have hw0: -9223372036854775808≤W .i64 (v%18446744073709551616)∧W .i64 (v%18446744073709551616)<9223372036854775808:=by rw[ej];split<;>omega
 rw[lq hw0.1 hw0.2]
 have Yt:W .i64 (v%18446744073709551616)=if 9223372036854775808≤v%18446744073709551616 then v%18446744073709551616-18446744073709551616 else v%18446744073709551616:=by rw[ej];split<;>split<;>omega
 rw[Yt]
 unfold q7
 by_cases h: -9223372036854775808≤v∧v<9223372036854775808
 ·rw[ae h]
  by_cases hn:v<0
  ·rw[ae (show 9223372036854775808≤v%18446744073709551616 by omega),ae ω,bD ω,aS,ah]
   congr 2;omega
  ·rw[af (show ¬9223372036854775808≤v%18446744073709551616 by omega),af ω,bD ω,aS,ah]
   congr 2;omega
 ·rw[af h]
  by_cases hm:9223372036854775808≤v%18446744073709551616
  ·rw[ae hm,ae ω,bI ω,bx,aa]
  ·rw[af hm,af ω,bI ω,bx,aa]
theorem zJ(N:Nat){l:List Int}(h: ∀x∈l,-9223372036854775808≤x∧x<9223372036854775808)(hl:l.length≤1000000): ∀(m n i:Nat),l.length-i≤m→m<n→i≤l.length→
  lz.l3 N n ((l.take i).sum/18446744073709551616) ((l.take i).sum%18446744073709551616) l (l.length:Int) (i:Int)=some (q7 l.sum)
 |m,0,i,_,hn,_=>ω
 |m,n+1,i,hm,hn,hi=>by
  unfold lz.l3 lz.qJ
  have f1:=AG (l.take i) (λx hx=>h x (il hx))
  rw[a7,du ω]at f1
  by_cases h1:i<l.length
  ·obtain⟨g0,g1⟩:=CN h i
   have hs:=gB l h1
   simp only[ar]
   generalize hx:l.getD i 0=x at*
   generalize (l.take i).sum=t at*
   rw[iD,nn N ω ω ω ω]
   simp only[lq g0 g1]
   have Yu:=zJ N h hl (m-1) n (i+1) ω ω ω
   rw[hs]at Yu
   rw[au ω,aa,aB ω ω,aa,al,aq ω,ah]
   by_cases hn:x<0
   ·rw[ae hn,ax (x:=t/18446744073709551616+ -1) ω ω,ax (x:=(_:Int)/18446744073709551616) ω ω,ax ω ω,ax (x:=(i:Int)+1) ω ω]
    refine Eq.trans ?_ Yu
    congr 1<;>omega
   ·rw[af hn,ax (x:=t/18446744073709551616+0) ω ω,ax (x:=(_:Int)/18446744073709551616) ω ω,ax ω ω,ax (x:=(i:Int)+1) ω ω]
    refine Eq.trans ?_ Yu
    congr 1<;>omega
  ·rw[dI ω]at f1 ⊢
   rw[aq ω,ah]
   have:=AJ N (v:=l.sum) ω ω
   unfold PQ bA at this
   exact this
theorem LX{l:List Int}(h: ∀x∈l,-9223372036854775808≤x∧x<9223372036854775808)(hl:l.length≤1000000)(hN:1000000<N):lz N l=some (q7 l.sum):=by
 unfold lz lz.b
 have:=zJ N h hl l.length N 0 ω ω ω
 rw[kS,jy]at this
 exact this
end VM
end
section
namespace VM
open Go
variable(N:Nat)
theorem cond_not{α:Type}(b:Bool)(x y:α):cond (!b) x y=cond b y x:=by cases b<;>rfl
theorem bZ{α:Type}(a b:Int)(x y:α):cond (aX a b) x y=if a<b then x else y:=by
 by_cases h:a<b
 ·rw[au h,ae h];rfl
 ·rw[aq ω,af h];rfl
theorem bJ{α:Type}(a b:Int)(x y:α):cond (c4 a b) x y=if a≤b then x else y:=by
 by_cases h:a≤b
 ·rw[cq h,ae h];rfl
 ·rw[cf ω,af h];rfl
theorem aQ{α:Type}(a b:Int)(x y:α):cond (bq a b) x y=if a=b then x else y:=by
 by_cases h:a=b
 ·rw[bD h,ae h];rfl
 ·rw[bI h,af h];rfl
theorem dO{α:Type}(p:Prop) [Decidable p](x y:α):cond (decide p) x y=if p then x else y:=by
 by_cases h:p
 ·rw[bn h,ae h];rfl
 ·rw[bm h,af h];rfl
theorem drop_cons{α:Type}{l:List α}{i:Nat}(h:i<l.length)(d:α):l.drop i=l.getD i d::l.drop (i+1):=by
 rw[jf h,aY,ba h];rfl
theorem n0{α σ β:Type}(l:List α)(d:α)(F:Nat→Int→σ→Option β)(g:List α→σ→Option β)(I:Nat→σ→Prop)
  (hs: ∀n i s,i<l.length→I i s→(∀s',I (i+1) s'→F n ((i+1:Nat):Int) s'=g (l.drop (i+1)) s')→F (n+1) (i:Int) s=g (l.getD i d::l.drop (i+1)) s)
  (he: ∀n s,I l.length s→F (n+1) (l.length:Int) s=g [] s): ∀m n i s,l.length-i≤m→m<n→i≤l.length→I i s→F n (i:Int) s=g (l.drop i) s
 |m,0,i,s,_,hn,_,_=>ω
 |m,n+1,i,s,hm,hn,hi,hI=>by
  by_cases h:i<l.length
  ·rw[drop_cons h d]
   exact hs n i s h hI λs' uC=>n0 l d F g I hs he (m-1) n (i+1) s' ω ω ω uC
  ·have:i=l.length:=ω
   subst this
   rw[rU];exact he n s hI
theorem zK{α β:Type}(l:List α)(d:α)(F:Nat→Int→Option β)(g:List α→Option β)
  (hs: ∀n i,i<l.length→F n ((i+1:Nat):Int)=g (l.drop (i+1))→F (n+1) (i:Int)=g (l.getD i d::l.drop (i+1)))
  (he: ∀n,F (n+1) (l.length:Int)=g []) (n:Nat) (hn:l.length<n):F n 0=g l:=by
 have:=n0 (σ:=Unit) l d (λn i _=>F n i) (λl _=>g l) (λ_ _=>True) (λn i _ h _ hr=>hs n i h (hr () trivial)) (λn _ _=>he n) l.length n 0 () ω hn ω trivial
 simpa using this
theorem scan{F:Nat→Int→Option Bool}{len:Nat}(P:Nat→Prop) [DecidablePred P]
  (hs: ∀n i r,i<len→(∀j,j<i→P j)→F n ((i+1:Nat):Int)=r→F (n+1) (i:Int)=if P i then r else some false) {e:Bool} (he: ∀n,F (n+1) (len:Int)=some e):
  ∀m n i,len-i≤m→m<n→i≤len→(∀j,j<i→P j)→F n (i:Int)=some (decide (∀j,j<len→i≤j→P j)&&e)
 |m,0,i,_,hn,_,_=>ω
 |m,n+1,i,hm,hn,hi,hp=>by
  by_cases h:i<len
  ·rw[hs n i _ h hp rfl]
   by_cases hP:P i
   ·rw[ae hP,scan P hs he (m-1) n (i+1) ω ω ω (λj hj=>by
     by_cases xy:j=i
     ·subst xy;exact hP
     ·exact hp j ω)]
    congr 2
    rw[mV]
    refine⟨λhj j h2 h1=> ?_,λhj j h2 h1=>hj j h2 ω⟩
    by_cases xy:j=i
    ·subst xy;exact hP
    ·exact hj j h2 ω
   ·rw[af hP,bm (λhj=>hP (hj i h (aH i)))];rfl
  ·have:i=len:=ω
   subst this
   rw[he n,bn (λj h2 h1=>absurd h2 ω)];rfl
theorem eo{F:Nat→Int→Option Bool}{len:Nat}(P:Nat→Prop) [DecidablePred P]{e:Bool}
  (hs: ∀n i r,i<len→(∀j,j<i→P j)→F n ((i+1:Nat):Int)=r→F (n+1) (i:Int)=if P i then r else some false) (he: ∀n,F (n+1) (len:Int)=some e) (n:Nat) (hn:len<n):
  F n 0=some (decide (∀j,j<len→P j)&&e):=by
 have:=scan P hs he len n 0 ω hn ω (λj hj=>absurd hj ω)
 rw[show((0:Nat):Int)=0 from rfl]at this
 rw[this]
 congr 2
 rw[mV]
 exact⟨λh j hj=>h j hj ω,λh j hj _=>h j hj⟩
end VM
end
section
namespace VM
open Go VM.F
variable(N:Nat)
def cB(x:Int):Prop:= -170141183460469231731687303715884105728≤x∧x<170141183460469231731687303715884105728
instance(x:Int):Decidable (cB x):=by unfold cB;infer_instance
theorem xN{x:Int}(h0: -9223372036854775808≤x)(h1:x<9223372036854775808):NX N x=some (bA x):=by
 unfold NX
 rw[aq ω,ah,lq h0 h1,iD]
 congr 1
 exact wmk (by split<;>omega) rfl
theorem LY{ws:List Int}(i:Nat):(ws.map bA).getD i bE=bA (ws.getD i 0):=by
 by_cases h:i<ws.length
 ·rw[aY,rS,ba h,aY,ba h];rfl
 ·rw[aY,eU (by rw[iq];omega),aY,eU ω];rfl
theorem Jr{ws:List Int}(h: ∀x∈ws,cB x): -(170141183460469231731687303715884105728*(ws.length:Int))≤ws.sum∧ws.sum≤170141183460469231731687303715884105728*(ws.length:Int):=by
 induction ws with
 |nil=>simp
 |cons x ws ih=>
  have h0:=h x (bl ..)
  have ih:=ih (λy hy=>h y (aR _ hy))
  unfold cB at h0
  rw[eV,aG];omega
theorem Js{t w:Int}{lo hi top:Int}(hw:cB w)(oB:lo=t%18446744073709551616)(DX:hi=t/18446744073709551616%18446744073709551616)(Yv:top=t/340282366920938463463374607431768211456):
  (lo+w%18446744073709551616+0)%18446744073709551616=(t+w)%18446744073709551616∧
  (hi+(w/18446744073709551616)%18446744073709551616+(lo+w%18446744073709551616+0)/18446744073709551616)%18446744073709551616=(t+w)/18446744073709551616%18446744073709551616∧
  top+(if w/18446744073709551616<0 then-1 else 0)+(hi+(w/18446744073709551616)%18446744073709551616+(lo+w%18446744073709551616+0)/18446744073709551616)/18446744073709551616=(t+w)/340282366920938463463374607431768211456:=by
 unfold cB at hw
 subst oB DX Yv
 refine⟨ω,ω,?_⟩
 split<;>omega
def CQ(t:Int):aM×Bool:=if cB t then(bA t,true)else(bE,false)
theorem W64(x:Int):W .u64 x=x%18446744073709551616:=iD x
theorem zL(N:Nat){ws:List Int}(h: ∀x∈ws,cB x)(hl:ws.length≤1000000): ∀(m n i:Nat) (t:Int),ws.length-i≤m→m<n→i≤ws.length→t=(ws.take i).sum→
  jK.l3 N n bE (t/340282366920938463463374607431768211456) (t/18446744073709551616%18446744073709551616) (t%18446744073709551616) (ws.map bA) (ws.length:Int) (i:Int)=some (CQ ws.sum)
 |m,0,i,t,_,hn,_,_=>ω
 |m,n+1,i,t,hm,hn,hi,ht=>by
  unfold jK.l3 jK.qJ
  have f1:=Jr (ws:=ws.take i) (λx hx=>h x (il hx))
  rw[a7,du ω,←ht]at f1
  by_cases h1:i<ws.length
  ·have hw:cB (ws.getD i 0):=by
    rw[aY,ba h1];exact h _ (dB h1)
   have hs:=gB ws h1
   rw[←ht]at hs
   have st:=Js (t:=t) (w:=ws.getD i 0) hw rfl rfl rfl
   have vy:=zL N h hl (m-1) n (i+1) (t+ws.getD i 0) ω ω ω hs.symm
   rw[au ω,aa,aB ω (by rw[iq];omega),aa,ar,LY]
   unfold bA
   dsimp only
   have hw':=hw
   unfold cB at hw'
   generalize ws.getD i 0=w at*
   have hq:0≤(t%18446744073709551616+w%18446744073709551616+0)/18446744073709551616∧(t%18446744073709551616+w%18446744073709551616+0)/18446744073709551616≤1:=ω
   rw[nn N ω ω ω ω,al,W64,nn N ω ω hq.1 hq.2,al,aq (x:=63) ω,ah,st.1,st.2.1]
   rw[lq ω ω]
   have hc:0≤(t/18446744073709551616%18446744073709551616+w/18446744073709551616%18446744073709551616+(t%18446744073709551616+w%18446744073709551616+0)/18446744073709551616)/18446744073709551616∧(t/18446744073709551616%18446744073709551616+w/18446744073709551616%18446744073709551616+(t%18446744073709551616+w%18446744073709551616+0)/18446744073709551616)/18446744073709551616≤1:=ω
   have hif: -1≤(if w/18446744073709551616<0 then(-1:Int)else 0)∧(if w/18446744073709551616<0 then(-1:Int)else 0)≤0:=by split<;>omega
   rw[ax (x:=t/340282366920938463463374607431768211456+_) ω ω,ax (x:=(_:Int)/18446744073709551616) ω ω,st.2.2,ax ω ω,ax (x:=(i:Int)+1) ω ω]
   exact vy
  ·have e:(ws.take i).sum=ws.sum:=by rw[dI ω]
   rw[e]at ht
   rw[aq ω,ah,aq (x:=63) ω,ah,←ht]
   have hh: -9223372036854775808≤W .i64 (t/18446744073709551616%18446744073709551616)∧W .i64 (t/18446744073709551616%18446744073709551616)<9223372036854775808:=by rw[ej];split<;>omega
   have Yt:W .i64 (t/18446744073709551616%18446744073709551616)=if 9223372036854775808≤t/18446744073709551616%18446744073709551616 then t/18446744073709551616%18446744073709551616-18446744073709551616 else t/18446744073709551616%18446744073709551616:=by rw[ej];split<;>split<;>omega
   rw[lq hh.1 hh.2,Yt]
   unfold CQ
   by_cases hI:cB t
   ·rw[ae hI]
    unfold cB at hI
    rw[bD (by split<;>split<;>omega),aS,ah]
    exact CP (by split<;>omega) rfl
   ·rw[af hI]
    unfold cB at hI
    rw[bI (by split<;>split<;>omega),bx,aa]
theorem Fv{ws:List Int}(h: ∀x∈ws,cB x)(hl:ws.length≤1000000)(hN:1000000<N):jK N (ws.map bA)=some (CQ ws.sum):=by
 unfold jK jK.b
 rw[iq]
 exact zL N h hl ws.length N 0 0 ω ω ω (by simp)
theorem n4(a lo hi:Int):vz N a lo hi=some (decide (lo≤a∧a≤hi)):=by
 unfold vz
 rw[bJ,kV]
 by_cases h:lo≤a
 ·rw[ae h];congr 1;rw[mV];omega
 ·rw[af h,bm ω]
theorem zM(a lo hi:Int):za N a lo hi=some (decide (lo≤a∧a≤hi)):=n4 N a lo hi
def n5(a b c d:Int):Prop:=(0≤a∧a≤3)∧(1≤b∧b≤1000000000000)∧(0≤c∧c≤1000000000)∧(0≤d∧d≤1000000000)
instance(a b c d:Int):Decidable (n5 a b c d):=by unfold n5;infer_instance
def lA(l:bN)(i:Nat):Prop:=n5 (l.getD i aZ).1 (l.getD i aZ).2.1 (l.getD i aZ).2.2.1 (l.getD i aZ).2.2.2.1
instance(l:bN):DecidablePred (lA l):=λi=>by unfold lA;infer_instance
def n6(a b c d e f:Int):Prop:=0≤a∧(0≤b∧b≤4)∧(0≤c∧c≤1000000)∧(0≤d∧d≤1000000)∧(1≤e∧e≤4611686018427387904)∧0≤f
instance(a b c d e f:Int):Decidable (n6 a b c d e f):=by unfold n6;infer_instance
def n7(c:ak):Prop:=n6 c.2.1 c.2.2.1 c.2.2.2.1 c.2.2.2.2.1 c.2.2.2.2.2.1 c.2.2.2.2.2.2.1
instance(c:ak):Decidable (n7 c):=by unfold n7;infer_instance
def iF(c:ak):Bool:=decide (1≤c.1.length∧c.1.length≤6)&&(decide (∀j,j<c.1.length→lA c.1 j)&&decide (n7 c))
theorem AK(hN:100≤N)(c:ak):tM N c=some (iF c):=by
 unfold tM tM.b iF
 rw[n4,al,cond_not,dO]
 by_cases hl:1≤c.1.length∧c.1.length≤6
 ·rw[ae ω,bn hl,ir]
  refine eo (F:=λn i=>tM.l4 N n c c.1 (c.1.length:Int) i) (lA c.1) (λn i r hi hp hr=> ?_) (λn=> ?_) N ω
  ·unfold tM.l4 tM.dF
   rw[au ω,aa,aB ω ω,aa,ar,ax ω ω,an]
   simp only[n4,al,cond_not,dO]
   by_cases hP:lA c.1 i
   ·rw[ae hP];unfold lA n5 at hP
    repeat' split
    all_goals first|rfl|exact hr|omega
   ·rw[af hP];unfold lA n5 at hP
    repeat' split
    all_goals first|rfl|exact hr|omega
  ·unfold tM.l4 tM.dF
   rw[aq ω,ah]
   simp only[n4,al,cond_not,dO,bJ,kV]
   by_cases hP:n7 c
   ·rw[bn hP];unfold n7 n6 at hP
    repeat' split
    all_goals first|rfl|omega|(rw[bn ω])
   ·rw[bm hP];unfold n7 n6 at hP
    repeat' split
    all_goals first|rfl|omega|(rw[bm ω])
 ·rw[af ω,bm hl,o4]
theorem xO(hN:100≤N)(c:ak):tN N c=some (iF c):=by
 unfold tN tN.b iF
 rw[bZ,bZ]
 by_cases hl:1≤c.1.length∧c.1.length≤6
 ·rw[af ω,af ω,bn hl,ir]
  refine eo (F:=λn i=>tN.l4 N n c i) (lA c.1) (λn i r hi hp hr=> ?_) (λn=> ?_) N ω
  ·unfold tN.l4 tN.dF
   rw[au ω,aa,aB ω ω,aa,ar,ax ω ω,an]
   simp only[zM,al,cond_not,dO]
   by_cases hP:lA c.1 i
   ·rw[ae hP];unfold lA n5 at hP
    repeat' split
    all_goals first|rfl|exact hr|omega
   ·rw[af hP];unfold lA n5 at hP
    repeat' split
    all_goals first|rfl|exact hr|omega
  ·unfold tN.l4 tN.dF
   rw[aq ω,ah]
   simp only[zM,al,cond_not,dO,bJ,kV]
   by_cases hP:n7 c
   ·rw[bn hP];unfold n7 n6 at hP
    repeat' split
    all_goals first|rfl|omega|(rw[bn ω])
   ·rw[bm hP];unfold n7 n6 at hP
    repeat' split
    all_goals first|rfl|omega|(rw[bm ω])
 ·rw[bm hl,o4]
  by_cases h:(c.1.length:Int)<1
  ·rw[ae h]
  ·rw[af h,ae ω]
def ep(a b:Int)(i:Nat)(c:Int):Prop:=1≤a∧a≤12∧1≤b∧b≤4∧(0<i→c<a)
instance(a b:Int)(i:Nat)(c:Int):Decidable (ep a b i c):=by unfold ep;infer_instance
def dh(m:aw)(i:Nat):Prop:=ep (m.getD i bE).1 (m.getD i bE).2.1 i (m.getD (i-1) bE).1
instance(m:aw):DecidablePred (dh m):=λi=>by unfold dh;infer_instance
def dx(m:aw):Bool:=decide (∀j,j<m.length→dh m j)&&true
theorem xP{m:aw}(hl:m.length≤100000)(hN:200000≤N):jL N m=some (dx m):=by
 unfold jL jL.b
 refine eo (F:=λn i=>jL.l2 N n m m (m.length:Int) i) (dh m) (λn i r hi hp hr=> ?_) (λn=> ?_) N ω
 ·unfold jL.l2 jL.dV
  rw[au ω,aa,aB ω ω,aa,ar,ax (x:=(i:Int)+1) ω ω,an]
  by_cases h0:0<i
  ·have e:W .i64 ((i:Int)-1)=((i-1:Nat):Int):=by rw[ax ω ω];omega
   dsimp only
   rw[au (x:=0) ω,aa,e,ar,aB ω ω,aa]
   simp only[bZ,bJ]
   by_cases hP:dh m i
   ·rw[ae hP];unfold dh ep at hP
    repeat' split
    all_goals first|rfl|exact hr|omega
   ·rw[af hP];unfold dh ep at hP
    repeat' split
    all_goals first|rfl|exact hr|omega
  ·rw[aq (x:=0) ω,ah]
   simp only[bZ,bJ]
   by_cases hP:dh m i
   ·rw[ae hP];unfold dh ep at hP
    repeat' split
    all_goals first|rfl|exact hr|omega
   ·rw[af hP];unfold dh ep at hP
    repeat' split
    all_goals first|rfl|exact hr|omega
 ·unfold jL.l2 jL.dV
  rw[aq ω,ah]
theorem uU{m:aw}(hl:m.length≤100000)(hN:200000≤N):jM N m=some (dx m):=by
 unfold jM jM.b
 refine eo (F:=λn i=>jM.l2 N n m i) (dh m) (λn i r hi hp hr=> ?_) (λn=> ?_) N ω
 ·unfold jM.l2 jM.dV
  rw[au ω,aa,aB ω ω,aa,ar,ax (x:=(i:Int)+1) ω ω,an]
  by_cases h0:0<i
  ·have e:W .i64 ((i:Int)-1)=((i-1:Nat):Int):=by rw[ax ω ω];omega
   dsimp only
   rw[au (x:=0) ω,e,ar,aB (i:=((i-1:Nat):Int)) ω ω]
   simp only[bZ,bJ,aa]
   by_cases hP:dh m i
   ·rw[ae hP];unfold dh ep at hP
    repeat' split
    all_goals first|rfl|exact hr|omega
   ·rw[af hP];unfold dh ep at hP
    repeat' split
    all_goals first|rfl|exact hr|omega
  ·rw[aq (x:=0) ω]
   simp only[bZ,bJ,aa,ah]
   by_cases hP:dh m i
   ·rw[ae hP];unfold dh ep at hP
    repeat' split
    all_goals first|rfl|exact hr|omega
   ·rw[af hP];unfold dh ep at hP
    repeat' split
    all_goals first|rfl|exact hr|omega
 ·unfold jM.l2 jM.dV
  rw[aq ω,ah]
def kj(k n:Int):Prop:=(1≤k∧k≤4∧n=0)∨(k=5∧1≤n∧n≤24)∨(6≤k∧k≤7∧1≤n∧n≤12)
instance(k n:Int):Decidable (kj k n):=by unfold kj;infer_instance
theorem Jt(k n:Int):Ju N k n=some (decide (kj k n)):=by
 unfold Ju
 simp only[aQ,bJ]
 simp only[kV,eD]
 by_cases hP:kj k n
 ·rw[bn hP];unfold kj at hP
  repeat' split
  all_goals first|rfl|omega|(rw[bn ω])
 ·rw[bm hP];unfold kj at hP
  repeat' split
  all_goals first|rfl|omega|(rw[bm ω])
theorem LZ(k n:Int):L0 N k n=some (decide (kj k n)):=by
 have:=Jt N k n
 unfold Ju at this
 unfold L0
 exact this
def iR(a b c d:Int):Prop:=a<c∨(a=c∧b<d)
instance(a b c d:Int):Decidable (iR a b c d):=by unfold iR;infer_instance
def Er(k n a b:Int):Int:=if k=a then n-b else k-a
def CR(x:Int):Prop:= -1000000≤x∧x≤1000000
theorem CS{k n:Int}{r:CT}(h1:CR k)(h2:CR n)(h3:CR r.1)(h4:CR r.2.1):L1 N k n r=some (Er k n r.1 r.2.1):=by
 unfold L1 Er
 unfold CR at*
 rw[cond_not,aQ]
 split
 ·rw[ax ω ω]
 ·rw[ax ω ω]
theorem GY{k n:Int}{r:CT}(h1:CR k)(h2:CR n)(h3:CR r.1)(h4:CR r.2.1):PS N k n r=some (Er k n r.1 r.2.1):=CS N h1 h2 h3 h4
def iG(a b c:Int)(i:Nat)(d e:Int):Prop:=kj a b∧c≠0∧(0<i→iR d e a b)
instance(a b c:Int)(i:Nat)(d e:Int):Decidable (iG a b c i d e):=by unfold iG;infer_instance
def g9(l:bo)(i:Nat):Prop:=iG (l.getD i cH).1 (l.getD i cH).2.1 (l.getD i cH).2.2.1 i (l.getD (i-1) cH).1 (l.getD (i-1) cH).2.1
instance(l:bo):DecidablePred (g9 l):=λi=>by unfold g9;infer_instance
def j1(l:bo):Bool:=decide (∀j,j<l.length→g9 l j)&&true
theorem Fw{l:bo}(hl:l.length≤100000)(hN:200000≤N):uV N l=some (j1 l):=by
 unfold uV uV.b
 refine eo (F:=λn i=>uV.l2 N n l l (l.length:Int) i) (g9 l) (λn i r hi hp hr=> ?_) (λn=> ?_) N ω
 ·unfold uV.l2 uV.dV
  rw[au ω,aa,aB ω ω,aa,ar,ax (x:=(i:Int)+1) ω ω,an,Jt,al,cond_not,dO]
  by_cases hK:kj (l.getD i cH).1 (l.getD i cH).2.1
  ·rw[ae hK]
   by_cases h0:0<i
   ·have hq:=hp (i-1) ω
    have e:W .i64 ((i:Int)-1)=((i-1:Nat):Int):=by rw[ax ω ω];omega
    dsimp only
    rw[au (x:=0) ω,aa,e,ar,aB ω ω,aa]
    unfold g9 iG at hq
    have hq:=hq.1
    rw[CS N (by unfold kj at hK;unfold CR;omega) (by unfold kj at hK;unfold CR;omega) (by unfold kj at hq;unfold CR;omega) (by unfold kj at hq;unfold CR;omega),al,aQ,bJ]
    by_cases hP:g9 l i
    ·rw[ae hP];unfold g9 iG iR at hP;unfold Er
     have Es:=hP.2
     repeat' split
     all_goals first|rfl|exact hr|omega
    ·rw[af hP];unfold g9 iG iR at hP;unfold Er
     have Es:=λh=>hP ⟨hK,h⟩
     repeat' split
     all_goals first|rfl|exact hr|omega|(exfalso;exact Es ω)
   ·rw[aq (x:=0) ω,ah,aQ]
    by_cases hP:g9 l i
    ·rw[ae hP];unfold g9 iG at hP
     rw[af hP.2.1];exact hr
    ·rw[af hP];unfold g9 iG at hP
     have Es:=λh=>hP ⟨hK,h,λh=>absurd h h0⟩
     split
     ·rfl
     ·exact absurd (by assumption) Es
  ·rw[af hK,af (λh=>hK (by unfold g9 iG at h;exact h.1))]
 ·unfold uV.l2 uV.dV
  rw[aq ω,ah]
theorem CU{l:bo}(hl:l.length≤100000)(hN:200000≤N):uW N l=some (j1 l):=by
 unfold uW uW.b
 refine eo (F:=λn i=>uW.l2 N n l i) (g9 l) (λn i r hi hp hr=> ?_) (λn=> ?_) N ω
 ·unfold uW.l2 uW.dV
  rw[au ω,aa,aB ω ω,aa,ar,ax (x:=(i:Int)+1) ω ω,an,LZ,al,cond_not,dO]
  by_cases hK:kj (l.getD i cH).1 (l.getD i cH).2.1
  ·rw[ae hK]
   by_cases h0:0<i
   ·have e:W .i64 ((i:Int)-1)=((i-1:Nat):Int):=by rw[ax ω ω];omega
    dsimp only
    rw[au (x:=0) ω,e,ar,aB (i:=((i-1:Nat):Int)) ω ω]
    simp only[bZ,bJ,aQ,aa]
    by_cases hP:g9 l i
    ·rw[ae hP];unfold g9 iG iR at hP
     have Es:=hP.2
     repeat' split
     all_goals first|rfl|exact hr|omega
    ·rw[af hP];unfold g9 iG iR at hP
     have Es:=λh=>hP ⟨hK,h⟩
     repeat' split
     all_goals first|rfl|exact hr|omega|(exfalso;exact Es ω)
   ·rw[aq (x:=0) ω]
    simp only[bZ,bJ,aQ,aa,ah]
    by_cases hP:g9 l i
    ·rw[ae hP];unfold g9 iG at hP
     rw[af hP.2.1];exact hr
    ·rw[af hP];unfold g9 iG at hP
     have Es:=λh=>hP ⟨hK,h,λh=>absurd h h0⟩
     split
     ·rfl
     ·exact absurd (by assumption) Es
  ·rw[af hK,af (λh=>hK (by unfold g9 iG at h;exact h.1))];rfl
 ·unfold uW.l2 uW.dV
  rw[aq ω,ah]
def dD(a b:Int):Prop:=0≤a∧a≤24∧0≤b∧b<6
instance(a b:Int):Decidable (dD a b):=by unfold dD;infer_instance
theorem L2(a b:Int):L3 N a b=some (decide (dD a b)):=by
 unfold L3
 simp only[bJ]
 simp only[nA]
 by_cases hP:dD a b
 ·rw[bn hP];unfold dD at hP
  repeat' split
  all_goals first|rfl|omega|(rw[bn ω])
 ·rw[bm hP];unfold dD at hP
  repeat' split
  all_goals first|rfl|omega|(rw[bm ω])
def q9(q:Int):Prop:=q≠ -9223372036854775808
instance(q:Int):Decidable (q9 q):=by unfold q9;infer_instance
theorem uX(q:Int):Jv N q=some (decide (q9 q)):=by
 unfold Jv q9
 rw[eD]
 by_cases h:q= -9223372036854775808<;>simp[h]
def iH(a b c:Int)(i:Nat)(d e:Int):Prop:=dD a b∧c≠0∧q9 c∧(0<i→iR d e a b)
instance(a b c:Int)(i:Nat)(d e:Int):Decidable (iH a b c i d e):=by unfold iH;infer_instance
def hJ(l:bo)(i:Nat):Prop:=iH (l.getD i cH).1 (l.getD i cH).2.1 (l.getD i cH).2.2.1 i (l.getD (i-1) cH).1 (l.getD (i-1) cH).2.1
instance(l:bo):DecidablePred (hJ l):=λi=>by unfold hJ;infer_instance
def e8(l:bo):Bool:=decide (∀j,j<l.length→hJ l j)&&true
theorem xQ{l:bo}(hl:l.length≤100000)(hN:200000≤N):tO N l=some (e8 l):=by
 unfold tO tO.b
 refine eo (F:=λn i=>tO.l2 N n l l (l.length:Int) i) (hJ l) (λn i r hi hp hr=> ?_) (λn=> ?_) N ω
 ·unfold tO.l2 tO.dV
  rw[au ω,aa,aB ω ω,aa,ar,ax (x:=(i:Int)+1) ω ω,an,L2,al,cond_not,dO,uX,al,cond_not,dO]
  by_cases hK:dD (l.getD i cH).1 (l.getD i cH).2.1
  ·rw[ae hK]
   by_cases h0:0<i
   ·have hq:=hp (i-1) ω
    have e:W .i64 ((i:Int)-1)=((i-1:Nat):Int):=by rw[ax ω ω];omega
    dsimp only
    rw[au (x:=0) ω,aa,e,ar,aB ω ω,aa]
    unfold hJ iH at hq
    have hq:=hq.1
    rw[GY N (by unfold dD at hK;unfold CR;omega) (by unfold dD at hK;unfold CR;omega) (by unfold dD at hq;unfold CR;omega) (by unfold dD at hq;unfold CR;omega),al,aQ,bJ]
    by_cases hP:hJ l i
    ·rw[ae hP];unfold hJ iH iR at hP;unfold Er
     obtain⟨_,hP1,Es,hP3⟩:=hP
     rw[ae Es]
     repeat' split
     all_goals first|rfl|exact hr|omega
    ·rw[af hP];unfold hJ iH iR at hP;unfold Er
     have Es:=λh1 h2 h3=>hP ⟨hK,h1,h2,h3⟩
     repeat' split
     all_goals first|rfl|exact hr|(exfalso;exact Es (by assumption) (by assumption) ω)|omega
   ·rw[aq (x:=0) ω,ah,aQ]
    by_cases hP:hJ l i
    ·rw[ae hP];unfold hJ iH at hP
     rw[af hP.2.1,ae hP.2.2.1];exact hr
    ·rw[af hP];unfold hJ iH at hP
     have Es:=λh1 h2=>hP ⟨hK,h1,h2,λh=>absurd h h0⟩
     split
     ·rfl
     ·split
      ·exact(Es (by assumption) (by assumption)).elim
      ·rfl
  ·rw[af hK,af (λh=>hK (by unfold hJ iH at h;exact h.1))]
 ·unfold tO.l2 tO.dV
  rw[aq ω,ah]
theorem tP{l:bo}(hl:l.length≤100000)(hN:200000≤N):tQ N l=some (e8 l):=by
 unfold tQ tQ.b
 refine eo (F:=λn i=>tQ.l2 N n l i) (hJ l) (λn i r hi hp hr=> ?_) (λn=> ?_) N ω
 ·unfold tQ.l2 tQ.dV
  rw[au ω,aa,aB ω ω,aa,ar,ax (x:=(i:Int)+1) ω ω,an]
  by_cases h0:0<i
  ·have e:W .i64 ((i:Int)-1)=((i-1:Nat):Int):=by rw[ax ω ω];omega
   dsimp only
   rw[au (x:=0) (y:=(i:Int)) ω,e,ar,aB (i:=((i-1:Nat):Int)) ω ω]
   simp only[bZ,bJ,aQ,aa]
   by_cases hP:hJ l i
   ·rw[ae hP];unfold hJ iH iR q9 dD at hP
    repeat' split
    all_goals first|rfl|exact hr|omega
   ·rw[af hP];unfold hJ iH iR q9 dD at hP
    repeat' split
    all_goals first|rfl|exact hr|omega|(exfalso;exact hP ω)
  ·rw[aq (x:=0) (y:=(i:Int)) ω]
   simp only[bZ,bJ,aQ,aa,ah]
   by_cases hP:hJ l i
   ·rw[ae hP];unfold hJ iH iR q9 dD at hP
    repeat' split
    all_goals first|rfl|exact hr|omega
   ·rw[af hP];unfold hJ iH iR q9 dD at hP
    repeat' split
    all_goals first|rfl|exact hr|omega|(exfalso;exact hP ω)
 ·unfold tQ.l2 tQ.dV
  rw[aq ω,ah]
theorem gC(a b:Int)(y:Bool):cond (c4 a b) (some y) (some false)=some (decide (a≤b)&&y):=by
 rw[bJ];by_cases h:a≤b<;>simp[h]
theorem CV(a b:Int)(y:Bool):cond (aX a b) (some y) (some false)=some (decide (a<b)&&y):=by
 rw[bZ];by_cases h:a<b<;>simp[h]
theorem CW(a b:Int)(y:Bool):cond (bq a b) (some y) (some false)=some (decide (a=b)&&y):=by
 rw[aQ];by_cases h:a=b<;>simp[h]
theorem zN(a b:Int)(y z:Bool):cond (bq a b) (some y) (some z)=some ((decide (a=b)&&y)||(!decide (a=b)&&z)):=by
 rw[aQ];by_cases h:a=b<;>simp[h]
def tR(a b c d e f:Int):Prop:=(1≤a∧a≤1099511627776)∧(1≤b∧b≤24)∧(0≤c∧c<6)∧(d=1∨d=2)∧(1≤e∧e≤1000000000)∧(1≤f∧f≤1000000000000)
instance(a b c d e f:Int):Decidable (tR a b c d e f):=by unfold tR;infer_instance
def qK(o:Et):Prop:=tR o.1 o.2.1 o.2.2.1 o.2.2.2.1 o.2.2.2.2.1 o.2.2.2.2.2.1
instance(o:Et):Decidable (qK o):=by unfold qK;infer_instance
theorem PT(o:Et):L4 N o=some (decide (qK o)):=by
 unfold L4
 rw[kV o.2.2.2.2.2.1]
 rw[gC,gC,gC,CW,zN,CV,gC,gC,gC,gC,gC]
 congr 1
 rw[mW,im]
 unfold qK tR
 simp only[bg,js,mU,rT,Bu]
 omega
theorem zO(p:Int):WK N p=some (decide (1≤p∧p≤1000000000000)):=by
 unfold WK
 rw[kV p,gC];congr 1
 rw[mW];simp only[bg,rT]
theorem zP(p:Int):Ug N p=some (decide (1≤p∧p≤1000000000000)):=zO N p
theorem L5(o:Et):L6 N o=some (decide (qK o)):=by
 unfold L6
 rw[zP,al]
 repeat (first|rw[gC]|rw[CV]|rw[CW]|rw[zN])
 congr 1
 rw[mW,im]
 unfold qK tR
 simp only[bg,js,mU,rT,Bu]
 omega
def pK(i:Nat)(a b:Int):Prop:=0<i→a<b
instance(i:Nat)(a b:Int):Decidable (pK i a b):=by unfold pK;infer_instance
def n8(l:n9)(i:Nat):Prop:=qK (l.getD i vP)∧pK i (l.getD (i-1) vP).1 (l.getD i vP).1
instance(l:n9):DecidablePred (n8 l):=λi=>by unfold n8;infer_instance
def gD(l:n9):Bool:=decide (∀j,j<l.length→n8 l j)&&decide (l.length≤32)
theorem GZ{l:n9}(hl:l.length≤100000)(hN:200000≤N):vA N l=some (gD l):=by
 unfold vA vA.b
 refine eo (F:=λn i=>vA.l2 N n l l (l.length:Int) i) (n8 l) (λn i r hi hp hr=> ?_) (λn=> ?_) N ω
 ·unfold vA.l2 vA.dV
  rw[au ω,aa,aB ω ω,aa,ar,ax (x:=(i:Int)+1) ω ω,an,PT,al,cond_not,dO]
  by_cases hK:qK (l.getD i vP)
  ·rw[ae hK]
   by_cases h0:0<i
   ·have e:W .i64 ((i:Int)-1)=((i-1:Nat):Int):=by rw[ax ω ω];omega
    dsimp only
    rw[au (x:=0) ω,aa,e,ar,aB ω ω,aa,bJ]
    by_cases hP:n8 l i
    ·rw[ae hP,af (by have h2:=hP.2;unfold pK at h2;omega)];exact hr
    ·rw[af hP,ae]
     have h2: ¬pK i (l.getD (i-1) vP).1 (l.getD i vP).1:=λh=>hP ⟨hK,h⟩
     unfold pK at h2
     omega
   ·rw[aq (x:=0) ω,ah,ae ⟨hK,λh=>absurd h h0⟩];exact hr
  ·rw[af hK,af (λh=>hK h.1)]
 ·unfold vA.l2 vA.dV
  rw[aq ω,ah,kV]
  congr 1;rw[mV];omega
theorem Eu{l:n9}(hl:l.length≤100000)(hN:200000≤N):vB N l=some (gD l):=by
 unfold vB vB.b
 by_cases h32:32<l.length
 ·rw[au ω,aa];unfold gD
  rw[bm (p:=l.length≤32) ω,Bool.and_false]
 rw[aq ω,ah]
 have:=eo (F:=λn i=>vB.l4 N n l i) (e:=true) (n8 l) (λn i r hi hp hr=> ?_) (λn=> ?_) N (show l.length<N by omega)
 ·refine Eq.trans this ?_
  unfold gD
  rw[bn (p:=l.length≤32) ω]
 ·unfold vB.l4 vB.dF
  rw[au ω,aa,aB ω ω,aa,ar,ax (x:=(i:Int)+1) ω ω,an,L5,al,cond_not,dO]
  by_cases hK:qK (l.getD i vP)
  ·rw[ae hK]
   by_cases h0:0<i
   ·have e:W .i64 ((i:Int)-1)=((i-1:Nat):Int):=by rw[ax ω ω];omega
    dsimp only
    rw[au (x:=0) ω,aa,aa,e,ar,aB ω ω,aa,bJ]
    by_cases hP:n8 l i
    ·rw[ae hP,af (by have h2:=hP.2;unfold pK at h2;omega)];exact hr
    ·rw[af hP,ae]
     have h2: ¬pK i (l.getD (i-1) vP).1 (l.getD i vP).1:=λh=>hP ⟨hK,h⟩
     unfold pK at h2
     omega
   ·rw[aq (x:=0) ω,ah,ae ⟨hK,λh=>absurd h h0⟩];exact hr
  ·rw[af hK,af (λh=>hK h.1)]
 ·unfold vB.l4 vB.dF
  rw[aq ω,ah]
def fa(id:Int):aw→Int
 |[]=>0
 |x::t=>if x.1=id then x.2.1 else fa id t
def sX(id:Int):bN→lD×Bool
 |[]=>(aZ,false)
 |x::t=>if x.1=id then(x,true)else sX id t
theorem oa(id:Int)(x:mO)(t:aw):fa id (x::t)=if x.1=id then x.2.1 else fa id t:=rfl
theorem ra(id:Int)(x:lD)(t:bN):sX id (x::t)=if x.1=id then(x,true)else sX id t:=rfl
theorem CX{m:aw}(hl:m.length≤100000)(hN:200000≤N)(id:Int):tg.l4 N N id m (m.length:Int) 0=some (fa id m):=by
 refine zK m bE (λn i=>tg.l4 N n id m (m.length:Int) i) (λl=>some (fa id l)) (λn i hi hr=> ?_) (λn=> ?_) N ω
 ·unfold tg.l4 tg.dF
  rw[au ω,aa,aB ω ω,aa,ar,ax (x:=(i:Int)+1) ω ω,an,hr,aQ]
  rw[oa]
  split<;>rfl
 ·unfold tg.l4 tg.dF
  rw[aq ω,ah];rfl
theorem xR{m:aw}(hl:m.length≤100000)(hN:200000≤N)(id:Int):jN N m id=some (fa id m):=by
 unfold jN jN.b
 refine zK m bE (λn i=>jN.l2 N n m id i) (λl=>some (fa id l)) (λn i hi hr=> ?_) (λn=> ?_) N ω
 ·unfold jN.l2 jN.dV
  rw[au ω,aa,aB ω ω,aa,aa,ar,ax (x:=(i:Int)+1) ω ω,an,hr,aQ]
  rw[oa]
  split<;>rfl
 ·unfold jN.l2 jN.dV
  rw[aq ω,ah];rfl
def gE(m:aw)(id:Int):Int:=if dx m then fa id m else 0
theorem zQ{m:aw}(hl:m.length≤100000)(hN:200000≤N)(id:Int):tg N m id=some (gE m id):=by
 unfold tg tg.b gE
 rw[xP N hl hN,al,cond_not,CX N hl hN]
 cases dx m<;>rfl
theorem Ev{m:aw}(hl:m.length≤100000)(hN:200000≤N)(id:Int):PU N m id=some (gE m id):=by
 unfold PU gE
 rw[uU N hl hN,al,cond_not,xR N hl hN]
 cases dx m<;>rfl
theorem G0{m:bN}(hl:m.length≤100000)(hN:200000≤N)(id:Int):jO.l4 N N id aZ m (m.length:Int) 0=some (sX id m):=by
 refine zK m aZ (λn i=>jO.l4 N n id aZ m (m.length:Int) i) (λl=>some (sX id l)) (λn i hi hr=> ?_) (λn=> ?_) N ω
 ·unfold jO.l4 jO.dF
  rw[au ω,aa,aB ω ω,aa,ar,ax (x:=(i:Int)+1) ω ω,an,hr,aQ]
  rw[ra]
  split<;>rfl
 ·unfold jO.l4 jO.dF
  rw[aq ω,ah];rfl
theorem Jw{m:bN}(hl:m.length≤100000)(hN:200000≤N)(id:Int):j2 N m id=some (sX id m):=by
 unfold j2 j2.b
 refine zK m aZ (λn i=>j2.l2 N n m id aZ i) (λl=>some (sX id l)) (λn i hi hr=> ?_) (λn=> ?_) N ω
 ·unfold j2.l2 j2.dV
  rw[au ω,aa,aB ω ω,aa,aa,ar,ax (x:=(i:Int)+1) ω ω,an,hr,aQ]
  rw[ra]
  split<;>rfl
 ·unfold j2.l2 j2.dV
  rw[aq ω,ah];rfl
def eR(a b:Int):Prop:=a=b
instance(a b:Int):Decidable (eR a b):=by unfold eR;infer_instance
def qL(l:bN)(k:Nat)(m:Int):Prop:=eR (l.getD k aZ).2.2.1 1∧eR (l.getD k aZ).2.1 m
instance(l:bN)(k:Nat)(m:Int):Decidable (qL l k m):=by unfold qL;infer_instance
def gN(l:bN)(i:Nat)(m:Int):Bool:=(List.range i).any λk=>decide (qL l k m)
theorem CY{l:bN}{i:Nat}{m:Int}:gN l i m=true↔ ∃k,k<i∧qL l k m:=by
 unfold gN
 rw[wJ]
 simp only[o3,im]
theorem ob(l:bN)(i:Nat)(m:Int):gN l (i+1) m=(gN l i m||decide (qL l i m)):=by
 unfold gN
 rw[wM,List.any_append];simp
def iI(a b c d:Int):Prop:=(1≤a∧a≤24)∧(1≤b∧b≤12)∧(c=1∨c=2)∧(0≤d∧d≤1000000000000)
instance(a b c d:Int):Decidable (iI a b c d):=by unfold iI;infer_instance
def fJ(l:bN)(i:Nat):Prop:= ¬(eR (l.getD i aZ).2.2.1 1∧gN l i (l.getD i aZ).2.1=true)
instance(l:bN)(i:Nat):Decidable (fJ l i):=by unfold fJ;infer_instance
def sY(l:bN)(i:Nat):Prop:=iI (l.getD i aZ).1 (l.getD i aZ).2.1 (l.getD i aZ).2.2.1 (l.getD i aZ).2.2.2.1∧pK i (l.getD (i-1) aZ).1 (l.getD i aZ).1∧fJ l i
instance(l:bN):DecidablePred (sY l):=λi=>by unfold sY;infer_instance
def ka(l:bN):Bool:=decide (∀j,j<l.length→sY l j)&&true
def da(l:bN)(i:Nat):List Bool:=(List.range 13).map λ(m:Nat)=>gN l i (m:Int)
theorem G1{l:bN}{i:Nat}{b:Int}(h0:0≤b)(h1:b<13):(da l i).getD b.toNat false=gN l i b:=by
 unfold da
 rw[aY,rS,List.getElem?_range ω]
 show gN l i ((b.toNat:Nat):Int)=_
 rw[jg h0]
theorem CZ{l:bN}{i:Nat}(h: ¬eR (l.getD i aZ).2.2.1 1):da l (i+1)=da l i:=by
 unfold da
 refine gJ λm _=> ?_
 rw[ob,bm (λh'=>h h'.1),o5]
theorem Ew{l:bN}{i:Nat}(h:eR (l.getD i aZ).2.2.1 1)(h0:(0:Int)≤(l.getD i aZ).2.1):(da l i).set ((l.getD i aZ).2.1:Int).toNat true=da l (i+1):=by
 refine wL (by unfold da;simp) λk h1 h2=> ?_
 unfold da at*
 rw[List.getElem_set]
 simp only[wH,rQ]
 rw[ob]
 by_cases hk:((l.getD i aZ).2.1:Int).toNat=k
 ·rw[ae hk,bn (show qL l i (k:Int)from⟨h,by unfold eR;omega⟩),Bool.or_true]
 ·rw[af hk,bm (λh':qL l i (k:Int)=>hk (by have:=h'.2;unfold eR at this;omega)),o5]
theorem Fy{l:bN}(hl:l.length≤100000)(hN:200000≤N):ic N l=some (ka l):=by
 unfold ic ic.b
 have h0:(List.replicate 13 false:List Bool)=da l 0:=by unfold da gN;rfl
 rw[h0]
 have:=eo (F:=λn i=>ic.l3 N n l (da l i.toNat) l (l.length:Int) i) (e:=true) (sY l) (λn i r hi hp hr=> ?_) (λn=> ?_) N (show l.length<N by omega)
 ·exact this
 ·simp only[ar]at hr ⊢
  unfold ic.l3 ic.qJ
  rw[au ω,aa,aB ω ω,aa]
  simp only[ar]
  rw[ax (x:=(i:Int)+1) ω ω,an]
  by_cases hF:iI (l.getD i aZ).1 (l.getD i aZ).2.1 (l.getD i aZ).2.2.1 (l.getD i aZ).2.2.2.1
  ·have hF':=hF
   unfold iI at hF'
   have hT:cond (bq (l.getD i aZ).2.2.1 1) (cond (bB (l.getD i aZ).2.1 13) (cond (γ (da l i) (l.getD i aZ).2.1.toNat false) (some false) (cond (bB (l.getD i aZ).2.1 13) (ic.l3 N n l (List.set (da l i) (l.getD i aZ).2.1.toNat true) l (l.length:Int) ((i+1:Nat):Int)) none)) none) (ic.l3 N n l (da l i) l (l.length:Int) ((i+1:Nat):Int))=if fJ l i then r else some false:=by
    rw[aQ]
    by_cases hk:eR (l.getD i aZ).2.2.1 1
    ·have nf:=hk
     unfold eR at nf
     rw[ae nf,aB ω ω,aa,aa,G1 ω ω,Ew hk ω,hr]
     by_cases ho:gN l i (l.getD i aZ).2.1=true
     ·have iU: ¬fJ l i:=λh=>h ⟨hk,ho⟩
      rw[af iU,ho];rfl
     ·have iU:fJ l i:=λh=>ho h.2
      rw[ae iU,oU.2 ho];rfl
    ·have nf:=hk
     unfold eR at nf
     rw[af nf,ae (show fJ l i from λh=>hk h.1),←CZ hk,hr]
   have hP:sY l i↔pK i (l.getD (i-1) aZ).1 (l.getD i aZ).1∧fJ l i:=⟨λh=>h.2,λh=>⟨hF,h⟩⟩
   have hD:(if sY l i then r else some false)=if pK i (l.getD (i-1) aZ).1 (l.getD i aZ).1 then(if fJ l i then r else some false)else some false:=by
    by_cases h1:pK i (l.getD (i-1) aZ).1 (l.getD i aZ).1<;>by_cases h2:fJ l i<;>simp[hP,h1,h2]
   rw[hD]
   rw[hT]
   rw[aq ω,ah,aq ω,ah,aq ω,ah,aq ω,ah,aq (x:=(l.getD i aZ).2.2.2.1) ω,aq (x:=1000000000000) ω]
   simp only[ah]
   have hm: ∀{α:Type} (x:α) (y:α),cond (!bq (l.getD i aZ).2.2.1 1) (cond (!bq (l.getD i aZ).2.2.1 2) y x) x=x:=by
    intro α x y
    rcases hF'.2.2.1 with h|h
    ·rw[bD h];rfl
    ·rw[bD (y:=2) h];cases bq (l.getD i aZ).2.2.1 1<;>rfl
   rw[hm]
   by_cases h0:0<i
   ·have e:W .i64 ((i:Int)-1)=((i-1:Nat):Int):=by rw[ax ω ω];omega
    rw[au (x:=0) ω,aa,e,ar,aB ω ω,aa,bJ]
    by_cases h1:pK i (l.getD (i-1) aZ).1 (l.getD i aZ).1
    ·rw[ae h1,af (by unfold pK at h1;omega)]
    ·rw[af h1,ae (by unfold pK at h1;omega)]
   ·rw[aq (x:=0) ω,ah,ae (show pK i (l.getD (i-1) aZ).1 (l.getD i aZ).1 from λh=>absurd h h0)]
  ·rw[af (λh=>hF h.1)]
   unfold iI at hF
   generalize cond (bq (l.getD i aZ).2.2.1 1) (cond (bB (l.getD i aZ).2.1 13) (cond (γ (da l i) (l.getD i aZ).2.1.toNat false) (some false) (cond (bB (l.getD i aZ).2.1 13) (ic.l3 N n l (List.set (da l i) (l.getD i aZ).2.1.toNat true) l (l.length:Int) ((i+1:Nat):Int)) none)) none) (ic.l3 N n l (da l i) l (l.length:Int) ((i+1:Nat):Int))=t
   generalize cond (aX 0 (i:Int)) _ _=u
   simp only[cond_not,bZ,aQ]
   repeat' split
   all_goals first|rfl|omega
 ·unfold ic.l3 ic.qJ
  rw[aq ω,ah]
theorem tS(N:Nat)(K:bN→Int→Option Bool){l:bN}(hl:l.length≤100000){i:Nat}(hi:i<l.length): ∀(m n k:Nat),i-k≤m→m<n→k≤i→(eR (l.getD i aZ).2.2.1 1→gN l k (l.getD i aZ).2.1=false)→
  cY.l8 N K n l (i:Int) (l.getD i aZ) (k:Int)=if fJ l i then K l ((i+1:Nat):Int)else some false
 |m,0,k,_,hn,_,_=>ω
 |m,n+1,k,hm,hn,hk,h=>by
  unfold cY.l8 cY.G2
  by_cases vX:k<i
  ·rw[au ω,aa,aB ω ω,aa,aa,ar,ax (x:=(k:Int)+1) ω ω,an,aQ,aQ,aQ]
   by_cases h1:eR (l.getD i aZ).2.2.1 1
   ·have jY:=h1
    unfold eR at jY
    rw[ae jY]
    by_cases h2:qL l k (l.getD i aZ).2.1
    ·have qI:=h2
     unfold qL eR at qI
     have iU: ¬fJ l i:=λh3=>h3 ⟨h1,CY.2 ⟨k,vX,h2⟩⟩
     rw[ae qI.1,ae qI.2,af iU]
    ·have vy:=tS N K hl hi (m-1) n (k+1) ω ω ω (λ_=>by rw[ob,h h1,bm h2];rfl)
     split
     ·split
      ·rename_i h3 h4
       exact absurd (show qL l k (l.getD i aZ).2.1 from⟨h3,h4⟩) h2
      ·exact vy
     ·exact vy
   ·have jY:=h1
    unfold eR at jY
    rw[af jY]
    exact tS N K hl hi (m-1) n (k+1) ω ω ω (λh=>absurd h h1)
  ·have:k=i:=ω
   subst this
   have iU:fJ l k:=λh3=>by rw[h h3.1]at h3;exact nomatch h3.2
   rw[aq ω,ah,ae iU,ax (x:=(k:Int)+1) ω ω];rfl
set_option maxHeartbeats 2000000 in
theorem C0{l:bN}(hl:l.length≤100000)(hN:200000≤N):cY N l=some (ka l):=by
 unfold cY cY.b
 refine eo (F:=λn i=>cY.l2 N n l i) (sY l) (λn i r hi hp hr=> ?_) (λn=> ?_) N ω
 ·unfold cY.l2 cY.dV
  have hT:cY.j7 N (cY.l2 N n) l (i:Int) (l.getD i aZ)=if fJ l i then r else some false:=by
   unfold cY.j7 cY.Jj
   have:=tS N (cY.l2 N n) hl hi i N 0 ω ω ω (λ_=>rfl)
   rw[hr]at this
   exact this
  rw[au ω,aa,aB ω ω,aa]
  simp only[ar]
  rw[hT]
  have hD:(if sY l i then r else some false)=if iI (l.getD i aZ).1 (l.getD i aZ).2.1 (l.getD i aZ).2.2.1 (l.getD i aZ).2.2.2.1∧pK i (l.getD (i-1) aZ).1 (l.getD i aZ).1 then(if fJ l i then r else some false)else some false:=by
   unfold sY
   by_cases h1:pK i (l.getD (i-1) aZ).1 (l.getD i aZ).1<;>by_cases h2:fJ l i<;>by_cases h3:iI (l.getD i aZ).1 (l.getD i aZ).2.1 (l.getD i aZ).2.2.1 (l.getD i aZ).2.2.2.1<;>simp[h1,h2,h3]
  rw[hD]
  generalize (if fJ l i then r else some false)=t
  by_cases h0:0<i
  ·have e:W .i64 ((i:Int)-1)=((i-1:Nat):Int):=by rw[ax ω ω];omega
   rw[au (x:=0) (y:=(i:Int)) ω,e]
   simp only[aa,ar]
   rw[aB (i:=((i-1:Nat):Int)) ω ω]
   simp only[cond_not,bZ,bJ,aQ,aa]
   by_cases hP:iI (l.getD i aZ).1 (l.getD i aZ).2.1 (l.getD i aZ).2.2.1 (l.getD i aZ).2.2.2.1∧pK i (l.getD (i-1) aZ).1 (l.getD i aZ).1
   ·rw[ae hP];unfold iI pK at hP
    repeat' split
    all_goals first|rfl|omega
   ·rw[af hP];unfold iI pK at hP
    repeat' split
    all_goals first|rfl|omega
  ·rw[aq (x:=0) (y:=(i:Int)) ω]
   simp only[cond_not,bZ,bJ,aQ,aa,ah]
   by_cases hP:iI (l.getD i aZ).1 (l.getD i aZ).2.1 (l.getD i aZ).2.2.1 (l.getD i aZ).2.2.2.1∧pK i (l.getD (i-1) aZ).1 (l.getD i aZ).1
   ·rw[ae hP];unfold iI pK at hP
    repeat' split
    all_goals first|rfl|omega
   ·rw[af hP];unfold iI pK at hP
    repeat' split
    all_goals first|rfl|omega
 ·unfold cY.l2 cY.dV
  rw[aq ω,ah]
end VM
end
section
namespace VM
open Go VM.F
variable(N:Nat)
def gk(a:bN)(id:Int):lD×Bool:=if ka a then sX id a else(aZ,false)
theorem L7{a:bN}(hl:a.length≤100000)(hN:200000≤N)(id:Int):jO N a id=some (gk a id):=by
 unfold jO jO.b gk
 rw[Fy N hl hN,al,cond_not,G0 N hl hN]
 cases ka a<;>rfl
theorem Jx{a:bN}(hl:a.length≤100000)(hN:200000≤N)(id:Int):L8 N a id=some (gk a id):=by
 unfold L8 gk
 rw[C0 N hl hN,al,cond_not,Jw N hl hN]
 cases ka a<;>rfl
def fZ(m:aw)(a:bN)(i:Nat):Prop:= ¬eR (fa (a.getD i aZ).2.1 m) 0
instance(m:aw)(a:bN):DecidablePred (fZ m a):=λi=>by unfold fZ;infer_instance
def pL(m:aw)(a:bN):Bool:=dx m&&(ka a&&(decide (∀j,j<a.length→fZ m a j)&&true))
theorem L9{m:aw}{a:bN}(hm:m.length≤100000)(hl:a.length≤100000)(hN:200000≤N):vC N m a=some (pL m a):=by
 unfold vC vC.b pL
 rw[xP N hm hN,al,cond_not,Fy N hl hN,al,cond_not]
 cases hM:dx m
 ·rfl
 cases ka a
 ·rfl
 rw[ir,ir,aa,aa]
 refine eo (F:=λn i=>vC.l4 N n m a (a.length:Int) i) (fZ m a) (λn i r hi hp hr=> ?_) (λn=> ?_) N ω
 ·unfold vC.l4 vC.dF
  rw[au ω,aa,aB ω ω,aa,ar,ax (x:=(i:Int)+1) ω ω,an,zQ N hm hN,al,aQ]
  unfold gE
  rw[hM,ae rfl]
  by_cases hP:fZ m a i
  ·rw[ae hP,af (show ¬((fa (a.getD i aZ).2.1 m:Int)=0)from λh=>hP h)];exact hr
  ·rw[af hP,ae (show(fa (a.getD i aZ).2.1 m:Int)=0 by unfold fZ at hP;exact Decidable.not_not.1 hP)]
 ·unfold vC.l4 vC.dF
  rw[aq ω,ah]
theorem Jy{m:aw}{a:bN}(hm:m.length≤100000)(hl:a.length≤100000)(hN:200000≤N):vD N m a=some (pL m a):=by
 unfold vD vD.b pL
 rw[uU N hm hN,al,cond_not,C0 N hl hN,al,cond_not]
 cases hM:dx m
 ·rfl
 cases ka a
 ·rfl
 rw[ir,ir,aa,aa]
 refine eo (F:=λn i=>vD.l4 N n m a i) (fZ m a) (λn i r hi hp hr=> ?_) (λn=> ?_) N ω
 ·unfold vD.l4 vD.dF
  rw[au ω,aa,aB ω ω,aa,ar,ax (x:=(i:Int)+1) ω ω,an,xR N hm hN,al,aQ]
  by_cases hP:fZ m a i
  ·rw[ae hP,af (show ¬((fa (a.getD i aZ).2.1 m:Int)=0)from λh=>hP h)];exact hr
  ·rw[af hP,ae (show(fa (a.getD i aZ).2.1 m:Int)=0 by unfold fZ at hP;exact Decidable.not_not.1 hP)]
 ·unfold vD.l4 vD.dF
  rw[aq ω,ah]
theorem Jz(a b:aM):mg (.pair (.int .i64) (.pair (.int .u64) .unit)) a b=(bq a.1 b.1&&(bq a.2.1 b.2.1&&true)):=rfl
theorem FA{u v:Int}:Uh N (bA u) (bA v)=some (nW (u-v)):=by
 unfold Uh
 rw[Jz]
 unfold bA
 dsimp only
 unfold nW
 rw[bZ,aQ,bZ,jv,eD,eD]
 have hu:u=u/18446744073709551616*18446744073709551616+u%18446744073709551616:=ω
 have hv:v=v/18446744073709551616*18446744073709551616+v%18446744073709551616:=ω
 by_cases h1:u/18446744073709551616<v/18446744073709551616
 ·rw[ae h1];congr 1;split<;>(try split)<;>omega
 ·rw[af h1]
  by_cases h2:u/18446744073709551616=v/18446744073709551616
  ·rw[ae h2,bn h2,ir]
   by_cases h3:u%18446744073709551616<v%18446744073709551616
   ·rw[ae h3];congr 1;split<;>(try split)<;>omega
   ·rw[af h3]
    by_cases h4:u%18446744073709551616=v%18446744073709551616
    ·rw[bn h4,aa];congr 1;split<;>(try split)<;>omega
    ·rw[bm h4,ah];congr 1;split<;>(try split)<;>omega
  ·rw[af h2,bm h2,o4,ah];congr 1;split<;>(try split)<;>omega
theorem Ex:bA 0=bE:=rfl
theorem xS{u:Int}:SD N (bA u)=some (nW u):=by
 unfold SD
 rw[←Ex,FA,al,wS]
end VM
end
