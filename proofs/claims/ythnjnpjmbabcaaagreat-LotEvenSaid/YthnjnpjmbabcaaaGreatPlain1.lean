/- A part of the proof of LotEven of layer 23: what the functions compute, in plain words. -/
import Derived.Test.YthnjnpjmbabcaaaGreatPlain0
import Derived.Test.YthnjnpjmbabcaaaGreatText
set_option linter.all false
open List renaming getD→γ
section
namespace VM
open Go VM.F
variable(N:Nat)
theorem aag{x:Int}(h0:0≤x)(h1:x<18446744073709551616):mX .and .u64 x 1=x%2:=by
 rw[Nt h0 h1 ω ω]
 have:=Md x.toNat 1
 rw[show((1:Int).toNat)=2^1-1 from rfl,this]
 omega
theorem IE{l:List Int}{k:Nat}(x:Int)(h:k<l.length):cR ((l.set k x).drop k)=x+4294967296*cR (l.drop (k+1)):=by
 rw[kW,kG l x h,List.drop_set_of_lt ω]
theorem Jq(N:Nat){d:List Int}(hd:VD d)(hl:d.length≤100000)(hN:4000000≤N): ∀(k n:Nat) (out:List Int) (c:Int),k≤d.length→k<n→VD out→out.length=d.length→c=cR (d.drop k)%2→cR (out.drop k)=cR (d.drop k)/2→
  pX.l4 N n d out c ((k:Int)-1)=some (lP (cR d/2).toNat,cR d%2)
 |k,0,out,c,_,hn,_,_,_,_=>ω
 |0,n+1,out,c,_,_,ho,Jg,hc,hv=>by
  unfold pX.l4 pX.ew
  simp (disch:=omega) only[aP,aK,dC,dn,cZ,da,aY,ch,cC,db,ay,cz,aj,au,bR,cJ,aw,aF,cT,ag,aX,aJ,bs,bP,aU,bY,KO N ho ω ω]
  rw[c9,c9]at hv
  rw[c9]at hc
  rw[hv,hc]
 |k+1,n+1,out,c,hk,hn,ho,Jg,hc,hv=>by
  unfold pX.l4 pX.ew
  have e:((k+1:Nat):Int)-1=(k:Int):=ω
  obtain⟨g0,g1⟩:=hd.getD k
  have hn0:=kD (hd.drop (k+1))
  have e1:=kW d k
  simp only[e,aF]
  rw[afT ω]
  generalize hx:d.getD k 0=x at*
  rw[cz (x:=c*4294967296) ω ω,T8 g0 g1 ω ω]
  simp (disch:=omega) only[aP,aK,dC,dn,cZ,da,aY,ch,cC,db,ay,cz,aj,au,bR,cJ,aw,aF,cT,ag,aX,aJ,bs,bP,aU,bY,am4,aag]
  refine Jq N hd hl hN k n (out.set k ((x+c*4294967296)/2)) ((x+c*4294967296)%2) ω ω (ho.set _ ω ω) (by rw[bs];exact Jg) (by rw[e1,hc];omega) ?_
  rw[IE _ ω,hv,e1]
  omega
theorem aah(hN:4000000≤N)(m:Nat)(h:(lP m).length≤100000):pX N (lP m)=some (lP (m/2),((m%2:Nat):Int)):=by
 unfold pX pX.b
 simp (disch:=omega) only[aP,aK,dC,dn,cZ,da,aY,ch,cC,db,ay,cz,aj,au,bR,cJ,aw,aF,cT,ag,aX,aJ,bs,bP,aU,bY]
 have:=Jq N (kE m) h hN (lP m).length N (List.replicate (lP m).length 0) 0 (aI _) ω (VD.afS _) (by simp) (by rw[oX];rfl) (by rw[oX,jN (by simp)];rfl)
 rw[g7]at this
 rw[this]
 congr 2
def bin(n:Nat):List Int:=if n=0 then []else((n%2:Nat):Int)::bin (n/2)
termination_by n
decreasing_by omega
theorem EP{n:Nat}(h:n≠0):bin n=((n%2:Nat):Int)::bin (n/2):=by rw[bin];simp[h]
theorem xm:bin 0=[]:=by rw[bin];rfl
def A4:List Int→Int
 |[]=>0
 |d::r=>d+2*A4 r
theorem aai(n:Nat):A4 (bin n)=n:=by
 induction n using Nat.strongRecOn with
 |_ n ih=>
  by_cases h:n=0
  ·subst h;rw[xm];rfl
  ·rw[EP h,A4,ih _ ω];omega
theorem aaj(n:Nat): ∀d∈bin n,d=0∨d=1:=by
 induction n using Nat.strongRecOn with
 |_ n ih=>
  by_cases h:n=0
  ·subst h;rw[xm];intro d hd;cases hd
  ·rw[EP h];intro d hd
   rcases bm.1 hd with rfl|hd
   ·omega
   ·exact ih _ ω d hd
theorem aak(k:Nat): ∀n,n<2^k→(bin n).length≤k:=by
 induction k with
 |zero=>
  intro n h;have:n=0:=by simpa using h
  subst this;rw[xm];simp
 |succ k ih=>
  intro n h
  by_cases hn:n=0
  ·subst hn;rw[xm];simp
  ·rw[EP hn,aU]
   have:=ih (n/2) (by rw[o8]at h;omega)
   omega
theorem WZ{n k:Nat}(h:n<4294967296^k):(bin n).length≤32*k:=aak _ _ (kQ h (by rw[Nat.pow_mul];exact aI _))
theorem Jr(N:Nat)(hN:4000000≤N)(x2 x3 x4 x5:aH): ∀(m n:Nat) (t:Nat) (bits:List Int),(bin t).length≤m→m<n→(lP t).length≤100000→bits.length+(bin t).length≤4000000→
  iE.l3 N n x2 x3 x4 x5 bits (lP t)=iE.l9 N N x2 x3 x4 x5 (bits++bin t) (false,([],())) (false,([],())) (((bits++bin t).length:Int)-1)
 |m,0,t,bits,_,hn,_,_=>ω
 |m,n+1,t,bits,hm,hn,hd,hb=>by
  unfold iE.l3 iE.lD
  by_cases ht:t=0
  ·subst ht
   rw[kC,xm]
   simp (disch:=omega) only[aP,aK,dC,dn,cZ,da,aY,ch,cC,db,ay,cz,aj,au,bR,cJ,aw,aF,cT,ag,aX,aJ,bs,bP,aU,bY,cN]
  ·have D7:0<(lP t).length:=by
    apply oK.2
    intro h;rw[AY]at h;omega
   rw[EP ht]at hm hb ⊢
   rw[aU]at hm hb
   have hdl:(lP (t/2)).length≤100000:=by
    have:=KN _ t hd
    exact xZ _ _ (Nat.lt_of_le_of_lt (Nat.div_le_self _ _) this)
   simp (disch:=omega) only[aP,aK,dC,dn,cZ,da,aY,ch,cC,db,ay,cz,aj,au,bR,cJ,aw,aF,cT,ag,aX,aJ,bs,bP,aU,bY,aah N hN t hd]
   rw[Jr N hN x2 x3 x4 x5 (m-1) n (t/2) (bits++[((t%2:Nat):Int)]) ω ω hdl (by simp;omega)]
   simp
theorem T9(l:List Int){i:Nat}(h:i<l.length):A4 (l.drop i)=l.getD i 0+2*A4 (l.drop (i+1)):=by
 rw[nc h,A4,aZ,bo h];rfl
theorem Dp: ∀{l:List Int},(∀d∈l,d=0∨d=1)→0≤A4 l
 |[],_=>ec _
 |d::r,h=>by
  have h1:=Dp (l:=r) λx hx=>h x (a6 _ hx)
  have:=h d (bu ..)
  simp only[A4];omega
theorem vp: ∀(l:List Int) (i:Nat),(∀d∈l,d=0∨d=1)→A4 (l.drop i)≤A4 l
 |l,0,_=>ec _
 |[],i+1,_=>ec _
 |d::r,i+1,h=>by
  have h1:=vp r i λx hx=>h x (a6 _ hx)
  have h2:=Dp (l:=r) λx hx=>h x (a6 _ hx)
  have:=h d (bu ..)
  rw[List.drop_succ_cons,A4];omega
theorem um(N:Nat)(hN:4000000≤N)(a d:Int)(hd:0<d)(D9:Fit a 80000)(Iy:Fit d 80000)(x4 x5:aH){bits:List Int}(hb: ∀x∈bits,x=0∨x=1)(hbv:A4 bits=a.natAbs)(wu:bits.length≤4000000):
  ∀(k n:Nat) (q r:Int),k≤bits.length→k<n→0≤q→0≤r→r<d→A4 (bits.drop k)=q*d+r→
  iE.l9 N n (c5 a) (c5 d) x4 x5 bits (c5 q) (c5 r) ((k:Int)-1)=some (c5 (a/d),c5 (a%d))
 |k,0,q,r,_,hn,_,_,_,_=>ω
 |0,n+1,q,r,_,_,hq,hr,kd,hv=>by
  unfold iE.l9 iE.zA
  rw[c9,hbv]at hv
  have hqa:q≤a.natAbs:=by
   have:q*1≤q*d:=qi ω hq
   omega
  have fq:Fit q 900000:=(D9.of_le (u:=q) ω).mono ω
  have fr:Fit r 900000:=(Iy.of_le (u:=r) ω).mono ω
  have f1:Fit 1 900000:=(Fit.i64 (v:=1) ω ω).mono ω
  have fq':Fit (-q) 900000:=fq.neg
  have fd:Fit d 900000:=Iy.mono ω
  rw[dn ω,au]
  by_cases ha:a<0
  ·have VY:(a.natAbs:Int)= -a:=ω
   have e0:(c5 a).1=true:=bq ha
   simp only[e0,bR,au,qx,aw]
   by_cases MO:r=0
   ·subst MO
    rw[cZ (by unfold wk;simp),aj]
    simp only[oq N hN fq,aw]
    have e1:a=d*(-q):=by rw[tV,dZ];omega
    have e2:a/d= -q:=by rw[e1,Mi _ ω]
    have e3:a%d=0:=by rw[e1,Int.mul_emod_right]
    rw[e2,e3]
   ·rw[da (by unfold wk;rw[ah ω,ak ω];omega),au]
    simp (disch:=omega) only[oq N hN fq,dp N ω (show-9223372036854775808≤(1:Int)by omega) ω,aw,vn N hN fq' f1,vn N hN fd fr]
    have e1:a=(d-r)+d*(-q-1):=by rw[wP,tV,Ah,dZ];omega
    have e2:a/d= -q-1:=by
     rw[e1,wD _ _ ω,zO ω ω];omega
    have e3:a%d=d-r:=by rw[e1,zI,Fp ω ω]
    rw[e2,e3]
  ·have VY:(a.natAbs:Int)=a:=ω
   have e0:(c5 a).1=false:=bK ha
   simp only[e0,cJ,aj]
   have e1:a=r+d*q:=by rw[dZ];omega
   have e2:a/d=q:=by rw[e1,wD _ _ ω,zO hr kd];omega
   have e3:a%d=r:=by rw[e1,zI,Fp hr kd]
   rw[e2,e3]
 |k+1,n+1,q,r,hk,hn,hq,hr,kd,hv=>by
  unfold iE.l9 iE.zA
  have e:((k+1:Nat):Int)-1=(k:Int):=ω
  have hle:=vp bits k hb
  have ve:=vp bits (k+1) hb
  rw[hbv]at hle ve
  have hqa:q≤a.natAbs:=by
   have:q*1≤q*d:=qi ω hq
   omega
  have fq:Fit q 80000:=D9.of_le ω
  have fr:Fit r 80000:=Iy.of_le ω
  have fqq:=fq.add fq
  have frr:=fr.add fr
  have f1:Fit 1 80000:=(Fit.i64 (v:=1) ω ω).mono ω
  have hvk:=T9 bits (i:=k) ω
  have Ea:bits.getD k 0=0∨bits.getD k 0=1:=by
   rw[aZ,bo (show k<bits.length by omega)]
   exact hb _ (fg _)
  rw[e,dC ω,aj]
  have e2q:(q+q)*d=2*(q*d):=by rw[←Int.two_mul,gj]
  have anh:(q+q+1)*d=2*(q*d)+d:=by rw[iN,e2q,pa]
  simp (disch:=omega) only[aP,aK,dC,dn,cZ,da,aY,ch,cC,db,ay,cz,aj,au,bR,cJ,aw,aF,cT,ag,aX,aJ,bs,bP,aU,bY,jR N hN (fq.mono ω) (fq.mono ω),jR N hN (fr.mono ω) (fr.mono ω),dp N ω (show-9223372036854775808≤(1:Int)by omega) ω]
  rcases Ea with Ea|Ea
  ·rw[Ea,da ω,au]
   simp only[QC N hN (frr.mono ω) (Iy.mono ω),aw]
   by_cases Vp:d≤r+r
   ·rw[dC (by unfold wk;split<;>(try split)<;>omega),aj]
    simp only[vn N hN (frr.mono ω) (Iy.mono ω),jR N hN (fqq.mono ω) (f1.mono ω),aw]
    refine um N hN a d hd D9 Iy x4 x5 hb hbv wu k n _ _ ω ω ω ω ω ?_
    rw[hvk,Ea,hv,anh];omega
   ·rw[dn (by unfold wk;rw[ak ω];omega),au]
    refine um N hN a d hd D9 Iy x4 x5 hb hbv wu k n _ _ ω ω ω ω ω ?_
    rw[hvk,Ea,hv,e2q];omega
  ·rw[Ea,cZ rfl,aj]
   have ani:=frr.add (f1.mono (show 80000≤80001 by omega))
   simp only[jR N hN (frr.mono ω) (f1.mono ω),QC N hN (ani.mono ω) (Iy.mono ω),aw]
   by_cases Vp:d≤r+r+1
   ·rw[dC (by unfold wk;split<;>(try split)<;>omega),aj]
    simp only[vn N hN (ani.mono ω) (Iy.mono ω),jR N hN (fqq.mono ω) (f1.mono ω),aw]
    refine um N hN a d hd D9 Iy x4 x5 hb hbv wu k n _ _ ω ω ω ω ω ?_
    rw[hvk,Ea,hv,anh];omega
   ·rw[dn (by unfold wk;rw[ak ω];omega),au]
    refine um N hN a d hd D9 Iy x4 x5 hb hbv wu k n _ _ ω ω ω ω ω ?_
    rw[hvk,Ea,hv,e2q];omega
theorem Sk(hN:5000000≤N){a d:Int}(hd:0<d)(D9:Fit a 80000)(Iy:Fit d 80000):iE N (c5 a) (c5 d)=some (c5 (a/d),c5 (a%d)):=by
 unfold iE iE.b
 have wu:(bin a.natAbs).length≤32*80000:=WZ D9
 have h1:=Jr N ω (c5 a) (c5 d) (false,([],())) (false,([],())) (bin a.natAbs).length N a.natAbs [] (aI _) ω (ca D9.len ω) (by simp;omega)
 rw[cM]at h1
 refine h1.trans ?_
 rw[←kX]
 exact um N ω a d hd D9 Iy _ _ (aaj _) (aai _) ω (bin a.natAbs).length N 0 0 (aI _) ω ω ω hd (by rw[oX];simp[A4])
def cO(v:Int):bI:=(v/18446744073709551616,(v%18446744073709551616,()))
theorem wmk{a b v:Int}(h1:a=v/18446744073709551616)(h2:b=v%18446744073709551616):((a,(b,())):bI)=cO v:=by
 unfold cO;rw[h1,h2]
theorem NM{a b v:Int}{α:Type}{c:α}(h1:a=v/18446744073709551616)(h2:b=v%18446744073709551616):(some (((a,(b,())):bI),c):Option (bI×α))=some (cO v,c):=by
 rw[wmk h1 h2]
theorem W0{a b c d:Int}(h1:a=c)(h2:b=d):(some (a,b):Option (Int×Int))=some (c,d):=by rw[h1,h2]
theorem Gr{hi lo:Int}(h0:0≤hi)(h1:hi<9223372036854775808)(l0:0≤lo)(l1:lo<18446744073709551616):rM N false hi lo=some (cO (hi*18446744073709551616+lo),true):=by
 unfold rM rM.b
 rw[cJ,aj,dn ω,au,ay ω ω]
 exact NM ω ω
theorem vq{hi lo:Int}(h0:0≤hi)(l0:0≤lo)(l1:lo<18446744073709551616)(hm:hi*18446744073709551616+lo≤170141183460469231731687303715884105728):rM N true hi lo=some (cO (-(hi*18446744073709551616+lo)),true):=by
 unfold rM rM.b
 have hj:rM.j7 N hi lo ct=some (cO (-(hi*18446744073709551616+lo)),true):=by
  unfold rM.j7 rM.Qc
  rw[ph N ω ω l0 l1 ω ω,aw]
  by_cases hl:lo=0
  ·subst hl
   rw[ah ω]
   rw[ph N ω ω h0 ω ω ω,aw,gU]
   exact NM (by split<;>omega) ω
  ·rw[ak ω]
   rw[ph N ω ω h0 ω ω ω,aw,gU]
   exact NM (by split<;>omega) ω
 rw[bR,au,aK ω,au]
 by_cases he:hi=9223372036854775808
 ·rw[cZ he,aj,aK ω,au];exact hj
 ·rw[da he,au];exact hj
theorem IF{a b:Int}(a0: -9223372036854775808≤a)(a1:a<9223372036854775808)(b0: -9223372036854775808≤b)(b1:b<9223372036854775808):
  0≤(a.natAbs:Int)*b.natAbs∧(a.natAbs:Int)*b.natAbs≤85070591730234615865843651857942052864:=by
 have:=mul_lt (m:=9223372036854775808) (n:=9223372036854775808) (show 0≤(a.natAbs:Int)by omega) (show 0≤(b.natAbs:Int)by omega) ω ω
 omega
theorem KQ{a b:Int}(a0: -9223372036854775808≤a)(a1:a<9223372036854775808)(b0: -9223372036854775808≤b)(b1:b<9223372036854775808):F63 N a b=some (cO (a*b)):=by
 unfold F63
 have hm:=IF a0 a1 b0 b1
 simp only[AX N a0 a1,AX N b0 b1,aw,Nu N (show 0≤(a.natAbs:Int)by omega) ω (show 0≤(b.natAbs:Int)by omega) ω,uk]
 obtain⟨m,hme⟩: ∃m,m=(a.natAbs:Int)*b.natAbs:=⟨_,rfl⟩
 rw[←hme]at hm ⊢
 have hd:m/18446744073709551616*18446744073709551616+m%18446744073709551616=m:=ω
 by_cases h1:a<0<;>by_cases h2:b<0
 ·rw[aP h1,aP h2,z6,bR,Gr N ω ω ω ω,aw,hd]
  have:m=a*b:=by rw[hme,show(a.natAbs:Int)= -a from by omega,show(b.natAbs:Int)= -b from by omega,Int.neg_mul_neg]
  rw[this]
 ·rw[aP h1,aK (x:=b) ω,show(!(true==false))=true from rfl,vq N ω ω ω ω,aw,hd]
  have:m= -(a*b):=by rw[hme,show(a.natAbs:Int)= -a from by omega,show(b.natAbs:Int)=b from by omega,Int.neg_mul]
  rw[this,Int.neg_neg]
 ·rw[aK (x:=a) ω,aP h2,show(!(false==true))=true from rfl,vq N ω ω ω ω,aw,hd]
  have:m= -(a*b):=by rw[hme,show(a.natAbs:Int)=a from by omega,show(b.natAbs:Int)= -b from by omega,tV]
  rw[this,Int.neg_neg]
 ·rw[aK (x:=a) ω,aK (x:=b) ω,z6,bR,Gr N ω ω ω ω,aw,hd]
  have:m=a*b:=by rw[hme,show(a.natAbs:Int)=a from by omega,show(b.natAbs:Int)=b from by omega]
  rw[this]
theorem W1{v:Int}(v0: -170141183460469231731687303715884105728≤v)(v1:v<170141183460469231731687303715884105728):aal N (cO v)=some ((v.natAbs:Int)/18446744073709551616,(v.natAbs:Int)%18446744073709551616):=by
 unfold aal cO
 dsimp only
 by_cases h:0≤v
 ·rw[dC ω,aj,cz ω ω]
  exact W0 ω ω
 ·rw[dn ω,au,ph N ω ω ω ω ω ω,aw]
  dsimp only
  rw[nA]
  by_cases hl:v%18446744073709551616=0
  ·rw[ah ω,ph N ω ω ω ω ω ω,aw]
   exact W0 ω ω
  ·rw[ak ω,ph N ω ω ω ω ω ω,aw]
   exact W0 ω ω
theorem aam{m d:Int}(hd:0<d)(hm:0≤m):m/d=m/18446744073709551616/d*18446744073709551616+(m/18446744073709551616%d*18446744073709551616+m%18446744073709551616)/d∧
  m%d=(m/18446744073709551616%d*18446744073709551616+m%18446744073709551616)%d:=by
 have e:=sP (m/18446744073709551616) d
 have e0:m=(m/18446744073709551616%d*18446744073709551616+m%18446744073709551616)+d*(m/18446744073709551616/d*18446744073709551616):=by
  rw[←gj];omega
 constructor
 ·conv=>lhs;rw[e0]
  rw[wD _ _ ω];omega
 ·conv=>lhs;rw[e0]
  rw[zI]
theorem aan(hN:100≤N){v d:Int}(v0: -170141183460469231731687303715884105728≤v)(v1:v<170141183460469231731687303715884105728)(d0:0<d)(d1:d<9223372036854775808):
  uq N (cO v) d=some (cO (v/d),v%d,true):=by
 unfold uq uq.b
 rw[aK ω,au,W1 N v0 v1,aw,cz (x:=d) ω ω]
 dsimp only
 obtain⟨m,hm⟩: ∃m:Int,m=v.natAbs:=⟨_,rfl⟩
 rw[←hm]
 have hmd:=oL (m/18446744073709551616) d0
 have asT:=o4 (m/18446744073709551616) (show d≠0 by omega)
 rw[Nz N hN ω d0 ω ω ω,aw,wN,tT]
 dsimp only
 rw[Nz N hN asT hmd ω ω ω,aw]
 dsimp only
 obtain⟨e1,e2⟩:=aam d0 (show 0≤m by omega)
 rw[←e2]
 have uQ:0≤m/18446744073709551616/d:=kR ω ω
 have hq1:m/18446744073709551616/d≤m/18446744073709551616:=Int.ediv_le_self _ ω
 have xe:=oL m d0
 have MO:=o4 m (show d≠0 by omega)
 have hl0:0≤(m/18446744073709551616%d*18446744073709551616+m%18446744073709551616)/d:=kR ω ω
 have Zc:(m/18446744073709551616%d*18446744073709551616+m%18446744073709551616)/d<18446744073709551616:=by
  rw[tL d0]
  have:=qf (show m/18446744073709551616%d+1≤d by omega) (show(0:Int)≤18446744073709551616 by omega)
  rw[iN,pa,dZ d]at this;omega
 generalize (m/18446744073709551616%d*18446744073709551616+m%18446744073709551616)/d=ql at*
 generalize hqh:m/18446744073709551616/d=qh at*
 have hmq:=sP m d
 by_cases h:0≤v
 ·have hv:m=v:=ω
  rw[dC (show(0:Int)≤(cO v).1 by show 0≤v/_;omega),aj,ay (x:=qh) ω ω,ay (x:=m%d) ω ω,←hv]
  unfold cO
  exact NM ω ω
 ·have hv:v= -m:=ω
  rw[dn (show(cO v).1<0 by show v/_<0;omega),au]
  by_cases hr:0<m%d
  ·rw[aP hr,aj,uj N hl0 ω ω ω,aw]
   unfold uq.KR uq.A5
   dsimp only
   rw[cz (x:=d-m%d) ω ω,cz (x:=qh+(ql+1+0)/18446744073709551616) ω ω]
   rw[vq N ω ω ω (by
    have:m/d*1≤m/d*d:=qi ω (kR ω ω)
    rw[dZ]at hmq;omega),aw,ay (x:=d-m%d) ω ω]
   have e3:v=(d-m%d)+d*(-(m/d)-1):=by rw[hv,wP,tV,Ah];omega
   have e4:v/d= -(m/d)-1:=by
    rw[e3,wD _ _ ω,zO ω ω];omega
   have e5:v%d=d-m%d:=by rw[e3,zI,Fp ω ω]
   rw[e4,e5]
   dsimp only
   rw[show-((qh+(ql+1+0)/18446744073709551616)*18446744073709551616+(ql+1+0)%18446744073709551616)= -(m/d)-1 by omega]
  ·have eV:m%d=0:=ω
   rw[aK ω,au]
   unfold uq.KR uq.A5
   rw[vq N ω ω ω (by
    have:m/d*1≤m/d*d:=qi ω (kR ω ω)
    rw[dZ]at hmq;omega),aw,ay (x:=m%d) ω ω]
   have e3:v=d*(-(m/d)):=by rw[hv,tV];omega
   have e4:v/d= -(m/d):=by rw[e3,Mi _ ω]
   have e5:v%d=0:=by rw[e3,Int.mul_emod_right]
   rw[e4,e5,eV]
   dsimp only
   rw[show-(qh*18446744073709551616+ql)= -(m/d)by omega]
theorem KS{v:Int}(v0: -170141183460469231731687303715884105728≤v)(v1:v<170141183460469231731687303715884105728):F49 N (cO v)=some (ya v):=by
 unfold F49 cO
 rw[aK ω,au]
 dsimp only
 have hw0: -9223372036854775808≤W .i64 (v%18446744073709551616)∧W .i64 (v%18446744073709551616)<9223372036854775808:=by rw[gU];split<;>omega
 rw[rI hw0.1 hw0.2]
 have hwv:W .i64 (v%18446744073709551616)=if 9223372036854775808≤v%18446744073709551616 then v%18446744073709551616-18446744073709551616 else v%18446744073709551616:=by rw[gU];split<;>split<;>omega
 rw[hwv]
 unfold ya
 by_cases h: -9223372036854775808≤v∧v<9223372036854775808
 ·rw[ak h]
  by_cases hn:v<0
  ·rw[ak (show 9223372036854775808≤v%18446744073709551616 by omega),ak ω,cZ ω,bR,au]
   congr 2;omega
  ·rw[ah (show ¬9223372036854775808≤v%18446744073709551616 by omega),ah ω,cZ ω,bR,au]
   congr 2;omega
 ·rw[ah h]
  by_cases hm:9223372036854775808≤v%18446744073709551616
  ·rw[ak hm,ak ω,da ω,cJ,aj]
  ·rw[ah hm,ah ω,da ω,cJ,aj]
theorem Js(N:Nat){l:List Int}(h: ∀x∈l,-9223372036854775808≤x∧x<9223372036854775808)(hl:l.length≤1000000): ∀(m n i:Nat),l.length-i≤m→m<n→i≤l.length→
  rN.l3 N n ((l.take i).sum/18446744073709551616) ((l.take i).sum%18446744073709551616) l (l.length:Int) (i:Int)=some (ya l.sum)
 |m,0,i,_,hn,_=>ω
 |m,n+1,i,hm,hn,hi=>by
  unfold rN.l3 rN.lD
  have f1:=KP (l.take i) (λx hx=>h x (iH hx))
  rw[bE,fT ω]at f1
  by_cases h1:i<l.length
  ·obtain⟨g0,g1⟩:=rK h i
   have hs:=im l h1
   simp only[aF]
   generalize hx:l.getD i 0=x at*
   generalize (l.take i).sum=t at*
   rw[nA,uj N ω ω ω ω]
   simp only[rI g0 g1]
   have hih:=Js N h hl (m-1) n (i+1) ω ω ω
   rw[hs]at hih
   rw[aP ω,aj,aY ω ω,aj,aw,aK ω,au]
   by_cases hn:x<0
   ·rw[ak hn,ay (x:=t/18446744073709551616+ -1) ω ω,ay (x:=(_:Int)/18446744073709551616) ω ω,ay ω ω,ay (x:=(i:Int)+1) ω ω]
    refine Eq.trans ?_ hih
    congr 1<;>omega
   ·rw[ah hn,ay (x:=t/18446744073709551616+0) ω ω,ay (x:=(_:Int)/18446744073709551616) ω ω,ay ω ω,ay (x:=(i:Int)+1) ω ω]
    refine Eq.trans ?_ hih
    congr 1<;>omega
  ·rw[gh ω]at f1 ⊢
   rw[aK ω,au]
   have:=KS N (v:=l.sum) ω ω
   unfold F49 cO at this
   exact this
theorem aao{l:List Int}(h: ∀x∈l,-9223372036854775808≤x∧x<9223372036854775808)(hl:l.length≤1000000)(hN:1000000<N):rN N l=some (ya l.sum):=by
 unfold rN rN.b
 have:=Js N h hl l.length N 0 ω ω ω
 rw[nk,iM]at this
 exact this
end VM
end
section
namespace VM
open Go
variable(N:Nat)
theorem cond_not{α:Type}(b:Bool)(x y:α):cond (!b) x y=cond b y x:=by cases b<;>rfl
theorem c4{α:Type}(a b:Int)(x y:α):cond (aT a b) x y=if a<b then x else y:=by
 by_cases h:a<b
 ·rw[aP h,ak h];rfl
 ·rw[aK ω,ah h];rfl
theorem cK{α:Type}(a b:Int)(x y:α):cond (cY a b) x y=if a≤b then x else y:=by
 by_cases h:a≤b
 ·rw[dC h,ak h];rfl
 ·rw[dn ω,ah h];rfl
theorem aR{α:Type}(a b:Int)(x y:α):cond (aM a b) x y=if a=b then x else y:=by
 by_cases h:a=b
 ·rw[cZ h,ak h];rfl
 ·rw[da h,ah h];rfl
theorem gD{α:Type}(p:Prop) [Decidable p](x y:α):cond (decide p) x y=if p then x else y:=by
 by_cases h:p
 ·rw[bq h,ak h];rfl
 ·rw[bK h,ah h];rfl
theorem drop_cons{α:Type}{l:List α}{i:Nat}(h:i<l.length)(d:α):l.drop i=l.getD i d::l.drop (i+1):=by
 rw[nc h,aZ,bo h];rfl
theorem vr{α σ β:Type}(l:List α)(d:α)(F:Nat→Int→σ→Option β)(g:List α→σ→Option β)(I:Nat→σ→Prop)
  (hs: ∀n i s,i<l.length→I i s→(∀s',I (i+1) s'→F n ((i+1:Nat):Int) s'=g (l.drop (i+1)) s')→F (n+1) (i:Int) s=g (l.getD i d::l.drop (i+1)) s)
  (he: ∀n s,I l.length s→F (n+1) (l.length:Int) s=g [] s): ∀m n i s,l.length-i≤m→m<n→i≤l.length→I i s→F n (i:Int) s=g (l.drop i) s
 |m,0,i,s,_,hn,_,_=>ω
 |m,n+1,i,s,hm,hn,hi,hI=>by
  by_cases h:i<l.length
  ·rw[drop_cons h d]
   exact hs n i s h hI λs' yR=>vr l d F g I hs he (m-1) n (i+1) s' ω ω ω yR
  ·have:i=l.length:=ω
   subst this
   rw[oX];exact he n s hI
theorem Dq{α β:Type}(l:List α)(d:α)(F:Nat→Int→Option β)(g:List α→Option β)
  (hs: ∀n i,i<l.length→F n ((i+1:Nat):Int)=g (l.drop (i+1))→F (n+1) (i:Int)=g (l.getD i d::l.drop (i+1)))
  (he: ∀n,F (n+1) (l.length:Int)=g []) (n:Nat) (hn:l.length<n):F n 0=g l:=by
 have:=vr (σ:=Unit) l d (λn i _=>F n i) (λl _=>g l) (λ_ _=>True) (λn i _ h _ hr=>hs n i h (hr () trivial)) (λn _ _=>he n) l.length n 0 () ω hn ω trivial
 simpa using this
theorem scan{F:Nat→Int→Option Bool}{len:Nat}(P:Nat→Prop) [DecidablePred P]
  (hs: ∀n i r,i<len→(∀j,j<i→P j)→F n ((i+1:Nat):Int)=r→F (n+1) (i:Int)=if P i then r else some false) {e:Bool} (he: ∀n,F (n+1) (len:Int)=some e):
  ∀m n i,len-i≤m→m<n→i≤len→(∀j,j<i→P j)→F n (i:Int)=some (decide (∀j,j<len→i≤j→P j)&&e)
 |m,0,i,_,hn,_,_=>ω
 |m,n+1,i,hm,hn,hi,hp=>by
  by_cases h:i<len
  ·rw[hs n i _ h hp rfl]
   by_cases hP:P i
   ·rw[ak hP,scan P hs he (m-1) n (i+1) ω ω ω (λj hj=>by
     by_cases zf:j=i
     ·subst zf;exact hP
     ·exact hp j ω)]
    congr 2
    rw[oY]
    refine⟨λhj j h2 h1=> ?_,λhj j h2 h1=>hj j h2 ω⟩
    by_cases zf:j=i
    ·subst zf;exact hP
    ·exact hj j h2 ω
   ·rw[ah hP,bK (λhj=>hP (hj i h (aI i)))];rfl
  ·have:i=len:=ω
   subst this
   rw[he n,bq (λj h2 h1=>absurd h2 ω)];rfl
theorem iA{F:Nat→Int→Option Bool}{len:Nat}(P:Nat→Prop) [DecidablePred P]{e:Bool}
  (hs: ∀n i r,i<len→(∀j,j<i→P j)→F n ((i+1:Nat):Int)=r→F (n+1) (i:Int)=if P i then r else some false) (he: ∀n,F (n+1) (len:Int)=some e) (n:Nat) (hn:len<n):
  F n 0=some (decide (∀j,j<len→P j)&&e):=by
 have:=scan P hs he len n 0 ω hn ω (λj hj=>absurd hj ω)
 rw[show((0:Nat):Int)=0 from rfl]at this
 rw[this]
 congr 2
 rw[oY]
 exact⟨λh j hj=>h j hj ω,λh j hj _=>h j hj⟩
end VM
end
section
namespace VM
open Go VM.F
variable(N:Nat)
def c7(x:Int):Prop:= -170141183460469231731687303715884105728≤x∧x<170141183460469231731687303715884105728
instance(x:Int):Decidable (c7 x):=by unfold c7;infer_instance
theorem Gs{x:Int}(h0: -9223372036854775808≤x)(h1:x<9223372036854775808):F27 N x=some (cO x):=by
 unfold F27
 rw[aK ω,au,rI h0 h1,nA]
 congr 1
 exact wmk (by split<;>omega) rfl
theorem aap{ws:List Int}(i:Nat):(ws.map cO).getD i ct=cO (ws.getD i 0):=by
 by_cases h:i<ws.length
 ·rw[aZ,q3,bo h,aZ,bo h];rfl
 ·rw[aZ,gV (by rw[fE];omega),aZ,gV ω];rfl
theorem QD{ws:List Int}(h: ∀x∈ws,c7 x): -(170141183460469231731687303715884105728*(ws.length:Int))≤ws.sum∧ws.sum≤170141183460469231731687303715884105728*(ws.length:Int):=by
 induction ws with
 |nil=>simp
 |cons x ws ih=>
  have h0:=h x (bu ..)
  have ih:=ih (λy hy=>h y (a6 _ hy))
  unfold c7 at h0
  rw[cD,aU];omega
theorem W2{t w:Int}{lo hi top:Int}(hw:c7 w)(wi:lo=t%18446744073709551616)(Ja:hi=t/18446744073709551616%18446744073709551616)(asW:top=t/340282366920938463463374607431768211456):
  (lo+w%18446744073709551616+0)%18446744073709551616=(t+w)%18446744073709551616∧
  (hi+(w/18446744073709551616)%18446744073709551616+(lo+w%18446744073709551616+0)/18446744073709551616)%18446744073709551616=(t+w)/18446744073709551616%18446744073709551616∧
  top+(if w/18446744073709551616<0 then-1 else 0)+(hi+(w/18446744073709551616)%18446744073709551616+(lo+w%18446744073709551616+0)/18446744073709551616)/18446744073709551616=(t+w)/340282366920938463463374607431768211456:=by
 unfold c7 at hw
 subst wi Ja asW
 refine⟨ω,ω,?_⟩
 split<;>omega
def NN(t:Int):bI×Bool:=if c7 t then(cO t,true)else(ct,false)
theorem W64(x:Int):W .u64 x=x%18446744073709551616:=nA x
theorem Jt(N:Nat){ws:List Int}(h: ∀x∈ws,c7 x)(hl:ws.length≤1000000): ∀(m n i:Nat) (t:Int),ws.length-i≤m→m<n→i≤ws.length→t=(ws.take i).sum→
  pk.l3 N n ct (t/340282366920938463463374607431768211456) (t/18446744073709551616%18446744073709551616) (t%18446744073709551616) (ws.map cO) (ws.length:Int) (i:Int)=some (NN ws.sum)
 |m,0,i,t,_,hn,_,_=>ω
 |m,n+1,i,t,hm,hn,hi,ht=>by
  unfold pk.l3 pk.lD
  have f1:=QD (ws:=ws.take i) (λx hx=>h x (iH hx))
  rw[bE,fT ω,←ht]at f1
  by_cases h1:i<ws.length
  ·have hw:c7 (ws.getD i 0):=by
    rw[aZ,bo h1];exact h _ (fg h1)
   have hs:=im ws h1
   rw[←ht]at hs
   have st:=W2 (t:=t) (w:=ws.getD i 0) hw rfl rfl rfl
   have zk:=Jt N h hl (m-1) n (i+1) (t+ws.getD i 0) ω ω ω hs.symm
   rw[aP ω,aj,aY ω (by rw[fE];omega),aj,aF,aap]
   unfold cO
   dsimp only
   have hw':=hw
   unfold c7 at hw'
   generalize ws.getD i 0=w at*
   have hq:0≤(t%18446744073709551616+w%18446744073709551616+0)/18446744073709551616∧(t%18446744073709551616+w%18446744073709551616+0)/18446744073709551616≤1:=ω
   rw[uj N ω ω ω ω,aw,W64,uj N ω ω hq.1 hq.2,aw,aK (x:=63) ω,au,st.1,st.2.1]
   rw[rI ω ω]
   have hc:0≤(t/18446744073709551616%18446744073709551616+w/18446744073709551616%18446744073709551616+(t%18446744073709551616+w%18446744073709551616+0)/18446744073709551616)/18446744073709551616∧(t/18446744073709551616%18446744073709551616+w/18446744073709551616%18446744073709551616+(t%18446744073709551616+w%18446744073709551616+0)/18446744073709551616)/18446744073709551616≤1:=ω
   have hif: -1≤(if w/18446744073709551616<0 then(-1:Int)else 0)∧(if w/18446744073709551616<0 then(-1:Int)else 0)≤0:=by split<;>omega
   rw[ay (x:=t/340282366920938463463374607431768211456+_) ω ω,ay (x:=(_:Int)/18446744073709551616) ω ω,st.2.2,ay ω ω,ay (x:=(i:Int)+1) ω ω]
   exact zk
  ·have e:(ws.take i).sum=ws.sum:=by rw[gh ω]
   rw[e]at ht
   rw[aK ω,au,aK (x:=63) ω,au,←ht]
   have hh: -9223372036854775808≤W .i64 (t/18446744073709551616%18446744073709551616)∧W .i64 (t/18446744073709551616%18446744073709551616)<9223372036854775808:=by rw[gU];split<;>omega
   have hwv:W .i64 (t/18446744073709551616%18446744073709551616)=if 9223372036854775808≤t/18446744073709551616%18446744073709551616 then t/18446744073709551616%18446744073709551616-18446744073709551616 else t/18446744073709551616%18446744073709551616:=by rw[gU];split<;>split<;>omega
   rw[rI hh.1 hh.2,hwv]
   unfold NN
   by_cases hI:c7 t
   ·rw[ak hI]
    unfold c7 at hI
    rw[cZ (by split<;>split<;>omega),bR,au]
    exact NM (by split<;>omega) rfl
   ·rw[ah hI]
    unfold c7 at hI
    rw[da (by split<;>split<;>omega),cJ,aj]
theorem Sl{ws:List Int}(h: ∀x∈ws,c7 x)(hl:ws.length≤1000000)(hN:1000000<N):pk N (ws.map cO)=some (NN ws.sum):=by
 unfold pk pk.b
 rw[fE]
 exact Jt N h hl ws.length N 0 0 ω ω ω (by simp)
theorem vt(a lo hi:Int):Ec N a lo hi=some (decide (lo≤a∧a≤hi)):=by
 unfold Ec
 rw[cK,oe]
 by_cases h:lo≤a
 ·rw[ak h];congr 1;rw[oY];omega
 ·rw[ah h,bK ω]
theorem Ju(a lo hi:Int):IG N a lo hi=some (decide (lo≤a∧a≤hi)):=vt N a lo hi
def oS(a b c d:Int):Prop:=(0≤a∧a≤3)∧(1≤b∧b≤1000000000000)∧(0≤c∧c≤1000000000)∧(0≤d∧d≤1000000000)
instance(a b c d:Int):Decidable (oS a b c d):=by unfold oS;infer_instance
def rO(l:aO)(i:Nat):Prop:=oS (l.getD i aQ).1 (l.getD i aQ).2.1 (l.getD i aQ).2.2.1 (l.getD i aQ).2.2.2.1
instance(l:aO):DecidablePred (rO l):=λi=>by unfold rO;infer_instance
def mq(a b c d e f:Int):Prop:=0≤a∧(0≤b∧b≤4)∧(0≤c∧c≤1000000)∧(0≤d∧d≤1000000)∧(1≤e∧e≤4611686018427387904)∧0≤f
instance(a b c d e f:Int):Decidable (mq a b c d e f):=by unfold mq;infer_instance
def ot(c:ae):Prop:=mq c.2.1 c.2.2.1 c.2.2.2.1 c.2.2.2.2.1 c.2.2.2.2.2.1 c.2.2.2.2.2.2.1
instance(c:ae):Decidable (ot c):=by unfold ot;infer_instance
def eO(c:ae):Bool:=decide (1≤c.1.length∧c.1.length≤6)&&(decide (∀j,j<c.1.length→rO c.1 j)&&decide (ot c))
theorem KT(hN:100≤N)(c:ae):B8 N c=some (eO c):=by
 unfold B8 B8.b eO
 rw[vt,aw,cond_not,gD]
 by_cases hl:1≤c.1.length∧c.1.length≤6
 ·rw[ak ω,bq hl,ke]
  refine iA (F:=λn i=>B8.l4 N n c c.1 (c.1.length:Int) i) (rO c.1) (λn i r hi hp hr=> ?_) (λn=> ?_) N ω
  ·unfold B8.l4 B8.ew
   rw[aP ω,aj,aY ω ω,aj,aF,ay ω ω,ag]
   simp only[vt,aw,cond_not,gD]
   by_cases hP:rO c.1 i
   ·rw[ak hP];unfold rO oS at hP
    repeat' split
    all_goals first|rfl|exact hr|omega
   ·rw[ah hP];unfold rO oS at hP
    repeat' split
    all_goals first|rfl|exact hr|omega
  ·unfold B8.l4 B8.ew
   rw[aK ω,au]
   simp only[vt,aw,cond_not,gD,cK,oe]
   by_cases hP:ot c
   ·rw[bq hP];unfold ot mq at hP
    repeat' split
    all_goals first|rfl|omega|(rw[bq ω])
   ·rw[bK hP];unfold ot mq at hP
    repeat' split
    all_goals first|rfl|omega|(rw[bK ω])
 ·rw[ah ω,bK hl,tP]
theorem nB(hN:100≤N)(c:ae):zm N c=some (eO c):=by
 unfold zm zm.b eO
 rw[c4,c4]
 by_cases hl:1≤c.1.length∧c.1.length≤6
 ·rw[ah ω,ah ω,bq hl,ke]
  refine iA (F:=λn i=>zm.l4 N n c i) (rO c.1) (λn i r hi hp hr=> ?_) (λn=> ?_) N ω
  ·unfold zm.l4 zm.ew
   rw[aP ω,aj,aY ω ω,aj,aF,ay ω ω,ag]
   simp only[Ju,aw,cond_not,gD]
   by_cases hP:rO c.1 i
   ·rw[ak hP];unfold rO oS at hP
    repeat' split
    all_goals first|rfl|exact hr|omega
   ·rw[ah hP];unfold rO oS at hP
    repeat' split
    all_goals first|rfl|exact hr|omega
  ·unfold zm.l4 zm.ew
   rw[aK ω,au]
   simp only[Ju,aw,cond_not,gD,cK,oe]
   by_cases hP:ot c
   ·rw[bq hP];unfold ot mq at hP
    repeat' split
    all_goals first|rfl|omega|(rw[bq ω])
   ·rw[bK hP];unfold ot mq at hP
    repeat' split
    all_goals first|rfl|omega|(rw[bK ω])
 ·rw[bK hl,tP]
  by_cases h:(c.1.length:Int)<1
  ·rw[ak h]
  ·rw[ah h,ak ω]
def iV(a b:Int)(i:Nat)(c:Int):Prop:=1≤a∧a≤12∧1≤b∧b≤4∧(0<i→c<a)
instance(a b:Int)(i:Nat)(c:Int):Decidable (iV a b i c):=by unfold iV;infer_instance
def fJ(m:aB)(i:Nat):Prop:=iV (m.getD i ct).1 (m.getD i ct).2.1 i (m.getD (i-1) ct).1
instance(m:aB):DecidablePred (fJ m):=λi=>by unfold fJ;infer_instance
def dg(m:aB):Bool:=decide (∀j,j<m.length→fJ m j)&&true
theorem Gt{m:aB}(hl:m.length≤100000)(hN:200000≤N):pn N m=some (dg m):=by
 unfold pn pn.b
 refine iA (F:=λn i=>pn.l2 N n m m (m.length:Int) i) (fJ m) (λn i r hi hp hr=> ?_) (λn=> ?_) N ω
 ·unfold pn.l2 pn.gm
  rw[aP ω,aj,aY ω ω,aj,aF,ay (x:=(i:Int)+1) ω ω,ag]
  by_cases h0:0<i
  ·have e:W .i64 ((i:Int)-1)=((i-1:Nat):Int):=by rw[ay ω ω];omega
   dsimp only
   rw[aP (x:=0) ω,aj,e,aF,aY ω ω,aj]
   simp only[c4,cK]
   by_cases hP:fJ m i
   ·rw[ak hP];unfold fJ iV at hP
    repeat' split
    all_goals first|rfl|exact hr|omega
   ·rw[ah hP];unfold fJ iV at hP
    repeat' split
    all_goals first|rfl|exact hr|omega
  ·rw[aK (x:=0) ω,au]
   simp only[c4,cK]
   by_cases hP:fJ m i
   ·rw[ak hP];unfold fJ iV at hP
    repeat' split
    all_goals first|rfl|exact hr|omega
   ·rw[ah hP];unfold fJ iV at hP
    repeat' split
    all_goals first|rfl|exact hr|omega
 ·unfold pn.l2 pn.gm
  rw[aK ω,au]
theorem mP{m:aB}(hl:m.length≤100000)(hN:200000≤N):nY N m=some (dg m):=by
 unfold nY nY.b
 refine iA (F:=λn i=>nY.l2 N n m i) (fJ m) (λn i r hi hp hr=> ?_) (λn=> ?_) N ω
 ·unfold nY.l2 nY.gm
  rw[aP ω,aj,aY ω ω,aj,aF,ay (x:=(i:Int)+1) ω ω,ag]
  by_cases h0:0<i
  ·have e:W .i64 ((i:Int)-1)=((i-1:Nat):Int):=by rw[ay ω ω];omega
   dsimp only
   rw[aP (x:=0) ω,e,aF,aY (i:=((i-1:Nat):Int)) ω ω]
   simp only[c4,cK,aj]
   by_cases hP:fJ m i
   ·rw[ak hP];unfold fJ iV at hP
    repeat' split
    all_goals first|rfl|exact hr|omega
   ·rw[ah hP];unfold fJ iV at hP
    repeat' split
    all_goals first|rfl|exact hr|omega
  ·rw[aK (x:=0) ω]
   simp only[c4,cK,aj,au]
   by_cases hP:fJ m i
   ·rw[ak hP];unfold fJ iV at hP
    repeat' split
    all_goals first|rfl|exact hr|omega
   ·rw[ah hP];unfold fJ iV at hP
    repeat' split
    all_goals first|rfl|exact hr|omega
 ·unfold nY.l2 nY.gm
  rw[aK ω,au]
def df(k n:Int):Prop:=(1≤k∧k≤4∧n=0)∨(k=5∧1≤n∧n≤24)∨(6≤k∧k≤7∧1≤n∧n≤12)
instance(k n:Int):Decidable (df k n):=by unfold df;infer_instance
theorem W3(k n:Int):W4 N k n=some (decide (df k n)):=by
 unfold W4
 simp only[aR,cK]
 simp only[oe,jj]
 by_cases hP:df k n
 ·rw[bq hP];unfold df at hP
  repeat' split
  all_goals first|rfl|omega|(rw[bq ω])
 ·rw[bK hP];unfold df at hP
  repeat' split
  all_goals first|rfl|omega|(rw[bK ω])
theorem aaq(k n:Int):QE N k n=some (decide (df k n)):=by
 have:=W3 N k n
 unfold W4 at this
 unfold QE
 exact this
def mQ(a b c d:Int):Prop:=a<c∨(a=c∧b<d)
instance(a b c d:Int):Decidable (mQ a b c d):=by unfold mQ;infer_instance
def QF(k n a b:Int):Int:=if k=a then n-b else k-a
def KU(x:Int):Prop:= -1000000≤x∧x≤1000000
theorem NO{k n:Int}{r:eP}(h1:KU k)(h2:KU n)(h3:KU r.1)(h4:KU r.2.1):aar N k n r=some (QF k n r.1 r.2.1):=by
 unfold aar QF
 unfold KU at*
 rw[cond_not,aR]
 split
 ·rw[ay ω ω]
 ·rw[ay ω ω]
theorem Ua{k n:Int}{r:eP}(h1:KU k)(h2:KU n)(h3:KU r.1)(h4:KU r.2.1):ahO N k n r=some (QF k n r.1 r.2.1):=NO N h1 h2 h3 h4
def mE(a b c:Int)(i:Nat)(d e:Int):Prop:=df a b∧c≠0∧(0<i→mQ d e a b)
instance(a b c:Int)(i:Nat)(d e:Int):Decidable (mE a b c i d e):=by unfold mE;infer_instance
def lQ(l:aC)(i:Nat):Prop:=mE (l.getD i bW).1 (l.getD i bW).2.1 (l.getD i bW).2.2.1 i (l.getD (i-1) bW).1 (l.getD (i-1) bW).2.1
instance(l:aC):DecidablePred (lQ l):=λi=>by unfold lQ;infer_instance
def fx(l:aC):Bool:=decide (∀j,j<l.length→lQ l j)&&true
theorem Sm{l:aC}(hl:l.length≤100000)(hN:200000≤N):Dr N l=some (fx l):=by
 unfold Dr Dr.b
 refine iA (F:=λn i=>Dr.l2 N n l l (l.length:Int) i) (lQ l) (λn i r hi hp hr=> ?_) (λn=> ?_) N ω
 ·unfold Dr.l2 Dr.gm
  rw[aP ω,aj,aY ω ω,aj,aF,ay (x:=(i:Int)+1) ω ω,ag,W3,aw,cond_not,gD]
  by_cases hK:df (l.getD i bW).1 (l.getD i bW).2.1
  ·rw[ak hK]
   by_cases h0:0<i
   ·have hq:=hp (i-1) ω
    have e:W .i64 ((i:Int)-1)=((i-1:Nat):Int):=by rw[ay ω ω];omega
    dsimp only
    rw[aP (x:=0) ω,aj,e,aF,aY ω ω,aj]
    unfold lQ mE at hq
    have hq:=hq.1
    rw[NO N (by unfold df at hK;unfold KU;omega) (by unfold df at hK;unfold KU;omega) (by unfold df at hq;unfold KU;omega) (by unfold df at hq;unfold KU;omega),aw,aR,cK]
    by_cases hP:lQ l i
    ·rw[ak hP];unfold lQ mE mQ at hP;unfold QF
     have QG:=hP.2
     repeat' split
     all_goals first|rfl|exact hr|omega
    ·rw[ah hP];unfold lQ mE mQ at hP;unfold QF
     have QG:=λh=>hP ⟨hK,h⟩
     repeat' split
     all_goals first|rfl|exact hr|omega|(exfalso;exact QG ω)
   ·rw[aK (x:=0) ω,au,aR]
    by_cases hP:lQ l i
    ·rw[ak hP];unfold lQ mE at hP
     rw[ah hP.2.1];exact hr
    ·rw[ah hP];unfold lQ mE at hP
     have QG:=λh=>hP ⟨hK,h,λh=>absurd h h0⟩
     split
     ·rfl
     ·exact absurd (by assumption) QG
  ·rw[ah hK,ah (λh=>hK (by unfold lQ mE at h;exact h.1))]
 ·unfold Dr.l2 Dr.gm
  rw[aK ω,au]
theorem Gu{l:aC}(hl:l.length≤100000)(hN:200000≤N):B9 N l=some (fx l):=by
 unfold B9 B9.b
 refine iA (F:=λn i=>B9.l2 N n l i) (lQ l) (λn i r hi hp hr=> ?_) (λn=> ?_) N ω
 ·unfold B9.l2 B9.gm
  rw[aP ω,aj,aY ω ω,aj,aF,ay (x:=(i:Int)+1) ω ω,ag,aaq,aw,cond_not,gD]
  by_cases hK:df (l.getD i bW).1 (l.getD i bW).2.1
  ·rw[ak hK]
   by_cases h0:0<i
   ·have e:W .i64 ((i:Int)-1)=((i-1:Nat):Int):=by rw[ay ω ω];omega
    dsimp only
    rw[aP (x:=0) ω,e,aF,aY (i:=((i-1:Nat):Int)) ω ω]
    simp only[c4,cK,aR,aj]
    by_cases hP:lQ l i
    ·rw[ak hP];unfold lQ mE mQ at hP
     have QG:=hP.2
     repeat' split
     all_goals first|rfl|exact hr|omega
    ·rw[ah hP];unfold lQ mE mQ at hP
     have QG:=λh=>hP ⟨hK,h⟩
     repeat' split
     all_goals first|rfl|exact hr|omega|(exfalso;exact QG ω)
   ·rw[aK (x:=0) ω]
    simp only[c4,cK,aR,aj,au]
    by_cases hP:lQ l i
    ·rw[ak hP];unfold lQ mE at hP
     rw[ah hP.2.1];exact hr
    ·rw[ah hP];unfold lQ mE at hP
     have QG:=λh=>hP ⟨hK,h,λh=>absurd h h0⟩
     split
     ·rfl
     ·exact absurd (by assumption) QG
  ·rw[ah hK,ah (λh=>hK (by unfold lQ mE at h;exact h.1))];rfl
 ·unfold B9.l2 B9.gm
  rw[aK ω,au]
def cE(a b:Int):Prop:=0≤a∧a≤24∧0≤b∧b<6
instance(a b:Int):Decidable (cE a b):=by unfold cE;infer_instance
theorem aas(a b:Int):aat N a b=some (decide (cE a b)):=by
 unfold aat
 simp only[cK]
 simp only[rm]
 by_cases hP:cE a b
 ·rw[bq hP];unfold cE at hP
  repeat' split
  all_goals first|rfl|omega|(rw[bq ω])
 ·rw[bK hP];unfold cE at hP
  repeat' split
  all_goals first|rfl|omega|(rw[bK ω])
def mZ(q:Int):Prop:=q≠ -9223372036854775808
instance(q:Int):Decidable (mZ q):=by unfold mZ;infer_instance
theorem Ds(q:Int):W5 N q=some (decide (mZ q)):=by
 unfold W5 mZ
 rw[jj]
 by_cases h:q= -9223372036854775808<;>simp[h]
def mF(a b c:Int)(i:Nat)(d e:Int):Prop:=cE a b∧c≠0∧mZ c∧(0<i→mQ d e a b)
instance(a b c:Int)(i:Nat)(d e:Int):Decidable (mF a b c i d e):=by unfold mF;infer_instance
def lR(l:aC)(i:Nat):Prop:=mF (l.getD i bW).1 (l.getD i bW).2.1 (l.getD i bW).2.2.1 i (l.getD (i-1) bW).1 (l.getD (i-1) bW).2.1
instance(l:aC):DecidablePred (lR l):=λi=>by unfold lR;infer_instance
def dq(l:aC):Bool:=decide (∀j,j<l.length→lR l j)&&true
theorem Gv{l:aC}(hl:l.length≤100000)(hN:200000≤N):Ca N l=some (dq l):=by
 unfold Ca Ca.b
 refine iA (F:=λn i=>Ca.l2 N n l l (l.length:Int) i) (lR l) (λn i r hi hp hr=> ?_) (λn=> ?_) N ω
 ·unfold Ca.l2 Ca.gm
  rw[aP ω,aj,aY ω ω,aj,aF,ay (x:=(i:Int)+1) ω ω,ag,aas,aw,cond_not,gD,Ds,aw,cond_not,gD]
  by_cases hK:cE (l.getD i bW).1 (l.getD i bW).2.1
  ·rw[ak hK]
   by_cases h0:0<i
   ·have hq:=hp (i-1) ω
    have e:W .i64 ((i:Int)-1)=((i-1:Nat):Int):=by rw[ay ω ω];omega
    dsimp only
    rw[aP (x:=0) ω,aj,e,aF,aY ω ω,aj]
    unfold lR mF at hq
    have hq:=hq.1
    rw[Ua N (by unfold cE at hK;unfold KU;omega) (by unfold cE at hK;unfold KU;omega) (by unfold cE at hq;unfold KU;omega) (by unfold cE at hq;unfold KU;omega),aw,aR,cK]
    by_cases hP:lR l i
    ·rw[ak hP];unfold lR mF mQ at hP;unfold QF
     obtain⟨_,hP1,QG,hP3⟩:=hP
     rw[ak QG]
     repeat' split
     all_goals first|rfl|exact hr|omega
    ·rw[ah hP];unfold lR mF mQ at hP;unfold QF
     have QG:=λh1 h2 h3=>hP ⟨hK,h1,h2,h3⟩
     repeat' split
     all_goals first|rfl|exact hr|(exfalso;exact QG (by assumption) (by assumption) ω)|omega
   ·rw[aK (x:=0) ω,au,aR]
    by_cases hP:lR l i
    ·rw[ak hP];unfold lR mF at hP
     rw[ah hP.2.1,ak hP.2.2.1];exact hr
    ·rw[ah hP];unfold lR mF at hP
     have QG:=λh1 h2=>hP ⟨hK,h1,h2,λh=>absurd h h0⟩
     split
     ·rfl
     ·split
      ·exact(QG (by assumption) (by assumption)).elim
      ·rfl
  ·rw[ah hK,ah (λh=>hK (by unfold lR mF at h;exact h.1))]
 ·unfold Ca.l2 Ca.gm
  rw[aK ω,au]
theorem mR{l:aC}(hl:l.length≤100000)(hN:200000≤N):zB N l=some (dq l):=by
 unfold zB zB.b
 refine iA (F:=λn i=>zB.l2 N n l i) (lR l) (λn i r hi hp hr=> ?_) (λn=> ?_) N ω
 ·unfold zB.l2 zB.gm
  rw[aP ω,aj,aY ω ω,aj,aF,ay (x:=(i:Int)+1) ω ω,ag]
  by_cases h0:0<i
  ·have e:W .i64 ((i:Int)-1)=((i-1:Nat):Int):=by rw[ay ω ω];omega
   dsimp only
   rw[aP (x:=0) (y:=(i:Int)) ω,e,aF,aY (i:=((i-1:Nat):Int)) ω ω]
   simp only[c4,cK,aR,aj]
   by_cases hP:lR l i
   ·rw[ak hP];unfold lR mF mQ mZ cE at hP
    repeat' split
    all_goals first|rfl|exact hr|omega
   ·rw[ah hP];unfold lR mF mQ mZ cE at hP
    repeat' split
    all_goals first|rfl|exact hr|omega|(exfalso;exact hP ω)
  ·rw[aK (x:=0) (y:=(i:Int)) ω]
   simp only[c4,cK,aR,aj,au]
   by_cases hP:lR l i
   ·rw[ak hP];unfold lR mF mQ mZ cE at hP
    repeat' split
    all_goals first|rfl|exact hr|omega
   ·rw[ah hP];unfold lR mF mQ mZ cE at hP
    repeat' split
    all_goals first|rfl|exact hr|omega|(exfalso;exact hP ω)
 ·unfold zB.l2 zB.gm
  rw[aK ω,au]
theorem gE(a b:Int)(y:Bool):cond (cY a b) (some y) (some false)=some (decide (a≤b)&&y):=by
 rw[cK];by_cases h:a≤b<;>simp[h]
theorem Gw(a b:Int)(y:Bool):cond (aT a b) (some y) (some false)=some (decide (a<b)&&y):=by
 rw[c4];by_cases h:a<b<;>simp[h]
theorem Gx(a b:Int)(y:Bool):cond (aM a b) (some y) (some false)=some (decide (a=b)&&y):=by
 rw[aR];by_cases h:a=b<;>simp[h]
theorem Cb(a b:Int)(y z:Bool):cond (aM a b) (some y) (some z)=some ((decide (a=b)&&y)||(!decide (a=b)&&z)):=by
 rw[aR];by_cases h:a=b<;>simp[h]
def zn(a b c d e f:Int):Prop:=(1≤a∧a≤1099511627776)∧(1≤b∧b≤24)∧(0≤c∧c<6)∧(d=1∨d=2)∧(1≤e∧e≤1000000000)∧(1≤f∧f≤1000000000000)
instance(a b c d e f:Int):Decidable (zn a b c d e f):=by unfold zn;infer_instance
def rP(o:gu):Prop:=zn o.1 o.2.1 o.2.2.1 o.2.2.2.1 o.2.2.2.2.1 o.2.2.2.2.2.1
instance(o:gu):Decidable (rP o):=by unfold rP;infer_instance
theorem ahP(o:gu):aau N o=some (decide (rP o)):=by
 unfold aau
 rw[oe o.2.2.2.2.2.1]
 rw[gE,gE,gE,Gx,Cb,Gw,gE,gE,gE,gE,gE]
 congr 1
 rw[oZ,ff]
 unfold rP zn
 simp only[bQ,ni,qZ,q4,Fe]
 omega
theorem Jv(p:Int):F92 N p=some (decide (1≤p∧p≤1000000000000)):=by
 unfold F92
 rw[oe p,gE];congr 1
 rw[oZ];simp only[bQ,q4]
theorem iW(p:Int):Vu N p=some (decide (1≤p∧p≤1000000000000)):=Jv N p
theorem A6(o:gu):QH N o=some (decide (rP o)):=by
 unfold QH
 rw[iW,aw]
 repeat (first|rw[gE]|rw[Gw]|rw[Gx]|rw[Cb])
 congr 1
 rw[oZ,ff]
 unfold rP zn
 simp only[bQ,ni,qZ,q4,Fe]
 omega
def tJ(i:Nat)(a b:Int):Prop:=0<i→a<b
instance(i:Nat)(a b:Int):Decidable (tJ i a b):=by unfold tJ;infer_instance
def vu(l:bC)(i:Nat):Prop:=rP (l.getD i fu)∧tJ i (l.getD (i-1) fu).1 (l.getD i fu).1
instance(l:bC):DecidablePred (vu l):=λi=>by unfold vu;infer_instance
def dV(l:bC):Bool:=decide (∀j,j<l.length→vu l j)&&decide (l.length≤32)
theorem Ub{l:bC}(hl:l.length≤100000)(hN:200000≤N):Ed N l=some (dV l):=by
 unfold Ed Ed.b
 refine iA (F:=λn i=>Ed.l2 N n l l (l.length:Int) i) (vu l) (λn i r hi hp hr=> ?_) (λn=> ?_) N ω
 ·unfold Ed.l2 Ed.gm
  rw[aP ω,aj,aY ω ω,aj,aF,ay (x:=(i:Int)+1) ω ω,ag,ahP,aw,cond_not,gD]
  by_cases hK:rP (l.getD i fu)
  ·rw[ak hK]
   by_cases h0:0<i
   ·have e:W .i64 ((i:Int)-1)=((i-1:Nat):Int):=by rw[ay ω ω];omega
    dsimp only
    rw[aP (x:=0) ω,aj,e,aF,aY ω ω,aj,cK]
    by_cases hP:vu l i
    ·rw[ak hP,ah (by have h2:=hP.2;unfold tJ at h2;omega)];exact hr
    ·rw[ah hP,ak]
     have h2: ¬tJ i (l.getD (i-1) fu).1 (l.getD i fu).1:=λh=>hP ⟨hK,h⟩
     unfold tJ at h2
     omega
   ·rw[aK (x:=0) ω,au,ak ⟨hK,λh=>absurd h h0⟩];exact hr
  ·rw[ah hK,ah (λh=>hK h.1)]
 ·unfold Ed.l2 Ed.gm
  rw[aK ω,au,oe]
  congr 1;rw[oY];omega
theorem iq{l:bC}(hl:l.length≤100000)(hN:200000≤N):zC N l=some (dV l):=by
 unfold zC zC.b
 by_cases h32:32<l.length
 ·rw[aP ω,aj];unfold dV
  rw[bK (p:=l.length≤32) ω,FA]
 rw[aK ω,au]
 have:=iA (F:=λn i=>zC.l4 N n l i) (e:=true) (vu l) (λn i r hi hp hr=> ?_) (λn=> ?_) N (show l.length<N by omega)
 ·refine Eq.trans this ?_
  unfold dV
  rw[bq (p:=l.length≤32) ω]
 ·unfold zC.l4 zC.ew
  rw[aP ω,aj,aY ω ω,aj,aF,ay (x:=(i:Int)+1) ω ω,ag,A6,aw,cond_not,gD]
  by_cases hK:rP (l.getD i fu)
  ·rw[ak hK]
   by_cases h0:0<i
   ·have e:W .i64 ((i:Int)-1)=((i-1:Nat):Int):=by rw[ay ω ω];omega
    dsimp only
    rw[aP (x:=0) ω,aj,aj,e,aF,aY ω ω,aj,cK]
    by_cases hP:vu l i
    ·rw[ak hP,ah (by have h2:=hP.2;unfold tJ at h2;omega)];exact hr
    ·rw[ah hP,ak]
     have h2: ¬tJ i (l.getD (i-1) fu).1 (l.getD i fu).1:=λh=>hP ⟨hK,h⟩
     unfold tJ at h2
     omega
   ·rw[aK (x:=0) ω,au,ak ⟨hK,λh=>absurd h h0⟩];exact hr
  ·rw[ah hK,ah (λh=>hK h.1)]
 ·unfold zC.l4 zC.ew
  rw[aK ω,au]
def jS(id:Int):aB→Int
 |[]=>0
 |x::t=>if x.1=id then x.2.1 else jS id t
def ur(id:Int):aO→cv×Bool
 |[]=>(aQ,false)
 |x::t=>if x.1=id then(x,true)else ur id t
def nC(id:Int):aO→Int
 |[]=>0
 |x::t=>if x.2.1=id then(if x.2.2.1=1 then x.1 else nC id t)else nC id t
theorem vv(id:Int)(x:lT)(t:aB):jS id (x::t)=if x.1=id then x.2.1 else jS id t:=rfl
theorem ou(id:Int)(x:cv)(t:aO):ur id (x::t)=if x.1=id then(x,true)else ur id t:=rfl
theorem s0(id:Int)(x:cv)(t:aO):nC id (x::t)=if x.2.1=id then(if x.2.2.1=1 then x.1 else nC id t)else nC id t:=rfl
theorem NP{m:aB}(hl:m.length≤100000)(hN:200000≤N)(id:Int):BK.l4 N N id m (m.length:Int) 0=some (jS id m):=by
 refine Dq m ct (λn i=>BK.l4 N n id m (m.length:Int) i) (λl=>some (jS id l)) (λn i hi hr=> ?_) (λn=> ?_) N ω
 ·unfold BK.l4 BK.ew
  rw[aP ω,aj,aY ω ω,aj,aF,ay (x:=(i:Int)+1) ω ω,ag,hr,aR]
  rw[vv]
  split<;>rfl
 ·unfold BK.l4 BK.ew
  rw[aK ω,au];rfl
theorem ir{m:aB}(hl:m.length≤100000)(hN:200000≤N)(id:Int):m0 N m id=some (jS id m):=by
 unfold m0 m0.b
 refine Dq m ct (λn i=>m0.l2 N n m id i) (λl=>some (jS id l)) (λn i hi hr=> ?_) (λn=> ?_) N ω
 ·unfold m0.l2 m0.gm
  rw[aP ω,aj,aY ω ω,aj,aj,aF,ay (x:=(i:Int)+1) ω ω,ag,hr,aR]
  rw[vv]
  split<;>rfl
 ·unfold m0.l2 m0.gm
  rw[aK ω,au];rfl
def iX(m:aB)(id:Int):Int:=if dg m then jS id m else 0
theorem Jw{m:aB}(hl:m.length≤100000)(hN:200000≤N)(id:Int):BK N m id=some (iX m id):=by
 unfold BK BK.b iX
 rw[Gt N hl hN,aw,cond_not,NP N hl hN]
 cases dg m<;>rfl
theorem rQ{m:aB}(hl:m.length≤100000)(hN:200000≤N)(id:Int):Sn N m id=some (iX m id):=by
 unfold Sn iX
 rw[mP N hl hN,aw,cond_not,ir N hl hN]
 cases dg m<;>rfl
theorem Uc{m:aO}(hl:m.length≤100000)(hN:200000≤N)(id:Int):pq.l4 N N id aQ m (m.length:Int) 0=some (ur id m):=by
 refine Dq m aQ (λn i=>pq.l4 N n id aQ m (m.length:Int) i) (λl=>some (ur id l)) (λn i hi hr=> ?_) (λn=> ?_) N ω
 ·unfold pq.l4 pq.ew
  rw[aP ω,aj,aY ω ω,aj,aF,ay (x:=(i:Int)+1) ω ω,ag,hr,aR]
  rw[ou]
  split<;>rfl
 ·unfold pq.l4 pq.ew
  rw[aK ω,au];rfl
theorem rR{m:aO}(hl:m.length≤100000)(hN:200000≤N)(id:Int):nZ N m id=some (ur id m):=by
 unfold nZ nZ.b
 refine Dq m aQ (λn i=>nZ.l2 N n m id aQ i) (λl=>some (ur id l)) (λn i hi hr=> ?_) (λn=> ?_) N ω
 ·unfold nZ.l2 nZ.gm
  rw[aP ω,aj,aY ω ω,aj,aj,aF,ay (x:=(i:Int)+1) ω ω,ag,hr,aR]
  rw[ou]
  split<;>rfl
 ·unfold nZ.l2 nZ.gm
  rw[aK ω,au];rfl
theorem NQ{m:aO}(hl:m.length≤100000)(hN:200000≤N)(id:Int):mG.l4 N N m id 0=some (nC id m):=by
 refine Dq m aQ (λn i=>mG.l4 N n m id i) (λl=>some (nC id l)) (λn i hi hr=> ?_) (λn=> ?_) N ω
 ·unfold mG.l4 mG.ew
  rw[aP ω,aj,aY ω ω]
  simp only[aj]
  rw[aF,ay (x:=(i:Int)+1) ω ω,ag,hr,aR,aR]
  rw[s0]
  split
  ·split<;>rfl
  ·rfl
 ·unfold mG.l4 mG.ew
  rw[aK ω,au];rfl
def du(a b:Int):Prop:=a=b
instance(a b:Int):Decidable (du a b):=by unfold du;infer_instance
def yU(l:aO)(k:Nat)(m:Int):Prop:=du (l.getD k aQ).2.2.1 1∧du (l.getD k aQ).2.1 m
instance(l:aO)(k:Nat)(m:Int):Decidable (yU l k m):=by unfold yU;infer_instance
def mu(l:aO)(i:Nat)(m:Int):Bool:=(List.range i).any λk=>decide (yU l k m)
theorem xn{l:aO}{i:Nat}{m:Int}:mu l i m=true↔ ∃k,k<i∧yU l k m:=by
 unfold mu
 rw[zZ]
 simp only[nj,ff]
theorem vx(l:aO)(i:Nat)(m:Int):mu l (i+1) m=(mu l i m||decide (yU l i m)):=by
 unfold mu
 rw[Fw,List.any_append];simp
def mH(a b c d:Int):Prop:=(1≤a∧a≤24)∧(1≤b∧b≤12)∧(c=1∨c=2)∧(0≤d∧d≤1000000000000)
instance(a b c d:Int):Decidable (mH a b c d):=by unfold mH;infer_instance
def kH(l:aO)(i:Nat):Prop:= ¬(du (l.getD i aQ).2.2.1 1∧mu l i (l.getD i aQ).2.1=true)
instance(l:aO)(i:Nat):Decidable (kH l i):=by unfold kH;infer_instance
def A7(l:aO)(i:Nat):Prop:=mH (l.getD i aQ).1 (l.getD i aQ).2.1 (l.getD i aQ).2.2.1 (l.getD i aQ).2.2.2.1∧tJ i (l.getD (i-1) aQ).1 (l.getD i aQ).1∧kH l i
instance(l:aO):DecidablePred (A7 l):=λi=>by unfold A7;infer_instance
def gR(l:aO):Bool:=decide (∀j,j<l.length→A7 l j)&&true
def fj(l:aO)(i:Nat):List Bool:=(List.range 13).map λ(m:Nat)=>mu l i (m:Int)
theorem Ud{l:aO}{i:Nat}{b:Int}(h0:0≤b)(h1:b<13):(fj l i).getD b.toNat false=mu l i b:=by
 unfold fj
 rw[aZ,q3,List.getElem?_range ω]
 show mu l i ((b.toNat:Nat):Int)=_
 rw[nf h0]
theorem NR{l:aO}{i:Nat}(h: ¬du (l.getD i aQ).2.2.1 1):fj l (i+1)=fj l i:=by
 unfold fj
 refine mc λm _=> ?_
 rw[vx,bK (λh'=>h h'.1),tS]
theorem QI{l:aO}{i:Nat}(h:du (l.getD i aQ).2.2.1 1)(h0:(0:Int)≤(l.getD i aQ).2.1):(fj l i).set ((l.getD i aQ).2.1:Int).toNat true=fj l (i+1):=by
 refine z7 (by unfold fj;simp) λk h1 h2=> ?_
 unfold fj at*
 rw[List.getElem_set]
 simp only[Ft,zU]
 rw[vx]
 by_cases hk:((l.getD i aQ).2.1:Int).toNat=k
 ·rw[ak hk,bq (show yU l i (k:Int)from⟨h,by unfold du;omega⟩),Bool.or_true]
 ·rw[ah hk,bK (λh':yU l i (k:Int)=>hk (by have:=h'.2;unfold du at this;omega)),tS]
theorem So{l:aO}(hl:l.length≤100000)(hN:200000≤N):m4 N l=some (gR l):=by
 unfold m4 m4.b
 have h0:(List.replicate 13 false:List Bool)=fj l 0:=by unfold fj mu;rfl
 rw[h0]
 have:=iA (F:=λn i=>m4.l3 N n l (fj l i.toNat) l (l.length:Int) i) (e:=true) (A7 l) (λn i r hi hp hr=> ?_) (λn=> ?_) N (show l.length<N by omega)
 ·exact this
 ·simp only[aF]at hr ⊢
  unfold m4.l3 m4.lD
  rw[aP ω,aj,aY ω ω,aj]
  simp only[aF]
  rw[ay (x:=(i:Int)+1) ω ω,ag]
  by_cases hF:mH (l.getD i aQ).1 (l.getD i aQ).2.1 (l.getD i aQ).2.2.1 (l.getD i aQ).2.2.2.1
  ·have Sp:=hF
   unfold mH at Sp
   have hT:cond (aM (l.getD i aQ).2.2.1 1) (cond (a7 (l.getD i aQ).2.1 13) (cond (γ (fj l i) (l.getD i aQ).2.1.toNat false) (some false) (cond (a7 (l.getD i aQ).2.1 13) (m4.l3 N n l (List.set (fj l i) (l.getD i aQ).2.1.toNat true) l (l.length:Int) ((i+1:Nat):Int)) none)) none) (m4.l3 N n l (fj l i) l (l.length:Int) ((i+1:Nat):Int))=if kH l i then r else some false:=by
    rw[aR]
    by_cases hk:du (l.getD i aQ).2.2.1 1
    ·have rz:=hk
     unfold du at rz
     rw[ak rz,aY ω ω,aj,aj,Ud ω ω,QI hk ω,hr]
     by_cases ho:mu l i (l.getD i aQ).2.1=true
     ·have nr: ¬kH l i:=λh=>h ⟨hk,ho⟩
      rw[ah nr,ho];rfl
     ·have nr:kH l i:=λh=>ho h.2
      rw[ak nr,q5.2 ho];rfl
    ·have rz:=hk
     unfold du at rz
     rw[ah rz,ak (show kH l i from λh=>hk h.1),←NR hk,hr]
   have hP:A7 l i↔tJ i (l.getD (i-1) aQ).1 (l.getD i aQ).1∧kH l i:=⟨λh=>h.2,λh=>⟨hF,h⟩⟩
   have hD:(if A7 l i then r else some false)=if tJ i (l.getD (i-1) aQ).1 (l.getD i aQ).1 then(if kH l i then r else some false)else some false:=by
    by_cases h1:tJ i (l.getD (i-1) aQ).1 (l.getD i aQ).1<;>by_cases h2:kH l i<;>simp[hP,h1,h2]
   rw[hD]
   rw[hT]
   rw[aK ω,au,aK ω,au,aK ω,au,aK ω,au,aK (x:=(l.getD i aQ).2.2.2.1) ω,aK (x:=1000000000000) ω]
   simp only[au]
   have hm: ∀{α:Type} (x:α) (y:α),cond (!aM (l.getD i aQ).2.2.1 1) (cond (!aM (l.getD i aQ).2.2.1 2) y x) x=x:=by
    intro α x y
    rcases Sp.2.2.1 with h|h
    ·rw[cZ h];rfl
    ·rw[cZ (y:=2) h];cases aM (l.getD i aQ).2.2.1 1<;>rfl
   rw[hm]
   by_cases h0:0<i
   ·have e:W .i64 ((i:Int)-1)=((i-1:Nat):Int):=by rw[ay ω ω];omega
    rw[aP (x:=0) ω,aj,e,aF,aY ω ω,aj,cK]
    by_cases h1:tJ i (l.getD (i-1) aQ).1 (l.getD i aQ).1
    ·rw[ak h1,ah (by unfold tJ at h1;omega)]
    ·rw[ah h1,ak (by unfold tJ at h1;omega)]
   ·rw[aK (x:=0) ω,au,ak (show tJ i (l.getD (i-1) aQ).1 (l.getD i aQ).1 from λh=>absurd h h0)]
  ·rw[ah (λh=>hF h.1)]
   unfold mH at hF
   generalize cond (aM (l.getD i aQ).2.2.1 1) (cond (a7 (l.getD i aQ).2.1 13) (cond (γ (fj l i) (l.getD i aQ).2.1.toNat false) (some false) (cond (a7 (l.getD i aQ).2.1 13) (m4.l3 N n l (List.set (fj l i) (l.getD i aQ).2.1.toNat true) l (l.length:Int) ((i+1:Nat):Int)) none)) none) (m4.l3 N n l (fj l i) l (l.length:Int) ((i+1:Nat):Int))=t
   generalize cond (aT 0 (i:Int)) _ _=u
   simp only[cond_not,c4,aR]
   repeat' split
   all_goals first|rfl|omega
 ·unfold m4.l3 m4.lD
  rw[aK ω,au]
theorem Cc(N:Nat)(K:aO→Int→Option Bool){l:aO}(hl:l.length≤100000){i:Nat}(hi:i<l.length): ∀(m n k:Nat),i-k≤m→m<n→k≤i→(du (l.getD i aQ).2.2.1 1→mu l k (l.getD i aQ).2.1=false)→
  eC.l8 N K n l (i:Int) (l.getD i aQ) (k:Int)=if kH l i then K l ((i+1:Nat):Int)else some false
 |m,0,k,_,hn,_,_=>ω
 |m,n+1,k,hm,hn,hk,h=>by
  unfold eC.l8 eC.zo
  by_cases EN:k<i
  ·rw[aP ω,aj,aY ω ω,aj,aj,aF,ay (x:=(k:Int)+1) ω ω,ag,aR,aR,aR]
   by_cases h1:du (l.getD i aQ).2.2.1 1
   ·have pV:=h1
    unfold du at pV
    rw[ak pV]
    by_cases h2:yU l k (l.getD i aQ).2.1
    ·have yT:=h2
     unfold yU du at yT
     have nr: ¬kH l i:=λh3=>h3 ⟨h1,xn.2 ⟨k,EN,h2⟩⟩
     rw[ak yT.1,ak yT.2,ah nr]
    ·have zk:=Cc N K hl hi (m-1) n (k+1) ω ω ω (λ_=>by rw[vx,h h1,bK h2];rfl)
     split
     ·split
      ·rename_i h3 h4
       exact absurd (show yU l k (l.getD i aQ).2.1 from⟨h3,h4⟩) h2
      ·exact zk
     ·exact zk
   ·have pV:=h1
    unfold du at pV
    rw[ah pV]
    exact Cc N K hl hi (m-1) n (k+1) ω ω ω (λh=>absurd h h1)
  ·have:k=i:=ω
   subst this
   have nr:kH l k:=λh3=>by rw[h h3.1]at h3;exact nomatch h3.2
   rw[aK ω,au,ak nr,ay (x:=(k:Int)+1) ω ω];rfl
set_option maxHeartbeats 2000000 in
theorem uu{l:aO}(hl:l.length≤100000)(hN:200000≤N):eC N l=some (gR l):=by
 unfold eC eC.b
 refine iA (F:=λn i=>eC.l2 N n l i) (A7 l) (λn i r hi hp hr=> ?_) (λn=> ?_) N ω
 ·unfold eC.l2 eC.gm
  have hT:eC.j7 N (eC.l2 N n) l (i:Int) (l.getD i aQ)=if kH l i then r else some false:=by
   unfold eC.j7 eC.Qc
   have:=Cc N (eC.l2 N n) hl hi i N 0 ω ω ω (λ_=>rfl)
   rw[hr]at this
   exact this
  rw[aP ω,aj,aY ω ω,aj]
  simp only[aF]
  rw[hT]
  have hD:(if A7 l i then r else some false)=if mH (l.getD i aQ).1 (l.getD i aQ).2.1 (l.getD i aQ).2.2.1 (l.getD i aQ).2.2.2.1∧tJ i (l.getD (i-1) aQ).1 (l.getD i aQ).1 then(if kH l i then r else some false)else some false:=by
   unfold A7
   by_cases h1:tJ i (l.getD (i-1) aQ).1 (l.getD i aQ).1<;>by_cases h2:kH l i<;>by_cases h3:mH (l.getD i aQ).1 (l.getD i aQ).2.1 (l.getD i aQ).2.2.1 (l.getD i aQ).2.2.2.1<;>simp[h1,h2,h3]
  rw[hD]
  generalize (if kH l i then r else some false)=t
  by_cases h0:0<i
  ·have e:W .i64 ((i:Int)-1)=((i-1:Nat):Int):=by rw[ay ω ω];omega
   rw[aP (x:=0) (y:=(i:Int)) ω,e]
   simp only[aj,aF]
   rw[aY (i:=((i-1:Nat):Int)) ω ω]
   simp only[cond_not,c4,cK,aR,aj]
   by_cases hP:mH (l.getD i aQ).1 (l.getD i aQ).2.1 (l.getD i aQ).2.2.1 (l.getD i aQ).2.2.2.1∧tJ i (l.getD (i-1) aQ).1 (l.getD i aQ).1
   ·rw[ak hP];unfold mH tJ at hP
    repeat' split
    all_goals first|rfl|omega
   ·rw[ah hP];unfold mH tJ at hP
    repeat' split
    all_goals first|rfl|omega
  ·rw[aK (x:=0) (y:=(i:Int)) ω]
   simp only[cond_not,c4,cK,aR,aj,au]
   by_cases hP:mH (l.getD i aQ).1 (l.getD i aQ).2.1 (l.getD i aQ).2.2.1 (l.getD i aQ).2.2.2.1∧tJ i (l.getD (i-1) aQ).1 (l.getD i aQ).1
   ·rw[ak hP];unfold mH tJ at hP
    repeat' split
    all_goals first|rfl|omega
   ·rw[ah hP];unfold mH tJ at hP
    repeat' split
    all_goals first|rfl|omega
 ·unfold eC.l2 eC.gm
  rw[aK ω,au]
end VM
end
section
namespace VM
open Go VM.F
variable(N:Nat)
def fX(a:aO)(id:Int):cv×Bool:=if gR a then ur id a else(aQ,false)
theorem aav{a:aO}(hl:a.length≤100000)(hN:200000≤N)(id:Int):pq N a id=some (fX a id):=by
 unfold pq pq.b fX
 rw[So N hl hN,aw,cond_not,Uc N hl hN]
 cases gR a<;>rfl
theorem A8{a:aO}(hl:a.length≤100000)(hN:200000≤N)(id:Int):Ee N a id=some (fX a id):=by
 unfold Ee fX
 rw[uu N hl hN,aw,cond_not,rR N hl hN]
 cases gR a<;>rfl
def nD(a:aO)(id:Int):Int:=if gR a then nC id a else 0
theorem qS{a:aO}(hl:a.length≤100000)(hN:200000≤N)(id:Int):mG N a id=some (nD a id):=by
 unfold mG mG.b nD
 rw[uu N hl hN,aw,cond_not,NQ N hl hN]
 cases gR a<;>rfl
def kY(m:aB)(a:aO)(i:Nat):Prop:= ¬du (jS (a.getD i aQ).2.1 m) 0
instance(m:aB)(a:aO):DecidablePred (kY m a):=λi=>by unfold kY;infer_instance
def rS(m:aB)(a:aO):Bool:=dg m&&(gR a&&(decide (∀j,j<a.length→kY m a j)&&true))
theorem aaw{m:aB}{a:aO}(hm:m.length≤100000)(hl:a.length≤100000)(hN:200000≤N):Ef N m a=some (rS m a):=by
 unfold Ef Ef.b rS
 rw[Gt N hm hN,aw,cond_not,So N hl hN,aw,cond_not]
 cases hM:dg m
 ·rfl
 cases gR a
 ·rfl
 rw[ke,ke,aj,aj]
 refine iA (F:=λn i=>Ef.l4 N n m a (a.length:Int) i) (kY m a) (λn i r hi hp hr=> ?_) (λn=> ?_) N ω
 ·unfold Ef.l4 Ef.ew
  rw[aP ω,aj,aY ω ω,aj,aF,ay (x:=(i:Int)+1) ω ω,ag,Jw N hm hN,aw,aR]
  unfold iX
  rw[hM,ak rfl]
  by_cases hP:kY m a i
  ·rw[ak hP,ah (show ¬((jS (a.getD i aQ).2.1 m:Int)=0)from λh=>hP h)];exact hr
  ·rw[ah hP,ak (show(jS (a.getD i aQ).2.1 m:Int)=0 by unfold kY at hP;exact Fs.1 hP)]
 ·unfold Ef.l4 Ef.ew
  rw[aK ω,au]
theorem xp{m:aB}{a:aO}(hm:m.length≤100000)(hl:a.length≤100000)(hN:200000≤N):Cd N m a=some (rS m a):=by
 unfold Cd Cd.b rS
 rw[mP N hm hN,aw,cond_not,uu N hl hN,aw,cond_not]
 cases hM:dg m
 ·rfl
 cases gR a
 ·rfl
 rw[ke,ke,aj,aj]
 refine iA (F:=λn i=>Cd.l4 N n m a i) (kY m a) (λn i r hi hp hr=> ?_) (λn=> ?_) N ω
 ·unfold Cd.l4 Cd.ew
  rw[aP ω,aj,aY ω ω,aj,aF,ay (x:=(i:Int)+1) ω ω,ag,ir N hm hN,aw,aR]
  by_cases hP:kY m a i
  ·rw[ak hP,ah (show ¬((jS (a.getD i aQ).2.1 m:Int)=0)from λh=>hP h)];exact hr
  ·rw[ah hP,ak (show(jS (a.getD i aQ).2.1 m:Int)=0 by unfold kY at hP;exact Fs.1 hP)]
 ·unfold Cd.l4 Cd.ew
  rw[aK ω,au]
end VM
end
