/- A part of the proof of TearDrawn of layer 29: what the functions compute, in plain words. -/
import Derived.Test.YtocmlaipoebfeaaGreatPlain0
import Derived.Test.YtocmlaipoebfeaaGreatText
set_option linter.all false
section
namespace VM
open Go VM.F
theorem RU{x:Int}(h0:0≤x)(h1:x<18446744073709551616):ja .and .u64 x 1=x%2:=by
 rw[E9 h0 h1 (by omega) (by omega)]
 have:=Nat.and_two_pow_sub_one_eq_mod x.toNat 1
 rw[show((1:Int).toNat)=2^1-1 from rfl,this]
 omega
theorem A4{l:List Int}{k:Nat}(x:Int)(h:k<l.length):bQ ((l.set k x).drop k)=x+4294967296*bQ (l.drop (k+1)):=by
 rw[gF,gm l x h,List.drop_set_of_lt (by omega)]
theorem BH(N:Nat){d:List Int}(hd:VD d)(hl:d.length≤100000)(hN:4000000≤N): ∀(k n:Nat) (out:List Int) (c:Int),k≤d.length→k<n→VD out→out.length=d.length→c=bQ (d.drop k)%2→bQ (out.drop k)=bQ (d.drop k)/2→
  ln.l4 N n d out c ((k:Int)-1)=some (ic (bQ d/2).toNat,bQ d%2)
 |k,0,out,c,_,hn,_,_,_,_=>by omega
 |0,n+1,out,c,_,_,ho,D6,hc,hv=>by
  unfold ln.l4 ln.cn
  simp (disch:=omega) only[aD,ay,cB,cv,ck,cf,aG,ba,br,b8,al,bz,cond_true,cond_false,Bool.not_true,Bool.not_false,Option.bind_some,Int.toNat_natCast,Int.toNat_zero,aa,List.length_append,List.length_singleton,List.length_set,List.length_replicate,List.length_cons,List.length_nil,C8 N ho (by omega) (by omega)]
  rw[List.drop_zero,List.drop_zero]at hv
  rw[List.drop_zero]at hc
  rw[hv,hc]
 |k+1,n+1,out,c,hk,hn,ho,D6,hc,hv=>by
  unfold ln.l4 ln.cn
  have e:((k+1:Nat):Int)-1=(k:Int):=by omega
  obtain⟨g0,g1⟩:=hd.getD k
  have hn0:=gj (hd.drop (k+1))
  have e1:=gF d k
  simp only[e,Int.toNat_natCast]
  rw[XZ (by omega)]
  generalize hx:d.getD k 0=x at*
  rw[bz (x:=c*4294967296) (by omega) (by omega),LO g0 g1 (by omega) (by omega)]
  simp (disch:=omega) only[aD,ay,cB,cv,ck,cf,aG,ba,br,b8,al,bz,cond_true,cond_false,Bool.not_true,Bool.not_false,Option.bind_some,Int.toNat_natCast,Int.toNat_zero,aa,List.length_append,List.length_singleton,List.length_set,List.length_replicate,List.length_cons,List.length_nil,akk,RU]
  refine BH N hd hl hN k n (out.set k ((x+c*4294967296)/2)) ((x+c*4294967296)%2) (by omega) (by omega) (ho.set _ (by omega) (by omega)) (by rw[List.length_set];exact D6) (by rw[e1,hc];omega) ?_
  rw[A4 _ (by omega),hv,e1]
  omega
theorem RV(N:Nat)(hN:4000000≤N)(m:Nat)(h:(ic m).length≤100000):ln N (ic m)=some (ic (m/2),((m%2:Nat):Int)):=by
 unfold ln ln.b
 simp (disch:=omega) only[aD,ay,cB,cv,ck,cf,aG,ba,br,b8,al,bz,cond_true,cond_false,Bool.not_true,Bool.not_false,Option.bind_some,Int.toNat_natCast,Int.toNat_zero,aa,List.length_append,List.length_singleton,List.length_set,List.length_replicate,List.length_cons,List.length_nil]
 have:=BH N (gk m) h hN (ic m).length N (List.replicate (ic m).length 0) 0 (Nat.le_refl _) (by omega) (VD.XY _) (by simp) (by rw[List.drop_length];rfl) (by rw[List.drop_length,List.drop_of_length_le (by simp)];rfl)
 rw[eF]at this
 rw[this]
 congr 2
def bin(n:Nat):List Int:=if n=0 then []else((n%2:Nat):Int)::bin (n/2)
termination_by n
decreasing_by omega
theorem yh{n:Nat}(h:n≠0):bin n=((n%2:Nat):Int)::bin (n/2):=by rw[bin];simp[h]
theorem qR:bin 0=[]:=by rw[bin];rfl
def uu:List Int→Int
 |[]=>0
 |d::r=>d+2*uu r
theorem RW(n:Nat):uu (bin n)=n:=by
 induction n using Nat.strongRecOn with
 |_ n ih=>
  by_cases h:n=0
  ·subst h;rw[qR];rfl
  ·rw[yh h,uu,ih _ (by omega)];omega
theorem RX(n:Nat): ∀d∈bin n,d=0∨d=1:=by
 induction n using Nat.strongRecOn with
 |_ n ih=>
  by_cases h:n=0
  ·subst h;rw[qR];intro d hd;cases hd
  ·rw[yh h];intro d hd
   rcases List.mem_cons.1 hd with rfl|hd
   ·omega
   ·exact ih _ (by omega) d hd
theorem RY(k:Nat): ∀n,n<2^k→(bin n).length≤k:=by
 induction k with
 |zero=>
  intro n h;have:n=0:=by simpa using h
  subst this;rw[qR];simp
 |succ k ih=>
  intro n h
  by_cases hn:n=0
  ·subst hn;rw[qR];simp
  ·rw[yh hn,List.length_cons]
   have:=ih (n/2) (by rw[Nat.pow_succ]at h;omega)
   omega
theorem Ox{n k:Nat}(h:n<4294967296^k):(bin n).length≤32*k:=RY _ _ (Nat.lt_of_lt_of_le h (by rw[Nat.pow_mul];exact Nat.le_refl _))
theorem BI(N:Nat)(hN:4000000≤N)(x2 x3 x4 x5:av): ∀(m n:Nat) (t:Nat) (bits:List Int),(bin t).length≤m→m<n→(ic t).length≤100000→bits.length+(bin t).length≤4000000→
  eU.l3 N n x2 x3 x4 x5 bits (ic t)=eU.l9 N N x2 x3 x4 x5 (bits++bin t) (false,([],())) (false,([],())) (((bits++bin t).length:Int)-1)
 |m,0,t,bits,_,hn,_,_=>by omega
 |m,n+1,t,bits,hm,hn,hd,hb=>by
  unfold eU.l3 eU.g7
  by_cases ht:t=0
  ·subst ht
   rw[gi,qR]
   simp (disch:=omega) only[aD,ay,cB,cv,ck,cf,aG,ba,br,b8,al,bz,cond_true,cond_false,Bool.not_true,Bool.not_false,Option.bind_some,Int.toNat_natCast,Int.toNat_zero,aa,List.length_append,List.length_singleton,List.length_set,List.length_replicate,List.length_cons,List.length_nil,List.append_nil]
  ·have Ir:0<(ic t).length:=by
    apply List.length_pos_iff.2
    intro h;rw[uj]at h;omega
   rw[yh ht]at hm hb ⊢
   rw[List.length_cons]at hm hb
   have hdl:(ic (t/2)).length≤100000:=by
    have:=C6 _ t hd
    exact rI _ _ (Nat.lt_of_le_of_lt (Nat.div_le_self _ _) this)
   simp (disch:=omega) only[aD,ay,cB,cv,ck,cf,aG,ba,br,b8,al,bz,cond_true,cond_false,Bool.not_true,Bool.not_false,Option.bind_some,Int.toNat_natCast,Int.toNat_zero,aa,List.length_append,List.length_singleton,List.length_set,List.length_replicate,List.length_cons,List.length_nil,RV N hN t hd]
   rw[BI N hN x2 x3 x4 x5 (m-1) n (t/2) (bits++[((t%2:Nat):Int)]) (by omega) (by omega) hdl (by simp;omega)]
   simp
theorem LP(l:List Int){i:Nat}(h:i<l.length):uu (l.drop i)=l.getD i 0+2*uu (l.drop (i+1)):=by
 rw[List.drop_eq_getElem_cons h,uu,List.getD_eq_getElem?_getD,List.getElem?_eq_getElem h];rfl
theorem wT: ∀{l:List Int},(∀d∈l,d=0∨d=1)→0≤uu l
 |[],_=>Int.le_refl _
 |d::r,h=>by
  have h1:=wT (l:=r) fun x hx=>h x (List.mem_cons_of_mem _ hx)
  have:=h d (List.mem_cons_self ..)
  simp only[uu];omega
theorem pk: ∀(l:List Int) (i:Nat),(∀d∈l,d=0∨d=1)→uu (l.drop i)≤uu l
 |l,0,_=>Int.le_refl _
 |[],i+1,_=>Int.le_refl _
 |d::r,i+1,h=>by
  have h1:=pk r i fun x hx=>h x (List.mem_cons_of_mem _ hx)
  have h2:=wT (l:=r) fun x hx=>h x (List.mem_cons_of_mem _ hx)
  have:=h d (List.mem_cons_self ..)
  rw[List.drop_succ_cons,uu];omega
theorem oN(N:Nat)(hN:4000000≤N)(a d:Int)(hd:0<d)(Kp:Fit a 80000)(LR:Fit d 80000)(x4 x5:av){bits:List Int}(hb: ∀x∈bits,x=0∨x=1)(hbv:uu bits=a.natAbs)(sm:bits.length≤4000000):
  ∀(k n:Nat) (q r:Int),k≤bits.length→k<n→0≤q→0≤r→r<d→uu (bits.drop k)=q*d+r→
  eU.l9 N n (cg a) (cg d) x4 x5 bits (cg q) (cg r) ((k:Int)-1)=some (cg (a/d),cg (a%d))
 |k,0,q,r,_,hn,_,_,_,_=>by omega
 |0,n+1,q,r,_,_,hq,hr,gV,hv=>by
  unfold eU.l9 eU.vk
  rw[List.drop_zero,hbv]at hv
  have hqa:q≤a.natAbs:=by
   have:q*1≤q*d:=Int.mul_le_mul_of_nonneg_left (by omega) hq
   omega
  have fq:Fit q 900000:=(Kp.of_le (u:=q) (by omega)).mono (by omega)
  have fr:Fit r 900000:=(LR.of_le (u:=r) (by omega)).mono (by omega)
  have f1:Fit 1 900000:=(Fit.i64 (v:=1) (by omega) (by omega)).mono (by omega)
  have fq':Fit (-q) 900000:=fq.neg
  have fd:Fit d 900000:=LR.mono (by omega)
  rw[cv (by omega),cond_false]
  by_cases ha:a<0
  ·have XJ:(a.natAbs:Int)= -a:=by omega
   have e0:(cg a).1=true:=decide_eq_true ha
   simp only[e0,Bool.not_true,cond_false,ph,Option.bind_some]
   by_cases Y7:r=0
   ·subst Y7
    rw[ck (by unfold rJ;simp),cond_true]
    simp only[rK N hN fq,Option.bind_some]
    have e1:a=d*(-q):=by rw[Int.mul_neg,Int.mul_comm];omega
    have e2:a/d= -q:=by rw[e1,Int.mul_ediv_cancel_left _ (by omega)]
    have e3:a%d=0:=by rw[e1,Int.mul_emod_right]
    rw[e2,e3]
   ·rw[cf (by unfold rJ;rw[if_neg (by omega),if_pos (by omega)];omega),cond_false]
    simp (disch:=omega) only[rK N hN fq,fH N (by omega) (show-9223372036854775808≤(1:Int)by omega) (by omega),Option.bind_some,rL N hN fq' f1,rL N hN fd fr]
    have e1:a=(d-r)+d*(-q-1):=by rw[Int.mul_sub,Int.mul_neg,Int.mul_one,Int.mul_comm];omega
    have e2:a/d= -q-1:=by
     rw[e1,Int.add_mul_ediv_left _ _ (by omega),Int.ediv_eq_zero_of_lt (by omega) (by omega)];omega
    have e3:a%d=d-r:=by rw[e1,Int.add_mul_emod_self_left,Int.emod_eq_of_lt (by omega) (by omega)]
    rw[e2,e3]
  ·have XJ:(a.natAbs:Int)=a:=by omega
   have e0:(cg a).1=false:=decide_eq_false ha
   simp only[e0,Bool.not_false,cond_true]
   have e1:a=r+d*q:=by rw[Int.mul_comm];omega
   have e2:a/d=q:=by rw[e1,Int.add_mul_ediv_left _ _ (by omega),Int.ediv_eq_zero_of_lt hr gV];omega
   have e3:a%d=r:=by rw[e1,Int.add_mul_emod_self_left,Int.emod_eq_of_lt hr gV]
   rw[e2,e3]
 |k+1,n+1,q,r,hk,hn,hq,hr,gV,hv=>by
  unfold eU.l9 eU.vk
  have e:((k+1:Nat):Int)-1=(k:Int):=by omega
  have hle:=pk bits k hb
  have akx:=pk bits (k+1) hb
  rw[hbv]at hle akx
  have hqa:q≤a.natAbs:=by
   have:q*1≤q*d:=Int.mul_le_mul_of_nonneg_left (by omega) hq
   omega
  have fq:Fit q 80000:=Kp.of_le (by omega)
  have fr:Fit r 80000:=LR.of_le (by omega)
  have fqq:=fq.add fq
  have frr:=fr.add fr
  have f1:Fit 1 80000:=(Fit.i64 (v:=1) (by omega) (by omega)).mono (by omega)
  have hvk:=LP bits (i:=k) (by omega)
  have xw:bits.getD k 0=0∨bits.getD k 0=1:=by
   rw[List.getD_eq_getElem?_getD,List.getElem?_eq_getElem (show k<bits.length by omega)]
   exact hb _ (List.getElem_mem _)
  rw[e,cB (by omega),cond_true]
  have e2q:(q+q)*d=2*(q*d):=by rw[←Int.two_mul,Int.mul_assoc]
  have ae5:(q+q+1)*d=2*(q*d)+d:=by rw[Int.add_mul,e2q,Int.one_mul]
  simp (disch:=omega) only[aD,ay,cB,cv,ck,cf,aG,ba,br,b8,al,bz,cond_true,cond_false,Bool.not_true,Bool.not_false,Option.bind_some,Int.toNat_natCast,Int.toNat_zero,aa,List.length_append,List.length_singleton,List.length_set,List.length_replicate,List.length_cons,List.length_nil,fT N hN (fq.mono (by omega)) (fq.mono (by omega)),fT N hN (fr.mono (by omega)) (fr.mono (by omega)),fH N (by omega) (show-9223372036854775808≤(1:Int)by omega) (by omega)]
  rcases xw with xw|xw
  ·rw[xw,cf (by omega),cond_false]
   simp only[ID N hN (frr.mono (by omega)) (LR.mono (by omega)),Option.bind_some]
   by_cases QQ:d≤r+r
   ·rw[cB (by unfold rJ;split<;>(try split)<;>omega),cond_true]
    simp only[rL N hN (frr.mono (by omega)) (LR.mono (by omega)),fT N hN (fqq.mono (by omega)) (f1.mono (by omega)),Option.bind_some]
    refine oN N hN a d hd Kp LR x4 x5 hb hbv sm k n _ _ (by omega) (by omega) (by omega) (by omega) (by omega) ?_
    rw[hvk,xw,hv,ae5];omega
   ·rw[cv (by unfold rJ;rw[if_pos (by omega)];omega),cond_false]
    refine oN N hN a d hd Kp LR x4 x5 hb hbv sm k n _ _ (by omega) (by omega) (by omega) (by omega) (by omega) ?_
    rw[hvk,xw,hv,e2q];omega
  ·rw[xw,ck rfl,cond_true]
   have ae6:=frr.add (f1.mono (show 80000≤80001 by omega))
   simp only[fT N hN (frr.mono (by omega)) (f1.mono (by omega)),ID N hN (ae6.mono (by omega)) (LR.mono (by omega)),Option.bind_some]
   by_cases QQ:d≤r+r+1
   ·rw[cB (by unfold rJ;split<;>(try split)<;>omega),cond_true]
    simp only[rL N hN (ae6.mono (by omega)) (LR.mono (by omega)),fT N hN (fqq.mono (by omega)) (f1.mono (by omega)),Option.bind_some]
    refine oN N hN a d hd Kp LR x4 x5 hb hbv sm k n _ _ (by omega) (by omega) (by omega) (by omega) (by omega) ?_
    rw[hvk,xw,hv,ae5];omega
   ·rw[cv (by unfold rJ;rw[if_pos (by omega)];omega),cond_false]
    refine oN N hN a d hd Kp LR x4 x5 hb hbv sm k n _ _ (by omega) (by omega) (by omega) (by omega) (by omega) ?_
    rw[hvk,xw,hv,e2q];omega
theorem Kq(N:Nat)(hN:5000000≤N){a d:Int}(hd:0<d)(Kp:Fit a 80000)(LR:Fit d 80000):eU N (cg a) (cg d)=some (cg (a/d),cg (a%d)):=by
 unfold eU eU.b
 have sm:(bin a.natAbs).length≤32*80000:=Ox Kp
 have h1:=BI N (by omega) (cg a) (cg d) (false,([],())) (false,([],())) (bin a.natAbs).length N a.natAbs [] (Nat.le_refl _) (by omega) (Nat.le_trans Kp.len (by omega)) (by simp;omega)
 rw[List.nil_append]at h1
 refine h1.trans ?_
 rw[←gG]
 exact oN N (by omega) a d hd Kp LR _ _ (RX _) (RW _) (by omega) (bin a.natAbs).length N 0 0 (Nat.le_refl _) (by omega) (by omega) (by omega) hd (by rw[List.drop_length];simp[uu])
end VM
end
section
namespace VM
open Go VM.F
def cC(v:Int):bH:=(v/18446744073709551616,(v%18446744073709551616,()))
theorem wmk{a b v:Int}(h1:a=v/18446744073709551616)(h2:b=v%18446744073709551616):((a,(b,())):bH)=cC v:=by
 unfold cC;rw[h1,h2]
theorem Ft{a b v:Int}{α:Type}{c:α}(h1:a=v/18446744073709551616)(h2:b=v%18446744073709551616):(some (((a,(b,())):bH),c):Option (bH×α))=some (cC v,c):=by
 rw[wmk h1 h2]
theorem Oy{a b c d:Int}(h1:a=c)(h2:b=d):(some (a,b):Option (Int×Int))=some (c,d):=by rw[h1,h2]
theorem zf(N:Nat){hi lo:Int}(h0:0≤hi)(h1:hi<9223372036854775808)(l0:0≤lo)(l1:lo<18446744073709551616):mQ N false hi lo=some (cC (hi*18446744073709551616+lo),true):=by
 unfold mQ mQ.b
 rw[Bool.not_false,cond_true,cv (by omega),cond_false,al (by omega) (by omega)]
 exact Ft (by omega) (by omega)
theorem pn(N:Nat){hi lo:Int}(h0:0≤hi)(l0:0≤lo)(l1:lo<18446744073709551616)(hm:hi*18446744073709551616+lo≤170141183460469231731687303715884105728):mQ N true hi lo=some (cC (-(hi*18446744073709551616+lo)),true):=by
 unfold mQ mQ.b
 have hj:mQ.j7 N hi lo cc=some (cC (-(hi*18446744073709551616+lo)),true):=by
  unfold mQ.j7 mQ.IB
  rw[oM N (by omega) (by omega) l0 l1 (by omega) (by omega),Option.bind_some]
  by_cases hl:lo=0
  ·subst hl
   rw[if_neg (by omega)]
   rw[oM N (by omega) (by omega) h0 (by omega) (by omega) (by omega),Option.bind_some,gE]
   exact Ft (by split<;>omega) (by omega)
  ·rw[if_pos (by omega)]
   rw[oM N (by omega) (by omega) h0 (by omega) (by omega) (by omega),Option.bind_some,gE]
   exact Ft (by split<;>omega) (by omega)
 rw[Bool.not_true,cond_false,ay (by omega),cond_false]
 by_cases he:hi=9223372036854775808
 ·rw[ck he,cond_true,ay (by omega),cond_false];exact hj
 ·rw[cf he,cond_false];exact hj
theorem A5{a b:Int}(a0: -9223372036854775808≤a)(a1:a<9223372036854775808)(b0: -9223372036854775808≤b)(b1:b<9223372036854775808):
  0≤(a.natAbs:Int)*b.natAbs∧(a.natAbs:Int)*b.natAbs≤85070591730234615865843651857942052864:=by
 have:=mul_lt (m:=9223372036854775808) (n:=9223372036854775808) (show 0≤(a.natAbs:Int)by omega) (show 0≤(b.natAbs:Int)by omega) (by omega) (by omega)
 omega
theorem RZ(N:Nat){a b:Int}(a0: -9223372036854775808≤a)(a1:a<9223372036854775808)(b0: -9223372036854775808≤b)(b1:b<9223372036854775808):R1 N a b=some (cC (a*b)):=by
 unfold R1
 have hm:=A5 a0 a1 b0 b1
 simp only[ye N a0 a1,ye N b0 b1,Option.bind_some,On N (show 0≤(a.natAbs:Int)by omega) (by omega) (show 0≤(b.natAbs:Int)by omega) (by omega),qP]
 obtain⟨m,hme⟩: ∃m,m=(a.natAbs:Int)*b.natAbs:=⟨_,rfl⟩
 rw[←hme]at hm ⊢
 have hd:m/18446744073709551616*18446744073709551616+m%18446744073709551616=m:=by omega
 by_cases h1:a<0<;>by_cases h2:b<0
 ·rw[aD h1,aD h2,beq_self_eq_true,Bool.not_true,zf N (by omega) (by omega) (by omega) (by omega),Option.bind_some,hd]
  have:m=a*b:=by rw[hme,show(a.natAbs:Int)= -a from by omega,show(b.natAbs:Int)= -b from by omega,Int.neg_mul_neg]
  rw[this]
 ·rw[aD h1,ay (x:=b) (by omega),show(!(true==false))=true from rfl,pn N (by omega) (by omega) (by omega) (by omega),Option.bind_some,hd]
  have:m= -(a*b):=by rw[hme,show(a.natAbs:Int)= -a from by omega,show(b.natAbs:Int)=b from by omega,Int.neg_mul]
  rw[this,Int.neg_neg]
 ·rw[ay (x:=a) (by omega),aD h2,show(!(false==true))=true from rfl,pn N (by omega) (by omega) (by omega) (by omega),Option.bind_some,hd]
  have:m= -(a*b):=by rw[hme,show(a.natAbs:Int)=a from by omega,show(b.natAbs:Int)= -b from by omega,Int.mul_neg]
  rw[this,Int.neg_neg]
 ·rw[ay (x:=a) (by omega),ay (x:=b) (by omega),beq_self_eq_true,Bool.not_true,zf N (by omega) (by omega) (by omega) (by omega),Option.bind_some,hd]
  have:m=a*b:=by rw[hme,show(a.natAbs:Int)=a from by omega,show(b.natAbs:Int)=b from by omega]
  rw[this]
theorem Oz(N:Nat){v:Int}(v0: -170141183460469231731687303715884105728≤v)(v1:v<170141183460469231731687303715884105728):R2 N (cC v)=some ((v.natAbs:Int)/18446744073709551616,(v.natAbs:Int)%18446744073709551616):=by
 unfold R2 cC
 dsimp only
 by_cases h:0≤v
 ·rw[cB (by omega),cond_true,bz (by omega) (by omega)]
  exact Oy (by omega) (by omega)
 ·rw[cv (by omega),cond_false,oM N (by omega) (by omega) (by omega) (by omega) (by omega) (by omega),Option.bind_some]
  dsimp only
  rw[mM]
  by_cases hl:v%18446744073709551616=0
  ·rw[if_neg (by omega),oM N (by omega) (by omega) (by omega) (by omega) (by omega) (by omega),Option.bind_some]
   exact Oy (by omega) (by omega)
  ·rw[if_pos (by omega),oM N (by omega) (by omega) (by omega) (by omega) (by omega) (by omega),Option.bind_some]
   exact Oy (by omega) (by omega)
theorem R3{m d:Int}(hd:0<d)(hm:0≤m):m/d=m/18446744073709551616/d*18446744073709551616+(m/18446744073709551616%d*18446744073709551616+m%18446744073709551616)/d∧
  m%d=(m/18446744073709551616%d*18446744073709551616+m%18446744073709551616)%d:=by
 have e:=Int.mul_ediv_add_emod (m/18446744073709551616) d
 have e0:m=(m/18446744073709551616%d*18446744073709551616+m%18446744073709551616)+d*(m/18446744073709551616/d*18446744073709551616):=by
  rw[←Int.mul_assoc];omega
 constructor
 ·conv=>lhs;rw[e0]
  rw[Int.add_mul_ediv_left _ _ (by omega)];omega
 ·conv=>lhs;rw[e0]
  rw[Int.add_mul_emod_self_left]
theorem R4(N:Nat)(hN:100≤N){v d:Int}(v0: -170141183460469231731687303715884105728≤v)(v1:v<170141183460469231731687303715884105728)(d0:0<d)(d1:d<9223372036854775808):
  oO N (cC v) d=some (cC (v/d),v%d,true):=by
 unfold oO oO.b
 rw[ay (by omega),cond_false,Oz N v0 v1,Option.bind_some,bz (x:=d) (by omega) (by omega)]
 dsimp only
 obtain⟨m,hm⟩: ∃m:Int,m=v.natAbs:=⟨_,rfl⟩
 rw[←hm]
 have hmd:=Int.emod_lt_of_pos (m/18446744073709551616) d0
 have akz:=Int.emod_nonneg (m/18446744073709551616) (show d≠0 by omega)
 rw[Fg N hN (by omega) d0 (by omega) (by omega) (by omega),Option.bind_some,Int.zero_mul,Int.zero_add]
 dsimp only
 rw[Fg N hN akz hmd (by omega) (by omega) (by omega),Option.bind_some]
 dsimp only
 obtain⟨e1,e2⟩:=R3 d0 (show 0≤m by omega)
 rw[←e2]
 have Lk:0≤m/18446744073709551616/d:=Int.ediv_nonneg (by omega) (by omega)
 have hq1:m/18446744073709551616/d≤m/18446744073709551616:=Int.ediv_le_self _ (by omega)
 have C2:=Int.emod_lt_of_pos m d0
 have Y7:=Int.emod_nonneg m (show d≠0 by omega)
 have hl0:0≤(m/18446744073709551616%d*18446744073709551616+m%18446744073709551616)/d:=Int.ediv_nonneg (by omega) (by omega)
 have ZH:(m/18446744073709551616%d*18446744073709551616+m%18446744073709551616)/d<18446744073709551616:=by
  rw[Int.ediv_lt_iff_lt_mul d0]
  have:=Int.mul_le_mul_of_nonneg_right (show m/18446744073709551616%d+1≤d by omega) (show(0:Int)≤18446744073709551616 by omega)
  rw[Int.add_mul,Int.one_mul,Int.mul_comm d]at this;omega
 generalize (m/18446744073709551616%d*18446744073709551616+m%18446744073709551616)/d=ql at*
 generalize hqh:m/18446744073709551616/d=qh at*
 have hmq:=Int.mul_ediv_add_emod m d
 by_cases h:0≤v
 ·have hv:m=v:=by omega
  rw[cB (show(0:Int)≤(cC v).1 by show 0≤v/_;omega),cond_true,al (x:=qh) (by omega) (by omega),al (x:=m%d) (by omega) (by omega),←hv]
  unfold cC
  exact Ft (by omega) (by omega)
 ·have hv:v= -m:=by omega
  rw[cv (show(cC v).1<0 by show v/_<0;omega),cond_false]
  by_cases hr:0<m%d
  ·rw[aD hr,cond_true,ui N hl0 (by omega) (by omega) (by omega),Option.bind_some]
   unfold oO.Da oO.uv
   dsimp only
   rw[bz (x:=d-m%d) (by omega) (by omega),bz (x:=qh+(ql+1+0)/18446744073709551616) (by omega) (by omega)]
   rw[pn N (by omega) (by omega) (by omega) (by
    have:m/d*1≤m/d*d:=Int.mul_le_mul_of_nonneg_left (by omega) (Int.ediv_nonneg (by omega) (by omega))
    rw[Int.mul_comm]at hmq;omega),Option.bind_some,al (x:=d-m%d) (by omega) (by omega)]
   have e3:v=(d-m%d)+d*(-(m/d)-1):=by rw[hv,Int.mul_sub,Int.mul_neg,Int.mul_one];omega
   have e4:v/d= -(m/d)-1:=by
    rw[e3,Int.add_mul_ediv_left _ _ (by omega),Int.ediv_eq_zero_of_lt (by omega) (by omega)];omega
   have e5:v%d=d-m%d:=by rw[e3,Int.add_mul_emod_self_left,Int.emod_eq_of_lt (by omega) (by omega)]
   rw[e4,e5]
   dsimp only
   rw[show-((qh+(ql+1+0)/18446744073709551616)*18446744073709551616+(ql+1+0)%18446744073709551616)= -(m/d)-1 by omega]
  ·have dx:m%d=0:=by omega
   rw[ay (by omega),cond_false]
   unfold oO.Da oO.uv
   rw[pn N (by omega) (by omega) (by omega) (by
    have:m/d*1≤m/d*d:=Int.mul_le_mul_of_nonneg_left (by omega) (Int.ediv_nonneg (by omega) (by omega))
    rw[Int.mul_comm]at hmq;omega),Option.bind_some,al (x:=m%d) (by omega) (by omega)]
   have e3:v=d*(-(m/d)):=by rw[hv,Int.mul_neg];omega
   have e4:v/d= -(m/d):=by rw[e3,Int.mul_ediv_cancel_left _ (by omega)]
   have e5:v%d=0:=by rw[e3,Int.mul_emod_right]
   rw[e4,e5,dx]
   dsimp only
   rw[show-(qh*18446744073709551616+ql)= -(m/d)by omega]
theorem Db(N:Nat){v:Int}(v0: -170141183460469231731687303715884105728≤v)(v1:v<170141183460469231731687303715884105728):Dc N (cC v)=some (ur v):=by
 unfold Dc cC
 rw[ay (by omega),cond_false]
 dsimp only
 have hw0: -9223372036854775808≤W .i64 (v%18446744073709551616)∧W .i64 (v%18446744073709551616)<9223372036854775808:=by rw[gE];split<;>omega
 rw[mN hw0.1 hw0.2]
 have hwv:W .i64 (v%18446744073709551616)=if 9223372036854775808≤v%18446744073709551616 then v%18446744073709551616-18446744073709551616 else v%18446744073709551616:=by rw[gE];split<;>split<;>omega
 rw[hwv]
 unfold ur
 by_cases h: -9223372036854775808≤v∧v<9223372036854775808
 ·rw[if_pos h]
  by_cases hn:v<0
  ·rw[if_pos (show 9223372036854775808≤v%18446744073709551616 by omega),if_pos (by omega),ck (by omega),Bool.not_true,cond_false]
   congr 2;omega
  ·rw[if_neg (show ¬9223372036854775808≤v%18446744073709551616 by omega),if_neg (by omega),ck (by omega),Bool.not_true,cond_false]
   congr 2;omega
 ·rw[if_neg h]
  by_cases hm:9223372036854775808≤v%18446744073709551616
  ·rw[if_pos hm,if_pos (by omega),cf (by omega),Bool.not_false,cond_true]
  ·rw[if_neg hm,if_neg (by omega),cf (by omega),Bool.not_false,cond_true]
theorem BJ(N:Nat){l:List Int}(h: ∀x∈l,-9223372036854775808≤x∧x<9223372036854775808)(hl:l.length≤1000000): ∀(m n i:Nat),l.length-i≤m→m<n→i≤l.length→
  lP.l3 N n ((l.take i).sum/18446744073709551616) ((l.take i).sum%18446744073709551616) l (l.length:Int) (i:Int)=some (ur l.sum)
 |m,0,i,_,hn,_=>by omega
 |m,n+1,i,hm,hn,hi=>by
  unfold lP.l3 lP.g7
  have f1:=C9 (l.take i) (fun x hx=>h x (List.mem_of_mem_take hx))
  rw[List.length_take,Nat.min_eq_left (by omega)]at f1
  by_cases h1:i<l.length
  ·obtain⟨g0,g1⟩:=mP h i
   have hs:=dU l h1
   simp only[Int.toNat_natCast]
   generalize hx:l.getD i 0=x at*
   generalize (l.take i).sum=t at*
   rw[mM,ui N (by omega) (by omega) (by omega) (by omega)]
   simp only[mN g0 g1]
   have hih:=BJ N h hl (m-1) n (i+1) (by omega) (by omega) (by omega)
   rw[hs]at hih
   rw[aD (by omega),cond_true,aG (by omega) (by omega),cond_true,Option.bind_some,ay (by omega),cond_false]
   by_cases hn:x<0
   ·rw[if_pos hn,al (x:=t/18446744073709551616+ -1) (by omega) (by omega),al (x:=(_:Int)/18446744073709551616) (by omega) (by omega),al (by omega) (by omega),al (x:=(i:Int)+1) (by omega) (by omega)]
    refine Eq.trans ?_ hih
    congr 1<;>omega
   ·rw[if_neg hn,al (x:=t/18446744073709551616+0) (by omega) (by omega),al (x:=(_:Int)/18446744073709551616) (by omega) (by omega),al (by omega) (by omega),al (x:=(i:Int)+1) (by omega) (by omega)]
    refine Eq.trans ?_ hih
    congr 1<;>omega
  ·rw[List.take_of_length_le (by omega)]at f1 ⊢
   rw[ay (by omega),cond_false]
   have:=Db N (v:=l.sum) (by omega) (by omega)
   unfold Dc cC at this
   exact this
theorem Kr(N:Nat){l:List Int}(h: ∀x∈l,-9223372036854775808≤x∧x<9223372036854775808)(hl:l.length≤1000000)(hN:1000000<N):lP N l=some (ur l.sum):=by
 unfold lP lP.b
 have:=BJ N h hl l.length N 0 (by omega) (by omega) (by omega)
 rw[List.take_zero,List.sum_nil]at this
 exact this
end VM
end
section
namespace VM
open Go
theorem cond_not{α:Type}(b:Bool)(x y:α):cond (!b) x y=cond b y x:=by cases b<;>rfl
theorem bP{α:Type}(a b:Int)(x y:α):cond (aH a b) x y=if a<b then x else y:=by
 by_cases h:a<b
 ·rw[aD h,if_pos h];rfl
 ·rw[ay (by omega),if_neg h];rfl
theorem bL{α:Type}(a b:Int)(x y:α):cond (bV a b) x y=if a≤b then x else y:=by
 by_cases h:a≤b
 ·rw[cB h,if_pos h];rfl
 ·rw[cv (by omega),if_neg h];rfl
theorem aA{α:Type}(a b:Int)(x y:α):cond (az a b) x y=if a=b then x else y:=by
 by_cases h:a=b
 ·rw[ck h,if_pos h];rfl
 ·rw[cf h,if_neg h];rfl
theorem ed{α:Type}(p:Prop) [Decidable p](x y:α):cond (decide p) x y=if p then x else y:=by
 by_cases h:p
 ·rw[decide_eq_true h,if_pos h];rfl
 ·rw[decide_eq_false h,if_neg h];rfl
theorem drop_cons{α:Type}{l:List α}{i:Nat}(h:i<l.length)(d:α):l.drop i=l.getD i d::l.drop (i+1):=by
 rw[List.drop_eq_getElem_cons h,List.getD_eq_getElem?_getD,List.getElem?_eq_getElem h];rfl
theorem nH{α σ β:Type}(l:List α)(d:α)(F:Nat→Int→σ→Option β)(g:List α→σ→Option β)(I:Nat→σ→Prop)
  (hs: ∀n i s,i<l.length→I i s→(∀s',I (i+1) s'→F n ((i+1:Nat):Int) s'=g (l.drop (i+1)) s')→F (n+1) (i:Int) s=g (l.getD i d::l.drop (i+1)) s)
  (he: ∀n s,I l.length s→F (n+1) (l.length:Int) s=g [] s): ∀m n i s,l.length-i≤m→m<n→i≤l.length→I i s→F n (i:Int) s=g (l.drop i) s
 |m,0,i,s,_,hn,_,_=>by omega
 |m,n+1,i,s,hm,hn,hi,hI=>by
  by_cases h:i<l.length
  ·rw[drop_cons h d]
   exact hs n i s h hI fun s' sF=>nH l d F g I hs he (m-1) n (i+1) s' (by omega) (by omega) (by omega) sF
  ·have:i=l.length:=by omega
   subst this
   rw[List.drop_length];exact he n s hI
theorem uw{α β:Type}(l:List α)(d:α)(F:Nat→Int→Option β)(g:List α→Option β)
  (hs: ∀n i,i<l.length→F n ((i+1:Nat):Int)=g (l.drop (i+1))→F (n+1) (i:Int)=g (l.getD i d::l.drop (i+1)))
  (he: ∀n,F (n+1) (l.length:Int)=g []) (n:Nat) (hn:l.length<n):F n 0=g l:=by
 have:=nH (σ:=Unit) l d (fun n i _=>F n i) (fun l _=>g l) (fun _ _=>True) (fun n i _ h _ hr=>hs n i h (hr () trivial)) (fun n _ _=>he n) l.length n 0 () (by omega) hn (by omega) trivial
 simpa using this
theorem scan{F:Nat→Int→Option Bool}{len:Nat}(P:Nat→Prop) [DecidablePred P]
  (hs: ∀n i r,i<len→(∀j,j<i→P j)→F n ((i+1:Nat):Int)=r→F (n+1) (i:Int)=if P i then r else some false) {e:Bool} (he: ∀n,F (n+1) (len:Int)=some e):
  ∀m n i,len-i≤m→m<n→i≤len→(∀j,j<i→P j)→F n (i:Int)=some (decide (∀j,j<len→i≤j→P j)&&e)
 |m,0,i,_,hn,_,_=>by omega
 |m,n+1,i,hm,hn,hi,hp=>by
  by_cases h:i<len
  ·rw[hs n i _ h hp rfl]
   by_cases hP:P i
   ·rw[if_pos hP,scan P hs he (m-1) n (i+1) (by omega) (by omega) (by omega) (fun j hj=>by
     by_cases sX:j=i
     ·subst sX;exact hP
     ·exact hp j (by omega))]
    congr 2
    rw[decide_eq_decide]
    refine⟨fun hj j h2 h1=> ?_,fun hj j h2 h1=>hj j h2 (by omega)⟩
    by_cases sX:j=i
    ·subst sX;exact hP
    ·exact hj j h2 (by omega)
   ·rw[if_neg hP,decide_eq_false (fun hj=>hP (hj i h (Nat.le_refl i)))];rfl
  ·have:i=len:=by omega
   subst this
   rw[he n,decide_eq_true (fun j h2 h1=>absurd h2 (by omega))];rfl
theorem e7{F:Nat→Int→Option Bool}{len:Nat}(P:Nat→Prop) [DecidablePred P]{e:Bool}
  (hs: ∀n i r,i<len→(∀j,j<i→P j)→F n ((i+1:Nat):Int)=r→F (n+1) (i:Int)=if P i then r else some false) (he: ∀n,F (n+1) (len:Int)=some e) (n:Nat) (hn:len<n):
  F n 0=some (decide (∀j,j<len→P j)&&e):=by
 have:=scan P hs he len n 0 (by omega) hn (by omega) (fun j hj=>absurd hj (by omega))
 rw[show((0:Nat):Int)=0 from rfl]at this
 rw[this]
 congr 2
 rw[decide_eq_decide]
 exact⟨fun h j hj=>h j hj (by omega),fun h j hj _=>h j hj⟩
end VM
end
section
namespace VM
open Go VM.F
def eg(x:Int):Prop:= -170141183460469231731687303715884105728≤x∧x<170141183460469231731687303715884105728
instance(x:Int):Decidable (eg x):=by unfold eg;infer_instance
theorem vG(N:Nat){x:Int}(h0: -9223372036854775808≤x)(h1:x<9223372036854775808):R5 N x=some (cC x):=by
 unfold R5
 rw[ay (by omega),cond_false,mN h0 h1,mM]
 congr 1
 exact wmk (by split<;>omega) rfl
theorem R6{ws:List Int}(i:Nat):(ws.map cC).getD i cc=cC (ws.getD i 0):=by
 by_cases h:i<ws.length
 ·rw[List.getD_eq_getElem?_getD,List.getElem?_map,List.getElem?_eq_getElem h,List.getD_eq_getElem?_getD,List.getElem?_eq_getElem h];rfl
 ·rw[List.getD_eq_getElem?_getD,List.getElem?_eq_none (by rw[List.length_map];omega),List.getD_eq_getElem?_getD,List.getElem?_eq_none (by omega)];rfl
theorem IF{ws:List Int}(h: ∀x∈ws,eg x): -(170141183460469231731687303715884105728*(ws.length:Int))≤ws.sum∧ws.sum≤170141183460469231731687303715884105728*(ws.length:Int):=by
 induction ws with
 |nil=>simp
 |cons x ws ih=>
  have h0:=h x (List.mem_cons_self ..)
  have ih:=ih (fun y hy=>h y (List.mem_cons_of_mem _ hy))
  unfold eg at h0
  rw[List.sum_cons,List.length_cons];omega
theorem OA{t w:Int}{lo hi top:Int}(hw:eg w)(xv:lo=t%18446744073709551616)(D4:hi=t/18446744073709551616%18446744073709551616)(akC:top=t/340282366920938463463374607431768211456):
  (lo+w%18446744073709551616+0)%18446744073709551616=(t+w)%18446744073709551616∧
  (hi+(w/18446744073709551616)%18446744073709551616+(lo+w%18446744073709551616+0)/18446744073709551616)%18446744073709551616=(t+w)/18446744073709551616%18446744073709551616∧
  top+(if w/18446744073709551616<0 then-1 else 0)+(hi+(w/18446744073709551616)%18446744073709551616+(lo+w%18446744073709551616+0)/18446744073709551616)/18446744073709551616=(t+w)/340282366920938463463374607431768211456:=by
 unfold eg at hw
 subst xv D4 akC
 refine⟨by omega,by omega,?_⟩
 split<;>omega
def IG(t:Int):bH×Bool:=if eg t then(cC t,true)else(cc,false)
theorem W64(x:Int):W .u64 x=x%18446744073709551616:=mM x
theorem BK(N:Nat){ws:List Int}(h: ∀x∈ws,eg x)(hl:ws.length≤1000000): ∀(m n i:Nat) (t:Int),ws.length-i≤m→m<n→i≤ws.length→t=(ws.take i).sum→
  jt.l3 N n cc (t/340282366920938463463374607431768211456) (t/18446744073709551616%18446744073709551616) (t%18446744073709551616) (ws.map cC) (ws.length:Int) (i:Int)=some (IG ws.sum)
 |m,0,i,t,_,hn,_,_=>by omega
 |m,n+1,i,t,hm,hn,hi,ht=>by
  unfold jt.l3 jt.g7
  have f1:=IF (ws:=ws.take i) (fun x hx=>h x (List.mem_of_mem_take hx))
  rw[List.length_take,Nat.min_eq_left (by omega),←ht]at f1
  by_cases h1:i<ws.length
  ·have hw:eg (ws.getD i 0):=by
    rw[List.getD_eq_getElem?_getD,List.getElem?_eq_getElem h1];exact h _ (List.getElem_mem h1)
   have hs:=dU ws h1
   rw[←ht]at hs
   have st:=OA (t:=t) (w:=ws.getD i 0) hw rfl rfl rfl
   have s8:=BK N h hl (m-1) n (i+1) (t+ws.getD i 0) (by omega) (by omega) (by omega) hs.symm
   rw[aD (by omega),cond_true,aG (by omega) (by rw[List.length_map];omega),cond_true,Int.toNat_natCast,R6]
   unfold cC
   dsimp only
   have hw':=hw
   unfold eg at hw'
   generalize ws.getD i 0=w at*
   have hq:0≤(t%18446744073709551616+w%18446744073709551616+0)/18446744073709551616∧(t%18446744073709551616+w%18446744073709551616+0)/18446744073709551616≤1:=by omega
   rw[ui N (by omega) (by omega) (by omega) (by omega),Option.bind_some,W64,ui N (by omega) (by omega) hq.1 hq.2,Option.bind_some,ay (x:=63) (by omega),cond_false,st.1,st.2.1]
   rw[mN (by omega) (by omega)]
   have hc:0≤(t/18446744073709551616%18446744073709551616+w/18446744073709551616%18446744073709551616+(t%18446744073709551616+w%18446744073709551616+0)/18446744073709551616)/18446744073709551616∧(t/18446744073709551616%18446744073709551616+w/18446744073709551616%18446744073709551616+(t%18446744073709551616+w%18446744073709551616+0)/18446744073709551616)/18446744073709551616≤1:=by omega
   have hif: -1≤(if w/18446744073709551616<0 then(-1:Int)else 0)∧(if w/18446744073709551616<0 then(-1:Int)else 0)≤0:=by split<;>omega
   rw[al (x:=t/340282366920938463463374607431768211456+_) (by omega) (by omega),al (x:=(_:Int)/18446744073709551616) (by omega) (by omega),st.2.2,al (by omega) (by omega),al (x:=(i:Int)+1) (by omega) (by omega)]
   exact s8
  ·have e:(ws.take i).sum=ws.sum:=by rw[List.take_of_length_le (by omega)]
   rw[e]at ht
   rw[ay (by omega),cond_false,ay (x:=63) (by omega),cond_false,←ht]
   have hh: -9223372036854775808≤W .i64 (t/18446744073709551616%18446744073709551616)∧W .i64 (t/18446744073709551616%18446744073709551616)<9223372036854775808:=by rw[gE];split<;>omega
   have hwv:W .i64 (t/18446744073709551616%18446744073709551616)=if 9223372036854775808≤t/18446744073709551616%18446744073709551616 then t/18446744073709551616%18446744073709551616-18446744073709551616 else t/18446744073709551616%18446744073709551616:=by rw[gE];split<;>split<;>omega
   rw[mN hh.1 hh.2,hwv]
   unfold IG
   by_cases hI:eg t
   ·rw[if_pos hI]
    unfold eg at hI
    rw[ck (by split<;>split<;>omega),Bool.not_true,cond_false]
    exact Ft (by split<;>omega) rfl
   ·rw[if_neg hI]
    unfold eg at hI
    rw[cf (by split<;>split<;>omega),Bool.not_false,cond_true]
theorem Dd(N:Nat){ws:List Int}(h: ∀x∈ws,eg x)(hl:ws.length≤1000000)(hN:1000000<N):jt N (ws.map cC)=some (IG ws.sum):=by
 unfold jt jt.b
 rw[List.length_map]
 exact BK N h hl ws.length N 0 0 (by omega) (by omega) (by omega) (by simp)
end VM
end
section
namespace VM
open Go VM.F
theorem pq(N:Nat)(a lo hi:Int):xA N a lo hi=some (decide (lo≤a∧a≤hi)):=by
 unfold xA
 rw[bL,jV]
 by_cases h:lo≤a
 ·rw[if_pos h];congr 1;rw[decide_eq_decide];omega
 ·rw[if_neg h,decide_eq_false (by omega)]
theorem BL(N:Nat)(a lo hi:Int):A6 N a lo hi=some (decide (lo≤a∧a≤hi)):=pq N a lo hi
def pt(a b c d:Int):Prop:=(0≤a∧a≤3)∧(1≤b∧b≤1000000000000)∧(0≤c∧c≤1000000000)∧(0≤d∧d≤1000000000)
instance(a b c d:Int):Decidable (pt a b c d):=by unfold pt;infer_instance
def mR(l:aE)(i:Nat):Prop:=pt (l.getD i aN).1 (l.getD i aN).2.1 (l.getD i aN).2.2.1 (l.getD i aN).2.2.2.1
instance(l:aE):DecidablePred (mR l):=fun i=>by unfold mR;infer_instance
def pv(a b c d e f:Int):Prop:=0≤a∧(0≤b∧b≤4)∧(0≤c∧c≤1000000)∧(0≤d∧d≤1000000)∧(1≤e∧e≤4611686018427387904)∧0≤f
instance(a b c d e f:Int):Decidable (pv a b c d e f):=by unfold pv;infer_instance
def px(c:ae):Prop:=pv c.2.1 c.2.2.1 c.2.2.2.1 c.2.2.2.2.1 c.2.2.2.2.2.1 c.2.2.2.2.2.2.1
instance(c:ae):Decidable (px c):=by unfold px;infer_instance
def fu(c:ae):Bool:=decide (1≤c.1.length∧c.1.length≤6)&&(decide (∀j,j<c.1.length→mR c.1 j)&&decide (px c))
theorem R7(N:Nat)(hN:100≤N)(c:ae):xB N c=some (fu c):=by
 unfold xB xB.b fu
 rw[pq,Option.bind_some,cond_not,ed]
 by_cases hl:1≤c.1.length∧c.1.length≤6
 ·rw[if_pos (by omega),decide_eq_true hl,Bool.true_and]
  refine e7 (F:=fun n i=>xB.l4 N n c c.1 (c.1.length:Int) i) (mR c.1) (fun n i r hi hp hr=> ?_) (fun n=> ?_) N (by omega)
  ·unfold xB.l4 xB.cn
   rw[aD (by omega),cond_true,aG (by omega) (by omega),cond_true,Int.toNat_natCast,al (by omega) (by omega),aa]
   simp only[pq,Option.bind_some,cond_not,ed]
   by_cases hP:mR c.1 i
   ·rw[if_pos hP];unfold mR pt at hP
    repeat' split
    all_goals first|rfl|exact hr|omega
   ·rw[if_neg hP];unfold mR pt at hP
    repeat' split
    all_goals first|rfl|exact hr|omega
  ·unfold xB.l4 xB.cn
   rw[ay (by omega),cond_false]
   simp only[pq,Option.bind_some,cond_not,ed,bL,jV]
   by_cases hP:px c
   ·rw[decide_eq_true hP];unfold px pv at hP
    repeat' split
    all_goals first|rfl|omega|(rw[decide_eq_true (by omega)])
   ·rw[decide_eq_false hP];unfold px pv at hP
    repeat' split
    all_goals first|rfl|omega|(rw[decide_eq_false (by omega)])
 ·rw[if_neg (by omega),decide_eq_false hl,Bool.false_and]
theorem mS(N:Nat)(hN:100≤N)(c:ae):iH N c=some (fu c):=by
 unfold iH iH.b fu
 rw[bP,bP]
 by_cases hl:1≤c.1.length∧c.1.length≤6
 ·rw[if_neg (by omega),if_neg (by omega),decide_eq_true hl,Bool.true_and]
  refine e7 (F:=fun n i=>iH.l4 N n c i) (mR c.1) (fun n i r hi hp hr=> ?_) (fun n=> ?_) N (by omega)
  ·unfold iH.l4 iH.cn
   rw[aD (by omega),cond_true,aG (by omega) (by omega),cond_true,Int.toNat_natCast,al (by omega) (by omega),aa]
   simp only[BL,Option.bind_some,cond_not,ed]
   by_cases hP:mR c.1 i
   ·rw[if_pos hP];unfold mR pt at hP
    repeat' split
    all_goals first|rfl|exact hr|omega
   ·rw[if_neg hP];unfold mR pt at hP
    repeat' split
    all_goals first|rfl|exact hr|omega
  ·unfold iH.l4 iH.cn
   rw[ay (by omega),cond_false]
   simp only[BL,Option.bind_some,cond_not,ed,bL,jV]
   by_cases hP:px c
   ·rw[decide_eq_true hP];unfold px pv at hP
    repeat' split
    all_goals first|rfl|omega|(rw[decide_eq_true (by omega)])
   ·rw[decide_eq_false hP];unfold px pv at hP
    repeat' split
    all_goals first|rfl|omega|(rw[decide_eq_false (by omega)])
 ·rw[decide_eq_false hl,Bool.false_and]
  by_cases h:(c.1.length:Int)<1
  ·rw[if_pos h]
  ·rw[if_neg h,if_pos (by omega)]
def e8(a b:Int)(i:Nat)(c:Int):Prop:=1≤a∧a≤12∧1≤b∧b≤4∧(0<i→c<a)
instance(a b:Int)(i:Nat)(c:Int):Decidable (e8 a b i c):=by unfold e8;infer_instance
def dy(m:ax)(i:Nat):Prop:=e8 (m.getD i cc).1 (m.getD i cc).2.1 i (m.getD (i-1) cc).1
instance(m:ax):DecidablePred (dy m):=fun i=>by unfold dy;infer_instance
def iR(m:ax):Bool:=decide (∀j,j<m.length→dy m j)&&true
theorem zg(N:Nat){m:ax}(hl:m.length≤100000)(hN:200000≤N):kJ N m=some (iR m):=by
 unfold kJ kJ.b
 refine e7 (F:=fun n i=>kJ.l2 N n m m (m.length:Int) i) (dy m) (fun n i r hi hp hr=> ?_) (fun n=> ?_) N (by omega)
 ·unfold kJ.l2 kJ.eu
  rw[aD (by omega),cond_true,aG (by omega) (by omega),cond_true,Int.toNat_natCast,al (x:=(i:Int)+1) (by omega) (by omega),aa]
  by_cases h0:0<i
  ·have e:W .i64 ((i:Int)-1)=((i-1:Nat):Int):=by rw[al (by omega) (by omega)];omega
   dsimp only
   rw[aD (x:=0) (by omega),cond_true,e,Int.toNat_natCast,aG (by omega) (by omega),cond_true]
   simp only[bP,bL]
   by_cases hP:dy m i
   ·rw[if_pos hP];unfold dy e8 at hP
    repeat' split
    all_goals first|rfl|exact hr|omega
   ·rw[if_neg hP];unfold dy e8 at hP
    repeat' split
    all_goals first|rfl|exact hr|omega
  ·rw[ay (x:=0) (by omega),cond_false]
   simp only[bP,bL]
   by_cases hP:dy m i
   ·rw[if_pos hP];unfold dy e8 at hP
    repeat' split
    all_goals first|rfl|exact hr|omega
   ·rw[if_neg hP];unfold dy e8 at hP
    repeat' split
    all_goals first|rfl|exact hr|omega
 ·unfold kJ.l2 kJ.eu
  rw[ay (by omega),cond_false]
theorem n4(N:Nat){m:ax}(hl:m.length≤100000)(hN:200000≤N):jL N m=some (iR m):=by
 unfold jL jL.b
 refine e7 (F:=fun n i=>jL.l2 N n m i) (dy m) (fun n i r hi hp hr=> ?_) (fun n=> ?_) N (by omega)
 ·unfold jL.l2 jL.eu
  rw[aD (by omega),cond_true,aG (by omega) (by omega),cond_true,Int.toNat_natCast,al (x:=(i:Int)+1) (by omega) (by omega),aa]
  by_cases h0:0<i
  ·have e:W .i64 ((i:Int)-1)=((i-1:Nat):Int):=by rw[al (by omega) (by omega)];omega
   dsimp only
   rw[aD (x:=0) (by omega),e,Int.toNat_natCast,aG (i:=((i-1:Nat):Int)) (by omega) (by omega)]
   simp only[bP,bL,cond_true]
   by_cases hP:dy m i
   ·rw[if_pos hP];unfold dy e8 at hP
    repeat' split
    all_goals first|rfl|exact hr|omega
   ·rw[if_neg hP];unfold dy e8 at hP
    repeat' split
    all_goals first|rfl|exact hr|omega
  ·rw[ay (x:=0) (by omega)]
   simp only[bP,bL,cond_true,cond_false]
   by_cases hP:dy m i
   ·rw[if_pos hP];unfold dy e8 at hP
    repeat' split
    all_goals first|rfl|exact hr|omega
   ·rw[if_neg hP];unfold dy e8 at hP
    repeat' split
    all_goals first|rfl|exact hr|omega
 ·unfold jL.l2 jL.eu
  rw[ay (by omega),cond_false]
end VM
end
section
namespace VM
open Go VM.F
def eS(k n:Int):Prop:=(1≤k∧k≤4∧n=0)∨(k=5∧1≤n∧n≤24)∨(6≤k∧k≤7∧1≤n∧n≤12)
instance(k n:Int):Decidable (eS k n):=by unfold eS;infer_instance
theorem IH(N:Nat)(k n:Int):II N k n=some (decide (eS k n)):=by
 unfold II
 simp only[aA,bL]
 simp only[jV,fL]
 by_cases hP:eS k n
 ·rw[decide_eq_true hP];unfold eS at hP
  repeat' split
  all_goals first|rfl|omega|(rw[decide_eq_true (by omega)])
 ·rw[decide_eq_false hP];unfold eS at hP
  repeat' split
  all_goals first|rfl|omega|(rw[decide_eq_false (by omega)])
theorem R8(N:Nat)(k n:Int):IJ N k n=some (decide (eS k n)):=by
 have:=IH N k n
 unfold II at this
 unfold IJ
 exact this
def iS(a b c d:Int):Prop:=a<c∨(a=c∧b<d)
instance(a b c d:Int):Decidable (iS a b c d):=by unfold iS;infer_instance
def vH(k n a b:Int):Int:=if k=a then n-b else k-a
def A7(x:Int):Prop:= -1000000≤x∧x≤1000000
theorem zh(N:Nat){k n:Int}{r:cy}(h1:A7 k)(h2:A7 n)(h3:A7 r.1)(h4:A7 r.2.1):IK N k n r=some (vH k n r.1 r.2.1):=by
 unfold IK vH
 unfold A7 at*
 rw[cond_not,aA]
 split
 ·rw[al (by omega) (by omega)]
 ·rw[al (by omega) (by omega)]
theorem BM(N:Nat){k n:Int}{r:cy}(h1:A7 k)(h2:A7 n)(h3:A7 r.1)(h4:A7 r.2.1):LS N k n r=some (vH k n r.1 r.2.1):=zh N h1 h2 h3 h4
def iI(a b c:Int)(i:Nat)(d e:Int):Prop:=eS a b∧c≠0∧(0<i→iS d e a b)
instance(a b c:Int)(i:Nat)(d e:Int):Decidable (iI a b c i d e):=by unfold iI;infer_instance
def ig(l:aj)(i:Nat):Prop:=iI (l.getD i aS).1 (l.getD i aS).2.1 (l.getD i aS).2.2.1 i (l.getD (i-1) aS).1 (l.getD (i-1) aS).2.1
instance(l:aj):DecidablePred (ig l):=fun i=>by unfold ig;infer_instance
def e9(l:aj):Bool:=decide (∀j,j<l.length→ig l j)&&true
theorem De(N:Nat){l:aj}(hl:l.length≤100000)(hN:200000≤N):vI N l=some (e9 l):=by
 unfold vI vI.b
 refine e7 (F:=fun n i=>vI.l2 N n l l (l.length:Int) i) (ig l) (fun n i r hi hp hr=> ?_) (fun n=> ?_) N (by omega)
 ·unfold vI.l2 vI.eu
  rw[aD (by omega),cond_true,aG (by omega) (by omega),cond_true,Int.toNat_natCast,al (x:=(i:Int)+1) (by omega) (by omega),aa,IH,Option.bind_some,cond_not,ed]
  by_cases hK:eS (l.getD i aS).1 (l.getD i aS).2.1
  ·rw[if_pos hK]
   by_cases h0:0<i
   ·have hq:=hp (i-1) (by omega)
    have e:W .i64 ((i:Int)-1)=((i-1:Nat):Int):=by rw[al (by omega) (by omega)];omega
    dsimp only
    rw[aD (x:=0) (by omega),cond_true,e,Int.toNat_natCast,aG (by omega) (by omega),cond_true]
    unfold ig iI at hq
    have hq:=hq.1
    rw[zh N (by unfold eS at hK;unfold A7;omega) (by unfold eS at hK;unfold A7;omega) (by unfold eS at hq;unfold A7;omega) (by unfold eS at hq;unfold A7;omega),Option.bind_some,aA,bL]
    by_cases hP:ig l i
    ·rw[if_pos hP];unfold ig iI iS at hP;unfold vH
     have IL:=hP.2
     repeat' split
     all_goals first|rfl|exact hr|omega
    ·rw[if_neg hP];unfold ig iI iS at hP;unfold vH
     have IL:=fun h=>hP ⟨hK,h⟩
     repeat' split
     all_goals first|rfl|exact hr|omega|(exfalso;exact IL (by omega))
   ·rw[ay (x:=0) (by omega),cond_false,aA]
    by_cases hP:ig l i
    ·rw[if_pos hP];unfold ig iI at hP
     rw[if_neg hP.2.1];exact hr
    ·rw[if_neg hP];unfold ig iI at hP
     have IL:=fun h=>hP ⟨hK,h,fun h=>absurd h h0⟩
     split
     ·rfl
     ·exact absurd (by assumption) IL
  ·rw[if_neg hK,if_neg (fun h=>hK (by unfold ig iI at h;exact h.1))]
 ·unfold vI.l2 vI.eu
  rw[ay (by omega),cond_false]
theorem zi(N:Nat){l:aj}(hl:l.length≤100000)(hN:200000≤N):vJ N l=some (e9 l):=by
 unfold vJ vJ.b
 refine e7 (F:=fun n i=>vJ.l2 N n l i) (ig l) (fun n i r hi hp hr=> ?_) (fun n=> ?_) N (by omega)
 ·unfold vJ.l2 vJ.eu
  rw[aD (by omega),cond_true,aG (by omega) (by omega),cond_true,Int.toNat_natCast,al (x:=(i:Int)+1) (by omega) (by omega),aa,R8,Option.bind_some,cond_not,ed]
  by_cases hK:eS (l.getD i aS).1 (l.getD i aS).2.1
  ·rw[if_pos hK]
   by_cases h0:0<i
   ·have e:W .i64 ((i:Int)-1)=((i-1:Nat):Int):=by rw[al (by omega) (by omega)];omega
    dsimp only
    rw[aD (x:=0) (by omega),e,Int.toNat_natCast,aG (i:=((i-1:Nat):Int)) (by omega) (by omega)]
    simp only[bP,bL,aA,cond_true]
    by_cases hP:ig l i
    ·rw[if_pos hP];unfold ig iI iS at hP
     have IL:=hP.2
     repeat' split
     all_goals first|rfl|exact hr|omega
    ·rw[if_neg hP];unfold ig iI iS at hP
     have IL:=fun h=>hP ⟨hK,h⟩
     repeat' split
     all_goals first|rfl|exact hr|omega|(exfalso;exact IL (by omega))
   ·rw[ay (x:=0) (by omega)]
    simp only[bP,bL,aA,cond_true,cond_false]
    by_cases hP:ig l i
    ·rw[if_pos hP];unfold ig iI at hP
     rw[if_neg hP.2.1];exact hr
    ·rw[if_neg hP];unfold ig iI at hP
     have IL:=fun h=>hP ⟨hK,h,fun h=>absurd h h0⟩
     split
     ·rfl
     ·exact absurd (by assumption) IL
  ·rw[if_neg hK,if_neg (fun h=>hK (by unfold ig iI at h;exact h.1))];rfl
 ·unfold vJ.l2 vJ.eu
  rw[ay (by omega),cond_false]
end VM
end
section
namespace VM
open Go VM.F
def bM(a b:Int):Prop:=0≤a∧a≤24∧0≤b∧b<6
instance(a b:Int):Decidable (bM a b):=by unfold bM;infer_instance
theorem Ks(N:Nat)(a b:Int):OB N a b=some (decide (bM a b)):=by
 unfold OB
 simp only[bL]
 simp only[mw]
 by_cases hP:bM a b
 ·rw[decide_eq_true hP];unfold bM at hP
  repeat' split
  all_goals first|rfl|omega|(rw[decide_eq_true (by omega)])
 ·rw[decide_eq_false hP];unfold bM at hP
  repeat' split
  all_goals first|rfl|omega|(rw[decide_eq_false (by omega)])
def ox(q:Int):Prop:=q≠ -9223372036854775808
instance(q:Int):Decidable (ox q):=by unfold ox;infer_instance
theorem qS(N:Nat)(q:Int):LV N q=some (decide (ox q)):=by
 unfold LV ox
 rw[fL]
 by_cases h:q= -9223372036854775808<;>simp[h]
def iJ(a b c:Int)(i:Nat)(d e:Int):Prop:=bM a b∧c≠0∧ox c∧(0<i→iS d e a b)
instance(a b c:Int)(i:Nat)(d e:Int):Decidable (iJ a b c i d e):=by unfold iJ;infer_instance
def ij(l:aj)(i:Nat):Prop:=iJ (l.getD i aS).1 (l.getD i aS).2.1 (l.getD i aS).2.2.1 i (l.getD (i-1) aS).1 (l.getD (i-1) aS).2.1
instance(l:aj):DecidablePred (ij l):=fun i=>by unfold ij;infer_instance
def cR(l:aj):Bool:=decide (∀j,j<l.length→ij l j)&&true
theorem ux(N:Nat){l:aj}(hl:l.length≤100000)(hN:200000≤N):jM N l=some (cR l):=by
 unfold jM jM.b
 refine e7 (F:=fun n i=>jM.l2 N n l l (l.length:Int) i) (ij l) (fun n i r hi hp hr=> ?_) (fun n=> ?_) N (by omega)
 ·unfold jM.l2 jM.eu
  rw[aD (by omega),cond_true,aG (by omega) (by omega),cond_true,Int.toNat_natCast,al (x:=(i:Int)+1) (by omega) (by omega),aa,Ks,Option.bind_some,cond_not,ed,qS,Option.bind_some,cond_not,ed]
  by_cases hK:bM (l.getD i aS).1 (l.getD i aS).2.1
  ·rw[if_pos hK]
   by_cases h0:0<i
   ·have hq:=hp (i-1) (by omega)
    have e:W .i64 ((i:Int)-1)=((i-1:Nat):Int):=by rw[al (by omega) (by omega)];omega
    dsimp only
    rw[aD (x:=0) (by omega),cond_true,e,Int.toNat_natCast,aG (by omega) (by omega),cond_true]
    unfold ij iJ at hq
    have hq:=hq.1
    rw[BM N (by unfold bM at hK;unfold A7;omega) (by unfold bM at hK;unfold A7;omega) (by unfold bM at hq;unfold A7;omega) (by unfold bM at hq;unfold A7;omega),Option.bind_some,aA,bL]
    by_cases hP:ij l i
    ·rw[if_pos hP];unfold ij iJ iS at hP;unfold vH
     obtain⟨_,hP1,IL,hP3⟩:=hP
     rw[if_pos IL]
     repeat' split
     all_goals first|rfl|exact hr|omega
    ·rw[if_neg hP];unfold ij iJ iS at hP;unfold vH
     have IL:=fun h1 h2 h3=>hP ⟨hK,h1,h2,h3⟩
     repeat' split
     all_goals first|rfl|exact hr|(exfalso;exact IL (by assumption) (by assumption) (by omega))|omega
   ·rw[ay (x:=0) (by omega),cond_false,aA]
    by_cases hP:ij l i
    ·rw[if_pos hP];unfold ij iJ at hP
     rw[if_neg hP.2.1,if_pos hP.2.2.1];exact hr
    ·rw[if_neg hP];unfold ij iJ at hP
     have IL:=fun h1 h2=>hP ⟨hK,h1,h2,fun h=>absurd h h0⟩
     split
     ·rfl
     ·split
      ·exact(IL (by assumption) (by assumption)).elim
      ·rfl
  ·rw[if_neg hK,if_neg (fun h=>hK (by unfold ij iJ at h;exact h.1))]
 ·unfold jM.l2 jM.eu
  rw[ay (by omega),cond_false]
theorem mo(N:Nat){l:aj}(hl:l.length≤100000)(hN:200000≤N):tD N l=some (cR l):=by
 unfold tD tD.b
 refine e7 (F:=fun n i=>tD.l2 N n l i) (ij l) (fun n i r hi hp hr=> ?_) (fun n=> ?_) N (by omega)
 ·unfold tD.l2 tD.eu
  rw[aD (by omega),cond_true,aG (by omega) (by omega),cond_true,Int.toNat_natCast,al (x:=(i:Int)+1) (by omega) (by omega),aa]
  by_cases h0:0<i
  ·have e:W .i64 ((i:Int)-1)=((i-1:Nat):Int):=by rw[al (by omega) (by omega)];omega
   dsimp only
   rw[aD (x:=0) (y:=(i:Int)) (by omega),e,Int.toNat_natCast,aG (i:=((i-1:Nat):Int)) (by omega) (by omega)]
   simp only[bP,bL,aA,cond_true]
   by_cases hP:ij l i
   ·rw[if_pos hP];unfold ij iJ iS ox bM at hP
    repeat' split
    all_goals first|rfl|exact hr|omega
   ·rw[if_neg hP];unfold ij iJ iS ox bM at hP
    repeat' split
    all_goals first|rfl|exact hr|omega|(exfalso;exact hP (by omega))
  ·rw[ay (x:=0) (y:=(i:Int)) (by omega)]
   simp only[bP,bL,aA,cond_true,cond_false]
   by_cases hP:ij l i
   ·rw[if_pos hP];unfold ij iJ iS ox bM at hP
    repeat' split
    all_goals first|rfl|exact hr|omega
   ·rw[if_neg hP];unfold ij iJ iS ox bM at hP
    repeat' split
    all_goals first|rfl|exact hr|omega|(exfalso;exact hP (by omega))
 ·unfold tD.l2 tD.eu
  rw[ay (by omega),cond_false]
theorem eh(a b:Int)(y:Bool):cond (bV a b) (some y) (some false)=some (decide (a≤b)&&y):=by
 rw[bL];by_cases h:a≤b<;>simp[h]
theorem zj(a b:Int)(y:Bool):cond (aH a b) (some y) (some false)=some (decide (a<b)&&y):=by
 rw[bP];by_cases h:a<b<;>simp[h]
theorem zk(a b:Int)(y:Bool):cond (az a b) (some y) (some false)=some (decide (a=b)&&y):=by
 rw[aA];by_cases h:a=b<;>simp[h]
theorem vK(a b:Int)(y z:Bool):cond (az a b) (some y) (some z)=some ((decide (a=b)&&y)||(!decide (a=b)&&z)):=by
 rw[aA];by_cases h:a=b<;>simp[h]
def s9(a b c d e f:Int):Prop:=(1≤a∧a≤1099511627776)∧(1≤b∧b≤24)∧(0≤c∧c<6)∧(d=1∨d=2)∧(1≤e∧e≤1000000000)∧(1≤f∧f≤1000000000000)
instance(a b c d e f:Int):Decidable (s9 a b c d e f):=by unfold s9;infer_instance
def qT(o:fM):Prop:=s9 o.1 o.2.1 o.2.2.1 o.2.2.2.1 o.2.2.2.2.1 o.2.2.2.2.2.1
instance(o:fM):Decidable (qT o):=by unfold qT;infer_instance
theorem ZN(N:Nat)(o:fM):R9 N o=some (decide (qT o)):=by
 unfold R9
 rw[jV o.2.2.2.2.2.1]
 rw[eh,eh,eh,zk,vK,zj,eh,eh,eh,eh,eh]
 congr 1
 rw[Bool.eq_iff_iff,decide_eq_true_iff]
 unfold qT s9
 simp only[Bool.and_eq_true,Bool.or_eq_true,Bool.not_eq_true',decide_eq_true_eq,decide_eq_false_iff_not]
 omega
end VM
end
section
namespace VM
open Go VM.F
theorem BN(N:Nat)(p:Int):F85 N p=some (decide (1≤p∧p≤1000000000000)):=by
 unfold F85
 rw[jV p,eh];congr 1
 rw[Bool.eq_iff_iff];simp only[Bool.and_eq_true,decide_eq_true_eq]
theorem iT(N:Nat)(p:Int):xC N p=some (decide (1≤p∧p≤1000000000000)):=BN N p
theorem yi(N:Nat)(o:fM):IM N o=some (decide (qT o)):=by
 unfold IM
 rw[iT,Option.bind_some]
 repeat (first|rw[eh]|rw[zj]|rw[zk]|rw[vK])
 congr 1
 rw[Bool.eq_iff_iff,decide_eq_true_iff]
 unfold qT s9
 simp only[Bool.and_eq_true,Bool.or_eq_true,Bool.not_eq_true',decide_eq_true_eq,decide_eq_false_iff_not]
 omega
def oP(i:Nat)(a b:Int):Prop:=0<i→a<b
instance(i:Nat)(a b:Int):Decidable (oP i a b):=by unfold oP;infer_instance
def py(l:a6)(i:Nat):Prop:=qT (l.getD i eB)∧oP i (l.getD (i-1) eB).1 (l.getD i eB).1
instance(l:a6):DecidablePred (py l):=fun i=>by unfold py;infer_instance
def ju(l:a6):Bool:=decide (∀j,j<l.length→py l j)&&decide (l.length≤32)
theorem LW(N:Nat){l:a6}(hl:l.length≤100000)(hN:200000≤N):xD N l=some (ju l):=by
 unfold xD xD.b
 refine e7 (F:=fun n i=>xD.l2 N n l l (l.length:Int) i) (py l) (fun n i r hi hp hr=> ?_) (fun n=> ?_) N (by omega)
 ·unfold xD.l2 xD.eu
  rw[aD (by omega),cond_true,aG (by omega) (by omega),cond_true,Int.toNat_natCast,al (x:=(i:Int)+1) (by omega) (by omega),aa,ZN,Option.bind_some,cond_not,ed]
  by_cases hK:qT (l.getD i eB)
  ·rw[if_pos hK]
   by_cases h0:0<i
   ·have e:W .i64 ((i:Int)-1)=((i-1:Nat):Int):=by rw[al (by omega) (by omega)];omega
    dsimp only
    rw[aD (x:=0) (by omega),cond_true,e,Int.toNat_natCast,aG (by omega) (by omega),cond_true,bL]
    by_cases hP:py l i
    ·rw[if_pos hP,if_neg (by have h2:=hP.2;unfold oP at h2;omega)];exact hr
    ·rw[if_neg hP,if_pos]
     have h2: ¬oP i (l.getD (i-1) eB).1 (l.getD i eB).1:=fun h=>hP ⟨hK,h⟩
     unfold oP at h2
     omega
   ·rw[ay (x:=0) (by omega),cond_false,if_pos ⟨hK,fun h=>absurd h h0⟩];exact hr
  ·rw[if_neg hK,if_neg (fun h=>hK h.1)]
 ·unfold xD.l2 xD.eu
  rw[ay (by omega),cond_false,jV]
  congr 1;rw[decide_eq_decide];omega
theorem ke(N:Nat){l:a6}(hl:l.length≤100000)(hN:200000≤N):jd N l=some (ju l):=by
 unfold jd jd.b
 by_cases h32:32<l.length
 ·rw[aD (by omega),cond_true];unfold ju
  rw[decide_eq_false (p:=l.length≤32) (by omega),Bool.and_false]
 rw[ay (by omega),cond_false]
 have:=e7 (F:=fun n i=>jd.l4 N n l i) (e:=true) (py l) (fun n i r hi hp hr=> ?_) (fun n=> ?_) N (show l.length<N by omega)
 ·refine Eq.trans this ?_
  unfold ju
  rw[decide_eq_true (p:=l.length≤32) (by omega)]
 ·unfold jd.l4 jd.cn
  rw[aD (by omega),cond_true,aG (by omega) (by omega),cond_true,Int.toNat_natCast,al (x:=(i:Int)+1) (by omega) (by omega),aa,yi,Option.bind_some,cond_not,ed]
  by_cases hK:qT (l.getD i eB)
  ·rw[if_pos hK]
   by_cases h0:0<i
   ·have e:W .i64 ((i:Int)-1)=((i-1:Nat):Int):=by rw[al (by omega) (by omega)];omega
    dsimp only
    rw[aD (x:=0) (by omega),cond_true,cond_true,e,Int.toNat_natCast,aG (by omega) (by omega),cond_true,bL]
    by_cases hP:py l i
    ·rw[if_pos hP,if_neg (by have h2:=hP.2;unfold oP at h2;omega)];exact hr
    ·rw[if_neg hP,if_pos]
     have h2: ¬oP i (l.getD (i-1) eB).1 (l.getD i eB).1:=fun h=>hP ⟨hK,h⟩
     unfold oP at h2
     omega
   ·rw[ay (x:=0) (by omega),cond_false,if_pos ⟨hK,fun h=>absurd h h0⟩];exact hr
  ·rw[if_neg hK,if_neg (fun h=>hK h.1)]
 ·unfold jd.l4 jd.cn
  rw[ay (by omega),cond_false]
end VM
end
section
namespace VM
open Go VM.F
def gH(id:Int):ax→Int
 |[]=>0
 |x::t=>if x.1=id then x.2.1 else gH id t
def uy(id:Int):aE→bR×Bool
 |[]=>(aN,false)
 |x::t=>if x.1=id then(x,true)else uy id t
def pz(id:Int):aE→Int
 |[]=>0
 |x::t=>if x.2.1=id then(if x.2.2.1=1 then x.1 else pz id t)else pz id t
theorem uz(id:Int)(x:OC)(t:ax):gH id (x::t)=if x.1=id then x.2.1 else gH id t:=rfl
theorem ta(id:Int)(x:bR)(t:aE):uy id (x::t)=if x.1=id then(x,true)else uy id t:=rfl
theorem wU(id:Int)(x:bR)(t:aE):pz id (x::t)=if x.2.1=id then(if x.2.2.1=1 then x.1 else pz id t)else pz id t:=rfl
theorem Fu(N:Nat){m:ax}(hl:m.length≤100000)(hN:200000≤N)(id:Int):vl.l4 N N id m (m.length:Int) 0=some (gH id m):=by
 refine uw m cc (fun n i=>vl.l4 N n id m (m.length:Int) i) (fun l=>some (gH id l)) (fun n i hi hr=> ?_) (fun n=> ?_) N (by omega)
 ·unfold vl.l4 vl.cn
  rw[aD (by omega),cond_true,aG (by omega) (by omega),cond_true,Int.toNat_natCast,al (x:=(i:Int)+1) (by omega) (by omega),aa,hr,aA]
  rw[uz]
  split<;>rfl
 ·unfold vl.l4 vl.cn
  rw[ay (by omega),cond_false];rfl
theorem kf(N:Nat){m:ax}(hl:m.length≤100000)(hN:200000≤N)(id:Int):je N m id=some (gH id m):=by
 unfold je je.b
 refine uw m cc (fun n i=>je.l2 N n m id i) (fun l=>some (gH id l)) (fun n i hi hr=> ?_) (fun n=> ?_) N (by omega)
 ·unfold je.l2 je.eu
  rw[aD (by omega),cond_true,aG (by omega) (by omega),cond_true,cond_true,Int.toNat_natCast,al (x:=(i:Int)+1) (by omega) (by omega),aa,hr,aA]
  rw[uz]
  split<;>rfl
 ·unfold je.l2 je.eu
  rw[ay (by omega),cond_false];rfl
def mT(m:ax)(id:Int):Int:=if iR m then gH id m else 0
theorem BO(N:Nat){m:ax}(hl:m.length≤100000)(hN:200000≤N)(id:Int):vl N m id=some (mT m id):=by
 unfold vl vl.b mT
 rw[zg N hl hN,Option.bind_some,cond_not,Fu N hl hN]
 cases iR m<;>rfl
theorem zl(N:Nat){m:ax}(hl:m.length≤100000)(hN:200000≤N)(id:Int):uA N m id=some (mT m id):=by
 unfold uA mT
 rw[n4 N hl hN,Option.bind_some,cond_not,kf N hl hN]
 cases iR m<;>rfl
theorem LX(N:Nat){m:aE}(hl:m.length≤100000)(hN:200000≤N)(id:Int):kK.l4 N N id aN m (m.length:Int) 0=some (uy id m):=by
 refine uw m aN (fun n i=>kK.l4 N n id aN m (m.length:Int) i) (fun l=>some (uy id l)) (fun n i hi hr=> ?_) (fun n=> ?_) N (by omega)
 ·unfold kK.l4 kK.cn
  rw[aD (by omega),cond_true,aG (by omega) (by omega),cond_true,Int.toNat_natCast,al (x:=(i:Int)+1) (by omega) (by omega),aa,hr,aA]
  rw[ta]
  split<;>rfl
 ·unfold kK.l4 kK.cn
  rw[ay (by omega),cond_false];rfl
theorem uB(N:Nat){m:aE}(hl:m.length≤100000)(hN:200000≤N)(id:Int):jN N m id=some (uy id m):=by
 unfold jN jN.b
 refine uw m aN (fun n i=>jN.l2 N n m id aN i) (fun l=>some (uy id l)) (fun n i hi hr=> ?_) (fun n=> ?_) N (by omega)
 ·unfold jN.l2 jN.eu
  rw[aD (by omega),cond_true,aG (by omega) (by omega),cond_true,cond_true,Int.toNat_natCast,al (x:=(i:Int)+1) (by omega) (by omega),aa,hr,aA]
  rw[ta]
  split<;>rfl
 ·unfold jN.l2 jN.eu
  rw[ay (by omega),cond_false];rfl
theorem Fv(N:Nat){m:aE}(hl:m.length≤100000)(hN:200000≤N)(id:Int):tb.l4 N N m id 0=some (pz id m):=by
 refine uw m aN (fun n i=>tb.l4 N n m id i) (fun l=>some (pz id l)) (fun n i hi hr=> ?_) (fun n=> ?_) N (by omega)
 ·unfold tb.l4 tb.cn
  rw[aD (by omega),cond_true,aG (by omega) (by omega)]
  simp only[cond_true]
  rw[Int.toNat_natCast,al (x:=(i:Int)+1) (by omega) (by omega),aa,hr,aA,aA]
  rw[wU]
  split
  ·split<;>rfl
  ·rfl
 ·unfold tb.l4 tb.cn
  rw[ay (by omega),cond_false];rfl
end VM
end
section
namespace VM
open Go VM.F
def eG(a b:Int):Prop:=a=b
instance(a b:Int):Decidable (eG a b):=by unfold eG;infer_instance
def sI(l:aE)(k:Nat)(m:Int):Prop:=eG (l.getD k aN).2.2.1 1∧eG (l.getD k aN).2.1 m
instance(l:aE)(k:Nat)(m:Int):Decidable (sI l k m):=by unfold sI;infer_instance
def iw(l:aE)(i:Nat)(m:Int):Bool:=(List.range i).any fun k=>decide (sI l k m)
theorem Fw{l:aE}{i:Nat}{m:Int}:iw l i m=true↔ ∃k,k<i∧sI l k m:=by
 unfold iw
 rw[List.any_eq_true]
 simp only[List.mem_range,decide_eq_true_iff]
theorem pA(l:aE)(i:Nat)(m:Int):iw l (i+1) m=(iw l i m||decide (sI l i m)):=by
 unfold iw
 rw[List.range_succ,List.any_append];simp
def jv(a b c d:Int):Prop:=(1≤a∧a≤24)∧(1≤b∧b≤12)∧(c=1∨c=2)∧(0≤d∧d≤1000000000000)
instance(a b c d:Int):Decidable (jv a b c d):=by unfold jv;infer_instance
def gn(l:aE)(i:Nat):Prop:= ¬(eG (l.getD i aN).2.2.1 1∧iw l i (l.getD i aN).2.1=true)
instance(l:aE)(i:Nat):Decidable (gn l i):=by unfold gn;infer_instance
def uC(l:aE)(i:Nat):Prop:=jv (l.getD i aN).1 (l.getD i aN).2.1 (l.getD i aN).2.2.1 (l.getD i aN).2.2.2.1∧oP i (l.getD (i-1) aN).1 (l.getD i aN).1∧gn l i
instance(l:aE):DecidablePred (uC l):=fun i=>by unfold uC;infer_instance
def lq(l:aE):Bool:=decide (∀j,j<l.length→uC l j)&&true
def dm(l:aE)(i:Nat):List Bool:=(List.range 13).map fun(m:Nat)=>iw l i (m:Int)
theorem LY{l:aE}{i:Nat}{b:Int}(h0:0≤b)(h1:b<13):(dm l i).getD b.toNat false=iw l i b:=by
 unfold dm
 rw[List.getD_eq_getElem?_getD,List.getElem?_map,List.getElem?_range (by omega)]
 show iw l i ((b.toNat:Nat):Int)=_
 rw[Int.toNat_of_nonneg h0]
theorem Fy{l:aE}{i:Nat}(h: ¬eG (l.getD i aN).2.2.1 1):dm l (i+1)=dm l i:=by
 unfold dm
 refine List.map_congr_left fun m _=> ?_
 rw[pA,decide_eq_false (fun h'=>h h'.1),Bool.or_false]
theorem IN{l:aE}{i:Nat}(h:eG (l.getD i aN).2.2.1 1)(h0:(0:Int)≤(l.getD i aN).2.1):(dm l i).set ((l.getD i aN).2.1:Int).toNat true=dm l (i+1):=by
 refine List.ext_getElem (by unfold dm;simp) fun k h1 h2=> ?_
 unfold dm at*
 rw[List.getElem_set]
 simp only[List.getElem_map,List.getElem_range]
 rw[pA]
 by_cases hk:((l.getD i aN).2.1:Int).toNat=k
 ·rw[if_pos hk,decide_eq_true (show sI l i (k:Int)from⟨h,by unfold eG;omega⟩),Bool.or_true]
 ·rw[if_neg hk,decide_eq_false (fun h':sI l i (k:Int)=>hk (by have:=h'.2;unfold eG at this;omega)),Bool.or_false]
theorem Kt(N:Nat){l:aE}(hl:l.length≤100000)(hN:200000≤N):jf N l=some (lq l):=by
 unfold jf jf.b
 have h0:(List.replicate 13 false:List Bool)=dm l 0:=by unfold dm iw;rfl
 rw[h0]
 have:=e7 (F:=fun n i=>jf.l3 N n l (dm l i.toNat) l (l.length:Int) i) (e:=true) (uC l) (fun n i r hi hp hr=> ?_) (fun n=> ?_) N (show l.length<N by omega)
 ·exact this
 ·simp only[Int.toNat_natCast]at hr ⊢
  unfold jf.l3 jf.g7
  rw[aD (by omega),cond_true,aG (by omega) (by omega),cond_true]
  simp only[Int.toNat_natCast]
  rw[al (x:=(i:Int)+1) (by omega) (by omega),aa]
  by_cases hF:jv (l.getD i aN).1 (l.getD i aN).2.1 (l.getD i aN).2.2.1 (l.getD i aN).2.2.2.1
  ·have Ku:=hF
   unfold jv at Ku
   have hT:cond (az (l.getD i aN).2.2.1 1) (cond (aJ (l.getD i aN).2.1 13) (cond (List.getD (dm l i) (l.getD i aN).2.1.toNat false) (some false) (cond (aJ (l.getD i aN).2.1 13) (jf.l3 N n l (List.set (dm l i) (l.getD i aN).2.1.toNat true) l (l.length:Int) ((i+1:Nat):Int)) none)) none) (jf.l3 N n l (dm l i) l (l.length:Int) ((i+1:Nat):Int))=if gn l i then r else some false:=by
    rw[aA]
    by_cases hk:eG (l.getD i aN).2.2.1 1
    ·have AO:=hk
     unfold eG at AO
     rw[if_pos AO,aG (by omega) (by omega),cond_true,cond_true,LY (by omega) (by omega),IN hk (by omega),hr]
     by_cases ho:iw l i (l.getD i aN).2.1=true
     ·have qm: ¬gn l i:=fun h=>h ⟨hk,ho⟩
      rw[if_neg qm,ho];rfl
     ·have qm:gn l i:=fun h=>ho h.2
      rw[if_pos qm,Bool.eq_false_iff.2 ho];rfl
    ·have AO:=hk
     unfold eG at AO
     rw[if_neg AO,if_pos (show gn l i from fun h=>hk h.1),←Fy hk,hr]
   have hP:uC l i↔oP i (l.getD (i-1) aN).1 (l.getD i aN).1∧gn l i:=⟨fun h=>h.2,fun h=>⟨hF,h⟩⟩
   have hD:(if uC l i then r else some false)=if oP i (l.getD (i-1) aN).1 (l.getD i aN).1 then(if gn l i then r else some false)else some false:=by
    by_cases h1:oP i (l.getD (i-1) aN).1 (l.getD i aN).1<;>by_cases h2:gn l i<;>simp[hP,h1,h2]
   rw[hD]
   rw[hT]
   rw[ay (by omega),cond_false,ay (by omega),cond_false,ay (by omega),cond_false,ay (by omega),cond_false,ay (x:=(l.getD i aN).2.2.2.1) (by omega),ay (x:=1000000000000) (by omega)]
   simp only[cond_false]
   have hm: ∀{α:Type} (x:α) (y:α),cond (!az (l.getD i aN).2.2.1 1) (cond (!az (l.getD i aN).2.2.1 2) y x) x=x:=by
    intro α x y
    rcases Ku.2.2.1 with h|h
    ·rw[ck h];rfl
    ·rw[ck (y:=2) h];cases az (l.getD i aN).2.2.1 1<;>rfl
   rw[hm]
   by_cases h0:0<i
   ·have e:W .i64 ((i:Int)-1)=((i-1:Nat):Int):=by rw[al (by omega) (by omega)];omega
    rw[aD (x:=0) (by omega),cond_true,e,Int.toNat_natCast,aG (by omega) (by omega),cond_true,bL]
    by_cases h1:oP i (l.getD (i-1) aN).1 (l.getD i aN).1
    ·rw[if_pos h1,if_neg (by unfold oP at h1;omega)]
    ·rw[if_neg h1,if_pos (by unfold oP at h1;omega)]
   ·rw[ay (x:=0) (by omega),cond_false,if_pos (show oP i (l.getD (i-1) aN).1 (l.getD i aN).1 from fun h=>absurd h h0)]
  ·rw[if_neg (fun h=>hF h.1)]
   unfold jv at hF
   generalize cond (az (l.getD i aN).2.2.1 1) (cond (aJ (l.getD i aN).2.1 13) (cond (List.getD (dm l i) (l.getD i aN).2.1.toNat false) (some false) (cond (aJ (l.getD i aN).2.1 13) (jf.l3 N n l (List.set (dm l i) (l.getD i aN).2.1.toNat true) l (l.length:Int) ((i+1:Nat):Int)) none)) none) (jf.l3 N n l (dm l i) l (l.length:Int) ((i+1:Nat):Int))=t
   generalize cond (aH 0 (i:Int)) _ _=u
   simp only[cond_not,bP,aA]
   repeat' split
   all_goals first|rfl|omega
 ·unfold jf.l3 jf.g7
  rw[ay (by omega),cond_false]
end VM
end
section
namespace VM
open Go VM.F
theorem vL(N:Nat)(K:aE→Int→Option Bool){l:aE}(hl:l.length≤100000){i:Nat}(hi:i<l.length): ∀(m n k:Nat),i-k≤m→m<n→k≤i→(eG (l.getD i aN).2.2.1 1→iw l k (l.getD i aN).2.1=false)→
  ix.l8 N K n l (i:Int) (l.getD i aN) (k:Int)=if gn l i then K l ((i+1:Nat):Int)else some false
 |m,0,k,_,hn,_,_=>by omega
 |m,n+1,k,hm,hn,hk,h=>by
  unfold ix.l8 ix.yj
  by_cases yc:k<i
  ·rw[aD (by omega),cond_true,aG (by omega) (by omega),cond_true,cond_true,Int.toNat_natCast,al (x:=(k:Int)+1) (by omega) (by omega),aa,aA,aA,aA]
   by_cases h1:eG (l.getD i aN).2.2.1 1
   ·have lO:=h1
    unfold eG at lO
    rw[if_pos lO]
    by_cases h2:sI l k (l.getD i aN).2.1
    ·have sH:=h2
     unfold sI eG at sH
     have qm: ¬gn l i:=fun h3=>h3 ⟨h1,Fw.2 ⟨k,yc,h2⟩⟩
     rw[if_pos sH.1,if_pos sH.2,if_neg qm]
    ·have s8:=vL N K hl hi (m-1) n (k+1) (by omega) (by omega) (by omega) (fun _=>by rw[pA,h h1,decide_eq_false h2];rfl)
     split
     ·split
      ·rename_i h3 h4
       exact absurd (show sI l k (l.getD i aN).2.1 from⟨h3,h4⟩) h2
      ·exact s8
     ·exact s8
   ·have lO:=h1
    unfold eG at lO
    rw[if_neg lO]
    exact vL N K hl hi (m-1) n (k+1) (by omega) (by omega) (by omega) (fun h=>absurd h h1)
  ·have:k=i:=by omega
   subst this
   have qm:gn l k:=fun h3=>by rw[h h3.1]at h3;exact nomatch h3.2
   rw[ay (by omega),cond_false,if_pos qm,al (x:=(k:Int)+1) (by omega) (by omega)];rfl
set_option maxHeartbeats 2000000 in
theorem uD(N:Nat){l:aE}(hl:l.length≤100000)(hN:200000≤N):ix N l=some (lq l):=by
 unfold ix ix.b
 refine e7 (F:=fun n i=>ix.l2 N n l i) (uC l) (fun n i r hi hp hr=> ?_) (fun n=> ?_) N (by omega)
 ·unfold ix.l2 ix.eu
  have hT:ix.j7 N (ix.l2 N n) l (i:Int) (l.getD i aN)=if gn l i then r else some false:=by
   unfold ix.j7 ix.IB
   have:=vL N (ix.l2 N n) hl hi i N 0 (by omega) (by omega) (by omega) (fun _=>rfl)
   rw[hr]at this
   exact this
  rw[aD (by omega),cond_true,aG (by omega) (by omega),cond_true]
  simp only[Int.toNat_natCast]
  rw[hT]
  have hD:(if uC l i then r else some false)=if jv (l.getD i aN).1 (l.getD i aN).2.1 (l.getD i aN).2.2.1 (l.getD i aN).2.2.2.1∧oP i (l.getD (i-1) aN).1 (l.getD i aN).1 then(if gn l i then r else some false)else some false:=by
   unfold uC
   by_cases h1:oP i (l.getD (i-1) aN).1 (l.getD i aN).1<;>by_cases h2:gn l i<;>by_cases h3:jv (l.getD i aN).1 (l.getD i aN).2.1 (l.getD i aN).2.2.1 (l.getD i aN).2.2.2.1<;>simp[h1,h2,h3]
  rw[hD]
  generalize (if gn l i then r else some false)=t
  by_cases h0:0<i
  ·have e:W .i64 ((i:Int)-1)=((i-1:Nat):Int):=by rw[al (by omega) (by omega)];omega
   rw[aD (x:=0) (y:=(i:Int)) (by omega),e]
   simp only[cond_true,Int.toNat_natCast]
   rw[aG (i:=((i-1:Nat):Int)) (by omega) (by omega)]
   simp only[cond_not,bP,bL,aA,cond_true]
   by_cases hP:jv (l.getD i aN).1 (l.getD i aN).2.1 (l.getD i aN).2.2.1 (l.getD i aN).2.2.2.1∧oP i (l.getD (i-1) aN).1 (l.getD i aN).1
   ·rw[if_pos hP];unfold jv oP at hP
    repeat' split
    all_goals first|rfl|omega
   ·rw[if_neg hP];unfold jv oP at hP
    repeat' split
    all_goals first|rfl|omega
  ·rw[ay (x:=0) (y:=(i:Int)) (by omega)]
   simp only[cond_not,bP,bL,aA,cond_true,cond_false]
   by_cases hP:jv (l.getD i aN).1 (l.getD i aN).2.1 (l.getD i aN).2.2.1 (l.getD i aN).2.2.2.1∧oP i (l.getD (i-1) aN).1 (l.getD i aN).1
   ·rw[if_pos hP];unfold jv oP at hP
    repeat' split
    all_goals first|rfl|omega
   ·rw[if_neg hP];unfold jv oP at hP
    repeat' split
    all_goals first|rfl|omega
 ·unfold ix.l2 ix.eu
  rw[ay (by omega),cond_false]
end VM
end
section
namespace VM
open Go VM.F
def jw(a:aE)(id:Int):bR×Bool:=if lq a then uy id a else(aN,false)
theorem Sa(N:Nat){a:aE}(hl:a.length≤100000)(hN:200000≤N)(id:Int):kK N a id=some (jw a id):=by
 unfold kK kK.b jw
 rw[Kt N hl hN,Option.bind_some,cond_not,LX N hl hN]
 cases lq a<;>rfl
theorem FA(N:Nat){a:aE}(hl:a.length≤100000)(hN:200000≤N)(id:Int):zm N a id=some (jw a id):=by
 unfold zm jw
 rw[uD N hl hN,Option.bind_some,cond_not,uB N hl hN]
 cases lq a<;>rfl
def yk(a:aE)(id:Int):Int:=if lq a then pz id a else 0
theorem vM(N:Nat){a:aE}(hl:a.length≤100000)(hN:200000≤N)(id:Int):tb N a id=some (yk a id):=by
 unfold tb tb.b yk
 rw[uD N hl hN,Option.bind_some,cond_not,Fv N hl hN]
 cases lq a<;>rfl
def gI(m:ax)(a:aE)(i:Nat):Prop:= ¬eG (gH (a.getD i aN).2.1 m) 0
instance(m:ax)(a:aE):DecidablePred (gI m a):=fun i=>by unfold gI;infer_instance
def qU(m:ax)(a:aE):Bool:=iR m&&(lq a&&(decide (∀j,j<a.length→gI m a j)&&true))
theorem Sb(N:Nat){m:ax}{a:aE}(hm:m.length≤100000)(hl:a.length≤100000)(hN:200000≤N):xE N m a=some (qU m a):=by
 unfold xE xE.b qU
 rw[zg N hm hN,Option.bind_some,cond_not,Kt N hl hN,Option.bind_some,cond_not]
 cases hM:iR m
 ·rfl
 cases lq a
 ·rfl
 rw[Bool.true_and,Bool.true_and,cond_true,cond_true]
 refine e7 (F:=fun n i=>xE.l4 N n m a (a.length:Int) i) (gI m a) (fun n i r hi hp hr=> ?_) (fun n=> ?_) N (by omega)
 ·unfold xE.l4 xE.cn
  rw[aD (by omega),cond_true,aG (by omega) (by omega),cond_true,Int.toNat_natCast,al (x:=(i:Int)+1) (by omega) (by omega),aa,BO N hm hN,Option.bind_some,aA]
  unfold mT
  rw[hM,if_pos rfl]
  by_cases hP:gI m a i
  ·rw[if_pos hP,if_neg (show ¬((gH (a.getD i aN).2.1 m:Int)=0)from fun h=>hP h)];exact hr
  ·rw[if_neg hP,if_pos (show(gH (a.getD i aN).2.1 m:Int)=0 by unfold gI at hP;exact Decidable.not_not.1 hP)]
 ·unfold xE.l4 xE.cn
  rw[ay (by omega),cond_false]
theorem zn(N:Nat){m:ax}{a:aE}(hm:m.length≤100000)(hl:a.length≤100000)(hN:200000≤N):kg N m a=some (qU m a):=by
 unfold kg kg.b qU
 rw[n4 N hm hN,Option.bind_some,cond_not,uD N hl hN,Option.bind_some,cond_not]
 cases hM:iR m
 ·rfl
 cases lq a
 ·rfl
 rw[Bool.true_and,Bool.true_and,cond_true,cond_true]
 refine e7 (F:=fun n i=>kg.l4 N n m a i) (gI m a) (fun n i r hi hp hr=> ?_) (fun n=> ?_) N (by omega)
 ·unfold kg.l4 kg.cn
  rw[aD (by omega),cond_true,aG (by omega) (by omega),cond_true,Int.toNat_natCast,al (x:=(i:Int)+1) (by omega) (by omega),aa,kf N hm hN,Option.bind_some,aA]
  by_cases hP:gI m a i
  ·rw[if_pos hP,if_neg (show ¬((gH (a.getD i aN).2.1 m:Int)=0)from fun h=>hP h)];exact hr
  ·rw[if_neg hP,if_pos (show(gH (a.getD i aN).2.1 m:Int)=0 by unfold gI at hP;exact Decidable.not_not.1 hP)]
 ·unfold kg.l4 kg.cn
  rw[ay (by omega),cond_false]
end VM
end
