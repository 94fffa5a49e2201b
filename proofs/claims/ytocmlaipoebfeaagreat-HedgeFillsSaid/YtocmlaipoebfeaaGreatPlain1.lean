/- A part of the proof of HedgeFills of layer 22: what the functions compute, in plain words. -/
import Derived.Test.YtocmlaipoebfeaaGreatPlain0
import Derived.Test.YtocmlaipoebfeaaGreatText
set_option linter.all false
section
namespace VM
open Go VM.F
theorem Un{x:Int}(h0:0≤x)(h1:x<18446744073709551616):jx .and .u64 x 1=x%2:=by
 rw[Gu h0 h1 (by omega) (by omega)]
 have:=Nat.and_two_pow_sub_one_eq_mod x.toNat 1
 rw[show((1:Int).toNat)=2^1-1 from rfl,this]
 omega
theorem B5{l:List Int}{k:Nat}(x:Int)(h:k<l.length):bZ ((l.set k x).drop k)=x+4294967296*bZ (l.drop (k+1)):=by
 rw[g8,jo l x h,List.drop_set_of_lt (by omega)]
theorem CH(N:Nat){d:List Int}(hd:VD d)(hl:d.length≤100000)(hN:4000000≤N): ∀(k n:Nat) (out:List Int) (c:Int),k≤d.length→k<n→VD out→out.length=d.length→c=bZ (d.drop k)%2→bZ (out.drop k)=bZ (d.drop k)/2→
  mf.l4 N n d out c ((k:Int)-1)=some (iI (bZ d/2).toNat,bZ d%2)
 |k,0,out,c,_,hn,_,_,_,_=>by omega
 |0,n+1,out,c,_,_,ho,yx,hc,hv=>by
  unfold mf.l4 mf.c5
  simp (disch:=omega) only[aE,aA,cS,cM,cG,cA,aG,bo,bC,cw,al,bz,cond_true,cond_false,Bool.not_true,Bool.not_false,Option.bind_some,Int.toNat_natCast,Int.toNat_zero,ae,List.length_append,List.length_singleton,List.length_set,List.length_replicate,List.length_cons,List.length_nil,Ek N ho (by omega) (by omega)]
  rw[List.drop_zero,List.drop_zero]at hv
  rw[List.drop_zero]at hc
  rw[hv,hc]
 |k+1,n+1,out,c,hk,hn,ho,yx,hc,hv=>by
  unfold mf.l4 mf.c5
  have e:((k+1:Nat):Int)-1=(k:Int):=by omega
  obtain⟨g0,g1⟩:=hd.getD k
  have hn0:=gL (hd.drop (k+1))
  have e1:=g8 d k
  simp only[e,Int.toNat_natCast]
  rw[aar (by omega)]
  generalize hx:d.getD k 0=x at*
  rw[bz (x:=c*4294967296) (by omega) (by omega),NV g0 g1 (by omega) (by omega)]
  simp (disch:=omega) only[aE,aA,cS,cM,cG,cA,aG,bo,bC,cw,al,bz,cond_true,cond_false,Bool.not_true,Bool.not_false,Option.bind_some,Int.toNat_natCast,Int.toNat_zero,ae,List.length_append,List.length_singleton,List.length_set,List.length_replicate,List.length_cons,List.length_nil,am9,Un]
  refine CH N hd hl hN k n (out.set k ((x+c*4294967296)/2)) ((x+c*4294967296)%2) (by omega) (by omega) (ho.set _ (by omega) (by omega)) (by rw[List.length_set];exact yx) (by rw[e1,hc];omega) ?_
  rw[B5 _ (by omega),hv,e1]
  omega
theorem Uo(N:Nat)(hN:4000000≤N)(m:Nat)(h:(iI m).length≤100000):mf N (iI m)=some (iI (m/2),((m%2:Nat):Int)):=by
 unfold mf mf.b
 simp (disch:=omega) only[aE,aA,cS,cM,cG,cA,aG,bo,bC,cw,al,bz,cond_true,cond_false,Bool.not_true,Bool.not_false,Option.bind_some,Int.toNat_natCast,Int.toNat_zero,ae,List.length_append,List.length_singleton,List.length_set,List.length_replicate,List.length_cons,List.length_nil]
 have:=CH N (gM m) h hN (iI m).length N (List.replicate (iI m).length 0) 0 (Nat.le_refl _) (by omega) (VD.aaq _) (by simp) (by rw[List.drop_length];rfl) (by rw[List.drop_length,List.drop_of_length_le (by simp)];rfl)
 rw[eM]at this
 rw[this]
 congr 2
def bin(n:Nat):List Int:=if n=0 then []else((n%2:Nat):Int)::bin (n/2)
termination_by n
decreasing_by omega
theorem y7{n:Nat}(h:n≠0):bin n=((n%2:Nat):Int)::bin (n/2):=by rw[bin];simp[h]
theorem sa:bin 0=[]:=by rw[bin];rfl
def vm:List Int→Int
 |[]=>0
 |d::r=>d+2*vm r
theorem Up(n:Nat):vm (bin n)=n:=by
 induction n using Nat.strongRecOn with
 |_ n ih=>
  by_cases h:n=0
  ·subst h;rw[sa];rfl
  ·rw[y7 h,vm,ih _ (by omega)];omega
theorem Uq(n:Nat): ∀d∈bin n,d=0∨d=1:=by
 induction n using Nat.strongRecOn with
 |_ n ih=>
  by_cases h:n=0
  ·subst h;rw[sa];intro d hd;cases hd
  ·rw[y7 h];intro d hd
   rcases List.mem_cons.1 hd with rfl|hd
   ·omega
   ·exact ih _ (by omega) d hd
theorem Ur(k:Nat): ∀n,n<2^k→(bin n).length≤k:=by
 induction k with
 |zero=>
  intro n h;have:n=0:=by simpa using h
  subst this;rw[sa];simp
 |succ k ih=>
  intro n h
  by_cases hn:n=0
  ·subst hn;rw[sa];simp
  ·rw[y7 hn,List.length_cons]
   have:=ih (n/2) (by rw[Nat.pow_succ]at h;omega)
   omega
theorem QM{n k:Nat}(h:n<4294967296^k):(bin n).length≤32*k:=Ur _ _ (Nat.lt_of_lt_of_le h (by rw[Nat.pow_mul];exact Nat.le_refl _))
theorem CI(N:Nat)(hN:4000000≤N)(x2 x3 x4 x5:aw): ∀(m n:Nat) (t:Nat) (bits:List Int),(bin t).length≤m→m<n→(iI t).length≤100000→bits.length+(bin t).length≤4000000→
  fa.l3 N n x2 x3 x4 x5 bits (iI t)=fa.l9 N N x2 x3 x4 x5 (bits++bin t) (false,([],())) (false,([],())) (((bits++bin t).length:Int)-1)
 |m,0,t,bits,_,hn,_,_=>by omega
 |m,n+1,t,bits,hm,hn,hd,hb=>by
  unfold fa.l3 fa.kq
  by_cases ht:t=0
  ·subst ht
   rw[gK,sa]
   simp (disch:=omega) only[aE,aA,cS,cM,cG,cA,aG,bo,bC,cw,al,bz,cond_true,cond_false,Bool.not_true,Bool.not_false,Option.bind_some,Int.toNat_natCast,Int.toNat_zero,ae,List.length_append,List.length_singleton,List.length_set,List.length_replicate,List.length_cons,List.length_nil,List.append_nil]
  ·have J7:0<(iI t).length:=by
    apply List.length_pos_iff.2
    intro h;rw[vj]at h;omega
   rw[y7 ht]at hm hb ⊢
   rw[List.length_cons]at hm hb
   have hdl:(iI (t/2)).length≤100000:=by
    have:=Ej _ t hd
    exact sR _ _ (Nat.lt_of_le_of_lt (Nat.div_le_self _ _) this)
   simp (disch:=omega) only[aE,aA,cS,cM,cG,cA,aG,bo,bC,cw,al,bz,cond_true,cond_false,Bool.not_true,Bool.not_false,Option.bind_some,Int.toNat_natCast,Int.toNat_zero,ae,List.length_append,List.length_singleton,List.length_set,List.length_replicate,List.length_cons,List.length_nil,Uo N hN t hd]
   rw[CI N hN x2 x3 x4 x5 (m-1) n (t/2) (bits++[((t%2:Nat):Int)]) (by omega) (by omega) hdl (by simp;omega)]
   simp
theorem NW(l:List Int){i:Nat}(h:i<l.length):vm (l.drop i)=l.getD i 0+2*vm (l.drop (i+1)):=by
 rw[List.drop_eq_getElem_cons h,vm,List.getD_eq_getElem?_getD,List.getElem?_eq_getElem h];rfl
theorem xL: ∀{l:List Int},(∀d∈l,d=0∨d=1)→0≤vm l
 |[],_=>Int.le_refl _
 |d::r,h=>by
  have h1:=xL (l:=r) fun x hx=>h x (List.mem_cons_of_mem _ hx)
  have:=h d (List.mem_cons_self ..)
  simp only[vm];omega
theorem qx: ∀(l:List Int) (i:Nat),(∀d∈l,d=0∨d=1)→vm (l.drop i)≤vm l
 |l,0,_=>Int.le_refl _
 |[],i+1,_=>Int.le_refl _
 |d::r,i+1,h=>by
  have h1:=qx r i fun x hx=>h x (List.mem_cons_of_mem _ hx)
  have h2:=xL (l:=r) fun x hx=>h x (List.mem_cons_of_mem _ hx)
  have:=h d (List.mem_cons_self ..)
  rw[List.drop_succ_cons,vm];omega
theorem pS(N:Nat)(hN:4000000≤N)(a d:Int)(hd:0<d)(Px:Fit a 80000)(NX:Fit d 80000)(x4 x5:aw){bits:List Int}(hb: ∀x∈bits,x=0∨x=1)(hbv:vm bits=a.natAbs)(uF:bits.length≤4000000):
  ∀(k n:Nat) (q r:Int),k≤bits.length→k<n→0≤q→0≤r→r<d→vm (bits.drop k)=q*d+r→
  fa.l9 N n (b9 a) (b9 d) x4 x5 bits (b9 q) (b9 r) ((k:Int)-1)=some (b9 (a/d),b9 (a%d))
 |k,0,q,r,_,hn,_,_,_,_=>by omega
 |0,n+1,q,r,_,_,hq,hr,iq,hv=>by
  unfold fa.l9 fa.tk
  rw[List.drop_zero,hbv]at hv
  have hqa:q≤a.natAbs:=by
   have:q*1≤q*d:=Int.mul_le_mul_of_nonneg_left (by omega) hq
   omega
  have fq:Fit q 900000:=(Px.of_le (u:=q) (by omega)).mono (by omega)
  have fr:Fit r 900000:=(NX.of_le (u:=r) (by omega)).mono (by omega)
  have f1:Fit 1 900000:=(Fit.i64 (v:=1) (by omega) (by omega)).mono (by omega)
  have fq':Fit (-q) 900000:=fq.neg
  have fd:Fit d 900000:=NX.mono (by omega)
  rw[cM (by omega),cond_false]
  by_cases ha:a<0
  ·have hna:(a.natAbs:Int)= -a:=by omega
   have e0:(b9 a).1=true:=decide_eq_true ha
   simp only[e0,Bool.not_true,cond_false,oS,Option.bind_some]
   by_cases hr0:r=0
   ·subst hr0
    rw[cG (by unfold mC;simp),cond_true]
    simp only[sS N hN fq,Option.bind_some]
    have e1:a=d*(-q):=by rw[Int.mul_neg,Int.mul_comm];omega
    have e2:a/d= -q:=by rw[e1,Int.mul_ediv_cancel_left _ (by omega)]
    have e3:a%d=0:=by rw[e1,Int.mul_emod_right]
    rw[e2,e3]
   ·rw[cA (by unfold mC;rw[if_neg (by omega),if_pos (by omega)];omega),cond_false]
    simp (disch:=omega) only[sS N hN fq,fg N (by omega) (show-9223372036854775808≤(1:Int)by omega) (by omega),Option.bind_some,sT N hN fq' f1,sT N hN fd fr]
    have e1:a=(d-r)+d*(-q-1):=by rw[Int.mul_sub,Int.mul_neg,Int.mul_one,Int.mul_comm];omega
    have e2:a/d= -q-1:=by
     rw[e1,Int.add_mul_ediv_left _ _ (by omega),Int.ediv_eq_zero_of_lt (by omega) (by omega)];omega
    have e3:a%d=d-r:=by rw[e1,Int.add_mul_emod_self_left,Int.emod_eq_of_lt (by omega) (by omega)]
    rw[e2,e3]
  ·have hna:(a.natAbs:Int)=a:=by omega
   have e0:(b9 a).1=false:=decide_eq_false ha
   simp only[e0,Bool.not_false,cond_true]
   have e1:a=r+d*q:=by rw[Int.mul_comm];omega
   have e2:a/d=q:=by rw[e1,Int.add_mul_ediv_left _ _ (by omega),Int.ediv_eq_zero_of_lt hr iq];omega
   have e3:a%d=r:=by rw[e1,Int.add_mul_emod_self_left,Int.emod_eq_of_lt hr iq]
   rw[e2,e3]
 |k+1,n+1,q,r,hk,hn,hq,hr,iq,hv=>by
  unfold fa.l9 fa.tk
  have e:((k+1:Nat):Int)-1=(k:Int):=by omega
  have hle:=qx bits k hb
  have anl:=qx bits (k+1) hb
  rw[hbv]at hle anl
  have hqa:q≤a.natAbs:=by
   have:q*1≤q*d:=Int.mul_le_mul_of_nonneg_left (by omega) hq
   omega
  have fq:Fit q 80000:=Px.of_le (by omega)
  have fr:Fit r 80000:=NX.of_le (by omega)
  have fqq:=fq.add fq
  have frr:=fr.add fr
  have f1:Fit 1 80000:=(Fit.i64 (v:=1) (by omega) (by omega)).mono (by omega)
  have hvk:=NW bits (i:=k) (by omega)
  have yz:bits.getD k 0=0∨bits.getD k 0=1:=by
   rw[List.getD_eq_getElem?_getD,List.getElem?_eq_getElem (show k<bits.length by omega)]
   exact hb _ (List.getElem_mem _)
  rw[e,cS (by omega),cond_true]
  have e2q:(q+q)*d=2*(q*d):=by rw[←Int.two_mul,Int.mul_assoc]
  have ahQ:(q+q+1)*d=2*(q*d)+d:=by rw[Int.add_mul,e2q,Int.one_mul]
  simp (disch:=omega) only[aE,aA,cS,cM,cG,cA,aG,bo,bC,cw,al,bz,cond_true,cond_false,Bool.not_true,Bool.not_false,Option.bind_some,Int.toNat_natCast,Int.toNat_zero,ae,List.length_append,List.length_singleton,List.length_set,List.length_replicate,List.length_cons,List.length_nil,jR N hN (fq.mono (by omega)) (fq.mono (by omega)),jR N hN (fr.mono (by omega)) (fr.mono (by omega)),fg N (by omega) (show-9223372036854775808≤(1:Int)by omega) (by omega)]
  rcases yz with yz|yz
  ·rw[yz,cA (by omega),cond_false]
   simp only[El N hN (frr.mono (by omega)) (NX.mono (by omega)),Option.bind_some]
   by_cases TV:d≤r+r
   ·rw[cS (by unfold mC;split<;>(try split)<;>omega),cond_true]
    simp only[sT N hN (frr.mono (by omega)) (NX.mono (by omega)),jR N hN (fqq.mono (by omega)) (f1.mono (by omega)),Option.bind_some]
    refine pS N hN a d hd Px NX x4 x5 hb hbv uF k n _ _ (by omega) (by omega) (by omega) (by omega) (by omega) ?_
    rw[hvk,yz,hv,ahQ];omega
   ·rw[cM (by unfold mC;rw[if_pos (by omega)];omega),cond_false]
    refine pS N hN a d hd Px NX x4 x5 hb hbv uF k n _ _ (by omega) (by omega) (by omega) (by omega) (by omega) ?_
    rw[hvk,yz,hv,e2q];omega
  ·rw[yz,cG rfl,cond_true]
   have ahR:=frr.add (f1.mono (show 80000≤80001 by omega))
   simp only[jR N hN (frr.mono (by omega)) (f1.mono (by omega)),El N hN (ahR.mono (by omega)) (NX.mono (by omega)),Option.bind_some]
   by_cases TV:d≤r+r+1
   ·rw[cS (by unfold mC;split<;>(try split)<;>omega),cond_true]
    simp only[sT N hN (ahR.mono (by omega)) (NX.mono (by omega)),jR N hN (fqq.mono (by omega)) (f1.mono (by omega)),Option.bind_some]
    refine pS N hN a d hd Px NX x4 x5 hb hbv uF k n _ _ (by omega) (by omega) (by omega) (by omega) (by omega) ?_
    rw[hvk,yz,hv,ahQ];omega
   ·rw[cM (by unfold mC;rw[if_pos (by omega)];omega),cond_false]
    refine pS N hN a d hd Px NX x4 x5 hb hbv uF k n _ _ (by omega) (by omega) (by omega) (by omega) (by omega) ?_
    rw[hvk,yz,hv,e2q];omega
theorem En(N:Nat)(hN:5000000≤N){a d:Int}(hd:0<d)(Px:Fit a 80000)(NX:Fit d 80000):fa N (b9 a) (b9 d)=some (b9 (a/d),b9 (a%d)):=by
 unfold fa fa.b
 have uF:(bin a.natAbs).length≤32*80000:=QM Px
 have h1:=CI N (by omega) (b9 a) (b9 d) (false,([],())) (false,([],())) (bin a.natAbs).length N a.natAbs [] (Nat.le_refl _) (by omega) (Nat.le_trans Px.len (by omega)) (by simp;omega)
 rw[List.nil_append]at h1
 refine h1.trans ?_
 rw[←jn]
 exact pS N (by omega) a d hd Px NX _ _ (Uq _) (Up _) (by omega) (bin a.natAbs).length N 0 0 (Nat.le_refl _) (by omega) (by omega) (by omega) hd (by rw[List.drop_length];simp[vm])
end VM
end
section
namespace VM
open Go VM.F
def bm(v:Int):aS:=(v/18446744073709551616,(v%18446744073709551616,()))
theorem wmk{a b v:Int}(h1:a=v/18446744073709551616)(h2:b=v%18446744073709551616):((a,(b,())):aS)=bm v:=by
 unfold bm;rw[h1,h2]
theorem GM{a b v:Int}{α:Type}{c:α}(h1:a=v/18446744073709551616)(h2:b=v%18446744073709551616):(some (((a,(b,())):aS),c):Option (aS×α))=some (bm v,c):=by
 rw[wmk h1 h2]
theorem QN{a b c d:Int}(h1:a=c)(h2:b=d):(some (a,b):Option (Int×Int))=some (c,d):=by rw[h1,h2]
theorem ud(N:Nat){hi lo:Int}(h0:0≤hi)(h1:hi<9223372036854775808)(l0:0≤lo)(l1:lo<18446744073709551616):mg N false hi lo=some (bm (hi*18446744073709551616+lo),true):=by
 unfold mg mg.b
 rw[Bool.not_false,cond_true,cM (by omega),cond_false,al (by omega) (by omega)]
 exact GM (by omega) (by omega)
theorem qy(N:Nat){hi lo:Int}(h0:0≤hi)(l0:0≤lo)(l1:lo<18446744073709551616)(hm:hi*18446744073709551616+lo≤170141183460469231731687303715884105728):mg N true hi lo=some (bm (-(hi*18446744073709551616+lo)),true):=by
 unfold mg mg.b
 have hj:mg.j7 N hi lo bI=some (bm (-(hi*18446744073709551616+lo)),true):=by
  unfold mg.j7 mg.Kh
  rw[iH N (by omega) (by omega) l0 l1 (by omega) (by omega),Option.bind_some]
  by_cases hl:lo=0
  ·subst hl
   rw[if_neg (by omega)]
   rw[iH N (by omega) (by omega) h0 (by omega) (by omega) (by omega),Option.bind_some,dO]
   exact GM (by split<;>omega) (by omega)
  ·rw[if_pos (by omega)]
   rw[iH N (by omega) (by omega) h0 (by omega) (by omega) (by omega),Option.bind_some,dO]
   exact GM (by split<;>omega) (by omega)
 rw[Bool.not_true,cond_false,aA (by omega),cond_false]
 by_cases he:hi=9223372036854775808
 ·rw[cG he,cond_true,aA (by omega),cond_false];exact hj
 ·rw[cA he,cond_false];exact hj
theorem B6{a b:Int}(a0: -9223372036854775808≤a)(a1:a<9223372036854775808)(b0: -9223372036854775808≤b)(b1:b<9223372036854775808):
  0≤(a.natAbs:Int)*b.natAbs∧(a.natAbs:Int)*b.natAbs≤85070591730234615865843651857942052864:=by
 have:=mul_lt (m:=9223372036854775808) (n:=9223372036854775808) (show 0≤(a.natAbs:Int)by omega) (show 0≤(b.natAbs:Int)by omega) (by omega) (by omega)
 omega
theorem vn(N:Nat){a b:Int}(a0: -9223372036854775808≤a)(a1:a<9223372036854775808)(b0: -9223372036854775808≤b)(b1:b<9223372036854775808):B7 N a b=some (bm (a*b)):=by
 unfold B7
 have hm:=B6 a0 a1 b0 b1
 simp only[Ei N a0 a1,Ei N b0 b1,Option.bind_some,zZ N (show 0≤(a.natAbs:Int)by omega) (by omega) (show 0≤(b.natAbs:Int)by omega) (by omega),nF]
 obtain⟨m,hme⟩: ∃m,m=(a.natAbs:Int)*b.natAbs:=⟨_,rfl⟩
 rw[←hme]at hm ⊢
 have hd:m/18446744073709551616*18446744073709551616+m%18446744073709551616=m:=by omega
 by_cases h1:a<0<;>by_cases h2:b<0
 ·rw[aE h1,aE h2,beq_self_eq_true,Bool.not_true,ud N (by omega) (by omega) (by omega) (by omega),Option.bind_some,hd]
  have:m=a*b:=by rw[hme,show(a.natAbs:Int)= -a from by omega,show(b.natAbs:Int)= -b from by omega,Int.neg_mul_neg]
  rw[this]
 ·rw[aE h1,aA (x:=b) (by omega),show(!(true==false))=true from rfl,qy N (by omega) (by omega) (by omega) (by omega),Option.bind_some,hd]
  have:m= -(a*b):=by rw[hme,show(a.natAbs:Int)= -a from by omega,show(b.natAbs:Int)=b from by omega,Int.neg_mul]
  rw[this,Int.neg_neg]
 ·rw[aA (x:=a) (by omega),aE h2,show(!(false==true))=true from rfl,qy N (by omega) (by omega) (by omega) (by omega),Option.bind_some,hd]
  have:m= -(a*b):=by rw[hme,show(a.natAbs:Int)=a from by omega,show(b.natAbs:Int)= -b from by omega,Int.mul_neg]
  rw[this,Int.neg_neg]
 ·rw[aA (x:=a) (by omega),aA (x:=b) (by omega),beq_self_eq_true,Bool.not_true,ud N (by omega) (by omega) (by omega) (by omega),Option.bind_some,hd]
  have:m=a*b:=by rw[hme,show(a.natAbs:Int)=a from by omega,show(b.natAbs:Int)=b from by omega]
  rw[this]
theorem GN(N:Nat){v:Int}(v0: -170141183460469231731687303715884105728≤v)(v1:v<170141183460469231731687303715884105728):QO N (bm v)=some ((v.natAbs:Int)/18446744073709551616,(v.natAbs:Int)%18446744073709551616):=by
 unfold QO bm
 dsimp only
 by_cases h:0≤v
 ·rw[cS (by omega),cond_true,bz (by omega) (by omega)]
  exact QN (by omega) (by omega)
 ·rw[cM (by omega),cond_false,iH N (by omega) (by omega) (by omega) (by omega) (by omega) (by omega),Option.bind_some]
  dsimp only
  rw[jm]
  by_cases hl:v%18446744073709551616=0
  ·rw[if_neg (by omega),iH N (by omega) (by omega) (by omega) (by omega) (by omega) (by omega),Option.bind_some]
   exact QN (by omega) (by omega)
  ·rw[if_pos (by omega),iH N (by omega) (by omega) (by omega) (by omega) (by omega) (by omega),Option.bind_some]
   exact QN (by omega) (by omega)
theorem Us{m d:Int}(hd:0<d)(hm:0≤m):m/d=m/18446744073709551616/d*18446744073709551616+(m/18446744073709551616%d*18446744073709551616+m%18446744073709551616)/d∧
  m%d=(m/18446744073709551616%d*18446744073709551616+m%18446744073709551616)%d:=by
 have e:=Int.mul_ediv_add_emod (m/18446744073709551616) d
 have e0:m=(m/18446744073709551616%d*18446744073709551616+m%18446744073709551616)+d*(m/18446744073709551616/d*18446744073709551616):=by
  rw[←Int.mul_assoc];omega
 constructor
 ·conv=>lhs;rw[e0]
  rw[Int.add_mul_ediv_left _ _ (by omega)];omega
 ·conv=>lhs;rw[e0]
  rw[Int.add_mul_emod_self_left]
theorem Ut(N:Nat)(hN:100≤N){v d:Int}(v0: -170141183460469231731687303715884105728≤v)(v1:v<170141183460469231731687303715884105728)(d0:0<d)(d1:d<9223372036854775808):
  pT N (bm v) d=some (bm (v/d),v%d,true):=by
 unfold pT pT.b
 rw[aA (by omega),cond_false,GN N v0 v1,Option.bind_some,bz (x:=d) (by omega) (by omega)]
 dsimp only
 obtain⟨m,hm⟩: ∃m:Int,m=v.natAbs:=⟨_,rfl⟩
 rw[←hm]
 have hmd:=Int.emod_lt_of_pos (m/18446744073709551616) d0
 have ann:=Int.emod_nonneg (m/18446744073709551616) (show d≠0 by omega)
 rw[GA N hN (by omega) d0 (by omega) (by omega) (by omega),Option.bind_some,Int.zero_mul,Int.zero_add]
 dsimp only
 rw[GA N hN ann hmd (by omega) (by omega) (by omega),Option.bind_some]
 dsimp only
 obtain⟨e1,e2⟩:=Us d0 (show 0≤m by omega)
 rw[←e2]
 have TU:0≤m/18446744073709551616/d:=Int.ediv_nonneg (by omega) (by omega)
 have hq1:m/18446744073709551616/d≤m/18446744073709551616:=Int.ediv_le_self _ (by omega)
 have Ef:=Int.emod_lt_of_pos m d0
 have hr0:=Int.emod_nonneg m (show d≠0 by omega)
 have hl0:0≤(m/18446744073709551616%d*18446744073709551616+m%18446744073709551616)/d:=Int.ediv_nonneg (by omega) (by omega)
 have hl1:(m/18446744073709551616%d*18446744073709551616+m%18446744073709551616)/d<18446744073709551616:=by
  rw[Int.ediv_lt_iff_lt_mul d0]
  have:=Int.mul_le_mul_of_nonneg_right (show m/18446744073709551616%d+1≤d by omega) (show(0:Int)≤18446744073709551616 by omega)
  rw[Int.add_mul,Int.one_mul,Int.mul_comm d]at this;omega
 generalize (m/18446744073709551616%d*18446744073709551616+m%18446744073709551616)/d=ql at*
 generalize hqh:m/18446744073709551616/d=qh at*
 have hmq:=Int.mul_ediv_add_emod m d
 by_cases h:0≤v
 ·have hv:m=v:=by omega
  rw[cS (show(0:Int)≤(bm v).1 by show 0≤v/_;omega),cond_true,al (x:=qh) (by omega) (by omega),al (x:=m%d) (by omega) (by omega),←hv]
  unfold bm
  exact GM (by omega) (by omega)
 ·have hv:v= -m:=by omega
  rw[cM (show(bm v).1<0 by show v/_<0;omega),cond_false]
  by_cases hr:0<m%d
  ·rw[aE hr,cond_true,pQ N hl0 (by omega) (by omega) (by omega),Option.bind_some]
   unfold pT.JM pT.yD
   dsimp only
   rw[bz (x:=d-m%d) (by omega) (by omega),bz (x:=qh+(ql+1+0)/18446744073709551616) (by omega) (by omega)]
   rw[qy N (by omega) (by omega) (by omega) (by
    have:m/d*1≤m/d*d:=Int.mul_le_mul_of_nonneg_left (by omega) (Int.ediv_nonneg (by omega) (by omega))
    rw[Int.mul_comm]at hmq;omega),Option.bind_some,al (x:=d-m%d) (by omega) (by omega)]
   have e3:v=(d-m%d)+d*(-(m/d)-1):=by rw[hv,Int.mul_sub,Int.mul_neg,Int.mul_one];omega
   have e4:v/d= -(m/d)-1:=by
    rw[e3,Int.add_mul_ediv_left _ _ (by omega),Int.ediv_eq_zero_of_lt (by omega) (by omega)];omega
   have e5:v%d=d-m%d:=by rw[e3,Int.add_mul_emod_self_left,Int.emod_eq_of_lt (by omega) (by omega)]
   rw[e4,e5]
   dsimp only
   rw[show-((qh+(ql+1+0)/18446744073709551616)*18446744073709551616+(ql+1+0)%18446744073709551616)= -(m/d)-1 by omega]
  ·have dD:m%d=0:=by omega
   rw[aA (by omega),cond_false]
   unfold pT.JM pT.yD
   rw[qy N (by omega) (by omega) (by omega) (by
    have:m/d*1≤m/d*d:=Int.mul_le_mul_of_nonneg_left (by omega) (Int.ediv_nonneg (by omega) (by omega))
    rw[Int.mul_comm]at hmq;omega),Option.bind_some,al (x:=m%d) (by omega) (by omega)]
   have e3:v=d*(-(m/d)):=by rw[hv,Int.mul_neg];omega
   have e4:v/d= -(m/d):=by rw[e3,Int.mul_ediv_cancel_left _ (by omega)]
   have e5:v%d=0:=by rw[e3,Int.mul_emod_right]
   rw[e4,e5,dD]
   dsimp only
   rw[show-(qh*18446744073709551616+ql)= -(m/d)by omega]
theorem Uu(N:Nat){v:Int}(v0: -170141183460469231731687303715884105728≤v)(v1:v<170141183460469231731687303715884105728):GO N (bm v)=some (B4 v):=by
 unfold GO bm
 rw[aA (by omega),cond_false]
 dsimp only
 have hw0: -9223372036854775808≤W .i64 (v%18446744073709551616)∧W .i64 (v%18446744073709551616)<9223372036854775808:=by rw[dO];split<;>omega
 rw[qt hw0.1 hw0.2]
 have hwv:W .i64 (v%18446744073709551616)=if 9223372036854775808≤v%18446744073709551616 then v%18446744073709551616-18446744073709551616 else v%18446744073709551616:=by rw[dO];split<;>split<;>omega
 rw[hwv]
 unfold B4
 by_cases h: -9223372036854775808≤v∧v<9223372036854775808
 ·rw[if_pos h]
  by_cases hn:v<0
  ·rw[if_pos (show 9223372036854775808≤v%18446744073709551616 by omega),if_pos (by omega),cG (by omega),Bool.not_true,cond_false]
   congr 2;omega
  ·rw[if_neg (show ¬9223372036854775808≤v%18446744073709551616 by omega),if_neg (by omega),cG (by omega),Bool.not_true,cond_false]
   congr 2;omega
 ·rw[if_neg h]
  by_cases hm:9223372036854775808≤v%18446744073709551616
  ·rw[if_pos hm,if_pos (by omega),cA (by omega),Bool.not_false,cond_true]
  ·rw[if_neg hm,if_neg (by omega),cA (by omega),Bool.not_false,cond_true]
end VM
end
section
namespace VM
open Go
theorem cond_not{α:Type}(b:Bool)(x y:α):cond (!b) x y=cond b y x:=by cases b<;>rfl
theorem a8{α:Type}(a b:Int)(x y:α):cond (aH a b) x y=if a<b then x else y:=by
 by_cases h:a<b
 ·rw[aE h,if_pos h];rfl
 ·rw[aA (by omega),if_neg h];rfl
theorem bt{α:Type}(a b:Int)(x y:α):cond (bU a b) x y=if a≤b then x else y:=by
 by_cases h:a≤b
 ·rw[cS h,if_pos h];rfl
 ·rw[cM (by omega),if_neg h];rfl
theorem aB{α:Type}(a b:Int)(x y:α):cond (ay a b) x y=if a=b then x else y:=by
 by_cases h:a=b
 ·rw[cG h,if_pos h];rfl
 ·rw[cA h,if_neg h];rfl
theorem cN{α:Type}(p:Prop) [Decidable p](x y:α):cond (decide p) x y=if p then x else y:=by
 by_cases h:p
 ·rw[decide_eq_true h,if_pos h];rfl
 ·rw[decide_eq_false h,if_neg h];rfl
theorem drop_cons{α:Type}{l:List α}{i:Nat}(h:i<l.length)(d:α):l.drop i=l.getD i d::l.drop (i+1):=by
 rw[List.drop_eq_getElem_cons h,List.getD_eq_getElem?_getD,List.getElem?_eq_getElem h];rfl
theorem nG{α σ β:Type}(l:List α)(d:α)(F:Nat→Int→σ→Option β)(g:List α→σ→Option β)(I:Nat→σ→Prop)
  (hs: ∀n i s,i<l.length→I i s→(∀s',I (i+1) s'→F n ((i+1:Nat):Int) s'=g (l.drop (i+1)) s')→F (n+1) (i:Int) s=g (l.getD i d::l.drop (i+1)) s)
  (he: ∀n s,I l.length s→F (n+1) (l.length:Int) s=g [] s): ∀m n i s,l.length-i≤m→m<n→i≤l.length→I i s→F n (i:Int) s=g (l.drop i) s
 |m,0,i,s,_,hn,_,_=>by omega
 |m,n+1,i,s,hm,hn,hi,hI=>by
  by_cases h:i<l.length
  ·rw[drop_cons h d]
   exact hs n i s h hI fun s' tE=>nG l d F g I hs he (m-1) n (i+1) s' (by omega) (by omega) (by omega) tE
  ·have:i=l.length:=by omega
   subst this
   rw[List.drop_length];exact he n s hI
theorem vo{α β:Type}(l:List α)(d:α)(F:Nat→Int→Option β)(g:List α→Option β)
  (hs: ∀n i,i<l.length→F n ((i+1:Nat):Int)=g (l.drop (i+1))→F (n+1) (i:Int)=g (l.getD i d::l.drop (i+1)))
  (he: ∀n,F (n+1) (l.length:Int)=g []) (n:Nat) (hn:l.length<n):F n 0=g l:=by
 have:=nG (σ:=Unit) l d (fun n i _=>F n i) (fun l _=>g l) (fun _ _=>True) (fun n i _ h _ hr=>hs n i h (hr () trivial)) (fun n _ _=>he n) l.length n 0 () (by omega) hn (by omega) trivial
 simpa using this
theorem scan{F:Nat→Int→Option Bool}{len:Nat}(P:Nat→Prop) [DecidablePred P]
  (hs: ∀n i r,i<len→(∀j,j<i→P j)→F n ((i+1:Nat):Int)=r→F (n+1) (i:Int)=if P i then r else some false) {e:Bool} (he: ∀n,F (n+1) (len:Int)=some e):
  ∀m n i,len-i≤m→m<n→i≤len→(∀j,j<i→P j)→F n (i:Int)=some (decide (∀j,j<len→i≤j→P j)&&e)
 |m,0,i,_,hn,_,_=>by omega
 |m,n+1,i,hm,hn,hi,hp=>by
  by_cases h:i<len
  ·rw[hs n i _ h hp rfl]
   by_cases hP:P i
   ·rw[if_pos hP,scan P hs he (m-1) n (i+1) (by omega) (by omega) (by omega) (fun j hj=>by
     by_cases tX:j=i
     ·subst tX;exact hP
     ·exact hp j (by omega))]
    congr 2
    rw[decide_eq_decide]
    refine⟨fun hj j h2 h1=> ?_,fun hj j h2 h1=>hj j h2 (by omega)⟩
    by_cases tX:j=i
    ·subst tX;exact hP
    ·exact hj j h2 (by omega)
   ·rw[if_neg hP,decide_eq_false (fun hj=>hP (hj i h (Nat.le_refl i)))];rfl
  ·have:i=len:=by omega
   subst this
   rw[he n,decide_eq_true (fun j h2 h1=>absurd h2 (by omega))];rfl
theorem eN{F:Nat→Int→Option Bool}{len:Nat}(P:Nat→Prop) [DecidablePred P]{e:Bool}
  (hs: ∀n i r,i<len→(∀j,j<i→P j)→F n ((i+1:Nat):Int)=r→F (n+1) (i:Int)=if P i then r else some false) (he: ∀n,F (n+1) (len:Int)=some e) (n:Nat) (hn:len<n):
  F n 0=some (decide (∀j,j<len→P j)&&e):=by
 have:=scan P hs he len n 0 (by omega) hn (by omega) (fun j hj=>absurd hj (by omega))
 rw[show((0:Nat):Int)=0 from rfl]at this
 rw[this]
 congr 2
 rw[decide_eq_decide]
 exact⟨fun h j hj=>h j hj (by omega),fun h j hj _=>h j hj⟩
end VM
end
section
namespace VM
open Go VM.F
def bL(x:Int):Prop:= -170141183460469231731687303715884105728≤x∧x<170141183460469231731687303715884105728
instance(x:Int):Decidable (bL x):=by unfold bL;infer_instance
theorem mh(N:Nat){x:Int}(h0: -9223372036854775808≤x)(h1:x<9223372036854775808):B8 N x=some (bm x):=by
 unfold B8
 rw[aA (by omega),cond_false,qt h0 h1,jm]
 congr 1
 exact wmk (by split<;>omega) rfl
theorem Uv{ws:List Int}(i:Nat):(ws.map bm).getD i bI=bm (ws.getD i 0):=by
 by_cases h:i<ws.length
 ·rw[List.getD_eq_getElem?_getD,List.getElem?_map,List.getElem?_eq_getElem h,List.getD_eq_getElem?_getD,List.getElem?_eq_getElem h];rfl
 ·rw[List.getD_eq_getElem?_getD,List.getElem?_eq_none (by rw[List.length_map];omega),List.getD_eq_getElem?_getD,List.getElem?_eq_none (by omega)];rfl
theorem acd{ws:List Int}(h: ∀x∈ws,bL x): -(170141183460469231731687303715884105728*(ws.length:Int))≤ws.sum∧ws.sum≤170141183460469231731687303715884105728*(ws.length:Int):=by
 induction ws with
 |nil=>simp
 |cons x ws ih=>
  have h0:=h x (List.mem_cons_self ..)
  have ih:=ih (fun y hy=>h y (List.mem_cons_of_mem _ hy))
  unfold bL at h0
  rw[List.sum_cons,List.length_cons];omega
theorem QP{t w:Int}{lo hi top:Int}(hw:bL w)(yw:lo=t%18446744073709551616)(Fs:hi=t/18446744073709551616%18446744073709551616)(anp:top=t/340282366920938463463374607431768211456):
  (lo+w%18446744073709551616+0)%18446744073709551616=(t+w)%18446744073709551616∧
  (hi+(w/18446744073709551616)%18446744073709551616+(lo+w%18446744073709551616+0)/18446744073709551616)%18446744073709551616=(t+w)/18446744073709551616%18446744073709551616∧
  top+(if w/18446744073709551616<0 then-1 else 0)+(hi+(w/18446744073709551616)%18446744073709551616+(lo+w%18446744073709551616+0)/18446744073709551616)/18446744073709551616=(t+w)/340282366920938463463374607431768211456:=by
 unfold bL at hw
 subst yw Fs anp
 refine⟨by omega,by omega,?_⟩
 split<;>omega
def GP(t:Int):aS×Bool:=if bL t then(bm t,true)else(bI,false)
theorem W64(x:Int):W .u64 x=x%18446744073709551616:=jm x
theorem CJ(N:Nat){ws:List Int}(h: ∀x∈ws,bL x)(hl:ws.length≤1000000): ∀(m n i:Nat) (t:Int),ws.length-i≤m→m<n→i≤ws.length→t=(ws.take i).sum→
  jA.l3 N n bI (t/340282366920938463463374607431768211456) (t/18446744073709551616%18446744073709551616) (t%18446744073709551616) (ws.map bm) (ws.length:Int) (i:Int)=some (GP ws.sum)
 |m,0,i,t,_,hn,_,_=>by omega
 |m,n+1,i,t,hm,hn,hi,ht=>by
  unfold jA.l3 jA.kq
  have f1:=acd (ws:=ws.take i) (fun x hx=>h x (List.mem_of_mem_take hx))
  rw[List.length_take,Nat.min_eq_left (by omega),←ht]at f1
  by_cases h1:i<ws.length
  ·have hw:bL (ws.getD i 0):=by
    rw[List.getD_eq_getElem?_getD,List.getElem?_eq_getElem h1];exact h _ (List.getElem_mem h1)
   have hs:=iJ ws h1
   rw[←ht]at hs
   have st:=QP (t:=t) (w:=ws.getD i 0) hw rfl rfl rfl
   have yE:=CJ N h hl (m-1) n (i+1) (t+ws.getD i 0) (by omega) (by omega) (by omega) hs.symm
   rw[aE (by omega),cond_true,aG (by omega) (by rw[List.length_map];omega),cond_true,Int.toNat_natCast,Uv]
   unfold bm
   dsimp only
   have hw':=hw
   unfold bL at hw'
   generalize ws.getD i 0=w at*
   have hq:0≤(t%18446744073709551616+w%18446744073709551616+0)/18446744073709551616∧(t%18446744073709551616+w%18446744073709551616+0)/18446744073709551616≤1:=by omega
   rw[pQ N (by omega) (by omega) (by omega) (by omega),Option.bind_some,W64,pQ N (by omega) (by omega) hq.1 hq.2,Option.bind_some,aA (x:=63) (by omega),cond_false,st.1,st.2.1]
   rw[qt (by omega) (by omega)]
   have hc:0≤(t/18446744073709551616%18446744073709551616+w/18446744073709551616%18446744073709551616+(t%18446744073709551616+w%18446744073709551616+0)/18446744073709551616)/18446744073709551616∧(t/18446744073709551616%18446744073709551616+w/18446744073709551616%18446744073709551616+(t%18446744073709551616+w%18446744073709551616+0)/18446744073709551616)/18446744073709551616≤1:=by omega
   have hif: -1≤(if w/18446744073709551616<0 then(-1:Int)else 0)∧(if w/18446744073709551616<0 then(-1:Int)else 0)≤0:=by split<;>omega
   rw[al (x:=t/340282366920938463463374607431768211456+_) (by omega) (by omega),al (x:=(_:Int)/18446744073709551616) (by omega) (by omega),st.2.2,al (by omega) (by omega),al (x:=(i:Int)+1) (by omega) (by omega)]
   exact yE
  ·have e:(ws.take i).sum=ws.sum:=by rw[List.take_of_length_le (by omega)]
   rw[e]at ht
   rw[aA (by omega),cond_false,aA (x:=63) (by omega),cond_false,←ht]
   have hh: -9223372036854775808≤W .i64 (t/18446744073709551616%18446744073709551616)∧W .i64 (t/18446744073709551616%18446744073709551616)<9223372036854775808:=by rw[dO];split<;>omega
   have hwv:W .i64 (t/18446744073709551616%18446744073709551616)=if 9223372036854775808≤t/18446744073709551616%18446744073709551616 then t/18446744073709551616%18446744073709551616-18446744073709551616 else t/18446744073709551616%18446744073709551616:=by rw[dO];split<;>split<;>omega
   rw[qt hh.1 hh.2,hwv]
   unfold GP
   by_cases hI:bL t
   ·rw[if_pos hI]
    unfold bL at hI
    rw[cG (by split<;>split<;>omega),Bool.not_true,cond_false]
    exact GM (by split<;>omega) rfl
   ·rw[if_neg hI]
    unfold bL at hI
    rw[cA (by split<;>split<;>omega),Bool.not_false,cond_true]
theorem y8(N:Nat){ws:List Int}(h: ∀x∈ws,bL x)(hl:ws.length≤1000000)(hN:1000000<N):jA N (ws.map bm)=some (GP ws.sum):=by
 unfold jA jA.b
 rw[List.length_map]
 exact CJ N h hl ws.length N 0 0 (by omega) (by omega) (by omega) (by simp)
end VM
end
section
namespace VM
open Go VM.F
theorem qz(N:Nat)(a lo hi:Int):yF N a lo hi=some (decide (lo≤a∧a≤hi)):=by
 unfold yF
 rw[bt,jI]
 by_cases h:lo≤a
 ·rw[if_pos h];congr 1;rw[decide_eq_decide];omega
 ·rw[if_neg h,decide_eq_false (by omega)]
theorem CK(N:Nat)(a lo hi:Int):B9 N a lo hi=some (decide (lo≤a∧a≤hi)):=qz N a lo hi
def oU(a b c d:Int):Prop:=(0≤a∧a≤3)∧(1≤b∧b≤1000000000000)∧(0≤c∧c≤1000000000)∧(0≤d∧d≤1000000000)
instance(a b c d:Int):Decidable (oU a b c d):=by unfold oU;infer_instance
def mi(l:aD)(i:Nat):Prop:=oU (l.getD i aJ).1 (l.getD i aJ).2.1 (l.getD i aJ).2.2.1 (l.getD i aJ).2.2.2.1
instance(l:aD):DecidablePred (mi l):=fun i=>by unfold mi;infer_instance
def qA(a b c d e f:Int):Prop:=0≤a∧(0≤b∧b≤4)∧(0≤c∧c≤1000000)∧(0≤d∧d≤1000000)∧(1≤e∧e≤4611686018427387904)∧0≤f
instance(a b c d e f:Int):Decidable (qA a b c d e f):=by unfold qA;infer_instance
def qB(c:aa):Prop:=qA c.2.1 c.2.2.1 c.2.2.2.1 c.2.2.2.2.1 c.2.2.2.2.2.1 c.2.2.2.2.2.2.1
instance(c:aa):Decidable (qB c):=by unfold qB;infer_instance
def dR(c:aa):Bool:=decide (1≤c.1.length∧c.1.length≤6)&&(decide (∀j,j<c.1.length→mi c.1 j)&&decide (qB c))
theorem y9(N:Nat)(hN:100≤N)(c:aa):wi N c=some (dR c):=by
 unfold wi wi.b dR
 rw[qz,Option.bind_some,cond_not,cN]
 by_cases hl:1≤c.1.length∧c.1.length≤6
 ·rw[if_pos (by omega),decide_eq_true hl,Bool.true_and]
  refine eN (F:=fun n i=>wi.l4 N n c c.1 (c.1.length:Int) i) (mi c.1) (fun n i r hi hp hr=> ?_) (fun n=> ?_) N (by omega)
  ·unfold wi.l4 wi.c5
   rw[aE (by omega),cond_true,aG (by omega) (by omega),cond_true,Int.toNat_natCast,al (by omega) (by omega),ae]
   simp only[qz,Option.bind_some,cond_not,cN]
   by_cases hP:mi c.1 i
   ·rw[if_pos hP];unfold mi oU at hP
    repeat' split
    all_goals first|rfl|exact hr|omega
   ·rw[if_neg hP];unfold mi oU at hP
    repeat' split
    all_goals first|rfl|exact hr|omega
  ·unfold wi.l4 wi.c5
   rw[aA (by omega),cond_false]
   simp only[qz,Option.bind_some,cond_not,cN,bt,jI]
   by_cases hP:qB c
   ·rw[decide_eq_true hP];unfold qB qA at hP
    repeat' split
    all_goals first|rfl|omega|(rw[decide_eq_true (by omega)])
   ·rw[decide_eq_false hP];unfold qB qA at hP
    repeat' split
    all_goals first|rfl|omega|(rw[decide_eq_false (by omega)])
 ·rw[if_neg (by omega),decide_eq_false hl,Bool.false_and]
theorem nH(N:Nat)(hN:100≤N)(c:aa):iZ N c=some (dR c):=by
 unfold iZ iZ.b dR
 rw[a8,a8]
 by_cases hl:1≤c.1.length∧c.1.length≤6
 ·rw[if_neg (by omega),if_neg (by omega),decide_eq_true hl,Bool.true_and]
  refine eN (F:=fun n i=>iZ.l4 N n c i) (mi c.1) (fun n i r hi hp hr=> ?_) (fun n=> ?_) N (by omega)
  ·unfold iZ.l4 iZ.c5
   rw[aE (by omega),cond_true,aG (by omega) (by omega),cond_true,Int.toNat_natCast,al (by omega) (by omega),ae]
   simp only[CK,Option.bind_some,cond_not,cN]
   by_cases hP:mi c.1 i
   ·rw[if_pos hP];unfold mi oU at hP
    repeat' split
    all_goals first|rfl|exact hr|omega
   ·rw[if_neg hP];unfold mi oU at hP
    repeat' split
    all_goals first|rfl|exact hr|omega
  ·unfold iZ.l4 iZ.c5
   rw[aA (by omega),cond_false]
   simp only[CK,Option.bind_some,cond_not,cN,bt,jI]
   by_cases hP:qB c
   ·rw[decide_eq_true hP];unfold qB qA at hP
    repeat' split
    all_goals first|rfl|omega|(rw[decide_eq_true (by omega)])
   ·rw[decide_eq_false hP];unfold qB qA at hP
    repeat' split
    all_goals first|rfl|omega|(rw[decide_eq_false (by omega)])
 ·rw[decide_eq_false hl,Bool.false_and]
  by_cases h:(c.1.length:Int)<1
  ·rw[if_pos h]
  ·rw[if_neg h,if_pos (by omega)]
def fh(a b:Int)(i:Nat)(c:Int):Prop:=1≤a∧a≤12∧1≤b∧b≤4∧(0<i→c<a)
instance(a b:Int)(i:Nat)(c:Int):Decidable (fh a b i c):=by unfold fh;infer_instance
def dG(m:au)(i:Nat):Prop:=fh (m.getD i bI).1 (m.getD i bI).2.1 i (m.getD (i-1) bI).1
instance(m:au):DecidablePred (dG m):=fun i=>by unfold dG;infer_instance
def jq(m:au):Bool:=decide (∀j,j<m.length→dG m j)&&true
theorem Ab(N:Nat){m:au}(hl:m.length≤100000)(hN:200000≤N):lF N m=some (jq m):=by
 unfold lF lF.b
 refine eN (F:=fun n i=>lF.l2 N n m m (m.length:Int) i) (dG m) (fun n i r hi hp hr=> ?_) (fun n=> ?_) N (by omega)
 ·unfold lF.l2 lF.dr
  rw[aE (by omega),cond_true,aG (by omega) (by omega),cond_true,Int.toNat_natCast,al (x:=(i:Int)+1) (by omega) (by omega),ae]
  by_cases h0:0<i
  ·have e:W .i64 ((i:Int)-1)=((i-1:Nat):Int):=by rw[al (by omega) (by omega)];omega
   dsimp only
   rw[aE (x:=0) (by omega),cond_true,e,Int.toNat_natCast,aG (by omega) (by omega),cond_true]
   simp only[a8,bt]
   by_cases hP:dG m i
   ·rw[if_pos hP];unfold dG fh at hP
    repeat' split
    all_goals first|rfl|exact hr|omega
   ·rw[if_neg hP];unfold dG fh at hP
    repeat' split
    all_goals first|rfl|exact hr|omega
  ·rw[aA (x:=0) (by omega),cond_false]
   simp only[a8,bt]
   by_cases hP:dG m i
   ·rw[if_pos hP];unfold dG fh at hP
    repeat' split
    all_goals first|rfl|exact hr|omega
   ·rw[if_neg hP];unfold dG fh at hP
    repeat' split
    all_goals first|rfl|exact hr|omega
 ·unfold lF.l2 lF.dr
  rw[aA (by omega),cond_false]
theorem oV(N:Nat){m:au}(hl:m.length≤100000)(hN:200000≤N):kg N m=some (jq m):=by
 unfold kg kg.b
 refine eN (F:=fun n i=>kg.l2 N n m i) (dG m) (fun n i r hi hp hr=> ?_) (fun n=> ?_) N (by omega)
 ·unfold kg.l2 kg.dr
  rw[aE (by omega),cond_true,aG (by omega) (by omega),cond_true,Int.toNat_natCast,al (x:=(i:Int)+1) (by omega) (by omega),ae]
  by_cases h0:0<i
  ·have e:W .i64 ((i:Int)-1)=((i-1:Nat):Int):=by rw[al (by omega) (by omega)];omega
   dsimp only
   rw[aE (x:=0) (by omega),e,Int.toNat_natCast,aG (i:=((i-1:Nat):Int)) (by omega) (by omega)]
   simp only[a8,bt,cond_true]
   by_cases hP:dG m i
   ·rw[if_pos hP];unfold dG fh at hP
    repeat' split
    all_goals first|rfl|exact hr|omega
   ·rw[if_neg hP];unfold dG fh at hP
    repeat' split
    all_goals first|rfl|exact hr|omega
  ·rw[aA (x:=0) (by omega)]
   simp only[a8,bt,cond_true,cond_false]
   by_cases hP:dG m i
   ·rw[if_pos hP];unfold dG fh at hP
    repeat' split
    all_goals first|rfl|exact hr|omega
   ·rw[if_neg hP];unfold dG fh at hP
    repeat' split
    all_goals first|rfl|exact hr|omega
 ·unfold kg.l2 kg.dr
  rw[aA (by omega),cond_false]
end VM
end
section
namespace VM
open Go VM.F
def eF(k n:Int):Prop:=(1≤k∧k≤4∧n=0)∨(k=5∧1≤n∧n≤24)∨(6≤k∧k≤7∧1≤n∧n≤12)
instance(k n:Int):Decidable (eF k n):=by unfold eF;infer_instance
theorem Kj(N:Nat)(k n:Int):Kk N k n=some (decide (eF k n)):=by
 unfold Kk
 simp only[aB,bt]
 simp only[jI,fY]
 by_cases hP:eF k n
 ·rw[decide_eq_true hP];unfold eF at hP
  repeat' split
  all_goals first|rfl|omega|(rw[decide_eq_true (by omega)])
 ·rw[decide_eq_false hP];unfold eF at hP
  repeat' split
  all_goals first|rfl|omega|(rw[decide_eq_false (by omega)])
theorem Uw(N:Nat)(k n:Int):Kl N k n=some (decide (eF k n)):=by
 have:=Kj N k n
 unfold Kk at this
 unfold Kl
 exact this
def iu(a b c d:Int):Prop:=a<c∨(a=c∧b<d)
instance(a b c d:Int):Decidable (iu a b c d):=by unfold iu;infer_instance
def wK(k n a b:Int):Int:=if k=a then n-b else k-a
def Ca(x:Int):Prop:= -1000000≤x∧x≤1000000
theorem Ac(N:Nat){k n:Int}{r:bW}(h1:Ca k)(h2:Ca n)(h3:Ca r.1)(h4:Ca r.2.1):Km N k n r=some (wK k n r.1 r.2.1):=by
 unfold Km wK
 unfold Ca at*
 rw[cond_not,aB]
 split
 ·rw[al (by omega) (by omega)]
 ·rw[al (by omega) (by omega)]
theorem CL(N:Nat){k n:Int}{r:bW}(h1:Ca k)(h2:Ca n)(h3:Ca r.1)(h4:Ca r.2.1):NY N k n r=some (wK k n r.1 r.2.1):=Ac N h1 h2 h3 h4
def ja(a b c:Int)(i:Nat)(d e:Int):Prop:=eF a b∧c≠0∧(0<i→iu d e a b)
instance(a b c:Int)(i:Nat)(d e:Int):Decidable (ja a b c i d e):=by unfold ja;infer_instance
def iK(l:aj)(i:Nat):Prop:=ja (l.getD i aQ).1 (l.getD i aQ).2.1 (l.getD i aQ).2.2.1 i (l.getD (i-1) aQ).1 (l.getD (i-1) aQ).2.1
instance(l:aj):DecidablePred (iK l):=fun i=>by unfold iK;infer_instance
def fI(l:aj):Bool:=decide (∀j,j<l.length→iK l j)&&true
theorem za(N:Nat){l:aj}(hl:l.length≤100000)(hN:200000≤N):wj N l=some (fI l):=by
 unfold wj wj.b
 refine eN (F:=fun n i=>wj.l2 N n l l (l.length:Int) i) (iK l) (fun n i r hi hp hr=> ?_) (fun n=> ?_) N (by omega)
 ·unfold wj.l2 wj.dr
  rw[aE (by omega),cond_true,aG (by omega) (by omega),cond_true,Int.toNat_natCast,al (x:=(i:Int)+1) (by omega) (by omega),ae,Kj,Option.bind_some,cond_not,cN]
  by_cases hK:eF (l.getD i aQ).1 (l.getD i aQ).2.1
  ·rw[if_pos hK]
   by_cases h0:0<i
   ·have hq:=hp (i-1) (by omega)
    have e:W .i64 ((i:Int)-1)=((i-1:Nat):Int):=by rw[al (by omega) (by omega)];omega
    dsimp only
    rw[aE (x:=0) (by omega),cond_true,e,Int.toNat_natCast,aG (by omega) (by omega),cond_true]
    unfold iK ja at hq
    have hq:=hq.1
    rw[Ac N (by unfold eF at hK;unfold Ca;omega) (by unfold eF at hK;unfold Ca;omega) (by unfold eF at hq;unfold Ca;omega) (by unfold eF at hq;unfold Ca;omega),Option.bind_some,aB,bt]
    by_cases hP:iK l i
    ·rw[if_pos hP];unfold iK ja iu at hP;unfold wK
     have Ko:=hP.2
     repeat' split
     all_goals first|rfl|exact hr|omega
    ·rw[if_neg hP];unfold iK ja iu at hP;unfold wK
     have Ko:=fun h=>hP ⟨hK,h⟩
     repeat' split
     all_goals first|rfl|exact hr|omega|(exfalso;exact Ko (by omega))
   ·rw[aA (x:=0) (by omega),cond_false,aB]
    by_cases hP:iK l i
    ·rw[if_pos hP];unfold iK ja at hP
     rw[if_neg hP.2.1];exact hr
    ·rw[if_neg hP];unfold iK ja at hP
     have Ko:=fun h=>hP ⟨hK,h,fun h=>absurd h h0⟩
     split
     ·rfl
     ·exact absurd (by assumption) Ko
  ·rw[if_neg hK,if_neg (fun h=>hK (by unfold iK ja at h;exact h.1))]
 ·unfold wj.l2 wj.dr
  rw[aA (by omega),cond_false]
theorem Ad(N:Nat){l:aj}(hl:l.length≤100000)(hN:200000≤N):wL N l=some (fI l):=by
 unfold wL wL.b
 refine eN (F:=fun n i=>wL.l2 N n l i) (iK l) (fun n i r hi hp hr=> ?_) (fun n=> ?_) N (by omega)
 ·unfold wL.l2 wL.dr
  rw[aE (by omega),cond_true,aG (by omega) (by omega),cond_true,Int.toNat_natCast,al (x:=(i:Int)+1) (by omega) (by omega),ae,Uw,Option.bind_some,cond_not,cN]
  by_cases hK:eF (l.getD i aQ).1 (l.getD i aQ).2.1
  ·rw[if_pos hK]
   by_cases h0:0<i
   ·have e:W .i64 ((i:Int)-1)=((i-1:Nat):Int):=by rw[al (by omega) (by omega)];omega
    dsimp only
    rw[aE (x:=0) (by omega),e,Int.toNat_natCast,aG (i:=((i-1:Nat):Int)) (by omega) (by omega)]
    simp only[a8,bt,aB,cond_true]
    by_cases hP:iK l i
    ·rw[if_pos hP];unfold iK ja iu at hP
     have Ko:=hP.2
     repeat' split
     all_goals first|rfl|exact hr|omega
    ·rw[if_neg hP];unfold iK ja iu at hP
     have Ko:=fun h=>hP ⟨hK,h⟩
     repeat' split
     all_goals first|rfl|exact hr|omega|(exfalso;exact Ko (by omega))
   ·rw[aA (x:=0) (by omega)]
    simp only[a8,bt,aB,cond_true,cond_false]
    by_cases hP:iK l i
    ·rw[if_pos hP];unfold iK ja at hP
     rw[if_neg hP.2.1];exact hr
    ·rw[if_neg hP];unfold iK ja at hP
     have Ko:=fun h=>hP ⟨hK,h,fun h=>absurd h h0⟩
     split
     ·rfl
     ·exact absurd (by assumption) Ko
  ·rw[if_neg hK,if_neg (fun h=>hK (by unfold iK ja at h;exact h.1))];rfl
 ·unfold wL.l2 wL.dr
  rw[aA (by omega),cond_false]
end VM
end
section
namespace VM
open Go VM.F
def bR(a b:Int):Prop:=0≤a∧a≤24∧0≤b∧b<6
instance(a b:Int):Decidable (bR a b):=by unfold bR;infer_instance
theorem Ms(N:Nat)(a b:Int):QQ N a b=some (decide (bR a b)):=by
 unfold QQ
 simp only[bt]
 simp only[pe]
 by_cases hP:bR a b
 ·rw[decide_eq_true hP];unfold bR at hP
  repeat' split
  all_goals first|rfl|omega|(rw[decide_eq_true (by omega)])
 ·rw[decide_eq_false hP];unfold bR at hP
  repeat' split
  all_goals first|rfl|omega|(rw[decide_eq_false (by omega)])
def yG(q:Int):Prop:=q≠ -9223372036854775808
instance(q:Int):Decidable (yG q):=by unfold yG;infer_instance
theorem oW(N:Nat)(q:Int):Kp N q=some (decide (yG q)):=by
 unfold Kp yG
 rw[fY]
 by_cases h:q= -9223372036854775808<;>simp[h]
def jS(a b c:Int)(i:Nat)(d e:Int):Prop:=bR a b∧c≠0∧yG c∧(0<i→iu d e a b)
instance(a b c:Int)(i:Nat)(d e:Int):Decidable (jS a b c i d e):=by unfold jS;infer_instance
def jr(l:aj)(i:Nat):Prop:=jS (l.getD i aQ).1 (l.getD i aQ).2.1 (l.getD i aQ).2.2.1 i (l.getD (i-1) aQ).1 (l.getD (i-1) aQ).2.1
instance(l:aj):DecidablePred (jr l):=fun i=>by unfold jr;infer_instance
def cR(l:aj):Bool:=decide (∀j,j<l.length→jr l j)&&true
theorem vp(N:Nat){l:aj}(hl:l.length≤100000)(hN:200000≤N):ki N l=some (cR l):=by
 unfold ki ki.b
 refine eN (F:=fun n i=>ki.l2 N n l l (l.length:Int) i) (jr l) (fun n i r hi hp hr=> ?_) (fun n=> ?_) N (by omega)
 ·unfold ki.l2 ki.dr
  rw[aE (by omega),cond_true,aG (by omega) (by omega),cond_true,Int.toNat_natCast,al (x:=(i:Int)+1) (by omega) (by omega),ae,Ms,Option.bind_some,cond_not,cN,oW,Option.bind_some,cond_not,cN]
  by_cases hK:bR (l.getD i aQ).1 (l.getD i aQ).2.1
  ·rw[if_pos hK]
   by_cases h0:0<i
   ·have hq:=hp (i-1) (by omega)
    have e:W .i64 ((i:Int)-1)=((i-1:Nat):Int):=by rw[al (by omega) (by omega)];omega
    dsimp only
    rw[aE (x:=0) (by omega),cond_true,e,Int.toNat_natCast,aG (by omega) (by omega),cond_true]
    unfold jr jS at hq
    have hq:=hq.1
    rw[CL N (by unfold bR at hK;unfold Ca;omega) (by unfold bR at hK;unfold Ca;omega) (by unfold bR at hq;unfold Ca;omega) (by unfold bR at hq;unfold Ca;omega),Option.bind_some,aB,bt]
    by_cases hP:jr l i
    ·rw[if_pos hP];unfold jr jS iu at hP;unfold wK
     obtain⟨_,hP1,Ko,hP3⟩:=hP
     rw[if_pos Ko]
     repeat' split
     all_goals first|rfl|exact hr|omega
    ·rw[if_neg hP];unfold jr jS iu at hP;unfold wK
     have Ko:=fun h1 h2 h3=>hP ⟨hK,h1,h2,h3⟩
     repeat' split
     all_goals first|rfl|exact hr|(exfalso;exact Ko (by assumption) (by assumption) (by omega))|omega
   ·rw[aA (x:=0) (by omega),cond_false,aB]
    by_cases hP:jr l i
    ·rw[if_pos hP];unfold jr jS at hP
     rw[if_neg hP.2.1,if_pos hP.2.2.1];exact hr
    ·rw[if_neg hP];unfold jr jS at hP
     have Ko:=fun h1 h2=>hP ⟨hK,h1,h2,fun h=>absurd h h0⟩
     split
     ·rfl
     ·split
      ·exact(Ko (by assumption) (by assumption)).elim
      ·rfl
  ·rw[if_neg hK,if_neg (fun h=>hK (by unfold jr jS at h;exact h.1))]
 ·unfold ki.l2 ki.dr
  rw[aA (by omega),cond_false]
theorem ng(N:Nat){l:aj}(hl:l.length≤100000)(hN:200000≤N):uH N l=some (cR l):=by
 unfold uH uH.b
 refine eN (F:=fun n i=>uH.l2 N n l i) (jr l) (fun n i r hi hp hr=> ?_) (fun n=> ?_) N (by omega)
 ·unfold uH.l2 uH.dr
  rw[aE (by omega),cond_true,aG (by omega) (by omega),cond_true,Int.toNat_natCast,al (x:=(i:Int)+1) (by omega) (by omega),ae]
  by_cases h0:0<i
  ·have e:W .i64 ((i:Int)-1)=((i-1:Nat):Int):=by rw[al (by omega) (by omega)];omega
   dsimp only
   rw[aE (x:=0) (y:=(i:Int)) (by omega),e,Int.toNat_natCast,aG (i:=((i-1:Nat):Int)) (by omega) (by omega)]
   simp only[a8,bt,aB,cond_true]
   by_cases hP:jr l i
   ·rw[if_pos hP];unfold jr jS iu yG bR at hP
    repeat' split
    all_goals first|rfl|exact hr|omega
   ·rw[if_neg hP];unfold jr jS iu yG bR at hP
    repeat' split
    all_goals first|rfl|exact hr|omega|(exfalso;exact hP (by omega))
  ·rw[aA (x:=0) (y:=(i:Int)) (by omega)]
   simp only[a8,bt,aB,cond_true,cond_false]
   by_cases hP:jr l i
   ·rw[if_pos hP];unfold jr jS iu yG bR at hP
    repeat' split
    all_goals first|rfl|exact hr|omega
   ·rw[if_neg hP];unfold jr jS iu yG bR at hP
    repeat' split
    all_goals first|rfl|exact hr|omega|(exfalso;exact hP (by omega))
 ·unfold uH.l2 uH.dr
  rw[aA (by omega),cond_false]
theorem dV(a b:Int)(y:Bool):cond (bU a b) (some y) (some false)=some (decide (a≤b)&&y):=by
 rw[bt];by_cases h:a≤b<;>simp[h]
theorem Ae(a b:Int)(y:Bool):cond (aH a b) (some y) (some false)=some (decide (a<b)&&y):=by
 rw[a8];by_cases h:a<b<;>simp[h]
theorem Af(a b:Int)(y:Bool):cond (ay a b) (some y) (some false)=some (decide (a=b)&&y):=by
 rw[aB];by_cases h:a=b<;>simp[h]
theorem wM(a b:Int)(y z:Bool):cond (ay a b) (some y) (some z)=some ((decide (a=b)&&y)||(!decide (a=b)&&z)):=by
 rw[aB];by_cases h:a=b<;>simp[h]
def jb(a b c d e f:Int):Prop:=(1≤a∧a≤1099511627776)∧(1≤b∧b≤24)∧(0≤c∧c<6)∧(d=1∨d=2)∧(1≤e∧e≤1000000000)∧(1≤f∧f≤1000000000000)
instance(a b c d e f:Int):Decidable (jb a b c d e f):=by unfold jb;infer_instance
def gk(o:cq):Prop:=jb o.1 o.2.1 o.2.2.1 o.2.2.2.1 o.2.2.2.2.1 o.2.2.2.2.2.1
instance(o:cq):Decidable (gk o):=by unfold gk;infer_instance
theorem Kq(N:Nat)(o:cq):NZ N o=some (decide (gk o)):=by
 unfold NZ
 rw[jI o.2.2.2.2.2.1]
 rw[dV,dV,dV,Af,wM,Ae,dV,dV,dV,dV,dV]
 congr 1
 rw[Bool.eq_iff_iff,decide_eq_true_iff]
 unfold gk jb
 simp only[Bool.and_eq_true,Bool.or_eq_true,Bool.not_eq_true',decide_eq_true_eq,decide_eq_false_iff_not]
 omega
end VM
end
section
namespace VM
open Go VM.F
theorem wN(N:Nat)(p:Int):Ux N p=some (decide (1≤p∧p≤1000000000000)):=by
 unfold Ux
 rw[jI p,dV];congr 1
 rw[Bool.eq_iff_iff];simp only[Bool.and_eq_true,decide_eq_true_eq]
theorem js(N:Nat)(p:Int):yH N p=some (decide (1≤p∧p≤1000000000000)):=wN N p
theorem zb(N:Nat)(o:cq):Kr N o=some (decide (gk o)):=by
 unfold Kr
 rw[js,Option.bind_some]
 repeat (first|rw[dV]|rw[Ae]|rw[Af]|rw[wM])
 congr 1
 rw[Bool.eq_iff_iff,decide_eq_true_iff]
 unfold gk jb
 simp only[Bool.and_eq_true,Bool.or_eq_true,Bool.not_eq_true',decide_eq_true_eq,decide_eq_false_iff_not]
 omega
def pU(i:Nat)(a b:Int):Prop:=0<i→a<b
instance(i:Nat)(a b:Int):Decidable (pU i a b):=by unfold pU;infer_instance
def oX(l:aT)(i:Nat):Prop:=gk (l.getD i dQ)∧pU i (l.getD (i-1) dQ).1 (l.getD i dQ).1
instance(l:aT):DecidablePred (oX l):=fun i=>by unfold oX;infer_instance
def eO(l:aT):Bool:=decide (∀j,j<l.length→oX l j)&&decide (l.length≤32)
theorem CN(N:Nat){l:aT}(hl:l.length≤100000)(hN:200000≤N):xM N l=some (eO l):=by
 unfold xM xM.b
 refine eN (F:=fun n i=>xM.l2 N n l l (l.length:Int) i) (oX l) (fun n i r hi hp hr=> ?_) (fun n=> ?_) N (by omega)
 ·unfold xM.l2 xM.dr
  rw[aE (by omega),cond_true,aG (by omega) (by omega),cond_true,Int.toNat_natCast,al (x:=(i:Int)+1) (by omega) (by omega),ae,Kq,Option.bind_some,cond_not,cN]
  by_cases hK:gk (l.getD i dQ)
  ·rw[if_pos hK]
   by_cases h0:0<i
   ·have e:W .i64 ((i:Int)-1)=((i-1:Nat):Int):=by rw[al (by omega) (by omega)];omega
    dsimp only
    rw[aE (x:=0) (by omega),cond_true,e,Int.toNat_natCast,aG (by omega) (by omega),cond_true,bt]
    by_cases hP:oX l i
    ·rw[if_pos hP,if_neg (by have h2:=hP.2;unfold pU at h2;omega)];exact hr
    ·rw[if_neg hP,if_pos]
     have h2: ¬pU i (l.getD (i-1) dQ).1 (l.getD i dQ).1:=fun h=>hP ⟨hK,h⟩
     unfold pU at h2
     omega
   ·rw[aA (x:=0) (by omega),cond_false,if_pos ⟨hK,fun h=>absurd h h0⟩];exact hr
  ·rw[if_neg hK,if_neg (fun h=>hK h.1)]
 ·unfold xM.l2 xM.dr
  rw[aA (by omega),cond_false,jI]
  congr 1;rw[decide_eq_decide];omega
theorem kH(N:Nat){l:aT}(hl:l.length≤100000)(hN:200000≤N):jB N l=some (eO l):=by
 unfold jB jB.b
 by_cases h32:32<l.length
 ·rw[aE (by omega),cond_true];unfold eO
  rw[decide_eq_false (p:=l.length≤32) (by omega),Bool.and_false]
 rw[aA (by omega),cond_false]
 have:=eN (F:=fun n i=>jB.l4 N n l i) (e:=true) (oX l) (fun n i r hi hp hr=> ?_) (fun n=> ?_) N (show l.length<N by omega)
 ·refine Eq.trans this ?_
  unfold eO
  rw[decide_eq_true (p:=l.length≤32) (by omega)]
 ·unfold jB.l4 jB.c5
  rw[aE (by omega),cond_true,aG (by omega) (by omega),cond_true,Int.toNat_natCast,al (x:=(i:Int)+1) (by omega) (by omega),ae,zb,Option.bind_some,cond_not,cN]
  by_cases hK:gk (l.getD i dQ)
  ·rw[if_pos hK]
   by_cases h0:0<i
   ·have e:W .i64 ((i:Int)-1)=((i-1:Nat):Int):=by rw[al (by omega) (by omega)];omega
    dsimp only
    rw[aE (x:=0) (by omega),cond_true,cond_true,e,Int.toNat_natCast,aG (by omega) (by omega),cond_true,bt]
    by_cases hP:oX l i
    ·rw[if_pos hP,if_neg (by have h2:=hP.2;unfold pU at h2;omega)];exact hr
    ·rw[if_neg hP,if_pos]
     have h2: ¬pU i (l.getD (i-1) dQ).1 (l.getD i dQ).1:=fun h=>hP ⟨hK,h⟩
     unfold pU at h2
     omega
   ·rw[aA (x:=0) (by omega),cond_false,if_pos ⟨hK,fun h=>absurd h h0⟩];exact hr
  ·rw[if_neg hK,if_neg (fun h=>hK h.1)]
 ·unfold jB.l4 jB.c5
  rw[aA (by omega),cond_false]
end VM
end
section
namespace VM
open Go VM.F
def g9(id:Int):au→Int
 |[]=>0
 |x::t=>if x.1=id then x.2.1 else g9 id t
def sb(id:Int):aD→bh×Bool
 |[]=>(aJ,false)
 |x::t=>if x.1=id then(x,true)else sb id t
def qC(id:Int):aD→Int
 |[]=>0
 |x::t=>if x.2.1=id then(if x.2.2.1=1 then x.1 else qC id t)else qC id t
theorem vq(id:Int)(x:Ks)(t:au):g9 id (x::t)=if x.1=id then x.2.1 else g9 id t:=rfl
theorem qD(id:Int)(x:bh)(t:aD):sb id (x::t)=if x.1=id then(x,true)else sb id t:=rfl
theorem xN(id:Int)(x:bh)(t:aD):qC id (x::t)=if x.2.1=id then(if x.2.2.1=1 then x.1 else qC id t)else qC id t:=rfl
theorem GQ(N:Nat){m:au}(hl:m.length≤100000)(hN:200000≤N)(id:Int):vr.l4 N N id m (m.length:Int) 0=some (g9 id m):=by
 refine vo m bI (fun n i=>vr.l4 N n id m (m.length:Int) i) (fun l=>some (g9 id l)) (fun n i hi hr=> ?_) (fun n=> ?_) N (by omega)
 ·unfold vr.l4 vr.c5
  rw[aE (by omega),cond_true,aG (by omega) (by omega),cond_true,Int.toNat_natCast,al (x:=(i:Int)+1) (by omega) (by omega),ae,hr,aB]
  rw[vq]
  split<;>rfl
 ·unfold vr.l4 vr.c5
  rw[aA (by omega),cond_false];rfl
theorem kI(N:Nat){m:au}(hl:m.length≤100000)(hN:200000≤N)(id:Int):jC N m id=some (g9 id m):=by
 unfold jC jC.b
 refine vo m bI (fun n i=>jC.l2 N n m id i) (fun l=>some (g9 id l)) (fun n i hi hr=> ?_) (fun n=> ?_) N (by omega)
 ·unfold jC.l2 jC.dr
  rw[aE (by omega),cond_true,aG (by omega) (by omega),cond_true,cond_true,Int.toNat_natCast,al (x:=(i:Int)+1) (by omega) (by omega),ae,hr,aB]
  rw[vq]
  split<;>rfl
 ·unfold jC.l2 jC.dr
  rw[aA (by omega),cond_false];rfl
def lG(m:au)(id:Int):Int:=if jq m then g9 id m else 0
theorem wO(N:Nat){m:au}(hl:m.length≤100000)(hN:200000≤N)(id:Int):vr N m id=some (lG m id):=by
 unfold vr vr.b lG
 rw[Ab N hl hN,Option.bind_some,cond_not,GQ N hl hN]
 cases jq m<;>rfl
theorem Ah(N:Nat){m:au}(hl:m.length≤100000)(hN:200000≤N)(id:Int):vt N m id=some (lG m id):=by
 unfold vt lG
 rw[oV N hl hN,Option.bind_some,cond_not,kI N hl hN]
 cases jq m<;>rfl
theorem N0(N:Nat){m:aD}(hl:m.length≤100000)(hN:200000≤N)(id:Int):kJ.l4 N N id aJ m (m.length:Int) 0=some (sb id m):=by
 refine vo m aJ (fun n i=>kJ.l4 N n id aJ m (m.length:Int) i) (fun l=>some (sb id l)) (fun n i hi hr=> ?_) (fun n=> ?_) N (by omega)
 ·unfold kJ.l4 kJ.c5
  rw[aE (by omega),cond_true,aG (by omega) (by omega),cond_true,Int.toNat_natCast,al (x:=(i:Int)+1) (by omega) (by omega),ae,hr,aB]
  rw[qD]
  split<;>rfl
 ·unfold kJ.l4 kJ.c5
  rw[aA (by omega),cond_false];rfl
theorem vu(N:Nat){m:aD}(hl:m.length≤100000)(hN:200000≤N)(id:Int):kj N m id=some (sb id m):=by
 unfold kj kj.b
 refine vo m aJ (fun n i=>kj.l2 N n m id aJ i) (fun l=>some (sb id l)) (fun n i hi hr=> ?_) (fun n=> ?_) N (by omega)
 ·unfold kj.l2 kj.dr
  rw[aE (by omega),cond_true,aG (by omega) (by omega),cond_true,cond_true,Int.toNat_natCast,al (x:=(i:Int)+1) (by omega) (by omega),ae,hr,aB]
  rw[qD]
  split<;>rfl
 ·unfold kj.l2 kj.dr
  rw[aA (by omega),cond_false];rfl
theorem GR(N:Nat){m:aD}(hl:m.length≤100000)(hN:200000≤N)(id:Int):ue.l4 N N m id 0=some (qC id m):=by
 refine vo m aJ (fun n i=>ue.l4 N n m id i) (fun l=>some (qC id l)) (fun n i hi hr=> ?_) (fun n=> ?_) N (by omega)
 ·unfold ue.l4 ue.c5
  rw[aE (by omega),cond_true,aG (by omega) (by omega)]
  simp only[cond_true]
  rw[Int.toNat_natCast,al (x:=(i:Int)+1) (by omega) (by omega),ae,hr,aB,aB]
  rw[xN]
  split
  ·split<;>rfl
  ·rfl
 ·unfold ue.l4 ue.c5
  rw[aA (by omega),cond_false];rfl
end VM
end
section
namespace VM
open Go VM.F
def gl(a b:Int):Prop:=a=b
instance(a b:Int):Decidable (gl a b):=by unfold gl;infer_instance
def tH(l:aD)(k:Nat)(m:Int):Prop:=gl (l.getD k aJ).2.2.1 1∧gl (l.getD k aJ).2.1 m
instance(l:aD)(k:Nat)(m:Int):Decidable (tH l k m):=by unfold tH;infer_instance
def iP(l:aD)(i:Nat)(m:Int):Bool:=(List.range i).any fun k=>decide (tH l k m)
theorem GU{l:aD}{i:Nat}{m:Int}:iP l i m=true↔ ∃k,k<i∧tH l k m:=by
 unfold iP
 rw[List.any_eq_true]
 simp only[List.mem_range,decide_eq_true_iff]
theorem qE(l:aD)(i:Nat)(m:Int):iP l (i+1) m=(iP l i m||decide (tH l i m)):=by
 unfold iP
 rw[List.range_succ,List.any_append];simp
def jc(a b c d:Int):Prop:=(1≤a∧a≤24)∧(1≤b∧b≤12)∧(c=1∨c=2)∧(0≤d∧d≤1000000000000)
instance(a b c d:Int):Decidable (jc a b c d):=by unfold jc;infer_instance
def gO(l:aD)(i:Nat):Prop:= ¬(gl (l.getD i aJ).2.2.1 1∧iP l i (l.getD i aJ).2.1=true)
instance(l:aD)(i:Nat):Decidable (gO l i):=by unfold gO;infer_instance
def vv(l:aD)(i:Nat):Prop:=jc (l.getD i aJ).1 (l.getD i aJ).2.1 (l.getD i aJ).2.2.1 (l.getD i aJ).2.2.2.1∧pU i (l.getD (i-1) aJ).1 (l.getD i aJ).1∧gO l i
instance(l:aD):DecidablePred (vv l):=fun i=>by unfold vv;infer_instance
def jT(l:aD):Bool:=decide (∀j,j<l.length→vv l j)&&true
def dt(l:aD)(i:Nat):List Bool:=(List.range 13).map fun(m:Nat)=>iP l i (m:Int)
theorem N1{l:aD}{i:Nat}{b:Int}(h0:0≤b)(h1:b<13):(dt l i).getD b.toNat false=iP l i b:=by
 unfold dt
 rw[List.getD_eq_getElem?_getD,List.getElem?_map,List.getElem?_range (by omega)]
 show iP l i ((b.toNat:Nat):Int)=_
 rw[Int.toNat_of_nonneg h0]
theorem GV{l:aD}{i:Nat}(h: ¬gl (l.getD i aJ).2.2.1 1):dt l (i+1)=dt l i:=by
 unfold dt
 refine List.map_congr_left fun m _=> ?_
 rw[qE,decide_eq_false (fun h'=>h h'.1),Bool.or_false]
theorem Kt{l:aD}{i:Nat}(h:gl (l.getD i aJ).2.2.1 1)(h0:(0:Int)≤(l.getD i aJ).2.1):(dt l i).set ((l.getD i aJ).2.1:Int).toNat true=dt l (i+1):=by
 refine List.ext_getElem (by unfold dt;simp) fun k h1 h2=> ?_
 unfold dt at*
 rw[List.getElem_set]
 simp only[List.getElem_map,List.getElem_range]
 rw[qE]
 by_cases hk:((l.getD i aJ).2.1:Int).toNat=k
 ·rw[if_pos hk,decide_eq_true (show tH l i (k:Int)from⟨h,by unfold gl;omega⟩),Bool.or_true]
 ·rw[if_neg hk,decide_eq_false (fun h':tH l i (k:Int)=>hk (by have:=h'.2;unfold gl at this;omega)),Bool.or_false]
theorem Mt(N:Nat){l:aD}(hl:l.length≤100000)(hN:200000≤N):jD N l=some (jT l):=by
 unfold jD jD.b
 have h0:(List.replicate 13 false:List Bool)=dt l 0:=by unfold dt iP;rfl
 rw[h0]
 have:=eN (F:=fun n i=>jD.l3 N n l (dt l i.toNat) l (l.length:Int) i) (e:=true) (vv l) (fun n i r hi hp hr=> ?_) (fun n=> ?_) N (show l.length<N by omega)
 ·exact this
 ·simp only[Int.toNat_natCast]at hr ⊢
  unfold jD.l3 jD.kq
  rw[aE (by omega),cond_true,aG (by omega) (by omega),cond_true]
  simp only[Int.toNat_natCast]
  rw[al (x:=(i:Int)+1) (by omega) (by omega),ae]
  by_cases hF:jc (l.getD i aJ).1 (l.getD i aJ).2.1 (l.getD i aJ).2.2.1 (l.getD i aJ).2.2.2.1
  ·have hF':=hF
   unfold jc at hF'
   have hT:cond (ay (l.getD i aJ).2.2.1 1) (cond (aL (l.getD i aJ).2.1 13) (cond (List.getD (dt l i) (l.getD i aJ).2.1.toNat false) (some false) (cond (aL (l.getD i aJ).2.1 13) (jD.l3 N n l (List.set (dt l i) (l.getD i aJ).2.1.toNat true) l (l.length:Int) ((i+1:Nat):Int)) none)) none) (jD.l3 N n l (dt l i) l (l.length:Int) ((i+1:Nat):Int))=if gO l i then r else some false:=by
    rw[aB]
    by_cases hk:gl (l.getD i aJ).2.2.1 1
    ·have zB:=hk
     unfold gl at zB
     rw[if_pos zB,aG (by omega) (by omega),cond_true,cond_true,N1 (by omega) (by omega),Kt hk (by omega),hr]
     by_cases ho:iP l i (l.getD i aJ).2.1=true
     ·have pI: ¬gO l i:=fun h=>h ⟨hk,ho⟩
      rw[if_neg pI,ho];rfl
     ·have pI:gO l i:=fun h=>ho h.2
      rw[if_pos pI,Bool.eq_false_iff.2 ho];rfl
    ·have zB:=hk
     unfold gl at zB
     rw[if_neg zB,if_pos (show gO l i from fun h=>hk h.1),←GV hk,hr]
   have hP:vv l i↔pU i (l.getD (i-1) aJ).1 (l.getD i aJ).1∧gO l i:=⟨fun h=>h.2,fun h=>⟨hF,h⟩⟩
   have hD:(if vv l i then r else some false)=if pU i (l.getD (i-1) aJ).1 (l.getD i aJ).1 then(if gO l i then r else some false)else some false:=by
    by_cases h1:pU i (l.getD (i-1) aJ).1 (l.getD i aJ).1<;>by_cases h2:gO l i<;>simp[hP,h1,h2]
   rw[hD]
   rw[hT]
   rw[aA (by omega),cond_false,aA (by omega),cond_false,aA (by omega),cond_false,aA (by omega),cond_false,aA (x:=(l.getD i aJ).2.2.2.1) (by omega),aA (x:=1000000000000) (by omega)]
   simp only[cond_false]
   have hm: ∀{α:Type} (x:α) (y:α),cond (!ay (l.getD i aJ).2.2.1 1) (cond (!ay (l.getD i aJ).2.2.1 2) y x) x=x:=by
    intro α x y
    rcases hF'.2.2.1 with h|h
    ·rw[cG h];rfl
    ·rw[cG (y:=2) h];cases ay (l.getD i aJ).2.2.1 1<;>rfl
   rw[hm]
   by_cases h0:0<i
   ·have e:W .i64 ((i:Int)-1)=((i-1:Nat):Int):=by rw[al (by omega) (by omega)];omega
    rw[aE (x:=0) (by omega),cond_true,e,Int.toNat_natCast,aG (by omega) (by omega),cond_true,bt]
    by_cases h1:pU i (l.getD (i-1) aJ).1 (l.getD i aJ).1
    ·rw[if_pos h1,if_neg (by unfold pU at h1;omega)]
    ·rw[if_neg h1,if_pos (by unfold pU at h1;omega)]
   ·rw[aA (x:=0) (by omega),cond_false,if_pos (show pU i (l.getD (i-1) aJ).1 (l.getD i aJ).1 from fun h=>absurd h h0)]
  ·rw[if_neg (fun h=>hF h.1)]
   unfold jc at hF
   generalize cond (ay (l.getD i aJ).2.2.1 1) (cond (aL (l.getD i aJ).2.1 13) (cond (List.getD (dt l i) (l.getD i aJ).2.1.toNat false) (some false) (cond (aL (l.getD i aJ).2.1 13) (jD.l3 N n l (List.set (dt l i) (l.getD i aJ).2.1.toNat true) l (l.length:Int) ((i+1:Nat):Int)) none)) none) (jD.l3 N n l (dt l i) l (l.length:Int) ((i+1:Nat):Int))=t
   generalize cond (aH 0 (i:Int)) _ _=u
   simp only[cond_not,a8,aB]
   repeat' split
   all_goals first|rfl|omega
 ·unfold jD.l3 jD.kq
  rw[aA (by omega),cond_false]
end VM
end
section
namespace VM
open Go VM.F
theorem wP(N:Nat)(K:aD→Int→Option Bool){l:aD}(hl:l.length≤100000){i:Nat}(hi:i<l.length): ∀(m n k:Nat),i-k≤m→m<n→k≤i→(gl (l.getD i aJ).2.2.1 1→iP l k (l.getD i aJ).2.1=false)→
  iQ.l8 N K n l (i:Int) (l.getD i aJ) (k:Int)=if gO l i then K l ((i+1:Nat):Int)else some false
 |m,0,k,_,hn,_,_=>by omega
 |m,n+1,k,hm,hn,hk,h=>by
  unfold iQ.l8 iQ.wk
  by_cases zH:k<i
  ·rw[aE (by omega),cond_true,aG (by omega) (by omega),cond_true,cond_true,Int.toNat_natCast,al (x:=(k:Int)+1) (by omega) (by omega),ae,aB,aB,aB]
   by_cases h1:gl (l.getD i aJ).2.2.1 1
   ·have mJ:=h1
    unfold gl at mJ
    rw[if_pos mJ]
    by_cases h2:tH l k (l.getD i aJ).2.1
    ·have tG:=h2
     unfold tH gl at tG
     have pI: ¬gO l i:=fun h3=>h3 ⟨h1,GU.2 ⟨k,zH,h2⟩⟩
     rw[if_pos tG.1,if_pos tG.2,if_neg pI]
    ·have yE:=wP N K hl hi (m-1) n (k+1) (by omega) (by omega) (by omega) (fun _=>by rw[qE,h h1,decide_eq_false h2];rfl)
     split
     ·split
      ·rename_i h3 h4
       exact absurd (show tH l k (l.getD i aJ).2.1 from⟨h3,h4⟩) h2
      ·exact yE
     ·exact yE
   ·have mJ:=h1
    unfold gl at mJ
    rw[if_neg mJ]
    exact wP N K hl hi (m-1) n (k+1) (by omega) (by omega) (by omega) (fun h=>absurd h h1)
  ·have:k=i:=by omega
   subst this
   have pI:gO l k:=fun h3=>by rw[h h3.1]at h3;exact nomatch h3.2
   rw[aA (by omega),cond_false,if_pos pI,al (x:=(k:Int)+1) (by omega) (by omega)];rfl
set_option maxHeartbeats 2000000 in
theorem vw(N:Nat){l:aD}(hl:l.length≤100000)(hN:200000≤N):iQ N l=some (jT l):=by
 unfold iQ iQ.b
 refine eN (F:=fun n i=>iQ.l2 N n l i) (vv l) (fun n i r hi hp hr=> ?_) (fun n=> ?_) N (by omega)
 ·unfold iQ.l2 iQ.dr
  have hT:iQ.j7 N (iQ.l2 N n) l (i:Int) (l.getD i aJ)=if gO l i then r else some false:=by
   unfold iQ.j7 iQ.Kh
   have:=wP N (iQ.l2 N n) hl hi i N 0 (by omega) (by omega) (by omega) (fun _=>rfl)
   rw[hr]at this
   exact this
  rw[aE (by omega),cond_true,aG (by omega) (by omega),cond_true]
  simp only[Int.toNat_natCast]
  rw[hT]
  have hD:(if vv l i then r else some false)=if jc (l.getD i aJ).1 (l.getD i aJ).2.1 (l.getD i aJ).2.2.1 (l.getD i aJ).2.2.2.1∧pU i (l.getD (i-1) aJ).1 (l.getD i aJ).1 then(if gO l i then r else some false)else some false:=by
   unfold vv
   by_cases h1:pU i (l.getD (i-1) aJ).1 (l.getD i aJ).1<;>by_cases h2:gO l i<;>by_cases h3:jc (l.getD i aJ).1 (l.getD i aJ).2.1 (l.getD i aJ).2.2.1 (l.getD i aJ).2.2.2.1<;>simp[h1,h2,h3]
  rw[hD]
  generalize (if gO l i then r else some false)=t
  by_cases h0:0<i
  ·have e:W .i64 ((i:Int)-1)=((i-1:Nat):Int):=by rw[al (by omega) (by omega)];omega
   rw[aE (x:=0) (y:=(i:Int)) (by omega),e]
   simp only[cond_true,Int.toNat_natCast]
   rw[aG (i:=((i-1:Nat):Int)) (by omega) (by omega)]
   simp only[cond_not,a8,bt,aB,cond_true]
   by_cases hP:jc (l.getD i aJ).1 (l.getD i aJ).2.1 (l.getD i aJ).2.2.1 (l.getD i aJ).2.2.2.1∧pU i (l.getD (i-1) aJ).1 (l.getD i aJ).1
   ·rw[if_pos hP];unfold jc pU at hP
    repeat' split
    all_goals first|rfl|omega
   ·rw[if_neg hP];unfold jc pU at hP
    repeat' split
    all_goals first|rfl|omega
  ·rw[aA (x:=0) (y:=(i:Int)) (by omega)]
   simp only[cond_not,a8,bt,aB,cond_true,cond_false]
   by_cases hP:jc (l.getD i aJ).1 (l.getD i aJ).2.1 (l.getD i aJ).2.2.1 (l.getD i aJ).2.2.2.1∧pU i (l.getD (i-1) aJ).1 (l.getD i aJ).1
   ·rw[if_pos hP];unfold jc pU at hP
    repeat' split
    all_goals first|rfl|omega
   ·rw[if_neg hP];unfold jc pU at hP
    repeat' split
    all_goals first|rfl|omega
 ·unfold iQ.l2 iQ.dr
  rw[aA (by omega),cond_false]
end VM
end
section
namespace VM
open Go VM.F
def dx(a:aD)(id:Int):bh×Bool:=if jT a then sb id a else(aJ,false)
theorem Mu(N:Nat){a:aD}(hl:a.length≤100000)(hN:200000≤N)(id:Int):kJ N a id=some (dx a id):=by
 unfold kJ kJ.b dx
 rw[Mt N hl hN,Option.bind_some,cond_not,N0 N hl hN]
 cases jT a<;>rfl
theorem GW(N:Nat){a:aD}(hl:a.length≤100000)(hN:200000≤N)(id:Int):Ai N a id=some (dx a id):=by
 unfold Ai dx
 rw[vw N hl hN,Option.bind_some,cond_not,vu N hl hN]
 cases jT a<;>rfl
def zc(a:aD)(id:Int):Int:=if jT a then qC id a else 0
theorem wQ(N:Nat){a:aD}(hl:a.length≤100000)(hN:200000≤N)(id:Int):ue N a id=some (zc a id):=by
 unfold ue ue.b zc
 rw[vw N hl hN,Option.bind_some,cond_not,GR N hl hN]
 cases jT a<;>rfl
def hZ(m:au)(a:aD)(i:Nat):Prop:= ¬gl (g9 (a.getD i aJ).2.1 m) 0
instance(m:au)(a:aD):DecidablePred (hZ m a):=fun i=>by unfold hZ;infer_instance
def sd(m:au)(a:aD):Bool:=jq m&&(jT a&&(decide (∀j,j<a.length→hZ m a j)&&true))
theorem Uy(N:Nat){m:au}{a:aD}(hm:m.length≤100000)(hl:a.length≤100000)(hN:200000≤N):yI N m a=some (sd m a):=by
 unfold yI yI.b sd
 rw[Ab N hm hN,Option.bind_some,cond_not,Mt N hl hN,Option.bind_some,cond_not]
 cases hM:jq m
 ·rfl
 cases jT a
 ·rfl
 rw[Bool.true_and,Bool.true_and,cond_true,cond_true]
 refine eN (F:=fun n i=>yI.l4 N n m a (a.length:Int) i) (hZ m a) (fun n i r hi hp hr=> ?_) (fun n=> ?_) N (by omega)
 ·unfold yI.l4 yI.c5
  rw[aE (by omega),cond_true,aG (by omega) (by omega),cond_true,Int.toNat_natCast,al (x:=(i:Int)+1) (by omega) (by omega),ae,wO N hm hN,Option.bind_some,aB]
  unfold lG
  rw[hM,if_pos rfl]
  by_cases hP:hZ m a i
  ·rw[if_pos hP,if_neg (show ¬((g9 (a.getD i aJ).2.1 m:Int)=0)from fun h=>hP h)];exact hr
  ·rw[if_neg hP,if_pos (show(g9 (a.getD i aJ).2.1 m:Int)=0 by unfold hZ at hP;exact Decidable.not_not.1 hP)]
 ·unfold yI.l4 yI.c5
  rw[aA (by omega),cond_false]
theorem Aj(N:Nat){m:au}{a:aD}(hm:m.length≤100000)(hl:a.length≤100000)(hN:200000≤N):kK N m a=some (sd m a):=by
 unfold kK kK.b sd
 rw[oV N hm hN,Option.bind_some,cond_not,vw N hl hN,Option.bind_some,cond_not]
 cases hM:jq m
 ·rfl
 cases jT a
 ·rfl
 rw[Bool.true_and,Bool.true_and,cond_true,cond_true]
 refine eN (F:=fun n i=>kK.l4 N n m a i) (hZ m a) (fun n i r hi hp hr=> ?_) (fun n=> ?_) N (by omega)
 ·unfold kK.l4 kK.c5
  rw[aE (by omega),cond_true,aG (by omega) (by omega),cond_true,Int.toNat_natCast,al (x:=(i:Int)+1) (by omega) (by omega),ae,kI N hm hN,Option.bind_some,aB]
  by_cases hP:hZ m a i
  ·rw[if_pos hP,if_neg (show ¬((g9 (a.getD i aJ).2.1 m:Int)=0)from fun h=>hP h)];exact hr
  ·rw[if_neg hP,if_pos (show(g9 (a.getD i aJ).2.1 m:Int)=0 by unfold hZ at hP;exact Decidable.not_not.1 hP)]
 ·unfold kK.l4 kK.c5
  rw[aA (by omega),cond_false]
end VM
end
section
namespace VM
open Go VM.F
theorem QR(a b:aS):kZ (.pair (.int .i64) (.pair (.int .u64) .unit)) a b=(ay a.1 b.1&&(ay a.2.1 b.2.1&&true)):=rfl
theorem vx(N:Nat){u v:Int}:Cb N (bm u) (bm v)=some (mC (u-v)):=by
 unfold Cb
 rw[QR]
 unfold bm
 dsimp only
 unfold mC
 rw[a8,aB,a8,Bool.and_true,fY,fY]
 have hu:u=u/18446744073709551616*18446744073709551616+u%18446744073709551616:=by omega
 have hv:v=v/18446744073709551616*18446744073709551616+v%18446744073709551616:=by omega
 by_cases h1:u/18446744073709551616<v/18446744073709551616
 ·rw[if_pos h1];congr 1;split<;>(try split)<;>omega
 ·rw[if_neg h1]
  by_cases h2:u/18446744073709551616=v/18446744073709551616
  ·rw[if_pos h2,decide_eq_true h2,Bool.true_and]
   by_cases h3:u%18446744073709551616<v%18446744073709551616
   ·rw[if_pos h3];congr 1;split<;>(try split)<;>omega
   ·rw[if_neg h3]
    by_cases h4:u%18446744073709551616=v%18446744073709551616
    ·rw[decide_eq_true h4,cond_true];congr 1;split<;>(try split)<;>omega
    ·rw[decide_eq_false h4,cond_false];congr 1;split<;>(try split)<;>omega
  ·rw[if_neg h2,decide_eq_false h2,Bool.false_and,cond_false];congr 1;split<;>(try split)<;>omega
theorem Ku:bm 0=bI:=rfl
theorem nI(N:Nat){u:Int}:Py N (bm u)=some (mC u):=by
 unfold Py
 rw[←Ku,vx,Option.bind_some,Int.sub_zero]
end VM
end
