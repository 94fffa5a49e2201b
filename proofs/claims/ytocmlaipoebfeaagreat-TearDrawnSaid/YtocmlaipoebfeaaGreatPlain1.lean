/- A part of the proof of TearDrawn of layer 29: what the functions compute, in plain words. -/
import Derived.Test.YtocmlaipoebfeaaGreatPlain0
import Derived.Test.YtocmlaipoebfeaaGreatText
set_option linter.all false
section
namespace VM
open Go VM.F
theorem QU{x:Int}(h0:0≤x)(h1:x<18446744073709551616):iV .and .u64 x 1=x%2:=by
 rw[EJ h0 h1 (by omega) (by omega)]
 have:=Nat.and_two_pow_sub_one_eq_mod x.toNat 1
 rw[show((1:Int).toNat)=2^1-1 from rfl,this]
 omega
theorem Az{l:List Int}{k:Nat}(x:Int)(h:k<l.length):bO ((l.set k x).drop k)=x+4294967296*bO (l.drop (k+1)):=by
 rw[gA,gg l x h,List.drop_set_of_lt (by omega)]
theorem Bh(N:Nat){d:List Int}(hd:VD d)(hl:d.length≤100000)(hN:4000000≤N): ∀(k n:Nat) (out:List Int) (c:Int),k≤d.length→k<n→VD out→out.length=d.length→c=bO (d.drop k)%2→bO (out.drop k)=bO (d.drop k)/2→
  k1.l4 N n d out c ((k:Int)-1)=some (hZ (bO d/2).toNat,bO d%2)
 |k,0,out,c,_,hn,_,_,_,_=>by omega
 |0,n+1,out,c,_,_,ho,Ev,hc,hv=>by
  unfold k1.l4 k1.cj
  simp (disch:=omega) only[aD,ax,cv,cn,ch,b9,aF,a6,bp,bY,an,bw,cond_true,cond_false,Bool.not_true,Bool.not_false,Option.bind_some,Int.toNat_natCast,Int.toNat_zero,aa,List.length_append,List.length_singleton,List.length_set,List.length_replicate,List.length_cons,List.length_nil,CF N ho (by omega) (by omega)]
  rw[List.drop_zero,List.drop_zero]at hv
  rw[List.drop_zero]at hc
  rw[hv,hc]
 |k+1,n+1,out,c,hk,hn,ho,Ev,hc,hv=>by
  unfold k1.l4 k1.cj
  have e:((k+1:Nat):Int)-1=(k:Int):=by omega
  obtain⟨g0,g1⟩:=hd.getD k
  have hn0:=gb (hd.drop (k+1))
  have e1:=gA d k
  simp only[e,Int.toNat_natCast]
  rw[WQ (by omega)]
  generalize hx:d.getD k 0=x at*
  rw[bw (x:=c*4294967296) (by omega) (by omega),K9 g0 g1 (by omega) (by omega)]
  simp (disch:=omega) only[aD,ax,cv,cn,ch,b9,aF,a6,bp,bY,an,bw,cond_true,cond_false,Bool.not_true,Bool.not_false,Option.bind_some,Int.toNat_natCast,Int.toNat_zero,aa,List.length_append,List.length_singleton,List.length_set,List.length_replicate,List.length_cons,List.length_nil,ajP,QU]
  refine Bh N hd hl hN k n (out.set k ((x+c*4294967296)/2)) ((x+c*4294967296)%2) (by omega) (by omega) (ho.set _ (by omega) (by omega)) (by rw[List.length_set];exact Ev) (by rw[e1,hc];omega) ?_
  rw[Az _ (by omega),hv,e1]
  omega
theorem QV(N:Nat)(hN:4000000≤N)(m:Nat)(h:(hZ m).length≤100000):k1 N (hZ m)=some (hZ (m/2),((m%2:Nat):Int)):=by
 unfold k1 k1.b
 simp (disch:=omega) only[aD,ax,cv,cn,ch,b9,aF,a6,bp,bY,an,bw,cond_true,cond_false,Bool.not_true,Bool.not_false,Option.bind_some,Int.toNat_natCast,Int.toNat_zero,aa,List.length_append,List.length_singleton,List.length_set,List.length_replicate,List.length_cons,List.length_nil]
 have:=Bh N (gd m) h hN (hZ m).length N (List.replicate (hZ m).length 0) 0 (Nat.le_refl _) (by omega) (VD.WO _) (by simp) (by rw[List.drop_length];rfl) (by rw[List.drop_length,List.drop_of_length_le (by simp)];rfl)
 rw[eu]at this
 rw[this]
 congr 2
def bin(n:Nat):List Int:=if n=0 then []else((n%2:Nat):Int)::bin (n/2)
termination_by n
decreasing_by omega
theorem xP{n:Nat}(h:n≠0):bin n=((n%2:Nat):Int)::bin (n/2):=by rw[bin];simp[h]
theorem qA:bin 0=[]:=by rw[bin];rfl
def tU:List Int→Int
 |[]=>0
 |d::r=>d+2*tU r
theorem QW(n:Nat):tU (bin n)=n:=by
 induction n using Nat.strongRecOn with
 |_ n ih=>
  by_cases h:n=0
  ·subst h;rw[qA];rfl
  ·rw[xP h,tU,ih _ (by omega)];omega
theorem QX(n:Nat): ∀d∈bin n,d=0∨d=1:=by
 induction n using Nat.strongRecOn with
 |_ n ih=>
  by_cases h:n=0
  ·subst h;rw[qA];intro d hd;cases hd
  ·rw[xP h];intro d hd
   rcases List.mem_cons.1 hd with rfl|hd
   ·omega
   ·exact ih _ (by omega) d hd
theorem QY(k:Nat): ∀n,n<2^k→(bin n).length≤k:=by
 induction k with
 |zero=>
  intro n h;have:n=0:=by simpa using h
  subst this;rw[qA];simp
 |succ k ih=>
  intro n h
  by_cases hn:n=0
  ·subst hn;rw[qA];simp
  ·rw[xP hn,List.length_cons]
   have:=ih (n/2) (by rw[Nat.pow_succ]at h;omega)
   omega
theorem NG{n k:Nat}(h:n<4294967296^k):(bin n).length≤32*k:=QY _ _ (Nat.lt_of_lt_of_le h (by rw[Nat.pow_mul];exact Nat.le_refl _))
theorem Bi(N:Nat)(hN:4000000≤N)(x2 x3 x4 x5:au): ∀(m n:Nat) (t:Nat) (bits:List Int),(bin t).length≤m→m<n→(hZ t).length≤100000→bits.length+(bin t).length≤4000000→
  eQ.l3 N n x2 x3 x4 x5 bits (hZ t)=eQ.l9 N N x2 x3 x4 x5 (bits++bin t) (false,([],())) (false,([],())) (((bits++bin t).length:Int)-1)
 |m,0,t,bits,_,hn,_,_=>by omega
 |m,n+1,t,bits,hm,hn,hd,hb=>by
  unfold eQ.l3 eQ.gZ
  by_cases ht:t=0
  ·subst ht
   rw[ga,qA]
   simp (disch:=omega) only[aD,ax,cv,cn,ch,b9,aF,a6,bp,bY,an,bw,cond_true,cond_false,Bool.not_true,Bool.not_false,Option.bind_some,Int.toNat_natCast,Int.toNat_zero,aa,List.length_append,List.length_singleton,List.length_set,List.length_replicate,List.length_cons,List.length_nil,List.append_nil]
  ·have HO:0<(hZ t).length:=by
    apply List.length_pos_iff.2
    intro h;rw[tO]at h;omega
   rw[xP ht]at hm hb ⊢
   rw[List.length_cons]at hm hb
   have hdl:(hZ (t/2)).length≤100000:=by
    have:=CE _ t hd
    exact rm _ _ (Nat.lt_of_le_of_lt (Nat.div_le_self _ _) this)
   simp (disch:=omega) only[aD,ax,cv,cn,ch,b9,aF,a6,bp,bY,an,bw,cond_true,cond_false,Bool.not_true,Bool.not_false,Option.bind_some,Int.toNat_natCast,Int.toNat_zero,aa,List.length_append,List.length_singleton,List.length_set,List.length_replicate,List.length_cons,List.length_nil,QV N hN t hd]
   rw[Bi N hN x2 x3 x4 x5 (m-1) n (t/2) (bits++[((t%2:Nat):Int)]) (by omega) (by omega) hdl (by simp;omega)]
   simp
theorem La(l:List Int){i:Nat}(h:i<l.length):tU (l.drop i)=l.getD i 0+2*tU (l.drop (i+1)):=by
 rw[List.drop_eq_getElem_cons h,tU,List.getD_eq_getElem?_getD,List.getElem?_eq_getElem h];rfl
theorem wA: ∀{l:List Int},(∀d∈l,d=0∨d=1)→0≤tU l
 |[],_=>Int.le_refl _
 |d::r,h=>by
  have h1:=wA (l:=r) fun x hx=>h x (List.mem_cons_of_mem _ hx)
  have:=h d (List.mem_cons_self ..)
  simp only[tU];omega
theorem oZ: ∀(l:List Int) (i:Nat),(∀d∈l,d=0∨d=1)→tU (l.drop i)≤tU l
 |l,0,_=>Int.le_refl _
 |[],i+1,_=>Int.le_refl _
 |d::r,i+1,h=>by
  have h1:=oZ r i fun x hx=>h x (List.mem_cons_of_mem _ hx)
  have h2:=wA (l:=r) fun x hx=>h x (List.mem_cons_of_mem _ hx)
  have:=h d (List.mem_cons_self ..)
  rw[List.drop_succ_cons,tU];omega
theorem ou(N:Nat)(hN:4000000≤N)(a d:Int)(hd:0<d)(JR:Fit a 80000)(Lb:Fit d 80000)(x4 x5:au){bits:List Int}(hb: ∀x∈bits,x=0∨x=1)(hbv:tU bits=a.natAbs)(rP:bits.length≤4000000):
  ∀(k n:Nat) (q r:Int),k≤bits.length→k<n→0≤q→0≤r→r<d→tU (bits.drop k)=q*d+r→
  eQ.l9 N n (cc a) (cc d) x4 x5 bits (cc q) (cc r) ((k:Int)-1)=some (cc (a/d),cc (a%d))
 |k,0,q,r,_,hn,_,_,_,_=>by omega
 |0,n+1,q,r,_,_,hq,hr,gO,hv=>by
  unfold eQ.l9 eQ.vl
  rw[List.drop_zero,hbv]at hv
  have hqa:q≤a.natAbs:=by
   have:q*1≤q*d:=Int.mul_le_mul_of_nonneg_left (by omega) hq
   omega
  have fq:Fit q 900000:=(JR.of_le (u:=q) (by omega)).mono (by omega)
  have fr:Fit r 900000:=(Lb.of_le (u:=r) (by omega)).mono (by omega)
  have f1:Fit 1 900000:=(Fit.i64 (v:=1) (by omega) (by omega)).mono (by omega)
  have fq':Fit (-q) 900000:=fq.neg
  have fd:Fit d 900000:=Lb.mono (by omega)
  rw[cn (by omega),cond_false]
  by_cases ha:a<0
  ·have Wy:(a.natAbs:Int)= -a:=by omega
   have e0:(cc a).1=true:=decide_eq_true ha
   simp only[e0,Bool.not_true,cond_false,oX,Option.bind_some]
   by_cases X0:r=0
   ·subst X0
    rw[ch (by unfold rn;simp),cond_true]
    simp only[rp N hN fq,Option.bind_some]
    have e1:a=d*(-q):=by rw[Int.mul_neg,Int.mul_comm];omega
    have e2:a/d= -q:=by rw[e1,Int.mul_ediv_cancel_left _ (by omega)]
    have e3:a%d=0:=by rw[e1,Int.mul_emod_right]
    rw[e2,e3]
   ·rw[b9 (by unfold rn;rw[if_neg (by omega),if_pos (by omega)];omega),cond_false]
    simp (disch:=omega) only[rp N hN fq,fE N (by omega) (show-9223372036854775808≤(1:Int)by omega) (by omega),Option.bind_some,rq N hN fq' f1,rq N hN fd fr]
    have e1:a=(d-r)+d*(-q-1):=by rw[Int.mul_sub,Int.mul_neg,Int.mul_one,Int.mul_comm];omega
    have e2:a/d= -q-1:=by
     rw[e1,Int.add_mul_ediv_left _ _ (by omega),Int.ediv_eq_zero_of_lt (by omega) (by omega)];omega
    have e3:a%d=d-r:=by rw[e1,Int.add_mul_emod_self_left,Int.emod_eq_of_lt (by omega) (by omega)]
    rw[e2,e3]
  ·have Wy:(a.natAbs:Int)=a:=by omega
   have e0:(cc a).1=false:=decide_eq_false ha
   simp only[e0,Bool.not_false,cond_true]
   have e1:a=r+d*q:=by rw[Int.mul_comm];omega
   have e2:a/d=q:=by rw[e1,Int.add_mul_ediv_left _ _ (by omega),Int.ediv_eq_zero_of_lt hr gO];omega
   have e3:a%d=r:=by rw[e1,Int.add_mul_emod_self_left,Int.emod_eq_of_lt hr gO]
   rw[e2,e3]
 |k+1,n+1,q,r,hk,hn,hq,hr,gO,hv=>by
  unfold eQ.l9 eQ.vl
  have e:((k+1:Nat):Int)-1=(k:Int):=by omega
  have hle:=oZ bits k hb
  have aj2:=oZ bits (k+1) hb
  rw[hbv]at hle aj2
  have hqa:q≤a.natAbs:=by
   have:q*1≤q*d:=Int.mul_le_mul_of_nonneg_left (by omega) hq
   omega
  have fq:Fit q 80000:=JR.of_le (by omega)
  have fr:Fit r 80000:=Lb.of_le (by omega)
  have fqq:=fq.add fq
  have frr:=fr.add fr
  have f1:Fit 1 80000:=(Fit.i64 (v:=1) (by omega) (by omega)).mono (by omega)
  have hvk:=La bits (i:=k) (by omega)
  have xb:bits.getD k 0=0∨bits.getD k 0=1:=by
   rw[List.getD_eq_getElem?_getD,List.getElem?_eq_getElem (show k<bits.length by omega)]
   exact hb _ (List.getElem_mem _)
  rw[e,cv (by omega),cond_true]
  have e2q:(q+q)*d=2*(q*d):=by rw[←Int.two_mul,Int.mul_assoc]
  have ad9:(q+q+1)*d=2*(q*d)+d:=by rw[Int.add_mul,e2q,Int.one_mul]
  simp (disch:=omega) only[aD,ax,cv,cn,ch,b9,aF,a6,bp,bY,an,bw,cond_true,cond_false,Bool.not_true,Bool.not_false,Option.bind_some,Int.toNat_natCast,Int.toNat_zero,aa,List.length_append,List.length_singleton,List.length_set,List.length_replicate,List.length_cons,List.length_nil,fO N hN (fq.mono (by omega)) (fq.mono (by omega)),fO N hN (fr.mono (by omega)) (fr.mono (by omega)),fE N (by omega) (show-9223372036854775808≤(1:Int)by omega) (by omega)]
  rcases xb with xb|xb
  ·rw[xb,b9 (by omega),cond_false]
   simp only[H6 N hN (frr.mono (by omega)) (Lb.mono (by omega)),Option.bind_some]
   by_cases PS:d≤r+r
   ·rw[cv (by unfold rn;split<;>(try split)<;>omega),cond_true]
    simp only[rq N hN (frr.mono (by omega)) (Lb.mono (by omega)),fO N hN (fqq.mono (by omega)) (f1.mono (by omega)),Option.bind_some]
    refine ou N hN a d hd JR Lb x4 x5 hb hbv rP k n _ _ (by omega) (by omega) (by omega) (by omega) (by omega) ?_
    rw[hvk,xb,hv,ad9];omega
   ·rw[cn (by unfold rn;rw[if_pos (by omega)];omega),cond_false]
    refine ou N hN a d hd JR Lb x4 x5 hb hbv rP k n _ _ (by omega) (by omega) (by omega) (by omega) (by omega) ?_
    rw[hvk,xb,hv,e2q];omega
  ·rw[xb,ch rfl,cond_true]
   have aea:=frr.add (f1.mono (show 80000≤80001 by omega))
   simp only[fO N hN (frr.mono (by omega)) (f1.mono (by omega)),H6 N hN (aea.mono (by omega)) (Lb.mono (by omega)),Option.bind_some]
   by_cases PS:d≤r+r+1
   ·rw[cv (by unfold rn;split<;>(try split)<;>omega),cond_true]
    simp only[rq N hN (aea.mono (by omega)) (Lb.mono (by omega)),fO N hN (fqq.mono (by omega)) (f1.mono (by omega)),Option.bind_some]
    refine ou N hN a d hd JR Lb x4 x5 hb hbv rP k n _ _ (by omega) (by omega) (by omega) (by omega) (by omega) ?_
    rw[hvk,xb,hv,ad9];omega
   ·rw[cn (by unfold rn;rw[if_pos (by omega)];omega),cond_false]
    refine ou N hN a d hd JR Lb x4 x5 hb hbv rP k n _ _ (by omega) (by omega) (by omega) (by omega) (by omega) ?_
    rw[hvk,xb,hv,e2q];omega
theorem JS(N:Nat)(hN:5000000≤N){a d:Int}(hd:0<d)(JR:Fit a 80000)(Lb:Fit d 80000):eQ N (cc a) (cc d)=some (cc (a/d),cc (a%d)):=by
 unfold eQ eQ.b
 have rP:(bin a.natAbs).length≤32*80000:=NG JR
 have h1:=Bi N (by omega) (cc a) (cc d) (false,([],())) (false,([],())) (bin a.natAbs).length N a.natAbs [] (Nat.le_refl _) (by omega) (Nat.le_trans JR.len (by omega)) (by simp;omega)
 rw[List.nil_append]at h1
 refine h1.trans ?_
 rw[←gB]
 exact ou N (by omega) a d hd JR Lb _ _ (QX _) (QW _) (by omega) (bin a.natAbs).length N 0 0 (Nat.le_refl _) (by omega) (by omega) (by omega) hd (by rw[List.drop_length];simp[tU])
end VM
end
section
namespace VM
open Go VM.F
def cw(v:Int):bG:=(v/18446744073709551616,(v%18446744073709551616,()))
theorem wmk{a b v:Int}(h1:a=v/18446744073709551616)(h2:b=v%18446744073709551616):((a,(b,())):bG)=cw v:=by
 unfold cw;rw[h1,h2]
theorem E1{a b v:Int}{α:Type}{c:α}(h1:a=v/18446744073709551616)(h2:b=v%18446744073709551616):(some (((a,(b,())):bG),c):Option (bG×α))=some (cw v,c):=by
 rw[wmk h1 h2]
theorem NH{a b c d:Int}(h1:a=c)(h2:b=d):(some (a,b):Option (Int×Int))=some (c,d):=by rw[h1,h2]
theorem yT(N:Nat){hi lo:Int}(h0:0≤hi)(h1:hi<9223372036854775808)(l0:0≤lo)(l1:lo<18446744073709551616):mE N false hi lo=some (cw (hi*18446744073709551616+lo),true):=by
 unfold mE mE.b
 rw[Bool.not_false,cond_true,cn (by omega),cond_false,an (by omega) (by omega)]
 exact E1 (by omega) (by omega)
theorem o0(N:Nat){hi lo:Int}(h0:0≤hi)(l0:0≤lo)(l1:lo<18446744073709551616)(hm:hi*18446744073709551616+lo≤170141183460469231731687303715884105728):mE N true hi lo=some (cw (-(hi*18446744073709551616+lo)),true):=by
 unfold mE mE.b
 have hj:mE.j7 N hi lo ca=some (cw (-(hi*18446744073709551616+lo)),true):=by
  unfold mE.j7 mE.H4
  rw[ot N (by omega) (by omega) l0 l1 (by omega) (by omega),Option.bind_some]
  by_cases hl:lo=0
  ·subst hl
   rw[if_neg (by omega)]
   rw[ot N (by omega) (by omega) h0 (by omega) (by omega) (by omega),Option.bind_some,gz]
   exact E1 (by split<;>omega) (by omega)
  ·rw[if_pos (by omega)]
   rw[ot N (by omega) (by omega) h0 (by omega) (by omega) (by omega),Option.bind_some,gz]
   exact E1 (by split<;>omega) (by omega)
 rw[Bool.not_true,cond_false,ax (by omega),cond_false]
 by_cases he:hi=9223372036854775808
 ·rw[ch he,cond_true,ax (by omega),cond_false];exact hj
 ·rw[b9 he,cond_false];exact hj
theorem AA{a b:Int}(a0: -9223372036854775808≤a)(a1:a<9223372036854775808)(b0: -9223372036854775808≤b)(b1:b<9223372036854775808):
  0≤(a.natAbs:Int)*b.natAbs∧(a.natAbs:Int)*b.natAbs≤85070591730234615865843651857942052864:=by
 have:=mul_lt (m:=9223372036854775808) (n:=9223372036854775808) (show 0≤(a.natAbs:Int)by omega) (show 0≤(b.natAbs:Int)by omega) (by omega) (by omega)
 omega
theorem QZ(N:Nat){a b:Int}(a0: -9223372036854775808≤a)(a1:a<9223372036854775808)(b0: -9223372036854775808≤b)(b1:b<9223372036854775808):Q0 N a b=some (cw (a*b)):=by
 unfold Q0
 have hm:=AA a0 a1 b0 b1
 simp only[xM N a0 a1,xM N b0 b1,Option.bind_some,Ny N (show 0≤(a.natAbs:Int)by omega) (by omega) (show 0≤(b.natAbs:Int)by omega) (by omega),qy]
 obtain⟨m,hme⟩: ∃m,m=(a.natAbs:Int)*b.natAbs:=⟨_,rfl⟩
 rw[←hme]at hm ⊢
 have hd:m/18446744073709551616*18446744073709551616+m%18446744073709551616=m:=by omega
 by_cases h1:a<0<;>by_cases h2:b<0
 ·rw[aD h1,aD h2,beq_self_eq_true,Bool.not_true,yT N (by omega) (by omega) (by omega) (by omega),Option.bind_some,hd]
  have:m=a*b:=by rw[hme,show(a.natAbs:Int)= -a from by omega,show(b.natAbs:Int)= -b from by omega,Int.neg_mul_neg]
  rw[this]
 ·rw[aD h1,ax (x:=b) (by omega),show(!(true==false))=true from rfl,o0 N (by omega) (by omega) (by omega) (by omega),Option.bind_some,hd]
  have:m= -(a*b):=by rw[hme,show(a.natAbs:Int)= -a from by omega,show(b.natAbs:Int)=b from by omega,Int.neg_mul]
  rw[this,Int.neg_neg]
 ·rw[ax (x:=a) (by omega),aD h2,show(!(false==true))=true from rfl,o0 N (by omega) (by omega) (by omega) (by omega),Option.bind_some,hd]
  have:m= -(a*b):=by rw[hme,show(a.natAbs:Int)=a from by omega,show(b.natAbs:Int)= -b from by omega,Int.mul_neg]
  rw[this,Int.neg_neg]
 ·rw[ax (x:=a) (by omega),ax (x:=b) (by omega),beq_self_eq_true,Bool.not_true,yT N (by omega) (by omega) (by omega) (by omega),Option.bind_some,hd]
  have:m=a*b:=by rw[hme,show(a.natAbs:Int)=a from by omega,show(b.natAbs:Int)=b from by omega]
  rw[this]
theorem NI(N:Nat){v:Int}(v0: -170141183460469231731687303715884105728≤v)(v1:v<170141183460469231731687303715884105728):Q1 N (cw v)=some ((v.natAbs:Int)/18446744073709551616,(v.natAbs:Int)%18446744073709551616):=by
 unfold Q1 cw
 dsimp only
 by_cases h:0≤v
 ·rw[cv (by omega),cond_true,bw (by omega) (by omega)]
  exact NH (by omega) (by omega)
 ·rw[cn (by omega),cond_false,ot N (by omega) (by omega) (by omega) (by omega) (by omega) (by omega),Option.bind_some]
  dsimp only
  rw[mA]
  by_cases hl:v%18446744073709551616=0
  ·rw[if_neg (by omega),ot N (by omega) (by omega) (by omega) (by omega) (by omega) (by omega),Option.bind_some]
   exact NH (by omega) (by omega)
  ·rw[if_pos (by omega),ot N (by omega) (by omega) (by omega) (by omega) (by omega) (by omega),Option.bind_some]
   exact NH (by omega) (by omega)
theorem Q2{m d:Int}(hd:0<d)(hm:0≤m):m/d=m/18446744073709551616/d*18446744073709551616+(m/18446744073709551616%d*18446744073709551616+m%18446744073709551616)/d∧
  m%d=(m/18446744073709551616%d*18446744073709551616+m%18446744073709551616)%d:=by
 have e:=Int.mul_ediv_add_emod (m/18446744073709551616) d
 have e0:m=(m/18446744073709551616%d*18446744073709551616+m%18446744073709551616)+d*(m/18446744073709551616/d*18446744073709551616):=by
  rw[←Int.mul_assoc];omega
 constructor
 ·conv=>lhs;rw[e0]
  rw[Int.add_mul_ediv_left _ _ (by omega)];omega
 ·conv=>lhs;rw[e0]
  rw[Int.add_mul_emod_self_left]
theorem Q3(N:Nat)(hN:100≤N){v d:Int}(v0: -170141183460469231731687303715884105728≤v)(v1:v<170141183460469231731687303715884105728)(d0:0<d)(d1:d<9223372036854775808):
  ov N (cw v) d=some (cw (v/d),v%d,true):=by
 unfold ov ov.b
 rw[ax (by omega),cond_false,NI N v0 v1,Option.bind_some,bw (x:=d) (by omega) (by omega)]
 dsimp only
 obtain⟨m,hm⟩: ∃m:Int,m=v.natAbs:=⟨_,rfl⟩
 rw[←hm]
 have hmd:=Int.emod_lt_of_pos (m/18446744073709551616) d0
 have aj4:=Int.emod_nonneg (m/18446744073709551616) (show d≠0 by omega)
 rw[EP N hN (by omega) d0 (by omega) (by omega) (by omega),Option.bind_some,Int.zero_mul,Int.zero_add]
 dsimp only
 rw[EP N hN aj4 hmd (by omega) (by omega) (by omega),Option.bind_some]
 dsimp only
 obtain⟨e1,e2⟩:=Q2 d0 (show 0≤m by omega)
 rw[←e2]
 have KJ:0≤m/18446744073709551616/d:=Int.ediv_nonneg (by omega) (by omega)
 have hq1:m/18446744073709551616/d≤m/18446744073709551616:=Int.ediv_le_self _ (by omega)
 have Nv:=Int.emod_lt_of_pos m d0
 have X0:=Int.emod_nonneg m (show d≠0 by omega)
 have hl0:0≤(m/18446744073709551616%d*18446744073709551616+m%18446744073709551616)/d:=Int.ediv_nonneg (by omega) (by omega)
 have YB:(m/18446744073709551616%d*18446744073709551616+m%18446744073709551616)/d<18446744073709551616:=by
  rw[Int.ediv_lt_iff_lt_mul d0]
  have:=Int.mul_le_mul_of_nonneg_right (show m/18446744073709551616%d+1≤d by omega) (show(0:Int)≤18446744073709551616 by omega)
  rw[Int.add_mul,Int.one_mul,Int.mul_comm d]at this;omega
 generalize (m/18446744073709551616%d*18446744073709551616+m%18446744073709551616)/d=ql at*
 generalize hqh:m/18446744073709551616/d=qh at*
 have hmq:=Int.mul_ediv_add_emod m d
 by_cases h:0≤v
 ·have hv:m=v:=by omega
  rw[cv (show(0:Int)≤(cw v).1 by show 0≤v/_;omega),cond_true,an (x:=qh) (by omega) (by omega),an (x:=m%d) (by omega) (by omega),←hv]
  unfold cw
  exact E1 (by omega) (by omega)
 ·have hv:v= -m:=by omega
  rw[cn (show(cw v).1<0 by show v/_<0;omega),cond_false]
  by_cases hr:0<m%d
  ·rw[aD hr,cond_true,tN N hl0 (by omega) (by omega) (by omega),Option.bind_some]
   unfold ov.CH ov.tV
   dsimp only
   rw[bw (x:=d-m%d) (by omega) (by omega),bw (x:=qh+(ql+1+0)/18446744073709551616) (by omega) (by omega)]
   rw[o0 N (by omega) (by omega) (by omega) (by
    have:m/d*1≤m/d*d:=Int.mul_le_mul_of_nonneg_left (by omega) (Int.ediv_nonneg (by omega) (by omega))
    rw[Int.mul_comm]at hmq;omega),Option.bind_some,an (x:=d-m%d) (by omega) (by omega)]
   have e3:v=(d-m%d)+d*(-(m/d)-1):=by rw[hv,Int.mul_sub,Int.mul_neg,Int.mul_one];omega
   have e4:v/d= -(m/d)-1:=by
    rw[e3,Int.add_mul_ediv_left _ _ (by omega),Int.ediv_eq_zero_of_lt (by omega) (by omega)];omega
   have e5:v%d=d-m%d:=by rw[e3,Int.add_mul_emod_self_left,Int.emod_eq_of_lt (by omega) (by omega)]
   rw[e4,e5]
   dsimp only
   rw[show-((qh+(ql+1+0)/18446744073709551616)*18446744073709551616+(ql+1+0)%18446744073709551616)= -(m/d)-1 by omega]
  ·have eg:m%d=0:=by omega
   rw[ax (by omega),cond_false]
   unfold ov.CH ov.tV
   rw[o0 N (by omega) (by omega) (by omega) (by
    have:m/d*1≤m/d*d:=Int.mul_le_mul_of_nonneg_left (by omega) (Int.ediv_nonneg (by omega) (by omega))
    rw[Int.mul_comm]at hmq;omega),Option.bind_some,an (x:=m%d) (by omega) (by omega)]
   have e3:v=d*(-(m/d)):=by rw[hv,Int.mul_neg];omega
   have e4:v/d= -(m/d):=by rw[e3,Int.mul_ediv_cancel_left _ (by omega)]
   have e5:v%d=0:=by rw[e3,Int.mul_emod_right]
   rw[e4,e5,eg]
   dsimp only
   rw[show-(qh*18446744073709551616+ql)= -(m/d)by omega]
theorem CI(N:Nat){v:Int}(v0: -170141183460469231731687303715884105728≤v)(v1:v<170141183460469231731687303715884105728):CJ N (cw v)=some (tT v):=by
 unfold CJ cw
 rw[ax (by omega),cond_false]
 dsimp only
 have hw0: -9223372036854775808≤W .i64 (v%18446744073709551616)∧W .i64 (v%18446744073709551616)<9223372036854775808:=by rw[gz];split<;>omega
 rw[mB hw0.1 hw0.2]
 have hwv:W .i64 (v%18446744073709551616)=if 9223372036854775808≤v%18446744073709551616 then v%18446744073709551616-18446744073709551616 else v%18446744073709551616:=by rw[gz];split<;>split<;>omega
 rw[hwv]
 unfold tT
 by_cases h: -9223372036854775808≤v∧v<9223372036854775808
 ·rw[if_pos h]
  by_cases hn:v<0
  ·rw[if_pos (show 9223372036854775808≤v%18446744073709551616 by omega),if_pos (by omega),ch (by omega),Bool.not_true,cond_false]
   congr 2;omega
  ·rw[if_neg (show ¬9223372036854775808≤v%18446744073709551616 by omega),if_neg (by omega),ch (by omega),Bool.not_true,cond_false]
   congr 2;omega
 ·rw[if_neg h]
  by_cases hm:9223372036854775808≤v%18446744073709551616
  ·rw[if_pos hm,if_pos (by omega),b9 (by omega),Bool.not_false,cond_true]
  ·rw[if_neg hm,if_neg (by omega),b9 (by omega),Bool.not_false,cond_true]
theorem Bj(N:Nat){l:List Int}(h: ∀x∈l,-9223372036854775808≤x∧x<9223372036854775808)(hl:l.length≤1000000): ∀(m n i:Nat),l.length-i≤m→m<n→i≤l.length→
  lD.l3 N n ((l.take i).sum/18446744073709551616) ((l.take i).sum%18446744073709551616) l (l.length:Int) (i:Int)=some (tT l.sum)
 |m,0,i,_,hn,_=>by omega
 |m,n+1,i,hm,hn,hi=>by
  unfold lD.l3 lD.gZ
  have f1:=CG (l.take i) (fun x hx=>h x (List.mem_of_mem_take hx))
  rw[List.length_take,Nat.min_eq_left (by omega)]at f1
  by_cases h1:i<l.length
  ·obtain⟨g0,g1⟩:=mD h i
   have hs:=dN l h1
   simp only[Int.toNat_natCast]
   generalize hx:l.getD i 0=x at*
   generalize (l.take i).sum=t at*
   rw[mA,tN N (by omega) (by omega) (by omega) (by omega)]
   simp only[mB g0 g1]
   have hih:=Bj N h hl (m-1) n (i+1) (by omega) (by omega) (by omega)
   rw[hs]at hih
   rw[aD (by omega),cond_true,aF (by omega) (by omega),cond_true,Option.bind_some,ax (by omega),cond_false]
   by_cases hn:x<0
   ·rw[if_pos hn,an (x:=t/18446744073709551616+ -1) (by omega) (by omega),an (x:=(_:Int)/18446744073709551616) (by omega) (by omega),an (by omega) (by omega),an (x:=(i:Int)+1) (by omega) (by omega)]
    refine Eq.trans ?_ hih
    congr 1<;>omega
   ·rw[if_neg hn,an (x:=t/18446744073709551616+0) (by omega) (by omega),an (x:=(_:Int)/18446744073709551616) (by omega) (by omega),an (by omega) (by omega),an (x:=(i:Int)+1) (by omega) (by omega)]
    refine Eq.trans ?_ hih
    congr 1<;>omega
  ·rw[List.take_of_length_le (by omega)]at f1 ⊢
   rw[ax (by omega),cond_false]
   have:=CI N (v:=l.sum) (by omega) (by omega)
   unfold CJ cw at this
   exact this
theorem JT(N:Nat){l:List Int}(h: ∀x∈l,-9223372036854775808≤x∧x<9223372036854775808)(hl:l.length≤1000000)(hN:1000000<N):lD N l=some (tT l.sum):=by
 unfold lD lD.b
 have:=Bj N h hl l.length N 0 (by omega) (by omega) (by omega)
 rw[List.take_zero,List.sum_nil]at this
 exact this
end VM
end
section
namespace VM
open Go
theorem cond_not{α:Type}(b:Bool)(x y:α):cond (!b) x y=cond b y x:=by cases b<;>rfl
theorem bL{α:Type}(a b:Int)(x y:α):cond (aG a b) x y=if a<b then x else y:=by
 by_cases h:a<b
 ·rw[aD h,if_pos h];rfl
 ·rw[ax (by omega),if_neg h];rfl
theorem bM{α:Type}(a b:Int)(x y:α):cond (bR a b) x y=if a≤b then x else y:=by
 by_cases h:a≤b
 ·rw[cv h,if_pos h];rfl
 ·rw[cn (by omega),if_neg h];rfl
theorem az{α:Type}(a b:Int)(x y:α):cond (ay a b) x y=if a=b then x else y:=by
 by_cases h:a=b
 ·rw[ch h,if_pos h];rfl
 ·rw[b9 h,if_neg h];rfl
theorem ew{α:Type}(p:Prop) [Decidable p](x y:α):cond (decide p) x y=if p then x else y:=by
 by_cases h:p
 ·rw[decide_eq_true h,if_pos h];rfl
 ·rw[decide_eq_false h,if_neg h];rfl
theorem drop_cons{α:Type}{l:List α}{i:Nat}(h:i<l.length)(d:α):l.drop i=l.getD i d::l.drop (i+1):=by
 rw[List.drop_eq_getElem_cons h,List.getD_eq_getElem?_getD,List.getElem?_eq_getElem h];rfl
theorem nq{α σ β:Type}(l:List α)(d:α)(F:Nat→Int→σ→Option β)(g:List α→σ→Option β)(I:Nat→σ→Prop)
  (hs: ∀n i s,i<l.length→I i s→(∀s',I (i+1) s'→F n ((i+1:Nat):Int) s'=g (l.drop (i+1)) s')→F (n+1) (i:Int) s=g (l.getD i d::l.drop (i+1)) s)
  (he: ∀n s,I l.length s→F (n+1) (l.length:Int) s=g [] s): ∀m n i s,l.length-i≤m→m<n→i≤l.length→I i s→F n (i:Int) s=g (l.drop i) s
 |m,0,i,s,_,hn,_,_=>by omega
 |m,n+1,i,s,hm,hn,hi,hI=>by
  by_cases h:i<l.length
  ·rw[drop_cons h d]
   exact hs n i s h hI fun s' sf=>nq l d F g I hs he (m-1) n (i+1) s' (by omega) (by omega) (by omega) sf
  ·have:i=l.length:=by omega
   subst this
   rw[List.drop_length];exact he n s hI
theorem tX{α β:Type}(l:List α)(d:α)(F:Nat→Int→Option β)(g:List α→Option β)
  (hs: ∀n i,i<l.length→F n ((i+1:Nat):Int)=g (l.drop (i+1))→F (n+1) (i:Int)=g (l.getD i d::l.drop (i+1)))
  (he: ∀n,F (n+1) (l.length:Int)=g []) (n:Nat) (hn:l.length<n):F n 0=g l:=by
 have:=nq (σ:=Unit) l d (fun n i _=>F n i) (fun l _=>g l) (fun _ _=>True) (fun n i _ h _ hr=>hs n i h (hr () trivial)) (fun n _ _=>he n) l.length n 0 () (by omega) hn (by omega) trivial
 simpa using this
theorem scan{F:Nat→Int→Option Bool}{len:Nat}(P:Nat→Prop) [DecidablePred P]
  (hs: ∀n i r,i<len→(∀j,j<i→P j)→F n ((i+1:Nat):Int)=r→F (n+1) (i:Int)=if P i then r else some false) {e:Bool} (he: ∀n,F (n+1) (len:Int)=some e):
  ∀m n i,len-i≤m→m<n→i≤len→(∀j,j<i→P j)→F n (i:Int)=some (decide (∀j,j<len→i≤j→P j)&&e)
 |m,0,i,_,hn,_,_=>by omega
 |m,n+1,i,hm,hn,hi,hp=>by
  by_cases h:i<len
  ·rw[hs n i _ h hp rfl]
   by_cases hP:P i
   ·rw[if_pos hP,scan P hs he (m-1) n (i+1) (by omega) (by omega) (by omega) (fun j hj=>by
     by_cases sG:j=i
     ·subst sG;exact hP
     ·exact hp j (by omega))]
    congr 2
    rw[decide_eq_decide]
    refine⟨fun hj j h2 h1=> ?_,fun hj j h2 h1=>hj j h2 (by omega)⟩
    by_cases sG:j=i
    ·subst sG;exact hP
    ·exact hj j h2 (by omega)
   ·rw[if_neg hP,decide_eq_false (fun hj=>hP (hj i h (Nat.le_refl i)))];rfl
  ·have:i=len:=by omega
   subst this
   rw[he n,decide_eq_true (fun j h2 h1=>absurd h2 (by omega))];rfl
theorem fg{F:Nat→Int→Option Bool}{len:Nat}(P:Nat→Prop) [DecidablePred P]{e:Bool}
  (hs: ∀n i r,i<len→(∀j,j<i→P j)→F n ((i+1:Nat):Int)=r→F (n+1) (i:Int)=if P i then r else some false) (he: ∀n,F (n+1) (len:Int)=some e) (n:Nat) (hn:len<n):
  F n 0=some (decide (∀j,j<len→P j)&&e):=by
 have:=scan P hs he len n 0 (by omega) hn (by omega) (fun j hj=>absurd hj (by omega))
 rw[show((0:Nat):Int)=0 from rfl]at this
 rw[this]
 congr 2
 rw[decide_eq_decide]
 exact⟨fun h j hj=>h j hj (by omega),fun h j hj _=>h j hj⟩
end VM
end
section
namespace VM
open Go VM.F
def dV(x:Int):Prop:= -170141183460469231731687303715884105728≤x∧x<170141183460469231731687303715884105728
instance(x:Int):Decidable (dV x):=by unfold dV;infer_instance
theorem vm(N:Nat){x:Int}(h0: -9223372036854775808≤x)(h1:x<9223372036854775808):Q4 N x=some (cw x):=by
 unfold Q4
 rw[ax (by omega),cond_false,mB h0 h1,mA]
 congr 1
 exact wmk (by split<;>omega) rfl
theorem Q5{ws:List Int}(i:Nat):(ws.map cw).getD i ca=cw (ws.getD i 0):=by
 by_cases h:i<ws.length
 ·rw[List.getD_eq_getElem?_getD,List.getElem?_map,List.getElem?_eq_getElem h,List.getD_eq_getElem?_getD,List.getElem?_eq_getElem h];rfl
 ·rw[List.getD_eq_getElem?_getD,List.getElem?_eq_none (by rw[List.length_map];omega),List.getD_eq_getElem?_getD,List.getElem?_eq_none (by omega)];rfl
theorem H8{ws:List Int}(h: ∀x∈ws,dV x): -(170141183460469231731687303715884105728*(ws.length:Int))≤ws.sum∧ws.sum≤170141183460469231731687303715884105728*(ws.length:Int):=by
 induction ws with
 |nil=>simp
 |cons x ws ih=>
  have h0:=h x (List.mem_cons_self ..)
  have ih:=ih (fun y hy=>h y (List.mem_cons_of_mem _ hy))
  unfold dV at h0
  rw[List.sum_cons,List.length_cons];omega
theorem NJ{t w:Int}{lo hi top:Int}(hw:dV w)(xa:lo=t%18446744073709551616)(DE:hi=t/18446744073709551616%18446744073709551616)(aj7:top=t/340282366920938463463374607431768211456):
  (lo+w%18446744073709551616+0)%18446744073709551616=(t+w)%18446744073709551616∧
  (hi+(w/18446744073709551616)%18446744073709551616+(lo+w%18446744073709551616+0)/18446744073709551616)%18446744073709551616=(t+w)/18446744073709551616%18446744073709551616∧
  top+(if w/18446744073709551616<0 then-1 else 0)+(hi+(w/18446744073709551616)%18446744073709551616+(lo+w%18446744073709551616+0)/18446744073709551616)/18446744073709551616=(t+w)/340282366920938463463374607431768211456:=by
 unfold dV at hw
 subst xa DE aj7
 refine⟨by omega,by omega,?_⟩
 split<;>omega
def H9(t:Int):bG×Bool:=if dV t then(cw t,true)else(ca,false)
theorem W64(x:Int):W .u64 x=x%18446744073709551616:=mA x
theorem Bk(N:Nat){ws:List Int}(h: ∀x∈ws,dV x)(hl:ws.length≤1000000): ∀(m n i:Nat) (t:Int),ws.length-i≤m→m<n→i≤ws.length→t=(ws.take i).sum→
  jn.l3 N n ca (t/340282366920938463463374607431768211456) (t/18446744073709551616%18446744073709551616) (t%18446744073709551616) (ws.map cw) (ws.length:Int) (i:Int)=some (H9 ws.sum)
 |m,0,i,t,_,hn,_,_=>by omega
 |m,n+1,i,t,hm,hn,hi,ht=>by
  unfold jn.l3 jn.gZ
  have f1:=H8 (ws:=ws.take i) (fun x hx=>h x (List.mem_of_mem_take hx))
  rw[List.length_take,Nat.min_eq_left (by omega),←ht]at f1
  by_cases h1:i<ws.length
  ·have hw:dV (ws.getD i 0):=by
    rw[List.getD_eq_getElem?_getD,List.getElem?_eq_getElem h1];exact h _ (List.getElem_mem h1)
   have hs:=dN ws h1
   rw[←ht]at hs
   have st:=NJ (t:=t) (w:=ws.getD i 0) hw rfl rfl rfl
   have sN:=Bk N h hl (m-1) n (i+1) (t+ws.getD i 0) (by omega) (by omega) (by omega) hs.symm
   rw[aD (by omega),cond_true,aF (by omega) (by rw[List.length_map];omega),cond_true,Int.toNat_natCast,Q5]
   unfold cw
   dsimp only
   have hw':=hw
   unfold dV at hw'
   generalize ws.getD i 0=w at*
   have hq:0≤(t%18446744073709551616+w%18446744073709551616+0)/18446744073709551616∧(t%18446744073709551616+w%18446744073709551616+0)/18446744073709551616≤1:=by omega
   rw[tN N (by omega) (by omega) (by omega) (by omega),Option.bind_some,W64,tN N (by omega) (by omega) hq.1 hq.2,Option.bind_some,ax (x:=63) (by omega),cond_false,st.1,st.2.1]
   rw[mB (by omega) (by omega)]
   have hc:0≤(t/18446744073709551616%18446744073709551616+w/18446744073709551616%18446744073709551616+(t%18446744073709551616+w%18446744073709551616+0)/18446744073709551616)/18446744073709551616∧(t/18446744073709551616%18446744073709551616+w/18446744073709551616%18446744073709551616+(t%18446744073709551616+w%18446744073709551616+0)/18446744073709551616)/18446744073709551616≤1:=by omega
   have hif: -1≤(if w/18446744073709551616<0 then(-1:Int)else 0)∧(if w/18446744073709551616<0 then(-1:Int)else 0)≤0:=by split<;>omega
   rw[an (x:=t/340282366920938463463374607431768211456+_) (by omega) (by omega),an (x:=(_:Int)/18446744073709551616) (by omega) (by omega),st.2.2,an (by omega) (by omega),an (x:=(i:Int)+1) (by omega) (by omega)]
   exact sN
  ·have e:(ws.take i).sum=ws.sum:=by rw[List.take_of_length_le (by omega)]
   rw[e]at ht
   rw[ax (by omega),cond_false,ax (x:=63) (by omega),cond_false,←ht]
   have hh: -9223372036854775808≤W .i64 (t/18446744073709551616%18446744073709551616)∧W .i64 (t/18446744073709551616%18446744073709551616)<9223372036854775808:=by rw[gz];split<;>omega
   have hwv:W .i64 (t/18446744073709551616%18446744073709551616)=if 9223372036854775808≤t/18446744073709551616%18446744073709551616 then t/18446744073709551616%18446744073709551616-18446744073709551616 else t/18446744073709551616%18446744073709551616:=by rw[gz];split<;>split<;>omega
   rw[mB hh.1 hh.2,hwv]
   unfold H9
   by_cases hI:dV t
   ·rw[if_pos hI]
    unfold dV at hI
    rw[ch (by split<;>split<;>omega),Bool.not_true,cond_false]
    exact E1 (by split<;>omega) rfl
   ·rw[if_neg hI]
    unfold dV at hI
    rw[b9 (by split<;>split<;>omega),Bool.not_false,cond_true]
theorem CK(N:Nat){ws:List Int}(h: ∀x∈ws,dV x)(hl:ws.length≤1000000)(hN:1000000<N):jn N (ws.map cw)=some (H9 ws.sum):=by
 unfold jn jn.b
 rw[List.length_map]
 exact Bk N h hl ws.length N 0 0 (by omega) (by omega) (by omega) (by simp)
end VM
end
section
namespace VM
open Go VM.F
theorem o1(N:Nat)(a lo hi:Int):xf N a lo hi=some (decide (lo≤a∧a≤hi)):=by
 unfold xf
 rw[bM,kU]
 by_cases h:lo≤a
 ·rw[if_pos h];congr 1;rw[decide_eq_decide];omega
 ·rw[if_neg h,decide_eq_false (by omega)]
theorem Bl(N:Nat)(a lo hi:Int):AB N a lo hi=some (decide (lo≤a∧a≤hi)):=o1 N a lo hi
def o3(a b c d:Int):Prop:=(0≤a∧a≤3)∧(1≤b∧b≤1000000000000)∧(0≤c∧c≤1000000000)∧(0≤d∧d≤1000000000)
instance(a b c d:Int):Decidable (o3 a b c d):=by unfold o3;infer_instance
def mF(l:aE)(i:Nat):Prop:=o3 (l.getD i aS).1 (l.getD i aS).2.1 (l.getD i aS).2.2.1 (l.getD i aS).2.2.2.1
instance(l:aE):DecidablePred (mF l):=fun i=>by unfold mF;infer_instance
def o4(a b c d e f:Int):Prop:=0≤a∧(0≤b∧b≤4)∧(0≤c∧c≤1000000)∧(0≤d∧d≤1000000)∧(1≤e∧e≤4611686018427387904)∧0≤f
instance(a b c d e f:Int):Decidable (o4 a b c d e f):=by unfold o4;infer_instance
def o5(c:ae):Prop:=o4 c.2.1 c.2.2.1 c.2.2.2.1 c.2.2.2.2.1 c.2.2.2.2.2.1 c.2.2.2.2.2.2.1
instance(c:ae):Decidable (o5 c):=by unfold o5;infer_instance
def fm(c:ae):Bool:=decide (1≤c.1.length∧c.1.length≤6)&&(decide (∀j,j<c.1.length→mF c.1 j)&&decide (o5 c))
theorem Q6(N:Nat)(hN:100≤N)(c:ae):xg N c=some (fm c):=by
 unfold xg xg.b fm
 rw[o1,Option.bind_some,cond_not,ew]
 by_cases hl:1≤c.1.length∧c.1.length≤6
 ·rw[if_pos (by omega),decide_eq_true hl,Bool.true_and]
  refine fg (F:=fun n i=>xg.l4 N n c c.1 (c.1.length:Int) i) (mF c.1) (fun n i r hi hp hr=> ?_) (fun n=> ?_) N (by omega)
  ·unfold xg.l4 xg.cj
   rw[aD (by omega),cond_true,aF (by omega) (by omega),cond_true,Int.toNat_natCast,an (by omega) (by omega),aa]
   simp only[o1,Option.bind_some,cond_not,ew]
   by_cases hP:mF c.1 i
   ·rw[if_pos hP];unfold mF o3 at hP
    repeat' split
    all_goals first|rfl|exact hr|omega
   ·rw[if_neg hP];unfold mF o3 at hP
    repeat' split
    all_goals first|rfl|exact hr|omega
  ·unfold xg.l4 xg.cj
   rw[ax (by omega),cond_false]
   simp only[o1,Option.bind_some,cond_not,ew,bM,kU]
   by_cases hP:o5 c
   ·rw[decide_eq_true hP];unfold o5 o4 at hP
    repeat' split
    all_goals first|rfl|omega|(rw[decide_eq_true (by omega)])
   ·rw[decide_eq_false hP];unfold o5 o4 at hP
    repeat' split
    all_goals first|rfl|omega|(rw[decide_eq_false (by omega)])
 ·rw[if_neg (by omega),decide_eq_false hl,Bool.false_and]
theorem ow(N:Nat)(hN:100≤N)(c:ae):iC N c=some (fm c):=by
 unfold iC iC.b fm
 rw[bL,bL]
 by_cases hl:1≤c.1.length∧c.1.length≤6
 ·rw[if_neg (by omega),if_neg (by omega),decide_eq_true hl,Bool.true_and]
  refine fg (F:=fun n i=>iC.l4 N n c i) (mF c.1) (fun n i r hi hp hr=> ?_) (fun n=> ?_) N (by omega)
  ·unfold iC.l4 iC.cj
   rw[aD (by omega),cond_true,aF (by omega) (by omega),cond_true,Int.toNat_natCast,an (by omega) (by omega),aa]
   simp only[Bl,Option.bind_some,cond_not,ew]
   by_cases hP:mF c.1 i
   ·rw[if_pos hP];unfold mF o3 at hP
    repeat' split
    all_goals first|rfl|exact hr|omega
   ·rw[if_neg hP];unfold mF o3 at hP
    repeat' split
    all_goals first|rfl|exact hr|omega
  ·unfold iC.l4 iC.cj
   rw[ax (by omega),cond_false]
   simp only[Bl,Option.bind_some,cond_not,ew,bM,kU]
   by_cases hP:o5 c
   ·rw[decide_eq_true hP];unfold o5 o4 at hP
    repeat' split
    all_goals first|rfl|omega|(rw[decide_eq_true (by omega)])
   ·rw[decide_eq_false hP];unfold o5 o4 at hP
    repeat' split
    all_goals first|rfl|omega|(rw[decide_eq_false (by omega)])
 ·rw[decide_eq_false hl,Bool.false_and]
  by_cases h:(c.1.length:Int)<1
  ·rw[if_pos h]
  ·rw[if_neg h,if_pos (by omega)]
def eW(a b:Int)(i:Nat)(c:Int):Prop:=1≤a∧a≤12∧1≤b∧b≤4∧(0<i→c<a)
instance(a b:Int)(i:Nat)(c:Int):Decidable (eW a b i c):=by unfold eW;infer_instance
def dr(m:av)(i:Nat):Prop:=eW (m.getD i ca).1 (m.getD i ca).2.1 i (m.getD (i-1) ca).1
instance(m:av):DecidablePred (dr m):=fun i=>by unfold dr;infer_instance
def iM(m:av):Bool:=decide (∀j,j<m.length→dr m j)&&true
theorem yU(N:Nat){m:av}(hl:m.length≤100000)(hN:200000≤N):kD N m=some (iM m):=by
 unfold kD kD.b
 refine fg (F:=fun n i=>kD.l2 N n m m (m.length:Int) i) (dr m) (fun n i r hi hp hr=> ?_) (fun n=> ?_) N (by omega)
 ·unfold kD.l2 kD.ec
  rw[aD (by omega),cond_true,aF (by omega) (by omega),cond_true,Int.toNat_natCast,an (x:=(i:Int)+1) (by omega) (by omega),aa]
  by_cases h0:0<i
  ·have e:W .i64 ((i:Int)-1)=((i-1:Nat):Int):=by rw[an (by omega) (by omega)];omega
   dsimp only
   rw[aD (x:=0) (by omega),cond_true,e,Int.toNat_natCast,aF (by omega) (by omega),cond_true]
   simp only[bL,bM]
   by_cases hP:dr m i
   ·rw[if_pos hP];unfold dr eW at hP
    repeat' split
    all_goals first|rfl|exact hr|omega
   ·rw[if_neg hP];unfold dr eW at hP
    repeat' split
    all_goals first|rfl|exact hr|omega
  ·rw[ax (x:=0) (by omega),cond_false]
   simp only[bL,bM]
   by_cases hP:dr m i
   ·rw[if_pos hP];unfold dr eW at hP
    repeat' split
    all_goals first|rfl|exact hr|omega
   ·rw[if_neg hP];unfold dr eW at hP
    repeat' split
    all_goals first|rfl|exact hr|omega
 ·unfold kD.l2 kD.ec
  rw[ax (by omega),cond_false]
theorem nL(N:Nat){m:av}(hl:m.length≤100000)(hN:200000≤N):jG N m=some (iM m):=by
 unfold jG jG.b
 refine fg (F:=fun n i=>jG.l2 N n m i) (dr m) (fun n i r hi hp hr=> ?_) (fun n=> ?_) N (by omega)
 ·unfold jG.l2 jG.ec
  rw[aD (by omega),cond_true,aF (by omega) (by omega),cond_true,Int.toNat_natCast,an (x:=(i:Int)+1) (by omega) (by omega),aa]
  by_cases h0:0<i
  ·have e:W .i64 ((i:Int)-1)=((i-1:Nat):Int):=by rw[an (by omega) (by omega)];omega
   dsimp only
   rw[aD (x:=0) (by omega),e,Int.toNat_natCast,aF (i:=((i-1:Nat):Int)) (by omega) (by omega)]
   simp only[bL,bM,cond_true]
   by_cases hP:dr m i
   ·rw[if_pos hP];unfold dr eW at hP
    repeat' split
    all_goals first|rfl|exact hr|omega
   ·rw[if_neg hP];unfold dr eW at hP
    repeat' split
    all_goals first|rfl|exact hr|omega
  ·rw[ax (x:=0) (by omega)]
   simp only[bL,bM,cond_true,cond_false]
   by_cases hP:dr m i
   ·rw[if_pos hP];unfold dr eW at hP
    repeat' split
    all_goals first|rfl|exact hr|omega
   ·rw[if_neg hP];unfold dr eW at hP
    repeat' split
    all_goals first|rfl|exact hr|omega
 ·unfold jG.l2 jG.ec
  rw[ax (by omega),cond_false]
end VM
end
section
namespace VM
open Go VM.F
def eO(k n:Int):Prop:=(1≤k∧k≤4∧n=0)∨(k=5∧1≤n∧n≤24)∨(6≤k∧k≤7∧1≤n∧n≤12)
instance(k n:Int):Decidable (eO k n):=by unfold eO;infer_instance
theorem Ia(N:Nat)(k n:Int):Ib N k n=some (decide (eO k n)):=by
 unfold Ib
 simp only[az,bM]
 simp only[kU,fI]
 by_cases hP:eO k n
 ·rw[decide_eq_true hP];unfold eO at hP
  repeat' split
  all_goals first|rfl|omega|(rw[decide_eq_true (by omega)])
 ·rw[decide_eq_false hP];unfold eO at hP
  repeat' split
  all_goals first|rfl|omega|(rw[decide_eq_false (by omega)])
theorem Q7(N:Nat)(k n:Int):Ic N k n=some (decide (eO k n)):=by
 have:=Ia N k n
 unfold Ib at this
 unfold Ic
 exact this
def iN(a b c d:Int):Prop:=a<c∨(a=c∧b<d)
instance(a b c d:Int):Decidable (iN a b c d):=by unfold iN;infer_instance
def vn(k n a b:Int):Int:=if k=a then n-b else k-a
def AD(x:Int):Prop:= -1000000≤x∧x≤1000000
theorem yV(N:Nat){k n:Int}{r:cE}(h1:AD k)(h2:AD n)(h3:AD r.1)(h4:AD r.2.1):Ie N k n r=some (vn k n r.1 r.2.1):=by
 unfold Ie vn
 unfold AD at*
 rw[cond_not,az]
 split
 ·rw[an (by omega) (by omega)]
 ·rw[an (by omega) (by omega)]
theorem Bm(N:Nat){k n:Int}{r:cE}(h1:AD k)(h2:AD n)(h3:AD r.1)(h4:AD r.2.1):Lc N k n r=some (vn k n r.1 r.2.1):=yV N h1 h2 h3 h4
def iD(a b c:Int)(i:Nat)(d e:Int):Prop:=eO a b∧c≠0∧(0<i→iN d e a b)
instance(a b c:Int)(i:Nat)(d e:Int):Decidable (iD a b c i d e):=by unfold iD;infer_instance
def ia(l:ah)(i:Nat):Prop:=iD (l.getD i aR).1 (l.getD i aR).2.1 (l.getD i aR).2.2.1 i (l.getD (i-1) aR).1 (l.getD (i-1) aR).2.1
instance(l:ah):DecidablePred (ia l):=fun i=>by unfold ia;infer_instance
def eX(l:ah):Bool:=decide (∀j,j<l.length→ia l j)&&true
theorem CL(N:Nat){l:ah}(hl:l.length≤100000)(hN:200000≤N):vo N l=some (eX l):=by
 unfold vo vo.b
 refine fg (F:=fun n i=>vo.l2 N n l l (l.length:Int) i) (ia l) (fun n i r hi hp hr=> ?_) (fun n=> ?_) N (by omega)
 ·unfold vo.l2 vo.ec
  rw[aD (by omega),cond_true,aF (by omega) (by omega),cond_true,Int.toNat_natCast,an (x:=(i:Int)+1) (by omega) (by omega),aa,Ia,Option.bind_some,cond_not,ew]
  by_cases hK:eO (l.getD i aR).1 (l.getD i aR).2.1
  ·rw[if_pos hK]
   by_cases h0:0<i
   ·have hq:=hp (i-1) (by omega)
    have e:W .i64 ((i:Int)-1)=((i-1:Nat):Int):=by rw[an (by omega) (by omega)];omega
    dsimp only
    rw[aD (x:=0) (by omega),cond_true,e,Int.toNat_natCast,aF (by omega) (by omega),cond_true]
    unfold ia iD at hq
    have hq:=hq.1
    rw[yV N (by unfold eO at hK;unfold AD;omega) (by unfold eO at hK;unfold AD;omega) (by unfold eO at hq;unfold AD;omega) (by unfold eO at hq;unfold AD;omega),Option.bind_some,az,bM]
    by_cases hP:ia l i
    ·rw[if_pos hP];unfold ia iD iN at hP;unfold vn
     have Ig:=hP.2
     repeat' split
     all_goals first|rfl|exact hr|omega
    ·rw[if_neg hP];unfold ia iD iN at hP;unfold vn
     have Ig:=fun h=>hP ⟨hK,h⟩
     repeat' split
     all_goals first|rfl|exact hr|omega|(exfalso;exact Ig (by omega))
   ·rw[ax (x:=0) (by omega),cond_false,az]
    by_cases hP:ia l i
    ·rw[if_pos hP];unfold ia iD at hP
     rw[if_neg hP.2.1];exact hr
    ·rw[if_neg hP];unfold ia iD at hP
     have Ig:=fun h=>hP ⟨hK,h,fun h=>absurd h h0⟩
     split
     ·rfl
     ·exact absurd (by assumption) Ig
  ·rw[if_neg hK,if_neg (fun h=>hK (by unfold ia iD at h;exact h.1))]
 ·unfold vo.l2 vo.ec
  rw[ax (by omega),cond_false]
theorem yW(N:Nat){l:ah}(hl:l.length≤100000)(hN:200000≤N):vp N l=some (eX l):=by
 unfold vp vp.b
 refine fg (F:=fun n i=>vp.l2 N n l i) (ia l) (fun n i r hi hp hr=> ?_) (fun n=> ?_) N (by omega)
 ·unfold vp.l2 vp.ec
  rw[aD (by omega),cond_true,aF (by omega) (by omega),cond_true,Int.toNat_natCast,an (x:=(i:Int)+1) (by omega) (by omega),aa,Q7,Option.bind_some,cond_not,ew]
  by_cases hK:eO (l.getD i aR).1 (l.getD i aR).2.1
  ·rw[if_pos hK]
   by_cases h0:0<i
   ·have e:W .i64 ((i:Int)-1)=((i-1:Nat):Int):=by rw[an (by omega) (by omega)];omega
    dsimp only
    rw[aD (x:=0) (by omega),e,Int.toNat_natCast,aF (i:=((i-1:Nat):Int)) (by omega) (by omega)]
    simp only[bL,bM,az,cond_true]
    by_cases hP:ia l i
    ·rw[if_pos hP];unfold ia iD iN at hP
     have Ig:=hP.2
     repeat' split
     all_goals first|rfl|exact hr|omega
    ·rw[if_neg hP];unfold ia iD iN at hP
     have Ig:=fun h=>hP ⟨hK,h⟩
     repeat' split
     all_goals first|rfl|exact hr|omega|(exfalso;exact Ig (by omega))
   ·rw[ax (x:=0) (by omega)]
    simp only[bL,bM,az,cond_true,cond_false]
    by_cases hP:ia l i
    ·rw[if_pos hP];unfold ia iD at hP
     rw[if_neg hP.2.1];exact hr
    ·rw[if_neg hP];unfold ia iD at hP
     have Ig:=fun h=>hP ⟨hK,h,fun h=>absurd h h0⟩
     split
     ·rfl
     ·exact absurd (by assumption) Ig
  ·rw[if_neg hK,if_neg (fun h=>hK (by unfold ia iD at h;exact h.1))];rfl
 ·unfold vp.l2 vp.ec
  rw[ax (by omega),cond_false]
end VM
end
section
namespace VM
open Go VM.F
def bI(a b:Int):Prop:=0≤a∧a≤24∧0≤b∧b<6
instance(a b:Int):Decidable (bI a b):=by unfold bI;infer_instance
theorem JU(N:Nat)(a b:Int):NK N a b=some (decide (bI a b)):=by
 unfold NK
 simp only[bM]
 simp only[mc]
 by_cases hP:bI a b
 ·rw[decide_eq_true hP];unfold bI at hP
  repeat' split
  all_goals first|rfl|omega|(rw[decide_eq_true (by omega)])
 ·rw[decide_eq_false hP];unfold bI at hP
  repeat' split
  all_goals first|rfl|omega|(rw[decide_eq_false (by omega)])
def n5(q:Int):Prop:=q≠ -9223372036854775808
instance(q:Int):Decidable (n5 q):=by unfold n5;infer_instance
theorem qB(N:Nat)(q:Int):Ld N q=some (decide (n5 q)):=by
 unfold Ld n5
 rw[fI]
 by_cases h:q= -9223372036854775808<;>simp[h]
def iE(a b c:Int)(i:Nat)(d e:Int):Prop:=bI a b∧c≠0∧n5 c∧(0<i→iN d e a b)
instance(a b c:Int)(i:Nat)(d e:Int):Decidable (iE a b c i d e):=by unfold iE;infer_instance
def ib(l:ah)(i:Nat):Prop:=iE (l.getD i aR).1 (l.getD i aR).2.1 (l.getD i aR).2.2.1 i (l.getD (i-1) aR).1 (l.getD (i-1) aR).2.1
instance(l:ah):DecidablePred (ib l):=fun i=>by unfold ib;infer_instance
def cN(l:ah):Bool:=decide (∀j,j<l.length→ib l j)&&true
theorem tY(N:Nat){l:ah}(hl:l.length≤100000)(hN:200000≤N):jH N l=some (cN l):=by
 unfold jH jH.b
 refine fg (F:=fun n i=>jH.l2 N n l l (l.length:Int) i) (ib l) (fun n i r hi hp hr=> ?_) (fun n=> ?_) N (by omega)
 ·unfold jH.l2 jH.ec
  rw[aD (by omega),cond_true,aF (by omega) (by omega),cond_true,Int.toNat_natCast,an (x:=(i:Int)+1) (by omega) (by omega),aa,JU,Option.bind_some,cond_not,ew,qB,Option.bind_some,cond_not,ew]
  by_cases hK:bI (l.getD i aR).1 (l.getD i aR).2.1
  ·rw[if_pos hK]
   by_cases h0:0<i
   ·have hq:=hp (i-1) (by omega)
    have e:W .i64 ((i:Int)-1)=((i-1:Nat):Int):=by rw[an (by omega) (by omega)];omega
    dsimp only
    rw[aD (x:=0) (by omega),cond_true,e,Int.toNat_natCast,aF (by omega) (by omega),cond_true]
    unfold ib iE at hq
    have hq:=hq.1
    rw[Bm N (by unfold bI at hK;unfold AD;omega) (by unfold bI at hK;unfold AD;omega) (by unfold bI at hq;unfold AD;omega) (by unfold bI at hq;unfold AD;omega),Option.bind_some,az,bM]
    by_cases hP:ib l i
    ·rw[if_pos hP];unfold ib iE iN at hP;unfold vn
     obtain⟨_,hP1,Ig,hP3⟩:=hP
     rw[if_pos Ig]
     repeat' split
     all_goals first|rfl|exact hr|omega
    ·rw[if_neg hP];unfold ib iE iN at hP;unfold vn
     have Ig:=fun h1 h2 h3=>hP ⟨hK,h1,h2,h3⟩
     repeat' split
     all_goals first|rfl|exact hr|(exfalso;exact Ig (by assumption) (by assumption) (by omega))|omega
   ·rw[ax (x:=0) (by omega),cond_false,az]
    by_cases hP:ib l i
    ·rw[if_pos hP];unfold ib iE at hP
     rw[if_neg hP.2.1,if_pos hP.2.2.1];exact hr
    ·rw[if_neg hP];unfold ib iE at hP
     have Ig:=fun h1 h2=>hP ⟨hK,h1,h2,fun h=>absurd h h0⟩
     split
     ·rfl
     ·split
      ·exact(Ig (by assumption) (by assumption)).elim
      ·rfl
  ·rw[if_neg hK,if_neg (fun h=>hK (by unfold ib iE at h;exact h.1))]
 ·unfold jH.l2 jH.ec
  rw[ax (by omega),cond_false]
theorem lY(N:Nat){l:ah}(hl:l.length≤100000)(hN:200000≤N):tb N l=some (cN l):=by
 unfold tb tb.b
 refine fg (F:=fun n i=>tb.l2 N n l i) (ib l) (fun n i r hi hp hr=> ?_) (fun n=> ?_) N (by omega)
 ·unfold tb.l2 tb.ec
  rw[aD (by omega),cond_true,aF (by omega) (by omega),cond_true,Int.toNat_natCast,an (x:=(i:Int)+1) (by omega) (by omega),aa]
  by_cases h0:0<i
  ·have e:W .i64 ((i:Int)-1)=((i-1:Nat):Int):=by rw[an (by omega) (by omega)];omega
   dsimp only
   rw[aD (x:=0) (y:=(i:Int)) (by omega),e,Int.toNat_natCast,aF (i:=((i-1:Nat):Int)) (by omega) (by omega)]
   simp only[bL,bM,az,cond_true]
   by_cases hP:ib l i
   ·rw[if_pos hP];unfold ib iE iN n5 bI at hP
    repeat' split
    all_goals first|rfl|exact hr|omega
   ·rw[if_neg hP];unfold ib iE iN n5 bI at hP
    repeat' split
    all_goals first|rfl|exact hr|omega|(exfalso;exact hP (by omega))
  ·rw[ax (x:=0) (y:=(i:Int)) (by omega)]
   simp only[bL,bM,az,cond_true,cond_false]
   by_cases hP:ib l i
   ·rw[if_pos hP];unfold ib iE iN n5 bI at hP
    repeat' split
    all_goals first|rfl|exact hr|omega
   ·rw[if_neg hP];unfold ib iE iN n5 bI at hP
    repeat' split
    all_goals first|rfl|exact hr|omega|(exfalso;exact hP (by omega))
 ·unfold tb.l2 tb.ec
  rw[ax (by omega),cond_false]
theorem eA(a b:Int)(y:Bool):cond (bR a b) (some y) (some false)=some (decide (a≤b)&&y):=by
 rw[bM];by_cases h:a≤b<;>simp[h]
theorem yX(a b:Int)(y:Bool):cond (aG a b) (some y) (some false)=some (decide (a<b)&&y):=by
 rw[bL];by_cases h:a<b<;>simp[h]
theorem yY(a b:Int)(y:Bool):cond (ay a b) (some y) (some false)=some (decide (a=b)&&y):=by
 rw[az];by_cases h:a=b<;>simp[h]
theorem vq(a b:Int)(y z:Bool):cond (ay a b) (some y) (some z)=some ((decide (a=b)&&y)||(!decide (a=b)&&z)):=by
 rw[az];by_cases h:a=b<;>simp[h]
def sO(a b c d e f:Int):Prop:=(1≤a∧a≤1099511627776)∧(1≤b∧b≤24)∧(0≤c∧c<6)∧(d=1∨d=2)∧(1≤e∧e≤1000000000)∧(1≤f∧f≤1000000000000)
instance(a b c d e f:Int):Decidable (sO a b c d e f):=by unfold sO;infer_instance
def qC(o:fJ):Prop:=sO o.1 o.2.1 o.2.2.1 o.2.2.2.1 o.2.2.2.2.1 o.2.2.2.2.2.1
instance(o:fJ):Decidable (qC o):=by unfold qC;infer_instance
theorem YH(N:Nat)(o:fJ):Q8 N o=some (decide (qC o)):=by
 unfold Q8
 rw[kU o.2.2.2.2.2.1]
 rw[eA,eA,eA,yY,vq,yX,eA,eA,eA,eA,eA]
 congr 1
 rw[Bool.eq_iff_iff,decide_eq_true_iff]
 unfold qC sO
 simp only[Bool.and_eq_true,Bool.or_eq_true,Bool.not_eq_true',decide_eq_true_eq,decide_eq_false_iff_not]
 omega
end VM
end
section
namespace VM
open Go VM.F
theorem Bn(N:Nat)(p:Int):F85 N p=some (decide (1≤p∧p≤1000000000000)):=by
 unfold F85
 rw[kU p,eA];congr 1
 rw[Bool.eq_iff_iff];simp only[Bool.and_eq_true,decide_eq_true_eq]
theorem iO(N:Nat)(p:Int):xh N p=some (decide (1≤p∧p≤1000000000000)):=Bn N p
theorem xQ(N:Nat)(o:fJ):Ih N o=some (decide (qC o)):=by
 unfold Ih
 rw[iO,Option.bind_some]
 repeat (first|rw[eA]|rw[yX]|rw[yY]|rw[vq])
 congr 1
 rw[Bool.eq_iff_iff,decide_eq_true_iff]
 unfold qC sO
 simp only[Bool.and_eq_true,Bool.or_eq_true,Bool.not_eq_true',decide_eq_true_eq,decide_eq_false_iff_not]
 omega
def qD(i:Nat)(a b:Int):Prop:=0<i→a<b
instance(i:Nat)(a b:Int):Decidable (qD i a b):=by unfold qD;infer_instance
def o6(l:aW)(i:Nat):Prop:=qC (l.getD i eG)∧qD i (l.getD (i-1) eG).1 (l.getD i eG).1
instance(l:aW):DecidablePred (o6 l):=fun i=>by unfold o6;infer_instance
def jo(l:aW):Bool:=decide (∀j,j<l.length→o6 l j)&&decide (l.length≤32)
theorem Le(N:Nat){l:aW}(hl:l.length≤100000)(hN:200000≤N):xi N l=some (jo l):=by
 unfold xi xi.b
 refine fg (F:=fun n i=>xi.l2 N n l l (l.length:Int) i) (o6 l) (fun n i r hi hp hr=> ?_) (fun n=> ?_) N (by omega)
 ·unfold xi.l2 xi.ec
  rw[aD (by omega),cond_true,aF (by omega) (by omega),cond_true,Int.toNat_natCast,an (x:=(i:Int)+1) (by omega) (by omega),aa,YH,Option.bind_some,cond_not,ew]
  by_cases hK:qC (l.getD i eG)
  ·rw[if_pos hK]
   by_cases h0:0<i
   ·have e:W .i64 ((i:Int)-1)=((i-1:Nat):Int):=by rw[an (by omega) (by omega)];omega
    dsimp only
    rw[aD (x:=0) (by omega),cond_true,e,Int.toNat_natCast,aF (by omega) (by omega),cond_true,bM]
    by_cases hP:o6 l i
    ·rw[if_pos hP,if_neg (by have h2:=hP.2;unfold qD at h2;omega)];exact hr
    ·rw[if_neg hP,if_pos]
     have h2: ¬qD i (l.getD (i-1) eG).1 (l.getD i eG).1:=fun h=>hP ⟨hK,h⟩
     unfold qD at h2
     omega
   ·rw[ax (x:=0) (by omega),cond_false,if_pos ⟨hK,fun h=>absurd h h0⟩];exact hr
  ·rw[if_neg hK,if_neg (fun h=>hK h.1)]
 ·unfold xi.l2 xi.ec
  rw[ax (by omega),cond_false,kU]
  congr 1;rw[decide_eq_decide];omega
theorem mG(N:Nat){l:aW}(hl:l.length≤100000)(hN:200000≤N):iY N l=some (jo l):=by
 unfold iY iY.b
 by_cases h32:32<l.length
 ·rw[aD (by omega),cond_true];unfold jo
  rw[decide_eq_false (p:=l.length≤32) (by omega),Bool.and_false]
 rw[ax (by omega),cond_false]
 have:=fg (F:=fun n i=>iY.l4 N n l i) (e:=true) (o6 l) (fun n i r hi hp hr=> ?_) (fun n=> ?_) N (show l.length<N by omega)
 ·refine Eq.trans this ?_
  unfold jo
  rw[decide_eq_true (p:=l.length≤32) (by omega)]
 ·unfold iY.l4 iY.cj
  rw[aD (by omega),cond_true,aF (by omega) (by omega),cond_true,Int.toNat_natCast,an (x:=(i:Int)+1) (by omega) (by omega),aa,xQ,Option.bind_some,cond_not,ew]
  by_cases hK:qC (l.getD i eG)
  ·rw[if_pos hK]
   by_cases h0:0<i
   ·have e:W .i64 ((i:Int)-1)=((i-1:Nat):Int):=by rw[an (by omega) (by omega)];omega
    dsimp only
    rw[aD (x:=0) (by omega),cond_true,cond_true,e,Int.toNat_natCast,aF (by omega) (by omega),cond_true,bM]
    by_cases hP:o6 l i
    ·rw[if_pos hP,if_neg (by have h2:=hP.2;unfold qD at h2;omega)];exact hr
    ·rw[if_neg hP,if_pos]
     have h2: ¬qD i (l.getD (i-1) eG).1 (l.getD i eG).1:=fun h=>hP ⟨hK,h⟩
     unfold qD at h2
     omega
   ·rw[ax (x:=0) (by omega),cond_false,if_pos ⟨hK,fun h=>absurd h h0⟩];exact hr
  ·rw[if_neg hK,if_neg (fun h=>hK h.1)]
 ·unfold iY.l4 iY.cj
  rw[ax (by omega),cond_false]
end VM
end
section
namespace VM
open Go VM.F
def gC(id:Int):av→Int
 |[]=>0
 |x::t=>if x.1=id then x.2.1 else gC id t
def tZ(id:Int):aE→bS×Bool
 |[]=>(aS,false)
 |x::t=>if x.1=id then(x,true)else tZ id t
def o7(id:Int):aE→Int
 |[]=>0
 |x::t=>if x.2.1=id then(if x.2.2.1=1 then x.1 else o7 id t)else o7 id t
theorem ua(id:Int)(x:NL)(t:av):gC id (x::t)=if x.1=id then x.2.1 else gC id t:=rfl
theorem sP(id:Int)(x:bS)(t:aE):tZ id (x::t)=if x.1=id then(x,true)else tZ id t:=rfl
theorem wB(id:Int)(x:bS)(t:aE):o7 id (x::t)=if x.2.1=id then(if x.2.2.1=1 then x.1 else o7 id t)else o7 id t:=rfl
theorem E2(N:Nat){m:av}(hl:m.length≤100000)(hN:200000≤N)(id:Int):uU.l4 N N id m (m.length:Int) 0=some (gC id m):=by
 refine tX m ca (fun n i=>uU.l4 N n id m (m.length:Int) i) (fun l=>some (gC id l)) (fun n i hi hr=> ?_) (fun n=> ?_) N (by omega)
 ·unfold uU.l4 uU.cj
  rw[aD (by omega),cond_true,aF (by omega) (by omega),cond_true,Int.toNat_natCast,an (x:=(i:Int)+1) (by omega) (by omega),aa,hr,az]
  rw[ua]
  split<;>rfl
 ·unfold uU.l4 uU.cj
  rw[ax (by omega),cond_false];rfl
theorem jX(N:Nat){m:av}(hl:m.length≤100000)(hN:200000≤N)(id:Int):iZ N m id=some (gC id m):=by
 unfold iZ iZ.b
 refine tX m ca (fun n i=>iZ.l2 N n m id i) (fun l=>some (gC id l)) (fun n i hi hr=> ?_) (fun n=> ?_) N (by omega)
 ·unfold iZ.l2 iZ.ec
  rw[aD (by omega),cond_true,aF (by omega) (by omega),cond_true,cond_true,Int.toNat_natCast,an (x:=(i:Int)+1) (by omega) (by omega),aa,hr,az]
  rw[ua]
  split<;>rfl
 ·unfold iZ.l2 iZ.ec
  rw[ax (by omega),cond_false];rfl
def mH(m:av)(id:Int):Int:=if iM m then gC id m else 0
theorem Bo(N:Nat){m:av}(hl:m.length≤100000)(hN:200000≤N)(id:Int):uU N m id=some (mH m id):=by
 unfold uU uU.b mH
 rw[yU N hl hN,Option.bind_some,cond_not,E2 N hl hN]
 cases iM m<;>rfl
theorem yZ(N:Nat){m:av}(hl:m.length≤100000)(hN:200000≤N)(id:Int):ub N m id=some (mH m id):=by
 unfold ub mH
 rw[nL N hl hN,Option.bind_some,cond_not,jX N hl hN]
 cases iM m<;>rfl
theorem Lf(N:Nat){m:aE}(hl:m.length≤100000)(hN:200000≤N)(id:Int):kE.l4 N N id aS m (m.length:Int) 0=some (tZ id m):=by
 refine tX m aS (fun n i=>kE.l4 N n id aS m (m.length:Int) i) (fun l=>some (tZ id l)) (fun n i hi hr=> ?_) (fun n=> ?_) N (by omega)
 ·unfold kE.l4 kE.cj
  rw[aD (by omega),cond_true,aF (by omega) (by omega),cond_true,Int.toNat_natCast,an (x:=(i:Int)+1) (by omega) (by omega),aa,hr,az]
  rw[sP]
  split<;>rfl
 ·unfold kE.l4 kE.cj
  rw[ax (by omega),cond_false];rfl
theorem uc(N:Nat){m:aE}(hl:m.length≤100000)(hN:200000≤N)(id:Int):jI N m id=some (tZ id m):=by
 unfold jI jI.b
 refine tX m aS (fun n i=>jI.l2 N n m id aS i) (fun l=>some (tZ id l)) (fun n i hi hr=> ?_) (fun n=> ?_) N (by omega)
 ·unfold jI.l2 jI.ec
  rw[aD (by omega),cond_true,aF (by omega) (by omega),cond_true,cond_true,Int.toNat_natCast,an (x:=(i:Int)+1) (by omega) (by omega),aa,hr,az]
  rw[sP]
  split<;>rfl
 ·unfold jI.l2 jI.ec
  rw[ax (by omega),cond_false];rfl
theorem E3(N:Nat){m:aE}(hl:m.length≤100000)(hN:200000≤N)(id:Int):sQ.l4 N N m id 0=some (o7 id m):=by
 refine tX m aS (fun n i=>sQ.l4 N n m id i) (fun l=>some (o7 id l)) (fun n i hi hr=> ?_) (fun n=> ?_) N (by omega)
 ·unfold sQ.l4 sQ.cj
  rw[aD (by omega),cond_true,aF (by omega) (by omega)]
  simp only[cond_true]
  rw[Int.toNat_natCast,an (x:=(i:Int)+1) (by omega) (by omega),aa,hr,az,az]
  rw[wB]
  split
  ·split<;>rfl
  ·rfl
 ·unfold sQ.l4 sQ.cj
  rw[ax (by omega),cond_false];rfl
end VM
end
section
namespace VM
open Go VM.F
def eB(a b:Int):Prop:=a=b
instance(a b:Int):Decidable (eB a b):=by unfold eB;infer_instance
def sk(l:aE)(k:Nat)(m:Int):Prop:=eB (l.getD k aS).2.2.1 1∧eB (l.getD k aS).2.1 m
instance(l:aE)(k:Nat)(m:Int):Decidable (sk l k m):=by unfold sk;infer_instance
def ir(l:aE)(i:Nat)(m:Int):Bool:=(List.range i).any fun k=>decide (sk l k m)
theorem E4{l:aE}{i:Nat}{m:Int}:ir l i m=true↔ ∃k,k<i∧sk l k m:=by
 unfold ir
 rw[List.any_eq_true]
 simp only[List.mem_range,decide_eq_true_iff]
theorem o8(l:aE)(i:Nat)(m:Int):ir l (i+1) m=(ir l i m||decide (sk l i m)):=by
 unfold ir
 rw[List.range_succ,List.any_append];simp
def jq(a b c d:Int):Prop:=(1≤a∧a≤24)∧(1≤b∧b≤12)∧(c=1∨c=2)∧(0≤d∧d≤1000000000000)
instance(a b c d:Int):Decidable (jq a b c d):=by unfold jq;infer_instance
def gh(l:aE)(i:Nat):Prop:= ¬(eB (l.getD i aS).2.2.1 1∧ir l i (l.getD i aS).2.1=true)
instance(l:aE)(i:Nat):Decidable (gh l i):=by unfold gh;infer_instance
def ud(l:aE)(i:Nat):Prop:=jq (l.getD i aS).1 (l.getD i aS).2.1 (l.getD i aS).2.2.1 (l.getD i aS).2.2.2.1∧qD i (l.getD (i-1) aS).1 (l.getD i aS).1∧gh l i
instance(l:aE):DecidablePred (ud l):=fun i=>by unfold ud;infer_instance
def k4(l:aE):Bool:=decide (∀j,j<l.length→ud l j)&&true
def dh(l:aE)(i:Nat):List Bool:=(List.range 13).map fun(m:Nat)=>ir l i (m:Int)
theorem Lg{l:aE}{i:Nat}{b:Int}(h0:0≤b)(h1:b<13):(dh l i).getD b.toNat false=ir l i b:=by
 unfold dh
 rw[List.getD_eq_getElem?_getD,List.getElem?_map,List.getElem?_range (by omega)]
 show ir l i ((b.toNat:Nat):Int)=_
 rw[Int.toNat_of_nonneg h0]
theorem E5{l:aE}{i:Nat}(h: ¬eB (l.getD i aS).2.2.1 1):dh l (i+1)=dh l i:=by
 unfold dh
 refine List.map_congr_left fun m _=> ?_
 rw[o8,decide_eq_false (fun h'=>h h'.1),Bool.or_false]
theorem Ii{l:aE}{i:Nat}(h:eB (l.getD i aS).2.2.1 1)(h0:(0:Int)≤(l.getD i aS).2.1):(dh l i).set ((l.getD i aS).2.1:Int).toNat true=dh l (i+1):=by
 refine List.ext_getElem (by unfold dh;simp) fun k h1 h2=> ?_
 unfold dh at*
 rw[List.getElem_set]
 simp only[List.getElem_map,List.getElem_range]
 rw[o8]
 by_cases hk:((l.getD i aS).2.1:Int).toNat=k
 ·rw[if_pos hk,decide_eq_true (show sk l i (k:Int)from⟨h,by unfold eB;omega⟩),Bool.or_true]
 ·rw[if_neg hk,decide_eq_false (fun h':sk l i (k:Int)=>hk (by have:=h'.2;unfold eB at this;omega)),Bool.or_false]
theorem JV(N:Nat){l:aE}(hl:l.length≤100000)(hN:200000≤N):ja N l=some (k4 l):=by
 unfold ja ja.b
 have h0:(List.replicate 13 false:List Bool)=dh l 0:=by unfold dh ir;rfl
 rw[h0]
 have:=fg (F:=fun n i=>ja.l3 N n l (dh l i.toNat) l (l.length:Int) i) (e:=true) (ud l) (fun n i r hi hp hr=> ?_) (fun n=> ?_) N (show l.length<N by omega)
 ·exact this
 ·simp only[Int.toNat_natCast]at hr ⊢
  unfold ja.l3 ja.gZ
  rw[aD (by omega),cond_true,aF (by omega) (by omega),cond_true]
  simp only[Int.toNat_natCast]
  rw[an (x:=(i:Int)+1) (by omega) (by omega),aa]
  by_cases hF:jq (l.getD i aS).1 (l.getD i aS).2.1 (l.getD i aS).2.2.1 (l.getD i aS).2.2.2.1
  ·have JW:=hF
   unfold jq at JW
   have hT:cond (ay (l.getD i aS).2.2.1 1) (cond (aI (l.getD i aS).2.1 13) (cond (List.getD (dh l i) (l.getD i aS).2.1.toNat false) (some false) (cond (aI (l.getD i aS).2.1 13) (ja.l3 N n l (List.set (dh l i) (l.getD i aS).2.1.toNat true) l (l.length:Int) ((i+1:Nat):Int)) none)) none) (ja.l3 N n l (dh l i) l (l.length:Int) ((i+1:Nat):Int))=if gh l i then r else some false:=by
    rw[az]
    by_cases hk:eB (l.getD i aS).2.2.1 1
    ·have Al:=hk
     unfold eB at Al
     rw[if_pos Al,aF (by omega) (by omega),cond_true,cond_true,Lg (by omega) (by omega),Ii hk (by omega),hr]
     by_cases ho:ir l i (l.getD i aS).2.1=true
     ·have pZ: ¬gh l i:=fun h=>h ⟨hk,ho⟩
      rw[if_neg pZ,ho];rfl
     ·have pZ:gh l i:=fun h=>ho h.2
      rw[if_pos pZ,Bool.eq_false_iff.2 ho];rfl
    ·have Al:=hk
     unfold eB at Al
     rw[if_neg Al,if_pos (show gh l i from fun h=>hk h.1),←E5 hk,hr]
   have hP:ud l i↔qD i (l.getD (i-1) aS).1 (l.getD i aS).1∧gh l i:=⟨fun h=>h.2,fun h=>⟨hF,h⟩⟩
   have hD:(if ud l i then r else some false)=if qD i (l.getD (i-1) aS).1 (l.getD i aS).1 then(if gh l i then r else some false)else some false:=by
    by_cases h1:qD i (l.getD (i-1) aS).1 (l.getD i aS).1<;>by_cases h2:gh l i<;>simp[hP,h1,h2]
   rw[hD]
   rw[hT]
   rw[ax (by omega),cond_false,ax (by omega),cond_false,ax (by omega),cond_false,ax (by omega),cond_false,ax (x:=(l.getD i aS).2.2.2.1) (by omega),ax (x:=1000000000000) (by omega)]
   simp only[cond_false]
   have hm: ∀{α:Type} (x:α) (y:α),cond (!ay (l.getD i aS).2.2.1 1) (cond (!ay (l.getD i aS).2.2.1 2) y x) x=x:=by
    intro α x y
    rcases JW.2.2.1 with h|h
    ·rw[ch h];rfl
    ·rw[ch (y:=2) h];cases ay (l.getD i aS).2.2.1 1<;>rfl
   rw[hm]
   by_cases h0:0<i
   ·have e:W .i64 ((i:Int)-1)=((i-1:Nat):Int):=by rw[an (by omega) (by omega)];omega
    rw[aD (x:=0) (by omega),cond_true,e,Int.toNat_natCast,aF (by omega) (by omega),cond_true,bM]
    by_cases h1:qD i (l.getD (i-1) aS).1 (l.getD i aS).1
    ·rw[if_pos h1,if_neg (by unfold qD at h1;omega)]
    ·rw[if_neg h1,if_pos (by unfold qD at h1;omega)]
   ·rw[ax (x:=0) (by omega),cond_false,if_pos (show qD i (l.getD (i-1) aS).1 (l.getD i aS).1 from fun h=>absurd h h0)]
  ·rw[if_neg (fun h=>hF h.1)]
   unfold jq at hF
   generalize cond (ay (l.getD i aS).2.2.1 1) (cond (aI (l.getD i aS).2.1 13) (cond (List.getD (dh l i) (l.getD i aS).2.1.toNat false) (some false) (cond (aI (l.getD i aS).2.1 13) (ja.l3 N n l (List.set (dh l i) (l.getD i aS).2.1.toNat true) l (l.length:Int) ((i+1:Nat):Int)) none)) none) (ja.l3 N n l (dh l i) l (l.length:Int) ((i+1:Nat):Int))=t
   generalize cond (aG 0 (i:Int)) _ _=u
   simp only[cond_not,bL,az]
   repeat' split
   all_goals first|rfl|omega
 ·unfold ja.l3 ja.gZ
  rw[ax (by omega),cond_false]
end VM
end
section
namespace VM
open Go VM.F
theorem vr(N:Nat)(K:aE→Int→Option Bool){l:aE}(hl:l.length≤100000){i:Nat}(hi:i<l.length): ∀(m n k:Nat),i-k≤m→m<n→k≤i→(eB (l.getD i aS).2.2.1 1→ir l k (l.getD i aS).2.1=false)→
  iu.l8 N K n l (i:Int) (l.getD i aS) (k:Int)=if gh l i then K l ((i+1:Nat):Int)else some false
 |m,0,k,_,hn,_,_=>by omega
 |m,n+1,k,hm,hn,hk,h=>by
  unfold iu.l8 iu.xR
  by_cases xK:k<i
  ·rw[aD (by omega),cond_true,aF (by omega) (by omega),cond_true,cond_true,Int.toNat_natCast,an (x:=(k:Int)+1) (by omega) (by omega),aa,az,az,az]
   by_cases h1:eB (l.getD i aS).2.2.1 1
   ·have lB:=h1
    unfold eB at lB
    rw[if_pos lB]
    by_cases h2:sk l k (l.getD i aS).2.1
    ·have sj:=h2
     unfold sk eB at sj
     have pZ: ¬gh l i:=fun h3=>h3 ⟨h1,E4.2 ⟨k,xK,h2⟩⟩
     rw[if_pos sj.1,if_pos sj.2,if_neg pZ]
    ·have sN:=vr N K hl hi (m-1) n (k+1) (by omega) (by omega) (by omega) (fun _=>by rw[o8,h h1,decide_eq_false h2];rfl)
     split
     ·split
      ·rename_i h3 h4
       exact absurd (show sk l k (l.getD i aS).2.1 from⟨h3,h4⟩) h2
      ·exact sN
     ·exact sN
   ·have lB:=h1
    unfold eB at lB
    rw[if_neg lB]
    exact vr N K hl hi (m-1) n (k+1) (by omega) (by omega) (by omega) (fun h=>absurd h h1)
  ·have:k=i:=by omega
   subst this
   have pZ:gh l k:=fun h3=>by rw[h h3.1]at h3;exact nomatch h3.2
   rw[ax (by omega),cond_false,if_pos pZ,an (x:=(k:Int)+1) (by omega) (by omega)];rfl
set_option maxHeartbeats 2000000 in
theorem ue(N:Nat){l:aE}(hl:l.length≤100000)(hN:200000≤N):iu N l=some (k4 l):=by
 unfold iu iu.b
 refine fg (F:=fun n i=>iu.l2 N n l i) (ud l) (fun n i r hi hp hr=> ?_) (fun n=> ?_) N (by omega)
 ·unfold iu.l2 iu.ec
  have hT:iu.j7 N (iu.l2 N n) l (i:Int) (l.getD i aS)=if gh l i then r else some false:=by
   unfold iu.j7 iu.H4
   have:=vr N (iu.l2 N n) hl hi i N 0 (by omega) (by omega) (by omega) (fun _=>rfl)
   rw[hr]at this
   exact this
  rw[aD (by omega),cond_true,aF (by omega) (by omega),cond_true]
  simp only[Int.toNat_natCast]
  rw[hT]
  have hD:(if ud l i then r else some false)=if jq (l.getD i aS).1 (l.getD i aS).2.1 (l.getD i aS).2.2.1 (l.getD i aS).2.2.2.1∧qD i (l.getD (i-1) aS).1 (l.getD i aS).1 then(if gh l i then r else some false)else some false:=by
   unfold ud
   by_cases h1:qD i (l.getD (i-1) aS).1 (l.getD i aS).1<;>by_cases h2:gh l i<;>by_cases h3:jq (l.getD i aS).1 (l.getD i aS).2.1 (l.getD i aS).2.2.1 (l.getD i aS).2.2.2.1<;>simp[h1,h2,h3]
  rw[hD]
  generalize (if gh l i then r else some false)=t
  by_cases h0:0<i
  ·have e:W .i64 ((i:Int)-1)=((i-1:Nat):Int):=by rw[an (by omega) (by omega)];omega
   rw[aD (x:=0) (y:=(i:Int)) (by omega),e]
   simp only[cond_true,Int.toNat_natCast]
   rw[aF (i:=((i-1:Nat):Int)) (by omega) (by omega)]
   simp only[cond_not,bL,bM,az,cond_true]
   by_cases hP:jq (l.getD i aS).1 (l.getD i aS).2.1 (l.getD i aS).2.2.1 (l.getD i aS).2.2.2.1∧qD i (l.getD (i-1) aS).1 (l.getD i aS).1
   ·rw[if_pos hP];unfold jq qD at hP
    repeat' split
    all_goals first|rfl|omega
   ·rw[if_neg hP];unfold jq qD at hP
    repeat' split
    all_goals first|rfl|omega
  ·rw[ax (x:=0) (y:=(i:Int)) (by omega)]
   simp only[cond_not,bL,bM,az,cond_true,cond_false]
   by_cases hP:jq (l.getD i aS).1 (l.getD i aS).2.1 (l.getD i aS).2.2.1 (l.getD i aS).2.2.2.1∧qD i (l.getD (i-1) aS).1 (l.getD i aS).1
   ·rw[if_pos hP];unfold jq qD at hP
    repeat' split
    all_goals first|rfl|omega
   ·rw[if_neg hP];unfold jq qD at hP
    repeat' split
    all_goals first|rfl|omega
 ·unfold iu.l2 iu.ec
  rw[ax (by omega),cond_false]
end VM
end
section
namespace VM
open Go VM.F
def jr(a:aE)(id:Int):bS×Bool:=if k4 a then tZ id a else(aS,false)
theorem Q9(N:Nat){a:aE}(hl:a.length≤100000)(hN:200000≤N)(id:Int):kE N a id=some (jr a id):=by
 unfold kE kE.b jr
 rw[JV N hl hN,Option.bind_some,cond_not,Lf N hl hN]
 cases k4 a<;>rfl
theorem E6(N:Nat){a:aE}(hl:a.length≤100000)(hN:200000≤N)(id:Int):y3 N a id=some (jr a id):=by
 unfold y3 jr
 rw[ue N hl hN,Option.bind_some,cond_not,uc N hl hN]
 cases k4 a<;>rfl
def CN(a:aE)(id:Int):Int:=if k4 a then o7 id a else 0
theorem Bp(N:Nat){a:aE}(hl:a.length≤100000)(hN:200000≤N)(id:Int):sQ N a id=some (CN a id):=by
 unfold sQ sQ.b CN
 rw[ue N hl hN,Option.bind_some,cond_not,E3 N hl hN]
 cases k4 a<;>rfl
def gD(m:av)(a:aE)(i:Nat):Prop:= ¬eB (gC (a.getD i aS).2.1 m) 0
instance(m:av)(a:aE):DecidablePred (gD m a):=fun i=>by unfold gD;infer_instance
def qE(m:av)(a:aE):Bool:=iM m&&(k4 a&&(decide (∀j,j<a.length→gD m a j)&&true))
theorem Ra(N:Nat){m:av}{a:aE}(hm:m.length≤100000)(hl:a.length≤100000)(hN:200000≤N):xj N m a=some (qE m a):=by
 unfold xj xj.b qE
 rw[yU N hm hN,Option.bind_some,cond_not,JV N hl hN,Option.bind_some,cond_not]
 cases hM:iM m
 ·rfl
 cases k4 a
 ·rfl
 rw[Bool.true_and,Bool.true_and,cond_true,cond_true]
 refine fg (F:=fun n i=>xj.l4 N n m a (a.length:Int) i) (gD m a) (fun n i r hi hp hr=> ?_) (fun n=> ?_) N (by omega)
 ·unfold xj.l4 xj.cj
  rw[aD (by omega),cond_true,aF (by omega) (by omega),cond_true,Int.toNat_natCast,an (x:=(i:Int)+1) (by omega) (by omega),aa,Bo N hm hN,Option.bind_some,az]
  unfold mH
  rw[hM,if_pos rfl]
  by_cases hP:gD m a i
  ·rw[if_pos hP,if_neg (show ¬((gC (a.getD i aS).2.1 m:Int)=0)from fun h=>hP h)];exact hr
  ·rw[if_neg hP,if_pos (show(gC (a.getD i aS).2.1 m:Int)=0 by unfold gD at hP;exact Decidable.not_not.1 hP)]
 ·unfold xj.l4 xj.cj
  rw[ax (by omega),cond_false]
theorem y4(N:Nat){m:av}{a:aE}(hm:m.length≤100000)(hl:a.length≤100000)(hN:200000≤N):jY N m a=some (qE m a):=by
 unfold jY jY.b qE
 rw[nL N hm hN,Option.bind_some,cond_not,ue N hl hN,Option.bind_some,cond_not]
 cases hM:iM m
 ·rfl
 cases k4 a
 ·rfl
 rw[Bool.true_and,Bool.true_and,cond_true,cond_true]
 refine fg (F:=fun n i=>jY.l4 N n m a i) (gD m a) (fun n i r hi hp hr=> ?_) (fun n=> ?_) N (by omega)
 ·unfold jY.l4 jY.cj
  rw[aD (by omega),cond_true,aF (by omega) (by omega),cond_true,Int.toNat_natCast,an (x:=(i:Int)+1) (by omega) (by omega),aa,jX N hm hN,Option.bind_some,az]
  by_cases hP:gD m a i
  ·rw[if_pos hP,if_neg (show ¬((gC (a.getD i aS).2.1 m:Int)=0)from fun h=>hP h)];exact hr
  ·rw[if_neg hP,if_pos (show(gC (a.getD i aS).2.1 m:Int)=0 by unfold gD at hP;exact Decidable.not_not.1 hP)]
 ·unfold jY.l4 jY.cj
  rw[ax (by omega),cond_false]
end VM
end
