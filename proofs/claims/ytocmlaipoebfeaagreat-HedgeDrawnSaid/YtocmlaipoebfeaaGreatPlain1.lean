/- A part of the proof of HedgeDrawn of layer 22: what the functions compute, in plain words. -/
import Derived.Test.YtocmlaipoebfeaaGreatPlain0
import Derived.Test.YtocmlaipoebfeaaGreatText
set_option linter.all false
section
namespace VM
open Go VM.F
theorem Ug{x:Int}(h0:0≤x)(h1:x<18446744073709551616):jC .and .u64 x 1=x%2:=by
 rw[G7 h0 h1 (by omega) (by omega)]
 have:=Nat.and_two_pow_sub_one_eq_mod x.toNat 1
 rw[show((1:Int).toNat)=2^1-1 from rfl,this]
 omega
theorem Cm{l:List Int}{k:Nat}(x:Int)(h:k<l.length):b9 ((l.set k x).drop k)=x+4294967296*b9 (l.drop (k+1)):=by
 rw[gX,jo l x h,List.drop_set_of_lt (by omega)]
theorem C5(N:Nat){d:List Int}(hd:VD d)(hl:d.length≤100000)(hN:4000000≤N): ∀(k n:Nat) (out:List Int) (c:Int),k≤d.length→k<n→VD out→out.length=d.length→c=b9 (d.drop k)%2→b9 (out.drop k)=b9 (d.drop k)/2→
  mu.l4 N n d out c ((k:Int)-1)=some (iy (b9 d/2).toNat,b9 d%2)
 |k,0,out,c,_,hn,_,_,_,_=>by omega
 |0,n+1,out,c,_,_,ho,tY,hc,hv=>by
  unfold mu.l4 mu.cA
  simp (disch:=omega) only[aD,ax,cS,cL,cM,cG,aF,aZ,bG,cE,al,bD,cond_true,cond_false,Bool.not_true,Bool.not_false,Option.bind_some,Int.toNat_natCast,Int.toNat_zero,ae,List.length_append,List.length_singleton,List.length_set,List.length_replicate,List.length_cons,List.length_nil,EL N ho (by omega) (by omega)]
  rw[List.drop_zero,List.drop_zero]at hv
  rw[List.drop_zero]at hc
  rw[hv,hc]
 |k+1,n+1,out,c,hk,hn,ho,tY,hc,hv=>by
  unfold mu.l4 mu.cA
  have e:((k+1:Nat):Int)-1=(k:Int):=by omega
  obtain⟨g0,g1⟩:=hd.getD k
  have hn0:=gG (hd.drop (k+1))
  have e1:=gX d k
  simp only[e,Int.toNat_natCast]
  rw[Z9 (by omega)]
  generalize hx:d.getD k 0=x at*
  rw[bD (x:=c*4294967296) (by omega) (by omega),Oa g0 g1 (by omega) (by omega)]
  simp (disch:=omega) only[aD,ax,cS,cL,cM,cG,aF,aZ,bG,cE,al,bD,cond_true,cond_false,Bool.not_true,Bool.not_false,Option.bind_some,Int.toNat_natCast,Int.toNat_zero,ae,List.length_append,List.length_singleton,List.length_set,List.length_replicate,List.length_cons,List.length_nil,anD,Ug]
  refine C5 N hd hl hN k n (out.set k ((x+c*4294967296)/2)) ((x+c*4294967296)%2) (by omega) (by omega) (ho.set _ (by omega) (by omega)) (by rw[List.length_set];exact tY) (by rw[e1,hc];omega) ?_
  rw[Cm _ (by omega),hv,e1]
  omega
theorem Uh(N:Nat)(hN:4000000≤N)(m:Nat)(h:(iy m).length≤100000):mu N (iy m)=some (iy (m/2),((m%2:Nat):Int)):=by
 unfold mu mu.b
 simp (disch:=omega) only[aD,ax,cS,cL,cM,cG,aF,aZ,bG,cE,al,bD,cond_true,cond_false,Bool.not_true,Bool.not_false,Option.bind_some,Int.toNat_natCast,Int.toNat_zero,ae,List.length_append,List.length_singleton,List.length_set,List.length_replicate,List.length_cons,List.length_nil]
 have:=C5 N (gd m) h hN (iy m).length N (List.replicate (iy m).length 0) 0 (Nat.le_refl _) (by omega) (VD.Z8 _) (by simp) (by rw[List.drop_length];rfl) (by rw[List.drop_length,List.drop_of_length_le (by simp)];rfl)
 rw[eF]at this
 rw[this]
 congr 2
def bin(n:Nat):List Int:=if n=0 then []else((n%2:Nat):Int)::bin (n/2)
termination_by n
decreasing_by omega
theorem zp{n:Nat}(h:n≠0):bin n=((n%2:Nat):Int)::bin (n/2):=by rw[bin];simp[h]
theorem sb:bin 0=[]:=by rw[bin];rfl
def vt:List Int→Int
 |[]=>0
 |d::r=>d+2*vt r
theorem Ui(n:Nat):vt (bin n)=n:=by
 induction n using Nat.strongRecOn with
 |_ n ih=>
  by_cases h:n=0
  ·subst h;rw[sb];rfl
  ·rw[zp h,vt,ih _ (by omega)];omega
theorem Uj(n:Nat): ∀d∈bin n,d=0∨d=1:=by
 induction n using Nat.strongRecOn with
 |_ n ih=>
  by_cases h:n=0
  ·subst h;rw[sb];intro d hd;cases hd
  ·rw[zp h];intro d hd
   rcases List.mem_cons.1 hd with rfl|hd
   ·omega
   ·exact ih _ (by omega) d hd
theorem Uk(k:Nat): ∀n,n<2^k→(bin n).length≤k:=by
 induction k with
 |zero=>
  intro n h;have:n=0:=by simpa using h
  subst this;rw[sb];simp
 |succ k ih=>
  intro n h
  by_cases hn:n=0
  ·subst hn;rw[sb];simp
  ·rw[zp hn,List.length_cons]
   have:=ih (n/2) (by rw[Nat.pow_succ]at h;omega)
   omega
theorem QL{n k:Nat}(h:n<4294967296^k):(bin n).length≤32*k:=Uk _ _ (Nat.lt_of_lt_of_le h (by rw[Nat.pow_mul];exact Nat.le_refl _))
theorem C6(N:Nat)(hN:4000000≤N)(x2 x3 x4 x5:aw): ∀(m n:Nat) (t:Nat) (bits:List Int),(bin t).length≤m→m<n→(iy t).length≤100000→bits.length+(bin t).length≤4000000→
  fg.l3 N n x2 x3 x4 x5 bits (iy t)=fg.l9 N N x2 x3 x4 x5 (bits++bin t) (false,([],())) (false,([],())) (((bits++bin t).length:Int)-1)
 |m,0,t,bits,_,hn,_,_=>by omega
 |m,n+1,t,bits,hm,hn,hd,hb=>by
  unfold fg.l3 fg.jP
  by_cases ht:t=0
  ·subst ht
   rw[gF,sb]
   simp (disch:=omega) only[aD,ax,cS,cL,cM,cG,aF,aZ,bG,cE,al,bD,cond_true,cond_false,Bool.not_true,Bool.not_false,Option.bind_some,Int.toNat_natCast,Int.toNat_zero,ae,List.length_append,List.length_singleton,List.length_set,List.length_replicate,List.length_cons,List.length_nil,List.append_nil]
  ·have Ko:0<(iy t).length:=by
    apply List.length_pos_iff.2
    intro h;rw[vo]at h;omega
   rw[zp ht]at hm hb ⊢
   rw[List.length_cons]at hm hb
   have hdl:(iy (t/2)).length≤100000:=by
    have:=EK _ t hd
    exact qk _ _ (Nat.lt_of_le_of_lt (Nat.div_le_self _ _) this)
   simp (disch:=omega) only[aD,ax,cS,cL,cM,cG,aF,aZ,bG,cE,al,bD,cond_true,cond_false,Bool.not_true,Bool.not_false,Option.bind_some,Int.toNat_natCast,Int.toNat_zero,ae,List.length_append,List.length_singleton,List.length_set,List.length_replicate,List.length_cons,List.length_nil,Uh N hN t hd]
   rw[C6 N hN x2 x3 x4 x5 (m-1) n (t/2) (bits++[((t%2:Nat):Int)]) (by omega) (by omega) hdl (by simp;omega)]
   simp
theorem Ob(l:List Int){i:Nat}(h:i<l.length):vt (l.drop i)=l.getD i 0+2*vt (l.drop (i+1)):=by
 rw[List.drop_eq_getElem_cons h,vt,List.getD_eq_getElem?_getD,List.getElem?_eq_getElem h];rfl
theorem xT: ∀{l:List Int},(∀d∈l,d=0∨d=1)→0≤vt l
 |[],_=>Int.le_refl _
 |d::r,h=>by
  have h1:=xT (l:=r) fun x hx=>h x (List.mem_cons_of_mem _ hx)
  have:=h d (List.mem_cons_self ..)
  simp only[vt];omega
theorem qo: ∀(l:List Int) (i:Nat),(∀d∈l,d=0∨d=1)→vt (l.drop i)≤vt l
 |l,0,_=>Int.le_refl _
 |[],i+1,_=>Int.le_refl _
 |d::r,i+1,h=>by
  have h1:=qo r i fun x hx=>h x (List.mem_cons_of_mem _ hx)
  have h2:=xT (l:=r) fun x hx=>h x (List.mem_cons_of_mem _ hx)
  have:=h d (List.mem_cons_self ..)
  rw[List.drop_succ_cons,vt];omega
theorem pM(N:Nat)(hN:4000000≤N)(a d:Int)(hd:0<d)(Py:Fit a 80000)(Oc:Fit d 80000)(x4 x5:aw){bits:List Int}(hb: ∀x∈bits,x=0∨x=1)(hbv:vt bits=a.natAbs)(tA:bits.length≤4000000):
  ∀(k n:Nat) (q r:Int),k≤bits.length→k<n→0≤q→0≤r→r<d→vt (bits.drop k)=q*d+r→
  fg.l9 N n (bn a) (bn d) x4 x5 bits (bn q) (bn r) ((k:Int)-1)=some (bn (a/d),bn (a%d))
 |k,0,q,r,_,hn,_,_,_,_=>by omega
 |0,n+1,q,r,_,_,hq,hr,ic,hv=>by
  unfold fg.l9 fg.tG
  rw[List.drop_zero,hbv]at hv
  have hqa:q≤a.natAbs:=by
   have:q*1≤q*d:=Int.mul_le_mul_of_nonneg_left (by omega) hq
   omega
  have fq:Fit q 900000:=(Py.of_le (u:=q) (by omega)).mono (by omega)
  have fr:Fit r 900000:=(Oc.of_le (u:=r) (by omega)).mono (by omega)
  have f1:Fit 1 900000:=(Fit.i64 (v:=1) (by omega) (by omega)).mono (by omega)
  have fq':Fit (-q) 900000:=fq.neg
  have fd:Fit d 900000:=Oc.mono (by omega)
  rw[cL (by omega),cond_false]
  by_cases ha:a<0
  ·have ZY:(a.natAbs:Int)= -a:=by omega
   have e0:(bn a).1=true:=decide_eq_true ha
   simp only[e0,Bool.not_true,cond_false,mW,Option.bind_some]
   by_cases hr0:r=0
   ·subst hr0
    rw[cM (by unfold lL;simp),cond_true]
    simp only[pK N hN fq,Option.bind_some]
    have e1:a=d*(-q):=by rw[Int.mul_neg,Int.mul_comm];omega
    have e2:a/d= -q:=by rw[e1,Int.mul_ediv_cancel_left _ (by omega)]
    have e3:a%d=0:=by rw[e1,Int.mul_emod_right]
    rw[e2,e3]
   ·rw[cG (by unfold lL;rw[if_neg (by omega),if_pos (by omega)];omega),cond_false]
    simp (disch:=omega) only[pK N hN fq,cj N (by omega) (show-9223372036854775808≤(1:Int)by omega) (by omega),Option.bind_some,oS N hN fq' f1,oS N hN fd fr]
    have e1:a=(d-r)+d*(-q-1):=by rw[Int.mul_sub,Int.mul_neg,Int.mul_one,Int.mul_comm];omega
    have e2:a/d= -q-1:=by
     rw[e1,Int.add_mul_ediv_left _ _ (by omega),Int.ediv_eq_zero_of_lt (by omega) (by omega)];omega
    have e3:a%d=d-r:=by rw[e1,Int.add_mul_emod_self_left,Int.emod_eq_of_lt (by omega) (by omega)]
    rw[e2,e3]
  ·have ZY:(a.natAbs:Int)=a:=by omega
   have e0:(bn a).1=false:=decide_eq_false ha
   simp only[e0,Bool.not_false,cond_true]
   have e1:a=r+d*q:=by rw[Int.mul_comm];omega
   have e2:a/d=q:=by rw[e1,Int.add_mul_ediv_left _ _ (by omega),Int.ediv_eq_zero_of_lt hr ic];omega
   have e3:a%d=r:=by rw[e1,Int.add_mul_emod_self_left,Int.emod_eq_of_lt hr ic]
   rw[e2,e3]
 |k+1,n+1,q,r,hk,hn,hq,hr,ic,hv=>by
  unfold fg.l9 fg.tG
  have e:((k+1:Nat):Int)-1=(k:Int):=by omega
  have hle:=qo bits k hb
  have anO:=qo bits (k+1) hb
  rw[hbv]at hle anO
  have hqa:q≤a.natAbs:=by
   have:q*1≤q*d:=Int.mul_le_mul_of_nonneg_left (by omega) hq
   omega
  have fq:Fit q 80000:=Py.of_le (by omega)
  have fr:Fit r 80000:=Oc.of_le (by omega)
  have fqq:=fq.add fq
  have frr:=fr.add fr
  have f1:Fit 1 80000:=(Fit.i64 (v:=1) (by omega) (by omega)).mono (by omega)
  have hvk:=Ob bits (i:=k) (by omega)
  have yM:bits.getD k 0=0∨bits.getD k 0=1:=by
   rw[List.getD_eq_getElem?_getD,List.getElem?_eq_getElem (show k<bits.length by omega)]
   exact hb _ (List.getElem_mem _)
  rw[e,cS (by omega),cond_true]
  have e2q:(q+q)*d=2*(q*d):=by rw[←Int.two_mul,Int.mul_assoc]
  have ahM:(q+q+1)*d=2*(q*d)+d:=by rw[Int.add_mul,e2q,Int.one_mul]
  simp (disch:=omega) only[aD,ax,cS,cL,cM,cG,aF,aZ,bG,cE,al,bD,cond_true,cond_false,Bool.not_true,Bool.not_false,Option.bind_some,Int.toNat_natCast,Int.toNat_zero,ae,List.length_append,List.length_singleton,List.length_set,List.length_replicate,List.length_cons,List.length_nil,eG N hN (fq.mono (by omega)) (fq.mono (by omega)),eG N hN (fr.mono (by omega)) (fr.mono (by omega)),cj N (by omega) (show-9223372036854775808≤(1:Int)by omega) (by omega)]
  rcases yM with yM|yM
  ·rw[yM,cG (by omega),cond_false]
   simp only[rZ N hN (frr.mono (by omega)) (Oc.mono (by omega)),Option.bind_some]
   by_cases TN:d≤r+r
   ·rw[cS (by unfold lL;split<;>(try split)<;>omega),cond_true]
    simp only[oS N hN (frr.mono (by omega)) (Oc.mono (by omega)),eG N hN (fqq.mono (by omega)) (f1.mono (by omega)),Option.bind_some]
    refine pM N hN a d hd Py Oc x4 x5 hb hbv tA k n _ _ (by omega) (by omega) (by omega) (by omega) (by omega) ?_
    rw[hvk,yM,hv,ahM];omega
   ·rw[cL (by unfold lL;rw[if_pos (by omega)];omega),cond_false]
    refine pM N hN a d hd Py Oc x4 x5 hb hbv tA k n _ _ (by omega) (by omega) (by omega) (by omega) (by omega) ?_
    rw[hvk,yM,hv,e2q];omega
  ·rw[yM,cM rfl,cond_true]
   have ahN:=frr.add (f1.mono (show 80000≤80001 by omega))
   simp only[eG N hN (frr.mono (by omega)) (f1.mono (by omega)),rZ N hN (ahN.mono (by omega)) (Oc.mono (by omega)),Option.bind_some]
   by_cases TN:d≤r+r+1
   ·rw[cS (by unfold lL;split<;>(try split)<;>omega),cond_true]
    simp only[oS N hN (ahN.mono (by omega)) (Oc.mono (by omega)),eG N hN (fqq.mono (by omega)) (f1.mono (by omega)),Option.bind_some]
    refine pM N hN a d hd Py Oc x4 x5 hb hbv tA k n _ _ (by omega) (by omega) (by omega) (by omega) (by omega) ?_
    rw[hvk,yM,hv,ahM];omega
   ·rw[cL (by unfold lL;rw[if_pos (by omega)];omega),cond_false]
    refine pM N hN a d hd Py Oc x4 x5 hb hbv tA k n _ _ (by omega) (by omega) (by omega) (by omega) (by omega) ?_
    rw[hvk,yM,hv,e2q];omega
theorem EM(N:Nat)(hN:5000000≤N){a d:Int}(hd:0<d)(Py:Fit a 80000)(Oc:Fit d 80000):fg N (bn a) (bn d)=some (bn (a/d),bn (a%d)):=by
 unfold fg fg.b
 have tA:(bin a.natAbs).length≤32*80000:=QL Py
 have h1:=C6 N (by omega) (bn a) (bn d) (false,([],())) (false,([],())) (bin a.natAbs).length N a.natAbs [] (Nat.le_refl _) (by omega) (Nat.le_trans Py.len (by omega)) (by simp;omega)
 rw[List.nil_append]at h1
 refine h1.trans ?_
 rw[←ej]
 exact pM N (by omega) a d hd Py Oc _ _ (Uj _) (Ui _) (by omega) (bin a.natAbs).length N 0 0 (Nat.le_refl _) (by omega) (by omega) (by omega) hd (by rw[List.drop_length];simp[vt])
end VM
end
section
namespace VM
open Go VM.F
def bg(v:Int):aS:=(v/18446744073709551616,(v%18446744073709551616,()))
theorem wmk{a b v:Int}(h1:a=v/18446744073709551616)(h2:b=v%18446744073709551616):((a,(b,())):aS)=bg v:=by
 unfold bg;rw[h1,h2]
theorem Hl{a b v:Int}{α:Type}{c:α}(h1:a=v/18446744073709551616)(h2:b=v%18446744073709551616):(some (((a,(b,())):aS),c):Option (aS×α))=some (bg v,c):=by
 rw[wmk h1 h2]
theorem QM{a b c d:Int}(h1:a=c)(h2:b=d):(some (a,b):Option (Int×Int))=some (c,d):=by rw[h1,h2]
theorem ug(N:Nat){hi lo:Int}(h0:0≤hi)(h1:hi<9223372036854775808)(l0:0≤lo)(l1:lo<18446744073709551616):mv N false hi lo=some (bg (hi*18446744073709551616+lo),true):=by
 unfold mv mv.b
 rw[Bool.not_false,cond_true,cL (by omega),cond_false,al (by omega) (by omega)]
 exact Hl (by omega) (by omega)
theorem qp(N:Nat){hi lo:Int}(h0:0≤hi)(l0:0≤lo)(l1:lo<18446744073709551616)(hm:hi*18446744073709551616+lo≤170141183460469231731687303715884105728):mv N true hi lo=some (bg (-(hi*18446744073709551616+lo)),true):=by
 unfold mv mv.b
 have hj:mv.j7 N hi lo bI=some (bg (-(hi*18446744073709551616+lo)),true):=by
  unfold mv.j7 mv.Kz
  rw[iE N (by omega) (by omega) l0 l1 (by omega) (by omega),Option.bind_some]
  by_cases hl:lo=0
  ·subst hl
   rw[if_neg (by omega)]
   rw[iE N (by omega) (by omega) h0 (by omega) (by omega) (by omega),Option.bind_some,dV]
   exact Hl (by split<;>omega) (by omega)
  ·rw[if_pos (by omega)]
   rw[iE N (by omega) (by omega) h0 (by omega) (by omega) (by omega),Option.bind_some,dV]
   exact Hl (by split<;>omega) (by omega)
 rw[Bool.not_true,cond_false,ax (by omega),cond_false]
 by_cases he:hi=9223372036854775808
 ·rw[cM he,cond_true,ax (by omega),cond_false];exact hj
 ·rw[cG he,cond_false];exact hj
theorem Cn{a b:Int}(a0: -9223372036854775808≤a)(a1:a<9223372036854775808)(b0: -9223372036854775808≤b)(b1:b<9223372036854775808):
  0≤(a.natAbs:Int)*b.natAbs∧(a.natAbs:Int)*b.natAbs≤85070591730234615865843651857942052864:=by
 have:=mul_lt (m:=9223372036854775808) (n:=9223372036854775808) (show 0≤(a.natAbs:Int)by omega) (show 0≤(b.natAbs:Int)by omega) (by omega) (by omega)
 omega
theorem vu(N:Nat){a b:Int}(a0: -9223372036854775808≤a)(a1:a<9223372036854775808)(b0: -9223372036854775808≤b)(b1:b<9223372036854775808):Co N a b=some (bg (a*b)):=by
 unfold Co
 have hm:=Cn a0 a1 b0 b1
 simp only[EJ N a0 a1,EJ N b0 b1,Option.bind_some,Av N (show 0≤(a.natAbs:Int)by omega) (by omega) (show 0≤(b.natAbs:Int)by omega) (by omega),lM]
 obtain⟨m,hme⟩: ∃m,m=(a.natAbs:Int)*b.natAbs:=⟨_,rfl⟩
 rw[←hme]at hm ⊢
 have hd:m/18446744073709551616*18446744073709551616+m%18446744073709551616=m:=by omega
 by_cases h1:a<0<;>by_cases h2:b<0
 ·rw[aD h1,aD h2,beq_self_eq_true,Bool.not_true,ug N (by omega) (by omega) (by omega) (by omega),Option.bind_some,hd]
  have:m=a*b:=by rw[hme,show(a.natAbs:Int)= -a from by omega,show(b.natAbs:Int)= -b from by omega,Int.neg_mul_neg]
  rw[this]
 ·rw[aD h1,ax (x:=b) (by omega),show(!(true==false))=true from rfl,qp N (by omega) (by omega) (by omega) (by omega),Option.bind_some,hd]
  have:m= -(a*b):=by rw[hme,show(a.natAbs:Int)= -a from by omega,show(b.natAbs:Int)=b from by omega,Int.neg_mul]
  rw[this,Int.neg_neg]
 ·rw[ax (x:=a) (by omega),aD h2,show(!(false==true))=true from rfl,qp N (by omega) (by omega) (by omega) (by omega),Option.bind_some,hd]
  have:m= -(a*b):=by rw[hme,show(a.natAbs:Int)=a from by omega,show(b.natAbs:Int)= -b from by omega,Int.mul_neg]
  rw[this,Int.neg_neg]
 ·rw[ax (x:=a) (by omega),ax (x:=b) (by omega),beq_self_eq_true,Bool.not_true,ug N (by omega) (by omega) (by omega) (by omega),Option.bind_some,hd]
  have:m=a*b:=by rw[hme,show(a.natAbs:Int)=a from by omega,show(b.natAbs:Int)=b from by omega]
  rw[this]
theorem Hm(N:Nat){v:Int}(v0: -170141183460469231731687303715884105728≤v)(v1:v<170141183460469231731687303715884105728):QN N (bg v)=some ((v.natAbs:Int)/18446744073709551616,(v.natAbs:Int)%18446744073709551616):=by
 unfold QN bg
 dsimp only
 by_cases h:0≤v
 ·rw[cS (by omega),cond_true,bD (by omega) (by omega)]
  exact QM (by omega) (by omega)
 ·rw[cL (by omega),cond_false,iE N (by omega) (by omega) (by omega) (by omega) (by omega) (by omega),Option.bind_some]
  dsimp only
  rw[jn]
  by_cases hl:v%18446744073709551616=0
  ·rw[if_neg (by omega),iE N (by omega) (by omega) (by omega) (by omega) (by omega) (by omega),Option.bind_some]
   exact QM (by omega) (by omega)
  ·rw[if_pos (by omega),iE N (by omega) (by omega) (by omega) (by omega) (by omega) (by omega),Option.bind_some]
   exact QM (by omega) (by omega)
theorem Ul{m d:Int}(hd:0<d)(hm:0≤m):m/d=m/18446744073709551616/d*18446744073709551616+(m/18446744073709551616%d*18446744073709551616+m%18446744073709551616)/d∧
  m%d=(m/18446744073709551616%d*18446744073709551616+m%18446744073709551616)%d:=by
 have e:=Int.mul_ediv_add_emod (m/18446744073709551616) d
 have e0:m=(m/18446744073709551616%d*18446744073709551616+m%18446744073709551616)+d*(m/18446744073709551616/d*18446744073709551616):=by
  rw[←Int.mul_assoc];omega
 constructor
 ·conv=>lhs;rw[e0]
  rw[Int.add_mul_ediv_left _ _ (by omega)];omega
 ·conv=>lhs;rw[e0]
  rw[Int.add_mul_emod_self_left]
theorem Um(N:Nat)(hN:100≤N){v d:Int}(v0: -170141183460469231731687303715884105728≤v)(v1:v<170141183460469231731687303715884105728)(d0:0<d)(d1:d<9223372036854775808):
  pN N (bg v) d=some (bg (v/d),v%d,true):=by
 unfold pN pN.b
 rw[ax (by omega),cond_false,Hm N v0 v1,Option.bind_some,bD (x:=d) (by omega) (by omega)]
 dsimp only
 obtain⟨m,hm⟩: ∃m:Int,m=v.natAbs:=⟨_,rfl⟩
 rw[←hm]
 have hmd:=Int.emod_lt_of_pos (m/18446744073709551616) d0
 have anQ:=Int.emod_nonneg (m/18446744073709551616) (show d≠0 by omega)
 rw[Hc N hN (by omega) d0 (by omega) (by omega) (by omega),Option.bind_some,Int.zero_mul,Int.zero_add]
 dsimp only
 rw[Hc N hN anQ hmd (by omega) (by omega) (by omega),Option.bind_some]
 dsimp only
 obtain⟨e1,e2⟩:=Ul d0 (show 0≤m by omega)
 rw[←e2]
 have NG:0≤m/18446744073709551616/d:=Int.ediv_nonneg (by omega) (by omega)
 have hq1:m/18446744073709551616/d≤m/18446744073709551616:=Int.ediv_le_self _ (by omega)
 have QE:=Int.emod_lt_of_pos m d0
 have hr0:=Int.emod_nonneg m (show d≠0 by omega)
 have hl0:0≤(m/18446744073709551616%d*18446744073709551616+m%18446744073709551616)/d:=Int.ediv_nonneg (by omega) (by omega)
 have Z6:(m/18446744073709551616%d*18446744073709551616+m%18446744073709551616)/d<18446744073709551616:=by
  rw[Int.ediv_lt_iff_lt_mul d0]
  have:=Int.mul_le_mul_of_nonneg_right (show m/18446744073709551616%d+1≤d by omega) (show(0:Int)≤18446744073709551616 by omega)
  rw[Int.add_mul,Int.one_mul,Int.mul_comm d]at this;omega
 generalize (m/18446744073709551616%d*18446744073709551616+m%18446744073709551616)/d=ql at*
 generalize hqh:m/18446744073709551616/d=qh at*
 have hmq:=Int.mul_ediv_add_emod m d
 by_cases h:0≤v
 ·have hv:m=v:=by omega
  rw[cS (show(0:Int)≤(bg v).1 by show 0≤v/_;omega),cond_true,al (x:=qh) (by omega) (by omega),al (x:=m%d) (by omega) (by omega),←hv]
  unfold bg
  exact Hl (by omega) (by omega)
 ·have hv:v= -m:=by omega
  rw[cL (show(bg v).1<0 by show v/_<0;omega),cond_false]
  by_cases hr:0<m%d
  ·rw[aD hr,cond_true,pI N hl0 (by omega) (by omega) (by omega),Option.bind_some]
   unfold pN.EN pN.vv
   dsimp only
   rw[bD (x:=d-m%d) (by omega) (by omega),bD (x:=qh+(ql+1+0)/18446744073709551616) (by omega) (by omega)]
   rw[qp N (by omega) (by omega) (by omega) (by
    have:m/d*1≤m/d*d:=Int.mul_le_mul_of_nonneg_left (by omega) (Int.ediv_nonneg (by omega) (by omega))
    rw[Int.mul_comm]at hmq;omega),Option.bind_some,al (x:=d-m%d) (by omega) (by omega)]
   have e3:v=(d-m%d)+d*(-(m/d)-1):=by rw[hv,Int.mul_sub,Int.mul_neg,Int.mul_one];omega
   have e4:v/d= -(m/d)-1:=by
    rw[e3,Int.add_mul_ediv_left _ _ (by omega),Int.ediv_eq_zero_of_lt (by omega) (by omega)];omega
   have e5:v%d=d-m%d:=by rw[e3,Int.add_mul_emod_self_left,Int.emod_eq_of_lt (by omega) (by omega)]
   rw[e4,e5]
   dsimp only
   rw[show-((qh+(ql+1+0)/18446744073709551616)*18446744073709551616+(ql+1+0)%18446744073709551616)= -(m/d)-1 by omega]
  ·have dw:m%d=0:=by omega
   rw[ax (by omega),cond_false]
   unfold pN.EN pN.vv
   rw[qp N (by omega) (by omega) (by omega) (by
    have:m/d*1≤m/d*d:=Int.mul_le_mul_of_nonneg_left (by omega) (Int.ediv_nonneg (by omega) (by omega))
    rw[Int.mul_comm]at hmq;omega),Option.bind_some,al (x:=m%d) (by omega) (by omega)]
   have e3:v=d*(-(m/d)):=by rw[hv,Int.mul_neg];omega
   have e4:v/d= -(m/d):=by rw[e3,Int.mul_ediv_cancel_left _ (by omega)]
   have e5:v%d=0:=by rw[e3,Int.mul_emod_right]
   rw[e4,e5,dw]
   dsimp only
   rw[show-(qh*18446744073709551616+ql)= -(m/d)by omega]
theorem Un(N:Nat){v:Int}(v0: -170141183460469231731687303715884105728≤v)(v1:v<170141183460469231731687303715884105728):Hn N (bg v)=some (yR v):=by
 unfold Hn bg
 rw[ax (by omega),cond_false]
 dsimp only
 have hw0: -9223372036854775808≤W .i64 (v%18446744073709551616)∧W .i64 (v%18446744073709551616)<9223372036854775808:=by rw[dV];split<;>omega
 rw[qj hw0.1 hw0.2]
 have hwv:W .i64 (v%18446744073709551616)=if 9223372036854775808≤v%18446744073709551616 then v%18446744073709551616-18446744073709551616 else v%18446744073709551616:=by rw[dV];split<;>split<;>omega
 rw[hwv]
 unfold yR
 by_cases h: -9223372036854775808≤v∧v<9223372036854775808
 ·rw[if_pos h]
  by_cases hn:v<0
  ·rw[if_pos (show 9223372036854775808≤v%18446744073709551616 by omega),if_pos (by omega),cM (by omega),Bool.not_true,cond_false]
   congr 2;omega
  ·rw[if_neg (show ¬9223372036854775808≤v%18446744073709551616 by omega),if_neg (by omega),cM (by omega),Bool.not_true,cond_false]
   congr 2;omega
 ·rw[if_neg h]
  by_cases hm:9223372036854775808≤v%18446744073709551616
  ·rw[if_pos hm,if_pos (by omega),cG (by omega),Bool.not_false,cond_true]
  ·rw[if_neg hm,if_neg (by omega),cG (by omega),Bool.not_false,cond_true]
end VM
end
section
namespace VM
open Go
theorem cond_not{α:Type}(b:Bool)(x y:α):cond (!b) x y=cond b y x:=by cases b<;>rfl
theorem aJ{α:Type}(a b:Int)(x y:α):cond (aG a b) x y=if a<b then x else y:=by
 by_cases h:a<b
 ·rw[aD h,if_pos h];rfl
 ·rw[ax (by omega),if_neg h];rfl
theorem bk{α:Type}(a b:Int)(x y:α):cond (bW a b) x y=if a≤b then x else y:=by
 by_cases h:a≤b
 ·rw[cS h,if_pos h];rfl
 ·rw[cL (by omega),if_neg h];rfl
theorem au{α:Type}(a b:Int)(x y:α):cond (ay a b) x y=if a=b then x else y:=by
 by_cases h:a=b
 ·rw[cM h,if_pos h];rfl
 ·rw[cG h,if_neg h];rfl
theorem ct{α:Type}(p:Prop) [Decidable p](x y:α):cond (decide p) x y=if p then x else y:=by
 by_cases h:p
 ·rw[decide_eq_true h,if_pos h];rfl
 ·rw[decide_eq_false h,if_neg h];rfl
theorem drop_cons{α:Type}{l:List α}{i:Nat}(h:i<l.length)(d:α):l.drop i=l.getD i d::l.drop (i+1):=by
 rw[List.drop_eq_getElem_cons h,List.getD_eq_getElem?_getD,List.getElem?_eq_getElem h];rfl
theorem kD{α σ β:Type}(l:List α)(d:α)(F:Nat→Int→σ→Option β)(g:List α→σ→Option β)(I:Nat→σ→Prop)
  (hs: ∀n i s,i<l.length→I i s→(∀s',I (i+1) s'→F n ((i+1:Nat):Int) s'=g (l.drop (i+1)) s')→F (n+1) (i:Int) s=g (l.getD i d::l.drop (i+1)) s)
  (he: ∀n s,I l.length s→F (n+1) (l.length:Int) s=g [] s): ∀m n i s,l.length-i≤m→m<n→i≤l.length→I i s→F n (i:Int) s=g (l.drop i) s
 |m,0,i,s,_,hn,_,_=>by omega
 |m,n+1,i,s,hm,hn,hi,hI=>by
  by_cases h:i<l.length
  ·rw[drop_cons h d]
   exact hs n i s h hI fun s' tC=>kD l d F g I hs he (m-1) n (i+1) s' (by omega) (by omega) (by omega) tC
  ·have:i=l.length:=by omega
   subst this
   rw[List.drop_length];exact he n s hI
theorem vw{α β:Type}(l:List α)(d:α)(F:Nat→Int→Option β)(g:List α→Option β)
  (hs: ∀n i,i<l.length→F n ((i+1:Nat):Int)=g (l.drop (i+1))→F (n+1) (i:Int)=g (l.getD i d::l.drop (i+1)))
  (he: ∀n,F (n+1) (l.length:Int)=g []) (n:Nat) (hn:l.length<n):F n 0=g l:=by
 have:=kD (σ:=Unit) l d (fun n i _=>F n i) (fun l _=>g l) (fun _ _=>True) (fun n i _ h _ hr=>hs n i h (hr () trivial)) (fun n _ _=>he n) l.length n 0 () (by omega) hn (by omega) trivial
 simpa using this
theorem scan{F:Nat→Int→Option Bool}{len:Nat}(P:Nat→Prop) [DecidablePred P]
  (hs: ∀n i r,i<len→(∀j,j<i→P j)→F n ((i+1:Nat):Int)=r→F (n+1) (i:Int)=if P i then r else some false) {e:Bool} (he: ∀n,F (n+1) (len:Int)=some e):
  ∀m n i,len-i≤m→m<n→i≤len→(∀j,j<i→P j)→F n (i:Int)=some (decide (∀j,j<len→i≤j→P j)&&e)
 |m,0,i,_,hn,_,_=>by omega
 |m,n+1,i,hm,hn,hi,hp=>by
  by_cases h:i<len
  ·rw[hs n i _ h hp rfl]
   by_cases hP:P i
   ·rw[if_pos hP,scan P hs he (m-1) n (i+1) (by omega) (by omega) (by omega) (fun j hj=>by
     by_cases tZ:j=i
     ·subst tZ;exact hP
     ·exact hp j (by omega))]
    congr 2
    rw[decide_eq_decide]
    refine⟨fun hj j h2 h1=> ?_,fun hj j h2 h1=>hj j h2 (by omega)⟩
    by_cases tZ:j=i
    ·subst tZ;exact hP
    ·exact hj j h2 (by omega)
   ·rw[if_neg hP,decide_eq_false (fun hj=>hP (hj i h (Nat.le_refl i)))];rfl
  ·have:i=len:=by omega
   subst this
   rw[he n,decide_eq_true (fun j h2 h1=>absurd h2 (by omega))];rfl
theorem eU{F:Nat→Int→Option Bool}{len:Nat}(P:Nat→Prop) [DecidablePred P]{e:Bool}
  (hs: ∀n i r,i<len→(∀j,j<i→P j)→F n ((i+1:Nat):Int)=r→F (n+1) (i:Int)=if P i then r else some false) (he: ∀n,F (n+1) (len:Int)=some e) (n:Nat) (hn:len<n):
  F n 0=some (decide (∀j,j<len→P j)&&e):=by
 have:=scan P hs he len n 0 (by omega) hn (by omega) (fun j hj=>absurd hj (by omega))
 rw[show((0:Nat):Int)=0 from rfl]at this
 rw[this]
 congr 2
 rw[decide_eq_decide]
 exact⟨fun h j hj=>h j hj (by omega),fun h j hj _=>h j hj⟩
end VM
end
section
namespace VM
open Go VM.F
def bA(x:Int):Prop:= -170141183460469231731687303715884105728≤x∧x<170141183460469231731687303715884105728
instance(x:Int):Decidable (bA x):=by unfold bA;infer_instance
theorem mw(N:Nat){x:Int}(h0: -9223372036854775808≤x)(h1:x<9223372036854775808):Cp N x=some (bg x):=by
 unfold Cp
 rw[ax (by omega),cond_false,qj h0 h1,jn]
 congr 1
 exact wmk (by split<;>omega) rfl
theorem Uo{ws:List Int}(i:Nat):(ws.map bg).getD i bI=bg (ws.getD i 0):=by
 by_cases h:i<ws.length
 ·rw[List.getD_eq_getElem?_getD,List.getElem?_map,List.getElem?_eq_getElem h,List.getD_eq_getElem?_getD,List.getElem?_eq_getElem h];rfl
 ·rw[List.getD_eq_getElem?_getD,List.getElem?_eq_none (by rw[List.length_map];omega),List.getD_eq_getElem?_getD,List.getElem?_eq_none (by omega)];rfl
theorem KC{ws:List Int}(h: ∀x∈ws,bA x): -(170141183460469231731687303715884105728*(ws.length:Int))≤ws.sum∧ws.sum≤170141183460469231731687303715884105728*(ws.length:Int):=by
 induction ws with
 |nil=>simp
 |cons x ws ih=>
  have h0:=h x (List.mem_cons_self ..)
  have ih:=ih (fun y hy=>h y (List.mem_cons_of_mem _ hy))
  unfold bA at h0
  rw[List.sum_cons,List.length_cons];omega
theorem QO{t w:Int}{lo hi top:Int}(hw:bA w)(yL:lo=t%18446744073709551616)(FX:hi=t/18446744073709551616%18446744073709551616)(anS:top=t/340282366920938463463374607431768211456):
  (lo+w%18446744073709551616+0)%18446744073709551616=(t+w)%18446744073709551616∧
  (hi+(w/18446744073709551616)%18446744073709551616+(lo+w%18446744073709551616+0)/18446744073709551616)%18446744073709551616=(t+w)/18446744073709551616%18446744073709551616∧
  top+(if w/18446744073709551616<0 then-1 else 0)+(hi+(w/18446744073709551616)%18446744073709551616+(lo+w%18446744073709551616+0)/18446744073709551616)/18446744073709551616=(t+w)/340282366920938463463374607431768211456:=by
 unfold bA at hw
 subst yL FX anS
 refine⟨by omega,by omega,?_⟩
 split<;>omega
def Ho(t:Int):aS×Bool:=if bA t then(bg t,true)else(bI,false)
theorem W64(x:Int):W .u64 x=x%18446744073709551616:=jn x
theorem C8(N:Nat){ws:List Int}(h: ∀x∈ws,bA x)(hl:ws.length≤1000000): ∀(m n i:Nat) (t:Int),ws.length-i≤m→m<n→i≤ws.length→t=(ws.take i).sum→
  jF.l3 N n bI (t/340282366920938463463374607431768211456) (t/18446744073709551616%18446744073709551616) (t%18446744073709551616) (ws.map bg) (ws.length:Int) (i:Int)=some (Ho ws.sum)
 |m,0,i,t,_,hn,_,_=>by omega
 |m,n+1,i,t,hm,hn,hi,ht=>by
  unfold jF.l3 jF.jP
  have f1:=KC (ws:=ws.take i) (fun x hx=>h x (List.mem_of_mem_take hx))
  rw[List.length_take,Nat.min_eq_left (by omega),←ht]at f1
  by_cases h1:i<ws.length
  ·have hw:bA (ws.getD i 0):=by
    rw[List.getD_eq_getElem?_getD,List.getElem?_eq_getElem h1];exact h _ (List.getElem_mem h1)
   have hs:=iF ws h1
   rw[←ht]at hs
   have st:=QO (t:=t) (w:=ws.getD i 0) hw rfl rfl rfl
   have vx:=C8 N h hl (m-1) n (i+1) (t+ws.getD i 0) (by omega) (by omega) (by omega) hs.symm
   rw[aD (by omega),cond_true,aF (by omega) (by rw[List.length_map];omega),cond_true,Int.toNat_natCast,Uo]
   unfold bg
   dsimp only
   have hw':=hw
   unfold bA at hw'
   generalize ws.getD i 0=w at*
   have hq:0≤(t%18446744073709551616+w%18446744073709551616+0)/18446744073709551616∧(t%18446744073709551616+w%18446744073709551616+0)/18446744073709551616≤1:=by omega
   rw[pI N (by omega) (by omega) (by omega) (by omega),Option.bind_some,W64,pI N (by omega) (by omega) hq.1 hq.2,Option.bind_some,ax (x:=63) (by omega),cond_false,st.1,st.2.1]
   rw[qj (by omega) (by omega)]
   have hc:0≤(t/18446744073709551616%18446744073709551616+w/18446744073709551616%18446744073709551616+(t%18446744073709551616+w%18446744073709551616+0)/18446744073709551616)/18446744073709551616∧(t/18446744073709551616%18446744073709551616+w/18446744073709551616%18446744073709551616+(t%18446744073709551616+w%18446744073709551616+0)/18446744073709551616)/18446744073709551616≤1:=by omega
   have hif: -1≤(if w/18446744073709551616<0 then(-1:Int)else 0)∧(if w/18446744073709551616<0 then(-1:Int)else 0)≤0:=by split<;>omega
   rw[al (x:=t/340282366920938463463374607431768211456+_) (by omega) (by omega),al (x:=(_:Int)/18446744073709551616) (by omega) (by omega),st.2.2,al (by omega) (by omega),al (x:=(i:Int)+1) (by omega) (by omega)]
   exact vx
  ·have e:(ws.take i).sum=ws.sum:=by rw[List.take_of_length_le (by omega)]
   rw[e]at ht
   rw[ax (by omega),cond_false,ax (x:=63) (by omega),cond_false,←ht]
   have hh: -9223372036854775808≤W .i64 (t/18446744073709551616%18446744073709551616)∧W .i64 (t/18446744073709551616%18446744073709551616)<9223372036854775808:=by rw[dV];split<;>omega
   have hwv:W .i64 (t/18446744073709551616%18446744073709551616)=if 9223372036854775808≤t/18446744073709551616%18446744073709551616 then t/18446744073709551616%18446744073709551616-18446744073709551616 else t/18446744073709551616%18446744073709551616:=by rw[dV];split<;>split<;>omega
   rw[qj hh.1 hh.2,hwv]
   unfold Ho
   by_cases hI:bA t
   ·rw[if_pos hI]
    unfold bA at hI
    rw[cM (by split<;>split<;>omega),Bool.not_true,cond_false]
    exact Hl (by split<;>omega) rfl
   ·rw[if_neg hI]
    unfold bA at hI
    rw[cG (by split<;>split<;>omega),Bool.not_false,cond_true]
theorem zq(N:Nat){ws:List Int}(h: ∀x∈ws,bA x)(hl:ws.length≤1000000)(hN:1000000<N):jF N (ws.map bg)=some (Ho ws.sum):=by
 unfold jF jF.b
 rw[List.length_map]
 exact C8 N h hl ws.length N 0 0 (by omega) (by omega) (by omega) (by simp)
end VM
end
section
namespace VM
open Go VM.F
theorem qq(N:Nat)(a lo hi:Int):yS N a lo hi=some (decide (lo≤a∧a≤hi)):=by
 unfold yS
 rw[bk,kN]
 by_cases h:lo≤a
 ·rw[if_pos h];congr 1;rw[decide_eq_decide];omega
 ·rw[if_neg h,decide_eq_false (by omega)]
theorem C9(N:Nat)(a lo hi:Int):Cq N a lo hi=some (decide (lo≤a∧a≤hi)):=qq N a lo hi
def oT(a b c d:Int):Prop:=(0≤a∧a≤3)∧(1≤b∧b≤1000000000000)∧(0≤c∧c≤1000000000)∧(0≤d∧d≤1000000000)
instance(a b c d:Int):Decidable (oT a b c d):=by unfold oT;infer_instance
def my(l:aE)(i:Nat):Prop:=oT (l.getD i aK).1 (l.getD i aK).2.1 (l.getD i aK).2.2.1 (l.getD i aK).2.2.2.1
instance(l:aE):DecidablePred (my l):=fun i=>by unfold my;infer_instance
def qt(a b c d e f:Int):Prop:=0≤a∧(0≤b∧b≤4)∧(0≤c∧c≤1000000)∧(0≤d∧d≤1000000)∧(1≤e∧e≤4611686018427387904)∧0≤f
instance(a b c d e f:Int):Decidable (qt a b c d e f):=by unfold qt;infer_instance
def qu(c:aa):Prop:=qt c.2.1 c.2.2.1 c.2.2.2.1 c.2.2.2.2.1 c.2.2.2.2.2.1 c.2.2.2.2.2.2.1
instance(c:aa):Decidable (qu c):=by unfold qu;infer_instance
def dY(c:aa):Bool:=decide (1≤c.1.length∧c.1.length≤6)&&(decide (∀j,j<c.1.length→my c.1 j)&&decide (qu c))
theorem zr(N:Nat)(hN:100≤N)(c:aa):wx N c=some (dY c):=by
 unfold wx wx.b dY
 rw[qq,Option.bind_some,cond_not,ct]
 by_cases hl:1≤c.1.length∧c.1.length≤6
 ·rw[if_pos (by omega),decide_eq_true hl,Bool.true_and]
  refine eU (F:=fun n i=>wx.l4 N n c c.1 (c.1.length:Int) i) (my c.1) (fun n i r hi hp hr=> ?_) (fun n=> ?_) N (by omega)
  ·unfold wx.l4 wx.cA
   rw[aD (by omega),cond_true,aF (by omega) (by omega),cond_true,Int.toNat_natCast,al (by omega) (by omega),ae]
   simp only[qq,Option.bind_some,cond_not,ct]
   by_cases hP:my c.1 i
   ·rw[if_pos hP];unfold my oT at hP
    repeat' split
    all_goals first|rfl|exact hr|omega
   ·rw[if_neg hP];unfold my oT at hP
    repeat' split
    all_goals first|rfl|exact hr|omega
  ·unfold wx.l4 wx.cA
   rw[ax (by omega),cond_false]
   simp only[qq,Option.bind_some,cond_not,ct,bk,kN]
   by_cases hP:qu c
   ·rw[decide_eq_true hP];unfold qu qt at hP
    repeat' split
    all_goals first|rfl|omega|(rw[decide_eq_true (by omega)])
   ·rw[decide_eq_false hP];unfold qu qt at hP
    repeat' split
    all_goals first|rfl|omega|(rw[decide_eq_false (by omega)])
 ·rw[if_neg (by omega),decide_eq_false hl,Bool.false_and]
theorem nN(N:Nat)(hN:100≤N)(c:aa):iX N c=some (dY c):=by
 unfold iX iX.b dY
 rw[aJ,aJ]
 by_cases hl:1≤c.1.length∧c.1.length≤6
 ·rw[if_neg (by omega),if_neg (by omega),decide_eq_true hl,Bool.true_and]
  refine eU (F:=fun n i=>iX.l4 N n c i) (my c.1) (fun n i r hi hp hr=> ?_) (fun n=> ?_) N (by omega)
  ·unfold iX.l4 iX.cA
   rw[aD (by omega),cond_true,aF (by omega) (by omega),cond_true,Int.toNat_natCast,al (by omega) (by omega),ae]
   simp only[C9,Option.bind_some,cond_not,ct]
   by_cases hP:my c.1 i
   ·rw[if_pos hP];unfold my oT at hP
    repeat' split
    all_goals first|rfl|exact hr|omega
   ·rw[if_neg hP];unfold my oT at hP
    repeat' split
    all_goals first|rfl|exact hr|omega
  ·unfold iX.l4 iX.cA
   rw[ax (by omega),cond_false]
   simp only[C9,Option.bind_some,cond_not,ct,bk,kN]
   by_cases hP:qu c
   ·rw[decide_eq_true hP];unfold qu qt at hP
    repeat' split
    all_goals first|rfl|omega|(rw[decide_eq_true (by omega)])
   ·rw[decide_eq_false hP];unfold qu qt at hP
    repeat' split
    all_goals first|rfl|omega|(rw[decide_eq_false (by omega)])
 ·rw[decide_eq_false hl,Bool.false_and]
  by_cases h:(c.1.length:Int)<1
  ·rw[if_pos h]
  ·rw[if_neg h,if_pos (by omega)]
def fm(a b:Int)(i:Nat)(c:Int):Prop:=1≤a∧a≤12∧1≤b∧b≤4∧(0<i→c<a)
instance(a b:Int)(i:Nat)(c:Int):Decidable (fm a b i c):=by unfold fm;infer_instance
def dK(m:av)(i:Nat):Prop:=fm (m.getD i bI).1 (m.getD i bI).2.1 i (m.getD (i-1) bI).1
instance(m:av):DecidablePred (dK m):=fun i=>by unfold dK;infer_instance
def jq(m:av):Bool:=decide (∀j,j<m.length→dK m j)&&true
theorem Az(N:Nat){m:av}(hl:m.length≤100000)(hN:200000≤N):lO N m=some (jq m):=by
 unfold lO lO.b
 refine eU (F:=fun n i=>lO.l2 N n m m (m.length:Int) i) (dK m) (fun n i r hi hp hr=> ?_) (fun n=> ?_) N (by omega)
 ·unfold lO.l2 lO.dx
  rw[aD (by omega),cond_true,aF (by omega) (by omega),cond_true,Int.toNat_natCast,al (x:=(i:Int)+1) (by omega) (by omega),ae]
  by_cases h0:0<i
  ·have e:W .i64 ((i:Int)-1)=((i-1:Nat):Int):=by rw[al (by omega) (by omega)];omega
   dsimp only
   rw[aD (x:=0) (by omega),cond_true,e,Int.toNat_natCast,aF (by omega) (by omega),cond_true]
   simp only[aJ,bk]
   by_cases hP:dK m i
   ·rw[if_pos hP];unfold dK fm at hP
    repeat' split
    all_goals first|rfl|exact hr|omega
   ·rw[if_neg hP];unfold dK fm at hP
    repeat' split
    all_goals first|rfl|exact hr|omega
  ·rw[ax (x:=0) (by omega),cond_false]
   simp only[aJ,bk]
   by_cases hP:dK m i
   ·rw[if_pos hP];unfold dK fm at hP
    repeat' split
    all_goals first|rfl|exact hr|omega
   ·rw[if_neg hP];unfold dK fm at hP
    repeat' split
    all_goals first|rfl|exact hr|omega
 ·unfold lO.l2 lO.dx
  rw[ax (by omega),cond_false]
theorem oU(N:Nat){m:av}(hl:m.length≤100000)(hN:200000≤N):kE N m=some (jq m):=by
 unfold kE kE.b
 refine eU (F:=fun n i=>kE.l2 N n m i) (dK m) (fun n i r hi hp hr=> ?_) (fun n=> ?_) N (by omega)
 ·unfold kE.l2 kE.dx
  rw[aD (by omega),cond_true,aF (by omega) (by omega),cond_true,Int.toNat_natCast,al (x:=(i:Int)+1) (by omega) (by omega),ae]
  by_cases h0:0<i
  ·have e:W .i64 ((i:Int)-1)=((i-1:Nat):Int):=by rw[al (by omega) (by omega)];omega
   dsimp only
   rw[aD (x:=0) (by omega),e,Int.toNat_natCast,aF (i:=((i-1:Nat):Int)) (by omega) (by omega)]
   simp only[aJ,bk,cond_true]
   by_cases hP:dK m i
   ·rw[if_pos hP];unfold dK fm at hP
    repeat' split
    all_goals first|rfl|exact hr|omega
   ·rw[if_neg hP];unfold dK fm at hP
    repeat' split
    all_goals first|rfl|exact hr|omega
  ·rw[ax (x:=0) (by omega)]
   simp only[aJ,bk,cond_true,cond_false]
   by_cases hP:dK m i
   ·rw[if_pos hP];unfold dK fm at hP
    repeat' split
    all_goals first|rfl|exact hr|omega
   ·rw[if_neg hP];unfold dK fm at hP
    repeat' split
    all_goals first|rfl|exact hr|omega
 ·unfold kE.l2 kE.dx
  rw[ax (by omega),cond_false]
end VM
end
section
namespace VM
open Go VM.F
def dW(k n:Int):Prop:=(1≤k∧k≤4∧n=0)∨(k=5∧1≤n∧n≤24)∨(6≤k∧k≤7∧1≤n∧n≤12)
instance(k n:Int):Decidable (dW k n):=by unfold dW;infer_instance
theorem KD(N:Nat)(k n:Int):KE N k n=some (decide (dW k n)):=by
 unfold KE
 simp only[au,bk]
 simp only[kN,gb]
 by_cases hP:dW k n
 ·rw[decide_eq_true hP];unfold dW at hP
  repeat' split
  all_goals first|rfl|omega|(rw[decide_eq_true (by omega)])
 ·rw[decide_eq_false hP];unfold dW at hP
  repeat' split
  all_goals first|rfl|omega|(rw[decide_eq_false (by omega)])
theorem Up(N:Nat)(k n:Int):KF N k n=some (decide (dW k n)):=by
 have:=KD N k n
 unfold KE at this
 unfold KF
 exact this
def ig(a b c d:Int):Prop:=a<c∨(a=c∧b<d)
instance(a b c d:Int):Decidable (ig a b c d):=by unfold ig;infer_instance
def wQ(k n a b:Int):Int:=if k=a then n-b else k-a
def Cr(x:Int):Prop:= -1000000≤x∧x≤1000000
theorem AA(N:Nat){k n:Int}{r:ca}(h1:Cr k)(h2:Cr n)(h3:Cr r.1)(h4:Cr r.2.1):KG N k n r=some (wQ k n r.1 r.2.1):=by
 unfold KG wQ
 unfold Cr at*
 rw[cond_not,au]
 split
 ·rw[al (by omega) (by omega)]
 ·rw[al (by omega) (by omega)]
theorem Da(N:Nat){k n:Int}{r:ca}(h1:Cr k)(h2:Cr n)(h3:Cr r.1)(h4:Cr r.2.1):Od N k n r=some (wQ k n r.1 r.2.1):=AA N h1 h2 h3 h4
def iY(a b c:Int)(i:Nat)(d e:Int):Prop:=dW a b∧c≠0∧(0<i→ig d e a b)
instance(a b c:Int)(i:Nat)(d e:Int):Decidable (iY a b c i d e):=by unfold iY;infer_instance
def iG(l:ah)(i:Nat):Prop:=iY (l.getD i aL).1 (l.getD i aL).2.1 (l.getD i aL).2.2.1 i (l.getD (i-1) aL).1 (l.getD (i-1) aL).2.1
instance(l:ah):DecidablePred (iG l):=fun i=>by unfold iG;infer_instance
def e7(l:ah):Bool:=decide (∀j,j<l.length→iG l j)&&true
theorem zs(N:Nat){l:ah}(hl:l.length≤100000)(hN:200000≤N):wy N l=some (e7 l):=by
 unfold wy wy.b
 refine eU (F:=fun n i=>wy.l2 N n l l (l.length:Int) i) (iG l) (fun n i r hi hp hr=> ?_) (fun n=> ?_) N (by omega)
 ·unfold wy.l2 wy.dx
  rw[aD (by omega),cond_true,aF (by omega) (by omega),cond_true,Int.toNat_natCast,al (x:=(i:Int)+1) (by omega) (by omega),ae,KD,Option.bind_some,cond_not,ct]
  by_cases hK:dW (l.getD i aL).1 (l.getD i aL).2.1
  ·rw[if_pos hK]
   by_cases h0:0<i
   ·have hq:=hp (i-1) (by omega)
    have e:W .i64 ((i:Int)-1)=((i-1:Nat):Int):=by rw[al (by omega) (by omega)];omega
    dsimp only
    rw[aD (x:=0) (by omega),cond_true,e,Int.toNat_natCast,aF (by omega) (by omega),cond_true]
    unfold iG iY at hq
    have hq:=hq.1
    rw[AA N (by unfold dW at hK;unfold Cr;omega) (by unfold dW at hK;unfold Cr;omega) (by unfold dW at hq;unfold Cr;omega) (by unfold dW at hq;unfold Cr;omega),Option.bind_some,au,bk]
    by_cases hP:iG l i
    ·rw[if_pos hP];unfold iG iY ig at hP;unfold wQ
     have KH:=hP.2
     repeat' split
     all_goals first|rfl|exact hr|omega
    ·rw[if_neg hP];unfold iG iY ig at hP;unfold wQ
     have KH:=fun h=>hP ⟨hK,h⟩
     repeat' split
     all_goals first|rfl|exact hr|omega|(exfalso;exact KH (by omega))
   ·rw[ax (x:=0) (by omega),cond_false,au]
    by_cases hP:iG l i
    ·rw[if_pos hP];unfold iG iY at hP
     rw[if_neg hP.2.1];exact hr
    ·rw[if_neg hP];unfold iG iY at hP
     have KH:=fun h=>hP ⟨hK,h,fun h=>absurd h h0⟩
     split
     ·rfl
     ·exact absurd (by assumption) KH
  ·rw[if_neg hK,if_neg (fun h=>hK (by unfold iG iY at h;exact h.1))]
 ·unfold wy.l2 wy.dx
  rw[ax (by omega),cond_false]
theorem AB(N:Nat){l:ah}(hl:l.length≤100000)(hN:200000≤N):wR N l=some (e7 l):=by
 unfold wR wR.b
 refine eU (F:=fun n i=>wR.l2 N n l i) (iG l) (fun n i r hi hp hr=> ?_) (fun n=> ?_) N (by omega)
 ·unfold wR.l2 wR.dx
  rw[aD (by omega),cond_true,aF (by omega) (by omega),cond_true,Int.toNat_natCast,al (x:=(i:Int)+1) (by omega) (by omega),ae,Up,Option.bind_some,cond_not,ct]
  by_cases hK:dW (l.getD i aL).1 (l.getD i aL).2.1
  ·rw[if_pos hK]
   by_cases h0:0<i
   ·have e:W .i64 ((i:Int)-1)=((i-1:Nat):Int):=by rw[al (by omega) (by omega)];omega
    dsimp only
    rw[aD (x:=0) (by omega),e,Int.toNat_natCast,aF (i:=((i-1:Nat):Int)) (by omega) (by omega)]
    simp only[aJ,bk,au,cond_true]
    by_cases hP:iG l i
    ·rw[if_pos hP];unfold iG iY ig at hP
     have KH:=hP.2
     repeat' split
     all_goals first|rfl|exact hr|omega
    ·rw[if_neg hP];unfold iG iY ig at hP
     have KH:=fun h=>hP ⟨hK,h⟩
     repeat' split
     all_goals first|rfl|exact hr|omega|(exfalso;exact KH (by omega))
   ·rw[ax (x:=0) (by omega)]
    simp only[aJ,bk,au,cond_true,cond_false]
    by_cases hP:iG l i
    ·rw[if_pos hP];unfold iG iY at hP
     rw[if_neg hP.2.1];exact hr
    ·rw[if_neg hP];unfold iG iY at hP
     have KH:=fun h=>hP ⟨hK,h,fun h=>absurd h h0⟩
     split
     ·rfl
     ·exact absurd (by assumption) KH
  ·rw[if_neg hK,if_neg (fun h=>hK (by unfold iG iY at h;exact h.1))];rfl
 ·unfold wR.l2 wR.dx
  rw[ax (by omega),cond_false]
end VM
end
section
namespace VM
open Go VM.F
def b7(a b:Int):Prop:=0≤a∧a≤24∧0≤b∧b<6
instance(a b:Int):Decidable (b7 a b):=by unfold b7;infer_instance
theorem MH(N:Nat)(a b:Int):QP N a b=some (decide (b7 a b)):=by
 unfold QP
 simp only[bk]
 simp only[o9]
 by_cases hP:b7 a b
 ·rw[decide_eq_true hP];unfold b7 at hP
  repeat' split
  all_goals first|rfl|omega|(rw[decide_eq_true (by omega)])
 ·rw[decide_eq_false hP];unfold b7 at hP
  repeat' split
  all_goals first|rfl|omega|(rw[decide_eq_false (by omega)])
def xU(q:Int):Prop:=q≠ -9223372036854775808
instance(q:Int):Decidable (xU q):=by unfold xU;infer_instance
theorem oV(N:Nat)(q:Int):KI N q=some (decide (xU q)):=by
 unfold KI xU
 rw[gb]
 by_cases h:q= -9223372036854775808<;>simp[h]
def jZ(a b c:Int)(i:Nat)(d e:Int):Prop:=b7 a b∧c≠0∧xU c∧(0<i→ig d e a b)
instance(a b c:Int)(i:Nat)(d e:Int):Decidable (jZ a b c i d e):=by unfold jZ;infer_instance
def jr(l:ah)(i:Nat):Prop:=jZ (l.getD i aL).1 (l.getD i aL).2.1 (l.getD i aL).2.2.1 i (l.getD (i-1) aL).1 (l.getD (i-1) aL).2.1
instance(l:ah):DecidablePred (jr l):=fun i=>by unfold jr;infer_instance
def dh(l:ah):Bool:=decide (∀j,j<l.length→jr l j)&&true
theorem vy(N:Nat){l:ah}(hl:l.length≤100000)(hN:200000≤N):kF N l=some (dh l):=by
 unfold kF kF.b
 refine eU (F:=fun n i=>kF.l2 N n l l (l.length:Int) i) (jr l) (fun n i r hi hp hr=> ?_) (fun n=> ?_) N (by omega)
 ·unfold kF.l2 kF.dx
  rw[aD (by omega),cond_true,aF (by omega) (by omega),cond_true,Int.toNat_natCast,al (x:=(i:Int)+1) (by omega) (by omega),ae,MH,Option.bind_some,cond_not,ct,oV,Option.bind_some,cond_not,ct]
  by_cases hK:b7 (l.getD i aL).1 (l.getD i aL).2.1
  ·rw[if_pos hK]
   by_cases h0:0<i
   ·have hq:=hp (i-1) (by omega)
    have e:W .i64 ((i:Int)-1)=((i-1:Nat):Int):=by rw[al (by omega) (by omega)];omega
    dsimp only
    rw[aD (x:=0) (by omega),cond_true,e,Int.toNat_natCast,aF (by omega) (by omega),cond_true]
    unfold jr jZ at hq
    have hq:=hq.1
    rw[Da N (by unfold b7 at hK;unfold Cr;omega) (by unfold b7 at hK;unfold Cr;omega) (by unfold b7 at hq;unfold Cr;omega) (by unfold b7 at hq;unfold Cr;omega),Option.bind_some,au,bk]
    by_cases hP:jr l i
    ·rw[if_pos hP];unfold jr jZ ig at hP;unfold wQ
     obtain⟨_,hP1,KH,hP3⟩:=hP
     rw[if_pos KH]
     repeat' split
     all_goals first|rfl|exact hr|omega
    ·rw[if_neg hP];unfold jr jZ ig at hP;unfold wQ
     have KH:=fun h1 h2 h3=>hP ⟨hK,h1,h2,h3⟩
     repeat' split
     all_goals first|rfl|exact hr|(exfalso;exact KH (by assumption) (by assumption) (by omega))|omega
   ·rw[ax (x:=0) (by omega),cond_false,au]
    by_cases hP:jr l i
    ·rw[if_pos hP];unfold jr jZ at hP
     rw[if_neg hP.2.1,if_pos hP.2.2.1];exact hr
    ·rw[if_neg hP];unfold jr jZ at hP
     have KH:=fun h1 h2=>hP ⟨hK,h1,h2,fun h=>absurd h h0⟩
     split
     ·rfl
     ·split
      ·exact(KH (by assumption) (by assumption)).elim
      ·rfl
  ·rw[if_neg hK,if_neg (fun h=>hK (by unfold jr jZ at h;exact h.1))]
 ·unfold kF.l2 kF.dx
  rw[ax (by omega),cond_false]
theorem ns(N:Nat){l:ah}(hl:l.length≤100000)(hN:200000≤N):uP N l=some (dh l):=by
 unfold uP uP.b
 refine eU (F:=fun n i=>uP.l2 N n l i) (jr l) (fun n i r hi hp hr=> ?_) (fun n=> ?_) N (by omega)
 ·unfold uP.l2 uP.dx
  rw[aD (by omega),cond_true,aF (by omega) (by omega),cond_true,Int.toNat_natCast,al (x:=(i:Int)+1) (by omega) (by omega),ae]
  by_cases h0:0<i
  ·have e:W .i64 ((i:Int)-1)=((i-1:Nat):Int):=by rw[al (by omega) (by omega)];omega
   dsimp only
   rw[aD (x:=0) (y:=(i:Int)) (by omega),e,Int.toNat_natCast,aF (i:=((i-1:Nat):Int)) (by omega) (by omega)]
   simp only[aJ,bk,au,cond_true]
   by_cases hP:jr l i
   ·rw[if_pos hP];unfold jr jZ ig xU b7 at hP
    repeat' split
    all_goals first|rfl|exact hr|omega
   ·rw[if_neg hP];unfold jr jZ ig xU b7 at hP
    repeat' split
    all_goals first|rfl|exact hr|omega|(exfalso;exact hP (by omega))
  ·rw[ax (x:=0) (y:=(i:Int)) (by omega)]
   simp only[aJ,bk,au,cond_true,cond_false]
   by_cases hP:jr l i
   ·rw[if_pos hP];unfold jr jZ ig xU b7 at hP
    repeat' split
    all_goals first|rfl|exact hr|omega
   ·rw[if_neg hP];unfold jr jZ ig xU b7 at hP
    repeat' split
    all_goals first|rfl|exact hr|omega|(exfalso;exact hP (by omega))
 ·unfold uP.l2 uP.dx
  rw[ax (by omega),cond_false]
theorem ey(a b:Int)(y:Bool):cond (bW a b) (some y) (some false)=some (decide (a≤b)&&y):=by
 rw[bk];by_cases h:a≤b<;>simp[h]
theorem AD(a b:Int)(y:Bool):cond (aG a b) (some y) (some false)=some (decide (a<b)&&y):=by
 rw[aJ];by_cases h:a<b<;>simp[h]
theorem AE(a b:Int)(y:Bool):cond (ay a b) (some y) (some false)=some (decide (a=b)&&y):=by
 rw[au];by_cases h:a=b<;>simp[h]
theorem wS(a b:Int)(y z:Bool):cond (ay a b) (some y) (some z)=some ((decide (a=b)&&y)||(!decide (a=b)&&z)):=by
 rw[au];by_cases h:a=b<;>simp[h]
def kW(a b c d e f:Int):Prop:=(1≤a∧a≤1099511627776)∧(1≤b∧b≤24)∧(0≤c∧c<6)∧(d=1∨d=2)∧(1≤e∧e≤1000000000)∧(1≤f∧f≤1000000000000)
instance(a b c d e f:Int):Decidable (kW a b c d e f):=by unfold kW;infer_instance
def ff(o:ck):Prop:=kW o.1 o.2.1 o.2.2.1 o.2.2.2.1 o.2.2.2.2.1 o.2.2.2.2.2.1
instance(o:ck):Decidable (ff o):=by unfold ff;infer_instance
theorem KJ(N:Nat)(o:ck):Oe N o=some (decide (ff o)):=by
 unfold Oe
 rw[kN o.2.2.2.2.2.1]
 rw[ey,ey,ey,AE,wS,AD,ey,ey,ey,ey,ey]
 congr 1
 rw[Bool.eq_iff_iff,decide_eq_true_iff]
 unfold ff kW
 simp only[Bool.and_eq_true,Bool.or_eq_true,Bool.not_eq_true',decide_eq_true_eq,decide_eq_false_iff_not]
 omega
end VM
end
section
namespace VM
open Go VM.F
theorem wT(N:Nat)(p:Int):Uq N p=some (decide (1≤p∧p≤1000000000000)):=by
 unfold Uq
 rw[kN p,ey];congr 1
 rw[Bool.eq_iff_iff];simp only[Bool.and_eq_true,decide_eq_true_eq]
theorem gY(N:Nat)(p:Int):yT N p=some (decide (1≤p∧p≤1000000000000)):=wT N p
theorem sS(N:Nat)(o:ck):KK N o=some (decide (ff o)):=by
 unfold KK
 rw[gY,Option.bind_some]
 repeat (first|rw[ey]|rw[AD]|rw[AE]|rw[wS])
 congr 1
 rw[Bool.eq_iff_iff,decide_eq_true_iff]
 unfold ff kW
 simp only[Bool.and_eq_true,Bool.or_eq_true,Bool.not_eq_true',decide_eq_true_eq,decide_eq_false_iff_not]
 omega
def sd(i:Nat)(a b:Int):Prop:=0<i→a<b
instance(i:Nat)(a b:Int):Decidable (sd i a b):=by unfold sd;infer_instance
def oW(l:aT)(i:Nat):Prop:=ff (l.getD i dP)∧sd i (l.getD (i-1) dP).1 (l.getD i dP).1
instance(l:aT):DecidablePred (oW l):=fun i=>by unfold oW;infer_instance
def ez(l:aT):Bool:=decide (∀j,j<l.length→oW l j)&&decide (l.length≤32)
theorem Db(N:Nat){l:aT}(hl:l.length≤100000)(hN:200000≤N):xV N l=some (ez l):=by
 unfold xV xV.b
 refine eU (F:=fun n i=>xV.l2 N n l l (l.length:Int) i) (oW l) (fun n i r hi hp hr=> ?_) (fun n=> ?_) N (by omega)
 ·unfold xV.l2 xV.dx
  rw[aD (by omega),cond_true,aF (by omega) (by omega),cond_true,Int.toNat_natCast,al (x:=(i:Int)+1) (by omega) (by omega),ae,KJ,Option.bind_some,cond_not,ct]
  by_cases hK:ff (l.getD i dP)
  ·rw[if_pos hK]
   by_cases h0:0<i
   ·have e:W .i64 ((i:Int)-1)=((i-1:Nat):Int):=by rw[al (by omega) (by omega)];omega
    dsimp only
    rw[aD (x:=0) (by omega),cond_true,e,Int.toNat_natCast,aF (by omega) (by omega),cond_true,bk]
    by_cases hP:oW l i
    ·rw[if_pos hP,if_neg (by have h2:=hP.2;unfold sd at h2;omega)];exact hr
    ·rw[if_neg hP,if_pos]
     have h2: ¬sd i (l.getD (i-1) dP).1 (l.getD i dP).1:=fun h=>hP ⟨hK,h⟩
     unfold sd at h2
     omega
   ·rw[ax (x:=0) (by omega),cond_false,if_pos ⟨hK,fun h=>absurd h h0⟩];exact hr
  ·rw[if_neg hK,if_neg (fun h=>hK h.1)]
 ·unfold xV.l2 xV.dx
  rw[ax (by omega),cond_false,kN]
  congr 1;rw[decide_eq_decide];omega
theorem nO(N:Nat){l:aT}(hl:l.length≤100000)(hN:200000≤N):jG N l=some (ez l):=by
 unfold jG jG.b
 by_cases h32:32<l.length
 ·rw[aD (by omega),cond_true];unfold ez
  rw[decide_eq_false (p:=l.length≤32) (by omega),Bool.and_false]
 rw[ax (by omega),cond_false]
 have:=eU (F:=fun n i=>jG.l4 N n l i) (e:=true) (oW l) (fun n i r hi hp hr=> ?_) (fun n=> ?_) N (show l.length<N by omega)
 ·refine Eq.trans this ?_
  unfold ez
  rw[decide_eq_true (p:=l.length≤32) (by omega)]
 ·unfold jG.l4 jG.cA
  rw[aD (by omega),cond_true,aF (by omega) (by omega),cond_true,Int.toNat_natCast,al (x:=(i:Int)+1) (by omega) (by omega),ae,sS,Option.bind_some,cond_not,ct]
  by_cases hK:ff (l.getD i dP)
  ·rw[if_pos hK]
   by_cases h0:0<i
   ·have e:W .i64 ((i:Int)-1)=((i-1:Nat):Int):=by rw[al (by omega) (by omega)];omega
    dsimp only
    rw[aD (x:=0) (by omega),cond_true,cond_true,e,Int.toNat_natCast,aF (by omega) (by omega),cond_true,bk]
    by_cases hP:oW l i
    ·rw[if_pos hP,if_neg (by have h2:=hP.2;unfold sd at h2;omega)];exact hr
    ·rw[if_neg hP,if_pos]
     have h2: ¬sd i (l.getD (i-1) dP).1 (l.getD i dP).1:=fun h=>hP ⟨hK,h⟩
     unfold sd at h2
     omega
   ·rw[ax (x:=0) (by omega),cond_false,if_pos ⟨hK,fun h=>absurd h h0⟩];exact hr
  ·rw[if_neg hK,if_neg (fun h=>hK h.1)]
 ·unfold jG.l4 jG.cA
  rw[ax (by omega),cond_false]
end VM
end
section
namespace VM
open Go VM.F
def gZ(id:Int):av→Int
 |[]=>0
 |x::t=>if x.1=id then x.2.1 else gZ id t
def se(id:Int):aE→br×Bool
 |[]=>(aK,false)
 |x::t=>if x.1=id then(x,true)else se id t
def qv(id:Int):aE→Int
 |[]=>0
 |x::t=>if x.2.1=id then(if x.2.2.1=1 then x.1 else qv id t)else qv id t
theorem vz(id:Int)(x:KL)(t:av):gZ id (x::t)=if x.1=id then x.2.1 else gZ id t:=rfl
theorem qw(id:Int)(x:br)(t:aE):se id (x::t)=if x.1=id then(x,true)else se id t:=rfl
theorem xW(id:Int)(x:br)(t:aE):qv id (x::t)=if x.2.1=id then(if x.2.2.1=1 then x.1 else qv id t)else qv id t:=rfl
theorem Hp(N:Nat){m:av}(hl:m.length≤100000)(hN:200000≤N)(id:Int):vA.l4 N N id m (m.length:Int) 0=some (gZ id m):=by
 refine vw m bI (fun n i=>vA.l4 N n id m (m.length:Int) i) (fun l=>some (gZ id l)) (fun n i hi hr=> ?_) (fun n=> ?_) N (by omega)
 ·unfold vA.l4 vA.cA
  rw[aD (by omega),cond_true,aF (by omega) (by omega),cond_true,Int.toNat_natCast,al (x:=(i:Int)+1) (by omega) (by omega),ae,hr,au]
  rw[vz]
  split<;>rfl
 ·unfold vA.l4 vA.cA
  rw[ax (by omega),cond_false];rfl
theorem kX(N:Nat){m:av}(hl:m.length≤100000)(hN:200000≤N)(id:Int):jH N m id=some (gZ id m):=by
 unfold jH jH.b
 refine vw m bI (fun n i=>jH.l2 N n m id i) (fun l=>some (gZ id l)) (fun n i hi hr=> ?_) (fun n=> ?_) N (by omega)
 ·unfold jH.l2 jH.dx
  rw[aD (by omega),cond_true,aF (by omega) (by omega),cond_true,cond_true,Int.toNat_natCast,al (x:=(i:Int)+1) (by omega) (by omega),ae,hr,au]
  rw[vz]
  split<;>rfl
 ·unfold jH.l2 jH.dx
  rw[ax (by omega),cond_false];rfl
def lP(m:av)(id:Int):Int:=if jq m then gZ id m else 0
theorem wU(N:Nat){m:av}(hl:m.length≤100000)(hN:200000≤N)(id:Int):vA N m id=some (lP m id):=by
 unfold vA vA.b lP
 rw[Az N hl hN,Option.bind_some,cond_not,Hp N hl hN]
 cases jq m<;>rfl
theorem uh(N:Nat){m:av}(hl:m.length≤100000)(hN:200000≤N)(id:Int):vB N m id=some (lP m id):=by
 unfold vB lP
 rw[oU N hl hN,Option.bind_some,cond_not,kX N hl hN]
 cases jq m<;>rfl
theorem Of(N:Nat){m:aE}(hl:m.length≤100000)(hN:200000≤N)(id:Int):kY.l4 N N id aK m (m.length:Int) 0=some (se id m):=by
 refine vw m aK (fun n i=>kY.l4 N n id aK m (m.length:Int) i) (fun l=>some (se id l)) (fun n i hi hr=> ?_) (fun n=> ?_) N (by omega)
 ·unfold kY.l4 kY.cA
  rw[aD (by omega),cond_true,aF (by omega) (by omega),cond_true,Int.toNat_natCast,al (x:=(i:Int)+1) (by omega) (by omega),ae,hr,au]
  rw[qw]
  split<;>rfl
 ·unfold kY.l4 kY.cA
  rw[ax (by omega),cond_false];rfl
theorem vC(N:Nat){m:aE}(hl:m.length≤100000)(hN:200000≤N)(id:Int):kG N m id=some (se id m):=by
 unfold kG kG.b
 refine vw m aK (fun n i=>kG.l2 N n m id aK i) (fun l=>some (se id l)) (fun n i hi hr=> ?_) (fun n=> ?_) N (by omega)
 ·unfold kG.l2 kG.dx
  rw[aD (by omega),cond_true,aF (by omega) (by omega),cond_true,cond_true,Int.toNat_natCast,al (x:=(i:Int)+1) (by omega) (by omega),ae,hr,au]
  rw[qw]
  split<;>rfl
 ·unfold kG.l2 kG.dx
  rw[ax (by omega),cond_false];rfl
theorem Hr(N:Nat){m:aE}(hl:m.length≤100000)(hN:200000≤N)(id:Int):ui.l4 N N m id 0=some (qv id m):=by
 refine vw m aK (fun n i=>ui.l4 N n m id i) (fun l=>some (qv id l)) (fun n i hi hr=> ?_) (fun n=> ?_) N (by omega)
 ·unfold ui.l4 ui.cA
  rw[aD (by omega),cond_true,aF (by omega) (by omega)]
  simp only[cond_true]
  rw[Int.toNat_natCast,al (x:=(i:Int)+1) (by omega) (by omega),ae,hr,au,au]
  rw[xW]
  split
  ·split<;>rfl
  ·rfl
 ·unfold ui.l4 ui.cA
  rw[ax (by omega),cond_false];rfl
end VM
end
section
namespace VM
open Go VM.F
def gf(a b:Int):Prop:=a=b
instance(a b:Int):Decidable (gf a b):=by unfold gf;infer_instance
def tH(l:aE)(k:Nat)(m:Int):Prop:=gf (l.getD k aK).2.2.1 1∧gf (l.getD k aK).2.1 m
instance(l:aE)(k:Nat)(m:Int):Decidable (tH l k m):=by unfold tH;infer_instance
def iP(l:aE)(i:Nat)(m:Int):Bool:=(List.range i).any fun k=>decide (tH l k m)
theorem Hs{l:aE}{i:Nat}{m:Int}:iP l i m=true↔ ∃k,k<i∧tH l k m:=by
 unfold iP
 rw[List.any_eq_true]
 simp only[List.mem_range,decide_eq_true_iff]
theorem qx(l:aE)(i:Nat)(m:Int):iP l (i+1) m=(iP l i m||decide (tH l i m)):=by
 unfold iP
 rw[List.range_succ,List.any_append];simp
def iZ(a b c d:Int):Prop:=(1≤a∧a≤24)∧(1≤b∧b≤12)∧(c=1∨c=2)∧(0≤d∧d≤1000000000000)
instance(a b c d:Int):Decidable (iZ a b c d):=by unfold iZ;infer_instance
def gH(l:aE)(i:Nat):Prop:= ¬(gf (l.getD i aK).2.2.1 1∧iP l i (l.getD i aK).2.1=true)
instance(l:aE)(i:Nat):Decidable (gH l i):=by unfold gH;infer_instance
def vD(l:aE)(i:Nat):Prop:=iZ (l.getD i aK).1 (l.getD i aK).2.1 (l.getD i aK).2.2.1 (l.getD i aK).2.2.2.1∧sd i (l.getD (i-1) aK).1 (l.getD i aK).1∧gH l i
instance(l:aE):DecidablePred (vD l):=fun i=>by unfold vD;infer_instance
def j1(l:aE):Bool:=decide (∀j,j<l.length→vD l j)&&true
def dy(l:aE)(i:Nat):List Bool:=(List.range 13).map fun(m:Nat)=>iP l i (m:Int)
theorem Og{l:aE}{i:Nat}{b:Int}(h0:0≤b)(h1:b<13):(dy l i).getD b.toNat false=iP l i b:=by
 unfold dy
 rw[List.getD_eq_getElem?_getD,List.getElem?_map,List.getElem?_range (by omega)]
 show iP l i ((b.toNat:Nat):Int)=_
 rw[Int.toNat_of_nonneg h0]
theorem Ht{l:aE}{i:Nat}(h: ¬gf (l.getD i aK).2.2.1 1):dy l (i+1)=dy l i:=by
 unfold dy
 refine List.map_congr_left fun m _=> ?_
 rw[qx,decide_eq_false (fun h'=>h h'.1),Bool.or_false]
theorem KM{l:aE}{i:Nat}(h:gf (l.getD i aK).2.2.1 1)(h0:(0:Int)≤(l.getD i aK).2.1):(dy l i).set ((l.getD i aK).2.1:Int).toNat true=dy l (i+1):=by
 refine List.ext_getElem (by unfold dy;simp) fun k h1 h2=> ?_
 unfold dy at*
 rw[List.getElem_set]
 simp only[List.getElem_map,List.getElem_range]
 rw[qx]
 by_cases hk:((l.getD i aK).2.1:Int).toNat=k
 ·rw[if_pos hk,decide_eq_true (show tH l i (k:Int)from⟨h,by unfold gf;omega⟩),Bool.or_true]
 ·rw[if_neg hk,decide_eq_false (fun h':tH l i (k:Int)=>hk (by have:=h'.2;unfold gf at this;omega)),Bool.or_false]
theorem MI(N:Nat){l:aE}(hl:l.length≤100000)(hN:200000≤N):jI N l=some (j1 l):=by
 unfold jI jI.b
 have h0:(List.replicate 13 false:List Bool)=dy l 0:=by unfold dy iP;rfl
 rw[h0]
 have:=eU (F:=fun n i=>jI.l3 N n l (dy l i.toNat) l (l.length:Int) i) (e:=true) (vD l) (fun n i r hi hp hr=> ?_) (fun n=> ?_) N (show l.length<N by omega)
 ·exact this
 ·simp only[Int.toNat_natCast]at hr ⊢
  unfold jI.l3 jI.jP
  rw[aD (by omega),cond_true,aF (by omega) (by omega),cond_true]
  simp only[Int.toNat_natCast]
  rw[al (x:=(i:Int)+1) (by omega) (by omega),ae]
  by_cases hF:iZ (l.getD i aK).1 (l.getD i aK).2.1 (l.getD i aK).2.2.1 (l.getD i aK).2.2.2.1
  ·have MJ:=hF
   unfold iZ at MJ
   have hT:cond (ay (l.getD i aK).2.2.1 1) (cond (aH (l.getD i aK).2.1 13) (cond (List.getD (dy l i) (l.getD i aK).2.1.toNat false) (some false) (cond (aH (l.getD i aK).2.1 13) (jI.l3 N n l (List.set (dy l i) (l.getD i aK).2.1.toNat true) l (l.length:Int) ((i+1:Nat):Int)) none)) none) (jI.l3 N n l (dy l i) l (l.length:Int) ((i+1:Nat):Int))=if gH l i then r else some false:=by
    rw[au]
    by_cases hk:gf (l.getD i aK).2.2.1 1
    ·have zX:=hk
     unfold gf at zX
     rw[if_pos zX,aF (by omega) (by omega),cond_true,cond_true,Og (by omega) (by omega),KM hk (by omega),hr]
     by_cases ho:iP l i (l.getD i aK).2.1=true
     ·have pC: ¬gH l i:=fun h=>h ⟨hk,ho⟩
      rw[if_neg pC,ho];rfl
     ·have pC:gH l i:=fun h=>ho h.2
      rw[if_pos pC,Bool.eq_false_iff.2 ho];rfl
    ·have zX:=hk
     unfold gf at zX
     rw[if_neg zX,if_pos (show gH l i from fun h=>hk h.1),←Ht hk,hr]
   have hP:vD l i↔sd i (l.getD (i-1) aK).1 (l.getD i aK).1∧gH l i:=⟨fun h=>h.2,fun h=>⟨hF,h⟩⟩
   have hD:(if vD l i then r else some false)=if sd i (l.getD (i-1) aK).1 (l.getD i aK).1 then(if gH l i then r else some false)else some false:=by
    by_cases h1:sd i (l.getD (i-1) aK).1 (l.getD i aK).1<;>by_cases h2:gH l i<;>simp[hP,h1,h2]
   rw[hD]
   rw[hT]
   rw[ax (by omega),cond_false,ax (by omega),cond_false,ax (by omega),cond_false,ax (by omega),cond_false,ax (x:=(l.getD i aK).2.2.2.1) (by omega),ax (x:=1000000000000) (by omega)]
   simp only[cond_false]
   have hm: ∀{α:Type} (x:α) (y:α),cond (!ay (l.getD i aK).2.2.1 1) (cond (!ay (l.getD i aK).2.2.1 2) y x) x=x:=by
    intro α x y
    rcases MJ.2.2.1 with h|h
    ·rw[cM h];rfl
    ·rw[cM (y:=2) h];cases ay (l.getD i aK).2.2.1 1<;>rfl
   rw[hm]
   by_cases h0:0<i
   ·have e:W .i64 ((i:Int)-1)=((i-1:Nat):Int):=by rw[al (by omega) (by omega)];omega
    rw[aD (x:=0) (by omega),cond_true,e,Int.toNat_natCast,aF (by omega) (by omega),cond_true,bk]
    by_cases h1:sd i (l.getD (i-1) aK).1 (l.getD i aK).1
    ·rw[if_pos h1,if_neg (by unfold sd at h1;omega)]
    ·rw[if_neg h1,if_pos (by unfold sd at h1;omega)]
   ·rw[ax (x:=0) (by omega),cond_false,if_pos (show sd i (l.getD (i-1) aK).1 (l.getD i aK).1 from fun h=>absurd h h0)]
  ·rw[if_neg (fun h=>hF h.1)]
   unfold iZ at hF
   generalize cond (ay (l.getD i aK).2.2.1 1) (cond (aH (l.getD i aK).2.1 13) (cond (List.getD (dy l i) (l.getD i aK).2.1.toNat false) (some false) (cond (aH (l.getD i aK).2.1 13) (jI.l3 N n l (List.set (dy l i) (l.getD i aK).2.1.toNat true) l (l.length:Int) ((i+1:Nat):Int)) none)) none) (jI.l3 N n l (dy l i) l (l.length:Int) ((i+1:Nat):Int))=t
   generalize cond (aG 0 (i:Int)) _ _=u
   simp only[cond_not,aJ,au]
   repeat' split
   all_goals first|rfl|omega
 ·unfold jI.l3 jI.jP
  rw[ax (by omega),cond_false]
end VM
end
section
namespace VM
open Go VM.F
theorem wV(N:Nat)(K:aE→Int→Option Bool){l:aE}(hl:l.length≤100000){i:Nat}(hi:i<l.length): ∀(m n k:Nat),i-k≤m→m<n→k≤i→(gf (l.getD i aK).2.2.1 1→iP l k (l.getD i aK).2.1=false)→
  iQ.l8 N K n l (i:Int) (l.getD i aK) (k:Int)=if gH l i then K l ((i+1:Nat):Int)else some false
 |m,0,k,_,hn,_,_=>by omega
 |m,n+1,k,hm,hn,hk,h=>by
  unfold iQ.l8 iQ.zt
  by_cases Ab:k<i
  ·rw[aD (by omega),cond_true,aF (by omega) (by omega),cond_true,cond_true,Int.toNat_natCast,al (x:=(k:Int)+1) (by omega) (by omega),ae,au,au,au]
   by_cases h1:gf (l.getD i aK).2.2.1 1
   ·have mU:=h1
    unfold gf at mU
    rw[if_pos mU]
    by_cases h2:tH l k (l.getD i aK).2.1
    ·have tE:=h2
     unfold tH gf at tE
     have pC: ¬gH l i:=fun h3=>h3 ⟨h1,Hs.2 ⟨k,Ab,h2⟩⟩
     rw[if_pos tE.1,if_pos tE.2,if_neg pC]
    ·have vx:=wV N K hl hi (m-1) n (k+1) (by omega) (by omega) (by omega) (fun _=>by rw[qx,h h1,decide_eq_false h2];rfl)
     split
     ·split
      ·rename_i h3 h4
       exact absurd (show tH l k (l.getD i aK).2.1 from⟨h3,h4⟩) h2
      ·exact vx
     ·exact vx
   ·have mU:=h1
    unfold gf at mU
    rw[if_neg mU]
    exact wV N K hl hi (m-1) n (k+1) (by omega) (by omega) (by omega) (fun h=>absurd h h1)
  ·have:k=i:=by omega
   subst this
   have pC:gH l k:=fun h3=>by rw[h h3.1]at h3;exact nomatch h3.2
   rw[ax (by omega),cond_false,if_pos pC,al (x:=(k:Int)+1) (by omega) (by omega)];rfl
set_option maxHeartbeats 2000000 in
theorem vE(N:Nat){l:aE}(hl:l.length≤100000)(hN:200000≤N):iQ N l=some (j1 l):=by
 unfold iQ iQ.b
 refine eU (F:=fun n i=>iQ.l2 N n l i) (vD l) (fun n i r hi hp hr=> ?_) (fun n=> ?_) N (by omega)
 ·unfold iQ.l2 iQ.dx
  have hT:iQ.j7 N (iQ.l2 N n) l (i:Int) (l.getD i aK)=if gH l i then r else some false:=by
   unfold iQ.j7 iQ.Kz
   have:=wV N (iQ.l2 N n) hl hi i N 0 (by omega) (by omega) (by omega) (fun _=>rfl)
   rw[hr]at this
   exact this
  rw[aD (by omega),cond_true,aF (by omega) (by omega),cond_true]
  simp only[Int.toNat_natCast]
  rw[hT]
  have hD:(if vD l i then r else some false)=if iZ (l.getD i aK).1 (l.getD i aK).2.1 (l.getD i aK).2.2.1 (l.getD i aK).2.2.2.1∧sd i (l.getD (i-1) aK).1 (l.getD i aK).1 then(if gH l i then r else some false)else some false:=by
   unfold vD
   by_cases h1:sd i (l.getD (i-1) aK).1 (l.getD i aK).1<;>by_cases h2:gH l i<;>by_cases h3:iZ (l.getD i aK).1 (l.getD i aK).2.1 (l.getD i aK).2.2.1 (l.getD i aK).2.2.2.1<;>simp[h1,h2,h3]
  rw[hD]
  generalize (if gH l i then r else some false)=t
  by_cases h0:0<i
  ·have e:W .i64 ((i:Int)-1)=((i-1:Nat):Int):=by rw[al (by omega) (by omega)];omega
   rw[aD (x:=0) (y:=(i:Int)) (by omega),e]
   simp only[cond_true,Int.toNat_natCast]
   rw[aF (i:=((i-1:Nat):Int)) (by omega) (by omega)]
   simp only[cond_not,aJ,bk,au,cond_true]
   by_cases hP:iZ (l.getD i aK).1 (l.getD i aK).2.1 (l.getD i aK).2.2.1 (l.getD i aK).2.2.2.1∧sd i (l.getD (i-1) aK).1 (l.getD i aK).1
   ·rw[if_pos hP];unfold iZ sd at hP
    repeat' split
    all_goals first|rfl|omega
   ·rw[if_neg hP];unfold iZ sd at hP
    repeat' split
    all_goals first|rfl|omega
  ·rw[ax (x:=0) (y:=(i:Int)) (by omega)]
   simp only[cond_not,aJ,bk,au,cond_true,cond_false]
   by_cases hP:iZ (l.getD i aK).1 (l.getD i aK).2.1 (l.getD i aK).2.2.1 (l.getD i aK).2.2.2.1∧sd i (l.getD (i-1) aK).1 (l.getD i aK).1
   ·rw[if_pos hP];unfold iZ sd at hP
    repeat' split
    all_goals first|rfl|omega
   ·rw[if_neg hP];unfold iZ sd at hP
    repeat' split
    all_goals first|rfl|omega
 ·unfold iQ.l2 iQ.dx
  rw[ax (by omega),cond_false]
end VM
end
section
namespace VM
open Go VM.F
def dL(a:aE)(id:Int):br×Bool:=if j1 a then se id a else(aK,false)
theorem MK(N:Nat){a:aE}(hl:a.length≤100000)(hN:200000≤N)(id:Int):kY N a id=some (dL a id):=by
 unfold kY kY.b dL
 rw[MI N hl hN,Option.bind_some,cond_not,Of N hl hN]
 cases j1 a<;>rfl
theorem AF(N:Nat){a:aE}(hl:a.length≤100000)(hN:200000≤N)(id:Int):AG N a id=some (dL a id):=by
 unfold AG dL
 rw[vE N hl hN,Option.bind_some,cond_not,vC N hl hN]
 cases j1 a<;>rfl
def EO(a:aE)(id:Int):Int:=if j1 a then qv id a else 0
theorem Dc(N:Nat){a:aE}(hl:a.length≤100000)(hN:200000≤N)(id:Int):ui N a id=some (EO a id):=by
 unfold ui ui.b EO
 rw[vE N hl hN,Option.bind_some,cond_not,Hr N hl hN]
 cases j1 a<;>rfl
def g5(m:av)(a:aE)(i:Nat):Prop:= ¬gf (gZ (a.getD i aK).2.1 m) 0
instance(m:av)(a:aE):DecidablePred (g5 m a):=fun i=>by unfold g5;infer_instance
def sf(m:av)(a:aE):Bool:=jq m&&(j1 a&&(decide (∀j,j<a.length→g5 m a j)&&true))
theorem Ur(N:Nat){m:av}{a:aE}(hm:m.length≤100000)(hl:a.length≤100000)(hN:200000≤N):yU N m a=some (sf m a):=by
 unfold yU yU.b sf
 rw[Az N hm hN,Option.bind_some,cond_not,MI N hl hN,Option.bind_some,cond_not]
 cases hM:jq m
 ·rfl
 cases j1 a
 ·rfl
 rw[Bool.true_and,Bool.true_and,cond_true,cond_true]
 refine eU (F:=fun n i=>yU.l4 N n m a (a.length:Int) i) (g5 m a) (fun n i r hi hp hr=> ?_) (fun n=> ?_) N (by omega)
 ·unfold yU.l4 yU.cA
  rw[aD (by omega),cond_true,aF (by omega) (by omega),cond_true,Int.toNat_natCast,al (x:=(i:Int)+1) (by omega) (by omega),ae,wU N hm hN,Option.bind_some,au]
  unfold lP
  rw[hM,if_pos rfl]
  by_cases hP:g5 m a i
  ·rw[if_pos hP,if_neg (show ¬((gZ (a.getD i aK).2.1 m:Int)=0)from fun h=>hP h)];exact hr
  ·rw[if_neg hP,if_pos (show(gZ (a.getD i aK).2.1 m:Int)=0 by unfold g5 at hP;exact Decidable.not_not.1 hP)]
 ·unfold yU.l4 yU.cA
  rw[ax (by omega),cond_false]
theorem AH(N:Nat){m:av}{a:aE}(hm:m.length≤100000)(hl:a.length≤100000)(hN:200000≤N):kZ N m a=some (sf m a):=by
 unfold kZ kZ.b sf
 rw[oU N hm hN,Option.bind_some,cond_not,vE N hl hN,Option.bind_some,cond_not]
 cases hM:jq m
 ·rfl
 cases j1 a
 ·rfl
 rw[Bool.true_and,Bool.true_and,cond_true,cond_true]
 refine eU (F:=fun n i=>kZ.l4 N n m a i) (g5 m a) (fun n i r hi hp hr=> ?_) (fun n=> ?_) N (by omega)
 ·unfold kZ.l4 kZ.cA
  rw[aD (by omega),cond_true,aF (by omega) (by omega),cond_true,Int.toNat_natCast,al (x:=(i:Int)+1) (by omega) (by omega),ae,kX N hm hN,Option.bind_some,au]
  by_cases hP:g5 m a i
  ·rw[if_pos hP,if_neg (show ¬((gZ (a.getD i aK).2.1 m:Int)=0)from fun h=>hP h)];exact hr
  ·rw[if_neg hP,if_pos (show(gZ (a.getD i aK).2.1 m:Int)=0 by unfold g5 at hP;exact Decidable.not_not.1 hP)]
 ·unfold kZ.l4 kZ.cA
  rw[ax (by omega),cond_false]
end VM
end
section
namespace VM
open Go VM.F
theorem QQ(a b:aS):jO (.pair (.int .i64) (.pair (.int .u64) .unit)) a b=(ay a.1 b.1&&(ay a.2.1 b.2.1&&true)):=rfl
theorem vF(N:Nat){u v:Int}:Cs N (bg u) (bg v)=some (lL (u-v)):=by
 unfold Cs
 rw[QQ]
 unfold bg
 dsimp only
 unfold lL
 rw[aJ,au,aJ,Bool.and_true,gb,gb]
 have hu:u=u/18446744073709551616*18446744073709551616+u%18446744073709551616:=by omega
 have hv:v=v/18446744073709551616*18446744073709551616+v%18446744073709551616:=by omega
 by_cases h1:u/18446744073709551616<v/18446744073709551616
 ·rw[if_pos h1];congr 1;split<;>(try split)<;>omega
 ·rw[if_neg h1]
  by_cases h2:u/18446744073709551616=v/18446744073709551616
  ·rw[if_pos h2,decide_eq_true h2,Bool.true_and]
   by_cases h3:u%18446744073709551616<v%18446744073709551616
   ·rw[if_pos h3];congr 1;split<;>(try split)<;>omega
   ·rw[if_neg h3]
    by_cases h4:u%18446744073709551616=v%18446744073709551616
    ·rw[decide_eq_true h4,cond_true];congr 1;split<;>(try split)<;>omega
    ·rw[decide_eq_false h4,cond_false];congr 1;split<;>(try split)<;>omega
  ·rw[if_neg h2,decide_eq_false h2,Bool.false_and,cond_false];congr 1;split<;>(try split)<;>omega
theorem KN:bg 0=bI:=rfl
theorem nP(N:Nat){u:Int}:Pz N (bg u)=some (lL u):=by
 unfold Pz
 rw[←KN,vF,Option.bind_some,Int.sub_zero]
end VM
end
