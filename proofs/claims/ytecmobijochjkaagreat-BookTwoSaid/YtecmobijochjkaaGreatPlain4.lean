/- A part of the proof of BookTwo of layer 18: what the functions compute, in plain words. -/
import Derived.Test.YtecmobijochjkaaGreatPlain3
set_option linter.all false
section
namespace VM
open Go VM.F
theorem qi{a b:List Int}(hl:a.length=b.length)(h: ∀i,i<a.length→a.getD i 0=b.getD i 0):a=b:=by
 refine List.ext_getElem hl (λi h1 h2=> ?_)
 have:=h i h1
 rwa [aV,bo h1,aV,bo h2]at this
theorem UM: ∀(ks q:List Int) (i:Nat),ks.Nodup→(∀k∈ks,0≤k∧k<q.length)→(bump q ks).getD i 0=q.getD i 0+(if(i:Int)∈ks then 1 else 0)
 |[],q,i,_,_=>by simp[bump]
 |k::t,q,i,hn,h=>by
  have hk:=h k (bq ..)
  rw[AT]at hn
  unfold bump
  rw[UM t _ i hn.2 (λx hx=>by rw[bN];exact h x (aZ _ hx))]
  by_cases hik:(i:Int)=k
  ·rw[ah (by rw[hik];exact hn.1),aj (by rw[hik];exact bq ..),←hik,aI,ny q _ ω];omega
  ·rw[getD_set_ne q _ ω]
   by_cases ht:(i:Int)∈t
   ·rw[aj ht,aj (aZ _ ht)]
   ·rw[ah ht,ah (λhc=>by rcases a8.1 hc with hc|hc;exact hik hc;exact ht hc)]
theorem Pu(l:List Int):(ly l).Nodup:=(pj l l.length).imp (λ{a b} h he=>by unfold zK at h;rw[he]at h;omega)
theorem UN(t S:Int)(hS:0<S): ∀u:List Int,(mi t S u).sum≤u.length*S
 |[]=>by simp[mi]
 |x::u=>by
  have ih:=UN t S hS u
  have:=AJ (t*x) hS
  unfold mi at*
  rw[bQ,cE,aT,Int.natCast_add,nX];simp;omega
def nD(t:Int)(w:List Int):Int:=t-(ti t w.sum w).sum
theorem left_eq(t:Int)(w:List Int):w.sum*nD t w=(mi t w.sum w).sum:=by
 have:=Mp t w.sum w
 unfold nD;rw[Int.mul_sub,jl w.sum t];omega
theorem HL{t:Int}{w:List Int}(ht:0≤t)(hS:0<w.sum):0≤nD t w:=by
 have:=ZP ht hS (fR _);unfold nD;omega
theorem UO{t:Int}{w:List Int}(hS:0<w.sum):nD t w≤w.length:=by
 have h1:=left_eq t w
 have h2:=UN t w.sum hS w
 rw[←h1,jl (w.length:Int)]at h2
 exact Ny h2 hS
theorem pk(t:Int)(w:List Int):(cm t w).length=w.length:=by unfold cm;rw[Pp,yg]
theorem wg{t:Int}{w:List Int}(ht:0≤t)(hS:0<w.sum):(cm t w).sum=t:=by
 unfold cm
 have h1:=HL ht hS
 have h2:=UO (t:=t) hS
 unfold nD at*
 rw[Pr _ _ (λk hk=>by have:=HK _ k (lH hk);rw[qh]at this;rwa [yg]),bZ,Am,qh]
 omega
theorem Ao{f:Int→Int}{c:Int}: ∀{o:List Int},(∀x∈o,f x≤c)→(o.map f).sum≤o.length*c
 |[],_=>by simp
 |x::o,h=>by
  have ih:=Ao (f:=f) (c:=c) (o:=o) (λy hy=>h y (aZ _ hy))
  have:=h x (bq ..)
  rw[bQ,cE,aT,Int.natCast_add,nX];simp;omega
theorem S5{l o:List Int}(h:o.Pairwise (zK l)){m:Nat}{x y:Int}(hx:x∈o.take m)(hy:y∈o.drop m):zK l x y:=by
 rw[←gL m o,xc]at h
 exact h.2.2 x hx y hy
theorem WL{t:Int}{w:List Int}(ht:0≤t)(hS:0<w.sum){i:Int}(hi:i∈(ly (mi t w.sum w)).take (nD t w).toNat):0<B3 (mi t w.sum w) i:=by
 have N9: ∀k:Int,0≤B3 (mi t w.sum w) k:=λk=>iL (Ps hS) _
 have eU: ∀k:Int,B3 (mi t w.sum w) k≤w.sum-1:=λk=>by
  unfold B3;rw[UL]
  have:=AJ (t*w.getD k.toNat 0) hS;omega
 have h0:=N9 i
 rcases Int.lt_or_le 0 (B3 (mi t w.sum w) i)with h|h
 ·exact h
 exfalso
 have JB:=S3 (mi t w.sum w) (mi t w.sum w) rfl
 rw[←left_eq]at JB
 have awm:=gL (nD t w).toNat (ly (mi t w.sum w))
 rw[←awm,dj,nS]at JB
 have hd:(((ly (mi t w.sum w)).drop (nD t w).toNat).map (B3 (mi t w.sum w))).sum≤((ly (mi t w.sum w)).drop (nD t w).toNat).length*0:=Ao (λy hy=>by
  have:=S5 (pj _ _) hi hy
  unfold zK at this;omega)
 have htk:(((ly (mi t w.sum w)).take (nD t w).toNat).map (B3 (mi t w.sum w))).sum≤((ly (mi t w.sum w)).take (nD t w).toNat).length*(w.sum-1):=Ao (λy _=>eU y)
 have h1:=HL ht hS
 have h2:=UO (t:=t) hS
 rw[bZ,Am,qh,ik ω,Int.mul_sub]at htk
 rw[AX]at hd
 have h3:(((nD t w).toNat:Nat):Int)=nD t w:=ω
 have h4:0<(nD t w).toNat:=by
  rcases Nat.eq_zero_or_pos (nD t w).toNat with h|h
  ·rw[h,my]at hi;nomatch hi
  ·exact h
 rw[h3,jl (nD t w)]at htk
 omega
def extra(t:Int)(w:List Int)(i:Nat):Int:=if(i:Int)∈(ly (mi t w.sum w)).take (nD t w).toNat then 1 else 0
theorem KG(t:Int)(w:List Int)(i:Nat):(cm t w).getD i 0=t*w.getD i 0/w.sum+extra t w i:=by
 unfold cm
 rw[UM _ _ i ((Pu _).sublist (List.take_sublist ..)) (λk hk=>by have:=HK _ k (lH hk);rw[qh]at this;rwa [yg]),UK]
 rfl
theorem KH(t:Int)(w:List Int)(i:Nat):extra t w i=0∨extra t w i=1:=by unfold extra;split<;>omega
theorem WM{t:Int}{w:List Int}(ht:0≤t)(hS:0<w.sum){i:Nat}(h:extra t w i=1):0<t*w.getD i 0%w.sum:=by
 unfold extra at h
 by_cases hi:(i:Int)∈(ly (mi t w.sum w)).take (nD t w).toNat
 ·have:=WL ht hS hi
  unfold B3 at this;rwa [UL,aI]at this
 ·rw[ah hi]at h;omega
theorem wh{t:Int}{w:List Int}(ht:0≤t)(hS:0<w.sum)(hw:Pos w):Pos (cm t w):=λx hx=>by
 obtain⟨i,hi,rfl⟩:=rO.1 hx
 have:=KG t w i
 rw[aV,bo hi]at this
 have h1:=KH t w i
 have h2:0≤t*w.getD i 0/w.sum:=uC (uF ht (iL hw i)) ω
 simp only[nR]at this
 omega
theorem Es{t:Int}{w:List Int}(ht:0≤t)(hS:0<w.sum){i:Nat}(h:w.getD i 0=0):(cm t w).getD i 0=0:=by
 rw[KG,h]
 rcases KH t w i with h1|h1
 ·rw[h1];simp
 ·have:=WM ht hS h1
  rw[h]at this;simp at this
theorem Et(N:Nat)(hN:5000000≤N){t:Int}{w:List Int}(ht:0≤t)(w5:t<9223372036854775808)(hw:w.length≤64)(hp:Pos w)(hS:0<w.sum)(hS1:w.sum<9223372036854775808):
  ∀(m n i:Nat) (q r:List Int),w.length-i≤m→m<n→i≤w.length→q.length=w.length→r.length=w.length→q.take i=ti t w.sum (w.take i)→r.take i=mi t w.sum (w.take i)→
  gu.KI N n t w (dz w.sum) q r (t-(ti t w.sum (w.take i)).sum) (i:Int)=some (cm t w,0)
 |m,0,i,q,r,_,hn,_,_,_,_,_=>ω
 |m,n+1,i,q,r,hm,hn,hi,hq,hr,eq,er=>by
  unfold gu.KI gu.HM
  by_cases h:i<w.length
  ·have hwi:=iL hp i
   have awn:=An hp i
   have hb:=mul_lt ht hwi (show t≤9223372036854775807 by omega) (show w.getD i 0≤9223372036854775807 by omega)
   have hqi:t*w.getD i 0/w.sum≤t:=Int.ediv_le_of_le_mul hS (yI awn ht)
   have aDS:0≤t*w.getD i 0/w.sum:=uC hb.1 ω
   have hri:=AJ (t*w.getD i 0) hS
   have aDT:=Gc (t*w.getD i 0) (show w.sum≠0 by omega)
   have hs0:=ZP ht hS (Er hp i)
   have Ni:=kJ (HI ht (by omega:0≤w.sum) (Pq hp i))
   have ft:Fit t 2:=Fit.i64 ω ω
   have fw:Fit (w.getD i 0) 2:=Fit.i64 ω ω
   have fS:Fit w.sum 2:=Fit.i64 ω ω
   rw[aR ω,ak,dC N ω ω w5,ar,aW ω ω,ak,aI,dC N ω ω ω,ar,
    xW N ω (ft.mono ω) (fw.mono ω),ar,Ur N ω hS ((ft.mul fw).mono ω) (fS.mono ω),ar]
   dsimp only
   rw[uq,ar,Mq ω ω,uq,Mq ω ω]
   dsimp only
   rw[ar,aW ω ω,ak,aW ω ω,ak,bN,aW ω ω,ak,ny q _ ω,aw (x:=(i:Int)+1) ω ω,aw ω ω]
   have BI:=Et N hN ht w5 hw hp hS hS1 (m-1) n (i+1) (q.set i (t*w.getD i 0/w.sum)) (r.set i (t*w.getD i 0%w.sum)) ω ω ω (by rw[bN];exact hq) (by rw[bN];exact hr)
    (by rw[take_set q _ ω,eq,iT w h];unfold ti;simp)
    (by rw[take_set r _ ω,er,iT w h];unfold mi;simp)
   rw[←KF,mH _ (by rw[yg];exact h),UK,KF]at BI
   rw[Int.sub_sub]
   exact BI
  ·have nZ:i=w.length:=ω
   subst nZ
   rw[iy ω,iy ω]at eq er
   subst eq er
   rw[iy ω]
   have Ni:=kJ (HI ht (by omega:0≤w.sum) hp)
   have h1:=HL ht hS
   unfold nD at h1
   rw[aP ω,av,WK N (by rw[qh];omega) (by rw[qh];omega),ar]
   have hlen:=Am (mi t w.sum w)
   rw[qh]at hlen
   have xC:=HJ N (ks:=ly (mi t w.sum w)) ω w.length (λk hk=>by have:=HK _ k hk;rwa [qh]at this) 1000 N 0 (t-(ti t w.sum w).sum).toNat (ti t w.sum w) ω ω ω (yg ..) (HI ht ω hp) ω ω
   rw[cQ,xd h1]at xC
   exact xC
theorem Dc(N:Nat)(hN:5000000≤N){t:Int}{w:List Int}(w5:t<9223372036854775808)(hw:KE w)(hl:w.length≤1000000):gu N t w=some (sI t w):=by
 unfold gu gu.b sI
 rw[HH N ω,ar]
 by_cases h1:t<0
 ·rw[aU h1,Bool.true_or,ak,aj (.inl h1)]
 rw[bu h1,rW]
 cases h2:may w
 ·rw[dp,ak,aj (.inr rfl)]
 rw[bh,av,ah (by simp[h1]),Ae N ω hw hl,ar,ob,ar]
 obtain⟨HN,hp⟩:=pJ.1 h2
 have hS0:=kJ hp
 have hj: ∀h: ¬9223372036854775808≤w.sum,gu.j6 N t w (dz w.sum)=if w.sum=0 then some (List.replicate w.length 0,0)else some (cm t w,0):=λh=>by
  unfold gu.j6 gu.ON
  rw[uq,ar,Mq ω ω,bh,av,c9 ω ω ω,ak,ak,ob,ar,aI]
  by_cases h4:w.sum=0
  ·rw[aj h4,h4,show w7 0=0 from rfl,dZ rfl,ak]
  ·rw[ah h4,eR (by unfold w7;repeat' split<;>omega),av]
   have:=Et N hN ω w5 HN hp ω ω w.length N 0 (List.replicate w.length 0) (List.replicate w.length 0) ω ω ω (c4 ..) (c4 ..) rfl rfl
   rw[my]at this
   simp only[ti,gM,jm,Gi]at this
   exact this
 by_cases h3:9223372036854775808≤w.sum
 ·rw[aj h3,eR (by unfold w7;repeat' split<;>omega),av]
  unfold gu.j6 gu.ON
  rw[uq,ar];unfold CO;rw[ah ω];rfl
 rw[ah h3,hj h3]
 by_cases h4:w.sum=0
 ·rw[aj h4,aj h4,h4,show w7 0=0 from rfl,dZ rfl,ak]
  by_cases h5:t=0
  ·rw[aj h5,dZ h5,bh,av]
  ·rw[ah h5,eR h5,dp,ak]
 ·rw[ah h4,ah h4,eR (by unfold w7;repeat' split<;>omega),av]
def KJ(t n:Int):List Int×Int:=if t<0∨n<1∨64<n then([],1)else sI t (List.replicate n.toNat 1)
theorem ZQ(n:Nat):KE (List.replicate n 1):=λx hx=>by rw[AD hx];omega
theorem KK(N:Nat)(hN:5000000≤N){t:Int}{k:Nat}(hk:k≤64)(w5:t<9223372036854775808): ∀(m n i:Nat),k-i≤m→m<n→i≤k→
  sJ.l5 N n t (k:Int) (List.replicate i 1++List.replicate (k-i) 0) (i:Int)=some (sI t (List.replicate k 1))
 |m,0,i,_,hn,_=>ω
 |m,n+1,i,hm,hn,hi=>by
  unfold sJ.l5 sJ.eA
  by_cases h:i<k
  ·rw[aR ω,ak,aW ω (by simp;omega),ak,aw ω ω]
   refine Eq.trans ?_ (KK N hN hk w5 (m-1) n (i+1) ω ω ω)
   congr 1
   rw[aI,NL _ _ (by simp),c4,uH,show k-i=(k-(i+1))+1 by omega,AI,List.set_cons_zero,List.replicate_succ',bE]
   rfl
  ·rw[aP ω,av,show k-i=0 by omega,List.replicate_zero,cw,show i=k by omega,Dc N hN w5 (ZQ _) (by rw[c4];omega)]
   rfl
theorem ZR(N:Nat)(hN:5000000≤N){t n:Int}(w5:t<9223372036854775808):sJ N t n=some (KJ t n):=by
 unfold sJ sJ.b KJ
 by_cases h1:t<0
 ·rw[aR h1,ak,aj (.inl h1)]
 by_cases h2:n<1
 ·rw[aP ω,av,aR h2,ak,aj (.inr (.inl h2))]
 by_cases h3:64<n
 ·rw[aP ω,av,aP ω,av,aR h3,ak,aj (.inr (.inr h3))]
 rw[aP ω,av,aP ω,av,aP ω,av,ah ω,c9 ω ω ω,ak]
 have:=KK N hN (t:=t) (k:=n.toNat) ω w5 n.toNat N 0 ω ω ω
 rw[List.replicate_zero,cM,Nat.sub_zero,xd ω]at this
 exact this
def HO(n:Nat)(f:Nat→Int):List Int:=(List.range n).map f
theorem il(n:Nat)(f:Nat→Int):(HO n f).length=n:=by unfold HO;rw[cD,xe]
theorem ic{n:Nat}{f:Nat→Int}{i:Nat}(h:i<n):(HO n f).getD i 0=f i:=by
 unfold HO
 rw[aV,nT,List.getElem?_range h];rfl
theorem Mr(n:Nat)(f:Nat→Int)(i:Nat):(HO n f).getD i 0=if i<n then f i else 0:=by
 by_cases h:i<n
 ·rw[aj h,ic h]
 ·rw[ah h,vL _ (by rw[il];omega)]
theorem adi{n:Nat}{f:Nat→Int}(h: ∀i,i<n→0≤f i):Pos (HO n f):=λx hx=>by
 obtain⟨i,hi,rfl⟩:=cV.1 hx
 exact h i (rV.1 hi)
theorem tX{l:List Int}(h: ∀i,i<l.length→0≤l.getD i 0):Pos l:=λx hx=>by
 obtain⟨i,hi,rfl⟩:=rO.1 hx
 have:=h i hi
 rwa [aV,bo hi]at this
theorem y7: ∀{a b:List Int},a.length=b.length→(∀i,i<a.length→a.getD i 0≤b.getD i 0)→a.sum≤b.sum
 |[],[],_,_=>fR _
 |[],_::_,h,_=>nomatch h
 |_::_,[],h,_=>nomatch h
 |x::a,y::b,h,h1=>by
  have:=y7 (a:=a) (b:=b) (by simpa using h) (λi hi=>by have:=h1 (i+1) (by simpa using hi);simpa using this)
  have h2:x≤y:=by have:=h1 0 (by simp);simpa using this
  rw[cE,cE];omega
theorem HQ: ∀{a b c:List Int},a.length=b.length→a.length=c.length→(∀i,i<a.length→a.getD i 0=b.getD i 0+c.getD i 0)→a.sum=b.sum+c.sum
 |[],[],[],_,_,_=>rfl
 |[],_::_,_,h,_,_=>nomatch h
 |[],[],_::_,_,h,_=>nomatch h
 |_::_,[],_,h,_,_=>nomatch h
 |_::_,_::_,[],_,h,_=>nomatch h
 |x::a,y::b,z::c,h,h',h1=>by
  have:=HQ (a:=a) (b:=b) (c:=c) (by simpa using h) (by simpa using h') (λi hi=>by have:=h1 (i+1) (by simpa using hi);simpa using this)
  have h2:x=y+z:=by have:=h1 0 (by simp);simpa using this
  rw[cE,cE,cE];omega
theorem yh: ∀{a:List Int},(∀i,i<a.length→a.getD i 0=0)→a.sum=0
 |[],_=>rfl
 |x::a,h=>by
  have:=yh (a:=a) (λi hi=>by have:=h (i+1) (by simpa using hi);simpa using this)
  have h2:x=0:=by have:=h 0 (by simp);simpa using this
  rw[cE];omega
def cZ(w caps out:List Int):List Int:=HO w.length λi=>if out.getD i 0<caps.getD i 0 then w.getD i 0 else 0
def fY(parts caps out:List Int):List Int:=HO out.length λi=>min (parts.getD i 0) (caps.getD i 0-out.getD i 0)
def yi(out g:List Int):List Int:=HO out.length λi=>out.getD i 0+g.getD i 0
def wi(w caps:List Int):Nat→List Int→Int→List Int×Int
 |0,out,left=>(out,left)
 |f+1,out,left=>if left=0∨(cZ w caps out).sum=0 then(out,left)else
  wi w caps f (yi out (fY (cm left (cZ w caps out)) caps out)) (left-(fY (cm left (cZ w caps out)) caps out).sum)
structure UP(t:Int)(w caps out:List Int)(left:Int):Prop where
 n:w.length≤64
 l1:caps.length=w.length
 l2:out.length=w.length
 pw:Pos w
 sw:w.sum<9223372036854775808
 pc: ∀i,0≤caps.getD i 0∧caps.getD i 0<9223372036854775808
 po: ∀i,0≤out.getD i 0
 le: ∀i,i<w.length→out.getD i 0≤caps.getD i 0
 z: ∀i,w.getD i 0=0→out.getD i 0=0
 l:0≤left
 t1:t<9223372036854775808
 s:out.sum+left=t
theorem jB(w caps out:List Int):(cZ w caps out).length=w.length:=il ..
theorem sK{w caps out:List Int}(h:Pos w):Pos (cZ w caps out):=adi (λi _=>by split;exact iL h i;omega)
theorem Pv{w caps out:List Int}(h:Pos w):(cZ w caps out).sum≤w.sum:=y7 (jB ..) (λi hi=>by
 rw[jB]at hi
 unfold cZ;rw[ic hi];split
 ·omega
 ·exact iL h i)
theorem ZS{t left:Int}{w caps out:List Int}(c:UP t w caps out left):KE (cZ w caps out):=λx hx=>by
 have h1:=sK (caps:=caps) (out:=out) c.pw
 have h2:=Pv (caps:=caps) (out:=out) c.pw
 have h3:=h1 x hx
 obtain⟨i,hi,rfl⟩:=rO.1 hx
 have h4:=An h1 i
 rw[aV,bo hi]at h4
 simp only[nR]at h4
 have:=c.sw
 omega
theorem Pw{t left:Int}{w caps out:List Int}(c:UP t w caps out left):left≤t:=by
 have:=kJ (q:=out) (tX (λi _=>c.po i));have:=c.s;omega
theorem pK{t left:Int}{w caps out:List Int}(c:UP t w caps out left)(hS:0<(cZ w caps out).sum)(i:Nat):
  0≤(fY (cm left (cZ w caps out)) caps out).getD i 0∧(fY (cm left (cZ w caps out)) caps out).getD i 0≤(cm left (cZ w caps out)).getD i 0∧(i<w.length→out.getD i 0+(fY (cm left (cZ w caps out)) caps out).getD i 0≤caps.getD i 0):=by
 have h0:=iL (wh c.l hS (sK c.pw)) i
 unfold fY
 rw[Mr]
 have:=c.l2
 by_cases h:i<out.length
 ·rw[aj h]
  have:=c.le i ω
  omega
 ·rw[ah h];exact⟨ω,h0,λh=>ω⟩
theorem yj(parts caps out:List Int):(fY parts caps out).length=out.length:=il ..
theorem HR{t left:Int}{w caps out:List Int}(c:UP t w caps out left)(hS:0<(cZ w caps out).sum):0≤(fY (cm left (cZ w caps out)) caps out).sum∧(fY (cm left (cZ w caps out)) caps out).sum≤left:=by
 constructor
 ·exact kJ (tX (λi _=>(pK c hS i).1))
 ·have:=y7 (a:=fY (cm left (cZ w caps out)) caps out) (b:=cm left (cZ w caps out)) (by rw[yj,pk,jB,c.l2]) (λi _=>(pK c hS i).2.1)
  rwa [wg c.l hS]at this
theorem Px{t left:Int}{w caps out:List Int}(c:UP t w caps out left)(hS:0<(cZ w caps out).sum):UP t w caps (yi out (fY (cm left (cZ w caps out)) caps out)) (left-(fY (cm left (cZ w caps out)) caps out).sum):=by
 have pE: ∀i,(yi out (fY (cm left (cZ w caps out)) caps out)).getD i 0=if i<out.length then out.getD i 0+(fY (cm left (cZ w caps out)) caps out).getD i 0 else 0:=λi=>by unfold yi;rw[Mr]
 have gs:=HR c hS
 refine⟨c.n,c.l1,?_,c.pw,c.sw,c.pc,λi=> ?_,λi hi=> ?_,λi hi=> ?_,ω,c.t1,?_⟩
 ·unfold yi;rw[il,c.l2]
 ·rw[pE];have:=(pK c hS i).1;have:=c.po i;split<;>omega
 ·rw[pE,aj (by rw[c.l2];exact hi)];exact(pK c hS i).2.2 hi
 ·rw[pE]
  split
  ·have h1:(cZ w caps out).getD i 0=0:=by unfold cZ;rw[Mr,hi];split<;>(try split)<;>rfl
   have h2:=Es c.l hS h1
   have h3:=pK c hS i
   rw[c.z i hi];omega
  ·rfl
 ·have:=HQ (a:=yi out (fY (cm left (cZ w caps out)) caps out)) (b:=out) (c:=fY (cm left (cZ w caps out)) caps out) (by unfold yi;rw[il]) (by unfold yi;rw[il,yj]) (λi hi=>by
   unfold yi at hi;rw[il]at hi;rw[pE,aj hi])
  have:=c.s
  omega
def opens(w caps out:List Int):Nat:=(List.range w.length).countP λi=>decide (0<w.getD i 0∧out.getD i 0<caps.getD i 0)
theorem KL{p q:Nat→Bool}: ∀{l:List Nat},(∀x∈l,q x=true→p x=true)→(∃x∈l,p x=true∧q x=false)→l.countP q<l.countP p
 |[],_,⟨x,hx,_⟩=>nomatch hx
 |y::l,h,⟨x,hx,h1,h2⟩=>by
  have hle:l.countP q≤l.countP p:=List.countP_mono_left (λz hz=>h z (aZ _ hz))
  rw[List.countP_cons,List.countP_cons]
  rcases a8.1 hx with rfl|hx
  ·rw[h1,h2];simp;omega
  ·have:=KL (p:=p) (q:=q) (l:=l) (λz hz=>h z (aZ _ hz)) ⟨x,hx,h1,h2⟩
   have h3:=h y (bq ..)
   cases hq:q y<;>cases hp:p y<;>simp<;>try omega
   rw[hq,hp]at h3;simp at h3
theorem KM{w caps out:List Int}(hw:Pos w)(h:(cZ w caps out).sum=0): ∀i,i<w.length→ ¬(0<w.getD i 0∧out.getD i 0<caps.getD i 0):=λi hi ⟨h1,h2⟩=>by
 have:=An (sK (caps:=caps) (out:=out) hw) i
 unfold cZ at this h
 rw[ic hi,aj h2,h]at this
 omega
theorem Ms{w caps out:List Int}(hw:Pos w)(h:(cZ w caps out).sum≠0): ∃i,i<w.length∧0<w.getD i 0∧out.getD i 0<caps.getD i 0:=by
 by_cases hx: ∃i,i<w.length∧0<w.getD i 0∧out.getD i 0<caps.getD i 0
 ·exact hx
 ·refine absurd (yh (λi hi=> ?_)) h
  rw[jB]at hi
  unfold cZ
  rw[ic hi]
  split
  ·rename_i h1
   have:=iL hw i
   by_cases h2:0<w.getD i 0
   ·exact absurd ⟨i,hi,h2,h1⟩ hx
   ·omega
  ·rfl
theorem WN{t left:Int}{w caps out:List Int}(c:UP t w caps out left)(hS:0<(cZ w caps out).sum)(hl:left-(fY (cm left (cZ w caps out)) caps out).sum≠0):opens w caps (yi out (fY (cm left (cZ w caps out)) caps out))<opens w caps out:=by
 have pE: ∀i,i<w.length→(yi out (fY (cm left (cZ w caps out)) caps out)).getD i 0=out.getD i 0+(fY (cm left (cZ w caps out)) caps out).getD i 0:=λi hi=>by unfold yi;rw[ic (by rw[c.l2];exact hi)]
 refine KL (λi hi h=> ?_) ?_
 ·rw[rV]at hi
  rw[fP,pE i hi]at h
  rw[fP]
  have:=(pK c hS i).1
  omega
 ·by_cases hx: ∃i,i<w.length∧(0<w.getD i 0∧out.getD i 0<caps.getD i 0)∧caps.getD i 0≤out.getD i 0+(fY (cm left (cZ w caps out)) caps out).getD i 0
  ·obtain⟨i,h1,h2,h3⟩:=hx
   refine⟨i,rV.2 h1,aU h2,bu ?_⟩
   rw[pE i h1];omega
  ·exfalso
   have h1:cm left (cZ w caps out)=fY (cm left (cZ w caps out)) caps out:=by
    refine qi (by rw[yj,pk,jB,c.l2]) (λi hi=> ?_)
    rw[pk,jB]at hi
    have h2:=pK c hS i
    have h3:=iL (wh c.l hS (sK (caps:=caps) (out:=out) c.pw)) i
    by_cases h4:0<w.getD i 0∧out.getD i 0<caps.getD i 0
    ·have h5: ¬caps.getD i 0≤out.getD i 0+(fY (cm left (cZ w caps out)) caps out).getD i 0:=λh=>hx ⟨i,hi,h4,h⟩
     have h6:(fY (cm left (cZ w caps out)) caps out).getD i 0=min ((cm left (cZ w caps out)).getD i 0) (caps.getD i 0-out.getD i 0):=ic (by rw[c.l2];exact hi)
     omega
    ·have h7:(cZ w caps out).getD i 0=0:=by
      unfold cZ;rw[ic hi]
      have:=iL c.pw i
      split<;>omega
     have:=Es c.l hS h7
     omega
   rw[←h1,wg c.l hS]at hl
   omega
theorem ZT(w caps out:List Int):opens w caps out≤w.length:=by
 unfold opens
 have:=List.countP_le_length (p:=λi=>decide (0<w.getD i 0∧out.getD i 0<caps.getD i 0)) (l:=List.range w.length)
 rwa [xe]at this
structure Full(t:Int)(w caps out:List Int)(left:Int):Prop where
 c:UP t w caps out left
 f:left=0∨ ∀i,i<w.length→ ¬(0<w.getD i 0∧out.getD i 0<caps.getD i 0)
theorem Py{t:Int}{w caps:List Int}: ∀(f:Nat) (out:List Int) (left:Int),UP t w caps out left→(opens w caps out<f∨left=0)→Full t w caps (wi w caps f out left).1 (wi w caps f out left).2
 |0,out,left,c,h=>⟨c,.inl (show left=0 by omega)⟩
 |f+1,out,left,c,h=>by
  unfold wi
  have hS:=kJ (sK (caps:=caps) (out:=out) c.pw)
  split
  ·rename_i h1
   exact⟨c,h1.imp id (KM c.pw)⟩
  ·rename_i h1
   refine Py f _ _ (Px c ω) ?_
   by_cases h2:left-(fY (cm left (cZ w caps out)) caps out).sum=0
   ·exact .inr h2
   ·have:=WN c ω h2
    exact .inl ω
def Dd(out g:List Int)(i:Nat):List Int:=HO out.length λj=>if j<i then out.getD j 0+g.getD j 0 else out.getD j 0
theorem mid_zero(out g:List Int):Dd out g 0=out:=qi (il ..) (λi hi=>by unfold Dd at*;rw[il]at hi;rw[ic hi,ah ω])
theorem adj(out g:List Int){n:Nat}(h:out.length≤n):Dd out g n=yi out g:=qi (by unfold Dd yi;rw[il,il]) (λi hi=>by unfold Dd yi at*;rw[il]at hi;rw[ic hi,ic hi,aj ω])
theorem B5(out g:List Int)(i:Nat):(Dd out g i).length=out.length:=il ..
theorem ak8{out g:List Int}{i:Nat}(h:i<out.length):(Dd out g i).getD i 0=out.getD i 0:=by unfold Dd;rw[ic h,ah ω]
theorem adk{out g:List Int}{i:Nat}(h:i<out.length):(Dd out g i).set i (out.getD i 0+g.getD i 0)=Dd out g (i+1):=qi (by rw[bN,B5,B5]) (λj hj=>by
 rw[bN,B5]at hj
 by_cases Ab:i=j
 ·subst Ab
  rw[ny _ _ (by rw[B5];exact h)];unfold Dd;rw[ic h,aj ω]
 ·rw[getD_set_ne _ _ Ab];unfold Dd;rw[ic hj,ic hj]
  by_cases h1:j<i
  ·rw[aj h1,aj ω]
  ·rw[ah h1,ah ω])
def tY(s:List Int)(i:Nat):List Int:=HO s.length λj=>if j<i then s.getD j 0 else 0
theorem WO(s:List Int):tY s 0=List.replicate s.length 0:=qi (by unfold tY;rw[il,c4]) (λi hi=>by
 unfold tY at*;rw[il]at hi;rw[ic hi,ah ω,aV,FX,aj hi];rfl)
theorem ZU(s:List Int):tY s s.length=s:=qi (il ..) (λi hi=>by unfold tY at*;rw[il]at hi;rw[ic hi,aj hi])
theorem qj(s:List Int)(i:Nat):(tY s i).length=s.length:=il ..
theorem ZV{s:List Int}{i:Nat}(h:i<s.length):(tY s i).set i (s.getD i 0)=tY s (i+1):=qi (by rw[bN,qj,qj]) (λj hj=>by
 rw[bN,qj]at hj
 by_cases Ab:i=j
 ·subst Ab
  rw[ny _ _ (by rw[qj];exact h)];unfold tY;rw[ic h,aj ω]
 ·rw[getD_set_ne _ _ Ab];unfold tY;rw[ic hj,ic hj]
  by_cases h1:j<i
  ·rw[aj h1,aj ω]
  ·rw[ah h1,ah ω])
theorem KN{s:List Int}{i:Nat}(h:s.getD i 0=0):tY s i=tY s (i+1):=qi (by rw[qj,qj]) (λj hj=>by
 rw[qj]at hj
 unfold tY;rw[ic hj,ic hj]
 by_cases h1:j<i
 ·rw[aj h1,aj ω]
 ·rw[ah h1]
  by_cases h2:j=i
  ·subst h2;rw[aj ω,h]
  ·rw[ah ω])
theorem ak9(x y:Int):mn x y=min x y:=by rw[X3];split<;>omega
theorem WQ{t left:Int}{w caps out:List Int}(c:UP t w caps out left)(hS:0<(cZ w caps out).sum)(i:Nat):0≤((fY (cm left (cZ w caps out)) caps out).take i).sum∧((fY (cm left (cZ w caps out)) caps out).take i).sum≤left:=by
 have h:=tX (l:=fY (cm left (cZ w caps out)) caps out) (λi _=>(pK c hS i).1)
 have:=Er h i
 have:=HR c hS
 exact⟨kJ (Pq h i),ω⟩
theorem HS(N:Nat)(K:List Int→List Int→List Int→Int→Int→Option (List Int×Int×Int)){t left:Int}{w caps out:List Int}(c:UP t w caps out left)(hS:0<(cZ w caps out).sum)(rd:Int): ∀(m n i:Nat),w.length-i≤m→m<n→i≤w.length→
  fg.WB N K n w caps (Dd out (fY (cm left (cZ w caps out)) caps out) i) (left-((fY (cm left (cZ w caps out)) caps out).take i).sum) rd (cm left (cZ w caps out)) (i:Int)=
  K w caps (yi out (fY (cm left (cZ w caps out)) caps out)) (left-(fY (cm left (cZ w caps out)) caps out).sum) (W .i64 (rd+1))
 |m,0,i,_,hn,_=>ω
 |m,n+1,i,hm,hn,hi=>by
  have n64:=c.n
  have e1:=c.l1
  have e2:=c.l2
  unfold fg.WB fg.SO
  by_cases h:i<w.length
  ·have hc:=c.pc i
   have ho:=c.po i
   have hle:=c.le i h
   have hg:=pK c hS i
   have h6:(fY (cm left (cZ w caps out)) caps out).getD i 0=min ((cm left (cZ w caps out)).getD i 0) (caps.getD i 0-out.getD i 0):=ic (by rw[c.l2];exact h)
   have ht:=WQ c hS i
   have hl:=Pw c
   have w5:=c.t1
   have hgl:(fY (cm left (cZ w caps out)) caps out).getD i 0≤left:=by
    have:=An (tX (l:=fY (cm left (cZ w caps out)) caps out) (λi _=>(pK c hS i).1)) i
    have:=HR c hS
    omega
   dsimp only
   rw[aR ω,ak,aW ω (by rw[pk,jB];omega),ak,aW ω ω,ak,aW ω (by rw[B5];omega),ak,ak,aI,ak8 ω,aw (x:=caps.getD i 0-out.getD i 0) ω ω,ak9,←h6,
    aw (x:=(i:Int)+1) ω ω,aw (x:=out.getD i 0+_) ω ω,aw (x:=left-_-_) ω ω,adk ω]
   have:=HS N K c hS rd (m-1) n (i+1) ω ω ω
   rw[mH _ (by rw[yj];omega),←Int.sub_sub]at this
   exact this
  ·rw[aP ω,av,adj _ _ ω,iy (by rw[yj];omega)]
def Pz(w caps out:List Int)(i:Nat):Prop:= ∃j,j<i∧0<w.getD j 0∧out.getD j 0<caps.getD j 0
theorem wj(N:Nat)(hN:5000000≤N)(K:List Int→List Int→List Int→Int→Int→Option (List Int×Int×Int)){t left:Int}{w caps out:List Int}(c:UP t w caps out left)(rd:Int): ∀(m n i:Nat) (b:Bool),w.length-i≤m→m<n→i≤w.length→(b=true↔Pz w caps out i)→
  fg.oM N K n w caps out left rd (tY (cZ w caps out) i) b (i:Int)=
  if left=0∨(cZ w caps out).sum=0 then some (out,left,0)else K w caps (yi out (fY (cm left (cZ w caps out)) caps out)) (left-(fY (cm left (cZ w caps out)) caps out).sum) (W .i64 (rd+1))
 |m,0,i,b,_,hn,_,_=>ω
 |m,n+1,i,b,hm,hn,hi,hb=>by
  have n64:=c.n
  have e1:=c.l1
  have e2:=c.l2
  unfold fg.oM fg.nK
  by_cases h:i<w.length
  ·have h1:(cZ w caps out).getD i 0=if out.getD i 0<caps.getD i 0 then w.getD i 0 else 0:=ic h
   have hw:=iL c.pw i
   have tJ: ¬(0<w.getD i 0∧out.getD i 0<caps.getD i 0)→(b=true↔Pz w caps out (i+1)):=λqX=>hb.trans ⟨λ⟨j,hj,h2⟩=>⟨j,ω,h2⟩,λ⟨j,hj,h2⟩=>⟨j,by
    by_cases Ab:j=i
    ·subst Ab;exact absurd h2 qX
    ·omega,h2⟩⟩
   rw[aR ω,ak,aW ω ω,ak,aI]
   by_cases h0:0<w.getD i 0
   ·rw[aR h0,ak,aW ω ω,ak,aW ω ω,ak]
    by_cases h2:out.getD i 0<caps.getD i 0
    ·rw[aj h2]at h1
     rw[aR h2,ak,ak,aW ω (by rw[qj,jB];omega),ak,aw ω ω,←h1,ZV (by rw[jB];exact h)]
     exact wj N hN K c rd (m-1) n (i+1) true ω ω ω ⟨λ_=>⟨i,ω,h0,h2⟩,λ_=>rfl⟩
    ·rw[ah h2]at h1
     rw[aP ω,av,aw ω ω,KN h1]
     exact wj N hN K c rd (m-1) n (i+1) b ω ω ω (tJ (λh=>h2 h.2))
   ·have h3:(cZ w caps out).getD i 0=0:=by rw[h1];split<;>omega
    rw[aP ω,av,aw ω ω,KN h3]
    exact wj N hN K c rd (m-1) n (i+1) b ω ω ω (tJ (λh=>h0 h.1))
  ·have Sp:=Pw c
   have w5:=c.t1
   have hl0:=c.l
   have nZ:i=(cZ w caps out).length:=by rw[jB];omega
   have hp:=sK (caps:=caps) (out:=out) c.pw
   have hs:=Pv (caps:=caps) (out:=out) c.pw
   have hs0:=kJ hp
   have hsw:=c.sw
   have hm:may (cZ w caps out)=true:=pJ.2 ⟨by rw[jB];omega,hp⟩
   rw[aP ω,av]
   by_cases h4:left=0
   ·rw[dZ h4,ak,aj (.inl h4)]
   rw[eR h4,av]
   by_cases h3:(cZ w caps out).sum=0
   ·have hbf:b=false:=by
     rw[xg];intro ht
     obtain⟨j,hj,h5⟩:=hb.1 ht
     exact KM c.pw h3 j ω h5
    rw[aj (.inr h3),hbf];rfl
   ·have hbt:b=true:=hb.2 (by
     obtain⟨j,hj,h5⟩:=Ms c.pw h3
     exact⟨j,ω,h5⟩)
    rw[hbt,bh,av,ah ω,nZ,ZU,Dc N ω ω (ZS c) (by rw[jB];omega),ar]
    unfold sI
    rw[ah (by rw[hm];simp;omega),ah ω,ah h3]
    have:=HS N K c ω rd w.length N 0 ω ω ω
    rw[mid_zero,my,jm,Gi]at this
    exact this
theorem KO(N:Nat)(hN:5000000≤N){t:Int}{w caps:List Int}: ∀(f n:Nat) (out:List Int) (left:Int),UP t w caps out left→f≤w.length+1→f<n→
  fg.l8 N n w caps out left ((w.length+1-f:Nat):Int)=some ((wi w caps f out left).1,(wi w caps f out left).2,0)
 |f,0,out,left,c,_,hn=>ω
 |0,n+1,out,left,c,h,hn=>by
  unfold fg.l8 fg.Ec
  rw[fF ω];rfl
 |f+1,n+1,out,left,c,h,hn=>by
  have n64:=c.n
  have hl:=c.l
  unfold fg.l8 fg.Ec
  rw[fM ω,ak,c9 ω ω ω,ak,aI]
  have:=wj N hN (fg.l8 N n) c ((w.length+1-(f+1):Nat):Int) w.length N 0 false ω ω ω ⟨(λh=>nomatch h),λ⟨j,hj,_⟩=>ω⟩
  rw[WO,jB]at this
  refine Eq.trans this ?_
  have hS:=kJ (sK (caps:=caps) (out:=out) c.pw)
  unfold wi
  by_cases h1:left=0∨(cZ w caps out).sum=0
  ·rw[aj h1,aj h1]
  ·rw[ah h1,ah h1,aw ω ω,show(((w.length+1-(f+1):Nat):Int)+1)=((w.length+1-f:Nat):Int)by omega]
   exact KO N hN f n _ _ (Px c ω) ω ω
def tZ(t:Int)(w caps:List Int):List Int×Int×Int:=
 if t<0∨may w=false∨caps.length≠w.length∨may caps=false then([],0,1)else if 9223372036854775808≤w.sum then([],0,2)
 else((wi w caps (w.length+1) (List.replicate w.length 0) t).1,(wi w caps (w.length+1) (List.replicate w.length 0) t).2,0)
theorem rj(n i:Nat):(List.replicate n (0:Int)).getD i 0=0:=by
 rw[aV,FX];split<;>rfl
theorem KP{t:Int}{w caps:List Int}(ht:0≤t)(w5:t<9223372036854775808)(hw:may w=true)(hc:may caps=true)(hl:caps.length=w.length)(hi:KE caps)(hs:w.sum<9223372036854775808):UP t w caps (List.replicate w.length 0) t:=by
 obtain⟨h1,h2⟩:=pJ.1 hw
 obtain⟨h3,h4⟩:=pJ.1 hc
 refine⟨h1,hl,c4 ..,h2,hs,λi=>⟨iL h4 i,(uV hi i).2⟩,λi=>by rw[rj];omega,λi _=>by rw[rj];exact iL h4 i,λi _=>rj ..,ht,w5,?_⟩
 rw[yh (λi _=>rj ..)];omega
theorem HT(N:Nat)(hN:5000000≤N){t:Int}{w caps:List Int}(w5:t<9223372036854775808)(hw:KE w)(hc:KE caps)(hl:w.length≤1000000):fg N t w caps=some (tZ t w caps):=by
 unfold fg fg.b tZ
 rw[HH N ω,ar]
 by_cases h1:t<0
 ·rw[aU h1,Bool.true_or,ak,aj (.inl h1)]
 rw[bu h1,rW]
 cases h2:may w
 ·rw[dp,ak,aj (.inr (.inl rfl))]
 rw[bh,av]
 by_cases h3:caps.length=w.length
 case neg=>rw[eR ω,dp,ak,aj (.inr (.inr (.inl h3)))]
 rw[dZ ω,bh,av,HH N ω,ar]
 cases h4:may caps
 ·rw[aj (.inr (.inr (.inr rfl)))];rfl
 have hp:=kJ (pJ.1 h2).2
 rw[show(decide ((0:Int)<0)|| !true)=false from rfl,av,Ae N ω hw hl,ar,uq,ar,ah (by simp;omega)]
 by_cases h5:9223372036854775808≤w.sum
 ·rw[aj h5];unfold CO;rw[ah ω];rfl
 rw[ah h5,Mq ω ω,bh,av,c9 ω ω ω,ak,aI]
 have nh:=(pJ.1 h2).1
 have:=KO N hN (w.length+1) N _ _ (KP ω w5 h2 h4 h3 hc ω) ω ω
 rw[uH]at this
 exact this
theorem nE{a b:Int}: ∀{l:au},sE (l.map keyOf)→gR a b l=cO a b l
 |[],_=>rfl
 |x::t,h=>by
  obtain⟨h1,h2⟩:=eP.1 h
  rw[iK,ib,←nE h2]
  by_cases e1:x.1=a
  ·by_cases e2:x.2.1=b
   ·have hz:cO a b t=0:=ln λy hy e=>by
     have hk:=h1 (keyOf y) (fh hy)
     have he:keyOf y=keyOf x:=iC (e.1.trans e1.symm) (e.2.trans e2.symm)
     rw[he]at hk
     exact ow hk
    rw[aj e1,aj e2,aj ⟨e1,e2⟩,nE h2,hz,jN];rfl
   ·rw[aj e1,ah e2,ah (λh=>e2 h.2),xl]
  ·rw[ah e1,ah (λh=>e1 h.1),xl]
def JE(x q:Int):Prop:= ¬((x<0)↔(q<0))
instance(x q:Int):Decidable (JE x q):=by unfold JE;infer_instance
def gv(a q:Int):au→au
 |[]=>[]
 |x::t=>if ¬dG x.1 0∧dG x.2.1 a∧JE (dJ x) q then x::gv a q t else gv a q t
theorem sL(a q:Int)(x:de)(t:au):gv a q (x::t)=if ¬dG x.1 0∧dG x.2.1 a∧JE (dJ x) q then x::gv a q t else gv a q t:=rfl
def zL(l:au):List Int:=l.map λx=>x.1
def jR(l:au):List Int:=l.map λx=>((dJ x).natAbs:Int)
theorem u9{a q:Int}{x:de}: ∀{l:au},x∈gv a q l→x∈l∧ ¬dG x.1 0∧dG x.2.1 a
 |[],h=>nomatch h
 |y::t,h=>by
  rw[sL]at h
  by_cases e: ¬dG y.1 0∧dG y.2.1 a∧JE (dJ y) q
  ·rw[aj e]at h
   rcases a8.1 h with rfl|h
   ·exact⟨bq ..,e.1,e.2.1⟩
   ·have:=u9 h;exact⟨aZ _ this.1,this.2⟩
  ·rw[ah e]at h
   have:=u9 h;exact⟨aZ _ this.1,this.2⟩
theorem KQ(a q:Int): ∀l:au,(gv a q l).length≤l.length
 |[]=>aH _
 |x::t=>by
  have:=KQ a q t
  rw[sL,aT]
  split
  ·rw[aT];omega
  ·omega
theorem PA{v q s h o:Int}{P Q R:Prop} [Decidable P] [Decidable Q] [Decidable R](hR:R↔ ¬((v<0)↔(q<0)))(hq:0<q)(hh:h-o≤s):
  (if P∧Q then v else 0)+h-((if ¬P∧Q∧R then(v.natAbs:Int)else 0)+o)≤(if Q then v else 0)+s:=by
 by_cases hQ:Q<;>by_cases hP:P<;>by_cases hR':R<;>simp only[hP,hQ,hR',and_self,fB,and_false,false_and,true_and,not_true,not_false_iff,g9,fC]<;>(rw[Nt]at hR;first|omega|(have h2:=hR.1 hR';omega)|(have h2: ¬ ¬((v<0)↔(q<0)):=λe=>hR' (hR.2 e);omega))
theorem Eu{a q:Int}(hq:0<q): ∀l:au,cO 0 a l-(jR (gv a q l)).sum≤(dg a l).sum
 |[]=>fR _
 |x::t=>by
  have ih:=Eu (a:=a) hq t
  have e1:cO 0 a (x::t)=(if dG x.1 0∧dG x.2.1 a then dJ x else 0)+cO 0 a t:=ib 0 a x t
  have e2:(jR (gv a q (x::t))).sum=(if ¬dG x.1 0∧dG x.2.1 a∧JE (dJ x) q then((dJ x).natAbs:Int)else 0)+(jR (gv a q t)).sum:=by
   rw[sL]
   split
   ·show(((dJ x).natAbs:Int)::jR (gv a q t)).sum=_
    rw[cE]
   ·omega
  have e3:(dg a (x::t)).sum=(if dG x.2.1 a then dJ x else 0)+(dg a t).sum:=by
   rw[dx]
   by_cases h:x.2.1=a
   ·rw[aj h,aj (show dG x.2.1 a from h),cE]
   ·rw[ah h,ah (show ¬dG x.2.1 a from h)];omega
  rw[e1,e2,e3]
  exact PA Iff.rfl hq ih
theorem PC{v q s h o:Int}{P Q R:Prop} [Decidable P] [Decidable Q] [Decidable R](hR:R↔ ¬((v<0)↔(q<0)))(hq:q<0)(hh:s≤h+o):
  (if Q then v else 0)+s≤(if P∧Q then v else 0)+h+((if ¬P∧Q∧R then(v.natAbs:Int)else 0)+o):=by
 by_cases hQ:Q<;>by_cases hP:P<;>by_cases hR':R<;>simp only[hP,hQ,hR',and_self,fB,and_false,false_and,true_and,not_true,not_false_iff,g9,fC]<;>(rw[Nt]at hR;first|omega|(have h2:=hR.1 hR';omega)|(have h2: ¬ ¬((v<0)↔(q<0)):=λe=>hR' (hR.2 e);omega))
theorem Ev{a q:Int}(hq:q<0): ∀l:au,(dg a l).sum≤cO 0 a l+(jR (gv a q l)).sum
 |[]=>fR _
 |x::t=>by
  have ih:=Ev (a:=a) hq t
  have e1:cO 0 a (x::t)=(if dG x.1 0∧dG x.2.1 a then dJ x else 0)+cO 0 a t:=ib 0 a x t
  have e2:(jR (gv a q (x::t))).sum=(if ¬dG x.1 0∧dG x.2.1 a∧JE (dJ x) q then((dJ x).natAbs:Int)else 0)+(jR (gv a q t)).sum:=by
   rw[sL]
   split
   ·show(((dJ x).natAbs:Int)::jR (gv a q t)).sum=_
    rw[cE]
   ·omega
  have e3:(dg a (x::t)).sum=(if dG x.2.1 a then dJ x else 0)+(dg a t).sum:=by
   rw[dx]
   by_cases h:x.2.1=a
   ·rw[aj h,aj (show dG x.2.1 a from h),cE]
   ·rw[ah h,ah (show ¬dG x.2.1 a from h)];omega
  rw[e1,e2,e3]
  exact PC Iff.rfl hq ih
theorem S6{a q:Int}{l:au}(hs:sE (l.map keyOf))(hf:(dg a l).sum=0)(hq:gR 0 a l=q)(h0:q≠0):(q.natAbs:Int)≤(jR (gv a q l)).sum:=by
 rw[nE hs]at hq
 by_cases h:0<q
 ·have:=Eu (a:=a) h l
  rw[hf,hq]at this;omega
 ·have:=Ev (a:=a) (q:=q) ω l
  rw[hf,hq]at this;omega
theorem ZW{t left:Int}{w out:List Int}(f:Full t w w out left)(h:t≤w.sum):left=0:=by
 have c:=f.c
 rcases f.f with e|e
 ·exact e
 ·have RX:w.sum≤out.sum:=y7 (by rw[c.l2]) λi hi=>by
   have h1:=e i hi
   have h2:=iL c.pw i
   have h3:=c.po i
   by_cases h4:0<w.getD i 0
   ·have: ¬out.getD i 0<w.getD i 0:=λh5=>h1 ⟨h4,h5⟩
    omega
   ·omega
  have:=c.s
  have:=c.l
  omega
def sg(q x:Int):Int:=if q<0 then 0-x else x
def zc(a q:Int):List (Int×Int)→au
 |[]=>[]
 |p::t=>if sg q p.1=0 then zc a q t else(p.2,(a,(sg q p.1,())))::zc a q t
theorem FL(a q:Int)(p:Int×Int)(t:List (Int×Int)):zc a q (p::t)=if sg q p.1=0 then zc a q t else(p.2,(a,(sg q p.1,())))::zc a q t:=rfl
def kK(l:au)(a q:Int):List Int×Int×Int:=tZ (q.natAbs:Int) (jR (gv a q l)) (jR (gv a q l))
def adl(l:au)(a q:Int):au:=((0:Int),(a,((0-q:Int),())))::zc a q ((kK l a q).1.zip (zL (gv a q l)))
def wk(c:ae)(b:an)(a:Int):au×Int:=
 if df c b then(if a<0 then([],3)else if(c.1.length:Int)≤a then([],3)else if gb b.2.2.2.1 0 a=0 then([],0)else
  if(kK b.2.2.2.1 a (gb b.2.2.2.1 0 a)).2.2=0 then(adl b.2.2.2.1 a (gb b.2.2.2.1 0 a),0)else([],(kK b.2.2.2.1 a (gb b.2.2.2.1 0 a)).2.2))else([],1)
theorem HU{t:Int}{w caps:List Int}(w5:t<9223372036854775808)(hc:KE caps)(hx:(tZ t w caps).2.2=0):Full t w caps (tZ t w caps).1 (tZ t w caps).2.1:=by
 unfold tZ at*
 by_cases h1:t<0∨may w=false∨caps.length≠w.length∨may caps=false
 ·rw[aj h1]at hx;exact absurd hx δ
 ·rw[ah h1]at hx ⊢
  by_cases h2:9223372036854775808≤w.sum
  ·rw[aj h2]at hx;exact absurd hx δ
  ·rw[ah h2]
   have h3:may w=true:=by cases h:may w<;>simp_all
   have h4:may caps=true:=by cases h:may caps<;>simp_all
   have h5:caps.length=w.length:=Nz λh=>h1 (Or.inr (Or.inr (Or.inl h)))
   exact Py _ _ _ (KP ω w5 h3 h4 h5 hc ω) (Or.inl (by have:=ZT w caps (List.replicate w.length 0);omega))
theorem De{l:au}(h: ∀x∈l,aF (dJ x)∧q7 (dJ x))(a q:Int):KE (jR (gv a q l)):=λz hz=>by
 obtain⟨x,hx,rfl⟩:=cV.1 hz
 have:=h x (u9 hx).1
 have g: ∀v:Int,aF v∧q7 v→ -9223372036854775808≤(v.natAbs:Int)∧(v.natAbs:Int)<9223372036854775808:=λv hv=>by unfold aF q7 at hv;omega
 exact g _ this
theorem ZX{out accs:List Int}{i:Nat}(h1:i<out.length)(h2:i<accs.length):(out.zip accs).getD i (0,0)=(out.getD i 0,accs.getD i 0):=by
 rw[aV,bo (by rw[xi];omega),List.getElem_zip,aV,bo h1,aV,bo h2];rfl
end VM
end
section
namespace VM
open Go VM.F
theorem Mt{c:ae}{b:an}(h:df c b=true): ∀x∈b.2.2.2.1,Mk x.2.1 c.1.length:=λx hx=>by
 have hk:=(dE h).2
 have h0:=(dM hk).2 x hx
 unfold df at h
 simp only[bM]at h
 have h1:=bt h.2.2.2.2.2.2.2.2.1
 obtain⟨i,hi,e⟩:=gE hx
 have h2:=h1 i hi
 unfold jQ at h2
 rw[aV,bo hi]at h2
 simp only[nR,e]at h2
 have g: ∀u v:Int,bY u v→lF v c.1.length→Mk v c.1.length:=λu v h1 h2=>by unfold bY at h1;unfold lF at h2;unfold Mk;omega
 exact g _ _ h0.1 h2.2
end VM
end
section
namespace VM
open Go VM.F
theorem adm(N:Nat){x:Int}(h:cT x)(hx:x≠ -170141183460469231731687303715884105728):F66 N (cN x)=some (cN (-x),true):=by
 unfold F66 S7 cN
 unfold cT at h
 dsimp only
 have hp:0≤x%18446744073709551616∧x%18446744073709551616<18446744073709551616:=ω
 have hh: -9223372036854775808≤x/18446744073709551616∧x/18446744073709551616<9223372036854775808:=ω
 rw[pZ,pZ,mF N ω ω ω ω ω ω,ar]
 dsimp only
 have hb:(0:Int)≤(if(0:Int)<x%18446744073709551616+0 then 1 else 0)∧(if(0:Int)<x%18446744073709551616+0 then(1:Int)else 0)≤1:=by split<;>omega
 rw[mF N ω ω ω ω hb.1 hb.2,ar]
 dsimp only
 have key: ∀{z:bU},z=cN (-x)→((some (z,true):Option (bU×Bool)).bind λr1=>some (r1.1,r1.2))=some (cN (-x),true):=λe=>by rw[e];rfl
 have e3:W .i64 ((0%18446744073709551616-x/18446744073709551616%18446744073709551616-(if(0:Int)<x%18446744073709551616+0 then 1 else 0))%18446744073709551616)=(-x)/18446744073709551616:=by
  by_cases h0:x%18446744073709551616=0
  ·rw[ah (show ¬(0:Int)<x%18446744073709551616+0 by omega),gF];split<;>omega
  ·rw[aj (show(0:Int)<x%18446744073709551616+0 by omega),gF];split<;>omega
 have e1:(0-x%18446744073709551616-0)%18446744073709551616=(-x)%18446744073709551616:=ω
 rw[e3,e1]
 simp only[p3,qw]
 by_cases a:x/18446744073709551616<0
 ·have c: ¬(-x)/18446744073709551616<0:=ω
  rw[bu (show ¬(0:Int)<0 by omega),aU a,bu c]
  exact key rfl
 ·rw[bu (show ¬(0:Int)<0 by omega),bu a]
  exact key rfl
theorem UQ(N:Nat){x:Int}(h:cT x)(hx:x≠ -170141183460469231731687303715884105728):S8 N (cN x)=some (cN (x.natAbs:Int),true):=by
 unfold S8
 have e:(cN x).1=x/18446744073709551616:=rfl
 rw[e]
 by_cases h0:x<0
 ·rw[aR (show x/18446744073709551616<0 by omega),ak,adm N h hx,ar,show(x.natAbs:Int)= -x by omega]
 ·rw[aP (show 0≤x/18446744073709551616 by omega),av,show(x.natAbs:Int)=x by omega]
theorem Ew{k:Int}: ∀{i:Nat} {l:aO},oz k i l≠[]→(i:Int)≤(oz k i l).getD 0 0∧(oz k i l).getD 0 0<((i+l.length:Nat):Int)
 |i,[],h=>absurd rfl h
 |i,y::t,h=>by
  rw[B1]at h ⊢
  by_cases e:y.1=k
  ·rw[aj e,aT]
   show(i:Int)≤(i:Int)∧(i:Int)<_
   omega
  ·rw[ah e]at h ⊢
   have:=Ew h
   rw[aT];omega
def aqt(c:ae):Int:=c.2.2.2.2.2.2.1
end VM
end
section
namespace VM
open Go VM.F
end VM
end
section
namespace VM
open Go VM.F
def PD(x:fV)(z:Int×Int):Int×Int:=if x.2.2.2.1=1 then(z.1+x.2.2.2.2.1,z.2)else(z.1,z.2+x.2.2.2.2.1)
def bsL(a k:Int):aY→Int×Int→Int×Int
 |[],z=>z
 |x::t,z=>bsL a k t (if x.2.1=a∧x.2.2.1=k then PD x z else z)
theorem HV(a k:Int)(x:fV)(t:aY)(z:Int×Int):bsL a k (x::t) z=bsL a k t (if x.2.1=a∧x.2.2.1=k then PD x z else z):=rfl
def nz(i:Int)(z:Int×Int):de:=(i,(z.1,(z.2,())))
def UR(f:Int→Int×Int):Nat→Nat→au
 |0,_=>[]
 |m+1,k=>if 0<(f (k:Int)).1+(f (k:Int)).2 then nz (k:Int) (f (k:Int))::UR f m (k+1)else UR f m (k+1)
theorem yk(f:Int→Int×Int)(m k:Nat):UR f (m+1) k=if 0<(f (k:Int)).1+(f (k:Int)).2 then nz (k:Int) (f (k:Int))::UR f m (k+1)else UR f m (k+1):=rfl
def XX(l:aY)(a k:Int):Int×Int:=bsL a k l (0,0)
def rl(l:aY)(a:Int):au:=UR (XX l a) 6 0
theorem US(f:Int→Int×Int): ∀m k,(UR f m k).length≤m
 |0,_=>aH _
 |m+1,k=>by
  rw[yk]
  have:=US f m (k+1)
  split
  ·rw[aT];omega
  ·omega
theorem ZY(f:Int→Int×Int): ∀m k,∀x∈UR f m k,(k:Int)≤x.1
 |0,_,x,hx=>nomatch hx
 |m+1,k,x,hx=>by
  rw[yk]at hx
  have ih:=ZY f m (k+1) x
  split at hx
  ·rcases a8.1 hx with rfl|hx
   ·exact fR _
   ·have:=ih hx;omega
  ·have:=ih hx;omega
def ZZ(l:aY):Prop:= ∀x∈l,1≤x.2.2.2.2.1∧x.2.2.2.2.1≤1000000000
theorem UT{l:aY}(h:ZZ l){i:Nat}(hi:i<l.length):1≤(l.getD i eF).2.2.2.2.1∧(l.getD i eF).2.2.2.2.1≤1000000000:=h _ (by
 rw[aV,bo hi];exact dO hi)
def HW(z:Int×Int)(n:Nat):Prop:=0≤z.1∧z.1≤1000000000*(n:Int)∧0≤z.2∧z.2≤1000000000*(n:Int)
theorem UU{x:fV}{z:Int×Int}{n:Nat}(hq:1≤x.2.2.2.2.1∧x.2.2.2.2.1≤1000000000)(h:HW z n):HW (PD x z) (n+1):=by
 have g: ∀q:Int,1≤q∧q≤1000000000→HW (z.1+q,z.2) (n+1)∧HW (z.1,z.2+q) (n+1):=λq hq=>by unfold HW at*;dsimp only;omega
 have gx:=g _ hq
 unfold PD
 split
 ·exact gx.1
 ·exact gx.2
theorem HW.mono{z:Int×Int}{n m:Nat}(h:HW z n)(hm:n≤m):HW z m:=by unfold HW at*;omega
theorem Z0{a k:Int}: ∀{l:aY} {z:Int×Int} {n:Nat},ZZ l→HW z n→HW (bsL a k l z) (n+l.length)
 |[],z,n,_,h=>h
 |x::t,z,n,hq,h=>by
  have hx:=hq x (bq ..)
  rw[HV,aT,show n+(t.length+1)=n+1+t.length by omega]
  refine Z0 (λy hy=>hq y (aZ _ hy)) ?_
  split
  ·exact UU hx h
  ·exact HW.mono h ω
theorem UW{l:aY}(h:ZZ l)(a k:Int):HW (XX l a k) l.length:=by
 have:=Z0 (a:=a) (k:=k) (z:=(0,0)) (n:=0) h (by unfold HW;dsimp only;omega)
 rw[gm]at this;exact this
theorem PE{l:aY}(h:dn l=true):ZZ l∧l.length≤32:=by
 unfold dn at h
 rw[bM]at h
 refine⟨λx hx=> ?_,bt h.2⟩
 obtain⟨i,hi,e⟩:=gE hx
 have:=bt h.1 i hi
 unfold tO at this
 have h1:=this.1
 rw[aV,bo hi,nR,e]at h1
 unfold qT at h1
 exact h1.2.2.2.2.1
theorem alc{x:fV}{z:Int×Int}{n:Nat}(hn:n≤1000)(hq:1≤x.2.2.2.2.1∧x.2.2.2.2.1≤1000000000)(hz:HW z n)(k:Int):
  (x.2.2.2.1=1→((k,(W .i64 (z.1+x.2.2.2.2.1),(z.2,()))):de)=nz k (PD x z))∧(¬x.2.2.2.1=1→((k,(z.1,(W .i64 (z.2+x.2.2.2.2.1),()))):de)=nz k (PD x z)):=by
 have g: ∀q:Int,1≤q∧q≤1000000000→W .i64 (z.1+q)=z.1+q∧W .i64 (z.2+q)=z.2+q:=λq hq=>by
  unfold HW at hz
  exact⟨aw ω ω,aw ω ω⟩
 have gx:=g _ hq
 unfold PD nz
 exact⟨λh=>by rw[gx.1,aj h],λh=>by rw[gx.2,ah h]⟩
theorem PF(N:Nat){F:de→Option au}{G:Nat→de→Int→Option au}(l:aY)(a k:Int)(hq:ZZ l)(hl:l.length≤1000)(hN:l.length<N)
  (hs: ∀n i z r,i<l.length→HW z i→G n (nz k (if(l.getD i eF).2.1=a∧(l.getD i eF).2.2.1=k then PD (l.getD i eF) z else z)) ((i+1:Nat):Int)=r→G (n+1) (nz k z) (i:Int)=r)
  (he: ∀n z,HW z l.length→G (n+1) (nz k z) (l.length:Int)=F (nz k z)):G N (nz k (0,0)) 0=F (nz k (XX l a k)):=by
 have:=nH l eF (λn i (z:Int×Int)=>G n (nz k z) i) (λt z=>F (nz k (bsL a k t z))) (λi z=>HW z i) (λn i z hi hz hr=> ?_) (λn z hz=>he n z hz) l.length N 0 (0,0) ω hN ω (by unfold HW;decide)
 ·exact this
 ·rw[HV]
  refine hs n i z _ hi hz (hr _ ?_)
  split
  ·exact UU (UT hq hi) hz
  ·exact HW.mono hz ω
theorem Ex{F:Nat→au→Int→Option au}(f:Int→Int×Int)
  (hs: ∀(n k:Nat) (out:au) (r:Option au),k<6→out.length≤k→F n (if 0<(f (k:Int)).1+(f (k:Int)).2 then out++[nz (k:Int) (f (k:Int))]else out) ((k+1:Nat):Int)=r→F (n+1) out (k:Int)=r)
  (he: ∀n out,F (n+1) out 6=some out): ∀(m n k:Nat) (out:au),k+m=6→m<n→out.length≤k→F n out (k:Int)=some (out++UR f m k)
 |_,0,_,_,_,hn,_=>ω
 |0,n+1,k,out,hk,_,_=>by
  have:k=6:=ω
  subst this
  rw[show UR f 0 6=[]from rfl,cw]
  exact he n out
 |m+1,n+1,k,out,hk,hn,ho=>by
  refine hs n k out _ ω ho ?_
  rw[Ex f hs he m n (k+1) _ ω ω (by
   split
   ·rw[aS,aK];omega
   ·omega),yk]
  split
  ·rw[bE];rfl
  ·rfl
theorem Z1(N:Nat)(hN:200000≤N){l:aY}(hl:l.length≤100000)(a:Int):gZ N l a=some (if dn l then rl l a else []):=by
 unfold gZ gZ.b
 rw[CU N hl hN,ar]
 by_cases h:dn l=false
 ·rw[h];rfl
 rw[rR]at h
 rw[h,bh,av,aj rfl]
 obtain⟨hq,h32⟩:=PE h
 refine Ex (F:=λn out k=>gZ.l5 N n l a out k) (XX l a) (λn k out r hk ho hr=> ?_) (λn out=> ?_) 6 N 0 [] ω ω (aH _)
 ·unfold gZ.l5 gZ.eA
  rw[aR ω,ak]
  refine(PF N (G:=λn' x i=>gZ.l9 N (gZ.l5 N n) n' l a out (k:Int) x (k:Int) l (l.length:Int) i) (F:=λx=>cond (aX 0 (W .i64 (x.2.1+x.2.2.1))) (cond (small (out.length+[x].length)) (gZ.l5 N n l a (out++[x]) (W .i64 ((k:Int)+1))) none) (gZ.l5 N n l a out (W .i64 ((k:Int)+1)))) l a (k:Int) hq ω ω (λn' i z r' hi hz eQ=> ?_) (λn' z hz=> ?_)).trans ?_
  ·unfold gZ.l9 gZ.vN
   rw[aR ω,ak,aW ω ω,ak,aI,cond_not,aL,cond_not,aL,aL,aw (x:=(i:Int)+1) ω ω,af i]
   have hw:=alc (n:=i) ω (UT hq hi) hz (k:Int)
   by_cases h1:(l.getD i eF).2.1=a
   ·rw[aj h1]
    by_cases h2:(l.getD i eF).2.2.1=(k:Int)
    ·rw[aj ⟨h1,h2⟩]at eQ
     rw[aj h2]
     by_cases h3:(l.getD i eF).2.2.2.1=1
     ·rw[aj h3,←eQ,←hw.1 h3];rfl
     ·rw[ah h3,←eQ,←hw.2 h3];rfl
    ·rw[ah (λh=>h2 h.2)]at eQ
     rw[ah h2];exact eQ
   ·rw[ah (λh=>h1 h.1)]at eQ
    rw[ah h1];exact eQ
  ·unfold gZ.l9 gZ.vN
   rw[aP ω,av]
  ·have hz:=UW hq a (k:Int)
   unfold HW at hz
   show cond (aX 0 (W .i64 ((XX l a (k:Int)).1+(XX l a (k:Int)).2))) _ _=r
   rw[aw (x:=(XX l a (k:Int)).1+(XX l a (k:Int)).2) ω ω,cy,bS (by rw[aK];omega),ak,aw (x:=(k:Int)+1) ω ω,af k,←hr]
   split<;>rfl
 ·unfold gZ.l5 gZ.eA
  rw[aP ω,av]
def XY(z:Int×Int):Prop:=0≤z.1∧z.1≤33000000000∧0≤z.2∧z.2≤33000000000
def FM(a b s n:Int)(i:Nat)(p:Int):Prop:=0≤a∧a<n∧0≤b∧b≤33000000000∧0≤s∧s≤33000000000∧(b=0→s≠0)∧(0<i→p<a)
instance(a b s n:Int)(i:Nat)(p:Int):Decidable (FM a b s n i p):=by unfold FM;infer_instance
def yl(c:ae)(l:au)(i:Nat):Prop:=FM (l.getD i ba).1 (l.getD i ba).2.1 (l.getD i ba).2.2.1 c.1.length i (l.getD (i-1) ba).1
instance(c:ae)(l:au):DecidablePred (yl c l):=λi=>by unfold yl;infer_instance
def kL(c:ae)(l:au):Bool:=decide (∀j,j<l.length→yl c l j)&&eJ c
def KR(k:Int):aE→Int→Int
 |[],z=>z
 |x::t,z=>KR k t (if x.1=k then x.2.1 else z)
theorem HX(k:Int)(x:BK)(t:aE)(z:Int):KR k (x::t) z=KR k t (if x.1=k then x.2.1 else z):=rfl
def Ey(k:Int):au→Int×Int→Int×Int
 |[],z=>z
 |x::t,z=>Ey k t (if x.1=k then(x.2.1,x.2.2.1)else z)
theorem HY(k:Int)(x:de)(t:au)(z:Int×Int):Ey k (x::t) z=Ey k t (if x.1=k then(x.2.1,x.2.2.1)else z):=rfl
theorem PG(k:Int): ∀{l:aE} {z:Int},(∀y∈l,aF y.2.1)→aF z→aF (KR k l z)
 |[],z,_,h=>h
 |x::t,z,hl,h=>by
  rw[HX]
  refine PG k (λy hy=>hl y (aZ _ hy)) ?_
  split
  ·exact hl x (bq ..)
  ·exact h
theorem PH(k:Int): ∀{l:au} {z:Int×Int},(∀x∈l,XY (x.2.1,x.2.2.1))→XY z→XY (Ey k l z)
 |[],z,_,h=>h
 |x::t,z,hl,h=>by
  rw[HY]
  refine PH k (λy hy=>hl y (aZ _ hy)) ?_
  split
  ·exact hl x (bq ..)
  ·exact h
theorem UX{c:ae}{l:au}(h:kL c l=true): ∀x∈l,XY (x.2.1,x.2.2.1):=λx hx=>by
 unfold kL at h
 rw[bM]at h
 obtain⟨i,hi,e⟩:=gE hx
 have h1:=bt h.1 i hi
 unfold yl at h1
 rw[aV,bo hi,nR,e]at h1
 unfold FM at h1
 exact⟨h1.2.2.1,h1.2.2.2.1,h1.2.2.2.2.1,h1.2.2.2.2.2.1⟩
def Mu(q:Int)(z:Int×Int):Int:=if((q+z.1).natAbs:Int)<((q-z.2).natAbs:Int)then((q-z.2).natAbs:Int)else((q+z.1).natAbs:Int)
theorem Z2{q:Int}{z:Int×Int}(hq:aF q)(hz:XY z):0≤Mu q z∧Mu q z≤9223372069854775808:=by
 unfold Mu XY aF at*
 split<;>omega
def B6(l:aE)(o:au)(k:Int):Int:=Mu (KR k l 0) (Ey k o (0,0))
def PI(c:ae)(l:aE)(o:au)(k:Int):Int×Int:=
 if pe c l&&kL c o then(if 0≤k∧k<(c.1.length:Int)then(B6 l o k,0)else(0,3))else(0,1)
theorem HZ{c:ae}{l:aE}{o:au}(ho:kL c o=true)(nh: ∀y∈l,aF y.2.1)(k:Int):0≤B6 l o k∧B6 l o k≤9223372069854775808:=
 Z2 (PG k nh (show aF 0 by unfold aF;omega)) (PH k (UX ho) (by unfold XY;decide))
def pn(c:ae)(i:Nat):Int:=(c.1.getD i bb).2.2.1
theorem Mv{c:ae}(h:eJ c=true){i:Nat}(hi:i<c.1.length):0≤pn c i∧pn c i≤1000000000:=by
 unfold eJ at h
 simp only[bM]at h
 have:=bt h.2.1 i hi
 unfold qD oc at this
 exact this.2.2.1
def rm(c:ae)(l:aE)(o:au):Nat→Int
 |0=>0
 |n+1=>rm c l o n+B6 l o (n:Int)*pn c n
def wo(c:ae)(l:aE)(o:au):Nat→List Int
 |0=>[]
 |n+1=>wo c l o n++[B6 l o (n:Int)*pn c n]
theorem H4(c:ae)(l:aE)(o:au): ∀n,(wo c l o n).sum=rm c l o n
 |0=>rfl
 |n+1=>by
  show(wo c l o n++[B6 l o (n:Int)*pn c n]).sum=rm c l o n+B6 l o (n:Int)*pn c n
  rw[nS,H4 c l o n,cE,jm,jN]
theorem Ap(c:ae)(l:aE)(o:au): ∀n,(wo c l o n).length=n
 |0=>rfl
 |n+1=>by
  show(wo c l o n++[B6 l o (n:Int)*pn c n]).length=n+1
  rw[aS,Ap c l o n];rfl
def y8(c:ae)(l:aE)(o:au):Int×Int:=
 if pe c l&&kL c o then(rm c l o c.1.length,0)else(0,1)
theorem Mw{a b:Int}(ha:0≤a∧a≤9223372069854775808)(hb:0≤b∧b≤1000000000):0≤a*b∧a*b≤9223372069854775808000000000:=
 ⟨uF ha.1 hb.1,gN (Int.mul_le_mul ha.2 hb.2 hb.1 δ) δ⟩
theorem KS{c:ae}{l:aE}{o:au}(hp:eJ c=true)(ho:kL c o=true)(nh: ∀y∈l,aF y.2.1): ∀n,n≤c.1.length→0≤rm c l o n∧rm c l o n≤9223372069854775808000000000*(n:Int)
 |0,_=>⟨fR _,fR _⟩
 |n+1,hn=>by
  have ih:=KS hp ho nh n ω
  have h1:=Mw (HZ ho nh (n:Int)) (Mv hp (i:=n) ω)
  show 0≤rm c l o n+B6 l o (n:Int)*pn c n∧rm c l o n+B6 l o (n:Int)*pn c n≤_
  omega
theorem wq{c:ae}{l:au}(h:kL c l=true):eJ c=true:=by
 unfold kL at h
 rw[bM]at h;exact h.2
theorem Z3{c:ae}(h:eJ c=true):c.1.length≤6:=by
 unfold eJ at h
 simp only[bM]at h
 exact(bt h.1).2
theorem aqu{P:Prop} [Decidable P]{a b s n p:Int}{r:Option Bool}(h:P↔0≤a∧a<n∧0≤b∧b≤33000000000∧0≤s∧s≤33000000000∧(b=0→s≠0)∧p<a):
  (if a<0 then some false else if n≤a then some false else if b<0 then some false else if 33000000000<b then some false else if s<0 then some false else if 33000000000<s then some false else
   if b=0 then(if s=0 then some false else if a≤p then some false else r)else if a≤p then some false else r)=if P then r else some false:=by
 by_cases hP:P
 ·have:=h.1 hP
  rw[aj hP,ah ω,ah ω,ah ω,ah ω,ah ω,ah ω]
  split
  ·rw[ah ω,ah ω]
  ·rw[ah ω]
 ·rw[ah hP]
  have h2:=λh1 h2 h3 h4 h5 h6 h7 h8=>hP (h.2 ⟨h1,h2,h3,h4,h5,h6,h7,h8⟩)
  repeat' split
  all_goals first|rfl|(exfalso;exact h2 ω ω ω ω ω ω ω ω)
theorem aqv{P:Prop} [Decidable P]{a b s n:Int}{r:Option Bool}(h:P↔0≤a∧a<n∧0≤b∧b≤33000000000∧0≤s∧s≤33000000000∧(b=0→s≠0)):
  (if a<0 then some false else if n≤a then some false else if b<0 then some false else if 33000000000<b then some false else if s<0 then some false else if 33000000000<s then some false else
   if b=0 then(if s=0 then some false else r)else r)=if P then r else some false:=by
 by_cases hP:P
 ·have:=h.1 hP
  rw[aj hP,ah ω,ah ω,ah ω,ah ω,ah ω,ah ω]
  split
  ·rw[ah ω]
  ·rfl
 ·rw[ah hP]
  have h2:=λh1 h2 h3 h4 h5 h6 h7=>hP (h.2 ⟨h1,h2,h3,h4,h5,h6,h7⟩)
  repeat' split
  all_goals first|rfl|(exfalso;exact h2 ω ω ω ω ω ω ω)
theorem S9{c:ae}{l:au}{i:Nat}(h:0<i):yl c l i↔0≤(l.getD i ba).1∧(l.getD i ba).1<(c.1.length:Int)∧0≤(l.getD i ba).2.1∧(l.getD i ba).2.1≤33000000000∧0≤(l.getD i ba).2.2.1∧(l.getD i ba).2.2.1≤33000000000∧((l.getD i ba).2.1=0→(l.getD i ba).2.2.1≠0)∧(l.getD (i-1) ba).1<(l.getD i ba).1:=
 ⟨λ⟨a,b,c,d,e,f,g,k⟩=>⟨a,b,c,d,e,f,g,k h⟩,λ⟨a,b,c,d,e,f,g,k⟩=>⟨a,b,c,d,e,f,g,λ_=>k⟩⟩
theorem PJ{c:ae}{l:au}{i:Nat}(h: ¬0<i):yl c l i↔0≤(l.getD i ba).1∧(l.getD i ba).1<(c.1.length:Int)∧0≤(l.getD i ba).2.1∧(l.getD i ba).2.1≤33000000000∧0≤(l.getD i ba).2.2.1∧(l.getD i ba).2.2.1≤33000000000∧((l.getD i ba).2.1=0→(l.getD i ba).2.2.1≠0):=
 ⟨λ⟨a,b,c,d,e,f,g,_⟩=>⟨a,b,c,d,e,f,g⟩,λ⟨a,b,c,d,e,f,g⟩=>⟨a,b,c,d,e,f,g,λk=>absurd k h⟩⟩
theorem KT(N:Nat)(hN:200000≤N)(c:ae){l:au}(hl:l.length≤100000):qk N c l=some (kL c l):=by
 unfold qk qk.b
 refine iI (F:=λn i=>qk.l2 N n l c l (l.length:Int) i) (yl c l) (λn i r hi hp hr=> ?_) (λn=> ?_) N ω
 ·unfold qk.l2 qk.fG
  rw[aR ω,ak,aW ω ω,ak,aI,aw (x:=(i:Int)+1) ω ω,af,hr]
  by_cases h0:0<i
  ·have e:W .i64 ((i:Int)-1)=((i-1:Nat):Int):=by rw[aw ω ω];omega
   dsimp only
   rw[aR (x:=0) (y:=(i:Int)) ω,e,aI,aW (i:=((i-1:Nat):Int)) ω ω]
   simp only[cy,cz,aL,ak]
   have hg:=S9 h0 (c:=c) (l:=l)
   exact aqu hg
  ·rw[aP (x:=0) (y:=(i:Int)) ω]
   simp only[cy,cz,aL,ak,av]
   have hg:=PJ h0 (c:=c) (l:=l)
   exact aqv hg
 ·unfold qk.l2 qk.fG
  rw[aP ω,av,FF N ω,ar]
theorem adn(N:Nat){u v:Int}(hu:cT u)(hv:cT v)(hs:cT (u-v)):S7 N (cN u) (cN v)=some (cN (u-v),true):=by
 unfold S7 cN
 unfold cT at*
 dsimp only
 have hp:0≤u%18446744073709551616∧u%18446744073709551616<18446744073709551616:=ω
 have hq:0≤v%18446744073709551616∧v%18446744073709551616<18446744073709551616:=ω
 rw[pZ,pZ,mF N ω ω ω ω ω ω,ar]
 dsimp only
 have hb:(0:Int)≤(if u%18446744073709551616<v%18446744073709551616+0 then 1 else 0)∧(if u%18446744073709551616<v%18446744073709551616+0 then(1:Int)else 0)≤1:=by split<;>omega
 rw[mF N ω ω ω ω hb.1 hb.2,ar]
 dsimp only
 have e3:W .i64 ((u/18446744073709551616%18446744073709551616-v/18446744073709551616%18446744073709551616-(if u%18446744073709551616<v%18446744073709551616+0 then 1 else 0))%18446744073709551616)=(u-v)/18446744073709551616:=by
  by_cases h0:u%18446744073709551616<v%18446744073709551616+0
  ·rw[aj h0,gF];split<;>omega
  ·rw[ah h0,gF];split<;>omega
 have e1:(u%18446744073709551616-v%18446744073709551616-0)%18446744073709551616=(u-v)%18446744073709551616:=ω
 rw[e3,e1]
 have key: ∀A B C:Int,A=u/18446744073709551616→B=v/18446744073709551616→C=(u-v)/18446744073709551616→(A<0∧ ¬B<0→C<0)∧(¬A<0∧B<0→ ¬C<0):=λA B C _ _ _=>ω
 have k:=key _ _ _ rfl rfl rfl
 simp only[p3,qw]
 by_cases a:u/18446744073709551616<0<;>by_cases b:v/18446744073709551616<0
 ·rw[aU a,aU b];rfl
 ·have c:=k.1 ⟨a,b⟩
  rw[aU a,bu b,aU c];rfl
 ·have c:=k.2 ⟨a,b⟩
  rw[bu a,aU b,bu c];rfl
 ·rw[bu a,bu b];rfl
theorem WR(N:Nat){v k:Int}(hv:0≤v∧v≤9223372069854775808)(hk:0≤k∧k≤1000000000):ado N (cN v) k=some (cN (v*k),true):=by
 unfold ado
 have hm:=Mw hv hk
 have h0:v/18446744073709551616=0:=ω
 have h1:v%18446744073709551616=v:=ω
 rw[Zf N ω ω,ar,LX N ω ω,ar,show(v.natAbs:Int)=v by omega,show(k.natAbs:Int)=k by omega,h0,h1]
 dsimp only
 rw[Hc N ω ω ω ω,ar,Hc N ω ω ω ω,ar,xk]
 dsimp only
 have e:cN v=((0:Int),(v,())):=by unfold cN;rw[h0,h1]
 generalize v*k=m at*
 rw[xS N ω ω ω ω,ar,e]
 dsimp only
 have e1:(0%18446744073709551616+m/18446744073709551616+0)%18446744073709551616=m/18446744073709551616:=ω
 have e2:(0/18446744073709551616:Int)+(0%18446744073709551616+m/18446744073709551616+0)/18446744073709551616=0:=ω
 rw[e1,e2,eE (x:=0) ω ω,ei,bh,av,aP (x:=0) ω,aP (x:=k) ω,p3]
 show(q6 N false _ _).bind _=_
 rw[Ah N ω ω ω ω,ar,show m/18446744073709551616*18446744073709551616+m%18446744073709551616=m by omega]
theorem adp(N:Nat){q:Int}{z:Int×Int}(hq:aF q)(hz:XY z):((OU N q).bind λr9=>(OU N z.1).bind λke=>(ZN N r9 ke).bind λnF=>(OU N q).bind λoR=>(OU N z.2).bind λpq=>(S7 N oR pq).bind λtj=>(S8 N nF.1).bind λvn=>(S8 N tj.1).bind λwu=>(Wm N vn.1 wu.1).bind λwY=>cond (aX wY 0) (some (wu.1,(0:Int))) (some (vn.1,(0:Int))))=some (cN (Mu q z),0):=by
 unfold aF XY at*
 have a1:cT q∧cT z.1∧cT z.2∧cT (q+z.1)∧cT (q-z.2):=by unfold cT;omega
 rw[vO N hq.1 hq.2,ar,vO N ω ω,ar,adf N a1.1 a1.2.1 a1.2.2.2.1,ar,ar,vO N ω ω,ar,adn N a1.1 a1.2.2.1 a1.2.2.2.2,ar,UQ N a1.2.2.2.1 ω,ar,UQ N a1.2.2.2.2 ω,ar,Uw,ar,cy]
 unfold Mu
 have hs:w7 (((q+z.1).natAbs:Int)-((q-z.2).natAbs:Int))<0↔((q+z.1).natAbs:Int)<((q-z.2).natAbs:Int):=by
  unfold w7;split<;>(try split)<;>omega
 by_cases h:((q+z.1).natAbs:Int)<((q-z.2).natAbs:Int)
 ·rw[aj h,aj (hs.2 h)]
 ·rw[ah h,ah (λk=>h (hs.1 k))]
theorem WS(N:Nat)(hN:200000≤N){o:au}(Cs:o.length≤100000)(ho: ∀x∈o,XY (x.2.1,x.2.2.1))(k:Int){q:Int}(hq:aF q):iY.mq N N k da q 0 0 o (o.length:Int) 0=some (cN (Mu q (Ey k o (0,0))),0):=by
 have:=nH o ba (λn i (z:Int×Int)=>iY.mq N n k da q z.1 z.2 o (o.length:Int) i) (λt z=>some (cN (Mu q (Ey k t z)),(0:Int))) (λi z=>XY z) (λn i z hi hz hr=> ?_) (λn z hz=> ?_) o.length N 0 (0,0) ω ω ω (by unfold XY;decide)
 ·exact this
 ·unfold iY.mq iY.lq
  rw[aR ω,ak,aW ω ω,ak,aI,aw (x:=(i:Int)+1) ω ω,af i,aL,HY]
  by_cases h:(o.getD i ba).1=k
  ·rw[aj h,aj h]
   exact hr ((o.getD i ba).2.1,(o.getD i ba).2.2.1) (ho _ (by rw[aV,bo hi];exact dO hi))
  ·rw[ah h,ah h]
   exact hr z hz
 ·unfold iY.mq iY.lq
  rw[aP ω,av]
  exact adp N hq hz
theorem ald(N:Nat)(hN:200000≤N)(c:ae){l:aE}(hl:l.length≤100000)(nh: ∀y∈l,aF y.2.1){o:au}(Cs:o.length≤100000)(k:Int):iY N c l o k=some (cN (PI c l o k).1,(PI c l o k).2):=by
 unfold iY iY.b PI
 rw[Ux N hN c hl,ar,cond_not,KT N hN c Cs,ar,cond_not,cy,cz]
 cases h1:pe c l with
 |false=>rfl
 |true=>
  cases h2:kL c o with
  |false=>rfl
  |true=>
   rw[ak,ak,fA,aj rfl]
   by_cases h3:0≤k∧k<(c.1.length:Int)
   ·rw[aj h3,ah ω,ah ω]
    have:=nH l da (λn i (q:Int)=>iY.l7 N n o k da q 0 0 l (l.length:Int) i) (λt q=>some (cN (Mu (KR k t q) (Ey k o (0,0))),(0:Int))) (λi q=>aF q) (λn i q hi hq hr=> ?_) (λn q hq=> ?_) l.length N 0 0 ω ω ω (by unfold aF;omega)
    ·exact this
    ·unfold iY.l7 iY.oP
     rw[aR ω,ak,aW ω ω,ak,aI,aw (x:=(i:Int)+1) ω ω,af i,aL,HX]
     by_cases h:(l.getD i da).1=k
     ·rw[aj h,aj h]
      exact hr _ (nh _ (by rw[aV,bo hi];exact dO hi))
     ·rw[ah h,ah h]
      exact hr q hq
    ·unfold iY.l7 iY.oP
     rw[aP ω,av]
     exact WS N hN Cs (UX h2) k hq
   ·rw[ah h3]
    by_cases h4:k<0
    ·rw[aj h4];rfl
    ·rw[ah h4,aj ω];rfl
theorem WT{c:ae}{l:aE}{o:au}(h1:pe c l=true)(h2:kL c o=true){k:Int}(hk:0≤k∧k<(c.1.length:Int)):(PI c l o k).1=B6 l o k:=by
 unfold PI
 rw[h1,h2,fA,aj rfl,aj hk]
theorem Z4(N:Nat)(hN:2000000≤N)(c:ae){l:aE}(hl:l.length≤100000)(nh: ∀y∈l,aF y.2.1){o:au}(Cs:o.length≤100000):sM N c l o=some (cN (y8 c l o).1,(y8 c l o).2):=by
 unfold sM sM.b y8
 rw[Ux N ω c hl,ar,cond_not,KT N ω c Cs,ar,cond_not]
 cases h1:pe c l with
 |false=>rfl
 |true=>
  cases h2:kL c o with
  |false=>rfl
  |true=>
   rw[ak,ak,fA,aj rfl]
   have h6:=Z3 (wq h2)
   have aqw: ∀i,i<c.1.length→0≤B6 l o (i:Int)*pn c i∧B6 l o (i:Int)*pn c i≤9223372069854775808000000000:=λi hi=>Mw (HZ h2 nh (i:Int)) (Mv (wq h2) hi)
   have hL: ∀n,n≤c.1.length→ ∀x∈wo c l o n,cT x:=by
    intro n
    induction n with
    |zero=>intro _ x hx;nomatch hx
    |succ n ih=>
     intro hn
     have:=aqw n ω
     exact vZ (ih ω) (by unfold cT;omega)
   have hw:=KS (wq h2) h2 nh c.1.length (aH _)
   have key: ∀(m n i:Nat),c.1.length-i≤m→m<n→i≤c.1.length→sM.l5 N n l o c da ((wo c l o i).map cN) c.1 (c.1.length:Int) (i:Int)=some (cN (rm c l o c.1.length),0):=by
    intro m n
    induction n generalizing m with
    |zero=>intro i _ hn;omega
    |succ n ih=>
     intro i hm hn hi
     unfold sM.l5 sM.eA
     by_cases h:i<c.1.length
     ·have hr:=Mv (wq h2) h
      have eQ:=hr
      unfold pn at eQ
      have ht:=HZ h2 nh (i:Int)
      rw[aR ω,ak,aW ω ω,ak,ald N ω c hl nh Cs,ar,WT h1 h2 ⟨ω,ω⟩,aI,WR N ht eQ,ar,bS (by rw[cD,Ap,aK];omega),ak,aw (x:=(i:Int)+1) ω ω,af i]
      have:=ih (m-1) (i+1) ω ω ω
      rw[show wo c l o (i+1)=wo c l o i++[B6 l o (i:Int)*pn c i]from rfl,dj]at this
      exact this
     ·have e:i=c.1.length:=ω
      subst e
      rw[aP ω,av,FE N (hL _ hi) (by rw[Ap];omega) ω,ar,H4]
      unfold OV
      rw[aj (by unfold cT;omega)]
   exact key c.1.length N 0 ω ω ω
theorem JF{c:ae}{b:an}(h:df c b=true):dn b.2.2.2.2.2.1=true:=by
 unfold df at h
 simp only[bM]at h
 exact h.2.2.2.2.2.1
theorem WU(l:aY)(a:Int):(rl l a).length≤6:=US _ 6 0
def qIn(q:Int):Prop:=1≤q∧q≤1000000000
instance(q:Int):Decidable (qIn q):=by unfold qIn;infer_instance
def B7(a b c d:Int):Prop:=(1≤a∧a≤1099511627776)∧(0≤b∧b<6)∧(c=1∨c=2)∧qIn d
instance(a b c d:Int):Decidable (B7 a b c d):=by unfold B7;infer_instance
def B8(h:cG):Prop:=B7 h.1 h.2.1 h.2.2.1 h.2.2.2.1
instance(h:cG):Decidable (B8 h):=by unfold B8;infer_instance
theorem ym(N:Nat)(h:cG):ads N h=some (decide (B8 h)):=by
 unfold ads
 rw[m0 h.2.2.2.1]
 rw[ia,Hm,CS,Hl,ia,ia,ia]
 congr 1
 rw[pR,fP]
 unfold B8 B7 qIn
 simp only[bM,nV,rQ,xf,FY]
 omega
end VM
end
