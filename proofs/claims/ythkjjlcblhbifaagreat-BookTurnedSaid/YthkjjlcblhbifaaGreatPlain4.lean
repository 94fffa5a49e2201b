/- A part of the proof of BookTurned of layer 18: what the functions compute, in plain words. -/
import Derived.Test.YthkjjlcblhbifaaGreatPlain3
set_option linter.all false
section
namespace VM
open Go VM.F
variable(N:Nat)
theorem qj{a b:List Int}(hl:a.length=b.length)(h: ∀i,i<a.length→a.getD i 0=b.getD i 0):a=b:=by
 refine List.ext_getElem hl (λi h1 h2=> ?_)
 have:=h i h1
 rwa [aW,bm h1,aW,bm h2]at this
theorem UZ: ∀(ks q:List Int) (i:Nat),ks.Nodup→(∀k∈ks,0≤k∧k<q.length)→(bump q ks).getD i 0=q.getD i 0+(if(i:Int)∈ks then 1 else 0)
 |[],q,i,_,_=>by simp[bump]
 |k::t,q,i,hn,h=>by
  have hk:=h k (bu ..)
  rw[AY]at hn
  unfold bump
  rw[UZ t _ i hn.2 (λx hx=>by rw[bU];exact h x (ba _ hx))]
  by_cases hik:(i:Int)=k
  ·rw[ag (by rw[hik];exact hn.1),ak (by rw[hik];exact bu ..),←hik,aG,nH q _ ω];omega
  ·rw[getD_set_ne q _ ω]
   by_cases ht:(i:Int)∈t
   ·rw[ak ht,ak (ba _ ht)]
   ·rw[ag ht,ag (λhc=>by rcases bh.1 hc with hc|hc;exact hik hc;exact ht hc)]
theorem PO(l:List Int):(lz l).Nodup:=(pt l l.length).imp (λ{a b} h he=>by unfold zJ at h;rw[he]at h;omega)
theorem U0(t S:Int)(hS:0<S): ∀u:List Int,(mq t S u).sum≤u.length*S
 |[]=>by simp[mq]
 |x::u=>by
  have ih:=U0 t S hS u
  have:=AS (t*x) hS
  unfold mq at*
  rw[ca,cN,aT,Int.natCast_add,pZ];simp;omega
def nP(t:Int)(w:List Int):Int:=t-(ti t w.sum w).sum
theorem left_eq(t:Int)(w:List Int):w.sum*nP t w=(mq t w.sum w).sum:=by
 have:=MH t w.sum w
 unfold nP;rw[Int.mul_sub,jm w.sum t];omega
theorem Ia{t:Int}{w:List Int}(ht:0≤t)(hS:0<w.sum):0≤nP t w:=by
 have:=ZX ht hS (fY _);unfold nP;omega
theorem U1{t:Int}{w:List Int}(hS:0<w.sum):nP t w≤w.length:=by
 have h1:=left_eq t w
 have h2:=U0 t w.sum hS w
 rw[←h1,jm (w.length:Int)]at h2
 exact NT h2 hS
theorem pv(t:Int)(w:List Int):(cv t w).length=w.length:=by unfold cv;rw[PK,yh]
theorem wm{t:Int}{w:List Int}(ht:0≤t)(hS:0<w.sum):(cv t w).sum=t:=by
 unfold cv
 have h1:=Ia ht hS
 have h2:=U1 (t:=t) hS
 unfold nP at*
 rw[PM _ _ (λk hk=>by have:=H9 _ k (lI hk);rw[qi]at this;rwa [yh]),cj,Ao,qi]
 omega
theorem Aq{f:Int→Int}{c:Int}: ∀{o:List Int},(∀x∈o,f x≤c)→(o.map f).sum≤o.length*c
 |[],_=>by simp
 |x::o,h=>by
  have ih:=Aq (f:=f) (c:=c) (o:=o) (λy hy=>h y (ba _ hy))
  have:=h x (bu ..)
  rw[ca,cN,aT,Int.natCast_add,pZ];simp;omega
theorem S8{l o:List Int}(h:o.Pairwise (zJ l)){m:Nat}{x y:Int}(hx:x∈o.take m)(hy:y∈o.drop m):zJ l x y:=by
 rw[←gT m o,xg]at h
 exact h.2.2 x hx y hy
theorem WS{t:Int}{w:List Int}(ht:0≤t)(hS:0<w.sum){i:Int}(hi:i∈(lz (mq t w.sum w)).take (nP t w).toNat):0<Cc (mq t w.sum w) i:=by
 have Oy: ∀k:Int,0≤Cc (mq t w.sum w) k:=λk=>iO (PN hS) _
 have eU: ∀k:Int,Cc (mq t w.sum w) k≤w.sum-1:=λk=>by
  unfold Cc;rw[UY]
  have:=AS (t*w.getD k.toNat 0) hS;omega
 have h0:=Oy i
 rcases Int.lt_or_le 0 (Cc (mq t w.sum w) i)with h|h
 ·exact h
 exfalso
 have JX:=S6 (mq t w.sum w) (mq t w.sum w) rfl
 rw[←left_eq]at JX
 have awm:=gT (nP t w).toNat (lz (mq t w.sum w))
 rw[←awm,dr,oa]at JX
 have hd:(((lz (mq t w.sum w)).drop (nP t w).toNat).map (Cc (mq t w.sum w))).sum≤((lz (mq t w.sum w)).drop (nP t w).toNat).length*0:=Aq (λy hy=>by
  have:=S8 (pt _ _) hi hy
  unfold zJ at this;omega)
 have htk:(((lz (mq t w.sum w)).take (nP t w).toNat).map (Cc (mq t w.sum w))).sum≤((lz (mq t w.sum w)).take (nP t w).toNat).length*(w.sum-1):=Aq (λy _=>eU y)
 have h1:=Ia ht hS
 have h2:=U1 (t:=t) hS
 rw[cj,Ao,qi,iu ω,Int.mul_sub]at htk
 rw[A4]at hd
 have h3:(((nP t w).toNat:Nat):Int)=nP t w:=ω
 have h4:0<(nP t w).toNat:=by
  rcases Nat.eq_zero_or_pos (nP t w).toNat with h|h
  ·rw[h,mA]at hi;nomatch hi
  ·exact h
 rw[h3,jm (nP t w)]at htk
 omega
def extra(t:Int)(w:List Int)(i:Nat):Int:=if(i:Int)∈(lz (mq t w.sum w)).take (nP t w).toNat then 1 else 0
theorem KX(t:Int)(w:List Int)(i:Nat):(cv t w).getD i 0=t*w.getD i 0/w.sum+extra t w i:=by
 unfold cv
 rw[UZ _ _ i ((PO _).sublist (List.take_sublist ..)) (λk hk=>by have:=H9 _ k (lI hk);rw[qi]at this;rwa [yh]),UX]
 rfl
theorem KY(t:Int)(w:List Int)(i:Nat):extra t w i=0∨extra t w i=1:=by unfold extra;split<;>omega
theorem WT{t:Int}{w:List Int}(ht:0≤t)(hS:0<w.sum){i:Nat}(h:extra t w i=1):0<t*w.getD i 0%w.sum:=by
 unfold extra at h
 by_cases hi:(i:Int)∈(lz (mq t w.sum w)).take (nP t w).toNat
 ·have:=WS ht hS hi
  unfold Cc at this;rwa [UY,aG]at this
 ·rw[ag hi]at h;omega
theorem wo{t:Int}{w:List Int}(ht:0≤t)(hS:0<w.sum)(hw:Pos w):Pos (cv t w):=λx hx=>by
 obtain⟨i,hi,rfl⟩:=rO.1 hx
 have:=KX t w i
 rw[aW,bm hi]at this
 have h1:=KY t w i
 have h2:0≤t*w.getD i 0/w.sum:=uC (uF ht (iO hw i)) ω
 simp only[n7]at this
 omega
theorem EA{t:Int}{w:List Int}(ht:0≤t)(hS:0<w.sum){i:Nat}(h:w.getD i 0=0):(cv t w).getD i 0=0:=by
 rw[KX,h]
 rcases KY t w i with h1|h1
 ·rw[h1];simp
 ·have:=WT ht hS h1
  rw[h]at this;simp at this
theorem EB(N:Nat)(hN:5000000≤N){t:Int}{w:List Int}(ht:0≤t)(w8:t<9223372036854775808)(hw:w.length≤64)(hp:Pos w)(hS:0<w.sum)(hS1:w.sum<9223372036854775808):
  ∀(m n i:Nat) (q r:List Int),w.length-i≤m→m<n→i≤w.length→q.length=w.length→r.length=w.length→q.take i=ti t w.sum (w.take i)→r.take i=mq t w.sum (w.take i)→
  gC.KZ N n t w (cI w.sum) q r (t-(ti t w.sum (w.take i)).sum) (i:Int)=some (cv t w,0)
 |m,0,i,q,r,_,hn,_,_,_,_,_=>ω
 |m,n+1,i,q,r,hm,hn,hi,hq,hr,eq,er=>by
  unfold gC.KZ gC.Ib
  by_cases h:i<w.length
  ·have hwi:=iO hp i
   have awn:=Ap hp i
   have hb:=mul_lt ht hwi (show t≤9223372036854775807 by omega) (show w.getD i 0≤9223372036854775807 by omega)
   have hqi:t*w.getD i 0/w.sum≤t:=Int.ediv_le_of_le_mul hS (yJ awn ht)
   have aDU:0≤t*w.getD i 0/w.sum:=uC hb.1 ω
   have hri:=AS (t*w.getD i 0) hS
   have aDV:=Gx (t*w.getD i 0) (show w.sum≠0 by omega)
   have hs0:=ZX ht hS (Ez hp i)
   have NA:=kK (H7 ht (by omega:0≤w.sum) (PL hp i))
   have ft:Fit t 2:=Fit.i64 ω ω
   have fw:Fit (w.getD i 0) 2:=Fit.i64 ω ω
   have fS:Fit w.sum 2:=Fit.i64 ω ω
   rw[aQ ω,aj,dd N ω ω w8,ar,aU ω ω,aj,aG,dd N ω ω ω,ar,
    sx N ω (ft.mono ω) (fw.mono ω),ar,Uz N ω hS ((ft.mul fw).mono ω) (fS.mono ω),ar]
   dsimp only
   rw[uk,ar,MI ω ω,uk,MI ω ω]
   dsimp only
   rw[ar,aU ω ω,aj,aU ω ω,aj,bU,aU ω ω,aj,nH q _ ω,aw (x:=(i:Int)+1) ω ω,aw ω ω]
   have BQ:=EB N hN ht w8 hw hp hS hS1 (m-1) n (i+1) (q.set i (t*w.getD i 0/w.sum)) (r.set i (t*w.getD i 0%w.sum)) ω ω ω (by rw[bU];exact hq) (by rw[bU];exact hr)
    (by rw[take_set q _ ω,eq,iV w h];unfold ti;simp)
    (by rw[take_set r _ ω,er,iV w h];unfold mq;simp)
   rw[←KW,mJ _ (by rw[yh];exact h),UX,KW]at BQ
   rw[Int.sub_sub]
   exact BQ
  ·have oj:i=w.length:=ω
   subst oj
   rw[iG ω,iG ω]at eq er
   subst eq er
   rw[iG ω]
   have NA:=kK (H7 ht (by omega:0≤w.sum) hp)
   have h1:=Ia ht hS
   unfold nP at h1
   rw[aO ω,av,WR N (by rw[qi];omega) (by rw[qi];omega),ar]
   have hlen:=Ao (mq t w.sum w)
   rw[qi]at hlen
   have xD:=H8 N (ks:=lz (mq t w.sum w)) ω w.length (λk hk=>by have:=H9 _ k hk;rwa [qi]at this) 1000 N 0 (t-(ti t w.sum w).sum).toNat (ti t w.sum w) ω ω ω (yh ..) (H7 ht ω hp) ω ω
   rw[cM,uy h1]at xD
   exact xD
theorem Dq(hN:5000000≤N){t:Int}{w:List Int}(w8:t<9223372036854775808)(hw:KV w)(hl:w.length≤1000000):gC N t w=some (sI t w):=by
 unfold gC gC.b sI
 rw[H6 N ω,ar]
 by_cases h1:t<0
 ·rw[aV h1,A5,aj,ak (.inl h1)]
 rw[bw h1,pX]
 cases h2:may w
 ·rw[dw,aj,ak (.inr rfl)]
 rw[bk,av,ag (by simp[h1]),Ad N ω hw hl,ar,pM,ar]
 obtain⟨Ic,hp⟩:=pP.1 h2
 have hS0:=kK hp
 have hj: ∀h: ¬9223372036854775808≤w.sum,gC.j6 N t w (cI w.sum)=if w.sum=0 then some (List.replicate w.length 0,0)else some (cv t w,0):=λh=>by
  unfold gC.j6 gC.O6
  rw[uk,ar,MI ω ω,bk,av,db ω ω ω,aj,aj,pM,ar,aG]
  by_cases h4:w.sum=0
  ·rw[ak h4,h4,show vP 0=0 from rfl,eg rfl,aj]
  ·rw[ag h4,eH (by unfold vP;repeat' split<;>omega),av]
   have:=EB N hN ω w8 Ic hp ω ω w.length N 0 (List.replicate w.length 0) (List.replicate w.length 0) ω ω ω (c9 ..) (c9 ..) rfl rfl
   rw[mA]at this
   simp only[ti,gU,jn,GC]at this
   exact this
 by_cases h3:9223372036854775808≤w.sum
 ·rw[ak h3,eH (by unfold vP;repeat' split<;>omega),av]
  unfold gC.j6 gC.O6
  rw[uk,ar];unfold C0;rw[ag ω];rfl
 rw[ag h3,hj h3]
 by_cases h4:w.sum=0
 ·rw[ak h4,ak h4,h4,show vP 0=0 from rfl,eg rfl,aj]
  by_cases h5:t=0
  ·rw[ak h5,eg h5,bk,av]
  ·rw[ag h5,eH h5,dw,aj]
 ·rw[ag h4,ag h4,eH (by unfold vP;repeat' split<;>omega),av]
def K0(t n:Int):List Int×Int:=if t<0∨n<1∨64<n then([],1)else sI t (List.replicate n.toNat 1)
theorem ZY(n:Nat):KV (List.replicate n 1):=λx hx=>by rw[AK hx];omega
theorem K1(N:Nat)(hN:5000000≤N){t:Int}{k:Nat}(hk:k≤64)(w8:t<9223372036854775808): ∀(m n i:Nat),k-i≤m→m<n→i≤k→
  sJ.l5 N n t (k:Int) (List.replicate i 1++List.replicate (k-i) 0) (i:Int)=some (sI t (List.replicate k 1))
 |m,0,i,_,hn,_=>ω
 |m,n+1,i,hm,hn,hi=>by
  unfold sJ.l5 sJ.dV
  by_cases h:i<k
  ·rw[aQ ω,aj,aU ω (by simp;omega),aj,aw ω ω]
   refine Eq.trans ?_ (K1 N hN hk w8 (m-1) n (i+1) ω ω ω)
   congr 1
   rw[aG,N6 _ _ (by simp),c9,uH,show k-i=(k-(i+1))+1 by omega,AQ,List.set_cons_zero,List.replicate_succ',bF]
   rfl
  ·rw[aO ω,av,show k-i=0 by omega,List.replicate_zero,cA,show i=k by omega,Dq N hN w8 (ZY _) (by rw[c9];omega)]
   rfl
theorem ZZ(hN:5000000≤N){t n:Int}(w8:t<9223372036854775808):sJ N t n=some (K0 t n):=by
 unfold sJ sJ.b K0
 by_cases h1:t<0
 ·rw[aQ h1,aj,ak (.inl h1)]
 by_cases h2:n<1
 ·rw[aO ω,av,aQ h2,aj,ak (.inr (.inl h2))]
 by_cases h3:64<n
 ·rw[aO ω,av,aO ω,av,aQ h3,aj,ak (.inr (.inr h3))]
 rw[aO ω,av,aO ω,av,aO ω,av,ag ω,db ω ω ω,aj]
 have:=K1 N hN (t:=t) (k:=n.toNat) ω w8 n.toNat N 0 ω ω ω
 rw[List.replicate_zero,cD,Nat.sub_zero,uy ω]at this
 exact this
def Ie(n:Nat)(f:Nat→Int):List Int:=(List.range n).map f
theorem iy(n:Nat)(f:Nat→Int):(Ie n f).length=n:=by unfold Ie;rw[cB,xh]
theorem il{n:Nat}{f:Nat→Int}{i:Nat}(h:i<n):(Ie n f).getD i 0=f i:=by
 unfold Ie
 rw[aW,ob,List.getElem?_range h];rfl
theorem MJ(n:Nat)(f:Nat→Int)(i:Nat):(Ie n f).getD i 0=if i<n then f i else 0:=by
 by_cases h:i<n
 ·rw[ak h,il h]
 ·rw[ag h,vQ _ (by rw[iy];omega)]
theorem adj{n:Nat}{f:Nat→Int}(h: ∀i,i<n→0≤f i):Pos (Ie n f):=λx hx=>by
 obtain⟨i,hi,rfl⟩:=cY.1 hx
 exact h i (rV.1 hi)
theorem tS{l:List Int}(h: ∀i,i<l.length→0≤l.getD i 0):Pos l:=λx hx=>by
 obtain⟨i,hi,rfl⟩:=rO.1 hx
 have:=h i hi
 rwa [aW,bm hi]at this
theorem y8: ∀{a b:List Int},a.length=b.length→(∀i,i<a.length→a.getD i 0≤b.getD i 0)→a.sum≤b.sum
 |[],[],_,_=>fY _
 |[],_::_,h,_=>nomatch h
 |_::_,[],h,_=>nomatch h
 |x::a,y::b,h,h1=>by
  have:=y8 (a:=a) (b:=b) (by simpa using h) (λi hi=>by have:=h1 (i+1) (by simpa using hi);simpa using this)
  have h2:x≤y:=by have:=h1 0 (by simp);simpa using this
  rw[cN,cN];omega
theorem Ig: ∀{a b c:List Int},a.length=b.length→a.length=c.length→(∀i,i<a.length→a.getD i 0=b.getD i 0+c.getD i 0)→a.sum=b.sum+c.sum
 |[],[],[],_,_,_=>rfl
 |[],_::_,_,h,_,_=>nomatch h
 |[],[],_::_,_,h,_=>nomatch h
 |_::_,[],_,h,_,_=>nomatch h
 |_::_,_::_,[],_,h,_=>nomatch h
 |x::a,y::b,z::c,h,h',h1=>by
  have:=Ig (a:=a) (b:=b) (c:=c) (by simpa using h) (by simpa using h') (λi hi=>by have:=h1 (i+1) (by simpa using hi);simpa using this)
  have h2:x=y+z:=by have:=h1 0 (by simp);simpa using this
  rw[cN,cN,cN];omega
theorem yi: ∀{a:List Int},(∀i,i<a.length→a.getD i 0=0)→a.sum=0
 |[],_=>rfl
 |x::a,h=>by
  have:=yi (a:=a) (λi hi=>by have:=h (i+1) (by simpa using hi);simpa using this)
  have h2:x=0:=by have:=h 0 (by simp);simpa using this
  rw[cN];omega
def c6(w caps out:List Int):List Int:=Ie w.length λi=>if out.getD i 0<caps.getD i 0 then w.getD i 0 else 0
def gi(parts caps out:List Int):List Int:=Ie out.length λi=>min (parts.getD i 0) (caps.getD i 0-out.getD i 0)
def yj(out g:List Int):List Int:=Ie out.length λi=>out.getD i 0+g.getD i 0
def wq(w caps:List Int):Nat→List Int→Int→List Int×Int
 |0,out,left=>(out,left)
 |f+1,out,left=>if left=0∨(c6 w caps out).sum=0 then(out,left)else
  wq w caps f (yj out (gi (cv left (c6 w caps out)) caps out)) (left-(gi (cv left (c6 w caps out)) caps out).sum)
structure U2(t:Int)(w caps out:List Int)(left:Int):Prop where
 n:w.length≤64
 l1:caps.length=w.length
 l2:out.length=w.length
 pw:Pos w
 sw:w.sum<9223372036854775808
 pc: ∀i,0≤caps.getD i 0∧caps.getD i 0<9223372036854775808
 po: ∀i,0≤out.getD i 0
 le: ∀i,i<w.length→out.getD i 0≤caps.getD i 0
 z: ∀i,w.getD i 0=0→out.getD i 0=0
 l:0≤left
 t1:t<9223372036854775808
 s:out.sum+left=t
theorem jG(w caps out:List Int):(c6 w caps out).length=w.length:=iy ..
theorem sK{w caps out:List Int}(h:Pos w):Pos (c6 w caps out):=adj (λi _=>by split;exact iO h i;omega)
theorem PQ{w caps out:List Int}(h:Pos w):(c6 w caps out).sum≤w.sum:=y8 (jG ..) (λi hi=>by
 rw[jG]at hi
 unfold c6;rw[il hi];split
 ·omega
 ·exact iO h i)
theorem Z0{t left:Int}{w caps out:List Int}(c:U2 t w caps out left):KV (c6 w caps out):=λx hx=>by
 have h1:=sK (caps:=caps) (out:=out) c.pw
 have h2:=PQ (caps:=caps) (out:=out) c.pw
 have h3:=h1 x hx
 obtain⟨i,hi,rfl⟩:=rO.1 hx
 have h4:=Ap h1 i
 rw[aW,bm hi]at h4
 simp only[n7]at h4
 have:=c.sw
 omega
theorem PS{t left:Int}{w caps out:List Int}(c:U2 t w caps out left):left≤t:=by
 have:=kK (q:=out) (tS (λi _=>c.po i));have:=c.s;omega
theorem pQ{t left:Int}{w caps out:List Int}(c:U2 t w caps out left)(hS:0<(c6 w caps out).sum)(i:Nat):
  0≤(gi (cv left (c6 w caps out)) caps out).getD i 0∧(gi (cv left (c6 w caps out)) caps out).getD i 0≤(cv left (c6 w caps out)).getD i 0∧(i<w.length→out.getD i 0+(gi (cv left (c6 w caps out)) caps out).getD i 0≤caps.getD i 0):=by
 have h0:=iO (wo c.l hS (sK c.pw)) i
 unfold gi
 rw[MJ]
 have:=c.l2
 by_cases h:i<out.length
 ·rw[ak h]
  have:=c.le i ω
  omega
 ·rw[ag h];exact⟨ω,h0,λh=>ω⟩
theorem yk(parts caps out:List Int):(gi parts caps out).length=out.length:=iy ..
theorem Ih{t left:Int}{w caps out:List Int}(c:U2 t w caps out left)(hS:0<(c6 w caps out).sum):0≤(gi (cv left (c6 w caps out)) caps out).sum∧(gi (cv left (c6 w caps out)) caps out).sum≤left:=by
 constructor
 ·exact kK (tS (λi _=>(pQ c hS i).1))
 ·have:=y8 (a:=gi (cv left (c6 w caps out)) caps out) (b:=cv left (c6 w caps out)) (by rw[yk,pv,jG,c.l2]) (λi _=>(pQ c hS i).2.1)
  rwa [wm c.l hS]at this
theorem PU{t left:Int}{w caps out:List Int}(c:U2 t w caps out left)(hS:0<(c6 w caps out).sum):U2 t w caps (yj out (gi (cv left (c6 w caps out)) caps out)) (left-(gi (cv left (c6 w caps out)) caps out).sum):=by
 have pH: ∀i,(yj out (gi (cv left (c6 w caps out)) caps out)).getD i 0=if i<out.length then out.getD i 0+(gi (cv left (c6 w caps out)) caps out).getD i 0 else 0:=λi=>by unfold yj;rw[MJ]
 have gs:=Ih c hS
 refine⟨c.n,c.l1,?_,c.pw,c.sw,c.pc,λi=> ?_,λi hi=> ?_,λi hi=> ?_,ω,c.t1,?_⟩
 ·unfold yj;rw[iy,c.l2]
 ·rw[pH];have:=(pQ c hS i).1;have:=c.po i;split<;>omega
 ·rw[pH,ak (by rw[c.l2];exact hi)];exact(pQ c hS i).2.2 hi
 ·rw[pH]
  split
  ·have h1:(c6 w caps out).getD i 0=0:=by unfold c6;rw[MJ,hi];split<;>(try split)<;>rfl
   have h2:=EA c.l hS h1
   have h3:=pQ c hS i
   rw[c.z i hi];omega
  ·rfl
 ·have:=Ig (a:=yj out (gi (cv left (c6 w caps out)) caps out)) (b:=out) (c:=gi (cv left (c6 w caps out)) caps out) (by unfold yj;rw[iy]) (by unfold yj;rw[iy,yk]) (λi hi=>by
   unfold yj at hi;rw[iy]at hi;rw[pH,ak hi])
  have:=c.s
  omega
def opens(w caps out:List Int):Nat:=(List.range w.length).countP λi=>decide (0<w.getD i 0∧out.getD i 0<caps.getD i 0)
theorem K2{p q:Nat→Bool}: ∀{l:List Nat},(∀x∈l,q x=true→p x=true)→(∃x∈l,p x=true∧q x=false)→l.countP q<l.countP p
 |[],_,⟨x,hx,_⟩=>nomatch hx
 |y::l,h,⟨x,hx,h1,h2⟩=>by
  have hle:l.countP q≤l.countP p:=List.countP_mono_left (λz hz=>h z (ba _ hz))
  rw[List.countP_cons,List.countP_cons]
  rcases bh.1 hx with rfl|hx
  ·rw[h1,h2];simp;omega
  ·have:=K2 (p:=p) (q:=q) (l:=l) (λz hz=>h z (ba _ hz)) ⟨x,hx,h1,h2⟩
   have h3:=h y (bu ..)
   cases hq:q y<;>cases hp:p y<;>simp<;>try omega
   rw[hq,hp]at h3;simp at h3
theorem K3{w caps out:List Int}(hw:Pos w)(h:(c6 w caps out).sum=0): ∀i,i<w.length→ ¬(0<w.getD i 0∧out.getD i 0<caps.getD i 0):=λi hi ⟨h1,h2⟩=>by
 have:=Ap (sK (caps:=caps) (out:=out) hw) i
 unfold c6 at this h
 rw[il hi,ak h2,h]at this
 omega
theorem MK{w caps out:List Int}(hw:Pos w)(h:(c6 w caps out).sum≠0): ∃i,i<w.length∧0<w.getD i 0∧out.getD i 0<caps.getD i 0:=by
 by_cases hx: ∃i,i<w.length∧0<w.getD i 0∧out.getD i 0<caps.getD i 0
 ·exact hx
 ·refine absurd (yi (λi hi=> ?_)) h
  rw[jG]at hi
  unfold c6
  rw[il hi]
  split
  ·rename_i h1
   have:=iO hw i
   by_cases h2:0<w.getD i 0
   ·exact absurd ⟨i,hi,h2,h1⟩ hx
   ·omega
  ·rfl
theorem WU{t left:Int}{w caps out:List Int}(c:U2 t w caps out left)(hS:0<(c6 w caps out).sum)(hl:left-(gi (cv left (c6 w caps out)) caps out).sum≠0):opens w caps (yj out (gi (cv left (c6 w caps out)) caps out))<opens w caps out:=by
 have pH: ∀i,i<w.length→(yj out (gi (cv left (c6 w caps out)) caps out)).getD i 0=out.getD i 0+(gi (cv left (c6 w caps out)) caps out).getD i 0:=λi hi=>by unfold yj;rw[il (by rw[c.l2];exact hi)]
 refine K2 (λi hi h=> ?_) ?_
 ·rw[rV]at hi
  rw[fV,pH i hi]at h
  rw[fV]
  have:=(pQ c hS i).1
  omega
 ·by_cases hx: ∃i,i<w.length∧(0<w.getD i 0∧out.getD i 0<caps.getD i 0)∧caps.getD i 0≤out.getD i 0+(gi (cv left (c6 w caps out)) caps out).getD i 0
  ·obtain⟨i,h1,h2,h3⟩:=hx
   refine⟨i,rV.2 h1,aV h2,bw ?_⟩
   rw[pH i h1];omega
  ·exfalso
   have h1:cv left (c6 w caps out)=gi (cv left (c6 w caps out)) caps out:=by
    refine qj (by rw[yk,pv,jG,c.l2]) (λi hi=> ?_)
    rw[pv,jG]at hi
    have h2:=pQ c hS i
    have h3:=iO (wo c.l hS (sK (caps:=caps) (out:=out) c.pw)) i
    by_cases h4:0<w.getD i 0∧out.getD i 0<caps.getD i 0
    ·have h5: ¬caps.getD i 0≤out.getD i 0+(gi (cv left (c6 w caps out)) caps out).getD i 0:=λh=>hx ⟨i,hi,h4,h⟩
     have h6:(gi (cv left (c6 w caps out)) caps out).getD i 0=min ((cv left (c6 w caps out)).getD i 0) (caps.getD i 0-out.getD i 0):=il (by rw[c.l2];exact hi)
     omega
    ·have h7:(c6 w caps out).getD i 0=0:=by
      unfold c6;rw[il hi]
      have:=iO c.pw i
      split<;>omega
     have:=EA c.l hS h7
     omega
   rw[←h1,wm c.l hS]at hl
   omega
theorem Z1(w caps out:List Int):opens w caps out≤w.length:=by
 unfold opens
 have:=List.countP_le_length (p:=λi=>decide (0<w.getD i 0∧out.getD i 0<caps.getD i 0)) (l:=List.range w.length)
 rwa [xh]at this
structure Full(t:Int)(w caps out:List Int)(left:Int):Prop where
 c:U2 t w caps out left
 f:left=0∨ ∀i,i<w.length→ ¬(0<w.getD i 0∧out.getD i 0<caps.getD i 0)
theorem PV{t:Int}{w caps:List Int}: ∀(f:Nat) (out:List Int) (left:Int),U2 t w caps out left→(opens w caps out<f∨left=0)→Full t w caps (wq w caps f out left).1 (wq w caps f out left).2
 |0,out,left,c,h=>⟨c,.inl (show left=0 by omega)⟩
 |f+1,out,left,c,h=>by
  unfold wq
  have hS:=kK (sK (caps:=caps) (out:=out) c.pw)
  split
  ·rename_i h1
   exact⟨c,h1.imp id (K3 c.pw)⟩
  ·rename_i h1
   refine PV f _ _ (PU c ω) ?_
   by_cases h2:left-(gi (cv left (c6 w caps out)) caps out).sum=0
   ·exact .inr h2
   ·have:=WU c ω h2
    exact .inl ω
def Dr(out g:List Int)(i:Nat):List Int:=Ie out.length λj=>if j<i then out.getD j 0+g.getD j 0 else out.getD j 0
theorem mid_zero(out g:List Int):Dr out g 0=out:=qj (iy ..) (λi hi=>by unfold Dr at*;rw[iy]at hi;rw[il hi,ag ω])
theorem adk(out g:List Int){n:Nat}(h:out.length≤n):Dr out g n=yj out g:=qj (by unfold Dr yj;rw[iy,iy]) (λi hi=>by unfold Dr yj at*;rw[iy]at hi;rw[il hi,il hi,ak ω])
theorem Ce(out g:List Int)(i:Nat):(Dr out g i).length=out.length:=iy ..
theorem alm{out g:List Int}{i:Nat}(h:i<out.length):(Dr out g i).getD i 0=out.getD i 0:=by unfold Dr;rw[il h,ag ω]
theorem adl{out g:List Int}{i:Nat}(h:i<out.length):(Dr out g i).set i (out.getD i 0+g.getD i 0)=Dr out g (i+1):=qj (by rw[bU,Ce,Ce]) (λj hj=>by
 rw[bU,Ce]at hj
 by_cases z8:i=j
 ·subst z8
  rw[nH _ _ (by rw[Ce];exact h)];unfold Dr;rw[il h,ak ω]
 ·rw[getD_set_ne _ _ z8];unfold Dr;rw[il hj,il hj]
  by_cases h1:j<i
  ·rw[ak h1,ak ω]
  ·rw[ag h1,ag ω])
def tT(s:List Int)(i:Nat):List Int:=Ie s.length λj=>if j<i then s.getD j 0 else 0
theorem WV(s:List Int):tT s 0=List.replicate s.length 0:=qj (by unfold tT;rw[iy,c9]) (λi hi=>by
 unfold tT at*;rw[iy]at hi;rw[il hi,ag ω,aW,Gi,ak hi];rfl)
theorem Z2(s:List Int):tT s s.length=s:=qj (iy ..) (λi hi=>by unfold tT at*;rw[iy]at hi;rw[il hi,ak hi])
theorem qk(s:List Int)(i:Nat):(tT s i).length=s.length:=iy ..
theorem Z3{s:List Int}{i:Nat}(h:i<s.length):(tT s i).set i (s.getD i 0)=tT s (i+1):=qj (by rw[bU,qk,qk]) (λj hj=>by
 rw[bU,qk]at hj
 by_cases z8:i=j
 ·subst z8
  rw[nH _ _ (by rw[qk];exact h)];unfold tT;rw[il h,ak ω]
 ·rw[getD_set_ne _ _ z8];unfold tT;rw[il hj,il hj]
  by_cases h1:j<i
  ·rw[ak h1,ak ω]
  ·rw[ag h1,ag ω])
theorem K4{s:List Int}{i:Nat}(h:s.getD i 0=0):tT s i=tT s (i+1):=qj (by rw[qk,qk]) (λj hj=>by
 rw[qk]at hj
 unfold tT;rw[il hj,il hj]
 by_cases h1:j<i
 ·rw[ak h1,ak ω]
 ·rw[ag h1]
  by_cases h2:j=i
  ·subst h2;rw[ak ω,h]
  ·rw[ag ω])
theorem aln(x y:Int):mn x y=min x y:=by rw[Yc];split<;>omega
theorem WW{t left:Int}{w caps out:List Int}(c:U2 t w caps out left)(hS:0<(c6 w caps out).sum)(i:Nat):0≤((gi (cv left (c6 w caps out)) caps out).take i).sum∧((gi (cv left (c6 w caps out)) caps out).take i).sum≤left:=by
 have h:=tS (l:=gi (cv left (c6 w caps out)) caps out) (λi _=>(pQ c hS i).1)
 have:=Ez h i
 have:=Ih c hS
 exact⟨kK (PL h i),ω⟩
theorem Ii(N:Nat)(K:List Int→List Int→List Int→Int→Int→Option (List Int×Int×Int)){t left:Int}{w caps out:List Int}(c:U2 t w caps out left)(hS:0<(c6 w caps out).sum)(rd:Int): ∀(m n i:Nat),w.length-i≤m→m<n→i≤w.length→
  fu.WH N K n w caps (Dr out (gi (cv left (c6 w caps out)) caps out) i) (left-((gi (cv left (c6 w caps out)) caps out).take i).sum) rd (cv left (c6 w caps out)) (i:Int)=
  K w caps (yj out (gi (cv left (c6 w caps out)) caps out)) (left-(gi (cv left (c6 w caps out)) caps out).sum) (W .i64 (rd+1))
 |m,0,i,_,hn,_=>ω
 |m,n+1,i,hm,hn,hi=>by
  have n64:=c.n
  have e1:=c.l1
  have e2:=c.l2
  unfold fu.WH fu.SP
  by_cases h:i<w.length
  ·have hc:=c.pc i
   have ho:=c.po i
   have hle:=c.le i h
   have hg:=pQ c hS i
   have h6:(gi (cv left (c6 w caps out)) caps out).getD i 0=min ((cv left (c6 w caps out)).getD i 0) (caps.getD i 0-out.getD i 0):=il (by rw[c.l2];exact h)
   have ht:=WW c hS i
   have hl:=PS c
   have w8:=c.t1
   have hgl:(gi (cv left (c6 w caps out)) caps out).getD i 0≤left:=by
    have:=Ap (tS (l:=gi (cv left (c6 w caps out)) caps out) (λi _=>(pQ c hS i).1)) i
    have:=Ih c hS
    omega
   dsimp only
   rw[aQ ω,aj,aU ω (by rw[pv,jG];omega),aj,aU ω ω,aj,aU ω (by rw[Ce];omega),aj,aj,aG,alm ω,aw (x:=caps.getD i 0-out.getD i 0) ω ω,aln,←h6,
    aw (x:=(i:Int)+1) ω ω,aw (x:=out.getD i 0+_) ω ω,aw (x:=left-_-_) ω ω,adl ω]
   have:=Ii N K c hS rd (m-1) n (i+1) ω ω ω
   rw[mJ _ (by rw[yk];omega),←Int.sub_sub]at this
   exact this
  ·rw[aO ω,av,adk _ _ ω,iG (by rw[yk];omega)]
def PW(w caps out:List Int)(i:Nat):Prop:= ∃j,j<i∧0<w.getD j 0∧out.getD j 0<caps.getD j 0
theorem wu(N:Nat)(hN:5000000≤N)(K:List Int→List Int→List Int→Int→Int→Option (List Int×Int×Int)){t left:Int}{w caps out:List Int}(c:U2 t w caps out left)(rd:Int): ∀(m n i:Nat) (b:Bool),w.length-i≤m→m<n→i≤w.length→(b=true↔PW w caps out i)→
  fu.nJ N K n w caps out left rd (tT (c6 w caps out) i) b (i:Int)=
  if left=0∨(c6 w caps out).sum=0 then some (out,left,0)else K w caps (yj out (gi (cv left (c6 w caps out)) caps out)) (left-(gi (cv left (c6 w caps out)) caps out).sum) (W .i64 (rd+1))
 |m,0,i,b,_,hn,_,_=>ω
 |m,n+1,i,b,hm,hn,hi,hb=>by
  have n64:=c.n
  have e1:=c.l1
  have e2:=c.l2
  unfold fu.nJ fu.mN
  by_cases h:i<w.length
  ·have h1:(c6 w caps out).getD i 0=if out.getD i 0<caps.getD i 0 then w.getD i 0 else 0:=il h
   have hw:=iO c.pw i
   have tG: ¬(0<w.getD i 0∧out.getD i 0<caps.getD i 0)→(b=true↔PW w caps out (i+1)):=λqy=>hb.trans ⟨λ⟨j,hj,h2⟩=>⟨j,ω,h2⟩,λ⟨j,hj,h2⟩=>⟨j,by
    by_cases z8:j=i
    ·subst z8;exact absurd h2 qy
    ·omega,h2⟩⟩
   rw[aQ ω,aj,aU ω ω,aj,aG]
   by_cases h0:0<w.getD i 0
   ·rw[aQ h0,aj,aU ω ω,aj,aU ω ω,aj]
    by_cases h2:out.getD i 0<caps.getD i 0
    ·rw[ak h2]at h1
     rw[aQ h2,aj,aj,aU ω (by rw[qk,jG];omega),aj,aw ω ω,←h1,Z3 (by rw[jG];exact h)]
     exact wu N hN K c rd (m-1) n (i+1) true ω ω ω ⟨λ_=>⟨i,ω,h0,h2⟩,λ_=>rfl⟩
    ·rw[ag h2]at h1
     rw[aO ω,av,aw ω ω,K4 h1]
     exact wu N hN K c rd (m-1) n (i+1) b ω ω ω (tG (λh=>h2 h.2))
   ·have h3:(c6 w caps out).getD i 0=0:=by rw[h1];split<;>omega
    rw[aO ω,av,aw ω ω,K4 h3]
    exact wu N hN K c rd (m-1) n (i+1) b ω ω ω (tG (λh=>h0 h.1))
  ·have Sx:=PS c
   have w8:=c.t1
   have hl0:=c.l
   have oj:i=(c6 w caps out).length:=by rw[jG];omega
   have hp:=sK (caps:=caps) (out:=out) c.pw
   have hs:=PQ (caps:=caps) (out:=out) c.pw
   have hs0:=kK hp
   have hsw:=c.sw
   have hm:may (c6 w caps out)=true:=pP.2 ⟨by rw[jG];omega,hp⟩
   rw[aO ω,av]
   by_cases h4:left=0
   ·rw[eg h4,aj,ak (.inl h4)]
   rw[eH h4,av]
   by_cases h3:(c6 w caps out).sum=0
   ·have hbf:b=false:=by
     rw[xj];intro ht
     obtain⟨j,hj,h5⟩:=hb.1 ht
     exact K3 c.pw h3 j ω h5
    rw[ak (.inr h3),hbf];rfl
   ·have hbt:b=true:=hb.2 (by
     obtain⟨j,hj,h5⟩:=MK c.pw h3
     exact⟨j,ω,h5⟩)
    rw[hbt,bk,av,ag ω,oj,Z2,Dq N ω ω (Z0 c) (by rw[jG];omega),ar]
    unfold sI
    rw[ag (by rw[hm];simp;omega),ag ω,ag h3]
    have:=Ii N K c ω rd w.length N 0 ω ω ω
    rw[mid_zero,mA,jn,GC]at this
    exact this
theorem K5(N:Nat)(hN:5000000≤N){t:Int}{w caps:List Int}: ∀(f n:Nat) (out:List Int) (left:Int),U2 t w caps out left→f≤w.length+1→f<n→
  fu.l8 N n w caps out left ((w.length+1-f:Nat):Int)=some ((wq w caps f out left).1,(wq w caps f out left).2,0)
 |f,0,out,left,c,_,hn=>ω
 |0,n+1,out,left,c,h,hn=>by
  unfold fu.l8 fu.Ej
  rw[fM ω];rfl
 |f+1,n+1,out,left,c,h,hn=>by
  have n64:=c.n
  have hl:=c.l
  unfold fu.l8 fu.Ej
  rw[fR ω,aj,db ω ω ω,aj,aG]
  have:=wu N hN (fu.l8 N n) c ((w.length+1-(f+1):Nat):Int) w.length N 0 false ω ω ω ⟨(λh=>nomatch h),λ⟨j,hj,_⟩=>ω⟩
  rw[WV,jG]at this
  refine Eq.trans this ?_
  have hS:=kK (sK (caps:=caps) (out:=out) c.pw)
  unfold wq
  by_cases h1:left=0∨(c6 w caps out).sum=0
  ·rw[ak h1,ak h1]
  ·rw[ag h1,ag h1,aw ω ω,show(((w.length+1-(f+1):Nat):Int)+1)=((w.length+1-f:Nat):Int)by omega]
   exact K5 N hN f n _ _ (PU c ω) ω ω
def tU(t:Int)(w caps:List Int):List Int×Int×Int:=
 if t<0∨may w=false∨caps.length≠w.length∨may caps=false then([],0,1)else if 9223372036854775808≤w.sum then([],0,2)
 else((wq w caps (w.length+1) (List.replicate w.length 0) t).1,(wq w caps (w.length+1) (List.replicate w.length 0) t).2,0)
theorem rp(n i:Nat):(List.replicate n (0:Int)).getD i 0=0:=by
 rw[aW,Gi];split<;>rfl
theorem K6{t:Int}{w caps:List Int}(ht:0≤t)(w8:t<9223372036854775808)(hw:may w=true)(hc:may caps=true)(hl:caps.length=w.length)(hi:KV caps)(hs:w.sum<9223372036854775808):U2 t w caps (List.replicate w.length 0) t:=by
 obtain⟨h1,h2⟩:=pP.1 hw
 obtain⟨h3,h4⟩:=pP.1 hc
 refine⟨h1,hl,c9 ..,h2,hs,λi=>⟨iO h4 i,(uV hi i).2⟩,λi=>by rw[rp];omega,λi _=>by rw[rp];exact iO h4 i,λi _=>rp ..,ht,w8,?_⟩
 rw[yi (λi _=>rp ..)];omega
theorem Ij(hN:5000000≤N){t:Int}{w caps:List Int}(w8:t<9223372036854775808)(hw:KV w)(hc:KV caps)(hl:w.length≤1000000):fu N t w caps=some (tU t w caps):=by
 unfold fu fu.b tU
 rw[H6 N ω,ar]
 by_cases h1:t<0
 ·rw[aV h1,A5,aj,ak (.inl h1)]
 rw[bw h1,pX]
 cases h2:may w
 ·rw[dw,aj,ak (.inr (.inl rfl))]
 rw[bk,av]
 by_cases h3:caps.length=w.length
 case neg=>rw[eH ω,dw,aj,ak (.inr (.inr (.inl h3)))]
 rw[eg ω,bk,av,H6 N ω,ar]
 cases h4:may caps
 ·rw[ak (.inr (.inr (.inr rfl)))];rfl
 have hp:=kK (pP.1 h2).2
 rw[show(decide ((0:Int)<0)|| !true)=false from rfl,av,Ad N ω hw hl,ar,uk,ar,ag (by simp;omega)]
 by_cases h5:9223372036854775808≤w.sum
 ·rw[ak h5];unfold C0;rw[ag ω];rfl
 rw[ag h5,MI ω ω,bk,av,db ω ω ω,aj,aG]
 have kP:=(pP.1 h2).1
 have:=K5 N hN (w.length+1) N _ _ (K6 ω w8 h2 h4 h3 hc ω) ω ω
 rw[uH]at this
 exact this
theorem vd{a b:Int}: ∀{l:au},uq (l.map keyOf)→ix a b l=c3 a b l
 |[],_=>rfl
 |x::t,h=>by
  obtain⟨h1,h2⟩:=eX.1 h
  rw[jW,jU,←vd h2]
  by_cases e1:x.1=a
  ·by_cases e2:x.2.1=b
   ·have hz:c3 a b t=0:=ly λy hy e=>by
     have hk:=h1 (keyOf y) (fG hy)
     have he:keyOf y=keyOf x:=jq (e.1.trans e1.symm) (e.2.trans e2.symm)
     rw[he]at hk
     exact pN hk
    rw[ak e1,ak e2,ak ⟨e1,e2⟩,vd h2,hz,jo];rfl
   ·rw[ak e1,ag e2,ag (λh=>e2 h.2),xn]
  ·rw[ag e1,ag (λh=>e1 h.1),xn]
def J0(x q:Int):Prop:= ¬((x<0)↔(q<0))
instance(x q:Int):Decidable (J0 x q):=by unfold J0;infer_instance
def gD(a q:Int):au→au
 |[]=>[]
 |x::t=>if ¬dI x.1 0∧dI x.2.1 a∧J0 (dQ x) q then x::gD a q t else gD a q t
theorem sL(a q:Int)(x:dg)(t:au):gD a q (x::t)=if ¬dI x.1 0∧dI x.2.1 a∧J0 (dQ x) q then x::gD a q t else gD a q t:=rfl
def zK(l:au):List Int:=l.map λx=>x.1
def jX(l:au):List Int:=l.map λx=>((dQ x).natAbs:Int)
theorem ve{a q:Int}{x:dg}: ∀{l:au},x∈gD a q l→x∈l∧ ¬dI x.1 0∧dI x.2.1 a
 |[],h=>nomatch h
 |y::t,h=>by
  rw[sL]at h
  by_cases e: ¬dI y.1 0∧dI y.2.1 a∧J0 (dQ y) q
  ·rw[ak e]at h
   rcases bh.1 h with rfl|h
   ·exact⟨bu ..,e.1,e.2.1⟩
   ·have:=ve h;exact⟨ba _ this.1,this.2⟩
  ·rw[ag e]at h
   have:=ve h;exact⟨ba _ this.1,this.2⟩
theorem K7(a q:Int): ∀l:au,(gD a q l).length≤l.length
 |[]=>aH _
 |x::t=>by
  have:=K7 a q t
  rw[sL,aT]
  split
  ·rw[aT];omega
  ·omega
theorem PX{v q s h o:Int}{P Q R:Prop} [Decidable P] [Decidable Q] [Decidable R](hR:R↔ ¬((v<0)↔(q<0)))(hq:0<q)(hh:h-o≤s):
  (if P∧Q then v else 0)+h-((if ¬P∧Q∧R then(v.natAbs:Int)else 0)+o)≤(if Q then v else 0)+s:=by
 by_cases hQ:Q<;>by_cases hP:P<;>by_cases hR':R<;>simp only[hP,hQ,hR',and_self,eL,and_false,false_and,true_and,not_true,not_false_iff,ib,fI]<;>(rw[NO]at hR;first|omega|(have h2:=hR.1 hR';omega)|(have h2: ¬ ¬((v<0)↔(q<0)):=λe=>hR' (hR.2 e);omega))
theorem EC{a q:Int}(hq:0<q): ∀l:au,c3 0 a l-(jX (gD a q l)).sum≤(dp a l).sum
 |[]=>fY _
 |x::t=>by
  have ih:=EC (a:=a) hq t
  have e1:c3 0 a (x::t)=(if dI x.1 0∧dI x.2.1 a then dQ x else 0)+c3 0 a t:=jU 0 a x t
  have e2:(jX (gD a q (x::t))).sum=(if ¬dI x.1 0∧dI x.2.1 a∧J0 (dQ x) q then((dQ x).natAbs:Int)else 0)+(jX (gD a q t)).sum:=by
   rw[sL]
   split
   ·show(((dQ x).natAbs:Int)::jX (gD a q t)).sum=_
    rw[cN]
   ·omega
  have e3:(dp a (x::t)).sum=(if dI x.2.1 a then dQ x else 0)+(dp a t).sum:=by
   rw[dB]
   by_cases h:x.2.1=a
   ·rw[ak h,ak (show dI x.2.1 a from h),cN]
   ·rw[ag h,ag (show ¬dI x.2.1 a from h)];omega
  rw[e1,e2,e3]
  exact PX Iff.rfl hq ih
theorem PY{v q s h o:Int}{P Q R:Prop} [Decidable P] [Decidable Q] [Decidable R](hR:R↔ ¬((v<0)↔(q<0)))(hq:q<0)(hh:s≤h+o):
  (if Q then v else 0)+s≤(if P∧Q then v else 0)+h+((if ¬P∧Q∧R then(v.natAbs:Int)else 0)+o):=by
 by_cases hQ:Q<;>by_cases hP:P<;>by_cases hR':R<;>simp only[hP,hQ,hR',and_self,eL,and_false,false_and,true_and,not_true,not_false_iff,ib,fI]<;>(rw[NO]at hR;first|omega|(have h2:=hR.1 hR';omega)|(have h2: ¬ ¬((v<0)↔(q<0)):=λe=>hR' (hR.2 e);omega))
theorem ED{a q:Int}(hq:q<0): ∀l:au,(dp a l).sum≤c3 0 a l+(jX (gD a q l)).sum
 |[]=>fY _
 |x::t=>by
  have ih:=ED (a:=a) hq t
  have e1:c3 0 a (x::t)=(if dI x.1 0∧dI x.2.1 a then dQ x else 0)+c3 0 a t:=jU 0 a x t
  have e2:(jX (gD a q (x::t))).sum=(if ¬dI x.1 0∧dI x.2.1 a∧J0 (dQ x) q then((dQ x).natAbs:Int)else 0)+(jX (gD a q t)).sum:=by
   rw[sL]
   split
   ·show(((dQ x).natAbs:Int)::jX (gD a q t)).sum=_
    rw[cN]
   ·omega
  have e3:(dp a (x::t)).sum=(if dI x.2.1 a then dQ x else 0)+(dp a t).sum:=by
   rw[dB]
   by_cases h:x.2.1=a
   ·rw[ak h,ak (show dI x.2.1 a from h),cN]
   ·rw[ag h,ag (show ¬dI x.2.1 a from h)];omega
  rw[e1,e2,e3]
  exact PY Iff.rfl hq ih
theorem S9{a q:Int}{l:au}(hs:uq (l.map keyOf))(hf:(dp a l).sum=0)(hq:ix 0 a l=q)(h0:q≠0):(q.natAbs:Int)≤(jX (gD a q l)).sum:=by
 rw[vd hs]at hq
 by_cases h:0<q
 ·have:=EC (a:=a) h l
  rw[hf,hq]at this;omega
 ·have:=ED (a:=a) (q:=q) ω l
  rw[hf,hq]at this;omega
theorem Z4{t left:Int}{w out:List Int}(f:Full t w w out left)(h:t≤w.sum):left=0:=by
 have c:=f.c
 rcases f.f with e|e
 ·exact e
 ·have L1:w.sum≤out.sum:=y8 (by rw[c.l2]) λi hi=>by
   have h1:=e i hi
   have h2:=iO c.pw i
   have h3:=c.po i
   by_cases h4:0<w.getD i 0
   ·have: ¬out.getD i 0<w.getD i 0:=λh5=>h1 ⟨h4,h5⟩
    omega
   ·omega
  have:=c.s
  have:=c.l
  omega
def sg(q x:Int):Int:=if q<0 then 0-x else x
def zc(a q:Int):List (Int×Int)→au
 |[]=>[]
 |p::t=>if sg q p.1=0 then zc a q t else(p.2,(a,(sg q p.1,())))::zc a q t
theorem FZ(a q:Int)(p:Int×Int)(t:List (Int×Int)):zc a q (p::t)=if sg q p.1=0 then zc a q t else(p.2,(a,(sg q p.1,())))::zc a q t:=rfl
def kL(l:au)(a q:Int):List Int×Int×Int:=tU (q.natAbs:Int) (jX (gD a q l)) (jX (gD a q l))
def adm(l:au)(a q:Int):au:=((0:Int),(a,((0-q:Int),())))::zc a q ((kL l a q).1.zip (zK (gD a q l)))
def wv(c:ae)(b:an)(a:Int):au×Int:=
 if dh c b then(if a<0 then([],3)else if(c.1.length:Int)≤a then([],3)else if gm b.2.2.2.1 0 a=0 then([],0)else
  if(kL b.2.2.2.1 a (gm b.2.2.2.1 0 a)).2.2=0 then(adm b.2.2.2.1 a (gm b.2.2.2.1 0 a),0)else([],(kL b.2.2.2.1 a (gm b.2.2.2.1 0 a)).2.2))else([],1)
theorem Ik{t:Int}{w caps:List Int}(w8:t<9223372036854775808)(hc:KV caps)(hx:(tU t w caps).2.2=0):Full t w caps (tU t w caps).1 (tU t w caps).2.1:=by
 unfold tU at*
 by_cases h1:t<0∨may w=false∨caps.length≠w.length∨may caps=false
 ·rw[ak h1]at hx;exact absurd hx δ
 ·rw[ag h1]at hx ⊢
  by_cases h2:9223372036854775808≤w.sum
  ·rw[ak h2]at hx;exact absurd hx δ
  ·rw[ag h2]
   have h3:may w=true:=by cases h:may w<;>simp_all
   have h4:may caps=true:=by cases h:may caps<;>simp_all
   have h5:caps.length=w.length:=NU λh=>h1 (Or.inr (Or.inr (Or.inl h)))
   exact PV _ _ _ (K6 ω w8 h3 h4 h5 hc ω) (Or.inl (by have:=Z1 w caps (List.replicate w.length 0);omega))
theorem Ds{l:au}(h: ∀x∈l,aF (dQ x)∧ri (dQ x))(a q:Int):KV (jX (gD a q l)):=λz hz=>by
 obtain⟨x,hx,rfl⟩:=cY.1 hz
 have:=h x (ve hx).1
 have g: ∀v:Int,aF v∧ri v→ -9223372036854775808≤(v.natAbs:Int)∧(v.natAbs:Int)<9223372036854775808:=λv hv=>by unfold aF ri at hv;omega
 exact g _ this
theorem Z5{out accs:List Int}{i:Nat}(h1:i<out.length)(h2:i<accs.length):(out.zip accs).getD i (0,0)=(out.getD i 0,accs.getD i 0):=by
 rw[aW,bm (by rw[xl];omega),List.getElem_zip,aW,bm h1,aW,bm h2];rfl
end VM
end
section
namespace VM
open Go VM.F
variable(N:Nat)
theorem ML{c:ae}{b:an}(h:dh c b=true): ∀x∈b.2.2.2.1,MC x.2.1 c.1.length:=λx hx=>by
 have hk:=(ej h).2
 have h0:=(eZ hk).2 x hx
 unfold dh at h
 simp only[bQ]at h
 have h1:=bD h.2.2.2.2.2.2.2.2.1
 obtain⟨i,hi,e⟩:=gL hx
 have h2:=h1 i hi
 unfold jS at h2
 rw[aW,bm hi]at h2
 simp only[n7,e]at h2
 have g: ∀u v:Int,cg u v→lG v c.1.length→MC v c.1.length:=λu v h1 h2=>by unfold cg at h1;unfold lG at h2;unfold MC;omega
 exact g _ _ h0.1 h2.2
end VM
end
section
namespace VM
open Go VM.F
variable(N:Nat)
theorem adn{x:Int}(h:cH x)(hx:x≠ -170141183460469231731687303715884105728):ado N (cK x)=some (cK (-x),true):=by
 unfold ado Ta cK
 unfold cH at h
 dsimp only
 have hp:0≤x%18446744073709551616∧x%18446744073709551616<18446744073709551616:=ω
 have hh: -9223372036854775808≤x/18446744073709551616∧x/18446744073709551616<9223372036854775808:=ω
 rw[p8,p8,mH N ω ω ω ω ω ω,ar]
 dsimp only
 have hb:(0:Int)≤(if(0:Int)<x%18446744073709551616+0 then 1 else 0)∧(if(0:Int)<x%18446744073709551616+0 then(1:Int)else 0)≤1:=by split<;>omega
 rw[mH N ω ω ω ω hb.1 hb.2,ar]
 dsimp only
 have key: ∀{z:bY},z=cK (-x)→((some (z,true):Option (bY×Bool)).bind λr1=>some (r1.1,r1.2))=some (cK (-x),true):=λe=>by rw[e];rfl
 have e3:W .i64 ((0%18446744073709551616-x/18446744073709551616%18446744073709551616-(if(0:Int)<x%18446744073709551616+0 then 1 else 0))%18446744073709551616)=(-x)/18446744073709551616:=by
  by_cases h0:x%18446744073709551616=0
  ·rw[ag (show ¬(0:Int)<x%18446744073709551616+0 by omega),gN];split<;>omega
  ·rw[ak (show(0:Int)<x%18446744073709551616+0 by omega),gN];split<;>omega
 have e1:(0-x%18446744073709551616-0)%18446744073709551616=(-x)%18446744073709551616:=ω
 rw[e3,e1]
 simp only[mI,qv]
 by_cases a:x/18446744073709551616<0
 ·have c: ¬(-x)/18446744073709551616<0:=ω
  rw[bw (show ¬(0:Int)<0 by omega),aV a,bw c]
  exact key rfl
 ·rw[bw (show ¬(0:Int)<0 by omega),bw a]
  exact key rfl
theorem U3{x:Int}(h:cH x)(hx:x≠ -170141183460469231731687303715884105728):Tb N (cK x)=some (cK (x.natAbs:Int),true):=by
 unfold Tb
 have e:(cK x).1=x/18446744073709551616:=rfl
 rw[e]
 by_cases h0:x<0
 ·rw[aQ (show x/18446744073709551616<0 by omega),aj,adn N h hx,ar,show(x.natAbs:Int)= -x by omega]
 ·rw[aO (show 0≤x/18446744073709551616 by omega),av,show(x.natAbs:Int)=x by omega]
theorem EE{k:Int}: ∀{i:Nat} {l:aN},oF k i l≠[]→(i:Int)≤(oF k i l).getD 0 0∧(oF k i l).getD 0 0<((i+l.length:Nat):Int)
 |i,[],h=>absurd rfl h
 |i,y::t,h=>by
  rw[Ca]at h ⊢
  by_cases e:y.1=k
  ·rw[ak e,aT]
   show(i:Int)≤(i:Int)∧(i:Int)<_
   omega
  ·rw[ag e]at h ⊢
   have:=EE h
   rw[aT];omega
def aqo(c:ae):Int:=c.2.2.2.2.2.2.1
end VM
end
section
namespace VM
open Go VM.F
variable(N:Nat)
end VM
end
section
namespace VM
open Go VM.F
variable(N:Nat)
def PZ(x:gb)(z:Int×Int):Int×Int:=if x.2.2.2.1=1 then(z.1+x.2.2.2.2.1,z.2)else(z.1,z.2+x.2.2.2.2.1)
def bsL(a k:Int):aY→Int×Int→Int×Int
 |[],z=>z
 |x::t,z=>bsL a k t (if x.2.1=a∧x.2.2.1=k then PZ x z else z)
theorem Il(a k:Int)(x:gb)(t:aY)(z:Int×Int):bsL a k (x::t) z=bsL a k t (if x.2.1=a∧x.2.2.1=k then PZ x z else z):=rfl
def nz(i:Int)(z:Int×Int):dg:=(i,(z.1,(z.2,())))
def U4(f:Int→Int×Int):Nat→Nat→au
 |0,_=>[]
 |m+1,k=>if 0<(f (k:Int)).1+(f (k:Int)).2 then nz (k:Int) (f (k:Int))::U4 f m (k+1)else U4 f m (k+1)
theorem yl(f:Int→Int×Int)(m k:Nat):U4 f (m+1) k=if 0<(f (k:Int)).1+(f (k:Int)).2 then nz (k:Int) (f (k:Int))::U4 f m (k+1)else U4 f m (k+1):=rfl
def NF(l:aY)(a k:Int):Int×Int:=bsL a k l (0,0)
def m7(l:aY)(a:Int):au:=U4 (NF l a) 6 0
theorem U5(f:Int→Int×Int): ∀m k,(U4 f m k).length≤m
 |0,_=>aH _
 |m+1,k=>by
  rw[yl]
  have:=U5 f m (k+1)
  split
  ·rw[aT];omega
  ·omega
theorem Z6(f:Int→Int×Int): ∀m k,∀x∈U4 f m k,(k:Int)≤x.1
 |0,_,x,hx=>nomatch hx
 |m+1,k,x,hx=>by
  rw[yl]at hx
  have ih:=Z6 f m (k+1) x
  split at hx
  ·rcases bh.1 hx with rfl|hx
   ·exact fY _
   ·have:=ih hx;omega
  ·have:=ih hx;omega
def WX(l:aY):Prop:= ∀x∈l,1≤x.2.2.2.2.1∧x.2.2.2.2.1≤1000000000
theorem MM{l:aY}(h:WX l){i:Nat}(hi:i<l.length):1≤(l.getD i dT).2.2.2.2.1∧(l.getD i dT).2.2.2.2.1≤1000000000:=h _ (by
 rw[aW,bm hi];exact dG hi)
def F0(z:Int×Int)(n:Nat):Prop:=0≤z.1∧z.1≤1000000000*(n:Int)∧0≤z.2∧z.2≤1000000000*(n:Int)
theorem U6{x:gb}{z:Int×Int}{n:Nat}(hq:1≤x.2.2.2.2.1∧x.2.2.2.2.1≤1000000000)(h:F0 z n):F0 (PZ x z) (n+1):=by
 have g: ∀q:Int,1≤q∧q≤1000000000→F0 (z.1+q,z.2) (n+1)∧F0 (z.1,z.2+q) (n+1):=λq hq=>by unfold F0 at*;dsimp only;omega
 have gx:=g _ hq
 unfold PZ
 split
 ·exact gx.1
 ·exact gx.2
theorem F0.mono{z:Int×Int}{n m:Nat}(h:F0 z n)(hm:n≤m):F0 z m:=by unfold F0 at*;omega
theorem Z7{a k:Int}: ∀{l:aY} {z:Int×Int} {n:Nat},WX l→F0 z n→F0 (bsL a k l z) (n+l.length)
 |[],z,n,_,h=>h
 |x::t,z,n,hq,h=>by
  have hx:=hq x (bu ..)
  rw[Il,aT,show n+(t.length+1)=n+1+t.length by omega]
  refine Z7 (λy hy=>hq y (ba _ hy)) ?_
  split
  ·exact U6 hx h
  ·exact F0.mono h ω
theorem MN{l:aY}(h:WX l)(a k:Int):F0 (NF l a k) l.length:=by
 have:=Z7 (a:=a) (k:=k) (z:=(0,0)) (n:=0) h (by unfold F0;dsimp only;omega)
 rw[fX]at this;exact this
theorem Im{l:aY}(h:dn l=true):WX l∧l.length≤32:=by
 unfold dn at h
 rw[bQ]at h
 refine⟨λx hx=> ?_,bD h.2⟩
 obtain⟨i,hi,e⟩:=gL hx
 have:=bD h.1 i hi
 unfold tJ at this
 have h1:=this.1
 rw[aW,bm hi,n7,e]at h1
 unfold qU at h1
 exact h1.2.2.2.2.1
theorem Z8{x:gb}{z:Int×Int}{n:Nat}(hn:n≤1000)(hq:1≤x.2.2.2.2.1∧x.2.2.2.2.1≤1000000000)(hz:F0 z n)(k:Int):
  (x.2.2.2.1=1→((k,(W .i64 (z.1+x.2.2.2.2.1),(z.2,()))):dg)=nz k (PZ x z))∧(¬x.2.2.2.1=1→((k,(z.1,(W .i64 (z.2+x.2.2.2.2.1),()))):dg)=nz k (PZ x z)):=by
 have g: ∀q:Int,1≤q∧q≤1000000000→W .i64 (z.1+q)=z.1+q∧W .i64 (z.2+q)=z.2+q:=λq hq=>by
  unfold F0 at hz
  exact⟨aw ω ω,aw ω ω⟩
 have gx:=g _ hq
 unfold PZ nz
 exact⟨λh=>by rw[gx.1,ak h],λh=>by rw[gx.2,ag h]⟩
theorem EF{F:dg→Option au}{G:Nat→dg→Int→Option au}(l:aY)(a k:Int)(hq:WX l)(hl:l.length≤1000)(hN:l.length<N)
  (hs: ∀n i z r,i<l.length→F0 z i→G n (nz k (if(l.getD i dT).2.1=a∧(l.getD i dT).2.2.1=k then PZ (l.getD i dT) z else z)) ((i+1:Nat):Int)=r→G (n+1) (nz k z) (i:Int)=r)
  (he: ∀n z,F0 z l.length→G (n+1) (nz k z) (l.length:Int)=F (nz k z)):G N (nz k (0,0)) 0=F (nz k (NF l a k)):=by
 have:=ll l dT (λn i (z:Int×Int)=>G n (nz k z) i) (λt z=>F (nz k (bsL a k t z))) (λi z=>F0 z i) (λn i z hi hz hr=> ?_) (λn z hz=>he n z hz) l.length N 0 (0,0) ω hN ω (by unfold F0;decide)
 ·exact this
 ·rw[Il]
  refine hs n i z _ hi hz (hr _ ?_)
  split
  ·exact U6 (MM hq hi) hz
  ·exact F0.mono hz ω
theorem ym{F:Nat→au→Int→Option au}(f:Int→Int×Int)
  (hs: ∀(n k:Nat) (out:au) (r:Option au),k<6→out.length≤k→F n (if 0<(f (k:Int)).1+(f (k:Int)).2 then out++[nz (k:Int) (f (k:Int))]else out) ((k+1:Nat):Int)=r→F (n+1) out (k:Int)=r)
  (he: ∀n out,F (n+1) out 6=some out): ∀(m n k:Nat) (out:au),k+m=6→m<n→out.length≤k→F n out (k:Int)=some (out++U4 f m k)
 |_,0,_,_,_,hn,_=>ω
 |0,n+1,k,out,hk,_,_=>by
  have:k=6:=ω
  subst this
  rw[show U4 f 0 6=[]from rfl,cA]
  exact he n out
 |m+1,n+1,k,out,hk,hn,ho=>by
  refine hs n k out _ ω ho ?_
  rw[ym f hs he m n (k+1) _ ω ω (by
   split
   ·rw[aS,aJ];omega
   ·omega),yl]
  split
  ·rw[bF];rfl
  ·rfl
theorem Z9(hN:200000≤N){l:aY}(hl:l.length≤100000)(a:Int):rK N l a=some (if dn l then m7 l a else []):=by
 unfold rK rK.b
 rw[C8 N hl hN,ar]
 by_cases h:dn l=false
 ·rw[h];rfl
 rw[rR]at h
 rw[h,bk,av,ak rfl]
 obtain⟨hq,h32⟩:=Im h
 refine ym (F:=λn out k=>rK.l5 N n l a out k) (NF l a) (λn k out r hk ho hr=> ?_) (λn out=> ?_) 6 N 0 [] ω ω (aH _)
 ·unfold rK.l5 rK.dV
  rw[aQ ω,aj]
  refine(EF N (G:=λn' x i=>rK.l9 N (rK.l5 N n) n' l a out (k:Int) x (k:Int) l (l.length:Int) i) (F:=λx=>cond (aX 0 (W .i64 (x.2.1+x.2.2.1))) (cond (small (out.length+[x].length)) (rK.l5 N n l a (out++[x]) (W .i64 ((k:Int)+1))) none) (rK.l5 N n l a out (W .i64 ((k:Int)+1)))) l a (k:Int) hq ω ω (λn' i z r' hi hz ed=> ?_) (λn' z hz=> ?_)).trans ?_
  ·unfold rK.l9 rK.uX
   rw[aQ ω,aj,aU ω ω,aj,aG,cond_not,aI,cond_not,aI,aI,aw (x:=(i:Int)+1) ω ω,af i]
   have hw:=Z8 (n:=i) ω (MM hq hi) hz (k:Int)
   by_cases h1:(l.getD i dT).2.1=a
   ·rw[ak h1]
    by_cases h2:(l.getD i dT).2.2.1=(k:Int)
    ·rw[ak ⟨h1,h2⟩]at ed
     rw[ak h2]
     by_cases h3:(l.getD i dT).2.2.2.1=1
     ·rw[ak h3,←ed,←hw.1 h3];rfl
     ·rw[ag h3,←ed,←hw.2 h3];rfl
    ·rw[ag (λh=>h2 h.2)]at ed
     rw[ag h2];exact ed
   ·rw[ag (λh=>h1 h.1)]at ed
    rw[ag h1];exact ed
  ·unfold rK.l9 rK.uX
   rw[aO ω,av]
  ·have hz:=MN hq a (k:Int)
   unfold F0 at hz
   show cond (aX 0 (W .i64 ((NF l a (k:Int)).1+(NF l a (k:Int)).2))) _ _=r
   rw[aw (x:=(NF l a (k:Int)).1+(NF l a (k:Int)).2) ω ω,cf,bJ (by rw[aJ];omega),aj,aw (x:=(k:Int)+1) ω ω,af k,←hr]
   split<;>rfl
 ·unfold rK.l5 rK.dV
  rw[aO ω,av]
theorem WY(hN:200000≤N){l:aY}(hq:WX l)(hl:l.length≤1000)(a:Int):fx N l a=some (m7 l a):=by
 unfold fx fx.b
 refine ym (F:=λn out k=>fx.l3 N n l a out k) (NF l a) (λn k out r hk ho hr=> ?_) (λn out=> ?_) 6 N 0 [] ω ω (aH _)
 ·unfold fx.l3 fx.nY
  rw[aQ ω,aj]
  refine(EF N (G:=λn' x i=>fx.l7 N (fx.l3 N n) n' l a out (k:Int) x i) (F:=λx=>cond (aX 0 x.2.1) (cond (small (out.length+[x].length)) (fx.l3 N n l a (out++[x]) (W .i64 ((k:Int)+1))) none) (cond (aX 0 x.2.2.1) (cond (small (out.length+[x].length)) (fx.l3 N n l a (out++[x]) (W .i64 ((k:Int)+1))) none) (fx.l3 N n l a out (W .i64 ((k:Int)+1))))) l a (k:Int) hq ω ω (λn' i z r' hi hz ed=> ?_) (λn' z hz=> ?_)).trans ?_
  ·unfold fx.l7 fx.nR
   rw[aQ ω,aj,aU ω ω,aj,aj,aj,aj,aj,aG,cond_not,aI,cond_not,aI,aI,aw (x:=(i:Int)+1) ω ω,af i]
   have hw:=Z8 (n:=i) ω (MM hq hi) hz (k:Int)
   by_cases h1:(l.getD i dT).2.1=a
   ·rw[ak h1]
    by_cases h2:(l.getD i dT).2.2.1=(k:Int)
    ·rw[ak ⟨h1,h2⟩]at ed
     rw[ak h2]
     by_cases h3:(l.getD i dT).2.2.2.1=1
     ·rw[ak h3,←ed,←hw.1 h3];rfl
     ·rw[ag h3,←ed,←hw.2 h3];rfl
    ·rw[ag (λh=>h2 h.2)]at ed
     rw[ag h2];exact ed
   ·rw[ag (λh=>h1 h.1)]at ed
    rw[ag h1];exact ed
  ·unfold fx.l7 fx.nR
   rw[aO ω,av]
  ·have hz:=MN hq a (k:Int)
   unfold F0 at hz
   show cond (aX 0 (NF l a (k:Int)).1) _ (cond (aX 0 (NF l a (k:Int)).2) _ _)=r
   rw[cf,cf,bJ (by rw[aJ];omega),aj,aw (x:=(k:Int)+1) ω ω,af k,←hr]
   by_cases h0:0<(NF l a (k:Int)).1+(NF l a (k:Int)).2
   ·rw[ak h0]
    by_cases h1:0<(NF l a (k:Int)).1
    ·rw[ak h1]
    ·rw[ag h1,ak ω]
   ·rw[ag h0,ag ω,ag ω]
 ·unfold fx.l3 fx.nY
  rw[aO ω,av]
def NG(z:Int×Int):Prop:=0≤z.1∧z.1≤33000000000∧0≤z.2∧z.2≤33000000000
def F1(a b s n:Int)(i:Nat)(p:Int):Prop:=0≤a∧a<n∧0≤b∧b≤33000000000∧0≤s∧s≤33000000000∧(b=0→s≠0)∧(0<i→p<a)
instance(a b s n:Int)(i:Nat)(p:Int):Decidable (F1 a b s n i p):=by unfold F1;infer_instance
def wx(c:ae)(l:au)(i:Nat):Prop:=F1 (l.getD i aZ).1 (l.getD i aZ).2.1 (l.getD i aZ).2.2.1 c.1.length i (l.getD (i-1) aZ).1
instance(c:ae)(l:au):DecidablePred (wx c l):=λi=>by unfold wx;infer_instance
def gW(c:ae)(l:au):Bool:=decide (∀j,j<l.length→wx c l j)&&eS c
def Io(k:Int):aE→Int→Int
 |[],z=>z
 |x::t,z=>Io k t (if x.1=k then x.2.1 else z)
theorem Ar(k:Int)(x:BT)(t:aE)(z:Int):Io k (x::t) z=Io k t (if x.1=k then x.2.1 else z):=rfl
def yp(k:Int):au→Int×Int→Int×Int
 |[],z=>z
 |x::t,z=>yp k t (if x.1=k then(x.2.1,x.2.2.1)else z)
theorem As(k:Int)(x:dg)(t:au)(z:Int×Int):yp k (x::t) z=yp k t (if x.1=k then(x.2.1,x.2.2.1)else z):=rfl
theorem P0(k:Int): ∀{l:aE} {z:Int},(∀y∈l,aF y.2.1)→aF z→aF (Io k l z)
 |[],z,_,h=>h
 |x::t,z,hl,h=>by
  rw[Ar]
  refine P0 k (λy hy=>hl y (ba _ hy)) ?_
  split
  ·exact hl x (bu ..)
  ·exact h
theorem P1(k:Int): ∀{l:au} {z:Int×Int},(∀x∈l,NG (x.2.1,x.2.2.1))→NG z→NG (yp k l z)
 |[],z,_,h=>h
 |x::t,z,hl,h=>by
  rw[As]
  refine P1 k (λy hy=>hl y (ba _ hy)) ?_
  split
  ·exact hl x (bu ..)
  ·exact h
theorem MO{c:ae}{l:au}(h:gW c l=true): ∀x∈l,NG (x.2.1,x.2.2.1):=λx hx=>by
 unfold gW at h
 rw[bQ]at h
 obtain⟨i,hi,e⟩:=gL hx
 have h1:=bD h.1 i hi
 unfold wx at h1
 rw[aW,bm hi,n7,e]at h1
 unfold F1 at h1
 exact⟨h1.2.2.1,h1.2.2.2.1,h1.2.2.2.2.1,h1.2.2.2.2.2.1⟩
def Cg(q:Int)(z:Int×Int):Int:=if((q+z.1).natAbs:Int)<((q-z.2).natAbs:Int)then((q-z.2).natAbs:Int)else((q+z.1).natAbs:Int)
theorem aaa{q:Int}{z:Int×Int}(hq:aF q)(hz:NG z):0≤Cg q z∧Cg q z≤9223372069854775808:=by
 unfold Cg NG aF at*
 split<;>omega
def Ch(l:aE)(o:au)(k:Int):Int:=Cg (Io k l 0) (yp k o (0,0))
def EG(c:ae)(l:aE)(o:au)(k:Int):Int×Int:=
 if mi c l&&gW c o then(if 0≤k∧k<(c.1.length:Int)then(Ch l o k,0)else(0,3))else(0,1)
theorem Ci{c:ae}{l:aE}{o:au}(ho:gW c o=true)(kP: ∀y∈l,aF y.2.1)(k:Int):0≤Ch l o k∧Ch l o k≤9223372069854775808:=
 aaa (P0 k kP (show aF 0 by unfold aF;omega)) (P1 k (MO ho) (by unfold NG;decide))
def oG(c:ae)(i:Nat):Int:=(c.1.getD i bb).2.2.1
theorem F2{c:ae}(h:eS c=true){i:Nat}(hi:i<c.1.length):0≤oG c i∧oG c i≤1000000000:=by
 unfold eS at h
 simp only[bQ]at h
 have:=bD h.2.1 i hi
 unfold qD ou at this
 exact this.2.2.1
def oH(c:ae)(l:aE)(o:au):Nat→Int
 |0=>0
 |n+1=>oH c l o n+Ch l o (n:Int)*oG c n
def wy(c:ae)(l:aE)(o:au):Nat→List Int
 |0=>[]
 |n+1=>wy c l o n++[Ch l o (n:Int)*oG c n]
theorem Ip(c:ae)(l:aE)(o:au): ∀n,(wy c l o n).sum=oH c l o n
 |0=>rfl
 |n+1=>by
  show(wy c l o n++[Ch l o (n:Int)*oG c n]).sum=oH c l o n+Ch l o (n:Int)*oG c n
  rw[oa,Ip c l o n,cN,jn,jo]
theorem Au(c:ae)(l:aE)(o:au): ∀n,(wy c l o n).length=n
 |0=>rfl
 |n+1=>by
  show(wy c l o n++[Ch l o (n:Int)*oG c n]).length=n+1
  rw[aS,Au c l o n];rfl
def lV(c:ae)(l:aE)(o:au):Int×Int:=
 if mi c l&&gW c o then(oH c l o c.1.length,0)else(0,1)
theorem F4{a b:Int}(ha:0≤a∧a≤9223372069854775808)(hb:0≤b∧b≤1000000000):0≤a*b∧a*b≤9223372069854775808000000000:=
 ⟨uF ha.1 hb.1,fH (Int.mul_le_mul ha.2 hb.2 hb.1 δ) δ⟩
theorem y9{c:ae}{l:aE}{o:au}(hp:eS c=true)(ho:gW c o=true)(kP: ∀y∈l,aF y.2.1): ∀n,n≤c.1.length→0≤oH c l o n∧oH c l o n≤9223372069854775808000000000*(n:Int)
 |0,_=>⟨fY _,fY _⟩
 |n+1,hn=>by
  have ih:=y9 hp ho kP n ω
  have h1:=F4 (Ci ho kP (n:Int)) (F2 hp (i:=n) ω)
  show 0≤oH c l o n+Ch l o (n:Int)*oG c n∧oH c l o n+Ch l o (n:Int)*oG c n≤_
  omega
theorem jY{c:ae}{l:au}(h:gW c l=true):eS c=true:=by
 unfold gW at h
 rw[bQ]at h;exact h.2
theorem Iq{c:ae}(h:eS c=true):c.1.length≤6:=by
 unfold eS at h
 simp only[bQ]at h
 exact(bD h.1).2
theorem P2(c:ae){l:aE}(o:au)(kP: ∀y∈l,aF y.2.1):0≤(lV c l o).1∧(lV c l o).1≤60000000000000000000000000000:=by
 unfold lV
 by_cases h:(mi c l&&gW c o)=true
 ·rw[ak h]
  rw[bQ]at h
  have:=y9 (jY h.2) h.2 kP c.1.length (aH _)
  have h6:=Iq (jY h.2)
  dsimp only
  omega
 ·rw[ag h];decide
theorem ai4{P:Prop} [Decidable P]{a b s n p:Int}{r:Option Bool}(h:P↔0≤a∧a<n∧0≤b∧b≤33000000000∧0≤s∧s≤33000000000∧(b=0→s≠0)∧p<a):
  (if a<0 then some false else if n≤a then some false else if b<0 then some false else if 33000000000<b then some false else if s<0 then some false else if 33000000000<s then some false else
   if b=0 then(if s=0 then some false else if a≤p then some false else r)else if a≤p then some false else r)=if P then r else some false:=by
 by_cases hP:P
 ·have:=h.1 hP
  rw[ak hP,ag ω,ag ω,ag ω,ag ω,ag ω,ag ω]
  split
  ·rw[ag ω,ag ω]
  ·rw[ag ω]
 ·rw[ag hP]
  have h2:=λh1 h2 h3 h4 h5 h6 h7 h8=>hP (h.2 ⟨h1,h2,h3,h4,h5,h6,h7,h8⟩)
  repeat' split
  all_goals first|rfl|(exfalso;exact h2 ω ω ω ω ω ω ω ω)
theorem ai5{P:Prop} [Decidable P]{a b s n:Int}{r:Option Bool}(h:P↔0≤a∧a<n∧0≤b∧b≤33000000000∧0≤s∧s≤33000000000∧(b=0→s≠0)):
  (if a<0 then some false else if n≤a then some false else if b<0 then some false else if 33000000000<b then some false else if s<0 then some false else if 33000000000<s then some false else
   if b=0 then(if s=0 then some false else r)else r)=if P then r else some false:=by
 by_cases hP:P
 ·have:=h.1 hP
  rw[ak hP,ag ω,ag ω,ag ω,ag ω,ag ω,ag ω]
  split
  ·rw[ag ω]
  ·rfl
 ·rw[ag hP]
  have h2:=λh1 h2 h3 h4 h5 h6 h7=>hP (h.2 ⟨h1,h2,h3,h4,h5,h6,h7⟩)
  repeat' split
  all_goals first|rfl|(exfalso;exact h2 ω ω ω ω ω ω ω)
theorem Ir{c:ae}{l:au}{i:Nat}(h:0<i):wx c l i↔0≤(l.getD i aZ).1∧(l.getD i aZ).1<(c.1.length:Int)∧0≤(l.getD i aZ).2.1∧(l.getD i aZ).2.1≤33000000000∧0≤(l.getD i aZ).2.2.1∧(l.getD i aZ).2.2.1≤33000000000∧((l.getD i aZ).2.1=0→(l.getD i aZ).2.2.1≠0)∧(l.getD (i-1) aZ).1<(l.getD i aZ).1:=
 ⟨λ⟨a,b,c,d,e,f,g,k⟩=>⟨a,b,c,d,e,f,g,k h⟩,λ⟨a,b,c,d,e,f,g,k⟩=>⟨a,b,c,d,e,f,g,λ_=>k⟩⟩
theorem EH{c:ae}{l:au}{i:Nat}(h: ¬0<i):wx c l i↔0≤(l.getD i aZ).1∧(l.getD i aZ).1<(c.1.length:Int)∧0≤(l.getD i aZ).2.1∧(l.getD i aZ).2.1≤33000000000∧0≤(l.getD i aZ).2.2.1∧(l.getD i aZ).2.2.1≤33000000000∧((l.getD i aZ).2.1=0→(l.getD i aZ).2.2.1≠0):=
 ⟨λ⟨a,b,c,d,e,f,g,_⟩=>⟨a,b,c,d,e,f,g⟩,λ⟨a,b,c,d,e,f,g⟩=>⟨a,b,c,d,e,f,g,λk=>absurd k h⟩⟩
theorem K8(hN:200000≤N)(c:ae){l:au}(hl:l.length≤100000):ql N c l=some (gW c l):=by
 unfold ql ql.b
 refine iC (F:=λn i=>ql.l2 N n l c l (l.length:Int) i) (wx c l) (λn i r hi hp hr=> ?_) (λn=> ?_) N ω
 ·unfold ql.l2 ql.fN
  rw[aQ ω,aj,aU ω ω,aj,aG,aw (x:=(i:Int)+1) ω ω,af,hr]
  by_cases h0:0<i
  ·have e:W .i64 ((i:Int)-1)=((i-1:Nat):Int):=by rw[aw ω ω];omega
   dsimp only
   rw[aQ (x:=0) (y:=(i:Int)) ω,e,aG,aU (i:=((i-1:Nat):Int)) ω ω]
   simp only[cf,cz,aI,aj]
   have hg:=Ir h0 (c:=c) (l:=l)
   exact ai4 hg
  ·rw[aO (x:=0) (y:=(i:Int)) ω]
   simp only[cf,cz,aI,aj,av]
   have hg:=EH h0 (c:=c) (l:=l)
   exact ai5 hg
 ·unfold ql.l2 ql.fN
  rw[aO ω,av,FQ N ω,ar]
theorem Is(hN:200000≤N)(c:ae){l:au}(hl:l.length≤100000):mP N c l=some (gW c l):=by
 unfold mP mP.b
 rw[mK N ω,ar]
 have hsc:=iC (F:=λn i=>mP.l5 N n l c 33000000000 i) (e:=true) (wx c l) (λn i r hi hp hr=> ?_) (λn=> ?_) N (show l.length<N by omega)
 ·rw[oz hsc];unfold gW
  rw[fc,Bool.and_comm]
 ·unfold mP.l5 mP.dV
  rw[aQ ω,aj,aU ω ω,aj,aG,aw (x:=(i:Int)+1) ω ω,af,hr]
  by_cases h0:0<i
  ·have e:W .i64 ((i:Int)-1)=((i-1:Nat):Int):=by rw[aw ω ω];omega
   dsimp only
   rw[aQ (x:=0) (y:=(i:Int)) ω,e,aG,aU (i:=((i-1:Nat):Int)) ω ω]
   simp only[cf,cz,aI,aj]
   have hg:=Ir h0 (c:=c) (l:=l)
   exact ai4 hg
  ·rw[aO (x:=0) (y:=(i:Int)) ω]
   simp only[cf,cz,aI,aj,av]
   have hg:=EH h0 (c:=c) (l:=l)
   exact ai5 hg
 ·unfold mP.l5 mP.dV
  rw[aO ω,av]
end VM
end
