/- A part of the proof of BookAtOnce of layer 18: what the functions compute, in plain words. -/
import Derived.Test.YthkjjlcblhbifaaGreatPlain3
set_option linter.all false
section
namespace VM
open Go VM.F
variable(N:Nat)
theorem pZ{a b:List Int}(hl:a.length=b.length)(h: ∀i,i<a.length→a.getD i 0=b.getD i 0):a=b:=by
 refine List.ext_getElem hl (λi h1 h2=> ?_)
 have:=h i h1
 rwa [aV,bm h1,aV,bm h2]at this
theorem Us: ∀(ks q:List Int) (i:Nat),ks.Nodup→(∀k∈ks,0≤k∧k<q.length)→(bump q ks).getD i 0=q.getD i 0+(if(i:Int)∈ks then 1 else 0)
 |[],q,i,_,_=>by simp[bump]
 |k::t,q,i,hn,h=>by
  have hk:=h k (bs ..)
  rw[AD]at hn
  unfold bump
  rw[Us t _ i hn.2 (λx hx=>by rw[bP];exact h x (aZ _ hx))]
  by_cases hik:(i:Int)=k
  ·rw[ah (by rw[hik];exact hn.1),aj (by rw[hik];exact bs ..),←hik,aI,ns q _ ω];omega
  ·rw[getD_set_ne q _ ω]
   by_cases ht:(i:Int)∈t
   ·rw[aj ht,aj (aZ _ ht)]
   ·rw[ah ht,ah (λhc=>by rcases a8.1 hc with hc|hc;exact hik hc;exact ht hc)]
theorem Pp(l:List Int):(lB l).Nodup:=(o9 l l.length).imp (λ{a b} h he=>by unfold zq at h;rw[he]at h;omega)
theorem Ut(t S:Int)(hS:0<S): ∀u:List Int,(mj t S u).sum≤u.length*S
 |[]=>by simp[mj]
 |x::u=>by
  have ih:=Ut t S hS u
  have:=Au (t*x) hS
  unfold mj at*
  rw[bQ,cE,aT,Int.natCast_add,pK];simp;omega
def nA(t:Int)(w:List Int):Int:=t-(s0 t w.sum w).sum
theorem left_eq(t:Int)(w:List Int):w.sum*nA t w=(mj t w.sum w).sum:=by
 have:=Mq t w.sum w
 unfold nA;rw[Int.mul_sub,jm w.sum t];omega
theorem HO{t:Int}{w:List Int}(ht:0≤t)(hS:0<w.sum):0≤nA t w:=by
 have:=Zs ht hS (fW _);unfold nA;omega
theorem Uu{t:Int}{w:List Int}(hS:0<w.sum):nA t w≤w.length:=by
 have h1:=left_eq t w
 have h2:=Ut t w.sum hS w
 rw[←h1,jm (w.length:Int)]at h2
 exact Nw h2 hS
theorem pa(t:Int)(w:List Int):(ck t w).length=w.length:=by unfold ck;rw[Pl,xL]
theorem vO{t:Int}{w:List Int}(ht:0≤t)(hS:0<w.sum):(ck t w).sum=t:=by
 unfold ck
 have h1:=HO ht hS
 have h2:=Uu (t:=t) hS
 unfold nA at*
 rw[Pn _ _ (λk hk=>by have:=HN _ k (lK hk);rw[pY]at this;rwa [xL]),bV,zX,pY]
 omega
theorem zZ{f:Int→Int}{c:Int}: ∀{o:List Int},(∀x∈o,f x≤c)→(o.map f).sum≤o.length*c
 |[],_=>by simp
 |x::o,h=>by
  have ih:=zZ (f:=f) (c:=c) (o:=o) (λy hy=>h y (aZ _ hy))
  have:=h x (bs ..)
  rw[bQ,cE,aT,Int.natCast_add,pK];simp;omega
theorem SC{l o:List Int}(h:o.Pairwise (zq l)){m:Nat}{x y:Int}(hx:x∈o.take m)(hy:y∈o.drop m):zq l x y:=by
 rw[←gM m o,wR]at h
 exact h.2.2 x hx y hy
theorem Wk{t:Int}{w:List Int}(ht:0≤t)(hS:0<w.sum){i:Int}(hi:i∈(lB (mj t w.sum w)).take (nA t w).toNat):0<BQ (mj t w.sum w) i:=by
 have N8: ∀k:Int,0≤BQ (mj t w.sum w) k:=λk=>iK (Po hS) _
 have eT: ∀k:Int,BQ (mj t w.sum w) k≤w.sum-1:=λk=>by
  unfold BQ;rw[Ur]
  have:=Au (t*w.getD k.toNat 0) hS;omega
 have h0:=N8 i
 rcases Int.lt_or_le 0 (BQ (mj t w.sum w) i)with h|h
 ·exact h
 exfalso
 have JI:=Sz (mj t w.sum w) (mj t w.sum w) rfl
 rw[←left_eq]at JI
 have akM:=gM (nA t w).toNat (lB (mj t w.sum w))
 rw[←akM,dn,kQ]at JI
 have hd:(((lB (mj t w.sum w)).drop (nA t w).toNat).map (BQ (mj t w.sum w))).sum≤((lB (mj t w.sum w)).drop (nA t w).toNat).length*0:=zZ (λy hy=>by
  have:=SC (o9 _ _) hi hy
  unfold zq at this;omega)
 have htk:(((lB (mj t w.sum w)).take (nA t w).toNat).map (BQ (mj t w.sum w))).sum≤((lB (mj t w.sum w)).take (nA t w).toNat).length*(w.sum-1):=zZ (λy _=>eT y)
 have h1:=HO ht hS
 have h2:=Uu (t:=t) hS
 rw[bV,zX,pY,ij ω,Int.mul_sub]at htk
 rw[AH]at hd
 have h3:(((nA t w).toNat:Nat):Int)=nA t w:=ω
 have h4:0<(nA t w).toNat:=by
  rcases Nat.eq_zero_or_pos (nA t w).toNat with h|h
  ·rw[h,mU]at hi;nomatch hi
  ·exact h
 rw[h3,jm (nA t w)]at htk
 omega
def extra(t:Int)(w:List Int)(i:Nat):Int:=if(i:Int)∈(lB (mj t w.sum w)).take (nA t w).toNat then 1 else 0
theorem KL(t:Int)(w:List Int)(i:Nat):(ck t w).getD i 0=t*w.getD i 0/w.sum+extra t w i:=by
 unfold ck
 rw[Us _ _ i ((Pp _).sublist (List.take_sublist ..)) (λk hk=>by have:=HN _ k (lK hk);rw[pY]at this;rwa [xL]),Uq]
 rfl
theorem KM(t:Int)(w:List Int)(i:Nat):extra t w i=0∨extra t w i=1:=by unfold extra;split<;>omega
theorem Wl{t:Int}{w:List Int}(ht:0≤t)(hS:0<w.sum){i:Nat}(h:extra t w i=1):0<t*w.getD i 0%w.sum:=by
 unfold extra at h
 by_cases hi:(i:Int)∈(lB (mj t w.sum w)).take (nA t w).toNat
 ·have:=Wk ht hS hi
  unfold BQ at this;rwa [Ur,aI]at this
 ·rw[ah hi]at h;omega
theorem vP{t:Int}{w:List Int}(ht:0≤t)(hS:0<w.sum)(hw:Pos w):Pos (ck t w):=λx hx=>by
 obtain⟨i,hi,rfl⟩:=rD.1 hx
 have:=KL t w i
 rw[aV,bm hi]at this
 have h1:=KM t w i
 have h2:0≤t*w.getD i 0/w.sum:=uh (uk ht (iK hw i)) ω
 simp only[nO]at this
 omega
theorem Ek{t:Int}{w:List Int}(ht:0≤t)(hS:0<w.sum){i:Nat}(h:w.getD i 0=0):(ck t w).getD i 0=0:=by
 rw[KL,h]
 rcases KM t w i with h1|h1
 ·rw[h1];simp
 ·have:=Wl ht hS h1
  rw[h]at this;simp at this
theorem El(N:Nat)(hN:5000000≤N){t:Int}{w:List Int}(ht:0≤t)(wL:t<9223372036854775808)(hw:w.length≤64)(hp:Pos w)(hS:0<w.sum)(hS1:w.sum<9223372036854775808):
  ∀(m n i:Nat) (q r:List Int),w.length-i≤m→m<n→i≤w.length→q.length=w.length→r.length=w.length→q.take i=s0 t w.sum (w.take i)→r.take i=mj t w.sum (w.take i)→
  gw.KN N n t w (dA w.sum) q r (t-(s0 t w.sum (w.take i)).sum) (i:Int)=some (ck t w,0)
 |m,0,i,q,r,_,hn,_,_,_,_,_=>ω
 |m,n+1,i,q,r,hm,hn,hi,hq,hr,eq,er=>by
  unfold gw.KN gw.HQ
  by_cases h:i<w.length
  ·have hwi:=iK hp i
   have avU:=zY hp i
   have hb:=mul_lt ht hwi (show t≤9223372036854775807 by omega) (show w.getD i 0≤9223372036854775807 by omega)
   have hqi:t*w.getD i 0/w.sum≤t:=Int.ediv_le_of_le_mul hS (yp avU ht)
   have aDf:0≤t*w.getD i 0/w.sum:=uh hb.1 ω
   have hri:=Au (t*w.getD i 0) hS
   have aDg:=Gb (t*w.getD i 0) (show w.sum≠0 by omega)
   have hs0:=Zs ht hS (Ej hp i)
   have Nh:=kJ (HL ht (by omega:0≤w.sum) (Pm hp i))
   have ft:Fit t 2:=Fit.i64 ω ω
   have fw:Fit (w.getD i 0) 2:=Fit.i64 ω ω
   have fS:Fit w.sum 2:=Fit.i64 ω ω
   rw[aR ω,ak,dP N ω ω wL,ar,aW ω ω,ak,aI,dP N ω ω ω,ar,
    Br N ω (ft.mono ω) (fw.mono ω),ar,T8 N ω hS ((ft.mul fw).mono ω) (fS.mono ω),ar]
   dsimp only
   rw[tX,ar,Mr ω ω,tX,Mr ω ω]
   dsimp only
   rw[ar,aW ω ω,ak,aW ω ω,ak,bP,aW ω ω,ak,ns q _ ω,aw (x:=(i:Int)+1) ω ω,aw ω ω]
   have Bt:=El N hN ht wL hw hp hS hS1 (m-1) n (i+1) (q.set i (t*w.getD i 0/w.sum)) (r.set i (t*w.getD i 0%w.sum)) ω ω ω (by rw[bP];exact hq) (by rw[bP];exact hr)
    (by rw[take_set q _ ω,eq,iR w h];unfold s0;simp)
    (by rw[take_set r _ ω,er,iR w h];unfold mj;simp)
   rw[←KK,mH _ (by rw[xL];exact h),Uq,KK]at Bt
   rw[Int.sub_sub]
   exact Bt
  ·have nV:i=w.length:=ω
   subst nV
   rw[iz ω,iz ω]at eq er
   subst eq er
   rw[iz ω]
   have Nh:=kJ (HL ht (by omega:0≤w.sum) hp)
   have h1:=HO ht hS
   unfold nA at h1
   rw[aP ω,av,Wj N (by rw[pY];omega) (by rw[pY];omega),ar]
   have hlen:=zX (mj t w.sum w)
   rw[pY]at hlen
   have xf:=HM N (ks:=lB (mj t w.sum w)) ω w.length (λk hk=>by have:=HN _ k hk;rwa [pY]at this) 1000 N 0 (t-(s0 t w.sum w).sum).toNat (s0 t w.sum w) ω ω ω (xL ..) (HL ht ω hp) ω ω
   rw[cV,wS h1]at xf
   exact xf
theorem C6(hN:5000000≤N){t:Int}{w:List Int}(wL:t<9223372036854775808)(hw:KJ w)(hl:w.length≤1000000):gw N t w=some (sv t w):=by
 unfold gw gw.b sv
 rw[HK N ω,ar]
 by_cases h1:t<0
 ·rw[aU h1,Bool.true_or,ak,aj (.inl h1)]
 rw[bx h1,rK]
 cases h2:may w
 ·rw[dp,ak,aj (.inr rfl)]
 rw[bl,av,ah (by simp[h1]),zM N ω hw hl,ar,qO,ar]
 obtain⟨HR,hp⟩:=pz.1 h2
 have hS0:=kJ hp
 have hj: ∀h: ¬9223372036854775808≤w.sum,gw.j6 N t w (dA w.sum)=if w.sum=0 then some (List.replicate w.length 0,0)else some (ck t w,0):=λh=>by
  unfold gw.j6 gw.OL
  rw[tX,ar,Mr ω ω,bl,av,c7 ω ω ω,ak,ak,qO,ar,aI]
  by_cases h4:w.sum=0
  ·rw[aj h4,h4,show wN 0=0 from rfl,dV rfl,ak]
  ·rw[ah h4,eU (by unfold wN;repeat' split<;>omega),av]
   have:=El N hN ω wL HR hp ω ω w.length N 0 (List.replicate w.length 0) (List.replicate w.length 0) ω ω ω (c4 ..) (c4 ..) rfl rfl
   rw[mU]at this
   simp only[s0,ik,jo,Gh]at this
   exact this
 by_cases h3:9223372036854775808≤w.sum
 ·rw[aj h3,eU (by unfold wN;repeat' split<;>omega),av]
  unfold gw.j6 gw.OL
  rw[tX,ar];unfold CG;rw[ah ω];rfl
 rw[ah h3,hj h3]
 by_cases h4:w.sum=0
 ·rw[aj h4,aj h4,h4,show wN 0=0 from rfl,dV rfl,ak]
  by_cases h5:t=0
  ·rw[aj h5,dV h5,bl,av]
  ·rw[ah h5,eU h5,dp,ak]
 ·rw[ah h4,ah h4,eU (by unfold wN;repeat' split<;>omega),av]
def KO(t n:Int):List Int×Int:=if t<0∨n<1∨64<n then([],1)else sv t (List.replicate n.toNat 1)
theorem Zt(n:Nat):KJ (List.replicate n 1):=λx hx=>by rw[An hx];omega
theorem KP(N:Nat)(hN:5000000≤N){t:Int}{k:Nat}(hk:k≤64)(wL:t<9223372036854775808): ∀(m n i:Nat),k-i≤m→m<n→i≤k→
  sx.l5 N n t (k:Int) (List.replicate i 1++List.replicate (k-i) 0) (i:Int)=some (sv t (List.replicate k 1))
 |m,0,i,_,hn,_=>ω
 |m,n+1,i,hm,hn,hi=>by
  unfold sx.l5 sx.eo
  by_cases h:i<k
  ·rw[aR ω,ak,aW ω (by simp;omega),ak,aw ω ω]
   refine Eq.trans ?_ (KP N hN hk wL (m-1) n (i+1) ω ω ω)
   congr 1
   rw[aI,NK _ _ (by simp),c4,uq,show k-i=(k-(i+1))+1 by omega,As,List.set_cons_zero,List.replicate_succ',bE]
   rfl
  ·rw[aP ω,av,show k-i=0 by omega,List.replicate_zero,cw,show i=k by omega,C6 N hN wL (Zt _) (by rw[c4];omega)]
   rfl
theorem Zu(hN:5000000≤N){t n:Int}(wL:t<9223372036854775808):sx N t n=some (KO t n):=by
 unfold sx sx.b KO
 by_cases h1:t<0
 ·rw[aR h1,ak,aj (.inl h1)]
 by_cases h2:n<1
 ·rw[aP ω,av,aR h2,ak,aj (.inr (.inl h2))]
 by_cases h3:64<n
 ·rw[aP ω,av,aP ω,av,aR h3,ak,aj (.inr (.inr h3))]
 rw[aP ω,av,aP ω,av,aP ω,av,ah ω,c7 ω ω ω,ak]
 have:=KP N hN (t:=t) (k:=n.toNat) ω wL n.toNat N 0 ω ω ω
 rw[List.replicate_zero,cN,Nat.sub_zero,wS ω]at this
 exact this
def HS(n:Nat)(f:Nat→Int):List Int:=(List.range n).map f
theorem im(n:Nat)(f:Nat→Int):(HS n f).length=n:=by unfold HS;rw[cK,wT]
theorem ib{n:Nat}{f:Nat→Int}{i:Nat}(h:i<n):(HS n f).getD i 0=f i:=by
 unfold HS
 rw[aV,nP,List.getElem?_range h];rfl
theorem Ms(n:Nat)(f:Nat→Int)(i:Nat):(HS n f).getD i 0=if i<n then f i else 0:=by
 by_cases h:i<n
 ·rw[aj h,ib h]
 ·rw[ah h,vx _ (by rw[im];omega)]
theorem acS{n:Nat}{f:Nat→Int}(h: ∀i,i<n→0≤f i):Pos (HS n f):=λx hx=>by
 obtain⟨i,hi,rfl⟩:=cW.1 hx
 exact h i (rJ.1 hi)
theorem tH{l:List Int}(h: ∀i,i<l.length→0≤l.getD i 0):Pos l:=λx hx=>by
 obtain⟨i,hi,rfl⟩:=rD.1 hx
 have:=h i hi
 rwa [aV,bm hi]at this
theorem yL: ∀{a b:List Int},a.length=b.length→(∀i,i<a.length→a.getD i 0≤b.getD i 0)→a.sum≤b.sum
 |[],[],_,_=>fW _
 |[],_::_,h,_=>nomatch h
 |_::_,[],h,_=>nomatch h
 |x::a,y::b,h,h1=>by
  have:=yL (a:=a) (b:=b) (by simpa using h) (λi hi=>by have:=h1 (i+1) (by simpa using hi);simpa using this)
  have h2:x≤y:=by have:=h1 0 (by simp);simpa using this
  rw[cE,cE];omega
theorem HT: ∀{a b c:List Int},a.length=b.length→a.length=c.length→(∀i,i<a.length→a.getD i 0=b.getD i 0+c.getD i 0)→a.sum=b.sum+c.sum
 |[],[],[],_,_,_=>rfl
 |[],_::_,_,h,_,_=>nomatch h
 |[],[],_::_,_,h,_=>nomatch h
 |_::_,[],_,h,_,_=>nomatch h
 |_::_,_::_,[],_,h,_=>nomatch h
 |x::a,y::b,z::c,h,h',h1=>by
  have:=HT (a:=a) (b:=b) (c:=c) (by simpa using h) (by simpa using h') (λi hi=>by have:=h1 (i+1) (by simpa using hi);simpa using this)
  have h2:x=y+z:=by have:=h1 0 (by simp);simpa using this
  rw[cE,cE,cE];omega
theorem xM: ∀{a:List Int},(∀i,i<a.length→a.getD i 0=0)→a.sum=0
 |[],_=>rfl
 |x::a,h=>by
  have:=xM (a:=a) (λi hi=>by have:=h (i+1) (by simpa using hi);simpa using this)
  have h2:x=0:=by have:=h 0 (by simp);simpa using this
  rw[cE];omega
def c0(w caps out:List Int):List Int:=HS w.length λi=>if out.getD i 0<caps.getD i 0 then w.getD i 0 else 0
def gb(parts caps out:List Int):List Int:=HS out.length λi=>min (parts.getD i 0) (caps.getD i 0-out.getD i 0)
def xN(out g:List Int):List Int:=HS out.length λi=>out.getD i 0+g.getD i 0
def vQ(w caps:List Int):Nat→List Int→Int→List Int×Int
 |0,out,left=>(out,left)
 |f+1,out,left=>if left=0∨(c0 w caps out).sum=0 then(out,left)else
  vQ w caps f (xN out (gb (ck left (c0 w caps out)) caps out)) (left-(gb (ck left (c0 w caps out)) caps out).sum)
structure Uv(t:Int)(w caps out:List Int)(left:Int):Prop where
 n:w.length≤64
 l1:caps.length=w.length
 l2:out.length=w.length
 pw:Pos w
 sw:w.sum<9223372036854775808
 pc: ∀i,0≤caps.getD i 0∧caps.getD i 0<9223372036854775808
 po: ∀i,0≤out.getD i 0
 le: ∀i,i<w.length→out.getD i 0≤caps.getD i 0
 z: ∀i,w.getD i 0=0→out.getD i 0=0
 l:0≤left
 t1:t<9223372036854775808
 s:out.sum+left=t
theorem jD(w caps out:List Int):(c0 w caps out).length=w.length:=im ..
theorem sy{w caps out:List Int}(h:Pos w):Pos (c0 w caps out):=acS (λi _=>by split;exact iK h i;omega)
theorem Pq{w caps out:List Int}(h:Pos w):(c0 w caps out).sum≤w.sum:=yL (jD ..) (λi hi=>by
 rw[jD]at hi
 unfold c0;rw[ib hi];split
 ·omega
 ·exact iK h i)
theorem Zv{t left:Int}{w caps out:List Int}(c:Uv t w caps out left):KJ (c0 w caps out):=λx hx=>by
 have h1:=sy (caps:=caps) (out:=out) c.pw
 have h2:=Pq (caps:=caps) (out:=out) c.pw
 have h3:=h1 x hx
 obtain⟨i,hi,rfl⟩:=rD.1 hx
 have h4:=zY h1 i
 rw[aV,bm hi]at h4
 simp only[nO]at h4
 have:=c.sw
 omega
theorem Pr{t left:Int}{w caps out:List Int}(c:Uv t w caps out left):left≤t:=by
 have:=kJ (q:=out) (tH (λi _=>c.po i));have:=c.s;omega
theorem pA{t left:Int}{w caps out:List Int}(c:Uv t w caps out left)(hS:0<(c0 w caps out).sum)(i:Nat):
  0≤(gb (ck left (c0 w caps out)) caps out).getD i 0∧(gb (ck left (c0 w caps out)) caps out).getD i 0≤(ck left (c0 w caps out)).getD i 0∧(i<w.length→out.getD i 0+(gb (ck left (c0 w caps out)) caps out).getD i 0≤caps.getD i 0):=by
 have h0:=iK (vP c.l hS (sy c.pw)) i
 unfold gb
 rw[Ms]
 have:=c.l2
 by_cases h:i<out.length
 ·rw[aj h]
  have:=c.le i ω
  omega
 ·rw[ah h];exact⟨ω,h0,λh=>ω⟩
theorem xO(parts caps out:List Int):(gb parts caps out).length=out.length:=im ..
theorem HU{t left:Int}{w caps out:List Int}(c:Uv t w caps out left)(hS:0<(c0 w caps out).sum):0≤(gb (ck left (c0 w caps out)) caps out).sum∧(gb (ck left (c0 w caps out)) caps out).sum≤left:=by
 constructor
 ·exact kJ (tH (λi _=>(pA c hS i).1))
 ·have:=yL (a:=gb (ck left (c0 w caps out)) caps out) (b:=ck left (c0 w caps out)) (by rw[xO,pa,jD,c.l2]) (λi _=>(pA c hS i).2.1)
  rwa [vO c.l hS]at this
theorem Ps{t left:Int}{w caps out:List Int}(c:Uv t w caps out left)(hS:0<(c0 w caps out).sum):Uv t w caps (xN out (gb (ck left (c0 w caps out)) caps out)) (left-(gb (ck left (c0 w caps out)) caps out).sum):=by
 have pt: ∀i,(xN out (gb (ck left (c0 w caps out)) caps out)).getD i 0=if i<out.length then out.getD i 0+(gb (ck left (c0 w caps out)) caps out).getD i 0 else 0:=λi=>by unfold xN;rw[Ms]
 have gs:=HU c hS
 refine⟨c.n,c.l1,?_,c.pw,c.sw,c.pc,λi=> ?_,λi hi=> ?_,λi hi=> ?_,ω,c.t1,?_⟩
 ·unfold xN;rw[im,c.l2]
 ·rw[pt];have:=(pA c hS i).1;have:=c.po i;split<;>omega
 ·rw[pt,aj (by rw[c.l2];exact hi)];exact(pA c hS i).2.2 hi
 ·rw[pt]
  split
  ·have h1:(c0 w caps out).getD i 0=0:=by unfold c0;rw[Ms,hi];split<;>(try split)<;>rfl
   have h2:=Ek c.l hS h1
   have h3:=pA c hS i
   rw[c.z i hi];omega
  ·rfl
 ·have:=HT (a:=xN out (gb (ck left (c0 w caps out)) caps out)) (b:=out) (c:=gb (ck left (c0 w caps out)) caps out) (by unfold xN;rw[im]) (by unfold xN;rw[im,xO]) (λi hi=>by
   unfold xN at hi;rw[im]at hi;rw[pt,aj hi])
  have:=c.s
  omega
def opens(w caps out:List Int):Nat:=(List.range w.length).countP λi=>decide (0<w.getD i 0∧out.getD i 0<caps.getD i 0)
theorem KQ{p q:Nat→Bool}: ∀{l:List Nat},(∀x∈l,q x=true→p x=true)→(∃x∈l,p x=true∧q x=false)→l.countP q<l.countP p
 |[],_,⟨x,hx,_⟩=>nomatch hx
 |y::l,h,⟨x,hx,h1,h2⟩=>by
  have hle:l.countP q≤l.countP p:=List.countP_mono_left (λz hz=>h z (aZ _ hz))
  rw[List.countP_cons,List.countP_cons]
  rcases a8.1 hx with rfl|hx
  ·rw[h1,h2];simp;omega
  ·have:=KQ (p:=p) (q:=q) (l:=l) (λz hz=>h z (aZ _ hz)) ⟨x,hx,h1,h2⟩
   have h3:=h y (bs ..)
   cases hq:q y<;>cases hp:p y<;>simp<;>try omega
   rw[hq,hp]at h3;simp at h3
theorem KR{w caps out:List Int}(hw:Pos w)(h:(c0 w caps out).sum=0): ∀i,i<w.length→ ¬(0<w.getD i 0∧out.getD i 0<caps.getD i 0):=λi hi ⟨h1,h2⟩=>by
 have:=zY (sy (caps:=caps) (out:=out) hw) i
 unfold c0 at this h
 rw[ib hi,aj h2,h]at this
 omega
theorem Mt{w caps out:List Int}(hw:Pos w)(h:(c0 w caps out).sum≠0): ∃i,i<w.length∧0<w.getD i 0∧out.getD i 0<caps.getD i 0:=by
 by_cases hx: ∃i,i<w.length∧0<w.getD i 0∧out.getD i 0<caps.getD i 0
 ·exact hx
 ·refine absurd (xM (λi hi=> ?_)) h
  rw[jD]at hi
  unfold c0
  rw[ib hi]
  split
  ·rename_i h1
   have:=iK hw i
   by_cases h2:0<w.getD i 0
   ·exact absurd ⟨i,hi,h2,h1⟩ hx
   ·omega
  ·rfl
theorem Wm{t left:Int}{w caps out:List Int}(c:Uv t w caps out left)(hS:0<(c0 w caps out).sum)(hl:left-(gb (ck left (c0 w caps out)) caps out).sum≠0):opens w caps (xN out (gb (ck left (c0 w caps out)) caps out))<opens w caps out:=by
 have pt: ∀i,i<w.length→(xN out (gb (ck left (c0 w caps out)) caps out)).getD i 0=out.getD i 0+(gb (ck left (c0 w caps out)) caps out).getD i 0:=λi hi=>by unfold xN;rw[ib (by rw[c.l2];exact hi)]
 refine KQ (λi hi h=> ?_) ?_
 ·rw[rJ]at hi
  rw[fU,pt i hi]at h
  rw[fU]
  have:=(pA c hS i).1
  omega
 ·by_cases hx: ∃i,i<w.length∧(0<w.getD i 0∧out.getD i 0<caps.getD i 0)∧caps.getD i 0≤out.getD i 0+(gb (ck left (c0 w caps out)) caps out).getD i 0
  ·obtain⟨i,h1,h2,h3⟩:=hx
   refine⟨i,rJ.2 h1,aU h2,bx ?_⟩
   rw[pt i h1];omega
  ·exfalso
   have h1:ck left (c0 w caps out)=gb (ck left (c0 w caps out)) caps out:=by
    refine pZ (by rw[xO,pa,jD,c.l2]) (λi hi=> ?_)
    rw[pa,jD]at hi
    have h2:=pA c hS i
    have h3:=iK (vP c.l hS (sy (caps:=caps) (out:=out) c.pw)) i
    by_cases h4:0<w.getD i 0∧out.getD i 0<caps.getD i 0
    ·have h5: ¬caps.getD i 0≤out.getD i 0+(gb (ck left (c0 w caps out)) caps out).getD i 0:=λh=>hx ⟨i,hi,h4,h⟩
     have h6:(gb (ck left (c0 w caps out)) caps out).getD i 0=min ((ck left (c0 w caps out)).getD i 0) (caps.getD i 0-out.getD i 0):=ib (by rw[c.l2];exact hi)
     omega
    ·have h7:(c0 w caps out).getD i 0=0:=by
      unfold c0;rw[ib hi]
      have:=iK c.pw i
      split<;>omega
     have:=Ek c.l hS h7
     omega
   rw[←h1,vO c.l hS]at hl
   omega
theorem Zw(w caps out:List Int):opens w caps out≤w.length:=by
 unfold opens
 have:=List.countP_le_length (p:=λi=>decide (0<w.getD i 0∧out.getD i 0<caps.getD i 0)) (l:=List.range w.length)
 rwa [wT]at this
structure Full(t:Int)(w caps out:List Int)(left:Int):Prop where
 c:Uv t w caps out left
 f:left=0∨ ∀i,i<w.length→ ¬(0<w.getD i 0∧out.getD i 0<caps.getD i 0)
theorem Pu{t:Int}{w caps:List Int}: ∀(f:Nat) (out:List Int) (left:Int),Uv t w caps out left→(opens w caps out<f∨left=0)→Full t w caps (vQ w caps f out left).1 (vQ w caps f out left).2
 |0,out,left,c,h=>⟨c,.inl (show left=0 by omega)⟩
 |f+1,out,left,c,h=>by
  unfold vQ
  have hS:=kJ (sy (caps:=caps) (out:=out) c.pw)
  split
  ·rename_i h1
   exact⟨c,h1.imp id (KR c.pw)⟩
  ·rename_i h1
   refine Pu f _ _ (Ps c ω) ?_
   by_cases h2:left-(gb (ck left (c0 w caps out)) caps out).sum=0
   ·exact .inr h2
   ·have:=Wm c ω h2
    exact .inl ω
def C8(out g:List Int)(i:Nat):List Int:=HS out.length λj=>if j<i then out.getD j 0+g.getD j 0 else out.getD j 0
theorem mid_zero(out g:List Int):C8 out g 0=out:=pZ (im ..) (λi hi=>by unfold C8 at*;rw[im]at hi;rw[ib hi,ah ω])
theorem acT(out g:List Int){n:Nat}(h:out.length≤n):C8 out g n=xN out g:=pZ (by unfold C8 xN;rw[im,im]) (λi hi=>by unfold C8 xN at*;rw[im]at hi;rw[ib hi,ib hi,aj ω])
theorem BS(out g:List Int)(i:Nat):(C8 out g i).length=out.length:=im ..
theorem akV{out g:List Int}{i:Nat}(h:i<out.length):(C8 out g i).getD i 0=out.getD i 0:=by unfold C8;rw[ib h,ah ω]
theorem acU{out g:List Int}{i:Nat}(h:i<out.length):(C8 out g i).set i (out.getD i 0+g.getD i 0)=C8 out g (i+1):=pZ (by rw[bP,BS,BS]) (λj hj=>by
 rw[bP,BS]at hj
 by_cases zJ:i=j
 ·subst zJ
  rw[ns _ _ (by rw[BS];exact h)];unfold C8;rw[ib h,aj ω]
 ·rw[getD_set_ne _ _ zJ];unfold C8;rw[ib hj,ib hj]
  by_cases h1:j<i
  ·rw[aj h1,aj ω]
  ·rw[ah h1,ah ω])
def tI(s:List Int)(i:Nat):List Int:=HS s.length λj=>if j<i then s.getD j 0 else 0
theorem Wn(s:List Int):tI s 0=List.replicate s.length 0:=pZ (by unfold tI;rw[im,c4]) (λi hi=>by
 unfold tI at*;rw[im]at hi;rw[ib hi,ah ω,aV,FQ,aj hi];rfl)
theorem Zx(s:List Int):tI s s.length=s:=pZ (im ..) (λi hi=>by unfold tI at*;rw[im]at hi;rw[ib hi,aj hi])
theorem p3(s:List Int)(i:Nat):(tI s i).length=s.length:=im ..
theorem Zy{s:List Int}{i:Nat}(h:i<s.length):(tI s i).set i (s.getD i 0)=tI s (i+1):=pZ (by rw[bP,p3,p3]) (λj hj=>by
 rw[bP,p3]at hj
 by_cases zJ:i=j
 ·subst zJ
  rw[ns _ _ (by rw[p3];exact h)];unfold tI;rw[ib h,aj ω]
 ·rw[getD_set_ne _ _ zJ];unfold tI;rw[ib hj,ib hj]
  by_cases h1:j<i
  ·rw[aj h1,aj ω]
  ·rw[ah h1,ah ω])
theorem KS{s:List Int}{i:Nat}(h:s.getD i 0=0):tI s i=tI s (i+1):=pZ (by rw[p3,p3]) (λj hj=>by
 rw[p3]at hj
 unfold tI;rw[ib hj,ib hj]
 by_cases h1:j<i
 ·rw[aj h1,aj ω]
 ·rw[ah h1]
  by_cases h2:j=i
  ·subst h2;rw[aj ω,h]
  ·rw[ah ω])
theorem akW(x y:Int):mn x y=min x y:=by rw[Xz];split<;>omega
theorem Wo{t left:Int}{w caps out:List Int}(c:Uv t w caps out left)(hS:0<(c0 w caps out).sum)(i:Nat):0≤((gb (ck left (c0 w caps out)) caps out).take i).sum∧((gb (ck left (c0 w caps out)) caps out).take i).sum≤left:=by
 have h:=tH (l:=gb (ck left (c0 w caps out)) caps out) (λi _=>(pA c hS i).1)
 have:=Ej h i
 have:=HU c hS
 exact⟨kJ (Pm h i),ω⟩
theorem HV(N:Nat)(K:List Int→List Int→List Int→Int→Int→Option (List Int×Int×Int)){t left:Int}{w caps out:List Int}(c:Uv t w caps out left)(hS:0<(c0 w caps out).sum)(rd:Int): ∀(m n i:Nat),w.length-i≤m→m<n→i≤w.length→
  fk.Wb N K n w caps (C8 out (gb (ck left (c0 w caps out)) caps out) i) (left-((gb (ck left (c0 w caps out)) caps out).take i).sum) rd (ck left (c0 w caps out)) (i:Int)=
  K w caps (xN out (gb (ck left (c0 w caps out)) caps out)) (left-(gb (ck left (c0 w caps out)) caps out).sum) (W .i64 (rd+1))
 |m,0,i,_,hn,_=>ω
 |m,n+1,i,hm,hn,hi=>by
  have n64:=c.n
  have e1:=c.l1
  have e2:=c.l2
  unfold fk.Wb fk.Sm
  by_cases h:i<w.length
  ·have hc:=c.pc i
   have ho:=c.po i
   have hle:=c.le i h
   have hg:=pA c hS i
   have h6:(gb (ck left (c0 w caps out)) caps out).getD i 0=min ((ck left (c0 w caps out)).getD i 0) (caps.getD i 0-out.getD i 0):=ib (by rw[c.l2];exact h)
   have ht:=Wo c hS i
   have hl:=Pr c
   have wL:=c.t1
   have hgl:(gb (ck left (c0 w caps out)) caps out).getD i 0≤left:=by
    have:=zY (tH (l:=gb (ck left (c0 w caps out)) caps out) (λi _=>(pA c hS i).1)) i
    have:=HU c hS
    omega
   dsimp only
   rw[aR ω,ak,aW ω (by rw[pa,jD];omega),ak,aW ω ω,ak,aW ω (by rw[BS];omega),ak,ak,aI,akV ω,aw (x:=caps.getD i 0-out.getD i 0) ω ω,akW,←h6,
    aw (x:=(i:Int)+1) ω ω,aw (x:=out.getD i 0+_) ω ω,aw (x:=left-_-_) ω ω,acU ω]
   have:=HV N K c hS rd (m-1) n (i+1) ω ω ω
   rw[mH _ (by rw[xO];omega),←Int.sub_sub]at this
   exact this
  ·rw[aP ω,av,acT _ _ ω,iz (by rw[xO];omega)]
def Pv(w caps out:List Int)(i:Nat):Prop:= ∃j,j<i∧0<w.getD j 0∧out.getD j 0<caps.getD j 0
theorem vR(N:Nat)(hN:5000000≤N)(K:List Int→List Int→List Int→Int→Int→Option (List Int×Int×Int)){t left:Int}{w caps out:List Int}(c:Uv t w caps out left)(rd:Int): ∀(m n i:Nat) (b:Bool),w.length-i≤m→m<n→i≤w.length→(b=true↔Pv w caps out i)→
  fk.oH N K n w caps out left rd (tI (c0 w caps out) i) b (i:Int)=
  if left=0∨(c0 w caps out).sum=0 then some (out,left,0)else K w caps (xN out (gb (ck left (c0 w caps out)) caps out)) (left-(gb (ck left (c0 w caps out)) caps out).sum) (W .i64 (rd+1))
 |m,0,i,b,_,hn,_,_=>ω
 |m,n+1,i,b,hm,hn,hi,hb=>by
  have n64:=c.n
  have e1:=c.l1
  have e2:=c.l2
  unfold fk.oH fk.nD
  by_cases h:i<w.length
  ·have h1:(c0 w caps out).getD i 0=if out.getD i 0<caps.getD i 0 then w.getD i 0 else 0:=ib h
   have hw:=iK c.pw i
   have tq: ¬(0<w.getD i 0∧out.getD i 0<caps.getD i 0)→(b=true↔Pv w caps out (i+1)):=λqj=>hb.trans ⟨λ⟨j,hj,h2⟩=>⟨j,ω,h2⟩,λ⟨j,hj,h2⟩=>⟨j,by
    by_cases zJ:j=i
    ·subst zJ;exact absurd h2 qj
    ·omega,h2⟩⟩
   rw[aR ω,ak,aW ω ω,ak,aI]
   by_cases h0:0<w.getD i 0
   ·rw[aR h0,ak,aW ω ω,ak,aW ω ω,ak]
    by_cases h2:out.getD i 0<caps.getD i 0
    ·rw[aj h2]at h1
     rw[aR h2,ak,ak,aW ω (by rw[p3,jD];omega),ak,aw ω ω,←h1,Zy (by rw[jD];exact h)]
     exact vR N hN K c rd (m-1) n (i+1) true ω ω ω ⟨λ_=>⟨i,ω,h0,h2⟩,λ_=>rfl⟩
    ·rw[ah h2]at h1
     rw[aP ω,av,aw ω ω,KS h1]
     exact vR N hN K c rd (m-1) n (i+1) b ω ω ω (tq (λh=>h2 h.2))
   ·have h3:(c0 w caps out).getD i 0=0:=by rw[h1];split<;>omega
    rw[aP ω,av,aw ω ω,KS h3]
    exact vR N hN K c rd (m-1) n (i+1) b ω ω ω (tq (λh=>h0 h.1))
  ·have R5:=Pr c
   have wL:=c.t1
   have hl0:=c.l
   have nV:i=(c0 w caps out).length:=by rw[jD];omega
   have hp:=sy (caps:=caps) (out:=out) c.pw
   have hs:=Pq (caps:=caps) (out:=out) c.pw
   have hs0:=kJ hp
   have hsw:=c.sw
   have hm:may (c0 w caps out)=true:=pz.2 ⟨by rw[jD];omega,hp⟩
   rw[aP ω,av]
   by_cases h4:left=0
   ·rw[dV h4,ak,aj (.inl h4)]
   rw[eU h4,av]
   by_cases h3:(c0 w caps out).sum=0
   ·have hbf:b=false:=by
     rw[wV];intro ht
     obtain⟨j,hj,h5⟩:=hb.1 ht
     exact KR c.pw h3 j ω h5
    rw[aj (.inr h3),hbf];rfl
   ·have hbt:b=true:=hb.2 (by
     obtain⟨j,hj,h5⟩:=Mt c.pw h3
     exact⟨j,ω,h5⟩)
    rw[hbt,bl,av,ah ω,nV,Zx,C6 N ω ω (Zv c) (by rw[jD];omega),ar]
    unfold sv
    rw[ah (by rw[hm];simp;omega),ah ω,ah h3]
    have:=HV N K c ω rd w.length N 0 ω ω ω
    rw[mid_zero,mU,jo,Gh]at this
    exact this
theorem KT(N:Nat)(hN:5000000≤N){t:Int}{w caps:List Int}: ∀(f n:Nat) (out:List Int) (left:Int),Uv t w caps out left→f≤w.length+1→f<n→
  fk.l8 N n w caps out left ((w.length+1-f:Nat):Int)=some ((vQ w caps f out left).1,(vQ w caps f out left).2,0)
 |f,0,out,left,c,_,hn=>ω
 |0,n+1,out,left,c,h,hn=>by
  unfold fk.l8 fk.D4
  rw[fK ω];rfl
 |f+1,n+1,out,left,c,h,hn=>by
  have n64:=c.n
  have hl:=c.l
  unfold fk.l8 fk.D4
  rw[fQ ω,ak,c7 ω ω ω,ak,aI]
  have:=vR N hN (fk.l8 N n) c ((w.length+1-(f+1):Nat):Int) w.length N 0 false ω ω ω ⟨(λh=>nomatch h),λ⟨j,hj,_⟩=>ω⟩
  rw[Wn,jD]at this
  refine Eq.trans this ?_
  have hS:=kJ (sy (caps:=caps) (out:=out) c.pw)
  unfold vQ
  by_cases h1:left=0∨(c0 w caps out).sum=0
  ·rw[aj h1,aj h1]
  ·rw[ah h1,ah h1,aw ω ω,show(((w.length+1-(f+1):Nat):Int)+1)=((w.length+1-f:Nat):Int)by omega]
   exact KT N hN f n _ _ (Ps c ω) ω ω
def tJ(t:Int)(w caps:List Int):List Int×Int×Int:=
 if t<0∨may w=false∨caps.length≠w.length∨may caps=false then([],0,1)else if 9223372036854775808≤w.sum then([],0,2)
 else((vQ w caps (w.length+1) (List.replicate w.length 0) t).1,(vQ w caps (w.length+1) (List.replicate w.length 0) t).2,0)
theorem qV(n i:Nat):(List.replicate n (0:Int)).getD i 0=0:=by
 rw[aV,FQ];split<;>rfl
theorem KU{t:Int}{w caps:List Int}(ht:0≤t)(wL:t<9223372036854775808)(hw:may w=true)(hc:may caps=true)(hl:caps.length=w.length)(hi:KJ caps)(hs:w.sum<9223372036854775808):Uv t w caps (List.replicate w.length 0) t:=by
 obtain⟨h1,h2⟩:=pz.1 hw
 obtain⟨h3,h4⟩:=pz.1 hc
 refine⟨h1,hl,c4 ..,h2,hs,λi=>⟨iK h4 i,(uD hi i).2⟩,λi=>by rw[qV];omega,λi _=>by rw[qV];exact iK h4 i,λi _=>qV ..,ht,wL,?_⟩
 rw[xM (λi _=>qV ..)];omega
theorem HW(hN:5000000≤N){t:Int}{w caps:List Int}(wL:t<9223372036854775808)(hw:KJ w)(hc:KJ caps)(hl:w.length≤1000000):fk N t w caps=some (tJ t w caps):=by
 unfold fk fk.b tJ
 rw[HK N ω,ar]
 by_cases h1:t<0
 ·rw[aU h1,Bool.true_or,ak,aj (.inl h1)]
 rw[bx h1,rK]
 cases h2:may w
 ·rw[dp,ak,aj (.inr (.inl rfl))]
 rw[bl,av]
 by_cases h3:caps.length=w.length
 case neg=>rw[eU ω,dp,ak,aj (.inr (.inr (.inl h3)))]
 rw[dV ω,bl,av,HK N ω,ar]
 cases h4:may caps
 ·rw[aj (.inr (.inr (.inr rfl)))];rfl
 have hp:=kJ (pz.1 h2).2
 rw[show(decide ((0:Int)<0)|| !true)=false from rfl,av,zM N ω hw hl,ar,tX,ar,ah (by simp;omega)]
 by_cases h5:9223372036854775808≤w.sum
 ·rw[aj h5];unfold CG;rw[ah ω];rfl
 rw[ah h5,Mr ω ω,bl,av,c7 ω ω ω,ak,aI]
 have nJ:=(pz.1 h2).1
 have:=KT N hN (w.length+1) N _ _ (KU ω wL h2 h4 h3 hc ω) ω ω
 rw[uq]at this
 exact this
theorem nB{a b:Int}: ∀{l:au},so (l.map keyOf)→gR a b l=cS a b l
 |[],_=>rfl
 |x::t,h=>by
  obtain⟨h1,h2⟩:=eX.1 h
  rw[iJ,jS,←nB h2]
  by_cases e1:x.1=a
  ·by_cases e2:x.2.1=b
   ·have hz:cS a b t=0:=ly λy hy e=>by
     have hk:=h1 (keyOf y) (fm hy)
     have he:keyOf y=keyOf x:=g7 (e.1.trans e1.symm) (e.2.trans e2.symm)
     rw[he]at hk
     exact oj hk
    rw[aj e1,aj e2,aj ⟨e1,e2⟩,nB h2,hz,jM];rfl
   ·rw[aj e1,ah e2,ah (λh=>e2 h.2),wZ]
  ·rw[ah e1,ah (λh=>e1 h.1),wZ]
def JL(x q:Int):Prop:= ¬((x<0)↔(q<0))
instance(x q:Int):Decidable (JL x q):=by unfold JL;infer_instance
def gy(a q:Int):au→au
 |[]=>[]
 |x::t=>if ¬dD x.1 0∧dD x.2.1 a∧JL (dT x) q then x::gy a q t else gy a q t
theorem sA(a q:Int)(x:dd)(t:au):gy a q (x::t)=if ¬dD x.1 0∧dD x.2.1 a∧JL (dT x) q then x::gy a q t else gy a q t:=rfl
def zr(l:au):List Int:=l.map λx=>x.1
def jT(l:au):List Int:=l.map λx=>((dT x).natAbs:Int)
theorem uO{a q:Int}{x:dd}: ∀{l:au},x∈gy a q l→x∈l∧ ¬dD x.1 0∧dD x.2.1 a
 |[],h=>nomatch h
 |y::t,h=>by
  rw[sA]at h
  by_cases e: ¬dD y.1 0∧dD y.2.1 a∧JL (dT y) q
  ·rw[aj e]at h
   rcases a8.1 h with rfl|h
   ·exact⟨bs ..,e.1,e.2.1⟩
   ·have:=uO h;exact⟨aZ _ this.1,this.2⟩
  ·rw[ah e]at h
   have:=uO h;exact⟨aZ _ this.1,this.2⟩
theorem KV(a q:Int): ∀l:au,(gy a q l).length≤l.length
 |[]=>aH _
 |x::t=>by
  have:=KV a q t
  rw[sA,aT]
  split
  ·rw[aT];omega
  ·omega
theorem Pw{v q s h o:Int}{P Q R:Prop} [Decidable P] [Decidable Q] [Decidable R](hR:R↔ ¬((v<0)↔(q<0)))(hq:0<q)(hh:h-o≤s):
  (if P∧Q then v else 0)+h-((if ¬P∧Q∧R then(v.natAbs:Int)else 0)+o)≤(if Q then v else 0)+s:=by
 by_cases hQ:Q<;>by_cases hP:P<;>by_cases hR':R<;>simp only[hP,hQ,hR',and_self,eF,and_false,false_and,true_and,not_true,not_false_iff,g8,fG]<;>(rw[Nr]at hR;first|omega|(have h2:=hR.1 hR';omega)|(have h2: ¬ ¬((v<0)↔(q<0)):=λe=>hR' (hR.2 e);omega))
theorem Em{a q:Int}(hq:0<q): ∀l:au,cS 0 a l-(jT (gy a q l)).sum≤(df a l).sum
 |[]=>fW _
 |x::t=>by
  have ih:=Em (a:=a) hq t
  have e1:cS 0 a (x::t)=(if dD x.1 0∧dD x.2.1 a then dT x else 0)+cS 0 a t:=jS 0 a x t
  have e2:(jT (gy a q (x::t))).sum=(if ¬dD x.1 0∧dD x.2.1 a∧JL (dT x) q then((dT x).natAbs:Int)else 0)+(jT (gy a q t)).sum:=by
   rw[sA]
   split
   ·show(((dT x).natAbs:Int)::jT (gy a q t)).sum=_
    rw[cE]
   ·omega
  have e3:(df a (x::t)).sum=(if dD x.2.1 a then dT x else 0)+(df a t).sum:=by
   rw[dx]
   by_cases h:x.2.1=a
   ·rw[aj h,aj (show dD x.2.1 a from h),cE]
   ·rw[ah h,ah (show ¬dD x.2.1 a from h)];omega
  rw[e1,e2,e3]
  exact Pw Iff.rfl hq ih
theorem Px{v q s h o:Int}{P Q R:Prop} [Decidable P] [Decidable Q] [Decidable R](hR:R↔ ¬((v<0)↔(q<0)))(hq:q<0)(hh:s≤h+o):
  (if Q then v else 0)+s≤(if P∧Q then v else 0)+h+((if ¬P∧Q∧R then(v.natAbs:Int)else 0)+o):=by
 by_cases hQ:Q<;>by_cases hP:P<;>by_cases hR':R<;>simp only[hP,hQ,hR',and_self,eF,and_false,false_and,true_and,not_true,not_false_iff,g8,fG]<;>(rw[Nr]at hR;first|omega|(have h2:=hR.1 hR';omega)|(have h2: ¬ ¬((v<0)↔(q<0)):=λe=>hR' (hR.2 e);omega))
theorem En{a q:Int}(hq:q<0): ∀l:au,(df a l).sum≤cS 0 a l+(jT (gy a q l)).sum
 |[]=>fW _
 |x::t=>by
  have ih:=En (a:=a) hq t
  have e1:cS 0 a (x::t)=(if dD x.1 0∧dD x.2.1 a then dT x else 0)+cS 0 a t:=jS 0 a x t
  have e2:(jT (gy a q (x::t))).sum=(if ¬dD x.1 0∧dD x.2.1 a∧JL (dT x) q then((dT x).natAbs:Int)else 0)+(jT (gy a q t)).sum:=by
   rw[sA]
   split
   ·show(((dT x).natAbs:Int)::jT (gy a q t)).sum=_
    rw[cE]
   ·omega
  have e3:(df a (x::t)).sum=(if dD x.2.1 a then dT x else 0)+(df a t).sum:=by
   rw[dx]
   by_cases h:x.2.1=a
   ·rw[aj h,aj (show dD x.2.1 a from h),cE]
   ·rw[ah h,ah (show ¬dD x.2.1 a from h)];omega
  rw[e1,e2,e3]
  exact Px Iff.rfl hq ih
theorem SD{a q:Int}{l:au}(hs:so (l.map keyOf))(hf:(df a l).sum=0)(hq:gR 0 a l=q)(h0:q≠0):(q.natAbs:Int)≤(jT (gy a q l)).sum:=by
 rw[nB hs]at hq
 by_cases h:0<q
 ·have:=Em (a:=a) h l
  rw[hf,hq]at this;omega
 ·have:=En (a:=a) (q:=q) ω l
  rw[hf,hq]at this;omega
theorem Zz{t left:Int}{w out:List Int}(f:Full t w w out left)(h:t≤w.sum):left=0:=by
 have c:=f.c
 rcases f.f with e|e
 ·exact e
 ·have TK:w.sum≤out.sum:=yL (by rw[c.l2]) λi hi=>by
   have h1:=e i hi
   have h2:=iK c.pw i
   have h3:=c.po i
   by_cases h4:0<w.getD i 0
   ·have: ¬out.getD i 0<w.getD i 0:=λh5=>h1 ⟨h4,h5⟩
    omega
   ·omega
  have:=c.s
  have:=c.l
  omega
def sg(q x:Int):Int:=if q<0 then 0-x else x
def zc(a q:Int):List (Int×Int)→au
 |[]=>[]
 |p::t=>if sg q p.1=0 then zc a q t else(p.2,(a,(sg q p.1,())))::zc a q t
theorem FG(a q:Int)(p:Int×Int)(t:List (Int×Int)):zc a q (p::t)=if sg q p.1=0 then zc a q t else(p.2,(a,(sg q p.1,())))::zc a q t:=rfl
def kK(l:au)(a q:Int):List Int×Int×Int:=tJ (q.natAbs:Int) (jT (gy a q l)) (jT (gy a q l))
def acV(l:au)(a q:Int):au:=((0:Int),(a,((0-q:Int),())))::zc a q ((kK l a q).1.zip (zr (gy a q l)))
def vS(c:ae)(b:an)(a:Int):au×Int:=
 if dg c b then(if a<0 then([],3)else if(c.1.length:Int)≤a then([],3)else if gj b.2.2.2.1 0 a=0 then([],0)else
  if(kK b.2.2.2.1 a (gj b.2.2.2.1 0 a)).2.2=0 then(acV b.2.2.2.1 a (gj b.2.2.2.1 0 a),0)else([],(kK b.2.2.2.1 a (gj b.2.2.2.1 0 a)).2.2))else([],1)
theorem HX{t:Int}{w caps:List Int}(wL:t<9223372036854775808)(hc:KJ caps)(hx:(tJ t w caps).2.2=0):Full t w caps (tJ t w caps).1 (tJ t w caps).2.1:=by
 unfold tJ at*
 by_cases h1:t<0∨may w=false∨caps.length≠w.length∨may caps=false
 ·rw[aj h1]at hx;exact absurd hx δ
 ·rw[ah h1]at hx ⊢
  by_cases h2:9223372036854775808≤w.sum
  ·rw[aj h2]at hx;exact absurd hx δ
  ·rw[ah h2]
   have h3:may w=true:=by cases h:may w<;>simp_all
   have h4:may caps=true:=by cases h:may caps<;>simp_all
   have h5:caps.length=w.length:=Nx λh=>h1 (Or.inr (Or.inr (Or.inl h)))
   exact Pu _ _ _ (KU ω wL h3 h4 h5 hc ω) (Or.inl (by have:=Zw w caps (List.replicate w.length 0);omega))
theorem C9{l:au}(h: ∀x∈l,aF (dT x)∧qQ (dT x))(a q:Int):KJ (jT (gy a q l)):=λz hz=>by
 obtain⟨x,hx,rfl⟩:=cW.1 hz
 have:=h x (uO hx).1
 have g: ∀v:Int,aF v∧qQ v→ -9223372036854775808≤(v.natAbs:Int)∧(v.natAbs:Int)<9223372036854775808:=λv hv=>by unfold aF qQ at hv;omega
 exact g _ this
theorem ZA{out accs:List Int}{i:Nat}(h1:i<out.length)(h2:i<accs.length):(out.zip accs).getD i (0,0)=(out.getD i 0,accs.getD i 0):=by
 rw[aV,bm (by rw[wY];omega),List.getElem_zip,aV,bm h1,aV,bm h2];rfl
end VM
end
section
namespace VM
open Go VM.F
variable(N:Nat)
theorem Mu{c:ae}{b:an}(h:dg c b=true): ∀x∈b.2.2.2.1,Ml x.2.1 c.1.length:=λx hx=>by
 have hk:=(eS h).2
 have h0:=(dW hk).2 x hx
 unfold dg at h
 simp only[bM]at h
 have h1:=bt h.2.2.2.2.2.2.2.2.1
 obtain⟨i,hi,e⟩:=gE hx
 have h2:=h1 i hi
 unfold jQ at h2
 rw[aV,bm hi]at h2
 simp only[nO,e]at h2
 have g: ∀u v:Int,cj u v→lI v c.1.length→Ml v c.1.length:=λu v h1 h2=>by unfold cj at h1;unfold lI at h2;unfold Ml;omega
 exact g _ _ h0.1 h2.2
end VM
end
section
namespace VM
open Go VM.F
variable(N:Nat)
theorem acW{x:Int}(h:cR x)(hx:x≠ -170141183460469231731687303715884105728):acX N (cL x)=some (cL (-x),true):=by
 unfold acX SE cL
 unfold cR at h
 dsimp only
 have hp:0≤x%18446744073709551616∧x%18446744073709551616<18446744073709551616:=ω
 have hh: -9223372036854775808≤x/18446744073709551616∧x/18446744073709551616<9223372036854775808:=ω
 rw[pQ,pQ,mF N ω ω ω ω ω ω,ar]
 dsimp only
 have hb:(0:Int)≤(if(0:Int)<x%18446744073709551616+0 then 1 else 0)∧(if(0:Int)<x%18446744073709551616+0 then(1:Int)else 0)≤1:=by split<;>omega
 rw[mF N ω ω ω ω hb.1 hb.2,ar]
 dsimp only
 have key: ∀{z:bS},z=cL (-x)→((some (z,true):Option (bS×Bool)).bind λr1=>some (r1.1,r1.2))=some (cL (-x),true):=λe=>by rw[e];rfl
 have e3:W .i64 ((0%18446744073709551616-x/18446744073709551616%18446744073709551616-(if(0:Int)<x%18446744073709551616+0 then 1 else 0))%18446744073709551616)=(-x)/18446744073709551616:=by
  by_cases h0:x%18446744073709551616=0
  ·rw[ah (show ¬(0:Int)<x%18446744073709551616+0 by omega),gF];split<;>omega
  ·rw[aj (show(0:Int)<x%18446744073709551616+0 by omega),gF];split<;>omega
 have e1:(0-x%18446744073709551616-0)%18446744073709551616=(-x)%18446744073709551616:=ω
 rw[e3,e1]
 simp only[pR,qd]
 by_cases a:x/18446744073709551616<0
 ·have c: ¬(-x)/18446744073709551616<0:=ω
  rw[bx (show ¬(0:Int)<0 by omega),aU a,bx c]
  exact key rfl
 ·rw[bx (show ¬(0:Int)<0 by omega),bx a]
  exact key rfl
theorem Uw{x:Int}(h:cR x)(hx:x≠ -170141183460469231731687303715884105728):SF N (cL x)=some (cL (x.natAbs:Int),true):=by
 unfold SF
 have e:(cL x).1=x/18446744073709551616:=rfl
 rw[e]
 by_cases h0:x<0
 ·rw[aR (show x/18446744073709551616<0 by omega),ak,acW N h hx,ar,show(x.natAbs:Int)= -x by omega]
 ·rw[aP (show 0≤x/18446744073709551616 by omega),av,show(x.natAbs:Int)=x by omega]
theorem Eo{k:Int}: ∀{i:Nat} {l:aO},ot k i l≠[]→(i:Int)≤(ot k i l).getD 0 0∧(ot k i l).getD 0 0<((i+l.length:Nat):Int)
 |i,[],h=>absurd rfl h
 |i,y::t,h=>by
  rw[BO]at h ⊢
  by_cases e:y.1=k
  ·rw[aj e,aT]
   show(i:Int)≤(i:Int)∧(i:Int)<_
   omega
  ·rw[ah e]at h ⊢
   have:=Eo h
   rw[aT];omega
def ap3(c:ae):Int:=c.2.2.2.2.2.2.1
end VM
end
section
namespace VM
open Go VM.F
variable(N:Nat)
end VM
end
section
namespace VM
open Go VM.F
variable(N:Nat)
def Py(x:fZ)(z:Int×Int):Int×Int:=if x.2.2.2.1=1 then(z.1+x.2.2.2.2.1,z.2)else(z.1,z.2+x.2.2.2.2.1)
def bsL(a k:Int):aY→Int×Int→Int×Int
 |[],z=>z
 |x::t,z=>bsL a k t (if x.2.1=a∧x.2.2.1=k then Py x z else z)
theorem HY(a k:Int)(x:fZ)(t:aY)(z:Int×Int):bsL a k (x::t) z=bsL a k t (if x.2.1=a∧x.2.2.1=k then Py x z else z):=rfl
def nz(i:Int)(z:Int×Int):dd:=(i,(z.1,(z.2,())))
def Ux(f:Int→Int×Int):Nat→Nat→au
 |0,_=>[]
 |m+1,k=>if 0<(f (k:Int)).1+(f (k:Int)).2 then nz (k:Int) (f (k:Int))::Ux f m (k+1)else Ux f m (k+1)
theorem xP(f:Int→Int×Int)(m k:Nat):Ux f (m+1) k=if 0<(f (k:Int)).1+(f (k:Int)).2 then nz (k:Int) (f (k:Int))::Ux f m (k+1)else Ux f m (k+1):=rfl
def Xs(l:aY)(a k:Int):Int×Int:=bsL a k l (0,0)
def qW(l:aY)(a:Int):au:=Ux (Xs l a) 6 0
theorem Uy(f:Int→Int×Int): ∀m k,(Ux f m k).length≤m
 |0,_=>aH _
 |m+1,k=>by
  rw[xP]
  have:=Uy f m (k+1)
  split
  ·rw[aT];omega
  ·omega
theorem ZB(f:Int→Int×Int): ∀m k,∀x∈Ux f m k,(k:Int)≤x.1
 |0,_,x,hx=>nomatch hx
 |m+1,k,x,hx=>by
  rw[xP]at hx
  have ih:=ZB f m (k+1) x
  split at hx
  ·rcases a8.1 hx with rfl|hx
   ·exact fW _
   ·have:=ih hx;omega
  ·have:=ih hx;omega
def ZC(l:aY):Prop:= ∀x∈l,1≤x.2.2.2.2.1∧x.2.2.2.2.1≤1000000000
theorem Uz{l:aY}(h:ZC l){i:Nat}(hi:i<l.length):1≤(l.getD i eC).2.2.2.2.1∧(l.getD i eC).2.2.2.2.1≤1000000000:=h _ (by
 rw[aV,bm hi];exact dJ hi)
def HZ(z:Int×Int)(n:Nat):Prop:=0≤z.1∧z.1≤1000000000*(n:Int)∧0≤z.2∧z.2≤1000000000*(n:Int)
theorem UA{x:fZ}{z:Int×Int}{n:Nat}(hq:1≤x.2.2.2.2.1∧x.2.2.2.2.1≤1000000000)(h:HZ z n):HZ (Py x z) (n+1):=by
 have g: ∀q:Int,1≤q∧q≤1000000000→HZ (z.1+q,z.2) (n+1)∧HZ (z.1,z.2+q) (n+1):=λq hq=>by unfold HZ at*;dsimp only;omega
 have gx:=g _ hq
 unfold Py
 split
 ·exact gx.1
 ·exact gx.2
theorem HZ.mono{z:Int×Int}{n m:Nat}(h:HZ z n)(hm:n≤m):HZ z m:=by unfold HZ at*;omega
theorem ZD{a k:Int}: ∀{l:aY} {z:Int×Int} {n:Nat},ZC l→HZ z n→HZ (bsL a k l z) (n+l.length)
 |[],z,n,_,h=>h
 |x::t,z,n,hq,h=>by
  have hx:=hq x (bs ..)
  rw[HY,aT,show n+(t.length+1)=n+1+t.length by omega]
  refine ZD (λy hy=>hq y (aZ _ hy)) ?_
  split
  ·exact UA hx h
  ·exact HZ.mono h ω
theorem UB{l:aY}(h:ZC l)(a k:Int):HZ (Xs l a k) l.length:=by
 have:=ZD (a:=a) (k:=k) (z:=(0,0)) (n:=0) h (by unfold HZ;dsimp only;omega)
 rw[gn]at this;exact this
theorem Pz{l:aY}(h:dm l=true):ZC l∧l.length≤32:=by
 unfold dm at h
 rw[bM]at h
 refine⟨λx hx=> ?_,bt h.2⟩
 obtain⟨i,hi,e⟩:=gE hx
 have:=bt h.1 i hi
 unfold tx at this
 have h1:=this.1
 rw[aV,bm hi,nO,e]at h1
 unfold qE at h1
 exact h1.2.2.2.2.1
theorem akZ{x:fZ}{z:Int×Int}{n:Nat}(hn:n≤1000)(hq:1≤x.2.2.2.2.1∧x.2.2.2.2.1≤1000000000)(hz:HZ z n)(k:Int):
  (x.2.2.2.1=1→((k,(W .i64 (z.1+x.2.2.2.2.1),(z.2,()))):dd)=nz k (Py x z))∧(¬x.2.2.2.1=1→((k,(z.1,(W .i64 (z.2+x.2.2.2.2.1),()))):dd)=nz k (Py x z)):=by
 have g: ∀q:Int,1≤q∧q≤1000000000→W .i64 (z.1+q)=z.1+q∧W .i64 (z.2+q)=z.2+q:=λq hq=>by
  unfold HZ at hz
  exact⟨aw ω ω,aw ω ω⟩
 have gx:=g _ hq
 unfold Py nz
 exact⟨λh=>by rw[gx.1,aj h],λh=>by rw[gx.2,ah h]⟩
theorem PA{F:dd→Option au}{G:Nat→dd→Int→Option au}(l:aY)(a k:Int)(hq:ZC l)(hl:l.length≤1000)(hN:l.length<N)
  (hs: ∀n i z r,i<l.length→HZ z i→G n (nz k (if(l.getD i eC).2.1=a∧(l.getD i eC).2.2.1=k then Py (l.getD i eC) z else z)) ((i+1:Nat):Int)=r→G (n+1) (nz k z) (i:Int)=r)
  (he: ∀n z,HZ z l.length→G (n+1) (nz k z) (l.length:Int)=F (nz k z)):G N (nz k (0,0)) 0=F (nz k (Xs l a k)):=by
 have:=n0 l eC (λn i (z:Int×Int)=>G n (nz k z) i) (λt z=>F (nz k (bsL a k t z))) (λi z=>HZ z i) (λn i z hi hz hr=> ?_) (λn z hz=>he n z hz) l.length N 0 (0,0) ω hN ω (by unfold HZ;decide)
 ·exact this
 ·rw[HY]
  refine hs n i z _ hi hz (hr _ ?_)
  split
  ·exact UA (Uz hq hi) hz
  ·exact HZ.mono hz ω
theorem Ep{F:Nat→au→Int→Option au}(f:Int→Int×Int)
  (hs: ∀(n k:Nat) (out:au) (r:Option au),k<6→out.length≤k→F n (if 0<(f (k:Int)).1+(f (k:Int)).2 then out++[nz (k:Int) (f (k:Int))]else out) ((k+1:Nat):Int)=r→F (n+1) out (k:Int)=r)
  (he: ∀n out,F (n+1) out 6=some out): ∀(m n k:Nat) (out:au),k+m=6→m<n→out.length≤k→F n out (k:Int)=some (out++Ux f m k)
 |_,0,_,_,_,hn,_=>ω
 |0,n+1,k,out,hk,_,_=>by
  have:k=6:=ω
  subst this
  rw[show Ux f 0 6=[]from rfl,cw]
  exact he n out
 |m+1,n+1,k,out,hk,hn,ho=>by
  refine hs n k out _ ω ho ?_
  rw[Ep f hs he m n (k+1) _ ω ω (by
   split
   ·rw[aS,aJ];omega
   ·omega),xP]
  split
  ·rw[bE];rfl
  ·rfl
theorem ZE(hN:200000≤N){l:aY}(hl:l.length≤100000)(a:Int):rz N l a=some (if dm l then qW l a else []):=by
 unfold rz rz.b
 rw[CN N hl hN,ar]
 by_cases h:dm l=false
 ·rw[h];rfl
 rw[rF]at h
 rw[h,bl,av,aj rfl]
 obtain⟨hq,h32⟩:=Pz h
 refine Ep (F:=λn out k=>rz.l5 N n l a out k) (Xs l a) (λn k out r hk ho hr=> ?_) (λn out=> ?_) 6 N 0 [] ω ω (aH _)
 ·unfold rz.l5 rz.eo
  rw[aR ω,ak]
  refine(PA N (G:=λn' x i=>rz.l9 N (rz.l5 N n) n' l a out (k:Int) x (k:Int) l (l.length:Int) i) (F:=λx=>cond (aX 0 (W .i64 (x.2.1+x.2.2.1))) (cond (small (out.length+[x].length)) (rz.l5 N n l a (out++[x]) (W .i64 ((k:Int)+1))) none) (rz.l5 N n l a out (W .i64 ((k:Int)+1)))) l a (k:Int) hq ω ω (λn' i z r' hi hz eQ=> ?_) (λn' z hz=> ?_)).trans ?_
  ·unfold rz.l9 rz.vz
   rw[aR ω,ak,aW ω ω,ak,aI,cond_not,aM,cond_not,aM,aM,aw (x:=(i:Int)+1) ω ω,af i]
   have hw:=akZ (n:=i) ω (Uz hq hi) hz (k:Int)
   by_cases h1:(l.getD i eC).2.1=a
   ·rw[aj h1]
    by_cases h2:(l.getD i eC).2.2.1=(k:Int)
    ·rw[aj ⟨h1,h2⟩]at eQ
     rw[aj h2]
     by_cases h3:(l.getD i eC).2.2.2.1=1
     ·rw[aj h3,←eQ,←hw.1 h3];rfl
     ·rw[ah h3,←eQ,←hw.2 h3];rfl
    ·rw[ah (λh=>h2 h.2)]at eQ
     rw[ah h2];exact eQ
   ·rw[ah (λh=>h1 h.1)]at eQ
    rw[ah h1];exact eQ
  ·unfold rz.l9 rz.vz
   rw[aP ω,av]
  ·have hz:=UB hq a (k:Int)
   unfold HZ at hz
   show cond (aX 0 (W .i64 ((Xs l a (k:Int)).1+(Xs l a (k:Int)).2))) _ _=r
   rw[aw (x:=(Xs l a (k:Int)).1+(Xs l a (k:Int)).2) ω ω,cA,bY (by rw[aJ];omega),ak,aw (x:=(k:Int)+1) ω ω,af k,←hr]
   split<;>rfl
 ·unfold rz.l5 rz.eo
  rw[aP ω,av]
def Xt(z:Int×Int):Prop:=0≤z.1∧z.1≤33000000000∧0≤z.2∧z.2≤33000000000
def FH(a b s n:Int)(i:Nat)(p:Int):Prop:=0≤a∧a<n∧0≤b∧b≤33000000000∧0≤s∧s≤33000000000∧(b=0→s≠0)∧(0<i→p<a)
instance(a b s n:Int)(i:Nat)(p:Int):Decidable (FH a b s n i p):=by unfold FH;infer_instance
def xQ(c:ae)(l:au)(i:Nat):Prop:=FH (l.getD i bc).1 (l.getD i bc).2.1 (l.getD i bc).2.2.1 c.1.length i (l.getD (i-1) bc).1
instance(c:ae)(l:au):DecidablePred (xQ c l):=λi=>by unfold xQ;infer_instance
def kL(c:ae)(l:au):Bool:=decide (∀j,j<l.length→xQ c l j)&&eR c
def KW(k:Int):aE→Int→Int
 |[],z=>z
 |x::t,z=>KW k t (if x.1=k then x.2.1 else z)
theorem H4(k:Int)(x:Bx)(t:aE)(z:Int):KW k (x::t) z=KW k t (if x.1=k then x.2.1 else z):=rfl
def Er(k:Int):au→Int×Int→Int×Int
 |[],z=>z
 |x::t,z=>Er k t (if x.1=k then(x.2.1,x.2.2.1)else z)
theorem H5(k:Int)(x:dd)(t:au)(z:Int×Int):Er k (x::t) z=Er k t (if x.1=k then(x.2.1,x.2.2.1)else z):=rfl
theorem PC(k:Int): ∀{l:aE} {z:Int},(∀y∈l,aF y.2.1)→aF z→aF (KW k l z)
 |[],z,_,h=>h
 |x::t,z,hl,h=>by
  rw[H4]
  refine PC k (λy hy=>hl y (aZ _ hy)) ?_
  split
  ·exact hl x (bs ..)
  ·exact h
theorem PD(k:Int): ∀{l:au} {z:Int×Int},(∀x∈l,Xt (x.2.1,x.2.2.1))→Xt z→Xt (Er k l z)
 |[],z,_,h=>h
 |x::t,z,hl,h=>by
  rw[H5]
  refine PD k (λy hy=>hl y (aZ _ hy)) ?_
  split
  ·exact hl x (bs ..)
  ·exact h
theorem UC{c:ae}{l:au}(h:kL c l=true): ∀x∈l,Xt (x.2.1,x.2.2.1):=λx hx=>by
 unfold kL at h
 rw[bM]at h
 obtain⟨i,hi,e⟩:=gE hx
 have h1:=bt h.1 i hi
 unfold xQ at h1
 rw[aV,bm hi,nO,e]at h1
 unfold FH at h1
 exact⟨h1.2.2.1,h1.2.2.2.1,h1.2.2.2.2.1,h1.2.2.2.2.2.1⟩
def Mv(q:Int)(z:Int×Int):Int:=if((q+z.1).natAbs:Int)<((q-z.2).natAbs:Int)then((q-z.2).natAbs:Int)else((q+z.1).natAbs:Int)
theorem ZF{q:Int}{z:Int×Int}(hq:aF q)(hz:Xt z):0≤Mv q z∧Mv q z≤9223372069854775808:=by
 unfold Mv Xt aF at*
 split<;>omega
def BT(l:aE)(o:au)(k:Int):Int:=Mv (KW k l 0) (Er k o (0,0))
def PE(c:ae)(l:aE)(o:au)(k:Int):Int×Int:=
 if o6 c l&&kL c o then(if 0≤k∧k<(c.1.length:Int)then(BT l o k,0)else(0,3))else(0,1)
theorem H6{c:ae}{l:aE}{o:au}(ho:kL c o=true)(nJ: ∀y∈l,aF y.2.1)(k:Int):0≤BT l o k∧BT l o k≤9223372069854775808:=
 ZF (PC k nJ (show aF 0 by unfold aF;omega)) (PD k (UC ho) (by unfold Xt;decide))
def pb(c:ae)(i:Nat):Int:=(c.1.getD i ba).2.2.1
theorem Mw{c:ae}(h:eR c=true){i:Nat}(hi:i<c.1.length):0≤pb c i∧pb c i≤1000000000:=by
 unfold eR at h
 simp only[bM]at h
 have:=bt h.2.1 i hi
 unfold qo n6 at this
 exact this.2.2.1
def qX(c:ae)(l:aE)(o:au):Nat→Int
 |0=>0
 |n+1=>qX c l o n+BT l o (n:Int)*pb c n
def vT(c:ae)(l:aE)(o:au):Nat→List Int
 |0=>[]
 |n+1=>vT c l o n++[BT l o (n:Int)*pb c n]
theorem H7(c:ae)(l:aE)(o:au): ∀n,(vT c l o n).sum=qX c l o n
 |0=>rfl
 |n+1=>by
  show(vT c l o n++[BT l o (n:Int)*pb c n]).sum=qX c l o n+BT l o (n:Int)*pb c n
  rw[kQ,H7 c l o n,cE,jo,jM]
theorem z6(c:ae)(l:aE)(o:au): ∀n,(vT c l o n).length=n
 |0=>rfl
 |n+1=>by
  show(vT c l o n++[BT l o (n:Int)*pb c n]).length=n+1
  rw[aS,z6 c l o n];rfl
def yM(c:ae)(l:aE)(o:au):Int×Int:=
 if o6 c l&&kL c o then(qX c l o c.1.length,0)else(0,1)
theorem My{a b:Int}(ha:0≤a∧a≤9223372069854775808)(hb:0≤b∧b≤1000000000):0≤a*b∧a*b≤9223372069854775808000000000:=
 ⟨uk ha.1 hb.1,gO (Int.mul_le_mul ha.2 hb.2 hb.1 δ) δ⟩
theorem KX{c:ae}{l:aE}{o:au}(hp:eR c=true)(ho:kL c o=true)(nJ: ∀y∈l,aF y.2.1): ∀n,n≤c.1.length→0≤qX c l o n∧qX c l o n≤9223372069854775808000000000*(n:Int)
 |0,_=>⟨fW _,fW _⟩
 |n+1,hn=>by
  have ih:=KX hp ho nJ n ω
  have h1:=My (H6 ho nJ (n:Int)) (Mw hp (i:=n) ω)
  show 0≤qX c l o n+BT l o (n:Int)*pb c n∧qX c l o n+BT l o (n:Int)*pb c n≤_
  omega
theorem vU{c:ae}{l:au}(h:kL c l=true):eR c=true:=by
 unfold kL at h
 rw[bM]at h;exact h.2
theorem ZG{c:ae}(h:eR c=true):c.1.length≤6:=by
 unfold eR at h
 simp only[bM]at h
 exact(bt h.1).2
theorem ap4{P:Prop} [Decidable P]{a b s n p:Int}{r:Option Bool}(h:P↔0≤a∧a<n∧0≤b∧b≤33000000000∧0≤s∧s≤33000000000∧(b=0→s≠0)∧p<a):
  (if a<0 then some false else if n≤a then some false else if b<0 then some false else if 33000000000<b then some false else if s<0 then some false else if 33000000000<s then some false else
   if b=0 then(if s=0 then some false else if a≤p then some false else r)else if a≤p then some false else r)=if P then r else some false:=by
 by_cases hP:P
 ·have:=h.1 hP
  rw[aj hP,ah ω,ah ω,ah ω,ah ω,ah ω,ah ω]
  split
  ·rw[ah ω,ah ω]
  ·rw[ah ω]
 ·rw[ah hP]
  have h2:=λh1 h2 h3 h4 h5 h6 h7 h8=>hP (h.2 ⟨h1,h2,h3,h4,h5,h6,h7,h8⟩)
  repeat' split
  all_goals first|rfl|(exfalso;exact h2 ω ω ω ω ω ω ω ω)
theorem ap5{P:Prop} [Decidable P]{a b s n:Int}{r:Option Bool}(h:P↔0≤a∧a<n∧0≤b∧b≤33000000000∧0≤s∧s≤33000000000∧(b=0→s≠0)):
  (if a<0 then some false else if n≤a then some false else if b<0 then some false else if 33000000000<b then some false else if s<0 then some false else if 33000000000<s then some false else
   if b=0 then(if s=0 then some false else r)else r)=if P then r else some false:=by
 by_cases hP:P
 ·have:=h.1 hP
  rw[aj hP,ah ω,ah ω,ah ω,ah ω,ah ω,ah ω]
  split
  ·rw[ah ω]
  ·rfl
 ·rw[ah hP]
  have h2:=λh1 h2 h3 h4 h5 h6 h7=>hP (h.2 ⟨h1,h2,h3,h4,h5,h6,h7⟩)
  repeat' split
  all_goals first|rfl|(exfalso;exact h2 ω ω ω ω ω ω ω)
theorem SG{c:ae}{l:au}{i:Nat}(h:0<i):xQ c l i↔0≤(l.getD i bc).1∧(l.getD i bc).1<(c.1.length:Int)∧0≤(l.getD i bc).2.1∧(l.getD i bc).2.1≤33000000000∧0≤(l.getD i bc).2.2.1∧(l.getD i bc).2.2.1≤33000000000∧((l.getD i bc).2.1=0→(l.getD i bc).2.2.1≠0)∧(l.getD (i-1) bc).1<(l.getD i bc).1:=
 ⟨λ⟨a,b,c,d,e,f,g,k⟩=>⟨a,b,c,d,e,f,g,k h⟩,λ⟨a,b,c,d,e,f,g,k⟩=>⟨a,b,c,d,e,f,g,λ_=>k⟩⟩
theorem PF{c:ae}{l:au}{i:Nat}(h: ¬0<i):xQ c l i↔0≤(l.getD i bc).1∧(l.getD i bc).1<(c.1.length:Int)∧0≤(l.getD i bc).2.1∧(l.getD i bc).2.1≤33000000000∧0≤(l.getD i bc).2.2.1∧(l.getD i bc).2.2.1≤33000000000∧((l.getD i bc).2.1=0→(l.getD i bc).2.2.1≠0):=
 ⟨λ⟨a,b,c,d,e,f,g,_⟩=>⟨a,b,c,d,e,f,g⟩,λ⟨a,b,c,d,e,f,g⟩=>⟨a,b,c,d,e,f,g,λk=>absurd k h⟩⟩
theorem KY(hN:200000≤N)(c:ae){l:au}(hl:l.length≤100000):p4 N c l=some (kL c l):=by
 unfold p4 p4.b
 refine iH (F:=λn i=>p4.l2 N n l c l (l.length:Int) i) (xQ c l) (λn i r hi hp hr=> ?_) (λn=> ?_) N ω
 ·unfold p4.l2 p4.fM
  rw[aR ω,ak,aW ω ω,ak,aI,aw (x:=(i:Int)+1) ω ω,af,hr]
  by_cases h0:0<i
  ·have e:W .i64 ((i:Int)-1)=((i-1:Nat):Int):=by rw[aw ω ω];omega
   dsimp only
   rw[aR (x:=0) (y:=(i:Int)) ω,e,aI,aW (i:=((i-1:Nat):Int)) ω ω]
   simp only[cA,cB,aM,ak]
   have hg:=SG h0 (c:=c) (l:=l)
   exact ap4 hg
  ·rw[aP (x:=0) (y:=(i:Int)) ω]
   simp only[cA,cB,aM,ak,av]
   have hg:=PF h0 (c:=c) (l:=l)
   exact ap5 hg
 ·unfold p4.l2 p4.fM
  rw[aP ω,av,FA N ω,ar]
theorem acY{u v:Int}(hu:cR u)(hv:cR v)(hs:cR (u-v)):SE N (cL u) (cL v)=some (cL (u-v),true):=by
 unfold SE cL
 unfold cR at*
 dsimp only
 have hp:0≤u%18446744073709551616∧u%18446744073709551616<18446744073709551616:=ω
 have hq:0≤v%18446744073709551616∧v%18446744073709551616<18446744073709551616:=ω
 rw[pQ,pQ,mF N ω ω ω ω ω ω,ar]
 dsimp only
 have hb:(0:Int)≤(if u%18446744073709551616<v%18446744073709551616+0 then 1 else 0)∧(if u%18446744073709551616<v%18446744073709551616+0 then(1:Int)else 0)≤1:=by split<;>omega
 rw[mF N ω ω ω ω hb.1 hb.2,ar]
 dsimp only
 have e3:W .i64 ((u/18446744073709551616%18446744073709551616-v/18446744073709551616%18446744073709551616-(if u%18446744073709551616<v%18446744073709551616+0 then 1 else 0))%18446744073709551616)=(u-v)/18446744073709551616:=by
  by_cases h0:u%18446744073709551616<v%18446744073709551616+0
  ·rw[aj h0,gF];split<;>omega
  ·rw[ah h0,gF];split<;>omega
 have e1:(u%18446744073709551616-v%18446744073709551616-0)%18446744073709551616=(u-v)%18446744073709551616:=ω
 rw[e3,e1]
 have key: ∀A B C:Int,A=u/18446744073709551616→B=v/18446744073709551616→C=(u-v)/18446744073709551616→(A<0∧ ¬B<0→C<0)∧(¬A<0∧B<0→ ¬C<0):=λA B C _ _ _=>ω
 have k:=key _ _ _ rfl rfl rfl
 simp only[pR,qd]
 by_cases a:u/18446744073709551616<0<;>by_cases b:v/18446744073709551616<0
 ·rw[aU a,aU b];rfl
 ·have c:=k.1 ⟨a,b⟩
  rw[aU a,bx b,aU c];rfl
 ·have c:=k.2 ⟨a,b⟩
  rw[bx a,aU b,bx c];rfl
 ·rw[bx a,bx b];rfl
theorem Wp{v k:Int}(hv:0≤v∧v≤9223372069854775808)(hk:0≤k∧k≤1000000000):acZ N (cL v) k=some (cL (v*k),true):=by
 unfold acZ
 have hm:=My hv hk
 have h0:v/18446744073709551616=0:=ω
 have h1:v%18446744073709551616=v:=ω
 rw[YR N ω ω,ar,L0 N ω ω,ar,show(v.natAbs:Int)=v by omega,show(k.natAbs:Int)=k by omega,h0,h1]
 dsimp only
 rw[Ha N ω ω ω ω,ar,Ha N ω ω ω ω,ar,Gi]
 dsimp only
 have e:cL v=((0:Int),(v,())):=by unfold cL;rw[h0,h1]
 generalize v*k=m at*
 rw[xy N ω ω ω ω,ar,e]
 dsimp only
 have e1:(0%18446744073709551616+m/18446744073709551616+0)%18446744073709551616=m/18446744073709551616:=ω
 have e2:(0/18446744073709551616:Int)+(0%18446744073709551616+m/18446744073709551616+0)/18446744073709551616=0:=ω
 rw[e1,e2,eB (x:=0) ω ω,ec,bl,av,aP (x:=0) ω,aP (x:=k) ω,pR]
 show(qP N false _ _).bind _=_
 rw[zO N ω ω ω ω,ar,show m/18446744073709551616*18446744073709551616+m%18446744073709551616=m by omega]
theorem ac0{q:Int}{z:Int×Int}(hq:aF q)(hz:Xt z):((OS N q).bind λr9=>(OS N z.1).bind λkM=>(Zq N r9 kM).bind λnL=>(OS N q).bind λoQ=>(OS N z.2).bind λp5=>(SE N oQ p5).bind λtZ=>(SF N nL.1).bind λwk=>(SF N tZ.1).bind λwH=>(F85 N wk.1 wH.1).bind λxR=>cond (aX xR 0) (some (wH.1,(0:Int))) (some (wk.1,(0:Int))))=some (cL (Mv q z),0):=by
 unfold aF Xt at*
 have a1:cR q∧cR z.1∧cR z.2∧cR (q+z.1)∧cR (q-z.2):=by unfold cR;omega
 rw[vA N hq.1 hq.2,ar,vA N ω ω,ar,acQ N a1.1 a1.2.1 a1.2.2.2.1,ar,ar,vA N ω ω,ar,acY N a1.1 a1.2.2.1 a1.2.2.2.2,ar,Uw N a1.2.2.2.1 ω,ar,Uw N a1.2.2.2.2 ω,ar,Ud,ar,cA]
 unfold Mv
 have hs:wN (((q+z.1).natAbs:Int)-((q-z.2).natAbs:Int))<0↔((q+z.1).natAbs:Int)<((q-z.2).natAbs:Int):=by
  unfold wN;split<;>(try split)<;>omega
 by_cases h:((q+z.1).natAbs:Int)<((q-z.2).natAbs:Int)
 ·rw[aj h,aj (hs.2 h)]
 ·rw[ah h,ah (λk=>h (hs.1 k))]
theorem Wq(hN:200000≤N){o:au}(Cg:o.length≤100000)(ho: ∀x∈o,Xt (x.2.1,x.2.2.1))(k:Int){q:Int}(hq:aF q):iV.mw N N k c8 q 0 0 o (o.length:Int) 0=some (cL (Mv q (Er k o (0,0))),0):=by
 have:=n0 o bc (λn i (z:Int×Int)=>iV.mw N n k c8 q z.1 z.2 o (o.length:Int) i) (λt z=>some (cL (Mv q (Er k t z)),(0:Int))) (λi z=>Xt z) (λn i z hi hz hr=> ?_) (λn z hz=> ?_) o.length N 0 (0,0) ω ω ω (by unfold Xt;decide)
 ·exact this
 ·unfold iV.mw iV.lz
  rw[aR ω,ak,aW ω ω,ak,aI,aw (x:=(i:Int)+1) ω ω,af i,aM,H5]
  by_cases h:(o.getD i bc).1=k
  ·rw[aj h,aj h]
   exact hr ((o.getD i bc).2.1,(o.getD i bc).2.2.1) (ho _ (by rw[aV,bm hi];exact dJ hi))
  ·rw[ah h,ah h]
   exact hr z hz
 ·unfold iV.mw iV.lz
  rw[aP ω,av]
  exact ac0 N hq hz
theorem ak0(hN:200000≤N)(c:ae){l:aE}(hl:l.length≤100000)(nJ: ∀y∈l,aF y.2.1){o:au}(Cg:o.length≤100000)(k:Int):iV N c l o k=some (cL (PE c l o k).1,(PE c l o k).2):=by
 unfold iV iV.b PE
 rw[Ue N hN c hl,ar,cond_not,KY N hN c Cg,ar,cond_not,cA,cB]
 cases h1:o6 c l with
 |false=>rfl
 |true=>
  cases h2:kL c o with
  |false=>rfl
  |true=>
   rw[ak,ak,fu,aj rfl]
   by_cases h3:0≤k∧k<(c.1.length:Int)
   ·rw[aj h3,ah ω,ah ω]
    have:=n0 l c8 (λn i (q:Int)=>iV.l7 N n o k c8 q 0 0 l (l.length:Int) i) (λt q=>some (cL (Mv (KW k t q) (Er k o (0,0))),(0:Int))) (λi q=>aF q) (λn i q hi hq hr=> ?_) (λn q hq=> ?_) l.length N 0 0 ω ω ω (by unfold aF;omega)
    ·exact this
    ·unfold iV.l7 iV.oJ
     rw[aR ω,ak,aW ω ω,ak,aI,aw (x:=(i:Int)+1) ω ω,af i,aM,H4]
     by_cases h:(l.getD i c8).1=k
     ·rw[aj h,aj h]
      exact hr _ (nJ _ (by rw[aV,bm hi];exact dJ hi))
     ·rw[ah h,ah h]
      exact hr q hq
    ·unfold iV.l7 iV.oJ
     rw[aP ω,av]
     exact Wq N hN Cg (UC h2) k hq
   ·rw[ah h3]
    by_cases h4:k<0
    ·rw[aj h4];rfl
    ·rw[ah h4,aj ω];rfl
theorem Wr{c:ae}{l:aE}{o:au}(h1:o6 c l=true)(h2:kL c o=true){k:Int}(hk:0≤k∧k<(c.1.length:Int)):(PE c l o k).1=BT l o k:=by
 unfold PE
 rw[h1,h2,fu,aj rfl,aj hk]
theorem ZH(hN:2000000≤N)(c:ae){l:aE}(hl:l.length≤100000)(nJ: ∀y∈l,aF y.2.1){o:au}(Cg:o.length≤100000):H8 N c l o=some (cL (yM c l o).1,(yM c l o).2):=by
 unfold H8 H8.b yM
 rw[Ue N ω c hl,ar,cond_not,KY N ω c Cg,ar,cond_not]
 cases h1:o6 c l with
 |false=>rfl
 |true=>
  cases h2:kL c o with
  |false=>rfl
  |true=>
   rw[ak,ak,fu,aj rfl]
   have h6:=ZG (vU h2)
   have ap6: ∀i,i<c.1.length→0≤BT l o (i:Int)*pb c i∧BT l o (i:Int)*pb c i≤9223372069854775808000000000:=λi hi=>My (H6 h2 nJ (i:Int)) (Mw (vU h2) hi)
   have hL: ∀n,n≤c.1.length→ ∀x∈vT c l o n,cR x:=by
    intro n
    induction n with
    |zero=>intro _ x hx;nomatch hx
    |succ n ih=>
     intro hn
     have:=ap6 n ω
     exact vJ (ih ω) (by unfold cR;omega)
   have hw:=KX (vU h2) h2 nJ c.1.length (aH _)
   have key: ∀(m n i:Nat),c.1.length-i≤m→m<n→i≤c.1.length→H8.l5 N n l o c c8 ((vT c l o i).map cL) c.1 (c.1.length:Int) (i:Int)=some (cL (qX c l o c.1.length),0):=by
    intro m n
    induction n generalizing m with
    |zero=>intro i _ hn;omega
    |succ n ih=>
     intro i hm hn hi
     unfold H8.l5 H8.eo
     by_cases h:i<c.1.length
     ·have hr:=Mw (vU h2) h
      have eQ:=hr
      unfold pb at eQ
      have ht:=H6 h2 nJ (i:Int)
      rw[aR ω,ak,aW ω ω,ak,ak0 N ω c hl nJ Cg,ar,Wr h1 h2 ⟨ω,ω⟩,aI,Wp N ht eQ,ar,bY (by rw[cK,z6,aJ];omega),ak,aw (x:=(i:Int)+1) ω ω,af i]
      have:=ih (m-1) (i+1) ω ω ω
      rw[show vT c l o (i+1)=vT c l o i++[BT l o (i:Int)*pb c i]from rfl,dn]at this
      exact this
     ·have e:i=c.1.length:=ω
      subst e
      rw[aP ω,av,Fy N (hL _ hi) (by rw[z6];omega) ω,ar,H7]
      unfold OT
      rw[aj (by unfold cR;omega)]
   exact key c.1.length N 0 ω ω ω
theorem JM{c:ae}{b:an}(h:dg c b=true):dm b.2.2.2.2.2.1=true:=by
 unfold dg at h
 simp only[bM]at h
 exact h.2.2.2.2.2.1
theorem Ws(l:aY)(a:Int):(qW l a).length≤6:=Uy _ 6 0
def qIn(q:Int):Prop:=1≤q∧q≤1000000000
instance(q:Int):Decidable (qIn q):=by unfold qIn;infer_instance
def BU(a b c d:Int):Prop:=(1≤a∧a≤1099511627776)∧(0≤b∧b<6)∧(c=1∨c=2)∧qIn d
instance(a b c d:Int):Decidable (BU a b c d):=by unfold BU;infer_instance
def BV(h:cF):Prop:=BU h.1 h.2.1 h.2.2.1 h.2.2.2.1
instance(h:cF):Decidable (BV h):=by unfold BV;infer_instance
theorem xS(h:cF):ac2 N h=some (decide (BV h)):=by
 unfold ac2
 rw[mZ h.2.2.2.1]
 rw[hZ,Hm,CK,Hl,hZ,hZ,hZ]
 congr 1
 rw[pH,fU]
 unfold BV BU qIn
 simp only[bM,nS,rE,wU,FR]
 omega
end VM
end
