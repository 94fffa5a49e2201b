/- A part of the proof of WindDrawn of layer 21: what the functions compute, in plain words. -/
import Derived.Test.YtecmobijochjkaaGreatPlain3
set_option linter.all false
section
namespace VM
open Go VM.F
theorem CB(N:Nat)(hN:5000000≤N){t:Int}{w:List Int}(ht:0≤t)(vq:t<9223372036854775808)(hw:w.length≤64)(hp:Pos w)(hS:0<w.sum)(hS1:w.sum<9223372036854775808):
  ∀(m n i:Nat) (q r:List Int),w.length-i≤m→m<n→i≤w.length→q.length=w.length→r.length=w.length→q.take i=rJ t w.sum (w.take i)→r.take i=kR t w.sum (w.take i)→
  fL.IG N n t w (cT w.sum) q r (t-(rJ t w.sum (w.take i)).sum) (i:Int)=some (bQ t w,0)
 |m,0,i,q,r,_,hn,_,_,_,_,_=>ω
 |m,n+1,i,q,r,hm,hn,hi,hq,hr,eq,er=>by
  unfold fL.IG fL.FL
  by_cases h:i<w.length
  ·have hwi:=gU hp i
   have arP:=yM hp i
   have hb:=mul_lt ht hwi (show t≤9223372036854775807 by omega) (show w.getD i 0≤9223372036854775807 by omega)
   have hqi:t*w.getD i 0/w.sum≤t:=Int.ediv_le_of_le_mul hS (xc arP ht)
   have ay8:0≤t*w.getD i 0/w.sum:=sU hb.1 ω
   have hri:=zg (t*w.getD i 0) hS
   have ay9:=Ei (t*w.getD i 0) (show w.sum≠0 by omega)
   have hs0:=WL ht hS (Cz hp i)
   have Pn:=jC (FH ht (by omega:0≤w.sum) (Nb hp i))
   have ft:Fit t 2:=Fit.i64 ω ω
   have fw:Fit (w.getD i 0) 2:=Fit.i64 ω ω
   have fS:Fit w.sum 2:=Fit.i64 ω ω
   rw[aT ω,ak,c4 N ω ω vq,ar,aW ω ω,ak,aJ,c4 N ω ω ω,ar,
    wq N ω (ft.mono ω) (fw.mono ω),ar,RE N ω hS ((ft.mul fw).mono ω) (fS.mono ω),ar]
   dsimp only
   rw[qR,ar,Km ω ω,qR,Km ω ω]
   dsimp only
   rw[ar,aW ω ω,ak,aW ω ω,ak,bN,aW ω ω,ak,mi q _ ω,ax (x:=(i:Int)+1) ω ω,ax ω ω]
   have wx:=CB N hN ht vq hw hp hS hS1 (m-1) n (i+1) (q.set i (t*w.getD i 0/w.sum)) (r.set i (t*w.getD i 0%w.sum)) ω ω ω (by rw[bN];exact hq) (by rw[bN];exact hr)
    (by rw[take_set q _ ω,eq,g4 w h];unfold rJ;simp)
    (by rw[take_set r _ ω,er,g4 w h];unfold kR;simp)
   rw[←ID,la _ (by rw[wK];exact h),R1,ID]at wx
   rw[Int.sub_sub]
   exact wx
  ·have mX:i=w.length:=ω
   subst mX
   rw[jw ω,jw ω]at eq er
   subst eq er
   rw[jw ω]
   have Pn:=jC (FH ht (by omega:0≤w.sum) hp)
   have h1:=FK ht hS
   unfold mw at h1
   rw[aP ω,av,TL N (by rw[oW];omega) (by rw[oW];omega),ar]
   have hlen:=yL (kR t w.sum w)
   rw[oW]at hlen
   have vR:=FI N (ks:=kj (kR t w.sum w)) ω w.length (λk hk=>by have:=FJ _ k hk;rwa [oW]at this) 1000 N 0 (t-(rJ t w.sum w).sum).toNat (rJ t w.sum w) ω ω ω (wK ..) (FH ht ω hp) ω ω
   rw[cX,vv h1]at vR
   exact vR
theorem Bv(N:Nat)(hN:5000000≤N){t:Int}{w:List Int}(vq:t<9223372036854775808)(hw:IC w)(hl:w.length≤1000000):fL N t w=some (q3 t w):=by
 unfold fL fL.b q3
 rw[FG N ω,ar]
 by_cases h1:t<0
 ·rw[bs h1,Bool.true_or,ak,aj (.inl h1)]
 rw[cj h1,sW]
 cases h2:may w
 ·rw[cY,ak,aj (.inr rfl)]
 rw[a7,av,ah (by simp[h1]),yF N ω hw hl,ar,pT,ar]
 obtain⟨FM,hp⟩:=oB.1 h2
 have hS0:=jC hp
 have hj: ∀h: ¬9223372036854775808≤w.sum,fL.j6 N t w (cT w.sum)=if w.sum=0 then some (List.replicate w.length 0,0)else some (bQ t w,0):=λh=>by
  unfold fL.j6 fL.Tj
  rw[qR,ar,Km ω ω,a7,av,cL ω ω ω,ak,ak,pT,ar,aJ]
  by_cases h4:w.sum=0
  ·rw[aj h4,h4,show vj 0=0 from rfl,dX rfl,ak]
  ·rw[ah h4,dT (by unfold vj;repeat' split<;>omega),av]
   have:=CB N hN ω vq FM hp ω ω w.length N 0 (List.replicate w.length 0) (List.replicate w.length 0) ω ω ω (cP ..) (cP ..) rfl rfl
   rw[oH]at this
   simp only[rJ,iT,ky,Eo]at this
   exact this
 by_cases h3:9223372036854775808≤w.sum
 ·rw[aj h3,dT (by unfold vj;repeat' split<;>omega),av]
  unfold fL.j6 fL.Tj
  rw[qR,ar];unfold Be;rw[ah ω];rfl
 rw[ah h3,hj h3]
 by_cases h4:w.sum=0
 ·rw[aj h4,aj h4,h4,show vj 0=0 from rfl,dX rfl,ak]
  by_cases h5:t=0
  ·rw[aj h5,dX h5,a7,av]
  ·rw[ah h5,dT h5,cY,ak]
 ·rw[ah h4,ah h4,dT (by unfold vj;repeat' split<;>omega),av]
def IH(t n:Int):List Int×Int:=if t<0∨n<1∨64<n then([],1)else q3 t (List.replicate n.toNat 1)
theorem WM(n:Nat):IC (List.replicate n 1):=λx hx=>by rw[y8 hx];omega
theorem II(N:Nat)(hN:5000000≤N){t:Int}{k:Nat}(hk:k≤64)(vq:t<9223372036854775808): ∀(m n i:Nat),k-i≤m→m<n→i≤k→
  q4.l5 N n t (k:Int) (List.replicate i 1++List.replicate (k-i) 0) (i:Int)=some (q3 t (List.replicate k 1))
 |m,0,i,_,hn,_=>ω
 |m,n+1,i,hm,hn,hi=>by
  unfold q4.l5 q4.dV
  by_cases h:i<k
  ·rw[aT ω,ak,aW ω (by simp;omega),ak,ax ω ω]
   refine Eq.trans ?_ (II N hN hk vq (m-1) n (i+1) ω ω ω)
   congr 1
   rw[aJ,LB _ _ (by simp),cP,sZ,show k-i=(k-(i+1))+1 by omega,zf,List.set_cons_zero,List.replicate_succ',br]
   rfl
  ·rw[aP ω,av,show k-i=0 by omega,List.replicate_zero,ch,show i=k by omega,Bv N hN vq (WM _) (by rw[cP];omega)]
   rfl
theorem WN(N:Nat)(hN:5000000≤N){t n:Int}(vq:t<9223372036854775808):q4 N t n=some (IH t n):=by
 unfold q4 q4.b IH
 by_cases h1:t<0
 ·rw[aT h1,ak,aj (.inl h1)]
 by_cases h2:n<1
 ·rw[aP ω,av,aT h2,ak,aj (.inr (.inl h2))]
 by_cases h3:64<n
 ·rw[aP ω,av,aP ω,av,aT h3,ak,aj (.inr (.inr h3))]
 rw[aP ω,av,aP ω,av,aP ω,av,ah ω,cL ω ω ω,ak]
 have:=II N hN (t:=t) (k:=n.toNat) ω vq n.toNat N 0 ω ω ω
 rw[List.replicate_zero,cI,Nat.sub_zero,vv ω]at this
 exact this
end VM
end
section
namespace VM
open Go VM.F
def FN(n:Nat)(f:Nat→Int):List Int:=(List.range n).map f
theorem gF(n:Nat)(f:Nat→Int):(FN n f).length=n:=by unfold FN;rw[cv,vw]
theorem gB{n:Nat}{f:Nat→Int}{i:Nat}(h:i<n):(FN n f).getD i 0=f i:=by
 unfold FN
 rw[aU,pO,List.getElem?_range h];rfl
theorem Ko(n:Nat)(f:Nat→Int)(i:Nat):(FN n f).getD i 0=if i<n then f i else 0:=by
 by_cases h:i<n
 ·rw[aj h,gB h]
 ·rw[ah h,ug _ (by rw[gF];omega)]
theorem aaa{n:Nat}{f:Nat→Int}(h: ∀i,i<n→0≤f i):Pos (FN n f):=λx hx=>by
 obtain⟨i,hi,rfl⟩:=cC.1 hx
 exact h i (qx.1 hi)
theorem ss{l:List Int}(h: ∀i,i<l.length→0≤l.getD i 0):Pos l:=λx hx=>by
 obtain⟨i,hi,rfl⟩:=qn.1 hx
 have:=h i hi
 rwa [aU,bm hi]at this
theorem xx: ∀{a b:List Int},a.length=b.length→(∀i,i<a.length→a.getD i 0≤b.getD i 0)→a.sum≤b.sum
 |[],[],_,_=>fE _
 |[],_::_,h,_=>nomatch h
 |_::_,[],h,_=>nomatch h
 |x::a,y::b,h,h1=>by
  have:=xx (a:=a) (b:=b) (by simpa using h) (λi hi=>by have:=h1 (i+1) (by simpa using hi);simpa using this)
  have h2:x≤y:=by have:=h1 0 (by simp);simpa using this
  rw[cy,cy];omega
theorem FO: ∀{a b c:List Int},a.length=b.length→a.length=c.length→(∀i,i<a.length→a.getD i 0=b.getD i 0+c.getD i 0)→a.sum=b.sum+c.sum
 |[],[],[],_,_,_=>rfl
 |[],_::_,_,h,_,_=>nomatch h
 |[],[],_::_,_,h,_=>nomatch h
 |_::_,[],_,h,_,_=>nomatch h
 |_::_,_::_,[],_,h,_=>nomatch h
 |x::a,y::b,z::c,h,h',h1=>by
  have:=FO (a:=a) (b:=b) (c:=c) (by simpa using h) (by simpa using h') (λi hi=>by have:=h1 (i+1) (by simpa using hi);simpa using this)
  have h2:x=y+z:=by have:=h1 0 (by simp);simpa using this
  rw[cy,cy,cy];omega
theorem wL: ∀{a:List Int},(∀i,i<a.length→a.getD i 0=0)→a.sum=0
 |[],_=>rfl
 |x::a,h=>by
  have:=wL (a:=a) (λi hi=>by have:=h (i+1) (by simpa using hi);simpa using this)
  have h2:x=0:=by have:=h 0 (by simp);simpa using this
  rw[cy];omega
def cG(w caps out:List Int):List Int:=FN w.length λi=>if out.getD i 0<caps.getD i 0 then w.getD i 0 else 0
def fj(parts caps out:List Int):List Int:=FN out.length λi=>min (parts.getD i 0) (caps.getD i 0-out.getD i 0)
def wM(out g:List Int):List Int:=FN out.length λi=>out.getD i 0+g.getD i 0
def uF(w caps:List Int):Nat→List Int→Int→List Int×Int
 |0,out,left=>(out,left)
 |f+1,out,left=>if left=0∨(cG w caps out).sum=0 then(out,left)else
  uF w caps f (wM out (fj (bQ left (cG w caps out)) caps out)) (left-(fj (bQ left (cG w caps out)) caps out).sum)
structure R6(t:Int)(w caps out:List Int)(left:Int):Prop where
 n:w.length≤64
 l1:caps.length=w.length
 l2:out.length=w.length
 pw:Pos w
 sw:w.sum<9223372036854775808
 pc: ∀i,0≤caps.getD i 0∧caps.getD i 0<9223372036854775808
 po: ∀i,0≤out.getD i 0
 le: ∀i,i<w.length→out.getD i 0≤caps.getD i 0
 z: ∀i,w.getD i 0=0→out.getD i 0=0
 l:0≤left
 t1:t<9223372036854775808
 s:out.sum+left=t
theorem iH(w caps out:List Int):(cG w caps out).length=w.length:=gF ..
theorem q5{w caps out:List Int}(h:Pos w):Pos (cG w caps out):=aaa (λi _=>by split;exact gU h i;omega)
theorem Ng{w caps out:List Int}(h:Pos w):(cG w caps out).sum≤w.sum:=xx (iH ..) (λi hi=>by
 rw[iH]at hi
 unfold cG;rw[gB hi];split
 ·omega
 ·exact gU h i)
theorem WO{t left:Int}{w caps out:List Int}(c:R6 t w caps out left):IC (cG w caps out):=λx hx=>by
 have h1:=q5 (caps:=caps) (out:=out) c.pw
 have h2:=Ng (caps:=caps) (out:=out) c.pw
 have h3:=h1 x hx
 obtain⟨i,hi,rfl⟩:=qn.1 hx
 have h4:=yM h1 i
 rw[aU,bm hi]at h4
 simp only[mO]at h4
 have:=c.sw
 omega
theorem Nh{t left:Int}{w caps out:List Int}(c:R6 t w caps out left):left≤t:=by
 have:=jC (q:=out) (ss (λi _=>c.po i));have:=c.s;omega
theorem oC{t left:Int}{w caps out:List Int}(c:R6 t w caps out left)(hS:0<(cG w caps out).sum)(i:Nat):
  0≤(fj (bQ left (cG w caps out)) caps out).getD i 0∧(fj (bQ left (cG w caps out)) caps out).getD i 0≤(bQ left (cG w caps out)).getD i 0∧(i<w.length→out.getD i 0+(fj (bQ left (cG w caps out)) caps out).getD i 0≤caps.getD i 0):=by
 have h0:=gU (uE c.l hS (q5 c.pw)) i
 unfold fj
 rw[Ko]
 have:=c.l2
 by_cases h:i<out.length
 ·rw[aj h]
  have:=c.le i ω
  omega
 ·rw[ah h];exact⟨ω,h0,λh=>ω⟩
theorem wN(parts caps out:List Int):(fj parts caps out).length=out.length:=gF ..
theorem FP{t left:Int}{w caps out:List Int}(c:R6 t w caps out left)(hS:0<(cG w caps out).sum):0≤(fj (bQ left (cG w caps out)) caps out).sum∧(fj (bQ left (cG w caps out)) caps out).sum≤left:=by
 constructor
 ·exact jC (ss (λi _=>(oC c hS i).1))
 ·have:=xx (a:=fj (bQ left (cG w caps out)) caps out) (b:=bQ left (cG w caps out)) (by rw[wN,og,iH,c.l2]) (λi _=>(oC c hS i).2.1)
  rwa [uD c.l hS]at this
theorem Ni{t left:Int}{w caps out:List Int}(c:R6 t w caps out left)(hS:0<(cG w caps out).sum):R6 t w caps (wM out (fj (bQ left (cG w caps out)) caps out)) (left-(fj (bQ left (cG w caps out)) caps out).sum):=by
 have pR: ∀i,(wM out (fj (bQ left (cG w caps out)) caps out)).getD i 0=if i<out.length then out.getD i 0+(fj (bQ left (cG w caps out)) caps out).getD i 0 else 0:=λi=>by unfold wM;rw[Ko]
 have gs:=FP c hS
 refine⟨c.n,c.l1,?_,c.pw,c.sw,c.pc,λi=> ?_,λi hi=> ?_,λi hi=> ?_,ω,c.t1,?_⟩
 ·unfold wM;rw[gF,c.l2]
 ·rw[pR];have:=(oC c hS i).1;have:=c.po i;split<;>omega
 ·rw[pR,aj (by rw[c.l2];exact hi)];exact(oC c hS i).2.2 hi
 ·rw[pR]
  split
  ·have h1:(cG w caps out).getD i 0=0:=by unfold cG;rw[Ko,hi];split<;>(try split)<;>rfl
   have h2:=CA c.l hS h1
   have h3:=oC c hS i
   rw[c.z i hi];omega
  ·rfl
 ·have:=FO (a:=wM out (fj (bQ left (cG w caps out)) caps out)) (b:=out) (c:=fj (bQ left (cG w caps out)) caps out) (by unfold wM;rw[gF]) (by unfold wM;rw[gF,wN]) (λi hi=>by
   unfold wM at hi;rw[gF]at hi;rw[pR,aj hi])
  have:=c.s
  omega
def opens(w caps out:List Int):Nat:=(List.range w.length).countP λi=>decide (0<w.getD i 0∧out.getD i 0<caps.getD i 0)
theorem IJ{p q:Nat→Bool}: ∀{l:List Nat},(∀x∈l,q x=true→p x=true)→(∃x∈l,p x=true∧q x=false)→l.countP q<l.countP p
 |[],_,⟨x,hx,_⟩=>nomatch hx
 |y::l,h,⟨x,hx,h1,h2⟩=>by
  have hle:l.countP q≤l.countP p:=List.countP_mono_left (λz hz=>h z (a6 _ hz))
  rw[List.countP_cons,List.countP_cons]
  rcases aX.1 hx with rfl|hx
  ·rw[h1,h2];simp;omega
  ·have:=IJ (p:=p) (q:=q) (l:=l) (λz hz=>h z (a6 _ hz)) ⟨x,hx,h1,h2⟩
   have h3:=h y (bn ..)
   cases hq:q y<;>cases hp:p y<;>simp<;>try omega
   rw[hq,hp]at h3;simp at h3
theorem IK{w caps out:List Int}(hw:Pos w)(h:(cG w caps out).sum=0): ∀i,i<w.length→ ¬(0<w.getD i 0∧out.getD i 0<caps.getD i 0):=λi hi ⟨h1,h2⟩=>by
 have:=yM (q5 (caps:=caps) (out:=out) hw) i
 unfold cG at this h
 rw[gB hi,aj h2,h]at this
 omega
theorem Kp{w caps out:List Int}(hw:Pos w)(h:(cG w caps out).sum≠0): ∃i,i<w.length∧0<w.getD i 0∧out.getD i 0<caps.getD i 0:=by
 by_cases hx: ∃i,i<w.length∧0<w.getD i 0∧out.getD i 0<caps.getD i 0
 ·exact hx
 ·refine absurd (wL (λi hi=> ?_)) h
  rw[iH]at hi
  unfold cG
  rw[gB hi]
  split
  ·rename_i h1
   have:=gU hw i
   by_cases h2:0<w.getD i 0
   ·exact absurd ⟨i,hi,h2,h1⟩ hx
   ·omega
  ·rfl
theorem TO{t left:Int}{w caps out:List Int}(c:R6 t w caps out left)(hS:0<(cG w caps out).sum)(hl:left-(fj (bQ left (cG w caps out)) caps out).sum≠0):opens w caps (wM out (fj (bQ left (cG w caps out)) caps out))<opens w caps out:=by
 have pR: ∀i,i<w.length→(wM out (fj (bQ left (cG w caps out)) caps out)).getD i 0=out.getD i 0+(fj (bQ left (cG w caps out)) caps out).getD i 0:=λi hi=>by unfold wM;rw[gB (by rw[c.l2];exact hi)]
 refine IJ (λi hi h=> ?_) ?_
 ·rw[qx]at hi
  rw[fb,pR i hi]at h
  rw[fb]
  have:=(oC c hS i).1
  omega
 ·by_cases hx: ∃i,i<w.length∧(0<w.getD i 0∧out.getD i 0<caps.getD i 0)∧caps.getD i 0≤out.getD i 0+(fj (bQ left (cG w caps out)) caps out).getD i 0
  ·obtain⟨i,h1,h2,h3⟩:=hx
   refine⟨i,qx.2 h1,bs h2,cj ?_⟩
   rw[pR i h1];omega
  ·exfalso
   have h1:bQ left (cG w caps out)=fj (bQ left (cG w caps out)) caps out:=by
    refine oX (by rw[wN,og,iH,c.l2]) (λi hi=> ?_)
    rw[og,iH]at hi
    have h2:=oC c hS i
    have h3:=gU (uE c.l hS (q5 (caps:=caps) (out:=out) c.pw)) i
    by_cases h4:0<w.getD i 0∧out.getD i 0<caps.getD i 0
    ·have h5: ¬caps.getD i 0≤out.getD i 0+(fj (bQ left (cG w caps out)) caps out).getD i 0:=λh=>hx ⟨i,hi,h4,h⟩
     have h6:(fj (bQ left (cG w caps out)) caps out).getD i 0=min ((bQ left (cG w caps out)).getD i 0) (caps.getD i 0-out.getD i 0):=gB (by rw[c.l2];exact hi)
     omega
    ·have h7:(cG w caps out).getD i 0=0:=by
      unfold cG;rw[gB hi]
      have:=gU c.pw i
      split<;>omega
     have:=CA c.l hS h7
     omega
   rw[←h1,uD c.l hS]at hl
   omega
theorem WQ(w caps out:List Int):opens w caps out≤w.length:=by
 unfold opens
 have:=List.countP_le_length (p:=λi=>decide (0<w.getD i 0∧out.getD i 0<caps.getD i 0)) (l:=List.range w.length)
 rwa [vw]at this
structure Full(t:Int)(w caps out:List Int)(left:Int):Prop where
 c:R6 t w caps out left
 f:left=0∨ ∀i,i<w.length→ ¬(0<w.getD i 0∧out.getD i 0<caps.getD i 0)
theorem Nj{t:Int}{w caps:List Int}: ∀(f:Nat) (out:List Int) (left:Int),R6 t w caps out left→(opens w caps out<f∨left=0)→Full t w caps (uF w caps f out left).1 (uF w caps f out left).2
 |0,out,left,c,h=>⟨c,.inl (show left=0 by omega)⟩
 |f+1,out,left,c,h=>by
  unfold uF
  have hS:=jC (q5 (caps:=caps) (out:=out) c.pw)
  split
  ·rename_i h1
   exact⟨c,h1.imp id (IK c.pw)⟩
  ·rename_i h1
   refine Nj f _ _ (Ni c ω) ?_
   by_cases h2:left-(fj (bQ left (cG w caps out)) caps out).sum=0
   ·exact .inr h2
   ·have:=TO c ω h2
    exact .inl ω
def Bx(out g:List Int)(i:Nat):List Int:=FN out.length λj=>if j<i then out.getD j 0+g.getD j 0 else out.getD j 0
theorem mid_zero(out g:List Int):Bx out g 0=out:=oX (gF ..) (λi hi=>by unfold Bx at*;rw[gF]at hi;rw[gB hi,ah ω])
theorem aab(out g:List Int){n:Nat}(h:out.length≤n):Bx out g n=wM out g:=oX (by unfold Bx wM;rw[gF,gF]) (λi hi=>by unfold Bx wM at*;rw[gF]at hi;rw[gB hi,gB hi,aj ω])
theorem Ay(out g:List Int)(i:Nat):(Bx out g i).length=out.length:=gF ..
theorem ahJ{out g:List Int}{i:Nat}(h:i<out.length):(Bx out g i).getD i 0=out.getD i 0:=by unfold Bx;rw[gB h,ah ω]
theorem aac{out g:List Int}{i:Nat}(h:i<out.length):(Bx out g i).set i (out.getD i 0+g.getD i 0)=Bx out g (i+1):=oX (by rw[bN,Ay,Ay]) (λj hj=>by
 rw[bN,Ay]at hj
 by_cases yC:i=j
 ·subst yC
  rw[mi _ _ (by rw[Ay];exact h)];unfold Bx;rw[gB h,aj ω]
 ·rw[getD_set_ne _ _ yC];unfold Bx;rw[gB hj,gB hj]
  by_cases h1:j<i
  ·rw[aj h1,aj ω]
  ·rw[ah h1,ah ω])
def su(s:List Int)(i:Nat):List Int:=FN s.length λj=>if j<i then s.getD j 0 else 0
theorem TP(s:List Int):su s 0=List.replicate s.length 0:=oX (by unfold su;rw[gF,cP]) (λi hi=>by
 unfold su at*;rw[gF]at hi;rw[gB hi,ah ω,aU,D3,aj hi];rfl)
theorem WR(s:List Int):su s s.length=s:=oX (gF ..) (λi hi=>by unfold su at*;rw[gF]at hi;rw[gB hi,aj hi])
theorem oY(s:List Int)(i:Nat):(su s i).length=s.length:=gF ..
theorem WS{s:List Int}{i:Nat}(h:i<s.length):(su s i).set i (s.getD i 0)=su s (i+1):=oX (by rw[bN,oY,oY]) (λj hj=>by
 rw[bN,oY]at hj
 by_cases yC:i=j
 ·subst yC
  rw[mi _ _ (by rw[oY];exact h)];unfold su;rw[gB h,aj ω]
 ·rw[getD_set_ne _ _ yC];unfold su;rw[gB hj,gB hj]
  by_cases h1:j<i
  ·rw[aj h1,aj ω]
  ·rw[ah h1,ah ω])
theorem IL{s:List Int}{i:Nat}(h:s.getD i 0=0):su s i=su s (i+1):=oX (by rw[oY,oY]) (λj hj=>by
 rw[oY]at hj
 unfold su;rw[gB hj,gB hj]
 by_cases h1:j<i
 ·rw[aj h1,aj ω]
 ·rw[ah h1]
  by_cases h2:j=i
  ·subst h2;rw[aj ω,h]
  ·rw[ah ω])
theorem ahK(x y:Int):mn x y=min x y:=by rw[Q6];split<;>omega
theorem TQ{t left:Int}{w caps out:List Int}(c:R6 t w caps out left)(hS:0<(cG w caps out).sum)(i:Nat):0≤((fj (bQ left (cG w caps out)) caps out).take i).sum∧((fj (bQ left (cG w caps out)) caps out).take i).sum≤left:=by
 have h:=ss (l:=fj (bQ left (cG w caps out)) caps out) (λi _=>(oC c hS i).1)
 have:=Cz h i
 have:=FP c hS
 exact⟨jC (Nb h i),ω⟩
theorem FQ(N:Nat)(K:List Int→List Int→List Int→Int→Int→Option (List Int×Int×Int)){t left:Int}{w caps out:List Int}(c:R6 t w caps out left)(hS:0<(cG w caps out).sum)(rd:Int): ∀(m n i:Nat),w.length-i≤m→m<n→i≤w.length→
  eH.TD N K n w caps (Bx out (fj (bQ left (cG w caps out)) caps out) i) (left-((fj (bQ left (cG w caps out)) caps out).take i).sum) rd (bQ left (cG w caps out)) (i:Int)=
  K w caps (wM out (fj (bQ left (cG w caps out)) caps out)) (left-(fj (bQ left (cG w caps out)) caps out).sum) (W .i64 (rd+1))
 |m,0,i,_,hn,_=>ω
 |m,n+1,i,hm,hn,hi=>by
  have n64:=c.n
  have e1:=c.l1
  have e2:=c.l2
  unfold eH.TD eH.Qb
  by_cases h:i<w.length
  ·have hc:=c.pc i
   have ho:=c.po i
   have hle:=c.le i h
   have hg:=oC c hS i
   have h6:(fj (bQ left (cG w caps out)) caps out).getD i 0=min ((bQ left (cG w caps out)).getD i 0) (caps.getD i 0-out.getD i 0):=gB (by rw[c.l2];exact h)
   have ht:=TQ c hS i
   have hl:=Nh c
   have vq:=c.t1
   have hgl:(fj (bQ left (cG w caps out)) caps out).getD i 0≤left:=by
    have:=yM (ss (l:=fj (bQ left (cG w caps out)) caps out) (λi _=>(oC c hS i).1)) i
    have:=FP c hS
    omega
   dsimp only
   rw[aT ω,ak,aW ω (by rw[og,iH];omega),ak,aW ω ω,ak,aW ω (by rw[Ay];omega),ak,ak,aJ,ahJ ω,ax (x:=caps.getD i 0-out.getD i 0) ω ω,ahK,←h6,
    ax (x:=(i:Int)+1) ω ω,ax (x:=out.getD i 0+_) ω ω,ax (x:=left-_-_) ω ω,aac ω]
   have:=FQ N K c hS rd (m-1) n (i+1) ω ω ω
   rw[la _ (by rw[wN];omega),←Int.sub_sub]at this
   exact this
  ·rw[aP ω,av,aab _ _ ω,jw (by rw[wN];omega)]
def Nk(w caps out:List Int)(i:Nat):Prop:= ∃j,j<i∧0<w.getD j 0∧out.getD j 0<caps.getD j 0
theorem uG(N:Nat)(hN:5000000≤N)(K:List Int→List Int→List Int→Int→Int→Option (List Int×Int×Int)){t left:Int}{w caps out:List Int}(c:R6 t w caps out left)(rd:Int): ∀(m n i:Nat) (b:Bool),w.length-i≤m→m<n→i≤w.length→(b=true↔Nk w caps out i)→
  eH.pX N K n w caps out left rd (su (cG w caps out) i) b (i:Int)=
  if left=0∨(cG w caps out).sum=0 then some (out,left,0)else K w caps (wM out (fj (bQ left (cG w caps out)) caps out)) (left-(fj (bQ left (cG w caps out)) caps out).sum) (W .i64 (rd+1))
 |m,0,i,b,_,hn,_,_=>ω
 |m,n+1,i,b,hm,hn,hi,hb=>by
  have n64:=c.n
  have e1:=c.l1
  have e2:=c.l2
  unfold eH.pX eH.pt
  by_cases h:i<w.length
  ·have h1:(cG w caps out).getD i 0=if out.getD i 0<caps.getD i 0 then w.getD i 0 else 0:=gB h
   have hw:=gU c.pw i
   have sd: ¬(0<w.getD i 0∧out.getD i 0<caps.getD i 0)→(b=true↔Nk w caps out (i+1)):=λvp=>hb.trans ⟨λ⟨j,hj,h2⟩=>⟨j,ω,h2⟩,λ⟨j,hj,h2⟩=>⟨j,by
    by_cases yC:j=i
    ·subst yC;exact absurd h2 vp
    ·omega,h2⟩⟩
   rw[aT ω,ak,aW ω ω,ak,aJ]
   by_cases h0:0<w.getD i 0
   ·rw[aT h0,ak,aW ω ω,ak,aW ω ω,ak]
    by_cases h2:out.getD i 0<caps.getD i 0
    ·rw[aj h2]at h1
     rw[aT h2,ak,ak,aW ω (by rw[oY,iH];omega),ak,ax ω ω,←h1,WS (by rw[iH];exact h)]
     exact uG N hN K c rd (m-1) n (i+1) true ω ω ω ⟨λ_=>⟨i,ω,h0,h2⟩,λ_=>rfl⟩
    ·rw[ah h2]at h1
     rw[aP ω,av,ax ω ω,IL h1]
     exact uG N hN K c rd (m-1) n (i+1) b ω ω ω (sd (λh=>h2 h.2))
   ·have h3:(cG w caps out).getD i 0=0:=by rw[h1];split<;>omega
    rw[aP ω,av,ax ω ω,IL h3]
    exact uG N hN K c rd (m-1) n (i+1) b ω ω ω (sd (λh=>h0 h.1))
  ·have PV:=Nh c
   have vq:=c.t1
   have hl0:=c.l
   have mX:i=(cG w caps out).length:=by rw[iH];omega
   have hp:=q5 (caps:=caps) (out:=out) c.pw
   have hs:=Ng (caps:=caps) (out:=out) c.pw
   have hs0:=jC hp
   have hsw:=c.sw
   have hm:may (cG w caps out)=true:=oB.2 ⟨by rw[iH];omega,hp⟩
   rw[aP ω,av]
   by_cases h4:left=0
   ·rw[dX h4,ak,aj (.inl h4)]
   rw[dT h4,av]
   by_cases h3:(cG w caps out).sum=0
   ·have hbf:b=false:=by
     rw[vy];intro ht
     obtain⟨j,hj,h5⟩:=hb.1 ht
     exact IK c.pw h3 j ω h5
    rw[aj (.inr h3),hbf];rfl
   ·have hbt:b=true:=hb.2 (by
     obtain⟨j,hj,h5⟩:=Kp c.pw h3
     exact⟨j,ω,h5⟩)
    rw[hbt,a7,av,ah ω,mX,WR,Bv N ω ω (WO c) (by rw[iH];omega),ar]
    unfold q3
    rw[ah (by rw[hm];simp;omega),ah ω,ah h3]
    have:=FQ N K c ω rd w.length N 0 ω ω ω
    rw[mid_zero,oH,ky,Eo]at this
    exact this
theorem IM(N:Nat)(hN:5000000≤N){t:Int}{w caps:List Int}: ∀(f n:Nat) (out:List Int) (left:Int),R6 t w caps out left→f≤w.length+1→f<n→
  eH.l8 N n w caps out left ((w.length+1-f:Nat):Int)=some ((uF w caps f out left).1,(uF w caps f out left).2,0)
 |f,0,out,left,c,_,hn=>ω
 |0,n+1,out,left,c,h,hn=>by
  unfold eH.l8 eH.xR
  rw[fh ω];rfl
 |f+1,n+1,out,left,c,h,hn=>by
  have n64:=c.n
  have hl:=c.l
  unfold eH.l8 eH.xR
  rw[fC ω,ak,cL ω ω ω,ak,aJ]
  have:=uG N hN (eH.l8 N n) c ((w.length+1-(f+1):Nat):Int) w.length N 0 false ω ω ω ⟨(λh=>nomatch h),λ⟨j,hj,_⟩=>ω⟩
  rw[TP,iH]at this
  refine Eq.trans this ?_
  have hS:=jC (q5 (caps:=caps) (out:=out) c.pw)
  unfold uF
  by_cases h1:left=0∨(cG w caps out).sum=0
  ·rw[aj h1,aj h1]
  ·rw[ah h1,ah h1,ax ω ω,show(((w.length+1-(f+1):Nat):Int)+1)=((w.length+1-f:Nat):Int)by omega]
   exact IM N hN f n _ _ (Ni c ω) ω ω
def sv(t:Int)(w caps:List Int):List Int×Int×Int:=
 if t<0∨may w=false∨caps.length≠w.length∨may caps=false then([],0,1)else if 9223372036854775808≤w.sum then([],0,2)
 else((uF w caps (w.length+1) (List.replicate w.length 0) t).1,(uF w caps (w.length+1) (List.replicate w.length 0) t).2,0)
theorem pZ(n i:Nat):(List.replicate n (0:Int)).getD i 0=0:=by
 rw[aU,D3];split<;>rfl
theorem IN{t:Int}{w caps:List Int}(ht:0≤t)(vq:t<9223372036854775808)(hw:may w=true)(hc:may caps=true)(hl:caps.length=w.length)(hi:IC caps)(hs:w.sum<9223372036854775808):R6 t w caps (List.replicate w.length 0) t:=by
 obtain⟨h1,h2⟩:=oB.1 hw
 obtain⟨h3,h4⟩:=oB.1 hc
 refine⟨h1,hl,cP ..,h2,hs,λi=>⟨gU h4 i,(tg hi i).2⟩,λi=>by rw[pZ];omega,λi _=>by rw[pZ];exact gU h4 i,λi _=>pZ ..,ht,vq,?_⟩
 rw[wL (λi _=>pZ ..)];omega
theorem FR(N:Nat)(hN:5000000≤N){t:Int}{w caps:List Int}(vq:t<9223372036854775808)(hw:IC w)(hc:IC caps)(hl:w.length≤1000000):eH N t w caps=some (sv t w caps):=by
 unfold eH eH.b sv
 rw[FG N ω,ar]
 by_cases h1:t<0
 ·rw[bs h1,Bool.true_or,ak,aj (.inl h1)]
 rw[cj h1,sW]
 cases h2:may w
 ·rw[cY,ak,aj (.inr (.inl rfl))]
 rw[a7,av]
 by_cases h3:caps.length=w.length
 case neg=>rw[dT ω,cY,ak,aj (.inr (.inr (.inl h3)))]
 rw[dX ω,a7,av,FG N ω,ar]
 cases h4:may caps
 ·rw[aj (.inr (.inr (.inr rfl)))];rfl
 have hp:=jC (oB.1 h2).2
 rw[show(decide ((0:Int)<0)|| !true)=false from rfl,av,yF N ω hw hl,ar,qR,ar,ah (by simp;omega)]
 by_cases h5:9223372036854775808≤w.sum
 ·rw[aj h5];unfold Be;rw[ah ω];rfl
 rw[ah h5,Km ω ω,a7,av,cL ω ω ω,ak,aJ]
 have nF:=(oB.1 h2).1
 have:=IM N hN (w.length+1) N _ _ (IN ω vq h2 h4 h3 hc ω) ω ω
 rw[sZ]at this
 exact this
end VM
end
section
namespace VM
open Go VM.F
theorem tx{a b:Int}: ∀{l:au},sJ (l.map keyOf)→gl a b l=cg a b l
 |[],_=>rfl
 |x::t,h=>by
  obtain⟨h1,h2⟩:=eo.1 h
  rw[gS,fv,←tx h2]
  by_cases e1:x.1=a
  ·by_cases e2:x.2.1=b
   ·have hz:cg a b t=0:=ke λy hy e=>by
     have hk:=h1 (keyOf y) (eO hy)
     have he:keyOf y=keyOf x:=ix (e.1.trans e1.symm) (e.2.trans e2.symm)
     rw[he]at hk
     exact oz hk
    rw[aj e1,aj e2,aj ⟨e1,e2⟩,tx h2,hz,kz];rfl
   ·rw[aj e1,ah e2,ah (λh=>e2 h.2),vG]
  ·rw[ah e1,ah (λh=>e1 h.1),vG]
def Ht(x q:Int):Prop:= ¬((x<0)↔(q<0))
instance(x q:Int):Decidable (Ht x q):=by unfold Ht;infer_instance
def fM(a q:Int):au→au
 |[]=>[]
 |x::t=>if ¬dw x.1 0∧dw x.2.1 a∧Ht (dZ x) q then x::fM a q t else fM a q t
theorem q6(a q:Int)(x:db)(t:au):fM a q (x::t)=if ¬dw x.1 0∧dw x.2.1 a∧Ht (dZ x) q then x::fM a q t else fM a q t:=rfl
def yl(l:au):List Int:=l.map λx=>x.1
def iZ(l:au):List Int:=l.map λx=>((dZ x).natAbs:Int)
theorem tz{a q:Int}{x:db}: ∀{l:au},x∈fM a q l→x∈l∧ ¬dw x.1 0∧dw x.2.1 a
 |[],h=>nomatch h
 |y::t,h=>by
  rw[q6]at h
  by_cases e: ¬dw y.1 0∧dw y.2.1 a∧Ht (dZ y) q
  ·rw[aj e]at h
   rcases aX.1 h with rfl|h
   ·exact⟨bn ..,e.1,e.2.1⟩
   ·have:=tz h;exact⟨a6 _ this.1,this.2⟩
  ·rw[ah e]at h
   have:=tz h;exact⟨a6 _ this.1,this.2⟩
theorem IP(a q:Int): ∀l:au,(fM a q l).length≤l.length
 |[]=>aG _
 |x::t=>by
  have:=IP a q t
  rw[q6,aR]
  split
  ·rw[aR];omega
  ·omega
theorem Nl{v q s h o:Int}{P Q R:Prop} [Decidable P] [Decidable Q] [Decidable R](hR:R↔ ¬((v<0)↔(q<0)))(hq:0<q)(hh:h-o≤s):
  (if P∧Q then v else 0)+h-((if ¬P∧Q∧R then(v.natAbs:Int)else 0)+o)≤(if Q then v else 0)+s:=by
 by_cases hQ:Q<;>by_cases hP:P<;>by_cases hR':R<;>simp only[hP,hQ,hR',and_self,eP,and_false,false_and,true_and,not_true,not_false_iff,gw,eQ]<;>(rw[Li]at hR;first|omega|(have h2:=hR.1 hR';omega)|(have h2: ¬ ¬((v<0)↔(q<0)):=λe=>hR' (hR.2 e);omega))
theorem CC{a q:Int}(hq:0<q): ∀l:au,cg 0 a l-(iZ (fM a q l)).sum≤(c5 a l).sum
 |[]=>fE _
 |x::t=>by
  have ih:=CC (a:=a) hq t
  have e1:cg 0 a (x::t)=(if dw x.1 0∧dw x.2.1 a then dZ x else 0)+cg 0 a t:=fv 0 a x t
  have e2:(iZ (fM a q (x::t))).sum=(if ¬dw x.1 0∧dw x.2.1 a∧Ht (dZ x) q then((dZ x).natAbs:Int)else 0)+(iZ (fM a q t)).sum:=by
   rw[q6]
   split
   ·show(((dZ x).natAbs:Int)::iZ (fM a q t)).sum=_
    rw[cy]
   ·omega
  have e3:(c5 a (x::t)).sum=(if dw x.2.1 a then dZ x else 0)+(c5 a t).sum:=by
   rw[df]
   by_cases h:x.2.1=a
   ·rw[aj h,aj (show dw x.2.1 a from h),cy]
   ·rw[ah h,ah (show ¬dw x.2.1 a from h)];omega
  rw[e1,e2,e3]
  exact Nl Iff.rfl hq ih
theorem Nm{v q s h o:Int}{P Q R:Prop} [Decidable P] [Decidable Q] [Decidable R](hR:R↔ ¬((v<0)↔(q<0)))(hq:q<0)(hh:s≤h+o):
  (if Q then v else 0)+s≤(if P∧Q then v else 0)+h+((if ¬P∧Q∧R then(v.natAbs:Int)else 0)+o):=by
 by_cases hQ:Q<;>by_cases hP:P<;>by_cases hR':R<;>simp only[hP,hQ,hR',and_self,eP,and_false,false_and,true_and,not_true,not_false_iff,gw,eQ]<;>(rw[Li]at hR;first|omega|(have h2:=hR.1 hR';omega)|(have h2: ¬ ¬((v<0)↔(q<0)):=λe=>hR' (hR.2 e);omega))
theorem CD{a q:Int}(hq:q<0): ∀l:au,(c5 a l).sum≤cg 0 a l+(iZ (fM a q l)).sum
 |[]=>fE _
 |x::t=>by
  have ih:=CD (a:=a) hq t
  have e1:cg 0 a (x::t)=(if dw x.1 0∧dw x.2.1 a then dZ x else 0)+cg 0 a t:=fv 0 a x t
  have e2:(iZ (fM a q (x::t))).sum=(if ¬dw x.1 0∧dw x.2.1 a∧Ht (dZ x) q then((dZ x).natAbs:Int)else 0)+(iZ (fM a q t)).sum:=by
   rw[q6]
   split
   ·show(((dZ x).natAbs:Int)::iZ (fM a q t)).sum=_
    rw[cy]
   ·omega
  have e3:(c5 a (x::t)).sum=(if dw x.2.1 a then dZ x else 0)+(c5 a t).sum:=by
   rw[df]
   by_cases h:x.2.1=a
   ·rw[aj h,aj (show dw x.2.1 a from h),cy]
   ·rw[ah h,ah (show ¬dw x.2.1 a from h)];omega
  rw[e1,e2,e3]
  exact Nm Iff.rfl hq ih
theorem Qp{a q:Int}{l:au}(hs:sJ (l.map keyOf))(hf:(c5 a l).sum=0)(hq:gl 0 a l=q)(h0:q≠0):(q.natAbs:Int)≤(iZ (fM a q l)).sum:=by
 rw[tx hs]at hq
 by_cases h:0<q
 ·have:=CC (a:=a) h l
  rw[hf,hq]at this;omega
 ·have:=CD (a:=a) (q:=q) ω l
  rw[hf,hq]at this;omega
theorem WT{t left:Int}{w out:List Int}(f:Full t w w out left)(h:t≤w.sum):left=0:=by
 have c:=f.c
 rcases f.f with e|e
 ·exact e
 ·have YG:w.sum≤out.sum:=xx (by rw[c.l2]) λi hi=>by
   have h1:=e i hi
   have h2:=gU c.pw i
   have h3:=c.po i
   by_cases h4:0<w.getD i 0
   ·have: ¬out.getD i 0<w.getD i 0:=λh5=>h1 ⟨h4,h5⟩
    omega
   ·omega
  have:=c.s
  have:=c.l
  omega
def sg(q x:Int):Int:=if q<0 then 0-x else x
def zc(a q:Int):List (Int×Int)→au
 |[]=>[]
 |p::t=>if sg q p.1=0 then zc a q t else(p.2,(a,(sg q p.1,())))::zc a q t
theorem DS(a q:Int)(p:Int×Int)(t:List (Int×Int)):zc a q (p::t)=if sg q p.1=0 then zc a q t else(p.2,(a,(sg q p.1,())))::zc a q t:=rfl
def jD(l:au)(a q:Int):List Int×Int×Int:=sv (q.natAbs:Int) (iZ (fM a q l)) (iZ (fM a q l))
def aad(l:au)(a q:Int):au:=((0:Int),(a,((0-q:Int),())))::zc a q ((jD l a q).1.zip (yl (fM a q l)))
def uH(c:ae)(b:aq)(a:Int):au×Int:=
 if dx c b then(if a<0 then([],3)else if(c.1.length:Int)≤a then([],3)else if fx b.2.2.2.1 0 a=0 then([],0)else
  if(jD b.2.2.2.1 a (fx b.2.2.2.1 0 a)).2.2=0 then(aad b.2.2.2.1 a (fx b.2.2.2.1 0 a),0)else([],(jD b.2.2.2.1 a (fx b.2.2.2.1 0 a)).2.2))else([],1)
theorem FT{t:Int}{w caps:List Int}(vq:t<9223372036854775808)(hc:IC caps)(hx:(sv t w caps).2.2=0):Full t w caps (sv t w caps).1 (sv t w caps).2.1:=by
 unfold sv at*
 by_cases h1:t<0∨may w=false∨caps.length≠w.length∨may caps=false
 ·rw[aj h1]at hx;exact absurd hx δ
 ·rw[ah h1]at hx ⊢
  by_cases h2:9223372036854775808≤w.sum
  ·rw[aj h2]at hx;exact absurd hx δ
  ·rw[ah h2]
   have h3:may w=true:=by cases h:may w<;>simp_all
   have h4:may caps=true:=by cases h:may caps<;>simp_all
   have h5:caps.length=w.length:=Lp λh=>h1 (Or.inr (Or.inr (Or.inl h)))
   exact Nj _ _ _ (IN ω vq h3 h4 h5 hc ω) (Or.inl (by have:=WQ w caps (List.replicate w.length 0);omega))
theorem By{l:au}(h: ∀x∈l,aE (dZ x)∧pU (dZ x))(a q:Int):IC (iZ (fM a q l)):=λz hz=>by
 obtain⟨x,hx,rfl⟩:=cC.1 hz
 have:=h x (tz hx).1
 have g: ∀v:Int,aE v∧pU v→ -9223372036854775808≤(v.natAbs:Int)∧(v.natAbs:Int)<9223372036854775808:=λv hv=>by unfold aE pU at hv;omega
 exact g _ this
theorem WU{out accs:List Int}{i:Nat}(h1:i<out.length)(h2:i<accs.length):(out.zip accs).getD i (0,0)=(out.getD i 0,accs.getD i 0):=by
 rw[aU,bm (by rw[vC];omega),List.getElem_zip,aU,bm h1,aU,bm h2];rfl
end VM
end
section
namespace VM
open Go VM.F
end VM
end
section
namespace VM
open Go VM.F
theorem Kq{c:ae}{b:aq}(h:dx c b=true): ∀x∈b.2.2.2.1,uz x.2.1 c.1.length:=λx hx=>by
 have hk:=(gk h).2
 have h0:=(eG hk).2 x hx
 unfold dx at h
 simp only[bP]at h
 have h1:=bz h.2.2.2.2.2.2.2.2.1
 obtain⟨i,hi,e⟩:=gd hx
 have h2:=h1 i hi
 unfold iX at h2
 rw[aU,bm hi]at h2
 simp only[mO,e]at h2
 have g: ∀u v:Int,bI u v→n0 v c.1.length→uz v c.1.length:=λu v h1 h2=>by unfold bI at h1;unfold n0 at h2;unfold uz;omega
 exact g _ _ h0.1 h2.2
end VM
end
section
namespace VM
open Go VM.F
end VM
end
section
namespace VM
open Go VM.F
theorem CE{k:Int}: ∀{i:Nat} {l:aM},nn k i l≠[]→(i:Int)≤(nn k i l).getD 0 0∧(nn k i l).getD 0 0<((i+l.length:Nat):Int)
 |i,[],h=>absurd rfl h
 |i,y::t,h=>by
  rw[Av]at h ⊢
  by_cases e:y.1=k
  ·rw[aj e,aR]
   show(i:Int)≤(i:Int)∧(i:Int)<_
   omega
  ·rw[ah e]at h ⊢
   have:=CE h
   rw[aR];omega
def amw(c:ae):Int:=c.2.2.2.2.2.2.1
end VM
end
section
namespace VM
open Go VM.F
end VM
end
section
namespace VM
open Go VM.F
end VM
end
section
namespace VM
open Go VM.F
def zIn(z:Int×Int)(n:Nat):Prop:=0≤z.1∧z.1≤1000000000*(n:Int)∧0≤z.2∧z.2≤1000000000*(n:Int)
theorem zIn.mono{z:Int×Int}{n m:Nat}(h:zIn z n)(hm:n≤m):zIn z m:=by unfold zIn at*;omega
end VM
end
section
namespace VM
open Go VM.F
end VM
end
section
namespace VM
open Go VM.F
end VM
end
section
namespace VM
open Go VM.F
end VM
end
section
namespace VM
open Go VM.F
end VM
end
section
namespace VM
open Go VM.F
def qIn(q:Int):Prop:=1≤q∧q≤1000000000
instance(q:Int):Decidable (qIn q):=by unfold qIn;infer_instance
def Az(a b c d:Int):Prop:=(1≤a∧a≤1099511627776)∧(0≤b∧b<6)∧(c=1∨c=2)∧qIn d
instance(a b c d:Int):Decidable (Az a b c d):=by unfold Az;infer_instance
def AA(h:bX):Prop:=Az h.1 h.2.1 h.2.2.1 h.2.2.2.1
instance(h:bX):Decidable (AA h):=by unfold AA;infer_instance
theorem wO(N:Nat)(h:bX):aaf N h=some (decide (AA h)):=by
 unfold aaf
 rw[nM h.2.2.2.1]
 rw[gA,Fj,Bi,Fi,gA,gA,gA]
 congr 1
 rw[oG,fb]
 unfold AA Az qIn
 simp only[bP,mR,qt,vx,D4]
 omega
end VM
end
section
namespace VM
open Go VM.F Go.RowKit
def hR:au:=[((1:Int),((0:Int),((-90:Int),()))),((5:Int),((1:Int),((90:Int),())))]
def hS:au:=[((0:Int),((0:Int),((5:Int),()))),((0:Int),((1:Int),((20:Int),()))),((1:Int),((0:Int),((-5:Int),()))),((1:Int),((1:Int),((-20:Int),())))]
def hB:aq:=([((1:Int),((1:Int),()))],([((1:Int),((1:Int),((1:Int),((50:Int),()))))],(hR,(hS,([(100:Int),(7:Int)],(dP,()))))))
def hO:bX:=((4:Int),((0:Int),((2:Int),((6:Int),()))))
theorem hW:xu hB:=⟨⟨δ,δ,δ,δ,δ,δ,DR (l:=hR) δ,DR (l:=hS) δ⟩,δ,δ⟩
namespace Pure
end Pure
end VM
end
section
namespace VM
open Go VM.F
def Ok{α:Type}(P:α→Prop)(o:Option α):Prop:= ∃r,o=some r∧P r
theorem an{α:Type}{P:α→Prop}{r:α}(h:P r):Ok P (some r):=⟨r,rfl,h⟩
theorem af{α β:Type}{P:β→Prop}{Q:α→Prop}{o:Option α}{f:α→Option β}(h:Ok Q o)(hf: ∀r,Q r→Ok P (f r)):Ok P (o.bind f):=by
 obtain⟨r,rfl,hr⟩:=h
 exact hf r hr
theorem Kr{α:Type}{P Q:α→Prop}{o:Option α}(h:Ok Q o)(hf: ∀r,Q r→P r):Ok P o:=by
 obtain⟨r,e,hr⟩:=h
 exact⟨r,e,hf r hr⟩
theorem np{α:Type}{P:α→Prop}{o:Option α}{r:α}(h:o=some r)(hr:P r):Ok P o:=⟨r,h,hr⟩
theorem oZ{α:Type}{P:α→Prop}{b:Bool}{x y:Option α}(hx:b=true→Ok P x)(hy:b=false→Ok P y):Ok P (cond b x y):=by
 cases b
 ·exact hy rfl
 ·exact hx rfl
theorem bt{α:Type}{P:α→Prop}{b:Bool}{x y:Option α}(hx:b=false→Ok P x)(hy:b=true→Ok P y):Ok P (cond (!b) x y):=by
 cases b
 ·exact hx rfl
 ·exact hy rfl
theorem aw{α:Type}{P:α→Prop}{a b:Int}{x y:Option α}(hx:a<b→Ok P x)(hy:b≤a→Ok P y):Ok P (cond (aY a b) x y):=by
 rw[cO]
 split
 ·exact hx (by assumption)
 ·exact hy ω
theorem dU{α:Type}{P:α→Prop}{a b:Int}{x y:Option α}(hx:a≤b→Ok P x)(hy:b<a→Ok P y):Ok P (cond (dj a b) x y):=by
 rw[cF]
 split
 ·exact hx (by assumption)
 ·exact hy ω
theorem ok_eq{α:Type}{P:α→Prop}{a b:Int}{x y:Option α}(hx:a=b→Ok P x)(hy:a≠b→Ok P y):Ok P (cond (aO a b) x y):=by
 rw[aN]
 split
 ·exact hx (by assumption)
 ·exact hy (by assumption)
theorem bx{α:Type}{P:α→Prop}{a b:Int}{x y:Option α}(hx:a≠b→Ok P x)(hy:a=b→Ok P y):Ok P (cond (!aO a b) x y):=by
 rw[cond_not];exact ok_eq hy hx
theorem aB{α:Type}{P:α→Prop}{i:Int}{n:Nat}{x y:Option α}(h:0≤i∧i<(n:Int))(hx:Ok P x):Ok P (cond (ba i n) x y):=by
 rw[aW h.1 h.2];exact hx
theorem aC{α:Type}{P:α→Prop}{n:Nat}{x y:Option α}(h:n<68719476736)(hx:Ok P x):Ok P (cond (small n) x y):=by
 rw[bL h];exact hx
theorem aag{α:Type}{P:α→Prop}{l c:Int}{x y:Option α}(h:0≤l∧l≤c∧c<68719476736)(hx:Ok P x):Ok P (cond (jR l c) x y):=by
 rw[cL h.1 h.2.1 h.2.2];exact hx
theorem Bz{α:Type}{P:α→Prop}{l h m n:Int}{x y:Option α}(hh:0≤l∧l≤h∧h≤m∧m≤n)(hx:Ok P x):Ok P (cond (jS l h m n) x y):=by
 rw[dF hh.1 hh.2.1 hh.2.2.1 hh.2.2.2];exact hx
theorem iv{σ β:Type}{P:β→Prop}{F:Nat→Int→σ→Option β}{len:Nat}(I:Nat→σ→Prop)
  (hs: ∀n i s,i<len→I i s→(∀s',I (i+1) s'→Ok P (F n ((i+1:Nat):Int) s'))→Ok P (F (n+1) (i:Int) s)) (he: ∀n s,I len s→Ok P (F (n+1) (len:Int) s)):
  ∀m n i s,len-i≤m→m<n→i≤len→I i s→Ok P (F n (i:Int) s)
 |m,0,i,s,_,hn,_,_=>ω
 |m,n+1,i,s,hm,hn,hi,hI=>by
  by_cases h:i<len
  ·exact hs n i s h hI λs' ye=>iv I hs he (m-1) n (i+1) s' ω ω ω ye
  ·have:i=len:=ω
   subst this
   exact he n s hI
theorem bc{σ β:Type}{P:β→Prop}{F:Nat→Int→σ→Option β}{len:Nat}(I:Nat→σ→Prop){N:Nat}{s:σ}(h0:I 0 s)(hN:len<N)
  (hs: ∀n i s,i<len→I i s→(∀s',I (i+1) s'→Ok P (F n ((i+1:Nat):Int) s'))→Ok P (F (n+1) (i:Int) s)) (he: ∀n s,I len s→Ok P (F (n+1) (len:Int) s)):Ok P (F N 0 s):=
 iv I hs he len N 0 s ω hN ω h0
theorem lM{β:Type}{P:β→Prop}{F:Nat→Int→Option β}{len N:Nat}(hN:len<N)
  (hs: ∀n i,i<len→Ok P (F n ((i+1:Nat):Int))→Ok P (F (n+1) (i:Int))) (he: ∀n,Ok P (F (n+1) (len:Int))):Ok P (F N 0):=
 bc (σ:=Unit) (F:=λn i _=>F n i) (λ_ _=>True) (s:=()) trivial hN (λn i _ h _ hr=>hs n i h (hr () trivial)) λn _ _=>he n
theorem xy{σ β:Type}{P:β→Prop}{F:Nat→Int→σ→Option β}(I:Nat→σ→Prop)
  (hs: ∀n (k:Nat) s,I (k+1) s→(∀s',I k s'→Ok P (F n (k:Int) s'))→Ok P (F (n+1) ((k+1:Nat):Int) s)) (he: ∀n s,I 0 s→Ok P (F (n+1) 0 s)):
  ∀(k n:Nat) s,k<n→I k s→Ok P (F n (k:Int) s)
 |0,0,s,hn,_=>ω
 |0,n+1,s,hn,hI=>he n s hI
 |k+1,0,s,hn,_=>ω
 |k+1,n+1,s,hn,hI=>hs n k s hI λs' ye=>xy I hs he k n s' ω ye
def G(m:Nat):(τ:Ty)→τ.den→Prop
 | .int .i64,x=>aE x
 | .int .u64,x=>0≤x∧x<18446744073709551616
 | .slice e,l=>List.length l≤m∧ ∀x∈(l:List e.den),G m e x
 | .pair a b,x=>G m a x.1∧G m b x.2
 |_,_=>True
theorem G.mono{m n:Nat}(h:m≤n): ∀{τ:Ty} {x:τ.den},G m τ x→G n τ x
 | .int k,x,hx=>by cases k<;>exact hx
 | .slice e,l,hl=>⟨ck hl.1 h,λx hx=>G.mono h (hl.2 x hx)⟩
 | .pair a b,x,hx=>⟨G.mono h hx.1,G.mono h hx.2⟩
 | .bool,_,_=>trivial
 | .str,_,_=>trivial
 | .unit,_,_=>trivial
 | .arr _ _,_,_=>trivial
theorem G.nil{m:Nat}{e:Ty}:G m (.slice e) ([]:List e.den):=⟨bo _,λx hx=>nomatch hx⟩
theorem G.app{m:Nat}{e:Ty}{l:List e.den}{x:e.den}(h:G m (.slice e) l)(hx:G m e x):G (m+1) (.slice e) (l++[x]):=
 ⟨by have:=h.1;rw[aS,aI];omega,λy hy=>by
  rcases bb.1 hy with hy|hy
  ·exact G.mono ω (h.2 y hy)
  ·rw[bT.1 hy];exact G.mono ω hx⟩
theorem G.get{m:Nat}{e:Ty}{l:List e.den}{d:e.den}(h:G m (.slice e) l)(hd:G m e d)(k:Nat):G m e (l.getD k d):=by
 by_cases hk:k<l.length
 ·rw[aU,bm hk];exact h.2 _ (dz hk)
 ·rw[aU,gC ω];exact hd
theorem G.zero(m:Nat): ∀τ:Ty,G m τ τ.zero
 | .int k=>by cases k<;>first|trivial|exact⟨δ,δ⟩
 | .slice _=>G.nil
 | .pair a b=>⟨G.zero m a,G.zero m b⟩
 | .bool=>trivial
 | .str=>trivial
 | .unit=>trivial
 | .arr _ _=>trivial
theorem G.at{m:Nat}{e:Ty}{l:List e.den}(h:G m (.slice e) l)(k:Nat):G m e (l.getD k e.zero):=h.get (G.zero m e) k
theorem G.set{m:Nat}{e:Ty}{l:List e.den}{x:e.den}(h:G m (.slice e) l)(hx:G m e x)(k:Nat):G m (.slice e) (l.set k x):=
 ⟨by rw[bN];exact h.1,λy hy=>by
  rcases xd hy with hy|rfl
  ·exact h.2 y hy
  ·exact hx⟩
theorem fQ(x:Int):aE (W .i64 x):=by
 rw[iB];unfold aE;split<;>omega
def Bg(k:Nat)(z:aH):Prop:= ∃v,z=cT v∧Fit v k
theorem Bg.mono{j k:Nat}{z:aH}(h:Bg j z)(hk:j≤k):Bg k z:=by
 obtain⟨v,e,f⟩:=h
 exact⟨v,e,Fit.mono f hk⟩
theorem Bg.zero:Bg 1 (false,(([]:List Int),())):=⟨0,iC.symm,by unfold Fit;decide⟩
theorem bp(N:Nat)(hN:4000000≤N){x:Int}(h:aE x):Ok (Bg 2) (jN N x):=np (c4 N ω h.1 h.2) ⟨x,rfl,Fit.i64 h.1 h.2⟩
theorem kI(N:Nat)(hN:4000000≤N){k:Nat}(hk:k≤90000){u v:aH}(hu:Bg k u)(hv:Bg k v):Ok (Bg (k+1)) (yX N u v):=by
 obtain⟨a,rfl,ha⟩:=hu
 obtain⟨b,rfl,hb⟩:=hv
 exact np (iW N hN (Fit.mono ha ω) (Fit.mono hb ω)) ⟨_,rfl,Fit.add ha hb⟩
theorem xz(N:Nat)(hN:4000000≤N){k:Nat}(hk:k≤90000){u v:aH}(hu:Bg k u)(hv:Bg k v):Ok (Bg (k+1)) (Rz N u v):=by
 obtain⟨a,rfl,ha⟩:=hu
 obtain⟨b,rfl,hb⟩:=hv
 exact np (ue N hN (Fit.mono ha ω) (Fit.mono hb ω)) ⟨_,rfl,by rw[Int.sub_eq_add_neg];exact Fit.add ha (Fit.neg hb)⟩
theorem qj(N:Nat)(hN:4000000≤N){k:Nat}(hk:k≤90000){u:aH}(hu:Bg k u):Ok (Bg k) (Tk N u):=by
 obtain⟨a,rfl,ha⟩:=hu
 exact np (jo N hN (Fit.mono ha ω)) ⟨_,rfl,Fit.neg ha⟩
theorem AB(N:Nat)(hN:4000000≤N){k:Nat}(hk:k≤90000){u:aH}(hu:Bg k u):Ok (Bg k) (V4 N u):=by
 obtain⟨a,rfl,ha⟩:=hu
 exact np (Fa N hN (Fit.mono ha ω)) ⟨_,rfl,Fit.of_le ha ω⟩
theorem ln(N:Nat)(hN:4000000≤N){j k:Nat}(hj:j≤90000)(hk:k≤90000){u v:aH}(hu:Bg j u)(hv:Bg k v):Ok (Bg (j+k)) (jJ N u v):=by
 obtain⟨a,rfl,ha⟩:=hu
 obtain⟨b,rfl,hb⟩:=hv
 exact np (wq N hN (Fit.mono ha hj) (Fit.mono hb hk)) ⟨_,rfl,Fit.mul ha hb⟩
theorem DT(N:Nat){k:Nat}{u:aH}(hu:Bg k u):Ok (λ_=>True) (RA N u):=by
 obtain⟨a,rfl,ha⟩:=hu
 exact np (pT N a) trivial
theorem pz(N:Nat)(hN:4000000≤N){j k:Nat}(hj:j≤90000)(hk:k≤90000){u v:aH}(hu:Bg j u)(hv:Bg k v):Ok (λ_=>True) (Pv N u v):=by
 obtain⟨a,rfl,ha⟩:=hu
 obtain⟨b,rfl,hb⟩:=hv
 exact np (PW N hN (Fit.mono ha ω) (Fit.mono hb ω)) trivial
theorem WV(v:Int):aE (Be v).1:=by
 by_cases h:aE v
 ·rw[ng h];exact h
 ·rw[ur h];unfold aE;decide
theorem wP(N:Nat){k:Nat}{u:aH}(hu:Bg k u):Ok (λr=>aE r.1) (wo N u):=by
 obtain⟨a,rfl,ha⟩:=hu
 exact np (qR N a) (WV a)
end VM
end
section
namespace VM
open Go VM.F
abbrev L3(m:Nat)(l:au):Prop:=G m (.slice jk) l
def jL(m:Nat)(p:bE):Prop:=p.length≤m∧ ∀y∈p,Bg 8 y.2.2.1
theorem jL.at{m:Nat}{p:bE}(h:jL m p)(i:Nat):Bg 8 (p.getD i ((0:Int),((0:Int),((false,pb),())))).2.2.1:=by
 by_cases hk:i<p.length
 ·rw[aU,bm hk];exact h.2 _ (dz hk)
 ·rw[aU,gC ω];exact Bg.mono Bg.zero δ
theorem jL.nil{m:Nat}:jL m []:=⟨bo _,λx hx=>nomatch hx⟩
theorem jL.app{m n:Nat}{p q:bE}(h:jL m p)(h':jL n q):jL (m+n) (p++q):=
 ⟨by have:=h.1;have:=h'.1;rw[aS];omega,λy hy=>(bb.1 hy).elim (h.2 y) (h'.2 y)⟩
theorem jL.mono{m n:Nat}{p:bE}(h:jL m p)(hm:m≤n):jL n p:=⟨ck h.1 hm,h.2⟩
theorem CF(N:Nat){k:Nat}{u:aH}(hu:Bg k u):Ok (λr=>aE r.1) (Qa N u):=by
 unfold Qa
 refine af (wP N hu) λr h=>bt (λ_=>an (by unfold aE;decide)) λ_=>ok_eq (λ_=>an (by unfold aE;decide)) λ_=>an h
theorem iI{x:Int}(h0: -1000000≤x)(h1:x≤1000000):aE x:=by unfold aE;omega
theorem G3{m:Nat}{a b c:Int}(ha:aE a)(hb:aE b)(hc:aE c):G m jk (a,(b,(c,()))):=⟨ha,hb,hc,trivial⟩
theorem bJ:aE 0:=by unfold aE;decide
theorem TR(N:Nat)(hN:4000000≤N){x k n:Int}{p:bE}(hx:aE x)(hp:jL 50000 p):Ok (λr=>aE r.1) (nh N x k n p):=by
 have hl:=hp.1
 refine bc (len:=p.length) (F:=λn' i (s:aH×Bool)=>nh.l3 N n' x k n p s.1 s.2 i) (s:=(_,_)) (λi s=>Bg (8+i) s.1) (Bg.mono Bg.zero ω) ω (λn' i s hi hI hr=> ?_) (λn' s hI=> ?_)
 all_goals unfold nh.l3 nh.nC
 ·rw[ax (x:=(i:Int)+1) ω ω,ag i]
  have h1:=hr (s.1,s.2) (Bg.mono hI ω)
  repeat' first|exact h1|refine aB ⟨ω,ω⟩ ?_|refine aw (λ_=> ?_) (λ_=> ?_)|refine ok_eq (λ_=> ?_) (λ_=> ?_)|(exfalso;omega)|exact af (kI N hN ω hI (Bg.mono (hp.at _) ω)) λr h=>hr (r,true) h
 ·refine aw (λ_=>ω) λ_=>bt (λ_=>an hx) λ_=>af (bp N hN hx) λr h=>af (kI N hN ω hI (Bg.mono h ω)) λr h=>af (wP N h) λr h=>an h
theorem aah(N:Nat)(hN:4000000≤N){l:au}{p:bE}{m:Nat}(hm:m≤50000)(hl:L3 m l)(hp:jL 50000 p):Ok (λr=>L3 200 r.1) (dt N l p):=by
 have GJ:=hl.1
 refine iv (len:=8) (F:=λn k (s:au×Int)=>dt.l4 N n l p s.1 s.2 k) (λi s=>L3 (25*i) s.1∧0≤s.2) (λn i s hi hI hr=> ?_) (λn s hI=> ?_) 8 N 1 (_,_) ω ω ω ⟨G.nil,fE 0⟩
 all_goals unfold dt.l4 dt.dv
 ·refine dU (λ_=> ?_) (λ_=>ω)
  refine bc (len:=25) (F:=λn' j (s:au×Int)=>dt.l7 N (dt.l4 N n) n' l p s.1 s.2 (i:Int) j) (s:=s) (λj s=>L3 (25*i+j) s.1∧0≤s.2) hI ω (λn' j s hj hI eJ=> ?_) (λn' s hI=> ?_)
  all_goals unfold dt.l7 dt.pj
  ·have lK: ∀(k x:Int),0≤k→aE x→Ok (λr=>L3 200 r.1) (dt.RS N (dt.l4 N n) (dt.l7 N (dt.l4 N n) n') l p s.1 k (i:Int) (j:Int) x):=λk x hk hx=>by
    unfold dt.RS dt.Kb
    rw[ax (x:=(j:Int)+1) ω ω,ag j]
    have hs:=hI.1.1
    refine af (TR N hN hx hp) λr h=>bt (λ_=>an G.nil) λ_=>bx (λ_=>aC (by rw[aI];omega) (eJ (_,k) ⟨G.app hI.1 (G3 (iI ω ω) (iI ω ω) h),hk⟩)) λ_=>eJ (s.1,k) ⟨G.mono ω hI.1,hk⟩
   have h0:=lK s.2 0 hI.2 bJ
   have Tf:=hI.2
   repeat' first|exact h0|refine aB ⟨ω,ω⟩ ?_|refine aw (λ_=> ?_) (λ_=> ?_)|refine dU (λ_=> ?_) (λ_=> ?_)|refine ok_eq (λ_=> ?_) (λ_=> ?_)|(exfalso;omega)|exact lK _ _ (by rw[ax (x:=s.2+1) ω ω];omega) (G.at hl _).2.2.1
  ·rw[ax (x:=(i:Int)+1) ω ω,ag i]
   exact dU (λ_=>ω) λ_=>hr s ⟨G.mono ω hI.1,hI.2⟩
 ·exact dU (λ_=>ω) λ_=>an (G.mono δ hI.1)
theorem Qq(N:Nat)(hN:4000000≤N){l t:au}{m:Nat}(hm:m≤50000)(hl:L3 m l)(ht:L3 50000 t):Ok (λr=>L3 200 r.1) (ct N l t):=by
 have GJ:=hl.1
 have htl:=ht.1
 refine bc (len:=25) (F:=λn k (s:au×Int)=>ct.l4 N n l t s.1 s.2 k) (s:=(_,_)) (λi s=>L3 (6*i) s.1∧0≤s.2) ⟨G.nil,fE 0⟩ ω (λn i s hi hI hr=> ?_) (λn s hI=> ?_)
 all_goals unfold ct.l4 ct.dv
 ·refine dU (λ_=> ?_) (λ_=>ω)
  refine bc (len:=6) (F:=λn' j (s:au×Int)=>ct.l7 N (ct.l4 N n) n' l t s.1 s.2 (i:Int) j) (s:=s) (λj s=>L3 (6*i+j) s.1∧0≤s.2) hI ω (λn' j s hj hI eJ=> ?_) (λn' s hI=> ?_)
  all_goals unfold ct.l7 ct.pj
  ·have lK: ∀(k x:Int),0≤k→aE x→Ok (λr=>L3 200 r.1) (ct.RS N (ct.l4 N n) (ct.l7 N (ct.l4 N n) n') l t s.1 k (i:Int) (j:Int) x false):=λk x hk hx=>by
    unfold ct.RS ct.Kb
    have hs:=hI.1.1
    have zI: ∀y:Int,aE y→Ok (λr=>L3 200 r.1) (cond (!aO y 0) (cond (small (s.1.length+[(((i:Int),((j:Int),(y,()))):db)].length)) (ct.l7 N (ct.l4 N n) n' l t (s.1++[((i:Int),((j:Int),(y,())))]) k (i:Int) (W .i64 ((j:Int)+1))) none) (ct.l7 N (ct.l4 N n) n' l t s.1 k (i:Int) (W .i64 ((j:Int)+1)))):=λy hy=>by
     rw[ax (x:=(j:Int)+1) ω ω,ag j]
     exact bx (λ_=>aC (by rw[aI];omega) (eJ (_,k) ⟨G.app hI.1 (G3 (iI ω ω) (iI ω ω) hy),hk⟩)) λ_=>eJ (s.1,k) ⟨G.mono ω hI.1,hk⟩
    refine bc (len:=t.length) (F:=λIQ u (z:aH×Bool)=>ct.Ir N (ct.l4 N n) (ct.l7 N (ct.l4 N n) n') IQ l t s.1 k (i:Int) (j:Int) x z.2 z.1 u) (s:=(_,_)) (λu z=>Bg (3+u) z.1) (Bg.mono Bg.zero ω) ω (λIQ u z hu hz WW=> ?_) (λIQ z hz=> ?_)
    all_goals unfold ct.Ir ct.Hp
    ·rw[ax (x:=(u:Int)+1) ω ω,ag u]
     have h1:=WW (z.1,z.2) (Bg.mono hz ω)
     repeat' first|exact h1|refine aB ⟨ω,ω⟩ ?_|refine aw (λ_=> ?_) (λ_=> ?_)|refine ok_eq (λ_=> ?_) (λ_=> ?_)|(exfalso;omega)|exact af (bp N hN (G.at ht _).2.2.1) λr h=>af (kI N hN ω hz (Bg.mono h ω)) λr h=>WW (r,true) h
    ·exact aw (λ_=>ω) λ_=>oZ (λ_=>af (bp N hN hx) λr h=>af (kI N hN ω hz (Bg.mono h ω)) λr h=>af (CF N h) λr h=>bt (λ_=>an G.nil) λ_=>zI _ h) λ_=>zI _ hx
   have h0:=lK s.2 0 hI.2 bJ
   have Tf:=hI.2
   repeat' first|exact h0|refine aB ⟨ω,ω⟩ ?_|refine aw (λ_=> ?_) (λ_=> ?_)|refine dU (λ_=> ?_) (λ_=> ?_)|refine ok_eq (λ_=> ?_) (λ_=> ?_)|(exfalso;omega)|exact lK _ _ (by rw[ax (x:=s.2+1) ω ω];omega) (G.at hl _).2.2.1
  ·rw[ax (x:=(i:Int)+1) ω ω,ag i]
   exact aw (λ_=>ω) λ_=>hr s ⟨G.mono ω hI.1,hI.2⟩
 ·exact dU (λ_=>ω) λ_=>an (G.mono δ hI.1)
theorem G.iJ{m:Nat}:G m aK (cm,(c8,(bH,(bH,(dC,(dP,())))))):=G.zero m aK
theorem sx(N:Nat)(hN:4000000≤N){b:aq}{s:au}{p:bE}{m:Nat}(h2:200≤m)(hm:m≤50000)(hb:G m aK b)(hs:L3 50000 s)(hp:jL 50000 p):Ok (λr=>G m aK r.1) (xT N b s p):=by
 unfold xT
 exact af (Qq N hN hm hb.2.2.2.1 hs) λr h=>bt (λ_=>an G.iJ) λ_=>af (aah N hN hm hb.2.2.1 hp) λr' h'=>bt (λ_=>an G.iJ) λ_=>an ⟨hb.1,hb.2.1,G.mono h2 h',G.mono h2 h,hb.2.2.2.2⟩
end VM
end
section
namespace VM
open Go VM.F
theorem bA{α β:Type}{P:β→Prop}{o:Option α}{r:α}{f:α→Option β}(h:o=some r)(hf:Ok P (f r)):Ok P (o.bind f):=by rw[h];exact hf
theorem G.wf{m:Nat}(hm:m≤50000){b:aq}(h:G m aK b):xu b:=by
 obtain⟨h1,h2,h3,h4,h5,h6,_⟩:=h
 exact⟨⟨ck h1.1 ω,ck h2.1 ω,ck h3.1 ω,ck h4.1 ω,ck h5.1 ω,ck h6.1 ω,λx hx=>(h3.2 x hx).2.2.1,λx hx=>(h4.2 x hx).2.2.1⟩,ck h3.1 ω,ck h4.1 ω⟩
theorem dG(N:Nat)(hN:5000000≤N){c:ae}{b:aq}{m:Nat}(hm:m≤50000)(h:G m aK b):fW N c b=some (dx c b):=Ae N hN (G.wf hm h).w
theorem aai{x:Int}(h:iY x):aE x:=by unfold iY at h;unfold aE;omega
theorem Hu(N:Nat)(hN:4000000≤N)(t:sK)(p:Int):Ok (λr=>jL 2 r.1) (Qk N t p):=by
 unfold Qk
 refine bA (xw N t) (bt (λ_=>an jL.nil) λht=>bA (iE N p) (bt (λ_=>an jL.nil) λ_=>af (bp N hN (fQ _)) λa ha=>af (bp N hN ?_) λq hq=>af (ln N hN ω ω ha hq) λx hx=>af (DT N hx) λ_ _=>ok_eq (λ_=>an jL.nil) λ_=> ?_))
 ·have:=bz ht
  unfold nj ki at this
  exact fD δ this.2.2.2.2.1.1 |> λh=>⟨h,qq this.2.2.2.2.1.2 δ⟩
 ·unfold Ki
  have hr: ∀a:Int,Ok (λ_=>True) (cond (aO a 0) (some ((2:Int),(0:Int))) (some ((5:Int),a))):=λa=>ok_eq (λ_=>an trivial) λ_=>an trivial
  refine af (hr _) λ_ _=>af (hr _) λ_ _=>af (qj N hN ω hx) λy hy=>an ⟨aG 2,λz hz=> ?_⟩
  rcases aX.1 hz with rfl|hz
  ·exact Bg.mono hx ω
  ·rw[bT.1 hz];exact Bg.mono hy ω
theorem Nn(N:Nat)(hN:200000≤N){b:aq}{m:Nat}(hm:m≤50000)(h:G m aK b)(id:Int):Ok (λ_=>True) (J8 N b id):=np (tp N b (G.wf hm h).w.a hN id) trivial
theorem IS(N:Nat)(hN:5000000≤N)(c:ae){b:aq}{l:bK}{m:Nat}(h2:200≤m)(hm:m≤50000)(hb:G m aK b):Ok (λr=>G m aK r.1) (gv N c b l):=by
 unfold gv gv.b
 refine bA (dG N hN hm hb) (bt (λ_=>an G.iJ) λhB=>aw (λ_=>an G.iJ) λhl=> ?_)
 obtain⟨hp,_⟩:=g9 hB
 refine bc (len:=l.length) (F:=λn i (_:Unit)=>gv.l4 N n l c b (cm,(c8,(bH,(bH,(dC,(dP,())))))) i) (s:=()) (λi _=> ∀j,j<i→nj (l.getD j mz)) (λj hj=>ω) ω (λn i _ hi hI hr=> ?_) (λn _ hI=> ?_)
 all_goals unfold gv.l4 gv.dv
 ·rw[ax (x:=(i:Int)+1) ω ω,ag i]
  refine aw (λ_=>aB ⟨ω,ω⟩ (bA (xw N _) (bt (λ_=>an G.iJ) λht=>hr () λj hj=> ?_))) λ_=>ω
  by_cases e:j=i
  ·rw[e];exact bz ht
  ·exact hI j ω
 ·refine aw (λ_=>ω) λ_=> ?_
  refine bc (len:=l.length) (F:=λn i (s:au×bE)=>gv.BA N n l c b (cm,(c8,(bH,(bH,(dC,(dP,())))))) s.1 s.2 i) (s:=(_,_)) (λi s=>L3 (2*i) s.1∧jL (2*i) s.2) ⟨G.nil,jL.nil⟩ ω (λn i s hi hJ hr=> ?_) (λn s hJ=> ?_)
  all_goals unfold gv.BA gv.yO
  ·have ht:=hI i hi
   unfold nj ki at ht
   have Pn:=hJ.1.1
   have Tf:=hJ.2.1
   have g64: ∀x:Int,0≤x∧x≤1000000→aE x:=λx h=>iI ω ω
   dsimp only
   rw[ax (x:=(i:Int)+1) ω ω,ag i,aJ]
   refine aw (λ_=>aB ⟨ω,ω⟩ (af (Nn N ω hm hb _) λ_ _=>bt (λ_=>an G.iJ) λ_=>af (Nn N ω hm hb _) λ_ _=>bt (λ_=>an G.iJ) λ_=>dU (λ_=>an G.iJ) λeZ=>aC ?_ (aB ⟨ht.2.2.2.1.1,ω⟩ (af (Hu N ω _ _) λr h=>aC ?_ (hr (_,_) ⟨?_,jL.mono (jL.app hJ.2 h) ω⟩))))) λ_=>ω
   ·rw[aR,aI];omega
   ·have:=h.1;omega
   ·have hq:aE (l.getD i mz).2.2.2.1:=⟨fD δ ht.2.2.2.2.1.1,qq ht.2.2.2.2.1.2 δ⟩
    have mX:aE (l.getD i mz).2.2.1:=g64 _ ⟨ht.2.2.2.1.1,fD (Int.le_of_lt ht.2.2.2.1.2) δ⟩
    have h1:=G.app (G.app hJ.1 (G3 (g64 _ ⟨ht.1.1,fD ht.1.2 δ⟩) mX hq)) (G3 (g64 _ ⟨ht.2.1.1,fD ht.2.1.2 δ⟩) mX (fQ (0-(l.getD i mz).2.2.2.1)))
    rw[br]at h1
    exact G.mono ω h1
  ·exact aw (λ_=>ω) λ_=>af (sx N ω h2 hm hb (G.mono ω hJ.1) (jL.mono hJ.2 ω)) λr h=>an h
end VM
end
section
namespace VM
open Go VM.F
def Hv(k:Nat)(l:o0):Prop:= ∀x∈l,Bg k x
theorem Hv.mono{j k:Nat}{l:o0}(h:Hv j l)(hk:j≤k):Hv k l:=λx hx=>Bg.mono (h x hx) hk
theorem Hv.at{k:Nat}{l:o0}(h:Hv k l)(h1:1≤k)(i:Nat):Bg k (l.getD i (false,pb)):=by
 by_cases hk:i<l.length
 ·rw[aU,bm hk];exact h _ (dz hk)
 ·rw[aU,gC ω];exact Bg.mono Bg.zero h1
theorem Hv.set{k:Nat}{l:o0}{x:aH}(h:Hv k l)(hx:Bg k x)(i:Nat):Hv k (l.set i x):=λy hy=>by
 rcases xd hy with hy|rfl
 ·exact h y hy
 ·exact hx
theorem Hv.rep{k n:Nat}(h:1≤k):Hv k (List.replicate n (false,pb)):=λx hx=>by
 rw[(List.mem_replicate.1 hx).2];exact Bg.mono Bg.zero h
theorem aaj(N:Nat)(hN:5000000≤N)(c:ae){b:aq}{m:Nat}(hm:m≤50000)(hb:G m aK b):Ok (λr=>(r.2=0→dx c b=true∧r.1.length=4)∧Hv 20 r.1) (q7 N c b):=by
 unfold q7 q7.b
 have w:=(G.wf hm hb).w
 refine bA (dG N hN hm hb) (bt (λ_=>an ⟨λh=>absurd h δ,λx hx=>nomatch hx⟩) λhB=>aag ⟨ω,ω,ω⟩ ?_)
 obtain⟨hp,hpr⟩:=g9 hB
 obtain⟨h6,hbk⟩:=Cx (uC hB)
 refine bc (len:=c.1.length) (F:=λn i (s:o0)=>q7.l5 N n c b s i) (λi s=>s.length=4∧Hv (8+i) s) ⟨cP ..,Hv.rep ω⟩ ω (λn i s hi hI hr=> ?_) (λn s hI=> ?_)
 all_goals unfold q7.l5 q7.dV
 ·have hk:=hbk i hi
  have hl:=hI.1
  rw[ax (x:=(i:Int)+1) ω ω,ag i,aJ]
  have in1: ∀{x y:Option (o0×Int)},Ok (λr=>(r.2=0→dx c b=true∧r.1.length=4)∧Hv 20 r.1) x→Ok (λr=>(r.2=0→dx c b=true∧r.1.length=4)∧Hv 20 r.1) (cond (ba (c.1.getD i aV).1 s.length) x y):=λh=>aB ⟨hk.1,qq hk.2 (show(3:Int)<(s.length:Int)by omega)⟩ h
  exact aw (λ_=>aB ⟨ω,ω⟩ (in1 (bA (DQ N w.s ω 0 (i:Int)) (af (bp N ω (WJ w.qs 0 (i:Int))) λa ha=>aB ⟨ω,ω⟩ (af (bp N ω (aai (M9 hpr ω))) λp hp=>af (ln N ω ω ω ha hp) λx hx=>af (kI N ω ω (Hv.at hI.2 ω _) (Bg.mono hx ω)) λy hy=>in1 (hr _ ⟨by rw[bN];exact hl,Hv.set (Hv.mono hI.2 ω) hy _⟩)))))) λ_=>ω
 ·exact aw (λ_=>ω) λ_=>an ⟨λ_=>⟨hB,hI.1⟩,Hv.mono hI.2 ω⟩
theorem amy{v:Int}(h:(Be v).2=true):(Be v).1=v:=by
 by_cases h':aE v
 ·rw[ng h']
 ·rw[ur h']at h;exact nomatch h
def Hw(c:ae)(x:bX):Prop:=((λi n:Int=>0≤i∧i<n) x.2.1 c.1.length)∧qIn x.2.2.2.1
theorem IT(N:Nat)(hN:5000000≤N)(c:ae)(hc:aE (amw c)){b:aq}{m:Nat}(hm:m≤50000)(hb:G m aK b)(next:Int):Ok (λr=>G 4 (.slice ej) r.1∧ ∀x∈r.1,Hw c x) (iM N c b next):=by
 unfold iM iM.b
 refine af (aaj N hN c hm hb) λz hz=>bx (λ_=>an ⟨G.nil,λx hx=>nomatch hx⟩) λh0=>aw (λ_=>an ⟨G.nil,λx hx=>nomatch hx⟩) λh1=>aw (λ_=>an ⟨G.nil,λx hx=>nomatch hx⟩) λh2=> ?_
 obtain⟨hB,hl4⟩:=hz.1 h0
 obtain⟨hp,hpr⟩:=g9 hB
 obtain⟨h6,hbk⟩:=Cx (uC hB)
 refine bc (len:=4) (F:=λn k (s:Int×aM)=>iM.l6 N n s.1 c b z.1 s.2 k) (s:=(_,_)) (λk s=>(G k (.slice ej) s.2∧ ∀x∈s.2,Hw c x)∧next≤s.1∧s.1≤next+k) ⟨⟨G.nil,λx hx=>nomatch hx⟩,ω,ω⟩ ω (λn k s hk hI hr=> ?_) (λn s hI=> ?_)
 all_goals unfold iM.l6 iM.ud
 ·have Pn:=hI.1.1.1
  have Tf:=hI.2
  rw[ax (x:=(k:Int)+1) ω ω,ag k]
  have sd:=hr s ⟨⟨G.mono ω hI.1.1,hI.1.2⟩,ω,ω⟩
  obtain⟨a,ea,ha⟩:=Hv.at hz.2 ω k
  have ha':Fit (a.natAbs:Int) 20:=Fit.of_le ha ω
  refine aw (λ_=>bA (Ql N ω c ω (k:Int)) (aB ⟨ω,ω⟩ (bA (by rw[aJ,ea];exact Fa N ω (ha.mono ω)) (ok_eq (λ_=>sd) λjH=>af (bp N ω hc) λv hv=>af (pz N ω ω ω ⟨_,rfl,ha'⟩ hv) λ_ _=>dU (λ_=>sd) λ_=> ?_)))) λ_=>ω
  have amz:iG c (k:Int)≠[]:=λe=>jH (by rw[e];rfl)
  have hh:0≤(iG c (k:Int)).getD 0 0∧(iG c (k:Int)).getD 0 0<(c.1.length:Int):=by
   have h1:=amz
   unfold iG at h1 ⊢
   rw[uC hB,aj rfl]at h1 ⊢
   have:=CE h1
   omega
  have hl0:0<(iG c (k:Int)).length:=rU.2 amz
  have hpx:=M9 hpr (i:=((iG c (k:Int)).getD 0 0).toNat) ω
  have hj: ∀q:Int,0≤q∧q≤1000000000→Ok (λr=>G 4 (.slice ej) r.1∧ ∀x∈r.1,Hw c x) (iM.AU N (iM.l6 N n) s.1 c b z.1 s.2 (k:Int) (iG c (k:Int)) q):=λq hq=>by
   have arR:aE q:=by unfold aE;omega
   unfold iM.AU iM.uI
   rw[ax (x:=(k:Int)+1) ω ω,ag k,ax (x:=s.1+1) ω ω]
   have zI:q≠0→ ∀d:Int,aE d→Ok (λr=>G 4 (.slice ej) r.1∧ ∀x∈r.1,Hw c x) (cond (small (s.2.length+[((s.1,((iG c (k:Int)).getD 0 0,(d,(q,())))):bX)].length)) (iM.l6 N n (s.1+1) c b z.1 (s.2++[(s.1,((iG c (k:Int)).getD 0 0,(d,(q,()))))]) ((k+1:Nat):Int)) none):=λxi d hd=>
    aC (by rw[aI];omega) (hr (_,_) ⟨⟨G.app hI.1.1 ⟨by show aE s.1;unfold aE;omega,(show aE ((iG c (k:Int)).getD 0 0)from iI ω ω),hd,arR,trivial⟩,λx hx=>by
     rcases bb.1 hx with hx|hx
     ·exact hI.1.2 x hx
     ·rw[List.mem_singleton.1 hx];exact⟨hh,show 1≤q∧q≤1000000000 by omega⟩⟩,by dsimp only;omega,by dsimp only;omega⟩)
   exact ok_eq (λ_=>sd) λxi=>aB ⟨ω,ω⟩ (aB ⟨ω,ω⟩ (af (DT N (Hv.at hz.2 ω _)) λ_ _=>aw (λ_=>zI xi 2 (iI ω ω)) λ_=>zI xi 1 (iI ω ω)))
  refine aB ⟨ω,ω⟩ (aB ⟨hh.1,by show(iG c (k:Int)).getD 0 0<_;omega⟩ ?_)
  have arS:=hpx
  unfold iY at arS
  rw[show(0:Int).toNat=0 from rfl]
  refine bA (c4 N ω ω ω) (bA (RE N hN ω (Fit.mono ha' ω) ((Fit.i64 ω ω).mono ω)) (bA (qR N _) (bt (λ_=>hj _ δ) λht=>aw (λ_=>hj _ δ) λhle=>hj _ ?_)))
  rw[amy ht]at hle ⊢
  exact⟨sU ω ω,hle⟩
 ·exact aw (λ_=>ω) λ_=>an hI.1
theorem TS(N:Nat)(hN:5000000≤N)(c:ae)(hc:aE (amw c)){b:aq}{m:Nat}(hm:m≤50000)(hb:G m aK b)(next:Int):Ok (λr=>G 4 (.slice ej) r.1) (iM N c b next):=Kr (IT N hN c hc hm hb next) λ_ h=>h.1
end VM
end
