/- A part of the proof of WindEmpty of layer 21: what the functions compute, in plain words. -/
import Derived.Test.YtecmobijochjkaaGreatPlain3
set_option linter.all false
section
namespace VM
open Go VM.F
theorem CW(N:Nat)(hN:5000000≤N){t:Int}{w:List Int}(ht:0≤t)(vE:t<9223372036854775808)(hw:w.length≤64)(hp:Pos w)(hS:0<w.sum)(hS1:w.sum<9223372036854775808):
  ∀(m n i:Nat) (q r:List Int),w.length-i≤m→m<n→i≤w.length→q.length=w.length→r.length=w.length→q.take i=rV t w.sum (w.take i)→r.take i=ld t w.sum (w.take i)→
  fO.I1 N n t w (cS w.sum) q r (t-(rV t w.sum (w.take i)).sum) (i:Int)=some (bR t w,0)
 |m,0,i,q,r,_,hn,_,_,_,_,_=>ω
 |m,n+1,i,q,r,hm,hn,hi,hq,hr,eq,er=>by
  unfold fO.I1 fO.FZ
  by_cases h:i<w.length
  ·have hwi:=gZ hp i
   have arY:=y5 hp i
   have hb:=mul_lt ht hwi (show t≤9223372036854775807 by omega) (show w.getD i 0≤9223372036854775807 by omega)
   have hqi:t*w.getD i 0/w.sum≤t:=Int.ediv_le_of_le_mul hS (xm arY ht)
   have aza:0≤t*w.getD i 0/w.sum:=ta hb.1 ω
   have hri:=zu (t*w.getD i 0) hS
   have azb:=Ev (t*w.getD i 0) (show w.sum≠0 by omega)
   have hs0:=W8 ht hS (CU hp i)
   have Lx:=jL (FV ht (by omega:0≤w.sum) (NC hp i))
   have ft:Fit t 2:=Fit.i64 ω ω
   have fw:Fit (w.getD i 0) 2:=Fit.i64 ω ω
   have fS:Fit w.sum 2:=Fit.i64 ω ω
   rw[aT ω,aq,cP N ω ω vE,ar,a6 ω ω,aq,aJ,cP N ω ω ω,ar,
    wI N ω (ft.mono ω) (fw.mono ω),ar,RZ N ω hS ((ft.mul fw).mono ω) (fS.mono ω),ar]
   dsimp only
   rw[q3,ar,KL ω ω,q3,KL ω ω]
   dsimp only
   rw[ar,a6 ω ω,aq,a6 ω ω,aq,bN,a6 ω ω,aq,mB q _ ω,ay (x:=(i:Int)+1) ω ω,ay ω ω]
   have wL:=CW N hN ht vE hw hp hS hS1 (m-1) n (i+1) (q.set i (t*w.getD i 0/w.sum)) (r.set i (t*w.getD i 0%w.sum)) ω ω ω (by rw[bN];exact hq) (by rw[bN];exact hr)
    (by rw[take_set q _ ω,eq,hZ w h];unfold rV;simp)
    (by rw[take_set r _ ω,er,hZ w h];unfold ld;simp)
   rw[←IY,lB _ (by rw[w1];exact h),Sj,IY]at wL
   rw[Int.sub_sub]
   exact wL
  ·have m4:i=w.length:=ω
   subst m4
   rw[jF ω,jF ω]at eq er
   subst eq er
   rw[jF ω]
   have Lx:=jL (FV ht (by omega:0≤w.sum) hp)
   have h1:=FY ht hS
   unfold mF at h1
   rw[aP ω,av,T9 N (by rw[pa];omega) (by rw[pa];omega),ar]
   have hlen:=y4 (ld t w.sum w)
   rw[pa]at hlen
   have we:=FW N (ks:=kt (ld t w.sum w)) ω w.length (λk hk=>by have:=FX _ k hk;rwa [pa]at this) 1000 N 0 (t-(rV t w.sum w).sum).toNat (rV t w.sum w) ω ω ω (w1 ..) (FV ht ω hp) ω ω
   rw[cZ,vI h1]at we
   exact we
theorem BO(N:Nat)(hN:5000000≤N){t:Int}{w:List Int}(vE:t<9223372036854775808)(hw:IX w)(hl:w.length≤1000000):fO N t w=some (rl t w):=by
 unfold fO fO.b rl
 rw[FU N ω,ar]
 by_cases h1:t<0
 ·rw[bu h1,Bool.true_or,aq,aj (.inl h1)]
 rw[cj h1,tc]
 cases h2:may w
 ·rw[c0,aq,aj (.inr rfl)]
 rw[bn,av,ah (by simp[h1]),yS N ω hw hl,ar,p3,ar]
 obtain⟨F0,hp⟩:=oN.1 h2
 have hS0:=jL hp
 have hj: ∀h: ¬9223372036854775808≤w.sum,fO.j6 N t w (cS w.sum)=if w.sum=0 then some (List.replicate w.length 0,0)else some (bR t w,0):=λh=>by
  unfold fO.j6 fO.TJ
  rw[q3,ar,KL ω ω,bn,av,cM ω ω ω,aq,aq,p3,ar,aJ]
  by_cases h4:w.sum=0
  ·rw[aj h4,h4,show vv 0=0 from rfl,dW rfl,aq]
  ·rw[ah h4,dX (by unfold vv;repeat' split<;>omega),av]
   have:=CW N hN ω vE F0 hp ω ω w.length N 0 (List.replicate w.length 0) (List.replicate w.length 0) ω ω ω (cR ..) (cR ..) rfl rfl
   rw[oS]at this
   simp only[rV,ja,iC,EB]at this
   exact this
 by_cases h3:9223372036854775808≤w.sum
 ·rw[aj h3,dX (by unfold vv;repeat' split<;>omega),av]
  unfold fO.j6 fO.TJ
  rw[q3,ar];unfold BA;rw[ah ω];rfl
 rw[ah h3,hj h3]
 by_cases h4:w.sum=0
 ·rw[aj h4,aj h4,h4,show vv 0=0 from rfl,dW rfl,aq]
  by_cases h5:t=0
  ·rw[aj h5,dW h5,bn,av]
  ·rw[ah h5,dX h5,c0,aq]
 ·rw[ah h4,ah h4,dX (by unfold vv;repeat' split<;>omega),av]
def I2(t n:Int):List Int×Int:=if t<0∨n<1∨64<n then([],1)else rl t (List.replicate n.toNat 1)
theorem W9(n:Nat):IX (List.replicate n 1):=λx hx=>by rw[zo hx];omega
theorem I3(N:Nat)(hN:5000000≤N){t:Int}{k:Nat}(hk:k≤64)(vE:t<9223372036854775808): ∀(m n i:Nat),k-i≤m→m<n→i≤k→
  rm.l5 N n t (k:Int) (List.replicate i 1++List.replicate (k-i) 0) (i:Int)=some (rl t (List.replicate k 1))
 |m,0,i,_,hn,_=>ω
 |m,n+1,i,hm,hn,hi=>by
  unfold rm.l5 rm.ed
  by_cases h:i<k
  ·rw[aT ω,aq,a6 ω (by simp;omega),aq,ay ω ω]
   refine Eq.trans ?_ (I3 N hN hk vE (m-1) n (i+1) ω ω ω)
   congr 1
   rw[aJ,Md _ _ (by simp),cR,tg,show k-i=(k-(i+1))+1 by omega,zt,List.set_cons_zero,List.replicate_succ',bt]
   rfl
  ·rw[aP ω,av,show k-i=0 by omega,List.replicate_zero,ch,show i=k by omega,BO N hN vE (W9 _) (by rw[cR];omega)]
   rfl
theorem Xa(N:Nat)(hN:5000000≤N){t n:Int}(vE:t<9223372036854775808):rm N t n=some (I2 t n):=by
 unfold rm rm.b I2
 by_cases h1:t<0
 ·rw[aT h1,aq,aj (.inl h1)]
 by_cases h2:n<1
 ·rw[aP ω,av,aT h2,aq,aj (.inr (.inl h2))]
 by_cases h3:64<n
 ·rw[aP ω,av,aP ω,av,aT h3,aq,aj (.inr (.inr h3))]
 rw[aP ω,av,aP ω,av,aP ω,av,ah ω,cM ω ω ω,aq]
 have:=I3 N hN (t:=t) (k:=n.toNat) ω vE n.toNat N 0 ω ω ω
 rw[List.replicate_zero,cJ,Nat.sub_zero,vI ω]at this
 exact this
end VM
end
section
namespace VM
open Go VM.F
def F1(n:Nat)(f:Nat→Int):List Int:=(List.range n).map f
theorem gJ(n:Nat)(f:Nat→Int):(F1 n f).length=n:=by unfold F1;rw[ct,vJ]
theorem gF{n:Nat}{f:Nat→Int}{i:Nat}(h:i<n):(F1 n f).getD i 0=f i:=by
 unfold F1
 rw[aU,pV,List.getElem?_range h];rfl
theorem KM(n:Nat)(f:Nat→Int)(i:Nat):(F1 n f).getD i 0=if i<n then f i else 0:=by
 by_cases h:i<n
 ·rw[aj h,gF h]
 ·rw[ah h,uy _ (by rw[gJ];omega)]
theorem aaw{n:Nat}{f:Nat→Int}(h: ∀i,i<n→0≤f i):Pos (F1 n f):=λx hx=>by
 obtain⟨i,hi,rfl⟩:=cA.1 hx
 exact h i (qG.1 hi)
theorem sI{l:List Int}(h: ∀i,i<l.length→0≤l.getD i 0):Pos l:=λx hx=>by
 obtain⟨i,hi,rfl⟩:=qy.1 hx
 have:=h i hi
 rwa [aU,bk hi]at this
theorem xG: ∀{a b:List Int},a.length=b.length→(∀i,i<a.length→a.getD i 0≤b.getD i 0)→a.sum≤b.sum
 |[],[],_,_=>fI _
 |[],_::_,h,_=>nomatch h
 |_::_,[],h,_=>nomatch h
 |x::a,y::b,h,h1=>by
  have:=xG (a:=a) (b:=b) (by simpa using h) (λi hi=>by have:=h1 (i+1) (by simpa using hi);simpa using this)
  have h2:x≤y:=by have:=h1 0 (by simp);simpa using this
  rw[cw,cw];omega
theorem F2: ∀{a b c:List Int},a.length=b.length→a.length=c.length→(∀i,i<a.length→a.getD i 0=b.getD i 0+c.getD i 0)→a.sum=b.sum+c.sum
 |[],[],[],_,_,_=>rfl
 |[],_::_,_,h,_,_=>nomatch h
 |[],[],_::_,_,h,_=>nomatch h
 |_::_,[],_,h,_,_=>nomatch h
 |_::_,_::_,[],_,h,_=>nomatch h
 |x::a,y::b,z::c,h,h',h1=>by
  have:=F2 (a:=a) (b:=b) (c:=c) (by simpa using h) (by simpa using h') (λi hi=>by have:=h1 (i+1) (by simpa using hi);simpa using this)
  have h2:x=y+z:=by have:=h1 0 (by simp);simpa using this
  rw[cw,cw,cw];omega
theorem w3: ∀{a:List Int},(∀i,i<a.length→a.getD i 0=0)→a.sum=0
 |[],_=>rfl
 |x::a,h=>by
  have:=w3 (a:=a) (λi hi=>by have:=h (i+1) (by simpa using hi);simpa using this)
  have h2:x=0:=by have:=h 0 (by simp);simpa using this
  rw[cw];omega
def cH(w caps out:List Int):List Int:=F1 w.length λi=>if out.getD i 0<caps.getD i 0 then w.getD i 0 else 0
def fx(parts caps out:List Int):List Int:=F1 out.length λi=>min (parts.getD i 0) (caps.getD i 0-out.getD i 0)
def w4(out g:List Int):List Int:=F1 out.length λi=>out.getD i 0+g.getD i 0
def uS(w caps:List Int):Nat→List Int→Int→List Int×Int
 |0,out,left=>(out,left)
 |f+1,out,left=>if left=0∨(cH w caps out).sum=0 then(out,left)else
  uS w caps f (w4 out (fx (bR left (cH w caps out)) caps out)) (left-(fx (bR left (cH w caps out)) caps out).sum)
structure So(t:Int)(w caps out:List Int)(left:Int):Prop where
 n:w.length≤64
 l1:caps.length=w.length
 l2:out.length=w.length
 pw:Pos w
 sw:w.sum<9223372036854775808
 pc: ∀i,0≤caps.getD i 0∧caps.getD i 0<9223372036854775808
 po: ∀i,0≤out.getD i 0
 le: ∀i,i<w.length→out.getD i 0≤caps.getD i 0
 z: ∀i,w.getD i 0=0→out.getD i 0=0
 l:0≤left
 t1:t<9223372036854775808
 s:out.sum+left=t
theorem iN(w caps out:List Int):(cH w caps out).length=w.length:=gJ ..
theorem rn{w caps out:List Int}(h:Pos w):Pos (cH w caps out):=aaw (λi _=>by split;exact gZ h i;omega)
theorem NH{w caps out:List Int}(h:Pos w):(cH w caps out).sum≤w.sum:=xG (iN ..) (λi hi=>by
 rw[iN]at hi
 unfold cH;rw[gF hi];split
 ·omega
 ·exact gZ h i)
theorem Xb{t left:Int}{w caps out:List Int}(c:So t w caps out left):IX (cH w caps out):=λx hx=>by
 have h1:=rn (caps:=caps) (out:=out) c.pw
 have h2:=NH (caps:=caps) (out:=out) c.pw
 have h3:=h1 x hx
 obtain⟨i,hi,rfl⟩:=qy.1 hx
 have h4:=y5 h1 i
 rw[aU,bk hi]at h4
 simp only[mW]at h4
 have:=c.sw
 omega
theorem NI{t left:Int}{w caps out:List Int}(c:So t w caps out left):left≤t:=by
 have:=jL (q:=out) (sI (λi _=>c.po i));have:=c.s;omega
theorem oO{t left:Int}{w caps out:List Int}(c:So t w caps out left)(hS:0<(cH w caps out).sum)(i:Nat):
  0≤(fx (bR left (cH w caps out)) caps out).getD i 0∧(fx (bR left (cH w caps out)) caps out).getD i 0≤(bR left (cH w caps out)).getD i 0∧(i<w.length→out.getD i 0+(fx (bR left (cH w caps out)) caps out).getD i 0≤caps.getD i 0):=by
 have h0:=gZ (uR c.l hS (rn c.pw)) i
 unfold fx
 rw[KM]
 have:=c.l2
 by_cases h:i<out.length
 ·rw[aj h]
  have:=c.le i ω
  omega
 ·rw[ah h];exact⟨ω,h0,λh=>ω⟩
theorem w5(parts caps out:List Int):(fx parts caps out).length=out.length:=gJ ..
theorem F3{t left:Int}{w caps out:List Int}(c:So t w caps out left)(hS:0<(cH w caps out).sum):0≤(fx (bR left (cH w caps out)) caps out).sum∧(fx (bR left (cH w caps out)) caps out).sum≤left:=by
 constructor
 ·exact jL (sI (λi _=>(oO c hS i).1))
 ·have:=xG (a:=fx (bR left (cH w caps out)) caps out) (b:=bR left (cH w caps out)) (by rw[w5,ox,iN,c.l2]) (λi _=>(oO c hS i).2.1)
  rwa [uQ c.l hS]at this
theorem NJ{t left:Int}{w caps out:List Int}(c:So t w caps out left)(hS:0<(cH w caps out).sum):So t w caps (w4 out (fx (bR left (cH w caps out)) caps out)) (left-(fx (bR left (cH w caps out)) caps out).sum):=by
 have pY: ∀i,(w4 out (fx (bR left (cH w caps out)) caps out)).getD i 0=if i<out.length then out.getD i 0+(fx (bR left (cH w caps out)) caps out).getD i 0 else 0:=λi=>by unfold w4;rw[KM]
 have gs:=F3 c hS
 refine⟨c.n,c.l1,?_,c.pw,c.sw,c.pc,λi=> ?_,λi hi=> ?_,λi hi=> ?_,ω,c.t1,?_⟩
 ·unfold w4;rw[gJ,c.l2]
 ·rw[pY];have:=(oO c hS i).1;have:=c.po i;split<;>omega
 ·rw[pY,aj (by rw[c.l2];exact hi)];exact(oO c hS i).2.2 hi
 ·rw[pY]
  split
  ·have h1:(cH w caps out).getD i 0=0:=by unfold cH;rw[KM,hi];split<;>(try split)<;>rfl
   have h2:=CV c.l hS h1
   have h3:=oO c hS i
   rw[c.z i hi];omega
  ·rfl
 ·have:=F2 (a:=w4 out (fx (bR left (cH w caps out)) caps out)) (b:=out) (c:=fx (bR left (cH w caps out)) caps out) (by unfold w4;rw[gJ]) (by unfold w4;rw[gJ,w5]) (λi hi=>by
   unfold w4 at hi;rw[gJ]at hi;rw[pY,aj hi])
  have:=c.s
  omega
def opens(w caps out:List Int):Nat:=(List.range w.length).countP λi=>decide (0<w.getD i 0∧out.getD i 0<caps.getD i 0)
theorem I4{p q:Nat→Bool}: ∀{l:List Nat},(∀x∈l,q x=true→p x=true)→(∃x∈l,p x=true∧q x=false)→l.countP q<l.countP p
 |[],_,⟨x,hx,_⟩=>nomatch hx
 |y::l,h,⟨x,hx,h1,h2⟩=>by
  have hle:l.countP q≤l.countP p:=List.countP_mono_left (λz hz=>h z (aZ _ hz))
  rw[List.countP_cons,List.countP_cons]
  rcases aW.1 hx with rfl|hx
  ·rw[h1,h2];simp;omega
  ·have:=I4 (p:=p) (q:=q) (l:=l) (λz hz=>h z (aZ _ hz)) ⟨x,hx,h1,h2⟩
   have h3:=h y (bm ..)
   cases hq:q y<;>cases hp:p y<;>simp<;>try omega
   rw[hq,hp]at h3;simp at h3
theorem I5{w caps out:List Int}(hw:Pos w)(h:(cH w caps out).sum=0): ∀i,i<w.length→ ¬(0<w.getD i 0∧out.getD i 0<caps.getD i 0):=λi hi ⟨h1,h2⟩=>by
 have:=y5 (rn (caps:=caps) (out:=out) hw) i
 unfold cH at this h
 rw[gF hi,aj h2,h]at this
 omega
theorem KN{w caps out:List Int}(hw:Pos w)(h:(cH w caps out).sum≠0): ∃i,i<w.length∧0<w.getD i 0∧out.getD i 0<caps.getD i 0:=by
 by_cases hx: ∃i,i<w.length∧0<w.getD i 0∧out.getD i 0<caps.getD i 0
 ·exact hx
 ·refine absurd (w3 (λi hi=> ?_)) h
  rw[iN]at hi
  unfold cH
  rw[gF hi]
  split
  ·rename_i h1
   have:=gZ hw i
   by_cases h2:0<w.getD i 0
   ·exact absurd ⟨i,hi,h2,h1⟩ hx
   ·omega
  ·rfl
theorem Uc{t left:Int}{w caps out:List Int}(c:So t w caps out left)(hS:0<(cH w caps out).sum)(hl:left-(fx (bR left (cH w caps out)) caps out).sum≠0):opens w caps (w4 out (fx (bR left (cH w caps out)) caps out))<opens w caps out:=by
 have pY: ∀i,i<w.length→(w4 out (fx (bR left (cH w caps out)) caps out)).getD i 0=out.getD i 0+(fx (bR left (cH w caps out)) caps out).getD i 0:=λi hi=>by unfold w4;rw[gF (by rw[c.l2];exact hi)]
 refine I4 (λi hi h=> ?_) ?_
 ·rw[qG]at hi
  rw[ff,pY i hi]at h
  rw[ff]
  have:=(oO c hS i).1
  omega
 ·by_cases hx: ∃i,i<w.length∧(0<w.getD i 0∧out.getD i 0<caps.getD i 0)∧caps.getD i 0≤out.getD i 0+(fx (bR left (cH w caps out)) caps out).getD i 0
  ·obtain⟨i,h1,h2,h3⟩:=hx
   refine⟨i,qG.2 h1,bu h2,cj ?_⟩
   rw[pY i h1];omega
  ·exfalso
   have h1:bR left (cH w caps out)=fx (bR left (cH w caps out)) caps out:=by
    refine pb (by rw[w5,ox,iN,c.l2]) (λi hi=> ?_)
    rw[ox,iN]at hi
    have h2:=oO c hS i
    have h3:=gZ (uR c.l hS (rn (caps:=caps) (out:=out) c.pw)) i
    by_cases h4:0<w.getD i 0∧out.getD i 0<caps.getD i 0
    ·have h5: ¬caps.getD i 0≤out.getD i 0+(fx (bR left (cH w caps out)) caps out).getD i 0:=λh=>hx ⟨i,hi,h4,h⟩
     have h6:(fx (bR left (cH w caps out)) caps out).getD i 0=min ((bR left (cH w caps out)).getD i 0) (caps.getD i 0-out.getD i 0):=gF (by rw[c.l2];exact hi)
     omega
    ·have h7:(cH w caps out).getD i 0=0:=by
      unfold cH;rw[gF hi]
      have:=gZ c.pw i
      split<;>omega
     have:=CV c.l hS h7
     omega
   rw[←h1,uQ c.l hS]at hl
   omega
theorem Xc(w caps out:List Int):opens w caps out≤w.length:=by
 unfold opens
 have:=List.countP_le_length (p:=λi=>decide (0<w.getD i 0∧out.getD i 0<caps.getD i 0)) (l:=List.range w.length)
 rwa [vJ]at this
structure Full(t:Int)(w caps out:List Int)(left:Int):Prop where
 c:So t w caps out left
 f:left=0∨ ∀i,i<w.length→ ¬(0<w.getD i 0∧out.getD i 0<caps.getD i 0)
theorem NK{t:Int}{w caps:List Int}: ∀(f:Nat) (out:List Int) (left:Int),So t w caps out left→(opens w caps out<f∨left=0)→Full t w caps (uS w caps f out left).1 (uS w caps f out left).2
 |0,out,left,c,h=>⟨c,.inl (show left=0 by omega)⟩
 |f+1,out,left,c,h=>by
  unfold uS
  have hS:=jL (rn (caps:=caps) (out:=out) c.pw)
  split
  ·rename_i h1
   exact⟨c,h1.imp id (I5 c.pw)⟩
  ·rename_i h1
   refine NK f _ _ (NJ c ω) ?_
   by_cases h2:left-(fx (bR left (cH w caps out)) caps out).sum=0
   ·exact .inr h2
   ·have:=Uc c ω h2
    exact .inl ω
def BP(out g:List Int)(i:Nat):List Int:=F1 out.length λj=>if j<i then out.getD j 0+g.getD j 0 else out.getD j 0
theorem mid_zero(out g:List Int):BP out g 0=out:=pb (gJ ..) (λi hi=>by unfold BP at*;rw[gJ]at hi;rw[gF hi,ah ω])
theorem aax(out g:List Int){n:Nat}(h:out.length≤n):BP out g n=w4 out g:=pb (by unfold BP w4;rw[gJ,gJ]) (λi hi=>by unfold BP w4 at*;rw[gJ]at hi;rw[gF hi,gF hi,aj ω])
theorem AP(out g:List Int)(i:Nat):(BP out g i).length=out.length:=gJ ..
theorem ahY{out g:List Int}{i:Nat}(h:i<out.length):(BP out g i).getD i 0=out.getD i 0:=by unfold BP;rw[gF h,ah ω]
theorem aay{out g:List Int}{i:Nat}(h:i<out.length):(BP out g i).set i (out.getD i 0+g.getD i 0)=BP out g (i+1):=pb (by rw[bN,AP,AP]) (λj hj=>by
 rw[bN,AP]at hj
 by_cases yN:i=j
 ·subst yN
  rw[mB _ _ (by rw[AP];exact h)];unfold BP;rw[gF h,aj ω]
 ·rw[getD_set_ne _ _ yN];unfold BP;rw[gF hj,gF hj]
  by_cases h1:j<i
  ·rw[aj h1,aj ω]
  ·rw[ah h1,ah ω])
def sJ(s:List Int)(i:Nat):List Int:=F1 s.length λj=>if j<i then s.getD j 0 else 0
theorem Ud(s:List Int):sJ s 0=List.replicate s.length 0:=pb (by unfold sJ;rw[gJ,cR]) (λi hi=>by
 unfold sJ at*;rw[gJ]at hi;rw[gF hi,ah ω,aU,Ef,aj hi];rfl)
theorem Xd(s:List Int):sJ s s.length=s:=pb (gJ ..) (λi hi=>by unfold sJ at*;rw[gJ]at hi;rw[gF hi,aj hi])
theorem pd(s:List Int)(i:Nat):(sJ s i).length=s.length:=gJ ..
theorem Xe{s:List Int}{i:Nat}(h:i<s.length):(sJ s i).set i (s.getD i 0)=sJ s (i+1):=pb (by rw[bN,pd,pd]) (λj hj=>by
 rw[bN,pd]at hj
 by_cases yN:i=j
 ·subst yN
  rw[mB _ _ (by rw[pd];exact h)];unfold sJ;rw[gF h,aj ω]
 ·rw[getD_set_ne _ _ yN];unfold sJ;rw[gF hj,gF hj]
  by_cases h1:j<i
  ·rw[aj h1,aj ω]
  ·rw[ah h1,ah ω])
theorem I6{s:List Int}{i:Nat}(h:s.getD i 0=0):sJ s i=sJ s (i+1):=pb (by rw[pd,pd]) (λj hj=>by
 rw[pd]at hj
 unfold sJ;rw[gF hj,gF hj]
 by_cases h1:j<i
 ·rw[aj h1,aj ω]
 ·rw[ah h1]
  by_cases h2:j=i
  ·subst h2;rw[aj ω,h]
  ·rw[ah ω])
theorem ahZ(x y:Int):mn x y=min x y:=by rw[Rs];split<;>omega
theorem Ue{t left:Int}{w caps out:List Int}(c:So t w caps out left)(hS:0<(cH w caps out).sum)(i:Nat):0≤((fx (bR left (cH w caps out)) caps out).take i).sum∧((fx (bR left (cH w caps out)) caps out).take i).sum≤left:=by
 have h:=sI (l:=fx (bR left (cH w caps out)) caps out) (λi _=>(oO c hS i).1)
 have:=CU h i
 have:=F3 c hS
 exact⟨jL (NC h i),ω⟩
theorem F5(N:Nat)(K:List Int→List Int→List Int→Int→Int→Option (List Int×Int×Int)){t left:Int}{w caps out:List Int}(c:So t w caps out left)(hS:0<(cH w caps out).sum)(rd:Int): ∀(m n i:Nat),w.length-i≤m→m<n→i≤w.length→
  eK.T1 N K n w caps (BP out (fx (bR left (cH w caps out)) caps out) i) (left-((fx (bR left (cH w caps out)) caps out).take i).sum) rd (bR left (cH w caps out)) (i:Int)=
  K w caps (w4 out (fx (bR left (cH w caps out)) caps out)) (left-(fx (bR left (cH w caps out)) caps out).sum) (W .i64 (rd+1))
 |m,0,i,_,hn,_=>ω
 |m,n+1,i,hm,hn,hi=>by
  have n64:=c.n
  have e1:=c.l1
  have e2:=c.l2
  unfold eK.T1 eK.Qx
  by_cases h:i<w.length
  ·have hc:=c.pc i
   have ho:=c.po i
   have hle:=c.le i h
   have hg:=oO c hS i
   have h6:(fx (bR left (cH w caps out)) caps out).getD i 0=min ((bR left (cH w caps out)).getD i 0) (caps.getD i 0-out.getD i 0):=gF (by rw[c.l2];exact h)
   have ht:=Ue c hS i
   have hl:=NI c
   have vE:=c.t1
   have hgl:(fx (bR left (cH w caps out)) caps out).getD i 0≤left:=by
    have:=y5 (sI (l:=fx (bR left (cH w caps out)) caps out) (λi _=>(oO c hS i).1)) i
    have:=F3 c hS
    omega
   dsimp only
   rw[aT ω,aq,a6 ω (by rw[ox,iN];omega),aq,a6 ω ω,aq,a6 ω (by rw[AP];omega),aq,aq,aJ,ahY ω,ay (x:=caps.getD i 0-out.getD i 0) ω ω,ahZ,←h6,
    ay (x:=(i:Int)+1) ω ω,ay (x:=out.getD i 0+_) ω ω,ay (x:=left-_-_) ω ω,aay ω]
   have:=F5 N K c hS rd (m-1) n (i+1) ω ω ω
   rw[lB _ (by rw[w5];omega),←Int.sub_sub]at this
   exact this
  ·rw[aP ω,av,aax _ _ ω,jF (by rw[w5];omega)]
def NL(w caps out:List Int)(i:Nat):Prop:= ∃j,j<i∧0<w.getD j 0∧out.getD j 0<caps.getD j 0
theorem uT(N:Nat)(hN:5000000≤N)(K:List Int→List Int→List Int→Int→Int→Option (List Int×Int×Int)){t left:Int}{w caps out:List Int}(c:So t w caps out left)(rd:Int): ∀(m n i:Nat) (b:Bool),w.length-i≤m→m<n→i≤w.length→(b=true↔NL w caps out i)→
  eK.p7 N K n w caps out left rd (sJ (cH w caps out) i) b (i:Int)=
  if left=0∨(cH w caps out).sum=0 then some (out,left,0)else K w caps (w4 out (fx (bR left (cH w caps out)) caps out)) (left-(fx (bR left (cH w caps out)) caps out).sum) (W .i64 (rd+1))
 |m,0,i,b,_,hn,_,_=>ω
 |m,n+1,i,b,hm,hn,hi,hb=>by
  have n64:=c.n
  have e1:=c.l1
  have e2:=c.l2
  unfold eK.p7 eK.pD
  by_cases h:i<w.length
  ·have h1:(cH w caps out).getD i 0=if out.getD i 0<caps.getD i 0 then w.getD i 0 else 0:=gF h
   have hw:=gZ c.pw i
   have ss: ¬(0<w.getD i 0∧out.getD i 0<caps.getD i 0)→(b=true↔NL w caps out (i+1)):=λvD=>hb.trans ⟨λ⟨j,hj,h2⟩=>⟨j,ω,h2⟩,λ⟨j,hj,h2⟩=>⟨j,by
    by_cases yN:j=i
    ·subst yN;exact absurd h2 vD
    ·omega,h2⟩⟩
   rw[aT ω,aq,a6 ω ω,aq,aJ]
   by_cases h0:0<w.getD i 0
   ·rw[aT h0,aq,a6 ω ω,aq,a6 ω ω,aq]
    by_cases h2:out.getD i 0<caps.getD i 0
    ·rw[aj h2]at h1
     rw[aT h2,aq,aq,a6 ω (by rw[pd,iN];omega),aq,ay ω ω,←h1,Xe (by rw[iN];exact h)]
     exact uT N hN K c rd (m-1) n (i+1) true ω ω ω ⟨λ_=>⟨i,ω,h0,h2⟩,λ_=>rfl⟩
    ·rw[ah h2]at h1
     rw[aP ω,av,ay ω ω,I6 h1]
     exact uT N hN K c rd (m-1) n (i+1) b ω ω ω (ss (λh=>h2 h.2))
   ·have h3:(cH w caps out).getD i 0=0:=by rw[h1];split<;>omega
    rw[aP ω,av,ay ω ω,I6 h3]
    exact uT N hN K c rd (m-1) n (i+1) b ω ω ω (ss (λh=>h0 h.1))
  ·have Qh:=NI c
   have vE:=c.t1
   have hl0:=c.l
   have m4:i=(cH w caps out).length:=by rw[iN];omega
   have hp:=rn (caps:=caps) (out:=out) c.pw
   have hs:=NH (caps:=caps) (out:=out) c.pw
   have hs0:=jL hp
   have hsw:=c.sw
   have hm:may (cH w caps out)=true:=oN.2 ⟨by rw[iN];omega,hp⟩
   rw[aP ω,av]
   by_cases h4:left=0
   ·rw[dW h4,aq,aj (.inl h4)]
   rw[dX h4,av]
   by_cases h3:(cH w caps out).sum=0
   ·have hbf:b=false:=by
     rw[vL];intro ht
     obtain⟨j,hj,h5⟩:=hb.1 ht
     exact I5 c.pw h3 j ω h5
    rw[aj (.inr h3),hbf];rfl
   ·have hbt:b=true:=hb.2 (by
     obtain⟨j,hj,h5⟩:=KN c.pw h3
     exact⟨j,ω,h5⟩)
    rw[hbt,bn,av,ah ω,m4,Xd,BO N ω ω (Xb c) (by rw[iN];omega),ar]
    unfold rl
    rw[ah (by rw[hm];simp;omega),ah ω,ah h3]
    have:=F5 N K c ω rd w.length N 0 ω ω ω
    rw[mid_zero,oS,iC,EB]at this
    exact this
theorem I7(N:Nat)(hN:5000000≤N){t:Int}{w caps:List Int}: ∀(f n:Nat) (out:List Int) (left:Int),So t w caps out left→f≤w.length+1→f<n→
  eK.l8 N n w caps out left ((w.length+1-f:Nat):Int)=some ((uS w caps f out left).1,(uS w caps f out left).2,0)
 |f,0,out,left,c,_,hn=>ω
 |0,n+1,out,left,c,h,hn=>by
  unfold eK.l8 eK.yd
  rw[fp ω];rfl
 |f+1,n+1,out,left,c,h,hn=>by
  have n64:=c.n
  have hl:=c.l
  unfold eK.l8 eK.yd
  rw[fG ω,aq,cM ω ω ω,aq,aJ]
  have:=uT N hN (eK.l8 N n) c ((w.length+1-(f+1):Nat):Int) w.length N 0 false ω ω ω ⟨(λh=>nomatch h),λ⟨j,hj,_⟩=>ω⟩
  rw[Ud,iN]at this
  refine Eq.trans this ?_
  have hS:=jL (rn (caps:=caps) (out:=out) c.pw)
  unfold uS
  by_cases h1:left=0∨(cH w caps out).sum=0
  ·rw[aj h1,aj h1]
  ·rw[ah h1,ah h1,ay ω ω,show(((w.length+1-(f+1):Nat):Int)+1)=((w.length+1-f:Nat):Int)by omega]
   exact I7 N hN f n _ _ (NJ c ω) ω ω
def sK(t:Int)(w caps:List Int):List Int×Int×Int:=
 if t<0∨may w=false∨caps.length≠w.length∨may caps=false then([],0,1)else if 9223372036854775808≤w.sum then([],0,2)
 else((uS w caps (w.length+1) (List.replicate w.length 0) t).1,(uS w caps (w.length+1) (List.replicate w.length 0) t).2,0)
theorem p8(n i:Nat):(List.replicate n (0:Int)).getD i 0=0:=by
 rw[aU,Ef];split<;>rfl
theorem I8{t:Int}{w caps:List Int}(ht:0≤t)(vE:t<9223372036854775808)(hw:may w=true)(hc:may caps=true)(hl:caps.length=w.length)(hi:IX caps)(hs:w.sum<9223372036854775808):So t w caps (List.replicate w.length 0) t:=by
 obtain⟨h1,h2⟩:=oN.1 hw
 obtain⟨h3,h4⟩:=oN.1 hc
 refine⟨h1,hl,cR ..,h2,hs,λi=>⟨gZ h4 i,(tB hi i).2⟩,λi=>by rw[p8];omega,λi _=>by rw[p8];exact gZ h4 i,λi _=>p8 ..,ht,vE,?_⟩
 rw[w3 (λi _=>p8 ..)];omega
theorem F6(N:Nat)(hN:5000000≤N){t:Int}{w caps:List Int}(vE:t<9223372036854775808)(hw:IX w)(hc:IX caps)(hl:w.length≤1000000):eK N t w caps=some (sK t w caps):=by
 unfold eK eK.b sK
 rw[FU N ω,ar]
 by_cases h1:t<0
 ·rw[bu h1,Bool.true_or,aq,aj (.inl h1)]
 rw[cj h1,tc]
 cases h2:may w
 ·rw[c0,aq,aj (.inr (.inl rfl))]
 rw[bn,av]
 by_cases h3:caps.length=w.length
 case neg=>rw[dX ω,c0,aq,aj (.inr (.inr (.inl h3)))]
 rw[dW ω,bn,av,FU N ω,ar]
 cases h4:may caps
 ·rw[aj (.inr (.inr (.inr rfl)))];rfl
 have hp:=jL (oN.1 h2).2
 rw[show(decide ((0:Int)<0)|| !true)=false from rfl,av,yS N ω hw hl,ar,q3,ar,ah (by simp;omega)]
 by_cases h5:9223372036854775808≤w.sum
 ·rw[aj h5];unfold BA;rw[ah ω];rfl
 rw[ah h5,KL ω ω,bn,av,cM ω ω ω,aq,aJ]
 have nR:=(oN.1 h2).1
 have:=I7 N hN (w.length+1) N _ _ (I8 ω vE h2 h4 h3 hc ω) ω ω
 rw[tg]at this
 exact this
end VM
end
section
namespace VM
open Go VM.F
theorem oy{a b:Int}: ∀{l:au},sC (l.map keyOf)→ga a b l=bP a b l
 |[],_=>rfl
 |x::t,h=>by
  obtain⟨h1,h2⟩:=ec.1 h
  rw[gq,ej,←oy h2]
  by_cases e1:x.1=a
  ·by_cases e2:x.2.1=b
   ·have hz:bP a b t=0:=ko λy hy e=>by
     have hk:=h1 (keyOf y) (eL hy)
     have he:keyOf y=keyOf x:=gS (e.1.trans e1.symm) (e.2.trans e2.symm)
     rw[he]at hk
     exact np hk
    rw[aj e1,aj e2,aj ⟨e1,e2⟩,oy h2,hz,fY];rfl
   ·rw[aj e1,ah e2,ah (λh=>e2 h.2),oV]
  ·rw[ah e1,ah (λh=>e1 h.1),oV]
def HM(x q:Int):Prop:= ¬((x<0)↔(q<0))
instance(x q:Int):Decidable (HM x q):=by unfold HM;infer_instance
def fP(a q:Int):au→au
 |[]=>[]
 |x::t=>if ¬dx x.1 0∧dx x.2.1 a∧HM (dY x) q then x::fP a q t else fP a q t
theorem rp(a q:Int)(x:da)(t:au):fP a q (x::t)=if ¬dx x.1 0∧dx x.2.1 a∧HM (dY x) q then x::fP a q t else fP a q t:=rfl
def yz(l:au):List Int:=l.map λx=>x.1
def jg(l:au):List Int:=l.map λx=>((dY x).natAbs:Int)
theorem tK{a q:Int}{x:da}: ∀{l:au},x∈fP a q l→x∈l∧ ¬dx x.1 0∧dx x.2.1 a
 |[],h=>nomatch h
 |y::t,h=>by
  rw[rp]at h
  by_cases e: ¬dx y.1 0∧dx y.2.1 a∧HM (dY y) q
  ·rw[aj e]at h
   rcases aW.1 h with rfl|h
   ·exact⟨bm ..,e.1,e.2.1⟩
   ·have:=tK h;exact⟨aZ _ this.1,this.2⟩
  ·rw[ah e]at h
   have:=tK h;exact⟨aZ _ this.1,this.2⟩
theorem I9(a q:Int): ∀l:au,(fP a q l).length≤l.length
 |[]=>aG _
 |x::t=>by
  have:=I9 a q t
  rw[rp,aR]
  split
  ·rw[aR];omega
  ·omega
theorem NM{v q s h o:Int}{P Q R:Prop} [Decidable P] [Decidable Q] [Decidable R](hR:R↔ ¬((v<0)↔(q<0)))(hq:0<q)(hh:h-o≤s):
  (if P∧Q then v else 0)+h-((if ¬P∧Q∧R then(v.natAbs:Int)else 0)+o)≤(if Q then v else 0)+s:=by
 by_cases hQ:Q<;>by_cases hP:P<;>by_cases hR':R<;>simp only[hP,hQ,hR',and_self,eS,and_false,false_and,true_and,not_true,not_false_iff,gB,eT]<;>(rw[LP]at hR;first|omega|(have h2:=hR.1 hR';omega)|(have h2: ¬ ¬((v<0)↔(q<0)):=λe=>hR' (hR.2 e);omega))
theorem CX{a q:Int}(hq:0<q): ∀l:au,bP 0 a l-(jg (fP a q l)).sum≤(c5 a l).sum
 |[]=>fI _
 |x::t=>by
  have ih:=CX (a:=a) hq t
  have e1:bP 0 a (x::t)=(if dx x.1 0∧dx x.2.1 a then dY x else 0)+bP 0 a t:=ej 0 a x t
  have e2:(jg (fP a q (x::t))).sum=(if ¬dx x.1 0∧dx x.2.1 a∧HM (dY x) q then((dY x).natAbs:Int)else 0)+(jg (fP a q t)).sum:=by
   rw[rp]
   split
   ·show(((dY x).natAbs:Int)::jg (fP a q t)).sum=_
    rw[cw]
   ·omega
  have e3:(c5 a (x::t)).sum=(if dx x.2.1 a then dY x else 0)+(c5 a t).sum:=by
   rw[df]
   by_cases h:x.2.1=a
   ·rw[aj h,aj (show dx x.2.1 a from h),cw]
   ·rw[ah h,ah (show ¬dx x.2.1 a from h)];omega
  rw[e1,e2,e3]
  exact NM Iff.rfl hq ih
theorem NN{v q s h o:Int}{P Q R:Prop} [Decidable P] [Decidable Q] [Decidable R](hR:R↔ ¬((v<0)↔(q<0)))(hq:q<0)(hh:s≤h+o):
  (if Q then v else 0)+s≤(if P∧Q then v else 0)+h+((if ¬P∧Q∧R then(v.natAbs:Int)else 0)+o):=by
 by_cases hQ:Q<;>by_cases hP:P<;>by_cases hR':R<;>simp only[hP,hQ,hR',and_self,eS,and_false,false_and,true_and,not_true,not_false_iff,gB,eT]<;>(rw[LP]at hR;first|omega|(have h2:=hR.1 hR';omega)|(have h2: ¬ ¬((v<0)↔(q<0)):=λe=>hR' (hR.2 e);omega))
theorem CY{a q:Int}(hq:q<0): ∀l:au,(c5 a l).sum≤bP 0 a l+(jg (fP a q l)).sum
 |[]=>fI _
 |x::t=>by
  have ih:=CY (a:=a) hq t
  have e1:bP 0 a (x::t)=(if dx x.1 0∧dx x.2.1 a then dY x else 0)+bP 0 a t:=ej 0 a x t
  have e2:(jg (fP a q (x::t))).sum=(if ¬dx x.1 0∧dx x.2.1 a∧HM (dY x) q then((dY x).natAbs:Int)else 0)+(jg (fP a q t)).sum:=by
   rw[rp]
   split
   ·show(((dY x).natAbs:Int)::jg (fP a q t)).sum=_
    rw[cw]
   ·omega
  have e3:(c5 a (x::t)).sum=(if dx x.2.1 a then dY x else 0)+(c5 a t).sum:=by
   rw[df]
   by_cases h:x.2.1=a
   ·rw[aj h,aj (show dx x.2.1 a from h),cw]
   ·rw[ah h,ah (show ¬dx x.2.1 a from h)];omega
  rw[e1,e2,e3]
  exact NN Iff.rfl hq ih
theorem QL{a q:Int}{l:au}(hs:sC (l.map keyOf))(hf:(c5 a l).sum=0)(hq:ga 0 a l=q)(h0:q≠0):(q.natAbs:Int)≤(jg (fP a q l)).sum:=by
 rw[oy hs]at hq
 by_cases h:0<q
 ·have:=CX (a:=a) h l
  rw[hf,hq]at this;omega
 ·have:=CY (a:=a) (q:=q) ω l
  rw[hf,hq]at this;omega
theorem Xf{t left:Int}{w out:List Int}(f:Full t w w out left)(h:t≤w.sum):left=0:=by
 have c:=f.c
 rcases f.f with e|e
 ·exact e
 ·have Y1:w.sum≤out.sum:=xG (by rw[c.l2]) λi hi=>by
   have h1:=e i hi
   have h2:=gZ c.pw i
   have h3:=c.po i
   by_cases h4:0<w.getD i 0
   ·have: ¬out.getD i 0<w.getD i 0:=λh5=>h1 ⟨h4,h5⟩
    omega
   ·omega
  have:=c.s
  have:=c.l
  omega
def sg(q x:Int):Int:=if q<0 then 0-x else x
def zc(a q:Int):List (Int×Int)→au
 |[]=>[]
 |p::t=>if sg q p.1=0 then zc a q t else(p.2,(a,(sg q p.1,())))::zc a q t
theorem D4(a q:Int)(p:Int×Int)(t:List (Int×Int)):zc a q (p::t)=if sg q p.1=0 then zc a q t else(p.2,(a,(sg q p.1,())))::zc a q t:=rfl
def jM(l:au)(a q:Int):List Int×Int×Int:=sK (q.natAbs:Int) (jg (fP a q l)) (jg (fP a q l))
def aaz(l:au)(a q:Int):au:=((0:Int),(a,((0-q:Int),())))::zc a q ((jM l a q).1.zip (yz (fP a q l)))
def uU(c:ae)(b:an)(a:Int):au×Int:=
 if dy c b then(if a<0 then([],3)else if(c.1.length:Int)≤a then([],3)else if dk b.2.2.2.1 0 a=0 then([],0)else
  if(jM b.2.2.2.1 a (dk b.2.2.2.1 0 a)).2.2=0 then(aaz b.2.2.2.1 a (dk b.2.2.2.1 0 a),0)else([],(jM b.2.2.2.1 a (dk b.2.2.2.1 0 a)).2.2))else([],1)
theorem F7{t:Int}{w caps:List Int}(vE:t<9223372036854775808)(hc:IX caps)(hx:(sK t w caps).2.2=0):Full t w caps (sK t w caps).1 (sK t w caps).2.1:=by
 unfold sK at*
 by_cases h1:t<0∨may w=false∨caps.length≠w.length∨may caps=false
 ·rw[aj h1]at hx;exact absurd hx δ
 ·rw[ah h1]at hx ⊢
  by_cases h2:9223372036854775808≤w.sum
  ·rw[aj h2]at hx;exact absurd hx δ
  ·rw[ah h2]
   have h3:may w=true:=by cases h:may w<;>simp_all
   have h4:may caps=true:=by cases h:may caps<;>simp_all
   have h5:caps.length=w.length:=Ed λh=>h1 (Or.inr (Or.inr (Or.inl h)))
   exact NK _ _ _ (I8 ω vE h3 h4 h5 hc ω) (Or.inl (by have:=Xc w caps (List.replicate w.length 0);omega))
theorem BQ{l:au}(h: ∀x∈l,aD (dY x)∧p4 (dY x))(a q:Int):IX (jg (fP a q l)):=λz hz=>by
 obtain⟨x,hx,rfl⟩:=cA.1 hz
 have:=h x (tK hx).1
 have g: ∀v:Int,aD v∧p4 v→ -9223372036854775808≤(v.natAbs:Int)∧(v.natAbs:Int)<9223372036854775808:=λv hv=>by unfold aD p4 at hv;omega
 exact g _ this
theorem Xg{out accs:List Int}{i:Nat}(h1:i<out.length)(h2:i<accs.length):(out.zip accs).getD i (0,0)=(out.getD i 0,accs.getD i 0):=by
 rw[aU,bk (by rw[vP];omega),List.getElem_zip,aU,bk h1,aU,bk h2];rfl
end VM
end
section
namespace VM
open Go VM.F
end VM
end
section
namespace VM
open Go VM.F
theorem KO{c:ae}{b:an}(h:dy c b=true): ∀x∈b.2.2.2.1,uN x.2.1 c.1.length:=λx hx=>by
 have hk:=(dt h).2
 have h0:=(dn hk).2 x hx
 unfold dy at h
 simp only[bQ]at h
 have h1:=bz h.2.2.2.2.2.2.2.2.1
 obtain⟨i,hi,e⟩:=gj hx
 have h2:=h1 i hi
 unfold jd at h2
 rw[aU,bk hi]at h2
 simp only[mW,e]at h2
 have g: ∀u v:Int,bB u v→nS v c.1.length→uN v c.1.length:=λu v h1 h2=>by unfold bB at h1;unfold nS at h2;unfold uN;omega
 exact g _ _ h0.1 h2.2
end VM
end
section
namespace VM
open Go VM.F
end VM
end
section
namespace VM
open Go VM.F
theorem CZ{k:Int}: ∀{i:Nat} {l:aK},nB k i l≠[]→(i:Int)≤(nB k i l).getD 0 0∧(nB k i l).getD 0 0<((i+l.length:Nat):Int)
 |i,[],h=>absurd rfl h
 |i,y::t,h=>by
  rw[AL]at h ⊢
  by_cases e:y.1=k
  ·rw[aj e,aR]
   show(i:Int)≤(i:Int)∧(i:Int)<_
   omega
  ·rw[ah e]at h ⊢
   have:=CZ h
   rw[aR];omega
def amN(c:ae):Int:=c.2.2.2.2.2.2.1
end VM
end
section
namespace VM
open Go VM.F
end VM
end
section
namespace VM
open Go VM.F
end VM
end
section
namespace VM
open Go VM.F
def zIn(z:Int×Int)(n:Nat):Prop:=0≤z.1∧z.1≤1000000000*(n:Int)∧0≤z.2∧z.2≤1000000000*(n:Int)
theorem zIn.mono{z:Int×Int}{n m:Nat}(h:zIn z n)(hm:n≤m):zIn z m:=by unfold zIn at*;omega
end VM
end
section
namespace VM
open Go VM.F
end VM
end
section
namespace VM
open Go VM.F
end VM
end
section
namespace VM
open Go VM.F
end VM
end
section
namespace VM
open Go VM.F
end VM
end
section
namespace VM
open Go VM.F
def qIn(q:Int):Prop:=1≤q∧q≤1000000000
instance(q:Int):Decidable (qIn q):=by unfold qIn;infer_instance
def AQ(a b c d:Int):Prop:=(1≤a∧a≤1099511627776)∧(0≤b∧b<6)∧(c=1∨c=2)∧qIn d
instance(a b c d:Int):Decidable (AQ a b c d):=by unfold AQ;infer_instance
def AS(h:bI):Prop:=AQ h.1 h.2.1 h.2.2.1 h.2.2.2.1
instance(h:bI):Decidable (AS h):=by unfold AS;infer_instance
theorem w6(N:Nat)(h:bI):aaB N h=some (decide (AS h)):=by
 unfold aaB
 rw[nY h.2.2.2.1]
 rw[gE,FB,BD,FA,gE,gE,gE]
 congr 1
 rw[oR,ff]
 unfold AS AQ qIn
 simp only[bQ,mY,qC,vK,Eg]
 omega
end VM
end
section
namespace VM
open Go VM.F Go.RowKit
def hR:au:=[((1:Int),((0:Int),((-90:Int),()))),((5:Int),((1:Int),((90:Int),())))]
def hS:au:=[((0:Int),((0:Int),((5:Int),()))),((0:Int),((1:Int),((20:Int),()))),((1:Int),((0:Int),((-5:Int),()))),((1:Int),((1:Int),((-20:Int),())))]
def hB:an:=([((1:Int),((1:Int),()))],([((1:Int),((1:Int),((1:Int),((50:Int),()))))],(hR,(hS,([(100:Int),(7:Int)],(dQ,()))))))
def hO:bI:=((4:Int),((0:Int),((2:Int),((6:Int),()))))
theorem hW:AG hB:=⟨⟨δ,δ,δ,δ,δ,δ,D3 (l:=hR) δ,D3 (l:=hS) δ⟩,δ,δ⟩
namespace Pure
end Pure
end VM
end
section
namespace VM
open Go VM.F
def Ok{α:Type}(P:α→Prop)(o:Option α):Prop:= ∃r,o=some r∧P r
theorem ak{α:Type}{P:α→Prop}{r:α}(h:P r):Ok P (some r):=⟨r,rfl,h⟩
theorem af{α β:Type}{P:β→Prop}{Q:α→Prop}{o:Option α}{f:α→Option β}(h:Ok Q o)(hf: ∀r,Q r→Ok P (f r)):Ok P (o.bind f):=by
 obtain⟨r,rfl,hr⟩:=h
 exact hf r hr
theorem KP{α:Type}{P Q:α→Prop}{o:Option α}(h:Ok Q o)(hf: ∀r,Q r→P r):Ok P o:=by
 obtain⟨r,e,hr⟩:=h
 exact⟨r,e,hf r hr⟩
theorem nC{α:Type}{P:α→Prop}{o:Option α}{r:α}(h:o=some r)(hr:P r):Ok P o:=⟨r,h,hr⟩
theorem pe{α:Type}{P:α→Prop}{b:Bool}{x y:Option α}(hx:b=true→Ok P x)(hy:b=false→Ok P y):Ok P (cond b x y):=by
 cases b
 ·exact hy rfl
 ·exact hx rfl
theorem bw{α:Type}{P:α→Prop}{b:Bool}{x y:Option α}(hx:b=false→Ok P x)(hy:b=true→Ok P y):Ok P (cond (!b) x y):=by
 cases b
 ·exact hx rfl
 ·exact hy rfl
theorem aw{α:Type}{P:α→Prop}{a b:Int}{x y:Option α}(hx:a<b→Ok P x)(hy:b≤a→Ok P y):Ok P (cond (aY a b) x y):=by
 rw[cQ]
 split
 ·exact hx (by assumption)
 ·exact hy ω
theorem dZ{α:Type}{P:α→Prop}{a b:Int}{x y:Option α}(hx:a≤b→Ok P x)(hy:b<a→Ok P y):Ok P (cond (dj a b) x y):=by
 rw[cG]
 split
 ·exact hx (by assumption)
 ·exact hy ω
theorem ok_eq{α:Type}{P:α→Prop}{a b:Int}{x y:Option α}(hx:a=b→Ok P x)(hy:a≠b→Ok P y):Ok P (cond (aO a b) x y):=by
 rw[aN]
 split
 ·exact hx (by assumption)
 ·exact hy (by assumption)
theorem bp{α:Type}{P:α→Prop}{a b:Int}{x y:Option α}(hx:a≠b→Ok P x)(hy:a=b→Ok P y):Ok P (cond (!aO a b) x y):=by
 rw[cond_not];exact ok_eq hy hx
theorem aB{α:Type}{P:α→Prop}{i:Int}{n:Nat}{x y:Option α}(h:0≤i∧i<(n:Int))(hx:Ok P x):Ok P (cond (ba i n) x y):=by
 rw[a6 h.1 h.2];exact hx
theorem aC{α:Type}{P:α→Prop}{n:Nat}{x y:Option α}(h:n<68719476736)(hx:Ok P x):Ok P (cond (small n) x y):=by
 rw[bL h];exact hx
theorem aaC{α:Type}{P:α→Prop}{l c:Int}{x y:Option α}(h:0≤l∧l≤c∧c<68719476736)(hx:Ok P x):Ok P (cond (jX l c) x y):=by
 rw[cM h.1 h.2.1 h.2.2];exact hx
theorem BR{α:Type}{P:α→Prop}{l h m n:Int}{x y:Option α}(hh:0≤l∧l≤h∧h≤m∧m≤n)(hx:Ok P x):Ok P (cond (jY l h m n) x y):=by
 rw[dG hh.1 hh.2.1 hh.2.2.1 hh.2.2.2];exact hx
theorem iB{σ β:Type}{P:β→Prop}{F:Nat→Int→σ→Option β}{len:Nat}(I:Nat→σ→Prop)
  (hs: ∀n i s,i<len→I i s→(∀s',I (i+1) s'→Ok P (F n ((i+1:Nat):Int) s'))→Ok P (F (n+1) (i:Int) s)) (he: ∀n s,I len s→Ok P (F (n+1) (len:Int) s)):
  ∀m n i s,len-i≤m→m<n→i≤len→I i s→Ok P (F n (i:Int) s)
 |m,0,i,s,_,hn,_,_=>ω
 |m,n+1,i,s,hm,hn,hi,hI=>by
  by_cases h:i<len
  ·exact hs n i s h hI λs' yq=>iB I hs he (m-1) n (i+1) s' ω ω ω yq
  ·have:i=len:=ω
   subst this
   exact he n s hI
theorem bc{σ β:Type}{P:β→Prop}{F:Nat→Int→σ→Option β}{len:Nat}(I:Nat→σ→Prop){N:Nat}{s:σ}(h0:I 0 s)(hN:len<N)
  (hs: ∀n i s,i<len→I i s→(∀s',I (i+1) s'→Ok P (F n ((i+1:Nat):Int) s'))→Ok P (F (n+1) (i:Int) s)) (he: ∀n s,I len s→Ok P (F (n+1) (len:Int) s)):Ok P (F N 0 s):=
 iB I hs he len N 0 s ω hN ω h0
theorem kR{β:Type}{P:β→Prop}{F:Nat→Int→Option β}{len N:Nat}(hN:len<N)
  (hs: ∀n i,i<len→Ok P (F n ((i+1:Nat):Int))→Ok P (F (n+1) (i:Int))) (he: ∀n,Ok P (F (n+1) (len:Int))):Ok P (F N 0):=
 bc (σ:=Unit) (F:=λn i _=>F n i) (λ_ _=>True) (s:=()) trivial hN (λn i _ h _ hr=>hs n i h (hr () trivial)) λn _ _=>he n
theorem xH{σ β:Type}{P:β→Prop}{F:Nat→Int→σ→Option β}(I:Nat→σ→Prop)
  (hs: ∀n (k:Nat) s,I (k+1) s→(∀s',I k s'→Ok P (F n (k:Int) s'))→Ok P (F (n+1) ((k+1:Nat):Int) s)) (he: ∀n s,I 0 s→Ok P (F (n+1) 0 s)):
  ∀(k n:Nat) s,k<n→I k s→Ok P (F n (k:Int) s)
 |0,0,s,hn,_=>ω
 |0,n+1,s,hn,hI=>he n s hI
 |k+1,0,s,hn,_=>ω
 |k+1,n+1,s,hn,hI=>hs n k s hI λs' yq=>xH I hs he k n s' ω yq
def G(m:Nat):(τ:Ty)→τ.den→Prop
 | .int .i64,x=>aD x
 | .int .u64,x=>0≤x∧x<18446744073709551616
 | .slice e,l=>List.length l≤m∧ ∀x∈(l:List e.den),G m e x
 | .pair a b,x=>G m a x.1∧G m b x.2
 |_,_=>True
theorem G.mono{m n:Nat}(h:m≤n): ∀{τ:Ty} {x:τ.den},G m τ x→G n τ x
 | .int k,x,hx=>by cases k<;>exact hx
 | .slice e,l,hl=>⟨cm hl.1 h,λx hx=>G.mono h (hl.2 x hx)⟩
 | .pair a b,x,hx=>⟨G.mono h hx.1,G.mono h hx.2⟩
 | .bool,_,_=>trivial
 | .str,_,_=>trivial
 | .unit,_,_=>trivial
 | .arr _ _,_,_=>trivial
theorem G.nil{m:Nat}{e:Ty}:G m (.slice e) ([]:List e.den):=⟨bo _,λx hx=>nomatch hx⟩
theorem G.app{m:Nat}{e:Ty}{l:List e.den}{x:e.den}(h:G m (.slice e) l)(hx:G m e x):G (m+1) (.slice e) (l++[x]):=
 ⟨by have:=h.1;rw[aS,aI];omega,λy hy=>by
  rcases a8.1 hy with hy|hy
  ·exact G.mono ω (h.2 y hy)
  ·rw[bW.1 hy];exact G.mono ω hx⟩
theorem G.get{m:Nat}{e:Ty}{l:List e.den}{d:e.den}(h:G m (.slice e) l)(hd:G m e d)(k:Nat):G m e (l.getD k d):=by
 by_cases hk:k<l.length
 ·rw[aU,bk hk];exact h.2 _ (dB hk)
 ·rw[aU,gG ω];exact hd
theorem G.zero(m:Nat): ∀τ:Ty,G m τ τ.zero
 | .int k=>by cases k<;>first|trivial|exact⟨δ,δ⟩
 | .slice _=>G.nil
 | .pair a b=>⟨G.zero m a,G.zero m b⟩
 | .bool=>trivial
 | .str=>trivial
 | .unit=>trivial
 | .arr _ _=>trivial
theorem G.at{m:Nat}{e:Ty}{l:List e.den}(h:G m (.slice e) l)(k:Nat):G m e (l.getD k e.zero):=h.get (G.zero m e) k
theorem G.set{m:Nat}{e:Ty}{l:List e.den}{x:e.den}(h:G m (.slice e) l)(hx:G m e x)(k:Nat):G m (.slice e) (l.set k x):=
 ⟨by rw[bN];exact h.1,λy hy=>by
  rcases xn hy with hy|rfl
  ·exact h.2 y hy
  ·exact hx⟩
theorem fU(x:Int):aD (W .i64 x):=by
 rw[iG];unfold aD;split<;>omega
def Bg(k:Nat)(z:aH):Prop:= ∃v,z=cS v∧Fit v k
theorem Bg.mono{j k:Nat}{z:aH}(h:Bg j z)(hk:j≤k):Bg k z:=by
 obtain⟨v,e,f⟩:=h
 exact⟨v,e,Fit.mono f hk⟩
theorem Bg.zero:Bg 1 (false,(([]:List Int),())):=⟨0,iH.symm,by unfold Fit;decide⟩
theorem bq(N:Nat)(hN:4000000≤N){x:Int}(h:aD x):Ok (Bg 2) (jz N x):=nC (cP N ω h.1 h.2) ⟨x,rfl,Fit.i64 h.1 h.2⟩
theorem kS(N:Nat)(hN:4000000≤N){k:Nat}(hk:k≤90000){u v:aH}(hu:Bg k u)(hv:Bg k v):Ok (Bg (k+1)) (yR N u v):=by
 obtain⟨a,rfl,ha⟩:=hu
 obtain⟨b,rfl,hb⟩:=hv
 exact nC (iA N hN (Fit.mono ha ω) (Fit.mono hb ω)) ⟨_,rfl,Fit.add ha hb⟩
theorem xI(N:Nat)(hN:4000000≤N){k:Nat}(hk:k≤90000){u v:aH}(hu:Bg k u)(hv:Bg k v):Ok (Bg (k+1)) (RV N u v):=by
 obtain⟨a,rfl,ha⟩:=hu
 obtain⟨b,rfl,hb⟩:=hv
 exact nC (ux N hN (Fit.mono ha ω) (Fit.mono hb ω)) ⟨_,rfl,by rw[Int.sub_eq_add_neg];exact Fit.add ha (Fit.neg hb)⟩
theorem qu(N:Nat)(hN:4000000≤N){k:Nat}(hk:k≤90000){u:aH}(hu:Bg k u):Ok (Bg k) (TK N u):=by
 obtain⟨a,rfl,ha⟩:=hu
 exact nC (jw N hN (Fit.mono ha ω)) ⟨_,rfl,Fit.neg ha⟩
theorem AT(N:Nat)(hN:4000000≤N){k:Nat}(hk:k≤90000){u:aH}(hu:Bg k u):Ok (Bg k) (Wv N u):=by
 obtain⟨a,rfl,ha⟩:=hu
 exact nC (Fp N hN (Fit.mono ha ω)) ⟨_,rfl,Fit.of_le ha ω⟩
theorem lG(N:Nat)(hN:4000000≤N){j k:Nat}(hj:j≤90000)(hk:k≤90000){u v:aH}(hu:Bg j u)(hv:Bg k v):Ok (Bg (j+k)) (jR N u v):=by
 obtain⟨a,rfl,ha⟩:=hu
 obtain⟨b,rfl,hb⟩:=hv
 exact nC (wI N hN (Fit.mono ha hj) (Fit.mono hb hk)) ⟨_,rfl,Fit.mul ha hb⟩
theorem D5(N:Nat){k:Nat}{u:aH}(hu:Bg k u):Ok (λ_=>True) (RW N u):=by
 obtain⟨a,rfl,ha⟩:=hu
 exact nC (p3 N a) trivial
theorem pH(N:Nat)(hN:4000000≤N){j k:Nat}(hj:j≤90000)(hk:k≤90000){u v:aH}(hu:Bg j u)(hv:Bg k v):Ok (λ_=>True) (Nj N u v):=by
 obtain⟨a,rfl,ha⟩:=hu
 obtain⟨b,rfl,hb⟩:=hv
 exact nC (Kq N hN (Fit.mono ha ω) (Fit.mono hb ω)) trivial
theorem Xh(v:Int):aD (BA v).1:=by
 by_cases h:aD v
 ·rw[nr h];exact h
 ·rw[uF h];unfold aD;decide
theorem w7(N:Nat){k:Nat}{u:aH}(hu:Bg k u):Ok (λr=>aD r.1) (wH N u):=by
 obtain⟨a,rfl,ha⟩:=hu
 exact nC (q3 N a) (Xh a)
end VM
end
section
namespace VM
open Go VM.F
abbrev L3(m:Nat)(l:au):Prop:=G m (.slice js) l
def jT(m:Nat)(p:bE):Prop:=p.length≤m∧ ∀y∈p,Bg 8 y.2.2.1
theorem jT.at{m:Nat}{p:bE}(h:jT m p)(i:Nat):Bg 8 (p.getD i ((0:Int),((0:Int),((false,pq),())))).2.2.1:=by
 by_cases hk:i<p.length
 ·rw[aU,bk hk];exact h.2 _ (dB hk)
 ·rw[aU,gG ω];exact Bg.mono Bg.zero δ
theorem jT.nil{m:Nat}:jT m []:=⟨bo _,λx hx=>nomatch hx⟩
theorem jT.app{m n:Nat}{p q:bE}(h:jT m p)(h':jT n q):jT (m+n) (p++q):=
 ⟨by have:=h.1;have:=h'.1;rw[aS];omega,λy hy=>(a8.1 hy).elim (h.2 y) (h'.2 y)⟩
theorem jT.mono{m n:Nat}{p:bE}(h:jT m p)(hm:m≤n):jT n p:=⟨cm h.1 hm,h.2⟩
theorem C0(N:Nat){k:Nat}{u:aH}(hu:Bg k u):Ok (λr=>aD r.1) (Qw N u):=by
 unfold Qw
 refine af (w7 N hu) λr h=>bw (λ_=>ak (by unfold aD;decide)) λ_=>ok_eq (λ_=>ak (by unfold aD;decide)) λ_=>ak h
theorem iO{x:Int}(h0: -1000000≤x)(h1:x≤1000000):aD x:=by unfold aD;omega
theorem G3{m:Nat}{a b c:Int}(ha:aD a)(hb:aD b)(hc:aD c):G m js (a,(b,(c,()))):=⟨ha,hb,hc,trivial⟩
theorem bJ:aD 0:=by unfold aD;decide
theorem Uf(N:Nat)(hN:4000000≤N){x k n:Int}{p:bE}(hx:aD x)(hp:jT 50000 p):Ok (λr=>aD r.1) (ns N x k n p):=by
 have hl:=hp.1
 refine bc (len:=p.length) (F:=λn' i (s:aH×Bool)=>ns.l3 N n' x k n p s.1 s.2 i) (s:=(_,_)) (λi s=>Bg (8+i) s.1) (Bg.mono Bg.zero ω) ω (λn' i s hi hI hr=> ?_) (λn' s hI=> ?_)
 all_goals unfold ns.l3 ns.nO
 ·rw[ay (x:=(i:Int)+1) ω ω,ag i]
  have h1:=hr (s.1,s.2) (Bg.mono hI ω)
  repeat' first|exact h1|refine aB ⟨ω,ω⟩ ?_|refine aw (λ_=> ?_) (λ_=> ?_)|refine ok_eq (λ_=> ?_) (λ_=> ?_)|(exfalso;omega)|exact af (kS N hN ω hI (Bg.mono (hp.at _) ω)) λr h=>hr (r,true) h
 ·refine aw (λ_=>ω) λ_=>bw (λ_=>ak hx) λ_=>af (bq N hN hx) λr h=>af (kS N hN ω hI (Bg.mono h ω)) λr h=>af (w7 N h) λr h=>ak h
theorem aaD(N:Nat)(hN:4000000≤N){l:au}{p:bE}{m:Nat}(hm:m≤50000)(hl:L3 m l)(hp:jT 50000 p):Ok (λr=>L3 200 r.1) (dv N l p):=by
 have G9:=hl.1
 refine iB (len:=8) (F:=λn k (s:au×Int)=>dv.l4 N n l p s.1 s.2 k) (λi s=>L3 (25*i) s.1∧0≤s.2) (λn i s hi hI hr=> ?_) (λn s hI=> ?_) 8 N 1 (_,_) ω ω ω ⟨G.nil,fI 0⟩
 all_goals unfold dv.l4 dv.ei
 ·refine dZ (λ_=> ?_) (λ_=>ω)
  refine bc (len:=25) (F:=λn' j (s:au×Int)=>dv.l7 N (dv.l4 N n) n' l p s.1 s.2 (i:Int) j) (s:=s) (λj s=>L3 (25*i+j) s.1∧0≤s.2) hI ω (λn' j s hj hI eM=> ?_) (λn' s hI=> ?_)
  all_goals unfold dv.l7 dv.q4
  ·have lT: ∀(k x:Int),0≤k→aD x→Ok (λr=>L3 200 r.1) (dv.Sb N (dv.l4 N n) (dv.l7 N (dv.l4 N n) n') l p s.1 k (i:Int) (j:Int) x):=λk x hk hx=>by
    unfold dv.Sb dv.KA
    rw[ay (x:=(j:Int)+1) ω ω,ag j]
    have hs:=hI.1.1
    refine af (Uf N hN hx hp) λr h=>bw (λ_=>ak G.nil) λ_=>bp (λ_=>aC (by rw[aI];omega) (eM (_,k) ⟨G.app hI.1 (G3 (iO ω ω) (iO ω ω) h),hk⟩)) λ_=>eM (s.1,k) ⟨G.mono ω hI.1,hk⟩
   have h0:=lT s.2 0 hI.2 bJ
   have TF:=hI.2
   repeat' first|exact h0|refine aB ⟨ω,ω⟩ ?_|refine aw (λ_=> ?_) (λ_=> ?_)|refine dZ (λ_=> ?_) (λ_=> ?_)|refine ok_eq (λ_=> ?_) (λ_=> ?_)|(exfalso;omega)|exact lT _ _ (by rw[ay (x:=s.2+1) ω ω];omega) (G.at hl _).2.2.1
  ·rw[ay (x:=(i:Int)+1) ω ω,ag i]
   exact dZ (λ_=>ω) λ_=>hr s ⟨G.mono ω hI.1,hI.2⟩
 ·exact dZ (λ_=>ω) λ_=>ak (G.mono δ hI.1)
theorem QM(N:Nat)(hN:4000000≤N){l t:au}{m:Nat}(hm:m≤50000)(hl:L3 m l)(ht:L3 50000 t):Ok (λr=>L3 200 r.1) (cr N l t):=by
 have G9:=hl.1
 have htl:=ht.1
 refine bc (len:=25) (F:=λn k (s:au×Int)=>cr.l4 N n l t s.1 s.2 k) (s:=(_,_)) (λi s=>L3 (6*i) s.1∧0≤s.2) ⟨G.nil,fI 0⟩ ω (λn i s hi hI hr=> ?_) (λn s hI=> ?_)
 all_goals unfold cr.l4 cr.ei
 ·refine dZ (λ_=> ?_) (λ_=>ω)
  refine bc (len:=6) (F:=λn' j (s:au×Int)=>cr.l7 N (cr.l4 N n) n' l t s.1 s.2 (i:Int) j) (s:=s) (λj s=>L3 (6*i+j) s.1∧0≤s.2) hI ω (λn' j s hj hI eM=> ?_) (λn' s hI=> ?_)
  all_goals unfold cr.l7 cr.q4
  ·have lT: ∀(k x:Int),0≤k→aD x→Ok (λr=>L3 200 r.1) (cr.Sb N (cr.l4 N n) (cr.l7 N (cr.l4 N n) n') l t s.1 k (i:Int) (j:Int) x false):=λk x hk hx=>by
    unfold cr.Sb cr.KA
    have hs:=hI.1.1
    have zY: ∀y:Int,aD y→Ok (λr=>L3 200 r.1) (cond (!aO y 0) (cond (small (s.1.length+[(((i:Int),((j:Int),(y,()))):da)].length)) (cr.l7 N (cr.l4 N n) n' l t (s.1++[((i:Int),((j:Int),(y,())))]) k (i:Int) (W .i64 ((j:Int)+1))) none) (cr.l7 N (cr.l4 N n) n' l t s.1 k (i:Int) (W .i64 ((j:Int)+1)))):=λy hy=>by
     rw[ay (x:=(j:Int)+1) ω ω,ag j]
     exact bp (λ_=>aC (by rw[aI];omega) (eM (_,k) ⟨G.app hI.1 (G3 (iO ω ω) (iO ω ω) hy),hk⟩)) λ_=>eM (s.1,k) ⟨G.mono ω hI.1,hk⟩
    refine bc (len:=t.length) (F:=λD6 u (z:aH×Bool)=>cr.IJ N (cr.l4 N n) (cr.l7 N (cr.l4 N n) n') D6 l t s.1 k (i:Int) (j:Int) x z.2 z.1 u) (s:=(_,_)) (λu z=>Bg (3+u) z.1) (Bg.mono Bg.zero ω) ω (λD6 u z hu hz NO=> ?_) (λD6 z hz=> ?_)
    all_goals unfold cr.IJ cr.HJ
    ·rw[ay (x:=(u:Int)+1) ω ω,ag u]
     have h1:=NO (z.1,z.2) (Bg.mono hz ω)
     repeat' first|exact h1|refine aB ⟨ω,ω⟩ ?_|refine aw (λ_=> ?_) (λ_=> ?_)|refine ok_eq (λ_=> ?_) (λ_=> ?_)|(exfalso;omega)|exact af (bq N hN (G.at ht _).2.2.1) λr h=>af (kS N hN ω hz (Bg.mono h ω)) λr h=>NO (r,true) h
    ·exact aw (λ_=>ω) λ_=>pe (λ_=>af (bq N hN hx) λr h=>af (kS N hN ω hz (Bg.mono h ω)) λr h=>af (C0 N h) λr h=>bw (λ_=>ak G.nil) λ_=>zY _ h) λ_=>zY _ hx
   have h0:=lT s.2 0 hI.2 bJ
   have TF:=hI.2
   repeat' first|exact h0|refine aB ⟨ω,ω⟩ ?_|refine aw (λ_=> ?_) (λ_=> ?_)|refine dZ (λ_=> ?_) (λ_=> ?_)|refine ok_eq (λ_=> ?_) (λ_=> ?_)|(exfalso;omega)|exact lT _ _ (by rw[ay (x:=s.2+1) ω ω];omega) (G.at hl _).2.2.1
  ·rw[ay (x:=(i:Int)+1) ω ω,ag i]
   exact aw (λ_=>ω) λ_=>hr s ⟨G.mono ω hI.1,hI.2⟩
 ·exact dZ (λ_=>ω) λ_=>ak (G.mono δ hI.1)
theorem G.iP{m:Nat}:G m aL (ck,(c8,(bG,(bG,(dC,(dQ,())))))):=G.zero m aL
theorem sL(N:Nat)(hN:4000000≤N){b:an}{s:au}{p:bE}{m:Nat}(h2:200≤m)(hm:m≤50000)(hb:G m aL b)(hs:L3 50000 s)(hp:jT 50000 p):Ok (λr=>G m aL r.1) (yf N b s p):=by
 unfold yf
 exact af (QM N hN hm hb.2.2.2.1 hs) λr h=>bw (λ_=>ak G.iP) λ_=>af (aaD N hN hm hb.2.2.1 hp) λr' h'=>bw (λ_=>ak G.iP) λ_=>ak ⟨hb.1,hb.2.1,G.mono h2 h',G.mono h2 h,hb.2.2.2.2⟩
end VM
end
section
namespace VM
open Go VM.F
theorem br{α β:Type}{P:β→Prop}{o:Option α}{r:α}{f:α→Option β}(h:o=some r)(hf:Ok P (f r)):Ok P (o.bind f):=by rw[h];exact hf
theorem G.wf{m:Nat}(hm:m≤50000){b:an}(h:G m aL b):AG b:=by
 obtain⟨h1,h2,h3,h4,h5,h6,_⟩:=h
 exact⟨⟨cm h1.1 ω,cm h2.1 ω,cm h3.1 ω,cm h4.1 ω,cm h5.1 ω,cm h6.1 ω,λx hx=>(h3.2 x hx).2.2.1,λx hx=>(h4.2 x hx).2.2.1⟩,cm h3.1 ω,cm h4.1 ω⟩
theorem dH(N:Nat)(hN:5000000≤N){c:ae}{b:an}{m:Nat}(hm:m≤50000)(h:G m aL b):gb N c b=some (dy c b):=Au N hN (G.wf hm h).w
theorem aaE{x:Int}(h:jf x):aD x:=by unfold jf at h;unfold aD;omega
theorem HN(N:Nat)(hN:4000000≤N)(t:sW)(p:Int):Ok (λr=>jT 2 r.1) (QG N t p):=by
 unfold QG
 refine br (xF N t) (bw (λ_=>ak jT.nil) λht=>br (iJ N p) (bw (λ_=>ak jT.nil) λ_=>af (bq N hN (fU _)) λa ha=>af (bq N hN ?_) λq hq=>af (lG N hN ω ω ha hq) λx hx=>af (D5 N hx) λ_ _=>ok_eq (λ_=>ak jT.nil) λ_=> ?_))
 ·have:=bz ht
  unfold nz kq at this
  exact fi δ this.2.2.2.2.1.1 |> λh=>⟨h,qB this.2.2.2.2.1.2 δ⟩
 ·unfold KH
  have hr: ∀a:Int,Ok (λ_=>True) (cond (aO a 0) (some ((2:Int),(0:Int))) (some ((5:Int),a))):=λa=>ok_eq (λ_=>ak trivial) λ_=>ak trivial
  refine af (hr _) λ_ _=>af (hr _) λ_ _=>af (qu N hN ω hx) λy hy=>ak ⟨aG 2,λz hz=> ?_⟩
  rcases aW.1 hz with rfl|hz
  ·exact Bg.mono hx ω
  ·rw[bW.1 hz];exact Bg.mono hy ω
theorem NP(N:Nat)(hN:200000≤N){b:an}{m:Nat}(hm:m≤50000)(h:G m aL b)(id:Int):Ok (λ_=>True) (Kx N b id):=nC (tG N b (G.wf hm h).w.a hN id) trivial
theorem Ja(N:Nat)(hN:5000000≤N)(c:ae){b:an}{l:bK}{m:Nat}(h2:200≤m)(hm:m≤50000)(hb:G m aL b):Ok (λr=>G m aL r.1) (gA N c b l):=by
 unfold gA gA.b
 refine br (dH N hN hm hb) (bw (λ_=>ak G.iP) λhB=>aw (λ_=>ak G.iP) λhl=> ?_)
 obtain⟨hp,_⟩:=ic hB
 refine bc (len:=l.length) (F:=λn i (_:Unit)=>gA.l4 N n l c b (ck,(c8,(bG,(bG,(dC,(dQ,())))))) i) (s:=()) (λi _=> ∀j,j<i→nz (l.getD j mI)) (λj hj=>ω) ω (λn i _ hi hI hr=> ?_) (λn _ hI=> ?_)
 all_goals unfold gA.l4 gA.ei
 ·rw[ay (x:=(i:Int)+1) ω ω,ag i]
  refine aw (λ_=>aB ⟨ω,ω⟩ (br (xF N _) (bw (λ_=>ak G.iP) λht=>hr () λj hj=> ?_))) λ_=>ω
  by_cases e:j=i
  ·rw[e];exact bz ht
  ·exact hI j ω
 ·refine aw (λ_=>ω) λ_=> ?_
  refine bc (len:=l.length) (F:=λn i (s:au×bE)=>gA.BS N n l c b (ck,(c8,(bG,(bG,(dC,(dQ,())))))) s.1 s.2 i) (s:=(_,_)) (λi s=>L3 (2*i) s.1∧jT (2*i) s.2) ⟨G.nil,jT.nil⟩ ω (λn i s hi hJ hr=> ?_) (λn s hJ=> ?_)
  all_goals unfold gA.BS gA.y7
  ·have ht:=hI i hi
   unfold nz kq at ht
   have Lx:=hJ.1.1
   have TF:=hJ.2.1
   have g64: ∀x:Int,0≤x∧x≤1000000→aD x:=λx h=>iO ω ω
   dsimp only
   rw[ay (x:=(i:Int)+1) ω ω,ag i,aJ]
   refine aw (λ_=>aB ⟨ω,ω⟩ (af (NP N ω hm hb _) λ_ _=>bw (λ_=>ak G.iP) λ_=>af (NP N ω hm hb _) λ_ _=>bw (λ_=>ak G.iP) λ_=>dZ (λ_=>ak G.iP) λe9=>aC ?_ (aB ⟨ht.2.2.2.1.1,ω⟩ (af (HN N ω _ _) λr h=>aC ?_ (hr (_,_) ⟨?_,jT.mono (jT.app hJ.2 h) ω⟩))))) λ_=>ω
   ·rw[aR,aI];omega
   ·have:=h.1;omega
   ·have hq:aD (l.getD i mI).2.2.2.1:=⟨fi δ ht.2.2.2.2.1.1,qB ht.2.2.2.2.1.2 δ⟩
    have m4:aD (l.getD i mI).2.2.1:=g64 _ ⟨ht.2.2.2.1.1,fi (Int.le_of_lt ht.2.2.2.1.2) δ⟩
    have h1:=G.app (G.app hJ.1 (G3 (g64 _ ⟨ht.1.1,fi ht.1.2 δ⟩) m4 hq)) (G3 (g64 _ ⟨ht.2.1.1,fi ht.2.1.2 δ⟩) m4 (fU (0-(l.getD i mI).2.2.2.1)))
    rw[bt]at h1
    exact G.mono ω h1
  ·exact aw (λ_=>ω) λ_=>af (sL N ω h2 hm hb (G.mono ω hJ.1) (jT.mono hJ.2 ω)) λr h=>ak h
end VM
end
section
namespace VM
open Go VM.F
def HO(k:Nat)(l:pf):Prop:= ∀x∈l,Bg k x
theorem HO.mono{j k:Nat}{l:pf}(h:HO j l)(hk:j≤k):HO k l:=λx hx=>Bg.mono (h x hx) hk
theorem HO.at{k:Nat}{l:pf}(h:HO k l)(h1:1≤k)(i:Nat):Bg k (l.getD i (false,pq)):=by
 by_cases hk:i<l.length
 ·rw[aU,bk hk];exact h _ (dB hk)
 ·rw[aU,gG ω];exact Bg.mono Bg.zero h1
theorem HO.set{k:Nat}{l:pf}{x:aH}(h:HO k l)(hx:Bg k x)(i:Nat):HO k (l.set i x):=λy hy=>by
 rcases xn hy with hy|rfl
 ·exact h y hy
 ·exact hx
theorem HO.rep{k n:Nat}(h:1≤k):HO k (List.replicate n (false,pq)):=λx hx=>by
 rw[(List.mem_replicate.1 hx).2];exact Bg.mono Bg.zero h
theorem aaF(N:Nat)(hN:5000000≤N)(c:ae){b:an}{m:Nat}(hm:m≤50000)(hb:G m aL b):Ok (λr=>(r.2=0→dy c b=true∧r.1.length=4)∧HO 20 r.1) (rq N c b):=by
 unfold rq rq.b
 have w:=(G.wf hm hb).w
 refine br (dH N hN hm hb) (bw (λ_=>ak ⟨λh=>absurd h δ,λx hx=>nomatch hx⟩) λhB=>aaC ⟨ω,ω,ω⟩ ?_)
 obtain⟨hp,hpr⟩:=ic hB
 obtain⟨h6,hbk⟩:=CS (uP hB)
 refine bc (len:=c.1.length) (F:=λn i (s:pf)=>rq.l5 N n c b s i) (λi s=>s.length=4∧HO (8+i) s) ⟨cR ..,HO.rep ω⟩ ω (λn i s hi hI hr=> ?_) (λn s hI=> ?_)
 all_goals unfold rq.l5 rq.ed
 ·have hk:=hbk i hi
  have hl:=hI.1
  rw[ay (x:=(i:Int)+1) ω ω,ag i,aJ]
  have in1: ∀{x y:Option (pf×Int)},Ok (λr=>(r.2=0→dy c b=true∧r.1.length=4)∧HO 20 r.1) x→Ok (λr=>(r.2=0→dy c b=true∧r.1.length=4)∧HO 20 r.1) (cond (ba (c.1.getD i aV).1 s.length) x y):=λh=>aB ⟨hk.1,qB hk.2 (show(3:Int)<(s.length:Int)by omega)⟩ h
  exact aw (λ_=>aB ⟨ω,ω⟩ (in1 (br (sE N w.s ω 0 (i:Int)) (af (bq N ω (FP w.qs 0 (i:Int))) λa ha=>aB ⟨ω,ω⟩ (af (bq N ω (aaE (NA hpr ω))) λp hp=>af (lG N ω ω ω ha hp) λx hx=>af (kS N ω ω (HO.at hI.2 ω _) (Bg.mono hx ω)) λy hy=>in1 (hr _ ⟨by rw[bN];exact hl,HO.set (HO.mono hI.2 ω) hy _⟩)))))) λ_=>ω
 ·exact aw (λ_=>ω) λ_=>ak ⟨λ_=>⟨hB,hI.1⟩,HO.mono hI.2 ω⟩
theorem amP{v:Int}(h:(BA v).2=true):(BA v).1=v:=by
 by_cases h':aD v
 ·rw[nr h']
 ·rw[uF h']at h;exact nomatch h
def HQ(c:ae)(x:bI):Prop:=((λi n:Int=>0≤i∧i<n) x.2.1 c.1.length)∧qIn x.2.2.2.1
theorem Jb(N:Nat)(hN:5000000≤N)(c:ae)(hc:aD (amN c)){b:an}{m:Nat}(hm:m≤50000)(hb:G m aL b)(next:Int):Ok (λr=>G 4 (.slice eB) r.1∧ ∀x∈r.1,HQ c x) (iU N c b next):=by
 unfold iU iU.b
 refine af (aaF N hN c hm hb) λz hz=>bp (λ_=>ak ⟨G.nil,λx hx=>nomatch hx⟩) λh0=>aw (λ_=>ak ⟨G.nil,λx hx=>nomatch hx⟩) λh1=>aw (λ_=>ak ⟨G.nil,λx hx=>nomatch hx⟩) λh2=> ?_
 obtain⟨hB,hl4⟩:=hz.1 h0
 obtain⟨hp,hpr⟩:=ic hB
 obtain⟨h6,hbk⟩:=CS (uP hB)
 refine bc (len:=4) (F:=λn k (s:Int×aK)=>iU.l6 N n s.1 c b z.1 s.2 k) (s:=(_,_)) (λk s=>(G k (.slice eB) s.2∧ ∀x∈s.2,HQ c x)∧next≤s.1∧s.1≤next+k) ⟨⟨G.nil,λx hx=>nomatch hx⟩,ω,ω⟩ ω (λn k s hk hI hr=> ?_) (λn s hI=> ?_)
 all_goals unfold iU.l6 iU.uw
 ·have Lx:=hI.1.1.1
  have TF:=hI.2
  rw[ay (x:=(k:Int)+1) ω ω,ag k]
  have ss:=hr s ⟨⟨G.mono ω hI.1.1,hI.1.2⟩,ω,ω⟩
  obtain⟨a,ea,ha⟩:=HO.at hz.2 ω k
  have ha':Fit (a.natAbs:Int) 20:=Fit.of_le ha ω
  refine aw (λ_=>br (QH N ω c ω (k:Int)) (aB ⟨ω,ω⟩ (br (by rw[aJ,ea];exact Fp N ω (ha.mono ω)) (ok_eq (λ_=>ss) λjy=>af (bq N ω hc) λv hv=>af (pH N ω ω ω ⟨_,rfl,ha'⟩ hv) λ_ _=>dZ (λ_=>ss) λ_=> ?_)))) λ_=>ω
  have amQ:iM c (k:Int)≠[]:=λe=>jy (by rw[e];rfl)
  have hh:0≤(iM c (k:Int)).getD 0 0∧(iM c (k:Int)).getD 0 0<(c.1.length:Int):=by
   have h1:=amQ
   unfold iM at h1 ⊢
   rw[uP hB,aj rfl]at h1 ⊢
   have:=CZ h1
   omega
  have hl0:0<(iM c (k:Int)).length:=si.2 amQ
  have hpx:=NA hpr (i:=((iM c (k:Int)).getD 0 0).toNat) ω
  have hj: ∀q:Int,0≤q∧q≤1000000000→Ok (λr=>G 4 (.slice eB) r.1∧ ∀x∈r.1,HQ c x) (iU.Bf N (iU.l6 N n) s.1 c b z.1 s.2 (k:Int) (iM c (k:Int)) q):=λq hq=>by
   have ar0:aD q:=by unfold aD;omega
   unfold iU.Bf iU.uV
   rw[ay (x:=(k:Int)+1) ω ω,ag k,ay (x:=s.1+1) ω ω]
   have zY:q≠0→ ∀d:Int,aD d→Ok (λr=>G 4 (.slice eB) r.1∧ ∀x∈r.1,HQ c x) (cond (small (s.2.length+[((s.1,((iM c (k:Int)).getD 0 0,(d,(q,())))):bI)].length)) (iU.l6 N n (s.1+1) c b z.1 (s.2++[(s.1,((iM c (k:Int)).getD 0 0,(d,(q,()))))]) ((k+1:Nat):Int)) none):=λxu d hd=>
    aC (by rw[aI];omega) (hr (_,_) ⟨⟨G.app hI.1.1 ⟨by show aD s.1;unfold aD;omega,(show aD ((iM c (k:Int)).getD 0 0)from iO ω ω),hd,ar0,trivial⟩,λx hx=>by
     rcases a8.1 hx with hx|hx
     ·exact hI.1.2 x hx
     ·rw[List.mem_singleton.1 hx];exact⟨hh,show 1≤q∧q≤1000000000 by omega⟩⟩,by dsimp only;omega,by dsimp only;omega⟩)
   exact ok_eq (λ_=>ss) λxu=>aB ⟨ω,ω⟩ (aB ⟨ω,ω⟩ (af (D5 N (HO.at hz.2 ω _)) λ_ _=>aw (λ_=>zY xu 2 (iO ω ω)) λ_=>zY xu 1 (iO ω ω)))
  refine aB ⟨ω,ω⟩ (aB ⟨hh.1,by show(iM c (k:Int)).getD 0 0<_;omega⟩ ?_)
  have ar1:=hpx
  unfold jf at ar1
  rw[show(0:Int).toNat=0 from rfl]
  refine br (cP N ω ω ω) (br (RZ N hN ω (Fit.mono ha' ω) ((Fit.i64 ω ω).mono ω)) (br (q3 N _) (bw (λ_=>hj _ δ) λht=>aw (λ_=>hj _ δ) λhle=>hj _ ?_)))
  rw[amP ht]at hle ⊢
  exact⟨ta ω ω,hle⟩
 ·exact aw (λ_=>ω) λ_=>ak hI.1
theorem Ug(N:Nat)(hN:5000000≤N)(c:ae)(hc:aD (amN c)){b:an}{m:Nat}(hm:m≤50000)(hb:G m aL b)(next:Int):Ok (λr=>G 4 (.slice eB) r.1) (iU N c b next):=KP (Jb N hN c hc hm hb next) λ_ h=>h.1
end VM
end
