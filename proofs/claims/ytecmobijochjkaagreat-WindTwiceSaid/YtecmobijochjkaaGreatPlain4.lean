/- A part of the proof of WindTwice of layer 21: what the functions compute, in plain words. -/
import Derived.Test.YtecmobijochjkaaGreatPlain3
set_option linter.all false
section
namespace VM
open Go VM.F
theorem CP(N:Nat)(hN:5000000≤N){t:Int}{w:List Int}(ht:0≤t)(vB:t<9223372036854775808)(hw:w.length≤64)(hp:Pos w)(hS:0<w.sum)(hS1:w.sum<9223372036854775808):
  ∀(m n i:Nat) (q r:List Int),w.length-i≤m→m<n→i≤w.length→q.length=w.length→r.length=w.length→q.take i=rU t w.sum (w.take i)→r.take i=ld t w.sum (w.take i)→
  fN.IZ N n t w (cV w.sum) q r (t-(rU t w.sum (w.take i)).sum) (i:Int)=some (bS t w,0)
 |m,0,i,q,r,_,hn,_,_,_,_,_=>ω
 |m,n+1,i,q,r,hm,hn,hi,hq,hr,eq,er=>by
  unfold fN.IZ fN.FY
  by_cases h:i<w.length
  ·have hwi:=g4 hp i
   have asf:=yX hp i
   have hb:=mul_lt ht hwi (show t≤9223372036854775807 by omega) (show w.getD i 0≤9223372036854775807 by omega)
   have hqi:t*w.getD i 0/w.sum≤t:=Int.ediv_le_of_le_mul hS (xk asf ht)
   have azu:0≤t*w.getD i 0/w.sum:=s8 hb.1 ω
   have hri:=zr (t*w.getD i 0) hS
   have azv:=Ew (t*w.getD i 0) (show w.sum≠0 by omega)
   have hs0:=Xi ht hS (CN hp i)
   have Lp:=jM (FU ht (by omega:0≤w.sum) (Nx hp i))
   have ft:Fit t 2:=Fit.i64 ω ω
   have fw:Fit (w.getD i 0) 2:=Fit.i64 ω ω
   have fS:Fit w.sum 2:=Fit.i64 ω ω
   rw[aT ω,ak,c5 N ω ω vB,ar,aX ω ω,ak,aJ,c5 N ω ω ω,ar,
    wF N ω (ft.mono ω) (fw.mono ω),ar,R5 N ω hS ((ft.mul fw).mono ω) (fS.mono ω),ar]
   dsimp only
   rw[q3,ar,KG ω ω,q3,KG ω ω]
   dsimp only
   rw[ar,aX ω ω,ak,aX ω ω,ak,bN,aX ω ω,ak,mC q _ ω,ax (x:=(i:Int)+1) ω ω,ax ω ω]
   have wI:=CP N hN ht vB hw hp hS hS1 (m-1) n (i+1) (q.set i (t*w.getD i 0/w.sum)) (r.set i (t*w.getD i 0%w.sum)) ω ω ω (by rw[bN];exact hq) (by rw[bN];exact hr)
    (by rw[take_set q _ ω,eq,hZ w h];unfold rU;simp)
    (by rw[take_set r _ ω,er,hZ w h];unfold ld;simp)
   rw[←IW,lA _ (by rw[wX];exact h),Sq,IW]at wI
   rw[Int.sub_sub]
   exact wI
  ·have m7:i=w.length:=ω
   subst m7
   rw[jG ω,jG ω]at eq er
   subst eq er
   rw[jG ω]
   have Lp:=jM (FU ht (by omega:0≤w.sum) hp)
   have h1:=FX ht hS
   unfold mH at h1
   rw[aP ω,av,Uf N (by rw[pb];omega) (by rw[pb];omega),ar]
   have hlen:=yW (ld t w.sum w)
   rw[pb]at hlen
   have wa:=FV N (ks:=ky (ld t w.sum w)) ω w.length (λk hk=>by have:=FW _ k hk;rwa [pb]at this) 1000 N 0 (t-(rU t w.sum w).sum).toNat (rU t w.sum w) ω ω ω (wX ..) (FU ht ω hp) ω ω
   rw[cZ,vF h1]at wa
   exact wa
theorem BI(N:Nat)(hN:5000000≤N){t:Int}{w:List Int}(vB:t<9223372036854775808)(hw:IV w)(hl:w.length≤1000000):fN N t w=some (rl t w):=by
 unfold fN fN.b rl
 rw[FT N ω,ar]
 by_cases h1:t<0
 ·rw[bs h1,Bool.true_or,ak,aj (.inl h1)]
 rw[cj h1,ta]
 cases h2:may w
 ·rw[c0,ak,aj (.inr rfl)]
 rw[a7,av,ah (by simp[h1]),yQ N ω hw hl,ar,p4,ar]
 obtain⟨FZ,hp⟩:=oO.1 h2
 have hS0:=jM hp
 have hj: ∀h: ¬9223372036854775808≤w.sum,fN.j6 N t w (cV w.sum)=if w.sum=0 then some (List.replicate w.length 0,0)else some (bS t w,0):=λh=>by
  unfold fN.j6 fN.TP
  rw[q3,ar,KG ω ω,a7,av,cM ω ω ω,ak,ak,p4,ar,aJ]
  by_cases h4:w.sum=0
  ·rw[aj h4,h4,show vu 0=0 from rfl,dX rfl,ak]
  ·rw[ah h4,ed (by unfold vu;repeat' split<;>omega),av]
   have:=CP N hN ω vB FZ hp ω ω w.length N 0 (List.replicate w.length 0) (List.replicate w.length 0) ω ω ω (cR ..) (cR ..) rfl rfl
   rw[oU]at this
   simp only[rU,iZ,iA,EC]at this
   exact this
 by_cases h3:9223372036854775808≤w.sum
 ·rw[aj h3,ed (by unfold vu;repeat' split<;>omega),av]
  unfold fN.j6 fN.TP
  rw[q3,ar];unfold Bs;rw[ah ω];rfl
 rw[ah h3,hj h3]
 by_cases h4:w.sum=0
 ·rw[aj h4,aj h4,h4,show vu 0=0 from rfl,dX rfl,ak]
  by_cases h5:t=0
  ·rw[aj h5,dX h5,a7,av]
  ·rw[ah h5,ed h5,c0,ak]
 ·rw[ah h4,ah h4,ed (by unfold vu;repeat' split<;>omega),av]
def I0(t n:Int):List Int×Int:=if t<0∨n<1∨64<n then([],1)else rl t (List.replicate n.toNat 1)
theorem Xj(n:Nat):IV (List.replicate n 1):=λx hx=>by rw[zk hx];omega
theorem I1(N:Nat)(hN:5000000≤N){t:Int}{k:Nat}(hk:k≤64)(vB:t<9223372036854775808): ∀(m n i:Nat),k-i≤m→m<n→i≤k→
  rm.l5 N n t (k:Int) (List.replicate i 1++List.replicate (k-i) 0) (i:Int)=some (rl t (List.replicate k 1))
 |m,0,i,_,hn,_=>ω
 |m,n+1,i,hm,hn,hi=>by
  unfold rm.l5 rm.ei
  by_cases h:i<k
  ·rw[aT ω,ak,aX ω (by simp;omega),ak,ax ω ω]
   refine Eq.trans ?_ (I1 N hN hk vB (m-1) n (i+1) ω ω ω)
   congr 1
   rw[aJ,L7 _ _ (by simp),cR,td,show k-i=(k-(i+1))+1 by omega,zq,List.set_cons_zero,List.replicate_succ',br]
   rfl
  ·rw[aP ω,av,show k-i=0 by omega,List.replicate_zero,ch,show i=k by omega,BI N hN vB (Xj _) (by rw[cR];omega)]
   rfl
theorem Xk(N:Nat)(hN:5000000≤N){t n:Int}(vB:t<9223372036854775808):rm N t n=some (I0 t n):=by
 unfold rm rm.b I0
 by_cases h1:t<0
 ·rw[aT h1,ak,aj (.inl h1)]
 by_cases h2:n<1
 ·rw[aP ω,av,aT h2,ak,aj (.inr (.inl h2))]
 by_cases h3:64<n
 ·rw[aP ω,av,aP ω,av,aT h3,ak,aj (.inr (.inr h3))]
 rw[aP ω,av,aP ω,av,aP ω,av,ah ω,cM ω ω ω,ak]
 have:=I1 N hN (t:=t) (k:=n.toNat) ω vB n.toNat N 0 ω ω ω
 rw[List.replicate_zero,cJ,Nat.sub_zero,vF ω]at this
 exact this
end VM
end
section
namespace VM
open Go VM.F
def F0(n:Nat)(f:Nat→Int):List Int:=(List.range n).map f
theorem gL(n:Nat)(f:Nat→Int):(F0 n f).length=n:=by unfold F0;rw[cv,vG]
theorem gG{n:Nat}{f:Nat→Int}{i:Nat}(h:i<n):(F0 n f).getD i 0=f i:=by
 unfold F0
 rw[aU,pW,List.getElem?_range h];rfl
theorem KH(n:Nat)(f:Nat→Int)(i:Nat):(F0 n f).getD i 0=if i<n then f i else 0:=by
 by_cases h:i<n
 ·rw[aj h,gG h]
 ·rw[ah h,uw _ (by rw[gL];omega)]
theorem aaF{n:Nat}{f:Nat→Int}(h: ∀i,i<n→0≤f i):Pos (F0 n f):=λx hx=>by
 obtain⟨i,hi,rfl⟩:=cD.1 hx
 exact h i (qG.1 hi)
theorem sH{l:List Int}(h: ∀i,i<l.length→0≤l.getD i 0):Pos l:=λx hx=>by
 obtain⟨i,hi,rfl⟩:=qy.1 hx
 have:=h i hi
 rwa [aU,bn hi]at this
theorem xE: ∀{a b:List Int},a.length=b.length→(∀i,i<a.length→a.getD i 0≤b.getD i 0)→a.sum≤b.sum
 |[],[],_,_=>fH _
 |[],_::_,h,_=>nomatch h
 |_::_,[],h,_=>nomatch h
 |x::a,y::b,h,h1=>by
  have:=xE (a:=a) (b:=b) (by simpa using h) (λi hi=>by have:=h1 (i+1) (by simpa using hi);simpa using this)
  have h2:x≤y:=by have:=h1 0 (by simp);simpa using this
  rw[cy,cy];omega
theorem F1: ∀{a b c:List Int},a.length=b.length→a.length=c.length→(∀i,i<a.length→a.getD i 0=b.getD i 0+c.getD i 0)→a.sum=b.sum+c.sum
 |[],[],[],_,_,_=>rfl
 |[],_::_,_,h,_,_=>nomatch h
 |[],[],_::_,_,h,_=>nomatch h
 |_::_,[],_,h,_,_=>nomatch h
 |_::_,_::_,[],_,h,_=>nomatch h
 |x::a,y::b,z::c,h,h',h1=>by
  have:=F1 (a:=a) (b:=b) (c:=c) (by simpa using h) (by simpa using h') (λi hi=>by have:=h1 (i+1) (by simpa using hi);simpa using this)
  have h2:x=y+z:=by have:=h1 0 (by simp);simpa using this
  rw[cy,cy,cy];omega
theorem wY: ∀{a:List Int},(∀i,i<a.length→a.getD i 0=0)→a.sum=0
 |[],_=>rfl
 |x::a,h=>by
  have:=wY (a:=a) (λi hi=>by have:=h (i+1) (by simpa using hi);simpa using this)
  have h2:x=0:=by have:=h 0 (by simp);simpa using this
  rw[cy];omega
def cH(w caps out:List Int):List Int:=F0 w.length λi=>if out.getD i 0<caps.getD i 0 then w.getD i 0 else 0
def fv(parts caps out:List Int):List Int:=F0 out.length λi=>min (parts.getD i 0) (caps.getD i 0-out.getD i 0)
def wZ(out g:List Int):List Int:=F0 out.length λi=>out.getD i 0+g.getD i 0
def uQ(w caps:List Int):Nat→List Int→Int→List Int×Int
 |0,out,left=>(out,left)
 |f+1,out,left=>if left=0∨(cH w caps out).sum=0 then(out,left)else
  uQ w caps f (wZ out (fv (bS left (cH w caps out)) caps out)) (left-(fv (bS left (cH w caps out)) caps out).sum)
structure Sw(t:Int)(w caps out:List Int)(left:Int):Prop where
 n:w.length≤64
 l1:caps.length=w.length
 l2:out.length=w.length
 pw:Pos w
 sw:w.sum<9223372036854775808
 pc: ∀i,0≤caps.getD i 0∧caps.getD i 0<9223372036854775808
 po: ∀i,0≤out.getD i 0
 le: ∀i,i<w.length→out.getD i 0≤caps.getD i 0
 z: ∀i,w.getD i 0=0→out.getD i 0=0
 l:0≤left
 t1:t<9223372036854775808
 s:out.sum+left=t
theorem iL(w caps out:List Int):(cH w caps out).length=w.length:=gL ..
theorem rn{w caps out:List Int}(h:Pos w):Pos (cH w caps out):=aaF (λi _=>by split;exact g4 h i;omega)
theorem NB{w caps out:List Int}(h:Pos w):(cH w caps out).sum≤w.sum:=xE (iL ..) (λi hi=>by
 rw[iL]at hi
 unfold cH;rw[gG hi];split
 ·omega
 ·exact g4 h i)
theorem Xl{t left:Int}{w caps out:List Int}(c:Sw t w caps out left):IV (cH w caps out):=λx hx=>by
 have h1:=rn (caps:=caps) (out:=out) c.pw
 have h2:=NB (caps:=caps) (out:=out) c.pw
 have h3:=h1 x hx
 obtain⟨i,hi,rfl⟩:=qy.1 hx
 have h4:=yX h1 i
 rw[aU,bn hi]at h4
 simp only[mZ]at h4
 have:=c.sw
 omega
theorem NC{t left:Int}{w caps out:List Int}(c:Sw t w caps out left):left≤t:=by
 have:=jM (q:=out) (sH (λi _=>c.po i));have:=c.s;omega
theorem oP{t left:Int}{w caps out:List Int}(c:Sw t w caps out left)(hS:0<(cH w caps out).sum)(i:Nat):
  0≤(fv (bS left (cH w caps out)) caps out).getD i 0∧(fv (bS left (cH w caps out)) caps out).getD i 0≤(bS left (cH w caps out)).getD i 0∧(i<w.length→out.getD i 0+(fv (bS left (cH w caps out)) caps out).getD i 0≤caps.getD i 0):=by
 have h0:=g4 (uP c.l hS (rn c.pw)) i
 unfold fv
 rw[KH]
 have:=c.l2
 by_cases h:i<out.length
 ·rw[aj h]
  have:=c.le i ω
  omega
 ·rw[ah h];exact⟨ω,h0,λh=>ω⟩
theorem w1(parts caps out:List Int):(fv parts caps out).length=out.length:=gL ..
theorem F2{t left:Int}{w caps out:List Int}(c:Sw t w caps out left)(hS:0<(cH w caps out).sum):0≤(fv (bS left (cH w caps out)) caps out).sum∧(fv (bS left (cH w caps out)) caps out).sum≤left:=by
 constructor
 ·exact jM (sH (λi _=>(oP c hS i).1))
 ·have:=xE (a:=fv (bS left (cH w caps out)) caps out) (b:=bS left (cH w caps out)) (by rw[w1,oz,iL,c.l2]) (λi _=>(oP c hS i).2.1)
  rwa [uO c.l hS]at this
theorem ND{t left:Int}{w caps out:List Int}(c:Sw t w caps out left)(hS:0<(cH w caps out).sum):Sw t w caps (wZ out (fv (bS left (cH w caps out)) caps out)) (left-(fv (bS left (cH w caps out)) caps out).sum):=by
 have pZ: ∀i,(wZ out (fv (bS left (cH w caps out)) caps out)).getD i 0=if i<out.length then out.getD i 0+(fv (bS left (cH w caps out)) caps out).getD i 0 else 0:=λi=>by unfold wZ;rw[KH]
 have gs:=F2 c hS
 refine⟨c.n,c.l1,?_,c.pw,c.sw,c.pc,λi=> ?_,λi hi=> ?_,λi hi=> ?_,ω,c.t1,?_⟩
 ·unfold wZ;rw[gL,c.l2]
 ·rw[pZ];have:=(oP c hS i).1;have:=c.po i;split<;>omega
 ·rw[pZ,aj (by rw[c.l2];exact hi)];exact(oP c hS i).2.2 hi
 ·rw[pZ]
  split
  ·have h1:(cH w caps out).getD i 0=0:=by unfold cH;rw[KH,hi];split<;>(try split)<;>rfl
   have h2:=CO c.l hS h1
   have h3:=oP c hS i
   rw[c.z i hi];omega
  ·rfl
 ·have:=F1 (a:=wZ out (fv (bS left (cH w caps out)) caps out)) (b:=out) (c:=fv (bS left (cH w caps out)) caps out) (by unfold wZ;rw[gL]) (by unfold wZ;rw[gL,w1]) (λi hi=>by
   unfold wZ at hi;rw[gL]at hi;rw[pZ,aj hi])
  have:=c.s
  omega
def opens(w caps out:List Int):Nat:=(List.range w.length).countP λi=>decide (0<w.getD i 0∧out.getD i 0<caps.getD i 0)
theorem I2{p q:Nat→Bool}: ∀{l:List Nat},(∀x∈l,q x=true→p x=true)→(∃x∈l,p x=true∧q x=false)→l.countP q<l.countP p
 |[],_,⟨x,hx,_⟩=>nomatch hx
 |y::l,h,⟨x,hx,h1,h2⟩=>by
  have hle:l.countP q≤l.countP p:=List.countP_mono_left (λz hz=>h z (aZ _ hz))
  rw[List.countP_cons,List.countP_cons]
  rcases aW.1 hx with rfl|hx
  ·rw[h1,h2];simp;omega
  ·have:=I2 (p:=p) (q:=q) (l:=l) (λz hz=>h z (aZ _ hz)) ⟨x,hx,h1,h2⟩
   have h3:=h y (bk ..)
   cases hq:q y<;>cases hp:p y<;>simp<;>try omega
   rw[hq,hp]at h3;simp at h3
theorem I3{w caps out:List Int}(hw:Pos w)(h:(cH w caps out).sum=0): ∀i,i<w.length→ ¬(0<w.getD i 0∧out.getD i 0<caps.getD i 0):=λi hi ⟨h1,h2⟩=>by
 have:=yX (rn (caps:=caps) (out:=out) hw) i
 unfold cH at this h
 rw[gG hi,aj h2,h]at this
 omega
theorem KI{w caps out:List Int}(hw:Pos w)(h:(cH w caps out).sum≠0): ∃i,i<w.length∧0<w.getD i 0∧out.getD i 0<caps.getD i 0:=by
 by_cases hx: ∃i,i<w.length∧0<w.getD i 0∧out.getD i 0<caps.getD i 0
 ·exact hx
 ·refine absurd (wY (λi hi=> ?_)) h
  rw[iL]at hi
  unfold cH
  rw[gG hi]
  split
  ·rename_i h1
   have:=g4 hw i
   by_cases h2:0<w.getD i 0
   ·exact absurd ⟨i,hi,h2,h1⟩ hx
   ·omega
  ·rfl
theorem Ui{t left:Int}{w caps out:List Int}(c:Sw t w caps out left)(hS:0<(cH w caps out).sum)(hl:left-(fv (bS left (cH w caps out)) caps out).sum≠0):opens w caps (wZ out (fv (bS left (cH w caps out)) caps out))<opens w caps out:=by
 have pZ: ∀i,i<w.length→(wZ out (fv (bS left (cH w caps out)) caps out)).getD i 0=out.getD i 0+(fv (bS left (cH w caps out)) caps out).getD i 0:=λi hi=>by unfold wZ;rw[gG (by rw[c.l2];exact hi)]
 refine I2 (λi hi h=> ?_) ?_
 ·rw[qG]at hi
  rw[ff,pZ i hi]at h
  rw[ff]
  have:=(oP c hS i).1
  omega
 ·by_cases hx: ∃i,i<w.length∧(0<w.getD i 0∧out.getD i 0<caps.getD i 0)∧caps.getD i 0≤out.getD i 0+(fv (bS left (cH w caps out)) caps out).getD i 0
  ·obtain⟨i,h1,h2,h3⟩:=hx
   refine⟨i,qG.2 h1,bs h2,cj ?_⟩
   rw[pZ i h1];omega
  ·exfalso
   have h1:bS left (cH w caps out)=fv (bS left (cH w caps out)) caps out:=by
    refine pd (by rw[w1,oz,iL,c.l2]) (λi hi=> ?_)
    rw[oz,iL]at hi
    have h2:=oP c hS i
    have h3:=g4 (uP c.l hS (rn (caps:=caps) (out:=out) c.pw)) i
    by_cases h4:0<w.getD i 0∧out.getD i 0<caps.getD i 0
    ·have h5: ¬caps.getD i 0≤out.getD i 0+(fv (bS left (cH w caps out)) caps out).getD i 0:=λh=>hx ⟨i,hi,h4,h⟩
     have h6:(fv (bS left (cH w caps out)) caps out).getD i 0=min ((bS left (cH w caps out)).getD i 0) (caps.getD i 0-out.getD i 0):=gG (by rw[c.l2];exact hi)
     omega
    ·have h7:(cH w caps out).getD i 0=0:=by
      unfold cH;rw[gG hi]
      have:=g4 c.pw i
      split<;>omega
     have:=CO c.l hS h7
     omega
   rw[←h1,uO c.l hS]at hl
   omega
theorem Xm(w caps out:List Int):opens w caps out≤w.length:=by
 unfold opens
 have:=List.countP_le_length (p:=λi=>decide (0<w.getD i 0∧out.getD i 0<caps.getD i 0)) (l:=List.range w.length)
 rwa [vG]at this
structure Full(t:Int)(w caps out:List Int)(left:Int):Prop where
 c:Sw t w caps out left
 f:left=0∨ ∀i,i<w.length→ ¬(0<w.getD i 0∧out.getD i 0<caps.getD i 0)
theorem NF{t:Int}{w caps:List Int}: ∀(f:Nat) (out:List Int) (left:Int),Sw t w caps out left→(opens w caps out<f∨left=0)→Full t w caps (uQ w caps f out left).1 (uQ w caps f out left).2
 |0,out,left,c,h=>⟨c,.inl (show left=0 by omega)⟩
 |f+1,out,left,c,h=>by
  unfold uQ
  have hS:=jM (rn (caps:=caps) (out:=out) c.pw)
  split
  ·rename_i h1
   exact⟨c,h1.imp id (I3 c.pw)⟩
  ·rename_i h1
   refine NF f _ _ (ND c ω) ?_
   by_cases h2:left-(fv (bS left (cH w caps out)) caps out).sum=0
   ·exact .inr h2
   ·have:=Ui c ω h2
    exact .inl ω
def BJ(out g:List Int)(i:Nat):List Int:=F0 out.length λj=>if j<i then out.getD j 0+g.getD j 0 else out.getD j 0
theorem mid_zero(out g:List Int):BJ out g 0=out:=pd (gL ..) (λi hi=>by unfold BJ at*;rw[gL]at hi;rw[gG hi,ah ω])
theorem aaG(out g:List Int){n:Nat}(h:out.length≤n):BJ out g n=wZ out g:=pd (by unfold BJ wZ;rw[gL,gL]) (λi hi=>by unfold BJ wZ at*;rw[gL]at hi;rw[gG hi,gG hi,aj ω])
theorem AJ(out g:List Int)(i:Nat):(BJ out g i).length=out.length:=gL ..
theorem aia{out g:List Int}{i:Nat}(h:i<out.length):(BJ out g i).getD i 0=out.getD i 0:=by unfold BJ;rw[gG h,ah ω]
theorem aaH{out g:List Int}{i:Nat}(h:i<out.length):(BJ out g i).set i (out.getD i 0+g.getD i 0)=BJ out g (i+1):=pd (by rw[bN,AJ,AJ]) (λj hj=>by
 rw[bN,AJ]at hj
 by_cases yM:i=j
 ·subst yM
  rw[mC _ _ (by rw[AJ];exact h)];unfold BJ;rw[gG h,aj ω]
 ·rw[getD_set_ne _ _ yM];unfold BJ;rw[gG hj,gG hj]
  by_cases h1:j<i
  ·rw[aj h1,aj ω]
  ·rw[ah h1,ah ω])
def sI(s:List Int)(i:Nat):List Int:=F0 s.length λj=>if j<i then s.getD j 0 else 0
theorem Uj(s:List Int):sI s 0=List.replicate s.length 0:=pd (by unfold sI;rw[gL,cR]) (λi hi=>by
 unfold sI at*;rw[gL]at hi;rw[gG hi,ah ω,aU,Eg,aj hi];rfl)
theorem Xn(s:List Int):sI s s.length=s:=pd (gL ..) (λi hi=>by unfold sI at*;rw[gL]at hi;rw[gG hi,aj hi])
theorem pe(s:List Int)(i:Nat):(sI s i).length=s.length:=gL ..
theorem Xo{s:List Int}{i:Nat}(h:i<s.length):(sI s i).set i (s.getD i 0)=sI s (i+1):=pd (by rw[bN,pe,pe]) (λj hj=>by
 rw[bN,pe]at hj
 by_cases yM:i=j
 ·subst yM
  rw[mC _ _ (by rw[pe];exact h)];unfold sI;rw[gG h,aj ω]
 ·rw[getD_set_ne _ _ yM];unfold sI;rw[gG hj,gG hj]
  by_cases h1:j<i
  ·rw[aj h1,aj ω]
  ·rw[ah h1,ah ω])
theorem I4{s:List Int}{i:Nat}(h:s.getD i 0=0):sI s i=sI s (i+1):=pd (by rw[pe,pe]) (λj hj=>by
 rw[pe]at hj
 unfold sI;rw[gG hj,gG hj]
 by_cases h1:j<i
 ·rw[aj h1,aj ω]
 ·rw[ah h1]
  by_cases h2:j=i
  ·subst h2;rw[aj ω,h]
  ·rw[ah ω])
theorem aib(x y:Int):mn x y=min x y:=by rw[Rx];split<;>omega
theorem Uk{t left:Int}{w caps out:List Int}(c:Sw t w caps out left)(hS:0<(cH w caps out).sum)(i:Nat):0≤((fv (bS left (cH w caps out)) caps out).take i).sum∧((fv (bS left (cH w caps out)) caps out).take i).sum≤left:=by
 have h:=sH (l:=fv (bS left (cH w caps out)) caps out) (λi _=>(oP c hS i).1)
 have:=CN h i
 have:=F2 c hS
 exact⟨jM (Nx h i),ω⟩
theorem F3(N:Nat)(K:List Int→List Int→List Int→Int→Int→Option (List Int×Int×Int)){t left:Int}{w caps out:List Int}(c:Sw t w caps out left)(hS:0<(cH w caps out).sum)(rd:Int): ∀(m n i:Nat),w.length-i≤m→m<n→i≤w.length→
  eL.T7 N K n w caps (BJ out (fv (bS left (cH w caps out)) caps out) i) (left-((fv (bS left (cH w caps out)) caps out).take i).sum) rd (bS left (cH w caps out)) (i:Int)=
  K w caps (wZ out (fv (bS left (cH w caps out)) caps out)) (left-(fv (bS left (cH w caps out)) caps out).sum) (W .i64 (rd+1))
 |m,0,i,_,hn,_=>ω
 |m,n+1,i,hm,hn,hi=>by
  have n64:=c.n
  have e1:=c.l1
  have e2:=c.l2
  unfold eL.T7 eL.Qy
  by_cases h:i<w.length
  ·have hc:=c.pc i
   have ho:=c.po i
   have hle:=c.le i h
   have hg:=oP c hS i
   have h6:(fv (bS left (cH w caps out)) caps out).getD i 0=min ((bS left (cH w caps out)).getD i 0) (caps.getD i 0-out.getD i 0):=gG (by rw[c.l2];exact h)
   have ht:=Uk c hS i
   have hl:=NC c
   have vB:=c.t1
   have hgl:(fv (bS left (cH w caps out)) caps out).getD i 0≤left:=by
    have:=yX (sH (l:=fv (bS left (cH w caps out)) caps out) (λi _=>(oP c hS i).1)) i
    have:=F2 c hS
    omega
   dsimp only
   rw[aT ω,ak,aX ω (by rw[oz,iL];omega),ak,aX ω ω,ak,aX ω (by rw[AJ];omega),ak,ak,aJ,aia ω,ax (x:=caps.getD i 0-out.getD i 0) ω ω,aib,←h6,
    ax (x:=(i:Int)+1) ω ω,ax (x:=out.getD i 0+_) ω ω,ax (x:=left-_-_) ω ω,aaH ω]
   have:=F3 N K c hS rd (m-1) n (i+1) ω ω ω
   rw[lA _ (by rw[w1];omega),←Int.sub_sub]at this
   exact this
  ·rw[aP ω,av,aaG _ _ ω,jG (by rw[w1];omega)]
def NG(w caps out:List Int)(i:Nat):Prop:= ∃j,j<i∧0<w.getD j 0∧out.getD j 0<caps.getD j 0
theorem uR(N:Nat)(hN:5000000≤N)(K:List Int→List Int→List Int→Int→Int→Option (List Int×Int×Int)){t left:Int}{w caps out:List Int}(c:Sw t w caps out left)(rd:Int): ∀(m n i:Nat) (b:Bool),w.length-i≤m→m<n→i≤w.length→(b=true↔NG w caps out i)→
  eL.p8 N K n w caps out left rd (sI (cH w caps out) i) b (i:Int)=
  if left=0∨(cH w caps out).sum=0 then some (out,left,0)else K w caps (wZ out (fv (bS left (cH w caps out)) caps out)) (left-(fv (bS left (cH w caps out)) caps out).sum) (W .i64 (rd+1))
 |m,0,i,b,_,hn,_,_=>ω
 |m,n+1,i,b,hm,hn,hi,hb=>by
  have n64:=c.n
  have e1:=c.l1
  have e2:=c.l2
  unfold eL.p8 eL.pF
  by_cases h:i<w.length
  ·have h1:(cH w caps out).getD i 0=if out.getD i 0<caps.getD i 0 then w.getD i 0 else 0:=gG h
   have hw:=g4 c.pw i
   have ss: ¬(0<w.getD i 0∧out.getD i 0<caps.getD i 0)→(b=true↔NG w caps out (i+1)):=λvA=>hb.trans ⟨λ⟨j,hj,h2⟩=>⟨j,ω,h2⟩,λ⟨j,hj,h2⟩=>⟨j,by
    by_cases yM:j=i
    ·subst yM;exact absurd h2 vA
    ·omega,h2⟩⟩
   rw[aT ω,ak,aX ω ω,ak,aJ]
   by_cases h0:0<w.getD i 0
   ·rw[aT h0,ak,aX ω ω,ak,aX ω ω,ak]
    by_cases h2:out.getD i 0<caps.getD i 0
    ·rw[aj h2]at h1
     rw[aT h2,ak,ak,aX ω (by rw[pe,iL];omega),ak,ax ω ω,←h1,Xo (by rw[iL];exact h)]
     exact uR N hN K c rd (m-1) n (i+1) true ω ω ω ⟨λ_=>⟨i,ω,h0,h2⟩,λ_=>rfl⟩
    ·rw[ah h2]at h1
     rw[aP ω,av,ax ω ω,I4 h1]
     exact uR N hN K c rd (m-1) n (i+1) b ω ω ω (ss (λh=>h2 h.2))
   ·have h3:(cH w caps out).getD i 0=0:=by rw[h1];split<;>omega
    rw[aP ω,av,ax ω ω,I4 h3]
    exact uR N hN K c rd (m-1) n (i+1) b ω ω ω (ss (λh=>h0 h.1))
  ·have Qi:=NC c
   have vB:=c.t1
   have hl0:=c.l
   have m7:i=(cH w caps out).length:=by rw[iL];omega
   have hp:=rn (caps:=caps) (out:=out) c.pw
   have hs:=NB (caps:=caps) (out:=out) c.pw
   have hs0:=jM hp
   have hsw:=c.sw
   have hm:may (cH w caps out)=true:=oO.2 ⟨by rw[iL];omega,hp⟩
   rw[aP ω,av]
   by_cases h4:left=0
   ·rw[dX h4,ak,aj (.inl h4)]
   rw[ed h4,av]
   by_cases h3:(cH w caps out).sum=0
   ·have hbf:b=false:=by
     rw[vI];intro ht
     obtain⟨j,hj,h5⟩:=hb.1 ht
     exact I3 c.pw h3 j ω h5
    rw[aj (.inr h3),hbf];rfl
   ·have hbt:b=true:=hb.2 (by
     obtain⟨j,hj,h5⟩:=KI c.pw h3
     exact⟨j,ω,h5⟩)
    rw[hbt,a7,av,ah ω,m7,Xn,BI N ω ω (Xl c) (by rw[iL];omega),ar]
    unfold rl
    rw[ah (by rw[hm];simp;omega),ah ω,ah h3]
    have:=F3 N K c ω rd w.length N 0 ω ω ω
    rw[mid_zero,oU,iA,EC]at this
    exact this
theorem I5(N:Nat)(hN:5000000≤N){t:Int}{w caps:List Int}: ∀(f n:Nat) (out:List Int) (left:Int),Sw t w caps out left→f≤w.length+1→f<n→
  eL.l8 N n w caps out left ((w.length+1-f:Nat):Int)=some ((uQ w caps f out left).1,(uQ w caps f out left).2,0)
 |f,0,out,left,c,_,hn=>ω
 |0,n+1,out,left,c,h,hn=>by
  unfold eL.l8 eL.yc
  rw[fm ω];rfl
 |f+1,n+1,out,left,c,h,hn=>by
  have n64:=c.n
  have hl:=c.l
  unfold eL.l8 eL.yc
  rw[fE ω,ak,cM ω ω ω,ak,aJ]
  have:=uR N hN (eL.l8 N n) c ((w.length+1-(f+1):Nat):Int) w.length N 0 false ω ω ω ⟨(λh=>nomatch h),λ⟨j,hj,_⟩=>ω⟩
  rw[Uj,iL]at this
  refine Eq.trans this ?_
  have hS:=jM (rn (caps:=caps) (out:=out) c.pw)
  unfold uQ
  by_cases h1:left=0∨(cH w caps out).sum=0
  ·rw[aj h1,aj h1]
  ·rw[ah h1,ah h1,ax ω ω,show(((w.length+1-(f+1):Nat):Int)+1)=((w.length+1-f:Nat):Int)by omega]
   exact I5 N hN f n _ _ (ND c ω) ω ω
def sJ(t:Int)(w caps:List Int):List Int×Int×Int:=
 if t<0∨may w=false∨caps.length≠w.length∨may caps=false then([],0,1)else if 9223372036854775808≤w.sum then([],0,2)
 else((uQ w caps (w.length+1) (List.replicate w.length 0) t).1,(uQ w caps (w.length+1) (List.replicate w.length 0) t).2,0)
theorem p9(n i:Nat):(List.replicate n (0:Int)).getD i 0=0:=by
 rw[aU,Eg];split<;>rfl
theorem I6{t:Int}{w caps:List Int}(ht:0≤t)(vB:t<9223372036854775808)(hw:may w=true)(hc:may caps=true)(hl:caps.length=w.length)(hi:IV caps)(hs:w.sum<9223372036854775808):Sw t w caps (List.replicate w.length 0) t:=by
 obtain⟨h1,h2⟩:=oO.1 hw
 obtain⟨h3,h4⟩:=oO.1 hc
 refine⟨h1,hl,cR ..,h2,hs,λi=>⟨g4 h4 i,(tA hi i).2⟩,λi=>by rw[p9];omega,λi _=>by rw[p9];exact g4 h4 i,λi _=>p9 ..,ht,vB,?_⟩
 rw[wY (λi _=>p9 ..)];omega
theorem F4(N:Nat)(hN:5000000≤N){t:Int}{w caps:List Int}(vB:t<9223372036854775808)(hw:IV w)(hc:IV caps)(hl:w.length≤1000000):eL N t w caps=some (sJ t w caps):=by
 unfold eL eL.b sJ
 rw[FT N ω,ar]
 by_cases h1:t<0
 ·rw[bs h1,Bool.true_or,ak,aj (.inl h1)]
 rw[cj h1,ta]
 cases h2:may w
 ·rw[c0,ak,aj (.inr (.inl rfl))]
 rw[a7,av]
 by_cases h3:caps.length=w.length
 case neg=>rw[ed ω,c0,ak,aj (.inr (.inr (.inl h3)))]
 rw[dX ω,a7,av,FT N ω,ar]
 cases h4:may caps
 ·rw[aj (.inr (.inr (.inr rfl)))];rfl
 have hp:=jM (oO.1 h2).2
 rw[show(decide ((0:Int)<0)|| !true)=false from rfl,av,yQ N ω hw hl,ar,q3,ar,ah (by simp;omega)]
 by_cases h5:9223372036854775808≤w.sum
 ·rw[aj h5];unfold Bs;rw[ah ω];rfl
 rw[ah h5,KG ω ω,a7,av,cM ω ω ω,ak,aJ]
 have nR:=(oO.1 h2).1
 have:=I5 N hN (w.length+1) N _ _ (I6 ω vB h2 h4 h3 hc ω) ω ω
 rw[td]at this
 exact this
end VM
end
section
namespace VM
open Go VM.F
theorem kR{a b:Int}: ∀{l:au},sC (l.map keyOf)→fY a b l=bP a b l
 |[],_=>rfl
 |x::t,h=>by
  obtain⟨h1,h2⟩:=eh.1 h
  rw[gl,eo,←kR h2]
  by_cases e1:x.1=a
  ·by_cases e2:x.2.1=b
   ·have hz:bP a b t=0:=kq λy hy e=>by
     have hk:=h1 (keyOf y) (eM hy)
     have he:keyOf y=keyOf x:=gS (e.1.trans e1.symm) (e.2.trans e2.symm)
     rw[he]at hk
     exact ns hk
    rw[aj e1,aj e2,aj ⟨e1,e2⟩,kR h2,hz,gI];rfl
   ·rw[aj e1,ah e2,ah (λh=>e2 h.2),tf]
  ·rw[ah e1,ah (λh=>e1 h.1),tf]
def HJ(x q:Int):Prop:= ¬((x<0)↔(q<0))
instance(x q:Int):Decidable (HJ x q):=by unfold HJ;infer_instance
def fO(a q:Int):au→au
 |[]=>[]
 |x::t=>if ¬dx x.1 0∧dx x.2.1 a∧HJ (dU x) q then x::fO a q t else fO a q t
theorem rp(a q:Int)(x:db)(t:au):fO a q (x::t)=if ¬dx x.1 0∧dx x.2.1 a∧HJ (dU x) q then x::fO a q t else fO a q t:=rfl
def yx(l:au):List Int:=l.map λx=>x.1
def jh(l:au):List Int:=l.map λx=>((dU x).natAbs:Int)
theorem tI{a q:Int}{x:db}: ∀{l:au},x∈fO a q l→x∈l∧ ¬dx x.1 0∧dx x.2.1 a
 |[],h=>nomatch h
 |y::t,h=>by
  rw[rp]at h
  by_cases e: ¬dx y.1 0∧dx y.2.1 a∧HJ (dU y) q
  ·rw[aj e]at h
   rcases aW.1 h with rfl|h
   ·exact⟨bk ..,e.1,e.2.1⟩
   ·have:=tI h;exact⟨aZ _ this.1,this.2⟩
  ·rw[ah e]at h
   have:=tI h;exact⟨aZ _ this.1,this.2⟩
theorem I7(a q:Int): ∀l:au,(fO a q l).length≤l.length
 |[]=>aG _
 |x::t=>by
  have:=I7 a q t
  rw[rp,aR]
  split
  ·rw[aR];omega
  ·omega
theorem NH{v q s h o:Int}{P Q R:Prop} [Decidable P] [Decidable Q] [Decidable R](hR:R↔ ¬((v<0)↔(q<0)))(hq:0<q)(hh:h-o≤s):
  (if P∧Q then v else 0)+h-((if ¬P∧Q∧R then(v.natAbs:Int)else 0)+o)≤(if Q then v else 0)+s:=by
 by_cases hQ:Q<;>by_cases hP:P<;>by_cases hR':R<;>simp only[hP,hQ,hR',and_self,eS,and_false,false_and,true_and,not_true,not_false_iff,gA,eT]<;>(rw[LH]at hR;first|omega|(have h2:=hR.1 hR';omega)|(have h2: ¬ ¬((v<0)↔(q<0)):=λe=>hR' (hR.2 e);omega))
theorem CQ{a q:Int}(hq:0<q): ∀l:au,bP 0 a l-(jh (fO a q l)).sum≤(c6 a l).sum
 |[]=>fH _
 |x::t=>by
  have ih:=CQ (a:=a) hq t
  have e1:bP 0 a (x::t)=(if dx x.1 0∧dx x.2.1 a then dU x else 0)+bP 0 a t:=eo 0 a x t
  have e2:(jh (fO a q (x::t))).sum=(if ¬dx x.1 0∧dx x.2.1 a∧HJ (dU x) q then((dU x).natAbs:Int)else 0)+(jh (fO a q t)).sum:=by
   rw[rp]
   split
   ·show(((dU x).natAbs:Int)::jh (fO a q t)).sum=_
    rw[cy]
   ·omega
  have e3:(c6 a (x::t)).sum=(if dx x.2.1 a then dU x else 0)+(c6 a t).sum:=by
   rw[dg]
   by_cases h:x.2.1=a
   ·rw[aj h,aj (show dx x.2.1 a from h),cy]
   ·rw[ah h,ah (show ¬dx x.2.1 a from h)];omega
  rw[e1,e2,e3]
  exact NH Iff.rfl hq ih
theorem NI{v q s h o:Int}{P Q R:Prop} [Decidable P] [Decidable Q] [Decidable R](hR:R↔ ¬((v<0)↔(q<0)))(hq:q<0)(hh:s≤h+o):
  (if Q then v else 0)+s≤(if P∧Q then v else 0)+h+((if ¬P∧Q∧R then(v.natAbs:Int)else 0)+o):=by
 by_cases hQ:Q<;>by_cases hP:P<;>by_cases hR':R<;>simp only[hP,hQ,hR',and_self,eS,and_false,false_and,true_and,not_true,not_false_iff,gA,eT]<;>(rw[LH]at hR;first|omega|(have h2:=hR.1 hR';omega)|(have h2: ¬ ¬((v<0)↔(q<0)):=λe=>hR' (hR.2 e);omega))
theorem CR{a q:Int}(hq:q<0): ∀l:au,(c6 a l).sum≤bP 0 a l+(jh (fO a q l)).sum
 |[]=>fH _
 |x::t=>by
  have ih:=CR (a:=a) hq t
  have e1:bP 0 a (x::t)=(if dx x.1 0∧dx x.2.1 a then dU x else 0)+bP 0 a t:=eo 0 a x t
  have e2:(jh (fO a q (x::t))).sum=(if ¬dx x.1 0∧dx x.2.1 a∧HJ (dU x) q then((dU x).natAbs:Int)else 0)+(jh (fO a q t)).sum:=by
   rw[rp]
   split
   ·show(((dU x).natAbs:Int)::jh (fO a q t)).sum=_
    rw[cy]
   ·omega
  have e3:(c6 a (x::t)).sum=(if dx x.2.1 a then dU x else 0)+(c6 a t).sum:=by
   rw[dg]
   by_cases h:x.2.1=a
   ·rw[aj h,aj (show dx x.2.1 a from h),cy]
   ·rw[ah h,ah (show ¬dx x.2.1 a from h)];omega
  rw[e1,e2,e3]
  exact NI Iff.rfl hq ih
theorem QN{a q:Int}{l:au}(hs:sC (l.map keyOf))(hf:(c6 a l).sum=0)(hq:fY 0 a l=q)(h0:q≠0):(q.natAbs:Int)≤(jh (fO a q l)).sum:=by
 rw[kR hs]at hq
 by_cases h:0<q
 ·have:=CQ (a:=a) h l
  rw[hf,hq]at this;omega
 ·have:=CR (a:=a) (q:=q) ω l
  rw[hf,hq]at this;omega
theorem Xp{t left:Int}{w out:List Int}(f:Full t w w out left)(h:t≤w.sum):left=0:=by
 have c:=f.c
 rcases f.f with e|e
 ·exact e
 ·have Zc:w.sum≤out.sum:=xE (by rw[c.l2]) λi hi=>by
   have h1:=e i hi
   have h2:=g4 c.pw i
   have h3:=c.po i
   by_cases h4:0<w.getD i 0
   ·have: ¬out.getD i 0<w.getD i 0:=λh5=>h1 ⟨h4,h5⟩
    omega
   ·omega
  have:=c.s
  have:=c.l
  omega
def sg(q x:Int):Int:=if q<0 then 0-x else x
def zc(a q:Int):List (Int×Int)→au
 |[]=>[]
 |p::t=>if sg q p.1=0 then zc a q t else(p.2,(a,(sg q p.1,())))::zc a q t
theorem D4(a q:Int)(p:Int×Int)(t:List (Int×Int)):zc a q (p::t)=if sg q p.1=0 then zc a q t else(p.2,(a,(sg q p.1,())))::zc a q t:=rfl
def jN(l:au)(a q:Int):List Int×Int×Int:=sJ (q.natAbs:Int) (jh (fO a q l)) (jh (fO a q l))
def aaI(l:au)(a q:Int):au:=((0:Int),(a,((0-q:Int),())))::zc a q ((jN l a q).1.zip (yx (fO a q l)))
def uS(c:ae)(b:aq)(a:Int):au×Int:=
 if dz c b then(if a<0 then([],3)else if(c.1.length:Int)≤a then([],3)else if eG b.2.2.2.1 0 a=0 then([],0)else
  if(jN b.2.2.2.1 a (eG b.2.2.2.1 0 a)).2.2=0 then(aaI b.2.2.2.1 a (eG b.2.2.2.1 0 a),0)else([],(jN b.2.2.2.1 a (eG b.2.2.2.1 0 a)).2.2))else([],1)
theorem F5{t:Int}{w caps:List Int}(vB:t<9223372036854775808)(hc:IV caps)(hx:(sJ t w caps).2.2=0):Full t w caps (sJ t w caps).1 (sJ t w caps).2.1:=by
 unfold sJ at*
 by_cases h1:t<0∨may w=false∨caps.length≠w.length∨may caps=false
 ·rw[aj h1]at hx;exact absurd hx δ
 ·rw[ah h1]at hx ⊢
  by_cases h2:9223372036854775808≤w.sum
  ·rw[aj h2]at hx;exact absurd hx δ
  ·rw[ah h2]
   have h3:may w=true:=by cases h:may w<;>simp_all
   have h4:may caps=true:=by cases h:may caps<;>simp_all
   have h5:caps.length=w.length:=Ee λh=>h1 (Or.inr (Or.inr (Or.inl h)))
   exact NF _ _ _ (I6 ω vB h3 h4 h5 hc ω) (Or.inl (by have:=Xm w caps (List.replicate w.length 0);omega))
theorem BK{l:au}(h: ∀x∈l,aE (dU x)∧p5 (dU x))(a q:Int):IV (jh (fO a q l)):=λz hz=>by
 obtain⟨x,hx,rfl⟩:=cD.1 hz
 have:=h x (tI hx).1
 have g: ∀v:Int,aE v∧p5 v→ -9223372036854775808≤(v.natAbs:Int)∧(v.natAbs:Int)<9223372036854775808:=λv hv=>by unfold aE p5 at hv;omega
 exact g _ this
theorem Xq{out accs:List Int}{i:Nat}(h1:i<out.length)(h2:i<accs.length):(out.zip accs).getD i (0,0)=(out.getD i 0,accs.getD i 0):=by
 rw[aU,bn (by rw[vM];omega),List.getElem_zip,aU,bn h1,aU,bn h2];rfl
end VM
end
section
namespace VM
open Go VM.F
end VM
end
section
namespace VM
open Go VM.F
theorem KJ{c:ae}{b:aq}(h:dz c b=true): ∀x∈b.2.2.2.1,uK x.2.1 c.1.length:=λx hx=>by
 have hk:=(dH h).2
 have h0:=(cU hk).2 x hx
 unfold dz at h
 simp only[bR]at h
 have h1:=bx h.2.2.2.2.2.2.2.2.1
 obtain⟨i,hi,e⟩:=gh hx
 have h2:=h1 i hi
 unfold jd at h2
 rw[aU,bn hi]at h2
 simp only[mZ,e]at h2
 have g: ∀u v:Int,bD u v→nS v c.1.length→uK v c.1.length:=λu v h1 h2=>by unfold bD at h1;unfold nS at h2;unfold uK;omega
 exact g _ _ h0.1 h2.2
end VM
end
section
namespace VM
open Go VM.F
end VM
end
section
namespace VM
open Go VM.F
theorem CS{k:Int}: ∀{i:Nat} {l:aK},nC k i l≠[]→(i:Int)≤(nC k i l).getD 0 0∧(nC k i l).getD 0 0<((i+l.length:Nat):Int)
 |i,[],h=>absurd rfl h
 |i,y::t,h=>by
  rw[AG]at h ⊢
  by_cases e:y.1=k
  ·rw[aj e,aR]
   show(i:Int)≤(i:Int)∧(i:Int)<_
   omega
  ·rw[ah e]at h ⊢
   have:=CS h
   rw[aR];omega
def amY(c:ae):Int:=c.2.2.2.2.2.2.1
end VM
end
section
namespace VM
open Go VM.F
end VM
end
section
namespace VM
open Go VM.F
end VM
end
section
namespace VM
open Go VM.F
def zIn(z:Int×Int)(n:Nat):Prop:=0≤z.1∧z.1≤1000000000*(n:Int)∧0≤z.2∧z.2≤1000000000*(n:Int)
theorem zIn.mono{z:Int×Int}{n m:Nat}(h:zIn z n)(hm:n≤m):zIn z m:=by unfold zIn at*;omega
end VM
end
section
namespace VM
open Go VM.F
end VM
end
section
namespace VM
open Go VM.F
end VM
end
section
namespace VM
open Go VM.F
end VM
end
section
namespace VM
open Go VM.F
end VM
end
section
namespace VM
open Go VM.F
def qIn(q:Int):Prop:=1≤q∧q≤1000000000
instance(q:Int):Decidable (qIn q):=by unfold qIn;infer_instance
def AK(a b c d:Int):Prop:=(1≤a∧a≤1099511627776)∧(0≤b∧b<6)∧(c=1∨c=2)∧qIn d
instance(a b c d:Int):Decidable (AK a b c d):=by unfold AK;infer_instance
def AL(h:bO):Prop:=AK h.1 h.2.1 h.2.2.1 h.2.2.2.1
instance(h:bO):Decidable (AL h):=by unfold AL;infer_instance
theorem w3(N:Nat)(h:bO):aaK N h=some (decide (AL h)):=by
 unfold aaK
 rw[nZ h.2.2.2.1]
 rw[gD,FB,Bv,FA,gD,gD,gD]
 congr 1
 rw[oT,ff]
 unfold AL AK qIn
 simp only[bR,m1,qC,vH,Eh]
 omega
end VM
end
section
namespace VM
open Go VM.F Go.RowKit
def hR:au:=[((1:Int),((0:Int),((-90:Int),()))),((5:Int),((1:Int),((90:Int),())))]
def hS:au:=[((0:Int),((0:Int),((5:Int),()))),((0:Int),((1:Int),((20:Int),()))),((1:Int),((0:Int),((-5:Int),()))),((1:Int),((1:Int),((-20:Int),())))]
def hB:aq:=([((1:Int),((1:Int),()))],([((1:Int),((1:Int),((1:Int),((50:Int),()))))],(hR,(hS,([(100:Int),(7:Int)],(dT,()))))))
def hO:bO:=((4:Int),((0:Int),((2:Int),((6:Int),()))))
theorem hW:AA hB:=⟨⟨δ,δ,δ,δ,δ,δ,D3 (l:=hR) δ,D3 (l:=hS) δ⟩,δ,δ⟩
namespace Pure
end Pure
end VM
end
section
namespace VM
open Go VM.F
def Ok{α:Type}(P:α→Prop)(o:Option α):Prop:= ∃r,o=some r∧P r
theorem an{α:Type}{P:α→Prop}{r:α}(h:P r):Ok P (some r):=⟨r,rfl,h⟩
theorem af{α β:Type}{P:β→Prop}{Q:α→Prop}{o:Option α}{f:α→Option β}(h:Ok Q o)(hf: ∀r,Q r→Ok P (f r)):Ok P (o.bind f):=by
 obtain⟨r,rfl,hr⟩:=h
 exact hf r hr
theorem KK{α:Type}{P Q:α→Prop}{o:Option α}(h:Ok Q o)(hf: ∀r,Q r→P r):Ok P o:=by
 obtain⟨r,e,hr⟩:=h
 exact⟨r,e,hf r hr⟩
theorem nD{α:Type}{P:α→Prop}{o:Option α}{r:α}(h:o=some r)(hr:P r):Ok P o:=⟨r,h,hr⟩
theorem pf{α:Type}{P:α→Prop}{b:Bool}{x y:Option α}(hx:b=true→Ok P x)(hy:b=false→Ok P y):Ok P (cond b x y):=by
 cases b
 ·exact hy rfl
 ·exact hx rfl
theorem bt{α:Type}{P:α→Prop}{b:Bool}{x y:Option α}(hx:b=false→Ok P x)(hy:b=true→Ok P y):Ok P (cond (!b) x y):=by
 cases b
 ·exact hx rfl
 ·exact hy rfl
theorem aw{α:Type}{P:α→Prop}{a b:Int}{x y:Option α}(hx:a<b→Ok P x)(hy:b≤a→Ok P y):Ok P (cond (aY a b) x y):=by
 rw[cP]
 split
 ·exact hx (by assumption)
 ·exact hy ω
theorem eg{α:Type}{P:α→Prop}{a b:Int}{x y:Option α}(hx:a≤b→Ok P x)(hy:b<a→Ok P y):Ok P (cond (dk a b) x y):=by
 rw[cG]
 split
 ·exact hx (by assumption)
 ·exact hy ω
theorem ok_eq{α:Type}{P:α→Prop}{a b:Int}{x y:Option α}(hx:a=b→Ok P x)(hy:a≠b→Ok P y):Ok P (cond (aO a b) x y):=by
 rw[aN]
 split
 ·exact hx (by assumption)
 ·exact hy (by assumption)
theorem bu{α:Type}{P:α→Prop}{a b:Int}{x y:Option α}(hx:a≠b→Ok P x)(hy:a=b→Ok P y):Ok P (cond (!aO a b) x y):=by
 rw[cond_not];exact ok_eq hy hx
theorem aB{α:Type}{P:α→Prop}{i:Int}{n:Nat}{x y:Option α}(h:0≤i∧i<(n:Int))(hx:Ok P x):Ok P (cond (ba i n) x y):=by
 rw[aX h.1 h.2];exact hx
theorem aC{α:Type}{P:α→Prop}{n:Nat}{x y:Option α}(h:n<68719476736)(hx:Ok P x):Ok P (cond (small n) x y):=by
 rw[bL h];exact hx
theorem aaL{α:Type}{P:α→Prop}{l c:Int}{x y:Option α}(h:0≤l∧l≤c∧c<68719476736)(hx:Ok P x):Ok P (cond (jZ l c) x y):=by
 rw[cM h.1 h.2.1 h.2.2];exact hx
theorem BL{α:Type}{P:α→Prop}{l h m n:Int}{x y:Option α}(hh:0≤l∧l≤h∧h≤m∧m≤n)(hx:Ok P x):Ok P (cond (ka l h m n) x y):=by
 rw[dG hh.1 hh.2.1 hh.2.2.1 hh.2.2.2];exact hx
theorem iy{σ β:Type}{P:β→Prop}{F:Nat→Int→σ→Option β}{len:Nat}(I:Nat→σ→Prop)
  (hs: ∀n i s,i<len→I i s→(∀s',I (i+1) s'→Ok P (F n ((i+1:Nat):Int) s'))→Ok P (F (n+1) (i:Int) s)) (he: ∀n s,I len s→Ok P (F (n+1) (len:Int) s)):
  ∀m n i s,len-i≤m→m<n→i≤len→I i s→Ok P (F n (i:Int) s)
 |m,0,i,s,_,hn,_,_=>ω
 |m,n+1,i,s,hm,hn,hi,hI=>by
  by_cases h:i<len
  ·exact hs n i s h hI λs' yp=>iy I hs he (m-1) n (i+1) s' ω ω ω yp
  ·have:i=len:=ω
   subst this
   exact he n s hI
theorem bg{σ β:Type}{P:β→Prop}{F:Nat→Int→σ→Option β}{len:Nat}(I:Nat→σ→Prop){N:Nat}{s:σ}(h0:I 0 s)(hN:len<N)
  (hs: ∀n i s,i<len→I i s→(∀s',I (i+1) s'→Ok P (F n ((i+1:Nat):Int) s'))→Ok P (F (n+1) (i:Int) s)) (he: ∀n s,I len s→Ok P (F (n+1) (len:Int) s)):Ok P (F N 0 s):=
 iy I hs he len N 0 s ω hN ω h0
theorem lW{β:Type}{P:β→Prop}{F:Nat→Int→Option β}{len N:Nat}(hN:len<N)
  (hs: ∀n i,i<len→Ok P (F n ((i+1:Nat):Int))→Ok P (F (n+1) (i:Int))) (he: ∀n,Ok P (F (n+1) (len:Int))):Ok P (F N 0):=
 bg (σ:=Unit) (F:=λn i _=>F n i) (λ_ _=>True) (s:=()) trivial hN (λn i _ h _ hr=>hs n i h (hr () trivial)) λn _ _=>he n
theorem xF{σ β:Type}{P:β→Prop}{F:Nat→Int→σ→Option β}(I:Nat→σ→Prop)
  (hs: ∀n (k:Nat) s,I (k+1) s→(∀s',I k s'→Ok P (F n (k:Int) s'))→Ok P (F (n+1) ((k+1:Nat):Int) s)) (he: ∀n s,I 0 s→Ok P (F (n+1) 0 s)):
  ∀(k n:Nat) s,k<n→I k s→Ok P (F n (k:Int) s)
 |0,0,s,hn,_=>ω
 |0,n+1,s,hn,hI=>he n s hI
 |k+1,0,s,hn,_=>ω
 |k+1,n+1,s,hn,hI=>hs n k s hI λs' yp=>xF I hs he k n s' ω yp
def G(m:Nat):(τ:Ty)→τ.den→Prop
 | .int .i64,x=>aE x
 | .int .u64,x=>0≤x∧x<18446744073709551616
 | .slice e,l=>List.length l≤m∧ ∀x∈(l:List e.den),G m e x
 | .pair a b,x=>G m a x.1∧G m b x.2
 |_,_=>True
theorem G.mono{m n:Nat}(h:m≤n): ∀{τ:Ty} {x:τ.den},G m τ x→G n τ x
 | .int k,x,hx=>by cases k<;>exact hx
 | .slice e,l,hl=>⟨cm hl.1 h,λx hx=>G.mono h (hl.2 x hx)⟩
 | .pair a b,x,hx=>⟨G.mono h hx.1,G.mono h hx.2⟩
 | .bool,_,_=>trivial
 | .str,_,_=>trivial
 | .unit,_,_=>trivial
 | .arr _ _,_,_=>trivial
theorem G.nil{m:Nat}{e:Ty}:G m (.slice e) ([]:List e.den):=⟨bo _,λx hx=>nomatch hx⟩
theorem G.app{m:Nat}{e:Ty}{l:List e.den}{x:e.den}(h:G m (.slice e) l)(hx:G m e x):G (m+1) (.slice e) (l++[x]):=
 ⟨by have:=h.1;rw[aS,aI];omega,λy hy=>by
  rcases bb.1 hy with hy|hy
  ·exact G.mono ω (h.2 y hy)
  ·rw[bW.1 hy];exact G.mono ω hx⟩
theorem G.get{m:Nat}{e:Ty}{l:List e.den}{d:e.den}(h:G m (.slice e) l)(hd:G m e d)(k:Nat):G m e (l.getD k d):=by
 by_cases hk:k<l.length
 ·rw[aU,bn hk];exact h.2 _ (dB hk)
 ·rw[aU,gH ω];exact hd
theorem G.zero(m:Nat): ∀τ:Ty,G m τ τ.zero
 | .int k=>by cases k<;>first|trivial|exact⟨δ,δ⟩
 | .slice _=>G.nil
 | .pair a b=>⟨G.zero m a,G.zero m b⟩
 | .bool=>trivial
 | .str=>trivial
 | .unit=>trivial
 | .arr _ _=>trivial
theorem G.at{m:Nat}{e:Ty}{l:List e.den}(h:G m (.slice e) l)(k:Nat):G m e (l.getD k e.zero):=h.get (G.zero m e) k
theorem G.set{m:Nat}{e:Ty}{l:List e.den}{x:e.den}(h:G m (.slice e) l)(hx:G m e x)(k:Nat):G m (.slice e) (l.set k x):=
 ⟨by rw[bN];exact h.1,λy hy=>by
  rcases xl hy with hy|rfl
  ·exact h.2 y hy
  ·exact hx⟩
theorem fT(x:Int):aE (W .i64 x):=by
 rw[iE];unfold aE;split<;>omega
def Bg(k:Nat)(z:aH):Prop:= ∃v,z=cV v∧Fit v k
theorem Bg.mono{j k:Nat}{z:aH}(h:Bg j z)(hk:j≤k):Bg k z:=by
 obtain⟨v,e,f⟩:=h
 exact⟨v,e,Fit.mono f hk⟩
theorem Bg.zero:Bg 1 (false,(([]:List Int),())):=⟨0,iF.symm,by unfold Fit;decide⟩
theorem bp(N:Nat)(hN:4000000≤N){x:Int}(h:aE x):Ok (Bg 2) (jV N x):=nD (c5 N ω h.1 h.2) ⟨x,rfl,Fit.i64 h.1 h.2⟩
theorem kS(N:Nat)(hN:4000000≤N){k:Nat}(hk:k≤90000){u v:aH}(hu:Bg k u)(hv:Bg k v):Ok (Bg (k+1)) (zd N u v):=by
 obtain⟨a,rfl,ha⟩:=hu
 obtain⟨b,rfl,hb⟩:=hv
 exact nD (jc N hN (Fit.mono ha ω) (Fit.mono hb ω)) ⟨_,rfl,Fit.add ha hb⟩
theorem xG(N:Nat)(hN:4000000≤N){k:Nat}(hk:k≤90000){u v:aH}(hu:Bg k u)(hv:Bg k v):Ok (Bg (k+1)) (R1 N u v):=by
 obtain⟨a,rfl,ha⟩:=hu
 obtain⟨b,rfl,hb⟩:=hv
 exact nD (uv N hN (Fit.mono ha ω) (Fit.mono hb ω)) ⟨_,rfl,by rw[Int.sub_eq_add_neg];exact Fit.add ha (Fit.neg hb)⟩
theorem qt(N:Nat)(hN:4000000≤N){k:Nat}(hk:k≤90000){u:aH}(hu:Bg k u):Ok (Bg k) (TQ N u):=by
 obtain⟨a,rfl,ha⟩:=hu
 exact nD (jy N hN (Fit.mono ha ω)) ⟨_,rfl,Fit.neg ha⟩
theorem AN(N:Nat)(hN:4000000≤N){k:Nat}(hk:k≤90000){u:aH}(hu:Bg k u):Ok (Bg k) (WB N u):=by
 obtain⟨a,rfl,ha⟩:=hu
 exact nD (Fp N hN (Fit.mono ha ω)) ⟨_,rfl,Fit.of_le ha ω⟩
theorem lG(N:Nat)(hN:4000000≤N){j k:Nat}(hj:j≤90000)(hk:k≤90000){u v:aH}(hu:Bg j u)(hv:Bg k v):Ok (Bg (j+k)) (jS N u v):=by
 obtain⟨a,rfl,ha⟩:=hu
 obtain⟨b,rfl,hb⟩:=hv
 exact nD (wF N hN (Fit.mono ha hj) (Fit.mono hb hk)) ⟨_,rfl,Fit.mul ha hb⟩
theorem D5(N:Nat){k:Nat}{u:aH}(hu:Bg k u):Ok (λ_=>True) (R2 N u):=by
 obtain⟨a,rfl,ha⟩:=hu
 exact nD (p4 N a) trivial
theorem pJ(N:Nat)(hN:4000000≤N){j k:Nat}(hj:j≤90000)(hk:k≤90000){u v:aH}(hu:Bg j u)(hv:Bg k v):Ok (λ_=>True) (PW N u v):=by
 obtain⟨a,rfl,ha⟩:=hu
 obtain⟨b,rfl,hb⟩:=hv
 exact nD (Qj N hN (Fit.mono ha ω) (Fit.mono hb ω)) trivial
theorem Xr(v:Int):aE (Bs v).1:=by
 by_cases h:aE v
 ·rw[nv h];exact h
 ·rw[uD h];unfold aE;decide
theorem w4(N:Nat){k:Nat}{u:aH}(hu:Bg k u):Ok (λr=>aE r.1) (wE N u):=by
 obtain⟨a,rfl,ha⟩:=hu
 exact nD (q3 N a) (Xr a)
end VM
end
section
namespace VM
open Go VM.F
abbrev L3(m:Nat)(l:au):Prop:=G m (.slice jt) l
def jU(m:Nat)(p:bF):Prop:=p.length≤m∧ ∀y∈p,Bg 8 y.2.2.1
theorem jU.at{m:Nat}{p:bF}(h:jU m p)(i:Nat):Bg 8 (p.getD i ((0:Int),((0:Int),((false,pv),())))).2.2.1:=by
 by_cases hk:i<p.length
 ·rw[aU,bn hk];exact h.2 _ (dB hk)
 ·rw[aU,gH ω];exact Bg.mono Bg.zero δ
theorem jU.nil{m:Nat}:jU m []:=⟨bo _,λx hx=>nomatch hx⟩
theorem jU.app{m n:Nat}{p q:bF}(h:jU m p)(h':jU n q):jU (m+n) (p++q):=
 ⟨by have:=h.1;have:=h'.1;rw[aS];omega,λy hy=>(bb.1 hy).elim (h.2 y) (h'.2 y)⟩
theorem jU.mono{m n:Nat}{p:bF}(h:jU m p)(hm:m≤n):jU n p:=⟨cm h.1 hm,h.2⟩
theorem CT(N:Nat){k:Nat}{u:aH}(hu:Bg k u):Ok (λr=>aE r.1) (Qx N u):=by
 unfold Qx
 refine af (w4 N hu) λr h=>bt (λ_=>an (by unfold aE;decide)) λ_=>ok_eq (λ_=>an (by unfold aE;decide)) λ_=>an h
theorem iM{x:Int}(h0: -1000000≤x)(h1:x≤1000000):aE x:=by unfold aE;omega
theorem G3{m:Nat}{a b c:Int}(ha:aE a)(hb:aE b)(hc:aE c):G m jt (a,(b,(c,()))):=⟨ha,hb,hc,trivial⟩
theorem bJ:aE 0:=by unfold aE;decide
theorem Ul(N:Nat)(hN:4000000≤N){x k n:Int}{p:bF}(hx:aE x)(hp:jU 50000 p):Ok (λr=>aE r.1) (ny N x k n p):=by
 have hl:=hp.1
 refine bg (len:=p.length) (F:=λn' i (s:aH×Bool)=>ny.l3 N n' x k n p s.1 s.2 i) (s:=(_,_)) (λi s=>Bg (8+i) s.1) (Bg.mono Bg.zero ω) ω (λn' i s hi hI hr=> ?_) (λn' s hI=> ?_)
 all_goals unfold ny.l3 ny.nO
 ·rw[ax (x:=(i:Int)+1) ω ω,ag i]
  have h1:=hr (s.1,s.2) (Bg.mono hI ω)
  repeat' first|exact h1|refine aB ⟨ω,ω⟩ ?_|refine aw (λ_=> ?_) (λ_=> ?_)|refine ok_eq (λ_=> ?_) (λ_=> ?_)|(exfalso;omega)|exact af (kS N hN ω hI (Bg.mono (hp.at _) ω)) λr h=>hr (r,true) h
 ·refine aw (λ_=>ω) λ_=>bt (λ_=>an hx) λ_=>af (bp N hN hx) λr h=>af (kS N hN ω hI (Bg.mono h ω)) λr h=>af (w4 N h) λr h=>an h
theorem aaM(N:Nat)(hN:4000000≤N){l:au}{p:bF}{m:Nat}(hm:m≤50000)(hl:L3 m l)(hp:jU 50000 p):Ok (λr=>L3 200 r.1) (du N l p):=by
 have G4:=hl.1
 refine iy (len:=8) (F:=λn k (s:au×Int)=>du.l4 N n l p s.1 s.2 k) (λi s=>L3 (25*i) s.1∧0≤s.2) (λn i s hi hI hr=> ?_) (λn s hI=> ?_) 8 N 1 (_,_) ω ω ω ⟨G.nil,fH 0⟩
 all_goals unfold du.l4 du.dw
 ·refine eg (λ_=> ?_) (λ_=>ω)
  refine bg (len:=25) (F:=λn' j (s:au×Int)=>du.l7 N (du.l4 N n) n' l p s.1 s.2 (i:Int) j) (s:=s) (λj s=>L3 (25*i+j) s.1∧0≤s.2) hI ω (λn' j s hj hI eO=> ?_) (λn' s hI=> ?_)
  all_goals unfold du.l7 du.q4
  ·have lU: ∀(k x:Int),0≤k→aE x→Ok (λr=>L3 200 r.1) (du.Si N (du.l4 N n) (du.l7 N (du.l4 N n) n') l p s.1 k (i:Int) (j:Int) x):=λk x hk hx=>by
    unfold du.Si du.Kv
    rw[ax (x:=(j:Int)+1) ω ω,ag j]
    have hs:=hI.1.1
    refine af (Ul N hN hx hp) λr h=>bt (λ_=>an G.nil) λ_=>bu (λ_=>aC (by rw[aI];omega) (eO (_,k) ⟨G.app hI.1 (G3 (iM ω ω) (iM ω ω) h),hk⟩)) λ_=>eO (s.1,k) ⟨G.mono ω hI.1,hk⟩
   have h0:=lU s.2 0 hI.2 bJ
   have TL:=hI.2
   repeat' first|exact h0|refine aB ⟨ω,ω⟩ ?_|refine aw (λ_=> ?_) (λ_=> ?_)|refine eg (λ_=> ?_) (λ_=> ?_)|refine ok_eq (λ_=> ?_) (λ_=> ?_)|(exfalso;omega)|exact lU _ _ (by rw[ax (x:=s.2+1) ω ω];omega) (G.at hl _).2.2.1
  ·rw[ax (x:=(i:Int)+1) ω ω,ag i]
   exact eg (λ_=>ω) λ_=>hr s ⟨G.mono ω hI.1,hI.2⟩
 ·exact eg (λ_=>ω) λ_=>an (G.mono δ hI.1)
theorem QO(N:Nat)(hN:4000000≤N){l t:au}{m:Nat}(hm:m≤50000)(hl:L3 m l)(ht:L3 50000 t):Ok (λr=>L3 200 r.1) (ct N l t):=by
 have G4:=hl.1
 have htl:=ht.1
 refine bg (len:=25) (F:=λn k (s:au×Int)=>ct.l4 N n l t s.1 s.2 k) (s:=(_,_)) (λi s=>L3 (6*i) s.1∧0≤s.2) ⟨G.nil,fH 0⟩ ω (λn i s hi hI hr=> ?_) (λn s hI=> ?_)
 all_goals unfold ct.l4 ct.dw
 ·refine eg (λ_=> ?_) (λ_=>ω)
  refine bg (len:=6) (F:=λn' j (s:au×Int)=>ct.l7 N (ct.l4 N n) n' l t s.1 s.2 (i:Int) j) (s:=s) (λj s=>L3 (6*i+j) s.1∧0≤s.2) hI ω (λn' j s hj hI eO=> ?_) (λn' s hI=> ?_)
  all_goals unfold ct.l7 ct.q4
  ·have lU: ∀(k x:Int),0≤k→aE x→Ok (λr=>L3 200 r.1) (ct.Si N (ct.l4 N n) (ct.l7 N (ct.l4 N n) n') l t s.1 k (i:Int) (j:Int) x false):=λk x hk hx=>by
    unfold ct.Si ct.Kv
    have hs:=hI.1.1
    have zT: ∀y:Int,aE y→Ok (λr=>L3 200 r.1) (cond (!aO y 0) (cond (small (s.1.length+[(((i:Int),((j:Int),(y,()))):db)].length)) (ct.l7 N (ct.l4 N n) n' l t (s.1++[((i:Int),((j:Int),(y,())))]) k (i:Int) (W .i64 ((j:Int)+1))) none) (ct.l7 N (ct.l4 N n) n' l t s.1 k (i:Int) (W .i64 ((j:Int)+1)))):=λy hy=>by
     rw[ax (x:=(j:Int)+1) ω ω,ag j]
     exact bu (λ_=>aC (by rw[aI];omega) (eO (_,k) ⟨G.app hI.1 (G3 (iM ω ω) (iM ω ω) hy),hk⟩)) λ_=>eO (s.1,k) ⟨G.mono ω hI.1,hk⟩
    refine bg (len:=t.length) (F:=λI8 u (z:aH×Bool)=>ct.IG N (ct.l4 N n) (ct.l7 N (ct.l4 N n) n') I8 l t s.1 k (i:Int) (j:Int) x z.2 z.1 u) (s:=(_,_)) (λu z=>Bg (3+u) z.1) (Bg.mono Bg.zero ω) ω (λI8 u z hu hz Xs=> ?_) (λI8 z hz=> ?_)
    all_goals unfold ct.IG ct.HG
    ·rw[ax (x:=(u:Int)+1) ω ω,ag u]
     have h1:=Xs (z.1,z.2) (Bg.mono hz ω)
     repeat' first|exact h1|refine aB ⟨ω,ω⟩ ?_|refine aw (λ_=> ?_) (λ_=> ?_)|refine ok_eq (λ_=> ?_) (λ_=> ?_)|(exfalso;omega)|exact af (bp N hN (G.at ht _).2.2.1) λr h=>af (kS N hN ω hz (Bg.mono h ω)) λr h=>Xs (r,true) h
    ·exact aw (λ_=>ω) λ_=>pf (λ_=>af (bp N hN hx) λr h=>af (kS N hN ω hz (Bg.mono h ω)) λr h=>af (CT N h) λr h=>bt (λ_=>an G.nil) λ_=>zT _ h) λ_=>zT _ hx
   have h0:=lU s.2 0 hI.2 bJ
   have TL:=hI.2
   repeat' first|exact h0|refine aB ⟨ω,ω⟩ ?_|refine aw (λ_=> ?_) (λ_=> ?_)|refine eg (λ_=> ?_) (λ_=> ?_)|refine ok_eq (λ_=> ?_) (λ_=> ?_)|(exfalso;omega)|exact lU _ _ (by rw[ax (x:=s.2+1) ω ω];omega) (G.at hl _).2.2.1
  ·rw[ax (x:=(i:Int)+1) ω ω,ag i]
   exact aw (λ_=>ω) λ_=>hr s ⟨G.mono ω hI.1,hI.2⟩
 ·exact eg (λ_=>ω) λ_=>an (G.mono δ hI.1)
theorem G.iN{m:Nat}:G m aL (ck,(c9,(bH,(bH,(dC,(dT,())))))):=G.zero m aL
theorem sK(N:Nat)(hN:4000000≤N){b:aq}{s:au}{p:bF}{m:Nat}(h2:200≤m)(hm:m≤50000)(hb:G m aL b)(hs:L3 50000 s)(hp:jU 50000 p):Ok (λr=>G m aL r.1) (yd N b s p):=by
 unfold yd
 exact af (QO N hN hm hb.2.2.2.1 hs) λr h=>bt (λ_=>an G.iN) λ_=>af (aaM N hN hm hb.2.2.1 hp) λr' h'=>bt (λ_=>an G.iN) λ_=>an ⟨hb.1,hb.2.1,G.mono h2 h',G.mono h2 h,hb.2.2.2.2⟩
end VM
end
section
namespace VM
open Go VM.F
theorem bA{α β:Type}{P:β→Prop}{o:Option α}{r:α}{f:α→Option β}(h:o=some r)(hf:Ok P (f r)):Ok P (o.bind f):=by rw[h];exact hf
theorem G.wf{m:Nat}(hm:m≤50000){b:aq}(h:G m aL b):AA b:=by
 obtain⟨h1,h2,h3,h4,h5,h6,_⟩:=h
 exact⟨⟨cm h1.1 ω,cm h2.1 ω,cm h3.1 ω,cm h4.1 ω,cm h5.1 ω,cm h6.1 ω,λx hx=>(h3.2 x hx).2.2.1,λx hx=>(h4.2 x hx).2.2.1⟩,cm h3.1 ω,cm h4.1 ω⟩
theorem dI(N:Nat)(hN:5000000≤N){c:ae}{b:aq}{m:Nat}(hm:m≤50000)(h:G m aL b):fZ N c b=some (dz c b):=Ao N hN (G.wf hm h).w
theorem aaN{x:Int}(h:jg x):aE x:=by unfold jg at h;unfold aE;omega
theorem HK(N:Nat)(hN:4000000≤N)(t:sW)(p:Int):Ok (λr=>jU 2 r.1) (QI N t p):=by
 unfold QI
 refine bA (xD N t) (bt (λ_=>an jU.nil) λht=>bA (iH N p) (bt (λ_=>an jU.nil) λ_=>af (bp N hN (fT _)) λa ha=>af (bp N hN ?_) λq hq=>af (lG N hN ω ω ha hq) λx hx=>af (D5 N hx) λ_ _=>ok_eq (λ_=>an jU.nil) λ_=> ?_))
 ·have:=bx ht
  unfold nA kv at this
  exact fG δ this.2.2.2.2.1.1 |> λh=>⟨h,qB this.2.2.2.2.1.2 δ⟩
 ·unfold KC
  have hr: ∀a:Int,Ok (λ_=>True) (cond (aO a 0) (some ((2:Int),(0:Int))) (some ((5:Int),a))):=λa=>ok_eq (λ_=>an trivial) λ_=>an trivial
  refine af (hr _) λ_ _=>af (hr _) λ_ _=>af (qt N hN ω hx) λy hy=>an ⟨aG 2,λz hz=> ?_⟩
  rcases aW.1 hz with rfl|hz
  ·exact Bg.mono hx ω
  ·rw[bW.1 hz];exact Bg.mono hy ω
theorem NJ(N:Nat)(hN:200000≤N){b:aq}{m:Nat}(hm:m≤50000)(h:G m aL b)(id:Int):Ok (λ_=>True) (Ks N b id):=nD (tF N b (G.wf hm h).w.a hN id) trivial
theorem I9(N:Nat)(hN:5000000≤N)(c:ae){b:aq}{l:bK}{m:Nat}(h2:200≤m)(hm:m≤50000)(hb:G m aL b):Ok (λr=>G m aL r.1) (gz N c b l):=by
 unfold gz gz.b
 refine bA (dI N hN hm hb) (bt (λ_=>an G.iN) λhB=>aw (λ_=>an G.iN) λhl=> ?_)
 obtain⟨hp,_⟩:=ic hB
 refine bg (len:=l.length) (F:=λn i (_:Unit)=>gz.l4 N n l c b (ck,(c9,(bH,(bH,(dC,(dT,())))))) i) (s:=()) (λi _=> ∀j,j<i→nA (l.getD j mK)) (λj hj=>ω) ω (λn i _ hi hI hr=> ?_) (λn _ hI=> ?_)
 all_goals unfold gz.l4 gz.dw
 ·rw[ax (x:=(i:Int)+1) ω ω,ag i]
  refine aw (λ_=>aB ⟨ω,ω⟩ (bA (xD N _) (bt (λ_=>an G.iN) λht=>hr () λj hj=> ?_))) λ_=>ω
  by_cases e:j=i
  ·rw[e];exact bx ht
  ·exact hI j ω
 ·refine aw (λ_=>ω) λ_=> ?_
  refine bg (len:=l.length) (F:=λn i (s:au×bF)=>gz.BM N n l c b (ck,(c9,(bH,(bH,(dC,(dT,())))))) s.1 s.2 i) (s:=(_,_)) (λi s=>L3 (2*i) s.1∧jU (2*i) s.2) ⟨G.nil,jU.nil⟩ ω (λn i s hi hJ hr=> ?_) (λn s hJ=> ?_)
  all_goals unfold gz.BM gz.yZ
  ·have ht:=hI i hi
   unfold nA kv at ht
   have Lp:=hJ.1.1
   have TL:=hJ.2.1
   have g64: ∀x:Int,0≤x∧x≤1000000→aE x:=λx h=>iM ω ω
   dsimp only
   rw[ax (x:=(i:Int)+1) ω ω,ag i,aJ]
   refine aw (λ_=>aB ⟨ω,ω⟩ (af (NJ N ω hm hb _) λ_ _=>bt (λ_=>an G.iN) λ_=>af (NJ N ω hm hb _) λ_ _=>bt (λ_=>an G.iN) λ_=>eg (λ_=>an G.iN) λe9=>aC ?_ (aB ⟨ht.2.2.2.1.1,ω⟩ (af (HK N ω _ _) λr h=>aC ?_ (hr (_,_) ⟨?_,jU.mono (jU.app hJ.2 h) ω⟩))))) λ_=>ω
   ·rw[aR,aI];omega
   ·have:=h.1;omega
   ·have hq:aE (l.getD i mK).2.2.2.1:=⟨fG δ ht.2.2.2.2.1.1,qB ht.2.2.2.2.1.2 δ⟩
    have m7:aE (l.getD i mK).2.2.1:=g64 _ ⟨ht.2.2.2.1.1,fG (Int.le_of_lt ht.2.2.2.1.2) δ⟩
    have h1:=G.app (G.app hJ.1 (G3 (g64 _ ⟨ht.1.1,fG ht.1.2 δ⟩) m7 hq)) (G3 (g64 _ ⟨ht.2.1.1,fG ht.2.1.2 δ⟩) m7 (fT (0-(l.getD i mK).2.2.2.1)))
    rw[br]at h1
    exact G.mono ω h1
  ·exact aw (λ_=>ω) λ_=>af (sK N ω h2 hm hb (G.mono ω hJ.1) (jU.mono hJ.2 ω)) λr h=>an h
end VM
end
section
namespace VM
open Go VM.F
def HL(k:Nat)(l:pg):Prop:= ∀x∈l,Bg k x
theorem HL.mono{j k:Nat}{l:pg}(h:HL j l)(hk:j≤k):HL k l:=λx hx=>Bg.mono (h x hx) hk
theorem HL.at{k:Nat}{l:pg}(h:HL k l)(h1:1≤k)(i:Nat):Bg k (l.getD i (false,pv)):=by
 by_cases hk:i<l.length
 ·rw[aU,bn hk];exact h _ (dB hk)
 ·rw[aU,gH ω];exact Bg.mono Bg.zero h1
theorem HL.set{k:Nat}{l:pg}{x:aH}(h:HL k l)(hx:Bg k x)(i:Nat):HL k (l.set i x):=λy hy=>by
 rcases xl hy with hy|rfl
 ·exact h y hy
 ·exact hx
theorem HL.rep{k n:Nat}(h:1≤k):HL k (List.replicate n (false,pv)):=λx hx=>by
 rw[(List.mem_replicate.1 hx).2];exact Bg.mono Bg.zero h
theorem aaO(N:Nat)(hN:5000000≤N)(c:ae){b:aq}{m:Nat}(hm:m≤50000)(hb:G m aL b):Ok (λr=>(r.2=0→dz c b=true∧r.1.length=4)∧HL 20 r.1) (rq N c b):=by
 unfold rq rq.b
 have w:=(G.wf hm hb).w
 refine bA (dI N hN hm hb) (bt (λ_=>an ⟨λh=>absurd h δ,λx hx=>nomatch hx⟩) λhB=>aaL ⟨ω,ω,ω⟩ ?_)
 obtain⟨hp,hpr⟩:=ic hB
 obtain⟨h6,hbk⟩:=CK (uN hB)
 refine bg (len:=c.1.length) (F:=λn i (s:pg)=>rq.l5 N n c b s i) (λi s=>s.length=4∧HL (8+i) s) ⟨cR ..,HL.rep ω⟩ ω (λn i s hi hI hr=> ?_) (λn s hI=> ?_)
 all_goals unfold rq.l5 rq.ei
 ·have hk:=hbk i hi
  have hl:=hI.1
  rw[ax (x:=(i:Int)+1) ω ω,ag i,aJ]
  have in1: ∀{x y:Option (pg×Int)},Ok (λr=>(r.2=0→dz c b=true∧r.1.length=4)∧HL 20 r.1) x→Ok (λr=>(r.2=0→dz c b=true∧r.1.length=4)∧HL 20 r.1) (cond (ba (c.1.getD i aV).1 s.length) x y):=λh=>aB ⟨hk.1,qB hk.2 (show(3:Int)<(s.length:Int)by omega)⟩ h
  exact aw (λ_=>aB ⟨ω,ω⟩ (in1 (bA (D2 N w.s ω 0 (i:Int)) (af (bp N ω (Xg w.qs 0 (i:Int))) λa ha=>aB ⟨ω,ω⟩ (af (bp N ω (aaN (Nv hpr ω))) λp hp=>af (lG N ω ω ω ha hp) λx hx=>af (kS N ω ω (HL.at hI.2 ω _) (Bg.mono hx ω)) λy hy=>in1 (hr _ ⟨by rw[bN];exact hl,HL.set (HL.mono hI.2 ω) hy _⟩)))))) λ_=>ω
 ·exact aw (λ_=>ω) λ_=>an ⟨λ_=>⟨hB,hI.1⟩,HL.mono hI.2 ω⟩
theorem am0{v:Int}(h:(Bs v).2=true):(Bs v).1=v:=by
 by_cases h':aE v
 ·rw[nv h']
 ·rw[uD h']at h;exact nomatch h
def HM(c:ae)(x:bO):Prop:=((λi n:Int=>0≤i∧i<n) x.2.1 c.1.length)∧qIn x.2.2.2.1
theorem Ja(N:Nat)(hN:5000000≤N)(c:ae)(hc:aE (amY c)){b:aq}{m:Nat}(hm:m≤50000)(hb:G m aL b)(next:Int):Ok (λr=>G 4 (.slice eB) r.1∧ ∀x∈r.1,HM c x) (iS N c b next):=by
 unfold iS iS.b
 refine af (aaO N hN c hm hb) λz hz=>bu (λ_=>an ⟨G.nil,λx hx=>nomatch hx⟩) λh0=>aw (λ_=>an ⟨G.nil,λx hx=>nomatch hx⟩) λh1=>aw (λ_=>an ⟨G.nil,λx hx=>nomatch hx⟩) λh2=> ?_
 obtain⟨hB,hl4⟩:=hz.1 h0
 obtain⟨hp,hpr⟩:=ic hB
 obtain⟨h6,hbk⟩:=CK (uN hB)
 refine bg (len:=4) (F:=λn k (s:Int×aK)=>iS.l6 N n s.1 c b z.1 s.2 k) (s:=(_,_)) (λk s=>(G k (.slice eB) s.2∧ ∀x∈s.2,HM c x)∧next≤s.1∧s.1≤next+k) ⟨⟨G.nil,λx hx=>nomatch hx⟩,ω,ω⟩ ω (λn k s hk hI hr=> ?_) (λn s hI=> ?_)
 all_goals unfold iS.l6 iS.uu
 ·have Lp:=hI.1.1.1
  have TL:=hI.2
  rw[ax (x:=(k:Int)+1) ω ω,ag k]
  have ss:=hr s ⟨⟨G.mono ω hI.1.1,hI.1.2⟩,ω,ω⟩
  obtain⟨a,ea,ha⟩:=HL.at hz.2 ω k
  have ha':Fit (a.natAbs:Int) 20:=Fit.of_le ha ω
  refine aw (λ_=>bA (QJ N ω c ω (k:Int)) (aB ⟨ω,ω⟩ (bA (by rw[aJ,ea];exact Fp N ω (ha.mono ω)) (ok_eq (λ_=>ss) λjB=>af (bp N ω hc) λv hv=>af (pJ N ω ω ω ⟨_,rfl,ha'⟩ hv) λ_ _=>eg (λ_=>ss) λ_=> ?_)))) λ_=>ω
  have am1:iK c (k:Int)≠[]:=λe=>jB (by rw[e];rfl)
  have hh:0≤(iK c (k:Int)).getD 0 0∧(iK c (k:Int)).getD 0 0<(c.1.length:Int):=by
   have h1:=am1
   unfold iK at h1 ⊢
   rw[uN hB,aj rfl]at h1 ⊢
   have:=CS h1
   omega
  have hl0:0<(iK c (k:Int)).length:=si.2 am1
  have hpx:=Nv hpr (i:=((iK c (k:Int)).getD 0 0).toNat) ω
  have hj: ∀q:Int,0≤q∧q≤1000000000→Ok (λr=>G 4 (.slice eB) r.1∧ ∀x∈r.1,HM c x) (iS.A8 N (iS.l6 N n) s.1 c b z.1 s.2 (k:Int) (iK c (k:Int)) q):=λq hq=>by
   have ash:aE q:=by unfold aE;omega
   unfold iS.A8 iS.uT
   rw[ax (x:=(k:Int)+1) ω ω,ag k,ax (x:=s.1+1) ω ω]
   have zT:q≠0→ ∀d:Int,aE d→Ok (λr=>G 4 (.slice eB) r.1∧ ∀x∈r.1,HM c x) (cond (small (s.2.length+[((s.1,((iK c (k:Int)).getD 0 0,(d,(q,())))):bO)].length)) (iS.l6 N n (s.1+1) c b z.1 (s.2++[(s.1,((iK c (k:Int)).getD 0 0,(d,(q,()))))]) ((k+1:Nat):Int)) none):=λxr d hd=>
    aC (by rw[aI];omega) (hr (_,_) ⟨⟨G.app hI.1.1 ⟨by show aE s.1;unfold aE;omega,(show aE ((iK c (k:Int)).getD 0 0)from iM ω ω),hd,ash,trivial⟩,λx hx=>by
     rcases bb.1 hx with hx|hx
     ·exact hI.1.2 x hx
     ·rw[List.mem_singleton.1 hx];exact⟨hh,show 1≤q∧q≤1000000000 by omega⟩⟩,by dsimp only;omega,by dsimp only;omega⟩)
   exact ok_eq (λ_=>ss) λxr=>aB ⟨ω,ω⟩ (aB ⟨ω,ω⟩ (af (D5 N (HL.at hz.2 ω _)) λ_ _=>aw (λ_=>zT xr 2 (iM ω ω)) λ_=>zT xr 1 (iM ω ω)))
  refine aB ⟨ω,ω⟩ (aB ⟨hh.1,by show(iK c (k:Int)).getD 0 0<_;omega⟩ ?_)
  have asi:=hpx
  unfold jg at asi
  rw[show(0:Int).toNat=0 from rfl]
  refine bA (c5 N ω ω ω) (bA (R5 N hN ω (Fit.mono ha' ω) ((Fit.i64 ω ω).mono ω)) (bA (q3 N _) (bt (λ_=>hj _ δ) λht=>aw (λ_=>hj _ δ) λhle=>hj _ ?_)))
  rw[am0 ht]at hle ⊢
  exact⟨s8 ω ω,hle⟩
 ·exact aw (λ_=>ω) λ_=>an hI.1
theorem Um(N:Nat)(hN:5000000≤N)(c:ae)(hc:aE (amY c)){b:aq}{m:Nat}(hm:m≤50000)(hb:G m aL b)(next:Int):Ok (λr=>G 4 (.slice eB) r.1) (iS N c b next):=KK (Ja N hN c hc hm hb next) λ_ h=>h.1
end VM
end
