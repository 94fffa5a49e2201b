/- A part of the proof of LotEven of layer 23: what the functions compute, in plain words. -/
import Derived.Test.YthnjnpjmbabcaaaGreatPlain3
set_option linter.all false
open List renaming length→ℓ
section
namespace VM
open Go VM.F
variable(N:Nat)
def G0(n:Nat)(f:Nat→Int):List Int:=(List.range n).map f
theorem gM(n:Nat)(f:Nat→Int):(G0 n f).length=n:=by unfold G0;rw[fE,ng]
theorem gG{n:Nat}{f:Nat→Int}{i:Nat}(h:i<n):(G0 n f).getD i 0=f i:=by
 unfold G0
 rw[aZ,q3,List.getElem?_range h];rfl
theorem K9(n:Nat)(f:Nat→Int)(i:Nat):(G0 n f).getD i 0=if i<n then f i else 0:=by
 by_cases h:i<n
 ·rw[ak h,gG h]
 ·rw[ah h,vo _ (by rw[gM];omega)]
theorem aaK{n:Nat}{f:Nat→Int}(h: ∀i,i<n→0≤f i):Pos (G0 n f):=λx hx=>by
 obtain⟨i,hi,rfl⟩:=cQ.1 hx
 exact h i (nj.1 hi)
theorem s9{l:List Int}(h: ∀i,i<l.length→0≤l.getD i 0):Pos l:=λx hx=>by
 obtain⟨i,hi,rfl⟩:=qX.1 hx
 have:=h i hi
 rwa [aZ,bo hi]at this
theorem yf: ∀{a b:List Int},a.length=b.length→(∀i,i<a.length→a.getD i 0≤b.getD i 0)→a.sum≤b.sum
 |[],[],_,_=>ec _
 |[],_::_,h,_=>nomatch h
 |_::_,[],h,_=>nomatch h
 |x::a,y::b,h,h1=>by
  have:=yf (a:=a) (b:=b) (by simpa using h) (λi hi=>by have:=h1 (i+1) (by simpa using hi);simpa using this)
  have h2:x≤y:=by have:=h1 0 (by simp);simpa using this
  rw[cD,cD];omega
theorem G1: ∀{a b c:List Int},a.length=b.length→a.length=c.length→(∀i,i<a.length→a.getD i 0=b.getD i 0+c.getD i 0)→a.sum=b.sum+c.sum
 |[],[],[],_,_,_=>rfl
 |[],_::_,_,h,_,_=>nomatch h
 |[],[],_::_,_,h,_=>nomatch h
 |_::_,[],_,h,_,_=>nomatch h
 |_::_,_::_,[],_,h,_=>nomatch h
 |x::a,y::b,z::c,h,h',h1=>by
  have:=G1 (a:=a) (b:=b) (c:=c) (by simpa using h) (by simpa using h') (λi hi=>by have:=h1 (i+1) (by simpa using hi);simpa using this)
  have h2:x=y+z:=by have:=h1 0 (by simp);simpa using this
  rw[cD,cD,cD];omega
theorem xx: ∀{a:List Int},(∀i,i<a.length→a.getD i 0=0)→a.sum=0
 |[],_=>rfl
 |x::a,h=>by
  have:=xx (a:=a) (λi hi=>by have:=h (i+1) (by simpa using hi);simpa using this)
  have h2:x=0:=by have:=h 0 (by simp);simpa using this
  rw[cD];omega
def cF(w caps out:List Int):List Int:=G0 w.length λi=>if out.getD i 0<caps.getD i 0 then w.getD i 0 else 0
def fm(parts caps out:List Int):List Int:=G0 out.length λi=>min (parts.getD i 0) (caps.getD i 0-out.getD i 0)
def xy(out g:List Int):List Int:=G0 out.length λi=>out.getD i 0+g.getD i 0
def vE(w caps:List Int):Nat→List Int→Int→List Int×Int
 |0,out,left=>(out,left)
 |f+1,out,left=>if left=0∨(cF w caps out).sum=0 then(out,left)else
  vE w caps f (xy out (fm (bF left (cF w caps out)) caps out)) (left-(fm (bF left (cF w caps out)) caps out).sum)
structure SH(t:Int)(w caps out:List Int)(left:Int):Prop where
 n:w.length≤64
 l1:caps.length=w.length
 l2:out.length=w.length
 pw:Pos w
 sw:w.sum<9223372036854775808
 pc: ∀i,0≤caps.getD i 0∧caps.getD i 0<9223372036854775808
 po: ∀i,0≤out.getD i 0
 le: ∀i,i<w.length→out.getD i 0≤caps.getD i 0
 z: ∀i,w.getD i 0=0→out.getD i 0=0
 l:0≤left
 t1:t<9223372036854775808
 s:out.sum+left=t
theorem jb(w caps out:List Int):(cF w caps out).length=w.length:=gM ..
theorem rZ{w caps out:List Int}(h:Pos w):Pos (cF w caps out):=aaK (λi _=>by split;exact gg h i;omega)
theorem Od{w caps out:List Int}(h:Pos w):(cF w caps out).sum≤w.sum:=yf (jb ..) (λi hi=>by
 rw[jb]at hi
 unfold cF;rw[gG hi];split
 ·omega
 ·exact gg h i)
theorem Xv{t left:Int}{w caps out:List Int}(c:SH t w caps out left):Ie (cF w caps out):=λx hx=>by
 have h1:=rZ (caps:=caps) (out:=out) c.pw
 have h2:=Od (caps:=caps) (out:=out) c.pw
 have h3:=h1 x hx
 obtain⟨i,hi,rfl⟩:=qX.1 hx
 have h4:=vC h1 i
 rw[aZ,bo hi]at h4
 simp only[lG]at h4
 have:=c.sw
 omega
theorem Oe{t left:Int}{w caps out:List Int}(c:SH t w caps out left):left≤t:=by
 have:=g8 (q:=out) (s9 (λi _=>c.po i));have:=c.s;omega
theorem oV{t left:Int}{w caps out:List Int}(c:SH t w caps out left)(hS:0<(cF w caps out).sum)(i:Nat):
  0≤(fm (bF left (cF w caps out)) caps out).getD i 0∧(fm (bF left (cF w caps out)) caps out).getD i 0≤(bF left (cF w caps out)).getD i 0∧(i<w.length→out.getD i 0+(fm (bF left (cF w caps out)) caps out).getD i 0≤caps.getD i 0):=by
 have h0:=gg (rY c.l hS (rZ c.pw)) i
 unfold fm
 rw[K9]
 have:=c.l2
 by_cases h:i<out.length
 ·rw[ak h]
  have:=c.le i ω
  omega
 ·rw[ah h];exact⟨ω,h0,λh=>ω⟩
theorem xz(parts caps out:List Int):(fm parts caps out).length=out.length:=gM ..
theorem G4{t left:Int}{w caps out:List Int}(c:SH t w caps out left)(hS:0<(cF w caps out).sum):0≤(fm (bF left (cF w caps out)) caps out).sum∧(fm (bF left (cF w caps out)) caps out).sum≤left:=by
 constructor
 ·exact g8 (s9 (λi _=>(oV c hS i).1))
 ·have:=yf (a:=fm (bF left (cF w caps out)) caps out) (b:=bF left (cF w caps out)) (by rw[xz,oz,jb,c.l2]) (λi _=>(oV c hS i).2.1)
  rwa [vD c.l hS]at this
theorem Of{t left:Int}{w caps out:List Int}(c:SH t w caps out left)(hS:0<(cF w caps out).sum):SH t w caps (xy out (fm (bF left (cF w caps out)) caps out)) (left-(fm (bF left (cF w caps out)) caps out).sum):=by
 have oO: ∀i,(xy out (fm (bF left (cF w caps out)) caps out)).getD i 0=if i<out.length then out.getD i 0+(fm (bF left (cF w caps out)) caps out).getD i 0 else 0:=λi=>by unfold xy;rw[K9]
 have gs:=G4 c hS
 refine⟨c.n,c.l1,?_,c.pw,c.sw,c.pc,λi=> ?_,λi hi=> ?_,λi hi=> ?_,ω,c.t1,?_⟩
 ·unfold xy;rw[gM,c.l2]
 ·rw[oO];have:=(oV c hS i).1;have:=c.po i;split<;>omega
 ·rw[oO,ak (by rw[c.l2];exact hi)];exact(oV c hS i).2.2 hi
 ·rw[oO]
  split
  ·have h1:(cF w caps out).getD i 0=0:=by unfold cF;rw[K9,hi];split<;>(try split)<;>rfl
   have h2:=DB c.l hS h1
   have h3:=oV c hS i
   rw[c.z i hi];omega
  ·rfl
 ·have:=G1 (a:=xy out (fm (bF left (cF w caps out)) caps out)) (b:=out) (c:=fm (bF left (cF w caps out)) caps out) (by unfold xy;rw[gM]) (by unfold xy;rw[gM,xz]) (λi hi=>by
   unfold xy at hi;rw[gM]at hi;rw[oO,ak hi])
  have:=c.s
  omega
def opens(w caps out:List Int):Nat:=(List.range w.length).countP λi=>decide (0<w.getD i 0∧out.getD i 0<caps.getD i 0)
theorem JM{p q:Nat→Bool}: ∀{l:List Nat},(∀x∈l,q x=true→p x=true)→(∃x∈l,p x=true∧q x=false)→l.countP q<l.countP p
 |[],_,⟨x,hx,_⟩=>nomatch hx
 |y::l,h,⟨x,hx,h1,h2⟩=>by
  have hle:l.countP q≤l.countP p:=List.countP_mono_left (λz hz=>h z (a6 _ hz))
  rw[List.countP_cons,List.countP_cons]
  rcases bm.1 hx with rfl|hx
  ·rw[h1,h2];simp;omega
  ·have:=JM (p:=p) (q:=q) (l:=l) (λz hz=>h z (a6 _ hz)) ⟨x,hx,h1,h2⟩
   have h3:=h y (bu ..)
   cases hq:q y<;>cases hp:p y<;>simp<;>try omega
   rw[hq,hp]at h3;simp at h3
theorem JN{w caps out:List Int}(hw:Pos w)(h:(cF w caps out).sum=0): ∀i,i<w.length→ ¬(0<w.getD i 0∧out.getD i 0<caps.getD i 0):=λi hi ⟨h1,h2⟩=>by
 have:=vC (rZ (caps:=caps) (out:=out) hw) i
 unfold cF at this h
 rw[gG hi,ak h2,h]at this
 omega
theorem La{w caps out:List Int}(hw:Pos w)(h:(cF w caps out).sum≠0): ∃i,i<w.length∧0<w.getD i 0∧out.getD i 0<caps.getD i 0:=by
 by_cases hx: ∃i,i<w.length∧0<w.getD i 0∧out.getD i 0<caps.getD i 0
 ·exact hx
 ·refine absurd (xx (λi hi=> ?_)) h
  rw[jb]at hi
  unfold cF
  rw[gG hi]
  split
  ·rename_i h1
   have:=gg hw i
   by_cases h2:0<w.getD i 0
   ·exact absurd ⟨i,hi,h2,h1⟩ hx
   ·omega
  ·rfl
theorem Uu{t left:Int}{w caps out:List Int}(c:SH t w caps out left)(hS:0<(cF w caps out).sum)(hl:left-(fm (bF left (cF w caps out)) caps out).sum≠0):opens w caps (xy out (fm (bF left (cF w caps out)) caps out))<opens w caps out:=by
 have oO: ∀i,i<w.length→(xy out (fm (bF left (cF w caps out)) caps out)).getD i 0=out.getD i 0+(fm (bF left (cF w caps out)) caps out).getD i 0:=λi hi=>by unfold xy;rw[gG (by rw[c.l2];exact hi)]
 refine JM (λi hi h=> ?_) ?_
 ·rw[nj]at hi
  rw[ff,oO i hi]at h
  rw[ff]
  have:=(oV c hS i).1
  omega
 ·by_cases hx: ∃i,i<w.length∧(0<w.getD i 0∧out.getD i 0<caps.getD i 0)∧caps.getD i 0≤out.getD i 0+(fm (bF left (cF w caps out)) caps out).getD i 0
  ·obtain⟨i,h1,h2,h3⟩:=hx
   refine⟨i,nj.2 h1,bq h2,bK ?_⟩
   rw[oO i h1];omega
  ·exfalso
   have h1:bF left (cF w caps out)=fm (bF left (cF w caps out)) caps out:=by
    refine pB (by rw[xz,oz,jb,c.l2]) (λi hi=> ?_)
    rw[oz,jb]at hi
    have h2:=oV c hS i
    have h3:=gg (rY c.l hS (rZ (caps:=caps) (out:=out) c.pw)) i
    by_cases h4:0<w.getD i 0∧out.getD i 0<caps.getD i 0
    ·have h5: ¬caps.getD i 0≤out.getD i 0+(fm (bF left (cF w caps out)) caps out).getD i 0:=λh=>hx ⟨i,hi,h4,h⟩
     have h6:(fm (bF left (cF w caps out)) caps out).getD i 0=min ((bF left (cF w caps out)).getD i 0) (caps.getD i 0-out.getD i 0):=gG (by rw[c.l2];exact hi)
     omega
    ·have h7:(cF w caps out).getD i 0=0:=by
      unfold cF;rw[gG hi]
      have:=gg c.pw i
      split<;>omega
     have:=DB c.l hS h7
     omega
   rw[←h1,vD c.l hS]at hl
   omega
theorem Xw(w caps out:List Int):opens w caps out≤w.length:=by
 unfold opens
 have:=Fh (p:=λi=>decide (0<w.getD i 0∧out.getD i 0<caps.getD i 0)) (l:=List.range w.length)
 rwa [ng]at this
structure Full(t:Int)(w caps out:List Int)(left:Int):Prop where
 c:SH t w caps out left
 f:left=0∨ ∀i,i<w.length→ ¬(0<w.getD i 0∧out.getD i 0<caps.getD i 0)
theorem Og{t:Int}{w caps:List Int}: ∀(f:Nat) (out:List Int) (left:Int),SH t w caps out left→(opens w caps out<f∨left=0)→Full t w caps (vE w caps f out left).1 (vE w caps f out left).2
 |0,out,left,c,h=>⟨c,.inl (show left=0 by omega)⟩
 |f+1,out,left,c,h=>by
  unfold vE
  have hS:=g8 (rZ (caps:=caps) (out:=out) c.pw)
  split
  ·rename_i h1
   exact⟨c,h1.imp id (JN c.pw)⟩
  ·rename_i h1
   refine Og f _ _ (Of c ω) ?_
   by_cases h2:left-(fm (bF left (cF w caps out)) caps out).sum=0
   ·exact .inr h2
   ·have:=Uu c ω h2
    exact .inl ω
def Cl(out g:List Int)(i:Nat):List Int:=G0 out.length λj=>if j<i then out.getD j 0+g.getD j 0 else out.getD j 0
theorem mid_zero(out g:List Int):Cl out g 0=out:=pB (gM ..) (λi hi=>by unfold Cl at*;rw[gM]at hi;rw[gG hi,ah ω])
theorem aaL(out g:List Int){n:Nat}(h:out.length≤n):Cl out g n=xy out g:=pB (by unfold Cl xy;rw[gM,gM]) (λi hi=>by unfold Cl xy at*;rw[gM]at hi;rw[gG hi,gG hi,ak ω])
theorem Bq(out g:List Int)(i:Nat):(Cl out g i).length=out.length:=gM ..
theorem ah3{out g:List Int}{i:Nat}(h:i<out.length):(Cl out g i).getD i 0=out.getD i 0:=by unfold Cl;rw[gG h,ah ω]
theorem aaM{out g:List Int}{i:Nat}(h:i<out.length):(Cl out g i).set i (out.getD i 0+g.getD i 0)=Cl out g (i+1):=pB (by rw[bs,Bq,Bq]) (λj hj=>by
 rw[bs,Bq]at hj
 by_cases zf:i=j
 ·subst zf
  rw[kG _ _ (by rw[Bq];exact h)];unfold Cl;rw[gG h,ak ω]
 ·rw[getD_set_ne _ _ zf];unfold Cl;rw[gG hj,gG hj]
  by_cases h1:j<i
  ·rw[ak h1,ak ω]
  ·rw[ah h1,ah ω])
def ta(s:List Int)(i:Nat):List Int:=G0 s.length λj=>if j<i then s.getD j 0 else 0
theorem Uv(s:List Int):ta s 0=List.replicate s.length 0:=pB (by unfold ta;rw[gM,bP]) (λi hi=>by
 unfold ta at*;rw[gM]at hi;rw[gG hi,ah ω,aZ,uT,ak hi];rfl)
theorem Xx(s:List Int):ta s s.length=s:=pB (gM ..) (λi hi=>by unfold ta at*;rw[gM]at hi;rw[gG hi,ak hi])
theorem pC(s:List Int)(i:Nat):(ta s i).length=s.length:=gM ..
theorem Xy{s:List Int}{i:Nat}(h:i<s.length):(ta s i).set i (s.getD i 0)=ta s (i+1):=pB (by rw[bs,pC,pC]) (λj hj=>by
 rw[bs,pC]at hj
 by_cases zf:i=j
 ·subst zf
  rw[kG _ _ (by rw[pC];exact h)];unfold ta;rw[gG h,ak ω]
 ·rw[getD_set_ne _ _ zf];unfold ta;rw[gG hj,gG hj]
  by_cases h1:j<i
  ·rw[ak h1,ak ω]
  ·rw[ah h1,ah ω])
theorem JO{s:List Int}{i:Nat}(h:s.getD i 0=0):ta s i=ta s (i+1):=pB (by rw[pC,pC]) (λj hj=>by
 rw[pC]at hj
 unfold ta;rw[gG hj,gG hj]
 by_cases h1:j<i
 ·rw[ak h1,ak ω]
 ·rw[ah h1]
  by_cases h2:j=i
  ·subst h2;rw[ak ω,h]
  ·rw[ah ω])
theorem ah4(x y:Int):mn x y=min x y:=by rw[RL];split<;>omega
theorem Uw{t left:Int}{w caps out:List Int}(c:SH t w caps out left)(hS:0<(cF w caps out).sum)(i:Nat):0≤((fm (bF left (cF w caps out)) caps out).take i).sum∧((fm (bF left (cF w caps out)) caps out).take i).sum≤left:=by
 have h:=s9 (l:=fm (bF left (cF w caps out)) caps out) (λi _=>(oV c hS i).1)
 have:=xw h i
 have:=G4 c hS
 exact⟨g8 (GU h i),ω⟩
theorem G6(N:Nat)(K:List Int→List Int→List Int→Int→Int→Option (List Int×Int×Int)){t left:Int}{w caps out:List Int}(c:SH t w caps out left)(hS:0<(cF w caps out).sum)(rd:Int): ∀(m n i:Nat),w.length-i≤m→m<n→i≤w.length→
  eI.Oh N K n w caps (Cl out (fm (bF left (cF w caps out)) caps out) i) (left-((fm (bF left (cF w caps out)) caps out).take i).sum) rd (bF left (cF w caps out)) (i:Int)=
  K w caps (xy out (fm (bF left (cF w caps out)) caps out)) (left-(fm (bF left (cF w caps out)) caps out).sum) (W .i64 (rd+1))
 |m,0,i,_,hn,_=>ω
 |m,n+1,i,hm,hn,hi=>by
  have n64:=c.n
  have e1:=c.l1
  have e2:=c.l2
  unfold eI.Oh eI.QZ
  by_cases h:i<w.length
  ·have hc:=c.pc i
   have ho:=c.po i
   have hle:=c.le i h
   have hg:=oV c hS i
   have h6:(fm (bF left (cF w caps out)) caps out).getD i 0=min ((bF left (cF w caps out)).getD i 0) (caps.getD i 0-out.getD i 0):=gG (by rw[c.l2];exact h)
   have ht:=Uw c hS i
   have hl:=Oe c
   have rA:=c.t1
   have hgl:(fm (bF left (cF w caps out)) caps out).getD i 0≤left:=by
    have:=vC (s9 (l:=fm (bF left (cF w caps out)) caps out) (λi _=>(oV c hS i).1)) i
    have:=G4 c hS
    omega
   dsimp only
   rw[aP ω,aj,aY ω (by rw[oz,jb];omega),aj,aY ω ω,aj,aY ω (by rw[Bq];omega),aj,aj,aF,ah3 ω,ay (x:=caps.getD i 0-out.getD i 0) ω ω,ah4,←h6,
    ay (x:=(i:Int)+1) ω ω,ay (x:=out.getD i 0+_) ω ω,ay (x:=left-_-_) ω ω,aaM ω]
   have:=G6 N K c hS rd (m-1) n (i+1) ω ω ω
   rw[im _ (by rw[xz];omega),←Int.sub_sub]at this
   exact this
  ·rw[aK ω,au,aaL _ _ ω,gh (by rw[xz];omega)]
def Oi(w caps out:List Int)(i:Nat):Prop:= ∃j,j<i∧0<w.getD j 0∧out.getD j 0<caps.getD j 0
theorem vF(N:Nat)(hN:5000000≤N)(K:List Int→List Int→List Int→Int→Int→Option (List Int×Int×Int)){t left:Int}{w caps out:List Int}(c:SH t w caps out left)(rd:Int): ∀(m n i:Nat) (b:Bool),w.length-i≤m→m<n→i≤w.length→(b=true↔Oi w caps out i)→
  eI.qA N K n w caps out left rd (ta (cF w caps out) i) b (i:Int)=
  if left=0∨(cF w caps out).sum=0 then some (out,left,0)else K w caps (xy out (fm (bF left (cF w caps out)) caps out)) (left-(fm (bF left (cF w caps out)) caps out).sum) (W .i64 (rd+1))
 |m,0,i,b,_,hn,_,_=>ω
 |m,n+1,i,b,hm,hn,hi,hb=>by
  have n64:=c.n
  have e1:=c.l1
  have e2:=c.l2
  unfold eI.qA eI.pZ
  by_cases h:i<w.length
  ·have h1:(cF w caps out).getD i 0=if out.getD i 0<caps.getD i 0 then w.getD i 0 else 0:=gG h
   have hw:=gg c.pw i
   have sW: ¬(0<w.getD i 0∧out.getD i 0<caps.getD i 0)→(b=true↔Oi w caps out (i+1)):=λnr=>hb.trans ⟨λ⟨j,hj,h2⟩=>⟨j,ω,h2⟩,λ⟨j,hj,h2⟩=>⟨j,by
    by_cases zf:j=i
    ·subst zf;exact absurd h2 nr
    ·omega,h2⟩⟩
   rw[aP ω,aj,aY ω ω,aj,aF]
   by_cases h0:0<w.getD i 0
   ·rw[aP h0,aj,aY ω ω,aj,aY ω ω,aj]
    by_cases h2:out.getD i 0<caps.getD i 0
    ·rw[ak h2]at h1
     rw[aP h2,aj,aj,aY ω (by rw[pC,jb];omega),aj,ay ω ω,←h1,Xy (by rw[jb];exact h)]
     exact vF N hN K c rd (m-1) n (i+1) true ω ω ω ⟨λ_=>⟨i,ω,h0,h2⟩,λ_=>rfl⟩
    ·rw[ah h2]at h1
     rw[aK ω,au,ay ω ω,JO h1]
     exact vF N hN K c rd (m-1) n (i+1) b ω ω ω (sW (λh=>h2 h.2))
   ·have h3:(cF w caps out).getD i 0=0:=by rw[h1];split<;>omega
    rw[aK ω,au,ay ω ω,JO h3]
    exact vF N hN K c rd (m-1) n (i+1) b ω ω ω (sW (λh=>h0 h.1))
  ·have Zc:=Oe c
   have rA:=c.t1
   have hl0:=c.l
   have mz:i=(cF w caps out).length:=by rw[jb];omega
   have hp:=rZ (caps:=caps) (out:=out) c.pw
   have hs:=Od (caps:=caps) (out:=out) c.pw
   have hs0:=g8 hp
   have hsw:=c.sw
   have hm:may (cF w caps out)=true:=iK.2 ⟨by rw[jb];omega,hp⟩
   rw[aK ω,au]
   by_cases h4:left=0
   ·rw[cZ h4,aj,ak (.inl h4)]
   rw[da h4,au]
   by_cases h3:(cF w caps out).sum=0
   ·have hbf:b=false:=by
     rw[q5];intro ht
     obtain⟨j,hj,h5⟩:=hb.1 ht
     exact JN c.pw h3 j ω h5
    rw[ak (.inr h3),hbf];rfl
   ·have hbt:b=true:=hb.2 (by
     obtain⟨j,hj,h5⟩:=La c.pw h3
     exact⟨j,ω,h5⟩)
    rw[hbt,bR,au,ah ω,mz,Xx,Ck N ω ω (Xv c) (by rw[jb];omega),aw]
    unfold mJ
    rw[ah (by rw[hm];simp;omega),ah ω,ah h3]
    have:=G6 N K c ω rd w.length N 0 ω ω ω
    rw[mid_zero,nk,iM,Af]at this
    exact this
theorem JP(N:Nat)(hN:5000000≤N){t:Int}{w caps:List Int}: ∀(f n:Nat) (out:List Int) (left:Int),SH t w caps out left→f≤w.length+1→f<n→
  eI.l8 N n w caps out left ((w.length+1-f:Nat):Int)=some ((vE w caps f out left).1,(vE w caps f out left).2,0)
 |f,0,out,left,c,_,hn=>ω
 |0,n+1,out,left,c,h,hn=>by
  unfold eI.l8 eI.zo
  rw[dn ω];rfl
 |f+1,n+1,out,left,c,h,hn=>by
  have n64:=c.n
  have hl:=c.l
  unfold eI.l8 eI.zo
  rw[dC ω,aj,cC ω ω ω,aj,aF]
  have:=vF N hN (eI.l8 N n) c ((w.length+1-(f+1):Nat):Int) w.length N 0 false ω ω ω ⟨(λh=>nomatch h),λ⟨j,hj,_⟩=>ω⟩
  rw[Uv,jb]at this
  refine Eq.trans this ?_
  have hS:=g8 (rZ (caps:=caps) (out:=out) c.pw)
  unfold vE
  by_cases h1:left=0∨(cF w caps out).sum=0
  ·rw[ak h1,ak h1]
  ·rw[ah h1,ah h1,ay ω ω,show(((w.length+1-(f+1):Nat):Int)+1)=((w.length+1-f:Nat):Int)by omega]
   exact JP N hN f n _ _ (Of c ω) ω ω
def tb(t:Int)(w caps:List Int):List Int×Int×Int:=
 if t<0∨may w=false∨caps.length≠w.length∨may caps=false then([],0,1)else if 9223372036854775808≤w.sum then([],0,2)
 else((vE w caps (w.length+1) (List.replicate w.length 0) t).1,(vE w caps (w.length+1) (List.replicate w.length 0) t).2,0)
theorem qB(n i:Nat):(List.replicate n (0:Int)).getD i 0=0:=by
 rw[aZ,uT];split<;>rfl
theorem JQ{t:Int}{w caps:List Int}(ht:0≤t)(rA:t<9223372036854775808)(hw:may w=true)(hc:may caps=true)(hl:caps.length=w.length)(hi:Ie caps)(hs:w.sum<9223372036854775808):SH t w caps (List.replicate w.length 0) t:=by
 obtain⟨h1,h2⟩:=iK.1 hw
 obtain⟨h3,h4⟩:=iK.1 hc
 refine⟨h1,hl,bP ..,h2,hs,λi=>⟨gg h4 i,(rK hi i).2⟩,λi=>by rw[qB];omega,λi _=>by rw[qB];exact gg h4 i,λi _=>qB ..,ht,rA,?_⟩
 rw[xx (λi _=>qB ..)];omega
theorem G7(hN:5000000≤N){t:Int}{w caps:List Int}(rA:t<9223372036854775808)(hw:Ie w)(hc:Ie caps)(hl:w.length≤1000000):eI N t w caps=some (tb t w caps):=by
 unfold eI eI.b tb
 rw[GR N ω,aw]
 by_cases h1:t<0
 ·rw[bq h1,Bool.true_or,aj,ak (.inl h1)]
 rw[bK h1,tR]
 cases h2:may w
 ·rw[cJ,aj,ak (.inr (.inl rfl))]
 rw[bR,au]
 by_cases h3:caps.length=w.length
 case neg=>rw[da ω,cJ,aj,ak (.inr (.inr (.inl h3)))]
 rw[cZ ω,bR,au,GR N ω,aw]
 cases h4:may caps
 ·rw[ak (.inr (.inr (.inr rfl)))];rfl
 have hp:=g8 (iK.1 h2).2
 rw[show(decide ((0:Int)<0)|| !true)=false from rfl,au,zi N ω hw hl,aw,tx,aw,ah (by simp;omega)]
 by_cases h5:9223372036854775808≤w.sum
 ·rw[ak h5];unfold ya;rw[ah ω];rfl
 rw[ah h5,Ci ω ω,bR,au,cC ω ω ω,aj,aF]
 have sE:=(iK.1 h2).1
 have:=JP N hN (w.length+1) N _ _ (JQ ω rA h2 h4 h3 hc ω) ω ω
 rw[ri]at this
 exact this
theorem uE{a b:Int}: ∀{l:aC},Ej (l.map keyOf)→gL a b l=dK a b l
 |[],_=>rfl
 |x::t,h=>by
  obtain⟨h1,h2⟩:=gX.1 h
  rw[jq,jn,←uE h2]
  by_cases e1:x.1=a
  ·by_cases e2:x.2.1=b
   ·have hz:dK a b t=0:=kJ λy hy e=>by
     have hk:=h1 (keyOf y) (gi hy)
     have he:keyOf y=keyOf x:=ki (e.1.trans e1.symm) (e.2.trans e2.symm)
     rw[he]at hk
     exact yb hk
    rw[ak e1,ak e2,ak ⟨e1,e2⟩,uE h2,hz,jy];rfl
   ·rw[ak e1,ah e2,ah (λh=>e2 h.2),tT]
  ·rw[ah e1,ah (λh=>e1 h.1),tT]
def IN(x q:Int):Prop:= ¬((x<0)↔(q<0))
instance(x q:Int):Decidable (IN x q):=by unfold IN;infer_instance
def fM(a q:Int):aC→aC
 |[]=>[]
 |x::t=>if ¬du x.1 0∧du x.2.1 a∧IN (gJ x) q then x::fM a q t else fM a q t
theorem sa(a q:Int)(x:eP)(t:aC):fM a q (x::t)=if ¬du x.1 0∧du x.2.1 a∧IN (gJ x) q then x::fM a q t else fM a q t:=rfl
def yX(l:aC):List Int:=l.map λx=>x.1
def js(l:aC):List Int:=l.map λx=>((gJ x).natAbs:Int)
theorem uF{a q:Int}{x:eP}: ∀{l:aC},x∈fM a q l→x∈l∧ ¬du x.1 0∧du x.2.1 a
 |[],h=>nomatch h
 |y::t,h=>by
  rw[sa]at h
  by_cases e: ¬du y.1 0∧du y.2.1 a∧IN (gJ y) q
  ·rw[ak e]at h
   rcases bm.1 h with rfl|h
   ·exact⟨bu ..,e.1,e.2.1⟩
   ·have:=uF h;exact⟨a6 _ this.1,this.2⟩
  ·rw[ah e]at h
   have:=uF h;exact⟨a6 _ this.1,this.2⟩
theorem JR(a q:Int): ∀l:aC,(fM a q l).length≤l.length
 |[]=>aI _
 |x::t=>by
  have:=JR a q t
  rw[sa,aU]
  split
  ·rw[aU];omega
  ·omega
theorem Oj{v q s h o:Int}{P Q R:Prop} [Decidable P] [Decidable Q] [Decidable R](hR:R↔ ¬((v<0)↔(q<0)))(hq:0<q)(hh:h-o≤s):
  (if P∧Q then v else 0)+h-((if ¬P∧Q∧R then(v.natAbs:Int)else 0)+o)≤(if Q then v else 0)+s:=by
 by_cases hQ:Q<;>by_cases hP:P<;>by_cases hR':R<;>simp only[hP,hQ,hR',and_self,eA,and_false,false_and,true_and,not_true,not_false_iff,gA,eo]<;>(rw[Me]at hR;first|omega|(have h2:=hR.1 hR';omega)|(have h2: ¬ ¬((v<0)↔(q<0)):=λe=>hR' (hR.2 e);omega))
theorem DD{a q:Int}(hq:0<q): ∀l:aC,dK 0 a l-(js (fM a q l)).sum≤(dS a l).sum
 |[]=>ec _
 |x::t=>by
  have ih:=DD (a:=a) hq t
  have e1:dK 0 a (x::t)=(if du x.1 0∧du x.2.1 a then gJ x else 0)+dK 0 a t:=jn 0 a x t
  have e2:(js (fM a q (x::t))).sum=(if ¬du x.1 0∧du x.2.1 a∧IN (gJ x) q then((gJ x).natAbs:Int)else 0)+(js (fM a q t)).sum:=by
   rw[sa]
   split
   ·show(((gJ x).natAbs:Int)::js (fM a q t)).sum=_
    rw[cD]
   ·omega
  have e3:(dS a (x::t)).sum=(if du x.2.1 a then gJ x else 0)+(dS a t).sum:=by
   rw[ef]
   by_cases h:x.2.1=a
   ·rw[ak h,ak (show du x.2.1 a from h),cD]
   ·rw[ah h,ah (show ¬du x.2.1 a from h)];omega
  rw[e1,e2,e3]
  exact Oj Iff.rfl hq ih
theorem Ol{v q s h o:Int}{P Q R:Prop} [Decidable P] [Decidable Q] [Decidable R](hR:R↔ ¬((v<0)↔(q<0)))(hq:q<0)(hh:s≤h+o):
  (if Q then v else 0)+s≤(if P∧Q then v else 0)+h+((if ¬P∧Q∧R then(v.natAbs:Int)else 0)+o):=by
 by_cases hQ:Q<;>by_cases hP:P<;>by_cases hR':R<;>simp only[hP,hQ,hR',and_self,eA,and_false,false_and,true_and,not_true,not_false_iff,gA,eo]<;>(rw[Me]at hR;first|omega|(have h2:=hR.1 hR';omega)|(have h2: ¬ ¬((v<0)↔(q<0)):=λe=>hR' (hR.2 e);omega))
theorem DE{a q:Int}(hq:q<0): ∀l:aC,(dS a l).sum≤dK 0 a l+(js (fM a q l)).sum
 |[]=>ec _
 |x::t=>by
  have ih:=DE (a:=a) hq t
  have e1:dK 0 a (x::t)=(if du x.1 0∧du x.2.1 a then gJ x else 0)+dK 0 a t:=jn 0 a x t
  have e2:(js (fM a q (x::t))).sum=(if ¬du x.1 0∧du x.2.1 a∧IN (gJ x) q then((gJ x).natAbs:Int)else 0)+(js (fM a q t)).sum:=by
   rw[sa]
   split
   ·show(((gJ x).natAbs:Int)::js (fM a q t)).sum=_
    rw[cD]
   ·omega
  have e3:(dS a (x::t)).sum=(if du x.2.1 a then gJ x else 0)+(dS a t).sum:=by
   rw[ef]
   by_cases h:x.2.1=a
   ·rw[ak h,ak (show du x.2.1 a from h),cD]
   ·rw[ah h,ah (show ¬du x.2.1 a from h)];omega
  rw[e1,e2,e3]
  exact Ol Iff.rfl hq ih
theorem Q0{a q:Int}{l:aC}(hs:Ej (l.map keyOf))(hf:(dS a l).sum=0)(hq:gL 0 a l=q)(h0:q≠0):(q.natAbs:Int)≤(js (fM a q l)).sum:=by
 rw[uE hs]at hq
 by_cases h:0<q
 ·have:=DD (a:=a) h l
  rw[hf,hq]at this;omega
 ·have:=DE (a:=a) (q:=q) ω l
  rw[hf,hq]at this;omega
theorem Xz{t left:Int}{w out:List Int}(f:Full t w w out left)(h:t≤w.sum):left=0:=by
 have c:=f.c
 rcases f.f with e|e
 ·exact e
 ·have Vp:w.sum≤out.sum:=yf (by rw[c.l2]) λi hi=>by
   have h1:=e i hi
   have h2:=gg c.pw i
   have h3:=c.po i
   by_cases h4:0<w.getD i 0
   ·have: ¬out.getD i 0<w.getD i 0:=λh5=>h1 ⟨h4,h5⟩
    omega
   ·omega
  have:=c.s
  have:=c.l
  omega
def sg(q x:Int):Int:=if q<0 then 0-x else x
def zc(a q:Int):List (Int×Int)→aC
 |[]=>[]
 |p::t=>if sg q p.1=0 then zc a q t else(p.2,(a,(sg q p.1,())))::zc a q t
theorem EW(a q:Int)(p:Int×Int)(t:List (Int×Int)):zc a q (p::t)=if sg q p.1=0 then zc a q t else(p.2,(a,(sg q p.1,())))::zc a q t:=rfl
def jV(l:aC)(a q:Int):List Int×Int×Int:=tb (q.natAbs:Int) (js (fM a q l)) (js (fM a q l))
def aaN(l:aC)(a q:Int):aC:=((0:Int),(a,((0-q:Int),())))::zc a q ((jV l a q).1.zip (yX (fM a q l)))
def vG(c:ae)(b:aq)(a:Int):aC×Int:=
 if dT c b then(if a<0 then([],3)else if(c.1.length:Int)≤a then([],3)else if fL b.2.2.2.1 0 a=0 then([],0)else
  if(jV b.2.2.2.1 a (fL b.2.2.2.1 0 a)).2.2=0 then(aaN b.2.2.2.1 a (fL b.2.2.2.1 0 a),0)else([],(jV b.2.2.2.1 a (fL b.2.2.2.1 0 a)).2.2))else([],1)
theorem G8{t:Int}{w caps:List Int}(rA:t<9223372036854775808)(hc:Ie caps)(hx:(tb t w caps).2.2=0):Full t w caps (tb t w caps).1 (tb t w caps).2.1:=by
 unfold tb at*
 by_cases h1:t<0∨may w=false∨caps.length≠w.length∨may caps=false
 ·rw[ak h1]at hx;exact absurd hx δ
 ·rw[ah h1]at hx ⊢
  by_cases h2:9223372036854775808≤w.sum
  ·rw[ak h2]at hx;exact absurd hx δ
  ·rw[ah h2]
   have h3:may w=true:=by cases h:may w<;>simp_all
   have h4:may caps=true:=by cases h:may caps<;>simp_all
   have h5:caps.length=w.length:=Mh λh=>h1 (Or.inr (Or.inr (Or.inl h)))
   exact Og _ _ _ (JQ ω rA h3 h4 h5 hc ω) (Or.inl (by have:=Xw w caps (List.replicate w.length 0);omega))
theorem Cm{l:aC}(h: ∀x∈l,aG (gJ x)∧mZ (gJ x))(a q:Int):Ie (js (fM a q l)):=λz hz=>by
 obtain⟨x,hx,rfl⟩:=cQ.1 hz
 have:=h x (uF hx).1
 have g: ∀v:Int,aG v∧mZ v→ -9223372036854775808≤(v.natAbs:Int)∧(v.natAbs:Int)<9223372036854775808:=λv hv=>by unfold aG mZ at hv;omega
 exact g _ this
theorem XA{out accs:List Int}{i:Nat}(h1:i<out.length)(h2:i<accs.length):(out.zip accs).getD i (0,0)=(out.getD i 0,accs.getD i 0):=by
 rw[aZ,bo (by rw[wL];omega),List.getElem_zip,aZ,bo h1,aZ,bo h2];rfl
end VM
end
section
namespace VM
open Go VM.F
variable(N:Nat)
theorem Lb{c:ae}{b:aq}(h:dT c b=true): ∀x∈b.2.2.2.1,s7 x.2.1 c.1.length:=λx hx=>by
 have hk:=(gl h).2
 have h0:=(fK hk).2 x hx
 unfold dT at h
 simp only[bQ]at h
 have h1:=bl h.2.2.2.2.2.2.2.2.1
 obtain⟨i,hi,e⟩:=fC hx
 have h2:=h1 i hi
 unfold jm at h2
 rw[aZ,bo hi]at h2
 simp only[lG,e]at h2
 have g: ∀u v:Int,cE u v→n0 v c.1.length→s7 v c.1.length:=λu v h1 h2=>by unfold cE at h1;unfold n0 at h2;unfold s7;omega
 exact g _ _ h0.1 h2.2
end VM
end
section
namespace VM
open Go VM.F
variable(N:Nat)
theorem aaO{x:Int}(h:c7 x)(hx:x≠ -170141183460469231731687303715884105728):F48 N (cO x)=some (cO (-x),true):=by
 unfold F48 F99 cO
 unfold c7 at h
 dsimp only
 have hp:0≤x%18446744073709551616∧x%18446744073709551616<18446744073709551616:=ω
 have hh: -9223372036854775808≤x/18446744073709551616∧x/18446744073709551616<9223372036854775808:=ω
 rw[nA,nA,ph N ω ω ω ω ω ω,aw]
 dsimp only
 have hb:(0:Int)≤(if(0:Int)<x%18446744073709551616+0 then 1 else 0)∧(if(0:Int)<x%18446744073709551616+0 then(1:Int)else 0)≤1:=by split<;>omega
 rw[ph N ω ω ω ω hb.1 hb.2,aw]
 dsimp only
 have key: ∀{z:bI},z=cO (-x)→((some (z,true):Option (bI×Bool)).bind λr1=>some (r1.1,r1.2))=some (cO (-x),true):=λe=>by rw[e];rfl
 have e3:W .i64 ((0%18446744073709551616-x/18446744073709551616%18446744073709551616-(if(0:Int)<x%18446744073709551616+0 then 1 else 0))%18446744073709551616)=(-x)/18446744073709551616:=by
  by_cases h0:x%18446744073709551616=0
  ·rw[ah (show ¬(0:Int)<x%18446744073709551616+0 by omega),gU];split<;>omega
  ·rw[ak (show(0:Int)<x%18446744073709551616+0 by omega),gU];split<;>omega
 have e1:(0-x%18446744073709551616-0)%18446744073709551616=(-x)%18446744073709551616:=ω
 rw[e3,e1]
 simp only[uk,rm]
 by_cases a:x/18446744073709551616<0
 ·have c: ¬(-x)/18446744073709551616<0:=ω
  rw[bK (show ¬(0:Int)<0 by omega),bq a,bK c]
  exact key rfl
 ·rw[bK (show ¬(0:Int)<0 by omega),bK a]
  exact key rfl
theorem DF{k:Int}: ∀{i:Nat} {l:aO},nJ k i l≠[]→(i:Int)≤(nJ k i l).getD 0 0∧(nJ k i l).getD 0 0<((i+l.length:Nat):Int)
 |i,[],h=>absurd rfl h
 |i,y::t,h=>by
  rw[Bl]at h ⊢
  by_cases e:y.1=k
  ·rw[ak e,aU]
   show(i:Int)≤(i:Int)∧(i:Int)<_
   omega
  ·rw[ah e]at h ⊢
   have:=DF h
   rw[aU];omega
def anr(c:ae):Int:=c.2.2.2.2.2.2.1
end VM
end
section
namespace VM
open Go VM.F
variable(N:Nat)
end VM
end
section
namespace VM
open Go VM.F
variable(N:Nat)
def zIn(z:Int×Int)(n:Nat):Prop:=0≤z.1∧z.1≤1000000000*(n:Int)∧0≤z.2∧z.2≤1000000000*(n:Int)
theorem zIn.mono{z:Int×Int}{n m:Nat}(h:zIn z n)(hm:n≤m):zIn z m:=by unfold zIn at*;omega
end VM
end
section
namespace VM
open Go VM.F
variable(N:Nat)
end VM
end
section
namespace VM
open Go VM.F
variable(N:Nat)
end VM
end
section
namespace VM
open Go VM.F
variable(N:Nat)
end VM
end
section
namespace VM
open Go VM.F
variable(N:Nat)
def qIn(q:Int):Prop:=1≤q∧q≤1000000000
instance(q:Int):Decidable (qIn q):=by unfold qIn;infer_instance
def Br(a b c d:Int):Prop:=(1≤a∧a≤1099511627776)∧(0≤b∧b<6)∧(c=1∨c=2)∧qIn d
instance(a b c d:Int):Decidable (Br a b c d):=by unfold Br;infer_instance
def Bs(h:cv):Prop:=Br h.1 h.2.1 h.2.2.1 h.2.2.2.1
instance(h:cv):Decidable (Bs h):=by unfold Bs;infer_instance
theorem xA(h:cv):aaP N h=some (decide (Bs h)):=by
 unfold aaP
 rw[oe h.2.2.2.1]
 rw[gE,Gx,Cb,Gw,gE,gE,gE]
 congr 1
 rw[oZ,ff]
 unfold Bs Br qIn
 simp only[bQ,ni,qZ,q4,Fe]
 omega
end VM
end
section
namespace VM
open Go VM.F Go.RowKit
variable(N:Nat)
def hR:aC:=[((1:Int),((0:Int),((-90:Int),()))),((5:Int),((1:Int),((90:Int),())))]
def hS:aC:=[((0:Int),((0:Int),((5:Int),()))),((0:Int),((1:Int),((20:Int),()))),((1:Int),((0:Int),((-5:Int),()))),((1:Int),((1:Int),((-20:Int),())))]
def hB:aq:=([((1:Int),((1:Int),()))],([((1:Int),((1:Int),((1:Int),((50:Int),()))))],(hR,(hS,([(100:Int),(7:Int)],(eu,()))))))
def hO:cv:=((4:Int),((0:Int),((2:Int),((6:Int),()))))
theorem hW:Sx hB:=⟨⟨δ,δ,δ,δ,δ,δ,K2 (l:=hR) δ,K2 (l:=hS) δ⟩,δ,δ⟩
namespace Pure
end Pure
end VM
end
section
namespace VM
open Go VM.F
variable(N:Nat)
def Ok{α:Type}(P:α→Prop)(o:Option α):Prop:= ∃r,o=some r∧P r
theorem an{α:Type}{P:α→Prop}{r:α}(h:P r):Ok P (some r):=⟨r,rfl,h⟩
theorem af{α β:Type}{P:β→Prop}{Q:α→Prop}{o:Option α}{f:α→Option β}(h:Ok Q o)(hf: ∀r,Q r→Ok P (f r)):Ok P (o.bind f):=by
 obtain⟨r,rfl,hr⟩:=h
 exact hf r hr
theorem SJ{α:Type}{P Q:α→Prop}{o:Option α}(h:Ok Q o)(hf: ∀r,Q r→P r):Ok P o:=by
 obtain⟨r,e,hr⟩:=h
 exact⟨r,e,hf r hr⟩
theorem nK{α:Type}{P:α→Prop}{o:Option α}{r:α}(h:o=some r)(hr:P r):Ok P o:=⟨r,h,hr⟩
theorem sb{α:Type}{P:α→Prop}{b:Bool}{x y:Option α}(hx:b=true→Ok P x)(hy:b=false→Ok P y):Ok P (cond b x y):=by
 cases b
 ·exact hy rfl
 ·exact hx rfl
theorem bx{α:Type}{P:α→Prop}{b:Bool}{x y:Option α}(hx:b=false→Ok P x)(hy:b=true→Ok P y):Ok P (cond (!b) x y):=by
 cases b
 ·exact hx rfl
 ·exact hy rfl
theorem ax{α:Type}{P:α→Prop}{a b:Int}{x y:Option α}(hx:a<b→Ok P x)(hy:b≤a→Ok P y):Ok P (cond (aT a b) x y):=by
 rw[c4]
 split
 ·exact hx (by assumption)
 ·exact hy ω
theorem et{α:Type}{P:α→Prop}{a b:Int}{x y:Option α}(hx:a≤b→Ok P x)(hy:b<a→Ok P y):Ok P (cond (cY a b) x y):=by
 rw[cK]
 split
 ·exact hx (by assumption)
 ·exact hy ω
theorem ok_eq{α:Type}{P:α→Prop}{a b:Int}{x y:Option α}(hx:a=b→Ok P x)(hy:a≠b→Ok P y):Ok P (cond (aM a b) x y):=by
 rw[aR]
 split
 ·exact hx (by assumption)
 ·exact hy (by assumption)
theorem bz{α:Type}{P:α→Prop}{a b:Int}{x y:Option α}(hx:a≠b→Ok P x)(hy:a=b→Ok P y):Ok P (cond (!aM a b) x y):=by
 rw[cond_not];exact ok_eq hy hx
theorem az{α:Type}{P:α→Prop}{i:Int}{n:Nat}{x y:Option α}(h:0≤i∧i<(n:Int))(hx:Ok P x):Ok P (cond (a7 i n) x y):=by
 rw[aY h.1 h.2];exact hx
theorem aE{α:Type}{P:α→Prop}{n:Nat}{x y:Option α}(h:n<68719476736)(hx:Ok P x):Ok P (cond (small n) x y):=by
 rw[ch h];exact hx
theorem aaQ{α:Type}{P:α→Prop}{l c:Int}{x y:Option α}(h:0≤l∧l≤c∧c<68719476736)(hx:Ok P x):Ok P (cond (iP l c) x y):=by
 rw[cC h.1 h.2.1 h.2.2];exact hx
theorem Cn{α:Type}{P:α→Prop}{l h m n:Int}{x y:Option α}(hh:0≤l∧l≤h∧h≤m∧m≤n)(hx:Ok P x):Ok P (cond (jA l h m n) x y):=by
 rw[db hh.1 hh.2.1 hh.2.2.1 hh.2.2.2];exact hx
theorem la{σ β:Type}{P:β→Prop}{F:Nat→Int→σ→Option β}{len:Nat}(I:Nat→σ→Prop)
  (hs: ∀n i s,i<len→I i s→(∀s',I (i+1) s'→Ok P (F n ((i+1:Nat):Int) s'))→Ok P (F (n+1) (i:Int) s)) (he: ∀n s,I len s→Ok P (F (n+1) (len:Int) s)):
  ∀m n i s,len-i≤m→m<n→i≤len→I i s→Ok P (F n (i:Int) s)
 |m,0,i,s,_,hn,_,_=>ω
 |m,n+1,i,s,hm,hn,hi,hI=>by
  by_cases h:i<len
  ·exact hs n i s h hI λs' yR=>la I hs he (m-1) n (i+1) s' ω ω ω yR
  ·have:i=len:=ω
   subst this
   exact he n s hI
theorem bg{σ β:Type}{P:β→Prop}{F:Nat→Int→σ→Option β}{len:Nat}(I:Nat→σ→Prop){N:Nat}{s:σ}(h0:I 0 s)(hN:len<N)
  (hs: ∀n i s,i<len→I i s→(∀s',I (i+1) s'→Ok P (F n ((i+1:Nat):Int) s'))→Ok P (F (n+1) (i:Int) s)) (he: ∀n s,I len s→Ok P (F (n+1) (len:Int) s)):Ok P (F N 0 s):=
 la I hs he len N 0 s ω hN ω h0
theorem jW{β:Type}{P:β→Prop}{F:Nat→Int→Option β}{len N:Nat}(hN:len<N)
  (hs: ∀n i,i<len→Ok P (F n ((i+1:Nat):Int))→Ok P (F (n+1) (i:Int))) (he: ∀n,Ok P (F (n+1) (len:Int))):Ok P (F N 0):=
 bg (σ:=Unit) (F:=λn i _=>F n i) (λ_ _=>True) (s:=()) trivial hN (λn i _ h _ hr=>hs n i h (hr () trivial)) λn _ _=>he n
theorem EX{σ β:Type}{P:β→Prop}{F:Nat→Int→σ→Option β}(I:Nat→σ→Prop)
  (hs: ∀n (k:Nat) s,I (k+1) s→(∀s',I k s'→Ok P (F n (k:Int) s'))→Ok P (F (n+1) ((k+1:Nat):Int) s)) (he: ∀n s,I 0 s→Ok P (F (n+1) 0 s)):
  ∀(k n:Nat) s,k<n→I k s→Ok P (F n (k:Int) s)
 |0,0,s,hn,_=>ω
 |0,n+1,s,hn,hI=>he n s hI
 |k+1,0,s,hn,_=>ω
 |k+1,n+1,s,hn,hI=>hs n k s hI λs' yR=>EX I hs he k n s' ω yR
def G(m:Nat):(τ:Ty)→τ.den→Prop
 | .int .i64,x=>aG x
 | .int .u64,x=>0≤x∧x<18446744073709551616
 | .slice e,l=>ℓ l≤m∧ ∀x∈(l:List e.den),G m e x
 | .pair a b,x=>G m a x.1∧G m b x.2
 |_,_=>True
theorem G.mono{m n:Nat}(h:m≤n): ∀{τ:Ty} {x:τ.den},G m τ x→G n τ x
 | .int k,x,hx=>by cases k<;>exact hx
 | .slice e,l,hl=>⟨ca hl.1 h,λx hx=>G.mono h (hl.2 x hx)⟩
 | .pair a b,x,hx=>⟨G.mono h hx.1,G.mono h hx.2⟩
 | .bool,_,_=>trivial
 | .str,_,_=>trivial
 | .unit,_,_=>trivial
 | .arr _ _,_,_=>trivial
theorem G.nil{m:Nat}{e:Ty}:G m (.slice e) ([]:List e.den):=⟨bA _,λx hx=>nomatch hx⟩
theorem G.app{m:Nat}{e:Ty}{l:List e.den}{x:e.den}(h:G m (.slice e) l)(hx:G m e x):G (m+1) (.slice e) (l++[x]):=
 ⟨by have:=h.1;rw[aX,aJ];omega,λy hy=>by
  rcases bf.1 hy with hy|hy
  ·exact G.mono ω (h.2 y hy)
  ·rw[cg.1 hy];exact G.mono ω hx⟩
theorem G.get{m:Nat}{e:Ty}{l:List e.den}{d:e.den}(h:G m (.slice e) l)(hd:G m e d)(k:Nat):G m e (l.getD k d):=by
 by_cases hk:k<l.length
 ·rw[aZ,bo hk];exact h.2 _ (fg hk)
 ·rw[aZ,gV ω];exact hd
theorem G.zero(m:Nat): ∀τ:Ty,G m τ τ.zero
 | .int k=>by cases k<;>first|trivial|exact⟨δ,δ⟩
 | .slice _=>G.nil
 | .pair a b=>⟨G.zero m a,G.zero m b⟩
 | .bool=>trivial
 | .str=>trivial
 | .unit=>trivial
 | .arr _ _=>trivial
theorem G.at{m:Nat}{e:Ty}{l:List e.den}(h:G m (.slice e) l)(k:Nat):G m e (l.getD k e.zero):=h.get (G.zero m e) k
theorem G.set{m:Nat}{e:Ty}{l:List e.den}{x:e.den}(h:G m (.slice e) l)(hx:G m e x)(k:Nat):G m (.slice e) (l.set k x):=
 ⟨by rw[bs];exact h.1,λy hy=>by
  rcases tK hy with hy|rfl
  ·exact h.2 y hy
  ·exact hx⟩
theorem gH(x:Int):aG (W .i64 x):=by
 rw[gU];unfold aG;split<;>omega
def Bg(k:Nat)(z:aH):Prop:= ∃v,z=c5 v∧Fit v k
theorem Bg.mono{j k:Nat}{z:aH}(h:Bg j z)(hk:j≤k):Bg k z:=by
 obtain⟨v,e,f⟩:=h
 exact⟨v,e,Fit.mono f hk⟩
theorem Bg.zero:Bg 1 (false,(([]:List Int),())):=⟨0,kX.symm,by unfold Fit;decide⟩
theorem br(hN:4000000≤N){x:Int}(h:aG x):Ok (Bg 2) (kF N x):=nK (dp N ω h.1 h.2) ⟨x,rfl,Fit.i64 h.1 h.2⟩
theorem ld(hN:4000000≤N){k:Nat}(hk:k≤90000){u v:aH}(hu:Bg k u)(hv:Bg k v):Ok (Bg (k+1)) (AZ N u v):=by
 obtain⟨a,rfl,ha⟩:=hu
 obtain⟨b,rfl,hb⟩:=hv
 exact nK (jR N hN (Fit.mono ha ω) (Fit.mono hb ω)) ⟨_,rfl,Fit.add ha hb⟩
theorem yg(hN:4000000≤N){k:Nat}(hk:k≤90000){u v:aH}(hu:Bg k u)(hv:Bg k v):Ok (Bg (k+1)) (Si N u v):=by
 obtain⟨a,rfl,ha⟩:=hu
 obtain⟨b,rfl,hb⟩:=hv
 exact nK (vn N hN (Fit.mono ha ω) (Fit.mono hb ω)) ⟨_,rfl,by rw[Int.sub_eq_add_neg];exact Fit.add ha (Fit.neg hb)⟩
theorem qT(hN:4000000≤N){k:Nat}(hk:k≤90000){u:aH}(hu:Bg k u):Ok (Bg k) (Vt N u):=by
 obtain⟨a,rfl,ha⟩:=hu
 exact nK (oq N hN (Fit.mono ha ω)) ⟨_,rfl,Fit.neg ha⟩
theorem Bt(hN:4000000≤N){k:Nat}(hk:k≤90000){u:aH}(hu:Bg k u):Ok (Bg k) (WX N u):=by
 obtain⟨a,rfl,ha⟩:=hu
 exact nK (NI N hN (Fit.mono ha ω)) ⟨_,rfl,Fit.of_le ha ω⟩
theorem lV(hN:4000000≤N){j k:Nat}(hj:j≤90000)(hk:k≤90000){u v:aH}(hu:Bg j u)(hv:Bg k v):Ok (Bg (j+k)) (jZ N u v):=by
 obtain⟨a,rfl,ha⟩:=hu
 obtain⟨b,rfl,hb⟩:=hv
 exact nK (A3 N hN (Fit.mono ha hj) (Fit.mono hb hk)) ⟨_,rfl,Fit.mul ha hb⟩
theorem EY{k:Nat}{u:aH}(hu:Bg k u):Ok (λ_=>True) (Sj N u):=by
 obtain⟨a,rfl,ha⟩:=hu
 exact nK (qx N a) trivial
theorem p4(hN:4000000≤N){j k:Nat}(hj:j≤90000)(hk:k≤90000){u v:aH}(hu:Bg j u)(hv:Bg k v):Ok (λ_=>True) (Qd N u v):=by
 obtain⟨a,rfl,ha⟩:=hu
 obtain⟨b,rfl,hb⟩:=hv
 exact nK (QC N hN (Fit.mono ha ω) (Fit.mono hb ω)) trivial
theorem XB(v:Int):aG (ya v).1:=by
 by_cases h:aG v
 ·rw[Bc h];exact h
 ·rw[ES h];unfold aG;decide
theorem xB{k:Nat}{u:aH}(hu:Bg k u):Ok (λr=>aG r.1) (NJ N u):=by
 obtain⟨a,rfl,ha⟩:=hu
 exact nK (tx N a) (XB a)
abbrev L3(m:Nat)(l:aC):Prop:=G m (.slice oB) l
def kb(m:Nat)(p:bJ):Prop:=p.length≤m∧ ∀y∈p,Bg 8 y.2.2.1
theorem kb.at{m:Nat}{p:bJ}(h:kb m p)(i:Nat):Bg 8 (p.getD i ((0:Int),((0:Int),((false,pQ),())))).2.2.1:=by
 by_cases hk:i<p.length
 ·rw[aZ,bo hk];exact h.2 _ (fg hk)
 ·rw[aZ,gV ω];exact Bg.mono Bg.zero δ
theorem kb.nil{m:Nat}:kb m []:=⟨bA _,λx hx=>nomatch hx⟩
theorem kb.app{m n:Nat}{p q:bJ}(h:kb m p)(h':kb n q):kb (m+n) (p++q):=
 ⟨by have:=h.1;have:=h'.1;rw[aX];omega,λy hy=>(bf.1 hy).elim (h.2 y) (h'.2 y)⟩
theorem kb.mono{m n:Nat}{p:bJ}(h:kb m p)(hm:m≤n):kb n p:=⟨ca h.1 hm,h.2⟩
theorem DG{k:Nat}{u:aH}(hu:Bg k u):Ok (λr=>aG r.1) (QO N u):=by
 unfold QO
 refine af (xB N hu) λr h=>bx (λ_=>an (by unfold aG;decide)) λ_=>ok_eq (λ_=>an (by unfold aG;decide)) λ_=>an h
theorem jJ{x:Int}(h0: -1000000≤x)(h1:x≤1000000):aG x:=by unfold aG;omega
theorem G3{m:Nat}{a b c:Int}(ha:aG a)(hb:aG b)(hc:aG c):G m oB (a,(b,(c,()))):=⟨ha,hb,hc,trivial⟩
theorem bt:aG 0:=by unfold aG;decide
theorem Ux(hN:4000000≤N){x k n:Int}{p:bJ}(hx:aG x)(hp:kb 50000 p):Ok (λr=>aG r.1) (nG N x k n p):=by
 have hl:=hp.1
 refine bg (len:=p.length) (F:=λn' i (s:aH×Bool)=>nG.l3 N n' x k n p s.1 s.2 i) (s:=(_,_)) (λi s=>Bg (8+i) s.1) (Bg.mono Bg.zero ω) ω (λn' i s hi hI hr=> ?_) (λn' s hI=> ?_)
 all_goals unfold nG.l3 nG.lD
 ·rw[ay (x:=(i:Int)+1) ω ω,ag i]
  have h1:=hr (s.1,s.2) (Bg.mono hI ω)
  repeat' first|exact h1|refine az ⟨ω,ω⟩ ?_|refine ax (λ_=> ?_) (λ_=> ?_)|refine ok_eq (λ_=> ?_) (λ_=> ?_)|(exfalso;omega)|exact af (ld N hN ω hI (Bg.mono (hp.at _) ω)) λr h=>hr (r,true) h
 ·refine ax (λ_=>ω) λ_=>bx (λ_=>an hx) λ_=>af (br N hN hx) λr h=>af (ld N hN ω hI (Bg.mono h ω)) λr h=>af (xB N h) λr h=>an h
theorem aaR(hN:4000000≤N){l:aC}{p:bJ}{m:Nat}(hm:m≤50000)(hl:L3 m l)(hp:kb 50000 p):Ok (λr=>L3 200 r.1) (dk N l p):=by
 have Ky:=hl.1
 refine la (len:=8) (F:=λn k (s:aC×Int)=>dk.l4 N n l p s.1 s.2 k) (λi s=>L3 (25*i) s.1∧0≤s.2) (λn i s hi hI hr=> ?_) (λn s hI=> ?_) 8 N 1 (_,_) ω ω ω ⟨G.nil,ec 0⟩
 all_goals unfold dk.l4 dk.ew
 ·refine et (λ_=> ?_) (λ_=>ω)
  refine bg (len:=25) (F:=λn' j (s:aC×Int)=>dk.l7 N (dk.l4 N n) n' l p s.1 s.2 (i:Int) j) (s:=s) (λj s=>L3 (25*i+j) s.1∧0≤s.2) hI ω (λn' j s hj hI eV=> ?_) (λn' s hI=> ?_)
  all_goals unfold dk.l7 dk.rL
  ·have mi: ∀(k x:Int),0≤k→aG x→Ok (λr=>L3 200 r.1) (dk.KR N (dk.l4 N n) (dk.l7 N (dk.l4 N n) n') l p s.1 k (i:Int) (j:Int) x):=λk x hk hx=>by
    unfold dk.KR dk.A5
    rw[ay (x:=(j:Int)+1) ω ω,ag j]
    have hs:=hI.1.1
    refine af (Ux N hN hx hp) λr h=>bx (λ_=>an G.nil) λ_=>bz (λ_=>aE (by rw[aJ];omega) (eV (_,k) ⟨G.app hI.1 (G3 (jJ ω ω) (jJ ω ω) h),hk⟩)) λ_=>eV (s.1,k) ⟨G.mono ω hI.1,hk⟩
   have h0:=mi s.2 0 hI.2 bt
   have WR:=hI.2
   repeat' first|exact h0|refine az ⟨ω,ω⟩ ?_|refine ax (λ_=> ?_) (λ_=> ?_)|refine et (λ_=> ?_) (λ_=> ?_)|refine ok_eq (λ_=> ?_) (λ_=> ?_)|(exfalso;omega)|exact mi _ _ (by rw[ay (x:=s.2+1) ω ω];omega) (G.at hl _).2.2.1
  ·rw[ay (x:=(i:Int)+1) ω ω,ag i]
   exact et (λ_=>ω) λ_=>hr s ⟨G.mono ω hI.1,hI.2⟩
 ·exact et (λ_=>ω) λ_=>an (G.mono δ hI.1)
theorem Q1(hN:4000000≤N){l t:aC}{m:Nat}(hm:m≤50000)(hl:L3 m l)(ht:L3 50000 t):Ok (λr=>L3 200 r.1) (cw N l t):=by
 have Ky:=hl.1
 have htl:=ht.1
 refine bg (len:=25) (F:=λn k (s:aC×Int)=>cw.l4 N n l t s.1 s.2 k) (s:=(_,_)) (λi s=>L3 (6*i) s.1∧0≤s.2) ⟨G.nil,ec 0⟩ ω (λn i s hi hI hr=> ?_) (λn s hI=> ?_)
 all_goals unfold cw.l4 cw.ew
 ·refine et (λ_=> ?_) (λ_=>ω)
  refine bg (len:=6) (F:=λn' j (s:aC×Int)=>cw.l7 N (cw.l4 N n) n' l t s.1 s.2 (i:Int) j) (s:=s) (λj s=>L3 (6*i+j) s.1∧0≤s.2) hI ω (λn' j s hj hI eV=> ?_) (λn' s hI=> ?_)
  all_goals unfold cw.l7 cw.rL
  ·have mi: ∀(k x:Int),0≤k→aG x→Ok (λr=>L3 200 r.1) (cw.KR N (cw.l4 N n) (cw.l7 N (cw.l4 N n) n') l t s.1 k (i:Int) (j:Int) x false):=λk x hk hx=>by
    unfold cw.KR cw.A5
    have hs:=hI.1.1
    have AB: ∀y:Int,aG y→Ok (λr=>L3 200 r.1) (cond (!aM y 0) (cond (small (s.1.length+[(((i:Int),((j:Int),(y,()))):eP)].length)) (cw.l7 N (cw.l4 N n) n' l t (s.1++[((i:Int),((j:Int),(y,())))]) k (i:Int) (W .i64 ((j:Int)+1))) none) (cw.l7 N (cw.l4 N n) n' l t s.1 k (i:Int) (W .i64 ((j:Int)+1)))):=λy hy=>by
     rw[ay (x:=(j:Int)+1) ω ω,ag j]
     exact bz (λ_=>aE (by rw[aJ];omega) (eV (_,k) ⟨G.app hI.1 (G3 (jJ ω ω) (jJ ω ω) hy),hk⟩)) λ_=>eV (s.1,k) ⟨G.mono ω hI.1,hk⟩
    refine bg (len:=t.length) (F:=λzD u (z:aH×Bool)=>cw.yc N (cw.l4 N n) (cw.l7 N (cw.l4 N n) n') zD l t s.1 k (i:Int) (j:Int) x z.2 z.1 u) (s:=(_,_)) (λu z=>Bg (3+u) z.1) (Bg.mono Bg.zero ω) ω (λzD u z hu hz XC=> ?_) (λzD z hz=> ?_)
    all_goals unfold cw.yc cw.Bf
    ·rw[ay (x:=(u:Int)+1) ω ω,ag u]
     have h1:=XC (z.1,z.2) (Bg.mono hz ω)
     repeat' first|exact h1|refine az ⟨ω,ω⟩ ?_|refine ax (λ_=> ?_) (λ_=> ?_)|refine ok_eq (λ_=> ?_) (λ_=> ?_)|(exfalso;omega)|exact af (br N hN (G.at ht _).2.2.1) λr h=>af (ld N hN ω hz (Bg.mono h ω)) λr h=>XC (r,true) h
    ·exact ax (λ_=>ω) λ_=>sb (λ_=>af (br N hN hx) λr h=>af (ld N hN ω hz (Bg.mono h ω)) λr h=>af (DG N h) λr h=>bx (λ_=>an G.nil) λ_=>AB _ h) λ_=>AB _ hx
   have h0:=mi s.2 0 hI.2 bt
   have WR:=hI.2
   repeat' first|exact h0|refine az ⟨ω,ω⟩ ?_|refine ax (λ_=> ?_) (λ_=> ?_)|refine et (λ_=> ?_) (λ_=> ?_)|refine ok_eq (λ_=> ?_) (λ_=> ?_)|(exfalso;omega)|exact mi _ _ (by rw[ay (x:=s.2+1) ω ω];omega) (G.at hl _).2.2.1
  ·rw[ay (x:=(i:Int)+1) ω ω,ag i]
   exact ax (λ_=>ω) λ_=>hr s ⟨G.mono ω hI.1,hI.2⟩
 ·exact et (λ_=>ω) λ_=>an (G.mono δ hI.1)
theorem G.jc{m:Nat}:G m aL (bM,(dh,(cf,(cf,(dW,(eu,())))))):=G.zero m aL
theorem tc(hN:4000000≤N){b:aq}{s:aC}{p:bJ}{m:Nat}(h2:200≤m)(hm:m≤50000)(hb:G m aL b)(hs:L3 50000 s)(hp:kb 50000 p):Ok (λr=>G m aL r.1) (Bu N b s p):=by
 unfold Bu
 exact af (Q1 N hN hm hb.2.2.2.1 hs) λr h=>bx (λ_=>an G.jc) λ_=>af (aaR N hN hm hb.2.2.1 hp) λr' h'=>bx (λ_=>an G.jc) λ_=>an ⟨hb.1,hb.2.1,G.mono h2 h',G.mono h2 h,hb.2.2.2.2⟩
theorem bH{α β:Type}{P:β→Prop}{o:Option α}{r:α}{f:α→Option β}(h:o=some r)(hf:Ok P (f r)):Ok P (o.bind f):=by rw[h];exact hf
theorem G.wf{m:Nat}(hm:m≤50000){b:aq}(h:G m aL b):Sx b:=by
 obtain⟨h1,h2,h3,h4,h5,h6,_⟩:=h
 exact⟨⟨ca h1.1 ω,ca h2.1 ω,ca h3.1 ω,ca h4.1 ω,ca h5.1 ω,ca h6.1 ω,λx hx=>(h3.2 x hx).2.2.1,λx hx=>(h4.2 x hx).2.2.1⟩,ca h3.1 ω,ca h4.1 ω⟩
theorem dD(hN:5000000≤N){c:ae}{b:aq}{m:Nat}(hm:m≤50000)(h:G m aL b):fY N c b=some (dT c b):=NV N hN (G.wf hm h).w
theorem aaS{x:Int}(h:jr x):aG x:=by unfold jr at h;unfold aG;omega
theorem IP(hN:4000000≤N)(t:tB)(p:Int):Ok (λr=>kb 2 r.1) (QT N t p):=by
 unfold QT
 refine bH (yd N t) (bx (λ_=>an kb.nil) λht=>bH (iW N p) (bx (λ_=>an kb.nil) λ_=>af (br N hN (gH _)) λa ha=>af (br N hN ?_) λq hq=>af (lV N hN ω ω ha hq) λx hx=>af (EY N hx) λ_ _=>ok_eq (λ_=>an kb.nil) λ_=> ?_))
 ·have:=bl ht
  unfold nH kL at this
  exact fU δ this.2.2.2.2.1.1 |> λh=>⟨h,wF this.2.2.2.2.1.2 δ⟩
 ·unfold K4
  have hr: ∀a:Int,Ok (λ_=>True) (cond (aM a 0) (some ((2:Int),(0:Int))) (some ((5:Int),a))):=λa=>ok_eq (λ_=>an trivial) λ_=>an trivial
  refine af (hr _) λ_ _=>af (hr _) λ_ _=>af (qT N hN ω hx) λy hy=>an ⟨aI 2,λz hz=> ?_⟩
  rcases bm.1 hz with rfl|hz
  ·exact Bg.mono hx ω
  ·rw[cg.1 hz];exact Bg.mono hy ω
theorem Om(hN:200000≤N){b:aq}{m:Nat}(hm:m≤50000)(h:G m aL b)(id:Int):Ok (λ_=>True) (F78 N b id):=nK (uv N b (G.wf hm h).w.a hN id) trivial
theorem JS(hN:5000000≤N)(c:ae){b:aq}{l:bO}{m:Nat}(h2:200≤m)(hm:m≤50000)(hb:G m aL b):Ok (λr=>G m aL r.1) (gw N c b l):=by
 unfold gw gw.b
 refine bH (dD N hN hm hb) (bx (λ_=>an G.jc) λhB=>ax (λ_=>an G.jc) λhl=> ?_)
 obtain⟨hp,_⟩:=iu hB
 refine bg (len:=l.length) (F:=λn i (_:Unit)=>gw.l4 N n l c b (bM,(dh,(cf,(cf,(dW,(eu,())))))) i) (s:=()) (λi _=> ∀j,j<i→nH (l.getD j np)) (λj hj=>ω) ω (λn i _ hi hI hr=> ?_) (λn _ hI=> ?_)
 all_goals unfold gw.l4 gw.ew
 ·rw[ay (x:=(i:Int)+1) ω ω,ag i]
  refine ax (λ_=>az ⟨ω,ω⟩ (bH (yd N _) (bx (λ_=>an G.jc) λht=>hr () λj hj=> ?_))) λ_=>ω
  by_cases e:j=i
  ·rw[e];exact bl ht
  ·exact hI j ω
 ·refine ax (λ_=>ω) λ_=> ?_
  refine bg (len:=l.length) (F:=λn i (s:aC×bJ)=>gw.Co N n l c b (bM,(dh,(cf,(cf,(dW,(eu,())))))) s.1 s.2 i) (s:=(_,_)) (λi s=>L3 (2*i) s.1∧kb (2*i) s.2) ⟨G.nil,kb.nil⟩ ω (λn i s hi hJ hr=> ?_) (λn s hJ=> ?_)
  all_goals unfold gw.Co gw.zr
  ·have ht:=hI i hi
   unfold nH kL at ht
   have I9:=hJ.1.1
   have WR:=hJ.2.1
   have g64: ∀x:Int,0≤x∧x≤1000000→aG x:=λx h=>jJ ω ω
   dsimp only
   rw[ay (x:=(i:Int)+1) ω ω,ag i,aF]
   refine ax (λ_=>az ⟨ω,ω⟩ (af (Om N ω hm hb _) λ_ _=>bx (λ_=>an G.jc) λ_=>af (Om N ω hm hb _) λ_ _=>bx (λ_=>an G.jc) λ_=>et (λ_=>an G.jc) λdU=>aE ?_ (az ⟨ht.2.2.2.1.1,ω⟩ (af (IP N ω _ _) λr h=>aE ?_ (hr (_,_) ⟨?_,kb.mono (kb.app hJ.2 h) ω⟩))))) λ_=>ω
   ·rw[aU,aJ];omega
   ·have:=h.1;omega
   ·have hq:aG (l.getD i np).2.2.2.1:=⟨fU δ ht.2.2.2.2.1.1,wF ht.2.2.2.2.1.2 δ⟩
    have mz:aG (l.getD i np).2.2.1:=g64 _ ⟨ht.2.2.2.1.1,fU (o9 ht.2.2.2.1.2) δ⟩
    have h1:=G.app (G.app hJ.1 (G3 (g64 _ ⟨ht.1.1,fU ht.1.2 δ⟩) mz hq)) (G3 (g64 _ ⟨ht.2.1.1,fU ht.2.1.2 δ⟩) mz (gH (0-(l.getD i np).2.2.2.1)))
    rw[bU]at h1
    exact G.mono ω h1
  ·exact ax (λ_=>ω) λ_=>af (tc N ω h2 hm hb (G.mono ω hJ.1) (kb.mono hJ.2 ω)) λr h=>an h
def IQ(k:Nat)(l:pD):Prop:= ∀x∈l,Bg k x
theorem IQ.mono{j k:Nat}{l:pD}(h:IQ j l)(hk:j≤k):IQ k l:=λx hx=>Bg.mono (h x hx) hk
theorem IQ.at{k:Nat}{l:pD}(h:IQ k l)(h1:1≤k)(i:Nat):Bg k (l.getD i (false,pQ)):=by
 by_cases hk:i<l.length
 ·rw[aZ,bo hk];exact h _ (fg hk)
 ·rw[aZ,gV ω];exact Bg.mono Bg.zero h1
theorem IQ.set{k:Nat}{l:pD}{x:aH}(h:IQ k l)(hx:Bg k x)(i:Nat):IQ k (l.set i x):=λy hy=>by
 rcases tK hy with hy|rfl
 ·exact h y hy
 ·exact hx
theorem IQ.rep{k n:Nat}(h:1≤k):IQ k (List.replicate n (false,pQ)):=λx hx=>by
 rw[(List.mem_replicate.1 hx).2];exact Bg.mono Bg.zero h
theorem aaT(hN:5000000≤N)(c:ae){b:aq}{m:Nat}(hm:m≤50000)(hb:G m aL b):Ok (λr=>(r.2=0→dT c b=true∧r.1.length=4)∧IQ 20 r.1) (sd N c b):=by
 unfold sd sd.b
 have w:=(G.wf hm hb).w
 refine bH (dD N hN hm hb) (bx (λ_=>an ⟨λh=>absurd h δ,λx hx=>nomatch hx⟩) λhB=>aaQ ⟨ω,ω,ω⟩ ?_)
 obtain⟨hp,Tz⟩:=iu hB
 obtain⟨h6,hbk⟩:=Dz (vB hB)
 refine bg (len:=c.1.length) (F:=λn i (s:pD)=>sd.l5 N n c b s i) (λi s=>s.length=4∧IQ (8+i) s) ⟨bP ..,IQ.rep ω⟩ ω (λn i s hi hI hr=> ?_) (λn s hI=> ?_)
 all_goals unfold sd.l5 sd.e8
 ·have hk:=hbk i hi
  have hl:=hI.1
  rw[ay (x:=(i:Int)+1) ω ω,ag i,aF]
  have in1: ∀{x y:Option (pD×Int)},Ok (λr=>(r.2=0→dT c b=true∧r.1.length=4)∧IQ 20 r.1) x→Ok (λr=>(r.2=0→dT c b=true∧r.1.length=4)∧IQ 20 r.1) (cond (a7 (c.1.getD i aQ).1 s.length) x y):=λh=>az ⟨hk.1,wF hk.2 (show(3:Int)<(s.length:Int)by omega)⟩ h
  exact ax (λ_=>az ⟨ω,ω⟩ (in1 (bH (K1 N w.s ω 0 (i:Int)) (af (br N ω (Xq w.qs 0 (i:Int))) λa ha=>az ⟨ω,ω⟩ (af (br N ω (aaS (N5 Tz ω))) λp hp=>af (lV N ω ω ω ha hp) λx hx=>af (ld N ω ω (IQ.at hI.2 ω _) (Bg.mono hx ω)) λy hy=>in1 (hr _ ⟨by rw[bs];exact hl,IQ.set (IQ.mono hI.2 ω) hy _⟩)))))) λ_=>ω
 ·exact ax (λ_=>ω) λ_=>an ⟨λ_=>⟨hB,hI.1⟩,IQ.mono hI.2 ω⟩
theorem anu{v:Int}(h:(ya v).2=true):(ya v).1=v:=by
 by_cases h':aG v
 ·rw[Bc h']
 ·rw[ES h']at h;exact nomatch h
def IS(c:ae)(x:cv):Prop:=((λi n:Int=>0≤i∧i<n) x.2.1 c.1.length)∧qIn x.2.2.2.1
theorem JT(hN:5000000≤N)(c:ae)(hc:aG (anr c)){b:aq}{m:Nat}(hm:m≤50000)(hb:G m aL b)(next:Int):Ok (λr=>G 4 (.slice eD) r.1∧ ∀x∈r.1,IS c x) (jf N c b next):=by
 unfold jf jf.b
 refine af (aaT N hN c hm hb) λz hz=>bz (λ_=>an ⟨G.nil,λx hx=>nomatch hx⟩) λh0=>ax (λ_=>an ⟨G.nil,λx hx=>nomatch hx⟩) λh1=>ax (λ_=>an ⟨G.nil,λx hx=>nomatch hx⟩) λh2=> ?_
 obtain⟨hB,hl4⟩:=hz.1 h0
 obtain⟨hp,Tz⟩:=iu hB
 obtain⟨h6,hbk⟩:=Dz (vB hB)
 refine bg (len:=4) (F:=λn k (s:Int×aO)=>jf.l6 N n s.1 c b z.1 s.2 k) (s:=(_,_)) (λk s=>(G k (.slice eD) s.2∧ ∀x∈s.2,IS c x)∧next≤s.1∧s.1≤next+k) ⟨⟨G.nil,λx hx=>nomatch hx⟩,ω,ω⟩ ω (λn k s hk hI hr=> ?_) (λn s hI=> ?_)
 all_goals unfold jf.l6 jf.vX
 ·have I9:=hI.1.1.1
  have WR:=hI.2
  rw[ay (x:=(k:Int)+1) ω ω,ag k]
  have sW:=hr s ⟨⟨G.mono ω hI.1.1,hI.1.2⟩,ω,ω⟩
  obtain⟨a,ea,ha⟩:=IQ.at hz.2 ω k
  have ha':Fit (a.natAbs:Int) 20:=Fit.of_le ha ω
  refine ax (λ_=>bH (QU N ω c ω (k:Int)) (az ⟨ω,ω⟩ (bH (by rw[aF,ea];exact NI N ω (ha.mono ω)) (ok_eq (λ_=>sW) λij=>af (br N ω hc) λv hv=>af (p4 N ω ω ω ⟨_,rfl,ha'⟩ hv) λ_ _=>et (λ_=>sW) λ_=> ?_)))) λ_=>ω
  have anv:iY c (k:Int)≠[]:=λe=>ij (by rw[e];rfl)
  have hh:0≤(iY c (k:Int)).getD 0 0∧(iY c (k:Int)).getD 0 0<(c.1.length:Int):=by
   have h1:=anv
   unfold iY at h1 ⊢
   rw[vB hB,ak rfl]at h1 ⊢
   have:=DF h1
   omega
  have hl0:0<(iY c (k:Int)).length:=oK.2 anv
  have hpx:=N5 Tz (i:=((iY c (k:Int)).getD 0 0).toNat) ω
  have hj: ∀q:Int,0≤q∧q≤1000000000→Ok (λr=>G 4 (.slice eD) r.1∧ ∀x∈r.1,IS c x) (jf.Cp N (jf.l6 N n) s.1 c b z.1 s.2 (k:Int) (iY c (k:Int)) q):=λq hq=>by
   have as5:aG q:=by unfold aG;omega
   unfold jf.Cp jf.wo
   rw[ay (x:=(k:Int)+1) ω ω,ag k,ay (x:=s.1+1) ω ω]
   have AB:q≠0→ ∀d:Int,aG d→Ok (λr=>G 4 (.slice eD) r.1∧ ∀x∈r.1,IS c x) (cond (small (s.2.length+[((s.1,((iY c (k:Int)).getD 0 0,(d,(q,())))):cv)].length)) (jf.l6 N n (s.1+1) c b z.1 (s.2++[(s.1,((iY c (k:Int)).getD 0 0,(d,(q,()))))]) ((k+1:Nat):Int)) none):=λuQ d hd=>
    aE (by rw[aJ];omega) (hr (_,_) ⟨⟨G.app hI.1.1 ⟨by show aG s.1;unfold aG;omega,(show aG ((iY c (k:Int)).getD 0 0)from jJ ω ω),hd,as5,trivial⟩,λx hx=>by
     rcases bf.1 hx with hx|hx
     ·exact hI.1.2 x hx
     ·rw[List.mem_singleton.1 hx];exact⟨hh,show 1≤q∧q≤1000000000 by omega⟩⟩,by dsimp only;omega,by dsimp only;omega⟩)
   exact ok_eq (λ_=>sW) λuQ=>az ⟨ω,ω⟩ (az ⟨ω,ω⟩ (af (EY N (IQ.at hz.2 ω _)) λ_ _=>ax (λ_=>AB uQ 2 (jJ ω ω)) λ_=>AB uQ 1 (jJ ω ω)))
  refine az ⟨ω,ω⟩ (az ⟨hh.1,by show(iY c (k:Int)).getD 0 0<_;omega⟩ ?_)
  have as6:=hpx
  unfold jr at as6
  rw[show(0:Int).toNat=0 from rfl]
  refine bH (dp N ω ω ω) (bH (Sk N hN ω (Fit.mono ha' ω) ((Fit.i64 ω ω).mono ω)) (bH (tx N _) (bx (λ_=>hj _ δ) λht=>ax (λ_=>hj _ δ) λhle=>hj _ ?_)))
  rw[anu ht]at hle ⊢
  exact⟨kR ω ω,hle⟩
 ·exact ax (λ_=>ω) λ_=>an hI.1
theorem Uy(hN:5000000≤N)(c:ae)(hc:aG (anr c)){b:aq}{m:Nat}(hm:m≤50000)(hb:G m aL b)(next:Int):Ok (λr=>G 4 (.slice eD) r.1) (jf N c b next):=SJ (JT N hN c hc hm hb next) λ_ h=>h.1
theorem G9(hN:200000≤N){l:bC}(hl:l.length≤100000)(a:Int):Ok (λr=>L3 6 r) (g9 N l a):=by
 unfold g9 g9.b
 refine bg (len:=6) (F:=λn k (s:aC)=>g9.l3 N n l a s k) (λk s=>L3 k s) G.nil ω (λn k s hk hI hr=> ?_) (λn s hI=> ?_)
 all_goals unfold g9.l3 g9.lD
 ·have hs:=hI.1
  refine ax (λ_=> ?_) λ_=>ω
  refine bg (len:=l.length) (F:=λn' i (x:eP)=>g9.l7 N (g9.l3 N n) n' l a s (k:Int) x i) (λi x=>G 6 oB x) (G3 (jJ ω ω) bt bt) ω (λn' i x hi hx eV=> ?_) (λn' x hx=> ?_)
  all_goals unfold g9.l7 g9.rL
  ·rw[ay (x:=(i:Int)+1) ω ω,ag i]
   have h1:=eV x hx
   repeat' first|exact h1|refine az ⟨ω,ω⟩ ?_|refine ax (λ_=> ?_) (λ_=> ?_)|refine bz (λ_=> ?_) (λ_=> ?_)|refine ok_eq (λ_=> ?_) (λ_=> ?_)|(exfalso;omega)|exact eV (_,(_,(_,_))) ⟨hx.1,gH _,hx.2.2.1,trivial⟩|exact eV (_,(_,(_,_))) ⟨hx.1,hx.2.1,gH _,trivial⟩
  ·rw[ay (x:=(k:Int)+1) ω ω,ag k]
   have h1:=hr s (G.mono ω hI)
   have h2:=hr (s++[x]) ⟨by rw[aX,aJ];omega,λy hy=>by
    rcases bf.1 hy with hy|hy
    ·exact G.mono ω (hI.2 y hy)
    ·rw[cg.1 hy];exact⟨hx.1,hx.2.1,hx.2.2.1,trivial⟩⟩
   repeat' first|exact h1|exact h2|refine aE (by rw[aJ];omega) ?_|refine ax (λ_=> ?_) (λ_=> ?_)|(exfalso;omega)
 ·exact ax (λ_=>ω) λ_=>an hI
theorem JU(hN:200000≤N)(c:ae){l:aC}(hl:l.length≤100000):Ok (λ_=>True) (qC N c l):=by
 unfold qC qC.b
 refine bH (nB N ω c) (bx (λ_=>an trivial) λ_=>jW (len:=l.length) (F:=λn i=>qC.l5 N n l c 33000000000 i) ω (λn i hi hr=> ?_) λn=> ?_)
 all_goals unfold qC.l5 qC.e8
 ·rw[ay (x:=(i:Int)+1) ω ω,ag i]
  dsimp only
  repeat' first|exact hr|exact an trivial|refine az ⟨ω,ω⟩ ?_|refine az (by rw[ay (x:=(i:Int)-1) ω ω];omega) ?_|refine ax (λ_=> ?_) (λ_=> ?_)|refine et (λ_=> ?_) (λ_=> ?_)|refine ok_eq (λ_=> ?_) (λ_=> ?_)|(exfalso;omega)
 ·exact ax (λ_=>ω) λ_=>an trivial
theorem Lc{k:Nat}(h:1≤k):Bg k (false,(([]:List Int),())):=Bg.mono Bg.zero h
theorem XD(hN:4000000≤N)(c:ae){l:aB}{o:aC}{m:Nat}(hm:m≤50000)(hl:G m (.slice hZ) l)(ho:L3 m o)(k:Int):Ok (λr=>Bg 3 r.1) (jt N c l o k):=by
 have h1:=hl.1
 have h2:=ho.1
 unfold jt jt.b
 refine bH (A9 N ω c ω) (bx (λ_=>an (Lc ω)) λ_=>af (JU N ω c ω) λ_ _=>bx (λ_=>an (Lc ω)) λ_=>ax (λ_=>an (Lc ω)) λ_=>et (λ_=>an (Lc ω)) λ_=> ?_)
 refine bg (len:=l.length) (F:=λn i (q:aH)=>jt.l7 N n l o k (false,(([]:List Int),())) q (false,(([]:List Int),())) (false,(([]:List Int),())) i) (λ_ q=>Bg 2 q) (Lc ω) ω (λn i q hi hq hr=> ?_) (λn q hq=> ?_)
 all_goals unfold jt.l7 jt.rL
 ·rw[ay (x:=(i:Int)+1) ω ω,ag i]
  exact ax (λ_=>az ⟨ω,ω⟩ (ok_eq (λ_=>az ⟨ω,ω⟩ (af (br N hN (G.at hl _).2.1) λr h=>hr r h)) λ_=>hr q hq)) λ_=>ω
 ·refine ax (λ_=>ω) λ_=> ?_
  refine bg (len:=o.length) (F:=λn i (z:aH×aH)=>jt.qA N n o k (false,(([]:List Int),())) q z.1 z.2 i) (s:=(_,_)) (λ_ z=>Bg 2 z.1∧Bg 2 z.2) ⟨Lc ω,Lc ω⟩ ω (λn i z hi hz hr=> ?_) (λn z hz=> ?_)
  all_goals unfold jt.qA jt.pZ
  ·rw[ay (x:=(i:Int)+1) ω ω,ag i]
   exact ax (λ_=>az ⟨ω,ω⟩ (ok_eq (λ_=>az ⟨ω,ω⟩ (af (br N hN (G.at ho _).2.1) λr h=>az ⟨ω,ω⟩ (af (br N hN (G.at ho _).2.2.1) λr' h'=>hr (r,r') ⟨h,h'⟩))) λ_=>hr z hz)) λ_=>ω
  ·exact ax (λ_=>ω) λ_=>af (ld N hN ω hq hz.1) λx hx=>af (Bt N hN ω hx) λx hx=>af (yg N hN ω hq hz.2) λy hy=>af (Bt N hN ω hy) λy hy=>af (p4 N hN ω ω hy hx) λ_ _=>ax (λ_=>an hy) λ_=>an hx
theorem On(hN:4000000≤N){c:ae}{l:aB}{o:aC}{m:Nat}(hm:m≤50000)(hc:G m aA c)(hl:G m (.slice hZ) l)(ho:L3 m o):Ok (λr=>Bg 60000 r.1) (qD N c l o):=by
 have h1:=hl.1
 have h2:=ho.1
 have h3:=hc.1.1
 unfold qD qD.b
 refine bH (A9 N ω c ω) (bx (λ_=>an (Lc ω)) λ_=>af (JU N ω c ω) λ_ _=>bx (λ_=>an (Lc ω)) λ_=> ?_)
 refine bg (len:=c.1.length) (F:=λn i (t:aH)=>qD.l5 N n l o c (false,(([]:List Int),())) t i) (λi t=>Bg (8+i) t) (Lc ω) ω (λn i t hi ht hr=> ?_) (λn t ht=> ?_)
 all_goals unfold qD.l5 qD.e8
 ·rw[ay (x:=(i:Int)+1) ω ω,ag i]
  exact ax (λ_=>af (XD N hN c hm hl ho _) λx hx=>az ⟨ω,ω⟩ (af (br N hN (G.at hc.1 _).2.2.1) λr h=>af (lV N hN ω ω hx h) λy hy=>af (ld N hN ω ht (Bg.mono hy ω)) λz hz=>hr z hz)) λ_=>ω
 ·exact ax (λ_=>ω) λ_=>an (Bg.mono ht ω)
theorem anw{m:Nat}{l:aC}(h:L3 m l)(a:Int):G m (.slice hZ) (posOf l a):=by
 refine⟨ca (Uq a l) h.1,λy hy=> ?_⟩
 unfold posOf at hy
 split at hy
 ·obtain⟨x,hx,_,e⟩:=mI hy
  rw[e];exact⟨(h.2 x hx).2.1,(h.2 x hx).2.2.1,trivial⟩
 ·nomatch hy
theorem Oo(hN:200000≤N){l:aC}{m:Nat}(hm:m≤50000)(h:L3 m l)(a:Int):Ok (G m (.slice hZ)) (yW N l a):=nK (Xn N (ca h.1 ω) hN a) (anw h a)
theorem Ha(hN:4000000≤N){c:ae}{b:aq}{l:bC}{m:Nat}(h2:200≤m)(hm:m≤40000)(hc:G m aA c)(hb:G m aL b)(hl:l.length≤1000)(a:Int):Ok (Bg 60000) (XE N c b a l):=by
 have ho:=hb.2.2.2.2.2.1.1
 unfold XE
 refine aE (by rw[bY];omega) ?_
 dsimp only
 rw[cM]
 exact aE ω (af (Oo N ω ω hb.2.2.2.1 a) λr h=>af (G9 N ω (by rw[aX];omega) a) λo h'=>af (On N hN ω hc h (G.mono ω h')) λx hx=>an hx)
end VM
end
