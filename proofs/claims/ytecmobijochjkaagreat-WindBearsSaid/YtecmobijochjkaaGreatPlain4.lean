/- A part of the proof of WindBears of layer 21: what the functions compute, in plain words. -/
import Derived.Test.YtecmobijochjkaaGreatPlain3
set_option linter.all false
section
namespace VM
open Go VM.F
def F8(n:Nat)(f:Nat→Int):List Int:=(List.range n).map f
theorem gL(n:Nat)(f:Nat→Int):(F8 n f).length=n:=by unfold F8;rw[cy,vU]
theorem gH{n:Nat}{f:Nat→Int}{i:Nat}(h:i<n):(F8 n f).getD i 0=f i:=by
 unfold F8
 rw[aU,pZ,List.getElem?_range h];rfl
theorem KO(n:Nat)(f:Nat→Int)(i:Nat):(F8 n f).getD i 0=if i<n then f i else 0:=by
 by_cases h:i<n
 ·rw[aj h,gH h]
 ·rw[ah h,uO _ (by rw[gL];omega)]
theorem aaz{n:Nat}{f:Nat→Int}(h: ∀i,i<n→0≤f i):Pos (F8 n f):=λx hx=>by
 obtain⟨i,hi,rfl⟩:=cD.1 hx
 exact h i (qN.1 hi)
theorem sP{l:List Int}(h: ∀i,i<l.length→0≤l.getD i 0):Pos l:=λx hx=>by
 obtain⟨i,hi,rfl⟩:=qF.1 hx
 have:=h i hi
 rwa [aU,bl hi]at this
theorem xQ: ∀{a b:List Int},a.length=b.length→(∀i,i<a.length→a.getD i 0≤b.getD i 0)→a.sum≤b.sum
 |[],[],_,_=>fJ _
 |[],_::_,h,_=>nomatch h
 |_::_,[],h,_=>nomatch h
 |x::a,y::b,h,h1=>by
  have:=xQ (a:=a) (b:=b) (by simpa using h) (λi hi=>by have:=h1 (i+1) (by simpa using hi);simpa using this)
  have h2:x≤y:=by have:=h1 0 (by simp);simpa using this
  rw[cz,cz];omega
theorem F9: ∀{a b c:List Int},a.length=b.length→a.length=c.length→(∀i,i<a.length→a.getD i 0=b.getD i 0+c.getD i 0)→a.sum=b.sum+c.sum
 |[],[],[],_,_,_=>rfl
 |[],_::_,_,h,_,_=>nomatch h
 |[],[],_::_,_,h,_=>nomatch h
 |_::_,[],_,h,_,_=>nomatch h
 |_::_,_::_,[],_,h,_=>nomatch h
 |x::a,y::b,z::c,h,h',h1=>by
  have:=F9 (a:=a) (b:=b) (c:=c) (by simpa using h) (by simpa using h') (λi hi=>by have:=h1 (i+1) (by simpa using hi);simpa using this)
  have h2:x=y+z:=by have:=h1 0 (by simp);simpa using this
  rw[cz,cz,cz];omega
theorem xb: ∀{a:List Int},(∀i,i<a.length→a.getD i 0=0)→a.sum=0
 |[],_=>rfl
 |x::a,h=>by
  have:=xb (a:=a) (λi hi=>by have:=h (i+1) (by simpa using hi);simpa using this)
  have h2:x=0:=by have:=h 0 (by simp);simpa using this
  rw[cz];omega
def cH(w caps out:List Int):List Int:=F8 w.length λi=>if out.getD i 0<caps.getD i 0 then w.getD i 0 else 0
def fy(parts caps out:List Int):List Int:=F8 out.length λi=>min (parts.getD i 0) (caps.getD i 0-out.getD i 0)
def xc(out g:List Int):List Int:=F8 out.length λi=>out.getD i 0+g.getD i 0
def u7(w caps:List Int):Nat→List Int→Int→List Int×Int
 |0,out,left=>(out,left)
 |f+1,out,left=>if left=0∨(cH w caps out).sum=0 then(out,left)else
  u7 w caps f (xc out (fy (bR left (cH w caps out)) caps out)) (left-(fy (bR left (cH w caps out)) caps out).sum)
structure Sx(t:Int)(w caps out:List Int)(left:Int):Prop where
 n:w.length≤64
 l1:caps.length=w.length
 l2:out.length=w.length
 pw:Pos w
 sw:w.sum<9223372036854775808
 pc: ∀i,0≤caps.getD i 0∧caps.getD i 0<9223372036854775808
 po: ∀i,0≤out.getD i 0
 le: ∀i,i<w.length→out.getD i 0≤caps.getD i 0
 z: ∀i,w.getD i 0=0→out.getD i 0=0
 l:0≤left
 t1:t<9223372036854775808
 s:out.sum+left=t
theorem iS(w caps out:List Int):(cH w caps out).length=w.length:=gL ..
theorem rB{w caps out:List Int}(h:Pos w):Pos (cH w caps out):=aaz (λi _=>by split;exact g9 h i;omega)
theorem NH{w caps out:List Int}(h:Pos w):(cH w caps out).sum≤w.sum:=xQ (iS ..) (λi hi=>by
 rw[iS]at hi
 unfold cH;rw[gH hi];split
 ·omega
 ·exact g9 h i)
theorem Xe{t left:Int}{w caps out:List Int}(c:Sx t w caps out left):I1 (cH w caps out):=λx hx=>by
 have h1:=rB (caps:=caps) (out:=out) c.pw
 have h2:=NH (caps:=caps) (out:=out) c.pw
 have h3:=h1 x hx
 obtain⟨i,hi,rfl⟩:=qF.1 hx
 have h4:=ze h1 i
 rw[aU,bl hi]at h4
 simp only[m1]at h4
 have:=c.sw
 omega
theorem NI{t left:Int}{w caps out:List Int}(c:Sx t w caps out left):left≤t:=by
 have:=jO (q:=out) (sP (λi _=>c.po i));have:=c.s;omega
theorem oS{t left:Int}{w caps out:List Int}(c:Sx t w caps out left)(hS:0<(cH w caps out).sum)(i:Nat):
  0≤(fy (bR left (cH w caps out)) caps out).getD i 0∧(fy (bR left (cH w caps out)) caps out).getD i 0≤(bR left (cH w caps out)).getD i 0∧(i<w.length→out.getD i 0+(fy (bR left (cH w caps out)) caps out).getD i 0≤caps.getD i 0):=by
 have h0:=g9 (u6 c.l hS (rB c.pw)) i
 unfold fy
 rw[KO]
 have:=c.l2
 by_cases h:i<out.length
 ·rw[aj h]
  have:=c.le i ω
  omega
 ·rw[ah h];exact⟨ω,h0,λh=>ω⟩
theorem xd(parts caps out:List Int):(fy parts caps out).length=out.length:=gL ..
theorem Ga{t left:Int}{w caps out:List Int}(c:Sx t w caps out left)(hS:0<(cH w caps out).sum):0≤(fy (bR left (cH w caps out)) caps out).sum∧(fy (bR left (cH w caps out)) caps out).sum≤left:=by
 constructor
 ·exact jO (sP (λi _=>(oS c hS i).1))
 ·have:=xQ (a:=fy (bR left (cH w caps out)) caps out) (b:=bR left (cH w caps out)) (by rw[xd,oC,iS,c.l2]) (λi _=>(oS c hS i).2.1)
  rwa [u5 c.l hS]at this
theorem NJ{t left:Int}{w caps out:List Int}(c:Sx t w caps out left)(hS:0<(cH w caps out).sum):Sx t w caps (xc out (fy (bR left (cH w caps out)) caps out)) (left-(fy (bR left (cH w caps out)) caps out).sum):=by
 have p5: ∀i,(xc out (fy (bR left (cH w caps out)) caps out)).getD i 0=if i<out.length then out.getD i 0+(fy (bR left (cH w caps out)) caps out).getD i 0 else 0:=λi=>by unfold xc;rw[KO]
 have gs:=Ga c hS
 refine⟨c.n,c.l1,?_,c.pw,c.sw,c.pc,λi=> ?_,λi hi=> ?_,λi hi=> ?_,ω,c.t1,?_⟩
 ·unfold xc;rw[gL,c.l2]
 ·rw[p5];have:=(oS c hS i).1;have:=c.po i;split<;>omega
 ·rw[p5,aj (by rw[c.l2];exact hi)];exact(oS c hS i).2.2 hi
 ·rw[p5]
  split
  ·have h1:(cH w caps out).getD i 0=0:=by unfold cH;rw[KO,hi];split<;>(try split)<;>rfl
   have h2:=CY c.l hS h1
   have h3:=oS c hS i
   rw[c.z i hi];omega
  ·rfl
 ·have:=F9 (a:=xc out (fy (bR left (cH w caps out)) caps out)) (b:=out) (c:=fy (bR left (cH w caps out)) caps out) (by unfold xc;rw[gL]) (by unfold xc;rw[gL,xd]) (λi hi=>by
   unfold xc at hi;rw[gL]at hi;rw[p5,aj hi])
  have:=c.s
  omega
def opens(w caps out:List Int):Nat:=(List.range w.length).countP λi=>decide (0<w.getD i 0∧out.getD i 0<caps.getD i 0)
theorem I8{p q:Nat→Bool}: ∀{l:List Nat},(∀x∈l,q x=true→p x=true)→(∃x∈l,p x=true∧q x=false)→l.countP q<l.countP p
 |[],_,⟨x,hx,_⟩=>nomatch hx
 |y::l,h,⟨x,hx,h1,h2⟩=>by
  have hle:l.countP q≤l.countP p:=List.countP_mono_left (λz hz=>h z (aY _ hz))
  rw[List.countP_cons,List.countP_cons]
  rcases aX.1 hx with rfl|hx
  ·rw[h1,h2];simp;omega
  ·have:=I8 (p:=p) (q:=q) (l:=l) (λz hz=>h z (aY _ hz)) ⟨x,hx,h1,h2⟩
   have h3:=h y (bg ..)
   cases hq:q y<;>cases hp:p y<;>simp<;>try omega
   rw[hq,hp]at h3;simp at h3
theorem I9{w caps out:List Int}(hw:Pos w)(h:(cH w caps out).sum=0): ∀i,i<w.length→ ¬(0<w.getD i 0∧out.getD i 0<caps.getD i 0):=λi hi ⟨h1,h2⟩=>by
 have:=ze (rB (caps:=caps) (out:=out) hw) i
 unfold cH at this h
 rw[gH hi,aj h2,h]at this
 omega
theorem KP{w caps out:List Int}(hw:Pos w)(h:(cH w caps out).sum≠0): ∃i,i<w.length∧0<w.getD i 0∧out.getD i 0<caps.getD i 0:=by
 by_cases hx: ∃i,i<w.length∧0<w.getD i 0∧out.getD i 0<caps.getD i 0
 ·exact hx
 ·refine absurd (xb (λi hi=> ?_)) h
  rw[iS]at hi
  unfold cH
  rw[gH hi]
  split
  ·rename_i h1
   have:=g9 hw i
   by_cases h2:0<w.getD i 0
   ·exact absurd ⟨i,hi,h2,h1⟩ hx
   ·omega
  ·rfl
theorem Uf{t left:Int}{w caps out:List Int}(c:Sx t w caps out left)(hS:0<(cH w caps out).sum)(hl:left-(fy (bR left (cH w caps out)) caps out).sum≠0):opens w caps (xc out (fy (bR left (cH w caps out)) caps out))<opens w caps out:=by
 have p5: ∀i,i<w.length→(xc out (fy (bR left (cH w caps out)) caps out)).getD i 0=out.getD i 0+(fy (bR left (cH w caps out)) caps out).getD i 0:=λi hi=>by unfold xc;rw[gH (by rw[c.l2];exact hi)]
 refine I8 (λi hi h=> ?_) ?_
 ·rw[qN]at hi
  rw[fg,p5 i hi]at h
  rw[fg]
  have:=(oS c hS i).1
  omega
 ·by_cases hx: ∃i,i<w.length∧(0<w.getD i 0∧out.getD i 0<caps.getD i 0)∧caps.getD i 0≤out.getD i 0+(fy (bR left (cH w caps out)) caps out).getD i 0
  ·obtain⟨i,h1,h2,h3⟩:=hx
   refine⟨i,qN.2 h1,bs h2,cm ?_⟩
   rw[p5 i h1];omega
  ·exfalso
   have h1:bR left (cH w caps out)=fy (bR left (cH w caps out)) caps out:=by
    refine pg (by rw[xd,oC,iS,c.l2]) (λi hi=> ?_)
    rw[oC,iS]at hi
    have h2:=oS c hS i
    have h3:=g9 (u6 c.l hS (rB (caps:=caps) (out:=out) c.pw)) i
    by_cases h4:0<w.getD i 0∧out.getD i 0<caps.getD i 0
    ·have h5: ¬caps.getD i 0≤out.getD i 0+(fy (bR left (cH w caps out)) caps out).getD i 0:=λh=>hx ⟨i,hi,h4,h⟩
     have h6:(fy (bR left (cH w caps out)) caps out).getD i 0=min ((bR left (cH w caps out)).getD i 0) (caps.getD i 0-out.getD i 0):=gH (by rw[c.l2];exact hi)
     omega
    ·have h7:(cH w caps out).getD i 0=0:=by
      unfold cH;rw[gH hi]
      have:=g9 c.pw i
      split<;>omega
     have:=CY c.l hS h7
     omega
   rw[←h1,u5 c.l hS]at hl
   omega
theorem Xg(w caps out:List Int):opens w caps out≤w.length:=by
 unfold opens
 have:=List.countP_le_length (p:=λi=>decide (0<w.getD i 0∧out.getD i 0<caps.getD i 0)) (l:=List.range w.length)
 rwa [vU]at this
structure Full(t:Int)(w caps out:List Int)(left:Int):Prop where
 c:Sx t w caps out left
 f:left=0∨ ∀i,i<w.length→ ¬(0<w.getD i 0∧out.getD i 0<caps.getD i 0)
theorem NK{t:Int}{w caps:List Int}: ∀(f:Nat) (out:List Int) (left:Int),Sx t w caps out left→(opens w caps out<f∨left=0)→Full t w caps (u7 w caps f out left).1 (u7 w caps f out left).2
 |0,out,left,c,h=>⟨c,.inl (show left=0 by omega)⟩
 |f+1,out,left,c,h=>by
  unfold u7
  have hS:=jO (rB (caps:=caps) (out:=out) c.pw)
  split
  ·rename_i h1
   exact⟨c,h1.imp id (I9 c.pw)⟩
  ·rename_i h1
   refine NK f _ _ (NJ c ω) ?_
   by_cases h2:left-(fy (bR left (cH w caps out)) caps out).sum=0
   ·exact .inr h2
   ·have:=Uf c ω h2
    exact .inl ω
def BV(out g:List Int)(i:Nat):List Int:=F8 out.length λj=>if j<i then out.getD j 0+g.getD j 0 else out.getD j 0
theorem mid_zero(out g:List Int):BV out g 0=out:=pg (gL ..) (λi hi=>by unfold BV at*;rw[gL]at hi;rw[gH hi,ah ω])
theorem aaA(out g:List Int){n:Nat}(h:out.length≤n):BV out g n=xc out g:=pg (by unfold BV xc;rw[gL,gL]) (λi hi=>by unfold BV xc at*;rw[gL]at hi;rw[gH hi,gH hi,aj ω])
theorem AY(out g:List Int)(i:Nat):(BV out g i).length=out.length:=gL ..
theorem ahZ{out g:List Int}{i:Nat}(h:i<out.length):(BV out g i).getD i 0=out.getD i 0:=by unfold BV;rw[gH h,ah ω]
theorem aaB{out g:List Int}{i:Nat}(h:i<out.length):(BV out g i).set i (out.getD i 0+g.getD i 0)=BV out g (i+1):=pg (by rw[bO,AY,AY]) (λj hj=>by
 rw[bO,AY]at hj
 by_cases yY:i=j
 ·subst yY
  rw[mE _ _ (by rw[AY];exact h)];unfold BV;rw[gH h,aj ω]
 ·rw[getD_set_ne _ _ yY];unfold BV;rw[gH hj,gH hj]
  by_cases h1:j<i
  ·rw[aj h1,aj ω]
  ·rw[ah h1,ah ω])
def sQ(s:List Int)(i:Nat):List Int:=F8 s.length λj=>if j<i then s.getD j 0 else 0
theorem Ug(s:List Int):sQ s 0=List.replicate s.length 0:=pg (by unfold sQ;rw[gL,cU]) (λi hi=>by
 unfold sQ at*;rw[gL]at hi;rw[gH hi,ah ω,aU,El,aj hi];rfl)
theorem Xh(s:List Int):sQ s s.length=s:=pg (gL ..) (λi hi=>by unfold sQ at*;rw[gL]at hi;rw[gH hi,aj hi])
theorem ph(s:List Int)(i:Nat):(sQ s i).length=s.length:=gL ..
theorem Xi{s:List Int}{i:Nat}(h:i<s.length):(sQ s i).set i (s.getD i 0)=sQ s (i+1):=pg (by rw[bO,ph,ph]) (λj hj=>by
 rw[bO,ph]at hj
 by_cases yY:i=j
 ·subst yY
  rw[mE _ _ (by rw[ph];exact h)];unfold sQ;rw[gH h,aj ω]
 ·rw[getD_set_ne _ _ yY];unfold sQ;rw[gH hj,gH hj]
  by_cases h1:j<i
  ·rw[aj h1,aj ω]
  ·rw[ah h1,ah ω])
theorem Ja{s:List Int}{i:Nat}(h:s.getD i 0=0):sQ s i=sQ s (i+1):=pg (by rw[ph,ph]) (λj hj=>by
 rw[ph]at hj
 unfold sQ;rw[gH hj,gH hj]
 by_cases h1:j<i
 ·rw[aj h1,aj ω]
 ·rw[ah h1]
  by_cases h2:j=i
  ·subst h2;rw[aj ω,h]
  ·rw[ah ω])
theorem ah0(x y:Int):mn x y=min x y:=by rw[Ry];split<;>omega
theorem Uh{t left:Int}{w caps out:List Int}(c:Sx t w caps out left)(hS:0<(cH w caps out).sum)(i:Nat):0≤((fy (bR left (cH w caps out)) caps out).take i).sum∧((fy (bR left (cH w caps out)) caps out).take i).sum≤left:=by
 have h:=sP (l:=fy (bR left (cH w caps out)) caps out) (λi _=>(oS c hS i).1)
 have:=CX h i
 have:=Ga c hS
 exact⟨jO (NC h i),ω⟩
theorem Gb(N:Nat)(K:List Int→List Int→List Int→Int→Int→Option (List Int×Int×Int)){t left:Int}{w caps out:List Int}(c:Sx t w caps out left)(hS:0<(cH w caps out).sum)(rd:Int): ∀(m n i:Nat),w.length-i≤m→m<n→i≤w.length→
  eN.IV N K n w caps (BV out (fy (bR left (cH w caps out)) caps out) i) (left-((fy (bR left (cH w caps out)) caps out).take i).sum) rd (bR left (cH w caps out)) (i:Int)=
  K w caps (xc out (fy (bR left (cH w caps out)) caps out)) (left-(fy (bR left (cH w caps out)) caps out).sum) (W .i64 (rd+1))
 |m,0,i,_,hn,_=>ω
 |m,n+1,i,hm,hn,hi=>by
  have n64:=c.n
  have e1:=c.l1
  have e2:=c.l2
  unfold eN.IV eN.FO
  by_cases h:i<w.length
  ·have hc:=c.pc i
   have ho:=c.po i
   have hle:=c.le i h
   have hg:=oS c hS i
   have h6:(fy (bR left (cH w caps out)) caps out).getD i 0=min ((bR left (cH w caps out)).getD i 0) (caps.getD i 0-out.getD i 0):=gH (by rw[c.l2];exact h)
   have ht:=Uh c hS i
   have hl:=NI c
   have vO:=c.t1
   have hgl:(fy (bR left (cH w caps out)) caps out).getD i 0≤left:=by
    have:=ze (sP (l:=fy (bR left (cH w caps out)) caps out) (λi _=>(oS c hS i).1)) i
    have:=Ga c hS
    omega
   dsimp only
   rw[aT ω,aq,a6 ω (by rw[oC,iS];omega),aq,a6 ω ω,aq,a6 ω (by rw[AY];omega),aq,aq,aJ,ahZ ω,ay (x:=caps.getD i 0-out.getD i 0) ω ω,ah0,←h6,
    ay (x:=(i:Int)+1) ω ω,ay (x:=out.getD i 0+_) ω ω,ay (x:=left-_-_) ω ω,aaB ω]
   have:=Gb N K c hS rd (m-1) n (i+1) ω ω ω
   rw[lD _ (by rw[xd];omega),←Int.sub_sub]at this
   exact this
  ·rw[aP ω,av,aaA _ _ ω,jH (by rw[xd];omega)]
def NL(w caps out:List Int)(i:Nat):Prop:= ∃j,j<i∧0<w.getD j 0∧out.getD j 0<caps.getD j 0
theorem u9(N:Nat)(hN:5000000≤N)(K:List Int→List Int→List Int→Int→Int→Option (List Int×Int×Int)){t left:Int}{w caps out:List Int}(c:Sx t w caps out left)(rd:Int): ∀(m n i:Nat) (b:Bool),w.length-i≤m→m<n→i≤w.length→(b=true↔NL w caps out i)→
  eN.mU N K n w caps out left rd (sQ (cH w caps out) i) b (i:Int)=
  if left=0∨(cH w caps out).sum=0 then some (out,left,0)else K w caps (xc out (fy (bR left (cH w caps out)) caps out)) (left-(fy (bR left (cH w caps out)) caps out).sum) (W .i64 (rd+1))
 |m,0,i,b,_,hn,_,_=>ω
 |m,n+1,i,b,hm,hn,hi,hb=>by
  have n64:=c.n
  have e1:=c.l1
  have e2:=c.l2
  unfold eN.mU eN.ns
  by_cases h:i<w.length
  ·have h1:(cH w caps out).getD i 0=if out.getD i 0<caps.getD i 0 then w.getD i 0 else 0:=gH h
   have hw:=g9 c.pw i
   have sD: ¬(0<w.getD i 0∧out.getD i 0<caps.getD i 0)→(b=true↔NL w caps out (i+1)):=λvN=>hb.trans ⟨λ⟨j,hj,h2⟩=>⟨j,ω,h2⟩,λ⟨j,hj,h2⟩=>⟨j,by
    by_cases yY:j=i
    ·subst yY;exact absurd h2 vN
    ·omega,h2⟩⟩
   rw[aT ω,aq,a6 ω ω,aq,aJ]
   by_cases h0:0<w.getD i 0
   ·rw[aT h0,aq,a6 ω ω,aq,a6 ω ω,aq]
    by_cases h2:out.getD i 0<caps.getD i 0
    ·rw[aj h2]at h1
     rw[aT h2,aq,aq,a6 ω (by rw[ph,iS];omega),aq,ay ω ω,←h1,Xi (by rw[iS];exact h)]
     exact u9 N hN K c rd (m-1) n (i+1) true ω ω ω ⟨λ_=>⟨i,ω,h0,h2⟩,λ_=>rfl⟩
    ·rw[ah h2]at h1
     rw[aP ω,av,ay ω ω,Ja h1]
     exact u9 N hN K c rd (m-1) n (i+1) b ω ω ω (sD (λh=>h2 h.2))
   ·have h3:(cH w caps out).getD i 0=0:=by rw[h1];split<;>omega
    rw[aP ω,av,ay ω ω,Ja h3]
    exact u9 N hN K c rd (m-1) n (i+1) b ω ω ω (sD (λh=>h0 h.1))
  ·have Ql:=NI c
   have vO:=c.t1
   have hl0:=c.l
   have nc:i=(cH w caps out).length:=by rw[iS];omega
   have hp:=rB (caps:=caps) (out:=out) c.pw
   have hs:=NH (caps:=caps) (out:=out) c.pw
   have hs0:=jO hp
   have hsw:=c.sw
   have hm:may (cH w caps out)=true:=oR.2 ⟨by rw[iS];omega,hp⟩
   rw[aP ω,av]
   by_cases h4:left=0
   ·rw[dP h4,aq,aj (.inl h4)]
   rw[dX h4,av]
   by_cases h3:(cH w caps out).sum=0
   ·have hbf:b=false:=by
     rw[vW];intro ht
     obtain⟨j,hj,h5⟩:=hb.1 ht
     exact I9 c.pw h3 j ω h5
    rw[aj (.inr h3),hbf];rfl
   ·have hbt:b=true:=hb.2 (by
     obtain⟨j,hj,h5⟩:=KP c.pw h3
     exact⟨j,ω,h5⟩)
    rw[hbt,bt,av,ah ω,nc,Xh,BU N ω ω (Xe c) (by rw[iS];omega),ar]
    unfold rz
    rw[ah (by rw[hm];simp;omega),ah ω,ah h3]
    have:=Gb N K c ω rd w.length N 0 ω ω ω
    rw[mid_zero,oW,iI,EI]at this
    exact this
theorem Jb(N:Nat)(hN:5000000≤N){t:Int}{w caps:List Int}: ∀(f n:Nat) (out:List Int) (left:Int),Sx t w caps out left→f≤w.length+1→f<n→
  eN.l8 N n w caps out left ((w.length+1-f:Nat):Int)=some ((u7 w caps f out left).1,(u7 w caps f out left).2,0)
 |f,0,out,left,c,_,hn=>ω
 |0,n+1,out,left,c,h,hn=>by
  unfold eN.l8 eN.yn
  rw[fu ω];rfl
 |f+1,n+1,out,left,c,h,hn=>by
  have n64:=c.n
  have hl:=c.l
  unfold eN.l8 eN.yn
  rw[fH ω,aq,cO ω ω ω,aq,aJ]
  have:=u9 N hN (eN.l8 N n) c ((w.length+1-(f+1):Nat):Int) w.length N 0 false ω ω ω ⟨(λh=>nomatch h),λ⟨j,hj,_⟩=>ω⟩
  rw[Ug,iS]at this
  refine Eq.trans this ?_
  have hS:=jO (rB (caps:=caps) (out:=out) c.pw)
  unfold u7
  by_cases h1:left=0∨(cH w caps out).sum=0
  ·rw[aj h1,aj h1]
  ·rw[ah h1,ah h1,ay ω ω,show(((w.length+1-(f+1):Nat):Int)+1)=((w.length+1-f:Nat):Int)by omega]
   exact Jb N hN f n _ _ (NJ c ω) ω ω
def sR(t:Int)(w caps:List Int):List Int×Int×Int:=
 if t<0∨may w=false∨caps.length≠w.length∨may caps=false then([],0,1)else if 9223372036854775808≤w.sum then([],0,2)
 else((u7 w caps (w.length+1) (List.replicate w.length 0) t).1,(u7 w caps (w.length+1) (List.replicate w.length 0) t).2,0)
theorem qc(n i:Nat):(List.replicate n (0:Int)).getD i 0=0:=by
 rw[aU,El];split<;>rfl
theorem Jc{t:Int}{w caps:List Int}(ht:0≤t)(vO:t<9223372036854775808)(hw:may w=true)(hc:may caps=true)(hl:caps.length=w.length)(hi:I1 caps)(hs:w.sum<9223372036854775808):Sx t w caps (List.replicate w.length 0) t:=by
 obtain⟨h1,h2⟩:=oR.1 hw
 obtain⟨h3,h4⟩:=oR.1 hc
 refine⟨h1,hl,cU ..,h2,hs,λi=>⟨g9 h4 i,(tN hi i).2⟩,λi=>by rw[qc];omega,λi _=>by rw[qc];exact g9 h4 i,λi _=>qc ..,ht,vO,?_⟩
 rw[xb (λi _=>qc ..)];omega
theorem Gc(N:Nat)(hN:5000000≤N){t:Int}{w caps:List Int}(vO:t<9223372036854775808)(hw:I1 w)(hc:I1 caps)(hl:w.length≤1000000):eN N t w caps=some (sR t w caps):=by
 unfold eN eN.b sR
 rw[F0 N ω,ar]
 by_cases h1:t<0
 ·rw[bs h1,Bool.true_or,aq,aj (.inl h1)]
 rw[cm h1,tv]
 cases h2:may w
 ·rw[c3,aq,aj (.inr (.inl rfl))]
 rw[bt,av]
 by_cases h3:caps.length=w.length
 case neg=>rw[dX ω,c3,aq,aj (.inr (.inr (.inl h3)))]
 rw[dP ω,bt,av,F0 N ω,ar]
 cases h4:may caps
 ·rw[aj (.inr (.inr (.inr rfl)))];rfl
 have hp:=jO (oR.1 h2).2
 rw[show(decide ((0:Int)<0)|| !true)=false from rfl,av,y6 N ω hw hl,ar,ri,ar,ah (by simp;omega)]
 by_cases h5:9223372036854775808≤w.sum
 ·rw[aj h5];unfold BG;rw[ah ω];rfl
 rw[ah h5,KN ω ω,bt,av,cO ω ω ω,aq,aJ]
 have nV:=(oR.1 h2).1
 have:=Jb N hN (w.length+1) N _ _ (Jc ω vO h2 h4 h3 hc ω) ω ω
 rw[tA]at this
 exact this
end VM
end
section
namespace VM
open Go VM.F
theorem qz{a b:Int}: ∀{l:au},s7 (l.map keyOf)→gu a b l=bZ a b l
 |[],_=>rfl
 |x::t,h=>by
  obtain⟨h1,h2⟩:=dZ.1 h
  rw[g8,eX,←qz h2]
  by_cases e1:x.1=a
  ·by_cases e2:x.2.1=b
   ·have hz:bZ a b t=0:=kt λy hy e=>by
     have hk:=h1 (keyOf y) (eS hy)
     have he:keyOf y=keyOf x:=iJ (e.1.trans e1.symm) (e.2.trans e2.symm)
     rw[he]at hk
     exact oQ hk
    rw[aj e1,aj e2,aj ⟨e1,e2⟩,qz h2,hz,fY];rfl
   ·rw[aj e1,ah e2,ah (λh=>e2 h.2),m6]
  ·rw[ah e1,ah (λh=>e1 h.1),m6]
def HS(x q:Int):Prop:= ¬((x<0)↔(q<0))
instance(x q:Int):Decidable (HS x q):=by unfold HS;infer_instance
def fP(a q:Int):au→au
 |[]=>[]
 |x::t=>if ¬dw x.1 0∧dw x.2.1 a∧HS (ed x) q then x::fP a q t else fP a q t
theorem rC(a q:Int)(x:dh)(t:au):fP a q (x::t)=if ¬dw x.1 0∧dw x.2.1 a∧HS (ed x) q then x::fP a q t else fP a q t:=rfl
def yK(l:au):List Int:=l.map λx=>x.1
def jj(l:au):List Int:=l.map λx=>((ed x).natAbs:Int)
theorem tY{a q:Int}{x:dh}: ∀{l:au},x∈fP a q l→x∈l∧ ¬dw x.1 0∧dw x.2.1 a
 |[],h=>nomatch h
 |y::t,h=>by
  rw[rC]at h
  by_cases e: ¬dw y.1 0∧dw y.2.1 a∧HS (ed y) q
  ·rw[aj e]at h
   rcases aX.1 h with rfl|h
   ·exact⟨bg ..,e.1,e.2.1⟩
   ·have:=tY h;exact⟨aY _ this.1,this.2⟩
  ·rw[ah e]at h
   have:=tY h;exact⟨aY _ this.1,this.2⟩
theorem Jd(a q:Int): ∀l:au,(fP a q l).length≤l.length
 |[]=>aG _
 |x::t=>by
  have:=Jd a q t
  rw[rC,aR]
  split
  ·rw[aR];omega
  ·omega
theorem NM{v q s h o:Int}{P Q R:Prop} [Decidable P] [Decidable Q] [Decidable R](hR:R↔ ¬((v<0)↔(q<0)))(hq:0<q)(hh:h-o≤s):
  (if P∧Q then v else 0)+h-((if ¬P∧Q∧R then(v.natAbs:Int)else 0)+o)≤(if Q then v else 0)+s:=by
 by_cases hQ:Q<;>by_cases hP:P<;>by_cases hR':R<;>simp only[hP,hQ,hR',and_self,eT,and_false,false_and,true_and,not_true,not_false_iff,gD,eU]<;>(rw[LO]at hR;first|omega|(have h2:=hR.1 hR';omega)|(have h2: ¬ ¬((v<0)↔(q<0)):=λe=>hR' (hR.2 e);omega))
theorem C0{a q:Int}(hq:0<q): ∀l:au,bZ 0 a l-(jj (fP a q l)).sum≤(c6 a l).sum
 |[]=>fJ _
 |x::t=>by
  have ih:=C0 (a:=a) hq t
  have e1:bZ 0 a (x::t)=(if dw x.1 0∧dw x.2.1 a then ed x else 0)+bZ 0 a t:=eX 0 a x t
  have e2:(jj (fP a q (x::t))).sum=(if ¬dw x.1 0∧dw x.2.1 a∧HS (ed x) q then((ed x).natAbs:Int)else 0)+(jj (fP a q t)).sum:=by
   rw[rC]
   split
   ·show(((ed x).natAbs:Int)::jj (fP a q t)).sum=_
    rw[cz]
   ·omega
  have e3:(c6 a (x::t)).sum=(if dw x.2.1 a then ed x else 0)+(c6 a t).sum:=by
   rw[df]
   by_cases h:x.2.1=a
   ·rw[aj h,aj (show dw x.2.1 a from h),cz]
   ·rw[ah h,ah (show ¬dw x.2.1 a from h)];omega
  rw[e1,e2,e3]
  exact NM Iff.rfl hq ih
theorem NN{v q s h o:Int}{P Q R:Prop} [Decidable P] [Decidable Q] [Decidable R](hR:R↔ ¬((v<0)↔(q<0)))(hq:q<0)(hh:s≤h+o):
  (if Q then v else 0)+s≤(if P∧Q then v else 0)+h+((if ¬P∧Q∧R then(v.natAbs:Int)else 0)+o):=by
 by_cases hQ:Q<;>by_cases hP:P<;>by_cases hR':R<;>simp only[hP,hQ,hR',and_self,eT,and_false,false_and,true_and,not_true,not_false_iff,gD,eU]<;>(rw[LO]at hR;first|omega|(have h2:=hR.1 hR';omega)|(have h2: ¬ ¬((v<0)↔(q<0)):=λe=>hR' (hR.2 e);omega))
theorem C1{a q:Int}(hq:q<0): ∀l:au,(c6 a l).sum≤bZ 0 a l+(jj (fP a q l)).sum
 |[]=>fJ _
 |x::t=>by
  have ih:=C1 (a:=a) hq t
  have e1:bZ 0 a (x::t)=(if dw x.1 0∧dw x.2.1 a then ed x else 0)+bZ 0 a t:=eX 0 a x t
  have e2:(jj (fP a q (x::t))).sum=(if ¬dw x.1 0∧dw x.2.1 a∧HS (ed x) q then((ed x).natAbs:Int)else 0)+(jj (fP a q t)).sum:=by
   rw[rC]
   split
   ·show(((ed x).natAbs:Int)::jj (fP a q t)).sum=_
    rw[cz]
   ·omega
  have e3:(c6 a (x::t)).sum=(if dw x.2.1 a then ed x else 0)+(c6 a t).sum:=by
   rw[df]
   by_cases h:x.2.1=a
   ·rw[aj h,aj (show dw x.2.1 a from h),cz]
   ·rw[ah h,ah (show ¬dw x.2.1 a from h)];omega
  rw[e1,e2,e3]
  exact NN Iff.rfl hq ih
theorem QN{a q:Int}{l:au}(hs:s7 (l.map keyOf))(hf:(c6 a l).sum=0)(hq:gu 0 a l=q)(h0:q≠0):(q.natAbs:Int)≤(jj (fP a q l)).sum:=by
 rw[qz hs]at hq
 by_cases h:0<q
 ·have:=C0 (a:=a) h l
  rw[hf,hq]at this;omega
 ·have:=C1 (a:=a) (q:=q) ω l
  rw[hf,hq]at this;omega
theorem Xj{t left:Int}{w out:List Int}(f:Full t w w out left)(h:t≤w.sum):left=0:=by
 have c:=f.c
 rcases f.f with e|e
 ·exact e
 ·have Y6:w.sum≤out.sum:=xQ (by rw[c.l2]) λi hi=>by
   have h1:=e i hi
   have h2:=g9 c.pw i
   have h3:=c.po i
   by_cases h4:0<w.getD i 0
   ·have: ¬out.getD i 0<w.getD i 0:=λh5=>h1 ⟨h4,h5⟩
    omega
   ·omega
  have:=c.s
  have:=c.l
  omega
def sg(q x:Int):Int:=if q<0 then 0-x else x
def zc(a q:Int):List (Int×Int)→au
 |[]=>[]
 |p::t=>if sg q p.1=0 then zc a q t else(p.2,(a,(sg q p.1,())))::zc a q t
theorem D9(a q:Int)(p:Int×Int)(t:List (Int×Int)):zc a q (p::t)=if sg q p.1=0 then zc a q t else(p.2,(a,(sg q p.1,())))::zc a q t:=rfl
def jP(l:au)(a q:Int):List Int×Int×Int:=sR (q.natAbs:Int) (jj (fP a q l)) (jj (fP a q l))
def aaC(l:au)(a q:Int):au:=((0:Int),(a,((0-q:Int),())))::zc a q ((jP l a q).1.zip (yK (fP a q l)))
def vb(c:ae)(b:an)(a:Int):au×Int:=
 if dx c b then(if a<0 then([],3)else if(c.1.length:Int)≤a then([],3)else if dN b.2.2.2.1 0 a=0 then([],0)else
  if(jP b.2.2.2.1 a (dN b.2.2.2.1 0 a)).2.2=0 then(aaC b.2.2.2.1 a (dN b.2.2.2.1 0 a),0)else([],(jP b.2.2.2.1 a (dN b.2.2.2.1 0 a)).2.2))else([],1)
theorem Gd{t:Int}{w caps:List Int}(vO:t<9223372036854775808)(hc:I1 caps)(hx:(sR t w caps).2.2=0):Full t w caps (sR t w caps).1 (sR t w caps).2.1:=by
 unfold sR at*
 by_cases h1:t<0∨may w=false∨caps.length≠w.length∨may caps=false
 ·rw[aj h1]at hx;exact absurd hx δ
 ·rw[ah h1]at hx ⊢
  by_cases h2:9223372036854775808≤w.sum
  ·rw[aj h2]at hx;exact absurd hx δ
  ·rw[ah h2]
   have h3:may w=true:=by cases h:may w<;>simp_all
   have h4:may caps=true:=by cases h:may caps<;>simp_all
   have h5:caps.length=w.length:=LY λh=>h1 (Or.inr (Or.inr (Or.inl h)))
   exact NK _ _ _ (Jc ω vO h3 h4 h5 hc ω) (Or.inl (by have:=Xg w caps (List.replicate w.length 0);omega))
theorem BW{l:au}(h: ∀x∈l,aD (ed x)∧p8 (ed x))(a q:Int):I1 (jj (fP a q l)):=λz hz=>by
 obtain⟨x,hx,rfl⟩:=cD.1 hz
 have:=h x (tY hx).1
 have g: ∀v:Int,aD v∧p8 v→ -9223372036854775808≤(v.natAbs:Int)∧(v.natAbs:Int)<9223372036854775808:=λv hv=>by unfold aD p8 at hv;omega
 exact g _ this
theorem Xk{out accs:List Int}{i:Nat}(h1:i<out.length)(h2:i<accs.length):(out.zip accs).getD i (0,0)=(out.getD i 0,accs.getD i 0):=by
 rw[aU,bl (by rw[wa];omega),List.getElem_zip,aU,bl h1,aU,bl h2];rfl
end VM
end
section
namespace VM
open Go VM.F
end VM
end
section
namespace VM
open Go VM.F
theorem KQ{c:ae}{b:an}(h:dx c b=true): ∀x∈b.2.2.2.1,qb x.2.1 c.1.length:=λx hx=>by
 have hk:=(eF h).2
 have h0:=(dC hk).2 x hx
 unfold dx at h
 simp only[bQ]at h
 have h1:=bz h.2.2.2.2.2.2.2.2.1
 obtain⟨i,hi,e⟩:=gm hx
 have h2:=h1 i hi
 unfold jh at h2
 rw[aU,bl hi]at h2
 simp only[m1,e]at h2
 have g: ∀u v:Int,bG u v→mQ v c.1.length→qb v c.1.length:=λu v h1 h2=>by unfold bG at h1;unfold mQ at h2;unfold qb;omega
 exact g _ _ h0.1 h2.2
end VM
end
section
namespace VM
open Go VM.F
end VM
end
section
namespace VM
open Go VM.F
theorem C2{k:Int}: ∀{i:Nat} {l:aL},nF k i l≠[]→(i:Int)≤(nF k i l).getD 0 0∧(nF k i l).getD 0 0<((i+l.length:Nat):Int)
 |i,[],h=>absurd rfl h
 |i,y::t,h=>by
  rw[AV]at h ⊢
  by_cases e:y.1=k
  ·rw[aj e,aR]
   show(i:Int)≤(i:Int)∧(i:Int)<_
   omega
  ·rw[ah e]at h ⊢
   have:=C2 h
   rw[aR];omega
def amO(c:ae):Int:=c.2.2.2.2.2.2.1
end VM
end
section
namespace VM
open Go VM.F
end VM
end
section
namespace VM
open Go VM.F
end VM
end
section
namespace VM
open Go VM.F
def zIn(z:Int×Int)(n:Nat):Prop:=0≤z.1∧z.1≤1000000000*(n:Int)∧0≤z.2∧z.2≤1000000000*(n:Int)
theorem zIn.mono{z:Int×Int}{n m:Nat}(h:zIn z n)(hm:n≤m):zIn z m:=by unfold zIn at*;omega
end VM
end
section
namespace VM
open Go VM.F
end VM
end
section
namespace VM
open Go VM.F
end VM
end
section
namespace VM
open Go VM.F
end VM
end
section
namespace VM
open Go VM.F
end VM
end
section
namespace VM
open Go VM.F
def qIn(q:Int):Prop:=1≤q∧q≤1000000000
instance(q:Int):Decidable (qIn q):=by unfold qIn;infer_instance
def AZ(a b c d:Int):Prop:=(1≤a∧a≤1099511627776)∧(0≤b∧b<6)∧(c=1∨c=2)∧qIn d
instance(a b c d:Int):Decidable (AZ a b c d):=by unfold AZ;infer_instance
def A0(h:bM):Prop:=AZ h.1 h.2.1 h.2.2.1 h.2.2.2.1
instance(h:bM):Decidable (A0 h):=by unfold A0;infer_instance
theorem xe(N:Nat)(h:bM):aaE N h=some (decide (A0 h)):=by
 unfold aaE
 rw[oa h.2.2.2.1]
 rw[gG,FI,BJ,FH,gG,gG,gG]
 congr 1
 rw[oV,fg]
 unfold A0 AZ qIn
 simp only[bQ,m3,qJ,vV,Em]
 omega
end VM
end
section
namespace VM
open Go VM.F Go.RowKit
def hR:au:=[((1:Int),((0:Int),((-90:Int),()))),((5:Int),((1:Int),((90:Int),())))]
def hS:au:=[((0:Int),((0:Int),((5:Int),()))),((0:Int),((1:Int),((20:Int),()))),((1:Int),((0:Int),((-5:Int),()))),((1:Int),((1:Int),((-20:Int),())))]
def hB:an:=([((1:Int),((1:Int),()))],([((1:Int),((1:Int),((1:Int),((50:Int),()))))],(hR,(hS,([(100:Int),(7:Int)],(dR,()))))))
def hO:bM:=((4:Int),((0:Int),((2:Int),((6:Int),()))))
theorem hW:AN hB:=⟨⟨δ,δ,δ,δ,δ,δ,D8 (l:=hR) δ,D8 (l:=hS) δ⟩,δ,δ⟩
namespace Pure
end Pure
end VM
end
section
namespace VM
open Go VM.F
def Ok{α:Type}(P:α→Prop)(o:Option α):Prop:= ∃r,o=some r∧P r
theorem ak{α:Type}{P:α→Prop}{r:α}(h:P r):Ok P (some r):=⟨r,rfl,h⟩
theorem af{α β:Type}{P:β→Prop}{Q:α→Prop}{o:Option α}{f:α→Option β}(h:Ok Q o)(hf: ∀r,Q r→Ok P (f r)):Ok P (o.bind f):=by
 obtain⟨r,rfl,hr⟩:=h
 exact hf r hr
theorem KR{α:Type}{P Q:α→Prop}{o:Option α}(h:Ok Q o)(hf: ∀r,Q r→P r):Ok P o:=by
 obtain⟨r,e,hr⟩:=h
 exact⟨r,e,hf r hr⟩
theorem nG{α:Type}{P:α→Prop}{o:Option α}{r:α}(h:o=some r)(hr:P r):Ok P o:=⟨r,h,hr⟩
theorem pj{α:Type}{P:α→Prop}{b:Bool}{x y:Option α}(hx:b=true→Ok P x)(hy:b=false→Ok P y):Ok P (cond b x y):=by
 cases b
 ·exact hy rfl
 ·exact hx rfl
theorem bw{α:Type}{P:α→Prop}{b:Bool}{x y:Option α}(hx:b=false→Ok P x)(hy:b=true→Ok P y):Ok P (cond (!b) x y):=by
 cases b
 ·exact hx rfl
 ·exact hy rfl
theorem aw{α:Type}{P:α→Prop}{a b:Int}{x y:Option α}(hx:a<b→Ok P x)(hy:b≤a→Ok P y):Ok P (cond (aZ a b) x y):=by
 rw[cR]
 split
 ·exact hx (by assumption)
 ·exact hy ω
theorem dY{α:Type}{P:α→Prop}{a b:Int}{x y:Option α}(hx:a≤b→Ok P x)(hy:b<a→Ok P y):Ok P (cond (dk a b) x y):=by
 rw[cG]
 split
 ·exact hx (by assumption)
 ·exact hy ω
theorem ok_eq{α:Type}{P:α→Prop}{a b:Int}{x y:Option α}(hx:a=b→Ok P x)(hy:a≠b→Ok P y):Ok P (cond (aO a b) x y):=by
 rw[aN]
 split
 ·exact hx (by assumption)
 ·exact hy (by assumption)
theorem bq{α:Type}{P:α→Prop}{a b:Int}{x y:Option α}(hx:a≠b→Ok P x)(hy:a=b→Ok P y):Ok P (cond (!aO a b) x y):=by
 rw[cond_not];exact ok_eq hy hx
theorem aB{α:Type}{P:α→Prop}{i:Int}{n:Nat}{x y:Option α}(h:0≤i∧i<(n:Int))(hx:Ok P x):Ok P (cond (bb i n) x y):=by
 rw[a6 h.1 h.2];exact hx
theorem aC{α:Type}{P:α→Prop}{n:Nat}{x y:Option α}(h:n<68719476736)(hx:Ok P x):Ok P (cond (small n) x y):=by
 rw[bL h];exact hx
theorem aaF{α:Type}{P:α→Prop}{l c:Int}{x y:Option α}(h:0≤l∧l≤c∧c<68719476736)(hx:Ok P x):Ok P (cond (jZ l c) x y):=by
 rw[cO h.1 h.2.1 h.2.2];exact hx
theorem BX{α:Type}{P:α→Prop}{l h m n:Int}{x y:Option α}(hh:0≤l∧l≤h∧h≤m∧m≤n)(hx:Ok P x):Ok P (cond (ka l h m n) x y):=by
 rw[dG hh.1 hh.2.1 hh.2.2.1 hh.2.2.2];exact hx
theorem iH{σ β:Type}{P:β→Prop}{F:Nat→Int→σ→Option β}{len:Nat}(I:Nat→σ→Prop)
  (hs: ∀n i s,i<len→I i s→(∀s',I (i+1) s'→Ok P (F n ((i+1:Nat):Int) s'))→Ok P (F (n+1) (i:Int) s)) (he: ∀n s,I len s→Ok P (F (n+1) (len:Int) s)):
  ∀m n i s,len-i≤m→m<n→i≤len→I i s→Ok P (F n (i:Int) s)
 |m,0,i,s,_,hn,_,_=>ω
 |m,n+1,i,s,hm,hn,hi,hI=>by
  by_cases h:i<len
  ·exact hs n i s h hI λs' yD=>iH I hs he (m-1) n (i+1) s' ω ω ω yD
  ·have:i=len:=ω
   subst this
   exact he n s hI
theorem bc{σ β:Type}{P:β→Prop}{F:Nat→Int→σ→Option β}{len:Nat}(I:Nat→σ→Prop){N:Nat}{s:σ}(h0:I 0 s)(hN:len<N)
  (hs: ∀n i s,i<len→I i s→(∀s',I (i+1) s'→Ok P (F n ((i+1:Nat):Int) s'))→Ok P (F (n+1) (i:Int) s)) (he: ∀n s,I len s→Ok P (F (n+1) (len:Int) s)):Ok P (F N 0 s):=
 iH I hs he len N 0 s ω hN ω h0
theorem lZ{β:Type}{P:β→Prop}{F:Nat→Int→Option β}{len N:Nat}(hN:len<N)
  (hs: ∀n i,i<len→Ok P (F n ((i+1:Nat):Int))→Ok P (F (n+1) (i:Int))) (he: ∀n,Ok P (F (n+1) (len:Int))):Ok P (F N 0):=
 bc (σ:=Unit) (F:=λn i _=>F n i) (λ_ _=>True) (s:=()) trivial hN (λn i _ h _ hr=>hs n i h (hr () trivial)) λn _ _=>he n
theorem xR{σ β:Type}{P:β→Prop}{F:Nat→Int→σ→Option β}(I:Nat→σ→Prop)
  (hs: ∀n (k:Nat) s,I (k+1) s→(∀s',I k s'→Ok P (F n (k:Int) s'))→Ok P (F (n+1) ((k+1:Nat):Int) s)) (he: ∀n s,I 0 s→Ok P (F (n+1) 0 s)):
  ∀(k n:Nat) s,k<n→I k s→Ok P (F n (k:Int) s)
 |0,0,s,hn,_=>ω
 |0,n+1,s,hn,hI=>he n s hI
 |k+1,0,s,hn,_=>ω
 |k+1,n+1,s,hn,hI=>hs n k s hI λs' yD=>xR I hs he k n s' ω yD
def G(m:Nat):(τ:Ty)→τ.den→Prop
 | .int .i64,x=>aD x
 | .int .u64,x=>0≤x∧x<18446744073709551616
 | .slice e,l=>List.length l≤m∧ ∀x∈(l:List e.den),G m e x
 | .pair a b,x=>G m a x.1∧G m b x.2
 |_,_=>True
theorem G.mono{m n:Nat}(h:m≤n): ∀{τ:Ty} {x:τ.den},G m τ x→G n τ x
 | .int k,x,hx=>by cases k<;>exact hx
 | .slice e,l,hl=>⟨cq hl.1 h,λx hx=>G.mono h (hl.2 x hx)⟩
 | .pair a b,x,hx=>⟨G.mono h hx.1,G.mono h hx.2⟩
 | .bool,_,_=>trivial
 | .str,_,_=>trivial
 | .unit,_,_=>trivial
 | .arr _ _,_,_=>trivial
theorem G.nil{m:Nat}{e:Ty}:G m (.slice e) ([]:List e.den):=⟨bp _,λx hx=>nomatch hx⟩
theorem G.app{m:Nat}{e:Ty}{l:List e.den}{x:e.den}(h:G m (.slice e) l)(hx:G m e x):G (m+1) (.slice e) (l++[x]):=
 ⟨by have:=h.1;rw[aS,aI];omega,λy hy=>by
  rcases ba.1 hy with hy|hy
  ·exact G.mono ω (h.2 y hy)
  ·rw[bV.1 hy];exact G.mono ω hx⟩
theorem G.get{m:Nat}{e:Ty}{l:List e.den}{d:e.den}(h:G m (.slice e) l)(hd:G m e d)(k:Nat):G m e (l.getD k d):=by
 by_cases hk:k<l.length
 ·rw[aU,bl hk];exact h.2 _ (dA hk)
 ·rw[aU,gI ω];exact hd
theorem G.zero(m:Nat): ∀τ:Ty,G m τ τ.zero
 | .int k=>by cases k<;>first|trivial|exact⟨δ,δ⟩
 | .slice _=>G.nil
 | .pair a b=>⟨G.zero m a,G.zero m b⟩
 | .bool=>trivial
 | .str=>trivial
 | .unit=>trivial
 | .arr _ _=>trivial
theorem G.at{m:Nat}{e:Ty}{l:List e.den}(h:G m (.slice e) l)(k:Nat):G m e (l.getD k e.zero):=h.get (G.zero m e) k
theorem G.set{m:Nat}{e:Ty}{l:List e.den}{x:e.den}(h:G m (.slice e) l)(hx:G m e x)(k:Nat):G m (.slice e) (l.set k x):=
 ⟨by rw[bO];exact h.1,λy hy=>by
  rcases xy hy with hy|rfl
  ·exact h.2 y hy
  ·exact hx⟩
theorem fU(x:Int):aD (W .i64 x):=by
 rw[iN];unfold aD;split<;>omega
def Bg(k:Nat)(z:aH):Prop:= ∃v,z=cP v∧Fit v k
theorem Bg.mono{j k:Nat}{z:aH}(h:Bg j z)(hk:j≤k):Bg k z:=by
 obtain⟨v,e,f⟩:=h
 exact⟨v,e,Fit.mono f hk⟩
theorem Bg.zero:Bg 1 (false,(([]:List Int),())):=⟨0,gU.symm,by unfold Fit;decide⟩
theorem br(N:Nat)(hN:4000000≤N){x:Int}(h:aD x):Ok (Bg 2) (iG N x):=nG (cv N ω h.1 h.2) ⟨x,rfl,Fit.i64 h.1 h.2⟩
theorem kT(N:Nat)(hN:4000000≤N){k:Nat}(hk:k≤90000){u v:aH}(hu:Bg k u)(hv:Bg k v):Ok (Bg (k+1)) (xJ N u v):=by
 obtain⟨a,rfl,ha⟩:=hu
 obtain⟨b,rfl,hb⟩:=hv
 exact nG (g5 N hN (Fit.mono ha ω) (Fit.mono hb ω)) ⟨_,rfl,Fit.add ha hb⟩
theorem xS(N:Nat)(hN:4000000≤N){k:Nat}(hk:k≤90000){u v:aH}(hu:Bg k u)(hv:Bg k v):Ok (Bg (k+1)) (Nj N u v):=by
 obtain⟨a,rfl,ha⟩:=hu
 obtain⟨b,rfl,hb⟩:=hv
 exact nG (sH N hN (Fit.mono ha ω) (Fit.mono hb ω)) ⟨_,rfl,by rw[Eu];exact Fit.add ha (Fit.neg hb)⟩
theorem qA(N:Nat)(hN:4000000≤N){k:Nat}(hk:k≤90000){u:aH}(hu:Bg k u):Ok (Bg k) (TO N u):=by
 obtain⟨a,rfl,ha⟩:=hu
 exact nG (jz N hN (Fit.mono ha ω)) ⟨_,rfl,Fit.neg ha⟩
theorem A2(N:Nat)(hN:4000000≤N){k:Nat}(hk:k≤90000){u:aH}(hu:Bg k u):Ok (Bg k) (Vj N u):=by
 obtain⟨a,rfl,ha⟩:=hu
 exact nG (Aq N hN (Fit.mono ha ω)) ⟨_,rfl,Fit.of_le ha ω⟩
theorem lK(N:Nat)(hN:4000000≤N){j k:Nat}(hj:j≤90000)(hk:k≤90000){u v:aH}(hu:Bg j u)(hv:Bg k v):Ok (Bg (j+k)) (jL N u v):=by
 obtain⟨a,rfl,ha⟩:=hu
 obtain⟨b,rfl,hb⟩:=hv
 exact nG (tO N hN (Fit.mono ha hj) (Fit.mono hb hk)) ⟨_,rfl,Fit.mul ha hb⟩
theorem Ea(N:Nat){k:Nat}{u:aH}(hu:Bg k u):Ok (λ_=>True) (R3 N u):=by
 obtain⟨a,rfl,ha⟩:=hu
 exact nG (p7 N a) trivial
theorem pK(N:Nat)(hN:4000000≤N){j k:Nat}(hj:j≤90000)(hk:k≤90000){u v:aH}(hu:Bg j u)(hv:Bg k v):Ok (λ_=>True) (Kt N u v):=by
 obtain⟨a,rfl,ha⟩:=hu
 obtain⟨b,rfl,hb⟩:=hv
 exact nG (BF N hN (Fit.mono ha ω) (Fit.mono hb ω)) trivial
theorem Xl(v:Int):aD (BG v).1:=by
 by_cases h:aD v
 ·rw[nz h];exact h
 ·rw[uV h];unfold aD;decide
theorem xf(N:Nat){k:Nat}{u:aH}(hu:Bg k u):Ok (λr=>aD r.1) (wT N u):=by
 obtain⟨a,rfl,ha⟩:=hu
 exact nG (ri N a) (Xl a)
end VM
end
section
namespace VM
open Go VM.F
abbrev L3(m:Nat)(l:au):Prop:=G m (.slice jv) l
def jV(m:Nat)(p:bE):Prop:=p.length≤m∧ ∀y∈p,Bg 8 y.2.2.1
theorem jV.at{m:Nat}{p:bE}(h:jV m p)(i:Nat):Bg 8 (p.getD i ((0:Int),((0:Int),((false,py),())))).2.2.1:=by
 by_cases hk:i<p.length
 ·rw[aU,bl hk];exact h.2 _ (dA hk)
 ·rw[aU,gI ω];exact Bg.mono Bg.zero δ
theorem jV.nil{m:Nat}:jV m []:=⟨bp _,λx hx=>nomatch hx⟩
theorem jV.app{m n:Nat}{p q:bE}(h:jV m p)(h':jV n q):jV (m+n) (p++q):=
 ⟨by have:=h.1;have:=h'.1;rw[aS];omega,λy hy=>(ba.1 hy).elim (h.2 y) (h'.2 y)⟩
theorem jV.mono{m n:Nat}{p:bE}(h:jV m p)(hm:m≤n):jV n p:=⟨cq h.1 hm,h.2⟩
theorem C3(N:Nat){k:Nat}{u:aH}(hu:Bg k u):Ok (λr=>aD r.1) (Qz N u):=by
 unfold Qz
 refine af (xf N hu) λr h=>bw (λ_=>ak (by unfold aD;decide)) λ_=>ok_eq (λ_=>ak (by unfold aD;decide)) λ_=>ak h
theorem iT{x:Int}(h0: -1000000≤x)(h1:x≤1000000):aD x:=by unfold aD;omega
theorem G3{m:Nat}{a b c:Int}(ha:aD a)(hb:aD b)(hc:aD c):G m jv (a,(b,(c,()))):=⟨ha,hb,hc,trivial⟩
theorem bJ:aD 0:=by unfold aD;decide
theorem Ui(N:Nat)(hN:4000000≤N){x k n:Int}{p:bE}(hx:aD x)(hp:jV 50000 p):Ok (λr=>aD r.1) (nB N x k n p):=by
 have hl:=hp.1
 refine bc (len:=p.length) (F:=λn' i (s:aH×Bool)=>nB.l3 N n' x k n p s.1 s.2 i) (s:=(_,_)) (λi s=>Bg (8+i) s.1) (Bg.mono Bg.zero ω) ω (λn' i s hi hI hr=> ?_) (λn' s hI=> ?_)
 all_goals unfold nB.l3 nB.nT
 ·rw[ay (x:=(i:Int)+1) ω ω,ag i]
  have h1:=hr (s.1,s.2) (Bg.mono hI ω)
  repeat' first|exact h1|refine aB ⟨ω,ω⟩ ?_|refine aw (λ_=> ?_) (λ_=> ?_)|refine ok_eq (λ_=> ?_) (λ_=> ?_)|(exfalso;omega)|exact af (kT N hN ω hI (Bg.mono (hp.at _) ω)) λr h=>hr (r,true) h
 ·refine aw (λ_=>ω) λ_=>bw (λ_=>ak hx) λ_=>af (br N hN hx) λr h=>af (kT N hN ω hI (Bg.mono h ω)) λr h=>af (xf N h) λr h=>ak h
theorem aaG(N:Nat)(hN:4000000≤N){l:au}{p:bE}{m:Nat}(hm:m≤50000)(hl:L3 m l)(hp:jV 50000 p):Ok (λr=>L3 200 r.1) (du N l p):=by
 have He:=hl.1
 refine iH (len:=8) (F:=λn k (s:au×Int)=>du.l4 N n l p s.1 s.2 k) (λi s=>L3 (25*i) s.1∧0≤s.2) (λn i s hi hI hr=> ?_) (λn s hI=> ?_) 8 N 1 (_,_) ω ω ω ⟨G.nil,fJ 0⟩
 all_goals unfold du.l4 du.eK
 ·refine dY (λ_=> ?_) (λ_=>ω)
  refine bc (len:=25) (F:=λn' j (s:au×Int)=>du.l7 N (du.l4 N n) n' l p s.1 s.2 (i:Int) j) (s:=s) (λj s=>L3 (25*i+j) s.1∧0≤s.2) hI ω (λn' j s hj hI eO=> ?_) (λn' s hI=> ?_)
  all_goals unfold du.l7 du.rj
  ·have lW: ∀(k x:Int),0≤k→aD x→Ok (λr=>L3 200 r.1) (du.Sj N (du.l4 N n) (du.l7 N (du.l4 N n) n') l p s.1 k (i:Int) (j:Int) x):=λk x hk hx=>by
    unfold du.Sj du.KC
    rw[ay (x:=(j:Int)+1) ω ω,ag j]
    have hs:=hI.1.1
    refine af (Ui N hN hx hp) λr h=>bw (λ_=>ak G.nil) λ_=>bq (λ_=>aC (by rw[aI];omega) (eO (_,k) ⟨G.app hI.1 (G3 (iT ω ω) (iT ω ω) h),hk⟩)) λ_=>eO (s.1,k) ⟨G.mono ω hI.1,hk⟩
   have h0:=lW s.2 0 hI.2 bJ
   have TJ:=hI.2
   repeat' first|exact h0|refine aB ⟨ω,ω⟩ ?_|refine aw (λ_=> ?_) (λ_=> ?_)|refine dY (λ_=> ?_) (λ_=> ?_)|refine ok_eq (λ_=> ?_) (λ_=> ?_)|(exfalso;omega)|exact lW _ _ (by rw[ay (x:=s.2+1) ω ω];omega) (G.at hl _).2.2.1
  ·rw[ay (x:=(i:Int)+1) ω ω,ag i]
   exact dY (λ_=>ω) λ_=>hr s ⟨G.mono ω hI.1,hI.2⟩
 ·exact dY (λ_=>ω) λ_=>ak (G.mono δ hI.1)
theorem QO(N:Nat)(hN:4000000≤N){l t:au}{m:Nat}(hm:m≤50000)(hl:L3 m l)(ht:L3 50000 t):Ok (λr=>L3 200 r.1) (cw N l t):=by
 have He:=hl.1
 have htl:=ht.1
 refine bc (len:=25) (F:=λn k (s:au×Int)=>cw.l4 N n l t s.1 s.2 k) (s:=(_,_)) (λi s=>L3 (6*i) s.1∧0≤s.2) ⟨G.nil,fJ 0⟩ ω (λn i s hi hI hr=> ?_) (λn s hI=> ?_)
 all_goals unfold cw.l4 cw.eK
 ·refine dY (λ_=> ?_) (λ_=>ω)
  refine bc (len:=6) (F:=λn' j (s:au×Int)=>cw.l7 N (cw.l4 N n) n' l t s.1 s.2 (i:Int) j) (s:=s) (λj s=>L3 (6*i+j) s.1∧0≤s.2) hI ω (λn' j s hj hI eO=> ?_) (λn' s hI=> ?_)
  all_goals unfold cw.l7 cw.rj
  ·have lW: ∀(k x:Int),0≤k→aD x→Ok (λr=>L3 200 r.1) (cw.Sj N (cw.l4 N n) (cw.l7 N (cw.l4 N n) n') l t s.1 k (i:Int) (j:Int) x false):=λk x hk hx=>by
    unfold cw.Sj cw.KC
    have hs:=hI.1.1
    have Aa: ∀y:Int,aD y→Ok (λr=>L3 200 r.1) (cond (!aO y 0) (cond (small (s.1.length+[(((i:Int),((j:Int),(y,()))):dh)].length)) (cw.l7 N (cw.l4 N n) n' l t (s.1++[((i:Int),((j:Int),(y,())))]) k (i:Int) (W .i64 ((j:Int)+1))) none) (cw.l7 N (cw.l4 N n) n' l t s.1 k (i:Int) (W .i64 ((j:Int)+1)))):=λy hy=>by
     rw[ay (x:=(j:Int)+1) ω ω,ag j]
     exact bq (λ_=>aC (by rw[aI];omega) (eO (_,k) ⟨G.app hI.1 (G3 (iT ω ω) (iT ω ω) hy),hk⟩)) λ_=>eO (s.1,k) ⟨G.mono ω hI.1,hk⟩
    refine bc (len:=t.length) (F:=λEb u (z:aH×Bool)=>cw.IP N (cw.l4 N n) (cw.l7 N (cw.l4 N n) n') Eb l t s.1 k (i:Int) (j:Int) x z.2 z.1 u) (s:=(_,_)) (λu z=>Bg (3+u) z.1) (Bg.mono Bg.zero ω) ω (λEb u z hu hz Xm=> ?_) (λEb z hz=> ?_)
    all_goals unfold cw.IP cw.HO
    ·rw[ay (x:=(u:Int)+1) ω ω,ag u]
     have h1:=Xm (z.1,z.2) (Bg.mono hz ω)
     repeat' first|exact h1|refine aB ⟨ω,ω⟩ ?_|refine aw (λ_=> ?_) (λ_=> ?_)|refine ok_eq (λ_=> ?_) (λ_=> ?_)|(exfalso;omega)|exact af (br N hN (G.at ht _).2.2.1) λr h=>af (kT N hN ω hz (Bg.mono h ω)) λr h=>Xm (r,true) h
    ·exact aw (λ_=>ω) λ_=>pj (λ_=>af (br N hN hx) λr h=>af (kT N hN ω hz (Bg.mono h ω)) λr h=>af (C3 N h) λr h=>bw (λ_=>ak G.nil) λ_=>Aa _ h) λ_=>Aa _ hx
   have h0:=lW s.2 0 hI.2 bJ
   have TJ:=hI.2
   repeat' first|exact h0|refine aB ⟨ω,ω⟩ ?_|refine aw (λ_=> ?_) (λ_=> ?_)|refine dY (λ_=> ?_) (λ_=> ?_)|refine ok_eq (λ_=> ?_) (λ_=> ?_)|(exfalso;omega)|exact lW _ _ (by rw[ay (x:=s.2+1) ω ω];omega) (G.at hl _).2.2.1
  ·rw[ay (x:=(i:Int)+1) ω ω,ag i]
   exact aw (λ_=>ω) λ_=>hr s ⟨G.mono ω hI.1,hI.2⟩
 ·exact dY (λ_=>ω) λ_=>ak (G.mono δ hI.1)
theorem G.iU{m:Nat}:G m aK (cn,(c9,(bH,(bH,(dB,(dR,())))))):=G.zero m aK
theorem sS(N:Nat)(hN:4000000≤N){b:an}{s:au}{p:bE}{m:Nat}(h2:200≤m)(hm:m≤50000)(hb:G m aK b)(hs:L3 50000 s)(hp:jV 50000 p):Ok (λr=>G m aK r.1) (yq N b s p):=by
 unfold yq
 exact af (QO N hN hm hb.2.2.2.1 hs) λr h=>bw (λ_=>ak G.iU) λ_=>af (aaG N hN hm hb.2.2.1 hp) λr' h'=>bw (λ_=>ak G.iU) λ_=>ak ⟨hb.1,hb.2.1,G.mono h2 h',G.mono h2 h,hb.2.2.2.2⟩
end VM
end
section
namespace VM
open Go VM.F
theorem bo{α β:Type}{P:β→Prop}{o:Option α}{r:α}{f:α→Option β}(h:o=some r)(hf:Ok P (f r)):Ok P (o.bind f):=by rw[h];exact hf
theorem G.wf{m:Nat}(hm:m≤50000){b:an}(h:G m aK b):AN b:=by
 obtain⟨h1,h2,h3,h4,h5,h6,_⟩:=h
 exact⟨⟨cq h1.1 ω,cq h2.1 ω,cq h3.1 ω,cq h4.1 ω,cq h5.1 ω,cq h6.1 ω,λx hx=>(h3.2 x hx).2.2.1,λx hx=>(h4.2 x hx).2.2.1⟩,cq h3.1 ω,cq h4.1 ω⟩
theorem dH(N:Nat)(hN:5000000≤N){c:ae}{b:an}{m:Nat}(hm:m≤50000)(h:G m aK b):gb N c b=some (dx c b):=AA N hN (G.wf hm h).w
theorem aaH{x:Int}(h:ji x):aD x:=by unfold ji at h;unfold aD;omega
theorem HT(N:Nat)(hN:4000000≤N)(t:ta)(p:Int):Ok (λr=>jV 2 r.1) (QH N t p):=by
 unfold QH
 refine bo (xP N t) (bw (λ_=>ak jV.nil) λht=>bo (iP N p) (bw (λ_=>ak jV.nil) λ_=>af (br N hN (fU _)) λa ha=>af (br N hN ?_) λq hq=>af (lK N hN ω ω ha hq) λx hx=>af (Ea N hx) λ_ _=>ok_eq (λ_=>ak jV.nil) λ_=> ?_))
 ·have:=bz ht
  unfold nD ky at this
  exact fI δ this.2.2.2.2.1.1 |> λh=>⟨h,qI this.2.2.2.2.1.2 δ⟩
 ·unfold KJ
  have hr: ∀a:Int,Ok (λ_=>True) (cond (aO a 0) (some ((2:Int),(0:Int))) (some ((5:Int),a))):=λa=>ok_eq (λ_=>ak trivial) λ_=>ak trivial
  refine af (hr _) λ_ _=>af (hr _) λ_ _=>af (qA N hN ω hx) λy hy=>ak ⟨aG 2,λz hz=> ?_⟩
  rcases aX.1 hz with rfl|hz
  ·exact Bg.mono hx ω
  ·rw[bV.1 hz];exact Bg.mono hy ω
theorem NO(N:Nat)(hN:200000≤N){b:an}{m:Nat}(hm:m≤50000)(h:G m aK b)(id:Int):Ok (λ_=>True) (Kz N b id):=nG (tT N b (G.wf hm h).w.a hN id) trivial
theorem Je(N:Nat)(hN:5000000≤N)(c:ae){b:an}{l:bK}{m:Nat}(h2:200≤m)(hm:m≤50000)(hb:G m aK b):Ok (λr=>G m aK r.1) (gC N c b l):=by
 unfold gC gC.b
 refine bo (dH N hN hm hb) (bw (λ_=>ak G.iU) λhB=>aw (λ_=>ak G.iU) λhl=> ?_)
 obtain⟨hp,_⟩:=ir hB
 refine bc (len:=l.length) (F:=λn i (_:Unit)=>gC.l4 N n l c b (cn,(c9,(bH,(bH,(dB,(dR,())))))) i) (s:=()) (λi _=> ∀j,j<i→nD (l.getD j mL)) (λj hj=>ω) ω (λn i _ hi hI hr=> ?_) (λn _ hI=> ?_)
 all_goals unfold gC.l4 gC.eK
 ·rw[ay (x:=(i:Int)+1) ω ω,ag i]
  refine aw (λ_=>aB ⟨ω,ω⟩ (bo (xP N _) (bw (λ_=>ak G.iU) λht=>hr () λj hj=> ?_))) λ_=>ω
  by_cases e:j=i
  ·rw[e];exact bz ht
  ·exact hI j ω
 ·refine aw (λ_=>ω) λ_=> ?_
  refine bc (len:=l.length) (F:=λn i (s:au×bE)=>gC.BY N n l c b (cn,(c9,(bH,(bH,(dB,(dR,())))))) s.1 s.2 i) (s:=(_,_)) (λi s=>L3 (2*i) s.1∧jV (2*i) s.2) ⟨G.nil,jV.nil⟩ ω (λn i s hi hJ hr=> ?_) (λn s hJ=> ?_)
  all_goals unfold gC.BY gC.zg
  ·have ht:=hI i hi
   unfold nD ky at ht
   have Ly:=hJ.1.1
   have TJ:=hJ.2.1
   have g64: ∀x:Int,0≤x∧x≤1000000→aD x:=λx h=>iT ω ω
   dsimp only
   rw[ay (x:=(i:Int)+1) ω ω,ag i,aJ]
   refine aw (λ_=>aB ⟨ω,ω⟩ (af (NO N ω hm hb _) λ_ _=>bw (λ_=>ak G.iU) λ_=>af (NO N ω hm hb _) λ_ _=>bw (λ_=>ak G.iU) λ_=>dY (λ_=>ak G.iU) λfb=>aC ?_ (aB ⟨ht.2.2.2.1.1,ω⟩ (af (HT N ω _ _) λr h=>aC ?_ (hr (_,_) ⟨?_,jV.mono (jV.app hJ.2 h) ω⟩))))) λ_=>ω
   ·rw[aR,aI];omega
   ·have:=h.1;omega
   ·have hq:aD (l.getD i mL).2.2.2.1:=⟨fI δ ht.2.2.2.2.1.1,qI ht.2.2.2.2.1.2 δ⟩
    have nc:aD (l.getD i mL).2.2.1:=g64 _ ⟨ht.2.2.2.1.1,fI (Int.le_of_lt ht.2.2.2.1.2) δ⟩
    have h1:=G.app (G.app hJ.1 (G3 (g64 _ ⟨ht.1.1,fI ht.1.2 δ⟩) nc hq)) (G3 (g64 _ ⟨ht.2.1.1,fI ht.2.1.2 δ⟩) nc (fU (0-(l.getD i mL).2.2.2.1)))
    rw[bu]at h1
    exact G.mono ω h1
  ·exact aw (λ_=>ω) λ_=>af (sS N ω h2 hm hb (G.mono ω hJ.1) (jV.mono hJ.2 ω)) λr h=>ak h
end VM
end
section
namespace VM
open Go VM.F
def HU(k:Nat)(l:pk):Prop:= ∀x∈l,Bg k x
theorem HU.mono{j k:Nat}{l:pk}(h:HU j l)(hk:j≤k):HU k l:=λx hx=>Bg.mono (h x hx) hk
theorem HU.at{k:Nat}{l:pk}(h:HU k l)(h1:1≤k)(i:Nat):Bg k (l.getD i (false,py)):=by
 by_cases hk:i<l.length
 ·rw[aU,bl hk];exact h _ (dA hk)
 ·rw[aU,gI ω];exact Bg.mono Bg.zero h1
theorem HU.set{k:Nat}{l:pk}{x:aH}(h:HU k l)(hx:Bg k x)(i:Nat):HU k (l.set i x):=λy hy=>by
 rcases xy hy with hy|rfl
 ·exact h y hy
 ·exact hx
theorem HU.rep{k n:Nat}(h:1≤k):HU k (List.replicate n (false,py)):=λx hx=>by
 rw[(List.mem_replicate.1 hx).2];exact Bg.mono Bg.zero h
theorem aaI(N:Nat)(hN:5000000≤N)(c:ae){b:an}{m:Nat}(hm:m≤50000)(hb:G m aK b):Ok (λr=>(r.2=0→dx c b=true∧r.1.length=4)∧HU 20 r.1) (rD N c b):=by
 unfold rD rD.b
 have w:=(G.wf hm hb).w
 refine bo (dH N hN hm hb) (bw (λ_=>ak ⟨λh=>absurd h δ,λx hx=>nomatch hx⟩) λhB=>aaF ⟨ω,ω,ω⟩ ?_)
 obtain⟨hp,hpr⟩:=ir hB
 obtain⟨h6,hbk⟩:=CV (u2 hB)
 refine bc (len:=c.1.length) (F:=λn i (s:pk)=>rD.l5 N n c b s i) (λi s=>s.length=4∧HU (8+i) s) ⟨cU ..,HU.rep ω⟩ ω (λn i s hi hI hr=> ?_) (λn s hI=> ?_)
 all_goals unfold rD.l5 rD.eg
 ·have hk:=hbk i hi
  have hl:=hI.1
  rw[ay (x:=(i:Int)+1) ω ω,ag i,aJ]
  have in1: ∀{x y:Option (pk×Int)},Ok (λr=>(r.2=0→dx c b=true∧r.1.length=4)∧HU 20 r.1) x→Ok (λr=>(r.2=0→dx c b=true∧r.1.length=4)∧HU 20 r.1) (cond (bb (c.1.getD i aV).1 s.length) x y):=λh=>aB ⟨hk.1,qI hk.2 (show(3:Int)<(s.length:Int)by omega)⟩ h
  exact aw (λ_=>aB ⟨ω,ω⟩ (in1 (bo (AO N w.s ω 0 (i:Int)) (af (br N ω (QJ w.qs 0 (i:Int))) λa ha=>aB ⟨ω,ω⟩ (af (br N ω (aaH (NA hpr ω))) λp hp=>af (lK N ω ω ω ha hp) λx hx=>af (kT N ω ω (HU.at hI.2 ω _) (Bg.mono hx ω)) λy hy=>in1 (hr _ ⟨by rw[bO];exact hl,HU.set (HU.mono hI.2 ω) hy _⟩)))))) λ_=>ω
 ·exact aw (λ_=>ω) λ_=>ak ⟨λ_=>⟨hB,hI.1⟩,HU.mono hI.2 ω⟩
theorem amQ{v:Int}(h:(BG v).2=true):(BG v).1=v:=by
 by_cases h':aD v
 ·rw[nz h']
 ·rw[uV h']at h;exact nomatch h
def HV(c:ae)(x:bM):Prop:=((λi n:Int=>0≤i∧i<n) x.2.1 c.1.length)∧qIn x.2.2.2.1
theorem Jf(N:Nat)(hN:5000000≤N)(c:ae)(hc:aD (amO c)){b:an}{m:Nat}(hm:m≤50000)(hb:G m aK b)(next:Int):Ok (λr=>G 4 (.slice eA) r.1∧ ∀x∈r.1,HV c x) (iY N c b next):=by
 unfold iY iY.b
 refine af (aaI N hN c hm hb) λz hz=>bq (λ_=>ak ⟨G.nil,λx hx=>nomatch hx⟩) λh0=>aw (λ_=>ak ⟨G.nil,λx hx=>nomatch hx⟩) λh1=>aw (λ_=>ak ⟨G.nil,λx hx=>nomatch hx⟩) λh2=> ?_
 obtain⟨hB,hl4⟩:=hz.1 h0
 obtain⟨hp,hpr⟩:=ir hB
 obtain⟨h6,hbk⟩:=CV (u2 hB)
 refine bc (len:=4) (F:=λn k (s:Int×aL)=>iY.l6 N n s.1 c b z.1 s.2 k) (s:=(_,_)) (λk s=>(G k (.slice eA) s.2∧ ∀x∈s.2,HV c x)∧next≤s.1∧s.1≤next+k) ⟨⟨G.nil,λx hx=>nomatch hx⟩,ω,ω⟩ ω (λn k s hk hI hr=> ?_) (λn s hI=> ?_)
 all_goals unfold iY.l6 iY.uN
 ·have Ly:=hI.1.1.1
  have TJ:=hI.2
  rw[ay (x:=(k:Int)+1) ω ω,ag k]
  have sD:=hr s ⟨⟨G.mono ω hI.1.1,hI.1.2⟩,ω,ω⟩
  obtain⟨a,ea,ha⟩:=HU.at hz.2 ω k
  have ha':Fit (a.natAbs:Int) 20:=Fit.of_le ha ω
  refine aw (λ_=>bo (QI N ω c ω (k:Int)) (aB ⟨ω,ω⟩ (bo (by rw[aJ,ea];exact Aq N ω (ha.mono ω)) (ok_eq (λ_=>sD) λjB=>af (br N ω hc) λv hv=>af (pK N ω ω ω ⟨_,rfl,ha'⟩ hv) λ_ _=>dY (λ_=>sD) λ_=> ?_)))) λ_=>ω
  have amR:iR c (k:Int)≠[]:=λe=>jB (by rw[e];rfl)
  have hh:0≤(iR c (k:Int)).getD 0 0∧(iR c (k:Int)).getD 0 0<(c.1.length:Int):=by
   have h1:=amR
   unfold iR at h1 ⊢
   rw[u2 hB,aj rfl]at h1 ⊢
   have:=C2 h1
   omega
  have hl0:0<(iR c (k:Int)).length:=su.2 amR
  have hpx:=NA hpr (i:=((iR c (k:Int)).getD 0 0).toNat) ω
  have hj: ∀q:Int,0≤q∧q≤1000000000→Ok (λr=>G 4 (.slice eA) r.1∧ ∀x∈r.1,HV c x) (iY.Bl N (iY.l6 N n) s.1 c b z.1 s.2 (k:Int) (iR c (k:Int)) q):=λq hq=>by
   have ar3:aD q:=by unfold aD;omega
   unfold iY.Bl iY.vd
   rw[ay (x:=(k:Int)+1) ω ω,ag k,ay (x:=s.1+1) ω ω]
   have Aa:q≠0→ ∀d:Int,aD d→Ok (λr=>G 4 (.slice eA) r.1∧ ∀x∈r.1,HV c x) (cond (small (s.2.length+[((s.1,((iR c (k:Int)).getD 0 0,(d,(q,())))):bM)].length)) (iY.l6 N n (s.1+1) c b z.1 (s.2++[(s.1,((iR c (k:Int)).getD 0 0,(d,(q,()))))]) ((k+1:Nat):Int)) none):=λxD d hd=>
    aC (by rw[aI];omega) (hr (_,_) ⟨⟨G.app hI.1.1 ⟨by show aD s.1;unfold aD;omega,(show aD ((iR c (k:Int)).getD 0 0)from iT ω ω),hd,ar3,trivial⟩,λx hx=>by
     rcases ba.1 hx with hx|hx
     ·exact hI.1.2 x hx
     ·rw[List.mem_singleton.1 hx];exact⟨hh,show 1≤q∧q≤1000000000 by omega⟩⟩,by dsimp only;omega,by dsimp only;omega⟩)
   exact ok_eq (λ_=>sD) λxD=>aB ⟨ω,ω⟩ (aB ⟨ω,ω⟩ (af (Ea N (HU.at hz.2 ω _)) λ_ _=>aw (λ_=>Aa xD 2 (iT ω ω)) λ_=>Aa xD 1 (iT ω ω)))
  refine aB ⟨ω,ω⟩ (aB ⟨hh.1,by show(iR c (k:Int)).getD 0 0<_;omega⟩ ?_)
  have ar4:=hpx
  unfold ji at ar4
  rw[show(0:Int).toNat=0 from rfl]
  refine bo (cv N ω ω ω) (bo (R6 N hN ω (Fit.mono ha' ω) ((Fit.i64 ω ω).mono ω)) (bo (ri N _) (bw (λ_=>hj _ δ) λht=>aw (λ_=>hj _ δ) λhle=>hj _ ?_)))
  rw[amQ ht]at hle ⊢
  exact⟨tq ω ω,hle⟩
 ·exact aw (λ_=>ω) λ_=>ak hI.1
theorem Uj(N:Nat)(hN:5000000≤N)(c:ae)(hc:aD (amO c)){b:an}{m:Nat}(hm:m≤50000)(hb:G m aK b)(next:Int):Ok (λr=>G 4 (.slice eA) r.1) (iY N c b next):=KR (Jf N hN c hc hm hb next) λ_ h=>h.1
end VM
end
section
namespace VM
open Go VM.F
theorem Ge(N:Nat)(hN:200000≤N){l:bB}(hl:l.length≤100000)(a:Int):Ok (λr=>L3 6 r) (hZ N l a):=by
 unfold hZ hZ.b
 refine bc (len:=6) (F:=λn k (s:au)=>hZ.l3 N n l a s k) (λk s=>L3 k s) G.nil ω (λn k s hk hI hr=> ?_) (λn s hI=> ?_)
 all_goals unfold hZ.l3 hZ.nT
 ·have hs:=hI.1
  refine aw (λ_=> ?_) λ_=>ω
  refine bc (len:=l.length) (F:=λn' i (x:dh)=>hZ.l7 N (hZ.l3 N n) n' l a s (k:Int) x i) (λi x=>G 6 jv x) (G3 (iT ω ω) bJ bJ) ω (λn' i x hi hx eO=> ?_) (λn' x hx=> ?_)
  all_goals unfold hZ.l7 hZ.rj
  ·rw[ay (x:=(i:Int)+1) ω ω,ag i]
   have h1:=eO x hx
   repeat' first|exact h1|refine aB ⟨ω,ω⟩ ?_|refine aw (λ_=> ?_) (λ_=> ?_)|refine bq (λ_=> ?_) (λ_=> ?_)|refine ok_eq (λ_=> ?_) (λ_=> ?_)|(exfalso;omega)|exact eO (_,(_,(_,_))) ⟨hx.1,fU _,hx.2.2.1,trivial⟩|exact eO (_,(_,(_,_))) ⟨hx.1,hx.2.1,fU _,trivial⟩
  ·rw[ay (x:=(k:Int)+1) ω ω,ag k]
   have h1:=hr s (G.mono ω hI)
   have h2:=hr (s++[x]) ⟨by rw[aS,aI];omega,λy hy=>by
    rcases ba.1 hy with hy|hy
    ·exact G.mono ω (hI.2 y hy)
    ·rw[bV.1 hy];exact⟨hx.1,hx.2.1,hx.2.2.1,trivial⟩⟩
   repeat' first|exact h1|exact h2|refine aC (by rw[aI];omega) ?_|refine aw (λ_=> ?_) (λ_=> ?_)|(exfalso;omega)
 ·exact aw (λ_=>ω) λ_=>ak hI
theorem Jg(N:Nat)(hN:200000≤N)(c:ae){l:au}(hl:l.length≤100000):Ok (λ_=>True) (qd N c l):=by
 unfold qd qd.b
 refine bo (nn N ω c) (bw (λ_=>ak trivial) λ_=>lZ (len:=l.length) (F:=λn i=>qd.l5 N n l c 33000000000 i) ω (λn i hi hr=> ?_) λn=> ?_)
 all_goals unfold qd.l5 qd.eg
 ·rw[ay (x:=(i:Int)+1) ω ω,ag i]
  dsimp only
  repeat' first|exact hr|exact ak trivial|refine aB ⟨ω,ω⟩ ?_|refine aB (by rw[ay (x:=(i:Int)-1) ω ω];omega) ?_|refine aw (λ_=> ?_) (λ_=> ?_)|refine dY (λ_=> ?_) (λ_=> ?_)|refine ok_eq (λ_=> ?_) (λ_=> ?_)|(exfalso;omega)
 ·exact aw (λ_=>ω) λ_=>ak trivial
theorem KS{k:Nat}(h:1≤k):Bg k (false,(([]:List Int),())):=Bg.mono Bg.zero h
theorem Xn(N:Nat)(hN:4000000≤N)(c:ae){l:aE}{o:au}{m:Nat}(hm:m≤50000)(hl:G m (.slice jD) l)(ho:L3 m o)(k:Int):Ok (λr=>Bg 3 r.1) (jk N c l o k):=by
 have h1:=hl.1
 have h2:=ho.1
 unfold jk jk.b
 refine bo (w6 N ω c ω) (bw (λ_=>ak (KS ω)) λ_=>af (Jg N ω c ω) λ_ _=>bw (λ_=>ak (KS ω)) λ_=>aw (λ_=>ak (KS ω)) λ_=>dY (λ_=>ak (KS ω)) λ_=> ?_)
 refine bc (len:=l.length) (F:=λn i (q:aH)=>jk.l7 N n l o k (false,(([]:List Int),())) q (false,(([]:List Int),())) (false,(([]:List Int),())) i) (λ_ q=>Bg 2 q) (KS ω) ω (λn i q hi hq hr=> ?_) (λn q hq=> ?_)
 all_goals unfold jk.l7 jk.rj
 ·rw[ay (x:=(i:Int)+1) ω ω,ag i]
  exact aw (λ_=>aB ⟨ω,ω⟩ (ok_eq (λ_=>aB ⟨ω,ω⟩ (af (br N hN (G.at hl _).2.1) λr h=>hr r h)) λ_=>hr q hq)) λ_=>ω
 ·refine aw (λ_=>ω) λ_=> ?_
  refine bc (len:=o.length) (F:=λn i (z:aH×aH)=>jk.mU N n o k (false,(([]:List Int),())) q z.1 z.2 i) (s:=(_,_)) (λ_ z=>Bg 2 z.1∧Bg 2 z.2) ⟨KS ω,KS ω⟩ ω (λn i z hi hz hr=> ?_) (λn z hz=> ?_)
  all_goals unfold jk.mU jk.ns
  ·rw[ay (x:=(i:Int)+1) ω ω,ag i]
   exact aw (λ_=>aB ⟨ω,ω⟩ (ok_eq (λ_=>aB ⟨ω,ω⟩ (af (br N hN (G.at ho _).2.1) λr h=>aB ⟨ω,ω⟩ (af (br N hN (G.at ho _).2.2.1) λr' h'=>hr (r,r') ⟨h,h'⟩))) λ_=>hr z hz)) λ_=>ω
  ·exact aw (λ_=>ω) λ_=>af (kT N hN ω hq hz.1) λx hx=>af (A2 N hN ω hx) λx hx=>af (xS N hN ω hq hz.2) λy hy=>af (A2 N hN ω hy) λy hy=>af (pK N hN ω ω hy hx) λ_ _=>aw (λ_=>ak hy) λ_=>ak hx
theorem NP(N:Nat)(hN:4000000≤N){c:ae}{l:aE}{o:au}{m:Nat}(hm:m≤50000)(hc:G m aA c)(hl:G m (.slice jD) l)(ho:L3 m o):Ok (λr=>Bg 60000 r.1) (qg N c l o):=by
 have h1:=hl.1
 have h2:=ho.1
 have h3:=hc.1.1
 unfold qg qg.b
 refine bo (w6 N ω c ω) (bw (λ_=>ak (KS ω)) λ_=>af (Jg N ω c ω) λ_ _=>bw (λ_=>ak (KS ω)) λ_=> ?_)
 refine bc (len:=c.1.length) (F:=λn i (t:aH)=>qg.l5 N n l o c (false,(([]:List Int),())) t i) (λi t=>Bg (8+i) t) (KS ω) ω (λn i t hi ht hr=> ?_) (λn t ht=> ?_)
 all_goals unfold qg.l5 qg.eg
 ·rw[ay (x:=(i:Int)+1) ω ω,ag i]
  exact aw (λ_=>af (Xn N hN c hm hl ho _) λx hx=>aB ⟨ω,ω⟩ (af (br N hN (G.at hc.1 _).2.2.1) λr h=>af (lK N hN ω ω hx h) λy hy=>af (kT N hN ω ht (Bg.mono hy ω)) λz hz=>hr z hz)) λ_=>ω
 ·exact aw (λ_=>ω) λ_=>ak (Bg.mono ht ω)
theorem amS{m:Nat}{l:au}(h:L3 m l)(a:Int):G m (.slice jD) (posOf l a):=by
 refine⟨cq (BQ a l) h.1,λy hy=> ?_⟩
 unfold posOf at hy
 split at hy
 ·obtain⟨x,hx,_,e⟩:=iq hy
  rw[e];exact⟨(h.2 x hx).2.1,(h.2 x hx).2.2.1,trivial⟩
 ·nomatch hy
theorem NQ(N:Nat)(hN:200000≤N){l:au}{m:Nat}(hm:m≤50000)(h:L3 m l)(a:Int):Ok (G m (.slice jD)) (lH N l a):=nG (QD N (cq h.1 ω) hN a) (amS h a)
theorem Gf(N:Nat)(hN:4000000≤N){c:ae}{b:an}{l:bB}{m:Nat}(h2:200≤m)(hm:m≤40000)(hc:G m aA c)(hb:G m aK b)(hl:l.length≤1000)(a:Int):Ok (Bg 60000) (Xo N c b a l):=by
 have ho:=hb.2.2.2.2.2.1.1
 unfold Xo
 refine aC (by rw[bT];omega) ?_
 dsimp only
 rw[cL]
 exact aC ω (af (NQ N ω ω hb.2.2.2.1 a) λr h=>af (Ge N ω (by rw[aS];omega) a) λo h'=>af (NP N hN ω hc h (G.mono ω h')) λx hx=>ak hx)
end VM
end
section
namespace VM
open Go VM.F
theorem aaK(N:Nat)(hN:4000000≤N){o:gA}{m:Nat}(ho:G m mV o)(a:Int):Ok (λr=>Bg 4 r.1) (aaL N o a):=by
 unfold aaL
 have hw: ∀x:Int,Ok (λr:aH×Int=>Bg 4 r.1) ((iG N o.2.2.2.2.1).bind λr5=>(iG N (W .i64 x)).bind λr6=>(jL N r5 r6).bind λr7=>some (r7,(0:Int))):=λx=>
  af (br N hN ho.2.2.2.2.1) λr h=>af (br N hN (fU _)) λr' h'=>af (lK N hN ω ω h h') λy hy=>ak hy
 exact bo (Aw N o) (bw (λ_=>ak (KS ω)) λ_=>bo (iP N a) (bw (λ_=>ak (KS ω)) λ_=>ok_eq (λ_=>aw (λ_=>ak (KS ω)) λ_=>hw _) λ_=>aw (λ_=>ak (KS ω)) λ_=>hw _))
theorem ah2{m:Nat}{a:aL}(h:G m (.slice eA) a)(id:Int):G m eA (fe a id).1:=by
 unfold fe
 split
 ·have: ∀l:aL,(∀x∈l,G m eA x)→G m eA (tR id l).1:=by
   intro l
   induction l with
   |nil=>intro _;exact G.zero m eA
   |cons x t ih=>
    intro hx
    rw[oq]
    split
    ·exact hx x (bg ..)
    ·exact ih λy hy=>hx y (aY _ hy)
  exact this a h.2
 ·exact G.zero m eA
theorem xT(N:Nat)(hN:200000≤N){a:aL}{m:Nat}(hm:m≤50000)(h:G m (.slice eA) a)(id:Int):Ok (λr=>G m eA r.1) (Vm N a id):=nG (w1 N (cq h.1 ω) hN id) (ah2 h id)
theorem oD(N:Nat)(hN:200000≤N){a:aE}{m:Nat}(hm:m≤50000)(h:G m (.slice jD) a)(id:Int):Ok (λ_=>True) (R9 N a id):=nG (ot N (cq h.1 ω) hN id) trivial
theorem mw(N:Nat)(hN:200000≤N){l:au}{m:Nat}(hm:m≤50000)(h:L3 m l)(a b:Int):Ok aD (s9 N l a b):=nG (s8 N (cq h.1 ω) hN a b) (pd (λx hx=>(h.2 x hx).2.2.1) a b)
theorem Gg(N:Nat)(hN:200000≤N){a:aL}{m:Nat}(hm:m≤50000)(h:G m (.slice eA) a)(id:Int):Ok (λr=>G m eA r.1∧r=fe a id) (Vm N a id):=by
 obtain⟨r,e,hr⟩:=xT N hN hm h id
 exact⟨r,e,hr,oJ (e.symm.trans (w1 N (cq h.1 ω) hN id))⟩
theorem A3(N:Nat)(hN:5000000≤N){c:ae}{b:an}{o:gA}{m:Nat}(h2:200≤m)(hm:m≤40000)(hc:G m aA c)(hb:G m aK b)(ho:G m mV o):Ok (λe=>e=0→rm o∧(fe b.2.1 o.2.1).2=true∧mQ o.2.2.1 c.1.length) (Xp N c b o):=by
 have bad: ∀e:Int,e≠0→Ok (λe:Int=>e=0→rm o∧(fe b.2.1 o.2.1).2=true∧mQ o.2.2.1 c.1.length) (some e):=λe h=>ak λh'=>absurd h' h
 have Ir:=hb.2.2.2.2.2.1.1
 unfold Xp
 refine bo (dH N hN ω hb) (bw (λ_=>bad _ δ) λhB=>bo (Aw N o) (bw (λ_=>bad _ δ) λY0=>af (Gg N ω ω hb.2.1 _) λx ⟨hx,hx2⟩=>bw (λ_=>bad _ δ) λhf=>af (oD N ω ω hb.1 _) λ_ _=>bq (λ_=>bad _ δ) λ_=>dY (λ_=>bad _ δ) λhi=>aC (by rw[bT];omega) ?_))
 have hr:=bz Y0
 unfold rm y8 at hr
 obtain⟨hp,_⟩:=ir hB
 dsimp only
 rw[cL]
 exact aC (by rw[aI];omega) (af (NQ N ω ω hb.2.2.2.1 _) λr h=>af (Ge N ω (by rw[aS,aI];omega) _) λq h'=>af (Xn N ω c ω h (G.mono ω h') _) λt ht=>af (br N ω hx.2.2.2.1) λv hv=>af (pK N ω ω ω ht hv) λ_ _=>aw (λ_=>bad _ δ) λ_=>aB ⟨hr.2.2.1.1,by rw[hp];exact hi⟩ (af (aaK N ω ho _) λe he=>af (mw N ω ω hb.2.2.1 _ _) λg hg=>af (br N ω hg) λy hy=>af (xS N ω ω (Bg.mono hy ω) he) λz hz=>af (Gf N ω h2 hm hc hb (by rw[aI];omega) _) λu hu=>af (pK N ω ω ω hz hu) λ_ _=>aw (λ_=>bad _ δ) λ_=>ak λ_=>⟨bz Y0,by rw[←hx2];exact hf,hi⟩))
theorem Sy(N:Nat)(hN:5000000≤N){c:ae}{b:an}{h:bM}{a q p:Int}{m:Nat}(h2:200≤m)(hm:m≤40000)(hc:G m aA c)(hb:G m aK b)(hh:G m eA h)(ha:aD a)(hq:aD q)(hp:aD p):Ok (λr=>G m aK r.1∧G m eA r.2.1) (pL N c b h a q p):=by
 have ho:G m mV (h.1,(a,(h.2.1,(W .i64 (3-h.2.2.1),(q,(p,())))))):=⟨hh.1,ha,hh.2.1,fU _,hq,hp,trivial⟩
 have dI: ∀e:Int,Ok (λr:an×bM×Int=>G m aK r.1∧G m eA r.2.1) (some ((cn,(c9,(bH,(bH,(dB,(dR,())))))),(aV,e))):=λe=>ak ⟨G.iU,G.zero m eA⟩
 unfold pL pL.b
 have hj: ∀t:ta,Ok (λr=>G m aK r.1∧G m eA r.2.1) (pL.Vn N q c b h (cn,(c9,(bH,(bH,(dB,(dR,())))))) aV t):=λt=>by
  unfold pL.Vn pL.NR
  exact af (Je N hN c h2 ω hb) λr hr=>bq (λ_=>dI _) λ_=>ak ⟨hr,hh.1,hh.2.1,hh.2.2.1,fU _,trivial⟩
 exact bo (dH N hN ω hb) (bw (λ_=>dI _) λ_=>bo (xe N h) (bw (λ_=>dI _) λ_=>aw (λ_=>dI _) λ_=>aw (λ_=>dI _) λ_=>aw (λ_=>dI _) λ_=>aw (λ_=>dI _) λ_=>aw (λ_=>dI _) λ_=>aw (λ_=>dI _) λ_=>aw (λ_=>dI _) λ_=>af (A3 N hN h2 hm hc hb ho) λe _=>bq (λ_=>dI _) λ_=>ok_eq (λ_=>hj _) λ_=>hj _))
end VM
end
