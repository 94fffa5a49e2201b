/- A part of the proof of LotSlices of layer 23: what the functions compute, in plain words. -/
import Derived.Test.YthnjnpjmbabcaaaPlain1
import Derived.Test.YthnjnpjmbabcaaaVm8
import Derived.Test.YthnjnpjmbabcaaaPlain0
set_option linter.all false
open List renaming length→ℓ
section
namespace VM
open Go VM.F
variable(N:Nat)
abbrev Wv:=bF×bF×aX
def BX(a:Int):Prop:=0≤a∧a<6
structure FD(t:aH):Prop where
 len:t.length≤6
 inst: ∀y∈t,BX y.1
 q: ∀y∈t,cD y.2.1∧vV y.2.1
theorem wQ{c:al}{t:aH}(h:g5 c t=true)(wP: ∀y∈t,cD y.2.1):FD t:=by
 unfold g5 at h
 obtain⟨h1,h2⟩:=fb.1 h
 have ju:=bs h1
 have h6:c.1.length≤6:=by
  unfold lQ at h2
  exact(bs (fb.1 h2).1).2
 have get: ∀(i:Nat) (hi:i<t.length),t.getD i cO=t[i]:=λi hi=>by rw[aW,a6 hi];rfl
 have CY: ∀i,i<t.length→lX (t.getD i cO).1 (t.getD i cO).2.1 c.1.length i (t.getD (i-1) cO).1:=ju
 have inc: ∀i,i<t.length→(i:Int)≤(t.getD i cO).1:=by
  intro i
  induction i with
  |zero=>intro hi;exact(CY 0 hi).1
  |succ i ih=>
   intro hi
   have a:=ih ω
   have b:=(CY (i+1) hi).2.2.2.2 ω
   rw[Nat.add_sub_cancel]at b
   have g: ∀x y:Int,(i:Int)≤x→x<y→((i+1:Nat):Int)≤y:=λx y _ _=>ω
   exact g _ _ a b
 refine⟨?_,λy hy=> ?_,λy hy=> ?_⟩
 ·by_cases h0:t.length=0
  ·omega
  ·have a:=inc (t.length-1) ω
   have b:=(CY (t.length-1) ω).2.1
   have g: ∀x:Int,((t.length-1:Nat):Int)≤x→x<(c.1.length:Int)→t.length≤6:=λx _ _=>ω
   exact g _ a b
 ·obtain⟨i,hi,e⟩:=nJ hy
  have:=CY i hi
  rw[get i hi,e]at this
  have g: ∀x:Int,0≤x→x<(c.1.length:Int)→BX x:=λx _ _=>by unfold BX;omega
  exact g _ this.1 this.2.1
 ·obtain⟨i,hi,e⟩:=nJ hy
  have:=CY i hi
  rw[get i hi,e]at this
  exact⟨wP y hy,this.2.2.2.1⟩
structure Jc(z:Wv)(i:Nat):Prop where
 place: ∀x∈z.1,dW x.1 x.2.1
 q: ∀x∈z.1,cD (xD x)∧vV (xD x)
 len:z.1.length≤12*i
 flat: ∀a:Int,(lU a z.1).sum=0
 key: ∀x∈z.2.1,kQ x.1 x.2.1
 qe: ∀x∈z.2.1,cD (xD x)
 Ww:z.2.1.length≤2*i
 zero:(z.2.1.map xD).sum=0
 out:z.2.2.length=i
theorem Jc.nil:Jc ([],[],[]) 0:=⟨λx hx=>(nomatch hx),λx hx=>(nomatch hx),aB _,λa=>rfl,λx hx=>(nomatch hx),λx hx=>(nomatch hx),aB _,rfl,rfl⟩
theorem xJ{c:al}{b:ch}(h:lW c b=true):q7 b.2.2.1=true∧fV b.2.2.2.1=true:=by
 unfold lW at h
 have h1:=(fb.1 (fb.1 h).2).2
 have h2:=fb.1 h1
 have h3:=(fb.1 (fb.1 h2.2).2).1
 refine⟨h2.1,?_⟩
 unfold xG at h3
 exact(fb.1 h3).2
structure Ie(b:ch):Prop where
 w:ra b
 r:b.2.2.1.length≤90000
 s:b.2.2.2.1.length≤90000
end VM
end
section
namespace VM
open Go VM.F
variable(N:Nat)
theorem kS(x:Int):cg x x=true:=bW rfl
theorem K2(x:j2):kW (.pair (.int .i64) (.pair (.int .i64) .unit)) x x=true:=by
 show(cg x.1 x.1&&(cg x.2.1 x.2.1&&true))=true
 rw[kS,kS];rfl
theorem wR{F:Nat→Int→Option Bool}{len:Nat}(hs: ∀n (i:Nat),i<len→F n ((i+1:Nat):Int)=some true→F (n+1) (i:Int)=some true)(he: ∀n,F (n+1) (len:Int)=some true): ∀(m n i:Nat),len-i≤m→m<n→i≤len→F n (i:Int)=some true
 |m,0,i,_,hn,_=>ω
 |m,n+1,i,hm,hn,hi=>by
  by_cases h:i<len
  ·exact hs n i h (wR hs he (m-1) n (i+1) ω ω ω)
  ·have:i=len:=ω
   subst this;exact he n
end VM
end
section
namespace VM
open Go VM.F Go.RowKit
variable(N:Nat)
theorem Ig{l:bF}(h: ∀i,i<l.length→cD (xD (l.getD i eu))):ou l:=λx hx=>by
 obtain⟨i,hi,e⟩:=nJ hx
 have:=h i hi
 rw[aW,a6 hi]at this
 rw[←e];exact this
namespace Pure
end Pure
end VM
end
section
namespace VM
open Go VM.F
variable(N:Nat)
def g6(a:Int):bF→aH
 |[]=>[]
 |x::t=>if x.1=a then(x.2.1,(x.2.2.1,()))::g6 a t else g6 a t
theorem nA(a:Int)(x:zN)(t:bF):g6 a (x::t)=if x.1=a then(x.2.1,(x.2.2.1,()))::g6 a t else g6 a t:=rfl
def posOf(l:bF)(a:Int):aH:=if fV l then g6 a l else []
theorem jk{a:Int}{y:j2}: ∀{l:bF},y∈g6 a l→ ∃x∈l,x.1=a∧y=(x.2.1,(x.2.2.1,()))
 |[],h=>nomatch h
 |x::t,h=>by
  rw[nA]at h
  by_cases e:x.1=a
  ·rw[af e]at h
   rcases bc.1 h with h|h
   ·exact⟨x,ba ..,e,h⟩
   ·obtain⟨x',hx,h'⟩:=jk h
    exact⟨x',a7 _ hx,h'⟩
  ·rw[ag e]at h
   obtain⟨x',hx,h'⟩:=jk h
   exact⟨x',a7 _ hx,h'⟩
theorem FE{l:bF}(h:ou l)(a:Int): ∀y∈posOf l a,cD y.2.1:=λy hy=>by
 unfold posOf at hy
 split at hy
 ·obtain⟨x,hx,_,rfl⟩:=jk hy
  exact h x hx
 ·nomatch hy
theorem Oy{l:bF}(hl:l.length≤100000)(hN:200000≤N)(a:Int):sh N l a=some (posOf l a):=by
 unfold sh sh.b posOf
 rw[uN N hl hN,ak,cond_not]
 have:=uK l eu (λn i s=>sh.l5 N n a s l (l.length:Int) i) (λt s=>some (s++g6 a t)) (λi (s:aH)=>s.length≤i) (λn i s hi hI hr=> ?_) (λn s hI=> ?_) l.length N 0 [] ω ω ω (aB _)
 ·have e:sh.l5 N N a [] l (l.length:Int) 0=some (g6 a l):=this
  rw[e];cases fV l<;>rfl
 ·unfold sh.l5 sh.xE
  rw[aD ω,ah,aU ω ω,ah,aI,aJ (x:=(i:Int)+1) ω ω,an i,bx,bP (by rw[aR];omega),ah,nA]
  split
  ·rw[hr _ (by rw[aQ,aR];omega),bq];rfl
  ·exact hr s ω
 ·unfold sh.l5 sh.xE
  rw[av ω,aj]
  show some s=some (s++[])
  rw[cV]
def nB(c:al)(y:j2):Int:=(c.1.getD y.1.toNat bC).2.2.2.1
def zT(c:al)(l:aH):List Int:=l.map λy=>(y.2.1.natAbs:Int)*nB c y
def kd(c:al)(l:aH):Int:=if g5 c l then(zT c l).sum else 0
def zU(c:al)(l:aH):Int:=if g5 c l then 0 else 1
def qq(a n:Int):Prop:=0≤a∧a<n
structure K3(c:al)(y:j2):Prop where
 place:qq y.1 c.1.length
 size:(y.2.1.natAbs:Int)≤9223372036854775807
 q:cD y.2.1
 K4:0≤nB c y∧nB c y≤1000000000
theorem xK{c:al}{t:aH}(h:g5 c t=true)(wP: ∀y∈t,cD y.2.1): ∀y∈t,K3 c y:=λy hy=>by
 unfold g5 at h
 obtain⟨h1,h2⟩:=fb.1 h
 obtain⟨i,hi,e⟩:=nJ hy
 have a:=bs h1 i hi
 unfold my lX at a
 rw[aW,a6 hi]at a
 simp only[pb,e]at a
 have hp:qq y.1 c.1.length:=⟨a.1,a.2.1⟩
 have cy:y.1.toNat<c.1.length:=by
  have g: ∀x:Int,qq x c.1.length→x.toNat<c.1.length:=λx hx=>by unfold qq at hx;omega
  exact g _ hp
 have hq:=wP y hy
 refine⟨hp,?_,hq,?_⟩
 ·have g: ∀x:Int,cD x→vV x→(x.natAbs:Int)≤9223372036854775807:=λx h1 h2=>by unfold cD at h1;unfold vV at h2;omega
  exact g _ hq a.2.2.2.1
 ·unfold lQ at h2
  have b:=bs (fb.1 (fb.1 h2).2).1 _ cy
  exact b.2.2.2
theorem zV{c:al}{y:j2}(h:K3 c y):0≤(y.2.1.natAbs:Int)*nB c y∧(y.2.1.natAbs:Int)*nB c y≤9223372036854775807000000000:=by
 have:=mul_lt (a:=(y.2.1.natAbs:Int)) (b:=nB c y) (m:=9223372036854775807) (n:=1000000000) ω h.K4.1 h.size h.K4.2
 exact⟨this.1,by have:=this.2;omega⟩
theorem BY{B:Int}(hB:0≤B): ∀{ws:List Int},(∀x∈ws,0≤x∧x≤B)→0≤ws.sum∧ws.sum≤B*(ws.length:Int)
 |[],_=>by simp
 |x::t,h=>by
  have h0:=h x (ba ..)
  have ih:=BY hB (ws:=t) (λy hy=>h y (a7 _ hy))
  rw[fI,aE]
  have e:B*((t.length+1:Nat):Int)=B*(t.length:Int)+B:=by rw[pf,fh];simp
  rw[e]
  omega
theorem Dp{c:al}{t:aH}(h: ∀y∈t,K3 c y): ∀x∈zT c t,0≤x∧x≤9223372036854775807000000000:=λx hx=>by
 obtain⟨y,hy,rfl⟩:=cm.1 hx
 exact zV (h y hy)
theorem uZ{c:al}{t:aH}(wP: ∀y∈t,cD y.2.1):0≤kd c t∧kd c t≤92233720368547758070000000000:=by
 unfold kd
 by_cases h:g5 c t=true
 ·rw[af h]
  have hg:=(wQ h wP).len
  have:=BY ω (Dp (xK h wP))
  have hl:(zT c t).length=t.length:=fG ..
  rw[hl]at this
  omega
 ·rw[ag h];omega
theorem FF{x:Int}(h:0≤x∧x≤92233720368547758070000000000):bN x:=by unfold bN;omega
theorem Ih(hN:2000000≤N)(c:al){t:aH}(hl:t.length≤100000)(wP: ∀y∈t,cD y.2.1):Qs N c t=some (a5 (kd c t),zU c t):=by
 have DI:=uZ (c:=c) wP
 unfold Qs sG sG.b
 rw[BV N ω c hl,ak,cond_not]
 unfold kd zU at*
 by_cases h:g5 c t=true
 ·have hC:=xK h wP
  rw[h,af rfl]at DI
  rw[h,ah,af rfl,af rfl]
  have:=uK t cO (λn i ws=>sG.l5 N n () c cO (ws.map a5) t (t.length:Int) i) (λu ws=>some ((zK (ws++zT c u).sum).1,(0:Int))) (λi (ws:List Int)=>ws.length≤i∧ ∀x∈ws,bN x)
   (λn i ws hi hI hr=> ?_) (λn ws hI=> ?_) t.length N 0 [] ω ω ω ⟨aB _,λx hx=>nomatch hx⟩
  ·have e:sG.l5 N N () c cO [] t (t.length:Int) 0=some ((zK (zT c t).sum).1,(0:Int)):=this
   rw[e]
   unfold zK
   rw[af (FF DI)];rfl
  ·unfold sG.l5 sG.xE Sb
   have hm:t.getD i cO∈t:=by
    rw[aW,a6 hi];exact eD hi
   have hy:=hC _ hm
   have h1:=zV hy
   have hq:=hy.q
   unfold cD at hq
   have hp:=hy.place
   have hs:=hy.size
   have Sc:=hy.K4
   unfold nB at Sc
   rw[aD ω,ah,aU ω ω,ah,aI,qb N hq.1 hq.2,ak,aU hp.1 hp.2,ah,ak,aJ (x:=((t.getD i cO).2.1.natAbs:Int)) ω ω,xy N ω ω (Int.le_trans δ Sc.1) (Int.lt_of_le_of_lt Sc.2 δ),ak,bP (by rw[fG,aR];omega),ah,aJ (x:=(i:Int)+1) ω ω,an i]
   have:=hr (ws++[((t.getD i cO).2.1.natAbs:Int)*nB c (t.getD i cO)]) ⟨by rw[aQ,aR];omega,AX hI.2 (FF ⟨h1.1,ω⟩)⟩
   rw[cU]at this
   refine this.trans ?_
   rw[bq];rfl
  ·unfold sG.l5 sG.xE
   rw[av ω,aj,BR N hI.2 ω ω,ak]
   show _=some ((zK (ws++[]).sum).1,(0:Int))
   rw[cV]
 ·rw[gm]at h
  rw[h,aj];rfl
theorem si{a:Int}: ∀{l:bF},TN (l.map keyOf)→((g6 a l).map (λy=>(y.1:Int))).Pairwise (· < ·)
 |[],_=>List.Pairwise.nil
 |x::t,h=>by
  obtain⟨h1,h2⟩:=jC.1 h
  have ih:=si (a:=a) h2
  rw[nA]
  by_cases e:x.1=a
  ·rw[af e,bz]
   refine jC.2 ⟨λz hz=> ?_,ih⟩
   obtain⟨y,hy,rfl⟩:=cm.1 hz
   obtain⟨x',hx,e',rfl⟩:=jk hy
   have hk:=h1 (keyOf x') (jB hx)
   have g: ∀p q r s:Int,p=a→r=a→mv p q r s→q<s:=λp q r s h1 h2 h=>by unfold mv at h;omega
   exact g _ _ _ _ e e' hk
  ·rw[ag e];exact ih
end VM
end
section
namespace VM
open Go VM.F
variable(N:Nat)
end VM
end
section
namespace VM
open Go VM.F
variable(N:Nat)
end VM
end
section
namespace VM
open Go VM.F
variable(N:Nat)
theorem Ii{u v:Int}(hu:bN u)(hv:bN v)(hs:bN (u+v)):Qt N (a5 u) (a5 v)=some (a5 (u+v),true):=by
 unfold Qt a5
 unfold bN at*
 dsimp only
 have hp:0≤u%18446744073709551616∧u%18446744073709551616<18446744073709551616:=ω
 have hq:0≤v%18446744073709551616∧v%18446744073709551616<18446744073709551616:=ω
 rw[gd,gd,kN N ω ω ω ω,ak]
 dsimp only
 have hc:0≤(u%18446744073709551616+v%18446744073709551616+0)/18446744073709551616∧(u%18446744073709551616+v%18446744073709551616+0)/18446744073709551616≤1:=ω
 have e1:(u%18446744073709551616+v%18446744073709551616+0)%18446744073709551616=(u+v)%18446744073709551616:=ω
 have e2:u/18446744073709551616+v/18446744073709551616+(u%18446744073709551616+v%18446744073709551616+0)/18446744073709551616=(u+v)/18446744073709551616:=ω
 have h3: -9223372036854775808≤(u+v)/18446744073709551616∧(u+v)/18446744073709551616<9223372036854775808:=ω
 rw[kN N ω ω hc.1 hc.2,ak]
 dsimp only
 have e3:W .i64 ((u/18446744073709551616%18446744073709551616+v/18446744073709551616%18446744073709551616+(u%18446744073709551616+v%18446744073709551616+0)/18446744073709551616)%18446744073709551616)=(u+v)/18446744073709551616:=by
  rw[dP];split<;>omega
 rw[e3,e1]
 have key: ∀A B C:Int,A=u/18446744073709551616→B=v/18446744073709551616→C=(u+v)/18446744073709551616→(A<0∧B<0→C<0)∧(¬A<0∧ ¬B<0→ ¬C<0):=λA B C _ _ _=>ω
 have k:=key _ _ _ rfl rfl rfl
 simp only[ny,lh]
 by_cases a:u/18446744073709551616<0<;>by_cases b:v/18446744073709551616<0
 ·have c:=k.1 ⟨a,b⟩
  rw[bn a,bn b,bn c];rfl
 ·rw[bn a,bt b];rfl
 ·rw[bt a,bn b];rfl
 ·have c:=k.2 ⟨a,b⟩
  rw[bt a,bt b,bt c];rfl
end VM
end
section
namespace VM
open Go VM.F
variable(N:Nat)
end VM
end
section
namespace VM
open Go VM.F
variable(N:Nat)
def yf(l:List Int)(k:Int):Int:=l.getD k.toNat 0
def ins(l:List Int):List Int→Int→List Int
 |[],i=>[i]
 |k::t,i=>if yf l i≤yf l k then k::ins l t i else i::k::t
def cY(l:List Int):Nat→List Int
 |0=>[]
 |n+1=>ins l (cY l n) n
def lZ(l:List Int):List Int:=cY l l.length
def ov(l:List Int)(a b:Int):Prop:=yf l b<yf l a∨(yf l b=yf l a∧a<b)
theorem BZ(l:List Int): ∀(o:List Int) (i:Int),(ins l o i).length=o.length+1
 |[],i=>rfl
 |k::t,i=>by unfold ins;split<;>simp[BZ l t i]
theorem gO(l:List Int): ∀n,(cY l n).length=n
 |0=>rfl
 |n+1=>by unfold cY;rw[BZ,gO l n]
theorem oL(l:List Int):(lZ l).length=l.length:=gO l _
theorem xL(l:List Int){x:Int}: ∀{o:List Int} {i:Int},x∈ins l o i↔x=i∨x∈o
 |[],i=>by simp[ins]
 |k::t,i=>by
  unfold ins;split
  ·rw[bc,xL l,bc]
   exact⟨λh=>h.elim (λh=> .inr (.inl h)) (λh=>h.elim .inl (λh=> .inr (.inr h))),λh=>h.elim (λh=> .inr (.inl h)) (λh=>h.elim .inl (λh=> .inr (.inr h)))⟩
  ·rw[bc]
theorem jN(l:List Int){x:Int}: ∀{n:Nat},x∈cY l n↔0≤x∧x<n
 |0=>⟨(λh=>nomatch h),λh=>absurd h.1 ω⟩
 |n+1=>by unfold cY;rw[xL,jN l];omega
theorem qt(l:List Int): ∀{o:List Int} {i:Int},o.Pairwise (ov l)→(∀x∈o,x<i)→(ins l o i).Pairwise (ov l)
 |[],i,_,_=>yt _ _
 |k::t,i,h,hi=>by
  rw[jC]at h
  have hk:k<i:=hi k (ba ..)
  unfold ins;split
  ·rename_i hle
   rw[jC]
   refine⟨λx hx=> ?_,qt l h.2 (λx hx=>hi x (a7 _ hx))⟩
   rcases(xL l).1 hx with rfl|hx
   ·unfold ov;omega
   ·exact h.1 x hx
  ·rename_i hle
   rw[jC,jC]
   refine⟨λx hx=> ?_,h.1,h.2⟩
   rcases bc.1 hx with rfl|hx
   ·unfold ov;omega
   ·have:=h.1 x hx;unfold ov at*;omega
theorem gk(l:List Int): ∀n,(cY l n).Pairwise (ov l)
 |0=>List.Pairwise.nil
 |n+1=>by unfold cY;exact qt l (gk l n) (λx hx=>((jN l).1 hx).2)
theorem FG(l:List Int): ∀(o:List Int) (i:Int) (p:Nat),p≤o.length→(∀j,j<p→yf l i≤yf l (o.getD j 0))→(p<o.length→yf l (o.getD p 0)<yf l i)→ins l o i=o.take p++i::o.drop p
 |[],i,p,hp,_,_=>by simp at hp;subst hp;rfl
 |k::t,i,0,hp,_,h=>by
  unfold ins;rw[ag (by have:=h (by simp);simp at this;omega)];rfl
 |k::t,i,p+1,hp,h0,h=>by
  unfold ins
  have h1:yf l i≤yf l k:=h0 0 ω
  rw[af h1,FG l t i p (by simpa using hp) (λj hj=>by have:=h0 (j+1) ω;simpa using this) (λxY=>by have:=h (by simpa using xY);simpa using this)]
  rfl
theorem u5{o:List Int}{j:Nat}(h:j<o.length):o.getD j 0∈o:=by
 rw[aW,a6 h];exact eD h
theorem FH{l o:List Int}(h:o.Pairwise (ov l)){j k:Nat}(R2:j<k)(hk:k<o.length):ov l (o.getD j 0) (o.getD k 0):=by
 rw[yq]at h
 rw[aW,a6 ω,aW,a6 hk]
 exact h j k ω hk R2
theorem AZ{l:List Int}{n j:Nat}(h:j<n):0≤(cY l n).getD j 0∧(cY l n).getD j 0<n:=by
 exact(jN l).1 (u5 (by rw[gO];exact h))
theorem u6{α:Type}(N:Nat){l:List α}{i:Nat}{x:α}(hi:i≤l.length)(hl:l.length<1000000):lr N l (i:Int) [x]=some (l.take i++x::l.drop i):=by
 unfold lr
 rw[af ⟨ω,ω,rfl,by unfold py;omega⟩]
 rfl
theorem zW(N:Nat)(K:List Int→List Int→Int→Int→Option (List Int)){l:List Int}(hl:l.length≤100000)(i:Nat)(hi:i<l.length): ∀(p n:Nat),p≤i→p<n→(∀j,p≤j→j<i→yf l ((cY l i).getD j 0)<yf l i)→
  kT.l6 N K n l (cY l i) (i:Int) (p:Int) (l.length:Int) (i:Int)=K l (cY l (i+1)) (l.length:Int) ((i+1:Nat):Int)
 |p,0,_,hn,_=>ω
 |p,n+1,hp,hn,h=>by
  have hlen:=gO l i
  have fin: ∀h2:(∀j,j<p→yf l i≤yf l ((cY l i).getD j 0)),ins l (cY l i) i=(cY l i).take p++(i:Int)::(cY l i).drop p:=λh2=>FG l _ _ p ω h2 (λh3=>h p ω ω)
  unfold kT.l6 kT.Ja
  match p,hp,hn,h,fin with
  |0,hp,hn,h,fin=>
   have e:=fin (λj hj=>ω)
   rw[av ω,aj,u6 N ω ω,ak,←e,aJ ω ω]
   rfl
  |p+1,hp,hn,h,fin=>
   have hr:=AZ (l:=l) (n:=i) (j:=p) ω
   have e1:W .i64 (((p+1:Nat):Int)-1)=(p:Int):=by rw[aJ ω ω];omega
   have Da:=zW N K hl i hi p n ω ω
   dsimp only
   rw[e1,aI]
   unfold yf at*
   rw[aI]at*
   rw[aD ω,ah,aU ω ω,ah,aU ω ω,ah,aU ω ω,ah]
   by_cases h3:l.getD ((cY l i).getD p 0).toNat 0<l.getD i 0
   ·rw[aD h3,ah]
    exact Da (λj h4 h5=>by
     by_cases Sd:j=p
     ·rw[Sd];exact h3
     ·exact h j ω h5)
   ·rw[av ω,aj,u6 N ω ω,ak,aJ ω ω]
    rw[←fin (λj hj=>by
     by_cases Sd:j=p
     ·rw[Sd];omega
     ·have:=FH (gk l i) (j:=j) (k:=p) ω ω
      unfold ov yf at this;omega)]
    rfl
theorem wS(N:Nat){l:List Int}(hl:l.length≤100000)(hN:l.length<N): ∀(m n i:Nat),l.length-i≤m→m<n→i≤l.length→
  kT.l3 N n l (cY l i) (l.length:Int) (i:Int)=some (lZ l)
 |m,0,i,_,hn,_=>ω
 |m,n+1,i,hm,hn,hi=>by
  unfold kT.l3 kT.wH
  by_cases h:i<l.length
  ·rw[aD ω,ah,gO,zW N _ hl i h i N ω ω (λj _ _=>ω)]
   exact wS N hl hN (m-1) n (i+1) ω ω ω
  ·rw[av ω,aj]
   unfold Se
   rw[cJ ω ω ω ω,ah,ak]
   simp only[ck,cW,aI,gn]
   rw[show i=l.length by omega];rfl
theorem FI{l:List Int}(hl:l.length≤100000)(hN:l.length<N):kT N l=some (lZ l):=by
 unfold kT kT.b
 rw[bR ω ω ω,ah]
 exact wS N hl hN l.length N 0 ω ω ω
end VM
end
section
namespace VM
open Go VM.F
variable(N:Nat)
def Oz(l:List Int):Prop:= ∀x∈l,-9223372036854775808≤x∧x<9223372036854775808
def Pos(l:List Int):Prop:= ∀x∈l,0≤x
def may(w:List Int):Bool:=decide (w.length≤64)&&w.all (λx=>decide (0≤x))
theorem nX{w:List Int}:may w=true↔w.length≤64∧Pos w:=by
 unfold may Pos;rw[aV,mO,iI]
 simp only[mO]
theorem u7(N:Nat){l:List Int}(hl:l.length≤1000000): ∀(m n i:Nat),l.length-i≤m→m<n→i≤l.length→ ∃r,jx.l2 N n l () (l.length:Int) (i:Int)=some r∧(0≤r↔ ∃x∈l.drop i,x<0)
 |m,0,i,_,hn,_=>ω
 |m,n+1,i,hm,hn,hi=>by
  unfold jx.l2 jx.jg Sf
  by_cases h:i<l.length
  ·have hd:l.drop i=l.getD i 0::l.drop (i+1):=by
    rw[kZ h,aW,a6 h];rfl
   rw[aD ω,ah,aU ω ω,ah,ak,aI,hd]
   by_cases hx:l.getD i 0<0
   ·rw[aD hx,ah]
    exact⟨_,rfl,λ_=>⟨_,ba ..,hx⟩,λ_=>ω⟩
   ·rw[av ω,aj,aJ ω ω]
    obtain⟨r,e,h1⟩:=u7 N hl (m-1) n (i+1) ω ω ω
    refine⟨r,e,h1.trans ⟨λ⟨x,CA,J7⟩=>⟨x,a7 _ CA,J7⟩,λ⟨x,CA,J7⟩=> ?_⟩⟩
    rcases bc.1 CA with rfl|CA
    ·exact absurd J7 hx
    ·exact⟨x,CA,J7⟩
  ·rw[av ω,aj,yz ω]
   exact⟨_,rfl,λh=>absurd h δ,λ⟨x,hx,_⟩=>nomatch hx⟩
theorem K5{w:List Int}(hN:100≤N):Qu N w=some (may w):=by
 unfold Qu
 by_cases h:w.length≤64
 ·rw[cP ω,ah]
  unfold K6 jx jx.b
  obtain⟨r,e,hr⟩:=u7 N (l:=w) ω w.length N 0 ω ω ω
  rw[cW]at hr
  rw[show((0:Nat):Int)=0 from rfl]at e
  rw[e,ak,ak]
  by_cases h0:0≤r
  ·rw[cP h0]
   obtain⟨x,hx,DM⟩:=hr.1 h0
   have:may w=false:=by
    rw[tj];intro hm
    have:=(nX.1 hm).2 x hx;omega
   rw[this];rfl
  ·rw[cE ω]
   have:may w=true:=nX.2 ⟨h,λx hx=>by
    by_cases DM:x<0
    ·exact absurd (hr.2 ⟨x,hx,DM⟩) h0
    ·omega⟩
   rw[this];rfl
 ·rw[cE ω,aj]
  have:may w=false:=by
   rw[tj];intro hm;exact h (nX.1 hm).1
  rw[this]
def bump(q:List Int):List Int→List Int
 |[]=>q
 |k::t=>bump (q.set k.toNat (q.getD k.toNat 0+1)) t
def gP(t S:Int)(w:List Int):List Int:=w.map λx=>t*x/S
def ke(t S:Int)(w:List Int):List Int:=w.map λx=>t*x%S
def fj(t:Int)(w:List Int):List Int:=
 bump (gP t w.sum w) ((lZ (ke t w.sum w)).take (t-(gP t w.sum w).sum).toNat)
def u9(t:Int)(w:List Int):List Int×Int:=
 if t<0∨may w=false then([],1)else if 9223372036854775808≤w.sum then([],2)
 else if w.sum=0 then(if t=0 then(List.replicate w.length 0,0)else([],1))else(fj t w,0)
theorem zX: ∀(ks q:List Int),(bump q ks).length=q.length
 |[],q=>rfl
 |k::t,q=>by unfold bump;rw[zX t];simp
theorem xM: ∀(q:List Int) (k:Nat) (x:Int),k<q.length→(q.set k x).sum=q.sum-q.getD k 0+x
 |[],k,x,h=>absurd h (by simp)
 |a::q,0,x,h=>by simp;omega
 |a::q,k+1,x,h=>by
  have:=xM q k x (by simpa using h)
  simp[this];omega
theorem l9: ∀{q:List Int},Pos q→0≤q.sum
 |[],_=>by simp
 |a::q,h=>by
  have:=l9 (q:=q) (λx hx=>h x (a7 _ hx))
  have:=h a (ba ..)
  rw[fI];omega
theorem xN: ∀{q:List Int},Pos q→ ∀i,q.getD i 0≤q.sum
 |[],_,i=>by simp
 |a::q,h,0=>by
  have:=l9 (q:=q) (λx hx=>h x (a7 _ hx))
  rw[fI];simp;omega
 |a::q,h,i+1=>by
  have:=xN (q:=q) (λx hx=>h x (a7 _ hx)) i
  have:=h a (ba ..)
  rw[fI];simp;simp at*;omega
theorem vb{q:List Int}(h:Pos q)(i:Nat):0≤q.getD i 0:=by
 by_cases hi:i<q.length
 ·exact h _ (u5 hi)
 ·rw[sX q ω];omega
theorem Ij{q:List Int}(h:Pos q){x:Int}(hx:0≤x)(k:Nat):Pos (q.set k x):=λy hy=>by
 rcases oU hy with hy|rfl
 ·exact h y hy
 ·exact hx
theorem FJ{q:List Int}(h:Pos q)(n:Nat):Pos (q.take n):=λx hx=>h x (ig hx)
theorem zY: ∀(ks q:List Int),(∀k∈ks,0≤k∧k<q.length)→(bump q ks).sum=q.sum+ks.length
 |[],q,_=>by simp[bump]
 |k::t,q,h=>by
  have hk:=h k (ba ..)
  unfold bump
  rw[zY t _ (λx hx=>by rw[aY];exact h x (a7 _ hx)),xM q _ _ ω,aE];omega
theorem nC(t S:Int)(w:List Int):(gP t S w).length=w.length:=by unfold gP;rw[fG]
theorem gQ(t S:Int)(w:List Int):(ke t S w).length=w.length:=by unfold ke;rw[fG]
theorem B0{t S:Int}{w:List Int}(i:Nat):(gP t S w).getD i 0=t*w.getD i 0/S:=by
 unfold gP
 by_cases h:i<w.length
 ·rw[aW,pa,a6 h,aW,a6 h];rfl
 ·rw[sX _ (by rw[fG];omega),sX w ω];simp
theorem vd{t S:Int}{w:List Int}(ht:0≤t)(hS:0≤S)(hw:Pos w):Pos (gP t S w):=λx hx=>by
 obtain⟨y,hy,rfl⟩:=cm.1 hx
 exact fH (gA ht (hw y hy)) hS
theorem FK{t S:Int}{w:List Int}(hS:0<S):Pos (ke t S w):=λx hx=>by
 obtain⟨y,hy,rfl⟩:=cm.1 hx
 exact kt _ ω
theorem s0(t S:Int): ∀w:List Int,S*(gP t S w).sum+(ke t S w).sum=t*w.sum
 |[]=>by simp[gP,ke]
 |x::w=>by
  have h:=s0 t S w
  have e:=ld (t*x) S
  unfold gP ke at*
  simp only[bz,fI,fh]
  omega
theorem A0{t S:Int}{w:List Int}(ht:0≤t)(hS:0<S)(h:w.sum≤S):(gP t S w).sum≤t:=by
 have e:=s0 t S w
 have h1:=l9 (FK (t:=t) (w:=w) hS)
 have h2:=nH h ht
 have h3:S*(gP t S w).sum≤S*t:=by rw[cG S t];omega
 exact s8 h3 hS
theorem zZ{w:List Int}(h:Pos w)(i:Nat):(w.take i).sum≤w.sum:=by
 have e:w.take i++w.drop i=w:=fE i w
 have h1:(w.take i).sum+(w.drop i).sum=w.sum:=by rw[←List.sum_append,e]
 have:=l9 (q:=w.drop i) (λx hx=>h x (tb hx))
 omega
theorem wT(t S:Int)(w:List Int)(i:Nat):(gP t S w).take i=gP t S (w.take i):=by unfold gP;rw[List.map_take]
theorem wU(N:Nat){ks:List Int}(hl:ks.length≤1000000)(L:Nat)(hk: ∀k∈ks,0≤k∧k<L): ∀(m n i:Nat) (q:List Int),ks.length-i≤m→m<n→i≤ks.length→q.length=L→Pos q→q.sum+(ks.length-i:Nat)≤9223372036854775807→
  hZ.xO N n q ks (ks.length:Int) (i:Int)=some (bump q (ks.drop i),0)
 |m,0,i,q,_,hn,_,_,_,_=>ω
 |m,n+1,i,q,hm,hn,hi,hq,hp,hs=>by
  unfold hZ.xO hZ.z2
  by_cases h:i<ks.length
  ·have hd:ks.drop i=ks.getD i 0::ks.drop (i+1):=by
    rw[kZ h,aW,a6 h];rfl
   have vN:=hk _ (u5 h)
   rw[aD ω,ah,aU ω ω,ah,aI,aU ω ω,ah,ah,hd]
   have h1:=xN hp (ks.getD i 0).toNat
   have h2:=vb hp (ks.getD i 0).toNat
   rw[aJ (x:=q.getD _ 0+1) ω ω,aJ ω ω]
   refine(wU N hl L hk (m-1) n (i+1) _ ω ω ω (by rw[aY];exact hq) (Ij hp ω _) ?_).trans rfl
   rw[xM q _ _ ω];omega
  ·rw[av ω,aj,yz ω];rfl
theorem ve(l:List Int): ∀k∈lZ l,0≤k∧k<l.length:=λk hk=>(jN l).1 hk
theorem take_set(l:List Int){i:Nat}(x:Int)(h:i<l.length):(l.set i x).take (i+1)=l.take i++[x]:=by
 rw[dk (l.set i x) (by rw[aY];exact h),nz l x h,List.take_set_of_le ω]
theorem FL{v:Int}(h0: -9223372036854775808≤v)(h1:v<9223372036854775808):C9 v=(v,true):=by unfold C9;rw[af ⟨h0,h1⟩]
theorem vf(N:Nat)(hN:1000000≤N){t:Int}{w:List Int}(ht:0≤t)(rD:t<9223372036854775808)(hw:w.length≤64)(hp:Pos w)(hS:0<w.sum)(TO:w.sum<9223372036854775808):
  ∀(m n i:Nat) (q r:List Int),w.length-i≤m→m<n→i≤w.length→q.length=w.length→r.length=w.length→q.take i=gP t w.sum (w.take i)→r.take i=ke t w.sum (w.take i)→
  hZ.A2 N n t w.sum q r (t-(gP t w.sum (w.take i)).sum) w (w.length:Int) (i:Int)=some (fj t w,0)
 |m,0,i,q,r,_,hn,_,_,_,_,_=>ω
 |m,n+1,i,q,r,hm,hn,hi,hq,hr,eq,er=>by
  unfold hZ.A2 hZ.z5
  by_cases h:i<w.length
  ·have Wx:=vb hp i
   have Sg:=xN hp i
   have hb:=mul_lt ht Wx (show t≤9223372036854775807 by omega) (show w.getD i 0≤9223372036854775807 by omega)
   have YZ:t*w.getD i 0/w.sum≤t:=Int.ediv_le_of_le_mul hS (nH Sg ht)
   have Wy:0≤t*w.getD i 0/w.sum:=fH hb.1 ω
   have Wz:=A0 ht hS (zZ hp i)
   have Bo:=l9 (vd ht (by omega:0≤w.sum) (FJ hp i))
   rw[aD ω,ah,aU ω ω,ah,aI,xy N ω ω ω ω,ak,
    HS N ω ω ω hS TO,ak]
   dsimp only
   rw[xz N ω ω,ak,FL ω ω]
   dsimp only
   rw[aU ω ω,ah,aU ω ω,ah,aY,aU ω ω,ah,nz q _ ω,aJ (x:=(i:Int)+1) ω ω,aJ ω ω]
   have Da:=vf N hN ht rD hw hp hS TO (m-1) n (i+1) (q.set i (t*w.getD i 0/w.sum)) (r.set i (t*w.getD i 0%w.sum)) ω ω ω (by rw[aY];exact hq) (by rw[aY];exact hr)
    (by rw[take_set q _ ω,eq,dk w h];unfold gP;simp)
    (by rw[take_set r _ ω,er,dk w h];unfold ke;simp)
   rw[←wT,jZ _ (by rw[nC];exact h),B0,wT]at Da
   rw[Int.sub_sub]
   exact Da
  ·have kk:i=w.length:=ω
   subst kk
   rw[eA ω,eA ω]at eq er
   subst eq er
   rw[eA ω]
   have Wz:=A0 ht hS (gD _)
   have Bo:=l9 (vd ht (by omega:0≤w.sum) hp)
   have TP:(t-(gP t w.sum w).sum).toNat≤(lZ (ke t w.sum w)).length:=by
    rw[oL,gQ]
    have e:=s0 t w.sum w
    have:(ke t w.sum w).sum≤w.length*w.sum:=by
     have: ∀u:List Int,(ke t w.sum u).sum≤u.length*w.sum:=by
      intro u
      induction u with
      |nil=>simp[ke]
      |cons x u ih=>
       have:=lf (t*x) hS
       unfold ke at*
       rw[bz,fI,aE,pf,fK];simp;omega
     exact this w
    have h4:w.sum*(t-(gP t w.sum w).sum)≤w.sum*w.length:=by
     rw[Int.mul_sub,cG w.sum t,cG w.sum (w.length:Int)];omega
    have:=s8 h4 hS
    omega
   rw[av ω,aj,FI N (by rw[gQ];omega) (by rw[gQ];omega),ak]
   rw[cJ ω ω ω ω,ah]
   dsimp only
   rw[ck,cW]
   have hlen:=oL (ke t w.sum w)
   rw[gQ]at hlen
   have ru:=wU N (ks:=(lZ (ke t w.sum w)).take (t-(gP t w.sum w).sum).toNat) (by rw[aT];omega) w.length (λk hk=>by have:=ve _ k (ig hk);rwa [gQ]at this) 1000 N 0 (gP t w.sum w) (by rw[aT];omega) ω ω (nC ..) (vd ht ω hp) (by rw[aT];omega)
   rw[cW]at ru
   exact ru
theorem FM(hN:2000000≤N){t:Int}{w:List Int}(rD:t<9223372036854775808)(hw:Oz w)(hl:w.length≤1000000):hZ N t w=some (u9 t w):=by
 unfold hZ hZ.b u9
 by_cases h1:t<0
 ·rw[aD h1,ah,af (.inl h1)]
 rw[av ω,aj,K5 N ω,ak]
 cases h2:may w
 ·rw[bS,ah,af (.inr rfl)]
 rw[bo,aj,ag (by simp[h1]),HU N hw hl ω,ak]
 obtain⟨Sh,hp⟩:=nX.1 h2
 have Y0:=l9 hp
 by_cases h3:9223372036854775808≤w.sum
 ·rw[af h3];unfold C9;rw[ag ω];rfl
 rw[ag h3,FL ω ω]
 dsimp only
 rw[bo,aj]
 have hm:gU (w.length:Int) (w.length:Int)=true:=bR ω ω ω
 have hz: ∀i:Nat,(List.replicate w.length (0:Int)).take i=(List.replicate w.length (0:Int)).take i:=λ_=>rfl
 by_cases h4:w.sum=0
 ·rw[af h4,bW h4,ah]
  by_cases h5:t=0
  ·rw[af h5,av ω,aj]
   unfold hZ.j8 hZ.Jb
   rw[hm,ah,ah,bW h5,ah,aI]
  ·rw[ag h5,aD ω,ah]
 ·rw[ag h4,cw h4,aj]
  unfold hZ.j8 hZ.Jb
  rw[hm,ah,ah]
  rw[aI]
  by_cases h5:t=0
  ·rw[bW h5,ah]
   subst h5
   have:gP 0 w.sum w=List.replicate w.length 0:=by
    unfold gP;simp only[Int.zero_mul,Int.zero_ediv];exact List.map_const'
   unfold fj
   rw[this];simp[bump]
  ·rw[cw h5,aj]
   have:=vf N ω ω rD Sh hp ω ω w.length N 0 (List.replicate w.length 0) (List.replicate w.length 0) ω ω ω (a8 ..) (a8 ..) rfl rfl
   rw[ph]at this
   simp only[gP,fJ,List.sum_nil,Int.sub_zero]at this
   exact this
theorem B1: ∀(ks q:List Int) (i:Nat),ks.Nodup→(∀k∈ks,0≤k∧k<q.length)→(bump q ks).getD i 0=q.getD i 0+(if(i:Int)∈ks then 1 else 0)
 |[],q,i,_,_=>by simp[bump]
 |k::t,q,i,hn,h=>by
  have hk:=h k (ba ..)
  rw[pd]at hn
  unfold bump
  rw[B1 t _ i hn.2 (λx hx=>by rw[aY];exact h x (a7 _ hx))]
  by_cases N6:(i:Int)=k
  ·rw[ag (by rw[N6];exact hn.1),af (by rw[N6];exact ba ..),←N6,aI,nz q _ ω];omega
  ·rw[getD_set_ne q _ ω]
   by_cases ht:(i:Int)∈t
   ·rw[af ht,af (a7 _ ht)]
   ·rw[ag ht,ag (λhc=>by rcases bc.1 hc with hc|hc;exact N6 hc;exact ht hc)]
theorem z6(l:List Int):(lZ l).Nodup:=(gk l l.length).imp (λ{a b} h he=>by unfold ov at h;rw[he]at h;omega)
theorem B2(t S:Int)(hS:0<S): ∀u:List Int,(ke t S u).sum≤u.length*S
 |[]=>by simp[ke]
 |x::u=>by
  have ih:=B2 t S hS u
  have:=lf (t*x) hS
  unfold ke at*
  rw[bz,fI,aE,pf,fK];simp;omega
def vg(t:Int)(w:List Int):Int:=t-(gP t w.sum w).sum
theorem left_eq(t:Int)(w:List Int):w.sum*vg t w=(ke t w.sum w).sum:=by
 have:=s0 t w.sum w
 unfold vg;rw[Int.mul_sub,cG w.sum t];omega
theorem FN{t:Int}{w:List Int}(ht:0≤t)(hS:0<w.sum):0≤vg t w:=by
 have:=A0 ht hS (gD _);unfold vg;omega
theorem Ik{t:Int}{w:List Int}(hS:0<w.sum):vg t w≤w.length:=by
 have h1:=left_eq t w
 have h2:=B2 t w.sum hS w
 rw[←h1,cG (w.length:Int)]at h2
 exact s8 h2 hS
theorem A3(t:Int)(w:List Int):(fj t w).length=w.length:=by unfold fj;rw[zX,nC]
theorem A4{t:Int}{w:List Int}(ht:0≤t)(hS:0<w.sum):(fj t w).sum=t:=by
 unfold fj
 have h1:=FN ht hS
 have h2:=Ik (t:=t) hS
 unfold vg at*
 rw[zY _ _ (λk hk=>by have:=ve _ k (ig hk);rw[gQ]at this;rwa [nC]),aT,oL,gQ]
 omega
def extra(t:Int)(w:List Int)(i:Nat):Int:=if(i:Int)∈(lZ (ke t w.sum w)).take (vg t w).toNat then 1 else 0
theorem Dq(t:Int)(w:List Int)(i:Nat):(fj t w).getD i 0=t*w.getD i 0/w.sum+extra t w i:=by
 unfold fj
 rw[B1 _ _ i ((z6 _).sublist (List.take_sublist ..)) (λk hk=>by have:=ve _ k (ig hk);rw[gQ]at this;rwa [nC]),B0]
 rfl
theorem Dr(t:Int)(w:List Int)(i:Nat):extra t w i=0∨extra t w i=1:=by unfold extra;split<;>omega
theorem vh{t:Int}{w:List Int}(ht:0≤t)(hS:0<w.sum)(hw:Pos w):Pos (fj t w):=λx hx=>by
 obtain⟨i,hi,rfl⟩:=mL.1 hx
 have:=Dq t w i
 rw[aW,a6 hi]at this
 have h1:=Dr t w i
 have h2:0≤t*w.getD i 0/w.sum:=fH (gA ht (vb hw i)) ω
 simp only[pb]at this
 omega
def et(t n:Int):List Int×Int:=if t<0∨n<1∨64<n then([],1)else u9 t (List.replicate n.toNat 1)
theorem FO(n:Nat):Oz (List.replicate n 1):=λx hx=>by rw[oW hx];omega
theorem Il(hN:5000000≤N){t n:Int}(rD:t<9223372036854775808):Qv N t n=some (et t n):=by
 unfold Qv et
 by_cases h1:t<0
 ·rw[aD h1,ah,af (.inl h1)]
 by_cases h2:n<1
 ·rw[av ω,aj,aD h2,ah,af (.inr (.inl h2))]
 by_cases h3:64<n
 ·rw[av ω,aj,av ω,aj,aD h3,ah,af (.inr (.inr h3))]
 rw[av ω,aj,av ω,aj,av ω,aj,ag ω]
 unfold pB
 dsimp only
 rw[af ω,ak,FM N ω rD (FO _) (by rw[a8];omega)]
 rfl
end VM
end
section
namespace VM
open Go VM.F
variable(N:Nat)
end VM
end
section
namespace VM
open Go VM.F
variable(N:Nat)
end VM
end
section
namespace VM
open Go VM.F
variable(N:Nat)
end VM
end
section
namespace VM
open Go VM.F
variable(N:Nat)
theorem Im{x:Int}(h:bN x)(hx:x≠ -170141183460469231731687303715884105728):Qw N (a5 x)=some (a5 (-x),true):=by
 unfold Qw Si a5
 unfold bN at h
 dsimp only
 have hp:0≤x%18446744073709551616∧x%18446744073709551616<18446744073709551616:=ω
 have hh: -9223372036854775808≤x/18446744073709551616∧x/18446744073709551616<9223372036854775808:=ω
 rw[gd,gd,gL N ω ω ω ω ω ω,ak]
 dsimp only
 have hb:(0:Int)≤(if(0:Int)<x%18446744073709551616+0 then 1 else 0)∧(if(0:Int)<x%18446744073709551616+0 then(1:Int)else 0)≤1:=by split<;>omega
 rw[gL N ω ω ω ω hb.1 hb.2,ak]
 dsimp only
 have key: ∀{z:aA},z=a5 (-x)→((some (z,true):Option (aA×Bool)).bind λr1=>some (r1.1,r1.2))=some (a5 (-x),true):=λe=>by rw[e];rfl
 have e3:W .i64 ((0%18446744073709551616-x/18446744073709551616%18446744073709551616-(if(0:Int)<x%18446744073709551616+0 then 1 else 0))%18446744073709551616)=(-x)/18446744073709551616:=by
  by_cases h0:x%18446744073709551616=0
  ·rw[ag (show ¬(0:Int)<x%18446744073709551616+0 by omega),dP];split<;>omega
  ·rw[af (show(0:Int)<x%18446744073709551616+0 by omega),dP];split<;>omega
 have e1:(0-x%18446744073709551616-0)%18446744073709551616=(-x)%18446744073709551616:=ω
 rw[e3,e1]
 simp only[ny,lh]
 by_cases a:x/18446744073709551616<0
 ·have c: ¬(-x)/18446744073709551616<0:=ω
  rw[bt (show ¬(0:Int)<0 by omega),bn a,bt c]
  exact key rfl
 ·rw[bt (show ¬(0:Int)<0 by omega),bt a]
  exact key rfl
end VM
end
section
namespace VM
open Go VM.F
variable(N:Nat)
end VM
end
section
namespace VM
open Go VM.F
variable(N:Nat)
end VM
end
section
namespace VM
open Go VM.F
variable(N:Nat)
def Qx(z:Int×Int)(n:Nat):Prop:=0≤z.1∧z.1≤1000000000*(n:Int)∧0≤z.2∧z.2≤1000000000*(n:Int)
theorem Qx.mono{z:Int×Int}{n m:Nat}(h:Qx z n)(hm:n≤m):Qx z m:=by unfold Qx at*;omega
end VM
end
section
namespace VM
open Go VM.F
variable(N:Nat)
end VM
end
section
namespace VM
open Go VM.F
variable(N:Nat)
end VM
end
section
namespace VM
open Go VM.F
variable(N:Nat)
end VM
end
section
namespace VM
open Go VM.F
variable(N:Nat)
end VM
end
section
namespace VM
open Go VM.F
variable(N:Nat)
end VM
end
section
namespace VM
open Go VM.F Go.RowKit
variable(N:Nat)
theorem FP(hN:4000000≤N){v:Int}(h:bN v):F7 N (a5 v)=some (dp v):=by
 unfold F7 a5
 unfold bN at h
 dsimp only
 have hv:VD [(0:Int),0,1]:=VD.cons ω ω (VD.cons ω ω (VD.cons ω ω VD.nil))
 have uc:br [(0:Int),0,1]=18446744073709551616:=δ
 have hl:(jw (v%18446744073709551616).toNat).length≤2:=qc 2 _ (by
  rw[show(4294967296:Nat)^2=18446744073709551616 from rfl];omega)
 have f2: ∀x:Int,(x.natAbs:Int)≤18446744073709551616→Fit x 90000:=λx hx=>by
  refine Fit.mono (j:=3) ?_ ω
  unfold Fit
  rw[show(4294967296:Nat)^3=79228162514264337593543950336 from rfl]
  omega
 rw[qd N ω ω ω,ak,iz N false hv (by simp;omega) (by simp),ak,ag mN,uc,zI N hN (f2 _ ω) (f2 _ ω),ak,size_eq N ω ω ω,ak,iz N false (fT _) ω ω,ak,ag mN,dH,ij ω,BO N hN (sY (by unfold bN;omega)) (sY (by unfold bN;omega)),ak,show v/18446744073709551616*18446744073709551616+v%18446744073709551616=v by omega]
def hR:bF:=[((1:Int),((0:Int),((-90:Int),()))),((5:Int),((1:Int),((90:Int),())))]
def hS:bF:=[((0:Int),((0:Int),((5:Int),()))),((0:Int),((1:Int),((20:Int),()))),((1:Int),((0:Int),((-5:Int),()))),((1:Int),((1:Int),((-20:Int),())))]
def hB:ch:=([((1:Int),((1:Int),()))],([((1:Int),((1:Int),((1:Int),((50:Int),()))))],(hR,(hS,([(100:Int),(7:Int)],(QI,()))))))
namespace Pure
end Pure
end VM
end
section
namespace VM
open Go VM.F
variable(N:Nat)
def G(m:Nat):(τ:Ty)→τ.den→Prop
 | .int .i64,x=>cD x
 | .int .u64,x=>0≤x∧x<18446744073709551616
 | .slice e,l=>ℓ l≤m∧ ∀x∈(l:List e.den),G m e x
 | .pair a b,x=>G m a x.1∧G m b x.2
 |_,_=>True
theorem G.mono{m n:Nat}(h:m≤n): ∀{τ:Ty} {x:τ.den},G m τ x→G n τ x
 | .int k,x,hx=>by cases k<;>exact hx
 | .slice e,l,hl=>⟨cX hl.1 h,λx hx=>G.mono h (hl.2 x hx)⟩
 | .pair a b,x,hx=>⟨G.mono h hx.1,G.mono h hx.2⟩
 | .bool,_,_=>trivial
 | .str,_,_=>trivial
 | .unit,_,_=>trivial
 | .arr _ _,_,_=>trivial
theorem G.nil{m:Nat}{e:Ty}:G m (.slice e) ([]:List e.den):=⟨gE _,λx hx=>nomatch hx⟩
theorem G.get{m:Nat}{e:Ty}{l:List e.den}{d:e.den}(h:G m (.slice e) l)(hd:G m e d)(k:Nat):G m e (l.getD k d):=by
 by_cases hk:k<l.length
 ·rw[aW,a6 hk];exact h.2 _ (eD hk)
 ·rw[aW,eB ω];exact hd
theorem G.zero(m:Nat): ∀τ:Ty,G m τ τ.zero
 | .int k=>by cases k<;>first|trivial|exact⟨δ,δ⟩
 | .slice _=>G.nil
 | .pair a b=>⟨G.zero m a,G.zero m b⟩
 | .bool=>trivial
 | .str=>trivial
 | .unit=>trivial
 | .arr _ _=>trivial
theorem G.at{m:Nat}{e:Ty}{l:List e.den}(h:G m (.slice e) l)(k:Nat):G m e (l.getD k e.zero):=h.get (G.zero m e) k
theorem G.set{m:Nat}{e:Ty}{l:List e.den}{x:e.den}(h:G m (.slice e) l)(hx:G m e x)(k:Nat):G m (.slice e) (l.set k x):=
 ⟨by rw[aY];exact h.1,λy hy=>by
  rcases oU hy with hy|rfl
  ·exact h.2 y hy
  ·exact hx⟩
def Bg(k:Nat)(z:bf):Prop:= ∃v,z=dp v∧Fit v k
theorem Bg.mono{j k:Nat}{z:bf}(h:Bg j z)(hk:j≤k):Bg k z:=by
 obtain⟨v,e,f⟩:=h
 exact⟨v,e,Fit.mono f hk⟩
theorem Bg.zero:Bg 1 (false,(([]:List Int),())):=⟨0,C8.symm,by unfold Fit;decide⟩
end VM
end
section
namespace VM
open Go VM.F
variable(N:Nat)
theorem G.wf{m:Nat}(hm:m≤50000){b:ch}(h:G m mz b):Ie b:=by
 obtain⟨h1,h2,h3,h4,h5,h6,_⟩:=h
 exact⟨⟨cX h1.1 ω,cX h2.1 ω,cX h3.1 ω,cX h4.1 ω,cX h5.1 ω,cX h6.1 ω,λx hx=>(h3.2 x hx).2.2.1,λx hx=>(h4.2 x hx).2.2.1⟩,cX h3.1 ω,cX h4.1 ω⟩
end VM
end
section
namespace VM
open Go VM.F
variable(N:Nat)
def Jd(k:Nat)(l:B3):Prop:= ∀x∈l,Bg k x
theorem Jd.mono{j k:Nat}{l:B3}(h:Jd j l)(hk:j≤k):Jd k l:=λx hx=>Bg.mono (h x hx) hk
theorem Jd.at{k:Nat}{l:B3}(h:Jd k l)(h1:1≤k)(i:Nat):Bg k (l.getD i (false,SS)):=by
 by_cases hk:i<l.length
 ·rw[aW,a6 hk];exact h _ (eD hk)
 ·rw[aW,eB ω];exact Bg.mono Bg.zero h1
theorem Jd.set{k:Nat}{l:B3}{x:bf}(h:Jd k l)(hx:Bg k x)(i:Nat):Jd k (l.set i x):=λy hy=>by
 rcases oU hy with hy|rfl
 ·exact h y hy
 ·exact hx
end VM
end
section
namespace VM
open Go VM.F
variable(N:Nat)
end VM
end
section
namespace VM
open Go VM.F
variable(N:Nat)
end VM
end
section
namespace VM
open Go VM.F
variable(N:Nat)
structure Cf(c:al):Prop where
 g:G 5 bQ c
 n:1≤c.1.length
end VM
end
section
namespace VM
open Go VM.F
variable(N:Nat)
end VM
end
section
namespace VM
open Go VM.F
variable(N:Nat)
end VM
end
section
namespace VM
open Go VM.F
variable(N:Nat)
end VM
end
section
namespace VM
open Go VM.F
variable(N:Nat)
end VM
end
section
namespace VM
open Go VM.F
variable(N:Nat)
end VM
end
section
namespace VM
open Go VM.F
variable(N:Nat)
end VM
end
section
namespace VM
open Go VM.F
variable(N:Nat)
theorem OA{l:List Int}(h:Pos l)(hs:l.sum<9223372036854775808):Oz l:=λx hx=>by
 have h3:=h x hx
 obtain⟨i,hi,rfl⟩:=mL.1 hx
 have h4:=xN h i
 rw[aW,a6 hi]at h4
 simp only[pb]at h4
 omega
theorem xP(k:Nat):(List.replicate k (1:Int)).sum=k:=by
 induction k with
 |zero=>rfl
 |succ k ih=>rw[tf,fI,ih];omega
theorem xQ(k:Nat):Pos (List.replicate k 1):=λx hx=>by rw[oW hx];omega
theorem FQ{t:Int}{k:Nat}(h0:0≤t)(h1:t<9223372036854775808)(hk:1≤k)(qA:k≤3):(et t k).1.length=k∧Oz (et t k).1:=by
 have hS:0<(List.replicate k (1:Int)).sum:=by rw[xP];omega
 have ee:et t k=(fj t (List.replicate k 1),0):=by
  unfold et
  rw[ag ω,aI]
  unfold u9
  have hm:may (List.replicate k 1)=true:=nX.2 ⟨by rw[a8];omega,xQ k⟩
  rw[ag (by rw[hm];simp;omega),xP,ag ω,ag ω]
 rw[ee]
 exact⟨by dsimp only;rw[A3,List.length_replicate],OA (vh h0 hS (xQ k)) (by rw[A4 h0 hS];omega)⟩
def LQ(y:j2):Prop:=cD y.1∧cD y.2.1∧vV y.2.1
def jO(g s:Int):Int:=if g<1∨s<1 then 0 else if g≤s then 1 else if g≤2*s then 2 else 3
theorem sj(g s:Int):0≤jO g s∧jO g s≤3:=by unfold jO;repeat' split<;>omega
def Ds(q:Int)(n k:Nat):Int:=if q<0 then-((et (q.natAbs:Int) n).1.getD k 0)else(et (q.natAbs:Int) n).1.getD k 0
def jl(n k:Nat)(x:j2):Option j2:=if Ds x.2.1 n k=0 then none else some (x.1,(Ds x.2.1 n k,()))
def jm(l:aH)(n k:Nat):aH:=l.filterMap (jl n k)
def qu(c:al)(x:j2):Int:=(c.1.getD x.1.toNat bC).1
def bm(c:al)(l:aH)(k:Nat):aH:=l.filter λx=>decide (qu c x=(k:Int))
def dX(l:aH):Int:=(l.map λx=>(x.2.1.natAbs:Int)).sum
def mb(c:al)(l:aH):Nat:=(jO (dX l) c.2.2.2.2.2.1).toNat
def kU(c:al)(l:aH):List aH:=(List.range (mb c l)).map (jm l (mb c l))
def nD(c:al)(next:Int):List aH→aX→Option aX
 |[],out=>some out
 |p::t,out=>if p=[]then nD c next t out else if(C9 (-(kd c p))).2=true then nD c next t (out++[(next+(out.length:Int),(p,((C9 (-(kd c p))).1,(1,(0,(0,()))))))])else none
def wV(c:al)(next:Int)(all:aH):List Nat→aX→Option aX
 |[],out=>some out
 |k::t,out=>(nD c next (kU c (bm c all k)) out).bind (wV c next all t)
def FR(c:al)(all:aH)(next:Int):aX×Int:=match wV c next all (List.range 4) []with
 |some l=>(l,0)
 |none=>([],2)
theorem s3(x:Int):qZ x<0↔x<0:=by unfold qZ;split<;>(try split)<;>omega
theorem vi(K:F5.cZ){g s x:Int}(hs:cD s)(hx:1≤x∧x≤3):F5.gN N K s (a5 g) x=if x<3∧x*s<g then K s (a5 g) (x+1)else some x:=by
 unfold F5.gN
 unfold cD at hs
 by_cases h3:x<3
 ·rw[aD h3,ah,xy N ω ω hs.1 hs.2,ak,BU,ak,aJ ω ω]
  by_cases h:x*s<g
  ·rw[aD ((s3 _).2 ω),ah,af ⟨h3,h⟩]
  ·rw[av (by have:=s3 (x*s-g);omega),aj,ag (λh'=>h h'.2)]
 ·rw[av ω,aj,ag (λh'=>h3 h'.1)]
theorem kV(hN:10≤N){g s:Int}(hs:cD s):F5 N (a5 g) s=some (jO g s):=by
 obtain⟨n,rfl⟩: ∃n,N=n+4:=⟨N-4,ω⟩
 unfold F5 F5.b jO
 rw[uS,ak]
 by_cases h1:g<1
 ·rw[aD (by unfold qZ;split<;>(try split)<;>omega),ah,af (.inl h1)]
 rw[av (by unfold qZ;split<;>(try split)<;>omega),aj]
 by_cases h2:s<1
 ·rw[aD h2,ah,af (.inr h2)]
 rw[av ω,aj,ag ω]
 unfold F5.l4
 rw[vi _ _ hs ω,iN]
 by_cases h3:g≤s
 ·rw[ag ω,af h3]
 rw[af ω,ag h3]
 unfold F5.l4
 rw[vi _ _ hs ω]
 by_cases h4:g≤2*s
 ·rw[ag ω,af h4];rfl
 rw[af ω,ag h4]
 unfold F5.l4
 rw[vi _ _ hs ω,ag ω]
 rfl
theorem ri(hN:4000000≤N)(K:F6.cZ){g s x:Int}(hg:Fit g 900000)(hs:cD s)(hx:1≤x∧x≤3):F6.gN N K s (dp g) x=if x<3∧x*s<g then K s (dp g) (x+1)else some x:=by
 unfold F6.gN
 unfold cD at hs
 by_cases h3:x<3
 ·have fx:Fit x 2:=Fit.i64 ω ω
  have fs:Fit s 2:=Fit.i64 hs.1 hs.2
  rw[aD h3,ah,qd N ω ω ω,ak,qd N ω hs.1 hs.2,ak,zI N hN (fx.mono ω) (fs.mono ω),ak,KV N hN ((fx.mul fs).mono ω) hg,ak,aJ ω ω]
  by_cases h:x*s<g
  ·rw[aD ((s3 _).2 ω),ah,af ⟨h3,h⟩]
  ·rw[av (by have:=s3 (x*s-g);omega),aj,ag (λh'=>h h'.2)]
 ·rw[av ω,aj,ag (λh'=>h3 h'.1)]
theorem vj(hN:4000000≤N){g s:Int}(hg:Fit g 900000)(hs:cD s):F6 N (dp g) s=some (jO g s):=by
 obtain⟨n,hn⟩: ∃n,N=n+4:=⟨N-4,ω⟩
 unfold F6 F6.b jO
 rw[BP,ak]
 by_cases h1:g<1
 ·rw[cP (by unfold qZ;split<;>(try split)<;>omega),ah,af (.inl h1)]
 rw[cE (by unfold qZ;split<;>(try split)<;>omega),aj]
 by_cases h2:s<1
 ·rw[aD h2,ah,af (.inr h2)]
 rw[av ω,aj,ag ω]
 have e1: ∀m x,F6.l4 N (m+1) s (dp g) x=F6.gN N (F6.l4 N m) s (dp g) x:=λ_ _=>rfl
 rw[show F6.l4 N N=F6.l4 N (n+4)by rw[←hn],e1,ri N hN _ hg hs ω,iN]
 by_cases h3:g≤s
 ·rw[ag ω,af h3]
 rw[af ω,ag h3,e1,ri N hN _ hg hs ω]
 by_cases h4:g≤2*s
 ·rw[ag ω,af h4];rfl
 rw[af ω,ag h4,e1,ri N hN _ hg hs ω,ag ω]
 rfl
theorem Dt{α:Type}{n i:Nat}(g:Nat→α)(v:α)(hi:i<n):((List.range n).map g).set i v=(List.range n).map λk=>if k=i then v else g k:=by
 apply tu
 ·simp
 ·intro j h1 h2
  simp only[List.getElem_set,tk,o7]
  by_cases h:i=j
  ·rw[af h,af h.symm]
  ·rw[ag h,ag (cf h)]
theorem A5{α:Type}{n i:Nat}(g:Nat→α)(d:α)(hi:i<n):((List.range n).map g).getD i d=g i:=by
 rw[aW,a6 (by simpa using hi)];simp
theorem FT{q:Int}{n:Nat}(h:cD q)(hq:vV q)(hn:n≤3):(et (q.natAbs:Int) n).1.length=n∧Oz (et (q.natAbs:Int) n).1∧ ∀x∈(et (q.natAbs:Int) n).1,0≤x:=by
 unfold cD at h
 have h2:(q.natAbs:Int)<9223372036854775808:=by
  have g: ∀x:Int,-9223372036854775808≤x→x<9223372036854775808→vV x→(x.natAbs:Int)<9223372036854775808:=λx h1 h2 h3=>by unfold vV at h3;omega
  exact g q h.1 h.2 hq
 by_cases h0:n=0
 ·subst h0
  have e:et (q.natAbs:Int) ((0:Nat):Int)=([],1):=by unfold et;rw[af (.inr (.inl ω))]
  rw[e]
  exact⟨rfl,(λx (hx:x∈([]:List Int))=>nomatch hx),λx (hx:x∈([]:List Int))=>nomatch hx⟩
 ·obtain⟨e1,e2⟩:=FQ (t:=(q.natAbs:Int)) (k:=n) ω h2 ω hn
  refine⟨e1,e2,?_⟩
  have hS:0<(List.replicate n (1:Int)).sum:=by rw[xP];omega
  have ee:et (q.natAbs:Int) n=(fj (q.natAbs:Int) (List.replicate n 1),0):=by
   unfold et
   rw[ag ω,aI]
   unfold u9
   have hm:may (List.replicate n 1)=true:=nX.2 ⟨by rw[a8];omega,xQ n⟩
   rw[ag (by rw[hm];simp<;>omega),xP,ag ω,ag ω]
  rw[ee]
  exact vh ω hS (xQ n)
theorem B4{q:Int}{n:Nat}(h:cD q)(hq:vV q)(hn:n≤3)(k:Nat):0≤(et (q.natAbs:Int) n).1.getD k 0∧(et (q.natAbs:Int) n).1.getD k 0<9223372036854775808:=by
 obtain⟨e1,e2,e3⟩:=FT h hq hn
 by_cases hk:k<(et (q.natAbs:Int) n).1.length
 ·rw[aW,a6 hk]
  exact⟨e3 _ (eD hk),(e2 _ (eD hk)).2⟩
 ·rw[aW,eB ω];exact⟨δ,δ⟩
theorem Io{q:Int}{n:Nat}(h:cD q)(hq:vV q)(hn:n≤3)(k:Nat):cD (Ds q n k):=by
 have:=B4 h hq hn k
 unfold Ds cD
 split<;>omega
theorem wW(l:aH)(n k:Nat):(jm l n k).length≤l.length:=List.length_filterMap_le _ _
theorem Ip{l:aH}(h: ∀y∈l,LQ y){n:Nat}(hn:n≤3)(k:Nat): ∀y∈jm l n k,cD y.2.1:=λy hy=>by
 obtain⟨x,hx,e⟩:=List.mem_filterMap.1 hy
 unfold jl at e
 split at e
 ·cases e
 ·cases e;exact Io (h x hx).2.1 (h x hx).2.2 hn k
theorem A6{l:aH}{i:Nat}(hi:i<l.length)(n k:Nat):jm (l.take (i+1)) n k=jm (l.take i) n k++(jl n k (l.getD i cO)).toList:=by
 unfold jm
 rw[th,List.filterMap_append,a6 hi,aW,a6 hi]
 congr 1
theorem FU(hN:100≤N)(K8:bM.nE)(K7:bM.mA)(next:Int)(c:al)(all:aH)(out:aX){n:Nat}(hn:n≤3)(f:Nat→aH)(hf: ∀k,(f k).length≤100000){x:j2}(hx:LQ x)(b:Int)(own:aH)(ol ix:Int):
  bM.GN N K8 K7 N next c all out ((List.range n).map f) x b own ol ix (et (x.2.1.natAbs:Int) n).1 ((et (x.2.1.natAbs:Int) n).1.length:Int) 0=K7 next c all out ((List.range n).map λk=>f k++(jl n k x).toList) b own ol (W .i64 (ix+1)):=by
 obtain⟨e1,e2,e3⟩:=FT hx.2.1 hx.2.2 hn
 have ha:=B4 hx.2.1 hx.2.2 hn
 have Sj: ∀k,Ds x.2.1 n k=if x.2.1<0 then-((et (x.2.1.natAbs:Int) n).1.getD k 0)else(et (x.2.1.natAbs:Int) n).1.getD k 0:=λk=>rfl
 generalize (et (x.2.1.natAbs:Int) n).1=cut at*
 have:=uK cut (0:Int) (λm j s=>bM.GN N K8 K7 m next c all out s x b own ol ix cut (cut.length:Int) j) (λ_ _=>K7 next c all out ((List.range n).map λk=>f k++(jl n k x).toList) b own ol (W .i64 (ix+1)))
  (λj s=>s=(List.range n).map λk=>if k<j then f k++(jl n k x).toList else f k)
  (λm j s hj hI hr=> ?_) (λm s hI=> ?_) cut.length N 0 ((List.range n).map f) ω ω ω (by simp)
 ·exact this
 ·have key: ∀q,q=Ds x.2.1 n j→bM.MR N K8 K7 (bM.GN N K8 K7 m) next c all out s x (j:Int) q b own ol ix cut (cut.length:Int) (j:Int)=K7 next c all out ((List.range n).map λk=>f k++(jl n k x).toList) b own ol (W .i64 (ix+1)):=λq hq=>by
   unfold bM.MR bM.K9
   have hl:s.length=n:=by rw[hI];simp
   have hg:s.getD j eS=f j:=by rw[hI,A5 _ _ ω,ag ω]
   rw[cond_not,aJ (x:=(j:Int)+1) ω ω,an j]
   by_cases h0:q=0
   ·rw[bW h0,ah]
    refine hr s ?_
    rw[hI]
    refine fc λk hk=> ?_
    by_cases h1:k=j
    ·subst h1
     have e:jl n k x=none:=by unfold jl;rw[af (by rw[←hq];exact h0)]
     rw[ag ω,af ω,e];simp
    ·by_cases h2:k<j
     ·rw[af h2,af ω]
     ·rw[ag h2,ag ω]
   ·have Y1:=hf j
    rw[cw h0,aj,aI,hg,aU ω ω,ah,bP (by rw[aR];omega),ah,ah,bW rfl,ah]
    refine hr _ ?_
    rw[hI,Dt _ _ ω]
    refine fc λk hk=> ?_
    by_cases h1:k=j
    ·subst h1
     have e:jl n k x=some (x.1,(q,())):=by unfold jl;rw[ag (by rw[←hq];exact h0),←hq]
     rw[af rfl,af ω,e];rfl
    ·rw[ag h1]
     by_cases h2:k<j
     ·rw[af h2,af ω]
     ·rw[ag h2,ag ω]
  have Ev:=ha j
  have hc:=Sj j
  unfold bM.GN bM.Iq
  rw[aD ω,ah,aU ω ω,ah,aI]
  by_cases h:x.2.1<0
  ·rw[af h]at hc
   rw[aD h,ah,aJ (x:=0-cut.getD j 0) ω ω]
   exact key _ ((Int.zero_sub _).trans hc.symm)
  ·rw[ag h]at hc
   rw[av (Int.not_lt.1 h),aj]
   exact key _ hc.symm
 ·unfold bM.GN bM.Iq
  rw[av ω,aj,hI]
  congr 1
  refine fc λk hk=> ?_
  rw[af (by have:=pg.1 hk;omega)]
theorem Du(hN:5000000≤N)(K8:bM.nE)(next:Int)(c:al)(all:aH)(out:aX){n:Nat}(hn:n≤3)(b:Int){own:aH}(hl:own.length≤100000)(hq: ∀y∈own,LQ y):
  bM.xO N K8 N next c all out (List.replicate n eS) b own (own.length:Int) 0=bM.GO N K8 N next c all out b ((List.range n).map (jm own n)) ((((List.range n).map (jm own n)).length:Nat):Int) 0:=by
 have:=uK own cO (λm i s=>bM.xO N K8 m next c all out s b own (own.length:Int) i) (λ_ _=>bM.GO N K8 N next c all out b ((List.range n).map (jm own n)) ((((List.range n).map (jm own n)).length:Nat):Int) 0)
  (λi s=>s=(List.range n).map (jm (own.take i) n)) (λm i s hi hI hr=> ?_) (λm s hI=> ?_) own.length N 0 (List.replicate n eS) ω ω ω ?_
 ·exact this
 ·have hx:own.getD i cO∈own:=by rw[aW,a6 hi];exact eD hi
  have hy:=hq _ hx
  have C6:=hy.2.1
  unfold cD at C6
  have hb:((own.getD i cO).2.1.natAbs:Int)<9223372036854775808:=by
   have g: ∀x:Int,-9223372036854775808≤x→x<9223372036854775808→vV x→(x.natAbs:Int)<9223372036854775808:=λx h1 h2 h3=>by unfold vV at h3;omega
   exact g _ C6.1 C6.2 hy.2.2
  unfold bM.xO bM.z2
  rw[aD ω,ah,aU ω ω,ah,aI,qb N C6.1 C6.2,ak,aJ ω hb,Il N hN hb,ak]
  rw[hI]
  have hlen:((((List.range n).map (jm (own.take i) n)).length:Nat):Int)=n:=by simp
  rw[hlen]
  refine(FU N ω K8 (bM.xO N K8 m) next c all out hn (jm (own.take i) n) (λk=> ?_) hy b own (own.length:Int) (i:Int)).trans ?_
  ·have h1:=wW (own.take i) n k
   rw[aT]at h1
   omega
  ·rw[aJ (x:=(i:Int)+1) ω ω,an i]
   refine hr _ (fc λk _=> ?_)
   exact(A6 hi n k).symm
 ·unfold bM.xO bM.z2
  rw[av ω,aj,hI,gn]
 ·have e:jm (own.take 0) n=λ_=>eS:=by funext k;rfl
  rw[e]
  apply tu
  ·simp
  ·intros;simp
end VM
end
section
namespace VM
open Go VM.F
variable(N:Nat)
end VM
end
section
namespace VM
open Go VM.F
variable(N:Nat)
end VM
end
section
namespace VM
open Go VM.F
variable(N:Nat)
end VM
end
section
namespace VM
open Go VM.F
variable(N:Nat)
end VM
end
section
namespace VM
open Go VM.F
variable(N:Nat)
end VM
end
section
namespace VM
open Go VM.F
variable(N:Nat)
end VM
end
section
namespace VM
open Go VM.F Go.RowKit
variable(N:Nat)
namespace Pure
end Pure
end VM
end
section
namespace VM
open Go VM.F Go.RowKit
variable(N:Nat)
theorem OB{α:Type}{l:List α}{d:α}{i:Nat}(h:i<l.length):l.getD i d∈l:=by
 rw[aW,a6 h];exact eD h
theorem vk{l:aH}(hl:l.length≤100000)(hN:200000≤N):oQ N l l=some true:=by
 unfold oQ oQ.b
 rw[kS,bo,aj]
 refine wR (F:=λn i=>oQ.l4 N n l l i) (len:=l.length) (λn i hi hr=> ?_) (λn=> ?_) l.length N 0 ω ω ω
 ·unfold oQ.l4 oQ.gN
  rw[aD ω,ah,aU ω ω,ah,ah,K2,bo,aj,aJ (x:=(i:Int)+1) ω ω,an i]
  exact hr
 ·unfold oQ.l4 oQ.gN
  rw[av ω,aj]
namespace Pure
end Pure
end VM
end
section
namespace VM
open Go VM.F Go.RowKit
variable(N:Nat)
namespace Pure
end Pure
end VM
end
section
namespace VM
open Go VM.F Go.RowKit
variable(N:Nat)
namespace Pure
end Pure
def FV(m:aH)(a:cz)(k n:Int):Prop:=(hO k 5→(kb a n).2=true)∧(hO k 6∨hO k 7→ ¬hO (jh m n) 0)
def FW(c:al)(a:cz)(k n:Int):Prop:=(hO k 0∨(kb a k).2=true)∧zR n c.1.length
end VM
end
section
namespace VM
open Go VM.F
variable(N:Nat)
theorem Ir{α:Type}{l:List α}{d:α}{i:Nat}(h:i<l.length):l.getD i d=l[i]:=by
 rw[aW,a6 h];rfl
theorem gz{α:Type}{d:α}{l:List α}{Q:α→Prop}:(∀j,j<l.length→Q (l.getD j d))↔ ∀x∈l,Q x:=
 ⟨λh x hx=>by
  obtain⟨i,hi,e⟩:=nJ hx
  rw[←e,←Ir (d:=d) hi];exact h i hi,λh j hj=>h _ (OB hj)⟩
theorem nY{α:Type}{d:α}{R:α→α→Prop}(tr: ∀a b c,R a b→R b c→R a c): ∀l:List α,(∀j,j<l.length→0<j→R (l.getD (j-1) d) (l.getD j d))↔l.Pairwise R
 |[]=>⟨λ_=>List.Pairwise.nil,λ_ j hj=>nomatch hj⟩
 |[x]=>⟨λ_=>yt R x,λ_ j hj h0=>by have:j<1:=hj;omega⟩
 |x::y::t=>by
  rw[jC,←nY tr (y::t)]
  constructor
  ·intro h
   have IU:R x y:=h 1 (by simp) ω
   have ht: ∀j,j<(y::t).length→0<j→R ((y::t).getD (j-1) d) ((y::t).getD j d):=λj hj h0=>by
    have:=h (j+1) (by simpa using hj) ω
    obtain⟨k,rfl⟩: ∃k,j=k+1:=⟨j-1,ω⟩
    exact this
   have hp:=(nY tr (y::t)).1 ht
   refine⟨λz hz=> ?_,ht⟩
   rcases bc.1 hz with rfl|hz
   ·exact IU
   ·exact tr _ _ _ IU ((jC.1 hp).1 z hz)
  ·rintro⟨h1,h2⟩ j hj h0
   obtain⟨k,rfl⟩: ∃k,j=k+1:=⟨j-1,ω⟩
   cases k with
   |zero=>exact h1 y (ba ..)
   |succ k=>exact h2 (k+1) (by simpa using hj) ω
def Je(x y:j2):Prop:=zR x.1 y.1
theorem FX{a b c:Int}(h1:zR a b)(h2:zR b c):zR a c:=Int.lt_trans h1 h2
def Jf(a b:Int):Prop:=1≤a∧a≤12∧1≤b∧b≤4
theorem nF{m:aH}:dQ m=true↔(∀x∈m,Jf x.1 x.2.1)∧m.Pairwise Je:=by
 unfold dQ
 rw[mU,mO,←nY (R:=Je) (d:=cO) (λ_ _ _=>FX),←gz (d:=cO)]
 exact⟨λh=>⟨λj hj=>⟨(h j hj).1,(h j hj).2.1,(h j hj).2.2.1,(h j hj).2.2.2.1⟩,λj hj h0=>(h j hj).2.2.2.2 h0⟩,λh j hj=>⟨(h.1 j hj).1,(h.1 j hj).2.1,(h.1 j hj).2.2.1,(h.1 j hj).2.2.2,λh0=>h.2 j hj h0⟩⟩
def Dv(m:aH)(n:Int):Prop:= ∃x∈m,hO x.1 n
def FY(a:cz)(n:Int):Prop:= ∃x∈a,hO x.1 n
theorem jP{n:Int}: ∀{m:aH},(∀x∈m,Jf x.1 x.2.1)→(¬hO (gy n m) 0↔Dv m n)
 |[],_=>⟨λh=>absurd rfl h,λ⟨_,h,_⟩=>nomatch h⟩
 |x::t,h=>by
  have ih:=jP (n:=n) λy hy=>h y (a7 _ hy)
  have hx:=h x (ba ..)
  rw[qk]
  by_cases e:x.1=n
  ·rw[af e]
   have g: ∀v:Int,1≤v→ ¬hO v 0:=λv h1 h2=>by unfold hO at h2;omega
   exact⟨λ_=>⟨x,ba ..,e⟩,λ_=>g _ hx.2.2.1⟩
  ·rw[ag e,ih]
   exact⟨λ⟨y,hy,h⟩=>⟨y,a7 _ hy,h⟩,λ⟨y,hy,h'⟩=>(bc.1 hy).elim (λk=>absurd (k▸h') e) λhy=>⟨y,hy,h'⟩⟩
theorem wX{n:Int}: ∀{a:cz},(uQ n a).2=true↔FY a n
 |[]=>⟨λh=>(nomatch h),λ⟨_,h,_⟩=>nomatch h⟩
 |x::t=>by
  rw[uR]
  by_cases e:x.1=n
  ·rw[af e]
   exact⟨λ_=>⟨x,ba ..,e⟩,λ_=>rfl⟩
  ·rw[ag e,wX]
   exact⟨λ⟨y,hy,h⟩=>⟨y,a7 _ hy,h⟩,λ⟨y,hy,h'⟩=>(bc.1 hy).elim (λk=>absurd (k▸h') e) λhy=>⟨y,hy,h'⟩⟩
theorem A7{m:aH}(h:dQ m=true)(n:Int): ¬hO (jh m n) 0↔Dv m n:=by
 unfold jh;rw[af h];exact jP (nF.1 h).1
theorem qv{a:cz}(h:lT a=true)(n:Int):(kb a n).2=true↔FY a n:=by
 unfold kb;rw[af h];exact wX
def z7(m:aH)(a:cz)(k n:Int):Prop:=(hO k 5→FY a n)∧(hO k 6∨hO k 7→Dv m n)
def z8(c:al)(a:cz)(k n:Int):Prop:=(hO k 0∨FY a k)∧zR n c.1.length
def FZ(c:al)(a:cz)(x:Fp):Prop:=FY a x.2.1∧zR x.2.2.1 c.1.length
theorem B5{m:aH}{a:cz}(hm:dQ m=true)(ha:lT a=true){k n:Int}:FV m a k n↔z7 m a k n:=by
 unfold FV z7;rw[qv ha,A7 hm]
theorem B6{c:al}{a:cz}(ha:lT a=true){k n:Int}:FW c a k n↔z8 c a k n:=by
 unfold FW z8;rw[qv ha]
structure RB(C:al)(b:ch):Prop where
 c:lQ C=true
 m:dQ b.1=true
 a:lT b.2.1=true
 ma: ∀x∈b.2.1,Dv b.1 x.2.1
 r:q7 b.2.2.1=true
 t:hO (nW b.2.2.1) 0
 s:xG b.2.2.2.1=true
 o:uP b.2.2.2.2.2.1=true
 n:hO b.2.2.2.2.1.length C.1.length
 rk: ∀x∈b.2.2.1,z7 b.1 b.2.1 x.1 x.2.1
 sk: ∀x∈b.2.2.2.1,z8 C b.2.1 x.1 x.2.1
 ok: ∀x∈b.2.2.2.2.2.1,FZ C b.2.1 x
 p:ji b.2.2.2.2.1=true
theorem F0{c:al}{b:ch}:lW c b=true↔RB c b:=by
 unfold lW xC
 simp only[aV,mU,mO]
 constructor
 ·rintro⟨b1,⟨b2,Is,La⟩,b3,b4,b5,b6,b7,b8,b9,Qy,Sk⟩
  refine⟨b1,b2,Is,?_,b3,b4,b5,b6,b7,?_,?_,?_,Sk⟩
  ·exact(gz (d:=bC) (Q:=λx=>Dv b.1 x.2.1)).1 λj hj=>(jP (nF.1 b2).1).1 (La j hj)
  ·exact(gz (d:=eu) (Q:=λx=>z7 b.1 b.2.1 x.1 x.2.1)).1 λj hj=>(B5 b2 Is).1 (b8 j hj)
  ·exact(gz (d:=eu) (Q:=λx=>z8 c b.2.1 x.1 x.2.1)).1 λj hj=>(B6 Is).1 (b9 j hj)
  ·exact(gz (d:=Au) (Q:=λx=>FZ c b.2.1 x)).1 λj hj=>⟨(qv Is _).1 (Qy j hj).1,(Qy j hj).2⟩
 ·rintro⟨b1,b2,Is,La,b3,b4,b5,b6,b7,b8,b9,Qy,Sk⟩
  refine⟨b1,⟨b2,Is,?_⟩,b3,b4,b5,b6,b7,?_,?_,?_,Sk⟩
  ·exact λj hj=>(jP (nF.1 b2).1).2 ((gz (d:=bC) (Q:=λx=>Dv b.1 x.2.1)).2 La j hj)
  ·exact λj hj=>(B5 b2 Is).2 ((gz (d:=eu) (Q:=λx=>z7 b.1 b.2.1 x.1 x.2.1)).2 b8 j hj)
  ·exact λj hj=>(B6 Is).2 ((gz (d:=eu) (Q:=λx=>z8 c b.2.1 x.1 x.2.1)).2 b9 j hj)
  ·exact λj hj=>let h:=(gz (d:=Au) (Q:=λx=>FZ c b.2.1 x)).2 Qy j hj;⟨(qv Is _).2 h.1,h.2⟩
theorem Dw{l:bF}(h:fV l=true): ∀x∈l,xD x≠0:=by
 unfold fV at h
 rw[mU]at h
 exact(gz (d:=eu) (Q:=λx=>xD x≠0)).1 λj hj=>((bs h) j hj).2.1
end VM
end
section
namespace VM
open Go VM.F Go.RowKit
variable(N:Nat)
theorem F1{c:al}{b:ch}(hR:RB c b)(a:Int):g5 c (posOf b.2.2.2.1 a)=true:=by
 have hk:=(xJ (F0.2 hR)).2
 obtain⟨h1,h2⟩:=zS hk
 have e:posOf b.2.2.2.1 a=g6 a b.2.2.2.1:=by unfold posOf;rw[af hk]
 rw[e]
 have hs:(g6 a b.2.2.2.1).Pairwise (λx y:j2=>zR x.1 y.1):=List.pairwise_map.1 (si (a:=a) h1)
 have hc:=(nY (R:=λx y:j2=>zR x.1 y.1) (d:=cO) (λ_ _ _=>FX) _).2 hs
 unfold g5
 refine fb.2 ⟨bn λj hj=> ?_,hR.c⟩
 obtain⟨x,hx,_,e⟩:=jk (OB (d:=cO) hj)
 have hp:=hc j hj
 unfold my
 rw[e]at hp ⊢
 exact⟨(h2 x hx).1.2.2.1,(hR.sk x hx).2,Dw hk x hx,(h2 x hx).2,λh0=>hp h0⟩
end VM
end
