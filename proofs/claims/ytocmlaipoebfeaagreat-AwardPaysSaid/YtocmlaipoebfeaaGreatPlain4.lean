/- A part of the proof of AwardPays of layer 25: what the functions compute, in plain words. -/
import Derived.Test.YtocmlaipoebfeaaGreatPlain3
set_option linter.all false
section
namespace VM
open Go VM.F
theorem pj{a b:Int}: ∀{l:aj},sN (l.map keyOf)→gb a b l=bT a b l
 |[],_=>rfl
 |x::t,h=>by
  obtain⟨h1,h2⟩:=auz.1 h
  rw[gT,dQ,←pj h2]
  by_cases e1:x.1=a
  ·by_cases e2:x.2.1=b
   ·have hz:bT a b t=0:=m1 fun y hy e=>by
     have hk:=h1 (keyOf y) (auC hy)
     have he:keyOf y=keyOf x:=awC (e.1.trans e1.symm) (e.2.trans e2.symm)
     rw[he]at hk
     exact pZ hk
    rw[atK e1,atK e2,atK ⟨e1,e2⟩,pj h2,hz,auK];rfl
   ·rw[atK e1,atL e2,atL (fun h=>e2 h.2),avm]
  ·rw[atL e1,atL (fun h=>e1 h.1),avm]
theorem IW{t:Int}{w caps:List Int}(rf:t<9223372036854775808)(hc:Dg caps)(hx:(qh t w caps).2.2=0):Full t w caps (qh t w caps).1 (qh t w caps).2.1:=by
 unfold qh at*
 by_cases h1:t<0∨may w=false∨caps.length≠w.length∨may caps=false
 ·rw[atK h1]at hx;exact absurd hx (by decide)
 ·rw[atL h1]at hx ⊢
  by_cases h2:9223372036854775808≤w.sum
  ·rw[atK h2]at hx;exact absurd hx (by decide)
  ·rw[atL h2]
   have h3:may w=true:=by cases h:may w<;>simp_all
   have h4:may caps=true:=by cases h:may caps<;>simp_all
   have h5:caps.length=w.length:=awI fun h=>h1 (Or.inr (Or.inr (Or.inl h)))
   exact FQ _ _ _ (Cg (by omega) rf h3 h4 h5 hc (by omega)) (Or.inl (by have:=Pe w caps (List.replicate w.length 0);omega))
end VM
end
section
namespace VM
open Go VM.F
end VM
end
section
namespace VM
open Go VM.F
theorem Dn{c:aa}{b:ag}(h:cV c b=true): ∀x∈b.2.2.2.1,De x.2.1 c.1.length:=fun x hx=>by
 have hk:=(mi h).2
 have h0:=(gD hk).2 x hx
 unfold cV at h
 simp only[atW]at h
 have h1:=atY h.2.2.2.2.2.2.2.2.1
 obtain⟨i,hi,e⟩:=auD hx
 have h2:=h1 i hi
 unfold fG at h2
 rw[atD,atI hi]at h2
 simp only[avk,e]at h2
 have g: ∀u v:Int,bN u v→LR v c.1.length→De v c.1.length:=fun u v h1 h2=>by unfold bN at h1;unfold LR at h2;unfold De;omega
 exact g _ _ h0.1 h2.2
end VM
end
section
namespace VM
open Go VM.F
end VM
end
section
namespace VM
open Go VM.F
theorem xc{k:Int}: ∀{i:Nat} {l:ay},jI k i l≠[]→(i:Int)≤(jI k i l).getD 0 0∧(jI k i l).getD 0 0<((i+l.length:Nat):Int)
 |i,[],h=>absurd rfl h
 |i,y::t,h=>by
  rw[vk]at h ⊢
  by_cases e:y.1=k
  ·rw[atK e,atN]
   show(i:Int)≤(i:Int)∧(i:Int)<_
   omega
  ·rw[atL e]at h ⊢
   have:=xc h
   rw[atN];omega
def akl(c:aa):Int:=c.2.2.2.2.2.2.1
end VM
end
section
namespace VM
open Go VM.F
end VM
end
section
namespace VM
open Go VM.F
end VM
end
section
namespace VM
open Go VM.F
def akm(x:eG)(z:Int×Int):Int×Int:=if x.2.2.2.1=1 then(z.1+x.2.2.2.2.1,z.2)else(z.1,z.2+x.2.2.2.2.1)
def bsL(a k:Int):a6→Int×Int→Int×Int
 |[],z=>z
 |x::t,z=>bsL a k t (if x.2.1=a∧x.2.2.1=k then akm x z else z)
def nz(i:Int)(z:Int×Int):cE:=(i,(z.1,(z.2,())))
def opF(f:Int→Int×Int):Nat→Nat→aj
 |0,_=>[]
 |m+1,k=>if 0<(f (k:Int)).1+(f (k:Int)).2 then nz (k:Int) (f (k:Int))::opF f m (k+1)else opF f m (k+1)
def bsF(l:a6)(a k:Int):Int×Int:=bsL a k l (0,0)
def Ss(l:a6)(a:Int):aj:=opF (bsF l a) 6 0
def zIn(z:Int×Int)(n:Nat):Prop:=0≤z.1∧z.1≤1000000000*(n:Int)∧0≤z.2∧z.2≤1000000000*(n:Int)
theorem zIn.mono{z:Int×Int}{n m:Nat}(h:zIn z n)(hm:n≤m):zIn z m:=by unfold zIn at*;omega
def oI(o:eG):Int:=o.2.2.1
def oQ(o:eG):Int:=o.2.2.2.2.1
end VM
end
section
namespace VM
open Go VM.F
end VM
end
section
namespace VM
open Go VM.F
def Dp(a b s n:Int)(i:Nat)(p:Int):Prop:=0≤a∧a<n∧0≤b∧b≤33000000000∧0≤s∧s≤33000000000∧(b=0→s≠0)∧(0<i→p<a)
instance(a b s n:Int)(i:Nat)(p:Int):Decidable (Dp a b s n i p):=by unfold Dp;infer_instance
def IX(c:aa)(l:aj)(i:Nat):Prop:=Dp (l.getD i aZ).1 (l.getD i aZ).2.1 (l.getD i aZ).2.2.1 c.1.length i (l.getD (i-1) aZ).1
instance(c:aa)(l:aj):DecidablePred (IX c l):=fun i=>by unfold IX;infer_instance
def Kz(c:aa)(l:aj):Bool:=decide (∀j,j<l.length→IX c l j)&&fV c
def Xy(k:Int):ax→Int→Int
 |[],z=>z
 |x::t,z=>Xy k t (if x.1=k then x.2.1 else z)
def Xz(k:Int):aj→Int×Int→Int×Int
 |[],z=>z
 |x::t,z=>Xz k t (if x.1=k then(x.2.1,x.2.2.1)else z)
def ako(q:Int)(z:Int×Int):Int:=if((q+z.1).natAbs:Int)<((q-z.2).natAbs:Int)then((q-z.2).natAbs:Int)else((q+z.1).natAbs:Int)
def aeY(l:ax)(o:aj)(k:Int):Int:=ako (Xy k l 0) (Xz k o (0,0))
def aeZ(c:aa)(l:ax)(o:aj)(k:Int):Int×Int:=
 if lM c l&&Kz c o then(if 0≤k∧k<(c.1.length:Int)then(aeY l o k,0)else(0,3))else(0,1)
def ZD(c:aa)(i:Nat):Int:=(c.1.getD i aC).2.2.1
def KA(c:aa)(l:ax)(o:aj):Nat→Int
 |0=>0
 |n+1=>KA c l o n+aeY l o (n:Int)*ZD c n
def Su(c:aa)(l:ax)(o:aj):Int×Int:=
 if lM c l&&Kz c o then(KA c l o c.1.length,0)else(0,1)
end VM
end
section
namespace VM
open Go VM.F
end VM
end
section
namespace VM
open Go VM.F
def XA(s p a:Int):Int:=if s=2 then a-p else p-a
def ae0(q s p a:Int):Int:=if XA s p a<0 then 0 else q*XA s p a
def ae1(o:eG)(a:Int):Int:=ae0 (oQ o) o.2.2.2.1 o.2.2.2.2.2.1 a
def ZE(o:eG)(a:Int):Int×Int:=if pg o∧iC a then(ae1 o a,0)else(0,1)
def XB(b:ag)(a:Int):bn:=(eu b.2.1 a).1
def ae2(b:ag)(a:Int):Int:=(XB b a).2.2.2.1
def akp(b:ag)(a:Int):Int:=eN b.1 (XB b a).2.1
def XC(b:ag)(o:eG):aj:=Ss (b.2.2.2.2.2.1++[o]) o.2.1
def Sv(c:aa)(b:ag)(o:eG):Int:=
 if ae2 b o.2.1<(aeZ c (posOf b.2.2.2.1 o.2.1) (XC b o) (oI o)).1 then 9 else
 if c0 b.2.2.1 5 o.2.1-(ZE o (b.2.2.2.2.1.getD (oI o).toNat 0)).1<(Su c (posOf b.2.2.2.1 o.2.1) (XC b o)).1 then 10 else 0
def KB(c:aa)(b:ag)(o:eG):Int:=
 if cV c b then(if pg o then(if(eu b.2.1 o.2.1).2 then(if akp b o.2.1=1 then(if(c.1.length:Int)≤oI o then 3 else Sv c b o)else 7)else 3)else 1)else 1
end VM
end
section
namespace VM
open Go VM.F
def qIn(q:Int):Prop:=1≤q∧q≤1000000000
instance(q:Int):Decidable (qIn q):=by unfold qIn;infer_instance
def vo(a b c d:Int):Prop:=(1≤a∧a≤1099511627776)∧(0≤b∧b<6)∧(c=1∨c=2)∧qIn d
instance(a b c d:Int):Decidable (vo a b c d):=by unfold vo;infer_instance
def vp(h:bn):Prop:=vo h.1 h.2.1 h.2.2.1 h.2.2.2.1
instance(h:bn):Decidable (vp h):=by unfold vp;infer_instance
theorem zQ(N:Nat)(h:bn):Sw N h=some (decide (vp h)):=by
 unfold Sw
 rw[iE h.2.2.2.1]
 rw[dW,uT,vU,zh,dW,dW,dW]
 congr 1
 rw[ave,auH]
 unfold vp vo qIn
 simp only[atW,avf,avp,avz,awg]
 omega
def XD(h:bn)(a q p:Int):eG:=(h.1,(a,(h.2.1,((3-h.2.2.1:Int),(q,(p,()))))))
def ae4(h:bn)(a q p:Int):qO:=if h.2.2.1=1 then((0:Int),(a,(h.2.1,(q,(p,())))))else(a,((0:Int),(h.2.1,(q,(p,())))))
def ae5(c:aa)(b:ag)(h:bn)(q:Int)(r:ag×Int):ag×bn×Int:=
 if r.2=0 then(r.1,(h.1,(h.2.1,(h.2.2.1,((h.2.2.2.1-q:Int),())))),0)else((aS,(cj,(ba,(ba,(cI,(cL,())))))),aC,r.2)
def ae6(c:aa)(b:ag)(h:bn)(a q p:Int):ag×bn×Int:=
 if KB c b (XD h a q p)=0 then ae5 c b h q (O5 c b [ae4 h a q p])else((aS,(cj,(ba,(ba,(cI,(cL,())))))),aC,KB c b (XD h a q p))
def ZF(c:aa)(b:ag)(h:bn)(a q p:Int):ag×bn×Int:=
 if cV c b then(if vp h then(if qIn q then(if iC p then(if h.2.2.2.1<q then((aS,(cj,(ba,(ba,(cI,(cL,())))))),aC,9)else ae6 c b h a q p)else((aS,(cj,(ba,(ba,(cI,(cL,())))))),aC,1))else((aS,(cj,(ba,(ba,(cI,(cL,())))))),aC,1))else((aS,(cj,(ba,(ba,(cI,(cL,())))))),aC,1))else((aS,(cj,(ba,(ba,(cI,(cL,())))))),aC,1)
end VM
end
section
namespace VM
open Go VM.F Go.RowKit
def hC:aa:=([((0:Int),((100:Int),((1:Int),((0:Int),())))),((0:Int),((7:Int),bR))],((0:Int),((0:Int),((0:Int),((0:Int),((1:Int),((10:Int),())))))))
def hR:aj:=[((1:Int),((0:Int),((-90:Int),()))),((5:Int),((1:Int),((90:Int),())))]
def hS:aj:=[((0:Int),((0:Int),((5:Int),()))),((0:Int),((1:Int),((20:Int),()))),((1:Int),((0:Int),((-5:Int),()))),((1:Int),((1:Int),((-20:Int),())))]
def hB:ag:=([((1:Int),((1:Int),()))],([((1:Int),((1:Int),((1:Int),((50:Int),()))))],(hR,(hS,([(100:Int),(7:Int)],(cL,()))))))
def hO:bn:=((4:Int),((0:Int),((2:Int),((6:Int),()))))
theorem xz:(ZF hC hB hO 1 2 99).2.2=0:=by kernel_rfl
namespace Pure
end Pure
end VM
end
section
namespace VM
open Go VM.F
def Ok{α:Type}(P:α→Prop)(o:Option α):Prop:= ∃r,o=some r∧P r
theorem ah{α:Type}{P:α→Prop}{r:α}(h:P r):Ok P (some r):=⟨r,rfl,h⟩
theorem af{α β:Type}{P:β→Prop}{Q:α→Prop}{o:Option α}{f:α→Option β}(h:Ok Q o)(hf: ∀r,Q r→Ok P (f r)):Ok P (o.bind f):=by
 obtain⟨r,rfl,hr⟩:=h
 exact hf r hr
theorem ly{α:Type}{P:α→Prop}{o:Option α}{r:α}(h:o=some r)(hr:P r):Ok P o:=⟨r,h,hr⟩
theorem oO{α:Type}{P:α→Prop}{b:Bool}{x y:Option α}(hx:b=true→Ok P x)(hy:b=false→Ok P y):Ok P (cond b x y):=by
 cases b
 ·exact hy rfl
 ·exact hx rfl
theorem bx{α:Type}{P:α→Prop}{b:Bool}{x y:Option α}(hx:b=false→Ok P x)(hy:b=true→Ok P y):Ok P (cond (!b) x y):=by
 cases b
 ·exact hx rfl
 ·exact hy rfl
theorem av{α:Type}{P:α→Prop}{a b:Int}{x y:Option α}(hx:a<b→Ok P x)(hy:b≤a→Ok P y):Ok P (cond (aL a b) x y):=by
 rw[cg]
 split
 ·exact hx (by assumption)
 ·exact hy (by omega)
theorem c5{α:Type}{P:α→Prop}{a b:Int}{x y:Option α}(hx:a≤b→Ok P x)(hy:b<a→Ok P y):Ok P (cond (bX a b) x y):=by
 rw[bO]
 split
 ·exact hx (by assumption)
 ·exact hy (by omega)
theorem ok_eq{α:Type}{P:α→Prop}{a b:Int}{x y:Option α}(hx:a=b→Ok P x)(hy:a≠b→Ok P y):Ok P (cond (aA a b) x y):=by
 rw[aI]
 split
 ·exact hx (by assumption)
 ·exact hy (by assumption)
theorem bt{α:Type}{P:α→Prop}{a b:Int}{x y:Option α}(hx:a≠b→Ok P x)(hy:a=b→Ok P y):Ok P (cond (!aA a b) x y):=by
 rw[cond_not];exact ok_eq hy hx
theorem au{α:Type}{P:α→Prop}{i:Int}{n:Nat}{x y:Option α}(h:0≤i∧i<(n:Int))(hx:Ok P x):Ok P (cond (aM i n) x y):=by
 rw[aP h.1 h.2];exact hx
theorem aG{α:Type}{P:α→Prop}{n:Nat}{x y:Option α}(h:n<68719476736)(hx:Ok P x):Ok P (cond (small n) x y):=by
 rw[bF h];exact hx
theorem Sx{α:Type}{P:α→Prop}{l c:Int}{x y:Option α}(h:0≤l∧l≤c∧c<68719476736)(hx:Ok P x):Ok P (cond (gm l c) x y):=by
 rw[bM h.1 h.2.1 h.2.2];exact hx
theorem Dq{α:Type}{P:α→Prop}{l h m n:Int}{x y:Option α}(hh:0≤l∧l≤h∧h≤m∧m≤n)(hx:Ok P x):Ok P (cond (fM l h m n) x y):=by
 rw[cA hh.1 hh.2.1 hh.2.2.1 hh.2.2.2];exact hx
theorem gU{σ β:Type}{P:β→Prop}{F:Nat→Int→σ→Option β}{len:Nat}(I:Nat→σ→Prop)
  (hs: ∀n i s,i<len→I i s→(∀s',I (i+1) s'→Ok P (F n ((i+1:Nat):Int) s'))→Ok P (F (n+1) (i:Int) s)) (he: ∀n s,I len s→Ok P (F (n+1) (len:Int) s)):
  ∀m n i s,len-i≤m→m<n→i≤len→I i s→Ok P (F n (i:Int) s)
 |m,0,i,s,_,hn,_,_=>by omega
 |m,n+1,i,s,hm,hn,hi,hI=>by
  by_cases h:i<len
  ·exact hs n i s h hI fun s' sX=>gU I hs he (m-1) n (i+1) s' (by omega) (by omega) (by omega) sX
  ·have:i=len:=by omega
   subst this
   exact he n s hI
theorem bc{σ β:Type}{P:β→Prop}{F:Nat→Int→σ→Option β}{len:Nat}(I:Nat→σ→Prop){N:Nat}{s:σ}(h0:I 0 s)(hN:len<N)
  (hs: ∀n i s,i<len→I i s→(∀s',I (i+1) s'→Ok P (F n ((i+1:Nat):Int) s'))→Ok P (F (n+1) (i:Int) s)) (he: ∀n s,I len s→Ok P (F (n+1) (len:Int) s)):Ok P (F N 0 s):=
 gU I hs he len N 0 s (by omega) hN (by omega) h0
theorem iD{β:Type}{P:β→Prop}{F:Nat→Int→Option β}{len N:Nat}(hN:len<N)
  (hs: ∀n i,i<len→Ok P (F n ((i+1:Nat):Int))→Ok P (F (n+1) (i:Int))) (he: ∀n,Ok P (F (n+1) (len:Int))):Ok P (F N 0):=
 bc (σ:=Unit) (F:=fun n i _=>F n i) (fun _ _=>True) (s:=()) trivial hN (fun n i _ h _ hr=>hs n i h (hr () trivial)) fun n _ _=>he n
theorem ym{σ β:Type}{P:β→Prop}{F:Nat→Int→σ→Option β}(I:Nat→σ→Prop)
  (hs: ∀n (k:Nat) s,I (k+1) s→(∀s',I k s'→Ok P (F n (k:Int) s'))→Ok P (F (n+1) ((k+1:Nat):Int) s)) (he: ∀n s,I 0 s→Ok P (F (n+1) 0 s)):
  ∀(k n:Nat) s,k<n→I k s→Ok P (F n (k:Int) s)
 |0,0,s,hn,_=>by omega
 |0,n+1,s,hn,hI=>he n s hI
 |k+1,0,s,hn,_=>by omega
 |k+1,n+1,s,hn,hI=>hs n k s hI fun s' sX=>ym I hs he k n s' (by omega) sX
def G(m:Nat):(τ:Ty)→τ.den→Prop
 | .int .i64,x=>aD x
 | .int .u64,x=>0≤x∧x<18446744073709551616
 | .slice e,l=>List.length l≤m∧ ∀x∈(l:List e.den),G m e x
 | .pair a b,x=>G m a x.1∧G m b x.2
 |_,_=>True
theorem G.mono{m n:Nat}(h:m≤n): ∀{τ:Ty} {x:τ.den},G m τ x→G n τ x
 | .int k,x,hx=>by cases k<;>exact hx
 | .slice e,l,hl=>⟨aut hl.1 h,fun x hx=>G.mono h (hl.2 x hx)⟩
 | .pair a b,x,hx=>⟨G.mono h hx.1,G.mono h hx.2⟩
 | .bool,_,_=>trivial
 | .str,_,_=>trivial
 | .unit,_,_=>trivial
 | .arr _ _,_,_=>trivial
theorem G.nil{m:Nat}{e:Ty}:G m (.slice e) ([]:List e.den):=⟨auu _,fun x hx=>nomatch hx⟩
theorem G.app{m:Nat}{e:Ty}{l:List e.den}{x:e.den}(h:G m (.slice e) l)(hx:G m e x):G (m+1) (.slice e) (l++[x]):=
 ⟨by have:=h.1;rw[atJ,atG];omega,fun y hy=>by
  rcases atU.1 hy with hy|hy
  ·exact G.mono (by omega) (h.2 y hy)
  ·rw[at2.1 hy];exact G.mono (by omega) hx⟩
theorem G.get{m:Nat}{e:Ty}{l:List e.den}{d:e.den}(h:G m (.slice e) l)(hd:G m e d)(k:Nat):G m e (l.getD k d):=by
 by_cases hk:k<l.length
 ·rw[atD,atI hk];exact h.2 _ (aun hk)
 ·rw[atD,aul (by omega)];exact hd
theorem G.zero(m:Nat): ∀τ:Ty,G m τ τ.zero
 | .int k=>by cases k<;>first|trivial|exact⟨by decide,by decide⟩
 | .slice _=>G.nil
 | .pair a b=>⟨G.zero m a,G.zero m b⟩
 | .bool=>trivial
 | .str=>trivial
 | .unit=>trivial
 | .arr _ _=>trivial
theorem G.at{m:Nat}{e:Ty}{l:List e.den}(h:G m (.slice e) l)(k:Nat):G m e (l.getD k e.zero):=h.get (G.zero m e) k
theorem G.set{m:Nat}{e:Ty}{l:List e.den}{x:e.den}(h:G m (.slice e) l)(hx:G m e x)(k:Nat):G m (.slice e) (l.set k x):=
 ⟨by rw[atX];exact h.1,fun y hy=>by
  rcases avg hy with hy|rfl
  ·exact h.2 y hy
  ·exact hx⟩
theorem dS(x:Int):aD (W .i64 x):=by
 rw[ke];unfold aD;split<;>omega
def Bg(k:Nat)(z:aq):Prop:= ∃v,z=bH v∧Fit v k
theorem Bg.mono{j k:Nat}{z:aq}(h:Bg j z)(hk:j≤k):Bg k z:=by
 obtain⟨v,e,f⟩:=h
 exact⟨v,e,Fit.mono f hk⟩
theorem Bg.zero:Bg 1 (false,(([]:List Int),())):=⟨0,kg.symm,by unfold Fit;decide⟩
theorem aX(N:Nat)(hN:4000000≤N){x:Int}(h:aD x):Ok (Bg 2) (fu N x):=ly (dd N (by omega) h.1 h.2) ⟨x,rfl,Fit.i64 h.1 h.2⟩
theorem gV(N:Nat)(hN:4000000≤N){k:Nat}(hk:k≤90000){u v:aq}(hu:Bg k u)(hv:Bg k v):Ok (Bg (k+1)) (ub N u v):=by
 obtain⟨a,rfl,ha⟩:=hu
 obtain⟨b,rfl,hb⟩:=hv
 exact ly (iz N hN (Fit.mono ha (by omega)) (Fit.mono hb (by omega))) ⟨_,rfl,Fit.add ha hb⟩
theorem vq(N:Nat)(hN:4000000≤N){k:Nat}(hk:k≤90000){u v:aq}(hu:Bg k u)(hv:Bg k v):Ok (Bg (k+1)) (HQ N u v):=by
 obtain⟨a,rfl,ha⟩:=hu
 obtain⟨b,rfl,hb⟩:=hv
 exact ly (od N hN (Fit.mono ha (by omega)) (Fit.mono hb (by omega))) ⟨_,rfl,by rw[avN];exact Fit.add ha (Fit.neg hb)⟩
theorem pk(N:Nat)(hN:4000000≤N){k:Nat}(hk:k≤90000){u:aq}(hu:Bg k u):Ok (Bg k) (M9 N u):=by
 obtain⟨a,rfl,ha⟩:=hu
 exact ly (sl N hN (Fit.mono ha (by omega))) ⟨_,rfl,Fit.neg ha⟩
theorem rP(N:Nat)(hN:4000000≤N){k:Nat}(hk:k≤90000){u:aq}(hu:Bg k u):Ok (Bg k) (On N u):=by
 obtain⟨a,rfl,ha⟩:=hu
 exact ly (Om N hN (Fit.mono ha (by omega))) ⟨_,rfl,Fit.of_le ha (by omega)⟩
theorem jJ(N:Nat)(hN:4000000≤N){j k:Nat}(hj:j≤90000)(hk:k≤90000){u v:aq}(hu:Bg j u)(hv:Bg k v):Ok (Bg (j+k)) (gj N u v):=by
 obtain⟨a,rfl,ha⟩:=hu
 obtain⟨b,rfl,hb⟩:=hv
 exact ly (Fg N hN (Fit.mono ha hj) (Fit.mono hb hk)) ⟨_,rfl,Fit.mul ha hb⟩
theorem yn(N:Nat){k:Nat}{u:aq}(hu:Bg k u):Ok (fun _=>True) (J8 N u):=by
 obtain⟨a,rfl,ha⟩:=hu
 exact ly (pN N a) trivial
theorem oP(N:Nat)(hN:4000000≤N){j k:Nat}(hj:j≤90000)(hk:k≤90000){u v:aq}(hu:Bg j u)(hv:Bg k v):Ok (fun _=>True) (CY N u v):=by
 obtain⟨a,rfl,ha⟩:=hu
 obtain⟨b,rfl,hb⟩:=hv
 exact ly (vP N hN (Fit.mono ha (by omega)) (Fit.mono hb (by omega))) trivial
theorem IY(v:Int):aD (A7 v).1:=by
 by_cases h:aD v
 ·rw[C8 h];exact h
 ·rw[C9 h];unfold aD;decide
theorem tQ(N:Nat){k:Nat}{u:aq}(hu:Bg k u):Ok (fun r=>aD r.1) (rz N u):=by
 obtain⟨a,rfl,ha⟩:=hu
 exact ly (ry N a) (IY a)
end VM
end
section
namespace VM
open Go VM.F
abbrev L3(m:Nat)(l:aj):Prop:=G m (.slice gk) l
def gl(m:Nat)(p:bl):Prop:=p.length≤m∧ ∀y∈p,Bg 8 y.2.2.1
theorem gl.at{m:Nat}{p:bl}(h:gl m p)(i:Nat):Bg 8 (p.getD i ((0:Int),((0:Int),((false,lS),())))).2.2.1:=by
 by_cases hk:i<p.length
 ·rw[atD,atI hk];exact h.2 _ (aun hk)
 ·rw[atD,aul (by omega)];exact Bg.mono Bg.zero (by decide)
theorem gl.nil{m:Nat}:gl m []:=⟨auu _,fun x hx=>nomatch hx⟩
theorem gl.app{m n:Nat}{p q:bl}(h:gl m p)(h':gl n q):gl (m+n) (p++q):=
 ⟨by have:=h.1;have:=h'.1;rw[atJ];omega,fun y hy=>(atU.1 hy).elim (h.2 y) (h'.2 y)⟩
theorem gl.mono{m n:Nat}{p:bl}(h:gl m p)(hm:m≤n):gl n p:=⟨aut h.1 hm,h.2⟩
theorem xd(N:Nat){k:Nat}{u:aq}(hu:Bg k u):Ok (fun r=>aD r.1) (Ph N u):=by
 unfold Ph
 refine af (tQ N hu) fun r h=>bx (fun _=>ah (by unfold aD;decide)) fun _=>ok_eq (fun _=>ah (by unfold aD;decide)) fun _=>ah h
theorem fH{x:Int}(h0: -1000000≤x)(h1:x≤1000000):aD x:=by unfold aD;omega
theorem G3{m:Nat}{a b c:Int}(ha:aD a)(hb:aD b)(hc:aD c):G m gk (a,(b,(c,()))):=⟨ha,hb,hc,trivial⟩
theorem aU:aD 0:=by unfold aD;decide
theorem Mk(N:Nat)(hN:4000000≤N){x k n:Int}{p:bl}(hx:aD x)(hp:gl 50000 p):Ok (fun r=>aD r.1) (oR N x k n p):=by
 have hl:=hp.1
 refine bc (len:=p.length) (F:=fun n' i (s:aq×Bool)=>oR.l3 N n' x k n p s.1 s.2 i) (s:=(_,_)) (fun i s=>Bg (8+i) s.1) (Bg.mono Bg.zero (by omega)) (by omega) (fun n' i s hi hI hr=> ?_) (fun n' s hI=> ?_)
 all_goals unfold oR.l3 oR.ji
 ·rw[ar (x:=(i:Int)+1) (by omega) (by omega),ae i]
  have h1:=hr (s.1,s.2) (Bg.mono hI (by omega))
  repeat' first|exact h1|refine au ⟨by omega,by omega⟩ ?_|refine av (fun _=> ?_) (fun _=> ?_)|refine ok_eq (fun _=> ?_) (fun _=> ?_)|(exfalso;omega)|exact af (gV N hN (by omega) hI (Bg.mono (hp.at _) (by omega))) fun r h=>hr (r,true) h
 ·refine av (fun _=>by omega) fun _=>bx (fun _=>ah hx) fun _=>af (aX N hN hx) fun r h=>af (gV N hN (by omega) hI (Bg.mono h (by omega))) fun r h=>af (tQ N h) fun r h=>ah h
theorem Sy(N:Nat)(hN:4000000≤N){l:aj}{p:bl}{m:Nat}(hm:m≤50000)(hl:L3 m l)(hp:gl 50000 p):Ok (fun r=>L3 200 r.1) (df N l p):=by
 have K8:=hl.1
 refine gU (len:=8) (F:=fun n k (s:aj×Int)=>df.l4 N n l p s.1 s.2 k) (fun i s=>L3 (25*i) s.1∧0≤s.2) (fun n i s hi hI hr=> ?_) (fun n s hI=> ?_) 8 N 1 (_,_) (by omega) (by omega) (by omega) ⟨G.nil,au2 0⟩
 all_goals unfold df.l4 df.cY
 ·refine c5 (fun _=> ?_) (fun _=>by omega)
  refine bc (len:=25) (F:=fun n' j (s:aj×Int)=>df.l7 N (df.l4 N n) n' l p s.1 s.2 (i:Int) j) (s:=s) (fun j s=>L3 (25*i+j) s.1∧0≤s.2) hI (by omega) (fun n' j s hj hI dU=> ?_) (fun n' s hI=> ?_)
  all_goals unfold df.l7 df.oe
  ·have jN: ∀(k x:Int),0≤k→aD x→Ok (fun r=>L3 200 r.1) (df.Pj N (df.l4 N n) (df.l7 N (df.l4 N n) n') l p s.1 k (i:Int) (j:Int) x):=fun k x hk hx=>by
    unfold df.Pj df.IZ
    rw[ar (x:=(j:Int)+1) (by omega) (by omega),ae j]
    have hs:=hI.1.1
    refine af (Mk N hN hx hp) fun r h=>bx (fun _=>ah G.nil) fun _=>bt (fun _=>aG (by rw[atG];omega) (dU (_,k) ⟨G.app hI.1 (G3 (fH (by omega) (by omega)) (fH (by omega) (by omega)) h),hk⟩)) fun _=>dU (s.1,k) ⟨G.mono (by omega) hI.1,hk⟩
   have h0:=jN s.2 0 hI.2 aU
   have Xp:=hI.2
   repeat' first|exact h0|refine au ⟨by omega,by omega⟩ ?_|refine av (fun _=> ?_) (fun _=> ?_)|refine c5 (fun _=> ?_) (fun _=> ?_)|refine ok_eq (fun _=> ?_) (fun _=> ?_)|(exfalso;omega)|exact jN _ _ (by rw[ar (x:=s.2+1) (by omega) (by omega)];omega) (G.at hl _).2.2.1
  ·rw[ar (x:=(i:Int)+1) (by omega) (by omega),ae i]
   exact c5 (fun _=>by omega) fun _=>hr s ⟨G.mono (by omega) hI.1,hI.2⟩
 ·exact c5 (fun _=>by omega) fun _=>ah (G.mono (by decide) hI.1)
theorem I0(N:Nat)(hN:4000000≤N){l t:aj}{m:Nat}(hm:m≤50000)(hl:L3 m l)(ht:L3 50000 t):Ok (fun r=>L3 200 r.1) (bZ N l t):=by
 have K8:=hl.1
 have htl:=ht.1
 refine bc (len:=25) (F:=fun n k (s:aj×Int)=>bZ.l4 N n l t s.1 s.2 k) (s:=(_,_)) (fun i s=>L3 (6*i) s.1∧0≤s.2) ⟨G.nil,au2 0⟩ (by omega) (fun n i s hi hI hr=> ?_) (fun n s hI=> ?_)
 all_goals unfold bZ.l4 bZ.cY
 ·refine c5 (fun _=> ?_) (fun _=>by omega)
  refine bc (len:=6) (F:=fun n' j (s:aj×Int)=>bZ.l7 N (bZ.l4 N n) n' l t s.1 s.2 (i:Int) j) (s:=s) (fun j s=>L3 (6*i+j) s.1∧0≤s.2) hI (by omega) (fun n' j s hj hI dU=> ?_) (fun n' s hI=> ?_)
  all_goals unfold bZ.l7 bZ.oe
  ·have jN: ∀(k x:Int),0≤k→aD x→Ok (fun r=>L3 200 r.1) (bZ.Pj N (bZ.l4 N n) (bZ.l7 N (bZ.l4 N n) n') l t s.1 k (i:Int) (j:Int) x false):=fun k x hk hx=>by
    unfold bZ.Pj bZ.IZ
    have hs:=hI.1.1
    have uy: ∀y:Int,aD y→Ok (fun r=>L3 200 r.1) (cond (!aA y 0) (cond (small (s.1.length+[(((i:Int),((j:Int),(y,()))):cE)].length)) (bZ.l7 N (bZ.l4 N n) n' l t (s.1++[((i:Int),((j:Int),(y,())))]) k (i:Int) (W .i64 ((j:Int)+1))) none) (bZ.l7 N (bZ.l4 N n) n' l t s.1 k (i:Int) (W .i64 ((j:Int)+1)))):=fun y hy=>by
     rw[ar (x:=(j:Int)+1) (by omega) (by omega),ae j]
     exact bt (fun _=>aG (by rw[atG];omega) (dU (_,k) ⟨G.app hI.1 (G3 (fH (by omega) (by omega)) (fH (by omega) (by omega)) hy),hk⟩)) fun _=>dU (s.1,k) ⟨G.mono (by omega) hI.1,hk⟩
    refine bc (len:=t.length) (F:=fun Ch u (z:aq×Bool)=>bZ.Be N (bZ.l4 N n) (bZ.l7 N (bZ.l4 N n) n') Ch l t s.1 k (i:Int) (j:Int) x z.2 z.1 u) (s:=(_,_)) (fun u z=>Bg (3+u) z.1) (Bg.mono Bg.zero (by omega)) (by omega) (fun Ch u z hu hz Pk=> ?_) (fun Ch z hz=> ?_)
    all_goals unfold bZ.Be bZ.zR
    ·rw[ar (x:=(u:Int)+1) (by omega) (by omega),ae u]
     have h1:=Pk (z.1,z.2) (Bg.mono hz (by omega))
     repeat' first|exact h1|refine au ⟨by omega,by omega⟩ ?_|refine av (fun _=> ?_) (fun _=> ?_)|refine ok_eq (fun _=> ?_) (fun _=> ?_)|(exfalso;omega)|exact af (aX N hN (G.at ht _).2.2.1) fun r h=>af (gV N hN (by omega) hz (Bg.mono h (by omega))) fun r h=>Pk (r,true) h
    ·exact av (fun _=>by omega) fun _=>oO (fun _=>af (aX N hN hx) fun r h=>af (gV N hN (by omega) hz (Bg.mono h (by omega))) fun r h=>af (xd N h) fun r h=>bx (fun _=>ah G.nil) fun _=>uy _ h) fun _=>uy _ hx
   have h0:=jN s.2 0 hI.2 aU
   have Xp:=hI.2
   repeat' first|exact h0|refine au ⟨by omega,by omega⟩ ?_|refine av (fun _=> ?_) (fun _=> ?_)|refine c5 (fun _=> ?_) (fun _=> ?_)|refine ok_eq (fun _=> ?_) (fun _=> ?_)|(exfalso;omega)|exact jN _ _ (by rw[ar (x:=s.2+1) (by omega) (by omega)];omega) (G.at hl _).2.2.1
  ·rw[ar (x:=(i:Int)+1) (by omega) (by omega),ae i]
   exact av (fun _=>by omega) fun _=>hr s ⟨G.mono (by omega) hI.1,hI.2⟩
 ·exact c5 (fun _=>by omega) fun _=>ah (G.mono (by decide) hI.1)
theorem G.fm{m:Nat}:G m aB (aS,(cj,(ba,(ba,(cI,(cL,())))))):=G.zero m aB
theorem oA(N:Nat)(hN:4000000≤N){b:ag}{s:aj}{p:bl}{m:Nat}(h2:200≤m)(hm:m≤50000)(hb:G m aB b)(hs:L3 50000 s)(hp:gl 50000 p):Ok (fun r=>G m aB r.1) (zS N b s p):=by
 unfold zS
 exact af (I0 N hN hm hb.2.2.2.1 hs) fun r h=>bx (fun _=>ah G.fm) fun _=>af (Sy N hN hm hb.2.2.1 hp) fun r' h'=>bx (fun _=>ah G.fm) fun _=>ah ⟨hb.1,hb.2.1,G.mono h2 h',G.mono h2 h,hb.2.2.2.2⟩
end VM
end
section
namespace VM
open Go VM.F
theorem bE{α β:Type}{P:β→Prop}{o:Option α}{r:α}{f:α→Option β}(h:o=some r)(hf:Ok P (f r)):Ok P (o.bind f):=by rw[h];exact hf
theorem G.wf{m:Nat}(hm:m≤50000){b:ag}(h:G m aB b):yl b:=by
 obtain⟨h1,h2,h3,h4,h5,h6,_⟩:=h
 exact⟨⟨aut h1.1 (by omega),aut h2.1 (by omega),aut h3.1 (by omega),aut h4.1 (by omega),aut h5.1 (by omega),aut h6.1 (by omega),fun x hx=>(h3.2 x hx).2.2.1,fun x hx=>(h4.2 x hx).2.2.1⟩,aut h3.1 (by omega),aut h4.1 (by omega)⟩
theorem dO(N:Nat)(hN:5000000≤N){c:aa}{b:ag}{m:Nat}(hm:m≤50000)(h:G m aB b):bI N c b=some (cV c b):=OD N hN (G.wf hm h).w
theorem Sz{x:Int}(h:iC x):aD x:=by unfold iC at h;unfold aD;omega
theorem Bf(N:Nat)(hN:4000000≤N)(t:qO)(p:Int):Ok (fun r=>gl 2 r.1) (SA N t p):=by
 unfold SA
 refine bE (B3 N t) (bx (fun _=>ah gl.nil) fun ht=>bE (jb N p) (bx (fun _=>ah gl.nil) fun _=>af (aX N hN (dS _)) fun a ha=>af (aX N hN ?_) fun q hq=>af (jJ N hN (by omega) (by omega) ha hq) fun x hx=>af (yn N hx) fun _ _=>ok_eq (fun _=>ah gl.nil) fun _=> ?_))
 ·have:=atY ht
  unfold qa jH at this
  exact av0 (by decide) this.2.2.2.2.1.1 |> fun h=>⟨h,awc this.2.2.2.2.1.2 (by decide)⟩
 ·unfold I1
  have hr: ∀a:Int,Ok (fun _=>True) (cond (aA a 0) (some ((2:Int),(0:Int))) (some ((5:Int),a))):=fun a=>ok_eq (fun _=>ah trivial) fun _=>ah trivial
  refine af (hr _) fun _ _=>af (hr _) fun _ _=>af (pk N hN (by omega) hx) fun y hy=>ah ⟨atP 2,fun z hz=> ?_⟩
  rcases atZ.1 hz with rfl|hz
  ·exact Bg.mono hx (by omega)
  ·rw[at2.1 hz];exact Bg.mono hy (by omega)
theorem FT(N:Nat)(hN:200000≤N){b:ag}{m:Nat}(hm:m≤50000)(h:G m aB b)(id:Int):Ok (fun _=>True) (C7 N b id):=ly (u6 N b (G.wf hm h).w.a hN id) trivial
theorem Ci(N:Nat)(hN:5000000≤N)(c:aa){b:ag}{l:bg}{m:Nat}(h2:200≤m)(hm:m≤50000)(hb:G m aB b):Ok (fun r=>G m aB r.1) (fI N c b l):=by
 unfold fI fI.b
 refine bE (dO N hN hm hb) (bx (fun _=>ah G.fm) fun hB=>av (fun _=>ah G.fm) fun hl=> ?_)
 obtain⟨hp,_⟩:=iu hB
 refine bc (len:=l.length) (F:=fun n i (_:Unit)=>fI.l4 N n l c b (aS,(cj,(ba,(ba,(cI,(cL,())))))) i) (s:=()) (fun i _=> ∀j,j<i→qa (l.getD j j1)) (fun j hj=>by omega) (by omega) (fun n i _ hi hI hr=> ?_) (fun n _ hI=> ?_)
 all_goals unfold fI.l4 fI.cY
 ·rw[ar (x:=(i:Int)+1) (by omega) (by omega),ae i]
  refine av (fun _=>au ⟨by omega,by omega⟩ (bE (B3 N _) (bx (fun _=>ah G.fm) fun ht=>hr () fun j hj=> ?_))) fun _=>by omega
  by_cases e:j=i
  ·rw[e];exact atY ht
  ·exact hI j (by omega)
 ·refine av (fun _=>by omega) fun _=> ?_
  refine bc (len:=l.length) (F:=fun n i (s:aj×bl)=>fI.ue N n l c b (aS,(cj,(ba,(ba,(cI,(cL,())))))) s.1 s.2 i) (s:=(_,_)) (fun i s=>L3 (2*i) s.1∧gl (2*i) s.2) ⟨G.nil,gl.nil⟩ (by omega) (fun n i s hi hJ hr=> ?_) (fun n s hJ=> ?_)
  all_goals unfold fI.ue fI.tR
  ·have ht:=hI i hi
   unfold qa jH at ht
   have JN:=hJ.1.1
   have Xp:=hJ.2.1
   have g64: ∀x:Int,0≤x∧x≤1000000→aD x:=fun x h=>fH (by omega) (by omega)
   dsimp only
   rw[ar (x:=(i:Int)+1) (by omega) (by omega),ae i,atE]
   refine av (fun _=>au ⟨by omega,by omega⟩ (af (FT N (by omega) hm hb _) fun _ _=>bx (fun _=>ah G.fm) fun _=>af (FT N (by omega) hm hb _) fun _ _=>bx (fun _=>ah G.fm) fun _=>c5 (fun _=>ah G.fm) fun dZ=>aG ?_ (au ⟨ht.2.2.2.1.1,by omega⟩ (af (Bf N (by omega) _ _) fun r h=>aG ?_ (hr (_,_) ⟨?_,gl.mono (gl.app hJ.2 h) (by omega)⟩))))) fun _=>by omega
   ·rw[atN,atG];omega
   ·have:=h.1;omega
   ·have hq:aD (l.getD i j1).2.2.2.1:=⟨av0 (by decide) ht.2.2.2.2.1.1,awc ht.2.2.2.2.1.2 (by decide)⟩
    have kQ:aD (l.getD i j1).2.2.1:=g64 _ ⟨ht.2.2.2.1.1,av0 (Int.le_of_lt ht.2.2.2.1.2) (by decide)⟩
    have h1:=G.app (G.app hJ.1 (G3 (g64 _ ⟨ht.1.1,av0 ht.1.2 (by decide)⟩) kQ hq)) (G3 (g64 _ ⟨ht.2.1.1,av0 ht.2.1.2 (by decide)⟩) kQ (dS (0-(l.getD i j1).2.2.2.1)))
    rw[atV]at h1
    exact G.mono (by omega) h1
  ·exact av (fun _=>by omega) fun _=>af (oA N (by omega) h2 hm hb (G.mono (by omega) hJ.1) (gl.mono hJ.2 (by omega))) fun r h=>ah h
end VM
end
section
namespace VM
open Go VM.F
def Bh(k:Nat)(l:lz):Prop:= ∀x∈l,Bg k x
theorem Bh.mono{j k:Nat}{l:lz}(h:Bh j l)(hk:j≤k):Bh k l:=fun x hx=>Bg.mono (h x hx) hk
theorem Bh.at{k:Nat}{l:lz}(h:Bh k l)(h1:1≤k)(i:Nat):Bg k (l.getD i (false,lS)):=by
 by_cases hk:i<l.length
 ·rw[atD,atI hk];exact h _ (aun hk)
 ·rw[atD,aul (by omega)];exact Bg.mono Bg.zero h1
theorem Bh.set{k:Nat}{l:lz}{x:aq}(h:Bh k l)(hx:Bg k x)(i:Nat):Bh k (l.set i x):=fun y hy=>by
 rcases avg hy with hy|rfl
 ·exact h y hy
 ·exact hx
theorem Bh.rep{k n:Nat}(h:1≤k):Bh k (List.replicate n (false,lS)):=fun x hx=>by
 rw[(List.mem_replicate.1 hx).2];exact Bg.mono Bg.zero h
theorem SB(N:Nat)(hN:5000000≤N)(c:aa){b:ag}{m:Nat}(hm:m≤50000)(hb:G m aB b):Ok (fun r=>(r.2=0→cV c b=true∧r.1.length=4)∧Bh 20 r.1) (m7 N c b):=by
 unfold m7 m7.b
 have w:=(G.wf hm hb).w
 refine bE (dO N hN hm hb) (bx (fun _=>ah ⟨fun h=>absurd h (by decide),fun x hx=>nomatch hx⟩) fun hB=>Sx ⟨by omega,by omega,by omega⟩ ?_)
 obtain⟨hp,Na⟩:=iu hB
 obtain⟨h6,hbk⟩:=w7 (qb hB)
 refine bc (len:=c.1.length) (F:=fun n i (s:lz)=>m7.l5 N n c b s i) (fun i s=>s.length=4∧Bh (8+i) s) ⟨atT ..,Bh.rep (by omega)⟩ (by omega) (fun n i s hi hI hr=> ?_) (fun n s hI=> ?_)
 all_goals unfold m7.l5 m7.dr
 ·have hk:=hbk i hi
  have hl:=hI.1
  rw[ar (x:=(i:Int)+1) (by omega) (by omega),ae i,atE]
  have in1: ∀{x y:Option (lz×Int)},Ok (fun r=>(r.2=0→cV c b=true∧r.1.length=4)∧Bh 20 r.1) x→Ok (fun r=>(r.2=0→cV c b=true∧r.1.length=4)∧Bh 20 r.1) (cond (aM (c.1.getD i aC).1 s.length) x y):=fun h=>au ⟨hk.1,awc hk.2 (show(3:Int)<(s.length:Int)by omega)⟩ h
  exact av (fun _=>au ⟨by omega,by omega⟩ (in1 (bE (ss N w.s (by omega) 0 (i:Int)) (af (aX N (by omega) (O6 w.qs 0 (i:Int))) fun a ha=>au ⟨by omega,by omega⟩ (af (aX N (by omega) (Sz (FH Na (by omega)))) fun p hp=>af (jJ N (by omega) (by omega) (by omega) ha hp) fun x hx=>af (gV N (by omega) (by omega) (Bh.at hI.2 (by omega) _) (Bg.mono hx (by omega))) fun y hy=>in1 (hr _ ⟨by rw[atX];exact hl,Bh.set (Bh.mono hI.2 (by omega)) hy _⟩)))))) fun _=>by omega
 ·exact av (fun _=>by omega) fun _=>ah ⟨fun _=>⟨hB,hI.1⟩,Bh.mono hI.2 (by omega)⟩
theorem Ml(N:Nat)(hN:5000000≤N)(c:aa)(hc:aD (akl c)){b:ag}{m:Nat}(hm:m≤50000)(hb:G m aB b)(next:Int):Ok (fun r=>G 4 (.slice cN) r.1) (qi N c b next):=by
 unfold qi qi.b
 refine af (SB N hN c hm hb) fun z hz=>bt (fun _=>ah G.nil) fun h0=>av (fun _=>ah G.nil) fun h1=>av (fun _=>ah G.nil) fun h2=> ?_
 obtain⟨hB,hl4⟩:=hz.1 h0
 obtain⟨hp,Na⟩:=iu hB
 obtain⟨h6,hbk⟩:=w7 (qb hB)
 refine bc (len:=4) (F:=fun n k (s:Int×ay)=>qi.l6 N n s.1 c b z.1 s.2 k) (s:=(_,_)) (fun k s=>G k (.slice cN) s.2∧next≤s.1∧s.1≤next+k) ⟨G.nil,by omega,by omega⟩ (by omega) (fun n k s hk hI hr=> ?_) (fun n s hI=> ?_)
 all_goals unfold qi.l6 qi.oX
 ·have JN:=hI.1.1
  have Xp:=hI.2
  rw[ar (x:=(k:Int)+1) (by omega) (by omega),ae k]
  have n7:=hr s ⟨G.mono (by omega) hI.1,by omega,by omega⟩
  refine av (fun _=>bE (IP N (by omega) c (by omega) (k:Int)) (au ⟨by omega,by omega⟩ (af (rP N (by omega) (by omega) (Bh.at hz.2 (by omega) _)) fun u hu=>ok_eq (fun _=>n7) fun ib=>af (aX N (by omega) hc) fun v hv=>af (oP N (by omega) (by omega) (by omega) hu hv) fun _ _=>c5 (fun _=>n7) fun _=> ?_))) fun _=>by omega
  have ae8:fj c (k:Int)≠[]:=fun e=>ib (by rw[e];rfl)
  have hh:0≤(fj c (k:Int)).getD 0 0∧(fj c (k:Int)).getD 0 0<(c.1.length:Int):=by
   have h1:=ae8
   unfold fj at h1 ⊢
   rw[qb hB,atK rfl]at h1 ⊢
   have:=xc h1
   omega
  have hl0:0<(fj c (k:Int)).length:=au1.2 ae8
  have hpx:=FH Na (i:=((fj c (k:Int)).getD 0 0).toNat) (by omega)
  have hj: ∀q:Int,aD q→Ok (fun r=>G 4 (.slice cN) r.1) (qi.Bi N (qi.l6 N n) s.1 c b z.1 s.2 (k:Int) (fj c (k:Int)) q):=fun q hq=>by
   unfold qi.Bi qi.tS
   rw[ar (x:=(k:Int)+1) (by omega) (by omega),ae k,ar (x:=s.1+1) (by omega) (by omega)]
   have uy: ∀d:Int,aD d→Ok (fun r=>G 4 (.slice cN) r.1) (cond (small (s.2.length+[((s.1,((fj c (k:Int)).getD 0 0,(d,(q,())))):bn)].length)) (qi.l6 N n (s.1+1) c b z.1 (s.2++[(s.1,((fj c (k:Int)).getD 0 0,(d,(q,()))))]) ((k+1:Nat):Int)) none):=fun d hd=>
    aG (by rw[List.length_singleton];omega) (hr (_,_) ⟨G.app hI.1 ⟨by show aD s.1;unfold aD;omega,(show aD ((fj c (k:Int)).getD 0 0)from fH (by omega) (by omega)),hd,hq,trivial⟩,by dsimp only;omega,by dsimp only;omega⟩)
   exact ok_eq (fun _=>n7) fun _=>au ⟨by omega,by omega⟩ (au ⟨by omega,by omega⟩ (af (yn N (Bh.at hz.2 (by omega) _)) fun _ _=>av (fun _=>uy 2 (fH (by omega) (by omega))) fun _=>uy 1 (fH (by omega) (by omega))))
  have hb9:aD 1000000000:=by unfold aD;decide
  refine au ⟨by omega,by omega⟩ (au ⟨hh.1,by show(fj c (k:Int)).getD 0 0<_;omega⟩ ?_)
  obtain⟨a,rfl,ha⟩:=hu
  have akr:=hpx
  unfold iC at akr
  rw[show(0:Int).toNat=0 from rfl]
  refine bE (dd N (by omega) (by omega) (by omega)) (bE (Ka N hN (by omega) (Fit.mono ha (by omega)) ((Fit.i64 (by omega) (by omega)).mono (by omega))) (bE (ry N _) (bx (fun _=>hj _ hb9) fun _=>av (fun _=>hj _ hb9) fun _=>hj _ (IY _))))
 ·exact av (fun _=>by omega) fun _=>ah hI.1
end VM
end
section
namespace VM
open Go VM.F
theorem zT(N:Nat)(hN:200000≤N){l:a6}(hl:l.length≤100000)(a:Int):Ok (fun r=>L3 6 r) (eQ N l a):=by
 unfold eQ eQ.b
 refine bc (len:=6) (F:=fun n k (s:aj)=>eQ.l3 N n l a s k) (fun k s=>L3 k s) G.nil (by omega) (fun n k s hk hI hr=> ?_) (fun n s hI=> ?_)
 all_goals unfold eQ.l3 eQ.ji
 ·have hs:=hI.1
  refine av (fun _=> ?_) fun _=>by omega
  refine bc (len:=l.length) (F:=fun n' i (x:cE)=>eQ.l7 N (eQ.l3 N n) n' l a s (k:Int) x i) (fun i x=>G 6 gk x) (G3 (fH (by omega) (by omega)) aU aU) (by omega) (fun n' i x hi hx dU=> ?_) (fun n' x hx=> ?_)
  all_goals unfold eQ.l7 eQ.oe
  ·rw[ar (x:=(i:Int)+1) (by omega) (by omega),ae i]
   have h1:=dU x hx
   repeat' first|exact h1|refine au ⟨by omega,by omega⟩ ?_|refine av (fun _=> ?_) (fun _=> ?_)|refine bt (fun _=> ?_) (fun _=> ?_)|refine ok_eq (fun _=> ?_) (fun _=> ?_)|(exfalso;omega)|exact dU (_,(_,(_,_))) ⟨hx.1,dS _,hx.2.2.1,trivial⟩|exact dU (_,(_,(_,_))) ⟨hx.1,hx.2.1,dS _,trivial⟩
  ·rw[ar (x:=(k:Int)+1) (by omega) (by omega),ae k]
   have h1:=hr s (G.mono (by omega) hI)
   have h2:=hr (s++[x]) ⟨by rw[atJ,atG];omega,fun y hy=>by
    rcases atU.1 hy with hy|hy
    ·exact G.mono (by omega) (hI.2 y hy)
    ·rw[at2.1 hy];exact⟨hx.1,hx.2.1,hx.2.2.1,trivial⟩⟩
   repeat' first|exact h1|exact h2|refine aG (by rw[atG];omega) ?_|refine av (fun _=> ?_) (fun _=> ?_)|(exfalso;omega)
 ·exact av (fun _=>by omega) fun _=>ah hI
theorem Cj(N:Nat)(hN:200000≤N)(c:aa){l:aj}(hl:l.length≤100000):Ok (fun _=>True) (mm N c l):=by
 unfold mm mm.b
 refine bE (m0 N (by omega) c) (bx (fun _=>ah trivial) fun _=>iD (len:=l.length) (F:=fun n i=>mm.l5 N n l c 33000000000 i) (by omega) (fun n i hi hr=> ?_) fun n=> ?_)
 all_goals unfold mm.l5 mm.dr
 ·rw[ar (x:=(i:Int)+1) (by omega) (by omega),ae i]
  dsimp only
  repeat' first|exact hr|exact ah trivial|refine au ⟨by omega,by omega⟩ ?_|refine au (by rw[ar (x:=(i:Int)-1) (by omega) (by omega)];omega) ?_|refine av (fun _=> ?_) (fun _=> ?_)|refine c5 (fun _=> ?_) (fun _=> ?_)|refine ok_eq (fun _=> ?_) (fun _=> ?_)|(exfalso;omega)
 ·exact av (fun _=>by omega) fun _=>ah trivial
theorem Dr{k:Nat}(h:1≤k):Bg k (false,(([]:List Int),())):=Bg.mono Bg.zero h
theorem Pl(N:Nat)(hN:4000000≤N)(c:aa){l:ax}{o:aj}{m:Nat}(hm:m≤50000)(hl:G m (.slice gW) l)(ho:L3 m o)(k:Int):Ok (fun r=>Bg 3 r.1) (fJ N c l o k):=by
 have h1:=hl.1
 have h2:=ho.1
 unfold fJ fJ.b
 refine bE (u7 N (by omega) c (by omega)) (bx (fun _=>ah (Dr (by omega))) fun _=>af (Cj N (by omega) c (by omega)) fun _ _=>bx (fun _=>ah (Dr (by omega))) fun _=>av (fun _=>ah (Dr (by omega))) fun _=>c5 (fun _=>ah (Dr (by omega))) fun _=> ?_)
 refine bc (len:=l.length) (F:=fun n i (q:aq)=>fJ.l7 N n l o k (false,(([]:List Int),())) q (false,(([]:List Int),())) (false,(([]:List Int),())) i) (fun _ q=>Bg 2 q) (Dr (by omega)) (by omega) (fun n i q hi hq hr=> ?_) (fun n q hq=> ?_)
 all_goals unfold fJ.l7 fJ.oe
 ·rw[ar (x:=(i:Int)+1) (by omega) (by omega),ae i]
  exact av (fun _=>au ⟨by omega,by omega⟩ (ok_eq (fun _=>au ⟨by omega,by omega⟩ (af (aX N hN (G.at hl _).2.1) fun r h=>hr r h)) fun _=>hr q hq)) fun _=>by omega
 ·refine av (fun _=>by omega) fun _=> ?_
  refine bc (len:=o.length) (F:=fun n i (z:aq×aq)=>fJ.nE N n o k (false,(([]:List Int),())) q z.1 z.2 i) (s:=(_,_)) (fun _ z=>Bg 2 z.1∧Bg 2 z.2) ⟨Dr (by omega),Dr (by omega)⟩ (by omega) (fun n i z hi hz hr=> ?_) (fun n z hz=> ?_)
  all_goals unfold fJ.nE fJ.mf
  ·rw[ar (x:=(i:Int)+1) (by omega) (by omega),ae i]
   exact av (fun _=>au ⟨by omega,by omega⟩ (ok_eq (fun _=>au ⟨by omega,by omega⟩ (af (aX N hN (G.at ho _).2.1) fun r h=>au ⟨by omega,by omega⟩ (af (aX N hN (G.at ho _).2.2.1) fun r' h'=>hr (r,r') ⟨h,h'⟩))) fun _=>hr z hz)) fun _=>by omega
  ·exact av (fun _=>by omega) fun _=>af (gV N hN (by omega) hq hz.1) fun x hx=>af (rP N hN (by omega) hx) fun x hx=>af (vq N hN (by omega) hq hz.2) fun y hy=>af (rP N hN (by omega) hy) fun y hy=>af (oP N hN (by omega) (by omega) hy hx) fun _ _=>av (fun _=>ah hy) fun _=>ah hx
theorem FU(N:Nat)(hN:4000000≤N){c:aa}{l:ax}{o:aj}{m:Nat}(hm:m≤50000)(hc:G m an c)(hl:G m (.slice gW) l)(ho:L3 m o):Ok (fun r=>Bg 60000 r.1) (mo N c l o):=by
 have h1:=hl.1
 have h2:=ho.1
 have h3:=hc.1.1
 unfold mo mo.b
 refine bE (u7 N (by omega) c (by omega)) (bx (fun _=>ah (Dr (by omega))) fun _=>af (Cj N (by omega) c (by omega)) fun _ _=>bx (fun _=>ah (Dr (by omega))) fun _=> ?_)
 refine bc (len:=c.1.length) (F:=fun n i (t:aq)=>mo.l5 N n l o c (false,(([]:List Int),())) t i) (fun i t=>Bg (8+i) t) (Dr (by omega)) (by omega) (fun n i t hi ht hr=> ?_) (fun n t ht=> ?_)
 all_goals unfold mo.l5 mo.dr
 ·rw[ar (x:=(i:Int)+1) (by omega) (by omega),ae i]
  exact av (fun _=>af (Pl N hN c hm hl ho _) fun x hx=>au ⟨by omega,by omega⟩ (af (aX N hN (G.at hc.1 _).2.2.1) fun r h=>af (jJ N hN (by omega) (by omega) hx h) fun y hy=>af (gV N hN (by omega) ht (Bg.mono hy (by omega))) fun z hz=>hr z hz)) fun _=>by omega
 ·exact av (fun _=>by omega) fun _=>ah (Bg.mono ht (by omega))
theorem ae9{m:Nat}{l:aj}(h:L3 m l)(a:Int):G m (.slice gW) (posOf l a):=by
 refine⟨aut (Md a l) h.1,fun y hy=> ?_⟩
 unfold posOf at hy
 split at hy
 ·obtain⟨x,hx,_,e⟩:=p9 hy
  rw[e];exact⟨(h.2 x hx).2.1,(h.2 x hx).2.2.1,trivial⟩
 ·nomatch hy
theorem FV(N:Nat)(hN:200000≤N){l:aj}{m:Nat}(hm:m≤50000)(h:L3 m l)(a:Int):Ok (G m (.slice gW)) (s9 N l a):=ly (O1 N (aut h.1 (by omega)) hN a) (ae9 h a)
theorem FW(N:Nat)(hN:4000000≤N){c:aa}{b:ag}{l:a6}{m:Nat}(h2:200≤m)(hm:m≤40000)(hc:G m an c)(hb:G m aB b)(hl:l.length≤1000)(a:Int):Ok (Bg 60000) (Pm N c b a l):=by
 have ho:=hb.2.2.2.2.2.1.1
 unfold Pm
 refine aG (by rw[aua];omega) ?_
 dsimp only
 rw[aug]
 exact aG (by omega) (af (FV N (by omega) (by omega) hb.2.2.2.1 a) fun r h=>af (zT N (by omega) (by rw[atJ];omega) a) fun o h'=>af (FU N hN (by omega) hc h (G.mono (by omega) h')) fun x hx=>ah hx)
end VM
end
section
namespace VM
open Go VM.F
theorem SC(N:Nat)(hN:4000000≤N){o:eG}{m:Nat}(ho:G m jR o)(a:Int):Ok (fun r=>Bg 4 r.1) (SD N o a):=by
 unfold SD
 have hw: ∀x:Int,Ok (fun r:aq×Int=>Bg 4 r.1) ((fu N o.2.2.2.2.1).bind fun r5=>(fu N (W .i64 x)).bind fun r6=>(gj N r5 r6).bind fun r7=>some (r7,(0:Int))):=fun x=>
  af (aX N hN ho.2.2.2.2.1) fun r h=>af (aX N hN (dS _)) fun r' h'=>af (jJ N hN (by omega) (by omega) h h') fun y hy=>ah hy
 exact bE (yg N o) (bx (fun _=>ah (Dr (by omega))) fun _=>bE (jb N a) (bx (fun _=>ah (Dr (by omega))) fun _=>ok_eq (fun _=>av (fun _=>ah (Dr (by omega))) fun _=>hw _) fun _=>av (fun _=>ah (Dr (by omega))) fun _=>hw _))
theorem ZG{m:Nat}{a:ay}(h:G m (.slice cN) a)(id:Int):G m cN (eu a id).1:=by
 unfold eu
 split
 ·have: ∀l:ay,(∀x∈l,G m cN x)→G m cN (s6 id l).1:=by
   intro l
   induction l with
   |nil=>intro _;exact G.zero m cN
   |cons x t ih=>
    intro hx
    rw[pW]
    split
    ·exact hx x (atS ..)
    ·exact ih fun y hy=>hx y (atM _ hy)
  exact this a h.2
 ·exact G.zero m cN
theorem su(N:Nat)(hN:200000≤N){a:ay}{m:Nat}(hm:m≤50000)(h:G m (.slice cN) a)(id:Int):Ok (fun r=>G m cN r.1) (zj N a id):=ly (Fl N (aut h.1 (by omega)) hN id) (ZG h id)
theorem mH(N:Nat)(hN:200000≤N){a:ax}{m:Nat}(hm:m≤50000)(h:G m (.slice gW) a)(id:Int):Ok (fun _=>True) (uW N a id):=ly (zi N (aut h.1 (by omega)) hN id) trivial
theorem m8(N:Nat)(hN:200000≤N){l:aj}{m:Nat}(hm:m≤50000)(h:L3 m l)(a b:Int):Ok aD (ov N l a b):=ly (tL N (aut h.1 (by omega)) hN a b) (O0 (fun x hx=>(h.2 x hx).2.2.1) a b)
theorem FX(N:Nat)(hN:5000000≤N){c:aa}{b:ag}{o:eG}{m:Nat}(h2:200≤m)(hm:m≤40000)(hc:G m an c)(hb:G m aB b)(ho:G m jR o):Ok (fun _=>True) (Pn N c b o):=by
 have DZ:=hb.2.2.2.2.2.1.1
 unfold Pn
 refine bE (dO N hN (by omega) hb) (bx (fun _=>ah trivial) fun hB=>bE (yg N o) (bx (fun _=>ah trivial) fun hr=>af (su N (by omega) (by omega) hb.2.1 _) fun x hx=>bx (fun _=>ah trivial) fun _=>af (mH N (by omega) (by omega) hb.1 _) fun _ _=>bt (fun _=>ah trivial) fun _=>c5 (fun _=>ah trivial) fun hi=>aG (by rw[aua];omega) ?_))
 have hr:=atY hr
 unfold pg tF at hr
 obtain⟨hp,_⟩:=iu hB
 dsimp only
 rw[aug]
 exact aG (by rw[atG];omega) (af (FV N (by omega) (by omega) hb.2.2.2.1 _) fun r h=>af (zT N (by omega) (by rw[atJ,atG];omega) _) fun q h'=>af (Pl N (by omega) c (by omega) h (G.mono (by omega) h') _) fun t ht=>af (aX N (by omega) hx.2.2.2.1) fun v hv=>af (oP N (by omega) (by omega) (by omega) ht hv) fun _ _=>av (fun _=>ah trivial) fun _=>au ⟨hr.2.2.1.1,by rw[hp];exact hi⟩ (af (SC N (by omega) ho _) fun e he=>af (m8 N (by omega) (by omega) hb.2.2.1 _ _) fun g hg=>af (aX N (by omega) hg) fun y hy=>af (vq N (by omega) (by omega) (Bg.mono hy (by omega)) he) fun z hz=>af (FW N (by omega) h2 hm hc hb (by rw[atG];omega) _) fun u hu=>af (oP N (by omega) (by omega) (by omega) hz hu) fun _ _=>av (fun _=>ah trivial) fun _=>ah trivial))
theorem SE(N:Nat)(hN:5000000≤N){c:aa}{b:ag}{h:bn}{a q p:Int}{m:Nat}(h2:200≤m)(hm:m≤40000)(hc:G m an c)(hb:G m aB b)(hh:G m cN h)(ha:aD a)(hq:aD q)(hp:aD p):Ok (fun r=>G m aB r.1∧G m cN r.2.1) (qj N c b h a q p):=by
 have ho:G m jR (h.1,(a,(h.2.1,(W .i64 (3-h.2.2.1),(q,(p,())))))):=⟨hh.1,ha,hh.2.1,dS _,hq,hp,trivial⟩
 have eR: ∀e:Int,Ok (fun r:ag×bn×Int=>G m aB r.1∧G m cN r.2.1) (some ((aS,(cj,(ba,(ba,(cI,(cL,())))))),(aC,e))):=fun e=>ah ⟨G.fm,G.zero m cN⟩
 unfold qj qj.b
 have hj: ∀t:qO,Ok (fun r=>G m aB r.1∧G m cN r.2.1) (qj.j14 N q c b h (aS,(cj,(ba,(ba,(cI,(cL,())))))) aC t):=fun t=>by
  unfold qj.j14 qj.ZH
  exact af (Ci N hN c h2 (by omega) hb) fun r hr=>bt (fun _=>eR _) fun _=>ah ⟨hr,hh.1,hh.2.1,hh.2.2.1,dS _,trivial⟩
 exact bE (dO N hN (by omega) hb) (bx (fun _=>eR _) fun _=>bE (zQ N h) (bx (fun _=>eR _) fun _=>av (fun _=>eR _) fun _=>av (fun _=>eR _) fun _=>av (fun _=>eR _) fun _=>av (fun _=>eR _) fun _=>av (fun _=>eR _) fun _=>av (fun _=>eR _) fun _=>av (fun _=>eR _) fun _=>af (FX N hN h2 hm hc hb ho) fun e _=>bt (fun _=>eR _) fun _=>ok_eq (fun _=>hj _) fun _=>hj _))
end VM
end
section
namespace VM
open Go VM.F
def Dk(k:Nat)(d:aJ):Prop:=(∀x∈(d.1:List Int),0≤x∧x<18446744073709551616)∧0≤(d.2.1:Int)∧(d.2.1:Int)≤k
theorem Dk.mono{j k:Nat}{d:aJ}(h:Dk j d)(hk:j≤k):Dk k d:=⟨h.1,h.2.1,av0 h.2.2 (by omega)⟩
def m9:Nat:=1000000000
theorem KC(N:Nat){k:Nat}{d:aJ}(hk:k≤m9)(h:Dk k d):Ok (fun r=>(0≤r.1∧r.1<18446744073709551616)∧Dk (k+1) r.2) (F42 N d):=by
 obtain⟨h1,h2,h3⟩:=h
 unfold m9 at hk
 unfold F42
 have hw: ∀i:Int,0≤i→i≤(k:Int)→0≤W .i64 (i+1)∧W .i64 (i+1)≤((k+1:Nat):Int):=fun i h0 h1=>by rw[ar (by omega) (by omega)];omega
 have hd:Dk (k+1) (d.1,(W .i64 (d.2.1+1),d.2.2)):=⟨h1,hw _ h2 h3⟩
 have hg: ∀(l:List Int) (i:Int),(∀x∈l,0≤x∧x<18446744073709551616)→0≤l.getD i.toNat 0∧l.getD i.toNat 0<18446744073709551616:=fun l i hl=>by
  by_cases hi:i.toNat<l.length
  ·rw[atD,atI hi];exact hl _ (aun hi)
  ·rw[atD,aul (by omega)];decide
 exact av (fun dZ=>au ⟨h2,dZ⟩ (ah ⟨hg _ _ h1,hd⟩)) fun _=>ah ⟨(show(0:Int)≤0∧(0:Int)<18446744073709551616 by decide),hd⟩
theorem rem_in{x y:Int}(h0:0≤x)(hy:0<y):0≤rem x y∧rem x y<y:=by
 unfold rem;rw[fg]
 exact⟨Int.tmod_nonneg _ h0,awD _ hy⟩
theorem gG(N:Nat){k:Nat}{d:aJ}{n:Int}(hn:0<n∧n<1000000)(h:Dk k d)(hk:k≤m9:=by first|decide|(unfold m9;omega)):Ok (fun r=>(0≤r.1∧r.1<n)∧Dk (k+1) r.2) (oB N d n):=by
 unfold oB
 refine af (KC N hk h) fun r hr=> ?_
 dsimp only
 rw[dj (x:=n) (by omega) (by omega)]
 have:=rem_in hr.1.1 hn.1
 refine ok_eq (fun _=>by omega) fun _=>ah ⟨?_,hr.2⟩
 dsimp only
 rw[ar (by omega) (by omega)]
 exact this
theorem oS(N:Nat){k:Nat}{d:aJ}{n:Int}(hn:0<n∧n<1000000)(h:Dk k d)(hk:k≤m9:=by first|decide|(unfold m9;omega)):Ok (fun r=>Dk (k+1) r.2) (I2 N d n):=by
 unfold I2
 exact af (gG N hn h hk) fun r hr=>ah hr.2
theorem oC(N:Nat){k:Nat}{d:aJ}(h:Dk k d)(hk:k≤m9:=by first|decide|(unfold m9;omega)):Ok (fun r=>aD r.1∧Dk (k+1) r.2) (HS N d):=by
 unfold HS
 refine af (KC N hk h) fun r hr=>ok_eq (fun _=>by omega) fun _=> ?_
 dsimp only
 repeat' first|exact ah ⟨dS _,hr.2⟩|refine av (fun _=> ?_) (fun _=> ?_)|refine ok_eq (fun _=> ?_) (fun _=> ?_)|(exfalso;omega)
theorem FY{x y:Int}(hy:0<y)(hy1:y<9223372036854775808):aD (rem x y):=by
 unfold rem;rw[fg]
 have h1:=awD x hy
 have h2: -y<x.tmod y:=by
  have:=awD (-x) hy
  rw[Int.neg_tmod]at this;omega
 unfold aD;omega
theorem wc{x y:Int}(hx:aD x)(hy:aD y):aD (mx x y):=by unfold mx;rw[fg];split<;>assumption
theorem SF{x y:Int}(hx:aD x)(hy:aD y):aD (mn x y):=by unfold mn;rw[fg];split<;>assumption
theorem iR{x n:Int}(h:0≤x∧x<n)(hn:n≤1000000):aD x:=fH (by omega) (by omega)
theorem Mm(N:Nat)(hN:100≤N){d:aJ}(h:Dk 0 d):Ok (fun r=>(G 5 an r.1∧1≤r.1.1.length)∧Dk 1000 r.2) (qk N d):=by
 unfold qk qk.b
 refine af (gG N (by decide) h) fun r hr=> ?_
 rw[ar (x:=1+r.1) (by omega) (by omega)]
 obtain⟨k,hk⟩: ∃k:Nat,1+r.1=(k:Int):=⟨(1+r.1).toNat,by omega⟩
 rw[hk]
 refine ym (F:=fun n x (s:aJ×ay)=>qk.l3 N n s.1 ([],eD) ([],eD) s.2 x) (fun x s=>x+s.2.length=k∧Dk (1+20*s.2.length) s.1∧G 4 (.slice cN) s.2) (fun n x s hI hr=> ?_) (fun n s hI=> ?_) k N (r.2,_) (by omega) ⟨rfl,hr.2,G.nil⟩
 all_goals unfold qk.l3 qk.ji
 ·obtain⟨hx,hd,hG⟩:=hI
  have hl:=hG.1
  have uy: ∀(d:aJ) (x4:bn),Dk (1+20*s.2.length+10) d→G 4 cN x4→Ok (fun r=>(G 5 an r.1∧1≤r.1.1.length)∧Dk 1000 r.2) (cond (small (s.2.length+[x4].length)) (qk.l3 N n d ([],eD) ([],eD) (s.2++[x4]) (W .i64 (((x+1:Nat):Int)-1))) none):=fun d x4 hd hx4=>by
   rw[ar (x:=((x+1:Nat):Int)-1) (by omega) (by omega),show((x+1:Nat):Int)-1=(x:Int)by omega]
   refine aG (by rw[atG];omega) (hr (_,_) ⟨by rw[atJ,atG];omega,Dk.mono hd (by rw[atJ,atG];omega),?_⟩)
   refine⟨by rw[atJ,atG];omega,fun y hy=> ?_⟩
   rcases atU.1 hy with hy|hy
   ·exact hG.2 y hy
   ·rw[at2.1 hy];exact hx4
  have hj: ∀(d:aJ) (x5:bn),Dk (1+20*s.2.length+6) d→G 4 cN x5→Ok (fun r=>(G 5 an r.1∧1≤r.1.1.length)∧Dk 1000 r.2) (qk.j8 N (qk.l3 N n) d ([],eD) ([],eD) s.2 ((x+1:Nat):Int) x5):=fun d x5 hd hx5=>by
   unfold qk.j8 qk.IK
   refine af (oS N (by decide) hd) fun r hd=>oO (fun _=> ?_) fun _=>uy _ _ (Dk.mono hd (by omega)) hx5
   refine af (oC N hd) fun r ⟨_,hd⟩=>ok_eq (fun _=>by omega) fun _=> ?_
   dsimp only
   exact af (oC N hd) fun r ⟨_,hd⟩=>ok_eq (fun _=>by omega) fun _=>uy _ _ (Dk.mono hd (by omega)) ⟨hx5.1,hx5.2.1,FY (by decide) (by decide),FY (by decide) (by decide),hx5.2.2.2.2⟩
  refine av (fun _=> ?_) fun _=>by omega
  refine af (gG N (by decide) hd) fun a ⟨ha,hd⟩=>af (gG N (by decide) hd) fun b ⟨hb,hd⟩=>af (gG N (by decide) hd) fun c ⟨hc,hd⟩=>af (gG N (by decide) hd) fun e ⟨he,hd⟩=>af (oS N (by decide) hd) fun r hd=>oO (fun _=>af (oC N hd) fun r ⟨_,hd⟩=>ok_eq (fun _=>by omega) fun _=>hj _ _ (Dk.mono hd (by omega)) ?_) fun _=>hj _ _ (Dk.mono hd (by omega)) ?_
  all_goals exact⟨iR ha (by decide),dS _,iR hc (by decide),iR he (by decide),trivial⟩
 ·obtain⟨hx,hd,hG⟩:=hI
  have hl:=hG.1
  have hd:Dk 900 s.1:=Dk.mono hd (by omega)
  refine av (fun _=>by omega) fun _=>af (gG N (by decide) hd) fun a ⟨ha,hd⟩=>af (gG N (by decide) hd) fun b ⟨hb,hd⟩=>af (gG N (by decide) hd) fun c ⟨hc,hd⟩=>af (gG N (by decide) hd) fun e ⟨he,hd⟩=>af (gG N (by decide) hd) fun f ⟨hf,hd⟩=> ?_
  dsimp only
  refine af (gG N (by decide) hd) fun g ⟨hg,hd⟩=>af (oS N (by decide) hd) fun r hd=>oO (fun _=>af (oC N hd) fun r ⟨hr,hd⟩=>ah ⟨⟨⟨G.mono (by decide) hG,?_⟩,by dsimp only;omega⟩,Dk.mono hd (by decide)⟩) fun _=>ah ⟨⟨⟨G.mono (by decide) hG,?_⟩,by dsimp only;omega⟩,Dk.mono hd (by decide)⟩
  ·exact⟨hr,iR hb (by decide),iR hc (by decide),iR he (by decide),dS _,iR hg (by decide),trivial⟩
  ·exact⟨iR ha (by decide),iR hb (by decide),iR hc (by decide),iR he (by decide),dS _,iR hg (by decide),trivial⟩
abbrev Nb(m:Nat)(l:fW):Prop:=G m (.slice mI) l
theorem xM{k a b c d e f g:Int}{m:Nat}(h0:aD k)(h1:aD a)(h2:aD b)(h3:aD c)(h4:aD d)(h5:aD e)(h6:aD f)(h7:aD g):G m mI (k,(a,(b,(c,(d,(e,(f,(g,())))))))):=⟨h0,h1,h2,h3,h4,h5,h6,h7,trivial⟩
theorem aV{x:Int}(h: -1000000≤x∧x≤1000000:=by decide):aD x:=fH h.1 h.2
theorem Ds(N:Nat){k:Nat}{d:aJ}(h:Dk k d)(c:aa){i:Int}(hi:0≤i∧i<(c.1.length:Int))(hc:c.1.length≤5)(hk:k≤100000000):Ok (fun r=>G 0 mI r.1∧Dk (k+5) r.2) (Mn N d c i):=by
 unfold Mn
 have hb:aD 1000000000000:=by unfold aD;decide
 have kQ:aD i:=fH (by omega) (by omega)
 exact au hi (af (gG N (by decide) h) fun a ⟨_,hd⟩=>af (oS N (by decide) hd) fun r hd=>oO (fun _=>af (oC N hd) fun r ⟨_,hd⟩=>ok_eq (fun _=>by omega) fun _=>ah ⟨xM aV aV aV kQ aV aV aV (dS _),Dk.mono hd (by omega)⟩) fun _=>ah ⟨xM aV aV aV kQ aV aV aV (wc aV (SF hb (dS _))),Dk.mono hd (by omega)⟩)
theorem FZ(N:Nat){k:Nat}{d:aJ}(h:Dk k d)(c:aa)(MZ:1≤c.1.length)(hc:c.1.length≤5)(hk:k≤100000000):Ok (fun r=>G 0 mI r.1∧Dk (k+10) r.2) (Po N d c):=by
 unfold Po
 have hb:aD 1000000000000:=by unfold aD;decide
 refine af (gG N ⟨by omega,by omega⟩ h) fun a ⟨ha,hd⟩=>af (gG N (by decide) hd) fun b ⟨dx,hd⟩=> ?_
 dsimp only
 refine af (gG N (by decide) hd) fun e ⟨he,hd⟩=>af (gG N (by decide) hd) fun f ⟨hf,hd⟩=>au ha (af (gG N (by decide) hd) fun g ⟨_,hd⟩=>af (oS N (by decide) hd) fun r hd=>oO (fun _=>af (oC N hd) fun r ⟨_,hd⟩=>ok_eq (fun _=>by omega) fun _=>af (oC N hd) fun r' ⟨_,hd⟩=>ok_eq (fun _=>by omega) fun _=>ah ⟨xM aV aV (dS _) (iR ha (by omega)) (dS _) aV (dS _) (dS _),Dk.mono hd (by omega)⟩) fun _=>ah ⟨xM aV aV (dS _) (iR ha (by omega)) (dS _) aV (dS _) (wc aV (SF hb (dS _))),Dk.mono hd (by omega)⟩)
end VM
end
section
namespace VM
open Go VM.F
structure Cf(c:aa):Prop where
 g:G 5 an c
 n:1≤c.1.length
theorem F0(N:Nat){k:Nat}{d:aJ}(h:Dk k d){c:aa}(hc:Cf c)(hk:k≤10000000):Ok (fun r=>G 0 mI r.1∧Dk (k+20) r.2) (Pp N d c):=by
 have hn:=hc.n
 have hl:=hc.g.1.1
 unfold Pp
 refine af (gG N (by decide) h) fun a ⟨ha,hd⟩=> ?_
 dsimp only
 refine af (gG N (by decide) hd) fun b ⟨hb,hd⟩=>af (gG N ⟨by omega,by omega⟩ hd) fun i ⟨hi,hd⟩=>af (gG N (by decide) hd) fun e ⟨he,hd⟩=> ?_
 have hz: ∀(e:fK) (j:Nat) (d:aJ),G 0 mI e→Dk j d→j≤k+20→Ok (fun r=>G 0 mI r.1∧Dk (k+20) r.2) (some (e,d)):=fun e j d he hd hj=>ah ⟨he,Dk.mono hd hj⟩
 have hs: ∀{f:Int×aJ→Option (fK×aJ)},(∀x d,aD x→Dk (k+5) d→Ok (fun r=>G 0 mI r.1∧Dk (k+20) r.2) (f (x,d)))→Ok (fun r=>G 0 mI r.1∧Dk (k+20) r.2) ((HS N e.2).bind f):=fun hf=>af (oC N hd) fun r ⟨h1,h2⟩=>hf r.1 r.2 h1 (Dk.mono h2 (by omega))
 have hm: ∀{n:Int} {f:Int×aJ→Option (fK×aJ)},0<n∧n<1000000→(∀x d,Dk (k+5) d→Ok (fun r=>G 0 mI r.1∧Dk (k+20) r.2) (f (x,d)))→Ok (fun r=>G 0 mI r.1∧Dk (k+20) r.2) ((oB N e.2 n).bind f):=fun hn hf=>af (gG N hn hd) fun r ⟨h1,h2⟩=>hf r.1 r.2 (Dk.mono h2 (by omega))
 repeat' first
  |refine ok_eq (fun _=> ?_) (fun _=> ?_)
  |(exfalso;omega)
  |(refine hs fun x d' hx RF=> ?_;dsimp only)
  |(refine hm (by decide) fun x d' RF=> ?_;dsimp only)
  |(refine hz _ _ _ ?_ hd (by omega);refine⟨?_,?_,?_,?_,?_,?_,?_,?_,trivial⟩<;>first|exact dS _|exact aU|exact wc hx aV|exact FY (by decide) (by decide)|exact(G.at hc.g.1 _).2.1)
  |(refine hz _ _ _ ?_ RF (by omega);refine⟨?_,?_,?_,?_,?_,?_,?_,?_,trivial⟩<;>first|exact dS _|exact aU|exact wc hx aV|exact FY (by decide) (by decide)|exact(G.at hc.g.1 _).2.1)
  |(refine hz _ _ _ ?_ h2 (by omega);refine⟨?_,?_,?_,?_,?_,?_,?_,?_,trivial⟩<;>first|exact dS _|exact aU|exact wc hx aV|exact FY (by decide) (by decide)|exact(G.at hc.g.1 _).2.1)
  |exact af (Ds N hd c hi hl (by omega)) fun r ⟨h1,h2⟩=>hz _ _ _ h1 h2 (by omega)
  |exact af (FZ N hd c hn hl (by omega)) fun r ⟨h1,h2⟩=>hz _ _ _ h1 h2 (by omega)
  |refine au hi ?_
  |(refine af (gG N (by decide) RF) fun r ⟨h1,h2⟩=> ?_)
end VM
end
section
namespace VM
open Go VM.F
theorem G.cat{m n:Nat}{e:Ty}{l k:List e.den}(h:G m (.slice e) l)(h':G n (.slice e) k):G (m+n) (.slice e) (l++k):=
 ⟨by have:=h.1;have:=h'.1;rw[atJ];omega,fun y hy=>by
  rcases atU.1 hy with hy|hy
  ·exact G.mono (by omega) (h.2 y hy)
  ·exact G.mono (by omega) (h'.2 y hy)⟩
theorem G.two{m:Nat}{e:Ty}{a b:e.den}(ha:G 0 e a)(hb:G 0 e b)(hm:2≤m):G m (.slice e) [a,b]:=
 ⟨hm,fun y hy=>by
  rcases atZ.1 hy with rfl|hy
  ·exact G.mono (by omega) ha
  ·rw[at2.1 hy];exact G.mono (by omega) hb⟩
theorem G.one{m:Nat}{e:Ty}{a:e.den}(ha:G 0 e a)(hm:1≤m):G m (.slice e) [a]:=
 ⟨hm,fun y hy=>by rw[at2.1 hy];exact G.mono (by omega) ha⟩
theorem sv{α:Type}(a b:α):[a,b].length=2:=rfl
theorem I3(N:Nat)(hN:100≤N){k:Nat}{d:aJ}(h:Dk k d)(c:aa)(hk:k≤10000000):Ok (fun r=>Nb 40 r.1∧Dk (k+50) r.2) (dE N d c):=by
 have s64: ∀i:Nat,i<100→aD (i:Int):=fun i hi=>fH (by omega) (by omega)
 unfold dE dE.b
 refine gU (len:=5) (F:=fun n i (s:aJ×fW)=>dE.l3 N n s.1 s.2 i) (fun i s=>Dk (k+2*i) s.1∧Nb (3*i) s.2) (fun n i s hi hI hr=> ?_) (fun n s hI=> ?_) 5 N 1 (d,[]) (by omega) (by omega) (by omega) ⟨Dk.mono h (by omega),G.nil⟩
 all_goals unfold dE.l3 dE.ji
 ·have hl:=hI.2.1
  have kQ:=s64 i (by omega)
  dsimp only
  rw[ar (x:=(i:Int)+1) (by omega) (by omega),ae i]
  have h2:Nb (3*i+2) (s.2++[((1:Int),((i:Int),eD)),((2:Int),((i:Int),((i:Int),((0:Int),((1:Int),aZ)))))]):=G.cat hI.2 (G.two (xM aV kQ aU aU aU aU aU aU) (xM aV kQ kQ aU aV aU aU aU) (by omega))
  have hl2:=h2.1
  exact c5 (fun _=>aG (by rw[sv];omega) (af (oS N (by decide) hI.1 (by unfold m9;omega)) fun r hd=>bx (fun _=>af (gG N (by decide) hd (by unfold m9;omega)) fun r ⟨_,hd⟩=>aG (by rw[atG];omega) (hr (_,_) ⟨Dk.mono hd (by omega),G.mono (by omega) (G.cat h2 (G.one (m:=1) (xM aV kQ aU aU aU aU (dS _) aU) (by omega)))⟩)) fun _=>hr (_,_) ⟨Dk.mono hd (by omega),G.mono (by omega) h2⟩)) fun _=>by omega
 ·refine c5 (fun _=>by omega) fun _=> ?_
  refine gU (len:=8) (F:=fun n i (s:aJ×fW)=>dE.l9 N n s.1 s.2 i) (fun i s=>Dk (k+10+i) s.1∧Nb (15+i) s.2) (fun n i s hi hI hr=> ?_) (fun n s hI=> ?_) 8 N 5 s (by omega) (by omega) (by omega) ⟨Dk.mono hI.1 (by omega),G.mono (by omega) hI.2⟩
  all_goals unfold dE.l9 dE.s0
  ·have hl:=hI.2.1
   dsimp only
   rw[ar (x:=(i:Int)+1) (by omega) (by omega),ae i]
   exact c5 (fun _=>af (gG N (by decide) hI.1 (by unfold m9;omega)) fun r ⟨_,hd⟩=>aG (by rw[atG];omega) (hr (_,_) ⟨Dk.mono hd (by omega),G.mono (by omega) (G.cat hI.2 (G.one (m:=1) (xM aV (dS _) (s64 i (by omega)) aU aV aU aU aU) (by omega)))⟩)) fun _=>by omega
  ·refine c5 (fun _=>by omega) fun _=> ?_
   refine gU (len:=8) (F:=fun n i (s:aJ×fW)=>dE.ot N n s.1 s.2 i) (fun i s=>Dk (k+18+2*i) s.1∧Nb (23+2*i) s.2) (fun n i s hi hI hr=> ?_) (fun n s hI=> ?_) 8 N 1 s (by omega) (by omega) (by omega) ⟨Dk.mono hI.1 (by omega),G.mono (by omega) hI.2⟩
   all_goals unfold dE.ot dE.mg
   ·have hl:=hI.2.1
    have kQ:=s64 i (by omega)
    dsimp only
    rw[ar (x:=(i:Int)+1) (by omega) (by omega),ae i]
    exact c5 (fun _=>af (gG N (by decide) hI.1 (by unfold m9;omega)) fun r ⟨_,hd⟩=>af (gG N (by decide) hd (by unfold m9;omega)) fun r ⟨_,hd⟩=>aG (by rw[sv];omega) (hr (_,_) ⟨Dk.mono hd (by omega),G.mono (by omega) (G.cat hI.2 (G.two (m:=2) (xM aV aU kQ aU aU aU (dS _) aU) (xM aV aU kQ aU aU aU (dS _) aU) (by omega)))⟩)) fun _=>by omega
   ·exact c5 (fun _=>by omega) fun _=>ah ⟨G.mono (by omega) hI.2,Dk.mono hI.1 (by omega)⟩
theorem Pq{x:Nat}(h:x<1000000):W .i64 (((x+1:Nat):Int)-1)=(x:Int):=by rw[ar (by omega) (by omega)];omega
theorem Mo(N:Nat)(hN:1000≤N){k:Nat}{d:aJ}(h:Dk k d){c:aa}(hc:Cf c){F1:Int}(hm:0≤F1∧F1≤100)(hk:k≤10000):Ok (fun r=>Nb 200 r.1∧Dk (k+3000) r.2) (yp N d c F1):=by
 have hn:=hc.n
 have hl:=hc.g.1.1
 unfold yp yp.b
 rw[ar (x:=F1+1) (by omega) (by omega)]
 refine af (I3 N (by omega) h c (by omega)) fun r ⟨HO,hd⟩=>af (gG N ⟨by omega,by omega⟩ hd (by unfold m9;omega)) fun z ⟨hz,hd⟩=> ?_
 obtain⟨j,hj⟩: ∃j:Nat,z.1=(j:Int):=⟨z.1.toNat,by omega⟩
 rw[hj]
 refine ym (F:=fun n x (s:aJ×fW)=>yp.l3 N n s.1 c s.2 x) (fun x s=>x≤100∧Dk (k+100+25*(100-x)) s.1∧Nb (40+(100-x)) s.2) (fun n x s hI hr=> ?_) (fun n s hI=> ?_) j N (z.2,r.1) (by omega) ⟨by omega,Dk.mono hd (by omega),G.mono (by omega) HO⟩
 all_goals unfold yp.l3 yp.ji
 ·obtain⟨hx,hd,hG⟩:=hI
  have hs:=hG.1
  rw[Pq (by omega)]
  have put: ∀(e:fK) (d:aJ) (q:Nat),G 0 mI e→Dk q d→q≤k+100+25*(100-(x+1))+25→Ok (fun r=>Nb 200 r.1∧Dk (k+3000) r.2) (cond (small (s.2.length+[e].length)) (yp.l3 N n d c (s.2++[e]) (x:Int)) none):=fun e d q he hd hq=>aG (by rw[atG];omega) (hr (_,_) ⟨by omega,Dk.mono hd (by omega),G.mono (by omega) (G.cat hG (G.one (m:=1) he (by omega)))⟩)
  exact av (fun _=>af (gG N (by decide) hd (by unfold m9;omega)) fun a ⟨_,hd⟩=>ok_eq (fun _=>af (F0 N hd hc (by omega)) fun r ⟨h1,h2⟩=>put _ _ _ h1 h2 (by omega)) fun _=>ok_eq (fun _=>af (gG N ⟨by omega,by omega⟩ hd (by unfold m9;omega)) fun b ⟨hb,hd⟩=>af (Ds N hd c hb hl (by omega)) fun r ⟨h1,h2⟩=>put _ _ _ h1 h2 (by omega)) fun _=>af (FZ N hd c hn hl (by omega)) fun r ⟨h1,h2⟩=>put _ _ _ h1 h2 (by omega)) fun _=>by omega
 ·exact av (fun _=>by omega) fun _=>ah ⟨G.mono (by omega) hI.2.2,Dk.mono hI.2.1 (by omega)⟩
theorem F2(N:Nat)(hN:1000≤N){k:Nat}{d:aJ}(h:Dk k d){c:aa}(hc:Cf c)(hk:k≤100000):Ok (fun r=>Nb 3 r.1∧Dk (k+100) r.2) (xN N d c):=by
 have hn:=hc.n
 have hl:=hc.g.1.1
 unfold xN xN.b
 refine af (gG N (by decide) h (by unfold m9;omega)) fun z ⟨hz,hd⟩=> ?_
 obtain⟨j,hj⟩: ∃j:Nat,z.1=(j:Int):=⟨z.1.toNat,by omega⟩
 rw[hj]
 refine ym (F:=fun n x (s:aJ×fW)=>xN.l3 N n s.1 c s.2 x) (fun x s=>x≤3∧Dk (k+1+25*(3-x)) s.1∧Nb (3-x) s.2) (fun n x s hI hr=> ?_) (fun n s hI=> ?_) j N (z.2,[]) (by omega) ⟨by omega,Dk.mono hd (by omega),G.nil⟩
 all_goals unfold xN.l3 xN.ji
 ·obtain⟨hx,hd,hG⟩:=hI
  have hs:=hG.1
  rw[Pq (by omega)]
  have put: ∀(e:fK) (d:aJ) (q:Nat),G 0 mI e→Dk q d→q≤k+1+25*(3-(x+1))+25→Ok (fun r=>Nb 3 r.1∧Dk (k+100) r.2) (cond (small (s.2.length+[e].length)) (xN.l3 N n d c (s.2++[e]) (x:Int)) none):=fun e d q he hd hq=>aG (by rw[atG];omega) (hr (_,_) ⟨by omega,Dk.mono hd (by omega),G.mono (by omega) (G.cat hG (G.one (m:=1) he (by omega)))⟩)
  exact av (fun _=>af (oS N (by decide) hd (by unfold m9;omega)) fun a hd=>oO (fun _=>af (gG N ⟨by omega,by omega⟩ hd (by unfold m9;omega)) fun b ⟨hb,hd⟩=>af (Ds N hd c hb hl (by omega)) fun r ⟨h1,h2⟩=>put _ _ _ h1 h2 (by omega)) fun _=>af (F0 N hd hc (by omega)) fun r ⟨h1,h2⟩=>put _ _ _ h1 h2 (by omega)) fun _=>by omega
 ·exact av (fun _=>by omega) fun _=>ah ⟨G.mono (by omega) hI.2.2,Dk.mono hI.2.1 (by omega)⟩
end VM
end
section
namespace VM
open Go VM.F
theorem dp{α:Type}{r:α}:Ok (fun _=>True) (some r):=ah trivial
theorem Mp(N:Nat)(k:Int):Ok (fun s=>ByteArray.size s≤100) (SG N k):=by
 unfold SG
 repeat' first|refine ok_eq (fun _=> ?_) (fun _=> ?_)|exact ah (by decide)
theorem Mq(N:Nat)(k f:Int):Ok (fun _=>True) (SH N k f):=by
 unfold SH ZI ZJ
 repeat' first|refine ok_eq (fun _=> ?_) (fun _=> ?_)|exact dp|refine af (Q:=fun _=>True) ?_ fun _ _=>dp
theorem Pr(N:Nat)(e:fK)(f:Int):Ok (fun _=>True) (SI N e f):=by
 unfold SI
 repeat' first|refine ok_eq (fun _=> ?_) (fun _=> ?_)|exact dp
theorem Ps(N:Nat)(e:fK)(f x:Int):Ok (fun _=>True) (SJ N e f x):=by
 unfold SJ
 repeat' first|refine ok_eq (fun _=> ?_) (fun _=> ?_)|exact dp
theorem Mr(N:Nat)(hN:1000≤N)(e:fK):Ok (fun _=>True) (nc N e):=by
 unfold nc nc.b ZK
 refine af (Q:=fun _=>True) (c5 (fun _=>dp) fun _=>dp) fun _ _=>bx (fun _=>dp) fun _=>af (Mp N _) fun s hs=> ?_
 refine bc (len:=ByteArray.size s) (F:=fun n i (x:fK)=>nc.l6 N n e s x i) (fun _ _=>True) trivial (by omega) (fun n i x hi _ hr=> ?_) (fun n x _=> ?_)
 all_goals unfold nc.l6 nc.oX
 ·rw[ar (x:=(i:Int)+1) (by omega) (by omega),ae i]
  exact av (fun _=>au ⟨by omega,by omega⟩ (af (Mq N _ _) fun _ _=>au ⟨by omega,by omega⟩ (af (Pr N _ _) fun _ _=>av (fun _=>dp) fun _=>av (fun _=>dp) fun _=>au ⟨by omega,by omega⟩ (af (Ps N _ _ _) fun y _=>hr y trivial)))) fun _=>by omega
 ·exact av (fun _=>by omega) fun _=>dp
theorem G.ins{m:Nat}{e:Ty}{l:List e.den}{x:e.den}(h:G m (.slice e) l)(hx:G m e x)(a b c:Nat)(ha:c≤a):G (m+1) (.slice e) ((([]++List.drop b (List.take c l))++[x])++List.drop a (List.take l.length l)):=by
 have:=h.1
 refine⟨?_,fun y hy=> ?_⟩
 ·simp only[aug,atJ,aum,at4,atG];omega
 ·rw[aug,atV]at hy
  rcases atU.1 hy with hy|hy
  ·exact G.mono (by omega) (h.2 y (au0 (avX hy)))
  ·rcases atU.1 hy with hy|hy
   ·rw[at2.1 hy];exact G.mono (by omega) hx
   ·exact G.mono (by omega) (h.2 y (au0 (avX hy)))
theorem Pu{α:Type}{P:List α×Int→Prop}{l:List α}{x:α}{k:Nat}{e:Int}(hk:k≤l.length)(hl:l.length≤1000000)(h:P ((([]++List.drop (0:Int).toNat (List.take (k:Int).toNat l))++[x])++List.drop (k:Int).toNat (List.take (l.length:Int).toNat l),e)):
  Ok P (cond (fM 0 (k:Int) (l.length:Int) (l.length:Int)) (let v6:List α:=List.drop (0:Int).toNat (List.take (k:Int).toNat l);cond (small (([]:List α).length+v6.length)) (let v7:List α:=[]++v6;cond (small (v7.length+[x].length)) (let v8:List α:=v7++[x];cond (fM (k:Int) (l.length:Int) (l.length:Int) (l.length:Int)) (let v9:List α:=List.drop (k:Int).toNat (List.take (l.length:Int).toNat l);cond (small (v8.length+v9.length)) (some ((v8++v9),e)) none) none) none) none) none):=by
 dsimp only
 have t: ∀a b:Nat,(List.drop a (List.take b l)).length≤l.length:=fun a b=>by rw[aum,at4];omega
 have t1:=t (0:Int).toNat (k:Int).toNat
 have t2:=t (k:Int).toNat (l.length:Int).toNat
 refine Dq ⟨by omega,by omega,by omega,by omega⟩ (aG (by rw[aua];omega) (aG ?_ (Dq ⟨by omega,by omega,by omega,by omega⟩ (aG ?_ (ah h)))))
 ·rw[aug,atG];omega
 ·rw[aug,atJ,atG];omega
theorem Pv(N:Nat)(hN:200000≤N){a:ax}{m:Nat}(hm:m≤50000)(h:G m (.slice gW) a){id:Int}(aT:aD id):Ok (fun r=>G (m+1) (.slice gW) r.1) (gX N a id):=by
 have hl:=h.1
 unfold gX gX.b
 refine bE (og N (by omega) hN) (bx (fun _=>ah G.nil) fun _=>av (fun _=>ah G.nil) fun _=>av (fun _=>ah G.nil) fun _=>bE (kk N (by omega) hN id) (bt (fun _=>ah G.nil) fun _=> ?_))
 have fin: ∀k:Nat,k≤a.length→Ok (fun r=>G (m+1) (.slice gW) r.1) (gX.j9 N a id [] (k:Int)):=fun k hk=>by
  unfold gX.j9 gX.Is
  have hx:G m gW (id,((1:Int),())):=⟨aT,(show aD 1 from aV),trivial⟩
  exact Pu hk (by omega) (by simpa using G.ins h hx k 0 k (atP _))
 refine iD (len:=a.length) (F:=fun n i=>gX.l7 N n a id [] i) (by omega) (fun n i hi hr=> ?_) (fun n=> ?_)
 all_goals unfold gX.l7 gX.oe
 ·rw[ar (x:=(i:Int)+1) (by omega) (by omega),ae i]
  exact av (fun _=>au ⟨by omega,by omega⟩ (av (fun _=>hr) fun _=>fin i (by omega))) fun _=>by omega
 ·exact av (fun _=>by omega) fun _=>fin _ (atP _)
end VM
end
