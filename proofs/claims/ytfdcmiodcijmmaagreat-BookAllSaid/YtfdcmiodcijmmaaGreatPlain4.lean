/- A part of the proof of BookAll of layer 18: what the functions compute, in plain words. -/
import Derived.Test.YtfdcmiodcijmmaaGreatPlain3
set_option linter.all false
open List renaming length→ℓ
section
namespace VM
open Go VM.F Go.RowKit
theorem Mn(N:Nat)(hN:4000000≤N){v:Int}(h:bO v):O3 N (bp v)=some (bU v):=by
 unfold O3 bp
 unfold bO at h
 dsimp only
 have hv:VD [(0:Int),0,1]:=VD.cons ω ω (VD.cons ω ω (VD.cons ω ω VD.nil))
 have yv:cn [(0:Int),0,1]=18446744073709551616:=δ
 have hl:(jK (v%18446744073709551616).toNat).length≤2:=rp 2 _ (by
  rw[show(4294967296:Nat)^2=18446744073709551616 from rfl];omega)
 have f2: ∀x:Int,(x.natAbs:Int)≤18446744073709551616→Fit x 90000:=λx hx=>by
  refine Fit.mono (j:=3) ?_ ω
  unfold Fit
  rw[show(4294967296:Nat)^3=79228162514264337593543950336 from rfl]
  omega
 rw[er N ω ω ω,ag,kj N false hv (by simp;omega) (by simp),ag,af oB,yv,tU N hN (f2 _ ω) (f2 _ ω),ag,size_eq N ω ω ω,ag,kj N false (gE _) ω ω,ag,af oB,eQ,xB ω,kk N hN (nE (by unfold bO;omega)) (nE (by unfold bO;omega)),ag,show v/18446744073709551616*18446744073709551616+v%18446744073709551616=v by omega]
theorem EU(N:Nat)(hN:4000000≤N){v:Int}(h:bO v):Mo N (bp v) (bU v)=some true:=by
 unfold Mo
 rw[Mn N hN h,ag,LD N hN (nE h) (nE h),ag,Int.sub_self,show uz 0=0 from rfl,bP]
theorem Co{c:aj}{b:ar}(w:ib b)(l:e8):Bd (mS c b l).1:=by
 unfold mS
 repeat' split
 all_goals first|exact wc w _ _|exact mg
def hR:ak:=[((1:Int),((0:Int),((-90:Int),()))),((5:Int),((1:Int),((90:Int),())))]
def hS:ak:=[((0:Int),((0:Int),((5:Int),()))),((0:Int),((1:Int),((20:Int),()))),((1:Int),((0:Int),((-5:Int),()))),((1:Int),((1:Int),((-20:Int),())))]
def hB:ar:=([((1:Int),((1:Int),()))],([((1:Int),((1:Int),((1:Int),((50:Int),()))))],(hR,(hS,([(100:Int),(7:Int)],(fv,()))))))
namespace Pure
end Pure
end VM
end
section
namespace VM
open Go VM.F
def G(m:Nat):(τ:Ty)→τ.den→Prop
 | .int .i64,x=>bk x
 | .int .u64,x=>0≤x∧x<18446744073709551616
 | .slice e,l=>ℓ l≤m∧ ∀x∈(l:List e.den),G m e x
 | .pair a b,x=>G m a x.1∧G m b x.2
 |_,_=>True
theorem G.mono{m n:Nat}(h:m≤n): ∀{τ:Ty} {x:τ.den},G m τ x→G n τ x
 | .int k,x,hx=>by cases k<;>exact hx
 | .slice e,l,hl=>⟨iC hl.1 h,λx hx=>G.mono h (hl.2 x hx)⟩
 | .pair a b,x,hx=>⟨G.mono h hx.1,G.mono h hx.2⟩
 | .bool,_,_=>trivial
 | .str,_,_=>trivial
 | .unit,_,_=>trivial
 | .arr _ _,_,_=>trivial
theorem G.nil{m:Nat}{e:Ty}:G m (.slice e) ([]:List e.den):=⟨c8 _,λx hx=>nomatch hx⟩
theorem G.get{m:Nat}{e:Ty}{l:List e.den}{d:e.den}(h:G m (.slice e) l)(hd:G m e d)(k:Nat):G m e (l.getD k d):=by
 by_cases hk:k<l.length
 ·rw[aR,bc hk];exact h.2 _ (c6 hk)
 ·rw[aR,fC ω];exact hd
theorem G.zero(m:Nat): ∀τ:Ty,G m τ τ.zero
 | .int k=>by cases k<;>first|trivial|exact⟨δ,δ⟩
 | .slice _=>G.nil
 | .pair a b=>⟨G.zero m a,G.zero m b⟩
 | .bool=>trivial
 | .str=>trivial
 | .unit=>trivial
 | .arr _ _=>trivial
theorem G.at{m:Nat}{e:Ty}{l:List e.den}(h:G m (.slice e) l)(k:Nat):G m e (l.getD k e.zero):=h.get (G.zero m e) k
theorem G.set{m:Nat}{e:Ty}{l:List e.den}{x:e.den}(h:G m (.slice e) l)(hx:G m e x)(k:Nat):G m (.slice e) (l.set k x):=
 ⟨by rw[cz];exact h.1,λy hy=>by
  rcases xt hy with hy|rfl
  ·exact h.2 y hy
  ·exact hx⟩
def Bg(k:Nat)(z:aK):Prop:= ∃v,z=bU v∧Fit v k
theorem Bg.mono{j k:Nat}{z:aK}(h:Bg j z)(hk:j≤k):Bg k z:=by
 obtain⟨v,e,f⟩:=h
 exact⟨v,e,Fit.mono f hk⟩
theorem Bg.zero:Bg 1 (false,(([]:List Int),())):=⟨0,fl.symm,by unfold Fit;decide⟩
def Td(m:Nat)(p:cV):Prop:=p.length≤m∧ ∀y∈p,Bg 8 y.2.2.1
theorem Td.at{m:Nat}{p:cV}(h:Td m p)(i:Nat):Bg 8 (p.getD i ((0:Int),((0:Int),((false,rS),())))).2.2.1:=by
 by_cases hk:i<p.length
 ·rw[aR,bc hk];exact h.2 _ (c6 hk)
 ·rw[aR,fC ω];exact Bg.mono Bg.zero δ
theorem Td.nil{m:Nat}:Td m []:=⟨c8 _,λx hx=>nomatch hx⟩
theorem Td.mono{m n:Nat}{p:cV}(h:Td m p)(hm:m≤n):Td n p:=⟨iC h.1 hm,h.2⟩
end VM
end
section
namespace VM
open Go VM.F
def Rn(k:Nat)(l:Iv):Prop:= ∀x∈l,Bg k x
theorem Rn.mono{j k:Nat}{l:Iv}(h:Rn j l)(hk:j≤k):Rn k l:=λx hx=>Bg.mono (h x hx) hk
theorem Rn.at{k:Nat}{l:Iv}(h:Rn k l)(h1:1≤k)(i:Nat):Bg k (l.getD i (false,rS)):=by
 by_cases hk:i<l.length
 ·rw[aR,bc hk];exact h _ (c6 hk)
 ·rw[aR,fC ω];exact Bg.mono Bg.zero h1
theorem Rn.set{k:Nat}{l:Iv}{x:aK}(h:Rn k l)(hx:Bg k x)(i:Nat):Rn k (l.set i x):=λy hy=>by
 rcases xt hy with hy|rfl
 ·exact h y hy
 ·exact hx
def agP(c:aj)(x:jH):Prop:=((λi n:Int=>0≤i∧i<n) x.2.1 c.1.length)∧qIn x.2.2.2.1
end VM
end
section
namespace VM
open Go VM.F
end VM
end
section
namespace VM
open Go VM.F
end VM
end
section
namespace VM
open Go VM.F
def Dk(k:Nat)(d:Mp):Prop:=(∀x∈(d.1:List Int),0≤x∧x<18446744073709551616)∧0≤(d.2.1:Int)∧(d.2.1:Int)≤k
theorem Dk.mono{j k:Nat}{d:Mp}(h:Dk j d)(hk:j≤k):Dk k d:=⟨h.1,h.2.1,mo h.2.2 ω⟩
structure Cf(c:aj):Prop where
 g:G 5 aY c
 n:1≤c.1.length
end VM
end
section
namespace VM
open Go VM.F
end VM
end
section
namespace VM
open Go VM.F
end VM
end
section
namespace VM
open Go VM.F
end VM
end
section
namespace VM
open Go VM.F
end VM
end
section
namespace VM
open Go VM.F
end VM
end
section
namespace VM
open Go VM.F
end VM
end
section
namespace VM
open Go VM.F
end VM
end
section
namespace VM
open Go VM.F
end VM
end
section
namespace VM
open Go VM.F
end VM
end
section
namespace VM
open Go VM.F
end VM
end
section
namespace VM
open Go VM.F
abbrev GS(m:Nat)(s:O4):Prop:=G m Cp s
end VM
end
section
namespace VM
open Go VM.F
end VM
end
section
namespace VM
open Go VM.F
end VM
end
section
namespace VM
open Go VM.F Go.RowKit
namespace Pure
end Pure
theorem G9{α:Type}{l:List α}{d:α}{i:Nat}(h:i<l.length):l.getD i d∈l:=by
 rw[aR,bc h];exact c6 h
namespace Pure
end Pure
theorem qN{P:Int→Prop} [DecidablePred P]{f:Int→Int→Int}: ∀{K:List bZ} {o:ak},cO P f K=some o→(o.map keyOf).Sublist K∧(∀x∈o,da x=f x.1 x.2.1∧da x≠0∧P (da x))∧(∀k∈K,P (f k.1 k.2))∧ ∀a b,jy a b o=if(a,b)∈K then f a b else 0
 |[],o,h=>by
  have e:[]=o:=mi h
  subst e
  exact⟨List.Sublist.refl _,λx hx=>(nomatch hx),λk hk=>(nomatch hk),λa b=>by rw[af (λh=>nomatch h)];rfl⟩
 |k::t,o,h=>by
  rw[gV]at h
  by_cases hp:P (f k.1 k.2)
  ·rw[ae hp]at h
   cases ho:cO P f t with
   |none=>rw[ho]at h;exact nomatch h
   |some o'=>
    rw[ho]at h
    have e:(if f k.1 k.2=0 then o' else(k.1,(k.2,(f k.1 k.2,())))::o')=o:=mi h
    obtain⟨s,g,gp,gf⟩:=qN ho
    have fi: ∀k'∈k::t,P (f k'.1 k'.2):=λk' hk=>by
     rcases aV.1 hk with rfl|hk
     ·exact hp
     ·exact gp k' hk
    by_cases h0:f k.1 k.2=0
    ·rw[ae h0]at e
     subst e
     refine⟨s.cons _,g,fi,λa b=> ?_⟩
     rw[gf a b]
     by_cases hk:(a,b)=k
     ·subst hk
      rw[ae (bg ..)]
      dsimp only at h0
      rw[h0];split<;>rfl
     ·by_cases ht:(a,b)∈t
      ·rw[ae ht,ae (aU _ ht)]
      ·rw[af ht,af (λh=>(aV.1 h).elim hk ht)]
    ·rw[af h0]at e
     subst e
     refine⟨s.cons_cons _,λx hx=> ?_,fi,λa b=> ?_⟩
     ·rcases aV.1 hx with rfl|hx
      ·exact⟨rfl,h0,hp⟩
      ·exact g x hx
     ·rw[lV]
      dsimp only
      rw[gf a b]
      by_cases h1:k.1=a
      ·by_cases h2:k.2=b
       ·have hk:(a,b)=k:=by rw[←h1,←h2]
        rw[ae h1,ae h2,ae (by rw[hk];exact bg ..),h1,h2]
       ·have hk:(a,b)≠k:=λe=>h2 (by rw[←e])
        rw[ae h1,af h2]
        by_cases ht:(a,b)∈t
        ·rw[ae ht,ae (aU _ ht)]
        ·rw[af ht,af (λh=>(aV.1 h).elim hk ht)]
      ·have hk:(a,b)≠k:=λe=>h1 (by rw[←e])
       rw[af h1]
       by_cases ht:(a,b)∈t
       ·rw[ae ht,ae (aU _ ht)]
       ·rw[af ht,af (λh=>(aV.1 h).elim hk ht)]
  ·rw[af hp]at h;exact nomatch h
theorem Mq{l:ak}(hs:nW (l.map keyOf)){j:Nat}(hj:j<l.length)(h0:0<j):nR (keyOf (l.getD (j-1) aH)) (keyOf (l.getD j aH)):=by
 have:=xu.1 (s0.1 hs) (j-1) j ω hj ω
 rw[aR,aR,bc hj,bc (show j-1<l.length by omega)]
 exact this
theorem Ha{l:ak}(hs:nW (l.map keyOf))(h: ∀x∈l,bK x.1 x.2.1∧da x≠0∧xd (da x)):cB l=true:=by
 unfold cB
 rw[eB]
 refine aD λj hj=> ?_
 obtain⟨a,b,c⟩:=h _ (G9 (d:=aH) hj)
 exact⟨a,b,c,λh0=>Mq hs hj h0⟩
theorem JX{l:ak}(hs:nW (l.map keyOf))(h: ∀x∈l,cT x.1 x.2.1∧da x≠0):dK l=true:=by
 unfold dK
 rw[eB]
 refine aD λj hj=> ?_
 obtain⟨a,b⟩:=h _ (G9 (d:=aH) hj)
 exact⟨a,b,λh0=>Mq hs hj h0⟩
theorem mW{a b:Int}:(a,b)∈ga↔bK a b:=by
 unfold ga bK
 rw[jY];dsimp only;omega
theorem Hb(b:ar)(s e:ak):((cv b s e).2=2∧(cv b s e).1=(fP,(fQ,(cj,(cj,(eH,(fv,())))))))∨ ∃s' r',cO Fq (fS b.2.2.2.1 s) ga=some s'∧cO bk (fS b.2.2.1 e) jx=some r'∧cv b s e=((b.1,(b.2.1,(r',(s',b.2.2.2.2)))),0):=by
 unfold cv
 cases h1:cO Fq (fS b.2.2.2.1 s) ga with
 |none=>exact .inl ⟨rfl,rfl⟩
 |some s'=>
  cases h2:cO bk (fS b.2.2.1 e) jx with
  |none=>exact .inl ⟨rfl,rfl⟩
  |some r'=>exact .inr ⟨s',r',rfl,rfl,rfl⟩
theorem Hc{l E o:ak}(hs:cB l=true)(h:cO Fq (fS l E) ga=some o):cB o=true∧(∀a b,bK a b→pc o a b=pc l a b+bS a b E∧Fq (pc o a b)):=by
 obtain⟨h1,h2,h3,h4⟩:=qN h
 have hso:nW (o.map keyOf):=pN h1 (jZ 6 25 0)
 have ho:cB o=true:=Ha hso λx hx=>by
  have hk:(x.1,x.2.1)∈ga:=h1.subset (dF (f:=keyOf) hx)
  obtain⟨_,g1,g2⟩:=h2 x hx
  exact⟨mW.1 hk,g1,g2.2⟩
 refine⟨ho,λa b hp=> ?_⟩
 have e:pc o a b=fS l E a b:=by
  unfold pc
  rw[ho,ae rfl,h4 a b,ae (mW.2 hp)]
 refine⟨?_,by rw[e];exact h3 _ (mW.2 hp)⟩
 rw[e]
 unfold fS pc
 rw[hs,ae rfl,rz (gI hs).1]
theorem xm{a b:Int}{l:ak}(h:bS a b l≠0): ∃x∈l,x.1=a∧x.2.1=b:=
 Decidable.byContradiction λhn=>h (gH λx hx e=>hn ⟨x,hx,e⟩)
theorem O5{l E o:ak}(hs:dK l=true)(hE: ∀x∈E,cT x.1 x.2.1)(h:cO bk (fS l E) jx=some o):dK o=true∧(∀a b,cT a b→rX o a b=rX l a b+bS a b E∧bk (rX o a b)):=by
 obtain⟨h1,h2,h3,h4⟩:=qN h
 obtain⟨hl,lB⟩:=mP hs
 have hso:nW (o.map keyOf):=pN h1 (jZ 25 7 1)
 have ho:dK o=true:=JX hso λx hx=>by
  obtain⟨g0,g1,g2⟩:=h2 x hx
  refine⟨?_,g1⟩
  rw[g0]at g1
  unfold fS at g1
  by_cases hz:bS x.1 x.2.1 l=0
  ·rw[hz,pY]at g1
   obtain⟨y,hy,e1,e2⟩:=xm g1
   rw[←e1,←e2];exact hE y hy
  ·obtain⟨y,hy,e1,e2⟩:=xm hz
   rw[←e1,←e2];exact lB y hy
 refine⟨ho,λa b hk=> ?_⟩
 have hg:(a,b)∈jx:=by
  unfold jx
  rw[jY]
  unfold cT at hk
  dsimp only;omega
 have e:rX o a b=fS l E a b:=by
  unfold rX
  rw[ho,ae rfl,h4 a b,ae hg]
 refine⟨?_,by rw[e];exact h3 _ hg⟩
 rw[e]
 unfold fS rX
 rw[hs,ae rfl,rz hl]
namespace Pure
end Pure
namespace Pure
end Pure
def Ay(p:bZ→Bool):ak→Int
 |[]=>0
 |x::t=>(if p (keyOf x)=true then da x else 0)+Ay p t
def zp(p:bZ→Bool)(f:Int→Int→Int):List bZ→Int
 |[]=>0
 |k::t=>(if p k=true then f k.1 k.2 else 0)+zp p f t
theorem vj(p:bZ→Bool)(x:dJ)(t:ak):Ay p (x::t)=(if p (keyOf x)=true then da x else 0)+Ay p t:=rfl
theorem mh(p:bZ→Bool)(f:Int→Int→Int)(k:bZ)(t:List bZ):zp p f (k::t)=(if p k=true then f k.1 k.2 else 0)+zp p f t:=rfl
theorem Bq{P:Int→Prop} [DecidablePred P]{f:Int→Int→Int}(p:bZ→Bool): ∀{K:List bZ} {o:ak},cO P f K=some o→Ay p o=zp p f K
 |[],o,h=>by
  have e:[]=o:=mi h
  subst e;rfl
 |k::t,o,h=>by
  rw[gV]at h
  by_cases hp:P (f k.1 k.2)
  ·rw[ae hp]at h
   cases ho:cO P f t with
   |none=>rw[ho]at h;exact nomatch h
   |some o'=>
    rw[ho]at h
    have e:(if f k.1 k.2=0 then o' else(k.1,(k.2,(f k.1 k.2,())))::o')=o:=mi h
    rw[mh,←Bq p ho]
    by_cases h0:f k.1 k.2=0
    ·rw[ae h0]at e
     rw[←e,h0]
     split<;>omega
    ·rw[af h0]at e
     rw[←e];rfl
  ·rw[af hp]at h;exact nomatch h
theorem zq(p:bZ→Bool)(f g:Int→Int→Int): ∀K:List bZ,zp p (λa b=>f a b+g a b) K=zp p f K+zp p g K
 |[]=>rfl
 |k::t=>by
  rw[mh,mh,mh,zq p f g t]
  split<;>omega
theorem vk{p:bZ→Bool}{f:Int→Int→Int}: ∀{K:List bZ},(∀k∈K,f k.1 k.2=0)→zp p f K=0
 |[],_=>rfl
 |k::t,h=>by
  rw[mh,h k (bg ..),vk λx hx=>h x (aU _ hx)]
  split<;>rfl
theorem EV(p:bZ→Bool)(k:bZ)(v:Int): ∀{K:List bZ},nW K→k∈K→zp p (λa b=>if k.1=a∧k.2=b then v else 0) K=if p k=true then v else 0
 |[],_,h=>nomatch h
 |x::t,hs,h=>by
  obtain⟨h1,h2⟩:=ez.1 hs
  rw[mh]
  by_cases e:k=x
  ·subst e
   have hz:zp p (λa b=>if k.1=a∧k.2=b then v else 0) t=0:=vk λy hy=>af λe=>by
    have:=h1 y hy
    rw[show y=k from ff e.1.symm e.2.symm]at this
    exact ko this
   rw[ae (show k.1=k.1∧k.2=k.2 from⟨rfl,rfl⟩),hz,iD]
  ·rw[af (show ¬(k.1=x.1∧k.2=x.2)from λh=>e (ff h.1 h.2)),EV p k v h2 ((aV.1 h).elim (λh=>absurd h e) id)]
   split<;>omega
theorem zr(p:bZ→Bool){K:List bZ}(hs:nW K): ∀{l:ak},(∀x∈l,keyOf x∈K)→zp p (λa b=>bS a b l) K=Ay p l
 |[],_=>vk λ_ _=>rfl
 |x::t,h=>by
  have e:(λa b=>bS a b (x::t))=λa b=>(if(keyOf x).1=a∧(keyOf x).2=b then da x else 0)+bS a b t:=by
   funext a b;exact iR a b x t
  rw[e,zq,EV p (keyOf x) (da x) hs (h x (bg ..)),zr p hs λy hy=>h y (aU _ hy),vj]
theorem zt{P:Int→Prop} [DecidablePred P]{l E o:ak}{K:List bZ}(p:bZ→Bool)(hs:nW K)(hl: ∀x∈l,keyOf x∈K)(hE: ∀x∈E,keyOf x∈K)(h:cO P (fS l E) K=some o):Ay p o=Ay p l+Ay p E:=by
 rw[Bq p h,←zr p hs hl,←zr p hs hE,←zq];rfl
theorem ph: ∀l:ak,Ay (λ_=>true) l=(l.map da).sum
 |[]=>rfl
 |x::t=>by rw[vj,ae rfl,ph t,bA,eA]
theorem rB(i:Int): ∀l:ak,Ay (λk=>decide (k.2=i)) l=(dm i l).sum
 |[]=>rfl
 |x::t=>by
  rw[vj,rB i t,fB]
  by_cases e:x.2.1=i
  ·rw[ae (aD (show(keyOf x).2=i from e)),ae e,eA]
  ·rw[af (by rw[aP (show ¬(keyOf x).2=i from e)];exact oB),af e,pY]
def zu(m:aW)(a:bl)(k n:Int):Prop:=(eR k 5→(dU a n).2=true)∧(eR k 6∨eR k 7→ ¬eR (et m n) 0)
def zv(c:aj)(a:bl)(k n:Int):Prop:=(eR k 0∨(dU a k).2=true)∧sy n c.1.length
theorem EW{k n:Int}(h:cT k n):(k,n)∈jx:=by
 unfold jx
 rw[jY]
 unfold cT at h
 dsimp only;omega
theorem zw{l E:ak}{Q:Int→Int→Prop}(hl: ∀x∈l,Q x.1 x.2.1)(hE: ∀x∈E,Q x.1 x.2.1){a b:Int}(h:fS l E a b≠0):Q a b:=by
 unfold fS at h
 by_cases hz:bS a b l=0
 ·rw[hz,pY]at h
  obtain⟨y,hy,e1,e2⟩:=xm h
  rw[←e1,←e2];exact hE y hy
 ·obtain⟨y,hy,e1,e2⟩:=xm hz
  rw[←e1,←e2];exact hl y hy
theorem Cq{c:aj}{b:ar}{s e s' r':ak}(hB:cD c b=true)(h1:cO Fq (fS b.2.2.2.1 s) ga=some s')(h2:cO bk (fS b.2.2.1 e) jx=some r')
  (gs: ∀x∈s,bK x.1 x.2.1∧zv c b.2.1 x.1 x.2.1) (flat: ∀i:Int,(dm i s).sum=0) (ge: ∀x∈e,cT x.1 x.2.1∧zu b.1 b.2.1 x.1 x.2.1) (zero:(e.map da).sum=0):
  cD c (b.1,(b.2.1,(r',(s',b.2.2.2.2))))=true:=by
 have hB':=hB
 unfold cD at hB'
 simp only[ba]at hB'
 obtain⟨b1,b2,b3,b4,b5,b6,b7,b8,b9,VE,Xu⟩:=hB'
 obtain⟨hr,hs⟩:=fK hB
 obtain⟨o1,_⟩:=Hc hs h1
 obtain⟨o2,_⟩:=O5 hr (λx hx=>(ge x hx).1) h2
 obtain⟨hsl,hsk⟩:=gI hs
 obtain⟨Gp,hrk⟩:=mP hr
 have k1: ∀x∈b.2.2.2.1,keyOf x∈ga:=λx hx=>mW.2 (hsk x hx).1
 have k2: ∀x∈s,keyOf x∈ga:=λx hx=>mW.2 (gs x hx).1
 have k3: ∀x∈b.2.2.1,keyOf x∈jx:=λx hx=>EW (hrk x hx)
 have k4: ∀x∈e,keyOf x∈jx:=λx hx=>EW (ge x hx).1
 have hp8:=bH b8
 have hp9:=bH b9
 have q8: ∀x∈b.2.2.1,zu b.1 b.2.1 x.1 x.2.1:=λx hx=>by
  obtain⟨i,hi,e⟩:=iz hx
  have:=hp8 i hi
  unfold gn at this
  rw[aR,bc hi,pR,e]at this
  exact this
 have q9: ∀x∈b.2.2.2.1,zv c b.2.1 x.1 x.2.1:=λx hx=>by
  obtain⟨i,hi,e⟩:=iz hx
  have:=hp9 i hi
  unfold gq at this
  rw[aR,bc hi,pR,e]at this
  exact this
 have n4:decide (eR (fJ r') 0)=true:=by
  refine aD ?_
  unfold fJ eR
  rw[o2,ae rfl,←ph,zt _ (jZ 25 7 1) k3 k4 h2,ph,ph,zero,iD]
  have:=bH b4
  unfold fJ eR at this
  rw[hr,ae rfl]at this
  exact this
 have n5:mM s'=true:=by
  unfold mM at b5 ⊢
  obtain⟨f1,_⟩:=dQ.1 b5
  rw[o1,eB]
  refine aD λj hj=> ?_
  have:=bH f1 j hj
  unfold o6 eR o5 at this ⊢
  rw[hs,ae rfl]at this
  rw[o1,ae rfl,←rB,zt _ (jZ 6 25 0) k1 k2 h1,rB,rB,flat,iD]
  exact this
 have n8:decide (∀j,j<r'.length→gn b.1 b.2.1 r' j)=true:=aD λj hj=>by
  obtain⟨g0,g1,_⟩:=(qN h2).2.1 _ (G9 (d:=aH) hj)
  rw[g0]at g1
  exact zw (Q:=zu b.1 b.2.1) q8 (λx hx=>(ge x hx).2) g1
 have n9:decide (∀j,j<s'.length→gq c b.2.1 s' j)=true:=aD λj hj=>by
  obtain⟨g0,g1,_⟩:=(qN h1).2.1 _ (G9 (d:=aH) hj)
  rw[g0]at g1
  exact zw (Q:=zv c b.2.1) q9 (λx hx=>(gs x hx).2) g1
 unfold cD
 simp only[ba]
 exact⟨b1,b2,o2,n4,n5,b6,b7,n8,n9,VE,Xu⟩
end VM
end
section
namespace VM
open Go VM.F
theorem O6{α:Type}{l:List α}{d:α}{i:Nat}(h:i<l.length):l.getD i d=l[i]:=by
 rw[aR,bc h];rfl
theorem kp{α:Type}{d:α}{l:List α}{Q:α→Prop}:(∀j,j<l.length→Q (l.getD j d))↔ ∀x∈l,Q x:=
 ⟨λh x hx=>by
  obtain⟨i,hi,e⟩:=iz hx
  rw[←e,←O6 (d:=d) hi];exact h i hi,λh j hj=>h _ (G9 hj)⟩
theorem ow{α:Type}{d:α}{R:α→α→Prop}(tr: ∀a b c,R a b→R b c→R a c): ∀l:List α,(∀j,j<l.length→0<j→R (l.getD (j-1) d) (l.getD j d))↔l.Pairwise R
 |[]=>⟨λ_=>List.Pairwise.nil,λ_ j hj=>nomatch hj⟩
 |[x]=>⟨λ_=>List.pairwise_singleton R x,λ_ j hj h0=>by have:j<1:=hj;omega⟩
 |x::y::t=>by
  rw[ez,←ow tr (y::t)]
  constructor
  ·intro h
   have Ng:R x y:=h 1 (by simp) ω
   have ht: ∀j,j<(y::t).length→0<j→R ((y::t).getD (j-1) d) ((y::t).getD j d):=λj hj h0=>by
    have:=h (j+1) (by simpa using hj) ω
    obtain⟨k,rfl⟩: ∃k,j=k+1:=⟨j-1,ω⟩
    exact this
   have hp:=(ow tr (y::t)).1 ht
   refine⟨λz hz=> ?_,ht⟩
   rcases aV.1 hz with rfl|hz
   ·exact Ng
   ·exact tr _ _ _ Ng ((ez.1 hp).1 z hz)
  ·rintro⟨h1,h2⟩ j hj h0
   obtain⟨k,rfl⟩: ∃k,j=k+1:=⟨j-1,ω⟩
   cases k with
   |zero=>exact h1 y (bg ..)
   |succ k=>exact h2 (k+1) (by simpa using hj) ω
def Ro(x y:GL):Prop:=sy x.1 y.1
theorem Hd{a b c:Int}(h1:sy a b)(h2:sy b c):sy a c:=Int.lt_trans h1 h2
def Rp(a b:Int):Prop:=1≤a∧a≤12∧1≤b∧b≤4
theorem qO{m:aW}:eh m=true↔(∀x∈m,Rp x.1 x.2.1)∧m.Pairwise Ro:=by
 unfold eh
 rw[eB,lI,←ow (R:=Ro) (d:=dC) (λ_ _ _=>Hd),←kp (d:=dC)]
 exact⟨λh=>⟨λj hj=>⟨(h j hj).1,(h j hj).2.1,(h j hj).2.2.1,(h j hj).2.2.2.1⟩,λj hj h0=>(h j hj).2.2.2.2 h0⟩,λh j hj=>⟨(h.1 j hj).1,(h.1 j hj).2.1,(h.1 j hj).2.2.1,(h.1 j hj).2.2.2,λh0=>h.2 j hj h0⟩⟩
def JY(m:aW)(n:Int):Prop:= ∃x∈m,eR x.1 n
def Mr(a:bl)(n:Int):Prop:= ∃x∈a,eR x.1 n
theorem nG{n:Int}: ∀{m:aW},(∀x∈m,Rp x.1 x.2.1)→(¬eR (gm n m) 0↔JY m n)
 |[],_=>⟨λh=>absurd rfl h,λ⟨_,h,_⟩=>nomatch h⟩
 |x::t,h=>by
  have ih:=nG (n:=n) λy hy=>h y (aU _ hy)
  have hx:=h x (bg ..)
  rw[oZ]
  by_cases e:x.1=n
  ·rw[ae e]
   have g: ∀v:Int,1≤v→ ¬eR v 0:=λv h1 h2=>by unfold eR at h2;omega
   exact⟨λ_=>⟨x,bg ..,e⟩,λ_=>g _ hx.2.2.1⟩
  ·rw[af e,ih]
   exact⟨λ⟨y,hy,h⟩=>⟨y,aU _ hy,h⟩,λ⟨y,hy,h'⟩=>(aV.1 hy).elim (λk=>absurd (k▸h') e) λhy=>⟨y,hy,h'⟩⟩
theorem Br{n:Int}: ∀{a:bl},(tX n a).2=true↔Mr a n
 |[]=>⟨λh=>(nomatch h),λ⟨_,h,_⟩=>nomatch h⟩
 |x::t=>by
  rw[sx]
  by_cases e:x.1=n
  ·rw[ae e]
   exact⟨λ_=>⟨x,bg ..,e⟩,λ_=>rfl⟩
  ·rw[af e,Br]
   exact⟨λ⟨y,hy,h⟩=>⟨y,aU _ hy,h⟩,λ⟨y,hy,h'⟩=>(aV.1 hy).elim (λk=>absurd (k▸h') e) λhy=>⟨y,hy,h'⟩⟩
theorem He{m:aW}(h:eh m=true)(n:Int): ¬eR (et m n) 0↔JY m n:=by
 unfold et;rw[ae h];exact nG (qO.1 h).1
theorem uu{a:bl}(h:iP a=true)(n:Int):(dU a n).2=true↔Mr a n:=by
 unfold dU;rw[ae h];exact Br
def zx(m:aW)(a:bl)(k n:Int):Prop:=(eR k 5→Mr a n)∧(eR k 6∨eR k 7→JY m n)
def zy(c:aj)(a:bl)(k n:Int):Prop:=(eR k 0∨Mr a k)∧sy n c.1.length
def Ms(c:aj)(a:bl)(x:sw):Prop:=Mr a x.2.1∧sy x.2.2.1 c.1.length
theorem Cr{m:aW}{a:bl}(hm:eh m=true)(ha:iP a=true){k n:Int}:zu m a k n↔zx m a k n:=by
 unfold zu zx;rw[uu ha,He hm]
theorem Cs{c:aj}{a:bl}(ha:iP a=true){k n:Int}:zv c a k n↔zy c a k n:=by
 unfold zv zy;rw[uu ha]
structure RB(C:aj)(b:ar):Prop where
 c:eF C=true
 m:eh b.1=true
 a:iP b.2.1=true
 ma: ∀x∈b.2.1,JY b.1 x.2.1
 r:dK b.2.2.1=true
 t:eR (fJ b.2.2.1) 0
 s:mM b.2.2.2.1=true
 o:dk b.2.2.2.2.2.1=true
 n:eR b.2.2.2.2.1.length C.1.length
 rk: ∀x∈b.2.2.1,zx b.1 b.2.1 x.1 x.2.1
 sk: ∀x∈b.2.2.2.1,zy C b.2.1 x.1 x.2.1
 ok: ∀x∈b.2.2.2.2.2.1,Ms C b.2.1 x
 p:fq b.2.2.2.2.1=true
theorem Ct{c:aj}{b:ar}:cD c b=true↔RB c b:=by
 unfold cD qF
 simp only[ba,eB,lI]
 constructor
 ·rintro⟨b1,⟨b2,O7,Te⟩,b3,b4,b5,b6,b7,b8,b9,VE,Xu⟩
  refine⟨b1,b2,O7,?_,b3,b4,b5,b6,b7,?_,?_,?_,Xu⟩
  ·exact(kp (d:=bQ) (Q:=λx=>JY b.1 x.2.1)).1 λj hj=>(nG (qO.1 b2).1).1 (Te j hj)
  ·exact(kp (d:=aH) (Q:=λx=>zx b.1 b.2.1 x.1 x.2.1)).1 λj hj=>(Cr b2 O7).1 (b8 j hj)
  ·exact(kp (d:=aH) (Q:=λx=>zy c b.2.1 x.1 x.2.1)).1 λj hj=>(Cs O7).1 (b9 j hj)
  ·exact(kp (d:=fZ) (Q:=λx=>Ms c b.2.1 x)).1 λj hj=>⟨(uu O7 _).1 (VE j hj).1,(VE j hj).2⟩
 ·rintro⟨b1,b2,O7,Te,b3,b4,b5,b6,b7,b8,b9,VE,Xu⟩
  refine⟨b1,⟨b2,O7,?_⟩,b3,b4,b5,b6,b7,?_,?_,?_,Xu⟩
  ·exact λj hj=>(nG (qO.1 b2).1).2 ((kp (d:=bQ) (Q:=λx=>JY b.1 x.2.1)).2 Te j hj)
  ·exact λj hj=>(Cr b2 O7).2 ((kp (d:=aH) (Q:=λx=>zx b.1 b.2.1 x.1 x.2.1)).2 b8 j hj)
  ·exact λj hj=>(Cs O7).2 ((kp (d:=aH) (Q:=λx=>zy c b.2.1 x.1 x.2.1)).2 b9 j hj)
  ·exact λj hj=>let h:=(kp (d:=fZ) (Q:=λx=>Ms c b.2.1 x)).2 VE j hj;⟨(uu O7 _).2 h.1,h.2⟩
theorem RB.Xv{c:aj}{b:ar}(h:RB c b){s e s' r':ak}(h1:cO Fq (fS b.2.2.2.1 s) ga=some s')(h2:cO bk (fS b.2.2.1 e) jx=some r')
  (gs: ∀x∈s,bK x.1 x.2.1∧zy c b.2.1 x.1 x.2.1) (flat: ∀i:Int,(dm i s).sum=0) (ge: ∀x∈e,cT x.1 x.2.1∧zx b.1 b.2.1 x.1 x.2.1) (zero:(e.map da).sum=0):RB c (b.1,(b.2.1,(r',(s',b.2.2.2.2)))):=
 Ct.1 (Cq (Ct.2 h) h1 h2 (λx hx=>⟨(gs x hx).1,(Cs h.a).2 (gs x hx).2⟩) flat (λx hx=>⟨(ge x hx).1,(Cr h.m h.a).2 (ge x hx).2⟩) zero)
abbrev RBs(c:aj)(b b':ar):Prop:=RB c b'∧b'.1=b.1∧b'.2.1=b.2.1∧b'.2.2.2.2=b.2.2.2.2
theorem RB.cv{c:aj}{b:ar}(h:RB c b){s e:ak}(gs: ∀x∈s,bK x.1 x.2.1∧zy c b.2.1 x.1 x.2.1)(flat: ∀i:Int,(dm i s).sum=0)
  (ge: ∀x∈e,cT x.1 x.2.1∧zx b.1 b.2.1 x.1 x.2.1) (zero:(e.map da).sum=0) (h0:(VM.cv b s e).2=0):RBs c b (VM.cv b s e).1:=by
 rcases Hb b s e with⟨h1,_⟩|⟨s',r',h1,h2,h3⟩
 ·rw[h1]at h0;exact absurd h0 δ
 ·rw[h3];exact⟨h.Xv h1 h2 gs flat ge zero,rfl,rfl,rfl⟩
theorem JZ{l:ak}(h:cB l=true): ∀x∈l,da x≠0:=by
 unfold cB at h
 rw[eB]at h
 exact(kp (d:=aH) (Q:=λx=>da x≠0)).1 λj hj=>((bH h) j hj).2.1
end VM
end
section
namespace VM
open Go VM.F Go.RowKit
theorem Mt{c:aj}{b:ar}(hR:RB c b)(a:Int):jX c (posOf b.2.2.2.1 a)=true:=by
 have hk:=(fK (Ct.2 hR)).2
 obtain⟨h1,h2⟩:=gI hk
 have e:posOf b.2.2.2.1 a=iT a b.2.2.2.1:=by unfold posOf;rw[ae hk]
 rw[e]
 have hs:(iT a b.2.2.2.1).Pairwise (λx y:GL=>sy x.1 y.1):=s0.1 (wi (a:=a) h1)
 have hc:=(ow (R:=λx y:GL=>sy x.1 y.1) (d:=dC) (λ_ _ _=>Hd) _).2 hs
 unfold jX
 refine dQ.2 ⟨aD λj hj=> ?_,hR.c⟩
 obtain⟨x,hx,_,e⟩:=mQ (G9 (d:=dC) hj)
 have hp:=hc j hj
 unfold jL
 rw[e]at hp ⊢
 exact⟨(h2 x hx).1.2.2.1,(hR.sk x hx).2,JZ hk x hx,(h2 x hx).2,λh0=>hp h0⟩
end VM
end
section
namespace VM
open Go VM.F
def dL(inst d:Int):ak→ak
 |[]=>[]
 |x::t=>if x.2.1=inst∧d≠0 then ot x.1 (da x*d)::dL inst d t else dL inst d t
theorem kV(inst d:Int)(x:dJ)(t:ak):dL inst d (x::t)=if x.2.1=inst∧d≠0 then ot x.1 (da x*d)::dL inst d t else dL inst d t:=rfl
theorem zz(inst d:Int): ∀l:ak,(dL inst d l).length≤l.length
 |[]=>aB _
 |x::t=>by
  have:=zz inst d t
  rw[kV]
  split<;>simp only[aL]<;>omega
theorem zA(inst d:Int): ∀l:ak,((dL inst d l).map da).sum=(if d≠0 then(dm inst l).sum*d else 0)
 |[]=>by simp[dL,dm]
 |x::t=>by
  have:=zA inst d t
  rw[kV,fB]
  by_cases hd:d≠0
  ·rw[ae hd]at this ⊢
   by_cases hx:x.2.1=inst
   ·rw[ae ⟨hx,hd⟩,ae hx,bA,eA,eA,jz,this,td]
   ·rw[af (λh=>hx h.1),af hx,this]
  ·rw[af hd]at this ⊢
   rw[af (λh=>hd h.2),this]
theorem pj{inst d:Int}: ∀{l:ak} {y:dJ},y∈dL inst d l→ ∃x∈l,x.2.1=inst∧y=ot x.1 (da x*d)
 |[],y,h=>nomatch h
 |x::t,y,h=>by
  rw[kV]at h
  split at h
  ·rename_i hx
   rcases aV.1 h with e|h
   ·exact⟨x,bg ..,hx.1,e⟩
   ·obtain⟨z,h1,h2⟩:=pj h
    exact⟨z,aU _ h1,h2⟩
  ·obtain⟨z,h1,h2⟩:=pj h
   exact⟨z,aU _ h1,h2⟩
def kq(l:ak)(inst jE new:Int):ak×Int:=if cB l then(if cg jE then(if cg new then(dL inst (new-jE) l,0)else([],1))else([],1))else([],1)
theorem EX(N:Nat){l:ak}(hq:c3 l)(hl:l.length≤100000)(hN:200000≤N)(inst:Int){jE new:Int}(ho:cg jE)(hn:cg new):
  kW.l5 N N inst jE new [] l (l.length:Int) 0=some ((dL inst (new-jE) l).map eu,0):=by
 have hp: -9223372036854775808≤new-jE∧new-jE<9223372036854775808:=by unfold cg at ho hn;omega
 have:=hZ l aH (λn i s=>kW.l5 N n inst jE new (s.map eu) l (l.length:Int) i) (λt s=>some ((s++dL inst (new-jE) t).map eu,(0:Int))) (λi (s:ak)=>s.length≤i) (λn i s hi hI hr=> ?_) (λn s hI=> ?_) l.length N 0 [] ω ω ω (aB _)
 ·have e:=this
  rw[bY,c7]at e
  exact e
 ·unfold kW.l5 kW.fX
  have jV:=o4 hq i
  unfold bk da at jV
  rw[az ω,aa,aE ω ω,aa,aw,ay (x:=(i:Int)+1) ω ω,ah i,au,cond_not,au,kV]
  by_cases hx:(l.getD i aH).2.1=inst
  ·rw[ae hx]
   by_cases hd:new=jE
   ·rw[ae hd,af (λh=>h.2 ω)]
    exact hr s ω
   ·rw[af hd,ae ⟨hx,ω⟩,ay (x:=new-jE) hp.1 hp.2,B6 N jV.1 jV.2 hp.1 hp.2,ag,vi,ag,bo (by rw[bI,aQ];omega),aa]
    have h2:=hr (s++[ot (l.getD i aH).1 ((l.getD i aH).2.2.1*(new-jE))]) (by rw[aC,aQ];omega)
    rw[cH]at h2
    refine Eq.trans h2 ?_
    rw[aT];rfl
  ·rw[af hx,af (λh=>hx h.1)]
   exact hr s ω
 ·unfold kW.l5 kW.fX
  rw[av ω,an,show dL inst (new-jE) []=[]from rfl,bF]
theorem J0(N:Nat){l:ak}(hq:c3 l)(hl:l.length≤100000)(hN:200000≤N)(inst jE new:Int):
  kW N l inst jE new=some ((kq l inst jE new).1.map eu,(kq l inst jE new).2):=by
 unfold kW kW.b kq
 rw[qD N hl hN,ag,mT,ag,mT,ag,cond_not,cond_not,cond_not]
 cases cB l
 ·rfl
 ·by_cases ho:cg jE
  ·by_cases hn:cg new
   ·rw[aD ho,aD hn,ae ho,ae hn]
    exact EX N hq hl hN inst ho hn
   ·rw[aD ho,aP hn,ae ho,af hn];rfl
  ·rw[aP ho,af ho];rfl
theorem Cu{x:Int}(h:bk x):Fit x 90000:=(Fit.i64 h.1 h.2).mono ω
theorem EY(N:Nat){l:ak}(hq:c3 l)(hl:l.length≤100000)(hN:4000000≤N)(inst:Int){d:Int}(hd:bk d):
  kX.l6 N N l inst [] (bU d) 0=some ((dL inst d l).map ew,0):=by
 have:=hZ l aH (λn i s=>kX.l6 N n l inst (s.map ew) (bU d) i) (λt s=>some ((s++dL inst d t).map ew,(0:Int))) (λi (s:ak)=>s.length≤i) (λn i s hi hI hr=> ?_) (λn s hI=> ?_) l.length N 0 [] ω ω ω (aB _)
 ·have e:=this
  rw[bY,c7]at e
  exact e
 ·unfold kX.l6 kX.B4
  have jV:=o4 hq i
  have Vj:=Cu jV
  have hfd:=Cu hd
  unfold bk da at jV
  unfold da at Vj
  rw[az ω,aa,aE ω ω,aa,aw,ay (x:=(i:Int)+1) ω ω,ah i,cond_not,au,kV]
  by_cases hx:(l.getD i aH).2.1=inst
  ·rw[ae hx,tT,ag,au]
   by_cases h0:d=0
   ·rw[ae (gG.2 h0),af (λh=>h.2 h0)]
    exact hr s ω
   ·rw[af (λh=>h0 (gG.1 h)),ae ⟨hx,h0⟩,aa,vh _ (da (l.getD i aH)*d),ag,aa,er N ω jV.1 jV.2,ag,tU N hN Vj hfd,ag,bo (by rw[bI,aQ];omega),aa]
    have h2:=hr (s++[ot (l.getD i aH).1 (da (l.getD i aH)*d)]) (by rw[aC,aQ];omega)
    rw[cH]at h2
    have e1:[ot (l.getD i aH).1 (da (l.getD i aH)*d)].map ew=[((ot (l.getD i aH).1 (da (l.getD i aH)*d)).1,((ot (l.getD i aH).1 (da (l.getD i aH)*d)).2.1,(bU ((l.getD i aH).2.2.1*d),())))]:=by
     rw[bA,eL];unfold ew;rw[jz];rfl
    rw[e1]at h2
    refine Eq.trans h2 ?_
    rw[aT];rfl
  ·rw[af hx,af (λh=>hx h.1)]
   exact hr s ω
 ·unfold kX.l6 kX.B4
  rw[av ω,an,show dL inst d []=[]from rfl,bF]
theorem J1(N:Nat){l:ak}(hq:c3 l)(hl:l.length≤100000)(hN:4000000≤N)(inst jE new:Int):
  kX N l inst jE new=some ((kq l inst jE new).1.map ew,(kq l inst jE new).2):=by
 unfold kX kX.b kq
 rw[om N hl ω,ag,mR,ag,mR,ag,cond_not,cond_not,cond_not]
 cases cB l
 ·rfl
 ·by_cases ho:cg jE
  ·by_cases hn:cg new
   ·have h1:=ho
    have h2:=hn
    unfold cg at h1 h2
    rw[aD ho,aD hn,ae ho,ae hn,er N ω ω ω,ag,er N ω ω ω,ag,
     B5 N hN ((Cu (x:=new) (by unfold bk;omega)).mono ω) ((Cu (x:=jE) (by unfold bk;omega)).mono ω),ag]
    exact EY N hq hl hN inst (by unfold bk;omega)
   ·rw[aD ho,aP hn,ae ho,af hn];rfl
  ·rw[aP ho,af ho];rfl
end VM
end
section
namespace VM
open Go VM.F Go.RowKit
structure Rq(s:ak)(n:Nat):Prop where
 place: ∀x∈s,bK x.1 x.2.1
 q: ∀x∈s,bk (da x)∧xd (da x)
 len:s.length≤n
 flat: ∀i:Int,(dm i s).sum=0
theorem Rq.nil(n:Nat):Rq [] n:=⟨λx hx=>(nomatch hx),λx hx=>(nomatch hx),c8 _,λi=>rfl⟩
theorem EZ{c:aj}{b:ar}(h:cD c b=true):mM b.2.2.2.1=true∧eF c=true:=by
 unfold cD at h
 have h0:=dQ.1 h
 have h1:=(dQ.1 h0.2).2
 have h2:=dQ.1 h1
 exact⟨(dQ.1 (dQ.1 h2.2).2).1,h0.1⟩
namespace Pure
end Pure
end VM
end
section
namespace VM
open Go VM.F
theorem Cv{b:ar}{s e:ak}(h:(cv b s e).2=0):(cv b s e).1.2.2.2.2=b.2.2.2.2∧(cv b s e).1.1=b.1∧(cv b s e).1.2.1=b.2.1:=by
 have n2: ¬(2:Int)=0:=δ
 unfold cv at h ⊢
 cases h1:cO Fq (fS b.2.2.2.1 s) ga with
 |none=>rw[h1]at h;exact absurd h n2
 |some s'=>
  rw[h1]at h
  cases hc:cO bk (fS b.2.2.1 e) jx with
  |none=>dsimp only at h;rw[hc]at h;exact absurd h n2
  |some r'=>exact⟨rfl,rfl,rfl⟩
def E0(m:ar)(ps:List Int)(i p:Int):ar:=(m.1,(m.2.1,(m.2.2.1,(m.2.2.2.1,(List.set ps i.toNat p,m.2.2.2.2.2)))))
def ey(c:aj)(b:ar)(i p:Int):ar×ak×Int:=
 if cD c b then(if cg p then(if 0≤i∧i<(c.1.length:Int)then
  (if(cv b [] (dL i (p-b.2.2.2.2.1.getD i.toNat 0) b.2.2.2.1)).2=0 then
    (E0 (cv b [] (dL i (p-b.2.2.2.2.1.getD i.toNat 0) b.2.2.2.1)).1 b.2.2.2.2.1 i p,dL i (p-b.2.2.2.2.1.getD i.toNat 0) b.2.2.2.1,0)
   else((fP,(fQ,(cj,(cj,(eH,(fv,())))))),[],(cv b [] (dL i (p-b.2.2.2.2.1.getD i.toNat 0) b.2.2.2.1)).2))else((fP,(fQ,(cj,(cj,(eH,(fv,())))))),[],3))else((fP,(fQ,(cj,(cj,(eH,(fv,())))))),[],1))else((fP,(fQ,(cj,(cj,(eH,(fv,())))))),[],1)
theorem Bs:EA []:=⟨λx hx=>(nomatch hx),λx hx=>(nomatch hx),c8 _,λi=>rfl⟩
theorem Mu{q d:Int}(hq:bk q)(hd: -1000000000000≤d∧d≤1000000000000):bO (q*d):=by
 have h1:(q*d).natAbs≤9223372036854775808*1000000000000:=by
  rw[Int.natAbs_mul]
  unfold bk at hq
  exact pW ω ω
 unfold bO
 omega
theorem sF{c:aj}{b:ar}(h:cD c b=true)(hq:c3 b.2.2.2.1)(hl:b.2.2.2.1.length≤400){i d:Int}(hi:0≤i∧i<(c.1.length:Int))(hd: -1000000000000≤d∧d≤1000000000000):EC (dL i d b.2.2.2.1):=by
 have hs:=EZ h
 have sM:=(gI (fK h).2).2
 refine⟨λx hx=> ?_,λx hx=> ?_,iC (zz _ _ _) hl,?_⟩
 ·obtain⟨y,hy,_,e⟩:=pj hx
  have:=(sM y hy).1
  unfold bK at this
  rw[e];exact zh ⟨this.1,this.2.1⟩
 ·obtain⟨y,hy,_,e⟩:=pj hx
  rw[e,jz];exact Mu (hq y hy) hd
 ·rw[zA]
  split
  ·have h6:=(EM hs.2).1
   have hf:=hs.1
   unfold mM at hf
   have h1:=bH (dQ.1 hf).1 i.toNat (by unfold ia;omega)
   unfold o6 eR o5 at h1
   rw[ae (dQ.1 hf).2]at h1
   have e:((i.toNat:Nat):Int)=i:=ω
   rw[e]at h1
   rw[h1];simp
  ·rfl
theorem sG{l:List Int}(h:fq l=true){i:Nat}(hi:i<l.length){p:Int}(hp:cg p): -1000000000000≤p-l.getD i 0∧p-l.getD i 0≤1000000000000:=by
 have:=ou h hi
 unfold cg at this hp;omega
theorem J2(N:Nat)(b:ar)(s:ak)(e:bD):Mv N b s e=L5 N b s e:=rfl
theorem Iw(N:Nat)(hN:4000000≤N)(c:aj){b:ar}(w:lU b)(hl:b.2.2.2.1.length≤400)(i p:Int):
  VF N c b i p=some ((ey c b i p).1,(ey c b i p).2.1.map eu,(ey c b i p).2.2):=by
 unfold VF ey
 rw[rq N hN w.w,ag,mT,ag,cond_not,cond_not]
 by_cases hB:cD c b=true
 rotate_left
 ·rw[af hB];rw[gN]at hB;rw[hB];rfl
 rw[ae hB,hB,aa]
 by_cases hp:cg p
 rotate_left
 ·rw[af hp,aP hp];rfl
 rw[ae hp,aD hp,aa,bb,aX]
 by_cases h0:i<0
 ·rw[ae h0,af (λh=>ω)];rfl
 rw[af h0]
 by_cases h1:(c.1.length:Int)≤i
 ·rw[ae h1,af (λh=>ω)];rfl
 rw[af h1,ae (show 0≤i∧i<(c.1.length:Int)by omega)]
 have BQ:=iy hB
 have tz:i.toNat<b.2.2.2.2.1.length:=by rw[BQ.1];omega
 have hJ:bJ i b.2.2.2.2.1.length=true:=aE ω (by rw[BQ.1];omega)
 have sM:=fK hB
 have zS:kq b.2.2.2.1 i (b.2.2.2.2.1.getD i.toNat 0) p=(dL i (p-b.2.2.2.2.1.getD i.toNat 0) b.2.2.2.1,0):=by
  unfold kq
  rw[ae sM.2,ae (ou BQ.2 tz),ae hp]
 have HS:=sF hB w.w.qs hl (i:=i) ⟨ω,ω⟩ (sG BQ.2 tz hp)
 rw[hJ,aa,J0 N w.w.qs w.w.s ω,ag,zS,J2,EH N ω w.w sM.1 sM.2 w.r w.s Bs HS,ag,cond_not,au]
 by_cases hm:(cv b [] (dL i (p-b.2.2.2.2.1.getD i.toNat 0) b.2.2.2.1)).2=0
 ·have KY:=Cv hm
  rw[ae hm,ae hm]
  unfold E0
  rw[KY.1,hJ];rfl
 ·rw[af hm,af hm];rfl
theorem Mw(N:Nat)(hN:5000000≤N)(c:aj){b:ar}(w:lU b)(hl:b.2.2.2.1.length≤400)(i p:Int):
  O8 N c b i p=some ((ey c b i p).1,(ey c b i p).2.1.map ew,(ey c b i p).2.2):=by
 unfold O8 ey
 rw[qH N hN w.w,ag,mR,ag,cond_not,cond_not]
 by_cases hB:cD c b=true
 rotate_left
 ·rw[af hB];rw[gN]at hB;rw[hB];rfl
 rw[ae hB,hB,aa]
 by_cases hp:cg p
 rotate_left
 ·rw[af hp,aP hp];rfl
 rw[ae hp,aD hp,aa,bb,aX]
 by_cases h0:i<0
 ·rw[ae h0,af (λh=>ω)];rfl
 rw[af h0]
 by_cases h1:(c.1.length:Int)≤i
 ·rw[ae h1,af (λh=>ω)];rfl
 rw[af h1,ae (show 0≤i∧i<(c.1.length:Int)by omega)]
 have BQ:=iy hB
 have tz:i.toNat<b.2.2.2.2.1.length:=by rw[BQ.1];omega
 have hJ:bJ i b.2.2.2.2.1.length=true:=aE ω (by rw[BQ.1];omega)
 have sM:=fK hB
 have zS:kq b.2.2.2.1 i (b.2.2.2.2.1.getD i.toNat 0) p=(dL i (p-b.2.2.2.2.1.getD i.toNat 0) b.2.2.2.1,0):=by
  unfold kq
  rw[ae sM.2,ae (ou BQ.2 tz),ae hp]
 have HS:=sF hB w.w.qs hl (i:=i) ⟨ω,ω⟩ (sG BQ.2 tz hp)
 have hp5:=w.w.p
 rw[hJ,aa,J1 N w.w.qs w.w.s ω,ag,zS,Iq N ω w.w sM.1 sM.2 w.r w.s Bs HS,ag,cond_not,au]
 by_cases hm:(cv b [] (dL i (p-b.2.2.2.2.1.getD i.toNat 0) b.2.2.2.1)).2=0
 ·rw[ae hm,ae hm,bo (by rw[dy];omega),aa,c7]
  dsimp only
  rw[hJ];rfl
 ·rw[af hm,af hm];rfl
def jC(m:Int):bl→List Int
 |[]=>[]
 |x::t=>if x.2.1=m then x.1::jC m t else jC m t
theorem zB(m:Int): ∀l:bl,(jC m l).length≤l.length
 |[]=>aB _
 |x::t=>by
  have:=zB m t
  show(if x.2.1=m then x.1::jC m t else jC m t).length≤t.length+1
  split
  ·rw[aL];omega
  ·omega
def nH(a:bl)(m:Int):List Int:=if iP a then jC m a else []
theorem My(N:Nat){a:bl}(hl:a.length≤100000)(hN:200000≤N)(m:Int):kY N a m=some (nH a m):=by
 unfold kY kY.b nH
 rw[B8 N hl hN,ag,cond_not]
 have:=hZ a bQ (λn i s=>kY.l5 N n m s a (a.length:Int) i) (λt s=>some (s++jC m t)) (λi (s:List Int)=>s.length≤i) (λn i s hi hI hr=> ?_) (λn s hI=> ?_) a.length N 0 [] ω ω ω (aB _)
 ·rw[bY,c7]at this
  have e:kY.l5 N N m [] a (a.length:Int) 0=some (jC m a):=this
  rw[e];cases iP a<;>rfl
 ·unfold kY.l5 kY.fX
  rw[az ω,aa,aE ω ω,aa,aw,ay (x:=(i:Int)+1) ω ω,ah i,au,bo (by rw[aQ];omega),aa]
  show _=some (s++(if(a.getD i bQ).2.1=m then(a.getD i bQ).1::jC m (a.drop (i+1))else jC m (a.drop (i+1))))
  by_cases hx:(a.getD i bQ).2.1=m
  ·rw[ae hx,ae hx]
   refine Eq.trans (hr (s++[(a.getD i bQ).1]) (by rw[aC,aQ];omega)) ?_
   rw[aT];rfl
  ·rw[af hx,af hx]
   exact hr s ω
 ·unfold kY.l5 kY.fX
  rw[av ω,an]
  show some s=some (s++[])
  rw[bF]
theorem J3(N:Nat){a:bl}(hl:a.length≤100000)(hN:200000≤N)(m:Int):kZ N a m=some (nH a m):=by
 unfold kZ kZ.b nH
 rw[y7 N hl hN,ag,cond_not]
 have:=hZ a bQ (λn i s=>kZ.l5 N n a m s i) (λt s=>some (s++jC m t)) (λi (s:List Int)=>s.length≤i) (λn i s hi hI hr=> ?_) (λn s hI=> ?_) a.length N 0 [] ω ω ω (aB _)
 ·rw[bY,c7]at this
  have e:kZ.l5 N N a m [] 0=some (jC m a):=this
  rw[e];cases iP a<;>rfl
 ·unfold kZ.l5 kZ.fX
  rw[az ω,aa,aE ω ω,aa,aw,ay (x:=(i:Int)+1) ω ω,ah i,au,aa,bo (by rw[aQ];omega),aa]
  show _=some (s++(if(a.getD i bQ).2.1=m then(a.getD i bQ).1::jC m (a.drop (i+1))else jC m (a.drop (i+1))))
  by_cases hx:(a.getD i bQ).2.1=m
  ·rw[ae hx,ae hx]
   refine Eq.trans (hr (s++[(a.getD i bQ).1]) (by rw[aC,aQ];omega)) ?_
   rw[aT];rfl
  ·rw[af hx,af hx]
   exact hr s ω
 ·unfold kZ.l5 kZ.fX
  rw[av ω,an]
  show some s=some (s++[])
  rw[bF]
theorem rC{α:Type}{l:List α}{i:Nat}(h:i<l.length)(d:α):l.take (i+1)=l.take i++[l.getD i d]:=by
 rw[List.take_add_one,aR,bc h];rfl
def Hf(l:List Int)(x:Int):Bool:=l.any λa=>decide (a=x)
theorem E1(N:Nat){l:List Int}(hl:l.length≤100000)(x:Int): ∀(m n i:Nat),l.length-i≤m→m<n→i≤l.length→ ∃r,mX.l2 N n l x (l.length:Int) (i:Int)=some r∧cP 0 r=Hf (l.drop i) x
 |m,0,i,_,hn,_=>ω
 |m,n+1,i,hm,hn,hi=>by
  unfold mX.l2 mX.dY
  by_cases h:i<l.length
  ·rw[az ω,aa,aE ω ω,aa,aw,au,ay (x:=(i:Int)+1) ω ω,ah i,drop_cons h 0]
   by_cases hx:x=l.getD i 0
   ·rw[ae hx]
    refine⟨_,rfl,?_⟩
    unfold Hf
    rw[xM,aD hx.symm,jl,aD ω];rfl
   ·rw[af hx]
    obtain⟨r,h1,h2⟩:=E1 N hl x (m-1) n (i+1) ω ω ω
    refine⟨r,h1,h2.trans ?_⟩
    unfold Hf
    rw[xM,aP (λe=>hx e.symm),ta]
  ·rw[av ω,an,gd ω]
   exact⟨_,rfl,by rw[jl];rfl⟩
theorem E2(N:Nat){l:List Int}(hl:l.length≤100000)(hN:200000≤N)(x:Int):O9 N l x=some (Hf l x):=by
 unfold O9 mX mX.b
 obtain⟨r,h1,h2⟩:=E1 N hl x l.length N 0 ω ω ω
 rw[bY]at h2
 rw[show mX.l2 N N l x (l.length:Int) 0=some r from h1,ag,h2]
def ox(cW:List Int)(o:sw):Bool:=Hf cW o.2.1
theorem E3(N:Nat){cW:List Int}(hl:cW.length≤100000)(hN:200000≤N)(o:sw):Mz N o cW=some (ox cW o):=by
 unfold Mz ox
 rw[E2 N hl hN,ag]
theorem wx(N:Nat){cW:List Int}(ha:cW.length≤100000)(hN:200000≤N){l:bx}(hl:l.length≤100000): ∀(m n i:Nat),l.length-i≤m→m<n→i≤l.length→(∀x∈l.take i,ox cW x=false)→
  (lq.l2 N n l ((cW,()),()) (l.length:Int) (i:Int)=some (-1)∧ ∀x∈l,ox cW x=false)∨
  ∃k:Nat,lq.l2 N n l ((cW,()),()) (l.length:Int) (i:Int)=some (k:Int)∧k<l.length∧(∀x∈l.take k,ox cW x=false)∧ox cW (l.getD k fZ)=true
 |m,0,i,_,hn,_,_=>ω
 |m,n+1,i,hm,hn,hi,hp=>by
  unfold lq.l2 lq.dY
  by_cases h:i<l.length
  ·rw[az ω,aa,aE ω ω,aa,aw,E3 N ha hN,ag,ay (x:=(i:Int)+1) ω ω,ah i]
   cases hx:ox cW (l.getD i fZ)
   ·refine wx N ha hN hl (m-1) n (i+1) ω ω ω (λx k9=> ?_)
    rw[rC h fZ,br,dw]at k9
    rcases k9 with k9|k9
    ·exact hp x k9
    ·rw[k9];exact hx
   ·exact .inr ⟨i,rfl,h,hp,hx⟩
  ·rw[av ω,an]
   refine .inl ⟨rfl,λx hx=>hp x ?_⟩
   rw[jf ω];exact hx
def mY(cW:List Int)(l:bx):bx:=l.filter λo=> !ox cW o
theorem E4{cW:List Int}{l:bx}(h: ∀x∈l,ox cW x=false):mY cW l=l:=by
 unfold mY
 rw[List.filter_eq_self]
 intro x hx;rw[h x hx];rfl
theorem E5(cW:List Int)(l:bx):(mY cW l).length≤l.length:=De _ _
theorem zC(N:Nat){cW:List Int}(ha:cW.length≤100000)(hN:200000≤N){l:bx}(hl:l.length≤100000): ∀(m n i j:Nat) (x:bx),l.length-j≤m→m<n→j≤l.length→i≤j→x.length=l.length→x.take i=mY cW (l.take j)→x.drop j=l.drop j→
  mZ.l5 N n x ((cW,()),()) (i:Int) (j:Int)=some (mY cW l)
 |m,0,i,j,x,_,hn,_,_,_,_,_=>ω
 |m,n+1,i,j,x,hm,hn,hj,ns,Z8,ht,hd=>by
  unfold mZ.l5 mZ.fX
  by_cases h:j<l.length
  ·have hg:x.getD j fZ=l.getD j fZ:=by
    have h1:=cN (λt=>t.getD 0 fZ) hd
    simpa [aR]using h1
   have htk:l.take (j+1)=l.take j++[l.getD j fZ]:=rC h fZ
   rw[az ω,aa,aE ω ω,aa,aw,hg,E3 N ha hN,ag,ay (x:=(j:Int)+1) ω ω,ah j,aE ω ω,aa,aw,ay (x:=(i:Int)+1) ω ω,ah i]
   have V4:x.drop (j+1)=l.drop (j+1):=by rw[←eK,←eK,hd]
   cases hx:ox cW (l.getD j fZ)
   ·refine zC N ha hN hl (m-1) n (i+1) (j+1) _ ω ω ω ω (by rw[cz];exact Z8) ?_ ?_
    ·have e1:mY cW (l.take (j+1))=mY cW (l.take j)++[l.getD j fZ]:=by
      rw[htk];unfold mY;rw[xE];congr 1
      rw[s5,hx];rfl
     rw[e1,←ht,rC (by rw[cz];omega) fZ]
     congr 1
     ·rw[List.take_set_of_le (aB _)]
     ·rw[aR,List.getElem?_set_self ω];rfl
    ·rw[List.drop_set_of_lt ω];exact V4
   ·refine zC N ha hN hl (m-1) n i (j+1) x ω ω ω ω Z8 ?_ V4
    rw[htk,ht];unfold mY;rw[xE,s5,hx];simp
  ·have WG:j=l.length:=ω
   subst WG
   rw[ni]at ht
   have lB:=E5 cW l
   rw[av ω,an,mv,aD ω,aa,aw]
   dsimp only
   have hxt:(x.take i).length=i:=by rw[bV];omega
   rw[mv,aD (by rw[aC,dg,hxt];omega),aa,qQ ω,jf ω,ht]
   rfl
theorem J4(N:Nat){cW:List Int}(ha:cW.length≤100000)(hN:200000≤N){l:bx}(hl:l.length≤100000):mZ N l ((cW,()),())=some (mY cW l):=by
 unfold mZ mZ.b lq lq.b
 rcases wx N ha hN hl l.length N 0 ω ω ω (λx hx=>by rw[pV]at hx;exact nomatch hx)with⟨h1,h2⟩|⟨k,h1,h2,h3,h4⟩
 ·rw[show lq.l2 N N l ((cW,()),()) (l.length:Int) 0=some (-1)from h1,ag,dS rfl,E4 h2];rfl
 ·rw[show lq.l2 N N l ((cW,()),()) (l.length:Int) 0=some (k:Int)from h1,ag,eP ω,an,ay (x:=(k:Int)+1) ω ω,ah k]
  refine zC N ha hN hl l.length N k (k+1) l ω ω ω ω rfl ?_ rfl
  rw[rC h2 fZ]
  unfold mY
  rw[xE,s5,h4]
  have:=E4 h3
  unfold mY at this
  rw[this];simp
def zD(l:bx)(cW:List Int):bx:=if dk l then mY cW l else []
theorem Pb(N:Nat){l:bx}{cW:List Int}(ha:cW.length≤100000)(hN:200000≤N)(hl:l.length≤100000):Pd N l cW=some (zD l cW):=by
 unfold Pd zD
 rw[u5 N hl hN,ag,cond_not,o8 N ω,ag,J4 N ha hN hl,ag]
 cases dk l<;>rfl
theorem MA(N:Nat)(hN:200000≤N)(K:ek.cQ){l:bx}{cW:List Int}(ha:cW.length≤100000)(s:bx){i:Nat}(hi:i<l.length)(hl:l.length≤100000)(hs:s.length≤100000):
  ek.l9 N K N l cW s (i:Int) false 0=if ox cW (l.getD i fZ)then K l cW s ((i+1:Nat):Int)else K l cW (s++[l.getD i fZ]) ((i+1:Nat):Int):=by
 have:=hZ cW 0 (λn k (v:Bool)=>ek.l9 N K n l cW s (i:Int) v k) (λt v=>if v||Hf t (l.getD i fZ).2.1 then K l cW s ((i+1:Nat):Int)else K l cW (s++[l.getD i fZ]) ((i+1:Nat):Int)) (λ_ _=>True) (λn k v hk _ hr=> ?_) (λn v _=> ?_) cW.length N 0 false ω ω ω trivial
 ·rw[bY]at this
  exact this
 ·unfold ek.l9 ek.OY
  rw[az ω,aa,aE ω ω,aa,aE ω ω,aa,aw,aw,ay (x:=(k:Int)+1) ω ω,ah k]
  cases v
  ·rw[an,hr _ trivial,fF,ta]
   unfold Hf
   rw[xM]
  ·rw[aa,hr _ trivial,Bool.true_or,Bool.true_or]
 ·unfold ek.l9 ek.OY
  rw[av ω,an,aE ω ω,aa,aw,bo (by rw[aQ];omega),aa,ay (x:=(i:Int)+1) ω ω,ah i]
  cases v<;>rfl
theorem J5(N:Nat){l:bx}{cW:List Int}(ha:cW.length≤100000)(hN:200000≤N)(hl:l.length≤100000):ek N l cW=some (zD l cW):=by
 unfold ek ek.b zD
 rw[y4 N hl hN,ag,cond_not]
 have:=hZ l fZ (λn i s=>ek.l5 N n l cW s i) (λt s=>some (s++mY cW t)) (λi (s:bx)=>s.length≤i) (λn i s hi hI hr=> ?_) (λn s hI=> ?_) l.length N 0 [] ω ω ω (aB _)
 ·rw[bY,c7]at this
  have e:ek.l5 N N l cW [] 0=some (mY cW l):=this
  rw[e];cases dk l<;>rfl
 ·unfold ek.l5 ek.fX
  rw[az ω,aa,MA N hN _ ha s hi hl ω]
  show _=some (s++(l.getD i fZ::l.drop (i+1)).filter λo=> !ox cW o)
  rw[s5]
  cases hx:ox cW (l.getD i fZ)
  ·refine Eq.trans (hr (s++[l.getD i fZ]) (by rw[aC,aQ];omega)) ?_
   rw[aT];rfl
  ·exact hr s ω
 ·unfold ek.l5 ek.fX
  rw[av ω,an]
  show some s=some (s++[])
  rw[bF]
def nU(c:aj)(b:ar)(m:Int):ar×Int:=
 if cD c b then(if et b.1 m=0 then((fP,(fQ,(cj,(cj,(eH,(fv,())))))),3)else((b.1,(b.2.1,(b.2.2.1,(b.2.2.2.1,(b.2.2.2.2.1,(zD b.2.2.2.2.2.1 (nH b.2.1 m),b.2.2.2.2.2.2)))))),0))else((fP,(fQ,(cj,(cj,(eH,(fv,())))))),1)
theorem Bt(a:bl)(m:Int):(nH a m).length≤a.length:=by
 unfold nH
 split
 ·exact zB m a
 ·exact c8 _
theorem E6(N:Nat)(hN:4000000≤N)(c:aj){b:ar}(w:ib b)(m:Int):VG N c b m=some (nU c b m):=by
 unfold VG nU
 have h1:=Bt b.2.1 m
 have h2:=w.a
 rw[rq N hN w,ag,u6 N w.m ω,ag,cond_not,au,EG N w,ag,My N w.a ω,ag,Pb N ω ω w.o,ag]
 cases cD c b
 ·rfl
 ·show(if et b.1 m=0 then _ else _)=some (if et b.1 m=0 then _ else _)
  split<;>rfl
theorem J6(N:Nat)(hN:5000000≤N)(c:aj){b:ar}(w:ib b)(m:Int):Pe N c b m=some (nU c b m):=by
 unfold Pe nU
 have h1:=Bt b.2.1 m
 have h2:=w.a
 rw[qH N hN w,ag,y6 N w.m ω,ag,cond_not,au,J3 N w.a ω,ag,J5 N ω ω w.o,ag]
 cases cD c b
 ·rfl
 ·show(if et b.1 m=0 then _ else _)=some (if et b.1 m=0 then _ else _)
  split<;>rfl
end VM
end
section
namespace VM
open Go VM.F Go.RowKit
theorem Ix{a k:Int}: ∀{l:bx} {z:Int×Int},(∀o∈l,¬o.2.2.1=k)→Tb a k l z=z
 |[],z,_=>rfl
 |x::t,z,h=>by
  rw[zi,af (λe=>h x (bg ..) e.2)]
  exact Ix λo ho=>h o (aU _ ho)
theorem zE{f:Int→Int×Int}{x:dJ}: ∀m (k:Nat),x∈Is f m k→ ∃j:Nat,x=nz (j:Int) (f (j:Int))∧0<(f (j:Int)).1+(f (j:Int)).2
 |0,_,hx=>nomatch hx
 |m+1,k,hx=>by
  rw[qK]at hx
  split at hx
  ·rename_i h0
   rcases aV.1 hx with rfl|hx
   ·exact⟨k,rfl,h0⟩
   ·exact zE m (k+1) hx
  ·exact zE m (k+1) hx
theorem vl(f:Int→Int×Int): ∀m k,(Is f m k).Pairwise (λx y:dJ=>sy x.1 y.1)
 |0,_=>List.Pairwise.nil
 |m+1,k=>by
  rw[qK]
  split
  ·refine ez.2 ⟨λy hy=> ?_,vl f m (k+1)⟩
   have:=Mf f m (k+1) y hy
   show(k:Int)<y.1
   omega
  ·exact vl f m (k+1)
theorem Hg{c:aj}{b:ar}(hR:RB c b)(a:Int):ec c (iG b.2.2.2.2.2.1 a)=true:=by
 obtain⟨hq,hl⟩:=zj hR.o
 have hc:=(ow (R:=λx y:dJ=>sy x.1 y.1) (d:=aH) (λ_ _ _=>Hd) _).2 (vl (CU b.2.2.2.2.2.1 a) 6 0)
 unfold ec
 refine dQ.2 ⟨aD λj hj=> ?_,hR.c⟩
 obtain⟨i,e,h0⟩:=zE 6 0 (G9 (d:=aH) hj)
 have hp:=hc j hj
 have hz:=Cl hq a (i:Int)
 have hn:((i:Int))<(c.1.length:Int):=by
  rcases Int.lt_or_le (i:Int) (c.1.length:Int)with h|h
  ·exact h
  ·exfalso
   have:CU b.2.2.2.2.2.1 a (i:Int)=(0,0):=Ix λo ho he=>by
    have h3:o.2.2.1<(c.1.length:Int):=(hR.ok o ho).2
    rw[he]at h3
    exact absurd h3 (mu.2 h)
   rw[this]at h0
   exact absurd h0 δ
 unfold pf
 rw[show(iG b.2.2.2.2.2.1 a).getD j aH=(Is (CU b.2.2.2.2.2.1 a) 6 0).getD j aH from rfl,show(iG b.2.2.2.2.2.1 a).getD (j-1) aH=(Is (CU b.2.2.2.2.2.1 a) 6 0).getD (j-1) aH from rfl]
 rw[e]at hp ⊢
 unfold xi at hz
 have g: ∀u v:Int,(0≤u∧u≤1000000000*(b.2.2.2.2.2.1.length:Int)∧0≤v∧v≤1000000000*(b.2.2.2.2.2.1.length:Int))→0<u+v→(0≤u∧u≤33000000000∧0≤v∧v≤33000000000∧(u=0→v≠0)):=λu v _ _=>ω
 obtain⟨g1,g2,g3,g4,g5⟩:=g _ _ hz h0
 exact⟨Int.natCast_nonneg i,hn,g1,g2,g3,g4,g5,λh=>hp h⟩
def j2(c:aj)(b:ar)(a:Int):Int×Int:=
 if cD c b then(if(dU b.2.1 a).2 then((gW c (posOf b.2.2.2.1 a) (iG b.2.2.2.2.2.1 a)).1,0)else(0,3))else(0,1)
theorem Hh{c:aj}{b:ar}(h:cD c b=true)(a:Int):(gW c (posOf b.2.2.2.1 a) (iG b.2.2.2.2.2.1 a)).2=0:=by
 have hR:=Ct.1 h
 unfold gW
 rw[Mt hR a,Hg hR a];rfl
theorem Cw(N:Nat)(hN:4000000≤N)(c:aj){b:ar}(w:ib b)(a:Int):Rr N c b a=some (bp (j2 c b a).1,(j2 c b a).2):=by
 unfold Rr j2
 rw[rq N hN w,ag,cond_not,u9 N b w.a ω,ag,cond_not]
 by_cases hB:cD c b=true
 rotate_left
 ·rw[af hB];rw[gN]at hB;rw[hB];rfl
 rw[ae hB,hB,aa]
 have HN:=Be a b.2.2.2.1
 have uS:=Bp b.2.2.2.2.2.1 a
 have hs:=w.s
 have hoo:(if dk b.2.2.2.2.2.1 then iG b.2.2.2.2.2.1 a else [])=iG b.2.2.2.2.2.1 a:=by rw[ae (rY hB)]
 rw[Xq N w.s ω,ag,Mi N ω w.o,ag,hoo,Mm N ω c ω (zg w.qs a) ω,ag,Hh hB]
 cases(dU b.2.1 a).2<;>rfl
theorem MB(N:Nat)(hN:5000000≤N)(c:aj){b:ar}(w:ib b)(a:Int):Pf N c b a=some (bU (j2 c b a).1,(j2 c b a).2):=by
 unfold Pf j2
 rw[qH N hN w,ag,cond_not,Es N w.a ω,ag,cond_not]
 by_cases hB:cD c b=true
 rotate_left
 ·rw[af hB,fl];rw[gN]at hB;rw[hB];rfl
 rw[ae hB,hB,aa]
 have HN:=Be a b.2.2.2.1
 have uS:=Bp b.2.2.2.2.2.1 a
 have hs:=w.s
 obtain⟨hq,hl⟩:=zj (rY hB)
 have abE:Pg N c b a []=some (bU (gW c (posOf b.2.2.2.1 a) (iG b.2.2.2.2.2.1 a)).1):=by
  unfold Pg
  rw[bo (by rw[dy];omega),aa]
  dsimp only
  rw[c7,bo (by rw[dy];omega),aa,bF,S8 N w.s ω,ag,JT N ω hq ω,ag,JW N ω c ω (zg w.qs a) ω,ag]
 cases(dU b.2.1 a).2 with
 |false=>rw[af oB,fl];rfl
 |true=>
  rw[aa,ae rfl]
  exact(cN (λz:Option aK=>z.bind λr3=>some (r3,(0:Int))) abE)
theorem Ph{c:aj}{b:ar}(w:ib b)(a:Int):bO (j2 c b a).1:=by
 have:=ET c (iG b.2.2.2.2.2.1 a) (zg w.qs a)
 unfold j2
 repeat' split
 ·unfold bO;dsimp only;omega
 ·decide
 ·decide
end VM
end
