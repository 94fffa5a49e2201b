/- A part of the proof of BookTwo of layer 18: what the functions compute, in plain words. -/
import Derived.Test.YtecmobijochjkaaGreatPlain4
set_option linter.all false
open List renaming length→ℓ
section
namespace VM
open Go VM.F Go.RowKit
def hR:au:=[((1:Int),((0:Int),((-90:Int),()))),((5:Int),((1:Int),((90:Int),())))]
def hS:au:=[((0:Int),((0:Int),((5:Int),()))),((0:Int),((1:Int),((20:Int),()))),((1:Int),((0:Int),((-5:Int),()))),((1:Int),((1:Int),((-20:Int),())))]
def hB:an:=([((1:Int),((1:Int),()))],([((1:Int),((1:Int),((1:Int),((50:Int),()))))],(hR,(hS,([(100:Int),(7:Int)],(dm,()))))))
def hO:cG:=((4:Int),((0:Int),((2:Int),((6:Int),()))))
theorem hW:pI hB:=⟨⟨δ,δ,δ,δ,δ,δ,B0 (l:=hR) δ,B0 (l:=hS) δ⟩,δ,δ⟩
namespace Pure
end Pure
end VM
end
section
namespace VM
open Go VM.F
def Ok{α:Type}(P:α→Prop)(o:Option α):Prop:= ∃r,o=some r∧P r
theorem aq{α:Type}{P:α→Prop}{r:α}(h:P r):Ok P (some r):=⟨r,rfl,h⟩
theorem ag{α β:Type}{P:β→Prop}{Q:α→Prop}{o:Option α}{f:α→Option β}(h:Ok Q o)(hf: ∀r,Q r→Ok P (f r)):Ok P (o.bind f):=by
 obtain⟨r,rfl,hr⟩:=h
 exact hf r hr
theorem My{α:Type}{P Q:α→Prop}{o:Option α}(h:Ok Q o)(hf: ∀r,Q r→P r):Ok P o:=by
 obtain⟨r,e,hr⟩:=h
 exact⟨r,e,hf r hr⟩
theorem oB{α:Type}{P:α→Prop}{o:Option α}{r:α}(h:o=some r)(hr:P r):Ok P o:=⟨r,h,hr⟩
theorem nL{α:Type}{P:α→Prop}{b:Bool}{x y:Option α}(hx:b=true→Ok P x)(hy:b=false→Ok P y):Ok P (cond b x y):=by
 cases b
 ·exact hy rfl
 ·exact hx rfl
theorem bF{α:Type}{P:α→Prop}{b:Bool}{x y:Option α}(hx:b=false→Ok P x)(hy:b=true→Ok P y):Ok P (cond (!b) x y):=by
 cases b
 ·exact hx rfl
 ·exact hy rfl
theorem ax{α:Type}{P:α→Prop}{a b:Int}{x y:Option α}(hx:a<b→Ok P x)(hy:b≤a→Ok P y):Ok P (cond (aX a b) x y):=by
 rw[cy]
 split
 ·exact hx (by assumption)
 ·exact hy ω
theorem eN{α:Type}{P:α→Prop}{a b:Int}{x y:Option α}(hx:a≤b→Ok P x)(hy:b<a→Ok P y):Ok P (cond (du a b) x y):=by
 rw[cz]
 split
 ·exact hx (by assumption)
 ·exact hy ω
theorem ok_eq{α:Type}{P:α→Prop}{a b:Int}{x y:Option α}(hx:a=b→Ok P x)(hy:a≠b→Ok P y):Ok P (cond (aN a b) x y):=by
 rw[aL]
 split
 ·exact hx (by assumption)
 ·exact hy (by assumption)
theorem bG{α:Type}{P:α→Prop}{a b:Int}{x y:Option α}(hx:a≠b→Ok P x)(hy:a=b→Ok P y):Ok P (cond (!aN a b) x y):=by
 rw[cond_not];exact ok_eq hy hx
theorem aB{α:Type}{P:α→Prop}{i:Int}{n:Nat}{x y:Option α}(h:0≤i∧i<(n:Int))(hx:Ok P x):Ok P (cond (bc i n) x y):=by
 rw[aW h.1 h.2];exact hx
theorem aD{α:Type}{P:α→Prop}{n:Nat}{x y:Option α}(h:n<68719476736)(hx:Ok P x):Ok P (cond (small n) x y):=by
 rw[bS h];exact hx
theorem adt{α:Type}{P:α→Prop}{l c:Int}{x y:Option α}(h:0≤l∧l≤c∧c<68719476736)(hx:Ok P x):Ok P (cond (kT l c) x y):=by
 rw[c9 h.1 h.2.1 h.2.2];exact hx
theorem Df{α:Type}{P:α→Prop}{l h m n:Int}{x y:Option α}(hh:0≤l∧l≤h∧h≤m∧m≤n)(hx:Ok P x):Ok P (cond (jq l h m n) x y):=by
 rw[eh hh.1 hh.2.1 hh.2.2.1 hh.2.2.2];exact hx
theorem jh{σ β:Type}{P:β→Prop}{F:Nat→Int→σ→Option β}{len:Nat}(I:Nat→σ→Prop)
  (hs: ∀n i s,i<len→I i s→(∀s',I (i+1) s'→Ok P (F n ((i+1:Nat):Int) s'))→Ok P (F (n+1) (i:Int) s)) (he: ∀n s,I len s→Ok P (F (n+1) (len:Int) s)):
  ∀m n i s,len-i≤m→m<n→i≤len→I i s→Ok P (F n (i:Int) s)
 |m,0,i,s,_,hn,_,_=>ω
 |m,n+1,i,s,hm,hn,hi,hI=>by
  by_cases h:i<len
  ·exact hs n i s h hI λs' zD=>jh I hs he (m-1) n (i+1) s' ω ω ω zD
  ·have:i=len:=ω
   subst this
   exact he n s hI
theorem bs{σ β:Type}{P:β→Prop}{F:Nat→Int→σ→Option β}{len:Nat}(I:Nat→σ→Prop){N:Nat}{s:σ}(h0:I 0 s)(hN:len<N)
  (hs: ∀n i s,i<len→I i s→(∀s',I (i+1) s'→Ok P (F n ((i+1:Nat):Int) s'))→Ok P (F (n+1) (i:Int) s)) (he: ∀n s,I len s→Ok P (F (n+1) (len:Int) s)):Ok P (F N 0 s):=
 jh I hs he len N 0 s ω hN ω h0
theorem mZ{β:Type}{P:β→Prop}{F:Nat→Int→Option β}{len N:Nat}(hN:len<N)
  (hs: ∀n i,i<len→Ok P (F n ((i+1:Nat):Int))→Ok P (F (n+1) (i:Int))) (he: ∀n,Ok P (F (n+1) (len:Int))):Ok P (F N 0):=
 bs (σ:=Unit) (F:=λn i _=>F n i) (λ_ _=>True) (s:=()) trivial hN (λn i _ h _ hr=>hs n i h (hr () trivial)) λn _ _=>he n
theorem wv{σ β:Type}{P:β→Prop}{F:Nat→Int→σ→Option β}(I:Nat→σ→Prop)
  (hs: ∀n (k:Nat) s,I (k+1) s→(∀s',I k s'→Ok P (F n (k:Int) s'))→Ok P (F (n+1) ((k+1:Nat):Int) s)) (he: ∀n s,I 0 s→Ok P (F (n+1) 0 s)):
  ∀(k n:Nat) s,k<n→I k s→Ok P (F n (k:Int) s)
 |0,0,s,hn,_=>ω
 |0,n+1,s,hn,hI=>he n s hI
 |k+1,0,s,hn,_=>ω
 |k+1,n+1,s,hn,hI=>hs n k s hI λs' zD=>wv I hs he k n s' ω zD
def G(m:Nat):(τ:Ty)→τ.den→Prop
 | .int .i64,x=>aF x
 | .int .u64,x=>0≤x∧x<18446744073709551616
 | .slice e,l=>ℓ l≤m∧ ∀x∈(l:List e.den),G m e x
 | .pair a b,x=>G m a x.1∧G m b x.2
 |_,_=>True
theorem G.mono{m n:Nat}(h:m≤n): ∀{τ:Ty} {x:τ.den},G m τ x→G n τ x
 | .int k,x,hx=>by cases k<;>exact hx
 | .slice e,l,hl=>⟨cv hl.1 h,λx hx=>G.mono h (hl.2 x hx)⟩
 | .pair a b,x,hx=>⟨G.mono h hx.1,G.mono h hx.2⟩
 | .bool,_,_=>trivial
 | .str,_,_=>trivial
 | .unit,_,_=>trivial
 | .arr _ _,_,_=>trivial
theorem G.nil{m:Nat}{e:Ty}:G m (.slice e) ([]:List e.den):=⟨bz _,λx hx=>nomatch hx⟩
theorem G.app{m:Nat}{e:Ty}{l:List e.den}{x:e.den}(h:G m (.slice e) l)(hx:G m e x):G (m+1) (.slice e) (l++[x]):=
 ⟨by have:=h.1;rw[aS,aK];omega,λy hy=>by
  rcases bl.1 hy with hy|hy
  ·exact G.mono ω (h.2 y hy)
  ·rw[cr.1 hy];exact G.mono ω hx⟩
theorem G.get{m:Nat}{e:Ty}{l:List e.den}{d:e.den}(h:G m (.slice e) l)(hd:G m e d)(k:Nat):G m e (l.getD k d):=by
 by_cases hk:k<l.length
 ·rw[aV,bo hk];exact h.2 _ (dO hk)
 ·rw[aV,ig ω];exact hd
theorem G.zero(m:Nat): ∀τ:Ty,G m τ τ.zero
 | .int k=>by cases k<;>first|trivial|exact⟨δ,δ⟩
 | .slice _=>G.nil
 | .pair a b=>⟨G.zero m a,G.zero m b⟩
 | .bool=>trivial
 | .str=>trivial
 | .unit=>trivial
 | .arr _ _=>trivial
theorem G.at{m:Nat}{e:Ty}{l:List e.den}(h:G m (.slice e) l)(k:Nat):G m e (l.getD k e.zero):=h.get (G.zero m e) k
theorem G.set{m:Nat}{e:Ty}{l:List e.den}{x:e.den}(h:G m (.slice e) l)(hx:G m e x)(k:Nat):G m (.slice e) (l.set k x):=
 ⟨by rw[bN];exact h.1,λy hy=>by
  rcases ux hy with hy|rfl
  ·exact h.2 y hy
  ·exact hx⟩
theorem gB(x:Int):aF (W .i64 x):=by
 rw[gF];unfold aF;split<;>omega
def Bg(k:Nat)(z:aM):Prop:= ∃v,z=dz v∧Fit v k
theorem Bg.mono{j k:Nat}{z:aM}(h:Bg j z)(hk:j≤k):Bg k z:=by
 obtain⟨v,e,f⟩:=h
 exact⟨v,e,Fit.mono f hk⟩
theorem Bg.zero:Bg 1 (false,(([]:List Int),())):=⟨0,lQ.symm,by unfold Fit;decide⟩
theorem bD(N:Nat)(hN:4000000≤N){x:Int}(h:aF x):Ok (Bg 2) (lh N x):=oB (dC N ω h.1 h.2) ⟨x,rfl,Fit.i64 h.1 h.2⟩
theorem lU(N:Nat)(hN:4000000≤N){k:Nat}(hk:k≤90000){u v:aM}(hu:Bg k u)(hv:Bg k v):Ok (Bg (k+1)) (BE N u v):=by
 obtain⟨a,rfl,ha⟩:=hu
 obtain⟨b,rfl,hb⟩:=hv
 exact oB (kF N hN (Fit.mono ha ω) (Fit.mono hb ω)) ⟨_,rfl,Fit.add ha hb⟩
theorem y9(N:Nat)(hN:4000000≤N){k:Nat}(hk:k≤90000){u v:aM}(hu:Bg k u)(hv:Bg k v):Ok (Bg (k+1)) (Uo N u v):=by
 obtain⟨a,rfl,ha⟩:=hu
 obtain⟨b,rfl,hb⟩:=hv
 exact oB (tM N hN (Fit.mono ha ω) (Fit.mono hb ω)) ⟨_,rfl,by rw[Int.sub_eq_add_neg];exact Fit.add ha (Fit.neg hb)⟩
theorem rK(N:Nat)(hN:4000000≤N){k:Nat}(hk:k≤90000){u:aM}(hu:Bg k u):Ok (Bg k) (XU N u):=by
 obtain⟨a,rfl,ha⟩:=hu
 exact oB (o9 N hN (Fit.mono ha ω)) ⟨_,rfl,Fit.neg ha⟩
theorem B9(N:Nat)(hN:4000000≤N){k:Nat}(hk:k≤90000){u:aM}(hu:Bg k u):Ok (Bg k) (Zb N u):=by
 obtain⟨a,rfl,ha⟩:=hu
 exact oB (OS N hN (Fit.mono ha ω)) ⟨_,rfl,Fit.of_le ha ω⟩
theorem mM(N:Nat)(hN:4000000≤N){j k:Nat}(hj:j≤90000)(hk:k≤90000){u v:aM}(hu:Bg j u)(hv:Bg k v):Ok (Bg (j+k)) (kO N u v):=by
 obtain⟨a,rfl,ha⟩:=hu
 obtain⟨b,rfl,hb⟩:=hv
 exact oB (xW N hN (Fit.mono ha hj) (Fit.mono hb hk)) ⟨_,rfl,Fit.mul ha hb⟩
theorem FN(N:Nat){k:Nat}{u:aM}(hu:Bg k u):Ok (λ_=>True) (Sq N u):=by
 obtain⟨a,rfl,ha⟩:=hu
 exact oB (ob N a) trivial
theorem qH(N:Nat)(hN:4000000≤N){j k:Nat}(hj:j≤90000)(hk:k≤90000){u v:aM}(hu:Bg j u)(hv:Bg k v):Ok (λ_=>True) (R3 N u v):=by
 obtain⟨a,rfl,ha⟩:=hu
 obtain⟨b,rfl,hb⟩:=hv
 exact oB (Sr N hN (Fit.mono ha ω) (Fit.mono hb ω)) trivial
theorem Z5(v:Int):aF (CO v).1:=by
 by_cases h:aF v
 ·rw[vW h];exact h
 ·rw[yZ h];unfold aF;decide
theorem yp(N:Nat){k:Nat}{u:aM}(hu:Bg k u):Ok (λr=>aF r.1) (xV N u):=by
 obtain⟨a,rfl,ha⟩:=hu
 exact oB (uq N a) (Z5 a)
abbrev L3(m:Nat)(l:au):Prop:=G m (.slice jZ) l
def kP(m:Nat)(p:bP):Prop:=p.length≤m∧ ∀y∈p,Bg 8 y.2.2.1
theorem kP.at{m:Nat}{p:bP}(h:kP m p)(i:Nat):Bg 8 (p.getD i ((0:Int),((0:Int),((false,qx),())))).2.2.1:=by
 by_cases hk:i<p.length
 ·rw[aV,bo hk];exact h.2 _ (dO hk)
 ·rw[aV,ig ω];exact Bg.mono Bg.zero δ
theorem kP.nil{m:Nat}:kP m []:=⟨bz _,λx hx=>nomatch hx⟩
theorem kP.app{m n:Nat}{p q:bP}(h:kP m p)(h':kP n q):kP (m+n) (p++q):=
 ⟨by have:=h.1;have:=h'.1;rw[aS];omega,λy hy=>(bl.1 hy).elim (h.2 y) (h'.2 y)⟩
theorem kP.mono{m n:Nat}{p:bP}(h:kP m p)(hm:m≤n):kP n p:=⟨cv h.1 hm,h.2⟩
theorem Ez(N:Nat){k:Nat}{u:aM}(hu:Bg k u):Ok (λr=>aF r.1) (SN N u):=by
 unfold SN
 refine ag (yp N hu) λr h=>bF (λ_=>aq (by unfold aF;decide)) λ_=>ok_eq (λ_=>aq (by unfold aF;decide)) λ_=>aq h
theorem jC{x:Int}(h0: -1000000≤x)(h1:x≤1000000):aF x:=by unfold aF;omega
theorem G3{m:Nat}{a b c:Int}(ha:aF a)(hb:aF b)(hc:aF c):G m jZ (a,(b,(c,()))):=⟨ha,hb,hc,trivial⟩
theorem bV:aF 0:=by unfold aF;decide
theorem WV(N:Nat)(hN:4000000≤N){x k n:Int}{p:bP}(hx:aF x)(hp:kP 50000 p):Ok (λr=>aF r.1) (oy N x k n p):=by
 have hl:=hp.1
 refine bs (len:=p.length) (F:=λn' i (s:aM×Bool)=>oy.l3 N n' x k n p s.1 s.2 i) (s:=(_,_)) (λi s=>Bg (8+i) s.1) (Bg.mono Bg.zero ω) ω (λn' i s hi hI hr=> ?_) (λn' s hI=> ?_)
 all_goals unfold oy.l3 oy.nw
 ·rw[aw (x:=(i:Int)+1) ω ω,af i]
  have h1:=hr (s.1,s.2) (Bg.mono hI ω)
  repeat' first|exact h1|refine aB ⟨ω,ω⟩ ?_|refine ax (λ_=> ?_) (λ_=> ?_)|refine ok_eq (λ_=> ?_) (λ_=> ?_)|(exfalso;omega)|exact ag (lU N hN ω hI (Bg.mono (hp.at _) ω)) λr h=>hr (r,true) h
 ·refine ax (λ_=>ω) λ_=>bF (λ_=>aq hx) λ_=>ag (bD N hN hx) λr h=>ag (lU N hN ω hI (Bg.mono h ω)) λr h=>ag (yp N h) λr h=>aq h
theorem adu(N:Nat)(hN:4000000≤N){l:au}{p:bP}{m:Nat}(hm:m≤50000)(hl:L3 m l)(hp:kP 50000 p):Ok (λr=>L3 200 r.1) (dS N l p):=by
 have I3:=hl.1
 refine jh (len:=8) (F:=λn k (s:au×Int)=>dS.l4 N n l p s.1 s.2 k) (λi s=>L3 (25*i) s.1∧0≤s.2) (λn i s hi hI hr=> ?_) (λn s hI=> ?_) 8 N 1 (_,_) ω ω ω ⟨G.nil,fR 0⟩
 all_goals unfold dS.l4 dS.dU
 ·refine eN (λ_=> ?_) (λ_=>ω)
  refine bs (len:=25) (F:=λn' j (s:au×Int)=>dS.l7 N (dS.l4 N n) n' l p s.1 s.2 (i:Int) j) (s:=s) (λj s=>L3 (25*i+j) s.1∧0≤s.2) hI ω (λn' j s hj hI eQ=> ?_) (λn' s hI=> ?_)
  all_goals unfold dS.l7 dS.oP
  ·have ka: ∀(k x:Int),0≤k→aF x→Ok (λr=>L3 200 r.1) (dS.UD N (dS.l4 N n) (dS.l7 N (dS.l4 N n) n') l p s.1 k (i:Int) (j:Int) x):=λk x hk hx=>by
    unfold dS.UD dS.Mf
    rw[aw (x:=(j:Int)+1) ω ω,af j]
    have hs:=hI.1.1
    refine ag (WV N hN hx hp) λr h=>bF (λ_=>aq G.nil) λ_=>bG (λ_=>aD (by rw[aK];omega) (eQ (_,k) ⟨G.app hI.1 (G3 (jC ω ω) (jC ω ω) h),hk⟩)) λ_=>eQ (s.1,k) ⟨G.mono ω hI.1,hk⟩
   have h0:=ka s.2 0 hI.2 bV
   have Wb:=hI.2
   repeat' first|exact h0|refine aB ⟨ω,ω⟩ ?_|refine ax (λ_=> ?_) (λ_=> ?_)|refine eN (λ_=> ?_) (λ_=> ?_)|refine ok_eq (λ_=> ?_) (λ_=> ?_)|(exfalso;omega)|exact ka _ _ (by rw[aw (x:=s.2+1) ω ω];omega) (G.at hl _).2.2.1
  ·rw[aw (x:=(i:Int)+1) ω ω,af i]
   exact eN (λ_=>ω) λ_=>hr s ⟨G.mono ω hI.1,hI.2⟩
 ·exact eN (λ_=>ω) λ_=>aq (G.mono δ hI.1)
theorem Ta(N:Nat)(hN:4000000≤N){l t:au}{m:Nat}(hm:m≤50000)(hl:L3 m l)(ht:L3 50000 t):Ok (λr=>L3 200 r.1) (cP N l t):=by
 have I3:=hl.1
 have htl:=ht.1
 refine bs (len:=25) (F:=λn k (s:au×Int)=>cP.l4 N n l t s.1 s.2 k) (s:=(_,_)) (λi s=>L3 (6*i) s.1∧0≤s.2) ⟨G.nil,fR 0⟩ ω (λn i s hi hI hr=> ?_) (λn s hI=> ?_)
 all_goals unfold cP.l4 cP.dU
 ·refine eN (λ_=> ?_) (λ_=>ω)
  refine bs (len:=6) (F:=λn' j (s:au×Int)=>cP.l7 N (cP.l4 N n) n' l t s.1 s.2 (i:Int) j) (s:=s) (λj s=>L3 (6*i+j) s.1∧0≤s.2) hI ω (λn' j s hj hI eQ=> ?_) (λn' s hI=> ?_)
  all_goals unfold cP.l7 cP.oP
  ·have ka: ∀(k x:Int),0≤k→aF x→Ok (λr=>L3 200 r.1) (cP.UD N (cP.l4 N n) (cP.l7 N (cP.l4 N n) n') l t s.1 k (i:Int) (j:Int) x false):=λk x hk hx=>by
    unfold cP.UD cP.Mf
    have hs:=hI.1.1
    have Bj: ∀y:Int,aF y→Ok (λr=>L3 200 r.1) (cond (!aN y 0) (cond (small (s.1.length+[(((i:Int),((j:Int),(y,()))):de)].length)) (cP.l7 N (cP.l4 N n) n' l t (s.1++[((i:Int),((j:Int),(y,())))]) k (i:Int) (W .i64 ((j:Int)+1))) none) (cP.l7 N (cP.l4 N n) n' l t s.1 k (i:Int) (W .i64 ((j:Int)+1)))):=λy hy=>by
     rw[aw (x:=(j:Int)+1) ω ω,af j]
     exact bG (λ_=>aD (by rw[aK];omega) (eQ (_,k) ⟨G.app hI.1 (G3 (jC ω ω) (jC ω ω) hy),hk⟩)) λ_=>eQ (s.1,k) ⟨G.mono ω hI.1,hk⟩
    refine bs (len:=t.length) (F:=λKU u (z:aM×Bool)=>cP.Ks N (cP.l4 N n) (cP.l7 N (cP.l4 N n) n') KU l t s.1 k (i:Int) (j:Int) x z.2 z.1 u) (s:=(_,_)) (λu z=>Bg (3+u) z.1) (Bg.mono Bg.zero ω) ω (λKU u z hu hz Z6=> ?_) (λKU z hz=> ?_)
    all_goals unfold cP.Ks cP.JC
    ·rw[aw (x:=(u:Int)+1) ω ω,af u]
     have h1:=Z6 (z.1,z.2) (Bg.mono hz ω)
     repeat' first|exact h1|refine aB ⟨ω,ω⟩ ?_|refine ax (λ_=> ?_) (λ_=> ?_)|refine ok_eq (λ_=> ?_) (λ_=> ?_)|(exfalso;omega)|exact ag (bD N hN (G.at ht _).2.2.1) λr h=>ag (lU N hN ω hz (Bg.mono h ω)) λr h=>Z6 (r,true) h
    ·exact ax (λ_=>ω) λ_=>nL (λ_=>ag (bD N hN hx) λr h=>ag (lU N hN ω hz (Bg.mono h ω)) λr h=>ag (Ez N h) λr h=>bF (λ_=>aq G.nil) λ_=>Bj _ h) λ_=>Bj _ hx
   have h0:=ka s.2 0 hI.2 bV
   have Wb:=hI.2
   repeat' first|exact h0|refine aB ⟨ω,ω⟩ ?_|refine ax (λ_=> ?_) (λ_=> ?_)|refine eN (λ_=> ?_) (λ_=> ?_)|refine ok_eq (λ_=> ?_) (λ_=> ?_)|(exfalso;omega)|exact ka _ _ (by rw[aw (x:=s.2+1) ω ω];omega) (G.at hl _).2.2.1
  ·rw[aw (x:=(i:Int)+1) ω ω,af i]
   exact ax (λ_=>ω) λ_=>hr s ⟨G.mono ω hI.1,hI.2⟩
 ·exact eN (λ_=>ω) λ_=>aq (G.mono δ hI.1)
theorem G.jD{m:Nat}:G m aJ (cf,(cS,(bn,(bn,(dd,(dm,())))))):=G.zero m aJ
theorem ua(N:Nat)(hN:4000000≤N){b:an}{s:au}{p:bP}{m:Nat}(h2:200≤m)(hm:m≤50000)(hb:G m aJ b)(hs:L3 50000 s)(hp:kP 50000 p):Ok (λr=>G m aJ r.1) (zt N b s p):=by
 unfold zt
 exact ag (Ta N hN hm hb.2.2.2.1 hs) λr h=>bF (λ_=>aq G.jD) λ_=>ag (adu N hN hm hb.2.2.1 hp) λr' h'=>bF (λ_=>aq G.jD) λ_=>aq ⟨hb.1,hb.2.1,G.mono h2 h',G.mono h2 h,hb.2.2.2.2⟩
theorem bH{α β:Type}{P:β→Prop}{o:Option α}{r:α}{f:α→Option β}(h:o=some r)(hf:Ok P (f r)):Ok P (o.bind f):=by rw[h];exact hf
theorem G.wf{m:Nat}(hm:m≤50000){b:an}(h:G m aJ b):pI b:=by
 obtain⟨h1,h2,h3,h4,h5,h6,_⟩:=h
 exact⟨⟨cv h1.1 ω,cv h2.1 ω,cv h3.1 ω,cv h4.1 ω,cv h5.1 ω,cv h6.1 ω,λx hx=>(h3.2 x hx).2.2.1,λx hx=>(h4.2 x hx).2.2.1⟩,cv h3.1 ω,cv h4.1 ω⟩
theorem ej(N:Nat)(hN:5000000≤N){c:ae}{b:an}{m:Nat}(hm:m≤50000)(h:G m aJ b):gH N c b=some (df c b):=BP N hN (G.wf hm h).w
theorem adv{x:Int}(h:cF x):aF x:=by unfold cF at h;unfold aF;omega
theorem JG(N:Nat)(hN:4000000≤N)(t:iu)(p:Int):Ok (λr=>kP 2 r.1) (Pm N t p):=by
 unfold Pm
 refine bH (u7 N t) (bF (λ_=>aq kP.nil) λht=>bH (jx N p) (bF (λ_=>aq kP.nil) λ_=>ag (bD N hN (gB _)) λa ha=>ag (bD N hN ?_) λq hq=>ag (mM N hN ω ω ha hq) λx hx=>ag (FN N hx) λ_ _=>ok_eq (λ_=>aq kP.nil) λ_=> ?_))
 ·have:=bt ht
  unfold dq kd at this
  exact gN δ this.2.2.2.2.1.1 |> λh=>⟨h,AK this.2.2.2.2.1.2 δ⟩
 ·unfold Ml
  have hr: ∀a:Int,Ok (λ_=>True) (cond (aN a 0) (some ((2:Int),(0:Int))) (some ((5:Int),a))):=λa=>ok_eq (λ_=>aq trivial) λ_=>aq trivial
  refine ag (hr _) λ_ _=>ag (hr _) λ_ _=>ag (rK N hN ω hx) λy hy=>aq ⟨aH 2,λz hz=> ?_⟩
  rcases a8.1 hz with rfl|hz
  ·exact Bg.mono hx ω
  ·rw[cr.1 hz];exact Bg.mono hy ω
theorem PK(N:Nat)(hN:200000≤N){b:an}{m:Nat}(hm:m≤50000)(h:G m aJ b)(id:Int):Ok (λ_=>True) (Ma N b id):=oB (p9 N b (G.wf hm h).w.a hN id) trivial
theorem C2(N:Nat)(hN:5000000≤N)(c:ae){b:an}{l:bf}{m:Nat}(h2:200≤m)(hm:m≤50000)(hb:G m aJ b):Ok (λr=>G m aJ r.1) (fm N c b l):=by
 unfold fm fm.b
 refine bH (ej N hN hm hb) (bF (λ_=>aq G.jD) λhB=>ax (λ_=>aq G.jD) λhl=> ?_)
 obtain⟨hp,_⟩:=dY hB
 refine bs (len:=l.length) (F:=λn i (_:Unit)=>fm.l4 N n l c b (cf,(cS,(bn,(bn,(dd,(dm,())))))) i) (s:=()) (λi _=> ∀j,j<i→dq (l.getD j gl)) (λj hj=>ω) ω (λn i _ hi hI hr=> ?_) (λn _ hI=> ?_)
 all_goals unfold fm.l4 fm.dU
 ·rw[aw (x:=(i:Int)+1) ω ω,af i]
  refine ax (λ_=>aB ⟨ω,ω⟩ (bH (u7 N _) (bF (λ_=>aq G.jD) λht=>hr () λj hj=> ?_))) λ_=>ω
  by_cases e:j=i
  ·rw[e];exact bt ht
  ·exact hI j ω
 ·refine ax (λ_=>ω) λ_=> ?_
  refine bs (len:=l.length) (F:=λn i (s:au×bP)=>fm.Al N n l c b (cf,(cS,(bn,(bn,(dd,(dm,())))))) s.1 s.2 i) (s:=(_,_)) (λi s=>L3 (2*i) s.1∧kP (2*i) s.2) ⟨G.nil,kP.nil⟩ ω (λn i s hi hJ hr=> ?_) (λn s hJ=> ?_)
  all_goals unfold fm.Al fm.yf
  ·have ht:=hI i hi
   unfold dq kd at ht
   have Ni:=hJ.1.1
   have Wb:=hJ.2.1
   have g64: ∀x:Int,0≤x∧x≤1000000→aF x:=λx h=>jC ω ω
   dsimp only
   rw[aw (x:=(i:Int)+1) ω ω,af i,aI]
   refine ax (λ_=>aB ⟨ω,ω⟩ (ag (PK N ω hm hb _) λ_ _=>bF (λ_=>aq G.jD) λ_=>ag (PK N ω hm hb _) λ_ _=>bF (λ_=>aq G.jD) λ_=>eN (λ_=>aq G.jD) λeU=>aD ?_ (aB ⟨ht.2.2.2.1.1,ω⟩ (ag (JG N ω _ _) λr h=>aD ?_ (hr (_,_) ⟨?_,kP.mono (kP.app hJ.2 h) ω⟩))))) λ_=>ω
   ·rw[aT,aK];omega
   ·have:=h.1;omega
   ·have hq:aF (l.getD i gl).2.2.2.1:=⟨gN δ ht.2.2.2.2.1.1,AK ht.2.2.2.2.1.2 δ⟩
    have nZ:aF (l.getD i gl).2.2.1:=g64 _ ⟨ht.2.2.2.1.1,gN (Int.le_of_lt ht.2.2.2.1.2) δ⟩
    have h1:=G.app (G.app hJ.1 (G3 (g64 _ ⟨ht.1.1,gN ht.1.2 δ⟩) nZ hq)) (G3 (g64 _ ⟨ht.2.1.1,gN ht.2.1.2 δ⟩) nZ (gB (0-(l.getD i gl).2.2.2.1)))
    rw[bE]at h1
    exact G.mono ω h1
  ·exact ax (λ_=>ω) λ_=>ag (ua N ω h2 hm hb (G.mono ω hJ.1) (kP.mono hJ.2 ω)) λr h=>aq h
def JH(k:Nat)(l:ql):Prop:= ∀x∈l,Bg k x
theorem JH.mono{j k:Nat}{l:ql}(h:JH j l)(hk:j≤k):JH k l:=λx hx=>Bg.mono (h x hx) hk
theorem JH.at{k:Nat}{l:ql}(h:JH k l)(h1:1≤k)(i:Nat):Bg k (l.getD i (false,qx)):=by
 by_cases hk:i<l.length
 ·rw[aV,bo hk];exact h _ (dO hk)
 ·rw[aV,ig ω];exact Bg.mono Bg.zero h1
theorem JH.set{k:Nat}{l:ql}{x:aM}(h:JH k l)(hx:Bg k x)(i:Nat):JH k (l.set i x):=λy hy=>by
 rcases ux hy with hy|rfl
 ·exact h y hy
 ·exact hx
theorem JH.rep{k n:Nat}(h:1≤k):JH k (List.replicate n (false,qx)):=λx hx=>by
 rw[(List.mem_replicate.1 hx).2];exact Bg.mono Bg.zero h
theorem adw(N:Nat)(hN:5000000≤N)(c:ae){b:an}{m:Nat}(hm:m≤50000)(hb:G m aJ b):Ok (λr=>(r.2=0→df c b=true∧r.1.length=4)∧JH 20 r.1) (sN N c b):=by
 unfold sN sN.b
 have w:=(G.wf hm hb).w
 refine bH (ej N hN hm hb) (bF (λ_=>aq ⟨λh=>absurd h δ,λx hx=>nomatch hx⟩) λhB=>adt ⟨ω,ω,ω⟩ ?_)
 obtain⟨hp,Bo⟩:=dY hB
 obtain⟨h6,hbk⟩:=qc (we hB)
 refine bs (len:=c.1.length) (F:=λn i (s:ql)=>sN.l5 N n c b s i) (λi s=>s.length=4∧JH (8+i) s) ⟨c4 ..,JH.rep ω⟩ ω (λn i s hi hI hr=> ?_) (λn s hI=> ?_)
 all_goals unfold sN.l5 sN.eA
 ·have hk:=hbk i hi
  have hl:=hI.1
  rw[aw (x:=(i:Int)+1) ω ω,af i,aI]
  have in1: ∀{x y:Option (ql×Int)},Ok (λr=>(r.2=0→df c b=true∧r.1.length=4)∧JH 20 r.1) x→Ok (λr=>(r.2=0→df c b=true∧r.1.length=4)∧JH 20 r.1) (cond (bc (c.1.getD i bb).1 s.length) x y):=λh=>aB ⟨hk.1,AK hk.2 (show(3:Int)<(s.length:Int)by omega)⟩ h
  exact ax (λ_=>aB ⟨ω,ω⟩ (in1 (bH (FK N w.s ω 0 (i:Int)) (ag (bD N ω (ZL w.qs 0 (i:Int))) λa ha=>aB ⟨ω,ω⟩ (ag (bD N ω (adv (ou Bo ω))) λp hp=>ag (mM N ω ω ω ha hp) λx hx=>ag (lU N ω ω (JH.at hI.2 ω _) (Bg.mono hx ω)) λy hy=>in1 (hr _ ⟨by rw[bN];exact hl,JH.set (JH.mono hI.2 ω) hy _⟩)))))) λ_=>ω
 ·exact ax (λ_=>ω) λ_=>aq ⟨λ_=>⟨hB,hI.1⟩,JH.mono hI.2 ω⟩
theorem aqy{v:Int}(h:(CO v).2=true):(CO v).1=v:=by
 by_cases h':aF v
 ·rw[vW h']
 ·rw[yZ h']at h;exact nomatch h
def JI(c:ae)(x:cG):Prop:=((λi n:Int=>0≤i∧i<n) x.2.1 c.1.length)∧qIn x.2.2.2.1
theorem KV(N:Nat)(hN:5000000≤N)(c:ae)(hc:aF (aqt c)){b:an}{m:Nat}(hm:m≤50000)(hb:G m aJ b)(next:Int):Ok (λr=>G 4 (.slice e7) r.1∧ ∀x∈r.1,JI c x) (jH N c b next):=by
 unfold jH jH.b
 refine ag (adw N hN c hm hb) λz hz=>bG (λ_=>aq ⟨G.nil,λx hx=>nomatch hx⟩) λh0=>ax (λ_=>aq ⟨G.nil,λx hx=>nomatch hx⟩) λh1=>ax (λ_=>aq ⟨G.nil,λx hx=>nomatch hx⟩) λh2=> ?_
 obtain⟨hB,hl4⟩:=hz.1 h0
 obtain⟨hp,Bo⟩:=dY hB
 obtain⟨h6,hbk⟩:=qc (we hB)
 refine bs (len:=4) (F:=λn k (s:Int×aO)=>jH.l6 N n s.1 c b z.1 s.2 k) (s:=(_,_)) (λk s=>(G k (.slice e7) s.2∧ ∀x∈s.2,JI c x)∧next≤s.1∧s.1≤next+k) ⟨⟨G.nil,λx hx=>nomatch hx⟩,ω,ω⟩ ω (λn k s hk hI hr=> ?_) (λn s hI=> ?_)
 all_goals unfold jH.l6 jH.uU
 ·have Ni:=hI.1.1.1
  have Wb:=hI.2
  rw[aw (x:=(k:Int)+1) ω ω,af k]
  have tJ:=hr s ⟨⟨G.mono ω hI.1.1,hI.1.2⟩,ω,ω⟩
  obtain⟨a,ea,ha⟩:=JH.at hz.2 ω k
  have ha':Fit (a.natAbs:Int) 20:=Fit.of_le ha ω
  refine ax (λ_=>bH (SZ N ω c ω (k:Int)) (aB ⟨ω,ω⟩ (bH (by rw[aI,ea];exact OS N ω (ha.mono ω)) (ok_eq (λ_=>tJ) λkq=>ag (bD N ω hc) λv hv=>ag (qH N ω ω ω ⟨_,rfl,ha'⟩ hv) λ_ _=>eN (λ_=>tJ) λ_=> ?_)))) λ_=>ω
  have aqz:jA c (k:Int)≠[]:=λe=>kq (by rw[e];rfl)
  have hh:0≤(jA c (k:Int)).getD 0 0∧(jA c (k:Int)).getD 0 0<(c.1.length:Int):=by
   have h1:=aqz
   unfold jA at h1 ⊢
   rw[we hB,aj rfl]at h1 ⊢
   have:=Ew h1
   omega
  have hl0:0<(jA c (k:Int)).length:=pO.2 aqz
  have hpx:=ou Bo (i:=((jA c (k:Int)).getD 0 0).toNat) ω
  have hj: ∀q:Int,0≤q∧q≤1000000000→Ok (λr=>G 4 (.slice e7) r.1∧ ∀x∈r.1,JI c x) (jH.Dg N (jH.l6 N n) s.1 c b z.1 s.2 (k:Int) (jA c (k:Int)) q):=λq hq=>by
   have awp:aF q:=by unfold aF;omega
   unfold jH.Dg jH.wZ
   rw[aw (x:=(k:Int)+1) ω ω,af k,aw (x:=s.1+1) ω ω]
   have Bj:q≠0→ ∀d:Int,aF d→Ok (λr=>G 4 (.slice e7) r.1∧ ∀x∈r.1,JI c x) (cond (small (s.2.length+[((s.1,((jA c (k:Int)).getD 0 0,(d,(q,())))):cG)].length)) (jH.l6 N n (s.1+1) c b z.1 (s.2++[(s.1,((jA c (k:Int)).getD 0 0,(d,(q,()))))]) ((k+1:Nat):Int)) none):=λwT d hd=>
    aD (by rw[aK];omega) (hr (_,_) ⟨⟨G.app hI.1.1 ⟨by show aF s.1;unfold aF;omega,(show aF ((jA c (k:Int)).getD 0 0)from jC ω ω),hd,awp,trivial⟩,λx hx=>by
     rcases bl.1 hx with hx|hx
     ·exact hI.1.2 x hx
     ·rw[List.mem_singleton.1 hx];exact⟨hh,show 1≤q∧q≤1000000000 by omega⟩⟩,by dsimp only;omega,by dsimp only;omega⟩)
   exact ok_eq (λ_=>tJ) λwT=>aB ⟨ω,ω⟩ (aB ⟨ω,ω⟩ (ag (FN N (JH.at hz.2 ω _)) λ_ _=>ax (λ_=>Bj wT 2 (jC ω ω)) λ_=>Bj wT 1 (jC ω ω)))
  refine aB ⟨ω,ω⟩ (aB ⟨hh.1,by show(jA c (k:Int)).getD 0 0<_;omega⟩ ?_)
  have awq:=hpx
  unfold cF at awq
  rw[show(0:Int).toNat=0 from rfl]
  refine bH (dC N ω ω ω) (bH (Ur N hN ω (Fit.mono ha' ω) ((Fit.i64 ω ω).mono ω)) (bH (uq N _) (bF (λ_=>hj _ δ) λht=>ax (λ_=>hj _ δ) λhle=>hj _ ?_)))
  rw[aqy ht]at hle ⊢
  exact⟨uC ω ω,hle⟩
 ·exact ax (λ_=>ω) λ_=>aq hI.1
theorem WW(N:Nat)(hN:5000000≤N)(c:ae)(hc:aF (aqt c)){b:an}{m:Nat}(hm:m≤50000)(hb:G m aJ b)(next:Int):Ok (λr=>G 4 (.slice e7) r.1) (jH N c b next):=My (KV N hN c hc hm hb next) λ_ h=>h.1
theorem H5(N:Nat)(hN:200000≤N){l:aY}(hl:l.length≤100000)(a:Int):Ok (λr=>L3 6 r) (iM N l a):=by
 unfold iM iM.b
 refine bs (len:=6) (F:=λn k (s:au)=>iM.l3 N n l a s k) (λk s=>L3 k s) G.nil ω (λn k s hk hI hr=> ?_) (λn s hI=> ?_)
 all_goals unfold iM.l3 iM.nw
 ·have hs:=hI.1
  refine ax (λ_=> ?_) λ_=>ω
  refine bs (len:=l.length) (F:=λn' i (x:de)=>iM.l7 N (iM.l3 N n) n' l a s (k:Int) x i) (λi x=>G 6 jZ x) (G3 (jC ω ω) bV bV) ω (λn' i x hi hx eQ=> ?_) (λn' x hx=> ?_)
  all_goals unfold iM.l7 iM.oP
  ·rw[aw (x:=(i:Int)+1) ω ω,af i]
   have h1:=eQ x hx
   repeat' first|exact h1|refine aB ⟨ω,ω⟩ ?_|refine ax (λ_=> ?_) (λ_=> ?_)|refine bG (λ_=> ?_) (λ_=> ?_)|refine ok_eq (λ_=> ?_) (λ_=> ?_)|(exfalso;omega)|exact eQ (_,(_,(_,_))) ⟨hx.1,gB _,hx.2.2.1,trivial⟩|exact eQ (_,(_,(_,_))) ⟨hx.1,hx.2.1,gB _,trivial⟩
  ·rw[aw (x:=(k:Int)+1) ω ω,af k]
   have h1:=hr s (G.mono ω hI)
   have h2:=hr (s++[x]) ⟨by rw[aS,aK];omega,λy hy=>by
    rcases bl.1 hy with hy|hy
    ·exact G.mono ω (hI.2 y hy)
    ·rw[cr.1 hy];exact⟨hx.1,hx.2.1,hx.2.2.1,trivial⟩⟩
   repeat' first|exact h1|exact h2|refine aD (by rw[aK];omega) ?_|refine ax (λ_=> ?_) (λ_=> ?_)|(exfalso;omega)
 ·exact ax (λ_=>ω) λ_=>aq hI
theorem KW(N:Nat)(hN:200000≤N)(c:ae){l:au}(hl:l.length≤100000):Ok (λ_=>True) (rn N c l):=by
 unfold rn rn.b
 refine bH (oe N ω c) (bF (λ_=>aq trivial) λ_=>mZ (len:=l.length) (F:=λn i=>rn.l5 N n l c 33000000000 i) ω (λn i hi hr=> ?_) λn=> ?_)
 all_goals unfold rn.l5 rn.eA
 ·rw[aw (x:=(i:Int)+1) ω ω,af i]
  dsimp only
  repeat' first|exact hr|exact aq trivial|refine aB ⟨ω,ω⟩ ?_|refine aB (by rw[aw (x:=(i:Int)-1) ω ω];omega) ?_|refine ax (λ_=> ?_) (λ_=> ?_)|refine eN (λ_=> ?_) (λ_=> ?_)|refine ok_eq (λ_=> ?_) (λ_=> ?_)|(exfalso;omega)
 ·exact ax (λ_=>ω) λ_=>aq trivial
theorem Mz{k:Nat}(h:1≤k):Bg k (false,(([]:List Int),())):=Bg.mono Bg.zero h
theorem Z7(N:Nat)(hN:4000000≤N)(c:ae){l:aE}{o:au}{m:Nat}(hm:m≤50000)(hl:G m (.slice kM) l)(ho:L3 m o)(k:Int):Ok (λr=>Bg 3 r.1) (jS N c l o k):=by
 have h1:=hl.1
 have h2:=ho.1
 unfold jS jS.b
 refine bH (BR N ω c ω) (bF (λ_=>aq (Mz ω)) λ_=>ag (KW N ω c ω) λ_ _=>bF (λ_=>aq (Mz ω)) λ_=>ax (λ_=>aq (Mz ω)) λ_=>eN (λ_=>aq (Mz ω)) λ_=> ?_)
 refine bs (len:=l.length) (F:=λn i (q:aM)=>jS.l7 N n l o k (false,(([]:List Int),())) q (false,(([]:List Int),())) (false,(([]:List Int),())) i) (λ_ q=>Bg 2 q) (Mz ω) ω (λn i q hi hq hr=> ?_) (λn q hq=> ?_)
 all_goals unfold jS.l7 jS.oP
 ·rw[aw (x:=(i:Int)+1) ω ω,af i]
  exact ax (λ_=>aB ⟨ω,ω⟩ (ok_eq (λ_=>aB ⟨ω,ω⟩ (ag (bD N hN (G.at hl _).2.1) λr h=>hr r h)) λ_=>hr q hq)) λ_=>ω
 ·refine ax (λ_=>ω) λ_=> ?_
  refine bs (len:=o.length) (F:=λn i (z:aM×aM)=>jS.oM N n o k (false,(([]:List Int),())) q z.1 z.2 i) (s:=(_,_)) (λ_ z=>Bg 2 z.1∧Bg 2 z.2) ⟨Mz ω,Mz ω⟩ ω (λn i z hi hz hr=> ?_) (λn z hz=> ?_)
  all_goals unfold jS.oM jS.nK
  ·rw[aw (x:=(i:Int)+1) ω ω,af i]
   exact ax (λ_=>aB ⟨ω,ω⟩ (ok_eq (λ_=>aB ⟨ω,ω⟩ (ag (bD N hN (G.at ho _).2.1) λr h=>aB ⟨ω,ω⟩ (ag (bD N hN (G.at ho _).2.2.1) λr' h'=>hr (r,r') ⟨h,h'⟩))) λ_=>hr z hz)) λ_=>ω
  ·exact ax (λ_=>ω) λ_=>ag (lU N hN ω hq hz.1) λx hx=>ag (B9 N hN ω hx) λx hx=>ag (y9 N hN ω hq hz.2) λy hy=>ag (B9 N hN ω hy) λy hy=>ag (qH N hN ω ω hy hx) λ_ _=>ax (λ_=>aq hy) λ_=>aq hx
theorem PL(N:Nat)(hN:4000000≤N){c:ae}{l:aE}{o:au}{m:Nat}(hm:m≤50000)(hc:G m aA c)(hl:G m (.slice kM) l)(ho:L3 m o):Ok (λr=>Bg 60000 r.1) (rp N c l o):=by
 have h1:=hl.1
 have h2:=ho.1
 have h3:=hc.1.1
 unfold rp rp.b
 refine bH (BR N ω c ω) (bF (λ_=>aq (Mz ω)) λ_=>ag (KW N ω c ω) λ_ _=>bF (λ_=>aq (Mz ω)) λ_=> ?_)
 refine bs (len:=c.1.length) (F:=λn i (t:aM)=>rp.l5 N n l o c (false,(([]:List Int),())) t i) (λi t=>Bg (8+i) t) (Mz ω) ω (λn i t hi ht hr=> ?_) (λn t ht=> ?_)
 all_goals unfold rp.l5 rp.eA
 ·rw[aw (x:=(i:Int)+1) ω ω,af i]
  exact ax (λ_=>ag (Z7 N hN c hm hl ho _) λx hx=>aB ⟨ω,ω⟩ (ag (bD N hN (G.at hc.1 _).2.2.1) λr h=>ag (mM N hN ω ω hx h) λy hy=>ag (lU N hN ω ht (Bg.mono hy ω)) λz hz=>hr z hz)) λ_=>ω
 ·exact ax (λ_=>ω) λ_=>aq (Bg.mono ht ω)
theorem aqA{m:Nat}{l:au}(h:L3 m l)(a:Int):G m (.slice kM) (posOf l a):=by
 refine⟨cv (Kz a l) h.1,λy hy=> ?_⟩
 unfold posOf at hy
 split at hy
 ·obtain⟨x,hx,_,e⟩:=nk hy
  rw[e];exact⟨(h.2 x hx).2.1,(h.2 x hx).2.2.1,trivial⟩
 ·nomatch hy
theorem PM(N:Nat)(hN:200000≤N){l:au}{m:Nat}(hm:m≤50000)(h:L3 m l)(a:Int):Ok (G m (.slice kM)) (mL N l a):=oB (ZJ N (cv h.1 ω) hN a) (aqA h a)
theorem H6(N:Nat)(hN:4000000≤N){c:ae}{b:an}{l:aY}{m:Nat}(h2:200≤m)(hm:m≤40000)(hc:G m aA c)(hb:G m aJ b)(hl:l.length≤1000)(a:Int):Ok (Bg 60000) (Z8 N c b a l):=by
 have ho:=hb.2.2.2.2.2.1.1
 unfold Z8
 refine aD (by rw[cj];omega) ?_
 dsimp only
 rw[cM]
 exact aD ω (ag (PM N ω ω hb.2.2.2.1 a) λr h=>ag (H5 N ω (by rw[aS];omega) a) λo h'=>ag (PL N hN ω hc h (G.mono ω h')) λx hx=>aq hx)
theorem adx(N:Nat)(hN:4000000≤N){o:fV}{m:Nat}(ho:G m nn o)(a:Int):Ok (λr=>Bg 4 r.1) (ady N o a):=by
 unfold ady
 have hw: ∀x:Int,Ok (λr:aM×Int=>Bg 4 r.1) ((lh N o.2.2.2.2.1).bind λr5=>(lh N (W .i64 x)).bind λr6=>(kO N r5 r6).bind λr7=>some (r7,(0:Int))):=λx=>
  ag (bD N hN ho.2.2.2.2.1) λr h=>ag (bD N hN (gB _)) λr' h'=>ag (mM N hN ω ω h h') λy hy=>aq hy
 exact bH (BJ N o) (bF (λ_=>aq (Mz ω)) λ_=>bH (jx N a) (bF (λ_=>aq (Mz ω)) λ_=>ok_eq (λ_=>ax (λ_=>aq (Mz ω)) λ_=>hw _) λ_=>ax (λ_=>aq (Mz ω)) λ_=>hw _))
theorem ale{m:Nat}{a:aO}(h:G m (.slice e7) a)(id:Int):G m e7 (eS a id).1:=by
 unfold eS
 split
 ·have: ∀l:aO,(∀x∈l,G m e7 x)→G m e7 (uY id l).1:=by
   intro l
   induction l with
   |nil=>intro _;exact G.zero m e7
   |cons x t ih=>
    intro hx
    rw[pa]
    split
    ·exact hx x (bq ..)
    ·exact ih λy hy=>hx y (aZ _ hy)
  exact this a h.2
 ·exact G.zero m e7
theorem zb(N:Nat)(hN:200000≤N){a:aO}{m:Nat}(hm:m≤50000)(h:G m (.slice e7) a)(id:Int):Ok (λr=>G m e7 r.1) (XW N a id):=oB (BN N (cv h.1 ω) hN id) (ale h id)
theorem pt(N:Nat)(hN:200000≤N){a:aE}{m:Nat}(hm:m≤50000)(h:G m (.slice kM) a)(id:Int):Ok (λ_=>True) (Uu N a id):=oB (sx N (cv h.1 ω) hN id) trivial
theorem np(N:Nat)(hN:200000≤N){l:au}{m:Nat}(hm:m≤50000)(h:L3 m l)(a b:Int):Ok aF (vm N l a b):=oB (Mj N (cv h.1 ω) hN a b) (ZH (λx hx=>(h.2 x hx).2.2.1) a b)
theorem H7(N:Nat)(hN:200000≤N){a:aO}{m:Nat}(hm:m≤50000)(h:G m (.slice e7) a)(id:Int):Ok (λr=>G m e7 r.1∧r=eS a id) (XW N a id):=by
 obtain⟨r,e,hr⟩:=zb N hN hm h id
 exact⟨r,e,hr,mw (e.symm.trans (BN N (cv h.1 ω) hN id))⟩
theorem Ca(N:Nat)(hN:5000000≤N){c:ae}{b:an}{o:fV}{m:Nat}(h2:200≤m)(hm:m≤40000)(hc:G m aA c)(hb:G m aJ b)(ho:G m nn o):Ok (λe=>e=0→qT o∧(eS b.2.1 o.2.1).2=true∧lF o.2.2.1 c.1.length) (Z9 N c b o):=by
 have bad: ∀e:Int,e≠0→Ok (λe:Int=>e=0→qT o∧(eS b.2.1 o.2.1).2=true∧lF o.2.2.1 c.1.length) (some e):=λe h=>aq λh'=>absurd h' h
 have Cs:=hb.2.2.2.2.2.1.1
 unfold Z9
 refine bH (ej N hN ω hb) (bF (λ_=>bad _ δ) λhB=>bH (BJ N o) (bF (λ_=>bad _ δ) λYi=>ag (H7 N ω ω hb.2.1 _) λx ⟨hx,Yl⟩=>bF (λ_=>bad _ δ) λhf=>ag (pt N ω ω hb.1 _) λ_ _=>bG (λ_=>bad _ δ) λ_=>eN (λ_=>bad _ δ) λhi=>aD (by rw[cj];omega) ?_))
 have hr:=bt Yi
 unfold qT Ai at hr
 obtain⟨hp,_⟩:=dY hB
 dsimp only
 rw[cM]
 exact aD (by rw[aK];omega) (ag (PM N ω ω hb.2.2.2.1 _) λr h=>ag (H5 N ω (by rw[aS,aK];omega) _) λq h'=>ag (Z7 N ω c ω h (G.mono ω h') _) λt ht=>ag (bD N ω hx.2.2.2.1) λv hv=>ag (qH N ω ω ω ht hv) λ_ _=>ax (λ_=>bad _ δ) λ_=>aB ⟨hr.2.2.1.1,by rw[hp];exact hi⟩ (ag (adx N ω ho _) λe he=>ag (np N ω ω hb.2.2.1 _ _) λg hg=>ag (bD N ω hg) λy hy=>ag (y9 N ω ω (Bg.mono hy ω) he) λz hz=>ag (H6 N ω h2 hm hc hb (by rw[aK];omega) _) λu hu=>ag (qH N ω ω ω hz hu) λ_ _=>ax (λ_=>bad _ δ) λ_=>aq λ_=>⟨bt Yi,by rw[←Yl];exact hf,hi⟩))
theorem UY(N:Nat)(hN:5000000≤N){c:ae}{b:an}{h:cG}{a q p:Int}{m:Nat}(h2:200≤m)(hm:m≤40000)(hc:G m aA c)(hb:G m aJ b)(hh:G m e7 h)(ha:aF a)(hq:aF q)(hp:aF p):Ok (λr=>G m aJ r.1∧G m e7 r.2.1) (qI N c b h a q p):=by
 have ho:G m nn (h.1,(a,(h.2.1,(W .i64 (3-h.2.2.1),(q,(p,())))))):=⟨hh.1,ha,hh.2.1,gB _,hq,hp,trivial⟩
 have eo: ∀e:Int,Ok (λr:an×cG×Int=>G m aJ r.1∧G m e7 r.2.1) (some ((cf,(cS,(bn,(bn,(dd,(dm,())))))),(bb,e))):=λe=>aq ⟨G.jD,G.zero m e7⟩
 unfold qI qI.b
 have hj: ∀t:iu,Ok (λr=>G m aJ r.1∧G m e7 r.2.1) (qI.j14 N q c b h (cf,(cS,(bn,(bn,(dd,(dm,())))))) bb t):=λt=>by
  unfold qI.j14 qI.adz
  exact ag (C2 N hN c h2 ω hb) λr hr=>bG (λ_=>eo _) λ_=>aq ⟨hr,hh.1,hh.2.1,hh.2.2.1,gB _,trivial⟩
 exact bH (ej N hN ω hb) (bF (λ_=>eo _) λ_=>bH (ym N h) (bF (λ_=>eo _) λ_=>ax (λ_=>eo _) λ_=>ax (λ_=>eo _) λ_=>ax (λ_=>eo _) λ_=>ax (λ_=>eo _) λ_=>ax (λ_=>eo _) λ_=>ax (λ_=>eo _) λ_=>ax (λ_=>eo _) λ_=>ag (Ca N hN h2 hm hc hb ho) λe _=>bG (λ_=>eo _) λ_=>ok_eq (λ_=>hj _) λ_=>hj _))
def Dk(k:Nat)(d:aG):Prop:=(∀x∈(d.1:List Int),0≤x∧x<18446744073709551616)∧0≤(d.2.1:Int)∧(d.2.1:Int)≤k
theorem Dk.mono{j k:Nat}{d:aG}(h:Dk j d)(hk:j≤k):Dk k d:=⟨h.1,h.2.1,gN h.2.2 ω⟩
def iq:Nat:=1000000000
theorem FO(N:Nat){k:Nat}{d:aG}(hk:k≤iq)(h:Dk k d):Ok (λr=>(0≤r.1∧r.1<18446744073709551616)∧Dk (k+1) r.2) (F62 N d):=by
 obtain⟨h1,h2,h3⟩:=h
 unfold iq at hk
 unfold F62
 have hw: ∀i:Int,0≤i→i≤(k:Int)→0≤W .i64 (i+1)∧W .i64 (i+1)≤((k+1:Nat):Int):=λi h0 h1=>by rw[aw ω ω];omega
 have hd:Dk (k+1) (d.1,(W .i64 (d.2.1+1),d.2.2)):=⟨h1,hw _ h2 h3⟩
 have hg: ∀(l:List Int) (i:Int),(∀x∈l,0≤x∧x<18446744073709551616)→0≤l.getD i.toNat 0∧l.getD i.toNat 0<18446744073709551616:=λl i hl=>by
  by_cases hi:i.toNat<l.length
  ·rw[aV,bo hi];exact hl _ (dO hi)
  ·rw[aV,ig ω];decide
 exact ax (λeU=>aB ⟨h2,eU⟩ (aq ⟨hg _ _ h1,hd⟩)) λ_=>aq ⟨(show(0:Int)≤0∧(0:Int)<18446744073709551616 by decide),hd⟩
theorem rem_in{x y:Int}(h0:0≤x)(hy:0<y):0≤rem x y∧rem x y<y:=by
 unfold rem;rw[jo]
 exact⟨Int.tmod_nonneg _ h0,F7 _ hy⟩
theorem gX(N:Nat){k:Nat}{d:aG}{n:Int}(hn:0<n∧n<1000000)(h:Dk k d)(hk:k≤iq:=by first|decide|(unfold iq;omega)):Ok (λr=>(0≤r.1∧r.1<n)∧Dk (k+1) r.2) (oS N d n):=by
 unfold oS
 refine ag (FO N hk h) λr hr=> ?_
 dsimp only
 rw[eE (x:=n) ω ω]
 have:=rem_in hr.1.1 hn.1
 refine ok_eq (λ_=>ω) λ_=>aq ⟨?_,hr.2⟩
 dsimp only
 rw[aw ω ω]
 exact this
theorem oC(N:Nat){k:Nat}{d:aG}{n:Int}(hn:0<n∧n<1000000)(h:Dk k d)(hk:k≤iq:=by first|decide|(unfold iq;omega)):Ok (λr=>Dk (k+1) r.2) (PN N d n):=by
 unfold PN
 exact ag (gX N hn h hk) λr hr=>aq hr.2
theorem zd(N:Nat){k:Nat}{d:aG}(h:Dk k d)(hk:k≤iq:=by first|decide|(unfold iq;omega)):Ok (λr=>aF r.1∧Dk (k+1) r.2) (KX N d):=by
 unfold KX
 refine ag (FO N hk h) λr hr=>ok_eq (λ_=>ω) λ_=> ?_
 dsimp only
 repeat' first|exact aq ⟨gB _,hr.2⟩|refine ax (λ_=> ?_) (λ_=> ?_)|refine ok_eq (λ_=> ?_) (λ_=> ?_)|(exfalso;omega)
theorem aaa{x y:Int}(hy:0<y)(hy1:y<9223372036854775808):aF (rem x y):=by
 unfold rem;rw[jo]
 have h1:=F7 x hy
 have h2: -y<x.tmod y:=by
  have:=F7 (-x) hy
  rw[Int.neg_tmod]at this;omega
 unfold aF;omega
theorem Cb{x y:Int}(hx:aF x)(hy:aF y):aF (mx x y):=by unfold mx;rw[jo];split<;>assumption
theorem aab{x y:Int}(hx:aF x)(hy:aF y):aF (mn x y):=by unfold mn;rw[jo];split<;>assumption
theorem Tb{x n:Int}(h:0≤x∧x<n)(hn:n≤1000000):aF x:=jC ω ω
abbrev wK(m:Nat)(l:di):Prop:=G m (.slice lZ) l
theorem tk{k a b c d e f g:Int}{m:Nat}(h0:aF k)(h1:aF a)(h2:aF b)(h3:aF c)(h4:aF d)(h5:aF e)(h6:aF f)(h7:aF g):G m lZ (k,(a,(b,(c,(d,(e,(f,(g,())))))))):=⟨h0,h1,h2,h3,h4,h5,h6,h7,trivial⟩
theorem bw{x:Int}(h: -1000000≤x∧x≤1000000:=by decide):aF x:=jC h.1 h.2
theorem MA(N:Nat){k:Nat}{d:aG}(h:Dk k d)(c:ae){i:Int}(hi:0≤i∧i<(c.1.length:Int))(hc:c.1.length≤5)(hk:k≤100000000):Ok (λr=>G 0 lZ r.1∧Dk (k+5) r.2) (WX N d c i):=by
 unfold WX
 have hb:aF 1000000000000:=by unfold aF;decide
 have nZ:aF i:=jC ω ω
 exact aB hi (ag (gX N δ h) λa ⟨_,hd⟩=>ag (oC N δ hd) λr hd=>nL (λ_=>ag (zd N hd) λr ⟨_,hd⟩=>ok_eq (λ_=>ω) λ_=>aq ⟨tk bw bw bw nZ bw bw bw (gB _),Dk.mono hd ω⟩) λ_=>aq ⟨tk bw bw bw nZ bw bw bw (Cb bw (aab hb (gB _))),Dk.mono hd ω⟩)
theorem PO(N:Nat){k:Nat}{d:aG}(h:Dk k d)(c:ae)(TW:1≤c.1.length)(hc:c.1.length≤5)(hk:k≤100000000):Ok (λr=>G 0 lZ r.1∧Dk (k+10) r.2) (aac N d c):=by
 unfold aac
 have hb:aF 1000000000000:=by unfold aF;decide
 refine ag (gX N ⟨ω,ω⟩ h) λa ⟨ha,hd⟩=>ag (gX N δ hd) λb ⟨eX,hd⟩=> ?_
 dsimp only
 refine ag (gX N δ hd) λe ⟨he,hd⟩=>ag (gX N δ hd) λf ⟨hf,hd⟩=>aB ha (ag (gX N δ hd) λg ⟨_,hd⟩=>ag (oC N δ hd) λr hd=>nL (λ_=>ag (zd N hd) λr ⟨_,hd⟩=>ok_eq (λ_=>ω) λ_=>ag (zd N hd) λr' ⟨_,hd⟩=>ok_eq (λ_=>ω) λ_=>aq ⟨tk bw bw (gB _) (Tb ha ω) (gB _) bw (gB _) (gB _),Dk.mono hd ω⟩) λ_=>aq ⟨tk bw bw (gB _) (Tb ha ω) (gB _) bw (gB _) (Cb bw (aab hb (gB _))),Dk.mono hd ω⟩)
structure Cf(c:ae):Prop where
 g:G 5 aA c
 n:1≤c.1.length
theorem H8(N:Nat){k:Nat}{d:aG}(h:Dk k d){c:ae}(hc:Cf c)(hk:k≤10000000):Ok (λr=>G 0 lZ r.1∧Dk (k+20) r.2) (WY N d c):=by
 have hn:=hc.n
 have hl:=hc.g.1.1
 unfold WY
 refine ag (gX N δ h) λa ⟨ha,hd⟩=> ?_
 dsimp only
 refine ag (gX N δ hd) λb ⟨hb,hd⟩=>ag (gX N ⟨ω,ω⟩ hd) λi ⟨hi,hd⟩=>ag (gX N δ hd) λe ⟨he,hd⟩=> ?_
 have hz: ∀(e:iw) (j:Nat) (d:aG),G 0 lZ e→Dk j d→j≤k+20→Ok (λr=>G 0 lZ r.1∧Dk (k+20) r.2) (some (e,d)):=λe j d he hd hj=>aq ⟨he,Dk.mono hd hj⟩
 have hs: ∀{f:Int×aG→Option (iw×aG)},(∀x d,aF x→Dk (k+5) d→Ok (λr=>G 0 lZ r.1∧Dk (k+20) r.2) (f (x,d)))→Ok (λr=>G 0 lZ r.1∧Dk (k+20) r.2) ((KX N e.2).bind f):=λhf=>ag (zd N hd) λr ⟨h1,h2⟩=>hf r.1 r.2 h1 (Dk.mono h2 ω)
 have hm: ∀{n:Int} {f:Int×aG→Option (iw×aG)},0<n∧n<1000000→(∀x d,Dk (k+5) d→Ok (λr=>G 0 lZ r.1∧Dk (k+20) r.2) (f (x,d)))→Ok (λr=>G 0 lZ r.1∧Dk (k+20) r.2) ((oS N e.2 n).bind f):=λhn hf=>ag (gX N hn hd) λr ⟨h1,h2⟩=>hf r.1 r.2 (Dk.mono h2 ω)
 repeat' first
  |refine ok_eq (λ_=> ?_) (λ_=> ?_)
  |(exfalso;omega)
  |(refine hs λx d' hx hd'=> ?_;dsimp only)
  |(refine hm δ λx d' hd'=> ?_;dsimp only)
  |(refine hz _ _ _ ?_ hd ω;refine⟨?_,?_,?_,?_,?_,?_,?_,?_,trivial⟩<;>first|exact gB _|exact bV|exact Cb hx bw|exact aaa δ δ|exact(G.at hc.g.1 _).2.1)
  |(refine hz _ _ _ ?_ hd' ω;refine⟨?_,?_,?_,?_,?_,?_,?_,?_,trivial⟩<;>first|exact gB _|exact bV|exact Cb hx bw|exact aaa δ δ|exact(G.at hc.g.1 _).2.1)
  |(refine hz _ _ _ ?_ h2 ω;refine⟨?_,?_,?_,?_,?_,?_,?_,?_,trivial⟩<;>first|exact gB _|exact bV|exact Cb hx bw|exact aaa δ δ|exact(G.at hc.g.1 _).2.1)
  |exact ag (MA N hd c hi hl ω) λr ⟨h1,h2⟩=>hz _ _ _ h1 h2 ω
  |exact ag (PO N hd c hn hl ω) λr ⟨h1,h2⟩=>hz _ _ _ h1 h2 ω
  |refine aB hi ?_
  |(refine ag (gX N δ hd') λr ⟨h1,h2⟩=> ?_)
theorem G.cat{m n:Nat}{e:Ty}{l k:List e.den}(h:G m (.slice e) l)(h':G n (.slice e) k):G (m+n) (.slice e) (l++k):=
 ⟨by have:=h.1;have:=h'.1;rw[aS];omega,λy hy=>by
  rcases bl.1 hy with hy|hy
  ·exact G.mono ω (h.2 y hy)
  ·exact G.mono ω (h'.2 y hy)⟩
theorem G.two{m:Nat}{e:Ty}{a b:e.den}(ha:G 0 e a)(hb:G 0 e b)(hm:2≤m):G m (.slice e) [a,b]:=
 ⟨hm,λy hy=>by
  rcases a8.1 hy with rfl|hy
  ·exact G.mono ω ha
  ·rw[cr.1 hy];exact G.mono ω hb⟩
theorem G.one{m:Nat}{e:Ty}{a:e.den}(ha:G 0 e a)(hm:1≤m):G m (.slice e) [a]:=
 ⟨hm,λy hy=>by rw[cr.1 hy];exact G.mono ω ha⟩
theorem ze{α:Type}(a b:α):[a,b].length=2:=rfl
theorem Tc(N:Nat)(hN:100≤N){k:Nat}{d:aG}(h:Dk k d)(c:ae)(hk:k≤10000000):Ok (λr=>wK 40 r.1∧Dk (k+50) r.2) (gw N d c):=by
 have s64: ∀i:Nat,i<100→aF (i:Int):=λi hi=>jC ω ω
 unfold gw gw.b
 refine jh (len:=5) (F:=λn i (s:aG×di)=>gw.l3 N n s.1 s.2 i) (λi s=>Dk (k+2*i) s.1∧wK (3*i) s.2) (λn i s hi hI hr=> ?_) (λn s hI=> ?_) 5 N 1 (d,[]) ω ω ω ⟨Dk.mono h ω,G.nil⟩
 all_goals unfold gw.l3 gw.nw
 ·have hl:=hI.2.1
  have nZ:=s64 i ω
  dsimp only
  rw[aw (x:=(i:Int)+1) ω ω,af i]
  have h2:wK (3*i+2) (s.2++[((1:Int),((i:Int),eF)),((2:Int),((i:Int),((i:Int),((0:Int),((1:Int),ba)))))]):=G.cat hI.2 (G.two (tk bw nZ bV bV bV bV bV bV) (tk bw nZ nZ bV bw bV bV bV) ω)
  have hl2:=h2.1
  exact eN (λ_=>aD (by rw[ze];omega) (ag (oC N δ hI.1 (by unfold iq;omega)) λr hd=>bF (λ_=>ag (gX N δ hd (by unfold iq;omega)) λr ⟨_,hd⟩=>aD (by rw[aK];omega) (hr (_,_) ⟨Dk.mono hd ω,G.mono ω (G.cat h2 (G.one (m:=1) (tk bw nZ bV bV bV bV (gB _) bV) ω))⟩)) λ_=>hr (_,_) ⟨Dk.mono hd ω,G.mono ω h2⟩)) λ_=>ω
 ·refine eN (λ_=>ω) λ_=> ?_
  refine jh (len:=8) (F:=λn i (s:aG×di)=>gw.l9 N n s.1 s.2 i) (λi s=>Dk (k+10+i) s.1∧wK (15+i) s.2) (λn i s hi hI hr=> ?_) (λn s hI=> ?_) 8 N 5 s ω ω ω ⟨Dk.mono hI.1 ω,G.mono ω hI.2⟩
  all_goals unfold gw.l9 gw.vN
  ·have hl:=hI.2.1
   dsimp only
   rw[aw (x:=(i:Int)+1) ω ω,af i]
   exact eN (λ_=>ag (gX N δ hI.1 (by unfold iq;omega)) λr ⟨_,hd⟩=>aD (by rw[aK];omega) (hr (_,_) ⟨Dk.mono hd ω,G.mono ω (G.cat hI.2 (G.one (m:=1) (tk bw (gB _) (s64 i ω) bV bw bV bV bV) ω))⟩)) λ_=>ω
  ·refine eN (λ_=>ω) λ_=> ?_
   refine jh (len:=8) (F:=λn i (s:aG×di)=>gw.mq N n s.1 s.2 i) (λi s=>Dk (k+18+2*i) s.1∧wK (23+2*i) s.2) (λn i s hi hI hr=> ?_) (λn s hI=> ?_) 8 N 1 s ω ω ω ⟨Dk.mono hI.1 ω,G.mono ω hI.2⟩
   all_goals unfold gw.mq gw.lq
   ·have hl:=hI.2.1
    have nZ:=s64 i ω
    dsimp only
    rw[aw (x:=(i:Int)+1) ω ω,af i]
    exact eN (λ_=>ag (gX N δ hI.1 (by unfold iq;omega)) λr ⟨_,hd⟩=>ag (gX N δ hd (by unfold iq;omega)) λr ⟨_,hd⟩=>aD (by rw[ze];omega) (hr (_,_) ⟨Dk.mono hd ω,G.mono ω (G.cat hI.2 (G.two (m:=2) (tk bw bV nZ bV bV bV (gB _) bV) (tk bw bV nZ bV bV bV (gB _) bV) ω))⟩)) λ_=>ω
   ·exact eN (λ_=>ω) λ_=>aq ⟨G.mono ω hI.2,Dk.mono hI.1 ω⟩
theorem H9{x:Nat}(h:x<1000000):W .i64 (((x+1:Nat):Int)-1)=(x:Int):=by rw[aw ω ω];omega
theorem KY(N:Nat)(hN:1000≤N){k:Nat}{d:aG}(h:Dk k d){c:ae}(hc:Cf c){yq:Int}(hm:0≤yq∧yq≤100)(hk:k≤10000):Ok (λr=>wK 200 r.1∧Dk (k+3000) r.2) (qJ N d c yq):=by
 have hn:=hc.n
 have hl:=hc.g.1.1
 unfold qJ qJ.b
 rw[aw (x:=yq+1) ω ω]
 refine ag (Tc N ω h c ω) λr ⟨BC,hd⟩=>ag (gX N ⟨ω,ω⟩ hd (by unfold iq;omega)) λz ⟨hz,hd⟩=> ?_
 obtain⟨j,hj⟩: ∃j:Nat,z.1=(j:Int):=⟨z.1.toNat,ω⟩
 rw[hj]
 refine wv (F:=λn x (s:aG×di)=>qJ.l3 N n s.1 c s.2 x) (λx s=>x≤100∧Dk (k+100+25*(100-x)) s.1∧wK (40+(100-x)) s.2) (λn x s hI hr=> ?_) (λn s hI=> ?_) j N (z.2,r.1) ω ⟨ω,Dk.mono hd ω,G.mono ω BC⟩
 all_goals unfold qJ.l3 qJ.nw
 ·obtain⟨hx,hd,hG⟩:=hI
  have hs:=hG.1
  rw[H9 ω]
  have put: ∀(e:iw) (d:aG) (q:Nat),G 0 lZ e→Dk q d→q≤k+100+25*(100-(x+1))+25→Ok (λr=>wK 200 r.1∧Dk (k+3000) r.2) (cond (small (s.2.length+[e].length)) (qJ.l3 N n d c (s.2++[e]) (x:Int)) none):=λe d q he hd hq=>aD (by rw[aK];omega) (hr (_,_) ⟨ω,Dk.mono hd ω,G.mono ω (G.cat hG (G.one (m:=1) he ω))⟩)
  exact ax (λ_=>ag (gX N δ hd (by unfold iq;omega)) λa ⟨_,hd⟩=>ok_eq (λ_=>ag (H8 N hd hc ω) λr ⟨h1,h2⟩=>put _ _ _ h1 h2 ω) λ_=>ok_eq (λ_=>ag (gX N ⟨ω,ω⟩ hd (by unfold iq;omega)) λb ⟨hb,hd⟩=>ag (MA N hd c hb hl ω) λr ⟨h1,h2⟩=>put _ _ _ h1 h2 ω) λ_=>ag (PO N hd c hn hl ω) λr ⟨h1,h2⟩=>put _ _ _ h1 h2 ω) λ_=>ω
 ·exact ax (λ_=>ω) λ_=>aq ⟨G.mono ω hI.2.2,Dk.mono hI.2.1 ω⟩
theorem vb(N:Nat)(hN:1000≤N){k:Nat}{d:aG}(h:Dk k d){c:ae}(hc:Cf c)(hk:k≤100000):Ok (λr=>wK 3 r.1∧Dk (k+100) r.2) (oD N d c):=by
 have hn:=hc.n
 have hl:=hc.g.1.1
 unfold oD oD.b
 refine ag (gX N δ h (by unfold iq;omega)) λz ⟨hz,hd⟩=> ?_
 obtain⟨j,hj⟩: ∃j:Nat,z.1=(j:Int):=⟨z.1.toNat,ω⟩
 rw[hj]
 refine wv (F:=λn x (s:aG×di)=>oD.l3 N n s.1 c s.2 x) (λx s=>x≤3∧Dk (k+1+25*(3-x)) s.1∧wK (3-x) s.2) (λn x s hI hr=> ?_) (λn s hI=> ?_) j N (z.2,[]) ω ⟨ω,Dk.mono hd ω,G.nil⟩
 all_goals unfold oD.l3 oD.nw
 ·obtain⟨hx,hd,hG⟩:=hI
  have hs:=hG.1
  rw[H9 ω]
  have put: ∀(e:iw) (d:aG) (q:Nat),G 0 lZ e→Dk q d→q≤k+1+25*(3-(x+1))+25→Ok (λr=>wK 3 r.1∧Dk (k+100) r.2) (cond (small (s.2.length+[e].length)) (oD.l3 N n d c (s.2++[e]) (x:Int)) none):=λe d q he hd hq=>aD (by rw[aK];omega) (hr (_,_) ⟨ω,Dk.mono hd ω,G.mono ω (G.cat hG (G.one (m:=1) he ω))⟩)
  exact ax (λ_=>ag (oC N δ hd (by unfold iq;omega)) λa hd=>nL (λ_=>ag (gX N ⟨ω,ω⟩ hd (by unfold iq;omega)) λb ⟨hb,hd⟩=>ag (MA N hd c hb hl ω) λr ⟨h1,h2⟩=>put _ _ _ h1 h2 ω) λ_=>ag (H8 N hd hc ω) λr ⟨h1,h2⟩=>put _ _ _ h1 h2 ω) λ_=>ω
 ·exact ax (λ_=>ω) λ_=>aq ⟨G.mono ω hI.2.2,Dk.mono hI.2.1 ω⟩
theorem fH{α:Type}{r:α}:Ok (λ_=>True) (some r):=aq trivial
theorem WZ(N:Nat)(k:Int):Ok (λs=>ByteArray.size s≤100) (adA N k):=by
 unfold adA
 repeat' first|refine ok_eq (λ_=> ?_) (λ_=> ?_)|exact aq δ
theorem W0(N:Nat)(k f:Int):Ok (λ_=>True) (adB N k f):=by
 unfold adB alf alg
 repeat' first|refine ok_eq (λ_=> ?_) (λ_=> ?_)|exact fH|refine ag (Q:=λ_=>True) ?_ λ_ _=>fH
theorem aad(N:Nat)(e:iw)(f:Int):Ok (λ_=>True) (adC N e f):=by
 unfold adC
 repeat' first|refine ok_eq (λ_=> ?_) (λ_=> ?_)|exact fH
theorem aae(N:Nat)(e:iw)(f x:Int):Ok (λ_=>True) (adD N e f x):=by
 unfold adD
 repeat' first|refine ok_eq (λ_=> ?_) (λ_=> ?_)|exact fH
theorem KZ(N:Nat)(hN:1000≤N)(e:iw):Ok (λ_=>True) (sO N e):=by
 unfold sO sO.b alh
 refine ag (Q:=λ_=>True) (eN (λ_=>fH) λ_=>fH) λ_ _=>bF (λ_=>fH) λ_=>ag (WZ N _) λs hs=> ?_
 refine bs (len:=ByteArray.size s) (F:=λn i (x:iw)=>sO.l6 N n e s x i) (λ_ _=>True) trivial ω (λn i x hi _ hr=> ?_) (λn x _=> ?_)
 all_goals unfold sO.l6 sO.uU
 ·rw[aw (x:=(i:Int)+1) ω ω,af i]
  exact ax (λ_=>aB ⟨ω,ω⟩ (ag (W0 N _ _) λ_ _=>aB ⟨ω,ω⟩ (ag (aad N _ _) λ_ _=>ax (λ_=>fH) λ_=>ax (λ_=>fH) λ_=>aB ⟨ω,ω⟩ (ag (aae N _ _ _) λy _=>hr y trivial)))) λ_=>ω
 ·exact ax (λ_=>ω) λ_=>fH
theorem G.ins{m:Nat}{e:Ty}{l:List e.den}{x:e.den}(h:G m (.slice e) l)(hx:G m e x)(a b c:Nat)(ha:c≤a):G (m+1) (.slice e) ((([]++List.drop b (List.take c l))++[x])++List.drop a (List.take l.length l)):=by
 have:=h.1
 refine⟨?_,λy hy=> ?_⟩
 ·simp only[cM,aS,eg,bZ,aK];omega
 ·rw[cM,bE]at hy
  rcases bl.1 hy with hy|hy
  ·exact G.mono ω (h.2 y (lH (mQ hy)))
  ·rcases bl.1 hy with hy|hy
   ·rw[cr.1 hy];exact G.mono ω hx
   ·exact G.mono ω (h.2 y (lH (mQ hy)))
theorem MB{α:Type}{P:List α×Int→Prop}{l:List α}{x:α}{k:Nat}{e:Int}(hk:k≤l.length)(hl:l.length≤1000000)(h:P ((([]++List.drop (0:Int).toNat (List.take (k:Int).toNat l))++[x])++List.drop (k:Int).toNat (List.take (l.length:Int).toNat l),e)):
  Ok P (cond (jq 0 (k:Int) (l.length:Int) (l.length:Int)) (let v6:List α:=List.drop (0:Int).toNat (List.take (k:Int).toNat l);cond (small (([]:List α).length+v6.length)) (let v7:List α:=[]++v6;cond (small (v7.length+[x].length)) (let v8:List α:=v7++[x];cond (jq (k:Int) (l.length:Int) (l.length:Int) (l.length:Int)) (let v9:List α:=List.drop (k:Int).toNat (List.take (l.length:Int).toNat l);cond (small (v8.length+v9.length)) (some ((v8++v9),e)) none) none) none) none) none):=by
 dsimp only
 have t: ∀a b:Nat,(List.drop a (List.take b l)).length≤l.length:=λa b=>by rw[eg,bZ];omega
 have t1:=t (0:Int).toNat (k:Int).toNat
 have t2:=t (k:Int).toNat (l.length:Int).toNat
 refine Df ⟨ω,ω,ω,ω⟩ (aD (by rw[cj];omega) (aD ?_ (Df ⟨ω,ω,ω,ω⟩ (aD ?_ (aq h)))))
 ·rw[cM,aK];omega
 ·rw[cM,aS,aK];omega
theorem aaf(N:Nat)(hN:200000≤N){a:aE}{m:Nat}(hm:m≤50000)(h:G m (.slice kM) a){id:Int}(bg:aF id):Ok (λr=>G (m+1) (.slice kM) r.1) (iZ N a id):=by
 have hl:=h.1
 unfold iZ iZ.b
 refine bH (nA N ω hN) (bF (λ_=>aq G.nil) λ_=>ax (λ_=>aq G.nil) λ_=>ax (λ_=>aq G.nil) λ_=>bH (iV N ω hN id) (bG (λ_=>aq G.nil) λ_=> ?_))
 have fin: ∀k:Nat,k≤a.length→Ok (λr=>G (m+1) (.slice kM) r.1) (iZ.j9 N a id [] (k:Int)):=λk hk=>by
  unfold iZ.j9 iZ.Js
  have hx:G m kM (id,((1:Int),())):=⟨bg,(show aF 1 from bw),trivial⟩
  exact MB hk ω (by simpa using G.ins h hx k 0 k (aH _))
 refine mZ (len:=a.length) (F:=λn i=>iZ.l7 N n a id [] i) ω (λn i hi hr=> ?_) (λn=> ?_)
 all_goals unfold iZ.l7 iZ.oP
 ·rw[aw (x:=(i:Int)+1) ω ω,af i]
  exact ax (λ_=>aB ⟨ω,ω⟩ (ax (λ_=>hr) λ_=>fin i ω)) λ_=>ω
 ·exact ax (λ_=>ω) λ_=>fin _ (aH _)
theorem G4q{m:Nat}{x:cG}{q:Int}(h:G m e7 x)(hq:aF q):G m e7 (x.1,(x.2.1,(x.2.2.1,(q,x.2.2.2.2)))):=⟨h.1,h.2.1,h.2.2.1,hq,trivial⟩
theorem G4b{m:Nat}{x:cG}{q:Int}(h:G m e7 x)(hq:aF q):G m e7 (x.1,(q,x.2.2)):=⟨h.1,hq,h.2.2⟩
theorem G2b{m:Nat}{x:BK}{q:Int}(h:G m kM x)(hq:aF q):G m kM (x.1,(q,x.2.2)):=⟨h.1,hq,trivial⟩
theorem MC(N:Nat)(hN:200000≤N){l:aO}(hl:l.length≤100000):Ok (λ_=>True) (eY N l):=oB (uZ N hl hN) trivial
theorem adE(N:Nat)(hN:200000≤N){a:aE}{l:aO}{x:cG}{m:Nat}(hm:m≤50000)(ha:G m (.slice kM) a)(h:G m (.slice e7) l)(hx:G 0 e7 x):Ok (λr=>G (m+1) (.slice e7) r.1) (fO N a l x):=by
 have h1:=ha.1
 have hl:=h.1
 have fin: ∀k:Nat,k≤l.length→Ok (λr=>G (m+1) (.slice e7) r.1) (fO.Dg N l x [] (k:Int)):=λk hk=>by
  unfold fO.Dg fO.wZ
  exact MB hk ω (by simpa using G.ins h (G.mono (bz m) hx) k 0 k (aH _))
 have hj:Ok (λr=>G (m+1) (.slice e7) r.1) (fO.E9 N l x):=by
  unfold fO.E9 fO.yr
  refine mZ (len:=l.length) (F:=λn i=>fO.mq N n l x [] i) ω (λn i hi hr=> ?_) (λn=> ?_)
  all_goals unfold fO.mq fO.lq
  ·rw[aw (x:=(i:Int)+1) ω ω,af i]
   exact ax (λ_=>aB ⟨ω,ω⟩ (ax (λ_=>hr) λ_=>fin i ω)) λ_=>ω
  ·exact ax (λ_=>ω) λ_=>fin _ (aH _)
 unfold fO fO.b
 exact bH (ya N ω ω hN) (bF (λ_=>aq G.nil) λ_=>ag (MC N hN (by rw[aK];omega)) λ_ _=>bF (λ_=>aq G.nil) λ_=>bH (iV N ω hN _) (ok_eq (λ_=>aq G.nil) λ_=>bG (λ_=>aq G.nil) λ_=>bH (sy N ω hN _) (nL (λ_=>aq G.nil) λ_=>ok_eq (λ_=>bH (rJ N ω hN _) (bG (λ_=>aq G.nil) λ_=>hj)) λ_=>hj)))
theorem aag(N:Nat)(hN:200000≤N){l:aO}{m:Nat}(hm:m≤50000)(h:G m (.slice e7) l){id q:Int}(hq:aF q):Ok (λr=>G m (.slice e7) r.1) (oE N l id q):=by
 have hl:=h.1
 unfold oE oE.b
 refine ag (MC N hN ω) λ_ _=>bF (λ_=>aq G.nil) λ_=>ax (λ_=>aq G.nil) λ_=>ax (λ_=>aq G.nil) λ_=>bH (sy N ω hN _) (bF (λ_=>aq G.nil) λ_=>aD (by rw[cj];omega) ?_)
 rw[cM]
 refine bs (len:=l.length) (F:=λn i s=>oE.l8 N n id q s i) (λ_ s=>s.length=l.length∧G m (.slice e7) s) ⟨rfl,h⟩ ω (λn i s hi hI hr=> ?_) (λn s hI=> ?_)
 all_goals unfold oE.l8 oE.Ec
 ·rw[aw (x:=(i:Int)+1) ω ω,af i]
  have hs:=hI.1
  have hx:=G.at hI.2 (i:Int).toNat
  exact ax (λ_=>aB ⟨ω,ω⟩ (ok_eq (λ_=>aB ⟨ω,ω⟩ (hr _ ⟨by rw[bN];exact hs,G.set hI.2 (G4q hx hq) _⟩)) λ_=>hr s hI)) λ_=>ω
 ·have hs:=hI.1
  exact ax (λ_=>ω) λ_=>aq hI.2
theorem aah(N:Nat)(a b:Int):Ok (λr=>aF r.1) (W1 N a b):=by
 have h: ∀(x:Int) (t:Bool),0≤x∧x<5→Ok (λr:Int×Bool=>aF r.1) (some (x,t)):=λx t hx=>aq (Tb hx δ)
 unfold W1
 repeat' first|refine ok_eq (λ_=> ?_) (λ_=> ?_)|exact h _ _ δ
theorem MD(N:Nat)(hN:200000≤N){l:aE}{m:Nat}(hm:m≤50000)(h:G m (.slice kM) l)(id k:Int):Ok (λr=>G m (.slice kM) r.1) (mN N l id k):=by
 have hl:=h.1
 unfold mN mN.b
 refine bH (nA N ω hN) (bF (λ_=>aq G.nil) λ_=>bH (iV N ω hN _) (ok_eq (λ_=>aq G.nil) λ_=>ag (aah N _ _) λz hz=>bF (λ_=>aq G.nil) λ_=>aD (by rw[cj];omega) ?_))
 rw[cM]
 refine bs (len:=l.length) (F:=λn i s=>mN.Al N n id z.1 s i) (λ_ s=>s.length=l.length∧G m (.slice kM) s) ⟨rfl,h⟩ ω (λn i s hi hI hr=> ?_) (λn s hI=> ?_)
 all_goals unfold mN.Al mN.yf
 ·rw[aw (x:=(i:Int)+1) ω ω,af i]
  have hs:=hI.1
  have hx:=G.at hI.2 (i:Int).toNat
  exact ax (λ_=>aB ⟨ω,ω⟩ (ok_eq (λ_=>aB ⟨ω,ω⟩ (hr _ ⟨by rw[bN];exact hs,G.set hI.2 (G2b hx hz) _⟩)) λ_=>hr s hI)) λ_=>ω
 ·have hs:=hI.1
  exact ax (λ_=>ω) λ_=>aq hI.2
theorem Td(N:Nat)(hN:200000≤N){a:aE}{l:aO}{m:Nat}(hm:m≤50000)(ha:G m (.slice kM) a)(h:G m (.slice e7) l){id to:Int}(hto:aF to):Ok (λr=>G m (.slice e7) r.1) (oF N a l id to):=by
 have h1:=ha.1
 have hl:=h.1
 unfold oF oF.b
 refine bH (ya N ω ω hN) (bF (λ_=>aq G.nil) λ_=>bH (sy N ω hN _) (bH (iV N ω hN _) (bF (λ_=>aq G.nil) λ_=>ok_eq (λ_=>aq G.nil) λ_=>bG (λ_=>aq G.nil) λ_=>bG (λ_=>aq G.nil) λ_=>aD (by rw[cj];omega) ?_)))
 rw[cM]
 refine bs (len:=l.length) (F:=λn i s=>oF.mq N n id to s i) (λ_ s=>s.length=l.length∧G m (.slice e7) s) ⟨rfl,h⟩ ω (λn i s hi hI hr=> ?_) (λn s hI=> ?_)
 all_goals unfold oF.mq oF.lq
 ·rw[aw (x:=(i:Int)+1) ω ω,af i]
  have hs:=hI.1
  have hx:=G.at hI.2 (i:Int).toNat
  exact ax (λ_=>aB ⟨ω,ω⟩ (ok_eq (λ_=>aB ⟨ω,ω⟩ (hr _ ⟨by rw[bN];exact hs,G.set hI.2 (G4b hx hto) _⟩)) λ_=>hr s hI)) λ_=>ω
 ·have hs:=hI.1
  exact ax (λ_=>ω) λ_=>aq hI.2
theorem PQ(N:Nat)(hN:200000≤N){l:aO}{m:Nat}(hm:m≤50000)(h:G m (.slice e7) l)(id:Int):Ok (λr=>r.length≤m) (sP N l id):=by
 have hl:=h.1
 unfold sP sP.b
 refine ag (MC N hN ω) λ_ _=>bF (λ_=>aq (bz _)) λ_=>bs (len:=l.length) (F:=λn i s=>sP.l5 N n l id s i) (λi s=>s.length≤i) (bz _) ω (λn i s hi hI hr=> ?_) (λn s hI=> ?_)
 all_goals unfold sP.l5 sP.eA
 ·rw[aw (x:=(i:Int)+1) ω ω,af i]
  exact ax (λ_=>aB ⟨ω,ω⟩ (ok_eq (λ_=>aB ⟨ω,ω⟩ (aD (by rw[aK];omega) (hr _ (by rw[aS,aK];omega)))) λ_=>hr s ω)) λ_=>ω
 ·exact ax (λ_=>ω) λ_=>aq ω
abbrev L6(m:Nat)(l:aY):Prop:=G m (.slice nn) l
theorem aai(N:Nat)(hN:200000≤N){l:aY}{a:List Int}{m:Nat}(hm:m≤50000)(h:L6 m l)(ha:a.length≤m):Ok (λr=>L6 m r) (gC N l a):=by
 have hl:=h.1
 unfold gC gC.b
 refine bH (iU N ω hN) (bF (λ_=>aq G.nil) λ_=>bs (len:=l.length) (F:=λn i s=>gC.l5 N n l a s i) (λi s=>L6 i s) G.nil ω (λn i s hi hI hr=> ?_) (λn s hI=> ?_))
 all_goals unfold gC.l5 gC.eA
 ·have hs:=hI.1
  refine ax (λ_=> ?_) λ_=>ω
  refine bs (len:=a.length) (F:=λn' j b=>gC.l9 N (gC.l5 N n) n' l a s (i:Int) b j) (λ_ _=>True) trivial ω (λn' j b hj _ eQ=> ?_) (λn' b _=> ?_)
  all_goals unfold gC.l9 gC.vN
  ·rw[aw (x:=(j:Int)+1) ω ω,af j]
   exact ax (λ_=>nL (λ_=>eQ _ trivial) λ_=>aB ⟨ω,ω⟩ (aB ⟨ω,ω⟩ (eQ _ trivial))) λ_=>ω
  ·rw[aw (x:=(i:Int)+1) ω ω,af i]
   have hx:G 0 nn (l.getD (i:Int).toNat eF):=G.at h _
   exact ax (λ_=>ω) λ_=>bF (λ_=>aB ⟨ω,ω⟩ (aD (by rw[aK];omega) (hr _ (G.cat hI (G.one hx (aH 1)))))) λ_=>hr s (G.mono ω hI)
 ·exact ax (λ_=>ω) λ_=>aq (G.mono hl hI)
theorem PS(N:Nat)(hN:5000000≤N)(c:ae){b:an}{m:Nat}(hm:m≤50000)(hb:G m aJ b)(id:Int):Ok (λr=>G m aJ r.1) (ME N c b id):=by
 unfold ME
 exact bH (ej N hN hm hb) (bF (λ_=>aq G.jD) λ_=>ag (pt N ω hm hb.1 _) λ_ _=>ok_eq (λ_=>aq G.jD) λ_=>ag (PQ N ω hm hb.2.1 _) λa ha=>ag (aai N ω hm hb.2.2.2.2.2.1 ha) λr hr=>aq ⟨hb.1,hb.2.1,hb.2.2.1,hb.2.2.2.1,hb.2.2.2.2.1,hr,trivial⟩)
theorem EA(N:Nat)(hN:200000≤N){l:aO}{m:Nat}(hm:m≤50000)(h:G m (.slice e7) l)(id:Int):Ok (λr=>G m (.slice e7) r) (qm N l id):=by
 have hl:=h.1
 unfold qm qm.b
 refine bH (u6 N ω hN) (bF (λ_=>aq G.nil) λ_=>bs (len:=l.length) (F:=λn i s=>qm.l5 N n l id s i) (λi s=>G i (.slice e7) s) G.nil ω (λn i s hi hI hr=> ?_) (λn s hI=> ?_))
 all_goals unfold qm.l5 qm.eA
 ·have hs:=hI.1
  have hx:G 0 e7 (l.getD (i:Int).toNat bb):=G.at h _
  rw[aw (x:=(i:Int)+1) ω ω,af i]
  exact ax (λ_=>aB ⟨ω,ω⟩ (bG (λ_=>aB ⟨ω,ω⟩ (aD (by rw[aK];omega) (hr _ (G.cat hI (G.one hx (aH 1)))))) λ_=>hr s (G.mono ω hI))) λ_=>ω
 ·exact ax (λ_=>ω) λ_=>aq (G.mono hl hI)
theorem W2(N:Nat)(hN:200000≤N){l:aY}{m:Nat}(hm:m≤50000)(h:L6 m l)(a id:Int):Ok (λr=>L6 m r.1) (oG N l a id):=by
 have hl:=h.1
 unfold oG oG.b
 refine bH (iU N ω hN) (bF (λ_=>aq G.nil) λ_=>bs (len:=l.length) (F:=λn i s=>oG.l5 N n l a id s i) (λi s=>L6 i s) G.nil ω (λn i s hi hI hr=> ?_) (λn s hI=> ?_))
 all_goals unfold oG.l5 oG.eA
 ·have hs:=hI.1
  have hx:G 0 nn (l.getD (i:Int).toNat eF):=G.at h _
  rw[aw (x:=(i:Int)+1) ω ω,af i]
  have h1:=hr s (G.mono ω hI)
  have h2:=hr _ (G.cat hI (G.one hx (aH 1)))
  repeat' first|exact h1|exact h2|refine aD (by rw[aK];omega) ?_|refine aB ⟨ω,ω⟩ ?_|refine ax (λ_=> ?_) (λ_=> ?_)|refine bG (λ_=> ?_) (λ_=> ?_)|(exfalso;omega)
 ·exact ax (λ_=>ω) λ_=>ok_eq (λ_=>aq G.nil) λ_=>aq (G.mono hl hI)
end VM
end
