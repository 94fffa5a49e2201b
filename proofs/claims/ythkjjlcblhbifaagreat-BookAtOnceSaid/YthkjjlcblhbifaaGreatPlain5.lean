/- A part of the proof of BookAtOnce of layer 18: what the functions compute, in plain words. -/
import Derived.Test.YthkjjlcblhbifaaGreatPlain4
set_option linter.all false
open List renaming length→ℓ
section
namespace VM
open Go VM.F Go.RowKit
variable(N:Nat)
def hR:au:=[((1:Int),((0:Int),((-90:Int),()))),((5:Int),((1:Int),((90:Int),())))]
def hS:au:=[((0:Int),((0:Int),((5:Int),()))),((0:Int),((1:Int),((20:Int),()))),((1:Int),((0:Int),((-5:Int),()))),((1:Int),((1:Int),((-20:Int),())))]
def hB:an:=([((1:Int),((1:Int),()))],([((1:Int),((1:Int),((1:Int),((50:Int),()))))],(hR,(hS,([(100:Int),(7:Int)],(dq,()))))))
def hO:cF:=((4:Int),((0:Int),((2:Int),((6:Int),()))))
theorem hW:qU hB:=⟨⟨δ,δ,δ,δ,δ,δ,BN (l:=hR) δ,BN (l:=hS) δ⟩,δ,δ⟩
namespace Pure
end Pure
end VM
end
section
namespace VM
open Go VM.F
variable(N:Nat)
def Ok{α:Type}(P:α→Prop)(o:Option α):Prop:= ∃r,o=some r∧P r
theorem aq{α:Type}{P:α→Prop}{r:α}(h:P r):Ok P (some r):=⟨r,rfl,h⟩
theorem ag{α β:Type}{P:β→Prop}{Q:α→Prop}{o:Option α}{f:α→Option β}(h:Ok Q o)(hf: ∀r,Q r→Ok P (f r)):Ok P (o.bind f):=by
 obtain⟨r,rfl,hr⟩:=h
 exact hf r hr
theorem Mz{α:Type}{P Q:α→Prop}{o:Option α}(h:Ok Q o)(hf: ∀r,Q r→P r):Ok P o:=by
 obtain⟨r,e,hr⟩:=h
 exact⟨r,e,hf r hr⟩
theorem ou{α:Type}{P:α→Prop}{o:Option α}{r:α}(h:o=some r)(hr:P r):Ok P o:=⟨r,h,hr⟩
theorem pd{α:Type}{P:α→Prop}{b:Bool}{x y:Option α}(hx:b=true→Ok P x)(hy:b=false→Ok P y):Ok P (cond b x y):=by
 cases b
 ·exact hy rfl
 ·exact hx rfl
theorem bF{α:Type}{P:α→Prop}{b:Bool}{x y:Option α}(hx:b=false→Ok P x)(hy:b=true→Ok P y):Ok P (cond (!b) x y):=by
 cases b
 ·exact hx rfl
 ·exact hy rfl
theorem ax{α:Type}{P:α→Prop}{a b:Int}{x y:Option α}(hx:a<b→Ok P x)(hy:b≤a→Ok P y):Ok P (cond (aX a b) x y):=by
 rw[cA]
 split
 ·exact hx (by assumption)
 ·exact hy ω
theorem eO{α:Type}{P:α→Prop}{a b:Int}{x y:Option α}(hx:a≤b→Ok P x)(hy:b<a→Ok P y):Ok P (cond (du a b) x y):=by
 rw[cB]
 split
 ·exact hx (by assumption)
 ·exact hy ω
theorem ok_eq{α:Type}{P:α→Prop}{a b:Int}{x y:Option α}(hx:a=b→Ok P x)(hy:a≠b→Ok P y):Ok P (cond (aN a b) x y):=by
 rw[aM]
 split
 ·exact hx (by assumption)
 ·exact hy (by assumption)
theorem bG{α:Type}{P:α→Prop}{a b:Int}{x y:Option α}(hx:a≠b→Ok P x)(hy:a=b→Ok P y):Ok P (cond (!aN a b) x y):=by
 rw[cond_not];exact ok_eq hy hx
theorem aB{α:Type}{P:α→Prop}{i:Int}{n:Nat}{x y:Option α}(h:0≤i∧i<(n:Int))(hx:Ok P x):Ok P (cond (bb i n) x y):=by
 rw[aW h.1 h.2];exact hx
theorem aD{α:Type}{P:α→Prop}{n:Nat}{x y:Option α}(h:n<68719476736)(hx:Ok P x):Ok P (cond (small n) x y):=by
 rw[bY h];exact hx
theorem ac3{α:Type}{P:α→Prop}{l c:Int}{x y:Option α}(h:0≤l∧l≤c∧c<68719476736)(hx:Ok P x):Ok P (cond (kU l c) x y):=by
 rw[c7 h.1 h.2.1 h.2.2];exact hx
theorem zT{α:Type}{P:α→Prop}{l h m n:Int}{x y:Option α}(hh:0≤l∧l≤h∧h≤m∧m≤n)(hx:Ok P x):Ok P (cond (ja l h m n) x y):=by
 rw[dZ hh.1 hh.2.1 hh.2.2.1 hh.2.2.2];exact hx
theorem ji{σ β:Type}{P:β→Prop}{F:Nat→Int→σ→Option β}{len:Nat}(I:Nat→σ→Prop)
  (hs: ∀n i s,i<len→I i s→(∀s',I (i+1) s'→Ok P (F n ((i+1:Nat):Int) s'))→Ok P (F (n+1) (i:Int) s)) (he: ∀n s,I len s→Ok P (F (n+1) (len:Int) s)):
  ∀m n i s,len-i≤m→m<n→i≤len→I i s→Ok P (F n (i:Int) s)
 |m,0,i,s,_,hn,_,_=>ω
 |m,n+1,i,s,hm,hn,hi,hI=>by
  by_cases h:i<len
  ·exact hs n i s h hI λs' zj=>ji I hs he (m-1) n (i+1) s' ω ω ω zj
  ·have:i=len:=ω
   subst this
   exact he n s hI
theorem br{σ β:Type}{P:β→Prop}{F:Nat→Int→σ→Option β}{len:Nat}(I:Nat→σ→Prop){N:Nat}{s:σ}(h0:I 0 s)(hN:len<N)
  (hs: ∀n i s,i<len→I i s→(∀s',I (i+1) s'→Ok P (F n ((i+1:Nat):Int) s'))→Ok P (F (n+1) (i:Int) s)) (he: ∀n s,I len s→Ok P (F (n+1) (len:Int) s)):Ok P (F N 0 s):=
 ji I hs he len N 0 s ω hN ω h0
theorem mY{β:Type}{P:β→Prop}{F:Nat→Int→Option β}{len N:Nat}(hN:len<N)
  (hs: ∀n i,i<len→Ok P (F n ((i+1:Nat):Int))→Ok P (F (n+1) (i:Int))) (he: ∀n,Ok P (F (n+1) (len:Int))):Ok P (F N 0):=
 br (σ:=Unit) (F:=λn i _=>F n i) (λ_ _=>True) (s:=()) trivial hN (λn i _ h _ hr=>hs n i h (hr () trivial)) λn _ _=>he n
theorem vV{σ β:Type}{P:β→Prop}{F:Nat→Int→σ→Option β}(I:Nat→σ→Prop)
  (hs: ∀n (k:Nat) s,I (k+1) s→(∀s',I k s'→Ok P (F n (k:Int) s'))→Ok P (F (n+1) ((k+1:Nat):Int) s)) (he: ∀n s,I 0 s→Ok P (F (n+1) 0 s)):
  ∀(k n:Nat) s,k<n→I k s→Ok P (F n (k:Int) s)
 |0,0,s,hn,_=>ω
 |0,n+1,s,hn,hI=>he n s hI
 |k+1,0,s,hn,_=>ω
 |k+1,n+1,s,hn,hI=>hs n k s hI λs' zj=>vV I hs he k n s' ω zj
def G(m:Nat):(τ:Ty)→τ.den→Prop
 | .int .i64,x=>aF x
 | .int .u64,x=>0≤x∧x<18446744073709551616
 | .slice e,l=>ℓ l≤m∧ ∀x∈(l:List e.den),G m e x
 | .pair a b,x=>G m a x.1∧G m b x.2
 |_,_=>True
theorem G.mono{m n:Nat}(h:m≤n): ∀{τ:Ty} {x:τ.den},G m τ x→G n τ x
 | .int k,x,hx=>by cases k<;>exact hx
 | .slice e,l,hl=>⟨ct hl.1 h,λx hx=>G.mono h (hl.2 x hx)⟩
 | .pair a b,x,hx=>⟨G.mono h hx.1,G.mono h hx.2⟩
 | .bool,_,_=>trivial
 | .str,_,_=>trivial
 | .unit,_,_=>trivial
 | .arr _ _,_,_=>trivial
theorem G.nil{m:Nat}{e:Ty}:G m (.slice e) ([]:List e.den):=⟨bz _,λx hx=>nomatch hx⟩
theorem G.app{m:Nat}{e:Ty}{l:List e.den}{x:e.den}(h:G m (.slice e) l)(hx:G m e x):G (m+1) (.slice e) (l++[x]):=
 ⟨by have:=h.1;rw[aS,aJ];omega,λy hy=>by
  rcases bk.1 hy with hy|hy
  ·exact G.mono ω (h.2 y hy)
  ·rw[cn.1 hy];exact G.mono ω hx⟩
theorem G.get{m:Nat}{e:Ty}{l:List e.den}{d:e.den}(h:G m (.slice e) l)(hd:G m e d)(k:Nat):G m e (l.getD k d):=by
 by_cases hk:k<l.length
 ·rw[aV,bm hk];exact h.2 _ (dJ hk)
 ·rw[aV,ig ω];exact hd
theorem G.zero(m:Nat): ∀τ:Ty,G m τ τ.zero
 | .int k=>by cases k<;>first|trivial|exact⟨δ,δ⟩
 | .slice _=>G.nil
 | .pair a b=>⟨G.zero m a,G.zero m b⟩
 | .bool=>trivial
 | .str=>trivial
 | .unit=>trivial
 | .arr _ _=>trivial
theorem G.at{m:Nat}{e:Ty}{l:List e.den}(h:G m (.slice e) l)(k:Nat):G m e (l.getD k e.zero):=h.get (G.zero m e) k
theorem G.set{m:Nat}{e:Ty}{l:List e.den}{x:e.den}(h:G m (.slice e) l)(hx:G m e x)(k:Nat):G m (.slice e) (l.set k x):=
 ⟨by rw[bP];exact h.1,λy hy=>by
  rcases uc hy with hy|rfl
  ·exact h.2 y hy
  ·exact hx⟩
theorem gB(x:Int):aF (W .i64 x):=by
 rw[gF];unfold aF;split<;>omega
def Bg(k:Nat)(z:aL):Prop:= ∃v,z=dA v∧Fit v k
theorem Bg.mono{j k:Nat}{z:aL}(h:Bg j z)(hk:j≤k):Bg k z:=by
 obtain⟨v,e,f⟩:=h
 exact⟨v,e,Fit.mono f hk⟩
theorem Bg.zero:Bg 1 (false,(([]:List Int),())):=⟨0,lT.symm,by unfold Fit;decide⟩
theorem bD(hN:4000000≤N){x:Int}(h:aF x):Ok (Bg 2) (eI N x):=ou (dP N ω h.1 h.2) ⟨x,rfl,Fit.i64 h.1 h.2⟩
theorem lW(hN:4000000≤N){k:Nat}(hk:k≤90000){u v:aL}(hu:Bg k u)(hv:Bg k v):Ok (Bg (k+1)) (nZ N u v):=by
 obtain⟨a,rfl,ha⟩:=hu
 obtain⟨b,rfl,hb⟩:=hv
 exact ou (kG N hN (Fit.mono ha ω) (Fit.mono hb ω)) ⟨_,rfl,Fit.add ha hb⟩
theorem yN(hN:4000000≤N){k:Nat}(hk:k≤90000){u v:aL}(hu:Bg k u)(hv:Bg k v):Ok (Bg (k+1)) (Bo N u v):=by
 obtain⟨a,rfl,ha⟩:=hu
 obtain⟨b,rfl,hb⟩:=hv
 exact ou (vv N hN (Fit.mono ha ω) (Fit.mono hb ω)) ⟨_,rfl,by rw[Int.sub_eq_add_neg];exact Fit.add ha (Fit.neg hb)⟩
theorem rA(hN:4000000≤N){k:Nat}(hk:k≤90000){u:aL}(hu:Bg k u):Ok (Bg k) (ES N u):=by
 obtain⟨a,rfl,ha⟩:=hu
 exact ou (oZ N hN (Fit.mono ha ω)) ⟨_,rfl,Fit.neg ha⟩
theorem BW(hN:4000000≤N){k:Nat}(hk:k≤90000){u:aL}(hu:Bg k u):Ok (Bg k) (Hg N u):=by
 obtain⟨a,rfl,ha⟩:=hu
 exact ou (OQ N hN (Fit.mono ha ω)) ⟨_,rfl,Fit.of_le ha ω⟩
theorem mL(hN:4000000≤N){j k:Nat}(hj:j≤90000)(hk:k≤90000){u v:aL}(hu:Bg j u)(hv:Bg k v):Ok (Bg (j+k)) (et N u v):=by
 obtain⟨a,rfl,ha⟩:=hu
 obtain⟨b,rfl,hb⟩:=hv
 exact ou (Br N hN (Fit.mono ha hj) (Fit.mono hb hk)) ⟨_,rfl,Fit.mul ha hb⟩
theorem FI{k:Nat}{u:aL}(hu:Bg k u):Ok (λ_=>True) (T4 N u):=by
 obtain⟨a,rfl,ha⟩:=hu
 exact ou (qO N a) trivial
theorem qu(hN:4000000≤N){j k:Nat}(hj:j≤90000)(hk:k≤90000){u v:aL}(hu:Bg j u)(hv:Bg k v):Ok (λ_=>True) (y8 N u v):=by
 obtain⟨a,rfl,ha⟩:=hu
 obtain⟨b,rfl,hb⟩:=hv
 exact ou (R6 N hN (Fit.mono ha ω) (Fit.mono hb ω)) trivial
theorem ZI(v:Int):aF (CG v).1:=by
 by_cases h:aF v
 ·rw[vG h];exact h
 ·rw[yI h];unfold aF;decide
theorem xT{k:Nat}{u:aL}(hu:Bg k u):Ok (λr=>aF r.1) (xB N u):=by
 obtain⟨a,rfl,ha⟩:=hu
 exact ou (tX N a) (ZI a)
abbrev L3(m:Nat)(l:au):Prop:=G m (.slice jZ) l
def kP(m:Nat)(p:bO):Prop:=p.length≤m∧ ∀y∈p,Bg 8 y.2.2.1
theorem kP.at{m:Nat}{p:bO}(h:kP m p)(i:Nat):Bg 8 (p.getD i ((0:Int),((0:Int),((false,qg),())))).2.2.1:=by
 by_cases hk:i<p.length
 ·rw[aV,bm hk];exact h.2 _ (dJ hk)
 ·rw[aV,ig ω];exact Bg.mono Bg.zero δ
theorem kP.nil{m:Nat}:kP m []:=⟨bz _,λx hx=>nomatch hx⟩
theorem kP.app{m n:Nat}{p q:bO}(h:kP m p)(h':kP n q):kP (m+n) (p++q):=
 ⟨by have:=h.1;have:=h'.1;rw[aS];omega,λy hy=>(bk.1 hy).elim (h.2 y) (h'.2 y)⟩
theorem kP.mono{m n:Nat}{p:bO}(h:kP m p)(hm:m≤n):kP n p:=⟨ct h.1 hm,h.2⟩
theorem Es{k:Nat}{u:aL}(hu:Bg k u):Ok (λr=>aF r.1) (Sl N u):=by
 unfold Sl
 refine ag (xT N hu) λr h=>bF (λ_=>aq (by unfold aF;decide)) λ_=>ok_eq (λ_=>aq (by unfold aF;decide)) λ_=>aq h
theorem jE{x:Int}(h0: -1000000≤x)(h1:x≤1000000):aF x:=by unfold aF;omega
theorem G3{m:Nat}{a b c:Int}(ha:aF a)(hb:aF b)(hc:aF c):G m jZ (a,(b,(c,()))):=⟨ha,hb,hc,trivial⟩
theorem bU:aF 0:=by unfold aF;decide
theorem Wt(hN:4000000≤N){x k n:Int}{p:bO}(hx:aF x)(hp:kP 50000 p):Ok (λr=>aF r.1) (oq N x k n p):=by
 have hl:=hp.1
 refine br (len:=p.length) (F:=λn' i (s:aL×Bool)=>oq.l3 N n' x k n p s.1 s.2 i) (s:=(_,_)) (λi s=>Bg (8+i) s.1) (Bg.mono Bg.zero ω) ω (λn' i s hi hI hr=> ?_) (λn' s hI=> ?_)
 all_goals unfold oq.l3 oq.nr
 ·rw[aw (x:=(i:Int)+1) ω ω,af i]
  have h1:=hr (s.1,s.2) (Bg.mono hI ω)
  repeat' first|exact h1|refine aB ⟨ω,ω⟩ ?_|refine ax (λ_=> ?_) (λ_=> ?_)|refine ok_eq (λ_=> ?_) (λ_=> ?_)|(exfalso;omega)|exact ag (lW N hN ω hI (Bg.mono (hp.at _) ω)) λr h=>hr (r,true) h
 ·refine ax (λ_=>ω) λ_=>bF (λ_=>aq hx) λ_=>ag (bD N hN hx) λr h=>ag (lW N hN ω hI (Bg.mono h ω)) λr h=>ag (xT N h) λr h=>aq h
theorem ac4(hN:4000000≤N){l:au}{p:bO}{m:Nat}(hm:m≤50000)(hl:L3 m l)(hp:kP 50000 p):Ok (λr=>L3 200 r.1) (dN N l p):=by
 have I7:=hl.1
 refine ji (len:=8) (F:=λn k (s:au×Int)=>dN.l4 N n l p s.1 s.2 k) (λi s=>L3 (25*i) s.1∧0≤s.2) (λn i s hi hI hr=> ?_) (λn s hI=> ?_) 8 N 1 (_,_) ω ω ω ⟨G.nil,fW 0⟩
 all_goals unfold dN.l4 dN.dQ
 ·refine eO (λ_=> ?_) (λ_=>ω)
  refine br (len:=25) (F:=λn' j (s:au×Int)=>dN.l7 N (dN.l4 N n) n' l p s.1 s.2 (i:Int) j) (s:=s) (λj s=>L3 (25*i+j) s.1∧0≤s.2) hI ω (λn' j s hj hI eQ=> ?_) (λn' s hI=> ?_)
  all_goals unfold dN.l7 dN.oJ
  ·have kC: ∀(k x:Int),0≤k→aF x→Ok (λr=>L3 200 r.1) (dN.Uk N (dN.l4 N n) (dN.l7 N (dN.l4 N n) n') l p s.1 k (i:Int) (j:Int) x):=λk x hk hx=>by
    unfold dN.Uk dN.Mg
    rw[aw (x:=(j:Int)+1) ω ω,af j]
    have hs:=hI.1.1
    refine ag (Wt N hN hx hp) λr h=>bF (λ_=>aq G.nil) λ_=>bG (λ_=>aD (by rw[aJ];omega) (eQ (_,k) ⟨G.app hI.1 (G3 (jE ω ω) (jE ω ω) h),hk⟩)) λ_=>eQ (s.1,k) ⟨G.mono ω hI.1,hk⟩
   have h0:=kC s.2 0 hI.2 bU
   have VL:=hI.2
   repeat' first|exact h0|refine aB ⟨ω,ω⟩ ?_|refine ax (λ_=> ?_) (λ_=> ?_)|refine eO (λ_=> ?_) (λ_=> ?_)|refine ok_eq (λ_=> ?_) (λ_=> ?_)|(exfalso;omega)|exact kC _ _ (by rw[aw (x:=s.2+1) ω ω];omega) (G.at hl _).2.2.1
  ·rw[aw (x:=(i:Int)+1) ω ω,af i]
   exact eO (λ_=>ω) λ_=>hr s ⟨G.mono ω hI.1,hI.2⟩
 ·exact eO (λ_=>ω) λ_=>aq (G.mono δ hI.1)
theorem SH(hN:4000000≤N){l t:au}{m:Nat}(hm:m≤50000)(hl:L3 m l)(ht:L3 50000 t):Ok (λr=>L3 200 r.1) (cM N l t):=by
 have I7:=hl.1
 have htl:=ht.1
 refine br (len:=25) (F:=λn k (s:au×Int)=>cM.l4 N n l t s.1 s.2 k) (s:=(_,_)) (λi s=>L3 (6*i) s.1∧0≤s.2) ⟨G.nil,fW 0⟩ ω (λn i s hi hI hr=> ?_) (λn s hI=> ?_)
 all_goals unfold cM.l4 cM.dQ
 ·refine eO (λ_=> ?_) (λ_=>ω)
  refine br (len:=6) (F:=λn' j (s:au×Int)=>cM.l7 N (cM.l4 N n) n' l t s.1 s.2 (i:Int) j) (s:=s) (λj s=>L3 (6*i+j) s.1∧0≤s.2) hI ω (λn' j s hj hI eQ=> ?_) (λn' s hI=> ?_)
  all_goals unfold cM.l7 cM.oJ
  ·have kC: ∀(k x:Int),0≤k→aF x→Ok (λr=>L3 200 r.1) (cM.Uk N (cM.l4 N n) (cM.l7 N (cM.l4 N n) n') l t s.1 k (i:Int) (j:Int) x false):=λk x hk hx=>by
    unfold cM.Uk cM.Mg
    have hs:=hI.1.1
    have A4: ∀y:Int,aF y→Ok (λr=>L3 200 r.1) (cond (!aN y 0) (cond (small (s.1.length+[(((i:Int),((j:Int),(y,()))):dd)].length)) (cM.l7 N (cM.l4 N n) n' l t (s.1++[((i:Int),((j:Int),(y,())))]) k (i:Int) (W .i64 ((j:Int)+1))) none) (cM.l7 N (cM.l4 N n) n' l t s.1 k (i:Int) (W .i64 ((j:Int)+1)))):=λy hy=>by
     rw[aw (x:=(j:Int)+1) ω ω,af j]
     exact bG (λ_=>aD (by rw[aJ];omega) (eQ (_,k) ⟨G.app hI.1 (G3 (jE ω ω) (jE ω ω) hy),hk⟩)) λ_=>eQ (s.1,k) ⟨G.mono ω hI.1,hk⟩
    refine br (len:=t.length) (F:=λKZ u (z:aL×Bool)=>cM.Kx N (cM.l4 N n) (cM.l7 N (cM.l4 N n) n') KZ l t s.1 k (i:Int) (j:Int) x z.2 z.1 u) (s:=(_,_)) (λu z=>Bg (3+u) z.1) (Bg.mono Bg.zero ω) ω (λKZ u z hu hz ZJ=> ?_) (λKZ z hz=> ?_)
    all_goals unfold cM.Kx cM.JJ
    ·rw[aw (x:=(u:Int)+1) ω ω,af u]
     have h1:=ZJ (z.1,z.2) (Bg.mono hz ω)
     repeat' first|exact h1|refine aB ⟨ω,ω⟩ ?_|refine ax (λ_=> ?_) (λ_=> ?_)|refine ok_eq (λ_=> ?_) (λ_=> ?_)|(exfalso;omega)|exact ag (bD N hN (G.at ht _).2.2.1) λr h=>ag (lW N hN ω hz (Bg.mono h ω)) λr h=>ZJ (r,true) h
    ·exact ax (λ_=>ω) λ_=>pd (λ_=>ag (bD N hN hx) λr h=>ag (lW N hN ω hz (Bg.mono h ω)) λr h=>ag (Es N h) λr h=>bF (λ_=>aq G.nil) λ_=>A4 _ h) λ_=>A4 _ hx
   have h0:=kC s.2 0 hI.2 bU
   have VL:=hI.2
   repeat' first|exact h0|refine aB ⟨ω,ω⟩ ?_|refine ax (λ_=> ?_) (λ_=> ?_)|refine eO (λ_=> ?_) (λ_=> ?_)|refine ok_eq (λ_=> ?_) (λ_=> ?_)|(exfalso;omega)|exact kC _ _ (by rw[aw (x:=s.2+1) ω ω];omega) (G.at hl _).2.2.1
  ·rw[aw (x:=(i:Int)+1) ω ω,af i]
   exact ax (λ_=>ω) λ_=>hr s ⟨G.mono ω hI.1,hI.2⟩
 ·exact eO (λ_=>ω) λ_=>aq (G.mono δ hI.1)
theorem G.jF{m:Nat}:G m aK (cc,(cT,(bq,(bq,(db,(dq,())))))):=G.zero m aK
theorem tK(hN:4000000≤N){b:an}{s:au}{p:bO}{m:Nat}(h2:200≤m)(hm:m≤50000)(hb:G m aK b)(hs:L3 50000 s)(hp:kP 50000 p):Ok (λr=>G m aK r.1) (y9 N b s p):=by
 unfold y9
 exact ag (SH N hN hm hb.2.2.2.1 hs) λr h=>bF (λ_=>aq G.jF) λ_=>ag (ac4 N hN hm hb.2.2.1 hp) λr' h'=>bF (λ_=>aq G.jF) λ_=>aq ⟨hb.1,hb.2.1,G.mono h2 h',G.mono h2 h,hb.2.2.2.2⟩
theorem bK{α β:Type}{P:β→Prop}{o:Option α}{r:α}{f:α→Option β}(h:o=some r)(hf:Ok P (f r)):Ok P (o.bind f):=by rw[h];exact hf
theorem G.wf{m:Nat}(hm:m≤50000){b:an}(h:G m aK b):qU b:=by
 obtain⟨h1,h2,h3,h4,h5,h6,_⟩:=h
 exact⟨⟨ct h1.1 ω,ct h2.1 ω,ct h3.1 ω,ct h4.1 ω,ct h5.1 ω,ct h6.1 ω,λx hx=>(h3.2 x hx).2.2.1,λx hx=>(h4.2 x hx).2.2.1⟩,ct h3.1 ω,ct h4.1 ω⟩
theorem ed(hN:5000000≤N){c:ae}{b:an}{m:Nat}(hm:m≤50000)(h:G m aK b):gH N c b=some (dg c b):=Hr N hN (G.wf hm h).w
theorem ac5{x:Int}(h:dj x):aF x:=by unfold dj at h;unfold aF;omega
theorem JN(hN:4000000≤N)(t:ir)(p:Int):Ok (λr=>kP 2 r.1) (Ph N t p):=by
 unfold Ph
 refine bK (uN N t) (bF (λ_=>aq kP.nil) λht=>bK (jz N p) (bF (λ_=>aq kP.nil) λ_=>ag (bD N hN (gB _)) λa ha=>ag (bD N hN ?_) λq hq=>ag (mL N hN ω ω ha hq) λx hx=>ag (FI N hx) λ_ _=>ok_eq (λ_=>aq kP.nil) λ_=> ?_))
 ·have:=bt ht
  unfold cO kd at this
  exact gO δ this.2.2.2.2.1.1 |> λh=>⟨h,Av this.2.2.2.2.1.2 δ⟩
 ·unfold Mm
  have hr: ∀a:Int,Ok (λ_=>True) (cond (aN a 0) (some ((2:Int),(0:Int))) (some ((5:Int),a))):=λa=>ok_eq (λ_=>aq trivial) λ_=>aq trivial
  refine ag (hr _) λ_ _=>ag (hr _) λ_ _=>ag (rA N hN ω hx) λy hy=>aq ⟨aH 2,λz hz=> ?_⟩
  rcases a8.1 hz with rfl|hz
  ·exact Bg.mono hx ω
  ·rw[cn.1 hz];exact Bg.mono hy ω
theorem PG(hN:200000≤N){b:an}{m:Nat}(hm:m≤50000)(h:G m aK b)(id:Int):Ok (λ_=>True) (F48 N b id):=ou (pT N b (G.wf hm h).w.a hN id) trivial
theorem CV(hN:5000000≤N)(c:ae){b:an}{l:bf}{m:Nat}(h2:200≤m)(hm:m≤50000)(hb:G m aK b):Ok (λr=>G m aK r.1) (nK N c b l):=by
 unfold nK nK.b
 refine bK (ed N hN hm hb) (bF (λ_=>aq G.jF) λhB=>ax (λ_=>aq G.jF) λhl=> ?_)
 obtain⟨hp,_⟩:=fD hB
 refine br (len:=l.length) (F:=λn i (_:Unit)=>nK.l4 N n l c b (cc,(cT,(bq,(bq,(db,(dq,())))))) i) (s:=()) (λi _=> ∀j,j<i→cO (l.getD j eG)) (λj hj=>ω) ω (λn i _ hi hI hr=> ?_) (λn _ hI=> ?_)
 all_goals unfold nK.l4 nK.dQ
 ·rw[aw (x:=(i:Int)+1) ω ω,af i]
  refine ax (λ_=>aB ⟨ω,ω⟩ (bK (uN N _) (bF (λ_=>aq G.jF) λht=>hr () λj hj=> ?_))) λ_=>ω
  by_cases e:j=i
  ·rw[e];exact bt ht
  ·exact hI j ω
 ·refine ax (λ_=>ω) λ_=> ?_
  refine br (len:=l.length) (F:=λn i (s:au×bO)=>nK.zW N n l c b (cc,(cT,(bq,(bq,(db,(dq,())))))) s.1 s.2 i) (s:=(_,_)) (λi s=>L3 (2*i) s.1∧kP (2*i) s.2) ⟨G.nil,kP.nil⟩ ω (λn i s hi hJ hr=> ?_) (λn s hJ=> ?_)
  all_goals unfold nK.zW nK.xK
  ·have ht:=hI i hi
   unfold cO kd at ht
   have Nh:=hJ.1.1
   have VL:=hJ.2.1
   have g64: ∀x:Int,0≤x∧x≤1000000→aF x:=λx h=>jE ω ω
   dsimp only
   rw[aw (x:=(i:Int)+1) ω ω,af i,aI]
   refine ax (λ_=>aB ⟨ω,ω⟩ (ag (PG N ω hm hb _) λ_ _=>bF (λ_=>aq G.jF) λ_=>ag (PG N ω hm hb _) λ_ _=>bF (λ_=>aq G.jF) λ_=>eO (λ_=>aq G.jF) λeT=>aD ?_ (aB ⟨ht.2.2.2.1.1,ω⟩ (ag (JN N ω _ _) λr h=>aD ?_ (hr (_,_) ⟨?_,kP.mono (kP.app hJ.2 h) ω⟩))))) λ_=>ω
   ·rw[aT,aJ];omega
   ·have:=h.1;omega
   ·have hq:aF (l.getD i eG).2.2.2.1:=⟨gO δ ht.2.2.2.2.1.1,Av ht.2.2.2.2.1.2 δ⟩
    have nV:aF (l.getD i eG).2.2.1:=g64 _ ⟨ht.2.2.2.1.1,gO (Int.le_of_lt ht.2.2.2.1.2) δ⟩
    have h1:=G.app (G.app hJ.1 (G3 (g64 _ ⟨ht.1.1,gO ht.1.2 δ⟩) nV hq)) (G3 (g64 _ ⟨ht.2.1.1,gO ht.2.1.2 δ⟩) nV (gB (0-(l.getD i eG).2.2.2.1)))
    rw[bE]at h1
    exact G.mono ω h1
  ·exact ax (λ_=>ω) λ_=>ag (tK N ω h2 hm hb (G.mono ω hJ.1) (kP.mono hJ.2 ω)) λr h=>aq h
def JO(k:Nat)(l:p6):Prop:= ∀x∈l,Bg k x
theorem JO.mono{j k:Nat}{l:p6}(h:JO j l)(hk:j≤k):JO k l:=λx hx=>Bg.mono (h x hx) hk
theorem JO.at{k:Nat}{l:p6}(h:JO k l)(h1:1≤k)(i:Nat):Bg k (l.getD i (false,qg)):=by
 by_cases hk:i<l.length
 ·rw[aV,bm hk];exact h _ (dJ hk)
 ·rw[aV,ig ω];exact Bg.mono Bg.zero h1
theorem JO.set{k:Nat}{l:p6}{x:aL}(h:JO k l)(hx:Bg k x)(i:Nat):JO k (l.set i x):=λy hy=>by
 rcases uc hy with hy|rfl
 ·exact h y hy
 ·exact hx
theorem JO.rep{k n:Nat}(h:1≤k):JO k (List.replicate n (false,qg)):=λx hx=>by
 rw[(List.mem_replicate.1 hx).2];exact Bg.mono Bg.zero h
theorem ac6(hN:5000000≤N)(c:ae){b:an}{m:Nat}(hm:m≤50000)(hb:G m aK b):Ok (λr=>(r.2=0→dg c b=true∧r.1.length=4)∧JO 20 r.1) (sB N c b):=by
 unfold sB sB.b
 have w:=(G.wf hm hb).w
 refine bK (ed N hN hm hb) (bF (λ_=>aq ⟨λh=>absurd h δ,λx hx=>nomatch hx⟩) λhB=>ac3 ⟨ω,ω,ω⟩ ?_)
 obtain⟨hp,Jr⟩:=fD hB
 obtain⟨h6,hbk⟩:=tD (vN hB)
 refine br (len:=c.1.length) (F:=λn i (s:p6)=>sB.l5 N n c b s i) (λi s=>s.length=4∧JO (8+i) s) ⟨c4 ..,JO.rep ω⟩ ω (λn i s hi hI hr=> ?_) (λn s hI=> ?_)
 all_goals unfold sB.l5 sB.eo
 ·have hk:=hbk i hi
  have hl:=hI.1
  rw[aw (x:=(i:Int)+1) ω ω,af i,aI]
  have in1: ∀{x y:Option (p6×Int)},Ok (λr=>(r.2=0→dg c b=true∧r.1.length=4)∧JO 20 r.1) x→Ok (λr=>(r.2=0→dg c b=true∧r.1.length=4)∧JO 20 r.1) (cond (bb (c.1.getD i ba).1 s.length) x y):=λh=>aB ⟨hk.1,Av hk.2 (show(3:Int)<(s.length:Int)by omega)⟩ h
  exact ax (λ_=>aB ⟨ω,ω⟩ (in1 (bK (FF N w.s ω 0 (i:Int)) (ag (bD N ω (Zp w.qs 0 (i:Int))) λa ha=>aB ⟨ω,ω⟩ (ag (bD N ω (ac5 (ss Jr ω))) λp hp=>ag (mL N ω ω ω ha hp) λx hx=>ag (lW N ω ω (JO.at hI.2 ω _) (Bg.mono hx ω)) λy hy=>in1 (hr _ ⟨by rw[bP];exact hl,JO.set (JO.mono hI.2 ω) hy _⟩)))))) λ_=>ω
 ·exact ax (λ_=>ω) λ_=>aq ⟨λ_=>⟨hB,hI.1⟩,JO.mono hI.2 ω⟩
theorem ap8{v:Int}(h:(CG v).2=true):(CG v).1=v:=by
 by_cases h':aF v
 ·rw[vG h']
 ·rw[yI h']at h;exact nomatch h
def JP(c:ae)(x:cF):Prop:=((λi n:Int=>0≤i∧i<n) x.2.1 c.1.length)∧qIn x.2.2.2.1
theorem K0(hN:5000000≤N)(c:ae)(hc:aF (ap3 c)){b:an}{m:Nat}(hm:m≤50000)(hb:G m aK b)(next:Int):Ok (λr=>G 4 (.slice fc) r.1∧ ∀x∈r.1,JP c x) (jH N c b next):=by
 unfold jH jH.b
 refine ag (ac6 N hN c hm hb) λz hz=>bG (λ_=>aq ⟨G.nil,λx hx=>nomatch hx⟩) λh0=>ax (λ_=>aq ⟨G.nil,λx hx=>nomatch hx⟩) λh1=>ax (λ_=>aq ⟨G.nil,λx hx=>nomatch hx⟩) λh2=> ?_
 obtain⟨hB,hl4⟩:=hz.1 h0
 obtain⟨hp,Jr⟩:=fD hB
 obtain⟨h6,hbk⟩:=tD (vN hB)
 refine br (len:=4) (F:=λn k (s:Int×aO)=>jH.l6 N n s.1 c b z.1 s.2 k) (s:=(_,_)) (λk s=>(G k (.slice fc) s.2∧ ∀x∈s.2,JP c x)∧next≤s.1∧s.1≤next+k) ⟨⟨G.nil,λx hx=>nomatch hx⟩,ω,ω⟩ ω (λn k s hk hI hr=> ?_) (λn s hI=> ?_)
 all_goals unfold jH.l6 jH.vu
 ·have Nh:=hI.1.1.1
  have VL:=hI.2
  rw[aw (x:=(k:Int)+1) ω ω,af k]
  have tq:=hr s ⟨⟨G.mono ω hI.1.1,hI.1.2⟩,ω,ω⟩
  obtain⟨a,ea,ha⟩:=JO.at hz.2 ω k
  have ha':Fit (a.natAbs:Int) 20:=Fit.of_le ha ω
  refine ax (λ_=>bK (Sw N ω c ω (k:Int)) (aB ⟨ω,ω⟩ (bK (by rw[aI,ea];exact OQ N ω (ha.mono ω)) (ok_eq (λ_=>tq) λko=>ag (bD N ω hc) λv hv=>ag (qu N ω ω ω ⟨_,rfl,ha'⟩ hv) λ_ _=>eO (λ_=>tq) λ_=> ?_)))) λ_=>ω
  have ap9:jC c (k:Int)≠[]:=λe=>ko (by rw[e];rfl)
  have hh:0≤(jC c (k:Int)).getD 0 0∧(jC c (k:Int)).getD 0 0<(c.1.length:Int):=by
   have h1:=ap9
   unfold jC at h1 ⊢
   rw[vN hB,aj rfl]at h1 ⊢
   have:=Eo h1
   omega
  have hl0:0<(jC c (k:Int)).length:=pD.2 ap9
  have hpx:=ss Jr (i:=((jC c (k:Int)).getD 0 0).toNat) ω
  have hj: ∀q:Int,0≤q∧q≤1000000000→Ok (λr=>G 4 (.slice fc) r.1∧ ∀x∈r.1,JP c x) (jH.Da N (jH.l6 N n) s.1 c b z.1 s.2 (k:Int) (jC c (k:Int)) q):=λq hq=>by
   have avW:aF q:=by unfold aF;omega
   unfold jH.Da jH.wI
   rw[aw (x:=(k:Int)+1) ω ω,af k,aw (x:=s.1+1) ω ω]
   have A4:q≠0→ ∀d:Int,aF d→Ok (λr=>G 4 (.slice fc) r.1∧ ∀x∈r.1,JP c x) (cond (small (s.2.length+[((s.1,((jC c (k:Int)).getD 0 0,(d,(q,())))):cF)].length)) (jH.l6 N n (s.1+1) c b z.1 (s.2++[(s.1,((jC c (k:Int)).getD 0 0,(d,(q,()))))]) ((k+1:Nat):Int)) none):=λwC d hd=>
    aD (by rw[aJ];omega) (hr (_,_) ⟨⟨G.app hI.1.1 ⟨by show aF s.1;unfold aF;omega,(show aF ((jC c (k:Int)).getD 0 0)from jE ω ω),hd,avW,trivial⟩,λx hx=>by
     rcases bk.1 hx with hx|hx
     ·exact hI.1.2 x hx
     ·rw[List.mem_singleton.1 hx];exact⟨hh,show 1≤q∧q≤1000000000 by omega⟩⟩,by dsimp only;omega,by dsimp only;omega⟩)
   exact ok_eq (λ_=>tq) λwC=>aB ⟨ω,ω⟩ (aB ⟨ω,ω⟩ (ag (FI N (JO.at hz.2 ω _)) λ_ _=>ax (λ_=>A4 wC 2 (jE ω ω)) λ_=>A4 wC 1 (jE ω ω)))
  refine aB ⟨ω,ω⟩ (aB ⟨hh.1,by show(jC c (k:Int)).getD 0 0<_;omega⟩ ?_)
  have avX:=hpx
  unfold dj at avX
  rw[show(0:Int).toNat=0 from rfl]
  refine bK (dP N ω ω ω) (bK (T8 N hN ω (Fit.mono ha' ω) ((Fit.i64 ω ω).mono ω)) (bK (tX N _) (bF (λ_=>hj _ δ) λht=>ax (λ_=>hj _ δ) λhle=>hj _ ?_)))
  rw[ap8 ht]at hle ⊢
  exact⟨uh ω ω,hle⟩
 ·exact ax (λ_=>ω) λ_=>aq hI.1
theorem Wu(hN:5000000≤N)(c:ae)(hc:aF (ap3 c)){b:an}{m:Nat}(hm:m≤50000)(hb:G m aK b)(next:Int):Ok (λr=>G 4 (.slice fc) r.1) (jH N c b next):=Mz (K0 N hN c hc hm hb next) λ_ h=>h.1
theorem H9(hN:200000≤N){l:aY}(hl:l.length≤100000)(a:Int):Ok (λr=>L3 6 r) (iL N l a):=by
 unfold iL iL.b
 refine br (len:=6) (F:=λn k (s:au)=>iL.l3 N n l a s k) (λk s=>L3 k s) G.nil ω (λn k s hk hI hr=> ?_) (λn s hI=> ?_)
 all_goals unfold iL.l3 iL.nr
 ·have hs:=hI.1
  refine ax (λ_=> ?_) λ_=>ω
  refine br (len:=l.length) (F:=λn' i (x:dd)=>iL.l7 N (iL.l3 N n) n' l a s (k:Int) x i) (λi x=>G 6 jZ x) (G3 (jE ω ω) bU bU) ω (λn' i x hi hx eQ=> ?_) (λn' x hx=> ?_)
  all_goals unfold iL.l7 iL.oJ
  ·rw[aw (x:=(i:Int)+1) ω ω,af i]
   have h1:=eQ x hx
   repeat' first|exact h1|refine aB ⟨ω,ω⟩ ?_|refine ax (λ_=> ?_) (λ_=> ?_)|refine bG (λ_=> ?_) (λ_=> ?_)|refine ok_eq (λ_=> ?_) (λ_=> ?_)|(exfalso;omega)|exact eQ (_,(_,(_,_))) ⟨hx.1,gB _,hx.2.2.1,trivial⟩|exact eQ (_,(_,(_,_))) ⟨hx.1,hx.2.1,gB _,trivial⟩
  ·rw[aw (x:=(k:Int)+1) ω ω,af k]
   have h1:=hr s (G.mono ω hI)
   have h2:=hr (s++[x]) ⟨by rw[aS,aJ];omega,λy hy=>by
    rcases bk.1 hy with hy|hy
    ·exact G.mono ω (hI.2 y hy)
    ·rw[cn.1 hy];exact⟨hx.1,hx.2.1,hx.2.2.1,trivial⟩⟩
   repeat' first|exact h1|exact h2|refine aD (by rw[aJ];omega) ?_|refine ax (λ_=> ?_) (λ_=> ?_)|(exfalso;omega)
 ·exact ax (λ_=>ω) λ_=>aq hI
theorem K1(hN:200000≤N)(c:ae){l:au}(hl:l.length≤100000):Ok (λ_=>True) (qY N c l):=by
 unfold qY qY.b
 refine bK (oa N ω c) (bF (λ_=>aq trivial) λ_=>mY (len:=l.length) (F:=λn i=>qY.l5 N n l c 33000000000 i) ω (λn i hi hr=> ?_) λn=> ?_)
 all_goals unfold qY.l5 qY.eo
 ·rw[aw (x:=(i:Int)+1) ω ω,af i]
  dsimp only
  repeat' first|exact hr|exact aq trivial|refine aB ⟨ω,ω⟩ ?_|refine aB (by rw[aw (x:=(i:Int)-1) ω ω];omega) ?_|refine ax (λ_=> ?_) (λ_=> ?_)|refine eO (λ_=> ?_) (λ_=> ?_)|refine ok_eq (λ_=> ?_) (λ_=> ?_)|(exfalso;omega)
 ·exact ax (λ_=>ω) λ_=>aq trivial
theorem MA{k:Nat}(h:1≤k):Bg k (false,(([]:List Int),())):=Bg.mono Bg.zero h
theorem ZK(hN:4000000≤N)(c:ae){l:aE}{o:au}{m:Nat}(hm:m≤50000)(hl:G m (.slice kN) l)(ho:L3 m o)(k:Int):Ok (λr=>Bg 3 r.1) (jU N c l o k):=by
 have h1:=hl.1
 have h2:=ho.1
 unfold jU jU.b
 refine bK (BD N ω c ω) (bF (λ_=>aq (MA ω)) λ_=>ag (K1 N ω c ω) λ_ _=>bF (λ_=>aq (MA ω)) λ_=>ax (λ_=>aq (MA ω)) λ_=>eO (λ_=>aq (MA ω)) λ_=> ?_)
 refine br (len:=l.length) (F:=λn i (q:aL)=>jU.l7 N n l o k (false,(([]:List Int),())) q (false,(([]:List Int),())) (false,(([]:List Int),())) i) (λ_ q=>Bg 2 q) (MA ω) ω (λn i q hi hq hr=> ?_) (λn q hq=> ?_)
 all_goals unfold jU.l7 jU.oJ
 ·rw[aw (x:=(i:Int)+1) ω ω,af i]
  exact ax (λ_=>aB ⟨ω,ω⟩ (ok_eq (λ_=>aB ⟨ω,ω⟩ (ag (bD N hN (G.at hl _).2.1) λr h=>hr r h)) λ_=>hr q hq)) λ_=>ω
 ·refine ax (λ_=>ω) λ_=> ?_
  refine br (len:=o.length) (F:=λn i (z:aL×aL)=>jU.oH N n o k (false,(([]:List Int),())) q z.1 z.2 i) (s:=(_,_)) (λ_ z=>Bg 2 z.1∧Bg 2 z.2) ⟨MA ω,MA ω⟩ ω (λn i z hi hz hr=> ?_) (λn z hz=> ?_)
  all_goals unfold jU.oH jU.nD
  ·rw[aw (x:=(i:Int)+1) ω ω,af i]
   exact ax (λ_=>aB ⟨ω,ω⟩ (ok_eq (λ_=>aB ⟨ω,ω⟩ (ag (bD N hN (G.at ho _).2.1) λr h=>aB ⟨ω,ω⟩ (ag (bD N hN (G.at ho _).2.2.1) λr' h'=>hr (r,r') ⟨h,h'⟩))) λ_=>hr z hz)) λ_=>ω
  ·exact ax (λ_=>ω) λ_=>ag (lW N hN ω hq hz.1) λx hx=>ag (BW N hN ω hx) λx hx=>ag (yN N hN ω hq hz.2) λy hy=>ag (BW N hN ω hy) λy hy=>ag (qu N hN ω ω hy hx) λ_ _=>ax (λ_=>aq hy) λ_=>aq hx
theorem PH(hN:4000000≤N){c:ae}{l:aE}{o:au}{m:Nat}(hm:m≤50000)(hc:G m aA c)(hl:G m (.slice kN) l)(ho:L3 m o):Ok (λr=>Bg 60000 r.1) (qZ N c l o):=by
 have h1:=hl.1
 have h2:=ho.1
 have h3:=hc.1.1
 unfold qZ qZ.b
 refine bK (BD N ω c ω) (bF (λ_=>aq (MA ω)) λ_=>ag (K1 N ω c ω) λ_ _=>bF (λ_=>aq (MA ω)) λ_=> ?_)
 refine br (len:=c.1.length) (F:=λn i (t:aL)=>qZ.l5 N n l o c (false,(([]:List Int),())) t i) (λi t=>Bg (8+i) t) (MA ω) ω (λn i t hi ht hr=> ?_) (λn t ht=> ?_)
 all_goals unfold qZ.l5 qZ.eo
 ·rw[aw (x:=(i:Int)+1) ω ω,af i]
  exact ax (λ_=>ag (ZK N hN c hm hl ho _) λx hx=>aB ⟨ω,ω⟩ (ag (bD N hN (G.at hc.1 _).2.2.1) λr h=>ag (mL N hN ω ω hx h) λy hy=>ag (lW N hN ω ht (Bg.mono hy ω)) λz hz=>hr z hz)) λ_=>ω
 ·exact ax (λ_=>ω) λ_=>aq (Bg.mono ht ω)
theorem aqa{m:Nat}{l:au}(h:L3 m l)(a:Int):G m (.slice kN) (posOf l a):=by
 refine⟨ct (KE a l) h.1,λy hy=> ?_⟩
 unfold posOf at hy
 split at hy
 ·obtain⟨x,hx,_,e⟩:=ng hy
  rw[e];exact⟨(h.2 x hx).2.1,(h.2 x hx).2.2.1,trivial⟩
 ·nomatch hy
theorem PI(hN:200000≤N){l:au}{m:Nat}(hm:m≤50000)(h:L3 m l)(a:Int):Ok (G m (.slice kN)) (mK N l a):=ou (Zn N (ct h.1 ω) hN a) (aqa h a)
theorem Ia(hN:4000000≤N){c:ae}{b:an}{l:aY}{m:Nat}(h2:200≤m)(hm:m≤40000)(hc:G m aA c)(hb:G m aK b)(hl:l.length≤1000)(a:Int):Ok (Bg 60000) (ZL N c b a l):=by
 have ho:=hb.2.2.2.2.2.1.1
 unfold ZL
 refine aD (by rw[cr];omega) ?_
 dsimp only
 rw[cN]
 exact aD ω (ag (PI N ω ω hb.2.2.2.1 a) λr h=>ag (H9 N ω (by rw[aS];omega) a) λo h'=>ag (PH N hN ω hc h (G.mono ω h')) λx hx=>aq hx)
theorem ac7(hN:4000000≤N){o:fZ}{m:Nat}(ho:G m nh o)(a:Int):Ok (λr=>Bg 4 r.1) (ac8 N o a):=by
 unfold ac8
 have hw: ∀x:Int,Ok (λr:aL×Int=>Bg 4 r.1) ((eI N o.2.2.2.2.1).bind λr5=>(eI N (W .i64 x)).bind λr6=>(et N r5 r6).bind λr7=>some (r7,(0:Int))):=λx=>
  ag (bD N hN ho.2.2.2.2.1) λr h=>ag (bD N hN (gB _)) λr' h'=>ag (mL N hN ω ω h h') λy hy=>aq hy
 exact bK (Bv N o) (bF (λ_=>aq (MA ω)) λ_=>bK (jz N a) (bF (λ_=>aq (MA ω)) λ_=>ok_eq (λ_=>ax (λ_=>aq (MA ω)) λ_=>hw _) λ_=>ax (λ_=>aq (MA ω)) λ_=>hw _))
theorem ak1{m:Nat}{a:aO}(h:G m (.slice fc) a)(id:Int):G m fc (eV a id).1:=by
 unfold eV
 split
 ·have: ∀l:aO,(∀x∈l,G m fc x)→G m fc (uG id l).1:=by
   intro l
   induction l with
   |nil=>intro _;exact G.zero m fc
   |cons x t ih=>
    intro hx
    rw[o4]
    split
    ·exact hx x (bs ..)
    ·exact ih λy hy=>hx y (aZ _ hy)
  exact this a h.2
 ·exact G.zero m fc
theorem yO(hN:200000≤N){a:aO}{m:Nat}(hm:m≤50000)(h:G m (.slice fc) a)(id:Int):Ok (λr=>G m fc r.1) (ET N a id):=ou (BA N (ct h.1 ω) hN id) (ak1 h id)
theorem pe(hN:200000≤N){a:aE}{m:Nat}(hm:m≤50000)(h:G m (.slice kN) a)(id:Int):Ok (λ_=>True) (Ub N a id):=ou (sf N (ct h.1 ω) hN id) trivial
theorem ni(hN:200000≤N){l:au}{m:Nat}(hm:m≤50000)(h:L3 m l)(a b:Int):Ok aF (uY N l a b):=ou (Mk N (ct h.1 ω) hN a b) (Zl (λx hx=>(h.2 x hx).2.2.1) a b)
theorem Ib(hN:200000≤N){a:aO}{m:Nat}(hm:m≤50000)(h:G m (.slice fc) a)(id:Int):Ok (λr=>G m fc r.1∧r=eV a id) (ET N a id):=by
 obtain⟨r,e,hr⟩:=yO N hN hm h id
 exact⟨r,e,hr,nR (e.symm.trans (BA N (ct h.1 ω) hN id))⟩
theorem BX(hN:5000000≤N){c:ae}{b:an}{o:fZ}{m:Nat}(h2:200≤m)(hm:m≤40000)(hc:G m aA c)(hb:G m aK b)(ho:G m nh o):Ok (λe=>e=0→qE o∧(eV b.2.1 o.2.1).2=true∧lI o.2.2.1 c.1.length) (ZM N c b o):=by
 have bad: ∀e:Int,e≠0→Ok (λe:Int=>e=0→qE o∧(eV b.2.1 o.2.1).2=true∧lI o.2.2.1 c.1.length) (some e):=λe h=>aq λh'=>absurd h' h
 have Cg:=hb.2.2.2.2.2.1.1
 unfold ZM
 refine bK (ed N hN ω hb) (bF (λ_=>bad _ δ) λhB=>bK (Bv N o) (bF (λ_=>bad _ δ) λXO=>ag (Ib N ω ω hb.2.1 _) λx ⟨hx,XR⟩=>bF (λ_=>bad _ δ) λhf=>ag (pe N ω ω hb.1 _) λ_ _=>bG (λ_=>bad _ δ) λ_=>eO (λ_=>bad _ δ) λhi=>aD (by rw[cr];omega) ?_))
 have hr:=bt XO
 unfold qE zQ at hr
 obtain⟨hp,_⟩:=fD hB
 dsimp only
 rw[cN]
 exact aD (by rw[aJ];omega) (ag (PI N ω ω hb.2.2.2.1 _) λr h=>ag (H9 N ω (by rw[aS,aJ];omega) _) λq h'=>ag (ZK N ω c ω h (G.mono ω h') _) λt ht=>ag (bD N ω hx.2.2.2.1) λv hv=>ag (qu N ω ω ω ht hv) λ_ _=>ax (λ_=>bad _ δ) λ_=>aB ⟨hr.2.2.1.1,by rw[hp];exact hi⟩ (ag (ac7 N ω ho _) λe he=>ag (ni N ω ω hb.2.2.1 _ _) λg hg=>ag (bD N ω hg) λy hy=>ag (yN N ω ω (Bg.mono hy ω) he) λz hz=>ag (Ia N ω h2 hm hc hb (by rw[aJ];omega) _) λu hu=>ag (qu N ω ω ω hz hu) λ_ _=>ax (λ_=>bad _ δ) λ_=>aq λ_=>⟨bt XO,by rw[←XR];exact hf,hi⟩))
theorem UD(hN:5000000≤N){c:ae}{b:an}{h:cF}{a q p:Int}{m:Nat}(h2:200≤m)(hm:m≤40000)(hc:G m aA c)(hb:G m aK b)(hh:G m fc h)(ha:aF a)(hq:aF q)(hp:aF p):Ok (λr=>G m aK r.1∧G m fc r.2.1) (qv N c b h a q p):=by
 have ho:G m nh (h.1,(a,(h.2.1,(W .i64 (3-h.2.2.1),(q,(p,())))))):=⟨hh.1,ha,hh.2.1,gB _,hq,hp,trivial⟩
 have eg: ∀e:Int,Ok (λr:an×cF×Int=>G m aK r.1∧G m fc r.2.1) (some ((cc,(cT,(bq,(bq,(db,(dq,())))))),(ba,e))):=λe=>aq ⟨G.jF,G.zero m fc⟩
 unfold qv qv.b
 have hj: ∀t:ir,Ok (λr=>G m aK r.1∧G m fc r.2.1) (qv.j14 N q c b h (cc,(cT,(bq,(bq,(db,(dq,())))))) ba t):=λt=>by
  unfold qv.j14 qv.ac9
  exact ag (CV N hN c h2 ω hb) λr hr=>bG (λ_=>eg _) λ_=>aq ⟨hr,hh.1,hh.2.1,hh.2.2.1,gB _,trivial⟩
 exact bK (ed N hN ω hb) (bF (λ_=>eg _) λ_=>bK (xS N h) (bF (λ_=>eg _) λ_=>ax (λ_=>eg _) λ_=>ax (λ_=>eg _) λ_=>ax (λ_=>eg _) λ_=>ax (λ_=>eg _) λ_=>ax (λ_=>eg _) λ_=>ax (λ_=>eg _) λ_=>ax (λ_=>eg _) λ_=>ag (BX N hN h2 hm hc hb ho) λe _=>bG (λ_=>eg _) λ_=>ok_eq (λ_=>hj _) λ_=>hj _))
def Dk(k:Nat)(d:aG):Prop:=(∀x∈(d.1:List Int),0≤x∧x<18446744073709551616)∧0≤(d.2.1:Int)∧(d.2.1:Int)≤k
theorem Dk.mono{j k:Nat}{d:aG}(h:Dk j d)(hk:j≤k):Dk k d:=⟨h.1,h.2.1,gO h.2.2 ω⟩
def iw:Nat:=1000000000
theorem FJ{k:Nat}{d:aG}(hk:k≤iw)(h:Dk k d):Ok (λr=>(0≤r.1∧r.1<18446744073709551616)∧Dk (k+1) r.2) (F74 N d):=by
 obtain⟨h1,h2,h3⟩:=h
 unfold iw at hk
 unfold F74
 have hw: ∀i:Int,0≤i→i≤(k:Int)→0≤W .i64 (i+1)∧W .i64 (i+1)≤((k+1:Nat):Int):=λi h0 h1=>by rw[aw ω ω];omega
 have hd:Dk (k+1) (d.1,(W .i64 (d.2.1+1),d.2.2)):=⟨h1,hw _ h2 h3⟩
 have hg: ∀(l:List Int) (i:Int),(∀x∈l,0≤x∧x<18446744073709551616)→0≤l.getD i.toNat 0∧l.getD i.toNat 0<18446744073709551616:=λl i hl=>by
  by_cases hi:i.toNat<l.length
  ·rw[aV,bm hi];exact hl _ (dJ hi)
  ·rw[aV,ig ω];decide
 exact ax (λeT=>aB ⟨h2,eT⟩ (aq ⟨hg _ _ h1,hd⟩)) λ_=>aq ⟨(show(0:Int)≤0∧(0:Int)<18446744073709551616 by decide),hd⟩
theorem rem_in{x y:Int}(h0:0≤x)(hy:0<y):0≤rem x y∧rem x y<y:=by
 unfold rem;rw[jq]
 exact⟨Int.tmod_nonneg _ h0,F0 _ hy⟩
theorem ic(N:Nat){k:Nat}{d:aG}{n:Int}(hn:0<n∧n<1000000)(h:Dk k d)(hk:k≤iw:=by first|decide|(unfold iw;omega)):Ok (λr=>(0≤r.1∧r.1<n)∧Dk (k+1) r.2) (oR N d n):=by
 unfold oR
 refine ag (FJ N hk h) λr hr=> ?_
 dsimp only
 rw[eB (x:=n) ω ω]
 have:=rem_in hr.1.1 hn.1
 refine ok_eq (λ_=>ω) λ_=>aq ⟨?_,hr.2⟩
 dsimp only
 rw[aw ω ω]
 exact this
theorem ov(N:Nat){k:Nat}{d:aG}{n:Int}(hn:0<n∧n<1000000)(h:Dk k d)(hk:k≤iw:=by first|decide|(unfold iw;omega)):Ok (λr=>Dk (k+1) r.2) (PJ N d n):=by
 unfold PJ
 exact ag (ic N hn h hk) λr hr=>aq hr.2
theorem yP(N:Nat){k:Nat}{d:aG}(h:Dk k d)(hk:k≤iw:=by first|decide|(unfold iw;omega)):Ok (λr=>aF r.1∧Dk (k+1) r.2) (K2 N d):=by
 unfold K2
 refine ag (FJ N hk h) λr hr=>ok_eq (λ_=>ω) λ_=> ?_
 dsimp only
 repeat' first|exact aq ⟨gB _,hr.2⟩|refine ax (λ_=> ?_) (λ_=> ?_)|refine ok_eq (λ_=> ?_) (λ_=> ?_)|(exfalso;omega)
theorem ZN{x y:Int}(hy:0<y)(hy1:y<9223372036854775808):aF (rem x y):=by
 unfold rem;rw[jq]
 have h1:=F0 x hy
 have h2: -y<x.tmod y:=by
  have:=F0 (-x) hy
  rw[Int.neg_tmod]at this;omega
 unfold aF;omega
theorem BY{x y:Int}(hx:aF x)(hy:aF y):aF (mx x y):=by unfold mx;rw[jq];split<;>assumption
theorem ZO{x y:Int}(hx:aF x)(hy:aF y):aF (mn x y):=by unfold mn;rw[jq];split<;>assumption
theorem SJ{x n:Int}(h:0≤x∧x<n)(hn:n≤1000000):aF x:=jE ω ω
abbrev wm(m:Nat)(l:di):Prop:=G m (.slice me) l
theorem s4{k a b c d e f g:Int}{m:Nat}(h0:aF k)(h1:aF a)(h2:aF b)(h3:aF c)(h4:aF d)(h5:aF e)(h6:aF f)(h7:aF g):G m me (k,(a,(b,(c,(d,(e,(f,(g,())))))))):=⟨h0,h1,h2,h3,h4,h5,h6,h7,trivial⟩
theorem bu{x:Int}(h: -1000000≤x∧x≤1000000:=by decide):aF x:=jE h.1 h.2
theorem MB{k:Nat}{d:aG}(h:Dk k d)(c:ae){i:Int}(hi:0≤i∧i<(c.1.length:Int))(hc:c.1.length≤5)(hk:k≤100000000):Ok (λr=>G 0 me r.1∧Dk (k+5) r.2) (Wv N d c i):=by
 unfold Wv
 have hb:aF 1000000000000:=by unfold aF;decide
 have nV:aF i:=jE ω ω
 exact aB hi (ag (ic N δ h) λa ⟨_,hd⟩=>ag (ov N δ hd) λr hd=>pd (λ_=>ag (yP N hd) λr ⟨_,hd⟩=>ok_eq (λ_=>ω) λ_=>aq ⟨s4 bu bu bu nV bu bu bu (gB _),Dk.mono hd ω⟩) λ_=>aq ⟨s4 bu bu bu nV bu bu bu (BY bu (ZO hb (gB _))),Dk.mono hd ω⟩)
theorem PK{k:Nat}{d:aG}(h:Dk k d)(c:ae)(Tz:1≤c.1.length)(hc:c.1.length≤5)(hk:k≤100000000):Ok (λr=>G 0 me r.1∧Dk (k+10) r.2) (ZP N d c):=by
 unfold ZP
 have hb:aF 1000000000000:=by unfold aF;decide
 refine ag (ic N ⟨ω,ω⟩ h) λa ⟨ha,hd⟩=>ag (ic N δ hd) λb ⟨fa,hd⟩=> ?_
 dsimp only
 refine ag (ic N δ hd) λe ⟨he,hd⟩=>ag (ic N δ hd) λf ⟨hf,hd⟩=>aB ha (ag (ic N δ hd) λg ⟨_,hd⟩=>ag (ov N δ hd) λr hd=>pd (λ_=>ag (yP N hd) λr ⟨_,hd⟩=>ok_eq (λ_=>ω) λ_=>ag (yP N hd) λr' ⟨_,hd⟩=>ok_eq (λ_=>ω) λ_=>aq ⟨s4 bu bu (gB _) (SJ ha ω) (gB _) bu (gB _) (gB _),Dk.mono hd ω⟩) λ_=>aq ⟨s4 bu bu (gB _) (SJ ha ω) (gB _) bu (gB _) (BY bu (ZO hb (gB _))),Dk.mono hd ω⟩)
structure Cf(c:ae):Prop where
 g:G 5 aA c
 n:1≤c.1.length
theorem Ic{k:Nat}{d:aG}(h:Dk k d){c:ae}(hc:Cf c)(hk:k≤10000000):Ok (λr=>G 0 me r.1∧Dk (k+20) r.2) (F77 N d c):=by
 have hn:=hc.n
 have hl:=hc.g.1.1
 unfold F77
 refine ag (ic N δ h) λa ⟨ha,hd⟩=> ?_
 dsimp only
 refine ag (ic N δ hd) λb ⟨hb,hd⟩=>ag (ic N ⟨ω,ω⟩ hd) λi ⟨hi,hd⟩=>ag (ic N δ hd) λe ⟨he,hd⟩=> ?_
 have hz: ∀(e:ix) (j:Nat) (d:aG),G 0 me e→Dk j d→j≤k+20→Ok (λr=>G 0 me r.1∧Dk (k+20) r.2) (some (e,d)):=λe j d he hd hj=>aq ⟨he,Dk.mono hd hj⟩
 have hs: ∀{f:Int×aG→Option (ix×aG)},(∀x d,aF x→Dk (k+5) d→Ok (λr=>G 0 me r.1∧Dk (k+20) r.2) (f (x,d)))→Ok (λr=>G 0 me r.1∧Dk (k+20) r.2) ((K2 N e.2).bind f):=λhf=>ag (yP N hd) λr ⟨h1,h2⟩=>hf r.1 r.2 h1 (Dk.mono h2 ω)
 have hm: ∀{n:Int} {f:Int×aG→Option (ix×aG)},0<n∧n<1000000→(∀x d,Dk (k+5) d→Ok (λr=>G 0 me r.1∧Dk (k+20) r.2) (f (x,d)))→Ok (λr=>G 0 me r.1∧Dk (k+20) r.2) ((oR N e.2 n).bind f):=λhn hf=>ag (ic N hn hd) λr ⟨h1,h2⟩=>hf r.1 r.2 (Dk.mono h2 ω)
 repeat' first
  |refine ok_eq (λ_=> ?_) (λ_=> ?_)
  |(exfalso;omega)
  |(refine hs λx d' hx hd'=> ?_;dsimp only)
  |(refine hm δ λx d' hd'=> ?_;dsimp only)
  |(refine hz _ _ _ ?_ hd ω;refine⟨?_,?_,?_,?_,?_,?_,?_,?_,trivial⟩<;>first|exact gB _|exact bU|exact BY hx bu|exact ZN δ δ|exact(G.at hc.g.1 _).2.1)
  |(refine hz _ _ _ ?_ hd' ω;refine⟨?_,?_,?_,?_,?_,?_,?_,?_,trivial⟩<;>first|exact gB _|exact bU|exact BY hx bu|exact ZN δ δ|exact(G.at hc.g.1 _).2.1)
  |(refine hz _ _ _ ?_ h2 ω;refine⟨?_,?_,?_,?_,?_,?_,?_,?_,trivial⟩<;>first|exact gB _|exact bU|exact BY hx bu|exact ZN δ δ|exact(G.at hc.g.1 _).2.1)
  |exact ag (MB N hd c hi hl ω) λr ⟨h1,h2⟩=>hz _ _ _ h1 h2 ω
  |exact ag (PK N hd c hn hl ω) λr ⟨h1,h2⟩=>hz _ _ _ h1 h2 ω
  |refine aB hi ?_
  |(refine ag (ic N δ hd') λr ⟨h1,h2⟩=> ?_)
theorem G.cat{m n:Nat}{e:Ty}{l k:List e.den}(h:G m (.slice e) l)(h':G n (.slice e) k):G (m+n) (.slice e) (l++k):=
 ⟨by have:=h.1;have:=h'.1;rw[aS];omega,λy hy=>by
  rcases bk.1 hy with hy|hy
  ·exact G.mono ω (h.2 y hy)
  ·exact G.mono ω (h'.2 y hy)⟩
theorem G.two{m:Nat}{e:Ty}{a b:e.den}(ha:G 0 e a)(hb:G 0 e b)(hm:2≤m):G m (.slice e) [a,b]:=
 ⟨hm,λy hy=>by
  rcases a8.1 hy with rfl|hy
  ·exact G.mono ω ha
  ·rw[cn.1 hy];exact G.mono ω hb⟩
theorem G.one{m:Nat}{e:Ty}{a:e.den}(ha:G 0 e a)(hm:1≤m):G m (.slice e) [a]:=
 ⟨hm,λy hy=>by rw[cn.1 hy];exact G.mono ω ha⟩
theorem yQ{α:Type}(a b:α):[a,b].length=2:=rfl
theorem SK(hN:100≤N){k:Nat}{d:aG}(h:Dk k d)(c:ae)(hk:k≤10000000):Ok (λr=>wm 40 r.1∧Dk (k+50) r.2) (gz N d c):=by
 have s64: ∀i:Nat,i<100→aF (i:Int):=λi hi=>jE ω ω
 unfold gz gz.b
 refine ji (len:=5) (F:=λn i (s:aG×di)=>gz.l3 N n s.1 s.2 i) (λi s=>Dk (k+2*i) s.1∧wm (3*i) s.2) (λn i s hi hI hr=> ?_) (λn s hI=> ?_) 5 N 1 (d,[]) ω ω ω ⟨Dk.mono h ω,G.nil⟩
 all_goals unfold gz.l3 gz.nr
 ·have hl:=hI.2.1
  have nV:=s64 i ω
  dsimp only
  rw[aw (x:=(i:Int)+1) ω ω,af i]
  have h2:wm (3*i+2) (s.2++[((1:Int),((i:Int),eC)),((2:Int),((i:Int),((i:Int),((0:Int),((1:Int),bc)))))]):=G.cat hI.2 (G.two (s4 bu nV bU bU bU bU bU bU) (s4 bu nV nV bU bu bU bU bU) ω)
  have hl2:=h2.1
  exact eO (λ_=>aD (by rw[yQ];omega) (ag (ov N δ hI.1 (by unfold iw;omega)) λr hd=>bF (λ_=>ag (ic N δ hd (by unfold iw;omega)) λr ⟨_,hd⟩=>aD (by rw[aJ];omega) (hr (_,_) ⟨Dk.mono hd ω,G.mono ω (G.cat h2 (G.one (m:=1) (s4 bu nV bU bU bU bU (gB _) bU) ω))⟩)) λ_=>hr (_,_) ⟨Dk.mono hd ω,G.mono ω h2⟩)) λ_=>ω
 ·refine eO (λ_=>ω) λ_=> ?_
  refine ji (len:=8) (F:=λn i (s:aG×di)=>gz.l9 N n s.1 s.2 i) (λi s=>Dk (k+10+i) s.1∧wm (15+i) s.2) (λn i s hi hI hr=> ?_) (λn s hI=> ?_) 8 N 5 s ω ω ω ⟨Dk.mono hI.1 ω,G.mono ω hI.2⟩
  all_goals unfold gz.l9 gz.vz
  ·have hl:=hI.2.1
   dsimp only
   rw[aw (x:=(i:Int)+1) ω ω,af i]
   exact eO (λ_=>ag (ic N δ hI.1 (by unfold iw;omega)) λr ⟨_,hd⟩=>aD (by rw[aJ];omega) (hr (_,_) ⟨Dk.mono hd ω,G.mono ω (G.cat hI.2 (G.one (m:=1) (s4 bu (gB _) (s64 i ω) bU bu bU bU bU) ω))⟩)) λ_=>ω
  ·refine eO (λ_=>ω) λ_=> ?_
   refine ji (len:=8) (F:=λn i (s:aG×di)=>gz.mw N n s.1 s.2 i) (λi s=>Dk (k+18+2*i) s.1∧wm (23+2*i) s.2) (λn i s hi hI hr=> ?_) (λn s hI=> ?_) 8 N 1 s ω ω ω ⟨Dk.mono hI.1 ω,G.mono ω hI.2⟩
   all_goals unfold gz.mw gz.lz
   ·have hl:=hI.2.1
    have nV:=s64 i ω
    dsimp only
    rw[aw (x:=(i:Int)+1) ω ω,af i]
    exact eO (λ_=>ag (ic N δ hI.1 (by unfold iw;omega)) λr ⟨_,hd⟩=>ag (ic N δ hd (by unfold iw;omega)) λr ⟨_,hd⟩=>aD (by rw[yQ];omega) (hr (_,_) ⟨Dk.mono hd ω,G.mono ω (G.cat hI.2 (G.two (m:=2) (s4 bu bU nV bU bU bU (gB _) bU) (s4 bu bU nV bU bU bU (gB _) bU) ω))⟩)) λ_=>ω
   ·exact eO (λ_=>ω) λ_=>aq ⟨G.mono ω hI.2,Dk.mono hI.1 ω⟩
theorem Ie{x:Nat}(h:x<1000000):W .i64 (((x+1:Nat):Int)-1)=(x:Int):=by rw[aw ω ω];omega
theorem K3(hN:1000≤N){k:Nat}{d:aG}(h:Dk k d){c:ae}(hc:Cf c){xU:Int}(hm:0≤xU∧xU≤100)(hk:k≤10000):Ok (λr=>wm 200 r.1∧Dk (k+3000) r.2) (E4 N d c xU):=by
 have hn:=hc.n
 have hl:=hc.g.1.1
 unfold E4 E4.b
 rw[aw (x:=xU+1) ω ω]
 refine ag (SK N ω h c ω) λr ⟨Bm,hd⟩=>ag (ic N ⟨ω,ω⟩ hd (by unfold iw;omega)) λz ⟨hz,hd⟩=> ?_
 obtain⟨j,hj⟩: ∃j:Nat,z.1=(j:Int):=⟨z.1.toNat,ω⟩
 rw[hj]
 refine vV (F:=λn x (s:aG×di)=>E4.l3 N n s.1 c s.2 x) (λx s=>x≤100∧Dk (k+100+25*(100-x)) s.1∧wm (40+(100-x)) s.2) (λn x s hI hr=> ?_) (λn s hI=> ?_) j N (z.2,r.1) ω ⟨ω,Dk.mono hd ω,G.mono ω Bm⟩
 all_goals unfold E4.l3 E4.nr
 ·obtain⟨hx,hd,hG⟩:=hI
  have hs:=hG.1
  rw[Ie ω]
  have put: ∀(e:ix) (d:aG) (q:Nat),G 0 me e→Dk q d→q≤k+100+25*(100-(x+1))+25→Ok (λr=>wm 200 r.1∧Dk (k+3000) r.2) (cond (small (s.2.length+[e].length)) (E4.l3 N n d c (s.2++[e]) (x:Int)) none):=λe d q he hd hq=>aD (by rw[aJ];omega) (hr (_,_) ⟨ω,Dk.mono hd ω,G.mono ω (G.cat hG (G.one (m:=1) he ω))⟩)
  exact ax (λ_=>ag (ic N δ hd (by unfold iw;omega)) λa ⟨_,hd⟩=>ok_eq (λ_=>ag (Ic N hd hc ω) λr ⟨h1,h2⟩=>put _ _ _ h1 h2 ω) λ_=>ok_eq (λ_=>ag (ic N ⟨ω,ω⟩ hd (by unfold iw;omega)) λb ⟨hb,hd⟩=>ag (MB N hd c hb hl ω) λr ⟨h1,h2⟩=>put _ _ _ h1 h2 ω) λ_=>ag (PK N hd c hn hl ω) λr ⟨h1,h2⟩=>put _ _ _ h1 h2 ω) λ_=>ω
 ·exact ax (λ_=>ω) λ_=>aq ⟨G.mono ω hI.2.2,Dk.mono hI.2.1 ω⟩
theorem uP(hN:1000≤N){k:Nat}{d:aG}(h:Dk k d){c:ae}(hc:Cf c)(hk:k≤100000):Ok (λr=>wm 3 r.1∧Dk (k+100) r.2) (ow N d c):=by
 have hn:=hc.n
 have hl:=hc.g.1.1
 unfold ow ow.b
 refine ag (ic N δ h (by unfold iw;omega)) λz ⟨hz,hd⟩=> ?_
 obtain⟨j,hj⟩: ∃j:Nat,z.1=(j:Int):=⟨z.1.toNat,ω⟩
 rw[hj]
 refine vV (F:=λn x (s:aG×di)=>ow.l3 N n s.1 c s.2 x) (λx s=>x≤3∧Dk (k+1+25*(3-x)) s.1∧wm (3-x) s.2) (λn x s hI hr=> ?_) (λn s hI=> ?_) j N (z.2,[]) ω ⟨ω,Dk.mono hd ω,G.nil⟩
 all_goals unfold ow.l3 ow.nr
 ·obtain⟨hx,hd,hG⟩:=hI
  have hs:=hG.1
  rw[Ie ω]
  have put: ∀(e:ix) (d:aG) (q:Nat),G 0 me e→Dk q d→q≤k+1+25*(3-(x+1))+25→Ok (λr=>wm 3 r.1∧Dk (k+100) r.2) (cond (small (s.2.length+[e].length)) (ow.l3 N n d c (s.2++[e]) (x:Int)) none):=λe d q he hd hq=>aD (by rw[aJ];omega) (hr (_,_) ⟨ω,Dk.mono hd ω,G.mono ω (G.cat hG (G.one (m:=1) he ω))⟩)
  exact ax (λ_=>ag (ov N δ hd (by unfold iw;omega)) λa hd=>pd (λ_=>ag (ic N ⟨ω,ω⟩ hd (by unfold iw;omega)) λb ⟨hb,hd⟩=>ag (MB N hd c hb hl ω) λr ⟨h1,h2⟩=>put _ _ _ h1 h2 ω) λ_=>ag (Ic N hd hc ω) λr ⟨h1,h2⟩=>put _ _ _ h1 h2 ω) λ_=>ω
 ·exact ax (λ_=>ω) λ_=>aq ⟨G.mono ω hI.2.2,Dk.mono hI.2.1 ω⟩
theorem fN{α:Type}{r:α}:Ok (λ_=>True) (some r):=aq trivial
theorem Ww(k:Int):Ok (λs=>ByteArray.size s≤100) (ada N k):=by
 unfold ada
 repeat' first|refine ok_eq (λ_=> ?_) (λ_=> ?_)|exact aq δ
theorem Wx(k f:Int):Ok (λ_=>True) (adb N k f):=by
 unfold adb ak2 ak3
 repeat' first|refine ok_eq (λ_=> ?_) (λ_=> ?_)|exact fN|refine ag (Q:=λ_=>True) ?_ λ_ _=>fN
theorem ZQ(e:ix)(f:Int):Ok (λ_=>True) (ade N e f):=by
 unfold ade
 repeat' first|refine ok_eq (λ_=> ?_) (λ_=> ?_)|exact fN
theorem ZR(e:ix)(f x:Int):Ok (λ_=>True) (adf N e f x):=by
 unfold adf
 repeat' first|refine ok_eq (λ_=> ?_) (λ_=> ?_)|exact fN
theorem K4(hN:1000≤N)(e:ix):Ok (λ_=>True) (sC N e):=by
 unfold sC sC.b ak4
 refine ag (Q:=λ_=>True) (eO (λ_=>fN) λ_=>fN) λ_ _=>bF (λ_=>fN) λ_=>ag (Ww N _) λs hs=> ?_
 refine br (len:=ByteArray.size s) (F:=λn i (x:ix)=>sC.l6 N n e s x i) (λ_ _=>True) trivial ω (λn i x hi _ hr=> ?_) (λn x _=> ?_)
 all_goals unfold sC.l6 sC.vu
 ·rw[aw (x:=(i:Int)+1) ω ω,af i]
  exact ax (λ_=>aB ⟨ω,ω⟩ (ag (Wx N _ _) λ_ _=>aB ⟨ω,ω⟩ (ag (ZQ N _ _) λ_ _=>ax (λ_=>fN) λ_=>ax (λ_=>fN) λ_=>aB ⟨ω,ω⟩ (ag (ZR N _ _ _) λy _=>hr y trivial)))) λ_=>ω
 ·exact ax (λ_=>ω) λ_=>fN
theorem G.ins{m:Nat}{e:Ty}{l:List e.den}{x:e.den}(h:G m (.slice e) l)(hx:G m e x)(a b c:Nat)(ha:c≤a):G (m+1) (.slice e) ((([]++List.drop b (List.take c l))++[x])++List.drop a (List.take l.length l)):=by
 have:=h.1
 refine⟨?_,λy hy=> ?_⟩
 ·simp only[cN,aS,dY,bV,aJ];omega
 ·rw[cN,bE]at hy
  rcases bk.1 hy with hy|hy
  ·exact G.mono ω (h.2 y (lK (mP hy)))
  ·rcases bk.1 hy with hy|hy
   ·rw[cn.1 hy];exact G.mono ω hx
   ·exact G.mono ω (h.2 y (lK (mP hy)))
theorem MC{α:Type}{P:List α×Int→Prop}{l:List α}{x:α}{k:Nat}{e:Int}(hk:k≤l.length)(hl:l.length≤1000000)(h:P ((([]++List.drop (0:Int).toNat (List.take (k:Int).toNat l))++[x])++List.drop (k:Int).toNat (List.take (l.length:Int).toNat l),e)):
  Ok P (cond (ja 0 (k:Int) (l.length:Int) (l.length:Int)) (let v6:List α:=List.drop (0:Int).toNat (List.take (k:Int).toNat l);cond (small (([]:List α).length+v6.length)) (let v7:List α:=[]++v6;cond (small (v7.length+[x].length)) (let v8:List α:=v7++[x];cond (ja (k:Int) (l.length:Int) (l.length:Int) (l.length:Int)) (let v9:List α:=List.drop (k:Int).toNat (List.take (l.length:Int).toNat l);cond (small (v8.length+v9.length)) (some ((v8++v9),e)) none) none) none) none) none):=by
 dsimp only
 have t: ∀a b:Nat,(List.drop a (List.take b l)).length≤l.length:=λa b=>by rw[dY,bV];omega
 have t1:=t (0:Int).toNat (k:Int).toNat
 have t2:=t (k:Int).toNat (l.length:Int).toNat
 refine zT ⟨ω,ω,ω,ω⟩ (aD (by rw[cr];omega) (aD ?_ (zT ⟨ω,ω,ω,ω⟩ (aD ?_ (aq h)))))
 ·rw[cN,aJ];omega
 ·rw[cN,aS,aJ];omega
theorem ZS(hN:200000≤N){a:aE}{m:Nat}(hm:m≤50000)(h:G m (.slice kN) a){id:Int}(bg:aF id):Ok (λr=>G (m+1) (.slice kN) r.1) (iW N a id):=by
 have hl:=h.1
 unfold iW iW.b
 refine bK (nu N ω hN) (bF (λ_=>aq G.nil) λ_=>ax (λ_=>aq G.nil) λ_=>ax (λ_=>aq G.nil) λ_=>bK (iT N ω hN id) (bG (λ_=>aq G.nil) λ_=> ?_))
 have fin: ∀k:Nat,k≤a.length→Ok (λr=>G (m+1) (.slice kN) r.1) (iW.j9 N a id [] (k:Int)):=λk hk=>by
  unfold iW.j9 iW.JA
  have hx:G m kN (id,((1:Int),())):=⟨bg,(show aF 1 from bu),trivial⟩
  exact MC hk ω (by simpa using G.ins h hx k 0 k (aH _))
 refine mY (len:=a.length) (F:=λn i=>iW.l7 N n a id [] i) ω (λn i hi hr=> ?_) (λn=> ?_)
 all_goals unfold iW.l7 iW.oJ
 ·rw[aw (x:=(i:Int)+1) ω ω,af i]
  exact ax (λ_=>aB ⟨ω,ω⟩ (ax (λ_=>hr) λ_=>fin i ω)) λ_=>ω
 ·exact ax (λ_=>ω) λ_=>fin _ (aH _)
theorem G4q{m:Nat}{x:cF}{q:Int}(h:G m fc x)(hq:aF q):G m fc (x.1,(x.2.1,(x.2.2.1,(q,x.2.2.2.2)))):=⟨h.1,h.2.1,h.2.2.1,hq,trivial⟩
theorem G4b{m:Nat}{x:cF}{q:Int}(h:G m fc x)(hq:aF q):G m fc (x.1,(q,x.2.2)):=⟨h.1,hq,h.2.2⟩
theorem G2b{m:Nat}{x:Bx}{q:Int}(h:G m kN x)(hq:aF q):G m kN (x.1,(q,x.2.2)):=⟨h.1,hq,trivial⟩
theorem MD(hN:200000≤N){l:aO}(hl:l.length≤100000):Ok (λ_=>True) (mX N l):=ou (uH N hl hN) trivial
theorem adg(hN:200000≤N){a:aE}{l:aO}{x:cF}{m:Nat}(hm:m≤50000)(ha:G m (.slice kN) a)(h:G m (.slice fc) l)(hx:G 0 fc x):Ok (λr=>G (m+1) (.slice fc) r.1) (fT N a l x):=by
 have h1:=ha.1
 have hl:=h.1
 have fin: ∀k:Nat,k≤l.length→Ok (λr=>G (m+1) (.slice fc) r.1) (fT.Da N l x [] (k:Int)):=λk hk=>by
  unfold fT.Da fT.wI
  exact MC hk ω (by simpa using G.ins h (G.mono (bz m) hx) k 0 k (aH _))
 have hj:Ok (λr=>G (m+1) (.slice fc) r.1) (fT.E5 N l x):=by
  unfold fT.E5 fT.xV
  refine mY (len:=l.length) (F:=λn i=>fT.mw N n l x [] i) ω (λn i hi hr=> ?_) (λn=> ?_)
  all_goals unfold fT.mw fT.lz
  ·rw[aw (x:=(i:Int)+1) ω ω,af i]
   exact ax (λ_=>aB ⟨ω,ω⟩ (ax (λ_=>hr) λ_=>fin i ω)) λ_=>ω
  ·exact ax (λ_=>ω) λ_=>fin _ (aH _)
 unfold fT fT.b
 exact bK (xF N ω ω hN) (bF (λ_=>aq G.nil) λ_=>ag (MD N hN (by rw[aJ];omega)) λ_ _=>bF (λ_=>aq G.nil) λ_=>bK (iT N ω hN _) (ok_eq (λ_=>aq G.nil) λ_=>bG (λ_=>aq G.nil) λ_=>bK (si N ω hN _) (pd (λ_=>aq G.nil) λ_=>ok_eq (λ_=>bK (ru N ω hN _) (bG (λ_=>aq G.nil) λ_=>hj)) λ_=>hj)))
theorem ZT(hN:200000≤N){l:aO}{m:Nat}(hm:m≤50000)(h:G m (.slice fc) l){id q:Int}(hq:aF q):Ok (λr=>G m (.slice fc) r.1) (ox N l id q):=by
 have hl:=h.1
 unfold ox ox.b
 refine ag (MD N hN ω) λ_ _=>bF (λ_=>aq G.nil) λ_=>ax (λ_=>aq G.nil) λ_=>ax (λ_=>aq G.nil) λ_=>bK (si N ω hN _) (bF (λ_=>aq G.nil) λ_=>aD (by rw[cr];omega) ?_)
 rw[cN]
 refine br (len:=l.length) (F:=λn i s=>ox.l8 N n id q s i) (λ_ s=>s.length=l.length∧G m (.slice fc) s) ⟨rfl,h⟩ ω (λn i s hi hI hr=> ?_) (λn s hI=> ?_)
 all_goals unfold ox.l8 ox.D4
 ·rw[aw (x:=(i:Int)+1) ω ω,af i]
  have hs:=hI.1
  have hx:=G.at hI.2 (i:Int).toNat
  exact ax (λ_=>aB ⟨ω,ω⟩ (ok_eq (λ_=>aB ⟨ω,ω⟩ (hr _ ⟨by rw[bP];exact hs,G.set hI.2 (G4q hx hq) _⟩)) λ_=>hr s hI)) λ_=>ω
 ·have hs:=hI.1
  exact ax (λ_=>ω) λ_=>aq hI.2
theorem ZU(a b:Int):Ok (λr=>aF r.1) (Wy N a b):=by
 have h: ∀(x:Int) (t:Bool),0≤x∧x<5→Ok (λr:Int×Bool=>aF r.1) (some (x,t)):=λx t hx=>aq (SJ hx δ)
 unfold Wy
 repeat' first|refine ok_eq (λ_=> ?_) (λ_=> ?_)|exact h _ _ δ
theorem ME(hN:200000≤N){l:aE}{m:Nat}(hm:m≤50000)(h:G m (.slice kN) l)(id k:Int):Ok (λr=>G m (.slice kN) r.1) (mM N l id k):=by
 have hl:=h.1
 unfold mM mM.b
 refine bK (nu N ω hN) (bF (λ_=>aq G.nil) λ_=>bK (iT N ω hN _) (ok_eq (λ_=>aq G.nil) λ_=>ag (ZU N _ _) λz hz=>bF (λ_=>aq G.nil) λ_=>aD (by rw[cr];omega) ?_))
 rw[cN]
 refine br (len:=l.length) (F:=λn i s=>mM.zW N n id z.1 s i) (λ_ s=>s.length=l.length∧G m (.slice kN) s) ⟨rfl,h⟩ ω (λn i s hi hI hr=> ?_) (λn s hI=> ?_)
 all_goals unfold mM.zW mM.xK
 ·rw[aw (x:=(i:Int)+1) ω ω,af i]
  have hs:=hI.1
  have hx:=G.at hI.2 (i:Int).toNat
  exact ax (λ_=>aB ⟨ω,ω⟩ (ok_eq (λ_=>aB ⟨ω,ω⟩ (hr _ ⟨by rw[bP];exact hs,G.set hI.2 (G2b hx hz) _⟩)) λ_=>hr s hI)) λ_=>ω
 ·have hs:=hI.1
  exact ax (λ_=>ω) λ_=>aq hI.2
theorem SL(hN:200000≤N){a:aE}{l:aO}{m:Nat}(hm:m≤50000)(ha:G m (.slice kN) a)(h:G m (.slice fc) l){id to:Int}(hto:aF to):Ok (λr=>G m (.slice fc) r.1) (oy N a l id to):=by
 have h1:=ha.1
 have hl:=h.1
 unfold oy oy.b
 refine bK (xF N ω ω hN) (bF (λ_=>aq G.nil) λ_=>bK (si N ω hN _) (bK (iT N ω hN _) (bF (λ_=>aq G.nil) λ_=>ok_eq (λ_=>aq G.nil) λ_=>bG (λ_=>aq G.nil) λ_=>bG (λ_=>aq G.nil) λ_=>aD (by rw[cr];omega) ?_)))
 rw[cN]
 refine br (len:=l.length) (F:=λn i s=>oy.mw N n id to s i) (λ_ s=>s.length=l.length∧G m (.slice fc) s) ⟨rfl,h⟩ ω (λn i s hi hI hr=> ?_) (λn s hI=> ?_)
 all_goals unfold oy.mw oy.lz
 ·rw[aw (x:=(i:Int)+1) ω ω,af i]
  have hs:=hI.1
  have hx:=G.at hI.2 (i:Int).toNat
  exact ax (λ_=>aB ⟨ω,ω⟩ (ok_eq (λ_=>aB ⟨ω,ω⟩ (hr _ ⟨by rw[bP];exact hs,G.set hI.2 (G4b hx hto) _⟩)) λ_=>hr s hI)) λ_=>ω
 ·have hs:=hI.1
  exact ax (λ_=>ω) λ_=>aq hI.2
theorem PL(hN:200000≤N){l:aO}{m:Nat}(hm:m≤50000)(h:G m (.slice fc) l)(id:Int):Ok (λr=>r.length≤m) (sD N l id):=by
 have hl:=h.1
 unfold sD sD.b
 refine ag (MD N hN ω) λ_ _=>bF (λ_=>aq (bz _)) λ_=>br (len:=l.length) (F:=λn i s=>sD.l5 N n l id s i) (λi s=>s.length≤i) (bz _) ω (λn i s hi hI hr=> ?_) (λn s hI=> ?_)
 all_goals unfold sD.l5 sD.eo
 ·rw[aw (x:=(i:Int)+1) ω ω,af i]
  exact ax (λ_=>aB ⟨ω,ω⟩ (ok_eq (λ_=>aB ⟨ω,ω⟩ (aD (by rw[aJ];omega) (hr _ (by rw[aS,aJ];omega)))) λ_=>hr s ω)) λ_=>ω
 ·exact ax (λ_=>ω) λ_=>aq ω
abbrev L6(m:Nat)(l:aY):Prop:=G m (.slice nh) l
theorem ZV(hN:200000≤N){l:aY}{a:List Int}{m:Nat}(hm:m≤50000)(h:L6 m l)(ha:a.length≤m):Ok (λr=>L6 m r) (gC N l a):=by
 have hl:=h.1
 unfold gC gC.b
 refine bK (iS N ω hN) (bF (λ_=>aq G.nil) λ_=>br (len:=l.length) (F:=λn i s=>gC.l5 N n l a s i) (λi s=>L6 i s) G.nil ω (λn i s hi hI hr=> ?_) (λn s hI=> ?_))
 all_goals unfold gC.l5 gC.eo
 ·have hs:=hI.1
  refine ax (λ_=> ?_) λ_=>ω
  refine br (len:=a.length) (F:=λn' j b=>gC.l9 N (gC.l5 N n) n' l a s (i:Int) b j) (λ_ _=>True) trivial ω (λn' j b hj _ eQ=> ?_) (λn' b _=> ?_)
  all_goals unfold gC.l9 gC.vz
  ·rw[aw (x:=(j:Int)+1) ω ω,af j]
   exact ax (λ_=>pd (λ_=>eQ _ trivial) λ_=>aB ⟨ω,ω⟩ (aB ⟨ω,ω⟩ (eQ _ trivial))) λ_=>ω
  ·rw[aw (x:=(i:Int)+1) ω ω,af i]
   have hx:G 0 nh (l.getD (i:Int).toNat eC):=G.at h _
   exact ax (λ_=>ω) λ_=>bF (λ_=>aB ⟨ω,ω⟩ (aD (by rw[aJ];omega) (hr _ (G.cat hI (G.one hx (aH 1)))))) λ_=>hr s (G.mono ω hI)
 ·exact ax (λ_=>ω) λ_=>aq (G.mono hl hI)
theorem PM(hN:5000000≤N)(c:ae){b:an}{m:Nat}(hm:m≤50000)(hb:G m aK b)(id:Int):Ok (λr=>G m aK r.1) (F54 N c b id):=by
 unfold F54
 exact bK (ed N hN hm hb) (bF (λ_=>aq G.jF) λ_=>ag (pe N ω hm hb.1 _) λ_ _=>ok_eq (λ_=>aq G.jF) λ_=>ag (PL N ω hm hb.2.1 _) λa ha=>ag (ZV N ω hm hb.2.2.2.2.2.1 ha) λr hr=>aq ⟨hb.1,hb.2.1,hb.2.2.1,hb.2.2.2.1,hb.2.2.2.2.1,hr,trivial⟩)
theorem Et(hN:200000≤N){l:aO}{m:Nat}(hm:m≤50000)(h:G m (.slice fc) l)(id:Int):Ok (λr=>G m (.slice fc) r) (p7 N l id):=by
 have hl:=h.1
 unfold p7 p7.b
 refine bK (uM N ω hN) (bF (λ_=>aq G.nil) λ_=>br (len:=l.length) (F:=λn i s=>p7.l5 N n l id s i) (λi s=>G i (.slice fc) s) G.nil ω (λn i s hi hI hr=> ?_) (λn s hI=> ?_))
 all_goals unfold p7.l5 p7.eo
 ·have hs:=hI.1
  have hx:G 0 fc (l.getD (i:Int).toNat ba):=G.at h _
  rw[aw (x:=(i:Int)+1) ω ω,af i]
  exact ax (λ_=>aB ⟨ω,ω⟩ (bG (λ_=>aB ⟨ω,ω⟩ (aD (by rw[aJ];omega) (hr _ (G.cat hI (G.one hx (aH 1)))))) λ_=>hr s (G.mono ω hI))) λ_=>ω
 ·exact ax (λ_=>ω) λ_=>aq (G.mono hl hI)
theorem Wz(hN:200000≤N){l:aY}{m:Nat}(hm:m≤50000)(h:L6 m l)(a id:Int):Ok (λr=>L6 m r.1) (oz N l a id):=by
 have hl:=h.1
 unfold oz oz.b
 refine bK (iS N ω hN) (bF (λ_=>aq G.nil) λ_=>br (len:=l.length) (F:=λn i s=>oz.l5 N n l a id s i) (λi s=>L6 i s) G.nil ω (λn i s hi hI hr=> ?_) (λn s hI=> ?_))
 all_goals unfold oz.l5 oz.eo
 ·have hs:=hI.1
  have hx:G 0 nh (l.getD (i:Int).toNat eC):=G.at h _
  rw[aw (x:=(i:Int)+1) ω ω,af i]
  have h1:=hr s (G.mono ω hI)
  have h2:=hr _ (G.cat hI (G.one hx (aH 1)))
  repeat' first|exact h1|exact h2|refine aD (by rw[aJ];omega) ?_|refine aB ⟨ω,ω⟩ ?_|refine ax (λ_=> ?_) (λ_=> ?_)|refine bG (λ_=> ?_) (λ_=> ?_)|(exfalso;omega)
 ·exact ax (λ_=>ω) λ_=>ok_eq (λ_=>aq G.nil) λ_=>aq (G.mono hl hI)
end VM
end
