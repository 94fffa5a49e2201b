/- A part of the proof of TearFlat of layer 29: what the functions compute, in plain words. -/
import Derived.Test.YtocmlaipoebfeaaGreatPlain4
set_option linter.all false
section
namespace VM
open Go VM.F
def Ok{α:Type}(P:α→Prop)(o:Option α):Prop:= ∃r,o=some r∧P r
theorem an{α:Type}{P:α→Prop}{r:α}(h:P r):Ok P (some r):=⟨r,rfl,h⟩
theorem af{α β:Type}{P:β→Prop}{Q:α→Prop}{o:Option α}{f:α→Option β}(h:Ok Q o)(hf: ∀r,Q r→Ok P (f r)):Ok P (o.bind f):=by
 obtain⟨r,rfl,hr⟩:=h
 exact hf r hr
theorem nX{α:Type}{P:α→Prop}{o:Option α}{r:α}(h:o=some r)(hr:P r):Ok P o:=⟨r,h,hr⟩
theorem qg{α:Type}{P:α→Prop}{b:Bool}{x y:Option α}(hx:b=true→Ok P x)(hy:b=false→Ok P y):Ok P (cond b x y):=by
 cases b
 ·exact hy rfl
 ·exact hx rfl
theorem bw{α:Type}{P:α→Prop}{b:Bool}{x y:Option α}(hx:b=false→Ok P x)(hy:b=true→Ok P y):Ok P (cond (!b) x y):=by
 cases b
 ·exact hx rfl
 ·exact hy rfl
theorem ax{α:Type}{P:α→Prop}{a b:Int}{x y:Option α}(hx:a<b→Ok P x)(hy:b≤a→Ok P y):Ok P (cond (aS a b) x y):=by
 rw[cU]
 split
 ·exact hx (by assumption)
 ·exact hy ω
theorem ed{α:Type}{P:α→Prop}{a b:Int}{x y:Option α}(hx:a≤b→Ok P x)(hy:b<a→Ok P y):Ok P (cond (c0 a b) x y):=by
 rw[cP]
 split
 ·exact hx (by assumption)
 ·exact hy ω
theorem ok_eq{α:Type}{P:α→Prop}{a b:Int}{x y:Option α}(hx:a=b→Ok P x)(hy:a≠b→Ok P y):Ok P (cond (aM a b) x y):=by
 rw[aN]
 split
 ·exact hx (by assumption)
 ·exact hy (by assumption)
theorem bu{α:Type}{P:α→Prop}{a b:Int}{x y:Option α}(hx:a≠b→Ok P x)(hy:a=b→Ok P y):Ok P (cond (!aM a b) x y):=by
 rw[cond_not];exact ok_eq hy hx
theorem aA{α:Type}{P:α→Prop}{i:Int}{n:Nat}{x y:Option α}(h:0≤i∧i<(n:Int))(hx:Ok P x):Ok P (cond (aZ i n) x y):=by
 rw[aQ h.1 h.2];exact hx
theorem aD{α:Type}{P:α→Prop}{n:Nat}{x y:Option α}(h:n<68719476736)(hx:Ok P x):Ok P (cond (small n) x y):=by
 rw[bQ h];exact hx
theorem aau{α:Type}{P:α→Prop}{l c:Int}{x y:Option α}(h:0≤l∧l≤c∧c<68719476736)(hx:Ok P x):Ok P (cond (gI l c) x y):=by
 rw[cj h.1 h.2.1 h.2.2];exact hx
theorem BS{α:Type}{P:α→Prop}{l h m n:Int}{x y:Option α}(hh:0≤l∧l≤h∧h≤m∧m≤n)(hx:Ok P x):Ok P (cond (jt l h m n) x y):=by
 rw[dq hh.1 hh.2.1 hh.2.2.1 hh.2.2.2];exact hx
theorem jS{σ β:Type}{P:β→Prop}{F:Nat→Int→σ→Option β}{len:Nat}(I:Nat→σ→Prop)
  (hs: ∀n i s,i<len→I i s→(∀s',I (i+1) s'→Ok P (F n ((i+1:Nat):Int) s'))→Ok P (F (n+1) (i:Int) s)) (he: ∀n s,I len s→Ok P (F (n+1) (len:Int) s)):
  ∀m n i s,len-i≤m→m<n→i≤len→I i s→Ok P (F n (i:Int) s)
 |m,0,i,s,_,hn,_,_=>ω
 |m,n+1,i,s,hm,hn,hi,hI=>by
  by_cases h:i<len
  ·exact hs n i s h hI λs' yw=>jS I hs he (m-1) n (i+1) s' ω ω ω yw
  ·have:i=len:=ω
   subst this
   exact he n s hI
theorem bk{σ β:Type}{P:β→Prop}{F:Nat→Int→σ→Option β}{len:Nat}(I:Nat→σ→Prop){N:Nat}{s:σ}(h0:I 0 s)(hN:len<N)
  (hs: ∀n i s,i<len→I i s→(∀s',I (i+1) s'→Ok P (F n ((i+1:Nat):Int) s'))→Ok P (F (n+1) (i:Int) s)) (he: ∀n s,I len s→Ok P (F (n+1) (len:Int) s)):Ok P (F N 0 s):=
 jS I hs he len N 0 s ω hN ω h0
theorem kY{β:Type}{P:β→Prop}{F:Nat→Int→Option β}{len N:Nat}(hN:len<N)
  (hs: ∀n i,i<len→Ok P (F n ((i+1:Nat):Int))→Ok P (F (n+1) (i:Int))) (he: ∀n,Ok P (F (n+1) (len:Int))):Ok P (F N 0):=
 bk (σ:=Unit) (F:=λn i _=>F n i) (λ_ _=>True) (s:=()) trivial hN (λn i _ h _ hr=>hs n i h (hr () trivial)) λn _ _=>he n
theorem Ef{σ β:Type}{P:β→Prop}{F:Nat→Int→σ→Option β}(I:Nat→σ→Prop)
  (hs: ∀n (k:Nat) s,I (k+1) s→(∀s',I k s'→Ok P (F n (k:Int) s'))→Ok P (F (n+1) ((k+1:Nat):Int) s)) (he: ∀n s,I 0 s→Ok P (F (n+1) 0 s)):
  ∀(k n:Nat) s,k<n→I k s→Ok P (F n (k:Int) s)
 |0,0,s,hn,_=>ω
 |0,n+1,s,hn,hI=>he n s hI
 |k+1,0,s,hn,_=>ω
 |k+1,n+1,s,hn,hI=>hs n k s hI λs' yw=>Ef I hs he k n s' ω yw
def G(m:Nat):(τ:Ty)→τ.den→Prop
 | .int .i64,x=>aH x
 | .int .u64,x=>0≤x∧x<18446744073709551616
 | .slice e,l=>List.length l≤m∧ ∀x∈(l:List e.den),G m e x
 | .pair a b,x=>G m a x.1∧G m b x.2
 |_,_=>True
theorem G.mono{m n:Nat}(h:m≤n): ∀{τ:Ty} {x:τ.den},G m τ x→G n τ x
 | .int k,x,hx=>by cases k<;>exact hx
 | .slice e,l,hl=>⟨cA hl.1 h,λx hx=>G.mono h (hl.2 x hx)⟩
 | .pair a b,x,hx=>⟨G.mono h hx.1,G.mono h hx.2⟩
 | .bool,_,_=>trivial
 | .str,_,_=>trivial
 | .unit,_,_=>trivial
 | .arr _ _,_,_=>trivial
theorem G.nil{m:Nat}{e:Ty}:G m (.slice e) ([]:List e.den):=⟨bG _,λx hx=>nomatch hx⟩
theorem G.app{m:Nat}{e:Ty}{l:List e.den}{x:e.den}(h:G m (.slice e) l)(hx:G m e x):G (m+1) (.slice e) (l++[x]):=
 ⟨by have:=h.1;rw[aT,aK];omega,λy hy=>by
  rcases bo.1 hy with hy|hy
  ·exact G.mono ω (h.2 y hy)
  ·rw[cm.1 hy];exact G.mono ω hx⟩
theorem G.get{m:Nat}{e:Ty}{l:List e.den}{d:e.den}(h:G m (.slice e) l)(hd:G m e d)(k:Nat):G m e (l.getD k d):=by
 by_cases hk:k<l.length
 ·rw[aR,bl hk];exact h.2 _ (eL hk)
 ·rw[aR,gP ω];exact hd
theorem G.zero(m:Nat): ∀τ:Ty,G m τ τ.zero
 | .int k=>by cases k<;>first|trivial|exact⟨δ,δ⟩
 | .slice _=>G.nil
 | .pair a b=>⟨G.zero m a,G.zero m b⟩
 | .bool=>trivial
 | .str=>trivial
 | .unit=>trivial
 | .arr _ _=>trivial
theorem G.at{m:Nat}{e:Ty}{l:List e.den}(h:G m (.slice e) l)(k:Nat):G m e (l.getD k e.zero):=h.get (G.zero m e) k
theorem G.set{m:Nat}{e:Ty}{l:List e.den}{x:e.den}(h:G m (.slice e) l)(hx:G m e x)(k:Nat):G m (.slice e) (l.set k x):=
 ⟨by rw[bB];exact h.1,λy hy=>by
  rcases tA hy with hy|rfl
  ·exact h.2 y hy
  ·exact hx⟩
theorem gN(x:Int):aH (W .i64 x):=by
 rw[kS];unfold aH;split<;>omega
def Bg(k:Nat)(z:aF):Prop:= ∃v,z=di v∧Fit v k
theorem Bg.mono{j k:Nat}{z:aF}(h:Bg j z)(hk:j≤k):Bg k z:=by
 obtain⟨v,e,f⟩:=h
 exact⟨v,e,Fit.mono f hk⟩
theorem Bg.zero:Bg 1 (false,(([]:List Int),())):=⟨0,kU.symm,by unfold Fit;decide⟩
theorem bq(N:Nat)(hN:4000000≤N){x:Int}(h:aH x):Ok (Bg 2) (kt N x):=nX (dC N ω h.1 h.2) ⟨x,rfl,Fit.i64 h.1 h.2⟩
theorem kZ(N:Nat)(hN:4000000≤N){k:Nat}(hk:k≤90000){u v:aF}(hu:Bg k u)(hv:Bg k v):Ok (Bg (k+1)) (Am N u v):=by
 obtain⟨a,rfl,ha⟩:=hu
 obtain⟨b,rfl,hb⟩:=hv
 exact nX (jN N hN (Fit.mono ha ω) (Fit.mono hb ω)) ⟨_,rfl,Fit.add ha hb⟩
theorem xQ(N:Nat)(hN:4000000≤N){k:Nat}(hk:k≤90000){u v:aF}(hu:Bg k u)(hv:Bg k v):Ok (Bg (k+1)) (R2 N u v):=by
 obtain⟨a,rfl,ha⟩:=hu
 obtain⟨b,rfl,hb⟩:=hv
 exact nX (u7 N hN (Fit.mono ha ω) (Fit.mono hb ω)) ⟨_,rfl,by rw[Int.sub_eq_add_neg];exact Fit.add ha (Fit.neg hb)⟩
theorem qE(N:Nat)(hN:4000000≤N){k:Nat}(hk:k≤90000){u:aF}(hu:Bg k u):Ok (Bg k) (U3 N u):=by
 obtain⟨a,rfl,ha⟩:=hu
 exact nX (oB N hN (Fit.mono ha ω)) ⟨_,rfl,Fit.neg ha⟩
theorem xg(N:Nat)(hN:4000000≤N){k:Nat}(hk:k≤90000){u:aF}(hu:Bg k u):Ok (Bg k) (Wm N u):=by
 obtain⟨a,rfl,ha⟩:=hu
 exact nX (Wl N hN (Fit.mono ha ω)) ⟨_,rfl,Fit.of_le ha ω⟩
theorem lT(N:Nat)(hN:4000000≤N){j k:Nat}(hj:j≤90000)(hk:k≤90000){u v:aF}(hu:Bg j u)(hv:Bg k v):Ok (Bg (j+k)) (jY N u v):=by
 obtain⟨a,rfl,ha⟩:=hu
 obtain⟨b,rfl,hb⟩:=hv
 exact nX (Aq N hN (Fit.mono ha hj) (Fit.mono hb hk)) ⟨_,rfl,Fit.mul ha hb⟩
theorem Eg(N:Nat){k:Nat}{u:aF}(hu:Bg k u):Ok (λ_=>True) (R3 N u):=by
 obtain⟨a,rfl,ha⟩:=hu
 exact nX (p9 N a) trivial
theorem pS(N:Nat)(hN:4000000≤N){j k:Nat}(hj:j≤90000)(hk:k≤90000){u v:aF}(hu:Bg j u)(hv:Bg k v):Ok (λ_=>True) (PH N u v):=by
 obtain⟨a,rfl,ha⟩:=hu
 obtain⟨b,rfl,hb⟩:=hv
 exact nX (Qb N hN (Fit.mono ha ω) (Fit.mono hb ω)) trivial
theorem QG(v:Int):aH (Ap v).1:=by
 by_cases h:aH v
 ·rw[xF h];exact h
 ·rw[AF h];unfold aH;decide
theorem xh(N:Nat){k:Nat}{u:aF}(hu:Bg k u):Ok (λr=>aH r.1) (wX N u):=by
 obtain⟨a,rfl,ha⟩:=hu
 exact nX (tc N a) (QG a)
end VM
end
section
namespace VM
open Go VM.F
abbrev L3(m:Nat)(l:au):Prop:=G m (.slice jA) l
def jZ(m:Nat)(p:bE):Prop:=p.length≤m∧ ∀y∈p,Bg 8 y.2.2.1
theorem jZ.at{m:Nat}{p:bE}(h:jZ m p)(i:Nat):Bg 8 (p.getD i ((0:Int),((0:Int),((false,pH),())))).2.2.1:=by
 by_cases hk:i<p.length
 ·rw[aR,bl hk];exact h.2 _ (eL hk)
 ·rw[aR,gP ω];exact Bg.mono Bg.zero δ
theorem jZ.nil{m:Nat}:jZ m []:=⟨bG _,λx hx=>nomatch hx⟩
theorem jZ.app{m n:Nat}{p q:bE}(h:jZ m p)(h':jZ n q):jZ (m+n) (p++q):=
 ⟨by have:=h.1;have:=h'.1;rw[aT];omega,λy hy=>(bo.1 hy).elim (h.2 y) (h'.2 y)⟩
theorem jZ.mono{m n:Nat}{p:bE}(h:jZ m p)(hm:m≤n):jZ n p:=⟨cA h.1 hm,h.2⟩
theorem C1(N:Nat){k:Nat}{u:aF}(hu:Bg k u):Ok (λr=>aH r.1) (Qq N u):=by
 unfold Qq
 refine af (xh N hu) λr h=>bw (λ_=>an (by unfold aH;decide)) λ_=>ok_eq (λ_=>an (by unfold aH;decide)) λ_=>an h
theorem jD{x:Int}(h0: -1000000≤x)(h1:x≤1000000):aH x:=by unfold aH;omega
theorem G3{m:Nat}{a b c:Int}(ha:aH a)(hb:aH b)(hc:aH c):G m jA (a,(b,(c,()))):=⟨ha,hb,hc,trivial⟩
theorem bt:aH 0:=by unfold aH;decide
theorem T2(N:Nat)(hN:4000000≤N){x k n:Int}{p:bE}(hx:aH x)(hp:jZ 50000 p):Ok (λr=>aH r.1) (nN N x k n p):=by
 have hl:=hp.1
 refine bk (len:=p.length) (F:=λn' i (s:aF×Bool)=>nN.l3 N n' x k n p s.1 s.2 i) (s:=(_,_)) (λi s=>Bg (8+i) s.1) (Bg.mono Bg.zero ω) ω (λn' i s hi hI hr=> ?_) (λn' s hI=> ?_)
 all_goals unfold nN.l3 nN.lB
 ·rw[aw (x:=(i:Int)+1) ω ω,ae i]
  have h1:=hr (s.1,s.2) (Bg.mono hI ω)
  repeat' first|exact h1|refine aA ⟨ω,ω⟩ ?_|refine ax (λ_=> ?_) (λ_=> ?_)|refine ok_eq (λ_=> ?_) (λ_=> ?_)|(exfalso;omega)|exact af (kZ N hN ω hI (Bg.mono (hp.at _) ω)) λr h=>hr (r,true) h
 ·refine ax (λ_=>ω) λ_=>bw (λ_=>an hx) λ_=>af (bq N hN hx) λr h=>af (kZ N hN ω hI (Bg.mono h ω)) λr h=>af (xh N h) λr h=>an h
theorem aav(N:Nat)(hN:4000000≤N){l:au}{p:bE}{m:Nat}(hm:m≤50000)(hl:L3 m l)(hp:jZ 50000 p):Ok (λr=>L3 200 r.1) (dz N l p):=by
 have JT:=hl.1
 refine jS (len:=8) (F:=λn k (s:au×Int)=>dz.l4 N n l p s.1 s.2 k) (λi s=>L3 (25*i) s.1∧0≤s.2) (λn i s hi hI hr=> ?_) (λn s hI=> ?_) 8 N 1 (_,_) ω ω ω ⟨G.nil,fx 0⟩
 all_goals unfold dz.l4 dz.dH
 ·refine ed (λ_=> ?_) (λ_=>ω)
  refine bk (len:=25) (F:=λn' j (s:au×Int)=>dz.l7 N (dz.l4 N n) n' l p s.1 s.2 (i:Int) j) (s:=s) (λj s=>L3 (25*i+j) s.1∧0≤s.2) hI ω (λn' j s hj hI eZ=> ?_) (λn' s hI=> ?_)
  all_goals unfold dz.l7 dz.pN
  ·have m4: ∀(k x:Int),0≤k→aH x→Ok (λr=>L3 200 r.1) (dz.Kf N (dz.l4 N n) (dz.l7 N (dz.l4 N n) n') l p s.1 k (i:Int) (j:Int) x):=λk x hk hx=>by
    unfold dz.Kf dz.As
    rw[aw (x:=(j:Int)+1) ω ω,ae j]
    have hs:=hI.1.1
    refine af (T2 N hN hx hp) λr h=>bw (λ_=>an G.nil) λ_=>bu (λ_=>aD (by rw[aK];omega) (eZ (_,k) ⟨G.app hI.1 (G3 (jD ω ω) (jD ω ω) h),hk⟩)) λ_=>eZ (s.1,k) ⟨G.mono ω hI.1,hk⟩
   have h0:=m4 s.2 0 hI.2 bt
   have Wb:=hI.2
   repeat' first|exact h0|refine aA ⟨ω,ω⟩ ?_|refine ax (λ_=> ?_) (λ_=> ?_)|refine ed (λ_=> ?_) (λ_=> ?_)|refine ok_eq (λ_=> ?_) (λ_=> ?_)|(exfalso;omega)|exact m4 _ _ (by rw[aw (x:=s.2+1) ω ω];omega) (G.at hl _).2.2.1
  ·rw[aw (x:=(i:Int)+1) ω ω,ae i]
   exact ed (λ_=>ω) λ_=>hr s ⟨G.mono ω hI.1,hI.2⟩
 ·exact ed (λ_=>ω) λ_=>an (G.mono δ hI.1)
theorem QH(N:Nat)(hN:4000000≤N){l t:au}{m:Nat}(hm:m≤50000)(hl:L3 m l)(ht:L3 50000 t):Ok (λr=>L3 200 r.1) (cr N l t):=by
 have JT:=hl.1
 have htl:=ht.1
 refine bk (len:=25) (F:=λn k (s:au×Int)=>cr.l4 N n l t s.1 s.2 k) (s:=(_,_)) (λi s=>L3 (6*i) s.1∧0≤s.2) ⟨G.nil,fx 0⟩ ω (λn i s hi hI hr=> ?_) (λn s hI=> ?_)
 all_goals unfold cr.l4 cr.dH
 ·refine ed (λ_=> ?_) (λ_=>ω)
  refine bk (len:=6) (F:=λn' j (s:au×Int)=>cr.l7 N (cr.l4 N n) n' l t s.1 s.2 (i:Int) j) (s:=s) (λj s=>L3 (6*i+j) s.1∧0≤s.2) hI ω (λn' j s hj hI eZ=> ?_) (λn' s hI=> ?_)
  all_goals unfold cr.l7 cr.pN
  ·have m4: ∀(k x:Int),0≤k→aH x→Ok (λr=>L3 200 r.1) (cr.Kf N (cr.l4 N n) (cr.l7 N (cr.l4 N n) n') l t s.1 k (i:Int) (j:Int) x false):=λk x hk hx=>by
    unfold cr.Kf cr.As
    have hs:=hI.1.1
    have zY: ∀y:Int,aH y→Ok (λr=>L3 200 r.1) (cond (!aM y 0) (cond (small (s.1.length+[(((i:Int),((j:Int),(y,()))):dd)].length)) (cr.l7 N (cr.l4 N n) n' l t (s.1++[((i:Int),((j:Int),(y,())))]) k (i:Int) (W .i64 ((j:Int)+1))) none) (cr.l7 N (cr.l4 N n) n' l t s.1 k (i:Int) (W .i64 ((j:Int)+1)))):=λy hy=>by
     rw[aw (x:=(j:Int)+1) ω ω,ae j]
     exact bu (λ_=>aD (by rw[aK];omega) (eZ (_,k) ⟨G.app hI.1 (G3 (jD ω ω) (jD ω ω) hy),hk⟩)) λ_=>eZ (s.1,k) ⟨G.mono ω hI.1,hk⟩
    refine bk (len:=t.length) (F:=λC2 u (z:aF×Bool)=>cr.IM N (cr.l4 N n) (cr.l7 N (cr.l4 N n) n') C2 l t s.1 k (i:Int) (j:Int) x z.2 z.1 u) (s:=(_,_)) (λu z=>Bg (3+u) z.1) (Bg.mono Bg.zero ω) ω (λC2 u z hu hz W8=> ?_) (λC2 z hz=> ?_)
    all_goals unfold cr.IM cr.HN
    ·rw[aw (x:=(u:Int)+1) ω ω,ae u]
     have h1:=W8 (z.1,z.2) (Bg.mono hz ω)
     repeat' first|exact h1|refine aA ⟨ω,ω⟩ ?_|refine ax (λ_=> ?_) (λ_=> ?_)|refine ok_eq (λ_=> ?_) (λ_=> ?_)|(exfalso;omega)|exact af (bq N hN (G.at ht _).2.2.1) λr h=>af (kZ N hN ω hz (Bg.mono h ω)) λr h=>W8 (r,true) h
    ·exact ax (λ_=>ω) λ_=>qg (λ_=>af (bq N hN hx) λr h=>af (kZ N hN ω hz (Bg.mono h ω)) λr h=>af (C1 N h) λr h=>bw (λ_=>an G.nil) λ_=>zY _ h) λ_=>zY _ hx
   have h0:=m4 s.2 0 hI.2 bt
   have Wb:=hI.2
   repeat' first|exact h0|refine aA ⟨ω,ω⟩ ?_|refine ax (λ_=> ?_) (λ_=> ?_)|refine ed (λ_=> ?_) (λ_=> ?_)|refine ok_eq (λ_=> ?_) (λ_=> ?_)|(exfalso;omega)|exact m4 _ _ (by rw[aw (x:=s.2+1) ω ω];omega) (G.at hl _).2.2.1
  ·rw[aw (x:=(i:Int)+1) ω ω,ae i]
   exact ax (λ_=>ω) λ_=>hr s ⟨G.mono ω hI.1,hI.2⟩
 ·exact ed (λ_=>ω) λ_=>an (G.mono δ hI.1)
theorem G.iT{m:Nat}:G m aJ (cw,(dh,(bK,(bK,(dV,(eh,())))))):=G.zero m aJ
theorem sV(N:Nat)(hN:4000000≤N){b:aq}{s:au}{p:bE}{m:Nat}(h2:200≤m)(hm:m≤50000)(hb:G m aJ b)(hs:L3 50000 s)(hp:jZ 50000 p):Ok (λr=>G m aJ r.1) (A0 N b s p):=by
 unfold A0
 exact af (QH N hN hm hb.2.2.2.1 hs) λr h=>bw (λ_=>an G.iT) λ_=>af (aav N hN hm hb.2.2.1 hp) λr' h'=>bw (λ_=>an G.iT) λ_=>an ⟨hb.1,hb.2.1,G.mono h2 h',G.mono h2 h,hb.2.2.2.2⟩
end VM
end
section
namespace VM
open Go VM.F
theorem bx{α β:Type}{P:β→Prop}{o:Option α}{r:α}{f:α→Option β}(h:o=some r)(hf:Ok P (f r)):Ok P (o.bind f):=by rw[h];exact hf
theorem G.wf{m:Nat}(hm:m≤50000){b:aq}(h:G m aJ b):Eb b:=by
 obtain⟨h1,h2,h3,h4,h5,h6,_⟩:=h
 exact⟨⟨cA h1.1 ω,cA h2.1 ω,cA h3.1 ω,cA h4.1 ω,cA h5.1 ω,cA h6.1 ω,λx hx=>(h3.2 x hx).2.2.1,λx hx=>(h4.2 x hx).2.2.1⟩,cA h3.1 ω,cA h4.1 ω⟩
theorem dQ(N:Nat)(hN:5000000≤N){c:ag}{b:aq}{m:Nat}(hm:m≤50000)(h:G m aJ b):cE N c b=some (eu c b):=Ng N hN (G.wf hm h).w
theorem aaw{x:Int}(h:ji x):aH x:=by unfold ji at h;unfold aH;omega
theorem HR(N:Nat)(hN:4000000≤N)(t:tg)(p:Int):Ok (λr=>jZ 2 r.1) (Qz N t p):=by
 unfold Qz
 refine bx (xK N t) (bw (λ_=>an jZ.nil) λht=>bx (iM N p) (bw (λ_=>an jZ.nil) λ_=>af (bq N hN (gN _)) λa ha=>af (bq N hN ?_) λq hq=>af (lT N hN ω ω ha hq) λx hx=>af (Eg N hx) λ_ _=>ok_eq (λ_=>an jZ.nil) λ_=> ?_))
 ·have:=bF ht
  unfold nP kD at this
  exact gQ δ this.2.2.2.2.1.1 |> λh=>⟨h,wb this.2.2.2.2.1.2 δ⟩
 ·unfold Ky
  have hr: ∀a:Int,Ok (λ_=>True) (cond (aM a 0) (some ((2:Int),(0:Int))) (some ((5:Int),a))):=λa=>ok_eq (λ_=>an trivial) λ_=>an trivial
  refine af (hr _) λ_ _=>af (hr _) λ_ _=>af (qE N hN ω hx) λy hy=>an ⟨aI 2,λz hz=> ?_⟩
  rcases aX.1 hz with rfl|hz
  ·exact Bg.mono hx ω
  ·rw[cm.1 hz];exact Bg.mono hy ω
theorem NI(N:Nat)(hN:200000≤N){b:aq}{m:Nat}(hm:m≤50000)(h:G m aJ b)(id:Int):Ok (λ_=>True) (Kp N b id):=nX (uk N b (G.wf hm h).w.a hN id) trivial
theorem I9(N:Nat)(hN:5000000≤N)(c:ag){b:aq}{l:bL}{m:Nat}(h2:200≤m)(hm:m≤50000)(hb:G m aJ b):Ok (λr=>G m aJ r.1) (gE N c b l):=by
 unfold gE gE.b
 refine bx (dQ N hN hm hb) (bw (λ_=>an G.iT) λhB=>ax (λ_=>an G.iT) λhl=> ?_)
 obtain⟨hp,_⟩:=iq hB
 refine bk (len:=l.length) (F:=λn i (_:Unit)=>gE.l4 N n l c b (cw,(dh,(bK,(bK,(dV,(eh,())))))) i) (s:=()) (λi _=> ∀j,j<i→nP (l.getD j ny)) (λj hj=>ω) ω (λn i _ hi hI hr=> ?_) (λn _ hI=> ?_)
 all_goals unfold gE.l4 gE.dH
 ·rw[aw (x:=(i:Int)+1) ω ω,ae i]
  refine ax (λ_=>aA ⟨ω,ω⟩ (bx (xK N _) (bw (λ_=>an G.iT) λht=>hr () λj hj=> ?_))) λ_=>ω
  by_cases e:j=i
  ·rw[e];exact bF ht
  ·exact hI j ω
 ·refine ax (λ_=>ω) λ_=> ?_
  refine bk (len:=l.length) (F:=λn i (s:au×bE)=>gE.xi N n l c b (cw,(dh,(bK,(bK,(dV,(eh,())))))) s.1 s.2 i) (s:=(_,_)) (λi s=>L3 (2*i) s.1∧jZ (2*i) s.2) ⟨G.nil,jZ.nil⟩ ω (λn i s hi hJ hr=> ?_) (λn s hJ=> ?_)
  all_goals unfold gE.xi gE.uv
  ·have ht:=hI i hi
   unfold nP kD at ht
   have Py:=hJ.1.1
   have Wb:=hJ.2.1
   have g64: ∀x:Int,0≤x∧x≤1000000→aH x:=λx h=>jD ω ω
   dsimp only
   rw[aw (x:=(i:Int)+1) ω ω,ae i,aE]
   refine ax (λ_=>aA ⟨ω,ω⟩ (af (NI N ω hm hb _) λ_ _=>bw (λ_=>an G.iT) λ_=>af (NI N ω hm hb _) λ_ _=>bw (λ_=>an G.iT) λ_=>ed (λ_=>an G.iT) λfA=>aD ?_ (aA ⟨ht.2.2.2.1.1,ω⟩ (af (HR N ω _ _) λr h=>aD ?_ (hr (_,_) ⟨?_,jZ.mono (jZ.app hJ.2 h) ω⟩))))) λ_=>ω
   ·rw[aW,aK];omega
   ·have:=h.1;omega
   ·have hq:aH (l.getD i ny).2.2.2.1:=⟨gQ δ ht.2.2.2.2.1.1,wb ht.2.2.2.2.1.2 δ⟩
    have lA:aH (l.getD i ny).2.2.1:=g64 _ ⟨ht.2.2.2.1.1,gQ (lG ht.2.2.2.1.2) δ⟩
    have h1:=G.app (G.app hJ.1 (G3 (g64 _ ⟨ht.1.1,gQ ht.1.2 δ⟩) lA hq)) (G3 (g64 _ ⟨ht.2.1.1,gQ ht.2.1.2 δ⟩) lA (gN (0-(l.getD i ny).2.2.2.1)))
    rw[bM]at h1
    exact G.mono ω h1
  ·exact ax (λ_=>ω) λ_=>af (sV N ω h2 hm hb (G.mono ω hJ.1) (jZ.mono hJ.2 ω)) λr h=>an h
end VM
end
section
namespace VM
open Go VM.F
def HS(k:Nat)(l:pt):Prop:= ∀x∈l,Bg k x
theorem HS.mono{j k:Nat}{l:pt}(h:HS j l)(hk:j≤k):HS k l:=λx hx=>Bg.mono (h x hx) hk
theorem HS.at{k:Nat}{l:pt}(h:HS k l)(h1:1≤k)(i:Nat):Bg k (l.getD i (false,pH)):=by
 by_cases hk:i<l.length
 ·rw[aR,bl hk];exact h _ (eL hk)
 ·rw[aR,gP ω];exact Bg.mono Bg.zero h1
theorem HS.set{k:Nat}{l:pt}{x:aF}(h:HS k l)(hx:Bg k x)(i:Nat):HS k (l.set i x):=λy hy=>by
 rcases tA hy with hy|rfl
 ·exact h y hy
 ·exact hx
theorem HS.rep{k n:Nat}(h:1≤k):HS k (List.replicate n (false,pH)):=λx hx=>by
 rw[(List.mem_replicate.1 hx).2];exact Bg.mono Bg.zero h
theorem aax(N:Nat)(hN:5000000≤N)(c:ag){b:aq}{m:Nat}(hm:m≤50000)(hb:G m aJ b):Ok (λr=>(r.2=0→eu c b=true∧r.1.length=4)∧HS 20 r.1) (rL N c b):=by
 unfold rL rL.b
 have w:=(G.wf hm hb).w
 refine bx (dQ N hN hm hb) (bw (λ_=>an ⟨λh=>absurd h δ,λx hx=>nomatch hx⟩) λhB=>aau ⟨ω,ω,ω⟩ ?_)
 obtain⟨hp,Wi⟩:=iq hB
 obtain⟨h6,hbk⟩:=CV (vn hB)
 refine bk (len:=c.1.length) (F:=λn i (s:pt)=>rL.l5 N n c b s i) (λi s=>s.length=4∧HS (8+i) s) ⟨ck ..,HS.rep ω⟩ ω (λn i s hi hI hr=> ?_) (λn s hI=> ?_)
 all_goals unfold rL.l5 rL.fi
 ·have hk:=hbk i hi
  have hl:=hI.1
  rw[aw (x:=(i:Int)+1) ω ω,ae i,aE]
  have in1: ∀{x y:Option (pt×Int)},Ok (λr=>(r.2=0→eu c b=true∧r.1.length=4)∧HS 20 r.1) x→Ok (λr=>(r.2=0→eu c b=true∧r.1.length=4)∧HS 20 r.1) (cond (aZ (c.1.getD i a7).1 s.length) x y):=λh=>aA ⟨hk.1,wb hk.2 (show(3:Int)<(s.length:Int)by omega)⟩ h
  exact ax (λ_=>aA ⟨ω,ω⟩ (in1 (bx (xJ N w.s ω 0 (i:Int)) (af (bq N ω (WX w.qs 0 (i:Int))) λa ha=>aA ⟨ω,ω⟩ (af (bq N ω (aaw (Nr Wi ω))) λp hp=>af (lT N ω ω ω ha hp) λx hx=>af (kZ N ω ω (HS.at hI.2 ω _) (Bg.mono hx ω)) λy hy=>in1 (hr _ ⟨by rw[bB];exact hl,HS.set (HS.mono hI.2 ω) hy _⟩)))))) λ_=>ω
 ·exact ax (λ_=>ω) λ_=>an ⟨λ_=>⟨hB,hI.1⟩,HS.mono hI.2 ω⟩
theorem Ja(N:Nat)(hN:5000000≤N)(c:ag)(hc:aH (asQ c)){b:aq}{m:Nat}(hm:m≤50000)(hb:G m aJ b)(next:Int):Ok (λr=>G 4 (.slice eR) r.1) (vq N c b next):=by
 unfold vq vq.b
 refine af (aax N hN c hm hb) λz hz=>bu (λ_=>an G.nil) λh0=>ax (λ_=>an G.nil) λh1=>ax (λ_=>an G.nil) λh2=> ?_
 obtain⟨hB,hl4⟩:=hz.1 h0
 obtain⟨hp,Wi⟩:=iq hB
 obtain⟨h6,hbk⟩:=CV (vn hB)
 refine bk (len:=4) (F:=λn k (s:Int×aO)=>vq.l6 N n s.1 c b z.1 s.2 k) (s:=(_,_)) (λk s=>G k (.slice eR) s.2∧next≤s.1∧s.1≤next+k) ⟨G.nil,ω,ω⟩ ω (λn k s hk hI hr=> ?_) (λn s hI=> ?_)
 all_goals unfold vq.l6 vq.tb
 ·have Py:=hI.1.1
  have Wb:=hI.2
  rw[aw (x:=(k:Int)+1) ω ω,ae k]
  have sL:=hr s ⟨G.mono ω hI.1,ω,ω⟩
  refine ax (λ_=>bx (QA N ω c ω (k:Int)) (aA ⟨ω,ω⟩ (af (xg N ω ω (HS.at hz.2 ω _)) λu hu=>ok_eq (λ_=>sL) λiI=>af (bq N ω hc) λv hv=>af (pS N ω ω ω hu hv) λ_ _=>ed (λ_=>sL) λ_=> ?_))) λ_=>ω
  have anh:iQ c (k:Int)≠[]:=λe=>iI (by rw[e];rfl)
  have hh:0≤(iQ c (k:Int)).getD 0 0∧(iQ c (k:Int)).getD 0 0<(c.1.length:Int):=by
   have h1:=anh
   unfold iQ at h1 ⊢
   rw[vn hB,aj rfl]at h1 ⊢
   have:=C0 h1
   omega
  have hl0:0<(iQ c (k:Int)).length:=o0.2 anh
  have hpx:=Nr Wi (i:=((iQ c (k:Int)).getD 0 0).toNat) ω
  have hj: ∀q:Int,aH q→Ok (λr=>G 4 (.slice eR) r.1) (vq.BT N (vq.l6 N n) s.1 c b z.1 s.2 (k:Int) (iQ c (k:Int)) q):=λq hq=>by
   unfold vq.BT vq.vW
   rw[aw (x:=(k:Int)+1) ω ω,ae k,aw (x:=s.1+1) ω ω]
   have zY: ∀d:Int,aH d→Ok (λr=>G 4 (.slice eR) r.1) (cond (small (s.2.length+[((s.1,((iQ c (k:Int)).getD 0 0,(d,(q,())))):cy)].length)) (vq.l6 N n (s.1+1) c b z.1 (s.2++[(s.1,((iQ c (k:Int)).getD 0 0,(d,(q,()))))]) ((k+1:Nat):Int)) none):=λd hd=>
    aD (by rw[List.length_singleton];omega) (hr (_,_) ⟨G.app hI.1 ⟨by show aH s.1;unfold aH;omega,(show aH ((iQ c (k:Int)).getD 0 0)from jD ω ω),hd,hq,trivial⟩,by dsimp only;omega,by dsimp only;omega⟩)
   exact ok_eq (λ_=>sL) λ_=>aA ⟨ω,ω⟩ (aA ⟨ω,ω⟩ (af (Eg N (HS.at hz.2 ω _)) λ_ _=>ax (λ_=>zY 2 (jD ω ω)) λ_=>zY 1 (jD ω ω)))
  have hb9:aH 1000000000:=by unfold aH;decide
  refine aA ⟨ω,ω⟩ (aA ⟨hh.1,by show(iQ c (k:Int)).getD 0 0<_;omega⟩ ?_)
  obtain⟨a,rfl,ha⟩:=hu
  have asS:=hpx
  unfold ji at asS
  rw[show(0:Int).toNat=0 from rfl]
  refine bx (dC N ω ω ω) (bx (R4 N hN ω (Fit.mono ha ω) ((Fit.i64 ω ω).mono ω)) (bx (tc N _) (bw (λ_=>hj _ hb9) λ_=>ax (λ_=>hj _ hb9) λ_=>hj _ (QG _))))
 ·exact ax (λ_=>ω) λ_=>an hI.1
end VM
end
section
namespace VM
open Go VM.F
theorem Gf(N:Nat)(hN:200000≤N){l:br}(hl:l.length≤100000)(a:Int):Ok (λr=>L3 6 r) (hZ N l a):=by
 unfold hZ hZ.b
 refine bk (len:=6) (F:=λn k (s:au)=>hZ.l3 N n l a s k) (λk s=>L3 k s) G.nil ω (λn k s hk hI hr=> ?_) (λn s hI=> ?_)
 all_goals unfold hZ.l3 hZ.lB
 ·have hs:=hI.1
  refine ax (λ_=> ?_) λ_=>ω
  refine bk (len:=l.length) (F:=λn' i (x:dd)=>hZ.l7 N (hZ.l3 N n) n' l a s (k:Int) x i) (λi x=>G 6 jA x) (G3 (jD ω ω) bt bt) ω (λn' i x hi hx eZ=> ?_) (λn' x hx=> ?_)
  all_goals unfold hZ.l7 hZ.pN
  ·rw[aw (x:=(i:Int)+1) ω ω,ae i]
   have h1:=eZ x hx
   repeat' first|exact h1|refine aA ⟨ω,ω⟩ ?_|refine ax (λ_=> ?_) (λ_=> ?_)|refine bu (λ_=> ?_) (λ_=> ?_)|refine ok_eq (λ_=> ?_) (λ_=> ?_)|(exfalso;omega)|exact eZ (_,(_,(_,_))) ⟨hx.1,gN _,hx.2.2.1,trivial⟩|exact eZ (_,(_,(_,_))) ⟨hx.1,hx.2.1,gN _,trivial⟩
  ·rw[aw (x:=(k:Int)+1) ω ω,ae k]
   have h1:=hr s (G.mono ω hI)
   have h2:=hr (s++[x]) ⟨by rw[aT,aK];omega,λy hy=>by
    rcases bo.1 hy with hy|hy
    ·exact G.mono ω (hI.2 y hy)
    ·rw[cm.1 hy];exact⟨hx.1,hx.2.1,hx.2.2.1,trivial⟩⟩
   repeat' first|exact h1|exact h2|refine aD (by rw[aK];omega) ?_|refine ax (λ_=> ?_) (λ_=> ?_)|(exfalso;omega)
 ·exact ax (λ_=>ω) λ_=>an hI
theorem Jb(N:Nat)(hN:200000≤N)(c:ag){l:au}(hl:l.length≤100000):Ok (λ_=>True) (qi N c l):=by
 unfold qi qi.b
 refine bx (nG N ω c) (bw (λ_=>an trivial) λ_=>kY (len:=l.length) (F:=λn i=>qi.l5 N n l c 33000000000 i) ω (λn i hi hr=> ?_) λn=> ?_)
 all_goals unfold qi.l5 qi.fi
 ·rw[aw (x:=(i:Int)+1) ω ω,ae i]
  dsimp only
  repeat' first|exact hr|exact an trivial|refine aA ⟨ω,ω⟩ ?_|refine aA (by rw[aw (x:=(i:Int)-1) ω ω];omega) ?_|refine ax (λ_=> ?_) (λ_=> ?_)|refine ed (λ_=> ?_) (λ_=> ?_)|refine ok_eq (λ_=> ?_) (λ_=> ?_)|(exfalso;omega)
 ·exact ax (λ_=>ω) λ_=>an trivial
theorem KF{k:Nat}(h:1≤k):Bg k (false,(([]:List Int),())):=Bg.mono Bg.zero h
theorem W9(N:Nat)(hN:4000000≤N)(c:ag){l:aG}{o:au}{m:Nat}(hm:m≤50000)(hl:G m (.slice ka) l)(ho:L3 m o)(k:Int):Ok (λr=>Bg 3 r.1) (jl N c l o k):=by
 have h1:=hl.1
 have h2:=ho.1
 unfold jl jl.b
 refine bx (AB N ω c ω) (bw (λ_=>an (KF ω)) λ_=>af (Jb N ω c ω) λ_ _=>bw (λ_=>an (KF ω)) λ_=>ax (λ_=>an (KF ω)) λ_=>ed (λ_=>an (KF ω)) λ_=> ?_)
 refine bk (len:=l.length) (F:=λn i (q:aF)=>jl.l7 N n l o k (false,(([]:List Int),())) q (false,(([]:List Int),())) (false,(([]:List Int),())) i) (λ_ q=>Bg 2 q) (KF ω) ω (λn i q hi hq hr=> ?_) (λn q hq=> ?_)
 all_goals unfold jl.l7 jl.pN
 ·rw[aw (x:=(i:Int)+1) ω ω,ae i]
  exact ax (λ_=>aA ⟨ω,ω⟩ (ok_eq (λ_=>aA ⟨ω,ω⟩ (af (bq N hN (G.at hl _).2.1) λr h=>hr r h)) λ_=>hr q hq)) λ_=>ω
 ·refine ax (λ_=>ω) λ_=> ?_
  refine bk (len:=o.length) (F:=λn i (z:aF×aF)=>jl.m5 N n o k (false,(([]:List Int),())) q z.1 z.2 i) (s:=(_,_)) (λ_ z=>Bg 2 z.1∧Bg 2 z.2) ⟨KF ω,KF ω⟩ ω (λn i z hi hz hr=> ?_) (λn z hz=> ?_)
  all_goals unfold jl.m5 jl.nK
  ·rw[aw (x:=(i:Int)+1) ω ω,ae i]
   exact ax (λ_=>aA ⟨ω,ω⟩ (ok_eq (λ_=>aA ⟨ω,ω⟩ (af (bq N hN (G.at ho _).2.1) λr h=>aA ⟨ω,ω⟩ (af (bq N hN (G.at ho _).2.2.1) λr' h'=>hr (r,r') ⟨h,h'⟩))) λ_=>hr z hz)) λ_=>ω
  ·exact ax (λ_=>ω) λ_=>af (kZ N hN ω hq hz.1) λx hx=>af (xg N hN ω hx) λx hx=>af (xQ N hN ω hq hz.2) λy hy=>af (xg N hN ω hy) λy hy=>af (pS N hN ω ω hy hx) λ_ _=>ax (λ_=>an hy) λ_=>an hx
theorem NJ(N:Nat)(hN:4000000≤N){c:ag}{l:aG}{o:au}{m:Nat}(hm:m≤50000)(hc:G m aB c)(hl:G m (.slice ka) l)(ho:L3 m o):Ok (λr=>Bg 60000 r.1) (qj N c l o):=by
 have h1:=hl.1
 have h2:=ho.1
 have h3:=hc.1.1
 unfold qj qj.b
 refine bx (AB N ω c ω) (bw (λ_=>an (KF ω)) λ_=>af (Jb N ω c ω) λ_ _=>bw (λ_=>an (KF ω)) λ_=> ?_)
 refine bk (len:=c.1.length) (F:=λn i (t:aF)=>qj.l5 N n l o c (false,(([]:List Int),())) t i) (λi t=>Bg (8+i) t) (KF ω) ω (λn i t hi ht hr=> ?_) (λn t ht=> ?_)
 all_goals unfold qj.l5 qj.fi
 ·rw[aw (x:=(i:Int)+1) ω ω,ae i]
  exact ax (λ_=>af (W9 N hN c hm hl ho _) λx hx=>aA ⟨ω,ω⟩ (af (bq N hN (G.at hc.1 _).2.2.1) λr h=>af (lT N hN ω ω hx h) λy hy=>af (kZ N hN ω ht (Bg.mono hy ω)) λz hz=>hr z hz)) λ_=>ω
 ·exact ax (λ_=>ω) λ_=>an (Bg.mono ht ω)
theorem ani{m:Nat}{l:au}(h:L3 m l)(a:Int):G m (.slice ka) (posOf l a):=by
 refine⟨cA (TW a l) h.1,λy hy=> ?_⟩
 unfold posOf at hy
 split at hy
 ·obtain⟨x,hx,_,e⟩:=rF hy
  rw[e];exact⟨(h.2 x hx).2.1,(h.2 x hx).2.2.1,trivial⟩
 ·nomatch hy
theorem NK(N:Nat)(hN:200000≤N){l:au}{m:Nat}(hm:m≤50000)(h:L3 m l)(a:Int):Ok (G m (.slice ka)) (yk N l a):=nX (Qx N (cA h.1 ω) hN a) (ani h a)
theorem Gg(N:Nat)(hN:4000000≤N){c:ag}{b:aq}{l:br}{m:Nat}(h2:200≤m)(hm:m≤40000)(hc:G m aB c)(hb:G m aJ b)(hl:l.length≤1000)(a:Int):Ok (Bg 60000) (Xa N c b a l):=by
 have ho:=hb.2.2.2.2.2.1.1
 unfold Xa
 refine aD (by rw[bZ];omega) ?_
 dsimp only
 rw[cL]
 exact aD ω (af (NK N ω ω hb.2.2.2.1 a) λr h=>af (Gf N ω (by rw[aT];omega) a) λo h'=>af (NJ N hN ω hc h (G.mono ω h')) λx hx=>an hx)
end VM
end
section
namespace VM
open Go VM.F
theorem aay(N:Nat)(hN:4000000≤N){o:gu}{m:Nat}(ho:G m m6 o)(a:Int):Ok (λr=>Bg 4 r.1) (aaz N o a):=by
 unfold aaz
 have hw: ∀x:Int,Ok (λr:aF×Int=>Bg 4 r.1) ((kt N o.2.2.2.2.1).bind λr5=>(kt N (W .i64 x)).bind λr6=>(jY N r5 r6).bind λr7=>some (r7,(0:Int))):=λx=>
  af (bq N hN ho.2.2.2.2.1) λr h=>af (bq N hN (gN _)) λr' h'=>af (lT N hN ω ω h h') λy hy=>an hy
 exact bx (Aw N o) (bw (λ_=>an (KF ω)) λ_=>bx (iM N a) (bw (λ_=>an (KF ω)) λ_=>ok_eq (λ_=>ax (λ_=>an (KF ω)) λ_=>hw _) λ_=>ax (λ_=>an (KF ω)) λ_=>hw _))
theorem ah1{m:Nat}{a:aO}(h:G m (.slice eR) a)(id:Int):G m eR (gd a id).1:=by
 unfold gd
 split
 ·have: ∀l:aO,(∀x∈l,G m eR x)→G m eR (ui id l).1:=by
   intro l
   induction l with
   |nil=>intro _;exact G.zero m eR
   |cons x t ih=>
    intro hx
    rw[oC]
    split
    ·exact hx x (bp ..)
    ·exact ih λy hy=>hx y (a8 _ hy)
  exact this a h.2
 ·exact G.zero m eR
theorem xR(N:Nat)(hN:200000≤N){a:aO}{m:Nat}(hm:m≤50000)(h:G m (.slice eR) a)(id:Int):Ok (λr=>G m eR r.1) (DD N a id):=nX (Az N (cA h.1 ω) hN id) (ah1 h id)
theorem oJ(N:Nat)(hN:200000≤N){a:aG}{m:Nat}(hm:m≤50000)(h:G m (.slice ka) a)(id:Int):Ok (λ_=>True) (Ax N a id):=nX (rz N (cA h.1 ω) hN id) trivial
theorem mD(N:Nat)(hN:200000≤N){l:au}{m:Nat}(hm:m≤50000)(h:L3 m l)(a b:Int):Ok aH (vY N l a b):=nX (WT N (cA h.1 ω) hN a b) (WU (λx hx=>(h.2 x hx).2.2.1) a b)
theorem Gh(N:Nat)(hN:200000≤N){a:aO}{m:Nat}(hm:m≤50000)(h:G m (.slice eR) a)(id:Int):Ok (λr=>G m eR r.1∧r=gd a id) (DD N a id):=by
 obtain⟨r,e,hr⟩:=xR N hN hm h id
 exact⟨r,e,hr,lE (e.symm.trans (Az N (cA h.1 ω) hN id))⟩
theorem A2(N:Nat)(hN:5000000≤N){c:ag}{b:aq}{o:gu}{m:Nat}(h2:200≤m)(hm:m≤40000)(hc:G m aB c)(hb:G m aJ b)(ho:G m m6 o):Ok (λe=>e=0→ry o∧(gd b.2.1 o.2.1).2=true∧oY o.2.2.1 c.1.length) (Xb N c b o):=by
 have bad: ∀e:Int,e≠0→Ok (λe:Int=>e=0→ry o∧(gd b.2.1 o.2.1).2=true∧oY o.2.2.1 c.1.length) (some e):=λe h=>an λh'=>absurd h' h
 have Im:=hb.2.2.2.2.2.1.1
 unfold Xb
 refine bx (dQ N hN ω hb) (bw (λ_=>bad _ δ) λhB=>bx (Aw N o) (bw (λ_=>bad _ δ) λYH=>af (Gh N ω ω hb.2.1 _) λx ⟨hx,TY⟩=>bw (λ_=>bad _ δ) λhf=>af (oJ N ω ω hb.1 _) λ_ _=>bu (λ_=>bad _ δ) λ_=>ed (λ_=>bad _ δ) λhi=>aD (by rw[bZ];omega) ?_))
 have hr:=bF YH
 unfold ry yW at hr
 obtain⟨hp,_⟩:=iq hB
 dsimp only
 rw[cL]
 exact aD (by rw[aK];omega) (af (NK N ω ω hb.2.2.2.1 _) λr h=>af (Gf N ω (by rw[aT,aK];omega) _) λq h'=>af (W9 N ω c ω h (G.mono ω h') _) λt ht=>af (bq N ω hx.2.2.2.1) λv hv=>af (pS N ω ω ω ht hv) λ_ _=>ax (λ_=>bad _ δ) λ_=>aA ⟨hr.2.2.1.1,by rw[hp];exact hi⟩ (af (aay N ω ho _) λe he=>af (mD N ω ω hb.2.2.1 _ _) λg hg=>af (bq N ω hg) λy hy=>af (xQ N ω ω (Bg.mono hy ω) he) λz hz=>af (Gg N ω h2 hm hc hb (by rw[aK];omega) _) λu hu=>af (pS N ω ω ω hz hu) λ_ _=>ax (λ_=>bad _ δ) λ_=>an λ_=>⟨bF YH,by rw[←TY];exact hf,hi⟩))
theorem Sp(N:Nat)(hN:5000000≤N){c:ag}{b:aq}{h:cy}{a q p:Int}{m:Nat}(h2:200≤m)(hm:m≤40000)(hc:G m aB c)(hb:G m aJ b)(hh:G m eR h)(ha:aH a)(hq:aH q)(hp:aH p):Ok (λr=>G m aJ r.1∧G m eR r.2.1) (pT N c b h a q p):=by
 have ho:G m m6 (h.1,(a,(h.2.1,(W .i64 (3-h.2.2.1),(q,(p,())))))):=⟨hh.1,ha,hh.2.1,gN _,hq,hp,trivial⟩
 have dR: ∀e:Int,Ok (λr:aq×cy×Int=>G m aJ r.1∧G m eR r.2.1) (some ((cw,(dh,(bK,(bK,(dV,(eh,())))))),(a7,e))):=λe=>an ⟨G.iT,G.zero m eR⟩
 unfold pT pT.b
 have hj: ∀t:tg,Ok (λr=>G m aJ r.1∧G m eR r.2.1) (pT.j14 N q c b h (cw,(dh,(bK,(bK,(dV,(eh,())))))) a7 t):=λt=>by
  unfold pT.j14 pT.aaA
  exact af (I9 N hN c h2 ω hb) λr hr=>bu (λ_=>dR _) λ_=>an ⟨hr,hh.1,hh.2.1,hh.2.2.1,gN _,trivial⟩
 exact bx (dQ N hN ω hb) (bw (λ_=>dR _) λ_=>bx (xf N h) (bw (λ_=>dR _) λ_=>ax (λ_=>dR _) λ_=>ax (λ_=>dR _) λ_=>ax (λ_=>dR _) λ_=>ax (λ_=>dR _) λ_=>ax (λ_=>dR _) λ_=>ax (λ_=>dR _) λ_=>ax (λ_=>dR _) λ_=>af (A2 N hN h2 hm hc hb ho) λe _=>bu (λ_=>dR _) λ_=>ok_eq (λ_=>hj _) λ_=>hj _))
end VM
end
section
namespace VM
open Go VM.F
def Dk(k:Nat)(d:bb):Prop:=(∀x∈(d.1:List Int),0≤x∧x<18446744073709551616)∧0≤(d.2.1:Int)∧(d.2.1:Int)≤k
theorem Dk.mono{j k:Nat}{d:bb}(h:Dk j d)(hk:j≤k):Dk k d:=⟨h.1,h.2.1,gQ h.2.2 ω⟩
def ti:Nat:=1000000000
theorem KG(N:Nat){k:Nat}{d:bb}(hk:k≤ti)(h:Dk k d):Ok (λr=>(0≤r.1∧r.1<18446744073709551616)∧Dk (k+1) r.2) (F42 N d):=by
 obtain⟨h1,h2,h3⟩:=h
 unfold ti at hk
 unfold F42
 have hw: ∀i:Int,0≤i→i≤(k:Int)→0≤W .i64 (i+1)∧W .i64 (i+1)≤((k+1:Nat):Int):=λi h0 h1=>by rw[aw ω ω];omega
 have hd:Dk (k+1) (d.1,(W .i64 (d.2.1+1),d.2.2)):=⟨h1,hw _ h2 h3⟩
 have hg: ∀(l:List Int) (i:Int),(∀x∈l,0≤x∧x<18446744073709551616)→0≤l.getD i.toNat 0∧l.getD i.toNat 0<18446744073709551616:=λl i hl=>by
  by_cases hi:i.toNat<l.length
  ·rw[aR,bl hi];exact hl _ (eL hi)
  ·rw[aR,gP ω];decide
 exact ax (λfA=>aA ⟨h2,fA⟩ (an ⟨hg _ _ h1,hd⟩)) λ_=>an ⟨(show(0:Int)≤0∧(0:Int)<18446744073709551616 by decide),hd⟩
theorem rem_in{x y:Int}(h0:0≤x)(hy:0<y):0≤rem x y∧rem x y<y:=by
 unfold rem;rw[iH]
 exact⟨Int.tmod_nonneg _ h0,EE _ hy⟩
theorem la(N:Nat){k:Nat}{d:bb}{n:Int}(hn:0<n∧n<1000000)(h:Dk k d)(hk:k≤ti:=by first|decide|(unfold ti;omega)):Ok (λr=>(0≤r.1∧r.1<n)∧Dk (k+1) r.2) (tj N d n):=by
 unfold tj
 refine af (KG N hk h) λr hr=> ?_
 dsimp only
 rw[cv (x:=n) ω ω]
 have:=rem_in hr.1.1 hn.1
 refine ok_eq (λ_=>ω) λ_=>an ⟨?_,hr.2⟩
 dsimp only
 rw[aw ω ω]
 exact this
theorem y8(N:Nat){k:Nat}{d:bb}{n:Int}(hn:0<n∧n<1000000)(h:Dk k d)(hk:k≤ti:=by first|decide|(unfold ti;omega)):Ok (λr=>Dk (k+1) r.2) (YS N d n):=by
 unfold YS
 exact af (la N hn h hk) λr hr=>an hr.2
theorem Eh(N:Nat){k:Nat}{d:bb}(h:Dk k d)(hk:k≤ti:=by first|decide|(unfold ti;omega)):Ok (λr=>aH r.1∧Dk (k+1) r.2) (Ln N d):=by
 unfold Ln
 refine af (KG N hk h) λr hr=>ok_eq (λ_=>ω) λ_=> ?_
 dsimp only
 repeat' first|exact an ⟨gN _,hr.2⟩|refine ax (λ_=> ?_) (λ_=> ?_)|refine ok_eq (λ_=> ?_) (λ_=> ?_)|(exfalso;omega)
theorem Xc{x y:Int}(hy:0<y)(ZN:y<9223372036854775808):aH (rem x y):=by
 unfold rem;rw[iH]
 have h1:=EE x hy
 have h2: -y<x.tmod y:=by
  have:=EE (-x) hy
  rw[Int.neg_tmod]at this;omega
 unfold aH;omega
theorem BU{x y:Int}(hx:aH x)(hy:aH y):aH (mx x y):=by unfold mx;rw[iH];split<;>assumption
theorem aaB{x y:Int}(hx:aH x)(hy:aH y):aH (mn x y):=by unfold mn;rw[iH];split<;>assumption
theorem QI{x n:Int}(h:0≤x∧x<n)(hn:n≤1000000):aH x:=jD ω ω
abbrev U4(m:Nat)(l:jE):Prop:=G m (.slice pv) l
theorem DM{k a b c d e f g:Int}{m:Nat}(h0:aH k)(h1:aH a)(h2:aH b)(h3:aH c)(h4:aH d)(h5:aH e)(h6:aH f)(h7:aH g):G m pv (k,(a,(b,(c,(d,(e,(f,(g,())))))))):=⟨h0,h1,h2,h3,h4,h5,h6,h7,trivial⟩
theorem bA{x:Int}(h: -1000000≤x∧x≤1000000:=by decide):aH x:=jD h.1 h.2
theorem KH(N:Nat){k:Nat}{d:bb}(h:Dk k d)(c:ag){i:Int}(hi:0≤i∧i<(c.1.length:Int))(hc:c.1.length≤5)(hk:k≤100000000):Ok (λr=>G 0 pv r.1∧Dk (k+5) r.2) (T3 N d c i):=by
 unfold T3
 have hb:aH 1000000000000:=by unfold aH;decide
 have lA:aH i:=jD ω ω
 exact aA hi (af (la N δ h) λa ⟨_,hd⟩=>af (y8 N δ hd) λr hd=>qg (λ_=>af (Eh N hd) λr ⟨_,hd⟩=>ok_eq (λ_=>ω) λ_=>an ⟨DM bA bA bA lA bA bA bA (gN _),Dk.mono hd ω⟩) λ_=>an ⟨DM bA bA bA lA bA bA bA (BU bA (aaB hb (gN _))),Dk.mono hd ω⟩)
theorem NL(N:Nat){k:Nat}{d:bb}(h:Dk k d)(c:ag)(UU:1≤c.1.length)(hc:c.1.length≤5)(hk:k≤100000000):Ok (λr=>G 0 pv r.1∧Dk (k+10) r.2) (Xd N d c):=by
 unfold Xd
 have hb:aH 1000000000000:=by unfold aH;decide
 refine af (la N ⟨ω,ω⟩ h) λa ⟨ha,hd⟩=>af (la N δ hd) λb ⟨ff,hd⟩=> ?_
 dsimp only
 refine af (la N δ hd) λe ⟨he,hd⟩=>af (la N δ hd) λf ⟨hf,hd⟩=>aA ha (af (la N δ hd) λg ⟨_,hd⟩=>af (y8 N δ hd) λr hd=>qg (λ_=>af (Eh N hd) λr ⟨_,hd⟩=>ok_eq (λ_=>ω) λ_=>af (Eh N hd) λr' ⟨_,hd⟩=>ok_eq (λ_=>ω) λ_=>an ⟨DM bA bA (gN _) (QI ha ω) (gN _) bA (gN _) (gN _),Dk.mono hd ω⟩) λ_=>an ⟨DM bA bA (gN _) (QI ha ω) (gN _) bA (gN _) (BU bA (aaB hb (gN _))),Dk.mono hd ω⟩)
end VM
end
section
namespace VM
open Go VM.F
structure Cf(c:ag):Prop where
 g:G 5 aB c
 n:1≤c.1.length
theorem NM(N:Nat){k:Nat}{d:bb}(h:Dk k d){c:ag}(hc:Cf c)(hk:k≤10000000):Ok (λr=>G 0 pv r.1∧Dk (k+20) r.2) (Xe N d c):=by
 have hn:=hc.n
 have hl:=hc.g.1.1
 unfold Xe
 refine af (la N δ h) λa ⟨ha,hd⟩=> ?_
 dsimp only
 refine af (la N δ hd) λb ⟨hb,hd⟩=>af (la N ⟨ω,ω⟩ hd) λi ⟨hi,hd⟩=>af (la N δ hd) λe ⟨he,hd⟩=> ?_
 have hz: ∀(e:ia) (j:Nat) (d:bb),G 0 pv e→Dk j d→j≤k+20→Ok (λr=>G 0 pv r.1∧Dk (k+20) r.2) (some (e,d)):=λe j d he hd hj=>an ⟨he,Dk.mono hd hj⟩
 have hs: ∀{f:Int×bb→Option (ia×bb)},(∀x d,aH x→Dk (k+5) d→Ok (λr=>G 0 pv r.1∧Dk (k+20) r.2) (f (x,d)))→Ok (λr=>G 0 pv r.1∧Dk (k+20) r.2) ((Ln N e.2).bind f):=λhf=>af (Eh N hd) λr ⟨h1,h2⟩=>hf r.1 r.2 h1 (Dk.mono h2 ω)
 have hm: ∀{n:Int} {f:Int×bb→Option (ia×bb)},0<n∧n<1000000→(∀x d,Dk (k+5) d→Ok (λr=>G 0 pv r.1∧Dk (k+20) r.2) (f (x,d)))→Ok (λr=>G 0 pv r.1∧Dk (k+20) r.2) ((tj N e.2 n).bind f):=λhn hf=>af (la N hn hd) λr ⟨h1,h2⟩=>hf r.1 r.2 (Dk.mono h2 ω)
 repeat' first
  |refine ok_eq (λ_=> ?_) (λ_=> ?_)
  |(exfalso;omega)
  |(refine hs λx d' hx ZE=> ?_;dsimp only)
  |(refine hm δ λx d' ZE=> ?_;dsimp only)
  |(refine hz _ _ _ ?_ hd ω;refine⟨?_,?_,?_,?_,?_,?_,?_,?_,trivial⟩<;>first|exact gN _|exact bt|exact BU hx bA|exact Xc δ δ|exact(G.at hc.g.1 _).2.1)
  |(refine hz _ _ _ ?_ ZE ω;refine⟨?_,?_,?_,?_,?_,?_,?_,?_,trivial⟩<;>first|exact gN _|exact bt|exact BU hx bA|exact Xc δ δ|exact(G.at hc.g.1 _).2.1)
  |(refine hz _ _ _ ?_ h2 ω;refine⟨?_,?_,?_,?_,?_,?_,?_,?_,trivial⟩<;>first|exact gN _|exact bt|exact BU hx bA|exact Xc δ δ|exact(G.at hc.g.1 _).2.1)
  |exact af (KH N hd c hi hl ω) λr ⟨h1,h2⟩=>hz _ _ _ h1 h2 ω
  |exact af (NL N hd c hn hl ω) λr ⟨h1,h2⟩=>hz _ _ _ h1 h2 ω
  |refine aA hi ?_
  |(refine af (la N δ ZE) λr ⟨h1,h2⟩=> ?_)
end VM
end
section
namespace VM
open Go VM.F
theorem G.cat{m n:Nat}{e:Ty}{l k:List e.den}(h:G m (.slice e) l)(h':G n (.slice e) k):G (m+n) (.slice e) (l++k):=
 ⟨by have:=h.1;have:=h'.1;rw[aT];omega,λy hy=>by
  rcases bo.1 hy with hy|hy
  ·exact G.mono ω (h.2 y hy)
  ·exact G.mono ω (h'.2 y hy)⟩
theorem G.two{m:Nat}{e:Ty}{a b:e.den}(ha:G 0 e a)(hb:G 0 e b)(hm:2≤m):G m (.slice e) [a,b]:=
 ⟨hm,λy hy=>by
  rcases aX.1 hy with rfl|hy
  ·exact G.mono ω ha
  ·rw[cm.1 hy];exact G.mono ω hb⟩
theorem G.one{m:Nat}{e:Ty}{a:e.den}(ha:G 0 e a)(hm:1≤m):G m (.slice e) [a]:=
 ⟨hm,λy hy=>by rw[cm.1 hy];exact G.mono ω ha⟩
theorem sW{α:Type}(a b:α):[a,b].length=2:=rfl
theorem QJ(N:Nat)(hN:100≤N){k:Nat}{d:bb}(h:Dk k d)(c:ag)(hk:k≤10000000):Ok (λr=>U4 40 r.1∧Dk (k+50) r.2) (fP N d c):=by
 have s64: ∀i:Nat,i<100→aH (i:Int):=λi hi=>jD ω ω
 unfold fP fP.b
 refine jS (len:=5) (F:=λn i (s:bb×jE)=>fP.l3 N n s.1 s.2 i) (λi s=>Dk (k+2*i) s.1∧U4 (3*i) s.2) (λn i s hi hI hr=> ?_) (λn s hI=> ?_) 5 N 1 (d,[]) ω ω ω ⟨Dk.mono h ω,G.nil⟩
 all_goals unfold fP.l3 fP.lB
 ·have hl:=hI.2.1
  have lA:=s64 i ω
  dsimp only
  rw[aw (x:=(i:Int)+1) ω ω,ae i]
  have h2:U4 (3*i+2) (s.2++[((1:Int),((i:Int),fy)),((2:Int),((i:Int),((i:Int),((0:Int),((1:Int),bf)))))]):=G.cat hI.2 (G.two (DM bA lA bt bt bt bt bt bt) (DM bA lA lA bt bA bt bt bt) ω)
  have hl2:=h2.1
  exact ed (λ_=>aD (by rw[sW];omega) (af (y8 N δ hI.1 (by unfold ti;omega)) λr hd=>bw (λ_=>af (la N δ hd (by unfold ti;omega)) λr ⟨_,hd⟩=>aD (by rw[aK];omega) (hr (_,_) ⟨Dk.mono hd ω,G.mono ω (G.cat h2 (G.one (m:=1) (DM bA lA bt bt bt bt (gN _) bt) ω))⟩)) λ_=>hr (_,_) ⟨Dk.mono hd ω,G.mono ω h2⟩)) λ_=>ω
 ·refine ed (λ_=>ω) λ_=> ?_
  refine jS (len:=8) (F:=λn i (s:bb×jE)=>fP.l9 N n s.1 s.2 i) (λi s=>Dk (k+10+i) s.1∧U4 (15+i) s.2) (λn i s hi hI hr=> ?_) (λn s hI=> ?_) 8 N 5 s ω ω ω ⟨Dk.mono hI.1 ω,G.mono ω hI.2⟩
  all_goals unfold fP.l9 fP.zg
  ·have hl:=hI.2.1
   dsimp only
   rw[aw (x:=(i:Int)+1) ω ω,ae i]
   exact ed (λ_=>af (la N δ hI.1 (by unfold ti;omega)) λr ⟨_,hd⟩=>aD (by rw[aK];omega) (hr (_,_) ⟨Dk.mono hd ω,G.mono ω (G.cat hI.2 (G.one (m:=1) (DM bA (gN _) (s64 i ω) bt bA bt bt bt) ω))⟩)) λ_=>ω
  ·refine ed (λ_=>ω) λ_=> ?_
   refine jS (len:=8) (F:=λn i (s:bb×jE)=>fP.oF N n s.1 s.2 i) (λi s=>Dk (k+18+2*i) s.1∧U4 (23+2*i) s.2) (λn i s hi hI hr=> ?_) (λn s hI=> ?_) 8 N 1 s ω ω ω ⟨Dk.mono hI.1 ω,G.mono ω hI.2⟩
   all_goals unfold fP.oF fP.mX
   ·have hl:=hI.2.1
    have lA:=s64 i ω
    dsimp only
    rw[aw (x:=(i:Int)+1) ω ω,ae i]
    exact ed (λ_=>af (la N δ hI.1 (by unfold ti;omega)) λr ⟨_,hd⟩=>af (la N δ hd (by unfold ti;omega)) λr ⟨_,hd⟩=>aD (by rw[sW];omega) (hr (_,_) ⟨Dk.mono hd ω,G.mono ω (G.cat hI.2 (G.two (m:=2) (DM bA bt lA bt bt bt (gN _) bt) (DM bA bt lA bt bt bt (gN _) bt) ω))⟩)) λ_=>ω
   ·exact ed (λ_=>ω) λ_=>an ⟨G.mono ω hI.2,Dk.mono hI.1 ω⟩
theorem Xf{x:Nat}(h:x<1000000):W .i64 (((x+1:Nat):Int)-1)=(x:Int):=by rw[aw ω ω];omega
theorem T4(N:Nat)(hN:1000≤N){k:Nat}{d:bb}(h:Dk k d){c:ag}(hc:Cf c){NN:Int}(hm:0≤NN∧NN≤100)(hk:k≤10000):Ok (λr=>U4 200 r.1∧Dk (k+3000) r.2) (Ei N d c NN):=by
 have hn:=hc.n
 have hl:=hc.g.1.1
 unfold Ei Ei.b
 rw[aw (x:=NN+1) ω ω]
 refine af (QJ N ω h c ω) λr ⟨zf,hd⟩=>af (la N ⟨ω,ω⟩ hd (by unfold ti;omega)) λz ⟨hz,hd⟩=> ?_
 obtain⟨j,hj⟩: ∃j:Nat,z.1=(j:Int):=⟨z.1.toNat,ω⟩
 rw[hj]
 refine Ef (F:=λn x (s:bb×jE)=>Ei.l3 N n s.1 c s.2 x) (λx s=>x≤100∧Dk (k+100+25*(100-x)) s.1∧U4 (40+(100-x)) s.2) (λn x s hI hr=> ?_) (λn s hI=> ?_) j N (z.2,r.1) ω ⟨ω,Dk.mono hd ω,G.mono ω zf⟩
 all_goals unfold Ei.l3 Ei.lB
 ·obtain⟨hx,hd,hG⟩:=hI
  have hs:=hG.1
  rw[Xf ω]
  have put: ∀(e:ia) (d:bb) (q:Nat),G 0 pv e→Dk q d→q≤k+100+25*(100-(x+1))+25→Ok (λr=>U4 200 r.1∧Dk (k+3000) r.2) (cond (small (s.2.length+[e].length)) (Ei.l3 N n d c (s.2++[e]) (x:Int)) none):=λe d q he hd hq=>aD (by rw[aK];omega) (hr (_,_) ⟨ω,Dk.mono hd ω,G.mono ω (G.cat hG (G.one (m:=1) he ω))⟩)
  exact ax (λ_=>af (la N δ hd (by unfold ti;omega)) λa ⟨_,hd⟩=>ok_eq (λ_=>af (NM N hd hc ω) λr ⟨h1,h2⟩=>put _ _ _ h1 h2 ω) λ_=>ok_eq (λ_=>af (la N ⟨ω,ω⟩ hd (by unfold ti;omega)) λb ⟨hb,hd⟩=>af (KH N hd c hb hl ω) λr ⟨h1,h2⟩=>put _ _ _ h1 h2 ω) λ_=>af (NL N hd c hn hl ω) λr ⟨h1,h2⟩=>put _ _ _ h1 h2 ω) λ_=>ω
 ·exact ax (λ_=>ω) λ_=>an ⟨G.mono ω hI.2.2,Dk.mono hI.2.1 ω⟩
theorem NO(N:Nat)(hN:1000≤N){k:Nat}{d:bb}(h:Dk k d){c:ag}(hc:Cf c)(hk:k≤100000):Ok (λr=>U4 3 r.1∧Dk (k+100) r.2) (DN N d c):=by
 have hn:=hc.n
 have hl:=hc.g.1.1
 unfold DN DN.b
 refine af (la N δ h (by unfold ti;omega)) λz ⟨hz,hd⟩=> ?_
 obtain⟨j,hj⟩: ∃j:Nat,z.1=(j:Int):=⟨z.1.toNat,ω⟩
 rw[hj]
 refine Ef (F:=λn x (s:bb×jE)=>DN.l3 N n s.1 c s.2 x) (λx s=>x≤3∧Dk (k+1+25*(3-x)) s.1∧U4 (3-x) s.2) (λn x s hI hr=> ?_) (λn s hI=> ?_) j N (z.2,[]) ω ⟨ω,Dk.mono hd ω,G.nil⟩
 all_goals unfold DN.l3 DN.lB
 ·obtain⟨hx,hd,hG⟩:=hI
  have hs:=hG.1
  rw[Xf ω]
  have put: ∀(e:ia) (d:bb) (q:Nat),G 0 pv e→Dk q d→q≤k+1+25*(3-(x+1))+25→Ok (λr=>U4 3 r.1∧Dk (k+100) r.2) (cond (small (s.2.length+[e].length)) (DN.l3 N n d c (s.2++[e]) (x:Int)) none):=λe d q he hd hq=>aD (by rw[aK];omega) (hr (_,_) ⟨ω,Dk.mono hd ω,G.mono ω (G.cat hG (G.one (m:=1) he ω))⟩)
  exact ax (λ_=>af (y8 N δ hd (by unfold ti;omega)) λa hd=>qg (λ_=>af (la N ⟨ω,ω⟩ hd (by unfold ti;omega)) λb ⟨hb,hd⟩=>af (KH N hd c hb hl ω) λr ⟨h1,h2⟩=>put _ _ _ h1 h2 ω) λ_=>af (NM N hd hc ω) λr ⟨h1,h2⟩=>put _ _ _ h1 h2 ω) λ_=>ω
 ·exact ax (λ_=>ω) λ_=>an ⟨G.mono ω hI.2.2,Dk.mono hI.2.1 ω⟩
end VM
end
section
namespace VM
open Go VM.F
theorem fg{α:Type}{r:α}:Ok (λ_=>True) (some r):=an trivial
theorem T6(N:Nat)(k:Int):Ok (λs=>ByteArray.size s≤100) (aaC N k):=by
 unfold aaC
 repeat' first|refine ok_eq (λ_=> ?_) (λ_=> ?_)|exact an δ
theorem T7(N:Nat)(k f:Int):Ok (λ_=>True) (aaD N k f):=by
 unfold aaD ah2 ah3
 repeat' first|refine ok_eq (λ_=> ?_) (λ_=> ?_)|exact fg|refine af (Q:=λ_=>True) ?_ λ_ _=>fg
theorem Xg(N:Nat)(e:ia)(f:Int):Ok (λ_=>True) (aaE N e f):=by
 unfold aaE
 repeat' first|refine ok_eq (λ_=> ?_) (λ_=> ?_)|exact fg
theorem Xh(N:Nat)(e:ia)(f x:Int):Ok (λ_=>True) (aaF N e f x):=by
 unfold aaF
 repeat' first|refine ok_eq (λ_=> ?_) (λ_=> ?_)|exact fg
theorem Jc(N:Nat)(hN:1000≤N)(e:ia):Ok (λ_=>True) (rM N e):=by
 unfold rM rM.b ah4
 refine af (Q:=λ_=>True) (ed (λ_=>fg) λ_=>fg) λ_ _=>bw (λ_=>fg) λ_=>af (T6 N _) λs hs=> ?_
 refine bk (len:=ByteArray.size s) (F:=λn i (x:ia)=>rM.l6 N n e s x i) (λ_ _=>True) trivial ω (λn i x hi _ hr=> ?_) (λn x _=> ?_)
 all_goals unfold rM.l6 rM.tb
 ·rw[aw (x:=(i:Int)+1) ω ω,ae i]
  exact ax (λ_=>aA ⟨ω,ω⟩ (af (T7 N _ _) λ_ _=>aA ⟨ω,ω⟩ (af (Xg N _ _) λ_ _=>ax (λ_=>fg) λ_=>ax (λ_=>fg) λ_=>aA ⟨ω,ω⟩ (af (Xh N _ _ _) λy _=>hr y trivial)))) λ_=>ω
 ·exact ax (λ_=>ω) λ_=>fg
theorem G.ins{m:Nat}{e:Ty}{l:List e.den}{x:e.den}(h:G m (.slice e) l)(hx:G m e x)(a b c:Nat)(ha:c≤a):G (m+1) (.slice e) ((([]++List.drop b (List.take c l))++[x])++List.drop a (List.take l.length l)):=by
 have:=h.1
 refine⟨?_,λy hy=> ?_⟩
 ·simp only[cL,aT,dI,bO,aK];omega
 ·rw[cL,bM]at hy
  rcases bo.1 hy with hy|hy
  ·exact G.mono ω (h.2 y (jI (m8 hy)))
  ·rcases bo.1 hy with hy|hy
   ·rw[cm.1 hy];exact G.mono ω hx
   ·exact G.mono ω (h.2 y (jI (m8 hy)))
theorem KI{α:Type}{P:List α×Int→Prop}{l:List α}{x:α}{k:Nat}{e:Int}(hk:k≤l.length)(hl:l.length≤1000000)(h:P ((([]++List.drop (0:Int).toNat (List.take (k:Int).toNat l))++[x])++List.drop (k:Int).toNat (List.take (l.length:Int).toNat l),e)):
  Ok P (cond (jt 0 (k:Int) (l.length:Int) (l.length:Int)) (let v6:List α:=List.drop (0:Int).toNat (List.take (k:Int).toNat l);cond (small (([]:List α).length+v6.length)) (let v7:List α:=[]++v6;cond (small (v7.length+[x].length)) (let v8:List α:=v7++[x];cond (jt (k:Int) (l.length:Int) (l.length:Int) (l.length:Int)) (let v9:List α:=List.drop (k:Int).toNat (List.take (l.length:Int).toNat l);cond (small (v8.length+v9.length)) (some ((v8++v9),e)) none) none) none) none) none):=by
 dsimp only
 have t: ∀a b:Nat,(List.drop a (List.take b l)).length≤l.length:=λa b=>by rw[dI,bO];omega
 have t1:=t (0:Int).toNat (k:Int).toNat
 have t2:=t (k:Int).toNat (l.length:Int).toNat
 refine BS ⟨ω,ω,ω,ω⟩ (aD (by rw[bZ];omega) (aD ?_ (BS ⟨ω,ω,ω,ω⟩ (aD ?_ (an h)))))
 ·rw[cL,aK];omega
 ·rw[cL,aT,aK];omega
theorem Xi(N:Nat)(hN:200000≤N){a:aG}{m:Nat}(hm:m≤50000)(h:G m (.slice ka) a){id:Int}(bm:aH id):Ok (λr=>G (m+1) (.slice ka) r.1) (iv N a id):=by
 have hl:=h.1
 unfold iv iv.b
 refine bx (mL N ω hN) (bw (λ_=>an G.nil) λ_=>ax (λ_=>an G.nil) λ_=>ax (λ_=>an G.nil) λ_=>bx (im N ω hN id) (bu (λ_=>an G.nil) λ_=> ?_))
 have fin: ∀k:Nat,k≤a.length→Ok (λr=>G (m+1) (.slice ka) r.1) (iv.j9 N a id [] (k:Int)):=λk hk=>by
  unfold iv.j9 iv.M7
  have hx:G m ka (id,((1:Int),())):=⟨bm,(show aH 1 from bA),trivial⟩
  exact KI hk ω (by simpa using G.ins h hx k 0 k (aI _))
 refine kY (len:=a.length) (F:=λn i=>iv.l7 N n a id [] i) ω (λn i hi hr=> ?_) (λn=> ?_)
 all_goals unfold iv.l7 iv.pN
 ·rw[aw (x:=(i:Int)+1) ω ω,ae i]
  exact ax (λ_=>aA ⟨ω,ω⟩ (ax (λ_=>hr) λ_=>fin i ω)) λ_=>ω
 ·exact ax (λ_=>ω) λ_=>fin _ (aI _)
end VM
end
section
namespace VM
open Go VM.F
theorem G4q{m:Nat}{x:cy}{q:Int}(h:G m eR x)(hq:aH q):G m eR (x.1,(x.2.1,(x.2.2.1,(q,x.2.2.2.2)))):=⟨h.1,h.2.1,h.2.2.1,hq,trivial⟩
theorem G4b{m:Nat}{x:cy}{q:Int}(h:G m eR x)(hq:aH q):G m eR (x.1,(q,x.2.2)):=⟨h.1,hq,h.2.2⟩
theorem G2b{m:Nat}{x:FF}{q:Int}(h:G m ka x)(hq:aH q):G m ka (x.1,(q,x.2.2)):=⟨h.1,hq,trivial⟩
theorem KJ(N:Nat)(hN:200000≤N){l:aO}(hl:l.length≤100000):Ok (λ_=>True) (mh N l):=nX (uj N hl hN) trivial
theorem aaG(N:Nat)(hN:200000≤N){a:aG}{l:aO}{x:cy}{m:Nat}(hm:m≤50000)(ha:G m (.slice ka) a)(h:G m (.slice eR) l)(hx:G 0 eR x):Ok (λr=>G (m+1) (.slice eR) r.1) (fm N a l x):=by
 have h1:=ha.1
 have hl:=h.1
 have fin: ∀k:Nat,k≤l.length→Ok (λr=>G (m+1) (.slice eR) r.1) (fm.BT N l x [] (k:Int)):=λk hk=>by
  unfold fm.BT fm.vW
  exact KI hk ω (by simpa using G.ins h (G.mono (bG m) hx) k 0 k (aI _))
 have hj:Ok (λr=>G (m+1) (.slice eR) r.1) (fm.Jd N l x):=by
  unfold fm.Jd fm.BV
  refine kY (len:=l.length) (F:=λn i=>fm.oF N n l x [] i) ω (λn i hi hr=> ?_) (λn=> ?_)
  all_goals unfold fm.oF fm.mX
  ·rw[aw (x:=(i:Int)+1) ω ω,ae i]
   exact ax (λ_=>aA ⟨ω,ω⟩ (ax (λ_=>hr) λ_=>fin i ω)) λ_=>ω
  ·exact ax (λ_=>ω) λ_=>fin _ (aI _)
 unfold fm fm.b
 exact bx (w3 N ω ω hN) (bw (λ_=>an G.nil) λ_=>af (KJ N hN (by rw[aK];omega)) λ_ _=>bw (λ_=>an G.nil) λ_=>bx (im N ω hN _) (ok_eq (λ_=>an G.nil) λ_=>bu (λ_=>an G.nil) λ_=>bx (rA N ω hN _) (qg (λ_=>an G.nil) λ_=>ok_eq (λ_=>bx (qB N ω hN _) (bu (λ_=>an G.nil) λ_=>hj)) λ_=>hj)))
theorem Xj(N:Nat)(hN:200000≤N){l:aO}{m:Nat}(hm:m≤50000)(h:G m (.slice eR) l){id q:Int}(hq:aH q):Ok (λr=>G m (.slice eR) r.1) (nY N l id q):=by
 have hl:=h.1
 unfold nY nY.b
 refine af (KJ N hN ω) λ_ _=>bw (λ_=>an G.nil) λ_=>ax (λ_=>an G.nil) λ_=>ax (λ_=>an G.nil) λ_=>bx (rA N ω hN _) (bw (λ_=>an G.nil) λ_=>aD (by rw[bZ];omega) ?_)
 rw[cL]
 refine bk (len:=l.length) (F:=λn i s=>nY.l8 N n id q s i) (λ_ s=>s.length=l.length∧G m (.slice eR) s) ⟨rfl,h⟩ ω (λn i s hi hI hr=> ?_) (λn s hI=> ?_)
 all_goals unfold nY.l8 nY.CQ
 ·rw[aw (x:=(i:Int)+1) ω ω,ae i]
  have hs:=hI.1
  have hx:=G.at hI.2 (i:Int).toNat
  exact ax (λ_=>aA ⟨ω,ω⟩ (ok_eq (λ_=>aA ⟨ω,ω⟩ (hr _ ⟨by rw[bB];exact hs,G.set hI.2 (G4q hx hq) _⟩)) λ_=>hr s hI)) λ_=>ω
 ·have hs:=hI.1
  exact ax (λ_=>ω) λ_=>an hI.2
theorem Xk(N:Nat)(a b:Int):Ok (λr=>aH r.1) (T8 N a b):=by
 have h: ∀(x:Int) (t:Bool),0≤x∧x<5→Ok (λr:Int×Bool=>aH r.1) (some (x,t)):=λx t hx=>an (QI hx δ)
 unfold T8
 repeat' first|refine ok_eq (λ_=> ?_) (λ_=> ?_)|exact h _ _ δ
theorem KK(N:Nat)(hN:200000≤N){l:aG}{m:Nat}(hm:m≤50000)(h:G m (.slice ka) l)(id k:Int):Ok (λr=>G m (.slice ka) r.1) (lU N l id k):=by
 have hl:=h.1
 unfold lU lU.b
 refine bx (mL N ω hN) (bw (λ_=>an G.nil) λ_=>bx (im N ω hN _) (ok_eq (λ_=>an G.nil) λ_=>af (Xk N _ _) λz hz=>bw (λ_=>an G.nil) λ_=>aD (by rw[bZ];omega) ?_))
 rw[cL]
 refine bk (len:=l.length) (F:=λn i s=>lU.xi N n id z.1 s i) (λ_ s=>s.length=l.length∧G m (.slice ka) s) ⟨rfl,h⟩ ω (λn i s hi hI hr=> ?_) (λn s hI=> ?_)
 all_goals unfold lU.xi lU.uv
 ·rw[aw (x:=(i:Int)+1) ω ω,ae i]
  have hs:=hI.1
  have hx:=G.at hI.2 (i:Int).toNat
  exact ax (λ_=>aA ⟨ω,ω⟩ (ok_eq (λ_=>aA ⟨ω,ω⟩ (hr _ ⟨by rw[bB];exact hs,G.set hI.2 (G2b hx hz) _⟩)) λ_=>hr s hI)) λ_=>ω
 ·have hs:=hI.1
  exact ax (λ_=>ω) λ_=>an hI.2
theorem QK(N:Nat)(hN:200000≤N){a:aG}{l:aO}{m:Nat}(hm:m≤50000)(ha:G m (.slice ka) a)(h:G m (.slice eR) l){id to:Int}(hto:aH to):Ok (λr=>G m (.slice eR) r.1) (nZ N a l id to):=by
 have h1:=ha.1
 have hl:=h.1
 unfold nZ nZ.b
 refine bx (w3 N ω ω hN) (bw (λ_=>an G.nil) λ_=>bx (rA N ω hN _) (bx (im N ω hN _) (bw (λ_=>an G.nil) λ_=>ok_eq (λ_=>an G.nil) λ_=>bu (λ_=>an G.nil) λ_=>bu (λ_=>an G.nil) λ_=>aD (by rw[bZ];omega) ?_)))
 rw[cL]
 refine bk (len:=l.length) (F:=λn i s=>nZ.oF N n id to s i) (λ_ s=>s.length=l.length∧G m (.slice eR) s) ⟨rfl,h⟩ ω (λn i s hi hI hr=> ?_) (λn s hI=> ?_)
 all_goals unfold nZ.oF nZ.mX
 ·rw[aw (x:=(i:Int)+1) ω ω,ae i]
  have hs:=hI.1
  have hx:=G.at hI.2 (i:Int).toNat
  exact ax (λ_=>aA ⟨ω,ω⟩ (ok_eq (λ_=>aA ⟨ω,ω⟩ (hr _ ⟨by rw[bB];exact hs,G.set hI.2 (G4b hx hto) _⟩)) λ_=>hr s hI)) λ_=>ω
 ·have hs:=hI.1
  exact ax (λ_=>ω) λ_=>an hI.2
theorem NP(N:Nat)(hN:200000≤N){l:aO}{m:Nat}(hm:m≤50000)(h:G m (.slice eR) l)(id:Int):Ok (λr=>r.length≤m) (rN N l id):=by
 have hl:=h.1
 unfold rN rN.b
 refine af (KJ N hN ω) λ_ _=>bw (λ_=>an (bG _)) λ_=>bk (len:=l.length) (F:=λn i s=>rN.l5 N n l id s i) (λi s=>s.length≤i) (bG _) ω (λn i s hi hI hr=> ?_) (λn s hI=> ?_)
 all_goals unfold rN.l5 rN.fi
 ·rw[aw (x:=(i:Int)+1) ω ω,ae i]
  exact ax (λ_=>aA ⟨ω,ω⟩ (ok_eq (λ_=>aA ⟨ω,ω⟩ (aD (by rw[aK];omega) (hr _ (by rw[aT,aK];omega)))) λ_=>hr s ω)) λ_=>ω
 ·exact ax (λ_=>ω) λ_=>an ω
abbrev L6(m:Nat)(l:br):Prop:=G m (.slice m6) l
theorem Xl(N:Nat)(hN:200000≤N){l:br}{a:List Int}{m:Nat}(hm:m≤50000)(h:L6 m l)(ha:a.length≤m):Ok (λr=>L6 m r) (fT N l a):=by
 have hl:=h.1
 unfold fT fT.b
 refine bx (il N ω hN) (bw (λ_=>an G.nil) λ_=>bk (len:=l.length) (F:=λn i s=>fT.l5 N n l a s i) (λi s=>L6 i s) G.nil ω (λn i s hi hI hr=> ?_) (λn s hI=> ?_))
 all_goals unfold fT.l5 fT.fi
 ·have hs:=hI.1
  refine ax (λ_=> ?_) λ_=>ω
  refine bk (len:=a.length) (F:=λn' j b=>fT.l9 N (fT.l5 N n) n' l a s (i:Int) b j) (λ_ _=>True) trivial ω (λn' j b hj _ eZ=> ?_) (λn' b _=> ?_)
  all_goals unfold fT.l9 fT.zg
  ·rw[aw (x:=(j:Int)+1) ω ω,ae j]
   exact ax (λ_=>qg (λ_=>eZ _ trivial) λ_=>aA ⟨ω,ω⟩ (aA ⟨ω,ω⟩ (eZ _ trivial))) λ_=>ω
  ·rw[aw (x:=(i:Int)+1) ω ω,ae i]
   have hx:G 0 m6 (l.getD (i:Int).toNat fy):=G.at h _
   exact ax (λ_=>ω) λ_=>bw (λ_=>aA ⟨ω,ω⟩ (aD (by rw[aK];omega) (hr _ (G.cat hI (G.one hx (aI 1)))))) λ_=>hr s (G.mono ω hI)
 ·exact ax (λ_=>ω) λ_=>an (G.mono hl hI)
theorem NQ(N:Nat)(hN:5000000≤N)(c:ag){b:aq}{m:Nat}(hm:m≤50000)(hb:G m aJ b)(id:Int):Ok (λr=>G m aJ r.1) (KL N c b id):=by
 unfold KL
 exact bx (dQ N hN hm hb) (bw (λ_=>an G.iT) λ_=>af (oJ N ω hm hb.1 _) λ_ _=>ok_eq (λ_=>an G.iT) λ_=>af (NP N ω hm hb.2.1 _) λa ha=>af (Xl N ω hm hb.2.2.2.2.2.1 ha) λr hr=>an ⟨hb.1,hb.2.1,hb.2.2.1,hb.2.2.2.1,hb.2.2.2.2.1,hr,trivial⟩)
theorem C3(N:Nat)(hN:200000≤N){l:aO}{m:Nat}(hm:m≤50000)(h:G m (.slice eR) l)(id:Int):Ok (λr=>G m (.slice eR) r) (px N l id):=by
 have hl:=h.1
 unfold px px.b
 refine bx (uq N ω hN) (bw (λ_=>an G.nil) λ_=>bk (len:=l.length) (F:=λn i s=>px.l5 N n l id s i) (λi s=>G i (.slice eR) s) G.nil ω (λn i s hi hI hr=> ?_) (λn s hI=> ?_))
 all_goals unfold px.l5 px.fi
 ·have hs:=hI.1
  have hx:G 0 eR (l.getD (i:Int).toNat a7):=G.at h _
  rw[aw (x:=(i:Int)+1) ω ω,ae i]
  exact ax (λ_=>aA ⟨ω,ω⟩ (bu (λ_=>aA ⟨ω,ω⟩ (aD (by rw[aK];omega) (hr _ (G.cat hI (G.one hx (aI 1)))))) λ_=>hr s (G.mono ω hI))) λ_=>ω
 ·exact ax (λ_=>ω) λ_=>an (G.mono hl hI)
theorem T9(N:Nat)(hN:200000≤N){l:br}{m:Nat}(hm:m≤50000)(h:L6 m l)(a id:Int):Ok (λr=>L6 m r.1) (n0 N l a id):=by
 have hl:=h.1
 unfold n0 n0.b
 refine bx (il N ω hN) (bw (λ_=>an G.nil) λ_=>bk (len:=l.length) (F:=λn i s=>n0.l5 N n l a id s i) (λi s=>L6 i s) G.nil ω (λn i s hi hI hr=> ?_) (λn s hI=> ?_))
 all_goals unfold n0.l5 n0.fi
 ·have hs:=hI.1
  have hx:G 0 m6 (l.getD (i:Int).toNat fy):=G.at h _
  rw[aw (x:=(i:Int)+1) ω ω,ae i]
  have h1:=hr s (G.mono ω hI)
  have h2:=hr _ (G.cat hI (G.one hx (aI 1)))
  repeat' first|exact h1|exact h2|refine aD (by rw[aK];omega) ?_|refine aA ⟨ω,ω⟩ ?_|refine ax (λ_=> ?_) (λ_=> ?_)|refine bu (λ_=> ?_) (λ_=> ?_)|(exfalso;omega)
 ·exact ax (λ_=>ω) λ_=>ok_eq (λ_=>an G.nil) λ_=>an (G.mono hl hI)
end VM
end
section
namespace VM
open Go VM.F
theorem G6q{m:Nat}{x:gu}{q:Int}(h:G m m6 x)(hq:aH q):G m m6 (x.1,(x.2.1,(x.2.2.1,(x.2.2.2.1,(q,x.2.2.2.2.2))))):=⟨h.1,h.2.1,h.2.2.1,h.2.2.2.1,hq,h.2.2.2.2.2⟩
theorem aaH(N:Nat)(hN:200000≤N){l:br}{m:Nat}(hm:m≤50000)(h:L6 m l)(a d:Int):Ok (λr=>L6 m r) (dS N l a d):=by
 have hl:=h.1
 unfold dS dS.b
 refine bx (il N ω hN) (bw (λ_=>an G.nil) λ_=>bk (len:=l.length) (F:=λn i s=>dS.l5 N n l a d s i) (λi s=>L6 i s) G.nil ω (λn i s hi hI hr=> ?_) (λn s hI=> ?_))
 all_goals unfold dS.l5 dS.fi
 ·have hs:=hI.1
  have hx:G 0 m6 (l.getD (i:Int).toNat fy):=G.at h _
  have fin: ∀k:Nat,k≤s.length→Ok (λr=>L6 m r) (dS.Jd N (dS.l5 N n) l a d s (i:Int) (k:Int)):=λk hk=>by
   unfold dS.Jd dS.BV
   rw[aw (x:=(i:Int)+1) ω ω,ae i]
   dsimp only
   have t: ∀a b:Nat,(List.drop a (List.take b s)).length≤s.length:=λa b=>by rw[dI,bO];omega
   have t1:=t (0:Int).toNat (k:Int).toNat
   have t2:=t (k:Int).toNat (s.length:Int).toNat
   refine BS ⟨ω,ω,ω,ω⟩ (aD ω (aA ⟨ω,ω⟩ (aD (by rw[aK];omega) (BS ⟨ω,ω,ω,ω⟩ (aD (by rw[aT,aK];omega) (hr _ ?_))))))
   simpa using G.ins hI (G.mono (bG i) hx) k 0 k (aI _)
  have h1:=hr s (G.mono ω hI)
  have hw:Ok (λr=>L6 m r) (dS.l9 N (dS.l5 N n) N l a d s (i:Int) 0):=by
   refine kY (len:=s.length) (F:=λn' j=>dS.l9 N (dS.l5 N n) n' l a d s (i:Int) j) ω (λn' j hj eZ=> ?_) (λn'=> ?_)
   all_goals unfold dS.l9 dS.zg
   ·rw[aw (x:=(j:Int)+1) ω ω,ae j]
    have hah: ∀x y:gu,Ok (λ_=>True) (Ua N x y):=λx y=>by unfold Ua;exact bu (λ_=>fg) λ_=>fg
    exact ax (λ_=>aA ⟨ω,ω⟩ (aA ⟨ω,ω⟩ (af (hah _ _) λ_ _=>qg (λ_=>eZ) λ_=>fin j ω))) λ_=>ω
   ·exact ax (λ_=>ω) λ_=>fin _ (aI _)
  rw[aw (x:=(i:Int)+1) ω ω,ae i]
  repeat' first|exact h1|exact hw|refine aA ⟨ω,ω⟩ ?_|refine ax (λ_=> ?_) (λ_=> ?_)|refine bu (λ_=> ?_) (λ_=> ?_)|(exfalso;omega)
 ·exact ax (λ_=>ω) λ_=>an (G.mono hl hI)
theorem Xm(N:Nat)(hN:200000≤N){l:br}{o:gu}{m:Nat}(hm:m≤50000)(h:L6 m l)(ho:G 0 m6 o):Ok (λr=>L6 m r.1∧aH r.2.2.1) (ch N l o):=by
 have hl:=h.1
 have fin: ∀(s:br) (q:Int) (t:bL),L6 m s→aH q→Ok (λr=>L6 m r.1∧aH r.2.2.1) (ch.j22 N s q t):=λs q t hs hq=>by
  have Li:=hs.1
  unfold ch.j22 ch.aaI
  refine bk (len:=s.length) (F:=λn i u=>ch.CK N n s q t u i) (λi u=>L6 i u) G.nil ω (λn i u hi hI hr=> ?_) (λn u hI=> ?_)
  all_goals unfold ch.CK ch.Dx
  ·have hu:=hI.1
   have hx:G 0 m6 (s.getD (i:Int).toNat fy):=G.at hs _
   rw[aw (x:=(i:Int)+1) ω ω,ae i]
   have h1:=hr u (G.mono ω hI)
   have h2:=hr _ (G.cat hI (G.one hx (aI 1)))
   repeat' first|exact h1|exact h2|refine aD (by rw[aK];omega) ?_|refine aA ⟨ω,ω⟩ ?_|refine ax (λ_=> ?_) (λ_=> ?_)|(exfalso;omega)
  ·exact ax (λ_=>ω) λ_=>an ⟨G.mono Li hI,hq⟩
 have dR:Ok (λr:br×bL×Int×Int=>L6 m r.1∧aH r.2.2.1) (some ([],[],(0:Int),(1:Int))):=an ⟨G.nil,bt⟩
 unfold ch ch.b
 refine bx (il N ω hN) (bw (λ_=>dR) λ_=>bx (Aw N o) (bw (λ_=>dR) λ_=>aD (by rw[bZ];omega) (af (aaH N hN hm h _ _) λw hw=> ?_)))
 have hwl:=hw.1
 rw[cL]
 refine bk (len:=w.length) (F:=λn i (s:br×Int×bL)=>ch.l7 N n o s.1 s.2.1 s.2.2 w i) (s:=(_,(_,_))) (λi s=>L6 m s.1∧aH s.2.1∧s.2.2.length≤i) ⟨h,ho.2.2.2.2.1,bG _⟩ ω (λn i s hi hI hr=> ?_) (λn s hI=> ?_)
 all_goals unfold ch.l7 ch.pN
 ·obtain⟨hs,hq,ht⟩:=hI
  have f1:=fin s.1 s.2.1 s.2.2 hs hq
  have ah5: ∀(v:Int) (t:tg),Ok (λr=>L6 m r.1∧aH r.2.2.1) (ch.BT N (ch.l7 N n) o s.1 s.2.1 s.2.2 w (i:Int) v t):=λv t=>by
   unfold ch.BT ch.vW
   refine aD (by rw[aK];omega) (bk (len:=s.1.length) (F:=λn' j u=>ch.AY N (ch.l7 N n) n' o u (W .i64 (s.2.1-v)) (s.2.2++[t]) w (i:Int) v j) (λ_ u=>u.length=s.1.length∧L6 m u) ⟨rfl,hs⟩ (by have:=hs.1;omega) (λn' j u hj hJ eZ=> ?_) (λn' u hJ=> ?_))
   all_goals unfold ch.AY ch.yl
   ·have Li:=hs.1
    have Hk:=hJ.1
    rw[aw (x:=(j:Int)+1) ω ω,ae j]
    exact ax (λ_=>aA ⟨ω,ω⟩ (aA ⟨ω,ω⟩ (ok_eq (λ_=>aA ⟨ω,ω⟩ (aA ⟨ω,ω⟩ (eZ _ ⟨by rw[bB];exact Hk,G.set hJ.2 (G6q (G.at hJ.2 _) (gN _)) _⟩))) λ_=>eZ u hJ))) λ_=>ω
   ·have Hk:=hJ.1
    rw[aw (x:=(i:Int)+1) ω ω,ae i]
    exact ax (λ_=>ω) λ_=>hr (_,(_,_)) ⟨hJ.2,gN _,by dsimp only;rw[List.length_append,List.length_singleton];omega⟩
  have KM:Ok (λr=>L6 m r.1∧aH r.2.2.1) (ch.QL N (ch.l7 N n) o s.1 s.2.1 s.2.2 w (i:Int)):=by
   unfold ch.QL ch.KN
   rw[aw (x:=(i:Int)+1) ω ω,ae i]
   dsimp only
   have h1:=hr s ⟨hs,hq,ω⟩
   repeat' first|exact h1|exact ah5 _ _|refine aA ⟨ω,ω⟩ ?_|refine ok_eq (λ_=> ?_) (λ_=> ?_)
  repeat' first|exact f1|exact KM|refine aA ⟨ω,ω⟩ ?_|refine ax (λ_=> ?_) (λ_=> ?_)|refine ok_eq (λ_=> ?_) (λ_=> ?_)|(exfalso;omega)
 ·exact ax (λ_=>ω) λ_=>fin _ _ _ hI.1 hI.2.1
theorem Xn(N:Nat)(hN:5000000≤N){c:ag}{b:aq}{o:gu}{m:Nat}(h2:200≤m)(hm:m≤40000)(hc:G m aB c)(hb:G m aJ b)(ho:G 0 m6 o):Ok (λr=>G (m+1) aJ r.1) (jm N c b o):=by
 have Im:=hb.2.2.2.2.2.1.1
 have dR: ∀(t:bL) (e:Int),Ok (λr:aq×bL×Int×Int=>G (m+1) aJ r.1) (some ((cw,(dh,(bK,(bK,(dV,(eh,())))))),(t,((0:Int),e)))):=λt e=>an (G.zero (m+1) aJ)
 have KM: ∀(r:br) (t:bL) (q:Int),L6 m r→aH q→Ok (λr=>G (m+1) aJ r.1) (jm.QL N c b o (cw,(dh,(bK,(bK,(dV,(eh,())))))) r t q):=λr t q hr hq=>by
  have H9:=hr.1
  unfold jm.QL jm.KN
  have hx:G 0 m6 (o.1,(o.2.1,(o.2.2.1,(o.2.2.2.1,(q,o.2.2.2.2.2))))):=G6q ho hq
  exact af (I9 N hN c h2 ω hb) λz hz=>bu (λ_=>dR _ _) λ_=>by
   have Cv:G (m+1) aJ z.1:=G.mono ω hz
   exact ax (λ_=>aD (by rw[aK];omega) (an ⟨Cv.1,Cv.2.1,Cv.2.2.1,Cv.2.2.2.1,Cv.2.2.2.2.1,G.cat hr (G.one hx (aI 1)),trivial⟩)) λ_=>an ⟨Cv.1,Cv.2.1,Cv.2.2.1,Cv.2.2.2.1,Cv.2.2.2.2.1,G.mono ω hr,trivial⟩
 have hj7:Ok (λr=>G (m+1) aJ r.1) (jm.j7 N c b o (cw,(dh,(bK,(bK,(dV,(eh,()))))))):=by
  unfold jm.j7 jm.PG
  exact af (Xm N ω ω hb.2.2.2.2.2.1 ho) λz hz=>ax (λ_=>ok_eq (λ_=>dR _ _) λ_=>KM _ _ _ hz.1 hz.2) λ_=>KM _ _ _ hz.1 hz.2
 unfold jm jm.b
 refine af (A2 N hN h2 hm hc hb (G.mono (bG m) ho)) λe _=>bu (λ_=>dR _ _) λ_=>ax (λh0=> ?_) λ_=>hj7
 dsimp only
 exact aA (by rw[aw ω ω];omega) (ed (λ_=>dR _ _) λ_=>hj7)
end VM
end
