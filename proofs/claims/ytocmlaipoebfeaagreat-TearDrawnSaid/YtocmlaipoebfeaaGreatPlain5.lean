/- A part of the proof of TearDrawn of layer 29: what the functions compute, in plain words. -/
import Derived.Test.YtocmlaipoebfeaaGreatPlain4
set_option linter.all false
section
namespace VM
open Go VM.F
def Ok{α:Type}(P:α→Prop)(o:Option α):Prop:= ∃r,o=some r∧P r
theorem aj{α:Type}{P:α→Prop}{r:α}(h:P r):Ok P (some r):=⟨r,rfl,h⟩
theorem af{α β:Type}{P:β→Prop}{Q:α→Prop}{o:Option α}{f:α→Option β}(h:Ok Q o)(hf: ∀r,Q r→Ok P (f r)):Ok P (o.bind f):=by
 obtain⟨r,rfl,hr⟩:=h
 exact hf r hr
theorem kM{α:Type}{P:α→Prop}{o:Option α}{r:α}(h:o=some r)(hr:P r):Ok P o:=⟨r,h,hr⟩
theorem rW{α:Type}{P:α→Prop}{b:Bool}{x y:Option α}(hx:b=true→Ok P x)(hy:b=false→Ok P y):Ok P (cond b x y):=by
 cases b
 ·exact hy rfl
 ·exact hx rfl
theorem b8{α:Type}{P:α→Prop}{b:Bool}{x y:Option α}(hx:b=false→Ok P x)(hy:b=true→Ok P y):Ok P (cond (!b) x y):=by
 cases b
 ·exact hx rfl
 ·exact hy rfl
theorem aw{α:Type}{P:α→Prop}{a b:Int}{x y:Option α}(hx:a<b→Ok P x)(hy:b≤a→Ok P y):Ok P (cond (aG a b) x y):=by
 rw[bL]
 split
 ·exact hx (by assumption)
 ·exact hy (by omega)
theorem dC{α:Type}{P:α→Prop}{a b:Int}{x y:Option α}(hx:a≤b→Ok P x)(hy:b<a→Ok P y):Ok P (cond (bR a b) x y):=by
 rw[bM]
 split
 ·exact hx (by assumption)
 ·exact hy (by omega)
theorem ok_eq{α:Type}{P:α→Prop}{a b:Int}{x y:Option α}(hx:a=b→Ok P x)(hy:a≠b→Ok P y):Ok P (cond (ay a b) x y):=by
 rw[az]
 split
 ·exact hx (by assumption)
 ·exact hy (by assumption)
theorem cH{α:Type}{P:α→Prop}{a b:Int}{x y:Option α}(hx:a≠b→Ok P x)(hy:a=b→Ok P y):Ok P (cond (!ay a b) x y):=by
 rw[cond_not];exact ok_eq hy hx
theorem aA{α:Type}{P:α→Prop}{i:Int}{n:Nat}{x y:Option α}(h:0≤i∧i<(n:Int))(hx:Ok P x):Ok P (cond (aI i n) x y):=by
 rw[aF h.1 h.2];exact hx
theorem aK{α:Type}{P:α→Prop}{n:Nat}{x y:Option α}(h:n<68719476736)(hx:Ok P x):Ok P (cond (small n) x y):=by
 rw[a6 h];exact hx
theorem RB{α:Type}{P:α→Prop}{l c:Int}{x y:Option α}(h:0≤l∧l≤c∧c<68719476736)(hx:Ok P x):Ok P (cond (dS l c) x y):=by
 rw[bp h.1 h.2.1 h.2.2];exact hx
theorem Dc{α:Type}{P:α→Prop}{l h m n:Int}{x y:Option α}(hh:0≤l∧l≤h∧h≤m∧m≤n)(hx:Ok P x):Ok P (cond (fB l h m n) x y):=by
 rw[bY hh.1 hh.2.1 hh.2.2.1 hh.2.2.2];exact hx
theorem jC{σ β:Type}{P:β→Prop}{F:Nat→Int→σ→Option β}{len:Nat}(I:Nat→σ→Prop)
  (hs: ∀n i s,i<len→I i s→(∀s',I (i+1) s'→Ok P (F n ((i+1:Nat):Int) s'))→Ok P (F (n+1) (i:Int) s)) (he: ∀n s,I len s→Ok P (F (n+1) (len:Int) s)):
  ∀m n i s,len-i≤m→m<n→i≤len→I i s→Ok P (F n (i:Int) s)
 |m,0,i,s,_,hn,_,_=>by omega
 |m,n+1,i,s,hm,hn,hi,hI=>by
  by_cases h:i<len
  ·exact hs n i s h hI fun s' sf=>jC I hs he (m-1) n (i+1) s' (by omega) (by omega) (by omega) sf
  ·have:i=len:=by omega
   subst this
   exact he n s hI
theorem bz{σ β:Type}{P:β→Prop}{F:Nat→Int→σ→Option β}{len:Nat}(I:Nat→σ→Prop){N:Nat}{s:σ}(h0:I 0 s)(hN:len<N)
  (hs: ∀n i s,i<len→I i s→(∀s',I (i+1) s'→Ok P (F n ((i+1:Nat):Int) s'))→Ok P (F (n+1) (i:Int) s)) (he: ∀n s,I len s→Ok P (F (n+1) (len:Int) s)):Ok P (F N 0 s):=
 jC I hs he len N 0 s (by omega) hN (by omega) h0
theorem kt{β:Type}{P:β→Prop}{F:Nat→Int→Option β}{len N:Nat}(hN:len<N)
  (hs: ∀n i,i<len→Ok P (F n ((i+1:Nat):Int))→Ok P (F (n+1) (i:Int))) (he: ∀n,Ok P (F (n+1) (len:Int))):Ok P (F N 0):=
 bz (σ:=Unit) (F:=fun n i _=>F n i) (fun _ _=>True) (s:=()) trivial hN (fun n i _ h _ hr=>hs n i h (hr () trivial)) fun n _ _=>he n
theorem xX{σ β:Type}{P:β→Prop}{F:Nat→Int→σ→Option β}(I:Nat→σ→Prop)
  (hs: ∀n (k:Nat) s,I (k+1) s→(∀s',I k s'→Ok P (F n (k:Int) s'))→Ok P (F (n+1) ((k+1:Nat):Int) s)) (he: ∀n s,I 0 s→Ok P (F (n+1) 0 s)):
  ∀(k n:Nat) s,k<n→I k s→Ok P (F n (k:Int) s)
 |0,0,s,hn,_=>by omega
 |0,n+1,s,hn,hI=>he n s hI
 |k+1,0,s,hn,_=>by omega
 |k+1,n+1,s,hn,hI=>hs n k s hI fun s' sf=>xX I hs he k n s' (by omega) sf
def G(m:Nat):(τ:Ty)→τ.den→Prop
 | .int .i64,x=>aC x
 | .int .u64,x=>0≤x∧x<18446744073709551616
 | .slice e,l=>List.length l≤m∧ ∀x∈(l:List e.den),G m e x
 | .pair a b,x=>G m a x.1∧G m b x.2
 |_,_=>True
theorem G.mono{m n:Nat}(h:m≤n): ∀{τ:Ty} {x:τ.den},G m τ x→G n τ x
 | .int k,x,hx=>by cases k<;>exact hx
 | .slice e,l,hl=>⟨Nat.le_trans hl.1 h,fun x hx=>G.mono h (hl.2 x hx)⟩
 | .pair a b,x,hx=>⟨G.mono h hx.1,G.mono h hx.2⟩
 | .bool,_,_=>trivial
 | .str,_,_=>trivial
 | .unit,_,_=>trivial
 | .arr _ _,_,_=>trivial
theorem G.nil{m:Nat}{e:Ty}:G m (.slice e) ([]:List e.den):=⟨Nat.zero_le _,fun x hx=>nomatch hx⟩
theorem G.app{m:Nat}{e:Ty}{l:List e.den}{x:e.den}(h:G m (.slice e) l)(hx:G m e x):G (m+1) (.slice e) (l++[x]):=
 ⟨by have:=h.1;rw[List.length_append,List.length_singleton];omega,fun y hy=>by
  rcases List.mem_append.1 hy with hy|hy
  ·exact G.mono (by omega) (h.2 y hy)
  ·rw[List.mem_singleton.1 hy];exact G.mono (by omega) hx⟩
theorem G.get{m:Nat}{e:Ty}{l:List e.den}{d:e.den}(h:G m (.slice e) l)(hd:G m e d)(k:Nat):G m e (l.getD k d):=by
 by_cases hk:k<l.length
 ·rw[List.getD_eq_getElem?_getD,List.getElem?_eq_getElem hk];exact h.2 _ (List.getElem_mem hk)
 ·rw[List.getD_eq_getElem?_getD,List.getElem?_eq_none (by omega)];exact hd
theorem G.zero(m:Nat): ∀τ:Ty,G m τ τ.zero
 | .int k=>by cases k<;>first|trivial|exact⟨by decide,by decide⟩
 | .slice _=>G.nil
 | .pair a b=>⟨G.zero m a,G.zero m b⟩
 | .bool=>trivial
 | .str=>trivial
 | .unit=>trivial
 | .arr _ _=>trivial
theorem G.at{m:Nat}{e:Ty}{l:List e.den}(h:G m (.slice e) l)(k:Nat):G m e (l.getD k e.zero):=h.get (G.zero m e) k
theorem G.set{m:Nat}{e:Ty}{l:List e.den}{x:e.den}(h:G m (.slice e) l)(hx:G m e x)(k:Nat):G m (.slice e) (l.set k x):=
 ⟨by rw[List.length_set];exact h.1,fun y hy=>by
  rcases List.mem_or_eq_of_mem_set hy with hy|rfl
  ·exact h.2 y hy
  ·exact hx⟩
theorem e9(x:Int):aC (W .i64 x):=by
 rw[gz];unfold aC;split<;>omega
def Bg(k:Nat)(z:au):Prop:= ∃v,z=cc v∧Fit v k
theorem Bg.mono{j k:Nat}{z:au}(h:Bg j z)(hk:j≤k):Bg k z:=by
 obtain⟨v,e,f⟩:=h
 exact⟨v,e,Fit.mono f hk⟩
theorem Bg.zero:Bg 1 (false,(([]:List Int),())):=⟨0,gB.symm,by unfold Fit;decide⟩
theorem bf(N:Nat)(hN:4000000≤N){x:Int}(h:aC x):Ok (Bg 2) (gf N x):=kM (fE N (by omega) h.1 h.2) ⟨x,rfl,Fit.i64 h.1 h.2⟩
theorem gJ(N:Nat)(hN:4000000≤N){k:Nat}(hk:k≤90000){u v:au}(hu:Bg k u)(hv:Bg k v):Ok (Bg (k+1)) (tP N u v):=by
 obtain⟨a,rfl,ha⟩:=hu
 obtain⟨b,rfl,hb⟩:=hv
 exact kM (fO N hN (Fit.mono ha (by omega)) (Fit.mono hb (by omega))) ⟨_,rfl,Fit.add ha hb⟩
theorem xY(N:Nat)(hN:4000000≤N){k:Nat}(hk:k≤90000){u v:au}(hu:Bg k u)(hv:Bg k v):Ok (Bg (k+1)) (JP N u v):=by
 obtain⟨a,rfl,ha⟩:=hu
 obtain⟨b,rfl,hb⟩:=hv
 exact kM (rq N hN (Fit.mono ha (by omega)) (Fit.mono hb (by omega))) ⟨_,rfl,by rw[Int.sub_eq_add_neg];exact Fit.add ha (Fit.neg hb)⟩
theorem rJ(N:Nat)(hN:4000000≤N){k:Nat}(hk:k≤90000){u:au}(hu:Bg k u):Ok (Bg k) (Ml N u):=by
 obtain⟨a,rfl,ha⟩:=hu
 exact kM (rp N hN (Fit.mono ha (by omega))) ⟨_,rfl,Fit.neg ha⟩
theorem qR(N:Nat)(hN:4000000≤N){k:Nat}(hk:k≤90000){u:au}(hu:Bg k u):Ok (Bg k) (ND N u):=by
 obtain⟨a,rfl,ha⟩:=hu
 exact kM (NC N hN (Fit.mono ha (by omega))) ⟨_,rfl,Fit.of_le ha (by omega)⟩
theorem kN(N:Nat)(hN:4000000≤N){j k:Nat}(hj:j≤90000)(hk:k≤90000){u v:au}(hu:Bg j u)(hv:Bg k v):Ok (Bg (j+k)) (fR N u v):=by
 obtain⟨a,rfl,ha⟩:=hu
 obtain⟨b,rfl,hb⟩:=hv
 exact kM (E0 N hN (Fit.mono ha hj) (Fit.mono hb hk)) ⟨_,rfl,Fit.mul ha hb⟩
theorem xZ(N:Nat){k:Nat}{u:au}(hu:Bg k u):Ok (fun _=>True) (JQ N u):=by
 obtain⟨a,rfl,ha⟩:=hu
 exact kM (oX N a) trivial
theorem s0(N:Nat)(hN:4000000≤N){j k:Nat}(hj:j≤90000)(hk:k≤90000){u v:au}(hu:Bg j u)(hv:Bg k v):Ok (fun _=>True) (Hu N u v):=by
 obtain⟨a,rfl,ha⟩:=hu
 obtain⟨b,rfl,hb⟩:=hv
 exact kM (H6 N hN (Fit.mono ha (by omega)) (Fit.mono hb (by omega))) trivial
theorem IH(v:Int):aC (tT v).1:=by
 by_cases h:aC v
 ·rw[rz h];exact h
 ·rw[uk h];unfold aC;decide
theorem s3(N:Nat){k:Nat}{u:au}(hu:Bg k u):Ok (fun r=>aC r.1) (qz N u):=by
 obtain⟨a,rfl,ha⟩:=hu
 exact kM (nV N a) (IH a)
end VM
end
section
namespace VM
open Go VM.F
abbrev L3(m:Nat)(l:ah):Prop:=G m (.slice fP) l
def gU(m:Nat)(p:bk):Prop:=p.length≤m∧ ∀y∈p,Bg 8 y.2.2.1
theorem gU.at{m:Nat}{p:bk}(h:gU m p)(i:Nat):Bg 8 (p.getD i ((0:Int),((0:Int),((false,kW),())))).2.2.1:=by
 by_cases hk:i<p.length
 ·rw[List.getD_eq_getElem?_getD,List.getElem?_eq_getElem hk];exact h.2 _ (List.getElem_mem hk)
 ·rw[List.getD_eq_getElem?_getD,List.getElem?_eq_none (by omega)];exact Bg.mono Bg.zero (by decide)
theorem gU.nil{m:Nat}:gU m []:=⟨Nat.zero_le _,fun x hx=>nomatch hx⟩
theorem gU.app{m n:Nat}{p q:bk}(h:gU m p)(h':gU n q):gU (m+n) (p++q):=
 ⟨by have:=h.1;have:=h'.1;rw[List.length_append];omega,fun y hy=>(List.mem_append.1 hy).elim (h.2 y) (h'.2 y)⟩
theorem gU.mono{m n:Nat}{p:bk}(h:gU m p)(hm:m≤n):gU n p:=⟨Nat.le_trans h.1 hm,h.2⟩
theorem wO(N:Nat){k:Nat}{u:au}(hu:Bg k u):Ok (fun r=>aC r.1) (Iq N u):=by
 unfold Iq
 refine af (s3 N hu) fun r h=>b8 (fun _=>aj (by unfold aC;decide)) fun _=>ok_eq (fun _=>aj (by unfold aC;decide)) fun _=>aj h
theorem gl{x:Int}(h0: -1000000≤x)(h1:x≤1000000):aC x:=by unfold aC;omega
theorem G3{m:Nat}{a b c:Int}(ha:aC a)(hb:aC b)(hc:aC c):G m fP (a,(b,(c,()))):=⟨ha,hb,hc,trivial⟩
theorem bl:aC 0:=by unfold aC;decide
theorem LD(N:Nat)(hN:4000000≤N){x k n:Int}{p:bk}(hx:aC x)(hp:gU 50000 p):Ok (fun r=>aC r.1) (jv N x k n p):=by
 have hl:=hp.1
 refine bz (len:=p.length) (F:=fun n' i (s:au×Bool)=>jv.l3 N n' x k n p s.1 s.2 i) (s:=(_,_)) (fun i s=>Bg (8+i) s.1) (Bg.mono Bg.zero (by omega)) (by omega) (fun n' i s hi hI hr=> ?_) (fun n' s hI=> ?_)
 all_goals unfold jv.l3 jv.gZ
 ·rw[an (x:=(i:Int)+1) (by omega) (by omega),aa i]
  have h1:=hr (s.1,s.2) (Bg.mono hI (by omega))
  repeat' first|exact h1|refine aA ⟨by omega,by omega⟩ ?_|refine aw (fun _=> ?_) (fun _=> ?_)|refine ok_eq (fun _=> ?_) (fun _=> ?_)|(exfalso;omega)|exact af (gJ N hN (by omega) hI (Bg.mono (hp.at _) (by omega))) fun r h=>hr (r,true) h
 ·refine aw (fun _=>by omega) fun _=>b8 (fun _=>aj hx) fun _=>af (bf N hN hx) fun r h=>af (gJ N hN (by omega) hI (Bg.mono h (by omega))) fun r h=>af (s3 N h) fun r h=>aj h
theorem RC(N:Nat)(hN:4000000≤N){l:ah}{p:bk}{m:Nat}(hm:m≤50000)(hl:L3 m l)(hp:gU 50000 p):Ok (fun r=>L3 200 r.1) (ck N l p):=by
 have HQ:=hl.1
 refine jC (len:=8) (F:=fun n k (s:ah×Int)=>ck.l4 N n l p s.1 s.2 k) (fun i s=>L3 (25*i) s.1∧0≤s.2) (fun n i s hi hI hr=> ?_) (fun n s hI=> ?_) 8 N 1 (_,_) (by omega) (by omega) (by omega) ⟨G.nil,Int.le_refl 0⟩
 all_goals unfold ck.l4 ck.cj
 ·refine dC (fun _=> ?_) (fun _=>by omega)
  refine bz (len:=25) (F:=fun n' j (s:ah×Int)=>ck.l7 N (ck.l4 N n) n' l p s.1 s.2 (i:Int) j) (s:=s) (fun j s=>L3 (25*i+j) s.1∧0≤s.2) hI (by omega) (fun n' j s hj hI eg=> ?_) (fun n' s hI=> ?_)
  all_goals unfold ck.l7 ck.lC
  ·have ky: ∀(k x:Int),0≤k→aC x→Ok (fun r=>L3 200 r.1) (ck.CH N (ck.l4 N n) (ck.l7 N (ck.l4 N n) n') l p s.1 k (i:Int) (j:Int) x):=fun k x hk hx=>by
    unfold ck.CH ck.tV
    rw[an (x:=(j:Int)+1) (by omega) (by omega),aa j]
    have hs:=hI.1.1
    refine af (LD N hN hx hp) fun r h=>b8 (fun _=>aj G.nil) fun _=>cH (fun _=>aK (by rw[List.length_singleton];omega) (eg (_,k) ⟨G.app hI.1 (G3 (gl (by omega) (by omega)) (gl (by omega) (by omega)) h),hk⟩)) fun _=>eg (s.1,k) ⟨G.mono (by omega) hI.1,hk⟩
   have h0:=ky s.2 0 hI.2 bl
   have WJ:=hI.2
   repeat' first|exact h0|refine aA ⟨by omega,by omega⟩ ?_|refine aw (fun _=> ?_) (fun _=> ?_)|refine dC (fun _=> ?_) (fun _=> ?_)|refine ok_eq (fun _=> ?_) (fun _=> ?_)|(exfalso;omega)|exact ky _ _ (by rw[an (x:=s.2+1) (by omega) (by omega)];omega) (G.at hl _).2.2.1
  ·rw[an (x:=(i:Int)+1) (by omega) (by omega),aa i]
   exact dC (fun _=>by omega) fun _=>hr s ⟨G.mono (by omega) hI.1,hI.2⟩
 ·exact dC (fun _=>by omega) fun _=>aj (G.mono (by decide) hI.1)
theorem II(N:Nat)(hN:4000000≤N){l t:ah}{m:Nat}(hm:m≤50000)(hl:L3 m l)(ht:L3 50000 t):Ok (fun r=>L3 200 r.1) (bu N l t):=by
 have HQ:=hl.1
 have htl:=ht.1
 refine bz (len:=25) (F:=fun n k (s:ah×Int)=>bu.l4 N n l t s.1 s.2 k) (s:=(_,_)) (fun i s=>L3 (6*i) s.1∧0≤s.2) ⟨G.nil,Int.le_refl 0⟩ (by omega) (fun n i s hi hI hr=> ?_) (fun n s hI=> ?_)
 all_goals unfold bu.l4 bu.cj
 ·refine dC (fun _=> ?_) (fun _=>by omega)
  refine bz (len:=6) (F:=fun n' j (s:ah×Int)=>bu.l7 N (bu.l4 N n) n' l t s.1 s.2 (i:Int) j) (s:=s) (fun j s=>L3 (6*i+j) s.1∧0≤s.2) hI (by omega) (fun n' j s hj hI eg=> ?_) (fun n' s hI=> ?_)
  all_goals unfold bu.l7 bu.lC
  ·have ky: ∀(k x:Int),0≤k→aC x→Ok (fun r=>L3 200 r.1) (bu.CH N (bu.l4 N n) (bu.l7 N (bu.l4 N n) n') l t s.1 k (i:Int) (j:Int) x false):=fun k x hk hx=>by
    unfold bu.CH bu.tV
    have hs:=hI.1.1
    have tv: ∀y:Int,aC y→Ok (fun r=>L3 200 r.1) (cond (!ay y 0) (cond (small (s.1.length+[(((i:Int),((j:Int),(y,()))):cE)].length)) (bu.l7 N (bu.l4 N n) n' l t (s.1++[((i:Int),((j:Int),(y,())))]) k (i:Int) (W .i64 ((j:Int)+1))) none) (bu.l7 N (bu.l4 N n) n' l t s.1 k (i:Int) (W .i64 ((j:Int)+1)))):=fun y hy=>by
     rw[an (x:=(j:Int)+1) (by omega) (by omega),aa j]
     exact cH (fun _=>aK (by rw[List.length_singleton];omega) (eg (_,k) ⟨G.app hI.1 (G3 (gl (by omega) (by omega)) (gl (by omega) (by omega)) hy),hk⟩)) fun _=>eg (s.1,k) ⟨G.mono (by omega) hI.1,hk⟩
    refine bz (len:=t.length) (F:=fun BS u (z:au×Bool)=>bu.DI N (bu.l4 N n) (bu.l7 N (bu.l4 N n) n') BS l t s.1 k (i:Int) (j:Int) x z.2 z.1 u) (s:=(_,_)) (fun u z=>Bg (3+u) z.1) (Bg.mono Bg.zero (by omega)) (by omega) (fun BS u z hu hz Ov=> ?_) (fun BS z hz=> ?_)
    all_goals unfold bu.DI bu.CW
    ·rw[an (x:=(u:Int)+1) (by omega) (by omega),aa u]
     have h1:=Ov (z.1,z.2) (Bg.mono hz (by omega))
     repeat' first|exact h1|refine aA ⟨by omega,by omega⟩ ?_|refine aw (fun _=> ?_) (fun _=> ?_)|refine ok_eq (fun _=> ?_) (fun _=> ?_)|(exfalso;omega)|exact af (bf N hN (G.at ht _).2.2.1) fun r h=>af (gJ N hN (by omega) hz (Bg.mono h (by omega))) fun r h=>Ov (r,true) h
    ·exact aw (fun _=>by omega) fun _=>rW (fun _=>af (bf N hN hx) fun r h=>af (gJ N hN (by omega) hz (Bg.mono h (by omega))) fun r h=>af (wO N h) fun r h=>b8 (fun _=>aj G.nil) fun _=>tv _ h) fun _=>tv _ hx
   have h0:=ky s.2 0 hI.2 bl
   have WJ:=hI.2
   repeat' first|exact h0|refine aA ⟨by omega,by omega⟩ ?_|refine aw (fun _=> ?_) (fun _=> ?_)|refine dC (fun _=> ?_) (fun _=> ?_)|refine ok_eq (fun _=> ?_) (fun _=> ?_)|(exfalso;omega)|exact ky _ _ (by rw[an (x:=s.2+1) (by omega) (by omega)];omega) (G.at hl _).2.2.1
  ·rw[an (x:=(i:Int)+1) (by omega) (by omega),aa i]
   exact aw (fun _=>by omega) fun _=>hr s ⟨G.mono (by omega) hI.1,hI.2⟩
 ·exact dC (fun _=>by omega) fun _=>aj (G.mono (by decide) hI.1)
theorem G.fh{m:Nat}:G m aB (bN,(cI,(bq,(bq,(c3,(de,())))))):=G.zero m aB
theorem pq(N:Nat)(hN:4000000≤N){b:ag}{s:ah}{p:bk}{m:Nat}(h2:200≤m)(hm:m≤50000)(hb:G m aB b)(hs:L3 50000 s)(hp:gU 50000 p):Ok (fun r=>G m aB r.1) (uw N b s p):=by
 unfold uw
 exact af (II N hN hm hb.2.2.2.1 hs) fun r h=>b8 (fun _=>aj G.fh) fun _=>af (RC N hN hm hb.2.2.1 hp) fun r' h'=>b8 (fun _=>aj G.fh) fun _=>aj ⟨hb.1,hb.2.1,G.mono h2 h',G.mono h2 h,hb.2.2.2.2⟩
end VM
end
section
namespace VM
open Go VM.F
theorem cW{α β:Type}{P:β→Prop}{o:Option α}{r:α}{f:α→Option β}(h:o=some r)(hf:Ok P (f r)):Ok P (o.bind f):=by rw[h];exact hf
theorem G.wf{m:Nat}(hm:m≤50000){b:ag}(h:G m aB b):ux b:=by
 obtain⟨h1,h2,h3,h4,h5,h6,_⟩:=h
 exact⟨⟨Nat.le_trans h1.1 (by omega),Nat.le_trans h2.1 (by omega),Nat.le_trans h3.1 (by omega),Nat.le_trans h4.1 (by omega),Nat.le_trans h5.1 (by omega),Nat.le_trans h6.1 (by omega),fun x hx=>(h3.2 x hx).2.2.1,fun x hx=>(h4.2 x hx).2.2.1⟩,Nat.le_trans h3.1 (by omega),Nat.le_trans h4.1 (by omega)⟩
theorem ea(N:Nat)(hN:5000000≤N){c:ae}{b:ag}{m:Nat}(hm:m≤50000)(h:G m aB b):bC N c b=some (c8 c b):=y8 N hN (G.wf hm h).w
theorem RD{x:Int}(h:kp x):aC x:=by unfold kp at h;unfold aC;omega
theorem AK(N:Nat)(hN:4000000≤N)(t:uy)(p:Int):Ok (fun r=>gU 2 r.1) (RE N t p):=by
 unfold RE
 refine cW (BC N t) (b8 (fun _=>aj gU.nil) fun ht=>cW (iO N p) (b8 (fun _=>aj gU.nil) fun _=>af (bf N hN (e9 _)) fun a ha=>af (bf N hN ?_) fun q hq=>af (kN N hN (by omega) (by omega) ha hq) fun x hx=>af (xZ N hx) fun _ _=>ok_eq (fun _=>aj gU.nil) fun _=> ?_))
 ·have:=of_decide_eq_true ht
  unfold rE jw at this
  exact Int.le_trans (by decide) this.2.2.2.2.1.1 |> fun h=>⟨h,Int.lt_of_le_of_lt this.2.2.2.2.1.2 (by decide)⟩
 ·unfold IJ
  have hr: ∀a:Int,Ok (fun _=>True) (cond (ay a 0) (some ((2:Int),(0:Int))) (some ((5:Int),a))):=fun a=>ok_eq (fun _=>aj trivial) fun _=>aj trivial
  refine af (hr _) fun _ _=>af (hr _) fun _ _=>af (rJ N hN (by omega) hx) fun y hy=>aj ⟨Nat.le_refl 2,fun z hz=> ?_⟩
  rcases List.mem_cons.1 hz with rfl|hz
  ·exact Bg.mono hx (by omega)
  ·rw[List.mem_singleton.1 hz];exact Bg.mono hy (by omega)
theorem FG(N:Nat)(hN:200000≤N){b:ag}{m:Nat}(hm:m≤50000)(h:G m aB b)(id:Int):Ok (fun _=>True) (CR N b id):=kM (uh N b (G.wf hm h).w.a hN id) trivial
theorem BT(N:Nat)(hN:5000000≤N)(c:ae){b:ag}{l:ba}{m:Nat}(h2:200≤m)(hm:m≤50000)(hb:G m aB b):Ok (fun r=>G m aB r.1) (fu N c b l):=by
 unfold fu fu.b
 refine cW (ea N hN hm hb) (b8 (fun _=>aj G.fh) fun hB=>aw (fun _=>aj G.fh) fun hl=> ?_)
 obtain⟨hp,_⟩:=ig hB
 refine bz (len:=l.length) (F:=fun n i (_:Unit)=>fu.l4 N n l c b (bN,(cI,(bq,(bq,(c3,(de,())))))) i) (s:=()) (fun i _=> ∀j,j<i→rE (l.getD j jR)) (fun j hj=>by omega) (by omega) (fun n i _ hi hI hr=> ?_) (fun n _ hI=> ?_)
 all_goals unfold fu.l4 fu.cj
 ·rw[an (x:=(i:Int)+1) (by omega) (by omega),aa i]
  refine aw (fun _=>aA ⟨by omega,by omega⟩ (cW (BC N _) (b8 (fun _=>aj G.fh) fun ht=>hr () fun j hj=> ?_))) fun _=>by omega
  by_cases e:j=i
  ·rw[e];exact of_decide_eq_true ht
  ·exact hI j (by omega)
 ·refine aw (fun _=>by omega) fun _=> ?_
  refine bz (len:=l.length) (F:=fun n i (s:ah×bk)=>fu.s4 N n l c b (bN,(cI,(bq,(bq,(c3,(de,())))))) s.1 s.2 i) (s:=(_,_)) (fun i s=>L3 (2*i) s.1∧gU (2*i) s.2) ⟨G.nil,gU.nil⟩ (by omega) (fun n i s hi hJ hr=> ?_) (fun n s hJ=> ?_)
  all_goals unfold fu.s4 fu.pW
  ·have ht:=hI i hi
   unfold rE jw at ht
   have Hj:=hJ.1.1
   have WJ:=hJ.2.1
   have g64: ∀x:Int,0≤x∧x≤1000000→aC x:=fun x h=>gl (by omega) (by omega)
   dsimp only
   rw[an (x:=(i:Int)+1) (by omega) (by omega),aa i,Int.toNat_natCast]
   refine aw (fun _=>aA ⟨by omega,by omega⟩ (af (FG N (by omega) hm hb _) fun _ _=>b8 (fun _=>aj G.fh) fun _=>af (FG N (by omega) hm hb _) fun _ _=>b8 (fun _=>aj G.fh) fun _=>dC (fun _=>aj G.fh) fun dz=>aK ?_ (aA ⟨ht.2.2.2.1.1,by omega⟩ (af (AK N (by omega) _ _) fun r h=>aK ?_ (hr (_,_) ⟨?_,gU.mono (gU.app hJ.2 h) (by omega)⟩))))) fun _=>by omega
   ·rw[List.length_cons,List.length_singleton];omega
   ·have:=h.1;omega
   ·have hq:aC (l.getD i jR).2.2.2.1:=⟨Int.le_trans (by decide) ht.2.2.2.2.1.1,Int.lt_of_le_of_lt ht.2.2.2.2.1.2 (by decide)⟩
    have iA:aC (l.getD i jR).2.2.1:=g64 _ ⟨ht.2.2.2.1.1,Int.le_trans (Int.le_of_lt ht.2.2.2.1.2) (by decide)⟩
    have h1:=G.app (G.app hJ.1 (G3 (g64 _ ⟨ht.1.1,Int.le_trans ht.1.2 (by decide)⟩) iA hq)) (G3 (g64 _ ⟨ht.2.1.1,Int.le_trans ht.2.1.2 (by decide)⟩) iA (e9 (0-(l.getD i jR).2.2.2.1)))
    rw[List.append_assoc]at h1
    exact G.mono (by omega) h1
  ·exact aw (fun _=>by omega) fun _=>af (pq N (by omega) h2 hm hb (G.mono (by omega) hJ.1) (gU.mono hJ.2 (by omega))) fun r h=>aj h
end VM
end
section
namespace VM
open Go VM.F
def AL(k:Nat)(l:kO):Prop:= ∀x∈l,Bg k x
theorem AL.mono{j k:Nat}{l:kO}(h:AL j l)(hk:j≤k):AL k l:=fun x hx=>Bg.mono (h x hx) hk
theorem AL.at{k:Nat}{l:kO}(h:AL k l)(h1:1≤k)(i:Nat):Bg k (l.getD i (false,kW)):=by
 by_cases hk:i<l.length
 ·rw[List.getD_eq_getElem?_getD,List.getElem?_eq_getElem hk];exact h _ (List.getElem_mem hk)
 ·rw[List.getD_eq_getElem?_getD,List.getElem?_eq_none (by omega)];exact Bg.mono Bg.zero h1
theorem AL.set{k:Nat}{l:kO}{x:au}(h:AL k l)(hx:Bg k x)(i:Nat):AL k (l.set i x):=fun y hy=>by
 rcases List.mem_or_eq_of_mem_set hy with hy|rfl
 ·exact h y hy
 ·exact hx
theorem AL.rep{k n:Nat}(h:1≤k):AL k (List.replicate n (false,kW)):=fun x hx=>by
 rw[(List.mem_replicate.1 hx).2];exact Bg.mono Bg.zero h
theorem RF(N:Nat)(hN:5000000≤N)(c:ae){b:ag}{m:Nat}(hm:m≤50000)(hb:G m aB b):Ok (fun r=>(r.2=0→c8 c b=true∧r.1.length=4)∧AL 20 r.1) (mO N c b):=by
 unfold mO mO.b
 have w:=(G.wf hm hb).w
 refine cW (ea N hN hm hb) (b8 (fun _=>aj ⟨fun h=>absurd h (by decide),fun x hx=>nomatch hx⟩) fun hB=>RB ⟨by omega,by omega,by omega⟩ ?_)
 obtain⟨hp,WM⟩:=ig hB
 obtain⟨h6,hbk⟩:=wH (pg hB)
 refine bz (len:=c.1.length) (F:=fun n i (s:kO)=>mO.l5 N n c b s i) (fun i s=>s.length=4∧AL (8+i) s) ⟨List.length_replicate ..,AL.rep (by omega)⟩ (by omega) (fun n i s hi hI hr=> ?_) (fun n s hI=> ?_)
 all_goals unfold mO.l5 mO.dp
 ·have hk:=hbk i hi
  have hl:=hI.1
  rw[an (x:=(i:Int)+1) (by omega) (by omega),aa i,Int.toNat_natCast]
  have in1: ∀{x y:Option (kO×Int)},Ok (fun r=>(r.2=0→c8 c b=true∧r.1.length=4)∧AL 20 r.1) x→Ok (fun r=>(r.2=0→c8 c b=true∧r.1.length=4)∧AL 20 r.1) (cond (aI (c.1.getD i aS).1 s.length) x y):=fun h=>aA ⟨hk.1,Int.lt_of_le_of_lt hk.2 (show(3:Int)<(s.length:Int)by omega)⟩ h
  exact aw (fun _=>aA ⟨by omega,by omega⟩ (in1 (cW (C1 N w.s (by omega) 0 (i:Int)) (af (bf N (by omega) (Oh w.qs 0 (i:Int))) fun a ha=>aA ⟨by omega,by omega⟩ (af (bf N (by omega) (RD (Fl WM (by omega)))) fun p hp=>af (kN N (by omega) (by omega) (by omega) ha hp) fun x hx=>af (gJ N (by omega) (by omega) (AL.at hI.2 (by omega) _) (Bg.mono hx (by omega))) fun y hy=>in1 (hr _ ⟨by rw[List.length_set];exact hl,AL.set (AL.mono hI.2 (by omega)) hy _⟩)))))) fun _=>by omega
 ·exact aw (fun _=>by omega) fun _=>aj ⟨fun _=>⟨hB,hI.1⟩,AL.mono hI.2 (by omega)⟩
theorem aco(N:Nat)(hN:5000000≤N)(c:ae)(hc:aC (akf c)){b:ag}{m:Nat}(hm:m≤50000)(hb:G m aB b)(next:Int):Ok (fun r=>G 4 (.slice dL) r.1) (pt N c b next):=by
 unfold pt pt.b
 refine af (RF N hN c hm hb) fun z hz=>cH (fun _=>aj G.nil) fun h0=>aw (fun _=>aj G.nil) fun h1=>aw (fun _=>aj G.nil) fun h2=> ?_
 obtain⟨hB,hl4⟩:=hz.1 h0
 obtain⟨hp,WM⟩:=ig hB
 obtain⟨h6,hbk⟩:=wH (pg hB)
 refine bz (len:=4) (F:=fun n k (s:Int×aE)=>pt.l6 N n s.1 c b z.1 s.2 k) (s:=(_,_)) (fun k s=>G k (.slice dL) s.2∧next≤s.1∧s.1≤next+k) ⟨G.nil,by omega,by omega⟩ (by omega) (fun n k s hk hI hr=> ?_) (fun n s hI=> ?_)
 all_goals unfold pt.l6 pt.oI
 ·have Hj:=hI.1.1
  have WJ:=hI.2
  rw[an (x:=(k:Int)+1) (by omega) (by omega),aa k]
  have nH:=hr s ⟨G.mono (by omega) hI.1,by omega,by omega⟩
  refine aw (fun _=>cW (Iz N (by omega) c (by omega) (k:Int)) (aA ⟨by omega,by omega⟩ (af (qR N (by omega) (by omega) (AL.at hz.2 (by omega) _)) fun u hu=>ok_eq (fun _=>nH) fun g7=>af (bf N (by omega) hc) fun v hv=>af (s0 N (by omega) (by omega) (by omega) hu hv) fun _ _=>dC (fun _=>nH) fun _=> ?_))) fun _=>by omega
  have aen:eZ c (k:Int)≠[]:=fun e=>g7 (by rw[e];rfl)
  have hh:0≤(eZ c (k:Int)).getD 0 0∧(eZ c (k:Int)).getD 0 0<(c.1.length:Int):=by
   have h1:=aen
   unfold eZ at h1 ⊢
   rw[pg hB,if_pos rfl]at h1 ⊢
   have:=wN h1
   omega
  have hl0:0<(eZ c (k:Int)).length:=List.length_pos_iff.2 aen
  have hpx:=Fl WM (i:=((eZ c (k:Int)).getD 0 0).toNat) (by omega)
  have hj: ∀q:Int,aC q→Ok (fun r=>G 4 (.slice dL) r.1) (pt.AN N (pt.l6 N n) s.1 c b z.1 s.2 (k:Int) (eZ c (k:Int)) q):=fun q hq=>by
   unfold pt.AN pt.s5
   rw[an (x:=(k:Int)+1) (by omega) (by omega),aa k,an (x:=s.1+1) (by omega) (by omega)]
   have tv: ∀d:Int,aC d→Ok (fun r=>G 4 (.slice dL) r.1) (cond (small (s.2.length+[((s.1,((eZ c (k:Int)).getD 0 0,(d,(q,())))):bS)].length)) (pt.l6 N n (s.1+1) c b z.1 (s.2++[(s.1,((eZ c (k:Int)).getD 0 0,(d,(q,()))))]) ((k+1:Nat):Int)) none):=fun d hd=>
    aK (by rw[List.length_singleton];omega) (hr (_,_) ⟨G.app hI.1 ⟨by show aC s.1;unfold aC;omega,(show aC ((eZ c (k:Int)).getD 0 0)from gl (by omega) (by omega)),hd,hq,trivial⟩,by dsimp only;omega,by dsimp only;omega⟩)
   exact ok_eq (fun _=>nH) fun _=>aA ⟨by omega,by omega⟩ (aA ⟨by omega,by omega⟩ (af (xZ N (AL.at hz.2 (by omega) _)) fun _ _=>aw (fun _=>tv 2 (gl (by omega) (by omega))) fun _=>tv 1 (gl (by omega) (by omega))))
  have hb9:aC 1000000000:=by unfold aC;decide
  refine aA ⟨by omega,by omega⟩ (aA ⟨hh.1,by show(eZ c (k:Int)).getD 0 0<_;omega⟩ ?_)
  obtain⟨a,rfl,ha⟩:=hu
  have akh:=hpx
  unfold kp at akh
  rw[show(0:Int).toNat=0 from rfl]
  refine cW (fE N (by omega) (by omega) (by omega)) (cW (JS N hN (by omega) (Fit.mono ha (by omega)) ((Fit.i64 (by omega) (by omega)).mono (by omega))) (cW (nV N _) (b8 (fun _=>hj _ hb9) fun _=>aw (fun _=>hj _ hb9) fun _=>hj _ (IH _))))
 ·exact aw (fun _=>by omega) fun _=>aj hI.1
end VM
end
section
namespace VM
open Go VM.F
theorem FH(N:Nat)(hN:200000≤N){l:aW}(hl:l.length≤100000)(a:Int):Ok (fun r=>L3 6 r) (eD N l a):=by
 unfold eD eD.b
 refine bz (len:=6) (F:=fun n k (s:ah)=>eD.l3 N n l a s k) (fun k s=>L3 k s) G.nil (by omega) (fun n k s hk hI hr=> ?_) (fun n s hI=> ?_)
 all_goals unfold eD.l3 eD.gZ
 ·have hs:=hI.1
  refine aw (fun _=> ?_) fun _=>by omega
  refine bz (len:=l.length) (F:=fun n' i (x:cE)=>eD.l7 N (eD.l3 N n) n' l a s (k:Int) x i) (fun i x=>G 6 fP x) (G3 (gl (by omega) (by omega)) bl bl) (by omega) (fun n' i x hi hx eg=> ?_) (fun n' x hx=> ?_)
  all_goals unfold eD.l7 eD.lC
  ·rw[an (x:=(i:Int)+1) (by omega) (by omega),aa i]
   have h1:=eg x hx
   repeat' first|exact h1|refine aA ⟨by omega,by omega⟩ ?_|refine aw (fun _=> ?_) (fun _=> ?_)|refine cH (fun _=> ?_) (fun _=> ?_)|refine ok_eq (fun _=> ?_) (fun _=> ?_)|(exfalso;omega)|exact eg (_,(_,(_,_))) ⟨hx.1,e9 _,hx.2.2.1,trivial⟩|exact eg (_,(_,(_,_))) ⟨hx.1,hx.2.1,e9 _,trivial⟩
  ·rw[an (x:=(k:Int)+1) (by omega) (by omega),aa k]
   have h1:=hr s (G.mono (by omega) hI)
   have h2:=hr (s++[x]) ⟨by rw[List.length_append,List.length_singleton];omega,fun y hy=>by
    rcases List.mem_append.1 hy with hy|hy
    ·exact G.mono (by omega) (hI.2 y hy)
    ·rw[List.mem_singleton.1 hy];exact⟨hx.1,hx.2.1,hx.2.2.1,trivial⟩⟩
   repeat' first|exact h1|exact h2|refine aK (by rw[List.length_singleton];omega) ?_|refine aw (fun _=> ?_) (fun _=> ?_)|(exfalso;omega)
 ·exact aw (fun _=>by omega) fun _=>aj hI
theorem BU(N:Nat)(hN:200000≤N)(c:ae){l:ah}(hl:l.length≤100000):Ok (fun _=>True) (lK N c l):=by
 unfold lK lK.b
 refine cW (ow N (by omega) c) (b8 (fun _=>aj trivial) fun _=>kt (len:=l.length) (F:=fun n i=>lK.l5 N n l c 33000000000 i) (by omega) (fun n i hi hr=> ?_) fun n=> ?_)
 all_goals unfold lK.l5 lK.dp
 ·rw[an (x:=(i:Int)+1) (by omega) (by omega),aa i]
  dsimp only
  repeat' first|exact hr|exact aj trivial|refine aA ⟨by omega,by omega⟩ ?_|refine aA (by rw[an (x:=(i:Int)-1) (by omega) (by omega)];omega) ?_|refine aw (fun _=> ?_) (fun _=> ?_)|refine dC (fun _=> ?_) (fun _=> ?_)|refine ok_eq (fun _=> ?_) (fun _=> ?_)|(exfalso;omega)
 ·exact aw (fun _=>by omega) fun _=>aj trivial
theorem Dd{k:Nat}(h:1≤k):Bg k (false,(([]:List Int),())):=Bg.mono Bg.zero h
theorem Ow(N:Nat)(hN:4000000≤N)(c:ae){l:av}{o:ah}{m:Nat}(hm:m≤50000)(hl:G m (.slice g5) l)(ho:L3 m o)(k:Int):Ok (fun r=>Bg 3 r.1) (fv N c l o k):=by
 have h1:=hl.1
 have h2:=ho.1
 unfold fv fv.b
 refine cW (ui N (by omega) c (by omega)) (b8 (fun _=>aj (Dd (by omega))) fun _=>af (BU N (by omega) c (by omega)) fun _ _=>b8 (fun _=>aj (Dd (by omega))) fun _=>aw (fun _=>aj (Dd (by omega))) fun _=>dC (fun _=>aj (Dd (by omega))) fun _=> ?_)
 refine bz (len:=l.length) (F:=fun n i (q:au)=>fv.l7 N n l o k (false,(([]:List Int),())) q (false,(([]:List Int),())) (false,(([]:List Int),())) i) (fun _ q=>Bg 2 q) (Dd (by omega)) (by omega) (fun n i q hi hq hr=> ?_) (fun n q hq=> ?_)
 all_goals unfold fv.l7 fv.lC
 ·rw[an (x:=(i:Int)+1) (by omega) (by omega),aa i]
  exact aw (fun _=>aA ⟨by omega,by omega⟩ (ok_eq (fun _=>aA ⟨by omega,by omega⟩ (af (bf N hN (G.at hl _).2.1) fun r h=>hr r h)) fun _=>hr q hq)) fun _=>by omega
 ·refine aw (fun _=>by omega) fun _=> ?_
  refine bz (len:=o.length) (F:=fun n i (z:au×au)=>fv.nh N n o k (false,(([]:List Int),())) q z.1 z.2 i) (s:=(_,_)) (fun _ z=>Bg 2 z.1∧Bg 2 z.2) ⟨Dd (by omega),Dd (by omega)⟩ (by omega) (fun n i z hi hz hr=> ?_) (fun n z hz=> ?_)
  all_goals unfold fv.nh fv.lF
  ·rw[an (x:=(i:Int)+1) (by omega) (by omega),aa i]
   exact aw (fun _=>aA ⟨by omega,by omega⟩ (ok_eq (fun _=>aA ⟨by omega,by omega⟩ (af (bf N hN (G.at ho _).2.1) fun r h=>aA ⟨by omega,by omega⟩ (af (bf N hN (G.at ho _).2.2.1) fun r' h'=>hr (r,r') ⟨h,h'⟩))) fun _=>hr z hz)) fun _=>by omega
  ·exact aw (fun _=>by omega) fun _=>af (gJ N hN (by omega) hq hz.1) fun x hx=>af (qR N hN (by omega) hx) fun x hx=>af (xY N hN (by omega) hq hz.2) fun y hy=>af (qR N hN (by omega) hy) fun y hy=>af (s0 N hN (by omega) (by omega) hy hx) fun _ _=>aw (fun _=>aj hy) fun _=>aj hx
theorem Ox(N:Nat)(hN:4000000≤N){c:ae}{l:av}{o:ah}{m:Nat}(hm:m≤50000)(hc:G m ar c)(hl:G m (.slice g5) l)(ho:L3 m o):Ok (fun r=>Bg 60000 r.1) (lL N c l o):=by
 have h1:=hl.1
 have h2:=ho.1
 have h3:=hc.1.1
 unfold lL lL.b
 refine cW (ui N (by omega) c (by omega)) (b8 (fun _=>aj (Dd (by omega))) fun _=>af (BU N (by omega) c (by omega)) fun _ _=>b8 (fun _=>aj (Dd (by omega))) fun _=> ?_)
 refine bz (len:=c.1.length) (F:=fun n i (t:au)=>lL.l5 N n l o c (false,(([]:List Int),())) t i) (fun i t=>Bg (8+i) t) (Dd (by omega)) (by omega) (fun n i t hi ht hr=> ?_) (fun n t ht=> ?_)
 all_goals unfold lL.l5 lL.dp
 ·rw[an (x:=(i:Int)+1) (by omega) (by omega),aa i]
  exact aw (fun _=>af (Ow N hN c hm hl ho _) fun x hx=>aA ⟨by omega,by omega⟩ (af (bf N hN (G.at hc.1 _).2.2.1) fun r h=>af (kN N hN (by omega) (by omega) hx h) fun y hy=>af (gJ N hN (by omega) ht (Bg.mono hy (by omega))) fun z hz=>hr z hz)) fun _=>by omega
 ·exact aw (fun _=>by omega) fun _=>aj (Bg.mono ht (by omega))
theorem aeo{m:Nat}{l:ah}(h:L3 m l)(a:Int):G m (.slice g5) (posOf l a):=by
 refine⟨Nat.le_trans (Lw a l) h.1,fun y hy=> ?_⟩
 unfold posOf at hy
 split at hy
 ·obtain⟨x,hx,_,e⟩:=pf hy
  rw[e];exact⟨(h.2 x hx).2.1,(h.2 x hx).2.2.1,trivial⟩
 ·nomatch hy
theorem Kf(N:Nat)(hN:200000≤N){l:ah}{m:Nat}(hm:m≤50000)(h:L3 m l)(a:Int):Ok (G m (.slice g5)) (sq N l a):=kM (Of N (Nat.le_trans h.1 (by omega)) hN a) (aeo h a)
theorem FI(N:Nat)(hN:4000000≤N){c:ae}{b:ag}{l:aW}{m:Nat}(h2:200≤m)(hm:m≤40000)(hc:G m ar c)(hb:G m aB b)(hl:l.length≤1000)(a:Int):Ok (Bg 60000) (Oy N c b a l):=by
 have ho:=hb.2.2.2.2.2.1.1
 unfold Oy
 refine aK (by rw[List.length_nil];omega) ?_
 dsimp only
 rw[List.nil_append]
 exact aK (by omega) (af (Kf N (by omega) (by omega) hb.2.2.2.1 a) fun r h=>af (FH N (by omega) (by rw[List.length_append];omega) a) fun o h'=>af (Ox N hN (by omega) hc h (G.mono (by omega) h')) fun x hx=>aj hx)
end VM
end
section
namespace VM
open Go VM.F
theorem RG(N:Nat)(hN:4000000≤N){o:fJ}{m:Nat}(ho:G m jM o)(a:Int):Ok (fun r=>Bg 4 r.1) (RH N o a):=by
 unfold RH
 have hw: ∀x:Int,Ok (fun r:au×Int=>Bg 4 r.1) ((gf N o.2.2.2.2.1).bind fun r5=>(gf N (W .i64 x)).bind fun r6=>(fR N r5 r6).bind fun r7=>some (r7,(0:Int))):=fun x=>
  af (bf N hN ho.2.2.2.2.1) fun r h=>af (bf N hN (e9 _)) fun r' h'=>af (kN N hN (by omega) (by omega) h h') fun y hy=>aj hy
 exact cW (xQ N o) (b8 (fun _=>aj (Dd (by omega))) fun _=>cW (iO N a) (b8 (fun _=>aj (Dd (by omega))) fun _=>ok_eq (fun _=>aw (fun _=>aj (Dd (by omega))) fun _=>hw _) fun _=>aw (fun _=>aj (Dd (by omega))) fun _=>hw _))
theorem YW{m:Nat}{a:aE}(h:G m (.slice dL) a)(id:Int):G m dL (jr a id).1:=by
 unfold jr
 split
 ·have: ∀l:aE,(∀x∈l,G m dL x)→G m dL (tZ id l).1:=by
   intro l
   induction l with
   |nil=>intro _;exact G.zero m dL
   |cons x t ih=>
    intro hx
    rw[sP]
    split
    ·exact hx x (List.mem_cons_self ..)
    ·exact ih fun y hy=>hx y (List.mem_cons_of_mem _ hy)
  exact this a h.2
 ·exact G.zero m dL
theorem rK(N:Nat)(hN:200000≤N){a:aE}{m:Nat}(hm:m≤50000)(h:G m (.slice dL) a)(id:Int):Ok (fun r=>G m dL r.1) (y3 N a id):=kM (E6 N (Nat.le_trans h.1 (by omega)) hN id) (YW h id)
theorem lZ(N:Nat)(hN:200000≤N){a:av}{m:Nat}(hm:m≤50000)(h:G m (.slice g5) a)(id:Int):Ok (fun _=>True) (ub N a id):=kM (yZ N (Nat.le_trans h.1 (by omega)) hN id) trivial
theorem nY(N:Nat)(hN:200000≤N){l:ah}{m:Nat}(hm:m≤50000)(h:L3 m l)(a b:Int):Ok aC (p4 N l a b):=kM (YP N (Nat.le_trans h.1 (by omega)) hN a b) (Oe (fun x hx=>(h.2 x hx).2.2.1) a b)
theorem FJ(N:Nat)(hN:5000000≤N){c:ae}{b:ag}{o:fJ}{m:Nat}(h2:200≤m)(hm:m≤40000)(hc:G m ar c)(hb:G m aB b)(ho:G m jM o):Ok (fun _=>True) (Oz N c b o):=by
 have Ev:=hb.2.2.2.2.2.1.1
 unfold Oz
 refine cW (ea N hN (by omega) hb) (b8 (fun _=>aj trivial) fun hB=>cW (xQ N o) (b8 (fun _=>aj trivial) fun hr=>af (rK N (by omega) (by omega) hb.2.1 _) fun x hx=>b8 (fun _=>aj trivial) fun _=>af (lZ N (by omega) (by omega) hb.1 _) fun _ _=>cH (fun _=>aj trivial) fun _=>dC (fun _=>aj trivial) fun hi=>aK (by rw[List.length_nil];omega) ?_))
 have hr:=of_decide_eq_true hr
 unfold qC sO at hr
 obtain⟨hp,_⟩:=ig hB
 dsimp only
 rw[List.nil_append]
 exact aK (by rw[List.length_singleton];omega) (af (Kf N (by omega) (by omega) hb.2.2.2.1 _) fun r h=>af (FH N (by omega) (by rw[List.length_append,List.length_singleton];omega) _) fun q h'=>af (Ow N (by omega) c (by omega) h (G.mono (by omega) h') _) fun t ht=>af (bf N (by omega) hx.2.2.2.1) fun v hv=>af (s0 N (by omega) (by omega) (by omega) ht hv) fun _ _=>aw (fun _=>aj trivial) fun _=>aA ⟨hr.2.2.1.1,by rw[hp];exact hi⟩ (af (RG N (by omega) ho _) fun e he=>af (nY N (by omega) (by omega) hb.2.2.1 _ _) fun g hg=>af (bf N (by omega) hg) fun y hy=>af (xY N (by omega) (by omega) (Bg.mono hy (by omega)) he) fun z hz=>af (FI N (by omega) h2 hm hc hb (by rw[List.length_singleton];omega) _) fun u hu=>af (s0 N (by omega) (by omega) (by omega) hz hu) fun _ _=>aw (fun _=>aj trivial) fun _=>aj trivial))
theorem RI(N:Nat)(hN:5000000≤N){c:ae}{b:ag}{h:bS}{a q p:Int}{m:Nat}(h2:200≤m)(hm:m≤40000)(hc:G m ar c)(hb:G m aB b)(hh:G m dL h)(ha:aC a)(hq:aC q)(hp:aC p):Ok (fun r=>G m aB r.1∧G m dL r.2.1) (pv N c b h a q p):=by
 have ho:G m jM (h.1,(a,(h.2.1,(W .i64 (3-h.2.2.1),(q,(p,())))))):=⟨hh.1,ha,hh.2.1,e9 _,hq,hp,trivial⟩
 have fK: ∀e:Int,Ok (fun r:ag×bS×Int=>G m aB r.1∧G m dL r.2.1) (some ((bN,(cI,(bq,(bq,(c3,(de,())))))),(aS,e))):=fun e=>aj ⟨G.fh,G.zero m dL⟩
 unfold pv pv.b
 have hj: ∀t:uy,Ok (fun r=>G m aB r.1∧G m dL r.2.1) (pv.j14 N q c b h (bN,(cI,(bq,(bq,(c3,(de,())))))) aS t):=fun t=>by
  unfold pv.j14 pv.YX
  exact af (BT N hN c h2 (by omega) hb) fun r hr=>cH (fun _=>fK _) fun _=>aj ⟨hr,hh.1,hh.2.1,hh.2.2.1,e9 _,trivial⟩
 exact cW (ea N hN (by omega) hb) (b8 (fun _=>fK _) fun _=>cW (zA N h) (b8 (fun _=>fK _) fun _=>aw (fun _=>fK _) fun _=>aw (fun _=>fK _) fun _=>aw (fun _=>fK _) fun _=>aw (fun _=>fK _) fun _=>aw (fun _=>fK _) fun _=>aw (fun _=>fK _) fun _=>aw (fun _=>fK _) fun _=>af (FJ N hN h2 hm hc hb ho) fun e _=>cH (fun _=>fK _) fun _=>ok_eq (fun _=>hj _) fun _=>hj _))
end VM
end
section
namespace VM
open Go VM.F
def Dk(k:Nat)(d:aM):Prop:=(∀x∈(d.1:List Int),0≤x∧x<18446744073709551616)∧0≤(d.2.1:Int)∧(d.2.1:Int)≤k
theorem Dk.mono{j k:Nat}{d:aM}(h:Dk j d)(hk:j≤k):Dk k d:=⟨h.1,h.2.1,Int.le_trans h.2.2 (by omega)⟩
def px:Nat:=1000000000
theorem Kg(N:Nat){k:Nat}{d:aM}(hk:k≤px)(h:Dk k d):Ok (fun r=>(0≤r.1∧r.1<18446744073709551616)∧Dk (k+1) r.2) (F42 N d):=by
 obtain⟨h1,h2,h3⟩:=h
 unfold px at hk
 unfold F42
 have hw: ∀i:Int,0≤i→i≤(k:Int)→0≤W .i64 (i+1)∧W .i64 (i+1)≤((k+1:Nat):Int):=fun i h0 h1=>by rw[an (by omega) (by omega)];omega
 have hd:Dk (k+1) (d.1,(W .i64 (d.2.1+1),d.2.2)):=⟨h1,hw _ h2 h3⟩
 have hg: ∀(l:List Int) (i:Int),(∀x∈l,0≤x∧x<18446744073709551616)→0≤l.getD i.toNat 0∧l.getD i.toNat 0<18446744073709551616:=fun l i hl=>by
  by_cases hi:i.toNat<l.length
  ·rw[List.getD_eq_getElem?_getD,List.getElem?_eq_getElem hi];exact hl _ (List.getElem_mem hi)
  ·rw[List.getD_eq_getElem?_getD,List.getElem?_eq_none (by omega)];decide
 exact aw (fun dz=>aA ⟨h2,dz⟩ (aj ⟨hg _ _ h1,hd⟩)) fun _=>aj ⟨(show(0:Int)≤0∧(0:Int)<18446744073709551616 by decide),hd⟩
theorem rem_in{x y:Int}(h0:0≤x)(hy:0<y):0≤rem x y∧rem x y<y:=by
 unfold rem;rw[eV]
 exact⟨Int.tmod_nonneg _ h0,Int.tmod_lt_of_pos _ hy⟩
theorem gV(N:Nat){k:Nat}{d:aM}{n:Int}(hn:0<n∧n<1000000)(h:Dk k d)(hk:k≤px:=by first|decide|(unfold px;omega)):Ok (fun r=>(0≤r.1∧r.1<n)∧Dk (k+1) r.2) (nZ N d n):=by
 unfold nZ
 refine af (Kg N hk h) fun r hr=> ?_
 dsimp only
 rw[bw (x:=n) (by omega) (by omega)]
 have:=rem_in hr.1.1 hn.1
 refine ok_eq (fun _=>by omega) fun _=>aj ⟨?_,hr.2⟩
 dsimp only
 rw[an (by omega) (by omega)]
 exact this
theorem s6(N:Nat){k:Nat}{d:aM}{n:Int}(hn:0<n∧n<1000000)(h:Dk k d)(hk:k≤px:=by first|decide|(unfold px;omega)):Ok (fun r=>Dk (k+1) r.2) (PW N d n):=by
 unfold PW
 exact af (gV N hn h hk) fun r hr=>aj hr.2
theorem nP(N:Nat){k:Nat}{d:aM}(h:Dk k d)(hk:k≤px:=by first|decide|(unfold px;omega)):Ok (fun r=>aC r.1∧Dk (k+1) r.2) (Hv N d):=by
 unfold Hv
 refine af (Kg N hk h) fun r hr=>ok_eq (fun _=>by omega) fun _=> ?_
 dsimp only
 repeat' first|exact aj ⟨e9 _,hr.2⟩|refine aw (fun _=> ?_) (fun _=> ?_)|refine ok_eq (fun _=> ?_) (fun _=> ?_)|(exfalso;omega)
theorem FK{x y:Int}(hy:0<y)(QO:y<9223372036854775808):aC (rem x y):=by
 unfold rem;rw[eV]
 have h1:=Int.tmod_lt_of_pos x hy
 have h2: -y<x.tmod y:=by
  have:=Int.tmod_lt_of_pos (-x) hy
  rw[Int.neg_tmod]at this;omega
 unfold aC;omega
theorem xu{x y:Int}(hx:aC x)(hy:aC y):aC (mx x y):=by unfold mx;rw[eV];split<;>assumption
theorem RJ{x y:Int}(hx:aC x)(hy:aC y):aC (mn x y):=by unfold mn;rw[eV];split<;>assumption
theorem iH{x n:Int}(h:0≤x∧x<n)(hn:n≤1000000):aC x:=gl (by omega) (by omega)
theorem acq(N:Nat)(hN:100≤N){d:aM}(h:Dk 0 d):Ok (fun r=>(G 5 ar r.1∧1≤r.1.1.length)∧Dk 1000 r.2) (py N d):=by
 unfold py py.b
 refine af (gV N (by decide) h) fun r hr=> ?_
 rw[an (x:=1+r.1) (by omega) (by omega)]
 obtain⟨k,hk⟩: ∃k:Nat,1+r.1=(k:Int):=⟨(1+r.1).toNat,by omega⟩
 rw[hk]
 refine xX (F:=fun n x (s:aM×aE)=>py.l3 N n s.1 ([],eG) ([],eG) s.2 x) (fun x s=>x+s.2.length=k∧Dk (1+20*s.2.length) s.1∧G 4 (.slice dL) s.2) (fun n x s hI hr=> ?_) (fun n s hI=> ?_) k N (r.2,_) (by omega) ⟨rfl,hr.2,G.nil⟩
 all_goals unfold py.l3 py.gZ
 ·obtain⟨hx,hd,hG⟩:=hI
  have hl:=hG.1
  have tv: ∀(d:aM) (x4:bS),Dk (1+20*s.2.length+10) d→G 4 dL x4→Ok (fun r=>(G 5 ar r.1∧1≤r.1.1.length)∧Dk 1000 r.2) (cond (small (s.2.length+[x4].length)) (py.l3 N n d ([],eG) ([],eG) (s.2++[x4]) (W .i64 (((x+1:Nat):Int)-1))) none):=fun d x4 hd hx4=>by
   rw[an (x:=((x+1:Nat):Int)-1) (by omega) (by omega),show((x+1:Nat):Int)-1=(x:Int)by omega]
   refine aK (by rw[List.length_singleton];omega) (hr (_,_) ⟨by rw[List.length_append,List.length_singleton];omega,Dk.mono hd (by rw[List.length_append,List.length_singleton];omega),?_⟩)
   refine⟨by rw[List.length_append,List.length_singleton];omega,fun y hy=> ?_⟩
   rcases List.mem_append.1 hy with hy|hy
   ·exact hG.2 y hy
   ·rw[List.mem_singleton.1 hy];exact hx4
  have hj: ∀(d:aM) (x5:bS),Dk (1+20*s.2.length+6) d→G 4 dL x5→Ok (fun r=>(G 5 ar r.1∧1≤r.1.1.length)∧Dk 1000 r.2) (py.j8 N (py.l3 N n) d ([],eG) ([],eG) s.2 ((x+1:Nat):Int) x5):=fun d x5 hd hx5=>by
   unfold py.j8 py.IC
   refine af (s6 N (by decide) hd) fun r hd=>rW (fun _=> ?_) fun _=>tv _ _ (Dk.mono hd (by omega)) hx5
   refine af (nP N hd) fun r ⟨_,hd⟩=>ok_eq (fun _=>by omega) fun _=> ?_
   dsimp only
   exact af (nP N hd) fun r ⟨_,hd⟩=>ok_eq (fun _=>by omega) fun _=>tv _ _ (Dk.mono hd (by omega)) ⟨hx5.1,hx5.2.1,FK (by decide) (by decide),FK (by decide) (by decide),hx5.2.2.2.2⟩
  refine aw (fun _=> ?_) fun _=>by omega
  refine af (gV N (by decide) hd) fun a ⟨ha,hd⟩=>af (gV N (by decide) hd) fun b ⟨hb,hd⟩=>af (gV N (by decide) hd) fun c ⟨hc,hd⟩=>af (gV N (by decide) hd) fun e ⟨he,hd⟩=>af (s6 N (by decide) hd) fun r hd=>rW (fun _=>af (nP N hd) fun r ⟨_,hd⟩=>ok_eq (fun _=>by omega) fun _=>hj _ _ (Dk.mono hd (by omega)) ?_) fun _=>hj _ _ (Dk.mono hd (by omega)) ?_
  all_goals exact⟨iH ha (by decide),e9 _,iH hc (by decide),iH he (by decide),trivial⟩
 ·obtain⟨hx,hd,hG⟩:=hI
  have hl:=hG.1
  have hd:Dk 900 s.1:=Dk.mono hd (by omega)
  refine aw (fun _=>by omega) fun _=>af (gV N (by decide) hd) fun a ⟨ha,hd⟩=>af (gV N (by decide) hd) fun b ⟨hb,hd⟩=>af (gV N (by decide) hd) fun c ⟨hc,hd⟩=>af (gV N (by decide) hd) fun e ⟨he,hd⟩=>af (gV N (by decide) hd) fun f ⟨hf,hd⟩=> ?_
  dsimp only
  refine af (gV N (by decide) hd) fun g ⟨hg,hd⟩=>af (s6 N (by decide) hd) fun r hd=>rW (fun _=>af (nP N hd) fun r ⟨hr,hd⟩=>aj ⟨⟨⟨G.mono (by decide) hG,?_⟩,by dsimp only;omega⟩,Dk.mono hd (by decide)⟩) fun _=>aj ⟨⟨⟨G.mono (by decide) hG,?_⟩,by dsimp only;omega⟩,Dk.mono hd (by decide)⟩
  ·exact⟨hr,iH hb (by decide),iH hc (by decide),iH he (by decide),e9 _,iH hg (by decide),trivial⟩
  ·exact⟨iH ha (by decide),iH hb (by decide),iH hc (by decide),iH he (by decide),e9 _,iH hg (by decide),trivial⟩
abbrev OA(m:Nat)(l:fT):Prop:=G m (.slice n7) l
theorem AO{k a b c d e f g:Int}{m:Nat}(h0:aC k)(h1:aC a)(h2:aC b)(h3:aC c)(h4:aC d)(h5:aC e)(h6:aC f)(h7:aC g):G m n7 (k,(a,(b,(c,(d,(e,(f,(g,())))))))):=⟨h0,h1,h2,h3,h4,h5,h6,h7,trivial⟩
theorem a8{x:Int}(h: -1000000≤x∧x≤1000000:=by decide):aC x:=gl h.1 h.2
theorem De(N:Nat){k:Nat}{d:aM}(h:Dk k d)(c:ae){i:Int}(hi:0≤i∧i<(c.1.length:Int))(hc:c.1.length≤5)(hk:k≤100000000):Ok (fun r=>G 0 n7 r.1∧Dk (k+5) r.2) (LF N d c i):=by
 unfold LF
 have hb:aC 1000000000000:=by unfold aC;decide
 have iA:aC i:=gl (by omega) (by omega)
 exact aA hi (af (gV N (by decide) h) fun a ⟨_,hd⟩=>af (s6 N (by decide) hd) fun r hd=>rW (fun _=>af (nP N hd) fun r ⟨_,hd⟩=>ok_eq (fun _=>by omega) fun _=>aj ⟨AO a8 a8 a8 iA a8 a8 a8 (e9 _),Dk.mono hd (by omega)⟩) fun _=>aj ⟨AO a8 a8 a8 iA a8 a8 a8 (xu a8 (RJ hb (e9 _))),Dk.mono hd (by omega)⟩)
theorem FL(N:Nat){k:Nat}{d:aM}(h:Dk k d)(c:ae)(Md:1≤c.1.length)(hc:c.1.length≤5)(hk:k≤100000000):Ok (fun r=>G 0 n7 r.1∧Dk (k+10) r.2) (OB N d c):=by
 unfold OB
 have hb:aC 1000000000000:=by unfold aC;decide
 refine af (gV N ⟨by omega,by omega⟩ h) fun a ⟨ha,hd⟩=>af (gV N (by decide) hd) fun b ⟨dq,hd⟩=> ?_
 dsimp only
 refine af (gV N (by decide) hd) fun e ⟨he,hd⟩=>af (gV N (by decide) hd) fun f ⟨hf,hd⟩=>aA ha (af (gV N (by decide) hd) fun g ⟨_,hd⟩=>af (s6 N (by decide) hd) fun r hd=>rW (fun _=>af (nP N hd) fun r ⟨_,hd⟩=>ok_eq (fun _=>by omega) fun _=>af (nP N hd) fun r' ⟨_,hd⟩=>ok_eq (fun _=>by omega) fun _=>aj ⟨AO a8 a8 (e9 _) (iH ha (by omega)) (e9 _) a8 (e9 _) (e9 _),Dk.mono hd (by omega)⟩) fun _=>aj ⟨AO a8 a8 (e9 _) (iH ha (by omega)) (e9 _) a8 (e9 _) (xu a8 (RJ hb (e9 _))),Dk.mono hd (by omega)⟩)
end VM
end
section
namespace VM
open Go VM.F
structure Cf(c:ae):Prop where
 g:G 5 ar c
 n:1≤c.1.length
theorem FM(N:Nat){k:Nat}{d:aM}(h:Dk k d){c:ae}(hc:Cf c)(hk:k≤10000000):Ok (fun r=>G 0 n7 r.1∧Dk (k+20) r.2) (OC N d c):=by
 have hn:=hc.n
 have hl:=hc.g.1.1
 unfold OC
 refine af (gV N (by decide) h) fun a ⟨ha,hd⟩=> ?_
 dsimp only
 refine af (gV N (by decide) hd) fun b ⟨hb,hd⟩=>af (gV N ⟨by omega,by omega⟩ hd) fun i ⟨hi,hd⟩=>af (gV N (by decide) hd) fun e ⟨he,hd⟩=> ?_
 have hz: ∀(e:gm) (j:Nat) (d:aM),G 0 n7 e→Dk j d→j≤k+20→Ok (fun r=>G 0 n7 r.1∧Dk (k+20) r.2) (some (e,d)):=fun e j d he hd hj=>aj ⟨he,Dk.mono hd hj⟩
 have hs: ∀{f:Int×aM→Option (gm×aM)},(∀x d,aC x→Dk (k+5) d→Ok (fun r=>G 0 n7 r.1∧Dk (k+20) r.2) (f (x,d)))→Ok (fun r=>G 0 n7 r.1∧Dk (k+20) r.2) ((Hv N e.2).bind f):=fun hf=>af (nP N hd) fun r ⟨h1,h2⟩=>hf r.1 r.2 h1 (Dk.mono h2 (by omega))
 have hm: ∀{n:Int} {f:Int×aM→Option (gm×aM)},0<n∧n<1000000→(∀x d,Dk (k+5) d→Ok (fun r=>G 0 n7 r.1∧Dk (k+20) r.2) (f (x,d)))→Ok (fun r=>G 0 n7 r.1∧Dk (k+20) r.2) ((nZ N e.2 n).bind f):=fun hn hf=>af (gV N hn hd) fun r ⟨h1,h2⟩=>hf r.1 r.2 (Dk.mono h2 (by omega))
 repeat' first
  |refine ok_eq (fun _=> ?_) (fun _=> ?_)
  |(exfalso;omega)
  |(refine hs fun x d' hx QE=> ?_;dsimp only)
  |(refine hm (by decide) fun x d' QE=> ?_;dsimp only)
  |(refine hz _ _ _ ?_ hd (by omega);refine⟨?_,?_,?_,?_,?_,?_,?_,?_,trivial⟩<;>first|exact e9 _|exact bl|exact xu hx a8|exact FK (by decide) (by decide)|exact(G.at hc.g.1 _).2.1)
  |(refine hz _ _ _ ?_ QE (by omega);refine⟨?_,?_,?_,?_,?_,?_,?_,?_,trivial⟩<;>first|exact e9 _|exact bl|exact xu hx a8|exact FK (by decide) (by decide)|exact(G.at hc.g.1 _).2.1)
  |(refine hz _ _ _ ?_ h2 (by omega);refine⟨?_,?_,?_,?_,?_,?_,?_,?_,trivial⟩<;>first|exact e9 _|exact bl|exact xu hx a8|exact FK (by decide) (by decide)|exact(G.at hc.g.1 _).2.1)
  |exact af (De N hd c hi hl (by omega)) fun r ⟨h1,h2⟩=>hz _ _ _ h1 h2 (by omega)
  |exact af (FL N hd c hn hl (by omega)) fun r ⟨h1,h2⟩=>hz _ _ _ h1 h2 (by omega)
  |refine aA hi ?_
  |(refine af (gV N (by decide) QE) fun r ⟨h1,h2⟩=> ?_)
end VM
end
section
namespace VM
open Go VM.F
theorem G.cat{m n:Nat}{e:Ty}{l k:List e.den}(h:G m (.slice e) l)(h':G n (.slice e) k):G (m+n) (.slice e) (l++k):=
 ⟨by have:=h.1;have:=h'.1;rw[List.length_append];omega,fun y hy=>by
  rcases List.mem_append.1 hy with hy|hy
  ·exact G.mono (by omega) (h.2 y hy)
  ·exact G.mono (by omega) (h'.2 y hy)⟩
theorem G.two{m:Nat}{e:Ty}{a b:e.den}(ha:G 0 e a)(hb:G 0 e b)(hm:2≤m):G m (.slice e) [a,b]:=
 ⟨hm,fun y hy=>by
  rcases List.mem_cons.1 hy with rfl|hy
  ·exact G.mono (by omega) ha
  ·rw[List.mem_singleton.1 hy];exact G.mono (by omega) hb⟩
theorem G.one{m:Nat}{e:Ty}{a:e.den}(ha:G 0 e a)(hm:1≤m):G m (.slice e) [a]:=
 ⟨hm,fun y hy=>by rw[List.mem_singleton.1 hy];exact G.mono (by omega) ha⟩
theorem Df{α:Type}(a b:α):[a,b].length=2:=rfl
theorem IK(N:Nat)(hN:100≤N){k:Nat}{d:aM}(h:Dk k d)(c:ae)(hk:k≤10000000):Ok (fun r=>OA 40 r.1∧Dk (k+50) r.2) (dv N d c):=by
 have s64: ∀i:Nat,i<100→aC (i:Int):=fun i hi=>gl (by omega) (by omega)
 unfold dv dv.b
 refine jC (len:=5) (F:=fun n i (s:aM×fT)=>dv.l3 N n s.1 s.2 i) (fun i s=>Dk (k+2*i) s.1∧OA (3*i) s.2) (fun n i s hi hI hr=> ?_) (fun n s hI=> ?_) 5 N 1 (d,[]) (by omega) (by omega) (by omega) ⟨Dk.mono h (by omega),G.nil⟩
 all_goals unfold dv.l3 dv.gZ
 ·have hl:=hI.2.1
  have iA:=s64 i (by omega)
  dsimp only
  rw[an (x:=(i:Int)+1) (by omega) (by omega),aa i]
  have h2:OA (3*i+2) (s.2++[((1:Int),((i:Int),eG)),((2:Int),((i:Int),((i:Int),((0:Int),((1:Int),aR)))))]):=G.cat hI.2 (G.two (AO a8 iA bl bl bl bl bl bl) (AO a8 iA iA bl a8 bl bl bl) (by omega))
  have hl2:=h2.1
  exact dC (fun _=>aK (by rw[Df];omega) (af (s6 N (by decide) hI.1 (by unfold px;omega)) fun r hd=>b8 (fun _=>af (gV N (by decide) hd (by unfold px;omega)) fun r ⟨_,hd⟩=>aK (by rw[List.length_singleton];omega) (hr (_,_) ⟨Dk.mono hd (by omega),G.mono (by omega) (G.cat h2 (G.one (m:=1) (AO a8 iA bl bl bl bl (e9 _) bl) (by omega)))⟩)) fun _=>hr (_,_) ⟨Dk.mono hd (by omega),G.mono (by omega) h2⟩)) fun _=>by omega
 ·refine dC (fun _=>by omega) fun _=> ?_
  refine jC (len:=8) (F:=fun n i (s:aM×fT)=>dv.l9 N n s.1 s.2 i) (fun i s=>Dk (k+10+i) s.1∧OA (15+i) s.2) (fun n i s hi hI hr=> ?_) (fun n s hI=> ?_) 8 N 5 s (by omega) (by omega) (by omega) ⟨Dk.mono hI.1 (by omega),G.mono (by omega) hI.2⟩
  all_goals unfold dv.l9 dv.vl
  ·have hl:=hI.2.1
   dsimp only
   rw[an (x:=(i:Int)+1) (by omega) (by omega),aa i]
   exact dC (fun _=>af (gV N (by decide) hI.1 (by unfold px;omega)) fun r ⟨_,hd⟩=>aK (by rw[List.length_singleton];omega) (hr (_,_) ⟨Dk.mono hd (by omega),G.mono (by omega) (G.cat hI.2 (G.one (m:=1) (AO a8 (e9 _) (s64 i (by omega)) bl a8 bl bl bl) (by omega)))⟩)) fun _=>by omega
  ·refine dC (fun _=>by omega) fun _=> ?_
   refine jC (len:=8) (F:=fun n i (s:aM×fT)=>dv.lH N n s.1 s.2 i) (fun i s=>Dk (k+18+2*i) s.1∧OA (23+2*i) s.2) (fun n i s hi hI hr=> ?_) (fun n s hI=> ?_) 8 N 1 s (by omega) (by omega) (by omega) ⟨Dk.mono hI.1 (by omega),G.mono (by omega) hI.2⟩
   all_goals unfold dv.lH dv.j2
   ·have hl:=hI.2.1
    have iA:=s64 i (by omega)
    dsimp only
    rw[an (x:=(i:Int)+1) (by omega) (by omega),aa i]
    exact dC (fun _=>af (gV N (by decide) hI.1 (by unfold px;omega)) fun r ⟨_,hd⟩=>af (gV N (by decide) hd (by unfold px;omega)) fun r ⟨_,hd⟩=>aK (by rw[Df];omega) (hr (_,_) ⟨Dk.mono hd (by omega),G.mono (by omega) (G.cat hI.2 (G.two (m:=2) (AO a8 bl iA bl bl bl (e9 _) bl) (AO a8 bl iA bl bl bl (e9 _) bl) (by omega)))⟩)) fun _=>by omega
   ·exact dC (fun _=>by omega) fun _=>aj ⟨G.mono (by omega) hI.2,Dk.mono hI.1 (by omega)⟩
theorem OD{x:Nat}(h:x<1000000):W .i64 (((x+1:Nat):Int)-1)=(x:Int):=by rw[an (by omega) (by omega)];omega
theorem acr(N:Nat)(hN:1000≤N){k:Nat}{d:aM}(h:Dk k d){c:ae}(hc:Cf c){RK:Int}(hm:0≤RK∧RK≤100)(hk:k≤10000):Ok (fun r=>OA 200 r.1∧Dk (k+3000) r.2) (ya N d c RK):=by
 have hn:=hc.n
 have hl:=hc.g.1.1
 unfold ya ya.b
 rw[an (x:=RK+1) (by omega) (by omega)]
 refine af (IK N (by omega) h c (by omega)) fun r ⟨Nv,hd⟩=>af (gV N ⟨by omega,by omega⟩ hd (by unfold px;omega)) fun z ⟨hz,hd⟩=> ?_
 obtain⟨j,hj⟩: ∃j:Nat,z.1=(j:Int):=⟨z.1.toNat,by omega⟩
 rw[hj]
 refine xX (F:=fun n x (s:aM×fT)=>ya.l3 N n s.1 c s.2 x) (fun x s=>x≤100∧Dk (k+100+25*(100-x)) s.1∧OA (40+(100-x)) s.2) (fun n x s hI hr=> ?_) (fun n s hI=> ?_) j N (z.2,r.1) (by omega) ⟨by omega,Dk.mono hd (by omega),G.mono (by omega) Nv⟩
 all_goals unfold ya.l3 ya.gZ
 ·obtain⟨hx,hd,hG⟩:=hI
  have hs:=hG.1
  rw[OD (by omega)]
  have put: ∀(e:gm) (d:aM) (q:Nat),G 0 n7 e→Dk q d→q≤k+100+25*(100-(x+1))+25→Ok (fun r=>OA 200 r.1∧Dk (k+3000) r.2) (cond (small (s.2.length+[e].length)) (ya.l3 N n d c (s.2++[e]) (x:Int)) none):=fun e d q he hd hq=>aK (by rw[List.length_singleton];omega) (hr (_,_) ⟨by omega,Dk.mono hd (by omega),G.mono (by omega) (G.cat hG (G.one (m:=1) he (by omega)))⟩)
  exact aw (fun _=>af (gV N (by decide) hd (by unfold px;omega)) fun a ⟨_,hd⟩=>ok_eq (fun _=>af (FM N hd hc (by omega)) fun r ⟨h1,h2⟩=>put _ _ _ h1 h2 (by omega)) fun _=>ok_eq (fun _=>af (gV N ⟨by omega,by omega⟩ hd (by unfold px;omega)) fun b ⟨hb,hd⟩=>af (De N hd c hb hl (by omega)) fun r ⟨h1,h2⟩=>put _ _ _ h1 h2 (by omega)) fun _=>af (FL N hd c hn hl (by omega)) fun r ⟨h1,h2⟩=>put _ _ _ h1 h2 (by omega)) fun _=>by omega
 ·exact aw (fun _=>by omega) fun _=>aj ⟨G.mono (by omega) hI.2.2,Dk.mono hI.2.1 (by omega)⟩
theorem aeq(N:Nat)(hN:1000≤N){k:Nat}{d:aM}(h:Dk k d){c:ae}(hc:Cf c)(hk:k≤100000):Ok (fun r=>OA 3 r.1∧Dk (k+100) r.2) (xv N d c):=by
 have hn:=hc.n
 have hl:=hc.g.1.1
 unfold xv xv.b
 refine af (gV N (by decide) h (by unfold px;omega)) fun z ⟨hz,hd⟩=> ?_
 obtain⟨j,hj⟩: ∃j:Nat,z.1=(j:Int):=⟨z.1.toNat,by omega⟩
 rw[hj]
 refine xX (F:=fun n x (s:aM×fT)=>xv.l3 N n s.1 c s.2 x) (fun x s=>x≤3∧Dk (k+1+25*(3-x)) s.1∧OA (3-x) s.2) (fun n x s hI hr=> ?_) (fun n s hI=> ?_) j N (z.2,[]) (by omega) ⟨by omega,Dk.mono hd (by omega),G.nil⟩
 all_goals unfold xv.l3 xv.gZ
 ·obtain⟨hx,hd,hG⟩:=hI
  have hs:=hG.1
  rw[OD (by omega)]
  have put: ∀(e:gm) (d:aM) (q:Nat),G 0 n7 e→Dk q d→q≤k+1+25*(3-(x+1))+25→Ok (fun r=>OA 3 r.1∧Dk (k+100) r.2) (cond (small (s.2.length+[e].length)) (xv.l3 N n d c (s.2++[e]) (x:Int)) none):=fun e d q he hd hq=>aK (by rw[List.length_singleton];omega) (hr (_,_) ⟨by omega,Dk.mono hd (by omega),G.mono (by omega) (G.cat hG (G.one (m:=1) he (by omega)))⟩)
  exact aw (fun _=>af (s6 N (by decide) hd (by unfold px;omega)) fun a hd=>rW (fun _=>af (gV N ⟨by omega,by omega⟩ hd (by unfold px;omega)) fun b ⟨hb,hd⟩=>af (De N hd c hb hl (by omega)) fun r ⟨h1,h2⟩=>put _ _ _ h1 h2 (by omega)) fun _=>af (FM N hd hc (by omega)) fun r ⟨h1,h2⟩=>put _ _ _ h1 h2 (by omega)) fun _=>by omega
 ·exact aw (fun _=>by omega) fun _=>aj ⟨G.mono (by omega) hI.2.2,Dk.mono hI.2.1 (by omega)⟩
end VM
end
section
namespace VM
open Go VM.F
theorem fc{α:Type}{r:α}:Ok (fun _=>True) (some r):=aj trivial
theorem LG(N:Nat)(k:Int):Ok (fun s=>ByteArray.size s≤100) (RL N k):=by
 unfold RL
 repeat' first|refine ok_eq (fun _=> ?_) (fun _=> ?_)|exact aj (by decide)
theorem LH(N:Nat)(k f:Int):Ok (fun _=>True) (RM N k f):=by
 unfold RM YY YZ
 repeat' first|refine ok_eq (fun _=> ?_) (fun _=> ?_)|exact fc|refine af (Q:=fun _=>True) ?_ fun _ _=>fc
theorem OE(N:Nat)(e:gm)(f:Int):Ok (fun _=>True) (RN N e f):=by
 unfold RN
 repeat' first|refine ok_eq (fun _=> ?_) (fun _=> ?_)|exact fc
theorem OF(N:Nat)(e:gm)(f x:Int):Ok (fun _=>True) (RO N e f x):=by
 unfold RO
 repeat' first|refine ok_eq (fun _=> ?_) (fun _=> ?_)|exact fc
theorem acs(N:Nat)(hN:1000≤N)(e:gm):Ok (fun _=>True) (mP N e):=by
 unfold mP mP.b Y0
 refine af (Q:=fun _=>True) (dC (fun _=>fc) fun _=>fc) fun _ _=>b8 (fun _=>fc) fun _=>af (LG N _) fun s hs=> ?_
 refine bz (len:=ByteArray.size s) (F:=fun n i (x:gm)=>mP.l6 N n e s x i) (fun _ _=>True) trivial (by omega) (fun n i x hi _ hr=> ?_) (fun n x _=> ?_)
 all_goals unfold mP.l6 mP.oI
 ·rw[an (x:=(i:Int)+1) (by omega) (by omega),aa i]
  exact aw (fun _=>aA ⟨by omega,by omega⟩ (af (LH N _ _) fun _ _=>aA ⟨by omega,by omega⟩ (af (OE N _ _) fun _ _=>aw (fun _=>fc) fun _=>aw (fun _=>fc) fun _=>aA ⟨by omega,by omega⟩ (af (OF N _ _ _) fun y _=>hr y trivial)))) fun _=>by omega
 ·exact aw (fun _=>by omega) fun _=>fc
theorem G.ins{m:Nat}{e:Ty}{l:List e.den}{x:e.den}(h:G m (.slice e) l)(hx:G m e x)(a b c:Nat)(ha:c≤a):G (m+1) (.slice e) ((([]++List.drop b (List.take c l))++[x])++List.drop a (List.take l.length l)):=by
 have:=h.1
 refine⟨?_,fun y hy=> ?_⟩
 ·simp only[List.nil_append,List.length_append,List.length_drop,List.length_take,List.length_singleton];omega
 ·rw[List.nil_append,List.append_assoc]at hy
  rcases List.mem_append.1 hy with hy|hy
  ·exact G.mono (by omega) (h.2 y (List.mem_of_mem_take (List.mem_of_mem_drop hy)))
  ·rcases List.mem_append.1 hy with hy|hy
   ·rw[List.mem_singleton.1 hy];exact G.mono (by omega) hx
   ·exact G.mono (by omega) (h.2 y (List.mem_of_mem_take (List.mem_of_mem_drop hy)))
theorem OG{α:Type}{P:List α×Int→Prop}{l:List α}{x:α}{k:Nat}{e:Int}(hk:k≤l.length)(hl:l.length≤1000000)(h:P ((([]++List.drop (0:Int).toNat (List.take (k:Int).toNat l))++[x])++List.drop (k:Int).toNat (List.take (l.length:Int).toNat l),e)):
  Ok P (cond (fB 0 (k:Int) (l.length:Int) (l.length:Int)) (let v6:List α:=List.drop (0:Int).toNat (List.take (k:Int).toNat l);cond (small (([]:List α).length+v6.length)) (let v7:List α:=[]++v6;cond (small (v7.length+[x].length)) (let v8:List α:=v7++[x];cond (fB (k:Int) (l.length:Int) (l.length:Int) (l.length:Int)) (let v9:List α:=List.drop (k:Int).toNat (List.take (l.length:Int).toNat l);cond (small (v8.length+v9.length)) (some ((v8++v9),e)) none) none) none) none) none):=by
 dsimp only
 have t: ∀a b:Nat,(List.drop a (List.take b l)).length≤l.length:=fun a b=>by rw[List.length_drop,List.length_take];omega
 have t1:=t (0:Int).toNat (k:Int).toNat
 have t2:=t (k:Int).toNat (l.length:Int).toNat
 refine Dc ⟨by omega,by omega,by omega,by omega⟩ (aK (by rw[List.length_nil];omega) (aK ?_ (Dc ⟨by omega,by omega,by omega,by omega⟩ (aK ?_ (aj h)))))
 ·rw[List.nil_append,List.length_singleton];omega
 ·rw[List.nil_append,List.length_append,List.length_singleton];omega
theorem aer(N:Nat)(hN:200000≤N){a:av}{m:Nat}(hm:m≤50000)(h:G m (.slice g5) a){id:Int}(aQ:aC id):Ok (fun r=>G (m+1) (.slice g5) r.1) (gK N a id):=by
 have hl:=h.1
 unfold gK gK.b
 refine cW (nL N (by omega) hN) (b8 (fun _=>aj G.nil) fun _=>aw (fun _=>aj G.nil) fun _=>aw (fun _=>aj G.nil) fun _=>cW (jX N (by omega) hN id) (cH (fun _=>aj G.nil) fun _=> ?_))
 have fin: ∀k:Nat,k≤a.length→Ok (fun r=>G (m+1) (.slice g5) r.1) (gK.j9 N a id [] (k:Int)):=fun k hk=>by
  unfold gK.j9 gK.H7
  have hx:G m g5 (id,((1:Int),())):=⟨aQ,(show aC 1 from a8),trivial⟩
  exact OG hk (by omega) (by simpa using G.ins h hx k 0 k (Nat.le_refl _))
 refine kt (len:=a.length) (F:=fun n i=>gK.l7 N n a id [] i) (by omega) (fun n i hi hr=> ?_) (fun n=> ?_)
 all_goals unfold gK.l7 gK.lC
 ·rw[an (x:=(i:Int)+1) (by omega) (by omega),aa i]
  exact aw (fun _=>aA ⟨by omega,by omega⟩ (aw (fun _=>hr) fun _=>fin i (by omega))) fun _=>by omega
 ·exact aw (fun _=>by omega) fun _=>fin _ (Nat.le_refl _)
end VM
end
section
namespace VM
open Go VM.F
theorem G4q{m:Nat}{x:bS}{q:Int}(h:G m dL x)(hq:aC q):G m dL (x.1,(x.2.1,(x.2.2.1,(q,x.2.2.2.2)))):=⟨h.1,h.2.1,h.2.2.1,hq,trivial⟩
theorem G4b{m:Nat}{x:bS}{q:Int}(h:G m dL x)(hq:aC q):G m dL (x.1,(q,x.2.2)):=⟨h.1,hq,h.2.2⟩
theorem G2b{m:Nat}{x:NL}{q:Int}(h:G m g5 x)(hq:aC q):G m g5 (x.1,(q,x.2.2)):=⟨h.1,hq,trivial⟩
theorem Dg(N:Nat)(hN:200000≤N){l:aE}(hl:l.length≤100000):Ok (fun _=>True) (iu N l):=kM (ue N hl hN) trivial
theorem ain(N:Nat)(hN:200000≤N){a:av}{l:aE}{x:bS}{m:Nat}(hm:m≤50000)(ha:G m (.slice g5) a)(h:G m (.slice dL) l)(hx:G 0 dL x):Ok (fun r=>G (m+1) (.slice dL) r.1) (eh N a l x):=by
 have h1:=ha.1
 have hl:=h.1
 have fin: ∀k:Nat,k≤l.length→Ok (fun r=>G (m+1) (.slice dL) r.1) (eh.AN N l x [] (k:Int)):=fun k hk=>by
  unfold eh.AN eh.s5
  exact OG hk (by omega) (by simpa using G.ins h (G.mono (Nat.zero_le m) hx) k 0 k (Nat.le_refl _))
 have hj:Ok (fun r=>G (m+1) (.slice dL) r.1) (eh.Hw N l x):=by
  unfold eh.Hw eh.zB
  refine kt (len:=l.length) (F:=fun n i=>eh.lH N n l x [] i) (by omega) (fun n i hi hr=> ?_) (fun n=> ?_)
  all_goals unfold eh.lH eh.j2
  ·rw[an (x:=(i:Int)+1) (by omega) (by omega),aa i]
   exact aw (fun _=>aA ⟨by omega,by omega⟩ (aw (fun _=>hr) fun _=>fin i (by omega))) fun _=>by omega
  ·exact aw (fun _=>by omega) fun _=>fin _ (Nat.le_refl _)
 unfold eh eh.b
 exact cW (y4 N (by omega) (by omega) hN) (b8 (fun _=>aj G.nil) fun _=>af (Dg N hN (by rw[List.length_singleton];omega)) fun _ _=>b8 (fun _=>aj G.nil) fun _=>cW (jX N (by omega) hN _) (ok_eq (fun _=>aj G.nil) fun _=>cH (fun _=>aj G.nil) fun _=>cW (uc N (by omega) hN _) (rW (fun _=>aj G.nil) fun _=>ok_eq (fun _=>cW (Bp N (by omega) hN _) (cH (fun _=>aj G.nil) fun _=>hj)) fun _=>hj)))
theorem aes(N:Nat)(hN:200000≤N){l:aE}{m:Nat}(hm:m≤50000)(h:G m (.slice dL) l){id q:Int}(hq:aC q):Ok (fun r=>G m (.slice dL) r.1) (mQ N l id q):=by
 have hl:=h.1
 unfold mQ mQ.b
 refine af (Dg N hN (by omega)) fun _ _=>b8 (fun _=>aj G.nil) fun _=>aw (fun _=>aj G.nil) fun _=>aw (fun _=>aj G.nil) fun _=>cW (uc N (by omega) hN _) (b8 (fun _=>aj G.nil) fun _=>aK (by rw[List.length_nil];omega) ?_)
 rw[List.nil_append]
 refine bz (len:=l.length) (F:=fun n i s=>mQ.l8 N n id q s i) (fun _ s=>s.length=l.length∧G m (.slice dL) s) ⟨rfl,h⟩ (by omega) (fun n i s hi hI hr=> ?_) (fun n s hI=> ?_)
 all_goals unfold mQ.l8 mQ.xR
 ·rw[an (x:=(i:Int)+1) (by omega) (by omega),aa i]
  have hs:=hI.1
  have hx:=G.at hI.2 (i:Int).toNat
  exact aw (fun _=>aA ⟨by omega,by omega⟩ (ok_eq (fun _=>aA ⟨by omega,by omega⟩ (hr _ ⟨by rw[List.length_set];exact hs,G.set hI.2 (G4q hx hq) _⟩)) fun _=>hr s hI)) fun _=>by omega
 ·have hs:=hI.1
  exact aw (fun _=>by omega) fun _=>aj hI.2
theorem OH(N:Nat)(a b:Int):Ok (fun r=>aC r.1) (RP N a b):=by
 have h: ∀(x:Int) (t:Bool),0≤x∧x<5→Ok (fun r:Int×Bool=>aC r.1) (some (x,t)):=fun x t hx=>aj (iH hx (by decide))
 unfold RP
 repeat' first|refine ok_eq (fun _=> ?_) (fun _=> ?_)|exact h _ _ (by decide)
theorem aio(N:Nat)(hN:200000≤N){l:av}{m:Nat}(hm:m≤50000)(h:G m (.slice g5) l)(id k:Int):Ok (fun r=>G m (.slice g5) r.1) (kP N l id k):=by
 have hl:=h.1
 unfold kP kP.b
 refine cW (nL N (by omega) hN) (b8 (fun _=>aj G.nil) fun _=>cW (jX N (by omega) hN _) (ok_eq (fun _=>aj G.nil) fun _=>af (OH N _ _) fun z hz=>b8 (fun _=>aj G.nil) fun _=>aK (by rw[List.length_nil];omega) ?_))
 rw[List.nil_append]
 refine bz (len:=l.length) (F:=fun n i s=>kP.s4 N n id z.1 s i) (fun _ s=>s.length=l.length∧G m (.slice g5) s) ⟨rfl,h⟩ (by omega) (fun n i s hi hI hr=> ?_) (fun n s hI=> ?_)
 all_goals unfold kP.s4 kP.pW
 ·rw[an (x:=(i:Int)+1) (by omega) (by omega),aa i]
  have hs:=hI.1
  have hx:=G.at hI.2 (i:Int).toNat
  exact aw (fun _=>aA ⟨by omega,by omega⟩ (ok_eq (fun _=>aA ⟨by omega,by omega⟩ (hr _ ⟨by rw[List.length_set];exact hs,G.set hI.2 (G2b hx hz) _⟩)) fun _=>hr s hI)) fun _=>by omega
 ·have hs:=hI.1
  exact aw (fun _=>by omega) fun _=>aj hI.2
theorem IL(N:Nat)(hN:200000≤N){a:av}{l:aE}{m:Nat}(hm:m≤50000)(ha:G m (.slice g5) a)(h:G m (.slice dL) l){id to:Int}(hto:aC to):Ok (fun r=>G m (.slice dL) r.1) (mR N a l id to):=by
 have h1:=ha.1
 have hl:=h.1
 unfold mR mR.b
 refine cW (y4 N (by omega) (by omega) hN) (b8 (fun _=>aj G.nil) fun _=>cW (uc N (by omega) hN _) (cW (jX N (by omega) hN _) (b8 (fun _=>aj G.nil) fun _=>ok_eq (fun _=>aj G.nil) fun _=>cH (fun _=>aj G.nil) fun _=>cH (fun _=>aj G.nil) fun _=>aK (by rw[List.length_nil];omega) ?_)))
 rw[List.nil_append]
 refine bz (len:=l.length) (F:=fun n i s=>mR.lH N n id to s i) (fun _ s=>s.length=l.length∧G m (.slice dL) s) ⟨rfl,h⟩ (by omega) (fun n i s hi hI hr=> ?_) (fun n s hI=> ?_)
 all_goals unfold mR.lH mR.j2
 ·rw[an (x:=(i:Int)+1) (by omega) (by omega),aa i]
  have hs:=hI.1
  have hx:=G.at hI.2 (i:Int).toNat
  exact aw (fun _=>aA ⟨by omega,by omega⟩ (ok_eq (fun _=>aA ⟨by omega,by omega⟩ (hr _ ⟨by rw[List.length_set];exact hs,G.set hI.2 (G4b hx hto) _⟩)) fun _=>hr s hI)) fun _=>by omega
 ·have hs:=hI.1
  exact aw (fun _=>by omega) fun _=>aj hI.2
theorem OI(N:Nat)(hN:200000≤N){l:aE}{m:Nat}(hm:m≤50000)(h:G m (.slice dL) l)(id:Int):Ok (fun r=>r.length≤m) (mS N l id):=by
 have hl:=h.1
 unfold mS mS.b
 refine af (Dg N hN (by omega)) fun _ _=>b8 (fun _=>aj (Nat.zero_le _)) fun _=>bz (len:=l.length) (F:=fun n i s=>mS.l5 N n l id s i) (fun i s=>s.length≤i) (Nat.zero_le _) (by omega) (fun n i s hi hI hr=> ?_) (fun n s hI=> ?_)
 all_goals unfold mS.l5 mS.dp
 ·rw[an (x:=(i:Int)+1) (by omega) (by omega),aa i]
  exact aw (fun _=>aA ⟨by omega,by omega⟩ (ok_eq (fun _=>aA ⟨by omega,by omega⟩ (aK (by rw[List.length_singleton];omega) (hr _ (by rw[List.length_append,List.length_singleton];omega)))) fun _=>hr s (by omega))) fun _=>by omega
 ·exact aw (fun _=>by omega) fun _=>aj (by omega)
abbrev L6(m:Nat)(l:aW):Prop:=G m (.slice jM) l
theorem OJ(N:Nat)(hN:200000≤N){l:aW}{a:List Int}{m:Nat}(hm:m≤50000)(h:L6 m l)(ha:a.length≤m):Ok (fun r=>L6 m r) (eS N l a):=by
 have hl:=h.1
 unfold eS eS.b
 refine cW (mG N (by omega) hN) (b8 (fun _=>aj G.nil) fun _=>bz (len:=l.length) (F:=fun n i s=>eS.l5 N n l a s i) (fun i s=>L6 i s) G.nil (by omega) (fun n i s hi hI hr=> ?_) (fun n s hI=> ?_))
 all_goals unfold eS.l5 eS.dp
 ·have hs:=hI.1
  refine aw (fun _=> ?_) fun _=>by omega
  refine bz (len:=a.length) (F:=fun n' j b=>eS.l9 N (eS.l5 N n) n' l a s (i:Int) b j) (fun _ _=>True) trivial (by omega) (fun n' j b hj _ eg=> ?_) (fun n' b _=> ?_)
  all_goals unfold eS.l9 eS.vl
  ·rw[an (x:=(j:Int)+1) (by omega) (by omega),aa j]
   exact aw (fun _=>rW (fun _=>eg _ trivial) fun _=>aA ⟨by omega,by omega⟩ (aA ⟨by omega,by omega⟩ (eg _ trivial))) fun _=>by omega
  ·rw[an (x:=(i:Int)+1) (by omega) (by omega),aa i]
   have hx:G 0 jM (l.getD (i:Int).toNat eG):=G.at h _
   exact aw (fun _=>by omega) fun _=>b8 (fun _=>aA ⟨by omega,by omega⟩ (aK (by rw[List.length_singleton];omega) (hr _ (G.cat hI (G.one hx (Nat.le_refl 1)))))) fun _=>hr s (G.mono (by omega) hI)
 ·exact aw (fun _=>by omega) fun _=>aj (G.mono hl hI)
theorem WX(N:Nat)(hN:5000000≤N)(c:ae){b:ag}{m:Nat}(hm:m≤50000)(hb:G m aB b)(id:Int):Ok (fun r=>G m aB r.1) (OK N c b id):=by
 unfold OK
 exact cW (ea N hN hm hb) (b8 (fun _=>aj G.fh) fun _=>af (lZ N (by omega) hm hb.1 _) fun _ _=>ok_eq (fun _=>aj G.fh) fun _=>af (OI N (by omega) hm hb.2.1 _) fun a ha=>af (OJ N (by omega) hm hb.2.2.2.2.2.1 ha) fun r hr=>aj ⟨hb.1,hb.2.1,hb.2.2.1,hb.2.2.2.1,hb.2.2.2.2.1,hr,trivial⟩)
theorem acu(N:Nat)(hN:200000≤N){l:aW}{m:Nat}(hm:m≤50000)(h:L6 m l)(a id:Int):Ok (fun r=>L6 m r.1) (mT N l a id):=by
 have hl:=h.1
 unfold mT mT.b
 refine cW (mG N (by omega) hN) (b8 (fun _=>aj G.nil) fun _=>bz (len:=l.length) (F:=fun n i s=>mT.l5 N n l a id s i) (fun i s=>L6 i s) G.nil (by omega) (fun n i s hi hI hr=> ?_) (fun n s hI=> ?_))
 all_goals unfold mT.l5 mT.dp
 ·have hs:=hI.1
  have hx:G 0 jM (l.getD (i:Int).toNat eG):=G.at h _
  rw[an (x:=(i:Int)+1) (by omega) (by omega),aa i]
  have h1:=hr s (G.mono (by omega) hI)
  have h2:=hr _ (G.cat hI (G.one hx (Nat.le_refl 1)))
  repeat' first|exact h1|exact h2|refine aK (by rw[List.length_singleton];omega) ?_|refine aA ⟨by omega,by omega⟩ ?_|refine aw (fun _=> ?_) (fun _=> ?_)|refine cH (fun _=> ?_) (fun _=> ?_)|(exfalso;omega)
 ·exact aw (fun _=>by omega) fun _=>ok_eq (fun _=>aj G.nil) fun _=>aj (G.mono hl hI)
end VM
end
