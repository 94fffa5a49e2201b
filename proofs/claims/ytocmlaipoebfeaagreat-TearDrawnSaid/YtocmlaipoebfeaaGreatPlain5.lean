/- A part of the proof of TearDrawn of layer 29: what the functions compute, in plain words. -/
import Derived.Test.YtocmlaipoebfeaaGreatPlain4
set_option linter.all false
section
namespace VM
open Go VM.F
def Ok{α:Type}(P:α→Prop)(o:Option α):Prop:= ∃r,o=some r∧P r
theorem ag{α:Type}{P:α→Prop}{r:α}(h:P r):Ok P (some r):=⟨r,rfl,h⟩
theorem af{α β:Type}{P:β→Prop}{Q:α→Prop}{o:Option α}{f:α→Option β}(h:Ok Q o)(hf: ∀r,Q r→Ok P (f r)):Ok P (o.bind f):=by
 obtain⟨r,rfl,hr⟩:=h
 exact hf r hr
theorem kS{α:Type}{P:α→Prop}{o:Option α}{r:α}(h:o=some r)(hr:P r):Ok P o:=⟨r,h,hr⟩
theorem pM{α:Type}{P:α→Prop}{b:Bool}{x y:Option α}(hx:b=true→Ok P x)(hy:b=false→Ok P y):Ok P (cond b x y):=by
 cases b
 ·exact hy rfl
 ·exact hx rfl
theorem bA{α:Type}{P:α→Prop}{b:Bool}{x y:Option α}(hx:b=false→Ok P x)(hy:b=true→Ok P y):Ok P (cond (!b) x y):=by
 cases b
 ·exact hx rfl
 ·exact hy rfl
theorem au{α:Type}{P:α→Prop}{a b:Int}{x y:Option α}(hx:a<b→Ok P x)(hy:b≤a→Ok P y):Ok P (cond (aH a b) x y):=by
 rw[bP]
 split
 ·exact hx (by assumption)
 ·exact hy (by omega)
theorem de{α:Type}{P:α→Prop}{a b:Int}{x y:Option α}(hx:a≤b→Ok P x)(hy:b<a→Ok P y):Ok P (cond (bV a b) x y):=by
 rw[bL]
 split
 ·exact hx (by assumption)
 ·exact hy (by omega)
theorem ok_eq{α:Type}{P:α→Prop}{a b:Int}{x y:Option α}(hx:a=b→Ok P x)(hy:a≠b→Ok P y):Ok P (cond (az a b) x y):=by
 rw[aA]
 split
 ·exact hx (by assumption)
 ·exact hy (by assumption)
theorem bI{α:Type}{P:α→Prop}{a b:Int}{x y:Option α}(hx:a≠b→Ok P x)(hy:a=b→Ok P y):Ok P (cond (!az a b) x y):=by
 rw[cond_not];exact ok_eq hy hx
theorem aw{α:Type}{P:α→Prop}{i:Int}{n:Nat}{x y:Option α}(h:0≤i∧i<(n:Int))(hx:Ok P x):Ok P (cond (aJ i n) x y):=by
 rw[aG h.1 h.2];exact hx
theorem aF{α:Type}{P:α→Prop}{n:Nat}{x y:Option α}(h:n<68719476736)(hx:Ok P x):Ok P (cond (small n) x y):=by
 rw[ba h];exact hx
theorem SB{α:Type}{P:α→Prop}{l c:Int}{x y:Option α}(h:0≤l∧l≤c∧c<68719476736)(hx:Ok P x):Ok P (cond (dZ l c) x y):=by
 rw[br h.1 h.2.1 h.2.2];exact hx
theorem DD{α:Type}{P:α→Prop}{l h m n:Int}{x y:Option α}(hh:0≤l∧l≤h∧h≤m∧m≤n)(hx:Ok P x):Ok P (cond (fE l h m n) x y):=by
 rw[b8 hh.1 hh.2.1 hh.2.2.1 hh.2.2.2];exact hx
theorem iA{σ β:Type}{P:β→Prop}{F:Nat→Int→σ→Option β}{len:Nat}(I:Nat→σ→Prop)
  (hs: ∀n i s,i<len→I i s→(∀s',I (i+1) s'→Ok P (F n ((i+1:Nat):Int) s'))→Ok P (F (n+1) (i:Int) s)) (he: ∀n s,I len s→Ok P (F (n+1) (len:Int) s)):
  ∀m n i s,len-i≤m→m<n→i≤len→I i s→Ok P (F n (i:Int) s)
 |m,0,i,s,_,hn,_,_=>by omega
 |m,n+1,i,s,hm,hn,hi,hI=>by
  by_cases h:i<len
  ·exact hs n i s h hI fun s' sF=>iA I hs he (m-1) n (i+1) s' (by omega) (by omega) (by omega) sF
  ·have:i=len:=by omega
   subst this
   exact he n s hI
theorem bh{σ β:Type}{P:β→Prop}{F:Nat→Int→σ→Option β}{len:Nat}(I:Nat→σ→Prop){N:Nat}{s:σ}(h0:I 0 s)(hN:len<N)
  (hs: ∀n i s,i<len→I i s→(∀s',I (i+1) s'→Ok P (F n ((i+1:Nat):Int) s'))→Ok P (F (n+1) (i:Int) s)) (he: ∀n s,I len s→Ok P (F (n+1) (len:Int) s)):Ok P (F N 0 s):=
 iA I hs he len N 0 s (by omega) hN (by omega) h0
theorem iB{β:Type}{P:β→Prop}{F:Nat→Int→Option β}{len N:Nat}(hN:len<N)
  (hs: ∀n i,i<len→Ok P (F n ((i+1:Nat):Int))→Ok P (F (n+1) (i:Int))) (he: ∀n,Ok P (F (n+1) (len:Int))):Ok P (F N 0):=
 bh (σ:=Unit) (F:=fun n i _=>F n i) (fun _ _=>True) (s:=()) trivial hN (fun n i _ h _ hr=>hs n i h (hr () trivial)) fun n _ _=>he n
theorem yr{σ β:Type}{P:β→Prop}{F:Nat→Int→σ→Option β}(I:Nat→σ→Prop)
  (hs: ∀n (k:Nat) s,I (k+1) s→(∀s',I k s'→Ok P (F n (k:Int) s'))→Ok P (F (n+1) ((k+1:Nat):Int) s)) (he: ∀n s,I 0 s→Ok P (F (n+1) 0 s)):
  ∀(k n:Nat) s,k<n→I k s→Ok P (F n (k:Int) s)
 |0,0,s,hn,_=>by omega
 |0,n+1,s,hn,hI=>he n s hI
 |k+1,0,s,hn,_=>by omega
 |k+1,n+1,s,hn,hI=>hs n k s hI fun s' sF=>yr I hs he k n s' (by omega) sF
def G(m:Nat):(τ:Ty)→τ.den→Prop
 | .int .i64,x=>aC x
 | .int .u64,x=>0≤x∧x<18446744073709551616
 | .slice e,l=>List.length l≤m∧ ∀x∈(l:List e.den),G m e x
 | .pair a b,x=>G m a x.1∧G m b x.2
 |_,_=>True
theorem G.mono{m n:Nat}(h:m≤n): ∀{τ:Ty} {x:τ.den},G m τ x→G n τ x
 | .int k,x,hx=>by cases k<;>exact hx
 | .slice e,l,hl=>⟨Nat.le_trans hl.1 h,fun x hx=>G.mono h (hl.2 x hx)⟩
 | .pair a b,x,hx=>⟨G.mono h hx.1,G.mono h hx.2⟩
 | .bool,_,_=>trivial
 | .str,_,_=>trivial
 | .unit,_,_=>trivial
 | .arr _ _,_,_=>trivial
theorem G.nil{m:Nat}{e:Ty}:G m (.slice e) ([]:List e.den):=⟨Nat.zero_le _,fun x hx=>nomatch hx⟩
theorem G.app{m:Nat}{e:Ty}{l:List e.den}{x:e.den}(h:G m (.slice e) l)(hx:G m e x):G (m+1) (.slice e) (l++[x]):=
 ⟨by have:=h.1;rw[List.length_append,List.length_singleton];omega,fun y hy=>by
  rcases List.mem_append.1 hy with hy|hy
  ·exact G.mono (by omega) (h.2 y hy)
  ·rw[List.mem_singleton.1 hy];exact G.mono (by omega) hx⟩
theorem G.get{m:Nat}{e:Ty}{l:List e.den}{d:e.den}(h:G m (.slice e) l)(hd:G m e d)(k:Nat):G m e (l.getD k d):=by
 by_cases hk:k<l.length
 ·rw[List.getD_eq_getElem?_getD,List.getElem?_eq_getElem hk];exact h.2 _ (List.getElem_mem hk)
 ·rw[List.getD_eq_getElem?_getD,List.getElem?_eq_none (by omega)];exact hd
theorem G.zero(m:Nat): ∀τ:Ty,G m τ τ.zero
 | .int k=>by cases k<;>first|trivial|exact⟨by decide,by decide⟩
 | .slice _=>G.nil
 | .pair a b=>⟨G.zero m a,G.zero m b⟩
 | .bool=>trivial
 | .str=>trivial
 | .unit=>trivial
 | .arr _ _=>trivial
theorem G.at{m:Nat}{e:Ty}{l:List e.den}(h:G m (.slice e) l)(k:Nat):G m e (l.getD k e.zero):=h.get (G.zero m e) k
theorem G.set{m:Nat}{e:Ty}{l:List e.den}{x:e.den}(h:G m (.slice e) l)(hx:G m e x)(k:Nat):G m (.slice e) (l.set k x):=
 ⟨by rw[List.length_set];exact h.1,fun y hy=>by
  rcases List.mem_or_eq_of_mem_set hy with hy|rfl
  ·exact h.2 y hy
  ·exact hx⟩
theorem dQ(x:Int):aC (W .i64 x):=by
 rw[gE];unfold aC;split<;>omega
def Bg(k:Nat)(z:av):Prop:= ∃v,z=cg v∧Fit v k
theorem Bg.mono{j k:Nat}{z:av}(h:Bg j z)(hk:j≤k):Bg k z:=by
 obtain⟨v,e,f⟩:=h
 exact⟨v,e,Fit.mono f hk⟩
theorem Bg.zero:Bg 1 (false,(([]:List Int),())):=⟨0,gG.symm,by unfold Fit;decide⟩
theorem aZ(N:Nat)(hN:4000000≤N){x:Int}(h:aC x):Ok (Bg 2) (gl N x):=kS (fH N (by omega) h.1 h.2) ⟨x,rfl,Fit.i64 h.1 h.2⟩
theorem gO(N:Nat)(hN:4000000≤N){k:Nat}(hk:k≤90000){u v:av}(hu:Bg k u)(hv:Bg k v):Ok (Bg (k+1)) (uk N u v):=by
 obtain⟨a,rfl,ha⟩:=hu
 obtain⟨b,rfl,hb⟩:=hv
 exact kS (fT N hN (Fit.mono ha (by omega)) (Fit.mono hb (by omega))) ⟨_,rfl,Fit.add ha hb⟩
theorem u9(N:Nat)(hN:4000000≤N){k:Nat}(hk:k≤90000){u v:av}(hu:Bg k u)(hv:Bg k v):Ok (Bg (k+1)) (Km N u v):=by
 obtain⟨a,rfl,ha⟩:=hu
 obtain⟨b,rfl,hb⟩:=hv
 exact kS (rL N hN (Fit.mono ha (by omega)) (Fit.mono hb (by omega))) ⟨_,rfl,by rw[Int.sub_eq_add_neg];exact Fit.add ha (Fit.neg hb)⟩
theorem oU(N:Nat)(hN:4000000≤N){k:Nat}(hk:k≤90000){u:av}(hu:Bg k u):Ok (Bg k) (Nd N u):=by
 obtain⟨a,rfl,ha⟩:=hu
 exact kS (rK N hN (Fit.mono ha (by omega))) ⟨_,rfl,Fit.neg ha⟩
theorem ri(N:Nat)(hN:4000000≤N){k:Nat}(hk:k≤90000){u:av}(hu:Bg k u):Ok (Bg k) (Ov N u):=by
 obtain⟨a,rfl,ha⟩:=hu
 exact kS (Ou N hN (Fit.mono ha (by omega))) ⟨_,rfl,Fit.of_le ha (by omega)⟩
theorem jH(N:Nat)(hN:4000000≤N){j k:Nat}(hj:j≤90000)(hk:k≤90000){u v:av}(hu:Bg j u)(hv:Bg k v):Ok (Bg (j+k)) (fX N u v):=by
 obtain⟨a,rfl,ha⟩:=hu
 obtain⟨b,rfl,hb⟩:=hv
 exact kS (Fs N hN (Fit.mono ha hj) (Fit.mono hb hk)) ⟨_,rfl,Fit.mul ha hb⟩
theorem yt(N:Nat){k:Nat}{u:av}(hu:Bg k u):Ok (fun _=>True) (Ko N u):=by
 obtain⟨a,rfl,ha⟩:=hu
 exact kS (ph N a) trivial
theorem om(N:Nat)(hN:4000000≤N){j k:Nat}(hj:j≤90000)(hk:k≤90000){u v:av}(hu:Bg j u)(hv:Bg k v):Ok (fun _=>True) (H5 N u v):=by
 obtain⟨a,rfl,ha⟩:=hu
 obtain⟨b,rfl,hb⟩:=hv
 exact kS (ID N hN (Fit.mono ha (by omega)) (Fit.mono hb (by omega))) trivial
theorem Jc(v:Int):aC (ur v).1:=by
 by_cases h:aC v
 ·rw[rP h];exact h
 ·rw[uK h];unfold aC;decide
theorem tq(N:Nat){k:Nat}{u:av}(hu:Bg k u):Ok (fun r=>aC r.1) (qQ N u):=by
 obtain⟨a,rfl,ha⟩:=hu
 exact kS (oh N a) (Jc a)
end VM
end
section
namespace VM
open Go VM.F
abbrev L3(m:Nat)(l:aj):Prop:=G m (.slice fU) l
def fY(m:Nat)(p:bk):Prop:=p.length≤m∧ ∀y∈p,Bg 8 y.2.2.1
theorem fY.at{m:Nat}{p:bk}(h:fY m p)(i:Nat):Bg 8 (p.getD i ((0:Int),((0:Int),((false,ld),())))).2.2.1:=by
 by_cases hk:i<p.length
 ·rw[List.getD_eq_getElem?_getD,List.getElem?_eq_getElem hk];exact h.2 _ (List.getElem_mem hk)
 ·rw[List.getD_eq_getElem?_getD,List.getElem?_eq_none (by omega)];exact Bg.mono Bg.zero (by decide)
theorem fY.nil{m:Nat}:fY m []:=⟨Nat.zero_le _,fun x hx=>nomatch hx⟩
theorem fY.app{m n:Nat}{p q:bk}(h:fY m p)(h':fY n q):fY (m+n) (p++q):=
 ⟨by have:=h.1;have:=h'.1;rw[List.length_append];omega,fun y hy=>(List.mem_append.1 hy).elim (h.2 y) (h'.2 y)⟩
theorem fY.mono{m n:Nat}{p:bk}(h:fY m p)(hm:m≤n):fY n p:=⟨Nat.le_trans h.1 hm,h.2⟩
theorem w9(N:Nat){k:Nat}{u:av}(hu:Bg k u):Ok (fun r=>aC r.1) (IV N u):=by
 unfold IV
 refine af (tq N hu) fun r h=>bA (fun _=>ag (by unfold aC;decide)) fun _=>ok_eq (fun _=>ag (by unfold aC;decide)) fun _=>ag h
theorem fN{x:Int}(h0: -1000000≤x)(h1:x≤1000000):aC x:=by unfold aC;omega
theorem G3{m:Nat}{a b c:Int}(ha:aC a)(hb:aC b)(hc:aC c):G m fU (a,(b,(c,()))):=⟨ha,hb,hc,trivial⟩
theorem aU:aC 0:=by unfold aC;decide
theorem Mo(N:Nat)(hN:4000000≤N){x k n:Int}{p:bk}(hx:aC x)(hp:fY 50000 p):Ok (fun r=>aC r.1) (jA N x k n p):=by
 have hl:=hp.1
 refine bh (len:=p.length) (F:=fun n' i (s:av×Bool)=>jA.l3 N n' x k n p s.1 s.2 i) (s:=(_,_)) (fun i s=>Bg (8+i) s.1) (Bg.mono Bg.zero (by omega)) (by omega) (fun n' i s hi hI hr=> ?_) (fun n' s hI=> ?_)
 all_goals unfold jA.l3 jA.g7
 ·rw[al (x:=(i:Int)+1) (by omega) (by omega),aa i]
  have h1:=hr (s.1,s.2) (Bg.mono hI (by omega))
  repeat' first|exact h1|refine aw ⟨by omega,by omega⟩ ?_|refine au (fun _=> ?_) (fun _=> ?_)|refine ok_eq (fun _=> ?_) (fun _=> ?_)|(exfalso;omega)|exact af (gO N hN (by omega) hI (Bg.mono (hp.at _) (by omega))) fun r h=>hr (r,true) h
 ·refine au (fun _=>by omega) fun _=>bA (fun _=>ag hx) fun _=>af (aZ N hN hx) fun r h=>af (gO N hN (by omega) hI (Bg.mono h (by omega))) fun r h=>af (tq N h) fun r h=>ag h
theorem SC(N:Nat)(hN:4000000≤N){l:aj}{p:bk}{m:Nat}(hm:m≤50000)(hl:L3 m l)(hp:fY 50000 p):Ok (fun r=>L3 200 r.1) (cq N l p):=by
 have CO:=hl.1
 refine iA (len:=8) (F:=fun n k (s:aj×Int)=>cq.l4 N n l p s.1 s.2 k) (fun i s=>L3 (25*i) s.1∧0≤s.2) (fun n i s hi hI hr=> ?_) (fun n s hI=> ?_) 8 N 1 (_,_) (by omega) (by omega) (by omega) ⟨G.nil,Int.le_refl 0⟩
 all_goals unfold cq.l4 cq.cn
 ·refine de (fun _=> ?_) (fun _=>by omega)
  refine bh (len:=25) (F:=fun n' j (s:aj×Int)=>cq.l7 N (cq.l4 N n) n' l p s.1 s.2 (i:Int) j) (s:=s) (fun j s=>L3 (25*i+j) s.1∧0≤s.2) hI (by omega) (fun n' j s hj hI dx=> ?_) (fun n' s hI=> ?_)
  all_goals unfold cq.l7 cq.ll
  ·have jZ: ∀(k x:Int),0≤k→aC x→Ok (fun r=>L3 200 r.1) (cq.Da N (cq.l4 N n) (cq.l7 N (cq.l4 N n) n') l p s.1 k (i:Int) (j:Int) x):=fun k x hk hx=>by
    unfold cq.Da cq.uv
    rw[al (x:=(j:Int)+1) (by omega) (by omega),aa j]
    have hs:=hI.1.1
    refine af (Mo N hN hx hp) fun r h=>bA (fun _=>ag G.nil) fun _=>bI (fun _=>aF (by rw[List.length_singleton];omega) (dx (_,k) ⟨G.app hI.1 (G3 (fN (by omega) (by omega)) (fN (by omega) (by omega)) h),hk⟩)) fun _=>dx (s.1,k) ⟨G.mono (by omega) hI.1,hk⟩
   have h0:=jZ s.2 0 hI.2 aU
   have XT:=hI.2
   repeat' first|exact h0|refine aw ⟨by omega,by omega⟩ ?_|refine au (fun _=> ?_) (fun _=> ?_)|refine de (fun _=> ?_) (fun _=> ?_)|refine ok_eq (fun _=> ?_) (fun _=> ?_)|(exfalso;omega)|exact jZ _ _ (by rw[al (x:=s.2+1) (by omega) (by omega)];omega) (G.at hl _).2.2.1
  ·rw[al (x:=(i:Int)+1) (by omega) (by omega),aa i]
   exact de (fun _=>by omega) fun _=>hr s ⟨G.mono (by omega) hI.1,hI.2⟩
 ·exact de (fun _=>by omega) fun _=>ag (G.mono (by decide) hI.1)
theorem Jd(N:Nat)(hN:4000000≤N){l t:aj}{m:Nat}(hm:m≤50000)(hl:L3 m l)(ht:L3 50000 t):Ok (fun r=>L3 200 r.1) (bx N l t):=by
 have CO:=hl.1
 have htl:=ht.1
 refine bh (len:=25) (F:=fun n k (s:aj×Int)=>bx.l4 N n l t s.1 s.2 k) (s:=(_,_)) (fun i s=>L3 (6*i) s.1∧0≤s.2) ⟨G.nil,Int.le_refl 0⟩ (by omega) (fun n i s hi hI hr=> ?_) (fun n s hI=> ?_)
 all_goals unfold bx.l4 bx.cn
 ·refine de (fun _=> ?_) (fun _=>by omega)
  refine bh (len:=6) (F:=fun n' j (s:aj×Int)=>bx.l7 N (bx.l4 N n) n' l t s.1 s.2 (i:Int) j) (s:=s) (fun j s=>L3 (6*i+j) s.1∧0≤s.2) hI (by omega) (fun n' j s hj hI dx=> ?_) (fun n' s hI=> ?_)
  all_goals unfold bx.l7 bx.ll
  ·have jZ: ∀(k x:Int),0≤k→aC x→Ok (fun r=>L3 200 r.1) (bx.Da N (bx.l4 N n) (bx.l7 N (bx.l4 N n) n') l t s.1 k (i:Int) (j:Int) x false):=fun k x hk hx=>by
    unfold bx.Da bx.uv
    have hs:=hI.1.1
    have tQ: ∀y:Int,aC y→Ok (fun r=>L3 200 r.1) (cond (!az y 0) (cond (small (s.1.length+[(((i:Int),((j:Int),(y,()))):cy)].length)) (bx.l7 N (bx.l4 N n) n' l t (s.1++[((i:Int),((j:Int),(y,())))]) k (i:Int) (W .i64 ((j:Int)+1))) none) (bx.l7 N (bx.l4 N n) n' l t s.1 k (i:Int) (W .i64 ((j:Int)+1)))):=fun y hy=>by
     rw[al (x:=(j:Int)+1) (by omega) (by omega),aa j]
     exact bI (fun _=>aF (by rw[List.length_singleton];omega) (dx (_,k) ⟨G.app hI.1 (G3 (fN (by omega) (by omega)) (fN (by omega) (by omega)) hy),hk⟩)) fun _=>dx (s.1,k) ⟨G.mono (by omega) hI.1,hk⟩
    refine bh (len:=t.length) (F:=fun Cj u (z:av×Bool)=>bx.D9 N (bx.l4 N n) (bx.l7 N (bx.l4 N n) n') Cj l t s.1 k (i:Int) (j:Int) x z.2 z.1 u) (s:=(_,_)) (fun u z=>Bg (3+u) z.1) (Bg.mono Bg.zero (by omega)) (by omega) (fun Cj u z hu hz Pl=> ?_) (fun Cj z hz=> ?_)
    all_goals unfold bx.D9 bx.Dp
    ·rw[al (x:=(u:Int)+1) (by omega) (by omega),aa u]
     have h1:=Pl (z.1,z.2) (Bg.mono hz (by omega))
     repeat' first|exact h1|refine aw ⟨by omega,by omega⟩ ?_|refine au (fun _=> ?_) (fun _=> ?_)|refine ok_eq (fun _=> ?_) (fun _=> ?_)|(exfalso;omega)|exact af (aZ N hN (G.at ht _).2.2.1) fun r h=>af (gO N hN (by omega) hz (Bg.mono h (by omega))) fun r h=>Pl (r,true) h
    ·exact au (fun _=>by omega) fun _=>pM (fun _=>af (aZ N hN hx) fun r h=>af (gO N hN (by omega) hz (Bg.mono h (by omega))) fun r h=>af (w9 N h) fun r h=>bA (fun _=>ag G.nil) fun _=>tQ _ h) fun _=>tQ _ hx
   have h0:=jZ s.2 0 hI.2 aU
   have XT:=hI.2
   repeat' first|exact h0|refine aw ⟨by omega,by omega⟩ ?_|refine au (fun _=> ?_) (fun _=> ?_)|refine de (fun _=> ?_) (fun _=> ?_)|refine ok_eq (fun _=> ?_) (fun _=> ?_)|(exfalso;omega)|exact jZ _ _ (by rw[al (x:=s.2+1) (by omega) (by omega)];omega) (G.at hl _).2.2.1
  ·rw[al (x:=(i:Int)+1) (by omega) (by omega),aa i]
   exact au (fun _=>by omega) fun _=>hr s ⟨G.mono (by omega) hI.1,hI.2⟩
 ·exact de (fun _=>by omega) fun _=>ag (G.mono (by decide) hI.1)
theorem G.ff{m:Nat}:G m aB (bK,(cL,(bp,(bp,(c4,(c9,())))))):=G.zero m aB
theorem n8(N:Nat)(hN:4000000≤N){b:ah}{s:aj}{p:bk}{m:Nat}(h2:200≤m)(hm:m≤50000)(hb:G m aB b)(hs:L3 50000 s)(hp:fY 50000 p):Ok (fun r=>G m aB r.1) (uR N b s p):=by
 unfold uR
 exact af (Jd N hN hm hb.2.2.2.1 hs) fun r h=>bA (fun _=>ag G.ff) fun _=>af (SC N hN hm hb.2.2.1 hp) fun r' h'=>bA (fun _=>ag G.ff) fun _=>ag ⟨hb.1,hb.2.1,G.mono h2 h',G.mono h2 h,hb.2.2.2.2⟩
end VM
end
section
namespace VM
open Go VM.F
theorem cm{α β:Type}{P:β→Prop}{o:Option α}{r:α}{f:α→Option β}(h:o=some r)(hf:Ok P (f r)):Ok P (o.bind f):=by rw[h];exact hf
theorem G.wf{m:Nat}(hm:m≤50000){b:ah}(h:G m aB b):uS b:=by
 obtain⟨h1,h2,h3,h4,h5,h6,_⟩:=h
 exact⟨⟨Nat.le_trans h1.1 (by omega),Nat.le_trans h2.1 (by omega),Nat.le_trans h3.1 (by omega),Nat.le_trans h4.1 (by omega),Nat.le_trans h5.1 (by omega),Nat.le_trans h6.1 (by omega),fun x hx=>(h3.2 x hx).2.2.1,fun x hx=>(h4.2 x hx).2.2.1⟩,Nat.le_trans h3.1 (by omega),Nat.le_trans h4.1 (by omega)⟩
theorem dI(N:Nat)(hN:5000000≤N){c:ae}{b:ah}{m:Nat}(hm:m≤50000)(h:G m aB b):bD N c b=some (db c b):=zr N hN (G.wf hm h).w
theorem SD{x:Int}(h:kB x):aC x:=by unfold kB at h;unfold aC;omega
theorem Bd(N:Nat)(hN:4000000≤N)(t:uT)(p:Int):Ok (fun r=>fY 2 r.1) (SE N t p):=by
 unfold SE
 refine cm (B1 N t) (bA (fun _=>ag fY.nil) fun ht=>cm (iT N p) (bA (fun _=>ag fY.nil) fun _=>af (aZ N hN (dQ _)) fun a ha=>af (aZ N hN ?_) fun q hq=>af (jH N hN (by omega) (by omega) ha hq) fun x hx=>af (yt N hx) fun _ _=>ok_eq (fun _=>ag fY.nil) fun _=> ?_))
 ·have:=of_decide_eq_true ht
  unfold rU jB at this
  exact Int.le_trans (by decide) this.2.2.2.2.1.1 |> fun h=>⟨h,Int.lt_of_le_of_lt this.2.2.2.2.1.2 (by decide)⟩
 ·unfold Je
  have hr: ∀a:Int,Ok (fun _=>True) (cond (az a 0) (some ((2:Int),(0:Int))) (some ((5:Int),a))):=fun a=>ok_eq (fun _=>ag trivial) fun _=>ag trivial
  refine af (hr _) fun _ _=>af (hr _) fun _ _=>af (oU N hN (by omega) hx) fun y hy=>ag ⟨Nat.le_refl 2,fun z hz=> ?_⟩
  rcases List.mem_cons.1 hz with rfl|hz
  ·exact Bg.mono hx (by omega)
  ·rw[List.mem_singleton.1 hz];exact Bg.mono hy (by omega)
theorem F7(N:Nat)(hN:200000≤N){b:ah}{m:Nat}(hm:m≤50000)(h:G m aB b)(id:Int):Ok (fun _=>True) (Di N b id):=kS (uF N b (G.wf hm h).w.a hN id) trivial
theorem Ck(N:Nat)(hN:5000000≤N)(c:ae){b:ah}{l:bc}{m:Nat}(h2:200≤m)(hm:m≤50000)(hb:G m aB b):Ok (fun r=>G m aB r.1) (fx N c b l):=by
 unfold fx fx.b
 refine cm (dI N hN hm hb) (bA (fun _=>ag G.ff) fun hB=>au (fun _=>ag G.ff) fun hl=> ?_)
 obtain⟨hp,_⟩:=il hB
 refine bh (len:=l.length) (F:=fun n i (_:Unit)=>fx.l4 N n l c b (bK,(cL,(bp,(bp,(c4,(c9,())))))) i) (s:=()) (fun i _=> ∀j,j<i→rU (l.getD j jY)) (fun j hj=>by omega) (by omega) (fun n i _ hi hI hr=> ?_) (fun n _ hI=> ?_)
 all_goals unfold fx.l4 fx.cn
 ·rw[al (x:=(i:Int)+1) (by omega) (by omega),aa i]
  refine au (fun _=>aw ⟨by omega,by omega⟩ (cm (B1 N _) (bA (fun _=>ag G.ff) fun ht=>hr () fun j hj=> ?_))) fun _=>by omega
  by_cases e:j=i
  ·rw[e];exact of_decide_eq_true ht
  ·exact hI j (by omega)
 ·refine au (fun _=>by omega) fun _=> ?_
  refine bh (len:=l.length) (F:=fun n i (s:aj×bk)=>fx.tt N n l c b (bK,(cL,(bp,(bp,(c4,(c9,())))))) s.1 s.2 i) (s:=(_,_)) (fun i s=>L3 (2*i) s.1∧fY (2*i) s.2) ⟨G.nil,fY.nil⟩ (by omega) (fun n i s hi hJ hr=> ?_) (fun n s hJ=> ?_)
  all_goals unfold fx.tt fx.qj
  ·have ht:=hI i hi
   unfold rU jB at ht
   have HR:=hJ.1.1
   have XT:=hJ.2.1
   have g64: ∀x:Int,0≤x∧x≤1000000→aC x:=fun x h=>fN (by omega) (by omega)
   dsimp only
   rw[al (x:=(i:Int)+1) (by omega) (by omega),aa i,Int.toNat_natCast]
   refine au (fun _=>aw ⟨by omega,by omega⟩ (af (F7 N (by omega) hm hb _) fun _ _=>bA (fun _=>ag G.ff) fun _=>af (F7 N (by omega) hm hb _) fun _ _=>bA (fun _=>ag G.ff) fun _=>de (fun _=>ag G.ff) fun dF=>aF ?_ (aw ⟨ht.2.2.2.1.1,by omega⟩ (af (Bd N (by omega) _ _) fun r h=>aF ?_ (hr (_,_) ⟨?_,fY.mono (fY.app hJ.2 h) (by omega)⟩))))) fun _=>by omega
   ·rw[List.length_cons,List.length_singleton];omega
   ·have:=h.1;omega
   ·have hq:aC (l.getD i jY).2.2.2.1:=⟨Int.le_trans (by decide) ht.2.2.2.2.1.1,Int.lt_of_le_of_lt ht.2.2.2.2.1.2 (by decide)⟩
    have iF:aC (l.getD i jY).2.2.1:=g64 _ ⟨ht.2.2.2.1.1,Int.le_trans (Int.le_of_lt ht.2.2.2.1.2) (by decide)⟩
    have h1:=G.app (G.app hJ.1 (G3 (g64 _ ⟨ht.1.1,Int.le_trans ht.1.2 (by decide)⟩) iF hq)) (G3 (g64 _ ⟨ht.2.1.1,Int.le_trans ht.2.1.2 (by decide)⟩) iF (dQ (0-(l.getD i jY).2.2.2.1)))
    rw[List.append_assoc]at h1
    exact G.mono (by omega) h1
  ·exact au (fun _=>by omega) fun _=>af (n8 N (by omega) h2 hm hb (G.mono (by omega) hJ.1) (fY.mono hJ.2 (by omega))) fun r h=>ag h
end VM
end
section
namespace VM
open Go VM.F
def Be(k:Nat)(l:kT):Prop:= ∀x∈l,Bg k x
theorem Be.mono{j k:Nat}{l:kT}(h:Be j l)(hk:j≤k):Be k l:=fun x hx=>Bg.mono (h x hx) hk
theorem Be.at{k:Nat}{l:kT}(h:Be k l)(h1:1≤k)(i:Nat):Bg k (l.getD i (false,ld)):=by
 by_cases hk:i<l.length
 ·rw[List.getD_eq_getElem?_getD,List.getElem?_eq_getElem hk];exact h _ (List.getElem_mem hk)
 ·rw[List.getD_eq_getElem?_getD,List.getElem?_eq_none (by omega)];exact Bg.mono Bg.zero h1
theorem Be.set{k:Nat}{l:kT}{x:av}(h:Be k l)(hx:Bg k x)(i:Nat):Be k (l.set i x):=fun y hy=>by
 rcases List.mem_or_eq_of_mem_set hy with hy|rfl
 ·exact h y hy
 ·exact hx
theorem Be.rep{k n:Nat}(h:1≤k):Be k (List.replicate n (false,ld)):=fun x hx=>by
 rw[(List.mem_replicate.1 hx).2];exact Bg.mono Bg.zero h
theorem SF(N:Nat)(hN:5000000≤N)(c:ae){b:ah}{m:Nat}(hm:m≤50000)(hb:G m aB b):Ok (fun r=>(r.2=0→db c b=true∧r.1.length=4)∧Be 20 r.1) (m4 N c b):=by
 unfold m4 m4.b
 have w:=(G.wf hm hb).w
 refine cm (dI N hN hm hb) (bA (fun _=>ag ⟨fun h=>absurd h (by decide),fun x hx=>nomatch hx⟩) fun hB=>SB ⟨by omega,by omega,by omega⟩ ?_)
 obtain⟨hp,XW⟩:=il hB
 obtain⟨h6,hbk⟩:=w1 (pH hB)
 refine bh (len:=c.1.length) (F:=fun n i (s:kT)=>m4.l5 N n c b s i) (fun i s=>s.length=4∧Be (8+i) s) ⟨List.length_replicate ..,Be.rep (by omega)⟩ (by omega) (fun n i s hi hI hr=> ?_) (fun n s hI=> ?_)
 all_goals unfold m4.l5 m4.dq
 ·have hk:=hbk i hi
  have hl:=hI.1
  rw[al (x:=(i:Int)+1) (by omega) (by omega),aa i,Int.toNat_natCast]
  have in1: ∀{x y:Option (kT×Int)},Ok (fun r=>(r.2=0→db c b=true∧r.1.length=4)∧Be 20 r.1) x→Ok (fun r=>(r.2=0→db c b=true∧r.1.length=4)∧Be 20 r.1) (cond (aJ (c.1.getD i aN).1 s.length) x y):=fun h=>aw ⟨hk.1,Int.lt_of_le_of_lt hk.2 (show(3:Int)<(s.length:Int)by omega)⟩ h
  exact au (fun _=>aw ⟨by omega,by omega⟩ (in1 (cm (Du N w.s (by omega) 0 (i:Int)) (af (aZ N (by omega) (O8 w.qs 0 (i:Int))) fun a ha=>aw ⟨by omega,by omega⟩ (af (aZ N (by omega) (SD (FP XW (by omega)))) fun p hp=>af (jH N (by omega) (by omega) (by omega) ha hp) fun x hx=>af (gO N (by omega) (by omega) (Be.at hI.2 (by omega) _) (Bg.mono hx (by omega))) fun y hy=>in1 (hr _ ⟨by rw[List.length_set];exact hl,Be.set (Be.mono hI.2 (by omega)) hy _⟩)))))) fun _=>by omega
 ·exact au (fun _=>by omega) fun _=>ag ⟨fun _=>⟨hB,hI.1⟩,Be.mono hI.2 (by omega)⟩
theorem Mp(N:Nat)(hN:5000000≤N)(c:ae)(hc:aC (akJ c)){b:ah}{m:Nat}(hm:m≤50000)(hb:G m aB b)(next:Int):Ok (fun r=>G 4 (.slice df) r.1) (pN N c b next):=by
 unfold pN pN.b
 refine af (SF N hN c hm hb) fun z hz=>bI (fun _=>ag G.nil) fun h0=>au (fun _=>ag G.nil) fun h1=>au (fun _=>ag G.nil) fun h2=> ?_
 obtain⟨hB,hl4⟩:=hz.1 h0
 obtain⟨hp,XW⟩:=il hB
 obtain⟨h6,hbk⟩:=w1 (pH hB)
 refine bh (len:=4) (F:=fun n k (s:Int×aE)=>pN.l6 N n s.1 c b z.1 s.2 k) (s:=(_,_)) (fun k s=>G k (.slice df) s.2∧next≤s.1∧s.1≤next+k) ⟨G.nil,by omega,by omega⟩ (by omega) (fun n k s hk hI hr=> ?_) (fun n s hI=> ?_)
 all_goals unfold pN.l6 pN.ow
 ·have HR:=hI.1.1
  have XT:=hI.2
  rw[al (x:=(k:Int)+1) (by omega) (by omega),aa k]
  have nX:=hr s ⟨G.mono (by omega) hI.1,by omega,by omega⟩
  refine au (fun _=>cm (I5 N (by omega) c (by omega) (k:Int)) (aw ⟨by omega,by omega⟩ (af (ri N (by omega) (by omega) (Be.at hz.2 (by omega) _)) fun u hu=>ok_eq (fun _=>nX) fun g9=>af (aZ N (by omega) hc) fun v hv=>af (om N (by omega) (by omega) (by omega) hu hv) fun _ _=>de (fun _=>nX) fun _=> ?_))) fun _=>by omega
  have afi:fb c (k:Int)≠[]:=fun e=>g9 (by rw[e];rfl)
  have hh:0≤(fb c (k:Int)).getD 0 0∧(fb c (k:Int)).getD 0 0<(c.1.length:Int):=by
   have h1:=afi
   unfold fb at h1 ⊢
   rw[pH hB,if_pos rfl]at h1 ⊢
   have:=w8 h1
   omega
  have hl0:0<(fb c (k:Int)).length:=List.length_pos_iff.2 afi
  have hpx:=FP XW (i:=((fb c (k:Int)).getD 0 0).toNat) (by omega)
  have hj: ∀q:Int,aC q→Ok (fun r=>G 4 (.slice df) r.1) (pN.Bf N (pN.l6 N n) s.1 c b z.1 s.2 (k:Int) (fb c (k:Int)) q):=fun q hq=>by
   unfold pN.Bf pN.tu
   rw[al (x:=(k:Int)+1) (by omega) (by omega),aa k,al (x:=s.1+1) (by omega) (by omega)]
   have tQ: ∀d:Int,aC d→Ok (fun r=>G 4 (.slice df) r.1) (cond (small (s.2.length+[((s.1,((fb c (k:Int)).getD 0 0,(d,(q,())))):bR)].length)) (pN.l6 N n (s.1+1) c b z.1 (s.2++[(s.1,((fb c (k:Int)).getD 0 0,(d,(q,()))))]) ((k+1:Nat):Int)) none):=fun d hd=>
    aF (by rw[List.length_singleton];omega) (hr (_,_) ⟨G.app hI.1 ⟨by show aC s.1;unfold aC;omega,(show aC ((fb c (k:Int)).getD 0 0)from fN (by omega) (by omega)),hd,hq,trivial⟩,by dsimp only;omega,by dsimp only;omega⟩)
   exact ok_eq (fun _=>nX) fun _=>aw ⟨by omega,by omega⟩ (aw ⟨by omega,by omega⟩ (af (yt N (Be.at hz.2 (by omega) _)) fun _ _=>au (fun _=>tQ 2 (fN (by omega) (by omega))) fun _=>tQ 1 (fN (by omega) (by omega))))
  have hb9:aC 1000000000:=by unfold aC;decide
  refine aw ⟨by omega,by omega⟩ (aw ⟨hh.1,by show(fb c (k:Int)).getD 0 0<_;omega⟩ ?_)
  obtain⟨a,rfl,ha⟩:=hu
  have akL:=hpx
  unfold kB at akL
  rw[show(0:Int).toNat=0 from rfl]
  refine cm (fH N (by omega) (by omega) (by omega)) (cm (Kq N hN (by omega) (Fit.mono ha (by omega)) ((Fit.i64 (by omega) (by omega)).mono (by omega))) (cm (oh N _) (bA (fun _=>hj _ hb9) fun _=>au (fun _=>hj _ hb9) fun _=>hj _ (Jc _))))
 ·exact au (fun _=>by omega) fun _=>ag hI.1
end VM
end
section
namespace VM
open Go VM.F
theorem zV(N:Nat)(hN:200000≤N){l:a6}(hl:l.length≤100000)(a:Int):Ok (fun r=>L3 6 r) (eI N l a):=by
 unfold eI eI.b
 refine bh (len:=6) (F:=fun n k (s:aj)=>eI.l3 N n l a s k) (fun k s=>L3 k s) G.nil (by omega) (fun n k s hk hI hr=> ?_) (fun n s hI=> ?_)
 all_goals unfold eI.l3 eI.g7
 ·have hs:=hI.1
  refine au (fun _=> ?_) fun _=>by omega
  refine bh (len:=l.length) (F:=fun n' i (x:cy)=>eI.l7 N (eI.l3 N n) n' l a s (k:Int) x i) (fun i x=>G 6 fU x) (G3 (fN (by omega) (by omega)) aU aU) (by omega) (fun n' i x hi hx dx=> ?_) (fun n' x hx=> ?_)
  all_goals unfold eI.l7 eI.ll
  ·rw[al (x:=(i:Int)+1) (by omega) (by omega),aa i]
   have h1:=dx x hx
   repeat' first|exact h1|refine aw ⟨by omega,by omega⟩ ?_|refine au (fun _=> ?_) (fun _=> ?_)|refine bI (fun _=> ?_) (fun _=> ?_)|refine ok_eq (fun _=> ?_) (fun _=> ?_)|(exfalso;omega)|exact dx (_,(_,(_,_))) ⟨hx.1,dQ _,hx.2.2.1,trivial⟩|exact dx (_,(_,(_,_))) ⟨hx.1,hx.2.1,dQ _,trivial⟩
  ·rw[al (x:=(k:Int)+1) (by omega) (by omega),aa k]
   have h1:=hr s (G.mono (by omega) hI)
   have h2:=hr (s++[x]) ⟨by rw[List.length_append,List.length_singleton];omega,fun y hy=>by
    rcases List.mem_append.1 hy with hy|hy
    ·exact G.mono (by omega) (hI.2 y hy)
    ·rw[List.mem_singleton.1 hy];exact⟨hx.1,hx.2.1,hx.2.2.1,trivial⟩⟩
   repeat' first|exact h1|exact h2|refine aF (by rw[List.length_singleton];omega) ?_|refine au (fun _=> ?_) (fun _=> ?_)|(exfalso;omega)
 ·exact au (fun _=>by omega) fun _=>ag hI
theorem Cl(N:Nat)(hN:200000≤N)(c:ae){l:aj}(hl:l.length≤100000):Ok (fun _=>True) (lV N c l):=by
 unfold lV lV.b
 refine cm (mS N (by omega) c) (bA (fun _=>ag trivial) fun _=>iB (len:=l.length) (F:=fun n i=>lV.l5 N n l c 33000000000 i) (by omega) (fun n i hi hr=> ?_) fun n=> ?_)
 all_goals unfold lV.l5 lV.dq
 ·rw[al (x:=(i:Int)+1) (by omega) (by omega),aa i]
  dsimp only
  repeat' first|exact hr|exact ag trivial|refine aw ⟨by omega,by omega⟩ ?_|refine aw (by rw[al (x:=(i:Int)-1) (by omega) (by omega)];omega) ?_|refine au (fun _=> ?_) (fun _=> ?_)|refine de (fun _=> ?_) (fun _=> ?_)|refine ok_eq (fun _=> ?_) (fun _=> ?_)|(exfalso;omega)
 ·exact au (fun _=>by omega) fun _=>ag trivial
theorem DE{k:Nat}(h:1≤k):Bg k (false,(([]:List Int),())):=Bg.mono Bg.zero h
theorem Pm(N:Nat)(hN:4000000≤N)(c:ae){l:ax}{o:aj}{m:Nat}(hm:m≤50000)(hl:G m (.slice gP) l)(ho:L3 m o)(k:Int):Ok (fun r=>Bg 3 r.1) (fy N c l o k):=by
 have h1:=hl.1
 have h2:=ho.1
 unfold fy fy.b
 refine cm (uG N (by omega) c (by omega)) (bA (fun _=>ag (DE (by omega))) fun _=>af (Cl N (by omega) c (by omega)) fun _ _=>bA (fun _=>ag (DE (by omega))) fun _=>au (fun _=>ag (DE (by omega))) fun _=>de (fun _=>ag (DE (by omega))) fun _=> ?_)
 refine bh (len:=l.length) (F:=fun n i (q:av)=>fy.l7 N n l o k (false,(([]:List Int),())) q (false,(([]:List Int),())) (false,(([]:List Int),())) i) (fun _ q=>Bg 2 q) (DE (by omega)) (by omega) (fun n i q hi hq hr=> ?_) (fun n q hq=> ?_)
 all_goals unfold fy.l7 fy.ll
 ·rw[al (x:=(i:Int)+1) (by omega) (by omega),aa i]
  exact au (fun _=>aw ⟨by omega,by omega⟩ (ok_eq (fun _=>aw ⟨by omega,by omega⟩ (af (aZ N hN (G.at hl _).2.1) fun r h=>hr r h)) fun _=>hr q hq)) fun _=>by omega
 ·refine au (fun _=>by omega) fun _=> ?_
  refine bh (len:=o.length) (F:=fun n i (z:av×av)=>fy.nA N n o k (false,(([]:List Int),())) q z.1 z.2 i) (s:=(_,_)) (fun _ z=>Bg 2 z.1∧Bg 2 z.2) ⟨DE (by omega),DE (by omega)⟩ (by omega) (fun n i z hi hz hr=> ?_) (fun n z hz=> ?_)
  all_goals unfold fy.nA fy.lR
  ·rw[al (x:=(i:Int)+1) (by omega) (by omega),aa i]
   exact au (fun _=>aw ⟨by omega,by omega⟩ (ok_eq (fun _=>aw ⟨by omega,by omega⟩ (af (aZ N hN (G.at ho _).2.1) fun r h=>aw ⟨by omega,by omega⟩ (af (aZ N hN (G.at ho _).2.2.1) fun r' h'=>hr (r,r') ⟨h,h'⟩))) fun _=>hr z hz)) fun _=>by omega
  ·exact au (fun _=>by omega) fun _=>af (gO N hN (by omega) hq hz.1) fun x hx=>af (ri N hN (by omega) hx) fun x hx=>af (u9 N hN (by omega) hq hz.2) fun y hy=>af (ri N hN (by omega) hy) fun y hy=>af (om N hN (by omega) (by omega) hy hx) fun _ _=>au (fun _=>ag hy) fun _=>ag hx
theorem F8(N:Nat)(hN:4000000≤N){c:ae}{l:ax}{o:aj}{m:Nat}(hm:m≤50000)(hc:G m aq c)(hl:G m (.slice gP) l)(ho:L3 m o):Ok (fun r=>Bg 60000 r.1) (lW N c l o):=by
 have h1:=hl.1
 have h2:=ho.1
 have h3:=hc.1.1
 unfold lW lW.b
 refine cm (uG N (by omega) c (by omega)) (bA (fun _=>ag (DE (by omega))) fun _=>af (Cl N (by omega) c (by omega)) fun _ _=>bA (fun _=>ag (DE (by omega))) fun _=> ?_)
 refine bh (len:=c.1.length) (F:=fun n i (t:av)=>lW.l5 N n l o c (false,(([]:List Int),())) t i) (fun i t=>Bg (8+i) t) (DE (by omega)) (by omega) (fun n i t hi ht hr=> ?_) (fun n t ht=> ?_)
 all_goals unfold lW.l5 lW.dq
 ·rw[al (x:=(i:Int)+1) (by omega) (by omega),aa i]
  exact au (fun _=>af (Pm N hN c hm hl ho _) fun x hx=>aw ⟨by omega,by omega⟩ (af (aZ N hN (G.at hc.1 _).2.2.1) fun r h=>af (jH N hN (by omega) (by omega) hx h) fun y hy=>af (gO N hN (by omega) ht (Bg.mono hy (by omega))) fun z hz=>hr z hz)) fun _=>by omega
 ·exact au (fun _=>by omega) fun _=>ag (Bg.mono ht (by omega))
theorem afj{m:Nat}{l:aj}(h:L3 m l)(a:Int):G m (.slice gP) (posOf l a):=by
 refine⟨Nat.le_trans (Mi a l) h.1,fun y hy=> ?_⟩
 unfold posOf at hy
 split at hy
 ·obtain⟨x,hx,_,e⟩:=pG hy
  rw[e];exact⟨(h.2 x hx).2.1,(h.2 x hx).2.2.1,trivial⟩
 ·nomatch hy
theorem F9(N:Nat)(hN:200000≤N){l:aj}{m:Nat}(hm:m≤50000)(h:L3 m l)(a:Int):Ok (G m (.slice gP)) (sL N l a):=kS (O6 N (Nat.le_trans h.1 (by omega)) hN a) (afj h a)
theorem Ga(N:Nat)(hN:4000000≤N){c:ae}{b:ah}{l:a6}{m:Nat}(h2:200≤m)(hm:m≤40000)(hc:G m aq c)(hb:G m aB b)(hl:l.length≤1000)(a:Int):Ok (Bg 60000) (Pn N c b a l):=by
 have ho:=hb.2.2.2.2.2.1.1
 unfold Pn
 refine aF (by rw[List.length_nil];omega) ?_
 dsimp only
 rw[List.nil_append]
 exact aF (by omega) (af (F9 N (by omega) (by omega) hb.2.2.2.1 a) fun r h=>af (zV N (by omega) (by rw[List.length_append];omega) a) fun o h'=>af (F8 N hN (by omega) hc h (G.mono (by omega) h')) fun x hx=>ag hx)
end VM
end
section
namespace VM
open Go VM.F
theorem SG(N:Nat)(hN:4000000≤N){o:fM}{m:Nat}(ho:G m jP o)(a:Int):Ok (fun r=>Bg 4 r.1) (SH N o a):=by
 unfold SH
 have hw: ∀x:Int,Ok (fun r:av×Int=>Bg 4 r.1) ((gl N o.2.2.2.2.1).bind fun r5=>(gl N (W .i64 x)).bind fun r6=>(fX N r5 r6).bind fun r7=>some (r7,(0:Int))):=fun x=>
  af (aZ N hN ho.2.2.2.2.1) fun r h=>af (aZ N hN (dQ _)) fun r' h'=>af (jH N hN (by omega) (by omega) h h') fun y hy=>ag hy
 exact cm (yi N o) (bA (fun _=>ag (DE (by omega))) fun _=>cm (iT N a) (bA (fun _=>ag (DE (by omega))) fun _=>ok_eq (fun _=>au (fun _=>ag (DE (by omega))) fun _=>hw _) fun _=>au (fun _=>ag (DE (by omega))) fun _=>hw _))
theorem Z2{m:Nat}{a:aE}(h:G m (.slice df) a)(id:Int):G m df (jw a id).1:=by
 unfold jw
 split
 ·have: ∀l:aE,(∀x∈l,G m df x)→G m df (uy id l).1:=by
   intro l
   induction l with
   |nil=>intro _;exact G.zero m df
   |cons x t ih=>
    intro hx
    rw[ta]
    split
    ·exact hx x (List.mem_cons_self ..)
    ·exact ih fun y hy=>hx y (List.mem_cons_of_mem _ hy)
  exact this a h.2
 ·exact G.zero m df
theorem rZ(N:Nat)(hN:200000≤N){a:aE}{m:Nat}(hm:m≤50000)(h:G m (.slice df) a)(id:Int):Ok (fun r=>G m df r.1) (zm N a id):=kS (FA N (Nat.le_trans h.1 (by omega)) hN id) (Z2 h id)
theorem mq(N:Nat)(hN:200000≤N){a:ax}{m:Nat}(hm:m≤50000)(h:G m (.slice gP) a)(id:Int):Ok (fun _=>True) (uA N a id):=kS (zl N (Nat.le_trans h.1 (by omega)) hN id) trivial
theorem m5(N:Nat)(hN:200000≤N){l:aj}{m:Nat}(hm:m≤50000)(h:L3 m l)(a b:Int):Ok aC (qo N l a b):=kS (ZV N (Nat.le_trans h.1 (by omega)) hN a b) (O5 (fun x hx=>(h.2 x hx).2.2.1) a b)
theorem Gb(N:Nat)(hN:5000000≤N){c:ae}{b:ah}{o:fM}{m:Nat}(h2:200≤m)(hm:m≤40000)(hc:G m aq c)(hb:G m aB b)(ho:G m jP o):Ok (fun _=>True) (Po N c b o):=by
 have D6:=hb.2.2.2.2.2.1.1
 unfold Po
 refine cm (dI N hN (by omega) hb) (bA (fun _=>ag trivial) fun hB=>cm (yi N o) (bA (fun _=>ag trivial) fun hr=>af (rZ N (by omega) (by omega) hb.2.1 _) fun x hx=>bA (fun _=>ag trivial) fun _=>af (mq N (by omega) (by omega) hb.1 _) fun _ _=>bI (fun _=>ag trivial) fun _=>de (fun _=>ag trivial) fun hi=>aF (by rw[List.length_nil];omega) ?_))
 have hr:=of_decide_eq_true hr
 unfold qT s9 at hr
 obtain⟨hp,_⟩:=il hB
 dsimp only
 rw[List.nil_append]
 exact aF (by rw[List.length_singleton];omega) (af (F9 N (by omega) (by omega) hb.2.2.2.1 _) fun r h=>af (zV N (by omega) (by rw[List.length_append,List.length_singleton];omega) _) fun q h'=>af (Pm N (by omega) c (by omega) h (G.mono (by omega) h') _) fun t ht=>af (aZ N (by omega) hx.2.2.2.1) fun v hv=>af (om N (by omega) (by omega) (by omega) ht hv) fun _ _=>au (fun _=>ag trivial) fun _=>aw ⟨hr.2.2.1.1,by rw[hp];exact hi⟩ (af (SG N (by omega) ho _) fun e he=>af (m5 N (by omega) (by omega) hb.2.2.1 _ _) fun g hg=>af (aZ N (by omega) hg) fun y hy=>af (u9 N (by omega) (by omega) (Bg.mono hy (by omega)) he) fun z hz=>af (Ga N (by omega) h2 hm hc hb (by rw[List.length_singleton];omega) _) fun u hu=>af (om N (by omega) (by omega) (by omega) hz hu) fun _ _=>au (fun _=>ag trivial) fun _=>ag trivial))
theorem SI(N:Nat)(hN:5000000≤N){c:ae}{b:ah}{h:bR}{a q p:Int}{m:Nat}(h2:200≤m)(hm:m≤40000)(hc:G m aq c)(hb:G m aB b)(hh:G m df h)(ha:aC a)(hq:aC q)(hp:aC p):Ok (fun r=>G m aB r.1∧G m df r.2.1) (pO N c b h a q p):=by
 have ho:G m jP (h.1,(a,(h.2.1,(W .i64 (3-h.2.2.1),(q,(p,())))))):=⟨hh.1,ha,hh.2.1,dQ _,hq,hp,trivial⟩
 have eJ: ∀e:Int,Ok (fun r:ah×bR×Int=>G m aB r.1∧G m df r.2.1) (some ((bK,(cL,(bp,(bp,(c4,(c9,())))))),(aN,e))):=fun e=>ag ⟨G.ff,G.zero m df⟩
 unfold pO pO.b
 have hj: ∀t:uT,Ok (fun r=>G m aB r.1∧G m df r.2.1) (pO.j14 N q c b h (bK,(cL,(bp,(bp,(c4,(c9,())))))) aN t):=fun t=>by
  unfold pO.j14 pO.Z3
  exact af (Ck N hN c h2 (by omega) hb) fun r hr=>bI (fun _=>eJ _) fun _=>ag ⟨hr,hh.1,hh.2.1,hh.2.2.1,dQ _,trivial⟩
 exact cm (dI N hN (by omega) hb) (bA (fun _=>eJ _) fun _=>cm (zU N h) (bA (fun _=>eJ _) fun _=>au (fun _=>eJ _) fun _=>au (fun _=>eJ _) fun _=>au (fun _=>eJ _) fun _=>au (fun _=>eJ _) fun _=>au (fun _=>eJ _) fun _=>au (fun _=>eJ _) fun _=>au (fun _=>eJ _) fun _=>af (Gb N hN h2 hm hc hb ho) fun e _=>bI (fun _=>eJ _) fun _=>ok_eq (fun _=>hj _) fun _=>hj _))
end VM
end
section
namespace VM
open Go VM.F
def Dk(k:Nat)(d:aM):Prop:=(∀x∈(d.1:List Int),0≤x∧x<18446744073709551616)∧0≤(d.2.1:Int)∧(d.2.1:Int)≤k
theorem Dk.mono{j k:Nat}{d:aM}(h:Dk j d)(hk:j≤k):Dk k d:=⟨h.1,h.2.1,Int.le_trans h.2.2 (by omega)⟩
def pP:Nat:=1000000000
theorem KP(N:Nat){k:Nat}{d:aM}(hk:k≤pP)(h:Dk k d):Ok (fun r=>(0≤r.1∧r.1<18446744073709551616)∧Dk (k+1) r.2) (F42 N d):=by
 obtain⟨h1,h2,h3⟩:=h
 unfold pP at hk
 unfold F42
 have hw: ∀i:Int,0≤i→i≤(k:Int)→0≤W .i64 (i+1)∧W .i64 (i+1)≤((k+1:Nat):Int):=fun i h0 h1=>by rw[al (by omega) (by omega)];omega
 have hd:Dk (k+1) (d.1,(W .i64 (d.2.1+1),d.2.2)):=⟨h1,hw _ h2 h3⟩
 have hg: ∀(l:List Int) (i:Int),(∀x∈l,0≤x∧x<18446744073709551616)→0≤l.getD i.toNat 0∧l.getD i.toNat 0<18446744073709551616:=fun l i hl=>by
  by_cases hi:i.toNat<l.length
  ·rw[List.getD_eq_getElem?_getD,List.getElem?_eq_getElem hi];exact hl _ (List.getElem_mem hi)
  ·rw[List.getD_eq_getElem?_getD,List.getElem?_eq_none (by omega)];decide
 exact au (fun dF=>aw ⟨h2,dF⟩ (ag ⟨hg _ _ h1,hd⟩)) fun _=>ag ⟨(show(0:Int)≤0∧(0:Int)<18446744073709551616 by decide),hd⟩
theorem rem_in{x y:Int}(h0:0≤x)(hy:0<y):0≤rem x y∧rem x y<y:=by
 unfold rem;rw[eZ]
 exact⟨Int.tmod_nonneg _ h0,Int.tmod_lt_of_pos _ hy⟩
theorem gQ(N:Nat){k:Nat}{d:aM}{n:Int}(hn:0<n∧n<1000000)(h:Dk k d)(hk:k≤pP:=by first|decide|(unfold pP;omega)):Ok (fun r=>(0≤r.1∧r.1<n)∧Dk (k+1) r.2) (oq N d n):=by
 unfold oq
 refine af (KP N hk h) fun r hr=> ?_
 dsimp only
 rw[bz (x:=n) (by omega) (by omega)]
 have:=rem_in hr.1.1 hn.1
 refine ok_eq (fun _=>by omega) fun _=>ag ⟨?_,hr.2⟩
 dsimp only
 rw[al (by omega) (by omega)]
 exact this
theorem tv(N:Nat){k:Nat}{d:aM}{n:Int}(hn:0<n∧n<1000000)(h:Dk k d)(hk:k≤pP:=by first|decide|(unfold pP;omega)):Ok (fun r=>Dk (k+1) r.2) (QU N d n):=by
 unfold QU
 exact af (gQ N hn h hk) fun r hr=>ag hr.2
theorem n9(N:Nat){k:Nat}{d:aM}(h:Dk k d)(hk:k≤pP:=by first|decide|(unfold pP;omega)):Ok (fun r=>aC r.1∧Dk (k+1) r.2) (H7 N d):=by
 unfold H7
 refine af (KP N hk h) fun r hr=>ok_eq (fun _=>by omega) fun _=> ?_
 dsimp only
 repeat' first|exact ag ⟨dQ _,hr.2⟩|refine au (fun _=> ?_) (fun _=> ?_)|refine ok_eq (fun _=> ?_) (fun _=> ?_)|(exfalso;omega)
theorem Gc{x y:Int}(hy:0<y)(RN:y<9223372036854775808):aC (rem x y):=by
 unfold rem;rw[eZ]
 have h1:=Int.tmod_lt_of_pos x hy
 have h2: -y<x.tmod y:=by
  have:=Int.tmod_lt_of_pos (-x) hy
  rw[Int.neg_tmod]at this;omega
 unfold aC;omega
theorem vW{x y:Int}(hx:aC x)(hy:aC y):aC (mx x y):=by unfold mx;rw[eZ];split<;>assumption
theorem SJ{x y:Int}(hx:aC x)(hy:aC y):aC (mn x y):=by unfold mn;rw[eZ];split<;>assumption
theorem iM{x n:Int}(h:0≤x∧x<n)(hn:n≤1000000):aC x:=fN (by omega) (by omega)
theorem Mq(N:Nat)(hN:100≤N){d:aM}(h:Dk 0 d):Ok (fun r=>(G 5 aq r.1∧1≤r.1.1.length)∧Dk 1000 r.2) (pQ N d):=by
 unfold pQ pQ.b
 refine af (gQ N (by decide) h) fun r hr=> ?_
 rw[al (x:=1+r.1) (by omega) (by omega)]
 obtain⟨k,hk⟩: ∃k:Nat,1+r.1=(k:Int):=⟨(1+r.1).toNat,by omega⟩
 rw[hk]
 refine yr (F:=fun n x (s:aM×aE)=>pQ.l3 N n s.1 ([],eB) ([],eB) s.2 x) (fun x s=>x+s.2.length=k∧Dk (1+20*s.2.length) s.1∧G 4 (.slice df) s.2) (fun n x s hI hr=> ?_) (fun n s hI=> ?_) k N (r.2,_) (by omega) ⟨rfl,hr.2,G.nil⟩
 all_goals unfold pQ.l3 pQ.g7
 ·obtain⟨hx,hd,hG⟩:=hI
  have hl:=hG.1
  have tQ: ∀(d:aM) (x4:bR),Dk (1+20*s.2.length+10) d→G 4 df x4→Ok (fun r=>(G 5 aq r.1∧1≤r.1.1.length)∧Dk 1000 r.2) (cond (small (s.2.length+[x4].length)) (pQ.l3 N n d ([],eB) ([],eB) (s.2++[x4]) (W .i64 (((x+1:Nat):Int)-1))) none):=fun d x4 hd hx4=>by
   rw[al (x:=((x+1:Nat):Int)-1) (by omega) (by omega),show((x+1:Nat):Int)-1=(x:Int)by omega]
   refine aF (by rw[List.length_singleton];omega) (hr (_,_) ⟨by rw[List.length_append,List.length_singleton];omega,Dk.mono hd (by rw[List.length_append,List.length_singleton];omega),?_⟩)
   refine⟨by rw[List.length_append,List.length_singleton];omega,fun y hy=> ?_⟩
   rcases List.mem_append.1 hy with hy|hy
   ·exact hG.2 y hy
   ·rw[List.mem_singleton.1 hy];exact hx4
  have hj: ∀(d:aM) (x5:bR),Dk (1+20*s.2.length+6) d→G 4 df x5→Ok (fun r=>(G 5 aq r.1∧1≤r.1.1.length)∧Dk 1000 r.2) (pQ.j8 N (pQ.l3 N n) d ([],eB) ([],eB) s.2 ((x+1:Nat):Int) x5):=fun d x5 hd hx5=>by
   unfold pQ.j8 pQ.H6
   refine af (tv N (by decide) hd) fun r hd=>pM (fun _=> ?_) fun _=>tQ _ _ (Dk.mono hd (by omega)) hx5
   refine af (n9 N hd) fun r ⟨_,hd⟩=>ok_eq (fun _=>by omega) fun _=> ?_
   dsimp only
   exact af (n9 N hd) fun r ⟨_,hd⟩=>ok_eq (fun _=>by omega) fun _=>tQ _ _ (Dk.mono hd (by omega)) ⟨hx5.1,hx5.2.1,Gc (by decide) (by decide),Gc (by decide) (by decide),hx5.2.2.2.2⟩
  refine au (fun _=> ?_) fun _=>by omega
  refine af (gQ N (by decide) hd) fun a ⟨ha,hd⟩=>af (gQ N (by decide) hd) fun b ⟨hb,hd⟩=>af (gQ N (by decide) hd) fun c ⟨hc,hd⟩=>af (gQ N (by decide) hd) fun e ⟨he,hd⟩=>af (tv N (by decide) hd) fun r hd=>pM (fun _=>af (n9 N hd) fun r ⟨_,hd⟩=>ok_eq (fun _=>by omega) fun _=>hj _ _ (Dk.mono hd (by omega)) ?_) fun _=>hj _ _ (Dk.mono hd (by omega)) ?_
  all_goals exact⟨iM ha (by decide),dQ _,iM hc (by decide),iM he (by decide),trivial⟩
 ·obtain⟨hx,hd,hG⟩:=hI
  have hl:=hG.1
  have hd:Dk 900 s.1:=Dk.mono hd (by omega)
  refine au (fun _=>by omega) fun _=>af (gQ N (by decide) hd) fun a ⟨ha,hd⟩=>af (gQ N (by decide) hd) fun b ⟨hb,hd⟩=>af (gQ N (by decide) hd) fun c ⟨hc,hd⟩=>af (gQ N (by decide) hd) fun e ⟨he,hd⟩=>af (gQ N (by decide) hd) fun f ⟨hf,hd⟩=> ?_
  dsimp only
  refine af (gQ N (by decide) hd) fun g ⟨hg,hd⟩=>af (tv N (by decide) hd) fun r hd=>pM (fun _=>af (n9 N hd) fun r ⟨hr,hd⟩=>ag ⟨⟨⟨G.mono (by decide) hG,?_⟩,by dsimp only;omega⟩,Dk.mono hd (by decide)⟩) fun _=>ag ⟨⟨⟨G.mono (by decide) hG,?_⟩,by dsimp only;omega⟩,Dk.mono hd (by decide)⟩
  ·exact⟨hr,iM hb (by decide),iM hc (by decide),iM he (by decide),dQ _,iM hg (by decide),trivial⟩
  ·exact⟨iM ha (by decide),iM hb (by decide),iM hc (by decide),iM he (by decide),dQ _,iM hg (by decide),trivial⟩
abbrev Nf(m:Nat)(l:fO):Prop:=G m (.slice mu) l
theorem xM{k a b c d e f g:Int}{m:Nat}(h0:aC k)(h1:aC a)(h2:aC b)(h3:aC c)(h4:aC d)(h5:aC e)(h6:aC f)(h7:aC g):G m mu (k,(a,(b,(c,(d,(e,(f,(g,())))))))):=⟨h0,h1,h2,h3,h4,h5,h6,h7,trivial⟩
theorem aV{x:Int}(h: -1000000≤x∧x≤1000000:=by decide):aC x:=fN h.1 h.2
theorem DF(N:Nat){k:Nat}{d:aM}(h:Dk k d)(c:ae){i:Int}(hi:0≤i∧i<(c.1.length:Int))(hc:c.1.length≤5)(hk:k≤100000000):Ok (fun r=>G 0 mu r.1∧Dk (k+5) r.2) (Mr N d c i):=by
 unfold Mr
 have hb:aC 1000000000000:=by unfold aC;decide
 have iF:aC i:=fN (by omega) (by omega)
 exact aw hi (af (gQ N (by decide) h) fun a ⟨_,hd⟩=>af (tv N (by decide) hd) fun r hd=>pM (fun _=>af (n9 N hd) fun r ⟨_,hd⟩=>ok_eq (fun _=>by omega) fun _=>ag ⟨xM aV aV aV iF aV aV aV (dQ _),Dk.mono hd (by omega)⟩) fun _=>ag ⟨xM aV aV aV iF aV aV aV (vW aV (SJ hb (dQ _))),Dk.mono hd (by omega)⟩)
theorem Gd(N:Nat){k:Nat}{d:aM}(h:Dk k d)(c:ae)(M5:1≤c.1.length)(hc:c.1.length≤5)(hk:k≤100000000):Ok (fun r=>G 0 mu r.1∧Dk (k+10) r.2) (Pp N d c):=by
 unfold Pp
 have hb:aC 1000000000000:=by unfold aC;decide
 refine af (gQ N ⟨by omega,by omega⟩ h) fun a ⟨ha,hd⟩=>af (gQ N (by decide) hd) fun b ⟨dw,hd⟩=> ?_
 dsimp only
 refine af (gQ N (by decide) hd) fun e ⟨he,hd⟩=>af (gQ N (by decide) hd) fun f ⟨hf,hd⟩=>aw ha (af (gQ N (by decide) hd) fun g ⟨_,hd⟩=>af (tv N (by decide) hd) fun r hd=>pM (fun _=>af (n9 N hd) fun r ⟨_,hd⟩=>ok_eq (fun _=>by omega) fun _=>af (n9 N hd) fun r' ⟨_,hd⟩=>ok_eq (fun _=>by omega) fun _=>ag ⟨xM aV aV (dQ _) (iM ha (by omega)) (dQ _) aV (dQ _) (dQ _),Dk.mono hd (by omega)⟩) fun _=>ag ⟨xM aV aV (dQ _) (iM ha (by omega)) (dQ _) aV (dQ _) (vW aV (SJ hb (dQ _))),Dk.mono hd (by omega)⟩)
end VM
end
section
namespace VM
open Go VM.F
structure Cf(c:ae):Prop where
 g:G 5 aq c
 n:1≤c.1.length
theorem Ge(N:Nat){k:Nat}{d:aM}(h:Dk k d){c:ae}(hc:Cf c)(hk:k≤10000000):Ok (fun r=>G 0 mu r.1∧Dk (k+20) r.2) (Pq N d c):=by
 have hn:=hc.n
 have hl:=hc.g.1.1
 unfold Pq
 refine af (gQ N (by decide) h) fun a ⟨ha,hd⟩=> ?_
 dsimp only
 refine af (gQ N (by decide) hd) fun b ⟨hb,hd⟩=>af (gQ N ⟨by omega,by omega⟩ hd) fun i ⟨hi,hd⟩=>af (gQ N (by decide) hd) fun e ⟨he,hd⟩=> ?_
 have hz: ∀(e:fA) (j:Nat) (d:aM),G 0 mu e→Dk j d→j≤k+20→Ok (fun r=>G 0 mu r.1∧Dk (k+20) r.2) (some (e,d)):=fun e j d he hd hj=>ag ⟨he,Dk.mono hd hj⟩
 have hs: ∀{f:Int×aM→Option (fA×aM)},(∀x d,aC x→Dk (k+5) d→Ok (fun r=>G 0 mu r.1∧Dk (k+20) r.2) (f (x,d)))→Ok (fun r=>G 0 mu r.1∧Dk (k+20) r.2) ((H7 N e.2).bind f):=fun hf=>af (n9 N hd) fun r ⟨h1,h2⟩=>hf r.1 r.2 h1 (Dk.mono h2 (by omega))
 have hm: ∀{n:Int} {f:Int×aM→Option (fA×aM)},0<n∧n<1000000→(∀x d,Dk (k+5) d→Ok (fun r=>G 0 mu r.1∧Dk (k+20) r.2) (f (x,d)))→Ok (fun r=>G 0 mu r.1∧Dk (k+20) r.2) ((oq N e.2 n).bind f):=fun hn hf=>af (gQ N hn hd) fun r ⟨h1,h2⟩=>hf r.1 r.2 (Dk.mono h2 (by omega))
 repeat' first
  |refine ok_eq (fun _=> ?_) (fun _=> ?_)
  |(exfalso;omega)
  |(refine hs fun x d' hx RD=> ?_;dsimp only)
  |(refine hm (by decide) fun x d' RD=> ?_;dsimp only)
  |(refine hz _ _ _ ?_ hd (by omega);refine⟨?_,?_,?_,?_,?_,?_,?_,?_,trivial⟩<;>first|exact dQ _|exact aU|exact vW hx aV|exact Gc (by decide) (by decide)|exact(G.at hc.g.1 _).2.1)
  |(refine hz _ _ _ ?_ RD (by omega);refine⟨?_,?_,?_,?_,?_,?_,?_,?_,trivial⟩<;>first|exact dQ _|exact aU|exact vW hx aV|exact Gc (by decide) (by decide)|exact(G.at hc.g.1 _).2.1)
  |(refine hz _ _ _ ?_ h2 (by omega);refine⟨?_,?_,?_,?_,?_,?_,?_,?_,trivial⟩<;>first|exact dQ _|exact aU|exact vW hx aV|exact Gc (by decide) (by decide)|exact(G.at hc.g.1 _).2.1)
  |exact af (DF N hd c hi hl (by omega)) fun r ⟨h1,h2⟩=>hz _ _ _ h1 h2 (by omega)
  |exact af (Gd N hd c hn hl (by omega)) fun r ⟨h1,h2⟩=>hz _ _ _ h1 h2 (by omega)
  |refine aw hi ?_
  |(refine af (gQ N (by decide) RD) fun r ⟨h1,h2⟩=> ?_)
end VM
end
section
namespace VM
open Go VM.F
theorem G.cat{m n:Nat}{e:Ty}{l k:List e.den}(h:G m (.slice e) l)(h':G n (.slice e) k):G (m+n) (.slice e) (l++k):=
 ⟨by have:=h.1;have:=h'.1;rw[List.length_append];omega,fun y hy=>by
  rcases List.mem_append.1 hy with hy|hy
  ·exact G.mono (by omega) (h.2 y hy)
  ·exact G.mono (by omega) (h'.2 y hy)⟩
theorem G.two{m:Nat}{e:Ty}{a b:e.den}(ha:G 0 e a)(hb:G 0 e b)(hm:2≤m):G m (.slice e) [a,b]:=
 ⟨hm,fun y hy=>by
  rcases List.mem_cons.1 hy with rfl|hy
  ·exact G.mono (by omega) ha
  ·rw[List.mem_singleton.1 hy];exact G.mono (by omega) hb⟩
theorem G.one{m:Nat}{e:Ty}{a:e.den}(ha:G 0 e a)(hm:1≤m):G m (.slice e) [a]:=
 ⟨hm,fun y hy=>by rw[List.mem_singleton.1 hy];exact G.mono (by omega) ha⟩
theorem sa{α:Type}(a b:α):[a,b].length=2:=rfl
theorem Jf(N:Nat)(hN:100≤N){k:Nat}{d:aM}(h:Dk k d)(c:ae)(hk:k≤10000000):Ok (fun r=>Nf 40 r.1∧Dk (k+50) r.2) (dB N d c):=by
 have s64: ∀i:Nat,i<100→aC (i:Int):=fun i hi=>fN (by omega) (by omega)
 unfold dB dB.b
 refine iA (len:=5) (F:=fun n i (s:aM×fO)=>dB.l3 N n s.1 s.2 i) (fun i s=>Dk (k+2*i) s.1∧Nf (3*i) s.2) (fun n i s hi hI hr=> ?_) (fun n s hI=> ?_) 5 N 1 (d,[]) (by omega) (by omega) (by omega) ⟨Dk.mono h (by omega),G.nil⟩
 all_goals unfold dB.l3 dB.g7
 ·have hl:=hI.2.1
  have iF:=s64 i (by omega)
  dsimp only
  rw[al (x:=(i:Int)+1) (by omega) (by omega),aa i]
  have h2:Nf (3*i+2) (s.2++[((1:Int),((i:Int),eB)),((2:Int),((i:Int),((i:Int),((0:Int),((1:Int),aS)))))]):=G.cat hI.2 (G.two (xM aV iF aU aU aU aU aU aU) (xM aV iF iF aU aV aU aU aU) (by omega))
  have hl2:=h2.1
  exact de (fun _=>aF (by rw[sa];omega) (af (tv N (by decide) hI.1 (by unfold pP;omega)) fun r hd=>bA (fun _=>af (gQ N (by decide) hd (by unfold pP;omega)) fun r ⟨_,hd⟩=>aF (by rw[List.length_singleton];omega) (hr (_,_) ⟨Dk.mono hd (by omega),G.mono (by omega) (G.cat h2 (G.one (m:=1) (xM aV iF aU aU aU aU (dQ _) aU) (by omega)))⟩)) fun _=>hr (_,_) ⟨Dk.mono hd (by omega),G.mono (by omega) h2⟩)) fun _=>by omega
 ·refine de (fun _=>by omega) fun _=> ?_
  refine iA (len:=8) (F:=fun n i (s:aM×fO)=>dB.l9 N n s.1 s.2 i) (fun i s=>Dk (k+10+i) s.1∧Nf (15+i) s.2) (fun n i s hi hI hr=> ?_) (fun n s hI=> ?_) 8 N 5 s (by omega) (by omega) (by omega) ⟨Dk.mono hI.1 (by omega),G.mono (by omega) hI.2⟩
  all_goals unfold dB.l9 dB.vk
  ·have hl:=hI.2.1
   dsimp only
   rw[al (x:=(i:Int)+1) (by omega) (by omega),aa i]
   exact de (fun _=>af (gQ N (by decide) hI.1 (by unfold pP;omega)) fun r ⟨_,hd⟩=>aF (by rw[List.length_singleton];omega) (hr (_,_) ⟨Dk.mono hd (by omega),G.mono (by omega) (G.cat hI.2 (G.one (m:=1) (xM aV (dQ _) (s64 i (by omega)) aU aV aU aU aU) (by omega)))⟩)) fun _=>by omega
  ·refine de (fun _=>by omega) fun _=> ?_
   refine iA (len:=8) (F:=fun n i (s:aM×fO)=>dB.lz N n s.1 s.2 i) (fun i s=>Dk (k+18+2*i) s.1∧Nf (23+2*i) s.2) (fun n i s hi hI hr=> ?_) (fun n s hI=> ?_) 8 N 1 s (by omega) (by omega) (by omega) ⟨Dk.mono hI.1 (by omega),G.mono (by omega) hI.2⟩
   all_goals unfold dB.lz dB.jO
   ·have hl:=hI.2.1
    have iF:=s64 i (by omega)
    dsimp only
    rw[al (x:=(i:Int)+1) (by omega) (by omega),aa i]
    exact de (fun _=>af (gQ N (by decide) hI.1 (by unfold pP;omega)) fun r ⟨_,hd⟩=>af (gQ N (by decide) hd (by unfold pP;omega)) fun r ⟨_,hd⟩=>aF (by rw[sa];omega) (hr (_,_) ⟨Dk.mono hd (by omega),G.mono (by omega) (G.cat hI.2 (G.two (m:=2) (xM aV aU iF aU aU aU (dQ _) aU) (xM aV aU iF aU aU aU (dQ _) aU) (by omega)))⟩)) fun _=>by omega
   ·exact de (fun _=>by omega) fun _=>ag ⟨G.mono (by omega) hI.2,Dk.mono hI.1 (by omega)⟩
theorem Pr{x:Nat}(h:x<1000000):W .i64 (((x+1:Nat):Int)-1)=(x:Int):=by rw[al (by omega) (by omega)];omega
theorem Ms(N:Nat)(hN:1000≤N){k:Nat}{d:aM}(h:Dk k d){c:ae}(hc:Cf c){Gf:Int}(hm:0≤Gf∧Gf≤100)(hk:k≤10000):Ok (fun r=>Nf 200 r.1∧Dk (k+3000) r.2) (yu N d c Gf):=by
 have hn:=hc.n
 have hl:=hc.g.1.1
 unfold yu yu.b
 rw[al (x:=Gf+1) (by omega) (by omega)]
 refine af (Jf N (by omega) h c (by omega)) fun r ⟨C2,hd⟩=>af (gQ N ⟨by omega,by omega⟩ hd (by unfold pP;omega)) fun z ⟨hz,hd⟩=> ?_
 obtain⟨j,hj⟩: ∃j:Nat,z.1=(j:Int):=⟨z.1.toNat,by omega⟩
 rw[hj]
 refine yr (F:=fun n x (s:aM×fO)=>yu.l3 N n s.1 c s.2 x) (fun x s=>x≤100∧Dk (k+100+25*(100-x)) s.1∧Nf (40+(100-x)) s.2) (fun n x s hI hr=> ?_) (fun n s hI=> ?_) j N (z.2,r.1) (by omega) ⟨by omega,Dk.mono hd (by omega),G.mono (by omega) C2⟩
 all_goals unfold yu.l3 yu.g7
 ·obtain⟨hx,hd,hG⟩:=hI
  have hs:=hG.1
  rw[Pr (by omega)]
  have put: ∀(e:fA) (d:aM) (q:Nat),G 0 mu e→Dk q d→q≤k+100+25*(100-(x+1))+25→Ok (fun r=>Nf 200 r.1∧Dk (k+3000) r.2) (cond (small (s.2.length+[e].length)) (yu.l3 N n d c (s.2++[e]) (x:Int)) none):=fun e d q he hd hq=>aF (by rw[List.length_singleton];omega) (hr (_,_) ⟨by omega,Dk.mono hd (by omega),G.mono (by omega) (G.cat hG (G.one (m:=1) he (by omega)))⟩)
  exact au (fun _=>af (gQ N (by decide) hd (by unfold pP;omega)) fun a ⟨_,hd⟩=>ok_eq (fun _=>af (Ge N hd hc (by omega)) fun r ⟨h1,h2⟩=>put _ _ _ h1 h2 (by omega)) fun _=>ok_eq (fun _=>af (gQ N ⟨by omega,by omega⟩ hd (by unfold pP;omega)) fun b ⟨hb,hd⟩=>af (DF N hd c hb hl (by omega)) fun r ⟨h1,h2⟩=>put _ _ _ h1 h2 (by omega)) fun _=>af (Gd N hd c hn hl (by omega)) fun r ⟨h1,h2⟩=>put _ _ _ h1 h2 (by omega)) fun _=>by omega
 ·exact au (fun _=>by omega) fun _=>ag ⟨G.mono (by omega) hI.2.2,Dk.mono hI.2.1 (by omega)⟩
theorem Gg(N:Nat)(hN:1000≤N){k:Nat}{d:aM}(h:Dk k d){c:ae}(hc:Cf c)(hk:k≤100000):Ok (fun r=>Nf 3 r.1∧Dk (k+100) r.2) (xN N d c):=by
 have hn:=hc.n
 have hl:=hc.g.1.1
 unfold xN xN.b
 refine af (gQ N (by decide) h (by unfold pP;omega)) fun z ⟨hz,hd⟩=> ?_
 obtain⟨j,hj⟩: ∃j:Nat,z.1=(j:Int):=⟨z.1.toNat,by omega⟩
 rw[hj]
 refine yr (F:=fun n x (s:aM×fO)=>xN.l3 N n s.1 c s.2 x) (fun x s=>x≤3∧Dk (k+1+25*(3-x)) s.1∧Nf (3-x) s.2) (fun n x s hI hr=> ?_) (fun n s hI=> ?_) j N (z.2,[]) (by omega) ⟨by omega,Dk.mono hd (by omega),G.nil⟩
 all_goals unfold xN.l3 xN.g7
 ·obtain⟨hx,hd,hG⟩:=hI
  have hs:=hG.1
  rw[Pr (by omega)]
  have put: ∀(e:fA) (d:aM) (q:Nat),G 0 mu e→Dk q d→q≤k+1+25*(3-(x+1))+25→Ok (fun r=>Nf 3 r.1∧Dk (k+100) r.2) (cond (small (s.2.length+[e].length)) (xN.l3 N n d c (s.2++[e]) (x:Int)) none):=fun e d q he hd hq=>aF (by rw[List.length_singleton];omega) (hr (_,_) ⟨by omega,Dk.mono hd (by omega),G.mono (by omega) (G.cat hG (G.one (m:=1) he (by omega)))⟩)
  exact au (fun _=>af (tv N (by decide) hd (by unfold pP;omega)) fun a hd=>pM (fun _=>af (gQ N ⟨by omega,by omega⟩ hd (by unfold pP;omega)) fun b ⟨hb,hd⟩=>af (DF N hd c hb hl (by omega)) fun r ⟨h1,h2⟩=>put _ _ _ h1 h2 (by omega)) fun _=>af (Ge N hd hc (by omega)) fun r ⟨h1,h2⟩=>put _ _ _ h1 h2 (by omega)) fun _=>by omega
 ·exact au (fun _=>by omega) fun _=>ag ⟨G.mono (by omega) hI.2.2,Dk.mono hI.2.1 (by omega)⟩
end VM
end
section
namespace VM
open Go VM.F
theorem dp{α:Type}{r:α}:Ok (fun _=>True) (some r):=ag trivial
theorem Mt(N:Nat)(k:Int):Ok (fun s=>ByteArray.size s≤100) (SK N k):=by
 unfold SK
 repeat' first|refine ok_eq (fun _=> ?_) (fun _=> ?_)|exact ag (by decide)
theorem Mu(N:Nat)(k f:Int):Ok (fun _=>True) (SL N k f):=by
 unfold SL Z4 Z5
 repeat' first|refine ok_eq (fun _=> ?_) (fun _=> ?_)|exact dp|refine af (Q:=fun _=>True) ?_ fun _ _=>dp
theorem Ps(N:Nat)(e:fA)(f:Int):Ok (fun _=>True) (SM N e f):=by
 unfold SM
 repeat' first|refine ok_eq (fun _=> ?_) (fun _=> ?_)|exact dp
theorem Pu(N:Nat)(e:fA)(f x:Int):Ok (fun _=>True) (SN N e f x):=by
 unfold SN
 repeat' first|refine ok_eq (fun _=> ?_) (fun _=> ?_)|exact dp
theorem Mv(N:Nat)(hN:1000≤N)(e:fA):Ok (fun _=>True) (m6 N e):=by
 unfold m6 m6.b Z6
 refine af (Q:=fun _=>True) (de (fun _=>dp) fun _=>dp) fun _ _=>bA (fun _=>dp) fun _=>af (Mt N _) fun s hs=> ?_
 refine bh (len:=ByteArray.size s) (F:=fun n i (x:fA)=>m6.l6 N n e s x i) (fun _ _=>True) trivial (by omega) (fun n i x hi _ hr=> ?_) (fun n x _=> ?_)
 all_goals unfold m6.l6 m6.ow
 ·rw[al (x:=(i:Int)+1) (by omega) (by omega),aa i]
  exact au (fun _=>aw ⟨by omega,by omega⟩ (af (Mu N _ _) fun _ _=>aw ⟨by omega,by omega⟩ (af (Ps N _ _) fun _ _=>au (fun _=>dp) fun _=>au (fun _=>dp) fun _=>aw ⟨by omega,by omega⟩ (af (Pu N _ _ _) fun y _=>hr y trivial)))) fun _=>by omega
 ·exact au (fun _=>by omega) fun _=>dp
theorem G.ins{m:Nat}{e:Ty}{l:List e.den}{x:e.den}(h:G m (.slice e) l)(hx:G m e x)(a b c:Nat)(ha:c≤a):G (m+1) (.slice e) ((([]++List.drop b (List.take c l))++[x])++List.drop a (List.take l.length l)):=by
 have:=h.1
 refine⟨?_,fun y hy=> ?_⟩
 ·simp only[List.nil_append,List.length_append,List.length_drop,List.length_take,List.length_singleton];omega
 ·rw[List.nil_append,List.append_assoc]at hy
  rcases List.mem_append.1 hy with hy|hy
  ·exact G.mono (by omega) (h.2 y (List.mem_of_mem_take (List.mem_of_mem_drop hy)))
  ·rcases List.mem_append.1 hy with hy|hy
   ·rw[List.mem_singleton.1 hy];exact G.mono (by omega) hx
   ·exact G.mono (by omega) (h.2 y (List.mem_of_mem_take (List.mem_of_mem_drop hy)))
theorem Pv{α:Type}{P:List α×Int→Prop}{l:List α}{x:α}{k:Nat}{e:Int}(hk:k≤l.length)(hl:l.length≤1000000)(h:P ((([]++List.drop (0:Int).toNat (List.take (k:Int).toNat l))++[x])++List.drop (k:Int).toNat (List.take (l.length:Int).toNat l),e)):
  Ok P (cond (fE 0 (k:Int) (l.length:Int) (l.length:Int)) (let v6:List α:=List.drop (0:Int).toNat (List.take (k:Int).toNat l);cond (small (([]:List α).length+v6.length)) (let v7:List α:=[]++v6;cond (small (v7.length+[x].length)) (let v8:List α:=v7++[x];cond (fE (k:Int) (l.length:Int) (l.length:Int) (l.length:Int)) (let v9:List α:=List.drop (k:Int).toNat (List.take (l.length:Int).toNat l);cond (small (v8.length+v9.length)) (some ((v8++v9),e)) none) none) none) none) none):=by
 dsimp only
 have t: ∀a b:Nat,(List.drop a (List.take b l)).length≤l.length:=fun a b=>by rw[List.length_drop,List.length_take];omega
 have t1:=t (0:Int).toNat (k:Int).toNat
 have t2:=t (k:Int).toNat (l.length:Int).toNat
 refine DD ⟨by omega,by omega,by omega,by omega⟩ (aF (by rw[List.length_nil];omega) (aF ?_ (DD ⟨by omega,by omega,by omega,by omega⟩ (aF ?_ (ag h)))))
 ·rw[List.nil_append,List.length_singleton];omega
 ·rw[List.nil_append,List.length_append,List.length_singleton];omega
theorem Pw(N:Nat)(hN:200000≤N){a:ax}{m:Nat}(hm:m≤50000)(h:G m (.slice gP) a){id:Int}(aT:aC id):Ok (fun r=>G (m+1) (.slice gP) r.1) (gR N a id):=by
 have hl:=h.1
 unfold gR gR.b
 refine cm (n4 N (by omega) hN) (bA (fun _=>ag G.nil) fun _=>au (fun _=>ag G.nil) fun _=>au (fun _=>ag G.nil) fun _=>cm (kf N (by omega) hN id) (bI (fun _=>ag G.nil) fun _=> ?_))
 have fin: ∀k:Nat,k≤a.length→Ok (fun r=>G (m+1) (.slice gP) r.1) (gR.j9 N a id [] (k:Int)):=fun k hk=>by
  unfold gR.j9 gR.IE
  have hx:G m gP (id,((1:Int),())):=⟨aT,(show aC 1 from aV),trivial⟩
  exact Pv hk (by omega) (by simpa using G.ins h hx k 0 k (Nat.le_refl _))
 refine iB (len:=a.length) (F:=fun n i=>gR.l7 N n a id [] i) (by omega) (fun n i hi hr=> ?_) (fun n=> ?_)
 all_goals unfold gR.l7 gR.ll
 ·rw[al (x:=(i:Int)+1) (by omega) (by omega),aa i]
  exact au (fun _=>aw ⟨by omega,by omega⟩ (au (fun _=>hr) fun _=>fin i (by omega))) fun _=>by omega
 ·exact au (fun _=>by omega) fun _=>fin _ (Nat.le_refl _)
end VM
end
section
namespace VM
open Go VM.F
theorem G4q{m:Nat}{x:bR}{q:Int}(h:G m df x)(hq:aC q):G m df (x.1,(x.2.1,(x.2.2.1,(q,x.2.2.2.2)))):=⟨h.1,h.2.1,h.2.2.1,hq,trivial⟩
theorem G4b{m:Nat}{x:bR}{q:Int}(h:G m df x)(hq:aC q):G m df (x.1,(q,x.2.2)):=⟨h.1,hq,h.2.2⟩
theorem G2b{m:Nat}{x:OC}{q:Int}(h:G m gP x)(hq:aC q):G m gP (x.1,(q,x.2.2)):=⟨h.1,hq,trivial⟩
theorem DG(N:Nat)(hN:200000≤N){l:aE}(hl:l.length≤100000):Ok (fun _=>True) (ix N l):=kS (uD N hl hN) trivial
theorem SO(N:Nat)(hN:200000≤N){a:ax}{l:aE}{x:bR}{m:Nat}(hm:m≤50000)(ha:G m (.slice gP) a)(h:G m (.slice df) l)(hx:G 0 df x):Ok (fun r=>G (m+1) (.slice df) r.1) (eA N a l x):=by
 have h1:=ha.1
 have hl:=h.1
 have fin: ∀k:Nat,k≤l.length→Ok (fun r=>G (m+1) (.slice df) r.1) (eA.Bf N l x [] (k:Int)):=fun k hk=>by
  unfold eA.Bf eA.tu
  exact Pv hk (by omega) (by simpa using G.ins h (G.mono (Nat.zero_le m) hx) k 0 k (Nat.le_refl _))
 have hj:Ok (fun r=>G (m+1) (.slice df) r.1) (eA.H8 N l x):=by
  unfold eA.H8 eA.zW
  refine iB (len:=l.length) (F:=fun n i=>eA.lz N n l x [] i) (by omega) (fun n i hi hr=> ?_) (fun n=> ?_)
  all_goals unfold eA.lz eA.jO
  ·rw[al (x:=(i:Int)+1) (by omega) (by omega),aa i]
   exact au (fun _=>aw ⟨by omega,by omega⟩ (au (fun _=>hr) fun _=>fin i (by omega))) fun _=>by omega
  ·exact au (fun _=>by omega) fun _=>fin _ (Nat.le_refl _)
 unfold eA eA.b
 exact cm (zn N (by omega) (by omega) hN) (bA (fun _=>ag G.nil) fun _=>af (DG N hN (by rw[List.length_singleton];omega)) fun _ _=>bA (fun _=>ag G.nil) fun _=>cm (kf N (by omega) hN _) (ok_eq (fun _=>ag G.nil) fun _=>bI (fun _=>ag G.nil) fun _=>cm (uB N (by omega) hN _) (pM (fun _=>ag G.nil) fun _=>ok_eq (fun _=>cm (vM N (by omega) hN _) (bI (fun _=>ag G.nil) fun _=>hj)) fun _=>hj)))
theorem Px(N:Nat)(hN:200000≤N){l:aE}{m:Nat}(hm:m≤50000)(h:G m (.slice df) l){id q:Int}(hq:aC q):Ok (fun r=>G m (.slice df) r.1) (m7 N l id q):=by
 have hl:=h.1
 unfold m7 m7.b
 refine af (DG N hN (by omega)) fun _ _=>bA (fun _=>ag G.nil) fun _=>au (fun _=>ag G.nil) fun _=>au (fun _=>ag G.nil) fun _=>cm (uB N (by omega) hN _) (bA (fun _=>ag G.nil) fun _=>aF (by rw[List.length_nil];omega) ?_)
 rw[List.nil_append]
 refine bh (len:=l.length) (F:=fun n i s=>m7.l8 N n id q s i) (fun _ s=>s.length=l.length∧G m (.slice df) s) ⟨rfl,h⟩ (by omega) (fun n i s hi hI hr=> ?_) (fun n s hI=> ?_)
 all_goals unfold m7.l8 m7.yj
 ·rw[al (x:=(i:Int)+1) (by omega) (by omega),aa i]
  have hs:=hI.1
  have hx:=G.at hI.2 (i:Int).toNat
  exact au (fun _=>aw ⟨by omega,by omega⟩ (ok_eq (fun _=>aw ⟨by omega,by omega⟩ (hr _ ⟨by rw[List.length_set];exact hs,G.set hI.2 (G4q hx hq) _⟩)) fun _=>hr s hI)) fun _=>by omega
 ·have hs:=hI.1
  exact au (fun _=>by omega) fun _=>ag hI.2
theorem Py(N:Nat)(a b:Int):Ok (fun r=>aC r.1) (SP N a b):=by
 have h: ∀(x:Int) (t:Bool),0≤x∧x<5→Ok (fun r:Int×Bool=>aC r.1) (some (x,t)):=fun x t hx=>ag (iM hx (by decide))
 unfold SP
 repeat' first|refine ok_eq (fun _=> ?_) (fun _=> ?_)|exact h _ _ (by decide)
theorem KQ(N:Nat)(hN:200000≤N){l:ax}{m:Nat}(hm:m≤50000)(h:G m (.slice gP) l)(id k:Int):Ok (fun r=>G m (.slice gP) r.1) (kU N l id k):=by
 have hl:=h.1
 unfold kU kU.b
 refine cm (n4 N (by omega) hN) (bA (fun _=>ag G.nil) fun _=>cm (kf N (by omega) hN _) (ok_eq (fun _=>ag G.nil) fun _=>af (Py N _ _) fun z hz=>bA (fun _=>ag G.nil) fun _=>aF (by rw[List.length_nil];omega) ?_))
 rw[List.nil_append]
 refine bh (len:=l.length) (F:=fun n i s=>kU.tt N n id z.1 s i) (fun _ s=>s.length=l.length∧G m (.slice gP) s) ⟨rfl,h⟩ (by omega) (fun n i s hi hI hr=> ?_) (fun n s hI=> ?_)
 all_goals unfold kU.tt kU.qj
 ·rw[al (x:=(i:Int)+1) (by omega) (by omega),aa i]
  have hs:=hI.1
  have hx:=G.at hI.2 (i:Int).toNat
  exact au (fun _=>aw ⟨by omega,by omega⟩ (ok_eq (fun _=>aw ⟨by omega,by omega⟩ (hr _ ⟨by rw[List.length_set];exact hs,G.set hI.2 (G2b hx hz) _⟩)) fun _=>hr s hI)) fun _=>by omega
 ·have hs:=hI.1
  exact au (fun _=>by omega) fun _=>ag hI.2
theorem Jg(N:Nat)(hN:200000≤N){a:ax}{l:aE}{m:Nat}(hm:m≤50000)(ha:G m (.slice gP) a)(h:G m (.slice df) l){id to:Int}(hto:aC to):Ok (fun r=>G m (.slice df) r.1) (m8 N a l id to):=by
 have h1:=ha.1
 have hl:=h.1
 unfold m8 m8.b
 refine cm (zn N (by omega) (by omega) hN) (bA (fun _=>ag G.nil) fun _=>cm (uB N (by omega) hN _) (cm (kf N (by omega) hN _) (bA (fun _=>ag G.nil) fun _=>ok_eq (fun _=>ag G.nil) fun _=>bI (fun _=>ag G.nil) fun _=>bI (fun _=>ag G.nil) fun _=>aF (by rw[List.length_nil];omega) ?_)))
 rw[List.nil_append]
 refine bh (len:=l.length) (F:=fun n i s=>m8.lz N n id to s i) (fun _ s=>s.length=l.length∧G m (.slice df) s) ⟨rfl,h⟩ (by omega) (fun n i s hi hI hr=> ?_) (fun n s hI=> ?_)
 all_goals unfold m8.lz m8.jO
 ·rw[al (x:=(i:Int)+1) (by omega) (by omega),aa i]
  have hs:=hI.1
  have hx:=G.at hI.2 (i:Int).toNat
  exact au (fun _=>aw ⟨by omega,by omega⟩ (ok_eq (fun _=>aw ⟨by omega,by omega⟩ (hr _ ⟨by rw[List.length_set];exact hs,G.set hI.2 (G4b hx hto) _⟩)) fun _=>hr s hI)) fun _=>by omega
 ·have hs:=hI.1
  exact au (fun _=>by omega) fun _=>ag hI.2
theorem Pz(N:Nat)(hN:200000≤N){l:aE}{m:Nat}(hm:m≤50000)(h:G m (.slice df) l)(id:Int):Ok (fun r=>r.length≤m) (m9 N l id):=by
 have hl:=h.1
 unfold m9 m9.b
 refine af (DG N hN (by omega)) fun _ _=>bA (fun _=>ag (Nat.zero_le _)) fun _=>bh (len:=l.length) (F:=fun n i s=>m9.l5 N n l id s i) (fun i s=>s.length≤i) (Nat.zero_le _) (by omega) (fun n i s hi hI hr=> ?_) (fun n s hI=> ?_)
 all_goals unfold m9.l5 m9.dq
 ·rw[al (x:=(i:Int)+1) (by omega) (by omega),aa i]
  exact au (fun _=>aw ⟨by omega,by omega⟩ (ok_eq (fun _=>aw ⟨by omega,by omega⟩ (aF (by rw[List.length_singleton];omega) (hr _ (by rw[List.length_append,List.length_singleton];omega)))) fun _=>hr s (by omega))) fun _=>by omega
 ·exact au (fun _=>by omega) fun _=>ag (by omega)
abbrev L6(m:Nat)(l:a6):Prop:=G m (.slice jP) l
theorem PA(N:Nat)(hN:200000≤N){l:a6}{a:List Int}{m:Nat}(hm:m≤50000)(h:L6 m l)(ha:a.length≤m):Ok (fun r=>L6 m r) (eW N l a):=by
 have hl:=h.1
 unfold eW eW.b
 refine cm (ke N (by omega) hN) (bA (fun _=>ag G.nil) fun _=>bh (len:=l.length) (F:=fun n i s=>eW.l5 N n l a s i) (fun i s=>L6 i s) G.nil (by omega) (fun n i s hi hI hr=> ?_) (fun n s hI=> ?_))
 all_goals unfold eW.l5 eW.dq
 ·have hs:=hI.1
  refine au (fun _=> ?_) fun _=>by omega
  refine bh (len:=a.length) (F:=fun n' j b=>eW.l9 N (eW.l5 N n) n' l a s (i:Int) b j) (fun _ _=>True) trivial (by omega) (fun n' j b hj _ dx=> ?_) (fun n' b _=> ?_)
  all_goals unfold eW.l9 eW.vk
  ·rw[al (x:=(j:Int)+1) (by omega) (by omega),aa j]
   exact au (fun _=>pM (fun _=>dx _ trivial) fun _=>aw ⟨by omega,by omega⟩ (aw ⟨by omega,by omega⟩ (dx _ trivial))) fun _=>by omega
  ·rw[al (x:=(i:Int)+1) (by omega) (by omega),aa i]
   have hx:G 0 jP (l.getD (i:Int).toNat eB):=G.at h _
   exact au (fun _=>by omega) fun _=>bA (fun _=>aw ⟨by omega,by omega⟩ (aF (by rw[List.length_singleton];omega) (hr _ (G.cat hI (G.one hx (Nat.le_refl 1)))))) fun _=>hr s (G.mono (by omega) hI)
 ·exact au (fun _=>by omega) fun _=>ag (G.mono hl hI)
theorem Gh(N:Nat)(hN:5000000≤N)(c:ae){b:ah}{m:Nat}(hm:m≤50000)(hb:G m aB b)(id:Int):Ok (fun r=>G m aB r.1) (Mw N c b id):=by
 unfold Mw
 exact cm (dI N hN hm hb) (bA (fun _=>ag G.ff) fun _=>af (mq N (by omega) hm hb.1 _) fun _ _=>ok_eq (fun _=>ag G.ff) fun _=>af (Pz N (by omega) hm hb.2.1 _) fun a ha=>af (PA N (by omega) hm hb.2.2.2.2.2.1 ha) fun r hr=>ag ⟨hb.1,hb.2.1,hb.2.2.1,hb.2.2.2.1,hb.2.2.2.2.1,hr,trivial⟩)
theorem Gi(N:Nat)(hN:200000≤N){l:aE}{m:Nat}(hm:m≤50000)(h:G m (.slice df) l)(id:Int):Ok (fun r=>G m (.slice df) r) (lD N l id):=by
 have hl:=h.1
 unfold lD lD.b
 refine cm (q7 N (by omega) hN) (bA (fun _=>ag G.nil) fun _=>bh (len:=l.length) (F:=fun n i s=>lD.l5 N n l id s i) (fun i s=>G i (.slice df) s) G.nil (by omega) (fun n i s hi hI hr=> ?_) (fun n s hI=> ?_))
 all_goals unfold lD.l5 lD.dq
 ·have hs:=hI.1
  have hx:G 0 df (l.getD (i:Int).toNat aN):=G.at h _
  rw[al (x:=(i:Int)+1) (by omega) (by omega),aa i]
  exact au (fun _=>aw ⟨by omega,by omega⟩ (bI (fun _=>aw ⟨by omega,by omega⟩ (aF (by rw[List.length_singleton];omega) (hr _ (G.cat hI (G.one hx (Nat.le_refl 1)))))) fun _=>hr s (G.mono (by omega) hI))) fun _=>by omega
 ·exact au (fun _=>by omega) fun _=>ag (G.mono hl hI)
theorem My(N:Nat)(hN:200000≤N){l:a6}{m:Nat}(hm:m≤50000)(h:L6 m l)(a id:Int):Ok (fun r=>L6 m r.1) (nc N l a id):=by
 have hl:=h.1
 unfold nc nc.b
 refine cm (ke N (by omega) hN) (bA (fun _=>ag G.nil) fun _=>bh (len:=l.length) (F:=fun n i s=>nc.l5 N n l a id s i) (fun i s=>L6 i s) G.nil (by omega) (fun n i s hi hI hr=> ?_) (fun n s hI=> ?_))
 all_goals unfold nc.l5 nc.dq
 ·have hs:=hI.1
  have hx:G 0 jP (l.getD (i:Int).toNat eB):=G.at h _
  rw[al (x:=(i:Int)+1) (by omega) (by omega),aa i]
  have h1:=hr s (G.mono (by omega) hI)
  have h2:=hr _ (G.cat hI (G.one hx (Nat.le_refl 1)))
  repeat' first|exact h1|exact h2|refine aF (by rw[List.length_singleton];omega) ?_|refine aw ⟨by omega,by omega⟩ ?_|refine au (fun _=> ?_) (fun _=> ?_)|refine bI (fun _=> ?_) (fun _=> ?_)|(exfalso;omega)
 ·exact au (fun _=>by omega) fun _=>ok_eq (fun _=>ag G.nil) fun _=>ag (G.mono hl hI)
end VM
end
