/- A part of the proof of AwardBest of layer 25: what the functions compute, in plain words. -/
import Derived.Test.YtocmlaipoebfeaaGreatPlain3
set_option linter.all false
section
namespace VM
open Go VM.F
end VM
end
section
namespace VM
open Go VM.F
end VM
end
section
namespace VM
open Go VM.F
def zIn(z:Int×Int)(n:Nat):Prop:=0≤z.1∧z.1≤1000000000*(n:Int)∧0≤z.2∧z.2≤1000000000*(n:Int)
theorem zIn.mono{z:Int×Int}{n m:Nat}(h:zIn z n)(hm:n≤m):zIn z m:=by unfold zIn at*;omega
end VM
end
section
namespace VM
open Go VM.F
end VM
end
section
namespace VM
open Go VM.F
end VM
end
section
namespace VM
open Go VM.F
end VM
end
section
namespace VM
open Go VM.F
end VM
end
section
namespace VM
open Go VM.F
def qIn(q:Int):Prop:=1≤q∧q≤1000000000
instance(q:Int):Decidable (qIn q):=by unfold qIn;infer_instance
def ua(a b c d:Int):Prop:=(1≤a∧a≤1099511627776)∧(0≤b∧b<6)∧(c=1∨c=2)∧qIn d
instance(a b c d:Int):Decidable (ua a b c d):=by unfold ua;infer_instance
def xa(h:bp):Prop:=ua h.1 h.2.1 h.2.2.1 h.2.2.2.1
instance(h:bp):Decidable (xa h):=by unfold xa;infer_instance
theorem yN(N:Nat)(h:bp):QN N h=some (decide (xa h)):=by
 unfold QN
 rw[iL h.2.2.2.1]
 rw[dS,tx,uR,yc,dS,dS,dS]
 congr 1
 rw[Bool.eq_iff_iff,decide_eq_true_iff]
 unfold xa ua qIn
 simp only[Bool.and_eq_true,Bool.or_eq_true,Bool.not_eq_true',decide_eq_true_eq,decide_eq_false_iff_not]
 omega
end VM
end
section
namespace VM
open Go VM.F Go.RowKit
def hR:aj:=[((1:Int),((0:Int),((-90:Int),()))),((5:Int),((1:Int),((90:Int),())))]
def hS:aj:=[((0:Int),((0:Int),((5:Int),()))),((0:Int),((1:Int),((20:Int),()))),((1:Int),((0:Int),((-5:Int),()))),((1:Int),((1:Int),((-20:Int),())))]
def hB:ah:=([((1:Int),((1:Int),()))],([((1:Int),((1:Int),((1:Int),((50:Int),()))))],(hR,(hS,([(100:Int),(7:Int)],(cT,()))))))
namespace Pure
end Pure
end VM
end
section
namespace VM
open Go VM.F
def Ok{α:Type}(P:α→Prop)(o:Option α):Prop:= ∃r,o=some r∧P r
theorem ag{α:Type}{P:α→Prop}{r:α}(h:P r):Ok P (some r):=⟨r,rfl,h⟩
theorem af{α β:Type}{P:β→Prop}{Q:α→Prop}{o:Option α}{f:α→Option β}(h:Ok Q o)(hf: ∀r,Q r→Ok P (f r)):Ok P (o.bind f):=by
 obtain⟨r,rfl,hr⟩:=h
 exact hf r hr
theorem ky{α:Type}{P:α→Prop}{o:Option α}{r:α}(h:o=some r)(hr:P r):Ok P o:=⟨r,h,hr⟩
theorem nT{α:Type}{P:α→Prop}{b:Bool}{x y:Option α}(hx:b=true→Ok P x)(hy:b=false→Ok P y):Ok P (cond b x y):=by
 cases b
 ·exact hy rfl
 ·exact hx rfl
theorem bu{α:Type}{P:α→Prop}{b:Bool}{x y:Option α}(hx:b=false→Ok P x)(hy:b=true→Ok P y):Ok P (cond (!b) x y):=by
 cases b
 ·exact hx rfl
 ·exact hy rfl
theorem au{α:Type}{P:α→Prop}{a b:Int}{x y:Option α}(hx:a<b→Ok P x)(hy:b≤a→Ok P y):Ok P (cond (aM a b) x y):=by
 rw[bX]
 split
 ·exact hx (by assumption)
 ·exact hy (by omega)
theorem cZ{α:Type}{P:α→Prop}{a b:Int}{x y:Option α}(hx:a≤b→Ok P x)(hy:b<a→Ok P y):Ok P (cond (bS a b) x y):=by
 rw[bH]
 split
 ·exact hx (by assumption)
 ·exact hy (by omega)
theorem ok_eq{α:Type}{P:α→Prop}{a b:Int}{x y:Option α}(hx:a=b→Ok P x)(hy:a≠b→Ok P y):Ok P (cond (az a b) x y):=by
 rw[aG]
 split
 ·exact hx (by assumption)
 ·exact hy (by assumption)
theorem bq{α:Type}{P:α→Prop}{a b:Int}{x y:Option α}(hx:a≠b→Ok P x)(hy:a=b→Ok P y):Ok P (cond (!az a b) x y):=by
 rw[cond_not];exact ok_eq hy hx
theorem ar{α:Type}{P:α→Prop}{i:Int}{n:Nat}{x y:Option α}(h:0≤i∧i<(n:Int))(hx:Ok P x):Ok P (cond (aL i n) x y):=by
 rw[aN h.1 h.2];exact hx
theorem aE{α:Type}{P:α→Prop}{n:Nat}{x y:Option α}(h:n<68719476736)(hx:Ok P x):Ok P (cond (small n) x y):=by
 rw[bB h];exact hx
theorem QO{α:Type}{P:α→Prop}{l c:Int}{x y:Option α}(h:0≤l∧l≤c∧c<68719476736)(hx:Ok P x):Ok P (cond (fK l c) x y):=by
 rw[bG h.1 h.2.1 h.2.2];exact hx
theorem Cd{α:Type}{P:α→Prop}{l h m n:Int}{x y:Option α}(hh:0≤l∧l≤h∧h≤m∧m≤n)(hx:Ok P x):Ok P (cond (fi l h m n) x y):=by
 rw[cj hh.1 hh.2.1 hh.2.2.1 hh.2.2.2];exact hx
theorem gr{σ β:Type}{P:β→Prop}{F:Nat→Int→σ→Option β}{len:Nat}(I:Nat→σ→Prop)
  (hs: ∀n i s,i<len→I i s→(∀s',I (i+1) s'→Ok P (F n ((i+1:Nat):Int) s'))→Ok P (F (n+1) (i:Int) s)) (he: ∀n s,I len s→Ok P (F (n+1) (len:Int) s)):
  ∀m n i s,len-i≤m→m<n→i≤len→I i s→Ok P (F n (i:Int) s)
 |m,0,i,s,_,hn,_,_=>by omega
 |m,n+1,i,s,hm,hn,hi,hI=>by
  by_cases h:i<len
  ·exact hs n i s h hI fun s' rK=>gr I hs he (m-1) n (i+1) s' (by omega) (by omega) (by omega) rK
  ·have:i=len:=by omega
   subst this
   exact he n s hI
theorem bb{σ β:Type}{P:β→Prop}{F:Nat→Int→σ→Option β}{len:Nat}(I:Nat→σ→Prop){N:Nat}{s:σ}(h0:I 0 s)(hN:len<N)
  (hs: ∀n i s,i<len→I i s→(∀s',I (i+1) s'→Ok P (F n ((i+1:Nat):Int) s'))→Ok P (F (n+1) (i:Int) s)) (he: ∀n s,I len s→Ok P (F (n+1) (len:Int) s)):Ok P (F N 0 s):=
 gr I hs he len N 0 s (by omega) hN (by omega) h0
theorem g5{β:Type}{P:β→Prop}{F:Nat→Int→Option β}{len N:Nat}(hN:len<N)
  (hs: ∀n i,i<len→Ok P (F n ((i+1:Nat):Int))→Ok P (F (n+1) (i:Int))) (he: ∀n,Ok P (F (n+1) (len:Int))):Ok P (F N 0):=
 bb (σ:=Unit) (F:=fun n i _=>F n i) (fun _ _=>True) (s:=()) trivial hN (fun n i _ h _ hr=>hs n i h (hr () trivial)) fun n _ _=>he n
theorem xb{σ β:Type}{P:β→Prop}{F:Nat→Int→σ→Option β}(I:Nat→σ→Prop)
  (hs: ∀n (k:Nat) s,I (k+1) s→(∀s',I k s'→Ok P (F n (k:Int) s'))→Ok P (F (n+1) ((k+1:Nat):Int) s)) (he: ∀n s,I 0 s→Ok P (F (n+1) 0 s)):
  ∀(k n:Nat) s,k<n→I k s→Ok P (F n (k:Int) s)
 |0,0,s,hn,_=>by omega
 |0,n+1,s,hn,hI=>he n s hI
 |k+1,0,s,hn,_=>by omega
 |k+1,n+1,s,hn,hI=>hs n k s hI fun s' rK=>xb I hs he k n s' (by omega) rK
def G(m:Nat):(τ:Ty)→τ.den→Prop
 | .int .i64,x=>aD x
 | .int .u64,x=>0≤x∧x<18446744073709551616
 | .slice e,l=>List.length l≤m∧ ∀x∈(l:List e.den),G m e x
 | .pair a b,x=>G m a x.1∧G m b x.2
 |_,_=>True
theorem G.mono{m n:Nat}(h:m≤n): ∀{τ:Ty} {x:τ.den},G m τ x→G n τ x
 | .int k,x,hx=>by cases k<;>exact hx
 | .slice e,l,hl=>⟨Nat.le_trans hl.1 h,fun x hx=>G.mono h (hl.2 x hx)⟩
 | .pair a b,x,hx=>⟨G.mono h hx.1,G.mono h hx.2⟩
 | .bool,_,_=>trivial
 | .str,_,_=>trivial
 | .unit,_,_=>trivial
 | .arr _ _,_,_=>trivial
theorem G.nil{m:Nat}{e:Ty}:G m (.slice e) ([]:List e.den):=⟨Nat.zero_le _,fun x hx=>nomatch hx⟩
theorem G.app{m:Nat}{e:Ty}{l:List e.den}{x:e.den}(h:G m (.slice e) l)(hx:G m e x):G (m+1) (.slice e) (l++[x]):=
 ⟨by have:=h.1;rw[List.length_append,List.length_singleton];omega,fun y hy=>by
  rcases List.mem_append.1 hy with hy|hy
  ·exact G.mono (by omega) (h.2 y hy)
  ·rw[List.mem_singleton.1 hy];exact G.mono (by omega) hx⟩
theorem G.get{m:Nat}{e:Ty}{l:List e.den}{d:e.den}(h:G m (.slice e) l)(hd:G m e d)(k:Nat):G m e (l.getD k d):=by
 by_cases hk:k<l.length
 ·rw[List.getD_eq_getElem?_getD,List.getElem?_eq_getElem hk];exact h.2 _ (List.getElem_mem hk)
 ·rw[List.getD_eq_getElem?_getD,List.getElem?_eq_none (by omega)];exact hd
theorem G.zero(m:Nat): ∀τ:Ty,G m τ τ.zero
 | .int k=>by cases k<;>first|trivial|exact⟨by decide,by decide⟩
 | .slice _=>G.nil
 | .pair a b=>⟨G.zero m a,G.zero m b⟩
 | .bool=>trivial
 | .str=>trivial
 | .unit=>trivial
 | .arr _ _=>trivial
theorem G.at{m:Nat}{e:Ty}{l:List e.den}(h:G m (.slice e) l)(k:Nat):G m e (l.getD k e.zero):=h.get (G.zero m e) k
theorem G.set{m:Nat}{e:Ty}{l:List e.den}{x:e.den}(h:G m (.slice e) l)(hx:G m e x)(k:Nat):G m (.slice e) (l.set k x):=
 ⟨by rw[List.length_set];exact h.1,fun y hy=>by
  rcases List.mem_or_eq_of_mem_set hy with hy|rfl
  ·exact h.2 y hy
  ·exact hx⟩
theorem dy(x:Int):aD (W .i64 x):=by
 rw[jA];unfold aD;split<;>omega
def Bg(k:Nat)(z:aw):Prop:= ∃v,z=cn v∧Fit v k
theorem Bg.mono{j k:Nat}{z:aw}(h:Bg j z)(hk:j≤k):Bg k z:=by
 obtain⟨v,e,f⟩:=h
 exact⟨v,e,Fit.mono f hk⟩
theorem Bg.zero:Bg 1 (false,(([]:List Int),())):=⟨0,jC.symm,by unfold Fit;decide⟩
theorem aX(N:Nat)(hN:4000000≤N){x:Int}(h:aD x):Ok (Bg 2) (fT N x):=ky (iU N (by omega) h.1 h.2) ⟨x,rfl,Fit.i64 h.1 h.2⟩
theorem gu(N:Nat)(hN:4000000≤N){k:Nat}(hk:k≤90000){u v:aw}(hu:Bg k u)(hv:Bg k v):Ok (Bg (k+1)) (ur N u v):=by
 obtain⟨a,rfl,ha⟩:=hu
 obtain⟨b,rfl,hb⟩:=hv
 exact ky (jU N hN (Fit.mono ha (by omega)) (Fit.mono hb (by omega))) ⟨_,rfl,Fit.add ha hb⟩
theorem ub(N:Nat)(hN:4000000≤N){k:Nat}(hk:k≤90000){u v:aw}(hu:Bg k u)(hv:Bg k v):Ok (Bg (k+1)) (IQ N u v):=by
 obtain⟨a,rfl,ha⟩:=hu
 obtain⟨b,rfl,hb⟩:=hv
 exact ky (q3 N hN (Fit.mono ha (by omega)) (Fit.mono hb (by omega))) ⟨_,rfl,by rw[Int.sub_eq_add_neg];exact Fit.add ha (Fit.neg hb)⟩
theorem ou(N:Nat)(hN:4000000≤N){k:Nat}(hk:k≤90000){u:aw}(hu:Bg k u):Ok (Bg k) (Lp N u):=by
 obtain⟨a,rfl,ha⟩:=hu
 exact ky (qZ N hN (Fit.mono ha (by omega))) ⟨_,rfl,Fit.neg ha⟩
theorem qF(N:Nat)(hN:4000000≤N){k:Nat}(hk:k≤90000){u:aw}(hu:Bg k u):Ok (Bg k) (MM N u):=by
 obtain⟨a,rfl,ha⟩:=hu
 exact ky (ML N hN (Fit.mono ha (by omega))) ⟨_,rfl,Fit.of_le ha (by omega)⟩
theorem jh(N:Nat)(hN:4000000≤N){j k:Nat}(hj:j≤90000)(hk:k≤90000){u v:aw}(hu:Bg j u)(hv:Bg k v):Ok (Bg (j+k)) (fF N u v):=by
 obtain⟨a,rfl,ha⟩:=hu
 obtain⟨b,rfl,hb⟩:=hv
 exact ky (DW N hN (Fit.mono ha hj) (Fit.mono hb hk)) ⟨_,rfl,Fit.mul ha hb⟩
theorem xc(N:Nat){k:Nat}{u:aw}(hu:Bg k u):Ok (fun _=>True) (IS N u):=by
 obtain⟨a,rfl,ha⟩:=hu
 exact ky (oP N a) trivial
theorem nU(N:Nat)(hN:4000000≤N){j k:Nat}(hj:j≤90000)(hk:k≤90000){u v:aw}(hu:Bg j u)(hv:Bg k v):Ok (fun _=>True) (Gp N u v):=by
 obtain⟨a,rfl,ha⟩:=hu
 obtain⟨b,rfl,hb⟩:=hv
 exact ky (GX N hN (Fit.mono ha (by omega)) (Fit.mono hb (by omega))) trivial
theorem Hw(v:Int):aD (zN v).1:=by
 by_cases h:aD v
 ·rw[BW h];exact h
 ·rw[BX h];unfold aD;decide
theorem sH(N:Nat){k:Nat}{u:aw}(hu:Bg k u):Ok (fun r=>aD r.1) (qm N u):=by
 obtain⟨a,rfl,ha⟩:=hu
 exact ky (ql N a) (Hw a)
end VM
end
section
namespace VM
open Go VM.F
abbrev L3(m:Nat)(l:aj):Prop:=G m (.slice fI) l
def fJ(m:Nat)(p:bk):Prop:=p.length≤m∧ ∀y∈p,Bg 8 y.2.2.1
theorem fJ.at{m:Nat}{p:bk}(h:fJ m p)(i:Nat):Bg 8 (p.getD i ((0:Int),((0:Int),((false,kY),())))).2.2.1:=by
 by_cases hk:i<p.length
 ·rw[List.getD_eq_getElem?_getD,List.getElem?_eq_getElem hk];exact h.2 _ (List.getElem_mem hk)
 ·rw[List.getD_eq_getElem?_getD,List.getElem?_eq_none (by omega)];exact Bg.mono Bg.zero (by decide)
theorem fJ.nil{m:Nat}:fJ m []:=⟨Nat.zero_le _,fun x hx=>nomatch hx⟩
theorem fJ.app{m n:Nat}{p q:bk}(h:fJ m p)(h':fJ n q):fJ (m+n) (p++q):=
 ⟨by have:=h.1;have:=h'.1;rw[List.length_append];omega,fun y hy=>(List.mem_append.1 hy).elim (h.2 y) (h'.2 y)⟩
theorem fJ.mono{m n:Nat}{p:bk}(h:fJ m p)(hm:m≤n):fJ n p:=⟨Nat.le_trans h.1 hm,h.2⟩
theorem vV(N:Nat){k:Nat}{u:aw}(hu:Bg k u):Ok (fun r=>aD r.1) (NF N u):=by
 unfold NF
 refine af (sH N hu) fun r h=>bu (fun _=>ag (by unfold aD;decide)) fun _=>ok_eq (fun _=>ag (by unfold aD;decide)) fun _=>ag h
theorem fc{x:Int}(h0: -1000000≤x)(h1:x≤1000000):aD x:=by unfold aD;omega
theorem G3{m:Nat}{a b c:Int}(ha:aD a)(hb:aD b)(hc:aD c):G m fI (a,(b,(c,()))):=⟨ha,hb,hc,trivial⟩
theorem aT:aD 0:=by unfold aD;decide
theorem KJ(N:Nat)(hN:4000000≤N){x k n:Int}{p:bk}(hx:aD x)(hp:fJ 50000 p):Ok (fun r=>aD r.1) (nV N x k n p):=by
 have hl:=hp.1
 refine bb (len:=p.length) (F:=fun n' i (s:aw×Bool)=>nV.l3 N n' x k n p s.1 s.2 i) (s:=(_,_)) (fun i s=>Bg (8+i) s.1) (Bg.mono Bg.zero (by omega)) (by omega) (fun n' i s hi hI hr=> ?_) (fun n' s hI=> ?_)
 all_goals unfold nV.l3 nV.iE
 ·rw[aq (x:=(i:Int)+1) (by omega) (by omega),ae i]
  have h1:=hr (s.1,s.2) (Bg.mono hI (by omega))
  repeat' first|exact h1|refine ar ⟨by omega,by omega⟩ ?_|refine au (fun _=> ?_) (fun _=> ?_)|refine ok_eq (fun _=> ?_) (fun _=> ?_)|(exfalso;omega)|exact af (gu N hN (by omega) hI (Bg.mono (hp.at _) (by omega))) fun r h=>hr (r,true) h
 ·refine au (fun _=>by omega) fun _=>bu (fun _=>ag hx) fun _=>af (aX N hN hx) fun r h=>af (gu N hN (by omega) hI (Bg.mono h (by omega))) fun r h=>af (sH N h) fun r h=>ag h
theorem QP(N:Nat)(hN:4000000≤N){l:aj}{p:bk}{m:Nat}(hm:m≤50000)(hl:L3 m l)(hp:fJ 50000 p):Ok (fun r=>L3 200 r.1) (c0 N l p):=by
 have JK:=hl.1
 refine gr (len:=8) (F:=fun n k (s:aj×Int)=>c0.l4 N n l p s.1 s.2 k) (fun i s=>L3 (25*i) s.1∧0≤s.2) (fun n i s hi hI hr=> ?_) (fun n s hI=> ?_) 8 N 1 (_,_) (by omega) (by omega) (by omega) ⟨G.nil,Int.le_refl 0⟩
 all_goals unfold c0.l4 c0.cL
 ·refine cZ (fun _=> ?_) (fun _=>by omega)
  refine bb (len:=25) (F:=fun n' j (s:aj×Int)=>c0.l7 N (c0.l4 N n) n' l p s.1 s.2 (i:Int) j) (s:=s) (fun j s=>L3 (25*i+j) s.1∧0≤s.2) hI (by omega) (fun n' j s hj hI dA=> ?_) (fun n' s hI=> ?_)
  all_goals unfold c0.l7 c0.ns
  ·have gC: ∀(k x:Int),0≤k→aD x→Ok (fun r=>L3 200 r.1) (c0.NG N (c0.l4 N n) (c0.l7 N (c0.l4 N n) n') l p s.1 k (i:Int) (j:Int) x):=fun k x hk hx=>by
    unfold c0.NG c0.Hy
    rw[aq (x:=(j:Int)+1) (by omega) (by omega),ae j]
    have hs:=hI.1.1
    refine af (KJ N hN hx hp) fun r h=>bu (fun _=>ag G.nil) fun _=>bq (fun _=>aE (by rw[List.length_singleton];omega) (dA (_,k) ⟨G.app hI.1 (G3 (fc (by omega) (by omega)) (fc (by omega) (by omega)) h),hk⟩)) fun _=>dA (s.1,k) ⟨G.mono (by omega) hI.1,hk⟩
   have h0:=gC s.2 0 hI.2 aT
   have VC:=hI.2
   repeat' first|exact h0|refine ar ⟨by omega,by omega⟩ ?_|refine au (fun _=> ?_) (fun _=> ?_)|refine cZ (fun _=> ?_) (fun _=> ?_)|refine ok_eq (fun _=> ?_) (fun _=> ?_)|(exfalso;omega)|exact gC _ _ (by rw[aq (x:=s.2+1) (by omega) (by omega)];omega) (G.at hl _).2.2.1
  ·rw[aq (x:=(i:Int)+1) (by omega) (by omega),ae i]
   exact cZ (fun _=>by omega) fun _=>hr s ⟨G.mono (by omega) hI.1,hI.2⟩
 ·exact cZ (fun _=>by omega) fun _=>ag (G.mono (by decide) hI.1)
theorem Hz(N:Nat)(hN:4000000≤N){l t:aj}{m:Nat}(hm:m≤50000)(hl:L3 m l)(ht:L3 50000 t):Ok (fun r=>L3 200 r.1) (bT N l t):=by
 have JK:=hl.1
 have htl:=ht.1
 refine bb (len:=25) (F:=fun n k (s:aj×Int)=>bT.l4 N n l t s.1 s.2 k) (s:=(_,_)) (fun i s=>L3 (6*i) s.1∧0≤s.2) ⟨G.nil,Int.le_refl 0⟩ (by omega) (fun n i s hi hI hr=> ?_) (fun n s hI=> ?_)
 all_goals unfold bT.l4 bT.cL
 ·refine cZ (fun _=> ?_) (fun _=>by omega)
  refine bb (len:=6) (F:=fun n' j (s:aj×Int)=>bT.l7 N (bT.l4 N n) n' l t s.1 s.2 (i:Int) j) (s:=s) (fun j s=>L3 (6*i+j) s.1∧0≤s.2) hI (by omega) (fun n' j s hj hI dA=> ?_) (fun n' s hI=> ?_)
  all_goals unfold bT.l7 bT.ns
  ·have gC: ∀(k x:Int),0≤k→aD x→Ok (fun r=>L3 200 r.1) (bT.NG N (bT.l4 N n) (bT.l7 N (bT.l4 N n) n') l t s.1 k (i:Int) (j:Int) x false):=fun k x hk hx=>by
    unfold bT.NG bT.Hy
    have hs:=hI.1.1
    have s7: ∀y:Int,aD y→Ok (fun r=>L3 200 r.1) (cond (!az y 0) (cond (small (s.1.length+[(((i:Int),((j:Int),(y,()))):cy)].length)) (bT.l7 N (bT.l4 N n) n' l t (s.1++[((i:Int),((j:Int),(y,())))]) k (i:Int) (W .i64 ((j:Int)+1))) none) (bT.l7 N (bT.l4 N n) n' l t s.1 k (i:Int) (W .i64 ((j:Int)+1)))):=fun y hy=>by
     rw[aq (x:=(j:Int)+1) (by omega) (by omega),ae j]
     exact bq (fun _=>aE (by rw[List.length_singleton];omega) (dA (_,k) ⟨G.app hI.1 (G3 (fc (by omega) (by omega)) (fc (by omega) (by omega)) hy),hk⟩)) fun _=>dA (s.1,k) ⟨G.mono (by omega) hI.1,hk⟩
    refine bb (len:=t.length) (F:=fun A2 u (z:aw×Bool)=>bT.KK N (bT.l4 N n) (bT.l7 N (bT.l4 N n) n') A2 l t s.1 k (i:Int) (j:Int) x z.2 z.1 u) (s:=(_,_)) (fun u z=>Bg (3+u) z.1) (Bg.mono Bg.zero (by omega)) (by omega) (fun A2 u z hu hz NH=> ?_) (fun A2 z hz=> ?_)
    all_goals unfold bT.KK bT.HA
    ·rw[aq (x:=(u:Int)+1) (by omega) (by omega),ae u]
     have h1:=NH (z.1,z.2) (Bg.mono hz (by omega))
     repeat' first|exact h1|refine ar ⟨by omega,by omega⟩ ?_|refine au (fun _=> ?_) (fun _=> ?_)|refine ok_eq (fun _=> ?_) (fun _=> ?_)|(exfalso;omega)|exact af (aX N hN (G.at ht _).2.2.1) fun r h=>af (gu N hN (by omega) hz (Bg.mono h (by omega))) fun r h=>NH (r,true) h
    ·exact au (fun _=>by omega) fun _=>nT (fun _=>af (aX N hN hx) fun r h=>af (gu N hN (by omega) hz (Bg.mono h (by omega))) fun r h=>af (vV N h) fun r h=>bu (fun _=>ag G.nil) fun _=>s7 _ h) fun _=>s7 _ hx
   have h0:=gC s.2 0 hI.2 aT
   have VC:=hI.2
   repeat' first|exact h0|refine ar ⟨by omega,by omega⟩ ?_|refine au (fun _=> ?_) (fun _=> ?_)|refine cZ (fun _=> ?_) (fun _=> ?_)|refine ok_eq (fun _=> ?_) (fun _=> ?_)|(exfalso;omega)|exact gC _ _ (by rw[aq (x:=s.2+1) (by omega) (by omega)];omega) (G.at hl _).2.2.1
  ·rw[aq (x:=(i:Int)+1) (by omega) (by omega),ae i]
   exact au (fun _=>by omega) fun _=>hr s ⟨G.mono (by omega) hI.1,hI.2⟩
 ·exact cZ (fun _=>by omega) fun _=>ag (G.mono (by decide) hI.1)
theorem G.eR{m:Nat}:G m aC (aV,(cm,(bh,(bh,(cK,(cT,())))))):=G.zero m aC
theorem nI(N:Nat)(hN:4000000≤N){b:ah}{s:aj}{p:bk}{m:Nat}(h2:200≤m)(hm:m≤50000)(hb:G m aC b)(hs:L3 50000 s)(hp:fJ 50000 p):Ok (fun r=>G m aC r.1) (yO N b s p):=by
 unfold yO
 exact af (Hz N hN hm hb.2.2.2.1 hs) fun r h=>bu (fun _=>ag G.eR) fun _=>af (QP N hN hm hb.2.2.1 hp) fun r' h'=>bu (fun _=>ag G.eR) fun _=>ag ⟨hb.1,hb.2.1,G.mono h2 h',G.mono h2 h,hb.2.2.2.2⟩
end VM
end
section
namespace VM
open Go VM.F
theorem b8{α β:Type}{P:β→Prop}{o:Option α}{r:α}{f:α→Option β}(h:o=some r)(hf:Ok P (f r)):Ok P (o.bind f):=by rw[h];exact hf
theorem G.wf{m:Nat}(hm:m≤50000){b:ah}(h:G m aC b):B3 b:=by
 obtain⟨h1,h2,h3,h4,h5,h6,_⟩:=h
 exact⟨⟨Nat.le_trans h1.1 (by omega),Nat.le_trans h2.1 (by omega),Nat.le_trans h3.1 (by omega),Nat.le_trans h4.1 (by omega),Nat.le_trans h5.1 (by omega),Nat.le_trans h6.1 (by omega),fun x hx=>(h3.2 x hx).2.2.1,fun x hx=>(h4.2 x hx).2.2.1⟩,Nat.le_trans h3.1 (by omega),Nat.le_trans h4.1 (by omega)⟩
theorem dw(N:Nat)(hN:5000000≤N){c:aa}{b:ah}{m:Nat}(hm:m≤50000)(h:G m aC b):bD N c b=some (dT c b):=M4 N hN (G.wf hm h).w
theorem QQ{x:Int}(h:jW x):aD x:=by unfold jW at h;unfold aD;omega
theorem zV(N:Nat)(hN:4000000≤N)(t:tV)(p:Int):Ok (fun r=>fJ 2 r.1) (QR N t p):=by
 unfold QR
 refine b8 (AN N t) (bu (fun _=>ag fJ.nil) fun ht=>b8 (iz N p) (bu (fun _=>ag fJ.nil) fun _=>af (aX N hN (dy _)) fun a ha=>af (aX N hN ?_) fun q hq=>af (jh N hN (by omega) (by omega) ha hq) fun x hx=>af (xc N hx) fun _ _=>ok_eq (fun _=>ag fJ.nil) fun _=> ?_))
 ·have:=of_decide_eq_true ht
  unfold q9 jf at this
  exact Int.le_trans (by decide) this.2.2.2.2.1.1 |> fun h=>⟨h,Int.lt_of_le_of_lt this.2.2.2.2.1.2 (by decide)⟩
 ·unfold HB
  have hr: ∀a:Int,Ok (fun _=>True) (cond (az a 0) (some ((2:Int),(0:Int))) (some ((5:Int),a))):=fun a=>ok_eq (fun _=>ag trivial) fun _=>ag trivial
  refine af (hr _) fun _ _=>af (hr _) fun _ _=>af (ou N hN (by omega) hx) fun y hy=>ag ⟨Nat.le_refl 2,fun z hz=> ?_⟩
  rcases List.mem_cons.1 hz with rfl|hz
  ·exact Bg.mono hx (by omega)
  ·rw[List.mem_singleton.1 hz];exact Bg.mono hy (by omega)
theorem Ev(N:Nat)(hN:200000≤N){b:ah}{m:Nat}(hm:m≤50000)(h:G m aC b)(id:Int):Ok (fun _=>True) (BV N b id):=ky (tI N b (G.wf hm h).w.a hN id) trivial
theorem A3(N:Nat)(hN:5000000≤N)(c:aa){b:ah}{l:bg}{m:Nat}(h2:200≤m)(hm:m≤50000)(hb:G m aC b):Ok (fun r=>G m aC r.1) (fe N c b l):=by
 unfold fe fe.b
 refine b8 (dw N hN hm hb) (bu (fun _=>ag G.eR) fun hB=>au (fun _=>ag G.eR) fun hl=> ?_)
 obtain⟨hp,_⟩:=gT hB
 refine bb (len:=l.length) (F:=fun n i (_:Unit)=>fe.l4 N n l c b (aV,(cm,(bh,(bh,(cK,(cT,())))))) i) (s:=()) (fun i _=> ∀j,j<i→q9 (l.getD j jv)) (fun j hj=>by omega) (by omega) (fun n i _ hi hI hr=> ?_) (fun n _ hI=> ?_)
 all_goals unfold fe.l4 fe.cL
 ·rw[aq (x:=(i:Int)+1) (by omega) (by omega),ae i]
  refine au (fun _=>ar ⟨by omega,by omega⟩ (b8 (AN N _) (bu (fun _=>ag G.eR) fun ht=>hr () fun j hj=> ?_))) fun _=>by omega
  by_cases e:j=i
  ·rw[e];exact of_decide_eq_true ht
  ·exact hI j (by omega)
 ·refine au (fun _=>by omega) fun _=> ?_
  refine bb (len:=l.length) (F:=fun n i (s:aj×bk)=>fe.A4 N n l c b (aV,(cm,(bh,(bh,(cK,(cT,())))))) s.1 s.2 i) (s:=(_,_)) (fun i s=>L3 (2*i) s.1∧fJ (2*i) s.2) ⟨G.nil,fJ.nil⟩ (by omega) (fun n i s hi hJ hr=> ?_) (fun n s hJ=> ?_)
  all_goals unfold fe.A4 fe.yP
  ·have ht:=hI i hi
   unfold q9 jf at ht
   have Iu:=hJ.1.1
   have VC:=hJ.2.1
   have g64: ∀x:Int,0≤x∧x≤1000000→aD x:=fun x h=>fc (by omega) (by omega)
   dsimp only
   rw[aq (x:=(i:Int)+1) (by omega) (by omega),ae i,Int.toNat_natCast]
   refine au (fun _=>ar ⟨by omega,by omega⟩ (af (Ev N (by omega) hm hb _) fun _ _=>bu (fun _=>ag G.eR) fun _=>af (Ev N (by omega) hm hb _) fun _ _=>bu (fun _=>ag G.eR) fun _=>cZ (fun _=>ag G.eR) fun dF=>aE ?_ (ar ⟨ht.2.2.2.1.1,by omega⟩ (af (zV N (by omega) _ _) fun r h=>aE ?_ (hr (_,_) ⟨?_,fJ.mono (fJ.app hJ.2 h) (by omega)⟩))))) fun _=>by omega
   ·rw[List.length_cons,List.length_singleton];omega
   ·have:=h.1;omega
   ·have hq:aD (l.getD i jv).2.2.2.1:=⟨Int.le_trans (by decide) ht.2.2.2.2.1.1,Int.lt_of_le_of_lt ht.2.2.2.2.1.2 (by decide)⟩
    have j2:aD (l.getD i jv).2.2.1:=g64 _ ⟨ht.2.2.2.1.1,Int.le_trans (Int.le_of_lt ht.2.2.2.1.2) (by decide)⟩
    have h1:=G.app (G.app hJ.1 (G3 (g64 _ ⟨ht.1.1,Int.le_trans ht.1.2 (by decide)⟩) j2 hq)) (G3 (g64 _ ⟨ht.2.1.1,Int.le_trans ht.2.1.2 (by decide)⟩) j2 (dy (0-(l.getD i jv).2.2.2.1)))
    rw[List.append_assoc]at h1
    exact G.mono (by omega) h1
  ·exact au (fun _=>by omega) fun _=>af (nI N (by omega) h2 hm hb (G.mono (by omega) hJ.1) (fJ.mono hJ.2 (by omega))) fun r h=>ag h
end VM
end
section
namespace VM
open Go VM.F
def zW(k:Nat)(l:kz):Prop:= ∀x∈l,Bg k x
theorem zW.mono{j k:Nat}{l:kz}(h:zW j l)(hk:j≤k):zW k l:=fun x hx=>Bg.mono (h x hx) hk
theorem zW.at{k:Nat}{l:kz}(h:zW k l)(h1:1≤k)(i:Nat):Bg k (l.getD i (false,kY)):=by
 by_cases hk:i<l.length
 ·rw[List.getD_eq_getElem?_getD,List.getElem?_eq_getElem hk];exact h _ (List.getElem_mem hk)
 ·rw[List.getD_eq_getElem?_getD,List.getElem?_eq_none (by omega)];exact Bg.mono Bg.zero h1
theorem zW.set{k:Nat}{l:kz}{x:aw}(h:zW k l)(hx:Bg k x)(i:Nat):zW k (l.set i x):=fun y hy=>by
 rcases List.mem_or_eq_of_mem_set hy with hy|rfl
 ·exact h y hy
 ·exact hx
theorem zW.rep{k n:Nat}(h:1≤k):zW k (List.replicate n (false,kY)):=fun x hx=>by
 rw[(List.mem_replicate.1 hx).2];exact Bg.mono Bg.zero h
theorem QS(N:Nat)(hN:5000000≤N)(c:aa){b:ah}{m:Nat}(hm:m≤50000)(hb:G m aC b):Ok (fun r=>(r.2=0→dT c b=true∧r.1.length=4)∧zW 20 r.1) (mw N c b):=by
 unfold mw mw.b
 have w:=(G.wf hm hb).w
 refine b8 (dw N hN hm hb) (bu (fun _=>ag ⟨fun h=>absurd h (by decide),fun x hx=>nomatch hx⟩) fun hB=>QO ⟨by omega,by omega,by omega⟩ ?_)
 obtain⟨hp,hpr⟩:=gT hB
 obtain⟨h6,hbk⟩:=vP (o8 hB)
 refine bb (len:=c.1.length) (F:=fun n i (s:kz)=>mw.l5 N n c b s i) (fun i s=>s.length=4∧zW (8+i) s) ⟨List.length_replicate ..,zW.rep (by omega)⟩ (by omega) (fun n i s hi hI hr=> ?_) (fun n s hI=> ?_)
 all_goals unfold mw.l5 mw.dd
 ·have hk:=hbk i hi
  have hl:=hI.1
  rw[aq (x:=(i:Int)+1) (by omega) (by omega),ae i,Int.toNat_natCast]
  have in1: ∀{x y:Option (kz×Int)},Ok (fun r=>(r.2=0→dT c b=true∧r.1.length=4)∧zW 20 r.1) x→Ok (fun r=>(r.2=0→dT c b=true∧r.1.length=4)∧zW 20 r.1) (cond (aL (c.1.getD i aA).1 s.length) x y):=fun h=>ar ⟨hk.1,Int.lt_of_le_of_lt hk.2 (show(3:Int)<(s.length:Int)by omega)⟩ h
  exact au (fun _=>ar ⟨by omega,by omega⟩ (in1 (b8 (w9 N w.s (by omega) 0 (i:Int)) (af (aX N (by omega) (Nv w.qs 0 (i:Int))) fun a ha=>ar ⟨by omega,by omega⟩ (af (aX N (by omega) (QQ (Ej hpr (by omega)))) fun p hp=>af (jh N (by omega) (by omega) (by omega) ha hp) fun x hx=>af (gu N (by omega) (by omega) (zW.at hI.2 (by omega) _) (Bg.mono hx (by omega))) fun y hy=>in1 (hr _ ⟨by rw[List.length_set];exact hl,zW.set (zW.mono hI.2 (by omega)) hy _⟩)))))) fun _=>by omega
 ·exact au (fun _=>by omega) fun _=>ag ⟨fun _=>⟨hB,hI.1⟩,zW.mono hI.2 (by omega)⟩
theorem KL(N:Nat)(hN:5000000≤N)(c:aa)(hc:aD (ah1 c)){b:ah}{m:Nat}(hm:m≤50000)(hb:G m aC b)(next:Int):Ok (fun r=>G 4 (.slice cF) r.1) (pf N c b next):=by
 unfold pf pf.b
 refine af (QS N hN c hm hb) fun z hz=>bq (fun _=>ag G.nil) fun h0=>au (fun _=>ag G.nil) fun h1=>au (fun _=>ag G.nil) fun h2=> ?_
 obtain⟨hB,hl4⟩:=hz.1 h0
 obtain⟨hp,hpr⟩:=gT hB
 obtain⟨h6,hbk⟩:=vP (o8 hB)
 refine bb (len:=4) (F:=fun n k (s:Int×ay)=>pf.l6 N n s.1 c b z.1 s.2 k) (s:=(_,_)) (fun k s=>G k (.slice cF) s.2∧next≤s.1∧s.1≤next+k) ⟨G.nil,by omega,by omega⟩ (by omega) (fun n k s hk hI hr=> ?_) (fun n s hI=> ?_)
 all_goals unfold pf.l6 pf.n4
 ·have Iu:=hI.1.1
  have VC:=hI.2
  rw[aq (x:=(k:Int)+1) (by omega) (by omega),ae k]
  have nn:=hr s ⟨G.mono (by omega) hI.1,by omega,by omega⟩
  refine au (fun _=>b8 (Ho N (by omega) c (by omega) (k:Int)) (ar ⟨by omega,by omega⟩ (af (qF N (by omega) (by omega) (zW.at hz.2 (by omega) _)) fun u hu=>ok_eq (fun _=>nn) fun gG=>af (aX N (by omega) hc) fun v hv=>af (nU N (by omega) (by omega) (by omega) hu hv) fun _ _=>cZ (fun _=>nn) fun _=> ?_))) fun _=>by omega
  have acV:eO c (k:Int)≠[]:=fun e=>gG (by rw[e];rfl)
  have hh:0≤(eO c (k:Int)).getD 0 0∧(eO c (k:Int)).getD 0 0<(c.1.length:Int):=by
   have h1:=acV
   unfold eO at h1 ⊢
   rw[o8 hB,if_pos rfl]at h1 ⊢
   have:=vU h1
   omega
  have hl0:0<(eO c (k:Int)).length:=List.length_pos_iff.2 acV
  have hpx:=Ej hpr (i:=((eO c (k:Int)).getD 0 0).toNat) (by omega)
  have hj: ∀q:Int,aD q→Ok (fun r=>G 4 (.slice cF) r.1) (pf.zX N (pf.l6 N n) s.1 c b z.1 s.2 (k:Int) (eO c (k:Int)) q):=fun q hq=>by
   unfold pf.zX pf.sI
   rw[aq (x:=(k:Int)+1) (by omega) (by omega),ae k,aq (x:=s.1+1) (by omega) (by omega)]
   have s7: ∀d:Int,aD d→Ok (fun r=>G 4 (.slice cF) r.1) (cond (small (s.2.length+[((s.1,((eO c (k:Int)).getD 0 0,(d,(q,())))):bp)].length)) (pf.l6 N n (s.1+1) c b z.1 (s.2++[(s.1,((eO c (k:Int)).getD 0 0,(d,(q,()))))]) ((k+1:Nat):Int)) none):=fun d hd=>
    aE (by rw[List.length_singleton];omega) (hr (_,_) ⟨G.app hI.1 ⟨by show aD s.1;unfold aD;omega,(show aD ((eO c (k:Int)).getD 0 0)from fc (by omega) (by omega)),hd,hq,trivial⟩,by dsimp only;omega,by dsimp only;omega⟩)
   exact ok_eq (fun _=>nn) fun _=>ar ⟨by omega,by omega⟩ (ar ⟨by omega,by omega⟩ (af (xc N (zW.at hz.2 (by omega) _)) fun _ _=>au (fun _=>s7 2 (fc (by omega) (by omega))) fun _=>s7 1 (fc (by omega) (by omega))))
  have hb9:aD 1000000000:=by unfold aD;decide
  refine ar ⟨by omega,by omega⟩ (ar ⟨hh.1,by show(eO c (k:Int)).getD 0 0<_;omega⟩ ?_)
  obtain⟨a,rfl,ha⟩:=hu
  have ah3:=hpx
  unfold jW at ah3
  rw[show(0:Int).toNat=0 from rfl]
  refine b8 (iU N (by omega) (by omega) (by omega)) (b8 (IU N hN (by omega) (Fit.mono ha (by omega)) ((Fit.i64 (by omega) (by omega)).mono (by omega))) (b8 (ql N _) (bu (fun _=>hj _ hb9) fun _=>au (fun _=>hj _ hb9) fun _=>hj _ (Hw _))))
 ·exact au (fun _=>by omega) fun _=>ag hI.1
end VM
end
section
namespace VM
open Go VM.F
theorem yQ(N:Nat)(hN:200000≤N){l:a6}(hl:l.length≤100000)(a:Int):Ok (fun r=>L3 6 r) (ep N l a):=by
 unfold ep ep.b
 refine bb (len:=6) (F:=fun n k (s:aj)=>ep.l3 N n l a s k) (fun k s=>L3 k s) G.nil (by omega) (fun n k s hk hI hr=> ?_) (fun n s hI=> ?_)
 all_goals unfold ep.l3 ep.iE
 ·have hs:=hI.1
  refine au (fun _=> ?_) fun _=>by omega
  refine bb (len:=l.length) (F:=fun n' i (x:cy)=>ep.l7 N (ep.l3 N n) n' l a s (k:Int) x i) (fun i x=>G 6 fI x) (G3 (fc (by omega) (by omega)) aT aT) (by omega) (fun n' i x hi hx dA=> ?_) (fun n' x hx=> ?_)
  all_goals unfold ep.l7 ep.ns
  ·rw[aq (x:=(i:Int)+1) (by omega) (by omega),ae i]
   have h1:=dA x hx
   repeat' first|exact h1|refine ar ⟨by omega,by omega⟩ ?_|refine au (fun _=> ?_) (fun _=> ?_)|refine bq (fun _=> ?_) (fun _=> ?_)|refine ok_eq (fun _=> ?_) (fun _=> ?_)|(exfalso;omega)|exact dA (_,(_,(_,_))) ⟨hx.1,dy _,hx.2.2.1,trivial⟩|exact dA (_,(_,(_,_))) ⟨hx.1,hx.2.1,dy _,trivial⟩
  ·rw[aq (x:=(k:Int)+1) (by omega) (by omega),ae k]
   have h1:=hr s (G.mono (by omega) hI)
   have h2:=hr (s++[x]) ⟨by rw[List.length_append,List.length_singleton];omega,fun y hy=>by
    rcases List.mem_append.1 hy with hy|hy
    ·exact G.mono (by omega) (hI.2 y hy)
    ·rw[List.mem_singleton.1 hy];exact⟨hx.1,hx.2.1,hx.2.2.1,trivial⟩⟩
   repeat' first|exact h1|exact h2|refine aE (by rw[List.length_singleton];omega) ?_|refine au (fun _=> ?_) (fun _=> ?_)|(exfalso;omega)
 ·exact au (fun _=>by omega) fun _=>ag hI
theorem A5(N:Nat)(hN:200000≤N)(c:aa){l:aj}(hl:l.length≤100000):Ok (fun _=>True) (lA N c l):=by
 unfold lA lA.b
 refine b8 (mj N (by omega) c) (bu (fun _=>ag trivial) fun _=>g5 (len:=l.length) (F:=fun n i=>lA.l5 N n l c 33000000000 i) (by omega) (fun n i hi hr=> ?_) fun n=> ?_)
 all_goals unfold lA.l5 lA.dd
 ·rw[aq (x:=(i:Int)+1) (by omega) (by omega),ae i]
  dsimp only
  repeat' first|exact hr|exact ag trivial|refine ar ⟨by omega,by omega⟩ ?_|refine ar (by rw[aq (x:=(i:Int)-1) (by omega) (by omega)];omega) ?_|refine au (fun _=> ?_) (fun _=> ?_)|refine cZ (fun _=> ?_) (fun _=> ?_)|refine ok_eq (fun _=> ?_) (fun _=> ?_)|(exfalso;omega)
 ·exact au (fun _=>by omega) fun _=>ag trivial
theorem Ce{k:Nat}(h:1≤k):Bg k (false,(([]:List Int),())):=Bg.mono Bg.zero h
theorem NI(N:Nat)(hN:4000000≤N)(c:aa){l:ax}{o:aj}{m:Nat}(hm:m≤50000)(hl:G m (.slice gv) l)(ho:L3 m o)(k:Int):Ok (fun r=>Bg 3 r.1) (ff N c l o k):=by
 have h1:=hl.1
 have h2:=ho.1
 unfold ff ff.b
 refine b8 (tJ N (by omega) c (by omega)) (bu (fun _=>ag (Ce (by omega))) fun _=>af (A5 N (by omega) c (by omega)) fun _ _=>bu (fun _=>ag (Ce (by omega))) fun _=>au (fun _=>ag (Ce (by omega))) fun _=>cZ (fun _=>ag (Ce (by omega))) fun _=> ?_)
 refine bb (len:=l.length) (F:=fun n i (q:aw)=>ff.l7 N n l o k (false,(([]:List Int),())) q (false,(([]:List Int),())) (false,(([]:List Int),())) i) (fun _ q=>Bg 2 q) (Ce (by omega)) (by omega) (fun n i q hi hq hr=> ?_) (fun n q hq=> ?_)
 all_goals unfold ff.l7 ff.ns
 ·rw[aq (x:=(i:Int)+1) (by omega) (by omega),ae i]
  exact au (fun _=>ar ⟨by omega,by omega⟩ (ok_eq (fun _=>ar ⟨by omega,by omega⟩ (af (aX N hN (G.at hl _).2.1) fun r h=>hr r h)) fun _=>hr q hq)) fun _=>by omega
 ·refine au (fun _=>by omega) fun _=> ?_
  refine bb (len:=o.length) (F:=fun n i (z:aw×aw)=>ff.mT N n o k (false,(([]:List Int),())) q z.1 z.2 i) (s:=(_,_)) (fun _ z=>Bg 2 z.1∧Bg 2 z.2) ⟨Ce (by omega),Ce (by omega)⟩ (by omega) (fun n i z hi hz hr=> ?_) (fun n z hz=> ?_)
  all_goals unfold ff.mT ff.lq
  ·rw[aq (x:=(i:Int)+1) (by omega) (by omega),ae i]
   exact au (fun _=>ar ⟨by omega,by omega⟩ (ok_eq (fun _=>ar ⟨by omega,by omega⟩ (af (aX N hN (G.at ho _).2.1) fun r h=>ar ⟨by omega,by omega⟩ (af (aX N hN (G.at ho _).2.2.1) fun r' h'=>hr (r,r') ⟨h,h'⟩))) fun _=>hr z hz)) fun _=>by omega
  ·exact au (fun _=>by omega) fun _=>af (gu N hN (by omega) hq hz.1) fun x hx=>af (qF N hN (by omega) hx) fun x hx=>af (ub N hN (by omega) hq hz.2) fun y hy=>af (qF N hN (by omega) hy) fun y hy=>af (nU N hN (by omega) (by omega) hy hx) fun _ _=>au (fun _=>ag hy) fun _=>ag hx
theorem Ew(N:Nat)(hN:4000000≤N){c:aa}{l:ax}{o:aj}{m:Nat}(hm:m≤50000)(hc:G m an c)(hl:G m (.slice gv) l)(ho:L3 m o):Ok (fun r=>Bg 60000 r.1) (lB N c l o):=by
 have h1:=hl.1
 have h2:=ho.1
 have h3:=hc.1.1
 unfold lB lB.b
 refine b8 (tJ N (by omega) c (by omega)) (bu (fun _=>ag (Ce (by omega))) fun _=>af (A5 N (by omega) c (by omega)) fun _ _=>bu (fun _=>ag (Ce (by omega))) fun _=> ?_)
 refine bb (len:=c.1.length) (F:=fun n i (t:aw)=>lB.l5 N n l o c (false,(([]:List Int),())) t i) (fun i t=>Bg (8+i) t) (Ce (by omega)) (by omega) (fun n i t hi ht hr=> ?_) (fun n t ht=> ?_)
 all_goals unfold lB.l5 lB.dd
 ·rw[aq (x:=(i:Int)+1) (by omega) (by omega),ae i]
  exact au (fun _=>af (NI N hN c hm hl ho _) fun x hx=>ar ⟨by omega,by omega⟩ (af (aX N hN (G.at hc.1 _).2.2.1) fun r h=>af (jh N hN (by omega) (by omega) hx h) fun y hy=>af (gu N hN (by omega) ht (Bg.mono hy (by omega))) fun z hz=>hr z hz)) fun _=>by omega
 ·exact au (fun _=>by omega) fun _=>ag (Bg.mono ht (by omega))
theorem acW{m:Nat}{l:aj}(h:L3 m l)(a:Int):G m (.slice gv) (posOf l a):=by
 refine⟨Nat.le_trans (KC a l) h.1,fun y hy=> ?_⟩
 unfold posOf at hy
 split at hy
 ·obtain⟨x,hx,_,e⟩:=o7 hy
  rw[e];exact⟨(h.2 x hx).2.1,(h.2 x hx).2.2.1,trivial⟩
 ·nomatch hy
theorem Ex(N:Nat)(hN:200000≤N){l:aj}{m:Nat}(hm:m≤50000)(h:L3 m l)(a:Int):Ok (G m (.slice gv)) (rQ N l a):=ky (Nt N (Nat.le_trans h.1 (by omega)) hN a) (acW h a)
theorem Ey(N:Nat)(hN:4000000≤N){c:aa}{b:ah}{l:a6}{m:Nat}(h2:200≤m)(hm:m≤40000)(hc:G m an c)(hb:G m aC b)(hl:l.length≤1000)(a:Int):Ok (Bg 60000) (NJ N c b a l):=by
 have ho:=hb.2.2.2.2.2.1.1
 unfold NJ
 refine aE (by rw[List.length_nil];omega) ?_
 dsimp only
 rw[List.nil_append]
 exact aE (by omega) (af (Ex N (by omega) (by omega) hb.2.2.2.1 a) fun r h=>af (yQ N (by omega) (by rw[List.length_append];omega) a) fun o h'=>af (Ew N hN (by omega) hc h (G.mono (by omega) h')) fun x hx=>ag hx)
end VM
end
section
namespace VM
open Go VM.F
theorem QT(N:Nat)(hN:4000000≤N){o:fG}{m:Nat}(ho:G m jn o)(a:Int):Ok (fun r=>Bg 4 r.1) (QU N o a):=by
 unfold QU
 have hw: ∀x:Int,Ok (fun r:aw×Int=>Bg 4 r.1) ((fT N o.2.2.2.2.1).bind fun r5=>(fT N (W .i64 x)).bind fun r6=>(fF N r5 r6).bind fun r7=>some (r7,(0:Int))):=fun x=>
  af (aX N hN ho.2.2.2.2.1) fun r h=>af (aX N hN (dy _)) fun r' h'=>af (jh N hN (by omega) (by omega) h h') fun y hy=>ag hy
 exact b8 (w4 N o) (bu (fun _=>ag (Ce (by omega))) fun _=>b8 (iz N a) (bu (fun _=>ag (Ce (by omega))) fun _=>ok_eq (fun _=>au (fun _=>ag (Ce (by omega))) fun _=>hw _) fun _=>au (fun _=>ag (Ce (by omega))) fun _=>hw _))
theorem XH{m:Nat}{a:ay}(h:G m (.slice cF) a)(id:Int):G m cF (iZ a id).1:=by
 unfold iZ
 split
 ·have: ∀l:ay,(∀x∈l,G m cF x)→G m cF (tz id l).1:=by
   intro l
   induction l with
   |nil=>intro _;exact G.zero m cF
   |cons x t ih=>
    intro hx
    rw[ss]
    split
    ·exact hx x (List.mem_cons_self ..)
    ·exact ih fun y hy=>hx y (List.mem_cons_of_mem _ hy)
  exact this a h.2
 ·exact G.zero m cF
theorem ra(N:Nat)(hN:200000≤N){a:ay}{m:Nat}(hm:m≤50000)(h:G m (.slice cF) a)(id:Int):Ok (fun r=>G m cF r.1) (ye N a id):=ky (D1 N (Nat.le_trans h.1 (by omega)) hN id) (XH h id)
theorem lP(N:Nat)(hN:200000≤N){a:ax}{m:Nat}(hm:m≤50000)(h:G m (.slice gv) a)(id:Int):Ok (fun _=>True) (tC N a id):=ky (yd N (Nat.le_trans h.1 (by omega)) hN id) trivial
theorem my(N:Nat)(hN:200000≤N){l:aj}{m:Nat}(hm:m≤50000)(h:L3 m l)(a b:Int):Ok aD (oz N l a b):=ky (Hm N (Nat.le_trans h.1 (by omega)) hN a b) (Ns (fun x hx=>(h.2 x hx).2.2.1) a b)
theorem Ez(N:Nat)(hN:5000000≤N){c:aa}{b:ah}{o:fG}{m:Nat}(h2:200≤m)(hm:m≤40000)(hc:G m an c)(hb:G m aC b)(ho:G m jn o):Ok (fun _=>True) (NK N c b o):=by
 have CI:=hb.2.2.2.2.2.1.1
 unfold NK
 refine b8 (dw N hN (by omega) hb) (bu (fun _=>ag trivial) fun hB=>b8 (w4 N o) (bu (fun _=>ag trivial) fun hr=>af (ra N (by omega) (by omega) hb.2.1 _) fun x hx=>bu (fun _=>ag trivial) fun _=>af (lP N (by omega) (by omega) hb.1 _) fun _ _=>bq (fun _=>ag trivial) fun _=>cZ (fun _=>ag trivial) fun hi=>aE (by rw[List.length_nil];omega) ?_))
 have hr:=of_decide_eq_true hr
 unfold qp sr at hr
 obtain⟨hp,_⟩:=gT hB
 dsimp only
 rw[List.nil_append]
 exact aE (by rw[List.length_singleton];omega) (af (Ex N (by omega) (by omega) hb.2.2.2.1 _) fun r h=>af (yQ N (by omega) (by rw[List.length_append,List.length_singleton];omega) _) fun q h'=>af (NI N (by omega) c (by omega) h (G.mono (by omega) h') _) fun t ht=>af (aX N (by omega) hx.2.2.2.1) fun v hv=>af (nU N (by omega) (by omega) (by omega) ht hv) fun _ _=>au (fun _=>ag trivial) fun _=>ar ⟨hr.2.2.1.1,by rw[hp];exact hi⟩ (af (QT N (by omega) ho _) fun e he=>af (my N (by omega) (by omega) hb.2.2.1 _ _) fun g hg=>af (aX N (by omega) hg) fun y hy=>af (ub N (by omega) (by omega) (Bg.mono hy (by omega)) he) fun z hz=>af (Ey N (by omega) h2 hm hc hb (by rw[List.length_singleton];omega) _) fun u hu=>af (nU N (by omega) (by omega) (by omega) hz hu) fun _ _=>au (fun _=>ag trivial) fun _=>ag trivial))
theorem QV(N:Nat)(hN:5000000≤N){c:aa}{b:ah}{h:bp}{a q p:Int}{m:Nat}(h2:200≤m)(hm:m≤40000)(hc:G m an c)(hb:G m aC b)(hh:G m cF h)(ha:aD a)(hq:aD q)(hp:aD p):Ok (fun r=>G m aC r.1∧G m cF r.2.1) (pg N c b h a q p):=by
 have ho:G m jn (h.1,(a,(h.2.1,(W .i64 (3-h.2.2.1),(q,(p,())))))):=⟨hh.1,ha,hh.2.1,dy _,hq,hp,trivial⟩
 have et: ∀e:Int,Ok (fun r:ah×bp×Int=>G m aC r.1∧G m cF r.2.1) (some ((aV,(cm,(bh,(bh,(cK,(cT,())))))),(aA,e))):=fun e=>ag ⟨G.eR,G.zero m cF⟩
 unfold pg pg.b
 have hj: ∀t:tV,Ok (fun r=>G m aC r.1∧G m cF r.2.1) (pg.j14 N q c b h (aV,(cm,(bh,(bh,(cK,(cT,())))))) aA t):=fun t=>by
  unfold pg.j14 pg.XI
  exact af (A3 N hN c h2 (by omega) hb) fun r hr=>bq (fun _=>et _) fun _=>ag ⟨hr,hh.1,hh.2.1,hh.2.2.1,dy _,trivial⟩
 exact b8 (dw N hN (by omega) hb) (bu (fun _=>et _) fun _=>b8 (yN N h) (bu (fun _=>et _) fun _=>au (fun _=>et _) fun _=>au (fun _=>et _) fun _=>au (fun _=>et _) fun _=>au (fun _=>et _) fun _=>au (fun _=>et _) fun _=>au (fun _=>et _) fun _=>au (fun _=>et _) fun _=>af (Ez N hN h2 hm hc hb ho) fun e _=>bq (fun _=>et _) fun _=>ok_eq (fun _=>hj _) fun _=>hj _))
end VM
end
section
namespace VM
open Go VM.F
def Dk(k:Nat)(d:aI):Prop:=(∀x∈(d.1:List Int),0≤x∧x<18446744073709551616)∧0≤(d.2.1:Int)∧(d.2.1:Int)≤k
theorem Dk.mono{j k:Nat}{d:aI}(h:Dk j d)(hk:j≤k):Dk k d:=⟨h.1,h.2.1,Int.le_trans h.2.2 (by omega)⟩
def mz:Nat:=1000000000
theorem Jh(N:Nat){k:Nat}{d:aI}(hk:k≤mz)(h:Dk k d):Ok (fun r=>(0≤r.1∧r.1<18446744073709551616)∧Dk (k+1) r.2) (F42 N d):=by
 obtain⟨h1,h2,h3⟩:=h
 unfold mz at hk
 unfold F42
 have hw: ∀i:Int,0≤i→i≤(k:Int)→0≤W .i64 (i+1)∧W .i64 (i+1)≤((k+1:Nat):Int):=fun i h0 h1=>by rw[aq (by omega) (by omega)];omega
 have hd:Dk (k+1) (d.1,(W .i64 (d.2.1+1),d.2.2)):=⟨h1,hw _ h2 h3⟩
 have hg: ∀(l:List Int) (i:Int),(∀x∈l,0≤x∧x<18446744073709551616)→0≤l.getD i.toNat 0∧l.getD i.toNat 0<18446744073709551616:=fun l i hl=>by
  by_cases hi:i.toNat<l.length
  ·rw[List.getD_eq_getElem?_getD,List.getElem?_eq_getElem hi];exact hl _ (List.getElem_mem hi)
  ·rw[List.getD_eq_getElem?_getD,List.getElem?_eq_none (by omega)];decide
 exact au (fun dF=>ar ⟨h2,dF⟩ (ag ⟨hg _ _ h1,hd⟩)) fun _=>ag ⟨(show(0:Int)≤0∧(0:Int)<18446744073709551616 by decide),hd⟩
theorem rem_in{x y:Int}(h0:0≤x)(hy:0<y):0≤rem x y∧rem x y<y:=by
 unfold rem;rw[eK]
 exact⟨Int.tmod_nonneg _ h0,Int.tmod_lt_of_pos _ hy⟩
theorem gb(N:Nat){k:Nat}{d:aI}{n:Int}(hn:0<n∧n<1000000)(h:Dk k d)(hk:k≤mz:=by first|decide|(unfold mz;omega)):Ok (fun r=>(0≤r.1∧r.1<n)∧Dk (k+1) r.2) (nJ N d n):=by
 unfold nJ
 refine af (Jh N hk h) fun r hr=> ?_
 dsimp only
 rw[c6 (x:=n) (by omega) (by omega)]
 have:=rem_in hr.1.1 hn.1
 refine ok_eq (fun _=>by omega) fun _=>ag ⟨?_,hr.2⟩
 dsimp only
 rw[aq (by omega) (by omega)]
 exact this
theorem nW(N:Nat){k:Nat}{d:aI}{n:Int}(hn:0<n∧n<1000000)(h:Dk k d)(hk:k≤mz:=by first|decide|(unfold mz;omega)):Ok (fun r=>Dk (k+1) r.2) (HC N d n):=by
 unfold HC
 exact af (gb N hn h hk) fun r hr=>ag hr.2
theorem nK(N:Nat){k:Nat}{d:aI}(h:Dk k d)(hk:k≤mz:=by first|decide|(unfold mz;omega)):Ok (fun r=>aD r.1∧Dk (k+1) r.2) (Gq N d):=by
 unfold Gq
 refine af (Jh N hk h) fun r hr=>ok_eq (fun _=>by omega) fun _=> ?_
 dsimp only
 repeat' first|exact ag ⟨dy _,hr.2⟩|refine au (fun _=> ?_) (fun _=> ?_)|refine ok_eq (fun _=> ?_) (fun _=> ?_)|(exfalso;omega)
theorem EA{x y:Int}(hy:0<y)(hy1:y<9223372036854775808):aD (rem x y):=by
 unfold rem;rw[eK]
 have h1:=Int.tmod_lt_of_pos x hy
 have h2: -y<x.tmod y:=by
  have:=Int.tmod_lt_of_pos (-x) hy
  rw[Int.neg_tmod]at this;omega
 unfold aD;omega
theorem u5{x y:Int}(hx:aD x)(hy:aD y):aD (mx x y):=by unfold mx;rw[eK];split<;>assumption
theorem QW{x y:Int}(hx:aD x)(hy:aD y):aD (mn x y):=by unfold mn;rw[eK];split<;>assumption
theorem ik{x n:Int}(h:0≤x∧x<n)(hn:n≤1000000):aD x:=fc (by omega) (by omega)
theorem KM(N:Nat)(hN:100≤N){d:aI}(h:Dk 0 d):Ok (fun r=>(G 5 an r.1∧1≤r.1.1.length)∧Dk 1000 r.2) (ph N d):=by
 unfold ph ph.b
 refine af (gb N (by decide) h) fun r hr=> ?_
 rw[aq (x:=1+r.1) (by omega) (by omega)]
 obtain⟨k,hk⟩: ∃k:Nat,1+r.1=(k:Int):=⟨(1+r.1).toNat,by omega⟩
 rw[hk]
 refine xb (F:=fun n x (s:aI×ay)=>ph.l3 N n s.1 ([],dZ) ([],dZ) s.2 x) (fun x s=>x+s.2.length=k∧Dk (1+20*s.2.length) s.1∧G 4 (.slice cF) s.2) (fun n x s hI hr=> ?_) (fun n s hI=> ?_) k N (r.2,_) (by omega) ⟨rfl,hr.2,G.nil⟩
 all_goals unfold ph.l3 ph.iE
 ·obtain⟨hx,hd,hG⟩:=hI
  have hl:=hG.1
  have s7: ∀(d:aI) (x4:bp),Dk (1+20*s.2.length+10) d→G 4 cF x4→Ok (fun r=>(G 5 an r.1∧1≤r.1.1.length)∧Dk 1000 r.2) (cond (small (s.2.length+[x4].length)) (ph.l3 N n d ([],dZ) ([],dZ) (s.2++[x4]) (W .i64 (((x+1:Nat):Int)-1))) none):=fun d x4 hd hx4=>by
   rw[aq (x:=((x+1:Nat):Int)-1) (by omega) (by omega),show((x+1:Nat):Int)-1=(x:Int)by omega]
   refine aE (by rw[List.length_singleton];omega) (hr (_,_) ⟨by rw[List.length_append,List.length_singleton];omega,Dk.mono hd (by rw[List.length_append,List.length_singleton];omega),?_⟩)
   refine⟨by rw[List.length_append,List.length_singleton];omega,fun y hy=> ?_⟩
   rcases List.mem_append.1 hy with hy|hy
   ·exact hG.2 y hy
   ·rw[List.mem_singleton.1 hy];exact hx4
  have hj: ∀(d:aI) (x5:bp),Dk (1+20*s.2.length+6) d→G 4 cF x5→Ok (fun r=>(G 5 an r.1∧1≤r.1.1.length)∧Dk 1000 r.2) (ph.j8 N (ph.l3 N n) d ([],dZ) ([],dZ) s.2 ((x+1:Nat):Int) x5):=fun d x5 hd hx5=>by
   unfold ph.j8 ph.Hk
   refine af (nW N (by decide) hd) fun r hd=>nT (fun _=> ?_) fun _=>s7 _ _ (Dk.mono hd (by omega)) hx5
   refine af (nK N hd) fun r ⟨_,hd⟩=>ok_eq (fun _=>by omega) fun _=> ?_
   dsimp only
   exact af (nK N hd) fun r ⟨_,hd⟩=>ok_eq (fun _=>by omega) fun _=>s7 _ _ (Dk.mono hd (by omega)) ⟨hx5.1,hx5.2.1,EA (by decide) (by decide),EA (by decide) (by decide),hx5.2.2.2.2⟩
  refine au (fun _=> ?_) fun _=>by omega
  refine af (gb N (by decide) hd) fun a ⟨ha,hd⟩=>af (gb N (by decide) hd) fun b ⟨hb,hd⟩=>af (gb N (by decide) hd) fun c ⟨hc,hd⟩=>af (gb N (by decide) hd) fun e ⟨he,hd⟩=>af (nW N (by decide) hd) fun r hd=>nT (fun _=>af (nK N hd) fun r ⟨_,hd⟩=>ok_eq (fun _=>by omega) fun _=>hj _ _ (Dk.mono hd (by omega)) ?_) fun _=>hj _ _ (Dk.mono hd (by omega)) ?_
  all_goals exact⟨ik ha (by decide),dy _,ik hc (by decide),ik he (by decide),trivial⟩
 ·obtain⟨hx,hd,hG⟩:=hI
  have hl:=hG.1
  have hd:Dk 900 s.1:=Dk.mono hd (by omega)
  refine au (fun _=>by omega) fun _=>af (gb N (by decide) hd) fun a ⟨ha,hd⟩=>af (gb N (by decide) hd) fun b ⟨hb,hd⟩=>af (gb N (by decide) hd) fun c ⟨hc,hd⟩=>af (gb N (by decide) hd) fun e ⟨he,hd⟩=>af (gb N (by decide) hd) fun f ⟨hf,hd⟩=> ?_
  dsimp only
  refine af (gb N (by decide) hd) fun g ⟨hg,hd⟩=>af (nW N (by decide) hd) fun r hd=>nT (fun _=>af (nK N hd) fun r ⟨hr,hd⟩=>ag ⟨⟨⟨G.mono (by decide) hG,?_⟩,by dsimp only;omega⟩,Dk.mono hd (by decide)⟩) fun _=>ag ⟨⟨⟨G.mono (by decide) hG,?_⟩,by dsimp only;omega⟩,Dk.mono hd (by decide)⟩
  ·exact⟨hr,ik hb (by decide),ik hc (by decide),ik he (by decide),dy _,ik hg (by decide),trivial⟩
  ·exact⟨ik ha (by decide),ik hb (by decide),ik hc (by decide),ik he (by decide),dy _,ik hg (by decide),trivial⟩
abbrev Lr(m:Nat)(l:fy):Prop:=G m (.slice lQ) l
theorem wK{k a b c d e f g:Int}{m:Nat}(h0:aD k)(h1:aD a)(h2:aD b)(h3:aD c)(h4:aD d)(h5:aD e)(h6:aD f)(h7:aD g):G m lQ (k,(a,(b,(c,(d,(e,(f,(g,())))))))):=⟨h0,h1,h2,h3,h4,h5,h6,h7,trivial⟩
theorem aU{x:Int}(h: -1000000≤x∧x≤1000000:=by decide):aD x:=fc h.1 h.2
theorem Cg(N:Nat){k:Nat}{d:aI}(h:Dk k d)(c:aa){i:Int}(hi:0≤i∧i<(c.1.length:Int))(hc:c.1.length≤5)(hk:k≤100000000):Ok (fun r=>G 0 lQ r.1∧Dk (k+5) r.2) (KN N d c i):=by
 unfold KN
 have hb:aD 1000000000000:=by unfold aD;decide
 have j2:aD i:=fc (by omega) (by omega)
 exact ar hi (af (gb N (by decide) h) fun a ⟨_,hd⟩=>af (nW N (by decide) hd) fun r hd=>nT (fun _=>af (nK N hd) fun r ⟨_,hd⟩=>ok_eq (fun _=>by omega) fun _=>ag ⟨wK aU aU aU j2 aU aU aU (dy _),Dk.mono hd (by omega)⟩) fun _=>ag ⟨wK aU aU aU j2 aU aU aU (u5 aU (QW hb (dy _))),Dk.mono hd (by omega)⟩)
theorem EB(N:Nat){k:Nat}{d:aI}(h:Dk k d)(c:aa)(Lj:1≤c.1.length)(hc:c.1.length≤5)(hk:k≤100000000):Ok (fun r=>G 0 lQ r.1∧Dk (k+10) r.2) (NL N d c):=by
 unfold NL
 have hb:aD 1000000000000:=by unfold aD;decide
 refine af (gb N ⟨by omega,by omega⟩ h) fun a ⟨ha,hd⟩=>af (gb N (by decide) hd) fun b ⟨di,hd⟩=> ?_
 dsimp only
 refine af (gb N (by decide) hd) fun e ⟨he,hd⟩=>af (gb N (by decide) hd) fun f ⟨hf,hd⟩=>ar ha (af (gb N (by decide) hd) fun g ⟨_,hd⟩=>af (nW N (by decide) hd) fun r hd=>nT (fun _=>af (nK N hd) fun r ⟨_,hd⟩=>ok_eq (fun _=>by omega) fun _=>af (nK N hd) fun r' ⟨_,hd⟩=>ok_eq (fun _=>by omega) fun _=>ag ⟨wK aU aU (dy _) (ik ha (by omega)) (dy _) aU (dy _) (dy _),Dk.mono hd (by omega)⟩) fun _=>ag ⟨wK aU aU (dy _) (ik ha (by omega)) (dy _) aU (dy _) (u5 aU (QW hb (dy _))),Dk.mono hd (by omega)⟩)
end VM
end
section
namespace VM
open Go VM.F
structure Cf(c:aa):Prop where
 g:G 5 an c
 n:1≤c.1.length
theorem EC(N:Nat){k:Nat}{d:aI}(h:Dk k d){c:aa}(hc:Cf c)(hk:k≤10000000):Ok (fun r=>G 0 lQ r.1∧Dk (k+20) r.2) (NM N d c):=by
 have hn:=hc.n
 have hl:=hc.g.1.1
 unfold NM
 refine af (gb N (by decide) h) fun a ⟨ha,hd⟩=> ?_
 dsimp only
 refine af (gb N (by decide) hd) fun b ⟨hb,hd⟩=>af (gb N ⟨by omega,by omega⟩ hd) fun i ⟨hi,hd⟩=>af (gb N (by decide) hd) fun e ⟨he,hd⟩=> ?_
 have hz: ∀(e:fg) (j:Nat) (d:aI),G 0 lQ e→Dk j d→j≤k+20→Ok (fun r=>G 0 lQ r.1∧Dk (k+20) r.2) (some (e,d)):=fun e j d he hd hj=>ag ⟨he,Dk.mono hd hj⟩
 have hs: ∀{f:Int×aI→Option (fg×aI)},(∀x d,aD x→Dk (k+5) d→Ok (fun r=>G 0 lQ r.1∧Dk (k+20) r.2) (f (x,d)))→Ok (fun r=>G 0 lQ r.1∧Dk (k+20) r.2) ((Gq N e.2).bind f):=fun hf=>af (nK N hd) fun r ⟨h1,h2⟩=>hf r.1 r.2 h1 (Dk.mono h2 (by omega))
 have hm: ∀{n:Int} {f:Int×aI→Option (fg×aI)},0<n∧n<1000000→(∀x d,Dk (k+5) d→Ok (fun r=>G 0 lQ r.1∧Dk (k+20) r.2) (f (x,d)))→Ok (fun r=>G 0 lQ r.1∧Dk (k+20) r.2) ((nJ N e.2 n).bind f):=fun hn hf=>af (gb N hn hd) fun r ⟨h1,h2⟩=>hf r.1 r.2 (Dk.mono h2 (by omega))
 repeat' first
  |refine ok_eq (fun _=> ?_) (fun _=> ?_)
  |(exfalso;omega)
  |(refine hs fun x d' hx PY=> ?_;dsimp only)
  |(refine hm (by decide) fun x d' PY=> ?_;dsimp only)
  |(refine hz _ _ _ ?_ hd (by omega);refine⟨?_,?_,?_,?_,?_,?_,?_,?_,trivial⟩<;>first|exact dy _|exact aT|exact u5 hx aU|exact EA (by decide) (by decide)|exact(G.at hc.g.1 _).2.1)
  |(refine hz _ _ _ ?_ PY (by omega);refine⟨?_,?_,?_,?_,?_,?_,?_,?_,trivial⟩<;>first|exact dy _|exact aT|exact u5 hx aU|exact EA (by decide) (by decide)|exact(G.at hc.g.1 _).2.1)
  |(refine hz _ _ _ ?_ h2 (by omega);refine⟨?_,?_,?_,?_,?_,?_,?_,?_,trivial⟩<;>first|exact dy _|exact aT|exact u5 hx aU|exact EA (by decide) (by decide)|exact(G.at hc.g.1 _).2.1)
  |exact af (Cg N hd c hi hl (by omega)) fun r ⟨h1,h2⟩=>hz _ _ _ h1 h2 (by omega)
  |exact af (EB N hd c hn hl (by omega)) fun r ⟨h1,h2⟩=>hz _ _ _ h1 h2 (by omega)
  |refine ar hi ?_
  |(refine af (gb N (by decide) PY) fun r ⟨h1,h2⟩=> ?_)
end VM
end
section
namespace VM
open Go VM.F
theorem G.cat{m n:Nat}{e:Ty}{l k:List e.den}(h:G m (.slice e) l)(h':G n (.slice e) k):G (m+n) (.slice e) (l++k):=
 ⟨by have:=h.1;have:=h'.1;rw[List.length_append];omega,fun y hy=>by
  rcases List.mem_append.1 hy with hy|hy
  ·exact G.mono (by omega) (h.2 y hy)
  ·exact G.mono (by omega) (h'.2 y hy)⟩
theorem G.two{m:Nat}{e:Ty}{a b:e.den}(ha:G 0 e a)(hb:G 0 e b)(hm:2≤m):G m (.slice e) [a,b]:=
 ⟨hm,fun y hy=>by
  rcases List.mem_cons.1 hy with rfl|hy
  ·exact G.mono (by omega) ha
  ·rw[List.mem_singleton.1 hy];exact G.mono (by omega) hb⟩
theorem G.one{m:Nat}{e:Ty}{a:e.den}(ha:G 0 e a)(hm:1≤m):G m (.slice e) [a]:=
 ⟨hm,fun y hy=>by rw[List.mem_singleton.1 hy];exact G.mono (by omega) ha⟩
theorem rf{α:Type}(a b:α):[a,b].length=2:=rfl
theorem HD(N:Nat)(hN:100≤N){k:Nat}{d:aI}(h:Dk k d)(c:aa)(hk:k≤10000000):Ok (fun r=>Lr 40 r.1∧Dk (k+50) r.2) (dp N d c):=by
 have s64: ∀i:Nat,i<100→aD (i:Int):=fun i hi=>fc (by omega) (by omega)
 unfold dp dp.b
 refine gr (len:=5) (F:=fun n i (s:aI×fy)=>dp.l3 N n s.1 s.2 i) (fun i s=>Dk (k+2*i) s.1∧Lr (3*i) s.2) (fun n i s hi hI hr=> ?_) (fun n s hI=> ?_) 5 N 1 (d,[]) (by omega) (by omega) (by omega) ⟨Dk.mono h (by omega),G.nil⟩
 all_goals unfold dp.l3 dp.iE
 ·have hl:=hI.2.1
  have j2:=s64 i (by omega)
  dsimp only
  rw[aq (x:=(i:Int)+1) (by omega) (by omega),ae i]
  have h2:Lr (3*i+2) (s.2++[((1:Int),((i:Int),dZ)),((2:Int),((i:Int),((i:Int),((0:Int),((1:Int),a7)))))]):=G.cat hI.2 (G.two (wK aU j2 aT aT aT aT aT aT) (wK aU j2 j2 aT aU aT aT aT) (by omega))
  have hl2:=h2.1
  exact cZ (fun _=>aE (by rw[rf];omega) (af (nW N (by decide) hI.1 (by unfold mz;omega)) fun r hd=>bu (fun _=>af (gb N (by decide) hd (by unfold mz;omega)) fun r ⟨_,hd⟩=>aE (by rw[List.length_singleton];omega) (hr (_,_) ⟨Dk.mono hd (by omega),G.mono (by omega) (G.cat h2 (G.one (m:=1) (wK aU j2 aT aT aT aT (dy _) aT) (by omega)))⟩)) fun _=>hr (_,_) ⟨Dk.mono hd (by omega),G.mono (by omega) h2⟩)) fun _=>by omega
 ·refine cZ (fun _=>by omega) fun _=> ?_
  refine gr (len:=8) (F:=fun n i (s:aI×fy)=>dp.l9 N n s.1 s.2 i) (fun i s=>Dk (k+10+i) s.1∧Lr (15+i) s.2) (fun n i s hi hI hr=> ?_) (fun n s hI=> ?_) 8 N 5 s (by omega) (by omega) (by omega) ⟨Dk.mono hI.1 (by omega),G.mono (by omega) hI.2⟩
  all_goals unfold dp.l9 dp.rN
  ·have hl:=hI.2.1
   dsimp only
   rw[aq (x:=(i:Int)+1) (by omega) (by omega),ae i]
   exact cZ (fun _=>af (gb N (by decide) hI.1 (by unfold mz;omega)) fun r ⟨_,hd⟩=>aE (by rw[List.length_singleton];omega) (hr (_,_) ⟨Dk.mono hd (by omega),G.mono (by omega) (G.cat hI.2 (G.one (m:=1) (wK aU (dy _) (s64 i (by omega)) aT aU aT aT aT) (by omega)))⟩)) fun _=>by omega
  ·refine cZ (fun _=>by omega) fun _=> ?_
   refine gr (len:=8) (F:=fun n i (s:aI×fy)=>dp.nA N n s.1 s.2 i) (fun i s=>Dk (k+18+2*i) s.1∧Lr (23+2*i) s.2) (fun n i s hi hI hr=> ?_) (fun n s hI=> ?_) 8 N 1 s (by omega) (by omega) (by omega) ⟨Dk.mono hI.1 (by omega),G.mono (by omega) hI.2⟩
   all_goals unfold dp.nA dp.lx
   ·have hl:=hI.2.1
    have j2:=s64 i (by omega)
    dsimp only
    rw[aq (x:=(i:Int)+1) (by omega) (by omega),ae i]
    exact cZ (fun _=>af (gb N (by decide) hI.1 (by unfold mz;omega)) fun r ⟨_,hd⟩=>af (gb N (by decide) hd (by unfold mz;omega)) fun r ⟨_,hd⟩=>aE (by rw[rf];omega) (hr (_,_) ⟨Dk.mono hd (by omega),G.mono (by omega) (G.cat hI.2 (G.two (m:=2) (wK aU aT j2 aT aT aT (dy _) aT) (wK aU aT j2 aT aT aT (dy _) aT) (by omega)))⟩)) fun _=>by omega
   ·exact cZ (fun _=>by omega) fun _=>ag ⟨G.mono (by omega) hI.2,Dk.mono hI.1 (by omega)⟩
theorem NN{x:Nat}(h:x<1000000):W .i64 (((x+1:Nat):Int)-1)=(x:Int):=by rw[aq (by omega) (by omega)];omega
theorem KO(N:Nat)(hN:1000≤N){k:Nat}{d:aI}(h:Dk k d){c:aa}(hc:Cf c){ED:Int}(hm:0≤ED∧ED≤100)(hk:k≤10000):Ok (fun r=>Lr 200 r.1∧Dk (k+3000) r.2) (xd N d c ED):=by
 have hn:=hc.n
 have hl:=hc.g.1.1
 unfold xd xd.b
 rw[aq (x:=ED+1) (by omega) (by omega)]
 refine af (HD N (by omega) h c (by omega)) fun r ⟨Gn,hd⟩=>af (gb N ⟨by omega,by omega⟩ hd (by unfold mz;omega)) fun z ⟨hz,hd⟩=> ?_
 obtain⟨j,hj⟩: ∃j:Nat,z.1=(j:Int):=⟨z.1.toNat,by omega⟩
 rw[hj]
 refine xb (F:=fun n x (s:aI×fy)=>xd.l3 N n s.1 c s.2 x) (fun x s=>x≤100∧Dk (k+100+25*(100-x)) s.1∧Lr (40+(100-x)) s.2) (fun n x s hI hr=> ?_) (fun n s hI=> ?_) j N (z.2,r.1) (by omega) ⟨by omega,Dk.mono hd (by omega),G.mono (by omega) Gn⟩
 all_goals unfold xd.l3 xd.iE
 ·obtain⟨hx,hd,hG⟩:=hI
  have hs:=hG.1
  rw[NN (by omega)]
  have put: ∀(e:fg) (d:aI) (q:Nat),G 0 lQ e→Dk q d→q≤k+100+25*(100-(x+1))+25→Ok (fun r=>Lr 200 r.1∧Dk (k+3000) r.2) (cond (small (s.2.length+[e].length)) (xd.l3 N n d c (s.2++[e]) (x:Int)) none):=fun e d q he hd hq=>aE (by rw[List.length_singleton];omega) (hr (_,_) ⟨by omega,Dk.mono hd (by omega),G.mono (by omega) (G.cat hG (G.one (m:=1) he (by omega)))⟩)
  exact au (fun _=>af (gb N (by decide) hd (by unfold mz;omega)) fun a ⟨_,hd⟩=>ok_eq (fun _=>af (EC N hd hc (by omega)) fun r ⟨h1,h2⟩=>put _ _ _ h1 h2 (by omega)) fun _=>ok_eq (fun _=>af (gb N ⟨by omega,by omega⟩ hd (by unfold mz;omega)) fun b ⟨hb,hd⟩=>af (Cg N hd c hb hl (by omega)) fun r ⟨h1,h2⟩=>put _ _ _ h1 h2 (by omega)) fun _=>af (EB N hd c hn hl (by omega)) fun r ⟨h1,h2⟩=>put _ _ _ h1 h2 (by omega)) fun _=>by omega
 ·exact au (fun _=>by omega) fun _=>ag ⟨G.mono (by omega) hI.2.2,Dk.mono hI.2.1 (by omega)⟩
theorem EE(N:Nat)(hN:1000≤N){k:Nat}{d:aI}(h:Dk k d){c:aa}(hc:Cf c)(hk:k≤100000):Ok (fun r=>Lr 3 r.1∧Dk (k+100) r.2) (wL N d c):=by
 have hn:=hc.n
 have hl:=hc.g.1.1
 unfold wL wL.b
 refine af (gb N (by decide) h (by unfold mz;omega)) fun z ⟨hz,hd⟩=> ?_
 obtain⟨j,hj⟩: ∃j:Nat,z.1=(j:Int):=⟨z.1.toNat,by omega⟩
 rw[hj]
 refine xb (F:=fun n x (s:aI×fy)=>wL.l3 N n s.1 c s.2 x) (fun x s=>x≤3∧Dk (k+1+25*(3-x)) s.1∧Lr (3-x) s.2) (fun n x s hI hr=> ?_) (fun n s hI=> ?_) j N (z.2,[]) (by omega) ⟨by omega,Dk.mono hd (by omega),G.nil⟩
 all_goals unfold wL.l3 wL.iE
 ·obtain⟨hx,hd,hG⟩:=hI
  have hs:=hG.1
  rw[NN (by omega)]
  have put: ∀(e:fg) (d:aI) (q:Nat),G 0 lQ e→Dk q d→q≤k+1+25*(3-(x+1))+25→Ok (fun r=>Lr 3 r.1∧Dk (k+100) r.2) (cond (small (s.2.length+[e].length)) (wL.l3 N n d c (s.2++[e]) (x:Int)) none):=fun e d q he hd hq=>aE (by rw[List.length_singleton];omega) (hr (_,_) ⟨by omega,Dk.mono hd (by omega),G.mono (by omega) (G.cat hG (G.one (m:=1) he (by omega)))⟩)
  exact au (fun _=>af (nW N (by decide) hd (by unfold mz;omega)) fun a hd=>nT (fun _=>af (gb N ⟨by omega,by omega⟩ hd (by unfold mz;omega)) fun b ⟨hb,hd⟩=>af (Cg N hd c hb hl (by omega)) fun r ⟨h1,h2⟩=>put _ _ _ h1 h2 (by omega)) fun _=>af (EC N hd hc (by omega)) fun r ⟨h1,h2⟩=>put _ _ _ h1 h2 (by omega)) fun _=>by omega
 ·exact au (fun _=>by omega) fun _=>ag ⟨G.mono (by omega) hI.2.2,Dk.mono hI.2.1 (by omega)⟩
end VM
end
section
namespace VM
open Go VM.F
theorem da{α:Type}{r:α}:Ok (fun _=>True) (some r):=ag trivial
theorem KP(N:Nat)(k:Int):Ok (fun s=>ByteArray.size s≤100) (QX N k):=by
 unfold QX
 repeat' first|refine ok_eq (fun _=> ?_) (fun _=> ?_)|exact ag (by decide)
theorem KQ(N:Nat)(k f:Int):Ok (fun _=>True) (QY N k f):=by
 unfold QY XJ XK
 repeat' first|refine ok_eq (fun _=> ?_) (fun _=> ?_)|exact da|refine af (Q:=fun _=>True) ?_ fun _ _=>da
theorem NO(N:Nat)(e:fg)(f:Int):Ok (fun _=>True) (QZ N e f):=by
 unfold QZ
 repeat' first|refine ok_eq (fun _=> ?_) (fun _=> ?_)|exact da
theorem NP(N:Nat)(e:fg)(f x:Int):Ok (fun _=>True) (Q0 N e f x):=by
 unfold Q0
 repeat' first|refine ok_eq (fun _=> ?_) (fun _=> ?_)|exact da
theorem KR(N:Nat)(hN:1000≤N)(e:fg):Ok (fun _=>True) (mA N e):=by
 unfold mA mA.b XL
 refine af (Q:=fun _=>True) (cZ (fun _=>da) fun _=>da) fun _ _=>bu (fun _=>da) fun _=>af (KP N _) fun s hs=> ?_
 refine bb (len:=ByteArray.size s) (F:=fun n i (x:fg)=>mA.l6 N n e s x i) (fun _ _=>True) trivial (by omega) (fun n i x hi _ hr=> ?_) (fun n x _=> ?_)
 all_goals unfold mA.l6 mA.n4
 ·rw[aq (x:=(i:Int)+1) (by omega) (by omega),ae i]
  exact au (fun _=>ar ⟨by omega,by omega⟩ (af (KQ N _ _) fun _ _=>ar ⟨by omega,by omega⟩ (af (NO N _ _) fun _ _=>au (fun _=>da) fun _=>au (fun _=>da) fun _=>ar ⟨by omega,by omega⟩ (af (NP N _ _ _) fun y _=>hr y trivial)))) fun _=>by omega
 ·exact au (fun _=>by omega) fun _=>da
theorem G.ins{m:Nat}{e:Ty}{l:List e.den}{x:e.den}(h:G m (.slice e) l)(hx:G m e x)(a b c:Nat)(ha:c≤a):G (m+1) (.slice e) ((([]++List.drop b (List.take c l))++[x])++List.drop a (List.take l.length l)):=by
 have:=h.1
 refine⟨?_,fun y hy=> ?_⟩
 ·simp only[List.nil_append,List.length_append,List.length_drop,List.length_take,List.length_singleton];omega
 ·rw[List.nil_append,List.append_assoc]at hy
  rcases List.mem_append.1 hy with hy|hy
  ·exact G.mono (by omega) (h.2 y (List.mem_of_mem_take (List.mem_of_mem_drop hy)))
  ·rcases List.mem_append.1 hy with hy|hy
   ·rw[List.mem_singleton.1 hy];exact G.mono (by omega) hx
   ·exact G.mono (by omega) (h.2 y (List.mem_of_mem_take (List.mem_of_mem_drop hy)))
theorem NQ{α:Type}{P:List α×Int→Prop}{l:List α}{x:α}{k:Nat}{e:Int}(hk:k≤l.length)(hl:l.length≤1000000)(h:P ((([]++List.drop (0:Int).toNat (List.take (k:Int).toNat l))++[x])++List.drop (k:Int).toNat (List.take (l.length:Int).toNat l),e)):
  Ok P (cond (fi 0 (k:Int) (l.length:Int) (l.length:Int)) (let v6:List α:=List.drop (0:Int).toNat (List.take (k:Int).toNat l);cond (small (([]:List α).length+v6.length)) (let v7:List α:=[]++v6;cond (small (v7.length+[x].length)) (let v8:List α:=v7++[x];cond (fi (k:Int) (l.length:Int) (l.length:Int) (l.length:Int)) (let v9:List α:=List.drop (k:Int).toNat (List.take (l.length:Int).toNat l);cond (small (v8.length+v9.length)) (some ((v8++v9),e)) none) none) none) none) none):=by
 dsimp only
 have t: ∀a b:Nat,(List.drop a (List.take b l)).length≤l.length:=fun a b=>by rw[List.length_drop,List.length_take];omega
 have t1:=t (0:Int).toNat (k:Int).toNat
 have t2:=t (k:Int).toNat (l.length:Int).toNat
 refine Cd ⟨by omega,by omega,by omega,by omega⟩ (aE (by rw[List.length_nil];omega) (aE ?_ (Cd ⟨by omega,by omega,by omega,by omega⟩ (aE ?_ (ag h)))))
 ·rw[List.nil_append,List.length_singleton];omega
 ·rw[List.nil_append,List.length_append,List.length_singleton];omega
theorem NR(N:Nat)(hN:200000≤N){a:ax}{m:Nat}(hm:m≤50000)(h:G m (.slice gv) a){id:Int}(aS:aD id):Ok (fun r=>G (m+1) (.slice gv) r.1) (gw N a id):=by
 have hl:=h.1
 unfold gw gw.b
 refine b8 (nu N (by omega) hN) (bu (fun _=>ag G.nil) fun _=>au (fun _=>ag G.nil) fun _=>au (fun _=>ag G.nil) fun _=>b8 (jF N (by omega) hN id) (bq (fun _=>ag G.nil) fun _=> ?_))
 have fin: ∀k:Nat,k≤a.length→Ok (fun r=>G (m+1) (.slice gv) r.1) (gw.j9 N a id [] (k:Int)):=fun k hk=>by
  unfold gw.j9 gw.GY
  have hx:G m gv (id,((1:Int),())):=⟨aS,(show aD 1 from aU),trivial⟩
  exact NQ hk (by omega) (by simpa using G.ins h hx k 0 k (Nat.le_refl _))
 refine g5 (len:=a.length) (F:=fun n i=>gw.l7 N n a id [] i) (by omega) (fun n i hi hr=> ?_) (fun n=> ?_)
 all_goals unfold gw.l7 gw.ns
 ·rw[aq (x:=(i:Int)+1) (by omega) (by omega),ae i]
  exact au (fun _=>ar ⟨by omega,by omega⟩ (au (fun _=>hr) fun _=>fin i (by omega))) fun _=>by omega
 ·exact au (fun _=>by omega) fun _=>fin _ (Nat.le_refl _)
end VM
end
section
namespace VM
open Go VM.F
theorem G4q{m:Nat}{x:bp}{q:Int}(h:G m cF x)(hq:aD q):G m cF (x.1,(x.2.1,(x.2.2.1,(q,x.2.2.2.2)))):=⟨h.1,h.2.1,h.2.2.1,hq,trivial⟩
theorem G4b{m:Nat}{x:bp}{q:Int}(h:G m cF x)(hq:aD q):G m cF (x.1,(q,x.2.2)):=⟨h.1,hq,h.2.2⟩
theorem G2b{m:Nat}{x:Kg}{q:Int}(h:G m gv x)(hq:aD q):G m gv (x.1,(q,x.2.2)):=⟨h.1,hq,trivial⟩
theorem Ch(N:Nat)(hN:200000≤N){l:ay}(hl:l.length≤100000):Ok (fun _=>True) (g2 N l):=ky (tF N hl hN) trivial
theorem Q1(N:Nat)(hN:200000≤N){a:ax}{l:ay}{x:bp}{m:Nat}(hm:m≤50000)(ha:G m (.slice gv) a)(h:G m (.slice cF) l)(hx:G 0 cF x):Ok (fun r=>G (m+1) (.slice cF) r.1) (ec N a l x):=by
 have h1:=ha.1
 have hl:=h.1
 have fin: ∀k:Nat,k≤l.length→Ok (fun r=>G (m+1) (.slice cF) r.1) (ec.zX N l x [] (k:Int)):=fun k hk=>by
  unfold ec.zX ec.sI
  exact NQ hk (by omega) (by simpa using G.ins h (G.mono (Nat.zero_le m) hx) k 0 k (Nat.le_refl _))
 have hj:Ok (fun r=>G (m+1) (.slice cF) r.1) (ec.Gr N l x):=by
  unfold ec.Gr ec.yR
  refine g5 (len:=l.length) (F:=fun n i=>ec.nA N n l x [] i) (by omega) (fun n i hi hr=> ?_) (fun n=> ?_)
  all_goals unfold ec.nA ec.lx
  ·rw[aq (x:=(i:Int)+1) (by omega) (by omega),ae i]
   exact au (fun _=>ar ⟨by omega,by omega⟩ (au (fun _=>hr) fun _=>fin i (by omega))) fun _=>by omega
  ·exact au (fun _=>by omega) fun _=>fin _ (Nat.le_refl _)
 unfold ec ec.b
 exact b8 (yf N (by omega) (by omega) hN) (bu (fun _=>ag G.nil) fun _=>af (Ch N hN (by rw[List.length_singleton];omega)) fun _ _=>bu (fun _=>ag G.nil) fun _=>b8 (jF N (by omega) hN _) (ok_eq (fun _=>ag G.nil) fun _=>bq (fun _=>ag G.nil) fun _=>b8 (tD N (by omega) hN _) (nT (fun _=>ag G.nil) fun _=>ok_eq (fun _=>b8 (uU N (by omega) hN _) (bq (fun _=>ag G.nil) fun _=>hj)) fun _=>hj)))
theorem NS(N:Nat)(hN:200000≤N){l:ay}{m:Nat}(hm:m≤50000)(h:G m (.slice cF) l){id q:Int}(hq:aD q):Ok (fun r=>G m (.slice cF) r.1) (mB N l id q):=by
 have hl:=h.1
 unfold mB mB.b
 refine af (Ch N hN (by omega)) fun _ _=>bu (fun _=>ag G.nil) fun _=>au (fun _=>ag G.nil) fun _=>au (fun _=>ag G.nil) fun _=>b8 (tD N (by omega) hN _) (bu (fun _=>ag G.nil) fun _=>aE (by rw[List.length_nil];omega) ?_)
 rw[List.nil_append]
 refine bb (len:=l.length) (F:=fun n i s=>mB.l8 N n id q s i) (fun _ s=>s.length=l.length∧G m (.slice cF) s) ⟨rfl,h⟩ (by omega) (fun n i s hi hI hr=> ?_) (fun n s hI=> ?_)
 all_goals unfold mB.l8 mB.w5
 ·rw[aq (x:=(i:Int)+1) (by omega) (by omega),ae i]
  have hs:=hI.1
  have hx:=G.at hI.2 (i:Int).toNat
  exact au (fun _=>ar ⟨by omega,by omega⟩ (ok_eq (fun _=>ar ⟨by omega,by omega⟩ (hr _ ⟨by rw[List.length_set];exact hs,G.set hI.2 (G4q hx hq) _⟩)) fun _=>hr s hI)) fun _=>by omega
 ·have hs:=hI.1
  exact au (fun _=>by omega) fun _=>ag hI.2
theorem NT(N:Nat)(a b:Int):Ok (fun r=>aD r.1) (Q2 N a b):=by
 have h: ∀(x:Int) (t:Bool),0≤x∧x<5→Ok (fun r:Int×Bool=>aD r.1) (some (x,t)):=fun x t hx=>ag (ik hx (by decide))
 unfold Q2
 repeat' first|refine ok_eq (fun _=> ?_) (fun _=> ?_)|exact h _ _ (by decide)
theorem Ji(N:Nat)(hN:200000≤N){l:ax}{m:Nat}(hm:m≤50000)(h:G m (.slice gv) l)(id k:Int):Ok (fun r=>G m (.slice gv) r.1) (kF N l id k):=by
 have hl:=h.1
 unfold kF kF.b
 refine b8 (nu N (by omega) hN) (bu (fun _=>ag G.nil) fun _=>b8 (jF N (by omega) hN _) (ok_eq (fun _=>ag G.nil) fun _=>af (NT N _ _) fun z hz=>bu (fun _=>ag G.nil) fun _=>aE (by rw[List.length_nil];omega) ?_))
 rw[List.nil_append]
 refine bb (len:=l.length) (F:=fun n i s=>kF.A4 N n id z.1 s i) (fun _ s=>s.length=l.length∧G m (.slice gv) s) ⟨rfl,h⟩ (by omega) (fun n i s hi hI hr=> ?_) (fun n s hI=> ?_)
 all_goals unfold kF.A4 kF.yP
 ·rw[aq (x:=(i:Int)+1) (by omega) (by omega),ae i]
  have hs:=hI.1
  have hx:=G.at hI.2 (i:Int).toNat
  exact au (fun _=>ar ⟨by omega,by omega⟩ (ok_eq (fun _=>ar ⟨by omega,by omega⟩ (hr _ ⟨by rw[List.length_set];exact hs,G.set hI.2 (G2b hx hz) _⟩)) fun _=>hr s hI)) fun _=>by omega
 ·have hs:=hI.1
  exact au (fun _=>by omega) fun _=>ag hI.2
theorem HE(N:Nat)(hN:200000≤N){a:ax}{l:ay}{m:Nat}(hm:m≤50000)(ha:G m (.slice gv) a)(h:G m (.slice cF) l){id to:Int}(hto:aD to):Ok (fun r=>G m (.slice cF) r.1) (mC N a l id to):=by
 have h1:=ha.1
 have hl:=h.1
 unfold mC mC.b
 refine b8 (yf N (by omega) (by omega) hN) (bu (fun _=>ag G.nil) fun _=>b8 (tD N (by omega) hN _) (b8 (jF N (by omega) hN _) (bu (fun _=>ag G.nil) fun _=>ok_eq (fun _=>ag G.nil) fun _=>bq (fun _=>ag G.nil) fun _=>bq (fun _=>ag G.nil) fun _=>aE (by rw[List.length_nil];omega) ?_)))
 rw[List.nil_append]
 refine bb (len:=l.length) (F:=fun n i s=>mC.nA N n id to s i) (fun _ s=>s.length=l.length∧G m (.slice cF) s) ⟨rfl,h⟩ (by omega) (fun n i s hi hI hr=> ?_) (fun n s hI=> ?_)
 all_goals unfold mC.nA mC.lx
 ·rw[aq (x:=(i:Int)+1) (by omega) (by omega),ae i]
  have hs:=hI.1
  have hx:=G.at hI.2 (i:Int).toNat
  exact au (fun _=>ar ⟨by omega,by omega⟩ (ok_eq (fun _=>ar ⟨by omega,by omega⟩ (hr _ ⟨by rw[List.length_set];exact hs,G.set hI.2 (G4b hx hto) _⟩)) fun _=>hr s hI)) fun _=>by omega
 ·have hs:=hI.1
  exact au (fun _=>by omega) fun _=>ag hI.2
theorem NU(N:Nat)(hN:200000≤N){l:ay}{m:Nat}(hm:m≤50000)(h:G m (.slice cF) l)(id:Int):Ok (fun r=>r.length≤m) (mD N l id):=by
 have hl:=h.1
 unfold mD mD.b
 refine af (Ch N hN (by omega)) fun _ _=>bu (fun _=>ag (Nat.zero_le _)) fun _=>bb (len:=l.length) (F:=fun n i s=>mD.l5 N n l id s i) (fun i s=>s.length≤i) (Nat.zero_le _) (by omega) (fun n i s hi hI hr=> ?_) (fun n s hI=> ?_)
 all_goals unfold mD.l5 mD.dd
 ·rw[aq (x:=(i:Int)+1) (by omega) (by omega),ae i]
  exact au (fun _=>ar ⟨by omega,by omega⟩ (ok_eq (fun _=>ar ⟨by omega,by omega⟩ (aE (by rw[List.length_singleton];omega) (hr _ (by rw[List.length_append,List.length_singleton];omega)))) fun _=>hr s (by omega))) fun _=>by omega
 ·exact au (fun _=>by omega) fun _=>ag (by omega)
abbrev L6(m:Nat)(l:a6):Prop:=G m (.slice jn) l
theorem NV(N:Nat)(hN:200000≤N){l:a6}{a:List Int}{m:Nat}(hm:m≤50000)(h:L6 m l)(ha:a.length≤m):Ok (fun r=>L6 m r) (eI N l a):=by
 have hl:=h.1
 unfold eI eI.b
 refine b8 (jE N (by omega) hN) (bu (fun _=>ag G.nil) fun _=>bb (len:=l.length) (F:=fun n i s=>eI.l5 N n l a s i) (fun i s=>L6 i s) G.nil (by omega) (fun n i s hi hI hr=> ?_) (fun n s hI=> ?_))
 all_goals unfold eI.l5 eI.dd
 ·have hs:=hI.1
  refine au (fun _=> ?_) fun _=>by omega
  refine bb (len:=a.length) (F:=fun n' j b=>eI.l9 N (eI.l5 N n) n' l a s (i:Int) b j) (fun _ _=>True) trivial (by omega) (fun n' j b hj _ dA=> ?_) (fun n' b _=> ?_)
  all_goals unfold eI.l9 eI.rN
  ·rw[aq (x:=(j:Int)+1) (by omega) (by omega),ae j]
   exact au (fun _=>nT (fun _=>dA _ trivial) fun _=>ar ⟨by omega,by omega⟩ (ar ⟨by omega,by omega⟩ (dA _ trivial))) fun _=>by omega
  ·rw[aq (x:=(i:Int)+1) (by omega) (by omega),ae i]
   have hx:G 0 jn (l.getD (i:Int).toNat dZ):=G.at h _
   exact au (fun _=>by omega) fun _=>bu (fun _=>ar ⟨by omega,by omega⟩ (aE (by rw[List.length_singleton];omega) (hr _ (G.cat hI (G.one hx (Nat.le_refl 1)))))) fun _=>hr s (G.mono (by omega) hI)
 ·exact au (fun _=>by omega) fun _=>ag (G.mono hl hI)
theorem EF(N:Nat)(hN:5000000≤N)(c:aa){b:ah}{m:Nat}(hm:m≤50000)(hb:G m aC b)(id:Int):Ok (fun r=>G m aC r.1) (KS N c b id):=by
 unfold KS
 exact b8 (dw N hN hm hb) (bu (fun _=>ag G.eR) fun _=>af (lP N (by omega) hm hb.1 _) fun _ _=>ok_eq (fun _=>ag G.eR) fun _=>af (NU N (by omega) hm hb.2.1 _) fun a ha=>af (NV N (by omega) hm hb.2.2.2.2.2.1 ha) fun r hr=>ag ⟨hb.1,hb.2.1,hb.2.2.1,hb.2.2.2.1,hb.2.2.2.2.1,hr,trivial⟩)
theorem EG(N:Nat)(hN:200000≤N){l:ay}{m:Nat}(hm:m≤50000)(h:G m (.slice cF) l)(id:Int):Ok (fun r=>G m (.slice cF) r) (kU N l id):=by
 have hl:=h.1
 unfold kU kU.b
 refine b8 (qy N (by omega) hN) (bu (fun _=>ag G.nil) fun _=>bb (len:=l.length) (F:=fun n i s=>kU.l5 N n l id s i) (fun i s=>G i (.slice cF) s) G.nil (by omega) (fun n i s hi hI hr=> ?_) (fun n s hI=> ?_))
 all_goals unfold kU.l5 kU.dd
 ·have hs:=hI.1
  have hx:G 0 cF (l.getD (i:Int).toNat aA):=G.at h _
  rw[aq (x:=(i:Int)+1) (by omega) (by omega),ae i]
  exact au (fun _=>ar ⟨by omega,by omega⟩ (bq (fun _=>ar ⟨by omega,by omega⟩ (aE (by rw[List.length_singleton];omega) (hr _ (G.cat hI (G.one hx (Nat.le_refl 1)))))) fun _=>hr s (G.mono (by omega) hI))) fun _=>by omega
 ·exact au (fun _=>by omega) fun _=>ag (G.mono hl hI)
theorem KT(N:Nat)(hN:200000≤N){l:a6}{m:Nat}(hm:m≤50000)(h:L6 m l)(a id:Int):Ok (fun r=>L6 m r.1) (mE N l a id):=by
 have hl:=h.1
 unfold mE mE.b
 refine b8 (jE N (by omega) hN) (bu (fun _=>ag G.nil) fun _=>bb (len:=l.length) (F:=fun n i s=>mE.l5 N n l a id s i) (fun i s=>L6 i s) G.nil (by omega) (fun n i s hi hI hr=> ?_) (fun n s hI=> ?_))
 all_goals unfold mE.l5 mE.dd
 ·have hs:=hI.1
  have hx:G 0 jn (l.getD (i:Int).toNat dZ):=G.at h _
  rw[aq (x:=(i:Int)+1) (by omega) (by omega),ae i]
  have h1:=hr s (G.mono (by omega) hI)
  have h2:=hr _ (G.cat hI (G.one hx (Nat.le_refl 1)))
  repeat' first|exact h1|exact h2|refine aE (by rw[List.length_singleton];omega) ?_|refine ar ⟨by omega,by omega⟩ ?_|refine au (fun _=> ?_) (fun _=> ?_)|refine bq (fun _=> ?_) (fun _=> ?_)|(exfalso;omega)
 ·exact au (fun _=>by omega) fun _=>ok_eq (fun _=>ag G.nil) fun _=>ag (G.mono hl hI)
end VM
end
