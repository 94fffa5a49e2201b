/- A part of the proof of WindBears of layer 21: what the functions compute, in plain words. -/
import Derived.Test.YtecmobijochjkaaGreatPlain5
import Derived.Test.YtecmobijochjkaaGreatPlain4
set_option linter.all false
section
namespace VM
open Go VM.F
theorem ub(N:Nat)(hN:200000≤N){l:aE}(hl:l.length≤100000):Ok (λ_=>True) (pq N l):=by
 unfold pq pq.b
 refine lZ (len:=l.length) (F:=λn i=>pq.l2 N n l i) ω (λn i hi hr=> ?_) (λn=> ?_)
 all_goals unfold pq.l2 pq.gJ
 ·rw[ay (x:=(i:Int)+1) ω ω,ag i]
  dsimp only
  repeat' first|exact hr|exact e7|refine aB ⟨ω,ω⟩ ?_|refine aB (by rw[ay (x:=(i:Int)-1) ω ω];omega) ?_|refine aw (λ_=> ?_) (λ_=> ?_)|refine dY (λ_=> ?_) (λ_=> ?_)|refine ok_eq (λ_=> ?_) (λ_=> ?_)|(exfalso;omega)
 ·exact aw (λ_=>ω) λ_=>e7
theorem Uy(N:Nat)(hN:200000≤N){l:List Int}(hl:l.length≤100000):Ok (λ_=>True) (rI N l):=by
 unfold rI rI.b
 refine lZ (len:=l.length) (F:=λn i=>rI.l2 N n l i) ω (λn i hi hr=> ?_) (λn=> ?_)
 all_goals unfold rI.l2 rI.gJ
 ·rw[ay (x:=(i:Int)+1) ω ω,ag i]
  dsimp only
  repeat' first|exact hr|exact e7|refine aB ⟨ω,ω⟩ ?_|refine aB (by rw[ay (x:=(i:Int)-1) ω ω];omega) ?_|refine aw (λ_=> ?_) (λ_=> ?_)|refine dY (λ_=> ?_) (λ_=> ?_)|refine ok_eq (λ_=> ?_) (λ_=> ?_)|(exfalso;omega)
 ·exact aw (λ_=>ω) λ_=>e7
theorem XG(N:Nat)(hN:200000≤N)(a:Int){L:bA}{l:aL}{m:Nat}(hm:m≤50000)(hL:LL m L)(hl:G m (.slice eA) l):Ok aD (jw N a L l):=by
 have h1:=hL.1
 have h2:=hl.1
 have i3:aD 3:=bk
 have i2:aD 2:=bk
 unfold jw jw.b
 refine bc (len:=l.length) (F:=λn i v=>jw.l3 N n a L l v i) (λ_ v=>aD v) (show aD 1 from bk) ω (λn i v hi hv hr=> ?_) (λn v hv=> ?_)
 all_goals unfold jw.l3 jw.nT
 ·rw[ay (x:=(i:Int)+1) ω ω,ag i]
  exact aw (λ_=>aB ⟨ω,ω⟩ (bq (λ_=>hr v hv) λ_=>aB ⟨ω,ω⟩ (af (Gi N hN hm hL _) λ_ _=>pj (λ_=>aB ⟨ω,ω⟩ (dY (λ_=>hr _ (A4 hv i3)) λ_=>hr _ (A4 hv i2))) λ_=>hr _ (A4 hv i2)))) λ_=>ω
 ·refine aw (λ_=>ω) λ_=>bc (len:=L.length) (F:=λn i v=>jw.mU N n a L v i) (λ_ v=>aD v) hv ω (λn i v hi hv hr=> ?_) (λn v hv=> ?_)
  all_goals unfold jw.mU jw.ns
  ·rw[ay (x:=(i:Int)+1) ω ω,ag i]
   exact aw (λ_=>aB ⟨ω,ω⟩ (ok_eq (λ_=>aB ⟨ω,ω⟩ (ok_eq (λ_=>hr 4 bk) λ_=>hr v hv)) λ_=>hr v hv)) λ_=>ω
  ·exact aw (λ_=>ω) λ_=>ak hv
theorem N1(N:Nat)(hN:200000≤N)(c:ae){d:aE}{u:List Int}{L:bA}{l:aL}{m:Nat}(h2:200≤m)(hm:m≤50000)(hd:L2 m d)(hu:u.length≤m)(hL:LL m L)(hl:G m (.slice eA) l):Ok (λr=>L2 m r.1) (dv N c d u L l):=by
 have h3:=hd.1
 have h4:=hL.1
 have h5:=hl.1
 have hw:IW L:=λy hy=>cq (hL.2 y hy).2.1.1 ω
 unfold dv dv.b
 refine af (ub N hN ω) λ_ _=>bw (λ_=>ak G.nil) λ_=>af (Uy N hN ω) λ_ _=>bw (λ_=>ak G.nil) λ_=>bo (AL N hN c ω hw) (bw (λ_=>ak G.nil) λ_=>bo (tW N ω hN) (bw (λ_=>ak G.nil) λ_=>iH (len:=13) (F:=λn i s=>dv.l5 N n d u L l s i) (λi s=>L2 i s) (λn i s hi hI hr=> ?_) (λn s hI=> ?_) 13 N 1 [] ω ω ω G.nil))
 all_goals unfold dv.l5 dv.eg
 ·have hs:=hI.1
  refine dY (λ_=> ?_) λ_=>ω
  refine bc (len:=d.length) (F:=λn' j (z:Int×Bool)=>dv.l9 N (dv.l5 N n) n' d u L l s (i:Int) z.1 z.2 j) (s:=(_,_)) (λ_ z=>aD z.1) bJ ω (λn' j z hj hz eO=> ?_) (λn' z hz=> ?_)
  all_goals unfold dv.l9 dv.xK
  ·rw[ay (x:=(j:Int)+1) ω ω,ag j]
   exact aw (λ_=>aB ⟨ω,ω⟩ (ok_eq (λ_=>aB ⟨ω,ω⟩ (eO (_,_) (G.at hd _).2.1)) λ_=>eO z hz)) λ_=>ω
  ·refine aw (λ_=>ω) λ_=>bc (len:=u.length) (F:=λn' j f=>dv.I5 N (dv.l5 N n) n' d u L l s (i:Int) z.1 f j) (λ_ _=>True) trivial ω (λn' j f hj _ eO=> ?_) (λn' f _=> ?_)
   all_goals unfold dv.I5 dv.F6
   ·rw[ay (x:=(j:Int)+1) ω ω,ag j]
    exact aw (λ_=>pj (λ_=>eO _ trivial) λ_=>aB ⟨ω,ω⟩ (eO _ trivial)) λ_=>ω
   ·refine aw (λ_=>ω) λ_=>bc (len:=l.length) (F:=λn' j f=>dv.Hh N (dv.l5 N n) n' d u L l s (i:Int) z.1 f j) (λ_ _=>True) trivial ω (λn' j f hj _ eO=> ?_) (λn' f _=> ?_)
    all_goals unfold dv.Hh dv.DJ
    ·rw[ay (x:=(j:Int)+1) ω ω,ag j]
     exact aw (λ_=>pj (λ_=>eO _ trivial) λ_=>aB ⟨ω,ω⟩ (eO _ trivial)) λ_=>ω
    ·rw[ay (x:=(i:Int)+1) ω ω,ag i]
     dsimp only
     exact aw (λ_=>ω) λ_=>pj (λ_=>af (XG N hN _ hm hL hl) λv hv=>aC (by rw[aI];omega) (hr _ (G.cat hI (G.one (m:=1) (G2 (iT ω ω) (A4 hz hv)) (aG 1))))) λ_=>hr s (G.mono ω hI)
 ·exact dY (λ_=>ω) λ_=>ak (G.mono ω hI)
theorem XH(N:Nat)(hN:200000≤N){l:aE}(hl:l.length≤100000)(a:Int):Ok (λ_=>True) (rJ N l a):=by
 unfold rJ rJ.b
 refine af (ub N hN hl) λ_ _=>bw (λ_=>e7) λ_=>lZ (len:=l.length) (F:=λn i=>rJ.l4 N n l a i) ω (λn i hi hr=> ?_) (λn=> ?_)
 all_goals unfold rJ.l4 rJ.eK
 ·rw[ay (x:=(i:Int)+1) ω ω,ag i]
  exact aw (λ_=>aB ⟨ω,ω⟩ (ok_eq (λ_=>aB ⟨ω,ω⟩ e7) λ_=>hr)) λ_=>ω
 ·exact aw (λ_=>ω) λ_=>e7
theorem KZ(N:Nat)(a:Int):Ok (λ_=>True) (XI N a):=by
 unfold XI
 exact ok_eq (λ_=>e7) λ_=>e7
theorem Gj(N:Nat)(hN:5000000≤N)(c:ae){b:an}{d:aE}{m:Nat}(hm:m≤50000)(hb:G m aK b)(hd:L2 m d)(a k:Int):Ok (λr=>G m (.slice (.int .i64)) r.1) (rK N c b d a k):=by
 have hl:=hb.1.1
 have h2:=hd.1
 unfold rK rK.b
 refine bo (dH N hN hm hb) (bw (λ_=>ak G.nil) λ_=>af (ub N ω ω) λ_ _=>bw (λ_=>ak G.nil) λ_=>bc (len:=b.1.length) (F:=λn i s=>rK.l5 N n d a k b s i) (λi s=>G i (.slice (.int .i64)) s) G.nil ω (λn i s hi hI hr=> ?_) (λn s hI=> ?_))
 all_goals unfold rK.l5 rK.eg
 ·have hs:=hI.1
  rw[ay (x:=(i:Int)+1) ω ω,ag i]
  have h1:=hr s (G.mono ω hI)
  have hx:G 0 (.int .i64) (b.1.getD (i:Int).toNat cA).1:=(G.at hb.1 _).1
  exact aw (λ_=>aB ⟨ω,ω⟩ (af (KZ N _) λ_ _=>pj (λ_=>bq (λ_=>af (mw N ω hm hb.2.2.1 _ _) λ_ _=>aw (λ_=>af (XH N ω ω _) λ_ _=>ok_eq (λ_=>aC (by rw[aI];omega) (hr _ (G.cat hI (G.one hx (aG 1))))) λ_=>h1) λ_=>h1) λ_=>h1) λ_=>h1)) λ_=>ω
 ·exact aw (λ_=>ω) λ_=>ak (G.mono hl hI)
theorem A5(N:Nat)(hN:200000≤N){a:aL}{m:Nat}(hm:m≤50000)(h:G m (.slice eA) a)(id:Int):Ok aD (mq N a id):=by
 refine nG (qy N (cq h.1 ω) hN id) ?_
 unfold nr
 split
 ·have: ∀l:aL,(∀x∈l,G m eA x)→aD (nq id l):=by
   intro l
   induction l with
   |nil=>intro _;exact bJ
   |cons x t ih=>
    intro hx
    have hi:=ih λy hy=>hx y (aY _ hy)
    rw[sJ]
    split
    ·split
     ·exact(hx x (bg ..)).1
     ·exact hi
    ·exact hi
  exact this a h.2
 ·exact bJ
abbrev L5(m:Nat)(l:bK):Prop:=G m (.slice tb) l
theorem G5{m:Nat}{a b c d e:Int}(ha:aD a)(hb:aD b)(hc:aD c)(hd:aD d)(he:aD e):G m tb (a,(b,(c,(d,(e,()))))):=⟨ha,hb,hc,hd,he,trivial⟩
theorem K0(N:Nat)(hN:200000≤N){l:bK}{b:an}{m k:Nat}(hm:m≤50000)(hb:G m aK b)(hk:k≤1000000)(hl:L5 k l){a d n:Int}(ha:aD a)(hd:aD d)(hn:aD n):Ok (λr=>L5 (k+1) r) (K1 N l b a d n):=by
 have h1:=hl.1
 unfold K1
 exact af (mw N hN hm hb.2.2.1 _ _) λx hx=>aw (λ_=>aC (by rw[aI];omega) (ak (G.cat hl (G.one (m:=1) (G5 ha hd hn hx bJ) (aG 1))))) λ_=>ak (G.mono ω hl)
theorem N2(N:Nat)(hN:5000000≤N){c:ae}{b:an}{d g:aE}{a:Int}{m:Nat}(hm:m≤50000)(hc:G m aA c)(hb:G m aK b)(hd:L2 m d)(hg:L2 m g)(ha:aD a):Ok (λr=>L5 1000000 r.1) (cI N c b a d g):=by
 have h1:=hb.1.1
 have h2:=hd.1
 have h3:=hg.1
 have h4:=hb.2.1.1
 have hj: ∀l:bK,L5 1 l→Ok (λr=>L5 1000000 r.1) (cI.j9 N a d g c b l):=λl hl=>by
  unfold cI.j9 cI.Nl
  refine af (K0 N ω hm hb ω hl bk bk ha) λl hl=>af (K0 N ω hm hb ω hl bk bk bJ) λl hl=>iH (len:=5) (F:=λn k s=>cI.mU N n a d g c b s k) (λk s=>L5 (3+m*k) s) (λn k s hk hs hr=> ?_) (λn s hs=> ?_) 5 N 1 l ω ω ω (G.mono ω hl)
  all_goals unfold cI.mU cI.ns
  ·have hmk:m*k≤m*4:=lQ m ω
   refine dY (λ_=>af (Gj N hN c hm hb hd _ _) λt ht=> ?_) λ_=>ω
   have htl:=ht.1
   refine bc (len:=t.1.length) (F:=λn' j u=>cI.w4 N (cI.mU N n) n' a d g c b u (k:Int) t.1 j) (λj u=>L5 (3+m*k+j) u) hs ω (λn' j u hj hu eO=> ?_) (λn' u hu=> ?_)
   all_goals unfold cI.w4 cI.vH
   ·rw[ay (x:=(j:Int)+1) ω ω,ag j]
    exact aw (λ_=>aB ⟨ω,ω⟩ (af (K0 N ω hm hb ω hu (fU _) bk (G.at ht _)) λv hv=>eO v hv)) λ_=>ω
   ·rw[ay (x:=(k:Int)+1) ω ω,ag k]
    exact aw (λ_=>ω) λ_=>hr u (G.mono (by rw[qO];omega) hu)
  ·refine dY (λ_=>ω) λ_=>bc (len:=b.1.length) (F:=λn j u=>cI.HY N n a g c b u j) (λj u=>L5 (3+m*5+j) u) hs ω (λn j u hj hu hr=> ?_) (λn u hu=> ?_)
   all_goals unfold cI.HY cI.NZ
   ·have Hi:=hu.1
    have hx:aD (b.1.getD (j:Int).toNat cA).1:=(G.at hb.1 _).1
    rw[ay (x:=(j:Int)+1) ω ω,ag j]
    have h0:=hr u (G.mono ω hu)
    exact aw (λ_=>aB ⟨ω,ω⟩ (af (KZ N _) λ_ _=>bw (λ_=>h0) λ_=>ok_eq (λ_=>h0) λ_=>af (br N ω hc.2.2.1) λp hp=>af (mw N ω hm hb.2.2.1 _ _) λq hq=>af (br N ω hq) λq hq=>af (lK N ω ω ω hp hq) λy hy=>af (xf N hy) λv hv=>bw (λ_=>ak G.nil) λ_=>aw (λ_=>aC (by rw[aI];omega) (hr _ (G.mono ω (G.cat hu (G.one (m:=1) (G5 (show aD 8 from bk) (show aD 7 from bk) hx hv bJ) (aG 1)))))) λ_=>h0)) λ_=>ω
   ·refine aw (λ_=>ω) λ_=>bc (len:=g.length) (F:=λn j u=>cI.Nv N n a g b u j) (λj u=>L5 (3+m*5+m+j) u) (G.mono ω hu) ω (λn j u hj hu hr=> ?_) (λn u hu=> ?_)
    all_goals unfold cI.Nv cI.KF
    ·have Hi:=hu.1
     rw[ay (x:=(j:Int)+1) ω ω,ag j]
     have h0:=hr u (G.mono ω hu)
     dsimp only
     exact aw (λ_=>aB ⟨ω,ω⟩ (af (xT N ω hm hb.2.1 _) λx hx=>aB ⟨ω,ω⟩ (aB ⟨ω,ω⟩ (af (mw N ω hm hb.2.2.1 _ _) λq hq=>pj (λ_=>bq (λ_=>aw (λ_=>aC (by rw[aI];omega) (hr _ (G.mono ω (G.cat hu (G.one (m:=1) (G5 (show aD 9 from bk) (show aD 5 from bk) hx.1 (Xr (G.at hg _).2.1 hq) bJ) (aG 1)))))) λ_=>h0) λ_=>h0) λ_=>h0)))) λ_=>ω
    ·exact aw (λ_=>ω) λ_=>ak (G.mono ω hu)
 unfold cI cI.b
 exact bo (dH N hN hm hb) (bw (λ_=>ak G.nil) λ_=>af (ub N ω ω) λ_ _=>bw (λ_=>ak G.nil) λ_=>af (B1 N ω ω) λ_ _=>bw (λ_=>ak G.nil) λ_=>af (oD N ω hm hb.1 _) λ_ _=>ok_eq (λ_=>ak G.nil) λ_=>af (A5 N ω hm hb.2.1 _) λh hh=>bq (λ_=>af (K0 N ω hm hb ω (G.nil (m:=0)) bk bk hh) λl hl=>hj l hl) λ_=>hj [] G.nil)
end VM
end
section
namespace VM
open Go VM.F
theorem Jl(N:Nat)(hN:5000000≤N)(c:ae){b:an}{m:Nat}(hm:m≤50000)(hb:G m aK b):Ok (λr=>aD r.1) (aaX N c b):=by
 unfold aaX
 exact bo (dH N hN hm hb) (bw (λ_=>ak bJ) λ_=>af (mw N ω hm hb.2.2.1 _ _) λx hx=>ok_eq (λ_=>ak bJ) λ_=>ak (A4 (fU _) bJ))
theorem Gk(N:Nat)(hN:5000000≤N)(c:ae){b:an}{m:Nat}(hm:m≤50000)(hb:G m aK b):Ok (λr=>aD r.1) (aaY N c b):=by
 unfold aaY
 exact bo (dH N hN hm hb) (bw (λ_=>ak bJ) λ_=>af (mw N ω hm hb.2.2.1 _ _) λx hx=>ak (A4 hx bJ))
theorem aib(N:Nat)(a b:Int):Ok (λ_=>True) (Qo N a b):=by
 unfold Qo
 repeat' first|exact e7|refine ok_eq (λ_=> ?_) (λ_=> ?_)|refine dY (λ_=> ?_) (λ_=> ?_)
theorem Uz(N:Nat)(hN:200000≤N)(l:bK):Ok (λr=>r=true→l.length≤64) (rL N l):=by
 have hf:Ok (λr=>r=true→l.length≤64) (some false):=ak λh=>nomatch h
 unfold rL rL.b
 refine aw (λ_=>hf) λhl=>lZ (len:=l.length) (F:=λn i=>rL.l4 N n l i) ω (λn i hi hr=> ?_) (λn=> ?_)
 all_goals unfold rL.l4 rL.eK
 ·rw[ay (x:=(i:Int)+1) ω ω,ag i]
  dsimp only
  repeat' first|exact hr|exact hf|refine aB ⟨ω,ω⟩ ?_|refine aB (by rw[ay (x:=(i:Int)-1) ω ω];omega) ?_|refine aw (λ_=> ?_) (λ_=> ?_)|refine dY (λ_=> ?_) (λ_=> ?_)|refine ok_eq (λ_=> ?_) (λ_=> ?_)|(exfalso;omega)|refine af (aib N _ _) λ_ _=> ?_|refine bw (λ_=> ?_) (λ_=> ?_)
 ·exact aw (λ_=>ω) λ_=>ak λ_=>ω
theorem SD{σ β:Type}{P:β→Prop}{F:Nat→Int→σ→Option β}{len:Nat}(I:σ→Prop)
  (hs: ∀n i s,i<len→I s→(∀j s',i<j→j≤len→I s'→Ok P (F n (j:Int) s'))→Ok P (F (n+1) (i:Int) s)) (he: ∀n s,I s→Ok P (F (n+1) (len:Int) s)):
  ∀m n i s,len-i≤m→m<n→i≤len→I s→Ok P (F n (i:Int) s)
 |m,0,i,s,_,hn,_,_=>ω
 |m,n+1,i,s,hm,hn,hi,hI=>by
  by_cases h:i<len
  ·exact hs n i s h hI λj s' hj Y7 yD=>SD I hs he (m-1) n j s' ω ω Y7 yD
  ·have:i=len:=ω
   subst this
   exact he n s hI
theorem G5q{m:Nat}{x:ta}{q:Int}(h:G m tb x)(hq:aD q):G m tb (x.1,(x.2.1,(x.2.2.1,(x.2.2.2.1,(q,x.2.2.2.2.2))))):=⟨h.1,h.2.1,h.2.2.1,h.2.2.2.1,hq,trivial⟩
theorem amX: ∀{w:List Int},Pos w→0≤w.sum
 |[],_=>fJ _
 |x::t,h=>by
  rw[cz]
  have:=h x (bg ..)
  have:=amX (w:=t) λy hy=>h y (aY _ hy)
  omega
theorem UA{t:Int}{w:List Int}(h1:t<9223372036854775808)(h:(rz t w).2=0):(rz t w).1.length=w.length∧I1 (rz t w).1:=by
 unfold rz at h ⊢
 split at h
 ·exact absurd h δ
 ·split at h
  ·exact absurd h δ
  ·rename_i h2 h3
   split at h
   ·split at h
    ·rename_i h4 h5
     rw[ah h2,ah h3,aj h4,aj h5]
     exact⟨cU ..,λx hx=>by rw[zv hx];decide⟩
    ·exact absurd h δ
   ·rename_i h4
    rw[ah h2,ah h3,ah h4]
    have hm:may w=true:=by
     by_cases hm:may w=true
     ·exact hm
     ·exact absurd (Or.inr (vW.2 hm)) h2
    have hp:=(oR.1 hm).2
    have h0:0≤t:=ω
    have hS:0<w.sum:=by have:=amX hp;omega
    exact⟨oC t w,af8 (u6 h0 hS hp) (by rw[u5 h0 hS];exact h1)⟩
theorem aaZ{α:Type}{Q:α→Prop}{l:List α}{x:α}{k:Nat}(h: ∀y∈l,Q y)(hx:Q x): ∀y∈l.set k x,Q y:=λy hy=>by
 rcases xy hy with hy|rfl
 ·exact h y hy
 ·exact hx
theorem SE{α:Type}{Q:α→Prop}{l:List α}{d:α}{k:Nat}(h: ∀y∈l,Q y)(hk:k<l.length):Q (l.getD k d):=by
 rw[aU,bl hk];exact h _ (dA hk)
theorem Jm(N:Nat)(hN:5000000≤N){l:bK}{q:Int}{Q:ta→Prop}(hQ: ∀x,Q x→aD x.2.2.2.1)(hU: ∀(x:ta) (v:Int),Q x→aD v→Q (x.1,(x.2.1,(x.2.2.1,(x.2.2.2.1,(v,x.2.2.2.2.2))))))(hl: ∀x∈l,Q x)(hq:aD q):Ok (λr=>(r.1.length≤64∧ ∀x∈r.1,Q x)∧aD r.2.1) (dD N l q):=by
 have dI: ∀e:Int,Ok (λr:bK×Int×Int=>(r.1.length≤64∧ ∀x∈r.1,Q x)∧aD r.2.1) (some ([],((0:Int),e))):=λe=>ak ⟨⟨bp _,λx hx=>nomatch hx⟩,bJ⟩
 unfold dD dD.b
 refine af (Uz N ω l) λz hz=>bw (λ_=>dI _) λht=>aw (λ_=>dI _) λ_=> ?_
 have nV:=hz ht
 rw[cL]
 refine aC (by rw[bT];omega) (SD (len:=l.length) (F:=λn i (s:bK×Int)=>dD.l5 N n s.1 s.2 i) (λs=>s.1.length=l.length∧(∀x∈s.1,Q x)∧aD s.2) (λn i s hi hI hr=> ?_) (λn s hI=> ?_) l.length N 0 (l,q) ω ω ω ⟨rfl,hl,hq⟩)
 all_goals unfold dD.l5 dD.eg
 ·obtain⟨Ly,TJ,hs3⟩:=hI
  refine aw (λ_=> ?_) λ_=>ω
  have fin: ∀(k:Nat) (w:List Int),i<k→k≤l.length→w.length=k-i→I1 w→Ok (λr=>(r.1.length≤64∧ ∀x∈r.1,Q x)∧aD r.2.1) (dD.Jj N (dD.l5 N n) s.1 s.2 (i:Int) (k:Int) w):=λk w hk Hs hw F7=>by
   unfold dD.Jj dD.BZ
   have EX:aD (mn (BG w.sum).1 s.2):=Xr (Xl _) hs3
   refine bo (y6 N ω F7 ω) (bo (ri N _) (bw (λ_=>dI _) λ_=>bo (BU N hN EX.2 F7 ω) (bq (λ_=>dI _) λh0=> ?_)))
   obtain⟨e1,e2⟩:=UA EX.2 h0
   generalize (rz (mn (BG w.sum).1 s.2) w).1=v at*
   refine iH (len:=k) (F:=λn' j (z:bK×Int)=>dD.Hh N (dD.l5 N n) n' z.1 z.2 (i:Int) (k:Int) v j) (λj z=>i≤j∧z.1.length=l.length∧(∀x∈z.1,Q x)∧aD z.2) (λn' j z hj hz eO=> ?_) (λn' z hz=> ?_) k N i s ω ω ω ⟨aG i,Ly,TJ,hs3⟩
   all_goals unfold dD.Hh dD.DJ
   ·obtain⟨pQ,Cv,Hg,hz3⟩:=hz
    dsimp only
    rw[ay (x:=(j:Int)+1) ω ω,ag j,ay (x:=(j:Int)-i) ω ω]
    exact aw (λ_=>aB ⟨ω,ω⟩ (aB ⟨ω,ω⟩ (aB ⟨ω,ω⟩ (eO (_,_) ⟨ω,by dsimp only;rw[List.length_set];exact Cv,aaZ Hg (hU _ _ (SE Hg ω) (tN e2 _)),fU _⟩)))) λ_=>ω
   ·exact aw (λ_=>ω) λ_=>hr k z hk Hs hz.2
  refine iH (len:=l.length) (F:=λn' k w=>dD.l8 N (dD.l5 N n) n' s.1 s.2 (i:Int) k w) (λk w=>i≤k∧w.length=k-i∧I1 w) (λn' k w hk hw eO=> ?_) (λn' w hw=> ?_) l.length N i [] ω ω ω ⟨aG i,by rw[bT];omega,λx hx=>nomatch hx⟩
  all_goals unfold dD.l8 dD.yn
  ·obtain⟨hik,hwl,F7⟩:=hw
   rw[ay (x:=(k:Int)+1) ω ω,ag k]
   refine aw (λ_=>aB ⟨ω,ω⟩ (aB ⟨ω,ω⟩ (ok_eq (λ_=>aB ⟨ω,ω⟩ (aC (by rw[aI];omega) (eO _ ⟨ω,by rw[aS,aI];omega,λx hx=> ?_⟩))) λjB=> ?_))) λ_=>ω
   ·rcases ba.1 hx with hx|hx
    ·exact F7 x hx
    ·rw[bV.1 hx];exact hQ _ (SE TJ ω)
   ·refine fin k w ?_ ω hwl F7
    by_cases e:k=i
    ·subst e;exact absurd rfl jB
    ·omega
  ·exact aw (λ_=>ω) λ_=>fin l.length w hi (aG _) hw.2.1 hw.2.2
 ·exact aw (λ_=>ω) λ_=>ak ⟨⟨by have:=hI.1;dsimp only;omega,hI.2.1⟩,hI.2.2⟩
theorem QV(N:Nat)(hN:5000000≤N){l:bK}{q:Int}{m:Nat}(hl:L5 m l)(hq:aD q):Ok (λr=>L5 64 r.1∧aD r.2.1) (dD N l q):=
 Jm N hN (Q:=G 64 tb) (λx hx=>hx.2.2.2.1) (λx v hx hv=>G5q hx hv) (λx hx=>G.mono (m:=0) (bp _) (hl.2 x hx)) hq
abbrev R0:dK:=((0:Int),((0:Int),(([]:bK),((0:Int),()))))
theorem Jn(N:Nat)(hN:5000000≤N){c:ae}{b:an}{d g:aE}{a:Int}{m:Nat}(h2:200≤m)(hm:m≤40000)(hc:G m aA c)(hb:G m aK b)(hd:L2 m d)(hg:L2 m g)(ha:aD a):Ok (λr=>G m aK r.1∧G m gM r.2.1) (iw N c b a d g):=by
 have dI: ∀e:Int,Ok (λr:an×dK×Int=>G m aK r.1∧G m gM r.2.1) (some ((cn,(c9,(bH,(bH,(dB,(dR,())))))),(R0,e))):=λe=>ak ⟨G.iU,G.zero m gM⟩
 unfold iw iw.b
 refine af (N2 N hN ω hc hb hd hg ha) λl hl=>ok_eq (λ_=>dI _) λ_=>ok_eq (λ_=>dI _) λ_=>af (Jl N hN c ω hb) λq hq=>bq (λ_=>dI _) λ_=>bq (λ_=>dI _) λ_=>af (QV N hN hl hq) λz ⟨Cv,Hg⟩=>bq (λ_=>dI _) λ_=> ?_
 have hzl:=Cv.1
 have hj: ∀(p:bE) (r:dK) (t:bK) (x k n:Int),jV 1000 p→G m gM r→L5 64 t→aD x→Ok (λr=>G m aK r.1∧G m gM r.2.1) (iw.j26 N b (cn,(c9,(bH,(bH,(dB,(dR,())))))) R0 p r t x k n):=λp r t x k n hp hr ht hx=>by
  have Hu:=hp.1
  unfold iw.j26 iw.aa0
  exact af (br N ω hx) λv hv=>af (sT N ω _ _ _ _ (Bg.mono hv ω)) λu hu=>aC (by have:=hu.1;omega) (af (sS N ω h2 ω hb G.nil (jV.mono (jV.app hp hu) ω)) λw hw=>bq (λ_=>dI _) λ_=>ak ⟨hw,hr.1,hr.2.1,G.mono ω ht,hr.2.2.2⟩)
 refine bc (len:=z.1.length) (F:=λn i (s:bE×dK×bK)=>iw.IP N n a c b (cn,(c9,(bH,(bH,(dB,(dR,())))))) R0 z.1 z.2.1 s.1 s.2.1 s.2.2 i) (s:=(_,(_,_))) (λi s=>jV (2*i) s.1∧G m gM s.2.1∧L5 i s.2.2) ⟨jV.nil,⟨ha,hq,G.nil,Hg,trivial⟩,G.nil⟩ ω (λn i s hi hI hr=> ?_) (λn s hI=> ?_)
 all_goals unfold iw.IP iw.HO
 ·obtain⟨h4,h5,h6⟩:=hI
  have hp:=h4.1
  have ht:=h6.1
  have hx:G 0 tb (z.1.getD (i:Int).toNat mL):=G.at Cv _
  rw[ay (x:=(i:Int)+1) ω ω,ag i]
  exact aw (λ_=>aB ⟨ω,ω⟩ (aw (λ_=>aB ⟨ω,ω⟩ (aC (by rw[aI];omega) (aB ⟨ω,ω⟩ (aB ⟨ω,ω⟩ (aB ⟨ω,ω⟩ (af (br N ω hx.2.2.2.2.1) λv hv=>af (sT N ω _ _ _ _ (Bg.mono hv ω)) λu hu=>aC (by have:=hu.1;omega) (hr (_,(_,_)) ⟨jV.mono (jV.app h4 hu) ω,⟨h5.1,h5.2.1,G.nil,h5.2.2.2⟩,G.cat h6 (G.one hx (aG 1))⟩))))))) λ_=>hr s ⟨jV.mono h4 ω,h5,G.mono ω h6⟩)) λ_=>ω
 ·obtain⟨h4,h5,h6⟩:=hI
  have hp:=h4.1
  dsimp only
  exact aw (λ_=>ω) λ_=>af (br N ω Hg) λv hv=>af (sT N ω _ _ _ _ (Bg.mono hv ω)) λu hu=>aC (by have:=hu.1;omega) (af (Gk N hN c ω hb) λx hx=>af (A5 N ω ω hb.2.1 _) λh hh=>bq (λ_=>hj _ _ _ _ _ _ (jV.mono (jV.app h4 hu) ω) h5 (G.mono ω h6) hx) λ_=>hj _ _ _ _ _ _ (jV.mono (jV.app h4 hu) ω) h5 (G.mono ω h6) hx)
end VM
end
section
namespace VM
open Go VM.F
theorem UB(N:Nat)(hN:5000000≤N){t:Int}{w:List Int}(ht:t<9223372036854775808)(hw:I1 w)(hl:w.length≤1000000):Ok (λr=>r.2.2=0→r.1.length=w.length∧I1 r.1) (eN N t w w):=by
 refine nG (Gc N hN ht hw hw hl) λh0=> ?_
 have f:=Gd ht hw h0
 have c:=f.c
 have hl2:=c.l2
 refine⟨hl2,λx hx=> ?_⟩
 obtain⟨i,hi,e⟩:=gm hx
 have h1:=c.le i ω
 have h2:=(c.pc i).2
 have h3:=c.po i
 rw[aU (l:=(sR t w w).1),bl hi,m1,e]at h1 h3
 exact⟨ω,ω⟩
theorem aa1(N:Nat)(hN:5000000≤N)(c:ae){b:an}{m:Nat}(hm:m≤40000)(hb:G m aK b){a:Int}(ha:aD a):Ok (λr=>L3 (m+1) r.1) (fE N c b a):=by
 have w:=(G.wf ω hb).w
 have hl:=hb.2.2.2.1.1
 unfold fE fE.b
 refine bo (dH N hN ω hb) (bw (λ_=>ak G.nil) λ_=>aw (λ_=>ak G.nil) λ_=>dY (λ_=>ak G.nil) λ_=>bo (AO N w.s ω 0 a) (ok_eq (λ_=>ak G.nil) λ_=> ?_))
 have hq:=QJ w.qs 0 a
 generalize dN b.2.2.2.1 0 a=q at*
 refine bc (len:=b.2.2.2.1.length) (F:=λn i (s:List Int×List Int)=>fE.BY N n a b q s.1 s.2 i) (s:=(_,_)) (λi s=>s.1.length≤i∧s.2.length=s.1.length∧I1 s.1∧I1 s.2) ⟨bp _,rfl,(λx hx=>nomatch hx),λx hx=>nomatch hx⟩ ω (λn i s hi hI hr=> ?_) (λn s hI=> ?_)
 all_goals unfold fE.BY fE.zg
 ·obtain⟨h1,h2,h3,h4⟩:=hI
  have hx:G 0 jv (b.2.2.2.1.getD (i:Int).toNat bm):=G.at hb.2.2.2.1 _
  rw[ay (x:=(i:Int)+1) ω ω,ag i]
  have h0:=hr s ⟨ω,h2,h3,h4⟩
  have sn: ∀{l:List Int} {x:Int},I1 l→aD x→I1 (l++[x]):=λhl hx y hy=>(ba.1 hy).elim (hl y) λhy=>by rw[bV.1 hy];exact hx
  dsimp only
  exact aw (λ_=>aB ⟨ω,ω⟩ (bq (λ_=>ok_eq (λ_=>pj (λ_=>aC (by rw[List.length_singleton];omega) (aC (by rw[List.length_singleton];omega) (hr (_,_) ⟨by dsimp only;rw[List.length_append,List.length_singleton];omega,by dsimp only;rw[List.length_append,List.length_append,List.length_singleton,List.length_singleton];omega,sn h3 hx.1,sn h4 (A4 hx.2.2.1 (fU _))⟩))) λ_=>h0) λ_=>h0) λ_=>h0)) λ_=>ω
 ·obtain⟨h1,h2,h3,h4⟩:=hI
  refine aw (λ_=>ω) λ_=>af (UB N hN (A4 hq (fU _)).2 h4 ω) λz hz=>bq (λ_=>ak G.nil) λh0=> ?_
  obtain⟨e1,e2⟩:=hz h0
  refine bc (len:=z.1.length) (F:=λn i u=>fE.UC N n a q s.1 z.1 u i) (λi u=>L3 (1+i) u) (G.one (m:=1) (G3 bJ ha (fU _)) (aG 1)) ω (λn i u hi hu hr=> ?_) (λn u hu=> ?_)
  all_goals unfold fE.UC fE.XJ
  ·have Hi:=hu.1
   rw[ay (x:=(i:Int)+1) ω ω,ag i]
   have h0:=hr u (G.mono ω hu)
   have put: ∀x:Int,aD x→Ok (λr=>L3 (m+1) r.1) (cond (small (u.length+[((s.1.getD (i:Int).toNat 0,(a,(x,()))):dh)].length)) (fE.UC N n a q s.1 z.1 (u++[(s.1.getD (i:Int).toNat 0,(a,(x,())))]) ((i+1:Nat):Int)) none):=λx hx=>aC (by rw[aI];omega) (hr _ (G.mono ω (G.cat hu (G.one (m:=1) (G3 (tN h3 _) ha hx) (aG 1)))))
   dsimp only
   exact aw (λ_=>aB ⟨ω,ω⟩ (aw (λ_=>bq (λ_=>aB ⟨ω,ω⟩ (put _ (fU _))) λ_=>h0) λ_=>bq (λ_=>aB ⟨ω,ω⟩ (put _ (tN e2 _))) λ_=>h0)) λ_=>ω
  ·exact aw (λ_=>ω) λ_=>ak (G.mono ω hu)
theorem SF(N:Nat)(hN:5000000≤N){c:ae}{b:an}{m:Nat}(h2:200≤m)(hm:m≤7000)(hc:G 5 aA c)(hb:G m aK b):Ok (λr=>G m aK r.1) (nM N c b):=by
 have Mt:=hc.1.1
 unfold nM nM.b
 refine bo (dH N hN ω hb) (bw (λ_=>ak G.iU) λ_=>bc (len:=c.1.length) (F:=λn i s=>nM.l5 N n c b (cn,(c9,(bH,(bH,(dB,(dR,())))))) s i) (λi s=>L3 ((m+1)*i) s) G.nil ω (λn i s hi hI hr=> ?_) (λn s hI=> ?_))
 all_goals unfold nM.l5 nM.eg
 ·have hs:=hI.1
  have XK:(m+1)*i≤(m+1)*5:=lQ _ ω
  rw[ay (x:=(i:Int)+1) ω ω,ag i]
  exact aw (λ_=>af (aa1 N hN c ω hb (iT ω ω)) λr hrr=>bq (λ_=>ak G.iU) λ_=>aC (by have:=hrr.1;omega) (hr _ (G.mono (by rw[qO];omega) (G.cat hI hrr)))) λ_=>ω
 ·have XK:(m+1)*c.1.length≤(m+1)*5:=lQ _ ω
  exact aw (λ_=>ω) λ_=>af (sS N ω h2 ω hb (G.mono ω hI) jV.nil) λr hr=>ak hr
end VM
end
section
namespace VM
open Go VM.F
theorem SG(N:Nat)(hN:200000≤N){l:aL}{m:Nat}(hm:m≤50000)(h:G m (.slice eA) l)(a:Int):Ok (λr=>G 0 eA r.1) (rM N l a):=by
 have hl:=h.1
 have hz:G 0 eA aV:=G.zero 0 eA
 unfold rM rM.b
 refine bo (tW N ω hN) (bw (λ_=>ak hz) λ_=>bc (len:=l.length) (F:=λn i (z:bM×Bool)=>rM.l6 N n l a aV z.1 z.2 i) (s:=(_,_)) (λ_ z=>G 0 eA z.1) hz ω (λn i z hi hI hr=> ?_) (λn z hI=> ?_))
 all_goals unfold rM.l6 rM.uN
 ·rw[ay (x:=(i:Int)+1) ω ω,ag i]
  have hx:G 0 eA (l.getD (i:Int).toNat aV):=G.at h _
  have h1:=hr z hI
  have h2:=hr (_,true) hx
  repeat' first|exact h1|exact h2|refine aB ⟨ω,ω⟩ ?_|refine aw (λ_=> ?_) (λ_=> ?_)|refine ok_eq (λ_=> ?_) (λ_=> ?_)|refine bw (λ_=> ?_) (λ_=> ?_)|(exfalso;omega)
 ·exact aw (λ_=>ω) λ_=>ak hI
theorem GL{m:Nat}{a b d e f:Int}{l:aE}(ha:aD a)(hl:L2 m l)(hb:aD b)(hd:aD d)(he:aD e)(hf:aD f):G m jm (a,(l,(b,(d,(e,(f,())))))):=⟨ha,hl,hb,hd,he,hf,trivial⟩
theorem LL.app{m:Nat}{k:Nat}{l:bA}{x:iA}(hl:l.length≤k∧ ∀y∈l,G m jm y)(hx:G m jm x):(l++[x]).length≤k+1∧ ∀y∈l++[x],G m jm y:=
 ⟨by rw[aS,aI];have:=hl.1;omega,λy hy=>(ba.1 hy).elim (hl.2 y) λhy=>by rw[bV.1 hy];exact hx⟩
theorem N3(N:Nat)(hN:5000000≤N)(c:ae){b:an}{L:bA}{l:aL}{m:Nat}(h2:200≤m)(hm:m≤2000)(hb:G m aK b)(hL:LL m L)(hl:G m (.slice eA) l):Ok (λr=>G m aK r.1∧LL m r.2.1) (fL N c b L l):=by
 have dI: ∀e:Int,Ok (λr:an×bA×Int=>G m aK r.1∧LL m r.2.1) (some ((cn,(c9,(bH,(bH,(dB,(dR,())))))),([],e))):=λe=>ak ⟨G.iU,G.nil⟩
 have h3:=hL.1
 have h4:=hl.1
 have hw:IW L:=λy hy=>cq (hL.2 y hy).2.1.1 ω
 unfold fL fL.b
 refine bo (dH N hN ω hb) (bw (λ_=>dI _) λ_=>bo (AL N ω c ω hw) (bw (λ_=>dI _) λhk=>bo (tW N ω ω) (bw (λ_=>dI _) λ_=> ?_)))
 have h12:L.length≤12:=by
  unfold BO at hk
  exact bz (cK.1 (cK.1 hk).2).1
 refine bc (len:=L.length) (F:=λn i (z:au×bE×bA)=>fL.l7 N n L l b (cn,(c9,(bH,(bH,(dB,(dR,())))))) z.1 z.2.1 z.2.2 i) (s:=(_,(_,_))) (λi z=>L3 (2*m*i) z.1∧jV (2*i) z.2.1∧z.2.2.length≤i∧ ∀y∈z.2.2,G m jm y) ⟨G.nil,jV.nil,bp _,λy hy=>nomatch hy⟩ ω (λn i z hi hI hr=> ?_) (λn z hI=> ?_)
 all_goals unfold fL.l7 fL.rj
 ·obtain⟨h5,h6,h7⟩:=hI
  have h8:=h6.1
  have h9:=h7.1
  have XK:2*m*i≤2*m*12:=lQ _ ω
  have hms:2*m*(i+1)=2*m*i+2*m:=qO _ _
  have hx:G m jm (L.getD (i:Int).toNat ((0:Int),(cn,aV))):=G.at hL _
  have hxl:=hx.2.1.1
  rw[ay (x:=(i:Int)+1) ω ω,ag i]
  dsimp only
  rw[cL]
  have put: ∀x:iA,G m jm x→Ok (λr=>G m aK r.1∧LL m r.2.1) (cond (small (z.2.2.length+[x].length)) (fL.l7 N n L l b (cn,(c9,(bH,(bH,(dB,(dR,())))))) z.1 z.2.1 (z.2.2++[x]) ((i+1:Nat):Int)) none):=λx hx=>aC (by rw[aI];omega) (hr (z.1,(z.2.1,z.2.2++[x])) ⟨G.mono ω h5,jV.mono h6 ω,LL.app h7 hx⟩)
  refine aw (λ_=>aB ⟨ω,ω⟩ (aC (by rw[bT];omega) (bq (λ_=>put _ hx) λ_=>af (SG N ω ω hl _) λw hw=>bw (λ_=>put _ (GL hx.1 hx.2.1 hx.2.2.1 (show aD 3 from bk) hx.2.2.2.2.1 hx.2.2.2.2.2.1)) λ_=>af (A5 N ω ω hb.2.1 _) λh hh=>ok_eq (λ_=>dI _) λ_=>af (qB N ω ω hb _) λ_ _=>ok_eq (λ_=>dI _) λ_=> ?_))) λ_=>ω
  have o0:=GL hx.1 hx.2.1 hx.2.2.1 (show aD 2 from bk) hw.2.2.1 hw.2.2.2.1
  generalize hX:(((L.getD (i:Int).toNat ((0:Int),(cn,aV))).1,((L.getD (i:Int).toNat ((0:Int),(cn,aV))).2.1,((L.getD (i:Int).toNat ((0:Int),(cn,aV))).2.2.1,((2:Int),(w.1.2.2.1,(w.1.2.2.2.1,())))))):iA)=X at o0
  have hXl:X.2.1.length≤m:=o0.2.1.1
  refine bc (len:=X.2.1.length) (F:=λn' j u=>fL.w5 N (fL.l7 N n) n' L l b (cn,(c9,(bH,(bH,(dB,(dR,())))))) u z.2.1 z.2.2 (i:Int) X w.1 h j) (s:=z.1) (λj u=>L3 (2*m*i+2*j) u) h5 ω (λn' j u hj hu eO=> ?_) (λn' u hu=> ?_)
  all_goals unfold fL.w5 fL.vI
  ·have Hi:=hu.1
   have hy:G m jD (X.2.1.getD (j:Int).toNat cA):=G.at o0.2.1 _
   dsimp only
   rw[ay (x:=(j:Int)+1) ω ω,ag j]
   exact aw (λ_=>aB ⟨ω,ω⟩ (aB ⟨ω,ω⟩ (aB ⟨ω,ω⟩ (aB ⟨ω,ω⟩ (aC (by rw[xU];omega) (eO _ (G.mono ω (G.cat hu (G.two (m:=2) (G3 bJ hy.1 (fU _)) (G3 hh hy.1 hy.2.1) (aG 2)))))))))) λ_=>ω
  ·refine aw (λ_=>ω) λ_=>af (br N ω hw.2.2.2.1) λv hv=>af (sT N ω _ _ _ _ (Bg.mono hv ω)) λp hp=>aC (by have:=hp.1;omega) (aC (by rw[aI];omega) ?_)
   rw[ay (x:=(i:Int)+1) ω ω,ag i]
   exact hr (_,(_,_)) ⟨G.mono ω hu,jV.mono (jV.app h6 hp) ω,LL.app h7 o0⟩
 ·obtain⟨h5,h6,h7⟩:=hI
  have XK:2*m*L.length≤2*m*12:=lQ _ ω
  exact aw (λ_=>ω) λ_=>af (sS N ω h2 ω hb (G.mono ω h5) (jV.mono h6 ω)) λr hr=>bq (λ_=>dI _) λ_=>ak ⟨hr,cq h7.1 ω,h7.2⟩
end VM
end
section
namespace VM
open Go VM.F
theorem N4{l:aL}(h:fC l=true):l.length≤24:=by
 unfold fC at h
 rw[fX]at h
 have h:=bz h
 have key: ∀i,i<l.length→(i:Int)+1≤(l.getD i aV).1:=by
  intro i
  induction i with
  |zero=>intro hi;exact(h 0 hi).1.1.1
  |succ i ih=>
   intro hi
   have h1:=ih ω
   have h2:(l.getD i aV).1<(l.getD (i+1) aV).1:=(h (i+1) hi).2.1 ω
   have g: ∀a b:Int,(i:Int)+1≤a→a<b→((i+1:Nat):Int)+1≤b:=λa b h1 h2=>ω
   exact g _ _ h1 h2
 by_cases hl:l.length≤24
 ·exact hl
 ·have h1:=key 24 ω
  have h2:=(h 24 ω).1.1.2
  have g: ∀a:Int,((24:Nat):Int)+1≤a→a≤24→False:=λa h1 h2=>ω
  exact(g _ h1 h2).elim
theorem Jo(N:Nat)(hN:5000000≤N){c:ae}{b:an}{m:Nat}(hm:m≤40000)(hc:G m aA c)(hb:G m aK b)(a:Int):Ok (λr=>aD r.1) (F60 N c b a):=by
 unfold F60 QE
 exact bo (dH N hN ω hb) (bw (λ_=>ak bJ) λ_=>af (xT N ω ω hb.2.1 _) λ_ _=>bw (λ_=>ak bJ) λ_=>af (NQ N ω ω hb.2.2.2.1 _) λl hl=>af (Q:=λr=>Bg 60000 r.1) (af (B2 N ω ω hc hl _) λr hr=>ak hr) λu hu=>af (ua N ω ω hb _) λg hg=>dY (λ_=>ak bJ) λ_=>af (xf N hu) λv hv=>pj (λ_=>aw (λ_=>ak hv) λ_=>ak hg) λ_=>ak hg)
theorem XL(N:Nat)(hN:200000≤N){l:au}{a d:Int}{m:Nat}(hm:m≤50000)(h:L3 m l)(ha:aD a)(hd:aD d):Ok (λr=>L3 (2*m) r) (iX N l a d):=by
 have hl:=h.1
 unfold iX iX.b
 refine bo (kQ N ω hN) (bw (λ_=>ak G.nil) λ_=>ok_eq (λ_=>ak G.nil) λ_=>aw (λ_=>ak G.nil) λ_=>aw (λ_=>ak G.nil) λ_=>aw (λ_=>ak G.nil) λ_=>aw (λ_=>ak G.nil) λ_=>bc (len:=l.length) (F:=λn i s=>iX.l5 N n l a d s i) (λi s=>L3 (2*i) s) G.nil ω (λn i s hi hI hr=> ?_) (λn s hI=> ?_))
 all_goals unfold iX.l5 iX.eg
 ·have hs:=hI.1
  have hx:=G.at h (i:Int).toNat
  dsimp only
  rw[ay (x:=(i:Int)+1) ω ω,ag i]
  have h1:=hr s (G.mono ω hI)
  exact aw (λ_=>aB ⟨ω,ω⟩ (ok_eq (λ_=>aB ⟨ω,ω⟩ (aB ⟨ω,ω⟩ (aB ⟨ω,ω⟩ (aB ⟨ω,ω⟩ (aC (by rw[xU];omega) (hr _ (G.mono ω (G.cat hI (G.two (m:=2) (G3 ha hx.2.1 (fU _)) (G3 hd hx.2.1 hx.2.2.1) (aG 2)))))))))) λ_=>h1)) λ_=>ω
 ·exact aw (λ_=>ω) λ_=>ak (G.mono ω hI)
theorem SH(N:Nat)(hN:5000000≤N){c:ae}{b:an}{m:Nat}(h2:200≤m)(hm:m≤1000)(hc:G m aA c)(hb:G m aK b)(a:Int):Ok (λr=>G m aK r.1) (mW N c b a):=by
 unfold mW mW.b
 refine bo (dH N hN ω hb) (bw (λ_=>ak G.iU) λhB=>af (qB N ω ω hb _) λ_ _=>ok_eq (λ_=>ak G.iU) λ_=> ?_)
 have hal:b.2.1.length≤24:=by
  unfold dx at hB
  have h1:=(cK.1 (cK.1 hB).2).1
  unfold pG at h1
  exact N4 (cK.1 (cK.1 h1).2).1
 refine bc (len:=b.2.1.length) (F:=λn i (z:au×bE)=>mW.l8 N n a c b (cn,(c9,(bH,(bH,(dB,(dR,())))))) z.1 z.2 i) (s:=(_,_)) (λi z=>L3 (2*m*i) z.1∧jV (4*i) z.2) ⟨G.nil,jV.nil⟩ ω (λn i z hi hI hr=> ?_) (λn z hI=> ?_)
 all_goals unfold mW.l8 mW.yn
 ·obtain⟨h5,h6⟩:=hI
  have h7:=h5.1
  have h8:=h6.1
  have XK:2*m*i≤2*m*24:=lQ _ ω
  have hms:2*m*(i+1)=2*m*i+2*m:=qO _ _
  have hx:G m eA (b.2.1.getD (i:Int).toNat aV):=G.at hb.2.1 _
  have hj: ∀p:bE,jV (4*i+2) p→Ok (λr=>G m aK r.1) (mW.Bl N (mW.l8 N n) a c b (cn,(c9,(bH,(bH,(dB,(dR,())))))) z.1 p (i:Int) (b.2.1.getD (i:Int).toNat aV)):=λp hp=>by
   have Hu:=hp.1
   unfold mW.Bl mW.vd
   rw[ay (x:=(i:Int)+1) ω ω,ag i]
   exact af (ua N ω ω hb _) λg hg=>aw (λ_=>af (br N ω hg) λv hv=>af (qA N ω ω hv) λv hv=>af (sT N ω _ _ _ _ (Bg.mono hv ω)) λu hu=>aC (by have:=hu.1;omega) (af (XL N ω ω hb.2.2.2.1 hx.1 bJ) λs hs=>aC (by have:=hs.1;omega) (hr (_,_) ⟨G.mono ω (G.cat h5 hs),jV.mono (jV.app hp hu) ω⟩))) λ_=>af (XL N ω ω hb.2.2.2.1 hx.1 bJ) λs hs=>aC (by have:=hs.1;omega) (hr (_,_) ⟨G.mono ω (G.cat h5 hs),jV.mono hp ω⟩)
  rw[ay (x:=(i:Int)+1) ω ω,ag i]
  exact aw (λ_=>aB ⟨ω,ω⟩ (bq (λ_=>hr z ⟨G.mono ω h5,jV.mono h6 ω⟩) λ_=>ok_eq (λ_=>af (Jo N hN ω hc hb _) λq hq=>af (br N ω hq) λv hv=>af (sT N ω _ _ _ _ (Bg.mono hv ω)) λu hu=>aC (by have:=hu.1;omega) (hj _ (jV.mono (jV.app h6 hu) ω))) λ_=>hj _ (jV.mono h6 ω))) λ_=>ω
 ·obtain⟨h5,h6⟩:=hI
  have XK:2*m*b.2.1.length≤2*m*24:=lQ _ ω
  exact aw (λ_=>ω) λ_=>af (sS N ω h2 ω hb (G.mono ω h5) (jV.mono h6 ω)) λr hr=>ak hr
abbrev GS(m:Nat)(s:aQ):Prop:=G m dt s
abbrev SR(m:Nat)(r:aQ×dh):Prop:=GS m r.1
theorem K2(N:Nat)(e:Int):Ok (λ_=>True) (fA N e):=by
 unfold fA;exact e7
theorem UD(N:Nat)(hN:5000000≤N){c:ae}{s:aQ}{e:gR}{m:Nat}(h2:200≤m)(hm:m≤1000)(hc:G m aA c)(hs:GS m s)(he:G 0 kZ e):Ok (SR m) (nN N c s e):=by
 have hhl:=hs.2.2.2.1.2.2.2.2.1.1
 unfold nN nN.b
 generalize ((0:Int),((0:Int),_))=S0
 refine bc (len:=s.2.2.2.1.2.2.2.2.1.length) (F:=λn i (z:aQ×aL×Bool×Int)=>nN.l5 N n c z.1 e S0 bm z.2.1 z.2.2.1 z.2.2.2 i) (s:=(_,(_,(_,_)))) (λi z=>GS m z.1∧z.1.2.2.2.1.2.2.2.2.1=s.2.2.2.1.2.2.2.2.1∧G i (.slice eA) z.2.1) ⟨hs,rfl,G.nil⟩ ω (λn i z hi hI hr=> ?_) (λn z hI=> ?_)
 all_goals unfold nN.l5 nN.eg
 ·obtain⟨hz,hh,ho⟩:=hI
  have Ir:=ho.1
  rw[hh,ay (x:=(i:Int)+1) ω ω,ag i]
  have hx:G 0 eA (s.2.2.2.1.2.2.2.2.1.getD (i:Int).toNat aV):=G.at hs.2.2.2.1.2.2.2.2.1 _
  refine aw (λ_=>aB ⟨ω,ω⟩ (ok_eq (λ_=>af (Sy N hN h2 ω hc hz.2.2.1 (G.mono (bp m) hx) he.2.2.1 he.2.2.2.2.2.2.1 he.2.2.2.2.2.2.2.1) λr ⟨y5,yS⟩=>bq (λ_=>af (K2 N _) λ_ _=>ak hz) λ_=> ?_) λ_=>aw (λ_=>aC (by rw[aI];omega) (hr (z.1,(z.2.1++[s.2.2.2.1.2.2.2.2.1.getD (i:Int).toNat aV],z.2.2)) ⟨hz,hh,G.cat ho (G.one hx (aG 1))⟩)) λ_=>hr z ⟨hz,hh,G.mono ω ho⟩)) λ_=>ω
  have Dq:GS m (z.1.1,(z.1.2.1,(r.1,z.1.2.2.2))):=⟨hz.1,hz.2.1,y5,hz.2.2.2⟩
  have aic:G 0 eA r.2.1:=yS
  exact aw (λ_=>aC (by rw[aI];omega) (hr ((z.1.1,(z.1.2.1,(r.1,z.1.2.2.2))),(z.2.1++[r.2.1],(true,r.2.1.2.2.2.1))) ⟨Dq,hh,G.cat ho (G.one aic (aG 1))⟩)) λ_=>hr ((z.1.1,(z.1.2.1,(r.1,z.1.2.2.2))),(z.2.1,(true,r.2.1.2.2.2.1))) ⟨Dq,hh,G.mono ω ho⟩
 ·obtain⟨hz,hh,ho⟩:=hI
  rw[hh]
  exact aw (λ_=>ω) λ_=>bw (λ_=>af (K2 N _) λ_ _=>ak hz) λ_=>ak ⟨hz.1,hz.2.1,hz.2.2.1,⟨hz.2.2.2.1.1,hz.2.2.2.1.2.1,hz.2.2.2.1.2.2.1,hz.2.2.2.1.2.2.2.1,G.mono hhl ho,hz.2.2.2.1.2.2.2.2.2⟩,hz.2.2.2.2⟩
end VM
end
section
namespace VM
open Go VM.F
theorem uc(N:Nat)(hN:4000000≤N){s:aQ}{q:Int}(hs:aD s.1)(hq:aD q):Ok (λr=>aD r.1) (UE N s q):=by
 unfold UE
 exact af (br N hN hs) λa ha=>af (br N hN hq) λb hb=>af (kT N hN ω ha hb) λx hx=>af (xf N hx) λv hv=>ak hv
theorem c7{α:Type}{P:α×dh→Prop}{N:Nat}{e:Int}{f:dh→Option (α×dh)}(h: ∀r,Ok P (f r)):Ok P ((fA N e).bind f):=af (K2 N e) λr _=>h r
theorem XM(N:Nat)(hN:5000000≤N){c:ae}{s:aQ}{e:gR}{m:Nat}(h2:200≤m)(hm:m≤999)(hc:G 5 aA c)(hs:GS m s)(he:G 0 kZ e):Ok (SR (m+1)) (nO N c s e):=by
 have DX:G m aA c:=G.mono ω hc
 have RG:GS (m+1) s:=G.mono ω hs
 obtain⟨s1,s2,s3,⟨k1,k2,k3,k4,k5,k6,k7,k8,k9,UF,XN⟩,s5⟩:=RG
 have hk:=hs.2.2.2.1
 have i2:aD 2:=bk
 have i3:aD 3:=bk
 have up: ∀{τ:Ty} {x:τ.den},G m τ x→G (m+1) τ x:=λh=>G.mono ω h
 have cc: ∀r:dh,Ok (SR (m+1)) (some (s,r)):=λr=>ak (up hs)
 unfold nO nO.b
 refine ok_eq (λ_=> ?_) λ_=>ok_eq (λ_=> ?_) λ_=>ok_eq (λ_=> ?_) λ_=>ok_eq (λ_=> ?_) λ_=>ok_eq (λ_=> ?_) λ_=>ok_eq (λ_=> ?_) λ_=>ok_eq (λ_=> ?_) λ_=>ok_eq (λ_=> ?_) λ_=>c7 λr=>cc r
 ·exact af (aaU N hN ω DX hs.2.2.1 _ he.2.1 _) λr hr=>c7 λ_=>ak ⟨s1,s2,up hr,(up hs).2.2.2⟩
 ·exact af (SH N hN h2 ω DX hs.2.2.1 _) λr hr=>c7 λ_=>ak ⟨s1,s2,up hr,⟨k1,i2,bJ,k4,k5,k6,k7,k8,k9,UF,XN⟩,s5⟩
 ·exact af (Uj N hN c hc.2.2.2.2.2.2.1 ω hs.2.2.1 _) λr hr=>ak ⟨s1,fU _,s3,⟨k1,k2,k3,k4,G.mono ω hr,k6,k7,k8,k9,UF,XN⟩,s5⟩
 ·exact af (UD N hN h2 ω DX hs he) λr hr=>ak (up hr)
 ·exact ok_eq (λ_=>c7 λr=>cc r) λ_=>af (aaW N hN h2 ω DX hs.2.2.1 hs.2.1) λl hl=>bq (λ_=>c7 λr=>cc r) λ_=>af (uc N ω hs.1 hc.2.2.2.2.1) λt ht=>bw (λ_=>c7 λr=>cc r) λ_=>af (Sz N hN c ω hs.2.2.1) λu hu=>ak ⟨s1,fU _,s3,⟨k1,i3,ht,fU _,G.nil,up hl,G.nil,up hu,k9,UF,XN⟩,s5⟩
 ·have hx:G 0 eA (s.2.1,(e.2.2.2.2.2.1,(e.2.1,(e.2.2.2.2.2.2.2.1,())))):=⟨hs.2.1,he.2.2.2.2.2.1,he.2.1,he.2.2.2.2.2.2.2.1,trivial⟩
  exact af (Jk N hN ω ω DX hs.2.2.1 hk.2.2.2.2.2.1 hk.2.2.2.2.2.2.1 hx) λr hr=>ak ⟨s1,fU _,s3,⟨k1,k2,k3,k4,k5,k6,hr,k8,k9,UF,XN⟩,s5⟩
 ·refine af (N3 N hN c h2 ω hs.2.2.1 hk.2.2.2.2.2.1 hk.2.2.2.2.2.2.1) λr ⟨y5,yS⟩=>bq (λ_=>c7 λr=>cc r) λ_=>af (N1 N ω c h2 ω hk.2.2.2.2.2.2.2.2.1 hk.2.2.2.2.2.2.2.1.1 yS hk.2.2.2.2.2.2.1) λd hd=> ?_
  generalize ((0:Int),((0:Int),_))=S0
  have Ig:=yS.1
  refine bc (len:=r.2.1.length) (F:=λn i q=>nO.l41 N n _ S0 bm r.2.1 q i) (λ_ _=>True) trivial ω (λn i q hi _ eO=> ?_) (λn q _=> ?_)
  all_goals unfold nO.l41 nO.aa2
  ·rw[ay (x:=(i:Int)+1) ω ω,ag i]
   exact aw (λ_=>aB ⟨ω,ω⟩ (ok_eq (λ_=>eO _ trivial) λ_=>eO _ trivial)) λ_=>ω
  ·exact aw (λ_=>ω) λ_=>ak ⟨s1,s2,up y5,⟨k1,i2,bJ,k4,k5,up yS,k7,k8,up hd,UF,XN⟩,s5⟩
 ·exact af (Jn N hN h2 ω DX hs.2.2.1 hk.2.2.2.2.2.2.2.2.1 hk.2.2.2.2.2.2.2.2.2.1 hk.1) λr ⟨y5,yS⟩=>bq (λ_=>c7 λr=>cc r) λ_=>af (SF N hN h2 ω hc y5) λb hb=>bq (λ_=>c7 λr=>cc r) λ_=>af (KX N ω ω hb.1 _ _) λu hu=>ak ⟨s1,s2,⟨up hu,(up hb).2⟩,G.zero (m+1) rN,up yS,trivial⟩
end VM
end
section
namespace VM
open Go VM.F
theorem N5(N:Nat)(s:aQ)(k:Int):Ok (λ_=>True) (aa3 N s k):=by
 unfold aa3
 repeat' first|exact e7|refine ok_eq (λ_=> ?_) (λ_=> ?_)
theorem oE(N:Nat)(hN:200000≤N){s:aQ}{m:Nat}(hm:m≤50000)(hs:GS m s)(k:Int):Ok (λ_=>True) (Gl N s k):=by
 unfold Gl
 exact af (oD N hN hm hs.2.2.1.1 _) λ_ _=>e7
theorem XO(N:Nat)(hN:200000≤N){s:aQ}{m:Nat}(hm:m≤50000)(hs:GS m s)(k:Int):Ok (λ_=>True) (QW N s k):=by
 unfold QW
 exact af (xT N hN hm hs.2.2.1.2.1 _) λ_ _=>e7
theorem aa4(N:Nat)(hN:4000000≤N){s:aQ}{m:Nat}(h2:200≤m)(hm:m≤50000)(hs:GS m s)(a b c d:Int){q:Int}(hq:aD q):Ok (SR m) (N6 N s a b c d q):=by
 unfold N6
 exact af (br N hN hq) λx hx=>af (sT N hN _ _ _ _ (Bg.mono hx ω)) λp hp=>af (sS N hN h2 hm hs.2.2.1 G.nil (jV.mono hp ω)) λr hr=>ak ⟨hs.1,hs.2.1,hr,hs.2.2.2⟩
theorem XP(N:Nat)(hN:5000000≤N){c:ae}{s:aQ}{e:gR}{m:Nat}(h2:200≤m)(hm:m≤999)(hc:G 5 aA c)(hs:GS m s)(he:G 0 kZ e):Ok (SR (m+1)) (pO N c s e):=by
 obtain⟨s1,s2,s3,⟨k1,k2,k3,k4,k5,k6,k7,k8,k9,UF,XN⟩,s5⟩:=hs
 have hs:GS m s:=⟨s1,s2,s3,⟨k1,k2,k3,k4,k5,k6,k7,k8,k9,UF,XN⟩,s5⟩
 have up: ∀{x:aQ},GS m x→ ∀r:dh,Ok (SR (m+1)) (some (x,r)):=λh r=>ak (P:=SR (m+1)) (G.mono (qP m) h)
 have i1:aD 1:=bk
 have us: ∀{τ:Ty} {x:τ.den},G m τ x→G (m+1) τ x:=λh=>G.mono ω h
 unfold pO pO.b
 have hj: ∀(S0:aQ) (z:dh),Ok (SR (m+1)) (pO.Ux N c s e S0 z):=λS0 z=>by
  unfold pO.Ux pO.N0
  exact af (N5 N _ _) λ_ _=>bw (λ_=>c7 λr=>up hs r) λ_=>af (XM N hN h2 hm hc hs he) λr hr=>ak hr
 have mem: ∀{x:aE},G m (.slice jD) x→G m aK ((x,s.2.2.1.2):an):=λh=>⟨h,s3.2⟩
 have hd: ∀z:aE×Int,G m (.slice jD) z.1→Ok (SR (m+1)) (cond (aO z.2 0) (cond (aO e.1 11) ((KY N c (z.1,s.2.2.1.2) e.2.1).bind λr2=>cond (aO s.2.2.2.1.2.1 3) ((pn N s.2.2.2.1.2.2.2.2.2.2.1 e.2.1).bind λr3=>(fA N z.2).bind λr4=>some ((s.1,(s.2.1,(r2.1,((s.2.2.2.1.1,(s.2.2.2.1.2.1,(s.2.2.2.1.2.2.1,(s.2.2.2.1.2.2.2.1,(s.2.2.2.1.2.2.2.2.1,(s.2.2.2.1.2.2.2.2.2.1,(r3,s.2.2.2.1.2.2.2.2.2.2.2))))))),s.2.2.2.2)))),r4)) ((fA N z.2).bind λr5=>some ((s.1,(s.2.1,(r2.1,s.2.2.2))),r5))) ((fA N z.2).bind λr6=>some ((s.1,(s.2.1,((z.1,s.2.2.1.2),s.2.2.2))),r6))) ((fA N z.2).bind λr7=>some ((s.1,(s.2.1,((z.1,s.2.2.1.2),s.2.2.2))),r7))):=λz hz=>
  ok_eq (λ_=>ok_eq (λ_=>af (NU N hN c ω (mem hz) _) λb hb=>ok_eq (λ_=>af (C5 N ω ω k7 _) λl hl=>c7 λr=>ak ⟨s1,s2,us hb,⟨k1,k2,k3,k4,us k5,us k6,us hl,us k8,us k9,us UF,trivial⟩,us s5⟩) λ_=>c7 λr=>ak ⟨s1,s2,us hb,(us hs).2.2.2⟩) λ_=>c7 λr=>ak ⟨s1,s2,us (mem hz),(us hs).2.2.2⟩) λ_=>c7 λr=>ak ⟨s1,s2,us (mem hz),(us hs).2.2.2⟩
 have Hn:=λk:Int=>KX N ω (m:=m) ω s3.1 e.2.1 k
 refine ok_eq (λ_=>af (Hn _) λz hz=>hd z hz) λ_=>ok_eq (λ_=>af (Hn _) λz hz=>hd z hz) λ_=>ok_eq (λ_=> ?_) λ_=>ok_eq (λ_=> ?_) λ_=>hj _ _
 ·exact af (oE N ω ω hs _) λ_ _=>ok_eq (λ_=>c7 λr=>up hs r) λ_=>bq (λ_=>c7 λr=>up hs r) λ_=>af (Hn _) λz hz=>bq (λ_=>c7 λr=>ak ⟨s1,s2,us (mem hz),(us hs).2.2.2⟩) λ_=>af (uc N ω s1 hc.2.2.2.1) λt ht=>bw (λ_=>c7 λr=>ak ⟨s1,s2,us (mem hz),(us hs).2.2.2⟩) λ_=>ak ⟨s1,s2,us (mem hz),⟨he.2.1,i1,ht,bJ,G.nil,G.nil,G.nil,G.nil,G.nil,G.nil,trivial⟩,us s5⟩
 ·exact af (oE N ω ω hs _) λ_ _=>ok_eq (λ_=>c7 λr=>up hs r) λ_=>af (oE N ω ω hs _) λ_ _=>bq (λ_=>c7 λr=>up hs r) λ_=>hj _ _
theorem aa5(N:Nat)(hN:5000000≤N){c:ae}{s:aQ}{e:gR}{m:Nat}(h2:200≤m)(hm:m≤999)(hc:G 5 aA c)(hs:GS m s)(he:G 0 kZ e):Ok (SR (m+1)) (UG N c s e):=by
 have DX:G m aA c:=G.mono ω hc
 obtain⟨s1,s2,s3,⟨k1,k2,k3,k4,k5,k6,k7,k8,k9,UF,XN⟩,s5⟩:=hs
 have hs:GS m s:=⟨s1,s2,s3,⟨k1,k2,k3,k4,k5,k6,k7,k8,k9,UF,XN⟩,s5⟩
 have us: ∀{τ:Ty} {x:τ.den},G m τ x→G (m+1) τ x:=λh=>G.mono ω h
 have RG:=us hs
 have up: ∀{x:aQ},GS m x→ ∀r:dh,Ok (SR (m+1)) (some (x,r)):=λh r=>ak (P:=SR (m+1)) (G.mono (qP m) h)
 have st:=λk:Int=>oE N ω (m:=m) ω hs k
 have hp:=λa b c d=>aa4 N ω h2 ω hs a b c d he.2.2.2.2.2.2.1
 have QX:=he.2.2.2.2.2.2.1
 unfold UG
 refine ok_eq (λ_=> ?_) λ_=>ok_eq (λ_=> ?_) λ_=>ok_eq (λ_=> ?_) λ_=>ok_eq (λ_=> ?_) λ_=>ok_eq (λ_=> ?_) λ_=>ok_eq (λ_=> ?_) λ_=>ok_eq (λ_=> ?_) λ_=>ok_eq (λ_=> ?_) λ_=>ok_eq (λ_=> ?_) λ_=>ok_eq (λ_=> ?_) λ_=>ok_eq (λ_=> ?_) λ_=>af (XP N hN h2 hm hc hs he) λr hr=>ak hr
 ·exact af (Xv N ω ω s3.1 he.2.1) λr hr=>c7 λ_=>ak ⟨s1,s2,⟨hr,RG.2.2.1.2⟩,RG.2.2.2⟩
 ·have hx:G 0 eA (e.2.2.1,(e.2.1,(e.2.2.2.2.1,((0:Int),())))):=⟨he.2.2.1,he.2.1,he.2.2.2.2.1,bJ,trivial⟩
  exact af (aaQ N ω ω s3.1 s3.2.1 hx) λr hr=>c7 λ_=>ak ⟨s1,s2,⟨RG.2.2.1.1,hr,RG.2.2.1.2.2⟩,RG.2.2.2⟩
 ·exact af (XO N ω ω hs _) λ_ _=>bw (λ_=>c7 λr=>up hs r) λ_=>af (hp _ _ _ _) λr hr=>ak (us hr)
 ·exact af (NX N hN h2 ω DX s3 _ QX) λr hr=>c7 λz=>ak ⟨s1,s2,us hr,(us hs).2.2.2⟩
 ·exact af (st _) λ_ _=>ok_eq (λ_=>c7 λr=>up hs r) λ_=>af (st _) λ_ _=>bq (λ_=>c7 λr=>up hs r) λ_=>af (hp _ _ _ _) λr hr=>ak (us hr)
 ·exact af (st _) λ_ _=>ok_eq (λ_=>c7 λr=>up hs r) λ_=>af (mw N ω ω s3.2.2.1 _ _) λg hg=>af (br N ω hg) λx hx=>af (qA N ω ω hx) λx hx=>af (br N ω QX) λy hy=>af (pK N ω ω ω hy hx) λ_ _=>aw (λ_=>c7 λr=>up hs r) λ_=>af (hp _ _ _ _) λr hr=>ak (us hr)
 ·exact af (Xw N ω ω s3.2.1 QX) λr hr=>c7 λz=>ak ⟨s1,s2,⟨us s3.1,us hr,(us s3).2.2⟩,(us hs).2.2.2⟩
 ·have hx:G 0 mV (s.2.1,(e.2.2.1,(e.2.2.2.1,(e.2.2.2.2.1,(e.2.2.2.2.2.2.1,(e.2.2.2.2.2.2.2.1,())))))):=⟨s2,he.2.2.1,he.2.2.2.1,he.2.2.2.2.1,QX,he.2.2.2.2.2.2.2.1,trivial⟩
  exact af (XA N hN h2 ω DX s3 hx) λr hr=>ak ⟨s1,fU _,hr,RG.2.2.2⟩
 ·exact af (XO N ω ω hs _) λ_ _=>bw (λ_=>c7 λr=>up hs r) λ_=>af (Up N ω ω s3.2.2.2.2.2.1 _ _) λr hr=>c7 λz=>ak ⟨s1,s2,⟨us s3.1,us s3.2.1,us s3.2.2.1,us s3.2.2.2.1,us s3.2.2.2.2.1,us hr,trivial⟩,(us hs).2.2.2⟩
 ·exact af (C6 N hN c h2 ω s3 _ he.2.2.2.2.2.2.2.1) λr ⟨y5,yS⟩=>ok_eq (λ_=>bq (λ_=>af (NW N ω h2 ω UF yS) λg hg=>c7 λz=>ak ⟨s1,s2,us y5,⟨k1,k2,k3,k4,us k5,us k6,us k7,us k8,us k9,us hg,trivial⟩,us s5⟩) λ_=>c7 λz=>ak ⟨s1,s2,us y5,(us hs).2.2.2⟩) λ_=>c7 λz=>ak ⟨s1,s2,us y5,(us hs).2.2.2⟩
 ·exact af (uc N ω s1 QX) λt ht=>bw (λ_=>c7 λr=>up hs r) λ_=>ak ⟨ht,(us hs).2⟩
theorem SJ(N:Nat)(hN:5000000≤N){c:ae}{s:aQ}{e:gR}{m:Nat}(h2:200≤m)(hm:m≤999)(hc:G 5 aA c)(hs:GS m s)(he:G 0 kZ e):Ok (SR (m+1)) (QY N c s e):=by
 have cc: ∀r:dh,Ok (SR (m+1)) (some (s,r)):=λr=>ak (P:=SR (m+1)) (G.mono (qP m) hs)
 unfold QY
 exact bo (nn N ω c) (bw (λ_=>cc _) λ_=>af (Ji N ω e) λ_ _=>bw (λ_=>cc _) λ_=>af (aa5 N hN h2 hm hc hs he) λr hr=>bq (λ_=>cc _) λ_=>ak hr)
end VM
end
section
namespace VM
open Go VM.F Go.RowKit
theorem aa6{l:List Int}(h:WF (.slice (.int .u64)) l):Dk 0 ((l,((0:Int),())):aM):=⟨λx hx=>by
 obtain⟨i,hi,rfl⟩:=gm hx
 have h3:0≤l[i]∧l[i]≤18446744073709551615:=wf_u64.1 (h.2 i hi)
 exact⟨h3.1,qI h3.2 δ⟩,fJ 0,fJ 0⟩
namespace Pure
end Pure
end VM
end
section
namespace VM
open Go VM.F Go.RowKit
theorem pt{α:Type}{l:List α}{d:α}{i:Nat}(h:i<l.length):l.getD i d∈l:=by
 rw[aU,bl h];exact dA h
namespace Pure
end Pure
end VM
end
section
namespace VM
open Go VM.F Go.RowKit
theorem rO{P:Int→Prop} [DecidablePred P]{f:Int→Int→Int}: ∀{K:List cX} {o:au},eh P f K=some o→(o.map keyOf).Sublist K∧(∀x∈o,ed x=f x.1 x.2.1∧ed x≠0∧P (ed x))∧(∀k∈K,P (f k.1 k.2))∧ ∀a b,gu a b o=if(a,b)∈K then f a b else 0
 |[],o,h=>by
  have e:[]=o:=oJ h
  subst e
  exact⟨List.Sublist.refl _,λx hx=>(nomatch hx),λk hk=>(nomatch hk),λa b=>by rw[ah (λh=>nomatch h)];rfl⟩
 |k::t,o,h=>by
  rw[kS]at h
  by_cases hp:P (f k.1 k.2)
  ·rw[aj hp]at h
   cases ho:eh P f t with
   |none=>rw[ho]at h;exact nomatch h
   |some o'=>
    rw[ho]at h
    have e:(if f k.1 k.2=0 then o' else(k.1,(k.2,(f k.1 k.2,())))::o')=o:=oJ h
    obtain⟨s,g,gp,gf⟩:=rO ho
    have lz: ∀k'∈k::t,P (f k'.1 k'.2):=λk' hk=>by
     rcases aX.1 hk with rfl|hk
     ·exact hp
     ·exact gp k' hk
    by_cases h0:f k.1 k.2=0
    ·rw[aj h0]at e
     subst e
     refine⟨s.cons _,g,lz,λa b=> ?_⟩
     rw[gf a b]
     by_cases hk:(a,b)=k
     ·subst hk
      rw[aj (bg ..)]
      dsimp only at h0
      rw[h0];split<;>rfl
     ·by_cases ht:(a,b)∈t
      ·rw[aj ht,aj (aY _ ht)]
      ·rw[ah ht,ah (λh=>(aX.1 h).elim hk ht)]
    ·rw[ah h0]at e
     subst e
     refine⟨s.cons_cons _,λx hx=> ?_,lz,λa b=> ?_⟩
     ·rcases aX.1 hx with rfl|hx
      ·exact⟨rfl,h0,hp⟩
      ·exact g x hx
     ·rw[g8]
      dsimp only
      rw[gf a b]
      by_cases h1:k.1=a
      ·by_cases h2:k.2=b
       ·have hk:(a,b)=k:=by rw[←h1,←h2]
        rw[aj h1,aj h2,aj (by rw[hk];exact bg ..),h1,h2]
       ·have hk:(a,b)≠k:=λe=>h2 (by rw[←e])
        rw[aj h1,ah h2]
        by_cases ht:(a,b)∈t
        ·rw[aj ht,aj (aY _ ht)]
        ·rw[ah ht,ah (λh=>(aX.1 h).elim hk ht)]
      ·have hk:(a,b)≠k:=λe=>h1 (by rw[←e])
       rw[ah h1]
       by_cases ht:(a,b)∈t
       ·rw[aj ht,aj (aY _ ht)]
       ·rw[ah ht,ah (λh=>(aX.1 h).elim hk ht)]
  ·rw[ah hp]at h;exact nomatch h
theorem XQ{l:au}(hs:s7 (l.map keyOf)){j:Nat}(hj:j<l.length)(h0:0<j):s6 (keyOf (l.getD (j-1) bm)) (keyOf (l.getD j bm)):=by
 have:=uq.1 (tj.1 hs) (j-1) j ω hj ω
 rw[aU,aU,bl hj,bl (show j-1<l.length by omega)]
 exact this
theorem QZ{l:au}(hs:s7 (l.map keyOf))(h: ∀x∈l,bG x.1 x.2.1∧ed x≠0∧p8 (ed x)):cQ l=true:=by
 unfold cQ
 rw[fX]
 refine bs λj hj=> ?_
 obtain⟨a,b,c⟩:=h _ (pt (d:=bm) hj)
 exact⟨a,b,c,λh0=>XQ hs hj h0⟩
theorem UH{l:au}(hs:s7 (l.map keyOf))(h: ∀x∈l,cS x.1 x.2.1∧ed x≠0):eC l=true:=by
 unfold eC
 rw[fX]
 refine bs λj hj=> ?_
 obtain⟨a,b⟩:=h _ (pt (d:=bm) hj)
 exact⟨a,b,λh0=>XQ hs hj h0⟩
theorem rP{a b:Int}:(a,b)∈jC↔bG a b:=by
 unfold jC bG
 rw[ox];dsimp only;omega
theorem Gm(b:an)(s e:au):((ew b s e).2=2∧(ew b s e).1=(cn,(c9,(bH,(bH,(dB,(dR,())))))))∨ ∃s' r',eh Fq (fS b.2.2.2.1 s) jC=some s'∧eh aD (fS b.2.2.1 e) nC=some r'∧ew b s e=((b.1,(b.2.1,(r',(s',b.2.2.2.2)))),0):=by
 unfold ew
 cases h1:eh Fq (fS b.2.2.2.1 s) jC with
 |none=>exact .inl ⟨rfl,rfl⟩
 |some s'=>
  cases h2:eh aD (fS b.2.2.1 e) nC with
  |none=>exact .inl ⟨rfl,rfl⟩
  |some r'=>exact .inr ⟨s',r',rfl,rfl,rfl⟩
theorem Gn{l E o:au}(hs:cQ l=true)(h:eh Fq (fS l E) jC=some o):cQ o=true∧(∀a b,bG a b→dN o a b=dN l a b+bZ a b E∧Fq (dN o a b)):=by
 obtain⟨h1,h2,h3,h4⟩:=rO h
 have hso:s7 (o.map keyOf):=vS h1 (oy 6 25 0)
 have ho:cQ o=true:=QZ hso λx hx=>by
  have hk:(x.1,x.2.1)∈jC:=h1.subset (eS (f:=keyOf) hx)
  obtain⟨_,g1,g2⟩:=h2 x hx
  exact⟨rP.1 hk,g1,g2.2⟩
 refine⟨ho,λa b hp=> ?_⟩
 have e:dN o a b=fS l E a b:=by
  unfold dN
  rw[ho,aj rfl,h4 a b,aj (rP.2 hp)]
 refine⟨?_,by rw[e];exact h3 _ (rP.2 hp)⟩
 rw[e]
 unfold fS dN
 rw[hs,aj rfl,qz (dC hs).1]
theorem Ee{a b:Int}{l:au}(h:bZ a b l≠0): ∃x∈l,x.1=a∧x.2.1=b:=
 LY λhn=>h (kt λx hx e=>hn ⟨x,hx,e⟩)
theorem SK{l E o:au}(hs:eC l=true)(hE: ∀x∈E,cS x.1 x.2.1)(h:eh aD (fS l E) nC=some o):eC o=true∧(∀a b,cS a b→ej o a b=ej l a b+bZ a b E∧aD (ej o a b)):=by
 obtain⟨h1,h2,h3,h4⟩:=rO h
 obtain⟨hl,sZ⟩:=oz hs
 have hso:s7 (o.map keyOf):=vS h1 (oy 25 7 1)
 have ho:eC o=true:=UH hso λx hx=>by
  obtain⟨g0,g1,g2⟩:=h2 x hx
  refine⟨?_,g1⟩
  rw[g0]at g1
  unfold fS at g1
  by_cases hz:bZ x.1 x.2.1 l=0
  ·rw[hz,m6]at g1
   obtain⟨y,hy,e1,e2⟩:=Ee g1
   rw[←e1,←e2];exact hE y hy
  ·obtain⟨y,hy,e1,e2⟩:=Ee hz
   rw[←e1,←e2];exact sZ y hy
 refine⟨ho,λa b hk=> ?_⟩
 have hg:(a,b)∈nC:=by
  unfold nC
  rw[ox]
  unfold cS at hk
  dsimp only;omega
 have e:ej o a b=fS l E a b:=by
  unfold ej
  rw[ho,aj rfl,h4 a b,aj hg]
 refine⟨?_,by rw[e];exact h3 _ hg⟩
 rw[e]
 unfold fS ej
 rw[hs,aj rfl,qz hl]
end VM
end
section
namespace VM
open Go VM.F Go.RowKit
namespace Pure
end Pure
end VM
end
section
namespace VM
open Go VM.F Go.RowKit
namespace Pure
end Pure
end VM
end
section
namespace VM
open Go VM.F Go.RowKit
def HZ(p:cX→Bool):au→Int
 |[]=>0
 |x::t=>(if p (keyOf x)=true then ed x else 0)+HZ p t
def Gp(p:cX→Bool)(f:Int→Int→Int):List cX→Int
 |[]=>0
 |k::t=>(if p k=true then f k.1 k.2 else 0)+Gp p f t
theorem B3(p:cX→Bool)(x:dh)(t:au):HZ p (x::t)=(if p (keyOf x)=true then ed x else 0)+HZ p t:=rfl
theorem qC(p:cX→Bool)(f:Int→Int→Int)(k:cX)(t:List cX):Gp p f (k::t)=(if p k=true then f k.1 k.2 else 0)+Gp p f t:=rfl
theorem Jp{P:Int→Prop} [DecidablePred P]{f:Int→Int→Int}(p:cX→Bool): ∀{K:List cX} {o:au},eh P f K=some o→HZ p o=Gp p f K
 |[],o,h=>by
  have e:[]=o:=oJ h
  subst e;rfl
 |k::t,o,h=>by
  rw[kS]at h
  by_cases hp:P (f k.1 k.2)
  ·rw[aj hp]at h
   cases ho:eh P f t with
   |none=>rw[ho]at h;exact nomatch h
   |some o'=>
    rw[ho]at h
    have e:(if f k.1 k.2=0 then o' else(k.1,(k.2,(f k.1 k.2,())))::o')=o:=oJ h
    rw[qC,←Jp p ho]
    by_cases h0:f k.1 k.2=0
    ·rw[aj h0]at e
     rw[←e,h0]
     split<;>omega
    ·rw[ah h0]at e
     rw[←e];rfl
  ·rw[ah hp]at h;exact nomatch h
theorem Gq(p:cX→Bool)(f g:Int→Int→Int): ∀K:List cX,Gp p (λa b=>f a b+g a b) K=Gp p f K+Gp p g K
 |[]=>rfl
 |k::t=>by
  rw[qC,qC,qC,Gq p f g t]
  split<;>omega
theorem B4{p:cX→Bool}{f:Int→Int→Int}: ∀{K:List cX},(∀k∈K,f k.1 k.2=0)→Gp p f K=0
 |[],_=>rfl
 |k::t,h=>by
  rw[qC,h k (bg ..),B4 λx hx=>h x (aY _ hx)]
  split<;>rfl
theorem N7(p:cX→Bool)(k:cX)(v:Int): ∀{K:List cX},s7 K→k∈K→Gp p (λa b=>if k.1=a∧k.2=b then v else 0) K=if p k=true then v else 0
 |[],_,h=>nomatch h
 |x::t,hs,h=>by
  obtain⟨h1,h2⟩:=dZ.1 hs
  rw[qC]
  by_cases e:k=x
  ·subst e
   have hz:Gp p (λa b=>if k.1=a∧k.2=b then v else 0) t=0:=B4 λy hy=>ah λe=>by
    have:=h1 y hy
    rw[show y=k from iJ e.1.symm e.2.symm]at this
    exact oQ this
   rw[aj (show k.1=k.1∧k.2=k.2 from⟨rfl,rfl⟩),hz,fY]
  ·rw[ah (show ¬(k.1=x.1∧k.2=x.2)from λh=>e (iJ h.1 h.2)),N7 p k v h2 ((aX.1 h).elim (λh=>absurd h e) id)]
   split<;>omega
theorem Gr(p:cX→Bool){K:List cX}(hs:s7 K): ∀{l:au},(∀x∈l,keyOf x∈K)→Gp p (λa b=>bZ a b l) K=HZ p l
 |[],_=>B4 λ_ _=>rfl
 |x::t,h=>by
  have e:(λa b=>bZ a b (x::t))=λa b=>(if(keyOf x).1=a∧(keyOf x).2=b then ed x else 0)+bZ a b t:=by
   funext a b;exact eX a b x t
  rw[e,Gq,N7 p (keyOf x) (ed x) hs (h x (bg ..)),Gr p hs λy hy=>h y (aY _ hy),B3]
theorem Gs{P:Int→Prop} [DecidablePred P]{l E o:au}{K:List cX}(p:cX→Bool)(hs:s7 K)(hl: ∀x∈l,keyOf x∈K)(hE: ∀x∈E,keyOf x∈K)(h:eh P (fS l E) K=some o):HZ p o=HZ p l+HZ p E:=by
 rw[Jp p h,←Gr p hs hl,←Gr p hs hE,←Gq];rfl
theorem ve: ∀l:au,HZ (λ_=>true) l=(l.map ed).sum
 |[]=>rfl
 |x::t=>by rw[B3,aj rfl,ve t,bW,cz]
theorem xV(i:Int): ∀l:au,HZ (λk=>decide (k.2=i)) l=(c6 i l).sum
 |[]=>rfl
 |x::t=>by
  rw[B3,xV i t,df]
  by_cases e:x.2.1=i
  ·rw[aj (bs (show(keyOf x).2=i from e)),aj e,cz]
  ·rw[ah (by rw[cm (show ¬(keyOf x).2=i from e)];exact qH),ah e,m6]
def Gt(m:aE)(a:aL)(k n:Int):Prop:=(dw k 5→(fe a n).2=true)∧(dw k 6∨dw k 7→ ¬dw (eL m n) 0)
def Gu(c:ae)(a:aL)(k n:Int):Prop:=(dw k 0∨(fe a k).2=true)∧mQ n c.1.length
theorem N8{k n:Int}(h:cS k n):(k,n)∈nC:=by
 unfold nC
 rw[ox]
 unfold cS at h
 dsimp only;omega
theorem Gv{l E:au}{Q:Int→Int→Prop}(hl: ∀x∈l,Q x.1 x.2.1)(hE: ∀x∈E,Q x.1 x.2.1){a b:Int}(h:fS l E a b≠0):Q a b:=by
 unfold fS at h
 by_cases hz:bZ a b l=0
 ·rw[hz,m6]at h
  obtain⟨y,hy,e1,e2⟩:=Ee h
  rw[←e1,←e2];exact hE y hy
 ·obtain⟨y,hy,e1,e2⟩:=Ee hz
  rw[←e1,←e2];exact hl y hy
theorem K3{c:ae}{b:an}{s e s' r':au}(hB:dx c b=true)(h1:eh Fq (fS b.2.2.2.1 s) jC=some s')(h2:eh aD (fS b.2.2.1 e) nC=some r')
  (gs: ∀x∈s,bG x.1 x.2.1∧Gu c b.2.1 x.1 x.2.1) (flat: ∀i:Int,(c6 i s).sum=0) (ge: ∀x∈e,cS x.1 x.2.1∧Gt b.1 b.2.1 x.1 x.2.1) (zero:(e.map ed).sum=0):
  dx c (b.1,(b.2.1,(r',(s',b.2.2.2.2))))=true:=by
 have hB':=hB
 unfold dx at hB'
 simp only[bQ]at hB'
 obtain⟨b1,b2,b3,b4,b5,b6,b7,b8,b9,b10,b11⟩:=hB'
 obtain⟨hr,hs⟩:=eF hB
 obtain⟨o1,_⟩:=Gn hs h1
 obtain⟨o2,_⟩:=SK hr (λx hx=>(ge x hx).1) h2
 obtain⟨E4,hsk⟩:=dC hs
 obtain⟨Ig,hrk⟩:=oz hr
 have k1: ∀x∈b.2.2.2.1,keyOf x∈jC:=λx hx=>rP.2 (hsk x hx).1
 have k2: ∀x∈s,keyOf x∈jC:=λx hx=>rP.2 (gs x hx).1
 have k3: ∀x∈b.2.2.1,keyOf x∈nC:=λx hx=>N8 (hrk x hx)
 have k4: ∀x∈e,keyOf x∈nC:=λx hx=>N8 (ge x hx).1
 have hp8:=bz b8
 have hp9:=bz b9
 have q8: ∀x∈b.2.2.1,Gt b.1 b.2.1 x.1 x.2.1:=λx hx=>by
  obtain⟨i,hi,e⟩:=gm hx
  have:=hp8 i hi
  unfold jN at this
  rw[aU,bl hi,m1,e]at this
  exact this
 have q9: ∀x∈b.2.2.2.1,Gu c b.2.1 x.1 x.2.1:=λx hx=>by
  obtain⟨i,hi,e⟩:=gm hx
  have:=hp9 i hi
  unfold jh at this
  rw[aU,bl hi,m1,e]at this
  exact this
 have n4:decide (dw (gK r') 0)=true:=by
  refine bs ?_
  unfold gK dw
  rw[o2,aj rfl,←ve,Gs _ (oy 25 7 1) k3 k4 h2,ve,ve,zero,fY]
  have:=bz b4
  unfold gK dw at this
  rw[hr,aj rfl]at this
  exact this
 have n5:ov s'=true:=by
  unfold ov at b5 ⊢
  obtain⟨f1,_⟩:=cK.1 b5
  rw[o1,fX]
  refine bs λj hj=> ?_
  have:=bz f1 j hj
  unfold s4 dw sK at this ⊢
  rw[hs,aj rfl]at this
  rw[o1,aj rfl,←xV,Gs _ (oy 6 25 0) k1 k2 h1,xV,xV,flat,fY]
  exact this
 have n8:decide (∀j,j<r'.length→jN b.1 b.2.1 r' j)=true:=bs λj hj=>by
  obtain⟨g0,g1,_⟩:=(rO h2).2.1 _ (pt (d:=bm) hj)
  rw[g0]at g1
  exact Gv (Q:=Gt b.1 b.2.1) q8 (λx hx=>(ge x hx).2) g1
 have n9:decide (∀j,j<s'.length→jh c b.2.1 s' j)=true:=bs λj hj=>by
  obtain⟨g0,g1,_⟩:=(rO h1).2.1 _ (pt (d:=bm) hj)
  rw[g0]at g1
  exact Gv (Q:=Gu c b.2.1) q9 (λx hx=>(gs x hx).2) g1
 unfold dx
 simp only[bQ]
 exact⟨b1,b2,o2,n4,n5,b6,b7,n8,n9,b10,b11⟩
end VM
end
