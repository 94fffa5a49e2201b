/- A part of the proof of WindTwice of layer 21: what the functions compute, in plain words. -/
import Derived.Test.YtecmobijochjkaaGreatPlain7
import Derived.Test.YtecmobijochjkaaGreatPlain4
set_option linter.all false
section
namespace VM
open Go VM.F
theorem abl(N:Nat)(hN:5000000≤N){c:ae}{b:aq}{m:Nat}(hm:m≤40000)(hc:G m aA c)(hb:G m aL b)(hR:RB c b)(f:Int)(to a:Int):Ok (λr=>r.2=0→RB c r.1) (Uw N c b f to a):=by
 have bad: ∀e:Int,e≠0→Ok (λr:aq×Int=>r.2=0→RB c r.1) (some ((ck,(c9,(bH,(bH,(dC,(dT,())))))),e)):=λe h=>an λh'=>absurd h' h
 unfold Uw
 refine af (XI N hN hm hc hb _ _ _) λ_ _=>bu (λh=>bad _ h) λ_=>af (Q3 N ω (cm hb.1.1 ω) (cm hb.2.1.1 ω) _ _) λr hr=>bu (λh=>bad _ h) λh0=>an λ_=> ?_
 obtain⟨r1,r2,r3⟩:=hr h0
 exact hR.UM hR.m r1 (λ_ h=>h) r2 r3
theorem X9(N:Nat)(hN:200000≤N){c:ae}{b:aq}{m:Nat}(hm:m≤50000)(hb:G m aL b)(hR:RB c b){a:Int}(ha:qf b.2.1 a):Ok (λr=>SB c b.2.1 r∧r.length≤2*m) (iR N b.2.2.2.1 a 0):=by
 have h:=hb.2.2.2.1
 have hl:=h.1
 have hp:=(cU (dH (lf.2 hR)).2).2
 unfold iR iR.b
 have nil:Ok (λr:au=>SB c b.2.1 r∧r.length≤2*m) (some []):=an ⟨SB.nil,bo _⟩
 refine bA (kN N ω hN) (bt (λ_=>nil) λ_=>ok_eq (λ_=>nil) λ_=>aw (λ_=>nil) λa0=>aw (λ_=>nil) λa1=>aw (λ_=>nil) λ_=>aw (λ_=>nil) λ_=>bg (len:=b.2.2.2.1.length) (F:=λn i s=>iR.l5 N n b.2.2.2.1 a 0 s i) (λi s=>SB c b.2.1 s∧s.length≤2*i) ⟨SB.nil,bo _⟩ ω (λn i s hi hI hr=> ?_) (λn s hI=> ?_))
 all_goals unfold iR.l5 iR.ei
 all_goals obtain⟨i1,i2⟩:=hI
 ·have hx:G m jt (b.2.2.2.1.getD i bh):=h.2 _ (rG hi)
  have Lu:=hp _ (rG (d:=bh) hi)
  have hx2:=hR.sk _ (rG (d:=bh) hi)
  dsimp only
  rw[ax (x:=(i:Int)+1) ω ω,ag i,aJ]
  have h1:=hr s ⟨i1,ω⟩
  have hq:aE (b.2.2.2.1.getD i bh).2.2.1:=hx.2.2.1
  have nN:p5 (b.2.2.2.1.getD i bh).2.2.1:=Lu.2
  have pl:=Lu.1
  have ins:=hx2.2
  generalize (b.2.2.2.1.getD i bh).2.2.1=q at*
  generalize (b.2.2.2.1.getD i bh).2.1=k at*
  have hn:=(Ub ⟨hq,nN⟩).1
  unfold aE at hn
  rw[ax hn.1 hn.2]
  exact aw (λ_=>aB ⟨ω,ω⟩ (ok_eq (λ_=>aB ⟨ω,ω⟩ (aB ⟨ω,ω⟩ (aB ⟨ω,ω⟩ (aB ⟨ω,ω⟩ (aC (by rw[xI];omega) (hr _ ⟨SB.app i1 (SB.two hn hq ω ⟨⟨a0,a1,pl.2.2.1,pl.2.2.2⟩,.inr ha,ins⟩ ⟨⟨δ,δ,pl.2.2.1,pl.2.2.2⟩,.inl rfl,ins⟩),by rw[aS,aR,aI];omega⟩)))))) λ_=>h1)) λ_=>ω
 ·exact aw (λ_=>ω) λ_=>an ⟨i1,ω⟩
theorem UP{c:ae}{b:aq}(h:RB c b):b.2.1.length≤24:=NZ h.a
theorem SN(N:Nat)(hN:5000000≤N){c:ae}{b:aq}{m:Nat}(h2:200≤m)(hm:m≤1000)(hc:G m aA c)(hb:G m aL b)(hR:RB c b)(a:Int):Ok (Jo c b) (mU N c b a):=by
 have hal:=UP hR
 unfold mU mU.b
 refine bA (dI N hN ω hb) (bt (λ_=>Jo.bad δ) λhB=>af (qu N ω ω hb _) λ_ _=>ok_eq (λ_=>Jo.bad δ) λ_=> ?_)
 refine bg (len:=b.2.1.length) (F:=λn i (z:au×bF)=>mU.l8 N n a c b (ck,(c9,(bH,(bH,(dC,(dT,())))))) z.1 z.2 i) (s:=(_,_)) (λi z=>(SB c b.2.1 z.1∧z.1.length≤2*m*i)∧PB b.1 b.2.1 z.2∧z.2.length≤4*i) ⟨⟨SB.nil,bo _⟩,PB.nil,bo _⟩ ω (λn i z hi hI hr=> ?_) (λn z hI=> ?_)
 all_goals unfold mU.l8 mU.yc
 all_goals obtain⟨⟨h5,h7⟩,h6,h8⟩:=hI
 ·have XQ:2*m*i≤2*m*24:=lN _ ω
  have hms:2*m*(i+1)=2*m*i+2*m:=qH _ _
  have hx:G m eB (b.2.1.getD (i:Int).toNat aV):=G.at hb.2.1 _
  have hA:qf b.2.1 (b.2.1.getD (i:Int).toNat aV).1:=⟨_,rG hi,rfl⟩
  have hM:=tP hR hA
  have hF:cQ 2 0∧jw b.1 b.2.1 2 0:=BW δ
  have hj: ∀p:bF,PB b.1 b.2.1 p→p.length≤4*i+2→Ok (Jo c b) (mU.A8 N (mU.l8 N n) a c b (ck,(c9,(bH,(bH,(dC,(dT,())))))) z.1 p (i:Int) (b.2.1.getD (i:Int).toNat aV)):=λp hp Hl=>by
   unfold mU.A8 mU.uT
   rw[ax (x:=(i:Int)+1) ω ω,ag i]
   exact af (tK N ω ω hb _) λg hg=>aw (λ_=>bA (c5 N ω hg.1 hg.2) (bA (jy N ω (Ay (oQ hg).1)) (af (sN N ω ⟨(oQ hg).2,by rw[Int.neg_neg];exact(oQ hg).1⟩ hF hM) λu ⟨hu,G9⟩=>aC ω (af (X9 N ω ω hb hR hA) λs ⟨hs,Hp⟩=>aC ω (hr (_,_) ⟨⟨SB.app h5 hs,by dsimp only;rw[List.length_append];omega⟩,PB.app hp hu,by dsimp only;rw[List.length_append];omega⟩))))) λ_=>af (X9 N ω ω hb hR hA) λs ⟨hs,Hp⟩=>aC ω (hr (_,_) ⟨⟨SB.app h5 hs,by dsimp only;rw[List.length_append];omega⟩,hp,by dsimp only;omega⟩)
  rw[ax (x:=(i:Int)+1) ω ω,ag i]
  exact aw (λ_=>aB ⟨ω,ω⟩ (bu (λ_=>hr z ⟨⟨h5,ω⟩,h6,ω⟩) λ_=>ok_eq (λ_=>af (Jj N hN ω hc hb _) λq hq=>bA (c5 N ω hq.1 hq.2) (af (sN N ω (oQ hq) hM hF) λu ⟨hu,G9⟩=>aC ω (hj _ (PB.app h6 hu) (by rw[aS];omega)))) λ_=>hj _ h6 ω)) λ_=>ω
 ·have XQ:2*m*b.2.1.length≤2*m*24:=lN _ ω
  exact aw (λ_=>ω) λ_=>af (sM N ω ω hb hR h5 h6 ω ω) λr hr=>an hr
theorem y4{n:Int}: ∀{l:aK},nk n l≠0→qf l (nk n l)
 |[],h=>absurd rfl h
 |x::t,h=>by
  rw[sA]at h ⊢
  have up:qf t (nk n t)→qf (x::t) (nk n t):=λ⟨y,hy,e⟩=>⟨y,aZ _ hy,e⟩
  by_cases e1:x.2.1=n
  ·rw[aj e1]at h ⊢
   by_cases e2:x.2.2.1=1
   ·rw[aj e2];exact⟨x,bk ..,rfl⟩
   ·rw[ah e2]at h ⊢;exact up (y4 h)
  ·rw[ah e1]at h ⊢;exact up (y4 h)
theorem Jr{a:aK}{n:Int}(h:nn a n≠0):qf a (nn a n):=by
 unfold nn at*
 split at h
 ·rw[aj (by assumption)];exact y4 h
 ·exact absurd rfl h
def SO(c:ae)(y:yT):Prop:=(0≤y.1∧nS y.1 c.1.length)∧p5 y.2.1
theorem Q6{c:ae}{L:bz}(h:BB c L=true): ∀x∈L,∀y∈x.2.1,SO c y:=by
 unfold BB at h
 simp only[bR,fF,ff]at h
 refine(gm (d:=((0:Int),(ck,aV))) (Q:=λx=> ∀y∈x.2.1,SO c y)).1 λj hj=> ?_
 have h1:=(h.2.2 j hj).2.2.2.1
 unfold mj at h1
 exact(gm (d:=cA) (Q:=SO c)).1 λi hi=>by
  have h2:=bx (cO.1 h1).1 i hi
  exact⟨⟨h2.1,h2.2.1⟩,h2.2.2.2.1⟩
theorem Ya(N:Nat)(hN:5000000≤N){c:ae}{b:aq}{L:bz}{l:aK}{m:Nat}(h2:200≤m)(hm:m≤2000)(hb:G m aL b)(hR:RB c b)(hL:LL m L)(hl:G m (.slice eB) l):Ok (λr=>r.2.2=0→RB c r.1∧r.2.1.length≤12) (fJ N c b L l):=by
 have dJ: ∀e:Int,e≠0→Ok (λr:aq×bz×Int=>r.2.2=0→RB c r.1∧r.2.1.length≤12) (some ((ck,(c9,(bH,(bH,(dC,(dT,())))))),([],e))):=λe h=>an λh'=>absurd h' h
 have h3:=hL.1
 have h4:=hl.1
 have hw:IM L:=λy hy=>cm (hL.2 y hy).2.1.1 ω
 have hci:c.1.length≤6:=by
  have:=hR.c
  unfold fL at this
  exact(bx (cO.1 this).1).2
 unfold fJ fJ.b
 refine bA (dI N hN ω hb) (bt (λ_=>dJ _ δ) λ_=>bA (Az N ω c ω hw) (bt (λ_=>dJ _ δ) λhk=>bA (tH N ω ω) (bt (λ_=>dJ _ δ) λ_=> ?_)))
 have ane:=Q6 hk
 have h12:L.length≤12:=by
  unfold BB at hk
  exact bx (cO.1 (cO.1 hk).2).1
 refine bg (len:=L.length) (F:=λn i (z:au×bF×bz)=>fJ.l7 N n L l b (ck,(c9,(bH,(bH,(dC,(dT,())))))) z.1 z.2.1 z.2.2 i) (s:=(_,(_,_))) (λi z=>(SB c b.2.1 z.1∧z.1.length≤2*m*i)∧(PB b.1 b.2.1 z.2.1∧z.2.1.length≤2*i)∧z.2.2.length≤i) ⟨⟨SB.nil,bo _⟩,⟨PB.nil,bo _⟩,bo _⟩ ω (λn i z hi hI hr=> ?_) (λn z hI=> ?_)
 all_goals unfold fJ.l7 fJ.q4
 all_goals obtain⟨⟨h5,h8⟩,⟨h6,h9⟩,h7⟩:=hI
 ·have XQ:2*m*i≤2*m*12:=lN _ ω
  have hms:2*m*(i+1)=2*m*i+2*m:=qH _ _
  have hx:G m jk (L.getD (i:Int).toNat ((0:Int),(ck,aV))):=G.at hL _
  have hxl:=hx.2.1.1
  have asv:=ane _ (rG (d:=((0:Int),(ck,aV))) hi)
  rw[ax (x:=(i:Int)+1) ω ω,ag i]
  dsimp only
  rw[cJ]
  have put: ∀x:ir,Ok (λr=>r.2.2=0→RB c r.1∧r.2.1.length≤12) (cond (small (z.2.2.length+[x].length)) (fJ.l7 N n L l b (ck,(c9,(bH,(bH,(dC,(dT,())))))) z.1 z.2.1 (z.2.2++[x]) ((i+1:Nat):Int)) none):=λx=>aC (by rw[List.length_singleton];omega) (hr (z.1,(z.2.1,z.2.2++[x])) ⟨⟨h5,by dsimp only;omega⟩,⟨h6,by dsimp only;omega⟩,by dsimp only;rw[List.length_append,List.length_singleton];omega⟩)
  refine aw (λ_=>aB ⟨ω,ω⟩ (aC (by rw[bU];omega) (bu (λ_=>put _) λ_=>af (SF N ω ω hl _) λw hw=>bt (λ_=>put _) λ_=>bA (qp N (cm hb.2.1.1 ω) ω _) (ok_eq (λ_=>dJ _ δ) λhh=>af (qu N ω ω hb _) λ_ _=>ok_eq (λ_=>dJ _ δ) λ_=> ?_)))) λ_=>ω
  have hA:=Jr hh
  have hM:=tP hR hA
  have hF:cQ 2 0∧jw b.1 b.2.1 2 0:=BW δ
  have anf:0≤nn b.2.1 w.1.2.2.1∧nn b.2.1 w.1.2.2.1≤24:=by
   have:=hM.1
   unfold cQ at this;omega
  generalize nn b.2.1 w.1.2.2.1=h at*
  have hX': ∀y∈(L.getD (i:Int).toNat ((0:Int),(ck,aV))).2.1,SO c y∧G m jC y:=λy hy=>⟨asv y (by rw[aJ]at hy;exact hy),hx.2.1.2 y hy⟩
  generalize hX:(((L.getD (i:Int).toNat ((0:Int),(ck,aV))).1,((L.getD (i:Int).toNat ((0:Int),(ck,aV))).2.1,((L.getD (i:Int).toNat ((0:Int),(ck,aV))).2.2.1,((2:Int),(w.1.2.2.1,(w.1.2.2.2.1,())))))):ir)=X
  have hXe:X.2.1=(L.getD (i:Int).toNat ((0:Int),(ck,aV))).2.1:=by rw[←hX]
  rw[←hXe]at hX' hxl
  refine bg (len:=X.2.1.length) (F:=λn' j u=>fJ.wO N (fJ.l7 N n) n' L l b (ck,(c9,(bH,(bH,(dC,(dT,())))))) u z.2.1 z.2.2 (i:Int) X w.1 h j) (s:=z.1) (λj u=>SB c b.2.1 u∧u.length≤2*m*i+2*j) ⟨h5,h8⟩ ω (λn' j u hj hu eO=> ?_) (λn' u hu=> ?_)
  all_goals unfold fJ.wO fJ.vw
  all_goals obtain⟨hu,G9⟩:=hu
  ·have hy:=hX' _ (rG (d:=cA) hj)
   dsimp only
   rw[ax (x:=(j:Int)+1) ω ω,ag j,aJ]
   generalize X.2.1.getD j cA=y at*
   obtain⟨⟨⟨y0,y1⟩,y2⟩,y3⟩:=hy
   have hq:aE y.2.1:=y3.2.1
   have hn:=(Ub ⟨hq,y2⟩).1
   have hn':=hn
   unfold aE at hn'
   have e:W .i64 (0-y.2.1)=0-y.2.1:=ax hn'.1 hn'.2
   rw[e]
   have g6: ∀x:Int,nS x c.1.length→x<6:=λx h=>by unfold nS at h;omega
   exact aw (λ_=>aB ⟨ω,ω⟩ (aB ⟨ω,ω⟩ (aB ⟨ω,ω⟩ (aB ⟨ω,ω⟩ (aC (by rw[xI];omega) (eO _ ⟨SB.app hu (SB.two hn hq ω ⟨⟨δ,δ,y0,g6 _ y1⟩,.inl rfl,y1⟩ ⟨⟨anf.1,anf.2,y0,g6 _ y1⟩,.inr hA,y1⟩),by rw[aS,aR,aI];omega⟩)))))) λ_=>ω
  ·have FZ:aE w.1.2.2.2.1:=hw.2.2.2.1
   refine aw (λ_=>ω) λ_=>bA (c5 N ω FZ.1 FZ.2) (af (sN N ω (oQ FZ) hM hF) λp ⟨hp,Hl⟩=>aC ω (aC (by rw[aI];omega) ?_))
   rw[ax (x:=(i:Int)+1) ω ω,ag i]
   exact hr (_,(_,_)) ⟨⟨hu,by dsimp only;omega⟩,⟨PB.app h6 hp,by dsimp only;rw[List.length_append];omega⟩,by dsimp only;rw[List.length_append,List.length_singleton];omega⟩
 ·have XQ:2*m*L.length≤2*m*12:=lN _ ω
  exact aw (λ_=>ω) λ_=>af (sM N ω ω hb hR h5 h6 ω ω) λr hr=>bu (λh=>dJ _ h) λh0=>an λ_=>⟨(hr h0).1,by dsimp only;omega⟩
end VM
end
section
namespace VM
open Go VM.F
theorem Js{a k:Int}: ∀{l:au},fY a k l≠0→ ∃x∈l,x.1=a∧x.2.1=k
 |[],h=>absurd rfl h
 |x::t,h=>by
  rw[gl]at h
  have up:fY a k t≠0→ ∃y∈x::t,y.1=a∧y.2.1=k:=λh=>let⟨y,hy,e⟩:=Js h;⟨y,aZ _ hy,e⟩
  by_cases e1:x.1=a
  ·rw[aj e1]at h
   by_cases e2:x.2.1=k
   ·exact⟨x,bk ..,e1,e2⟩
   ·rw[ah e2]at h;exact up h
  ·rw[ah e1]at h;exact up h
def PT(b:aq)(k n:Int):Prop:=cQ k n∧jw b.1 b.2.1 k n
theorem abm{c:ae}{b:aq}(hR:RB c b){k n:Int}(h:gF b.2.2.1 k n≠0):PT b k n:=by
 unfold gF at h
 rw[aj hR.r]at h
 obtain⟨x,hx,e1,e2⟩:=Js h
 have h1:=(kt hR.r).2 x hx
 have h2:=hR.rk x hx
 rw[e1,e2]at h1 h2
 exact⟨h1,h2⟩
theorem Yb{a:aK}(hA:fA a=true){id:Int}{x:bO×Bool}(e:x=fc a id)(h:x.2=true):qf a x.1.1:=by
 subst e
 unfold fc at*
 rw[aj hA]at h ⊢
 have key: ∀l:aK,(tD id l).2=true→(tD id l).1∈l:=by
  intro l
  induction l with
  |nil=>intro h;exact nomatch h
  |cons y t ih=>
   intro h
   rw[oh]at h ⊢
   by_cases e:y.1=id
   ·rw[aj e];exact bk ..
   ·rw[ah e]at h ⊢;exact aZ _ (ih h)
 exact⟨_,key a h,rfl⟩
abbrev T5(b:aq)(k:Nat)(l:bK):Prop:=l.length≤k∧ ∀x∈l,PT b x.2.1 x.2.2.1
theorem T5.mono{b:aq}{j k:Nat}{l:bK}(h:T5 b j l)(hk:j≤k):T5 b k l:=⟨cm h.1 hk,h.2⟩
theorem T5.nil{b:aq}{k:Nat}:T5 b k []:=⟨bo _,λx hx=>nomatch hx⟩
theorem T5.app{b:aq}{k:Nat}{l:bK}(h:T5 b k l){s d n x y:Int}(hx:PT b d n):T5 b (k+1) (l++[(s,(d,(n,(x,(y,())))))]):=
 ⟨by rw[aS,aI];exact Nat.succ_le_succ h.1,λz hz=>by
  rcases bb.1 hz with hz|hz
  ·exact h.2 z hz
  ·rw[bW.1 hz];exact hx⟩
theorem row_in(N:Nat)(hN:200000≤N){c:ae}{l:bK}{b:aq}{m k:Nat}(hm:m≤50000)(hb:G m aL b)(hR:RB c b)(hk:k≤1000000)(hl:T5 b k l)(a d n:Int):Ok (T5 b (k+1)) (KU N l b a d n):=by
 have h1:=hl.1
 unfold KU
 exact bA (BD N (cm hb.2.2.1.1 ω) hN _ _) (aw (λh=>aC (by rw[aI];omega) (an (T5.app hl (abm hR ω)))) λ_=>an (T5.mono hl ω))
theorem Yc(N:Nat)(hN:5000000≤N){c:ae}{b:aq}{d g:aD}{a:Int}{m:Nat}(hm:m≤50000)(hc:G m aA c)(hb:G m aL b)(hR:RB c b)(hd:L2 m d)(hg:L2 m g):Ok (λr=>T5 b 1000000 r.1∧(r.2=0→jl b.1 a)) (cI N c b a d g):=by
 have h1:=hb.1.1
 have h2:=hd.1
 have h3:=hg.1
 have h4:=hb.2.1.1
 have nil: ∀e:Int,e≠0→Ok (λr:bK×Int=>T5 b 1000000 r.1∧(r.2=0→jl b.1 a)) (some ([],e)):=λe h=>an ⟨T5.nil,λh'=>absurd h' h⟩
 have hj:jl b.1 a→ ∀l:bK,T5 b 1 l→Ok (λr=>T5 b 1000000 r.1∧(r.2=0→jl b.1 a)) (cI.j9 N a d g c b l):=λhMa l hl=>by
  unfold cI.j9 cI.Nd
  refine af (row_in N ω hm hb hR ω hl _ _ _) λl hl=>af (row_in N ω hm hb hR ω hl _ _ _) λl hl=>iy (len:=5) (F:=λn k s=>cI.p8 N n a d g c b s k) (λk s=>T5 b (3+m*k) s) (λn k s hk hs hr=> ?_) (λn s hs=> ?_) 5 N 1 l ω ω ω (T5.mono hl ω)
  all_goals unfold cI.p8 cI.pF
  ·have hmk:m*k≤m*4:=lN m ω
   refine eg (λ_=>af (Gc N hN c hm hb hd _ _) λt ht=> ?_) λ_=>ω
   have htl:=ht.1
   refine bg (len:=t.1.length) (F:=λn' j u=>cI.wN N (cI.p8 N n) n' a d g c b u (k:Int) t.1 j) (λj u=>T5 b (3+m*k+j) u) hs ω (λn' j u hj hu eO=> ?_) (λn' u hu=> ?_)
   all_goals unfold cI.wN cI.vv
   ·rw[ax (x:=(j:Int)+1) ω ω,ag j]
    exact aw (λ_=>aB ⟨ω,ω⟩ (af (row_in N ω hm hb hR ω hu _ _ _) λv hv=>eO v hv)) λ_=>ω
   ·rw[ax (x:=(k:Int)+1) ω ω,ag k]
    exact aw (λ_=>ω) λ_=>hr u (T5.mono hu (by rw[qH];omega))
  ·refine eg (λ_=>ω) λ_=>bg (len:=b.1.length) (F:=λn j u=>cI.HQ N n a g c b u j) (λj u=>T5 b (3+m*5+j) u) hs ω (λn j u hj hu hr=> ?_) (λn u hu=> ?_)
   all_goals unfold cI.HQ cI.NU
   ·have G9:=hu.1
    have hM:PT b 7 (b.1.getD (j:Int).toNat cA).1:=AV hR δ ⟨_,rG hj,rfl⟩
    rw[ax (x:=(j:Int)+1) ω ω,ag j]
    have h0:=hr u (T5.mono hu ω)
    exact aw (λ_=>aB ⟨ω,ω⟩ (af (KS N _) λ_ _=>bt (λ_=>h0) λ_=>ok_eq (λ_=>h0) λ_=>af (bp N ω hc.2.2.1) λp hp=>af (mu N ω hm hb.2.2.1 _ _) λq hq=>af (bp N ω hq) λq hq=>af (lG N ω ω ω hp hq) λy hy=>af (w4 N hy) λv hv=>bt (λ_=>nil _ δ) λ_=>aw (λ_=>aC (by rw[aI];omega) (hr _ (T5.mono (T5.app hu hM) ω))) λ_=>h0)) λ_=>ω
   ·refine aw (λ_=>ω) λ_=>bg (len:=g.length) (F:=λn j u=>cI.No N n a g b u j) (λj u=>T5 b (3+m*5+m+j) u) (T5.mono hu ω) ω (λn j u hj hu hr=> ?_) (λn u hu=> ?_)
    all_goals unfold cI.No cI.Ky
    ·have G9:=hu.1
     rw[ax (x:=(j:Int)+1) ω ω,ag j]
     have h0:=hr u (T5.mono hu ω)
     dsimp only
     exact aw (λ_=>aB ⟨ω,ω⟩ (af (F9 N ω hm hb.2.1 _) λx ⟨hx,Zx⟩=>aB ⟨ω,ω⟩ (aB ⟨ω,ω⟩ (af (mu N ω hm hb.2.2.1 _ _) λq hq=>pf (λhf=>bu (λ_=>aw (λ_=>aC (by rw[aI];omega) (hr _ (T5.mono (T5.app hu (tP hR (Yb hR.a Zx hf))) ω))) λ_=>h0) λ_=>h0) λ_=>h0)))) λ_=>ω
    ·exact aw (λ_=>ω) λ_=>an ⟨T5.mono hu ω,λ_=>hMa⟩
 unfold cI cI.b
 exact bA (dI N hN hm hb) (bt (λ_=>nil _ δ) λ_=>af (tL N ω ω) λ_ _=>bt (λ_=>nil _ δ) λ_=>af (BP N ω ω) λ_ _=>bt (λ_=>nil _ δ) λ_=>bA (oi N (cm hb.1.1 ω) ω _) (ok_eq (λ_=>nil _ δ) λhs=>have hMa:=(uV hR.m a).1 hs;af (AQ N ω hm hb.2.1 _) λh hh=>bu (λ_=>af (row_in N ω hm hb hR ω (T5.nil (k:=0)) _ _ _) λl hl=>hj hMa l hl) λ_=>hj hMa [] T5.nil))
theorem UQ(N:Nat)(hN:5000000≤N){c:ae}{b:aq}{d g:aD}{a:Int}{m:Nat}(h2:200≤m)(hm:m≤40000)(hc:G m aA c)(hb:G m aL b)(hR:RB c b)(hd:L2 m d)(hg:L2 m g)(ha:aE a):Ok (λr=>r.2.2=0→RBs c b r.1) (ik N c b a d g):=by
 have dJ: ∀e:Int,e≠0→Ok (λr:aq×dL×Int=>r.2.2=0→RBs c b r.1) (some ((ck,(c9,(bH,(bH,(dC,(dT,())))))),(R0,e))):=λe h=>an λh'=>absurd h' h
 unfold ik ik.b
 refine af (Ok.and (Yc N hN ω hc hb hR hd hg) (NX N hN ω hc hb hd hg ha)) λl ⟨⟨⟨_,Qi⟩,hMa⟩,hl2⟩=>ok_eq (λh=>dJ _ ω) λ_=>ok_eq (λh=>dJ _ ω) λ_=>af (Jg N hN c ω hb) λq hq=>bu (λh=>dJ _ h) λ_=>bu (λh=>dJ _ h) λh0=>af (Jh N hN (Q:=λx=>G 64 sX x∧PT b x.2.1 x.2.2.1) (λx hx=>hx.1.2.2.2.1) (λx v hx hv=>⟨G5q hx.1 hv,hx.2⟩) (λx hx=>⟨G.mono (m:=0) (bo _) (hl2.2 x hx),Qi x hx⟩) hq) λz ⟨⟨hzl,Cj⟩,G7⟩=>bu (λh=>dJ _ h) λ_=> ?_
 have hMa:=hMa h0
 have hF:cQ 2 0∧jw b.1 b.2.1 2 0:=BW δ
 have hj: ∀(p:bF) (r:dL) (t:bK) (x k n:Int),PB b.1 b.2.1 p→p.length≤1000→PT b k n→aE x→Ok (λr=>r.2.2=0→RBs c b r.1) (ik.j26 N b (ck,(c9,(bH,(bH,(dC,(dT,())))))) R0 p r t x k n):=λp r t x k n hp Hl hk hx=>by
  unfold ik.j26 ik.aa6
  exact bA (c5 N ω hx.1 hx.2) (af (sN N ω (oQ hx) hF hk) λu ⟨hu,G9⟩=>aC ω (af (sM N ω ω hb hR SB.nil (PB.app hp hu) (bo _) (by rw[aS];omega)) λw hw=>bu (λh=>dJ _ h) λh0=>an λ_=>hw h0))
 refine bg (len:=z.1.length) (F:=λn i (s:bF×dL×bK)=>ik.IG N n a c b (ck,(c9,(bH,(bH,(dC,(dT,())))))) R0 z.1 z.2.1 s.1 s.2.1 s.2.2 i) (s:=(_,(_,_))) (λi s=>(PB b.1 b.2.1 s.1∧s.1.length≤2*i)∧s.2.2.length≤i) ⟨⟨PB.nil,bo _⟩,bo _⟩ ω (λn i s hi hI hr=> ?_) (λn s hI=> ?_)
 all_goals unfold ik.IG ik.HG
 all_goals obtain⟨⟨h4,hp⟩,ht⟩:=hI
 ·obtain⟨hx,hk⟩:=Cj _ (rG (d:=mK) hi)
  have hx:aE (z.1.getD i mK).2.2.2.2.1:=hx.2.2.2.2.1
  rw[ax (x:=(i:Int)+1) ω ω,ag i,aJ]
  exact aw (λ_=>aB ⟨ω,ω⟩ (aw (λ_=>aB ⟨ω,ω⟩ (aC (by rw[List.length_singleton];omega) (aB ⟨ω,ω⟩ (aB ⟨ω,ω⟩ (aB ⟨ω,ω⟩ (bA (c5 N ω hx.1 hx.2) (af (sN N ω (oQ hx) hk hF) λu ⟨hu,G9⟩=>aC ω (hr (_,(_,_)) ⟨⟨PB.app h4 hu,by dsimp only;rw[List.length_append];omega⟩,by dsimp only;rw[List.length_append,List.length_singleton];omega⟩)))))))) λ_=>hr s ⟨⟨h4,ω⟩,ω⟩)) λ_=>ω
 ·dsimp only
  have hS:cQ 4 0∧jw b.1 b.2.1 4 0:=BW δ
  exact aw (λ_=>ω) λ_=>bA (c5 N ω G7.1 G7.2) (af (sN N ω (oQ G7) hS hF) λu ⟨hu,G9⟩=>aC ω (af (Gd N hN c ω hb) λx hx=>bA (qp N (cm hb.2.1.1 ω) ω _) (bu (λhh=>hj _ _ _ _ _ _ (PB.app h4 hu) (by rw[aS];omega) (tP hR (Jr hh)) hx) λ_=>hj _ _ _ _ _ _ (PB.app h4 hu) (by rw[aS];omega) (AV hR δ hMa) hx)))
end VM
end
section
namespace VM
open Go VM.F
theorem ang{q x:Int}(h0:0≤x)(h1:x<9223372036854775808):aE (sg q x)∧p5 (sg q x):=by
 unfold sg aE p5;split<;>omega
theorem Yd{t left:Int}{w out:List Int}(f:Full t w w out left)(i:Nat)(hi:i<w.length):0≤out.getD i 0∧out.getD i 0<9223372036854775808:=by
 have c:=f.c
 have h1:=c.le i hi
 have h2:=(c.pc i).2
 have h3:=c.po i
 omega
theorem UR(N:Nat){a q:Int}{accs out:List Int}(hl:accs.length=out.length)(hle:out.length≤1000)(ho: ∀i,i<out.length→0≤out.getD i 0∧out.getD i 0<9223372036854775808)(s:au)(hs:s.length≤1000)(hN:200000≤N):
  fC.UF N N a q accs out s 0=some (s++zc a q (out.zip accs),0):=by
 have hz:(out.zip accs).length=out.length:=by rw[vM];omega
 have:=og (out.zip accs) (0,0) (λn i s=>fC.UF N n a q accs out s i) (λt s=>some (s++zc a q t,(0:Int))) (λi (s:au)=>s.length≤1000+i) (λn i s hi hI hr=> ?_) (λn s hI=> ?_) out.length N 0 s ω ω ω ω
 ·exact this
 ·unfold fC.UF fC.XP
  have m7:i<out.length:=ω
  have h2:=ho i m7
  rw[aT ω,ak,aX ω ω,ak,aJ,aX ω ω,ak,ax (x:=(i:Int)+1) ω ω,ag i,ax (x:=0-out.getD i 0) ω ω,Xq m7 ω,D4]
  dsimp only
  rw[ak,bL (by rw[aI];omega),ak,bL (by rw[aI];omega),ak]
  have e:sg q (out.getD i 0)=if q<0 then 0-out.getD i 0 else out.getD i 0:=rfl
  rw[cP,cond_not,cond_not,aN,aN]
  have fin:(if sg q (out.getD i 0)=0 then fC.UF N n a q accs out s ((i+1:Nat):Int)else fC.UF N n a q accs out (s++[(accs.getD i 0,(a,(sg q (out.getD i 0),())))]) ((i+1:Nat):Int))=some (s++(if sg q (out.getD i 0)=0 then zc a q ((out.zip accs).drop (i+1))else(accs.getD i 0,(a,(sg q (out.getD i 0),())))::zc a q ((out.zip accs).drop (i+1))),(0:Int)):=by
   by_cases h:sg q (out.getD i 0)=0
   ·rw[aj h,aj h];exact hr s ω
   ·rw[ah h,ah h,hr _ (by rw[aS,aI];omega),br];rfl
  refine Eq.trans ?_ fin
  by_cases h:q<0
  ·rw[aj h,e,aj h]
  ·rw[ah h,e,ah h]
 ·unfold fC.UF fC.XP
  rw[hz,aP ω,av]
  show _=some (s++[],(0:Int))
  rw[ch]
theorem SP{l:au}(h: ∀x∈l,aE (dU x)∧p5 (dU x))(a b:Int):aE (eG l a b)∧p5 (eG l a b):=by
 have key: ∀l:au,(∀x∈l,aE (dU x)∧p5 (dU x))→aE (fY a b l)∧p5 (fY a b l):=by
  intro l
  induction l with
  |nil=>intro _;show aE 0∧p5 0;decide
  |cons x t ih=>
   intro h
   have ih:=ih (λy hy=>h y (aZ _ hy))
   rw[gl]
   split
   ·split
    ·exact h x (bk ..)
    ·exact ih
   ·exact ih
 unfold eG
 split
 ·exact key l h
 ·decide
theorem K3(l:au):(yx l).length=l.length:=cv ..
theorem AW(l:au):(jh l).length=l.length:=cv ..
theorem Jt{q:Int}(h:aE q∧p5 q):(q.natAbs:Int)<9223372036854775808:=by unfold aE p5 at h;omega
theorem K4{l:au}(hk:cz l=true)(hq:dy l): ∀x∈l,aE (dU x)∧p5 (dU x):=λx hx=>⟨hq x hx,((cU hk).2 x hx).2⟩
theorem Ju{l:au}(hk:cz l=true)(hq:dy l){a q:Int}(nR:aE q∧p5 q)(hc:(jN l a q).2.2=0):
  Full (q.natAbs:Int) (jh (fO a q l)) (jh (fO a q l)) (jN l a q).1 (jN l a q).2.1∧(jN l a q).1.length=(fO a q l).length∧(jN l a q).1.length≤64∧ ∀i,i<(jN l a q).1.length→0≤(jN l a q).1.getD i 0∧(jN l a q).1.getD i 0<9223372036854775808:=by
 have f:Full (q.natAbs:Int) (jh (fO a q l)) (jh (fO a q l)) (jN l a q).1 (jN l a q).2.1:=F5 (Jt nR) (BK (K4 hk hq) a q) hc
 have h1:=f.c.l2
 have h2:=f.c.n
 rw[AW]at h1 h2
 exact⟨f,h1,ω,λi hi=>Yd f i (by rw[AW];omega)⟩
theorem Ye{l:au}(h:cz l=true): ∀x∈l,dU x≠0:=λx hx=>by
 unfold cz at h
 rw[fF]at h
 obtain⟨i,hi,e⟩:=gh hx
 have:=bx h i hi
 unfold lC mg at this
 rw[aU,bn hi]at this
 simp only[mZ,e]at this
 exact this.2.1
theorem Yf{x:Int}(h:aE x∧p5 x):mx x (W .i64 (0-x))=(x.natAbs:Int):=by
 unfold aE p5 at h
 rw[ax ω ω,Vt];split<;>omega
theorem Oa{x q:Int}(hx:x≠0)(hq:q≠0):HJ x q↔ ¬((0<x)↔(0<q)):=by
 unfold HJ;omega
theorem Yg(N:Nat)(hN:5000000≤N)(c:ae){b:aq}(w:gE b)(a:Int):fC N c b a=some (uS c b a):=by
 unfold fC fC.b uS
 rw[Ao N ω w,ar,D2 N w.s ω,ar,cond_not,cP,cG,aN]
 by_cases hB:dz c b=false
 ·rw[hB];rfl
 rw[Et]at hB
 rw[hB,ak,aj rfl]
 obtain⟨_,hk⟩:=dH hB
 have hq:=K4 hk w.qs
 have hnz:=Ye hk
 have hh:=SP hq 0 a
 have hlen:=w.s
 have hqs:=w.qs
 generalize eG b.2.2.2.1 0 a=q at*
 by_cases h1:a<0
 ·rw[aj h1,aj h1]
 rw[ah h1,ah h1]
 by_cases h2:(c.1.length:Int)≤a
 ·rw[aj h2,aj h2]
 rw[ah h2,ah h2]
 by_cases h3:q=0
 ·rw[aj h3,aj h3]
 rw[ah h3,ah h3]
 have nN:=hh.1
 unfold aE at nN
 have hqn:q≠ -9223372036854775808:=hh.2
 have:=og b.2.2.2.1 bh (λn i (z:au)=>fC.BM N n a b q (yx z) (jh z) i)
  (λt z=>some (if(jN b.2.2.2.1 a q).2.2=0 then(aaI b.2.2.2.1 a q,0)else([],(jN b.2.2.2.1 a q).2.2))) (λi z=>z++fO a q (b.2.2.2.1.drop i)=fO a q b.2.2.2.1∧z.length≤i)
  (λn i z hi hI hr=> ?_) (λn z hI=> ?_) b.2.2.2.1.length N 0 [] ω ω ω ⟨rfl,aG _⟩
 ·exact this
 ·unfold fC.BM fC.yZ
  obtain⟨i1,i2⟩:=hI
  have hm:b.2.2.2.1.getD i bh∈b.2.2.2.1:=by
   rw[aU,bn hi];exact dB hi
  have hx:=hq _ hm
  have hn:=hnz _ hm
  rw[drop_cons hi bh,rp]at i1
  rw[aT ω,ak,aX ω ω,ak,aJ,ax (x:=(i:Int)+1) ω ω,ag i]
  generalize b.2.2.2.1.getD i bh=x at*
  have Ls:mx x.2.2.1 (W .i64 (0-x.2.2.1))=(x.2.2.1.natAbs:Int):=Yf hx
  rw[bL (by rw[K3,aI];omega),ak,Ls]
  dsimp only
  rw[bL (by rw[AW,aI];omega),ak,cond_not,aN,aN,cond_not,o4,tX,tX]
  by_cases e1:x.1=0
  ·rw[aj e1]
   rw[ah (λh=>h.1 e1)]at i1
   exact hr z ⟨i1,ω⟩
  ·rw[ah e1]
   by_cases e2:x.2.1=a
   ·rw[aj e2]
    by_cases e3:HJ (dU x) q
    ·have eb:(decide (0<x.2.2.1)==decide (0<q))=false:=by
      have e3:=(Oa hn h3).1 e3
      unfold dU at e3
      by_cases g1:0<x.2.2.1<;>by_cases g2:0<q
      ·exact absurd ⟨λ_=>g2,λ_=>g1⟩ e3
      ·rw[bs g1,cj g2];rfl
      ·rw[cj g1,bs g2];rfl
      ·exact absurd ⟨λh=>absurd h g1,λh=>absurd h g2⟩ e3
     rw[eb,av]
     rw[aj ⟨e1,e2,e3⟩]at i1
     have:=hr (z++[x]) ⟨by rw[br];exact i1,by rw[aS,aI];omega⟩
     unfold yx jh at this
     rw[cY,cY]at this
     exact this
    ·have eb:(decide (0<x.2.2.1)==decide (0<q))=true:=by
      have e3:=Es.1 (λh=>e3 ((Oa hn h3).2 h))
      unfold dU at e3
      rw[show decide (0<x.2.2.1)=decide (0<q)from oS.2 e3]
      exact s6 _
     rw[eb,ak]
     rw[ah (λh=>e3 h.2.2)]at i1
     exact hr z ⟨i1,ω⟩
   ·rw[ah e2]
    rw[ah (λh=>e2 h.2.1)]at i1
    exact hr z ⟨i1,ω⟩
 ·unfold fC.BM fC.yZ
  obtain⟨i1,i2⟩:=hI
  rw[mX]at i1
  have ez:z=fO a q b.2.2.2.1:=by rw[←i1];exact(ch _).symm
  subst ez
  have sZ:=AW (fO a q b.2.2.2.1)
  have Hl:=I7 a q b.2.2.2.1
  rw[aP ω,av,Yf hh,F4 N hN (Jt hh) (BK hq a q) (BK hq a q) (by rw[sZ];omega),ar,cond_not,aN,ax (x:=0-q) ω ω]
  show(if(jN b.2.2.2.1 a q).2.2=0 then _ else _)=_
  by_cases h4:(jN b.2.2.2.1 a q).2.2=0
  ·rw[aj h4,aj h4]
   obtain⟨f,g1,g2,g3⟩:=Ju hk hqs hh h4
   exact UR N (by rw[K3];omega) ω g3 _ (by simp) ω
  ·rw[ah h4,ah h4];rfl
end VM
end
section
namespace VM
open Go VM.F Go.RowKit
structure yA(s:au)(n:Nat):Prop where
 place: ∀x∈s,bD x.1 x.2.1
 q: ∀x∈s,aE (dU x)∧p5 (dU x)
 len:s.length≤n
 flat: ∀i:Int,(c6 i s).sum=0
theorem yA.nil(n:Nat):yA [] n:=⟨λx hx=>(nomatch hx),λx hx=>(nomatch hx),bo _,λi=>rfl⟩
theorem yA.app{s t:au}{n m k:Nat}(a:yA s n)(b:yA t m)(h:n+m≤k):yA (s++t) k:=
 ⟨λx hx=>(bb.1 hx).elim (a.place x) (b.place x),λx hx=>(bb.1 hx).elim (a.q x) (b.q x),by rw[aS];have:=a.len;have:=b.len;omega,λi=>by rw[yv,lR,a.flat,b.flat];rfl⟩
theorem Q7(a q i:Int): ∀t:List (Int×Int),(c6 i (zc a q t)).sum=if a=i then sg q (t.map (·.1)).sum else 0
 |[]=>by
  show(0:Int)=if a=i then sg q 0 else 0
  unfold sg;split<;>(try split)<;>rfl
 |p::t=>by
  have ih:=Q7 a q i t
  have hs:sg q ((p::t).map (·.1)).sum=sg q p.1+sg q (t.map (·.1)).sum:=by
   rw[bV,cy];unfold sg;split<;>omega
  rw[D4,hs]
  by_cases h:sg q p.1=0
  ·rw[aj h,ih,h];split<;>omega
  ·rw[ah h,dg]
   dsimp only
   by_cases e:a=i
   ·rw[aj e,aj e,cy,ih,aj e];rfl
   ·rw[ah e,ah e,ih,ah e]
theorem K5{a q:Int}{x:db}: ∀{t:List (Int×Int)},x∈zc a q t→ ∃p∈t,x=(p.2,(a,(sg q p.1,())))
 |[],h=>nomatch h
 |p::t,h=>by
  rw[D4]at h
  split at h
  ·obtain⟨p',hp,e⟩:=K5 h
   exact⟨p',aZ _ hp,e⟩
  ·rcases aW.1 h with e|h
   ·exact⟨p,bk ..,e⟩
   ·obtain⟨p',hp,e⟩:=K5 h
    exact⟨p',aZ _ hp,e⟩
theorem Yh(a q:Int): ∀t:List (Int×Int),(zc a q t).length≤t.length
 |[]=>aG _
 |p::t=>by
  have:=Yh a q t
  rw[D4,aR]
  split
  ·omega
  ·rw[aR];omega
theorem Ob{c:ae}{b:aq}(h:dz c b=true):om b.2.2.2.1=true∧fL c=true:=by
 unfold dz at h
 have h0:=cO.1 h
 have h1:=(cO.1 h0.2).2
 have h2:=cO.1 h1
 exact⟨(cO.1 (cO.1 h2.2).2).1,h0.1⟩
theorem Yi{c:ae}{b:aq}(hB:dz c b=true)(w:gE b){a:Int}(h:(uS c b a).2=0):yA (uS c b a).1 65:=by
 obtain⟨_,hk⟩:=dH hB
 obtain⟨hf,Hl⟩:=Ob hB
 have hq:=K4 hk w.qs
 have hh:=SP hq 0 a
 obtain⟨hs,GW⟩:=cU hk
 unfold uS at h ⊢
 rw[aj hB]at h ⊢
 by_cases h1:a<0
 ·rw[aj h1];exact yA.nil _
 rw[ah h1]at h ⊢
 by_cases h2:(c.1.length:Int)≤a
 ·rw[aj h2];exact yA.nil _
 rw[ah h2]at h ⊢
 by_cases h3:eG b.2.2.2.1 0 a=0
 ·rw[aj h3];exact yA.nil _
 rw[ah h3]at h ⊢
 by_cases h4:(jN b.2.2.2.1 a (eG b.2.2.2.1 0 a)).2.2=0
 ·rw[aj h4]
  have air:fY 0 a b.2.2.2.1=eG b.2.2.2.1 0 a:=by unfold eG;rw[hk];rfl
  have hn6:a<6:=by
   unfold fL at Hl
   have:=(bx (cO.1 Hl).1).2
   omega
  have hz:(c6 a b.2.2.2.1).sum=0:=by
   unfold om at hf
   have R4:=bx (cO.1 hf).1 a.toNat (by unfold ko;omega)
   unfold sU dx sB at R4
   rw[hk,aj rfl,show((a.toNat:Nat):Int)=a by omega]at R4
   exact R4
  generalize eG b.2.2.2.1 0 a=q at*
  obtain⟨f,g1,g2,g3⟩:=Ju hk w.qs hh h4
  have anh:=Xp f (QN hs hz air h3)
  have HF:=f.c.s
  rw[anh,gI]at HF
  have hzl:((jN b.2.2.2.1 a q).1.zip (yx (fO a q b.2.2.2.1))).map (·.1)=(jN b.2.2.2.1 a q).1:=List.map_fst_zip (by rw[K3];omega)
  have hsg:sg q (q.natAbs:Int)=q:=by unfold sg;split<;>omega
  have hzz: ∀x∈zc a q ((jN b.2.2.2.1 a q).1.zip (yx (fO a q b.2.2.2.1))),bD x.1 x.2.1∧aE (dU x)∧p5 (dU x):=λx hx=>by
   obtain⟨p,hp,rfl⟩:=K5 hx
   obtain⟨i,hi,e⟩:=gh hp
   rw[vM]at hi
   have e':=Xq (out:=(jN b.2.2.2.1 a q).1) (accs:=yx (fO a q b.2.2.2.1)) (i:=i) ω ω
   rw[aU,bn (by rw[vM];omega)]at e'
   have ep:p=_:=e.symm.trans e'
   have hr:=g3 i ω
   rw[ep]
   refine⟨?_,ang hr.1 hr.2⟩
   have hm:(yx (fO a q b.2.2.2.1)).getD i 0∈yx (fO a q b.2.2.2.1):=by
    rw[aU,bn ω];exact dB _
   obtain⟨y,hy,ey⟩:=cD.1 hm
   have RN:=tI hy
   have hpy:=(GW y RN.1).1
   have g: ∀u v z:Int,bD u v→v=a→u=z→bD z a:=λu v z h e1 e2=>by rw[←e1,←e2];exact h
   exact g _ _ _ hpy RN.2.2 ey
  refine⟨λx hx=> ?_,λx hx=> ?_,?_,λi=> ?_⟩
  ·rcases aW.1 hx with e|hx
   ·rw[e];show bD 0 a;unfold bD;omega
   ·exact(hzz x hx).1
  ·rcases aW.1 hx with e|hx
   ·rw[e];exact Ub hh
   ·exact(hzz x hx).2
  ·unfold aaI
   rw[aR]
   have:=Yh a q ((jN b.2.2.2.1 a q).1.zip (yx (fO a q b.2.2.2.1)))
   rw[vM]at this
   omega
  ·unfold aaI
   rw[dg]
   dsimp only
   by_cases e:a=i
   ·rw[aj e,cy,Q7,aj e,hzl,HF,hsg]
    show 0-q+q=0
    omega
   ·rw[ah e,Q7,ah e]
 ·rw[ah h4]at h
  exact absurd h h4
namespace Pure
end Pure
end VM
end
section
namespace VM
open Go VM.F
theorem abn{c:ae}{b:aq}(hR:RB c b)(w:gE b){a:Int}(ha:0≤a∧nS a c.1.length)(h:(uS c b a).2=0):SB c b.2.1 (uS c b a).1∧(uS c b a).1.length≤65:=by
 have I:=Yi (lf.2 hR) w h
 refine⟨⟨λx hx=>(I.q x hx).1,λx hx=>⟨I.place x hx,?_⟩,I.flat⟩,I.len⟩
 have pos: ∀y∈b.2.2.2.1,dx y.1 0∨qf b.2.1 y.1:=λy hy=>(hR.sk y hy).1
 unfold uS at hx h
 rw[aj (lf.2 hR)]at hx h
 by_cases h1:a<0
 ·exact absurd ha.1 ω
 by_cases h2:(c.1.length:Int)≤a
 ·have:=ha.2;unfold nS at this;omega
 rw[ah h1,ah h2]at hx h
 by_cases h3:eG b.2.2.2.1 0 a=0
 ·rw[aj h3]at hx;exact nomatch hx
 rw[ah h3]at hx h
 generalize eG b.2.2.2.1 0 a=q at*
 by_cases h4:(jN b.2.2.2.1 a q).2.2=0
 ·rw[aj h4]at hx
  rcases aW.1 hx with rfl|hx
  ·exact⟨.inl rfl,ha.2⟩
  ·obtain⟨p,hp,rfl⟩:=K5 hx
   obtain⟨y,hy,e⟩:=cD.1 (List.of_mem_zip hp).2
   refine⟨?_,ha.2⟩
   dsimp only
   rw[←e]
   exact pos y (tI hy).1
 ·rw[ah h4]at hx;exact nomatch hx
theorem abo(N:Nat)(hN:5000000≤N){c:ae}{b:aq}{m:Nat}(hm:m≤7000)(hb:G m aL b)(hR:RB c b):Ok (Jo c b) (nJ N c b):=by
 have w:=(G.wf ω hb).w
 have hci:c.1.length≤6:=by
  have:=hR.c
  unfold fL at this
  exact(bx (cO.1 this).1).2
 unfold nJ nJ.b
 refine bA (dI N hN ω hb) (bt (λ_=>Jo.bad δ) λ_=>bg (len:=c.1.length) (F:=λn i s=>nJ.l5 N n c b (ck,(c9,(bH,(bH,(dC,(dT,())))))) s i) (λi s=>SB c b.2.1 s∧s.length≤65*i) ⟨SB.nil,bo _⟩ ω (λn i s hi hI hr=> ?_) (λn s hI=> ?_))
 all_goals unfold nJ.l5 nJ.ei
 all_goals obtain⟨i1,i2⟩:=hI
 ·rw[ax (x:=(i:Int)+1) ω ω,ag i]
  exact aw (λ_=>bA (Yg N hN c w _) (bu (λh=>Jo.bad h) λh=>have J:=abn hR w ⟨ω,show(i:Int)<c.1.length by omega⟩ h;aC ω (hr _ ⟨SB.app i1 J.1,by rw[aS];omega⟩))) λ_=>ω
 ·exact aw (λ_=>ω) λ_=>af (sM N ω ω hb hR i1 PB.nil ω (bo _)) λr hr=>an hr
end VM
end
section
namespace VM
open Go VM.F
def nU(c:ae)(m:Nat)(s:aQ):Prop:=RB c s.2.2.1∧(1≤s.2.1∧s.2.1≤2000*(m:Int))∧(s.2.2.2.1.2.2.2.2.1.length≤4∧ ∀x∈s.2.2.2.1.2.2.2.2.1,HM c x)∧s.2.2.2.1.2.2.2.2.2.1.length≤12
abbrev SI(c:ae)(m:Nat)(r:aQ×db):Prop:=r.2.1=0→nU c m r.1
theorem nU.up{c:ae}{m:Nat}{s:aQ}(h:nU c m s):nU c (m+1) s:=⟨h.1,⟨h.2.1.1,fG h.2.1.2 ω⟩,h.2.2⟩
theorem nU.add{n k:Int}{m:Nat}(h:1≤n∧n≤2000*(m:Int))(hm:m≤999)(hk:0≤k∧k≤2000):1≤W .i64 (n+k)∧W .i64 (n+k)≤2000*((m+1:Nat):Int):=by
 rw[ax ω ω];omega
theorem SQ{c:ae}:([]:aK).length≤4∧ ∀x∈([]:aK),HM c x:=⟨bo _,λx hx=>nomatch hx⟩
theorem g7{c:ae}{m N:Nat}{e:Int}{x:aQ}(h:e=0→nU c m x):Ok (SI c m) ((fx N e).bind λr=>some (x,r)):=by
 unfold fx;exact an h
theorem dM{c:ae}{m N:Nat}{e:Int}{x:aQ}(h:e≠0):Ok (SI c m) ((fx N e).bind λr=>some (x,r)):=g7 λh'=>absurd h' h
theorem Yj(N:Nat)(hN:200000≤N){s:aQ}(hl:s.2.2.1.2.1.length≤100000)(k:Int):QW N s k=some (fc s.2.2.1.2.1 k).2:=by
 unfold QW;rw[wL N hl hN];rfl
theorem US(N:Nat)(hN:200000≤N){s:aQ}(hl:s.2.2.1.1.length≤100000)(k:Int):Ge N s k=some (eA s.2.2.1.1 k):=by
 unfold Ge;rw[oi N hl hN];rfl
theorem K6(N:Nat)(hN:4000000≤N){c:ae}{s:aQ}{m:Nat}(hm:m≤50000)(hs:GS m s)(hR:nU c m s){a b d e q:Int}(hq:aE q)(h1:cQ a b∧jw s.2.2.1.1 s.2.2.1.2.1 a b)(h2:cQ d e∧jw s.2.2.1.1 s.2.2.1.2.1 d e):Ok (SI c (m+1)) (N1 N s a b d e q):=by
 unfold N1
 exact bA (c5 N ω hq.1 hq.2) (af (sN N hN (oQ hq) h1 h2) λp ⟨hp,Hl⟩=>af (sM N hN hm hs.2.2.1 hR.1 SB.nil hp (bo _) ω) λr hr=>an λh=>⟨(hr h).1,hR.up.2⟩)
theorem UT(N:Nat)(hN:5000000≤N){c:ae}{s:aQ}{e:gP}{m:Nat}(h2:200≤m)(hm:m≤999)(hc:G m aA c)(hs:GS m s)(hR:nU c m s)(he:G 0 kX e):Ok (SI c (m+1)) (nK N c s e):=by
 have hhl:=hs.2.2.2.1.2.2.2.2.1.1
 unfold nK nK.b
 generalize ((0:Int),((0:Int),_))=S0
 refine bg (len:=s.2.2.2.1.2.2.2.2.1.length) (F:=λn i (z:aQ×aK×Bool×Int)=>nK.l5 N n c z.1 e S0 bh z.2.1 z.2.2.1 z.2.2.2 i) (s:=(_,(_,(_,_)))) (λi z=>(GS m z.1∧nU c m z.1)∧z.1.2.2.2.1.2.2.2.2.1=s.2.2.2.1.2.2.2.2.1∧(G i (.slice eB) z.2.1∧ ∀x∈z.2.1,HM c x)) ⟨⟨hs,hR⟩,rfl,G.nil,λx hx=>nomatch hx⟩ ω (λn i z hi hI hr=> ?_) (λn z hI=> ?_)
 all_goals unfold nK.l5 nK.ei
 ·obtain⟨⟨hz,hzR⟩,hh,ho,hog⟩:=hI
  have Ii:=ho.1
  rw[hh,ax (x:=(i:Int)+1) ω ω,ag i]
  have hx:G 0 eB (s.2.2.2.1.2.2.2.2.1.getD (i:Int).toNat aV):=G.at hs.2.2.2.1.2.2.2.2.1 _
  have hxg:HM c (s.2.2.2.1.2.2.2.2.1.getD (i:Int).toNat aV):=hR.2.2.1.2 _ (rG hi)
  have snoc: ∀x:bO,HM c x→ ∀y∈z.2.1++[x],HM c y:=λx hx y hy=>(bb.1 hy).elim (hog y) λhy=>by rw[bW.1 hy];exact hx
  have hxm:G m eB (s.2.2.2.1.2.2.2.2.1.getD (i:Int).toNat aV):=G.mono (bo m) hx
  refine aw (λ_=>aB ⟨ω,ω⟩ (ok_eq (λ_=>af (Ok.and (Sx N hN h2 ω hc hz.2.2.1 hxm he.2.2.1 he.2.2.2.2.2.2.1 he.2.2.2.2.2.2.2.1) (abh N hN h2 ω hc hz.2.2.1 hzR.1 hxm he.2.2.1 he.2.2.2.2.2.2.1 he.2.2.2.2.2.2.2.1)) λr ⟨⟨yP,yG⟩,SA⟩=>bu (λh=>dM h) λh0=> ?_) λ_=>aw (λ_=>aC (by rw[aI];omega) (hr (z.1,(z.2.1++[s.2.2.2.1.2.2.2.2.1.getD (i:Int).toNat aV],z.2.2)) ⟨⟨hz,hzR⟩,hh,G.cat ho (G.one hx (aG 1)),snoc _ hxg⟩)) λ_=>hr z ⟨⟨hz,hzR⟩,hh,G.mono ω ho,hog⟩)) λ_=>ω
  have A5:GS m (z.1.1,(z.1.2.1,(r.1,z.1.2.2.2))):=⟨hz.1,hz.2.1,yP,hz.2.2.2⟩
  have anj:nU c m (z.1.1,(z.1.2.1,(r.1,z.1.2.2.2))):=⟨(SA h0).1,hzR.2⟩
  have aio:G 0 eB r.2.1:=yG
  exact aw (λhq=>aC (by rw[aI];omega) (hr ((z.1.1,(z.1.2.1,(r.1,z.1.2.2.2))),(z.2.1++[r.2.1],(true,r.2.1.2.2.2.1))) ⟨⟨A5,anj⟩,hh,G.cat ho (G.one aio (aG 1)),snoc _ ⟨by rw[(SA h0).2.1];exact hxg.1,hq,(SA h0).2.2⟩⟩)) λ_=>hr ((z.1.1,(z.1.2.1,(r.1,z.1.2.2.2))),(z.2.1,(true,r.2.1.2.2.2.1))) ⟨⟨A5,anj⟩,hh,G.mono ω ho,hog⟩
 ·obtain⟨⟨hz,hzR⟩,hh,ho,hog⟩:=hI
  rw[hh]
  exact aw (λ_=>ω) λ_=>bt (λ_=>dM δ) λ_=>an λ_=>⟨hzR.1,hzR.up.2.1,⟨cm ho.1 hR.2.2.1.1,hog⟩,hzR.2.2.2⟩
theorem Yk(N:Nat)(hN:5000000≤N){c:ae}{s:aQ}{e:gP}{m:Nat}(h2:200≤m)(hm:m≤999)(hc:G 5 aA c)(hs:GS m s)(hR:nU c m s)(he:G 0 kX e):Ok (SI c (m+1)) (nL N c s e):=by
 have DR:G m aA c:=G.mono ω hc
 have hk:=hs.2.2.2.1
 have hb:=hs.2.2.1
 have up:=hR.up.2
 unfold nL nL.b
 refine ok_eq (λ_=> ?_) λ_=>ok_eq (λ_=> ?_) λ_=>ok_eq (λ_=> ?_) λ_=>ok_eq (λ_=> ?_) λ_=>ok_eq (λ_=> ?_) λ_=>ok_eq (λ_=> ?_) λ_=>ok_eq (λ_=> ?_) λ_=>ok_eq (λ_=> ?_) λ_=>g7 λ_=>hR.up
 ·exact af (abl N hN ω DR hb hR.1 _ _ _) λr hr=>g7 λh=>⟨hr h,up⟩
 ·exact af (SN N hN h2 ω DR hb hR.1 _) λr hr=>g7 λh=>⟨(hr h).1,up⟩
 ·exact af (Ja N hN c hc.2.2.2.2.2.2.1 ω hb _) λr hr=>an λ_=>⟨hR.1,nU.add hR.2.1 hm (by have:=hr.1.1;omega),⟨hr.1.1,hr.2⟩,hR.2.2.2⟩
 ·exact af (UT N hN h2 ω DR hs hR he) λr hr=>an hr
 ·exact ok_eq (λ_=>dM δ) λ_=>af (Sz N hN h2 ω DR hb hs.2.1) λl ⟨hl,asw⟩=>bu (λh=>dM h) λ_=>af (tM N ω hs.1 hc.2.2.2.2.1) λt ht=>bt (λ_=>dM δ) λ_=>af (Sy N hN c ω hb) λu hu=>an λ_=>⟨hR.1,nU.add hR.2.1 hm ω,SQ,asw⟩
 ·have hx:G 0 eB (s.2.1,(e.2.2.2.2.2.1,(e.2.1,(e.2.2.2.2.2.2.2.1,())))):=⟨hs.2.1,he.2.2.2.2.2.1,he.2.1,he.2.2.2.2.2.2.2.1,trivial⟩
  exact af (Jf N hN ω ω DR hb hk.2.2.2.2.2.1 hk.2.2.2.2.2.2.1 hx) λr hr=>an λ_=>⟨hR.1,nU.add hR.2.1 hm δ,hR.2.2⟩
 ·refine af (Ok.and (NY N hN c h2 ω hb hk.2.2.2.2.2.1 hk.2.2.2.2.2.2.1) (Ya N hN h2 ω hb hR.1 hk.2.2.2.2.2.1 hk.2.2.2.2.2.2.1)) λr ⟨⟨yP,yG⟩,SA⟩=>bu (λh=>dM h) λh0=>af (NW N ω c h2 ω hk.2.2.2.2.2.2.2.2.1 hk.2.2.2.2.2.2.2.1.1 yG hk.2.2.2.2.2.2.1) λd hd=> ?_
  generalize ((0:Int),((0:Int),_))=S0
  have H6:=yG.1
  refine bg (len:=r.2.1.length) (F:=λn i q=>nL.l41 N n _ S0 bh r.2.1 q i) (λ_ _=>True) trivial ω (λn i q hi _ eO=> ?_) (λn q _=> ?_)
  all_goals unfold nL.l41 nL.aa8
  ·rw[ax (x:=(i:Int)+1) ω ω,ag i]
   exact aw (λ_=>aB ⟨ω,ω⟩ (ok_eq (λ_=>eO _ trivial) λ_=>eO _ trivial)) λ_=>ω
  ·exact aw (λ_=>ω) λ_=>an λ_=>⟨(SA h0).1,up.1,hR.2.2.1,(SA h0).2⟩
 ·exact af (Ok.and (Ji N hN h2 ω DR hb hk.2.2.2.2.2.2.2.2.1 hk.2.2.2.2.2.2.2.2.2.1 hk.1) (UQ N hN h2 ω DR hb hR.1 hk.2.2.2.2.2.2.2.2.1 hk.2.2.2.2.2.2.2.2.2.1 hk.1)) λr ⟨⟨yP,yG⟩,SA⟩=>bu (λh=>dM h) λh0=>af (Ok.and (SE N hN h2 ω hc yP) (abo N hN ω yP (SA h0).1)) λb ⟨hb,tS⟩=>bu (λh=>dM h) λh1=>af (SL N ω (cm hb.1.1 ω) _ _) λu hu=>an λh=>have B:=(tS h1).1;⟨B.UM (hu h).1 B.a (hu h).2.1 (λ_ h=>h) λx hx=>(hu h).2.1 _ (B.ma x hx),up.1,SQ,bo _⟩
theorem Yl(N:Nat)(hN:5000000≤N){c:ae}{s:aQ}{e:gP}{m:Nat}(h2:200≤m)(hm:m≤999)(hc:G 5 aA c)(hs:GS m s)(hR:nU c m s)(he:G 0 kX e):Ok (SI c (m+1)) (pN N c s e):=by
 obtain⟨s1,s2,s3,⟨k1,k2,k3,k4,k5,k6,k7,k8,k9,UI,XT⟩,s5⟩:=hs
 have hs:GS m s:=⟨s1,s2,s3,⟨k1,k2,k3,k4,k5,k6,k7,k8,k9,UI,XT⟩,s5⟩
 have up:=hR.up.2
 unfold pN pN.b
 have hj: ∀(S0:aQ) (z:db),Ok (SI c (m+1)) (pN.UA N c s e S0 z):=λS0 z=>by
  unfold pN.UA pN.NV
  exact af (N0 N _ _) λ_ _=>bt (λ_=>dM δ) λ_=>af (Yk N hN h2 hm hc hs hR he) λr hr=>an hr
 have mem: ∀{x:aD},G m (.slice jC) x→G m aL ((x,s.2.2.1.2):aq):=λh=>⟨h,s3.2⟩
 have rb: ∀{x:aD},dq x=true→(∀n,jl s.2.2.1.1 n→jl x n)→RB c ((x,s.2.2.1.2):aq):=λh1 h2=>hR.1.UM h1 hR.1.a h2 (λ_ h=>h) λx hx=>h2 _ (hR.1.ma x hx)
 have Hf:=λk:Int=>Ok.and (KQ N ω (m:=m) ω s3.1 e.2.1 k) (SL N ω (cm s3.1.1 ω) e.2.1 k)
 have hd: ∀z:aD×Int,G m (.slice jC) z.1∧(z.2=0→dq z.1=true∧(∀n,jl s.2.2.1.1 n→jl z.1 n)∧jl s.2.2.1.1 e.2.1)→Ok (SI c (m+1)) (cond (aO z.2 0) (cond (aO e.1 11) ((KR N c (z.1,s.2.2.1.2) e.2.1).bind λr2=>cond (aO s.2.2.2.1.2.1 3) ((ph N s.2.2.2.1.2.2.2.2.2.2.1 e.2.1).bind λr3=>(fx N z.2).bind λr4=>some ((s.1,(s.2.1,(r2.1,((s.2.2.2.1.1,(s.2.2.2.1.2.1,(s.2.2.2.1.2.2.1,(s.2.2.2.1.2.2.2.1,(s.2.2.2.1.2.2.2.2.1,(s.2.2.2.1.2.2.2.2.2.1,(r3,s.2.2.2.1.2.2.2.2.2.2.2))))))),s.2.2.2.2)))),r4)) ((fx N z.2).bind λr5=>some ((s.1,(s.2.1,(r2.1,s.2.2.2))),r5))) ((fx N z.2).bind λr6=>some ((s.1,(s.2.1,((z.1,s.2.2.1.2),s.2.2.2))),r6))) ((fx N z.2).bind λr7=>some ((s.1,(s.2.1,((z.1,s.2.2.1.2),s.2.2.2))),r7))):=λz ⟨hz,hi⟩=>
  ok_eq (λh0=>have B:=rb (hi h0).1 (hi h0).2.1;ok_eq (λ_=>af (N9 N hN (m:=m) ω (mem hz) B _ ((hi h0).2.1 _ (hi h0).2.2)) λb hb=>ok_eq (λ_=>af (CU N ω ω k7 _) λl hl=>g7 λ_=>⟨hb,up⟩) λ_=>g7 λ_=>⟨hb,up⟩) λ_=>g7 λ_=>⟨B,up⟩) λh=>dM h
 refine ok_eq (λ_=>af (Hf _) λz hz=>hd z hz) λ_=>ok_eq (λ_=>af (Hf _) λz hz=>hd z hz) λ_=>ok_eq (λ_=> ?_) λ_=>ok_eq (λ_=> ?_) λ_=>hj _ _
 ·exact af (oC N ω ω hs _) λ_ _=>ok_eq (λ_=>dM δ) λ_=>bu (λ_=>dM δ) λ_=>af (Hf _) λz ⟨hz,hi⟩=>bu (λh=>dM h) λh0=>af (tM N ω s1 hc.2.2.2.1) λt ht=>bt (λ_=>dM δ) λ_=>an λ_=>⟨rb (hi h0).1 (hi h0).2.1,up.1,SQ,bo _⟩
 ·exact af (oC N ω ω hs _) λ_ _=>ok_eq (λ_=>dM δ) λ_=>af (oC N ω ω hs _) λ_ _=>bu (λ_=>dM δ) λ_=>hj _ _
theorem abp(N:Nat)(hN:5000000≤N){c:ae}{s:aQ}{e:gP}{m:Nat}(h2:200≤m)(hm:m≤999)(hc:G 5 aA c)(hs:GS m s)(hR:nU c m s)(he:G 0 kX e):Ok (SI c (m+1)) (UJ N c s e):=by
 have DR:G m aA c:=G.mono ω hc
 have hb:=hs.2.2.1
 have UK:=he.2.2.2.2.2.2.1
 have up:=hR.up.2
 have B:=hR.1
 have ml:=cm hb.1.1 (show m≤50000 by omega)
 have al:=cm hb.2.1.1 (show m≤50000 by omega)
 have hW:cQ 1 0∧jw s.2.2.1.1 s.2.2.1.2.1 1 0:=BW δ
 have st:=λk:Int=>US N ω (s:=s) ω k
 have stm: ∀k:Int,eA s.2.2.1.1 k≠0→jl s.2.2.1.1 k:=λk h=>(uV B.m k).1 h
 unfold UJ
 refine ok_eq (λ_=> ?_) λ_=>ok_eq (λ_=> ?_) λ_=>ok_eq (λ_=> ?_) λ_=>ok_eq (λ_=> ?_) λ_=>ok_eq (λ_=> ?_) λ_=>ok_eq (λ_=> ?_) λ_=>ok_eq (λ_=> ?_) λ_=>ok_eq (λ_=> ?_) λ_=>ok_eq (λ_=> ?_) λ_=>ok_eq (λ_=> ?_) λ_=>ok_eq (λ_=> ?_) λ_=>af (Yl N hN h2 hm hc hs hR he) λr hr=>an hr
 ·exact af (XZ N ω ml _) λr hr=>g7 λh=>⟨B.UM (hr h).1 B.a (hr h).2 (λ_ h=>h) λx hx=>(hr h).2 _ (B.ma x hx),up⟩
 ·exact af (abg N ω ml al _) λr hr=>g7 λh=>⟨B.UM B.m (hr h).1 (λ_ h=>h) (hr h).2.1 (hr h).2.2,up⟩
 ·exact bA (Yj N ω ω _) (bt (λ_=>dM δ) λhf=>af (K6 N ω ω hs hR UK hW (tP B ((pk B.a _).1 hf))) λr hr=>an hr)
 ·exact af (N7 N hN h2 ω DR hb B he.2.2.1 UK) λr hr=>g7 λh=>⟨(hr h).1,up⟩
 ·exact bA (st _) (ok_eq (λ_=>dM δ) λh0=>bA (st _) (bu (λ_=>dM δ) λ_=>af (K6 N ω ω hs hR UK hW (AV B δ (stm _ h0))) λr hr=>an hr))
 ·exact bA (st _) (ok_eq (λ_=>dM δ) λh0=>af (mu N ω ω hb.2.2.1 _ _) λg hg=>af (bp N ω hg) λx hx=>af (qt N ω ω hx) λx hx=>af (bp N ω UK) λy hy=>af (pJ N ω ω ω hy hx) λ_ _=>aw (λ_=>dM δ) λ_=>af (K6 N ω ω hs hR UK hW (AV B δ (stm _ h0))) λr hr=>an hr)
 ·exact af (X1 N ω al B.ma _ _) λr hr=>g7 λh=>⟨B.UM B.m (hr h).1 (λ_ h=>h) (hr h).2.1 (hr h).2.2,up⟩
 ·have hx:G 0 mT (s.2.1,(e.2.2.1,(e.2.2.2.1,(e.2.2.2.2.1,(e.2.2.2.2.2.2.1,(e.2.2.2.2.2.2.2.1,())))))):=⟨hs.2.1,he.2.2.1,he.2.2.2.1,he.2.2.2.2.1,UK,he.2.2.2.2.2.2.2.1,trivial⟩
  exact af (X7 N hN h2 ω DR hb B hx) λr hr=>an λh=>⟨hr h,nU.add hR.2.1 hm δ,hR.2.2⟩
 ·exact bA (Yj N ω ω _) (bt (λ_=>dM δ) λ_=>af (UO N ω (cm hb.2.2.2.2.2.1.1 ω) _ _) λr hr=>g7 λh=>⟨B.K0 (hr h).1 λx hx=>B.ok x ((hr h).2 x hx),up⟩)
 ·exact af (Ok.and (CV N hN c h2 ω hb _ he.2.2.2.2.2.2.2.1) (N8 N hN ω hb B _ _)) λr ⟨⟨yP,yG⟩,SA⟩=>ok_eq (λh0=>bu (λ_=>af (NR N ω h2 ω hs.2.2.2.1.2.2.2.2.2.2.2.2.2.1 yG) λg hg=>g7 λ_=>⟨SA h0,up⟩) λ_=>g7 λ_=>⟨SA h0,up⟩) λh=>dM h
 ·exact af (tM N ω hs.1 UK) λt ht=>bt (λ_=>dM δ) λ_=>an λ_=>⟨B,up⟩
theorem SS(N:Nat)(hN:5000000≤N){c:ae}{s:aQ}{e:gP}{m:Nat}(h2:200≤m)(hm:m≤999)(hc:G 5 aA c)(hs:GS m s)(hR:nU c m s)(he:G 0 kX e):Ok (λr=>nU c (m+1) r.1) (QX N c s e):=by
 have ca: ∀r:db,Ok (λr:aQ×db=>nU c (m+1) r.1) (some (s,r)):=λr=>an hR.up
 unfold QX
 exact bA (ni N ω c) (bt (λ_=>ca _) λ_=>af (Jd N ω e) λ_ _=>bt (λ_=>ca _) λ_=>af (abp N hN h2 hm hc hs hR he) λr hr=>bu (λ_=>ca _) λh=>an (hr h))
end VM
end
section
namespace VM
open Go VM.F
theorem D8(N:Nat){k:Nat}{d:aM}(h:Dk k d)(hk:k≤kz:=by first|decide|(unfold kz;omega)):Ok (λr=>(0≤r.1∧r.1<9223372036854775808)∧Dk (k+1) r.2) (Lv N d):=by
 unfold Lv
 refine af (D6 N hk h) λr ⟨hr,hd⟩=>ok_eq (λ_=>ω) λ_=> ?_
 have h3:shr .u64 r.1 3=r.1/8:=by rw[Ki ω ω];rfl
 have put: ∀x:Int,0≤x∧x<9223372036854775808→Ok (λr=>(0≤r.1∧r.1<9223372036854775808)∧Dk (k+1) r.2) (some (W .i64 x,r.2)):=λx hx=>an ⟨by rw[ax ω ω];exact hx,hd⟩
 have asx: ∀y:Int,0<y∧y≤1000000000000→0≤rem (r.1/8) y∧rem (r.1/8) y<9223372036854775808:=λy hy=>by have:=rem_in (x:=r.1/8) (y:=y) ω hy.1;omega
 dsimp only
 rw[h3,amH]
 repeat' first|exact put _ ω|exact put _ (asx _ δ)|refine aw (λ_=> ?_) (λ_=> ?_)|refine ok_eq (λ_=> ?_) (λ_=> ?_)|(exfalso;omega)
def BX(x:bO):Prop:=oN x.1 x.2.1 x.2.2.1 x.2.2.2.1
theorem Oc{c:ae}:fL c=true↔(1≤c.1.length∧c.1.length≤6)∧(∀x∈c.1,BX x)∧pD c:=by
 unfold fL
 simp only[bR,ff]
 rw[←gm (d:=aV) (Q:=BX)];rfl
abbrev Cq(c:ae):Prop:=(G 5 aA c∧1≤c.1.length)∧fL c=true
theorem ais{x:bO}(h:BX x):G 5 eB x:=by
 have g: ∀a b c d:Int,oN a b c d→aE a∧aE b∧aE c∧aE d:=λa b c d h=>by unfold oN at h;unfold aE;omega
 have:=g _ _ _ _ h
 exact⟨this.1,this.2.1,this.2.2.1,this.2.2.2,trivial⟩
theorem ait{c:ae}(h:pD c)(h1:c.2.1<9223372036854775808)(h2:c.2.2.2.2.2.2.1≤1000):G 5 (.pair (.int .i64) (.pair (.int .i64) (.pair (.int .i64) (.pair (.int .i64) (.pair (.int .i64) (.pair (.int .i64) .unit)))))) c.2:=by
 have g: ∀a b c d e f:Int,nh a b c d e f→a<9223372036854775808→f≤1000→aE a∧aE b∧aE c∧aE d∧aE e∧aE f:=λa b c d e f h h1 h2=>by unfold nh at h;unfold aE;omega
 have:=g _ _ _ _ _ _ h h1 h2
 exact⟨this.1,this.2.1,this.2.2.1,this.2.2.2.1,this.2.2.2.2.1,this.2.2.2.2.2,trivial⟩
theorem UU(N:Nat)(hN:100≤N){d:aM}(h:Dk 0 d):Ok (λr=>Cq r.1∧Dk 1000 r.2) (uW N d):=by
 unfold uW uW.b
 refine af (iO N δ h) λr hr=> ?_
 rw[ax (x:=1+r.1) ω ω]
 obtain⟨k,hk⟩: ∃k:Nat,1+r.1=(k:Int):=⟨(1+r.1).toNat,ω⟩
 rw[hk]
 have b1: ∀x y:Int,0≤x∧x<y→y≤1000000000000→1≤W .i64 (1+x)∧W .i64 (1+x)≤y:=λx y h1 h2=>by rw[ax ω ω];omega
 refine xF (F:=λn x (s:aM×aK)=>uW.l3 N n s.1 (c9,fa) (c9,fa) s.2 x) (λx s=>x+s.2.length=k∧Dk (1+20*s.2.length) s.1∧ ∀y∈s.2,BX y) (λn x s hI hr=> ?_) (λn s hI=> ?_) k N (r.2,_) ω ⟨rfl,hr.2,λy hy=>nomatch hy⟩
 all_goals unfold uW.l3 uW.nO
 ·obtain⟨hx,hd,hG⟩:=hI
  have zT: ∀(d:aM) (x4:bO),Dk (1+20*s.2.length+10) d→BX x4→Ok (λr=>Cq r.1∧Dk 1000 r.2) (cond (small (s.2.length+[x4].length)) (uW.l3 N n d (c9,fa) (c9,fa) (s.2++[x4]) (W .i64 (((x+1:Nat):Int)-1))) none):=λd x4 hd hx4=>by
   rw[ax (x:=((x+1:Nat):Int)-1) ω ω,show((x+1:Nat):Int)-1=(x:Int)by omega]
   refine aC (by rw[aI];omega) (hr (_,_) ⟨by rw[aS,aI];omega,Dk.mono hd (by rw[aS,aI];omega),λy hy=> ?_⟩)
   rcases bb.1 hy with hy|hy
   ·exact hG y hy
   ·rw[bW.1 hy];exact hx4
  have hj: ∀(d:aM) (x5:bO),Dk (1+20*s.2.length+6) d→BX x5→Ok (λr=>Cq r.1∧Dk 1000 r.2) (uW.j8 N (uW.l3 N n) d (c9,fa) (c9,fa) s.2 ((x+1:Nat):Int) x5):=λd x5 hd hx5=>by
   unfold uW.j8 uW.W2
   refine af (pL N δ hd) λr hd=>pf (λ_=> ?_) λ_=>zT _ _ (Dk.mono hd ω) hx5
   refine af (D8 N hd) λr ⟨h1,hd⟩=>ok_eq (λ_=>ω) λ_=> ?_
   dsimp only
   have e1:=rem_in h1.1 (show(0:Int)<1000000001 by decide)
   exact af (D8 N hd) λr ⟨h2,hd⟩=>ok_eq (λ_=>ω) λ_=>have e2:=rem_in h2.1 (show(0:Int)<1000000001 by decide);zT _ _ (Dk.mono hd ω) ⟨hx5.1,hx5.2.1,⟨e1.1,by dsimp only;omega⟩,⟨e2.1,by dsimp only;omega⟩⟩
  refine aw (λ_=> ?_) λ_=>ω
  refine af (iO N δ hd) λa ⟨ha,hd⟩=>af (iO N δ hd) λb ⟨hb,hd⟩=>af (iO N δ hd) λc ⟨hc,hd⟩=>af (iO N δ hd) λe ⟨he,hd⟩=>af (pL N δ hd) λr hd=>pf (λ_=>af (D8 N hd) λr ⟨h1,hd⟩=>ok_eq (λ_=>ω) λ_=>hj _ _ (Dk.mono hd ω) ⟨⟨ha.1,by dsimp only;omega⟩,b1 _ _ (rem_in h1.1 δ) δ,⟨hc.1,by dsimp only;omega⟩,⟨he.1,by dsimp only;omega⟩⟩) λ_=>hj _ _ (Dk.mono hd ω) ⟨⟨ha.1,by dsimp only;omega⟩,⟨(b1 _ _ hb δ).1,Int.le_trans (b1 _ _ hb δ).2 δ⟩,⟨hc.1,by dsimp only;omega⟩,⟨he.1,by dsimp only;omega⟩⟩
 ·obtain⟨hx,hd,hG⟩:=hI
  have hl:s.2.length≤4∧1≤s.2.length:=ω
  have hd:Dk 900 s.1:=Dk.mono hd ω
  have fin: ∀(q t p b l m:Int),(0≤q∧q<9223372036854775808)→(0≤t∧t<5)→(0≤p∧p<3)→(0≤b∧b<3)→(0≤l∧l<20)→(0≤m∧m<100)→Cq (s.2,(q,(t,(p,(b,(W .i64 (1+l),(m,()))))))):=λq t p b l m h1 h2 h3 h4 h5 h6=>by
   have h7:=b1 _ _ h5 δ
   have hr:pD (s.2,(q,(t,(p,(b,(W .i64 (1+l),(m,()))))))):=(show nh q t p b (W .i64 (1+l)) m by unfold nh;omega)
   exact⟨⟨⟨⟨by dsimp only;omega,λy hy=>ais (hG y hy)⟩,ait hr h1.2 (show m≤1000 by omega)⟩,hl.2⟩,Oc.2 ⟨⟨hl.2,by dsimp only;omega⟩,hG,hr⟩⟩
  refine aw (λ_=>ω) λ_=>af (iO N δ hd) λa ⟨ha,hd⟩=>af (iO N δ hd) λb ⟨hb,hd⟩=>af (iO N δ hd) λc ⟨hc,hd⟩=>af (iO N δ hd) λe ⟨he,hd⟩=>af (iO N δ hd) λf ⟨hf,hd⟩=> ?_
  dsimp only
  exact af (iO N δ hd) λg ⟨hg,hd⟩=>af (pL N δ hd) λr hd=>pf (λ_=>af (D8 N hd) λr ⟨hr,hd⟩=>an ⟨fin _ _ _ _ _ _ hr hb hc he hf hg,Dk.mono hd δ⟩) λ_=>an ⟨fin _ _ _ _ _ _ ⟨ha.1,ω⟩ hb hc he hf hg,Dk.mono hd δ⟩
theorem UW{q:Int}(h0:q≠0):dO [((1:Int),((0:Int),((-q:Int),()))),((3:Int),((0:Int),(q,())))]=true∧dx (gK [((1:Int),((0:Int),((-q:Int),()))),((3:Int),((0:Int),(q,())))]) 0:=by
 have ok:dO [((1:Int),((0:Int),((-q:Int),()))),((3:Int),((0:Int),(q,())))]=true:=by
  unfold dO
  rw[fF]
  refine bs λj hj=> ?_
  match j,hj with
  |0,_=>exact⟨show cQ 1 0 by decide,show-q≠0 by omega,λh=>absurd h δ⟩
  |1,_=>exact⟨show cQ 3 0 by decide,h0,λ_=> .inl (show(1:Int)<3 by decide)⟩
 refine⟨ok,?_⟩
 unfold gK
 rw[aj ok]
 show-q+(q+0)=0
 omega
theorem Q8(N:Nat)(hN:1000≤N){c:ae}(hc:Cq c)(nR:c.2.1<9223372036854775808):Ok (λr=>RB c r.1∧r.2=0) (ij N c):=by
 obtain⟨⟨hc,Lq⟩,hp⟩:=hc
 have hl:=hc.1.1
 obtain⟨h1,h2,h3⟩:=Oc.1 hp
 unfold ij ij.b
 have hj: ∀b:aq,(∀p:List Int,p.length=c.1.length→eV p=true→RB c (b.1,(b.2.1,(b.2.2.1,(b.2.2.2.1,(p,b.2.2.2.2.2))))))→Ok (λr=>RB c r.1∧r.2=0) (ij.j6 N c (ck,(c9,(bH,(bH,(dC,(dT,())))))) b []):=λb hb=>by
  unfold ij.j6 ij.TP
  obtain⟨b1,b2,b3,b4,b5,b6⟩:=b
  refine bg (len:=c.1.length) (F:=λn i (z:aq×List Int)=>ij.l7 N n c (ck,(c9,(bH,(bH,(dC,(dT,())))))) z.1 z.2 i) (s:=((b1,(b2,(b3,(b4,(b5,b6))))),_)) (λi z=>(z.1.1=b1∧z.1.2.1=b2∧z.1.2.2.1=b3∧z.1.2.2.2.1=b4∧z.1.2.2.2.2.2=b6)∧z.2.length=i∧ ∀x∈z.2,1≤x∧x≤1000000000000) ⟨⟨rfl,rfl,rfl,rfl,rfl⟩,rfl,λx hx=>nomatch hx⟩ ω (λn i z hi hI hr=> ?_) (λn z hI=> ?_)
  all_goals unfold ij.l7 ij.q4
  all_goals obtain⟨hz,hzl,hzp⟩:=hI
  ·rw[ax (x:=(i:Int)+1) ω ω,ag i,aJ]
   have hx:=(h2 _ (rG (d:=aV) hi)).2.1
   exact aw (λ_=>aB ⟨ω,ω⟩ (aC (by rw[List.length_singleton];omega) (hr (_,_) ⟨hz,by dsimp only;rw[List.length_append,List.length_singleton];omega,λy hy=>by
    rcases bb.1 hy with hy|hy
    ·exact hzp y hy
    ·rw[bW.1 hy];exact hx⟩))) λ_=>ω
  ·refine aw (λ_=>ω) λ_=>an ⟨?_,rfl⟩
   obtain⟨z1,z2,z3,z4,z5⟩:=hz
   dsimp only
   rw[z1,z2,z3,z4,z5]
   refine hb _ hzl ?_
   unfold eV
   exact bs ((gm (d:=(0:Int)) (Q:=λx=>1≤x∧x≤1000000000000)).2 hzp)
 have mk: ∀r:au,dO r=true→dx (gK r) 0→(∀x∈r,jw [] [] x.1 x.2.1)→ ∀p:List Int,p.length=c.1.length→eV p=true→RB c (([]:aD),(([]:aK),(r,(([]:au),(p,(([]:bq),())))))):=λr r1 r2 r3 p p1 p2=>
  ⟨hp,(show dq []=true by decide),(show fA []=true by decide),λx hx=>(nomatch hx),r1,r2,(show om []=true by decide),(show ej []=true by decide),show(p.length:Int)=c.1.length by omega,r3,λx hx=>(nomatch hx),λx hx=>(nomatch hx),p2⟩
 refine bA (ni N ω c) (bt (λh=>by rw[hp]at h;exact nomatch h) λ_=>bu (λh0=>hj _ ?_) λ_=>hj _ ?_)
 ·have hs:0≤c.2.1:=h3.1
  have e: ∀q:Int,0≤q→q<9223372036854775808→W .i64 (0-q)= -q:=λq h1 h2=>by rw[ax ω ω];omega
  have h0:(c.2.1:Int)≠0:=h0
  rw[e _ hs nR]
  obtain⟨ok,tot⟩:=UW h0
  refine mk _ ok tot λx hx=> ?_
  rcases aW.1 hx with rfl|hx
  ·exact⟨λh=>absurd h (show ¬dx 1 5 by decide),λh=>absurd h (show ¬(dx 1 6∨dx 1 7)by decide)⟩
  ·rw[bW.1 hx];exact⟨λh=>absurd h (show ¬dx 3 5 by decide),λh=>absurd h (show ¬(dx 3 6∨dx 3 7)by decide)⟩
 ·exact mk [] δ δ λx hx=>nomatch hx
theorem Od(N:Nat)(hN:1000≤N){c:ae}(hc:Cq c)(nR:c.2.1<9223372036854775808):Ok (λr:aQ×Int=>(GS 5 r.1∧nU c 5 r.1)∧r.2=0) (Ym N c):=by
 unfold Ym
 exact af (Ok.and (QT N ω hc.1.1) (Q8 N ω hc nR)) λb ⟨my,tS,hb3⟩=>bu (λh=>absurd hb3 h) λ_=>an ⟨⟨⟨bJ,(show aE 1 from bm),my,G.zero 5 rF,G.zero 5 gM,trivial⟩,tS,⟨(show(1:Int)≤1 by decide),(show(1:Int)≤2000*((5:Nat):Int)by decide)⟩,SQ,bo _⟩,rfl⟩
theorem aiu(N:Nat)(hN:5000000≤N){c:ae}{l:cS}{m:Nat}(hm:m≤700)(hc:Cq c)(nR:c.2.1<9223372036854775808)(hl:vi m l):Ok (λr=>GS 900 r.1∧nU c 900 r.1) (Gv N c l):=by
 have G4:=hl.1
 unfold Gv Gv.b
 refine af (Od N ω hc nR) λb ⟨⟨my,tS⟩,hb3⟩=>bu (λh=>absurd hb3 h) λ_=>bg (len:=l.length) (F:=λn i (z:aQ×au)=>Gv.l6 N n l c (Ty.zero dt) z.1 z.2 i) (s:=(_,_)) (λi z=>(GS (200+i) z.1∧nU c (200+i) z.1)∧z.2.length≤i) ⟨⟨G.mono ω my,tS.1,⟨tS.2.1.1,fG tS.2.1.2 δ⟩,tS.2.2⟩,aG 0⟩ ω (λn i z hi hI hr=> ?_) (λn z hI=> ?_)
 all_goals unfold Gv.l6 Gv.uu
 all_goals obtain⟨⟨h1,h3⟩,h2⟩:=hI
 ·rw[ax (x:=(i:Int)+1) ω ω,ag i]
  have hx:G 0 kX (l.getD (i:Int).toNat zz8):=G.at hl _
  exact aw (λ_=>aB ⟨ω,ω⟩ (af (Ok.and (SH N hN ω ω hc.1.1 h1 hx) (SS N hN ω ω hc.1.1 h1 h3 hx)) λr ⟨yP,yG⟩=>aC (by rw[List.length_singleton];omega) (hr (r.1,z.2++[r.2]) ⟨⟨yP,yG⟩,by dsimp only;rw[List.length_append,List.length_singleton];omega⟩))) λ_=>ω
 ·exact aw (λ_=>ω) λ_=>an ⟨G.mono ω h1,h3.1,⟨h3.2.1.1,fG h3.2.1.2 ω⟩,h3.2.2⟩
theorem Cq.f{c:ae}(h:Cq c):Cf c∧c.2.1<9223372036854775808:=⟨⟨h.1.1,h.1.2⟩,h.1.1.2.1.2⟩
end VM
end
