/- A part of the proof of WindBears of layer 21: what the functions compute, in plain words. -/
import Derived.Test.YtecmobijochjkaaGreatPlain7
import Derived.Test.YtecmobijochjkaaGreatPlain4
set_option linter.all false
section
namespace VM
open Go VM.F
theorem abd(N:Nat)(hN:5000000≤N){c:ae}{b:an}{m:Nat}(hm:m≤40000)(hc:G m aA c)(hb:G m aK b)(hR:RB c b)(f:Int)(to a:Int):Ok (λr=>r.2=0→RB c r.1) (Ut N c b f to a):=by
 have bad: ∀e:Int,e≠0→Ok (λr:an×Int=>r.2=0→RB c r.1) (some ((cn,(c9,(bH,(bH,(dB,(dR,())))))),e)):=λe h=>ak λh'=>absurd h' h
 unfold Ut
 refine af (XC N hN hm hc hb _ _ _) λ_ _=>bq (λh=>bad _ h) λ_=>af (Q2 N ω (cq hb.1.1 ω) (cq hb.2.1.1 ω) _ _) λr hr=>bq (λh=>bad _ h) λh0=>ak λ_=> ?_
 obtain⟨r1,r2,r3⟩:=hr h0
 exact hR.UI hR.m r1 (λ_ h=>h) r2 r3
theorem X3(N:Nat)(hN:200000≤N){c:ae}{b:an}{m:Nat}(hm:m≤50000)(hb:G m aK b)(hR:RB c b){a:Int}(ha:ql b.2.1 a):Ok (λr=>SB c b.2.1 r∧r.length≤2*m) (iX N b.2.2.2.1 a 0):=by
 have h:=hb.2.2.2.1
 have hl:=h.1
 have hp:=(dC (eF (oF.2 hR)).2).2
 unfold iX iX.b
 have nil:Ok (λr:au=>SB c b.2.1 r∧r.length≤2*m) (some []):=ak ⟨SB.nil,bp _⟩
 refine bo (kQ N ω hN) (bw (λ_=>nil) λ_=>ok_eq (λ_=>nil) λ_=>aw (λ_=>nil) λa0=>aw (λ_=>nil) λa1=>aw (λ_=>nil) λ_=>aw (λ_=>nil) λ_=>bc (len:=b.2.2.2.1.length) (F:=λn i s=>iX.l5 N n b.2.2.2.1 a 0 s i) (λi s=>SB c b.2.1 s∧s.length≤2*i) ⟨SB.nil,bp _⟩ ω (λn i s hi hI hr=> ?_) (λn s hI=> ?_))
 all_goals unfold iX.l5 iX.eg
 all_goals obtain⟨i1,i2⟩:=hI
 ·have hx:G m jv (b.2.2.2.1.getD i bm):=h.2 _ (pt hi)
  have PY:=hp _ (pt (d:=bm) hi)
  have hx2:=hR.sk _ (pt (d:=bm) hi)
  dsimp only
  rw[ay (x:=(i:Int)+1) ω ω,ag i,aJ]
  have h1:=hr s ⟨i1,ω⟩
  have hq:aD (b.2.2.2.1.getD i bm).2.2.1:=hx.2.2.1
  have nS:p8 (b.2.2.2.1.getD i bm).2.2.1:=PY.2
  have pl:=PY.1
  have ins:=hx2.2
  generalize (b.2.2.2.1.getD i bm).2.2.1=q at*
  generalize (b.2.2.2.1.getD i bm).2.1=k at*
  have hn:=(T9 ⟨hq,nS⟩).1
  unfold aD at hn
  rw[ay hn.1 hn.2]
  exact aw (λ_=>aB ⟨ω,ω⟩ (ok_eq (λ_=>aB ⟨ω,ω⟩ (aB ⟨ω,ω⟩ (aB ⟨ω,ω⟩ (aB ⟨ω,ω⟩ (aC (by rw[xU];omega) (hr _ ⟨SB.app i1 (SB.two hn hq ω ⟨⟨a0,a1,pl.2.2.1,pl.2.2.2⟩,.inr ha,ins⟩ ⟨⟨δ,δ,pl.2.2.1,pl.2.2.2⟩,.inl rfl,ins⟩),by rw[aS,aR,aI];omega⟩)))))) λ_=>h1)) λ_=>ω
 ·exact aw (λ_=>ω) λ_=>ak ⟨i1,ω⟩
theorem Jv{c:ae}{b:an}(h:RB c b):b.2.1.length≤24:=N4 h.a
theorem SO(N:Nat)(hN:5000000≤N){c:ae}{b:an}{m:Nat}(h2:200≤m)(hm:m≤1000)(hc:G m aA c)(hb:G m aK b)(hR:RB c b)(a:Int):Ok (Js c b) (mW N c b a):=by
 have hal:=Jv hR
 unfold mW mW.b
 refine bo (dH N hN ω hb) (bw (λ_=>Js.bad δ) λhB=>af (qB N ω ω hb _) λ_ _=>ok_eq (λ_=>Js.bad δ) λ_=> ?_)
 refine bc (len:=b.2.1.length) (F:=λn i (z:au×bE)=>mW.l8 N n a c b (cn,(c9,(bH,(bH,(dB,(dR,())))))) z.1 z.2 i) (s:=(_,_)) (λi z=>(SB c b.2.1 z.1∧z.1.length≤2*m*i)∧PB b.1 b.2.1 z.2∧z.2.length≤4*i) ⟨⟨SB.nil,bp _⟩,PB.nil,bp _⟩ ω (λn i z hi hI hr=> ?_) (λn z hI=> ?_)
 all_goals unfold mW.l8 mW.yn
 all_goals obtain⟨⟨h5,h7⟩,h6,h8⟩:=hI
 ·have XK:2*m*i≤2*m*24:=lQ _ ω
  have hms:2*m*(i+1)=2*m*i+2*m:=qO _ _
  have hx:G m eA (b.2.1.getD (i:Int).toNat aV):=G.at hb.2.1 _
  have hA:ql b.2.1 (b.2.1.getD (i:Int).toNat aV).1:=⟨_,pt hi,rfl⟩
  have hM:=ud hR hA
  have hF:cS 2 0∧jx b.1 b.2.1 2 0:=B7 δ
  have hj: ∀p:bE,PB b.1 b.2.1 p→p.length≤4*i+2→Ok (Js c b) (mW.Bl N (mW.l8 N n) a c b (cn,(c9,(bH,(bH,(dB,(dR,())))))) z.1 p (i:Int) (b.2.1.getD (i:Int).toNat aV)):=λp hp Hu=>by
   unfold mW.Bl mW.vd
   rw[ay (x:=(i:Int)+1) ω ω,ag i]
   exact af (ua N ω ω hb _) λg hg=>aw (λ_=>bo (cv N ω hg.1 hg.2) (bo (jz N ω (AK (oT hg).1)) (af (sV N ω ⟨(oT hg).2,by rw[Int.neg_neg];exact(oT hg).1⟩ hF hM) λu ⟨hu,Hi⟩=>aC ω (af (X3 N ω ω hb hR hA) λs ⟨hs,E4⟩=>aC ω (hr (_,_) ⟨⟨SB.app h5 hs,by dsimp only;rw[List.length_append];omega⟩,PB.app hp hu,by dsimp only;rw[List.length_append];omega⟩))))) λ_=>af (X3 N ω ω hb hR hA) λs ⟨hs,E4⟩=>aC ω (hr (_,_) ⟨⟨SB.app h5 hs,by dsimp only;rw[List.length_append];omega⟩,hp,by dsimp only;omega⟩)
  rw[ay (x:=(i:Int)+1) ω ω,ag i]
  exact aw (λ_=>aB ⟨ω,ω⟩ (bq (λ_=>hr z ⟨⟨h5,ω⟩,h6,ω⟩) λ_=>ok_eq (λ_=>af (Jo N hN ω hc hb _) λq hq=>bo (cv N ω hq.1 hq.2) (af (sV N ω (oT hq) hM hF) λu ⟨hu,Hi⟩=>aC ω (hj _ (PB.app h6 hu) (by rw[aS];omega)))) λ_=>hj _ h6 ω)) λ_=>ω
 ·have XK:2*m*b.2.1.length≤2*m*24:=lQ _ ω
  exact aw (λ_=>ω) λ_=>af (sU N ω ω hb hR h5 h6 ω ω) λr hr=>ak hr
theorem zh{n:Int}: ∀{l:aL},nq n l≠0→ql l (nq n l)
 |[],h=>absurd rfl h
 |x::t,h=>by
  rw[sJ]at h ⊢
  have up:ql t (nq n t)→ql (x::t) (nq n t):=λ⟨y,hy,e⟩=>⟨y,aY _ hy,e⟩
  by_cases e1:x.2.1=n
  ·rw[aj e1]at h ⊢
   by_cases e2:x.2.2.1=1
   ·rw[aj e2];exact⟨x,bg ..,rfl⟩
   ·rw[ah e2]at h ⊢;exact up (zh h)
  ·rw[ah e1]at h ⊢;exact up (zh h)
theorem Jw{a:aL}{n:Int}(h:nr a n≠0):ql a (nr a n):=by
 unfold nr at*
 split at h
 ·rw[aj (by assumption)];exact zh h
 ·exact absurd rfl h
def SP(c:ae)(y:ym):Prop:=(0≤y.1∧mQ y.1 c.1.length)∧p8 y.2.1
theorem Q5{c:ae}{L:bA}(h:BO c L=true): ∀x∈L,∀y∈x.2.1,SP c y:=by
 unfold BO at h
 simp only[bQ,fX,fg]at h
 refine(gN (d:=((0:Int),(cn,aV))) (Q:=λx=> ∀y∈x.2.1,SP c y)).1 λj hj=> ?_
 have h1:=(h.2.2 j hj).2.2.2.1
 unfold kq at h1
 exact(gN (d:=cA) (Q:=SP c)).1 λi hi=>by
  have h2:=bz (cK.1 h1).1 i hi
  exact⟨⟨h2.1,h2.2.1⟩,h2.2.2.2.1⟩
theorem X4(N:Nat)(hN:5000000≤N){c:ae}{b:an}{L:bA}{l:aL}{m:Nat}(h2:200≤m)(hm:m≤2000)(hb:G m aK b)(hR:RB c b)(hL:LL m L)(hl:G m (.slice eA) l):Ok (λr=>r.2.2=0→RB c r.1∧r.2.1.length≤12) (fL N c b L l):=by
 have dI: ∀e:Int,e≠0→Ok (λr:an×bA×Int=>r.2.2=0→RB c r.1∧r.2.1.length≤12) (some ((cn,(c9,(bH,(bH,(dB,(dR,())))))),([],e))):=λe h=>ak λh'=>absurd h' h
 have h3:=hL.1
 have h4:=hl.1
 have hw:IW L:=λy hy=>cq (hL.2 y hy).2.1.1 ω
 have hci:c.1.length≤6:=by
  have:=hR.c
  unfold fB at this
  exact(bz (cK.1 this).1).2
 unfold fL fL.b
 refine bo (dH N hN ω hb) (bw (λ_=>dI _ δ) λ_=>bo (AL N ω c ω hw) (bw (λ_=>dI _ δ) λhk=>bo (tW N ω ω) (bw (λ_=>dI _ δ) λ_=> ?_)))
 have am4:=Q5 hk
 have h12:L.length≤12:=by
  unfold BO at hk
  exact bz (cK.1 (cK.1 hk).2).1
 refine bc (len:=L.length) (F:=λn i (z:au×bE×bA)=>fL.l7 N n L l b (cn,(c9,(bH,(bH,(dB,(dR,())))))) z.1 z.2.1 z.2.2 i) (s:=(_,(_,_))) (λi z=>(SB c b.2.1 z.1∧z.1.length≤2*m*i)∧(PB b.1 b.2.1 z.2.1∧z.2.1.length≤2*i)∧z.2.2.length≤i) ⟨⟨SB.nil,bp _⟩,⟨PB.nil,bp _⟩,bp _⟩ ω (λn i z hi hI hr=> ?_) (λn z hI=> ?_)
 all_goals unfold fL.l7 fL.rj
 all_goals obtain⟨⟨h5,h8⟩,⟨h6,h9⟩,h7⟩:=hI
 ·have XK:2*m*i≤2*m*12:=lQ _ ω
  have hms:2*m*(i+1)=2*m*i+2*m:=qO _ _
  have hx:G m jm (L.getD (i:Int).toNat ((0:Int),(cn,aV))):=G.at hL _
  have hxl:=hx.2.1.1
  have ase:=am4 _ (pt (d:=((0:Int),(cn,aV))) hi)
  rw[ay (x:=(i:Int)+1) ω ω,ag i]
  dsimp only
  rw[cL]
  have put: ∀x:iA,Ok (λr=>r.2.2=0→RB c r.1∧r.2.1.length≤12) (cond (small (z.2.2.length+[x].length)) (fL.l7 N n L l b (cn,(c9,(bH,(bH,(dB,(dR,())))))) z.1 z.2.1 (z.2.2++[x]) ((i+1:Nat):Int)) none):=λx=>aC (by rw[List.length_singleton];omega) (hr (z.1,(z.2.1,z.2.2++[x])) ⟨⟨h5,by dsimp only;omega⟩,⟨h6,by dsimp only;omega⟩,by dsimp only;rw[List.length_append,List.length_singleton];omega⟩)
  refine aw (λ_=>aB ⟨ω,ω⟩ (aC (by rw[bT];omega) (bq (λ_=>put _) λ_=>af (SG N ω ω hl _) λw hw=>bw (λ_=>put _) λ_=>bo (qy N (cq hb.2.1.1 ω) ω _) (ok_eq (λ_=>dI _ δ) λhh=>af (qB N ω ω hb _) λ_ _=>ok_eq (λ_=>dI _ δ) λ_=> ?_)))) λ_=>ω
  have hA:=Jw hh
  have hM:=ud hR hA
  have hF:cS 2 0∧jx b.1 b.2.1 2 0:=B7 δ
  have am5:0≤nr b.2.1 w.1.2.2.1∧nr b.2.1 w.1.2.2.1≤24:=by
   have:=hM.1
   unfold cS at this;omega
  generalize nr b.2.1 w.1.2.2.1=h at*
  have hX': ∀y∈(L.getD (i:Int).toNat ((0:Int),(cn,aV))).2.1,SP c y∧G m jD y:=λy hy=>⟨ase y (by rw[aJ]at hy;exact hy),hx.2.1.2 y hy⟩
  generalize hX:(((L.getD (i:Int).toNat ((0:Int),(cn,aV))).1,((L.getD (i:Int).toNat ((0:Int),(cn,aV))).2.1,((L.getD (i:Int).toNat ((0:Int),(cn,aV))).2.2.1,((2:Int),(w.1.2.2.1,(w.1.2.2.2.1,())))))):iA)=X
  have hXe:X.2.1=(L.getD (i:Int).toNat ((0:Int),(cn,aV))).2.1:=by rw[←hX]
  rw[←hXe]at hX' hxl
  refine bc (len:=X.2.1.length) (F:=λn' j u=>fL.w5 N (fL.l7 N n) n' L l b (cn,(c9,(bH,(bH,(dB,(dR,())))))) u z.2.1 z.2.2 (i:Int) X w.1 h j) (s:=z.1) (λj u=>SB c b.2.1 u∧u.length≤2*m*i+2*j) ⟨h5,h8⟩ ω (λn' j u hj hu eO=> ?_) (λn' u hu=> ?_)
  all_goals unfold fL.w5 fL.vI
  all_goals obtain⟨hu,Hi⟩:=hu
  ·have hy:=hX' _ (pt (d:=cA) hj)
   dsimp only
   rw[ay (x:=(j:Int)+1) ω ω,ag j,aJ]
   generalize X.2.1.getD j cA=y at*
   obtain⟨⟨⟨y0,y1⟩,y2⟩,y3⟩:=hy
   have hq:aD y.2.1:=y3.2.1
   have hn:=(T9 ⟨hq,y2⟩).1
   have hn':=hn
   unfold aD at hn'
   have e:W .i64 (0-y.2.1)=0-y.2.1:=ay hn'.1 hn'.2
   rw[e]
   have g6: ∀x:Int,mQ x c.1.length→x<6:=λx h=>by unfold mQ at h;omega
   exact aw (λ_=>aB ⟨ω,ω⟩ (aB ⟨ω,ω⟩ (aB ⟨ω,ω⟩ (aB ⟨ω,ω⟩ (aC (by rw[xU];omega) (eO _ ⟨SB.app hu (SB.two hn hq ω ⟨⟨δ,δ,y0,g6 _ y1⟩,.inl rfl,y1⟩ ⟨⟨am5.1,am5.2,y0,g6 _ y1⟩,.inr hA,y1⟩),by rw[aS,aR,aI];omega⟩)))))) λ_=>ω
  ·have F7:aD w.1.2.2.2.1:=hw.2.2.2.1
   refine aw (λ_=>ω) λ_=>bo (cv N ω F7.1 F7.2) (af (sV N ω (oT F7) hM hF) λp ⟨hp,Hu⟩=>aC ω (aC (by rw[aI];omega) ?_))
   rw[ay (x:=(i:Int)+1) ω ω,ag i]
   exact hr (_,(_,_)) ⟨⟨hu,by dsimp only;omega⟩,⟨PB.app h6 hp,by dsimp only;rw[List.length_append];omega⟩,by dsimp only;rw[List.length_append,List.length_singleton];omega⟩
 ·have XK:2*m*L.length≤2*m*12:=lQ _ ω
  exact aw (λ_=>ω) λ_=>af (sU N ω ω hb hR h5 h6 ω ω) λr hr=>bq (λh=>dI _ h) λh0=>ak λ_=>⟨(hr h0).1,by dsimp only;omega⟩
end VM
end
section
namespace VM
open Go VM.F
theorem Jx{a k:Int}: ∀{l:au},gu a k l≠0→ ∃x∈l,x.1=a∧x.2.1=k
 |[],h=>absurd rfl h
 |x::t,h=>by
  rw[g8]at h
  have up:gu a k t≠0→ ∃y∈x::t,y.1=a∧y.2.1=k:=λh=>let⟨y,hy,e⟩:=Jx h;⟨y,aY _ hy,e⟩
  by_cases e1:x.1=a
  ·rw[aj e1]at h
   by_cases e2:x.2.1=k
   ·exact⟨x,bg ..,e1,e2⟩
   ·rw[ah e2]at h;exact up h
  ·rw[ah e1]at h;exact up h
def PT(b:an)(k n:Int):Prop:=cS k n∧jx b.1 b.2.1 k n
theorem abe{c:ae}{b:an}(hR:RB c b){k n:Int}(h:ej b.2.2.1 k n≠0):PT b k n:=by
 unfold ej at h
 rw[aj hR.r]at h
 obtain⟨x,hx,e1,e2⟩:=Jx h
 have h1:=(oz hR.r).2 x hx
 have h2:=hR.rk x hx
 rw[e1,e2]at h1 h2
 exact⟨h1,h2⟩
theorem X6{a:aL}(hA:fC a=true){id:Int}{x:bM×Bool}(e:x=fe a id)(h:x.2=true):ql a x.1.1:=by
 subst e
 unfold fe at*
 rw[aj hA]at h ⊢
 have key: ∀l:aL,(tR id l).2=true→(tR id l).1∈l:=by
  intro l
  induction l with
  |nil=>intro h;exact nomatch h
  |cons y t ih=>
   intro h
   rw[oq]at h ⊢
   by_cases e:y.1=id
   ·rw[aj e];exact bg ..
   ·rw[ah e]at h ⊢;exact aY _ (ih h)
 exact⟨_,key a h,rfl⟩
abbrev T5(b:an)(k:Nat)(l:bK):Prop:=l.length≤k∧ ∀x∈l,PT b x.2.1 x.2.2.1
theorem T5.mono{b:an}{j k:Nat}{l:bK}(h:T5 b j l)(hk:j≤k):T5 b k l:=⟨cq h.1 hk,h.2⟩
theorem T5.nil{b:an}{k:Nat}:T5 b k []:=⟨bp _,λx hx=>nomatch hx⟩
theorem T5.app{b:an}{k:Nat}{l:bK}(h:T5 b k l){s d n x y:Int}(hx:PT b d n):T5 b (k+1) (l++[(s,(d,(n,(x,(y,())))))]):=
 ⟨by rw[aS,aI];exact Nat.succ_le_succ h.1,λz hz=>by
  rcases ba.1 hz with hz|hz
  ·exact h.2 z hz
  ·rw[bV.1 hz];exact hx⟩
theorem row_in(N:Nat)(hN:200000≤N){c:ae}{l:bK}{b:an}{m k:Nat}(hm:m≤50000)(hb:G m aK b)(hR:RB c b)(hk:k≤1000000)(hl:T5 b k l)(a d n:Int):Ok (T5 b (k+1)) (K1 N l b a d n):=by
 have h1:=hl.1
 unfold K1
 exact bo (s8 N (cq hb.2.2.1.1 ω) hN _ _) (aw (λh=>aC (by rw[aI];omega) (ak (T5.app hl (abe hR ω)))) λ_=>ak (T5.mono hl ω))
theorem X7(N:Nat)(hN:5000000≤N){c:ae}{b:an}{d g:aE}{a:Int}{m:Nat}(hm:m≤50000)(hc:G m aA c)(hb:G m aK b)(hR:RB c b)(hd:L2 m d)(hg:L2 m g):Ok (λr=>T5 b 1000000 r.1∧(r.2=0→jn b.1 a)) (cI N c b a d g):=by
 have h1:=hb.1.1
 have h2:=hd.1
 have h3:=hg.1
 have h4:=hb.2.1.1
 have nil: ∀e:Int,e≠0→Ok (λr:bK×Int=>T5 b 1000000 r.1∧(r.2=0→jn b.1 a)) (some ([],e)):=λe h=>ak ⟨T5.nil,λh'=>absurd h' h⟩
 have hj:jn b.1 a→ ∀l:bK,T5 b 1 l→Ok (λr=>T5 b 1000000 r.1∧(r.2=0→jn b.1 a)) (cI.j9 N a d g c b l):=λhMa l hl=>by
  unfold cI.j9 cI.Nl
  refine af (row_in N ω hm hb hR ω hl _ _ _) λl hl=>af (row_in N ω hm hb hR ω hl _ _ _) λl hl=>iH (len:=5) (F:=λn k s=>cI.mU N n a d g c b s k) (λk s=>T5 b (3+m*k) s) (λn k s hk hs hr=> ?_) (λn s hs=> ?_) 5 N 1 l ω ω ω (T5.mono hl ω)
  all_goals unfold cI.mU cI.ns
  ·have hmk:m*k≤m*4:=lQ m ω
   refine dY (λ_=>af (Gj N hN c hm hb hd _ _) λt ht=> ?_) λ_=>ω
   have htl:=ht.1
   refine bc (len:=t.1.length) (F:=λn' j u=>cI.w4 N (cI.mU N n) n' a d g c b u (k:Int) t.1 j) (λj u=>T5 b (3+m*k+j) u) hs ω (λn' j u hj hu eO=> ?_) (λn' u hu=> ?_)
   all_goals unfold cI.w4 cI.vH
   ·rw[ay (x:=(j:Int)+1) ω ω,ag j]
    exact aw (λ_=>aB ⟨ω,ω⟩ (af (row_in N ω hm hb hR ω hu _ _ _) λv hv=>eO v hv)) λ_=>ω
   ·rw[ay (x:=(k:Int)+1) ω ω,ag k]
    exact aw (λ_=>ω) λ_=>hr u (T5.mono hu (by rw[qO];omega))
  ·refine dY (λ_=>ω) λ_=>bc (len:=b.1.length) (F:=λn j u=>cI.HY N n a g c b u j) (λj u=>T5 b (3+m*5+j) u) hs ω (λn j u hj hu hr=> ?_) (λn u hu=> ?_)
   all_goals unfold cI.HY cI.NZ
   ·have Hi:=hu.1
    have hM:PT b 7 (b.1.getD (j:Int).toNat cA).1:=A7 hR δ ⟨_,pt hj,rfl⟩
    rw[ay (x:=(j:Int)+1) ω ω,ag j]
    have h0:=hr u (T5.mono hu ω)
    exact aw (λ_=>aB ⟨ω,ω⟩ (af (KZ N _) λ_ _=>bw (λ_=>h0) λ_=>ok_eq (λ_=>h0) λ_=>af (br N ω hc.2.2.1) λp hp=>af (mw N ω hm hb.2.2.1 _ _) λq hq=>af (br N ω hq) λq hq=>af (lK N ω ω ω hp hq) λy hy=>af (xf N hy) λv hv=>bw (λ_=>nil _ δ) λ_=>aw (λ_=>aC (by rw[aI];omega) (hr _ (T5.mono (T5.app hu hM) ω))) λ_=>h0)) λ_=>ω
   ·refine aw (λ_=>ω) λ_=>bc (len:=g.length) (F:=λn j u=>cI.Nv N n a g b u j) (λj u=>T5 b (3+m*5+m+j) u) (T5.mono hu ω) ω (λn j u hj hu hr=> ?_) (λn u hu=> ?_)
    all_goals unfold cI.Nv cI.KF
    ·have Hi:=hu.1
     rw[ay (x:=(j:Int)+1) ω ω,ag j]
     have h0:=hr u (T5.mono hu ω)
     dsimp only
     exact aw (λ_=>aB ⟨ω,ω⟩ (af (Gg N ω hm hb.2.1 _) λx ⟨hx,Zr⟩=>aB ⟨ω,ω⟩ (aB ⟨ω,ω⟩ (af (mw N ω hm hb.2.2.1 _ _) λq hq=>pj (λhf=>bq (λ_=>aw (λ_=>aC (by rw[aI];omega) (hr _ (T5.mono (T5.app hu (ud hR (X6 hR.a Zr hf))) ω))) λ_=>h0) λ_=>h0) λ_=>h0)))) λ_=>ω
    ·exact aw (λ_=>ω) λ_=>ak ⟨T5.mono hu ω,λ_=>hMa⟩
 unfold cI cI.b
 exact bo (dH N hN hm hb) (bw (λ_=>nil _ δ) λ_=>af (ub N ω ω) λ_ _=>bw (λ_=>nil _ δ) λ_=>af (B1 N ω ω) λ_ _=>bw (λ_=>nil _ δ) λ_=>bo (ot N (cq hb.1.1 ω) ω _) (ok_eq (λ_=>nil _ δ) λhs=>have hMa:=(vf hR.m a).1 hs;af (A5 N ω hm hb.2.1 _) λh hh=>bq (λ_=>af (row_in N ω hm hb hR ω (T5.nil (k:=0)) _ _ _) λl hl=>hj hMa l hl) λ_=>hj hMa [] T5.nil))
theorem UL(N:Nat)(hN:5000000≤N){c:ae}{b:an}{d g:aE}{a:Int}{m:Nat}(h2:200≤m)(hm:m≤40000)(hc:G m aA c)(hb:G m aK b)(hR:RB c b)(hd:L2 m d)(hg:L2 m g)(ha:aD a):Ok (λr=>r.2.2=0→RBs c b r.1) (iw N c b a d g):=by
 have dI: ∀e:Int,e≠0→Ok (λr:an×dK×Int=>r.2.2=0→RBs c b r.1) (some ((cn,(c9,(bH,(bH,(dB,(dR,())))))),(R0,e))):=λe h=>ak λh'=>absurd h' h
 unfold iw iw.b
 refine af (Ok.and (X7 N hN ω hc hb hR hd hg) (N2 N hN ω hc hb hd hg ha)) λl ⟨⟨⟨_,Ql⟩,hMa⟩,hl2⟩=>ok_eq (λh=>dI _ ω) λ_=>ok_eq (λh=>dI _ ω) λ_=>af (Jl N hN c ω hb) λq hq=>bq (λh=>dI _ h) λ_=>bq (λh=>dI _ h) λh0=>af (Jm N hN (Q:=λx=>G 64 tb x∧PT b x.2.1 x.2.2.1) (λx hx=>hx.1.2.2.2.1) (λx v hx hv=>⟨G5q hx.1 hv,hx.2⟩) (λx hx=>⟨G.mono (m:=0) (bp _) (hl2.2 x hx),Ql x hx⟩) hq) λz ⟨⟨hzl,Cv⟩,Hg⟩=>bq (λh=>dI _ h) λ_=> ?_
 have hMa:=hMa h0
 have hF:cS 2 0∧jx b.1 b.2.1 2 0:=B7 δ
 have hj: ∀(p:bE) (r:dK) (t:bK) (x k n:Int),PB b.1 b.2.1 p→p.length≤1000→PT b k n→aD x→Ok (λr=>r.2.2=0→RBs c b r.1) (iw.j26 N b (cn,(c9,(bH,(bH,(dB,(dR,())))))) R0 p r t x k n):=λp r t x k n hp Hu hk hx=>by
  unfold iw.j26 iw.aa0
  exact bo (cv N ω hx.1 hx.2) (af (sV N ω (oT hx) hF hk) λu ⟨hu,Hi⟩=>aC ω (af (sU N ω ω hb hR SB.nil (PB.app hp hu) (bp _) (by rw[aS];omega)) λw hw=>bq (λh=>dI _ h) λh0=>ak λ_=>hw h0))
 refine bc (len:=z.1.length) (F:=λn i (s:bE×dK×bK)=>iw.IP N n a c b (cn,(c9,(bH,(bH,(dB,(dR,())))))) R0 z.1 z.2.1 s.1 s.2.1 s.2.2 i) (s:=(_,(_,_))) (λi s=>(PB b.1 b.2.1 s.1∧s.1.length≤2*i)∧s.2.2.length≤i) ⟨⟨PB.nil,bp _⟩,bp _⟩ ω (λn i s hi hI hr=> ?_) (λn s hI=> ?_)
 all_goals unfold iw.IP iw.HO
 all_goals obtain⟨⟨h4,hp⟩,ht⟩:=hI
 ·obtain⟨hx,hk⟩:=Cv _ (pt (d:=mL) hi)
  have hx:aD (z.1.getD i mL).2.2.2.2.1:=hx.2.2.2.2.1
  rw[ay (x:=(i:Int)+1) ω ω,ag i,aJ]
  exact aw (λ_=>aB ⟨ω,ω⟩ (aw (λ_=>aB ⟨ω,ω⟩ (aC (by rw[List.length_singleton];omega) (aB ⟨ω,ω⟩ (aB ⟨ω,ω⟩ (aB ⟨ω,ω⟩ (bo (cv N ω hx.1 hx.2) (af (sV N ω (oT hx) hk hF) λu ⟨hu,Hi⟩=>aC ω (hr (_,(_,_)) ⟨⟨PB.app h4 hu,by dsimp only;rw[List.length_append];omega⟩,by dsimp only;rw[List.length_append,List.length_singleton];omega⟩)))))))) λ_=>hr s ⟨⟨h4,ω⟩,ω⟩)) λ_=>ω
 ·dsimp only
  have hS:cS 4 0∧jx b.1 b.2.1 4 0:=B7 δ
  exact aw (λ_=>ω) λ_=>bo (cv N ω Hg.1 Hg.2) (af (sV N ω (oT Hg) hS hF) λu ⟨hu,Hi⟩=>aC ω (af (Gk N hN c ω hb) λx hx=>bo (qy N (cq hb.2.1.1 ω) ω _) (bq (λhh=>hj _ _ _ _ _ _ (PB.app h4 hu) (by rw[aS];omega) (ud hR (Jw hh)) hx) λ_=>hj _ _ _ _ _ _ (PB.app h4 hu) (by rw[aS];omega) (A7 hR δ hMa) hx)))
end VM
end
section
namespace VM
open Go VM.F
theorem am6{q x:Int}(h0:0≤x)(h1:x<9223372036854775808):aD (sg q x)∧p8 (sg q x):=by
 unfold sg aD p8;split<;>omega
theorem X8{t left:Int}{w out:List Int}(f:Full t w w out left)(i:Nat)(hi:i<w.length):0≤out.getD i 0∧out.getD i 0<9223372036854775808:=by
 have c:=f.c
 have h1:=c.le i hi
 have h2:=(c.pc i).2
 have h3:=c.po i
 omega
theorem UM(N:Nat){a q:Int}{accs out:List Int}(hl:accs.length=out.length)(hle:out.length≤1000)(ho: ∀i,i<out.length→0≤out.getD i 0∧out.getD i 0<9223372036854775808)(s:au)(hs:s.length≤1000)(hN:200000≤N):
  fE.UC N N a q accs out s 0=some (s++zc a q (out.zip accs),0):=by
 have hz:(out.zip accs).length=out.length:=by rw[wa];omega
 have:=om (out.zip accs) (0,0) (λn i s=>fE.UC N n a q accs out s i) (λt s=>some (s++zc a q t,(0:Int))) (λi (s:au)=>s.length≤1000+i) (λn i s hi hI hr=> ?_) (λn s hI=> ?_) out.length N 0 s ω ω ω ω
 ·exact this
 ·unfold fE.UC fE.XJ
  have nc:i<out.length:=ω
  have h2:=ho i nc
  rw[aT ω,aq,a6 ω ω,aq,aJ,a6 ω ω,aq,ay (x:=(i:Int)+1) ω ω,ag i,ay (x:=0-out.getD i 0) ω ω,Xk nc ω,D9]
  dsimp only
  rw[aq,bL (by rw[aI];omega),aq,bL (by rw[aI];omega),aq]
  have e:sg q (out.getD i 0)=if q<0 then 0-out.getD i 0 else out.getD i 0:=rfl
  rw[cR,cond_not,cond_not,aN,aN]
  have fin:(if sg q (out.getD i 0)=0 then fE.UC N n a q accs out s ((i+1:Nat):Int)else fE.UC N n a q accs out (s++[(accs.getD i 0,(a,(sg q (out.getD i 0),())))]) ((i+1:Nat):Int))=some (s++(if sg q (out.getD i 0)=0 then zc a q ((out.zip accs).drop (i+1))else(accs.getD i 0,(a,(sg q (out.getD i 0),())))::zc a q ((out.zip accs).drop (i+1))),(0:Int)):=by
   by_cases h:sg q (out.getD i 0)=0
   ·rw[aj h,aj h];exact hr s ω
   ·rw[ah h,ah h,hr _ (by rw[aS,aI];omega),bu];rfl
  refine Eq.trans ?_ fin
  by_cases h:q<0
  ·rw[aj h,e,aj h]
  ·rw[ah h,e,ah h]
 ·unfold fE.UC fE.XJ
  rw[hz,aP ω,av]
  show _=some (s++[],(0:Int))
  rw[ck]
theorem SQ{l:au}(h: ∀x∈l,aD (ed x)∧p8 (ed x))(a b:Int):aD (dN l a b)∧p8 (dN l a b):=by
 have key: ∀l:au,(∀x∈l,aD (ed x)∧p8 (ed x))→aD (gu a b l)∧p8 (gu a b l):=by
  intro l
  induction l with
  |nil=>intro _;show aD 0∧p8 0;decide
  |cons x t ih=>
   intro h
   have ih:=ih (λy hy=>h y (aY _ hy))
   rw[g8]
   split
   ·split
    ·exact h x (bg ..)
    ·exact ih
   ·exact ih
 unfold dN
 split
 ·exact key l h
 ·decide
theorem K9(l:au):(yK l).length=l.length:=cy ..
theorem A8(l:au):(jj l).length=l.length:=cy ..
theorem Jy{q:Int}(h:aD q∧p8 q):(q.natAbs:Int)<9223372036854775808:=by unfold aD p8 at h;omega
theorem La{l:au}(hk:cQ l=true)(hq:dT l): ∀x∈l,aD (ed x)∧p8 (ed x):=λx hx=>⟨hq x hx,((dC hk).2 x hx).2⟩
theorem Jz{l:au}(hk:cQ l=true)(hq:dT l){a q:Int}(nV:aD q∧p8 q)(hc:(jP l a q).2.2=0):
  Full (q.natAbs:Int) (jj (fP a q l)) (jj (fP a q l)) (jP l a q).1 (jP l a q).2.1∧(jP l a q).1.length=(fP a q l).length∧(jP l a q).1.length≤64∧ ∀i,i<(jP l a q).1.length→0≤(jP l a q).1.getD i 0∧(jP l a q).1.getD i 0<9223372036854775808:=by
 have f:Full (q.natAbs:Int) (jj (fP a q l)) (jj (fP a q l)) (jP l a q).1 (jP l a q).2.1:=Gd (Jy nV) (BW (La hk hq) a q) hc
 have h1:=f.c.l2
 have h2:=f.c.n
 rw[A8]at h1 h2
 exact⟨f,h1,ω,λi hi=>X8 f i (by rw[A8];omega)⟩
theorem X9{l:au}(h:cQ l=true): ∀x∈l,ed x≠0:=λx hx=>by
 unfold cQ at h
 rw[fX]at h
 obtain⟨i,hi,e⟩:=gm hx
 have:=bz h i hi
 unfold lF mj at this
 rw[aU,bl hi]at this
 simp only[m1,e]at this
 exact this.2.1
theorem Ya{x:Int}(h:aD x∧p8 x):mx x (W .i64 (0-x))=(x.natAbs:Int):=by
 unfold aD p8 at h
 rw[ay ω ω,Rx];split<;>omega
theorem Oe{x q:Int}(hx:x≠0)(hq:q≠0):HS x q↔ ¬((0<x)↔(0<q)):=by
 unfold HS;omega
theorem Yb(N:Nat)(hN:5000000≤N)(c:ae){b:an}(w:im b)(a:Int):fE N c b a=some (vb c b a):=by
 unfold fE fE.b vb
 rw[AA N ω w,ar,AO N w.s ω,ar,cond_not,cR,cG,aN]
 by_cases hB:dx c b=false
 ·rw[hB];rfl
 rw[Ez]at hB
 rw[hB,aq,aj rfl]
 obtain⟨_,hk⟩:=eF hB
 have hq:=La hk w.qs
 have hnz:=X9 hk
 have hh:=SQ hq 0 a
 have hlen:=w.s
 have hqs:=w.qs
 generalize dN b.2.2.2.1 0 a=q at*
 by_cases h1:a<0
 ·rw[aj h1,aj h1]
 rw[ah h1,ah h1]
 by_cases h2:(c.1.length:Int)≤a
 ·rw[aj h2,aj h2]
 rw[ah h2,ah h2]
 by_cases h3:q=0
 ·rw[aj h3,aj h3]
 rw[ah h3,ah h3]
 have nS:=hh.1
 unfold aD at nS
 have hqn:q≠ -9223372036854775808:=hh.2
 have:=om b.2.2.2.1 bm (λn i (z:au)=>fE.BY N n a b q (yK z) (jj z) i)
  (λt z=>some (if(jP b.2.2.2.1 a q).2.2=0 then(aaC b.2.2.2.1 a q,0)else([],(jP b.2.2.2.1 a q).2.2))) (λi z=>z++fP a q (b.2.2.2.1.drop i)=fP a q b.2.2.2.1∧z.length≤i)
  (λn i z hi hI hr=> ?_) (λn z hI=> ?_) b.2.2.2.1.length N 0 [] ω ω ω ⟨rfl,aG _⟩
 ·exact this
 ·unfold fE.BY fE.zg
  obtain⟨i1,i2⟩:=hI
  have hm:b.2.2.2.1.getD i bm∈b.2.2.2.1:=by
   rw[aU,bl hi];exact dA hi
  have hx:=hq _ hm
  have hn:=hnz _ hm
  rw[drop_cons hi bm,rC]at i1
  rw[aT ω,aq,a6 ω ω,aq,aJ,ay (x:=(i:Int)+1) ω ω,ag i]
  generalize b.2.2.2.1.getD i bm=x at*
  have Hw:mx x.2.2.1 (W .i64 (0-x.2.2.1))=(x.2.2.1.natAbs:Int):=Ya hx
  rw[bL (by rw[K9,aI];omega),aq,Hw]
  dsimp only
  rw[bL (by rw[A8,aI];omega),aq,cond_not,aN,aN,cond_not,o6,uu,uu]
  by_cases e1:x.1=0
  ·rw[aj e1]
   rw[ah (λh=>h.1 e1)]at i1
   exact hr z ⟨i1,ω⟩
  ·rw[ah e1]
   by_cases e2:x.2.1=a
   ·rw[aj e2]
    by_cases e3:HS (ed x) q
    ·have eb:(decide (0<x.2.2.1)==decide (0<q))=false:=by
      have e3:=(Oe hn h3).1 e3
      unfold ed at e3
      by_cases g1:0<x.2.2.1<;>by_cases g2:0<q
      ·exact absurd ⟨λ_=>g2,λ_=>g1⟩ e3
      ·rw[bs g1,cm g2];rfl
      ·rw[cm g1,bs g2];rfl
      ·exact absurd ⟨λh=>absurd h g1,λh=>absurd h g2⟩ e3
     rw[eb,av]
     rw[aj ⟨e1,e2,e3⟩]at i1
     have:=hr (z++[x]) ⟨by rw[bu];exact i1,by rw[aS,aI];omega⟩
     unfold yK jj at this
     rw[cZ,cZ]at this
     exact this
    ·have eb:(decide (0<x.2.2.1)==decide (0<q))=true:=by
      have e3:=Ey.1 (λh=>e3 ((Oe hn h3).2 h))
      unfold ed at e3
      rw[show decide (0<x.2.2.1)=decide (0<q)from oU.2 e3]
      exact tk _
     rw[eb,aq]
     rw[ah (λh=>e3 h.2.2)]at i1
     exact hr z ⟨i1,ω⟩
   ·rw[ah e2]
    rw[ah (λh=>e2 h.2.1)]at i1
    exact hr z ⟨i1,ω⟩
 ·unfold fE.BY fE.zg
  obtain⟨i1,i2⟩:=hI
  rw[mZ]at i1
  have ez:z=fP a q b.2.2.2.1:=by rw[←i1];exact(ck _).symm
  subst ez
  have tf:=A8 (fP a q b.2.2.2.1)
  have Hu:=Jd a q b.2.2.2.1
  rw[aP ω,av,Ya hh,Gc N hN (Jy hh) (BW hq a q) (BW hq a q) (by rw[tf];omega),ar,cond_not,aN,ay (x:=0-q) ω ω]
  show(if(jP b.2.2.2.1 a q).2.2=0 then _ else _)=_
  by_cases h4:(jP b.2.2.2.1 a q).2.2=0
  ·rw[aj h4,aj h4]
   obtain⟨f,g1,g2,g3⟩:=Jz hk hqs hh h4
   exact UM N (by rw[K9];omega) ω g3 _ (by simp) ω
  ·rw[ah h4,ah h4];rfl
end VM
end
section
namespace VM
open Go VM.F Go.RowKit
structure yM(s:au)(n:Nat):Prop where
 place: ∀x∈s,bG x.1 x.2.1
 q: ∀x∈s,aD (ed x)∧p8 (ed x)
 len:s.length≤n
 flat: ∀i:Int,(c6 i s).sum=0
theorem yM.nil(n:Nat):yM [] n:=⟨λx hx=>(nomatch hx),λx hx=>(nomatch hx),bp _,λi=>rfl⟩
theorem yM.app{s t:au}{n m k:Nat}(a:yM s n)(b:yM t m)(h:n+m≤k):yM (s++t) k:=
 ⟨λx hx=>(ba.1 hx).elim (a.place x) (b.place x),λx hx=>(ba.1 hx).elim (a.q x) (b.q x),by rw[aS];have:=a.len;have:=b.len;omega,λi=>by rw[yI,lT,a.flat,b.flat];rfl⟩
theorem Q6(a q i:Int): ∀t:List (Int×Int),(c6 i (zc a q t)).sum=if a=i then sg q (t.map (·.1)).sum else 0
 |[]=>by
  show(0:Int)=if a=i then sg q 0 else 0
  unfold sg;split<;>(try split)<;>rfl
 |p::t=>by
  have ih:=Q6 a q i t
  have hs:sg q ((p::t).map (·.1)).sum=sg q p.1+sg q (t.map (·.1)).sum:=by
   rw[bW,cz];unfold sg;split<;>omega
  rw[D9,hs]
  by_cases h:sg q p.1=0
  ·rw[aj h,ih,h];split<;>omega
  ·rw[ah h,df]
   dsimp only
   by_cases e:a=i
   ·rw[aj e,aj e,cz,ih,aj e];rfl
   ·rw[ah e,ah e,ih,ah e]
theorem Lb{a q:Int}{x:dh}: ∀{t:List (Int×Int)},x∈zc a q t→ ∃p∈t,x=(p.2,(a,(sg q p.1,())))
 |[],h=>nomatch h
 |p::t,h=>by
  rw[D9]at h
  split at h
  ·obtain⟨p',hp,e⟩:=Lb h
   exact⟨p',aY _ hp,e⟩
  ·rcases aX.1 h with e|h
   ·exact⟨p,bg ..,e⟩
   ·obtain⟨p',hp,e⟩:=Lb h
    exact⟨p',aY _ hp,e⟩
theorem Yc(a q:Int): ∀t:List (Int×Int),(zc a q t).length≤t.length
 |[]=>aG _
 |p::t=>by
  have:=Yc a q t
  rw[D9,aR]
  split
  ·omega
  ·rw[aR];omega
theorem Of{c:ae}{b:an}(h:dx c b=true):ov b.2.2.2.1=true∧fB c=true:=by
 unfold dx at h
 have h0:=cK.1 h
 have h1:=(cK.1 h0.2).2
 have h2:=cK.1 h1
 exact⟨(cK.1 (cK.1 h2.2).2).1,h0.1⟩
theorem Yd{c:ae}{b:an}(hB:dx c b=true)(w:im b){a:Int}(h:(vb c b a).2=0):yM (vb c b a).1 65:=by
 obtain⟨_,hk⟩:=eF hB
 obtain⟨hf,Hu⟩:=Of hB
 have hq:=La hk w.qs
 have hh:=SQ hq 0 a
 obtain⟨hs,G8⟩:=dC hk
 unfold vb at h ⊢
 rw[aj hB]at h ⊢
 by_cases h1:a<0
 ·rw[aj h1];exact yM.nil _
 rw[ah h1]at h ⊢
 by_cases h2:(c.1.length:Int)≤a
 ·rw[aj h2];exact yM.nil _
 rw[ah h2]at h ⊢
 by_cases h3:dN b.2.2.2.1 0 a=0
 ·rw[aj h3];exact yM.nil _
 rw[ah h3]at h ⊢
 by_cases h4:(jP b.2.2.2.1 a (dN b.2.2.2.1 0 a)).2.2=0
 ·rw[aj h4]
  have aif:gu 0 a b.2.2.2.1=dN b.2.2.2.1 0 a:=by unfold dN;rw[hk];rfl
  have hn6:a<6:=by
   unfold fB at Hu
   have:=(bz (cK.1 Hu).1).2
   omega
  have hz:(c6 a b.2.2.2.1).sum=0:=by
   unfold ov at hf
   have R5:=bz (cK.1 hf).1 a.toNat (by unfold ko;omega)
   unfold s4 dw sK at R5
   rw[hk,aj rfl,show((a.toNat:Nat):Int)=a by omega]at R5
   exact R5
  generalize dN b.2.2.2.1 0 a=q at*
  obtain⟨f,g1,g2,g3⟩:=Jz hk w.qs hh h4
  have am7:=Xj f (QN hs hz aif h3)
  have HN:=f.c.s
  rw[am7,fY]at HN
  have hzl:((jP b.2.2.2.1 a q).1.zip (yK (fP a q b.2.2.2.1))).map (·.1)=(jP b.2.2.2.1 a q).1:=List.map_fst_zip (by rw[K9];omega)
  have hsg:sg q (q.natAbs:Int)=q:=by unfold sg;split<;>omega
  have hzz: ∀x∈zc a q ((jP b.2.2.2.1 a q).1.zip (yK (fP a q b.2.2.2.1))),bG x.1 x.2.1∧aD (ed x)∧p8 (ed x):=λx hx=>by
   obtain⟨p,hp,rfl⟩:=Lb hx
   obtain⟨i,hi,e⟩:=gm hp
   rw[wa]at hi
   have e':=Xk (out:=(jP b.2.2.2.1 a q).1) (accs:=yK (fP a q b.2.2.2.1)) (i:=i) ω ω
   rw[aU,bl (by rw[wa];omega)]at e'
   have ep:p=_:=e.symm.trans e'
   have hr:=g3 i ω
   rw[ep]
   refine⟨?_,am6 hr.1 hr.2⟩
   have hm:(yK (fP a q b.2.2.2.1)).getD i 0∈yK (fP a q b.2.2.2.1):=by
    rw[aU,bl ω];exact dA _
   obtain⟨y,hy,ey⟩:=cD.1 hm
   have RP:=tY hy
   have hpy:=(G8 y RP.1).1
   have g: ∀u v z:Int,bG u v→v=a→u=z→bG z a:=λu v z h e1 e2=>by rw[←e1,←e2];exact h
   exact g _ _ _ hpy RP.2.2 ey
  refine⟨λx hx=> ?_,λx hx=> ?_,?_,λi=> ?_⟩
  ·rcases aX.1 hx with e|hx
   ·rw[e];show bG 0 a;unfold bG;omega
   ·exact(hzz x hx).1
  ·rcases aX.1 hx with e|hx
   ·rw[e];exact T9 hh
   ·exact(hzz x hx).2
  ·unfold aaC
   rw[aR]
   have:=Yc a q ((jP b.2.2.2.1 a q).1.zip (yK (fP a q b.2.2.2.1)))
   rw[wa]at this
   omega
  ·unfold aaC
   rw[df]
   dsimp only
   by_cases e:a=i
   ·rw[aj e,cz,Q6,aj e,hzl,HN,hsg]
    show 0-q+q=0
    omega
   ·rw[ah e,Q6,ah e]
 ·rw[ah h4]at h
  exact absurd h h4
namespace Pure
end Pure
end VM
end
section
namespace VM
open Go VM.F
theorem abf{c:ae}{b:an}(hR:RB c b)(w:im b){a:Int}(ha:0≤a∧mQ a c.1.length)(h:(vb c b a).2=0):SB c b.2.1 (vb c b a).1∧(vb c b a).1.length≤65:=by
 have I:=Yd (oF.2 hR) w h
 refine⟨⟨λx hx=>(I.q x hx).1,λx hx=>⟨I.place x hx,?_⟩,I.flat⟩,I.len⟩
 have pos: ∀y∈b.2.2.2.1,dw y.1 0∨ql b.2.1 y.1:=λy hy=>(hR.sk y hy).1
 unfold vb at hx h
 rw[aj (oF.2 hR)]at hx h
 by_cases h1:a<0
 ·exact absurd ha.1 ω
 by_cases h2:(c.1.length:Int)≤a
 ·have:=ha.2;unfold mQ at this;omega
 rw[ah h1,ah h2]at hx h
 by_cases h3:dN b.2.2.2.1 0 a=0
 ·rw[aj h3]at hx;exact nomatch hx
 rw[ah h3]at hx h
 generalize dN b.2.2.2.1 0 a=q at*
 by_cases h4:(jP b.2.2.2.1 a q).2.2=0
 ·rw[aj h4]at hx
  rcases aX.1 hx with rfl|hx
  ·exact⟨.inl rfl,ha.2⟩
  ·obtain⟨p,hp,rfl⟩:=Lb hx
   obtain⟨y,hy,e⟩:=cD.1 (List.of_mem_zip hp).2
   refine⟨?_,ha.2⟩
   dsimp only
   rw[←e]
   exact pos y (tY hy).1
 ·rw[ah h4]at hx;exact nomatch hx
theorem abg(N:Nat)(hN:5000000≤N){c:ae}{b:an}{m:Nat}(hm:m≤7000)(hb:G m aK b)(hR:RB c b):Ok (Js c b) (nM N c b):=by
 have w:=(G.wf ω hb).w
 have hci:c.1.length≤6:=by
  have:=hR.c
  unfold fB at this
  exact(bz (cK.1 this).1).2
 unfold nM nM.b
 refine bo (dH N hN ω hb) (bw (λ_=>Js.bad δ) λ_=>bc (len:=c.1.length) (F:=λn i s=>nM.l5 N n c b (cn,(c9,(bH,(bH,(dB,(dR,())))))) s i) (λi s=>SB c b.2.1 s∧s.length≤65*i) ⟨SB.nil,bp _⟩ ω (λn i s hi hI hr=> ?_) (λn s hI=> ?_))
 all_goals unfold nM.l5 nM.eg
 all_goals obtain⟨i1,i2⟩:=hI
 ·rw[ay (x:=(i:Int)+1) ω ω,ag i]
  exact aw (λ_=>bo (Yb N hN c w _) (bq (λh=>Js.bad h) λh=>have J:=abf hR w ⟨ω,show(i:Int)<c.1.length by omega⟩ h;aC ω (hr _ ⟨SB.app i1 J.1,by rw[aS];omega⟩))) λ_=>ω
 ·exact aw (λ_=>ω) λ_=>af (sU N ω ω hb hR i1 PB.nil ω (bp _)) λr hr=>ak hr
end VM
end
section
namespace VM
open Go VM.F
def nX(c:ae)(m:Nat)(s:aQ):Prop:=RB c s.2.2.1∧(1≤s.2.1∧s.2.1≤2000*(m:Int))∧(s.2.2.2.1.2.2.2.2.1.length≤4∧ ∀x∈s.2.2.2.1.2.2.2.2.1,HV c x)∧s.2.2.2.1.2.2.2.2.2.1.length≤12
abbrev SI(c:ae)(m:Nat)(r:aQ×dh):Prop:=r.2.1=0→nX c m r.1
theorem nX.up{c:ae}{m:Nat}{s:aQ}(h:nX c m s):nX c (m+1) s:=⟨h.1,⟨h.2.1.1,fI h.2.1.2 ω⟩,h.2.2⟩
theorem nX.add{n k:Int}{m:Nat}(h:1≤n∧n≤2000*(m:Int))(hm:m≤999)(hk:0≤k∧k≤2000):1≤W .i64 (n+k)∧W .i64 (n+k)≤2000*((m+1:Nat):Int):=by
 rw[ay ω ω];omega
theorem SS{c:ae}:([]:aL).length≤4∧ ∀x∈([]:aL),HV c x:=⟨bp _,λx hx=>nomatch hx⟩
theorem ib{c:ae}{m N:Nat}{e:Int}{x:aQ}(h:e=0→nX c m x):Ok (SI c m) ((fA N e).bind λr=>some (x,r)):=by
 unfold fA;exact ak h
theorem dL{c:ae}{m N:Nat}{e:Int}{x:aQ}(h:e≠0):Ok (SI c m) ((fA N e).bind λr=>some (x,r)):=ib λh'=>absurd h' h
theorem Ye(N:Nat)(hN:200000≤N){s:aQ}(hl:s.2.2.1.2.1.length≤100000)(k:Int):QW N s k=some (fe s.2.2.1.2.1 k).2:=by
 unfold QW;rw[w1 N hl hN];rfl
theorem UN(N:Nat)(hN:200000≤N){s:aQ}(hl:s.2.2.1.1.length≤100000)(k:Int):Gl N s k=some (eL s.2.2.1.1 k):=by
 unfold Gl;rw[ot N hl hN];rfl
theorem Lc(N:Nat)(hN:4000000≤N){c:ae}{s:aQ}{m:Nat}(hm:m≤50000)(hs:GS m s)(hR:nX c m s){a b d e q:Int}(hq:aD q)(h1:cS a b∧jx s.2.2.1.1 s.2.2.1.2.1 a b)(h2:cS d e∧jx s.2.2.1.1 s.2.2.1.2.1 d e):Ok (SI c (m+1)) (N6 N s a b d e q):=by
 unfold N6
 exact bo (cv N ω hq.1 hq.2) (af (sV N hN (oT hq) h1 h2) λp ⟨hp,Hu⟩=>af (sU N hN hm hs.2.2.1 hR.1 SB.nil hp (bp _) ω) λr hr=>ak λh=>⟨(hr h).1,hR.up.2⟩)
theorem UO(N:Nat)(hN:5000000≤N){c:ae}{s:aQ}{e:gR}{m:Nat}(h2:200≤m)(hm:m≤999)(hc:G m aA c)(hs:GS m s)(hR:nX c m s)(he:G 0 kZ e):Ok (SI c (m+1)) (nN N c s e):=by
 have hhl:=hs.2.2.2.1.2.2.2.2.1.1
 unfold nN nN.b
 generalize ((0:Int),((0:Int),_))=S0
 refine bc (len:=s.2.2.2.1.2.2.2.2.1.length) (F:=λn i (z:aQ×aL×Bool×Int)=>nN.l5 N n c z.1 e S0 bm z.2.1 z.2.2.1 z.2.2.2 i) (s:=(_,(_,(_,_)))) (λi z=>(GS m z.1∧nX c m z.1)∧z.1.2.2.2.1.2.2.2.2.1=s.2.2.2.1.2.2.2.2.1∧(G i (.slice eA) z.2.1∧ ∀x∈z.2.1,HV c x)) ⟨⟨hs,hR⟩,rfl,G.nil,λx hx=>nomatch hx⟩ ω (λn i z hi hI hr=> ?_) (λn z hI=> ?_)
 all_goals unfold nN.l5 nN.eg
 ·obtain⟨⟨hz,hzR⟩,hh,ho,hog⟩:=hI
  have Ir:=ho.1
  rw[hh,ay (x:=(i:Int)+1) ω ω,ag i]
  have hx:G 0 eA (s.2.2.2.1.2.2.2.2.1.getD (i:Int).toNat aV):=G.at hs.2.2.2.1.2.2.2.2.1 _
  have hxg:HV c (s.2.2.2.1.2.2.2.2.1.getD (i:Int).toNat aV):=hR.2.2.1.2 _ (pt hi)
  have snoc: ∀x:bM,HV c x→ ∀y∈z.2.1++[x],HV c y:=λx hx y hy=>(ba.1 hy).elim (hog y) λhy=>by rw[bV.1 hy];exact hx
  have hxm:G m eA (s.2.2.2.1.2.2.2.2.1.getD (i:Int).toNat aV):=G.mono (bp m) hx
  refine aw (λ_=>aB ⟨ω,ω⟩ (ok_eq (λ_=>af (Ok.and (Sy N hN h2 ω hc hz.2.2.1 hxm he.2.2.1 he.2.2.2.2.2.2.1 he.2.2.2.2.2.2.2.1) (aa9 N hN h2 ω hc hz.2.2.1 hzR.1 hxm he.2.2.1 he.2.2.2.2.2.2.1 he.2.2.2.2.2.2.2.1)) λr ⟨⟨y5,yS⟩,SC⟩=>bq (λh=>dL h) λh0=> ?_) λ_=>aw (λ_=>aC (by rw[aI];omega) (hr (z.1,(z.2.1++[s.2.2.2.1.2.2.2.2.1.getD (i:Int).toNat aV],z.2.2)) ⟨⟨hz,hzR⟩,hh,G.cat ho (G.one hx (aG 1)),snoc _ hxg⟩)) λ_=>hr z ⟨⟨hz,hzR⟩,hh,G.mono ω ho,hog⟩)) λ_=>ω
  have Dq:GS m (z.1.1,(z.1.2.1,(r.1,z.1.2.2.2))):=⟨hz.1,hz.2.1,y5,hz.2.2.2⟩
  have am9:nX c m (z.1.1,(z.1.2.1,(r.1,z.1.2.2.2))):=⟨(SC h0).1,hzR.2⟩
  have aic:G 0 eA r.2.1:=yS
  exact aw (λhq=>aC (by rw[aI];omega) (hr ((z.1.1,(z.1.2.1,(r.1,z.1.2.2.2))),(z.2.1++[r.2.1],(true,r.2.1.2.2.2.1))) ⟨⟨Dq,am9⟩,hh,G.cat ho (G.one aic (aG 1)),snoc _ ⟨by rw[(SC h0).2.1];exact hxg.1,hq,(SC h0).2.2⟩⟩)) λ_=>hr ((z.1.1,(z.1.2.1,(r.1,z.1.2.2.2))),(z.2.1,(true,r.2.1.2.2.2.1))) ⟨⟨Dq,am9⟩,hh,G.mono ω ho,hog⟩
 ·obtain⟨⟨hz,hzR⟩,hh,ho,hog⟩:=hI
  rw[hh]
  exact aw (λ_=>ω) λ_=>bw (λ_=>dL δ) λ_=>ak λ_=>⟨hzR.1,hzR.up.2.1,⟨cq ho.1 hR.2.2.1.1,hog⟩,hzR.2.2.2⟩
theorem Yf(N:Nat)(hN:5000000≤N){c:ae}{s:aQ}{e:gR}{m:Nat}(h2:200≤m)(hm:m≤999)(hc:G 5 aA c)(hs:GS m s)(hR:nX c m s)(he:G 0 kZ e):Ok (SI c (m+1)) (nO N c s e):=by
 have DX:G m aA c:=G.mono ω hc
 have hk:=hs.2.2.2.1
 have hb:=hs.2.2.1
 have up:=hR.up.2
 unfold nO nO.b
 refine ok_eq (λ_=> ?_) λ_=>ok_eq (λ_=> ?_) λ_=>ok_eq (λ_=> ?_) λ_=>ok_eq (λ_=> ?_) λ_=>ok_eq (λ_=> ?_) λ_=>ok_eq (λ_=> ?_) λ_=>ok_eq (λ_=> ?_) λ_=>ok_eq (λ_=> ?_) λ_=>ib λ_=>hR.up
 ·exact af (abd N hN ω DX hb hR.1 _ _ _) λr hr=>ib λh=>⟨hr h,up⟩
 ·exact af (SO N hN h2 ω DX hb hR.1 _) λr hr=>ib λh=>⟨(hr h).1,up⟩
 ·exact af (Jf N hN c hc.2.2.2.2.2.2.1 ω hb _) λr hr=>ak λ_=>⟨hR.1,nX.add hR.2.1 hm (by have:=hr.1.1;omega),⟨hr.1.1,hr.2⟩,hR.2.2.2⟩
 ·exact af (UO N hN h2 ω DX hs hR he) λr hr=>ak hr
 ·exact ok_eq (λ_=>dL δ) λ_=>af (SA N hN h2 ω DX hb hs.2.1) λl ⟨hl,asf⟩=>bq (λh=>dL h) λ_=>af (uc N ω hs.1 hc.2.2.2.2.1) λt ht=>bw (λ_=>dL δ) λ_=>af (Sz N hN c ω hb) λu hu=>ak λ_=>⟨hR.1,nX.add hR.2.1 hm ω,SS,asf⟩
 ·have hx:G 0 eA (s.2.1,(e.2.2.2.2.2.1,(e.2.1,(e.2.2.2.2.2.2.2.1,())))):=⟨hs.2.1,he.2.2.2.2.2.1,he.2.1,he.2.2.2.2.2.2.2.1,trivial⟩
  exact af (Jk N hN ω ω DX hb hk.2.2.2.2.2.1 hk.2.2.2.2.2.2.1 hx) λr hr=>ak λ_=>⟨hR.1,nX.add hR.2.1 hm δ,hR.2.2⟩
 ·refine af (Ok.and (N3 N hN c h2 ω hb hk.2.2.2.2.2.1 hk.2.2.2.2.2.2.1) (X4 N hN h2 ω hb hR.1 hk.2.2.2.2.2.1 hk.2.2.2.2.2.2.1)) λr ⟨⟨y5,yS⟩,SC⟩=>bq (λh=>dL h) λh0=>af (N1 N ω c h2 ω hk.2.2.2.2.2.2.2.2.1 hk.2.2.2.2.2.2.2.1.1 yS hk.2.2.2.2.2.2.1) λd hd=> ?_
  generalize ((0:Int),((0:Int),_))=S0
  have Ig:=yS.1
  refine bc (len:=r.2.1.length) (F:=λn i q=>nO.l41 N n _ S0 bm r.2.1 q i) (λ_ _=>True) trivial ω (λn i q hi _ eO=> ?_) (λn q _=> ?_)
  all_goals unfold nO.l41 nO.aa2
  ·rw[ay (x:=(i:Int)+1) ω ω,ag i]
   exact aw (λ_=>aB ⟨ω,ω⟩ (ok_eq (λ_=>eO _ trivial) λ_=>eO _ trivial)) λ_=>ω
  ·exact aw (λ_=>ω) λ_=>ak λ_=>⟨(SC h0).1,up.1,hR.2.2.1,(SC h0).2⟩
 ·exact af (Ok.and (Jn N hN h2 ω DX hb hk.2.2.2.2.2.2.2.2.1 hk.2.2.2.2.2.2.2.2.2.1 hk.1) (UL N hN h2 ω DX hb hR.1 hk.2.2.2.2.2.2.2.2.1 hk.2.2.2.2.2.2.2.2.2.1 hk.1)) λr ⟨⟨y5,yS⟩,SC⟩=>bq (λh=>dL h) λh0=>af (Ok.and (SF N hN h2 ω hc y5) (abg N hN ω y5 (SC h0).1)) λb ⟨hb,ui⟩=>bq (λh=>dL h) λh1=>af (SM N ω (cq hb.1.1 ω) _ _) λu hu=>ak λh=>have B:=(ui h1).1;⟨B.UI (hu h).1 B.a (hu h).2.1 (λ_ h=>h) λx hx=>(hu h).2.1 _ (B.ma x hx),up.1,SS,bp _⟩
theorem Yg(N:Nat)(hN:5000000≤N){c:ae}{s:aQ}{e:gR}{m:Nat}(h2:200≤m)(hm:m≤999)(hc:G 5 aA c)(hs:GS m s)(hR:nX c m s)(he:G 0 kZ e):Ok (SI c (m+1)) (pO N c s e):=by
 obtain⟨s1,s2,s3,⟨k1,k2,k3,k4,k5,k6,k7,k8,k9,UF,XN⟩,s5⟩:=hs
 have hs:GS m s:=⟨s1,s2,s3,⟨k1,k2,k3,k4,k5,k6,k7,k8,k9,UF,XN⟩,s5⟩
 have up:=hR.up.2
 unfold pO pO.b
 have hj: ∀(S0:aQ) (z:dh),Ok (SI c (m+1)) (pO.Ux N c s e S0 z):=λS0 z=>by
  unfold pO.Ux pO.N0
  exact af (N5 N _ _) λ_ _=>bw (λ_=>dL δ) λ_=>af (Yf N hN h2 hm hc hs hR he) λr hr=>ak hr
 have mem: ∀{x:aE},G m (.slice jD) x→G m aK ((x,s.2.2.1.2):an):=λh=>⟨h,s3.2⟩
 have rb: ∀{x:aE},dp x=true→(∀n,jn s.2.2.1.1 n→jn x n)→RB c ((x,s.2.2.1.2):an):=λh1 h2=>hR.1.UI h1 hR.1.a h2 (λ_ h=>h) λx hx=>h2 _ (hR.1.ma x hx)
 have Hn:=λk:Int=>Ok.and (KX N ω (m:=m) ω s3.1 e.2.1 k) (SM N ω (cq s3.1.1 ω) e.2.1 k)
 have hd: ∀z:aE×Int,G m (.slice jD) z.1∧(z.2=0→dp z.1=true∧(∀n,jn s.2.2.1.1 n→jn z.1 n)∧jn s.2.2.1.1 e.2.1)→Ok (SI c (m+1)) (cond (aO z.2 0) (cond (aO e.1 11) ((KY N c (z.1,s.2.2.1.2) e.2.1).bind λr2=>cond (aO s.2.2.2.1.2.1 3) ((pn N s.2.2.2.1.2.2.2.2.2.2.1 e.2.1).bind λr3=>(fA N z.2).bind λr4=>some ((s.1,(s.2.1,(r2.1,((s.2.2.2.1.1,(s.2.2.2.1.2.1,(s.2.2.2.1.2.2.1,(s.2.2.2.1.2.2.2.1,(s.2.2.2.1.2.2.2.2.1,(s.2.2.2.1.2.2.2.2.2.1,(r3,s.2.2.2.1.2.2.2.2.2.2.2))))))),s.2.2.2.2)))),r4)) ((fA N z.2).bind λr5=>some ((s.1,(s.2.1,(r2.1,s.2.2.2))),r5))) ((fA N z.2).bind λr6=>some ((s.1,(s.2.1,((z.1,s.2.2.1.2),s.2.2.2))),r6))) ((fA N z.2).bind λr7=>some ((s.1,(s.2.1,((z.1,s.2.2.1.2),s.2.2.2))),r7))):=λz ⟨hz,hi⟩=>
  ok_eq (λh0=>have B:=rb (hi h0).1 (hi h0).2.1;ok_eq (λ_=>af (Od N hN (m:=m) ω (mem hz) B _ ((hi h0).2.1 _ (hi h0).2.2)) λb hb=>ok_eq (λ_=>af (C5 N ω ω k7 _) λl hl=>ib λ_=>⟨hb,up⟩) λ_=>ib λ_=>⟨hb,up⟩) λ_=>ib λ_=>⟨B,up⟩) λh=>dL h
 refine ok_eq (λ_=>af (Hn _) λz hz=>hd z hz) λ_=>ok_eq (λ_=>af (Hn _) λz hz=>hd z hz) λ_=>ok_eq (λ_=> ?_) λ_=>ok_eq (λ_=> ?_) λ_=>hj _ _
 ·exact af (oE N ω ω hs _) λ_ _=>ok_eq (λ_=>dL δ) λ_=>bq (λ_=>dL δ) λ_=>af (Hn _) λz ⟨hz,hi⟩=>bq (λh=>dL h) λh0=>af (uc N ω s1 hc.2.2.2.1) λt ht=>bw (λ_=>dL δ) λ_=>ak λ_=>⟨rb (hi h0).1 (hi h0).2.1,up.1,SS,bp _⟩
 ·exact af (oE N ω ω hs _) λ_ _=>ok_eq (λ_=>dL δ) λ_=>af (oE N ω ω hs _) λ_ _=>bq (λ_=>dL δ) λ_=>hj _ _
theorem abh(N:Nat)(hN:5000000≤N){c:ae}{s:aQ}{e:gR}{m:Nat}(h2:200≤m)(hm:m≤999)(hc:G 5 aA c)(hs:GS m s)(hR:nX c m s)(he:G 0 kZ e):Ok (SI c (m+1)) (UG N c s e):=by
 have DX:G m aA c:=G.mono ω hc
 have hb:=hs.2.2.1
 have QX:=he.2.2.2.2.2.2.1
 have up:=hR.up.2
 have B:=hR.1
 have ml:=cq hb.1.1 (show m≤50000 by omega)
 have al:=cq hb.2.1.1 (show m≤50000 by omega)
 have hW:cS 1 0∧jx s.2.2.1.1 s.2.2.1.2.1 1 0:=B7 δ
 have st:=λk:Int=>UN N ω (s:=s) ω k
 have stm: ∀k:Int,eL s.2.2.1.1 k≠0→jn s.2.2.1.1 k:=λk h=>(vf B.m k).1 h
 unfold UG
 refine ok_eq (λ_=> ?_) λ_=>ok_eq (λ_=> ?_) λ_=>ok_eq (λ_=> ?_) λ_=>ok_eq (λ_=> ?_) λ_=>ok_eq (λ_=> ?_) λ_=>ok_eq (λ_=> ?_) λ_=>ok_eq (λ_=> ?_) λ_=>ok_eq (λ_=> ?_) λ_=>ok_eq (λ_=> ?_) λ_=>ok_eq (λ_=> ?_) λ_=>ok_eq (λ_=> ?_) λ_=>af (Yg N hN h2 hm hc hs hR he) λr hr=>ak hr
 ·exact af (XU N ω ml _) λr hr=>ib λh=>⟨B.UI (hr h).1 B.a (hr h).2 (λ_ h=>h) λx hx=>(hr h).2 _ (B.ma x hx),up⟩
 ·exact af (aa8 N ω ml al _) λr hr=>ib λh=>⟨B.UI B.m (hr h).1 (λ_ h=>h) (hr h).2.1 (hr h).2.2,up⟩
 ·exact bo (Ye N ω ω _) (bw (λ_=>dL δ) λhf=>af (Lc N ω ω hs hR QX hW (ud B ((nQ B.a _).1 hf))) λr hr=>ak hr)
 ·exact af (Ob N hN h2 ω DX hb B he.2.2.1 QX) λr hr=>ib λh=>⟨(hr h).1,up⟩
 ·exact bo (st _) (ok_eq (λ_=>dL δ) λh0=>bo (st _) (bq (λ_=>dL δ) λ_=>af (Lc N ω ω hs hR QX hW (A7 B δ (stm _ h0))) λr hr=>ak hr))
 ·exact bo (st _) (ok_eq (λ_=>dL δ) λh0=>af (mw N ω ω hb.2.2.1 _ _) λg hg=>af (br N ω hg) λx hx=>af (qA N ω ω hx) λx hx=>af (br N ω QX) λy hy=>af (pK N ω ω ω hy hx) λ_ _=>aw (λ_=>dL δ) λ_=>af (Lc N ω ω hs hR QX hW (A7 B δ (stm _ h0))) λr hr=>ak hr)
 ·exact af (XW N ω al B.ma _ _) λr hr=>ib λh=>⟨B.UI B.m (hr h).1 (λ_ h=>h) (hr h).2.1 (hr h).2.2,up⟩
 ·have hx:G 0 mV (s.2.1,(e.2.2.1,(e.2.2.2.1,(e.2.2.2.2.1,(e.2.2.2.2.2.2.1,(e.2.2.2.2.2.2.2.1,())))))):=⟨hs.2.1,he.2.2.1,he.2.2.2.1,he.2.2.2.2.1,QX,he.2.2.2.2.2.2.2.1,trivial⟩
  exact af (X1 N hN h2 ω DX hb B hx) λr hr=>ak λh=>⟨hr h,nX.add hR.2.1 hm δ,hR.2.2⟩
 ·exact bo (Ye N ω ω _) (bw (λ_=>dL δ) λ_=>af (UK N ω (cq hb.2.2.2.2.2.1.1 ω) _ _) λr hr=>ib λh=>⟨B.K6 (hr h).1 λx hx=>B.ok x ((hr h).2 x hx),up⟩)
 ·exact af (Ok.and (C6 N hN c h2 ω hb _ he.2.2.2.2.2.2.2.1) (Oc N hN ω hb B _ _)) λr ⟨⟨y5,yS⟩,SC⟩=>ok_eq (λh0=>bq (λ_=>af (NW N ω h2 ω hs.2.2.2.1.2.2.2.2.2.2.2.2.2.1 yS) λg hg=>ib λ_=>⟨SC h0,up⟩) λ_=>ib λ_=>⟨SC h0,up⟩) λh=>dL h
 ·exact af (uc N ω hs.1 QX) λt ht=>bw (λ_=>dL δ) λ_=>ak λ_=>⟨B,up⟩
theorem SU(N:Nat)(hN:5000000≤N){c:ae}{s:aQ}{e:gR}{m:Nat}(h2:200≤m)(hm:m≤999)(hc:G 5 aA c)(hs:GS m s)(hR:nX c m s)(he:G 0 kZ e):Ok (λr=>nX c (m+1) r.1) (QY N c s e):=by
 have cc: ∀r:dh,Ok (λr:aQ×dh=>nX c (m+1) r.1) (some (s,r)):=λr=>ak hR.up
 unfold QY
 exact bo (nn N ω c) (bw (λ_=>cc _) λ_=>af (Ji N ω e) λ_ _=>bw (λ_=>cc _) λ_=>af (abh N hN h2 hm hc hs hR he) λr hr=>bq (λ_=>cc _) λh=>ak (hr h))
end VM
end
section
namespace VM
open Go VM.F
theorem Ef(N:Nat){k:Nat}{d:aM}(h:Dk k d)(hk:k≤kA:=by first|decide|(unfold kA;omega)):Ok (λr=>(0≤r.1∧r.1<9223372036854775808)∧Dk (k+1) r.2) (LD N d):=by
 unfold LD
 refine af (Ec N hk h) λr ⟨hr,hd⟩=>ok_eq (λ_=>ω) λ_=> ?_
 have h3:shr .u64 r.1 3=r.1/8:=by rw[Kp ω ω];rfl
 have put: ∀x:Int,0≤x∧x<9223372036854775808→Ok (λr=>(0≤r.1∧r.1<9223372036854775808)∧Dk (k+1) r.2) (some (W .i64 x,r.2)):=λx hx=>ak ⟨by rw[ay ω ω];exact hx,hd⟩
 have asg: ∀y:Int,0<y∧y≤1000000000000→0≤rem (r.1/8) y∧rem (r.1/8) y<9223372036854775808:=λy hy=>by have:=rem_in (x:=r.1/8) (y:=y) ω hy.1;omega
 dsimp only
 rw[h3,amx]
 repeat' first|exact put _ ω|exact put _ (asg _ δ)|refine aw (λ_=> ?_) (λ_=> ?_)|refine ok_eq (λ_=> ?_) (λ_=> ?_)|(exfalso;omega)
def B8(x:bM):Prop:=oP x.1 x.2.1 x.2.2.1 x.2.2.2.1
theorem A9{c:ae}:fB c=true↔(1≤c.1.length∧c.1.length≤6)∧(∀x∈c.1,B8 x)∧pF c:=by
 unfold fB
 simp only[bQ,fg]
 rw[←gN (d:=aV) (Q:=B8)];rfl
abbrev Cq(c:ae):Prop:=(G 5 aA c∧1≤c.1.length)∧fB c=true
theorem aih{x:bM}(h:B8 x):G 5 eA x:=by
 have g: ∀a b c d:Int,oP a b c d→aD a∧aD b∧aD c∧aD d:=λa b c d h=>by unfold oP at h;unfold aD;omega
 have:=g _ _ _ _ h
 exact⟨this.1,this.2.1,this.2.2.1,this.2.2.2,trivial⟩
theorem aii{c:ae}(h:pF c)(h1:c.2.1<9223372036854775808)(h2:c.2.2.2.2.2.2.1≤1000):G 5 (.pair (.int .i64) (.pair (.int .i64) (.pair (.int .i64) (.pair (.int .i64) (.pair (.int .i64) (.pair (.int .i64) .unit)))))) c.2:=by
 have g: ∀a b c d e f:Int,nk a b c d e f→a<9223372036854775808→f≤1000→aD a∧aD b∧aD c∧aD d∧aD e∧aD f:=λa b c d e f h h1 h2=>by unfold nk at h;unfold aD;omega
 have:=g _ _ _ _ _ _ h h1 h2
 exact⟨this.1,this.2.1,this.2.2.1,this.2.2.2.1,this.2.2.2.2.1,this.2.2.2.2.2,trivial⟩
theorem UP(N:Nat)(hN:100≤N){d:aM}(h:Dk 0 d):Ok (λr=>Cq r.1∧Dk 1000 r.2) (vg N d):=by
 unfold vg vg.b
 refine af (iV N δ h) λr hr=> ?_
 rw[ay (x:=1+r.1) ω ω]
 obtain⟨k,hk⟩: ∃k:Nat,1+r.1=(k:Int):=⟨(1+r.1).toNat,ω⟩
 rw[hk]
 have b1: ∀x y:Int,0≤x∧x<y→y≤1000000000000→1≤W .i64 (1+x)∧W .i64 (1+x)≤y:=λx y h1 h2=>by rw[ay ω ω];omega
 refine xR (F:=λn x (s:aM×aL)=>vg.l3 N n s.1 (c9,fm) (c9,fm) s.2 x) (λx s=>x+s.2.length=k∧Dk (1+20*s.2.length) s.1∧ ∀y∈s.2,B8 y) (λn x s hI hr=> ?_) (λn s hI=> ?_) k N (r.2,_) ω ⟨rfl,hr.2,λy hy=>nomatch hy⟩
 all_goals unfold vg.l3 vg.nT
 ·obtain⟨hx,hd,hG⟩:=hI
  have Aa: ∀(d:aM) (x4:bM),Dk (1+20*s.2.length+10) d→B8 x4→Ok (λr=>Cq r.1∧Dk 1000 r.2) (cond (small (s.2.length+[x4].length)) (vg.l3 N n d (c9,fm) (c9,fm) (s.2++[x4]) (W .i64 (((x+1:Nat):Int)-1))) none):=λd x4 hd hx4=>by
   rw[ay (x:=((x+1:Nat):Int)-1) ω ω,show((x+1:Nat):Int)-1=(x:Int)by omega]
   refine aC (by rw[aI];omega) (hr (_,_) ⟨by rw[aS,aI];omega,Dk.mono hd (by rw[aS,aI];omega),λy hy=> ?_⟩)
   rcases ba.1 hy with hy|hy
   ·exact hG y hy
   ·rw[bV.1 hy];exact hx4
  have hj: ∀(d:aM) (x5:bM),Dk (1+20*s.2.length+6) d→B8 x5→Ok (λr=>Cq r.1∧Dk 1000 r.2) (vg.j8 N (vg.l3 N n) d (c9,fm) (c9,fm) s.2 ((x+1:Nat):Int) x5):=λd x5 hd hx5=>by
   unfold vg.j8 vg.W1
   refine af (pM N δ hd) λr hd=>pj (λ_=> ?_) λ_=>Aa _ _ (Dk.mono hd ω) hx5
   refine af (Ef N hd) λr ⟨h1,hd⟩=>ok_eq (λ_=>ω) λ_=> ?_
   dsimp only
   have e1:=rem_in h1.1 (show(0:Int)<1000000001 by decide)
   exact af (Ef N hd) λr ⟨h2,hd⟩=>ok_eq (λ_=>ω) λ_=>have e2:=rem_in h2.1 (show(0:Int)<1000000001 by decide);Aa _ _ (Dk.mono hd ω) ⟨hx5.1,hx5.2.1,⟨e1.1,by dsimp only;omega⟩,⟨e2.1,by dsimp only;omega⟩⟩
  refine aw (λ_=> ?_) λ_=>ω
  refine af (iV N δ hd) λa ⟨ha,hd⟩=>af (iV N δ hd) λb ⟨hb,hd⟩=>af (iV N δ hd) λc ⟨hc,hd⟩=>af (iV N δ hd) λe ⟨he,hd⟩=>af (pM N δ hd) λr hd=>pj (λ_=>af (Ef N hd) λr ⟨h1,hd⟩=>ok_eq (λ_=>ω) λ_=>hj _ _ (Dk.mono hd ω) ⟨⟨ha.1,by dsimp only;omega⟩,b1 _ _ (rem_in h1.1 δ) δ,⟨hc.1,by dsimp only;omega⟩,⟨he.1,by dsimp only;omega⟩⟩) λ_=>hj _ _ (Dk.mono hd ω) ⟨⟨ha.1,by dsimp only;omega⟩,⟨(b1 _ _ hb δ).1,Int.le_trans (b1 _ _ hb δ).2 δ⟩,⟨hc.1,by dsimp only;omega⟩,⟨he.1,by dsimp only;omega⟩⟩
 ·obtain⟨hx,hd,hG⟩:=hI
  have hl:s.2.length≤4∧1≤s.2.length:=ω
  have hd:Dk 900 s.1:=Dk.mono hd ω
  have fin: ∀(q t p b l m:Int),(0≤q∧q<9223372036854775808)→(0≤t∧t<5)→(0≤p∧p<3)→(0≤b∧b<3)→(0≤l∧l<20)→(0≤m∧m<100)→Cq (s.2,(q,(t,(p,(b,(W .i64 (1+l),(m,()))))))):=λq t p b l m h1 h2 h3 h4 h5 h6=>by
   have h7:=b1 _ _ h5 δ
   have hr:pF (s.2,(q,(t,(p,(b,(W .i64 (1+l),(m,()))))))):=(show nk q t p b (W .i64 (1+l)) m by unfold nk;omega)
   exact⟨⟨⟨⟨by dsimp only;omega,λy hy=>aih (hG y hy)⟩,aii hr h1.2 (show m≤1000 by omega)⟩,hl.2⟩,A9.2 ⟨⟨hl.2,by dsimp only;omega⟩,hG,hr⟩⟩
  refine aw (λ_=>ω) λ_=>af (iV N δ hd) λa ⟨ha,hd⟩=>af (iV N δ hd) λb ⟨hb,hd⟩=>af (iV N δ hd) λc ⟨hc,hd⟩=>af (iV N δ hd) λe ⟨he,hd⟩=>af (iV N δ hd) λf ⟨hf,hd⟩=> ?_
  dsimp only
  exact af (iV N δ hd) λg ⟨hg,hd⟩=>af (pM N δ hd) λr hd=>pj (λ_=>af (Ef N hd) λr ⟨hr,hd⟩=>ak ⟨fin _ _ _ _ _ _ hr hb hc he hf hg,Dk.mono hd δ⟩) λ_=>ak ⟨fin _ _ _ _ _ _ ⟨ha.1,ω⟩ hb hc he hf hg,Dk.mono hd δ⟩
theorem UQ{q:Int}(h0:q≠0):eC [((1:Int),((0:Int),((-q:Int),()))),((3:Int),((0:Int),(q,())))]=true∧dw (gK [((1:Int),((0:Int),((-q:Int),()))),((3:Int),((0:Int),(q,())))]) 0:=by
 have ok:eC [((1:Int),((0:Int),((-q:Int),()))),((3:Int),((0:Int),(q,())))]=true:=by
  unfold eC
  rw[fX]
  refine bs λj hj=> ?_
  match j,hj with
  |0,_=>exact⟨show cS 1 0 by decide,show-q≠0 by omega,λh=>absurd h δ⟩
  |1,_=>exact⟨show cS 3 0 by decide,h0,λ_=> .inl (show(1:Int)<3 by decide)⟩
 refine⟨ok,?_⟩
 unfold gK
 rw[aj ok]
 show-q+(q+0)=0
 omega
theorem Q7(N:Nat)(hN:1000≤N){c:ae}(hc:Cq c)(nV:c.2.1<9223372036854775808):Ok (λr=>RB c r.1∧r.2=0) (iv N c):=by
 obtain⟨⟨hc,LA⟩,hp⟩:=hc
 have hl:=hc.1.1
 obtain⟨h1,h2,h3⟩:=A9.1 hp
 unfold iv iv.b
 have hj: ∀b:an,(∀p:List Int,p.length=c.1.length→eW p=true→RB c (b.1,(b.2.1,(b.2.2.1,(b.2.2.2.1,(p,b.2.2.2.2.2))))))→Ok (λr=>RB c r.1∧r.2=0) (iv.j6 N c (cn,(c9,(bH,(bH,(dB,(dR,())))))) b []):=λb hb=>by
  unfold iv.j6 iv.TN
  obtain⟨b1,b2,b3,b4,b5,b6⟩:=b
  refine bc (len:=c.1.length) (F:=λn i (z:an×List Int)=>iv.l7 N n c (cn,(c9,(bH,(bH,(dB,(dR,())))))) z.1 z.2 i) (s:=((b1,(b2,(b3,(b4,(b5,b6))))),_)) (λi z=>(z.1.1=b1∧z.1.2.1=b2∧z.1.2.2.1=b3∧z.1.2.2.2.1=b4∧z.1.2.2.2.2.2=b6)∧z.2.length=i∧ ∀x∈z.2,1≤x∧x≤1000000000000) ⟨⟨rfl,rfl,rfl,rfl,rfl⟩,rfl,λx hx=>nomatch hx⟩ ω (λn i z hi hI hr=> ?_) (λn z hI=> ?_)
  all_goals unfold iv.l7 iv.rj
  all_goals obtain⟨hz,hzl,hzp⟩:=hI
  ·rw[ay (x:=(i:Int)+1) ω ω,ag i,aJ]
   have hx:=(h2 _ (pt (d:=aV) hi)).2.1
   exact aw (λ_=>aB ⟨ω,ω⟩ (aC (by rw[List.length_singleton];omega) (hr (_,_) ⟨hz,by dsimp only;rw[List.length_append,List.length_singleton];omega,λy hy=>by
    rcases ba.1 hy with hy|hy
    ·exact hzp y hy
    ·rw[bV.1 hy];exact hx⟩))) λ_=>ω
  ·refine aw (λ_=>ω) λ_=>ak ⟨?_,rfl⟩
   obtain⟨z1,z2,z3,z4,z5⟩:=hz
   dsimp only
   rw[z1,z2,z3,z4,z5]
   refine hb _ hzl ?_
   unfold eW
   exact bs ((gN (d:=(0:Int)) (Q:=λx=>1≤x∧x≤1000000000000)).2 hzp)
 have mk: ∀r:au,eC r=true→dw (gK r) 0→(∀x∈r,jx [] [] x.1 x.2.1)→ ∀p:List Int,p.length=c.1.length→eW p=true→RB c (([]:aE),(([]:aL),(r,(([]:au),(p,(([]:bB),())))))):=λr r1 r2 r3 p p1 p2=>
  ⟨hp,(show dp []=true by decide),(show fC []=true by decide),λx hx=>(nomatch hx),r1,r2,(show ov []=true by decide),(show ei []=true by decide),show(p.length:Int)=c.1.length by omega,r3,λx hx=>(nomatch hx),λx hx=>(nomatch hx),p2⟩
 refine bo (nn N ω c) (bw (λh=>by rw[hp]at h;exact nomatch h) λ_=>bq (λh0=>hj _ ?_) λ_=>hj _ ?_)
 ·have hs:0≤c.2.1:=h3.1
  have e: ∀q:Int,0≤q→q<9223372036854775808→W .i64 (0-q)= -q:=λq h1 h2=>by rw[ay ω ω];omega
  have h0:(c.2.1:Int)≠0:=h0
  rw[e _ hs nV]
  obtain⟨ok,tot⟩:=UQ h0
  refine mk _ ok tot λx hx=> ?_
  rcases aX.1 hx with rfl|hx
  ·exact⟨λh=>absurd h (show ¬dw 1 5 by decide),λh=>absurd h (show ¬(dw 1 6∨dw 1 7)by decide)⟩
  ·rw[bV.1 hx];exact⟨λh=>absurd h (show ¬dw 3 5 by decide),λh=>absurd h (show ¬(dw 3 6∨dw 3 7)by decide)⟩
 ·exact mk [] δ δ λx hx=>nomatch hx
theorem Og(N:Nat)(hN:1000≤N){c:ae}(hc:Cq c)(nV:c.2.1<9223372036854775808):Ok (λr:aQ×Int=>(GS 5 r.1∧nX c 5 r.1)∧r.2=0) (Yh N c):=by
 unfold Yh
 exact af (Ok.and (QT N ω hc.1.1) (Q7 N ω hc nV)) λb ⟨mA,ui,hb3⟩=>bq (λh=>absurd hb3 h) λ_=>ak ⟨⟨⟨bJ,(show aD 1 from bk),mA,G.zero 5 rN,G.zero 5 gM,trivial⟩,ui,⟨(show(1:Int)≤1 by decide),(show(1:Int)≤2000*((5:Nat):Int)by decide)⟩,SS,bp _⟩,rfl⟩
theorem aij(N:Nat)(hN:5000000≤N){c:ae}{l:cV}{m:Nat}(hm:m≤700)(hc:Cq c)(nV:c.2.1<9223372036854775808)(hl:vx m l):Ok (λr=>GS 900 r.1∧nX c 900 r.1) (GD N c l):=by
 have He:=hl.1
 unfold GD GD.b
 refine af (Og N ω hc nV) λb ⟨⟨mA,ui⟩,hb3⟩=>bq (λh=>absurd hb3 h) λ_=>bc (len:=l.length) (F:=λn i (z:aQ×au)=>GD.l6 N n l c (Ty.zero dt) z.1 z.2 i) (s:=(_,_)) (λi z=>(GS (200+i) z.1∧nX c (200+i) z.1)∧z.2.length≤i) ⟨⟨G.mono ω mA,ui.1,⟨ui.2.1.1,fI ui.2.1.2 δ⟩,ui.2.2⟩,aG 0⟩ ω (λn i z hi hI hr=> ?_) (λn z hI=> ?_)
 all_goals unfold GD.l6 GD.uN
 all_goals obtain⟨⟨h1,h3⟩,h2⟩:=hI
 ·rw[ay (x:=(i:Int)+1) ω ω,ag i]
  have hx:G 0 kZ (l.getD (i:Int).toNat zz8):=G.at hl _
  exact aw (λ_=>aB ⟨ω,ω⟩ (af (Ok.and (SJ N hN ω ω hc.1.1 h1 hx) (SU N hN ω ω hc.1.1 h1 h3 hx)) λr ⟨y5,yS⟩=>aC (by rw[List.length_singleton];omega) (hr (r.1,z.2++[r.2]) ⟨⟨y5,yS⟩,by dsimp only;rw[List.length_append,List.length_singleton];omega⟩))) λ_=>ω
 ·exact aw (λ_=>ω) λ_=>ak ⟨G.mono ω h1,h3.1,⟨h3.2.1.1,fI h3.2.1.2 ω⟩,h3.2.2⟩
theorem Cq.f{c:ae}(h:Cq c):Cf c∧c.2.1<9223372036854775808:=⟨⟨h.1.1,h.1.2⟩,h.1.1.2.1.2⟩
end VM
end
