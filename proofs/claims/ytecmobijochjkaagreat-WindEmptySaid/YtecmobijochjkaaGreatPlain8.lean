/- A part of the proof of WindEmpty of layer 21: what the functions compute, in plain words. -/
import Derived.Test.YtecmobijochjkaaGreatPlain7
import Derived.Test.YtecmobijochjkaaGreatPlain4
set_option linter.all false
section
namespace VM
open Go VM.F
theorem abb(N:Nat)(hN:5000000≤N){c:ae}{b:an}{m:Nat}(hm:m≤40000)(hc:G m aA c)(hb:G m aL b)(hR:RB c b)(f:Int)(to a:Int):Ok (λr=>r.2=0→RB c r.1) (Uq N c b f to a):=by
 have bad: ∀e:Int,e≠0→Ok (λr:an×Int=>r.2=0→RB c r.1) (some ((ck,(c8,(bG,(bG,(dC,(dQ,())))))),e)):=λe h=>ak λh'=>absurd h' h
 unfold Uq
 refine af (Xx N hN hm hc hb _ _ _) λ_ _=>bp (λh=>bad _ h) λ_=>af (QZ N ω (cm hb.1.1 ω) (cm hb.2.1.1 ω) _ _) λr hr=>bp (λh=>bad _ h) λh0=>ak λ_=> ?_
 obtain⟨r1,r2,r3⟩:=hr h0
 exact hR.UG hR.m r1 (λ_ h=>h) r2 r3
theorem XX(N:Nat)(hN:200000≤N){c:ae}{b:an}{m:Nat}(hm:m≤50000)(hb:G m aL b)(hR:RB c b){a:Int}(ha:qf b.2.1 a):Ok (λr=>SB c b.2.1 r∧r.length≤2*m) (iT N b.2.2.2.1 a 0):=by
 have h:=hb.2.2.2.1
 have hl:=h.1
 have hp:=(dn (dt (ky.2 hR)).2).2
 unfold iT iT.b
 have nil:Ok (λr:au=>SB c b.2.1 r∧r.length≤2*m) (some []):=ak ⟨SB.nil,bo _⟩
 refine br (kM N ω hN) (bw (λ_=>nil) λ_=>ok_eq (λ_=>nil) λ_=>aw (λ_=>nil) λa0=>aw (λ_=>nil) λa1=>aw (λ_=>nil) λ_=>aw (λ_=>nil) λ_=>bc (len:=b.2.2.2.1.length) (F:=λn i s=>iT.l5 N n b.2.2.2.1 a 0 s i) (λi s=>SB c b.2.1 s∧s.length≤2*i) ⟨SB.nil,bo _⟩ ω (λn i s hi hI hr=> ?_) (λn s hI=> ?_))
 all_goals unfold iT.l5 iT.ed
 all_goals obtain⟨i1,i2⟩:=hI
 ·have hx:G m js (b.2.2.2.1.getD i bl):=h.2 _ (qd hi)
  have Fj:=hp _ (qd (d:=bl) hi)
  have hx2:=hR.sk _ (qd (d:=bl) hi)
  dsimp only
  rw[ay (x:=(i:Int)+1) ω ω,ag i,aJ]
  have h1:=hr s ⟨i1,ω⟩
  have hq:aD (b.2.2.2.1.getD i bl).2.2.1:=hx.2.2.1
  have nN:p4 (b.2.2.2.1.getD i bl).2.2.1:=Fj.2
  have pl:=Fj.1
  have ins:=hx2.2
  generalize (b.2.2.2.1.getD i bl).2.2.1=q at*
  generalize (b.2.2.2.1.getD i bl).2.1=k at*
  have hn:=(T6 ⟨hq,nN⟩).1
  unfold aD at hn
  rw[ay hn.1 hn.2]
  exact aw (λ_=>aB ⟨ω,ω⟩ (ok_eq (λ_=>aB ⟨ω,ω⟩ (aB ⟨ω,ω⟩ (aB ⟨ω,ω⟩ (aB ⟨ω,ω⟩ (aC (by rw[xK];omega) (hr _ ⟨SB.app i1 (SB.two hn hq ω ⟨⟨a0,a1,pl.2.2.1,pl.2.2.2⟩,.inr ha,ins⟩ ⟨⟨δ,δ,pl.2.2.1,pl.2.2.2⟩,.inl rfl,ins⟩),by rw[aS,aR,aI];omega⟩)))))) λ_=>h1)) λ_=>ω
 ·exact aw (λ_=>ω) λ_=>ak ⟨i1,ω⟩
theorem Jr{c:ae}{b:an}(h:RB c b):b.2.1.length≤24:=N5 h.a
theorem SF(N:Nat)(hN:5000000≤N){c:ae}{b:an}{m:Nat}(h2:200≤m)(hm:m≤1000)(hc:G m aA c)(hb:G m aL b)(hR:RB c b)(a:Int):Ok (Jo c b) (mR N c b a):=by
 have hal:=Jr hR
 unfold mR mR.b
 refine br (dH N hN ω hb) (bw (λ_=>Jo.bad δ) λhB=>af (qv N ω ω hb _) λ_ _=>ok_eq (λ_=>Jo.bad δ) λ_=> ?_)
 refine bc (len:=b.2.1.length) (F:=λn i (z:au×bE)=>mR.l8 N n a c b (ck,(c8,(bG,(bG,(dC,(dQ,())))))) z.1 z.2 i) (s:=(_,_)) (λi z=>(SB c b.2.1 z.1∧z.1.length≤2*m*i)∧PB b.1 b.2.1 z.2∧z.2.length≤4*i) ⟨⟨SB.nil,bo _⟩,PB.nil,bo _⟩ ω (λn i z hi hI hr=> ?_) (λn z hI=> ?_)
 all_goals unfold mR.l8 mR.yd
 all_goals obtain⟨⟨h5,h7⟩,h6,h8⟩:=hI
 ·have XF:2*m*i≤2*m*24:=lN _ ω
  have hms:2*m*(i+1)=2*m*i+2*m:=qH _ _
  have hx:G m eB (b.2.1.getD (i:Int).toNat aV):=G.at hb.2.1 _
  have hA:qf b.2.1 (b.2.1.getD (i:Int).toNat aV).1:=⟨_,qd hi,rfl⟩
  have hM:=tQ hR hA
  have hF:cN 2 0∧ju b.1 b.2.1 2 0:=B2 δ
  have hj: ∀p:bE,PB b.1 b.2.1 p→p.length≤4*i+2→Ok (Jo c b) (mR.Bf N (mR.l8 N n) a c b (ck,(c8,(bG,(bG,(dC,(dQ,())))))) z.1 p (i:Int) (b.2.1.getD (i:Int).toNat aV)):=λp hp Ho=>by
   unfold mR.Bf mR.uV
   rw[ay (x:=(i:Int)+1) ω ω,ag i]
   exact af (tM N ω ω hb _) λg hg=>aw (λ_=>br (cP N ω hg.1 hg.2) (br (jw N ω (AE (oP hg).1)) (af (sO N ω ⟨(oP hg).2,by rw[Int.neg_neg];exact(oP hg).1⟩ hF hM) λu ⟨hu,Hd⟩=>aC ω (af (XX N ω ω hb hR hA) λs ⟨hs,Ht⟩=>aC ω (hr (_,_) ⟨⟨SB.app h5 hs,by dsimp only;rw[List.length_append];omega⟩,PB.app hp hu,by dsimp only;rw[List.length_append];omega⟩))))) λ_=>af (XX N ω ω hb hR hA) λs ⟨hs,Ht⟩=>aC ω (hr (_,_) ⟨⟨SB.app h5 hs,by dsimp only;rw[List.length_append];omega⟩,hp,by dsimp only;omega⟩)
  rw[ay (x:=(i:Int)+1) ω ω,ag i]
  exact aw (λ_=>aB ⟨ω,ω⟩ (bp (λ_=>hr z ⟨⟨h5,ω⟩,h6,ω⟩) λ_=>ok_eq (λ_=>af (Jk N hN ω hc hb _) λq hq=>br (cP N ω hq.1 hq.2) (af (sO N ω (oP hq) hM hF) λu ⟨hu,Hd⟩=>aC ω (hj _ (PB.app h6 hu) (by rw[aS];omega)))) λ_=>hj _ h6 ω)) λ_=>ω
 ·have XF:2*m*b.2.1.length≤2*m*24:=lN _ ω
  exact aw (λ_=>ω) λ_=>af (sN N ω ω hb hR h5 h6 ω ω) λr hr=>ak hr
theorem y8{n:Int}: ∀{l:aK},nh n l≠0→qf l (nh n l)
 |[],h=>absurd rfl h
 |x::t,h=>by
  rw[sA]at h ⊢
  have up:qf t (nh n t)→qf (x::t) (nh n t):=λ⟨y,hy,e⟩=>⟨y,aZ _ hy,e⟩
  by_cases e1:x.2.1=n
  ·rw[aj e1]at h ⊢
   by_cases e2:x.2.2.1=1
   ·rw[aj e2];exact⟨x,bm ..,rfl⟩
   ·rw[ah e2]at h ⊢;exact up (y8 h)
  ·rw[ah e1]at h ⊢;exact up (y8 h)
theorem Js{a:aK}{n:Int}(h:ni a n≠0):qf a (ni a n):=by
 unfold ni at*
 split at h
 ·rw[aj (by assumption)];exact y8 h
 ·exact absurd rfl h
def SG(c:ae)(y:yV):Prop:=(0≤y.1∧nS y.1 c.1.length)∧p4 y.2.1
theorem Q2{c:ae}{L:bA}(h:BI c L=true): ∀x∈L,∀y∈x.2.1,SG c y:=by
 unfold BI at h
 simp only[bQ,fX,ff]at h
 refine(gL (d:=((0:Int),(ck,aV))) (Q:=λx=> ∀y∈x.2.1,SG c y)).1 λj hj=> ?_
 have h1:=(h.2.2 j hj).2.2.2.1
 unfold mi at h1
 exact(gL (d:=cD) (Q:=SG c)).1 λi hi=>by
  have h2:=bz (cO.1 h1).1 i hi
  exact⟨⟨h2.1,h2.2.1⟩,h2.2.2.2.1⟩
theorem XY(N:Nat)(hN:5000000≤N){c:ae}{b:an}{L:bA}{l:aK}{m:Nat}(h2:200≤m)(hm:m≤2000)(hb:G m aL b)(hR:RB c b)(hL:LL m L)(hl:G m (.slice eB) l):Ok (λr=>r.2.2=0→RB c r.1∧r.2.1.length≤12) (fK N c b L l):=by
 have dI: ∀e:Int,e≠0→Ok (λr:an×bA×Int=>r.2.2=0→RB c r.1∧r.2.1.length≤12) (some ((ck,(c8,(bG,(bG,(dC,(dQ,())))))),([],e))):=λe h=>ak λh'=>absurd h' h
 have h3:=hL.1
 have h4:=hl.1
 have hw:IP L:=λy hy=>cm (hL.2 y hy).2.1.1 ω
 have hci:c.1.length≤6:=by
  have:=hR.c
  unfold fM at this
  exact(bz (cO.1 this).1).2
 unfold fK fK.b
 refine br (dH N hN ω hb) (bw (λ_=>dI _ δ) λ_=>br (AF N ω c ω hw) (bw (λ_=>dI _ δ) λhk=>br (tJ N ω ω) (bw (λ_=>dI _ δ) λ_=> ?_)))
 have am3:=Q2 hk
 have h12:L.length≤12:=by
  unfold BI at hk
  exact bz (cO.1 (cO.1 hk).2).1
 refine bc (len:=L.length) (F:=λn i (z:au×bE×bA)=>fK.l7 N n L l b (ck,(c8,(bG,(bG,(dC,(dQ,())))))) z.1 z.2.1 z.2.2 i) (s:=(_,(_,_))) (λi z=>(SB c b.2.1 z.1∧z.1.length≤2*m*i)∧(PB b.1 b.2.1 z.2.1∧z.2.1.length≤2*i)∧z.2.2.length≤i) ⟨⟨SB.nil,bo _⟩,⟨PB.nil,bo _⟩,bo _⟩ ω (λn i z hi hI hr=> ?_) (λn z hI=> ?_)
 all_goals unfold fK.l7 fK.q4
 all_goals obtain⟨⟨h5,h8⟩,⟨h6,h9⟩,h7⟩:=hI
 ·have XF:2*m*i≤2*m*12:=lN _ ω
  have hms:2*m*(i+1)=2*m*i+2*m:=qH _ _
  have hx:G m jj (L.getD (i:Int).toNat ((0:Int),(ck,aV))):=G.at hL _
  have hxl:=hx.2.1.1
  have asc:=am3 _ (qd (d:=((0:Int),(ck,aV))) hi)
  rw[ay (x:=(i:Int)+1) ω ω,ag i]
  dsimp only
  rw[cJ]
  have put: ∀x:ir,Ok (λr=>r.2.2=0→RB c r.1∧r.2.1.length≤12) (cond (small (z.2.2.length+[x].length)) (fK.l7 N n L l b (ck,(c8,(bG,(bG,(dC,(dQ,())))))) z.1 z.2.1 (z.2.2++[x]) ((i+1:Nat):Int)) none):=λx=>aC (by rw[List.length_singleton];omega) (hr (z.1,(z.2.1,z.2.2++[x])) ⟨⟨h5,by dsimp only;omega⟩,⟨h6,by dsimp only;omega⟩,by dsimp only;rw[List.length_append,List.length_singleton];omega⟩)
  refine aw (λ_=>aB ⟨ω,ω⟩ (aC (by rw[bU];omega) (bp (λ_=>put _) λ_=>af (Sx N ω ω hl _) λw hw=>bw (λ_=>put _) λ_=>br (qq N (cm hb.2.1.1 ω) ω _) (ok_eq (λ_=>dI _ δ) λhh=>af (qv N ω ω hb _) λ_ _=>ok_eq (λ_=>dI _ δ) λ_=> ?_)))) λ_=>ω
  have hA:=Js hh
  have hM:=tQ hR hA
  have hF:cN 2 0∧ju b.1 b.2.1 2 0:=B2 δ
  have am4:0≤ni b.2.1 w.1.2.2.1∧ni b.2.1 w.1.2.2.1≤24:=by
   have:=hM.1
   unfold cN at this;omega
  generalize ni b.2.1 w.1.2.2.1=h at*
  have hX': ∀y∈(L.getD (i:Int).toNat ((0:Int),(ck,aV))).2.1,SG c y∧G m jB y:=λy hy=>⟨asc y (by rw[aJ]at hy;exact hy),hx.2.1.2 y hy⟩
  generalize hX:(((L.getD (i:Int).toNat ((0:Int),(ck,aV))).1,((L.getD (i:Int).toNat ((0:Int),(ck,aV))).2.1,((L.getD (i:Int).toNat ((0:Int),(ck,aV))).2.2.1,((2:Int),(w.1.2.2.1,(w.1.2.2.2.1,())))))):ir)=X
  have hXe:X.2.1=(L.getD (i:Int).toNat ((0:Int),(ck,aV))).2.1:=by rw[←hX]
  rw[←hXe]at hX' hxl
  refine bc (len:=X.2.1.length) (F:=λn' j u=>fK.wT N (fK.l7 N n) n' L l b (ck,(c8,(bG,(bG,(dC,(dQ,())))))) u z.2.1 z.2.2 (i:Int) X w.1 h j) (s:=z.1) (λj u=>SB c b.2.1 u∧u.length≤2*m*i+2*j) ⟨h5,h8⟩ ω (λn' j u hj hu eM=> ?_) (λn' u hu=> ?_)
  all_goals unfold fK.wT fK.vx
  all_goals obtain⟨hu,Hd⟩:=hu
  ·have hy:=hX' _ (qd (d:=cD) hj)
   dsimp only
   rw[ay (x:=(j:Int)+1) ω ω,ag j,aJ]
   generalize X.2.1.getD j cD=y at*
   obtain⟨⟨⟨y0,y1⟩,y2⟩,y3⟩:=hy
   have hq:aD y.2.1:=y3.2.1
   have hn:=(T6 ⟨hq,y2⟩).1
   have hn':=hn
   unfold aD at hn'
   have e:W .i64 (0-y.2.1)=0-y.2.1:=ay hn'.1 hn'.2
   rw[e]
   have g6: ∀x:Int,nS x c.1.length→x<6:=λx h=>by unfold nS at h;omega
   exact aw (λ_=>aB ⟨ω,ω⟩ (aB ⟨ω,ω⟩ (aB ⟨ω,ω⟩ (aB ⟨ω,ω⟩ (aC (by rw[xK];omega) (eM _ ⟨SB.app hu (SB.two hn hq ω ⟨⟨δ,δ,y0,g6 _ y1⟩,.inl rfl,y1⟩ ⟨⟨am4.1,am4.2,y0,g6 _ y1⟩,.inr hA,y1⟩),by rw[aS,aR,aI];omega⟩)))))) λ_=>ω
  ·have F0:aD w.1.2.2.2.1:=hw.2.2.2.1
   refine aw (λ_=>ω) λ_=>br (cP N ω F0.1 F0.2) (af (sO N ω (oP F0) hM hF) λp ⟨hp,Ho⟩=>aC ω (aC (by rw[aI];omega) ?_))
   rw[ay (x:=(i:Int)+1) ω ω,ag i]
   exact hr (_,(_,_)) ⟨⟨hu,by dsimp only;omega⟩,⟨PB.app h6 hp,by dsimp only;rw[List.length_append];omega⟩,by dsimp only;rw[List.length_append,List.length_singleton];omega⟩
 ·have XF:2*m*L.length≤2*m*12:=lN _ ω
  exact aw (λ_=>ω) λ_=>af (sN N ω ω hb hR h5 h6 ω ω) λr hr=>bp (λh=>dI _ h) λh0=>ak λ_=>⟨(hr h0).1,by dsimp only;omega⟩
end VM
end
section
namespace VM
open Go VM.F
theorem Jt{a k:Int}: ∀{l:au},ga a k l≠0→ ∃x∈l,x.1=a∧x.2.1=k
 |[],h=>absurd rfl h
 |x::t,h=>by
  rw[gq]at h
  have up:ga a k t≠0→ ∃y∈x::t,y.1=a∧y.2.1=k:=λh=>let⟨y,hy,e⟩:=Jt h;⟨y,aZ _ hy,e⟩
  by_cases e1:x.1=a
  ·rw[aj e1]at h
   by_cases e2:x.2.1=k
   ·exact⟨x,bm ..,e1,e2⟩
   ·rw[ah e2]at h;exact up h
  ·rw[ah e1]at h;exact up h
def PT(b:an)(k n:Int):Prop:=cN k n∧ju b.1 b.2.1 k n
theorem abc{c:ae}{b:an}(hR:RB c b){k n:Int}(h:gv b.2.2.1 k n≠0):PT b k n:=by
 unfold gv at h
 rw[aj hR.r]at h
 obtain⟨x,hx,e1,e2⟩:=Jt h
 have h1:=(ot hR.r).2 x hx
 have h2:=hR.rk x hx
 rw[e1,e2]at h1 h2
 exact⟨h1,h2⟩
theorem XZ{a:aK}(hA:fB a=true){id:Int}{x:bI×Bool}(e:x=fc a id)(h:x.2=true):qf a x.1.1:=by
 subst e
 unfold fc at*
 rw[aj hA]at h ⊢
 have key: ∀l:aK,(tE id l).2=true→(tE id l).1∈l:=by
  intro l
  induction l with
  |nil=>intro h;exact nomatch h
  |cons y t ih=>
   intro h
   rw[og]at h ⊢
   by_cases e:y.1=id
   ·rw[aj e];exact bm ..
   ·rw[ah e]at h ⊢;exact aZ _ (ih h)
 exact⟨_,key a h,rfl⟩
abbrev T5(b:an)(k:Nat)(l:bK):Prop:=l.length≤k∧ ∀x∈l,PT b x.2.1 x.2.2.1
theorem T5.mono{b:an}{j k:Nat}{l:bK}(h:T5 b j l)(hk:j≤k):T5 b k l:=⟨cm h.1 hk,h.2⟩
theorem T5.nil{b:an}{k:Nat}:T5 b k []:=⟨bo _,λx hx=>nomatch hx⟩
theorem T5.app{b:an}{k:Nat}{l:bK}(h:T5 b k l){s d n x y:Int}(hx:PT b d n):T5 b (k+1) (l++[(s,(d,(n,(x,(y,())))))]):=
 ⟨by rw[aS,aI];exact Nat.succ_le_succ h.1,λz hz=>by
  rcases a8.1 hz with hz|hz
  ·exact h.2 z hz
  ·rw[bW.1 hz];exact hx⟩
theorem row_in(N:Nat)(hN:200000≤N){c:ae}{l:bK}{b:an}{m k:Nat}(hm:m≤50000)(hb:G m aL b)(hR:RB c b)(hk:k≤1000000)(hl:T5 b k l)(a d n:Int):Ok (T5 b (k+1)) (KZ N l b a d n):=by
 have h1:=hl.1
 unfold KZ
 exact br (uM N (cm hb.2.2.1.1 ω) hN _ _) (aw (λh=>aC (by rw[aI];omega) (ak (T5.app hl (abc hR ω)))) λ_=>ak (T5.mono hl ω))
theorem X0(N:Nat)(hN:5000000≤N){c:ae}{b:an}{d g:aE}{a:Int}{m:Nat}(hm:m≤50000)(hc:G m aA c)(hb:G m aL b)(hR:RB c b)(hd:L2 m d)(hg:L2 m g):Ok (λr=>T5 b 1000000 r.1∧(r.2=0→jk b.1 a)) (cI N c b a d g):=by
 have h1:=hb.1.1
 have h2:=hd.1
 have h3:=hg.1
 have h4:=hb.2.1.1
 have nil: ∀e:Int,e≠0→Ok (λr:bK×Int=>T5 b 1000000 r.1∧(r.2=0→jk b.1 a)) (some ([],e)):=λe h=>ak ⟨T5.nil,λh'=>absurd h' h⟩
 have hj:jk b.1 a→ ∀l:bK,T5 b 1 l→Ok (λr=>T5 b 1000000 r.1∧(r.2=0→jk b.1 a)) (cI.j9 N a d g c b l):=λhMa l hl=>by
  unfold cI.j9 cI.Nl
  refine af (row_in N ω hm hb hR ω hl _ _ _) λl hl=>af (row_in N ω hm hb hR ω hl _ _ _) λl hl=>iB (len:=5) (F:=λn k s=>cI.p7 N n a d g c b s k) (λk s=>T5 b (3+m*k) s) (λn k s hk hs hr=> ?_) (λn s hs=> ?_) 5 N 1 l ω ω ω (T5.mono hl ω)
  all_goals unfold cI.p7 cI.pD
  ·have hmk:m*k≤m*4:=lN m ω
   refine dZ (λ_=>af (Gd N hN c hm hb hd _ _) λt ht=> ?_) λ_=>ω
   have htl:=ht.1
   refine bc (len:=t.1.length) (F:=λn' j u=>cI.wQ N (cI.p7 N n) n' a d g c b u (k:Int) t.1 j) (λj u=>T5 b (3+m*k+j) u) hs ω (λn' j u hj hu eM=> ?_) (λn' u hu=> ?_)
   all_goals unfold cI.wQ cI.vw
   ·rw[ay (x:=(j:Int)+1) ω ω,ag j]
    exact aw (λ_=>aB ⟨ω,ω⟩ (af (row_in N ω hm hb hR ω hu _ _ _) λv hv=>eM v hv)) λ_=>ω
   ·rw[ay (x:=(k:Int)+1) ω ω,ag k]
    exact aw (λ_=>ω) λ_=>hr u (T5.mono hu (by rw[qH];omega))
  ·refine dZ (λ_=>ω) λ_=>bc (len:=b.1.length) (F:=λn j u=>cI.HT N n a g c b u j) (λj u=>T5 b (3+m*5+j) u) hs ω (λn j u hj hu hr=> ?_) (λn u hu=> ?_)
   all_goals unfold cI.HT cI.N0
   ·have Hd:=hu.1
    have hM:PT b 7 (b.1.getD (j:Int).toNat cD).1:=A2 hR δ ⟨_,qd hj,rfl⟩
    rw[ay (x:=(j:Int)+1) ω ω,ag j]
    have h0:=hr u (T5.mono hu ω)
    exact aw (λ_=>aB ⟨ω,ω⟩ (af (KX N _) λ_ _=>bw (λ_=>h0) λ_=>ok_eq (λ_=>h0) λ_=>af (bq N ω hc.2.2.1) λp hp=>af (mq N ω hm hb.2.2.1 _ _) λq hq=>af (bq N ω hq) λq hq=>af (lG N ω ω ω hp hq) λy hy=>af (w7 N hy) λv hv=>bw (λ_=>nil _ δ) λ_=>aw (λ_=>aC (by rw[aI];omega) (hr _ (T5.mono (T5.app hu hM) ω))) λ_=>h0)) λ_=>ω
   ·refine aw (λ_=>ω) λ_=>bc (len:=g.length) (F:=λn j u=>cI.Nv N n a g b u j) (λj u=>T5 b (3+m*5+m+j) u) (T5.mono hu ω) ω (λn j u hj hu hr=> ?_) (λn u hu=> ?_)
    all_goals unfold cI.Nv cI.KD
    ·have Hd:=hu.1
     rw[ay (x:=(j:Int)+1) ω ω,ag j]
     have h0:=hr u (T5.mono hu ω)
     dsimp only
     exact aw (λ_=>aB ⟨ω,ω⟩ (af (Ga N ω hm hb.2.1 _) λx ⟨hx,Zp⟩=>aB ⟨ω,ω⟩ (aB ⟨ω,ω⟩ (af (mq N ω hm hb.2.2.1 _ _) λq hq=>pe (λhf=>bp (λ_=>aw (λ_=>aC (by rw[aI];omega) (hr _ (T5.mono (T5.app hu (tQ hR (XZ hR.a Zp hf))) ω))) λ_=>h0) λ_=>h0) λ_=>h0)))) λ_=>ω
    ·exact aw (λ_=>ω) λ_=>ak ⟨T5.mono hu ω,λ_=>hMa⟩
 unfold cI cI.b
 exact br (dH N hN hm hb) (bw (λ_=>nil _ δ) λ_=>af (tN N ω ω) λ_ _=>bw (λ_=>nil _ δ) λ_=>af (BV N ω ω) λ_ _=>bw (λ_=>nil _ δ) λ_=>br (mf N (cm hb.1.1 ω) ω _) (ok_eq (λ_=>nil _ δ) λhs=>have hMa:=(uX hR.m a).1 hs;af (AW N ω hm hb.2.1 _) λh hh=>bp (λ_=>af (row_in N ω hm hb hR ω (T5.nil (k:=0)) _ _ _) λl hl=>hj hMa l hl) λ_=>hj hMa [] T5.nil))
theorem UJ(N:Nat)(hN:5000000≤N){c:ae}{b:an}{d g:aE}{a:Int}{m:Nat}(h2:200≤m)(hm:m≤40000)(hc:G m aA c)(hb:G m aL b)(hR:RB c b)(hd:L2 m d)(hg:L2 m g)(ha:aD a):Ok (λr=>r.2.2=0→RBs c b r.1) (ik N c b a d g):=by
 have dI: ∀e:Int,e≠0→Ok (λr:an×dK×Int=>r.2.2=0→RBs c b r.1) (some ((ck,(c8,(bG,(bG,(dC,(dQ,())))))),(R0,e))):=λe h=>ak λh'=>absurd h' h
 unfold ik ik.b
 refine af (Ok.and (X0 N hN ω hc hb hR hd hg) (N3 N hN ω hc hb hd hg ha)) λl ⟨⟨⟨_,Qh⟩,hMa⟩,hl2⟩=>ok_eq (λh=>dI _ ω) λ_=>ok_eq (λh=>dI _ ω) λ_=>af (Jh N hN c ω hb) λq hq=>bp (λh=>dI _ h) λ_=>bp (λh=>dI _ h) λh0=>af (Ji N hN (Q:=λx=>G 64 sX x∧PT b x.2.1 x.2.2.1) (λx hx=>hx.1.2.2.2.1) (λx v hx hv=>⟨G5q hx.1 hv,hx.2⟩) (λx hx=>⟨G.mono (m:=0) (bo _) (hl2.2 x hx),Qh x hx⟩) hq) λz ⟨⟨hzl,Cr⟩,Hb⟩=>bp (λh=>dI _ h) λ_=> ?_
 have hMa:=hMa h0
 have hF:cN 2 0∧ju b.1 b.2.1 2 0:=B2 δ
 have hj: ∀(p:bE) (r:dK) (t:bK) (x k n:Int),PB b.1 b.2.1 p→p.length≤1000→PT b k n→aD x→Ok (λr=>r.2.2=0→RBs c b r.1) (ik.j26 N b (ck,(c8,(bG,(bG,(dC,(dQ,())))))) R0 p r t x k n):=λp r t x k n hp Ho hk hx=>by
  unfold ik.j26 ik.aaX
  exact br (cP N ω hx.1 hx.2) (af (sO N ω (oP hx) hF hk) λu ⟨hu,Hd⟩=>aC ω (af (sN N ω ω hb hR SB.nil (PB.app hp hu) (bo _) (by rw[aS];omega)) λw hw=>bp (λh=>dI _ h) λh0=>ak λ_=>hw h0))
 refine bc (len:=z.1.length) (F:=λn i (s:bE×dK×bK)=>ik.IJ N n a c b (ck,(c8,(bG,(bG,(dC,(dQ,())))))) R0 z.1 z.2.1 s.1 s.2.1 s.2.2 i) (s:=(_,(_,_))) (λi s=>(PB b.1 b.2.1 s.1∧s.1.length≤2*i)∧s.2.2.length≤i) ⟨⟨PB.nil,bo _⟩,bo _⟩ ω (λn i s hi hI hr=> ?_) (λn s hI=> ?_)
 all_goals unfold ik.IJ ik.HJ
 all_goals obtain⟨⟨h4,hp⟩,ht⟩:=hI
 ·obtain⟨hx,hk⟩:=Cr _ (qd (d:=mI) hi)
  have hx:aD (z.1.getD i mI).2.2.2.2.1:=hx.2.2.2.2.1
  rw[ay (x:=(i:Int)+1) ω ω,ag i,aJ]
  exact aw (λ_=>aB ⟨ω,ω⟩ (aw (λ_=>aB ⟨ω,ω⟩ (aC (by rw[List.length_singleton];omega) (aB ⟨ω,ω⟩ (aB ⟨ω,ω⟩ (aB ⟨ω,ω⟩ (br (cP N ω hx.1 hx.2) (af (sO N ω (oP hx) hk hF) λu ⟨hu,Hd⟩=>aC ω (hr (_,(_,_)) ⟨⟨PB.app h4 hu,by dsimp only;rw[List.length_append];omega⟩,by dsimp only;rw[List.length_append,List.length_singleton];omega⟩)))))))) λ_=>hr s ⟨⟨h4,ω⟩,ω⟩)) λ_=>ω
 ·dsimp only
  have hS:cN 4 0∧ju b.1 b.2.1 4 0:=B2 δ
  exact aw (λ_=>ω) λ_=>br (cP N ω Hb.1 Hb.2) (af (sO N ω (oP Hb) hS hF) λu ⟨hu,Hd⟩=>aC ω (af (Ge N hN c ω hb) λx hx=>br (qq N (cm hb.2.1.1 ω) ω _) (bp (λhh=>hj _ _ _ _ _ _ (PB.app h4 hu) (by rw[aS];omega) (tQ hR (Js hh)) hx) λ_=>hj _ _ _ _ _ _ (PB.app h4 hu) (by rw[aS];omega) (A2 hR δ hMa) hx)))
end VM
end
section
namespace VM
open Go VM.F
theorem am5{q x:Int}(h0:0≤x)(h1:x<9223372036854775808):aD (sg q x)∧p4 (sg q x):=by
 unfold sg aD p4;split<;>omega
theorem X1{t left:Int}{w out:List Int}(f:Full t w w out left)(i:Nat)(hi:i<w.length):0≤out.getD i 0∧out.getD i 0<9223372036854775808:=by
 have c:=f.c
 have h1:=c.le i hi
 have h2:=(c.pc i).2
 have h3:=c.po i
 omega
theorem UK(N:Nat){a q:Int}{accs out:List Int}(hl:accs.length=out.length)(hle:out.length≤1000)(ho: ∀i,i<out.length→0≤out.getD i 0∧out.getD i 0<9223372036854775808)(s:au)(hs:s.length≤1000)(hN:200000≤N):
  fD.Uz N N a q accs out s 0=some (s++zc a q (out.zip accs),0):=by
 have hz:(out.zip accs).length=out.length:=by rw[vP];omega
 have:=oe (out.zip accs) (0,0) (λn i s=>fD.Uz N n a q accs out s i) (λt s=>some (s++zc a q t,(0:Int))) (λi (s:au)=>s.length≤1000+i) (λn i s hi hI hr=> ?_) (λn s hI=> ?_) out.length N 0 s ω ω ω ω
 ·exact this
 ·unfold fD.Uz fD.XE
  have m4:i<out.length:=ω
  have h2:=ho i m4
  rw[aT ω,aq,a6 ω ω,aq,aJ,a6 ω ω,aq,ay (x:=(i:Int)+1) ω ω,ag i,ay (x:=0-out.getD i 0) ω ω,Xg m4 ω,D4]
  dsimp only
  rw[aq,bL (by rw[aI];omega),aq,bL (by rw[aI];omega),aq]
  have e:sg q (out.getD i 0)=if q<0 then 0-out.getD i 0 else out.getD i 0:=rfl
  rw[cQ,cond_not,cond_not,aN,aN]
  have fin:(if sg q (out.getD i 0)=0 then fD.Uz N n a q accs out s ((i+1:Nat):Int)else fD.Uz N n a q accs out (s++[(accs.getD i 0,(a,(sg q (out.getD i 0),())))]) ((i+1:Nat):Int))=some (s++(if sg q (out.getD i 0)=0 then zc a q ((out.zip accs).drop (i+1))else(accs.getD i 0,(a,(sg q (out.getD i 0),())))::zc a q ((out.zip accs).drop (i+1))),(0:Int)):=by
   by_cases h:sg q (out.getD i 0)=0
   ·rw[aj h,aj h];exact hr s ω
   ·rw[ah h,ah h,hr _ (by rw[aS,aI];omega),bt];rfl
  refine Eq.trans ?_ fin
  by_cases h:q<0
  ·rw[aj h,e,aj h]
  ·rw[ah h,e,ah h]
 ·unfold fD.Uz fD.XE
  rw[hz,aP ω,av]
  show _=some (s++[],(0:Int))
  rw[ch]
theorem SH{l:au}(h: ∀x∈l,aD (dY x)∧p4 (dY x))(a b:Int):aD (dk l a b)∧p4 (dk l a b):=by
 have key: ∀l:au,(∀x∈l,aD (dY x)∧p4 (dY x))→aD (ga a b l)∧p4 (ga a b l):=by
  intro l
  induction l with
  |nil=>intro _;show aD 0∧p4 0;decide
  |cons x t ih=>
   intro h
   have ih:=ih (λy hy=>h y (aZ _ hy))
   rw[gq]
   split
   ·split
    ·exact h x (bm ..)
    ·exact ih
   ·exact ih
 unfold dk
 split
 ·exact key l h
 ·decide
theorem K8(l:au):(yz l).length=l.length:=ct ..
theorem A3(l:au):(jg l).length=l.length:=ct ..
theorem Ju{q:Int}(h:aD q∧p4 q):(q.natAbs:Int)<9223372036854775808:=by unfold aD p4 at h;omega
theorem K9{l:au}(hk:cB l=true)(hq:dS l): ∀x∈l,aD (dY x)∧p4 (dY x):=λx hx=>⟨hq x hx,((dn hk).2 x hx).2⟩
theorem Jv{l:au}(hk:cB l=true)(hq:dS l){a q:Int}(nR:aD q∧p4 q)(hc:(jM l a q).2.2=0):
  Full (q.natAbs:Int) (jg (fP a q l)) (jg (fP a q l)) (jM l a q).1 (jM l a q).2.1∧(jM l a q).1.length=(fP a q l).length∧(jM l a q).1.length≤64∧ ∀i,i<(jM l a q).1.length→0≤(jM l a q).1.getD i 0∧(jM l a q).1.getD i 0<9223372036854775808:=by
 have f:Full (q.natAbs:Int) (jg (fP a q l)) (jg (fP a q l)) (jM l a q).1 (jM l a q).2.1:=F7 (Ju nR) (BQ (K9 hk hq) a q) hc
 have h1:=f.c.l2
 have h2:=f.c.n
 rw[A3]at h1 h2
 exact⟨f,h1,ω,λi hi=>X1 f i (by rw[A3];omega)⟩
theorem X2{l:au}(h:cB l=true): ∀x∈l,dY x≠0:=λx hx=>by
 unfold cB at h
 rw[fX]at h
 obtain⟨i,hi,e⟩:=gj hx
 have:=bz h i hi
 unfold lD me at this
 rw[aU,bk hi]at this
 simp only[mW,e]at this
 exact this.2.1
theorem X3{x:Int}(h:aD x∧p4 x):mx x (W .i64 (0-x))=(x.natAbs:Int):=by
 unfold aD p4 at h
 rw[ay ω ω,Vo];split<;>omega
theorem Of{x q:Int}(hx:x≠0)(hq:q≠0):HM x q↔ ¬((0<x)↔(0<q)):=by
 unfold HM;omega
theorem X5(N:Nat)(hN:5000000≤N)(c:ae){b:an}(w:gN b)(a:Int):fD N c b a=some (uU c b a):=by
 unfold fD fD.b uU
 rw[Au N ω w,ar,sE N w.s ω,ar,cond_not,cQ,cG,aN]
 by_cases hB:dy c b=false
 ·rw[hB];rfl
 rw[Es]at hB
 rw[hB,aq,aj rfl]
 obtain⟨_,hk⟩:=dt hB
 have hq:=K9 hk w.qs
 have hnz:=X2 hk
 have hh:=SH hq 0 a
 have hlen:=w.s
 have hqs:=w.qs
 generalize dk b.2.2.2.1 0 a=q at*
 by_cases h1:a<0
 ·rw[aj h1,aj h1]
 rw[ah h1,ah h1]
 by_cases h2:(c.1.length:Int)≤a
 ·rw[aj h2,aj h2]
 rw[ah h2,ah h2]
 by_cases h3:q=0
 ·rw[aj h3,aj h3]
 rw[ah h3,ah h3]
 have nN:=hh.1
 unfold aD at nN
 have hqn:q≠ -9223372036854775808:=hh.2
 have:=oe b.2.2.2.1 bl (λn i (z:au)=>fD.BS N n a b q (yz z) (jg z) i)
  (λt z=>some (if(jM b.2.2.2.1 a q).2.2=0 then(aaz b.2.2.2.1 a q,0)else([],(jM b.2.2.2.1 a q).2.2))) (λi z=>z++fP a q (b.2.2.2.1.drop i)=fP a q b.2.2.2.1∧z.length≤i)
  (λn i z hi hI hr=> ?_) (λn z hI=> ?_) b.2.2.2.1.length N 0 [] ω ω ω ⟨rfl,aG _⟩
 ·exact this
 ·unfold fD.BS fD.y7
  obtain⟨i1,i2⟩:=hI
  have hm:b.2.2.2.1.getD i bl∈b.2.2.2.1:=by
   rw[aU,bk hi];exact dB hi
  have hx:=hq _ hm
  have hn:=hnz _ hm
  rw[drop_cons hi bl,rp]at i1
  rw[aT ω,aq,a6 ω ω,aq,aJ,ay (x:=(i:Int)+1) ω ω,ag i]
  generalize b.2.2.2.1.getD i bl=x at*
  have LB:mx x.2.2.1 (W .i64 (0-x.2.2.1))=(x.2.2.1.natAbs:Int):=X3 hx
  rw[bL (by rw[K8,aI];omega),aq,LB]
  dsimp only
  rw[bL (by rw[A3,aI];omega),aq,cond_not,aN,aN,cond_not,o0,tZ,tZ]
  by_cases e1:x.1=0
  ·rw[aj e1]
   rw[ah (λh=>h.1 e1)]at i1
   exact hr z ⟨i1,ω⟩
  ·rw[ah e1]
   by_cases e2:x.2.1=a
   ·rw[aj e2]
    by_cases e3:HM (dY x) q
    ·have eb:(decide (0<x.2.2.1)==decide (0<q))=false:=by
      have e3:=(Of hn h3).1 e3
      unfold dY at e3
      by_cases g1:0<x.2.2.1<;>by_cases g2:0<q
      ·exact absurd ⟨λ_=>g2,λ_=>g1⟩ e3
      ·rw[bu g1,cj g2];rfl
      ·rw[cj g1,bu g2];rfl
      ·exact absurd ⟨λh=>absurd h g1,λh=>absurd h g2⟩ e3
     rw[eb,av]
     rw[aj ⟨e1,e2,e3⟩]at i1
     have:=hr (z++[x]) ⟨by rw[bt];exact i1,by rw[aS,aI];omega⟩
     unfold yz jg at this
     rw[cY,cY]at this
     exact this
    ·have eb:(decide (0<x.2.2.1)==decide (0<q))=true:=by
      have e3:=Er.1 (λh=>e3 ((Of hn h3).2 h))
      unfold dY at e3
      rw[show decide (0<x.2.2.1)=decide (0<q)from oQ.2 e3]
      exact s8 _
     rw[eb,aq]
     rw[ah (λh=>e3 h.2.2)]at i1
     exact hr z ⟨i1,ω⟩
   ·rw[ah e2]
    rw[ah (λh=>e2 h.2.1)]at i1
    exact hr z ⟨i1,ω⟩
 ·unfold fD.BS fD.y7
  obtain⟨i1,i2⟩:=hI
  rw[mU]at i1
  have ez:z=fP a q b.2.2.2.1:=by rw[←i1];exact(ch _).symm
  subst ez
  have s0:=A3 (fP a q b.2.2.2.1)
  have Ho:=I9 a q b.2.2.2.1
  rw[aP ω,av,X3 hh,F6 N hN (Ju hh) (BQ hq a q) (BQ hq a q) (by rw[s0];omega),ar,cond_not,aN,ay (x:=0-q) ω ω]
  show(if(jM b.2.2.2.1 a q).2.2=0 then _ else _)=_
  by_cases h4:(jM b.2.2.2.1 a q).2.2=0
  ·rw[aj h4,aj h4]
   obtain⟨f,g1,g2,g3⟩:=Jv hk hqs hh h4
   exact UK N (by rw[K8];omega) ω g3 _ (by simp) ω
  ·rw[ah h4,ah h4];rfl
end VM
end
section
namespace VM
open Go VM.F Go.RowKit
structure yB(s:au)(n:Nat):Prop where
 place: ∀x∈s,bB x.1 x.2.1
 q: ∀x∈s,aD (dY x)∧p4 (dY x)
 len:s.length≤n
 flat: ∀i:Int,(c5 i s).sum=0
theorem yB.nil(n:Nat):yB [] n:=⟨λx hx=>(nomatch hx),λx hx=>(nomatch hx),bo _,λi=>rfl⟩
theorem yB.app{s t:au}{n m k:Nat}(a:yB s n)(b:yB t m)(h:n+m≤k):yB (s++t) k:=
 ⟨λx hx=>(a8.1 hx).elim (a.place x) (b.place x),λx hx=>(a8.1 hx).elim (a.q x) (b.q x),by rw[aS];have:=a.len;have:=b.len;omega,λi=>by rw[yw,lQ,a.flat,b.flat];rfl⟩
theorem Q3(a q i:Int): ∀t:List (Int×Int),(c5 i (zc a q t)).sum=if a=i then sg q (t.map (·.1)).sum else 0
 |[]=>by
  show(0:Int)=if a=i then sg q 0 else 0
  unfold sg;split<;>(try split)<;>rfl
 |p::t=>by
  have ih:=Q3 a q i t
  have hs:sg q ((p::t).map (·.1)).sum=sg q p.1+sg q (t.map (·.1)).sum:=by
   rw[bX,cw];unfold sg;split<;>omega
  rw[D4,hs]
  by_cases h:sg q p.1=0
  ·rw[aj h,ih,h];split<;>omega
  ·rw[ah h,df]
   dsimp only
   by_cases e:a=i
   ·rw[aj e,aj e,cw,ih,aj e];rfl
   ·rw[ah e,ah e,ih,ah e]
theorem La{a q:Int}{x:da}: ∀{t:List (Int×Int)},x∈zc a q t→ ∃p∈t,x=(p.2,(a,(sg q p.1,())))
 |[],h=>nomatch h
 |p::t,h=>by
  rw[D4]at h
  split at h
  ·obtain⟨p',hp,e⟩:=La h
   exact⟨p',aZ _ hp,e⟩
  ·rcases aW.1 h with e|h
   ·exact⟨p,bm ..,e⟩
   ·obtain⟨p',hp,e⟩:=La h
    exact⟨p',aZ _ hp,e⟩
theorem X6(a q:Int): ∀t:List (Int×Int),(zc a q t).length≤t.length
 |[]=>aG _
 |p::t=>by
  have:=X6 a q t
  rw[D4,aR]
  split
  ·omega
  ·rw[aR];omega
theorem Og{c:ae}{b:an}(h:dy c b=true):oi b.2.2.2.1=true∧fM c=true:=by
 unfold dy at h
 have h0:=cO.1 h
 have h1:=(cO.1 h0.2).2
 have h2:=cO.1 h1
 exact⟨(cO.1 (cO.1 h2.2).2).1,h0.1⟩
theorem X7{c:ae}{b:an}(hB:dy c b=true)(w:gN b){a:Int}(h:(uU c b a).2=0):yB (uU c b a).1 65:=by
 obtain⟨_,hk⟩:=dt hB
 obtain⟨hf,Ho⟩:=Og hB
 have hq:=K9 hk w.qs
 have hh:=SH hq 0 a
 obtain⟨hs,G0⟩:=dn hk
 unfold uU at h ⊢
 rw[aj hB]at h ⊢
 by_cases h1:a<0
 ·rw[aj h1];exact yB.nil _
 rw[ah h1]at h ⊢
 by_cases h2:(c.1.length:Int)≤a
 ·rw[aj h2];exact yB.nil _
 rw[ah h2]at h ⊢
 by_cases h3:dk b.2.2.2.1 0 a=0
 ·rw[aj h3];exact yB.nil _
 rw[ah h3]at h ⊢
 by_cases h4:(jM b.2.2.2.1 a (dk b.2.2.2.1 0 a)).2.2=0
 ·rw[aj h4]
  have aie:ga 0 a b.2.2.2.1=dk b.2.2.2.1 0 a:=by unfold dk;rw[hk];rfl
  have hn6:a<6:=by
   unfold fM at Ho
   have:=(bz (cO.1 Ho).1).2
   omega
  have hz:(c5 a b.2.2.2.1).sum=0:=by
   unfold oi at hf
   have RY:=bz (cO.1 hf).1 a.toNat (by unfold kj;omega)
   unfold sU dx sB at RY
   rw[hk,aj rfl,show((a.toNat:Nat):Int)=a by omega]at RY
   exact RY
  generalize dk b.2.2.2.1 0 a=q at*
  obtain⟨f,g1,g2,g3⟩:=Jv hk w.qs hh h4
  have am6:=Xf f (QL hs hz aie h3)
  have HI:=f.c.s
  rw[am6,fY]at HI
  have hzl:((jM b.2.2.2.1 a q).1.zip (yz (fP a q b.2.2.2.1))).map (·.1)=(jM b.2.2.2.1 a q).1:=List.map_fst_zip (by rw[K8];omega)
  have hsg:sg q (q.natAbs:Int)=q:=by unfold sg;split<;>omega
  have hzz: ∀x∈zc a q ((jM b.2.2.2.1 a q).1.zip (yz (fP a q b.2.2.2.1))),bB x.1 x.2.1∧aD (dY x)∧p4 (dY x):=λx hx=>by
   obtain⟨p,hp,rfl⟩:=La hx
   obtain⟨i,hi,e⟩:=gj hp
   rw[vP]at hi
   have e':=Xg (out:=(jM b.2.2.2.1 a q).1) (accs:=yz (fP a q b.2.2.2.1)) (i:=i) ω ω
   rw[aU,bk (by rw[vP];omega)]at e'
   have ep:p=_:=e.symm.trans e'
   have hr:=g3 i ω
   rw[ep]
   refine⟨?_,am5 hr.1 hr.2⟩
   have hm:(yz (fP a q b.2.2.2.1)).getD i 0∈yz (fP a q b.2.2.2.1):=by
    rw[aU,bk ω];exact dB _
   obtain⟨y,hy,ey⟩:=cA.1 hm
   have RI:=tK hy
   have hpy:=(G0 y RI.1).1
   have g: ∀u v z:Int,bB u v→v=a→u=z→bB z a:=λu v z h e1 e2=>by rw[←e1,←e2];exact h
   exact g _ _ _ hpy RI.2.2 ey
  refine⟨λx hx=> ?_,λx hx=> ?_,?_,λi=> ?_⟩
  ·rcases aW.1 hx with e|hx
   ·rw[e];show bB 0 a;unfold bB;omega
   ·exact(hzz x hx).1
  ·rcases aW.1 hx with e|hx
   ·rw[e];exact T6 hh
   ·exact(hzz x hx).2
  ·unfold aaz
   rw[aR]
   have:=X6 a q ((jM b.2.2.2.1 a q).1.zip (yz (fP a q b.2.2.2.1)))
   rw[vP]at this
   omega
  ·unfold aaz
   rw[df]
   dsimp only
   by_cases e:a=i
   ·rw[aj e,cw,Q3,aj e,hzl,HI,hsg]
    show 0-q+q=0
    omega
   ·rw[ah e,Q3,ah e]
 ·rw[ah h4]at h
  exact absurd h h4
namespace Pure
end Pure
end VM
end
section
namespace VM
open Go VM.F
theorem abd{c:ae}{b:an}(hR:RB c b)(w:gN b){a:Int}(ha:0≤a∧nS a c.1.length)(h:(uU c b a).2=0):SB c b.2.1 (uU c b a).1∧(uU c b a).1.length≤65:=by
 have I:=X7 (ky.2 hR) w h
 refine⟨⟨λx hx=>(I.q x hx).1,λx hx=>⟨I.place x hx,?_⟩,I.flat⟩,I.len⟩
 have pos: ∀y∈b.2.2.2.1,dx y.1 0∨qf b.2.1 y.1:=λy hy=>(hR.sk y hy).1
 unfold uU at hx h
 rw[aj (ky.2 hR)]at hx h
 by_cases h1:a<0
 ·exact absurd ha.1 ω
 by_cases h2:(c.1.length:Int)≤a
 ·have:=ha.2;unfold nS at this;omega
 rw[ah h1,ah h2]at hx h
 by_cases h3:dk b.2.2.2.1 0 a=0
 ·rw[aj h3]at hx;exact nomatch hx
 rw[ah h3]at hx h
 generalize dk b.2.2.2.1 0 a=q at*
 by_cases h4:(jM b.2.2.2.1 a q).2.2=0
 ·rw[aj h4]at hx
  rcases aW.1 hx with rfl|hx
  ·exact⟨.inl rfl,ha.2⟩
  ·obtain⟨p,hp,rfl⟩:=La hx
   obtain⟨y,hy,e⟩:=cA.1 (List.of_mem_zip hp).2
   refine⟨?_,ha.2⟩
   dsimp only
   rw[←e]
   exact pos y (tK hy).1
 ·rw[ah h4]at hx;exact nomatch hx
theorem abe(N:Nat)(hN:5000000≤N){c:ae}{b:an}{m:Nat}(hm:m≤7000)(hb:G m aL b)(hR:RB c b):Ok (Jo c b) (nI N c b):=by
 have w:=(G.wf ω hb).w
 have hci:c.1.length≤6:=by
  have:=hR.c
  unfold fM at this
  exact(bz (cO.1 this).1).2
 unfold nI nI.b
 refine br (dH N hN ω hb) (bw (λ_=>Jo.bad δ) λ_=>bc (len:=c.1.length) (F:=λn i s=>nI.l5 N n c b (ck,(c8,(bG,(bG,(dC,(dQ,())))))) s i) (λi s=>SB c b.2.1 s∧s.length≤65*i) ⟨SB.nil,bo _⟩ ω (λn i s hi hI hr=> ?_) (λn s hI=> ?_))
 all_goals unfold nI.l5 nI.ed
 all_goals obtain⟨i1,i2⟩:=hI
 ·rw[ay (x:=(i:Int)+1) ω ω,ag i]
  exact aw (λ_=>br (X5 N hN c w _) (bp (λh=>Jo.bad h) λh=>have J:=abd hR w ⟨ω,show(i:Int)<c.1.length by omega⟩ h;aC ω (hr _ ⟨SB.app i1 J.1,by rw[aS];omega⟩))) λ_=>ω
 ·exact aw (λ_=>ω) λ_=>af (sN N ω ω hb hR i1 PB.nil ω (bo _)) λr hr=>ak hr
end VM
end
section
namespace VM
open Go VM.F
def nT(c:ae)(m:Nat)(s:aQ):Prop:=RB c s.2.2.1∧(1≤s.2.1∧s.2.1≤2000*(m:Int))∧(s.2.2.2.1.2.2.2.2.1.length≤4∧ ∀x∈s.2.2.2.1.2.2.2.2.1,HQ c x)∧s.2.2.2.1.2.2.2.2.2.1.length≤12
abbrev SI(c:ae)(m:Nat)(r:aQ×da):Prop:=r.2.1=0→nT c m r.1
theorem nT.up{c:ae}{m:Nat}{s:aQ}(h:nT c m s):nT c (m+1) s:=⟨h.1,⟨h.2.1.1,fi h.2.1.2 ω⟩,h.2.2⟩
theorem nT.add{n k:Int}{m:Nat}(h:1≤n∧n≤2000*(m:Int))(hm:m≤999)(hk:0≤k∧k≤2000):1≤W .i64 (n+k)∧W .i64 (n+k)≤2000*((m+1:Nat):Int):=by
 rw[ay ω ω];omega
theorem SJ{c:ae}:([]:aK).length≤4∧ ∀x∈([]:aK),HQ c x:=⟨bo _,λx hx=>nomatch hx⟩
theorem g7{c:ae}{m N:Nat}{e:Int}{x:aQ}(h:e=0→nT c m x):Ok (SI c m) ((fy N e).bind λr=>some (x,r)):=by
 unfold fy;exact ak h
theorem dL{c:ae}{m N:Nat}{e:Int}{x:aQ}(h:e≠0):Ok (SI c m) ((fy N e).bind λr=>some (x,r)):=g7 λh'=>absurd h' h
theorem X8(N:Nat)(hN:200000≤N){s:aQ}(hl:s.2.2.1.2.1.length≤100000)(k:Int):QU N s k=some (fc s.2.2.1.2.1 k).2:=by
 unfold QU;rw[wO N hl hN];rfl
theorem UL(N:Nat)(hN:200000≤N){s:aQ}(hl:s.2.2.1.1.length≤100000)(k:Int):Gf N s k=some (eI s.2.2.1.1 k):=by
 unfold Gf;rw[mf N hl hN];rfl
theorem Lb(N:Nat)(hN:4000000≤N){c:ae}{s:aQ}{m:Nat}(hm:m≤50000)(hs:GS m s)(hR:nT c m s){a b d e q:Int}(hq:aD q)(h1:cN a b∧ju s.2.2.1.1 s.2.2.1.2.1 a b)(h2:cN d e∧ju s.2.2.1.1 s.2.2.1.2.1 d e):Ok (SI c (m+1)) (N7 N s a b d e q):=by
 unfold N7
 exact br (cP N ω hq.1 hq.2) (af (sO N hN (oP hq) h1 h2) λp ⟨hp,Ho⟩=>af (sN N hN hm hs.2.2.1 hR.1 SB.nil hp (bo _) ω) λr hr=>ak λh=>⟨(hr h).1,hR.up.2⟩)
theorem UM(N:Nat)(hN:5000000≤N){c:ae}{s:aQ}{e:gO}{m:Nat}(h2:200≤m)(hm:m≤999)(hc:G m aA c)(hs:GS m s)(hR:nT c m s)(he:G 0 kX e):Ok (SI c (m+1)) (nJ N c s e):=by
 have hhl:=hs.2.2.2.1.2.2.2.2.1.1
 unfold nJ nJ.b
 generalize ((0:Int),((0:Int),_))=S0
 refine bc (len:=s.2.2.2.1.2.2.2.2.1.length) (F:=λn i (z:aQ×aK×Bool×Int)=>nJ.l5 N n c z.1 e S0 bl z.2.1 z.2.2.1 z.2.2.2 i) (s:=(_,(_,(_,_)))) (λi z=>(GS m z.1∧nT c m z.1)∧z.1.2.2.2.1.2.2.2.2.1=s.2.2.2.1.2.2.2.2.1∧(G i (.slice eB) z.2.1∧ ∀x∈z.2.1,HQ c x)) ⟨⟨hs,hR⟩,rfl,G.nil,λx hx=>nomatch hx⟩ ω (λn i z hi hI hr=> ?_) (λn z hI=> ?_)
 all_goals unfold nJ.l5 nJ.ed
 ·obtain⟨⟨hz,hzR⟩,hh,ho,hog⟩:=hI
  have Il:=ho.1
  rw[hh,ay (x:=(i:Int)+1) ω ω,ag i]
  have hx:G 0 eB (s.2.2.2.1.2.2.2.2.1.getD (i:Int).toNat aV):=G.at hs.2.2.2.1.2.2.2.2.1 _
  have hxg:HQ c (s.2.2.2.1.2.2.2.2.1.getD (i:Int).toNat aV):=hR.2.2.1.2 _ (qd hi)
  have snoc: ∀x:bI,HQ c x→ ∀y∈z.2.1++[x],HQ c y:=λx hx y hy=>(a8.1 hy).elim (hog y) λhy=>by rw[bW.1 hy];exact hx
  have hxm:G m eB (s.2.2.2.1.2.2.2.2.1.getD (i:Int).toNat aV):=G.mono (bo m) hx
  refine aw (λ_=>aB ⟨ω,ω⟩ (ok_eq (λ_=>af (Ok.and (Sp N hN h2 ω hc hz.2.2.1 hxm he.2.2.1 he.2.2.2.2.2.2.1 he.2.2.2.2.2.2.2.1) (aa7 N hN h2 ω hc hz.2.2.1 hzR.1 hxm he.2.2.1 he.2.2.2.2.2.2.1 he.2.2.2.2.2.2.2.1)) λr ⟨⟨yQ,yH⟩,Ss⟩=>bp (λh=>dL h) λh0=> ?_) λ_=>aw (λ_=>aC (by rw[aI];omega) (hr (z.1,(z.2.1++[s.2.2.2.1.2.2.2.2.1.getD (i:Int).toNat aV],z.2.2)) ⟨⟨hz,hzR⟩,hh,G.cat ho (G.one hx (aG 1)),snoc _ hxg⟩)) λ_=>hr z ⟨⟨hz,hzR⟩,hh,G.mono ω ho,hog⟩)) λ_=>ω
  have Bc:GS m (z.1.1,(z.1.2.1,(r.1,z.1.2.2.2))):=⟨hz.1,hz.2.1,yQ,hz.2.2.2⟩
  have am8:nT c m (z.1.1,(z.1.2.1,(r.1,z.1.2.2.2))):=⟨(Ss h0).1,hzR.2⟩
  have aib:G 0 eB r.2.1:=yH
  exact aw (λhq=>aC (by rw[aI];omega) (hr ((z.1.1,(z.1.2.1,(r.1,z.1.2.2.2))),(z.2.1++[r.2.1],(true,r.2.1.2.2.2.1))) ⟨⟨Bc,am8⟩,hh,G.cat ho (G.one aib (aG 1)),snoc _ ⟨by rw[(Ss h0).2.1];exact hxg.1,hq,(Ss h0).2.2⟩⟩)) λ_=>hr ((z.1.1,(z.1.2.1,(r.1,z.1.2.2.2))),(z.2.1,(true,r.2.1.2.2.2.1))) ⟨⟨Bc,am8⟩,hh,G.mono ω ho,hog⟩
 ·obtain⟨⟨hz,hzR⟩,hh,ho,hog⟩:=hI
  rw[hh]
  exact aw (λ_=>ω) λ_=>bw (λ_=>dL δ) λ_=>ak λ_=>⟨hzR.1,hzR.up.2.1,⟨cm ho.1 hR.2.2.1.1,hog⟩,hzR.2.2.2⟩
theorem X9(N:Nat)(hN:5000000≤N){c:ae}{s:aQ}{e:gO}{m:Nat}(h2:200≤m)(hm:m≤999)(hc:G 5 aA c)(hs:GS m s)(hR:nT c m s)(he:G 0 kX e):Ok (SI c (m+1)) (nK N c s e):=by
 have DT:G m aA c:=G.mono ω hc
 have hk:=hs.2.2.2.1
 have hb:=hs.2.2.1
 have up:=hR.up.2
 unfold nK nK.b
 refine ok_eq (λ_=> ?_) λ_=>ok_eq (λ_=> ?_) λ_=>ok_eq (λ_=> ?_) λ_=>ok_eq (λ_=> ?_) λ_=>ok_eq (λ_=> ?_) λ_=>ok_eq (λ_=> ?_) λ_=>ok_eq (λ_=> ?_) λ_=>ok_eq (λ_=> ?_) λ_=>g7 λ_=>hR.up
 ·exact af (abb N hN ω DT hb hR.1 _ _ _) λr hr=>g7 λh=>⟨hr h,up⟩
 ·exact af (SF N hN h2 ω DT hb hR.1 _) λr hr=>g7 λh=>⟨(hr h).1,up⟩
 ·exact af (Jb N hN c hc.2.2.2.2.2.2.1 ω hb _) λr hr=>ak λ_=>⟨hR.1,nT.add hR.2.1 hm (by have:=hr.1.1;omega),⟨hr.1.1,hr.2⟩,hR.2.2.2⟩
 ·exact af (UM N hN h2 ω DT hs hR he) λr hr=>ak hr
 ·exact ok_eq (λ_=>dL δ) λ_=>af (Sr N hN h2 ω DT hb hs.2.1) λl ⟨hl,asd⟩=>bp (λh=>dL h) λ_=>af (tO N ω hs.1 hc.2.2.2.2.1) λt ht=>bw (λ_=>dL δ) λ_=>af (Sq N hN c ω hb) λu hu=>ak λ_=>⟨hR.1,nT.add hR.2.1 hm ω,SJ,asd⟩
 ·have hx:G 0 eB (s.2.1,(e.2.2.2.2.2.1,(e.2.1,(e.2.2.2.2.2.2.2.1,())))):=⟨hs.2.1,he.2.2.2.2.2.1,he.2.1,he.2.2.2.2.2.2.2.1,trivial⟩
  exact af (Jg N hN ω ω DT hb hk.2.2.2.2.2.1 hk.2.2.2.2.2.2.1 hx) λr hr=>ak λ_=>⟨hR.1,nT.add hR.2.1 hm δ,hR.2.2⟩
 ·refine af (Ok.and (N4 N hN c h2 ω hb hk.2.2.2.2.2.1 hk.2.2.2.2.2.2.1) (XY N hN h2 ω hb hR.1 hk.2.2.2.2.2.1 hk.2.2.2.2.2.2.1)) λr ⟨⟨yQ,yH⟩,Ss⟩=>bp (λh=>dL h) λh0=>af (N2 N ω c h2 ω hk.2.2.2.2.2.2.2.2.1 hk.2.2.2.2.2.2.2.1.1 yH hk.2.2.2.2.2.2.1) λd hd=> ?_
  generalize ((0:Int),((0:Int),_))=S0
  have H9:=yH.1
  refine bc (len:=r.2.1.length) (F:=λn i q=>nK.l41 N n _ S0 bl r.2.1 q i) (λ_ _=>True) trivial ω (λn i q hi _ eM=> ?_) (λn q _=> ?_)
  all_goals unfold nK.l41 nK.aaZ
  ·rw[ay (x:=(i:Int)+1) ω ω,ag i]
   exact aw (λ_=>aB ⟨ω,ω⟩ (ok_eq (λ_=>eM _ trivial) λ_=>eM _ trivial)) λ_=>ω
  ·exact aw (λ_=>ω) λ_=>ak λ_=>⟨(Ss h0).1,up.1,hR.2.2.1,(Ss h0).2⟩
 ·exact af (Ok.and (Jj N hN h2 ω DT hb hk.2.2.2.2.2.2.2.2.1 hk.2.2.2.2.2.2.2.2.2.1 hk.1) (UJ N hN h2 ω DT hb hR.1 hk.2.2.2.2.2.2.2.2.1 hk.2.2.2.2.2.2.2.2.2.1 hk.1)) λr ⟨⟨yQ,yH⟩,Ss⟩=>bp (λh=>dL h) λh0=>af (Ok.and (Sw N hN h2 ω hc yQ) (abe N hN ω yQ (Ss h0).1)) λb ⟨hb,tU⟩=>bp (λh=>dL h) λh1=>af (SD N ω (cm hb.1.1 ω) _ _) λu hu=>ak λh=>have B:=(tU h1).1;⟨B.UG (hu h).1 B.a (hu h).2.1 (λ_ h=>h) λx hx=>(hu h).2.1 _ (B.ma x hx),up.1,SJ,bo _⟩
theorem Ya(N:Nat)(hN:5000000≤N){c:ae}{s:aQ}{e:gO}{m:Nat}(h2:200≤m)(hm:m≤999)(hc:G 5 aA c)(hs:GS m s)(hR:nT c m s)(he:G 0 kX e):Ok (SI c (m+1)) (pL N c s e):=by
 obtain⟨s1,s2,s3,⟨k1,k2,k3,k4,k5,k6,k7,k8,k9,UC,XI⟩,s5⟩:=hs
 have hs:GS m s:=⟨s1,s2,s3,⟨k1,k2,k3,k4,k5,k6,k7,k8,k9,UC,XI⟩,s5⟩
 have up:=hR.up.2
 unfold pL pL.b
 have hj: ∀(S0:aQ) (z:da),Ok (SI c (m+1)) (pL.Uu N c s e S0 z):=λS0 z=>by
  unfold pL.Uu pL.N1
  exact af (N6 N _ _) λ_ _=>bw (λ_=>dL δ) λ_=>af (X9 N hN h2 hm hc hs hR he) λr hr=>ak hr
 have mem: ∀{x:aE},G m (.slice jB) x→G m aL ((x,s.2.2.1.2):an):=λh=>⟨h,s3.2⟩
 have rb: ∀{x:aE},dq x=true→(∀n,jk s.2.2.1.1 n→jk x n)→RB c ((x,s.2.2.1.2):an):=λh1 h2=>hR.1.UG h1 hR.1.a h2 (λ_ h=>h) λx hx=>h2 _ (hR.1.ma x hx)
 have Hj:=λk:Int=>Ok.and (KV N ω (m:=m) ω s3.1 e.2.1 k) (SD N ω (cm s3.1.1 ω) e.2.1 k)
 have hd: ∀z:aE×Int,G m (.slice jB) z.1∧(z.2=0→dq z.1=true∧(∀n,jk s.2.2.1.1 n→jk z.1 n)∧jk s.2.2.1.1 e.2.1)→Ok (SI c (m+1)) (cond (aO z.2 0) (cond (aO e.1 11) ((KW N c (z.1,s.2.2.1.2) e.2.1).bind λr2=>cond (aO s.2.2.2.1.2.1 3) ((pg N s.2.2.2.1.2.2.2.2.2.2.1 e.2.1).bind λr3=>(fy N z.2).bind λr4=>some ((s.1,(s.2.1,(r2.1,((s.2.2.2.1.1,(s.2.2.2.1.2.1,(s.2.2.2.1.2.2.1,(s.2.2.2.1.2.2.2.1,(s.2.2.2.1.2.2.2.2.1,(s.2.2.2.1.2.2.2.2.2.1,(r3,s.2.2.2.1.2.2.2.2.2.2.2))))))),s.2.2.2.2)))),r4)) ((fy N z.2).bind λr5=>some ((s.1,(s.2.1,(r2.1,s.2.2.2))),r5))) ((fy N z.2).bind λr6=>some ((s.1,(s.2.1,((z.1,s.2.2.1.2),s.2.2.2))),r6))) ((fy N z.2).bind λr7=>some ((s.1,(s.2.1,((z.1,s.2.2.1.2),s.2.2.2))),r7))):=λz ⟨hz,hi⟩=>
  ok_eq (λh0=>have B:=rb (hi h0).1 (hi h0).2.1;ok_eq (λ_=>af (Oe N hN (m:=m) ω (mem hz) B _ ((hi h0).2.1 _ (hi h0).2.2)) λb hb=>ok_eq (λ_=>af (C1 N ω ω k7 _) λl hl=>g7 λ_=>⟨hb,up⟩) λ_=>g7 λ_=>⟨hb,up⟩) λ_=>g7 λ_=>⟨B,up⟩) λh=>dL h
 refine ok_eq (λ_=>af (Hj _) λz hz=>hd z hz) λ_=>ok_eq (λ_=>af (Hj _) λz hz=>hd z hz) λ_=>ok_eq (λ_=> ?_) λ_=>ok_eq (λ_=> ?_) λ_=>hj _ _
 ·exact af (oB N ω ω hs _) λ_ _=>ok_eq (λ_=>dL δ) λ_=>bp (λ_=>dL δ) λ_=>af (Hj _) λz ⟨hz,hi⟩=>bp (λh=>dL h) λh0=>af (tO N ω s1 hc.2.2.2.1) λt ht=>bw (λ_=>dL δ) λ_=>ak λ_=>⟨rb (hi h0).1 (hi h0).2.1,up.1,SJ,bo _⟩
 ·exact af (oB N ω ω hs _) λ_ _=>ok_eq (λ_=>dL δ) λ_=>af (oB N ω ω hs _) λ_ _=>bp (λ_=>dL δ) λ_=>hj _ _
theorem abf(N:Nat)(hN:5000000≤N){c:ae}{s:aQ}{e:gO}{m:Nat}(h2:200≤m)(hm:m≤999)(hc:G 5 aA c)(hs:GS m s)(hR:nT c m s)(he:G 0 kX e):Ok (SI c (m+1)) (UD N c s e):=by
 have DT:G m aA c:=G.mono ω hc
 have hb:=hs.2.2.1
 have UE:=he.2.2.2.2.2.2.1
 have up:=hR.up.2
 have B:=hR.1
 have ml:=cm hb.1.1 (show m≤50000 by omega)
 have al:=cm hb.2.1.1 (show m≤50000 by omega)
 have hW:cN 1 0∧ju s.2.2.1.1 s.2.2.1.2.1 1 0:=B2 δ
 have st:=λk:Int=>UL N ω (s:=s) ω k
 have stm: ∀k:Int,eI s.2.2.1.1 k≠0→jk s.2.2.1.1 k:=λk h=>(uX B.m k).1 h
 unfold UD
 refine ok_eq (λ_=> ?_) λ_=>ok_eq (λ_=> ?_) λ_=>ok_eq (λ_=> ?_) λ_=>ok_eq (λ_=> ?_) λ_=>ok_eq (λ_=> ?_) λ_=>ok_eq (λ_=> ?_) λ_=>ok_eq (λ_=> ?_) λ_=>ok_eq (λ_=> ?_) λ_=>ok_eq (λ_=> ?_) λ_=>ok_eq (λ_=> ?_) λ_=>ok_eq (λ_=> ?_) λ_=>af (Ya N hN h2 hm hc hs hR he) λr hr=>ak hr
 ·exact af (XO N ω ml _) λr hr=>g7 λh=>⟨B.UG (hr h).1 B.a (hr h).2 (λ_ h=>h) λx hx=>(hr h).2 _ (B.ma x hx),up⟩
 ·exact af (aa6 N ω ml al _) λr hr=>g7 λh=>⟨B.UG B.m (hr h).1 (λ_ h=>h) (hr h).2.1 (hr h).2.2,up⟩
 ·exact br (X8 N ω ω _) (bw (λ_=>dL δ) λhf=>af (Lb N ω ω hs hR UE hW (tQ B ((pj B.a _).1 hf))) λr hr=>ak hr)
 ·exact af (Oc N hN h2 ω DT hb B he.2.2.1 UE) λr hr=>g7 λh=>⟨(hr h).1,up⟩
 ·exact br (st _) (ok_eq (λ_=>dL δ) λh0=>br (st _) (bp (λ_=>dL δ) λ_=>af (Lb N ω ω hs hR UE hW (A2 B δ (stm _ h0))) λr hr=>ak hr))
 ·exact br (st _) (ok_eq (λ_=>dL δ) λh0=>af (mq N ω ω hb.2.2.1 _ _) λg hg=>af (bq N ω hg) λx hx=>af (qu N ω ω hx) λx hx=>af (bq N ω UE) λy hy=>af (pH N ω ω ω hy hx) λ_ _=>aw (λ_=>dL δ) λ_=>af (Lb N ω ω hs hR UE hW (A2 B δ (stm _ h0))) λr hr=>ak hr)
 ·exact af (XQ N ω al B.ma _ _) λr hr=>g7 λh=>⟨B.UG B.m (hr h).1 (λ_ h=>h) (hr h).2.1 (hr h).2.2,up⟩
 ·have hx:G 0 mQ (s.2.1,(e.2.2.1,(e.2.2.2.1,(e.2.2.2.2.1,(e.2.2.2.2.2.2.1,(e.2.2.2.2.2.2.2.1,())))))):=⟨hs.2.1,he.2.2.1,he.2.2.2.1,he.2.2.2.2.1,UE,he.2.2.2.2.2.2.2.1,trivial⟩
  exact af (XV N hN h2 ω DT hb B hx) λr hr=>ak λh=>⟨hr h,nT.add hR.2.1 hm δ,hR.2.2⟩
 ·exact br (X8 N ω ω _) (bw (λ_=>dL δ) λ_=>af (UI N ω (cm hb.2.2.2.2.2.1.1 ω) _ _) λr hr=>g7 λh=>⟨B.K5 (hr h).1 λx hx=>B.ok x ((hr h).2 x hx),up⟩)
 ·exact af (Ok.and (C2 N hN c h2 ω hb _ he.2.2.2.2.2.2.2.1) (Od N hN ω hb B _ _)) λr ⟨⟨yQ,yH⟩,Ss⟩=>ok_eq (λh0=>bp (λ_=>af (NX N ω h2 ω hs.2.2.2.1.2.2.2.2.2.2.2.2.2.1 yH) λg hg=>g7 λ_=>⟨Ss h0,up⟩) λ_=>g7 λ_=>⟨Ss h0,up⟩) λh=>dL h
 ·exact af (tO N ω hs.1 UE) λt ht=>bw (λ_=>dL δ) λ_=>ak λ_=>⟨B,up⟩
theorem SK(N:Nat)(hN:5000000≤N){c:ae}{s:aQ}{e:gO}{m:Nat}(h2:200≤m)(hm:m≤999)(hc:G 5 aA c)(hs:GS m s)(hR:nT c m s)(he:G 0 kX e):Ok (λr=>nT c (m+1) r.1) (QV N c s e):=by
 have ca: ∀r:da,Ok (λr:aQ×da=>nT c (m+1) r.1) (some (s,r)):=λr=>ak hR.up
 unfold QV
 exact br (nf N ω c) (bw (λ_=>ca _) λ_=>af (Je N ω e) λ_ _=>bw (λ_=>ca _) λ_=>af (abf N hN h2 hm hc hs hR he) λr hr=>bp (λ_=>ca _) λh=>ak (hr h))
end VM
end
section
namespace VM
open Go VM.F
theorem D9(N:Nat){k:Nat}{d:aM}(h:Dk k d)(hk:k≤ku:=by first|decide|(unfold ku;omega)):Ok (λr=>(0≤r.1∧r.1<9223372036854775808)∧Dk (k+1) r.2) (LD N d):=by
 unfold LD
 refine af (D7 N hk h) λr ⟨hr,hd⟩=>ok_eq (λ_=>ω) λ_=> ?_
 have h3:shr .u64 r.1 3=r.1/8:=by rw[Kl ω ω];rfl
 have put: ∀x:Int,0≤x∧x<9223372036854775808→Ok (λr=>(0≤r.1∧r.1<9223372036854775808)∧Dk (k+1) r.2) (some (W .i64 x,r.2)):=λx hx=>ak ⟨by rw[ay ω ω];exact hx,hd⟩
 have ase: ∀y:Int,0<y∧y≤1000000000000→0≤rem (r.1/8) y∧rem (r.1/8) y<9223372036854775808:=λy hy=>by have:=rem_in (x:=r.1/8) (y:=y) ω hy.1;omega
 dsimp only
 rw[h3,amw]
 repeat' first|exact put _ ω|exact put _ (ase _ δ)|refine aw (λ_=> ?_) (λ_=> ?_)|refine ok_eq (λ_=> ?_) (λ_=> ?_)|(exfalso;omega)
def B3(x:bI):Prop:=oM x.1 x.2.1 x.2.2.1 x.2.2.2.1
theorem Gw{c:ae}:fM c=true↔(1≤c.1.length∧c.1.length≤6)∧(∀x∈c.1,B3 x)∧pB c:=by
 unfold fM
 simp only[bQ,ff]
 rw[←gL (d:=aV) (Q:=B3)];rfl
abbrev Cq(c:ae):Prop:=(G 5 aA c∧1≤c.1.length)∧fM c=true
theorem aif{x:bI}(h:B3 x):G 5 eB x:=by
 have g: ∀a b c d:Int,oM a b c d→aD a∧aD b∧aD c∧aD d:=λa b c d h=>by unfold oM at h;unfold aD;omega
 have:=g _ _ _ _ h
 exact⟨this.1,this.2.1,this.2.2.1,this.2.2.2,trivial⟩
theorem aih{c:ae}(h:pB c)(h1:c.2.1<9223372036854775808)(h2:c.2.2.2.2.2.2.1≤1000):G 5 (.pair (.int .i64) (.pair (.int .i64) (.pair (.int .i64) (.pair (.int .i64) (.pair (.int .i64) (.pair (.int .i64) .unit)))))) c.2:=by
 have g: ∀a b c d e f:Int,nc a b c d e f→a<9223372036854775808→f≤1000→aD a∧aD b∧aD c∧aD d∧aD e∧aD f:=λa b c d e f h h1 h2=>by unfold nc at h;unfold aD;omega
 have:=g _ _ _ _ _ _ h h1 h2
 exact⟨this.1,this.2.1,this.2.2.1,this.2.2.2.1,this.2.2.2.2.1,this.2.2.2.2.2,trivial⟩
theorem UN(N:Nat)(hN:100≤N){d:aM}(h:Dk 0 d):Ok (λr=>Cq r.1∧Dk 1000 r.2) (uY N d):=by
 unfold uY uY.b
 refine af (iQ N δ h) λr hr=> ?_
 rw[ay (x:=1+r.1) ω ω]
 obtain⟨k,hk⟩: ∃k:Nat,1+r.1=(k:Int):=⟨(1+r.1).toNat,ω⟩
 rw[hk]
 have b1: ∀x y:Int,0≤x∧x<y→y≤1000000000000→1≤W .i64 (1+x)∧W .i64 (1+x)≤y:=λx y h1 h2=>by rw[ay ω ω];omega
 refine xH (F:=λn x (s:aM×aK)=>uY.l3 N n s.1 (c8,fa) (c8,fa) s.2 x) (λx s=>x+s.2.length=k∧Dk (1+20*s.2.length) s.1∧ ∀y∈s.2,B3 y) (λn x s hI hr=> ?_) (λn s hI=> ?_) k N (r.2,_) ω ⟨rfl,hr.2,λy hy=>nomatch hy⟩
 all_goals unfold uY.l3 uY.nO
 ·obtain⟨hx,hd,hG⟩:=hI
  have zY: ∀(d:aM) (x4:bI),Dk (1+20*s.2.length+10) d→B3 x4→Ok (λr=>Cq r.1∧Dk 1000 r.2) (cond (small (s.2.length+[x4].length)) (uY.l3 N n d (c8,fa) (c8,fa) (s.2++[x4]) (W .i64 (((x+1:Nat):Int)-1))) none):=λd x4 hd hx4=>by
   rw[ay (x:=((x+1:Nat):Int)-1) ω ω,show((x+1:Nat):Int)-1=(x:Int)by omega]
   refine aC (by rw[aI];omega) (hr (_,_) ⟨by rw[aS,aI];omega,Dk.mono hd (by rw[aS,aI];omega),λy hy=> ?_⟩)
   rcases a8.1 hy with hy|hy
   ·exact hG y hy
   ·rw[bW.1 hy];exact hx4
  have hj: ∀(d:aM) (x5:bI),Dk (1+20*s.2.length+6) d→B3 x5→Ok (λr=>Cq r.1∧Dk 1000 r.2) (uY.j8 N (uY.l3 N n) d (c8,fa) (c8,fa) s.2 ((x+1:Nat):Int) x5):=λd x5 hd hx5=>by
   unfold uY.j8 uY.WX
   refine af (pJ N δ hd) λr hd=>pe (λ_=> ?_) λ_=>zY _ _ (Dk.mono hd ω) hx5
   refine af (D9 N hd) λr ⟨h1,hd⟩=>ok_eq (λ_=>ω) λ_=> ?_
   dsimp only
   have e1:=rem_in h1.1 (show(0:Int)<1000000001 by decide)
   exact af (D9 N hd) λr ⟨h2,hd⟩=>ok_eq (λ_=>ω) λ_=>have e2:=rem_in h2.1 (show(0:Int)<1000000001 by decide);zY _ _ (Dk.mono hd ω) ⟨hx5.1,hx5.2.1,⟨e1.1,by dsimp only;omega⟩,⟨e2.1,by dsimp only;omega⟩⟩
  refine aw (λ_=> ?_) λ_=>ω
  refine af (iQ N δ hd) λa ⟨ha,hd⟩=>af (iQ N δ hd) λb ⟨hb,hd⟩=>af (iQ N δ hd) λc ⟨hc,hd⟩=>af (iQ N δ hd) λe ⟨he,hd⟩=>af (pJ N δ hd) λr hd=>pe (λ_=>af (D9 N hd) λr ⟨h1,hd⟩=>ok_eq (λ_=>ω) λ_=>hj _ _ (Dk.mono hd ω) ⟨⟨ha.1,by dsimp only;omega⟩,b1 _ _ (rem_in h1.1 δ) δ,⟨hc.1,by dsimp only;omega⟩,⟨he.1,by dsimp only;omega⟩⟩) λ_=>hj _ _ (Dk.mono hd ω) ⟨⟨ha.1,by dsimp only;omega⟩,⟨(b1 _ _ hb δ).1,Int.le_trans (b1 _ _ hb δ).2 δ⟩,⟨hc.1,by dsimp only;omega⟩,⟨he.1,by dsimp only;omega⟩⟩
 ·obtain⟨hx,hd,hG⟩:=hI
  have hl:s.2.length≤4∧1≤s.2.length:=ω
  have hd:Dk 900 s.1:=Dk.mono hd ω
  have fin: ∀(q t p b l m:Int),(0≤q∧q<9223372036854775808)→(0≤t∧t<5)→(0≤p∧p<3)→(0≤b∧b<3)→(0≤l∧l<20)→(0≤m∧m<100)→Cq (s.2,(q,(t,(p,(b,(W .i64 (1+l),(m,()))))))):=λq t p b l m h1 h2 h3 h4 h5 h6=>by
   have h7:=b1 _ _ h5 δ
   have hr:pB (s.2,(q,(t,(p,(b,(W .i64 (1+l),(m,()))))))):=(show nc q t p b (W .i64 (1+l)) m by unfold nc;omega)
   exact⟨⟨⟨⟨by dsimp only;omega,λy hy=>aif (hG y hy)⟩,aih hr h1.2 (show m≤1000 by omega)⟩,hl.2⟩,Gw.2 ⟨⟨hl.2,by dsimp only;omega⟩,hG,hr⟩⟩
  refine aw (λ_=>ω) λ_=>af (iQ N δ hd) λa ⟨ha,hd⟩=>af (iQ N δ hd) λb ⟨hb,hd⟩=>af (iQ N δ hd) λc ⟨hc,hd⟩=>af (iQ N δ hd) λe ⟨he,hd⟩=>af (iQ N δ hd) λf ⟨hf,hd⟩=> ?_
  dsimp only
  exact af (iQ N δ hd) λg ⟨hg,hd⟩=>af (pJ N δ hd) λr hd=>pe (λ_=>af (D9 N hd) λr ⟨hr,hd⟩=>ak ⟨fin _ _ _ _ _ _ hr hb hc he hf hg,Dk.mono hd δ⟩) λ_=>ak ⟨fin _ _ _ _ _ _ ⟨ha.1,ω⟩ hb hc he hf hg,Dk.mono hd δ⟩
theorem UO{q:Int}(h0:q≠0):eA [((1:Int),((0:Int),((-q:Int),()))),((3:Int),((0:Int),(q,())))]=true∧dx (gI [((1:Int),((0:Int),((-q:Int),()))),((3:Int),((0:Int),(q,())))]) 0:=by
 have ok:eA [((1:Int),((0:Int),((-q:Int),()))),((3:Int),((0:Int),(q,())))]=true:=by
  unfold eA
  rw[fX]
  refine bu λj hj=> ?_
  match j,hj with
  |0,_=>exact⟨show cN 1 0 by decide,show-q≠0 by omega,λh=>absurd h δ⟩
  |1,_=>exact⟨show cN 3 0 by decide,h0,λ_=> .inl (show(1:Int)<3 by decide)⟩
 refine⟨ok,?_⟩
 unfold gI
 rw[aj ok]
 show-q+(q+0)=0
 omega
theorem Q4(N:Nat)(hN:1000≤N){c:ae}(hc:Cq c)(nR:c.2.1<9223372036854775808):Ok (λr=>RB c r.1∧r.2=0) (ij N c):=by
 obtain⟨⟨hc,Ly⟩,hp⟩:=hc
 have hl:=hc.1.1
 obtain⟨h1,h2,h3⟩:=Gw.1 hp
 unfold ij ij.b
 have hj: ∀b:an,(∀p:List Int,p.length=c.1.length→eV p=true→RB c (b.1,(b.2.1,(b.2.2.1,(b.2.2.2.1,(p,b.2.2.2.2.2))))))→Ok (λr=>RB c r.1∧r.2=0) (ij.j6 N c (ck,(c8,(bG,(bG,(dC,(dQ,())))))) b []):=λb hb=>by
  unfold ij.j6 ij.TJ
  obtain⟨b1,b2,b3,b4,b5,b6⟩:=b
  refine bc (len:=c.1.length) (F:=λn i (z:an×List Int)=>ij.l7 N n c (ck,(c8,(bG,(bG,(dC,(dQ,())))))) z.1 z.2 i) (s:=((b1,(b2,(b3,(b4,(b5,b6))))),_)) (λi z=>(z.1.1=b1∧z.1.2.1=b2∧z.1.2.2.1=b3∧z.1.2.2.2.1=b4∧z.1.2.2.2.2.2=b6)∧z.2.length=i∧ ∀x∈z.2,1≤x∧x≤1000000000000) ⟨⟨rfl,rfl,rfl,rfl,rfl⟩,rfl,λx hx=>nomatch hx⟩ ω (λn i z hi hI hr=> ?_) (λn z hI=> ?_)
  all_goals unfold ij.l7 ij.q4
  all_goals obtain⟨hz,hzl,hzp⟩:=hI
  ·rw[ay (x:=(i:Int)+1) ω ω,ag i,aJ]
   have hx:=(h2 _ (qd (d:=aV) hi)).2.1
   exact aw (λ_=>aB ⟨ω,ω⟩ (aC (by rw[List.length_singleton];omega) (hr (_,_) ⟨hz,by dsimp only;rw[List.length_append,List.length_singleton];omega,λy hy=>by
    rcases a8.1 hy with hy|hy
    ·exact hzp y hy
    ·rw[bW.1 hy];exact hx⟩))) λ_=>ω
  ·refine aw (λ_=>ω) λ_=>ak ⟨?_,rfl⟩
   obtain⟨z1,z2,z3,z4,z5⟩:=hz
   dsimp only
   rw[z1,z2,z3,z4,z5]
   refine hb _ hzl ?_
   unfold eV
   exact bu ((gL (d:=(0:Int)) (Q:=λx=>1≤x∧x≤1000000000000)).2 hzp)
 have mk: ∀r:au,eA r=true→dx (gI r) 0→(∀x∈r,ju [] [] x.1 x.2.1)→ ∀p:List Int,p.length=c.1.length→eV p=true→RB c (([]:aE),(([]:aK),(r,(([]:au),(p,(([]:bs),())))))):=λr r1 r2 r3 p p1 p2=>
  ⟨hp,(show dq []=true by decide),(show fB []=true by decide),λx hx=>(nomatch hx),r1,r2,(show oi []=true by decide),(show eh []=true by decide),show(p.length:Int)=c.1.length by omega,r3,λx hx=>(nomatch hx),λx hx=>(nomatch hx),p2⟩
 refine br (nf N ω c) (bw (λh=>by rw[hp]at h;exact nomatch h) λ_=>bp (λh0=>hj _ ?_) λ_=>hj _ ?_)
 ·have hs:0≤c.2.1:=h3.1
  have e: ∀q:Int,0≤q→q<9223372036854775808→W .i64 (0-q)= -q:=λq h1 h2=>by rw[ay ω ω];omega
  have h0:(c.2.1:Int)≠0:=h0
  rw[e _ hs nR]
  obtain⟨ok,tot⟩:=UO h0
  refine mk _ ok tot λx hx=> ?_
  rcases aW.1 hx with rfl|hx
  ·exact⟨λh=>absurd h (show ¬dx 1 5 by decide),λh=>absurd h (show ¬(dx 1 6∨dx 1 7)by decide)⟩
  ·rw[bW.1 hx];exact⟨λh=>absurd h (show ¬dx 3 5 by decide),λh=>absurd h (show ¬(dx 3 6∨dx 3 7)by decide)⟩
 ·exact mk [] δ δ λx hx=>nomatch hx
theorem Oh(N:Nat)(hN:1000≤N){c:ae}(hc:Cq c)(nR:c.2.1<9223372036854775808):Ok (λr:aQ×Int=>(GS 5 r.1∧nT c 5 r.1)∧r.2=0) (Yb N c):=by
 unfold Yb
 exact af (Ok.and (QR N ω hc.1.1) (Q4 N ω hc nR)) λb ⟨mw,tU,hb3⟩=>bp (λh=>absurd hb3 h) λ_=>ak ⟨⟨⟨bJ,(show aD 1 from bh),mw,G.zero 5 rF,G.zero 5 gK,trivial⟩,tU,⟨(show(1:Int)≤1 by decide),(show(1:Int)≤2000*((5:Nat):Int)by decide)⟩,SJ,bo _⟩,rfl⟩
theorem aii(N:Nat)(hN:5000000≤N){c:ae}{l:cT}{m:Nat}(hm:m≤700)(hc:Cq c)(nR:c.2.1<9223372036854775808)(hl:vk m l):Ok (λr=>GS 900 r.1∧nT c 900 r.1) (Gx N c l):=by
 have G9:=hl.1
 unfold Gx Gx.b
 refine af (Oh N ω hc nR) λb ⟨⟨mw,tU⟩,hb3⟩=>bp (λh=>absurd hb3 h) λ_=>bc (len:=l.length) (F:=λn i (z:aQ×au)=>Gx.l6 N n l c (Ty.zero du) z.1 z.2 i) (s:=(_,_)) (λi z=>(GS (200+i) z.1∧nT c (200+i) z.1)∧z.2.length≤i) ⟨⟨G.mono ω mw,tU.1,⟨tU.2.1.1,fi tU.2.1.2 δ⟩,tU.2.2⟩,aG 0⟩ ω (λn i z hi hI hr=> ?_) (λn z hI=> ?_)
 all_goals unfold Gx.l6 Gx.uw
 all_goals obtain⟨⟨h1,h3⟩,h2⟩:=hI
 ·rw[ay (x:=(i:Int)+1) ω ω,ag i]
  have hx:G 0 kX (l.getD (i:Int).toNat zz8):=G.at hl _
  exact aw (λ_=>aB ⟨ω,ω⟩ (af (Ok.and (Sz N hN ω ω hc.1.1 h1 hx) (SK N hN ω ω hc.1.1 h1 h3 hx)) λr ⟨yQ,yH⟩=>aC (by rw[List.length_singleton];omega) (hr (r.1,z.2++[r.2]) ⟨⟨yQ,yH⟩,by dsimp only;rw[List.length_append,List.length_singleton];omega⟩))) λ_=>ω
 ·exact aw (λ_=>ω) λ_=>ak ⟨G.mono ω h1,h3.1,⟨h3.2.1.1,fi h3.2.1.2 ω⟩,h3.2.2⟩
theorem Cq.f{c:ae}(h:Cq c):Cf c∧c.2.1<9223372036854775808:=⟨⟨h.1.1,h.1.2⟩,h.1.1.2.1.2⟩
end VM
end
