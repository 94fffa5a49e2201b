/- A part of the proof of BookTwo of layer 18: what the functions compute, in plain words. -/
import Derived.Test.YtecmobijochjkaaGreatPlain8
import Derived.Test.YtecmobijochjkaaGreatPlain7
set_option linter.all false
section
namespace VM
open Go VM.F
theorem ad7(N:Nat)(hN:5000000≤N){c:ae}{b:an}{m:Nat}(hm:m≤40000)(hc:G m aA c)(hb:G m aJ b)(hR:RB c b)(f:Int)(to a:Int):Ok (λr=>r.2=0→RB c r.1) (W5 N c b f to a):=by
 have bad: ∀e:Int,e≠0→Ok (λr:an×Int=>r.2=0→RB c r.1) (some ((cf,(cS,(bn,(bn,(dd,(dm,())))))),e)):=λe h=>aq λh'=>absurd h' h
 unfold W5
 refine ag (aam N hN hm hc hb _ _ _) λ_ _=>bG (λh=>bad _ h) λ_=>ag (Tt N ω (cv hb.1.1 ω) (cv hb.2.1.1 ω) _ _) λr hr=>bG (λh=>bad _ h) λh0=>aq λ_=> ?_
 obtain⟨r1,r2,r3⟩:=hr h0
 exact hR.Xk hR.m r1 (λ_ h=>h) r2 r3
theorem aa1(N:Nat)(hN:200000≤N){c:ae}{b:an}{m:Nat}(hm:m≤50000)(hb:G m aJ b)(hR:RB c b){a:Int}(ha:ru b.2.1 a):Ok (λr=>SB c b.2.1 r∧r.length≤2*m) (nM N b.2.2.2.1 a 0):=by
 have h:=hb.2.2.2.1
 have hl:=h.1
 have hp:=(dM (dE (ot.2 hR)).2).2
 unfold nM nM.b
 have nil:Ok (λr:au=>SB c b.2.1 r∧r.length≤2*m) (some []):=aq ⟨SB.nil,bz _⟩
 refine bH (lR N ω hN) (bF (λ_=>nil) λ_=>ok_eq (λ_=>nil) λ_=>ax (λ_=>nil) λa0=>ax (λ_=>nil) λa1=>ax (λ_=>nil) λ_=>ax (λ_=>nil) λ_=>bs (len:=b.2.2.2.1.length) (F:=λn i s=>nM.l5 N n b.2.2.2.1 a 0 s i) (λi s=>SB c b.2.1 s∧s.length≤2*i) ⟨SB.nil,bz _⟩ ω (λn i s hi hI hr=> ?_) (λn s hI=> ?_))
 all_goals unfold nM.l5 nM.eA
 all_goals obtain⟨i1,i2⟩:=hI
 ·have hx:G m jZ (b.2.2.2.1.getD i ba):=h.2 _ (qM hi)
  have RY:=hp _ (qM (d:=ba) hi)
  have Yl:=hR.sk _ (qM (d:=ba) hi)
  dsimp only
  rw[aw (x:=(i:Int)+1) ω ω,af i,aI]
  have h1:=hr s ⟨i1,ω⟩
  have hq:aF (b.2.2.2.1.getD i ba).2.2.1:=hx.2.2.1
  have oL:q7 (b.2.2.2.1.getD i ba).2.2.1:=RY.2
  have pl:=RY.1
  have ins:=Yl.2
  generalize (b.2.2.2.1.getD i ba).2.2.1=q at*
  generalize (b.2.2.2.1.getD i ba).2.1=k at*
  have hn:=(ak4 ⟨hq,oL⟩).1
  unfold aF at hn
  rw[aw hn.1 hn.2]
  exact ax (λ_=>aB ⟨ω,ω⟩ (ok_eq (λ_=>aB ⟨ω,ω⟩ (aB ⟨ω,ω⟩ (aB ⟨ω,ω⟩ (aB ⟨ω,ω⟩ (aD (by rw[ze];omega) (hr _ ⟨SB.app i1 (SB.two hn hq ω ⟨⟨a0,a1,pl.2.2.1,pl.2.2.2⟩,.inr ha,ins⟩ ⟨⟨δ,δ,pl.2.2.1,pl.2.2.2⟩,.inl rfl,ins⟩),by rw[aS,aT,aK];omega⟩)))))) λ_=>h1)) λ_=>ω
 ·exact ax (λ_=>ω) λ_=>aq ⟨i1,ω⟩
theorem Xt{c:ae}{b:an}(h:RB c b):b.2.1.length≤24:=P4 h.a
theorem ad8(N:Nat)(hN:5000000≤N){c:ae}{b:an}{m:Nat}(h2:200≤m)(hm:m≤1000)(hc:G m aA c)(hb:G m aJ b)(hR:RB c b)(a:Int):Ok (JA c b) (rM N c b a):=by
 have hal:=Xt hR
 unfold rM rM.b
 refine bH (ej N hN ω hb) (bF (λ_=>JA.bad δ) λhB=>ag (rL N ω ω hb _) λ_ _=>ok_eq (λ_=>JA.bad δ) λ_=> ?_)
 refine bs (len:=b.2.1.length) (F:=λn i (z:au×bP)=>rM.l8 N n a c b (cf,(cS,(bn,(bn,(dd,(dm,())))))) z.1 z.2 i) (s:=(_,_)) (λi z=>(SB c b.2.1 z.1∧z.1.length≤2*m*i)∧PB b.1 b.2.1 z.2∧z.2.length≤4*i) ⟨⟨SB.nil,bz _⟩,PB.nil,bz _⟩ ω (λn i z hi hI hr=> ?_) (λn z hI=> ?_)
 all_goals unfold rM.l8 rM.Ec
 all_goals obtain⟨⟨h5,h7⟩,h6,h8⟩:=hI
 ·have hmi:2*m*i≤2*m*24:=mR _ ω
  have hms:2*m*(i+1)=2*m*i+2*m:=rY _ _
  have hx:G m e7 (b.2.1.getD (i:Int).toNat bb):=G.at hb.2.1 _
  have hA:ru b.2.1 (b.2.1.getD (i:Int).toNat bb).1:=⟨_,qM hi,rfl⟩
  have hM:=vh hR hA
  have hF:db 2 0∧ki b.1 b.2.1 2 0:=Dv δ
  have hj: ∀p:bP,PB b.1 b.2.1 p→p.length≤4*i+2→Ok (JA c b) (rM.Dg N (rM.l8 N n) a c b (cf,(cS,(bn,(bn,(dd,(dm,())))))) z.1 p (i:Int) (b.2.1.getD (i:Int).toNat bb)):=λp hp Bl=>by
   unfold rM.Dg rM.wZ
   rw[aw (x:=(i:Int)+1) ω ω,af i]
   exact ag (vd N ω ω hb _) λg hg=>ax (λ_=>bH (dC N ω hg.1 hg.2) (bH (o9 N ω (FI (pM hg).1)) (ag (ud N ω ⟨(pM hg).2,by rw[Int.neg_neg];exact(pM hg).1⟩ hF hM) λu ⟨hu,I6⟩=>aD ω (ag (aa1 N ω ω hb hR hA) λs ⟨hs,Oa⟩=>aD ω (hr (_,_) ⟨⟨SB.app h5 hs,by dsimp only;rw[List.length_append];omega⟩,PB.app hp hu,by dsimp only;rw[List.length_append];omega⟩))))) λ_=>ag (aa1 N ω ω hb hR hA) λs ⟨hs,Oa⟩=>aD ω (hr (_,_) ⟨⟨SB.app h5 hs,by dsimp only;rw[List.length_append];omega⟩,hp,by dsimp only;omega⟩)
  rw[aw (x:=(i:Int)+1) ω ω,af i]
  exact ax (λ_=>aB ⟨ω,ω⟩ (bG (λ_=>hr z ⟨⟨h5,ω⟩,h6,ω⟩) λ_=>ok_eq (λ_=>ag (K4 N hN ω hc hb _) λq hq=>bH (dC N ω hq.1 hq.2) (ag (ud N ω (pM hq) hM hF) λu ⟨hu,I6⟩=>aD ω (hj _ (PB.app h6 hu) (by rw[aS];omega)))) λ_=>hj _ h6 ω)) λ_=>ω
 ·have hmi:2*m*b.2.1.length≤2*m*24:=mR _ ω
  exact ax (λ_=>ω) λ_=>ag (uc N ω ω hb hR h5 h6 ω ω) λr hr=>aq hr
theorem Aq{n:Int}: ∀{l:aO},oh n l≠0→ru l (oh n l)
 |[],h=>absurd rfl h
 |x::t,h=>by
  rw[tP]at h ⊢
  have up:ru t (oh n t)→ru (x::t) (oh n t):=λ⟨y,hy,e⟩=>⟨y,aZ _ hy,e⟩
  by_cases e1:x.2.1=n
  ·rw[aj e1]at h ⊢
   by_cases e2:x.2.2.1=1
   ·rw[aj e2];exact⟨x,bq ..,rfl⟩
   ·rw[ah e2]at h ⊢;exact up (Aq h)
  ·rw[ah e1]at h ⊢;exact up (Aq h)
theorem Ld{a:aO}{n:Int}(h:oi a n≠0):ru a (oi a n):=by
 unfold oi at*
 split at h
 ·rw[aj (by assumption)];exact Aq h
 ·exact absurd rfl h
def Vf(c:ae)(y:BK):Prop:=(0≤y.1∧lF y.1 c.1.length)∧q7 y.2.1
theorem Tw{c:ae}{L:bJ}(h:C5 c L=true): ∀x∈L,∀y∈x.2.1,Vf c y:=by
 unfold C5 at h
 simp only[bM,fA,fP]at h
 refine(gS (d:=((0:Int),(cf,bb))) (Q:=λx=> ∀y∈x.2.1,Vf c y)).1 λj hj=> ?_
 have h1:=(h.2.2 j hj).2.2.2.1
 unfold pe at h1
 exact(gS (d:=da) (Q:=Vf c)).1 λi hi=>by
  have h2:=bt (c5.1 h1).1 i hi
  exact⟨⟨h2.1,h2.2.1⟩,h2.2.2.2.1⟩
theorem aa2(N:Nat)(hN:5000000≤N){c:ae}{b:an}{L:bJ}{l:aO}{m:Nat}(h2:200≤m)(hm:m≤2000)(hb:G m aJ b)(hR:RB c b)(hL:LL m L)(hl:G m (.slice e7) l):Ok (λr=>r.2.2=0→RB c r.1∧r.2.1.length≤12) (gq N c b L l):=by
 have eo: ∀e:Int,e≠0→Ok (λr:an×bJ×Int=>r.2.2=0→RB c r.1∧r.2.1.length≤12) (some ((cf,(cS,(bn,(bn,(dd,(dm,())))))),([],e))):=λe h=>aq λh'=>absurd h' h
 have h3:=hL.1
 have h4:=hl.1
 have hw:Ky L:=λy hy=>cv (hL.2 y hy).2.1.1 ω
 have hci:c.1.length≤6:=by
  have:=hR.c
  unfold eJ at this
  exact(bt (c5.1 this).1).2
 unfold gq gq.b
 refine bH (ej N hN ω hb) (bF (λ_=>eo _ δ) λ_=>bH (BZ N ω c ω hw) (bF (λ_=>eo _ δ) λhk=>bH (u6 N ω ω) (bF (λ_=>eo _ δ) λ_=> ?_)))
 have aqP:=Tw hk
 have h12:L.length≤12:=by
  unfold C5 at hk
  exact bt (c5.1 (c5.1 hk).2).1
 refine bs (len:=L.length) (F:=λn i (z:au×bP×bJ)=>gq.l7 N n L l b (cf,(cS,(bn,(bn,(dd,(dm,())))))) z.1 z.2.1 z.2.2 i) (s:=(_,(_,_))) (λi z=>(SB c b.2.1 z.1∧z.1.length≤2*m*i)∧(PB b.1 b.2.1 z.2.1∧z.2.1.length≤2*i)∧z.2.2.length≤i) ⟨⟨SB.nil,bz _⟩,⟨PB.nil,bz _⟩,bz _⟩ ω (λn i z hi hI hr=> ?_) (λn z hI=> ?_)
 all_goals unfold gq.l7 gq.oP
 all_goals obtain⟨⟨h5,h8⟩,⟨h6,h9⟩,h7⟩:=hI
 ·have hmi:2*m*i≤2*m*12:=mR _ ω
  have hms:2*m*(i+1)=2*m*i+2*m:=rY _ _
  have hx:G m jU (L.getD (i:Int).toNat ((0:Int),(cf,bb))):=G.at hL _
  have hxl:=hx.2.1.1
  have awG:=aqP _ (qM (d:=((0:Int),(cf,bb))) hi)
  rw[aw (x:=(i:Int)+1) ω ω,af i]
  dsimp only
  rw[cM]
  have put: ∀x:jd,Ok (λr=>r.2.2=0→RB c r.1∧r.2.1.length≤12) (cond (small (z.2.2.length+[x].length)) (gq.l7 N n L l b (cf,(cS,(bn,(bn,(dd,(dm,())))))) z.1 z.2.1 (z.2.2++[x]) ((i+1:Nat):Int)) none):=λx=>aD (by rw[List.length_singleton];omega) (hr (z.1,(z.2.1,z.2.2++[x])) ⟨⟨h5,by dsimp only;omega⟩,⟨h6,by dsimp only;omega⟩,by dsimp only;rw[List.length_append,List.length_singleton];omega⟩)
  refine ax (λ_=>aB ⟨ω,ω⟩ (aD (by rw[cj];omega) (bG (λ_=>put _) λ_=>ag (U5 N ω ω hl _) λw hw=>bF (λ_=>put _) λ_=>bH (rJ N (cv hb.2.1.1 ω) ω _) (ok_eq (λ_=>eo _ δ) λhh=>ag (rL N ω ω hb _) λ_ _=>ok_eq (λ_=>eo _ δ) λ_=> ?_)))) λ_=>ω
  have hA:=Ld hh
  have hM:=vh hR hA
  have hF:db 2 0∧ki b.1 b.2.1 2 0:=Dv δ
  have aqQ:0≤oi b.2.1 w.1.2.2.1∧oi b.2.1 w.1.2.2.1≤24:=by
   have:=hM.1
   unfold db at this;omega
  generalize oi b.2.1 w.1.2.2.1=h at*
  have hX': ∀y∈(L.getD (i:Int).toNat ((0:Int),(cf,bb))).2.1,Vf c y∧G m kM y:=λy hy=>⟨awG y (by rw[aI]at hy;exact hy),hx.2.1.2 y hy⟩
  generalize hX:(((L.getD (i:Int).toNat ((0:Int),(cf,bb))).1,((L.getD (i:Int).toNat ((0:Int),(cf,bb))).2.1,((L.getD (i:Int).toNat ((0:Int),(cf,bb))).2.2.1,((2:Int),(w.1.2.2.1,(w.1.2.2.2.1,())))))):jd)=X
  have hXe:X.2.1=(L.getD (i:Int).toNat ((0:Int),(cf,bb))).2.1:=by rw[←hX]
  rw[←hXe]at hX' hxl
  refine bs (len:=X.2.1.length) (F:=λn' j u=>gq.yc N (gq.l7 N n) n' L l b (cf,(cS,(bn,(bn,(dd,(dm,())))))) u z.2.1 z.2.2 (i:Int) X w.1 h j) (s:=z.1) (λj u=>SB c b.2.1 u∧u.length≤2*m*i+2*j) ⟨h5,h8⟩ ω (λn' j u hj hu eQ=> ?_) (λn' u hu=> ?_)
  all_goals unfold gq.yc gq.wW
  all_goals obtain⟨hu,I6⟩:=hu
  ·have hy:=hX' _ (qM (d:=da) hj)
   dsimp only
   rw[aw (x:=(j:Int)+1) ω ω,af j,aI]
   generalize X.2.1.getD j da=y at*
   obtain⟨⟨⟨y0,y1⟩,y2⟩,y3⟩:=hy
   have hq:aF y.2.1:=y3.2.1
   have hn:=(ak4 ⟨hq,y2⟩).1
   have hn':=hn
   unfold aF at hn'
   have e:W .i64 (0-y.2.1)=0-y.2.1:=aw hn'.1 hn'.2
   rw[e]
   have g6: ∀x:Int,lF x c.1.length→x<6:=λx h=>by unfold lF at h;omega
   exact ax (λ_=>aB ⟨ω,ω⟩ (aB ⟨ω,ω⟩ (aB ⟨ω,ω⟩ (aB ⟨ω,ω⟩ (aD (by rw[ze];omega) (eQ _ ⟨SB.app hu (SB.two hn hq ω ⟨⟨δ,δ,y0,g6 _ y1⟩,.inl rfl,y1⟩ ⟨⟨aqQ.1,aqQ.2,y0,g6 _ y1⟩,.inr hA,y1⟩),by rw[aS,aT,aK];omega⟩)))))) λ_=>ω
  ·have HN:aF w.1.2.2.2.1:=hw.2.2.2.1
   refine ax (λ_=>ω) λ_=>bH (dC N ω HN.1 HN.2) (ag (ud N ω (pM HN) hM hF) λp ⟨hp,Bl⟩=>aD ω (aD (by rw[aK];omega) ?_))
   rw[aw (x:=(i:Int)+1) ω ω,af i]
   exact hr (_,(_,_)) ⟨⟨hu,by dsimp only;omega⟩,⟨PB.app h6 hp,by dsimp only;rw[List.length_append];omega⟩,by dsimp only;rw[List.length_append,List.length_singleton];omega⟩
 ·have hmi:2*m*L.length≤2*m*12:=mR _ ω
  exact ax (λ_=>ω) λ_=>ag (uc N ω ω hb hR h5 h6 ω ω) λr hr=>bG (λh=>eo _ h) λh0=>aq λ_=>⟨(hr h0).1,by dsimp only;omega⟩
theorem Le{a k:Int}: ∀{l:au},gR a k l≠0→ ∃x∈l,x.1=a∧x.2.1=k
 |[],h=>absurd rfl h
 |x::t,h=>by
  rw[iK]at h
  have up:gR a k t≠0→ ∃y∈x::t,y.1=a∧y.2.1=k:=λh=>let⟨y,hy,e⟩:=Le h;⟨y,aZ _ hy,e⟩
  by_cases e1:x.1=a
  ·rw[aj e1]at h
   by_cases e2:x.2.1=k
   ·exact⟨x,bq ..,e1,e2⟩
   ·rw[ah e2]at h;exact up h
  ·rw[ah e1]at h;exact up h
def PT(b:an)(k n:Int):Prop:=db k n∧ki b.1 b.2.1 k n
theorem ad9{c:ae}{b:an}(hR:RB c b){k n:Int}(h:tT b.2.2.1 k n≠0):PT b k n:=by
 unfold tT at h
 rw[aj hR.r]at h
 obtain⟨x,hx,e1,e2⟩:=Le h
 have h1:=(lx hR.r).2 x hx
 have h2:=hR.rk x hx
 rw[e1,e2]at h1 h2
 exact⟨h1,h2⟩
theorem aa3{a:aO}(hA:gP a=true){id:Int}{x:cG×Bool}(e:x=eS a id)(h:x.2=true):ru a x.1.1:=by
 subst e
 unfold eS at*
 rw[aj hA]at h ⊢
 have key: ∀l:aO,(uY id l).2=true→(uY id l).1∈l:=by
  intro l
  induction l with
  |nil=>intro h;exact nomatch h
  |cons y t ih=>
   intro h
   rw[pa]at h ⊢
   by_cases e:y.1=id
   ·rw[aj e];exact bq ..
   ·rw[ah e]at h ⊢;exact aZ _ (ih h)
 exact⟨_,key a h,rfl⟩
abbrev T5(b:an)(k:Nat)(l:bf):Prop:=l.length≤k∧ ∀x∈l,PT b x.2.1 x.2.2.1
theorem T5.mono{b:an}{j k:Nat}{l:bf}(h:T5 b j l)(hk:j≤k):T5 b k l:=⟨cv h.1 hk,h.2⟩
theorem T5.nil{b:an}{k:Nat}:T5 b k []:=⟨bz _,λx hx=>nomatch hx⟩
theorem T5.app{b:an}{k:Nat}{l:bf}(h:T5 b k l){s d n x y:Int}(hx:PT b d n):T5 b (k+1) (l++[(s,(d,(n,(x,(y,())))))]):=
 ⟨by rw[aS,aK];exact Nat.succ_le_succ h.1,λz hz=>by
  rcases bl.1 hz with hz|hz
  ·exact h.2 z hz
  ·rw[cr.1 hz];exact hx⟩
theorem row_in(N:Nat)(hN:200000≤N){c:ae}{l:bf}{b:an}{m k:Nat}(hm:m≤50000)(hb:G m aJ b)(hR:RB c b)(hk:k≤1000000)(hl:T5 b k l)(a d n:Int):Ok (T5 b (k+1)) (MI N l b a d n):=by
 have h1:=hl.1
 unfold MI
 exact bH (Mj N (cv hb.2.2.1.1 ω) hN _ _) (ax (λh=>aD (by rw[aK];omega) (aq (T5.app hl (ad9 hR ω)))) λ_=>aq (T5.mono hl ω))
theorem aa4(N:Nat)(hN:5000000≤N){c:ae}{b:an}{d g:aE}{a:Int}{m:Nat}(hm:m≤50000)(hc:G m aA c)(hb:G m aJ b)(hR:RB c b)(hd:L2 m d)(hg:L2 m g):Ok (λr=>T5 b 1000000 r.1∧(r.2=0→jV b.1 a)) (c3 N c b a d g):=by
 have h1:=hb.1.1
 have h2:=hd.1
 have h3:=hg.1
 have h4:=hb.2.1.1
 have nil: ∀e:Int,e≠0→Ok (λr:bf×Int=>T5 b 1000000 r.1∧(r.2=0→jV b.1 a)) (some ([],e)):=λe h=>aq ⟨T5.nil,λh'=>absurd h' h⟩
 have hj:jV b.1 a→ ∀l:bf,T5 b 1 l→Ok (λr=>T5 b 1000000 r.1∧(r.2=0→jV b.1 a)) (c3.j9 N a d g c b l):=λhMa l hl=>by
  unfold c3.j9 c3.Js
  refine ag (row_in N ω hm hb hR ω hl _ _ _) λl hl=>ag (row_in N ω hm hb hR ω hl _ _ _) λl hl=>jh (len:=5) (F:=λn k s=>c3.oM N n a d g c b s k) (λk s=>T5 b (3+m*k) s) (λn k s hk hs hr=> ?_) (λn s hs=> ?_) 5 N 1 l ω ω ω (T5.mono hl ω)
  all_goals unfold c3.oM c3.nK
  ·have hmk:m*k≤m*4:=mR m ω
   refine eN (λ_=>ag (Ib N hN c hm hb hd _ _) λt ht=> ?_) λ_=>ω
   have htl:=ht.1
   refine bs (len:=t.1.length) (F:=λn' j u=>c3.yb N (c3.oM N n) n' a d g c b u (k:Int) t.1 j) (λj u=>T5 b (3+m*k+j) u) hs ω (λn' j u hj hu eQ=> ?_) (λn' u hu=> ?_)
   all_goals unfold c3.yb c3.wV
   ·rw[aw (x:=(j:Int)+1) ω ω,af j]
    exact ax (λ_=>aB ⟨ω,ω⟩ (ag (row_in N ω hm hb hR ω hu _ _ _) λv hv=>eQ v hv)) λ_=>ω
   ·rw[aw (x:=(k:Int)+1) ω ω,af k]
    exact ax (λ_=>ω) λ_=>hr u (T5.mono hu (by rw[rY];omega))
  ·refine eN (λ_=>ω) λ_=>bs (len:=b.1.length) (F:=λn j u=>c3.JK N n a g c b u j) (λj u=>T5 b (3+m*5+j) u) hs ω (λn j u hj hu hr=> ?_) (λn u hu=> ?_)
   all_goals unfold c3.JK c3.PZ
   ·have I6:=hu.1
    have hM:PT b 7 (b.1.getD (j:Int).toNat da).1:=Ch hR δ ⟨_,qM hj,rfl⟩
    rw[aw (x:=(j:Int)+1) ω ω,af j]
    have h0:=hr u (T5.mono hu ω)
    exact ax (λ_=>aB ⟨ω,ω⟩ (ag (MG N _) λ_ _=>bF (λ_=>h0) λ_=>ok_eq (λ_=>h0) λ_=>ag (bD N ω hc.2.2.1) λp hp=>ag (np N ω hm hb.2.2.1 _ _) λq hq=>ag (bD N ω hq) λq hq=>ag (mM N ω ω ω hp hq) λy hy=>ag (yp N hy) λv hv=>bF (λ_=>nil _ δ) λ_=>ax (λ_=>aD (by rw[aK];omega) (hr _ (T5.mono (T5.app hu hM) ω))) λ_=>h0)) λ_=>ω
   ·refine ax (λ_=>ω) λ_=>bs (len:=g.length) (F:=λn j u=>c3.O8 N n a g b u j) (λj u=>T5 b (3+m*5+m+j) u) (T5.mono hu ω) ω (λn j u hj hu hr=> ?_) (λn u hu=> ?_)
    all_goals unfold c3.O8 c3.Mi
    ·have I6:=hu.1
     rw[aw (x:=(j:Int)+1) ω ω,af j]
     have h0:=hr u (T5.mono hu ω)
     dsimp only
     exact ax (λ_=>aB ⟨ω,ω⟩ (ag (H7 N ω hm hb.2.1 _) λx ⟨hx,hxe⟩=>aB ⟨ω,ω⟩ (aB ⟨ω,ω⟩ (ag (np N ω hm hb.2.2.1 _ _) λq hq=>nL (λhf=>bG (λ_=>ax (λ_=>aD (by rw[aK];omega) (hr _ (T5.mono (T5.app hu (vh hR (aa3 hR.a hxe hf))) ω))) λ_=>h0) λ_=>h0) λ_=>h0)))) λ_=>ω
    ·exact ax (λ_=>ω) λ_=>aq ⟨T5.mono hu ω,λ_=>hMa⟩
 unfold c3 c3.b
 exact bH (ej N hN hm hb) (bF (λ_=>nil _ δ) λ_=>ag (ve N ω ω) λ_ _=>bF (λ_=>nil _ δ) λ_=>ag (Di N ω ω) λ_ _=>bF (λ_=>nil _ δ) λ_=>bH (sx N (cv hb.1.1 ω) ω _) (ok_eq (λ_=>nil _ δ) λhs=>have hMa:=(wy hR.m a).1 hs;ag (Cc N ω hm hb.2.1 _) λh hh=>bG (λ_=>ag (row_in N ω hm hb hR ω (T5.nil (k:=0)) _ _ _) λl hl=>hj hMa l hl) λ_=>hj hMa [] T5.nil))
theorem Xu(N:Nat)(hN:5000000≤N){c:ae}{b:an}{d g:aE}{a:Int}{m:Nat}(h2:200≤m)(hm:m≤40000)(hc:G m aA c)(hb:G m aJ b)(hR:RB c b)(hd:L2 m d)(hg:L2 m g)(ha:aF a):Ok (λr=>r.2.2=0→RBs c b r.1) (jb N c b a d g):=by
 have eo: ∀e:Int,e≠0→Ok (λr:an×eu×Int=>r.2.2=0→RBs c b r.1) (some ((cf,(cS,(bn,(bn,(dd,(dm,())))))),(R0,e))):=λe h=>aq λh'=>absurd h' h
 unfold jb jb.b
 refine ag (Ok.and (aa4 N hN ω hc hb hR hd hg) (P2 N hN ω hc hb hd hg ha)) λl ⟨⟨⟨_,Sp⟩,hMa⟩,hl2⟩=>ok_eq (λh=>eo _ ω) λ_=>ok_eq (λh=>eo _ ω) λ_=>ag (K1 N hN c ω hb) λq hq=>bG (λh=>eo _ h) λ_=>bG (λh=>eo _ h) λh0=>ag (K2 N hN (Q:=λx=>G 64 qo x∧PT b x.2.1 x.2.2.1) (λx hx=>hx.1.2.2.2.1) (λx v hx hv=>⟨G5q hx.1 hv,hx.2⟩) (λx hx=>⟨G.mono (m:=0) (bz _) (hl2.2 x hx),Sp x hx⟩) hq) λz ⟨⟨hzl,zC⟩,FA⟩=>bG (λh=>eo _ h) λ_=> ?_
 have hMa:=hMa h0
 have hF:db 2 0∧ki b.1 b.2.1 2 0:=Dv δ
 have hj: ∀(p:bP) (r:eu) (t:bf) (x k n:Int),PB b.1 b.2.1 p→p.length≤1000→PT b k n→aF x→Ok (λr=>r.2.2=0→RBs c b r.1) (jb.j26 N b (cf,(cS,(bn,(bn,(dd,(dm,())))))) R0 p r t x k n):=λp r t x k n hp Bl hk hx=>by
  unfold jb.j26 jb.adO
  exact bH (dC N ω hx.1 hx.2) (ag (ud N ω (pM hx) hF hk) λu ⟨hu,I6⟩=>aD ω (ag (uc N ω ω hb hR SB.nil (PB.app hp hu) (bz _) (by rw[aS];omega)) λw hw=>bG (λh=>eo _ h) λh0=>aq λ_=>hw h0))
 refine bs (len:=z.1.length) (F:=λn i (s:bP×eu×bf)=>jb.Ks N n a c b (cf,(cS,(bn,(bn,(dd,(dm,())))))) R0 z.1 z.2.1 s.1 s.2.1 s.2.2 i) (s:=(_,(_,_))) (λi s=>(PB b.1 b.2.1 s.1∧s.1.length≤2*i)∧s.2.2.length≤i) ⟨⟨PB.nil,bz _⟩,bz _⟩ ω (λn i s hi hI hr=> ?_) (λn s hI=> ?_)
 all_goals unfold jb.Ks jb.JC
 all_goals obtain⟨⟨h4,hp⟩,ht⟩:=hI
 ·obtain⟨hx,hk⟩:=zC _ (qM (d:=gl) hi)
  have hx:aF (z.1.getD i gl).2.2.2.2.1:=hx.2.2.2.2.1
  rw[aw (x:=(i:Int)+1) ω ω,af i,aI]
  exact ax (λ_=>aB ⟨ω,ω⟩ (ax (λ_=>aB ⟨ω,ω⟩ (aD (by rw[List.length_singleton];omega) (aB ⟨ω,ω⟩ (aB ⟨ω,ω⟩ (aB ⟨ω,ω⟩ (bH (dC N ω hx.1 hx.2) (ag (ud N ω (pM hx) hk hF) λu ⟨hu,I6⟩=>aD ω (hr (_,(_,_)) ⟨⟨PB.app h4 hu,by dsimp only;rw[List.length_append];omega⟩,by dsimp only;rw[List.length_append,List.length_singleton];omega⟩)))))))) λ_=>hr s ⟨⟨h4,ω⟩,ω⟩)) λ_=>ω
 ·dsimp only
  have hS:db 4 0∧ki b.1 b.2.1 4 0:=Dv δ
  exact ax (λ_=>ω) λ_=>bH (dC N ω FA.1 FA.2) (ag (ud N ω (pM FA) hS hF) λu ⟨hu,I6⟩=>aD ω (ag (Ic N hN c ω hb) λx hx=>bH (rJ N (cv hb.2.1.1 ω) ω _) (bG (λhh=>hj _ _ _ _ _ _ (PB.app h4 hu) (by rw[aS];omega) (vh hR (Ld hh)) hx) λ_=>hj _ _ _ _ _ _ (PB.app h4 hu) (by rw[aS];omega) (Ch hR δ hMa) hx)))
theorem aea{c:ae}{b:an}(hR:RB c b)(w:om b){a:Int}(ha:0≤a∧lF a c.1.length)(h:(wk c b a).2=0):SB c b.2.1 (wk c b a).1∧(wk c b a).1.length≤65:=by
 have I:=aaJ (ot.2 hR) w h
 refine⟨⟨λx hx=>(I.q x hx).1,λx hx=>⟨I.place x hx,?_⟩,I.flat⟩,I.len⟩
 have pos: ∀y∈b.2.2.2.1,dG y.1 0∨ru b.2.1 y.1:=λy hy=>(hR.sk y hy).1
 unfold wk at hx h
 rw[aj (ot.2 hR)]at hx h
 by_cases h1:a<0
 ·exact absurd ha.1 ω
 by_cases h2:(c.1.length:Int)≤a
 ·have:=ha.2;unfold lF at this;omega
 rw[ah h1,ah h2]at hx h
 by_cases h3:gb b.2.2.2.1 0 a=0
 ·rw[aj h3]at hx;exact nomatch hx
 rw[ah h3]at hx h
 generalize gb b.2.2.2.1 0 a=q at*
 by_cases h4:(kK b.2.2.2.1 a q).2.2=0
 ·rw[aj h4]at hx
  rcases a8.1 hx with rfl|hx
  ·exact⟨.inl rfl,ha.2⟩
  ·obtain⟨p,hp,rfl⟩:=MR hx
   obtain⟨y,hy,e⟩:=cV.1 (List.of_mem_zip hp).2
   refine⟨?_,ha.2⟩
   dsimp only
   rw[←e]
   exact pos y (u9 hy).1
 ·rw[ah h4]at hx;exact nomatch hx
theorem aeb(N:Nat)(hN:5000000≤N){c:ae}{b:an}{m:Nat}(hm:m≤7000)(hb:G m aJ b)(hR:RB c b):Ok (JA c b) (oH N c b):=by
 have w:=(G.wf ω hb).w
 have hci:c.1.length≤6:=by
  have:=hR.c
  unfold eJ at this
  exact(bt (c5.1 this).1).2
 unfold oH oH.b
 refine bH (ej N hN ω hb) (bF (λ_=>JA.bad δ) λ_=>bs (len:=c.1.length) (F:=λn i s=>oH.l5 N n c b (cf,(cS,(bn,(bn,(dd,(dm,())))))) s i) (λi s=>SB c b.2.1 s∧s.length≤65*i) ⟨SB.nil,bz _⟩ ω (λn i s hi hI hr=> ?_) (λn s hI=> ?_))
 all_goals unfold oH.l5 oH.eA
 all_goals obtain⟨i1,i2⟩:=hI
 ·rw[aw (x:=(i:Int)+1) ω ω,af i]
  exact ax (λ_=>bH (aaH N hN c w _) (bG (λh=>JA.bad h) λh=>have J:=aea hR w ⟨ω,show(i:Int)<c.1.length by omega⟩ h;aD ω (hr _ ⟨SB.app i1 J.1,by rw[aS];omega⟩))) λ_=>ω
 ·exact ax (λ_=>ω) λ_=>ag (uc N ω ω hb hR i1 PB.nil ω (bz _)) λr hr=>aq hr
def oT(c:ae)(m:Nat)(s:aQ):Prop:=RB c s.2.2.1∧(1≤s.2.1∧s.2.1≤2000*(m:Int))∧(s.2.2.2.1.2.2.2.2.1.length≤4∧ ∀x∈s.2.2.2.1.2.2.2.2.1,JI c x)∧s.2.2.2.1.2.2.2.2.2.1.length≤12
abbrev SI(c:ae)(m:Nat)(r:aQ×de):Prop:=r.2.1=0→oT c m r.1
theorem oT.up{c:ae}{m:Nat}{s:aQ}(h:oT c m s):oT c (m+1) s:=⟨h.1,⟨h.2.1.1,gN h.2.1.2 ω⟩,h.2.2⟩
theorem oT.add{n k:Int}{m:Nat}(h:1≤n∧n≤2000*(m:Int))(hm:m≤999)(hk:0≤k∧k≤2000):1≤W .i64 (n+k)∧W .i64 (n+k)≤2000*((m+1:Nat):Int):=by
 rw[aw ω ω];omega
theorem Vg{c:ae}:([]:aO).length≤4∧ ∀x∈([]:aO),JI c x:=⟨bz _,λx hx=>nomatch hx⟩
theorem iN{c:ae}{m N:Nat}{e:Int}{x:aQ}(h:e=0→oT c m x):Ok (SI c m) ((fZ N e).bind λr=>some (x,r)):=by
 unfold fZ;exact aq h
theorem ew{c:ae}{m N:Nat}{e:Int}{x:aQ}(h:e≠0):Ok (SI c m) ((fZ N e).bind λr=>some (x,r)):=iN λh'=>absurd h' h
theorem aa5(N:Nat)(hN:200000≤N){s:aQ}(hl:s.2.2.1.2.1.length≤100000)(k:Int):Ti N s k=some (eS s.2.2.1.2.1 k).2:=by
 unfold Ti;rw[BN N hl hN];rfl
theorem Xv(N:Nat)(hN:200000≤N){s:aQ}(hl:s.2.2.1.1.length≤100000)(k:Int):Ie N s k=some (gJ s.2.2.1.1 k):=by
 unfold Ie;rw[sx N hl hN];rfl
theorem MV(N:Nat)(hN:4000000≤N){c:ae}{s:aQ}{m:Nat}(hm:m≤50000)(hs:GS m s)(hR:oT c m s){a b d e q:Int}(hq:aF q)(h1:db a b∧ki s.2.2.1.1 s.2.2.1.2.1 a b)(h2:db d e∧ki s.2.2.1.1 s.2.2.1.2.1 d e):Ok (SI c (m+1)) (P6 N s a b d e q):=by
 unfold P6
 exact bH (dC N ω hq.1 hq.2) (ag (ud N hN (pM hq) h1 h2) λp ⟨hp,Bl⟩=>ag (uc N hN hm hs.2.2.1 hR.1 SB.nil hp (bz _) ω) λr hr=>aq λh=>⟨(hr h).1,hR.up.2⟩)
theorem Xw(N:Nat)(hN:5000000≤N){c:ae}{s:aQ}{e:iw}{m:Nat}(h2:200≤m)(hm:m≤999)(hc:G m aA c)(hs:GS m s)(hR:oT c m s)(he:G 0 lZ e):Ok (SI c (m+1)) (oI N c s e):=by
 have hhl:=hs.2.2.2.1.2.2.2.2.1.1
 unfold oI oI.b
 generalize ((0:Int),((0:Int),_))=S0
 refine bs (len:=s.2.2.2.1.2.2.2.2.1.length) (F:=λn i (z:aQ×aO×Bool×Int)=>oI.l5 N n c z.1 e S0 ba z.2.1 z.2.2.1 z.2.2.2 i) (s:=(_,(_,(_,_)))) (λi z=>(GS m z.1∧oT c m z.1)∧z.1.2.2.2.1.2.2.2.2.1=s.2.2.2.1.2.2.2.2.1∧(G i (.slice e7) z.2.1∧ ∀x∈z.2.1,JI c x)) ⟨⟨hs,hR⟩,rfl,G.nil,λx hx=>nomatch hx⟩ ω (λn i z hi hI hr=> ?_) (λn z hI=> ?_)
 all_goals unfold oI.l5 oI.eA
 ·obtain⟨⟨hz,hzR⟩,hh,ho,hog⟩:=hI
  have Cs:=ho.1
  rw[hh,aw (x:=(i:Int)+1) ω ω,af i]
  have hx:G 0 e7 (s.2.2.2.1.2.2.2.2.1.getD (i:Int).toNat bb):=G.at hs.2.2.2.1.2.2.2.2.1 _
  have hxg:JI c (s.2.2.2.1.2.2.2.2.1.getD (i:Int).toNat bb):=hR.2.2.1.2 _ (qM hi)
  have snoc: ∀x:cG,JI c x→ ∀y∈z.2.1++[x],JI c y:=λx hx y hy=>(bl.1 hy).elim (hog y) λhy=>by rw[cr.1 hy];exact hx
  have hxm:G m e7 (s.2.2.2.1.2.2.2.2.1.getD (i:Int).toNat bb):=G.mono (bz m) hx
  refine ax (λ_=>aB ⟨ω,ω⟩ (ok_eq (λ_=>ag (Ok.and (UY N hN h2 ω hc hz.2.2.1 hxm he.2.2.1 he.2.2.2.2.2.2.1 he.2.2.2.2.2.2.2.1) (ad3 N hN h2 ω hc hz.2.2.1 hzR.1 hxm he.2.2.1 he.2.2.2.2.2.2.1 he.2.2.2.2.2.2.2.1)) λr ⟨⟨BC,zV⟩,U1⟩=>bG (λh=>ew h) λh0=> ?_) λ_=>ax (λ_=>aD (by rw[aK];omega) (hr (z.1,(z.2.1++[s.2.2.2.1.2.2.2.2.1.getD (i:Int).toNat bb],z.2.2)) ⟨⟨hz,hzR⟩,hh,G.cat ho (G.one hx (aH 1)),snoc _ hxg⟩)) λ_=>hr z ⟨⟨hz,hzR⟩,hh,G.mono ω ho,hog⟩)) λ_=>ω
  have Au:GS m (z.1.1,(z.1.2.1,(r.1,z.1.2.2.2))):=⟨hz.1,hz.2.1,BC,hz.2.2.2⟩
  have aqS:oT c m (z.1.1,(z.1.2.1,(r.1,z.1.2.2.2))):=⟨(U1 h0).1,hzR.2⟩
  have alp:G 0 e7 r.2.1:=zV
  exact ax (λhq=>aD (by rw[aK];omega) (hr ((z.1.1,(z.1.2.1,(r.1,z.1.2.2.2))),(z.2.1++[r.2.1],(true,r.2.1.2.2.2.1))) ⟨⟨Au,aqS⟩,hh,G.cat ho (G.one alp (aH 1)),snoc _ ⟨by rw[(U1 h0).2.1];exact hxg.1,hq,(U1 h0).2.2⟩⟩)) λ_=>hr ((z.1.1,(z.1.2.1,(r.1,z.1.2.2.2))),(z.2.1,(true,r.2.1.2.2.2.1))) ⟨⟨Au,aqS⟩,hh,G.mono ω ho,hog⟩
 ·obtain⟨⟨hz,hzR⟩,hh,ho,hog⟩:=hI
  rw[hh]
  exact ax (λ_=>ω) λ_=>bF (λ_=>ew δ) λ_=>aq λ_=>⟨hzR.1,hzR.up.2.1,⟨cv ho.1 hR.2.2.1.1,hog⟩,hzR.2.2.2⟩
theorem aa6(N:Nat)(hN:5000000≤N){c:ae}{s:aQ}{e:iw}{m:Nat}(h2:200≤m)(hm:m≤999)(hc:G 5 aA c)(hs:GS m s)(hR:oT c m s)(he:G 0 lZ e):Ok (SI c (m+1)) (oJ N c s e):=by
 have Fv:G m aA c:=G.mono ω hc
 have hk:=hs.2.2.2.1
 have hb:=hs.2.2.1
 have up:=hR.up.2
 unfold oJ oJ.b
 refine ok_eq (λ_=> ?_) λ_=>ok_eq (λ_=> ?_) λ_=>ok_eq (λ_=> ?_) λ_=>ok_eq (λ_=> ?_) λ_=>ok_eq (λ_=> ?_) λ_=>ok_eq (λ_=> ?_) λ_=>ok_eq (λ_=> ?_) λ_=>ok_eq (λ_=> ?_) λ_=>iN λ_=>hR.up
 ·exact ag (ad7 N hN ω Fv hb hR.1 _ _ _) λr hr=>iN λh=>⟨hr h,up⟩
 ·exact ag (ad8 N hN h2 ω Fv hb hR.1 _) λr hr=>iN λh=>⟨(hr h).1,up⟩
 ·exact ag (KV N hN c hc.2.2.2.2.2.2.1 ω hb _) λr hr=>aq λ_=>⟨hR.1,oT.add hR.2.1 hm (by have:=hr.1.1;omega),⟨hr.1.1,hr.2⟩,hR.2.2.2⟩
 ·exact ag (Xw N hN h2 ω Fv hs hR he) λr hr=>aq hr
 ·exact ok_eq (λ_=>ew δ) λ_=>ag (U0 N hN h2 ω Fv hb hs.2.1) λl ⟨hl,awH⟩=>bG (λh=>ew h) λ_=>ag (vf N ω hs.1 hc.2.2.2.2.1) λt ht=>bF (λ_=>ew δ) λ_=>ag (UZ N hN c ω hb) λu hu=>aq λ_=>⟨hR.1,oT.add hR.2.1 hm ω,Vg,awH⟩
 ·have hx:G 0 e7 (s.2.1,(e.2.2.2.2.2.1,(e.2.1,(e.2.2.2.2.2.2.2.1,())))):=⟨hs.2.1,he.2.2.2.2.2.1,he.2.1,he.2.2.2.2.2.2.2.1,trivial⟩
  exact ag (K0 N hN ω ω Fv hb hk.2.2.2.2.2.1 hk.2.2.2.2.2.2.1 hx) λr hr=>aq λ_=>⟨hR.1,oT.add hR.2.1 hm δ,hR.2.2⟩
 ·refine ag (Ok.and (P3 N hN c h2 ω hb hk.2.2.2.2.2.1 hk.2.2.2.2.2.2.1) (aa2 N hN h2 ω hb hR.1 hk.2.2.2.2.2.1 hk.2.2.2.2.2.2.1)) λr ⟨⟨BC,zV⟩,U1⟩=>bG (λh=>ew h) λh0=>ag (P1 N ω c h2 ω hk.2.2.2.2.2.2.2.2.1 hk.2.2.2.2.2.2.2.1.1 zV hk.2.2.2.2.2.2.1) λd hd=> ?_
  generalize ((0:Int),((0:Int),_))=S0
  have JX:=zV.1
  refine bs (len:=r.2.1.length) (F:=λn i q=>oJ.l41 N n _ S0 ba r.2.1 q i) (λ_ _=>True) trivial ω (λn i q hi _ eQ=> ?_) (λn q _=> ?_)
  all_goals unfold oJ.l41 oJ.adS
  ·rw[aw (x:=(i:Int)+1) ω ω,af i]
   exact ax (λ_=>aB ⟨ω,ω⟩ (ok_eq (λ_=>eQ _ trivial) λ_=>eQ _ trivial)) λ_=>ω
  ·exact ax (λ_=>ω) λ_=>aq λ_=>⟨(U1 h0).1,up.1,hR.2.2.1,(U1 h0).2⟩
 ·exact ag (Ok.and (K3 N hN h2 ω Fv hb hk.2.2.2.2.2.2.2.2.1 hk.2.2.2.2.2.2.2.2.2.1 hk.1) (Xu N hN h2 ω Fv hb hR.1 hk.2.2.2.2.2.2.2.2.1 hk.2.2.2.2.2.2.2.2.2.1 hk.1)) λr ⟨⟨BC,zV⟩,U1⟩=>bG (λh=>ew h) λh0=>ag (Ok.and (U4 N hN h2 ω hc BC) (aeb N hN ω BC (U1 h0).1)) λb ⟨hb,vk⟩=>bG (λh=>ew h) λh1=>ag (Vd N ω (cv hb.1.1 ω) _ _) λu hu=>aq λh=>have B:=(vk h1).1;⟨B.Xk (hu h).1 B.a (hu h).2.1 (λ_ h=>h) λx hx=>(hu h).2.1 _ (B.ma x hx),up.1,Vg,bz _⟩
theorem aa7(N:Nat)(hN:5000000≤N){c:ae}{s:aQ}{e:iw}{m:Nat}(h2:200≤m)(hm:m≤999)(hc:G 5 aA c)(hs:GS m s)(hR:oT c m s)(he:G 0 lZ e):Ok (SI c (m+1)) (qL N c s e):=by
 obtain⟨s1,s2,s3,⟨k1,k2,k3,k4,k5,k6,k7,k8,k9,U6,k11⟩,s5⟩:=hs
 have hs:GS m s:=⟨s1,s2,s3,⟨k1,k2,k3,k4,k5,k6,k7,k8,k9,U6,k11⟩,s5⟩
 have up:=hR.up.2
 unfold qL qL.b
 have hj: ∀(S0:aQ) (z:de),Ok (SI c (m+1)) (qL.W9 N c s e S0 z):=λS0 z=>by
  unfold qL.W9 qL.P0
  exact ag (P5 N _ _) λ_ _=>bF (λ_=>ew δ) λ_=>ag (aa6 N hN h2 hm hc hs hR he) λr hr=>aq hr
 have mem: ∀{x:aE},G m (.slice kM) x→G m aJ ((x,s.2.2.1.2):an):=λh=>⟨h,s3.2⟩
 have rb: ∀{x:aE},dN x=true→(∀n,jV s.2.2.1.1 n→jV x n)→RB c ((x,s.2.2.1.2):an):=λh1 h2=>hR.1.Xk h1 hR.1.a h2 (λ_ h=>h) λx hx=>h2 _ (hR.1.ma x hx)
 have Jf:=λk:Int=>Ok.and (MD N ω (m:=m) ω s3.1 e.2.1 k) (Vd N ω (cv s3.1.1 ω) e.2.1 k)
 have hd: ∀z:aE×Int,G m (.slice kM) z.1∧(z.2=0→dN z.1=true∧(∀n,jV s.2.2.1.1 n→jV z.1 n)∧jV s.2.2.1.1 e.2.1)→Ok (SI c (m+1)) (cond (aN z.2 0) (cond (aN e.1 11) ((ME N c (z.1,s.2.2.1.2) e.2.1).bind λr2=>cond (aN s.2.2.2.1.2.1 3) ((qm N s.2.2.2.1.2.2.2.2.2.2.1 e.2.1).bind λr3=>(fZ N z.2).bind λr4=>some ((s.1,(s.2.1,(r2.1,((s.2.2.2.1.1,(s.2.2.2.1.2.1,(s.2.2.2.1.2.2.1,(s.2.2.2.1.2.2.2.1,(s.2.2.2.1.2.2.2.2.1,(s.2.2.2.1.2.2.2.2.2.1,(r3,s.2.2.2.1.2.2.2.2.2.2.2))))))),s.2.2.2.2)))),r4)) ((fZ N z.2).bind λr5=>some ((s.1,(s.2.1,(r2.1,s.2.2.2))),r5))) ((fZ N z.2).bind λr6=>some ((s.1,(s.2.1,((z.1,s.2.2.1.2),s.2.2.2))),r6))) ((fZ N z.2).bind λr7=>some ((s.1,(s.2.1,((z.1,s.2.2.1.2),s.2.2.2))),r7))):=λz ⟨hz,hi⟩=>
  ok_eq (λh0=>have B:=rb (hi h0).1 (hi h0).2.1;ok_eq (λ_=>ag (Ql N hN (m:=m) ω (mem hz) B _ ((hi h0).2.1 _ (hi h0).2.2)) λb hb=>ok_eq (λ_=>ag (EA N ω ω k7 _) λl hl=>iN λ_=>⟨hb,up⟩) λ_=>iN λ_=>⟨hb,up⟩) λ_=>iN λ_=>⟨B,up⟩) λh=>ew h
 refine ok_eq (λ_=>ag (Jf _) λz hz=>hd z hz) λ_=>ok_eq (λ_=>ag (Jf _) λz hz=>hd z hz) λ_=>ok_eq (λ_=> ?_) λ_=>ok_eq (λ_=> ?_) λ_=>hj _ _
 ·exact ag (pv N ω ω hs _) λ_ _=>ok_eq (λ_=>ew δ) λ_=>bG (λ_=>ew δ) λ_=>ag (Jf _) λz ⟨hz,hi⟩=>bG (λh=>ew h) λh0=>ag (vf N ω s1 hc.2.2.2.1) λt ht=>bF (λ_=>ew δ) λ_=>aq λ_=>⟨rb (hi h0).1 (hi h0).2.1,up.1,Vg,bz _⟩
 ·exact ag (pv N ω ω hs _) λ_ _=>ok_eq (λ_=>ew δ) λ_=>ag (pv N ω ω hs _) λ_ _=>bG (λ_=>ew δ) λ_=>hj _ _
theorem aec(N:Nat)(hN:5000000≤N){c:ae}{s:aQ}{e:iw}{m:Nat}(h2:200≤m)(hm:m≤999)(hc:G 5 aA c)(hs:GS m s)(hR:oT c m s)(he:G 0 lZ e):Ok (SI c (m+1)) (Xh N c s e):=by
 have Fv:G m aA c:=G.mono ω hc
 have hb:=hs.2.2.1
 have Xi:=he.2.2.2.2.2.2.1
 have up:=hR.up.2
 have B:=hR.1
 have ml:=cv hb.1.1 (show m≤50000 by omega)
 have al:=cv hb.2.1.1 (show m≤50000 by omega)
 have hW:db 1 0∧ki s.2.2.1.1 s.2.2.1.2.1 1 0:=Dv δ
 have st:=λk:Int=>Xv N ω (s:=s) ω k
 have stm: ∀k:Int,gJ s.2.2.1.1 k≠0→jV s.2.2.1.1 k:=λk h=>(wy B.m k).1 h
 unfold Xh
 refine ok_eq (λ_=> ?_) λ_=>ok_eq (λ_=> ?_) λ_=>ok_eq (λ_=> ?_) λ_=>ok_eq (λ_=> ?_) λ_=>ok_eq (λ_=> ?_) λ_=>ok_eq (λ_=> ?_) λ_=>ok_eq (λ_=> ?_) λ_=>ok_eq (λ_=> ?_) λ_=>ok_eq (λ_=> ?_) λ_=>ok_eq (λ_=> ?_) λ_=>ok_eq (λ_=> ?_) λ_=>ag (aa7 N hN h2 hm hc hs hR he) λr hr=>aq hr
 ·exact ag (aaS N ω ml _) λr hr=>iN λh=>⟨B.Xk (hr h).1 B.a (hr h).2 (λ_ h=>h) λx hx=>(hr h).2 _ (B.ma x hx),up⟩
 ·exact ag (ad2 N ω ml al _) λr hr=>iN λh=>⟨B.Xk B.m (hr h).1 (λ_ h=>h) (hr h).2.1 (hr h).2.2,up⟩
 ·exact bH (aa5 N ω ω _) (bF (λ_=>ew δ) λhf=>ag (MV N ω ω hs hR Xi hW (vh B ((qq B.a _).1 hf))) λr hr=>aq hr)
 ·exact ag (Qk N hN h2 ω Fv hb B he.2.2.1 Xi) λr hr=>iN λh=>⟨(hr h).1,up⟩
 ·exact bH (st _) (ok_eq (λ_=>ew δ) λh0=>bH (st _) (bG (λ_=>ew δ) λ_=>ag (MV N ω ω hs hR Xi hW (Ch B δ (stm _ h0))) λr hr=>aq hr))
 ·exact bH (st _) (ok_eq (λ_=>ew δ) λh0=>ag (np N ω ω hb.2.2.1 _ _) λg hg=>ag (bD N ω hg) λx hx=>ag (rK N ω ω hx) λx hx=>ag (bD N ω Xi) λy hy=>ag (qH N ω ω ω hy hx) λ_ _=>ax (λ_=>ew δ) λ_=>ag (MV N ω ω hs hR Xi hW (Ch B δ (stm _ h0))) λr hr=>aq hr)
 ·exact ag (aaU N ω al B.ma _ _) λr hr=>iN λh=>⟨B.Xk B.m (hr h).1 (λ_ h=>h) (hr h).2.1 (hr h).2.2,up⟩
 ·have hx:G 0 nn (s.2.1,(e.2.2.1,(e.2.2.2.1,(e.2.2.2.2.1,(e.2.2.2.2.2.2.1,(e.2.2.2.2.2.2.2.1,())))))):=⟨hs.2.1,he.2.2.1,he.2.2.2.1,he.2.2.2.2.1,Xi,he.2.2.2.2.2.2.2.1,trivial⟩
  exact ag (aaZ N hN h2 ω Fv hb B hx) λr hr=>aq λh=>⟨hr h,oT.add hR.2.1 hm δ,hR.2.2⟩
 ·exact bH (aa5 N ω ω _) (bF (λ_=>ew δ) λ_=>ag (Xs N ω (cv hb.2.2.2.2.2.1.1 ω) _ _) λr hr=>iN λh=>⟨B.MN (hr h).1 λx hx=>B.ok x ((hr h).2 x hx),up⟩)
 ·exact ag (Ok.and (yd N hN c h2 ω hb _ he.2.2.2.2.2.2.2.1) (Eg N hN ω hb B _ _)) λr ⟨⟨BC,zV⟩,U1⟩=>ok_eq (λh0=>bG (λ_=>ag (PW N ω h2 ω hs.2.2.2.1.2.2.2.2.2.2.2.2.2.1 zV) λg hg=>iN λ_=>⟨U1 h0,up⟩) λ_=>iN λ_=>⟨U1 h0,up⟩) λh=>ew h
 ·exact ag (vf N ω hs.1 Xi) λt ht=>bF (λ_=>ew δ) λ_=>aq λ_=>⟨B,up⟩
theorem Vh(N:Nat)(hN:5000000≤N){c:ae}{s:aQ}{e:iw}{m:Nat}(h2:200≤m)(hm:m≤999)(hc:G 5 aA c)(hs:GS m s)(hR:oT c m s)(he:G 0 lZ e):Ok (λr=>oT c (m+1) r.1) (Tj N c s e):=by
 have cg: ∀r:de,Ok (λr:aQ×de=>oT c (m+1) r.1) (some (s,r)):=λr=>aq hR.up
 unfold Tj
 exact bH (oe N ω c) (bF (λ_=>cg _) λ_=>ag (KZ N ω e) λ_ _=>bF (λ_=>cg _) λ_=>ag (aec N hN h2 hm hc hs hR he) λr hr=>bG (λ_=>cg _) λh=>aq (hr h))
theorem FQ(N:Nat){k:Nat}{d:aG}(h:Dk k d)(hk:k≤iq:=by first|decide|(unfold iq;omega)):Ok (λr=>(0≤r.1∧r.1<9223372036854775808)∧Dk (k+1) r.2) (KX N d):=by
 unfold KX
 refine ag (FO N hk h) λr ⟨hr,hd⟩=>ok_eq (λ_=>ω) λ_=> ?_
 have h3:shr .u64 r.1 3=r.1/8:=by rw[LW ω ω];rfl
 have put: ∀x:Int,0≤x∧x<9223372036854775808→Ok (λr=>(0≤r.1∧r.1<9223372036854775808)∧Dk (k+1) r.2) (some (W .i64 x,r.2)):=λx hx=>aq ⟨by rw[aw ω ω];exact hx,hd⟩
 have awI: ∀y:Int,0<y∧y≤1000000000000→0≤rem (r.1/8) y∧rem (r.1/8) y<9223372036854775808:=λy hy=>by have:=rem_in (x:=r.1/8) (y:=y) ω hy.1;omega
 dsimp only
 rw[h3,ap7]
 repeat' first|exact put _ ω|exact put _ (awI _ δ)|refine ax (λ_=> ?_) (λ_=> ?_)|refine ok_eq (λ_=> ?_) (λ_=> ?_)|(exfalso;omega)
def Dw(x:cG):Prop:=oc x.1 x.2.1 x.2.2.1 x.2.2.2.1
theorem Qm{c:ae}:eJ c=true↔(1≤c.1.length∧c.1.length≤6)∧(∀x∈c.1,Dw x)∧qE c:=by
 unfold eJ
 simp only[bM,fP]
 rw[←gS (d:=bb) (Q:=Dw)];rfl
abbrev Cq(c:ae):Prop:=(G 5 aA c∧1≤c.1.length)∧eJ c=true
theorem aly{x:cG}(h:Dw x):G 5 e7 x:=by
 have g: ∀a b c d:Int,oc a b c d→aF a∧aF b∧aF c∧aF d:=λa b c d h=>by unfold oc at h;unfold aF;omega
 have:=g _ _ _ _ h
 exact⟨this.1,this.2.1,this.2.2.1,this.2.2.2,trivial⟩
theorem alz{c:ae}(h:qE c)(h1:c.2.1<9223372036854775808)(h2:c.2.2.2.2.2.2.1≤1000):G 5 (.pair (.int .i64) (.pair (.int .i64) (.pair (.int .i64) (.pair (.int .i64) (.pair (.int .i64) (.pair (.int .i64) .unit)))))) c.2:=by
 have g: ∀a b c d e f:Int,od a b c d e f→a<9223372036854775808→f≤1000→aF a∧aF b∧aF c∧aF d∧aF e∧aF f:=λa b c d e f h h1 h2=>by unfold od at h;unfold aF;omega
 have:=g _ _ _ _ _ _ h h1 h2
 exact⟨this.1,this.2.1,this.2.2.1,this.2.2.2.1,this.2.2.2.2.1,this.2.2.2.2.2,trivial⟩
theorem Ww(N:Nat)(hN:100≤N){d:aG}(h:Dk 0 d):Ok (λr=>Cq r.1∧Dk 1000 r.2) (wA N d):=by
 unfold wA wA.b
 refine ag (gX N δ h) λr hr=> ?_
 rw[aw (x:=1+r.1) ω ω]
 obtain⟨k,hk⟩: ∃k:Nat,1+r.1=(k:Int):=⟨(1+r.1).toNat,ω⟩
 rw[hk]
 have b1: ∀x y:Int,0≤x∧x<y→y≤1000000000000→1≤W .i64 (1+x)∧W .i64 (1+x)≤y:=λx y h1 h2=>by rw[aw ω ω];omega
 refine wv (F:=λn x (s:aG×aO)=>wA.l3 N n s.1 (cS,eF) (cS,eF) s.2 x) (λx s=>x+s.2.length=k∧Dk (1+20*s.2.length) s.1∧ ∀y∈s.2,Dw y) (λn x s hI hr=> ?_) (λn s hI=> ?_) k N (r.2,_) ω ⟨rfl,hr.2,λy hy=>nomatch hy⟩
 all_goals unfold wA.l3 wA.nw
 ·obtain⟨hx,hd,hG⟩:=hI
  have Bj: ∀(d:aG) (x4:cG),Dk (1+20*s.2.length+10) d→Dw x4→Ok (λr=>Cq r.1∧Dk 1000 r.2) (cond (small (s.2.length+[x4].length)) (wA.l3 N n d (cS,eF) (cS,eF) (s.2++[x4]) (W .i64 (((x+1:Nat):Int)-1))) none):=λd x4 hd hx4=>by
   rw[aw (x:=((x+1:Nat):Int)-1) ω ω,show((x+1:Nat):Int)-1=(x:Int)by omega]
   refine aD (by rw[aK];omega) (hr (_,_) ⟨by rw[aS,aK];omega,Dk.mono hd (by rw[aS,aK];omega),λy hy=> ?_⟩)
   rcases bl.1 hy with hy|hy
   ·exact hG y hy
   ·rw[cr.1 hy];exact hx4
  have hj: ∀(d:aG) (x5:cG),Dk (1+20*s.2.length+6) d→Dw x5→Ok (λr=>Cq r.1∧Dk 1000 r.2) (wA.j8 N (wA.l3 N n) d (cS,eF) (cS,eF) s.2 ((x+1:Nat):Int) x5):=λd x5 hd hx5=>by
   unfold wA.j8 wA.Zz
   refine ag (oC N δ hd) λr hd=>nL (λ_=> ?_) λ_=>Bj _ _ (Dk.mono hd ω) hx5
   refine ag (FQ N hd) λr ⟨h1,hd⟩=>ok_eq (λ_=>ω) λ_=> ?_
   dsimp only
   have e1:=rem_in h1.1 (show(0:Int)<1000000001 by decide)
   exact ag (FQ N hd) λr ⟨h2,hd⟩=>ok_eq (λ_=>ω) λ_=>have e2:=rem_in h2.1 (show(0:Int)<1000000001 by decide);Bj _ _ (Dk.mono hd ω) ⟨hx5.1,hx5.2.1,⟨e1.1,by dsimp only;omega⟩,⟨e2.1,by dsimp only;omega⟩⟩
  refine ax (λ_=> ?_) λ_=>ω
  refine ag (gX N δ hd) λa ⟨ha,hd⟩=>ag (gX N δ hd) λb ⟨hb,hd⟩=>ag (gX N δ hd) λc ⟨hc,hd⟩=>ag (gX N δ hd) λe ⟨he,hd⟩=>ag (oC N δ hd) λr hd=>nL (λ_=>ag (FQ N hd) λr ⟨h1,hd⟩=>ok_eq (λ_=>ω) λ_=>hj _ _ (Dk.mono hd ω) ⟨⟨ha.1,by dsimp only;omega⟩,b1 _ _ (rem_in h1.1 δ) δ,⟨hc.1,by dsimp only;omega⟩,⟨he.1,by dsimp only;omega⟩⟩) λ_=>hj _ _ (Dk.mono hd ω) ⟨⟨ha.1,by dsimp only;omega⟩,⟨(b1 _ _ hb δ).1,Int.le_trans (b1 _ _ hb δ).2 δ⟩,⟨hc.1,by dsimp only;omega⟩,⟨he.1,by dsimp only;omega⟩⟩
 ·obtain⟨hx,hd,hG⟩:=hI
  have hl:s.2.length≤4∧1≤s.2.length:=ω
  have hd:Dk 900 s.1:=Dk.mono hd ω
  have fin: ∀(q t p b l m:Int),(0≤q∧q<9223372036854775808)→(0≤t∧t<5)→(0≤p∧p<3)→(0≤b∧b<3)→(0≤l∧l<20)→(0≤m∧m<100)→Cq (s.2,(q,(t,(p,(b,(W .i64 (1+l),(m,()))))))):=λq t p b l m h1 h2 h3 h4 h5 h6=>by
   have h7:=b1 _ _ h5 δ
   have hr:qE (s.2,(q,(t,(p,(b,(W .i64 (1+l),(m,()))))))):=(show od q t p b (W .i64 (1+l)) m by unfold od;omega)
   exact⟨⟨⟨⟨by dsimp only;omega,λy hy=>aly (hG y hy)⟩,alz hr h1.2 (show m≤1000 by omega)⟩,hl.2⟩,Qm.2 ⟨⟨hl.2,by dsimp only;omega⟩,hG,hr⟩⟩
  refine ax (λ_=>ω) λ_=>ag (gX N δ hd) λa ⟨ha,hd⟩=>ag (gX N δ hd) λb ⟨hb,hd⟩=>ag (gX N δ hd) λc ⟨hc,hd⟩=>ag (gX N δ hd) λe ⟨he,hd⟩=>ag (gX N δ hd) λf ⟨hf,hd⟩=> ?_
  dsimp only
  exact ag (gX N δ hd) λg ⟨hg,hd⟩=>ag (oC N δ hd) λr hd=>nL (λ_=>ag (FQ N hd) λr ⟨hr,hd⟩=>aq ⟨fin _ _ _ _ _ _ hr hb hc he hf hg,Dk.mono hd δ⟩) λ_=>aq ⟨fin _ _ _ _ _ _ ⟨ha.1,ω⟩ hb hc he hf hg,Dk.mono hd δ⟩
theorem Xx{q:Int}(h0:q≠0):eK [((1:Int),((0:Int),((-q:Int),()))),((3:Int),((0:Int),(q,())))]=true∧dG (gQ [((1:Int),((0:Int),((-q:Int),()))),((3:Int),((0:Int),(q,())))]) 0:=by
 have ok:eK [((1:Int),((0:Int),((-q:Int),()))),((3:Int),((0:Int),(q,())))]=true:=by
  unfold eK
  rw[fA]
  refine aU λj hj=> ?_
  match j,hj with
  |0,_=>exact⟨show db 1 0 by decide,show-q≠0 by omega,λh=>absurd h δ⟩
  |1,_=>exact⟨show db 3 0 by decide,h0,λ_=> .inl (show(1:Int)<3 by decide)⟩
 refine⟨ok,?_⟩
 unfold gQ
 rw[aj ok]
 show-q+(q+0)=0
 omega
theorem Tx(N:Nat)(hN:1000≤N){c:ae}(hc:Cq c)(nh:c.2.1<9223372036854775808):Ok (λr=>RB c r.1∧r.2=0) (ja N c):=by
 obtain⟨⟨hc,DT⟩,hp⟩:=hc
 have hl:=hc.1.1
 obtain⟨h1,h2,h3⟩:=Qm.1 hp
 unfold ja ja.b
 have hj: ∀b:an,(∀p:List Int,p.length=c.1.length→fe p=true→RB c (b.1,(b.2.1,(b.2.2.1,(b.2.2.2.1,(p,b.2.2.2.2.2))))))→Ok (λr=>RB c r.1∧r.2=0) (ja.j6 N c (cf,(cS,(bn,(bn,(dd,(dm,())))))) b []):=λb hb=>by
  unfold ja.j6 ja.ON
  obtain⟨b1,b2,b3,b4,b5,b6⟩:=b
  refine bs (len:=c.1.length) (F:=λn i (z:an×List Int)=>ja.l7 N n c (cf,(cS,(bn,(bn,(dd,(dm,())))))) z.1 z.2 i) (s:=((b1,(b2,(b3,(b4,(b5,b6))))),_)) (λi z=>(z.1.1=b1∧z.1.2.1=b2∧z.1.2.2.1=b3∧z.1.2.2.2.1=b4∧z.1.2.2.2.2.2=b6)∧z.2.length=i∧ ∀x∈z.2,1≤x∧x≤1000000000000) ⟨⟨rfl,rfl,rfl,rfl,rfl⟩,rfl,λx hx=>nomatch hx⟩ ω (λn i z hi hI hr=> ?_) (λn z hI=> ?_)
  all_goals unfold ja.l7 ja.oP
  all_goals obtain⟨hz,hzl,hzp⟩:=hI
  ·rw[aw (x:=(i:Int)+1) ω ω,af i,aI]
   have hx:=(h2 _ (qM (d:=bb) hi)).2.1
   exact ax (λ_=>aB ⟨ω,ω⟩ (aD (by rw[List.length_singleton];omega) (hr (_,_) ⟨hz,by dsimp only;rw[List.length_append,List.length_singleton];omega,λy hy=>by
    rcases bl.1 hy with hy|hy
    ·exact hzp y hy
    ·rw[cr.1 hy];exact hx⟩))) λ_=>ω
  ·refine ax (λ_=>ω) λ_=>aq ⟨?_,rfl⟩
   obtain⟨z1,z2,z3,z4,z5⟩:=hz
   dsimp only
   rw[z1,z2,z3,z4,z5]
   refine hb _ hzl ?_
   unfold fe
   exact aU ((gS (d:=(0:Int)) (Q:=λx=>1≤x∧x≤1000000000000)).2 hzp)
 have mk: ∀r:au,eK r=true→dG (gQ r) 0→(∀x∈r,ki [] [] x.1 x.2.1)→ ∀p:List Int,p.length=c.1.length→fe p=true→RB c (([]:aE),(([]:aO),(r,(([]:au),(p,(([]:aY),())))))):=λr r1 r2 r3 p p1 p2=>
  ⟨hp,(show dN []=true by decide),(show gP []=true by decide),λx hx=>(nomatch hx),r1,r2,(show oj []=true by decide),(show dn []=true by decide),show(p.length:Int)=c.1.length by omega,r3,λx hx=>(nomatch hx),λx hx=>(nomatch hx),p2⟩
 refine bH (oe N ω c) (bF (λh=>by rw[hp]at h;exact nomatch h) λ_=>bG (λh0=>hj _ ?_) λ_=>hj _ ?_)
 ·have hs:0≤c.2.1:=h3.1
  have e: ∀q:Int,0≤q→q<9223372036854775808→W .i64 (0-q)= -q:=λq h1 h2=>by rw[aw ω ω];omega
  have h0:(c.2.1:Int)≠0:=h0
  rw[e _ hs nh]
  obtain⟨ok,tot⟩:=Xx h0
  refine mk _ ok tot λx hx=> ?_
  rcases a8.1 hx with rfl|hx
  ·exact⟨λh=>absurd h (show ¬dG 1 5 by decide),λh=>absurd h (show ¬(dG 1 6∨dG 1 7)by decide)⟩
  ·rw[cr.1 hx];exact⟨λh=>absurd h (show ¬dG 3 5 by decide),λh=>absurd h (show ¬(dG 3 6∨dG 3 7)by decide)⟩
 ·exact mk [] δ δ λx hx=>nomatch hx
theorem Qn(N:Nat)(hN:1000≤N){c:ae}(hc:Cq c)(nh:c.2.1<9223372036854775808):Ok (λr:aQ×Int=>(GS 5 r.1∧oT c 5 r.1)∧r.2=0) (aa8 N c):=by
 unfold aa8
 exact ag (Ok.and (Te N ω hc.1.1) (Tx N ω hc nh)) λb ⟨nr,vk,hb3⟩=>bG (λh=>absurd hb3 h) λ_=>aq ⟨⟨⟨bV,(show aF 1 from bw),nr,G.zero 5 sX,G.zero 5 im,trivial⟩,vk,⟨(show(1:Int)≤1 by decide),(show(1:Int)≤2000*((5:Nat):Int)by decide)⟩,Vg,bz _⟩,rfl⟩
theorem alA(N:Nat)(hN:5000000≤N){c:ae}{l:di}{m:Nat}(hm:m≤700)(hc:Cq c)(nh:c.2.1<9223372036854775808)(hl:wK m l):Ok (λr=>GS 900 r.1∧oT c 900 r.1) (IB N c l):=by
 have I3:=hl.1
 unfold IB IB.b
 refine ag (Qn N ω hc nh) λb ⟨⟨nr,vk⟩,hb3⟩=>bG (λh=>absurd hb3 h) λ_=>bs (len:=l.length) (F:=λn i (z:aQ×au)=>IB.l6 N n l c (Ty.zero dQ) z.1 z.2 i) (s:=(_,_)) (λi z=>(GS (200+i) z.1∧oT c (200+i) z.1)∧z.2.length≤i) ⟨⟨G.mono ω nr,vk.1,⟨vk.2.1.1,gN vk.2.1.2 δ⟩,vk.2.2⟩,aH 0⟩ ω (λn i z hi hI hr=> ?_) (λn z hI=> ?_)
 all_goals unfold IB.l6 IB.uU
 all_goals obtain⟨⟨h1,h3⟩,h2⟩:=hI
 ·rw[aw (x:=(i:Int)+1) ω ω,af i]
  have hx:G 0 lZ (l.getD (i:Int).toNat zz8):=G.at hl _
  exact ax (λ_=>aB ⟨ω,ω⟩ (ag (Ok.and (U7 N hN ω ω hc.1.1 h1 hx) (Vh N hN ω ω hc.1.1 h1 h3 hx)) λr ⟨BC,zV⟩=>aD (by rw[List.length_singleton];omega) (hr (r.1,z.2++[r.2]) ⟨⟨BC,zV⟩,by dsimp only;rw[List.length_append,List.length_singleton];omega⟩))) λ_=>ω
 ·exact ax (λ_=>ω) λ_=>aq ⟨G.mono ω h1,h3.1,⟨h3.2.1.1,gN h3.2.1.2 ω⟩,h3.2.2⟩
theorem Cq.f{c:ae}(h:Cq c):Cf c∧c.2.1<9223372036854775808:=⟨⟨h.1.1,h.1.2⟩,h.1.1.2.1.2⟩
def StN(c:ae)(n:Nat)(s:aQ):Prop:=GS (200+n) s∧oT c (200+n) s
theorem oT.mono{c:ae}{m n:Nat}{s:aQ}(h:oT c m s)(hn:m≤n):oT c n s:=⟨h.1,⟨h.2.1.1,gN h.2.1.2 ω⟩,h.2.2⟩
theorem StN.mono{c:ae}{m n:Nat}{s:aQ}(h:StN c m s)(hn:m≤n):StN c n s:=⟨G.mono ω h.1,h.2.mono ω⟩
def Trk(c:ae)(n:Nat)(t:cW):Prop:= ∃(s:aQ) (a:Nat),t=(c,(s,((a:Int),())))∧a≤n∧StN c a s
theorem Trk.mono{c:ae}{m n:Nat}{t:cW}(h:Trk c m t)(hn:m≤n):Trk c n t:=by
 obtain⟨s,a,e,h1,h2⟩:=h
 exact⟨s,a,e,cv h1 hn,h2⟩
theorem ajh(N:Nat)(hN:5000000≤N){c:ae}(hc:G 5 aA c){t:cW}{l:di}{m:Nat}(hm:m≤700)(hl:wK m l)(ht:Trk c l.length t):Ok (λr=>StN c l.length r.1∧Trk c l.length r.2.1∧r.2.2=l) (ry N t l):=by
 obtain⟨s,a,rfl,h1,h2⟩:=ht
 have I3:=hl.1
 unfold ry ry.b
 generalize ((0:Int),((0:Int),_))=S0
 refine jh (len:=l.length) (F:=λn i (s:aQ)=>ry.l1 N n (c,(s,(i,()))) l S0) (λi s=>StN c i s) (λn i s hi hI hr=> ?_) (λn s hI=> ?_) l.length N a s ω ω h1 h2
 all_goals unfold ry.l1 ry.l1b
 ·dsimp only
  rw[aw (x:=(i:Int)+1) ω ω,af i]
  have hx:G 0 lZ (l.getD (i:Int).toNat zz8):=G.at hl _
  exact ax (λ_=>aB ⟨ω,ω⟩ (ag (Ok.and (U7 N hN ω ω hc hI.1 hx) (Vh N hN ω ω hc hI.1 hI.2 hx)) λr ⟨BC,zV⟩=>hr r.1 ⟨BC,zV⟩)) λ_=>ω
 ·exact ax (λ_=>by dsimp only at*;omega) λ_=>aq ⟨hI,⟨s,l.length,rfl,Nat.le_refl _,hI⟩,rfl⟩
abbrev RoQ(c:ae)(p k:Nat)(r:di×aG×cW):Prop:=wK (p+70) r.1∧Dk (k+400) r.2.1∧Trk c r.1.length r.2.2
theorem alB{q:Int}(h:qIn q):W .u64 q=q∧q≠0:=by
 unfold qIn at h
 exact⟨eE ω ω,ω⟩
theorem wK.snoc{p:Nat}{l:di}{x:iw}(h:wK p l)(hx:G 0 lZ x):wK (p+1) (l++[x]):=G.cat h (G.one hx (aH 1))
theorem Ci{α:Type}(l:List α)(x:α):(l++[x]).length=l.length+1:=by rw[aS,aK]
theorem aba(N:Nat)(hN:5000000≤N){c:ae}(hq:Cq c){d:aG}{t:cW}{l:di}{p k:Nat}(hp:p≤600)(hk:k≤20000)(hl:wK p l)(hd:Dk k d)(ht:Trk c l.length t):Ok (RoQ c p k) (eL N d t l):=by
 have hc:=hq.1.1
 have Xy:=hq.f.1
 have i16:aF 16:=bw
 have i17:aF 17:=bw
 have i18:aF 18:=bw
 have i19:aF 19:=bw
 have i10:aF 10:=bw
 have i20:aF 20:=bw
 have i2:aF 2:=bw
 have z:=bV
 have I3:=hl.1
 have Fb: ∀(d:aG) (t:cW) (l:di),wK (p+5) l→Dk (k+20) d→Trk c l.length t→Ok (RoQ c p k) (eL.JJ N d t l):=λd t l hl hd ht=>by
  have I3:=hl.1
  unfold eL.JJ eL.Dh
  have Sp:=wK.snoc hl (tk (m:=0) i18 z z z z z z z)
  refine aD (by rw[aK];omega) (ag (ajh N hN hc ω Sp (ht.mono (by rw[Ci];omega))) λr ⟨hs,ht,he⟩=> ?_)
  rw[he]
  generalize l++[((18:Int),Ng)]=l at*
  have h12:=hs.2.2.2.2
  have hL:=hs.1.2.2.2.1.2.2.2.2.2.1
  generalize r.1=s at*
  refine bs (len:=s.2.2.2.1.2.2.2.2.2.1.length) (F:=λn i (y:aG×di)=>eL.mq N n y.1 r.2.1 y.2 s i) (s:=(_,_)) (λi y=>Dk (k+20+10*i) y.1∧wK (p+6+4*i) y.2∧l.length≤y.2.length) ⟨hd,Sp,aH _⟩ ω (λn i y hi hI hr=> ?_) (λn y hI=> ?_)
  all_goals obtain⟨hd,hl,hle⟩:=hI
  all_goals unfold eL.mq eL.lq
  ·refine ax (λ_=>aB ⟨ω,ω⟩ ?_) λ_=>ω
   have hx:G 900 jU (s.2.2.2.1.2.2.2.2.2.1.getD (i:Int).toNat ((0:Int),(cf,bb))):=G.mono (by have:=Sp.1;omega) (G.at hL _)
   generalize s.2.2.2.1.2.2.2.2.2.1.getD (i:Int).toNat ((0:Int),(cf,bb))=x at*
   refine jh (len:=5) (F:=λn' j (w:aG×di)=>eL.FG N (eL.mq N n) n' w.1 r.2.1 w.2 s (i:Int) x j) (λj w=>1≤j∧Dk (k+20+10*i+2*(j-1)) w.1∧wK (p+6+4*i+(j-1)) w.2∧l.length≤w.2.length) (λn' j w hj hJ eQ=> ?_) (λn' w hJ=> ?_) 5 N 1 y ω ω ω ⟨aH 1,hd,hl,hle⟩
   all_goals obtain⟨hj1,hd,hl,hle⟩:=hJ
   all_goals unfold eL.FG eL.E3
   ·have hwl:=hl.1
    rw[aw (x:=(j:Int)+1) ω ω,af j]
    refine eN (λ_=>ag (oC N δ hd (by unfold iq;omega)) λa hd=>bF (λ_=>ag (gX N δ hd (by unfold iq;omega)) λv ⟨_,hd⟩=>aD (by rw[List.length_singleton];omega) (eQ (_,_) ⟨ω,Dk.mono hd ω,G.mono ω (wK.snoc hl (tk i19 (jC ω ω) z z z hx.1 z (Cb (aab (gB _) (by unfold aF;decide)) (by unfold aF;decide)))),by dsimp only;rw[Ci];omega⟩)) λ_=>eQ (_,_) ⟨ω,Dk.mono hd ω,G.mono ω hl,hle⟩) λ_=>ω
   ·rw[aw (x:=(i:Int)+1) ω ω,af i]
    exact eN (λ_=>ω) λ_=>hr w ⟨Dk.mono hd ω,G.mono ω hl,hle⟩
  ·have Y7:=hl.1
   obtain⟨s',a,e,w5,XN⟩:=ht
   refine ax (λ_=>ω) λ_=>ag (vb N ω hd (c:=r.2.1.1) (by rw[e];exact Xy) ω) λn1 ⟨So,hd⟩=> ?_
   have alC:=So.1
   have h5:=G.cat hl So
   have h5l:=h5.1
   have h6:=G.cat h5 (G.two (m:=2) (tk (m:=0) i10 z z z z z i2 z) (tk i20 z z z z z z z) (aH 2))
   exact aD ω (aD (by simp only[List.length_append,List.length_cons,List.length_nil];omega) (aq ⟨G.mono ω h6,Dk.mono hd ω,⟨s',a,e,by dsimp only;rw[List.length_append,List.length_append];omega,XN⟩⟩))
 unfold eL eL.b
 refine ag (oC N δ hd (by unfold iq;omega)) λa hd=>nL (λ_=> ?_) λ_=>Fb _ _ _ (G.mono ω hl) (Dk.mono hd ω) ht
 have Sp:=wK.snoc hl (tk (m:=0) i16 z z z z z z z)
 refine aD (by rw[aK];omega) (ag (ajh N hN hc ω Sp (ht.mono (by rw[Ci];omega))) λr ⟨hs,ht,he⟩=> ?_)
 rw[he]
 generalize l++[((16:Int),Ng)]=l at*
 obtain⟨h4,hg⟩:=hs.2.2.2.1
 have hH:=hs.1.2.2.2.1.2.2.2.2.1
 have hP:=hs.1.2.2.1.2.2.2.2.1
 have Yk:(r.1.2.2.1.2.2.2.2.1.length:Int)=c.1.length:=hs.2.1.n
 generalize r.1=s at*
 refine bs (len:=s.2.2.2.1.2.2.2.2.1.length) (F:=λn i (y:aG×di)=>eL.l5 N n y.1 r.2.1 y.2 s i) (s:=(_,_)) (λi y=>Dk (k+1+4*i) y.1∧wK (p+1+i) y.2∧l.length≤y.2.length) ⟨hd,Sp,aH _⟩ ω (λn i y hi hI hr=> ?_) (λn y hI=> ?_)
 all_goals obtain⟨hd,hl,hle⟩:=hI
 all_goals unfold eL.l5 eL.eA
 ·have Y7:=hl.1
  have hx:=hg _ (qM (d:=bb) hi)
  have hx6:G (200+l.length) e7 (s.2.2.2.1.2.2.2.2.1.getD i bb):=hH.2 _ (qM hi)
  have hu:=alB hx.2
  rw[aw (x:=(i:Int)+1) ω ω,af i,aI]
  dsimp only
  generalize s.2.2.2.1.2.2.2.2.1.getD i bb=x at*
  refine ax (λ_=>aB ⟨ω,ω⟩ (ag (oC N δ hd (by unfold iq;omega)) λa hd=>nL (λ_=>ag (gX N δ hd (by unfold iq;omega)) λv ⟨_,hd⟩=>ag (FO N (by unfold iq;omega) hd) λw ⟨_,hd⟩=>ok_eq (λe=>absurd (hu.1.symm.trans e) hu.2) λ_=>aB ?_ (aD (by rw[List.length_singleton];omega) (hr (_,_) ⟨Dk.mono hd ω,wK.snoc hl (tk i17 z (gB _) z z hx6.1 (gB _) (G.at hP _)),by dsimp only;rw[Ci];omega⟩))) λ_=>hr (_,_) ⟨Dk.mono hd ω,G.mono ω hl,hle⟩)) λ_=>ω
  have h1:=hx.1
  have g: ∀v:Int,(0≤v∧v<(c.1.length:Int))→0≤v∧v<(s.2.2.1.2.2.2.2.1.length:Int):=λv h=>ω
  exact g _ h1
 ·exact ax (λ_=>ω) λ_=>Fb _ _ _ (G.mono ω hl) (Dk.mono hd ω) (ht.mono hle)
theorem Xz(N:Nat)(hN:5000000≤N){c:ae}(hq:Cq c){d:aG}{t:cW}{L:di}{k j:Nat}(hk:k≤10000)(hj:j≤2)(hl:wK 220 L)(hd:Dk k d)(ht:Trk c L.length t):Ok (λr=>wK 400 r.1∧Dk (k+1500) r.2) (jW.FG N N d c t L (j:Int)):=by
 obtain⟨Xy,nh⟩:=hq.f
 have i21:aF 21:=bw
 have z:=bV
 refine wv (F:=λn x (s:aG×cW×di)=>jW.FG N n s.1 c s.2.1 s.2.2 x) (λx s=>x≤2∧Dk (k+400*(2-x)) s.1∧wK (220+70*(2-x)) s.2.2∧Trk c s.2.2.length s.2.1) (λn x s hI hr=> ?_) (λn s hI=> ?_) j N (d,(t,L)) ω ⟨hj,Dk.mono hd ω,G.mono ω hl,ht⟩
 all_goals obtain⟨hx,hd,hl,ht⟩:=hI
 all_goals unfold jW.FG jW.E3
 ·rw[H9 ω]
  exact ax (λ_=>ag (aba N hN hq ω ω hl hd ht) λr ⟨h1,h2,h3⟩=>hr (r.2.1,(r.2.2,r.1)) ⟨ω,Dk.mono h2 ω,G.mono ω h1,h3⟩) λ_=>ω
 ·have Sp:=hl.1
  refine ax (λ_=>ω) λ_=>ag (oC N δ hd (by unfold iq;omega)) λa hd=>bF (λ_=>aD (by rw[aK];omega) (ag (vb N ω hd Xy ω) λn1 ⟨So,hd⟩=> ?_)) λ_=>ag (vb N ω hd Xy ω) λn1 ⟨So,hd⟩=> ?_
  ·have h2:=G.cat (wK.snoc hl (tk (m:=0) i21 z z z z z z z)) So
   have h2l:=h2.1
   have alC:=So.1
   exact aD (by simp only[aS,aT,cj];omega) (aq ⟨G.mono ω h2,Dk.mono hd ω⟩)
  ·have h2:=G.cat hl So
   have alC:=So.1
   exact aD ω (aq ⟨G.mono ω h2,Dk.mono hd ω⟩)
theorem XA(N:Nat)(hN:5000000≤N){c:ae}(hq:Cq c){d:aG}{k:Nat}(hk:k≤5000)(hd:Dk k d){yq:Int}(hm:0≤yq∧yq≤100):Ok (λr=>wK 400 r.1∧Dk (k+6000) r.2) (jW N d c yq):=by
 obtain⟨Xy,nh⟩:=hq.f
 have i10:aF 10:=bw
 have i11:aF 11:=bw
 have i13:aF 13:=bw
 have i14:aF 14:=bw
 have i15:aF 15:=bw
 have i21:aF 21:=bw
 have z:=bV
 unfold jW jW.b
 refine ag (Qn N ω hq nh) λs ⟨⟨Ni,Wb⟩,_⟩=>ag (KY N ω hd Xy hm ω) λl ⟨hl,hd⟩=>ag (gX N δ hd (by unfold iq;omega)) λv ⟨_,hd⟩=> ?_
 have ht:Trk c 0 (c,(s.1,((0:Int),()))):=⟨s.1,0,rfl,aH 0,G.mono ω Ni,Wb.mono ω⟩
 generalize s.1=S at*
 dsimp only
 have I3:=hl.1
 have h1:=wK.snoc hl (tk (m:=0) i11 (gB (1+v.1)) z z z z z z)
 have h1l:=h1.1
 refine aD (by simp only[aS,aT,cj];omega) (ag (vb N ω hd Xy ω) λn1 ⟨So,hd⟩=> ?_)
 have h2:=G.cat h1 So
 have h2l:=h2.1
 have alC:=So.1
 refine aD (by simp only[aS,aT,cj];omega) (aD (by simp only[aS,aT,cj];omega) ?_)
 have h3:=wK.snoc h2 (tk (m:=0) i13 (gB (1+v.1)) z z z z z z)
 generalize hL:(l.1++[((11:Int),(W .i64 (1+v.1),eF))]++n1.1)++[((13:Int),(W .i64 (1+v.1),eF))]=L at h3
 refine jh (len:=8) (F:=λn i (y:aG×di)=>jW.l9 N n y.1 c (c,(S,((0:Int),()))) y.2 i) (λi y=>5≤i∧Dk (k+3200+2*(i-5)) y.1∧wK (205+(i-5)) y.2) (λn i y hi hI hr=> ?_) (λn y hI=> ?_) 8 N 5 (_,L) ω ω ω ⟨aH 5,Dk.mono hd ω,G.mono ω h3⟩
 all_goals obtain⟨hi5,hd,hl⟩:=hI
 all_goals have Y7:=hl.1
 all_goals unfold jW.l9 jW.vN
 ·rw[aw (x:=(i:Int)+1) ω ω,af i]
  exact eN (λ_=>ag (oC N δ hd (by unfold iq;omega)) λa hd=>nL (λ_=>ag (gX N δ hd (by unfold iq;omega)) λw ⟨_,hd⟩=>aD (by rw[aK];omega) (hr (_,_) ⟨ω,Dk.mono hd ω,G.mono ω (wK.snoc hl (tk i14 (gB _) (jC ω ω) z z z z z))⟩)) λ_=>hr (_,_) ⟨ω,Dk.mono hd ω,G.mono ω hl⟩) λ_=>ω
 ·refine eN (λ_=>ω) λ_=>ag (vb N ω hd Xy ω) λn2 ⟨hn2,hd⟩=> ?_
  have h4:=G.cat hl hn2
  have h4l:=h4.1
  have aEs:=hn2.1
  refine aD ω ?_
  dsimp only
  refine ag (gX N δ hd (by unfold iq;omega)) λw ⟨_,hd⟩=> ?_
  have h5:=G.cat h4 (G.two (m:=2) (tk (m:=0) i10 z z z z z (gB (2+w.1)) z) (tk i15 z z z z z z z) (aH 2))
  have h5l:=h5.1
  refine aD (by simp only[aS,aT,cj];omega) (ag (vb N ω hd Xy ω) λn3 ⟨hn3,hd⟩=> ?_)
  have h6:=G.cat h5 hn3
  have aEt:=hn3.1
  refine aD (by simp only[aS,aT,cj];omega) (ag (gX N δ hd (by unfold iq;omega)) λu ⟨hu,hd⟩=> ?_)
  obtain⟨j,hj⟩: ∃j:Nat,u.1=(j:Int):=⟨u.1.toNat,ω⟩
  rw[hj]
  have hLl:=h6.1
  exact My (Xz N hN hq ω ω (G.mono ω h6) hd (ht.mono (bz _))) λr hr=>⟨hr.1,Dk.mono hr.2 ω⟩
theorem XB(N:Nat)(hN:5000000≤N){c:ae}(hq:Cq c){d:aG}{k:Nat}(hk:k≤4000)(hd:Dk k d){yq:Int}(hm:0≤yq∧yq≤100):Ok (λr=>wK 400 r.1∧Dk (k+7000) r.2) (IC N d c yq):=by
 obtain⟨Xy,nh⟩:=hq.f
 unfold IC IC.b
 refine ag (gX N δ hd (by unfold iq;omega)) λa ⟨_,hd⟩=>ok_eq (λ_=> ?_) λ_=>ok_eq (λ_=>ag (KY N ω hd Xy hm ω) λl ⟨hl,hd⟩=>aq ⟨G.mono ω hl,Dk.mono hd ω⟩) λ_=>ag (XA N hN hq ω hd hm) λl ⟨hl,hd⟩=>aq ⟨hl,Dk.mono hd ω⟩
 rw[aw (x:=yq+1) ω ω]
 refine ag (gX N ⟨ω,ω⟩ hd (by unfold iq;omega)) λu ⟨hu,hd⟩=> ?_
 obtain⟨j,hj⟩: ∃j:Nat,u.1=(j:Int):=⟨u.1.toNat,ω⟩
 rw[hj]
 refine wv (F:=λn x (s:aG×di)=>IC.l5 N n s.1 c s.2 x) (λx s=>x≤100∧Dk (k+10+25*(100-x)) s.1∧wK (100-x) s.2) (λn x s hI hr=> ?_) (λn s hI=> ?_) j N (u.2,[]) ω ⟨ω,Dk.mono hd ω,G.nil⟩
 all_goals obtain⟨hx,hd,hl⟩:=hI
 all_goals unfold IC.l5 IC.eA
 ·have hs:=hl.1
  rw[H9 ω]
  exact ax (λ_=>ag (H8 N hd Xy ω) λr ⟨h1,h2⟩=>aD (by rw[aK];omega) (hr (_,_) ⟨ω,Dk.mono h2 ω,G.mono ω (wK.snoc hl h1)⟩)) λ_=>ω
 ·exact ax (λ_=>ω) λ_=>aq ⟨G.mono ω hl,Dk.mono hd ω⟩
theorem Zm(N:Nat)(hN:5000000≤N){c:ae}(hq:Cq c){d:aG}(hd:Dk 1000 d){yq:Int}(hm:0≤yq∧yq≤100):Ok (λr=>(GS 900 r.1∧oT c 900 r.1)∧Dk 10000 r.2) (F18 N d c yq):=by
 obtain⟨Xy,nh⟩:=hq.f
 unfold F18
 exact ag (XB N hN hq ω hd hm) λl ⟨hl,hd⟩=>ag (alA N hN ω hq nh hl) λr hr=>aq ⟨hr,Dk.mono hd ω⟩
end VM
end
section
namespace VM
open Go VM.F Go.RowKit
def Cj(x:de):Int:=6*x.1+x.2.1
theorem Qo: ∀(l:au) (n:Int),l.Pairwise (λx y=>Cj x<Cj y)→(∀x∈l,n≤Cj x∧Cj x<150)→n≤150→(l.length:Int)≤150-n
 |[],n,_,_,hn=>by rw[cj];omega
 |x::t,n,hp,h,hn=>by
  have h1:=h x (bq ..)
  have hp:=eP.1 hp
  have:=Qo t (Cj x+1) hp.2 (λy hy=>⟨by have:=hp.1 y hy;omega,(h y (aZ _ hy)).2⟩) ω
  rw[aT];omega
theorem Kk{l:au}(h:c6 l=true):l.length≤150:=by
 obtain⟨h1,h2⟩:=dM h
 have h1:=uA.1 h1
 have hp:l.Pairwise (λx y=>Cj x<Cj y):=by
  refine List.Pairwise.imp_of_mem (λ{x y} hx hy XP=> ?_) h1
  have hx:=(h2 x hx).1
  have hy:=(h2 y hy).1
  unfold bY at hx hy
  unfold Cj
  have hk:x.1<y.1∨x.1=y.1∧x.2.1<y.2.1:=XP
  have g: ∀a b c d:Int,(0≤a∧a≤24∧0≤b∧b<6)→(0≤c∧c≤24∧0≤d∧d<6)→(a<c∨a=c∧b<d)→6*a+b<6*c+d:=λa b c d _ _ _=>ω
  exact g _ _ _ _ hx hy hk
 have:=Qo l 0 hp (λx hx=>by
  have hx:=(h2 x hx).1
  unfold bY at hx
  unfold Cj
  have g: ∀a b:Int,(0≤a∧a≤24∧0≤b∧b<6)→0≤6*a+b∧6*a+b<150:=λa b _=>ω
  exact g _ _ hx) ω
 omega
theorem Wx(N:Nat)(hN:1000≤N){k:Nat}{d:aG}(h:Dk k d){c:ae}{b:an}(hR:RB c b)(hk:k≤100000):Ok (λr=>r.1.length≤6∧Dk (k+100) r.2) (pN N d c b):=by
 have hc:=(qc hR.c).1
 have DT:1≤c.1.length:=by
  have:=hR.c
  unfold eJ at this
  exact(bt (c5.1 this).1).1
 have hn:(b.2.2.2.2.1.length:Int)=c.1.length:=hR.n
 unfold pN pN.b
 refine ag (gX N δ h (by unfold iq;omega)) λz ⟨hz,hd⟩=> ?_
 obtain⟨j,hj⟩: ∃j:Nat,z.1=(j:Int):=⟨z.1.toNat,ω⟩
 rw[hj]
 refine wv (F:=λn x (s:aG×bf)=>pN.l3 N n s.1 c b s.2 x) (λx s=>x≤6∧Dk (k+1+12*(6-x)) s.1∧s.2.length≤6-x) (λn x s hI hr=> ?_) (λn s hI=> ?_) j N (z.2,[]) ω ⟨ω,Dk.mono hd ω,bz _⟩
 all_goals unfold pN.l3 pN.nw
 ·obtain⟨hx,hd,hl⟩:=hI
  have put: ∀(e:iu) (d:aG) (q:Nat),Dk q d→q≤k+1+12*(6-x)→Ok (λr=>r.1.length≤6∧Dk (k+100) r.2) (cond (small (s.2.length+[e].length)) (pN.l3 N n d c b (s.2++[e]) (x:Int)) none):=λe d q hd hq=>aD (by rw[aK];omega) (hr (_,_) ⟨ω,Dk.mono hd ω,by rw[aS,aK];omega⟩)
  have jj: ∀(e:iu) (d:aG) (q:Nat),Dk q d→q+1≤k+1+12*(6-x)→Ok (λr=>r.1.length≤6∧Dk (k+100) r.2) (pN.E9 N (pN.l3 N n) d c b s.2 ((x+1:Nat):Int) e):=λe d q hd hq=>by
   unfold pN.E9 pN.yr
   rw[H9 ω]
   exact ok_eq (λ_=>ag (oC N δ hd (by unfold iq;omega)) λr hd=>bF (λ_=>ok_eq (λh=>ω) λ_=>put _ _ _ hd ω) λ_=>put _ _ _ hd ω) λ_=>put _ _ _ hd ω
  have jn: ∀(e:iu) (d:aG) (q:Nat),Dk q d→q+1≤k+1+12*(6-x)→Ok (λr=>r.1.length≤6∧Dk (k+100) r.2) (pN.j9 N (pN.l3 N n) d c b s.2 ((x+1:Nat):Int) e):=λe d q hd hq=>by
   unfold pN.j9 pN.Js
   exact ax (λ_=>jj _ _ _ hd hq) λ_=>jj _ _ _ hd hq
  exact ax (λ_=>ag (gX N ⟨ω,ω⟩ hd (by unfold iq;omega)) λa ⟨ha,hd⟩=>ag (gX N δ hd (by unfold iq;omega)) λ_ ⟨_,hd⟩=>ag (gX N δ hd (by unfold iq;omega)) λ_ ⟨_,hd⟩=>ag (gX N δ hd (by unfold iq;omega)) λ_ ⟨_,hd⟩=>aB ⟨ha.1,ω⟩ (ag (gX N δ hd (by unfold iq;omega)) λ_ ⟨_,hd⟩=>ag (oC N δ hd (by unfold iq;omega)) λr hd=>
   nL (λ_=>ag (zd N hd (by unfold iq;omega)) λ_ ⟨_,hd⟩=>ok_eq (λh=>ω) λ_=>ag (zd N hd (by unfold iq;omega)) λ_ ⟨_,hd⟩=>ok_eq (λh=>ω) λ_=>jn _ _ _ hd ω) λ_=>jn _ _ _ hd ω)) λh=>ω
 ·exact ax (λ_=>ω) λ_=>aq ⟨by have:=hI.2.2;omega,Dk.mono hI.2.1 ω⟩
namespace Pure
end Pure
theorem Qp{P:Int→Prop} [DecidablePred P]{f g:Int→Int→Int}: ∀{K:List dh},(∀k∈K,f k.1 k.2=g k.1 k.2)→dL P f K=dL P g K
 |[],_=>rfl
 |k::t,h=>by
  rw[ix,ix,h k (bq ..),Qp (K:=t) λx hx=>h x (aZ _ hx)]
theorem Lf{P:Int→Prop} [DecidablePred P]{l E E' o:au}{K:List dh}(hK:sE K)(h:dL P (fS l E) K=some o):dL P (fS o E') K=dL P (fS l (E++E')) K:=
 Qp λk hk=>by
  unfold fS
  rw[←nE (l:=o) (uz (sY h).1 hK),(sY h).2.2.2 k.1 k.2,aj hk,vT]
  unfold fS;omega
theorem SL{b:an}{s e s' e':au}(h0:(cc b s e).2=0):cc (cc b s e).1 s' e'=cc b (s++s') (e++e'):=by
 rcases sC b s e with⟨h1,_⟩|⟨s1,r1,h1,h2,h3⟩
 ·rw[h1]at h0;exact absurd h0 δ
 ·rw[h3]
  unfold cc
  dsimp only
  rw[Lf (show sE iW from lT 6 25 0) h1,Lf (show sE lY from lT 25 7 1) h2]
end VM
end
