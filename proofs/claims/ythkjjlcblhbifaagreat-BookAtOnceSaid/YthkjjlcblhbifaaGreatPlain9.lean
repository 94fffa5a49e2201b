/- A part of the proof of BookAtOnce of layer 18: what the functions compute, in plain words. -/
import Derived.Test.YthkjjlcblhbifaaGreatPlain8
import Derived.Test.YthkjjlcblhbifaaGreatPlain7
set_option linter.all false
section
namespace VM
open Go VM.F
variable(N:Nat)
theorem adM(hN:5000000≤N){c:ae}{b:an}{m:Nat}(hm:m≤40000)(hc:G m aA c)(hb:G m aK b)(hR:RB c b)(f:Int)(to a:Int):Ok (λr=>r.2=0→RB c r.1) (WC N c b f to a):=by
 have bad: ∀e:Int,e≠0→Ok (λr:an×Int=>r.2=0→RB c r.1) (some ((cc,(cT,(bq,(bq,(db,(dq,())))))),e)):=λe h=>aq λh'=>absurd h' h
 unfold WC
 refine ag (ZZ N hN hm hc hb _ _ _) λ_ _=>bG (λh=>bad _ h) λ_=>ag (S5 N ω (ct hb.1.1 ω) (ct hb.2.1.1 ω) _ _) λr hr=>bG (λh=>bad _ h) λh0=>aq λ_=> ?_
 obtain⟨r1,r2,r3⟩:=hr h0
 exact hR.WT hR.m r1 (λ_ h=>h) r2 r3
theorem aaD(hN:200000≤N){c:ae}{b:an}{m:Nat}(hm:m≤50000)(hb:G m aK b)(hR:RB c b){a:Int}(ha:q5 b.2.1 a):Ok (λr=>SB c b.2.1 r∧r.length≤2*m) (nE N b.2.2.2.1 a 0):=by
 have h:=hb.2.2.2.1
 have hl:=h.1
 have hp:=(dW (eS (oh.2 hR)).2).2
 unfold nE nE.b
 have nil:Ok (λr:au=>SB c b.2.1 r∧r.length≤2*m) (some []):=aq ⟨SB.nil,bz _⟩
 refine bK (nv N ω hN) (bF (λ_=>nil) λ_=>ok_eq (λ_=>nil) λ_=>ax (λ_=>nil) λa0=>ax (λ_=>nil) λa1=>ax (λ_=>nil) λ_=>ax (λ_=>nil) λ_=>br (len:=b.2.2.2.1.length) (F:=λn i s=>nE.l5 N n b.2.2.2.1 a 0 s i) (λi s=>SB c b.2.1 s∧s.length≤2*i) ⟨SB.nil,bz _⟩ ω (λn i s hi hI hr=> ?_) (λn s hI=> ?_))
 all_goals unfold nE.l5 nE.eo
 all_goals obtain⟨i1,i2⟩:=hI
 ·have hx:G m jZ (b.2.2.2.1.getD i bc):=h.2 _ (pV hi)
  have RD:=hp _ (pV (d:=bc) hi)
  have XR:=hR.sk _ (pV (d:=bc) hi)
  dsimp only
  rw[aw (x:=(i:Int)+1) ω ω,af i,aI]
  have h1:=hr s ⟨i1,ω⟩
  have hq:aF (b.2.2.2.1.getD i bc).2.2.1:=hx.2.2.1
  have oG:qQ (b.2.2.2.1.getD i bc).2.2.1:=RD.2
  have pl:=RD.1
  have ins:=XR.2
  generalize (b.2.2.2.1.getD i bc).2.2.1=q at*
  generalize (b.2.2.2.1.getD i bc).2.1=k at*
  have hn:=(akS ⟨hq,oG⟩).1
  unfold aF at hn
  rw[aw hn.1 hn.2]
  exact ax (λ_=>aB ⟨ω,ω⟩ (ok_eq (λ_=>aB ⟨ω,ω⟩ (aB ⟨ω,ω⟩ (aB ⟨ω,ω⟩ (aB ⟨ω,ω⟩ (aD (by rw[yQ];omega) (hr _ ⟨SB.app i1 (SB.two hn hq ω ⟨⟨a0,a1,pl.2.2.1,pl.2.2.2⟩,.inr ha,ins⟩ ⟨⟨δ,δ,pl.2.2.1,pl.2.2.2⟩,.inl rfl,ins⟩),by rw[aS,aT,aJ];omega⟩)))))) λ_=>h1)) λ_=>ω
 ·exact ax (λ_=>ω) λ_=>aq ⟨i1,ω⟩
theorem W2{c:ae}{b:an}(h:RB c b):b.2.1.length≤24:=PZ h.a
theorem adN(hN:5000000≤N){c:ae}{b:an}{m:Nat}(h2:200≤m)(hm:m≤1000)(hc:G m aA c)(hb:G m aK b)(hR:RB c b)(a:Int):Ok (JH c b) (gY N c b a):=by
 have hal:=W2 hR
 unfold gY gY.b
 refine bK (ed N hN ω hb) (bF (λ_=>JH.bad δ) λhB=>ag (rB N ω ω hb _) λ_ _=>ok_eq (λ_=>JH.bad δ) λ_=> ?_)
 refine br (len:=b.2.1.length) (F:=λn i (z:au×bO)=>gY.l8 N n a c b (cc,(cT,(bq,(bq,(db,(dq,())))))) z.1 z.2 i) (s:=(_,_)) (λi z=>(SB c b.2.1 z.1∧z.1.length≤2*m*i)∧PB b.1 b.2.1 z.2∧z.2.length≤4*i) ⟨⟨SB.nil,bz _⟩,PB.nil,bz _⟩ ω (λn i z hi hI hr=> ?_) (λn z hI=> ?_)
 all_goals unfold gY.l8 gY.D4
 all_goals obtain⟨⟨h5,h7⟩,h6,h8⟩:=hI
 ·have hmi:2*m*i≤2*m*24:=mQ _ ω
  have hms:2*m*(i+1)=2*m*i+2*m:=rM _ _
  have hx:G m fc (b.2.1.getD (i:Int).toNat ba):=G.at hb.2.1 _
  have hA:q5 b.2.1 (b.2.1.getD (i:Int).toNat ba).1:=⟨_,pV hi,rfl⟩
  have hM:=uU hR hA
  have hF:c9 2 0∧kf b.1 b.2.1 2 0:=Dp δ
  have hj: ∀p:bO,PB b.1 b.2.1 p→p.length≤4*i+2→Ok (JH c b) (gY.Da N (gY.l8 N n) a c b (cc,(cT,(bq,(bq,(db,(dq,())))))) z.1 p (i:Int) (b.2.1.getD (i:Int).toNat ba)):=λp hp Cw=>by
   unfold gY.Da gY.wI
   rw[aw (x:=(i:Int)+1) ω ω,af i]
   exact ag (uQ N ω ω hb _) λg hg=>ax (λ_=>bK (dP N ω hg.1 hg.2) (bK (oZ N ω (FD (pB hg).1)) (ag (tO N ω ⟨(pB hg).2,by rw[Int.neg_neg];exact(pB hg).1⟩ hF hM) λu ⟨hu,Jb⟩=>aD ω (ag (aaD N ω ω hb hR hA) λs ⟨hs,N9⟩=>aD ω (hr (_,_) ⟨⟨SB.app h5 hs,by dsimp only;rw[List.length_append];omega⟩,PB.app hp hu,by dsimp only;rw[List.length_append];omega⟩))))) λ_=>ag (aaD N ω ω hb hR hA) λs ⟨hs,N9⟩=>aD ω (hr (_,_) ⟨⟨SB.app h5 hs,by dsimp only;rw[List.length_append];omega⟩,hp,by dsimp only;omega⟩)
  rw[aw (x:=(i:Int)+1) ω ω,af i]
  exact ax (λ_=>aB ⟨ω,ω⟩ (bG (λ_=>hr z ⟨⟨h5,ω⟩,h6,ω⟩) λ_=>ok_eq (λ_=>ag (K9 N hN ω hc hb _) λq hq=>bK (dP N ω hq.1 hq.2) (ag (tO N ω (pB hq) hM hF) λu ⟨hu,Jb⟩=>aD ω (hj _ (PB.app h6 hu) (by rw[aS];omega)))) λ_=>hj _ h6 ω)) λ_=>ω
 ·have hmi:2*m*b.2.1.length≤2*m*24:=mQ _ ω
  exact ax (λ_=>ω) λ_=>ag (tN N ω ω hb hR h5 h6 ω ω) λr hr=>aq hr
theorem z8{n:Int}: ∀{l:aO},ob n l≠0→q5 l (ob n l)
 |[],h=>absurd rfl h
 |x::t,h=>by
  rw[tz]at h ⊢
  have up:q5 t (ob n t)→q5 (x::t) (ob n t):=λ⟨y,hy,e⟩=>⟨y,aZ _ hy,e⟩
  by_cases e1:x.2.1=n
  ·rw[aj e1]at h ⊢
   by_cases e2:x.2.2.1=1
   ·rw[aj e2];exact⟨x,bs ..,rfl⟩
   ·rw[ah e2]at h ⊢;exact up (z8 h)
  ·rw[ah e1]at h ⊢;exact up (z8 h)
theorem Lh{a:aO}{n:Int}(h:oc a n≠0):q5 a (oc a n):=by
 unfold oc at*
 split at h
 ·rw[aj (by assumption)];exact z8 h
 ·exact absurd rfl h
def UT(c:ae)(y:Bx):Prop:=(0≤y.1∧lI y.1 c.1.length)∧qQ y.2.1
theorem S8{c:ae}{L:bI}(h:CX c L=true): ∀x∈L,∀y∈x.2.1,UT c y:=by
 unfold CX at h
 simp only[bM,fu,fU]at h
 refine(gS (d:=((0:Int),(cc,ba))) (Q:=λx=> ∀y∈x.2.1,UT c y)).1 λj hj=> ?_
 have h1:=(h.2.2 j hj).2.2.2.1
 unfold o6 at h1
 exact(gS (d:=c8) (Q:=UT c)).1 λi hi=>by
  have h2:=bt (da.1 h1).1 i hi
  exact⟨⟨h2.1,h2.2.1⟩,h2.2.2.2.1⟩
theorem aaE(hN:5000000≤N){c:ae}{b:an}{L:bI}{l:aO}{m:Nat}(h2:200≤m)(hm:m≤2000)(hb:G m aK b)(hR:RB c b)(hL:LL m L)(hl:G m (.slice fc) l):Ok (λr=>r.2.2=0→RB c r.1∧r.2.1.length≤12) (gu N c b L l):=by
 have eg: ∀e:Int,e≠0→Ok (λr:an×bI×Int=>r.2.2=0→RB c r.1∧r.2.1.length≤12) (some ((cc,(cT,(bq,(bq,(db,(dq,())))))),([],e))):=λe h=>aq λh'=>absurd h' h
 have h3:=hL.1
 have h4:=hl.1
 have hw:KD L:=λy hy=>ct (hL.2 y hy).2.1.1 ω
 have hci:c.1.length≤6:=by
  have:=hR.c
  unfold eR at this
  exact(bt (da.1 this).1).2
 unfold gu gu.b
 refine bK (ed N hN ω hb) (bF (λ_=>eg _ δ) λ_=>bK (BM N ω c ω hw) (bF (λ_=>eg _ δ) λhk=>bK (uM N ω ω) (bF (λ_=>eg _ δ) λ_=> ?_)))
 have aqp:=S8 hk
 have h12:L.length≤12:=by
  unfold CX at hk
  exact bt (da.1 (da.1 hk).2).1
 refine br (len:=L.length) (F:=λn i (z:au×bO×bI)=>gu.l7 N n L l b (cc,(cT,(bq,(bq,(db,(dq,())))))) z.1 z.2.1 z.2.2 i) (s:=(_,(_,_))) (λi z=>(SB c b.2.1 z.1∧z.1.length≤2*m*i)∧(PB b.1 b.2.1 z.2.1∧z.2.1.length≤2*i)∧z.2.2.length≤i) ⟨⟨SB.nil,bz _⟩,⟨PB.nil,bz _⟩,bz _⟩ ω (λn i z hi hI hr=> ?_) (λn z hI=> ?_)
 all_goals unfold gu.l7 gu.oJ
 all_goals obtain⟨⟨h5,h8⟩,⟨h6,h9⟩,h7⟩:=hI
 ·have hmi:2*m*i≤2*m*12:=mQ _ ω
  have hms:2*m*(i+1)=2*m*i+2*m:=rM _ _
  have hx:G m jW (L.getD (i:Int).toNat ((0:Int),(cc,ba))):=G.at hL _
  have hxl:=hx.2.1.1
  have awd:=aqp _ (pV (d:=((0:Int),(cc,ba))) hi)
  rw[aw (x:=(i:Int)+1) ω ω,af i]
  dsimp only
  rw[cN]
  have put: ∀x:jc,Ok (λr=>r.2.2=0→RB c r.1∧r.2.1.length≤12) (cond (small (z.2.2.length+[x].length)) (gu.l7 N n L l b (cc,(cT,(bq,(bq,(db,(dq,())))))) z.1 z.2.1 (z.2.2++[x]) ((i+1:Nat):Int)) none):=λx=>aD (by rw[List.length_singleton];omega) (hr (z.1,(z.2.1,z.2.2++[x])) ⟨⟨h5,by dsimp only;omega⟩,⟨h6,by dsimp only;omega⟩,by dsimp only;rw[List.length_append,List.length_singleton];omega⟩)
  refine ax (λ_=>aB ⟨ω,ω⟩ (aD (by rw[cr];omega) (bG (λ_=>put _) λ_=>ag (UK N ω ω hl _) λw hw=>bF (λ_=>put _) λ_=>bK (ru N (ct hb.2.1.1 ω) ω _) (ok_eq (λ_=>eg _ δ) λhh=>ag (rB N ω ω hb _) λ_ _=>ok_eq (λ_=>eg _ δ) λ_=> ?_)))) λ_=>ω
  have hA:=Lh hh
  have hM:=uU hR hA
  have hF:c9 2 0∧kf b.1 b.2.1 2 0:=Dp δ
  have aqq:0≤oc b.2.1 w.1.2.2.1∧oc b.2.1 w.1.2.2.1≤24:=by
   have:=hM.1
   unfold c9 at this;omega
  generalize oc b.2.1 w.1.2.2.1=h at*
  have hX': ∀y∈(L.getD (i:Int).toNat ((0:Int),(cc,ba))).2.1,UT c y∧G m kN y:=λy hy=>⟨awd y (by rw[aI]at hy;exact hy),hx.2.1.2 y hy⟩
  generalize hX:(((L.getD (i:Int).toNat ((0:Int),(cc,ba))).1,((L.getD (i:Int).toNat ((0:Int),(cc,ba))).2.1,((L.getD (i:Int).toNat ((0:Int),(cc,ba))).2.2.1,((2:Int),(w.1.2.2.1,(w.1.2.2.2.1,())))))):jc)=X
  have hXe:X.2.1=(L.getD (i:Int).toNat ((0:Int),(cc,ba))).2.1:=by rw[←hX]
  rw[←hXe]at hX' hxl
  refine br (len:=X.2.1.length) (F:=λn' j u=>gu.xI N (gu.l7 N n) n' L l b (cc,(cT,(bq,(bq,(db,(dq,())))))) u z.2.1 z.2.2 (i:Int) X w.1 h j) (s:=z.1) (λj u=>SB c b.2.1 u∧u.length≤2*m*i+2*j) ⟨h5,h8⟩ ω (λn' j u hj hu eQ=> ?_) (λn' u hu=> ?_)
  all_goals unfold gu.xI gu.wF
  all_goals obtain⟨hu,Jb⟩:=hu
  ·have hy:=hX' _ (pV (d:=c8) hj)
   dsimp only
   rw[aw (x:=(j:Int)+1) ω ω,af j,aI]
   generalize X.2.1.getD j c8=y at*
   obtain⟨⟨⟨y0,y1⟩,y2⟩,y3⟩:=hy
   have hq:aF y.2.1:=y3.2.1
   have hn:=(akS ⟨hq,y2⟩).1
   have hn':=hn
   unfold aF at hn'
   have e:W .i64 (0-y.2.1)=0-y.2.1:=aw hn'.1 hn'.2
   rw[e]
   have g6: ∀x:Int,lI x c.1.length→x<6:=λx h=>by unfold lI at h;omega
   exact ax (λ_=>aB ⟨ω,ω⟩ (aB ⟨ω,ω⟩ (aB ⟨ω,ω⟩ (aB ⟨ω,ω⟩ (aD (by rw[yQ];omega) (eQ _ ⟨SB.app hu (SB.two hn hq ω ⟨⟨δ,δ,y0,g6 _ y1⟩,.inl rfl,y1⟩ ⟨⟨aqq.1,aqq.2,y0,g6 _ y1⟩,.inr hA,y1⟩),by rw[aS,aT,aJ];omega⟩)))))) λ_=>ω
  ·have HR:aF w.1.2.2.2.1:=hw.2.2.2.1
   refine ax (λ_=>ω) λ_=>bK (dP N ω HR.1 HR.2) (ag (tO N ω (pB HR) hM hF) λp ⟨hp,Cw⟩=>aD ω (aD (by rw[aJ];omega) ?_))
   rw[aw (x:=(i:Int)+1) ω ω,af i]
   exact hr (_,(_,_)) ⟨⟨hu,by dsimp only;omega⟩,⟨PB.app h6 hp,by dsimp only;rw[List.length_append];omega⟩,by dsimp only;rw[List.length_append,List.length_singleton];omega⟩
 ·have hmi:2*m*L.length≤2*m*12:=mQ _ ω
  exact ax (λ_=>ω) λ_=>ag (tN N ω ω hb hR h5 h6 ω ω) λr hr=>bG (λh=>eg _ h) λh0=>aq λ_=>⟨(hr h0).1,by dsimp only;omega⟩
theorem Li{a k:Int}: ∀{l:au},gR a k l≠0→ ∃x∈l,x.1=a∧x.2.1=k
 |[],h=>absurd rfl h
 |x::t,h=>by
  rw[iJ]at h
  have up:gR a k t≠0→ ∃y∈x::t,y.1=a∧y.2.1=k:=λh=>let⟨y,hy,e⟩:=Li h;⟨y,aZ _ hy,e⟩
  by_cases e1:x.1=a
  ·rw[aj e1]at h
   by_cases e2:x.2.1=k
   ·exact⟨x,bs ..,e1,e2⟩
   ·rw[ah e2]at h;exact up h
  ·rw[ah e1]at h;exact up h
def PT(b:an)(k n:Int):Prop:=c9 k n∧kf b.1 b.2.1 k n
theorem adO{c:ae}{b:an}(hR:RB c b){k n:Int}(h:tC b.2.2.1 k n≠0):PT b k n:=by
 unfold tC at h
 rw[aj hR.r]at h
 obtain⟨x,hx,e1,e2⟩:=Li h
 have h1:=(lA hR.r).2 x hx
 have h2:=hR.rk x hx
 rw[e1,e2]at h1 h2
 exact⟨h1,h2⟩
theorem aaF{a:aO}(hA:gQ a=true){id:Int}{x:cF×Bool}(e:x=eV a id)(h:x.2=true):q5 a x.1.1:=by
 subst e
 unfold eV at*
 rw[aj hA]at h ⊢
 have key: ∀l:aO,(uG id l).2=true→(uG id l).1∈l:=by
  intro l
  induction l with
  |nil=>intro h;exact nomatch h
  |cons y t ih=>
   intro h
   rw[o4]at h ⊢
   by_cases e:y.1=id
   ·rw[aj e];exact bs ..
   ·rw[ah e]at h ⊢;exact aZ _ (ih h)
 exact⟨_,key a h,rfl⟩
abbrev T5(b:an)(k:Nat)(l:bf):Prop:=l.length≤k∧ ∀x∈l,PT b x.2.1 x.2.2.1
theorem T5.mono{b:an}{j k:Nat}{l:bf}(h:T5 b j l)(hk:j≤k):T5 b k l:=⟨ct h.1 hk,h.2⟩
theorem T5.nil{b:an}{k:Nat}:T5 b k []:=⟨bz _,λx hx=>nomatch hx⟩
theorem T5.app{b:an}{k:Nat}{l:bf}(h:T5 b k l){s d n x y:Int}(hx:PT b d n):T5 b (k+1) (l++[(s,(d,(n,(x,(y,())))))]):=
 ⟨by rw[aS,aJ];exact Nat.succ_le_succ h.1,λz hz=>by
  rcases bk.1 hz with hz|hz
  ·exact h.2 z hz
  ·rw[cn.1 hz];exact hx⟩
theorem row_in(hN:200000≤N){c:ae}{l:bf}{b:an}{m k:Nat}(hm:m≤50000)(hb:G m aK b)(hR:RB c b)(hk:k≤1000000)(hl:T5 b k l)(a d n:Int):Ok (T5 b (k+1)) (MI N l b a d n):=by
 have h1:=hl.1
 unfold MI
 exact bK (Mk N (ct hb.2.2.1.1 ω) hN _ _) (ax (λh=>aD (by rw[aJ];omega) (aq (T5.app hl (adO hR ω)))) λ_=>aq (T5.mono hl ω))
theorem aaG(hN:5000000≤N){c:ae}{b:an}{d g:aE}{a:Int}{m:Nat}(hm:m≤50000)(hc:G m aA c)(hb:G m aK b)(hR:RB c b)(hd:L2 m d)(hg:L2 m g):Ok (λr=>T5 b 1000000 r.1∧(r.2=0→jX b.1 a)) (c3 N c b a d g):=by
 have h1:=hb.1.1
 have h2:=hd.1
 have h3:=hg.1
 have h4:=hb.2.1.1
 have nil: ∀e:Int,e≠0→Ok (λr:bf×Int=>T5 b 1000000 r.1∧(r.2=0→jX b.1 a)) (some ([],e)):=λe h=>aq ⟨T5.nil,λh'=>absurd h' h⟩
 have hj:jX b.1 a→ ∀l:bf,T5 b 1 l→Ok (λr=>T5 b 1000000 r.1∧(r.2=0→jX b.1 a)) (c3.j9 N a d g c b l):=λhMa l hl=>by
  unfold c3.j9 c3.JA
  refine ag (row_in N ω hm hb hR ω hl _ _ _) λl hl=>ag (row_in N ω hm hb hR ω hl _ _ _) λl hl=>ji (len:=5) (F:=λn k s=>c3.oH N n a d g c b s k) (λk s=>T5 b (3+m*k) s) (λn k s hk hs hr=> ?_) (λn s hs=> ?_) 5 N 1 l ω ω ω (T5.mono hl ω)
  all_goals unfold c3.oH c3.nD
  ·have hmk:m*k≤m*4:=mQ m ω
   refine eO (λ_=>ag (Ih N hN c hm hb hd _ _) λt ht=> ?_) λ_=>ω
   have htl:=ht.1
   refine br (len:=t.1.length) (F:=λn' j u=>c3.xH N (c3.oH N n) n' a d g c b u (k:Int) t.1 j) (λj u=>T5 b (3+m*k+j) u) hs ω (λn' j u hj hu eQ=> ?_) (λn' u hu=> ?_)
   all_goals unfold c3.xH c3.wE
   ·rw[aw (x:=(j:Int)+1) ω ω,af j]
    exact ax (λ_=>aB ⟨ω,ω⟩ (ag (row_in N ω hm hb hR ω hu _ _ _) λv hv=>eQ v hv)) λ_=>ω
   ·rw[aw (x:=(k:Int)+1) ω ω,af k]
    exact ax (λ_=>ω) λ_=>hr u (T5.mono hu (by rw[rM];omega))
  ·refine eO (λ_=>ω) λ_=>br (len:=b.1.length) (F:=λn j u=>c3.JR N n a g c b u j) (λj u=>T5 b (3+m*5+j) u) hs ω (λn j u hj hu hr=> ?_) (λn u hu=> ?_)
   all_goals unfold c3.JR c3.PU
   ·have Jb:=hu.1
    have hM:PT b 7 (b.1.getD (j:Int).toNat c8).1:=B4 hR δ ⟨_,pV hj,rfl⟩
    rw[aw (x:=(j:Int)+1) ω ω,af j]
    have h0:=hr u (T5.mono hu ω)
    exact ax (λ_=>aB ⟨ω,ω⟩ (ag (MG N _) λ_ _=>bF (λ_=>h0) λ_=>ok_eq (λ_=>h0) λ_=>ag (bD N ω hc.2.2.1) λp hp=>ag (ni N ω hm hb.2.2.1 _ _) λq hq=>ag (bD N ω hq) λq hq=>ag (mL N ω ω ω hp hq) λy hy=>ag (xT N hy) λv hv=>bF (λ_=>nil _ δ) λ_=>ax (λ_=>aD (by rw[aJ];omega) (hr _ (T5.mono (T5.app hu hM) ω))) λ_=>h0)) λ_=>ω
   ·refine ax (λ_=>ω) λ_=>br (len:=g.length) (F:=λn j u=>c3.O4 N n a g b u j) (λj u=>T5 b (3+m*5+m+j) u) (T5.mono hu ω) ω (λn j u hj hu hr=> ?_) (λn u hu=> ?_)
    all_goals unfold c3.O4 c3.Mj
    ·have Jb:=hu.1
     rw[aw (x:=(j:Int)+1) ω ω,af j]
     have h0:=hr u (T5.mono hu ω)
     dsimp only
     exact ax (λ_=>aB ⟨ω,ω⟩ (ag (Ib N ω hm hb.2.1 _) λx ⟨hx,hxe⟩=>aB ⟨ω,ω⟩ (aB ⟨ω,ω⟩ (ag (ni N ω hm hb.2.2.1 _ _) λq hq=>pd (λhf=>bG (λ_=>ax (λ_=>aD (by rw[aJ];omega) (hr _ (T5.mono (T5.app hu (uU hR (aaF hR.a hxe hf))) ω))) λ_=>h0) λ_=>h0) λ_=>h0)))) λ_=>ω
    ·exact ax (λ_=>ω) λ_=>aq ⟨T5.mono hu ω,λ_=>hMa⟩
 unfold c3 c3.b
 exact bK (ed N hN hm hb) (bF (λ_=>nil _ δ) λ_=>ag (uR N ω ω) λ_ _=>bF (λ_=>nil _ δ) λ_=>ag (Dc N ω ω) λ_ _=>bF (λ_=>nil _ δ) λ_=>bK (sf N (ct hb.1.1 ω) ω _) (ok_eq (λ_=>nil _ δ) λhs=>have hMa:=(vX hR.m a).1 hs;ag (BZ N ω hm hb.2.1 _) λh hh=>bG (λ_=>ag (row_in N ω hm hb hR ω (T5.nil (k:=0)) _ _ _) λl hl=>hj hMa l hl) λ_=>hj hMa [] T5.nil))
theorem W3(hN:5000000≤N){c:ae}{b:an}{d g:aE}{a:Int}{m:Nat}(h2:200≤m)(hm:m≤40000)(hc:G m aA c)(hb:G m aK b)(hR:RB c b)(hd:L2 m d)(hg:L2 m g)(ha:aF a):Ok (λr=>r.2.2=0→RBs c b r.1) (iY N c b a d g):=by
 have eg: ∀e:Int,e≠0→Ok (λr:an×ei×Int=>r.2.2=0→RBs c b r.1) (some ((cc,(cT,(bq,(bq,(db,(dq,())))))),(R0,e))):=λe h=>aq λh'=>absurd h' h
 unfold iY iY.b
 refine ag (Ok.and (aaG N hN ω hc hb hR hd hg) (PX N hN ω hc hb hd hg ha)) λl ⟨⟨⟨_,R5⟩,hMa⟩,hl2⟩=>ok_eq (λh=>eg _ ω) λ_=>ok_eq (λh=>eg _ ω) λ_=>ag (K6 N hN c ω hb) λq hq=>bG (λh=>eg _ h) λ_=>bG (λh=>eg _ h) λh0=>ag (K7 N hN (Q:=λx=>G 64 p9 x∧PT b x.2.1 x.2.2.1) (λx hx=>hx.1.2.2.2.1) (λx v hx hv=>⟨G5q hx.1 hv,hx.2⟩) (λx hx=>⟨G.mono (m:=0) (bz _) (hl2.2 x hx),R5 x hx⟩) hq) λz ⟨⟨hzl,zi⟩,Fu⟩=>bG (λh=>eg _ h) λ_=> ?_
 have hMa:=hMa h0
 have hF:c9 2 0∧kf b.1 b.2.1 2 0:=Dp δ
 have hj: ∀(p:bO) (r:ei) (t:bf) (x k n:Int),PB b.1 b.2.1 p→p.length≤1000→PT b k n→aF x→Ok (λr=>r.2.2=0→RBs c b r.1) (iY.j26 N b (cc,(cT,(bq,(bq,(db,(dq,())))))) R0 p r t x k n):=λp r t x k n hp Cw hk hx=>by
  unfold iY.j26 iY.ads
  exact bK (dP N ω hx.1 hx.2) (ag (tO N ω (pB hx) hF hk) λu ⟨hu,Jb⟩=>aD ω (ag (tN N ω ω hb hR SB.nil (PB.app hp hu) (bz _) (by rw[aS];omega)) λw hw=>bG (λh=>eg _ h) λh0=>aq λ_=>hw h0))
 refine br (len:=z.1.length) (F:=λn i (s:bO×ei×bf)=>iY.Kx N n a c b (cc,(cT,(bq,(bq,(db,(dq,())))))) R0 z.1 z.2.1 s.1 s.2.1 s.2.2 i) (s:=(_,(_,_))) (λi s=>(PB b.1 b.2.1 s.1∧s.1.length≤2*i)∧s.2.2.length≤i) ⟨⟨PB.nil,bz _⟩,bz _⟩ ω (λn i s hi hI hr=> ?_) (λn s hI=> ?_)
 all_goals unfold iY.Kx iY.JJ
 all_goals obtain⟨⟨h4,hp⟩,ht⟩:=hI
 ·obtain⟨hx,hk⟩:=zi _ (pV (d:=eG) hi)
  have hx:aF (z.1.getD i eG).2.2.2.2.1:=hx.2.2.2.2.1
  rw[aw (x:=(i:Int)+1) ω ω,af i,aI]
  exact ax (λ_=>aB ⟨ω,ω⟩ (ax (λ_=>aB ⟨ω,ω⟩ (aD (by rw[List.length_singleton];omega) (aB ⟨ω,ω⟩ (aB ⟨ω,ω⟩ (aB ⟨ω,ω⟩ (bK (dP N ω hx.1 hx.2) (ag (tO N ω (pB hx) hk hF) λu ⟨hu,Jb⟩=>aD ω (hr (_,(_,_)) ⟨⟨PB.app h4 hu,by dsimp only;rw[List.length_append];omega⟩,by dsimp only;rw[List.length_append,List.length_singleton];omega⟩)))))))) λ_=>hr s ⟨⟨h4,ω⟩,ω⟩)) λ_=>ω
 ·dsimp only
  have hS:c9 4 0∧kf b.1 b.2.1 4 0:=Dp δ
  exact ax (λ_=>ω) λ_=>bK (dP N ω Fu.1 Fu.2) (ag (tO N ω (pB Fu) hS hF) λu ⟨hu,Jb⟩=>aD ω (ag (Ii N hN c ω hb) λx hx=>bK (ru N (ct hb.2.1.1 ω) ω _) (bG (λhh=>hj _ _ _ _ _ _ (PB.app h4 hu) (by rw[aS];omega) (uU hR (Lh hh)) hx) λ_=>hj _ _ _ _ _ _ (PB.app h4 hu) (by rw[aS];omega) (B4 hR δ hMa) hx)))
theorem adP{c:ae}{b:an}(hR:RB c b)(w:oe b){a:Int}(ha:0≤a∧lI a c.1.length)(h:(vS c b a).2=0):SB c b.2.1 (vS c b a).1∧(vS c b a).1.length≤65:=by
 have I:=aam (oh.2 hR) w h
 refine⟨⟨λx hx=>(I.q x hx).1,λx hx=>⟨I.place x hx,?_⟩,I.flat⟩,I.len⟩
 have pos: ∀y∈b.2.2.2.1,dD y.1 0∨q5 b.2.1 y.1:=λy hy=>(hR.sk y hy).1
 unfold vS at hx h
 rw[aj (oh.2 hR)]at hx h
 by_cases h1:a<0
 ·exact absurd ha.1 ω
 by_cases h2:(c.1.length:Int)≤a
 ·have:=ha.2;unfold lI at this;omega
 rw[ah h1,ah h2]at hx h
 by_cases h3:gj b.2.2.2.1 0 a=0
 ·rw[aj h3]at hx;exact nomatch hx
 rw[ah h3]at hx h
 generalize gj b.2.2.2.1 0 a=q at*
 by_cases h4:(kK b.2.2.2.1 a q).2.2=0
 ·rw[aj h4]at hx
  rcases a8.1 hx with rfl|hx
  ·exact⟨.inl rfl,ha.2⟩
  ·obtain⟨p,hp,rfl⟩:=MQ hx
   obtain⟨y,hy,e⟩:=cW.1 (List.of_mem_zip hp).2
   refine⟨?_,ha.2⟩
   dsimp only
   rw[←e]
   exact pos y (uO hy).1
 ·rw[ah h4]at hx;exact nomatch hx
theorem adQ(hN:5000000≤N){c:ae}{b:an}{m:Nat}(hm:m≤7000)(hb:G m aK b)(hR:RB c b):Ok (JH c b) (oC N c b):=by
 have w:=(G.wf ω hb).w
 have hci:c.1.length≤6:=by
  have:=hR.c
  unfold eR at this
  exact(bt (da.1 this).1).2
 unfold oC oC.b
 refine bK (ed N hN ω hb) (bF (λ_=>JH.bad δ) λ_=>br (len:=c.1.length) (F:=λn i s=>oC.l5 N n c b (cc,(cT,(bq,(bq,(db,(dq,())))))) s i) (λi s=>SB c b.2.1 s∧s.length≤65*i) ⟨SB.nil,bz _⟩ ω (λn i s hi hI hr=> ?_) (λn s hI=> ?_))
 all_goals unfold oC.l5 oC.eo
 all_goals obtain⟨i1,i2⟩:=hI
 ·rw[aw (x:=(i:Int)+1) ω ω,af i]
  exact ax (λ_=>bK (aak N hN c w _) (bG (λh=>JH.bad h) λh=>have J:=adP hR w ⟨ω,show(i:Int)<c.1.length by omega⟩ h;aD ω (hr _ ⟨SB.app i1 J.1,by rw[aS];omega⟩))) λ_=>ω
 ·exact ax (λ_=>ω) λ_=>ag (tN N ω ω hb hR i1 PB.nil ω (bz _)) λr hr=>aq hr
def oL(c:ae)(m:Nat)(s:aQ):Prop:=RB c s.2.2.1∧(1≤s.2.1∧s.2.1≤2000*(m:Int))∧(s.2.2.2.1.2.2.2.2.1.length≤4∧ ∀x∈s.2.2.2.1.2.2.2.2.1,JP c x)∧s.2.2.2.1.2.2.2.2.2.1.length≤12
abbrev SI(c:ae)(m:Nat)(r:aQ×dd):Prop:=r.2.1=0→oL c m r.1
theorem oL.up{c:ae}{m:Nat}{s:aQ}(h:oL c m s):oL c (m+1) s:=⟨h.1,⟨h.2.1.1,gO h.2.1.2 ω⟩,h.2.2⟩
theorem oL.add{n k:Int}{m:Nat}(h:1≤n∧n≤2000*(m:Int))(hm:m≤999)(hk:0≤k∧k≤2000):1≤W .i64 (n+k)∧W .i64 (n+k)≤2000*((m+1:Nat):Int):=by
 rw[aw ω ω];omega
theorem UU{c:ae}:([]:aO).length≤4∧ ∀x∈([]:aO),JP c x:=⟨bz _,λx hx=>nomatch hx⟩
theorem iM{c:ae}{m N:Nat}{e:Int}{x:aQ}(h:e=0→oL c m x):Ok (SI c m) ((gd N e).bind λr=>some (x,r)):=by
 unfold gd;exact aq h
theorem ej{c:ae}{m N:Nat}{e:Int}{x:aQ}(h:e≠0):Ok (SI c m) ((gd N e).bind λr=>some (x,r)):=iM λh'=>absurd h' h
theorem aaH(hN:200000≤N){s:aQ}(hl:s.2.2.1.2.1.length≤100000)(k:Int):SQ N s k=some (eV s.2.2.1.2.1 k).2:=by
 unfold SQ;rw[BA N hl hN];rfl
theorem W4(hN:200000≤N){s:aQ}(hl:s.2.2.1.1.length≤100000)(k:Int):Ij N s k=some (gJ s.2.2.1.1 k):=by
 unfold Ij;rw[sf N hl hN];rfl
theorem MV(hN:4000000≤N){c:ae}{s:aQ}{m:Nat}(hm:m≤50000)(hs:GS m s)(hR:oL c m s){a b d e q:Int}(hq:aF q)(h1:c9 a b∧kf s.2.2.1.1 s.2.2.1.2.1 a b)(h2:c9 d e∧kf s.2.2.1.1 s.2.2.1.2.1 d e):Ok (SI c (m+1)) (P1 N s a b d e q):=by
 unfold P1
 exact bK (dP N ω hq.1 hq.2) (ag (tO N hN (pB hq) h1 h2) λp ⟨hp,Cw⟩=>ag (tN N hN hm hs.2.2.1 hR.1 SB.nil hp (bz _) ω) λr hr=>aq λh=>⟨(hr h).1,hR.up.2⟩)
theorem W5(hN:5000000≤N){c:ae}{s:aQ}{e:ix}{m:Nat}(h2:200≤m)(hm:m≤999)(hc:G m aA c)(hs:GS m s)(hR:oL c m s)(he:G 0 me e):Ok (SI c (m+1)) (oD N c s e):=by
 have hhl:=hs.2.2.2.1.2.2.2.2.1.1
 unfold oD oD.b
 generalize ((0:Int),((0:Int),_))=S0
 refine br (len:=s.2.2.2.1.2.2.2.2.1.length) (F:=λn i (z:aQ×aO×Bool×Int)=>oD.l5 N n c z.1 e S0 bc z.2.1 z.2.2.1 z.2.2.2 i) (s:=(_,(_,(_,_)))) (λi z=>(GS m z.1∧oL c m z.1)∧z.1.2.2.2.1.2.2.2.2.1=s.2.2.2.1.2.2.2.2.1∧(G i (.slice fc) z.2.1∧ ∀x∈z.2.1,JP c x)) ⟨⟨hs,hR⟩,rfl,G.nil,λx hx=>nomatch hx⟩ ω (λn i z hi hI hr=> ?_) (λn z hI=> ?_)
 all_goals unfold oD.l5 oD.eo
 ·obtain⟨⟨hz,hzR⟩,hh,ho,hog⟩:=hI
  have Cg:=ho.1
  rw[hh,aw (x:=(i:Int)+1) ω ω,af i]
  have hx:G 0 fc (s.2.2.2.1.2.2.2.2.1.getD (i:Int).toNat ba):=G.at hs.2.2.2.1.2.2.2.2.1 _
  have hxg:JP c (s.2.2.2.1.2.2.2.2.1.getD (i:Int).toNat ba):=hR.2.2.1.2 _ (pV hi)
  have snoc: ∀x:cF,JP c x→ ∀y∈z.2.1++[x],JP c y:=λx hx y hy=>(bk.1 hy).elim (hog y) λhy=>by rw[cn.1 hy];exact hx
  have hxm:G m fc (s.2.2.2.1.2.2.2.2.1.getD (i:Int).toNat ba):=G.mono (bz m) hx
  refine ax (λ_=>aB ⟨ω,ω⟩ (ok_eq (λ_=>ag (Ok.and (UD N hN h2 ω hc hz.2.2.1 hxm he.2.2.1 he.2.2.2.2.2.2.1 he.2.2.2.2.2.2.2.1) (adI N hN h2 ω hc hz.2.2.1 hzR.1 hxm he.2.2.1 he.2.2.2.2.2.2.1 he.2.2.2.2.2.2.2.1)) λr ⟨⟨Bm,zA⟩,UG⟩=>bG (λh=>ej h) λh0=> ?_) λ_=>ax (λ_=>aD (by rw[aJ];omega) (hr (z.1,(z.2.1++[s.2.2.2.1.2.2.2.2.1.getD (i:Int).toNat ba],z.2.2)) ⟨⟨hz,hzR⟩,hh,G.cat ho (G.one hx (aH 1)),snoc _ hxg⟩)) λ_=>hr z ⟨⟨hz,hzR⟩,hh,G.mono ω ho,hog⟩)) λ_=>ω
  have Ad:GS m (z.1.1,(z.1.2.1,(r.1,z.1.2.2.2))):=⟨hz.1,hz.2.1,Bm,hz.2.2.2⟩
  have aqs:oL c m (z.1.1,(z.1.2.1,(r.1,z.1.2.2.2))):=⟨(UG h0).1,hzR.2⟩
  have alb:G 0 fc r.2.1:=zA
  exact ax (λhq=>aD (by rw[aJ];omega) (hr ((z.1.1,(z.1.2.1,(r.1,z.1.2.2.2))),(z.2.1++[r.2.1],(true,r.2.1.2.2.2.1))) ⟨⟨Ad,aqs⟩,hh,G.cat ho (G.one alb (aH 1)),snoc _ ⟨by rw[(UG h0).2.1];exact hxg.1,hq,(UG h0).2.2⟩⟩)) λ_=>hr ((z.1.1,(z.1.2.1,(r.1,z.1.2.2.2))),(z.2.1,(true,r.2.1.2.2.2.1))) ⟨⟨Ad,aqs⟩,hh,G.mono ω ho,hog⟩
 ·obtain⟨⟨hz,hzR⟩,hh,ho,hog⟩:=hI
  rw[hh]
  exact ax (λ_=>ω) λ_=>bF (λ_=>ej δ) λ_=>aq λ_=>⟨hzR.1,hzR.up.2.1,⟨ct ho.1 hR.2.2.1.1,hog⟩,hzR.2.2.2⟩
theorem aaI(hN:5000000≤N){c:ae}{s:aQ}{e:ix}{m:Nat}(h2:200≤m)(hm:m≤999)(hc:G 5 aA c)(hs:GS m s)(hR:oL c m s)(he:G 0 me e):Ok (SI c (m+1)) (oE N c s e):=by
 have Fp:G m aA c:=G.mono ω hc
 have hk:=hs.2.2.2.1
 have hb:=hs.2.2.1
 have up:=hR.up.2
 unfold oE oE.b
 refine ok_eq (λ_=> ?_) λ_=>ok_eq (λ_=> ?_) λ_=>ok_eq (λ_=> ?_) λ_=>ok_eq (λ_=> ?_) λ_=>ok_eq (λ_=> ?_) λ_=>ok_eq (λ_=> ?_) λ_=>ok_eq (λ_=> ?_) λ_=>ok_eq (λ_=> ?_) λ_=>iM λ_=>hR.up
 ·exact ag (adM N hN ω Fp hb hR.1 _ _ _) λr hr=>iM λh=>⟨hr h,up⟩
 ·exact ag (adN N hN h2 ω Fp hb hR.1 _) λr hr=>iM λh=>⟨(hr h).1,up⟩
 ·exact ag (K0 N hN c hc.2.2.2.2.2.2.1 ω hb _) λr hr=>aq λ_=>⟨hR.1,oL.add hR.2.1 hm (by have:=hr.1.1;omega),⟨hr.1.1,hr.2⟩,hR.2.2.2⟩
 ·exact ag (W5 N hN h2 ω Fp hs hR he) λr hr=>aq hr
 ·exact ok_eq (λ_=>ej δ) λ_=>ag (UF N hN h2 ω Fp hb hs.2.1) λl ⟨hl,awe⟩=>bG (λh=>ej h) λ_=>ag (uS N ω hs.1 hc.2.2.2.2.1) λt ht=>bF (λ_=>ej δ) λ_=>ag (UE N hN c ω hb) λu hu=>aq λ_=>⟨hR.1,oL.add hR.2.1 hm ω,UU,awe⟩
 ·have hx:G 0 fc (s.2.1,(e.2.2.2.2.2.1,(e.2.1,(e.2.2.2.2.2.2.2.1,())))):=⟨hs.2.1,he.2.2.2.2.2.1,he.2.1,he.2.2.2.2.2.2.2.1,trivial⟩
  exact ag (K5 N hN ω ω Fp hb hk.2.2.2.2.2.1 hk.2.2.2.2.2.2.1 hx) λr hr=>aq λ_=>⟨hR.1,oL.add hR.2.1 hm δ,hR.2.2⟩
 ·refine ag (Ok.and (PY N hN c h2 ω hb hk.2.2.2.2.2.1 hk.2.2.2.2.2.2.1) (aaE N hN h2 ω hb hR.1 hk.2.2.2.2.2.1 hk.2.2.2.2.2.2.1)) λr ⟨⟨Bm,zA⟩,UG⟩=>bG (λh=>ej h) λh0=>ag (PW N ω c h2 ω hk.2.2.2.2.2.2.2.2.1 hk.2.2.2.2.2.2.2.1.1 zA hk.2.2.2.2.2.2.1) λd hd=> ?_
  generalize ((0:Int),((0:Int),_))=S0
  have J6:=zA.1
  refine br (len:=r.2.1.length) (F:=λn i q=>oE.l41 N n _ S0 bc r.2.1 q i) (λ_ _=>True) trivial ω (λn i q hi _ eQ=> ?_) (λn q _=> ?_)
  all_goals unfold oE.l41 oE.adx
  ·rw[aw (x:=(i:Int)+1) ω ω,af i]
   exact ax (λ_=>aB ⟨ω,ω⟩ (ok_eq (λ_=>eQ _ trivial) λ_=>eQ _ trivial)) λ_=>ω
  ·exact ax (λ_=>ω) λ_=>aq λ_=>⟨(UG h0).1,up.1,hR.2.2.1,(UG h0).2⟩
 ·exact ag (Ok.and (K8 N hN h2 ω Fp hb hk.2.2.2.2.2.2.2.2.1 hk.2.2.2.2.2.2.2.2.2.1 hk.1) (W3 N hN h2 ω Fp hb hR.1 hk.2.2.2.2.2.2.2.2.1 hk.2.2.2.2.2.2.2.2.2.1 hk.1)) λr ⟨⟨Bm,zA⟩,UG⟩=>bG (λh=>ej h) λh0=>ag (Ok.and (UJ N hN h2 ω hc Bm) (adQ N hN ω Bm (UG h0).1)) λb ⟨hb,uX⟩=>bG (λh=>ej h) λh1=>ag (UR N ω (ct hb.1.1 ω) _ _) λu hu=>aq λh=>have B:=(uX h1).1;⟨B.WT (hu h).1 B.a (hu h).2.1 (λ_ h=>h) λx hx=>(hu h).2.1 _ (B.ma x hx),up.1,UU,bz _⟩
theorem aaJ(hN:5000000≤N){c:ae}{s:aQ}{e:ix}{m:Nat}(h2:200≤m)(hm:m≤999)(hc:G 5 aA c)(hs:GS m s)(hR:oL c m s)(he:G 0 me e):Ok (SI c (m+1)) (qx N c s e):=by
 obtain⟨s1,s2,s3,⟨k1,k2,k3,k4,k5,k6,k7,k8,k9,yR,k11⟩,s5⟩:=hs
 have hs:GS m s:=⟨s1,s2,s3,⟨k1,k2,k3,k4,k5,k6,k7,k8,k9,yR,k11⟩,s5⟩
 have up:=hR.up.2
 unfold qx qx.b
 have hj: ∀(S0:aQ) (z:dd),Ok (SI c (m+1)) (qx.WH N c s e S0 z):=λS0 z=>by
  unfold qx.WH qx.PV
  exact ag (P0 N _ _) λ_ _=>bF (λ_=>ej δ) λ_=>ag (aaI N hN h2 hm hc hs hR he) λr hr=>aq hr
 have mem: ∀{x:aE},G m (.slice kN) x→G m aK ((x,s.2.2.1.2):an):=λh=>⟨h,s3.2⟩
 have rb: ∀{x:aE},dI x=true→(∀n,jX s.2.2.1.1 n→jX x n)→RB c ((x,s.2.2.1.2):an):=λh1 h2=>hR.1.WT h1 hR.1.a h2 (λ_ h=>h) λx hx=>h2 _ (hR.1.ma x hx)
 have Jm:=λk:Int=>Ok.and (ME N ω (m:=m) ω s3.1 e.2.1 k) (UR N ω (ct s3.1.1 ω) e.2.1 k)
 have hd: ∀z:aE×Int,G m (.slice kN) z.1∧(z.2=0→dI z.1=true∧(∀n,jX s.2.2.1.1 n→jX z.1 n)∧jX s.2.2.1.1 e.2.1)→Ok (SI c (m+1)) (cond (aN z.2 0) (cond (aN e.1 11) ((F54 N c (z.1,s.2.2.1.2) e.2.1).bind λr2=>cond (aN s.2.2.2.1.2.1 3) ((p7 N s.2.2.2.1.2.2.2.2.2.2.1 e.2.1).bind λr3=>(gd N z.2).bind λr4=>some ((s.1,(s.2.1,(r2.1,((s.2.2.2.1.1,(s.2.2.2.1.2.1,(s.2.2.2.1.2.2.1,(s.2.2.2.1.2.2.2.1,(s.2.2.2.1.2.2.2.2.1,(s.2.2.2.1.2.2.2.2.2.1,(r3,s.2.2.2.1.2.2.2.2.2.2.2))))))),s.2.2.2.2)))),r4)) ((gd N z.2).bind λr5=>some ((s.1,(s.2.1,(r2.1,s.2.2.2))),r5))) ((gd N z.2).bind λr6=>some ((s.1,(s.2.1,((z.1,s.2.2.1.2),s.2.2.2))),r6))) ((gd N z.2).bind λr7=>some ((s.1,(s.2.1,((z.1,s.2.2.1.2),s.2.2.2))),r7))):=λz ⟨hz,hi⟩=>
  ok_eq (λh0=>have B:=rb (hi h0).1 (hi h0).2.1;ok_eq (λ_=>ag (Qh N hN (m:=m) ω (mem hz) B _ ((hi h0).2.1 _ (hi h0).2.2)) λb hb=>ok_eq (λ_=>ag (Et N ω ω k7 _) λl hl=>iM λ_=>⟨hb,up⟩) λ_=>iM λ_=>⟨hb,up⟩) λ_=>iM λ_=>⟨B,up⟩) λh=>ej h
 refine ok_eq (λ_=>ag (Jm _) λz hz=>hd z hz) λ_=>ok_eq (λ_=>ag (Jm _) λz hz=>hd z hz) λ_=>ok_eq (λ_=> ?_) λ_=>ok_eq (λ_=> ?_) λ_=>hj _ _
 ·exact ag (pf N ω ω hs _) λ_ _=>ok_eq (λ_=>ej δ) λ_=>bG (λ_=>ej δ) λ_=>ag (Jm _) λz ⟨hz,hi⟩=>bG (λh=>ej h) λh0=>ag (uS N ω s1 hc.2.2.2.1) λt ht=>bF (λ_=>ej δ) λ_=>aq λ_=>⟨rb (hi h0).1 (hi h0).2.1,up.1,UU,bz _⟩
 ·exact ag (pf N ω ω hs _) λ_ _=>ok_eq (λ_=>ej δ) λ_=>ag (pf N ω ω hs _) λ_ _=>bG (λ_=>ej δ) λ_=>hj _ _
theorem adR(hN:5000000≤N){c:ae}{s:aQ}{e:ix}{m:Nat}(h2:200≤m)(hm:m≤999)(hc:G 5 aA c)(hs:GS m s)(hR:oL c m s)(he:G 0 me e):Ok (SI c (m+1)) (WQ N c s e):=by
 have Fp:G m aA c:=G.mono ω hc
 have hb:=hs.2.2.1
 have WR:=he.2.2.2.2.2.2.1
 have up:=hR.up.2
 have B:=hR.1
 have ml:=ct hb.1.1 (show m≤50000 by omega)
 have al:=ct hb.2.1.1 (show m≤50000 by omega)
 have hW:c9 1 0∧kf s.2.2.1.1 s.2.2.1.2.1 1 0:=Dp δ
 have st:=λk:Int=>W4 N ω (s:=s) ω k
 have stm: ∀k:Int,gJ s.2.2.1.1 k≠0→jX s.2.2.1.1 k:=λk h=>(vX B.m k).1 h
 unfold WQ
 refine ok_eq (λ_=> ?_) λ_=>ok_eq (λ_=> ?_) λ_=>ok_eq (λ_=> ?_) λ_=>ok_eq (λ_=> ?_) λ_=>ok_eq (λ_=> ?_) λ_=>ok_eq (λ_=> ?_) λ_=>ok_eq (λ_=> ?_) λ_=>ok_eq (λ_=> ?_) λ_=>ok_eq (λ_=> ?_) λ_=>ok_eq (λ_=> ?_) λ_=>ok_eq (λ_=> ?_) λ_=>ag (aaJ N hN h2 hm hc hs hR he) λr hr=>aq hr
 ·exact ag (aau N ω ml _) λr hr=>iM λh=>⟨B.WT (hr h).1 B.a (hr h).2 (λ_ h=>h) λx hx=>(hr h).2 _ (B.ma x hx),up⟩
 ·exact ag (adH N ω ml al _) λr hr=>iM λh=>⟨B.WT B.m (hr h).1 (λ_ h=>h) (hr h).2.1 (hr h).2.2,up⟩
 ·exact bK (aaH N ω ω _) (bF (λ_=>ej δ) λhf=>ag (MV N ω ω hs hR WR hW (uU B ((qb B.a _).1 hf))) λr hr=>aq hr)
 ·exact ag (Qf N hN h2 ω Fp hb B he.2.2.1 WR) λr hr=>iM λh=>⟨(hr h).1,up⟩
 ·exact bK (st _) (ok_eq (λ_=>ej δ) λh0=>bK (st _) (bG (λ_=>ej δ) λ_=>ag (MV N ω ω hs hR WR hW (B4 B δ (stm _ h0))) λr hr=>aq hr))
 ·exact bK (st _) (ok_eq (λ_=>ej δ) λh0=>ag (ni N ω ω hb.2.2.1 _ _) λg hg=>ag (bD N ω hg) λx hx=>ag (rA N ω ω hx) λx hx=>ag (bD N ω WR) λy hy=>ag (qu N ω ω ω hy hx) λ_ _=>ax (λ_=>ej δ) λ_=>ag (MV N ω ω hs hR WR hW (B4 B δ (stm _ h0))) λr hr=>aq hr)
 ·exact ag (aaw N ω al B.ma _ _) λr hr=>iM λh=>⟨B.WT B.m (hr h).1 (λ_ h=>h) (hr h).2.1 (hr h).2.2,up⟩
 ·have hx:G 0 nh (s.2.1,(e.2.2.1,(e.2.2.2.1,(e.2.2.2.2.1,(e.2.2.2.2.2.2.1,(e.2.2.2.2.2.2.2.1,())))))):=⟨hs.2.1,he.2.2.1,he.2.2.2.1,he.2.2.2.2.1,WR,he.2.2.2.2.2.2.2.1,trivial⟩
  exact ag (aaB N hN h2 ω Fp hb B hx) λr hr=>aq λh=>⟨hr h,oL.add hR.2.1 hm δ,hR.2.2⟩
 ·exact bK (aaH N ω ω _) (bF (λ_=>ej δ) λ_=>ag (W1 N ω (ct hb.2.2.2.2.2.1.1 ω) _ _) λr hr=>iM λh=>⟨B.MN (hr h).1 λx hx=>B.ok x ((hr h).2 x hx),up⟩)
 ·exact ag (Ok.and (Eu N hN c h2 ω hb _ he.2.2.2.2.2.2.2.1) (Qg N hN ω hb B _ _)) λr ⟨⟨Bm,zA⟩,UG⟩=>ok_eq (λh0=>bG (λ_=>ag (PO N ω h2 ω hs.2.2.2.1.2.2.2.2.2.2.2.2.2.1 zA) λg hg=>iM λ_=>⟨UG h0,up⟩) λ_=>iM λ_=>⟨UG h0,up⟩) λh=>ej h
 ·exact ag (uS N ω hs.1 WR) λt ht=>bF (λ_=>ej δ) λ_=>aq λ_=>⟨B,up⟩
theorem UW(hN:5000000≤N){c:ae}{s:aQ}{e:ix}{m:Nat}(h2:200≤m)(hm:m≤999)(hc:G 5 aA c)(hs:GS m s)(hR:oL c m s)(he:G 0 me e):Ok (λr=>oL c (m+1) r.1) (F76 N c s e):=by
 have bZ: ∀r:dd,Ok (λr:aQ×dd=>oL c (m+1) r.1) (some (s,r)):=λr=>aq hR.up
 unfold F76
 exact bK (oa N ω c) (bF (λ_=>bZ _) λ_=>ag (K4 N ω e) λ_ _=>bF (λ_=>bZ _) λ_=>ag (adR N hN h2 hm hc hs hR he) λr hr=>bG (λ_=>bZ _) λh=>aq (hr h))
theorem FL(N:Nat){k:Nat}{d:aG}(h:Dk k d)(hk:k≤iw:=by first|decide|(unfold iw;omega)):Ok (λr=>(0≤r.1∧r.1<9223372036854775808)∧Dk (k+1) r.2) (K2 N d):=by
 unfold K2
 refine ag (FJ N hk h) λr ⟨hr,hd⟩=>ok_eq (λ_=>ω) λ_=> ?_
 have h3:shr .u64 r.1 3=r.1/8:=by rw[LZ ω ω];rfl
 have put: ∀x:Int,0≤x∧x<9223372036854775808→Ok (λr=>(0≤r.1∧r.1<9223372036854775808)∧Dk (k+1) r.2) (some (W .i64 x,r.2)):=λx hx=>aq ⟨by rw[aw ω ω];exact hx,hd⟩
 have awf: ∀y:Int,0<y∧y≤1000000000000→0≤rem (r.1/8) y∧rem (r.1/8) y<9223372036854775808:=λy hy=>by have:=rem_in (x:=r.1/8) (y:=y) ω hy.1;omega
 dsimp only
 rw[h3,apI]
 repeat' first|exact put _ ω|exact put _ (awf _ δ)|refine ax (λ_=> ?_) (λ_=> ?_)|refine ok_eq (λ_=> ?_) (λ_=> ?_)|(exfalso;omega)
def Dq(x:cF):Prop:=n6 x.1 x.2.1 x.2.2.1 x.2.2.2.1
theorem Qi{c:ae}:eR c=true↔(1≤c.1.length∧c.1.length≤6)∧(∀x∈c.1,Dq x)∧qp c:=by
 unfold eR
 simp only[bM,fU]
 rw[←gS (d:=ba) (Q:=Dq)];rfl
abbrev Cq(c:ae):Prop:=(G 5 aA c∧1≤c.1.length)∧eR c=true
theorem alj{x:cF}(h:Dq x):G 5 fc x:=by
 have g: ∀a b c d:Int,n6 a b c d→aF a∧aF b∧aF c∧aF d:=λa b c d h=>by unfold n6 at h;unfold aF;omega
 have:=g _ _ _ _ h
 exact⟨this.1,this.2.1,this.2.2.1,this.2.2.2,trivial⟩
theorem alk{c:ae}(h:qp c)(h1:c.2.1<9223372036854775808)(h2:c.2.2.2.2.2.2.1≤1000):G 5 (.pair (.int .i64) (.pair (.int .i64) (.pair (.int .i64) (.pair (.int .i64) (.pair (.int .i64) (.pair (.int .i64) .unit)))))) c.2:=by
 have g: ∀a b c d e f:Int,n7 a b c d e f→a<9223372036854775808→f≤1000→aF a∧aF b∧aF c∧aF d∧aF e∧aF f:=λa b c d e f h h1 h2=>by unfold n7 at h;unfold aF;omega
 have:=g _ _ _ _ _ _ h h1 h2
 exact⟨this.1,this.2.1,this.2.2.1,this.2.2.2.1,this.2.2.2.2.1,this.2.2.2.2.2,trivial⟩
theorem V6(hN:100≤N){d:aG}(h:Dk 0 d):Ok (λr=>Cq r.1∧Dk 1000 r.2) (F7 N d):=by
 unfold F7 F7.b
 refine ag (ic N δ h) λr hr=> ?_
 rw[aw (x:=1+r.1) ω ω]
 obtain⟨k,hk⟩: ∃k:Nat,1+r.1=(k:Int):=⟨(1+r.1).toNat,ω⟩
 rw[hk]
 have b1: ∀x y:Int,0≤x∧x<y→y≤1000000000000→1≤W .i64 (1+x)∧W .i64 (1+x)≤y:=λx y h1 h2=>by rw[aw ω ω];omega
 refine vV (F:=λn x (s:aG×aO)=>F7.l3 N n s.1 (cT,eC) (cT,eC) s.2 x) (λx s=>x+s.2.length=k∧Dk (1+20*s.2.length) s.1∧ ∀y∈s.2,Dq y) (λn x s hI hr=> ?_) (λn s hI=> ?_) k N (r.2,_) ω ⟨rfl,hr.2,λy hy=>nomatch hy⟩
 all_goals unfold F7.l3 F7.nr
 ·obtain⟨hx,hd,hG⟩:=hI
  have A4: ∀(d:aG) (x4:cF),Dk (1+20*s.2.length+10) d→Dq x4→Ok (λr=>Cq r.1∧Dk 1000 r.2) (cond (small (s.2.length+[x4].length)) (F7.l3 N n d (cT,eC) (cT,eC) (s.2++[x4]) (W .i64 (((x+1:Nat):Int)-1))) none):=λd x4 hd hx4=>by
   rw[aw (x:=((x+1:Nat):Int)-1) ω ω,show((x+1:Nat):Int)-1=(x:Int)by omega]
   refine aD (by rw[aJ];omega) (hr (_,_) ⟨by rw[aS,aJ];omega,Dk.mono hd (by rw[aS,aJ];omega),λy hy=> ?_⟩)
   rcases bk.1 hy with hy|hy
   ·exact hG y hy
   ·rw[cn.1 hy];exact hx4
  have hj: ∀(d:aG) (x5:cF),Dk (1+20*s.2.length+6) d→Dq x5→Ok (λr=>Cq r.1∧Dk 1000 r.2) (F7.j8 N (F7.l3 N n) d (cT,eC) (cT,eC) s.2 ((x+1:Nat):Int) x5):=λd x5 hd hx5=>by
   unfold F7.j8 F7.Zd
   refine ag (ov N δ hd) λr hd=>pd (λ_=> ?_) λ_=>A4 _ _ (Dk.mono hd ω) hx5
   refine ag (FL N hd) λr ⟨h1,hd⟩=>ok_eq (λ_=>ω) λ_=> ?_
   dsimp only
   have e1:=rem_in h1.1 (show(0:Int)<1000000001 by decide)
   exact ag (FL N hd) λr ⟨h2,hd⟩=>ok_eq (λ_=>ω) λ_=>have e2:=rem_in h2.1 (show(0:Int)<1000000001 by decide);A4 _ _ (Dk.mono hd ω) ⟨hx5.1,hx5.2.1,⟨e1.1,by dsimp only;omega⟩,⟨e2.1,by dsimp only;omega⟩⟩
  refine ax (λ_=> ?_) λ_=>ω
  refine ag (ic N δ hd) λa ⟨ha,hd⟩=>ag (ic N δ hd) λb ⟨hb,hd⟩=>ag (ic N δ hd) λc ⟨hc,hd⟩=>ag (ic N δ hd) λe ⟨he,hd⟩=>ag (ov N δ hd) λr hd=>pd (λ_=>ag (FL N hd) λr ⟨h1,hd⟩=>ok_eq (λ_=>ω) λ_=>hj _ _ (Dk.mono hd ω) ⟨⟨ha.1,by dsimp only;omega⟩,b1 _ _ (rem_in h1.1 δ) δ,⟨hc.1,by dsimp only;omega⟩,⟨he.1,by dsimp only;omega⟩⟩) λ_=>hj _ _ (Dk.mono hd ω) ⟨⟨ha.1,by dsimp only;omega⟩,⟨(b1 _ _ hb δ).1,Int.le_trans (b1 _ _ hb δ).2 δ⟩,⟨hc.1,by dsimp only;omega⟩,⟨he.1,by dsimp only;omega⟩⟩
 ·obtain⟨hx,hd,hG⟩:=hI
  have hl:s.2.length≤4∧1≤s.2.length:=ω
  have hd:Dk 900 s.1:=Dk.mono hd ω
  have fin: ∀(q t p b l m:Int),(0≤q∧q<9223372036854775808)→(0≤t∧t<5)→(0≤p∧p<3)→(0≤b∧b<3)→(0≤l∧l<20)→(0≤m∧m<100)→Cq (s.2,(q,(t,(p,(b,(W .i64 (1+l),(m,()))))))):=λq t p b l m h1 h2 h3 h4 h5 h6=>by
   have h7:=b1 _ _ h5 δ
   have hr:qp (s.2,(q,(t,(p,(b,(W .i64 (1+l),(m,()))))))):=(show n7 q t p b (W .i64 (1+l)) m by unfold n7;omega)
   exact⟨⟨⟨⟨by dsimp only;omega,λy hy=>alj (hG y hy)⟩,alk hr h1.2 (show m≤1000 by omega)⟩,hl.2⟩,Qi.2 ⟨⟨hl.2,by dsimp only;omega⟩,hG,hr⟩⟩
  refine ax (λ_=>ω) λ_=>ag (ic N δ hd) λa ⟨ha,hd⟩=>ag (ic N δ hd) λb ⟨hb,hd⟩=>ag (ic N δ hd) λc ⟨hc,hd⟩=>ag (ic N δ hd) λe ⟨he,hd⟩=>ag (ic N δ hd) λf ⟨hf,hd⟩=> ?_
  dsimp only
  exact ag (ic N δ hd) λg ⟨hg,hd⟩=>ag (ov N δ hd) λr hd=>pd (λ_=>ag (FL N hd) λr ⟨hr,hd⟩=>aq ⟨fin _ _ _ _ _ _ hr hb hc he hf hg,Dk.mono hd δ⟩) λ_=>aq ⟨fin _ _ _ _ _ _ ⟨ha.1,ω⟩ hb hc he hf hg,Dk.mono hd δ⟩
theorem W6{q:Int}(h0:q≠0):eJ [((1:Int),((0:Int),((-q:Int),()))),((3:Int),((0:Int),(q,())))]=true∧dD (il [((1:Int),((0:Int),((-q:Int),()))),((3:Int),((0:Int),(q,())))]) 0:=by
 have ok:eJ [((1:Int),((0:Int),((-q:Int),()))),((3:Int),((0:Int),(q,())))]=true:=by
  unfold eJ
  rw[fu]
  refine aU λj hj=> ?_
  match j,hj with
  |0,_=>exact⟨show c9 1 0 by decide,show-q≠0 by omega,λh=>absurd h δ⟩
  |1,_=>exact⟨show c9 3 0 by decide,h0,λ_=> .inl (show(1:Int)<3 by decide)⟩
 refine⟨ok,?_⟩
 unfold il
 rw[aj ok]
 show-q+(q+0)=0
 omega
theorem S9(hN:1000≤N){c:ae}(hc:Cq c)(nJ:c.2.1<9223372036854775808):Ok (λr=>RB c r.1∧r.2=0) (iX N c):=by
 obtain⟨⟨hc,EL⟩,hp⟩:=hc
 have hl:=hc.1.1
 obtain⟨h1,h2,h3⟩:=Qi.1 hp
 unfold iX iX.b
 have hj: ∀b:an,(∀p:List Int,p.length=c.1.length→fi p=true→RB c (b.1,(b.2.1,(b.2.2.1,(b.2.2.2.1,(p,b.2.2.2.2.2))))))→Ok (λr=>RB c r.1∧r.2=0) (iX.j6 N c (cc,(cT,(bq,(bq,(db,(dq,())))))) b []):=λb hb=>by
  unfold iX.j6 iX.OL
  obtain⟨b1,b2,b3,b4,b5,b6⟩:=b
  refine br (len:=c.1.length) (F:=λn i (z:an×List Int)=>iX.l7 N n c (cc,(cT,(bq,(bq,(db,(dq,())))))) z.1 z.2 i) (s:=((b1,(b2,(b3,(b4,(b5,b6))))),_)) (λi z=>(z.1.1=b1∧z.1.2.1=b2∧z.1.2.2.1=b3∧z.1.2.2.2.1=b4∧z.1.2.2.2.2.2=b6)∧z.2.length=i∧ ∀x∈z.2,1≤x∧x≤1000000000000) ⟨⟨rfl,rfl,rfl,rfl,rfl⟩,rfl,λx hx=>nomatch hx⟩ ω (λn i z hi hI hr=> ?_) (λn z hI=> ?_)
  all_goals unfold iX.l7 iX.oJ
  all_goals obtain⟨hz,hzl,hzp⟩:=hI
  ·rw[aw (x:=(i:Int)+1) ω ω,af i,aI]
   have hx:=(h2 _ (pV (d:=ba) hi)).2.1
   exact ax (λ_=>aB ⟨ω,ω⟩ (aD (by rw[List.length_singleton];omega) (hr (_,_) ⟨hz,by dsimp only;rw[List.length_append,List.length_singleton];omega,λy hy=>by
    rcases bk.1 hy with hy|hy
    ·exact hzp y hy
    ·rw[cn.1 hy];exact hx⟩))) λ_=>ω
  ·refine ax (λ_=>ω) λ_=>aq ⟨?_,rfl⟩
   obtain⟨z1,z2,z3,z4,z5⟩:=hz
   dsimp only
   rw[z1,z2,z3,z4,z5]
   refine hb _ hzl ?_
   unfold fi
   exact aU ((gS (d:=(0:Int)) (Q:=λx=>1≤x∧x≤1000000000000)).2 hzp)
 have mk: ∀r:au,eJ r=true→dD (il r) 0→(∀x∈r,kf [] [] x.1 x.2.1)→ ∀p:List Int,p.length=c.1.length→fi p=true→RB c (([]:aE),(([]:aO),(r,(([]:au),(p,(([]:aY),())))))):=λr r1 r2 r3 p p1 p2=>
  ⟨hp,(show dI []=true by decide),(show gQ []=true by decide),λx hx=>(nomatch hx),r1,r2,(show od []=true by decide),(show dm []=true by decide),show(p.length:Int)=c.1.length by omega,r3,λx hx=>(nomatch hx),λx hx=>(nomatch hx),p2⟩
 refine bK (oa N ω c) (bF (λh=>by rw[hp]at h;exact nomatch h) λ_=>bG (λh0=>hj _ ?_) λ_=>hj _ ?_)
 ·have hs:0≤c.2.1:=h3.1
  have e: ∀q:Int,0≤q→q<9223372036854775808→W .i64 (0-q)= -q:=λq h1 h2=>by rw[aw ω ω];omega
  have h0:(c.2.1:Int)≠0:=h0
  rw[e _ hs nJ]
  obtain⟨ok,tot⟩:=W6 h0
  refine mk _ ok tot λx hx=> ?_
  rcases a8.1 hx with rfl|hx
  ·exact⟨λh=>absurd h (show ¬dD 1 5 by decide),λh=>absurd h (show ¬(dD 1 6∨dD 1 7)by decide)⟩
  ·rw[cn.1 hx];exact⟨λh=>absurd h (show ¬dD 3 5 by decide),λh=>absurd h (show ¬(dD 3 6∨dD 3 7)by decide)⟩
 ·exact mk [] δ δ λx hx=>nomatch hx
theorem Qj(hN:1000≤N){c:ae}(hc:Cq c)(nJ:c.2.1<9223372036854775808):Ok (λr:aQ×Int=>(GS 5 r.1∧oL c 5 r.1)∧r.2=0) (F75 N c):=by
 unfold F75
 exact ag (Ok.and (SM N ω hc.1.1) (S9 N ω hc nJ)) λb ⟨nk,uX,hb3⟩=>bG (λh=>absurd hb3 h) λ_=>aq ⟨⟨⟨bU,(show aF 1 from bu),nk,G.zero 5 sL,G.zero 5 iq,trivial⟩,uX,⟨(show(1:Int)≤1 by decide),(show(1:Int)≤2000*((5:Nat):Int)by decide)⟩,UU,bz _⟩,rfl⟩
theorem alm(hN:5000000≤N){c:ae}{l:di}{m:Nat}(hm:m≤700)(hc:Cq c)(nJ:c.2.1<9223372036854775808)(hl:wm m l):Ok (λr=>GS 900 r.1∧oL c 900 r.1) (ID N c l):=by
 have I7:=hl.1
 unfold ID ID.b
 refine ag (Qj N ω hc nJ) λb ⟨⟨nk,uX⟩,hb3⟩=>bG (λh=>absurd hb3 h) λ_=>br (len:=l.length) (F:=λn i (z:aQ×au)=>ID.l6 N n l c (Ty.zero dL) z.1 z.2 i) (s:=(_,_)) (λi z=>(GS (200+i) z.1∧oL c (200+i) z.1)∧z.2.length≤i) ⟨⟨G.mono ω nk,uX.1,⟨uX.2.1.1,gO uX.2.1.2 δ⟩,uX.2.2⟩,aH 0⟩ ω (λn i z hi hI hr=> ?_) (λn z hI=> ?_)
 all_goals unfold ID.l6 ID.vu
 all_goals obtain⟨⟨h1,h3⟩,h2⟩:=hI
 ·rw[aw (x:=(i:Int)+1) ω ω,af i]
  have hx:G 0 me (l.getD (i:Int).toNat zz8):=G.at hl _
  exact ax (λ_=>aB ⟨ω,ω⟩ (ag (Ok.and (UL N hN ω ω hc.1.1 h1 hx) (UW N hN ω ω hc.1.1 h1 h3 hx)) λr ⟨Bm,zA⟩=>aD (by rw[List.length_singleton];omega) (hr (r.1,z.2++[r.2]) ⟨⟨Bm,zA⟩,by dsimp only;rw[List.length_append,List.length_singleton];omega⟩))) λ_=>ω
 ·exact ax (λ_=>ω) λ_=>aq ⟨G.mono ω h1,h3.1,⟨h3.2.1.1,gO h3.2.1.2 ω⟩,h3.2.2⟩
theorem Cq.f{c:ae}(h:Cq c):Cf c∧c.2.1<9223372036854775808:=⟨⟨h.1.1,h.1.2⟩,h.1.1.2.1.2⟩
def StN(c:ae)(n:Nat)(s:aQ):Prop:=GS (200+n) s∧oL c (200+n) s
theorem oL.mono{c:ae}{m n:Nat}{s:aQ}(h:oL c m s)(hn:m≤n):oL c n s:=⟨h.1,⟨h.2.1.1,gO h.2.1.2 ω⟩,h.2.2⟩
theorem StN.mono{c:ae}{m n:Nat}{s:aQ}(h:StN c m s)(hn:m≤n):StN c n s:=⟨G.mono ω h.1,h.2.mono ω⟩
def Trk(c:ae)(n:Nat)(t:cX):Prop:= ∃(s:aQ) (a:Nat),t=(c,(s,((a:Int),())))∧a≤n∧StN c a s
theorem Trk.mono{c:ae}{m n:Nat}{t:cX}(h:Trk c m t)(hn:m≤n):Trk c n t:=by
 obtain⟨s,a,e,h1,h2⟩:=h
 exact⟨s,a,e,ct h1 hn,h2⟩
theorem aiL(hN:5000000≤N){c:ae}(hc:G 5 aA c){t:cX}{l:di}{m:Nat}(hm:m≤700)(hl:wm m l)(ht:Trk c l.length t):Ok (λr=>StN c l.length r.1∧Trk c l.length r.2.1∧r.2.2=l) (q6 N t l):=by
 obtain⟨s,a,rfl,h1,h2⟩:=ht
 have I7:=hl.1
 unfold q6 q6.b
 generalize ((0:Int),((0:Int),_))=S0
 refine ji (len:=l.length) (F:=λn i (s:aQ)=>q6.l1 N n (c,(s,(i,()))) l S0) (λi s=>StN c i s) (λn i s hi hI hr=> ?_) (λn s hI=> ?_) l.length N a s ω ω h1 h2
 all_goals unfold q6.l1 q6.l1b
 ·dsimp only
  rw[aw (x:=(i:Int)+1) ω ω,af i]
  have hx:G 0 me (l.getD (i:Int).toNat zz8):=G.at hl _
  exact ax (λ_=>aB ⟨ω,ω⟩ (ag (Ok.and (UL N hN ω ω hc hI.1 hx) (UW N hN ω ω hc hI.1 hI.2 hx)) λr ⟨Bm,zA⟩=>hr r.1 ⟨Bm,zA⟩)) λ_=>ω
 ·exact ax (λ_=>by dsimp only at*;omega) λ_=>aq ⟨hI,⟨s,l.length,rfl,Nat.le_refl _,hI⟩,rfl⟩
abbrev RoQ(c:ae)(p k:Nat)(r:di×aG×cX):Prop:=wm (p+70) r.1∧Dk (k+400) r.2.1∧Trk c r.1.length r.2.2
theorem aln{q:Int}(h:qIn q):W .u64 q=q∧q≠0:=by
 unfold qIn at h
 exact⟨eB ω ω,ω⟩
theorem wm.snoc{p:Nat}{l:di}{x:ix}(h:wm p l)(hx:G 0 me x):wm (p+1) (l++[x]):=G.cat h (G.one hx (aH 1))
theorem B5{α:Type}(l:List α)(x:α):(l++[x]).length=l.length+1:=by rw[aS,aJ]
theorem aaL(hN:5000000≤N){c:ae}(hq:Cq c){d:aG}{t:cX}{l:di}{p k:Nat}(hp:p≤600)(hk:k≤20000)(hl:wm p l)(hd:Dk k d)(ht:Trk c l.length t):Ok (RoQ c p k) (eM N d t l):=by
 have hc:=hq.1.1
 have W7:=hq.f.1
 have i16:aF 16:=bu
 have i17:aF 17:=bu
 have i18:aF 18:=bu
 have i19:aF 19:=bu
 have i10:aF 10:=bu
 have i20:aF 20:=bu
 have i2:aF 2:=bu
 have z:=bU
 have I7:=hl.1
 have E7: ∀(d:aG) (t:cX) (l:di),wm (p+5) l→Dk (k+20) d→Trk c l.length t→Ok (RoQ c p k) (eM.JQ N d t l):=λd t l hl hd ht=>by
  have I7:=hl.1
  unfold eM.JQ eM.Db
  have R5:=wm.snoc hl (s4 (m:=0) i18 z z z z z z z)
  refine aD (by rw[aJ];omega) (ag (aiL N hN hc ω R5 (ht.mono (by rw[B5];omega))) λr ⟨hs,ht,he⟩=> ?_)
  rw[he]
  generalize l++[((18:Int),Ng)]=l at*
  have h12:=hs.2.2.2.2
  have hL:=hs.1.2.2.2.1.2.2.2.2.2.1
  generalize r.1=s at*
  refine br (len:=s.2.2.2.1.2.2.2.2.2.1.length) (F:=λn i (y:aG×di)=>eM.mw N n y.1 r.2.1 y.2 s i) (s:=(_,_)) (λi y=>Dk (k+20+10*i) y.1∧wm (p+6+4*i) y.2∧l.length≤y.2.length) ⟨hd,R5,aH _⟩ ω (λn i y hi hI hr=> ?_) (λn y hI=> ?_)
  all_goals obtain⟨hd,hl,hle⟩:=hI
  all_goals unfold eM.mw eM.lz
  ·refine ax (λ_=>aB ⟨ω,ω⟩ ?_) λ_=>ω
   have hx:G 900 jW (s.2.2.2.1.2.2.2.2.2.1.getD (i:Int).toNat ((0:Int),(cc,ba))):=G.mono (by have:=R5.1;omega) (G.at hL _)
   generalize s.2.2.2.1.2.2.2.2.2.1.getD (i:Int).toNat ((0:Int),(cc,ba))=x at*
   refine ji (len:=5) (F:=λn' j (w:aG×di)=>eM.FB N (eM.mw N n) n' w.1 r.2.1 w.2 s (i:Int) x j) (λj w=>1≤j∧Dk (k+20+10*i+2*(j-1)) w.1∧wm (p+6+4*i+(j-1)) w.2∧l.length≤w.2.length) (λn' j w hj hJ eQ=> ?_) (λn' w hJ=> ?_) 5 N 1 y ω ω ω ⟨aH 1,hd,hl,hle⟩
   all_goals obtain⟨hj1,hd,hl,hle⟩:=hJ
   all_goals unfold eM.FB eM.EY
   ·have hwl:=hl.1
    rw[aw (x:=(j:Int)+1) ω ω,af j]
    refine eO (λ_=>ag (ov N δ hd (by unfold iw;omega)) λa hd=>bF (λ_=>ag (ic N δ hd (by unfold iw;omega)) λv ⟨_,hd⟩=>aD (by rw[List.length_singleton];omega) (eQ (_,_) ⟨ω,Dk.mono hd ω,G.mono ω (wm.snoc hl (s4 i19 (jE ω ω) z z z hx.1 z (BY (ZO (gB _) (by unfold aF;decide)) (by unfold aF;decide)))),by dsimp only;rw[B5];omega⟩)) λ_=>eQ (_,_) ⟨ω,Dk.mono hd ω,G.mono ω hl,hle⟩) λ_=>ω
   ·rw[aw (x:=(i:Int)+1) ω ω,af i]
    exact eO (λ_=>ω) λ_=>hr w ⟨Dk.mono hd ω,G.mono ω hl,hle⟩
  ·have YK:=hl.1
   obtain⟨s',a,e,wL,TD⟩:=ht
   refine ax (λ_=>ω) λ_=>ag (uP N ω hd (c:=r.2.1.1) (by rw[e];exact W7) ω) λn1 ⟨R4,hd⟩=> ?_
   have alo:=R4.1
   have h5:=G.cat hl R4
   have h5l:=h5.1
   have h6:=G.cat h5 (G.two (m:=2) (s4 (m:=0) i10 z z z z z i2 z) (s4 i20 z z z z z z z) (aH 2))
   exact aD ω (aD (by simp only[List.length_append,List.length_cons,List.length_nil];omega) (aq ⟨G.mono ω h6,Dk.mono hd ω,⟨s',a,e,by dsimp only;rw[List.length_append,List.length_append];omega,TD⟩⟩))
 unfold eM eM.b
 refine ag (ov N δ hd (by unfold iw;omega)) λa hd=>pd (λ_=> ?_) λ_=>E7 _ _ _ (G.mono ω hl) (Dk.mono hd ω) ht
 have R5:=wm.snoc hl (s4 (m:=0) i16 z z z z z z z)
 refine aD (by rw[aJ];omega) (ag (aiL N hN hc ω R5 (ht.mono (by rw[B5];omega))) λr ⟨hs,ht,he⟩=> ?_)
 rw[he]
 generalize l++[((16:Int),Ng)]=l at*
 obtain⟨h4,hg⟩:=hs.2.2.2.1
 have hH:=hs.1.2.2.2.1.2.2.2.2.1
 have hP:=hs.1.2.2.1.2.2.2.2.1
 have XQ:(r.1.2.2.1.2.2.2.2.1.length:Int)=c.1.length:=hs.2.1.n
 generalize r.1=s at*
 refine br (len:=s.2.2.2.1.2.2.2.2.1.length) (F:=λn i (y:aG×di)=>eM.l5 N n y.1 r.2.1 y.2 s i) (s:=(_,_)) (λi y=>Dk (k+1+4*i) y.1∧wm (p+1+i) y.2∧l.length≤y.2.length) ⟨hd,R5,aH _⟩ ω (λn i y hi hI hr=> ?_) (λn y hI=> ?_)
 all_goals obtain⟨hd,hl,hle⟩:=hI
 all_goals unfold eM.l5 eM.eo
 ·have YK:=hl.1
  have hx:=hg _ (pV (d:=ba) hi)
  have hx6:G (200+l.length) fc (s.2.2.2.1.2.2.2.2.1.getD i ba):=hH.2 _ (pV hi)
  have hu:=aln hx.2
  rw[aw (x:=(i:Int)+1) ω ω,af i,aI]
  dsimp only
  generalize s.2.2.2.1.2.2.2.2.1.getD i ba=x at*
  refine ax (λ_=>aB ⟨ω,ω⟩ (ag (ov N δ hd (by unfold iw;omega)) λa hd=>pd (λ_=>ag (ic N δ hd (by unfold iw;omega)) λv ⟨_,hd⟩=>ag (FJ N (by unfold iw;omega) hd) λw ⟨_,hd⟩=>ok_eq (λe=>absurd (hu.1.symm.trans e) hu.2) λ_=>aB ?_ (aD (by rw[List.length_singleton];omega) (hr (_,_) ⟨Dk.mono hd ω,wm.snoc hl (s4 i17 z (gB _) z z hx6.1 (gB _) (G.at hP _)),by dsimp only;rw[B5];omega⟩))) λ_=>hr (_,_) ⟨Dk.mono hd ω,G.mono ω hl,hle⟩)) λ_=>ω
  have h1:=hx.1
  have g: ∀v:Int,(0≤v∧v<(c.1.length:Int))→0≤v∧v<(s.2.2.1.2.2.2.2.1.length:Int):=λv h=>ω
  exact g _ h1
 ·exact ax (λ_=>ω) λ_=>E7 _ _ _ (G.mono ω hl) (Dk.mono hd ω) (ht.mono hle)
theorem W8(hN:5000000≤N){c:ae}(hq:Cq c){d:aG}{t:cX}{L:di}{k j:Nat}(hk:k≤10000)(hj:j≤2)(hl:wm 220 L)(hd:Dk k d)(ht:Trk c L.length t):Ok (λr=>wm 400 r.1∧Dk (k+1500) r.2) (vZ.FB N N d c t L (j:Int)):=by
 obtain⟨W7,nJ⟩:=hq.f
 have i21:aF 21:=bu
 have z:=bU
 refine vV (F:=λn x (s:aG×cX×di)=>vZ.FB N n s.1 c s.2.1 s.2.2 x) (λx s=>x≤2∧Dk (k+400*(2-x)) s.1∧wm (220+70*(2-x)) s.2.2∧Trk c s.2.2.length s.2.1) (λn x s hI hr=> ?_) (λn s hI=> ?_) j N (d,(t,L)) ω ⟨hj,Dk.mono hd ω,G.mono ω hl,ht⟩
 all_goals obtain⟨hx,hd,hl,ht⟩:=hI
 all_goals unfold vZ.FB vZ.EY
 ·rw[Ie ω]
  exact ax (λ_=>ag (aaL N hN hq ω ω hl hd ht) λr ⟨h1,h2,h3⟩=>hr (r.2.1,(r.2.2,r.1)) ⟨ω,Dk.mono h2 ω,G.mono ω h1,h3⟩) λ_=>ω
 ·have R5:=hl.1
  refine ax (λ_=>ω) λ_=>ag (ov N δ hd (by unfold iw;omega)) λa hd=>bF (λ_=>aD (by rw[aJ];omega) (ag (uP N ω hd W7 ω) λn1 ⟨R4,hd⟩=> ?_)) λ_=>ag (uP N ω hd W7 ω) λn1 ⟨R4,hd⟩=> ?_
  ·have h2:=G.cat (wm.snoc hl (s4 (m:=0) i21 z z z z z z z)) R4
   have h2l:=h2.1
   have alo:=R4.1
   exact aD (by simp only[aS,aT,cr];omega) (aq ⟨G.mono ω h2,Dk.mono hd ω⟩)
  ·have h2:=G.cat hl R4
   have alo:=R4.1
   exact aD ω (aq ⟨G.mono ω h2,Dk.mono hd ω⟩)
theorem W9(hN:5000000≤N){c:ae}(hq:Cq c){d:aG}{k:Nat}(hk:k≤5000)(hd:Dk k d){xU:Int}(hm:0≤xU∧xU≤100):Ok (λr=>wm 400 r.1∧Dk (k+6000) r.2) (vZ N d c xU):=by
 obtain⟨W7,nJ⟩:=hq.f
 have i10:aF 10:=bu
 have i11:aF 11:=bu
 have i13:aF 13:=bu
 have i14:aF 14:=bu
 have i15:aF 15:=bu
 have i21:aF 21:=bu
 have z:=bU
 unfold vZ vZ.b
 refine ag (Qj N ω hq nJ) λs ⟨⟨Nh,VL⟩,_⟩=>ag (K3 N ω hd W7 hm ω) λl ⟨hl,hd⟩=>ag (ic N δ hd (by unfold iw;omega)) λv ⟨_,hd⟩=> ?_
 have ht:Trk c 0 (c,(s.1,((0:Int),()))):=⟨s.1,0,rfl,aH 0,G.mono ω Nh,VL.mono ω⟩
 generalize s.1=S at*
 dsimp only
 have I7:=hl.1
 have h1:=wm.snoc hl (s4 (m:=0) i11 (gB (1+v.1)) z z z z z z)
 have h1l:=h1.1
 refine aD (by simp only[aS,aT,cr];omega) (ag (uP N ω hd W7 ω) λn1 ⟨R4,hd⟩=> ?_)
 have h2:=G.cat h1 R4
 have h2l:=h2.1
 have alo:=R4.1
 refine aD (by simp only[aS,aT,cr];omega) (aD (by simp only[aS,aT,cr];omega) ?_)
 have h3:=wm.snoc h2 (s4 (m:=0) i13 (gB (1+v.1)) z z z z z z)
 generalize hL:(l.1++[((11:Int),(W .i64 (1+v.1),eC))]++n1.1)++[((13:Int),(W .i64 (1+v.1),eC))]=L at h3
 refine ji (len:=8) (F:=λn i (y:aG×di)=>vZ.l9 N n y.1 c (c,(S,((0:Int),()))) y.2 i) (λi y=>5≤i∧Dk (k+3200+2*(i-5)) y.1∧wm (205+(i-5)) y.2) (λn i y hi hI hr=> ?_) (λn y hI=> ?_) 8 N 5 (_,L) ω ω ω ⟨aH 5,Dk.mono hd ω,G.mono ω h3⟩
 all_goals obtain⟨hi5,hd,hl⟩:=hI
 all_goals have YK:=hl.1
 all_goals unfold vZ.l9 vZ.vz
 ·rw[aw (x:=(i:Int)+1) ω ω,af i]
  exact eO (λ_=>ag (ov N δ hd (by unfold iw;omega)) λa hd=>pd (λ_=>ag (ic N δ hd (by unfold iw;omega)) λw ⟨_,hd⟩=>aD (by rw[aJ];omega) (hr (_,_) ⟨ω,Dk.mono hd ω,G.mono ω (wm.snoc hl (s4 i14 (gB _) (jE ω ω) z z z z z))⟩)) λ_=>hr (_,_) ⟨ω,Dk.mono hd ω,G.mono ω hl⟩) λ_=>ω
 ·refine eO (λ_=>ω) λ_=>ag (uP N ω hd W7 ω) λn2 ⟨hn2,hd⟩=> ?_
  have h4:=G.cat hl hn2
  have h4l:=h4.1
  have aDP:=hn2.1
  refine aD ω ?_
  dsimp only
  refine ag (ic N δ hd (by unfold iw;omega)) λw ⟨_,hd⟩=> ?_
  have h5:=G.cat h4 (G.two (m:=2) (s4 (m:=0) i10 z z z z z (gB (2+w.1)) z) (s4 i15 z z z z z z z) (aH 2))
  have h5l:=h5.1
  refine aD (by simp only[aS,aT,cr];omega) (ag (uP N ω hd W7 ω) λn3 ⟨hn3,hd⟩=> ?_)
  have h6:=G.cat h5 hn3
  have aDQ:=hn3.1
  refine aD (by simp only[aS,aT,cr];omega) (ag (ic N δ hd (by unfold iw;omega)) λu ⟨hu,hd⟩=> ?_)
  obtain⟨j,hj⟩: ∃j:Nat,u.1=(j:Int):=⟨u.1.toNat,ω⟩
  rw[hj]
  have hLl:=h6.1
  exact Mz (W8 N hN hq ω ω (G.mono ω h6) hd (ht.mono (bz _))) λr hr=>⟨hr.1,Dk.mono hr.2 ω⟩
theorem Xa(hN:5000000≤N){c:ae}(hq:Cq c){d:aG}{k:Nat}(hk:k≤4000)(hd:Dk k d){xU:Int}(hm:0≤xU∧xU≤100):Ok (λr=>wm 400 r.1∧Dk (k+7000) r.2) (IE N d c xU):=by
 obtain⟨W7,nJ⟩:=hq.f
 unfold IE IE.b
 refine ag (ic N δ hd (by unfold iw;omega)) λa ⟨_,hd⟩=>ok_eq (λ_=> ?_) λ_=>ok_eq (λ_=>ag (K3 N ω hd W7 hm ω) λl ⟨hl,hd⟩=>aq ⟨G.mono ω hl,Dk.mono hd ω⟩) λ_=>ag (W9 N hN hq ω hd hm) λl ⟨hl,hd⟩=>aq ⟨hl,Dk.mono hd ω⟩
 rw[aw (x:=xU+1) ω ω]
 refine ag (ic N ⟨ω,ω⟩ hd (by unfold iw;omega)) λu ⟨hu,hd⟩=> ?_
 obtain⟨j,hj⟩: ∃j:Nat,u.1=(j:Int):=⟨u.1.toNat,ω⟩
 rw[hj]
 refine vV (F:=λn x (s:aG×di)=>IE.l5 N n s.1 c s.2 x) (λx s=>x≤100∧Dk (k+10+25*(100-x)) s.1∧wm (100-x) s.2) (λn x s hI hr=> ?_) (λn s hI=> ?_) j N (u.2,[]) ω ⟨ω,Dk.mono hd ω,G.nil⟩
 all_goals obtain⟨hx,hd,hl⟩:=hI
 all_goals unfold IE.l5 IE.eo
 ·have hs:=hl.1
  rw[Ie ω]
  exact ax (λ_=>ag (Ic N hd W7 ω) λr ⟨h1,h2⟩=>aD (by rw[aJ];omega) (hr (_,_) ⟨ω,Dk.mono h2 ω,G.mono ω (wm.snoc hl h1)⟩)) λ_=>ω
 ·exact ax (λ_=>ω) λ_=>aq ⟨G.mono ω hl,Dk.mono hd ω⟩
theorem Y0(hN:5000000≤N){c:ae}(hq:Cq c){d:aG}(hd:Dk 1000 d){xU:Int}(hm:0≤xU∧xU≤100):Ok (λr=>(GS 900 r.1∧oL c 900 r.1)∧Dk 10000 r.2) (F8 N d c xU):=by
 obtain⟨W7,nJ⟩:=hq.f
 unfold F8
 exact ag (Xa N hN hq ω hd hm) λl ⟨hl,hd⟩=>ag (alm N hN ω hq nJ hl) λr hr=>aq ⟨hr,Dk.mono hd ω⟩
end VM
end
section
namespace VM
open Go VM.F Go.RowKit
variable(N:Nat)
theorem V7(hN:1000≤N){k:Nat}{d:aG}(h:Dk k d){c:ae}{b:an}(hR:RB c b)(hk:k≤100000):Ok (λr=>r.1.length≤6∧Dk (k+100) r.2) (pC N d c b):=by
 have hc:=(tD hR.c).1
 have EL:1≤c.1.length:=by
  have:=hR.c
  unfold eR at this
  exact(bt (da.1 this).1).1
 have hn:(b.2.2.2.2.1.length:Int)=c.1.length:=hR.n
 unfold pC pC.b
 refine ag (ic N δ h (by unfold iw;omega)) λz ⟨hz,hd⟩=> ?_
 obtain⟨j,hj⟩: ∃j:Nat,z.1=(j:Int):=⟨z.1.toNat,ω⟩
 rw[hj]
 refine vV (F:=λn x (s:aG×bf)=>pC.l3 N n s.1 c b s.2 x) (λx s=>x≤6∧Dk (k+1+12*(6-x)) s.1∧s.2.length≤6-x) (λn x s hI hr=> ?_) (λn s hI=> ?_) j N (z.2,[]) ω ⟨ω,Dk.mono hd ω,bz _⟩
 all_goals unfold pC.l3 pC.nr
 ·obtain⟨hx,hd,hl⟩:=hI
  have put: ∀(e:ir) (d:aG) (q:Nat),Dk q d→q≤k+1+12*(6-x)→Ok (λr=>r.1.length≤6∧Dk (k+100) r.2) (cond (small (s.2.length+[e].length)) (pC.l3 N n d c b (s.2++[e]) (x:Int)) none):=λe d q hd hq=>aD (by rw[aJ];omega) (hr (_,_) ⟨ω,Dk.mono hd ω,by rw[aS,aJ];omega⟩)
  have jj: ∀(e:ir) (d:aG) (q:Nat),Dk q d→q+1≤k+1+12*(6-x)→Ok (λr=>r.1.length≤6∧Dk (k+100) r.2) (pC.E5 N (pC.l3 N n) d c b s.2 ((x+1:Nat):Int) e):=λe d q hd hq=>by
   unfold pC.E5 pC.xV
   rw[Ie ω]
   exact ok_eq (λ_=>ag (ov N δ hd (by unfold iw;omega)) λr hd=>bF (λ_=>ok_eq (λh=>ω) λ_=>put _ _ _ hd ω) λ_=>put _ _ _ hd ω) λ_=>put _ _ _ hd ω
  have jn: ∀(e:ir) (d:aG) (q:Nat),Dk q d→q+1≤k+1+12*(6-x)→Ok (λr=>r.1.length≤6∧Dk (k+100) r.2) (pC.j9 N (pC.l3 N n) d c b s.2 ((x+1:Nat):Int) e):=λe d q hd hq=>by
   unfold pC.j9 pC.JA
   exact ax (λ_=>jj _ _ _ hd hq) λ_=>jj _ _ _ hd hq
  exact ax (λ_=>ag (ic N ⟨ω,ω⟩ hd (by unfold iw;omega)) λa ⟨ha,hd⟩=>ag (ic N δ hd (by unfold iw;omega)) λ_ ⟨_,hd⟩=>ag (ic N δ hd (by unfold iw;omega)) λ_ ⟨_,hd⟩=>ag (ic N δ hd (by unfold iw;omega)) λ_ ⟨_,hd⟩=>aB ⟨ha.1,ω⟩ (ag (ic N δ hd (by unfold iw;omega)) λ_ ⟨_,hd⟩=>ag (ov N δ hd (by unfold iw;omega)) λr hd=>
   pd (λ_=>ag (yP N hd (by unfold iw;omega)) λ_ ⟨_,hd⟩=>ok_eq (λh=>ω) λ_=>ag (yP N hd (by unfold iw;omega)) λ_ ⟨_,hd⟩=>ok_eq (λh=>ω) λ_=>jn _ _ _ hd ω) λ_=>jn _ _ _ hd ω)) λh=>ω
 ·exact ax (λ_=>ω) λ_=>aq ⟨by have:=hI.2.2;omega,Dk.mono hI.2.1 ω⟩
namespace Pure
end Pure
theorem Qk{P:Int→Prop} [DecidablePred P]{f g:Int→Int→Int}: ∀{K:List dh},(∀k∈K,f k.1 k.2=g k.1 k.2)→dH P f K=dH P g K
 |[],_=>rfl
 |k::t,h=>by
  rw[iy,iy,h k (bs ..),Qk (K:=t) λx hx=>h x (aZ _ hx)]
theorem Lj{P:Int→Prop} [DecidablePred P]{l E E' o:au}{K:List dh}(hK:so K)(h:dH P (fS l E) K=some o):dH P (fS o E') K=dH P (fS l (E++E')) K:=
 Qk λk hk=>by
  unfold fS
  rw[←nB (l:=o) (ue (sM h).1 hK),(sM h).2.2.2 k.1 k.2,aj hk,BL]
  unfold fS;omega
theorem Sh{b:an}{s e s' e':au}(h0:(cC b s e).2=0):cC (cC b s e).1 s' e'=cC b (s++s') (e++e'):=by
 rcases z7 b s e with⟨h1,_⟩|⟨s1,r1,h1,h2,h3⟩
 ·rw[h1]at h0;exact absurd h0 δ
 ·rw[h3]
  unfold cC
  dsimp only
  rw[Lj (show so iU from lV 6 25 0) h1,Lj (show so mc from lV 25 7 1) h2]
theorem Y1{α:Type}{P:α→Prop}{o:Option α}{v:α}(h:Ok P o)(e:o=some v):P v:=by
 obtain⟨r,e1,hr⟩:=h
 rw[e]at e1;cases e1;exact hr
theorem V4{b:an}{s e:au}(h:(cC b s e).2≠0):(cC b s e).1=(cc,(cT,(bq,(bq,(db,(dq,()))))))∧(cC b s e).2=2:=by
 rcases z7 b s e with⟨h1,h2⟩|⟨s1,r1,h1,h2,h3⟩
 ·exact⟨h2,h1⟩
 ·rw[h3]at h;exact absurd rfl h
namespace Pure
end Pure
end VM
end
