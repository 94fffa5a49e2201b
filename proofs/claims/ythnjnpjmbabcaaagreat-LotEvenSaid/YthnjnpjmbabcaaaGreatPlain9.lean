/- A part of the proof of LotEven of layer 23: what the functions compute, in plain words. -/
import Derived.Test.YthnjnpjmbabcaaaGreatPlain8
import Derived.Test.YthnjnpjmbabcaaaGreatPlain7
set_option linter.all false
section
namespace VM
open Go VM.F
variable(N:Nat)
def qI(c:ae)(m:Nat)(s:aV):Prop:=RB c s.2.2.1∧(1≤s.2.1∧s.2.1≤2000*(m:Int))∧(s.2.2.2.1.2.2.2.2.1.length≤4∧ ∀x∈s.2.2.2.1.2.2.2.2.1,IS c x)∧s.2.2.2.1.2.2.2.2.2.1.length≤12
abbrev SI(c:ae)(m:Nat)(r:aV×eP):Prop:=r.2.1=0→qI c m r.1
theorem qI.up{c:ae}{m:Nat}{s:aV}(h:qI c m s):qI c (m+1) s:=⟨h.1,⟨h.2.1.1,fU h.2.1.2 ω⟩,h.2.2⟩
theorem qI.add{n k:Int}{m:Nat}(h:1≤n∧n≤2000*(m:Int))(hm:m≤999)(hk:0≤k∧k≤2000):1≤W .i64 (n+k)∧W .i64 (n+k)≤2000*((m+1:Nat):Int):=by
 rw[ay ω ω];omega
theorem S6{c:ae}:([]:aO).length≤4∧ ∀x∈([]:aO),IS c x:=⟨bA _,λx hx=>nomatch hx⟩
theorem ib{c:ae}{m N:Nat}{e:Int}{x:aV}(h:e=0→qI c m x):Ok (SI c m) ((fp N e).bind λr=>some (x,r)):=by
 unfold fp;exact an h
theorem dH{c:ae}{m N:Nat}{e:Int}{x:aV}(h:e≠0):Ok (SI c m) ((fp N e).bind λr=>some (x,r)):=ib λh'=>absurd h' h
theorem Yy(hN:200000≤N){s:aV}(hl:s.2.2.1.2.1.length≤100000)(k:Int):Re N s k=some (fX s.2.2.1.2.1 k).2:=by
 unfold Re;rw[A8 N hl hN];rfl
theorem U8(hN:200000≤N){s:aV}(hl:s.2.2.1.1.length≤100000)(k:Int):Hi N s k=some (iX s.2.2.1.1 k):=by
 unfold Hi;rw[rQ N hl hN];rfl
theorem LD(hN:4000000≤N){c:ae}{s:aV}{m:Nat}(hm:m≤50000)(hs:GS m s)(hR:qI c m s){a b d e q:Int}(hq:aG q)(h1:df a b∧jE s.2.2.1.1 s.2.2.1.2.1 a b)(h2:df d e∧jE s.2.2.1.1 s.2.2.1.2.1 d e):Ok (SI c (m+1)) (OI N s a b d e q):=by
 unfold OI
 exact bH (dp N ω hq.1 hq.2) (af (th N hN (oW hq) h1 h2) λp ⟨hp,C2⟩=>af (tg N hN hm hs.2.2.1 hR.1 SB.nil hp (bA _) ω) λr hr=>an λh=>⟨(hr h).1,hR.up.2⟩)
theorem U9(hN:5000000≤N){c:ae}{s:aV}{e:ia}{m:Nat}(h2:200≤m)(hm:m≤999)(hc:G m aA c)(hs:GS m s)(hR:qI c m s)(he:G 0 pE e):Ok (SI c (m+1)) (nR N c s e):=by
 have hhl:=hs.2.2.2.1.2.2.2.2.1.1
 unfold nR nR.b
 generalize ((0:Int),((0:Int),_))=S0
 refine bg (len:=s.2.2.2.1.2.2.2.2.1.length) (F:=λn i (z:aV×aO×Bool×Int)=>nR.l5 N n c z.1 e S0 bW z.2.1 z.2.2.1 z.2.2.2 i) (s:=(_,(_,(_,_)))) (λi z=>(GS m z.1∧qI c m z.1)∧z.1.2.2.2.1.2.2.2.2.1=s.2.2.2.1.2.2.2.2.1∧(G i (.slice eD) z.2.1∧ ∀x∈z.2.1,IS c x)) ⟨⟨hs,hR⟩,rfl,G.nil,λx hx=>nomatch hx⟩ ω (λn i z hi hI hr=> ?_) (λn z hI=> ?_)
 all_goals unfold nR.l5 nR.e8
 ·obtain⟨⟨hz,hzR⟩,hh,ho,hog⟩:=hI
  have Jg:=ho.1
  rw[hh,ay (x:=(i:Int)+1) ω ω,ag i]
  have hx:G 0 eD (s.2.2.2.1.2.2.2.2.1.getD (i:Int).toNat aQ):=G.at hs.2.2.2.1.2.2.2.2.1 _
  have hxg:IS c (s.2.2.2.1.2.2.2.2.1.getD (i:Int).toNat aQ):=hR.2.2.1.2 _ (n7 hi)
  have snoc: ∀x:cv,IS c x→ ∀y∈z.2.1++[x],IS c y:=λx hx y hy=>(bf.1 hy).elim (hog y) λhy=>by rw[cg.1 hy];exact hx
  have hxm:G m eD (s.2.2.2.1.2.2.2.2.1.getD (i:Int).toNat aQ):=G.mono (bA m) hx
  refine ax (λ_=>az ⟨ω,ω⟩ (ok_eq (λ_=>af (Ok.and (SK N hN h2 ω hc hz.2.2.1 hxm he.2.2.1 he.2.2.2.2.2.2.1 he.2.2.2.2.2.2.2.1) (abv N hN h2 ω hc hz.2.2.1 hzR.1 hxm he.2.2.1 he.2.2.2.2.2.2.1 he.2.2.2.2.2.2.2.1)) λr ⟨⟨xe,xQ⟩,OC⟩=>bz (λh=>dH h) λh0=> ?_) λ_=>ax (λ_=>aE (by rw[aJ];omega) (hr (z.1,(z.2.1++[s.2.2.2.1.2.2.2.2.1.getD (i:Int).toNat aQ],z.2.2)) ⟨⟨hz,hzR⟩,hh,G.cat ho (G.one hx (aI 1)),snoc _ hxg⟩)) λ_=>hr z ⟨⟨hz,hzR⟩,hh,G.mono ω ho,hog⟩)) λ_=>ω
  have H6:GS m (z.1.1,(z.1.2.1,(r.1,z.1.2.2.2))):=⟨hz.1,hz.2.1,xe,hz.2.2.2⟩
  have anR:qI c m (z.1.1,(z.1.2.1,(r.1,z.1.2.2.2))):=⟨(OC h0).1,hzR.2⟩
  have aij:G 0 eD r.2.1:=xQ
  exact ax (λhq=>aE (by rw[aJ];omega) (hr ((z.1.1,(z.1.2.1,(r.1,z.1.2.2.2))),(z.2.1++[r.2.1],(true,r.2.1.2.2.2.1))) ⟨⟨H6,anR⟩,hh,G.cat ho (G.one aij (aI 1)),snoc _ ⟨by rw[(OC h0).2.1];exact hxg.1,hq,(OC h0).2.2⟩⟩)) λ_=>hr ((z.1.1,(z.1.2.1,(r.1,z.1.2.2.2))),(z.2.1,(true,r.2.1.2.2.2.1))) ⟨⟨H6,anR⟩,hh,G.mono ω ho,hog⟩
 ·obtain⟨⟨hz,hzR⟩,hh,ho,hog⟩:=hI
  rw[hh]
  exact ax (λ_=>ω) λ_=>bx (λ_=>dH δ) λ_=>an λ_=>⟨hzR.1,hzR.up.2.1,⟨ca ho.1 hR.2.2.1.1,hog⟩,hzR.2.2.2⟩
theorem Yz(hN:5000000≤N){c:ae}{s:aV}{e:ia}{m:Nat}(h2:200≤m)(hm:m≤999)(hc:G 5 aA c)(hs:GS m s)(hR:qI c m s)(he:G 0 pE e):Ok (SI c (m+1)) (nS N c s e):=by
 have EG:G m aA c:=G.mono ω hc
 have hk:=hs.2.2.2.1
 have hb:=hs.2.2.1
 have up:=hR.up.2
 unfold nS nS.b
 refine ok_eq (λ_=> ?_) λ_=>ok_eq (λ_=> ?_) λ_=>ok_eq (λ_=> ?_) λ_=>ok_eq (λ_=> ?_) λ_=>ok_eq (λ_=> ?_) λ_=>ok_eq (λ_=> ?_) λ_=>ok_eq (λ_=> ?_) λ_=>ok_eq (λ_=> ?_) λ_=>ib λ_=>hR.up
 ·exact af (abz N hN ω EG hb hR.1 _ _ _) λr hr=>ib λh=>⟨hr h,up⟩
 ·exact af (abA N hN h2 ω EG hb hR.1 _) λr hr=>ib λh=>⟨(hr h).1,up⟩
 ·exact af (JT N hN c hc.2.2.2.2.2.2.1 ω hb _) λr hr=>an λ_=>⟨hR.1,qI.add hR.2.1 hm (by have:=hr.1.1;omega),⟨hr.1.1,hr.2⟩,hR.2.2.2⟩
 ·exact af (U9 N hN h2 ω EG hs hR he) λr hr=>an hr
 ·exact ok_eq (λ_=>dH δ) λ_=>af (SM N hN h2 ω EG hb hs.2.1) λl ⟨hl,atg⟩=>bz (λh=>dH h) λ_=>af (uK N ω hs.1 hc.2.2.2.2.1) λt ht=>bx (λ_=>dH δ) λ_=>af (SL N hN c ω hb) λu hu=>an λ_=>⟨hR.1,qI.add hR.2.1 hm ω,S6,atg⟩
 ·have hx:G 0 eD (s.2.1,(e.2.2.2.2.2.1,(e.2.1,(e.2.2.2.2.2.2.2.1,())))):=⟨hs.2.1,he.2.2.2.2.2.1,he.2.1,he.2.2.2.2.2.2.2.1,trivial⟩
  exact af (JX N hN ω ω EG hb hk.2.2.2.2.2.1 hk.2.2.2.2.2.2.1 hx) λr hr=>an λ_=>⟨hR.1,qI.add hR.2.1 hm δ,hR.2.2⟩
 ·refine af (Ok.and (OF N hN c h2 ω hb hk.2.2.2.2.2.1 hk.2.2.2.2.2.2.1) (Yp N hN h2 ω hb hR.1 hk.2.2.2.2.2.1 hk.2.2.2.2.2.2.1)) λr ⟨⟨xe,xQ⟩,OC⟩=>bz (λh=>dH h) λh0=>af (OD N ω c h2 ω hk.2.2.2.2.2.2.2.2.1 hk.2.2.2.2.2.2.2.1.1 xQ hk.2.2.2.2.2.2.1) λd hd=> ?_
  generalize ((0:Int),((0:Int),_))=S0
  have MB:=xQ.1
  refine bg (len:=r.2.1.length) (F:=λn i q=>nS.l41 N n _ S0 bW r.2.1 q i) (λ_ _=>True) trivial ω (λn i q hi _ eV=> ?_) (λn q _=> ?_)
  all_goals unfold nS.l41 nS.abk
  ·rw[ay (x:=(i:Int)+1) ω ω,ag i]
   exact ax (λ_=>az ⟨ω,ω⟩ (ok_eq (λ_=>eV _ trivial) λ_=>eV _ trivial)) λ_=>ω
  ·exact ax (λ_=>ω) λ_=>an λ_=>⟨(OC h0).1,up.1,hR.2.2.1,(OC h0).2⟩
 ·exact af (Ok.and (J1 N hN h2 ω EG hb hk.2.2.2.2.2.2.2.2.1 hk.2.2.2.2.2.2.2.2.2.1 hk.1) (U6 N hN h2 ω EG hb hR.1 hk.2.2.2.2.2.2.2.2.1 hk.2.2.2.2.2.2.2.2.2.1 hk.1)) λr ⟨⟨xe,xQ⟩,OC⟩=>bz (λh=>dH h) λh0=>af (Ok.and (SS N hN h2 ω hc xe) (abD N hN ω xe (OC h0).1)) λb ⟨hb,qO⟩=>bz (λh=>dH h) λh1=>af (SY N ω (ca hb.1.1 ω) _ _) λu hu=>an λh=>have B:=(qO h1).1;⟨B.UY (hu h).1 B.a (hu h).2.1 (λ_ h=>h) λx hx=>(hu h).2.1 _ (B.ma x hx),up.1,S6,bA _⟩
theorem YA(hN:5000000≤N){c:ae}{s:aV}{e:ia}{m:Nat}(h2:200≤m)(hm:m≤999)(hc:G 5 aA c)(hs:GS m s)(hR:qI c m s)(he:G 0 pE e):Ok (SI c (m+1)) (p6 N c s e):=by
 obtain⟨s1,s2,s3,⟨k1,k2,k3,k4,k5,k6,k7,k8,k9,Rc,UT⟩,s5⟩:=hs
 have hs:GS m s:=⟨s1,s2,s3,⟨k1,k2,k3,k4,k5,k6,k7,k8,k9,Rc,UT⟩,s5⟩
 have up:=hR.up.2
 unfold p6 p6.b
 have hj: ∀(S0:aV) (z:eP),Ok (SI c (m+1)) (p6.L1 N c s e S0 z):=λS0 z=>by
  unfold p6.L1 p6.Ep
  exact af (OH N _ _) λ_ _=>bx (λ_=>dH δ) λ_=>af (Yz N hN h2 hm hc hs hR he) λr hr=>an hr
 have mem: ∀{x:aB},G m (.slice hZ) x→G m aL ((x,s.2.2.1.2):aq):=λh=>⟨h,s3.2⟩
 have rb: ∀{x:aB},dg x=true→(∀n,jw s.2.2.1.1 n→jw x n)→RB c ((x,s.2.2.1.2):aq):=λh1 h2=>hR.1.UY h1 hR.1.a h2 (λ_ h=>h) λx hx=>h2 _ (hR.1.ma x hx)
 have Ip:=λk:Int=>Ok.and (Lh N ω (m:=m) ω s3.1 e.2.1 k) (SY N ω (ca s3.1.1 ω) e.2.1 k)
 have hd: ∀z:aB×Int,G m (.slice hZ) z.1∧(z.2=0→dg z.1=true∧(∀n,jw s.2.2.1.1 n→jw z.1 n)∧jw s.2.2.1.1 e.2.1)→Ok (SI c (m+1)) (cond (aM z.2 0) (cond (aM e.1 11) ((Li N c (z.1,s.2.2.1.2) e.2.1).bind λr2=>cond (aM s.2.2.2.1.2.1 3) ((pG N s.2.2.2.1.2.2.2.2.2.2.1 e.2.1).bind λr3=>(fp N z.2).bind λr4=>some ((s.1,(s.2.1,(r2.1,((s.2.2.2.1.1,(s.2.2.2.1.2.1,(s.2.2.2.1.2.2.1,(s.2.2.2.1.2.2.2.1,(s.2.2.2.1.2.2.2.2.1,(s.2.2.2.1.2.2.2.2.2.1,(r3,s.2.2.2.1.2.2.2.2.2.2.2))))))),s.2.2.2.2)))),r4)) ((fp N z.2).bind λr5=>some ((s.1,(s.2.1,(r2.1,s.2.2.2))),r5))) ((fp N z.2).bind λr6=>some ((s.1,(s.2.1,((z.1,s.2.2.1.2),s.2.2.2))),r6))) ((fp N z.2).bind λr7=>some ((s.1,(s.2.1,((z.1,s.2.2.1.2),s.2.2.2))),r7))):=λz ⟨hz,hi⟩=>
  ok_eq (λh0=>have B:=rb (hi h0).1 (hi h0).2.1;ok_eq (λ_=>af (OS N hN (m:=m) ω (mem hz) B _ ((hi h0).2.1 _ (hi h0).2.2)) λb hb=>ok_eq (λ_=>af (DH N ω ω k7 _) λl hl=>ib λ_=>⟨hb,up⟩) λ_=>ib λ_=>⟨hb,up⟩) λ_=>ib λ_=>⟨B,up⟩) λh=>dH h
 refine ok_eq (λ_=>af (Ip _) λz hz=>hd z hz) λ_=>ok_eq (λ_=>af (Ip _) λz hz=>hd z hz) λ_=>ok_eq (λ_=> ?_) λ_=>ok_eq (λ_=> ?_) λ_=>hj _ _
 ·exact af (oE N ω ω hs _) λ_ _=>ok_eq (λ_=>dH δ) λ_=>bz (λ_=>dH δ) λ_=>af (Ip _) λz ⟨hz,hi⟩=>bz (λh=>dH h) λh0=>af (uK N ω s1 hc.2.2.2.1) λt ht=>bx (λ_=>dH δ) λ_=>an λ_=>⟨rb (hi h0).1 (hi h0).2.1,up.1,S6,bA _⟩
 ·exact af (oE N ω ω hs _) λ_ _=>ok_eq (λ_=>dH δ) λ_=>af (oE N ω ω hs _) λ_ _=>bz (λ_=>dH δ) λ_=>hj _ _
theorem abE(hN:5000000≤N){c:ae}{s:aV}{e:ia}{m:Nat}(h2:200≤m)(hm:m≤999)(hc:G 5 aA c)(hs:GS m s)(hR:qI c m s)(he:G 0 pE e):Ok (SI c (m+1)) (UU N c s e):=by
 have EG:G m aA c:=G.mono ω hc
 have hb:=hs.2.2.1
 have UW:=he.2.2.2.2.2.2.1
 have up:=hR.up.2
 have B:=hR.1
 have ml:=ca hb.1.1 (show m≤50000 by omega)
 have al:=ca hb.2.1.1 (show m≤50000 by omega)
 have hW:df 1 0∧jE s.2.2.1.1 s.2.2.1.2.1 1 0:=CC δ
 have st:=λk:Int=>U8 N ω (s:=s) ω k
 have stm: ∀k:Int,iX s.2.2.1.1 k≠0→jw s.2.2.1.1 k:=λk h=>(vI B.m k).1 h
 unfold UU
 refine ok_eq (λ_=> ?_) λ_=>ok_eq (λ_=> ?_) λ_=>ok_eq (λ_=> ?_) λ_=>ok_eq (λ_=> ?_) λ_=>ok_eq (λ_=> ?_) λ_=>ok_eq (λ_=> ?_) λ_=>ok_eq (λ_=> ?_) λ_=>ok_eq (λ_=> ?_) λ_=>ok_eq (λ_=> ?_) λ_=>ok_eq (λ_=> ?_) λ_=>ok_eq (λ_=> ?_) λ_=>af (YA N hN h2 hm hc hs hR he) λr hr=>an hr
 ·exact af (Yf N ω ml _) λr hr=>ib λh=>⟨B.UY (hr h).1 B.a (hr h).2 (λ_ h=>h) λx hx=>(hr h).2 _ (B.ma x hx),up⟩
 ·exact af (abu N ω ml al _) λr hr=>ib λh=>⟨B.UY B.m (hr h).1 (λ_ h=>h) (hr h).2.1 (hr h).2.2,up⟩
 ·exact bH (Yy N ω ω _) (bx (λ_=>dH δ) λhf=>af (LD N ω ω hs hR UW hW (uM B ((pK B.a _).1 hf))) λr hr=>an hr)
 ·exact af (OQ N hN h2 ω EG hb B he.2.2.1 UW) λr hr=>ib λh=>⟨(hr h).1,up⟩
 ·exact bH (st _) (ok_eq (λ_=>dH δ) λh0=>bH (st _) (bz (λ_=>dH δ) λ_=>af (LD N ω ω hs hR UW hW (BA B δ (stm _ h0))) λr hr=>an hr))
 ·exact bH (st _) (ok_eq (λ_=>dH δ) λh0=>af (mK N ω ω hb.2.2.1 _ _) λg hg=>af (br N ω hg) λx hx=>af (qT N ω ω hx) λx hx=>af (br N ω UW) λy hy=>af (p4 N ω ω ω hy hx) λ_ _=>ax (λ_=>dH δ) λ_=>af (LD N ω ω hs hR UW hW (BA B δ (stm _ h0))) λr hr=>an hr)
 ·exact af (Yh N ω al B.ma _ _) λr hr=>ib λh=>⟨B.UY B.m (hr h).1 (λ_ h=>h) (hr h).2.1 (hr h).2.2,up⟩
 ·have hx:G 0 m9 (s.2.1,(e.2.2.1,(e.2.2.2.1,(e.2.2.2.2.1,(e.2.2.2.2.2.2.1,(e.2.2.2.2.2.2.2.1,())))))):=⟨hs.2.1,he.2.2.1,he.2.2.2.1,he.2.2.2.2.1,UW,he.2.2.2.2.2.2.2.1,trivial⟩
  exact af (Ym N hN h2 ω EG hb B hx) λr hr=>an λh=>⟨hr h,qI.add hR.2.1 hm δ,hR.2.2⟩
 ·exact bH (Yy N ω ω _) (bx (λ_=>dH δ) λ_=>af (U4 N ω (ca hb.2.2.2.2.2.1.1 ω) _ _) λr hr=>ib λh=>⟨B.Lt (hr h).1 λx hx=>B.ok x ((hr h).2 x hx),up⟩)
 ·exact af (Ok.and (DI N hN c h2 ω hb _ he.2.2.2.2.2.2.2.1) (OR N hN ω hb B _ _)) λr ⟨⟨xe,xQ⟩,OC⟩=>ok_eq (λh0=>bz (λ_=>af (Ox N ω h2 ω hs.2.2.2.1.2.2.2.2.2.2.2.2.2.1 xQ) λg hg=>ib λ_=>⟨OC h0,up⟩) λ_=>ib λ_=>⟨OC h0,up⟩) λh=>dH h
 ·exact af (uK N ω hs.1 UW) λt ht=>bx (λ_=>dH δ) λ_=>an λ_=>⟨B,up⟩
theorem abF(hN:5000000≤N){c:ae}{s:aV}{e:ia}{m:Nat}(h2:200≤m)(hm:m≤999)(hc:G 5 aA c)(hs:GS m s)(hR:qI c m s)(he:G 0 pE e):Ok (λr=>qI c (m+1) r.1) (F72 N c s e):=by
 have bG: ∀r:eP,Ok (λr:aV×eP=>qI c (m+1) r.1) (some (s,r)):=λr=>an hR.up
 unfold F72
 exact bH (nB N ω c) (bx (λ_=>bG _) λ_=>af (JV N ω e) λ_ _=>bx (λ_=>bG _) λ_=>af (abE N hN h2 hm hc hs hR he) λr hr=>bz (λ_=>bG _) λh=>an (hr h))
theorem E5(N:Nat){k:Nat}{d:bb}(h:Dk k d)(hk:k≤tC:=by first|decide|(unfold tC;omega)):Ok (λr=>(0≤r.1∧r.1<9223372036854775808)∧Dk (k+1) r.2) (L0 N d):=by
 unfold L0
 refine af (Ld N hk h) λr ⟨hr,hd⟩=>ok_eq (λ_=>ω) λ_=> ?_
 have h3:shr .u64 r.1 3=r.1/8:=by rw[vm ω ω];rfl
 have put: ∀x:Int,0≤x∧x<9223372036854775808→Ok (λr=>(0≤r.1∧r.1<9223372036854775808)∧Dk (k+1) r.2) (some (W .i64 x,r.2)):=λx hx=>an ⟨by rw[ay ω ω];exact hx,hd⟩
 have ath: ∀y:Int,0<y∧y≤1000000000000→0≤rem (r.1/8) y∧rem (r.1/8) y<9223372036854775808:=λy hy=>by have:=rem_in (x:=r.1/8) (y:=y) ω hy.1;omega
 dsimp only
 rw[h3,am4]
 repeat' first|exact put _ ω|exact put _ (ath _ δ)|refine ax (λ_=> ?_) (λ_=> ?_)|refine ok_eq (λ_=> ?_) (λ_=> ?_)|(exfalso;omega)
def CD(x:cv):Prop:=oS x.1 x.2.1 x.2.2.1 x.2.2.2.1
theorem HC{c:ae}:eO c=true↔(1≤c.1.length∧c.1.length≤6)∧(∀x∈c.1,CD x)∧ot c:=by
 unfold eO
 simp only[bQ,ff]
 rw[←gO (d:=aQ) (Q:=CD)];rfl
abbrev Cq(c:ae):Prop:=(G 5 aA c∧1≤c.1.length)∧eO c=true
theorem ain{x:cv}(h:CD x):G 5 eD x:=by
 have g: ∀a b c d:Int,oS a b c d→aG a∧aG b∧aG c∧aG d:=λa b c d h=>by unfold oS at h;unfold aG;omega
 have:=g _ _ _ _ h
 exact⟨this.1,this.2.1,this.2.2.1,this.2.2.2,trivial⟩
theorem aio{c:ae}(h:ot c)(h1:c.2.1<9223372036854775808)(h2:c.2.2.2.2.2.2.1≤1000):G 5 (.pair (.int .i64) (.pair (.int .i64) (.pair (.int .i64) (.pair (.int .i64) (.pair (.int .i64) (.pair (.int .i64) .unit)))))) c.2:=by
 have g: ∀a b c d e f:Int,mq a b c d e f→a<9223372036854775808→f≤1000→aG a∧aG b∧aG c∧aG d∧aG e∧aG f:=λa b c d e f h h1 h2=>by unfold mq at h;unfold aG;omega
 have:=g _ _ _ _ _ _ h h1 h2
 exact⟨this.1,this.2.1,this.2.2.1,this.2.2.2.1,this.2.2.2.2.1,this.2.2.2.2.2,trivial⟩
theorem Va(hN:100≤N){d:bb}(h:Dk 0 d):Ok (λr=>Cq r.1∧Dk 1000 r.2) (vK N d):=by
 unfold vK vK.b
 refine af (lf N δ h) λr hr=> ?_
 rw[ay (x:=1+r.1) ω ω]
 obtain⟨k,hk⟩: ∃k:Nat,1+r.1=(k:Int):=⟨(1+r.1).toNat,ω⟩
 rw[hk]
 have b1: ∀x y:Int,0≤x∧x<y→y≤1000000000000→1≤W .i64 (1+x)∧W .i64 (1+x)≤y:=λx y h1 h2=>by rw[ay ω ω];omega
 refine EX (F:=λn x (s:bb×aO)=>vK.l3 N n s.1 (dh,fu) (dh,fu) s.2 x) (λx s=>x+s.2.length=k∧Dk (1+20*s.2.length) s.1∧ ∀y∈s.2,CD y) (λn x s hI hr=> ?_) (λn s hI=> ?_) k N (r.2,_) ω ⟨rfl,hr.2,λy hy=>nomatch hy⟩
 all_goals unfold vK.l3 vK.lD
 ·obtain⟨hx,hd,hG⟩:=hI
  have AB: ∀(d:bb) (x4:cv),Dk (1+20*s.2.length+10) d→CD x4→Ok (λr=>Cq r.1∧Dk 1000 r.2) (cond (small (s.2.length+[x4].length)) (vK.l3 N n d (dh,fu) (dh,fu) (s.2++[x4]) (W .i64 (((x+1:Nat):Int)-1))) none):=λd x4 hd hx4=>by
   rw[ay (x:=((x+1:Nat):Int)-1) ω ω,show((x+1:Nat):Int)-1=(x:Int)by omega]
   refine aE (by rw[aJ];omega) (hr (_,_) ⟨by rw[aX,aJ];omega,Dk.mono hd (by rw[aX,aJ];omega),λy hy=> ?_⟩)
   rcases bf.1 hy with hy|hy
   ·exact hG y hy
   ·rw[cg.1 hy];exact hx4
  have hj: ∀(d:bb) (x5:cv),Dk (1+20*s.2.length+6) d→CD x5→Ok (λr=>Cq r.1∧Dk 1000 r.2) (vK.j8 N (vK.l3 N n) d (dh,fu) (dh,fu) s.2 ((x+1:Nat):Int) x5):=λd x5 hd hx5=>by
   unfold vK.j8 vK.JC
   refine af (zt N δ hd) λr hd=>sb (λ_=> ?_) λ_=>AB _ _ (Dk.mono hd ω) hx5
   refine af (E5 N hd) λr ⟨h1,hd⟩=>ok_eq (λ_=>ω) λ_=> ?_
   dsimp only
   have e1:=rem_in h1.1 (show(0:Int)<1000000001 by decide)
   exact af (E5 N hd) λr ⟨h2,hd⟩=>ok_eq (λ_=>ω) λ_=>have e2:=rem_in h2.1 (show(0:Int)<1000000001 by decide);AB _ _ (Dk.mono hd ω) ⟨hx5.1,hx5.2.1,⟨e1.1,by dsimp only;omega⟩,⟨e2.1,by dsimp only;omega⟩⟩
  refine ax (λ_=> ?_) λ_=>ω
  refine af (lf N δ hd) λa ⟨ha,hd⟩=>af (lf N δ hd) λb ⟨hb,hd⟩=>af (lf N δ hd) λc ⟨hc,hd⟩=>af (lf N δ hd) λe ⟨he,hd⟩=>af (zt N δ hd) λr hd=>sb (λ_=>af (E5 N hd) λr ⟨h1,hd⟩=>ok_eq (λ_=>ω) λ_=>hj _ _ (Dk.mono hd ω) ⟨⟨ha.1,by dsimp only;omega⟩,b1 _ _ (rem_in h1.1 δ) δ,⟨hc.1,by dsimp only;omega⟩,⟨he.1,by dsimp only;omega⟩⟩) λ_=>hj _ _ (Dk.mono hd ω) ⟨⟨ha.1,by dsimp only;omega⟩,⟨(b1 _ _ hb δ).1,Int.le_trans (b1 _ _ hb δ).2 δ⟩,⟨hc.1,by dsimp only;omega⟩,⟨he.1,by dsimp only;omega⟩⟩
 ·obtain⟨hx,hd,hG⟩:=hI
  have hl:s.2.length≤4∧1≤s.2.length:=ω
  have hd:Dk 900 s.1:=Dk.mono hd ω
  have fin: ∀(q t p b l m:Int),(0≤q∧q<9223372036854775808)→(0≤t∧t<5)→(0≤p∧p<3)→(0≤b∧b<3)→(0≤l∧l<20)→(0≤m∧m<100)→Cq (s.2,(q,(t,(p,(b,(W .i64 (1+l),(m,()))))))):=λq t p b l m h1 h2 h3 h4 h5 h6=>by
   have h7:=b1 _ _ h5 δ
   have hr:ot (s.2,(q,(t,(p,(b,(W .i64 (1+l),(m,()))))))):=(show mq q t p b (W .i64 (1+l)) m by unfold mq;omega)
   exact⟨⟨⟨⟨by dsimp only;omega,λy hy=>ain (hG y hy)⟩,aio hr h1.2 (show m≤1000 by omega)⟩,hl.2⟩,HC.2 ⟨⟨hl.2,by dsimp only;omega⟩,hG,hr⟩⟩
  refine ax (λ_=>ω) λ_=>af (lf N δ hd) λa ⟨ha,hd⟩=>af (lf N δ hd) λb ⟨hb,hd⟩=>af (lf N δ hd) λc ⟨hc,hd⟩=>af (lf N δ hd) λe ⟨he,hd⟩=>af (lf N δ hd) λf ⟨hf,hd⟩=> ?_
  dsimp only
  exact af (lf N δ hd) λg ⟨hg,hd⟩=>af (zt N δ hd) λr hd=>sb (λ_=>af (E5 N hd) λr ⟨hr,hd⟩=>an ⟨fin _ _ _ _ _ _ hr hb hc he hf hg,Dk.mono hd δ⟩) λ_=>an ⟨fin _ _ _ _ _ _ ⟨ha.1,ω⟩ hb hc he hf hg,Dk.mono hd δ⟩
theorem Vb{q:Int}(h0:q≠0):fx [((1:Int),((0:Int),((-q:Int),()))),((3:Int),((0:Int),(q,())))]=true∧du (gK [((1:Int),((0:Int),((-q:Int),()))),((3:Int),((0:Int),(q,())))]) 0:=by
 have ok:fx [((1:Int),((0:Int),((-q:Int),()))),((3:Int),((0:Int),(q,())))]=true:=by
  unfold fx
  rw[gk]
  refine bq λj hj=> ?_
  match j,hj with
  |0,_=>exact⟨show df 1 0 by decide,show-q≠0 by omega,λh=>absurd h δ⟩
  |1,_=>exact⟨show df 3 0 by decide,h0,λ_=> .inl (show(1:Int)<3 by decide)⟩
 refine⟨ok,?_⟩
 unfold gK
 rw[ak ok]
 show-q+(q+0)=0
 omega
theorem Rt(hN:1000≤N){c:ae}(hc:Cq c)(sE:c.2.1<9223372036854775808):Ok (λr=>RB c r.1∧r.2=0) (iy N c):=by
 obtain⟨⟨hc,zz⟩,hp⟩:=hc
 have hl:=hc.1.1
 obtain⟨h1,h2,h3⟩:=HC.1 hp
 unfold iy iy.b
 have hj: ∀b:aq,(∀p:List Int,p.length=c.1.length→eY p=true→RB c (b.1,(b.2.1,(b.2.2.1,(b.2.2.2.1,(p,b.2.2.2.2.2))))))→Ok (λr=>RB c r.1∧r.2=0) (iy.j6 N c (bM,(dh,(cf,(cf,(dW,(eu,())))))) b []):=λb hb=>by
  unfold iy.j6 iy.T7
  obtain⟨b1,b2,b3,b4,b5,b6⟩:=b
  refine bg (len:=c.1.length) (F:=λn i (z:aq×List Int)=>iy.l7 N n c (bM,(dh,(cf,(cf,(dW,(eu,())))))) z.1 z.2 i) (s:=((b1,(b2,(b3,(b4,(b5,b6))))),_)) (λi z=>(z.1.1=b1∧z.1.2.1=b2∧z.1.2.2.1=b3∧z.1.2.2.2.1=b4∧z.1.2.2.2.2.2=b6)∧z.2.length=i∧ ∀x∈z.2,1≤x∧x≤1000000000000) ⟨⟨rfl,rfl,rfl,rfl,rfl⟩,rfl,λx hx=>nomatch hx⟩ ω (λn i z hi hI hr=> ?_) (λn z hI=> ?_)
  all_goals unfold iy.l7 iy.rL
  all_goals obtain⟨hz,Y9,hzp⟩:=hI
  ·rw[ay (x:=(i:Int)+1) ω ω,ag i,aF]
   have hx:=(h2 _ (n7 (d:=aQ) hi)).2.1
   exact ax (λ_=>az ⟨ω,ω⟩ (aE (by rw[List.length_singleton];omega) (hr (_,_) ⟨hz,by dsimp only;rw[List.length_append,List.length_singleton];omega,λy hy=>by
    rcases bf.1 hy with hy|hy
    ·exact hzp y hy
    ·rw[cg.1 hy];exact hx⟩))) λ_=>ω
  ·refine ax (λ_=>ω) λ_=>an ⟨?_,rfl⟩
   obtain⟨z1,z2,z3,z4,z5⟩:=hz
   dsimp only
   rw[z1,z2,z3,z4,z5]
   refine hb _ Y9 ?_
   unfold eY
   exact bq ((gO (d:=(0:Int)) (Q:=λx=>1≤x∧x≤1000000000000)).2 hzp)
 have mk: ∀r:aC,fx r=true→du (gK r) 0→(∀x∈r,jE [] [] x.1 x.2.1)→ ∀p:List Int,p.length=c.1.length→eY p=true→RB c (([]:aB),(([]:aO),(r,(([]:aC),(p,(([]:bC),())))))):=λr r1 r2 r3 p p1 p2=>
  ⟨hp,(show dg []=true by decide),(show gR []=true by decide),λx hx=>(nomatch hx),r1,r2,(show ov []=true by decide),(show dV []=true by decide),show(p.length:Int)=c.1.length by omega,r3,λx hx=>(nomatch hx),λx hx=>(nomatch hx),p2⟩
 refine bH (nB N ω c) (bx (λh=>by rw[hp]at h;exact nomatch h) λ_=>bz (λh0=>hj _ ?_) λ_=>hj _ ?_)
 ·have hs:0≤c.2.1:=h3.1
  have e: ∀q:Int,0≤q→q<9223372036854775808→W .i64 (0-q)= -q:=λq h1 h2=>by rw[ay ω ω];omega
  have h0:(c.2.1:Int)≠0:=h0
  rw[e _ hs sE]
  obtain⟨ok,tot⟩:=Vb h0
  refine mk _ ok tot λx hx=> ?_
  rcases bm.1 hx with rfl|hx
  ·exact⟨λh=>absurd h (show ¬du 1 5 by decide),λh=>absurd h (show ¬(du 1 6∨du 1 7)by decide)⟩
  ·rw[cg.1 hx];exact⟨λh=>absurd h (show ¬du 3 5 by decide),λh=>absurd h (show ¬(du 3 6∨du 3 7)by decide)⟩
 ·exact mk [] δ δ λx hx=>nomatch hx
theorem YB(hN:1000≤N){c:ae}(hc:Cq c)(sE:c.2.1<9223372036854775808):Ok (λr:aV×Int=>(GS 5 r.1∧qI c 5 r.1)∧r.2=0) (F71 N c):=by
 unfold F71
 exact af (Ok.and (Q6 N ω hc.1.1) (Rt N ω hc sE)) λb ⟨dA,qO,hb3⟩=>bz (λh=>absurd hb3 h) λ_=>an ⟨⟨⟨bt,(show aG 1 from bB),dA,G.zero 5 sr,G.zero 5 gN,trivial⟩,qO,⟨(show(1:Int)≤1 by decide),(show(1:Int)≤2000*((5:Nat):Int)by decide)⟩,S6,bA _⟩,rfl⟩
theorem aip(hN:5000000≤N){c:ae}{l:jK}{m:Nat}(hm:m≤700)(hc:Cq c)(sE:c.2.1<9223372036854775808)(hl:Vw m l):Ok (λr=>GS 900 r.1∧qI c 900 r.1) (HD N c l):=by
 have Ky:=hl.1
 unfold HD HD.b
 refine af (YB N ω hc sE) λb ⟨⟨dA,qO⟩,hb3⟩=>bz (λh=>absurd hb3 h) λ_=>bg (len:=l.length) (F:=λn i (z:aV×aC)=>HD.l6 N n l c (Ty.zero dY) z.1 z.2 i) (s:=(_,_)) (λi z=>(GS (200+i) z.1∧qI c (200+i) z.1)∧z.2.length≤i) ⟨⟨G.mono ω dA,qO.1,⟨qO.2.1.1,fU qO.2.1.2 δ⟩,qO.2.2⟩,aI 0⟩ ω (λn i z hi hI hr=> ?_) (λn z hI=> ?_)
 all_goals unfold HD.l6 HD.vX
 all_goals obtain⟨⟨h1,h3⟩,h2⟩:=hI
 ·rw[ay (x:=(i:Int)+1) ω ω,ag i]
  have hx:G 0 pE (l.getD (i:Int).toNat zz8):=G.at hl _
  exact ax (λ_=>az ⟨ω,ω⟩ (af (Ok.and (abo N hN ω ω hc.1.1 h1 hx) (abF N hN ω ω hc.1.1 h1 h3 hx)) λr ⟨xe,xQ⟩=>aE (by rw[List.length_singleton];omega) (hr (r.1,z.2++[r.2]) ⟨⟨xe,xQ⟩,by dsimp only;rw[List.length_append,List.length_singleton];omega⟩))) λ_=>ω
 ·exact ax (λ_=>ω) λ_=>an ⟨G.mono ω h1,h3.1,⟨h3.2.1.1,fU h3.2.1.2 ω⟩,h3.2.2⟩
theorem Cq.f{c:ae}(h:Cq c):Cf c∧c.2.1<9223372036854775808:=⟨⟨h.1.1,h.1.2⟩,h.1.1.2.1.2⟩
theorem Ru(hN:5000000≤N){d:bb}{c:ae}(h:Dk 1000 d)(hq:Cq c){n6:Int}(hm:0≤n6∧n6≤100):Ok (λr=>(GS 900 r.1∧qI c 900 r.1)∧Dk 100000 r.2) (F11 N d c n6):=by
 obtain⟨hc,sE⟩:=hq.f
 unfold F11
 refine af (Uz N ω h hc hm ω) λl ⟨hl,hd⟩=>af (lf N δ hd) λv ⟨hv,hd⟩=> ?_
 have Ky:=hl.1
 have e1: ∀(k:Int) {x:Int},aG k→aG x→G 0 pE (k,(x,fu)):=λk x hk hx=>El hk hx bt bt bt bt bt bt
 have i11:aG 11:=bB
 have i13:aG 13:=bB
 have i10:aG 10:=bB
 have i15:aG 15:=bB
 have i2:aG 2:=bB
 dsimp only
 have h4:=G.cat hl (G.two (m:=2) (e1 11 i11 (gH (1+v.1))) (e1 13 i13 (gH (1+v.1))) (aI 2))
 have h4l:=h4.1
 refine aE (by rw[td];omega) (af (Ou N ω hd hc ω) λn1 ⟨hn1,hd⟩=> ?_)
 have h5:=G.cat h4 hn1
 have h5l:=h5.1
 have atj:=hn1.1
 refine aE ω (aE (by rw[td];omega) (af (Ou N ω hd hc ω) λn2 ⟨hn2,hd⟩=> ?_))
 have h6:=G.cat h5 (G.two (m:=2) (El i10 bt bt bt bt bt i2 bt) (e1 15 i15 bt) (aI 2))
 have h6l:=h6.1
 have atk:=hn2.1
 exact aE (by simp only[aX,aU,bY]at h4l h5l h6l atj atk ⊢;omega) (af (aip N hN ω hq sE (G.cat h6 hn2)) λr hr=>an ⟨hr,Dk.mono hd ω⟩)
end VM
end
section
namespace VM
open Go VM.F Go.RowKit
variable(N:Nat)
theorem HE{c:ae}(h:eO c=true):1≤(c.2.2.2.2.2.1:Int)∧(c.2.2.2.2.2.1:Int)≤4611686018427387904:=by
 unfold eO at h
 have h1:=bl (cL.1 (cL.1 h).2).2
 unfold ot mq at h1
 exact h1.2.2.2.2.1
theorem Rv{c:ae}(h:eO c=true):aG c.2.2.2.2.2.1:=by
 have g: ∀x:Int,1≤x∧x≤4611686018427387904→aG x:=λx h=>by unfold aG;omega
 exact g _ (HE h)
theorem OV{c:ae}{b:aq}{next:Int}(h:(jx c b next).2≠0):(jx c b next).1=[]:=by
 unfold jx at*
 split
 ·rename_i hB
  rw[ak hB]at h
  split
  ·rfl
  ·rename_i h1
   rw[ah h1]at h
   split
   ·rfl
   ·rename_i h2
    rw[ah h2]at h
    unfold JY at*
    cases hL:vZ c next (posOf b.2.2.2.1 0) (List.range 4) []with
    |none=>rfl
    |some o=>rw[hL]at h;exact absurd rfl h
 ·rfl
theorem OW{y:lT}: ∀{l:aB},y∈l→(y.2.1.natAbs:Int)≤eh l
 |x::t,h=>by
  have e:eh (x::t)=(x.2.1.natAbs:Int)+eh t:=by unfold eh;rw[bZ,cD]
  have hz: ∀t:aB,0≤eh t:=λt=>by
   induction t with
   |nil=>exact ec _
   |cons a t ih=>
    have e:eh (a::t)=(a.2.1.natAbs:Int)+eh t:=by unfold eh;rw[bZ,cD]
    rw[e];omega
  rw[e]
  rcases bm.1 h with rfl|h
  ·have:=hz t;omega
  ·have:=OW h;omega
theorem Vc{g s:Int}(h:qF g s=1):g≤s:=by unfold qF at h;repeat' split at h<;>omega
theorem YC{p q:Int}{n:Nat}(hn:n≤3)(h:(p*n-q).natAbs<n)(h1:n=1→q≤4611686018427387904)(hq:q≤9223372036854775807):p≤4611686018427387904:=by
 have:n=1∨n=2∨n=3∨n=0:=ω
 rcases this with rfl|rfl|rfl|rfl
 ·have:=h1 rfl;omega
 ·omega
 ·omega
 ·omega
theorem abG{q:Int}(h0: -9223372036854775808<q)(h1:q<9223372036854775808):mx q (W .i64 (0-q))=(q.natAbs:Int):=by
 rw[ay ω ω,RK];split<;>omega
structure Seen(c:ae)(A:aN)(B i m:Int):Prop where
 pos:0≤m
 has: ∀x∈A,IW c x=B→ ∀z∈x.2.1,z.1=i→(m≤(z.2.1.natAbs:Int)∧(z.2.1.natAbs:Int)≤m+1)∧(z.2.1.natAbs:Int)≤4611686018427387904
 anS: ∀x∈A,IW c x=B→(∀z∈x.2.1,z.1≠i)→m=0
theorem abH{c:ae}{b:aq}(w:ow b)(hR:RB c b){A:aN}(M:Made c (posOf b.2.2.2.1 0) A)(i:Int): ∃m,Seen c A (c.1.getD i.toNat aQ).1 i m:=by
 obtain⟨h6,hq⟩:=E4 w (oF.2 hR)
 have anT:=HE hR.c
 by_cases he: ∃y∈posOf b.2.2.2.1 0,y.1=i
 ·obtain⟨y,hy,rfl⟩:=he
  have Zi:=(hq y hy).1
  have hS:=pH (eh (bV c (posOf b.2.2.2.1 0) (c.1.getD y.1.toNat aQ).1.toNat)) c.2.2.2.2.2.1
  have hn:jv c (bV c (posOf b.2.2.2.1 0) (c.1.getD y.1.toNat aQ).1.toNat)≤3:=by unfold jv;omega
  obtain⟨m,h0,hm⟩:=Rm Zi.2.1 Zi.2.2 hn
  have hbk: ∀{x:eE},x∈A→IW c x=(c.1.getD y.1.toNat aQ).1→DK c (posOf b.2.2.2.1 0) (c.1.getD y.1.toNat aQ).1.toNat x∧y∈bV c (posOf b.2.2.2.1 0) (c.1.getD y.1.toNat aQ).1.toNat:=λ{x} hx hB=>by
   obtain⟨k,hk⟩:=M.lot x hx
   have e:=hk.IW
   rw[hB]at e
   have e2:(c.1.getD y.1.toNat aQ).1.toNat=k:=by rw[e];exact aF k
   rw[e2]
   exact⟨hk,nh.2 ⟨hy,bq e⟩⟩
  refine⟨m,h0,λx hx hB z hz hzi=> ?_,λx hx hB nr=> ?_⟩
  ·obtain⟨⟨_,j,hj,ej⟩,hyo⟩:=hbk hx hB
   rw[ej]at hz
   obtain⟨y',Jj,e1,e2,e3⟩:=ym hz
   have hyy:y'=y:=Yd hR (lj Jj) hy (e1.symm.trans hzi)
   subst hyy
   rw[e2,SW Zi.2.1 Zi.2.2 hn]
   have ho:=Yb Zi.2.1 Zi.2.2 hn hj
   have hg:=OW hyo
   have sE:(y'.2.1.natAbs:Int)≤9223372036854775807:=by
    have g: ∀x:Int,aG x→mZ x→(x.natAbs:Int)≤9223372036854775807:=λx h1 h2=>by unfold aG at h1;unfold mZ at h2;omega
    exact g _ Zi.2.1 Zi.2.2
   refine⟨hm j hj,YC hn ho (λh1=> ?_) sE⟩
   have h2:qF (eh (bV c (posOf b.2.2.2.1 0) (c.1.getD y'.1.toNat aQ).1.toNat)) c.2.2.2.2.2.1=1:=by unfold jv at h1;omega
   exact fU hg (fU (Vc h2) anT.2)
  ·obtain⟨⟨_,j,hj,ej⟩,hyo⟩:=hbk hx hB
   have P5:Er y.2.1 (jv c (bV c (posOf b.2.2.2.1 0) (c.1.getD y.1.toNat aQ).1.toNat)) j=0:=Fa λij=>by
    have:=U3 hyo ij
    rw[←ej]at this
    exact nr _ this rfl
   have:=SW Zi.2.1 Zi.2.2 hn j
   rw[P5]at this
   have:=hm j hj
   omega
 ·refine⟨0,ec _,λx hx hB z hz hzi=> ?_,λ_ _ _ _=>rfl⟩
  obtain⟨k,_,j,hj,ej⟩:=M.lot x hx
  rw[ej]at hz
  obtain⟨y',Jj,e1,e2,e3⟩:=ym hz
  exact absurd ⟨y',lj Jj,e1.symm.trans hzi⟩ he
def Stat(m least n6 n:Int):Prop:=(n=0∧least=4611686018427387904∧n6=0)∨(1≤n∧m≤least∧least≤n6∧n6≤m+1∧n6≤4611686018427387904)
theorem Stat.put{m least n6 n v:Int}(hm:0≤m)(h:Stat m least n6 n)(hn:0≤n)(hv:(m≤v∧v≤m+1)∧v≤4611686018427387904):Stat m (mn least v) (mx n6 v) (n+1):=by
 unfold Stat at*
 rw[RL,RK]
 split<;>split<;>omega
theorem Stat.end{m least n6 n many:Int}(h:Stat m least n6 n)(hm:0≤m)(hl:many≤n∨m=0)(hn:0<n):(n<many→n6≤1)∧(0≤n6-least∧n6-least≤1):=by
 unfold Stat at h;omega
namespace Pure
theorem LF{α:Type}(p:α→Bool)(A:List α)(d:α)(j:Nat)(hj:j<A.length):(A.take (j+1)).countP p=(A.take j).countP p+if p (A.getD j d)=true then 1 else 0:=by
 have eg:A.getD j d=A[j]:=by rw[aZ,bo hj];rfl
 rw[zY,List.countP_append,bo hj,eg]
 cases h:p A[j]<;>simp[h]
theorem abI(l:List Int)(h:WFs [.slice (.int .u64)] l): ∃N,F6 N l=some true:=by
 have key:Ok (λr=>r=true) (F6 6000000 l):=by
  unfold F6 F6.b F9
  refine bH (U1 6000000 ω) (bx (λh=>nomatch h) λ_=>bH rfl (af (Va 6000000 ω (abp h.1)) λc ⟨hc,hd⟩=>af (Ru 6000000 ω hd hc ω) λs ⟨⟨hs,hR⟩,_⟩=> ?_))
  have w:=(G.wf ω hs.2.2.1).w
  have hR:=hR.1
  have anT:=HE hR.c
  generalize s.1.2.2.1=b at*
  generalize s.1.2.1=next at*
  have h6:=(HC.1 hR.c).1.2
  refine bH (zw 6000000 ω w (Rv hR.c) next) (bz (λij=>by rw[OV ij];exact an (cZ rfl)) λh0=> ?_)
  obtain⟨_,_,M⟩:=Lw h0
  have hA:=(Rk (c:=c.1) w next).2
  have anU:=λi=>abH w hR M i
  obtain⟨axP,iT⟩:=E4 w (oF.2 hR)
  generalize (jx c.1 b next).1=A at*
  have S4: ∀x∈A,x.2.1≠[]∧x.2.1.length≤6∧ ∀z∈x.2.1,(0≤(z.1:Int)∧(z.1:Int)<(c.1.1.length:Int))∧aG z.2.1:=λx hx=>by
   obtain⟨k,ij,j,hj,ej⟩:=M.lot x hx
   have hS:=pH (eh (bV c.1 (posOf b.2.2.2.1 0) k)) c.1.2.2.2.2.2.1
   have hn:jv c.1 (bV c.1 (posOf b.2.2.2.1 0) k)≤3:=by unfold jv;omega
   refine⟨ij,?_,λz hz=> ?_⟩
   ·have h1:=yi (bV c.1 (posOf b.2.2.2.1 0) k) (jv c.1 (bV c.1 (posOf b.2.2.2.1 0) k)) j
    have h2:=qH c.1 (posOf b.2.2.2.1 0) k
    rw[ej];omega
   ·rw[ej]at hz
    have sE:=SO (λy hy=>(iT y (lj hy)).1) hn j z hz
    obtain⟨y,hy,e1,_⟩:=ym hz
    rw[e1]
    exact⟨(iT y (lj hy)).2,sE⟩
  refine jW (len:=A.length) (F:=λn' i=>F6.l10 6000000 n' c.1 A i) ω (λn' i hi hr=> ?_) (λn'=> ?_)
  all_goals unfold F6.l10 F6.aiq
  ·obtain⟨h1,h2,h3⟩:=S4 _ (n7 (d:=((0:Int),(bM,aQ))) hi)
   rw[aF,ay (x:=(i:Int)+1) ω ω,ag i]
   generalize A.getD i ((0:Int),(bM,aQ))=x at*
   have D7:=oK.2 h1
   obtain⟨⟨g1,g2⟩,_⟩:=h3 _ (n7 (d:=ct) D7)
   exact ax (λ_=>az ⟨ω,ω⟩ (ok_eq (λh=>ω) λ_=>az ⟨ω,ω⟩ (az ⟨ω,ω⟩ (ax (λh=>absurd g1 (Int.not_le.2 h)) λ_=>az ⟨ω,ω⟩ (az ⟨ω,ω⟩ (et (λh=>absurd g2 (Ak.2 h)) λ_=>hr)))))) λ_=>ω
  ·refine ax (λ_=>ω) λ_=> ?_
   refine jW (len:=c.1.1.length) (F:=λzD i=>F6.yc 6000000 zD c.1 A i) ω (λzD i hi hr=> ?_) (λzD=> ?_)
   all_goals unfold F6.yc F6.Bf
   ·refine ax (λ_=> ?_) λ_=>ω
    obtain⟨m,S⟩:=anU (i:Int)
    rw[aF]at S
    have aA3:=M.KU (c.1.1.getD i aQ).1
    refine bg (len:=A.length) (F:=λn3 j (s:Int×Int×Int×Int)=>F6.Oh 6000000 (F6.yc 6000000 zD) n3 c.1 A (i:Int) s.1 s.2.1 s.2.2.1 s.2.2.2 j) (s:=(4611686018427387904,0,0,0))
     (λj s=>s.2.2.2=(((A.take j).countP λx=>decide (IW c.1 x=(c.1.1.getD i aQ).1):Nat):Int)∧(0≤s.2.2.1∧s.2.2.1≤6*(j:Int))∧(s.2.2.2≤s.2.2.1∨m=0)∧Stat m s.1 s.2.1 s.2.2.1) ⟨rfl,⟨ec 0,by show(0:Int)≤6*((0:Nat):Int);omega⟩,.inl (ec _),.inl ⟨rfl,rfl,rfl⟩⟩ ω (λn3 j s hj hI OC=> ?_) (λn3 s hI=> ?_)
    all_goals obtain⟨least,n6,n,many⟩:=s
    all_goals unfold F6.Oh F6.QZ
    all_goals obtain⟨i1,i2,i3,i4⟩:=hI
    all_goals dsimp only at i1 i2 i3 i4 ⊢
    ·have hx:=n7 (d:=((0:Int),(bM,aQ))) hj
     obtain⟨h1,h2,h3⟩:=S4 _ hx
     have S1:=S.has _ hx
     have S2:=S.anS _ hx
     have Vv:(A.take (j+1)).countP (λx=>decide (IW c.1 x=(c.1.1.getD i aQ).1))=(A.take j).countP (λx=>decide (IW c.1 x=(c.1.1.getD i aQ).1))+if IW c.1 (A.getD j ((0:Int),(bM,aQ)))=(c.1.1.getD i aQ).1 then 1 else 0:=by
      rw[LF _ A ((0:Int),(bM,aQ)) j hj]
      by_cases h:IW c.1 (A.getD j ((0:Int),(bM,aQ)))=(c.1.1.getD i aQ).1
      ·rw[ak h,ak (bq h)]
      ·rw[ah h,ah (by rw[q4];exact h)]
     have D2:(A.take j).countP (λx=>decide (IW c.1 x=(c.1.1.getD i aQ).1))≤12:=by
      have:=Fh (p:=λx=>decide (IW c.1 x=(c.1.1.getD i aQ).1)) (l:=A.take j)
      rw[bE]at this;omega
     have D7:=oK.2 h1
     obtain⟨g1,_⟩:=h3 _ (n7 (d:=ct) D7)
     rw[aF]
     have fin:Ok (λr=>r=true) (cond (!aM (IW c.1 (A.getD j ((0:Int),(bM,aQ)))) (c.1.1.getD i aQ).1) (F6.Oh 6000000 (F6.yc 6000000 zD) n3 c.1 A (i:Int) least n6 n many (W .i64 ((j:Int)+1))) (F6.xX 6000000 (F6.yc 6000000 zD) (F6.Oh 6000000 (F6.yc 6000000 zD) n3) 6000000 c.1 A (i:Int) least n6 n (W .i64 (many+1)) (j:Int) 0)):=by
      refine bz (λhB=> ?_) λhB=> ?_
      ·rw[ay (x:=(j:Int)+1) ω ω,ag j]
       rw[ah hB,kf]at Vv
       exact OC (least,n6,n,many) ⟨by dsimp only;rw[i1,Vv];rfl,by dsimp only;omega,i3,i4⟩
      ·rw[ak hB]at Vv
       have S1:=S1 hB
       have S2:=S2 hB
       rw[ay (x:=many+1) ω ω]
       refine bg (len:=(A.getD j ((0:Int),(bM,aQ))).2.1.length) (F:=λn4 t (s:Int×Int×Int)=>F6.xX 6000000 (F6.yc 6000000 zD) (F6.Oh 6000000 (F6.yc 6000000 zD) n3) n4 c.1 A (i:Int) s.1 s.2.1 s.2.2 (many+1) (j:Int) t) (s:=(least,n6,n))
        (λt s=>(n≤s.2.2∧s.2.2≤n+(t:Int))∧(n<s.2.2∨ ∀u,u<t→((A.getD j ((0:Int),(bM,aQ))).2.1.getD u ct).1≠(i:Int))∧Stat m s.1 s.2.1 s.2.2) ⟨by dsimp only;omega,.inr λu hu=>ω,i4⟩ ω (λn4 t s ht hI hr4=> ?_) (λn4 s hI=> ?_)
       all_goals obtain⟨le1,mo1,n1⟩:=s
       all_goals unfold F6.xX F6.yE
       all_goals obtain⟨k1,k2,k3⟩:=hI
       all_goals dsimp only at k1 k2 k3 ⊢
       all_goals rw[aF]
       ·have hz:=n7 (d:=ct) ht
        obtain⟨_,air⟩:=h3 _ hz
        have S1z:=S1 _ hz
        rw[aF,ay (x:=(t:Int)+1) ω ω,ag t]
        generalize hzz:(A.getD j ((0:Int),(bM,aQ))).2.1.getD t ct=z at*
        unfold aG at air
        refine az ⟨ω,ω⟩ (ax (λ_=>az ⟨ω,ω⟩ (az ⟨ω,ω⟩ (ok_eq (λe=> ?_) λe=> ?_))) λ_=>ω)
        ·have v:=S1z e
         have hab:mx z.2.1 (W .i64 (0-z.2.1))=(z.2.1.natAbs:Int):=by
          have g: ∀q:Int,-9223372036854775808≤q→(q.natAbs:Int)≤4611686018427387904→ -9223372036854775808<q:=λq _ _=>ω
          exact abG (g _ air.1 v.2) air.2
         rw[hab,ay (x:=n1+1) ω ω]
         exact az ⟨ω,ω⟩ (az ⟨ω,ω⟩ (az ⟨ω,ω⟩ (az ⟨ω,ω⟩ (hr4 (mn le1 (z.2.1.natAbs:Int),mx mo1 (z.2.1.natAbs:Int),n1+1) ⟨by dsimp only;omega,.inl (by dsimp only;omega),k3.put S.pos ω v⟩))))
        ·refine hr4 (le1,mo1,n1) ⟨by dsimp only;omega,?_,k3⟩
         rcases k2 with k2|k2
         ·exact .inl k2
         ·exact .inr λu hu=>by
           by_cases hut:u=t
           ·subst hut;rw[hzz];exact e
           ·exact k2 u ω
       ·rw[ay (x:=(j:Int)+1) ω ω,ag j]
        refine az ⟨ω,ω⟩ (ax (λ_=>ω) λ_=>OC (le1,mo1,n1,many+1) ⟨by dsimp only;rw[i1,Vv];rfl,by dsimp only;omega,?_,k3⟩)
        dsimp only
        rcases k2 with k2|k2
        ·exact i3.elim (λh=> .inl ω) .inr
        ·refine .inr (S2 λz hz e=> ?_)
         obtain⟨u,hu,rfl⟩:=fC hz
         refine k2 u hu ?_
         rw[aZ,bo hu];exact e
     exact ax (λ_=>az ⟨ω,ω⟩ (az ⟨ω,ω⟩ (az g1 (az ⟨ω,ω⟩ fin)))) λ_=>ω
    ·rw[fD]at i1
     rw[ay (x:=(i:Int)+1) ω ω,ag i]
     refine ax (λ_=>ω) λ_=>ax (λ_=>ω) λ_=>ax (λhn=> ?_) λ_=>hr
     obtain⟨e1,e2⟩:=i4.end S.pos i3 hn
     have hW:W .i64 (n6-least)=n6-least:=ay ω ω
     rw[hW]
     exact ax (λh=>ax (λ_=>by have:=e1 h;omega) λ_=>ax (λ_=>ω) λ_=>hr) λ_=>ax (λ_=>ω) λ_=>hr
   ·exact ax (λ_=>ω) λ_=>an rfl
 obtain⟨r,e,hr⟩:=key
 exact⟨6000000,by rw[e,hr]⟩
end Pure
end VM
end
