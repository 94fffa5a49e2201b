/- A part of the proof of BookTwo of layer 18: what the functions compute, in plain words. -/
import Derived.Test.YtecmobijochjkaaGreatPlain6
import Derived.Test.YtecmobijochjkaaGreatPlain4
import Derived.Test.YtecmobijochjkaaGreatPlain3
set_option linter.all false
section
namespace VM
open Go VM.F
theorem P4{l:aO}(h:gP l=true):l.length≤24:=by
 unfold gP at h
 rw[fA]at h
 have h:=bt h
 have key: ∀i,i<l.length→(i:Int)+1≤(l.getD i bb).1:=by
  intro i
  induction i with
  |zero=>intro hi;exact(h 0 hi).1.1.1
  |succ i ih=>
   intro hi
   have h1:=ih ω
   have h2:(l.getD i bb).1<(l.getD (i+1) bb).1:=(h (i+1) hi).2.1 ω
   have g: ∀a b:Int,(i:Int)+1≤a→a<b→((i+1:Nat):Int)+1≤b:=λa b h1 h2=>ω
   exact g _ _ h1 h2
 by_cases hl:l.length≤24
 ·exact hl
 ·have h1:=key 24 ω
  have h2:=(h 24 ω).1.1.2
  have g: ∀a:Int,((24:Nat):Int)+1≤a→a≤24→False:=λa h1 h2=>ω
  exact(g _ h1 h2).elim
theorem K4(N:Nat)(hN:5000000≤N){c:ae}{b:an}{m:Nat}(hm:m≤40000)(hc:G m aA c)(hb:G m aJ b)(a:Int):Ok (λr=>aF r.1) (F60 N c b a):=by
 unfold F60 aaq
 exact bH (ej N hN ω hb) (bF (λ_=>aq bV) λ_=>ag (zb N ω ω hb.2.1 _) λ_ _=>bF (λ_=>aq bV) λ_=>ag (PM N ω ω hb.2.2.2.1 _) λl hl=>ag (Q:=λr=>Bg 60000 r.1) (ag (Dl N ω ω hc hl _) λr hr=>aq hr) λu hu=>ag (vd N ω ω hb _) λg hg=>eN (λ_=>aq bV) λ_=>ag (yp N hu) λv hv=>nL (λ_=>ax (λ_=>aq hv) λ_=>aq hg) λ_=>aq hg)
theorem aav(N:Nat)(hN:200000≤N){l:au}{a d:Int}{m:Nat}(hm:m≤50000)(h:L3 m l)(ha:aF a)(hd:aF d):Ok (λr=>L3 (2*m) r) (nM N l a d):=by
 have hl:=h.1
 unfold nM nM.b
 refine bH (lR N ω hN) (bF (λ_=>aq G.nil) λ_=>ok_eq (λ_=>aq G.nil) λ_=>ax (λ_=>aq G.nil) λ_=>ax (λ_=>aq G.nil) λ_=>ax (λ_=>aq G.nil) λ_=>ax (λ_=>aq G.nil) λ_=>bs (len:=l.length) (F:=λn i s=>nM.l5 N n l a d s i) (λi s=>L3 (2*i) s) G.nil ω (λn i s hi hI hr=> ?_) (λn s hI=> ?_))
 all_goals unfold nM.l5 nM.eA
 ·have hs:=hI.1
  have hx:=G.at h (i:Int).toNat
  dsimp only
  rw[aw (x:=(i:Int)+1) ω ω,af i]
  have h1:=hr s (G.mono ω hI)
  exact ax (λ_=>aB ⟨ω,ω⟩ (ok_eq (λ_=>aB ⟨ω,ω⟩ (aB ⟨ω,ω⟩ (aB ⟨ω,ω⟩ (aB ⟨ω,ω⟩ (aD (by rw[ze];omega) (hr _ (G.mono ω (G.cat hI (G.two (m:=2) (G3 ha hx.2.1 (gB _)) (G3 hd hx.2.1 hx.2.2.1) (aH 2)))))))))) λ_=>h1)) λ_=>ω
 ·exact ax (λ_=>ω) λ_=>aq (G.mono ω hI)
theorem adR(N:Nat)(hN:5000000≤N){c:ae}{b:an}{m:Nat}(h2:200≤m)(hm:m≤1000)(hc:G m aA c)(hb:G m aJ b)(a:Int):Ok (λr=>G m aJ r.1) (rM N c b a):=by
 unfold rM rM.b
 refine bH (ej N hN ω hb) (bF (λ_=>aq G.jD) λhB=>ag (rL N ω ω hb _) λ_ _=>ok_eq (λ_=>aq G.jD) λ_=> ?_)
 have hal:b.2.1.length≤24:=by
  unfold df at hB
  have h1:=(c5.1 (c5.1 hB).2).1
  unfold sA at h1
  exact P4 (c5.1 (c5.1 h1).2).1
 refine bs (len:=b.2.1.length) (F:=λn i (z:au×bP)=>rM.l8 N n a c b (cf,(cS,(bn,(bn,(dd,(dm,())))))) z.1 z.2 i) (s:=(_,_)) (λi z=>L3 (2*m*i) z.1∧kP (4*i) z.2) ⟨G.nil,kP.nil⟩ ω (λn i z hi hI hr=> ?_) (λn z hI=> ?_)
 all_goals unfold rM.l8 rM.Ec
 ·obtain⟨h5,h6⟩:=hI
  have h7:=h5.1
  have h8:=h6.1
  have hmi:2*m*i≤2*m*24:=mR _ ω
  have hms:2*m*(i+1)=2*m*i+2*m:=rY _ _
  have hx:G m e7 (b.2.1.getD (i:Int).toNat bb):=G.at hb.2.1 _
  have hj: ∀p:bP,kP (4*i+2) p→Ok (λr=>G m aJ r.1) (rM.Dg N (rM.l8 N n) a c b (cf,(cS,(bn,(bn,(dd,(dm,())))))) z.1 p (i:Int) (b.2.1.getD (i:Int).toNat bb)):=λp hp=>by
   have Bl:=hp.1
   unfold rM.Dg rM.wZ
   rw[aw (x:=(i:Int)+1) ω ω,af i]
   exact ag (vd N ω ω hb _) λg hg=>ax (λ_=>ag (bD N ω hg) λv hv=>ag (rK N ω ω hv) λv hv=>ag (ub N ω _ _ _ _ (Bg.mono hv ω)) λu hu=>aD (by have:=hu.1;omega) (ag (aav N ω ω hb.2.2.2.1 hx.1 bV) λs hs=>aD (by have:=hs.1;omega) (hr (_,_) ⟨G.mono ω (G.cat h5 hs),kP.mono (kP.app hp hu) ω⟩))) λ_=>ag (aav N ω ω hb.2.2.2.1 hx.1 bV) λs hs=>aD (by have:=hs.1;omega) (hr (_,_) ⟨G.mono ω (G.cat h5 hs),kP.mono hp ω⟩)
  rw[aw (x:=(i:Int)+1) ω ω,af i]
  exact ax (λ_=>aB ⟨ω,ω⟩ (bG (λ_=>hr z ⟨G.mono ω h5,kP.mono h6 ω⟩) λ_=>ok_eq (λ_=>ag (K4 N hN ω hc hb _) λq hq=>ag (bD N ω hq) λv hv=>ag (ub N ω _ _ _ _ (Bg.mono hv ω)) λu hu=>aD (by have:=hu.1;omega) (hj _ (kP.mono (kP.app h6 hu) ω))) λ_=>hj _ (kP.mono h6 ω))) λ_=>ω
 ·obtain⟨h5,h6⟩:=hI
  have hmi:2*m*b.2.1.length≤2*m*24:=mR _ ω
  exact ax (λ_=>ω) λ_=>ag (ua N ω h2 ω hb (G.mono ω h5) (kP.mono h6 ω)) λr hr=>aq hr
abbrev GS(m:Nat)(s:aQ):Prop:=G m dQ s
abbrev SR(m:Nat)(r:aQ×de):Prop:=GS m r.1
theorem MJ(N:Nat)(e:Int):Ok (λ_=>True) (fZ N e):=by
 unfold fZ;exact fH
theorem Xf(N:Nat)(hN:5000000≤N){c:ae}{s:aQ}{e:iw}{m:Nat}(h2:200≤m)(hm:m≤1000)(hc:G m aA c)(hs:GS m s)(he:G 0 lZ e):Ok (SR m) (oI N c s e):=by
 have hhl:=hs.2.2.2.1.2.2.2.2.1.1
 unfold oI oI.b
 generalize ((0:Int),((0:Int),_))=S0
 refine bs (len:=s.2.2.2.1.2.2.2.2.1.length) (F:=λn i (z:aQ×aO×Bool×Int)=>oI.l5 N n c z.1 e S0 ba z.2.1 z.2.2.1 z.2.2.2 i) (s:=(_,(_,(_,_)))) (λi z=>GS m z.1∧z.1.2.2.2.1.2.2.2.2.1=s.2.2.2.1.2.2.2.2.1∧G i (.slice e7) z.2.1) ⟨hs,rfl,G.nil⟩ ω (λn i z hi hI hr=> ?_) (λn z hI=> ?_)
 all_goals unfold oI.l5 oI.eA
 ·obtain⟨hz,hh,ho⟩:=hI
  have Cs:=ho.1
  rw[hh,aw (x:=(i:Int)+1) ω ω,af i]
  have hx:G 0 e7 (s.2.2.2.1.2.2.2.2.1.getD (i:Int).toNat bb):=G.at hs.2.2.2.1.2.2.2.2.1 _
  refine ax (λ_=>aB ⟨ω,ω⟩ (ok_eq (λ_=>ag (UY N hN h2 ω hc hz.2.2.1 (G.mono (bz m) hx) he.2.2.1 he.2.2.2.2.2.2.1 he.2.2.2.2.2.2.2.1) λr ⟨BC,zV⟩=>bG (λ_=>ag (MJ N _) λ_ _=>aq hz) λ_=> ?_) λ_=>ax (λ_=>aD (by rw[aK];omega) (hr (z.1,(z.2.1++[s.2.2.2.1.2.2.2.2.1.getD (i:Int).toNat bb],z.2.2)) ⟨hz,hh,G.cat ho (G.one hx (aH 1))⟩)) λ_=>hr z ⟨hz,hh,G.mono ω ho⟩)) λ_=>ω
  have Au:GS m (z.1.1,(z.1.2.1,(r.1,z.1.2.2.2))):=⟨hz.1,hz.2.1,BC,hz.2.2.2⟩
  have alp:G 0 e7 r.2.1:=zV
  exact ax (λ_=>aD (by rw[aK];omega) (hr ((z.1.1,(z.1.2.1,(r.1,z.1.2.2.2))),(z.2.1++[r.2.1],(true,r.2.1.2.2.2.1))) ⟨Au,hh,G.cat ho (G.one alp (aH 1))⟩)) λ_=>hr ((z.1.1,(z.1.2.1,(r.1,z.1.2.2.2))),(z.2.1,(true,r.2.1.2.2.2.1))) ⟨Au,hh,G.mono ω ho⟩
 ·obtain⟨hz,hh,ho⟩:=hI
  rw[hh]
  exact ax (λ_=>ω) λ_=>bF (λ_=>ag (MJ N _) λ_ _=>aq hz) λ_=>aq ⟨hz.1,hz.2.1,hz.2.2.1,⟨hz.2.2.2.1.1,hz.2.2.2.1.2.1,hz.2.2.2.1.2.2.1,hz.2.2.2.1.2.2.2.1,G.mono hhl ho,hz.2.2.2.1.2.2.2.2.2⟩,hz.2.2.2.2⟩
theorem vf(N:Nat)(hN:4000000≤N){s:aQ}{q:Int}(hs:aF s.1)(hq:aF q):Ok (λr=>aF r.1) (Xg N s q):=by
 unfold Xg
 exact ag (bD N hN hs) λa ha=>ag (bD N hN hq) λb hb=>ag (lU N hN ω ha hb) λx hx=>ag (yp N hx) λv hv=>aq hv
theorem dy{α:Type}{P:α×de→Prop}{N:Nat}{e:Int}{f:de→Option (α×de)}(h: ∀r,Ok P (f r)):Ok P ((fZ N e).bind f):=ag (MJ N e) λr _=>h r
theorem aaw(N:Nat)(hN:5000000≤N){c:ae}{s:aQ}{e:iw}{m:Nat}(h2:200≤m)(hm:m≤999)(hc:G 5 aA c)(hs:GS m s)(he:G 0 lZ e):Ok (SR (m+1)) (oJ N c s e):=by
 have Fv:G m aA c:=G.mono ω hc
 have T1:GS (m+1) s:=G.mono ω hs
 obtain⟨s1,s2,s3,⟨k1,k2,k3,k4,k5,k6,k7,k8,k9,U6,k11⟩,s5⟩:=T1
 have hk:=hs.2.2.2.1
 have i2:aF 2:=bw
 have i3:aF 3:=bw
 have up: ∀{τ:Ty} {x:τ.den},G m τ x→G (m+1) τ x:=λh=>G.mono ω h
 have cg: ∀r:de,Ok (SR (m+1)) (some (s,r)):=λr=>aq (up hs)
 unfold oJ oJ.b
 refine ok_eq (λ_=> ?_) λ_=>ok_eq (λ_=> ?_) λ_=>ok_eq (λ_=> ?_) λ_=>ok_eq (λ_=> ?_) λ_=>ok_eq (λ_=> ?_) λ_=>ok_eq (λ_=> ?_) λ_=>ok_eq (λ_=> ?_) λ_=>ok_eq (λ_=> ?_) λ_=>dy λr=>cg r
 ·exact ag (adI N hN ω Fv hs.2.2.1 _ he.2.1 _) λr hr=>dy λ_=>aq ⟨s1,s2,up hr,(up hs).2.2.2⟩
 ·exact ag (adR N hN h2 ω Fv hs.2.2.1 _) λr hr=>dy λ_=>aq ⟨s1,s2,up hr,⟨k1,i2,bV,k4,k5,k6,k7,k8,k9,U6,k11⟩,s5⟩
 ·exact ag (WW N hN c hc.2.2.2.2.2.2.1 ω hs.2.2.1 _) λr hr=>aq ⟨s1,gB _,s3,⟨k1,k2,k3,k4,G.mono ω hr,k6,k7,k8,k9,U6,k11⟩,s5⟩
 ·exact ag (Xf N hN h2 ω Fv hs he) λr hr=>aq (up hr)
 ·exact ok_eq (λ_=>dy λr=>cg r) λ_=>ag (adK N hN h2 ω Fv hs.2.2.1 hs.2.1) λl hl=>bG (λ_=>dy λr=>cg r) λ_=>ag (vf N ω hs.1 hc.2.2.2.2.1) λt ht=>bF (λ_=>dy λr=>cg r) λ_=>ag (UZ N hN c ω hs.2.2.1) λu hu=>aq ⟨s1,gB _,s3,⟨k1,i3,ht,gB _,G.nil,up hl,G.nil,up hu,k9,U6,k11⟩,s5⟩
 ·have hx:G 0 e7 (s.2.1,(e.2.2.2.2.2.1,(e.2.1,(e.2.2.2.2.2.2.2.1,())))):=⟨hs.2.1,he.2.2.2.2.2.1,he.2.1,he.2.2.2.2.2.2.2.1,trivial⟩
  exact ag (K0 N hN ω ω Fv hs.2.2.1 hk.2.2.2.2.2.1 hk.2.2.2.2.2.2.1 hx) λr hr=>aq ⟨s1,gB _,s3,⟨k1,k2,k3,k4,k5,k6,hr,k8,k9,U6,k11⟩,s5⟩
 ·refine ag (P3 N hN c h2 ω hs.2.2.1 hk.2.2.2.2.2.1 hk.2.2.2.2.2.2.1) λr ⟨BC,zV⟩=>bG (λ_=>dy λr=>cg r) λ_=>ag (P1 N ω c h2 ω hk.2.2.2.2.2.2.2.2.1 hk.2.2.2.2.2.2.2.1.1 zV hk.2.2.2.2.2.2.1) λd hd=> ?_
  generalize ((0:Int),((0:Int),_))=S0
  have JX:=zV.1
  refine bs (len:=r.2.1.length) (F:=λn i q=>oJ.l41 N n _ S0 ba r.2.1 q i) (λ_ _=>True) trivial ω (λn i q hi _ eQ=> ?_) (λn q _=> ?_)
  all_goals unfold oJ.l41 oJ.adS
  ·rw[aw (x:=(i:Int)+1) ω ω,af i]
   exact ax (λ_=>aB ⟨ω,ω⟩ (ok_eq (λ_=>eQ _ trivial) λ_=>eQ _ trivial)) λ_=>ω
  ·exact ax (λ_=>ω) λ_=>aq ⟨s1,s2,up BC,⟨k1,i2,bV,k4,k5,up zV,k7,k8,up hd,U6,k11⟩,s5⟩
 ·exact ag (K3 N hN h2 ω Fv hs.2.2.1 hk.2.2.2.2.2.2.2.2.1 hk.2.2.2.2.2.2.2.2.2.1 hk.1) λr ⟨BC,zV⟩=>bG (λ_=>dy λr=>cg r) λ_=>ag (U4 N hN h2 ω hc BC) λb hb=>bG (λ_=>dy λr=>cg r) λ_=>ag (MD N ω ω hb.1 _ _) λu hu=>aq ⟨s1,s2,⟨up hu,(up hb).2⟩,G.zero (m+1) sX,up zV,trivial⟩
theorem P5(N:Nat)(s:aQ)(k:Int):Ok (λ_=>True) (adT N s k):=by
 unfold adT
 repeat' first|exact fH|refine ok_eq (λ_=> ?_) (λ_=> ?_)
theorem pv(N:Nat)(hN:200000≤N){s:aQ}{m:Nat}(hm:m≤50000)(hs:GS m s)(k:Int):Ok (λ_=>True) (Ie N s k):=by
 unfold Ie
 exact ag (pt N hN hm hs.2.2.1.1 _) λ_ _=>fH
theorem aay(N:Nat)(hN:200000≤N){s:aQ}{m:Nat}(hm:m≤50000)(hs:GS m s)(k:Int):Ok (λ_=>True) (Ti N s k):=by
 unfold Ti
 exact ag (zb N hN hm hs.2.2.1.2.1 _) λ_ _=>fH
theorem adU(N:Nat)(hN:4000000≤N){s:aQ}{m:Nat}(h2:200≤m)(hm:m≤50000)(hs:GS m s)(a b c d:Int){q:Int}(hq:aF q):Ok (SR m) (P6 N s a b c d q):=by
 unfold P6
 exact ag (bD N hN hq) λx hx=>ag (ub N hN _ _ _ _ (Bg.mono hx ω)) λp hp=>ag (ua N hN h2 hm hs.2.2.1 G.nil (kP.mono hp ω)) λr hr=>aq ⟨hs.1,hs.2.1,hr,hs.2.2.2⟩
theorem aaz(N:Nat)(hN:5000000≤N){c:ae}{s:aQ}{e:iw}{m:Nat}(h2:200≤m)(hm:m≤999)(hc:G 5 aA c)(hs:GS m s)(he:G 0 lZ e):Ok (SR (m+1)) (qL N c s e):=by
 obtain⟨s1,s2,s3,⟨k1,k2,k3,k4,k5,k6,k7,k8,k9,U6,k11⟩,s5⟩:=hs
 have hs:GS m s:=⟨s1,s2,s3,⟨k1,k2,k3,k4,k5,k6,k7,k8,k9,U6,k11⟩,s5⟩
 have up: ∀{x:aQ},GS m x→ ∀r:de,Ok (SR (m+1)) (some (x,r)):=λh r=>aq (P:=SR (m+1)) (G.mono (rZ m) h)
 have i1:aF 1:=bw
 have us: ∀{τ:Ty} {x:τ.den},G m τ x→G (m+1) τ x:=λh=>G.mono ω h
 unfold qL qL.b
 have hj: ∀(S0:aQ) (z:de),Ok (SR (m+1)) (qL.W9 N c s e S0 z):=λS0 z=>by
  unfold qL.W9 qL.P0
  exact ag (P5 N _ _) λ_ _=>bF (λ_=>dy λr=>up hs r) λ_=>ag (aaw N hN h2 hm hc hs he) λr hr=>aq hr
 have mem: ∀{x:aE},G m (.slice kM) x→G m aJ ((x,s.2.2.1.2):an):=λh=>⟨h,s3.2⟩
 have hd: ∀z:aE×Int,G m (.slice kM) z.1→Ok (SR (m+1)) (cond (aN z.2 0) (cond (aN e.1 11) ((ME N c (z.1,s.2.2.1.2) e.2.1).bind λr2=>cond (aN s.2.2.2.1.2.1 3) ((qm N s.2.2.2.1.2.2.2.2.2.2.1 e.2.1).bind λr3=>(fZ N z.2).bind λr4=>some ((s.1,(s.2.1,(r2.1,((s.2.2.2.1.1,(s.2.2.2.1.2.1,(s.2.2.2.1.2.2.1,(s.2.2.2.1.2.2.2.1,(s.2.2.2.1.2.2.2.2.1,(s.2.2.2.1.2.2.2.2.2.1,(r3,s.2.2.2.1.2.2.2.2.2.2.2))))))),s.2.2.2.2)))),r4)) ((fZ N z.2).bind λr5=>some ((s.1,(s.2.1,(r2.1,s.2.2.2))),r5))) ((fZ N z.2).bind λr6=>some ((s.1,(s.2.1,((z.1,s.2.2.1.2),s.2.2.2))),r6))) ((fZ N z.2).bind λr7=>some ((s.1,(s.2.1,((z.1,s.2.2.1.2),s.2.2.2))),r7))):=λz hz=>
  ok_eq (λ_=>ok_eq (λ_=>ag (PS N hN c ω (mem hz) _) λb hb=>ok_eq (λ_=>ag (EA N ω ω k7 _) λl hl=>dy λr=>aq ⟨s1,s2,us hb,⟨k1,k2,k3,k4,us k5,us k6,us hl,us k8,us k9,us U6,trivial⟩,us s5⟩) λ_=>dy λr=>aq ⟨s1,s2,us hb,(us hs).2.2.2⟩) λ_=>dy λr=>aq ⟨s1,s2,us (mem hz),(us hs).2.2.2⟩) λ_=>dy λr=>aq ⟨s1,s2,us (mem hz),(us hs).2.2.2⟩
 have Jf:=λk:Int=>MD N ω (m:=m) ω s3.1 e.2.1 k
 refine ok_eq (λ_=>ag (Jf _) λz hz=>hd z hz) λ_=>ok_eq (λ_=>ag (Jf _) λz hz=>hd z hz) λ_=>ok_eq (λ_=> ?_) λ_=>ok_eq (λ_=> ?_) λ_=>hj _ _
 ·exact ag (pv N ω ω hs _) λ_ _=>ok_eq (λ_=>dy λr=>up hs r) λ_=>bG (λ_=>dy λr=>up hs r) λ_=>ag (Jf _) λz hz=>bG (λ_=>dy λr=>aq ⟨s1,s2,us (mem hz),(us hs).2.2.2⟩) λ_=>ag (vf N ω s1 hc.2.2.2.1) λt ht=>bF (λ_=>dy λr=>aq ⟨s1,s2,us (mem hz),(us hs).2.2.2⟩) λ_=>aq ⟨s1,s2,us (mem hz),⟨he.2.1,i1,ht,bV,G.nil,G.nil,G.nil,G.nil,G.nil,G.nil,trivial⟩,us s5⟩
 ·exact ag (pv N ω ω hs _) λ_ _=>ok_eq (λ_=>dy λr=>up hs r) λ_=>ag (pv N ω ω hs _) λ_ _=>bG (λ_=>dy λr=>up hs r) λ_=>hj _ _
theorem adV(N:Nat)(hN:5000000≤N){c:ae}{s:aQ}{e:iw}{m:Nat}(h2:200≤m)(hm:m≤999)(hc:G 5 aA c)(hs:GS m s)(he:G 0 lZ e):Ok (SR (m+1)) (Xh N c s e):=by
 have Fv:G m aA c:=G.mono ω hc
 obtain⟨s1,s2,s3,⟨k1,k2,k3,k4,k5,k6,k7,k8,k9,U6,k11⟩,s5⟩:=hs
 have hs:GS m s:=⟨s1,s2,s3,⟨k1,k2,k3,k4,k5,k6,k7,k8,k9,U6,k11⟩,s5⟩
 have us: ∀{τ:Ty} {x:τ.den},G m τ x→G (m+1) τ x:=λh=>G.mono ω h
 have T1:=us hs
 have up: ∀{x:aQ},GS m x→ ∀r:de,Ok (SR (m+1)) (some (x,r)):=λh r=>aq (P:=SR (m+1)) (G.mono (rZ m) h)
 have st:=λk:Int=>pv N ω (m:=m) ω hs k
 have hp:=λa b c d=>adU N ω h2 ω hs a b c d he.2.2.2.2.2.2.1
 have Xi:=he.2.2.2.2.2.2.1
 unfold Xh
 refine ok_eq (λ_=> ?_) λ_=>ok_eq (λ_=> ?_) λ_=>ok_eq (λ_=> ?_) λ_=>ok_eq (λ_=> ?_) λ_=>ok_eq (λ_=> ?_) λ_=>ok_eq (λ_=> ?_) λ_=>ok_eq (λ_=> ?_) λ_=>ok_eq (λ_=> ?_) λ_=>ok_eq (λ_=> ?_) λ_=>ok_eq (λ_=> ?_) λ_=>ok_eq (λ_=> ?_) λ_=>ag (aaz N hN h2 hm hc hs he) λr hr=>aq hr
 ·exact ag (aaf N ω ω s3.1 he.2.1) λr hr=>dy λ_=>aq ⟨s1,s2,⟨hr,T1.2.2.1.2⟩,T1.2.2.2⟩
 ·have hx:G 0 e7 (e.2.2.1,(e.2.1,(e.2.2.2.2.1,((0:Int),())))):=⟨he.2.2.1,he.2.1,he.2.2.2.2.1,bV,trivial⟩
  exact ag (adE N ω ω s3.1 s3.2.1 hx) λr hr=>dy λ_=>aq ⟨s1,s2,⟨T1.2.2.1.1,hr,T1.2.2.1.2.2⟩,T1.2.2.2⟩
 ·exact ag (aay N ω ω hs _) λ_ _=>bF (λ_=>dy λr=>up hs r) λ_=>ag (hp _ _ _ _) λr hr=>aq (us hr)
 ·exact ag (PX N hN h2 ω Fv s3 _ Xi) λr hr=>dy λz=>aq ⟨s1,s2,us hr,(us hs).2.2.2⟩
 ·exact ag (st _) λ_ _=>ok_eq (λ_=>dy λr=>up hs r) λ_=>ag (st _) λ_ _=>bG (λ_=>dy λr=>up hs r) λ_=>ag (hp _ _ _ _) λr hr=>aq (us hr)
 ·exact ag (st _) λ_ _=>ok_eq (λ_=>dy λr=>up hs r) λ_=>ag (np N ω ω s3.2.2.1 _ _) λg hg=>ag (bD N ω hg) λx hx=>ag (rK N ω ω hx) λx hx=>ag (bD N ω Xi) λy hy=>ag (qH N ω ω ω hy hx) λ_ _=>ax (λ_=>dy λr=>up hs r) λ_=>ag (hp _ _ _ _) λr hr=>aq (us hr)
 ·exact ag (aag N ω ω s3.2.1 Xi) λr hr=>dy λz=>aq ⟨s1,s2,⟨us s3.1,us hr,(us s3).2.2⟩,(us hs).2.2.2⟩
 ·have hx:G 0 nn (s.2.1,(e.2.2.1,(e.2.2.2.1,(e.2.2.2.2.1,(e.2.2.2.2.2.2.1,(e.2.2.2.2.2.2.2.1,())))))):=⟨s2,he.2.2.1,he.2.2.2.1,he.2.2.2.2.1,Xi,he.2.2.2.2.2.2.2.1,trivial⟩
  exact ag (aak N hN h2 ω Fv s3 hx) λr hr=>aq ⟨s1,gB _,hr,T1.2.2.2⟩
 ·exact ag (aay N ω ω hs _) λ_ _=>bF (λ_=>dy λr=>up hs r) λ_=>ag (W2 N ω ω s3.2.2.2.2.2.1 _ _) λr hr=>dy λz=>aq ⟨s1,s2,⟨us s3.1,us s3.2.1,us s3.2.2.1,us s3.2.2.2.1,us s3.2.2.2.2.1,us hr,trivial⟩,(us hs).2.2.2⟩
 ·exact ag (yd N hN c h2 ω s3 _ he.2.2.2.2.2.2.2.1) λr ⟨BC,zV⟩=>ok_eq (λ_=>bG (λ_=>ag (PW N ω h2 ω U6 zV) λg hg=>dy λz=>aq ⟨s1,s2,us BC,⟨k1,k2,k3,k4,us k5,us k6,us k7,us k8,us k9,us hg,trivial⟩,us s5⟩) λ_=>dy λz=>aq ⟨s1,s2,us BC,(us hs).2.2.2⟩) λ_=>dy λz=>aq ⟨s1,s2,us BC,(us hs).2.2.2⟩
 ·exact ag (vf N ω s1 Xi) λt ht=>bF (λ_=>dy λr=>up hs r) λ_=>aq ⟨ht,(us hs).2⟩
theorem U7(N:Nat)(hN:5000000≤N){c:ae}{s:aQ}{e:iw}{m:Nat}(h2:200≤m)(hm:m≤999)(hc:G 5 aA c)(hs:GS m s)(he:G 0 lZ e):Ok (SR (m+1)) (Tj N c s e):=by
 have cg: ∀r:de,Ok (SR (m+1)) (some (s,r)):=λr=>aq (P:=SR (m+1)) (G.mono (rZ m) hs)
 unfold Tj
 exact bH (oe N ω c) (bF (λ_=>cg _) λ_=>ag (KZ N ω e) λ_ _=>bF (λ_=>cg _) λ_=>ag (adV N hN h2 hm hc hs he) λr hr=>bG (λ_=>cg _) λ_=>aq hr)
end VM
end
section
namespace VM
open Go VM.F Go.RowKit
theorem ac1{l:List Int}(h:WF (.slice (.int .u64)) l):Dk 0 ((l,((0:Int),())):aG):=⟨λx hx=>by
 obtain⟨i,hi,rfl⟩:=gE hx
 have h3:0≤l[i]∧l[i]≤18446744073709551615:=wf_u64.1 (h.2 i hi)
 exact⟨h3.1,AK h3.2 δ⟩,fR 0,fR 0⟩
namespace Pure
end Pure
theorem qM{α:Type}{l:List α}{d:α}{i:Nat}(h:i<l.length):l.getD i d∈l:=by
 rw[aV,bo h];exact dO h
namespace Pure
end Pure
theorem sY{P:Int→Prop} [DecidablePred P]{f:Int→Int→Int}: ∀{K:List dh} {o:au},dL P f K=some o→(o.map keyOf).Sublist K∧(∀x∈o,dJ x=f x.1 x.2.1∧dJ x≠0∧P (dJ x))∧(∀k∈K,P (f k.1 k.2))∧ ∀a b,gR a b o=if(a,b)∈K then f a b else 0
 |[],o,h=>by
  have e:[]=o:=mw h
  subst e
  exact⟨List.Sublist.refl _,λx hx=>(nomatch hx),λk hk=>(nomatch hk),λa b=>by rw[ah (λh=>nomatch h)];rfl⟩
 |k::t,o,h=>by
  rw[ix]at h
  by_cases hp:P (f k.1 k.2)
  ·rw[aj hp]at h
   cases ho:dL P f t with
   |none=>rw[ho]at h;exact nomatch h
   |some o'=>
    rw[ho]at h
    have e:(if f k.1 k.2=0 then o' else(k.1,(k.2,(f k.1 k.2,())))::o')=o:=mw h
    obtain⟨s,g,gp,gf⟩:=sY ho
    have iQ: ∀k'∈k::t,P (f k'.1 k'.2):=λk' hk=>by
     rcases a8.1 hk with rfl|hk
     ·exact hp
     ·exact gp k' hk
    by_cases h0:f k.1 k.2=0
    ·rw[aj h0]at e
     subst e
     refine⟨s.cons _,g,iQ,λa b=> ?_⟩
     rw[gf a b]
     by_cases hk:(a,b)=k
     ·subst hk
      rw[aj (bq ..)]
      dsimp only at h0
      rw[h0];split<;>rfl
     ·by_cases ht:(a,b)∈t
      ·rw[aj ht,aj (aZ _ ht)]
      ·rw[ah ht,ah (λh=>(a8.1 h).elim hk ht)]
    ·rw[ah h0]at e
     subst e
     refine⟨s.cons_cons _,λx hx=> ?_,iQ,λa b=> ?_⟩
     ·rcases a8.1 hx with rfl|hx
      ·exact⟨rfl,h0,hp⟩
      ·exact g x hx
     ·rw[iK]
      dsimp only
      rw[gf a b]
      by_cases h1:k.1=a
      ·by_cases h2:k.2=b
       ·have hk:(a,b)=k:=by rw[←h1,←h2]
        rw[aj h1,aj h2,aj (by rw[hk];exact bq ..),h1,h2]
       ·have hk:(a,b)≠k:=λe=>h2 (by rw[←e])
        rw[aj h1,ah h2]
        by_cases ht:(a,b)∈t
        ·rw[aj ht,aj (aZ _ ht)]
        ·rw[ah ht,ah (λh=>(a8.1 h).elim hk ht)]
      ·have hk:(a,b)≠k:=λe=>h1 (by rw[←e])
       rw[ah h1]
       by_cases ht:(a,b)∈t
       ·rw[aj ht,aj (aZ _ ht)]
       ·rw[ah ht,ah (λh=>(a8.1 h).elim hk ht)]
  ·rw[ah hp]at h;exact nomatch h
theorem aaA{l:au}(hs:sE (l.map keyOf)){j:Nat}(hj:j<l.length)(h0:0<j):ur (keyOf (l.getD (j-1) ba)) (keyOf (l.getD j ba)):=by
 have:=vq.1 (uA.1 hs) (j-1) j ω hj ω
 rw[aV,aV,bo hj,bo (show j-1<l.length by omega)]
 exact this
theorem Tk{l:au}(hs:sE (l.map keyOf))(h: ∀x∈l,bY x.1 x.2.1∧dJ x≠0∧q7 (dJ x)):c6 l=true:=by
 unfold c6
 rw[fA]
 refine aU λj hj=> ?_
 obtain⟨a,b,c⟩:=h _ (qM (d:=ba) hj)
 exact⟨a,b,c,λh0=>aaA hs hj h0⟩
theorem Xj{l:au}(hs:sE (l.map keyOf))(h: ∀x∈l,db x.1 x.2.1∧dJ x≠0):eK l=true:=by
 unfold eK
 rw[fA]
 refine aU λj hj=> ?_
 obtain⟨a,b⟩:=h _ (qM (d:=ba) hj)
 exact⟨a,b,λh0=>aaA hs hj h0⟩
theorem sZ{a b:Int}:(a,b)∈iW↔bY a b:=by
 unfold iW bY
 rw[pf];dsimp only;omega
theorem sC(b:an)(s e:au):((cc b s e).2=2∧(cc b s e).1=(cf,(cS,(bn,(bn,(dd,(dm,())))))))∨ ∃s' r',dL Fq (fS b.2.2.2.1 s) iW=some s'∧dL aF (fS b.2.2.1 e) lY=some r'∧cc b s e=((b.1,(b.2.1,(r',(s',b.2.2.2.2)))),0):=by
 unfold cc
 cases h1:dL Fq (fS b.2.2.2.1 s) iW with
 |none=>exact .inl ⟨rfl,rfl⟩
 |some s'=>
  cases h2:dL aF (fS b.2.2.1 e) lY with
  |none=>exact .inl ⟨rfl,rfl⟩
  |some r'=>exact .inr ⟨s',r',rfl,rfl,rfl⟩
theorem Tl{l E o:au}(hs:c6 l=true)(h:dL Fq (fS l E) iW=some o):c6 o=true∧(∀a b,bY a b→gb o a b=gb l a b+cO a b E∧Fq (gb o a b)):=by
 obtain⟨h1,h2,h3,h4⟩:=sY h
 have hso:sE (o.map keyOf):=uz h1 (lT 6 25 0)
 have ho:c6 o=true:=Tk hso λx hx=>by
  have hk:(x.1,x.2.1)∈iW:=h1.subset (fh (f:=keyOf) hx)
  obtain⟨_,g1,g2⟩:=h2 x hx
  exact⟨sZ.1 hk,g1,g2.2⟩
 refine⟨ho,λa b hp=> ?_⟩
 have e:gb o a b=fS l E a b:=by
  unfold gb
  rw[ho,aj rfl,h4 a b,aj (sZ.2 hp)]
 refine⟨?_,by rw[e];exact h3 _ (sZ.2 hp)⟩
 rw[e]
 unfold fS gb
 rw[hs,aj rfl,nE (dM hs).1]
theorem FP{a b:Int}{l:au}(h:cO a b l≠0): ∃x∈l,x.1=a∧x.2.1=b:=
 Nz λhn=>h (ln λx hx e=>hn ⟨x,hx,e⟩)
theorem adW{l E o:au}(hs:eK l=true)(hE: ∀x∈E,db x.1 x.2.1)(h:dL aF (fS l E) lY=some o):eK o=true∧(∀a b,db a b→tT o a b=tT l a b+cO a b E∧aF (tT o a b)):=by
 obtain⟨h1,h2,h3,h4⟩:=sY h
 obtain⟨hl,qP⟩:=lx hs
 have hso:sE (o.map keyOf):=uz h1 (lT 25 7 1)
 have ho:eK o=true:=Xj hso λx hx=>by
  obtain⟨g0,g1,g2⟩:=h2 x hx
  refine⟨?_,g1⟩
  rw[g0]at g1
  unfold fS at g1
  by_cases hz:cO x.1 x.2.1 l=0
  ·rw[hz,xl]at g1
   obtain⟨y,hy,e1,e2⟩:=FP g1
   rw[←e1,←e2];exact hE y hy
  ·obtain⟨y,hy,e1,e2⟩:=FP hz
   rw[←e1,←e2];exact qP y hy
 refine⟨ho,λa b hk=> ?_⟩
 have hg:(a,b)∈lY:=by
  unfold lY
  rw[pf]
  unfold db at hk
  dsimp only;omega
 have e:tT o a b=fS l E a b:=by
  unfold tT
  rw[ho,aj rfl,h4 a b,aj hg]
 refine⟨?_,by rw[e];exact h3 _ hg⟩
 rw[e]
 unfold fS tT
 rw[hs,aj rfl,nE hl]
namespace Pure
end Pure
namespace Pure
end Pure
def JL(p:dh→Bool):au→Int
 |[]=>0
 |x::t=>(if p (keyOf x)=true then dJ x else 0)+JL p t
def Ig(p:dh→Bool)(f:Int→Int→Int):List dh→Int
 |[]=>0
 |k::t=>(if p k=true then f k.1 k.2 else 0)+Ig p f t
theorem Dm(p:dh→Bool)(x:de)(t:au):JL p (x::t)=(if p (keyOf x)=true then dJ x else 0)+JL p t:=rfl
theorem rN(p:dh→Bool)(f:Int→Int→Int)(k:dh)(t:List dh):Ig p f (k::t)=(if p k=true then f k.1 k.2 else 0)+Ig p f t:=rfl
theorem K5{P:Int→Prop} [DecidablePred P]{f:Int→Int→Int}(p:dh→Bool): ∀{K:List dh} {o:au},dL P f K=some o→JL p o=Ig p f K
 |[],o,h=>by
  have e:[]=o:=mw h
  subst e;rfl
 |k::t,o,h=>by
  rw[ix]at h
  by_cases hp:P (f k.1 k.2)
  ·rw[aj hp]at h
   cases ho:dL P f t with
   |none=>rw[ho]at h;exact nomatch h
   |some o'=>
    rw[ho]at h
    have e:(if f k.1 k.2=0 then o' else(k.1,(k.2,(f k.1 k.2,())))::o')=o:=mw h
    rw[rN,←K5 p ho]
    by_cases h0:f k.1 k.2=0
    ·rw[aj h0]at e
     rw[←e,h0]
     split<;>omega
    ·rw[ah h0]at e
     rw[←e];rfl
  ·rw[ah hp]at h;exact nomatch h
theorem Ih(p:dh→Bool)(f g:Int→Int→Int): ∀K:List dh,Ig p (λa b=>f a b+g a b) K=Ig p f K+Ig p g K
 |[]=>rfl
 |k::t=>by
  rw[rN,rN,rN,Ih p f g t]
  split<;>omega
theorem Dn{p:dh→Bool}{f:Int→Int→Int}: ∀{K:List dh},(∀k∈K,f k.1 k.2=0)→Ig p f K=0
 |[],_=>rfl
 |k::t,h=>by
  rw[rN,h k (bq ..),Dn λx hx=>h x (aZ _ hx)]
  split<;>rfl
theorem P7(p:dh→Bool)(k:dh)(v:Int): ∀{K:List dh},sE K→k∈K→Ig p (λa b=>if k.1=a∧k.2=b then v else 0) K=if p k=true then v else 0
 |[],_,h=>nomatch h
 |x::t,hs,h=>by
  obtain⟨h1,h2⟩:=eP.1 hs
  rw[rN]
  by_cases e:k=x
  ·subst e
   have hz:Ig p (λa b=>if k.1=a∧k.2=b then v else 0) t=0:=Dn λy hy=>ah λe=>by
    have:=h1 y hy
    rw[show y=k from iC e.1.symm e.2.symm]at this
    exact ow this
   rw[aj (show k.1=k.1∧k.2=k.2 from⟨rfl,rfl⟩),hz,jN]
  ·rw[ah (show ¬(k.1=x.1∧k.2=x.2)from λh=>e (iC h.1 h.2)),P7 p k v h2 ((a8.1 h).elim (λh=>absurd h e) id)]
   split<;>omega
theorem Ii(p:dh→Bool){K:List dh}(hs:sE K): ∀{l:au},(∀x∈l,keyOf x∈K)→Ig p (λa b=>cO a b l) K=JL p l
 |[],_=>Dn λ_ _=>rfl
 |x::t,h=>by
  have e:(λa b=>cO a b (x::t))=λa b=>(if(keyOf x).1=a∧(keyOf x).2=b then dJ x else 0)+cO a b t:=by
   funext a b;exact ib a b x t
  rw[e,Ih,P7 p (keyOf x) (dJ x) hs (h x (bq ..)),Ii p hs λy hy=>h y (aZ _ hy),Dm]
theorem Ij{P:Int→Prop} [DecidablePred P]{l E o:au}{K:List dh}(p:dh→Bool)(hs:sE K)(hl: ∀x∈l,keyOf x∈K)(hE: ∀x∈E,keyOf x∈K)(h:dL P (fS l E) K=some o):JL p o=JL p l+JL p E:=by
 rw[K5 p h,←Ii p hs hl,←Ii p hs hE,←Ih];rfl
theorem wx: ∀l:au,JL (λ_=>true) l=(l.map dJ).sum
 |[]=>rfl
 |x::t=>by rw[Dm,aj rfl,wx t,bQ,cE]
theorem zf(i:Int): ∀l:au,JL (λk=>decide (k.2=i)) l=(dg i l).sum
 |[]=>rfl
 |x::t=>by
  rw[Dm,zf i t,dx]
  by_cases e:x.2.1=i
  ·rw[aj (aU (show(keyOf x).2=i from e)),aj e,cE]
  ·rw[ah (by rw[bu (show ¬(keyOf x).2=i from e)];exact rP),ah e,xl]
def Ik(m:aE)(a:aO)(k n:Int):Prop:=(dG k 5→(eS a n).2=true)∧(dG k 6∨dG k 7→ ¬dG (gJ m n) 0)
def Il(c:ae)(a:aO)(k n:Int):Prop:=(dG k 0∨(eS a k).2=true)∧lF n c.1.length
theorem P8{k n:Int}(h:db k n):(k,n)∈lY:=by
 unfold lY
 rw[pf]
 unfold db at h
 dsimp only;omega
theorem Im{l E:au}{Q:Int→Int→Prop}(hl: ∀x∈l,Q x.1 x.2.1)(hE: ∀x∈E,Q x.1 x.2.1){a b:Int}(h:fS l E a b≠0):Q a b:=by
 unfold fS at h
 by_cases hz:cO a b l=0
 ·rw[hz,xl]at h
  obtain⟨y,hy,e1,e2⟩:=FP h
  rw[←e1,←e2];exact hE y hy
 ·obtain⟨y,hy,e1,e2⟩:=FP hz
  rw[←e1,←e2];exact hl y hy
theorem MK{c:ae}{b:an}{s e s' r':au}(hB:df c b=true)(h1:dL Fq (fS b.2.2.2.1 s) iW=some s')(h2:dL aF (fS b.2.2.1 e) lY=some r')
  (gs: ∀x∈s,bY x.1 x.2.1∧Il c b.2.1 x.1 x.2.1) (flat: ∀i:Int,(dg i s).sum=0) (ge: ∀x∈e,db x.1 x.2.1∧Ik b.1 b.2.1 x.1 x.2.1) (zero:(e.map dJ).sum=0):
  df c (b.1,(b.2.1,(r',(s',b.2.2.2.2))))=true:=by
 have hB':=hB
 unfold df at hB'
 simp only[bM]at hB'
 obtain⟨b1,b2,b3,b4,b5,b6,b7,b8,b9,b10,b11⟩:=hB'
 obtain⟨hr,hs⟩:=dE hB
 obtain⟨o1,_⟩:=Tl hs h1
 obtain⟨o2,_⟩:=adW hr (λx hx=>(ge x hx).1) h2
 obtain⟨Oa,hsk⟩:=dM hs
 obtain⟨JX,hrk⟩:=lx hr
 have k1: ∀x∈b.2.2.2.1,keyOf x∈iW:=λx hx=>sZ.2 (hsk x hx).1
 have k2: ∀x∈s,keyOf x∈iW:=λx hx=>sZ.2 (gs x hx).1
 have k3: ∀x∈b.2.2.1,keyOf x∈lY:=λx hx=>P8 (hrk x hx)
 have k4: ∀x∈e,keyOf x∈lY:=λx hx=>P8 (ge x hx).1
 have hp8:=bt b8
 have hp9:=bt b9
 have q8: ∀x∈b.2.2.1,Ik b.1 b.2.1 x.1 x.2.1:=λx hx=>by
  obtain⟨i,hi,e⟩:=gE hx
  have:=hp8 i hi
  unfold kH at this
  rw[aV,bo hi,nR,e]at this
  exact this
 have q9: ∀x∈b.2.2.2.1,Il c b.2.1 x.1 x.2.1:=λx hx=>by
  obtain⟨i,hi,e⟩:=gE hx
  have:=hp9 i hi
  unfold jQ at this
  rw[aV,bo hi,nR,e]at this
  exact this
 have n4:decide (dG (gQ r') 0)=true:=by
  refine aU ?_
  unfold gQ dG
  rw[o2,aj rfl,←wx,Ij _ (lT 25 7 1) k3 k4 h2,wx,wx,zero,jN]
  have:=bt b4
  unfold gQ dG at this
  rw[hr,aj rfl]at this
  exact this
 have n5:oj s'=true:=by
  unfold oj at b5 ⊢
  obtain⟨f1,_⟩:=c5.1 b5
  rw[o1,fA]
  refine aU λj hj=> ?_
  have:=bt f1 j hj
  unfold sB dG ra at this ⊢
  rw[hs,aj rfl]at this
  rw[o1,aj rfl,←zf,Ij _ (lT 6 25 0) k1 k2 h1,zf,zf,flat,jN]
  exact this
 have n8:decide (∀j,j<r'.length→kH b.1 b.2.1 r' j)=true:=aU λj hj=>by
  obtain⟨g0,g1,_⟩:=(sY h2).2.1 _ (qM (d:=ba) hj)
  rw[g0]at g1
  exact Im (Q:=Ik b.1 b.2.1) q8 (λx hx=>(ge x hx).2) g1
 have n9:decide (∀j,j<s'.length→jQ c b.2.1 s' j)=true:=aU λj hj=>by
  obtain⟨g0,g1,_⟩:=(sY h1).2.1 _ (qM (d:=ba) hj)
  rw[g0]at g1
  exact Im (Q:=Il c b.2.1) q9 (λx hx=>(gs x hx).2) g1
 unfold df
 simp only[bM]
 exact⟨b1,b2,o2,n4,n5,b6,b7,n8,n9,b10,b11⟩
end VM
end
section
namespace VM
open Go VM.F
theorem ji{α:Type}{l:List α}{d:α}{i:Nat}(h:i<l.length):l.getD i d=l[i]:=by
 rw[aV,bo h];rfl
theorem gS{α:Type}{d:α}{l:List α}{Q:α→Prop}:(∀j,j<l.length→Q (l.getD j d))↔ ∀x∈l,Q x:=
 ⟨λh x hx=>by
  obtain⟨i,hi,e⟩:=gE hx
  rw[←e,←ji (d:=d) hi];exact h i hi,λh j hj=>h _ (qM hj)⟩
theorem px{α:Type}{d:α}{R:α→α→Prop}(tr: ∀a b c,R a b→R b c→R a c): ∀l:List α,(∀j,j<l.length→0<j→R (l.getD (j-1) d) (l.getD j d))↔l.Pairwise R
 |[]=>⟨λ_=>List.Pairwise.nil,λ_ j hj=>nomatch hj⟩
 |[x]=>⟨λ_=>FZ R x,λ_ j hj h0=>by have:j<1:=hj;omega⟩
 |x::y::t=>by
  rw[eP,←px tr (y::t)]
  constructor
  ·intro h
   have XP:R x y:=h 1 (by simp) ω
   have ht: ∀j,j<(y::t).length→0<j→R ((y::t).getD (j-1) d) ((y::t).getD j d):=λj hj h0=>by
    have:=h (j+1) (by simpa using hj) ω
    obtain⟨k,rfl⟩: ∃k,j=k+1:=⟨j-1,ω⟩
    exact this
   have hp:=(px tr (y::t)).1 ht
   refine⟨λz hz=> ?_,ht⟩
   rcases a8.1 hz with rfl|hz
   ·exact XP
   ·exact tr _ _ _ XP ((eP.1 hp).1 z hz)
  ·rintro⟨h1,h2⟩ j hj h0
   obtain⟨k,rfl⟩: ∃k,j=k+1:=⟨j-1,ω⟩
   cases k with
   |zero=>exact h1 y (bq ..)
   |succ k=>exact h2 (k+1) (by simpa using hj) ω
def aaB(x y:BK):Prop:=lF x.1 y.1
def P9(x y:cG):Prop:=lF x.1 y.1
def K6(x y:fV):Prop:=lF x.1 y.1
theorem Dp{a b c:Int}(h1:lF a b)(h2:lF b c):lF a c:=Int.lt_trans h1 h2
def aaC(a b:Int):Prop:=1≤a∧a≤12∧1≤b∧b≤4
theorem gV{m:aE}:dN m=true↔(∀x∈m,aaC x.1 x.2.1)∧m.Pairwise aaB:=by
 unfold dN
 rw[fA,fP,←px (R:=aaB) (d:=da) (λ_ _ _=>Dp),←gS (d:=da)]
 exact⟨λh=>⟨λj hj=>⟨(h j hj).1,(h j hj).2.1,(h j hj).2.2.1,(h j hj).2.2.2.1⟩,λj hj h0=>(h j hj).2.2.2.2 h0⟩,λh j hj=>⟨(h.1 j hj).1,(h.1 j hj).2.1,(h.1 j hj).2.2.1,(h.1 j hj).2.2.2,λh0=>h.2 j hj h0⟩⟩
def aqG(x y:cG):Prop:=dG x.2.2.1 1∧dG y.2.2.1 1∧dG x.2.1 y.2.1
def Tm(x:cG):Prop:=nf x.1 x.2.1 x.2.2.1 x.2.2.2.1
def ntw(x y:cG):Prop:= ¬aqG x y
theorem qp{a:aO}:gP a=true↔(∀x∈a,Tm x)∧a.Pairwise P9∧a.Pairwise ntw:=by
 unfold gP
 rw[fA,fP,←px (R:=P9) (d:=bb) (λ_ _ _=>Dp),←gS (d:=bb),vq]
 constructor
 ·refine λh=>⟨λj hj=>(h j hj).1,λj hj h0=>(h j hj).2.1 h0,λi j hi hj qy ht=>(h j hj).2.2 ⟨?_,xZ.2 ⟨i,qy,?_,?_⟩⟩⟩
  ·rw[ji hj];exact ht.2.1
  ·rw[ji hi];exact ht.1
  ·rw[ji hi,ji hj];exact ht.2.2
 ·rintro⟨h1,h2,h3⟩ j hj
  refine⟨h1 j hj,λh0=>h2 j hj h0,λ⟨ht,ho⟩=> ?_⟩
  obtain⟨i,qy,e1,e2⟩:=xZ.1 ho
  rw[ji hj]at ht e2
  rw[ji (show i<a.length by omega)]at e1 e2
  exact h3 i j ω hj qy ⟨e1,ht,e2⟩
theorem lz{l:aY}:dn l=true↔(∀x∈l,qT x)∧l.Pairwise K6∧l.length≤32:=by
 unfold dn
 rw[c5,fP,fP,←px (R:=K6) (d:=eF) (λ_ _ _=>Dp),←gS (d:=eF)]
 exact⟨λh=>⟨λj hj=>(h.1 j hj).1,λj hj h0=>(h.1 j hj).2 h0,h.2⟩,λh=>⟨λj hj=>⟨h.1 j hj,λh0=>h.2.1 j hj h0⟩,h.2.2⟩⟩
def jV(m:aE)(n:Int):Prop:= ∃x∈m,dG x.1 n
def ru(a:aO)(n:Int):Prop:= ∃x∈a,dG x.1 n
theorem gW{n:Int}: ∀{m:aE},(∀x∈m,aaC x.1 x.2.1)→(¬dG (kG n m) 0↔jV m n)
 |[],_=>⟨λh=>absurd rfl h,λ⟨_,h,_⟩=>nomatch h⟩
 |x::t,h=>by
  have ih:=gW (n:=n) λy hy=>h y (aZ _ hy)
  have hx:=h x (bq ..)
  rw[vQ]
  by_cases e:x.1=n
  ·rw[aj e]
   have g: ∀v:Int,1≤v→ ¬dG v 0:=λv h1 h2=>by unfold dG at h2;omega
   exact⟨λ_=>⟨x,bq ..,e⟩,λ_=>g _ hx.2.2.1⟩
  ·rw[ah e,ih]
   exact⟨λ⟨y,hy,h⟩=>⟨y,aZ _ hy,h⟩,λ⟨y,hy,h'⟩=>(a8.1 hy).elim (λk=>absurd (k▸h') e) λhy=>⟨y,hy,h'⟩⟩
theorem Dq{n:Int}: ∀{a:aO},(uY n a).2=true↔ru a n
 |[]=>⟨λh=>(nomatch h),λ⟨_,h,_⟩=>nomatch h⟩
 |x::t=>by
  rw[pa]
  by_cases e:x.1=n
  ·rw[aj e]
   exact⟨λ_=>⟨x,bq ..,e⟩,λ_=>rfl⟩
  ·rw[ah e,Dq]
   exact⟨λ⟨y,hy,h⟩=>⟨y,aZ _ hy,h⟩,λ⟨y,hy,h'⟩=>(a8.1 hy).elim (λk=>absurd (k▸h') e) λhy=>⟨y,hy,h'⟩⟩
theorem wy{m:aE}(h:dN m=true)(n:Int): ¬dG (gJ m n) 0↔jV m n:=by
 unfold gJ;rw[aj h];exact gW (gV.1 h).1
theorem qq{a:aO}(h:gP a=true)(n:Int):(eS a n).2=true↔ru a n:=by
 unfold eS;rw[aj h];exact Dq
def ki(m:aE)(a:aO)(k n:Int):Prop:=(dG k 5→ru a n)∧(dG k 6∨dG k 7→jV m n)
def zM(c:ae)(a:aO)(k n:Int):Prop:=(dG k 0∨ru a k)∧lF n c.1.length
def Io(c:ae)(a:aO)(x:fV):Prop:=ru a x.2.1∧lF x.2.2.1 c.1.length
theorem ML{m:aE}{a:aO}(hm:dN m=true)(ha:gP a=true){k n:Int}:Ik m a k n↔ki m a k n:=by
 unfold Ik ki;rw[qq ha,wy hm]
theorem MM{c:ae}{a:aO}(ha:gP a=true){k n:Int}:Il c a k n↔zM c a k n:=by
 unfold Il zM;rw[qq ha]
structure RB(C:ae)(b:an):Prop where
 c:eJ C=true
 m:dN b.1=true
 a:gP b.2.1=true
 ma: ∀x∈b.2.1,jV b.1 x.2.1
 r:eK b.2.2.1=true
 t:dG (gQ b.2.2.1) 0
 s:oj b.2.2.2.1=true
 o:dn b.2.2.2.2.2.1=true
 n:dG b.2.2.2.2.1.length C.1.length
 rk: ∀x∈b.2.2.1,ki b.1 b.2.1 x.1 x.2.1
 sk: ∀x∈b.2.2.2.1,zM C b.2.1 x.1 x.2.1
 ok: ∀x∈b.2.2.2.2.2.1,Io C b.2.1 x
 p:fe b.2.2.2.2.1=true
theorem ot{c:ae}{b:an}:df c b=true↔RB c b:=by
 unfold df sA
 simp only[bM,fA,fP]
 constructor
 ·rintro⟨b1,⟨b2,b2',alq⟩,b3,b4,b5,b6,b7,b8,b9,b10,b11⟩
  refine⟨b1,b2,b2',?_,b3,b4,b5,b6,b7,?_,?_,?_,b11⟩
  ·exact(gS (d:=bb) (Q:=λx=>jV b.1 x.2.1)).1 λj hj=>(gW (gV.1 b2).1).1 (alq j hj)
  ·exact(gS (d:=ba) (Q:=λx=>ki b.1 b.2.1 x.1 x.2.1)).1 λj hj=>(ML b2 b2').1 (b8 j hj)
  ·exact(gS (d:=ba) (Q:=λx=>zM c b.2.1 x.1 x.2.1)).1 λj hj=>(MM b2').1 (b9 j hj)
  ·exact(gS (d:=eF) (Q:=λx=>Io c b.2.1 x)).1 λj hj=>⟨(qq b2' _).1 (b10 j hj).1,(b10 j hj).2⟩
 ·rintro⟨b1,b2,b2',alq,b3,b4,b5,b6,b7,b8,b9,b10,b11⟩
  refine⟨b1,⟨b2,b2',?_⟩,b3,b4,b5,b6,b7,?_,?_,?_,b11⟩
  ·exact λj hj=>(gW (gV.1 b2).1).2 ((gS (d:=bb) (Q:=λx=>jV b.1 x.2.1)).2 alq j hj)
  ·exact λj hj=>(ML b2 b2').2 ((gS (d:=ba) (Q:=λx=>ki b.1 b.2.1 x.1 x.2.1)).2 b8 j hj)
  ·exact λj hj=>(MM b2').2 ((gS (d:=ba) (Q:=λx=>zM c b.2.1 x.1 x.2.1)).2 b9 j hj)
  ·exact λj hj=>let h:=(gS (d:=eF) (Q:=λx=>Io c b.2.1 x)).2 b10 j hj;⟨(qq b2' _).2 h.1,h.2⟩
theorem RB.Xk{c:ae}{b:an}(h:RB c b){m:aE}{a:aO}(hm:dN m=true)(ha:gP a=true)(mm: ∀n,jV b.1 n→jV m n)(aa: ∀n,ru b.2.1 n→ru a n)(ma: ∀x∈a,jV m x.2.1):
  RB c (m,(a,b.2.2)):=
 ⟨h.c,hm,ha,ma,h.r,h.t,h.s,h.o,h.n,λx hx=>⟨λe=>aa _ ((h.rk x hx).1 e),λe=>mm _ ((h.rk x hx).2 e)⟩,λx hx=>⟨(h.sk x hx).1.imp id (aa _),(h.sk x hx).2⟩,λx hx=>⟨aa _ (h.ok x hx).1,(h.ok x hx).2⟩,h.p⟩
theorem RB.MN{c:ae}{b:an}(h:RB c b){o:aY}(ho:dn o=true)(hk: ∀x∈o,Io c b.2.1 x):RB c (b.1,(b.2.1,(b.2.2.1,(b.2.2.2.1,(b.2.2.2.2.1,(o,())))))):=
 ⟨h.c,h.m,h.a,h.ma,h.r,h.t,h.s,ho,h.n,h.rk,h.sk,hk,h.p⟩
theorem RB.aqI{c:ae}{b:an}(h:RB c b){s e s' r':au}(h1:dL Fq (fS b.2.2.2.1 s) iW=some s')(h2:dL aF (fS b.2.2.1 e) lY=some r')
  (gs: ∀x∈s,bY x.1 x.2.1∧zM c b.2.1 x.1 x.2.1) (flat: ∀i:Int,(dg i s).sum=0) (ge: ∀x∈e,db x.1 x.2.1∧ki b.1 b.2.1 x.1 x.2.1) (zero:(e.map dJ).sum=0):RB c (b.1,(b.2.1,(r',(s',b.2.2.2.2)))):=
 ot.1 (MK (ot.2 h) h1 h2 (λx hx=>⟨(gs x hx).1,(MM h.a).2 (gs x hx).2⟩) flat (λx hx=>⟨(ge x hx).1,(ML h.m h.a).2 (ge x hx).2⟩) zero)
abbrev RBs(c:ae)(b b':an):Prop:=RB c b'∧b'.1=b.1∧b'.2.1=b.2.1∧b'.2.2.2.2=b.2.2.2.2
theorem RB.cc{c:ae}{b:an}(h:RB c b){s e:au}(gs: ∀x∈s,bY x.1 x.2.1∧zM c b.2.1 x.1 x.2.1)(flat: ∀i:Int,(dg i s).sum=0)
  (ge: ∀x∈e,db x.1 x.2.1∧ki b.1 b.2.1 x.1 x.2.1) (zero:(e.map dJ).sum=0) (h0:(VM.cc b s e).2=0):RBs c b (VM.cc b s e).1:=by
 rcases sC b s e with⟨h1,_⟩|⟨s',r',h1,h2,h3⟩
 ·rw[h1]at h0;exact absurd h0 δ
 ·rw[h3];exact⟨h.aqI h1 h2 gs flat ge zero,rfl,rfl,rfl⟩
theorem zg: ∀{l:au} {x:de},sE (l.map keyOf)→x∈l→gR x.1 x.2.1 l=dJ x
 |[],_,_,h=>nomatch h
 |y::t,x,hs,h=>by
  obtain⟨h1,h2⟩:=eP.1 hs
  rw[iK]
  rcases a8.1 h with rfl|h
  ·rw[aj rfl,aj rfl];rfl
  ·have kq: ¬(y.1=x.1∧y.2.1=x.2.1):=λe=>by
    have hk:=h1 (keyOf x) (fh h)
    have he:keyOf y=keyOf x:=iC e.1 e.2
    rw[he]at hk
    exact ow hk
   by_cases e1:y.1=x.1
   ·rw[aj e1,ah (λe2=>kq ⟨e1,e2⟩)];exact zg h2 h
   ·rw[ah e1];exact zg h2 h
theorem Dr{P:Int→Prop} [DecidablePred P]{f:Int→Int→Int}: ∀{t:au},(∀x∈t,f x.1 x.2.1=dJ x∧dJ x≠0∧P (dJ x))→dL P f (t.map keyOf)=some t
 |[],_=>rfl
 |x::t,h=>by
  obtain⟨h1,h2,h3⟩:=h x (bq ..)
  rw[bQ,ix]
  show(if P (f x.1 x.2.1)then(dL P f (t.map keyOf)).map (λo=>if f x.1 x.2.1=0 then o else(x.1,(x.2.1,(f x.1 x.2.1,())))::o)else none)=_
  rw[h1,aj h3,Dr λy hy=>h y (aZ _ hy),Option.map_some,ah h2];rfl
theorem adY{l:au}(h:eK l=true): ∀x∈l,dJ x≠0:=by
 unfold eK at h
 rw[fA]at h
 exact(gS (d:=ba) (Q:=λx=>dJ x≠0)).1 λj hj=>((bt h) j hj).2.1
theorem Xl{l:au}(h:eK l=true)(hq:dV l):dL aF (fS l []) lY=some l:=by
 rw[←Pe (E:=[]) h (λx hx=>nomatch hx)]
 exact Dr λx hx=>⟨by
  unfold fS
  rw[u2,jN,←nE (lx h).1]
  exact zg (lx h).1 hx,adY h x hx,hq x hx⟩
theorem K7{l:au}(h:c6 l=true): ∀x∈l,dJ x≠0:=by
 unfold c6 at h
 rw[fA]at h
 exact(gS (d:=ba) (Q:=λx=>dJ x≠0)).1 λj hj=>((bt h) j hj).2.1
theorem Hr{l:au}(h:c6 l=true)(hq:dV l):dL Fq (fS l []) iW=some l:=by
 rw[←Kw (E:=[]) h (λx hx=>nomatch hx)]
 exact Dr λx hx=>⟨by
  unfold fS
  rw[u2,jN,←nE (dM h).1]
  exact zg (dM h).1 hx,K7 h x hx,hq x hx,((dM h).2 x hx).2⟩
theorem SM{b:an}{s e:au}(hr:eK b.2.2.1=true)(hs:c6 b.2.2.2.1=true)(qr:dV b.2.2.1)(qs:dV b.2.2.2.1)(h1: ∀a i,cO a i s=0)(h2: ∀a i,cO a i e=0):cc b s e=(b,0):=by
 have e1:fS b.2.2.2.1 s=fS b.2.2.2.1 []:=by funext a i;unfold fS;rw[h1,u2]
 have e2:fS b.2.2.1 e=fS b.2.2.1 []:=by funext a i;unfold fS;rw[h2,u2]
 unfold VM.cc
 rw[e1,e2,Hr hs qs,Xl hr qr]
end VM
end
section
namespace VM
open Go VM.F Go.RowKit
theorem aaD{c:ae}{b:an}(hR:RB c b)(a:Int):pe c (posOf b.2.2.2.1 a)=true:=by
 have hk:=(dE (ot.2 hR)).2
 obtain⟨h1,h2⟩:=dM hk
 have e:posOf b.2.2.2.1 a=nj a b.2.2.2.1:=by unfold posOf;rw[aj hk]
 rw[e]
 have hs:(nj a b.2.2.2.1).Pairwise (λx y:BK=>lF x.1 y.1):=uA.1 (Ek (a:=a) h1)
 have hc:=(px (R:=λx y:BK=>lF x.1 y.1) (d:=da) (λ_ _ _=>Dp) _).2 hs
 unfold pe
 refine c5.2 ⟨aU λj hj=> ?_,hR.c⟩
 obtain⟨x,hx,_,e⟩:=nk (qM (d:=da) hj)
 have hp:=hc j hj
 unfold oq
 rw[e]at hp ⊢
 exact⟨(h2 x hx).1.2.2.1,(hR.sk x hx).2,K7 hk x hx,(h2 x hx).2,λh0=>hp h0⟩
end VM
end
section
namespace VM
open Go VM.F
def dA(inst d:Int):au→au
 |[]=>[]
 |x::t=>if x.2.1=inst∧d≠0 then mK x.1 (dJ x*d)::dA inst d t else dA inst d t
theorem jK(inst d:Int)(x:de)(t:au):dA inst d (x::t)=if x.2.1=inst∧d≠0 then mK x.1 (dJ x*d)::dA inst d t else dA inst d t:=rfl
theorem Ip(inst d:Int): ∀l:au,(dA inst d l).length≤l.length
 |[]=>aH _
 |x::t=>by
  have:=Ip inst d t
  rw[jK]
  split<;>simp only[aT]<;>omega
theorem Iq(inst d:Int): ∀l:au,((dA inst d l).map dJ).sum=(if d≠0 then(dg inst l).sum*d else 0)
 |[]=>by simp[dA,dg]
 |x::t=>by
  have:=Iq inst d t
  rw[jK,dx]
  by_cases hd:d≠0
  ·rw[aj hd]at this ⊢
   by_cases hx:x.2.1=inst
   ·rw[aj ⟨hx,hd⟩,aj hx,bQ,cE,cE,fX,this,nX]
   ·rw[ah (λh=>hx h.1),ah hx,this]
  ·rw[ah hd]at this ⊢
   rw[ah (λh=>hd h.2),this]
theorem wz{inst d:Int}: ∀{l:au} {y:de},y∈dA inst d l→ ∃x∈l,x.2.1=inst∧y=mK x.1 (dJ x*d)
 |[],y,h=>nomatch h
 |x::t,y,h=>by
  rw[jK]at h
  split at h
  ·rename_i hx
   rcases a8.1 h with e|h
   ·exact⟨x,bq ..,hx.1,e⟩
   ·obtain⟨z,h1,h2⟩:=wz h
    exact⟨z,aZ _ h1,h2⟩
  ·obtain⟨z,h1,h2⟩:=wz h
   exact⟨z,aZ _ h1,h2⟩
def pL(l:au)(inst oN new:Int):au×Int:=if c6 l then(if cF oN then(if cF new then(dA inst (new-oN) l,0)else([],1))else([],1))else([],1)
theorem Qa(N:Nat){l:au}(hq:dV l)(hl:l.length≤100000)(hN:200000≤N)(inst:Int){oN new:Int}(ho:cF oN)(hn:cF new):
  qt.l5 N N inst oN new [] l (l.length:Int) 0=some ((dA inst (new-oN) l).map iJ,0):=by
 have hp: -9223372036854775808≤new-oN∧new-oN<9223372036854775808:=by unfold cF at ho hn;omega
 have:=nH l ba (λn i s=>qt.l5 N n inst oN new (s.map iJ) l (l.length:Int) i) (λt s=>some ((s++dA inst (new-oN) t).map iJ,(0:Int))) (λi (s:au)=>s.length≤i) (λn i s hi hI hr=> ?_) (λn s hI=> ?_) l.length N 0 [] ω ω ω (aH _)
 ·have e:=this
  rw[cQ,cM]at e
  exact e
 ·unfold qt.l5 qt.eA
  have nh:=vS hq i
  unfold aF dJ at nh
  rw[aR ω,ak,aW ω ω,ak,aI,aw (x:=(i:Int)+1) ω ω,af i,aL,cond_not,aL,jK]
  by_cases hx:(l.getD i ba).2.1=inst
  ·rw[aj hx]
   by_cases hd:new=oN
   ·rw[aj hd,ah (λh=>h.2 ω)]
    exact hr s ω
   ·rw[ah hd,aj ⟨hx,ω⟩,aw (x:=new-oN) hp.1 hp.2,L0 N nh.1 nh.2 hp.1 hp.2,ar,Db,ar,bS (by rw[cD,aK];omega),ak]
    have h2:=hr (s++[mK (l.getD i ba).1 ((l.getD i ba).2.2.1*(new-oN))]) (by rw[aS,aK];omega)
    rw[dj]at h2
    refine Eq.trans h2 ?_
    rw[bE];rfl
  ·rw[ah hx,ah (λh=>hx h.1)]
   exact hr s ω
 ·unfold qt.l5 qt.eA
  rw[aP ω,av,show dA inst (new-oN) []=[]from rfl,cw]
theorem Xm(N:Nat){l:au}(hq:dV l)(hl:l.length≤100000)(hN:200000≤N)(inst oN new:Int):
  qt N l inst oN new=some ((pL l inst oN new).1.map iJ,(pL l inst oN new).2):=by
 unfold qt qt.b pL
 rw[xY N hl hN,ar,sH,ar,sH,ar,cond_not,cond_not,cond_not]
 cases c6 l
 ·rfl
 ·by_cases ho:cF oN
  ·by_cases hn:cF new
   ·rw[aU ho,aU hn,aj ho,aj hn]
    exact Qa N hq hl hN inst ho hn
   ·rw[aU ho,bu hn,aj ho,ah hn];rfl
  ·rw[bu ho,ah ho];rfl
theorem MO{x:Int}(h:aF x):Fit x 90000:=(Fit.i64 h.1 h.2).mono ω
theorem Qb(N:Nat){l:au}(hq:dV l)(hl:l.length≤100000)(hN:4000000≤N)(inst:Int){d:Int}(hd:aF d):
  kf.l6 N N l inst [] (dz d) 0=some ((dA inst d l).map gG,0):=by
 have:=nH l ba (λn i s=>kf.l6 N n l inst (s.map gG) (dz d) i) (λt s=>some ((s++dA inst d t).map gG,(0:Int))) (λi (s:au)=>s.length≤i) (λn i s hi hI hr=> ?_) (λn s hI=> ?_) l.length N 0 [] ω ω ω (aH _)
 ·have e:=this
  rw[cQ,cM]at e
  exact e
 ·unfold kf.l6 kf.uU
  have nh:=vS hq i
  have hfq:=MO nh
  have Ss:=MO hd
  unfold aF dJ at nh
  unfold dJ at hfq
  rw[aR ω,ak,aW ω ω,ak,aI,aw (x:=(i:Int)+1) ω ω,af i,cond_not,aL,jK]
  by_cases hx:(l.getD i ba).2.1=inst
  ·rw[aj hx,ob,ar,aL]
   by_cases h0:d=0
   ·rw[aj (jz.2 h0),ah (λh=>h.2 h0)]
    exact hr s ω
   ·rw[ah (λh=>h0 (jz.1 h)),aj ⟨hx,h0⟩,ak,y6 _ (dJ (l.getD i ba)*d),ar,ak,dC N ω nh.1 nh.2,ar,xW N hN hfq Ss,ar,bS (by rw[cD,aK];omega),ak]
    have h2:=hr (s++[mK (l.getD i ba).1 (dJ (l.getD i ba)*d)]) (by rw[aS,aK];omega)
    rw[dj]at h2
    have e1:[mK (l.getD i ba).1 (dJ (l.getD i ba)*d)].map gG=[((mK (l.getD i ba).1 (dJ (l.getD i ba)*d)).1,((mK (l.getD i ba).1 (dJ (l.getD i ba)*d)).2.1,(dz ((l.getD i ba).2.2.1*d),())))]:=by
     rw[bQ,gM];unfold gG;rw[fX];rfl
    rw[e1]at h2
    refine Eq.trans h2 ?_
    rw[bE];rfl
  ·rw[ah hx,ah (λh=>hx h.1)]
   exact hr s ω
 ·unfold kf.l6 kf.uU
  rw[aP ω,av,show dA inst d []=[]from rfl,cw]
theorem Xn(N:Nat){l:au}(hq:dV l)(hl:l.length≤100000)(hN:4000000≤N)(inst oN new:Int):
  kf N l inst oN new=some ((pL l inst oN new).1.map gG,(pL l inst oN new).2):=by
 unfold kf kf.b pL
 rw[lR N hl ω,ar,sG,ar,sG,ar,cond_not,cond_not,cond_not]
 cases c6 l
 ·rfl
 ·by_cases ho:cF oN
  ·by_cases hn:cF new
   ·have h1:=ho
    have h2:=hn
    unfold cF at h1 h2
    rw[aU ho,aU hn,aj ho,aj hn,dC N ω ω ω,ar,dC N ω ω ω,ar,
     tM N hN ((MO (x:=new) (by unfold aF;omega)).mono ω) ((MO (x:=oN) (by unfold aF;omega)).mono ω),ar]
    exact Qb N hq hl hN inst (by unfold aF;omega)
   ·rw[aU ho,bu hn,aj ho,ah hn];rfl
  ·rw[bu ho,ah ho];rfl
theorem aqK{q x:Int}(h0:0≤x)(h1:x<9223372036854775808):aF (sg q x)∧q7 (sg q x):=by
 unfold sg aF q7;split<;>omega
theorem aaE{t left:Int}{w out:List Int}(f:Full t w w out left)(i:Nat)(hi:i<w.length):0≤out.getD i 0∧out.getD i 0<9223372036854775808:=by
 have c:=f.c
 have h1:=c.le i hi
 have h2:=(c.pc i).2
 have h3:=c.po i
 omega
theorem Xo(N:Nat){a q:Int}{accs out:List Int}(hl:accs.length=out.length)(hle:out.length≤1000)(ho: ∀i,i<out.length→0≤out.getD i 0∧out.getD i 0<9223372036854775808)(s:au)(hs:s.length≤1000)(hN:200000≤N):
  gh.Xe N N a q accs out s 0=some (s++zc a q (out.zip accs),0):=by
 have hz:(out.zip accs).length=out.length:=by rw[xi];omega
 have:=nH (out.zip accs) (0,0) (λn i s=>gh.Xe N n a q accs out s i) (λt s=>some (s++zc a q t,(0:Int))) (λi (s:au)=>s.length≤1000+i) (λn i s hi hI hr=> ?_) (λn s hI=> ?_) out.length N 0 s ω ω ω ω
 ·exact this
 ·unfold gh.Xe gh.aau
  have nZ:i<out.length:=ω
  have h2:=ho i nZ
  rw[aR ω,ak,aW ω ω,ak,aI,aW ω ω,ak,aw (x:=(i:Int)+1) ω ω,af i,aw (x:=0-out.getD i 0) ω ω,ZX nZ ω,FL]
  dsimp only
  rw[ak,bS (by rw[aK];omega),ak,bS (by rw[aK];omega),ak]
  have e:sg q (out.getD i 0)=if q<0 then 0-out.getD i 0 else out.getD i 0:=rfl
  rw[cy,cond_not,cond_not,aL,aL]
  have fin:(if sg q (out.getD i 0)=0 then gh.Xe N n a q accs out s ((i+1:Nat):Int)else gh.Xe N n a q accs out (s++[(accs.getD i 0,(a,(sg q (out.getD i 0),())))]) ((i+1:Nat):Int))=some (s++(if sg q (out.getD i 0)=0 then zc a q ((out.zip accs).drop (i+1))else(accs.getD i 0,(a,(sg q (out.getD i 0),())))::zc a q ((out.zip accs).drop (i+1))),(0:Int)):=by
   by_cases h:sg q (out.getD i 0)=0
   ·rw[aj h,aj h];exact hr s ω
   ·rw[ah h,ah h,hr _ (by rw[aS,aK];omega),bE];rfl
  refine Eq.trans ?_ fin
  by_cases h:q<0
  ·rw[aj h,e,aj h]
  ·rw[ah h,e,ah h]
 ·unfold gh.Xe gh.aau
  rw[hz,aP ω,av]
  show _=some (s++[],(0:Int))
  rw[cw]
theorem U8{l:au}(h: ∀x∈l,aF (dJ x)∧q7 (dJ x))(a b:Int):aF (gb l a b)∧q7 (gb l a b):=by
 have key: ∀l:au,(∀x∈l,aF (dJ x)∧q7 (dJ x))→aF (gR a b l)∧q7 (gR a b l):=by
  intro l
  induction l with
  |nil=>intro _;show aF 0∧q7 0;decide
  |cons x t ih=>
   intro h
   have ih:=ih (λy hy=>h y (aZ _ hy))
   rw[iK]
   split
   ·split
    ·exact h x (bq ..)
    ·exact ih
   ·exact ih
 unfold gb
 split
 ·exact key l h
 ·decide
theorem MP(l:au):(zL l).length=l.length:=cD ..
theorem Cd(l:au):(jR l).length=l.length:=cD ..
theorem K8{q:Int}(h:aF q∧q7 q):(q.natAbs:Int)<9223372036854775808:=by unfold aF q7 at h;omega
theorem MQ{l:au}(hk:c6 l=true)(hq:dV l): ∀x∈l,aF (dJ x)∧q7 (dJ x):=λx hx=>⟨hq x hx,((dM hk).2 x hx).2⟩
theorem K9{l:au}(hk:c6 l=true)(hq:dV l){a q:Int}(nh:aF q∧q7 q)(hc:(kK l a q).2.2=0):
  Full (q.natAbs:Int) (jR (gv a q l)) (jR (gv a q l)) (kK l a q).1 (kK l a q).2.1∧(kK l a q).1.length=(gv a q l).length∧(kK l a q).1.length≤64∧ ∀i,i<(kK l a q).1.length→0≤(kK l a q).1.getD i 0∧(kK l a q).1.getD i 0<9223372036854775808:=by
 have f:Full (q.natAbs:Int) (jR (gv a q l)) (jR (gv a q l)) (kK l a q).1 (kK l a q).2.1:=HU (K8 nh) (De (MQ hk hq) a q) hc
 have h1:=f.c.l2
 have h2:=f.c.n
 rw[Cd]at h1 h2
 exact⟨f,h1,ω,λi hi=>aaE f i (by rw[Cd];omega)⟩
theorem aaF{l:au}(h:c6 l=true): ∀x∈l,dJ x≠0:=λx hx=>by
 unfold c6 at h
 rw[fA]at h
 obtain⟨i,hi,e⟩:=gE hx
 have:=bt h i hi
 unfold mJ m9 at this
 rw[aV,bo hi]at this
 simp only[nR,e]at this
 exact this.2.1
theorem aaG{x:Int}(h:aF x∧q7 x):mx x (W .i64 (0-x))=(x.natAbs:Int):=by
 unfold aF q7 at h
 rw[aw ω ω,aiM];split<;>omega
theorem Qc{x q:Int}(hx:x≠0)(hq:q≠0):JE x q↔ ¬((0<x)↔(0<q)):=by
 unfold JE;omega
theorem aaH(N:Nat)(hN:5000000≤N)(c:ae){b:an}(w:om b)(a:Int):gh N c b a=some (wk c b a):=by
 unfold gh gh.b wk
 rw[BP N ω w,ar,FK N w.s ω,ar,cond_not,cy,cz,aL]
 by_cases hB:df c b=false
 ·rw[hB];rfl
 rw[rR]at hB
 rw[hB,ak,aj rfl]
 obtain⟨_,hk⟩:=dE hB
 have hq:=MQ hk w.qs
 have hnz:=aaF hk
 have hh:=U8 hq 0 a
 have hlen:=w.s
 have hqs:=w.qs
 generalize gb b.2.2.2.1 0 a=q at*
 by_cases h1:a<0
 ·rw[aj h1,aj h1]
 rw[ah h1,ah h1]
 by_cases h2:(c.1.length:Int)≤a
 ·rw[aj h2,aj h2]
 rw[ah h2,ah h2]
 by_cases h3:q=0
 ·rw[aj h3,aj h3]
 rw[ah h3,ah h3]
 have oL:=hh.1
 unfold aF at oL
 have hqn:q≠ -9223372036854775808:=hh.2
 have:=nH b.2.2.2.1 ba (λn i (z:au)=>gh.Al N n a b q (zL z) (jR z) i)
  (λt z=>some (if(kK b.2.2.2.1 a q).2.2=0 then(adl b.2.2.2.1 a q,0)else([],(kK b.2.2.2.1 a q).2.2))) (λi z=>z++gv a q (b.2.2.2.1.drop i)=gv a q b.2.2.2.1∧z.length≤i)
  (λn i z hi hI hr=> ?_) (λn z hI=> ?_) b.2.2.2.1.length N 0 [] ω ω ω ⟨rfl,aH _⟩
 ·exact this
 ·unfold gh.Al gh.yf
  obtain⟨i1,i2⟩:=hI
  have hm:b.2.2.2.1.getD i ba∈b.2.2.2.1:=by
   rw[aV,bo hi];exact dO hi
  have hx:=hq _ hm
  have hn:=hnz _ hm
  rw[drop_cons hi ba,sL]at i1
  rw[aR ω,ak,aW ω ω,ak,aI,aw (x:=(i:Int)+1) ω ω,af i]
  generalize b.2.2.2.1.getD i ba=x at*
  have Nj:mx x.2.2.1 (W .i64 (0-x.2.2.1))=(x.2.2.1.natAbs:Int):=aaG hx
  rw[bS (by rw[MP,aK];omega),ak,Nj]
  dsimp only
  rw[bS (by rw[Cd,aK];omega),ak,cond_not,aL,aL,cond_not,p3,qw,qw]
  by_cases e1:x.1=0
  ·rw[aj e1]
   rw[ah (λh=>h.1 e1)]at i1
   exact hr z ⟨i1,ω⟩
  ·rw[ah e1]
   by_cases e2:x.2.1=a
   ·rw[aj e2]
    by_cases e3:JE (dJ x) q
    ·have eb:(decide (0<x.2.2.1)==decide (0<q))=false:=by
      have e3:=(Qc hn h3).1 e3
      unfold dJ at e3
      by_cases g1:0<x.2.2.1<;>by_cases g2:0<q
      ·exact absurd ⟨λ_=>g2,λ_=>g1⟩ e3
      ·rw[aU g1,bu g2];rfl
      ·rw[bu g1,aU g2];rfl
      ·exact absurd ⟨λh=>absurd h g1,λh=>absurd h g2⟩ e3
     rw[eb,av]
     rw[aj ⟨e1,e2,e3⟩]at i1
     have:=hr (z++[x]) ⟨by rw[bE];exact i1,by rw[aS,aK];omega⟩
     unfold zL jR at this
     rw[dj,dj]at this
     exact this
    ·have eb:(decide (0<x.2.2.1)==decide (0<q))=true:=by
      have e3:=F9.1 (λh=>e3 ((Qc hn h3).2 h))
      unfold dJ at e3
      rw[show decide (0<x.2.2.1)=decide (0<q)from nU.2 e3]
      exact AS _
     rw[eb,ak]
     rw[ah (λh=>e3 h.2.2)]at i1
     exact hr z ⟨i1,ω⟩
   ·rw[ah e2]
    rw[ah (λh=>e2 h.2.1)]at i1
    exact hr z ⟨i1,ω⟩
 ·unfold gh.Al gh.yf
  obtain⟨i1,i2⟩:=hI
  rw[mW]at i1
  have ez:z=gv a q b.2.2.2.1:=by rw[←i1];exact(cw _).symm
  subst ez
  have qQ:=Cd (gv a q b.2.2.2.1)
  have Bl:=KQ a q b.2.2.2.1
  rw[aP ω,av,aaG hh,HT N hN (K8 hh) (De hq a q) (De hq a q) (by rw[qQ];omega),ar,cond_not,aL,aw (x:=0-q) ω ω]
  show(if(kK b.2.2.2.1 a q).2.2=0 then _ else _)=_
  by_cases h4:(kK b.2.2.2.1 a q).2.2=0
  ·rw[aj h4,aj h4]
   obtain⟨f,g1,g2,g3⟩:=K9 hk hqs hh h4
   exact Xo N (by rw[MP];omega) ω g3 _ (by simp) ω
  ·rw[ah h4,ah h4];rfl
end VM
end
section
namespace VM
open Go VM.F Go.RowKit
structure zN(s:au)(n:Nat):Prop where
 place: ∀x∈s,bY x.1 x.2.1
 q: ∀x∈s,aF (dJ x)∧q7 (dJ x)
 len:s.length≤n
 flat: ∀i:Int,(dg i s).sum=0
theorem zN.nil(n:Nat):zN [] n:=⟨λx hx=>(nomatch hx),λx hx=>(nomatch hx),bz _,λi=>rfl⟩
theorem zN.app{s t:au}{n m k:Nat}(a:zN s n)(b:zN t m)(h:n+m≤k):zN (s++t) k:=
 ⟨λx hx=>(bl.1 hx).elim (a.place x) (b.place x),λx hx=>(bl.1 hx).elim (a.q x) (b.q x),by rw[aS];have:=a.len;have:=b.len;omega,λi=>by rw[JD,nS,a.flat,b.flat];rfl⟩
theorem Tn(a q i:Int): ∀t:List (Int×Int),(dg i (zc a q t)).sum=if a=i then sg q (t.map (·.1)).sum else 0
 |[]=>by
  show(0:Int)=if a=i then sg q 0 else 0
  unfold sg;split<;>(try split)<;>rfl
 |p::t=>by
  have ih:=Tn a q i t
  have hs:sg q ((p::t).map (·.1)).sum=sg q p.1+sg q (t.map (·.1)).sum:=by
   rw[bQ,cE];unfold sg;split<;>omega
  rw[FL,hs]
  by_cases h:sg q p.1=0
  ·rw[aj h,ih,h];split<;>omega
  ·rw[ah h,dx]
   dsimp only
   by_cases e:a=i
   ·rw[aj e,aj e,cE,ih,aj e];rfl
   ·rw[ah e,ah e,ih,ah e]
theorem MR{a q:Int}{x:de}: ∀{t:List (Int×Int)},x∈zc a q t→ ∃p∈t,x=(p.2,(a,(sg q p.1,())))
 |[],h=>nomatch h
 |p::t,h=>by
  rw[FL]at h
  split at h
  ·obtain⟨p',hp,e⟩:=MR h
   exact⟨p',aZ _ hp,e⟩
  ·rcases a8.1 h with e|h
   ·exact⟨p,bq ..,e⟩
   ·obtain⟨p',hp,e⟩:=MR h
    exact⟨p',aZ _ hp,e⟩
theorem aaI(a q:Int): ∀t:List (Int×Int),(zc a q t).length≤t.length
 |[]=>aH _
 |p::t=>by
  have:=aaI a q t
  rw[FL,aT]
  split
  ·omega
  ·rw[aT];omega
theorem EB{c:ae}{b:an}(h:df c b=true):oj b.2.2.2.1=true∧eJ c=true:=by
 unfold df at h
 have h0:=c5.1 h
 have h1:=(c5.1 h0.2).2
 have h2:=c5.1 h1
 exact⟨(c5.1 (c5.1 h2.2).2).1,h0.1⟩
theorem aaJ{c:ae}{b:an}(hB:df c b=true)(w:om b){a:Int}(h:(wk c b a).2=0):zN (wk c b a).1 65:=by
 obtain⟨_,hk⟩:=dE hB
 obtain⟨hf,Bl⟩:=EB hB
 have hq:=MQ hk w.qs
 have hh:=U8 hq 0 a
 obtain⟨hs,EM⟩:=dM hk
 unfold wk at h ⊢
 rw[aj hB]at h ⊢
 by_cases h1:a<0
 ·rw[aj h1];exact zN.nil _
 rw[ah h1]at h ⊢
 by_cases h2:(c.1.length:Int)≤a
 ·rw[aj h2];exact zN.nil _
 rw[ah h2]at h ⊢
 by_cases h3:gb b.2.2.2.1 0 a=0
 ·rw[aj h3];exact zN.nil _
 rw[ah h3]at h ⊢
 by_cases h4:(kK b.2.2.2.1 a (gb b.2.2.2.1 0 a)).2.2=0
 ·rw[aj h4]
  have alr:gR 0 a b.2.2.2.1=gb b.2.2.2.1 0 a:=by unfold gb;rw[hk];rfl
  have hn6:a<6:=by
   unfold eJ at Bl
   have:=(bt (c5.1 Bl).1).2
   omega
  have hz:(dg a b.2.2.2.1).sum=0:=by
   unfold oj at hf
   have Uq:=bt (c5.1 hf).1 a.toNat (by unfold kt;omega)
   unfold sB dG ra at Uq
   rw[hk,aj rfl,show((a.toNat:Nat):Int)=a by omega]at Uq
   exact Uq
  generalize gb b.2.2.2.1 0 a=q at*
  obtain⟨f,g1,g2,g3⟩:=K9 hk w.qs hh h4
  have aqL:=ZW f (S6 hs hz alr h3)
  have JB:=f.c.s
  rw[aqL,jN]at JB
  have hzl:((kK b.2.2.2.1 a q).1.zip (zL (gv a q b.2.2.2.1))).map (·.1)=(kK b.2.2.2.1 a q).1:=List.map_fst_zip (by rw[MP];omega)
  have hsg:sg q (q.natAbs:Int)=q:=by unfold sg;split<;>omega
  have hzz: ∀x∈zc a q ((kK b.2.2.2.1 a q).1.zip (zL (gv a q b.2.2.2.1))),bY x.1 x.2.1∧aF (dJ x)∧q7 (dJ x):=λx hx=>by
   obtain⟨p,hp,rfl⟩:=MR hx
   obtain⟨i,hi,e⟩:=gE hp
   rw[xi]at hi
   have e':=ZX (out:=(kK b.2.2.2.1 a q).1) (accs:=zL (gv a q b.2.2.2.1)) (i:=i) ω ω
   rw[aV,bo (by rw[xi];omega)]at e'
   have ep:p=_:=e.symm.trans e'
   have hr:=g3 i ω
   rw[ep]
   refine⟨?_,aqK hr.1 hr.2⟩
   have hm:(zL (gv a q b.2.2.2.1)).getD i 0∈zL (gv a q b.2.2.2.1):=by
    rw[aV,bo ω];exact dO _
   obtain⟨y,hy,ey⟩:=cV.1 hm
   have Ud:=u9 hy
   have hpy:=(EM y Ud.1).1
   have g: ∀u v z:Int,bY u v→v=a→u=z→bY z a:=λu v z h e1 e2=>by rw[←e1,←e2];exact h
   exact g _ _ _ hpy Ud.2.2 ey
  refine⟨λx hx=> ?_,λx hx=> ?_,?_,λi=> ?_⟩
  ·rcases a8.1 hx with e|hx
   ·rw[e];show bY 0 a;unfold bY;omega
   ·exact(hzz x hx).1
  ·rcases a8.1 hx with e|hx
   ·rw[e];exact ak4 hh
   ·exact(hzz x hx).2
  ·unfold adl
   rw[aT]
   have:=aaI a q ((kK b.2.2.2.1 a q).1.zip (zL (gv a q b.2.2.2.1)))
   rw[xi]at this
   omega
  ·unfold adl
   rw[dx]
   dsimp only
   by_cases e:a=i
   ·rw[aj e,cE,Tn,aj e,hzl,JB,hsg]
    show 0-q+q=0
    omega
   ·rw[ah e,Tn,ah e]
 ·rw[ah h4]at h
  exact absurd h h4
namespace Pure
end Pure
end VM
end
section
namespace VM
open Go VM.F
theorem BQ{b:an}{s e:au}(h:(cc b s e).2=0):(cc b s e).1.2.2.2.2=b.2.2.2.2∧(cc b s e).1.1=b.1∧(cc b s e).1.2.1=b.2.1:=by
 have n2: ¬(2:Int)=0:=δ
 unfold cc at h ⊢
 cases h1:dL Fq (fS b.2.2.2.1 s) iW with
 |none=>rw[h1]at h;exact absurd h n2
 |some s'=>
  rw[h1]at h
  cases hc:dL aF (fS b.2.2.1 e) lY with
  |none=>dsimp only at h;rw[hc]at h;exact absurd h n2
  |some r'=>exact⟨rfl,rfl,rfl⟩
def qb(m:an)(ps:List Int)(i p:Int):an:=(m.1,(m.2.1,(m.2.2.1,(m.2.2.2.1,(List.set ps i.toNat p,m.2.2.2.2.2)))))
def ec(c:ae)(b:an)(i p:Int):an×au×Int:=
 if df c b then(if cF p then(if 0≤i∧i<(c.1.length:Int)then
  (if(cc b [] (dA i (p-b.2.2.2.2.1.getD i.toNat 0) b.2.2.2.1)).2=0 then
    (qb (cc b [] (dA i (p-b.2.2.2.2.1.getD i.toNat 0) b.2.2.2.1)).1 b.2.2.2.2.1 i p,dA i (p-b.2.2.2.2.1.getD i.toNat 0) b.2.2.2.1,0)
   else((cf,(cS,(bn,(bn,(dd,(dm,())))))),[],(cc b [] (dA i (p-b.2.2.2.2.1.getD i.toNat 0) b.2.2.2.1)).2))else((cf,(cS,(bn,(bn,(dd,(dm,())))))),[],3))else((cf,(cS,(bn,(bn,(dd,(dm,())))))),[],1))else((cf,(cS,(bn,(bn,(dd,(dm,())))))),[],1)
theorem La:O6 []:=⟨λx hx=>(nomatch hx),λx hx=>(nomatch hx),bz _,λi=>rfl⟩
theorem aaK{q d:Int}(hq:aF q)(hd: -1000000000000≤d∧d≤1000000000000):cT (q*d):=by
 have h1:(q*d).natAbs≤9223372036854775808*1000000000000:=by
  rw[Gd]
  unfold aF at hq
  exact uD ω ω
 unfold cT
 omega
theorem Ir{c:ae}{b:an}(h:df c b=true)(hq:dV b.2.2.2.1)(hl:b.2.2.2.1.length≤400){i d:Int}(hi:0≤i∧i<(c.1.length:Int))(hd: -1000000000000≤d∧d≤1000000000000):O9 (dA i d b.2.2.2.1):=by
 have hs:=EB h
 have vl:=(dM (dE h).2).2
 refine⟨λx hx=> ?_,λx hx=> ?_,cv (Ip _ _ _) hl,?_⟩
 ·obtain⟨y,hy,_,e⟩:=wz hx
  have:=(vl y hy).1
  unfold bY at this
  rw[e];exact HD ⟨this.1,this.2.1⟩
 ·obtain⟨y,hy,_,e⟩:=wz hx
  rw[e,fX];exact aaK (hq y hy) hd
 ·rw[Iq]
  split
  ·have h6:=(qc hs.2).1
   have hf:=hs.1
   unfold oj at hf
   have h1:=bt (c5.1 hf).1 i.toNat (by unfold kt;omega)
   unfold sB dG ra at h1
   rw[aj (c5.1 hf).2]at h1
   have e:((i.toNat:Nat):Int)=i:=ω
   rw[e]at h1
   rw[h1];simp
  ·rfl
theorem Is{l:List Int}(h:fe l=true){i:Nat}(hi:i<l.length){p:Int}(hp:cF p): -1000000000000≤p-l.getD i 0∧p-l.getD i 0≤1000000000000:=by
 have:=ou h hi
 unfold cF at this hp;omega
theorem Xp(N:Nat)(b:an)(s:au)(e:c7):als N b s e=F68 N b s e:=rfl
theorem Mc(N:Nat)(hN:4000000≤N)(c:ae){b:an}(w:pI b)(hl:b.2.2.2.1.length≤400)(i p:Int):
  F42 N c b i p=some ((ec c b i p).1,(ec c b i p).2.1.map iJ,(ec c b i p).2.2):=by
 unfold F42 ec
 rw[tQ N hN w.w,ar,sH,ar,cond_not,cond_not]
 by_cases hB:df c b=true
 rotate_left
 ·rw[ah hB];rw[mU]at hB;rw[hB];rfl
 rw[aj hB,hB,ak]
 by_cases hp:cF p
 rotate_left
 ·rw[ah hp,bu hp];rfl
 rw[aj hp,aU hp,ak,cy,cz]
 by_cases h0:i<0
 ·rw[aj h0,ah (λh=>ω)];rfl
 rw[ah h0]
 by_cases h1:(c.1.length:Int)≤i
 ·rw[aj h1,ah (λh=>ω)];rfl
 rw[ah h1,aj (show 0≤i∧i<(c.1.length:Int)by omega)]
 have Bo:=dY hB
 have zB:i.toNat<b.2.2.2.2.1.length:=by rw[Bo.1];omega
 have ka:bc i b.2.2.2.2.1.length=true:=aW ω (by rw[Bo.1];omega)
 have vl:=dE hB
 have Fu:pL b.2.2.2.1 i (b.2.2.2.2.1.getD i.toNat 0) p=(dA i (p-b.2.2.2.2.1.getD i.toNat 0) b.2.2.2.1,0):=by
  unfold pL
  rw[aj vl.2,aj (ou Bo.2 zB),aj hp]
 have RX:=Ir hB w.w.qs hl (i:=i) ⟨ω,ω⟩ (Is Bo.2 zB hp)
 rw[ka,ak,Xm N w.w.qs w.w.s ω,ar,Fu,Xp,Pg N ω w.w vl.1 vl.2 w.r w.s La RX,ar,cond_not,aL]
 by_cases hm:(cc b [] (dA i (p-b.2.2.2.2.1.getD i.toNat 0) b.2.2.2.1)).2=0
 ·have Sh:=BQ hm
  rw[aj hm,aj hm]
  unfold qb
  rw[Sh.1,ka];rfl
 ·rw[ah hm,ah hm];rfl
theorem O3(N:Nat)(hN:5000000≤N)(c:ae){b:an}(w:pI b)(hl:b.2.2.2.1.length≤400)(i p:Int):
  PV N c b i p=some ((ec c b i p).1,(ec c b i p).2.1.map gG,(ec c b i p).2.2):=by
 unfold PV ec
 rw[BP N hN w.w,ar,sG,ar,cond_not,cond_not]
 by_cases hB:df c b=true
 rotate_left
 ·rw[ah hB];rw[mU]at hB;rw[hB];rfl
 rw[aj hB,hB,ak]
 by_cases hp:cF p
 rotate_left
 ·rw[ah hp,bu hp];rfl
 rw[aj hp,aU hp,ak,cy,cz]
 by_cases h0:i<0
 ·rw[aj h0,ah (λh=>ω)];rfl
 rw[ah h0]
 by_cases h1:(c.1.length:Int)≤i
 ·rw[aj h1,ah (λh=>ω)];rfl
 rw[ah h1,aj (show 0≤i∧i<(c.1.length:Int)by omega)]
 have Bo:=dY hB
 have zB:i.toNat<b.2.2.2.2.1.length:=by rw[Bo.1];omega
 have ka:bc i b.2.2.2.2.1.length=true:=aW ω (by rw[Bo.1];omega)
 have vl:=dE hB
 have Fu:pL b.2.2.2.1 i (b.2.2.2.2.1.getD i.toNat 0) p=(dA i (p-b.2.2.2.2.1.getD i.toNat 0) b.2.2.2.1,0):=by
  unfold pL
  rw[aj vl.2,aj (ou Bo.2 zB),aj hp]
 have RX:=Ir hB w.w.qs hl (i:=i) ⟨ω,ω⟩ (Is Bo.2 zB hp)
 have hp5:=w.w.p
 rw[ka,ak,Xn N w.w.qs w.w.s ω,ar,Fu,UG N ω w.w vl.1 vl.2 w.r w.s La RX,ar,cond_not,aL]
 by_cases hm:(cc b [] (dA i (p-b.2.2.2.2.1.getD i.toNat 0) b.2.2.2.1)).2=0
 ·rw[aj hm,aj hm,bS (by rw[cj];omega),ak,cM]
  dsimp only
  rw[ka];rfl
 ·rw[ah hm,ah hm];rfl
end VM
end
