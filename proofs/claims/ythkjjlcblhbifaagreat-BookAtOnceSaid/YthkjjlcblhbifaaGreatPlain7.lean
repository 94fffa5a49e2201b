/- A part of the proof of BookAtOnce of layer 18: what the functions compute, in plain words. -/
import Derived.Test.YthkjjlcblhbifaaGreatPlain6
import Derived.Test.YthkjjlcblhbifaaGreatPlain4
import Derived.Test.YthkjjlcblhbifaaGreatPlain3
set_option linter.all false
section
namespace VM
open Go VM.F
variable(N:Nat)
theorem PZ{l:aO}(h:gQ l=true):l.length≤24:=by
 unfold gQ at h
 rw[fu]at h
 have h:=bt h
 have key: ∀i,i<l.length→(i:Int)+1≤(l.getD i ba).1:=by
  intro i
  induction i with
  |zero=>intro hi;exact(h 0 hi).1.1.1
  |succ i ih=>
   intro hi
   have h1:=ih ω
   have h2:(l.getD i ba).1<(l.getD (i+1) ba).1:=(h (i+1) hi).2.1 ω
   have g: ∀a b:Int,(i:Int)+1≤a→a<b→((i+1:Nat):Int)+1≤b:=λa b h1 h2=>ω
   exact g _ _ h1 h2
 by_cases hl:l.length≤24
 ·exact hl
 ·have h1:=key 24 ω
  have h2:=(h 24 ω).1.1.2
  have g: ∀a:Int,((24:Nat):Int)+1≤a→a≤24→False:=λa h1 h2=>ω
  exact(g _ h1 h2).elim
theorem K9(hN:5000000≤N){c:ae}{b:an}{m:Nat}(hm:m≤40000)(hc:G m aA c)(hb:G m aK b)(a:Int):Ok (λr=>aF r.1) (adv N c b a):=by
 unfold adv Z3
 exact bK (ed N hN ω hb) (bF (λ_=>aq bU) λ_=>ag (yO N ω ω hb.2.1 _) λ_ _=>bF (λ_=>aq bU) λ_=>ag (PI N ω ω hb.2.2.2.1 _) λl hl=>ag (Q:=λr=>Bg 60000 r.1) (ag (De N ω ω hc hl _) λr hr=>aq hr) λu hu=>ag (uQ N ω ω hb _) λg hg=>eO (λ_=>aq bU) λ_=>ag (xT N hu) λv hv=>pd (λ_=>ax (λ_=>aq hv) λ_=>aq hg) λ_=>aq hg)
theorem Z8(hN:200000≤N){l:au}{a d:Int}{m:Nat}(hm:m≤50000)(h:L3 m l)(ha:aF a)(hd:aF d):Ok (λr=>L3 (2*m) r) (nE N l a d):=by
 have hl:=h.1
 unfold nE nE.b
 refine bK (nv N ω hN) (bF (λ_=>aq G.nil) λ_=>ok_eq (λ_=>aq G.nil) λ_=>ax (λ_=>aq G.nil) λ_=>ax (λ_=>aq G.nil) λ_=>ax (λ_=>aq G.nil) λ_=>ax (λ_=>aq G.nil) λ_=>br (len:=l.length) (F:=λn i s=>nE.l5 N n l a d s i) (λi s=>L3 (2*i) s) G.nil ω (λn i s hi hI hr=> ?_) (λn s hI=> ?_))
 all_goals unfold nE.l5 nE.eo
 ·have hs:=hI.1
  have hx:=G.at h (i:Int).toNat
  dsimp only
  rw[aw (x:=(i:Int)+1) ω ω,af i]
  have h1:=hr s (G.mono ω hI)
  exact ax (λ_=>aB ⟨ω,ω⟩ (ok_eq (λ_=>aB ⟨ω,ω⟩ (aB ⟨ω,ω⟩ (aB ⟨ω,ω⟩ (aB ⟨ω,ω⟩ (aD (by rw[yQ];omega) (hr _ (G.mono ω (G.cat hI (G.two (m:=2) (G3 ha hx.2.1 (gB _)) (G3 hd hx.2.1 hx.2.2.1) (aH 2)))))))))) λ_=>h1)) λ_=>ω
 ·exact ax (λ_=>ω) λ_=>aq (G.mono ω hI)
theorem adw(hN:5000000≤N){c:ae}{b:an}{m:Nat}(h2:200≤m)(hm:m≤1000)(hc:G m aA c)(hb:G m aK b)(a:Int):Ok (λr=>G m aK r.1) (gY N c b a):=by
 unfold gY gY.b
 refine bK (ed N hN ω hb) (bF (λ_=>aq G.jF) λhB=>ag (rB N ω ω hb _) λ_ _=>ok_eq (λ_=>aq G.jF) λ_=> ?_)
 have hal:b.2.1.length≤24:=by
  unfold dg at hB
  have h1:=(da.1 (da.1 hB).2).1
  unfold sj at h1
  exact PZ (da.1 (da.1 h1).2).1
 refine br (len:=b.2.1.length) (F:=λn i (z:au×bO)=>gY.l8 N n a c b (cc,(cT,(bq,(bq,(db,(dq,())))))) z.1 z.2 i) (s:=(_,_)) (λi z=>L3 (2*m*i) z.1∧kP (4*i) z.2) ⟨G.nil,kP.nil⟩ ω (λn i z hi hI hr=> ?_) (λn z hI=> ?_)
 all_goals unfold gY.l8 gY.D4
 ·obtain⟨h5,h6⟩:=hI
  have h7:=h5.1
  have h8:=h6.1
  have hmi:2*m*i≤2*m*24:=mQ _ ω
  have hms:2*m*(i+1)=2*m*i+2*m:=rM _ _
  have hx:G m fc (b.2.1.getD (i:Int).toNat ba):=G.at hb.2.1 _
  have hj: ∀p:bO,kP (4*i+2) p→Ok (λr=>G m aK r.1) (gY.Da N (gY.l8 N n) a c b (cc,(cT,(bq,(bq,(db,(dq,())))))) z.1 p (i:Int) (b.2.1.getD (i:Int).toNat ba)):=λp hp=>by
   have Cw:=hp.1
   unfold gY.Da gY.wI
   rw[aw (x:=(i:Int)+1) ω ω,af i]
   exact ag (uQ N ω ω hb _) λg hg=>ax (λ_=>ag (bD N ω hg) λv hv=>ag (rA N ω ω hv) λv hv=>ag (tL N ω _ _ _ _ (Bg.mono hv ω)) λu hu=>aD (by have:=hu.1;omega) (ag (Z8 N ω ω hb.2.2.2.1 hx.1 bU) λs hs=>aD (by have:=hs.1;omega) (hr (_,_) ⟨G.mono ω (G.cat h5 hs),kP.mono (kP.app hp hu) ω⟩))) λ_=>ag (Z8 N ω ω hb.2.2.2.1 hx.1 bU) λs hs=>aD (by have:=hs.1;omega) (hr (_,_) ⟨G.mono ω (G.cat h5 hs),kP.mono hp ω⟩)
  rw[aw (x:=(i:Int)+1) ω ω,af i]
  exact ax (λ_=>aB ⟨ω,ω⟩ (bG (λ_=>hr z ⟨G.mono ω h5,kP.mono h6 ω⟩) λ_=>ok_eq (λ_=>ag (K9 N hN ω hc hb _) λq hq=>ag (bD N ω hq) λv hv=>ag (tL N ω _ _ _ _ (Bg.mono hv ω)) λu hu=>aD (by have:=hu.1;omega) (hj _ (kP.mono (kP.app h6 hu) ω))) λ_=>hj _ (kP.mono h6 ω))) λ_=>ω
 ·obtain⟨h5,h6⟩:=hI
  have hmi:2*m*b.2.1.length≤2*m*24:=mQ _ ω
  exact ax (λ_=>ω) λ_=>ag (tK N ω h2 ω hb (G.mono ω h5) (kP.mono h6 ω)) λr hr=>aq hr
abbrev GS(m:Nat)(s:aQ):Prop:=G m dL s
abbrev SR(m:Nat)(r:aQ×dd):Prop:=GS m r.1
theorem MJ(e:Int):Ok (λ_=>True) (gd N e):=by
 unfold gd;exact fN
theorem WN(hN:5000000≤N){c:ae}{s:aQ}{e:ix}{m:Nat}(h2:200≤m)(hm:m≤1000)(hc:G m aA c)(hs:GS m s)(he:G 0 me e):Ok (SR m) (oD N c s e):=by
 have hhl:=hs.2.2.2.1.2.2.2.2.1.1
 unfold oD oD.b
 generalize ((0:Int),((0:Int),_))=S0
 refine br (len:=s.2.2.2.1.2.2.2.2.1.length) (F:=λn i (z:aQ×aO×Bool×Int)=>oD.l5 N n c z.1 e S0 bc z.2.1 z.2.2.1 z.2.2.2 i) (s:=(_,(_,(_,_)))) (λi z=>GS m z.1∧z.1.2.2.2.1.2.2.2.2.1=s.2.2.2.1.2.2.2.2.1∧G i (.slice fc) z.2.1) ⟨hs,rfl,G.nil⟩ ω (λn i z hi hI hr=> ?_) (λn z hI=> ?_)
 all_goals unfold oD.l5 oD.eo
 ·obtain⟨hz,hh,ho⟩:=hI
  have Cg:=ho.1
  rw[hh,aw (x:=(i:Int)+1) ω ω,af i]
  have hx:G 0 fc (s.2.2.2.1.2.2.2.2.1.getD (i:Int).toNat ba):=G.at hs.2.2.2.1.2.2.2.2.1 _
  refine ax (λ_=>aB ⟨ω,ω⟩ (ok_eq (λ_=>ag (UD N hN h2 ω hc hz.2.2.1 (G.mono (bz m) hx) he.2.2.1 he.2.2.2.2.2.2.1 he.2.2.2.2.2.2.2.1) λr ⟨Bm,zA⟩=>bG (λ_=>ag (MJ N _) λ_ _=>aq hz) λ_=> ?_) λ_=>ax (λ_=>aD (by rw[aJ];omega) (hr (z.1,(z.2.1++[s.2.2.2.1.2.2.2.2.1.getD (i:Int).toNat ba],z.2.2)) ⟨hz,hh,G.cat ho (G.one hx (aH 1))⟩)) λ_=>hr z ⟨hz,hh,G.mono ω ho⟩)) λ_=>ω
  have Ad:GS m (z.1.1,(z.1.2.1,(r.1,z.1.2.2.2))):=⟨hz.1,hz.2.1,Bm,hz.2.2.2⟩
  have alb:G 0 fc r.2.1:=zA
  exact ax (λ_=>aD (by rw[aJ];omega) (hr ((z.1.1,(z.1.2.1,(r.1,z.1.2.2.2))),(z.2.1++[r.2.1],(true,r.2.1.2.2.2.1))) ⟨Ad,hh,G.cat ho (G.one alb (aH 1))⟩)) λ_=>hr ((z.1.1,(z.1.2.1,(r.1,z.1.2.2.2))),(z.2.1,(true,r.2.1.2.2.2.1))) ⟨Ad,hh,G.mono ω ho⟩
 ·obtain⟨hz,hh,ho⟩:=hI
  rw[hh]
  exact ax (λ_=>ω) λ_=>bF (λ_=>ag (MJ N _) λ_ _=>aq hz) λ_=>aq ⟨hz.1,hz.2.1,hz.2.2.1,⟨hz.2.2.2.1.1,hz.2.2.2.1.2.1,hz.2.2.2.1.2.2.1,hz.2.2.2.1.2.2.2.1,G.mono hhl ho,hz.2.2.2.1.2.2.2.2.2⟩,hz.2.2.2.2⟩
theorem uS(hN:4000000≤N){s:aQ}{q:Int}(hs:aF s.1)(hq:aF q):Ok (λr=>aF r.1) (WO N s q):=by
 unfold WO
 exact ag (bD N hN hs) λa ha=>ag (bD N hN hq) λb hb=>ag (lW N hN ω ha hb) λx hx=>ag (xT N hx) λv hv=>aq hv
theorem dy{α:Type}{P:α×dd→Prop}{N:Nat}{e:Int}{f:dd→Option (α×dd)}(h: ∀r,Ok P (f r)):Ok P ((gd N e).bind f):=ag (MJ N e) λr _=>h r
theorem Z9(hN:5000000≤N){c:ae}{s:aQ}{e:ix}{m:Nat}(h2:200≤m)(hm:m≤999)(hc:G 5 aA c)(hs:GS m s)(he:G 0 me e):Ok (SR (m+1)) (oE N c s e):=by
 have Fp:G m aA c:=G.mono ω hc
 have TF:GS (m+1) s:=G.mono ω hs
 obtain⟨s1,s2,s3,⟨k1,k2,k3,k4,k5,k6,k7,k8,k9,yR,k11⟩,s5⟩:=TF
 have hk:=hs.2.2.2.1
 have i2:aF 2:=bu
 have i3:aF 3:=bu
 have up: ∀{τ:Ty} {x:τ.den},G m τ x→G (m+1) τ x:=λh=>G.mono ω h
 have bZ: ∀r:dd,Ok (SR (m+1)) (some (s,r)):=λr=>aq (up hs)
 unfold oE oE.b
 refine ok_eq (λ_=> ?_) λ_=>ok_eq (λ_=> ?_) λ_=>ok_eq (λ_=> ?_) λ_=>ok_eq (λ_=> ?_) λ_=>ok_eq (λ_=> ?_) λ_=>ok_eq (λ_=> ?_) λ_=>ok_eq (λ_=> ?_) λ_=>ok_eq (λ_=> ?_) λ_=>dy λr=>bZ r
 ·exact ag (adl N hN ω Fp hs.2.2.1 _ he.2.1 _) λr hr=>dy λ_=>aq ⟨s1,s2,up hr,(up hs).2.2.2⟩
 ·exact ag (adw N hN h2 ω Fp hs.2.2.1 _) λr hr=>dy λ_=>aq ⟨s1,s2,up hr,⟨k1,i2,bU,k4,k5,k6,k7,k8,k9,yR,k11⟩,s5⟩
 ·exact ag (Wu N hN c hc.2.2.2.2.2.2.1 ω hs.2.2.1 _) λr hr=>aq ⟨s1,gB _,s3,⟨k1,k2,k3,k4,G.mono ω hr,k6,k7,k8,k9,yR,k11⟩,s5⟩
 ·exact ag (WN N hN h2 ω Fp hs he) λr hr=>aq (up hr)
 ·exact ok_eq (λ_=>dy λr=>bZ r) λ_=>ag (adn N hN h2 ω Fp hs.2.2.1 hs.2.1) λl hl=>bG (λ_=>dy λr=>bZ r) λ_=>ag (uS N ω hs.1 hc.2.2.2.2.1) λt ht=>bF (λ_=>dy λr=>bZ r) λ_=>ag (UE N hN c ω hs.2.2.1) λu hu=>aq ⟨s1,gB _,s3,⟨k1,i3,ht,gB _,G.nil,up hl,G.nil,up hu,k9,yR,k11⟩,s5⟩
 ·have hx:G 0 fc (s.2.1,(e.2.2.2.2.2.1,(e.2.1,(e.2.2.2.2.2.2.2.1,())))):=⟨hs.2.1,he.2.2.2.2.2.1,he.2.1,he.2.2.2.2.2.2.2.1,trivial⟩
  exact ag (K5 N hN ω ω Fp hs.2.2.1 hk.2.2.2.2.2.1 hk.2.2.2.2.2.2.1 hx) λr hr=>aq ⟨s1,gB _,s3,⟨k1,k2,k3,k4,k5,k6,hr,k8,k9,yR,k11⟩,s5⟩
 ·refine ag (PY N hN c h2 ω hs.2.2.1 hk.2.2.2.2.2.1 hk.2.2.2.2.2.2.1) λr ⟨Bm,zA⟩=>bG (λ_=>dy λr=>bZ r) λ_=>ag (PW N ω c h2 ω hk.2.2.2.2.2.2.2.2.1 hk.2.2.2.2.2.2.2.1.1 zA hk.2.2.2.2.2.2.1) λd hd=> ?_
  generalize ((0:Int),((0:Int),_))=S0
  have J6:=zA.1
  refine br (len:=r.2.1.length) (F:=λn i q=>oE.l41 N n _ S0 bc r.2.1 q i) (λ_ _=>True) trivial ω (λn i q hi _ eQ=> ?_) (λn q _=> ?_)
  all_goals unfold oE.l41 oE.adx
  ·rw[aw (x:=(i:Int)+1) ω ω,af i]
   exact ax (λ_=>aB ⟨ω,ω⟩ (ok_eq (λ_=>eQ _ trivial) λ_=>eQ _ trivial)) λ_=>ω
  ·exact ax (λ_=>ω) λ_=>aq ⟨s1,s2,up Bm,⟨k1,i2,bU,k4,k5,up zA,k7,k8,up hd,yR,k11⟩,s5⟩
 ·exact ag (K8 N hN h2 ω Fp hs.2.2.1 hk.2.2.2.2.2.2.2.2.1 hk.2.2.2.2.2.2.2.2.2.1 hk.1) λr ⟨Bm,zA⟩=>bG (λ_=>dy λr=>bZ r) λ_=>ag (UJ N hN h2 ω hc Bm) λb hb=>bG (λ_=>dy λr=>bZ r) λ_=>ag (ME N ω ω hb.1 _ _) λu hu=>aq ⟨s1,s2,⟨up hu,(up hb).2⟩,G.zero (m+1) sL,up zA,trivial⟩
theorem P0(s:aQ)(k:Int):Ok (λ_=>True) (ady N s k):=by
 unfold ady
 repeat' first|exact fN|refine ok_eq (λ_=> ?_) (λ_=> ?_)
theorem pf(hN:200000≤N){s:aQ}{m:Nat}(hm:m≤50000)(hs:GS m s)(k:Int):Ok (λ_=>True) (Ij N s k):=by
 unfold Ij
 exact ag (pe N hN hm hs.2.2.1.1 _) λ_ _=>fN
theorem aab(hN:200000≤N){s:aQ}{m:Nat}(hm:m≤50000)(hs:GS m s)(k:Int):Ok (λ_=>True) (SQ N s k):=by
 unfold SQ
 exact ag (yO N hN hm hs.2.2.1.2.1 _) λ_ _=>fN
theorem adz(hN:4000000≤N){s:aQ}{m:Nat}(h2:200≤m)(hm:m≤50000)(hs:GS m s)(a b c d:Int){q:Int}(hq:aF q):Ok (SR m) (P1 N s a b c d q):=by
 unfold P1
 exact ag (bD N hN hq) λx hx=>ag (tL N hN _ _ _ _ (Bg.mono hx ω)) λp hp=>ag (tK N hN h2 hm hs.2.2.1 G.nil (kP.mono hp ω)) λr hr=>aq ⟨hs.1,hs.2.1,hr,hs.2.2.2⟩
theorem aac(hN:5000000≤N){c:ae}{s:aQ}{e:ix}{m:Nat}(h2:200≤m)(hm:m≤999)(hc:G 5 aA c)(hs:GS m s)(he:G 0 me e):Ok (SR (m+1)) (qx N c s e):=by
 obtain⟨s1,s2,s3,⟨k1,k2,k3,k4,k5,k6,k7,k8,k9,yR,k11⟩,s5⟩:=hs
 have hs:GS m s:=⟨s1,s2,s3,⟨k1,k2,k3,k4,k5,k6,k7,k8,k9,yR,k11⟩,s5⟩
 have up: ∀{x:aQ},GS m x→ ∀r:dd,Ok (SR (m+1)) (some (x,r)):=λh r=>aq (P:=SR (m+1)) (G.mono (rN m) h)
 have i1:aF 1:=bu
 have us: ∀{τ:Ty} {x:τ.den},G m τ x→G (m+1) τ x:=λh=>G.mono ω h
 unfold qx qx.b
 have hj: ∀(S0:aQ) (z:dd),Ok (SR (m+1)) (qx.WH N c s e S0 z):=λS0 z=>by
  unfold qx.WH qx.PV
  exact ag (P0 N _ _) λ_ _=>bF (λ_=>dy λr=>up hs r) λ_=>ag (Z9 N hN h2 hm hc hs he) λr hr=>aq hr
 have mem: ∀{x:aE},G m (.slice kN) x→G m aK ((x,s.2.2.1.2):an):=λh=>⟨h,s3.2⟩
 have hd: ∀z:aE×Int,G m (.slice kN) z.1→Ok (SR (m+1)) (cond (aN z.2 0) (cond (aN e.1 11) ((F54 N c (z.1,s.2.2.1.2) e.2.1).bind λr2=>cond (aN s.2.2.2.1.2.1 3) ((p7 N s.2.2.2.1.2.2.2.2.2.2.1 e.2.1).bind λr3=>(gd N z.2).bind λr4=>some ((s.1,(s.2.1,(r2.1,((s.2.2.2.1.1,(s.2.2.2.1.2.1,(s.2.2.2.1.2.2.1,(s.2.2.2.1.2.2.2.1,(s.2.2.2.1.2.2.2.2.1,(s.2.2.2.1.2.2.2.2.2.1,(r3,s.2.2.2.1.2.2.2.2.2.2.2))))))),s.2.2.2.2)))),r4)) ((gd N z.2).bind λr5=>some ((s.1,(s.2.1,(r2.1,s.2.2.2))),r5))) ((gd N z.2).bind λr6=>some ((s.1,(s.2.1,((z.1,s.2.2.1.2),s.2.2.2))),r6))) ((gd N z.2).bind λr7=>some ((s.1,(s.2.1,((z.1,s.2.2.1.2),s.2.2.2))),r7))):=λz hz=>
  ok_eq (λ_=>ok_eq (λ_=>ag (PM N hN c ω (mem hz) _) λb hb=>ok_eq (λ_=>ag (Et N ω ω k7 _) λl hl=>dy λr=>aq ⟨s1,s2,us hb,⟨k1,k2,k3,k4,us k5,us k6,us hl,us k8,us k9,us yR,trivial⟩,us s5⟩) λ_=>dy λr=>aq ⟨s1,s2,us hb,(us hs).2.2.2⟩) λ_=>dy λr=>aq ⟨s1,s2,us (mem hz),(us hs).2.2.2⟩) λ_=>dy λr=>aq ⟨s1,s2,us (mem hz),(us hs).2.2.2⟩
 have Jm:=λk:Int=>ME N ω (m:=m) ω s3.1 e.2.1 k
 refine ok_eq (λ_=>ag (Jm _) λz hz=>hd z hz) λ_=>ok_eq (λ_=>ag (Jm _) λz hz=>hd z hz) λ_=>ok_eq (λ_=> ?_) λ_=>ok_eq (λ_=> ?_) λ_=>hj _ _
 ·exact ag (pf N ω ω hs _) λ_ _=>ok_eq (λ_=>dy λr=>up hs r) λ_=>bG (λ_=>dy λr=>up hs r) λ_=>ag (Jm _) λz hz=>bG (λ_=>dy λr=>aq ⟨s1,s2,us (mem hz),(us hs).2.2.2⟩) λ_=>ag (uS N ω s1 hc.2.2.2.1) λt ht=>bF (λ_=>dy λr=>aq ⟨s1,s2,us (mem hz),(us hs).2.2.2⟩) λ_=>aq ⟨s1,s2,us (mem hz),⟨he.2.1,i1,ht,bU,G.nil,G.nil,G.nil,G.nil,G.nil,G.nil,trivial⟩,us s5⟩
 ·exact ag (pf N ω ω hs _) λ_ _=>ok_eq (λ_=>dy λr=>up hs r) λ_=>ag (pf N ω ω hs _) λ_ _=>bG (λ_=>dy λr=>up hs r) λ_=>hj _ _
theorem adA(hN:5000000≤N){c:ae}{s:aQ}{e:ix}{m:Nat}(h2:200≤m)(hm:m≤999)(hc:G 5 aA c)(hs:GS m s)(he:G 0 me e):Ok (SR (m+1)) (WQ N c s e):=by
 have Fp:G m aA c:=G.mono ω hc
 obtain⟨s1,s2,s3,⟨k1,k2,k3,k4,k5,k6,k7,k8,k9,yR,k11⟩,s5⟩:=hs
 have hs:GS m s:=⟨s1,s2,s3,⟨k1,k2,k3,k4,k5,k6,k7,k8,k9,yR,k11⟩,s5⟩
 have us: ∀{τ:Ty} {x:τ.den},G m τ x→G (m+1) τ x:=λh=>G.mono ω h
 have TF:=us hs
 have up: ∀{x:aQ},GS m x→ ∀r:dd,Ok (SR (m+1)) (some (x,r)):=λh r=>aq (P:=SR (m+1)) (G.mono (rN m) h)
 have st:=λk:Int=>pf N ω (m:=m) ω hs k
 have hp:=λa b c d=>adz N ω h2 ω hs a b c d he.2.2.2.2.2.2.1
 have WR:=he.2.2.2.2.2.2.1
 unfold WQ
 refine ok_eq (λ_=> ?_) λ_=>ok_eq (λ_=> ?_) λ_=>ok_eq (λ_=> ?_) λ_=>ok_eq (λ_=> ?_) λ_=>ok_eq (λ_=> ?_) λ_=>ok_eq (λ_=> ?_) λ_=>ok_eq (λ_=> ?_) λ_=>ok_eq (λ_=> ?_) λ_=>ok_eq (λ_=> ?_) λ_=>ok_eq (λ_=> ?_) λ_=>ok_eq (λ_=> ?_) λ_=>ag (aac N hN h2 hm hc hs he) λr hr=>aq hr
 ·exact ag (ZS N ω ω s3.1 he.2.1) λr hr=>dy λ_=>aq ⟨s1,s2,⟨hr,TF.2.2.1.2⟩,TF.2.2.2⟩
 ·have hx:G 0 fc (e.2.2.1,(e.2.1,(e.2.2.2.2.1,((0:Int),())))):=⟨he.2.2.1,he.2.1,he.2.2.2.2.1,bU,trivial⟩
  exact ag (adg N ω ω s3.1 s3.2.1 hx) λr hr=>dy λ_=>aq ⟨s1,s2,⟨TF.2.2.1.1,hr,TF.2.2.1.2.2⟩,TF.2.2.2⟩
 ·exact ag (aab N ω ω hs _) λ_ _=>bF (λ_=>dy λr=>up hs r) λ_=>ag (hp _ _ _ _) λr hr=>aq (us hr)
 ·exact ag (PQ N hN h2 ω Fp s3 _ WR) λr hr=>dy λz=>aq ⟨s1,s2,us hr,(us hs).2.2.2⟩
 ·exact ag (st _) λ_ _=>ok_eq (λ_=>dy λr=>up hs r) λ_=>ag (st _) λ_ _=>bG (λ_=>dy λr=>up hs r) λ_=>ag (hp _ _ _ _) λr hr=>aq (us hr)
 ·exact ag (st _) λ_ _=>ok_eq (λ_=>dy λr=>up hs r) λ_=>ag (ni N ω ω s3.2.2.1 _ _) λg hg=>ag (bD N ω hg) λx hx=>ag (rA N ω ω hx) λx hx=>ag (bD N ω WR) λy hy=>ag (qu N ω ω ω hy hx) λ_ _=>ax (λ_=>dy λr=>up hs r) λ_=>ag (hp _ _ _ _) λr hr=>aq (us hr)
 ·exact ag (ZT N ω ω s3.2.1 WR) λr hr=>dy λz=>aq ⟨s1,s2,⟨us s3.1,us hr,(us s3).2.2⟩,(us hs).2.2.2⟩
 ·have hx:G 0 nh (s.2.1,(e.2.2.1,(e.2.2.2.1,(e.2.2.2.2.1,(e.2.2.2.2.2.2.1,(e.2.2.2.2.2.2.2.1,())))))):=⟨s2,he.2.2.1,he.2.2.2.1,he.2.2.2.2.1,WR,he.2.2.2.2.2.2.2.1,trivial⟩
  exact ag (ZX N hN h2 ω Fp s3 hx) λr hr=>aq ⟨s1,gB _,hr,TF.2.2.2⟩
 ·exact ag (aab N ω ω hs _) λ_ _=>bF (λ_=>dy λr=>up hs r) λ_=>ag (Wz N ω ω s3.2.2.2.2.2.1 _ _) λr hr=>dy λz=>aq ⟨s1,s2,⟨us s3.1,us s3.2.1,us s3.2.2.1,us s3.2.2.2.1,us s3.2.2.2.2.1,us hr,trivial⟩,(us hs).2.2.2⟩
 ·exact ag (Eu N hN c h2 ω s3 _ he.2.2.2.2.2.2.2.1) λr ⟨Bm,zA⟩=>ok_eq (λ_=>bG (λ_=>ag (PO N ω h2 ω yR zA) λg hg=>dy λz=>aq ⟨s1,s2,us Bm,⟨k1,k2,k3,k4,us k5,us k6,us k7,us k8,us k9,us hg,trivial⟩,us s5⟩) λ_=>dy λz=>aq ⟨s1,s2,us Bm,(us hs).2.2.2⟩) λ_=>dy λz=>aq ⟨s1,s2,us Bm,(us hs).2.2.2⟩
 ·exact ag (uS N ω s1 WR) λt ht=>bF (λ_=>dy λr=>up hs r) λ_=>aq ⟨ht,(us hs).2⟩
theorem UL(hN:5000000≤N){c:ae}{s:aQ}{e:ix}{m:Nat}(h2:200≤m)(hm:m≤999)(hc:G 5 aA c)(hs:GS m s)(he:G 0 me e):Ok (SR (m+1)) (F76 N c s e):=by
 have bZ: ∀r:dd,Ok (SR (m+1)) (some (s,r)):=λr=>aq (P:=SR (m+1)) (G.mono (rN m) hs)
 unfold F76
 exact bK (oa N ω c) (bF (λ_=>bZ _) λ_=>ag (K4 N ω e) λ_ _=>bF (λ_=>bZ _) λ_=>ag (adA N hN h2 hm hc hs he) λr hr=>bG (λ_=>bZ _) λ_=>aq hr)
end VM
end
section
namespace VM
open Go VM.F Go.RowKit
variable(N:Nat)
theorem acD{l:List Int}(h:WF (.slice (.int .u64)) l):Dk 0 ((l,((0:Int),())):aG):=⟨λx hx=>by
 obtain⟨i,hi,rfl⟩:=gE hx
 have h3:0≤l[i]∧l[i]≤18446744073709551615:=wf_u64.1 (h.2 i hi)
 exact⟨h3.1,Av h3.2 δ⟩,fW 0,fW 0⟩
namespace Pure
end Pure
theorem pV{α:Type}{l:List α}{d:α}{i:Nat}(h:i<l.length):l.getD i d∈l:=by
 rw[aV,bm h];exact dJ h
namespace Pure
end Pure
theorem sM{P:Int→Prop} [DecidablePred P]{f:Int→Int→Int}: ∀{K:List dh} {o:au},dH P f K=some o→(o.map keyOf).Sublist K∧(∀x∈o,dT x=f x.1 x.2.1∧dT x≠0∧P (dT x))∧(∀k∈K,P (f k.1 k.2))∧ ∀a b,gR a b o=if(a,b)∈K then f a b else 0
 |[],o,h=>by
  have e:[]=o:=nR h
  subst e
  exact⟨List.Sublist.refl _,λx hx=>(nomatch hx),λk hk=>(nomatch hk),λa b=>by rw[ah (λh=>nomatch h)];rfl⟩
 |k::t,o,h=>by
  rw[iy]at h
  by_cases hp:P (f k.1 k.2)
  ·rw[aj hp]at h
   cases ho:dH P f t with
   |none=>rw[ho]at h;exact nomatch h
   |some o'=>
    rw[ho]at h
    have e:(if f k.1 k.2=0 then o' else(k.1,(k.2,(f k.1 k.2,())))::o')=o:=nR h
    obtain⟨s,g,gp,gf⟩:=sM ho
    have iv: ∀k'∈k::t,P (f k'.1 k'.2):=λk' hk=>by
     rcases a8.1 hk with rfl|hk
     ·exact hp
     ·exact gp k' hk
    by_cases h0:f k.1 k.2=0
    ·rw[aj h0]at e
     subst e
     refine⟨s.cons _,g,iv,λa b=> ?_⟩
     rw[gf a b]
     by_cases hk:(a,b)=k
     ·subst hk
      rw[aj (bs ..)]
      dsimp only at h0
      rw[h0];split<;>rfl
     ·by_cases ht:(a,b)∈t
      ·rw[aj ht,aj (aZ _ ht)]
      ·rw[ah ht,ah (λh=>(a8.1 h).elim hk ht)]
    ·rw[ah h0]at e
     subst e
     refine⟨s.cons_cons _,λx hx=> ?_,iv,λa b=> ?_⟩
     ·rcases a8.1 hx with rfl|hx
      ·exact⟨rfl,h0,hp⟩
      ·exact g x hx
     ·rw[iJ]
      dsimp only
      rw[gf a b]
      by_cases h1:k.1=a
      ·by_cases h2:k.2=b
       ·have hk:(a,b)=k:=by rw[←h1,←h2]
        rw[aj h1,aj h2,aj (by rw[hk];exact bs ..),h1,h2]
       ·have hk:(a,b)≠k:=λe=>h2 (by rw[←e])
        rw[aj h1,ah h2]
        by_cases ht:(a,b)∈t
        ·rw[aj ht,aj (aZ _ ht)]
        ·rw[ah ht,ah (λh=>(a8.1 h).elim hk ht)]
      ·have hk:(a,b)≠k:=λe=>h1 (by rw[←e])
       rw[ah h1]
       by_cases ht:(a,b)∈t
       ·rw[aj ht,aj (aZ _ ht)]
       ·rw[ah ht,ah (λh=>(a8.1 h).elim hk ht)]
  ·rw[ah hp]at h;exact nomatch h
theorem aad{l:au}(hs:so (l.map keyOf)){j:Nat}(hj:j<l.length)(h0:0<j):tY (keyOf (l.getD (j-1) bc)) (keyOf (l.getD j bc)):=by
 have:=u5.1 (wW.1 hs) (j-1) j ω hj ω
 rw[aV,aV,bm hj,bm (show j-1<l.length by omega)]
 exact this
theorem SS{l:au}(hs:so (l.map keyOf))(h: ∀x∈l,cj x.1 x.2.1∧dT x≠0∧qQ (dT x)):de l=true:=by
 unfold de
 rw[fu]
 refine aU λj hj=> ?_
 obtain⟨a,b,c⟩:=h _ (pV (d:=bc) hj)
 exact⟨a,b,c,λh0=>aad hs hj h0⟩
theorem WS{l:au}(hs:so (l.map keyOf))(h: ∀x∈l,c9 x.1 x.2.1∧dT x≠0):eJ l=true:=by
 unfold eJ
 rw[fu]
 refine aU λj hj=> ?_
 obtain⟨a,b⟩:=h _ (pV (d:=bc) hj)
 exact⟨a,b,λh0=>aad hs hj h0⟩
theorem sN{a b:Int}:(a,b)∈iU↔cj a b:=by
 unfold iU cj
 rw[o7];dsimp only;omega
theorem z7(b:an)(s e:au):((cC b s e).2=2∧(cC b s e).1=(cc,(cT,(bq,(bq,(db,(dq,())))))))∨ ∃s' r',dH Fq (fS b.2.2.2.1 s) iU=some s'∧dH aF (fS b.2.2.1 e) mc=some r'∧cC b s e=((b.1,(b.2.1,(r',(s',b.2.2.2.2)))),0):=by
 unfold cC
 cases h1:dH Fq (fS b.2.2.2.1 s) iU with
 |none=>exact .inl ⟨rfl,rfl⟩
 |some s'=>
  cases h2:dH aF (fS b.2.2.1 e) mc with
  |none=>exact .inl ⟨rfl,rfl⟩
  |some r'=>exact .inr ⟨s',r',rfl,rfl,rfl⟩
theorem SU{l E o:au}(hs:de l=true)(h:dH Fq (fS l E) iU=some o):de o=true∧(∀a b,cj a b→gj o a b=gj l a b+cS a b E∧Fq (gj o a b)):=by
 obtain⟨h1,h2,h3,h4⟩:=sM h
 have hso:so (o.map keyOf):=ue h1 (lV 6 25 0)
 have ho:de o=true:=SS hso λx hx=>by
  have hk:(x.1,x.2.1)∈iU:=h1.subset (fm (f:=keyOf) hx)
  obtain⟨_,g1,g2⟩:=h2 x hx
  exact⟨sN.1 hk,g1,g2.2⟩
 refine⟨ho,λa b hp=> ?_⟩
 have e:gj o a b=fS l E a b:=by
  unfold gj
  rw[ho,aj rfl,h4 a b,aj (sN.2 hp)]
 refine⟨?_,by rw[e];exact h3 _ (sN.2 hp)⟩
 rw[e]
 unfold fS gj
 rw[hs,aj rfl,nB (dW hs).1]
theorem FK{a b:Int}{l:au}(h:cS a b l≠0): ∃x∈l,x.1=a∧x.2.1=b:=
 Nx λhn=>h (ly λx hx e=>hn ⟨x,hx,e⟩)
theorem adB{l E o:au}(hs:eJ l=true)(hE: ∀x∈E,c9 x.1 x.2.1)(h:dH aF (fS l E) mc=some o):eJ o=true∧(∀a b,c9 a b→tC o a b=tC l a b+cS a b E∧aF (tC o a b)):=by
 obtain⟨h1,h2,h3,h4⟩:=sM h
 obtain⟨hl,qA⟩:=lA hs
 have hso:so (o.map keyOf):=ue h1 (lV 25 7 1)
 have ho:eJ o=true:=WS hso λx hx=>by
  obtain⟨g0,g1,g2⟩:=h2 x hx
  refine⟨?_,g1⟩
  rw[g0]at g1
  unfold fS at g1
  by_cases hz:cS x.1 x.2.1 l=0
  ·rw[hz,wZ]at g1
   obtain⟨y,hy,e1,e2⟩:=FK g1
   rw[←e1,←e2];exact hE y hy
  ·obtain⟨y,hy,e1,e2⟩:=FK hz
   rw[←e1,←e2];exact qA y hy
 refine⟨ho,λa b hk=> ?_⟩
 have hg:(a,b)∈mc:=by
  unfold mc
  rw[o7]
  unfold c9 at hk
  dsimp only;omega
 have e:tC o a b=fS l E a b:=by
  unfold tC
  rw[ho,aj rfl,h4 a b,aj hg]
 refine⟨?_,by rw[e];exact h3 _ hg⟩
 rw[e]
 unfold fS tC
 rw[hs,aj rfl,nB hl]
namespace Pure
end Pure
namespace Pure
end Pure
def JS(p:dh→Bool):au→Int
 |[]=>0
 |x::t=>(if p (keyOf x)=true then dT x else 0)+JS p t
def Ik(p:dh→Bool)(f:Int→Int→Int):List dh→Int
 |[]=>0
 |k::t=>(if p k=true then f k.1 k.2 else 0)+Ik p f t
theorem Df(p:dh→Bool)(x:dd)(t:au):JS p (x::t)=(if p (keyOf x)=true then dT x else 0)+JS p t:=rfl
theorem rC(p:dh→Bool)(f:Int→Int→Int)(k:dh)(t:List dh):Ik p f (k::t)=(if p k=true then f k.1 k.2 else 0)+Ik p f t:=rfl
theorem La{P:Int→Prop} [DecidablePred P]{f:Int→Int→Int}(p:dh→Bool): ∀{K:List dh} {o:au},dH P f K=some o→JS p o=Ik p f K
 |[],o,h=>by
  have e:[]=o:=nR h
  subst e;rfl
 |k::t,o,h=>by
  rw[iy]at h
  by_cases hp:P (f k.1 k.2)
  ·rw[aj hp]at h
   cases ho:dH P f t with
   |none=>rw[ho]at h;exact nomatch h
   |some o'=>
    rw[ho]at h
    have e:(if f k.1 k.2=0 then o' else(k.1,(k.2,(f k.1 k.2,())))::o')=o:=nR h
    rw[rC,←La p ho]
    by_cases h0:f k.1 k.2=0
    ·rw[aj h0]at e
     rw[←e,h0]
     split<;>omega
    ·rw[ah h0]at e
     rw[←e];rfl
  ·rw[ah hp]at h;exact nomatch h
theorem Il(p:dh→Bool)(f g:Int→Int→Int): ∀K:List dh,Ik p (λa b=>f a b+g a b) K=Ik p f K+Ik p g K
 |[]=>rfl
 |k::t=>by
  rw[rC,rC,rC,Il p f g t]
  split<;>omega
theorem Dg{p:dh→Bool}{f:Int→Int→Int}: ∀{K:List dh},(∀k∈K,f k.1 k.2=0)→Ik p f K=0
 |[],_=>rfl
 |k::t,h=>by
  rw[rC,h k (bs ..),Dg λx hx=>h x (aZ _ hx)]
  split<;>rfl
theorem P2(p:dh→Bool)(k:dh)(v:Int): ∀{K:List dh},so K→k∈K→Ik p (λa b=>if k.1=a∧k.2=b then v else 0) K=if p k=true then v else 0
 |[],_,h=>nomatch h
 |x::t,hs,h=>by
  obtain⟨h1,h2⟩:=eX.1 hs
  rw[rC]
  by_cases e:k=x
  ·subst e
   have hz:Ik p (λa b=>if k.1=a∧k.2=b then v else 0) t=0:=Dg λy hy=>ah λe=>by
    have:=h1 y hy
    rw[show y=k from g7 e.1.symm e.2.symm]at this
    exact oj this
   rw[aj (show k.1=k.1∧k.2=k.2 from⟨rfl,rfl⟩),hz,jM]
  ·rw[ah (show ¬(k.1=x.1∧k.2=x.2)from λh=>e (g7 h.1 h.2)),P2 p k v h2 ((a8.1 h).elim (λh=>absurd h e) id)]
   split<;>omega
theorem Im(p:dh→Bool){K:List dh}(hs:so K): ∀{l:au},(∀x∈l,keyOf x∈K)→Ik p (λa b=>cS a b l) K=JS p l
 |[],_=>Dg λ_ _=>rfl
 |x::t,h=>by
  have e:(λa b=>cS a b (x::t))=λa b=>(if(keyOf x).1=a∧(keyOf x).2=b then dT x else 0)+cS a b t:=by
   funext a b;exact jS a b x t
  rw[e,Il,P2 p (keyOf x) (dT x) hs (h x (bs ..)),Im p hs λy hy=>h y (aZ _ hy),Df]
theorem Io{P:Int→Prop} [DecidablePred P]{l E o:au}{K:List dh}(p:dh→Bool)(hs:so K)(hl: ∀x∈l,keyOf x∈K)(hE: ∀x∈E,keyOf x∈K)(h:dH P (fS l E) K=some o):JS p o=JS p l+JS p E:=by
 rw[La p h,←Im p hs hl,←Im p hs hE,←Il];rfl
theorem vW: ∀l:au,JS (λ_=>true) l=(l.map dT).sum
 |[]=>rfl
 |x::t=>by rw[Df,aj rfl,vW t,bQ,cE]
theorem yS(i:Int): ∀l:au,JS (λk=>decide (k.2=i)) l=(df i l).sum
 |[]=>rfl
 |x::t=>by
  rw[Df,yS i t,dx]
  by_cases e:x.2.1=i
  ·rw[aj (aU (show(keyOf x).2=i from e)),aj e,cE]
  ·rw[ah (by rw[bx (show ¬(keyOf x).2=i from e)];exact pF),ah e,wZ]
def Ip(m:aE)(a:aO)(k n:Int):Prop:=(dD k 5→(eV a n).2=true)∧(dD k 6∨dD k 7→ ¬dD (gJ m n) 0)
def Iq(c:ae)(a:aO)(k n:Int):Prop:=(dD k 0∨(eV a k).2=true)∧lI n c.1.length
theorem P3{k n:Int}(h:c9 k n):(k,n)∈mc:=by
 unfold mc
 rw[o7]
 unfold c9 at h
 dsimp only;omega
theorem Ir{l E:au}{Q:Int→Int→Prop}(hl: ∀x∈l,Q x.1 x.2.1)(hE: ∀x∈E,Q x.1 x.2.1){a b:Int}(h:fS l E a b≠0):Q a b:=by
 unfold fS at h
 by_cases hz:cS a b l=0
 ·rw[hz,wZ]at h
  obtain⟨y,hy,e1,e2⟩:=FK h
  rw[←e1,←e2];exact hE y hy
 ·obtain⟨y,hy,e1,e2⟩:=FK hz
  rw[←e1,←e2];exact hl y hy
theorem MK{c:ae}{b:an}{s e s' r':au}(hB:dg c b=true)(h1:dH Fq (fS b.2.2.2.1 s) iU=some s')(h2:dH aF (fS b.2.2.1 e) mc=some r')
  (gs: ∀x∈s,cj x.1 x.2.1∧Iq c b.2.1 x.1 x.2.1) (flat: ∀i:Int,(df i s).sum=0) (ge: ∀x∈e,c9 x.1 x.2.1∧Ip b.1 b.2.1 x.1 x.2.1) (zero:(e.map dT).sum=0):
  dg c (b.1,(b.2.1,(r',(s',b.2.2.2.2))))=true:=by
 have hB':=hB
 unfold dg at hB'
 simp only[bM]at hB'
 obtain⟨b1,b2,b3,b4,b5,b6,b7,b8,b9,b10,b11⟩:=hB'
 obtain⟨hr,hs⟩:=eS hB
 obtain⟨o1,_⟩:=SU hs h1
 obtain⟨o2,_⟩:=adB hr (λx hx=>(ge x hx).1) h2
 obtain⟨N9,hsk⟩:=dW hs
 obtain⟨J6,hrk⟩:=lA hr
 have k1: ∀x∈b.2.2.2.1,keyOf x∈iU:=λx hx=>sN.2 (hsk x hx).1
 have k2: ∀x∈s,keyOf x∈iU:=λx hx=>sN.2 (gs x hx).1
 have k3: ∀x∈b.2.2.1,keyOf x∈mc:=λx hx=>P3 (hrk x hx)
 have k4: ∀x∈e,keyOf x∈mc:=λx hx=>P3 (ge x hx).1
 have hp8:=bt b8
 have hp9:=bt b9
 have q8: ∀x∈b.2.2.1,Ip b.1 b.2.1 x.1 x.2.1:=λx hx=>by
  obtain⟨i,hi,e⟩:=gE hx
  have:=hp8 i hi
  unfold kI at this
  rw[aV,bm hi,nO,e]at this
  exact this
 have q9: ∀x∈b.2.2.2.1,Iq c b.2.1 x.1 x.2.1:=λx hx=>by
  obtain⟨i,hi,e⟩:=gE hx
  have:=hp9 i hi
  unfold jQ at this
  rw[aV,bm hi,nO,e]at this
  exact this
 have n4:decide (dD (il r') 0)=true:=by
  refine aU ?_
  unfold il dD
  rw[o2,aj rfl,←vW,Io _ (lV 25 7 1) k3 k4 h2,vW,vW,zero,jM]
  have:=bt b4
  unfold il dD at this
  rw[hr,aj rfl]at this
  exact this
 have n5:od s'=true:=by
  unfold od at b5 ⊢
  obtain⟨f1,_⟩:=da.1 b5
  rw[o1,fu]
  refine aU λj hj=> ?_
  have:=bt f1 j hj
  unfold sl dD qR at this ⊢
  rw[hs,aj rfl]at this
  rw[o1,aj rfl,←yS,Io _ (lV 6 25 0) k1 k2 h1,yS,yS,flat,jM]
  exact this
 have n8:decide (∀j,j<r'.length→kI b.1 b.2.1 r' j)=true:=aU λj hj=>by
  obtain⟨g0,g1,_⟩:=(sM h2).2.1 _ (pV (d:=bc) hj)
  rw[g0]at g1
  exact Ir (Q:=Ip b.1 b.2.1) q8 (λx hx=>(ge x hx).2) g1
 have n9:decide (∀j,j<s'.length→jQ c b.2.1 s' j)=true:=aU λj hj=>by
  obtain⟨g0,g1,_⟩:=(sM h1).2.1 _ (pV (d:=bc) hj)
  rw[g0]at g1
  exact Ir (Q:=Iq c b.2.1) q9 (λx hx=>(gs x hx).2) g1
 unfold dg
 simp only[bM]
 exact⟨b1,b2,o2,n4,n5,b6,b7,n8,n9,b10,b11⟩
end VM
end
section
namespace VM
open Go VM.F
variable(N:Nat)
theorem jk{α:Type}{l:List α}{d:α}{i:Nat}(h:i<l.length):l.getD i d=l[i]:=by
 rw[aV,bm h];rfl
theorem gS{α:Type}{d:α}{l:List α}{Q:α→Prop}:(∀j,j<l.length→Q (l.getD j d))↔ ∀x∈l,Q x:=
 ⟨λh x hx=>by
  obtain⟨i,hi,e⟩:=gE hx
  rw[←e,←jk (d:=d) hi];exact h i hi,λh j hj=>h _ (pV hj)⟩
theorem pg{α:Type}{d:α}{R:α→α→Prop}(tr: ∀a b c,R a b→R b c→R a c): ∀l:List α,(∀j,j<l.length→0<j→R (l.getD (j-1) d) (l.getD j d))↔l.Pairwise R
 |[]=>⟨λ_=>List.Pairwise.nil,λ_ j hj=>nomatch hj⟩
 |[x]=>⟨λ_=>FT R x,λ_ j hj h0=>by have:j<1:=hj;omega⟩
 |x::y::t=>by
  rw[eX,←pg tr (y::t)]
  constructor
  ·intro h
   have hxy:R x y:=h 1 (by simp) ω
   have ht: ∀j,j<(y::t).length→0<j→R ((y::t).getD (j-1) d) ((y::t).getD j d):=λj hj h0=>by
    have:=h (j+1) (by simpa using hj) ω
    obtain⟨k,rfl⟩: ∃k,j=k+1:=⟨j-1,ω⟩
    exact this
   have hp:=(pg tr (y::t)).1 ht
   refine⟨λz hz=> ?_,ht⟩
   rcases a8.1 hz with rfl|hz
   ·exact hxy
   ·exact tr _ _ _ hxy ((eX.1 hp).1 z hz)
  ·rintro⟨h1,h2⟩ j hj h0
   obtain⟨k,rfl⟩: ∃k,j=k+1:=⟨j-1,ω⟩
   cases k with
   |zero=>exact h1 y (bs ..)
   |succ k=>exact h2 (k+1) (by simpa using hj) ω
def aae(x y:Bx):Prop:=lI x.1 y.1
def P4(x y:cF):Prop:=lI x.1 y.1
def Lb(x y:fZ):Prop:=lI x.1 y.1
theorem Dh{a b c:Int}(h1:lI a b)(h2:lI b c):lI a c:=Int.lt_trans h1 h2
def aaf(a b:Int):Prop:=1≤a∧a≤12∧1≤b∧b≤4
theorem gV{m:aE}:dI m=true↔(∀x∈m,aaf x.1 x.2.1)∧m.Pairwise aae:=by
 unfold dI
 rw[fu,fU,←pg (R:=aae) (d:=c8) (λ_ _ _=>Dh),←gS (d:=c8)]
 exact⟨λh=>⟨λj hj=>⟨(h j hj).1,(h j hj).2.1,(h j hj).2.2.1,(h j hj).2.2.2.1⟩,λj hj h0=>(h j hj).2.2.2.2 h0⟩,λh j hj=>⟨(h.1 j hj).1,(h.1 j hj).2.1,(h.1 j hj).2.2.1,(h.1 j hj).2.2.2,λh0=>h.2 j hj h0⟩⟩
def aqg(x y:cF):Prop:=dD x.2.2.1 1∧dD y.2.2.1 1∧dD x.2.1 y.2.1
def SV(x:cF):Prop:=m9 x.1 x.2.1 x.2.2.1 x.2.2.2.1
def ntw(x y:cF):Prop:= ¬aqg x y
theorem qa{a:aO}:gQ a=true↔(∀x∈a,SV x)∧a.Pairwise P4∧a.Pairwise ntw:=by
 unfold gQ
 rw[fu,fU,←pg (R:=P4) (d:=ba) (λ_ _ _=>Dh),←gS (d:=ba),u5]
 constructor
 ·refine λh=>⟨λj hj=>(h j hj).1,λj hj h0=>(h j hj).2.1 h0,λi j hi hj qh ht=>(h j hj).2.2 ⟨?_,xE.2 ⟨i,qh,?_,?_⟩⟩⟩
  ·rw[jk hj];exact ht.2.1
  ·rw[jk hi];exact ht.1
  ·rw[jk hi,jk hj];exact ht.2.2
 ·rintro⟨h1,h2,h3⟩ j hj
  refine⟨h1 j hj,λh0=>h2 j hj h0,λ⟨ht,ho⟩=> ?_⟩
  obtain⟨i,qh,e1,e2⟩:=xE.1 ho
  rw[jk hj]at ht e2
  rw[jk (show i<a.length by omega)]at e1 e2
  exact h3 i j ω hj qh ⟨e1,ht,e2⟩
theorem lC{l:aY}:dm l=true↔(∀x∈l,qE x)∧l.Pairwise Lb∧l.length≤32:=by
 unfold dm
 rw[da,fU,fU,←pg (R:=Lb) (d:=eC) (λ_ _ _=>Dh),←gS (d:=eC)]
 exact⟨λh=>⟨λj hj=>(h.1 j hj).1,λj hj h0=>(h.1 j hj).2 h0,h.2⟩,λh=>⟨λj hj=>⟨h.1 j hj,λh0=>h.2.1 j hj h0⟩,h.2.2⟩⟩
def jX(m:aE)(n:Int):Prop:= ∃x∈m,dD x.1 n
def q5(a:aO)(n:Int):Prop:= ∃x∈a,dD x.1 n
theorem gW{n:Int}: ∀{m:aE},(∀x∈m,aaf x.1 x.2.1)→(¬dD (kH n m) 0↔jX m n)
 |[],_=>⟨λh=>absurd rfl h,λ⟨_,h,_⟩=>nomatch h⟩
 |x::t,h=>by
  have ih:=gW (n:=n) λy hy=>h y (aZ _ hy)
  have hx:=h x (bs ..)
  rw[vC]
  by_cases e:x.1=n
  ·rw[aj e]
   have g: ∀v:Int,1≤v→ ¬dD v 0:=λv h1 h2=>by unfold dD at h2;omega
   exact⟨λ_=>⟨x,bs ..,e⟩,λ_=>g _ hx.2.2.1⟩
  ·rw[ah e,ih]
   exact⟨λ⟨y,hy,h⟩=>⟨y,aZ _ hy,h⟩,λ⟨y,hy,h'⟩=>(a8.1 hy).elim (λk=>absurd (k▸h') e) λhy=>⟨y,hy,h'⟩⟩
theorem Di{n:Int}: ∀{a:aO},(uG n a).2=true↔q5 a n
 |[]=>⟨λh=>(nomatch h),λ⟨_,h,_⟩=>nomatch h⟩
 |x::t=>by
  rw[o4]
  by_cases e:x.1=n
  ·rw[aj e]
   exact⟨λ_=>⟨x,bs ..,e⟩,λ_=>rfl⟩
  ·rw[ah e,Di]
   exact⟨λ⟨y,hy,h⟩=>⟨y,aZ _ hy,h⟩,λ⟨y,hy,h'⟩=>(a8.1 hy).elim (λk=>absurd (k▸h') e) λhy=>⟨y,hy,h'⟩⟩
theorem vX{m:aE}(h:dI m=true)(n:Int): ¬dD (gJ m n) 0↔jX m n:=by
 unfold gJ;rw[aj h];exact gW (gV.1 h).1
theorem qb{a:aO}(h:gQ a=true)(n:Int):(eV a n).2=true↔q5 a n:=by
 unfold eV;rw[aj h];exact Di
def kf(m:aE)(a:aO)(k n:Int):Prop:=(dD k 5→q5 a n)∧(dD k 6∨dD k 7→jX m n)
def zt(c:ae)(a:aO)(k n:Int):Prop:=(dD k 0∨q5 a k)∧lI n c.1.length
def Is(c:ae)(a:aO)(x:fZ):Prop:=q5 a x.2.1∧lI x.2.2.1 c.1.length
theorem ML{m:aE}{a:aO}(hm:dI m=true)(ha:gQ a=true){k n:Int}:Ip m a k n↔kf m a k n:=by
 unfold Ip kf;rw[qb ha,vX hm]
theorem MM{c:ae}{a:aO}(ha:gQ a=true){k n:Int}:Iq c a k n↔zt c a k n:=by
 unfold Iq zt;rw[qb ha]
structure RB(C:ae)(b:an):Prop where
 c:eR C=true
 m:dI b.1=true
 a:gQ b.2.1=true
 ma: ∀x∈b.2.1,jX b.1 x.2.1
 r:eJ b.2.2.1=true
 t:dD (il b.2.2.1) 0
 s:od b.2.2.2.1=true
 o:dm b.2.2.2.2.2.1=true
 n:dD b.2.2.2.2.1.length C.1.length
 rk: ∀x∈b.2.2.1,kf b.1 b.2.1 x.1 x.2.1
 sk: ∀x∈b.2.2.2.1,zt C b.2.1 x.1 x.2.1
 ok: ∀x∈b.2.2.2.2.2.1,Is C b.2.1 x
 p:fi b.2.2.2.2.1=true
theorem oh{c:ae}{b:an}:dg c b=true↔RB c b:=by
 unfold dg sj
 simp only[bM,fu,fU]
 constructor
 ·rintro⟨b1,⟨b2,b2',ald⟩,b3,b4,b5,b6,b7,b8,b9,b10,b11⟩
  refine⟨b1,b2,b2',?_,b3,b4,b5,b6,b7,?_,?_,?_,b11⟩
  ·exact(gS (d:=ba) (Q:=λx=>jX b.1 x.2.1)).1 λj hj=>(gW (gV.1 b2).1).1 (ald j hj)
  ·exact(gS (d:=bc) (Q:=λx=>kf b.1 b.2.1 x.1 x.2.1)).1 λj hj=>(ML b2 b2').1 (b8 j hj)
  ·exact(gS (d:=bc) (Q:=λx=>zt c b.2.1 x.1 x.2.1)).1 λj hj=>(MM b2').1 (b9 j hj)
  ·exact(gS (d:=eC) (Q:=λx=>Is c b.2.1 x)).1 λj hj=>⟨(qb b2' _).1 (b10 j hj).1,(b10 j hj).2⟩
 ·rintro⟨b1,b2,b2',ald,b3,b4,b5,b6,b7,b8,b9,b10,b11⟩
  refine⟨b1,⟨b2,b2',?_⟩,b3,b4,b5,b6,b7,?_,?_,?_,b11⟩
  ·exact λj hj=>(gW (gV.1 b2).1).2 ((gS (d:=ba) (Q:=λx=>jX b.1 x.2.1)).2 ald j hj)
  ·exact λj hj=>(ML b2 b2').2 ((gS (d:=bc) (Q:=λx=>kf b.1 b.2.1 x.1 x.2.1)).2 b8 j hj)
  ·exact λj hj=>(MM b2').2 ((gS (d:=bc) (Q:=λx=>zt c b.2.1 x.1 x.2.1)).2 b9 j hj)
  ·exact λj hj=>let h:=(gS (d:=eC) (Q:=λx=>Is c b.2.1 x)).2 b10 j hj;⟨(qb b2' _).2 h.1,h.2⟩
theorem RB.WT{c:ae}{b:an}(h:RB c b){m:aE}{a:aO}(hm:dI m=true)(ha:gQ a=true)(mm: ∀n,jX b.1 n→jX m n)(aa: ∀n,q5 b.2.1 n→q5 a n)(ma: ∀x∈a,jX m x.2.1):
  RB c (m,(a,b.2.2)):=
 ⟨h.c,hm,ha,ma,h.r,h.t,h.s,h.o,h.n,λx hx=>⟨λe=>aa _ ((h.rk x hx).1 e),λe=>mm _ ((h.rk x hx).2 e)⟩,λx hx=>⟨(h.sk x hx).1.imp id (aa _),(h.sk x hx).2⟩,λx hx=>⟨aa _ (h.ok x hx).1,(h.ok x hx).2⟩,h.p⟩
theorem RB.MN{c:ae}{b:an}(h:RB c b){o:aY}(ho:dm o=true)(hk: ∀x∈o,Is c b.2.1 x):RB c (b.1,(b.2.1,(b.2.2.1,(b.2.2.2.1,(b.2.2.2.2.1,(o,())))))):=
 ⟨h.c,h.m,h.a,h.ma,h.r,h.t,h.s,ho,h.n,h.rk,h.sk,hk,h.p⟩
theorem RB.aqi{c:ae}{b:an}(h:RB c b){s e s' r':au}(h1:dH Fq (fS b.2.2.2.1 s) iU=some s')(h2:dH aF (fS b.2.2.1 e) mc=some r')
  (gs: ∀x∈s,cj x.1 x.2.1∧zt c b.2.1 x.1 x.2.1) (flat: ∀i:Int,(df i s).sum=0) (ge: ∀x∈e,c9 x.1 x.2.1∧kf b.1 b.2.1 x.1 x.2.1) (zero:(e.map dT).sum=0):RB c (b.1,(b.2.1,(r',(s',b.2.2.2.2)))):=
 oh.1 (MK (oh.2 h) h1 h2 (λx hx=>⟨(gs x hx).1,(MM h.a).2 (gs x hx).2⟩) flat (λx hx=>⟨(ge x hx).1,(ML h.m h.a).2 (ge x hx).2⟩) zero)
abbrev RBs(c:ae)(b b':an):Prop:=RB c b'∧b'.1=b.1∧b'.2.1=b.2.1∧b'.2.2.2.2=b.2.2.2.2
theorem RB.cC{c:ae}{b:an}(h:RB c b){s e:au}(gs: ∀x∈s,cj x.1 x.2.1∧zt c b.2.1 x.1 x.2.1)(flat: ∀i:Int,(df i s).sum=0)
  (ge: ∀x∈e,c9 x.1 x.2.1∧kf b.1 b.2.1 x.1 x.2.1) (zero:(e.map dT).sum=0) (h0:(VM.cC b s e).2=0):RBs c b (VM.cC b s e).1:=by
 rcases z7 b s e with⟨h1,_⟩|⟨s',r',h1,h2,h3⟩
 ·rw[h1]at h0;exact absurd h0 δ
 ·rw[h3];exact⟨h.aqi h1 h2 gs flat ge zero,rfl,rfl,rfl⟩
theorem yT: ∀{l:au} {x:dd},so (l.map keyOf)→x∈l→gR x.1 x.2.1 l=dT x
 |[],_,_,h=>nomatch h
 |y::t,x,hs,h=>by
  obtain⟨h1,h2⟩:=eX.1 hs
  rw[iJ]
  rcases a8.1 h with rfl|h
  ·rw[aj rfl,aj rfl];rfl
  ·have ko: ¬(y.1=x.1∧y.2.1=x.2.1):=λe=>by
    have hk:=h1 (keyOf x) (fm h)
    have he:keyOf y=keyOf x:=g7 e.1 e.2
    rw[he]at hk
    exact oj hk
   by_cases e1:y.1=x.1
   ·rw[aj e1,ah (λe2=>ko ⟨e1,e2⟩)];exact yT h2 h
   ·rw[ah e1];exact yT h2 h
theorem Dj{P:Int→Prop} [DecidablePred P]{f:Int→Int→Int}: ∀{t:au},(∀x∈t,f x.1 x.2.1=dT x∧dT x≠0∧P (dT x))→dH P f (t.map keyOf)=some t
 |[],_=>rfl
 |x::t,h=>by
  obtain⟨h1,h2,h3⟩:=h x (bs ..)
  rw[bQ,iy]
  show(if P (f x.1 x.2.1)then(dH P f (t.map keyOf)).map (λo=>if f x.1 x.2.1=0 then o else(x.1,(x.2.1,(f x.1 x.2.1,())))::o)else none)=_
  rw[h1,aj h3,Dj λy hy=>h y (aZ _ hy),Option.map_some,ah h2];rfl
theorem adD{l:au}(h:eJ l=true): ∀x∈l,dT x≠0:=by
 unfold eJ at h
 rw[fu]at h
 exact(gS (d:=bc) (Q:=λx=>dT x≠0)).1 λj hj=>((bt h) j hj).2.1
theorem WU{l:au}(h:eJ l=true)(hq:eK l):dH aF (fS l []) mc=some l:=by
 rw[←O8 (E:=[]) h (λx hx=>nomatch hx)]
 exact Dj λx hx=>⟨by
  unfold fS
  rw[uI,jM,←nB (lA h).1]
  exact yT (lA h).1 hx,adD h x hx,hq x hx⟩
theorem Lc{l:au}(h:de l=true): ∀x∈l,dT x≠0:=by
 unfold de at h
 rw[fu]at h
 exact(gS (d:=bc) (Q:=λx=>dT x≠0)).1 λj hj=>((bt h) j hj).2.1
theorem SW{l:au}(h:de l=true)(hq:eK l):dH Fq (fS l []) iU=some l:=by
 rw[←KB (E:=[]) h (λx hx=>nomatch hx)]
 exact Dj λx hx=>⟨by
  unfold fS
  rw[uI,jM,←nB (dW h).1]
  exact yT (dW h).1 hx,Lc h x hx,hq x hx,((dW h).2 x hx).2⟩
theorem Sj{b:an}{s e:au}(hr:eJ b.2.2.1=true)(hs:de b.2.2.2.1=true)(qr:eK b.2.2.1)(qs:eK b.2.2.2.1)(h1: ∀a i,cS a i s=0)(h2: ∀a i,cS a i e=0):cC b s e=(b,0):=by
 have e1:fS b.2.2.2.1 s=fS b.2.2.2.1 []:=by funext a i;unfold fS;rw[h1,uI]
 have e2:fS b.2.2.1 e=fS b.2.2.1 []:=by funext a i;unfold fS;rw[h2,uI]
 unfold VM.cC
 rw[e1,e2,SW hs qs,WU hr qr]
end VM
end
section
namespace VM
open Go VM.F Go.RowKit
variable(N:Nat)
theorem aag{c:ae}{b:an}(hR:RB c b)(a:Int):o6 c (posOf b.2.2.2.1 a)=true:=by
 have hk:=(eS (oh.2 hR)).2
 obtain⟨h1,h2⟩:=dW hk
 have e:posOf b.2.2.2.1 a=nf a b.2.2.2.1:=by unfold posOf;rw[aj hk]
 rw[e]
 have hs:(nf a b.2.2.2.1).Pairwise (λx y:Bx=>lI x.1 y.1):=wW.1 (Ed (a:=a) h1)
 have hc:=(pg (R:=λx y:Bx=>lI x.1 y.1) (d:=c8) (λ_ _ _=>Dh) _).2 hs
 unfold o6
 refine da.2 ⟨aU λj hj=> ?_,hR.c⟩
 obtain⟨x,hx,_,e⟩:=ng (pV (d:=c8) hj)
 have hp:=hc j hj
 unfold og
 rw[e]at hp ⊢
 exact⟨(h2 x hx).1.2.2.1,(hR.sk x hx).2,Lc hk x hx,(h2 x hx).2,λh0=>hp h0⟩
end VM
end
section
namespace VM
open Go VM.F
variable(N:Nat)
def iZ(inst d:Int):au→au
 |[]=>[]
 |x::t=>if x.2.1=inst∧d≠0 then sr x.1 (dT x*d)::iZ inst d t else iZ inst d t
theorem tM(inst d:Int)(x:dd)(t:au):iZ inst d (x::t)=if x.2.1=inst∧d≠0 then sr x.1 (dT x*d)::iZ inst d t else iZ inst d t:=rfl
theorem It(inst d:Int): ∀l:au,(iZ inst d l).length≤l.length
 |[]=>aH _
 |x::t=>by
  have:=It inst d t
  rw[tM]
  split<;>simp only[aT]<;>omega
theorem Iu(inst d:Int): ∀l:au,((iZ inst d l).map dT).sum=(if d≠0 then(df inst l).sum*d else 0)
 |[]=>by simp[iZ,df]
 |x::t=>by
  have:=Iu inst d t
  rw[tM,dx]
  by_cases hd:d≠0
  ·rw[aj hd]at this ⊢
   by_cases hx:x.2.1=inst
   ·rw[aj ⟨hx,hd⟩,aj hx,bQ,cE,cE,ia,this,pK]
   ·rw[ah (λh=>hx h.1),ah hx,this]
  ·rw[ah hd]at this ⊢
   rw[ah (λh=>hd h.2),this]
theorem vY{inst d:Int}: ∀{l:au} {y:dd},y∈iZ inst d l→ ∃x∈l,x.2.1=inst∧y=sr x.1 (dT x*d)
 |[],y,h=>nomatch h
 |x::t,y,h=>by
  rw[tM]at h
  split at h
  ·rename_i hx
   rcases a8.1 h with e|h
   ·exact⟨x,bs ..,hx.1,e⟩
   ·obtain⟨z,h1,h2⟩:=vY h
    exact⟨z,aZ _ h1,h2⟩
  ·obtain⟨z,h1,h2⟩:=vY h
   exact⟨z,aZ _ h1,h2⟩
def B0(l:au)(inst qf new:Int):au×Int:=if de l then(if dj qf then(if dj new then(iZ inst (new-qf) l,0)else([],1))else([],1))else([],1)
theorem P5{l:au}(hq:eK l)(hl:l.length≤100000)(hN:200000≤N)(inst:Int){qf new:Int}(ho:dj qf)(hn:dj new):
  Ev.l5 N N inst qf new [] l (l.length:Int) 0=some ((iZ inst (new-qf) l).map iI,0):=by
 have hp: -9223372036854775808≤new-qf∧new-qf<9223372036854775808:=by unfold dj at ho hn;omega
 have:=n0 l bc (λn i s=>Ev.l5 N n inst qf new (s.map iI) l (l.length:Int) i) (λt s=>some ((s++iZ inst (new-qf) t).map iI,(0:Int))) (λi (s:au)=>s.length≤i) (λn i s hi hI hr=> ?_) (λn s hI=> ?_) l.length N 0 [] ω ω ω (aH _)
 ·have e:=this
  rw[cV,cN]at e
  exact e
 ·unfold Ev.l5 Ev.eo
  have nJ:=xG hq i
  unfold aF dT at nJ
  rw[aR ω,ak,aW ω ω,ak,aI,aw (x:=(i:Int)+1) ω ω,af i,aM,cond_not,aM,tM]
  by_cases hx:(l.getD i bc).2.1=inst
  ·rw[aj hx]
   by_cases hd:new=qf
   ·rw[aj hd,ah (λh=>h.2 ω)]
    exact hr s ω
   ·rw[ah hd,aj ⟨hx,ω⟩,aw (x:=new-qf) hp.1 hp.2,L8 N nJ.1 nJ.2 hp.1 hp.2,ar,C5,ar,bY (by rw[cK,aJ];omega),ak]
    have h2:=hr (s++[sr (l.getD i bc).1 ((l.getD i bc).2.2.1*(new-qf))]) (by rw[aS,aJ];omega)
    rw[dn]at h2
    refine Eq.trans h2 ?_
    rw[bE];rfl
  ·rw[ah hx,ah (λh=>hx h.1)]
   exact hr s ω
 ·unfold Ev.l5 Ev.eo
  rw[aP ω,av,show iZ inst (new-qf) []=[]from rfl,cw]
theorem WV{l:au}(hq:eK l)(hl:l.length≤100000)(hN:200000≤N)(inst qf new:Int):
  Ev N l inst qf new=some ((B0 l inst qf new).1.map iI,(B0 l inst qf new).2):=by
 unfold Ev Ev.b B0
 rw[xD N hl hN,ar,su,ar,su,ar,cond_not,cond_not,cond_not]
 cases de l
 ·rfl
 ·by_cases ho:dj qf
  ·by_cases hn:dj new
   ·rw[aU ho,aU hn,aj ho,aj hn]
    exact P5 N hq hl hN inst ho hn
   ·rw[aU ho,bx hn,aj ho,ah hn];rfl
  ·rw[bx ho,ah ho];rfl
theorem aqj{q x:Int}(h0:0≤x)(h1:x<9223372036854775808):aF (sg q x)∧qQ (sg q x):=by
 unfold sg aF qQ;split<;>omega
theorem aah{t left:Int}{w out:List Int}(f:Full t w w out left)(i:Nat)(hi:i<w.length):0≤out.getD i 0∧out.getD i 0<9223372036854775808:=by
 have c:=f.c
 have h1:=c.le i hi
 have h2:=(c.pc i).2
 have h3:=c.po i
 omega
theorem WW{a q:Int}{accs out:List Int}(hl:accs.length=out.length)(hle:out.length≤1000)(ho: ∀i,i<out.length→0≤out.getD i 0∧out.getD i 0<9223372036854775808)(s:au)(hs:s.length≤1000)(hN:200000≤N):
  gl.WM N N a q accs out s 0=some (s++zc a q (out.zip accs),0):=by
 have hz:(out.zip accs).length=out.length:=by rw[wY];omega
 have:=n0 (out.zip accs) (0,0) (λn i s=>gl.WM N n a q accs out s i) (λt s=>some (s++zc a q t,(0:Int))) (λi (s:au)=>s.length≤1000+i) (λn i s hi hI hr=> ?_) (λn s hI=> ?_) out.length N 0 s ω ω ω ω
 ·exact this
 ·unfold gl.WM gl.Z7
  have nV:i<out.length:=ω
  have h2:=ho i nV
  rw[aR ω,ak,aW ω ω,ak,aI,aW ω ω,ak,aw (x:=(i:Int)+1) ω ω,af i,aw (x:=0-out.getD i 0) ω ω,ZA nV ω,FG]
  dsimp only
  rw[ak,bY (by rw[aJ];omega),ak,bY (by rw[aJ];omega),ak]
  have e:sg q (out.getD i 0)=if q<0 then 0-out.getD i 0 else out.getD i 0:=rfl
  rw[cA,cond_not,cond_not,aM,aM]
  have fin:(if sg q (out.getD i 0)=0 then gl.WM N n a q accs out s ((i+1:Nat):Int)else gl.WM N n a q accs out (s++[(accs.getD i 0,(a,(sg q (out.getD i 0),())))]) ((i+1:Nat):Int))=some (s++(if sg q (out.getD i 0)=0 then zc a q ((out.zip accs).drop (i+1))else(accs.getD i 0,(a,(sg q (out.getD i 0),())))::zc a q ((out.zip accs).drop (i+1))),(0:Int)):=by
   by_cases h:sg q (out.getD i 0)=0
   ·rw[aj h,aj h];exact hr s ω
   ·rw[ah h,ah h,hr _ (by rw[aS,aJ];omega),bE];rfl
  refine Eq.trans ?_ fin
  by_cases h:q<0
  ·rw[aj h,e,aj h]
  ·rw[ah h,e,ah h]
 ·unfold gl.WM gl.Z7
  rw[hz,aP ω,av]
  show _=some (s++[],(0:Int))
  rw[cw]
theorem UM{l:au}(h: ∀x∈l,aF (dT x)∧qQ (dT x))(a b:Int):aF (gj l a b)∧qQ (gj l a b):=by
 have key: ∀l:au,(∀x∈l,aF (dT x)∧qQ (dT x))→aF (gR a b l)∧qQ (gR a b l):=by
  intro l
  induction l with
  |nil=>intro _;show aF 0∧qQ 0;decide
  |cons x t ih=>
   intro h
   have ih:=ih (λy hy=>h y (aZ _ hy))
   rw[iJ]
   split
   ·split
    ·exact h x (bs ..)
    ·exact ih
   ·exact ih
 unfold gj
 split
 ·exact key l h
 ·decide
theorem MO(l:au):(zr l).length=l.length:=cK ..
theorem B1(l:au):(jT l).length=l.length:=cK ..
theorem Ld{q:Int}(h:aF q∧qQ q):(q.natAbs:Int)<9223372036854775808:=by unfold aF qQ at h;omega
theorem MP{l:au}(hk:de l=true)(hq:eK l): ∀x∈l,aF (dT x)∧qQ (dT x):=λx hx=>⟨hq x hx,((dW hk).2 x hx).2⟩
theorem Le{l:au}(hk:de l=true)(hq:eK l){a q:Int}(nJ:aF q∧qQ q)(hc:(kK l a q).2.2=0):
  Full (q.natAbs:Int) (jT (gy a q l)) (jT (gy a q l)) (kK l a q).1 (kK l a q).2.1∧(kK l a q).1.length=(gy a q l).length∧(kK l a q).1.length≤64∧ ∀i,i<(kK l a q).1.length→0≤(kK l a q).1.getD i 0∧(kK l a q).1.getD i 0<9223372036854775808:=by
 have f:Full (q.natAbs:Int) (jT (gy a q l)) (jT (gy a q l)) (kK l a q).1 (kK l a q).2.1:=HX (Ld nJ) (C9 (MP hk hq) a q) hc
 have h1:=f.c.l2
 have h2:=f.c.n
 rw[B1]at h1 h2
 exact⟨f,h1,ω,λi hi=>aah f i (by rw[B1];omega)⟩
theorem aai{l:au}(h:de l=true): ∀x∈l,dT x≠0:=λx hx=>by
 unfold de at h
 rw[fu]at h
 obtain⟨i,hi,e⟩:=gE hx
 have:=bt h i hi
 unfold mJ m7 at this
 rw[aV,bm hi]at this
 simp only[nO,e]at this
 exact this.2.1
theorem aaj{x:Int}(h:aF x∧qQ x):mx x (W .i64 (0-x))=(x.natAbs:Int):=by
 unfold aF qQ at h
 rw[aw ω ω,aid];split<;>omega
theorem P6{x q:Int}(hx:x≠0)(hq:q≠0):JL x q↔ ¬((0<x)↔(0<q)):=by
 unfold JL;omega
theorem aak(hN:5000000≤N)(c:ae){b:an}(w:oe b)(a:Int):gl N c b a=some (vS c b a):=by
 unfold gl gl.b vS
 rw[Hr N ω w,ar,FF N w.s ω,ar,cond_not,cA,cB,aM]
 by_cases hB:dg c b=false
 ·rw[hB];rfl
 rw[rF]at hB
 rw[hB,ak,aj rfl]
 obtain⟨_,hk⟩:=eS hB
 have hq:=MP hk w.qs
 have hnz:=aai hk
 have hh:=UM hq 0 a
 have hlen:=w.s
 have hqs:=w.qs
 generalize gj b.2.2.2.1 0 a=q at*
 by_cases h1:a<0
 ·rw[aj h1,aj h1]
 rw[ah h1,ah h1]
 by_cases h2:(c.1.length:Int)≤a
 ·rw[aj h2,aj h2]
 rw[ah h2,ah h2]
 by_cases h3:q=0
 ·rw[aj h3,aj h3]
 rw[ah h3,ah h3]
 have oG:=hh.1
 unfold aF at oG
 have hqn:q≠ -9223372036854775808:=hh.2
 have:=n0 b.2.2.2.1 bc (λn i (z:au)=>gl.zW N n a b q (zr z) (jT z) i)
  (λt z=>some (if(kK b.2.2.2.1 a q).2.2=0 then(acV b.2.2.2.1 a q,0)else([],(kK b.2.2.2.1 a q).2.2))) (λi z=>z++gy a q (b.2.2.2.1.drop i)=gy a q b.2.2.2.1∧z.length≤i)
  (λn i z hi hI hr=> ?_) (λn z hI=> ?_) b.2.2.2.1.length N 0 [] ω ω ω ⟨rfl,aH _⟩
 ·exact this
 ·unfold gl.zW gl.xK
  obtain⟨i1,i2⟩:=hI
  have hm:b.2.2.2.1.getD i bc∈b.2.2.2.1:=by
   rw[aV,bm hi];exact dJ hi
  have hx:=hq _ hm
  have hn:=hnz _ hm
  rw[drop_cons hi bc,sA]at i1
  rw[aR ω,ak,aW ω ω,ak,aI,aw (x:=(i:Int)+1) ω ω,af i]
  generalize b.2.2.2.1.getD i bc=x at*
  have Ni:mx x.2.2.1 (W .i64 (0-x.2.2.1))=(x.2.2.1.natAbs:Int):=aaj hx
  rw[bY (by rw[MO,aJ];omega),ak,Ni]
  dsimp only
  rw[bY (by rw[B1,aJ];omega),ak,cond_not,aM,aM,cond_not,pR,qd,qd]
  by_cases e1:x.1=0
  ·rw[aj e1]
   rw[ah (λh=>h.1 e1)]at i1
   exact hr z ⟨i1,ω⟩
  ·rw[ah e1]
   by_cases e2:x.2.1=a
   ·rw[aj e2]
    by_cases e3:JL (dT x) q
    ·have eb:(decide (0<x.2.2.1)==decide (0<q))=false:=by
      have e3:=(P6 hn h3).1 e3
      unfold dT at e3
      by_cases g1:0<x.2.2.1<;>by_cases g2:0<q
      ·exact absurd ⟨λ_=>g2,λ_=>g1⟩ e3
      ·rw[aU g1,bx g2];rfl
      ·rw[bx g1,aU g2];rfl
      ·exact absurd ⟨λh=>absurd h g1,λh=>absurd h g2⟩ e3
     rw[eb,av]
     rw[aj ⟨e1,e2,e3⟩]at i1
     have:=hr (z++[x]) ⟨by rw[bE];exact i1,by rw[aS,aJ];omega⟩
     unfold zr jT at this
     rw[dn,dn]at this
     exact this
    ·have eb:(decide (0<x.2.2.1)==decide (0<q))=true:=by
      have e3:=F2.1 (λh=>e3 ((P6 hn h3).2 h))
      unfold dT at e3
      rw[show decide (0<x.2.2.1)=decide (0<q)from nQ.2 e3]
      exact AB _
     rw[eb,ak]
     rw[ah (λh=>e3 h.2.2)]at i1
     exact hr z ⟨i1,ω⟩
   ·rw[ah e2]
    rw[ah (λh=>e2 h.2.1)]at i1
    exact hr z ⟨i1,ω⟩
 ·unfold gl.zW gl.xK
  obtain⟨i1,i2⟩:=hI
  rw[mT]at i1
  have ez:z=gy a q b.2.2.2.1:=by rw[←i1];exact(cw _).symm
  subst ez
  have qB:=B1 (gy a q b.2.2.2.1)
  have Cw:=KV a q b.2.2.2.1
  rw[aP ω,av,aaj hh,HW N hN (Ld hh) (C9 hq a q) (C9 hq a q) (by rw[qB];omega),ar,cond_not,aM,aw (x:=0-q) ω ω]
  show(if(kK b.2.2.2.1 a q).2.2=0 then _ else _)=_
  by_cases h4:(kK b.2.2.2.1 a q).2.2=0
  ·rw[aj h4,aj h4]
   obtain⟨f,g1,g2,g3⟩:=Le hk hqs hh h4
   exact WW N (by rw[MO];omega) ω g3 _ (by simp) ω
  ·rw[ah h4,ah h4];rfl
end VM
end
section
namespace VM
open Go VM.F Go.RowKit
variable(N:Nat)
structure zu(s:au)(n:Nat):Prop where
 place: ∀x∈s,cj x.1 x.2.1
 q: ∀x∈s,aF (dT x)∧qQ (dT x)
 len:s.length≤n
 flat: ∀i:Int,(df i s).sum=0
theorem zu.nil(n:Nat):zu [] n:=⟨λx hx=>(nomatch hx),λx hx=>(nomatch hx),bz _,λi=>rfl⟩
theorem zu.app{s t:au}{n m k:Nat}(a:zu s n)(b:zu t m)(h:n+m≤k):zu (s++t) k:=
 ⟨λx hx=>(bk.1 hx).elim (a.place x) (b.place x),λx hx=>(bk.1 hx).elim (a.q x) (b.q x),by rw[aS];have:=a.len;have:=b.len;omega,λi=>by rw[JK,kQ,a.flat,b.flat];rfl⟩
theorem SX(a q i:Int): ∀t:List (Int×Int),(df i (zc a q t)).sum=if a=i then sg q (t.map (·.1)).sum else 0
 |[]=>by
  show(0:Int)=if a=i then sg q 0 else 0
  unfold sg;split<;>(try split)<;>rfl
 |p::t=>by
  have ih:=SX a q i t
  have hs:sg q ((p::t).map (·.1)).sum=sg q p.1+sg q (t.map (·.1)).sum:=by
   rw[bQ,cE];unfold sg;split<;>omega
  rw[FG,hs]
  by_cases h:sg q p.1=0
  ·rw[aj h,ih,h];split<;>omega
  ·rw[ah h,dx]
   dsimp only
   by_cases e:a=i
   ·rw[aj e,aj e,cE,ih,aj e];rfl
   ·rw[ah e,ah e,ih,ah e]
theorem MQ{a q:Int}{x:dd}: ∀{t:List (Int×Int)},x∈zc a q t→ ∃p∈t,x=(p.2,(a,(sg q p.1,())))
 |[],h=>nomatch h
 |p::t,h=>by
  rw[FG]at h
  split at h
  ·obtain⟨p',hp,e⟩:=MQ h
   exact⟨p',aZ _ hp,e⟩
  ·rcases a8.1 h with e|h
   ·exact⟨p,bs ..,e⟩
   ·obtain⟨p',hp,e⟩:=MQ h
    exact⟨p',aZ _ hp,e⟩
theorem aal(a q:Int): ∀t:List (Int×Int),(zc a q t).length≤t.length
 |[]=>aH _
 |p::t=>by
  have:=aal a q t
  rw[FG,aT]
  split
  ·omega
  ·rw[aT];omega
theorem Ew{c:ae}{b:an}(h:dg c b=true):od b.2.2.2.1=true∧eR c=true:=by
 unfold dg at h
 have h0:=da.1 h
 have h1:=(da.1 h0.2).2
 have h2:=da.1 h1
 exact⟨(da.1 (da.1 h2.2).2).1,h0.1⟩
theorem aam{c:ae}{b:an}(hB:dg c b=true)(w:oe b){a:Int}(h:(vS c b a).2=0):zu (vS c b a).1 65:=by
 obtain⟨_,hk⟩:=eS hB
 obtain⟨hf,Cw⟩:=Ew hB
 have hq:=MP hk w.qs
 have hh:=UM hq 0 a
 obtain⟨hs,I2⟩:=dW hk
 unfold vS at h ⊢
 rw[aj hB]at h ⊢
 by_cases h1:a<0
 ·rw[aj h1];exact zu.nil _
 rw[ah h1]at h ⊢
 by_cases h2:(c.1.length:Int)≤a
 ·rw[aj h2];exact zu.nil _
 rw[ah h2]at h ⊢
 by_cases h3:gj b.2.2.2.1 0 a=0
 ·rw[aj h3];exact zu.nil _
 rw[ah h3]at h ⊢
 by_cases h4:(kK b.2.2.2.1 a (gj b.2.2.2.1 0 a)).2.2=0
 ·rw[aj h4]
  have ale:gR 0 a b.2.2.2.1=gj b.2.2.2.1 0 a:=by unfold gj;rw[hk];rfl
  have hn6:a<6:=by
   unfold eR at Cw
   have:=(bt (da.1 Cw).1).2
   omega
  have hz:(df a b.2.2.2.1).sum=0:=by
   unfold od at hf
   have T7:=bt (da.1 hf).1 a.toNat (by unfold kp;omega)
   unfold sl dD qR at T7
   rw[hk,aj rfl,show((a.toNat:Nat):Int)=a by omega]at T7
   exact T7
  generalize gj b.2.2.2.1 0 a=q at*
  obtain⟨f,g1,g2,g3⟩:=Le hk w.qs hh h4
  have aqk:=Zz f (SD hs hz ale h3)
  have JI:=f.c.s
  rw[aqk,jM]at JI
  have hzl:((kK b.2.2.2.1 a q).1.zip (zr (gy a q b.2.2.2.1))).map (·.1)=(kK b.2.2.2.1 a q).1:=List.map_fst_zip (by rw[MO];omega)
  have hsg:sg q (q.natAbs:Int)=q:=by unfold sg;split<;>omega
  have hzz: ∀x∈zc a q ((kK b.2.2.2.1 a q).1.zip (zr (gy a q b.2.2.2.1))),cj x.1 x.2.1∧aF (dT x)∧qQ (dT x):=λx hx=>by
   obtain⟨p,hp,rfl⟩:=MQ hx
   obtain⟨i,hi,e⟩:=gE hp
   rw[wY]at hi
   have e':=ZA (out:=(kK b.2.2.2.1 a q).1) (accs:=zr (gy a q b.2.2.2.1)) (i:=i) ω ω
   rw[aV,bm (by rw[wY];omega)]at e'
   have ep:p=_:=e.symm.trans e'
   have hr:=g3 i ω
   rw[ep]
   refine⟨?_,aqj hr.1 hr.2⟩
   have hm:(zr (gy a q b.2.2.2.1)).getD i 0∈zr (gy a q b.2.2.2.1):=by
    rw[aV,bm ω];exact dJ _
   obtain⟨y,hy,ey⟩:=cW.1 hm
   have TT:=uO hy
   have hpy:=(I2 y TT.1).1
   have g: ∀u v z:Int,cj u v→v=a→u=z→cj z a:=λu v z h e1 e2=>by rw[←e1,←e2];exact h
   exact g _ _ _ hpy TT.2.2 ey
  refine⟨λx hx=> ?_,λx hx=> ?_,?_,λi=> ?_⟩
  ·rcases a8.1 hx with e|hx
   ·rw[e];show cj 0 a;unfold cj;omega
   ·exact(hzz x hx).1
  ·rcases a8.1 hx with e|hx
   ·rw[e];exact akS hh
   ·exact(hzz x hx).2
  ·unfold acV
   rw[aT]
   have:=aal a q ((kK b.2.2.2.1 a q).1.zip (zr (gy a q b.2.2.2.1)))
   rw[wY]at this
   omega
  ·unfold acV
   rw[dx]
   dsimp only
   by_cases e:a=i
   ·rw[aj e,cE,SX,aj e,hzl,JI,hsg]
    show 0-q+q=0
    omega
   ·rw[ah e,SX,ah e]
 ·rw[ah h4]at h
  exact absurd h h4
namespace Pure
end Pure
end VM
end
section
namespace VM
open Go VM.F
variable(N:Nat)
theorem MR{b:an}{s e:au}(h:(cC b s e).2=0):(cC b s e).1.2.2.2.2=b.2.2.2.2∧(cC b s e).1.1=b.1∧(cC b s e).1.2.1=b.2.1:=by
 have n2: ¬(2:Int)=0:=δ
 unfold cC at h ⊢
 cases h1:dH Fq (fS b.2.2.2.1 s) iU with
 |none=>rw[h1]at h;exact absurd h n2
 |some s'=>
  rw[h1]at h
  cases hc:dH aF (fS b.2.2.1 e) mc with
  |none=>dsimp only at h;rw[hc]at h;exact absurd h n2
  |some r'=>exact⟨rfl,rfl,rfl⟩
def P7(m:an)(ps:List Int)(i p:Int):an:=(m.1,(m.2.1,(m.2.2.1,(m.2.2.2.1,(List.set ps i.toNat p,m.2.2.2.2.2)))))
def mq(c:ae)(b:an)(i p:Int):an×au×Int:=
 if dg c b then(if dj p then(if 0≤i∧i<(c.1.length:Int)then
  (if(cC b [] (iZ i (p-b.2.2.2.2.1.getD i.toNat 0) b.2.2.2.1)).2=0 then
    (P7 (cC b [] (iZ i (p-b.2.2.2.2.1.getD i.toNat 0) b.2.2.2.1)).1 b.2.2.2.2.1 i p,iZ i (p-b.2.2.2.2.1.getD i.toNat 0) b.2.2.2.1,0)
   else((cc,(cT,(bq,(bq,(db,(dq,())))))),[],(cC b [] (iZ i (p-b.2.2.2.2.1.getD i.toNat 0) b.2.2.2.1)).2))else((cc,(cT,(bq,(bq,(db,(dq,())))))),[],3))else((cc,(cT,(bq,(bq,(db,(dq,())))))),[],1))else((cc,(cT,(bq,(bq,(db,(dq,())))))),[],1)
theorem WX:O2 []:=⟨λx hx=>(nomatch hx),λx hx=>(nomatch hx),bz _,λi=>rfl⟩
theorem aan{q d:Int}(hq:aF q)(hd: -1000000000000≤d∧d≤1000000000000):cR (q*d):=by
 have h1:(q*d).natAbs≤9223372036854775808*1000000000000:=by
  rw[Gc]
  unfold aF at hq
  exact ui ω ω
 unfold cR
 omega
theorem SY{c:ae}{b:an}(h:dg c b=true)(hq:eK b.2.2.2.1)(hl:b.2.2.2.1.length≤400){i d:Int}(hi:0≤i∧i<(c.1.length:Int))(hd: -1000000000000≤d∧d≤1000000000000):O5 (iZ i d b.2.2.2.1):=by
 have hs:=Ew h
 have xh:=(dW (eS h).2).2
 refine⟨λx hx=> ?_,λx hx=> ?_,ct (It _ _ _) hl,?_⟩
 ·obtain⟨y,hy,_,e⟩:=vY hx
  have:=(xh y hy).1
  unfold cj at this
  rw[e];exact HG ⟨this.1,this.2.1⟩
 ·obtain⟨y,hy,_,e⟩:=vY hx
  rw[e,ia];exact aan (hq y hy) hd
 ·rw[Iu]
  split
  ·have h6:=(tD hs.2).1
   have hf:=hs.1
   unfold od at hf
   have h1:=bt (da.1 hf).1 i.toNat (by unfold kp;omega)
   unfold sl dD qR at h1
   rw[aj (da.1 hf).2]at h1
   have e:((i.toNat:Nat):Int)=i:=ω
   rw[e]at h1
   rw[h1];simp
  ·rfl
theorem SZ{l:List Int}(h:fi l=true){i:Nat}(hi:i<l.length){p:Int}(hp:dj p): -1000000000000≤p-l.getD i 0∧p-l.getD i 0≤1000000000000:=by
 have:=ss h hi
 unfold dj at this hp;omega
theorem WY(b:an)(s:au)(e:c5):alf N b s e=F61 N b s e:=rfl
theorem adE(hN:4000000≤N)(c:ae){b:an}(w:qU b)(hl:b.2.2.2.1.length≤400)(i p:Int):
  F17 N c b i p=some ((mq c b i p).1,(mq c b i p).2.1.map iI,(mq c b i p).2.2):=by
 unfold F17 mq
 rw[BC N hN w.w,ar,su,ar,cond_not,cond_not]
 by_cases hB:dg c b=true
 rotate_left
 ·rw[ah hB];rw[nN]at hB;rw[hB];rfl
 rw[aj hB,hB,ak]
 by_cases hp:dj p
 rotate_left
 ·rw[ah hp,bx hp];rfl
 rw[aj hp,aU hp,ak,cA,cB]
 by_cases h0:i<0
 ·rw[aj h0,ah (λh=>ω)];rfl
 rw[ah h0]
 by_cases h1:(c.1.length:Int)≤i
 ·rw[aj h1,ah (λh=>ω)];rfl
 rw[ah h1,aj (show 0≤i∧i<(c.1.length:Int)by omega)]
 have Jr:=fD hB
 have Fm:i.toNat<b.2.2.2.2.1.length:=by rw[Jr.1];omega
 have kC:bb i b.2.2.2.2.1.length=true:=aW ω (by rw[Jr.1];omega)
 have xh:=eS hB
 have I5:B0 b.2.2.2.1 i (b.2.2.2.2.1.getD i.toNat 0) p=(iZ i (p-b.2.2.2.2.1.getD i.toNat 0) b.2.2.2.1,0):=by
  unfold B0
  rw[aj xh.2,aj (ss Jr.2 Fm),aj hp]
 have TK:=SY hB w.w.qs hl (i:=i) ⟨ω,ω⟩ (SZ Jr.2 Fm hp)
 rw[kC,ak,WV N w.w.qs w.w.s ω,ar,I5,WY,Pb N ω w.w xh.1 xh.2 w.r w.s WX TK,ar,cond_not,aM]
 by_cases hm:(cC b [] (iZ i (p-b.2.2.2.2.1.getD i.toNat 0) b.2.2.2.1)).2=0
 ·have Ya:=MR hm
  rw[aj hm,aj hm]
  unfold P7
  rw[Ya.1,kC];rfl
 ·rw[ah hm,ah hm];rfl
end VM
end
