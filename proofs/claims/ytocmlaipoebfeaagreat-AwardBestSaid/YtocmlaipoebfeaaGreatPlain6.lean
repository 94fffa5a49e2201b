/- A part of the proof of AwardBest of layer 25: what the functions compute, in plain words. -/
import Derived.Test.YtocmlaipoebfeaaGreatPlain5
set_option linter.all false
section
namespace VM
open Go VM.F
theorem yX(N:Nat)(hN:4000000≤N){s:aJ}{q:Int}(hs:aD s.1)(hq:aD q):Ok (fun r=>aD r.1) (K6 N s q):=by
 unfold K6
 exact af (aX N hN hs) fun a ha=>af (aX N hN hq) fun b hb=>af (gu N hN (by omega) ha hb) fun x hx=>af (sH N hx) fun v hv=>ag hv
theorem bQ{α:Type}{P:α×cy→Prop}{N:Nat}{e:Int}{f:cy→Option (α×cy)}(h: ∀r,Ok P (f r)):Ok P ((dM N e).bind f):=af (Cl N e) fun r _=>h r
theorem Oe(N:Nat)(hN:5000000≤N){c:aa}{s:aJ}{e:fg}{m:Nat}(h2:200≤m)(hm:m≤999)(hc:G 5 an c)(hs:GS m s)(he:G 0 lQ e):Ok (SR (m+1)) (mN N c s e):=by
 have JI:G m an c:=G.mono (by omega) hc
 have Iw:GS (m+1) s:=G.mono (by omega) hs
 obtain⟨s1,s2,s3,⟨k1,k2,k3,k4,k5,k6,k7,k8,k9,Of,Rl⟩,s5⟩:=Iw
 have hk:=hs.2.2.2.1
 have i2:aD 2:=aU
 have i3:aD 3:=aU
 have up: ∀{τ:Ty} {x:τ.den},G m τ x→G (m+1) τ x:=fun h=>G.mono (by omega) h
 have br: ∀r:cy,Ok (SR (m+1)) (some (s,r)):=fun r=>ag (up hs)
 unfold mN mN.b
 refine ok_eq (fun _=> ?_) fun _=>ok_eq (fun _=> ?_) fun _=>ok_eq (fun _=> ?_) fun _=>ok_eq (fun _=> ?_) fun _=>ok_eq (fun _=> ?_) fun _=>ok_eq (fun _=> ?_) fun _=>ok_eq (fun _=> ?_) fun _=>ok_eq (fun _=> ?_) fun _=>bQ fun r=>br r
 ·exact af (Q8 N hN (by omega) JI hs.2.2.1 _ he.2.1 _) fun r hr=>bQ fun _=>ag ⟨s1,s2,up hr,(up hs).2.2.2⟩
 ·exact af (Rk N hN h2 (by omega) JI hs.2.2.1 _) fun r hr=>bQ fun _=>ag ⟨s1,s2,up hr,⟨k1,i2,aT,k4,k5,k6,k7,k8,k9,Of,Rl⟩,s5⟩
 ·exact af (KL N hN c hc.2.2.2.2.2.2.1 (by omega) hs.2.2.1 _) fun r hr=>ag ⟨s1,dy _,s3,⟨k1,k2,k3,k4,G.mono (by omega) hr,k6,k7,k8,k9,Of,Rl⟩,s5⟩
 ·exact af (K5 N hN h2 (by omega) JI hs he) fun r hr=>ag (up hr)
 ·exact ok_eq (fun _=>bQ fun r=>br r) fun _=>af (Jj N hN h2 (by omega) JI hs.2.2.1 hs.2.1) fun l hl=>bq (fun _=>bQ fun r=>br r) fun _=>af (yX N (by omega) hs.1 hc.2.2.2.2.1) fun t ht=>bu (fun _=>bQ fun r=>br r) fun _=>af (Rb N hN c (by omega) hs.2.2.1) fun u hu=>ag ⟨s1,dy _,s3,⟨k1,i3,ht,dy _,G.nil,up hl,G.nil,up hu,k9,Of,Rl⟩,s5⟩
 ·have hx:G 0 cF (s.2.1,(e.2.2.2.2.2.1,(e.2.1,(e.2.2.2.2.2.2.2.1,())))):=⟨hs.2.1,he.2.2.2.2.2.1,he.2.1,he.2.2.2.2.2.2.2.1,trivial⟩
  exact af (KW N hN (by omega) (by omega) JI hs.2.2.1 hk.2.2.2.2.2.1 hk.2.2.2.2.2.2.1 hx) fun r hr=>ag ⟨s1,dy _,s3,⟨k1,k2,k3,k4,k5,k6,hr,k8,k9,Of,Rl⟩,s5⟩
 ·refine af (Ob N hN c h2 (by omega) hs.2.2.1 hk.2.2.2.2.2.1 hk.2.2.2.2.2.2.1) fun r ⟨Gn,CG⟩=>bq (fun _=>bQ fun r=>br r) fun _=>af (N7 N (by omega) c h2 (by omega) hk.2.2.2.2.2.2.2.2.1 hk.2.2.2.2.2.2.2.1.1 CG hk.2.2.2.2.2.2.1) fun d hd=> ?_
  generalize ((0:Int),((0:Int),_))=S0
  have Gc:=CG.1
  refine bb (len:=r.2.1.length) (F:=fun n i q=>mN.l41 N n _ S0 a7 r.2.1 q i) (fun _ _=>True) trivial (by omega) (fun n i q hi _ dA=> ?_) (fun n q _=> ?_)
  all_goals unfold mN.l41 mN.XV
  ·rw[aq (x:=(i:Int)+1) (by omega) (by omega),ae i]
   exact au (fun _=>ar ⟨by omega,by omega⟩ (ok_eq (fun _=>dA _ trivial) fun _=>dA _ trivial)) fun _=>by omega
  ·exact au (fun _=>by omega) fun _=>ag ⟨s1,s2,up Gn,⟨k1,i2,aT,k4,k5,up CG,k7,k8,up hd,Of,Rl⟩,s5⟩
 ·exact af (K2 N hN h2 (by omega) JI hs.2.2.1 hk.2.2.2.2.2.2.2.2.1 hk.2.2.2.2.2.2.2.2.2.1 hk.1) fun r ⟨Gn,CG⟩=>bq (fun _=>bQ fun r=>br r) fun _=>af (Rh N hN h2 (by omega) hc Gn) fun b hb=>bq (fun _=>bQ fun r=>br r) fun _=>af (Ji N (by omega) (by omega) hb.1 _ _) fun u hu=>ag ⟨s1,s2,⟨up hu,(up hb).2⟩,G.zero (m+1) kH,up CG,trivial⟩
end VM
end
section
namespace VM
open Go VM.F
theorem Og(N:Nat)(s:aJ)(k:Int):Ok (fun _=>True) (Rm N s k):=by
 unfold Rm
 repeat' first|exact da|refine ok_eq (fun _=> ?_) (fun _=> ?_)
theorem rl(N:Nat)(hN:200000≤N){s:aJ}{m:Nat}(hm:m≤50000)(hs:GS m s)(k:Int):Ok (fun _=>True) (Cm N s k):=by
 unfold Cm
 exact af (lP N hN hm hs.2.2.1.1 _) fun _ _=>da
theorem Oh(N:Nat)(hN:200000≤N){s:aJ}{m:Nat}(hm:m≤50000)(hs:GS m s)(k:Int):Ok (fun _=>True) (Oi N s k):=by
 unfold Oi
 exact af (ra N hN hm hs.2.2.1.2.1 _) fun _ _=>da
theorem Rn(N:Nat)(hN:4000000≤N){s:aJ}{m:Nat}(h2:200≤m)(hm:m≤50000)(hs:GS m s)(a b c d:Int){q:Int}(hq:aD q):Ok (SR m) (K7 N s a b c d q):=by
 unfold K7
 exact af (aX N hN hq) fun x hx=>af (nL N hN _ _ _ _ (Bg.mono hx (by omega))) fun p hp=>af (nI N hN h2 hm hs.2.2.1 G.nil (fJ.mono hp (by omega))) fun r hr=>ag ⟨hs.1,hs.2.1,hr,hs.2.2.2⟩
theorem Oj(N:Nat)(hN:5000000≤N){c:aa}{s:aJ}{e:fg}{m:Nat}(h2:200≤m)(hm:m≤999)(hc:G 5 an c)(hs:GS m s)(he:G 0 lQ e):Ok (SR (m+1)) (pk N c s e):=by
 obtain⟨s1,s2,s3,⟨k1,k2,k3,k4,k5,k6,k7,k8,k9,Of,Rl⟩,s5⟩:=hs
 have hs:GS m s:=⟨s1,s2,s3,⟨k1,k2,k3,k4,k5,k6,k7,k8,k9,Of,Rl⟩,s5⟩
 have up: ∀{x:aJ},GS m x→ ∀r:cy,Ok (SR (m+1)) (some (x,r)):=fun h r=>ag (P:=SR (m+1)) (G.mono (Nat.le_succ m) h)
 have i1:aD 1:=aU
 have us: ∀{τ:Ty} {x:τ.den},G m τ x→G (m+1) τ x:=fun h=>G.mono (by omega) h
 unfold pk pk.b
 have hj: ∀(S0:aJ) (z:cy),Ok (SR (m+1)) (pk.N4 N c s e S0 z):=fun S0 z=>by
  unfold pk.N4 pk.HK
  exact af (Og N _ _) fun _ _=>bu (fun _=>bQ fun r=>up hs r) fun _=>af (Oe N hN h2 hm hc hs he) fun r hr=>ag hr
 have mem: ∀{x:ax},G m (.slice gv) x→G m aC ((x,s.2.2.1.2):ah):=fun h=>⟨h,s3.2⟩
 have hd: ∀z:ax×Int,G m (.slice gv) z.1→Ok (SR (m+1)) (cond (az z.2 0) (cond (az e.1 11) ((KS N c (z.1,s.2.2.1.2) e.2.1).bind fun r2=>cond (az s.2.2.2.1.2.1 3) ((kU N s.2.2.2.1.2.2.2.2.2.2.1 e.2.1).bind fun r3=>(dM N z.2).bind fun r4=>some ((s.1,(s.2.1,(r2.1,((s.2.2.2.1.1,(s.2.2.2.1.2.1,(s.2.2.2.1.2.2.1,(s.2.2.2.1.2.2.2.1,(s.2.2.2.1.2.2.2.2.1,(s.2.2.2.1.2.2.2.2.2.1,(r3,s.2.2.2.1.2.2.2.2.2.2.2))))))),s.2.2.2.2)))),r4)) ((dM N z.2).bind fun r5=>some ((s.1,(s.2.1,(r2.1,s.2.2.2))),r5))) ((dM N z.2).bind fun r6=>some ((s.1,(s.2.1,((z.1,s.2.2.1.2),s.2.2.2))),r6))) ((dM N z.2).bind fun r7=>some ((s.1,(s.2.1,((z.1,s.2.2.1.2),s.2.2.2))),r7))):=fun z hz=>
  ok_eq (fun _=>ok_eq (fun _=>af (EF N hN c (by omega) (mem hz) _) fun b hb=>ok_eq (fun _=>af (EG N (by omega) (by omega) k7 _) fun l hl=>bQ fun r=>ag ⟨s1,s2,us hb,⟨k1,k2,k3,k4,us k5,us k6,us hl,us k8,us k9,us Of,trivial⟩,us s5⟩) fun _=>bQ fun r=>ag ⟨s1,s2,us hb,(us hs).2.2.2⟩) fun _=>bQ fun r=>ag ⟨s1,s2,us (mem hz),(us hs).2.2.2⟩) fun _=>bQ fun r=>ag ⟨s1,s2,us (mem hz),(us hs).2.2.2⟩
 have Jz:=fun k:Int=>Ji N (by omega) (m:=m) (by omega) s3.1 e.2.1 k
 refine ok_eq (fun _=>af (Jz _) fun z hz=>hd z hz) fun _=>ok_eq (fun _=>af (Jz _) fun z hz=>hd z hz) fun _=>ok_eq (fun _=> ?_) fun _=>ok_eq (fun _=> ?_) fun _=>hj _ _
 ·exact af (rl N (by omega) (by omega) hs _) fun _ _=>ok_eq (fun _=>bQ fun r=>up hs r) fun _=>bq (fun _=>bQ fun r=>up hs r) fun _=>af (Jz _) fun z hz=>bq (fun _=>bQ fun r=>ag ⟨s1,s2,us (mem hz),(us hs).2.2.2⟩) fun _=>af (yX N (by omega) s1 hc.2.2.2.1) fun t ht=>bu (fun _=>bQ fun r=>ag ⟨s1,s2,us (mem hz),(us hs).2.2.2⟩) fun _=>ag ⟨s1,s2,us (mem hz),⟨he.2.1,i1,ht,aT,G.nil,G.nil,G.nil,G.nil,G.nil,G.nil,trivial⟩,us s5⟩
 ·exact af (rl N (by omega) (by omega) hs _) fun _ _=>ok_eq (fun _=>bQ fun r=>up hs r) fun _=>af (rl N (by omega) (by omega) hs _) fun _ _=>bq (fun _=>bQ fun r=>up hs r) fun _=>hj _ _
theorem Ro(N:Nat)(hN:5000000≤N){c:aa}{s:aJ}{e:fg}{m:Nat}(h2:200≤m)(hm:m≤999)(hc:G 5 an c)(hs:GS m s)(he:G 0 lQ e):Ok (SR (m+1)) (Rp N c s e):=by
 have JI:G m an c:=G.mono (by omega) hc
 obtain⟨s1,s2,s3,⟨k1,k2,k3,k4,k5,k6,k7,k8,k9,Of,Rl⟩,s5⟩:=hs
 have hs:GS m s:=⟨s1,s2,s3,⟨k1,k2,k3,k4,k5,k6,k7,k8,k9,Of,Rl⟩,s5⟩
 have us: ∀{τ:Ty} {x:τ.den},G m τ x→G (m+1) τ x:=fun h=>G.mono (by omega) h
 have Iw:=us hs
 have up: ∀{x:aJ},GS m x→ ∀r:cy,Ok (SR (m+1)) (some (x,r)):=fun h r=>ag (P:=SR (m+1)) (G.mono (Nat.le_succ m) h)
 have st:=fun k:Int=>rl N (by omega) (m:=m) (by omega) hs k
 have hp:=fun a b c d=>Rn N (by omega) h2 (by omega) hs a b c d he.2.2.2.2.2.2.1
 have q64:=he.2.2.2.2.2.2.1
 unfold Rp
 refine ok_eq (fun _=> ?_) fun _=>ok_eq (fun _=> ?_) fun _=>ok_eq (fun _=> ?_) fun _=>ok_eq (fun _=> ?_) fun _=>ok_eq (fun _=> ?_) fun _=>ok_eq (fun _=> ?_) fun _=>ok_eq (fun _=> ?_) fun _=>ok_eq (fun _=> ?_) fun _=>ok_eq (fun _=> ?_) fun _=>ok_eq (fun _=> ?_) fun _=>ok_eq (fun _=> ?_) fun _=>af (Oj N hN h2 hm hc hs he) fun r hr=>ag hr
 ·exact af (NR N (by omega) (by omega) s3.1 he.2.1) fun r hr=>bQ fun _=>ag ⟨s1,s2,⟨hr,Iw.2.2.1.2⟩,Iw.2.2.2⟩
 ·have hx:G 0 cF (e.2.2.1,(e.2.1,(e.2.2.2.2.1,((0:Int),())))):=⟨he.2.2.1,he.2.1,he.2.2.2.2.1,aT,trivial⟩
  exact af (Q1 N (by omega) (by omega) s3.1 s3.2.1 hx) fun r hr=>bQ fun _=>ag ⟨s1,s2,⟨Iw.2.2.1.1,hr,Iw.2.2.1.2.2⟩,Iw.2.2.2⟩
 ·exact af (Oh N (by omega) (by omega) hs _) fun _ _=>bu (fun _=>bQ fun r=>up hs r) fun _=>af (hp _ _ _ _) fun r hr=>ag (us hr)
 ·exact af (EI N hN h2 (by omega) JI s3 _ q64) fun r hr=>bQ fun z=>ag ⟨s1,s2,us hr,(us hs).2.2.2⟩
 ·exact af (st _) fun _ _=>ok_eq (fun _=>bQ fun r=>up hs r) fun _=>af (st _) fun _ _=>bq (fun _=>bQ fun r=>up hs r) fun _=>af (hp _ _ _ _) fun r hr=>ag (us hr)
 ·exact af (st _) fun _ _=>ok_eq (fun _=>bQ fun r=>up hs r) fun _=>af (my N (by omega) (by omega) s3.2.2.1 _ _) fun g hg=>af (aX N (by omega) hg) fun x hx=>af (ou N (by omega) (by omega) hx) fun x hx=>af (aX N (by omega) q64) fun y hy=>af (nU N (by omega) (by omega) (by omega) hy hx) fun _ _=>au (fun _=>bQ fun r=>up hs r) fun _=>af (hp _ _ _ _) fun r hr=>ag (us hr)
 ·exact af (NS N (by omega) (by omega) s3.2.1 q64) fun r hr=>bQ fun z=>ag ⟨s1,s2,⟨us s3.1,us hr,(us s3).2.2⟩,(us hs).2.2.2⟩
 ·have hx:G 0 jn (s.2.1,(e.2.2.1,(e.2.2.2.1,(e.2.2.2.2.1,(e.2.2.2.2.2.2.1,(e.2.2.2.2.2.2.2.1,())))))):=⟨s2,he.2.2.1,he.2.2.2.1,he.2.2.2.2.1,q64,he.2.2.2.2.2.2.2.1,trivial⟩
  exact af (NY N hN h2 (by omega) JI s3 hx) fun r hr=>ag ⟨s1,dy _,hr,Iw.2.2.2⟩
 ·exact af (Oh N (by omega) (by omega) hs _) fun _ _=>bu (fun _=>bQ fun r=>up hs r) fun _=>af (KT N (by omega) (by omega) s3.2.2.2.2.2.1 _ _) fun r hr=>bQ fun z=>ag ⟨s1,s2,⟨us s3.1,us s3.2.1,us s3.2.2.1,us s3.2.2.2.1,us s3.2.2.2.2.1,us hr,trivial⟩,(us hs).2.2.2⟩
 ·exact af (EH N hN c h2 (by omega) s3 _ he.2.2.2.2.2.2.2.1) fun r ⟨Gn,CG⟩=>ok_eq (fun _=>bq (fun _=>af (N0 N (by omega) h2 (by omega) Of CG) fun g hg=>bQ fun z=>ag ⟨s1,s2,us Gn,⟨k1,k2,k3,k4,us k5,us k6,us k7,us k8,us k9,us hg,trivial⟩,us s5⟩) fun _=>bQ fun z=>ag ⟨s1,s2,us Gn,(us hs).2.2.2⟩) fun _=>bQ fun z=>ag ⟨s1,s2,us Gn,(us hs).2.2.2⟩
 ·exact af (yX N (by omega) s1 q64) fun t ht=>bu (fun _=>bQ fun r=>up hs r) fun _=>ag ⟨ht,(us hs).2⟩
theorem Rq(N:Nat)(hN:5000000≤N){c:aa}{s:aJ}{e:fg}{m:Nat}(h2:200≤m)(hm:m≤999)(hc:G 5 an c)(hs:GS m s)(he:G 0 lQ e):Ok (SR (m+1)) (Rr N c s e):=by
 have br: ∀r:cy,Ok (SR (m+1)) (some (s,r)):=fun r=>ag (P:=SR (m+1)) (G.mono (Nat.le_succ m) hs)
 unfold Rr
 exact b8 (mj N (by omega) c) (bu (fun _=>br _) fun _=>af (KR N (by omega) e) fun _ _=>bu (fun _=>br _) fun _=>af (Ro N hN h2 hm hc hs he) fun r hr=>bq (fun _=>br _) fun _=>ag hr)
theorem XW(N:Nat)(hN:5000000≤N){c:aa}{l:fy}{m:Nat}(hm:m≤700)(hc:G 5 an c)(hl:Lr m l):Ok (fun r=>GS 900 r.1) (yY N c l):=by
 have JK:=hl.1
 unfold yY yY.b XX
 have hb:Ok (fun r:aJ×Int=>GS 5 r.1) ((gd N c).bind fun r1=>cond (!az r1.2 0) (some (Ty.zero bM,r1.2)) (some (((0:Int),((1:Int),(r1.1,(Ty.zero kH,(Ty.zero dL,()))))),(0:Int)))):=af (HH N (by omega) hc) fun b hb=>bq (fun _=>ag (G.zero 5 bM)) fun _=>ag ⟨aT,(show aD 1 from aU),hb,G.zero 5 kH,G.zero 5 dL,trivial⟩
 refine af hb fun b hb=>bq (fun _=>ag (G.zero 900 bM)) fun _=>bb (len:=l.length) (F:=fun n i (z:aJ×aj)=>yY.l6 N n l c (Ty.zero bM) z.1 z.2 i) (s:=(_,_)) (fun i z=>GS (200+i) z.1∧z.2.length≤i) ⟨G.mono (by omega) hb,Nat.zero_le _⟩ (by omega) (fun n i z hi hI hr=> ?_) (fun n z hI=> ?_)
 all_goals unfold yY.l6 yY.n4
 ·obtain⟨h1,h2⟩:=hI
  rw[aq (x:=(i:Int)+1) (by omega) (by omega),ae i]
  have hx:G 0 lQ (l.getD (i:Int).toNat zz8):=G.at hl _
  exact au (fun _=>ar ⟨by omega,by omega⟩ (af (Rq N hN (by omega) (by omega) hc h1 hx) fun r OY=>aE (by rw[List.length_singleton];omega) (hr (r.1,z.2++[r.2]) ⟨OY,by dsimp only;rw[List.length_append,List.length_singleton];omega⟩))) fun _=>by omega
 ·exact au (fun _=>by omega) fun _=>ag (G.mono (by omega) hI.1)
theorem HQ(N:Nat)(hN:5000000≤N){d:aI}{c:aa}(h:Dk 1000 d)(hc:Cf c){ED:Int}(hm:0≤ED∧ED≤100):Ok (fun r=>GS 900 r.1∧Dk 100000 r.2) (F28 N d c ED):=by
 unfold F28
 refine af (KO N (by omega) h hc hm (by omega)) fun l ⟨hl,hd⟩=>af (gb N (by decide) hd) fun v ⟨hv,hd⟩=> ?_
 have JK:=hl.1
 have e1: ∀(k:Int) {x:Int},aD k→aD x→G 0 lQ (k,(x,dZ)):=fun k x hk hx=>wK hk hx aT aT aT aT aT aT
 have i11:aD 11:=aU
 have i13:aD 13:=aU
 have i10:aD 10:=aU
 have i15:aD 15:=aU
 have i2:aD 2:=aU
 dsimp only
 have h4:=G.cat hl (G.two (m:=2) (e1 11 i11 (dy (1+v.1))) (e1 13 i13 (dy (1+v.1))) (Nat.le_refl 2))
 have h4l:=h4.1
 refine aE (by rw[rf];omega) (af (EE N (by omega) hd hc (by omega)) fun n1 ⟨hn1,hd⟩=> ?_)
 have h5:=G.cat h4 hn1
 have h5l:=h5.1
 have aia:=hn1.1
 refine aE (by omega) (aE (by rw[rf];omega) (af (EE N (by omega) hd hc (by omega)) fun n2 ⟨hn2,hd⟩=> ?_))
 have h6:=G.cat h5 (G.two (m:=2) (wK i10 aT aT aT aT aT i2 aT) (e1 15 i15 aT) (Nat.le_refl 2))
 have h6l:=h6.1
 have aib:=hn2.1
 exact aE (by simp only[List.length_append,List.length_cons,List.length_nil]at h4l h5l h6l aia aib ⊢;omega) (af (XW N hN (by omega) hc.g (G.cat h6 hn2)) fun r hr=>ag ⟨hr,Dk.mono hd (by omega)⟩)
end VM
end
section
namespace VM
open Go VM.F Go.RowKit
theorem Rs{l:List Int}(h:WF (.slice (.int .u64)) l):Dk 0 ((l,((0:Int),())):aI):=⟨fun x hx=>by
 obtain⟨i,hi,rfl⟩:=List.getElem_of_mem hx
 have h3:0≤l[i]∧l[i]≤18446744073709551615:=wf_u64.1 (h.2 i hi)
 exact⟨h3.1,Int.lt_of_le_of_lt h3.2 (by decide)⟩,Int.le_refl 0,Int.le_refl 0⟩
theorem G4m{m:Nat}{x:bp}{q:Int}(h:G m cF x)(hq:aD q):G m cF (x.1,(x.2.1,(q,x.2.2.2))):=⟨h.1,h.2.1,hq,h.2.2.2⟩
structure VP(c:aa)(s:aJ)(L:aB)(l:ay):Prop where
 c:G 5 an c
 s:GS 900 s
 L:LL 900 L
 l:G 900 (.slice cF) l
theorem Ol(N:Nat)(hN:5000000≤N){d:aI}(h:Dk 0 d):Ok (fun r=>VP r.1 r.2.1 r.2.2.1 r.2.2.2.1) (m3 N d):=by
 unfold m3 m3.b
 refine af (KM N (by omega) h) fun c ⟨⟨hc,Df⟩,hd⟩=>af (HQ N hN hd ⟨hc,Df⟩ (by omega)) fun s ⟨hs,hd⟩=>af (Jj N hN (m:=900) (by omega) (by omega) (G.mono (by omega) hc) hs.2.2.1 hs.2.1) fun L hL=> ?_
 have hLl:=hL.1
 refine bb (len:=L.1.length) (F:=fun n i (z:aI×aB×ay)=>m3.l6 N n z.1 (cm,dZ) (Ty.zero bM) c.1 s.1 z.2.1 z.2.2 i) (s:=(_,(_,_))) (fun i z=>Dk (100000+9*i) z.1∧(z.2.1.length=L.1.length∧LL 900 z.2.1)∧G 40 (.slice cF) z.2.2) ⟨hd,⟨rfl,hL⟩,G.nil⟩ (by omega) (fun n i z hi hI hr=> ?_) (fun n z hI=> ?_)
 all_goals unfold m3.l6 m3.n4
 ·obtain⟨hd,⟨h1,h2⟩,h3⟩:=hI
  refine au (fun _=> ?_) fun _=>by omega
  have fin: ∀(d:aI) (l:ay),Dk (100000+9*i+8) d→G 40 (.slice cF) l→Ok (fun r=>VP r.1 r.2.1 r.2.2.1 r.2.2.2.1) ((HC N d 12).bind fun kI=>cond (kI.1) (cond (aL (i:Int) z.2.1.length) (m3.l6 N n kI.2 (cm,dZ) (Ty.zero bM) c.1 s.1 (List.set z.2.1 (i:Int).toNat ((z.2.1.getD (i:Int).toNat ((0:Int),(aV,aA))).1,((z.2.1.getD (i:Int).toNat ((0:Int),(aV,aA))).2.1,((z.2.1.getD (i:Int).toNat ((0:Int),(aV,aA))).2.2.1,((3:Int),(z.2.1.getD (i:Int).toNat ((0:Int),(aV,aA))).2.2.2.2))))) l (W .i64 ((i:Int)+1))) none) (m3.l6 N n kI.2 (cm,dZ) (Ty.zero bM) c.1 s.1 z.2.1 l (W .i64 ((i:Int)+1)))):=fun d l hd hl=>by
   rw[aq (x:=(i:Int)+1) (by omega) (by omega),ae i]
   have hx:G 900 dK (z.2.1.getD (i:Int).toNat ((0:Int),(aV,aA))):=G.at h2 _
   exact af (nW N (by decide) hd (by unfold mz;omega)) fun r hd=>nT (fun _=>ar ⟨by omega,by omega⟩ (hr (r.2,(_,l)) ⟨Dk.mono hd (by omega),⟨by dsimp only;rw[List.length_set];exact h1,G.set h2 (GL hx.1 hx.2.1 hx.2.2.1 (show aD 3 from aU) hx.2.2.2.2.1 hx.2.2.2.2.2.1) _⟩,hl⟩)) fun _=>hr (r.2,(z.2.1,l)) ⟨Dk.mono hd (by omega),⟨h1,h2⟩,hl⟩
  refine gr (len:=5) (F:=fun n' j (y:aI×ay)=>m3.l9 N (m3.l6 N n) n' y.1 (cm,dZ) (Ty.zero bM) c.1 s.1 z.2.1 y.2 (i:Int) j) (fun j y=>1≤j∧Dk (100000+9*i+2*(j-1)) y.1∧G 40 (.slice cF) y.2) (fun n' j y hj hJ dA=> ?_) (fun n' y hJ=> ?_) 5 N 1 (z.1,z.2.2) (by omega) (by omega) (by omega) ⟨Nat.le_refl 1,Dk.mono hd (by omega),h3⟩
  all_goals unfold m3.l9 m3.rN
  ·obtain⟨hj1,hd,hl⟩:=hJ
   refine cZ (fun _=>au (fun _=>af (nW N (by decide) hd (by unfold mz;omega)) fun r hd=> ?_) fun _=>fin _ _ (Dk.mono hd (by omega)) hl) fun _=>by omega
   dsimp only
   rw[aq (x:=(j:Int)+1) (by omega) (by omega),ae j]
   have hx:=(G.at h2 (i:Int).toNat).1
   refine bu (fun _=>ar ⟨by omega,by omega⟩ (af (gb N (by decide) hd (by unfold mz;omega)) fun v ⟨_,hd⟩=>aE (by rw[List.length_singleton];omega) (dA (v.2,y.2++[(W .i64 (100+(y.2.length:Int)),((z.2.1.getD (i:Int).toNat ((0:Int),(aV,aA))).1,((j:Int),(W .i64 (v.1-6),()))))]) ⟨by omega,Dk.mono hd (by omega),by dsimp only;rw[List.length_append,List.length_singleton];omega,fun u hu=> ?_⟩))) fun _=>dA (r.2,y.2) ⟨by omega,Dk.mono hd (by omega),hl⟩
   rcases List.mem_append.1 hu with hu|hu
   ·exact hl.2 u hu
   ·rw[List.mem_singleton.1 hu];exact⟨dy _,hx,(show aD (j:Int)from fc (by omega) (by omega)),dy _,trivial⟩
  ·exact cZ (fun _=>by omega) fun _=>fin _ _ (Dk.mono hJ.2.1 (by omega)) hJ.2.2
 ·obtain⟨hd,⟨h1,h2⟩,h3⟩:=hI
  have hb:G 900 (.slice cF) z.2.2:=G.mono (by decide) h3
  refine au (fun _=>by omega) fun _=>au (fun _=>af (nW N (by decide) hd (by unfold mz;omega)) fun r _=>nT (fun _=>ar ⟨by omega,by omega⟩ (ag ⟨hc,hs,h2,?_⟩)) fun _=>ag ⟨hc,hs,h2,hb⟩) fun _=>ag ⟨hc,hs,h2,hb⟩
  have hx:=G.at hb (0:Int).toNat
  exact G.set hb (G4m hx (show aD 9 from aU)) _
theorem Rt{m:Nat}(hm:m≤50000){L:aB}(h:LL m L):B2 L:=⟨fun x hx=>Nat.le_trans (h.2 x hx).2.1.1 (by omega),fun x hx y hy=>((h.2 x hx).2.1.2 y hy).2.1⟩
namespace Pure
end Pure
end VM
end
section
namespace VM
open Go VM.F Go.RowKit
theorem ac3{α:Type}{l:List α}{d:α}{i:Nat}(h:i<l.length):l.getD i d∈l:=by
 rw[List.getD_eq_getElem?_getD,List.getElem?_eq_getElem h];exact List.getElem_mem h
theorem pn{α:Type}{d:List α}{x y:α}{j:Nat}(h:j<d.length):(d++[x]).getD j y=d.getD j y:=by
 rw[List.getD_eq_getElem?_getD,List.getD_eq_getElem?_getD,List.getElem?_append_left h]
theorem sJ{α:Type}(d:List α)(x y:α):(d++[x]).getD d.length y=x:=by
 rw[List.getD_eq_getElem?_getD,List.getElem?_concat_length];rfl
structure Cn(gD:Int)(l:ay)(k:Nat):Prop where
 lt:k<l.length
 Gl:(l.getD k aA).2.1=gD
 le: ∀j,j<l.length→(l.getD j aA).2.1=gD→(l.getD j aA).2.2.2.1≤(l.getD k aA).2.2.2.1
 ls: ∀j,j<k→(l.getD j aA).2.1=gD→(l.getD j aA).2.2.2.1<(l.getD k aA).2.2.2.1
def xe(gD:Int)(l:ay)(b:bp):Prop:=(b=aA∧ ∀j,j<l.length→(l.getD j aA).2.1≠gD)∨ ∃k,Cn gD l k∧l.getD k aA=b
theorem Co{n j:Nat}(h:j<n+1):j<n∨j=n:=by omega
theorem EK{gD:Int}{d:ay}{x:bp}(e:x.2.1=gD)(h: ∀j,j<d.length→(d.getD j aA).2.1=gD→(d.getD j aA).2.2.2.1<x.2.2.2.1):xe gD (d++[x]) x:=by
 refine .inr ⟨d.length,⟨by rw[List.length_append,List.length_singleton];omega,by rw[sJ];exact e,fun j hj hl=> ?_,fun j hj hl=> ?_⟩,sJ _ _ _⟩
 ·rw[sJ]
  rw[List.length_append,List.length_singleton]at hj
  rcases Co hj with hj|rfl
  ·rw[pn hj]at hl ⊢;exact Int.le_of_lt (h j hj hl)
  ·rw[sJ];exact Int.le_refl _
 ·rw[sJ];rw[pn hj]at hl ⊢;exact h j hj hl
theorem A7{gD:Int}{d:ay}{x:bp}{k:Nat}(h:Cn gD d k)(hx:x.2.1=gD→x.2.2.2.1≤(d.getD k aA).2.2.2.1):xe gD (d++[x]) (d.getD k aA):=by
 have hk:=h.lt
 refine .inr ⟨k,⟨by rw[List.length_append];omega,by rw[pn hk];exact h.Gl,fun j hj hl=> ?_,fun j hj hl=> ?_⟩,pn hk⟩
 ·rw[pn hk]
  rw[List.length_append,List.length_singleton]at hj
  rcases Co hj with hj|rfl
  ·rw[pn hj]at hl ⊢;exact h.le j hj hl
  ·rw[sJ]at hl ⊢;exact hx hl
 ·rw[pn hk];rw[pn (Nat.lt_trans hj hk)]at hl ⊢;exact h.ls j hj hl
theorem EL(gD:Int): ∀(t d:ay) (b:bp),(∀x∈d++t,(x.1:Int)≠0)→xe gD d b→xe gD (d++t) (pH gD t b)
 |[],d,b,_,h=>by rw[List.append_nil];exact h
 |x::t,d,b,hz,h=>by
  have ea:d++x::t=(d++[x])++t:=by rw[List.append_assoc];rfl
  rw[sC,ea]
  refine EL gD t (d++[x]) _ (by rw[←ea];exact hz) ?_
  by_cases e:x.2.1=gD
  ·rw[if_pos e]
   rcases h with⟨rfl,h⟩|⟨k,h,rfl⟩
   ·rw[if_pos rfl]
    exact EK e fun j hj hl=>absurd hl (h j hj)
   ·rw[if_neg (hz _ (List.mem_append_left _ (ac3 h.lt)))]
    by_cases hp:(d.getD k aA).2.2.2.1<x.2.2.2.1
    ·rw[if_pos hp]
     exact EK e fun j hj hl=>Int.lt_of_le_of_lt (h.le j hj hl) hp
    ·rw[if_neg hp]
     exact A7 h fun _=>Int.not_lt.1 hp
  ·rw[if_neg e]
   rcases h with⟨rfl,h⟩|⟨k,h,rfl⟩
   ·refine .inl ⟨rfl,fun j hj=> ?_⟩
    rw[List.length_append,List.length_singleton]at hj
    rcases Co hj with hj|rfl
    ·rw[pn hj];exact h j hj
    ·rw[sJ];exact e
   ·exact A7 h fun e'=>absurd e' e
theorem XY{a b c d:Int}(h:sx a b c d):a≠0:=by unfold sx at h;omega
theorem HR{l:ay}(hB:jJ l=true)(gD:Int):((ch l gD).2=true∧ ∃k,Cn gD l k∧l.getD k aA=(ch l gD).1)∨((ch l gD).2=false∧ ∀j,j<l.length→(l.getD j aA).2.1≠gD):=by
 have hz: ∀x∈l,(x.1:Int)≠0:=fun x hx=>by
  obtain⟨i,hi,e⟩:=List.getElem_of_mem hx
  have:=AH hB i hi
  rw[List.getD_eq_getElem?_getD,List.getElem?_eq_getElem hi]at this
  rw[←e];exact XY this
 have h:=EL gD l [] aA hz (.inl ⟨rfl,fun j hj=>nomatch hj⟩)
 rw[List.nil_append]at h
 unfold ch
 rw[if_pos hB]
 rcases h with⟨e,h⟩|⟨k,h,e⟩
 ·exact .inr ⟨by dsimp only;rw[e];rfl,h⟩
 ·refine .inl ⟨?_,k,h,e⟩
  dsimp only
  rw[←e];unfold D9 fH;rw[decide_eq_false (hz _ (ac3 h.lt))];rfl
def gU(l:ay)(x:cN):cN:=if x.2.2.2.1=1 then(if(ch l x.1).2=true then I6 x (ch l x.1).1.2.2.1 (ch l x.1).1.2.2.2.1 else I7 x)else x
theorem Jm{b:ah}{l:ay}: ∀{t:aB} {z r:Nq},Ky b l t z=some r→r.2.2=z.2.2++t.map (gU l)
 |[],z,r,h=>by
  have:z=r:=Option.some.inj h
  rw[this,List.map_nil,List.append_nil]
 |x::t,z,r,h=>by
  rw[Ed]at h
  have fin: ∀{y:cN} {s e:aj},y=gU l x→Ky b l t (s,e,z.2.2++[y])=some r→r.2.2=z.2.2++(x::t).map (gU l):=fun ey h=>by
   rw[Jm h,List.map_cons,ey,List.append_assoc];rfl
  by_cases h1:x.2.2.2.1=1
  ·rw[if_pos h1]at h
   by_cases h2:(ch l x.1).2=true
   ·rw[if_pos h2]at h
    by_cases h3:fU b.1 (ch l x.1).1.2.2.1=0∨dW b.2.1 (ch l x.1).1.2.2.1=0
    ·rw[if_pos h3]at h;exact absurd h (by simp)
    ·rw[if_neg h3]at h
     exact fin (by unfold gU;rw[if_pos h1,if_pos h2]) h
   ·rw[if_neg h2]at h
    exact fin (by unfold gU;rw[if_pos h1,if_neg h2]) h
  ·rw[if_neg h1]at h
   exact fin (by unfold gU;rw[if_neg h1]) h
theorem EM(c:aa)(b:ah)(dD:aB)(l:ay):
  ((nC c b dD l).2.2≠0∧(nC c b dD l).2.1=[]∧(nC c b dD l).1.2.2.2.2.1=[])∨(dT c b=true∧jK c dD=true∧jJ l=true∧ ∃r,Ky b l dD ([],[],[])=some r∧(gq b r.1 r.2.1).2=0∧nC c b dD l=((gq b r.1 r.2.1).1,(dD.map (gU l),0))):=by
 unfold nC
 by_cases hB:dT c b=true
 ·rw[if_pos hB]
  by_cases hL:jK c dD=true
  ·rw[if_pos hL]
   by_cases hb:jJ l=true
   ·rw[if_pos hb]
    cases hr:Ky b l dD ([],[],[])with
    |none=>exact .inl ⟨(by decide:(3:Int)≠0),rfl,rfl⟩
    |some r=>
     unfold Ee
     by_cases hm:(gq b r.1 r.2.1).2=0
     ·refine .inr ⟨hB,hL,hb,r,rfl,hm,?_⟩
      have:=Jm hr
      rw[List.nil_append]at this
      dsimp only
      rw[if_pos (show fH (gq b r.1 r.2.1).2 0 from hm),this]
     ·dsimp only
      rw[if_neg (show ¬fH (gq b r.1 r.2.1).2 0 from hm)]
      exact .inl ⟨hm,rfl,rfl⟩
   ·rw[if_neg hb];exact .inl ⟨by decide,rfl,rfl⟩
  ·rw[if_neg hL];exact .inl ⟨by decide,rfl,rfl⟩
 ·rw[if_neg hB];exact .inl ⟨by decide,rfl,rfl⟩
theorem Om(N:Nat){l:ax}(hl:l.length≤100000)(hN:200000≤N):wM N l l=some true:=by
 unfold wM wM.b
 rw[tU,Bool.not_true,cond_false]
 refine AK (F:=fun n i=>wM.l4 N n l l i) (len:=l.length) (fun n i hi hr=> ?_) (fun n=> ?_) l.length N 0 (by omega) (by omega) (by omega)
 ·unfold wM.l4 wM.cL
  rw[aK (by omega),cond_true,aN (by omega) (by omega),cond_true,cond_true,XC,Bool.not_true,cond_false,aq (x:=(i:Int)+1) (by omega) (by omega),ae i]
  exact hr
 ·unfold wM.l4 wM.cL
  rw[aF (by omega),cond_false]
theorem HS{s w p:Int}(h:mo s w p)(h1:s=1):w=0∧p=0:=by unfold mo at h;omega
theorem HT(l:ay)(x:cN):(gU l x).1=x.1∧(gU l x).2.1=x.2.1∧(gU l x).2.2.1=x.2.2.1:=by
 unfold gU
 split
 ·split<;>exact⟨rfl,rfl,rfl⟩
 ·exact⟨rfl,rfl,rfl⟩
theorem Ru(N:Nat)(hN:200000≤N){K:F4.A8}{dD m:aB}{l:ay}(hl:l.length≤1000){i:Nat}(hi:i<m.length)(hm:m.length≤1000)
  (h:((m.getD i ((0:Int),(aV,aA))).2.2.2.1=(2:Int)∧ ∃k,Cn (m.getD i ((0:Int),(aV,aA))).1 l k∧(l.getD k aA).2.2.1=(m.getD i ((0:Int),(aV,aA))).2.2.2.2.1∧(l.getD k aA).2.2.2.1=(m.getD i ((0:Int),(aV,aA))).2.2.2.2.2.1)∨((m.getD i ((0:Int),(aV,aA))).2.2.2.1=(3:Int)∧((m.getD i ((0:Int),(aV,aA))).2.2.2.2.1=(0:Int)∧(m.getD i ((0:Int),(aV,aA))).2.2.2.2.2.1=(0:Int))∧ ∀j,j<l.length→(l.getD j aA).2.1≠(m.getD i ((0:Int),(aV,aA))).1))
  (hK:Ok (fun r=>r=true) (K dD l m ((i+1:Nat):Int))):Ok (fun r=>r=true) (F4.yq N K N dD l m (i:Int) false (-1) 0):=by
 have gC:0≤(i:Int)∧(i:Int)<(m.length:Int):=by omega
 rcases h with⟨hs,k,hk,hw,hp⟩|⟨hs,hz,pB⟩
 ·have VJ:=hk.lt
  refine bb (len:=l.length) (F:=fun n j (z:Bool×Int)=>F4.yq N K n dD l m (i:Int) z.1 z.2 j) (s:=(_,_)) (fun j z=>z.2=(if k<j then(k:Int)else-1)∧(k<j→z.1=true)) ⟨by rw[if_neg (by omega)],fun h=>by omega⟩ (by omega) (fun n j z hj hI hr=> ?_) (fun n z hI=> ?_)
  all_goals unfold F4.yq F4.wI
  ·have hjn:0≤(j:Int)∧(j:Int)<(l.length:Int):=by omega
   rw[aq (x:=(j:Int)+1) (by omega) (by omega),ae j,Int.toNat_natCast,Int.toNat_natCast]
   obtain⟨i1,i2⟩:=hI
   refine au (fun _=>ar hjn (ar gC (bq (fun gG=> ?_) fun he=> ?_))) fun _=>by omega
   ·have hjk:j≠k:=fun e=>gG (by rw[e];exact hk.Gl)
    refine hr z ⟨?_,fun h=>i2 (by omega)⟩
    rw[i1];split<;>split<;>omega
   ·refine ar gC (bq (fun h=>absurd hs h) fun _=>ar hjn (ar gC (au (fun h=> ?_) fun _=>au (fun h0=>ar hjn (ar gC (ok_eq (fun e=> ?_) fun e=> ?_))) fun h0=> ?_)))
    ·exact absurd h (Int.not_lt.2 (by rw[←hp];exact hk.le j hj he))
    ·have hjk:j=k:=by
      have h1:k≤j:=Nat.le_of_not_lt fun h=>absurd (hk.ls j h he) (by rw[e,hp];exact Int.lt_irrefl _)
      rw[i1]at h0
      split at h0<;>omega
     exact hr (true,(j:Int)) ⟨by dsimp only;rw[if_pos (by omega),hjk],fun _=>rfl⟩
    ·have hjk: ¬j=k:=fun e'=>e (by rw[e'];exact hp)
     refine hr (true,z.2) ⟨?_,fun _=>rfl⟩
     dsimp only
     rw[i1];split<;>split<;>omega
    ·have hkj:k<j:=Decidable.byContradiction fun h=>by rw[i1,if_neg h]at h0;omega
     refine hr (true,z.2) ⟨?_,fun _=>rfl⟩
     dsimp only
     rw[i1,if_pos hkj,if_pos (by omega)]
  ·obtain⟨i1,i2⟩:=hI
   have e1:z.2=(k:Int):=by rw[i1,if_pos VJ]
   rw[i2 VJ,e1,aq (x:=(i:Int)+1) (by omega) (by omega),ae i]
   refine au (fun _=>by omega) fun _=>au (fun _=>by omega) fun _=>ar ⟨by omega,by omega⟩ (ar gC (bq (fun h=>absurd ?_ h) fun _=>hK))
   rw[Int.toNat_natCast,Int.toNat_natCast];exact hw
 ·refine bb (len:=l.length) (F:=fun n j (z:Bool×Int)=>F4.yq N K n dD l m (i:Int) z.1 z.2 j) (s:=(_,_)) (fun j z=>z.1=false) rfl (by omega) (fun n j z hj hI hr=> ?_) (fun n z hI=> ?_)
  all_goals unfold F4.yq F4.wI
  ·have hjn:0≤(j:Int)∧(j:Int)<(l.length:Int):=by omega
   rw[aq (x:=(j:Int)+1) (by omega) (by omega),ae j,Int.toNat_natCast,Int.toNat_natCast]
   exact au (fun _=>ar hjn (ar gC (bq (fun _=>hr z hI) fun he=>absurd he (pB j hj)))) fun _=>by omega
  ·rw[hI,aq (x:=(i:Int)+1) (by omega) (by omega),ae i,Int.toNat_natCast]
   exact au (fun _=>by omega) fun _=>ar gC (bq (fun h=>absurd hs h) fun _=>ar gC (bq (fun h=>absurd hz.1 h) fun _=>ar gC (bq (fun h=>absurd hz.2 h) fun _=>hK)))
namespace Pure
theorem K8(l:List Int)(h:WFs [.slice (.int .u64)] l): ∃N,F4 N l=some true:=by
 have key:Ok (fun r=>r=true) (F4 6000000 l):=by
  unfold F4 F4.b F13
  refine b8 (KB 6000000 (by omega)) (bu (fun h=>nomatch h) fun _=>b8 rfl (af (Ol 6000000 (by omega) (Rs h.1)) fun r hr=> ?_))
  have w:=G.wf (by omega) hr.s.2.2.1
  have hL:=Rt (by omega) hr.L
  have hLl:=hr.L.1
  have JK:=hr.l.1
  refine b8 (Eh 6000000 (by omega) r.1 w (by omega) (by omega) hL) ?_
  rcases EM r.1 r.2.1.2.2.1 r.2.2.1 r.2.2.2.1 with⟨h0,h1,_⟩|⟨_,hk,hb,z,_,_,e⟩
  ·refine bq (fun _=>ag ?_) fun h=>absurd h h0
   rw[h1];exact cg rfl
  ·rw[e]
   dsimp only
   have zm:(r.2.2.1.map (gU r.2.2.2.1)).length=r.2.2.1.length:=List.length_map ..
   refine bq (fun h=>absurd rfl h) fun _=>bq (fun h=>absurd (by rw[zm]) h) fun _=> ?_
   refine g5 (len:=r.2.2.1.length) (F:=fun n i=>F4.XZ 6000000 n r.2.2.1 r.2.2.2.1 (r.2.2.1.map (gU r.2.2.2.1)) i) (by omega) (fun n i hi dA=> ?_) (fun n=> ?_)
   all_goals unfold F4.XZ F4.X0
   ·have h1:0≤(i:Int)∧(i:Int)<(r.2.2.1.length:Int):=by omega
    have h2:0≤(i:Int)∧(i:Int)<((r.2.2.1.map (gU r.2.2.2.1)).length:Int):=by omega
    have ex:(r.2.2.1.map (gU r.2.2.2.1)).getD i ((0:Int),(aV,aA))=gU r.2.2.2.1 (r.2.2.1.getD i ((0:Int),(aV,aA))):=by
     rw[List.getD_eq_getElem?_getD,List.getD_eq_getElem?_getD,List.getElem?_map,List.getElem?_eq_getElem hi];rfl
    have On:=HT r.2.2.2.1 (r.2.2.1.getD i ((0:Int),(aV,aA)))
    have hlen:=o5 hL.len i
    rw[aq (x:=(i:Int)+1) (by omega) (by omega),ae i,Int.toNat_natCast]
    refine au (fun _=>ar h2 (ar h1 (bq (fun h=>absurd ?_ h) fun _=>ar h2 (ar h1 (bq (fun h=>absurd ?_ h) fun _=>ar h2 (ar h1 ?_)))))) fun _=>by omega
    ·rw[ex];exact On.1
    ·rw[ex];exact On.2.2
    ·rw[ex,On.2.1]
     refine b8 (Om 6000000 hlen (by omega)) (bu (fun h=>nomatch h) fun _=>ar h1 (bq (fun hs=>ar h2 (ar h1 (bq (fun h=>absurd ?_ h) fun _=>dA))) fun hs=> ?_))
     ·unfold gU;rw[if_neg hs]
     ·have hS:=HS ((of_decide_eq_true (Bool.and_eq_true_iff.1 (Bool.and_eq_true_iff.1 (Bool.and_eq_true_iff.1 (show(fv r.1&&(decide (r.2.2.1.length≤12)&&(decide (∀j,j<r.2.2.1.length→q8 r.1 r.2.2.1 j)&&true)))=true from hk)).2).2).1 i hi).2.2.2.2.2) hs
      refine Ru 6000000 (by omega) (by omega) (by omega) (by omega) ?_ dA
      rw[ex]
      rcases HR hb (r.2.2.1.getD i ((0:Int),(aV,aA))).1 with⟨b1,k,b2,b3⟩|⟨b1,b2⟩
      ·have el:gU r.2.2.2.1 (r.2.2.1.getD i ((0:Int),(aV,aA)))=I6 (r.2.2.1.getD i ((0:Int),(aV,aA))) (ch r.2.2.2.1 (r.2.2.1.getD i ((0:Int),(aV,aA))).1).1.2.2.1 (ch r.2.2.2.1 (r.2.2.1.getD i ((0:Int),(aV,aA))).1).1.2.2.2.1:=by unfold gU;rw[if_pos hs,if_pos b1]
       rw[el]
       exact .inl ⟨rfl,k,b2,by rw[b3];rfl,by rw[b3];rfl⟩
      ·have el:gU r.2.2.2.1 (r.2.2.1.getD i ((0:Int),(aV,aA)))=I7 (r.2.2.1.getD i ((0:Int),(aV,aA))):=by unfold gU;rw[if_pos hs,if_neg (by rw[b1];exact Bool.false_ne_true)]
       rw[el]
       exact .inr ⟨rfl,hS,b2⟩
   ·exact au (fun _=>by omega) fun _=>ag rfl
 obtain⟨r,e,hr⟩:=key
 exact⟨6000000,by rw[e,hr]⟩
end Pure
end VM
end
