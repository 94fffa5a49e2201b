/- A part of the proof of TearDrawn of layer 29: what the functions compute, in plain words. -/
import Derived.Test.YtocmlaipoebfeaaGreatPlain6
import Derived.Test.YtocmlaipoebfeaaGreatPlain4
set_option linter.all false
section
namespace VM
open Go VM.F
theorem z5(N:Nat)(hN:4000000≤N){s:aO}{q:Int}(hs:aC s.1)(hq:aC q):Ok (fun r=>aC r.1) (ML N s q):=by
 unfold ML
 exact af (aZ N hN hs) fun a ha=>af (aZ N hN hq) fun b hb=>af (gO N hN (by omega) ha hb) fun x hx=>af (tq N hx) fun v hv=>ag hv
theorem bT{α:Type}{P:α×cy→Prop}{N:Nat}{e:Int}{f:cy→Option (α×cy)}(h: ∀r,Ok P (f r)):Ok P ((dS N e).bind f):=af (DK N e) fun r _=>h r
theorem PV(N:Nat)(hN:5000000≤N){c:ae}{s:aO}{e:fA}{m:Nat}(h2:200≤m)(hm:m≤999)(hc:G 5 aq c)(hs:GS m s)(he:G 0 mu e):Ok (SR (m+1)) (nq N c s e):=by
 have Lf:G m aq c:=G.mono (by omega) hc
 have J0:GS (m+1) s:=G.mono (by omega) hs
 obtain⟨s1,s2,s3,⟨k1,k2,k3,k4,k5,k6,k7,k8,k9,PW,Tb⟩,s5⟩:=J0
 have hk:=hs.2.2.2.1
 have i2:aC 2:=aV
 have i3:aC 3:=aV
 have up: ∀{τ:Ty} {x:τ.den},G m τ x→G (m+1) τ x:=fun h=>G.mono (by omega) h
 have bs: ∀r:cy,Ok (SR (m+1)) (some (s,r)):=fun r=>ag (up hs)
 unfold nq nq.b
 refine ok_eq (fun _=> ?_) fun _=>ok_eq (fun _=> ?_) fun _=>ok_eq (fun _=> ?_) fun _=>ok_eq (fun _=> ?_) fun _=>ok_eq (fun _=> ?_) fun _=>ok_eq (fun _=> ?_) fun _=>ok_eq (fun _=> ?_) fun _=>ok_eq (fun _=> ?_) fun _=>bT fun r=>bs r
 ·exact af (SX N hN (by omega) Lf hs.2.2.1 _ he.2.1 _) fun r hr=>bT fun _=>ag ⟨s1,s2,up hr,(up hs).2.2.2⟩
 ·exact af (Ta N hN h2 (by omega) Lf hs.2.2.1 _) fun r hr=>bT fun _=>ag ⟨s1,s2,up hr,⟨k1,i2,aU,k4,k5,k6,k7,k8,k9,PW,Tb⟩,s5⟩
 ·exact af (Mp N hN c hc.2.2.2.2.2.2.1 (by omega) hs.2.2.1 _) fun r hr=>ag ⟨s1,dQ _,s3,⟨k1,k2,k3,k4,G.mono (by omega) hr,k6,k7,k8,k9,PW,Tb⟩,s5⟩
 ·exact af (MK N hN h2 (by omega) Lf hs he) fun r hr=>ag (up hr)
 ·exact ok_eq (fun _=>bT fun r=>bs r) fun _=>af (S3 N hN h2 (by omega) Lf hs.2.2.1 hs.2.1) fun l hl=>bI (fun _=>bT fun r=>bs r) fun _=>af (z5 N (by omega) hs.1 hc.2.2.2.2.1) fun t ht=>bA (fun _=>bT fun r=>bs r) fun _=>af (S1 N hN c (by omega) hs.2.2.1) fun u hu=>ag ⟨s1,dQ _,s3,⟨k1,i3,ht,dQ _,G.nil,up hl,G.nil,up hu,k9,PW,Tb⟩,s5⟩
 ·have hx:G 0 df (s.2.1,(e.2.2.2.2.2.1,(e.2.1,(e.2.2.2.2.2.2.2.1,())))):=⟨hs.2.1,he.2.2.2.2.2.1,he.2.1,he.2.2.2.2.2.2.2.1,trivial⟩
  exact af (MB N hN (by omega) (by omega) Lf hs.2.2.1 hk.2.2.2.2.2.1 hk.2.2.2.2.2.2.1 hx) fun r hr=>ag ⟨s1,dQ _,s3,⟨k1,k2,k3,k4,k5,k6,hr,k8,k9,PW,Tb⟩,s5⟩
 ·refine af (PS N hN c h2 (by omega) hs.2.2.1 hk.2.2.2.2.2.1 hk.2.2.2.2.2.2.1) fun r ⟨C2,D2⟩=>bI (fun _=>bT fun r=>bs r) fun _=>af (PM N (by omega) c h2 (by omega) hk.2.2.2.2.2.2.2.2.1 hk.2.2.2.2.2.2.2.1.1 D2 hk.2.2.2.2.2.2.1) fun d hd=> ?_
  generalize ((0:Int),((0:Int),_))=S0
  have HQ:=D2.1
  refine bh (len:=r.2.1.length) (F:=fun n i q=>nq.l41 N n _ S0 aS r.2.1 q i) (fun _ _=>True) trivial (by omega) (fun n i q hi _ dx=> ?_) (fun n q _=> ?_)
  all_goals unfold nq.l41 nq.aae
  ·rw[al (x:=(i:Int)+1) (by omega) (by omega),aa i]
   exact au (fun _=>aw ⟨by omega,by omega⟩ (ok_eq (fun _=>dx _ trivial) fun _=>dx _ trivial)) fun _=>by omega
  ·exact au (fun _=>by omega) fun _=>ag ⟨s1,s2,up C2,⟨k1,i2,aU,k4,k5,up D2,k7,k8,up hd,PW,Tb⟩,s5⟩
 ·exact af (MH N hN h2 (by omega) Lf hs.2.2.1 hk.2.2.2.2.2.2.2.2.1 hk.2.2.2.2.2.2.2.2.2.1 hk.1) fun r ⟨C2,D2⟩=>bI (fun _=>bT fun r=>bs r) fun _=>af (S7 N hN h2 (by omega) hc C2) fun b hb=>bI (fun _=>bT fun r=>bs r) fun _=>af (KQ N (by omega) (by omega) hb.1 _ _) fun u hu=>ag ⟨s1,s2,⟨up hu,(up hb).2⟩,G.zero (m+1) kW,up D2,trivial⟩
end VM
end
section
namespace VM
open Go VM.F
theorem PX(N:Nat)(s:aO)(k:Int):Ok (fun _=>True) (Tc N s k):=by
 unfold Tc
 repeat' first|exact dp|refine ok_eq (fun _=> ?_) (fun _=> ?_)
theorem sf(N:Nat)(hN:200000≤N){s:aO}{m:Nat}(hm:m≤50000)(hs:GS m s)(k:Int):Ok (fun _=>True) (DL N s k):=by
 unfold DL
 exact af (mq N hN hm hs.2.2.1.1 _) fun _ _=>dp
theorem PY(N:Nat)(hN:200000≤N){s:aO}{m:Nat}(hm:m≤50000)(hs:GS m s)(k:Int):Ok (fun _=>True) (PZ N s k):=by
 unfold PZ
 exact af (rZ N hN hm hs.2.2.1.2.1 _) fun _ _=>dp
theorem Td(N:Nat)(hN:4000000≤N){s:aO}{m:Nat}(h2:200≤m)(hm:m≤50000)(hs:GS m s)(a b c d:Int){q:Int}(hq:aC q):Ok (SR m) (MM N s a b c d q):=by
 unfold MM
 exact af (aZ N hN hq) fun x hx=>af (oa N hN _ _ _ _ (Bg.mono hx (by omega))) fun p hp=>af (n8 N hN h2 hm hs.2.2.1 G.nil (fY.mono hp (by omega))) fun r hr=>ag ⟨hs.1,hs.2.1,hr,hs.2.2.2⟩
theorem P0(N:Nat)(hN:5000000≤N){c:ae}{s:aO}{e:fA}{m:Nat}(h2:200≤m)(hm:m≤999)(hc:G 5 aq c)(hs:GS m s)(he:G 0 mu e):Ok (SR (m+1)) (pR N c s e):=by
 obtain⟨s1,s2,s3,⟨k1,k2,k3,k4,k5,k6,k7,k8,k9,PW,Tb⟩,s5⟩:=hs
 have hs:GS m s:=⟨s1,s2,s3,⟨k1,k2,k3,k4,k5,k6,k7,k8,k9,PW,Tb⟩,s5⟩
 have up: ∀{x:aO},GS m x→ ∀r:cy,Ok (SR (m+1)) (some (x,r)):=fun h r=>ag (P:=SR (m+1)) (G.mono (Nat.le_succ m) h)
 have i1:aC 1:=aV
 have us: ∀{τ:Ty} {x:τ.den},G m τ x→G (m+1) τ x:=fun h=>G.mono (by omega) h
 unfold pR pR.b
 have hj: ∀(S0:aO) (z:cy),Ok (SR (m+1)) (pR.PJ N c s e S0 z):=fun S0 z=>by
  unfold pR.PJ pR.Jm
  exact af (PX N _ _) fun _ _=>bA (fun _=>bT fun r=>up hs r) fun _=>af (PV N hN h2 hm hc hs he) fun r hr=>ag hr
 have mem: ∀{x:ax},G m (.slice gP) x→G m aB ((x,s.2.2.1.2):ah):=fun h=>⟨h,s3.2⟩
 have hd: ∀z:ax×Int,G m (.slice gP) z.1→Ok (SR (m+1)) (cond (az z.2 0) (cond (az e.1 11) ((Mw N c (z.1,s.2.2.1.2) e.2.1).bind fun r2=>cond (az s.2.2.2.1.2.1 3) ((lD N s.2.2.2.1.2.2.2.2.2.2.1 e.2.1).bind fun r3=>(dS N z.2).bind fun r4=>some ((s.1,(s.2.1,(r2.1,((s.2.2.2.1.1,(s.2.2.2.1.2.1,(s.2.2.2.1.2.2.1,(s.2.2.2.1.2.2.2.1,(s.2.2.2.1.2.2.2.2.1,(s.2.2.2.1.2.2.2.2.2.1,(r3,s.2.2.2.1.2.2.2.2.2.2.2))))))),s.2.2.2.2)))),r4)) ((dS N z.2).bind fun r5=>some ((s.1,(s.2.1,(r2.1,s.2.2.2))),r5))) ((dS N z.2).bind fun r6=>some ((s.1,(s.2.1,((z.1,s.2.2.1.2),s.2.2.2))),r6))) ((dS N z.2).bind fun r7=>some ((s.1,(s.2.1,((z.1,s.2.2.1.2),s.2.2.2))),r7))):=fun z hz=>
  ok_eq (fun _=>ok_eq (fun _=>af (Gh N hN c (by omega) (mem hz) _) fun b hb=>ok_eq (fun _=>af (Gi N (by omega) (by omega) k7 _) fun l hl=>bT fun r=>ag ⟨s1,s2,us hb,⟨k1,k2,k3,k4,us k5,us k6,us hl,us k8,us k9,us PW,trivial⟩,us s5⟩) fun _=>bT fun r=>ag ⟨s1,s2,us hb,(us hs).2.2.2⟩) fun _=>bT fun r=>ag ⟨s1,s2,us (mem hz),(us hs).2.2.2⟩) fun _=>bT fun r=>ag ⟨s1,s2,us (mem hz),(us hs).2.2.2⟩
 have K6:=fun k:Int=>KQ N (by omega) (m:=m) (by omega) s3.1 e.2.1 k
 refine ok_eq (fun _=>af (K6 _) fun z hz=>hd z hz) fun _=>ok_eq (fun _=>af (K6 _) fun z hz=>hd z hz) fun _=>ok_eq (fun _=> ?_) fun _=>ok_eq (fun _=> ?_) fun _=>hj _ _
 ·exact af (sf N (by omega) (by omega) hs _) fun _ _=>ok_eq (fun _=>bT fun r=>up hs r) fun _=>bI (fun _=>bT fun r=>up hs r) fun _=>af (K6 _) fun z hz=>bI (fun _=>bT fun r=>ag ⟨s1,s2,us (mem hz),(us hs).2.2.2⟩) fun _=>af (z5 N (by omega) s1 hc.2.2.2.1) fun t ht=>bA (fun _=>bT fun r=>ag ⟨s1,s2,us (mem hz),(us hs).2.2.2⟩) fun _=>ag ⟨s1,s2,us (mem hz),⟨he.2.1,i1,ht,aU,G.nil,G.nil,G.nil,G.nil,G.nil,G.nil,trivial⟩,us s5⟩
 ·exact af (sf N (by omega) (by omega) hs _) fun _ _=>ok_eq (fun _=>bT fun r=>up hs r) fun _=>af (sf N (by omega) (by omega) hs _) fun _ _=>bI (fun _=>bT fun r=>up hs r) fun _=>hj _ _
theorem Te(N:Nat)(hN:5000000≤N){c:ae}{s:aO}{e:fA}{m:Nat}(h2:200≤m)(hm:m≤999)(hc:G 5 aq c)(hs:GS m s)(he:G 0 mu e):Ok (SR (m+1)) (Tf N c s e):=by
 have Lf:G m aq c:=G.mono (by omega) hc
 obtain⟨s1,s2,s3,⟨k1,k2,k3,k4,k5,k6,k7,k8,k9,PW,Tb⟩,s5⟩:=hs
 have hs:GS m s:=⟨s1,s2,s3,⟨k1,k2,k3,k4,k5,k6,k7,k8,k9,PW,Tb⟩,s5⟩
 have us: ∀{τ:Ty} {x:τ.den},G m τ x→G (m+1) τ x:=fun h=>G.mono (by omega) h
 have J0:=us hs
 have up: ∀{x:aO},GS m x→ ∀r:cy,Ok (SR (m+1)) (some (x,r)):=fun h r=>ag (P:=SR (m+1)) (G.mono (Nat.le_succ m) h)
 have st:=fun k:Int=>sf N (by omega) (m:=m) (by omega) hs k
 have hp:=fun a b c d=>Td N (by omega) h2 (by omega) hs a b c d he.2.2.2.2.2.2.1
 have q64:=he.2.2.2.2.2.2.1
 unfold Tf
 refine ok_eq (fun _=> ?_) fun _=>ok_eq (fun _=> ?_) fun _=>ok_eq (fun _=> ?_) fun _=>ok_eq (fun _=> ?_) fun _=>ok_eq (fun _=> ?_) fun _=>ok_eq (fun _=> ?_) fun _=>ok_eq (fun _=> ?_) fun _=>ok_eq (fun _=> ?_) fun _=>ok_eq (fun _=> ?_) fun _=>ok_eq (fun _=> ?_) fun _=>ok_eq (fun _=> ?_) fun _=>af (P0 N hN h2 hm hc hs he) fun r hr=>ag hr
 ·exact af (Pw N (by omega) (by omega) s3.1 he.2.1) fun r hr=>bT fun _=>ag ⟨s1,s2,⟨hr,J0.2.2.1.2⟩,J0.2.2.2⟩
 ·have hx:G 0 df (e.2.2.1,(e.2.1,(e.2.2.2.2.1,((0:Int),())))):=⟨he.2.2.1,he.2.1,he.2.2.2.2.1,aU,trivial⟩
  exact af (SO N (by omega) (by omega) s3.1 s3.2.1 hx) fun r hr=>bT fun _=>ag ⟨s1,s2,⟨J0.2.2.1.1,hr,J0.2.2.1.2.2⟩,J0.2.2.2⟩
 ·exact af (PY N (by omega) (by omega) hs _) fun _ _=>bA (fun _=>bT fun r=>up hs r) fun _=>af (hp _ _ _ _) fun r hr=>ag (us hr)
 ·exact af (Gk N hN h2 (by omega) Lf s3 _ q64) fun r hr=>bT fun z=>ag ⟨s1,s2,us hr,(us hs).2.2.2⟩
 ·exact af (st _) fun _ _=>ok_eq (fun _=>bT fun r=>up hs r) fun _=>af (st _) fun _ _=>bI (fun _=>bT fun r=>up hs r) fun _=>af (hp _ _ _ _) fun r hr=>ag (us hr)
 ·exact af (st _) fun _ _=>ok_eq (fun _=>bT fun r=>up hs r) fun _=>af (m5 N (by omega) (by omega) s3.2.2.1 _ _) fun g hg=>af (aZ N (by omega) hg) fun x hx=>af (oU N (by omega) (by omega) hx) fun x hx=>af (aZ N (by omega) q64) fun y hy=>af (om N (by omega) (by omega) (by omega) hy hx) fun _ _=>au (fun _=>bT fun r=>up hs r) fun _=>af (hp _ _ _ _) fun r hr=>ag (us hr)
 ·exact af (Px N (by omega) (by omega) s3.2.1 q64) fun r hr=>bT fun z=>ag ⟨s1,s2,⟨us s3.1,us hr,(us s3).2.2⟩,(us hs).2.2.2⟩
 ·have hx:G 0 jP (s.2.1,(e.2.2.1,(e.2.2.2.1,(e.2.2.2.2.1,(e.2.2.2.2.2.2.1,(e.2.2.2.2.2.2.2.1,())))))):=⟨s2,he.2.2.1,he.2.2.2.1,he.2.2.2.2.1,q64,he.2.2.2.2.2.2.2.1,trivial⟩
  exact af (PD N hN h2 (by omega) Lf s3 hx) fun r hr=>ag ⟨s1,dQ _,hr,J0.2.2.2⟩
 ·exact af (PY N (by omega) (by omega) hs _) fun _ _=>bA (fun _=>bT fun r=>up hs r) fun _=>af (My N (by omega) (by omega) s3.2.2.2.2.2.1 _ _) fun r hr=>bT fun z=>ag ⟨s1,s2,⟨us s3.1,us s3.2.1,us s3.2.2.1,us s3.2.2.2.1,us s3.2.2.2.2.1,us hr,trivial⟩,(us hs).2.2.2⟩
 ·exact af (Gj N hN c h2 (by omega) s3 _ he.2.2.2.2.2.2.2.1) fun r ⟨C2,D2⟩=>ok_eq (fun _=>bI (fun _=>af (PF N (by omega) h2 (by omega) PW D2) fun g hg=>bT fun z=>ag ⟨s1,s2,us C2,⟨k1,k2,k3,k4,us k5,us k6,us k7,us k8,us k9,us hg,trivial⟩,us s5⟩) fun _=>bT fun z=>ag ⟨s1,s2,us C2,(us hs).2.2.2⟩) fun _=>bT fun z=>ag ⟨s1,s2,us C2,(us hs).2.2.2⟩
 ·exact af (z5 N (by omega) s1 q64) fun t ht=>bA (fun _=>bT fun r=>up hs r) fun _=>ag ⟨ht,(us hs).2⟩
theorem Tg(N:Nat)(hN:5000000≤N){c:ae}{s:aO}{e:fA}{m:Nat}(h2:200≤m)(hm:m≤999)(hc:G 5 aq c)(hs:GS m s)(he:G 0 mu e):Ok (SR (m+1)) (Th N c s e):=by
 have bs: ∀r:cy,Ok (SR (m+1)) (some (s,r)):=fun r=>ag (P:=SR (m+1)) (G.mono (Nat.le_succ m) hs)
 unfold Th
 exact cm (mS N (by omega) c) (bA (fun _=>bs _) fun _=>af (Mv N (by omega) e) fun _ _=>bA (fun _=>bs _) fun _=>af (Te N hN h2 hm hc hs he) fun r hr=>bI (fun _=>bs _) fun _=>ag hr)
theorem aaf(N:Nat)(hN:5000000≤N){c:ae}{l:fO}{m:Nat}(hm:m≤700)(hc:G 5 aq c)(hl:Nf m l):Ok (fun r=>GS 900 r.1) (z6 N c l):=by
 have CO:=hl.1
 unfold z6 z6.b aag
 have hb:Ok (fun r:aO×Int=>GS 5 r.1) ((gu N c).bind fun r1=>cond (!az r1.2 0) (some (Ty.zero cF,r1.2)) (some (((0:Int),((1:Int),(r1.1,(Ty.zero kW,(Ty.zero dR,()))))),(0:Int)))):=af (Ji N (by omega) hc) fun b hb=>bI (fun _=>ag (G.zero 5 cF)) fun _=>ag ⟨aU,(show aC 1 from aV),hb,G.zero 5 kW,G.zero 5 dR,trivial⟩
 refine af hb fun b hb=>bI (fun _=>ag (G.zero 900 cF)) fun _=>bh (len:=l.length) (F:=fun n i (z:aO×aj)=>z6.l6 N n l c (Ty.zero cF) z.1 z.2 i) (s:=(_,_)) (fun i z=>GS (200+i) z.1∧z.2.length≤i) ⟨G.mono (by omega) hb,Nat.zero_le _⟩ (by omega) (fun n i z hi hI hr=> ?_) (fun n z hI=> ?_)
 all_goals unfold z6.l6 z6.ow
 ·obtain⟨h1,h2⟩:=hI
  rw[al (x:=(i:Int)+1) (by omega) (by omega),aa i]
  have hx:G 0 mu (l.getD (i:Int).toNat zz8):=G.at hl _
  exact au (fun _=>aw ⟨by omega,by omega⟩ (af (Tg N hN (by omega) (by omega) hc h1 hx) fun r QJ=>aF (by rw[List.length_singleton];omega) (hr (r.1,z.2++[r.2]) ⟨QJ,by dsimp only;rw[List.length_append,List.length_singleton];omega⟩))) fun _=>by omega
 ·exact au (fun _=>by omega) fun _=>ag (G.mono (by omega) hI.1)
theorem Jr(N:Nat)(hN:5000000≤N){d:aM}{c:ae}(h:Dk 1000 d)(hc:Cf c){Gf:Int}(hm:0≤Gf∧Gf≤100):Ok (fun r=>GS 900 r.1∧Dk 100000 r.2) (F28 N d c Gf):=by
 unfold F28
 refine af (Ms N (by omega) h hc hm (by omega)) fun l ⟨hl,hd⟩=>af (gQ N (by decide) hd) fun v ⟨hv,hd⟩=> ?_
 have CO:=hl.1
 have e1: ∀(k:Int) {x:Int},aC k→aC x→G 0 mu (k,(x,eB)):=fun k x hk hx=>xM hk hx aU aU aU aU aU aU
 have i11:aC 11:=aV
 have i13:aC 13:=aV
 have i10:aC 10:=aV
 have i15:aC 15:=aV
 have i2:aC 2:=aV
 dsimp only
 have h4:=G.cat hl (G.two (m:=2) (e1 11 i11 (dQ (1+v.1))) (e1 13 i13 (dQ (1+v.1))) (Nat.le_refl 2))
 have h4l:=h4.1
 refine aF (by rw[sa];omega) (af (Gg N (by omega) hd hc (by omega)) fun n1 ⟨hn1,hd⟩=> ?_)
 have h5:=G.cat h4 hn1
 have h5l:=h5.1
 have akS:=hn1.1
 refine aF (by omega) (aF (by rw[sa];omega) (af (Gg N (by omega) hd hc (by omega)) fun n2 ⟨hn2,hd⟩=> ?_))
 have h6:=G.cat h5 (G.two (m:=2) (xM i10 aU aU aU aU aU i2 aU) (e1 15 i15 aU) (Nat.le_refl 2))
 have h6l:=h6.1
 have akT:=hn2.1
 exact aF (by simp only[List.length_append,List.length_cons,List.length_nil]at h4l h5l h6l akS akT ⊢;omega) (af (aaf N hN (by omega) hc.g (G.cat h6 hn2)) fun r hr=>ag ⟨hr,Dk.mono hd (by omega)⟩)
end VM
end
section
namespace VM
open Go VM.F Go.RowKit
theorem Ti{l:List Int}(h:WF (.slice (.int .u64)) l):Dk 0 ((l,((0:Int),())):aM):=⟨fun x hx=>by
 obtain⟨i,hi,rfl⟩:=List.getElem_of_mem hx
 have h3:0≤l[i]∧l[i]≤18446744073709551615:=wf_u64.1 (h.2 i hi)
 exact⟨h3.1,Int.lt_of_le_of_lt h3.2 (by decide)⟩,Int.le_refl 0,Int.le_refl 0⟩
namespace Pure
end Pure
end VM
end
section
namespace VM
open Go VM.F
theorem afq{q x:Int}(h0:0≤x)(h1:x<9223372036854775808):aC (sg q x)∧ox (sg q x):=by
 unfold sg aC ox;split<;>omega
theorem P1{t left:Int}{w out:List Int}(f:Full t w w out left)(i:Nat)(hi:i<w.length):0≤out.getD i 0∧out.getD i 0<9223372036854775808:=by
 have c:=f.c
 have h1:=c.le i hi
 have h2:=(c.pc i).2
 have h3:=c.po i
 omega
theorem P2(N:Nat){a q:Int}{accs out:List Int}(hl:accs.length=out.length)(hle:out.length≤1000)(ho: ∀i,i<out.length→0≤out.getD i 0∧out.getD i 0<9223372036854775808)(s:aj)(hs:s.length≤1000)(hN:200000≤N):
  lI.ti N N a q accs s out (out.length:Int) 0=some (s++zc a q (out.zip accs),0):=by
 have hz:(out.zip accs).length=out.length:=by rw[List.length_zip];omega
 have:=nH (out.zip accs) (0,0) (fun n i s=>lI.ti N n a q accs s out (out.length:Int) i) (fun t s=>some (s++zc a q t,(0:Int))) (fun i (s:aj)=>s.length≤1000+i) (fun n i s hi hI hr=> ?_) (fun n s hI=> ?_) out.length N 0 s (by omega) (by omega) (by omega) (by omega)
 ·exact this
 ·unfold lI.ti lI.uX
  have iF:i<out.length:=by omega
  have h2:=ho i iF
  rw[aD (by omega),cond_true,aG (by omega) (by omega),cond_true,Int.toNat_natCast,aG (by omega) (by omega),cond_true,al (x:=(i:Int)+1) (by omega) (by omega),aa i,al (x:=0-out.getD i 0) (by omega) (by omega),Jb iF (by omega),u6]
  dsimp only
  rw[cond_true,ba (by rw[List.length_singleton];omega),cond_true,ba (by rw[List.length_singleton];omega),cond_true]
  have e:sg q (out.getD i 0)=if q<0 then 0-out.getD i 0 else out.getD i 0:=rfl
  rw[bP,cond_not,cond_not,aA,aA]
  have fin:(if sg q (out.getD i 0)=0 then lI.ti N n a q accs s out (out.length:Int) ((i+1:Nat):Int)else lI.ti N n a q accs (s++[(accs.getD i 0,(a,(sg q (out.getD i 0),())))]) out (out.length:Int) ((i+1:Nat):Int))=some (s++(if sg q (out.getD i 0)=0 then zc a q ((out.zip accs).drop (i+1))else(accs.getD i 0,(a,(sg q (out.getD i 0),())))::zc a q ((out.zip accs).drop (i+1))),(0:Int)):=by
   by_cases h:sg q (out.getD i 0)=0
   ·rw[if_pos h,if_pos h];exact hr s (by omega)
   ·rw[if_neg h,if_neg h,hr _ (by rw[List.length_append,List.length_singleton];omega),List.append_assoc];rfl
  refine Eq.trans ?_ fin
  by_cases h:q<0
  ·rw[if_pos h,e,if_pos h]
  ·rw[if_neg h,e,if_neg h]
 ·unfold lI.ti lI.uX
  rw[hz,ay (by omega),cond_false]
  show _=some (s++[],(0:Int))
  rw[List.append_nil]
theorem MN(N:Nat){a q:Int}{accs out:List Int}(hl:accs.length=out.length)(hle:out.length≤1000)(ho: ∀i,i<out.length→0≤out.getD i 0∧out.getD i 0<9223372036854775808)(s:aj)(hs:s.length≤1000)(hN:200000≤N):
  jT.ti N N a q accs out s 0=some (s++zc a q (out.zip accs),0):=by
 have hz:(out.zip accs).length=out.length:=by rw[List.length_zip];omega
 have:=nH (out.zip accs) (0,0) (fun n i s=>jT.ti N n a q accs out s i) (fun t s=>some (s++zc a q t,(0:Int))) (fun i (s:aj)=>s.length≤1000+i) (fun n i s hi hI hr=> ?_) (fun n s hI=> ?_) out.length N 0 s (by omega) (by omega) (by omega) (by omega)
 ·exact this
 ·unfold jT.ti jT.uX
  have iF:i<out.length:=by omega
  have h2:=ho i iF
  rw[aD (by omega),cond_true,aG (by omega) (by omega),cond_true,Int.toNat_natCast,aG (by omega) (by omega),cond_true,al (x:=(i:Int)+1) (by omega) (by omega),aa i,al (x:=0-out.getD i 0) (by omega) (by omega),Jb iF (by omega),u6]
  dsimp only
  rw[cond_true,ba (by rw[List.length_singleton];omega),cond_true,ba (by rw[List.length_singleton];omega),cond_true]
  have e:sg q (out.getD i 0)=if q<0 then 0-out.getD i 0 else out.getD i 0:=rfl
  rw[bP,cond_not,cond_not,aA,aA]
  have fin:(if sg q (out.getD i 0)=0 then jT.ti N n a q accs out s ((i+1:Nat):Int)else jT.ti N n a q accs out (s++[(accs.getD i 0,(a,(sg q (out.getD i 0),())))]) ((i+1:Nat):Int))=some (s++(if sg q (out.getD i 0)=0 then zc a q ((out.zip accs).drop (i+1))else(accs.getD i 0,(a,(sg q (out.getD i 0),())))::zc a q ((out.zip accs).drop (i+1))),(0:Int)):=by
   by_cases h:sg q (out.getD i 0)=0
   ·rw[if_pos h,if_pos h];exact hr s (by omega)
   ·rw[if_neg h,if_neg h,hr _ (by rw[List.length_append,List.length_singleton];omega),List.append_assoc];rfl
  refine Eq.trans ?_ fin
  by_cases h:q<0
  ·rw[if_pos h,e,if_pos h]
  ·rw[if_neg h,e,if_neg h]
 ·unfold jT.ti jT.uX
  rw[hz,ay (by omega),cond_false]
  show _=some (s++[],(0:Int))
  rw[List.append_nil]
theorem DM{l:aj}(h: ∀x∈l,aC (dg x)∧ox (dg x))(a b:Int):aC (ei l a b)∧ox (ei l a b):=by
 have key: ∀l:aj,(∀x∈l,aC (dg x)∧ox (dg x))→aC (eY a b l)∧ox (eY a b l):=by
  intro l
  induction l with
  |nil=>intro _;show aC 0∧ox 0;decide
  |cons x t ih=>
   intro h
   have ih:=ih (fun y hy=>h y (List.mem_cons_of_mem _ hy))
   rw[gM]
   split
   ·split
    ·exact h x (List.mem_cons_self ..)
    ·exact ih
   ·exact ih
 unfold ei
 split
 ·exact key l h
 ·decide
theorem vb(l:aj):(p7 l).length=l.length:=List.length_map ..
theorem oW(l:aj):(eO l).length=l.length:=List.length_map ..
theorem vY{q:Int}(h:aC q∧ox q):(q.natAbs:Int)<9223372036854775808:=by unfold aC ox at h;omega
theorem yv{l:aj}(hk:cR l=true)(hq:dn l): ∀x∈l,aC (dg x)∧ox (dg x):=fun x hx=>⟨hq x hx,((gr hk).2 x hx).2⟩
theorem vZ{l:aj}(hk:cR l=true)(hq:dn l){a q:Int}(sJ:aC q∧ox q)(hc:(eT l a q).2.2=0):
  Full (q.natAbs:Int) (eO (dd a q l)) (eO (dd a q l)) (eT l a q).1 (eT l a q).2.1∧(eT l a q).1.length=(dd a q l).length∧(eT l a q).1.length≤64∧ ∀i,i<(eT l a q).1.length→0≤(eT l a q).1.getD i 0∧(eT l a q).1.getD i 0<9223372036854775808:=by
 have f:Full (q.natAbs:Int) (eO (dd a q l)) (eO (dd a q l)) (eT l a q).1 (eT l a q).2.1:=zT (vY sJ) (oT (yv hk hq) a q) hc
 have h1:=f.c.l2
 have h2:=f.c.n
 rw[oW]at h1 h2
 exact⟨f,h1,by omega,fun i hi=>P1 f i (by rw[oW];omega)⟩
theorem yw(N:Nat)(hN:5000000≤N)(c:ae){b:ah}(w:ly b)(a:Int):lI N c b a=some (dt c b a):=by
 unfold lI lI.b dt
 rw[Kv N (by omega) w,Option.bind_some,Sz N w.s (by omega),Option.bind_some,cond_not,bP,bL,aA]
 by_cases hB:db c b=false
 ·rw[hB];rfl
 rw[Bool.not_eq_false]at hB
 rw[hB,cond_true,if_pos rfl]
 obtain⟨_,hk⟩:=gL hB
 have hq:=yv hk w.qs
 have hh:=DM hq 0 a
 have hlen:=w.s
 have hqs:=w.qs
 generalize b.2.2.2.1=l at*
 generalize ei l 0 a=q at*
 by_cases h1:a<0
 ·rw[if_pos h1,if_pos h1]
 rw[if_neg h1,if_neg h1]
 by_cases h2:(c.1.length:Int)≤a
 ·rw[if_pos h2,if_pos h2]
 rw[if_neg h2,if_neg h2]
 by_cases h3:q=0
 ·rw[if_pos h3,if_pos h3]
 rw[if_neg h3,if_neg h3]
 have qi:=hh.1
 unfold aC at qi
 have hqn:q≠ -9223372036854775808:=hh.2
 have:=nH l aS (fun n i (z:aj)=>lI.tt N n a q (p7 z) (eO z) l (l.length:Int) i)
  (fun t z=>some (if(eT l a q).2.2=0 then(Pk l a q,0)else([],(eT l a q).2.2))) (fun i z=>z++dd a q (l.drop i)=dd a q l∧z.length≤i)
  (fun n i z hi hI hr=> ?_) (fun n z hI=> ?_) l.length N 0 [] (by omega) (by omega) (by omega) ⟨rfl,Nat.le_refl _⟩
 ·exact this
 ·unfold lI.tt lI.qj
  obtain⟨i1,i2⟩:=hI
  have hm:l.getD i aS∈l:=by
   rw[List.getD_eq_getElem?_getD,List.getElem?_eq_getElem hi];exact List.getElem_mem hi
  have hx:=hq _ hm
  rw[drop_cons hi aS,ko]at i1
  rw[aD (by omega),cond_true,aG (by omega) (by omega),cond_true,Int.toNat_natCast,al (x:=(i:Int)+1) (by omega) (by omega),aa i]
  generalize l.getD i aS=x at*
  have nC:=hx.1
  unfold aC dg at nC
  have hxs:(x.2.2.1.natAbs:Int)<9223372036854775808:=vY hx
  rw[ba (by rw[vb,List.length_singleton];omega),cond_true,ye N nC.1 nC.2,Option.bind_some,al (x:=(x.2.2.1.natAbs:Int)) (by omega) (by omega)]
  dsimp only
  rw[ba (by rw[oW,List.length_singleton];omega),cond_true,cond_not,aA,aA,cond_not,qP,mw,mw]
  by_cases e1:x.1=0
  ·rw[if_pos e1]
   rw[if_neg (fun h=>h.1 e1)]at i1
   exact hr z ⟨i1,by omega⟩
  ·rw[if_neg e1]
   by_cases e2:x.2.1=a
   ·rw[if_pos e2]
    by_cases e3:vV (dg x) q
    ·have eb:(decide (x.2.2.1<0)==decide (q<0))=false:=by
      unfold vV dg at e3
      by_cases g1:x.2.2.1<0<;>by_cases g2:q<0
      ·exact absurd ⟨fun _=>g2,fun _=>g1⟩ e3
      ·rw[decide_eq_true g1,decide_eq_false g2];rfl
      ·rw[decide_eq_false g1,decide_eq_true g2];rfl
      ·exact absurd ⟨fun h=>absurd h g1,fun h=>absurd h g2⟩ e3
     rw[eb,cond_false]
     rw[if_pos ⟨e1,e2,e3⟩]at i1
     have:=hr (z++[x]) ⟨by rw[List.append_assoc];exact i1,by rw[List.length_append,List.length_singleton];omega⟩
     unfold p7 eO at this
     rw[List.map_append,List.map_append]at this
     exact this
    ·have eb:(decide (x.2.2.1<0)==decide (q<0))=true:=by
      unfold vV dg at e3
      have e3:=Decidable.not_not.1 e3
      rw[show decide (x.2.2.1<0)=decide (q<0)from decide_eq_decide.2 e3]
      exact beq_self_eq_true _
     rw[eb,cond_true]
     rw[if_neg (fun h=>e3 h.2.2)]at i1
     exact hr z ⟨i1,by omega⟩
   ·rw[if_neg e2]
    rw[if_neg (fun h=>e2 h.2.1)]at i1
    exact hr z ⟨i1,by omega⟩
 ·unfold lI.tt lI.qj
  obtain⟨i1,i2⟩:=hI
  rw[List.drop_length]at i1
  have ez:z=dd a q l:=by rw[←i1];exact(List.append_nil _).symm
  subst ez
  have nU:=oW (dd a q l)
  rw[ay (by omega),cond_false,ye N qi.1 qi.2,Option.bind_some,al (x:=(q.natAbs:Int)) (by omega) (by omega),Mn N hN (by omega) (oT hq a q) (oT hq a q) (by rw[nU];omega),Option.bind_some,cond_not,aA,al (x:=0-q) (by omega) (by omega)]
  show(if(eT l a q).2.2=0 then _ else _)=_
  by_cases h4:(eT l a q).2.2=0
  ·rw[if_pos h4,if_pos h4]
   obtain⟨f,g1,g2,g3⟩:=vZ hk hqs hh h4
   exact P2 N (by rw[vb];omega) (by omega) g3 _ (by simp) (by omega)
  ·rw[if_neg h4,if_neg h4];rfl
theorem P3{l:aj}(h:cR l=true): ∀x∈l,dg x≠0:=fun x hx=>by
 unfold cR at h
 rw[Bool.and_true]at h
 obtain⟨i,hi,e⟩:=List.getElem_of_mem hx
 have:=of_decide_eq_true h i hi
 unfold ij iJ at this
 rw[List.getD_eq_getElem?_getD,List.getElem?_eq_getElem hi]at this
 simp only[Option.getD_some,e]at this
 exact this.2.1
theorem P4{x:Int}(h:aC x∧ox x):mx x (W .i64 (0-x))=(x.natAbs:Int):=by
 unfold aC ox at h
 rw[al (by omega) (by omega),XC];split<;>omega
theorem Gm{x q:Int}(hx:x≠0)(hq:q≠0):vV x q↔ ¬((0<x)↔(0<q)):=by
 unfold vV;omega
theorem Gn(N:Nat)(hN:5000000≤N)(c:ae){b:ah}(w:ly b)(a:Int):jT N c b a=some (dt c b a):=by
 unfold jT jT.b dt
 rw[zr N (by omega) w,Option.bind_some,Du N w.s (by omega),Option.bind_some,cond_not,bP,bL,aA]
 by_cases hB:db c b=false
 ·rw[hB];rfl
 rw[Bool.not_eq_false]at hB
 rw[hB,cond_true,if_pos rfl]
 obtain⟨_,hk⟩:=gL hB
 have hq:=yv hk w.qs
 have hnz:=P3 hk
 have hh:=DM hq 0 a
 have hlen:=w.s
 have hqs:=w.qs
 generalize ei b.2.2.2.1 0 a=q at*
 by_cases h1:a<0
 ·rw[if_pos h1,if_pos h1]
 rw[if_neg h1,if_neg h1]
 by_cases h2:(c.1.length:Int)≤a
 ·rw[if_pos h2,if_pos h2]
 rw[if_neg h2,if_neg h2]
 by_cases h3:q=0
 ·rw[if_pos h3,if_pos h3]
 rw[if_neg h3,if_neg h3]
 have qi:=hh.1
 unfold aC at qi
 have hqn:q≠ -9223372036854775808:=hh.2
 have:=nH b.2.2.2.1 aS (fun n i (z:aj)=>jT.tt N n a b q (p7 z) (eO z) i)
  (fun t z=>some (if(eT b.2.2.2.1 a q).2.2=0 then(Pk b.2.2.2.1 a q,0)else([],(eT b.2.2.2.1 a q).2.2))) (fun i z=>z++dd a q (b.2.2.2.1.drop i)=dd a q b.2.2.2.1∧z.length≤i)
  (fun n i z hi hI hr=> ?_) (fun n z hI=> ?_) b.2.2.2.1.length N 0 [] (by omega) (by omega) (by omega) ⟨rfl,Nat.le_refl _⟩
 ·exact this
 ·unfold jT.tt jT.qj
  obtain⟨i1,i2⟩:=hI
  have hm:b.2.2.2.1.getD i aS∈b.2.2.2.1:=by
   rw[List.getD_eq_getElem?_getD,List.getElem?_eq_getElem hi];exact List.getElem_mem hi
  have hx:=hq _ hm
  have hn:=hnz _ hm
  rw[drop_cons hi aS,ko]at i1
  rw[aD (by omega),cond_true,aG (by omega) (by omega),cond_true,Int.toNat_natCast,al (x:=(i:Int)+1) (by omega) (by omega),aa i]
  generalize b.2.2.2.1.getD i aS=x at*
  have Lg:mx x.2.2.1 (W .i64 (0-x.2.2.1))=(x.2.2.1.natAbs:Int):=P4 hx
  rw[ba (by rw[vb,List.length_singleton];omega),cond_true,Lg]
  dsimp only
  rw[ba (by rw[oW,List.length_singleton];omega),cond_true,cond_not,aA,aA,cond_not,qP,mw,mw]
  by_cases e1:x.1=0
  ·rw[if_pos e1]
   rw[if_neg (fun h=>h.1 e1)]at i1
   exact hr z ⟨i1,by omega⟩
  ·rw[if_neg e1]
   by_cases e2:x.2.1=a
   ·rw[if_pos e2]
    by_cases e3:vV (dg x) q
    ·have eb:(decide (0<x.2.2.1)==decide (0<q))=false:=by
      have e3:=(Gm hn h3).1 e3
      unfold dg at e3
      by_cases g1:0<x.2.2.1<;>by_cases g2:0<q
      ·exact absurd ⟨fun _=>g2,fun _=>g1⟩ e3
      ·rw[decide_eq_true g1,decide_eq_false g2];rfl
      ·rw[decide_eq_false g1,decide_eq_true g2];rfl
      ·exact absurd ⟨fun h=>absurd h g1,fun h=>absurd h g2⟩ e3
     rw[eb,cond_false]
     rw[if_pos ⟨e1,e2,e3⟩]at i1
     have:=hr (z++[x]) ⟨by rw[List.append_assoc];exact i1,by rw[List.length_append,List.length_singleton];omega⟩
     unfold p7 eO at this
     rw[List.map_append,List.map_append]at this
     exact this
    ·have eb:(decide (0<x.2.2.1)==decide (0<q))=true:=by
      have e3:=Decidable.not_not.1 (fun h=>e3 ((Gm hn h3).2 h))
      unfold dg at e3
      rw[show decide (0<x.2.2.1)=decide (0<q)from decide_eq_decide.2 e3]
      exact beq_self_eq_true _
     rw[eb,cond_true]
     rw[if_neg (fun h=>e3 h.2.2)]at i1
     exact hr z ⟨i1,by omega⟩
   ·rw[if_neg e2]
    rw[if_neg (fun h=>e2 h.2.1)]at i1
    exact hr z ⟨i1,by omega⟩
 ·unfold jT.tt jT.qj
  obtain⟨i1,i2⟩:=hI
  rw[List.drop_length]at i1
  have ez:z=dd a q b.2.2.2.1:=by rw[←i1];exact(List.append_nil _).symm
  subst ez
  have nU:=oW (dd a q b.2.2.2.1)
  have CL:=Ci a q b.2.2.2.1
  rw[ay (by omega),cond_false,P4 hh,zS N hN (vY hh) (oT hq a q) (oT hq a q) (by rw[nU];omega),Option.bind_some,cond_not,aA,al (x:=0-q) (by omega) (by omega)]
  show(if(eT b.2.2.2.1 a q).2.2=0 then _ else _)=_
  by_cases h4:(eT b.2.2.2.1 a q).2.2=0
  ·rw[if_pos h4,if_pos h4]
   obtain⟨f,g1,g2,g3⟩:=vZ hk hqs hh h4
   exact MN N (by rw[vb];omega) (by omega) g3 _ (by simp) (by omega)
  ·rw[if_neg h4,if_neg h4];rfl
end VM
end
section
namespace VM
open Go VM.F Go.RowKit
structure lJ(s:aj)(n:Nat):Prop where
 place: ∀x∈s,bM x.1 x.2.1
 q: ∀x∈s,aC (dg x)∧ox (dg x)
 len:s.length≤n
 flat: ∀i:Int,(cU i s).sum=0
theorem lJ.nil(n:Nat):lJ [] n:=⟨fun x hx=>(nomatch hx),fun x hx=>(nomatch hx),Nat.zero_le _,fun i=>rfl⟩
theorem lJ.app{s t:aj}{n m k:Nat}(a:lJ s n)(b:lJ t m)(h:n+m≤k):lJ (s++t) k:=
 ⟨fun x hx=>(List.mem_append.1 hx).elim (a.place x) (b.place x),fun x hx=>(List.mem_append.1 hx).elim (a.q x) (b.q x),by rw[List.length_append];have:=a.len;have:=b.len;omega,fun i=>by rw[Bc,List.sum_append,a.flat,b.flat];rfl⟩
theorem lJ.afr{s:aj}{n:Nat}(a:lJ s n)(h:n≤400):KB s:=⟨a.place,a.q,by have:=a.len;omega,a.flat⟩
theorem Js(a q i:Int): ∀t:List (Int×Int),(cU i (zc a q t)).sum=if a=i then sg q (t.map (·.1)).sum else 0
 |[]=>by
  show(0:Int)=if a=i then sg q 0 else 0
  unfold sg;split<;>(try split)<;>rfl
 |p::t=>by
  have ih:=Js a q i t
  have hs:sg q ((p::t).map (·.1)).sum=sg q p.1+sg q (t.map (·.1)).sum:=by
   rw[List.map_cons,List.sum_cons];unfold sg;split<;>omega
  rw[u6,hs]
  by_cases h:sg q p.1=0
  ·rw[if_pos h,ih,h];split<;>omega
  ·rw[if_neg h,dV]
   dsimp only
   by_cases e:a=i
   ·rw[if_pos e,if_pos e,List.sum_cons,ih,if_pos e];rfl
   ·rw[if_neg e,if_neg e,ih,if_neg e]
theorem Jt{a q:Int}{x:cy}: ∀{t:List (Int×Int)},x∈zc a q t→ ∃p∈t,x=(p.2,(a,(sg q p.1,())))
 |[],h=>nomatch h
 |p::t,h=>by
  rw[u6]at h
  split at h
  ·obtain⟨p',hp,e⟩:=Jt h
   exact⟨p',List.mem_cons_of_mem _ hp,e⟩
  ·rcases List.mem_cons.1 h with e|h
   ·exact⟨p,List.mem_cons_self ..,e⟩
   ·obtain⟨p',hp,e⟩:=Jt h
    exact⟨p',List.mem_cons_of_mem _ hp,e⟩
theorem P5(a q:Int): ∀t:List (Int×Int),(zc a q t).length≤t.length
 |[]=>Nat.le_refl _
 |p::t=>by
  have:=P5 a q t
  rw[u6,List.length_cons]
  split
  ·omega
  ·rw[List.length_cons];omega
theorem rj{c:ae}{b:ah}(h:db c b=true):qW b.2.2.2.1=true∧fu c=true:=by
 unfold db at h
 have h0:=Bool.and_eq_true_iff.1 h
 have h1:=(Bool.and_eq_true_iff.1 h0.2).2
 have h2:=Bool.and_eq_true_iff.1 h1
 exact⟨(Bool.and_eq_true_iff.1 (Bool.and_eq_true_iff.1 h2.2).2).1,h0.1⟩
theorem z7{c:ae}{b:ah}(hB:db c b=true)(w:ly b){a:Int}(h:(dt c b a).2=0):lJ (dt c b a).1 65:=by
 obtain⟨_,hk⟩:=gL hB
 obtain⟨hf,CL⟩:=rj hB
 have hq:=yv hk w.qs
 have hh:=DM hq 0 a
 obtain⟨hs,AH⟩:=gr hk
 unfold dt at h ⊢
 rw[if_pos hB]at h ⊢
 by_cases h1:a<0
 ·rw[if_pos h1];exact lJ.nil _
 rw[if_neg h1]at h ⊢
 by_cases h2:(c.1.length:Int)≤a
 ·rw[if_pos h2];exact lJ.nil _
 rw[if_neg h2]at h ⊢
 by_cases h3:ei b.2.2.2.1 0 a=0
 ·rw[if_pos h3];exact lJ.nil _
 rw[if_neg h3]at h ⊢
 by_cases h4:(eT b.2.2.2.1 a (ei b.2.2.2.1 0 a)).2.2=0
 ·rw[if_pos h4]
  have aah:eY 0 a b.2.2.2.1=ei b.2.2.2.1 0 a:=by unfold ei;rw[hk];rfl
  have hn6:a<6:=by
   unfold fu at CL
   have:=(of_decide_eq_true (Bool.and_eq_true_iff.1 CL).1).2
   omega
  have hz:(cU a b.2.2.2.1).sum=0:=by
   unfold qW at hf
   have Kp:=of_decide_eq_true (Bool.and_eq_true_iff.1 hf).1 a.toNat (by unfold gZ;omega)
   unfold qV eG rM at Kp
   rw[hk,if_pos rfl,show((a.toNat:Nat):Int)=a by omega]at Kp
   exact Kp
  generalize ei b.2.2.2.1 0 a=q at*
  obtain⟨f,g1,g2,g3⟩:=vZ hk w.qs hh h4
  have X4:=Pj f (Ja hs hz aah h3)
  have Bb:=f.c.s
  rw[X4,Int.add_zero]at Bb
  have hzl:((eT b.2.2.2.1 a q).1.zip (p7 (dd a q b.2.2.2.1))).map (·.1)=(eT b.2.2.2.1 a q).1:=List.map_fst_zip (by rw[vb];omega)
  have hsg:sg q (q.natAbs:Int)=q:=by unfold sg;split<;>omega
  have hzz: ∀x∈zc a q ((eT b.2.2.2.1 a q).1.zip (p7 (dd a q b.2.2.2.1))),bM x.1 x.2.1∧aC (dg x)∧ox (dg x):=fun x hx=>by
   obtain⟨p,hp,rfl⟩:=Jt hx
   obtain⟨i,hi,e⟩:=List.getElem_of_mem hp
   rw[List.length_zip]at hi
   have e':=Jb (out:=(eT b.2.2.2.1 a q).1) (accs:=p7 (dd a q b.2.2.2.1)) (i:=i) (by omega) (by omega)
   rw[List.getD_eq_getElem?_getD,List.getElem?_eq_getElem (by rw[List.length_zip];omega)]at e'
   have ep:p=_:=e.symm.trans e'
   have hr:=g3 i (by omega)
   rw[ep]
   refine⟨?_,afq hr.1 hr.2⟩
   have hm:(p7 (dd a q b.2.2.2.1)).getD i 0∈p7 (dd a q b.2.2.2.1):=by
    rw[List.getD_eq_getElem?_getD,List.getElem?_eq_getElem (by omega)];exact List.getElem_mem _
   obtain⟨y,hy,ey⟩:=List.mem_map.1 hm
   have J9:=rY hy
   have hpy:=(AH y J9.1).1
   have g: ∀u v z:Int,bM u v→v=a→u=z→bM z a:=fun u v z h e1 e2=>by rw[←e1,←e2];exact h
   exact g _ _ _ hpy J9.2.2 ey
  refine⟨fun x hx=> ?_,fun x hx=> ?_,?_,fun i=> ?_⟩
  ·rcases List.mem_cons.1 hx with e|hx
   ·rw[e];show bM 0 a;unfold bM;omega
   ·exact(hzz x hx).1
  ·rcases List.mem_cons.1 hx with e|hx
   ·rw[e];exact akF hh
   ·exact(hzz x hx).2
  ·unfold Pk
   rw[List.length_cons]
   have:=P5 a q ((eT b.2.2.2.1 a q).1.zip (p7 (dd a q b.2.2.2.1)))
   rw[List.length_zip]at this
   omega
  ·unfold Pk
   rw[dV]
   dsimp only
   by_cases e:a=i
   ·rw[if_pos e,List.sum_cons,Js,if_pos e,hzl,Bb,hsg]
    show 0-q+q=0
    omega
   ·rw[if_neg e,Js,if_neg e]
 ·rw[if_neg h4]at h
  exact absurd h h4
def xa(c:ae)(b:ah):Nat→Nat→aj→ah×Int
 |0,_,s=>lT b s []
 |m+1,i,s=>if(dt c b (i:Int)).2=0 then xa c b m (i+1) (s++(dt c b (i:Int)).1)else((bK,(cL,(bp,(bp,(c4,(c9,())))))),(dt c b (i:Int)).2)
def rk(c:ae)(b:ah):ah×Int:=if db c b then xa c b c.1.length 0 []else((bK,(cL,(bp,(bp,(c4,(c9,())))))),1)
theorem Cn:KC []:=⟨fun x hx=>(nomatch hx),fun x hx=>(nomatch hx),Nat.zero_le _,rfl⟩
theorem KT(N:Nat)(hN:5000000≤N)(c:ae){b:ah}(w:uS b):xO N c b=some (rk c b):=by
 unfold xO xO.b rk
 rw[Kv N (by omega) w.w,Option.bind_some,cond_not]
 by_cases hB:db c b=false
 ·rw[hB];rfl
 rw[Bool.not_eq_false]at hB
 rw[hB,cond_true,if_pos rfl]
 obtain⟨hr,hs⟩:=gL hB
 have h6:c.1.length≤6:=by
  have CL:=(rj hB).2
  unfold fu at CL
  exact(of_decide_eq_true (Bool.and_eq_true_iff.1 CL).1).2
 have key: ∀(m n i:Nat) (s:aj),i+m=c.1.length→m<n→lJ s (65*i)→xO.l5 N n c b (bK,(cL,(bp,(bp,(c4,(c9,())))))) s (c.1.length:Int) (i:Int)=some (xa c b m i s):=by
  intro m n
  induction n generalizing m with
  |zero=>intro i s _ hn _;omega
  |succ n ih=>
   intro i s hi hn I
   unfold xO.l5 xO.dq
   have hls:=I.len
   match m,hi,hn with
   |0,hi,hn=>
    have XP:=OW N (by omega) w.w hr hs w.r w.s (I.afr (by omega)) Cn
    rw[ay (by omega),cond_false]
    show(F65 N b s ([].map gK)).bind _=some (lT b s [])
    rw[XP,Option.bind_some]
   |m+1,hi,hn=>
    rw[aD (by omega),cond_true,yw N hN c w.w,Option.bind_some,cond_not,aA,al (x:=(i:Int)+1) (by omega) (by omega),aa i]
    show _=some (if(dt c b (i:Int)).2=0 then xa c b m (i+1) (s++(dt c b (i:Int)).1)else((bK,(cL,(bp,(bp,(c4,(c9,())))))),(dt c b (i:Int)).2))
    by_cases h:(dt c b (i:Int)).2=0
    ·have J:=z7 hB w.w h
     have hlj:=J.len
     rw[if_pos h,if_pos h,ba (by omega),cond_true]
     exact ih m (i+1) _ (by omega) (by omega) (I.app J (by omega))
    ·rw[if_neg h,if_neg h]
 exact key c.1.length N 0 [] (by omega) (by omega) (lJ.nil _)
theorem P6(N:Nat)(hN:5000000≤N)(c:ae){b:ah}(w:uS b):tE N c b=some (rk c b):=by
 unfold tE tE.b rk
 rw[zr N (by omega) w.w,Option.bind_some,cond_not]
 by_cases hB:db c b=false
 ·rw[hB];rfl
 rw[Bool.not_eq_false]at hB
 rw[hB,cond_true,if_pos rfl]
 obtain⟨hr,hs⟩:=gL hB
 have h6:c.1.length≤6:=by
  have CL:=(rj hB).2
  unfold fu at CL
  exact(of_decide_eq_true (Bool.and_eq_true_iff.1 CL).1).2
 have key: ∀(m n i:Nat) (s:aj),i+m=c.1.length→m<n→lJ s (65*i)→tE.l5 N n c b (bK,(cL,(bp,(bp,(c4,(c9,())))))) s (i:Int)=some (xa c b m i s):=by
  intro m n
  induction n generalizing m with
  |zero=>intro i s _ hn _;omega
  |succ n ih=>
   intro i s hi hn I
   unfold tE.l5 tE.dq
   have hls:=I.len
   match m,hi,hn with
   |0,hi,hn=>
    have XP:=Su N (by omega) w.w hr hs w.r w.s (I.afr (by omega)) Cn
    rw[ay (by omega),cond_false]
    show(uR N b s ([].map jS)).bind _=some (lT b s [])
    rw[XP,Option.bind_some]
   |m+1,hi,hn=>
    rw[aD (by omega),cond_true,Gn N hN c w.w,Option.bind_some,cond_not,aA,al (x:=(i:Int)+1) (by omega) (by omega),aa i]
    show _=some (if(dt c b (i:Int)).2=0 then xa c b m (i+1) (s++(dt c b (i:Int)).1)else((bK,(cL,(bp,(bp,(c4,(c9,())))))),(dt c b (i:Int)).2))
    by_cases h:(dt c b (i:Int)).2=0
    ·have J:=z7 hB w.w h
     have hlj:=J.len
     rw[if_pos h,if_pos h,ba (by omega),cond_true]
     exact ih m (i+1) _ (by omega) (by omega) (I.app J (by omega))
    ·rw[if_neg h,if_neg h]
 exact key c.1.length N 0 [] (by omega) (by omega) (lJ.nil _)
theorem Ju{c:ae}{b:ah}(w:ly b):FM (rk c b).1:=by
 have key: ∀(m i:Nat) (s:aj),FM (xa c b m i s).1:=by
  intro m
  induction m with
  |zero=>intro i s;exact FN w s []
  |succ m ih=>
   intro i s
   show FM (if(dt c b (i:Int)).2=0 then xa c b m (i+1) (s++(dt c b (i:Int)).1)else((bK,(cL,(bp,(bp,(c4,(c9,())))))),(dt c b (i:Int)).2)).1
   split
   ·exact ih _ _
   ·exact rT
 unfold rk
 split
 ·exact key _ _ _
 ·exact rT
theorem P7{c:ae}{b:ah}(w:ly b)(a:Int):(dt c b a).1.length≤100000:=by
 by_cases hB:db c b=true
 ·by_cases h:(dt c b a).2=0
  ·have:=(z7 hB w h).len;omega
  ·unfold dt at h ⊢
   rw[if_pos hB]at h ⊢
   by_cases h1:a<0
   ·rw[if_pos h1];exact Nat.zero_le _
   rw[if_neg h1]at h ⊢
   by_cases h2:(c.1.length:Int)≤a
   ·rw[if_pos h2];exact Nat.zero_le _
   rw[if_neg h2]at h ⊢
   by_cases h3:ei b.2.2.2.1 0 a=0
   ·rw[if_pos h3];exact Nat.zero_le _
   rw[if_neg h3]at h ⊢
   by_cases h4:(eT b.2.2.2.1 a (ei b.2.2.2.1 0 a)).2.2=0
   ·rw[if_pos h4]at h;exact absurd rfl h
   ·rw[if_neg h4];exact Nat.zero_le _
 ·unfold dt
  rw[if_neg hB];exact Nat.zero_le _
theorem z8(N:Nat){l:aj}(hl:l.length≤100000)(hN:200000≤N):vn N l l=some true:=by
 unfold vn vn.b
 rw[dz,Bool.not_true,cond_false]
 refine iW (F:=fun n i=>vn.l4 N n l l i) (len:=l.length) (fun n i hi hr=> ?_) (fun n=> ?_) l.length N 0 (by omega) (by omega) (by omega)
 ·unfold vn.l4 vn.cn
  rw[aD (by omega),cond_true,aG (by omega) (by omega),cond_true,cond_true,Dt,Bool.not_true,cond_false,al (x:=(i:Int)+1) (by omega) (by omega),aa i]
  exact hr
 ·unfold vn.l4 vn.cn
  rw[ay (by omega),cond_false]
theorem P8(N:Nat)(hN:5000000≤N)(c:ae){b:ah}(w:uS b)(a:Int):F29 N c b a=some true:=by
 unfold F29
 have sh:=Ju (c:=c) w.w
 rw[yw N hN c w.w,Option.bind_some,Gn N hN c w.w,Option.bind_some,KT N hN c w,Option.bind_some,P6 N hN c w,Option.bind_some,dz,cond_true,z8 N (P7 w.w a) (by omega),Option.bind_some,cond_true,dz,cond_true,O4 N (by omega) sh.m sh.a sh.r sh.s sh.p sh.o,Option.bind_some]
def tC:ae:=([((0:Int),((100:Int),cc))],((0:Int),((0:Int),((0:Int),((0:Int),((1:Int),((0:Int),())))))))
def tS:aj:=[((0:Int),((0:Int),((3:Int),()))),((1:Int),((0:Int),((-4:Int),()))),((2:Int),((0:Int),((-2:Int),()))),((3:Int),((0:Int),((3:Int),())))]
def tB:ah:=([((1:Int),((1:Int),()))],([((1:Int),((1:Int),((1:Int),((0:Int),())))),((2:Int),((1:Int),((2:Int),((0:Int),())))),((3:Int),((1:Int),((2:Int),((0:Int),()))))],(([]:aj),(tS,([(100:Int)],(c9,()))))))
theorem tW:uS tB:=⟨⟨by decide,by decide,by decide,by decide,by decide,by decide,fun x hx=>(nomatch hx),Sw (l:=tS) (by decide)⟩,by decide,by decide⟩
def tL0:aj:=[((0:Int),((0:Int),((-3:Int),()))),((1:Int),((0:Int),((2:Int),()))),((2:Int),((0:Int),((1:Int),())))]
def tL1:aj:=[((1:Int),((0:Int),((-2:Int),()))),((2:Int),((0:Int),((-1:Int),()))),((3:Int),((0:Int),((3:Int),())))]
theorem tC0:dt tC tB 0=(tL0,0):=by kernel_rfl
theorem tC1:(dt tC tB 1).2=3:=by kernel_rfl
theorem tT0:(rk tC tB).2=0:=by kernel_rfl
theorem tT1:(rk tC tB).1.2.2.2.1=tL1:=by kernel_rfl
theorem MO(N:Nat)(hN:5000000≤N):F26 N=some true:=by
 unfold F26 F86
 rw[Option.bind_some]
 show(lI N tC tB 0).bind _=_
 rw[yw N hN tC tW.w,Option.bind_some,tC0]
 show(xO N tC tB).bind _=_
 rw[KT N hN tC tW,Option.bind_some]
 show(lI N tC tB 1).bind _=_
 rw[yw N hN tC tW.w,Option.bind_some,tC1,tT0,tT1]
 have h1:vn N tL0 tL0=some true:=z8 N (by decide) (by omega)
 have h2:vm N tL1 tL1=some true:=B0 N (by decide) (by omega)
 show cond (az 0 0) ((vn N tL0 tL0).bind fun r5=>cond (r5) (cond (az 0 0) ((vm N tL1 tL1).bind fun r6=>cond (r6) (some (az 3 3)) (some false)) (some false)) (some false)) (some false)=some true
 rw[h1,h2]
 simp only[dz,cond_true,Option.bind_some]
namespace Pure
end Pure
end VM
end
section
namespace VM
open Go VM.F Go.RowKit
namespace Pure
theorem MP(l:List Int)(h:WFs [.slice (.int .u64)] l): ∃N,F6 N l=some true:=by
 have key:Ok (fun r=>r=true) (F6 6000000 l):=by
  unfold F6 F6.b F13
  refine cm (MO 6000000 (by omega)) (bA (fun h=>nomatch h) fun _=>cm rfl (af (Mq 6000000 (by omega) (Ti h.1)) fun c ⟨⟨hc,AQ⟩,hd⟩=>af (Jr 6000000 (by omega) hd ⟨hc,AQ⟩ (by omega)) fun s ⟨hs,_⟩=> ?_))
  have w:=G.wf (by omega) hs.2.2.1
  have D3:=hc.1.1
  refine iB (len:=c.1.1.length+1) (F:=fun n i=>F6.l7 6000000 n c.1 s.1.2.2.1 i) (by omega) (fun n i hi dx=> ?_) (fun n=> ?_)
  all_goals unfold F6.l7 F6.ll
  ·rw[al (x:=(i:Int)+1) (by omega) (by omega),aa i]
   exact de (fun _=>cm (P8 6000000 (by omega) c.1 w _) (bA (fun h=>nomatch h) fun _=>dx)) fun _=>by omega
  ·exact de (fun _=>by omega) fun _=>ag rfl
 obtain⟨r,e,hr⟩:=key
 exact⟨6000000,by rw[e,hr]⟩
end Pure
end VM
end
