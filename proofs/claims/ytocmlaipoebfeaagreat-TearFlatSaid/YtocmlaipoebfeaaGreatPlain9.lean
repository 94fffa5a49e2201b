/- A part of the proof of TearFlat of layer 29: what the functions compute, in plain words. -/
import Derived.Test.YtocmlaipoebfeaaGreatPlain8
import Derived.Test.YtocmlaipoebfeaaGreatPlain7
set_option linter.all false
section
namespace VM
open Go VM.F
def qp(c:ag)(m:Nat)(s:aU):Prop:=RB c s.2.2.1∧1≤s.2.1∧s.2.1≤2000*(m:Int)
abbrev SI(c:ag)(m:Nat)(r:aU×dd):Prop:=r.2.1=0→qp c m r.1
theorem qp.up{c:ag}{m:Nat}{s:aU}(h:qp c m s):qp c (m+1) s:=⟨h.1,h.2.1,gQ h.2.2 ω⟩
theorem qp.add{n k:Int}{m:Nat}(h:1≤n∧n≤2000*(m:Int))(hm:m≤999)(hk:0≤k∧k≤2000):1≤W .i64 (n+k)∧W .i64 (n+k)≤2000*((m+1:Nat):Int):=by
 rw[aw ω ω];omega
theorem ic{c:ag}{m N:Nat}{e:Int}{x:aU}(h:e=0→qp c m x):Ok (SI c m) ((fF N e).bind λr=>some (x,r)):=by
 unfold fF;exact an h
theorem dU{c:ag}{m N:Nat}{e:Int}{x:aU}(h:e≠0):Ok (SI c m) ((fF N e).bind λr=>some (x,r)):=ic λh'=>absurd h' h
theorem XY(N:Nat)(hN:200000≤N){s:aU}(hl:s.2.2.1.2.1.length≤100000)(k:Int):QQ N s k=some (gd s.2.2.1.2.1 k).2:=by
 unfold QQ;rw[Az N hl hN];rfl
theorem UA(N:Nat)(hN:200000≤N){s:aU}(hl:s.2.2.1.1.length≤100000)(k:Int):Gm N s k=some (iN s.2.2.1.1 k):=by
 unfold Gm;rw[rz N hl hN];rfl
theorem K1(N:Nat)(hN:4000000≤N){c:ag}{s:aU}{m:Nat}(hm:m≤50000)(hs:GS m s)(hR:qp c m s){a b d e q:Int}(hq:aH q)(h1:cW a b∧jx s.2.2.1.1 s.2.2.1.2.1 a b)(h2:cW d e∧jx s.2.2.1.1 s.2.2.1.2.1 d e):Ok (SI c (m+1)) (N1 N s a b d e q):=by
 unfold N1
 exact bx (dC N ω hq.1 hq.2) (af (sZ N hN (tq hq) h1 h2) λp ⟨hp,Dr⟩=>af (sY N hN hm hs.2.2.1 hR.1 SB.nil hp (bG _) ω) λr hr=>an λh=>⟨(hr h).1,hR.up.2⟩)
theorem UB(N:Nat)(hN:5000000≤N){c:ag}{s:aU}{e:ia}{m:Nat}(h2:200≤m)(hm:m≤999)(hc:G m aB c)(hs:GS m s)(hR:qp c m s)(he:G 0 pv e):Ok (SI c (m+1)) (n7 N c s e):=by
 have hhl:=hs.2.2.2.1.2.2.2.2.1.1
 unfold n7 n7.b
 generalize ((0:Int),((0:Int),_))=S0
 refine bk (len:=s.2.2.2.1.2.2.2.2.1.length) (F:=λn i (z:aU×aO×Bool×Int)=>n7.l5 N n c z.1 e S0 bf z.2.1 z.2.2.1 z.2.2.2 i) (s:=(_,(_,(_,_)))) (λi z=>(GS m z.1∧qp c m z.1)∧z.1.2.2.2.1.2.2.2.2.1=s.2.2.2.1.2.2.2.2.1∧G i (.slice eR) z.2.1) ⟨⟨hs,hR⟩,rfl,G.nil⟩ ω (λn i z hi hI hr=> ?_) (λn z hI=> ?_)
 all_goals unfold n7.l5 n7.fi
 ·obtain⟨⟨hz,hzR⟩,hh,ho⟩:=hI
  have Im:=ho.1
  rw[hh,aw (x:=(i:Int)+1) ω ω,ae i]
  have hx:G 0 eR (s.2.2.2.1.2.2.2.2.1.getD (i:Int).toNat a7):=G.at hs.2.2.2.1.2.2.2.2.1 _
  have hxm:G m eR (s.2.2.2.1.2.2.2.2.1.getD (i:Int).toNat a7):=G.mono (bG m) hx
  refine ax (λ_=>aA ⟨ω,ω⟩ (ok_eq (λ_=>af (Ok.and (Sp N hN h2 ω hc hz.2.2.1 hxm he.2.2.1 he.2.2.2.2.2.2.1 he.2.2.2.2.2.2.2.1) (aa4 N hN h2 ω hc hz.2.2.1 hzR.1 hxm he.2.2.1 he.2.2.2.2.2.2.1 he.2.2.2.2.2.2.2.1)) λr ⟨⟨zf,zV⟩,Xt⟩=>bu (λh=>dU h) λh0=> ?_) λ_=>ax (λ_=>aD (by rw[aK];omega) (hr (z.1,(z.2.1++[s.2.2.2.1.2.2.2.2.1.getD (i:Int).toNat a7],z.2.2)) ⟨⟨hz,hzR⟩,hh,G.cat ho (G.one hx (aI 1))⟩)) λ_=>hr z ⟨⟨hz,hzR⟩,hh,G.mono ω ho⟩)) λ_=>ω
  have Dm:GS m (z.1.1,(z.1.2.1,(r.1,z.1.2.2.2))):=⟨hz.1,hz.2.1,zf,hz.2.2.2⟩
  have anB:qp c m (z.1.1,(z.1.2.1,(r.1,z.1.2.2.2))):=⟨Xt h0,hzR.2⟩
  have aib:G 0 eR r.2.1:=zV
  exact ax (λ_=>aD (by rw[aK];omega) (hr ((z.1.1,(z.1.2.1,(r.1,z.1.2.2.2))),(z.2.1++[r.2.1],(true,r.2.1.2.2.2.1))) ⟨⟨Dm,anB⟩,hh,G.cat ho (G.one aib (aI 1))⟩)) λ_=>hr ((z.1.1,(z.1.2.1,(r.1,z.1.2.2.2))),(z.2.1,(true,r.2.1.2.2.2.1))) ⟨⟨Dm,anB⟩,hh,G.mono ω ho⟩
 ·obtain⟨⟨hz,hzR⟩,hh,ho⟩:=hI
  rw[hh]
  exact ax (λ_=>ω) λ_=>bw (λ_=>dU δ) λ_=>an λ_=>⟨hzR.1,hzR.up.2⟩
theorem XZ(N:Nat)(hN:5000000≤N){c:ag}{s:aU}{e:ia}{m:Nat}(h2:200≤m)(hm:m≤999)(hc:G 5 aB c)(hs:GS m s)(hR:qp c m s)(he:G 0 pv e):Ok (SI c (m+1)) (oa N c s e):=by
 have D1:G m aB c:=G.mono ω hc
 have hk:=hs.2.2.2.1
 have hb:=hs.2.2.1
 have up:=hR.up.2
 unfold oa oa.b
 refine ok_eq (λ_=> ?_) λ_=>ok_eq (λ_=> ?_) λ_=>ok_eq (λ_=> ?_) λ_=>ok_eq (λ_=> ?_) λ_=>ok_eq (λ_=> ?_) λ_=>ok_eq (λ_=> ?_) λ_=>ok_eq (λ_=> ?_) λ_=>ok_eq (λ_=> ?_) λ_=>ic λ_=>hR.up
 ·exact af (aa8 N hN ω D1 hb hR.1 _ _ _) λr hr=>ic λh=>⟨hr h,up⟩
 ·exact af (aa9 N hN h2 ω D1 hb hR.1 _) λr hr=>ic λh=>⟨(hr h).1,up⟩
 ·exact af (Ja N hN c hc.2.2.2.2.2.2.1 ω hb _) λr hr=>an λ_=>⟨hR.1,qp.add hR.2 hm (by have:=hr.1;omega)⟩
 ·exact af (UB N hN h2 ω D1 hs hR he) λr hr=>an hr
 ·exact ok_eq (λ_=>dU δ) λ_=>af (Sr N hN h2 ω D1 hb hs.2.1) λl hl=>bu (λh=>dU h) λ_=>af (uy N ω hs.1 hc.2.2.2.2.1) λt ht=>bw (λ_=>dU δ) λ_=>af (Sq N hN c ω hb) λu hu=>an λ_=>⟨hR.1,qp.add hR.2 hm (by have:=hl.1;omega)⟩
 ·have hx:G 0 eR (s.2.1,(e.2.2.2.2.2.1,(e.2.1,(e.2.2.2.2.2.2.2.1,())))):=⟨hs.2.1,he.2.2.2.2.2.1,he.2.1,he.2.2.2.2.2.2.2.1,trivial⟩
  exact af (Je N hN ω ω D1 hb hk.2.2.2.2.2.1 hk.2.2.2.2.2.2.1 hx) λr hr=>an λ_=>⟨hR.1,qp.add hR.2 hm δ⟩
 ·refine af (Ok.and (NY N hN c h2 ω hb hk.2.2.2.2.2.1 hk.2.2.2.2.2.2.1) (XQ N hN h2 ω hb hR.1 hk.2.2.2.2.2.1 hk.2.2.2.2.2.2.1)) λr ⟨⟨zf,zV⟩,Xt⟩=>bu (λh=>dU h) λh0=>af (NW N ω c h2 ω hk.2.2.2.2.2.2.2.2.1 hk.2.2.2.2.2.2.2.1.1 zV hk.2.2.2.2.2.2.1) λd hd=> ?_
  generalize ((0:Int),((0:Int),_))=S0
  have H9:=zV.1
  refine bk (len:=r.2.1.length) (F:=λn i q=>oa.l41 N n _ S0 bf r.2.1 q i) (λ_ _=>True) trivial ω (λn i q hi _ eZ=> ?_) (λn q _=> ?_)
  all_goals unfold oa.l41 oa.aaV
  ·rw[aw (x:=(i:Int)+1) ω ω,ae i]
   exact ax (λ_=>aA ⟨ω,ω⟩ (ok_eq (λ_=>eZ _ trivial) λ_=>eZ _ trivial)) λ_=>ω
  ·exact ax (λ_=>ω) λ_=>an λ_=>⟨Xt h0,up⟩
 ·exact af (Ok.and (Jh N hN h2 ω D1 hb hk.2.2.2.2.2.2.2.2.1 hk.2.2.2.2.2.2.2.2.2.1 hk.1) (Uw N hN h2 ω D1 hb hR.1 hk.2.2.2.2.2.2.2.2.1 hk.2.2.2.2.2.2.2.2.2.1 hk.1)) λr ⟨⟨zf,zV⟩,Xt⟩=>bu (λh=>dU h) λh0=>af (Ok.and (Sv N hN h2 ω hc zf) (abb N hN ω zf (Xt h0).1)) λb ⟨hb,tU⟩=>bu (λh=>dU h) λh1=>af (Sy N ω (cA hb.1.1 ω) _ _) λu hu=>an λh=>have B:=(tU h1).1;⟨B.Ut (hu h).1 B.a (hu h).2.1 (λ_ h=>h) λx hx=>(hu h).2.1 _ (B.ma x hx),up⟩
theorem X0(N:Nat)(hN:5000000≤N){c:ag}{s:aU}{e:ia}{m:Nat}(h2:200≤m)(hm:m≤999)(hc:G 5 aB c)(hs:GS m s)(hR:qp c m s)(he:G 0 pv e):Ok (SI c (m+1)) (pV N c s e):=by
 obtain⟨s1,s2,s3,⟨k1,k2,k3,k4,k5,k6,k7,k8,k9,Uo,XA⟩,s5⟩:=hs
 have hs:GS m s:=⟨s1,s2,s3,⟨k1,k2,k3,k4,k5,k6,k7,k8,k9,Uo,XA⟩,s5⟩
 have up:=hR.up.2
 unfold pV pV.b
 have hj: ∀(S0:aU) (z:dd),Ok (SI c (m+1)) (pV.Uh N c s e S0 z):=λS0 z=>by
  unfold pV.Uh pV.NV
  exact af (N0 N _ _) λ_ _=>bw (λ_=>dU δ) λ_=>af (XZ N hN h2 hm hc hs hR he) λr hr=>an hr
 have mem: ∀{x:aG},G m (.slice ka) x→G m aJ ((x,s.2.2.1.2):aq):=λh=>⟨h,s3.2⟩
 have rb: ∀{x:aG},dx x=true→(∀n,jn s.2.2.1.1 n→jn x n)→RB c ((x,s.2.2.1.2):aq):=λh1 h2=>hR.1.Ut h1 hR.1.a h2 (λ_ h=>h) λx hx=>h2 _ (hR.1.ma x hx)
 have Hr:=λk:Int=>Ok.and (KK N ω (m:=m) ω s3.1 e.2.1 k) (Sy N ω (cA s3.1.1 ω) e.2.1 k)
 have hd: ∀z:aG×Int,G m (.slice ka) z.1∧(z.2=0→dx z.1=true∧(∀n,jn s.2.2.1.1 n→jn z.1 n)∧jn s.2.2.1.1 e.2.1)→Ok (SI c (m+1)) (cond (aM z.2 0) (cond (aM e.1 11) ((KL N c (z.1,s.2.2.1.2) e.2.1).bind λr2=>cond (aM s.2.2.2.1.2.1 3) ((px N s.2.2.2.1.2.2.2.2.2.2.1 e.2.1).bind λr3=>(fF N z.2).bind λr4=>some ((s.1,(s.2.1,(r2.1,((s.2.2.2.1.1,(s.2.2.2.1.2.1,(s.2.2.2.1.2.2.1,(s.2.2.2.1.2.2.2.1,(s.2.2.2.1.2.2.2.2.1,(s.2.2.2.1.2.2.2.2.2.1,(r3,s.2.2.2.1.2.2.2.2.2.2.2))))))),s.2.2.2.2)))),r4)) ((fF N z.2).bind λr5=>some ((s.1,(s.2.1,(r2.1,s.2.2.2))),r5))) ((fF N z.2).bind λr6=>some ((s.1,(s.2.1,((z.1,s.2.2.1.2),s.2.2.2))),r6))) ((fF N z.2).bind λr7=>some ((s.1,(s.2.1,((z.1,s.2.2.1.2),s.2.2.2))),r7))):=λz ⟨hz,hi⟩=>
  ok_eq (λh0=>have B:=rb (hi h0).1 (hi h0).2.1;ok_eq (λ_=>af (N9 N hN (m:=m) ω (mem hz) B _ ((hi h0).2.1 _ (hi h0).2.2)) λb hb=>ok_eq (λ_=>af (C3 N ω ω k7 _) λl hl=>ic λ_=>⟨hb,up⟩) λ_=>ic λ_=>⟨hb,up⟩) λ_=>ic λ_=>⟨B,up⟩) λh=>dU h
 refine ok_eq (λ_=>af (Hr _) λz hz=>hd z hz) λ_=>ok_eq (λ_=>af (Hr _) λz hz=>hd z hz) λ_=>ok_eq (λ_=> ?_) λ_=>ok_eq (λ_=> ?_) λ_=>hj _ _
 ·exact af (oL N ω ω hs _) λ_ _=>ok_eq (λ_=>dU δ) λ_=>bu (λ_=>dU δ) λ_=>af (Hr _) λz ⟨hz,hi⟩=>bu (λh=>dU h) λh0=>af (uy N ω s1 hc.2.2.2.1) λt ht=>bw (λ_=>dU δ) λ_=>an λ_=>⟨rb (hi h0).1 (hi h0).2.1,up⟩
 ·exact af (oL N ω ω hs _) λ_ _=>ok_eq (λ_=>dU δ) λ_=>af (oL N ω ω hs _) λ_ _=>bu (λ_=>dU δ) λ_=>hj _ _
theorem abc(N:Nat)(hN:5000000≤N){c:ag}{s:aU}{e:ia}{m:Nat}(h2:200≤m)(hm:m≤999)(hc:G 5 aB c)(hs:GS m s)(hR:qp c m s)(he:G 0 pv e):Ok (SI c (m+1)) (Up N c s e):=by
 have D1:G m aB c:=G.mono ω hc
 have hb:=hs.2.2.1
 have Uq:=he.2.2.2.2.2.2.1
 have up:=hR.up.2
 have B:=hR.1
 have ml:=cA hb.1.1 (show m≤50000 by omega)
 have al:=cA hb.2.1.1 (show m≤50000 by omega)
 have hW:cW 1 0∧jx s.2.2.1.1 s.2.2.1.2.1 1 0:=B2 δ
 have st:=λk:Int=>UA N ω (s:=s) ω k
 have stm: ∀k:Int,iN s.2.2.1.1 k≠0→jn s.2.2.1.1 k:=λk h=>(vt B.m k).1 h
 unfold Up
 refine ok_eq (λ_=> ?_) λ_=>ok_eq (λ_=> ?_) λ_=>ok_eq (λ_=> ?_) λ_=>ok_eq (λ_=> ?_) λ_=>ok_eq (λ_=> ?_) λ_=>ok_eq (λ_=> ?_) λ_=>ok_eq (λ_=> ?_) λ_=>ok_eq (λ_=> ?_) λ_=>ok_eq (λ_=> ?_) λ_=>ok_eq (λ_=> ?_) λ_=>ok_eq (λ_=> ?_) λ_=>af (X0 N hN h2 hm hc hs hR he) λr hr=>an hr
 ·exact af (XG N ω ml _) λr hr=>ic λh=>⟨B.Ut (hr h).1 B.a (hr h).2 (λ_ h=>h) λx hx=>(hr h).2 _ (B.ma x hx),up⟩
 ·exact af (aa3 N ω ml al _) λr hr=>ic λh=>⟨B.Ut B.m (hr h).1 (λ_ h=>h) (hr h).2.1 (hr h).2.2,up⟩
 ·exact bx (XY N ω ω _) (bw (λ_=>dU δ) λhf=>af (K1 N ω ω hs hR Uq hW (uB B ((pB B.a _).1 hf))) λr hr=>an hr)
 ·exact af (N7 N hN h2 ω D1 hb B he.2.2.1 Uq) λr hr=>ic λh=>⟨(hr h).1,up⟩
 ·exact bx (st _) (ok_eq (λ_=>dU δ) λh0=>bx (st _) (bu (λ_=>dU δ) λ_=>af (K1 N ω ω hs hR Uq hW (A6 B δ (stm _ h0))) λr hr=>an hr))
 ·exact bx (st _) (ok_eq (λ_=>dU δ) λh0=>af (mD N ω ω hb.2.2.1 _ _) λg hg=>af (bq N ω hg) λx hx=>af (qE N ω ω hx) λx hx=>af (bq N ω Uq) λy hy=>af (pS N ω ω ω hy hx) λ_ _=>ax (λ_=>dU δ) λ_=>af (K1 N ω ω hs hR Uq hW (A6 B δ (stm _ h0))) λr hr=>an hr)
 ·exact af (XI N ω al B.ma _ _) λr hr=>ic λh=>⟨B.Ut B.m (hr h).1 (λ_ h=>h) (hr h).2.1 (hr h).2.2,up⟩
 ·have hx:G 0 m6 (s.2.1,(e.2.2.1,(e.2.2.2.1,(e.2.2.2.2.1,(e.2.2.2.2.2.2.1,(e.2.2.2.2.2.2.2.1,())))))):=⟨hs.2.1,he.2.2.1,he.2.2.2.1,he.2.2.2.2.1,Uq,he.2.2.2.2.2.2.2.1,trivial⟩
  exact af (XN N hN h2 ω D1 hb B hx) λr hr=>an λh=>⟨hr h,qp.add hR.2 hm δ⟩
 ·exact bx (XY N ω ω _) (bw (λ_=>dU δ) λ_=>af (Uu N ω (cA hb.2.2.2.2.2.1.1 ω) _ _) λr hr=>ic λh=>⟨B.KX (hr h).1 λx hx=>B.ok x ((hr h).2 x hx),up⟩)
 ·exact af (Ok.and (C5 N hN c h2 ω hb _ he.2.2.2.2.2.2.2.1) (N8 N hN ω hb B _ _)) λr ⟨⟨zf,zV⟩,Xt⟩=>ok_eq (λh0=>bu (λ_=>af (NR N ω h2 ω hs.2.2.2.1.2.2.2.2.2.2.2.2.2.1 zV) λg hg=>ic λ_=>⟨Xt h0,up⟩) λ_=>ic λ_=>⟨Xt h0,up⟩) λh=>dU h
 ·exact af (uy N ω hs.1 Uq) λt ht=>bw (λ_=>dU δ) λ_=>an λ_=>⟨B,up⟩
theorem abd(N:Nat)(hN:5000000≤N){c:ag}{s:aU}{e:ia}{m:Nat}(h2:200≤m)(hm:m≤999)(hc:G 5 aB c)(hs:GS m s)(hR:qp c m s)(he:G 0 pv e):Ok (λr=>qp c (m+1) r.1) (Ur N c s e):=by
 have cc: ∀r:dd,Ok (λr:aU×dd=>qp c (m+1) r.1) (some (s,r)):=λr=>an hR.up
 unfold Ur
 exact bx (nG N ω c) (bw (λ_=>cc _) λ_=>af (Jc N ω e) λ_ _=>bw (λ_=>cc _) λ_=>af (abc N hN h2 hm hc hs hR he) λr hr=>bu (λ_=>cc _) λh=>an (hr h))
end VM
end
section
namespace VM
open Go VM.F
theorem Ek(N:Nat){k:Nat}{d:bb}(h:Dk k d)(hk:k≤ti:=by first|decide|(unfold ti;omega)):Ok (λr=>(0≤r.1∧r.1<9223372036854775808)∧Dk (k+1) r.2) (Ln N d):=by
 unfold Ln
 refine af (KG N hk h) λr ⟨hr,hd⟩=>ok_eq (λ_=>ω) λ_=> ?_
 have h3:shr .u64 r.1 3=r.1/8:=by rw[u6 ω ω];rfl
 have put: ∀x:Int,0≤x∧x<9223372036854775808→Ok (λr=>(0≤r.1∧r.1<9223372036854775808)∧Dk (k+1) r.2) (some (W .i64 x,r.2)):=λx hx=>an ⟨by rw[aw ω ω];exact hx,hd⟩
 have as4: ∀y:Int,0<y∧y≤1000000000000→0≤rem (r.1/8) y∧rem (r.1/8) y<9223372036854775808:=λy hy=>by have:=rem_in (x:=r.1/8) (y:=y) ω hy.1;omega
 dsimp only
 rw[h3,amS]
 repeat' first|exact put _ ω|exact put _ (as4 _ δ)|refine ax (λ_=> ?_) (λ_=> ?_)|refine ok_eq (λ_=> ?_) (λ_=> ?_)|(exfalso;omega)
def B5(x:cy):Prop:=oX x.1 x.2.1 x.2.2.1 x.2.2.2.1
theorem GF{c:ag}:fG c=true↔(1≤c.1.length∧c.1.length≤6)∧(∀x∈c.1,B5 x)∧pP c:=by
 unfold fG
 simp only[bP,fp]
 rw[←gU (d:=a7) (Q:=B5)];rfl
abbrev Cq(c:ag):Prop:=(G 5 aB c∧1≤c.1.length)∧fG c=true
theorem aif{x:cy}(h:B5 x):G 5 eR x:=by
 have g: ∀a b c d:Int,oX a b c d→aH a∧aH b∧aH c∧aH d:=λa b c d h=>by unfold oX at h;unfold aH;omega
 have:=g _ _ _ _ h
 exact⟨this.1,this.2.1,this.2.2.1,this.2.2.2,trivial⟩
theorem aih{c:ag}(h:pP c)(h1:c.2.1<9223372036854775808)(h2:c.2.2.2.2.2.2.1≤1000):G 5 (.pair (.int .i64) (.pair (.int .i64) (.pair (.int .i64) (.pair (.int .i64) (.pair (.int .i64) (.pair (.int .i64) .unit)))))) c.2:=by
 have g: ∀a b c d e f:Int,nF a b c d e f→a<9223372036854775808→f≤1000→aH a∧aH b∧aH c∧aH d∧aH e∧aH f:=λa b c d e f h h1 h2=>by unfold nF at h;unfold aH;omega
 have:=g _ _ _ _ _ _ h h1 h2
 exact⟨this.1,this.2.1,this.2.2.1,this.2.2.2.1,this.2.2.2.2.1,this.2.2.2.2.2,trivial⟩
theorem UC(N:Nat)(hN:100≤N){d:bb}(h:Dk 0 d):Ok (λr=>Cq r.1∧Dk 1000 r.2) (vv N d):=by
 unfold vv vv.b
 refine af (la N δ h) λr hr=> ?_
 rw[aw (x:=1+r.1) ω ω]
 obtain⟨k,hk⟩: ∃k:Nat,1+r.1=(k:Int):=⟨(1+r.1).toNat,ω⟩
 rw[hk]
 have b1: ∀x y:Int,0≤x∧x<y→y≤1000000000000→1≤W .i64 (1+x)∧W .i64 (1+x)≤y:=λx y h1 h2=>by rw[aw ω ω];omega
 refine Ef (F:=λn x (s:bb×aO)=>vv.l3 N n s.1 (dh,fy) (dh,fy) s.2 x) (λx s=>x+s.2.length=k∧Dk (1+20*s.2.length) s.1∧ ∀y∈s.2,B5 y) (λn x s hI hr=> ?_) (λn s hI=> ?_) k N (r.2,_) ω ⟨rfl,hr.2,λy hy=>nomatch hy⟩
 all_goals unfold vv.l3 vv.lB
 ·obtain⟨hx,hd,hG⟩:=hI
  have zY: ∀(d:bb) (x4:cy),Dk (1+20*s.2.length+10) d→B5 x4→Ok (λr=>Cq r.1∧Dk 1000 r.2) (cond (small (s.2.length+[x4].length)) (vv.l3 N n d (dh,fy) (dh,fy) (s.2++[x4]) (W .i64 (((x+1:Nat):Int)-1))) none):=λd x4 hd hx4=>by
   rw[aw (x:=((x+1:Nat):Int)-1) ω ω,show((x+1:Nat):Int)-1=(x:Int)by omega]
   refine aD (by rw[aK];omega) (hr (_,_) ⟨by rw[aT,aK];omega,Dk.mono hd (by rw[aT,aK];omega),λy hy=> ?_⟩)
   rcases bo.1 hy with hy|hy
   ·exact hG y hy
   ·rw[cm.1 hy];exact hx4
  have hj: ∀(d:bb) (x5:cy),Dk (1+20*s.2.length+6) d→B5 x5→Ok (λr=>Cq r.1∧Dk 1000 r.2) (vv.j8 N (vv.l3 N n) d (dh,fy) (dh,fy) s.2 ((x+1:Nat):Int) x5):=λd x5 hd hx5=>by
   unfold vv.j8 vv.PI
   refine af (y8 N δ hd) λr hd=>qg (λ_=> ?_) λ_=>zY _ _ (Dk.mono hd ω) hx5
   refine af (Ek N hd) λr ⟨h1,hd⟩=>ok_eq (λ_=>ω) λ_=> ?_
   dsimp only
   have e1:=rem_in h1.1 (show(0:Int)<1000000001 by decide)
   exact af (Ek N hd) λr ⟨h2,hd⟩=>ok_eq (λ_=>ω) λ_=>have e2:=rem_in h2.1 (show(0:Int)<1000000001 by decide);zY _ _ (Dk.mono hd ω) ⟨hx5.1,hx5.2.1,⟨e1.1,by dsimp only;omega⟩,⟨e2.1,by dsimp only;omega⟩⟩
  refine ax (λ_=> ?_) λ_=>ω
  refine af (la N δ hd) λa ⟨ha,hd⟩=>af (la N δ hd) λb ⟨hb,hd⟩=>af (la N δ hd) λc ⟨hc,hd⟩=>af (la N δ hd) λe ⟨he,hd⟩=>af (y8 N δ hd) λr hd=>qg (λ_=>af (Ek N hd) λr ⟨h1,hd⟩=>ok_eq (λ_=>ω) λ_=>hj _ _ (Dk.mono hd ω) ⟨⟨ha.1,by dsimp only;omega⟩,b1 _ _ (rem_in h1.1 δ) δ,⟨hc.1,by dsimp only;omega⟩,⟨he.1,by dsimp only;omega⟩⟩) λ_=>hj _ _ (Dk.mono hd ω) ⟨⟨ha.1,by dsimp only;omega⟩,⟨(b1 _ _ hb δ).1,Int.le_trans (b1 _ _ hb δ).2 δ⟩,⟨hc.1,by dsimp only;omega⟩,⟨he.1,by dsimp only;omega⟩⟩
 ·obtain⟨hx,hd,hG⟩:=hI
  have hl:s.2.length≤4∧1≤s.2.length:=ω
  have hd:Dk 900 s.1:=Dk.mono hd ω
  have fin: ∀(q t p b l m:Int),(0≤q∧q<9223372036854775808)→(0≤t∧t<5)→(0≤p∧p<3)→(0≤b∧b<3)→(0≤l∧l<20)→(0≤m∧m<100)→Cq (s.2,(q,(t,(p,(b,(W .i64 (1+l),(m,()))))))):=λq t p b l m h1 h2 h3 h4 h5 h6=>by
   have h7:=b1 _ _ h5 δ
   have hr:pP (s.2,(q,(t,(p,(b,(W .i64 (1+l),(m,()))))))):=(show nF q t p b (W .i64 (1+l)) m by unfold nF;omega)
   exact⟨⟨⟨⟨by dsimp only;omega,λy hy=>aif (hG y hy)⟩,aih hr h1.2 (show m≤1000 by omega)⟩,hl.2⟩,GF.2 ⟨⟨hl.2,by dsimp only;omega⟩,hG,hr⟩⟩
  refine ax (λ_=>ω) λ_=>af (la N δ hd) λa ⟨ha,hd⟩=>af (la N δ hd) λb ⟨hb,hd⟩=>af (la N δ hd) λc ⟨hc,hd⟩=>af (la N δ hd) λe ⟨he,hd⟩=>af (la N δ hd) λf ⟨hf,hd⟩=> ?_
  dsimp only
  exact af (la N δ hd) λg ⟨hg,hd⟩=>af (y8 N δ hd) λr hd=>qg (λ_=>af (Ek N hd) λr ⟨hr,hd⟩=>an ⟨fin _ _ _ _ _ _ hr hb hc he hf hg,Dk.mono hd δ⟩) λ_=>an ⟨fin _ _ _ _ _ _ ⟨ha.1,ω⟩ hb hc he hf hg,Dk.mono hd δ⟩
theorem UD{q:Int}(h0:q≠0):eE [((1:Int),((0:Int),((-q:Int),()))),((3:Int),((0:Int),(q,())))]=true∧dy (gS [((1:Int),((0:Int),((-q:Int),()))),((3:Int),((0:Int),(q,())))]) 0:=by
 have ok:eE [((1:Int),((0:Int),((-q:Int),()))),((3:Int),((0:Int),(q,())))]=true:=by
  unfold eE
  rw[gn]
  refine bs λj hj=> ?_
  match j,hj with
  |0,_=>exact⟨show cW 1 0 by decide,show-q≠0 by omega,λh=>absurd h δ⟩
  |1,_=>exact⟨show cW 3 0 by decide,h0,λ_=> .inl (show(1:Int)<3 by decide)⟩
 refine⟨ok,?_⟩
 unfold gS
 rw[aj ok]
 show-q+(q+0)=0
 omega
theorem Q2(N:Nat)(hN:1000≤N){c:ag}(hc:Cq c)(vU:c.2.1<9223372036854775808):Ok (λr=>RB c r.1∧r.2=0) (ib N c):=by
 obtain⟨⟨hc,Ih⟩,hp⟩:=hc
 have hl:=hc.1.1
 obtain⟨h1,h2,h3⟩:=GF.1 hp
 unfold ib ib.b
 have hj: ∀b:aq,(∀p:List Int,p.length=c.1.length→fe p=true→RB c (b.1,(b.2.1,(b.2.2.1,(b.2.2.2.1,(p,b.2.2.2.2.2))))))→Ok (λr=>RB c r.1∧r.2=0) (ib.j6 N c (cw,(dh,(bK,(bK,(dV,(eh,())))))) b []):=λb hb=>by
  unfold ib.j6 ib.Tw
  obtain⟨b1,b2,b3,b4,b5,b6⟩:=b
  refine bk (len:=c.1.length) (F:=λn i (z:aq×List Int)=>ib.l7 N n c (cw,(dh,(bK,(bK,(dV,(eh,())))))) z.1 z.2 i) (s:=((b1,(b2,(b3,(b4,(b5,b6))))),_)) (λi z=>(z.1.1=b1∧z.1.2.1=b2∧z.1.2.2.1=b3∧z.1.2.2.2.1=b4∧z.1.2.2.2.2.2=b6)∧z.2.length=i∧ ∀x∈z.2,1≤x∧x≤1000000000000) ⟨⟨rfl,rfl,rfl,rfl,rfl⟩,rfl,λx hx=>nomatch hx⟩ ω (λn i z hi hI hr=> ?_) (λn z hI=> ?_)
  all_goals unfold ib.l7 ib.pN
  all_goals obtain⟨hz,hzl,hzp⟩:=hI
  ·rw[aw (x:=(i:Int)+1) ω ω,ae i,aE]
   have hx:=(h2 _ (tp (d:=a7) hi)).2.1
   exact ax (λ_=>aA ⟨ω,ω⟩ (aD (by rw[List.length_singleton];omega) (hr (_,_) ⟨hz,by dsimp only;rw[List.length_append,List.length_singleton];omega,λy hy=>by
    rcases bo.1 hy with hy|hy
    ·exact hzp y hy
    ·rw[cm.1 hy];exact hx⟩))) λ_=>ω
  ·refine ax (λ_=>ω) λ_=>an ⟨?_,rfl⟩
   obtain⟨z1,z2,z3,z4,z5⟩:=hz
   dsimp only
   rw[z1,z2,z3,z4,z5]
   refine hb _ hzl ?_
   unfold fe
   exact bs ((gU (d:=(0:Int)) (Q:=λx=>1≤x∧x≤1000000000000)).2 hzp)
 have mk: ∀r:au,eE r=true→dy (gS r) 0→(∀x∈r,jx [] [] x.1 x.2.1)→ ∀p:List Int,p.length=c.1.length→fe p=true→RB c (([]:aG),(([]:aO),(r,(([]:au),(p,(([]:br),())))))):=λr r1 r2 r3 p p1 p2=>
  ⟨hp,(show dx []=true by decide),(show gX []=true by decide),λx hx=>(nomatch hx),r1,r2,(show nJ []=true by decide),(show eC []=true by decide),show(p.length:Int)=c.1.length by omega,r3,λx hx=>(nomatch hx),λx hx=>(nomatch hx),p2⟩
 refine bx (nG N ω c) (bw (λh=>by rw[hp]at h;exact nomatch h) λ_=>bu (λh0=>hj _ ?_) λ_=>hj _ ?_)
 ·have hs:0≤c.2.1:=h3.1
  have e: ∀q:Int,0≤q→q<9223372036854775808→W .i64 (0-q)= -q:=λq h1 h2=>by rw[aw ω ω];omega
  have h0:(c.2.1:Int)≠0:=h0
  rw[e _ hs vU]
  obtain⟨ok,tot⟩:=UD h0
  refine mk _ ok tot λx hx=> ?_
  rcases aX.1 hx with rfl|hx
  ·exact⟨λh=>absurd h (show ¬dy 1 5 by decide),λh=>absurd h (show ¬(dy 1 6∨dy 1 7)by decide)⟩
  ·rw[cm.1 hx];exact⟨λh=>absurd h (show ¬dy 3 5 by decide),λh=>absurd h (show ¬(dy 3 6∨dy 3 7)by decide)⟩
 ·exact mk [] δ δ λx hx=>nomatch hx
theorem aii(N:Nat)(hN:5000000≤N){c:ag}{l:jE}{m:Nat}(hm:m≤700)(hc:Cq c)(vU:c.2.1<9223372036854775808)(hl:U4 m l):Ok (λr=>GS 900 r.1∧qp c 900 r.1) (GG N c l):=by
 have JT:=hl.1
 unfold GG GG.b aij
 have hb:Ok (λr:aU×Int=>(GS 5 r.1∧qp c 5 r.1)∧r.2=0) ((ib N c).bind λr1=>cond (!aM r1.2 0) (some (Ty.zero ew,r1.2)) (some (((0:Int),((1:Int),(r1.1,(Ty.zero pz,(Ty.zero gv,()))))),(0:Int)))):=af (Ok.and (QM N ω hc.1.1) (Q2 N ω hc vU)) λb ⟨mG,tU,hb3⟩=>bu (λh=>absurd hb3 h) λ_=>an ⟨⟨⟨bt,(show aH 1 from bA),mG,G.zero 5 pz,G.zero 5 gv,trivial⟩,tU,(show(1:Int)≤1 by decide),(show(1:Int)≤2000*((5:Nat):Int)by decide)⟩,rfl⟩
 refine af hb λb ⟨⟨mG,tU⟩,hb3⟩=>bu (λh=>absurd hb3 h) λ_=>bk (len:=l.length) (F:=λn i (z:aU×au)=>GG.l6 N n l c (Ty.zero ew) z.1 z.2 i) (s:=(_,_)) (λi z=>(GS (200+i) z.1∧qp c (200+i) z.1)∧z.2.length≤i) ⟨⟨G.mono ω mG,tU.1,tU.2.1,gQ tU.2.2 δ⟩,aI 0⟩ ω (λn i z hi hI hr=> ?_) (λn z hI=> ?_)
 all_goals unfold GG.l6 GG.tb
 all_goals obtain⟨⟨h1,h3⟩,h2⟩:=hI
 ·rw[aw (x:=(i:Int)+1) ω ω,ae i]
  have hx:G 0 pv (l.getD (i:Int).toNat zz8):=G.at hl _
  exact ax (λ_=>aA ⟨ω,ω⟩ (af (Ok.and (aaZ N hN ω ω hc.1.1 h1 hx) (abd N hN ω ω hc.1.1 h1 h3 hx)) λr ⟨zf,zV⟩=>aD (by rw[List.length_singleton];omega) (hr (r.1,z.2++[r.2]) ⟨⟨zf,zV⟩,by dsimp only;rw[List.length_append,List.length_singleton];omega⟩))) λ_=>ω
 ·exact ax (λ_=>ω) λ_=>an ⟨G.mono ω h1,h3.1,h3.2.1,gQ h3.2.2 ω⟩
theorem Cq.f{c:ag}(h:Cq c):Cf c∧c.2.1<9223372036854775808:=⟨⟨h.1.1,h.1.2⟩,h.1.1.2.1.2⟩
theorem Q3(N:Nat)(hN:5000000≤N){d:bb}{c:ag}(h:Dk 1000 d)(hq:Cq c){NN:Int}(hm:0≤NN∧NN≤100):Ok (λr=>(GS 900 r.1∧qp c 900 r.1)∧Dk 100000 r.2) (F28 N d c NN):=by
 obtain⟨hc,vU⟩:=hq.f
 unfold F28
 refine af (T4 N ω h hc hm ω) λl ⟨hl,hd⟩=>af (la N δ hd) λv ⟨hv,hd⟩=> ?_
 have JT:=hl.1
 have e1: ∀(k:Int) {x:Int},aH k→aH x→G 0 pv (k,(x,fy)):=λk x hk hx=>DM hk hx bt bt bt bt bt bt
 have i11:aH 11:=bA
 have i13:aH 13:=bA
 have i10:aH 10:=bA
 have i15:aH 15:=bA
 have i2:aH 2:=bA
 dsimp only
 have h4:=G.cat hl (G.two (m:=2) (e1 11 i11 (gN (1+v.1))) (e1 13 i13 (gN (1+v.1))) (aI 2))
 have h4l:=h4.1
 refine aD (by rw[sW];omega) (af (NO N ω hd hc ω) λn1 ⟨hn1,hd⟩=> ?_)
 have h5:=G.cat h4 hn1
 have h5l:=h5.1
 have as6:=hn1.1
 refine aD ω (aD (by rw[sW];omega) (af (NO N ω hd hc ω) λn2 ⟨hn2,hd⟩=> ?_))
 have h6:=G.cat h5 (G.two (m:=2) (DM i10 bt bt bt bt bt i2 bt) (e1 15 i15 bt) (aI 2))
 have h6l:=h6.1
 have as7:=hn2.1
 exact aD (by simp only[aT,aW,bZ]at h4l h5l h6l as6 as7 ⊢;omega) (af (aii N hN ω hq vU (G.cat h6 hn2)) λr hr=>an ⟨hr,Dk.mono hd ω⟩)
end VM
end
section
namespace VM
open Go VM.F Go.RowKit
theorem B6(a q:Int): ∀l:au,(cX a q l).Sublist l
 |[]=>List.Sublist.refl _
 |x::t=>by
  rw[jk]
  split
  ·exact(B6 a q t).cons_cons _
  ·exact(B6 a q t).cons _
theorem B7{a q:Int}{x:dd}: ∀{l:au},x∈cX a q l→ym (dW x) q
 |[],h=>nomatch h
 |y::t,h=>by
  rw[jk]at h
  split at h
  ·rename_i hy
   rcases aX.1 h with rfl|h
   ·exact hy.2.2
   ·exact B7 h
  ·exact B7 h
theorem GH{a q:Int}{x:dd}(h1: ¬dy x.1 0)(h2:dy x.2.1 a)(h3:ym (dW x) q): ∀{l:au},x∈l→x∈cX a q l
 |[],h=>nomatch h
 |y::t,h=>by
  rw[jk]
  rcases aX.1 h with rfl|h
  ·rw[aj ⟨h1,h2,h3⟩];exact bp ..
  ·split
   ·exact a8 _ (GH h1 h2 h3 h)
   ·exact GH h1 h2 h3 h
theorem aik{a b c d e:Int}(h:lj a b c d)(h1:b=e)(h2:d=e):a<c:=by unfold lj at h;omega
theorem SE{l:au}(hk:da l=true)(a q:Int):(pq (cX a q l)).Pairwise (λx y=>x<y):=by
 have h:=tE (B6 a q l) (tF.1 (dw hk).1)
 exact tF.2 (h.imp_of_mem λhx hy hr=>aik hr (jz hx).2.2 (jz hy).2.2)
theorem af4{A:List Int}(h:A.Pairwise (λx y=>x<y)){i j:Nat}(pF:i<j)(hj:j<A.length):A.getD i 0<A.getD j 0:=by
 have:=p4.1 h i j ω hj pF
 rw[aR,aR,bl hj,bl (show i<A.length by omega)]
 exact this
structure ail(l:au)(i q:Int)(A W out:List Int):Prop where
 lw:W.length=A.length
 lo:out.length=A.length
 srt:A.Pairwise (λx y=>x<y)
 acc: ∀t,t<A.length→1≤A.getD t 0∧A.getD t 0≤24
 ML: ∀t,t<A.length→bn l (A.getD t 0) i≠0∧ ¬((0<bn l (A.getD t 0) i)↔(0<q))∧((bn l (A.getD t 0) i).natAbs:Int)=W.getD t 0
 no: ∀a:Int,1≤a∧a≤24→(∀t,t<A.length→A.getD t 0≠a)→bn l a i=0∨((0<bn l a i)↔(0<q))
 pos:Pos W
 yE:W.sum<9223372036854775808
 qq:(aH q∧se q)∧q≠0
 off: ∀t,t<A.length→0≤out.getD t 0∧out.getD t 0<9223372036854775808∧(out.getD t 0*W.sum-(q.natAbs:Int)*W.getD t 0).natAbs<W.sum
 cap: ∀t,t<A.length→out.getD t 0≤W.getD t 0
theorem Q4{t:Int}{w:List Int}(ht:0<t)(hle:t≤w.sum)(hw:Pos w):(lx w w (w.length+1) (List.replicate w.length 0) t).1=ba t w:=by
 have hS:0<w.sum:=ω
 have e1:bN w w (List.replicate w.length 0)=w:=kE (dP ..) λi hi=>by
  rw[dP]at hi
  unfold bN
  rw[fk hi,jj]
  have:=fE hw i
  split<;>omega
 have hlw:=iu t w
 have yj:=rI (w:=w) (lG ht) hS
 have as8: ∀i,i<w.length→(ba t w).getD i 0≤w.getD i 0:=λi hi=>by
  have h0:=fE hw i
  by_cases hz:w.getD i 0=0
  ·rw[xd (lG ht) hS hz,hz];exact fx _
  ·rw[xM]
   have hx:=xN t w i
   by_cases e:t=w.sum
   ·have Lk:extra t w i=0:=by
     rcases hx with h|h
     ·exact h
     ·have:=BM (lG ht) hS h
      rw[e,ED]at this;omega
    rw[Lk,e,Eu _ ω];omega
   ·have h1:t*w.getD i 0/w.sum<w.getD i 0:=by
     rw[uN hS,eo (w.getD i 0)]
     exact Lw ω ω
    omega
 have e2:dO (ba t w) w (List.replicate w.length 0)=ba t w:=kE (by rw[nU,ck,hlw]) λi hi=>by
  rw[nU,ck]at hi
  unfold dO
  rw[fk (by rw[ck];exact hi),jj]
  have:=as8 i hi
  omega
 have e3:sr (List.replicate w.length 0) (ba t w)=ba t w:=kE (by unfold sr;rw[ga,ck,hlw]) λi hi=>by
  unfold sr at hi ⊢
  rw[ga]at hi
  rw[fk hi,jj,lH]
 unfold lx
 rw[e1,ah ω,e2,e3,yj,Int.sub_self]
 cases w.length with
 |zero=>rfl
 |succ n=>unfold lx;rw[aj (Or.inl rfl)]
theorem abe{x q:Int}(hx:x≠0)(hq:q≠0)(h:ym x q): ¬((0<x)↔(0<q)):=(A8 hx hq).1 h
theorem GI{l:au}(hk:da l=true){x:dd}(hx:x∈l):bn l x.1 x.2.1=dW x:=by
 unfold bn
 rw[hk,aj rfl]
 have key: ∀{l:au},sR (l.map keyOf)→x∈l→fB x.1 x.2.1 l=dW x:=by
  intro l
  induction l with
  |nil=>intro _ h;exact nomatch h
  |cons y t ih=>
   intro hs h
   obtain⟨h1,h2⟩:=eK.1 hs
   rw[fJ]
   rcases aX.1 h with rfl|h
   ·rw[aj rfl,aj rfl];rfl
   ·have iI: ¬(y.1=x.1∧y.2.1=x.2.1):=λe=>by
     have hk:=h1 (keyOf x) (eX h)
     have he:keyOf y=keyOf x:=gG e.1 e.2
     rw[he]at hk
     exact mi hk
    by_cases e1:y.1=x.1
    ·rw[aj e1,ah (λe2=>iI ⟨e1,e2⟩)];exact ih h2 h
    ·rw[ah e1];exact ih h2 h
 exact key (dw hk).1 hx
theorem UE{l:au}(hk:da l=true){a i:Int}(h:bn l a i≠0): ∃x∈l,x.1=a∧x.2.1=i:=by
 unfold bn at h
 rw[hk,aj rfl,oI (dw hk).1]at h
 exact xS h
theorem El{P:au}{t:Nat}(h:t<P.length):(pq P).getD t 0=(P.getD t bf).1∧(eQ P).getD t 0=((dW (P.getD t bf)).natAbs:Int):=by
 unfold pq eQ
 rw[aR,aR,aR,nf,nf,bl h]
 exact⟨rfl,rfl⟩
theorem Jr{a b:Int}(h:bU a b)(h0: ¬a=0):1≤a∧a≤24:=by unfold bU at h;omega
theorem GJ{c:ag}{b:aq}(w:kz b){i:Int}(hi:0≤i∧i<(c.1.length:Int)):
  ((cS c b i).2≠0∧(cS c b i).1=[])∨(bn b.2.2.2.1 0 i=0∧(cS c b i).1=[])∨
  (bn b.2.2.2.1 0 i≠0∧ ∃A W out,ail b.2.2.2.1 i (bn b.2.2.2.1 0 i) A W out∧cS c b i=(((0:Int),(i,((0-bn b.2.2.2.1 0 i:Int),())))::zc i (bn b.2.2.2.1 0 i) (out.zip A),0)):=by
 by_cases hB:eu c b=true
 ·obtain⟨_,hk⟩:=dN hB
  obtain⟨hf,Dr⟩:=xl hB
  obtain⟨hs,Co⟩:=dw hk
  have hqs:=w.qs
  have hh:=Ej (xV hk hqs) 0 i
  unfold cS
  rw[aj hB,ah ω,ah ω]
  by_cases h3:bn b.2.2.2.1 0 i=0
  ·rw[aj h3];exact .inr (.inl ⟨h3,rfl⟩)
  rw[ah h3]
  by_cases h4:(fO b.2.2.2.1 i (bn b.2.2.2.1 0 i)).2.2=0
  ·rw[aj h4]
   refine .inr (.inr ⟨h3,?_⟩)
   have hn6:i<6:=by
    unfold fG at Dr
    have:=(bF (dm.1 Dr).1).2
    omega
   have hz:(c9 i b.2.2.2.1).sum=0:=by
    unfold nJ at hf
    have Ll:=bF (dm.1 hf).1 i.toNat (by unfold jC;omega)
    unfold rC dy qb at Ll
    rw[hk,aj rfl,show((i.toNat:Nat):Int)=i by omega]at Ll
    exact Ll
   have QZ:fB 0 i b.2.2.2.1=bn b.2.2.2.1 0 i:=by unfold bn;rw[hk];rfl
   have hen:=Gd hs hz QZ h3
   obtain⟨f,g1,g2,g3⟩:=xW hk hqs hh h4
   have Wd:(fO b.2.2.2.1 i (bn b.2.2.2.1 0 i)).1=ba ((bn b.2.2.2.1 0 i).natAbs:Int) (eQ (cX i (bn b.2.2.2.1 0 i) b.2.2.2.1)):=by
    unfold fO mq at h4 ⊢
    by_cases h1:((bn b.2.2.2.1 0 i).natAbs:Int)<0∨may (eQ (cX i (bn b.2.2.2.1 0 i) b.2.2.2.1))=false∨(eQ (cX i (bn b.2.2.2.1 0 i) b.2.2.2.1)).length≠(eQ (cX i (bn b.2.2.2.1 0 i) b.2.2.2.1)).length∨may (eQ (cX i (bn b.2.2.2.1 0 i) b.2.2.2.1))=false
    ·rw[aj h1]at h4;exact absurd h4 δ
    ·rw[ah h1]at h4 ⊢
     by_cases h2:9223372036854775808≤(eQ (cX i (bn b.2.2.2.1 0 i) b.2.2.2.1)).sum
     ·rw[aj h2]at h4;exact absurd h4 δ
     ·rw[ah h2]
      exact Q4 ω hen f.c.pw
   have hal:=vu (cX i (bn b.2.2.2.1 0 i) b.2.2.2.1)
   have Li:=pC (cX i (bn b.2.2.2.1 0 i) b.2.2.2.1)
   have jX: ∀t,t<(cX i (bn b.2.2.2.1 0 i) b.2.2.2.1).length→(cX i (bn b.2.2.2.1 0 i) b.2.2.2.1).getD t bf∈cX i (bn b.2.2.2.1 0 i) b.2.2.2.1:=λt ht=>tp ht
   refine⟨pq (cX i (bn b.2.2.2.1 0 i) b.2.2.2.1),eQ (cX i (bn b.2.2.2.1 0 i) b.2.2.2.1),(fO b.2.2.2.1 i (bn b.2.2.2.1 0 i)).1,⟨ω,ω,SE hk _ _,λt ht=> ?_,λt ht=> ?_,λa ha vE=> ?_,f.c.pw,f.c.sw,⟨hh,h3⟩,λt ht=> ?_,λt ht=>f.c.le t ω⟩,rfl⟩
   ·rw[hal]at ht
    rw[(El ht).1]
    have hm:=jz (jX t ht)
    exact Jr (Co _ hm.1).1 hm.2.1
   ·rw[hal]at ht
    rw[(El ht).1,(El ht).2]
    have hm:=jz (jX t ht)
    have e:=GI hk hm.1
    rw[show((cX i (bn b.2.2.2.1 0 i) b.2.2.2.1).getD t bf).2.1=i from hm.2.2]at e
    rw[e]
    have hn0:=A7 hk _ hm.1
    exact⟨hn0,abe hn0 h3 (B7 (jX t ht)),rfl⟩
   ·by_cases h0:bn b.2.2.2.1 a i=0
    ·exact .inl h0
    ·refine .inr ?_
     obtain⟨x,hx,e1,e2⟩:=UE hk h0
     have e:=GI hk hx
     rw[e1,e2]at e
     have hn0:=A7 hk _ hx
     refine zn λanC=> ?_
     rw[e]at anC
     have m4:x∈cX i (bn b.2.2.2.1 0 i) b.2.2.2.1:=GH (λh=>by have h':a=0:=e1.symm.trans h;omega) e2 ((A8 hn0 h3).2 anC) hx
     obtain⟨t,ht,et⟩:=fX m4
     refine vE t (by rw[hal];exact ht) ?_
     rw[(El ht).1,aR,bl ht,ni,et,e1]
   ·rw[hal]at ht
    have:=g3 t ω
    refine⟨this.1,this.2,?_⟩
    rw[Wd]
    exact QF ω ω t
  ·rw[ah h4]
   exact .inl ⟨h4,rfl⟩
 ·unfold cS
  rw[ah hB]
  exact .inl ⟨δ,rfl⟩
end VM
end
section
namespace VM
open Go VM.F Go.RowKit
theorem B8: ∀{l:au} {x:dd},sR (l.map keyOf)→x∈l→fB x.1 x.2.1 l=dW x
 |[],_,_,h=>nomatch h
 |y::t,x,hs,h=>by
  obtain⟨h1,h2⟩:=eK.1 hs
  rw[fJ]
  rcases aX.1 h with rfl|h
  ·rw[aj rfl,aj rfl];rfl
  ·have iI: ¬(y.1=x.1∧y.2.1=x.2.1):=λe=>by
    have hk:=h1 (keyOf x) (eX h)
    have he:keyOf y=keyOf x:=gG e.1 e.2
    rw[he]at hk
    exact mi hk
   by_cases e1:y.1=x.1
   ·rw[aj e1,ah (λe2=>iI ⟨e1,e2⟩)];exact B8 h2 h
   ·rw[ah e1];exact B8 h2 h
theorem Js{P:Int→Prop} [DecidablePred P]{f:Int→Int→Int}: ∀{t:au},(∀x∈t,f x.1 x.2.1=dW x∧dW x≠0∧P (dW x))→ej P f (t.map keyOf)=some t
 |[],_=>rfl
 |x::t,h=>by
  obtain⟨h1,h2,h3⟩:=h x (bp ..)
  rw[bR,jy]
  show(if P (f x.1 x.2.1)then(ej P f (t.map keyOf)).map (λo=>if f x.1 x.2.1=0 then o else(x.1,(x.2.1,(f x.1 x.2.1,())))::o)else none)=_
  rw[h1,aj h3,Js λy hy=>h y (a8 _ hy),Option.map_some,ah h2];rfl
theorem abf{l:au}(h:eE l=true): ∀x∈l,dW x≠0:=by
 unfold eE at h
 rw[gn]at h
 exact(gU (d:=bf) (Q:=λx=>dW x≠0)).1 λj hj=>((bF h) j hj).2.1
theorem UF{l:au}(h:eE l=true)(hq:eJ l):ej aH (fS l []) nO=some l:=by
 rw[←Nn (E:=[]) h (λx hx=>nomatch hx)]
 exact Js λx hx=>⟨by
  unfold fS
  rw[BG,gr,←oI (kC h).1]
  exact B8 (kC h).1 hx,abf h x hx,hq x hx⟩
theorem K2{a i:Int}{t:au}(h: ∀x∈t,¬(x.1=a∧x.2.1=i)):bX a i t=0:=by
 refine zn λh0=> ?_
 obtain⟨y,hy,e1,e2⟩:=xS h0
 exact h y hy ⟨e1,e2⟩
theorem UG{c:ag}{b:aq}(w:kz b){j:Int}(hj:0≤j∧j<(c.1.length:Int)): ∀x∈(cS c b j).1,x.2.1=j:=by
 rcases GJ (c:=c) w hj with⟨_,h⟩|⟨_,h⟩|⟨_,A,W,out,_,h⟩
 ·rw[h];exact λx hx=>nomatch hx
 ·rw[h];exact λx hx=>nomatch hx
 ·rw[h]
  intro x hx
  rcases aX.1 hx with rfl|hx
  ·rfl
  ·obtain⟨p,_,rfl⟩:=zb hx;rfl
theorem UH{c:ag}{b:aq}(hR:RB c b)(w:kz b){j:Int}(hj:0≤j∧j<(c.1.length:Int)):(cS c b j).2=0∨(cS c b j).2=2:=by
 unfold cS
 rw[aj (mE.2 hR),ah ω,ah ω]
 by_cases h3:bn b.2.2.2.1 0 j=0
 ·rw[aj h3];exact .inl rfl
 rw[ah h3]
 generalize bn b.2.2.2.1 0 j=q at*
 have hk:=(dN (mE.2 hR)).2
 have sh:=qD (xV hk w.qs) j q
 have hm:may (eQ (cX j q b.2.2.2.1))=true:=gT.2 ⟨?_,λx hx=> ?_⟩
 ·have:(fO b.2.2.2.1 j q).2.2=0∨(fO b.2.2.2.1 j q).2.2=2:=by
   unfold fO mq
   rw[ah (by rw[hm];simp)]
   split
   ·exact .inr rfl
   ·exact .inl rfl
  rcases this with h|h
  ·rw[aj h];exact .inl rfl
  ·rw[ah (by rw[h];decide)];exact .inr h
 ·have h1:(pq (cX j q b.2.2.2.1)).length≤25:=by
   have:=WV (lo:=0) (hi:=25) (SE hk j q) (λz hz=>by
    obtain⟨y,hy,rfl⟩:=cD.1 hz
    have hm:=jz hy
    have:=Jr ((dw hk).2 _ hm.1).1 hm.2.1
    exact⟨gQ δ this.1,wb this.2 δ⟩) ω
   omega
  rw[pC];rw[vu]at h1;omega
 ·obtain⟨y,_,rfl⟩:=cD.1 hx
  omega
theorem GK{c:ag}(h:fG c=true):1≤c.1.length∧c.1.length≤6:=(GF.1 h).1
theorem Q5{c:ag}{b:aq}(hR:RB c b)(w:kz b):(ob c b).2=2∨(ob c b).2=0∧RBs c b (ob c b).1∧(ob c b).1.2.2.1=b.2.2.1∧eJ (ob c b).1.2.2.2.1∧(∀i:Nat,i<c.1.length→(cS c b (i:Int)).2=0)∧
  ∀(a:Int) (i:Nat),0≤a∧a≤24→i<c.1.length→bn (ob c b).1.2.2.2.1 a (i:Int)=bn b.2.2.2.1 a (i:Int)+bX a (i:Int) (cS c b (i:Int)).1:=by
 have h6:=(GK hR.c).2
 obtain⟨hr,hs⟩:=dN (mE.2 hR)
 have key: ∀(m k:Nat) (s:au),k+m=c.1.length→SB c b.2.1 s→(∀(a:Int) (i:Nat),i<c.1.length→bX a (i:Int) s=if i<k then bX a (i:Int) (cS c b (i:Int)).1 else 0)→(∀i:Nat,i<k→(cS c b (i:Int)).2=0)→
   (rV c b m k s).2=2∨(rV c b m k s).2=0∧RBs c b (rV c b m k s).1∧(rV c b m k s).1.2.2.1=b.2.2.1∧eJ (rV c b m k s).1.2.2.2.1∧(∀i:Nat,i<c.1.length→(cS c b (i:Int)).2=0)∧ ∀(a:Int) (i:Nat),0≤a∧a≤24→i<c.1.length→bn (rV c b m k s).1.2.2.2.1 a (i:Int)=bn b.2.2.2.1 a (i:Int)+bX a (i:Int) (cS c b (i:Int)).1:=by
  intro m
  induction m with
  |zero=>
   intro k s hk hS yj hz
   show(eY b s []).2=2∨(eY b s []).2=0∧RBs c b (eY b s []).1∧(eY b s []).1.2.2.1=b.2.2.1∧_
   rcases Gn b s []with⟨h,_⟩|⟨s',r',h1,h2,h3⟩
   ·exact .inl h
   ·have h0:(eY b s []).2=0:=by rw[h3]
    refine .inr ⟨h0,hR.eY hS.2.1 hS.2.2 (λx hx=>nomatch hx) rfl h0,?_,?_,λi hi=>hz i ω,λa i ha hi=> ?_⟩
    ·rw[h3]
     rw[UF hr w.qr]at h2
     exact(lE h2).symm
    ·show eJ (eY b s []).1.2.2.2.1
     rw[h3]
     exact λx hx=>((uz h1).2.1 x hx).2.2.1
    ·show bn (eY b s []).1.2.2.2.1 a (i:Int)=_
     rw[h3]
     have:=((Gp hs h1).2 a (i:Int) ⟨ha.1,ha.2,ω,ω⟩).1
     rw[yj a i hi,aj ω]at this
     exact this
  |succ m ih=>
   intro k s hk hS yj hz
   show(if(cS c b (k:Int)).2=0 then rV c b m (k+1) (s++(cS c b (k:Int)).1)else((cw,(dh,(bK,(bK,(dV,(eh,())))))),(cS c b (k:Int)).2)).2=2∨_
   have He:0≤(k:Int)∧(k:Int)<(c.1.length:Int):=ω
   have e:rV c b (m+1) k s=if(cS c b (k:Int)).2=0 then rV c b m (k+1) (s++(cS c b (k:Int)).1)else((cw,(dh,(bK,(bK,(dV,(eh,())))))),(cS c b (k:Int)).2):=rfl
   rw[e]
   rcases UH hR w He with h|h
   ·rw[aj h]
    refine ih (k+1) _ ω (SB.app hS (SD hR w ⟨He.1,He.2⟩ h).1) (λa i hi=> ?_) λi hi=>if h1:i<k then hz i h1 else by
     have e:i=k:=ω
     subst e;exact h
    have g: ∀x:Int,x=(k:Int)→x=(i:Int)→i=k:=λx h1 h2=>ω
    have off:i≠k→bX a (i:Int) (cS c b (k:Int)).1=0:=λiI=>K2 λx hx pK=>iI (g _ (UG w He x hx) pK.2)
    rw[qf,yj a i hi]
    by_cases h1:i<k
    ·rw[aj h1,aj ω,off ω,gr]
    ·rw[ah h1,lH]
     by_cases h2:i=k
     ·subst h2;rw[aj ω]
     ·rw[ah ω,off ω]
   ·rw[ah (by rw[h];decide)]
    exact .inl h
 unfold ob
 rw[aj (mE.2 hR)]
 exact key c.1.length 0 [] ω SB.nil (λa i _=>by rw[ah ω];rfl) λi hi=>absurd hi ω
theorem X1{b:aq}{i q:Int}{A W out:List Int}(C:ail b.2.2.2.1 i q A W out){a:Int}(ha:1≤a∧a≤24):
  bX a i (((0:Int),(i,((0-q:Int),())))::zc i q (out.zip A))=0∨(∃t,t<A.length∧A.getD t 0=a∧bX a i (((0:Int),(i,((0-q:Int),())))::zc i q (out.zip A))=sg q (out.getD t 0)∧out.getD t 0≤W.getD t 0):=by
 have hl:=C.lo
 have key: ∀(Z:List (Int×Int)),(∀p∈Z,p.2≠a)→bX a i (zc i q Z)=0:=λZ h=>K2 λx hx pK=>by
  obtain⟨p,hp,rfl⟩:=zb hx
  exact h p hp pK.1
 have one: ∀p:Int×Int,bX a i (zc i q [p])=if p.2=a then sg q p.1 else 0:=λp=>by
  rw[sU]
  by_cases h0:sg q p.1=0
  ·rw[aj h0,h0];split<;>rfl
  ·rw[ah h0,gg]
   show(if p.2=a∧i=i then sg q p.1 else 0)+0=_
   by_cases h:p.2=a
   ·rw[aj ⟨h,rfl⟩,aj h,gr]
   ·rw[ah (λk=>h k.1),ah h];rfl
 have app: ∀X Y:List (Int×Int),zc i q (X++Y)=zc i q X++zc i q Y:=by
  intro X Y
  induction X with
  |nil=>rfl
  |cons p t ih=>rw[kL,sU,sU,ih];split<;>rfl
 have e0:bX a i (((0:Int),(i,((0-q:Int),())))::zc i q (out.zip A))=bX a i (zc i q (out.zip A)):=by
  rw[gg]
  show(if(0:Int)=a∧i=i then 0-q else 0)+_=_
  rw[ah (λk=>by have:=k.1;omega),lH]
 rw[e0]
 by_cases hA: ∃t,t<A.length∧A.getD t 0=a
 ·obtain⟨t,ht,ea⟩:=hA
  have hz:t<(out.zip A).length:=by rw[lF];omega
  have split:out.zip A=(out.zip A).take t++([(out.getD t 0,A.getD t 0)]++(out.zip A).drop (t+1)):=by
   have:=BR (out:=out) (accs:=A) (i:=t) ω ht
   rw[←this,fK hz,zs,←lX hz,fW]
  have far: ∀u,u<(out.zip A).length→u≠t→((out.zip A).getD u (0,0)).2≠a:=λu hu iI e=>by
   rw[lF]at hu
   rw[BR ω ω]at e
   have e:A.getD u 0=a:=e
   rcases Nat.lt_or_gt_of_ne iI with h|h
   ·have:=af4 C.srt h ω;omega
   ·have:=af4 C.srt h ω;omega
  refine .inr ⟨t,ht,ea,?_,?_⟩
  ·rw[split,app,app,qf,qf,one,aj ea,key _ λp hp=> ?_,key _ λp hp=> ?_,lH,gr]
   ·obtain⟨u,hu,e⟩:=fX hp
    rw[dI]at hu
    rw[zx]at e
    have:=far (t+1+u) ω ω
    rw[fK ω,e]at this
    exact this
   ·obtain⟨u,hu,e⟩:=fX hp
    rw[bO]at hu
    rw[zy]at e
    have:=far u ω ω
    rw[fK ω,e]at this
    exact this
  ·exact C.cap t ht
 ·left
  refine key _ λp hp e=>hA ?_
  obtain⟨u,hu,e'⟩:=fX hp
  rw[lF]at hu
  have:=BR (out:=out) (accs:=A) (i:=u) ω ω
  rw[fK (by rw[lF];omega),e']at this
  exact⟨u,ω,by rw[←e,this]⟩
theorem UI{b:aq}{i q:Int}{A W out:List Int}(C:ail b.2.2.2.1 i q A W out):bX 0 i (((0:Int),(i,((0-q:Int),())))::zc i q (out.zip A))=0-q:=by
 rw[gg]
 show(if(0:Int)=0∧i=i then 0-q else 0)+_=_
 rw[aj ⟨rfl,rfl⟩,K2 λx hx pK=> ?_,gr]
 obtain⟨p,hp,rfl⟩:=zb hx
 obtain⟨u,hu,e⟩:=fX (List.of_mem_zip hp).2
 have:=C.acc u hu
 rw[fK hu,e]at this
 have h0:p.2=0:=pK.1
 omega
theorem X2{PJ q x is:Int}(hw:PJ≠0)(hs: ¬((0<PJ)↔(0<q)))(hx:0≤x∧x≤(PJ.natAbs:Int))(hq:q≠0)(e:is=PJ+sg q x):(0≤PJ→0≤is∧is≤PJ)∧(PJ≤0→is≤0∧PJ≤is):=by
 unfold sg at e;split at e<;>omega
namespace Pure
theorem X3(l:List Int)(h:WFs [.slice (.int .u64)] l): ∃N,F7 N l=some true:=by
 have key:Ok (λr=>r=true) (F7 6000000 l):=by
  unfold F7 F7.b F13
  refine bx (Uz 6000000 ω) (bw (λh=>nomatch h) λ_=>bx rfl (af (UC 6000000 ω (aa0 h.1)) λc ⟨hc,hd⟩=>af (Q3 6000000 ω hd hc ω) λs ⟨⟨hs,hR⟩,_⟩=> ?_))
  have w:=G.wf ω hs.2.2.1
  have hR:=hR.1
  generalize s.1.2.2.1=b at*
  obtain⟨hr,EV⟩:=dN (mE.2 hR)
  refine bx (SC 6000000 ω c.1 w) ?_
  rcases Q5 hR w.w with h2|⟨h0,⟨W5,e1,e2,e3⟩,e4,e5,hT,hh⟩
  ·exact bu (λ_=>an (dt h2)) λh=>absurd (h2.symm.trans h) δ
  have Wd:=Q0 (c:=c.1) w.w
  refine bu (λh=>absurd h0 h) λ_=> ?_
  generalize (ob c.1 b).1=n at*
  have h6:=(GK hR.c).2
  have hn:=(dN (mE.2 W5)).2
  have nw:kz n:=⟨Wd.m,Wd.a,Wd.r,Wd.s,Wd.p,Wd.o,by rw[e4];exact w.w.qr,e5⟩
  have cut: ∀i:Nat,i<c.1.1.length→bn n.2.2.2.1 0 (i:Int)=0∧ ∀a:Int,1≤a∧a≤24→bn n.2.2.2.1 a (i:Int)=bn b.2.2.2.1 a (i:Int)∨
    (bn b.2.2.2.1 0 (i:Int)≠0∧bn b.2.2.2.1 a (i:Int)≠0∧ ¬((0<bn b.2.2.2.1 a (i:Int))↔(0<bn b.2.2.2.1 0 (i:Int)))∧ ∃x:Int,(0≤x∧x≤((bn b.2.2.2.1 a (i:Int)).natAbs:Int))∧bn n.2.2.2.1 a (i:Int)=bn b.2.2.2.1 a (i:Int)+sg (bn b.2.2.2.1 0 (i:Int)) x):=λi hi=>by
   have bS:0≤(i:Int)∧(i:Int)<(c.1.1.length:Int):=ω
   rcases GJ (c:=c.1) w.w bS with⟨h,_⟩|⟨hq,h⟩|⟨hq,A,W,out,C,h⟩
   ·exact absurd (hT i hi) h
   ·refine⟨?_,λa ha=> .inl ?_⟩
    ·rw[hh 0 i δ hi,h,hq];rfl
    ·rw[hh a i ⟨ω,ha.2⟩ hi,h,BG,gr]
   ·refine⟨?_,λa ha=> ?_⟩
    ·rw[hh 0 i δ hi,h,UI C];omega
    ·have e:=hh a i ⟨ω,ha.2⟩ hi
     rw[h]at e
     rcases X1 C ha with h1|⟨t,ht,ea,h1,h2⟩
     ·rw[h1,gr]at e;exact .inl e
     ·have ML:=C.ML t ht
      rw[ea]at ML
      rw[h1]at e
      exact .inr ⟨hq,ML.1,ML.2.1,out.getD t 0,⟨(C.off t ht).1,by rw[ML.2.2];exact h2⟩,e⟩
  have hof:posOf n.2.2.2.1 0=[]:=by
   refine Lu.2 λy hy=> ?_
   unfold posOf at hy
   rw[aj hn]at hy
   obtain⟨x,hx,Lk,_⟩:=rF hy
   have h1:=GI hn hx
   have h2:=A7 hn x hx
   have h3:=(W5.sk x hx).2
   have h4:=((dw hn).2 x hx).1.2.2.1
   have g: ∀v:Int,0≤v→oY v c.1.1.length→v=((v.toNat:Nat):Int)∧v.toNat<c.1.1.length:=λv h0 h1=>by unfold oY at h1;omega
   obtain⟨g1,g2⟩:=g _ h4 h3
   rw[Lk,g1,(cut _ g2).1]at h1
   exact h2 h1.symm
  refine bx (Ko 6000000 ω nw) ?_
  rw[mE.2 W5]
  refine bx (Qx 6000000 nw.s ω 0) ?_
  rw[hof,e4,e3]
  refine bu (λh=>absurd rfl h) λ_=>bx (WR 6000000 w.w.r ω) (bx (WS 6000000 w.w.p ω) (bx (Qv 6000000 w.w.o ω) ?_))
  refine kY (len:=c.1.1.length) (F:=λn' i=>F7.m5 6000000 n' c.1 b n i) ω (λn' i hi hr=> ?_) (λn'=> ?_)
  all_goals unfold F7.m5 F7.nK
  ·refine ax (λ_=>bx (xJ 6000000 w.w.s ω _ _) ?_) λ_=>ω
   have C:=(cut i hi).2
   generalize bn b.2.2.2.1 0 (i:Int)=q at*
   refine jS (len:=25) (F:=λC2 a (_:Unit)=>F7.sQ 6000000 (F7.m5 6000000 n') C2 c.1 b n (i:Int) q a) (λa _=>1≤a) (λC2 a _ ha ZO eZ=> ?_) (λC2 _ _=> ?_) 25 6000000 1 () ω ω ω (aI 1)
   all_goals unfold F7.sQ F7.so
   ·refine ed (λ_=>bx (xJ 6000000 w.w.s ω _ _) (bx (xJ 6000000 nw.s ω _ _) ?_)) λ_=>ω
    rw[aw (x:=(a:Int)+1) ω ω,ae a]
    have go:=eZ () ω
    have Ca:=C (a:Int) ω
    generalize bn b.2.2.2.1 (a:Int) (i:Int)=PJ at*
    generalize bn n.2.2.2.1 (a:Int) (i:Int)=is at*
    have fc:(0≤PJ→0≤is∧is≤PJ)∧(PJ≤0→is≤0∧PJ≤is):=by
     rcases Ca with rfl|⟨c1,c2,c3,x,c4,c5⟩
     ·exact⟨λh=>⟨h,fx _⟩,λh=>⟨h,fx _⟩⟩
     ·exact X2 c2 c3 c4 c1 c5
    have fin:Ok (λr=>r=true) (cond (!aM is PJ) (cond (oR .bool (aS 0 q) (aS 0 PJ)) (some false) (F7.sQ 6000000 (F7.m5 6000000 n') C2 c.1 b n (i:Int) q ((a+1:Nat):Int))) (F7.sQ 6000000 (F7.m5 6000000 n') C2 c.1 b n (i:Int) q ((a+1:Nat):Int))):=by
     refine bu (λiI=> ?_) λ_=>go
     rcases Ca with e|⟨c1,c2,c3,x,c4,c5⟩
     ·exact absurd e iI
     ·refine qg (λh=> ?_) λ_=>go
      rw[ud,om,om]at h
      by_cases h1:0<q<;>by_cases h2:0<PJ<;>simp[h1,h2]at h c3
    exact ed (λh=>ax (λh'=>absurd (fc.1 h).1 ω) λ_=>ax (λh'=>absurd (fc.1 h).2 ω) λ_=>ed (λh=>ax (λh'=>absurd (fc.2 h).1 ω) λ_=>ax (λh'=>absurd (fc.2 h).2 ω) λ_=>fin) λ_=>fin) λ_=>ed (λh=>ax (λh'=>absurd (fc.2 h).1 ω) λ_=>ax (λh'=>absurd (fc.2 h).2 ω) λ_=>fin) λ_=>fin
   ·refine ed (λ_=>ω) λ_=> ?_
    rw[aw (x:=(i:Int)+1) ω ω,ae i]
    exact hr
  ·exact ax (λ_=>ω) λ_=>an rfl
 obtain⟨r,e,hr⟩:=key
 exact⟨6000000,by rw[e,hr]⟩
end Pure
end VM
end
