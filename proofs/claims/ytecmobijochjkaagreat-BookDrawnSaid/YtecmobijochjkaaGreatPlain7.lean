/- A part of the proof of BookDrawn of layer 18: what the functions compute, in plain words. -/
import Derived.Test.YtecmobijochjkaaGreatPlain6
import Derived.Test.YtecmobijochjkaaGreatPlain4
import Derived.Test.YtecmobijochjkaaGreatPlain3
set_option linter.all false
section
namespace VM
open Go VM.F
theorem Xr(N:Nat)(hN:5000000≤N){t:Int}{w:List Int}(ht:t<9223372036854775808)(hw:KN w)(hl:w.length≤1000000):Ok (λr=>r.2.2=0→r.1.length=w.length∧KN r.1) (fi N t w w):=by
 refine oJ (Ib N hN ht hw hw hl) λh0=> ?_
 have f:=Ic ht hw h0
 have c:=f.c
 have hl2:=c.l2
 refine⟨hl2,λx hx=> ?_⟩
 obtain⟨i,hi,e⟩:=gJ hx
 have h1:=c.le i ω
 have h2:=(c.pc i).2
 have h3:=c.po i
 rw[aW (l:=(ug t w w).1),bl hi,nY,e]at h1 h3
 exact⟨ω,ω⟩
theorem adY(N:Nat)(hN:5000000≤N)(c:ae){b:an}{m:Nat}(hm:m≤40000)(hb:G m aL b){a:Int}(ha:aF a):Ok (λr=>L3 (m+1) r.1) (gk N c b a):=by
 have w:=(G.wf ω hb).w
 have hl:=hb.2.2.2.1.1
 unfold gk gk.b
 refine bO (eh N hN ω hb) (bG (λ_=>aq G.nil) λ_=>ax (λ_=>aq G.nil) λ_=>eK (λ_=>aq G.nil) λ_=>bO (FR N w.s ω 0 a) (ok_eq (λ_=>aq G.nil) λ_=> ?_))
 have hq:=ZX w.qs 0 a
 generalize gh b.2.2.2.1 0 a=q at*
 refine bs (len:=b.2.2.2.1.length) (F:=λn i (s:List Int×List Int)=>gk.Ar N n a b q s.1 s.2 i) (s:=(_,_)) (λi s=>s.1.length≤i∧s.2.length=s.1.length∧KN s.1∧KN s.2) ⟨bw _,rfl,(λx hx=>nomatch hx),λx hx=>nomatch hx⟩ ω (λn i s hi hI hr=> ?_) (λn s hI=> ?_)
 all_goals unfold gk.Ar gk.yq
 ·obtain⟨h1,h2,h3,h4⟩:=hI
  have hx:G 0 kf (b.2.2.2.1.getD (i:Int).toNat bb):=G.at hb.2.2.2.1 _
  rw[aw (x:=(i:Int)+1) ω ω,af i]
  have h0:=hr s ⟨ω,h2,h3,h4⟩
  have sn: ∀{l:List Int} {x:Int},KN l→aF x→KN (l++[x]):=λhl hx y hy=>(bn.1 hy).elim (hl y) λhy=>by rw[cw.1 hy];exact hx
  dsimp only
  exact ax (λ_=>aB ⟨ω,ω⟩ (bK (λ_=>ok_eq (λ_=>oZ (λ_=>aD (by rw[List.length_singleton];omega) (aD (by rw[List.length_singleton];omega) (hr (_,_) ⟨by dsimp only;rw[List.length_append,List.length_singleton];omega,by dsimp only;rw[List.length_append,List.length_append,List.length_singleton,List.length_singleton];omega,sn h3 hx.1,sn h4 (B0 hx.2.2.1 (gH _))⟩))) λ_=>h0) λ_=>h0) λ_=>h0)) λ_=>ω
 ·obtain⟨h1,h2,h3,h4⟩:=hI
  refine ax (λ_=>ω) λ_=>ag (Xr N hN (B0 hq (gH _)).2 h4 ω) λz hz=>bK (λ_=>aq G.nil) λh0=> ?_
  obtain⟨e1,e2⟩:=hz h0
  refine bs (len:=z.1.length) (F:=λn i u=>gk.Xs N n a q s.1 z.1 u i) (λi u=>L3 (1+i) u) (G.one (m:=1) (G3 bY ha (gH _)) (aH 1)) ω (λn i u hi hu hr=> ?_) (λn u hu=> ?_)
  all_goals unfold gk.Xs gk.aaG
  ·have Jj:=hu.1
   rw[aw (x:=(i:Int)+1) ω ω,af i]
   have h0:=hr u (G.mono ω hu)
   have put: ∀x:Int,aF x→Ok (λr=>L3 (m+1) r.1) (cond (small (u.length+[((s.1.getD (i:Int).toNat 0,(a,(x,()))):dh)].length)) (gk.Xs N n a q s.1 z.1 (u++[(s.1.getD (i:Int).toNat 0,(a,(x,())))]) ((i+1:Nat):Int)) none):=λx hx=>aD (by rw[aK];omega) (hr _ (G.mono ω (G.cat hu (G.one (m:=1) (G3 (u9 h3 _) ha hx) (aH 1)))))
   dsimp only
   exact ax (λ_=>aB ⟨ω,ω⟩ (ax (λ_=>bK (λ_=>aB ⟨ω,ω⟩ (put _ (gH _))) λ_=>h0) λ_=>bK (λ_=>aB ⟨ω,ω⟩ (put _ (u9 e2 _))) λ_=>h0)) λ_=>ω
  ·exact ax (λ_=>ω) λ_=>aq (G.mono ω hu)
theorem Vb(N:Nat)(hN:5000000≤N){c:ae}{b:an}{m:Nat}(h2:200≤m)(hm:m≤7000)(hc:G 5 aA c)(hb:G m aL b):Ok (λr=>G m aL r.1) (oO N c b):=by
 have FA:=hc.1.1
 unfold oO oO.b
 refine bO (eh N hN ω hb) (bG (λ_=>aq G.jG) λ_=>bs (len:=c.1.length) (F:=λn i s=>oO.l5 N n c b (ch,(cT,(bq,(bq,(dg,(du,())))))) s i) (λi s=>L3 ((m+1)*i) s) G.nil ω (λn i s hi hI hr=> ?_) (λn s hI=> ?_))
 all_goals unfold oO.l5 oO.dU
 ·have hs:=hI.1
  have hmi:(m+1)*i≤(m+1)*5:=mX _ ω
  rw[aw (x:=(i:Int)+1) ω ω,af i]
  exact ax (λ_=>ag (adY N hN c ω hb (jD ω ω)) λr hrr=>bK (λ_=>aq G.jG) λ_=>aD (by have:=hrr.1;omega) (hr _ (G.mono (by rw[sm];omega) (G.cat hI hrr)))) λ_=>ω
 ·have hmi:(m+1)*c.1.length≤(m+1)*5:=mX _ ω
  exact ax (λ_=>ω) λ_=>ag (uh N ω h2 ω hb (G.mono ω hI) kS.nil) λr hr=>aq hr
theorem Vc(N:Nat)(hN:200000≤N){l:aO}{m:Nat}(hm:m≤50000)(h:G m (.slice fa) l)(a:Int):Ok (λr=>G 0 fa r.1) (tb N l a):=by
 have hl:=h.1
 have hz:G 0 fa ba:=G.zero 0 fa
 unfold tb tb.b
 refine bO (vj N ω hN) (bG (λ_=>aq hz) λ_=>bs (len:=l.length) (F:=λn i (z:cL×Bool)=>tb.l6 N n l a ba z.1 z.2 i) (s:=(_,_)) (λ_ z=>G 0 fa z.1) hz ω (λn i z hi hI hr=> ?_) (λn z hI=> ?_))
 all_goals unfold tb.l6 tb.u7
 ·rw[aw (x:=(i:Int)+1) ω ω,af i]
  have hx:G 0 fa (l.getD (i:Int).toNat ba):=G.at h _
  have h1:=hr z hI
  have h2:=hr (_,true) hx
  repeat' first|exact h1|exact h2|refine aB ⟨ω,ω⟩ ?_|refine ax (λ_=> ?_) (λ_=> ?_)|refine ok_eq (λ_=> ?_) (λ_=> ?_)|refine bG (λ_=> ?_) (λ_=> ?_)|(exfalso;omega)
 ·exact ax (λ_=>ω) λ_=>aq hI
theorem GL{m:Nat}{a b d e f:Int}{l:aE}(ha:aF a)(hl:L2 m l)(hb:aF b)(hd:aF d)(he:aF e)(hf:aF f):G m jT (a,(l,(b,(d,(e,(f,())))))):=⟨ha,hl,hb,hd,he,hf,trivial⟩
theorem LL.app{m:Nat}{k:Nat}{l:bJ}{x:je}(hl:l.length≤k∧ ∀y∈l,G m jT y)(hx:G m jT x):(l++[x]).length≤k+1∧ ∀y∈l++[x],G m jT y:=
 ⟨by rw[aS,aK];have:=hl.1;omega,λy hy=>(bn.1 hy).elim (hl.2 y) λhy=>by rw[cw.1 hy];exact hx⟩
theorem Qc(N:Nat)(hN:5000000≤N)(c:ae){b:an}{L:bJ}{l:aO}{m:Nat}(h2:200≤m)(hm:m≤2000)(hb:G m aL b)(hL:LL m L)(hl:G m (.slice fa) l):Ok (λr=>G m aL r.1∧LL m r.2.1) (gv N c b L l):=by
 have ei: ∀e:Int,Ok (λr:an×bJ×Int=>G m aL r.1∧LL m r.2.1) (some ((ch,(cT,(bq,(bq,(dg,(du,())))))),([],e))):=λe=>aq ⟨G.jG,G.nil⟩
 have h3:=hL.1
 have h4:=hl.1
 have hw:KH L:=λy hy=>cA (hL.2 y hy).2.1.1 ω
 unfold gv gv.b
 refine bO (eh N hN ω hb) (bG (λ_=>ei _) λ_=>bO (Ca N ω c ω hw) (bG (λ_=>ei _) λhk=>bO (vj N ω ω) (bG (λ_=>ei _) λ_=> ?_)))
 have h12:L.length≤12:=by
  unfold Dc at hk
  exact bA (dd.1 (dd.1 hk).2).1
 refine bs (len:=L.length) (F:=λn i (z:au×bM×bJ)=>gv.l7 N n L l b (ch,(cT,(bq,(bq,(dg,(du,())))))) z.1 z.2.1 z.2.2 i) (s:=(_,(_,_))) (λi z=>L3 (2*m*i) z.1∧kS (2*i) z.2.1∧z.2.2.length≤i∧ ∀y∈z.2.2,G m jT y) ⟨G.nil,kS.nil,bw _,λy hy=>nomatch hy⟩ ω (λn i z hi hI hr=> ?_) (λn z hI=> ?_)
 all_goals unfold gv.l7 gv.mK
 ·obtain⟨h5,h6,h7⟩:=hI
  have h8:=h6.1
  have h9:=h7.1
  have hmi:2*m*i≤2*m*12:=mX _ ω
  have hms:2*m*(i+1)=2*m*i+2*m:=sm _ _
  have hx:G m jT (L.getD (i:Int).toNat ((0:Int),(ch,ba))):=G.at hL _
  have hxl:=hx.2.1.1
  rw[aw (x:=(i:Int)+1) ω ω,af i]
  dsimp only
  rw[cB]
  have put: ∀x:je,G m jT x→Ok (λr=>G m aL r.1∧LL m r.2.1) (cond (small (z.2.2.length+[x].length)) (gv.l7 N n L l b (ch,(cT,(bq,(bq,(dg,(du,())))))) z.1 z.2.1 (z.2.2++[x]) ((i+1:Nat):Int)) none):=λx hx=>aD (by rw[aK];omega) (hr (z.1,(z.2.1,z.2.2++[x])) ⟨G.mono ω h5,kS.mono h6 ω,LL.app h7 hx⟩)
  refine ax (λ_=>aB ⟨ω,ω⟩ (aD (by rw[ca];omega) (bK (λ_=>put _ hx) λ_=>ag (Vc N ω ω hl _) λw hw=>bG (λ_=>put _ (GL hx.1 hx.2.1 hx.2.2.1 (show aF 3 from bx) hx.2.2.2.2.1 hx.2.2.2.2.2.1)) λ_=>ag (Cp N ω ω hb.2.1 _) λh hh=>ok_eq (λ_=>ei _) λ_=>ag (rW N ω ω hb _) λ_ _=>ok_eq (λ_=>ei _) λ_=> ?_))) λ_=>ω
  have o7:=GL hx.1 hx.2.1 hx.2.2.1 (show aF 2 from bx) hw.2.2.1 hw.2.2.2.1
  generalize hX:(((L.getD (i:Int).toNat ((0:Int),(ch,ba))).1,((L.getD (i:Int).toNat ((0:Int),(ch,ba))).2.1,((L.getD (i:Int).toNat ((0:Int),(ch,ba))).2.2.1,((2:Int),(w.1.2.2.1,(w.1.2.2.2.1,())))))):je)=X at o7
  have hXl:X.2.1.length≤m:=o7.2.1.1
  refine bs (len:=X.2.1.length) (F:=λn' j u=>gv.yk N (gv.l7 N n) n' L l b (ch,(cT,(bq,(bq,(dg,(du,())))))) u z.2.1 z.2.2 (i:Int) X w.1 h j) (s:=z.1) (λj u=>L3 (2*m*i+2*j) u) h5 ω (λn' j u hj hu dZ=> ?_) (λn' u hu=> ?_)
  all_goals unfold gv.yk gv.w8
  ·have Jj:=hu.1
   have hy:G m kO (X.2.1.getD (j:Int).toNat c5):=G.at o7.2.1 _
   dsimp only
   rw[aw (x:=(j:Int)+1) ω ω,af j]
   exact ax (λ_=>aB ⟨ω,ω⟩ (aB ⟨ω,ω⟩ (aB ⟨ω,ω⟩ (aB ⟨ω,ω⟩ (aD (by rw[zo];omega) (dZ _ (G.mono ω (G.cat hu (G.two (m:=2) (G3 bY hy.1 (gH _)) (G3 hh hy.1 hy.2.1) (aH 2)))))))))) λ_=>ω
  ·refine ax (λ_=>ω) λ_=>ag (bF N ω hw.2.2.2.1) λv hv=>ag (ui N ω _ _ _ _ (Bg.mono hv ω)) λp hp=>aD (by have:=hp.1;omega) (aD (by rw[aK];omega) ?_)
   rw[aw (x:=(i:Int)+1) ω ω,af i]
   exact hr (_,(_,_)) ⟨G.mono ω hu,kS.mono (kS.app h6 hp) ω,LL.app h7 o7⟩
 ·obtain⟨h5,h6,h7⟩:=hI
  have hmi:2*m*L.length≤2*m*12:=mX _ ω
  exact ax (λ_=>ω) λ_=>ag (uh N ω h2 ω hb (G.mono ω h5) (kS.mono h6 ω)) λr hr=>bK (λ_=>ei _) λ_=>aq ⟨hr,cA h7.1 ω,h7.2⟩
theorem Qd{l:aO}(h:gL l=true):l.length≤24:=by
 unfold gL at h
 rw[eZ]at h
 have h:=bA h
 have key: ∀i,i<l.length→(i:Int)+1≤(l.getD i ba).1:=by
  intro i
  induction i with
  |zero=>intro hi;exact(h 0 hi).1.1.1
  |succ i ih=>
   intro hi
   have h1:=ih ω
   have h2:(l.getD i ba).1<(l.getD (i+1) ba).1:=(h (i+1) hi).2.1 ω
   have g: ∀a b:Int,(i:Int)+1≤a→a<b→((i+1:Nat):Int)+1≤b:=λa b h1 h2=>ω
   exact g _ _ h1 h2
 by_cases hl:l.length≤24
 ·exact hl
 ·have h1:=key 24 ω
  have h2:=(h 24 ω).1.1.2
  have g: ∀a:Int,((24:Nat):Int)+1≤a→a≤24→False:=λa h1 h2=>ω
  exact(g _ h1 h2).elim
theorem Lc(N:Nat)(hN:5000000≤N){c:ae}{b:an}{m:Nat}(hm:m≤40000)(hc:G m aA c)(hb:G m aL b)(a:Int):Ok (λr=>aF r.1) (F60 N c b a):=by
 unfold F60 aaC
 exact bO (eh N hN ω hb) (bG (λ_=>aq bY) λ_=>ag (zn N ω ω hb.2.1 _) λ_ _=>bG (λ_=>aq bY) λ_=>ag (PY N ω ω hb.2.2.2.1 _) λl hl=>ag (Q:=λr=>Bg 60000 r.1) (ag (Dr N ω ω hc hl _) λr hr=>aq hr) λu hu=>ag (vo N ω ω hb _) λg hg=>eK (λ_=>aq bY) λ_=>ag (yC N hu) λv hv=>oZ (λ_=>ax (λ_=>aq hv) λ_=>aq hg) λ_=>aq hg)
theorem aaH(N:Nat)(hN:200000≤N){l:au}{a d:Int}{m:Nat}(hm:m≤50000)(h:L3 m l)(ha:aF a)(hd:aF d):Ok (λr=>L3 (2*m) r) (nS N l a d):=by
 have hl:=h.1
 unfold nS nS.b
 refine bO (lT N ω hN) (bG (λ_=>aq G.nil) λ_=>ok_eq (λ_=>aq G.nil) λ_=>ax (λ_=>aq G.nil) λ_=>ax (λ_=>aq G.nil) λ_=>ax (λ_=>aq G.nil) λ_=>ax (λ_=>aq G.nil) λ_=>bs (len:=l.length) (F:=λn i s=>nS.l5 N n l a d s i) (λi s=>L3 (2*i) s) G.nil ω (λn i s hi hI hr=> ?_) (λn s hI=> ?_))
 all_goals unfold nS.l5 nS.dU
 ·have hs:=hI.1
  have hx:=G.at h (i:Int).toNat
  dsimp only
  rw[aw (x:=(i:Int)+1) ω ω,af i]
  have h1:=hr s (G.mono ω hI)
  exact ax (λ_=>aB ⟨ω,ω⟩ (ok_eq (λ_=>aB ⟨ω,ω⟩ (aB ⟨ω,ω⟩ (aB ⟨ω,ω⟩ (aB ⟨ω,ω⟩ (aD (by rw[zo];omega) (hr _ (G.mono ω (G.cat hI (G.two (m:=2) (G3 ha hx.2.1 (gH _)) (G3 hd hx.2.1 hx.2.2.1) (aH 2)))))))))) λ_=>h1)) λ_=>ω
 ·exact ax (λ_=>ω) λ_=>aq (G.mono ω hI)
theorem ad0(N:Nat)(hN:5000000≤N){c:ae}{b:an}{m:Nat}(h2:200≤m)(hm:m≤1000)(hc:G m aA c)(hb:G m aL b)(a:Int):Ok (λr=>G m aL r.1) (rX N c b a):=by
 unfold rX rX.b
 refine bO (eh N hN ω hb) (bG (λ_=>aq G.jG) λhB=>ag (rW N ω ω hb _) λ_ _=>ok_eq (λ_=>aq G.jG) λ_=> ?_)
 have hal:b.2.1.length≤24:=by
  unfold de at hB
  have h1:=(dd.1 (dd.1 hB).2).1
  unfold sM at h1
  exact Qd (dd.1 (dd.1 h1).2).1
 refine bs (len:=b.2.1.length) (F:=λn i (z:au×bM)=>rX.l8 N n a c b (ch,(cT,(bq,(bq,(dg,(du,())))))) z.1 z.2 i) (s:=(_,_)) (λi z=>L3 (2*m*i) z.1∧kS (4*i) z.2) ⟨G.nil,kS.nil⟩ ω (λn i z hi hI hr=> ?_) (λn z hI=> ?_)
 all_goals unfold rX.l8 rX.Ef
 ·obtain⟨h5,h6⟩:=hI
  have h7:=h5.1
  have h8:=h6.1
  have hmi:2*m*i≤2*m*24:=mX _ ω
  have hms:2*m*(i+1)=2*m*i+2*m:=sm _ _
  have hx:G m fa (b.2.1.getD (i:Int).toNat ba):=G.at hb.2.1 _
  have hj: ∀p:bM,kS (4*i+2) p→Ok (λr=>G m aL r.1) (rX.Dn N (rX.l8 N n) a c b (ch,(cT,(bq,(bq,(dg,(du,())))))) z.1 p (i:Int) (b.2.1.getD (i:Int).toNat ba)):=λp hp=>by
   have CB:=hp.1
   unfold rX.Dn rX.xa
   rw[aw (x:=(i:Int)+1) ω ω,af i]
   exact ag (vo N ω ω hb _) λg hg=>ax (λ_=>ag (bF N ω hg) λv hv=>ag (rV N ω ω hv) λv hv=>ag (ui N ω _ _ _ _ (Bg.mono hv ω)) λu hu=>aD (by have:=hu.1;omega) (ag (aaH N ω ω hb.2.2.2.1 hx.1 bY) λs hs=>aD (by have:=hs.1;omega) (hr (_,_) ⟨G.mono ω (G.cat h5 hs),kS.mono (kS.app hp hu) ω⟩))) λ_=>ag (aaH N ω ω hb.2.2.2.1 hx.1 bY) λs hs=>aD (by have:=hs.1;omega) (hr (_,_) ⟨G.mono ω (G.cat h5 hs),kS.mono hp ω⟩)
  rw[aw (x:=(i:Int)+1) ω ω,af i]
  exact ax (λ_=>aB ⟨ω,ω⟩ (bK (λ_=>hr z ⟨G.mono ω h5,kS.mono h6 ω⟩) λ_=>ok_eq (λ_=>ag (Lc N hN ω hc hb _) λq hq=>ag (bF N ω hq) λv hv=>ag (ui N ω _ _ _ _ (Bg.mono hv ω)) λu hu=>aD (by have:=hu.1;omega) (hj _ (kS.mono (kS.app h6 hu) ω))) λ_=>hj _ (kS.mono h6 ω))) λ_=>ω
 ·obtain⟨h5,h6⟩:=hI
  have hmi:2*m*b.2.1.length≤2*m*24:=mX _ ω
  exact ax (λ_=>ω) λ_=>ag (uh N ω h2 ω hb (G.mono ω h5) (kS.mono h6 ω)) λr hr=>aq hr
abbrev GS(m:Nat)(s:aR):Prop:=G m dO s
abbrev SR(m:Nat)(r:aR×dh):Prop:=GS m r.1
theorem MP(N:Nat)(e:Int):Ok (λ_=>True) (gd N e):=by
 unfold gd;exact fJ
theorem Xt(N:Nat)(hN:5000000≤N){c:ae}{s:aR}{e:iD}{m:Nat}(h2:200≤m)(hm:m≤1000)(hc:G m aA c)(hs:GS m s)(he:G 0 me e):Ok (SR m) (oP N c s e):=by
 have hhl:=hs.2.2.2.1.2.2.2.2.1.1
 unfold oP oP.b
 generalize ((0:Int),((0:Int),_))=S0
 refine bs (len:=s.2.2.2.1.2.2.2.2.1.length) (F:=λn i (z:aR×aO×Bool×Int)=>oP.l5 N n c z.1 e S0 bb z.2.1 z.2.2.1 z.2.2.2 i) (s:=(_,(_,(_,_)))) (λi z=>GS m z.1∧z.1.2.2.2.1.2.2.2.2.1=s.2.2.2.1.2.2.2.2.1∧G i (.slice fa) z.2.1) ⟨hs,rfl,G.nil⟩ ω (λn i z hi hI hr=> ?_) (λn z hI=> ?_)
 all_goals unfold oP.l5 oP.dU
 ·obtain⟨hz,hh,ho⟩:=hI
  have xg:=ho.1
  rw[hh,aw (x:=(i:Int)+1) ω ω,af i]
  have hx:G 0 fa (s.2.2.2.1.2.2.2.2.1.getD (i:Int).toNat ba):=G.at hs.2.2.2.1.2.2.2.2.1 _
  refine ax (λ_=>aB ⟨ω,ω⟩ (ok_eq (λ_=>ag (U5 N hN h2 ω hc hz.2.2.1 (G.mono (bw m) hx) he.2.2.1 he.2.2.2.2.2.2.1 he.2.2.2.2.2.2.2.1) λr ⟨BN,z6⟩=>bK (λ_=>ag (MP N _) λ_ _=>aq hz) λ_=> ?_) λ_=>ax (λ_=>aD (by rw[aK];omega) (hr (z.1,(z.2.1++[s.2.2.2.1.2.2.2.2.1.getD (i:Int).toNat ba],z.2.2)) ⟨hz,hh,G.cat ho (G.one hx (aH 1))⟩)) λ_=>hr z ⟨hz,hh,G.mono ω ho⟩)) λ_=>ω
  have AG:GS m (z.1.1,(z.1.2.1,(r.1,z.1.2.2.2))):=⟨hz.1,hz.2.1,BN,hz.2.2.2⟩
  have alF:G 0 fa r.2.1:=z6
  exact ax (λ_=>aD (by rw[aK];omega) (hr ((z.1.1,(z.1.2.1,(r.1,z.1.2.2.2))),(z.2.1++[r.2.1],(true,r.2.1.2.2.2.1))) ⟨AG,hh,G.cat ho (G.one alF (aH 1))⟩)) λ_=>hr ((z.1.1,(z.1.2.1,(r.1,z.1.2.2.2))),(z.2.1,(true,r.2.1.2.2.2.1))) ⟨AG,hh,G.mono ω ho⟩
 ·obtain⟨hz,hh,ho⟩:=hI
  rw[hh]
  exact ax (λ_=>ω) λ_=>bG (λ_=>ag (MP N _) λ_ _=>aq hz) λ_=>aq ⟨hz.1,hz.2.1,hz.2.2.1,⟨hz.2.2.2.1.1,hz.2.2.2.1.2.1,hz.2.2.2.1.2.2.1,hz.2.2.2.1.2.2.2.1,G.mono hhl ho,hz.2.2.2.1.2.2.2.2.2⟩,hz.2.2.2.2⟩
theorem vq(N:Nat)(hN:4000000≤N){s:aR}{q:Int}(hs:aF s.1)(hq:aF q):Ok (λr=>aF r.1) (Xu N s q):=by
 unfold Xu
 exact ag (bF N hN hs) λa ha=>ag (bF N hN hq) λb hb=>ag (lX N hN ω ha hb) λx hx=>ag (yC N hx) λv hv=>aq hv
theorem dB{α:Type}{P:α×dh→Prop}{N:Nat}{e:Int}{f:dh→Option (α×dh)}(h: ∀r,Ok P (f r)):Ok P ((gd N e).bind f):=ag (MP N e) λr _=>h r
theorem aaI(N:Nat)(hN:5000000≤N){c:ae}{s:aR}{e:iD}{m:Nat}(h2:200≤m)(hm:m≤999)(hc:G 5 aA c)(hs:GS m s)(he:G 0 me e):Ok (SR (m+1)) (oQ N c s e):=by
 have FC:G m aA c:=G.mono ω hc
 have Ua:GS (m+1) s:=G.mono ω hs
 obtain⟨s1,s2,s3,⟨k1,k2,k3,k4,k5,k6,k7,k8,k9,Xv,k11⟩,s5⟩:=Ua
 have hk:=hs.2.2.2.1
 have i2:aF 2:=bx
 have i3:aF 3:=bx
 have up: ∀{τ:Ty} {x:τ.den},G m τ x→G (m+1) τ x:=λh=>G.mono ω h
 have cg: ∀r:dh,Ok (SR (m+1)) (some (s,r)):=λr=>aq (up hs)
 unfold oQ oQ.b
 refine ok_eq (λ_=> ?_) λ_=>ok_eq (λ_=> ?_) λ_=>ok_eq (λ_=> ?_) λ_=>ok_eq (λ_=> ?_) λ_=>ok_eq (λ_=> ?_) λ_=>ok_eq (λ_=> ?_) λ_=>ok_eq (λ_=> ?_) λ_=>ok_eq (λ_=> ?_) λ_=>dB λr=>cg r
 ·exact ag (adR N hN ω FC hs.2.2.1 _ he.2.1 _) λr hr=>dB λ_=>aq ⟨s1,s2,up hr,(up hs).2.2.2⟩
 ·exact ag (ad0 N hN h2 ω FC hs.2.2.1 _) λr hr=>dB λ_=>aq ⟨s1,s2,up hr,⟨k1,i2,bY,k4,k5,k6,k7,k8,k9,Xv,k11⟩,s5⟩
 ·exact ag (Xa N hN c hc.2.2.2.2.2.2.1 ω hs.2.2.1 _) λr hr=>aq ⟨s1,gH _,s3,⟨k1,k2,k3,k4,G.mono ω hr,k6,k7,k8,k9,Xv,k11⟩,s5⟩
 ·exact ag (Xt N hN h2 ω FC hs he) λr hr=>aq (up hr)
 ·exact ok_eq (λ_=>dB λr=>cg r) λ_=>ag (adT N hN h2 ω FC hs.2.2.1 hs.2.1) λl hl=>bK (λ_=>dB λr=>cg r) λ_=>ag (vq N ω hs.1 hc.2.2.2.2.1) λt ht=>bG (λ_=>dB λr=>cg r) λ_=>ag (U6 N hN c ω hs.2.2.1) λu hu=>aq ⟨s1,gH _,s3,⟨k1,i3,ht,gH _,G.nil,up hl,G.nil,up hu,k9,Xv,k11⟩,s5⟩
 ·have hx:G 0 fa (s.2.1,(e.2.2.2.2.2.1,(e.2.1,(e.2.2.2.2.2.2.2.1,())))):=⟨hs.2.1,he.2.2.2.2.2.1,he.2.1,he.2.2.2.2.2.2.2.1,trivial⟩
  exact ag (K8 N hN ω ω FC hs.2.2.1 hk.2.2.2.2.2.1 hk.2.2.2.2.2.2.1 hx) λr hr=>aq ⟨s1,gH _,s3,⟨k1,k2,k3,k4,k5,k6,hr,k8,k9,Xv,k11⟩,s5⟩
 ·refine ag (Qc N hN c h2 ω hs.2.2.1 hk.2.2.2.2.2.1 hk.2.2.2.2.2.2.1) λr ⟨BN,z6⟩=>bK (λ_=>dB λr=>cg r) λ_=>ag (Qa N ω c h2 ω hk.2.2.2.2.2.2.2.2.1 hk.2.2.2.2.2.2.2.1.1 z6 hk.2.2.2.2.2.2.1) λd hd=> ?_
  generalize ((0:Int),((0:Int),_))=S0
  have J9:=z6.1
  refine bs (len:=r.2.1.length) (F:=λn i q=>oQ.l41 N n _ S0 bb r.2.1 q i) (λ_ _=>True) trivial ω (λn i q hi _ dZ=> ?_) (λn q _=> ?_)
  all_goals unfold oQ.l41 oQ.ad1
  ·rw[aw (x:=(i:Int)+1) ω ω,af i]
   exact ax (λ_=>aB ⟨ω,ω⟩ (ok_eq (λ_=>dZ _ trivial) λ_=>dZ _ trivial)) λ_=>ω
  ·exact ax (λ_=>ω) λ_=>aq ⟨s1,s2,up BN,⟨k1,i2,bY,k4,k5,up z6,k7,k8,up hd,Xv,k11⟩,s5⟩
 ·exact ag (Lb N hN h2 ω FC hs.2.2.1 hk.2.2.2.2.2.2.2.2.1 hk.2.2.2.2.2.2.2.2.2.1 hk.1) λr ⟨BN,z6⟩=>bK (λ_=>dB λr=>cg r) λ_=>ag (Vb N hN h2 ω hc BN) λb hb=>bK (λ_=>dB λr=>cg r) λ_=>ag (MJ N ω ω hb.1 _ _) λu hu=>aq ⟨s1,s2,⟨up hu,(up hb).2⟩,G.zero (m+1) tc,up z6,trivial⟩
theorem Qe(N:Nat)(s:aR)(k:Int):Ok (λ_=>True) (ad2 N s k):=by
 unfold ad2
 repeat' first|exact fJ|refine ok_eq (λ_=> ?_) (λ_=> ?_)
theorem pF(N:Nat)(hN:200000≤N){s:aR}{m:Nat}(hm:m≤50000)(hs:GS m s)(k:Int):Ok (λ_=>True) (It N s k):=by
 unfold It
 exact ag (pE N hN hm hs.2.2.1.1 _) λ_ _=>fJ
theorem aaK(N:Nat)(hN:200000≤N){s:aR}{m:Nat}(hm:m≤50000)(hs:GS m s)(k:Int):Ok (λ_=>True) (Tp N s k):=by
 unfold Tp
 exact ag (zn N hN hm hs.2.2.1.2.1 _) λ_ _=>fJ
theorem ad3(N:Nat)(hN:4000000≤N){s:aR}{m:Nat}(h2:200≤m)(hm:m≤50000)(hs:GS m s)(a b c d:Int){q:Int}(hq:aF q):Ok (SR m) (Qf N s a b c d q):=by
 unfold Qf
 exact ag (bF N hN hq) λx hx=>ag (ui N hN _ _ _ _ (Bg.mono hx ω)) λp hp=>ag (uh N hN h2 hm hs.2.2.1 G.nil (kS.mono hp ω)) λr hr=>aq ⟨hs.1,hs.2.1,hr,hs.2.2.2⟩
theorem aaL(N:Nat)(hN:5000000≤N){c:ae}{s:aR}{e:iD}{m:Nat}(h2:200≤m)(hm:m≤999)(hc:G 5 aA c)(hs:GS m s)(he:G 0 me e):Ok (SR (m+1)) (qX N c s e):=by
 obtain⟨s1,s2,s3,⟨k1,k2,k3,k4,k5,k6,k7,k8,k9,Xv,k11⟩,s5⟩:=hs
 have hs:GS m s:=⟨s1,s2,s3,⟨k1,k2,k3,k4,k5,k6,k7,k8,k9,Xv,k11⟩,s5⟩
 have up: ∀{x:aR},GS m x→ ∀r:dh,Ok (SR (m+1)) (some (x,r)):=λh r=>aq (P:=SR (m+1)) (G.mono (so m) h)
 have i1:aF 1:=bx
 have us: ∀{τ:Ty} {x:τ.den},G m τ x→G (m+1) τ x:=λh=>G.mono ω h
 unfold qX qX.b
 have hj: ∀(S0:aR) (z:dh),Ok (SR (m+1)) (qX.Xn N c s e S0 z):=λS0 z=>by
  unfold qX.Xn qX.P9
  exact ag (Qe N _ _) λ_ _=>bG (λ_=>dB λr=>up hs r) λ_=>ag (aaI N hN h2 hm hc hs he) λr hr=>aq hr
 have mem: ∀{x:aE},G m (.slice kO) x→G m aL ((x,s.2.2.1.2):an):=λh=>⟨h,s3.2⟩
 have hd: ∀z:aE×Int,G m (.slice kO) z.1→Ok (SR (m+1)) (cond (aN z.2 0) (cond (aN e.1 11) ((Fg N c (z.1,s.2.2.1.2) e.2.1).bind λr2=>cond (aN s.2.2.2.1.2.1 3) ((qy N s.2.2.2.1.2.2.2.2.2.2.1 e.2.1).bind λr3=>(gd N z.2).bind λr4=>some ((s.1,(s.2.1,(r2.1,((s.2.2.2.1.1,(s.2.2.2.1.2.1,(s.2.2.2.1.2.2.1,(s.2.2.2.1.2.2.2.1,(s.2.2.2.1.2.2.2.2.1,(s.2.2.2.1.2.2.2.2.2.1,(r3,s.2.2.2.1.2.2.2.2.2.2.2))))))),s.2.2.2.2)))),r4)) ((gd N z.2).bind λr5=>some ((s.1,(s.2.1,(r2.1,s.2.2.2))),r5))) ((gd N z.2).bind λr6=>some ((s.1,(s.2.1,((z.1,s.2.2.1.2),s.2.2.2))),r6))) ((gd N z.2).bind λr7=>some ((s.1,(s.2.1,((z.1,s.2.2.1.2),s.2.2.2))),r7))):=λz hz=>
  ok_eq (λ_=>ok_eq (λ_=>ag (P3 N hN c ω (mem hz) _) λb hb=>ok_eq (λ_=>ag (ED N ω ω k7 _) λl hl=>dB λr=>aq ⟨s1,s2,us hb,⟨k1,k2,k3,k4,us k5,us k6,us hl,us k8,us k9,us Xv,trivial⟩,us s5⟩) λ_=>dB λr=>aq ⟨s1,s2,us hb,(us hs).2.2.2⟩) λ_=>dB λr=>aq ⟨s1,s2,us (mem hz),(us hs).2.2.2⟩) λ_=>dB λr=>aq ⟨s1,s2,us (mem hz),(us hs).2.2.2⟩
 have Jt:=λk:Int=>MJ N ω (m:=m) ω s3.1 e.2.1 k
 refine ok_eq (λ_=>ag (Jt _) λz hz=>hd z hz) λ_=>ok_eq (λ_=>ag (Jt _) λz hz=>hd z hz) λ_=>ok_eq (λ_=> ?_) λ_=>ok_eq (λ_=> ?_) λ_=>hj _ _
 ·exact ag (pF N ω ω hs _) λ_ _=>ok_eq (λ_=>dB λr=>up hs r) λ_=>bK (λ_=>dB λr=>up hs r) λ_=>ag (Jt _) λz hz=>bK (λ_=>dB λr=>aq ⟨s1,s2,us (mem hz),(us hs).2.2.2⟩) λ_=>ag (vq N ω s1 hc.2.2.2.1) λt ht=>bG (λ_=>dB λr=>aq ⟨s1,s2,us (mem hz),(us hs).2.2.2⟩) λ_=>aq ⟨s1,s2,us (mem hz),⟨he.2.1,i1,ht,bY,G.nil,G.nil,G.nil,G.nil,G.nil,G.nil,trivial⟩,us s5⟩
 ·exact ag (pF N ω ω hs _) λ_ _=>ok_eq (λ_=>dB λr=>up hs r) λ_=>ag (pF N ω ω hs _) λ_ _=>bK (λ_=>dB λr=>up hs r) λ_=>hj _ _
theorem ad4(N:Nat)(hN:5000000≤N){c:ae}{s:aR}{e:iD}{m:Nat}(h2:200≤m)(hm:m≤999)(hc:G 5 aA c)(hs:GS m s)(he:G 0 me e):Ok (SR (m+1)) (Xw N c s e):=by
 have FC:G m aA c:=G.mono ω hc
 obtain⟨s1,s2,s3,⟨k1,k2,k3,k4,k5,k6,k7,k8,k9,Xv,k11⟩,s5⟩:=hs
 have hs:GS m s:=⟨s1,s2,s3,⟨k1,k2,k3,k4,k5,k6,k7,k8,k9,Xv,k11⟩,s5⟩
 have us: ∀{τ:Ty} {x:τ.den},G m τ x→G (m+1) τ x:=λh=>G.mono ω h
 have Ua:=us hs
 have up: ∀{x:aR},GS m x→ ∀r:dh,Ok (SR (m+1)) (some (x,r)):=λh r=>aq (P:=SR (m+1)) (G.mono (so m) h)
 have st:=λk:Int=>pF N ω (m:=m) ω hs k
 have hp:=λa b c d=>ad3 N ω h2 ω hs a b c d he.2.2.2.2.2.2.1
 have Xx:=he.2.2.2.2.2.2.1
 unfold Xw
 refine ok_eq (λ_=> ?_) λ_=>ok_eq (λ_=> ?_) λ_=>ok_eq (λ_=> ?_) λ_=>ok_eq (λ_=> ?_) λ_=>ok_eq (λ_=> ?_) λ_=>ok_eq (λ_=> ?_) λ_=>ok_eq (λ_=> ?_) λ_=>ok_eq (λ_=> ?_) λ_=>ok_eq (λ_=> ?_) λ_=>ok_eq (λ_=> ?_) λ_=>ok_eq (λ_=> ?_) λ_=>ag (aaL N hN h2 hm hc hs he) λr hr=>aq hr
 ·exact ag (aar N ω ω s3.1 he.2.1) λr hr=>dB λ_=>aq ⟨s1,s2,⟨hr,Ua.2.2.1.2⟩,Ua.2.2.2⟩
 ·have hx:G 0 fa (e.2.2.1,(e.2.1,(e.2.2.2.2.1,((0:Int),())))):=⟨he.2.2.1,he.2.1,he.2.2.2.2.1,bY,trivial⟩
  exact ag (adN N ω ω s3.1 s3.2.1 hx) λr hr=>dB λ_=>aq ⟨s1,s2,⟨Ua.2.2.1.1,hr,Ua.2.2.1.2.2⟩,Ua.2.2.2⟩
 ·exact ag (aaK N ω ω hs _) λ_ _=>bG (λ_=>dB λr=>up hs r) λ_=>ag (hp _ _ _ _) λr hr=>aq (us hr)
 ·exact ag (P6 N hN h2 ω FC s3 _ Xx) λr hr=>dB λz=>aq ⟨s1,s2,us hr,(us hs).2.2.2⟩
 ·exact ag (st _) λ_ _=>ok_eq (λ_=>dB λr=>up hs r) λ_=>ag (st _) λ_ _=>bK (λ_=>dB λr=>up hs r) λ_=>ag (hp _ _ _ _) λr hr=>aq (us hr)
 ·exact ag (st _) λ_ _=>ok_eq (λ_=>dB λr=>up hs r) λ_=>ag (ny N ω ω s3.2.2.1 _ _) λg hg=>ag (bF N ω hg) λx hx=>ag (rV N ω ω hx) λx hx=>ag (bF N ω Xx) λy hy=>ag (qT N ω ω ω hy hx) λ_ _=>ax (λ_=>dB λr=>up hs r) λ_=>ag (hp _ _ _ _) λr hr=>aq (us hr)
 ·exact ag (aas N ω ω s3.2.1 Xx) λr hr=>dB λz=>aq ⟨s1,s2,⟨us s3.1,us hr,(us s3).2.2⟩,(us hs).2.2.2⟩
 ·have hx:G 0 nw (s.2.1,(e.2.2.1,(e.2.2.2.1,(e.2.2.2.2.1,(e.2.2.2.2.2.2.1,(e.2.2.2.2.2.2.2.1,())))))):=⟨s2,he.2.2.1,he.2.2.2.1,he.2.2.2.2.1,Xx,he.2.2.2.2.2.2.2.1,trivial⟩
  exact ag (aaw N hN h2 ω FC s3 hx) λr hr=>aq ⟨s1,gH _,hr,Ua.2.2.2⟩
 ·exact ag (aaK N ω ω hs _) λ_ _=>bG (λ_=>dB λr=>up hs r) λ_=>ag (Xg N ω ω s3.2.2.2.2.2.1 _ _) λr hr=>dB λz=>aq ⟨s1,s2,⟨us s3.1,us s3.2.1,us s3.2.2.1,us s3.2.2.2.1,us s3.2.2.2.2.1,us hr,trivial⟩,(us hs).2.2.2⟩
 ·exact ag (EE N hN c h2 ω s3 _ he.2.2.2.2.2.2.2.1) λr ⟨BN,z6⟩=>ok_eq (λ_=>bK (λ_=>ag (P5 N ω h2 ω Xv z6) λg hg=>dB λz=>aq ⟨s1,s2,us BN,⟨k1,k2,k3,k4,us k5,us k6,us k7,us k8,us k9,us hg,trivial⟩,us s5⟩) λ_=>dB λz=>aq ⟨s1,s2,us BN,(us hs).2.2.2⟩) λ_=>dB λz=>aq ⟨s1,s2,us BN,(us hs).2.2.2⟩
 ·exact ag (vq N ω s1 Xx) λt ht=>bG (λ_=>dB λr=>up hs r) λ_=>aq ⟨ht,(us hs).2⟩
theorem UG(N:Nat)(hN:5000000≤N){c:ae}{s:aR}{e:iD}{m:Nat}(h2:200≤m)(hm:m≤999)(hc:G 5 aA c)(hs:GS m s)(he:G 0 me e):Ok (SR (m+1)) (Tq N c s e):=by
 have cg: ∀r:dh,Ok (SR (m+1)) (some (s,r)):=λr=>aq (P:=SR (m+1)) (G.mono (so m) hs)
 unfold Tq
 exact bO (mL N ω c) (bG (λ_=>cg _) λ_=>ag (K7 N ω e) λ_ _=>bG (λ_=>cg _) λ_=>ag (ad4 N hN h2 hm hc hs he) λr hr=>bK (λ_=>cg _) λ_=>aq hr)
end VM
end
section
namespace VM
open Go VM.F Go.RowKit
theorem ada{l:List Int}(h:WF (.slice (.int .u64)) l):Dk 0 ((l,((0:Int),())):aJ):=⟨λx hx=>by
 obtain⟨i,hi,rfl⟩:=gJ hx
 have h3:0≤l[i]∧l[i]≤18446744073709551615:=wf_u64.1 (h.2 i hi)
 exact⟨h3.1,sa h3.2 δ⟩,fU 0,fU 0⟩
namespace Pure
end Pure
theorem qQ{α:Type}{l:List α}{d:α}{i:Nat}(h:i<l.length):l.getD i d∈l:=by
 rw[aW,bl h];exact dF h
namespace Pure
end Pure
theorem yD{P:Int→Prop} [DecidablePred P]{f:Int→Int→Int}: ∀{K:List dq} {o:au},eG P f K=some o→(o.map keyOf).Sublist K∧(∀x∈o,dT x=f x.1 x.2.1∧dT x≠0∧P (dT x))∧(∀k∈K,P (f k.1 k.2))∧ ∀a b,iv a b o=if(a,b)∈K then f a b else 0
 |[],o,h=>by
  have e:[]=o:=oa h
  subst e
  exact⟨List.Sublist.refl _,λx hx=>(nomatch hx),λk hk=>(nomatch hk),λa b=>by rw[ah (λh=>nomatch h)];rfl⟩
 |k::t,o,h=>by
  rw[lV]at h
  by_cases hp:P (f k.1 k.2)
  ·rw[ak hp]at h
   cases ho:eG P f t with
   |none=>rw[ho]at h;exact nomatch h
   |some o'=>
    rw[ho]at h
    have e:(if f k.1 k.2=0 then o' else(k.1,(k.2,(f k.1 k.2,())))::o')=o:=oa h
    obtain⟨s,g,gp,gf⟩:=yD ho
    have iT: ∀k'∈k::t,P (f k'.1 k'.2):=λk' hk=>by
     rcases bc.1 hk with rfl|hk
     ·exact hp
     ·exact gp k' hk
    by_cases h0:f k.1 k.2=0
    ·rw[ak h0]at e
     subst e
     refine⟨s.cons _,g,iT,λa b=> ?_⟩
     rw[gf a b]
     by_cases hk:(a,b)=k
     ·subst hk
      rw[ak (bt ..)]
      dsimp only at h0
      rw[h0];split<;>rfl
     ·by_cases ht:(a,b)∈t
      ·rw[ak ht,ak (a8 _ ht)]
      ·rw[ah ht,ah (λh=>(bc.1 h).elim hk ht)]
    ·rw[ah h0]at e
     subst e
     refine⟨s.cons_cons _,λx hx=> ?_,iT,λa b=> ?_⟩
     ·rcases bc.1 hx with rfl|hx
      ·exact⟨rfl,h0,hp⟩
      ·exact g x hx
     ·rw[jX]
      dsimp only
      rw[gf a b]
      by_cases h1:k.1=a
      ·by_cases h2:k.2=b
       ·have hk:(a,b)=k:=by rw[←h1,←h2]
        rw[ak h1,ak h2,ak (by rw[hk];exact bt ..),h1,h2]
       ·have hk:(a,b)≠k:=λe=>h2 (by rw[←e])
        rw[ak h1,ah h2]
        by_cases ht:(a,b)∈t
        ·rw[ak ht,ak (a8 _ ht)]
        ·rw[ah ht,ah (λh=>(bc.1 h).elim hk ht)]
      ·have hk:(a,b)≠k:=λe=>h1 (by rw[←e])
       rw[ah h1]
       by_cases ht:(a,b)∈t
       ·rw[ak ht,ak (a8 _ ht)]
       ·rw[ah ht,ah (λh=>(bc.1 h).elim hk ht)]
  ·rw[ah hp]at h;exact nomatch h
theorem aaM{l:au}(hs:uB (l.map keyOf)){j:Nat}(hj:j<l.length)(h0:0<j):uA (keyOf (l.getD (j-1) bb)) (keyOf (l.getD j bb)):=by
 have:=vB.1 (uK.1 hs) (j-1) j ω hj ω
 rw[aW,aW,bl hj,bl (show j-1<l.length by omega)]
 exact this
theorem Ts{l:au}(hs:uB (l.map keyOf))(h: ∀x∈l,cc x.1 x.2.1∧dT x≠0∧rA (dT x)):di l=true:=by
 unfold di
 rw[eZ]
 refine aV λj hj=> ?_
 obtain⟨a,b,c⟩:=h _ (qQ (d:=bb) hj)
 exact⟨a,b,c,λh0=>aaM hs hj h0⟩
theorem Xy{l:au}(hs:uB (l.map keyOf))(h: ∀x∈l,db x.1 x.2.1∧dT x≠0):fb l=true:=by
 unfold fb
 rw[eZ]
 refine aV λj hj=> ?_
 obtain⟨a,b⟩:=h _ (qQ (d:=bb) hj)
 exact⟨a,b,λh0=>aaM hs hj h0⟩
theorem td{a b:Int}:(a,b)∈jW↔cc a b:=by
 unfold jW cc
 rw[px];dsimp only;omega
theorem Tt(b:an)(s e:au):((dD b s e).2=2∧(dD b s e).1=(ch,(cT,(bq,(bq,(dg,(du,())))))))∨ ∃s' r',eG Fq (fS b.2.2.2.1 s) jW=some s'∧eG aF (fS b.2.2.1 e) nL=some r'∧dD b s e=((b.1,(b.2.1,(r',(s',b.2.2.2.2)))),0):=by
 unfold dD
 cases h1:eG Fq (fS b.2.2.2.1 s) jW with
 |none=>exact .inl ⟨rfl,rfl⟩
 |some s'=>
  cases h2:eG aF (fS b.2.2.1 e) nL with
  |none=>exact .inl ⟨rfl,rfl⟩
  |some r'=>exact .inr ⟨s',r',rfl,rfl,rfl⟩
theorem Tu{l E o:au}(hs:di l=true)(h:eG Fq (fS l E) jW=some o):di o=true∧(∀a b,cc a b→gh o a b=gh l a b+cY a b E∧Fq (gh o a b)):=by
 obtain⟨h1,h2,h3,h4⟩:=yD h
 have hso:uB (o.map keyOf):=xl h1 (py 6 25 0)
 have ho:di o=true:=Ts hso λx hx=>by
  have hk:(x.1,x.2.1)∈jW:=h1.subset (fB (f:=keyOf) hx)
  obtain⟨_,g1,g2⟩:=h2 x hx
  exact⟨td.1 hk,g1,g2.2⟩
 refine⟨ho,λa b hp=> ?_⟩
 have e:gh o a b=fS l E a b:=by
  unfold gh
  rw[ho,ak rfl,h4 a b,ak (td.2 hp)]
 refine⟨?_,by rw[e];exact h3 _ (td.2 hp)⟩
 rw[e]
 unfold fS gh
 rw[hs,ak rfl,vm (eU hs).1]
theorem FZ{a b:Int}{l:au}(h:cY a b l≠0): ∃x∈l,x.1=a∧x.2.1=b:=
 NM λhn=>h (lz λx hx e=>hn ⟨x,hx,e⟩)
theorem ad5{l E o:au}(hs:fb l=true)(hE: ∀x∈E,db x.1 x.2.1)(h:eG aF (fS l E) nL=some o):fb o=true∧(∀a b,db a b→tZ o a b=tZ l a b+cY a b E∧aF (tZ o a b)):=by
 obtain⟨h1,h2,h3,h4⟩:=yD h
 obtain⟨hl,q5⟩:=pz hs
 have hso:uB (o.map keyOf):=xl h1 (py 25 7 1)
 have ho:fb o=true:=Xy hso λx hx=>by
  obtain⟨g0,g1,g2⟩:=h2 x hx
  refine⟨?_,g1⟩
  rw[g0]at g1
  unfold fS at g1
  by_cases hz:cY x.1 x.2.1 l=0
  ·rw[hz,xw]at g1
   obtain⟨y,hy,e1,e2⟩:=FZ g1
   rw[←e1,←e2];exact hE y hy
  ·obtain⟨y,hy,e1,e2⟩:=FZ hz
   rw[←e1,←e2];exact q5 y hy
 refine⟨ho,λa b hk=> ?_⟩
 have hg:(a,b)∈nL:=by
  unfold nL
  rw[px]
  unfold db at hk
  dsimp only;omega
 have e:tZ o a b=fS l E a b:=by
  unfold tZ
  rw[ho,ak rfl,h4 a b,ak hg]
 refine⟨?_,by rw[e];exact h3 _ hg⟩
 rw[e]
 unfold fS tZ
 rw[hs,ak rfl,vm hl]
namespace Pure
end Pure
namespace Pure
end Pure
def JX(p:dq→Bool):au→Int
 |[]=>0
 |x::t=>(if p (keyOf x)=true then dT x else 0)+JX p t
def Iu(p:dq→Bool)(f:Int→Int→Int):List dq→Int
 |[]=>0
 |k::t=>(if p k=true then f k.1 k.2 else 0)+Iu p f t
theorem Ds(p:dq→Bool)(x:dh)(t:au):JX p (x::t)=(if p (keyOf x)=true then dT x else 0)+JX p t:=rfl
theorem rY(p:dq→Bool)(f:Int→Int→Int)(k:dq)(t:List dq):Iu p f (k::t)=(if p k=true then f k.1 k.2 else 0)+Iu p f t:=rfl
theorem Ld{P:Int→Prop} [DecidablePred P]{f:Int→Int→Int}(p:dq→Bool): ∀{K:List dq} {o:au},eG P f K=some o→JX p o=Iu p f K
 |[],o,h=>by
  have e:[]=o:=oa h
  subst e;rfl
 |k::t,o,h=>by
  rw[lV]at h
  by_cases hp:P (f k.1 k.2)
  ·rw[ak hp]at h
   cases ho:eG P f t with
   |none=>rw[ho]at h;exact nomatch h
   |some o'=>
    rw[ho]at h
    have e:(if f k.1 k.2=0 then o' else(k.1,(k.2,(f k.1 k.2,())))::o')=o:=oa h
    rw[rY,←Ld p ho]
    by_cases h0:f k.1 k.2=0
    ·rw[ak h0]at e
     rw[←e,h0]
     split<;>omega
    ·rw[ah h0]at e
     rw[←e];rfl
  ·rw[ah hp]at h;exact nomatch h
theorem Iv(p:dq→Bool)(f g:Int→Int→Int): ∀K:List dq,Iu p (λa b=>f a b+g a b) K=Iu p f K+Iu p g K
 |[]=>rfl
 |k::t=>by
  rw[rY,rY,rY,Iv p f g t]
  split<;>omega
theorem Dt{p:dq→Bool}{f:Int→Int→Int}: ∀{K:List dq},(∀k∈K,f k.1 k.2=0)→Iu p f K=0
 |[],_=>rfl
 |k::t,h=>by
  rw[rY,h k (bt ..),Dt λx hx=>h x (a8 _ hx)]
  split<;>rfl
theorem Qg(p:dq→Bool)(k:dq)(v:Int): ∀{K:List dq},uB K→k∈K→Iu p (λa b=>if k.1=a∧k.2=b then v else 0) K=if p k=true then v else 0
 |[],_,h=>nomatch h
 |x::t,hs,h=>by
  obtain⟨h1,h2⟩:=eT.1 hs
  rw[rY]
  by_cases e:k=x
  ·subst e
   have hz:Iu p (λa b=>if k.1=a∧k.2=b then v else 0) t=0:=Dt λy hy=>ah λe=>by
    have:=h1 y hy
    rw[show y=k from jr e.1.symm e.2.symm]at this
    exact pU this
   rw[ak (show k.1=k.1∧k.2=k.2 from⟨rfl,rfl⟩),hz,jq]
  ·rw[ah (show ¬(k.1=x.1∧k.2=x.2)from λh=>e (jr h.1 h.2)),Qg p k v h2 ((bc.1 h).elim (λh=>absurd h e) id)]
   split<;>omega
theorem Iw(p:dq→Bool){K:List dq}(hs:uB K): ∀{l:au},(∀x∈l,keyOf x∈K)→Iu p (λa b=>cY a b l) K=JX p l
 |[],_=>Dt λ_ _=>rfl
 |x::t,h=>by
  have e:(λa b=>cY a b (x::t))=λa b=>(if(keyOf x).1=a∧(keyOf x).2=b then dT x else 0)+cY a b t:=by
   funext a b;exact jV a b x t
  rw[e,Iv,Qg p (keyOf x) (dT x) hs (h x (bt ..)),Iw p hs λy hy=>h y (a8 _ hy),Ds]
theorem Ix{P:Int→Prop} [DecidablePred P]{l E o:au}{K:List dq}(p:dq→Bool)(hs:uB K)(hl: ∀x∈l,keyOf x∈K)(hE: ∀x∈E,keyOf x∈K)(h:eG P (fS l E) K=some o):JX p o=JX p l+JX p E:=by
 rw[Ld p h,←Iw p hs hl,←Iw p hs hE,←Iv];rfl
theorem wH: ∀l:au,JX (λ_=>true) l=(l.map dT).sum
 |[]=>rfl
 |x::t=>by rw[Ds,ak rfl,wH t,bV,cK]
theorem zp(i:Int): ∀l:au,JX (λk=>decide (k.2=i)) l=(dm i l).sum
 |[]=>rfl
 |x::t=>by
  rw[Ds,zp i t,dA]
  by_cases e:x.2.1=i
  ·rw[ak (aV (show(keyOf x).2=i from e)),ak e,cK]
  ·rw[ah (by rw[bu (show ¬(keyOf x).2=i from e)];exact pJ),ah e,xw]
def Iy(m:aE)(a:aO)(k n:Int):Prop:=(dI k 5→(eM a n).2=true)∧(dI k 6∨dI k 7→ ¬dI (fY m n) 0)
def Iz(c:ae)(a:aO)(k n:Int):Prop:=(dI k 0∨(eM a k).2=true)∧lH n c.1.length
theorem Qh{k n:Int}(h:db k n):(k,n)∈nL:=by
 unfold nL
 rw[px]
 unfold db at h
 dsimp only;omega
theorem IA{l E:au}{Q:Int→Int→Prop}(hl: ∀x∈l,Q x.1 x.2.1)(hE: ∀x∈E,Q x.1 x.2.1){a b:Int}(h:fS l E a b≠0):Q a b:=by
 unfold fS at h
 by_cases hz:cY a b l=0
 ·rw[hz,xw]at h
  obtain⟨y,hy,e1,e2⟩:=FZ h
  rw[←e1,←e2];exact hE y hy
 ·obtain⟨y,hy,e1,e2⟩:=FZ hz
  rw[←e1,←e2];exact hl y hy
theorem MQ{c:ae}{b:an}{s e s' r':au}(hB:de c b=true)(h1:eG Fq (fS b.2.2.2.1 s) jW=some s')(h2:eG aF (fS b.2.2.1 e) nL=some r')
  (gs: ∀x∈s,cc x.1 x.2.1∧Iz c b.2.1 x.1 x.2.1) (flat: ∀i:Int,(dm i s).sum=0) (ge: ∀x∈e,db x.1 x.2.1∧Iy b.1 b.2.1 x.1 x.2.1) (zero:(e.map dT).sum=0):
  de c (b.1,(b.2.1,(r',(s',b.2.2.2.2))))=true:=by
 have hB':=hB
 unfold de at hB'
 simp only[bP]at hB'
 obtain⟨b1,b2,b3,b4,b5,b6,b7,b8,b9,b10,b11⟩:=hB'
 obtain⟨hr,hs⟩:=eg hB
 obtain⟨o1,_⟩:=Tu hs h1
 obtain⟨o2,_⟩:=ad5 hr (λx hx=>(ge x hx).1) h2
 obtain⟨On,hsk⟩:=eU hs
 obtain⟨J9,hrk⟩:=pz hr
 have k1: ∀x∈b.2.2.2.1,keyOf x∈jW:=λx hx=>td.2 (hsk x hx).1
 have k2: ∀x∈s,keyOf x∈jW:=λx hx=>td.2 (gs x hx).1
 have k3: ∀x∈b.2.2.1,keyOf x∈nL:=λx hx=>Qh (hrk x hx)
 have k4: ∀x∈e,keyOf x∈nL:=λx hx=>Qh (ge x hx).1
 have hp8:=bA b8
 have hp9:=bA b9
 have q8: ∀x∈b.2.2.1,Iy b.1 b.2.1 x.1 x.2.1:=λx hx=>by
  obtain⟨i,hi,e⟩:=gJ hx
  have:=hp8 i hi
  unfold kK at this
  rw[aW,bl hi,nY,e]at this
  exact this
 have q9: ∀x∈b.2.2.2.1,Iz c b.2.1 x.1 x.2.1:=λx hx=>by
  obtain⟨i,hi,e⟩:=gJ hx
  have:=hp9 i hi
  unfold jS at this
  rw[aW,bl hi,nY,e]at this
  exact this
 have n4:decide (dI (iu r') 0)=true:=by
  refine aV ?_
  unfold iu dI
  rw[o2,ak rfl,←wH,Ix _ (py 25 7 1) k3 k4 h2,wH,wH,zero,jq]
  have:=bA b4
  unfold iu dI at this
  rw[hr,ak rfl]at this
  exact this
 have n5:ox s'=true:=by
  unfold ox at b5 ⊢
  obtain⟨f1,_⟩:=dd.1 b5
  rw[o1,eZ]
  refine aV λj hj=> ?_
  have:=bA f1 j hj
  unfold sN dI rB at this ⊢
  rw[hs,ak rfl]at this
  rw[o1,ak rfl,←zp,Ix _ (py 6 25 0) k1 k2 h1,zp,zp,flat,jq]
  exact this
 have n8:decide (∀j,j<r'.length→kK b.1 b.2.1 r' j)=true:=aV λj hj=>by
  obtain⟨g0,g1,_⟩:=(yD h2).2.1 _ (qQ (d:=bb) hj)
  rw[g0]at g1
  exact IA (Q:=Iy b.1 b.2.1) q8 (λx hx=>(ge x hx).2) g1
 have n9:decide (∀j,j<s'.length→jS c b.2.1 s' j)=true:=aV λj hj=>by
  obtain⟨g0,g1,_⟩:=(yD h1).2.1 _ (qQ (d:=bb) hj)
  rw[g0]at g1
  exact IA (Q:=Iz c b.2.1) q9 (λx hx=>(gs x hx).2) g1
 unfold de
 simp only[bP]
 exact⟨b1,b2,o2,n4,n5,b6,b7,n8,n9,b10,b11⟩
end VM
end
section
namespace VM
open Go VM.F
theorem jl{α:Type}{l:List α}{d:α}{i:Nat}(h:i<l.length):l.getD i d=l[i]:=by
 rw[aW,bl h];rfl
theorem iy{α:Type}{d:α}{l:List α}{Q:α→Prop}:(∀j,j<l.length→Q (l.getD j d))↔ ∀x∈l,Q x:=
 ⟨λh x hx=>by
  obtain⟨i,hi,e⟩:=gJ hx
  rw[←e,←jl (d:=d) hi];exact h i hi,λh j hj=>h _ (qQ hj)⟩
theorem pG{α:Type}{d:α}{R:α→α→Prop}(tr: ∀a b c,R a b→R b c→R a c): ∀l:List α,(∀j,j<l.length→0<j→R (l.getD (j-1) d) (l.getD j d))↔l.Pairwise R
 |[]=>⟨λ_=>List.Pairwise.nil,λ_ j hj=>nomatch hj⟩
 |[x]=>⟨λ_=>F9 R x,λ_ j hj h0=>by have:j<1:=hj;omega⟩
 |x::y::t=>by
  rw[eT,←pG tr (y::t)]
  constructor
  ·intro h
   have X2:R x y:=h 1 (by simp) ω
   have ht: ∀j,j<(y::t).length→0<j→R ((y::t).getD (j-1) d) ((y::t).getD j d):=λj hj h0=>by
    have:=h (j+1) (by simpa using hj) ω
    obtain⟨k,rfl⟩: ∃k,j=k+1:=⟨j-1,ω⟩
    exact this
   have hp:=(pG tr (y::t)).1 ht
   refine⟨λz hz=> ?_,ht⟩
   rcases bc.1 hz with rfl|hz
   ·exact X2
   ·exact tr _ _ _ X2 ((eT.1 hp).1 z hz)
  ·rintro⟨h1,h2⟩ j hj h0
   obtain⟨k,rfl⟩: ∃k,j=k+1:=⟨j-1,ω⟩
   cases k with
   |zero=>exact h1 y (bt ..)
   |succ k=>exact h2 (k+1) (by simpa using hj) ω
def aaN(x y:BV):Prop:=lH x.1 y.1
def Qi(x y:cL):Prop:=lH x.1 y.1
def Le(x y:fX):Prop:=lH x.1 y.1
theorem Du{a b c:Int}(h1:lH a b)(h2:lH b c):lH a c:=Int.lt_trans h1 h2
def aaO(a b:Int):Prop:=1≤a∧a≤12∧1≤b∧b≤4
theorem gV{m:aE}:dM m=true↔(∀x∈m,aaO x.1 x.2.1)∧m.Pairwise aaN:=by
 unfold dM
 rw[eZ,fR,←pG (R:=aaN) (d:=c5) (λ_ _ _=>Du),←iy (d:=c5)]
 exact⟨λh=>⟨λj hj=>⟨(h j hj).1,(h j hj).2.1,(h j hj).2.2.1,(h j hj).2.2.2.1⟩,λj hj h0=>(h j hj).2.2.2.2 h0⟩,λh j hj=>⟨(h.1 j hj).1,(h.1 j hj).2.1,(h.1 j hj).2.2.1,(h.1 j hj).2.2.2,λh0=>h.2 j hj h0⟩⟩
def aqT(x y:cL):Prop:=dI x.2.2.1 1∧dI y.2.2.1 1∧dI x.2.1 y.2.1
def Tv(x:cL):Prop:=nq x.1 x.2.1 x.2.2.1 x.2.2.2.1
def ntw(x y:cL):Prop:= ¬aqT x y
theorem qB{a:aO}:gL a=true↔(∀x∈a,Tv x)∧a.Pairwise Qi∧a.Pairwise ntw:=by
 unfold gL
 rw[eZ,fR,←pG (R:=Qi) (d:=ba) (λ_ _ _=>Du),←iy (d:=ba),vB]
 constructor
 ·refine λh=>⟨λj hj=>(h j hj).1,λj hj h0=>(h j hj).2.1 h0,λi j hi hj qI ht=>(h j hj).2.2 ⟨?_,yg.2 ⟨i,qI,?_,?_⟩⟩⟩
  ·rw[jl hj];exact ht.2.1
  ·rw[jl hi];exact ht.1
  ·rw[jl hi,jl hj];exact ht.2.2
 ·rintro⟨h1,h2,h3⟩ j hj
  refine⟨h1 j hj,λh0=>h2 j hj h0,λ⟨ht,ho⟩=> ?_⟩
  obtain⟨i,qI,e1,e2⟩:=yg.1 ho
  rw[jl hj]at ht e2
  rw[jl (show i<a.length by omega)]at e1 e2
  exact h3 i j ω hj qI ⟨e1,ht,e2⟩
theorem lB{l:aY}:dk l=true↔(∀x∈l,rf x)∧l.Pairwise Le∧l.length≤32:=by
 unfold dk
 rw[dd,fR,fR,←pG (R:=Le) (d:=dS) (λ_ _ _=>Du),←iy (d:=dS)]
 exact⟨λh=>⟨λj hj=>(h.1 j hj).1,λj hj h0=>(h.1 j hj).2 h0,h.2⟩,λh=>⟨λj hj=>⟨h.1 j hj,λh0=>h.2.1 j hj h0⟩,h.2.2⟩⟩
def kb(m:aE)(n:Int):Prop:= ∃x∈m,dI x.1 n
def rJ(a:aO)(n:Int):Prop:= ∃x∈a,dI x.1 n
theorem gW{n:Int}: ∀{m:aE},(∀x∈m,aaO x.1 x.2.1)→(¬dI (kJ n m) 0↔kb m n)
 |[],_=>⟨λh=>absurd rfl h,λ⟨_,h,_⟩=>nomatch h⟩
 |x::t,h=>by
  have ih:=gW (n:=n) λy hy=>h y (a8 _ hy)
  have hx:=h x (bt ..)
  rw[wa]
  by_cases e:x.1=n
  ·rw[ak e]
   have g: ∀v:Int,1≤v→ ¬dI v 0:=λv h1 h2=>by unfold dI at h2;omega
   exact⟨λ_=>⟨x,bt ..,e⟩,λ_=>g _ hx.2.2.1⟩
  ·rw[ah e,ih]
   exact⟨λ⟨y,hy,h⟩=>⟨y,a8 _ hy,h⟩,λ⟨y,hy,h'⟩=>(bc.1 hy).elim (λk=>absurd (k▸h') e) λhy=>⟨y,hy,h'⟩⟩
theorem Dv{n:Int}: ∀{a:aO},(vf n a).2=true↔rJ a n
 |[]=>⟨λh=>(nomatch h),λ⟨_,h,_⟩=>nomatch h⟩
 |x::t=>by
  rw[pn]
  by_cases e:x.1=n
  ·rw[ak e]
   exact⟨λ_=>⟨x,bt ..,e⟩,λ_=>rfl⟩
  ·rw[ah e,Dv]
   exact⟨λ⟨y,hy,h⟩=>⟨y,a8 _ hy,h⟩,λ⟨y,hy,h'⟩=>(bc.1 hy).elim (λk=>absurd (k▸h') e) λhy=>⟨y,hy,h'⟩⟩
theorem wI{m:aE}(h:dM m=true)(n:Int): ¬dI (fY m n) 0↔kb m n:=by
 unfold fY;rw[ak h];exact gW (gV.1 h).1
theorem qC{a:aO}(h:gL a=true)(n:Int):(eM a n).2=true↔rJ a n:=by
 unfold eM;rw[ak h];exact Dv
def kp(m:aE)(a:aO)(k n:Int):Prop:=(dI k 5→rJ a n)∧(dI k 6∨dI k 7→kb m n)
def zT(c:ae)(a:aO)(k n:Int):Prop:=(dI k 0∨rJ a k)∧lH n c.1.length
def IB(c:ae)(a:aO)(x:fX):Prop:=rJ a x.2.1∧lH x.2.2.1 c.1.length
theorem MR{m:aE}{a:aO}(hm:dM m=true)(ha:gL a=true){k n:Int}:Iy m a k n↔kp m a k n:=by
 unfold Iy kp;rw[qC ha,wI hm]
theorem MS{c:ae}{a:aO}(ha:gL a=true){k n:Int}:Iz c a k n↔zT c a k n:=by
 unfold Iz zT;rw[qC ha]
structure RB(C:ae)(b:an):Prop where
 c:eL C=true
 m:dM b.1=true
 a:gL b.2.1=true
 ma: ∀x∈b.2.1,kb b.1 x.2.1
 r:fb b.2.2.1=true
 t:dI (iu b.2.2.1) 0
 s:ox b.2.2.2.1=true
 o:dk b.2.2.2.2.2.1=true
 n:dI b.2.2.2.2.1.length C.1.length
 rk: ∀x∈b.2.2.1,kp b.1 b.2.1 x.1 x.2.1
 sk: ∀x∈b.2.2.2.1,zT C b.2.1 x.1 x.2.1
 ok: ∀x∈b.2.2.2.2.2.1,IB C b.2.1 x
 p:fg b.2.2.2.2.1=true
theorem qR{c:ae}{b:an}:de c b=true↔RB c b:=by
 unfold de sM
 simp only[bP,eZ,fR]
 constructor
 ·rintro⟨b1,⟨b2,b2',alG⟩,b3,b4,b5,b6,b7,b8,b9,b10,b11⟩
  refine⟨b1,b2,b2',?_,b3,b4,b5,b6,b7,?_,?_,?_,b11⟩
  ·exact(iy (d:=ba) (Q:=λx=>kb b.1 x.2.1)).1 λj hj=>(gW (gV.1 b2).1).1 (alG j hj)
  ·exact(iy (d:=bb) (Q:=λx=>kp b.1 b.2.1 x.1 x.2.1)).1 λj hj=>(MR b2 b2').1 (b8 j hj)
  ·exact(iy (d:=bb) (Q:=λx=>zT c b.2.1 x.1 x.2.1)).1 λj hj=>(MS b2').1 (b9 j hj)
  ·exact(iy (d:=dS) (Q:=λx=>IB c b.2.1 x)).1 λj hj=>⟨(qC b2' _).1 (b10 j hj).1,(b10 j hj).2⟩
 ·rintro⟨b1,b2,b2',alG,b3,b4,b5,b6,b7,b8,b9,b10,b11⟩
  refine⟨b1,⟨b2,b2',?_⟩,b3,b4,b5,b6,b7,?_,?_,?_,b11⟩
  ·exact λj hj=>(gW (gV.1 b2).1).2 ((iy (d:=ba) (Q:=λx=>kb b.1 x.2.1)).2 alG j hj)
  ·exact λj hj=>(MR b2 b2').2 ((iy (d:=bb) (Q:=λx=>kp b.1 b.2.1 x.1 x.2.1)).2 b8 j hj)
  ·exact λj hj=>(MS b2').2 ((iy (d:=bb) (Q:=λx=>zT c b.2.1 x.1 x.2.1)).2 b9 j hj)
  ·exact λj hj=>let h:=(iy (d:=dS) (Q:=λx=>IB c b.2.1 x)).2 b10 j hj;⟨(qC b2' _).2 h.1,h.2⟩
theorem RB.Xz{c:ae}{b:an}(h:RB c b){m:aE}{a:aO}(hm:dM m=true)(ha:gL a=true)(mm: ∀n,kb b.1 n→kb m n)(aa: ∀n,rJ b.2.1 n→rJ a n)(ma: ∀x∈a,kb m x.2.1):
  RB c (m,(a,b.2.2)):=
 ⟨h.c,hm,ha,ma,h.r,h.t,h.s,h.o,h.n,λx hx=>⟨λe=>aa _ ((h.rk x hx).1 e),λe=>mm _ ((h.rk x hx).2 e)⟩,λx hx=>⟨(h.sk x hx).1.imp id (aa _),(h.sk x hx).2⟩,λx hx=>⟨aa _ (h.ok x hx).1,(h.ok x hx).2⟩,h.p⟩
theorem RB.MT{c:ae}{b:an}(h:RB c b){o:aY}(ho:dk o=true)(hk: ∀x∈o,IB c b.2.1 x):RB c (b.1,(b.2.1,(b.2.2.1,(b.2.2.2.1,(b.2.2.2.2.1,(o,())))))):=
 ⟨h.c,h.m,h.a,h.ma,h.r,h.t,h.s,ho,h.n,h.rk,h.sk,hk,h.p⟩
theorem RB.aqV{c:ae}{b:an}(h:RB c b){s e s' r':au}(h1:eG Fq (fS b.2.2.2.1 s) jW=some s')(h2:eG aF (fS b.2.2.1 e) nL=some r')
  (gs: ∀x∈s,cc x.1 x.2.1∧zT c b.2.1 x.1 x.2.1) (flat: ∀i:Int,(dm i s).sum=0) (ge: ∀x∈e,db x.1 x.2.1∧kp b.1 b.2.1 x.1 x.2.1) (zero:(e.map dT).sum=0):RB c (b.1,(b.2.1,(r',(s',b.2.2.2.2)))):=
 qR.1 (MQ (qR.2 h) h1 h2 (λx hx=>⟨(gs x hx).1,(MS h.a).2 (gs x hx).2⟩) flat (λx hx=>⟨(ge x hx).1,(MR h.m h.a).2 (ge x hx).2⟩) zero)
abbrev RBs(c:ae)(b b':an):Prop:=RB c b'∧b'.1=b.1∧b'.2.1=b.2.1∧b'.2.2.2.2=b.2.2.2.2
theorem RB.dD{c:ae}{b:an}(h:RB c b){s e:au}(gs: ∀x∈s,cc x.1 x.2.1∧zT c b.2.1 x.1 x.2.1)(flat: ∀i:Int,(dm i s).sum=0)
  (ge: ∀x∈e,db x.1 x.2.1∧kp b.1 b.2.1 x.1 x.2.1) (zero:(e.map dT).sum=0) (h0:(VM.dD b s e).2=0):RBs c b (VM.dD b s e).1:=by
 rcases Tt b s e with⟨h1,_⟩|⟨s',r',h1,h2,h3⟩
 ·rw[h1]at h0;exact absurd h0 δ
 ·rw[h3];exact⟨h.aqV h1 h2 gs flat ge zero,rfl,rfl,rfl⟩
theorem XA{l:au}(h:di l=true): ∀x∈l,dT x≠0:=by
 unfold di at h
 rw[eZ]at h
 exact(iy (d:=bb) (Q:=λx=>dT x≠0)).1 λj hj=>((bA h) j hj).2.1
end VM
end
section
namespace VM
open Go VM.F Go.RowKit
theorem aaP{c:ae}{b:an}(hR:RB c b)(a:Int):mj c (posOf b.2.2.2.1 a)=true:=by
 have hk:=(eg (qR.2 hR)).2
 obtain⟨h1,h2⟩:=eU hk
 have e:posOf b.2.2.2.1 a=nu a b.2.2.2.1:=by unfold posOf;rw[ak hk]
 rw[e]
 have hs:(nu a b.2.2.2.1).Pairwise (λx y:BV=>lH x.1 y.1):=uK.1 (Em (a:=a) h1)
 have hc:=(pG (R:=λx y:BV=>lH x.1 y.1) (d:=c5) (λ_ _ _=>Du) _).2 hs
 unfold mj
 refine dd.2 ⟨aV λj hj=> ?_,hR.c⟩
 obtain⟨x,hx,_,e⟩:=nv (qQ (d:=c5) hj)
 have hp:=hc j hj
 unfold oz
 rw[e]at hp ⊢
 exact⟨(h2 x hx).1.2.2.1,(hR.sk x hx).2,XA hk x hx,(h2 x hx).2,λh0=>hp h0⟩
end VM
end
section
namespace VM
open Go VM.F
def gC(inst d:Int):au→au
 |[]=>[]
 |x::t=>if x.2.1=inst∧d≠0 then pA x.1 (dT x*d)::gC inst d t else gC inst d t
theorem qD(inst d:Int)(x:dh)(t:au):gC inst d (x::t)=if x.2.1=inst∧d≠0 then pA x.1 (dT x*d)::gC inst d t else gC inst d t:=rfl
theorem IC(inst d:Int): ∀l:au,(gC inst d l).length≤l.length
 |[]=>aH _
 |x::t=>by
  have:=IC inst d t
  rw[qD]
  split<;>simp only[aT]<;>omega
theorem ID(inst d:Int): ∀l:au,((gC inst d l).map dT).sum=(if d≠0 then(dm inst l).sum*d else 0)
 |[]=>by simp[gC,dm]
 |x::t=>by
  have:=ID inst d t
  rw[qD,dA]
  by_cases hd:d≠0
  ·rw[ak hd]at this ⊢
   by_cases hx:x.2.1=inst
   ·rw[ak ⟨hx,hd⟩,ak hx,bV,cK,cK,gN,this,p9]
   ·rw[ah (λh=>hx h.1),ah hx,this]
  ·rw[ah hd]at this ⊢
   rw[ah (λh=>hd h.2),this]
theorem wJ{inst d:Int}: ∀{l:au} {y:dh},y∈gC inst d l→ ∃x∈l,x.2.1=inst∧y=pA x.1 (dT x*d)
 |[],y,h=>nomatch h
 |x::t,y,h=>by
  rw[qD]at h
  split at h
  ·rename_i hx
   rcases bc.1 h with e|h
   ·exact⟨x,bt ..,hx.1,e⟩
   ·obtain⟨z,h1,h2⟩:=wJ h
    exact⟨z,a8 _ h1,h2⟩
  ·obtain⟨z,h1,h2⟩:=wJ h
   exact⟨z,a8 _ h1,h2⟩
def pY(l:au)(inst oV new:Int):au×Int:=if di l then(if c0 oV then(if c0 new then(gC inst (new-oV) l,0)else([],1))else([],1))else([],1)
theorem Qj(N:Nat){l:au}(hq:eO l)(hl:l.length≤100000)(hN:200000≤N)(inst:Int){oV new:Int}(ho:c0 oV)(hn:c0 new):
  qE.l5 N N inst oV new [] l (l.length:Int) 0=some ((gC inst (new-oV) l).map ig,0):=by
 have hp: -9223372036854775808≤new-oV∧new-oV<9223372036854775808:=by unfold c0 at ho hn;omega
 have:=ll l bb (λn i s=>qE.l5 N n inst oV new (s.map ig) l (l.length:Int) i) (λt s=>some ((s++gC inst (new-oV) t).map ig,(0:Int))) (λi (s:au)=>s.length≤i) (λn i s hi hI hr=> ?_) (λn s hI=> ?_) l.length N 0 [] ω ω ω (aH _)
 ·have e:=this
  rw[cJ,cB]at e
  exact e
 ·unfold qE.l5 qE.dU
  have lq:=wc hq i
  unfold aF dT at lq
  rw[aQ ω,aj,aU ω ω,aj,aG,aw (x:=(i:Int)+1) ω ω,af i,aI,cond_not,aI,qD]
  by_cases hx:(l.getD i bb).2.1=inst
  ·rw[ak hx]
   by_cases hd:new=oV
   ·rw[ak hd,ah (λh=>h.2 ω)]
    exact hr s ω
   ·rw[ah hd,ak ⟨hx,ω⟩,aw (x:=new-oV) hp.1 hp.2,Mc N lq.1 lq.2 hp.1 hp.2,ar,Dh,ar,bH (by rw[cz,aK];omega),aj]
    have h2:=hr (s++[pA (l.getD i bb).1 ((l.getD i bb).2.2.1*(new-oV))]) (by rw[aS,aK];omega)
    rw[dp]at h2
    refine Eq.trans h2 ?_
    rw[bD];rfl
  ·rw[ah hx,ah (λh=>hx h.1)]
   exact hr s ω
 ·unfold qE.l5 qE.dU
  rw[aP ω,av,show gC inst (new-oV) []=[]from rfl,cy]
theorem XB(N:Nat){l:au}(hq:eO l)(hl:l.length≤100000)(hN:200000≤N)(inst oV new:Int):
  qE N l inst oV new=some ((pY l inst oV new).1.map ig,(pY l inst oV new).2):=by
 unfold qE qE.b pY
 rw[yf N hl hN,ar,sT,ar,sT,ar,cond_not,cond_not,cond_not]
 cases di l
 ·rfl
 ·by_cases ho:c0 oV
  ·by_cases hn:c0 new
   ·rw[aV ho,aV hn,ak ho,ak hn]
    exact Qj N hq hl hN inst ho hn
   ·rw[aV ho,bu hn,ak ho,ah hn];rfl
  ·rw[bu ho,ah ho];rfl
theorem MU{x:Int}(h:aF x):Fit x 90000:=(Fit.i64 h.1 h.2).mono ω
theorem Qk(N:Nat){l:au}(hq:eO l)(hl:l.length≤100000)(hN:4000000≤N)(inst:Int){d:Int}(hd:aF d):
  kk.l6 N N l inst [] (cF d) 0=some ((gC inst d l).map ga,0):=by
 have:=ll l bb (λn i s=>kk.l6 N n l inst (s.map ga) (cF d) i) (λt s=>some ((s++gC inst d t).map ga,(0:Int))) (λi (s:au)=>s.length≤i) (λn i s hi hI hr=> ?_) (λn s hI=> ?_) l.length N 0 [] ω ω ω (aH _)
 ·have e:=this
  rw[cJ,cB]at e
  exact e
 ·unfold kk.l6 kk.u7
  have lq:=wc hq i
  have hfq:=MU lq
  have SD:=MU hd
  unfold aF dT at lq
  unfold dT at hfq
  rw[aQ ω,aj,aU ω ω,aj,aG,aw (x:=(i:Int)+1) ω ω,af i,cond_not,aI,qD]
  by_cases hx:(l.getD i bb).2.1=inst
  ·rw[ak hx,pS,ar,aI]
   by_cases h0:d=0
   ·rw[ak (jB.2 h0),ah (λh=>h.2 h0)]
    exact hr s ω
   ·rw[ah (λh=>h0 (jB.1 h)),ak ⟨hx,h0⟩,aj,zi _ (dT (l.getD i bb)*d),ar,aj,da N ω lq.1 lq.2,ar,sJ N hN hfq SD,ar,bH (by rw[cz,aK];omega),aj]
    have h2:=hr (s++[pA (l.getD i bb).1 (dT (l.getD i bb)*d)]) (by rw[aS,aK];omega)
    rw[dp]at h2
    have e1:[pA (l.getD i bb).1 (dT (l.getD i bb)*d)].map ga=[((pA (l.getD i bb).1 (dT (l.getD i bb)*d)).1,((pA (l.getD i bb).1 (dT (l.getD i bb)*d)).2.1,(cF ((l.getD i bb).2.2.1*d),())))]:=by
     rw[bV,gQ];unfold ga;rw[gN];rfl
    rw[e1]at h2
    refine Eq.trans h2 ?_
    rw[bD];rfl
  ·rw[ah hx,ah (λh=>hx h.1)]
   exact hr s ω
 ·unfold kk.l6 kk.u7
  rw[aP ω,av,show gC inst d []=[]from rfl,cy]
theorem XC(N:Nat){l:au}(hq:eO l)(hl:l.length≤100000)(hN:4000000≤N)(inst oV new:Int):
  kk N l inst oV new=some ((pY l inst oV new).1.map ga,(pY l inst oV new).2):=by
 unfold kk kk.b pY
 rw[lT N hl ω,ar,sR,ar,sR,ar,cond_not,cond_not,cond_not]
 cases di l
 ·rfl
 ·by_cases ho:c0 oV
  ·by_cases hn:c0 new
   ·have h1:=ho
    have h2:=hn
    unfold c0 at h1 h2
    rw[aV ho,aV hn,ak ho,ak hn,da N ω ω ω,ar,da N ω ω ω,ar,
     ry N hN ((MU (x:=new) (by unfold aF;omega)).mono ω) ((MU (x:=oV) (by unfold aF;omega)).mono ω),ar]
    exact Qk N hq hl hN inst (by unfold aF;omega)
   ·rw[aV ho,bu hn,ak ho,ah hn];rfl
  ·rw[bu ho,ah ho];rfl
theorem aqX{q x:Int}(h0:0≤x)(h1:x<9223372036854775808):aF (sg q x)∧rA (sg q x):=by
 unfold sg aF rA;split<;>omega
theorem aaQ{t left:Int}{w out:List Int}(f:Full t w w out left)(i:Nat)(hi:i<w.length):0≤out.getD i 0∧out.getD i 0<9223372036854775808:=by
 have c:=f.c
 have h1:=c.le i hi
 have h2:=(c.pc i).2
 have h3:=c.po i
 omega
theorem XD(N:Nat){a q:Int}{accs out:List Int}(hl:accs.length=out.length)(hle:out.length≤1000)(ho: ∀i,i<out.length→0≤out.getD i 0∧out.getD i 0<9223372036854775808)(s:au)(hs:s.length≤1000)(hN:200000≤N):
  gk.Xs N N a q accs out s 0=some (s++zc a q (out.zip accs),0):=by
 have hz:(out.zip accs).length=out.length:=by rw[xu];omega
 have:=ll (out.zip accs) (0,0) (λn i s=>gk.Xs N n a q accs out s i) (λt s=>some (s++zc a q t,(0:Int))) (λi (s:au)=>s.length≤1000+i) (λn i s hi hI hr=> ?_) (λn s hI=> ?_) out.length N 0 s ω ω ω ω
 ·exact this
 ·unfold gk.Xs gk.aaG
  have oe:i<out.length:=ω
  have h2:=ho i oe
  rw[aQ ω,aj,aU ω ω,aj,aG,aU ω ω,aj,aw (x:=(i:Int)+1) ω ω,af i,aw (x:=0-out.getD i 0) ω ω,Z9 oe ω,FT]
  dsimp only
  rw[aj,bH (by rw[aK];omega),aj,bH (by rw[aK];omega),aj]
  have e:sg q (out.getD i 0)=if q<0 then 0-out.getD i 0 else out.getD i 0:=rfl
  rw[bZ,cond_not,cond_not,aI,aI]
  have fin:(if sg q (out.getD i 0)=0 then gk.Xs N n a q accs out s ((i+1:Nat):Int)else gk.Xs N n a q accs out (s++[(accs.getD i 0,(a,(sg q (out.getD i 0),())))]) ((i+1:Nat):Int))=some (s++(if sg q (out.getD i 0)=0 then zc a q ((out.zip accs).drop (i+1))else(accs.getD i 0,(a,(sg q (out.getD i 0),())))::zc a q ((out.zip accs).drop (i+1))),(0:Int)):=by
   by_cases h:sg q (out.getD i 0)=0
   ·rw[ak h,ak h];exact hr s ω
   ·rw[ah h,ah h,hr _ (by rw[aS,aK];omega),bD];rfl
  refine Eq.trans ?_ fin
  by_cases h:q<0
  ·rw[ak h,e,ak h]
  ·rw[ah h,e,ah h]
 ·unfold gk.Xs gk.aaG
  rw[hz,aP ω,av]
  show _=some (s++[],(0:Int))
  rw[cy]
theorem Vd{l:au}(h: ∀x∈l,aF (dT x)∧rA (dT x))(a b:Int):aF (gh l a b)∧rA (gh l a b):=by
 have key: ∀l:au,(∀x∈l,aF (dT x)∧rA (dT x))→aF (iv a b l)∧rA (iv a b l):=by
  intro l
  induction l with
  |nil=>intro _;show aF 0∧rA 0;decide
  |cons x t ih=>
   intro h
   have ih:=ih (λy hy=>h y (a8 _ hy))
   rw[jX]
   split
   ·split
    ·exact h x (bt ..)
    ·exact ih
   ·exact ih
 unfold gh
 split
 ·exact key l h
 ·decide
theorem MV(l:au):(zQ l).length=l.length:=cz ..
theorem Cr(l:au):(jY l).length=l.length:=cz ..
theorem Lf{q:Int}(h:aF q∧rA q):(q.natAbs:Int)<9223372036854775808:=by unfold aF rA at h;omega
theorem MW{l:au}(hk:di l=true)(hq:eO l): ∀x∈l,aF (dT x)∧rA (dT x):=λx hx=>⟨hq x hx,((eU hk).2 x hx).2⟩
theorem Lg{l:au}(hk:di l=true)(hq:eO l){a q:Int}(lq:aF q∧rA q)(hc:(kN l a q).2.2=0):
  Full (q.natAbs:Int) (jY (gz a q l)) (jY (gz a q l)) (kN l a q).1 (kN l a q).2.1∧(kN l a q).1.length=(gz a q l).length∧(kN l a q).1.length≤64∧ ∀i,i<(kN l a q).1.length→0≤(kN l a q).1.getD i 0∧(kN l a q).1.getD i 0<9223372036854775808:=by
 have f:Full (q.natAbs:Int) (jY (gz a q l)) (jY (gz a q l)) (kN l a q).1 (kN l a q).2.1:=Ic (Lf lq) (Dl (MW hk hq) a q) hc
 have h1:=f.c.l2
 have h2:=f.c.n
 rw[Cr]at h1 h2
 exact⟨f,h1,ω,λi hi=>aaQ f i (by rw[Cr];omega)⟩
theorem aaR{l:au}(h:di l=true): ∀x∈l,dT x≠0:=λx hx=>by
 unfold di at h
 rw[eZ]at h
 obtain⟨i,hi,e⟩:=gJ hx
 have:=bA h i hi
 unfold mN nn at this
 rw[aW,bl hi]at this
 simp only[nY,e]at this
 exact this.2.1
theorem aaS{x:Int}(h:aF x∧rA x):mx x (W .i64 (0-x))=(x.natAbs:Int):=by
 unfold aF rA at h
 rw[aw ω ω,aiW];split<;>omega
theorem Ql{x q:Int}(hx:x≠0)(hq:q≠0):JR x q↔ ¬((0<x)↔(0<q)):=by
 unfold JR;omega
theorem aaT(N:Nat)(hN:5000000≤N)(c:ae){b:an}(w:jC b)(a:Int):gk N c b a=some (wD c b a):=by
 unfold gk gk.b wD
 rw[sO N ω w,ar,FR N w.s ω,ar,cond_not,bZ,ct,aI]
 by_cases hB:de c b=false
 ·rw[hB];rfl
 rw[sd]at hB
 rw[hB,aj,ak rfl]
 obtain⟨_,hk⟩:=eg hB
 have hq:=MW hk w.qs
 have hnz:=aaR hk
 have hh:=Vd hq 0 a
 have hlen:=w.s
 have hqs:=w.qs
 generalize gh b.2.2.2.1 0 a=q at*
 by_cases h1:a<0
 ·rw[ak h1,ak h1]
 rw[ah h1,ah h1]
 by_cases h2:(c.1.length:Int)≤a
 ·rw[ak h2,ak h2]
 rw[ah h2,ah h2]
 by_cases h3:q=0
 ·rw[ak h3,ak h3]
 rw[ah h3,ah h3]
 have oT:=hh.1
 unfold aF at oT
 have hqn:q≠ -9223372036854775808:=hh.2
 have:=ll b.2.2.2.1 bb (λn i (z:au)=>gk.Ar N n a b q (zQ z) (jY z) i)
  (λt z=>some (if(kN b.2.2.2.1 a q).2.2=0 then(adu b.2.2.2.1 a q,0)else([],(kN b.2.2.2.1 a q).2.2))) (λi z=>z++gz a q (b.2.2.2.1.drop i)=gz a q b.2.2.2.1∧z.length≤i)
  (λn i z hi hI hr=> ?_) (λn z hI=> ?_) b.2.2.2.1.length N 0 [] ω ω ω ⟨rfl,aH _⟩
 ·exact this
 ·unfold gk.Ar gk.yq
  obtain⟨i1,i2⟩:=hI
  have hm:b.2.2.2.1.getD i bb∈b.2.2.2.1:=by
   rw[aW,bl hi];exact dF hi
  have hx:=hq _ hm
  have hn:=hnz _ hm
  rw[drop_cons hi bb,sX]at i1
  rw[aQ ω,aj,aU ω ω,aj,aG,aw (x:=(i:Int)+1) ω ω,af i]
  generalize b.2.2.2.1.getD i bb=x at*
  have Ns:mx x.2.2.1 (W .i64 (0-x.2.2.1))=(x.2.2.1.natAbs:Int):=aaS hx
  rw[bH (by rw[MV,aK];omega),aj,Ns]
  dsimp only
  rw[bH (by rw[Cr,aK];omega),aj,cond_not,aI,aI,cond_not,om,qH,qH]
  by_cases e1:x.1=0
  ·rw[ak e1]
   rw[ah (λh=>h.1 e1)]at i1
   exact hr z ⟨i1,ω⟩
  ·rw[ah e1]
   by_cases e2:x.2.1=a
   ·rw[ak e2]
    by_cases e3:JR (dT x) q
    ·have eb:(decide (0<x.2.2.1)==decide (0<q))=false:=by
      have e3:=(Ql hn h3).1 e3
      unfold dT at e3
      by_cases g1:0<x.2.2.1<;>by_cases g2:0<q
      ·exact absurd ⟨λ_=>g2,λ_=>g1⟩ e3
      ·rw[aV g1,bu g2];rfl
      ·rw[bu g1,aV g2];rfl
      ·exact absurd ⟨λh=>absurd h g1,λh=>absurd h g2⟩ e3
     rw[eb,av]
     rw[ak ⟨e1,e2,e3⟩]at i1
     have:=hr (z++[x]) ⟨by rw[bD];exact i1,by rw[aS,aK];omega⟩
     unfold zQ jY at this
     rw[dp,dp]at this
     exact this
    ·have eb:(decide (0<x.2.2.1)==decide (0<q))=true:=by
      have e3:=Gi.1 (λh=>e3 ((Ql hn h3).2 h))
      unfold dT at e3
      rw[show decide (0<x.2.2.1)=decide (0<q)from n6.2 e3]
      exact xr _
     rw[eb,aj]
     rw[ah (λh=>e3 h.2.2)]at i1
     exact hr z ⟨i1,ω⟩
   ·rw[ah e2]
    rw[ah (λh=>e2 h.2.1)]at i1
    exact hr z ⟨i1,ω⟩
 ·unfold gk.Ar gk.yq
  obtain⟨i1,i2⟩:=hI
  rw[m1]at i1
  have ez:z=gz a q b.2.2.2.1:=by rw[←i1];exact(cy _).symm
  subst ez
  have q6:=Cr (gz a q b.2.2.2.1)
  have CB:=KZ a q b.2.2.2.1
  rw[aP ω,av,aaS hh,Ib N hN (Lf hh) (Dl hq a q) (Dl hq a q) (by rw[q6];omega),ar,cond_not,aI,aw (x:=0-q) ω ω]
  show(if(kN b.2.2.2.1 a q).2.2=0 then _ else _)=_
  by_cases h4:(kN b.2.2.2.1 a q).2.2=0
  ·rw[ak h4,ak h4]
   obtain⟨f,g1,g2,g3⟩:=Lg hk hqs hh h4
   exact XD N (by rw[MV];omega) ω g3 _ (by simp) ω
  ·rw[ah h4,ah h4];rfl
end VM
end
section
namespace VM
open Go VM.F Go.RowKit
structure zU(s:au)(n:Nat):Prop where
 place: ∀x∈s,cc x.1 x.2.1
 q: ∀x∈s,aF (dT x)∧rA (dT x)
 len:s.length≤n
 flat: ∀i:Int,(dm i s).sum=0
theorem zU.nil(n:Nat):zU [] n:=⟨λx hx=>(nomatch hx),λx hx=>(nomatch hx),bw _,λi=>rfl⟩
theorem zU.app{s t:au}{n m k:Nat}(a:zU s n)(b:zU t m)(h:n+m≤k):zU (s++t) k:=
 ⟨λx hx=>(bn.1 hx).elim (a.place x) (b.place x),λx hx=>(bn.1 hx).elim (a.q x) (b.q x),by rw[aS];have:=a.len;have:=b.len;omega,λi=>by rw[JQ,nZ,a.flat,b.flat];rfl⟩
theorem Tw(a q i:Int): ∀t:List (Int×Int),(dm i (zc a q t)).sum=if a=i then sg q (t.map (·.1)).sum else 0
 |[]=>by
  show(0:Int)=if a=i then sg q 0 else 0
  unfold sg;split<;>(try split)<;>rfl
 |p::t=>by
  have ih:=Tw a q i t
  have hs:sg q ((p::t).map (·.1)).sum=sg q p.1+sg q (t.map (·.1)).sum:=by
   rw[bV,cK];unfold sg;split<;>omega
  rw[FT,hs]
  by_cases h:sg q p.1=0
  ·rw[ak h,ih,h];split<;>omega
  ·rw[ah h,dA]
   dsimp only
   by_cases e:a=i
   ·rw[ak e,ak e,cK,ih,ak e];rfl
   ·rw[ah e,ah e,ih,ah e]
theorem MX{a q:Int}{x:dh}: ∀{t:List (Int×Int)},x∈zc a q t→ ∃p∈t,x=(p.2,(a,(sg q p.1,())))
 |[],h=>nomatch h
 |p::t,h=>by
  rw[FT]at h
  split at h
  ·obtain⟨p',hp,e⟩:=MX h
   exact⟨p',a8 _ hp,e⟩
  ·rcases bc.1 h with e|h
   ·exact⟨p,bt ..,e⟩
   ·obtain⟨p',hp,e⟩:=MX h
    exact⟨p',a8 _ hp,e⟩
theorem aaU(a q:Int): ∀t:List (Int×Int),(zc a q t).length≤t.length
 |[]=>aH _
 |p::t=>by
  have:=aaU a q t
  rw[FT,aT]
  split
  ·omega
  ·rw[aT];omega
theorem EF{c:ae}{b:an}(h:de c b=true):ox b.2.2.2.1=true∧eL c=true:=by
 unfold de at h
 have h0:=dd.1 h
 have h1:=(dd.1 h0.2).2
 have h2:=dd.1 h1
 exact⟨(dd.1 (dd.1 h2.2).2).1,h0.1⟩
theorem aaV{c:ae}{b:an}(hB:de c b=true)(w:jC b){a:Int}(h:(wD c b a).2=0):zU (wD c b a).1 65:=by
 obtain⟨_,hk⟩:=eg hB
 obtain⟨hf,CB⟩:=EF hB
 have hq:=MW hk w.qs
 have hh:=Vd hq 0 a
 obtain⟨hs,Jc⟩:=eU hk
 unfold wD at h ⊢
 rw[ak hB]at h ⊢
 by_cases h1:a<0
 ·rw[ak h1];exact zU.nil _
 rw[ah h1]at h ⊢
 by_cases h2:(c.1.length:Int)≤a
 ·rw[ak h2];exact zU.nil _
 rw[ah h2]at h ⊢
 by_cases h3:gh b.2.2.2.1 0 a=0
 ·rw[ak h3];exact zU.nil _
 rw[ah h3]at h ⊢
 by_cases h4:(kN b.2.2.2.1 a (gh b.2.2.2.1 0 a)).2.2=0
 ·rw[ak h4]
  have alH:iv 0 a b.2.2.2.1=gh b.2.2.2.1 0 a:=by unfold gh;rw[hk];rfl
  have hn6:a<6:=by
   unfold eL at CB
   have:=(bA (dd.1 CB).1).2
   omega
  have hz:(dm a b.2.2.2.1).sum=0:=by
   unfold ox at hf
   have Uy:=bA (dd.1 hf).1 a.toNat (by unfold ky;omega)
   unfold sN dI rB at Uy
   rw[hk,ak rfl,show((a.toNat:Nat):Int)=a by omega]at Uy
   exact Uy
  generalize gh b.2.2.2.1 0 a=q at*
  obtain⟨f,g1,g2,g3⟩:=Lg hk w.qs hh h4
  have aqY:=Z8 f (Td hs hz alH h3)
  have JO:=f.c.s
  rw[aqY,jq]at JO
  have hzl:((kN b.2.2.2.1 a q).1.zip (zQ (gz a q b.2.2.2.1))).map (·.1)=(kN b.2.2.2.1 a q).1:=List.map_fst_zip (by rw[MV];omega)
  have hsg:sg q (q.natAbs:Int)=q:=by unfold sg;split<;>omega
  have hzz: ∀x∈zc a q ((kN b.2.2.2.1 a q).1.zip (zQ (gz a q b.2.2.2.1))),cc x.1 x.2.1∧aF (dT x)∧rA (dT x):=λx hx=>by
   obtain⟨p,hp,rfl⟩:=MX hx
   obtain⟨i,hi,e⟩:=gJ hp
   rw[xu]at hi
   have e':=Z9 (out:=(kN b.2.2.2.1 a q).1) (accs:=zQ (gz a q b.2.2.2.1)) (i:=i) ω ω
   rw[aW,bl (by rw[xu];omega)]at e'
   have ep:p=_:=e.symm.trans e'
   have hr:=g3 i ω
   rw[ep]
   refine⟨?_,aqX hr.1 hr.2⟩
   have hm:(zQ (gz a q b.2.2.2.1)).getD i 0∈zQ (gz a q b.2.2.2.1):=by
    rw[aW,bl ω];exact dF _
   obtain⟨y,hy,ey⟩:=cV.1 hm
   have Ul:=vn hy
   have hpy:=(Jc y Ul.1).1
   have g: ∀u v z:Int,cc u v→v=a→u=z→cc z a:=λu v z h e1 e2=>by rw[←e1,←e2];exact h
   exact g _ _ _ hpy Ul.2.2 ey
  refine⟨λx hx=> ?_,λx hx=> ?_,?_,λi=> ?_⟩
  ·rcases bc.1 hx with e|hx
   ·rw[e];show cc 0 a;unfold cc;omega
   ·exact(hzz x hx).1
  ·rcases bc.1 hx with e|hx
   ·rw[e];exact alk hh
   ·exact(hzz x hx).2
  ·unfold adu
   rw[aT]
   have:=aaU a q ((kN b.2.2.2.1 a q).1.zip (zQ (gz a q b.2.2.2.1)))
   rw[xu]at this
   omega
  ·unfold adu
   rw[dA]
   dsimp only
   by_cases e:a=i
   ·rw[ak e,cK,Tw,ak e,hzl,JO,hsg]
    show 0-q+q=0
    omega
   ·rw[ah e,Tw,ah e]
 ·rw[ah h4]at h
  exact absurd h h4
namespace Pure
end Pure
end VM
end
